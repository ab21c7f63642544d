/- What functions of the program compute, proved by walks over their code, and the plain mathematics of it; a part of the proof in the last text. -/
import Derived.Test.YteohomnhncjcnaaGreatP05
set_option linter.unusedVariables false
set_option linter.unusedSimpArgs false
set_option maxRecDepth 100000
set_option maxHeartbeats 4000000
namespace Go.Proofs.YteohomnhncjcnaaGreat
section
open Go Go.RowKit
def Zm (M:List (List Qi)) (b:List Qi) (n i:Nat):List (List Qi):=tab n fun j=>if j < i then Fk M [b] j else dF M j
theorem a06 {M:List (List Qi)} {b:List Qi} {n:Nat} (h:M.length = n):M = Zm M b n 0:=by
 have:Zm M b n 0 = tab n (dF M):=cE fun j _=>by rw [if_neg zo]
 rw [this]; exact Cf (h:=h)
theorem a5s {M:List (List Qi)} {b:List Qi} {n:Nat}:Zm M b n n = iJ M [b] n:=cE fun j hj=>by rw [if_pos hj]
theorem Ex {M:List (List Qi)} {b:List Qi} {n i:Nat}:(Zm M b n i).length = n:=aN _ _
theorem a3d {M:List (List Qi)} {b:List Qi} {n i:Nat} (h:i < n):(bP QT (Zm M b n i))[i]? = some ((dF M i).map QT):=by
 rw [bP,List.getElem?_map,Zm,cH h,if_neg zo]; rfl
theorem a2y {M:List (List Qi)} {b:List Qi} {n i:Nat} (h:i < n):(Zm M b n i).set i (Fk M [b] i) = Zm M b n (i + 1):=by
 apply List.ext_getElem?
 intro j
 by_cases hj:j < n
 ·by_cases e : j = i
  ·subst e
   rw [List.getElem?_set_self (by rw [Ex]; exact hj),Zm,cH hj,if_pos zo]
  ·rw [List.getElem?_set_ne (Ne.symm e), Zm, Zm, cH hj, cH hj]
   by_cases e2:j < i
   ·rw [if_pos e2,if_pos zo]
   ·rw [if_neg e2,if_neg zo]
 ·rw [List.getElem?_eq_none (by rw [List.length_set,Ex]; omega),List.getElem?_eq_none (by rw [Ex]; omega)]
theorem a62 {M A:List (List Qi)} {b:List Qi} {n:Nat} (h:pP (iJ M [b] n) n = some A):(tab n fun i=>QT (gm A i n / gm A i i)) = (gjL M b n).map QT:=by rw [gjL,gjX,h,Option.map_some,Option.getD_some,xW]
theorem a60 {M A:List (List Qi)} {b:List Qi} {n:Nat} (h:pP (iJ M [b] n) n = some A):gjE M b n = 0:=by rw [gjE,gjX,h]; rfl
theorem a61 {M:List (List Qi)} {b:List Qi} {n:Nat} (h:pP (iJ M [b] n) n = none):gjL M b n = []:=by rw [gjL,gjX,h]; rfl
theorem a5Z {M:List (List Qi)} {b:List Qi} {n:Nat} (h:pP (iJ M [b] n) n = none):gjE M b n = 6:=by rw [gjE,gjX,h]; rfl
theorem Xh {M:List (List Qi)} {b:List Qi} {n G:Nat} (hM:cI M n n) (hb:b.length = n) (hz:SzJ M b n G) (h1:1 ≤ n) (hn:n ≤ 32):bE Tryz.prog 201 [QM M,tJ b] (eS [tJ (gjL M b n),aT .i64 (gjE M b n)]):=by
 have hMl:=hM.1
 obtain ⟨CM,hC⟩:∃ CM,CM = iJ M [b] n:=⟨_,rfl⟩
 have hs:cI CM n (n + 1):=by rw [hC]; exact kC hM
 have hg:=hz.g
 have hG1:=hz.g1
 have hs1:=hs.1
 refine bE.intro Tryz.func201 rfl Tryz.ntmps201 rfl (fun cx=>(ts (ro rfl (cX cW) (ro rfl (cX (cV 0)) (eZ (cU (ts (rm rfl (ro rfl (cJ Tryz.call238 (Xi hM h1 hn) ⟨(Ht rfl),trivial⟩) (ro rfl (dR (Ht rfl)) (rm rfl (fX rfl rfl (eU rfl rfl (Ht rfl) (fun h=>cZ (Ht rfl))) (fX rfl rfl (eU rfl rfl (Ht rfl) (fun h=>dK U_35 (fV rfl h) aA)) (fX rfl rfl (eU rfl rfl (Ht rfl) (fun h=>cZ (Ht rfl))) (fX rfl rfl (eU rfl rfl (Ht rfl) (fun h=>dK U_36 (fV rfl h) aA)) ?_)))))))))))))))
 refine fX rfl rfl (eU rfl rfl (Ht rfl) (fun h=>fB (fV rfl h) (fV rfl h))) (ro rfl (gN (Ht rfl) (fun h=>(fV rfl h))) (eZ (iA (Ht rfl) (by simp [hMl,hb]) ?_)))
 refine cY (ts (rm rfl (ro rfl (dK U_36 (Ht rfl) (by rw [List.length_map,hMl])) ?_)))
 refine ra rfl (eZ (ts (rm rfl (hJ Tryz.call172 (a0t hM zo h1 zo) ⟨(Ht rfl),trivial⟩ rfl (fun B30 _=>(ra rfl (eZ (cU (ts (ro rfl (cX (cV 0)) (eZ (eK ?_))))))))))))
 refine bS (fun (i : Nat) => i ≤ n) (fun (i : Nat) => n - i) (fun (i : Nat) => [(0, QM M), (1, tJ b), (6, NT .i64 n), (7, Is (.slice (some ⟨B30, 0, none⟩) n n)), (8, NT .i64 i)]) (fun (i : Nat) => [oF B30 35 131 5 (bP QT (Zm M b n i))]) 0 (Nat.zero_le _)
  (zS rfl) (aU (bF (congrArg _ (a06 hMl))) aY) (fun i hi=>?_)
 refine cU (ts (rm rfl (rm rfl (ro rfl (gZ (Ht rfl) (Ht rfl)) (eZ (dX (Ht rfl) (fun hd0=>?_) (fun hd0=>?_)))))))
 ·have hdn : i < n := by simp only [decide_eq_true_eq] at hd0; omega
  have hrl:(dF M i).length = n:=hM.row hdn
  have hrl2:(M.getD i []).length = n:=hrl
  refine nF 0 (i) rfl (a3d hdn) (fun v0=>(cY (cU (eK (Y.D_startA (m:=12) [] 11 1 rfl rfl (cQ (Ei:=[(7,_)]) rfl rfl (bQ (bJ rfl rfl) bX) rfl rfl (dZ rfl (cZ (Ht rfl))) (cQ (Ei:=[(8,_)]) rfl rfl (bQ (bJ rfl rfl) bX) rfl rfl (dZ rfl (cZ (Ht rfl))) (cQ (Ei:=[(7,_)]) rfl rfl (bQ (bJ rfl rfl) bX) rfl rfl (dZ rfl (cZ (Ht rfl))) (cQ (Ei:=[(8,_)]) rfl rfl (bQ (bJ rfl rfl) bX) rfl rfl (dZ rfl (cZ (Ht rfl))) ?_)))))))))
  refine cQ (Ei:=[(38,_),(39,_)]) rfl rfl (bQ (bZ 2 rfl rfl) (bQ (bZ 3 rfl rfl) bX)) rfl rfl (dZ rfl (gQ U_36 Z_35 (Ht rfl) (Ht rfl) rfl zo (by rw [Nat.mul_one,Nat.zero_add]))) ?_
  refine cQ (Ei:=[(40,_)]) rfl rfl (bQ (bZ 4 rfl rfl) bX) rfl rfl (dZ rfl (gI A_35 Z_35 (Ht rfl) (j:=0) rfl)) (cQ (Ei:=[(1,_)]) rfl rfl (bQ (bJ rfl rfl) bX) rfl rfl (dZ rfl (cZ (Ht rfl))) (cQ (Ei:=[(8,_)]) rfl rfl (bQ (bJ rfl rfl) bX) rfl rfl (dZ rfl (cZ (Ht rfl))) (cQ (Ei:=[(42,_),(43,_)]) rfl rfl (bQ (bZ 6 rfl rfl) (bQ (bZ 7 rfl rfl) bX)) rfl rfl (dZ rfl (dJ U_35 Z_131 (Ht rfl) (Ht rfl) rfl (eQ (dY (d:=Qi.zero) zo)))) ?_)))
  refine cQ (Ei:=[(44,_)]) rfl rfl (bQ (bZ 8 rfl rfl) bX) rfl rfl (dZ rfl (dV A_131 Z_131 (Ht rfl))) (cQ (Ei:=[(45,_)]) rfl rfl (bQ (bZ 9 rfl rfl) bX) rfl rfl (dZ rfl (dB (xs:=[.tmp 45]) U_35 Z_131 O_131 (cG (Ht rfl) cK) rfl rfl rfl)) (Y.D_app (Ei:=[(41,_),(46,_)]) rfl rfl rfl rfl (bQ (bZ 5 rfl rfl) (bQ (bZ 10 rfl rfl) bX)) rfl (qW (inf:=Tryz.t131) Hh uW rfl rfl rfl (Ht rfl) (Ht rfl) (by simp) (fun T hT=>by simp at hT; subst hT; exact El.ag rfl) (by show _ * 88 ≤ _; simp only [List.length_map,List.length_append,List.length_take,List.length_cons,List.length_nil]; omega) (by simp only [List.length_map,List.length_append,List.length_take,List.length_cons,List.length_nil]; omega)) ?_))
  refine Y.D_done aL rfl (by kernel_rfl) rfl (by simp [Y.okP]) rfl rfl (bU (bU (bU (bU (bU (bU (bU (bU (bU (bU (bU (Y.F_app (fun v2=>Y.F_nil ?_)))))))))))))
  refine ro rfl (gQ U_36 Z_35 (Ht rfl) (Ht rfl) rfl zo (by rw [Nat.mul_one,Nat.zero_add])) ?_
  refine sP Z_35 (Ht rfl) (Ht rfl) (by simp only [bP,List.length_map,Ex]; omega) (j:=0) (l:=2) rfl rfl rfl ?_
  refine eZ (bC (bR [0,2] rfl (by decide) (dL 0 1 rfl rfl (by decide) (by simp only [bP,List.length_map,Ex]; omega) ?_)))
  refine dQ (rm rfl (ro rfl (dW (Ht rfl) (cV 1) z6) (ra rfl (eZ (bR [0] rfl (by decide) (fY (i + 1) hdn zo (zS rfl) (aU (bF (by rw [rA QT _ (gv b i),eE]; exact congrArg _ (a2y hdn))) aY)))))))
 ·have hin : i = n := by simp only [decide_eq_false_iff_not] at hd0; omega
  subst hin
  rw [a5s,← hC]
  refine gW rfl (Jy 0 rfl (fun vs hvs=>?_))
  have hvs2:Hds vs i:=by have h:=hvs; rw [bP,List.length_map,hs1] at h; exact h
  refine cU (ts (ro rfl (cX (cV 0)) (eZ (eK ?_))))
  refine jF (fun (c : Nat) (vs : List Value) (A : List (List Qi)) => c ≤ i ∧ pP CM c = some A ∧ Hds vs i) (fun (c : Nat) (vs : List Value) (A : List (List Qi)) => i - c) (fun (c : Nat) (vs : List Value) (A : List (List Qi)) => [(6, NT .i64 i), (7, Is (.slice (some ⟨B30, 0, none⟩) i i)), (9, NT .i64 c)]) (fun (c : Nat) (vs : List Value) (A : List (List Qi)) => [kM B30 35 131 5 vs vs (bP QT A)]) 0 vs CM ⟨Nat.zero_le _, rfl, hvs2⟩
   (zS rfl) (dE.refl _) (fun c vs A ⟨hc,hA,hvs⟩=>?_)
  refine cU (ts (rm rfl (rm rfl (ro rfl (gZ (Ht rfl) (Ht rfl)) (eZ (dX (Ht rfl) (fun hcn=>?_) (fun hcn=>?_)))))))
  ·simp only [decide_eq_true_eq] at hcn
   have hcn:c < i:=by omega
   have hvl:=hvs.len
   have hgj:=yY hs (Nat.le_succ i) hc hA
   have hAs:cI A i (i + 1):=hgj.sh
   have hAf:bA A G:=hz.st c A hc (by rw [← hC]; exact hA)
   have hAl:=hAs.1
   refine cY (cU (eK (ts (rm rfl (ra rfl (eZ (cU (eK ?_))))))))
   refine bS (fun (p : Nat) => (c ≤ p ∧ p ≤ i) ∧ ∀ r, c ≤ r → r < p → gm A r c = Qi.zero) (fun (p : Nat) => i - p) (fun (p : Nat) => [(6, NT .i64 i), (7, Is (.slice (some ⟨B30, 0, none⟩) i i)), (9, NT .i64 c), (10, NT .i64 p)]) (fun (p : Nat) => [kM B30 35 131 5 vs vs (bP QT A)]) c ⟨⟨Nat.le_refl _, hc⟩, fun r h1 h2 => by omega⟩
    (zS rfl) (dE.refl _) (fun p ⟨⟨hcp,hpn⟩,hz⟩=>?_)
   refine cU (ts (rm rfl (rm rfl (ro rfl (gZ (Ht rfl) (Ht rfl)) (rm rfl (fX rfl rfl (eU rfl rfl (Ht rfl) (fun h=>cZ (Ht rfl))) (fX rfl rfl (eU rfl rfl (Ht rfl) (fun h=>cZ (Ht rfl))) (fX rfl rfl (eU rfl rfl (Ht rfl) (fun h=>gQ U_36 Z_35 (fV rfl h) (fV rfl h) rfl (by first | omega | (simp at h; omega)) (by rw [Nat.mul_one,Nat.zero_add]))) ?_))))))))
   refine fX rfl rfl (eU rfl rfl (Ht rfl) (fun h=>iC A_35 Z_35 (fV rfl h) (j:=0) rfl (by simp at h; omega))) ?_
   refine fX rfl rfl (eU rfl rfl (Ht rfl) (fun h=>cZ (Ht rfl))) (fX rfl rfl (eU rfl rfl (Ht rfl) (fun h=>kK U_35 Z_131 (fV rfl h) (fV rfl h) rfl (j:=0) rfl zo (by simp at h; omega) (by simp at h; rw [hAs.row h]; omega))) ?_)
   refine fX rfl rfl (eU rfl rfl (Ht rfl) (fun h=>nP A_131 Z_131 (fV rfl h) (j:=0) rfl zo (by simp at h; omega) (by simp at h; rw [hAs.row h]; omega))) ?_
   refine fX rfl rfl (eU rfl rfl (Ht rfl) (fun h=>cJ Tryz.call166 (Ud (x:=gm A p c)) ⟨(fV rfl h),trivial⟩)) (ro rfl (fC (Ht rfl) (fun h=>(fV rfl h))) (eZ (dX (Ht rfl) (fun he=>?_) (fun he=>?_))))
   ·have he2 : p < i ∧ gm A p c = Qi.zero := by simpa using he
    refine cY (eK (dQ (rm rfl (ro rfl (dW (Ht rfl) (cV 1) z6) (ra rfl (eZ (bC ?_)))))))
    refine fY (p + 1) ⟨⟨by omega, by omega⟩, fun r h1 h2 => by
      by_cases e:r = p
      ·rw [e]; exact he2.2
      ·exact hz r h1 zo⟩ zo (zS rfl) (dE.refl _)
   ·have hpv : pv A c i = p := a56 hcp hpn hz (fun h => by simp at he; exact he h)
    refine gW rfl (cU (ts (rm rfl (rm rfl (ro rfl (cT (Ht rfl) (Ht rfl)) (eZ (dX (Ht rfl) (fun hp=>?_) (fun hp=>?_))))))))
    ·have hp2 : p = i := by simpa using hp
     have hend:pP CM i = none:=a11 hs1 hA (by rw [hpv]; exact hp2) hcn
     rw [hC] at hend
     refine ts (ro rfl (cX cW) (ro rfl (cX (cV 6)) (eZ (bM rfl (fZ (eY rfl) ?_) (fZ (eY rfl) ?_)))))
     ·exact (fun v V k=>by rw [a61 hend]; exact iL v V k)
     ·exact (aS (a5Z hend).symm)
    ·have hp2 : p < i := by simp at hp; omega
     have hpz:=(mO (M:=A) (c:=c) (n:=i) hc).2.2.2 (by rw [hpv]; exact hp2)
     rw [hpv] at hpz
     have hnx:=a3h hs1 hA hpv hp2
     refine cY (cU (Y.D_start (m:=14) [(13,0,kM B30 35 131 5 (vs.set p (hd vs c)) vs (bP QT A))] (Y.D_step (Ei:=[(7,_)]) rfl rfl (bQ (bJ rfl rfl) bX) rfl rfl (by kernel_rfl) (dZ rfl (cZ (Ht rfl))) (Y.D_step (Ei:=[(10,_)]) rfl rfl (bQ (bJ rfl rfl) bX) rfl rfl (by kernel_rfl) (dZ rfl (cZ (Ht rfl))) (cQ (Ei:=[(7,_)]) rfl rfl (bQ (bJ rfl rfl) bX) rfl rfl (dZ rfl (cZ (Ht rfl))) (cQ (Ei:=[(9,_)]) rfl rfl (bQ (bJ rfl rfl) bX) rfl rfl (dZ rfl (cZ (Ht rfl))) ?_))))))
     refine Y.D_step (Ei:=[(7,_)]) rfl rfl (bQ (bJ rfl rfl) bX) rfl rfl (by kernel_rfl) (dZ rfl (cZ (Ht rfl))) (Y.D_step (Ei:=[(9,_)]) rfl rfl (bQ (bJ rfl rfl) bX) rfl rfl (by kernel_rfl) (dZ rfl (cZ (Ht rfl))) (Y.D_step (Ei:=[(77,_),(78,_)]) rfl rfl (bQ (bZ 4 rfl rfl) (bQ (bZ 5 rfl rfl) bX)) rfl rfl (by kernel_rfl) (dZ rfl (gQ U_36 Z_35 (Ht rfl) (Ht rfl) rfl zo (by rw [Nat.mul_one,Nat.zero_add]))) ?_))
     refine Y.D_step (Ei:=[(79,_)]) rfl rfl (bQ (bZ 6 rfl rfl) bX) rfl rfl (by kernel_rfl) (dZ rfl (iC A_35 Z_35 (Ht rfl) (j:=0) rfl zo)) (Y.D_step (Ei:=[(7,_)]) rfl rfl (bQ (bJ rfl rfl) bX) rfl rfl (by kernel_rfl) (dZ rfl (cZ (Ht rfl))) (Y.D_step (Ei:=[(10,_)]) rfl rfl (bQ (bJ rfl rfl) bX) rfl rfl (by kernel_rfl) (dZ rfl (cZ (Ht rfl))) (Y.D_step (Ei:=[(81,_),(82,_)]) rfl rfl (bQ (bZ 8 rfl rfl) (bQ (bZ 9 rfl rfl) bX)) rfl rfl (by kernel_rfl) (dZ rfl (gQ U_36 Z_35 (Ht rfl) (Ht rfl) rfl zo (by rw [Nat.mul_one,Nat.zero_add]))) ?_)))
     refine Y.D_step (Ei:=[(83,_)]) rfl rfl (bQ (bZ 10 rfl rfl) bX) rfl rfl (by kernel_rfl) (dZ rfl (iC A_35 Z_35 (Ht rfl) (j:=0) rfl zo)) (Y.D_step (Ei:=[(73,_),(74,_)]) rfl rfl (bQ (bZ 0 rfl rfl) (bQ (bZ 1 rfl rfl) bX)) rfl rfl (by kernel_rfl) (dZ rfl (gQ U_36 Z_35 (Ht rfl) (Ht rfl) rfl zo (by rw [Nat.mul_one,Nat.zero_add]))) ?_)
     refine Y.D_putI (Ei:=[(85,_),(80,_)]) 0 rfl rfl rfl (bQ (bZ 12 rfl rfl) (bQ (bZ 7 rfl rfl) bX)) (.head _) rfl (Qm Z_35 (Ht rfl) (Ht rfl) (hvs.pl c zo) (i:=p) (hs:=vs) zo) (Y.D_done aL rfl (by kernel_rfl) rfl (by simp [Y.okP]) rfl rfl (bU (bU (bU (bU (bU (bU (bU (bU (bU (bU (bU (bU (bU (Y.F_putI (Y.F_nil ?_))))))))))))))))
     refine ro rfl (gQ U_36 Z_35 (Ht rfl) (Ht rfl) rfl zo (by rw [Nat.mul_one,Nat.zero_add])) ?_
     refine Zw Z_35 (Ht rfl) (Ht rfl) (j:=0) rfl (hvs.pl p zo) (by rw [List.length_set]; omega) rfl ?_
     refine eZ (cU (nM 0 rfl (Jb (hs:=swp Gg vs p c) (p:=p) (c:=c) zo zo zo) ?_))
     have hus:=hvs.swp hp2 hcn
     have hDs:cI (swp [] A p c) i (i + 1):=Ay hAs hp2 hcn
     have hDf:bA (swp [] A p c) G:=Ee hAf
     have hDz : gm (swp [] A p c) c c ≠ Qi.zero := by
      show gv (dF (swp [] A p c) c) c ≠ _
      rw [wS zo]; exact hpz
     obtain ⟨us,hus2⟩:∃ us,us = swp Gg vs p c:=⟨_,rfl⟩
     obtain ⟨D,hD⟩:∃ D,D = swp [] A p c:=⟨_,rfl⟩
     rw [← hus2] at hus ⊢
     rw [← hD] at hDs hDf hDz hnx ⊢
     have hul:=hus.len
     have hDl:=hDs.1
     refine dQ (ro rfl (cX (cV 0)) (eZ (eK ?_)))
     refine bS (fun (r : Nat) => r ≤ i) (fun (r : Nat) => i - r) (fun (r : Nat) => [(6, NT .i64 i), (7, Is (.slice (some ⟨B30, 0, none⟩) i i)), (9, NT .i64 c), (11, NT .i64 r)]) (fun (r : Nat) => [kM B30 35 131 5 us us (bP QT (redJ D c r))]) 0 (Nat.zero_le _)
      (zS rfl) (aU (qH (congrArg _ Si)) aY) (fun r hrn=>?_)
     refine cU (ts (rm rfl (rm rfl (ro rfl (gZ (Ht rfl) (Ht rfl)) (eZ (dX (Ht rfl) (fun hr=>?_) (fun hr=>?_)))))))
     ·have hr : r < i := by simp only [decide_eq_true_eq] at hr; omega
      refine cY (cU (eK (ts (rm rfl (rm rfl (ro rfl (fB (Ht rfl) (Ht rfl)) (eZ (dX (Ht rfl) (fun hrc=>?_) (fun hrc=>?_)))))))))
      ·have hrc : r ≠ c := by simpa using hrc
       obtain ⟨X,hX⟩:∃ X,X = redJ D c r:=⟨_,rfl⟩
       have hXr:dF X r = dF D r:=by rw [hX]; exact Dy zo zo
       have hXc:dF X c = dF D c:=by rw [hX]; exact Dy zo zo
       have hXl:X.length = i:=by rw [hX,wH]; exact hDl
       have hXrl:(dF X r).length = i + 1:=by rw [hXr]; exact hDs.row hr
       have hXcl:(dF X c).length = i + 1:=by rw [hXc]; exact hDs.row hcn
       have hXrg:(X.getD r []).length = i + 1:=hXrl
       have hXcg:(X.getD c []).length = i + 1:=hXcl
       have hXfr:cB (dF X r) G:=by rw [hXr]; exact hDf.row r
       have hXfc:cB (dF X c) G:=by rw [hXc]; exact hDf.row c
       haveI g1:aE (gm X r c) G:=hXfr.get hG1 c
       haveI g2:aE (gm X c c) G:=hXfc.get hG1 c
       have hXz:gm X c c ≠ Qi.zero:=by show gv (dF X c) c ≠ _; rw [hXc]; exact hDz
       haveI g3:aE (gm X r c / gm X c c) (G + 3 * G + 2):=⟨g1.fit.div g2.fit hXz⟩
       have hend:=Zf (D:=D) (r:=r) (c:=c) zo hrc zo
       rw [← hX] at hend ⊢
       rw [hXrl] at hend
       have hrU:r < us.length:=by rw [hul]; exact hr
       have hcU:c < us.length:=by rw [hul]; exact hcn
       have hXU:us.length = X.length:=by rw [hul,hXl]
       have hrX:r < X.length:=by rw [hXl]; exact hr
       have hcX:c < X.length:=by rw [hXl]; exact hcn
       have hcr:c < (X.getD r []).length:=by rw [hXrg]; exact Nat.lt_succ_of_lt hcn
       have hcc:c < (X.getD c []).length:=by rw [hXcg]; exact Nat.lt_succ_of_lt hcn
       clear hXrg hXcg hXr hXc
       refine cU (Y.D_start (m:=20) [] (cQ (Ei:=[(7,_)]) rfl rfl (bQ (bJ rfl rfl) bX) rfl rfl (dZ rfl (cZ (Ht rfl))) (cQ (Ei:=[(11,_)]) rfl rfl (bQ (bJ rfl rfl) bX) rfl rfl (dZ rfl (cZ (Ht rfl))) (cQ (Ei:=[(96,_),(97,_)]) rfl rfl (bQ (bZ 0 rfl rfl) (bQ (bZ 1 rfl rfl) bX)) rfl rfl (dZ rfl (gQ U_36 Z_35 (Ht rfl) (Ht rfl) rfl zo (by rw [Nat.mul_one,Nat.zero_add]))) ?_))))
       refine cQ (Ei:=[(98,_)]) rfl rfl (bQ (bZ 2 rfl rfl) bX) rfl rfl (dZ rfl (iC A_35 Z_35 (Ht rfl) (j:=0) rfl hrU)) (cQ (Ei:=[(9,_)]) rfl rfl (bQ (bJ rfl rfl) bX) rfl rfl (dZ rfl (cZ (Ht rfl))) (cQ (Ei:=[(99,_),(100,_)]) rfl rfl (bQ (bZ 3 rfl rfl) (bQ (bZ 4 rfl rfl) bX)) rfl rfl (dZ rfl (kK U_35 Z_131 (Ht rfl) (Ht rfl) rfl (j:=0) rfl hXU hrX hcr)) (cQ (Ei:=[(101,_)]) rfl rfl (bQ (bZ 5 rfl rfl) bX) rfl rfl (dZ rfl (nP A_131 Z_131 (Ht rfl) (j:=0) rfl hXU hrX hcr)) ?_)))
       refine cQ (Ei:=[(7,_)]) rfl rfl (bQ (bJ rfl rfl) bX) rfl rfl (dZ rfl (cZ (Ht rfl))) (cQ (Ei:=[(9,_)]) rfl rfl (bQ (bJ rfl rfl) bX) rfl rfl (dZ rfl (cZ (Ht rfl))) (cQ (Ei:=[(103,_),(104,_)]) rfl rfl (bQ (bZ 7 rfl rfl) (bQ (bZ 8 rfl rfl) bX)) rfl rfl (dZ rfl (gQ U_36 Z_35 (Ht rfl) (Ht rfl) rfl zo (by rw [Nat.mul_one,Nat.zero_add]))) ?_))
       refine cQ (Ei:=[(105,_)]) rfl rfl (bQ (bZ 9 rfl rfl) bX) rfl rfl (dZ rfl (iC A_35 Z_35 (Ht rfl) (j:=0) rfl hcU)) (cQ (Ei:=[(9,_)]) rfl rfl (bQ (bJ rfl rfl) bX) rfl rfl (dZ rfl (cZ (Ht rfl))) (cQ (Ei:=[(106,_),(107,_)]) rfl rfl (bQ (bZ 10 rfl rfl) (bQ (bZ 11 rfl rfl) bX)) rfl rfl (dZ rfl (kK U_35 Z_131 (Ht rfl) (Ht rfl) rfl (j:=0) rfl hXU hcX hcc)) (cQ (Ei:=[(108,_)]) rfl rfl (bQ (bZ 12 rfl rfl) bX) rfl rfl (dZ rfl (nP A_131 Z_131 (Ht rfl) (j:=0) rfl hXU hcX hcc)) ?_)))
       refine cQ (Ei:=[(102,_),(109,_)]) rfl rfl (bQ (bZ 6 rfl rfl) (bQ (bZ 13 rfl rfl) bX)) rfl rfl (dZ rfl (cJ Tryz.call144 (Dg (x:=gm X r c) (y:=gm X c c) (L:=G) (M:=G) zo) ⟨(Ht rfl),(Ht rfl),trivial⟩)) (cQ (Ei:=[(110,_)]) rfl rfl (bQ (bZ 14 rfl rfl) bX) rfl rfl (dZ rfl (cZ (Ht rfl))) (cQ (Ei:=[(95,_)]) rfl rfl (bQ (bZ 15 rfl rfl) bX) rfl rfl (dZ rfl (dU (Ht rfl) rfl)) (cQ (Ei:=[(95,_)]) rfl rfl (bQ (bZ 15 rfl rfl) bX) rfl rfl (dZ rfl (dU (Ht rfl) rfl)) ?_)))
       refine Y.D_newp (Ei:=[]) (fun bb=>box bb 131 [aD (decide ((gm X r c / gm X c c).a < 0)),aH (gm X r c / gm X c c).a.natAbs,aD (decide ((gm X r c / gm X c c).b < 0)),aH (gm X r c / gm X c c).b.natAbs,aH (gm X r c / gm X c c).den]) 19 rfl rfl rfl bX rfl rfl (by kernel_rfl) (eG (Ts:=[Is (.bool false),Is (.slice none 0 0),Is (.bool false),Is (.slice none 0 0),Is (.slice none 0 0)]) O_131 rfl (fun V=>aW zd (aW zd (aW zd (aW zd (aW zd (aG))))))) ?_
       refine Y.D_putN (Ei:=[(111,_)]) 18 rfl rfl rfl rfl rfl rfl (bQ (bZ 16 rfl rfl) bX) (fun bb=>kQ Z_131 (Ht rfl) (Ht rfl) rfl (i:=0) rfl (aK rfl) rfl rfl) (Y.D_done aL rfl (by kernel_rfl) rfl (by simp [Y.okP]) rfl rfl (bU (bU (bU (bU (bU (bU (bU (bU (bU (bU (bU (bU (bU (bU (bU (bU (bU (bU (Y.F_newp (fun B12=>Y.F_putN (Y.F_nil ?_))))))))))))))))))))))
       refine ra rfl (eZ (ts (rm rfl (ra rfl (eZ (eK ?_))))))
       refine bS (fun (k : Nat) => c ≤ k ∧ k ≤ i + 1) (fun (k : Nat) => i + 1 - k) (fun (k : Nat) => [(6, NT .i64 i), (7, Is (.slice (some ⟨B30, 0, none⟩) i i)), (9, NT .i64 c), (11, NT .i64 r), (12, cC B12 0), (14, NT .i64 k)]) (fun (k : Nat) => [kM B30 35 131 5 us us (bP QT (X.set r (jD (dF X r) (dF X c) c k))), box B12 131 [aD (decide ((gm X r c / gm X c c).a < 0)), aH (gm X r c / gm X c c).a.natAbs, aD (decide ((gm X r c / gm X c c).b < 0)), aH (gm X r c / gm X c c).b.natAbs, aH (gm X r c / gm X c c).den]]) c ⟨Nat.le_refl _, by omega⟩
        (zS rfl) (aU (qH (by rw [← Pg,a23 zo])) (aU (aB rfl) aY)) (fun k ⟨hck,hkm⟩=>?_)
       refine cU (ts (rm rfl (rm rfl (ro rfl (Am (Ht rfl) (Ht rfl)) (eZ (dX (Ht rfl) (fun hk=>?_) (fun hk=>?_)))))))
       ·have hk2 : k < i + 1 := by simp only [decide_eq_true_eq] at hk; omega
        obtain ⟨Y,hY⟩:∃ Y,Y = (X.set r (jD (dF X r) (dF X c) c k)):=⟨_,rfl⟩
        have e1:gm Y r k = gv (dF X r) k:=by rw [hY]; exact a5X hrX (by rw [hXrl]; exact hk2)
        have e2:gm Y c k = gv (dF X c) k:=by rw [hY]; exact a5W hrc
        haveI y1:aE (gm Y r k) G:=by rw [e1]; exact hXfr.get hG1 k
        haveI y2:aE (gm Y c k) G:=by rw [e2]; exact hXfc.get hG1 k
        have hst:=Ze (X:=X) (r:=r) (c:=c) (k:=k) hrX hrc (by rw [hXrl]; exact hk2) hck
        have hYU:us.length = Y.length:=by rw [hY,List.length_set]; exact hXU
        have hrY:r < Y.length:=by rw [← hYU]; exact hrU
        have hcY:c < Y.length:=by rw [← hYU]; exact hcU
        have hkr:k < (Y.getD r []).length:=by show k < (dF Y r).length; rw [hY,wO hrX,tD,hXrl]; exact hk2
        have hkc:k < (Y.getD c []).length:=by show k < (dF Y c).length; rw [hY,qU hrc,hXcl]; exact hk2
        rw [← hY] at hst ⊢
        clear hXrl hXcl hXU hrX hcX hcr hcc
        refine cY (cU (eK (fJ (m:=22) (dp 7 rfl (cZ (Ht rfl)) (dp 11 rfl (cZ (Ht rfl)) (cP 119 0 120 1 rfl (gQ U_36 Z_35 (Ht rfl) (Ht rfl) rfl zo (by rw [Nat.mul_one,Nat.zero_add])) ?_))))))
        refine dq 121 2 rfl (iC A_35 Z_35 (Ht rfl) (j:=0) rfl hrU) (dp 14 rfl (cZ (Ht rfl)) (dp 7 rfl (cZ (Ht rfl)) (dp 11 rfl (cZ (Ht rfl)) (cP 124 5 125 6 rfl (gQ U_36 Z_35 (Ht rfl) (Ht rfl) rfl zo (by rw [Nat.mul_one,Nat.zero_add])) ?_))))
        refine dq 126 7 rfl (iC A_35 Z_35 (Ht rfl) (j:=0) rfl hrU) (dp 14 rfl (cZ (Ht rfl)) (cP 127 8 128 9 rfl (kK U_35 Z_131 (Ht rfl) (Ht rfl) rfl (j:=0) rfl hYU hrY hkr) (dq 129 10 rfl (nP A_131 Z_131 (Ht rfl) (j:=0) rfl hYU hrY hkr) (dp 12 rfl (eW A_131 Z_131 (Ht rfl) (i:=1) rfl rfl rfl) (dp 7 rfl (cZ (Ht rfl)) (dp 9 rfl (cZ (Ht rfl)) (cP 132 13 133 14 rfl (gQ U_36 Z_35 (Ht rfl) (Ht rfl) rfl zo (by rw [Nat.mul_one,Nat.zero_add])) ?_)))))))
        refine dq 134 15 rfl (iC A_35 Z_35 (Ht rfl) (j:=0) rfl hcU) (dp 14 rfl (cZ (Ht rfl)) (cP 135 16 136 17 rfl (kK U_35 Z_131 (Ht rfl) (Ht rfl) rfl (j:=0) rfl hYU hcY hkc) (dq 137 18 rfl (nP A_131 Z_131 (Ht rfl) (j:=0) rfl hYU hcY hkc) (cP 131 12 138 19 rfl (cJ K_146 (rC (x:=gm X r c / gm X c c) (y:=gm Y c k) (L:=G + 3 * G + 2) (M:=G) zo) ⟨(Ht rfl),(Ht rfl),trivial⟩) (cP 130 11 139 20 rfl (cJ Tryz.call147 (Kn (x:=gm Y r k) (y:=gm X r c / gm X c c * gm Y c k) (L:=G) (M:=G + 3 * G + 2 + G + 1) zo) ⟨(Ht rfl),(Ht rfl),trivial⟩) ?_)))))
        refine fW aL rfl (by kernel_rfl) (zF (zF (zF (zF (zF (aJ (aJ (aV (ro rfl (kK U_35 Z_131 (Ht rfl) (Ht rfl) rfl (j:=0) rfl hYU hrY hkr) (a4G Z_131 (Ht rfl) (Ht rfl) (j:=0) rfl (El.ag rfl) (F:=QT) (z:=gm Y r k - gm X r c / gm X c c * gm Y c k) hYU hrY hkr rfl (eZ (bC (dQ (rm rfl (ro rfl (dW (Ht rfl) (cV 1) z6) ?_)))))))))))))))
        refine ra rfl (eZ (fY (k + 1) ⟨by omega,hk2⟩ zo (zS rfl) (aU (qH (congrArg _ hst)) (aU (aB rfl) aY))))
       ·have hk3 : k = i + 1 := by simp only [decide_eq_false_iff_not] at hk; omega
        subst hk3
        refine gW rfl (bC (dQ (rm rfl (ro rfl (dW (Ht rfl) (cV 1) z6) (ra rfl (eZ (bR [0] rfl (by decide) (fY (r + 1) hr zo (zS rfl) (aU (qH (congrArg _ hend)) aY)))))))))
      ·have hrc : r = c := by simpa using hrc
       subst hrc
       refine cY (bC (dQ (rm rfl (ro rfl (dW (Ht rfl) (cV 1) z6) (ra rfl (eZ (fY (r + 1) hr zo (zS rfl) (aU (qH (congrArg _ Yu)) aY))))))))
     ·have hri : r = i := by simp only [decide_eq_false_iff_not] at hr; omega
      subst hri
      refine gW rfl (bC (dQ (rm rfl (ro rfl (dW (Ht rfl) (cV 1) z6) (ra rfl (eZ (fY (c + 1,us,redJ D c r) ⟨hcn,hnx,hus⟩ (by dsimp only; omega) (zS rfl) (dE.refl _))))))))
  ·have hci : c = i := by simp only [decide_eq_false_iff_not] at hcn; omega
   subst hci
   have hvl:=hvs.len
   have hgj:=yY hs (Nat.le_succ c) hc hA
   have hAs:cI A c (c + 1):=hgj.sh
   have hAf:bA A G:=hz.st c A hc (by rw [← hC]; exact hA)
   have hAl:=hAs.1
   rw [hC] at hA
   refine gW rfl (ts (rm rfl (rn rfl (mM (T:=ZQ) (i:=Tryz.t131) Hh uW rfl rfl (Ht rfl) rfl a7V (El.ag rfl) (by show 88 * _ ≤ _; omega) zo) fun B143=>(ra rfl (eZ (cU (ts (ro rfl (cX (cV 0)) (eZ (eK ?_))))))))))
   refine bS (fun (j : Nat) => j ≤ c) (fun (j : Nat) => c - j) (fun (j : Nat) => [(6, NT .i64 c), (7, Is (.slice (some ⟨B30, 0, none⟩) c c)), (15, Is B143), (16, NT .i64 j)]) (fun (j : Nat) => [kM B30 35 131 5 vs vs (bP QT A), cL 131 5 B143 (jC (fun j => QT (gm A j c / gm A j j)) ZQ c j)]) 0 (Nat.zero_le _)
    (zS rfl) (aU (fun _ _ _ h=>h) (aU (bO (by rw [← gR]; exact Wi _ _)) aY)) (fun j hj=>?_)
   refine cU (ts (rm rfl (rm rfl (ro rfl (gZ (Ht rfl) (Ht rfl)) (eZ (dX (Ht rfl) (fun hq=>?_) (fun hq=>?_)))))))
   ·have hq : j < c := by simp only [decide_eq_true_eq] at hq; omega
    have hrr:(A.getD j []).length = c + 1:=hAs.row hq
    haveI f1:aE (gm A j c) G:=hAf.get hG1 j c
    haveI f2:aE (gm A j j) G:=hAf.get hG1 j j
    refine cY (cU (eK (Y.D_start (m:=22) [(21,1,cL 131 5 B143 ((jC (fun j=>QT (gm A j c / gm A j j)) ZQ c j).set j (QT (gm A j c / gm A j j))))] (Y.D_step (Ei:=[(15,_)]) rfl rfl (bQ (bJ rfl rfl) bX) rfl rfl (by kernel_rfl) (dZ rfl (cZ (Ht rfl))) (Y.D_step (Ei:=[(16,_)]) rfl rfl (bQ (bJ rfl rfl) bX) rfl rfl (by kernel_rfl) (dZ rfl (cZ (Ht rfl))) (Y.D_step (Ei:=[(7,_)]) rfl rfl (bQ (bJ rfl rfl) bX) rfl rfl (by kernel_rfl) (dZ rfl (cZ (Ht rfl))) (Y.D_step (Ei:=[(16,_)]) rfl rfl (bQ (bJ rfl rfl) bX) rfl rfl (by kernel_rfl) (dZ rfl (cZ (Ht rfl))) ?_)))))))
    refine Y.D_step (Ei:=[(152,_),(153,_)]) rfl rfl (bQ (bZ 2 rfl rfl) (bQ (bZ 3 rfl rfl) bX)) rfl rfl (by kernel_rfl) (dZ rfl (gQ U_36 Z_35 (Ht rfl) (Ht rfl) rfl zo (by rw [Nat.mul_one,Nat.zero_add]))) ?_
    refine Y.D_step (Ei:=[(154,_)]) rfl rfl (bQ (bZ 4 rfl rfl) bX) rfl rfl (by kernel_rfl) (dZ rfl (iC A_35 Z_35 (Ht rfl) (j:=0) rfl zo)) (Y.D_step (Ei:=[(6,_)]) rfl rfl (bQ (bJ rfl rfl) bX) rfl rfl (by kernel_rfl) (dZ rfl (cZ (Ht rfl))) (Y.D_step (Ei:=[(155,_),(156,_)]) rfl rfl (bQ (bZ 5 rfl rfl) (bQ (bZ 6 rfl rfl) bX)) rfl rfl (by kernel_rfl) (dZ rfl (kK U_35 Z_131 (Ht rfl) (Ht rfl) rfl (j:=0) rfl zo zo zo)) ?_))
    refine Y.D_step (Ei:=[(157,_)]) rfl rfl (bQ (bZ 7 rfl rfl) bX) rfl rfl (by kernel_rfl) (dZ rfl (nP A_131 Z_131 (Ht rfl) (j:=0) rfl zo zo zo)) (Y.D_step (Ei:=[(7,_)]) rfl rfl (bQ (bJ rfl rfl) bX) rfl rfl (by kernel_rfl) (dZ rfl (cZ (Ht rfl))) (Y.D_step (Ei:=[(16,_)]) rfl rfl (bQ (bJ rfl rfl) bX) rfl rfl (by kernel_rfl) (dZ rfl (cZ (Ht rfl))) (Y.D_step (Ei:=[(159,_),(160,_)]) rfl rfl (bQ (bZ 9 rfl rfl) (bQ (bZ 10 rfl rfl) bX)) rfl rfl (by kernel_rfl) (dZ rfl (gQ U_36 Z_35 (Ht rfl) (Ht rfl) rfl zo (by rw [Nat.mul_one,Nat.zero_add]))) ?_)))
    refine Y.D_step (Ei:=[(161,_)]) rfl rfl (bQ (bZ 11 rfl rfl) bX) rfl rfl (by kernel_rfl) (dZ rfl (iC A_35 Z_35 (Ht rfl) (j:=0) rfl zo)) (Y.D_step (Ei:=[(16,_)]) rfl rfl (bQ (bJ rfl rfl) bX) rfl rfl (by kernel_rfl) (dZ rfl (cZ (Ht rfl))) (Y.D_step (Ei:=[(162,_),(163,_)]) rfl rfl (bQ (bZ 12 rfl rfl) (bQ (bZ 13 rfl rfl) bX)) rfl rfl (by kernel_rfl) (dZ rfl (kK U_35 Z_131 (Ht rfl) (Ht rfl) rfl (j:=0) rfl zo zo zo)) ?_))
    refine Y.D_step (Ei:=[(164,_)]) rfl rfl (bQ (bZ 14 rfl rfl) bX) rfl rfl (by kernel_rfl) (dZ rfl (nP A_131 Z_131 (Ht rfl) (j:=0) rfl zo zo zo)) (Y.D_step (Ei:=[(158,_),(165,_)]) rfl rfl (bQ (bZ 8 rfl rfl) (bQ (bZ 15 rfl rfl) bX)) rfl rfl (by kernel_rfl) (dZ rfl (cJ Tryz.call144 (Dg (x:=gm A j c) (y:=gm A j j) (L:=G) (M:=G) zo) ⟨(Ht rfl),(Ht rfl),trivial⟩)) (Y.D_step (Ei:=[(166,_)]) rfl rfl (bQ (bZ 16 rfl rfl) bX) rfl rfl (by kernel_rfl) (dZ rfl (cZ (Ht rfl))) ?_))
    refine Y.D_step (Ei:=[(149,_)]) rfl rfl (bQ (bZ 17 rfl rfl) bX) rfl rfl (by kernel_rfl) (dZ rfl (dU (Ht rfl) rfl)) (cQ (Ei:=[(149,_)]) rfl rfl (bQ (bZ 17 rfl rfl) bX) rfl rfl (dZ rfl (dU (Ht rfl) rfl)) (Y.D_step (Ei:=[(150,_),(151,_)]) rfl rfl (bQ (bZ 0 rfl rfl) (bQ (bZ 1 rfl rfl) bX)) rfl rfl (by kernel_rfl) (dZ rfl (cR U_35 Z_131 (Ht rfl) (Ht rfl) rfl (i:=1) rfl (by rw [eD]; omega) rfl)) ?_))
    refine Y.D_putI (Ei:=[(169,_),(167,_)]) 1 rfl rfl rfl (bQ (bZ 20 rfl rfl) (bQ (bZ 18 rfl rfl) bX)) (.head _) rfl (Er Z_131 (Ht rfl) (Ht rfl) (El.ag rfl) (i:=0) rfl rfl (by rw [eD]; omega)) ?_
    refine Y.D_done aL rfl (by kernel_rfl) rfl (by simp [Y.okP]) rfl rfl (bU (bU (bU (bU (bU (bU (bU (bU (bU (bU (bU (bU (bU (bU (bU (bU (bU (bU (bU (bU (bU (Y.F_putI (Y.F_nil ?_)))))))))))))))))))))))
    refine eZ (bC (dQ (rm rfl (ro rfl (dW (Ht rfl) (cV 1) z6) (ra rfl (eZ (fY (j + 1) hq zo (zS rfl) (aU (fun _ _ _ h=>h) (aU (bO (jJ (f:=(fun j=>QT (gm A j c / gm A j j))))) aY)))))))))
   ·have hjc : j = c := by simp only [decide_eq_false_iff_not] at hq; omega
    subst hjc
    rw [jI]
    refine gW rfl (gV (i:=1) (tt:=15) rfl rfl jG (ts (rm rfl (ra rfl (ro rfl (cX (cV 0)) (eZ (bM rfl (fZ (eY rfl) ?_) (fZ (eY rfl) ?_))))))))
    ·exact (kO (a62 hA))
    ·exact (aS (a60 hA).symm)
end
section
open Go Go.RowKit
theorem a2k {z:List Qi} {s:List (List Qi)} {port:Int} {g:Qi} {L:Nat} (hs:bA s L) (hg:aE g L) (hL:1 ≤ L):bA (wU z s port g) (10 * L + 14):=by
 by_cases h:rO z s port g = 0
 ·refine Al fun r hr => ?_
  obtain ⟨i,_,rfl⟩:=fH.1 hr
  refine cB.tab fun j _=>?_
  have hd : Qi.ofInt 1 - gm s (port - 1).toNat (port - 1).toNat * g ≠ Qi.zero := by
   unfold rO at h
   split at h
   ·omega
   ·split at h
    ·omega
    ·split at h
     ·omega
     ·assumption
  haveI f0:=Qc hs hg hL hd
  haveI f1:aE (gm s (mR (port - 1).toNat i) (mR (port - 1).toNat j)) L:=hs.get hL _ _
  haveI f2:aE (gm s (mR (port - 1).toNat i) (port - 1).toNat) L:=hs.get hL _ _
  haveI f3:aE (gm s (port - 1).toNat (mR (port - 1).toNat j)) L:=hs.get hL _ _
  have f4:aE (Mc s (port - 1).toNat (jZ s (port - 1).toNat g) i j) (L + (L + (7 * L + 11 + L + 1) + 1) + 1):=inferInstanceAs (aE (_ + _ * (_ * _)) _)
  exact f4.le zo
 ·rw [wU,dA,if_neg h]; exact bA.nil
end
section
open Go Go.RowKit
theorem Xn {r n:Nat} (hr:r ≤ 1000) (h1:1 ≤ n) (hn:n ≤ 1000):gG Tryz.prog 97 [NT .i64 r,NT .i64 n] [] (Nat) (fun B=>Is (.slice (some ⟨B,0,none⟩) r r)) (fun B=>[jU dT B 29 51 5 (bP aI (mI r n))]) (fun _=>True):=by
 refine gG.intro Tryz.func97 rfl Tryz.ntmps97 rfl (fun cx Z=>(ts (ro rfl (cX cW) (eZ (ts (rm rfl (rn rfl (eM (T:=Is (.slice none 0 0)) (i:=Tryz.t29) V_30 nI rfl rfl (Ht rfl) rfl (fun _=>rfl) trivial (by show 24 * _ ≤ _; omega) zo) fun B8=>(ra rfl (eZ (cU (ts (rm rfl (ro rfl (iD U_30 (Ht rfl)) (ro rfl (cZ (cV 0)) (eZ (eK (nM 1 rfl (uZ dT ⟨none,0,rfl⟩ (e:=51) (s:=5)) ?_)))))))))))))))))
 refine bS (fun (k : Nat) => k ≤ r) (fun (k : Nat) => r - k) (fun (k : Nat) => [(1, NT .i64 n), (5, Is (.slice (some ⟨B8, 0, none⟩) r r)), (10, NT .i64 r), (11, NT .i64 k)]) (fun (k : Nat) => [Z, jU dT B8 29 51 5 (bP aI (jC (fun _ => (tab n fun _ => Qi.zero)) [] r k))]) 0 (Nat.zero_le _)
  (zS rfl) (aU (fun _ _ _ h=>h) (aU (bF (by rw [← gR,lU]; exact mF aI r)) aY)) (fun k hk=>?_)
 refine ts (ro rfl (gZ (Ht rfl) (Ht rfl)) (eZ (cU (dX (Ht rfl) (fun hd=>?_) (fun hd=>?_)))))
 ·simp only [decide_eq_true_eq] at hd
  refine kE 1 (k) rfl (kZ hd) (fun v hv=>(cY (cU (eK (ts (rm rfl (ra rfl (eZ (dQ (rm rfl (rm rfl (ro rfl (cJ K_77 (qD (n:=0) (by decide) (by decide)) ⟨(cV 0),trivial⟩) (ro rfl (cJ K_98 Hu ⟨(Ht rfl),trivial⟩) (ro rfl (dB (xs:=[.tmp 17]) U_29 Z_51 O_51 (cG (Ht rfl) cK) rfl rfl rfl) (rm rfl (hJ Tryz.call191 (Qv (m:=n) h1 hn) ⟨(Ht rfl),(Ht rfl),trivial⟩ rfl (fun B20 _=>?_)))))))))))))))))
  have hB20:=B20.2
  refine ro rfl (gQ U_30 Z_29 (Ht rfl) (Ht rfl) rfl zo (by rw [Nat.mul_one,Nat.zero_add])) ?_
  refine sP Z_29 (Ht rfl) (Ht rfl) (by simp only [bP,List.length_map,eD]; omega) (j:=1) (l:=3) rfl rfl rfl ?_
  refine eZ (bC (dL 1 3 rfl rfl (by decide) (by simp only [bP,List.length_map,eD]; omega) ?_))
  refine dQ (ro rfl (dW (Ht rfl) (cV 1) z6) (rm rfl (eZ (bR [0,1] rfl (by decide) (fY (k + 1) hd zo (zS rfl) (aU (fun _ _ _ h=>h) (aU (bF (by rw [eE,← jJ (f:=fun _=>(tab n fun _=>Qi.zero))])) aY)))))))
 ·simp only [decide_eq_false_iff_not] at hd
  obtain rfl:r = k:=Nat.le_antisymm zo hk
  refine gW rfl (ts (rm rfl (ra rfl (eZ ?_))))
  exact jT B8 trivial [0,1] ⟨⟨_,rfl,fun _ _ _ h=>h⟩,⟨_,rfl,(bF (by rw [jI]; rfl))⟩,trivial⟩ (by decide) (wN rfl (eY rfl))
theorem a0n {z:List Qi} {s c:List (List Qi)} {port:Int} {g t:Qi} {G:Nat} (hG:28 ≤ G) (hGb:G ≤ 1000000) (hz:cB z 2) (hs:bA s 2) (hc:bA c G) (hg:aE g 2) (ht:aE t 2) (hsh:cI s z.length z.length) (hch:cI c z.length z.length) (hl:z.length ≤ 8):bE Tryz.prog 61 [fP z s c,aT .i64 port,aI g,aI t] (eS [fP (ntZ z s port g t) (ntS z s port g t) (ntQ z s c port g t),aT .i64 (Qh z s port g t)]):=by
 haveI:=hg
 haveI:=ht
 haveI f0:=kS
 have hsl:=hsh.1
 refine bE.intro Tryz.func61 rfl Tryz.ntmps61 rfl (fun cx=>(ts (rn rfl (fK (Ht rfl)) fun B4=>(rn rfl (fK (Ht rfl)) fun B6=>(rn rfl (fK (Ht rfl)) fun B7=>(rn rfl (eG (Ts:=[Is (.slice none 0 0),Is (.slice none 0 0),Is (.slice none 0 0)]) O_34 rfl (fun V=>aW zd (aW zd (aW zd (aG))))) fun B8=>(ro rfl (cX (cV 0)) (eZ (cU (ts (ro rfl (eW A_51 Z_51 (Ht rfl) (i:=2) rfl rfl rfl) (ro rfl (cJ Tryz.call159 (Rl zo) ⟨(Ht rfl),trivial⟩) ?_))))))))))))
 refine ro rfl (dR (Ht rfl)) (eZ (dX (Ht rfl) (fun hb=>?_) (fun hb=>?_)))
 ·have hw : lB t ≠ 0 := by simp only [Bool.not_eq_true'] at hb; rw [lB, hb]; decide
  have hw1:lB t = 1:=by simp only [Bool.not_eq_true'] at hb; rw [lB,hb]; rfl
  have he1:Qh z s port g t = 1:=by rw [Qh,if_neg hw,hw1]
  have he:Qh z s port g t ≠ 0:=by rw [he1]; decide
  refine ts (ro rfl (aM.imp (tL ) oW) (gX Z_34 (Ht rfl) (Ht rfl) rfl (i:=3) rfl (aK rfl) rfl rfl (ro rfl (cX (cV 1)) (eZ (bM rfl (fZ (fU A_34 Z_34 rfl (i:=3) rfl rfl) ?_) (fZ (eY rfl) ?_))))))
  ·exact (fun v V h=>by rw [ntZ,ntS,ntQ,dA,dA,dA,if_neg he,if_neg he,if_neg he]; exact h)
  ·exact (aS he1.symm)
 ·have hw : lB t = 0 := by simp only [Bool.not_eq_false'] at hb; rw [lB, hb]; rfl
  have hee:Qh z s port g t = rO z s port g:=by rw [Qh,if_pos hw]
  refine cY (ts (ro rfl (eJ oD (Ht rfl) rfl) (ro rfl (eW A_32 Z_32 (Ht rfl) (i:=0) rfl rfl rfl) (rm rfl (ro rfl (eW A_51 Z_51 (Ht rfl) (i:=1) rfl rfl rfl) (ro rfl (cJ Tryz.call41 (a5E (z:=z) (s:=s) (port:=port) (g:=g) (L:=2) hsh hs hg (by decide) (by decide) zo) ⟨(Ht rfl),(Ht rfl),(Ht rfl),trivial⟩) (rm rfl (ro rfl (dU (Ht rfl) rfl) (ro rfl (dU (Ht rfl) rfl) (rn rfl (eG (Ts:=[Is (.slice none 0 0),Is (.slice none 0 0)]) O_32 rfl (fun V=>aW zd (aW zd (aG)))) fun B10=>?_))))))))))
  refine gX Z_32 (Ht rfl) (Ht rfl) rfl (i:=4) rfl (aK rfl) rfl rfl (ra rfl (eZ (cU (ts (rm rfl (ro rfl (iR (Ht rfl) cW) (eZ (dX (Ht rfl) (fun hd=>?_) (fun hd=>?_)))))))))
  ·have he : Qh z s port g t ≠ 0 := by rw [hee]; simpa using hd
   refine ts (ro rfl (aM.imp (tL ) oW) (rm rfl (gX Z_34 (Ht rfl) (Ht rfl) rfl (i:=3) rfl (aK rfl) rfl rfl (ra rfl (eZ (bM rfl (fZ (fU A_34 Z_34 rfl (i:=3) rfl rfl) ?_) (fZ (eY rfl) ?_)))))))
   ·exact (fun v V h=>by rw [ntZ,ntS,ntQ,dA,dA,dA,if_neg he,if_neg he,if_neg he]; exact h)
   ·exact (aS hee.symm)
  ·have hd0 : rO z s port g = 0 := by simpa using hd
   obtain ⟨hb1,hn1,hD⟩:=Qd hd0
   obtain ⟨p,rfl⟩:∃ p:Nat,port = ((p + 1:Nat):Int):=⟨(port - 1).toNat,by omega⟩
   have hpz:(((p + 1:Nat):Int) - 1).toNat = p:=by omega
   rw [hpz] at hD
   have hpn:p < z.length:=by omega
   have he:Qh z s ((p + 1:Nat):Int) g t = 0:=by rw [hee,hd0]
   have hrz:He z s ((p + 1:Nat):Int) g = yC z p (z.length - 1):=by rw [He,hd0,hpz]; rfl
   have hrs:wU z s ((p + 1:Nat):Int) g = Ch s p (z.length - 1) (jZ s p g):=by rw [wU,hd0,hpz]; rfl
   rw [hrz,hrs]
   have hrf : bE Tryz.prog 23 [iT z s, NT .i64 (p + 1)] (eS [aI (gv z p), aT .i64 0]) := by
    have h:=Tv (z:=z) (s:=s) (i:=((p + 1:Nat):Int)) zo
    rw [show Yp z ((p + 1:Nat):Int) = gv z p from Ls hpn,if_pos zo] at h; exact h
   have hsp:=hsh.row hpn
   haveI f1:aE (gm s p p) 2:=hs.get (by decide) p p
   haveI f2:aE (gv z p) 2:=hz.get (by decide) p
   haveI f3:aE (Qi.ofInt 1 - gm s p p * g) 7:=(fitSub (x:=Qi.ofInt 1) (y:=gm s p p * g))
   refine cY (ts (ro rfl (eJ oD (Ht rfl) rfl) (ro rfl (eW A_32 Z_32 (Ht rfl) (i:=0) rfl rfl rfl) (ro rfl (cJ Tryz.call93 (Ko hsh hl) ⟨(Ht rfl),trivial⟩) (rm rfl (ro rfl (aM.nat (dG (Ht rfl) (cV 1) zo z6) (show p + 1 - 1 = p by omega)) (ro rfl (cJ K_77 (qD (n:=1) (by decide) (by decide)) ⟨(cV 1),trivial⟩) (ro rfl (cJ K_98 Hu ⟨(Ht rfl),trivial⟩) (rn rfl (eG (Ts:=[Is (.bool false),Is (.slice none 0 0),Is (.bool false),Is (.slice none 0 0),Is (.slice none 0 0)]) O_51 rfl (fun V=>aW zd (aW zd (aW zd (aW zd (aW zd (aG))))))) fun B14=>?_)))))))))
   refine ra rfl (ra rfl (gX Z_51 (Ht rfl) (Ht rfl) rfl (i:=5) rfl (aK rfl) rfl rfl (eZ (cU (bR [0,1,2,3,4,5] rfl (by decide) (dQ (ro rfl (eJ oD (Ht rfl) rfl) (ro rfl (eW A_32 Z_32 (Ht rfl) (i:=0) rfl rfl rfl) (rm rfl (ro rfl (cJ Tryz.call23 hrf ⟨(Ht rfl),(Ht rfl),trivial⟩) (rm rfl (ro rfl (dU (Ht rfl) rfl) (ro rfl (dU (Ht rfl) rfl) (rn rfl (eG (Ts:=[Is (.bool false),Is (.slice none 0 0),Is (.bool false),Is (.slice none 0 0),Is (.slice none 0 0)]) O_51 rfl (fun V=>aW zd (aW zd (aW zd (aW zd (aW zd (aG))))))) fun B15=>?_))))))))))))))
   refine gX Z_51 (Ht rfl) (Ht rfl) rfl (i:=6) rfl (aK rfl) rfl rfl (ra rfl (eZ (cU (bR [0,1,2,3,4,5,6] rfl (by decide) (fJ (m:=14) (dp 14 rfl (eW A_51 Z_51 (Ht rfl) (i:=5) rfl rfl rfl) (dq 61 0 rfl (bI cD (Ht rfl)) (dp 12 rfl (cZ (Ht rfl)) (dp 13 rfl (cZ (Ht rfl)) (cP 63 2 64 3 rfl (dJ U_30 Z_29 (Ht rfl) (Ht rfl) rfl (eQ (dY (d:=[]) zo))) (dq 65 4 rfl (dV A_29 Z_29 (Ht rfl)) (dp 13 rfl (cZ (Ht rfl)) (cP 66 5 67 6 rfl (dJ U_29 Z_51 (Ht rfl) (Ht rfl) rfl (eQ (dY (d:=Qi.zero) zo))) ?_)))))))))))))
   refine dq 68 7 rfl (dV A_51 Z_51 (Ht rfl)) (dq 69 8 rfl (bI cD (Ht rfl)) (dp 6 rfl (eW A_51 Z_51 (Ht rfl) (i:=1) rfl rfl rfl) (cP 70 9 71 10 rfl (aP dD K_45 (kF (x:=gm s p p) (y:=g) (L:=2) (M:=2) (by decide)) (Ht rfl) ⟨(Ht rfl),trivial⟩) (cP 62 1 72 11 rfl (aP kJ K_44 (uD (x:=Qi.ofInt 1) (y:=gm s p p * g) (L:=1) (M:=5) (by decide)) (Ht rfl) ⟨(Ht rfl),trivial⟩) (C.D_new (Ei:=[]) rfl rfl rfl bW (eG (Ts:=[Is (.bool false),Is (.slice none 0 0),Is (.bool false),Is (.slice none 0 0),Is (.slice none 0 0)]) O_51 rfl (fun V=>aW zd (aW zd (aW zd (aW zd (aW zd (aG))))))) ?_)))))
   refine fW aL rfl (by kernel_rfl) (zF (zF (zF (aJ (C.F_new (fun B17=>aV (gX Z_51 (Ht rfl) (Ht rfl) rfl (i:=7) rfl (aK rfl) rfl rfl (eZ (cU (bR [0,1,2,3,4,5,6,7] rfl (by decide) (dQ (ro rfl (eW A_51 Z_51 (Ht rfl) (i:=1) rfl rfl rfl) (ro rfl (bI cD (Ht rfl)) (ro rfl (eW A_51 Z_51 (Ht rfl) (i:=7) rfl rfl rfl) (ro rfl (aP nU K_40 (yH (x:=g) (y:=(Qi.ofInt 1 - gm s p p * g)) (L:=2) (M:=7) (by decide)) (Ht rfl) ⟨(Ht rfl),trivial⟩) ?_)))))))))))))))
   refine rm rfl (ro rfl (dU (Ht rfl) rfl) (ro rfl (dU (Ht rfl) rfl) (rn rfl (eG (Ts:=[Is (.bool false),Is (.slice none 0 0),Is (.bool false),Is (.slice none 0 0),Is (.slice none 0 0)]) O_51 rfl (fun V=>aW zd (aW zd (aW zd (aW zd (aW zd (aG))))))) fun B18=>(gX Z_51 (Ht rfl) (Ht rfl) rfl (i:=8) rfl (aK rfl) rfl rfl (ra rfl (eZ (cU (bR [0,1,2,3,4,5,6,7,8] rfl (by decide) (dQ (ro rfl (eW A_51 Z_51 (Ht rfl) (i:=5) rfl rfl rfl) ?_))))))))))
   refine ro rfl (bI cD (Ht rfl)) (ro rfl (eW A_51 Z_51 (Ht rfl) (i:=7) rfl rfl rfl) (ro rfl (aP nU K_40 (yH (x:=Qi.ofInt 1) (y:=(Qi.ofInt 1 - gm s p p * g)) (L:=1) (M:=7) (by decide)) (Ht rfl) ⟨(Ht rfl),trivial⟩) (rm rfl (ro rfl (dU (Ht rfl) rfl) (ro rfl (dU (Ht rfl) rfl) (rn rfl (eG (Ts:=[Is (.bool false),Is (.slice none 0 0),Is (.bool false),Is (.slice none 0 0),Is (.slice none 0 0)]) O_51 rfl (fun V=>aW zd (aW zd (aW zd (aW zd (aW zd (aG))))))) fun B20=>?_))))))
   refine gX Z_51 (Ht rfl) (Ht rfl) rfl (i:=9) rfl (aK rfl) rfl rfl (ra rfl (eZ (cU (bR [0,1,2,3,4,5,6,7,8,9] rfl (by decide) (fJ (m:=16) (dp 7 rfl (eW A_51 Z_51 (Ht rfl) (i:=2) rfl rfl rfl) (dp 15 rfl (eW A_51 Z_51 (Ht rfl) (i:=6) rfl rfl rfl) (cP 88 0 89 1 rfl (cJ K_45 (kF (x:=t) (y:=gv z p) (L:=2) (M:=2) (by decide)) ⟨(Ht rfl),(Ht rfl),trivial⟩) (dq 90 2 rfl (cJ K_98 Hu ⟨(Ht rfl),trivial⟩) (dq 91 3 rfl (bI cD (Ht rfl)) (dp 14 rfl (eW A_51 Z_51 (Ht rfl) (i:=5) rfl rfl rfl) ?_)))))))))))
   refine dq 93 5 rfl (bI cD (Ht rfl)) (dp 6 rfl (eW A_51 Z_51 (Ht rfl) (i:=1) rfl rfl rfl) (dq 95 7 rfl (bI cD (Ht rfl)) (dp 6 rfl (eW A_51 Z_51 (Ht rfl) (i:=1) rfl rfl rfl) (dq 97 9 rfl (bI cD (Ht rfl)) (dq 98 10 rfl (aP oG K_175 Bf (Ht rfl) trivial) (cP 96 8 99 11 rfl (aP dD K_45 (kF (x:=g) (y:=g.conj) (L:=2) (M:=2) (by decide)) (Ht rfl) ⟨(Ht rfl),trivial⟩) (cP 94 6 100 12 rfl (aP kJ K_44 (uD (x:=Qi.ofInt 1) (y:=g * g.conj) (L:=1) (M:=5) (by decide)) (Ht rfl) ⟨(Ht rfl),trivial⟩) ?_)))))))
   refine cP 92 4 101 13 rfl (aP dD K_45 (kF (x:=t * gv z p) (y:=Qi.ofInt 1 - g * g.conj) (L:=5) (M:=7) (by decide)) (Ht rfl) ⟨(Ht rfl),trivial⟩) (C.D_new (Ei:=[]) rfl rfl rfl bW (eG (Ts:=[Is (.bool false),Is (.slice none 0 0),Is (.bool false),Is (.slice none 0 0),Is (.slice none 0 0)]) O_51 rfl (fun V=>aW zd (aW zd (aW zd (aW zd (aW zd (aG))))))) (fW aL rfl (by kernel_rfl) (zF (zF (zF (aJ (aJ (aJ (C.F_new (fun B22=>aV ?_))))))))))
   refine gX Z_51 (Ht rfl) (Ht rfl) rfl (i:=10) rfl (aK rfl) rfl rfl (eZ (ts (ro rfl (cX cW) (eZ (ts (ro rfl (cX cW) (eZ (cU (cU (bR [0,3,4,5,8,9,10] rfl (by decide) (zO 29 1 (zO 51 5 (dQ (rm rfl (ro rfl (dK U_30 (Ht rfl) (by rw [List.length_map,hsl])) ?_)))))))))))))))
   refine ro rfl (cZ (cV 0)) (eZ (eK ?_))
   refine jF (fun (i : Nat) (vA : Value) (vU : Value) => i ≤ z.length) (fun (i : Nat) (vA : Value) (vU : Value) => z.length - i) (fun (i : Nat) (vA : Value) (vU : Value) => [(4, cC B4 0), (8, cC B8 0), (10, cC B10 0), (12, bL s), (13, NT .i64 p), (14, cC B14 0), (18, cC B18 0), (20, cC B20 0), (22, cC B22 0), (23, Is vA), (24, Is vU), (104, NT .i64 z.length), (105, NT .i64 i)]) (fun (i : Nat) (vA : Value) (vU : Value) => [box B4 34 [bB z, bL s, bL c], box B8 34 [Is (.slice none 0 0), Is (.slice none 0 0), Is (.slice none 0 0)], box B10 32 [bB (yC z p (z.length - 1)), bL (Ch s p (z.length - 1) (jZ s p g))], box B14 51 [aD (decide ((Qi.ofInt 1).a < 0)), aH (Qi.ofInt 1).a.natAbs, aD (decide ((Qi.ofInt 1).b < 0)), aH (Qi.ofInt 1).b.natAbs, aH (du (Qi.ofInt 1))], box B18 51 [aD (decide ((g / (Qi.ofInt 1 - gm s p p * g)).a < 0)), aH (g / (Qi.ofInt 1 - gm s p p * g)).a.natAbs, aD (decide ((g / (Qi.ofInt 1 - gm s p p * g)).b < 0)), aH (g / (Qi.ofInt 1 - gm s p p * g)).b.natAbs, aH (du (g / (Qi.ofInt 1 - gm s p p * g)))], box B20 51 [aD (decide ((Qi.ofInt 1 / (Qi.ofInt 1 - gm s p p * g)).a < 0)), aH (Qi.ofInt 1 / (Qi.ofInt 1 - gm s p p * g)).a.natAbs, aD (decide ((Qi.ofInt 1 / (Qi.ofInt 1 - gm s p p * g)).b < 0)), aH (Qi.ofInt 1 / (Qi.ofInt 1 - gm s p p * g)).b.natAbs, aH (du (Qi.ofInt 1 / (Qi.ofInt 1 - gm s p p * g)))], box B22 51 [aD (decide ((t * gv z p * (Qi.ofInt 1 - g * g.conj)).a < 0)), aH (t * gv z p * (Qi.ofInt 1 - g * g.conj)).a.natAbs, aD (decide ((t * gv z p * (Qi.ofInt 1 - g * g.conj)).b < 0)), aH (t * gv z p * (Qi.ofInt 1 - g * g.conj)).b.natAbs, aH (du (t * gv z p * (Qi.ofInt 1 - g * g.conj)))], cL 29 1 vA ((Dc s g p z.length i).map bB), cL 51 5 vU ((Jd s g p i).map aI)]) 0 _ _ (Nat.zero_le _)
    (zS rfl) (aU (aB rfl) (aU (aB rfl) (aU (aB rfl) (aU (aB rfl) (aU (aB rfl) (aU (aB rfl) (aU (aB rfl) (aU (bO rfl) (aU (bO rfl) aY))))))))) (fun i vA vU hi=>?_)
   refine ts (ro rfl (gZ (Ht rfl) (Ht rfl)) (eZ (cU (dX (Ht rfl) (fun hc1=>?_) (fun hc1=>?_)))))
   ·have hin : i < z.length := by simp only [decide_eq_true_eq] at hc1; omega
    have hfl:=Ld [p] i
    have hsi:=hsh.row hin
    refine cY (cU (eK (ts (rm rfl (ra rfl (eZ (cU (ts (rm rfl (rm rfl (ro rfl (cT (Ht rfl) (Ht rfl)) (eZ (dX (Ht rfl) (fun hx=>?_) (fun hx=>?_))))))))))))))
    ·have hip : i = p := by simpa using hx
     have hnx:iQ [p] (i + 1) = iQ [p] i:=by rw [iQ,if_pos (by simp [hip]),List.append_nil]
     refine gW rfl (dQ (ro rfl (dW (Ht rfl) (cV 1) z6) (rm rfl (eZ (fY (i + 1,vA,vU) hin (by dsimp only; omega) (zS rfl) (aU (aB rfl) (aU (aB rfl) (aU (aB rfl) (aU (aB rfl) (aU (aB rfl) (aU (aB rfl) (aU (aB rfl) (aU (bO (by rw [Dc,Dc,hnx])) (aU (bO (by rw [Jd,Jd,hnx])) aY))))))))))))))
    ·have hip : ¬ i = p := by simpa using hx
     have hnx:iQ [p] (i + 1) = iQ [p] i ++ [i]:=by rw [iQ,if_neg (by simp [hip])]
     haveI f4:aE (gm s i p) 2:=hs.get (by decide) i p
     refine cY (ts (rm rfl (ro rfl (dK U_30 (Ht rfl) (by rw [List.length_map,hsl])) ?_)))
     refine hJ Tryz.call97 (Xn (r:=1) (n:=z.length) (by decide) zo zo) ⟨(cV 1),(Ht rfl),trivial⟩ rfl (fun B113 _=>?_)
     refine a2r 9 0 (Ts:=(tab z.length fun _=>Qi.zero).map aI) rfl rfl (fun v0=>(ro rfl (gQ U_30 Z_29 (Ht rfl) (cV 0) rfl (by decide) (by rw [Nat.mul_one,Nat.zero_add])) ?_))
     refine ro rfl (gI A_29 Z_29 (Ht rfl) (j:=9) rfl) (ra rfl (eZ (cU (bR [0,1,2,3,4,5,6,7,8,10] rfl (by decide) (W.D_start (m:=17) (fun b=>cond b ([box B4 34 [bB z,bL s,bL c],box B8 34 [Is (.slice none 0 0),Is (.slice none 0 0),Is (.slice none 0 0)],box B10 32 [bB (yC z p (z.length - 1)),bL (Ch s p (z.length - 1) (jZ s p g))],box B14 51 [aD (decide ((Qi.ofInt 1).a < 0)),aH (Qi.ofInt 1).a.natAbs,aD (decide ((Qi.ofInt 1).b < 0)),aH (Qi.ofInt 1).b.natAbs,aH (du (Qi.ofInt 1))],box B18 51 [aD (decide ((g / (Qi.ofInt 1 - gm s p p * g)).a < 0)),aH (g / (Qi.ofInt 1 - gm s p p * g)).a.natAbs,aD (decide ((g / (Qi.ofInt 1 - gm s p p * g)).b < 0)),aH (g / (Qi.ofInt 1 - gm s p p * g)).b.natAbs,aH (du (g / (Qi.ofInt 1 - gm s p p * g)))],box B20 51 [aD (decide ((Qi.ofInt 1 / (Qi.ofInt 1 - gm s p p * g)).a < 0)),aH (Qi.ofInt 1 / (Qi.ofInt 1 - gm s p p * g)).a.natAbs,aD (decide ((Qi.ofInt 1 / (Qi.ofInt 1 - gm s p p * g)).b < 0)),aH (Qi.ofInt 1 / (Qi.ofInt 1 - gm s p p * g)).b.natAbs,aH (du (Qi.ofInt 1 / (Qi.ofInt 1 - gm s p p * g)))],box B22 51 [aD (decide ((t * gv z p * (Qi.ofInt 1 - g * g.conj)).a < 0)),aH (t * gv z p * (Qi.ofInt 1 - g * g.conj)).a.natAbs,aD (decide ((t * gv z p * (Qi.ofInt 1 - g * g.conj)).b < 0)),aH (t * gv z p * (Qi.ofInt 1 - g * g.conj)).b.natAbs,aH (du (t * gv z p * (Qi.ofInt 1 - g * g.conj)))],cL 29 1 vA ((Dc s g p z.length i).map bB),cL 51 5 vU ((Jd s g p i).map aI),cL 51 5 v0 (((tab z.length fun _=>Qi.zero).map aI).set i (aI (Qi.ofInt 1)))]) _) 16 ?_)))))
     refine W.D_step (Ei:=[(26,_)]) rfl rfl (W.Srcs.cons (W.Src.pre rfl rfl) W.Srcs.nil) rfl (by kernel_rfl) (dZ rfl (cZ (Ht rfl))) (W.D_step (Ei:=[(25,_)]) rfl rfl (W.Srcs.cons (W.Src.pre rfl rfl) W.Srcs.nil) rfl (by kernel_rfl) (dZ rfl (cZ (Ht rfl))) (W.D_pure (Ei:=[(26,_)]) rfl rfl (W.Srcs.cons (W.Src.pre rfl rfl) W.Srcs.nil) rfl (fun _=>dZ rfl (cZ (Ht rfl))) (W.D_pure (Ei:=[(13,_)]) rfl rfl (W.Srcs.cons (W.Src.pre rfl rfl) W.Srcs.nil) rfl (fun _=>dZ rfl (cZ (Ht rfl))) (W.D_step (Ei:=[(14,_)]) rfl rfl (W.Srcs.cons (W.Src.pre rfl rfl) W.Srcs.nil) rfl (by kernel_rfl) (dZ rfl (eW A_51 Z_51 (Ht rfl) (i:=3) rfl rfl rfl)) ?_))))
     refine W.D_step (Ei:=[(12,_)]) rfl rfl (W.Srcs.cons (W.Src.pre rfl rfl) W.Srcs.nil) rfl (by kernel_rfl) (dZ rfl (cZ (Ht rfl))) (W.D_step (Ei:=[(25,_)]) rfl rfl (W.Srcs.cons (W.Src.pre rfl rfl) W.Srcs.nil) rfl (by kernel_rfl) (dZ rfl (cZ (Ht rfl))) (W.D_step (Ei:=[(121,_),(122,_)]) rfl rfl (W.Srcs.cons (W.Src.op 5 rfl rfl) (W.Srcs.cons (W.Src.op 6 rfl rfl) W.Srcs.nil)) rfl (by kernel_rfl) (dZ rfl (dJ U_30 Z_29 (Ht rfl) (Ht rfl) rfl (eQ (dY (d:=[]) zo)))) (W.D_step (Ei:=[(123,_)]) rfl rfl (W.Srcs.cons (W.Src.op 7 rfl rfl) W.Srcs.nil) rfl (by kernel_rfl) (dZ rfl (dV A_29 Z_29 (Ht rfl))) ?_)))
     refine W.D_step (Ei:=[(13,_)]) rfl rfl (W.Srcs.cons (W.Src.pre rfl rfl) W.Srcs.nil) rfl (by kernel_rfl) (dZ rfl (cZ (Ht rfl))) (W.D_step (Ei:=[(124,_),(125,_)]) rfl rfl (W.Srcs.cons (W.Src.op 8 rfl rfl) (W.Srcs.cons (W.Src.op 9 rfl rfl) W.Srcs.nil)) rfl (by kernel_rfl) (dZ rfl (dJ U_29 Z_51 (Ht rfl) (Ht rfl) rfl (eQ (dY (d:=Qi.zero) zo)))) (W.D_step (Ei:=[(126,_)]) rfl rfl (W.Srcs.cons (W.Src.op 10 rfl rfl) W.Srcs.nil) rfl (by kernel_rfl) (dZ rfl (dV A_51 Z_51 (Ht rfl))) (W.D_step (Ei:=[(127,_)]) rfl rfl (W.Srcs.cons (W.Src.op 11 rfl rfl) W.Srcs.nil) rfl (by kernel_rfl) (dZ rfl (bI cD (Ht rfl))) ?_)))
     refine W.D_step (Ei:=[(18,_)]) rfl rfl (W.Srcs.cons (W.Src.pre rfl rfl) W.Srcs.nil) rfl (by kernel_rfl) (dZ rfl (eW A_51 Z_51 (Ht rfl) (i:=4) rfl rfl rfl)) (W.D_step (Ei:=[(128,_),(129,_)]) rfl rfl (W.Srcs.cons (W.Src.op 12 rfl rfl) (W.Srcs.cons (W.Src.op 13 rfl rfl) W.Srcs.nil)) rfl (by kernel_rfl) (dZ rfl (aP dD K_45 (kF (x:=gm s i p) (y:=(g / (Qi.ofInt 1 - gm s p p * g))) (L:=2) (M:=25) (by decide)) (Ht rfl) ⟨(Ht rfl),trivial⟩)) (W.D_step (Ei:=[(116,_),(117,_)]) rfl rfl (W.Srcs.cons (W.Src.op 0 rfl rfl) (W.Srcs.cons (W.Src.op 1 rfl rfl) W.Srcs.nil)) rfl (by kernel_rfl) (dZ rfl (cR U_29 Z_51 (Ht rfl) (Ht rfl) rfl (i:=9) rfl (by rw [List.length_map,aN]; omega) rfl)) ?_))
     refine W.D_put (Ei:=[(131,_),(120,_)]) rfl rfl (W.Srcs.cons (W.Src.op 15 rfl rfl) (W.Srcs.cons (W.Src.op 4 rfl rfl) W.Srcs.nil)) rfl (Er Z_51 (Ht rfl) (Ht rfl) (El.ag rfl) (i:=9) rfl rfl (by rw [List.length_map,aN]; omega)) ?_
     refine W.D_done aL rfl (by kernel_rfl) rfl (W.F_val (W.F_val (W.F_val (W.F_val (W.F_val (W.F_val (W.F_val (W.F_val (W.F_val (W.F_val (W.F_val (W.F_val (W.F_val (W.F_val (W.F_val (W.F_val (W.F_put (W.F_nil (ro rfl (cR U_29 Z_51 (Ht rfl) (Ht rfl) rfl (i:=9) rfl (by rw [List.length_set,List.length_map,aN]; omega) rfl) ?_)))))))))))))))))))
     refine kV Z_51 (Ht rfl) (Ht rfl) (El.ag rfl) (i:=9) rfl rfl (by rw [List.length_set,List.length_map,aN]; omega) rfl ?_
     refine eZ (nM 9 rfl (bO (e:=51) (s:=5) (by rw [eN,eN]; rfl:_ = (Gh s g p z.length i).map aI)) ?_)
     refine gV (i:=9) (tt:=26) rfl rfl jG (Y.D_startA (m:=16) [] 3 7 rfl rfl (cQ (Ei:=[(23,_)]) rfl rfl (bQ (bJ rfl rfl) bX) rfl rfl (dZ rfl (cZ (Ht rfl))) (cQ (Ei:=[(26,_)]) rfl rfl (bQ (bJ rfl rfl) bX) rfl rfl (dZ rfl (cZ (Ht rfl))) (cQ (Ei:=[(134,_)]) rfl rfl (bQ (bZ 1 rfl rfl) bX) rfl rfl (dZ rfl (dB (xs:=[.tmp 134]) U_30 Z_29 O_29 (cG (Ht rfl) cK) rfl rfl rfl)) (Y.D_app (Ei:=[(133,_),(135,_)]) rfl rfl rfl rfl (bQ (bZ 0 rfl rfl) (bQ (bZ 2 rfl rfl) bX)) rfl (qW (inf:=Tryz.t29) Ta nI rfl rfl rfl (Ht rfl) (Ht rfl) (by simp) (fun T hT=>by simp at hT; subst hT; exact El.one) (by show _ * 24 ≤ _; simp only [List.length_map,List.length_append,List.length_cons,List.length_nil,Dc,Jd]; omega) (by simp only [List.length_map,List.length_append,List.length_cons,List.length_nil,Dc,Jd]; omega)) ?_)))))
     refine cQ (Ei:=[(24,_)]) rfl rfl (bQ (bJ rfl rfl) bX) rfl rfl (dZ rfl (cZ (Ht rfl))) (cQ (Ei:=[(12,_)]) rfl rfl (bQ (bJ rfl rfl) bX) rfl rfl (dZ rfl (cZ (Ht rfl))) (cQ (Ei:=[(25,_)]) rfl rfl (bQ (bJ rfl rfl) bX) rfl rfl (dZ rfl (cZ (Ht rfl))) (cQ (Ei:=[(138,_),(139,_)]) rfl rfl (bQ (bZ 5 rfl rfl) (bQ (bZ 6 rfl rfl) bX)) rfl rfl (dZ rfl (dJ U_30 Z_29 (Ht rfl) (Ht rfl) rfl (eQ (dY (d:=[]) zo)))) ?_)))
     refine cQ (Ei:=[(140,_)]) rfl rfl (bQ (bZ 7 rfl rfl) bX) rfl rfl (dZ rfl (dV A_29 Z_29 (Ht rfl))) (cQ (Ei:=[(13,_)]) rfl rfl (bQ (bJ rfl rfl) bX) rfl rfl (dZ rfl (cZ (Ht rfl))) (cQ (Ei:=[(141,_),(142,_)]) rfl rfl (bQ (bZ 8 rfl rfl) (bQ (bZ 9 rfl rfl) bX)) rfl rfl (dZ rfl (dJ U_29 Z_51 (Ht rfl) (Ht rfl) rfl (eQ (dY (d:=Qi.zero) zo)))) (cQ (Ei:=[(143,_)]) rfl rfl (bQ (bZ 10 rfl rfl) bX) rfl rfl (dZ rfl (dV A_51 Z_51 (Ht rfl))) ?_)))
     refine cQ (Ei:=[(144,_)]) rfl rfl (bQ (bZ 11 rfl rfl) bX) rfl rfl (dZ rfl (bI cD (Ht rfl))) (cQ (Ei:=[(20,_)]) rfl rfl (bQ (bJ rfl rfl) bX) rfl rfl (dZ rfl (eW A_51 Z_51 (Ht rfl) (i:=5) rfl rfl rfl)) (cQ (Ei:=[(145,_),(146,_)]) rfl rfl (bQ (bZ 12 rfl rfl) (bQ (bZ 13 rfl rfl) bX)) rfl rfl (dZ rfl (aP dD K_45 (kF (x:=gm s i p) (y:=(Qi.ofInt 1 / (Qi.ofInt 1 - gm s p p * g))) (L:=2) (M:=24) (by decide)) (Ht rfl) ⟨(Ht rfl),trivial⟩)) ?_))
     refine cQ (Ei:=[(147,_)]) rfl rfl (bQ (bZ 14 rfl rfl) bX) rfl rfl (dZ rfl (dB (xs:=[.tmp 147]) U_29 Z_51 O_51 (cG (Ht rfl) cK) rfl rfl rfl)) (Y.D_done aL rfl (by kernel_rfl) rfl (by simp [Y.okP]) rfl rfl (bU (bU (bU (Y.F_app (fun vA2=>bU (bU (bU (bU (bU (bU (bU (bU (bU (bU (bU (bU (Y.F_nil ?_))))))))))))))))))
     refine qX (inf:=Tryz.t51) nR lH rfl rfl rfl (Ht rfl) (Ht rfl) (i:=8) rfl (by simp) (fun T hT=>by simp at hT; subst hT; exact El.ag rfl) (by show _ * 88 ≤ _; simp only [List.length_map,List.length_append,List.length_cons,List.length_nil,Dc,Jd]; omega) (by simp only [List.length_map,List.length_append,List.length_cons,List.length_nil,Dc,Jd]; omega) rfl (fun vU2=>?_)
     refine ra rfl (ra rfl (eZ (bC (dQ (ro rfl (dW (Ht rfl) (cV 1) z6) (rm rfl (eZ (bR [0,1,2,3,4,5,6,10,8] rfl (by decide) (fY (i + 1,vA2,vU2) hin (by dsimp only; omega) (zS rfl) (aU (aB rfl) (aU (aB rfl) (aU (aB rfl) (aU (aB rfl) (aU (aB rfl) (aU (aB rfl) (aU (aB rfl) (aU (bO (by rw [Dc,Dc,hnx,List.map_append,List.map_append]; rfl)) (aU (bO (by rw [Jd,Jd,hnx,List.map_append,List.map_append]; rfl)) aY))))))))))))))))))
   ·have hin : i = z.length := by simp only [decide_eq_false_iff_not] at hc1; omega
    rw [hin]
    refine gW rfl (gV (i:=7) (tt:=23) rfl rfl jG (gV (i:=8) (tt:=24) rfl rfl jG ?_))
    have hA:=Vr s g hpn
    have hAl:=hA.1
    have hAf:=a3M (p:=p) (n:=z.length) (k:=z.length) hs hg
    have hUf:=a3O (p:=p) (k:=z.length) hs hg
    have hUl:(Jd s g p z.length).length = z.length - 1:=by rw [Jd,List.length_map,Ah hpn]
    have hXf:=uL (hAf.le hG) hc zo (by rw [hch.1]; exact hl)
    have hX:cI (iZ (Dc s g p z.length z.length) c) (z.length - 1) (z.length - 1):=by have h:=mA (p:=Dc s g p z.length z.length) (c:=c); rw [hAl] at h; exact h
    obtain ⟨m,hm⟩:∃ m,m = z.length - 1:=⟨_,rfl⟩
    rw [← hm] at hA hAl hUl hX
    obtain ⟨X,hXd⟩:∃ X,X = iZ (Dc s g p z.length z.length) c:=⟨_,rfl⟩
    obtain ⟨U,hUd⟩:∃ U,U = Jd s g p z.length:=⟨_,rfl⟩
    have hcar : gG Tryz.prog 99 [bL (Dc s g p z.length z.length), bL c] [] Nat (fun B => Is (.slice (some ⟨B, 0, none⟩) m m)) (fun B => [oF B 29 51 5 (bP aI X)]) (fun _ => True) := by
     rw [hXd]
     exact Qy (p:=Dc s g p z.length z.length) (c:=c) (n:=m) (m:=z.length) (L:=G) hA hch (hAf.le hG) hc zo zo zo zo zo hl
    rw [← hXd] at hXf hX
    rw [← hUd] at hUf hUl
    rw [← hUd]
    haveI fr:aE (t * gv z p * (Qi.ofInt 1 - g * g.conj)) 13:=a3N (p:=p) hz hg ht
    refine ts (rm rfl (ro rfl (eJ nH (Ht rfl) rfl) (ro rfl (fQ A_30 Z_30 (Ht rfl) (i:=0) rfl rfl) (hJ Tryz.call99 hcar ⟨(Ht rfl),(Ht rfl),trivial⟩ rfl (fun B154 _=>(ra rfl (eZ (cU (ts (rm rfl (ro rfl (iD U_30 (Ht rfl)) (ro rfl (cZ (cV 0)) (eZ (eK (bR [1,2,6,9] rfl (by decide) ?_)))))))))))))))
    refine bS (fun (i : Nat) => i ≤ m) (fun (i : Nat) => m - i) (fun (i : Nat) => [(8, cC B8 0), (10, cC B10 0), (22, cC B22 0), (24, bB U), (27, Is (.slice (some ⟨B154, 0, none⟩) m m)), (155, Is (.slice (some ⟨B154, 0, none⟩) m m)), (156, NT .i64 m), (157, NT .i64 i)]) (fun (i : Nat) => [box B8 34 [Is (.slice none 0 0), Is (.slice none 0 0), Is (.slice none 0 0)], box B10 32 [bB (yC z p (z.length - 1)), bL (Ch s p (z.length - 1) (jZ s p g))], box B22 51 [aD (decide ((t * gv z p * (Qi.ofInt 1 - g * g.conj)).a < 0)), aH (t * gv z p * (Qi.ofInt 1 - g * g.conj)).a.natAbs, aD (decide ((t * gv z p * (Qi.ofInt 1 - g * g.conj)).b < 0)), aH (t * gv z p * (Qi.ofInt 1 - g * g.conj)).b.natAbs, aH (du (t * gv z p * (Qi.ofInt 1 - g * g.conj)))], oF B154 29 51 5 (bP aI (pR (fun i => tab m fun k => (gm X i k + (t * gv z p * (Qi.ofInt 1 - g * g.conj)) * (gv U i * (gv U k).conj))) (fun i => tab m fun k => gm X i k) m i))]) 0 (Nat.zero_le _)
     (zS rfl) (aU (aB rfl) (aU (aB rfl) (aU (aB rfl) (aU (bF (by rw [← lT]; exact congrArg _ (sB hX))) aY)))) (fun i hi=>?_)
    refine ts (ro rfl (gZ (Ht rfl) (Ht rfl)) (eZ (cU (dX (Ht rfl) (fun he2=>?_) (fun he2=>?_)))))
    ·simp only [decide_eq_true_eq] at he2
     refine nF 3 (i) rfl (sX he2) (fun v=>(cY (cU (eK (ts (rm rfl (ro rfl (gQ U_30 Z_29 (Ht rfl) (Ht rfl) rfl zo (by rw [Nat.mul_one,Nat.zero_add])) ?_)))))))
     refine ro rfl (gI A_29 Z_29 (Ht rfl) (j:=3) rfl) (ra rfl (ra rfl (eZ (ts (rm rfl (ro rfl (sF U_29 (Ht rfl) (i:=4) rfl (show (((tab m fun k=>gm X i k).map aI).length:Int) = ((m:Nat):Int) by rw [List.length_map,aN])) (ro rfl (cZ (cV 0)) (eZ (eK ?_)))))))))
     refine bS (fun (j : Nat) => j ≤ m) (fun (j : Nat) => m - j) (fun (j : Nat) => [(8, cC B8 0), (10, cC B10 0), (22, cC B22 0), (24, bB U), (27, Is (.slice (some ⟨B154, 0, none⟩) m m)), (28, NT .i64 i), (29, Is v), (155, Is (.slice (some ⟨B154, 0, none⟩) m m)), (156, NT .i64 m), (157, NT .i64 i), (163, NT .i64 m), (164, NT .i64 j)]) (fun (j : Nat) => [box B8 34 [Is (.slice none 0 0), Is (.slice none 0 0), Is (.slice none 0 0)], box B10 32 [bB (yC z p (z.length - 1)), bL (Ch s p (z.length - 1) (jZ s p g))], box B22 51 [aD (decide ((t * gv z p * (Qi.ofInt 1 - g * g.conj)).a < 0)), aH (t * gv z p * (Qi.ofInt 1 - g * g.conj)).a.natAbs, aD (decide ((t * gv z p * (Qi.ofInt 1 - g * g.conj)).b < 0)), aH (t * gv z p * (Qi.ofInt 1 - g * g.conj)).b.natAbs, aH (du (t * gv z p * (Qi.ofInt 1 - g * g.conj)))], Hw B154 29 51 5 (bP aI (pR (fun i => tab m fun k => (gm X i k + (t * gv z p * (Qi.ofInt 1 - g * g.conj)) * (gv U i * (gv U k).conj))) (fun i => tab m fun k => gm X i k) m i)) i v, cL 51 5 v ((pR (fun k => (gm X i k + (t * gv z p * (Qi.ofInt 1 - g * g.conj)) * (gv U i * (gv U k).conj))) (fun k => gm X i k) m j).map aI)]) 0 (Nat.zero_le _)
      (zS rfl) (aU (aB rfl) (aU (aB rfl) (aU (aB rfl) (aU (fun _ _ _ h=>h) (aU (bO (by rw [← lT])) aY))))) (fun j hj=>?_)
     refine ts (ro rfl (gZ (Ht rfl) (Ht rfl)) (eZ (cU (dX (Ht rfl) (fun hf=>?_) (fun hf=>?_)))))
     ·simp only [decide_eq_true_eq] at hf
      have hrl:=lA (fun k=>(gm X i k + (t * gv z p * (Qi.ofInt 1 - g * g.conj)) * (gv U i * (gv U k).conj))) (fun k=>gm X i k) m j
      haveI q1:aE (gm X i j) (200 * G + 300):=hXf.get zo i j
      haveI q2:aE (gv U i) 27:=hUf.get (by decide) i
      haveI q3:aE (gv U j) 27:=hUf.get (by decide) j
      refine cY (cU (eK (ts (rm rfl (ra rfl (eZ (fJ (m:=23) (dp 29 rfl (cZ (Ht rfl)) (dp 30 rfl (cZ (Ht rfl)) (dp 29 rfl (cZ (Ht rfl)) (dp 30 rfl (cZ (Ht rfl)) (cP 169 2 170 3 rfl (cR U_29 Z_51 (Ht rfl) (Ht rfl) rfl (i:=4) rfl (by simp only [List.length_map,hrl]; omega) rfl) ?_))))))))))))
      refine dq 171 4 rfl (oX A_51 Z_51 (Ht rfl) (i:=4) rfl rfl (eQ (tA hf))) (dq 172 5 rfl (bI cD (Ht rfl)) (dp 22 rfl (eW A_51 Z_51 (Ht rfl) (i:=2) rfl rfl rfl) (dq 174 7 rfl (bI cD (Ht rfl)) (dp 24 rfl (cZ (Ht rfl)) (dp 28 rfl (cZ (Ht rfl)) (cP 176 9 177 10 rfl (dJ U_29 Z_51 (Ht rfl) (Ht rfl) rfl (eQ (dY (d:=Qi.zero) zo))) (dq 178 11 rfl (dV A_51 Z_51 (Ht rfl)) (dq 179 12 rfl (bI cD (Ht rfl)) (dp 24 rfl (cZ (Ht rfl)) ?_)))))))))
      refine dp 30 rfl (cZ (Ht rfl)) (cP 181 14 182 15 rfl (dJ U_29 Z_51 (Ht rfl) (Ht rfl) rfl (eQ (dY (d:=Qi.zero) zo))) (dq 183 16 rfl (dV A_51 Z_51 (Ht rfl)) (dq 184 17 rfl (bI cD (Ht rfl)) (dq 185 18 rfl (aP oG K_175 Bf (Ht rfl) trivial) (cP 180 13 186 19 rfl (aP dD K_45 (kF (x:=gv U i) (y:=(gv U j).conj) (L:=27) (M:=27) (by decide)) (Ht rfl) ⟨(Ht rfl),trivial⟩) (cP 175 8 187 20 rfl (aP dD K_45 (kF (x:=(t * gv z p * (Qi.ofInt 1 - g * g.conj))) (y:=gv U i * (gv U j).conj) (L:=13) (M:=55) (by decide)) (Ht rfl) ⟨(Ht rfl),trivial⟩) ?_))))))
      refine cP 173 6 188 21 rfl (aP pQ K_46 (Ck (x:=gm X i j) (y:=(t * gv z p * (Qi.ofInt 1 - g * g.conj)) * (gv U i * (gv U j).conj)) (L:=200 * G + 300) (M:=69) zo) (Ht rfl) ⟨(Ht rfl),trivial⟩) (fW aL rfl (by kernel_rfl) (zF (zF (zF (zF (zF (aJ (aJ (aJ (aV (ro rfl (cR U_29 Z_51 (Ht rfl) (Ht rfl) rfl (i:=4) rfl (by simp only [List.length_map,hrl]; omega) rfl) ?_)))))))))))
      refine kV Z_51 (Ht rfl) (Ht rfl) (El.ag rfl) (i:=4) rfl rfl (by simp only [List.length_map,hrl]; omega) rfl ?_
      refine eZ (bC (dQ (ro rfl (dW (Ht rfl) (cV 1) z6) (rm rfl (eZ (bR [0,1,2,3,4] rfl (by decide) (fY (j + 1) hf zo (zS rfl) (aU (aB rfl) (aU (aB rfl) (aU (aB rfl) (aU (fun _ _ _ h=>h) (aU (bO (by rw [eN,← mE (f:=fun k=>(gm X i k + (t * gv z p * (Qi.ofInt 1 - g * g.conj)) * (gv U i * (gv U k).conj)))])) aY))))))))))))
     ·simp only [decide_eq_false_iff_not] at hf
      obtain rfl:j = m:=Nat.le_antisymm hj zo
      refine gW rfl (bC (dL 3 4 rfl rfl (by decide) (by simp only [bP,List.length_map,lA]; omega) ?_))
      refine dQ (ro rfl (dW (Ht rfl) (cV 1) z6) (rm rfl (eZ (bR [0,1,2,3] rfl (by decide) (fY (i + 1) he2 zo (zS rfl) (aU (aB rfl) (aU (aB rfl) (aU (aB rfl) (aU (bF (by rw [eE,nA,← mE (f:=(fun i=>tab j fun k=>(gm X i k + (t * gv z p * (Qi.ofInt 1 - g * g.conj)) * (gv U i * (gv U k).conj))))])) aY)))))))))
    ·simp only [decide_eq_false_iff_not] at he2
     have him:i = m:=Nat.le_antisymm hi zo
     rw [him,nA]
     refine gW rfl (cU (gV (i:=3) (tt:=27) rfl rfl (fL (s:=5) (M:=tab m (fun i=>tab m fun k=>(gm X i k + (t * gv z p * (Qi.ofInt 1 - g * g.conj)) * (gv U i * (gv U k).conj)))) (aN _ _).symm) ?_))
     have hQ:tab m (fun i=>tab m fun k=>(gm X i k + (t * gv z p * (Qi.ofInt 1 - g * g.conj)) * (gv U i * (gv U k).conj))) = ntC z s c g t p:=by rw [hUd,hXd,hm]; rfl
     rw [hQ]
     refine dQ (ro rfl (eW A_32 Z_32 (Ht rfl) (i:=1) rfl rfl rfl) (rm rfl (ro rfl (oQ (Ht rfl) (Ht rfl)) (gX Z_34 (Ht rfl) (Ht rfl) rfl (i:=0) rfl (aK rfl) rfl rfl (ro rfl (cX (cV 0)) (eZ (bM rfl (fZ (fU A_34 Z_34 rfl (i:=0) rfl rfl) ?_) (fZ (eY rfl) ?_))))))))
     ·exact (fun v V h=>by rw [ntZ,ntS,ntQ,dA,dA,dA,if_pos he,if_pos he,if_pos he,hpz]; exact h)
     ·exact (aS he.symm)
end
section
open Go Go.RowKit
theorem a6L {M:List (List Qi)} {b:List Qi} {n:Nat} (h:cI M n n):∀ v V,(eS [tJ (gjL M b n),aT .i64 (gjE M b n)]).p v V → (eS [tJ (dA (jX M b n) (jY M b n)),aT .i64 (jX M b n)]).p v V:=by
 rw [a3g h,(a2a h).1]; exact fun _ _ k=>k
theorem a22 {l:List Qi} {k:Nat} {z:Qi} (h:k < l.length):((l.set k z).map QT)[k]? = some (QT z):=by rw [List.getElem?_map,List.getElem?_set_self h]; rfl
theorem a2S {M:List (List Qi)} {n G:Nat} (hM:cI M n n) (hz:∀ i,i < n → SzJ M (ek n i) n G) (hn:n ≤ 32):bE Tryz.prog 262 [QM M] (eS [QM (dA (oM M n) (nN M n)),aT .i64 (oM M n)]):=by
 have hMl:=hM.1
 refine bE.intro Tryz.func262 rfl Tryz.ntmps262 rfl (fun cx=>(ts (ro rfl (cX cW) (ro rfl (cX (cV 0)) (eZ (cU (ts (rm rfl (ro rfl (cJ Tryz.call238 (Fe hM hn) ⟨(Ht rfl),trivial⟩) (ro rfl (dR (Ht rfl)) (eZ (iA (Ht rfl) (by rfl) ?_))))))))))))
 refine cY (ts (rm rfl (ro rfl (dK U_36 (Ht rfl) (by rw [List.length_map,hMl])) ?_)))
 refine ra rfl (eZ (ts (rm rfl (rm rfl (hJ K_129 (rB (n:=n) (m:=n) zo zo) ⟨(Ht rfl),(Ht rfl),trivial⟩ rfl (fun B18 _=>(ra rfl (eZ (ts (rm rfl (ro rfl (cJ Tryz.call199 ((a5N (n:=n) hn).fun fun B _ v S V h1 h2=>fL (s:=5) (M:=tS n) (pI n).1.symm v S V h1 h2) ⟨(Ht rfl),trivial⟩) (ra rfl (eZ (cU (ts (ro rfl (cX (cV 0)) (eZ (eK ?_))))))))))))))))))
 refine bS (fun (k : Nat) => k ≤ n ∧ ∀ i, i < k → jX M (ek n i) n = 0) (fun (k : Nat) => n - k) (fun (k : Nat) => [(0, QM M), (4, NT .i64 n), (5, Is (.slice (some ⟨B18, 0, none⟩) n n)), (6, QM (tS n)), (7, NT .i64 k)]) (fun (k : Nat) => [jU dT B18 35 131 5 (bP QT (oC (Oc M n) n n k 0))]) 0 ⟨Nat.zero_le _, fun i h => by omega⟩
  (zS rfl) (aU (bF (by rw [mI,← xD]; rfl)) aY) (fun k ⟨hk,h0⟩=>?_)
 refine cU (ts (rm rfl (rm rfl (ro rfl (gZ (Ht rfl) (Ht rfl)) (eZ (dX (Ht rfl) (fun hd=>?_) (fun hd=>?_)))))))
 ·have hkn : k < n := by simp only [decide_eq_true_eq] at hd; omega
  have hel:=a0R hkn
  refine cY (cU (eK (ts (rm rfl (rm rfl (rm rfl (ro rfl (dJ U_36 Z_35 (Ht rfl) (Ht rfl) rfl (eQ (dY (d:=[]) (by rw [(pI n).1]; exact hkn)))) ?_)))))))
  refine ro rfl (dV A_35 Z_35 (Ht rfl)) (ro rfl (cJ Tryz.call201 (eX (Xh (M:=M) (b:=ek n k) (n:=n) (G:=G) hM hel (hz k hkn) zo hn) (a6L hM)) ⟨(Ht rfl),(Ht rfl),trivial⟩) (rm rfl (ro rfl (dU (Ht rfl) rfl) (ro rfl (dU (Ht rfl) rfl) (ra rfl (ra rfl (eZ (cU (ts (rm rfl (ro rfl (iR (Ht rfl) cW) (eZ (dX (Ht rfl) (fun he=>?_) (fun he=>?_))))))))))))))
  ·have he2 : ¬ jX M (ek n k) n = 0 := by simpa using he
   have hi:=Uz h0 hkn he2
   refine ts (rm rfl (ro rfl (cX cW) (ra rfl (eZ (bM rfl (fZ (eY rfl) ?_) (fZ (eY rfl) ?_))))))
   ·exact (fun v V h=>by rw [hi,dA,if_neg he2]; exact iL v V h)
   ·exact (aS hi.symm)
  ·have he2 : jX M (ek n k) n = 0 := by simpa using he
   have hxl:=Gw M (ek n k) n
   refine qC (E':=[(0,_),(4,_),(5,_),(6,_),(7,_),(8,_)]) (aQ rfl (aQ rfl (aQ rfl (aQ rfl (aQ rfl (aZ rfl (kO (Us:=(jY M (ek n k) n).map QT) (by rw [he2]; rfl)) aX)))))) ?_
   refine cY (ts (ro rfl (cX (cV 0)) (eZ (eK ?_))))
   refine bS (fun (i : Nat) => i ≤ n) (fun (i : Nat) => n - i) (fun (i : Nat) => [(0, QM M), (4, NT .i64 n), (5, Is (.slice (some ⟨B18, 0, none⟩) n n)), (6, QM (tS n)), (7, NT .i64 k), (8, tJ (jY M (ek n k) n)), (10, NT .i64 i)]) (fun (i : Nat) => [jU dT B18 35 131 5 (bP QT (oC (Oc M n) n n k i))]) 0 (Nat.zero_le _)
    (zS rfl) (dE.refl _) (fun i hi=>?_)
   refine cU (ts (rm rfl (rm rfl (ro rfl (gZ (Ht rfl) (Ht rfl)) (eZ (dX (Ht rfl) (fun hf2=>?_) (fun hf2=>?_)))))))
   ·have hin : i < n := by simp only [decide_eq_true_eq] at hf2; omega
    have hpl:=(mB (Oc M n) n n k i).1
    have hpr:((oC (Oc M n) n n k i).getD i []).length = n:=(mB (Oc M n) n n k i).row hin
    refine kE 0 (i) rfl (kY zo) (fun v hv=>(cY (cU (eK (fJ (m:=9) (dp 5 rfl (cZ (Ht rfl)) (dp 10 rfl (cZ (Ht rfl)) (cP 43 0 44 1 rfl (gQ U_36 Z_35 (Ht rfl) (Ht rfl) rfl zo (by rw [Nat.mul_one,Nat.zero_add])) ?_))))))))
    refine dq 45 2 rfl (gI A_35 Z_35 (Ht rfl) (j:=0) rfl) (dp 7 rfl (cZ (Ht rfl)) (dp 8 rfl (cZ (Ht rfl)) (dp 10 rfl (cZ (Ht rfl)) (cP 48 5 49 6 rfl (dJ U_35 Z_131 (Ht rfl) (Ht rfl) rfl (eQ (dY (d:=Qi.zero) zo))) (dq 50 7 rfl (dV A_131 Z_131 (Ht rfl)) (fW aL rfl (by kernel_rfl) (zF (zF (aJ (aV (ro rfl (cR U_35 Z_131 (Ht rfl) (Ht rfl) rfl (i:=1) rfl (by rw [List.length_map]; omega) rfl) ?_)))))))))))
    refine kV Z_131 (Ht rfl) (Ht rfl) (El.ag rfl) (i:=1) rfl rfl (by rw [List.length_map]; omega) rfl ?_
    refine eZ (bC (dL 0 1 rfl rfl (by decide) (by simp only [bP,List.length_map]; omega) ?_))
    refine dQ (rm rfl (ro rfl (dW (Ht rfl) (cV 1) z6) (ra rfl (eZ (bR [0] rfl (by decide) (fY (i + 1) hin zo (zS rfl) (aU (bF (by rw [eN,eE]; exact congrArg _ (sR (val:=Oc M n) hin hkn))) aY)))))))
   ·have hin : i = n := by simp only [decide_eq_false_iff_not] at hf2; omega
    rw [hin,zT]
    refine gW rfl (bC (dQ (rm rfl (ro rfl (dW (Ht rfl) (cV 1) z6) (ra rfl (eZ ?_))))))
    refine fY (k + 1) ⟨hkn, fun j h => by
     by_cases e:j = k
     ·rw [e]; exact he2
     ·exact h0 j zo⟩ zo (zS rfl) (dE.refl _)
 ·have hkn : k = n := by simp only [decide_eq_false_iff_not] at hd; omega
  subst hkn
  have hi:=Iy h0
  rw [a1a]
  refine gW rfl (gV (i:=0) (tt:=5) rfl rfl (fL (s:=5) (M:=nN M k) (rG M k).1.symm) (ts (rm rfl (ra rfl (ro rfl (cX (cV 0)) (eZ (bM rfl (fZ (eY rfl) ?_) (fZ (eY rfl) ?_))))))))
  ·exact (kO (by rw [hi]; rfl))
  ·exact (aS hi.symm)
theorem Xg {a b:List (List Qi)} {n k m L M:Nat} (ha:cI a n k) (hb:cI b k m) (hfa:bA a L) (hfb:bA b M) (hL1:1 ≤ L) (hM1:1 ≤ M) (hL:L ≤ 900000000000) (hM:M ≤ 900000000000) (hn1:1 ≤ n ∨ k = 0) (hk1:1 ≤ k ∨ m = 0) (hn:n ≤ 8) (hk:k ≤ 8) (hm:m ≤ 8):gG Tryz.prog 263 [QM a,QM b] [] (Nat) (fun B=>eS [Is (.slice (some ⟨B,0,none⟩) n n),aT .i64 0]) (fun B=>[jU dT B 35 131 5 (bP QT (iK a b n k m))]) (fun _=>True):=by
 have hal:=ha.1
 have hbl:=hb.1
 refine gG.intro Tryz.func263 rfl Tryz.ntmps263 rfl (fun cx Z=>(ts (ro rfl (cX cW) (ro rfl (cX (cV 0)) (eZ (cU (ts (rm rfl (ro rfl (cJ Tryz.call271 (Ff ha zo zo) ⟨(Ht rfl),trivial⟩) (ro rfl (dR (Ht rfl)) (rm rfl (fX rfl rfl (eU rfl rfl (Ht rfl) (fun h=>cZ (Ht rfl))) (fX rfl rfl (eU rfl rfl (Ht rfl) (fun h=>cJ Tryz.call271 (Ff hb zo zo) ⟨(fV rfl h),trivial⟩)) (fX rfl rfl (eU rfl rfl (Ht rfl) (fun h=>dR (fV rfl h))) (ro rfl (gN (Ht rfl) (fun h=>(fV rfl h))) ?_)))))))))))))))
 refine rm rfl (fX rfl rfl (eU rfl rfl (Ht rfl) (fun h=>cZ (Ht rfl))) (fX rfl rfl (eU rfl rfl (Ht rfl) (fun h=>cJ Tryz.call272 (rU ha hn1) ⟨(fV rfl h),trivial⟩)) (fX rfl rfl (eU rfl rfl (Ht rfl) (fun h=>cZ (Ht rfl))) (fX rfl rfl (eU rfl rfl (Ht rfl) (fun h=>dK U_36 (fV rfl h) (by rw [List.length_map,hbl]))) ?_))))
 refine fX rfl rfl (eU rfl rfl (Ht rfl) (fun h=>fB (fV rfl h) (fV rfl h))) (ro rfl (gN (Ht rfl) (fun h=>(fV rfl h))) (eZ (iA (Ht rfl) (by simp) ?_)))
 refine cY (ts (rm rfl (ro rfl (dK U_36 (Ht rfl) (by rw [List.length_map,hal])) ?_)))
 refine rm rfl (ro rfl (cJ Tryz.call272 (rU hb hk1) ⟨(Ht rfl),trivial⟩) (hJ K_129 (rB (n:=n) (m:=m) zo zo) ⟨(Ht rfl),(Ht rfl),trivial⟩ rfl (fun B29 _=>(ra rfl (eZ (cU (ts (ro rfl (cX (cV 0)) (eZ (eK ?_))))))))))
 refine bS (fun (i : Nat) => i ≤ n) (fun (i : Nat) => n - i) (fun (i : Nat) => [(0, QM a), (1, QM b), (6, Is (.slice (some ⟨B29, 0, none⟩) n n)), (7, NT .i64 i)]) (fun (i : Nat) => [Z, jU dT B29 35 131 5 (bP QT (jC (fun r => tab m fun x => sK a b k r x) (tab m fun _ => Qi.zero) n i))]) 0 (Nat.zero_le _)
  (zS rfl) (aU (fun _ _ _ h=>h) (aU (bF (by rw [mI,gR])) aY)) (fun i hi=>?_)
 refine cU (ts (rm rfl (rm rfl (ro rfl (dK U_36 (Ht rfl) (by rw [List.length_map,hal])) ?_))))
 refine ro rfl (gZ (Ht rfl) (Ht rfl)) (eZ (dX (Ht rfl) (fun hd=>?_) (fun hd=>?_)))
 ·have hin : i < n := by simp only [decide_eq_true_eq] at hd; omega
  have har:=ha.row hin
  refine kE 1 (i) rfl (kZ hin) (fun v0 hv0=>(cY (cU (eK (ts (ro rfl (cX (cV 0)) (eZ (eK ?_))))))))
  refine bS (fun (x : Nat) => x ≤ m) (fun (x : Nat) => m - x) (fun (x : Nat) => [(0, QM a), (1, QM b), (6, Is (.slice (some ⟨B29, 0, none⟩) n n)), (7, NT .i64 i), (8, NT .i64 x)]) (fun (x : Nat) => [Z, sL dT B29 35 131 5 (bP QT (jC (fun r => tab m fun x => sK a b k r x) (tab m fun _ => Qi.zero) n i)) i v0, cL 131 5 v0 ((jC (fun x => sK a b k i x) Qi.zero m x).map QT)]) 0 (Nat.zero_le _)
   (zS rfl) (aU (fun _ _ _ h=>h) (aU (fun _ _ _ h=>h) (aU (bO (by rw [← gR])) aY))) (fun x hx=>?_)
  refine cU (ts (rm rfl (rm rfl (ro rfl (cJ Tryz.call272 (rU hb hk1) ⟨(Ht rfl),trivial⟩) (ro rfl (gZ (Ht rfl) (Ht rfl)) (eZ (dX (Ht rfl) (fun hc=>?_) (fun hc=>?_))))))))
  ·have hxm : x < m := by simp only [decide_eq_true_eq] at hc; omega
   have hrl:=eD (fun x=>sK a b k i x) Qi.zero m x
   refine cY (cU (eK (ts (ro rfl (cX (cV 0)) (eZ (eK ?_))))))
   refine bS (fun (j : Nat) => j ≤ k) (fun (j : Nat) => k - j) (fun (j : Nat) => [(0, QM a), (1, QM b), (6, Is (.slice (some ⟨B29, 0, none⟩) n n)), (7, NT .i64 i), (8, NT .i64 x), (9, NT .i64 j)]) (fun (j : Nat) => [Z, sL dT B29 35 131 5 (bP QT (jC (fun r => tab m fun x => sK a b k r x) (tab m fun _ => Qi.zero) n i)) i v0, cL 131 5 v0 (((jC (fun x => sK a b k i x) Qi.zero m x).set x (aF j fun t => gm a i t * gm b t x)).map QT)]) 0 (Nat.zero_le _)
    (zS rfl) (aU (fun _ _ _ h=>h) (aU (fun _ _ _ h=>h) (aU (bO (by rw [show aF 0 (fun t=>gm a i t * gm b t x) = Qi.zero from rfl,Om hxm])) aY))) (fun j hj=>?_)
   refine cU (ts (rm rfl (rm rfl (ro rfl (dK U_36 (Ht rfl) (by rw [List.length_map,hbl])) ?_))))
   refine ro rfl (gZ (Ht rfl) (Ht rfl)) (eZ (dX (Ht rfl) (fun hb2=>?_) (fun hb2=>?_)))
   ·have hjk : j < k := by simp only [decide_eq_true_eq] at hb2; omega
    have hbr:=hb.row hjk
    haveI f1:aE (gm a i j) L:=hfa.get hL1 i j
    haveI f2:aE (gm b j x) M:=hfb.get hM1 j x
    haveI f3:aE (aF j fun t=>gm a i t * gm b t x) (1 + j * (L + M + 1 + 1)):=aE.sum (L:=L + M + 1) fun t _=>by haveI:=hfa.get hL1 i t; haveI:=hfb.get hM1 t x; exact fitMul
    have hjm:j * (L + M + 1 + 1) ≤ 8 * (L + M + 2):=Nat.mul_le_mul zo (Nat.le_refl _)
    have hsl:((jC (fun x=>sK a b k i x) Qi.zero m x).set x (aF j fun t=>gm a i t * gm b t x)).length = m:=by rw [List.length_set]; exact hrl
    refine cY (cU (eK (fJ (m:=28) (dp 6 rfl (cZ (Ht rfl)) (dp 7 rfl (cZ (Ht rfl)) (cP 48 0 49 1 rfl (gQ U_36 Z_35 (Ht rfl) (Ht rfl) rfl zo (by rw [Nat.mul_one,Nat.zero_add])) ?_))))))
    refine dq 50 2 rfl (gI A_35 Z_35 (Ht rfl) (j:=1) rfl) (dp 8 rfl (cZ (Ht rfl)) (dp 6 rfl (cZ (Ht rfl)) (dp 7 rfl (cZ (Ht rfl)) (cP 53 5 54 6 rfl (gQ U_36 Z_35 (Ht rfl) (Ht rfl) rfl zo (by rw [Nat.mul_one,Nat.zero_add])) ?_))))
    refine dq 55 7 rfl (gI A_35 Z_35 (Ht rfl) (j:=1) rfl) (dp 8 rfl (cZ (Ht rfl)) (cP 56 8 57 9 rfl (cR U_35 Z_131 (Ht rfl) (Ht rfl) rfl (i:=2) rfl (by rw [List.length_map,hsl]; exact hxm) rfl) ?_))
    refine dq 58 10 rfl (oX A_131 Z_131 (Ht rfl) (i:=2) rfl rfl (a22 (by rw [hrl]; exact hxm))) ?_
    refine dp 0 rfl (cZ (Ht rfl)) (dp 7 rfl (cZ (Ht rfl)) (cP 60 12 61 13 rfl (dJ U_36 Z_35 (Ht rfl) (Ht rfl) rfl (eQ (dY (d:=[]) zo))) (dq 62 14 rfl (dV A_35 Z_35 (Ht rfl)) (dp 9 rfl (cZ (Ht rfl)) (cP 63 15 64 16 rfl (dJ U_35 Z_131 (Ht rfl) (Ht rfl) rfl (eQ (dY (d:=Qi.zero) zo))) (dq 65 17 rfl (dV A_131 Z_131 (Ht rfl)) (dp 1 rfl (cZ (Ht rfl)) (dp 9 rfl (cZ (Ht rfl)) (cP 67 19 68 20 rfl (dJ U_36 Z_35 (Ht rfl) (Ht rfl) rfl (eQ (dY (d:=[]) zo))) ?_)))))))))
    refine dq 69 21 rfl (dV A_35 Z_35 (Ht rfl)) (dp 8 rfl (cZ (Ht rfl)) (cP 70 22 71 23 rfl (dJ U_35 Z_131 (Ht rfl) (Ht rfl) rfl (eQ (dY (d:=Qi.zero) zo))) (dq 72 24 rfl (dV A_131 Z_131 (Ht rfl)) (cP 66 18 73 25 rfl (cJ K_146 (rC (x:=gm a i j) (y:=gm b j x) (L:=L) (M:=M) zo) ⟨(Ht rfl),(Ht rfl),trivial⟩) (cP 59 11 74 26 rfl (cJ K_149 (yU (x:=(aF j fun t=>gm a i t * gm b t x)) (y:=gm a i j * gm b j x) (L:=1 + j * (L + M + 1 + 1)) (M:=L + M + 1) zo) ⟨(Ht rfl),(Ht rfl),trivial⟩) ?_)))))
    refine fW aL rfl (by kernel_rfl) (zF (zF (zF (zF (zF (zF (zF (aV (ro rfl (cR U_35 Z_131 (Ht rfl) (Ht rfl) rfl (i:=2) rfl (by rw [List.length_map,hsl]; exact hxm) rfl) ?_)))))))))
    refine kV Z_131 (Ht rfl) (Ht rfl) (El.ag rfl) (i:=2) rfl rfl (by rw [List.length_map,hsl]; exact hxm) rfl ?_
    refine eZ (bC (dQ (rm rfl (ro rfl (dW (Ht rfl) (cV 1) z6) (ra rfl (eZ (fY (j + 1) hjk zo (zS rfl) (aU (fun _ _ _ h=>h) (aU (fun _ _ _ h=>h) (aU (bO (by rw [eN,List.set_set]; rfl)) aY))))))))))
   ·have hjk : j = k := by simp only [decide_eq_false_iff_not] at hb2; omega
    subst hjk
    refine gW rfl (bC (dQ (rm rfl (ro rfl (dW (Ht rfl) (cV 1) z6) (ra rfl (eZ (fY (x + 1) hxm zo (zS rfl) (aU (fun _ _ _ h=>h) (aU (fun _ _ _ h=>h) (aU (bO (congrArg _ (jJ (f:=fun x=>sK a b j i x)))) aY))))))))))
  ·have hxm : x = m := by simp only [decide_eq_false_iff_not] at hc; omega
   subst hxm
   rw [jI]
   refine gW rfl (bC (dL 1 2 rfl rfl (by decide) (by simp only [bP,List.length_map,eD]; omega) ?_))
   refine dQ (rm rfl (ro rfl (dW (Ht rfl) (cV 1) z6) (ra rfl (eZ (bR [0,1] rfl (by decide) (fY (i + 1) hin zo (zS rfl) (aU (fun _ _ _ h=>h) (aU (bF (by rw [eE]; exact congrArg _ (jJ (f:=fun r=>tab x fun c=>sK a b k r c)))) aY))))))))
 ·have hin : i = n := by simp only [decide_eq_false_iff_not] at hd; omega
  subst hin
  rw [jI]
  refine gW rfl (ts (rm rfl (ra rfl (ro rfl (cX (cV 0)) (eZ ?_)))))
  exact jT B29 trivial [0,1] ⟨⟨_,rfl,fun _ _ _ h=>h⟩,⟨_,rfl,fun _ _ _ h=>h⟩,trivial⟩ (by decide) (a1Y rfl (eY rfl) (eY rfl))
theorem a0x {a b:List (List Qi)} {n k m L M:Nat} (ha:cI a n k) (hb:cI b k m) (hfa:bA a L) (hfb:bA b M) (hL1:1 ≤ L) (hM1:1 ≤ M) (hL:L ≤ 900000000000) (hM:M ≤ 900000000000) (hn1:1 ≤ n ∨ k = 0) (hk1:1 ≤ k ∨ m = 0) (hn:n ≤ 8) (hk:k ≤ 8) (hm:m ≤ 8):bE Tryz.prog 263 [QM a,QM b] (eS [QM (iK a b n k m),aT .i64 0]):=(Xg ha hb hfa hfb hL1 hM1 hL hM hn1 hk1 hn hk hm).fun fun B _ v S V h1 h2=>a4z h1 fun u hu=>fL (s:=5) (M:=iK a b n k m) gS.1.symm u S V hu h2
theorem a0w {Y M:List (List Qi)} {n G X K:Nat} (hY:cI Y n n) (hM:cI M n n) (hfY:bA Y K) (hK:1 ≤ K) (hKb:K ≤ 900000000000) (hz:∀ i,i < n → SzJ M (ek n i) n G) (hif:oM M n = 0 → bA (nN M n) X) (hX:X ≤ 900000000000) (hn:n ≤ 8):bE Tryz.prog 222 [QM Y,QM M] (eS [QM (ovX Y M n),aD (decide (Lr M n = 0))]):=by
 refine bE.intro Tryz.func222 rfl Tryz.ntmps222 rfl (fun cx=>(ts (ro rfl (cX cW) (ro rfl (cX cW) (eZ (ts (rm rfl (ro rfl (cJ Tryz.call262 (a2S hM hz zo) ⟨(Ht rfl),trivial⟩) (rm rfl (ro rfl (dU (Ht rfl) rfl) (ro rfl (dU (Ht rfl) rfl) (ra rfl (ra rfl (eZ (cU (ts (rm rfl (ro rfl (iR (Ht rfl) cW) (eZ (dX (Ht rfl) (fun he=>?_) (fun he=>?_)))))))))))))))))))))
 ·have he2 : ¬ oM M n = 0 := by simpa using he
  have ho:Lr M n = 5:=if_neg he2
  refine ts (ro rfl (cX cW) (ro rfl (cX cW) (eZ (bM rfl (fZ (eY rfl) ?_) (fZ (eY rfl) ?_)))))
  ·exact (fun v V h=>by rw [ovX,ho]; exact iL v V h)
  ·exact (dN (by rw [ho]; rfl))
 ·have he2 : oM M n = 0 := by simpa using he
  have ho:Lr M n = 0:=if_pos he2
  have hif:bA (nN M n) (max X 1):=(hif he2).le (Nat.le_max_left X 1)
  have h1:1 ≤ n ∨ n = 0:=by omega
  refine qC (E':=[(0,_),(1,_),(4,_),(5,_),(6,_),(7,_),(10,_),(11,_),(12,_),(13,_),(14,_),(15,_),(16,_)]) (aQ rfl (aQ rfl (aQ rfl (aQ rfl (aZ rfl (kO (Us:=(nN M n).map tJ) (by rw [he2]; rfl)) (zS rfl)))))) ?_
  refine cY (ts (rm rfl (rm rfl (ro rfl (cJ Tryz.call263 (a0x (n:=n) (k:=n) (m:=n) hY (rG M n) hfY hif hK zo hKb zo h1 h1 hn hn hn) ⟨(Ht rfl),(Ht rfl),trivial⟩) (rm rfl (ro rfl (dU (Ht rfl) rfl) (ro rfl (dU (Ht rfl) rfl) (ra rfl (ra rfl (eZ (ts (rm rfl (ra rfl (ro rfl (cX cW) (eZ (bM rfl (fZ (eY rfl) ?_) (fZ (eY rfl) ?_)))))))))))))))))
  ·exact (kO (by rw [ovX,ho]; rfl))
  ·exact (dN (by rw [ho]; rfl))
end
section
open Go Go.RowKit
theorem Rc {Y M:List (List Qi)} {n G X K:Nat} (hY:cI Y n n) (hM:cI M n n) (hfY:bA Y K) (hK:1 ≤ K) (hKb:K ≤ 900000000000) (hz:∀ i,i < n → SzS M (ek n i) n G X) (hX:X ≤ 900000000000) (hn:n ≤ 8):bE Tryz.prog 186 [bL Y,bL M] (eS [bL (ovX Y M n),aT .i64 (Lr M n)]):=by
 refine bE.intro Tryz.func186 rfl Tryz.ntmps186 rfl (fun cx=>(ts (ro rfl (cX cW) (ro rfl (cX (cV 0)) (eZ (ts (rm rfl (ro rfl (cJ Tryz.call248 (a5A hM hz zo) ⟨(Ht rfl),trivial⟩) (rm rfl (ro rfl (dU (Ht rfl) rfl) (ro rfl (dU (Ht rfl) rfl) (ra rfl (ra rfl (eZ (cU (ts (rm rfl (ro rfl (iR (Ht rfl) cW) (eZ (dX (Ht rfl) (fun he=>?_) (fun he=>?_)))))))))))))))))))))
 ·have he2 : ¬ oM M n = 0 := by simpa using he
  have ho:Lr M n = 5:=if_neg he2
  refine ts (ro rfl (cX cW) (ro rfl (cX (cV 5)) (eZ (bM rfl (fZ (eY rfl) ?_) (fZ (eY rfl) ?_)))))
  ·exact (fun v V h=>by rw [ovX,ho]; exact iL v V h)
  ·exact (aS ho.symm)
 ·have he2 : oM M n = 0 := by simpa using he
  have ho:Lr M n = 0:=if_pos he2
  have hif:bA (nN M n) (max X 1):=(Bt hz he2).le (Nat.le_max_left X 1)
  have h1:1 ≤ n ∨ n = 0:=by omega
  refine qC (E':=[(0,_),(1,_),(4,_),(5,_),(6,_),(7,_),(8,_),(9,_),(10,_),(11,_),(12,_),(13,_),(14,_)]) (aQ rfl (aQ rfl (aQ rfl (aQ rfl (aZ rfl (kO (Us:=(nN M n).map bB) (by rw [he2]; rfl)) (zS rfl)))))) ?_
  refine cY (ts (rm rfl (rm rfl (ro rfl (cJ Tryz.call195 (a2F (n:=n) (k:=n) (m:=n) hY (rG M n) hfY hif hK zo hKb zo h1 h1 hn hn hn) ⟨(Ht rfl),(Ht rfl),trivial⟩) (ro rfl (dU (Ht rfl) rfl) (ro rfl (dU (Ht rfl) rfl) (ra rfl (ra rfl (eZ (bM rfl (fZ (eY rfl) ?_) (fZ (eY rfl) ?_)))))))))))
  ·exact (kO (by rw [ovX,ho]; rfl))
  ·exact (aS ho.symm)
theorem a4g {P:Program} {f:FuncId} {A1 A2 B1 B2 C1 C2:Ty} {R1 R2:Ty} {x:Bool} (h1:bE P f [A1,A2,C1,C2] R1) (h2:bE P f [B1,B2,C1,C2] R2):bE P f ((cond x [A1,A2] [B1,B2]) ++ [C1,C2]) (cond x R1 R2):=by cases x; exact h2; exact h1
theorem a5R {st fa z:List Qi} {s:List (List Qi)} {n i j K L:Nat} (hst:st.length = n) (hfa:fa.length = n) (hs:cI s n n) (h1:cB st K) (h2:cB fa K) (h3:bA s L) (hK:1 ≤ K) (hL:1 ≤ L) (hb:2 * K + L + 2 ≤ 900000000000) (hi:i < n) (hj:j < n):bE Tryz.prog 185 [NT .i64 i,NT .i64 j,PT (bB st),PT (bB fa),PT (iT z s)] (aI (Zn st fa s i j)):=by
 have hsl:=hs.1
 have hsr:=hs.row hi
 haveI f1:aE (gv fa i) K:=h2.get hK i
 haveI f2:aE (gm s i j) L:=h3.get hL i j
 refine bE.intro Tryz.func185 rfl Tryz.ntmps185 rfl (fun cx=>(ts (rn rfl (eG (Ts:=[Is (.bool false),Is (.slice none 0 0),Is (.bool false),Is (.slice none 0 0),Is (.slice none 0 0)]) O_51 rfl (fun V=>aW zd (aW zd (aW zd (aW zd (aW zd (aG))))))) fun B7=>(eZ (ts (ro rfl (cJ Tryz.call109 (Ug (n:=0) (by decide) (by decide)) ⟨(cV 0),trivial⟩) (rn rfl (eG (Ts:=[Is (.bool false),Is (.slice none 0 0),Is (.bool false),Is (.slice none 0 0),Is (.slice none 0 0)]) O_51 rfl (fun V=>aW zd (aW zd (aW zd (aW zd (aW zd (aG))))))) fun B8=>?_)))))))
 refine gX Z_51 (Ht rfl) (Ht rfl) rfl (i:=1) rfl (aK rfl) rfl rfl (eZ (cU (jS (fun (x:Qi)=>x = (if i = j then gv st i else Qi.ofInt 0)) (fun (x:Qi)=>[(0,NT .i64 i),(1,NT .i64 j),(3,PT (bB fa)),(4,PT (iT z s)),(7,cC B7 0),(8,cC B8 0)]) (fun (x:Qi)=>[box B7 51 [Is (.bool false),Is (.slice none 0 0),Is (.bool false),Is (.slice none 0 0),Is (.slice none 0 0)],box B8 51 [aD (decide (x.a < 0)),aH x.a.natAbs,aD (decide (x.b < 0)),aH x.b.natAbs,aH (du x)]]) ?_ (fun x hx=>?_))))
 ·refine ts (rm rfl (rm rfl (ro rfl (cT (Ht rfl) (Ht rfl)) (eZ (dX (Ht rfl) (fun hb => ?_) (fun hb => ?_))))))
  ·have hij : i = j := by simpa using hb
   refine dQ (ro rfl (dV A_29 Z_29 (Ht rfl)) (rm rfl (ro rfl (dJ U_29 Z_51 (Ht rfl) (Ht rfl) rfl (eQ (dY (d:=Qi.zero) zo))) (ro rfl (dV A_51 Z_51 (Ht rfl)) (gX Z_51 (Ht rfl) (Ht rfl) rfl (i:=1) rfl (aK rfl) rfl rfl (eZ (bD (gv st i) (by rw [if_pos hij]) (zS rfl) (dE.refl _))))))))
  ·have hij : ¬ i = j := by simpa using hb
   refine cY (bD (Qi.ofInt 0) (by rw [if_neg hij]) (zS rfl) (dE.refl _))
 ·haveI f3 : aE x K := by
   rw [hx]; split
   ·exact h1.get hK i
   ·exact aE.zero hK
  refine cU (fJ (m:=16) (dp 8 rfl (eW A_51 Z_51 (Ht rfl) (i:=1) rfl rfl rfl) (dq 17 0 rfl (bI cD (Ht rfl)) (dp 3 rfl (dV A_29 Z_29 (Ht rfl)) (dp 0 rfl (cZ (Ht rfl)) (cP 19 2 20 3 rfl (dJ U_29 Z_51 (Ht rfl) (Ht rfl) rfl (eQ (dY (d:=Qi.zero) zo))) (dq 21 4 rfl (dV A_51 Z_51 (Ht rfl)) (dq 22 5 rfl (bI cD (Ht rfl)) (dp 4 rfl (qJ mK (Ht rfl) rfl) (dq 24 7 rfl (dV A_30 Z_30 (Ht rfl)) (dp 0 rfl (cZ (Ht rfl)) ?_)))))))))))
  refine cP 25 8 26 9 rfl (dJ U_30 Z_29 (Ht rfl) (Ht rfl) rfl (eQ (dY (d:=[]) zo))) (dq 27 10 rfl (dV A_29 Z_29 (Ht rfl)) (dp 1 rfl (cZ (Ht rfl)) (cP 28 11 29 12 rfl (dJ U_29 Z_51 (Ht rfl) (Ht rfl) rfl (eQ (dY (d:=Qi.zero) zo))) (dq 30 13 rfl (dV A_51 Z_51 (Ht rfl)) (cP 23 6 31 14 rfl (aP dD K_45 (kF (x:=gv fa i) (y:=gm s i j) (L:=K) (M:=L) zo) (Ht rfl) ⟨(Ht rfl),trivial⟩) (fW aL rfl (by kernel_rfl) (zF (zF (zF (zF (aV ?_)))))))))))
  refine ro rfl (aP pQ K_46 (Ck (x:=x) (y:=gv fa i * gm s i j) (L:=K) (M:=K + L + 1) zo) (Ht rfl) ⟨(Ht rfl),trivial⟩) (gX Z_51 (Ht rfl) (Ht rfl) rfl (i:=0) rfl (aK rfl) rfl rfl (eZ (fG rfl (fZ (fU A_51 Z_51 rfl (i:=0) rfl rfl) ?_))))
  exact (nO (by rw [hx]; rfl))
theorem a4T {st fa z w:List Qi} {s:List (List Qi)} {n K L:Nat} (hw:w.length = n) (hn:n ≤ 1000) (hst:st.length = n) (hfa:fa.length = n) (hs:cI s n n) (h1:cB st K) (h2:cB fa K) (h3:bA s L) (hK:1 ≤ K) (hL:1 ≤ L) (hb:2 * K + L + 2 ≤ 900000000000):bE Tryz.prog 184 [bB st,bB fa,PT (bB w),PT (iT z s)] (bL (mxM st fa s n)):=by
 refine bE.intro Tryz.func184 rfl Tryz.ntmps184 rfl (fun cx=>(ts (rn rfl (tB (Ht rfl)) fun B4=>(rn rfl (tB (Ht rfl)) fun B5=>(ro rfl (cX cW) (eZ (cU (gV (i:=0) (tt:=4) rfl rfl oE (gV (i:=1) (tt:=5) rfl rfl oE (dQ (ro rfl (dV A_29 Z_29 (Ht rfl)) (ro rfl (dK U_29 (Ht rfl) (by rw [List.length_map,hw])) ?_))))))))))))
 refine ro rfl (qI (γ:=Fin n × Fin n) (Ts:=fun x=>[NT .i64 x.1.1,NT .i64 x.2.1]) (U:=fun x=>aI (Zn st fa s x.1.1 x.2.1)) Tryz.call185 (fun x=>a5R hst hfa hs h1 h2 h3 hK hL hb x.1.2 x.2.2) ⟨(Ht rfl),(Ht rfl),(Ht rfl),trivial⟩) (ro rfl (cJ Tryz.call114 (Ra (n:=n) (f:=fun i j=>Zn st fa s i j) hn) ⟨(Ht rfl),(Ht rfl),trivial⟩) (ra rfl (eZ ?_)))
 exact fG rfl (eY rfl)
theorem Xb {z w:List Qi} {s:List (List Qi)} {L M K G X:Nat} (hs:cI s z.length z.length) (hz:cB z L) (hw:cB w M) (hf:bA s K) (hL:1 ≤ L) (hM:1 ≤ M) (hK:1 ≤ K) (hLb:L ≤ 1000000000) (hMb:M ≤ 1000000000) (hKb:K ≤ 100000000000) (hp:z.all eO = true) (h8:z.length ≤ 8) (hwl:w.length ≤ 1000) (hsz:w.length = z.length → ∀ i,i < w.length → SzS (qT z w s) (ek w.length i) w.length G X) (hX:X ≤ 900000000000):bE Tryz.prog 84 [iT z s,bB w] (eS [iT (yK z w s) (jQ z w s),aT .i64 (uE z w s)]):=by
 refine bE.intro Tryz.func84 rfl Tryz.ntmps84 rfl (fun cx=>(ts (rn rfl (fK (Ht rfl)) fun B2=>(rn rfl (tB (Ht rfl)) fun B3=>(rn rfl (eG (Ts:=[Is (.slice none 0 0),Is (.slice none 0 0)]) O_32 rfl (fun V=>aW zd (aW zd (aG)))) fun B4=>(ro rfl (cX (cV 0)) (eZ (cU (ts (ro rfl (fQ A_29 Z_29 (Ht rfl) (i:=1) rfl rfl) (ro rfl (dK U_29 (Ht rfl) aA) (ro rfl (eJ lW (Ht rfl) rfl) (ro rfl (fQ A_29 Z_29 (Ht rfl) (i:=0) rfl rfl) ?_)))))))))))))
 refine ro rfl (dK U_29 (Ht rfl) aA) (ro rfl (fB (Ht rfl) (Ht rfl)) (eZ (dX (Ht rfl) (fun hb=>?_) (fun hb=>?_))))
 ·have hn : w.length ≠ z.length := by simpa using hb
  have he:=Lx (s:=s) hn
  refine ts (ro rfl (aM.imp (oA ) oH) (gX Z_32 (Ht rfl) (Ht rfl) rfl (i:=2) rfl (aK rfl) rfl rfl (ro rfl (cX (cV 4)) (eZ (bM rfl (fZ (fU A_32 Z_32 rfl (i:=2) rfl rfl) ?_) (fZ (eY rfl) ?_))))))
  ·exact (fun v V h=>by rw [yK,jQ,dA,dA,he]; exact h)
  ·exact (aS he.symm)
 ·have hl : w.length = z.length := by simpa using hb
  have hsz:=hsz hl
  refine cY (cU (ts (ro rfl (fQ A_29 Z_29 (Ht rfl) (i:=1) rfl rfl) (ro rfl (cJ Tryz.call183 (Cl (L:=M) hw zo zo) ⟨(Ht rfl),trivial⟩) (ra rfl (eZ (ts (rm rfl (ro rfl (iR (Ht rfl) cW) (eZ (dX (Ht rfl) (fun hb2=>?_) (fun hb2=>?_))))))))))))
  ·have hq : w.all eO ≠ true := fun e => by rw [e] at hb2; simp at hb2
   have he:=a1U (s:=s) hl hq
   refine ts (ro rfl (aM.imp (oA ) oH) (rm rfl (gX Z_32 (Ht rfl) (Ht rfl) rfl (i:=2) rfl (aK rfl) rfl rfl (ra rfl (eZ (bM rfl (fZ (fU A_32 Z_32 rfl (i:=2) rfl rfl) ?_) (fZ (eY rfl) ?_)))))))
   ·exact (fun v V h=>by rw [yK,jQ,dA,dA,he]; exact h)
   ·exact (aS (by rw [if_neg hq,he]))
  ·have hq : w.all eO = true := by
    apply Decidable.byContradiction; intro e
    rw [if_neg e] at hb2; simp at hb2
   have hov:=a1V (s:=s) hl hq
   have hovX:=a1W (s:=s) hl hq
   haveI f0:=kS
   have hPf:=xT hz hw hL hM hp hl
   have hMf:=xS hz hw hL hM hp hl
   have hPl:(Zr z w).length = w.length:=aN _ _
   have hMl:(Zq z w).length = w.length:=aN _ _
   refine cY (ts (rn rfl (eG (Ts:=[Is (.bool false),Is (.slice none 0 0),Is (.bool false),Is (.slice none 0 0),Is (.slice none 0 0)]) O_51 rfl (fun V=>aW zd (aW zd (aW zd (aW zd (aW zd (aG))))))) fun B7=>(eZ (ts (ro rfl (cJ K_77 (qD (n:=1) (by decide) (by decide)) ⟨(cV 1),trivial⟩) (rn rfl (eG (Ts:=[Is (.bool false),Is (.slice none 0 0),Is (.bool false),Is (.slice none 0 0),Is (.slice none 0 0)]) O_51 rfl (fun V=>aW zd (aW zd (aW zd (aW zd (aW zd (aG))))))) fun B8=>?_))))))
   refine gX Z_51 (Ht rfl) (Ht rfl) rfl (i:=4) rfl (aK rfl) rfl rfl (eZ (cU (fJ (m:=7) (dp 3 rfl (fQ A_29 Z_29 (Ht rfl) (i:=1) rfl rfl) (dq 31 0 rfl (dK U_29 (Ht rfl) aA) (C.D_new (Ei:=[(32,_)]) rfl rfl rfl (bV (bG 1 rfl rfl) bW) (mM (T:=aI Qi.zero) (i:=Tryz.t51) nR lH rfl rfl (Ht rfl) rfl lJ (El.ag rfl) (by show 88 * _ ≤ _; omega) zo) (dp 3 rfl (fQ A_29 Z_29 (Ht rfl) (i:=1) rfl rfl) (dq 34 3 rfl (dK U_29 (Ht rfl) aA) ?_))))))))
   refine C.D_new (Ei:=[(35,_)]) rfl rfl rfl (bV (bG 4 rfl rfl) bW) (mM (T:=aI Qi.zero) (i:=Tryz.t51) nR lH rfl rfl (Ht rfl) rfl lJ (El.ag rfl) (by show 88 * _ ≤ _; omega) zo) (C.D_cpy 2 rfl rfl rfl rfl rfl C.cpy_assign (fW aL rfl (by kernel_rfl) (aJ (aJ (C.F_new (fun B33=>aJ (aJ (C.F_new (fun B36=>C.F_cpy rfl (aV (ra rfl (eZ (cU (ts (ro rfl (fQ A_29 Z_29 (Ht rfl) (i:=1) rfl rfl) (ro rfl (dK U_29 (Ht rfl) aA) (ro rfl (cZ (cV 0)) ?_)))))))))))))))))
   refine eZ (eK ?_)
   refine bS (fun (i : Nat) => i ≤ w.length) (fun (i : Nat) => w.length - i) (fun (i : Nat) => [(2, cC B2 0), (3, cC B3 0), (4, cC B4 0), (7, cC B7 0), (8, cC B8 0), (9, Is B33), (10, Is B36), (38, NT .i64 w.length), (39, NT .i64 i)]) (fun (i : Nat) => [box B2 32 [bB z, bL s], box B3 29 [bB w], box B4 32 [Is (.slice none 0 0), Is (.slice none 0 0)], box B7 51 [Is (.bool false), Is (.slice none 0 0), Is (.bool false), Is (.slice none 0 0), Is (.slice none 0 0)], box B8 51 [aD (decide ((Qi.ofInt 1).a < 0)), aH (Qi.ofInt 1).a.natAbs, aD (decide ((Qi.ofInt 1).b < 0)), aH (Qi.ofInt 1).b.natAbs, aH (du (Qi.ofInt 1))], cL 51 5 B33 ((jC (fun i => Qi.ofInt 1 + fT z w i) Qi.zero w.length i).map aI), cL 51 5 B36 ((jC (fun i => Qi.ofInt 1 - fT z w i) Qi.zero w.length i).map aI)]) 0 (Nat.zero_le _)
    (zS rfl) (aU (aB rfl) (aU (aB rfl) (aU (aB rfl) (aU (aB rfl) (aU (aB rfl) (aU (bO (by rw [← gR]; exact Ef aI _)) (aU (bO (by rw [← gR]; exact Ef aI _)) aY))))))) (fun i hi=>?_)
   refine ts (ro rfl (gZ (Ht rfl) (Ht rfl)) (eZ (cU (dX (Ht rfl) (fun hc=>?_) (fun hc=>?_)))))
   ·have hin : i < w.length := by simp only [decide_eq_true_eq] at hc; omega
    have hzn:=nZ hp (show i < z.length by omega)
    haveI g1:aE (gv w i) M:=hw.get hM i
    haveI g2:aE (gv z i) L:=hz.get hL i
    haveI g3:aE (fT z w i) (M + 3 * L + 2):=sG hz hw hL hM hp zo
    have hl9:=eD (fun i=>Qi.ofInt 1 + fT z w i) Qi.zero w.length i
    have hl10:=eD (fun i=>Qi.ofInt 1 - fT z w i) Qi.zero w.length i
    refine cY (cU (eK (ts (rm rfl (ra rfl (eZ (cU (Y.D_start (m:=15) [] (cQ (Ei:=[(3,_)]) rfl rfl (bQ (bJ rfl rfl) bX) rfl rfl (dZ rfl (fQ A_29 Z_29 (Ht rfl) (i:=1) rfl rfl)) (cQ (Ei:=[(11,_)]) rfl rfl (bQ (bJ rfl rfl) bX) rfl rfl (dZ rfl (cZ (Ht rfl))) (cQ (Ei:=[(43,_),(44,_)]) rfl rfl (bQ (bZ 0 rfl rfl) (bQ (bZ 1 rfl rfl) bX)) rfl rfl (dZ rfl (dJ U_29 Z_51 (Ht rfl) (Ht rfl) rfl (eQ (dY (d:=Qi.zero) zo)))) ?_)))))))))))
    refine cQ (Ei:=[(45,_)]) rfl rfl (bQ (bZ 2 rfl rfl) bX) rfl rfl (dZ rfl (dV A_51 Z_51 (Ht rfl))) (cQ (Ei:=[(2,_)]) rfl rfl (bQ (bJ rfl rfl) bX) rfl rfl (dZ rfl (eJ lW (Ht rfl) rfl)) (cQ (Ei:=[(47,_)]) rfl rfl (bQ (bZ 4 rfl rfl) bX) rfl rfl (dZ rfl (fQ A_29 Z_29 (Ht rfl) (i:=0) rfl rfl)) (cQ (Ei:=[(11,_)]) rfl rfl (bQ (bJ rfl rfl) bX) rfl rfl (dZ rfl (cZ (Ht rfl))) (cQ (Ei:=[(48,_),(49,_)]) rfl rfl (bQ (bZ 5 rfl rfl) (bQ (bZ 6 rfl rfl) bX)) rfl rfl (dZ rfl (dJ U_29 Z_51 (Ht rfl) (Ht rfl) rfl (eQ (dY (d:=Qi.zero) zo)))) ?_))))
    refine cQ (Ei:=[(50,_)]) rfl rfl (bQ (bZ 7 rfl rfl) bX) rfl rfl (dZ rfl (dV A_51 Z_51 (Ht rfl))) (cQ (Ei:=[(46,_),(51,_)]) rfl rfl (bQ (bZ 3 rfl rfl) (bQ (bZ 8 rfl rfl) bX)) rfl rfl (dZ rfl (cJ K_40 (yH (x:=gv w i) (y:=gv z i) (L:=M) (M:=L) zo) ⟨(Ht rfl),(Ht rfl),trivial⟩)) (cQ (Ei:=[(52,_)]) rfl rfl (bQ (bZ 9 rfl rfl) bX) rfl rfl (dZ rfl (cZ (Ht rfl))) (cQ (Ei:=[(42,_)]) rfl rfl (bQ (bZ 10 rfl rfl) bX) rfl rfl (dZ rfl (dU (Ht rfl) rfl)) ?_)))
    refine cQ (Ei:=[(42,_)]) rfl rfl (bQ (bZ 10 rfl rfl) bX) rfl rfl (dZ rfl (dU (Ht rfl) rfl)) (Y.D_newp (Ei:=[]) (fun bb=>box bb 51 [aD (decide ((fT z w i).a < 0)),aH (fT z w i).a.natAbs,aD (decide ((fT z w i).b < 0)),aH (fT z w i).b.natAbs,aH (du (fT z w i))]) 14 rfl rfl rfl bX rfl rfl (by kernel_rfl) (eG (Ts:=[Is (.bool false),Is (.slice none 0 0),Is (.bool false),Is (.slice none 0 0),Is (.slice none 0 0)]) O_51 rfl (fun V=>aW zd (aW zd (aW zd (aW zd (aW zd (aG))))))) ?_)
    refine Y.D_putN (Ei:=[(53,_)]) 13 rfl rfl rfl rfl rfl rfl (bQ (bZ 11 rfl rfl) bX) (fun bb=>kQ Z_51 (Ht rfl) (Ht rfl) rfl (i:=0) rfl (aK rfl) rfl rfl) (Y.D_done aL rfl (by kernel_rfl) rfl (by simp [Y.okP]) rfl rfl (bU (bU (bU (bU (bU (bU (bU (bU (bU (bU (bU (bU (bU (Y.F_newp (fun B12=>Y.F_putN (Y.F_nil ?_)))))))))))))))))
    refine ra rfl (eZ (Y.D_start (m:=18) [(17,5,cL 51 5 B33 (((jC (fun i=>Qi.ofInt 1 + fT z w i) Qi.zero w.length i).map aI).set i (aI (Qi.ofInt 1 + fT z w i))))] (Y.D_step (Ei:=[(9,_)]) rfl rfl (bQ (bJ rfl rfl) bX) rfl rfl (by kernel_rfl) (dZ rfl (cZ (Ht rfl))) (Y.D_step (Ei:=[(11,_)]) rfl rfl (bQ (bJ rfl rfl) bX) rfl rfl (by kernel_rfl) (dZ rfl (cZ (Ht rfl))) (cQ (Ei:=[(10,_)]) rfl rfl (bQ (bJ rfl rfl) bX) rfl rfl (dZ rfl (cZ (Ht rfl))) (cQ (Ei:=[(11,_)]) rfl rfl (bQ (bJ rfl rfl) bX) rfl rfl (dZ rfl (cZ (Ht rfl))) ?_))))))
    refine Y.D_step (Ei:=[(7,_)]) rfl rfl (bQ (bJ rfl rfl) bX) rfl rfl (by kernel_rfl) (dZ rfl (eW A_51 Z_51 (Ht rfl) (i:=3) rfl rfl rfl)) (Y.D_step (Ei:=[(59,_)]) rfl rfl (bQ (bZ 4 rfl rfl) bX) rfl rfl (by kernel_rfl) (dZ rfl (bI cD (Ht rfl))) (Y.D_step (Ei:=[(8,_)]) rfl rfl (bQ (bJ rfl rfl) bX) rfl rfl (by kernel_rfl) (dZ rfl (eW A_51 Z_51 (Ht rfl) (i:=4) rfl rfl rfl)) (Y.D_step (Ei:=[(12,_)]) rfl rfl (bQ (bJ rfl rfl) bX) rfl rfl (by kernel_rfl) (dZ rfl (eW A_51 Z_51 (Ht rfl) (i:=7) rfl rfl rfl)) ?_)))
    refine Y.D_step (Ei:=[(61,_),(62,_)]) rfl rfl (bQ (bZ 6 rfl rfl) (bQ (bZ 7 rfl rfl) bX)) rfl rfl (by kernel_rfl) (dZ rfl (cJ K_46 (Ck (x:=Qi.ofInt 1) (y:=fT z w i) (L:=1) (M:=M + 3 * L + 2) zo) ⟨(Ht rfl),(Ht rfl),trivial⟩)) (Y.D_step (Ei:=[(60,_),(63,_)]) rfl rfl (bQ (bZ 5 rfl rfl) (bQ (bZ 8 rfl rfl) bX)) rfl rfl (by kernel_rfl) (dZ rfl (aP oV K_302 Ih (Ht rfl) ⟨(Ht rfl),trivial⟩)) (Y.D_step (Ei:=[(7,_)]) rfl rfl (bQ (bJ rfl rfl) bX) rfl rfl (by kernel_rfl) (dZ rfl (eW A_51 Z_51 (Ht rfl) (i:=3) rfl rfl rfl)) ?_))
    refine Y.D_step (Ei:=[(65,_)]) rfl rfl (bQ (bZ 10 rfl rfl) bX) rfl rfl (by kernel_rfl) (dZ rfl (bI cD (Ht rfl))) (Y.D_step (Ei:=[(8,_)]) rfl rfl (bQ (bJ rfl rfl) bX) rfl rfl (by kernel_rfl) (dZ rfl (eW A_51 Z_51 (Ht rfl) (i:=4) rfl rfl rfl)) (Y.D_step (Ei:=[(12,_)]) rfl rfl (bQ (bJ rfl rfl) bX) rfl rfl (by kernel_rfl) (dZ rfl (eW A_51 Z_51 (Ht rfl) (i:=7) rfl rfl rfl)) (Y.D_step (Ei:=[(67,_),(68,_)]) rfl rfl (bQ (bZ 12 rfl rfl) (bQ (bZ 13 rfl rfl) bX)) rfl rfl (by kernel_rfl) (dZ rfl (cJ K_44 (uD (x:=Qi.ofInt 1) (y:=fT z w i) (L:=1) (M:=M + 3 * L + 2) zo) ⟨(Ht rfl),(Ht rfl),trivial⟩)) ?_)))
    refine Y.D_step (Ei:=[(66,_),(69,_)]) rfl rfl (bQ (bZ 11 rfl rfl) (bQ (bZ 14 rfl rfl) bX)) rfl rfl (by kernel_rfl) (dZ rfl (aP oV K_302 Ih (Ht rfl) ⟨(Ht rfl),trivial⟩)) (Y.D_step (Ei:=[(55,_),(56,_)]) rfl rfl (bQ (bZ 0 rfl rfl) (bQ (bZ 1 rfl rfl) bX)) rfl rfl (by kernel_rfl) (dZ rfl (cR U_29 Z_51 (Ht rfl) (Ht rfl) rfl (i:=5) rfl (by rw [List.length_map,hl9]; exact hin) rfl)) ?_)
    refine Y.D_putI (Ei:=[(71,_),(64,_)]) 5 rfl rfl rfl (bQ (bZ 16 rfl rfl) (bQ (bZ 9 rfl rfl) bX)) (.head _) rfl (Er Z_51 (Ht rfl) (Ht rfl) (El.ag rfl) (i:=0) rfl rfl (by rw [List.length_map,hl9]; exact hin)) ?_
    refine Y.D_done aL rfl (by kernel_rfl) rfl (by simp [Y.okP]) rfl rfl (bU (bU (bU (bU (bU (bU (bU (bU (bU (bU (bU (bU (bU (bU (bU (bU (bU (Y.F_putI (Y.F_nil ?_)))))))))))))))))))
    refine ro rfl (cR U_29 Z_51 (Ht rfl) (Ht rfl) rfl (i:=6) rfl (by rw [List.length_map,hl10]; exact hin) rfl) ?_
    refine kV Z_51 (Ht rfl) (Ht rfl) (El.ag rfl) (i:=6) rfl rfl (by rw [List.length_map,hl10]; exact hin) rfl ?_
    refine eZ (bC (dQ (ro rfl (dW (Ht rfl) (cV 1) z6) (rm rfl (eZ (bR [0,1,2,3,4,5,6] rfl (by decide) (fY (i + 1) hin zo (zS rfl) (aU (aB rfl) (aU (aB rfl) (aU (aB rfl) (aU (aB rfl) (aU (aB rfl) (aU (bO (by rw [eN]; exact congrArg _ (jJ (f:=(fun i=>Qi.ofInt 1 + fT z w i))))) (aU (bO (by rw [eN]; exact congrArg _ (jJ (f:=(fun i=>Qi.ofInt 1 - fT z w i))))) aY))))))))))))))
   ·have hin : i = w.length := by simp only [decide_eq_false_iff_not] at hc; omega
    rw [hin,jI,jI]
    refine gW rfl (gV (i:=5) (tt:=9) rfl rfl jG (gV (i:=6) (tt:=10) rfl rfl jG (gV (i:=0) (tt:=2) rfl rfl Dp (gV (i:=1) (tt:=3) rfl rfl oE (ts (ro rfl (qI (γ:=Bool) (Ts:=fun x=>cond x [bB (Zq z w),bB (Zr z w)] [bB (Zr z w),bB (Zq z w)]) (U:=fun x=>cond x (bL (Hn z w s)) (bL (qT z w s))) Tryz.call184 (fun x=>a4g (x:=x) (a4T (z:=z) (s:=s) rfl zo hMl hPl (by rw [hl]; exact hs) hMf hPf hf zo hK zo) (a4T (z:=z) (s:=s) rfl zo hPl hMl (by rw [hl]; exact hs) hPf hMf hf zo hK zo)) ⟨(Ht rfl),(Ht rfl),trivial⟩) ?_))))))
    refine ra rfl (eZ (ts (rm rfl (rm rfl (rm rfl (ro rfl (rJ true (Ht rfl) ⟨(Ht rfl),(Ht rfl),trivial⟩) (rm rfl (rm rfl (rm rfl (ro rfl (rJ false (Ht rfl) ⟨(Ht rfl),(Ht rfl),trivial⟩) (ro rfl (cJ Tryz.call186 (Rc (Y:=Hn z w s) (M:=qT z w s) (n:=w.length) (K:=2 * (M + 3 * L + 4) + K + 2) (lI _ _ _ _) (lI _ _ _ _) (xN hMf hPf hf zo hK) zo zo hsz hX zo) ⟨(Ht rfl),(Ht rfl),trivial⟩) (rm rfl (ro rfl (dU (Ht rfl) rfl) (ro rfl (dU (Ht rfl) rfl) (ra rfl (ra rfl (eZ (cU (ts ?_)))))))))))))))))))
    refine rm rfl (ro rfl (iR (Ht rfl) cW) (eZ (dX (Ht rfl) (fun hd=>?_) (fun hd=>?_))))
    ·have hno : Lr (qT z w s) w.length ≠ 0 := by simpa using hd
     refine ts (ro rfl (aM.imp (oA ) oH) (rm rfl (gX Z_32 (Ht rfl) (Ht rfl) rfl (i:=2) rfl (aK rfl) rfl rfl (ra rfl (eZ (bM rfl (fZ (fU A_32 Z_32 rfl (i:=2) rfl rfl) ?_) (fZ (eY rfl) ?_)))))))
     ·exact (fun v V h=>by rw [yK,jQ,dA,dA,hov,if_neg hno,if_neg hno]; exact h)
     ·exact (aS hov.symm)
    ·have hno : Lr (qT z w s) w.length = 0 := by simpa using hd
     refine cY (ts (ro rfl (dV A_29 Z_29 (Ht rfl)) (ro rfl (cJ Tryz.call158 (Ke (l:=w) zo) ⟨(Ht rfl),trivial⟩) (rm rfl (ro rfl (yR (Ht rfl) (Ht rfl)) (gX Z_32 (Ht rfl) (Ht rfl) rfl (i:=2) rfl (aK rfl) rfl rfl (ro rfl (cX (cV 0)) (eZ (bM rfl (fZ (fU A_32 Z_32 rfl (i:=2) rfl rfl) ?_) (fZ (eY rfl) ?_))))))))))
     ·exact (fun v V h=>by rw [yK,dA,hov,hno,if_pos rfl,hovX]; exact h)
     ·exact (aS (hov.trans hno).symm)
end
section
open Go Go.RowKit
theorem a43 {M:List (List Qi)} {n:Nat} (h:Lr M n ≠ 0):Lr M n = 5:=by
 unfold Lr at h ⊢
 by_cases e:oM M n = 0
 ·rw [if_pos e] at h; exact absurd rfl h
 ·rw [if_neg e]
theorem Ri {z w:List Qi} {s:List (List Qi)} {L M K G X:Nat} (hs:cI s z.length z.length) (hz:cB z L) (hw:cB w M) (hf:bA s K) (hL:1 ≤ L) (hM:1 ≤ M) (hK:1 ≤ K) (hLb:L ≤ 1000000000) (hMb:M ≤ 1000000000) (hKb:K ≤ 100000000000) (hp:z.all eO = true) (h8:z.length ≤ 8) (hwl:w.length ≤ 1000) (hsz:w.length = z.length → ∀ i,i < w.length → SzJ (qT z w s) (ek w.length i) w.length G) (hif:w.length = z.length → oM (qT z w s) w.length = 0 → bA (nN (qT z w s) w.length) X) (hX:X ≤ 900000000000):bE Tryz.prog 143 [zL z s,tJ w] (eS [zL (yK z w s) (jQ z w s),aT .i64 (uE z w s)]):=by
 have hsl:=hs.1
 refine bE.intro Tryz.func143 rfl Tryz.ntmps143 rfl (fun cx=>(ts (rn rfl (fK (Ht rfl)) fun B2=>(rn rfl (eG (Ts:=[Is (.slice none 0 0),Is (.slice none 0 0)]) O_38 rfl (fun V=>aW zd (aW zd (aG)))) fun B4=>(ro rfl (cX (cV 0)) (eZ (cU (ts (rm rfl (ro rfl (dK U_35 (Ht rfl) aA) (ro rfl (eJ rW (Ht rfl) rfl) (ro rfl (fQ A_35 Z_35 (Ht rfl) (i:=0) rfl rfl) (ro rfl (dK U_35 (Ht rfl) aA) (ro rfl (fB (Ht rfl) (Ht rfl)) ?_))))))))))))))
 refine eZ (dX (Ht rfl) (fun hb=>?_) (fun hb=>?_))
 ·have hn : w.length ≠ z.length := by simpa using hb
  have he:=Lx (s:=s) hn
  refine ts (ro rfl (aM.imp (zP ) wK) (gX Z_38 (Ht rfl) (Ht rfl) rfl (i:=1) rfl (aK rfl) rfl rfl (ro rfl (cX (cV 4)) (eZ (bM rfl (fZ (fU A_38 Z_38 rfl (i:=1) rfl rfl) ?_) (fZ (eY rfl) ?_))))))
  ·exact (fun v V h=>by rw [yK,jQ,dA,dA,he]; exact h)
  ·exact (aS he.symm)
 ·have hl : w.length = z.length := by simpa using hb
  have hsz:=hsz hl
  have hif:=hif hl
  rw [← hl] at hs
  refine cY (cU (ts (rm rfl (ro rfl (cJ Tryz.call190 (yI hw zo zo) ⟨(Ht rfl),trivial⟩) (ro rfl (dR (Ht rfl)) (eZ (dX (Ht rfl) (fun hb2=>?_) (fun hb2=>?_))))))))
  ·have hq : w.all eO ≠ true := fun e => by rw [e] at hb2; simp at hb2
   have he:=a1U (s:=s) hl hq
   refine ts (ro rfl (aM.imp (zP ) wK) (gX Z_38 (Ht rfl) (Ht rfl) rfl (i:=1) rfl (aK rfl) rfl rfl (ro rfl (cX (cV 1)) (eZ (bM rfl (fZ (fU A_38 Z_38 rfl (i:=1) rfl rfl) ?_) (fZ (eY rfl) ?_))))))
   ·exact (fun v V h=>by rw [yK,jQ,dA,dA,he]; exact h)
   ·exact (aS he.symm)
  ·have hq : w.all eO = true := by simpa using hb2
   have hov:=a1V (s:=s) hl hq
   have hovX:=a1W (s:=s) hl hq
   have hPf:=xT hz hw hL hM hp hl
   have hMf:=xS hz hw hL hM hp hl
   obtain ⟨n,hn⟩:∃ n,n = w.length:=⟨_,rfl⟩
   have hzl:z.length = n:=by omega
   rw [← hn] at hs
   refine cY (ts (rm rfl (ro rfl (aM.nat (dK U_35 (Ht rfl) aA) hn.symm) (rm rfl (ro rfl (aM.nat (dK U_35 (Ht rfl) aA) hn.symm) (hJ K_129 (rB (n:=n) (m:=n) zo zo) ⟨(Ht rfl),(Ht rfl),trivial⟩ rfl (fun B31 _=>(rm rfl (ro rfl (aM.nat (dK U_35 (Ht rfl) aA) hn.symm) (rm rfl (ro rfl (aM.nat (dK U_35 (Ht rfl) aA) hn.symm) (hJ K_129 (rB (n:=n) (m:=n) zo zo) ⟨(Ht rfl),(Ht rfl),trivial⟩ rfl (fun B36 _=>?_)))))))))))))
   refine ra rfl (ra rfl (eZ (cU (ts (ro rfl (cX (cV 0)) (eZ (eK ?_)))))))
   refine bS (fun (j : Nat) => j ≤ n) (fun (j : Nat) => n - j) (fun (j : Nat) => [(1, tJ w), (2, cC B2 0), (4, cC B4 0), (6, Is (.slice (some ⟨B31, 0, none⟩) n n)), (7, Is (.slice (some ⟨B36, 0, none⟩) n n)), (8, NT .i64 j)]) (fun (j : Nat) => [box B2 38 [tJ z, QM s], box B4 38 [Is (.slice none 0 0), Is (.slice none 0 0)], jU dT B31 35 131 5 (bP QT (oC (raE z w s) n n j 0)), jU dT B36 35 131 5 (bP QT (oC (rbE z w s) n n j 0))]) 0 (Nat.zero_le _)
    (zS rfl) (aU (aB rfl) (aU (aB rfl) (aU (bF (by rw [mI,← xD]; rfl)) (aU (bF (by rw [mI,← xD]; rfl)) aY)))) (fun j hj=>?_)
   refine cU (ts (rm rfl (rm rfl (ro rfl (aM.nat (dK U_35 (Ht rfl) aA) hn.symm) (ro rfl (gZ (Ht rfl) (Ht rfl)) (eZ (dX (Ht rfl) (fun hc=>?_) (fun hc=>?_))))))))
   ·have hjn : j < n := by simp only [decide_eq_true_eq] at hc; omega
    refine cY (cU (eK (ts (ro rfl (cX (cV 0)) (eZ (eK ?_))))))
    refine bS (fun (i : Nat) => i ≤ n) (fun (i : Nat) => n - i) (fun (i : Nat) => [(1, tJ w), (2, cC B2 0), (4, cC B4 0), (6, Is (.slice (some ⟨B31, 0, none⟩) n n)), (7, Is (.slice (some ⟨B36, 0, none⟩) n n)), (8, NT .i64 j), (9, NT .i64 i)]) (fun (i : Nat) => [box B2 38 [tJ z, QM s], box B4 38 [Is (.slice none 0 0), Is (.slice none 0 0)], jU dT B31 35 131 5 (bP QT (oC (raE z w s) n n j i)), jU dT B36 35 131 5 (bP QT (oC (rbE z w s) n n j i))]) 0 (Nat.zero_le _)
     (zS rfl) (aU (aB rfl) (aU (aB rfl) (aU (fun _ _ _ h=>h) (aU (fun _ _ _ h=>h) aY)))) (fun i hi=>?_)
    refine cU (ts (rm rfl (rm rfl (ro rfl (aM.nat (dK U_35 (Ht rfl) aA) hn.symm) (ro rfl (gZ (Ht rfl) (Ht rfl)) (eZ (dX (Ht rfl) (fun hd=>?_) (fun hd=>?_))))))))
    ·have hin : i < n := by simp only [decide_eq_true_eq] at hd; omega
     have hsr:=hs.row hin
     have hzn:=nZ hp (show i < z.length by omega)
     haveI f0:=a4a i j
     haveI f1:aE (gm s i j) K:=hf.get hK i j
     haveI f2:aE (gv z i) L:=hz.get hL i
     haveI f3:aE (gv w i) M:=hw.get hM i
     haveI f4:aE (rvE s i j) (1 + K + 1):=inferInstanceAs (aE (_ + _) _)
     haveI f5:aE (Mg i j - gm s i j) (1 + K + 1):=fitSub
     haveI f6:aE (Wh z s i j) (1 + K + 1 + 3 * L + 2):=xH f5 f2 hzn
     refine cY (cU (eK (ts (ro rfl (cJ K_148 (rD (n:=0) (by decide) (by decide)) ⟨(cV 0),trivial⟩) (rn rfl (eG (Ts:=[Is (.bool false),Is (.slice none 0 0),Is (.bool false),Is (.slice none 0 0),Is (.slice none 0 0)]) O_131 rfl (fun V=>aW zd (aW zd (aW zd (aW zd (aW zd (aG))))))) fun B10=>(gX Z_131 (Ht rfl) (Ht rfl) rfl (i:=4) rfl (aK rfl) rfl rfl (eZ (cU (jS (fun (q:Qi)=>q = Mg i j) (fun (q:Qi)=>[(1,tJ w),(2,cC B2 0),(4,cC B4 0),(6,Is (.slice (some ⟨B31,0,none⟩) n n)),(7,Is (.slice (some ⟨B36,0,none⟩) n n)),(8,NT .i64 j),(9,NT .i64 i),(10,cC B10 0)]) (fun (q:Qi)=>[box B2 38 [tJ z,QM s],box B4 38 [Is (.slice none 0 0),Is (.slice none 0 0)],jU dT B31 35 131 5 (bP QT (oC (raE z w s) n n j i)),jU dT B36 35 131 5 (bP QT (oC (rbE z w s) n n j i)),box B10 131 [aD (decide (q.a < 0)),aH q.a.natAbs,aD (decide (q.b < 0)),aH q.b.natAbs,aH q.den]]) ?_ (fun q hqd=>?_))))))))))
     ·refine ts (rm rfl (rm rfl (ro rfl (cT (Ht rfl) (Ht rfl)) (eZ (dX (Ht rfl) (fun hk => ?_) (fun hk => ?_))))))
      ·have hij : i = j := by simpa using hk
       refine dQ (ro rfl (cJ K_148 (rD (n:=1) (by decide) (by decide)) ⟨(cV 1),trivial⟩) (gX Z_131 (Ht rfl) (Ht rfl) rfl (i:=4) rfl (aK rfl) rfl rfl (eZ (bD (Qi.ofInt 1) (by rw [Mg,if_pos hij]) (zS rfl) (aU (aB rfl) (aU (aB rfl) (aU (fun _ _ _ h=>h) (aU (fun _ _ _ h=>h) (aU (aB rfl) aY)))))))))
      ·have hij : ¬ i = j := by simpa using hk
       refine cY (bD (Qi.ofInt 0) (by rw [Mg,if_neg hij]) (zS rfl) (aU (aB rfl) (aU (aB rfl) (aU (fun _ _ _ h=>h) (aU (fun _ _ _ h=>h) (aU (aB rfl) aY))))))
     ·subst hqd
      refine cU (fJ (m:=11) (dp 10 rfl (eW A_131 Z_131 (Ht rfl) (i:=4) rfl rfl rfl) (dp 2 rfl (eJ Dn (Ht rfl) rfl) (dq 55 1 rfl (fQ A_36 Z_36 (Ht rfl) (i:=0) rfl rfl) (dp 9 rfl (cZ (Ht rfl)) (cP 56 2 57 3 rfl (dJ U_36 Z_35 (Ht rfl) (Ht rfl) rfl (eQ (dY (d:=[]) zo))) (dq 58 4 rfl (dV A_35 Z_35 (Ht rfl)) (dp 8 rfl (cZ (Ht rfl)) (cP 59 5 60 6 rfl (dJ U_35 Z_131 (Ht rfl) (Ht rfl) rfl (eQ (dY (d:=Qi.zero) zo))) ?_)))))))))
      refine dq 61 7 rfl (dV A_131 Z_131 (Ht rfl)) (cP 54 0 62 8 rfl (cJ K_149 (yU (x:=Mg i j) (y:=gm s i j) (L:=1) (M:=K) zo) ⟨(Ht rfl),(Ht rfl),trivial⟩) (C.D_new (Ei:=[]) rfl rfl rfl bW (eG (Ts:=[Is (.bool false),Is (.slice none 0 0),Is (.bool false),Is (.slice none 0 0),Is (.slice none 0 0)]) O_131 rfl (fun V=>aW zd (aW zd (aW zd (aW zd (aW zd (aG))))))) (fW aL rfl (by kernel_rfl) (zF (zF (aJ (aJ (C.F_new (fun B11=>aV ?_)))))))))
      refine gX Z_131 (Ht rfl) (Ht rfl) rfl (i:=5) rfl (aK rfl) rfl rfl (eZ (cU (Y.D_start (m:=21) [] (cQ (Ei:=[(10,_)]) rfl rfl (bQ (bJ rfl rfl) bX) rfl rfl (dZ rfl (eW A_131 Z_131 (Ht rfl) (i:=4) rfl rfl rfl)) (cQ (Ei:=[(2,_)]) rfl rfl (bQ (bJ rfl rfl) bX) rfl rfl (dZ rfl (eJ Dn (Ht rfl) rfl)) (cQ (Ei:=[(66,_)]) rfl rfl (bQ (bZ 1 rfl rfl) bX) rfl rfl (dZ rfl (fQ A_36 Z_36 (Ht rfl) (i:=0) rfl rfl)) ?_))))))
      refine cQ (Ei:=[(9,_)]) rfl rfl (bQ (bJ rfl rfl) bX) rfl rfl (dZ rfl (cZ (Ht rfl))) (cQ (Ei:=[(67,_),(68,_)]) rfl rfl (bQ (bZ 2 rfl rfl) (bQ (bZ 3 rfl rfl) bX)) rfl rfl (dZ rfl (dJ U_36 Z_35 (Ht rfl) (Ht rfl) rfl (eQ (dY (d:=[]) zo)))) (cQ (Ei:=[(69,_)]) rfl rfl (bQ (bZ 4 rfl rfl) bX) rfl rfl (dZ rfl (dV A_35 Z_35 (Ht rfl))) (cQ (Ei:=[(8,_)]) rfl rfl (bQ (bJ rfl rfl) bX) rfl rfl (dZ rfl (cZ (Ht rfl))) ?_)))
      refine cQ (Ei:=[(70,_),(71,_)]) rfl rfl (bQ (bZ 5 rfl rfl) (bQ (bZ 6 rfl rfl) bX)) rfl rfl (dZ rfl (dJ U_35 Z_131 (Ht rfl) (Ht rfl) rfl (eQ (dY (d:=Qi.zero) zo)))) (cQ (Ei:=[(72,_)]) rfl rfl (bQ (bZ 7 rfl rfl) bX) rfl rfl (dZ rfl (dV A_131 Z_131 (Ht rfl))) (cQ (Ei:=[(65,_),(73,_)]) rfl rfl (bQ (bZ 0 rfl rfl) (bQ (bZ 8 rfl rfl) bX)) rfl rfl (dZ rfl (cJ Tryz.call147 (Kn (x:=Mg i j) (y:=gm s i j) (L:=1) (M:=K) zo) ⟨(Ht rfl),(Ht rfl),trivial⟩)) ?_))
      refine cQ (Ei:=[(2,_)]) rfl rfl (bQ (bJ rfl rfl) bX) rfl rfl (dZ rfl (eJ rW (Ht rfl) rfl)) (cQ (Ei:=[(75,_)]) rfl rfl (bQ (bZ 10 rfl rfl) bX) rfl rfl (dZ rfl (fQ A_35 Z_35 (Ht rfl) (i:=0) rfl rfl)) (cQ (Ei:=[(9,_)]) rfl rfl (bQ (bJ rfl rfl) bX) rfl rfl (dZ rfl (cZ (Ht rfl))) (cQ (Ei:=[(76,_),(77,_)]) rfl rfl (bQ (bZ 11 rfl rfl) (bQ (bZ 12 rfl rfl) bX)) rfl rfl (dZ rfl (dJ U_35 Z_131 (Ht rfl) (Ht rfl) rfl (eQ (dY (d:=Qi.zero) zo)))) ?_)))
      refine cQ (Ei:=[(78,_)]) rfl rfl (bQ (bZ 13 rfl rfl) bX) rfl rfl (dZ rfl (dV A_131 Z_131 (Ht rfl))) (cQ (Ei:=[(74,_),(79,_)]) rfl rfl (bQ (bZ 9 rfl rfl) (bQ (bZ 14 rfl rfl) bX)) rfl rfl (dZ rfl (cJ Tryz.call144 (Dg (x:=Mg i j - gm s i j) (y:=gv z i) (L:=1 + K + 1) (M:=L) zo) ⟨(Ht rfl),(Ht rfl),trivial⟩)) (cQ (Ei:=[(80,_)]) rfl rfl (bQ (bZ 15 rfl rfl) bX) rfl rfl (dZ rfl (cZ (Ht rfl))) (cQ (Ei:=[(64,_)]) rfl rfl (bQ (bZ 16 rfl rfl) bX) rfl rfl (dZ rfl (dU (Ht rfl) rfl)) ?_)))
      refine cQ (Ei:=[(64,_)]) rfl rfl (bQ (bZ 16 rfl rfl) bX) rfl rfl (dZ rfl (dU (Ht rfl) rfl)) (Y.D_newp (Ei:=[]) (fun bb=>box bb 131 [aD (decide ((Wh z s i j).a < 0)),aH (Wh z s i j).a.natAbs,aD (decide ((Wh z s i j).b < 0)),aH (Wh z s i j).b.natAbs,aH (Wh z s i j).den]) 20 rfl rfl rfl bX rfl rfl (by kernel_rfl) (eG (Ts:=[Is (.bool false),Is (.slice none 0 0),Is (.bool false),Is (.slice none 0 0),Is (.slice none 0 0)]) O_131 rfl (fun V=>aW zd (aW zd (aW zd (aW zd (aW zd (aG))))))) ?_)
      refine Y.D_putN (Ei:=[(81,_)]) 19 rfl rfl rfl rfl rfl rfl (bQ (bZ 17 rfl rfl) bX) (fun bb=>kQ Z_131 (Ht rfl) (Ht rfl) rfl (i:=0) rfl (aK rfl) rfl rfl) (Y.D_done aL rfl (by kernel_rfl) rfl (by simp [Y.okP]) rfl rfl (bU (bU (bU (bU (bU (bU (bU (bU (bU (bU (bU (bU (bU (bU (bU (bU (bU (bU (bU (Y.F_newp (fun B12=>Y.F_putN (Y.F_nil ?_)))))))))))))))))))))))
      refine ra rfl (eZ (cU ?_))
      have hpl2:=(mB (raE z w s) n n j i).1
      have hpr2:((oC (raE z w s) n n j i).getD i []).length = n:=(mB (raE z w s) n n j i).row hin
      refine kE 2 (i) rfl (kY zo) (fun va hva=>(fJ (m:=13) (dp 6 rfl (cZ (Ht rfl)) (dp 9 rfl (cZ (Ht rfl)) (cP 83 0 84 1 rfl (gQ U_36 Z_35 (Ht rfl) (Ht rfl) rfl zo (by rw [Nat.mul_one,Nat.zero_add])) ?_)))))
      refine dq 85 2 rfl (gI A_35 Z_35 (Ht rfl) (j:=2) rfl) (dp 8 rfl (cZ (Ht rfl)) (dp 11 rfl (eW A_131 Z_131 (Ht rfl) (i:=5) rfl rfl rfl) (dp 1 rfl (cZ (Ht rfl)) (dp 9 rfl (cZ (Ht rfl)) (cP 89 6 90 7 rfl (dJ U_35 Z_131 (Ht rfl) (Ht rfl) rfl (eQ (dY (d:=Qi.zero) zo))) (dq 91 8 rfl (dV A_131 Z_131 (Ht rfl)) (dp 12 rfl (eW A_131 Z_131 (Ht rfl) (i:=6) rfl rfl rfl) (cP 92 9 93 10 rfl (cJ K_146 (rC (x:=gv w i) (y:=Wh z s i j) (L:=M) (M:=1 + K + 1 + 3 * L + 2) zo) ⟨(Ht rfl),(Ht rfl),trivial⟩) ?_))))))))
      refine cP 88 5 94 11 rfl (cJ K_149 (yU (x:=rvE s i j) (y:=gv w i * Wh z s i j) (L:=1 + K + 1) (M:=M + (1 + K + 1 + 3 * L + 2) + 1) zo) ⟨(Ht rfl),(Ht rfl),trivial⟩) (fW aL rfl (by kernel_rfl) (zF (zF (zF (aJ (aV (ro rfl (cR U_35 Z_131 (Ht rfl) (Ht rfl) rfl (i:=7) rfl (by rw [List.length_map]; omega) rfl) ?_)))))))
      refine kV Z_131 (Ht rfl) (Ht rfl) (El.ag rfl) (i:=7) rfl rfl (by rw [List.length_map]; omega) rfl ?_
      refine eZ (dL 2 7 rfl rfl (by decide) (by simp only [bP,List.length_map]; omega) ?_)
      have hpl3:=(mB (rbE z w s) n n j i).1
      have hpr3:((oC (rbE z w s) n n j i).getD i []).length = n:=(mB (rbE z w s) n n j i).row hin
      refine kE 3 (i) rfl (kY zo) (fun vb hvb=>(fJ (m:=13) (dp 7 rfl (cZ (Ht rfl)) (dp 9 rfl (cZ (Ht rfl)) (cP 97 0 98 1 rfl (gQ U_36 Z_35 (Ht rfl) (Ht rfl) rfl zo (by rw [Nat.mul_one,Nat.zero_add])) ?_)))))
      refine dq 99 2 rfl (gI A_35 Z_35 (Ht rfl) (j:=3) rfl) (dp 8 rfl (cZ (Ht rfl)) (dp 11 rfl (eW A_131 Z_131 (Ht rfl) (i:=5) rfl rfl rfl) (dp 1 rfl (cZ (Ht rfl)) (dp 9 rfl (cZ (Ht rfl)) (cP 103 6 104 7 rfl (dJ U_35 Z_131 (Ht rfl) (Ht rfl) rfl (eQ (dY (d:=Qi.zero) zo))) (dq 105 8 rfl (dV A_131 Z_131 (Ht rfl)) (dp 12 rfl (eW A_131 Z_131 (Ht rfl) (i:=6) rfl rfl rfl) (cP 106 9 107 10 rfl (cJ K_146 (rC (x:=gv w i) (y:=Wh z s i j) (L:=M) (M:=1 + K + 1 + 3 * L + 2) zo) ⟨(Ht rfl),(Ht rfl),trivial⟩) ?_))))))))
      refine cP 102 5 108 11 rfl (cJ Tryz.call147 (Kn (x:=rvE s i j) (y:=gv w i * Wh z s i j) (L:=1 + K + 1) (M:=M + (1 + K + 1 + 3 * L + 2) + 1) zo) ⟨(Ht rfl),(Ht rfl),trivial⟩) (fW aL rfl (by kernel_rfl) (zF (zF (zF (aJ (aV (ro rfl (cR U_35 Z_131 (Ht rfl) (Ht rfl) rfl (i:=8) rfl (by rw [List.length_map]; omega) rfl) ?_)))))))
      refine kV Z_131 (Ht rfl) (Ht rfl) (El.ag rfl) (i:=8) rfl rfl (by rw [List.length_map]; omega) rfl ?_
      refine eZ (bC (dL 3 8 rfl rfl (by decide) (by simp only [bP,List.length_map]; omega) ?_))
      refine dQ (rm rfl (ro rfl (dW (Ht rfl) (cV 1) z6) (ra rfl (eZ (bR [0,1,2,3] rfl (by decide) (fY (i + 1) hin zo (zS rfl) (aU (aB rfl) (aU (aB rfl) (aU (bF (by rw [eN,eE]; exact congrArg _ (sR (val:=raE z w s) hin hjn))) (aU (bF (by rw [eN,eE]; exact congrArg _ (sR (val:=rbE z w s) hin hjn))) aY))))))))))
    ·have hin : i = n := by simp only [decide_eq_false_iff_not] at hd; omega
     rw [hin,zT,zT]
     refine gW rfl (bC (dQ (rm rfl (ro rfl (dW (Ht rfl) (cV 1) z6) (ra rfl (eZ (fY (j + 1) hjn zo (zS rfl) (aU (aB rfl) (aU (aB rfl) (aU (fun _ _ _ h=>h) (aU (fun _ _ _ h=>h) aY)))))))))))
   ·have hjn : j = n := by simp only [decide_eq_false_iff_not] at hc; omega
    subst hjn
    subst hn
    rw [a6G hl hp,a6H hl hp]
    refine gW rfl (gV (i:=2) (tt:=6) rfl rfl (fL (s:=5) (M:=qT z w s) (lI _ _ _ _).1.symm) (gV (i:=3) (tt:=7) rfl rfl (fL (s:=5) (M:=Hn z w s) (lI _ _ _ _).1.symm) (ts (rm rfl (rm rfl (ro rfl (cJ Tryz.call222 (a0w (Y:=Hn z w s) (M:=qT z w s) (n:=w.length) (K:=2 * (M + 3 * L + 4) + K + 2) (lI _ _ _ _) (lI _ _ _ _) (xN hMf hPf hf zo hK) zo zo hsz hif hX zo) ⟨(Ht rfl),(Ht rfl),trivial⟩) (rm rfl (ro rfl (dU (Ht rfl) rfl) (ro rfl (dU (Ht rfl) rfl) (ra rfl ?_))))))))))
    refine ra rfl (eZ (cU (ts (rm rfl (ro rfl (dR (Ht rfl)) (eZ (dX (Ht rfl) (fun hd=>?_) (fun hd=>?_))))))))
    ·have hno : Lr (qT z w s) w.length ≠ 0 := by simpa using hd
     have h5:=a43 hno
     refine ts (ro rfl (aM.imp (zP ) wK) (gX Z_38 (Ht rfl) (Ht rfl) rfl (i:=1) rfl (aK rfl) rfl rfl (ro rfl (cX (cV 5)) (eZ (bM rfl (fZ (fU A_38 Z_38 rfl (i:=1) rfl rfl) ?_) (fZ (eY rfl) ?_))))))
     ·exact (fun v V h=>by rw [yK,jQ,dA,dA,hov,if_neg hno,if_neg hno]; exact h)
     ·exact (aS (hov.trans h5).symm)
    ·have hno : Lr (qT z w s) w.length = 0 := by simpa using hd
     refine cY (ts (rm rfl (rm rfl (ro rfl (Ez (Ht rfl) (Ht rfl)) (gX Z_38 (Ht rfl) (Ht rfl) rfl (i:=1) rfl (aK rfl) rfl rfl (ro rfl (cX (cV 0)) (eZ (bM rfl (fZ (fU A_38 Z_38 rfl (i:=1) rfl rfl) ?_) (fZ (eY rfl) ?_)))))))))
     ·exact (fun v V h=>by rw [yK,dA,hov,hno,if_pos rfl,hovX]; exact h)
     ·exact (aS (hov.trans hno).symm)
end
section
open Go Go.RowKit
theorem Ol (v : Value) (w : World) : (method (Tryz.prog.types.size + Made.depth) 51 v "Neg").run Tryz.prog w = .ok (140, v) w := by kernel_rfl
end
section
open Go Go.RowKit
theorem Lj {z w:List Qi} {S:List (List Qi)} {i k V D:Nat} (hS:bA S V) (hV:1 ≤ V) (hr:aE (fT z w k) D):aE (qQ z w S i k) (V + 2 * D + 12):=by
 haveI:=hr; haveI:=Kz; haveI:=kS; haveI:=hS.get hV i k
 haveI a1:aE (Qi.ofInt 1 + fT z w k) (1 + D + 1):=fitAdd
 haveI a2:aE (Qi.ofInt 1 - fT z w k) (1 + D + 1):=fitSub
 haveI a3:aE ((Qi.ofInt 1 + fT z w k) * lG) (1 + D + 1 + 2 + 1):=fitMul (L:=1 + D + 1) (M:=2)
 haveI a4:aE ((Qi.ofInt 1 - fT z w k) * lG) (1 + D + 1 + 2 + 1):=fitMul (L:=1 + D + 1) (M:=2)
 haveI a5:aE (gm S i k * ((Qi.ofInt 1 - fT z w k) * lG)) (V + (1 + D + 1 + 2 + 1) + 1):=fitMul (L:=V) (M:=1 + D + 1 + 2 + 1)
 unfold qQ
 by_cases e:i = k
 ·rw [if_pos e]; exact (fitSub (x:=(Qi.ofInt 1 + fT z w k) * lG) (y:=gm S i k * ((Qi.ofInt 1 - fT z w k) * lG)) (L:=1 + D + 1 + 2 + 1) (M:=V + (1 + D + 1 + 2 + 1) + 1)).le zo
 ·rw [if_neg e]; exact (fitNeg (x:=gm S i k * ((Qi.ofInt 1 - fT z w k) * lG))).le zo
theorem Jj {z w:List Qi} {s:List (List Qi)} (h:uE z w s = 0):w.length = z.length:=by
 apply Decidable.byContradiction; intro c
 rw [Lx c] at h; omega
theorem Bi {z w:List Qi} {s c:List (List Qi)} {L M K V W G X:Nat} (hs:cI s z.length z.length) (hch:cI c z.length z.length) (hz:cB z L) (hw:cB w M) (hf:bA s K) (hfc:bA c W) (hL:1 ≤ L) (hM:1 ≤ M) (hK:1 ≤ K) (hW:1 ≤ W) (hLb:L ≤ 1000) (hMb:M ≤ 1000) (hKb:K ≤ 100000000000) (hWb:W ≤ 450000000) (hp:z.all eO = true) (h8:z.length ≤ 8) (hwl:w.length ≤ 1000) (hsz:w.length = z.length → ∀ i,i < w.length → SzS (qT z w s) (ek w.length i) w.length G X) (hX:X ≤ 900000000000) (hV:bA (jQ z w s) V) (hV1:1 ≤ V) (hVb:V ≤ 400000000):bE Tryz.prog 47 [fP z s c,bB w] (eS [fP (yK z w s) (jQ z w s) (Cp z w s c),aT .i64 (uE z w s)]):=by
 have hR:=Xb hs hz hw hf hL hM hK zo zo hKb hp h8 hwl hsz hX
 haveI h5:=Kz
 haveI h6:=kS
 refine bE.intro Tryz.func47 rfl Tryz.ntmps47 rfl (fun cx=>(ts (rn rfl (fK (Ht rfl)) fun B2=>(rn rfl (eG (Ts:=[Is (.slice none 0 0),Is (.slice none 0 0),Is (.slice none 0 0)]) O_34 rfl (fun V=>aW zd (aW zd (aW zd (aG))))) fun B4=>(ro rfl (cX (cV 0)) (eZ (ts (ro rfl (eJ oD (Ht rfl) rfl) (ro rfl (eW A_32 Z_32 (Ht rfl) (i:=0) rfl rfl rfl) (rm rfl (ro rfl (cJ Tryz.call84 hR ⟨(Ht rfl),(Ht rfl),trivial⟩) (rm rfl (ro rfl (dU (Ht rfl) rfl) ?_)))))))))))))
 refine ro rfl (dU (Ht rfl) rfl) (rn rfl (eG (Ts:=[Is (.slice none 0 0),Is (.slice none 0 0)]) O_32 rfl (fun V=>aW zd (aW zd (aG)))) fun B6=>(gX Z_32 (Ht rfl) (Ht rfl) rfl (i:=2) rfl (aK rfl) rfl rfl (ra rfl (eZ (cU (ts (rm rfl (ro rfl (iR (Ht rfl) cW) (eZ (dX (Ht rfl) (fun hb=>?_) (fun hb=>?_)))))))))))
 ·have he : uE z w s ≠ 0 := by simpa using hb
  refine ts (ro rfl (aM.imp (tL ) oW) (rm rfl (gX Z_34 (Ht rfl) (Ht rfl) rfl (i:=1) rfl (aK rfl) rfl rfl (ra rfl (eZ (bM rfl (fZ (fU A_34 Z_34 rfl (i:=1) rfl rfl) ?_) (eY rfl)))))))
  exact (fun v V h=>by rw [yK,jQ,Cp,dA,dA,dA,if_neg he,if_neg he,if_neg he]; exact h)
 ·have he : uE z w s = 0 := by simpa using hb
  have hl:=Jj he
  obtain ⟨hq,-,hSx,hZ⟩:=qK (n:=z.length) rfl hl he
  have hS2:cI (jQ z w s) w.length w.length:=by rw [hSx,hl]; exact gS
  have hC:Cp z w s c = iZ (Cq z w (jQ z w s) w.length) c:=by rw [Cp,dA,if_pos he]
  rw [hZ,hC,he]
  clear hR hsz hSx hZ hC he hb hs
  generalize jQ z w s = S at *
  obtain ⟨n,hn⟩:∃ n,n = w.length:=⟨_,rfl⟩
  have hzl:z.length = n:=by omega
  obtain ⟨D,hD⟩:∃ D,D = M + 3 * L + 2:=⟨_,rfl⟩
  refine cY (ts (ro rfl (cJ Tryz.call141 (a4N (p:=1) (q:=0) (d:=2) (by decide) (by decide) (by decide) (by decide) (by decide) (by decide) (by decide)) ⟨(cV 1),(cV 0),(cV 2),trivial⟩) (rm rfl (ro rfl (dU (Ht rfl) rfl) (ro rfl (dU (Ht rfl) rfl) (rn rfl (eG (Ts:=[Is (.bool false),Is (.slice none 0 0),Is (.bool false),Is (.slice none 0 0),Is (.slice none 0 0)]) O_51 rfl (fun V=>aW zd (aW zd (aW zd (aW zd (aW zd (aG))))))) fun B8=>?_))))))
  refine gX Z_51 (Ht rfl) (Ht rfl) rfl (i:=3) rfl (aK rfl) rfl rfl (ra rfl (eZ (cU (gV (i:=3) (tt:=8) rfl rfl Dp (bR [0,1,2] rfl (by decide) (dQ (ro rfl (eW A_32 Z_32 (Ht rfl) (i:=2) rfl rfl rfl) (hJ Tryz.call93 (Ue (z:=w) (s:=S) hS2 zo) ⟨(Ht rfl),trivial⟩ rfl (fun B34 _=>(ra rfl (eZ (ts (ro rfl (eJ oD (Ht rfl) rfl) (ro rfl (eW A_32 Z_32 (Ht rfl) (i:=0) rfl rfl rfl) (ro rfl (cJ Tryz.call142 (Rj zo) ⟨(Ht rfl),trivial⟩) ?_)))))))))))))))
  refine ra rfl (eZ (cU (cU ?_)))
  rw [← hn]
  refine dQ (rm rfl (ro rfl (iD U_30 (Ht rfl)) (ro rfl (cZ (cV 0)) (eZ (eK ?_)))))
  refine bS (fun (i : Nat) => i ≤ n) (fun (i : Nat) => n - i) (fun (i : Nat) => [(1, bB w), (2, cC B2 0), (4, cC B4 0), (6, cC B6 0), (8, PT (aI lG)), (10, Is (.slice (some ⟨B34, 0, none⟩) n n)), (11, bB z), (38, Is (.slice (some ⟨B34, 0, none⟩) n n)), (39, NT .i64 n), (40, NT .i64 i)]) (fun (i : Nat) => [box B2 34 [bB z, bL s, bL c], box B4 34 [Is (.slice none 0 0), Is (.slice none 0 0), Is (.slice none 0 0)], box B6 32 [bB w, bL S], oF B34 29 51 5 (bP aI (pR (fun i => tab n fun k => qQ z w S i k) (fun i => tab n fun k => gm S i k) n i))]) 0 (Nat.zero_le _)
   (zS rfl) (aU (aB rfl) (aU (aB rfl) (aU (aB rfl) (aU (bF (by rw [← lT])) aY)))) (fun i hi=>?_)
  refine ts (ro rfl (gZ (Ht rfl) (Ht rfl)) (eZ (cU (dX (Ht rfl) (fun hd=>?_) (fun hd=>?_)))))
  ·have hdn : i < n := by simp only [decide_eq_true_eq] at hd; omega
   refine nF 3 (i) rfl (sX hdn) (fun v=>(cY (cU (eK (ts (rm rfl (ro rfl (gQ U_30 Z_29 (Ht rfl) (Ht rfl) rfl zo (by rw [Nat.mul_one,Nat.zero_add])) ?_)))))))
   refine ro rfl (gI A_29 Z_29 (Ht rfl) (j:=3) rfl) (ra rfl (ra rfl (eZ (ts (rm rfl (ro rfl (sF U_29 (Ht rfl) (i:=4) rfl (show (((tab n fun k=>gm S i k).map aI).length:Int) = ((n:Nat):Int) by rw [List.length_map,aN])) (ro rfl (cZ (cV 0)) (eZ (eK ?_)))))))))
   refine bS (fun (j : Nat) => j ≤ n) (fun (j : Nat) => n - j) (fun (j : Nat) => [(1, bB w), (2, cC B2 0), (4, cC B4 0), (6, cC B6 0), (8, PT (aI lG)), (10, Is (.slice (some ⟨B34, 0, none⟩) n n)), (11, bB z), (12, NT .i64 i), (13, Is v), (38, Is (.slice (some ⟨B34, 0, none⟩) n n)), (39, NT .i64 n), (40, NT .i64 i), (46, NT .i64 n), (47, NT .i64 j)]) (fun (j : Nat) => [box B2 34 [bB z, bL s, bL c], box B4 34 [Is (.slice none 0 0), Is (.slice none 0 0), Is (.slice none 0 0)], box B6 32 [bB w, bL S], Hw B34 29 51 5 (bP aI (pR (fun i => tab n fun k => qQ z w S i k) (fun i => tab n fun k => gm S i k) n i)) i v, cL 51 5 v ((pR (fun k => qQ z w S i k) (fun k => gm S i k) n j).map aI)]) 0 (Nat.zero_le _)
    (zS rfl) (aU (aB rfl) (aU (aB rfl) (aU (aB rfl) (aU (fun _ _ _ h=>h) (aU (bO (by rw [← lT])) aY))))) (fun j hj=>?_)
   refine ts (ro rfl (gZ (Ht rfl) (Ht rfl)) (eZ (cU (dX (Ht rfl) (fun hf2=>?_) (fun hf2=>?_)))))
   ·have hjn : j < n := by simp only [decide_eq_true_eq] at hf2; omega
    have hrl:=lA (fun k=>qQ z w S i k) (fun k=>gm S i k) n j
    haveI q1:aE (gm S i j) V:=hV.get hV1 i j
    haveI q2:aE (gv w j) M:=hw.get hM j
    haveI q3:aE (gv z j) L:=hz.get hL j
    haveI q4:aE (fT z w j) D:=by rw [hD]; exact sG hz hw hL hM hp zo
    have hne:=nZ hp (show j < z.length by omega)
    refine cY (cU (eK (ts (rm rfl (ra rfl (eZ (cU (Y.D_start (m:=14) [] (cQ (Ei:=[(1,_)]) rfl rfl (bQ (bJ rfl rfl) bX) rfl rfl (dZ rfl (cZ (Ht rfl))) (cQ (Ei:=[(14,_)]) rfl rfl (bQ (bJ rfl rfl) bX) rfl rfl (dZ rfl (cZ (Ht rfl))) (cQ (Ei:=[(51,_),(52,_)]) rfl rfl (bQ (bZ 0 rfl rfl) (bQ (bZ 1 rfl rfl) bX)) rfl rfl (dZ rfl (dJ U_29 Z_51 (Ht rfl) (Ht rfl) rfl (eQ (dY (d:=Qi.zero) zo)))) ?_)))))))))))
    refine cQ (Ei:=[(53,_)]) rfl rfl (bQ (bZ 2 rfl rfl) bX) rfl rfl (dZ rfl (dV A_51 Z_51 (Ht rfl))) (cQ (Ei:=[(11,_)]) rfl rfl (bQ (bJ rfl rfl) bX) rfl rfl (dZ rfl (cZ (Ht rfl))) (cQ (Ei:=[(14,_)]) rfl rfl (bQ (bJ rfl rfl) bX) rfl rfl (dZ rfl (cZ (Ht rfl))) (cQ (Ei:=[(55,_),(56,_)]) rfl rfl (bQ (bZ 4 rfl rfl) (bQ (bZ 5 rfl rfl) bX)) rfl rfl (dZ rfl (dJ U_29 Z_51 (Ht rfl) (Ht rfl) rfl (eQ (dY (d:=Qi.zero) zo)))) ?_)))
    refine cQ (Ei:=[(57,_)]) rfl rfl (bQ (bZ 6 rfl rfl) bX) rfl rfl (dZ rfl (dV A_51 Z_51 (Ht rfl))) (cQ (Ei:=[(54,_),(58,_)]) rfl rfl (bQ (bZ 3 rfl rfl) (bQ (bZ 7 rfl rfl) bX)) rfl rfl (dZ rfl (cJ K_40 (yH (x:=gv w j) (y:=gv z j) (L:=M) (M:=L) zo) ⟨(Ht rfl),(Ht rfl),trivial⟩)) (cQ (Ei:=[(59,_)]) rfl rfl (bQ (bZ 8 rfl rfl) bX) rfl rfl (dZ rfl (cZ (Ht rfl))) (cQ (Ei:=[(50,_)]) rfl rfl (bQ (bZ 9 rfl rfl) bX) rfl rfl (dZ rfl (dU (Ht rfl) rfl)) ?_)))
    refine cQ (Ei:=[(50,_)]) rfl rfl (bQ (bZ 9 rfl rfl) bX) rfl rfl (dZ rfl (dU (Ht rfl) rfl)) (Y.D_newp (Ei:=[]) (fun bb=>box bb 51 [aD (decide ((fT z w j).a < 0)),aH (fT z w j).a.natAbs,aD (decide ((fT z w j).b < 0)),aH (fT z w j).b.natAbs,aH (du (fT z w j))]) 13 rfl rfl rfl bX rfl rfl (by kernel_rfl) (eG (Ts:=[Is (.bool false),Is (.slice none 0 0),Is (.bool false),Is (.slice none 0 0),Is (.slice none 0 0)]) O_51 rfl (fun V=>aW zd (aW zd (aW zd (aW zd (aW zd (aG))))))) ?_)
    refine Y.D_putN (Ei:=[(60,_)]) 12 rfl rfl rfl rfl rfl rfl (bQ (bZ 10 rfl rfl) bX) (fun bb=>kQ Z_51 (Ht rfl) (Ht rfl) rfl (i:=0) rfl (aK rfl) rfl rfl) (Y.D_done aL rfl (by kernel_rfl) rfl (by simp [Y.okP]) rfl rfl (bU (bU (bU (bU (bU (bU (bU (bU (bU (bU (bU (bU (Y.F_newp (fun B15=>Y.F_putN (Y.F_nil ?_))))))))))))))))
    refine ra rfl (eZ (cU (fJ (m:=13) (dp 13 rfl (cZ (Ht rfl)) (dp 14 rfl (cZ (Ht rfl)) (cP 62 0 63 1 rfl (cR U_29 Z_51 (Ht rfl) (Ht rfl) rfl (i:=4) rfl (by simp only [List.length_map,hrl]; omega) rfl) ?_))))))
    refine dq 64 2 rfl (oX A_51 Z_51 (Ht rfl) (i:=4) rfl rfl (eQ (tA hjn))) (dq 65 3 rfl (bI cD (Ht rfl)) (d0 rfl (cJ K_77 (qD (n:=1) (by decide) (by decide)) ⟨(cV 1),trivial⟩) (dp 15 rfl (eW A_51 Z_51 (Ht rfl) (i:=5) rfl rfl rfl) (cP 67 5 68 6 rfl (cJ K_44 (uD (x:=Qi.ofInt 1) (y:=fT z w j) (L:=1) (M:=D) zo) ⟨(Ht rfl),(Ht rfl),trivial⟩) (dp 8 rfl (dV A_51 Z_51 (Ht rfl)) (cP 69 7 70 8 rfl (cJ K_45 (kF (x:=Qi.ofInt 1 - fT z w j) (y:=lG) (L:=1 + D + 1) (M:=2) zo) ⟨(Ht rfl),(Ht rfl),trivial⟩) ?_))))))
    refine dq 71 9 rfl (cJ K_98 Hu ⟨(Ht rfl),trivial⟩) (cP 66 4 72 10 rfl (aP dD K_45 (kF (x:=gm S i j) (y:=(Qi.ofInt 1 - fT z w j) * lG) (L:=V) (M:=1 + D + 1 + 2 + 1) zo) (Ht rfl) ⟨(Ht rfl),trivial⟩) (C.D_new (Ei:=[]) rfl rfl rfl bW (eG (Ts:=[Is (.bool false),Is (.slice none 0 0),Is (.bool false),Is (.slice none 0 0),Is (.slice none 0 0)]) O_51 rfl (fun V=>aW zd (aW zd (aW zd (aW zd (aW zd (aG))))))) ?_))
    refine fW aL rfl (by kernel_rfl) (zF (zF (zF (C.F_new (fun B17=>aV (gX Z_51 (Ht rfl) (Ht rfl) rfl (i:=6) rfl (aK rfl) rfl rfl (eZ (ts (rm rfl (rm rfl (ro rfl (cT (Ht rfl) (Ht rfl)) (eZ (dX (Ht rfl) (fun hij=>?_) (fun hij=>?_))))))))))))))
    ·have hij2 : i = j := by simpa using hij
     have hval:qQ z w S i j = ((Qi.ofInt 1 + fT z w j) * lG - gm S i j * ((Qi.ofInt 1 - fT z w j) * lG)):=by rw [qQ,if_pos hij2]; rfl
     refine fJ (m:=11) (dp 13 rfl (cZ (Ht rfl)) (dp 14 rfl (cZ (Ht rfl)) (d0 rfl (cJ K_77 (qD (n:=1) (by decide) (by decide)) ⟨(cV 1),trivial⟩) (dp 15 rfl (eW A_51 Z_51 (Ht rfl) (i:=5) rfl rfl rfl) (cP 79 2 80 3 rfl (cJ K_46 (Ck (x:=Qi.ofInt 1) (y:=fT z w j) (L:=1) (M:=D) zo) ⟨(Ht rfl),(Ht rfl),trivial⟩) (dp 8 rfl (dV A_51 Z_51 (Ht rfl)) (cP 81 4 82 5 rfl (cJ K_45 (kF (x:=Qi.ofInt 1 + fT z w j) (y:=lG) (L:=1 + D + 1) (M:=2) zo) ⟨(Ht rfl),(Ht rfl),trivial⟩) ?_)))))))
     refine dq 83 6 rfl (cJ K_98 Hu ⟨(Ht rfl),trivial⟩) (dq 84 7 rfl (bI cD (Ht rfl)) (dp 17 rfl (eW A_51 Z_51 (Ht rfl) (i:=6) rfl rfl rfl) (cP 85 8 86 9 rfl (aP kJ K_44 (uD (x:=(Qi.ofInt 1 + fT z w j) * lG) (y:=gm S i j * ((Qi.ofInt 1 - fT z w j) * lG)) (L:=1 + D + 1 + 2 + 1) (M:=V + (1 + D + 1 + 2 + 1) + 1) zo) (Ht rfl) ⟨(Ht rfl),trivial⟩) (fW aL rfl (by kernel_rfl) (zF (zF (aJ (aJ (aJ (aV (ro rfl (cR U_29 Z_51 (Ht rfl) (Ht rfl) rfl (i:=4) rfl (by simp only [List.length_map,hrl]; omega) rfl) ?_)))))))))))
     refine kV Z_51 (Ht rfl) (Ht rfl) (El.ag rfl) (i:=4) rfl rfl (by simp only [List.length_map,hrl]; omega) rfl ?_
     refine eZ (bC (dQ (ro rfl (dW (Ht rfl) (cV 1) z6) (rm rfl (eZ (bR [0,1,2,3,4] rfl (by decide) (fY (j + 1) hjn zo (zS rfl) (aU (aB rfl) (aU (aB rfl) (aU (aB rfl) (aU (fun _ _ _ h=>h) (aU (bO (by rw [eN,← hval]; exact congrArg _ (mE (f:=fun k=>qQ z w S i k)))) aY))))))))))))
    ·have hij2 : ¬ i = j := by simpa using hij
     have hval:qQ z w S i j = (-(gm S i j * ((Qi.ofInt 1 - fT z w j) * lG))):=by rw [qQ,if_neg hij2]; rfl
     refine dQ (rm rfl (rm rfl (ro rfl (eW A_51 Z_51 (Ht rfl) (i:=6) rfl rfl rfl) (ro rfl (bI cD (Ht rfl)) (ro rfl (aP Ol Tryz.call140 (a4M (x:=gm S i j * ((Qi.ofInt 1 - fT z w j) * lG))) (Ht rfl) trivial) (ro rfl (cR U_29 Z_51 (Ht rfl) (Ht rfl) rfl (i:=4) rfl (by simp only [List.length_map,hrl]; omega) rfl) ?_))))))
     refine kV Z_51 (Ht rfl) (Ht rfl) (El.ag rfl) (i:=4) rfl rfl (by simp only [List.length_map,hrl]; omega) rfl ?_
     refine eZ (bC (dQ (ro rfl (dW (Ht rfl) (cV 1) z6) (rm rfl (eZ (bR [0,1,2,3,4] rfl (by decide) (fY (j + 1) hjn zo (zS rfl) (aU (aB rfl) (aU (aB rfl) (aU (aB rfl) (aU (fun _ _ _ h=>h) (aU (bO (by rw [eN,← hval]; exact congrArg _ (mE (f:=fun k=>qQ z w S i k)))) aY))))))))))))
   ·have hjn : j = n := by simp only [decide_eq_false_iff_not] at hf2; omega
    rw [hjn]
    refine gW rfl (bC (dL 3 4 rfl rfl (by decide) (by simp only [bP,List.length_map,lA]; omega) ?_))
    refine dQ (ro rfl (dW (Ht rfl) (cV 1) z6) (rm rfl (eZ (bR [0,1,2,3] rfl (by decide) (fY (i + 1) hdn zo (zS rfl) (aU (aB rfl) (aU (aB rfl) (aU (aB rfl) (aU (bF (by rw [eE,nA]; exact congrArg _ (mE (f:=(fun i=>tab n fun k=>qQ z w S i k))))) aY)))))))))
  ·have hdn : i = n := by simp only [decide_eq_false_iff_not] at hd; omega
   rw [hdn,nA,show tab n (fun i=>tab n fun k=>qQ z w S i k) = Cq z w S n from rfl]
   refine gW rfl (cU (gV (i:=3) (tt:=10) rfl rfl (fL (s:=5) (M:=Cq z w S n) (aN _ _).symm) ?_))
   have hnf:bA (Cq z w S n) (V + 2 * D + 12 + W):=bA.tab fun i k _ hk=>(Lj (D:=D) hV hV1 (by rw [hD]; exact sG hz hw hL hM hp zo)).le zo
   rw [hzl] at hch
   refine fJ (m:=5) (dp 6 rfl (eW A_32 Z_32 (Ht rfl) (i:=2) rfl rfl rfl) (dp 10 rfl (cZ (Ht rfl)) (dp 2 rfl (eJ nH (Ht rfl) rfl) (dq 99 2 rfl (fQ A_30 Z_30 (Ht rfl) (i:=0) rfl rfl) (cP 98 1 100 3 rfl (cJ Tryz.call99 (a5H (L:=V + 2 * D + 12 + W) (tW z w S n) hch hnf (hfc.le zo) zo zo rfl zo zo) ⟨(Ht rfl),(Ht rfl),trivial⟩) (fW aL rfl (by kernel_rfl) (zF (aJ (aV (ro rfl (oQ (Ht rfl) (Ht rfl)) (gX Z_34 (Ht rfl) (Ht rfl) rfl (i:=1) rfl (aK rfl) rfl rfl ?_)))))))))))
   refine ro rfl (cX (cV 0)) (eZ ?_)
   exact bM rfl (fU A_34 Z_34 rfl (i:=1) rfl rfl) (eY rfl)
end
section
open Go Go.RowKit
theorem a2L {z:List Qi} {s:List (List Qi)} {q:Int} {o:List Int} (hl:z.length ≤ 1000) (ho:o.length ≤ 1000):bE Tryz.prog 125 [iT z s,aT .i64 q,lM 1 (o.map (aT .i64))] (aT .i64 (gH z.length q o)):=by
 refine bE.intro Tryz.func125 rfl Tryz.ntmps125 rfl (fun cx=>(ts (rn rfl (fK (Ht rfl)) fun B3=>(ro rfl (cX (cV 0)) (eZ (cU (eK (ts (ro rfl (eW A_32 Z_32 (Ht rfl) (i:=0) rfl rfl rfl) (rm rfl (ro rfl (cJ Tryz.call106 Ms ⟨(Ht rfl),(Ht rfl),trivial⟩) (ro rfl (dR (Ht rfl)) (ra rfl (eZ (dX (Ht rfl) (fun hb1=>?_) (fun hb1=>?_))))))))))))))))
 ·have h2 : ¬ (1 ≤ q ∧ q ≤ (z.length : Int)) := by simpa only [Bool.not_eq_true', decide_eq_false_iff_not] using hb1
  refine ts (ro rfl (cX (cV 1)) (eZ (fG rfl (fZ (eY rfl) ?_))))
  exact (aS (if_pos h2).symm)
 ·have h2 : 1 ≤ q ∧ q ≤ (z.length : Int) := by simpa using hb1
  refine ts (rm rfl (rm rfl (ro rfl (cJ Tryz.call95 (yE (l:=o) (v:=q) zo) ⟨(Ht rfl),(Ht rfl),trivial⟩) (ra rfl (eZ (dX (Ht rfl) (fun hb2=>?_) (fun hb2=>?_)))))))
  ·refine ts (ro rfl (cX (cV 8)) (eZ (fG rfl (fZ (eY rfl) ?_))))
   exact (aS (by rw [gH,if_neg (fun k=>k h2),if_pos hb2]; rfl))
  ·refine cY (bC (ts (ro rfl (cX (cV 0)) (eZ (fG rfl (fZ (eY rfl) ?_))))))
   exact (aS (by rw [gH,if_neg (fun k=>k h2),if_neg (by rw [hb2]; decide)]; rfl))
theorem a2H {z:List Qi} {s:List (List Qi)} {l:List Int} (hs:cI s z.length z.length) (hl:z.length ≤ 1000) (hll:l.length ≤ 1000):bE Tryz.prog 33 [iT z s,lM 1 (l.map (aT .i64))] (eS [iT (Dd z l) (tE z s l),aT .i64 (zB z.length l)]):=by
 refine bE.intro Tryz.func33 rfl Tryz.ntmps33 rfl (fun cx=>(ts (rn rfl (fK (Ht rfl)) fun B2=>(rn rfl (eG (Ts:=[Is (.slice none 0 0),Is (.slice none 0 0)]) O_32 rfl (fun V=>aW zd (aW zd (aG)))) fun B4=>(ro rfl (cX (cV 0)) (eZ (cU (ts (rm rfl (ro rfl (dK U_72 (Ht rfl) aA) (ro rfl (eJ lW (Ht rfl) rfl) (ro rfl (fQ A_29 Z_29 (Ht rfl) (i:=0) rfl rfl) (ro rfl (dK U_29 (Ht rfl) aA) (ro rfl (fB (Ht rfl) (Ht rfl)) ?_))))))))))))))
 refine eZ (dX (Ht rfl) (fun hb1=>?_) (fun hb1=>?_))
 ·have h2 : l.length ≠ z.length := by simpa using hb1
  have he:=Gp h2
  refine ts (ro rfl (aM.imp (oA ) oH) (gX Z_32 (Ht rfl) (Ht rfl) rfl (i:=1) rfl (aK rfl) rfl rfl (ro rfl (cX (cV 4)) (eZ (bM rfl (fZ (fU A_32 Z_32 rfl (i:=1) rfl rfl) ?_) (fZ (eY rfl) ?_))))))
  ·exact (fun v V h=>by rw [Dd,tE,dA,dA,he]; exact h)
  ·exact (aS he.symm)
 ·have h2 : l.length = z.length := by simpa using hb1
  have hok:=Sn h2
  refine cY (cU (ts (rm rfl (ro rfl (dK U_72 (Ht rfl) aA) (ro rfl (cZ (cV 0)) (eZ (eK ?_)))))))
  refine bS (fun (i : Nat) => i ≤ l.length ∧ ∀ j, j < i → (fun i => gH z.length (l.getD i 0) (l.take i)) j = 0) (fun (i : Nat) => l.length - i) (fun (i : Nat) => [(1, lM 1 (l.map (aT .i64))), (2, cC B2 0), (4, cC B4 0), (16, lM 1 (l.map (aT .i64))), (17, NT .i64 l.length), (18, NT .i64 i)]) (fun (i : Nat) => [box B2 32 [bB z, bL s], box B4 32 [Is (.slice none 0 0), Is (.slice none 0 0)]]) 0 ⟨Nat.zero_le _, fun j h => by omega⟩
   (zS rfl) (aU (aB rfl) (aU (aB rfl) aY)) (fun i ⟨hi,h0⟩=>?_)
  refine ts (ro rfl (gZ (Ht rfl) (Ht rfl)) (eZ (cU (dX (Ht rfl) (fun hd=>?_) (fun hd=>?_)))))
  ·have hin : i < l.length := by simp only [decide_eq_true_eq] at hd; omega
   refine cY (cU (eK (ts (rm rfl (ro rfl (dJ U_72 Z_3 (Ht rfl) (Ht rfl) rfl (eQ (dY (d:=0) zo))) (ro rfl (dV A_3 Z_3 (Ht rfl)) (ra rfl (ra rfl (eZ (cU (fJ (m:=5) (dp 2 rfl (eW A_32 Z_32 (Ht rfl) (i:=0) rfl rfl rfl) (dp 7 rfl (cZ (Ht rfl)) (dp 1 rfl (cZ (Ht rfl)) (dp 6 rfl (cZ (Ht rfl)) (cP 25 2 26 3 rfl (qR U_72 Z_3 (Ht rfl) (Ht rfl) (fun m e=>by cases e) zo (by rw [List.length_map]; omega) (Us:=(l.take i).map (aT .i64)) (by rw [Int.toNat_natCast,List.map_take])) ?_))))))))))))))))
   refine fW aL rfl (by kernel_rfl) (zF (aJ (aV (ro rfl (cJ Tryz.call125 (a2L (q:=l.getD i 0) (o:=l.take i) hl (by rw [List.length_take]; omega)) ⟨(Ht rfl),(Ht rfl),(Ht rfl),trivial⟩) ?_))))
   refine ra rfl (eZ (ts (rm rfl (ro rfl (iR (Ht rfl) cW) (eZ (dX (Ht rfl) (fun he=>?_) (fun he=>?_)))))))
   ·have h3 : (fun i => gH z.length (l.getD i 0) (l.take i)) i ≠ 0 := by simpa using he
    have he2:zB z.length l = gH z.length (l.getD i 0) (l.take i):=hok.trans (Bq h0 h3 hin)
    refine ts (ro rfl (aM.imp (oA ) oH) (rm rfl (gX Z_32 (Ht rfl) (Ht rfl) rfl (i:=1) rfl (aK rfl) rfl rfl (ra rfl (eZ (bM rfl (fZ (fU A_32 Z_32 rfl (i:=1) rfl rfl) ?_) (fZ (eY rfl) ?_)))))))
    ·exact (fun v V h=>by rw [Dd,tE,dA,dA,he2,if_neg h3,if_neg h3]; exact h)
    ·exact (aS he2.symm)
   ·have h3 : (fun i => gH z.length (l.getD i 0) (l.take i)) i = 0 := by simpa using he
    refine cY (bC (dQ (ro rfl (dW (Ht rfl) (cV 1) z6) (rm rfl (eZ (bR [0,1] rfl (by decide) ?_))))))
    refine fY (i + 1) ⟨hin, fun j h => by
      by_cases e:j = i
      ·rw [e]; exact h3
      ·exact h0 j zo⟩ zo (zS rfl) (aU (aB rfl) (aU (aB rfl) aY))
  ·have hin : i = l.length := by simp only [decide_eq_false_iff_not] at hd; omega
   have h3:uI z.length l = 0:=lD (by rw [hin] at h0; exact h0)
   have he:zB z.length l = 0:=hok.trans h3
   refine gW rfl (ts (ro rfl (eW A_32 Z_32 (Ht rfl) (i:=0) rfl rfl rfl) (ro rfl (cZ (bT.to (Ht rfl) (kO (Pa h3)))) (hJ Tryz.call122 (Ua (Q:=jW l) (m:=l.length) hs (Lt h3) (wF l) hll hl) ⟨(Ht rfl),(Ht rfl),trivial⟩ rfl (fun B36 _=>(gX Z_32 (Ht rfl) (Ht rfl) rfl (i:=1) rfl (aK rfl) rfl rfl (ro rfl (cX (cV 0)) (eZ (Ew 1 2 1 rfl rfl rfl (by decide) (a7A (q:=fun _=>True) (M:=pE s (jW l)) (by rw [(wR s (jW l)).1,wF])) ?_)))))))))
   refine bM rfl (fZ (fU A_32 Z_32 rfl (i:=1) rfl rfl) ?_) (fZ (eY rfl) ?_)
   ·exact (fun v V h=>by rw [Dd,tE,dA,dA,he]; exact h)
   ·exact (aS he.symm)
end
section
open Go Go.RowKit
section
variable {P:Program} {R:iW} {cx:Cx} {n:Nat} {k:List It} {E:dI} {H:Hp}
theorem HH.two {base:Nat} {w:World} {V:bN} {Z:SA} {X:Hp} (h:HH base w V (Z :: X)):HH base w V [Z,iI (SA.emp :: X)]:=by
 have h1:HH base w V ((Z :: X).set 0 SA.emp ++ [Z]):=h.last rfl
 have h2:HH base w V (iI (SA.emp :: X) :: [Z]):=HH.repack h1
 exact h2.pick (is:=[1,0]) ⟨⟨_,rfl,fun _ _ _ h=>h⟩,⟨_,rfl,fun _ _ _ h=>h⟩,trivial⟩ (by decide)
theorem gG.pack {f : FuncId} {Ts : List Ty} {γ : Type} {U : γ → Ty} {X : γ → Hp} {Q : γ → Prop} (h : gG P f Ts [] γ U X Q) : gG P f Ts [] γ U (fun x => [iI (SA.emp :: X x)]) Q :=
 fun cx Z vs V w h1 h2=>(h cx Z vs V w h1 h2).mono fun e w' ⟨v,V',x,a,b,c,d,e'⟩=>⟨v,V',x,a,b,c.withHH c.hp.two,d,e'⟩
end
namespace W
variable {P:Program} {R:iW} {cx:Cx} {n:Nat} {k:List It} {E:dI} {H:Hp} {Hf:Bool → Hp} {p:Nat}
end W
end
section
open Go Go.RowKit
section
variable {P:Program} {R:iW} {cx:Cx} {n:Nat} {k:List It} {E:dI} {H:Hp} {ops:Array Oper} {o:Oper} {rest:List Oper}
variable {d:Option Tmp} {t:TypeId} {pos:String} {af:Array Edge} {g:Option (Nat × Bool)}
def hdr : Option (Nat × Nat) → Nat → Value
 | none,_=>.slice none 0 0
 | some (b,cp),l=>.slice (some ⟨b,0,none⟩) l cp
instance shHdr (x:Option (Nat × Nat)) (l:Nat):eI (Is (hdr x l)) 1 false:=by
 match x with
 | none=>exact inferInstanceAs (eI (Is (.slice none 0 0)) 1 false)
 | some (b,cp)=>exact inferInstanceAs (eI (Is (.slice (some ⟨b,0,none⟩) l cp)) 1 false)
end
end
section
open Go Go.RowKit
theorem Pm {n:Nat} {l:List Int} (h:zB n l = 0):l.length = n ∧ uI n l = 0:=by
 by_cases c:l.length = n
 ·exact ⟨c,by rw [← Sn c]; exact h⟩
 ·rw [Gp c] at h; omega
theorem a5L {z:List Qi} {s c:List (List Qi)} {l:List Int} (hs:cI s z.length z.length) (hc:cI c z.length z.length) (hl:z.length ≤ 100) (hll:l.length ≤ 1000):bE Tryz.prog 36 [fP z s c,lM 1 (l.map (aT .i64))] (eS [fP (Dd z l) (tE z s l) (tE z c l),aT .i64 (zB z.length l)]):=by
 have hcl:=hc.1
 have hR:=a2H (z:=z) (s:=s) (l:=l) hs zo hll
 refine bE.intro Tryz.func36 rfl Tryz.ntmps36 rfl (fun cx=>(ts (rn rfl (fK (Ht rfl)) fun B2=>(rn rfl (eG (Ts:=[Is (.slice none 0 0),Is (.slice none 0 0),Is (.slice none 0 0)]) O_34 rfl (fun V=>aW zd (aW zd (aW zd (aG))))) fun B4=>(ro rfl (cX (cV 0)) (eZ (ts (ro rfl (eJ oD (Ht rfl) rfl) (ro rfl (eW A_32 Z_32 (Ht rfl) (i:=0) rfl rfl rfl) (rm rfl (ro rfl (cJ Tryz.call33 hR ⟨(Ht rfl),(Ht rfl),trivial⟩) (rm rfl (ro rfl (dU (Ht rfl) rfl) ?_)))))))))))))
 refine ro rfl (dU (Ht rfl) rfl) (rn rfl (eG (Ts:=[Is (.slice none 0 0),Is (.slice none 0 0)]) O_32 rfl (fun V=>aW zd (aW zd (aG)))) fun B6=>(gX Z_32 (Ht rfl) (Ht rfl) rfl (i:=2) rfl (aK rfl) rfl rfl (ra rfl (eZ (cU (ts (rm rfl (ro rfl (iR (Ht rfl) cW) (eZ (dX (Ht rfl) (fun hb1=>?_) (fun hb1=>?_)))))))))))
 ·have he : zB z.length l ≠ 0 := by simpa using hb1
  refine ts (ro rfl (aM.imp (tL ) oW) (rm rfl (gX Z_34 (Ht rfl) (Ht rfl) rfl (i:=1) rfl (aK rfl) rfl rfl (ra rfl (eZ (bM rfl (fZ (fU A_34 Z_34 rfl (i:=1) rfl rfl) ?_) (eY rfl)))))))
  exact (fun v V h=>by rw [Dd,tE,tE,dA,dA,dA,if_neg he,if_neg he,if_neg he]; exact h)
 ·have he : zB z.length l = 0 := by simpa using hb1
  obtain ⟨hll2,hp⟩:=Pm he
  have hz:Dd z l = yD z (jW l):=by rw [Dd,dA,if_pos he]
  have hs2:tE z s l = pE s (jW l):=by rw [tE,dA,if_pos he]
  have hc2:tE z c l = pE c (jW l):=by rw [tE,dA,if_pos he]
  have hpi:=Pa hp
  have hQ:=Lt hp
  have hQl:=wF l
  rw [hz,hs2,hc2,he]
  rw [hpi]
  generalize jW l = Q at *
  have hQn:Q.length = z.length:=by omega
  refine cY (ts (rm rfl (ro rfl (dK U_72 (Ht rfl) (show ((((Q.map Nat.succ).map (NT .i64)).length:Nat):Int) = ((Q.length:Nat):Int) by simp)) (rn rfl (eM (T:=Is (.slice none 0 0)) (i:=Tryz.t29) V_30 nI rfl rfl (Ht rfl) rfl (fun _=>rfl) trivial (by show 24 * _ ≤ _; omega) zo) fun B26=>(ra rfl (eZ (cU (ts (rm rfl (ro rfl (dK U_72 (Ht rfl) (show ((((Q.map Nat.succ).map (NT .i64)).length:Nat):Int) = ((Q.length:Nat):Int) by simp)) (ro rfl (cZ (cV 0)) (eZ (eK (nM 3 rfl (tU (e:=51) (s:=5)) ?_))))))))))))))
  refine bS (fun (i : Nat) => i ≤ Q.length) (fun (i : Nat) => Q.length - i) (fun (i : Nat) => [(1, pM (Q.map Nat.succ)), (2, cC B2 0), (4, cC B4 0), (6, cC B6 0), (8, Is (.slice (some ⟨B26, 0, none⟩) Q.length Q.length)), (27, pM (Q.map Nat.succ)), (28, NT .i64 Q.length), (29, NT .i64 i)]) (fun (i : Nat) => [box B2 34 [bB z, bL s, bL c], box B4 34 [Is (.slice none 0 0), Is (.slice none 0 0), Is (.slice none 0 0)], box B6 32 [bB (yD z Q), bL (pE s Q)], oF B26 29 51 5 (bP aI (jC (fun i => tab Q.length fun j => gm c (gY Q i) (gY Q j)) [] Q.length i))]) 0 (Nat.zero_le _)
   (zS rfl) (aU (aB rfl) (aU (aB rfl) (aU (aB rfl) (aU (bF (by rw [← gR,lU]; exact mF aI _)) aY)))) (fun i hi=>?_)
  refine ts (ro rfl (gZ (Ht rfl) (Ht rfl)) (eZ (cU (dX (Ht rfl) (fun hd=>?_) (fun hd=>?_)))))
  ·have hdn : i < Q.length := by simp only [decide_eq_true_eq] at hd; omega
   have hqi:=rL hQ hdn
   have hcr:=hc.row hqi
   refine nF 3 (i) rfl (kZ hdn) (fun v=>(cY (cU (eK (ts (rm rfl (ro rfl (dJ U_72 Z_3 (Ht rfl) (Ht rfl) rfl (eQ (Aw hdn))) (ro rfl (dV A_3 Z_3 (Ht rfl)) (ra rfl (ra rfl (eZ (ts (rm rfl (ro rfl (dK U_72 (Ht rfl) (show ((((Q.map Nat.succ).map (NT .i64)).length:Nat):Int) = ((Q.length:Nat):Int) by simp)) (ro rfl (cZ (cV 0)) (eZ (eK ?_)))))))))))))))))
   refine gA (fun (j : Nat) (v : Value) => j ≤ Q.length) (fun (j : Nat) (v : Value) => Q.length - j) (fun (j : Nat) (v : Value) => [(1, pM (Q.map Nat.succ)), (2, cC B2 0), (4, cC B4 0), (6, cC B6 0), (8, Is (.slice (some ⟨B26, 0, none⟩) Q.length Q.length)), (9, NT .i64 i), (10, NT .i64 (gY Q i + 1)), (27, pM (Q.map Nat.succ)), (28, NT .i64 Q.length), (29, NT .i64 i), (34, pM (Q.map Nat.succ)), (35, NT .i64 Q.length), (36, NT .i64 j)]) (fun (j : Nat) (v : Value) => [box B2 34 [bB z, bL s, bL c], box B4 34 [Is (.slice none 0 0), Is (.slice none 0 0), Is (.slice none 0 0)], box B6 32 [bB (yD z Q), bL (pE s Q)], Hw B26 29 51 5 (bP aI (jC (fun i => tab Q.length fun j => gm c (gY Q i) (gY Q j)) [] Q.length i)) i v, cL 51 5 v ((tab j fun j => gm c (gY Q i) (gY Q j)).map aI)]) 0 v (Nat.zero_le _)
    (zS rfl) (dE.refl _) (fun j v hj=>?_)
   refine ts (ro rfl (gZ (Ht rfl) (Ht rfl)) (eZ (cU (dX (Ht rfl) (fun he2=>?_) (fun he2=>?_)))))
   ·have hjn : j < Q.length := by simp only [decide_eq_true_eq] at he2; omega
    have hqj:=rL hQ hjn
    refine cY (cU (eK (ts (ro rfl (dJ U_72 Z_3 (Ht rfl) (Ht rfl) rfl (eQ (Aw hjn))) (ro rfl (dV A_3 Z_3 (Ht rfl)) (ra rfl (eZ (Y.D_startA (m:=18) [] 17 4 rfl rfl (cQ (Ei:=[(8,_)]) rfl rfl (bQ (bJ rfl rfl) bX) rfl rfl (dZ rfl (cZ (Ht rfl))) (cQ (Ei:=[(9,_)]) rfl rfl (bQ (bJ rfl rfl) bX) rfl rfl (dZ rfl (cZ (Ht rfl))) (cQ (Ei:=[(8,_)]) rfl rfl (bQ (bJ rfl rfl) bX) rfl rfl (dZ rfl (cZ (Ht rfl))) ?_)))))))))))
    refine cQ (Ei:=[(9,_)]) rfl rfl (bQ (bJ rfl rfl) bX) rfl rfl (dZ rfl (cZ (Ht rfl))) (cQ (Ei:=[(42,_),(43,_)]) rfl rfl (bQ (bZ 2 rfl rfl) (bQ (bZ 3 rfl rfl) bX)) rfl rfl (dZ rfl (gQ U_30 Z_29 (Ht rfl) (Ht rfl) rfl zo (by rw [Nat.mul_one,Nat.zero_add]))) ?_)
    refine cQ (Ei:=[(44,_)]) rfl rfl (bQ (bZ 4 rfl rfl) bX) rfl rfl (dZ rfl (gI A_29 Z_29 (Ht rfl) (j:=3) rfl)) (cQ (Ei:=[(2,_)]) rfl rfl (bQ (bJ rfl rfl) bX) rfl rfl (dZ rfl (eJ nH (Ht rfl) rfl)) (cQ (Ei:=[(46,_)]) rfl rfl (bQ (bZ 6 rfl rfl) bX) rfl rfl (dZ rfl (fQ A_30 Z_30 (Ht rfl) (i:=0) rfl rfl)) (cQ (Ei:=[(10,_)]) rfl rfl (bQ (bJ rfl rfl) bX) rfl rfl (dZ rfl (cZ (Ht rfl))) (cQ (Ei:=[(48,_)]) rfl rfl (bQ (bZ 8 rfl rfl) bX) rfl rfl (dZ rfl (aM.nat (dG (Ht rfl) (cV 1) zo z6) (show gY Q i + 1 - 1 = gY Q i by omega))) ?_))))
    refine cQ (Ei:=[(47,_),(49,_)]) rfl rfl (bQ (bZ 7 rfl rfl) (bQ (bZ 9 rfl rfl) bX)) rfl rfl (dZ rfl (dJ U_30 Z_29 (Ht rfl) (Ht rfl) rfl (eQ (dY (d:=[]) zo)))) (cQ (Ei:=[(50,_)]) rfl rfl (bQ (bZ 10 rfl rfl) bX) rfl rfl (dZ rfl (dV A_29 Z_29 (Ht rfl))) (cQ (Ei:=[(12,_)]) rfl rfl (bQ (bJ rfl rfl) bX) rfl rfl (dZ rfl (cZ (Ht rfl))) (cQ (Ei:=[(52,_)]) rfl rfl (bQ (bZ 12 rfl rfl) bX) rfl rfl (dZ rfl (aM.nat (dG (Ht rfl) (cV 1) zo z6) (show gY Q j + 1 - 1 = gY Q j by omega))) ?_)))
    refine cQ (Ei:=[(51,_),(53,_)]) rfl rfl (bQ (bZ 11 rfl rfl) (bQ (bZ 13 rfl rfl) bX)) rfl rfl (dZ rfl (dJ U_29 Z_51 (Ht rfl) (Ht rfl) rfl (eQ (dY (d:=Qi.zero) zo)))) (cQ (Ei:=[(54,_)]) rfl rfl (bQ (bZ 14 rfl rfl) bX) rfl rfl (dZ rfl (dV A_51 Z_51 (Ht rfl))) (cQ (Ei:=[(55,_)]) rfl rfl (bQ (bZ 15 rfl rfl) bX) rfl rfl (dZ rfl (dB (xs:=[.tmp 55]) U_29 Z_51 O_51 (cG (Ht rfl) cK) rfl rfl rfl)) ?_))
    refine Y.D_app (Ei:=[(45,_),(56,_)]) rfl rfl rfl rfl (bQ (bZ 5 rfl rfl) (bQ (bZ 16 rfl rfl) bX)) rfl (qW (inf:=Tryz.t51) nR lH rfl rfl rfl (Ht rfl) (Ht rfl) (by simp) (fun T hT=>by simp at hT; subst hT; exact El.ag rfl) (by show _ * 88 ≤ _; simp only [List.length_map,aN,List.length_cons,List.length_nil]; omega) (by simp only [List.length_map,aN,List.length_cons,List.length_nil]; omega)) ?_
    refine Y.D_done aL rfl (by kernel_rfl) rfl (by simp [Y.okP]) rfl rfl (bU (bU (bU (bU (bU (bU (bU (bU (bU (bU (bU (bU (bU (bU (bU (bU (bU (Y.F_app (fun v2=>Y.F_nil ?_)))))))))))))))))))
    refine ro rfl (gQ U_30 Z_29 (Ht rfl) (Ht rfl) rfl zo (by rw [Nat.mul_one,Nat.zero_add])) ?_
    refine sP Z_29 (Ht rfl) (Ht rfl) (by simp only [bP,List.length_map,eD]; omega) (j:=3) (l:=5) rfl rfl rfl ?_
    refine eZ (bC (dQ (ro rfl (dW (Ht rfl) (cV 1) z6) (rm rfl (eZ (bR [0,1,2,3,5] rfl (by decide) (fY (j + 1,v2) hjn (by dsimp only; omega) (zS rfl) (aU (aB rfl) (aU (aB rfl) (aU (aB rfl) (aU (fun _ _ _ h=>h) (aU (bO (by rw [wT,List.map_append]; rfl)) aY))))))))))))
   ·have hjn : j = Q.length := by simp only [decide_eq_false_iff_not] at he2; omega
    rw [hjn]
    refine gW rfl (bC (dL 3 4 rfl rfl (by decide) (by simp only [bP,List.length_map,eD]; omega) ?_))
    refine dQ (ro rfl (dW (Ht rfl) (cV 1) z6) (rm rfl (eZ (bR [0,1,2,3] rfl (by decide) (fY (i + 1) hdn zo (zS rfl) (aU (aB rfl) (aU (aB rfl) (aU (aB rfl) (aU (bF (by rw [eE,← jJ (f:=(fun i=>tab Q.length fun j=>gm c (gY Q i) (gY Q j)))])) aY)))))))))
  ·have hdn : i = Q.length := by simp only [decide_eq_false_iff_not] at hd; omega
   rw [hdn,jI,show tab Q.length (fun i=>tab Q.length fun j=>gm c (gY Q i) (gY Q j)) = pE c Q from rfl]
   refine gW rfl (gV (i:=3) (tt:=8) rfl rfl (fL (s:=5) (M:=pE c Q) (aN _ _).symm) (ts (ro rfl (eW A_32 Z_32 (Ht rfl) (i:=2) rfl rfl rfl) (rm rfl (ro rfl (oQ (Ht rfl) (Ht rfl)) (gX Z_34 (Ht rfl) (Ht rfl) rfl (i:=1) rfl (aK rfl) rfl rfl (ro rfl (cX (cV 0)) (eZ ?_))))))))
   exact bM rfl (fU A_34 Z_34 rfl (i:=1) rfl rfl) (eY rfl)
end
section
open Go Go.RowKit
theorem a7z {z:List Rt} {s c:List (List Rt)} (hf:yB z s c = true):z.length ≤ 9:=by
 rw [yB] at hf; simp only [Bool.and_eq_true,decide_eq_true_eq] at hf; exact hf.1.1.1.1
section
variable {z:List Qi} {s:List (List Qi)} {js:List (Int × Int)}
end
theorem Yl {α:Type} (l:List α):dA 0 l = l:=rfl
theorem a4D {t:Qi} (h:lB t ≠ 0):lB t = 1:=by
 unfold lB at h ⊢; split at h
 ·exact absurd rfl h
 ·rename_i k; rw [if_neg k]
end
section
open Go Go.RowKit
theorem a1o {z:List Rt} {s c:List (List Rt)}:(Hm z s c).all eO = true:=by
 unfold Hm dA; split
 ·split
  ·rename_i h; exact (xO h).2.2.2
  ·rfl
 ·rfl
structure a2q (t:Qi) (A0:List Qi) (A1 A2:List (List Qi)) (L:Nat):Prop where
 z:cB A0 L
 s:bA A1 L
 h:cI A1 A0.length A0.length
 l:A0.length ≤ 8
 e:A2 = kR t (iG A0 A1) A0.length
theorem Gk {t:Qi} {A0:List Qi} {A1 A2:List (List Qi)} {L:Nat} (h:a2q t A0 A1 A2 L) (hL:2 ≤ L) (hLb:L ≤ 10000000) (ht:aE t 2) (hw:lB t = 0):bE Tryz.prog 57 [iT A0 A1,aI t] (eS [fP A0 A1 A2,aT .i64 0]) ∧ bE Tryz.prog 52 [fP A0 A1 A2,fP A0 A1 A2] (aD true):=by
 obtain ⟨h1,h2,h3,h4,rfl⟩:=h
 have a:=a0j h1 h2 (ht.le hL) zo hLb h3 h4
 rw [hw,Yl,Yl,Yl] at a
 have b:=yT (L:=5000000000) (h1.le zo) (h1.le zo) (h2.le zo) (h2.le zo) (by decide) (by decide) h3 h3 zo zo ((Gt ht (wE h1 h2 zo h4) zo).le zo) ((Gt ht (wE h1 h2 zo h4) zo).le zo) oK oK
 rw [yZ,decide_eq_true rfl] at b
 exact ⟨a,b⟩
section
variable {z w:List Qi} {s:List (List Qi)} {t g:Qi} {port:Int} {l:List Int}
theorem a4o {X:List (List Qi)} {Q:List Nat} {n:Nat} (hl:Q.length = n) (hQ:∀ x,x ∈ Q → x < n):pE (kR t X n) Q = kR t (pE X Q) n:=by
 refine gC (n:=n) (m:=n) (by rw [← hl]; exact wR _ _) oK fun i hi j hj=>?_
 have a:=rL hQ (show i < Q.length by omega)
 have b:=rL hQ (show j < Q.length by omega)
 rw [show gm (pE (kR t X n) Q) i j = gm (kR t X n) (gY Q i) (gY Q j) from eR zo zo,kR,eR a b,kR,eR hi hj,show gm (pE X Q) i j = gm X (gY Q i) (gY Q j) from eR zo zo]
theorem a2m (hz:cB z 2) (hs:bA s 2) (hsh:cI s z.length z.length) (hl:z.length ≤ 8) (hg:aE g 2) (he:Qh z s port g t = 0):a2q t (ntZ z s port g t) (ntS z s port g t) (ntQ z s (kR t (iG z s) z.length) port g t) 100:=by
 have hw : lB t = 0 := by
  apply Decidable.byContradiction; intro h
  rw [Qh,if_neg h] at he; exact h he
 have ht:rO z s port g = 0:=by rw [Qh,if_pos hw] at he; exact he
 obtain ⟨hb,hn1,hD⟩:=Qd ht
 have e1:ntZ z s port g t = yC z (port - 1).toNat (z.length - 1):=by rw [ntZ,dA,if_pos he]
 have e2:ntS z s port g t = Ch s (port - 1).toNat (z.length - 1) (jZ s (port - 1).toNat g):=by rw [ntS,dA,if_pos he]
 have e3:wU z s port g = Ch s (port - 1).toNat (z.length - 1) (jZ s (port - 1).toNat g):=by rw [wU,dA,if_pos ht]
 have e4:ntQ z s (kR t (iG z s) z.length) port g t = ntC z s (kR t (iG z s) z.length) g t (port - 1).toNat:=by rw [ntQ,dA,if_pos he]
 have hl1:(yC z (port - 1).toNat (z.length - 1)).length = z.length - 1:=aN _ _
 rw [e1,e2,e4]
 refine ⟨fun x hx=>?_,?_,?_,by omega,?_⟩
 ·obtain ⟨i, hi, rfl⟩ := fH.1 hx
  exact (hz.get (by decide) _).le (by decide)
 ·rw [← e3]; exact (a2k hs hg (by decide)).le (by decide)
 ·rw [hl1]; exact cI.tab
 ·rw [hl1]; exact a4y rfl hsh zo hn1 hD
theorem a1S (hz:cB z 2) (hs:bA s 2) (hsh:cI s z.length z.length) (hl:z.length ≤ 8) (he:zB z.length l = 0):a2q t (Dd z l) (tE z s l) (tE z (kR t (iG z s) z.length) l) 100:=by
 obtain ⟨h0,hp⟩:=Pm he
 have hQ:=Lt hp
 have hQl:(jW l).length = z.length:=by rw [wF,h0]
 have e1:Dd z l = yD z (jW l):=by rw [Dd,dA,if_pos he]
 have e2:tE z s l = pE s (jW l):=by rw [tE,dA,if_pos he]
 have e3:tE z (kR t (iG z s) z.length) l = pE (kR t (iG z s) z.length) (jW l):=by rw [tE,dA,if_pos he]
 rw [e1,e2,e3]
 refine ⟨fun x hx=>?_,bA.tab fun i j _ _=>(hs.get (by decide) _ _).le (by decide),?_,by rw [pV]; omega,?_⟩
 ·obtain ⟨i, hi, rfl⟩ := fH.1 hx
  exact (hz.get (by decide) _).le (by decide)
 ·rw [pV]; exact wR _ _
 ·rw [a4o hQl hQ,a4d hsh he,pV,hQl]
theorem Wk (hz : cB z 2) (hw : cB w 2) (hs : bA s 2) (hp : z.all eO = true) (hl8 : z.length ≤ 8) (hl : w.length = z.length) (i : Nat) (_ : i < w.length) : SzS (qT z w s) (ek w.length i) w.length (Sq 28) (Hz 28) :=
 a7T (lI _ _ _ _) (xN (xT hz hw (by decide) (by decide) hp hl) (xS hz hw (by decide) (by decide) hp hl) hs (by decide) (by decide)) (Rn (by decide)) (by decide) (by decide) zo
theorem Eb (hz:cB z 2) (hw:cB w 2) (hs:bA s 2) (hp:z.all eO = true) (hl8:z.length ≤ 8):bA (jQ z w s) 2060000:=by
 by_cases h:uE z w s = 0
 ·have hl := Jj h
  obtain ⟨hq,hi,-,-⟩:=qK (n:=w.length) hl.symm rfl h
  rw [jQ,dA,if_pos h]
  exact (Oq (L:=28) (M:=Hz 28) (xN (xS hz hw (by decide) (by decide) hp hl) (xT hz hw (by decide) (by decide) hp hl) hs (by decide) (by decide)) (Bt (Wk hz hw hs hp hl8 hl) hi) (by decide) (Sv 28) zo).le (by decide)
 ·rw [jQ,dA,if_neg h]; exact bA.nil
theorem a4h (hz:cB z 2) (hw:cB w 2) (hs:bA s 2) (hsh:cI s z.length z.length) (hl8:z.length ≤ 8) (hp:z.all eO = true) (he:uE z w s = 0):a2q t (yK z w s) (jQ z w s) (Cp z w s (kR t (iG z s) z.length)) 2060000:=by
 have hl:=Jj he
 obtain ⟨hq,hi,hS,hZ⟩:=qK (n:=w.length) hl.symm rfl he
 have hS2:cI (jQ z w s) w.length w.length:=by rw [hS]; exact gS
 refine ⟨by rw [hZ]; exact hw.le (by decide),Eb hz hw hs hp hl8,by rw [hZ]; exact hS2,by rw [hZ]; omega,?_⟩
 rw [Cp,dA,if_pos he,hZ,Mz (by rw [(nC z s).1]),a6r hl.symm rfl (by rw [hl]; exact hsh) hp he,(tW z w (jQ z w s) w.length).1]
end
theorem yA {z w:List Rt} {s c:List (List Rt)} {g h:Rt} {port:Int} {l:List Int}:bE Tryz.prog 11 [Wy z s c,Jw g,Jw h,aT .i64 port,lM 1 (l.map (aT .i64)),qY w] (aD true):=by
 refine bE.intro Tryz.func11 rfl Tryz.ntmps11 rfl (fun cx=>(ts (rn rfl (fK (Ht rfl)) fun B6=>(rn rfl (fK (Ht rfl)) fun B7=>(rn rfl (fK (Ht rfl)) fun B8=>(ro rfl (cX cW) (eZ (cU (ts (ro rfl (eW Tryz.isAgg25 Tryz.sizeOf25 (Ht rfl) (i:=0) rfl rfl rfl) (ro rfl (cJ Tryz.call15 a4Q ⟨(Ht rfl),trivial⟩) (ro rfl (dR (Ht rfl)) (rm rfl (fX rfl rfl (eU rfl rfl (Ht rfl) (fun h=>cZ (Ht rfl))) (fX rfl rfl (eU rfl rfl (Ht rfl) (fun h=>dK U_72 (fV rfl h) aA)) (fX rfl rfl (eU rfl rfl (Ht rfl) (fun h=>eH (fV rfl h) (cV 9))) ?_))))))))))))))))
 refine ro rfl (gN (Ht rfl) (fun h=>(fV rfl h))) (rm rfl (fX rfl rfl (eU rfl rfl (Ht rfl) (fun h=>cZ (Ht rfl))) (fX rfl rfl (eU rfl rfl (Ht rfl) (fun h=>dK U_22 (fV rfl h) aA)) (fX rfl rfl (eU rfl rfl (Ht rfl) (fun h=>eH (fV rfl h) (cV 9))) (ro rfl (gN (Ht rfl) (fun h=>(fV rfl h))) (eZ (dX (Ht rfl) (fun hb=>?_) (fun hb=>?_))))))))
 ·refine ts (ro rfl (cJ K_16 tN trivial) (ra rfl (eZ ?_)))
  exact fG rfl (eY rfl)
 ·have hf1 : yB z s c = true := by
   apply Decidable.byContradiction; intro h
   simp [h] at hb
  have hll : l.length ≤ 9 := by
   apply Decidable.byContradiction; intro h
   simp [hf1] at hb; omega
  have hwl : w.length ≤ 9 := by
   apply Decidable.byContradiction; intro h
   simp [hf1] at hb; omega
  have hm1:=a0m hf1
  obtain ⟨m1,m2,m3⟩:=Ok (z:=z) (s:=s) (c:=c)
  obtain ⟨m4,m5,m6⟩:=a1n (z:=z) (s:=s) (c:=c)
  have mp:=a1o (z:=z) (s:=s) (c:=c)
  have hg2:aE g.q 2:=inferInstance
  have hh2:aE h.q 2:=inferInstance
  have hw2:cB (w.map Rt.q) 2:=cB.rt
  obtain ⟨X0,hX0⟩:∃ X0,X0 = Hm z s c:=⟨_,rfl⟩
  obtain ⟨X1,hX1⟩:∃ X1,X1 = mdS z s c:=⟨_,rfl⟩
  rw [← hX0,← hX1] at hm1 m1
  rw [← hX0] at m2 m3 m4 mp
  rw [← hX1] at m5
  have hO1:=a0j (z:=X0) (s:=X1) (t:=g.q) (L:=2) m4 m5 hg2 (by decide) (by decide) m1 m3
  obtain ⟨e,he⟩:∃ e,e = lB g.q:=⟨_,rfl⟩
  rw [← he] at hO1
  obtain ⟨C1,hC1⟩:∃ C1,C1 = kR g.q (iG X0 X1) X0.length:=⟨_,rfl⟩
  rw [← hC1] at hO1
  have s1:cI C1 X0.length X0.length:=by rw [hC1]; exact oK
  have g1:bA C1 60000:=by rw [hC1]; exact (Gt hg2 (wE m4 m5 (by decide) m3) (by decide)).le (by decide)
  have hLo:=Qu (z:=X0) (s:=X1) (L:=2) m4 m5 (by decide) (by decide) mp m1 m3
  have hz0:bA (mI X0.length X0.length) 60000:=bA.tab fun _ _ _ _=>aE.zero (by decide)
  have hEq:=yT (L:=60000) (m4.le (by decide)) (m4.le (by decide)) (m5.le (by decide)) (m5.le (by decide)) (by decide) (by decide) m1 m1 zo zo g1 hz0 s1 (xX _ _)
  rw [yZ] at hEq
  have hlos:Fz X0 X1 = true → C1 = mI X0.length X0.length:=fun h=>by rw [hC1,a1j m1 mp h,a21]
  refine cY (ts (ro rfl (eW Tryz.isAgg25 Tryz.sizeOf25 (Ht rfl) (i:=0) rfl rfl rfl) (ro rfl (cJ Tryz.call17 hm1 ⟨(Ht rfl),trivial⟩) (rm rfl (ro rfl (dU (Ht rfl) rfl) (ro rfl (dU (Ht rfl) rfl) (ro rfl (dU (Ht rfl) rfl) (rn rfl (eG (Ts:=[Is (.slice none 0 0),Is (.slice none 0 0),Is (.slice none 0 0)]) O_34 rfl (fun V=>aW zd (aW zd (aW zd (aG))))) fun B13=>(rn rfl (eG (Ts:=[Is (.slice none 0 0),Is (.slice none 0 0),Is (.slice none 0 0)]) O_40 rfl (fun V=>aW zd (aW zd (aW zd (aG))))) fun B14=>?_)))))))))
  refine gX Z_34 (Ht rfl) (Ht rfl) rfl (i:=3) rfl (aK rfl) rfl rfl (gX Z_40 (Ht rfl) (Ht rfl) rfl (i:=4) rfl (aK rfl) rfl rfl (ra rfl (eZ (cU (bR [0,1,2,3,4] rfl (by decide) (dQ (ro rfl (eW A_102 Z_102 (Ht rfl) (i:=1) rfl rfl rfl) (ro rfl (cJ Tryz.call58 Ki ⟨(Ht rfl),trivial⟩) (rn rfl (eG (Ts:=[Is (.bool false),Is (.slice none 0 0),Is (.bool false),Is (.slice none 0 0),Is (.slice none 0 0)]) O_51 rfl (fun V=>aW zd (aW zd (aW zd (aW zd (aW zd (aG))))))) fun B16=>?_)))))))))
  refine gX Z_51 (Ht rfl) (Ht rfl) rfl (i:=5) rfl (aK rfl) rfl rfl (eZ (cU (bR [0,1,2,3,4,5] rfl (by decide) (Y.D_start (m:=9) [] (cQ (Ei:=[(13,_)]) rfl rfl (bQ (bJ rfl rfl) bX) rfl rfl (dZ rfl (eW A_34 Z_34 (Ht rfl) (i:=3) rfl rfl rfl)) (cQ (Ei:=[(49,_)]) rfl rfl (bQ (bZ 0 rfl rfl) bX) rfl rfl (dZ rfl (cJ K_51 pO ⟨(Ht rfl),trivial⟩)) (cQ (Ei:=[(16,_)]) rfl rfl (bQ (bJ rfl rfl) bX) rfl rfl (dZ rfl (eW A_51 Z_51 (Ht rfl) (i:=5) rfl rfl rfl)) ?_)))))))
  refine cQ (Ei:=[(50,_),(51,_)]) rfl rfl (bQ (bZ 1 rfl rfl) (bQ (bZ 2 rfl rfl) bX)) rfl rfl (dZ rfl (cJ Tryz.call57 hO1 ⟨(Ht rfl),(Ht rfl),trivial⟩)) (cQ (Ei:=[(52,_)]) rfl rfl (bQ (bZ 3 rfl rfl) bX) rfl rfl (dZ rfl (cZ (Ht rfl))) (cQ (Ei:=[(48,_)]) rfl rfl (bQ (bZ 4 rfl rfl) bX) rfl rfl (dZ rfl (dU (Ht rfl) rfl)) (cQ (Ei:=[(48,_)]) rfl rfl (bQ (bZ 4 rfl rfl) bX) rfl rfl (dZ rfl (dU (Ht rfl) rfl)) (Y.D_newp (Ei:=[]) (fun bb=>box bb 34 [bB (dA e X0),bL (dA e X1),bL (dA e C1)]) 8 rfl rfl rfl bX rfl rfl (by kernel_rfl) (eG (Ts:=[Is (.slice none 0 0),Is (.slice none 0 0),Is (.slice none 0 0)]) O_34 rfl (fun V=>aW zd (aW zd (aW zd (aG))))) ?_))))
  refine Y.D_putN (Ei:=[(53,_)]) 7 rfl rfl rfl rfl rfl rfl (bQ (bZ 5 rfl rfl) bX) (fun bb=>kQ Z_34 (Ht rfl) (Ht rfl) rfl (i:=0) rfl (aK rfl) rfl rfl) (Y.D_done aL rfl (by kernel_rfl) rfl (by simp [Y.okP]) rfl rfl (bU (bU (bU (bU (bU (bU (bU (Y.F_newp (fun B17=>Y.F_putN (Y.F_nil ?_)))))))))))
  refine ra rfl (eZ (cU (cU (bR [0,1,2,3,4,5,6] rfl (by decide) (dQ (rm rfl (ro rfl (iR (Ht rfl) cW) (eZ (dX (Ht rfl) (fun hc=>?_) (fun hc=>?_))))))))))
  ·have h1 : e = 1 := by rw [he]; exact a4D (by rw [← he]; simpa using hc)
   refine ts (rm rfl (ro rfl (kN (Ht rfl) cW) (rm rfl (fX rfl rfl (eU rfl rfl (Ht rfl) (fun h=>cJ K_16 tN trivial)) (ro rfl (fC (Ht rfl) (fun h=>(fV rfl h))) (ra rfl (eZ (fG rfl (fZ (eY rfl) ?_)))))))))
   exact (dN (by simp [h1]))
  ·have h0 : e = 0 := by simpa using hc
   obtain rfl:=h0
   rw [Yl,Yl,Yl]
   have hT:=a0n (port:=port) (G:=60000) (by decide) (by decide) m4 m5 g1 hh2 hg2 m1 s1 m3
   have hTo:Qh X0 X1 port h.q g.q = 0 → _:=fun hE=>Gk (a2m (t:=g.q) m4 m5 m1 m3 hh2 hE) (by decide) (by decide) hg2 he.symm
   rw [← hC1] at hTo
   have hR:=a5L (l:=l) m1 s1 zo zo
   have hRo:zB X0.length l = 0 → _:=fun hE=>Gk (a1S (t:=g.q) (l:=l) m4 m5 m1 m3 hE) (by decide) (by decide) hg2 he.symm
   rw [← hC1] at hRo
   have hN:=Bi (w:=w.map Rt.q) (c:=C1) (V:=2060000) m1 s1 m4 hw2 m5 g1 (by decide) (by decide) (by decide) (by decide) (by decide) (by decide) (by decide) (by decide) mp m3 (by rw [List.length_map]; omega) (fun hl=>Wk m4 hw2 m5 mp m3 hl) (by decide) (Eb m4 hw2 m5 mp m3) (by decide) (by decide)
   have hNo:uE X0 (w.map Rt.q) X1 = 0 → _:=fun hE=>Gk (a4h (t:=g.q) m4 hw2 m5 m1 m3 mp hE) (by decide) (by decide) hg2 he.symm
   rw [← hC1] at hNo
   obtain ⟨U0,hU0⟩:∃ x,x = ntZ X0 X1 port h.q g.q:=⟨_,rfl⟩
   obtain ⟨V0,hV0⟩:∃ x,x = ntS X0 X1 port h.q g.q:=⟨_,rfl⟩
   obtain ⟨W0,hW0⟩:∃ x,x = ntQ X0 X1 C1 port h.q g.q:=⟨_,rfl⟩
   obtain ⟨Y0,hY0⟩:∃ x,x = Qh X0 X1 port h.q g.q:=⟨_,rfl⟩
   rw [← hU0,← hV0,← hW0,← hY0] at hT hTo
   obtain ⟨U1,hU1⟩:∃ x,x = Dd X0 l:=⟨_,rfl⟩
   obtain ⟨V1,hV1⟩:∃ x,x = tE X0 X1 l:=⟨_,rfl⟩
   obtain ⟨W1,hW1⟩:∃ x,x = tE X0 C1 l:=⟨_,rfl⟩
   obtain ⟨Y1,hY1⟩:∃ x,x = zB X0.length l:=⟨_,rfl⟩
   rw [← hU1,← hV1,← hW1,← hY1] at hR hRo
   obtain ⟨U2,hU2⟩:∃ x,x = yK X0 (w.map Rt.q) X1:=⟨_,rfl⟩
   obtain ⟨V2,hV2⟩:∃ x,x = jQ X0 (w.map Rt.q) X1:=⟨_,rfl⟩
   obtain ⟨W2,hW2⟩:∃ x,x = Cp X0 (w.map Rt.q) X1 C1:=⟨_,rfl⟩
   obtain ⟨Y2,hY2⟩:∃ x,x = uE X0 (w.map Rt.q) X1:=⟨_,rfl⟩
   rw [← hU2,← hV2,← hW2,← hY2] at hN hNo
   refine cY (cU (cU (fJ (m:=8) (dp 13 rfl (eW A_34 Z_34 (Ht rfl) (i:=3) rfl rfl rfl) (dq 62 0 rfl (cJ K_51 pO ⟨(Ht rfl),trivial⟩) (dq 63 1 rfl (cJ Tryz.call59 hLo ⟨(Ht rfl),trivial⟩) (dq 64 2 rfl (cZ (Ht rfl)) (C.D_step (Ei:=[(17,_),(65,_)]) rfl rfl (bV (bK rfl rfl) (bV (bG 3 rfl rfl) bW)) (eU rfl rfl (Ht rfl) (fun h=>eW A_34 Z_34 (Ht rfl) (i:=6) rfl rfl rfl)) (C.D_step (Ei:=[(13,_),(65,_)]) rfl rfl (bV (bK rfl rfl) (bV (bG 3 rfl rfl) bW)) (eU rfl rfl (Ht rfl) (fun h=>eW A_34 Z_34 (Ht rfl) (i:=3) rfl rfl rfl)) ?_)))))))))
   refine C.D_step (Ei:=[(67,_),(65,_)]) rfl rfl (bV (bG 5 rfl rfl) (bV (bG 3 rfl rfl) bW)) (eU rfl rfl (Ht rfl) (fun h=>cJ K_51 pO ⟨(fV rfl h),trivial⟩)) (C.D_step (Ei:=[(68,_),(65,_)]) rfl rfl (bV (bG 6 rfl rfl) (bV (bG 3 rfl rfl) bW)) (eU rfl rfl (Ht rfl) (fun h=>cJ Tryz.call60 (a2G zo) ⟨(fV rfl h),trivial⟩)) (fW aL rfl (by kernel_rfl) (zF (zF (aV (fX rfl rfl (eU rfl rfl (Ht rfl) (fun h=>cJ Tryz.call52 hEq ⟨(fV rfl h),(fV rfl h),trivial⟩)) ?_))))))
   refine fX rfl rfl (eU rfl rfl (Ht rfl) (fun h=>dR (fV rfl h))) (ro rfl (fC (Ht rfl) (fun h=>(fV rfl h))) (eZ (iA (Ht rfl) (by by_cases hl:Fz X0 X1 = true <;> simp [hl,hlos]) ?_)))
   refine cY (cU (Y.D_start (m:=11) [] (cQ (Ei:=[(17,_)]) rfl rfl (bQ (bJ rfl rfl) bX) rfl rfl (dZ rfl (eW A_34 Z_34 (Ht rfl) (i:=6) rfl rfl rfl)) (cQ (Ei:=[(3,_)]) rfl rfl (bQ (bJ rfl rfl) bX) rfl rfl (dZ rfl (cZ (Ht rfl))) (cQ (Ei:=[(8,_)]) rfl rfl (bQ (bJ rfl rfl) bX) rfl rfl (dZ rfl (eW A_102 Z_102 (Ht rfl) (i:=2) rfl rfl rfl)) (cQ (Ei:=[(76,_)]) rfl rfl (bQ (bZ 2 rfl rfl) bX) rfl rfl (dZ rfl (cJ Tryz.call58 Ki ⟨(Ht rfl),trivial⟩)) ?_))))))
   refine cQ (Ei:=[(16,_)]) rfl rfl (bQ (bJ rfl rfl) bX) rfl rfl (dZ rfl (eW A_51 Z_51 (Ht rfl) (i:=5) rfl rfl rfl)) (cQ (Ei:=[(74,_),(75,_),(77,_),(78,_)]) rfl rfl (bQ (bZ 0 rfl rfl) (bQ (bZ 1 rfl rfl) (bQ (bZ 3 rfl rfl) (bQ (bZ 4 rfl rfl) bX)))) rfl rfl (dZ rfl (cJ Tryz.call61 hT ⟨(Ht rfl),(Ht rfl),(Ht rfl),(Ht rfl),trivial⟩)) (cQ (Ei:=[(79,_)]) rfl rfl (bQ (bZ 5 rfl rfl) bX) rfl rfl (dZ rfl (cZ (Ht rfl))) ?_))
   refine cQ (Ei:=[(73,_)]) rfl rfl (bQ (bZ 6 rfl rfl) bX) rfl rfl (dZ rfl (dU (Ht rfl) rfl)) (cQ (Ei:=[(73,_)]) rfl rfl (bQ (bZ 6 rfl rfl) bX) rfl rfl (dZ rfl (dU (Ht rfl) rfl)) (Y.D_newp (Ei:=[]) (fun bb=>box bb 34 [bB U0,bL V0,bL W0]) 10 rfl rfl rfl bX rfl rfl (by kernel_rfl) (eG (Ts:=[Is (.slice none 0 0),Is (.slice none 0 0),Is (.slice none 0 0)]) O_34 rfl (fun V=>aW zd (aW zd (aW zd (aG))))) ?_))
   refine Y.D_putN (Ei:=[(80,_)]) 9 rfl rfl rfl rfl rfl rfl (bQ (bZ 7 rfl rfl) bX) (fun bb=>kQ Z_34 (Ht rfl) (Ht rfl) rfl (i:=0) rfl (aK rfl) rfl rfl) (Y.D_done aL rfl (by kernel_rfl) rfl (by simp [Y.okP]) rfl rfl (bU (bU (bU (bU (bU (bU (bU (bU (bU (Y.F_newp (fun B19=>Y.F_putN (Y.F_nil ?_)))))))))))))
   refine ra rfl (eZ (cU (bR [5,6,7] rfl (by decide) (Jx (fun (A0:List Qi) (A1:List (List Qi)) (A2:List (List Qi))=>True) (fun (A0:List Qi) (A1:List (List Qi)) (A2:List (List Qi))=>[(4,lM 1 (l.map (aT .i64))),(5,qY w),(16,cC B16 0),(17,cC B17 0),(19,cC B19 0)]) (fun (A0:List Qi) (A1:List (List Qi)) (A2:List (List Qi))=>[box B16 51 [aD (decide (g.q.a < 0)),aH g.q.a.natAbs,aD (decide (g.q.b < 0)),aH g.q.b.natAbs,aH (du g.q)],box B17 34 [bB X0,bL X1,bL C1],box B19 34 [bB A0,bL A1,bL A2]]) ?_ (fun A0 A1 A2 _=>?_)))))
   ·refine ts (rm rfl (ro rfl (kN (Ht rfl) cW) (eZ (dX (Ht rfl) (fun hd0 => ?_) (fun hd0 => ?_)))))
    ·have hE0 : Y0 = 0 := by simpa using hd0
     obtain ⟨q1,q2⟩:=hTo hE0
     refine cU (Y.D_start (m:=9) [] (cQ (Ei:=[(19,_)]) rfl rfl (bQ (bJ rfl rfl) bX) rfl rfl (dZ rfl (eW A_34 Z_34 (Ht rfl) (i:=2) rfl rfl rfl)) (cQ (Ei:=[(85,_)]) rfl rfl (bQ (bZ 0 rfl rfl) bX) rfl rfl (dZ rfl (cJ K_51 pO ⟨(Ht rfl),trivial⟩)) (cQ (Ei:=[(16,_)]) rfl rfl (bQ (bJ rfl rfl) bX) rfl rfl (dZ rfl (eW A_51 Z_51 (Ht rfl) (i:=0) rfl rfl rfl)) (cQ (Ei:=[(86,_),(87,_)]) rfl rfl (bQ (bZ 1 rfl rfl) (bQ (bZ 2 rfl rfl) bX)) rfl rfl (dZ rfl (cJ Tryz.call57 q1 ⟨(Ht rfl),(Ht rfl),trivial⟩)) ?_)))))
     refine cQ (Ei:=[(88,_)]) rfl rfl (bQ (bZ 3 rfl rfl) bX) rfl rfl (dZ rfl (cZ (Ht rfl))) (cQ (Ei:=[(84,_)]) rfl rfl (bQ (bZ 4 rfl rfl) bX) rfl rfl (dZ rfl (dU (Ht rfl) rfl)) (cQ (Ei:=[(84,_)]) rfl rfl (bQ (bZ 4 rfl rfl) bX) rfl rfl (dZ rfl (dU (Ht rfl) rfl)) (Y.D_newp (Ei:=[]) (fun bb=>box bb 34 [bB U0,bL V0,bL W0]) 8 rfl rfl rfl bX rfl rfl (by kernel_rfl) (eG (Ts:=[Is (.slice none 0 0),Is (.slice none 0 0),Is (.slice none 0 0)]) O_34 rfl (fun V=>aW zd (aW zd (aW zd (aG))))) ?_)))
     refine Y.D_putN (Ei:=[(89,_)]) 7 rfl rfl rfl rfl rfl rfl (bQ (bZ 5 rfl rfl) bX) (fun bb=>kQ Z_34 (Ht rfl) (Ht rfl) rfl (i:=0) rfl (aK rfl) rfl rfl) (Y.D_done aL rfl (by kernel_rfl) rfl (by simp [Y.okP]) rfl rfl (bU (bU (bU (bU (bU (bU (bU (Y.F_newp (fun B20=>Y.F_putN (Y.F_nil ?_)))))))))))
     refine ra rfl (eZ (ts (rm rfl (ro rfl (iR (Ht rfl) cW) (rm rfl (fX rfl rfl (eU rfl rfl (Ht rfl) (fun h=>eW A_34 Z_34 (Ht rfl) (i:=2) rfl rfl rfl)) (fX rfl rfl (eU rfl rfl (Ht rfl) (fun h=>eW A_34 Z_34 (Ht rfl) (i:=3) rfl rfl rfl)) (fX rfl rfl (eU rfl rfl (Ht rfl) (fun h=>cJ Tryz.call52 q2 ⟨(fV rfl h),(fV rfl h),trivial⟩)) (fX rfl rfl (eU rfl rfl (Ht rfl) (fun h=>dR (fV rfl h))) (ro rfl (gN (Ht rfl) (fun h=>(fV rfl h))) (eZ (iA (Ht rfl) (by simp) ?_))))))))))))
     refine cY (bR [0,1,2] rfl (by decide) (bD (U0,V0,W0) trivial (zS rfl) (aU (aB rfl) (aU (aB rfl) (aU (aB rfl) aY)))))
    ·skip
     refine cY (bD (U0,V0,W0) trivial (zS rfl) (aU (aB rfl) (aU (aB rfl) (aU (aB rfl) aY))))
   ·refine ts (ro rfl (eW A_34 Z_34 (Ht rfl) (i := 1) rfl rfl rfl) (rm rfl (ro rfl (cJ Tryz.call36 hR ⟨(Ht rfl), (Ht rfl), trivial⟩) (rm rfl (ro rfl (dU (Ht rfl) rfl) (ro rfl (dU (Ht rfl) rfl) (gX Z_34 (Ht rfl) (Ht rfl) rfl (i := 2) rfl (aK rfl) rfl rfl (ra rfl (eZ (cU (Jx (fun (A0 : List Qi) (A1 : List (List Qi)) (A2 : List (List Qi)) => True) (fun (A0 : List Qi) (A1 : List (List Qi)) (A2 : List (List Qi)) => [(4, lM 1 (l.map (aT .i64))), (5, qY w), (16, cC B16 0), (17, cC B17 0), (19, cC B19 0)]) (fun (A0 : List Qi) (A1 : List (List Qi)) (A2 : List (List Qi)) => [box B16 51 [aD (decide (g.q.a < 0)), aH g.q.a.natAbs, aD (decide (g.q.b < 0)), aH g.q.b.natAbs, aH (du g.q)], box B17 34 [bB X0, bL X1, bL C1], box B19 34 [bB A0, bL A1, bL A2]]) ?_ (fun A0 A1 A2 _ => ?_))))))))))))
    ·refine ts (rm rfl (ro rfl (kN (Ht rfl) cW) (eZ (dX (Ht rfl) (fun hd1 => ?_) (fun hd1 => ?_)))))
     ·have hE1 : Y1 = 0 := by simpa using hd1
      obtain ⟨q1,q2⟩:=hRo hE1
      refine cU (Y.D_start (m:=9) [] (cQ (Ei:=[(19,_)]) rfl rfl (bQ (bJ rfl rfl) bX) rfl rfl (dZ rfl (eW A_34 Z_34 (Ht rfl) (i:=2) rfl rfl rfl)) (cQ (Ei:=[(108,_)]) rfl rfl (bQ (bZ 0 rfl rfl) bX) rfl rfl (dZ rfl (cJ K_51 pO ⟨(Ht rfl),trivial⟩)) (cQ (Ei:=[(16,_)]) rfl rfl (bQ (bJ rfl rfl) bX) rfl rfl (dZ rfl (eW A_51 Z_51 (Ht rfl) (i:=0) rfl rfl rfl)) (cQ (Ei:=[(109,_),(110,_)]) rfl rfl (bQ (bZ 1 rfl rfl) (bQ (bZ 2 rfl rfl) bX)) rfl rfl (dZ rfl (cJ Tryz.call57 q1 ⟨(Ht rfl),(Ht rfl),trivial⟩)) ?_)))))
      refine cQ (Ei:=[(111,_)]) rfl rfl (bQ (bZ 3 rfl rfl) bX) rfl rfl (dZ rfl (cZ (Ht rfl))) (cQ (Ei:=[(107,_)]) rfl rfl (bQ (bZ 4 rfl rfl) bX) rfl rfl (dZ rfl (dU (Ht rfl) rfl)) (cQ (Ei:=[(107,_)]) rfl rfl (bQ (bZ 4 rfl rfl) bX) rfl rfl (dZ rfl (dU (Ht rfl) rfl)) (Y.D_newp (Ei:=[]) (fun bb=>box bb 34 [bB U1,bL V1,bL W1]) 8 rfl rfl rfl bX rfl rfl (by kernel_rfl) (eG (Ts:=[Is (.slice none 0 0),Is (.slice none 0 0),Is (.slice none 0 0)]) O_34 rfl (fun V=>aW zd (aW zd (aW zd (aG))))) ?_)))
      refine Y.D_putN (Ei:=[(112,_)]) 7 rfl rfl rfl rfl rfl rfl (bQ (bZ 5 rfl rfl) bX) (fun bb=>kQ Z_34 (Ht rfl) (Ht rfl) rfl (i:=0) rfl (aK rfl) rfl rfl) (Y.D_done aL rfl (by kernel_rfl) rfl (by simp [Y.okP]) rfl rfl (bU (bU (bU (bU (bU (bU (bU (Y.F_newp (fun B22=>Y.F_putN (Y.F_nil ?_)))))))))))
      refine ra rfl (eZ (ts (rm rfl (ro rfl (iR (Ht rfl) cW) (rm rfl (fX rfl rfl (eU rfl rfl (Ht rfl) (fun h=>eW A_34 Z_34 (Ht rfl) (i:=2) rfl rfl rfl)) (fX rfl rfl (eU rfl rfl (Ht rfl) (fun h=>eW A_34 Z_34 (Ht rfl) (i:=3) rfl rfl rfl)) (fX rfl rfl (eU rfl rfl (Ht rfl) (fun h=>cJ Tryz.call52 q2 ⟨(fV rfl h),(fV rfl h),trivial⟩)) (fX rfl rfl (eU rfl rfl (Ht rfl) (fun h=>dR (fV rfl h))) (ro rfl (gN (Ht rfl) (fun h=>(fV rfl h))) (eZ (iA (Ht rfl) (by simp) ?_))))))))))))
      refine cY (bR [0,1,2] rfl (by decide) (bD (U1,V1,W1) trivial (zS rfl) (aU (aB rfl) (aU (aB rfl) (aU (aB rfl) aY)))))
     ·skip
      refine cY (bD (U1,V1,W1) trivial (zS rfl) (aU (aB rfl) (aU (aB rfl) (aU (aB rfl) aY))))
    ·refine cU (Y.D_start (m := 8) [(7, 2, box B19 34 [bB U2, bL V2, bL W2])] (Y.D_step (Ei := [(17, _)]) rfl rfl (bQ (bJ rfl rfl) bX) rfl rfl (by kernel_rfl) (dZ rfl (eW A_34 Z_34 (Ht rfl) (i := 1) rfl rfl rfl)) (Y.D_step (Ei := [(5, _)]) rfl rfl (bQ (bJ rfl rfl) bX) rfl rfl (by kernel_rfl) (dZ rfl (cZ (Ht rfl))) (Y.D_step (Ei := [(124, _)]) rfl rfl (bQ (bZ 1 rfl rfl) bX) rfl rfl (by kernel_rfl) (dZ rfl (cJ K_48 (qM zo) ⟨(Ht rfl), trivial⟩)) (Y.D_step (Ei := [(123, _), (125, _)]) rfl rfl (bQ (bZ 0 rfl rfl) (bQ (bZ 2 rfl rfl) bX)) rfl rfl (by kernel_rfl) (dZ rfl (cJ Tryz.call47 hN ⟨(Ht rfl), (Ht rfl), trivial⟩)) ?_)))))
     refine Y.D_step (Ei:=[(126,_)]) rfl rfl (bQ (bZ 3 rfl rfl) bX) rfl rfl (by kernel_rfl) (dZ rfl (cZ (Ht rfl))) (Y.D_step (Ei:=[(122,_)]) rfl rfl (bQ (bZ 4 rfl rfl) bX) rfl rfl (by kernel_rfl) (dZ rfl (dU (Ht rfl) rfl)) (cQ (Ei:=[(122,_)]) rfl rfl (bQ (bZ 4 rfl rfl) bX) rfl rfl (dZ rfl (dU (Ht rfl) rfl)) (Y.D_putI (Ei:=[(19,_),(127,_)]) 2 rfl rfl rfl (bQ (bJ rfl rfl) (bQ (bZ 5 rfl rfl) bX)) (.head _) rfl (kQ Z_34 (Ht rfl) (Ht rfl) rfl (i:=0) rfl (aK rfl) rfl rfl) ?_)))
     refine Y.D_done aL rfl (by kernel_rfl) rfl (by simp [Y.okP]) rfl rfl (bU (bU (bU (bU (bU (bU (bU (Y.F_putI (Y.F_nil ?_)))))))))
     refine ra rfl (eZ (cU (cU (bR [0,1,2] rfl (by decide) (dQ (rm rfl (ro rfl (kN (Ht rfl) cW) (eZ (dX (Ht rfl) (fun hd2=>?_) (fun hd2=>?_))))))))))
     ·have hE2 : Y2 = 0 := by simpa using hd2
      obtain ⟨q1,q2⟩:=hNo hE2
      refine cU (Y.D_start (m:=9) [] (cQ (Ei:=[(19,_)]) rfl rfl (bQ (bJ rfl rfl) bX) rfl rfl (dZ rfl (eW A_34 Z_34 (Ht rfl) (i:=2) rfl rfl rfl)) (cQ (Ei:=[(132,_)]) rfl rfl (bQ (bZ 0 rfl rfl) bX) rfl rfl (dZ rfl (cJ K_51 pO ⟨(Ht rfl),trivial⟩)) (cQ (Ei:=[(16,_)]) rfl rfl (bQ (bJ rfl rfl) bX) rfl rfl (dZ rfl (eW A_51 Z_51 (Ht rfl) (i:=0) rfl rfl rfl)) (cQ (Ei:=[(133,_),(134,_)]) rfl rfl (bQ (bZ 1 rfl rfl) (bQ (bZ 2 rfl rfl) bX)) rfl rfl (dZ rfl (cJ Tryz.call57 q1 ⟨(Ht rfl),(Ht rfl),trivial⟩)) ?_)))))
      refine cQ (Ei:=[(135,_)]) rfl rfl (bQ (bZ 3 rfl rfl) bX) rfl rfl (dZ rfl (cZ (Ht rfl))) (cQ (Ei:=[(131,_)]) rfl rfl (bQ (bZ 4 rfl rfl) bX) rfl rfl (dZ rfl (dU (Ht rfl) rfl)) (cQ (Ei:=[(131,_)]) rfl rfl (bQ (bZ 4 rfl rfl) bX) rfl rfl (dZ rfl (dU (Ht rfl) rfl)) (Y.D_newp (Ei:=[]) (fun bb=>box bb 34 [bB U2,bL V2,bL W2]) 8 rfl rfl rfl bX rfl rfl (by kernel_rfl) (eG (Ts:=[Is (.slice none 0 0),Is (.slice none 0 0),Is (.slice none 0 0)]) O_34 rfl (fun V=>aW zd (aW zd (aW zd (aG))))) ?_)))
      refine Y.D_putN (Ei:=[(136,_)]) 7 rfl rfl rfl rfl rfl rfl (bQ (bZ 5 rfl rfl) bX) (fun bb=>kQ Z_34 (Ht rfl) (Ht rfl) rfl (i:=0) rfl (aK rfl) rfl rfl) (Y.D_done aL rfl (by kernel_rfl) rfl (by simp [Y.okP]) rfl rfl (bU (bU (bU (bU (bU (bU (bU (Y.F_newp (fun B24=>Y.F_putN (Y.F_nil ?_)))))))))))
      refine ra rfl (eZ (ts (rm rfl (ro rfl (iR (Ht rfl) cW) (rm rfl (fX rfl rfl (eU rfl rfl (Ht rfl) (fun h=>eW A_34 Z_34 (Ht rfl) (i:=2) rfl rfl rfl)) (fX rfl rfl (eU rfl rfl (Ht rfl) (fun h=>eW A_34 Z_34 (Ht rfl) (i:=3) rfl rfl rfl)) (fX rfl rfl (eU rfl rfl (Ht rfl) (fun h=>cJ Tryz.call52 q2 ⟨(fV rfl h),(fV rfl h),trivial⟩)) (fX rfl rfl (eU rfl rfl (Ht rfl) (fun h=>dR (fV rfl h))) (ro rfl (gN (Ht rfl) (fun h=>(fV rfl h))) (eZ (iA (Ht rfl) (by simp) ?_))))))))))))
      refine cY (ts (ro rfl (cJ K_16 tN trivial) (ra rfl (eZ ?_))))
      exact fG rfl (eY rfl)
     ·skip
      refine cY (ts (ro rfl (cJ K_16 tN trivial) (ra rfl (eZ ?_))))
      exact fG rfl (eY rfl)
end
section
open Go Go.ChangeShapes Go.WideShapes Go.ChangeAt Go.RowKit Go.Deep
section
variable {H:Type} {enc:TypeId × Value → H} {W:World} {base:Nat} {sp:Nat → Bool} {held:Bool}
theorem Ym {n : Nat} {cs : List Value} {y : DataW H × List MemPlace} (h : DataW.trod enc Tryz.prog W base sp held n 72 cs = some y) : ∃ (v : Value) (l : List Int), cs = [v] ∧ (lM 1 (l.map (aT .i64))).p v (hv W) :=
 Lq (F:=aT .i64) Tryz.underlying72 (by kernel_rfl) (by decide) (fun n cs y h=>by obtain ⟨i,e,_,_⟩:=DataW.trod_int Tryz.underlying3 h; exact ⟨i,.int .i64 i,by rw [e]; rfl,rfl⟩) h
theorem Sy {b0:Nat} {v:Value} {d:DataW H} {p:List MemPlace} (ho:Value.okWide Tryz.prog W .any b0 72 v) (h:DataW.Trod enc Tryz.prog W base sp held 72 v d p):∃ l:List Int,(lM 1 (l.map (aT .i64))).p v (hv W):=by
 obtain ⟨a,n,k,rfl⟩:=okWide_slice Tryz.underlying72 ho
 obtain ⟨m,hm⟩:=h
 obtain ⟨v,l,e,hl⟩:=Ym hm
 have:[Value.slice a n k] = [v]:=e
 simp only [List.cons.injEq,and_true] at this
 subst this
 exact ⟨l,hl⟩
end
end
section
open Go Go.RowKit
theorem Rk {z w:List Qi} {s c:List (List Qi)} {L M K V W G X:Nat} (hs:cI s z.length z.length) (hch:cI c z.length z.length) (hz:cB z L) (hw:cB w M) (hf:bA s K) (hfc:bA c W) (hL:1 ≤ L) (hM:1 ≤ M) (hK:1 ≤ K) (hW:1 ≤ W) (hLb:L ≤ 1000) (hMb:M ≤ 1000) (hKb:K ≤ 100000000000) (hWb:W ≤ 400000000) (hp:z.all eO = true) (h8:z.length ≤ 8) (hwl:w.length ≤ 1000) (hsz:w.length = z.length → ∀ i,i < w.length → SzJ (qT z w s) (ek w.length i) w.length G) (hif:w.length = z.length → oM (qT z w s) w.length = 0 → bA (nN (qT z w s) w.length) X) (hX:X ≤ 900000000000) (hV:bA (jQ z w s) V) (hV1:1 ≤ V) (hVb:V ≤ 400000000):bE Tryz.prog 49 [pG z s c,tJ w] (eS [pG (yK z w s) (jQ z w s) (Cp z w s c),aT .i64 (uE z w s)]):=by
 have hR:=Ri hs hz hw hf hL hM hK zo zo hKb hp h8 hwl hsz hif hX
 haveI h5:=Kz
 haveI h6:=kS
 refine bE.intro Tryz.func49 rfl Tryz.ntmps49 rfl (fun cx=>(ts (rn rfl (fK (Ht rfl)) fun B2=>(rn rfl (eG (Ts:=[Is (.slice none 0 0),Is (.slice none 0 0),Is (.slice none 0 0)]) O_40 rfl (fun V=>aW zd (aW zd (aW zd (aG))))) fun B4=>(ro rfl (cX (cV 0)) (eZ (ts (ro rfl (eJ xG (Ht rfl) rfl) (ro rfl (eW A_38 Z_38 (Ht rfl) (i:=0) rfl rfl rfl) (rm rfl (ro rfl (cJ Tryz.call143 hR ⟨(Ht rfl),(Ht rfl),trivial⟩) (rm rfl (ro rfl (dU (Ht rfl) rfl) ?_)))))))))))))
 refine ro rfl (dU (Ht rfl) rfl) (rn rfl (eG (Ts:=[Is (.slice none 0 0),Is (.slice none 0 0)]) O_38 rfl (fun V=>aW zd (aW zd (aG)))) fun B6=>(gX Z_38 (Ht rfl) (Ht rfl) rfl (i:=2) rfl (aK rfl) rfl rfl (ra rfl (eZ (cU (ts (rm rfl (ro rfl (iR (Ht rfl) cW) (eZ (dX (Ht rfl) (fun hb=>?_) (fun hb=>?_)))))))))))
 ·have he : uE z w s ≠ 0 := by simpa using hb
  refine ts (ro rfl (aM.imp (Kc ) zD) (rm rfl (gX Z_40 (Ht rfl) (Ht rfl) rfl (i:=1) rfl (aK rfl) rfl rfl (ra rfl (eZ (bM rfl (fZ (fU A_40 Z_40 rfl (i:=1) rfl rfl) ?_) (eY rfl)))))))
  exact (fun v V h=>by rw [yK,jQ,Cp,dA,dA,dA,if_neg he,if_neg he,if_neg he]; exact h)
 ·have he : uE z w s = 0 := by simpa using hb
  have hl:=Jj he
  obtain ⟨hq,-,hSx,hZ⟩:=qK (n:=z.length) rfl hl he
  have hS2:cI (jQ z w s) w.length w.length:=by rw [hSx,hl]; exact gS
  have hC:Cp z w s c = iZ (Cq z w (jQ z w s) w.length) c:=by rw [Cp,dA,if_pos he]
  rw [hZ,hC,he]
  clear hR hsz hif hSx hZ hC he hb hs
  generalize jQ z w s = S at *
  obtain ⟨n,hn⟩:∃ n,n = w.length:=⟨_,rfl⟩
  have hzl:z.length = n:=by omega
  rw [← hn] at hS2
  have hSl:=hS2.1
  obtain ⟨D,hD⟩:∃ D,D = M + 3 * L + 2:=⟨_,rfl⟩
  refine cY (ts (rm rfl (ro rfl (aM.nat (dK U_35 (Ht rfl) aA) hn.symm) (rm rfl (ro rfl (aM.nat (dK U_35 (Ht rfl) aA) hn.symm) (hJ K_129 (rB (n:=n) (m:=n) zo zo) ⟨(Ht rfl),(Ht rfl),trivial⟩ rfl (fun B32 _=>(ra rfl (eZ (cU (ts (ro rfl (cX (cV 0)) (eZ (eK ?_))))))))))))))
  refine bS (fun (k : Nat) => k ≤ n) (fun (k : Nat) => n - k) (fun (k : Nat) => [(1, tJ w), (2, cC B2 0), (4, cC B4 0), (6, cC B6 0), (8, Is (.slice (some ⟨B32, 0, none⟩) n n)), (9, NT .i64 k)]) (fun (k : Nat) => [box B2 40 [tJ z, QM s, QM c], box B4 40 [Is (.slice none 0 0), Is (.slice none 0 0), Is (.slice none 0 0)], box B6 38 [tJ w, QM S], jU dT B32 35 131 5 (bP QT (oC (qQ z w S) n n k 0))]) 0 (Nat.zero_le _)
   (zS rfl) (aU (aB rfl) (aU (aB rfl) (aU (aB rfl) (aU (bF (by rw [mI,← xD]; rfl)) aY)))) (fun k hk=>?_)
  refine cU (ts (rm rfl (rm rfl (ro rfl (aM.nat (dK U_35 (Ht rfl) aA) hn.symm) (ro rfl (gZ (Ht rfl) (Ht rfl)) (eZ (dX (Ht rfl) (fun hd=>?_) (fun hd=>?_))))))))
  ·have hkn : k < n := by simp only [decide_eq_true_eq] at hd; omega
   haveI q2:aE (gv w k) M:=hw.get hM k
   haveI q3:aE (gv z k) L:=hz.get hL k
   haveI q4:aE (fT z w k) D:=by rw [hD]; exact sG hz hw hL hM hp zo
   haveI q5:aE ((Qi.ofInt 1 - fT z w k) * lG) (1 + D + 1 + 2 + 1):=fitMul (L:=1 + D + 1) (M:=2)
   haveI q6:aE ((Qi.ofInt 1 + fT z w k) * lG) (1 + D + 1 + 2 + 1):=fitMul (L:=1 + D + 1) (M:=2)
   refine cY (cU (eK (cU (Y.D_start (m:=16) [] (cQ (Ei:=[(1,_)]) rfl rfl (bQ (bJ rfl rfl) bX) rfl rfl (dZ rfl (cZ (Ht rfl))) (cQ (Ei:=[(9,_)]) rfl rfl (bQ (bJ rfl rfl) bX) rfl rfl (dZ rfl (cZ (Ht rfl))) (cQ (Ei:=[(40,_),(41,_)]) rfl rfl (bQ (bZ 0 rfl rfl) (bQ (bZ 1 rfl rfl) bX)) rfl rfl (dZ rfl (dJ U_35 Z_131 (Ht rfl) (Ht rfl) rfl (eQ (dY (d:=Qi.zero) zo)))) (cQ (Ei:=[(42,_)]) rfl rfl (bQ (bZ 2 rfl rfl) bX) rfl rfl (dZ rfl (dV A_131 Z_131 (Ht rfl))) ?_))))))))
   refine cQ (Ei:=[(2,_)]) rfl rfl (bQ (bJ rfl rfl) bX) rfl rfl (dZ rfl (eJ xG (Ht rfl) rfl)) (cQ (Ei:=[(44,_)]) rfl rfl (bQ (bZ 4 rfl rfl) bX) rfl rfl (dZ rfl (eJ rW (Ht rfl) rfl)) (cQ (Ei:=[(45,_)]) rfl rfl (bQ (bZ 5 rfl rfl) bX) rfl rfl (dZ rfl (fQ A_35 Z_35 (Ht rfl) (i:=0) rfl rfl)) (cQ (Ei:=[(9,_)]) rfl rfl (bQ (bJ rfl rfl) bX) rfl rfl (dZ rfl (cZ (Ht rfl))) (cQ (Ei:=[(46,_),(47,_)]) rfl rfl (bQ (bZ 6 rfl rfl) (bQ (bZ 7 rfl rfl) bX)) rfl rfl (dZ rfl (dJ U_35 Z_131 (Ht rfl) (Ht rfl) rfl (eQ (dY (d:=Qi.zero) zo)))) ?_))))
   refine cQ (Ei:=[(48,_)]) rfl rfl (bQ (bZ 8 rfl rfl) bX) rfl rfl (dZ rfl (dV A_131 Z_131 (Ht rfl))) (cQ (Ei:=[(43,_),(49,_)]) rfl rfl (bQ (bZ 3 rfl rfl) (bQ (bZ 9 rfl rfl) bX)) rfl rfl (dZ rfl (cJ Tryz.call144 (Dg (x:=gv w k) (y:=gv z k) (L:=M) (M:=L) zo) ⟨(Ht rfl),(Ht rfl),trivial⟩)) (cQ (Ei:=[(50,_)]) rfl rfl (bQ (bZ 10 rfl rfl) bX) rfl rfl (dZ rfl (cZ (Ht rfl))) (cQ (Ei:=[(39,_)]) rfl rfl (bQ (bZ 11 rfl rfl) bX) rfl rfl (dZ rfl (dU (Ht rfl) rfl)) ?_)))
   refine cQ (Ei:=[(39,_)]) rfl rfl (bQ (bZ 11 rfl rfl) bX) rfl rfl (dZ rfl (dU (Ht rfl) rfl)) (Y.D_newp (Ei:=[]) (fun bb=>box bb 131 [aD (decide ((fT z w k).a < 0)),aH (fT z w k).a.natAbs,aD (decide ((fT z w k).b < 0)),aH (fT z w k).b.natAbs,aH (fT z w k).den]) 15 rfl rfl rfl bX rfl rfl (by kernel_rfl) (eG (Ts:=[Is (.bool false),Is (.slice none 0 0),Is (.bool false),Is (.slice none 0 0),Is (.slice none 0 0)]) O_131 rfl (fun V=>aW zd (aW zd (aW zd (aW zd (aW zd (aG))))))) ?_)
   refine Y.D_putN (Ei:=[(51,_)]) 14 rfl rfl rfl rfl rfl rfl (bQ (bZ 12 rfl rfl) bX) (fun bb=>kQ Z_131 (Ht rfl) (Ht rfl) rfl (i:=0) rfl (aK rfl) rfl rfl) (Y.D_done aL rfl (by kernel_rfl) rfl (by simp [Y.okP]) rfl rfl (bU (bU (bU (bU (bU (bU (bU (bU (bU (bU (bU (bU (bU (bU (Y.F_newp (fun B10=>Y.F_putN (Y.F_nil ?_))))))))))))))))))
   refine ra rfl (eZ (ts (ro rfl (cJ Tryz.call145 (a0v (p:=1) (q:=0) (d:=2) (by decide) (by decide) (by decide) (by decide) (by decide) (by decide) (by decide)) ⟨(cV 1),(cV 0),(cV 2),trivial⟩) (rm rfl (ro rfl (dU (Ht rfl) rfl) (ro rfl (dU (Ht rfl) rfl) (rn rfl (eG (Ts:=[Is (.bool false),Is (.slice none 0 0),Is (.bool false),Is (.slice none 0 0),Is (.slice none 0 0)]) O_131 rfl (fun V=>aW zd (aW zd (aW zd (aW zd (aW zd (aG))))))) fun B12=>?_)))))))
   refine gX Z_131 (Ht rfl) (Ht rfl) rfl (i:=5) rfl (aK rfl) rfl rfl (ra rfl (eZ (cU (fJ (m:=6) (d0 rfl (cJ K_148 (rD (n:=1) (by decide) (by decide)) ⟨(cV 1),trivial⟩) (dp 10 rfl (eW A_131 Z_131 (Ht rfl) (i:=4) rfl rfl rfl) (cP 57 0 58 1 rfl (cJ Tryz.call147 (Kn (x:=Qi.ofInt 1) (y:=fT z w k) (L:=1) (M:=D) zo) ⟨(Ht rfl),(Ht rfl),trivial⟩) (dp 12 rfl (eW A_131 Z_131 (Ht rfl) (i:=5) rfl rfl rfl) (cP 59 2 60 3 rfl (cJ K_146 (rC (x:=Qi.ofInt 1 - fT z w k) (y:=lG) (L:=1 + D + 1) (M:=2) zo) ⟨(Ht rfl),(Ht rfl),trivial⟩) ?_)))))))))
   refine C.D_new (Ei:=[]) rfl rfl rfl bW (eG (Ts:=[Is (.bool false),Is (.slice none 0 0),Is (.bool false),Is (.slice none 0 0),Is (.slice none 0 0)]) O_131 rfl (fun V=>aW zd (aW zd (aW zd (aW zd (aW zd (aG))))))) (fW aL rfl (by kernel_rfl) (zF (aJ (C.F_new (fun B14=>aV (gX Z_131 (Ht rfl) (Ht rfl) rfl (i:=6) rfl (aK rfl) rfl rfl (eZ (cU (fJ (m:=6) ?_)))))))))
   refine d0 rfl (cJ K_148 (rD (n:=1) (by decide) (by decide)) ⟨(cV 1),trivial⟩) (dp 10 rfl (eW A_131 Z_131 (Ht rfl) (i:=4) rfl rfl rfl) (cP 62 0 63 1 rfl (cJ K_149 (yU (x:=Qi.ofInt 1) (y:=fT z w k) (L:=1) (M:=D) zo) ⟨(Ht rfl),(Ht rfl),trivial⟩) (dp 12 rfl (eW A_131 Z_131 (Ht rfl) (i:=5) rfl rfl rfl) (cP 64 2 65 3 rfl (cJ K_146 (rC (x:=Qi.ofInt 1 + fT z w k) (y:=lG) (L:=1 + D + 1) (M:=2) zo) ⟨(Ht rfl),(Ht rfl),trivial⟩) (C.D_new (Ei:=[]) rfl rfl rfl bW (eG (Ts:=[Is (.bool false),Is (.slice none 0 0),Is (.bool false),Is (.slice none 0 0),Is (.slice none 0 0)]) O_131 rfl (fun V=>aW zd (aW zd (aW zd (aW zd (aW zd (aG))))))) ?_)))))
   refine fW aL rfl (by kernel_rfl) (zF (aJ (C.F_new (fun B15=>aV (gX Z_131 (Ht rfl) (Ht rfl) rfl (i:=7) rfl (aK rfl) rfl rfl (eZ (cU (bR [0,1,2,3,6,7] rfl (by decide) (dQ (ro rfl (cX (cV 0)) (eZ (eK ?_))))))))))))
   refine bS (fun (i : Nat) => i ≤ n) (fun (i : Nat) => n - i) (fun (i : Nat) => [(1, tJ w), (2, cC B2 0), (4, cC B4 0), (6, cC B6 0), (8, Is (.slice (some ⟨B32, 0, none⟩) n n)), (9, NT .i64 k), (14, cC B14 0), (15, cC B15 0), (16, NT .i64 i)]) (fun (i : Nat) => [box B2 40 [tJ z, QM s, QM c], box B4 40 [Is (.slice none 0 0), Is (.slice none 0 0), Is (.slice none 0 0)], box B6 38 [tJ w, QM S], jU dT B32 35 131 5 (bP QT (oC (qQ z w S) n n k i)), box B14 131 [aD (decide (((Qi.ofInt 1 - fT z w k) * lG).a < 0)), aH ((Qi.ofInt 1 - fT z w k) * lG).a.natAbs, aD (decide (((Qi.ofInt 1 - fT z w k) * lG).b < 0)), aH ((Qi.ofInt 1 - fT z w k) * lG).b.natAbs, aH ((Qi.ofInt 1 - fT z w k) * lG).den], box B15 131 [aD (decide (((Qi.ofInt 1 + fT z w k) * lG).a < 0)), aH ((Qi.ofInt 1 + fT z w k) * lG).a.natAbs, aD (decide (((Qi.ofInt 1 + fT z w k) * lG).b < 0)), aH ((Qi.ofInt 1 + fT z w k) * lG).b.natAbs, aH ((Qi.ofInt 1 + fT z w k) * lG).den]]) 0 (Nat.zero_le _)
    (zS rfl) (aU (aB rfl) (aU (aB rfl) (aU (aB rfl) (aU (fun _ _ _ h=>h) (aU (aB rfl) (aU (aB rfl) aY)))))) (fun i hi=>?_)
   refine cU (ts (rm rfl (rm rfl (ro rfl (aM.nat (dK U_35 (Ht rfl) aA) hn.symm) (ro rfl (gZ (Ht rfl) (Ht rfl)) (eZ (dX (Ht rfl) (fun hf2=>?_) (fun hf2=>?_))))))))
   ·have hin : i < n := by simp only [decide_eq_true_eq] at hf2; omega
    have hSr:=hS2.row hin
    haveI q1:aE (gm S i k) V:=hV.get hV1 i k
    haveI q7:aE (gm S i k * ((Qi.ofInt 1 - fT z w k) * lG)) (V + (1 + D + 1 + 2 + 1) + 1):=fitMul (L:=V) (M:=1 + D + 1 + 2 + 1)
    have hpl:=(mB (qQ z w S) n n k i).1
    have hpr:((oC (qQ z w S) n n k i).getD i []).length = n:=(mB (qQ z w S) n n k i).row hin
    refine kE 3 (i) rfl (kY zo) (fun va hva=>(cY (cU (eK (cU (fJ (m:=16) (dp 8 rfl (cZ (Ht rfl)) (dp 16 rfl (cZ (Ht rfl)) (cP 73 0 74 1 rfl (gQ U_36 Z_35 (Ht rfl) (Ht rfl) rfl zo (by rw [Nat.mul_one,Nat.zero_add])) ?_)))))))))
    refine dq 75 2 rfl (gI A_35 Z_35 (Ht rfl) (j:=3) rfl) (dp 9 rfl (cZ (Ht rfl)) (dp 6 rfl (eJ Dn (Ht rfl) rfl) (dq 78 5 rfl (fQ A_36 Z_36 (Ht rfl) (i:=2) rfl rfl) (dp 16 rfl (cZ (Ht rfl)) (cP 79 6 80 7 rfl (dJ U_36 Z_35 (Ht rfl) (Ht rfl) rfl (eQ (dY (d:=[]) zo))) (dq 81 8 rfl (dV A_35 Z_35 (Ht rfl)) (dp 9 rfl (cZ (Ht rfl)) (cP 82 9 83 10 rfl (dJ U_35 Z_131 (Ht rfl) (Ht rfl) rfl (eQ (dY (d:=Qi.zero) zo))) ?_))))))))
    refine dq 84 11 rfl (dV A_131 Z_131 (Ht rfl)) (dp 14 rfl (eW A_131 Z_131 (Ht rfl) (i:=4) rfl rfl rfl) (cP 85 12 86 13 rfl (cJ K_146 (rC (x:=gm S i k) (y:=(Qi.ofInt 1 - fT z w k) * lG) (L:=V) (M:=1 + D + 1 + 2 + 1) zo) ⟨(Ht rfl),(Ht rfl),trivial⟩) (dq 87 14 rfl (cJ Tryz.call150 (a0u (x:=gm S i k * ((Qi.ofInt 1 - fT z w k) * lG))) ⟨(Ht rfl),trivial⟩) (fW aL rfl (by kernel_rfl) (zF (zF (zF (zF (aV ?_)))))))))
    refine ro rfl (cR U_35 Z_131 (Ht rfl) (Ht rfl) rfl (i:=6) rfl (by rw [List.length_map]; omega) rfl) ?_
    refine kV Z_131 (Ht rfl) (Ht rfl) (El.ag rfl) (i:=6) rfl rfl (by rw [List.length_map]; omega) rfl ?_
    refine eZ (ts (rm rfl (rm rfl (ro rfl (cT (Ht rfl) (Ht rfl)) (eZ (dX (Ht rfl) (fun hij=>?_) (fun hij=>?_)))))))
    ·have hij2 : i = k := by simpa using hij
     have hval : qQ z w S i k = (-(gm S i k * ((Qi.ofInt 1 - fT z w k) * lG))) + (Qi.ofInt 1 + fT z w k) * lG := by
      rw [qQ,if_pos hij2]
      show (1 + fT z w k) * lG - gm S i k * ((1 - fT z w k) * lG) = -(gm S i k * ((1 - fT z w k) * lG)) + (1 + fT z w k) * lG
      grind
     refine fJ (m:=14) (dp 8 rfl (cZ (Ht rfl)) (dp 16 rfl (cZ (Ht rfl)) (cP 93 0 94 1 rfl (gQ U_36 Z_35 (Ht rfl) (Ht rfl) rfl zo (by rw [Nat.mul_one,Nat.zero_add])) ?_)))
     refine dq 95 2 rfl (gI A_35 Z_35 (Ht rfl) (j:=3) rfl) (dp 9 rfl (cZ (Ht rfl)) (dp 8 rfl (cZ (Ht rfl)) (dp 16 rfl (cZ (Ht rfl)) (cP 98 5 99 6 rfl (gQ U_36 Z_35 (Ht rfl) (Ht rfl) rfl zo (by rw [Nat.mul_one,Nat.zero_add])) ?_))))
     refine dq 100 7 rfl (gI A_35 Z_35 (Ht rfl) (j:=3) rfl) (dp 9 rfl (cZ (Ht rfl)) (cP 101 8 102 9 rfl (cR U_35 Z_131 (Ht rfl) (Ht rfl) rfl (i:=6) rfl (by rw [List.length_set,List.length_map]; omega) rfl) ?_))
     refine dq 103 10 rfl (oX A_131 Z_131 (Ht rfl) (i:=6) rfl rfl (List.getElem?_set_self (by rw [List.length_map]; omega))) ?_
     refine dp 15 rfl (eW A_131 Z_131 (Ht rfl) (i:=5) rfl rfl rfl) (cP 104 11 105 12 rfl (cJ K_149 (yU (x:=(-(gm S i k * ((Qi.ofInt 1 - fT z w k) * lG)))) (y:=(Qi.ofInt 1 + fT z w k) * lG) (L:=V + (1 + D + 1 + 2 + 1) + 1) (M:=1 + D + 1 + 2 + 1) zo) ⟨(Ht rfl),(Ht rfl),trivial⟩) (fW aL rfl (by kernel_rfl) (zF (zF (zF (aJ (aJ (aV (ro rfl (cR U_35 Z_131 (Ht rfl) (Ht rfl) rfl (i:=6) rfl (by rw [List.length_set,List.length_map]; omega) rfl) ?_)))))))))
     refine kV Z_131 (Ht rfl) (Ht rfl) (El.ag rfl) (i:=6) rfl rfl (by rw [List.length_set,List.length_map]; omega) rfl ?_
     refine eZ (bC (dL 3 6 rfl rfl (by decide) (by simp only [bP,List.length_map]; omega) ?_))
     refine dQ (rm rfl (ro rfl (dW (Ht rfl) (cV 1) z6) (ra rfl (eZ (bR [0,1,2,3,4,5] rfl (by decide) (fY (i + 1) hin zo (zS rfl) (aU (aB rfl) (aU (aB rfl) (aU (aB rfl) (aU (bF (by rw [List.set_set,eN,eE,← hval]; exact congrArg _ (sR (val:=(qQ z w S)) hin hkn))) (aU (aB rfl) (aU (aB rfl) aY))))))))))))
    ·have hij2 : ¬ i = k := by simpa using hij
     have hval:qQ z w S i k = (-(gm S i k * ((Qi.ofInt 1 - fT z w k) * lG))):=by rw [qQ,if_neg hij2]; rfl
     refine cY (bC (dL 3 6 rfl rfl (by decide) (by simp only [bP,List.length_map]; omega) ?_))
     refine dQ (rm rfl (ro rfl (dW (Ht rfl) (cV 1) z6) (ra rfl (eZ (bR [0,1,2,3,4,5] rfl (by decide) (fY (i + 1) hin zo (zS rfl) (aU (aB rfl) (aU (aB rfl) (aU (aB rfl) (aU (bF (by rw [eN,eE,← hval]; exact congrArg _ (sR (val:=(qQ z w S)) hin hkn))) (aU (aB rfl) (aU (aB rfl) aY))))))))))))
   ·have hin : i = n := by simp only [decide_eq_false_iff_not] at hf2; omega
    rw [hin,zT]
    refine gW rfl (bC (dQ (rm rfl (ro rfl (dW (Ht rfl) (cV 1) z6) (ra rfl (eZ (bR [0,1,2,3] rfl (by decide) (fY (k + 1) hkn zo (zS rfl) (aU (aB rfl) (aU (aB rfl) (aU (aB rfl) (aU (fun _ _ _ h=>h) aY))))))))))))
  ·have hkn : k = n := by simp only [decide_eq_false_iff_not] at hd; omega
   rw [← hn,hkn,zU,show (tab n fun r=>tab n fun j=>qQ z w S r j) = Cq z w S n from rfl]
   refine gW rfl (cU (gV (i:=3) (tt:=8) rfl rfl (fL (s:=5) (M:=Cq z w S n) (aN _ _).symm) ?_))
   have hnf:bA (Cq z w S n) (V + 2 * D + 12 + W):=bA.tab fun i k _ hk=>(Lj (D:=D) hV hV1 (by rw [hD]; exact sG hz hw hL hM hp zo)).le zo
   have hns:=tW z w S n
   have hnl:=hns.1
   have hcl:=hch.1
   rw [← hcl] at hch
   have hns2:cI (Cq z w S n) (Cq z w S n).length c.length:=by rw [hnl,hcl,hzl]; exact hns
   refine fJ (m:=5) (dp 6 rfl (eW A_38 Z_38 (Ht rfl) (i:=2) rfl rfl rfl) (dp 8 rfl (cZ (Ht rfl)) (dp 2 rfl (eJ Aa (Ht rfl) rfl) (dq 110 2 rfl (fQ A_36 Z_36 (Ht rfl) (i:=0) rfl rfl) (cP 109 1 111 3 rfl (cJ Tryz.call102 (a5Q (L:=V + 2 * D + 12 + W) hnf (hfc.le zo) zo zo hns2 hch zo zo) ⟨(Ht rfl),(Ht rfl),trivial⟩) (fW aL rfl (by kernel_rfl) (zF (aJ (aV (ro rfl (Fa (Ht rfl) (Ht rfl)) (gX Z_40 (Ht rfl) (Ht rfl) rfl (i:=1) rfl (aK rfl) rfl rfl ?_)))))))))))
   refine ro rfl (cX (cV 0)) (eZ ?_)
   exact bM rfl (fU A_40 Z_40 rfl (i:=1) rfl rfl) (eY rfl)
theorem a3B {z:List Rt} {s c:List (List Rt)}:((z.take (min z.length (Hm z s c).length)).map Rt.q) = Hm z s c:=by
 have h : Hm z s c = z.map Rt.q ∨ Hm z s c = [] := by
  unfold Hm dA
  by_cases a:mdF z s c = 0
  ·rw [if_pos a]
   by_cases b:mdE z s = 0
   ·rw [if_pos b]; exact .inl rfl
   ·rw [if_neg b]; exact .inr rfl
  ·rw [if_neg a]; exact .inr rfl
 rcases h with h | h
 ·rw [h,List.length_map,Nat.min_self,List.take_length]
 ·rw [h]; simp
theorem Xo {z w:List Qi} {s c:List (List Qi)} (hz:cB z 2) (hw:cB w 2) (hs:bA s 2) (hc:bA c 2) (hp:z.all eO = true) (hl8:z.length ≤ 8) (hch:cI c z.length z.length):bA (Cp z w s c) 450000000:=by
 by_cases h:uE z w s = 0
 ·have hl := Jj h
  rw [Cp,dA,if_pos h]
  exact (uL (L:=2060100) (bA.tab fun i k _ hk=>(Lj (V:=2060000) (D:=2 + 3 * 2 + 2) (Eb hz hw hs hp hl8) (by decide) (sG hz hw (by decide) (by decide) hp zo)).le (by decide)) (hc.le (by decide)) (by decide) (by rw [hch.1]; exact hl8)).le (by decide)
 ·rw [Cp,dA,if_neg h]; exact bA.nil
theorem a6J {z w : List Qi} {s : List (List Qi)} (hz : cB z 2) (hw : cB w 2) (hs : bA s 2) (hp : z.all eO = true) (hl8 : z.length ≤ 8) (hl : w.length = z.length) (i : Nat) (_ : i < w.length) : SzJ (qT z w s) (ek w.length i) w.length (Sq 28) :=
 a88 (lI _ _ _ _) (xN (xT hz hw (by decide) (by decide) hp hl) (xS hz hw (by decide) (by decide) hp hl) hs (by decide) (by decide)) (Rn (by decide)) (by decide) (by decide) zo
theorem a3J {z w:List Qi} {s c:List (List Qi)}:cI (Cp z w s c) (yK z w s).length (yK z w s).length:=by
 by_cases h:uE z w s = 0
 ·rw [Cp, yK, dA, dA, if_pos h, if_pos h]
  have:=mA (p:=Cq z w (jQ z w s) w.length) (c:=c)
  rwa [(tW z w (jQ z w s) w.length).1] at this
 ·rw [Cp,yK,dA,dA,if_neg h,if_neg h]; exact ⟨rfl,fun r hr=>by cases hr⟩
theorem a4f {z w:List Qi} {s:List (List Qi)}:cI (jQ z w s) (yK z w s).length (yK z w s).length:=by
 by_cases h:uE z w s = 0
 ·rw [jQ,yK,dA,dA,if_pos h,if_pos h]; exact gS
 ·rw [jQ,yK,dA,dA,if_neg h,if_neg h]; exact ⟨rfl,fun r hr=>by cases hr⟩
theorem xZ {z w:List Rt} {s c:List (List Rt)}:bE Tryz.prog 7 [Wy z s c,qY w] (aD true):=by
 refine bE.intro Tryz.func7 rfl Tryz.ntmps7 rfl (fun cx=>(ts (rn rfl (fK (Ht rfl)) fun B2=>(ro rfl (cX cW) (eZ (cU (ts (ro rfl (eW Tryz.isAgg25 Tryz.sizeOf25 (Ht rfl) (i:=0) rfl rfl rfl) (ro rfl (cJ Tryz.call15 a4Q ⟨(Ht rfl),trivial⟩) (ro rfl (dR (Ht rfl)) (rm rfl (fX rfl rfl (eU rfl rfl (Ht rfl) (fun h=>cZ (Ht rfl))) (fX rfl rfl (eU rfl rfl (Ht rfl) (fun h=>dK U_22 (fV rfl h) aA)) (fX rfl rfl (eU rfl rfl (Ht rfl) (fun h=>eH (fV rfl h) (cV 9))) (ro rfl (gN (Ht rfl) (fun h=>(fV rfl h))) ?_)))))))))))))))
 refine eZ (dX (Ht rfl) (fun hb=>?_) (fun hb=>?_))
 ·refine ts (ro rfl (cJ K_16 tN trivial) (ra rfl (eZ ?_)))
  exact fG rfl (eY rfl)
 ·have hf1 : yB z s c = true := by
   apply Decidable.byContradiction; intro h
   simp [h] at hb
  have hwl : w.length ≤ 9 := by
   apply Decidable.byContradiction; intro h
   simp [hf1] at hb; omega
  have hz9:=a7z hf1
  have hm1:=a0m hf1
  obtain ⟨m1,m2,m3⟩:=Ok (z:=z) (s:=s) (c:=c)
  obtain ⟨m4,m5,m6⟩:=a1n (z:=z) (s:=s) (c:=c)
  have mp:=a1o (z:=z) (s:=s) (c:=c)
  have mt:=a3B (z:=z) (s:=s) (c:=c)
  have hw2:cB (w.map Rt.q) 2:=cB.rt
  obtain ⟨X0,hX0⟩:∃ X0,X0 = Hm z s c:=⟨_,rfl⟩
  obtain ⟨X1,hX1⟩:∃ X1,X1 = mdS z s c:=⟨_,rfl⟩
  obtain ⟨XC,hXC⟩:∃ XC,XC = mdC z s c:=⟨_,rfl⟩
  rw [← hX0,← hX1,← hXC] at hm1
  rw [← hX0] at m1 m2 m3 m4 mp mt
  rw [← hX1] at m1 m5
  rw [← hXC] at m2 m6
  have hwx:(w.map Rt.q).length ≤ 1000:=by rw [List.length_map]; omega
  obtain ⟨Yw,hY⟩:∃ Yw,Yw = w.map Rt.q:=⟨_,rfl⟩
  rw [← hY] at hw2 hwx
  have hV:=Eb m4 hw2 m5 mp m3
  have hN:=Bi (w:=Yw) (c:=XC) (V:=2060000) m1 m2 m4 hw2 m5 m6 (by decide) (by decide) (by decide) (by decide) (by decide) (by decide) (by decide) (by decide) mp m3 hwx (fun hl=>Wk m4 hw2 m5 mp m3 hl) (by decide) hV (by decide) (by decide)
  have hM:=Rk (w:=Yw) (c:=XC) (V:=2060000) (X:=Hz 28) m1 m2 m4 hw2 m5 m6 (by decide) (by decide) (by decide) (by decide) (by decide) (by decide) (by decide) (by decide) mp m3 hwx (fun hl=>a6J m4 hw2 m5 mp m3 hl) (fun hl h0=>Bt (Wk m4 hw2 m5 mp m3 hl) h0) (by decide) hV (by decide) (by decide)
  have k1:=a4f (z:=X0) (w:=Yw) (s:=X1)
  have k2:=a3J (z:=X0) (w:=Yw) (s:=X1) (c:=XC)
  have k3:cB (yK X0 Yw X1) 2:=Lk hw2
  have k4:(yK X0 Yw X1).length ≤ 1000:=Nat.le_trans (Vt _ _) hwx
  have k5:=Xo m4 hw2 m5 m6 mp m3 m2
  have hIs:=a7o (L:=5000000000) (k3.le (by decide)) (hV.le (by decide)) (k5.le (by decide)) (by decide) (by decide) k1 k2 k4
  have hEq:=yT (L:=5000000000) (m4.le (by decide)) (m4.le (by decide)) (m5.le (by decide)) (m5.le (by decide)) (by decide) (by decide) m1 m1 zo zo (m6.le (by decide)) (m6.le (by decide)) m2 m2
  rw [yZ,decide_eq_true rfl] at hEq
  have hBack : uE X0 Yw X1 = 0 → bE Tryz.prog 47 [fP (yK X0 Yw X1) (jQ X0 Yw X1) (Cp X0 Yw X1 XC), bB X0] (eS [fP X0 X1 XC, aT .i64 0]) := fun he => by
   have hl:=Jj he
   obtain ⟨hq,hi,hS,hZ⟩:=qK (n:=X0.length) rfl hl he
   obtain ⟨b1,b2,b3⟩:=Wj (n:=X0.length) rfl hl m1 mp he
   have hS2:cI (jQ X0 Yw X1) Yw.length Yw.length:=by rw [← hZ]; rw [hZ] at k1; rw [hZ]; exact k1
   have hnC:Cp X0 Yw X1 XC = iZ (Cq X0 Yw (jQ X0 Yw X1) X0.length) XC:=by rw [Cp,dA,if_pos he,hl]
   have hC2:cI (Cp X0 Yw X1 XC) Yw.length Yw.length:=by rw [hZ] at k2; exact k2
   have h:=Bi (z:=Yw) (w:=X0) (s:=jQ X0 Yw X1) (c:=Cp X0 Yw X1 XC) (L:=2) (M:=2) (K:=2060000) (V:=2) (W:=450000000) (G:=Sq 2060026) (X:=Hz 2060026) hS2 hC2 hw2 m4 hV k5 (by decide) (by decide) (by decide) (by decide) (by decide) (by decide) (by decide) (by decide) hq zo zo (fun hl i hi=>a7T (lI _ _ _ _) (xN (xT hw2 m4 (by decide) (by decide) hq hl) (xS hw2 m4 (by decide) (by decide) hq hl) hV (by decide) (by decide)) (Rn (by decide)) (by decide) (by decide) zo) (by decide) (by rw [b2]; exact m5) (by decide) (by decide)
   have e4 : Cp Yw X0 (jQ X0 Yw X1) (Cp X0 Yw X1 XC) = XC := by
    rw [Cp,dA,if_pos b1,b2,hnC]
    exact a3L rfl hl m1 m2 mp he
   rw [b1,b2,b3,e4] at h
   rw [hZ]; exact h
  obtain ⟨U0,hU0⟩:∃ U0,U0 = yK X0 Yw X1:=⟨_,rfl⟩
  obtain ⟨U1,hU1⟩:∃ U1,U1 = jQ X0 Yw X1:=⟨_,rfl⟩
  obtain ⟨U2,hU2⟩:∃ U2,U2 = Cp X0 Yw X1 XC:=⟨_,rfl⟩
  obtain ⟨E,hE⟩:∃ E,E = uE X0 Yw X1:=⟨_,rfl⟩
  rw [← hU0,← hU1,← hU2,← hE] at hN hM hBack
  rw [← hU0,← hU1,← hU2] at hIs
  rw [hY] at hN hM
  refine cY (ts (ro rfl (eW Tryz.isAgg25 Tryz.sizeOf25 (Ht rfl) (i:=0) rfl rfl rfl) (ro rfl (cJ Tryz.call17 hm1 ⟨(Ht rfl),trivial⟩) (rm rfl (ro rfl (dU (Ht rfl) rfl) (ro rfl (dU (Ht rfl) rfl) (ro rfl (dU (Ht rfl) rfl) (rn rfl (eG (Ts:=[Is (.slice none 0 0),Is (.slice none 0 0),Is (.slice none 0 0)]) O_34 rfl (fun V=>aW zd (aW zd (aW zd (aG))))) fun B5=>(rn rfl (eG (Ts:=[Is (.slice none 0 0),Is (.slice none 0 0),Is (.slice none 0 0)]) O_40 rfl (fun V=>aW zd (aW zd (aW zd (aG))))) fun B6=>?_)))))))))
  refine gX Z_34 (Ht rfl) (Ht rfl) rfl (i:=1) rfl (aK rfl) rfl rfl (gX Z_40 (Ht rfl) (Ht rfl) rfl (i:=2) rfl (aK rfl) rfl rfl (ra rfl (eZ (cU (bR [0,1,2] rfl (by decide) (Y.D_start (m:=9) [] (cQ (Ei:=[(5,_)]) rfl rfl (bQ (bJ rfl rfl) bX) rfl rfl (dZ rfl (eW A_34 Z_34 (Ht rfl) (i:=1) rfl rfl rfl)) (cQ (Ei:=[(1,_)]) rfl rfl (bQ (bJ rfl rfl) bX) rfl rfl (dZ rfl (cZ (Ht rfl))) (cQ (Ei:=[(30,_)]) rfl rfl (bQ (bZ 1 rfl rfl) bX) rfl rfl (dZ rfl (cJ K_48 (qM zo) ⟨(Ht rfl),trivial⟩)) ?_)))))))))
  refine cQ (Ei:=[(29,_),(31,_)]) rfl rfl (bQ (bZ 0 rfl rfl) (bQ (bZ 2 rfl rfl) bX)) rfl rfl (dZ rfl (cJ Tryz.call47 hN ⟨(Ht rfl),(Ht rfl),trivial⟩)) (cQ (Ei:=[(32,_)]) rfl rfl (bQ (bZ 3 rfl rfl) bX) rfl rfl (dZ rfl (cZ (Ht rfl))) (cQ (Ei:=[(28,_)]) rfl rfl (bQ (bZ 4 rfl rfl) bX) rfl rfl (dZ rfl (dU (Ht rfl) rfl)) (cQ (Ei:=[(28,_)]) rfl rfl (bQ (bZ 4 rfl rfl) bX) rfl rfl (dZ rfl (dU (Ht rfl) rfl)) (Y.D_newp (Ei:=[]) (fun bb=>box bb 34 [bB U0,bL U1,bL U2]) 8 rfl rfl rfl bX rfl rfl (by kernel_rfl) (eG (Ts:=[Is (.slice none 0 0),Is (.slice none 0 0),Is (.slice none 0 0)]) O_34 rfl (fun V=>aW zd (aW zd (aW zd (aG))))) ?_))))
  refine Y.D_putN (Ei:=[(33,_)]) 7 rfl rfl rfl rfl rfl rfl (bQ (bZ 5 rfl rfl) bX) (fun bb=>kQ Z_34 (Ht rfl) (Ht rfl) rfl (i:=0) rfl (aK rfl) rfl rfl) (Y.D_done aL rfl (by kernel_rfl) rfl (by simp [Y.okP]) rfl rfl (bU (bU (bU (bU (bU (bU (bU (Y.F_newp (fun B8=>Y.F_putN (Y.F_nil ?_)))))))))))
  refine ra rfl (eZ (cU (bR [0,1,2,3] rfl (by decide) (Y.D_start (m:=9) [] (cQ (Ei:=[(6,_)]) rfl rfl (bQ (bJ rfl rfl) bX) rfl rfl (dZ rfl (eW A_40 Z_40 (Ht rfl) (i:=2) rfl rfl rfl)) (cQ (Ei:=[(1,_)]) rfl rfl (bQ (bJ rfl rfl) bX) rfl rfl (dZ rfl (cZ (Ht rfl))) (cQ (Ei:=[(37,_)]) rfl rfl (bQ (bZ 1 rfl rfl) bX) rfl rfl (dZ rfl (cJ Tryz.call50 (Bm zo) ⟨(Ht rfl),trivial⟩)) (cQ (Ei:=[(36,_),(38,_)]) rfl rfl (bQ (bZ 0 rfl rfl) (bQ (bZ 2 rfl rfl) bX)) rfl rfl (dZ rfl (cJ Tryz.call49 hM ⟨(Ht rfl),(Ht rfl),trivial⟩)) ?_))))))))
  refine cQ (Ei:=[(39,_)]) rfl rfl (bQ (bZ 3 rfl rfl) bX) rfl rfl (dZ rfl (cZ (Ht rfl))) (cQ (Ei:=[(35,_)]) rfl rfl (bQ (bZ 4 rfl rfl) bX) rfl rfl (dZ rfl (dU (Ht rfl) rfl)) (cQ (Ei:=[(35,_)]) rfl rfl (bQ (bZ 4 rfl rfl) bX) rfl rfl (dZ rfl (dU (Ht rfl) rfl)) (Y.D_newp (Ei:=[]) (fun bb=>box bb 40 [tJ U0,QM U1,QM U2]) 8 rfl rfl rfl bX rfl rfl (by kernel_rfl) (eG (Ts:=[Is (.slice none 0 0),Is (.slice none 0 0),Is (.slice none 0 0)]) O_40 rfl (fun V=>aW zd (aW zd (aW zd (aG))))) ?_)))
  refine Y.D_putN (Ei:=[(40,_)]) 7 rfl rfl rfl rfl rfl rfl (bQ (bZ 5 rfl rfl) bX) (fun bb=>kQ Z_40 (Ht rfl) (Ht rfl) rfl (i:=0) rfl (aK rfl) rfl rfl) (Y.D_done aL rfl (by kernel_rfl) rfl (by simp [Y.okP]) rfl rfl (bU (bU (bU (bU (bU (bU (bU (Y.F_newp (fun B10=>Y.F_putN (Y.F_nil ?_)))))))))))
  refine ra rfl (eZ (cU (cU (bR [0,1,2,3,4] rfl (by decide) (dQ (rm rfl (ro rfl (dR (Ht rfl)) (rm rfl (fX rfl rfl (eU rfl rfl (Ht rfl) (fun h=>cZ (Ht rfl))) (fX rfl rfl (eU rfl rfl (Ht rfl) (fun h=>cZ (Ht rfl))) (fX rfl rfl (eU rfl rfl (Ht rfl) (fun h=>iR (fV rfl h) (fV rfl h))) (ro rfl (gN (Ht rfl) (fun h=>(fV rfl h))) (rm rfl (fX rfl rfl (eU rfl rfl (Ht rfl) (fun h=>eW A_34 Z_34 (Ht rfl) (i:=3) rfl rfl rfl)) (fX rfl rfl (eU rfl rfl (Ht rfl) (fun h=>eW A_40 Z_40 (Ht rfl) (i:=4) rfl rfl rfl)) ?_)))))))))))))))
  refine fX rfl rfl (eU rfl rfl (Ht rfl) (fun h=>cJ Tryz.call20 hIs ⟨(fV rfl h),(fV rfl h),trivial⟩)) (fX rfl rfl (eU rfl rfl (Ht rfl) (fun h=>dR (fV rfl h))) (ro rfl (gN (Ht rfl) (fun h=>(fV rfl h))) (eZ (iA (Ht rfl) (by simp) ?_))))
  refine cY (cU (ts (rm rfl (ro rfl (iR (Ht rfl) cW) (eZ (dX (Ht rfl) (fun hc=>?_) (fun hc=>?_)))))))
  ·refine ts (ro rfl (cJ K_16 tN trivial) (ra rfl (eZ ?_)))
   exact fG rfl (eY rfl)
  ·have hE0 : E = 0 := by simpa using hc
   have hB:=hBack hE0
   rw [show bB X0 = bB ((z.take (min z.length X0.length)).map Rt.q) by rw [mt]] at hB
   refine cY (cU (Y.D_start (m:=18) [] (cQ (Ei:=[(8,_)]) rfl rfl (bQ (bJ rfl rfl) bX) rfl rfl (dZ rfl (eW A_34 Z_34 (Ht rfl) (i:=3) rfl rfl rfl)) (cQ (Ei:=[(2,_)]) rfl rfl (bQ (bJ rfl rfl) bX) rfl rfl (dZ rfl (eJ zZ (Ht rfl) rfl)) (cQ (Ei:=[(60,_)]) rfl rfl (bQ (bZ 1 rfl rfl) bX) rfl rfl (dZ rfl (fQ A_22 Z_22 (Ht rfl) (i:=0) rfl rfl)) (cQ (Ei:=[(2,_)]) rfl rfl (bQ (bJ rfl rfl) bX) rfl rfl (dZ rfl (eJ zZ (Ht rfl) rfl)) ?_))))))
   refine cQ (Ei:=[(62,_)]) rfl rfl (bQ (bZ 3 rfl rfl) bX) rfl rfl (dZ rfl (fQ A_22 Z_22 (Ht rfl) (i:=0) rfl rfl)) (cQ (Ei:=[(63,_)]) rfl rfl (bQ (bZ 4 rfl rfl) bX) rfl rfl (dZ rfl (dK U_22 (Ht rfl) aA)) (cQ (Ei:=[(5,_)]) rfl rfl (bQ (bJ rfl rfl) bX) rfl rfl (dZ rfl (eW A_34 Z_34 (Ht rfl) (i:=1) rfl rfl rfl)) (cQ (Ei:=[(65,_)]) rfl rfl (bQ (bZ 6 rfl rfl) bX) rfl rfl (dZ rfl (cJ K_51 pO ⟨(Ht rfl),trivial⟩)) ?_)))
   refine cQ (Ei:=[(66,_)]) rfl rfl (bQ (bZ 7 rfl rfl) bX) rfl rfl (dZ rfl (cJ K_22 oB ⟨(Ht rfl),trivial⟩)) (cQ (Ei:=[(64,_),(67,_)]) rfl rfl (bQ (bZ 5 rfl rfl) (bQ (bZ 8 rfl rfl) bX)) rfl rfl (dZ rfl (Lp (Ht rfl) (Ht rfl))) (cQ (Ei:=[(61,_),(68,_)]) rfl rfl (bQ (bZ 2 rfl rfl) (bQ (bZ 9 rfl rfl) bX)) rfl rfl (dZ rfl (qR (Us:=(z.take (min z.length X0.length)).map Jw) U_22 Z_102 (Ht rfl) (Ht rfl) (fun m e=>by cases e) zo (by simp; omega) (by rw [List.map_take]; rfl))) ?_))
   refine cQ (Ei:=[(69,_)]) rfl rfl (bQ (bZ 10 rfl rfl) bX) rfl rfl (dZ rfl (cJ K_48 (qM (l:=z.take (min z.length X0.length)) (by rw [List.length_take]; omega)) ⟨(Ht rfl),trivial⟩)) ?_
   refine cQ (Ei:=[(59,_),(70,_)]) rfl rfl (bQ (bZ 0 rfl rfl) (bQ (bZ 11 rfl rfl) bX)) rfl rfl (dZ rfl (cJ Tryz.call47 hB ⟨(Ht rfl),(Ht rfl),trivial⟩)) (cQ (Ei:=[(71,_)]) rfl rfl (bQ (bZ 12 rfl rfl) bX) rfl rfl (dZ rfl (cZ (Ht rfl))) (cQ (Ei:=[(58,_)]) rfl rfl (bQ (bZ 13 rfl rfl) bX) rfl rfl (dZ rfl (dU (Ht rfl) rfl)) (cQ (Ei:=[(58,_)]) rfl rfl (bQ (bZ 13 rfl rfl) bX) rfl rfl (dZ rfl (dU (Ht rfl) rfl)) ?_)))
   refine Y.D_newp (Ei:=[]) (fun bb=>box bb 34 [bB X0,bL X1,bL XC]) 17 rfl rfl rfl bX rfl rfl (by kernel_rfl) (eG (Ts:=[Is (.slice none 0 0),Is (.slice none 0 0),Is (.slice none 0 0)]) O_34 rfl (fun V=>aW zd (aW zd (aW zd (aG))))) (Y.D_putN (Ei:=[(72,_)]) 16 rfl rfl rfl rfl rfl rfl (bQ (bZ 14 rfl rfl) bX) (fun bb=>kQ Z_34 (Ht rfl) (Ht rfl) rfl (i:=0) rfl (aK rfl) rfl rfl) (Y.D_done aL rfl (by kernel_rfl) rfl (by simp [Y.okP]) rfl rfl (bU (bU (bU (bU (bU (bU (bU (bU (bU (bU (bU (bU (bU (bU (bU (bU (Y.F_newp (fun B12=>Y.F_putN (Y.F_nil ?_)))))))))))))))))))))
   refine ra rfl (eZ (cU (bR [0,1,2,3,4,5] rfl (by decide) (dQ (rm rfl (ro rfl (kN (Ht rfl) cW) (rm rfl (fX rfl rfl (eU rfl rfl (Ht rfl) (fun h=>eW A_34 Z_34 (Ht rfl) (i:=5) rfl rfl rfl)) (fX rfl rfl (eU rfl rfl (Ht rfl) (fun h=>eW A_34 Z_34 (Ht rfl) (i:=1) rfl rfl rfl)) (fX rfl rfl (eU rfl rfl (Ht rfl) (fun h=>cJ Tryz.call52 hEq ⟨(fV rfl h),(fV rfl h),trivial⟩)) (ro rfl (fC (Ht rfl) (fun h=>(fV rfl h))) (rm rfl (fX rfl rfl (eU rfl rfl (Ht rfl) (fun h=>cJ K_16 tN trivial)) ?_)))))))))))))
   refine ro rfl (fC (Ht rfl) (fun h=>(fV rfl h))) (ra rfl (eZ ?_))
   exact fG rfl (eY rfl)
end
end Go.Proofs.YteohomnhncjcnaaGreat
