/- What functions of the program compute, proved by walks over their code, and the plain mathematics of it; a part of the proof in the last text. -/
import Derived.Test.YteohomnhncjcnaaGreatP04
set_option linter.unusedVariables false
set_option linter.unusedSimpArgs false
set_option maxRecDepth 100000
set_option maxHeartbeats 4000000
namespace Go.Proofs.YteohomnhncjcnaaGreat
section
open Go Go.RowKit
theorem a4l {n:Nat} (hn:n ≤ 32):iA Tryz.prog 94 [NT .i64 n] [] (Nat) (fun B=>Is (.slice (some ⟨B,0,none⟩) n n)) (fun B=>[kE eL B 29 51 5 (bN aR (xU n))]) (fun _=>True):=by
 refine iA.intro Tryz.func94 rfl Tryz.ntmps94 rfl (fun cx Z=>(ts (ro rfl (cQ cV) (eX (ts (rn rfl (eW (Ts:=[Is (.bool false),Is (.slice none 0 0),Is (.bool false),Is (.slice none 0 0),Is (.slice none 0 0)]) O_51 rfl (fun V=>aW zd (aW zd (aW zd (aW zd (aW zd (aG))))))) fun B3=>(eX (ts (rm rfl (ro rfl (aL.nat (a1D (Ht rfl) (cJ 0)) (show max n 0 = n by omega)) (ro rfl (aL.nat (Rd (Ht rfl) (cJ 32)) (show min n 32 = n by omega)) ?_)))))))))))
 refine rn rfl (eN (T:=Is (.slice none 0 0)) (i:=Tryz.t29) V_30 mX rfl rfl (Ht rfl) rfl (fun _=>rfl) trivial (by show 24 * _ ≤ _; omega) zo) fun B9=>ra rfl (eX (cK (ts (rm rfl (ro rfl (iI U_30 (Ht rfl)) (ro rfl (cX (cJ 0)) (eX (eG (lE 2 rfl (tA eL ⟨none,0,rfl⟩ (e:=51) (s:=5)) ?_)))))))))
 refine bO (fun (k : Nat) => k ≤ n) (fun (k : Nat) => n - k) (fun (k : Nat) => [(3, bR B3 0), (4, Is (.slice (some ⟨B9, 0, none⟩) n n)), (11, NT .i64 n), (12, NT .i64 k)]) (fun (k : Nat) => [Z, box B3 51 [Is (.bool false), Is (.slice none 0 0), Is (.bool false), Is (.slice none 0 0), Is (.slice none 0 0)], kE eL B9 29 51 5 (bN aR (jA (mR n) [] n k))]) 0 (Nat.zero_le _)
  (zS rfl) (aU (fun _ _ _ h=>h) (aU (fun _ _ _ h=>h) (aU (bI (by rw [← gH,lR]; exact mD aR n)) aY))) (fun k hk=>?_)
 refine ts (ro rfl (gX (Ht rfl) (Ht rfl)) (eX (cK (dQ (Ht rfl) (fun hd=>?_) (fun hd=>?_)))))
 ·simp only [decide_eq_true_eq] at hd
  refine jV 2 (k) rfl (lG hd) (fun v hv=>(cU (cK (eG (ts (rm rfl (ra rfl (eX (cK (fZ (m:=10) (dp 4 rfl (cX (Ht rfl)) (dp 5 rfl (cX (Ht rfl)) (dp 3 rfl (eJ A_51 Z_51 (Ht rfl) (i:=1) rfl rfl rfl) (dq 17 2 rfl (cR eD (Ht rfl)) (d0 rfl (cZ K_77 (sH (n:=0) (by decide) (by decide)) ⟨(cJ 0),trivial⟩) (cL 18 3 19 4 rfl (cI rV Tryz.call302 Oy (Ht rfl) ⟨(Ht rfl),trivial⟩) (dq 20 5 rfl (bT (xs:=[.tmp 20]) U_29 Z_51 O_51 (cW (Ht rfl) cG) rfl rfl rfl) ?_)))))))))))))))))
  refine dp 4 rfl (cX (Ht rfl)) (dq 22 7 rfl (iI U_30 (Ht rfl)) (C.D_new (Ei:=[(21,_),(23,_)]) rfl rfl rfl (bV (bG 6 rfl rfl) (bV (bG 8 rfl rfl) bW)) (Fj Tryz.call191 (Mi (m:=n) zo zo) ⟨(Ht rfl),(Ht rfl),trivial⟩) (fV aT rfl (by kernel_rfl) (zF (zF (aJ (C.F_new (fun B24=>aV (ro rfl (fY U_30 Z_29 (Ht rfl) (Ht rfl) rfl zo (by rw [Nat.mul_one,Nat.zero_add])) ?_)))))))))
  refine sG Z_29 (Ht rfl) (Ht rfl) (by simp only [bN,List.length_map,dC]; omega) (j:=2) (l:=4) rfl rfl rfl ?_
  refine eX ?_
  have hB24:=B24.1.2
  refine fZ (m:=9) (dp 4 rfl (cX (Ht rfl)) (dp 5 rfl (cX (Ht rfl)) (cL 26 0 27 1 rfl (fY U_30 Z_29 (Ht rfl) (Ht rfl) rfl zo (by rw [Nat.mul_one,Nat.zero_add])) ?_)))
  refine dq 28 2 rfl (iF A_29 Z_29 (Ht rfl) (j:=2) rfl) (dp 5 rfl (cX (Ht rfl)) (dp 3 rfl (eJ A_51 Z_51 (Ht rfl) (i:=1) rfl rfl rfl) (dq 31 5 rfl (cR eD (Ht rfl)) (d0 rfl (cZ K_77 (sH (n:=1) (by decide) (by decide)) ⟨(cJ 1),trivial⟩) (cL 32 6 33 7 rfl (cI rV Tryz.call302 Oy (Ht rfl) ⟨(Ht rfl),trivial⟩) (fV aT rfl (by kernel_rfl) (zF (zF (aJ (aV (ro rfl (cH U_29 Z_51 (Ht rfl) (Ht rfl) rfl (i:=4) rfl (by simp only [List.length_map,aC]; omega) rfl) ?_)))))))))))
  refine jB Z_51 (Ht rfl) (Ht rfl) (El.ag rfl) (i:=4) rfl rfl (by simp only [List.length_map,aC]; omega) rfl ?_
  refine eX (aS (eR 2 4 rfl rfl (by decide) (by simp only [bN,List.length_map,dC]; omega) ?_))
  refine cY (ro rfl (dV (Ht rfl) (cJ 1) z6) (rm rfl (eX (cA [0,1,2] rfl (by decide) (fU (k + 1) hd zo (zS rfl) (aU (fun _ _ _ h=>h) (aU (fun _ _ _ h=>h) (aU (bI (by rw [← iQ (f:=mR n),← fH,mR,← fO])) aY))))))))
 ·simp only [decide_eq_false_iff_not] at hd
  obtain rfl:n = k:=Nat.le_antisymm zo hk
  refine gV rfl (ts (rm rfl (ra rfl (eX ?_))))
  exact jP B9 trivial [0,2] ⟨⟨_,rfl,fun _ _ _ h=>h⟩,⟨_,rfl,(bI (by rw [iP]; rfl))⟩,trivial⟩ (by decide) (tK rfl (eU rfl))
theorem Pa {M:List (List Qi)} {b:List Qi} {n L:Nat} (hM:dT M n n) (hb:b.length = n) (hf:bP M L) (hfb:dA b L) (hL:1 ≤ L) (h1:1 ≤ n) (hn:n ≤ 32) (hg:6 * cE L n + 4 ≤ 17592186044415) (hx:qO (cE L n) (n + 1) ≤ 17592186044415):bE Tryz.prog 96 [cM M,cD b] (gC [cD (dL (kA M b n) (lB M b n)),aP .i64 (kA M b n)]):=by
 have hMl:=hM.1
 have hcs:dT (kB M [b] n) n (n + 1):=lN hM
 have hcf:bP (kB M [b] n) L:=yG hf (fun r hr=>by simp at hr; subst hr; exact hfb) hL
 obtain ⟨U,hU⟩:∃ U,U = (uU M b n).1:=⟨_,rfl⟩
 have hUs:dT U n (n + 1):=by rw [hU]; exact Zt hM
 have hUl:=hUs.1
 have hUf:bP U (cE L n):=by rw [hU]; exact Lm hM hf hfb hL
 have hG1:1 ≤ cE L n:=Nat.le_trans hL (oK L n)
 refine bE.intro Tryz.func96 rfl Tryz.ntmps96 rfl (fun cx=>(ts (ro rfl (cQ cV) (ro rfl (cQ (cJ 0)) (eX (cK (ts (rm rfl (ro rfl (cZ Tryz.call174 (Wn hM h1 hn) ⟨(Ht rfl),trivial⟩) (ro rfl (gB (Ht rfl)) (rm rfl (fQ rfl rfl (eK rfl rfl (Ht rfl) (fun h=>cX (Ht rfl))) (fQ rfl rfl (eK rfl rfl (Ht rfl) (fun h=>dG U_29 (fJ rfl h) aA)) (fQ rfl rfl (eK rfl rfl (Ht rfl) (fun h=>cX (Ht rfl))) (fQ rfl rfl (eK rfl rfl (Ht rfl) (fun h=>dG U_30 (fJ rfl h) aA)) ?_)))))))))))))))
 refine fQ rfl rfl (eK rfl rfl (Ht rfl) (fun h=>gI (fJ rfl h) (fJ rfl h))) (ro rfl (iU (Ht rfl) (fun h=>(fJ rfl h))) (eX (jI (Ht rfl) (by simp [hMl,hb]) ?_)))
 refine cU (ts (rm rfl (ro rfl (dG U_30 (Ht rfl) (by rw [List.length_map,hMl])) ?_)))
 refine ra rfl (eX (ts (rm rfl (rm rfl (ro rfl (bT (xs:=[.tmp 26]) U_30 Z_29 O_29 (cW (Ht rfl) cG) rfl rfl rfl) (jU Tryz.call193 (Sh (M:=M) (bs:=[b]) (n:=n) (m:=n) hM (fun r hr=>by simp at hr; subst hr; omega) zo zo (by simp)) ⟨(Ht rfl),(Ht rfl),trivial⟩ rfl (fun B28 _=>?_)))))))
 refine ra rfl (eX (cK (ts (rm rfl (Ga Tryz.call194 (a0r (n:=n) (m:=n + 1) (L:=L) hcs hcf hL hg zo zo) (i:=0) rfl ⟨(Ht rfl),trivial⟩ rfl (fun uu _=>(rm rfl (ro rfl (dK (Ht rfl) rfl) (ro rfl (dK (Ht rfl) rfl) (ra rfl (ra rfl (eX (ts (rm rfl (ro rfl (kH (Ht rfl) cV) (eX (dQ (Ht rfl) (fun hs=>?_) (fun hs=>?_))))))))))))))))))
 ·have he : kA M b n = 6 := by rw [kA, if_pos (show 0 ≤ (uU M b n).2.2 from of_decide_eq_true hs)]
  refine ts (ro rfl (cQ cV) (ro rfl (cQ (cJ 6)) (eX (bM rfl (fX (eU rfl) ?_) (fX (eU rfl) ?_)))))
  ·exact (fun v V k=>by rw [he]; exact iR v V k)
  ·exact (aM he.symm)
 ·have hst : ¬ 0 ≤ (uU M b n).2.2 := of_decide_eq_false hs
  have he:kA M b n = 0:=by rw [kA,if_neg hst]
  have hdz:∀ i,i < n → gm U i i ≠ Qi.zero:=by rw [hU]; exact qV hcs (Nat.le_refl n) (a23 hst)
  refine cU (ts (rm rfl (rn rfl (jF (T:=aR Qi.zero) (i:=Tryz.t51) nD kV rfl rfl (Ht rfl) rfl kF (El.ag rfl) (by show 88 * _ ≤ _; omega) zo) fun B37=>(ra rfl (eX (cK (ts (rm rfl (ro rfl (dW (Ht rfl) (cJ 1) zo z6) (ra rfl (eX (eG (lE 0 rfl (bI (show bN aR (dI (kB M [b] n) n).1 = bN aR U by rw [hU]; rfl)) (Gc 0 rfl (fun vs hvs=>?_)))))))))))))))
  have hvl:vs.length = n:=by have h:=hvs.len; rw [List.length_map,hUl] at h; exact h
  refine bO (fun (j : Nat) => j ≤ n) (fun (j : Nat) => n - j) (fun (j : Nat) => [(0, Is (.slice (some ⟨B28, 0, none⟩) n n)), (6, NT .i64 n), (9, Is B37), (10, aP .i64 ((n : Int) - 1 - (j : Int)))]) (fun (j : Nat) => [jQ B28 29 51 5 vs vs (bN aR U), bH 51 5 B37 ((pU U n j).map aR)]) 0 (Nat.zero_le _)
   (aQ rfl (aQ rfl (aQ rfl (aZ rfl (aM zo) aX)))) (aU (fun _ _ _ h=>h) (aU (aD (by rw [pU]; exact Ax aR n)) aY)) (fun j hj=>?_)
  refine cK (ts (rm rfl (ro rfl (kH (Ht rfl) cV) (eX (dQ (Ht rfl) (fun hc=>?_) (fun hc=>?_))))))
  ·have hjn : j < n := a4h (of_decide_eq_true hc)
   obtain ⟨q,hq⟩:∃ q,q = n - (j + 1):=⟨_,rfl⟩
   have hqi:(n:Int) - 1 - (j:Int) = (q:Int):=by omega
   have hqr:(U.getD q []).length = n + 1:=hUs.row zo
   have hXf:=Mc hUf hG1 hdz j hj
   have hXl:=wD U n j
   have hX1:1 ≤ qO (cE L n) j:=Nat.le_trans hG1 (Dg _ _)
   have hxm:=xS (cE L n) (show j + 1 ≤ n + 1 by omega)
   refine cU (cK (eG (ts (rm rfl (rm rfl (ro rfl (fY U_30 Z_29 (Ht rfl) (Ht rfl) hqi zo (by rw [Nat.mul_one,Nat.zero_add])) ?_))))))
   refine ro rfl (gR A_29 Z_29 (Ht rfl) (j:=0) rfl zo) (rm rfl (ro rfl (jM U_29 Z_51 (Ht rfl) (Ht rfl) rfl (j:=0) rfl zo zo zo) (ro rfl (mK A_51 Z_51 (Ht rfl) (j:=0) rfl zo zo zo) (rn rfl (eW (Ts:=[Is (.bool false),Is (.slice none 0 0),Is (.bool false),Is (.slice none 0 0),Is (.slice none 0 0)]) O_51 rfl (fun V=>aW zd (aW zd (aW zd (aW zd (aW zd (aG))))))) fun B11=>?_))))
   refine gQ Z_51 (Ht rfl) (Ht rfl) rfl (i:=2) rfl (aK rfl) rfl rfl (eX (cK (ts (rm rfl (ro rfl (Nm (Ht rfl) cV (r:=((q + 1:Nat):Int)) ((tQ (z:=(n:Int) - 1 - (j:Int) + 1) zo).trans zo)) ?_)))))
   refine ra rfl (eX (eG ?_))
   refine bO (fun (k : Nat) => k ≤ j) (fun (k : Nat) => j - k) (fun (k : Nat) => [(0, Is (.slice (some ⟨B28, 0, none⟩) n n)), (6, NT .i64 n), (9, Is B37), (10, aP .i64 ((n : Int) - 1 - (j : Int))), (11, bR B11 0), (12, NT .i64 (q + 1 + k))]) (fun (k : Nat) => [jQ B28 29 51 5 vs vs (bN aR U), bH 51 5 B37 ((pU U n j).map aR), box B11 51 [aE (decide ((oH U (pU U n j) n q k).a < 0)), aI (oH U (pU U n j) n q k).a.natAbs, aE (decide ((oH U (pU U n j) n q k).b < 0)), aI (oH U (pU U n j) n q k).b.natAbs, aI (du (oH U (pU U n j) n q k))]]) 0 (Nat.zero_le _)
    (zS rfl) (aU (fun _ _ _ h=>h) (aU (fun _ _ _ h=>h) (aU (aB rfl) aY))) (fun k hk=>?_)
   refine cK (ts (rm rfl (rm rfl (ro rfl (gX (Ht rfl) (Ht rfl)) (eX (dQ (Ht rfl) (fun hf=>?_) (fun hf=>?_)))))))
   ·have hkj : k < j := by simp only [decide_eq_true_eq] at hf; omega
    haveI f1:aO (oH U (pU U n j) n q k) (cE L n + k * (cE L n + qO (cE L n) j + 2)):=Av hUf hXf hG1 hX1 k
    haveI f2:aO (gm U q (q + 1 + k)) (cE L n):=hUf.get hG1 _ _
    haveI f3:aO (gv (pU U n j) (q + 1 + k)) (qO (cE L n) j):=hXf.get hX1 _
    have hb1:=Vr (G:=cE L n) (X:=qO (cE L n) j) hkj
    have hb2:qO (cE L n) (j + 1) = j * (qO (cE L n) j + cE L n + 2) + 4 * cE L n + 2:=rfl
    refine cU (cK (eG (fZ (m:=15) (dp 11 rfl (eJ A_51 Z_51 (Ht rfl) (i:=2) rfl rfl rfl) (dq 58 0 rfl (cR eD (Ht rfl)) (dp 0 rfl (cX (Ht rfl)) (dp 10 rfl (cX (Ht rfl)) (cL 60 2 61 3 rfl (fY U_30 Z_29 (Ht rfl) (Ht rfl) hqi zo (by rw [Nat.mul_one,Nat.zero_add])) ?_))))))))
    refine dq 62 4 rfl (gR A_29 Z_29 (Ht rfl) (j:=0) rfl zo) (dp 12 rfl (cX (Ht rfl)) (cL 63 5 64 6 rfl (jM U_29 Z_51 (Ht rfl) (Ht rfl) rfl (j:=0) rfl zo zo zo) (dq 65 7 rfl (mK A_51 Z_51 (Ht rfl) (j:=0) rfl zo zo zo) (dq 66 8 rfl (cR eD (Ht rfl)) (dp 9 rfl (cX (Ht rfl)) (dp 12 rfl (cX (Ht rfl)) (cL 68 10 69 11 rfl (cH U_29 Z_51 (Ht rfl) (Ht rfl) rfl (i:=1) rfl (by rw [List.length_map]; omega) rfl) ?_)))))))
    refine dq 70 12 rfl (nN A_51 Z_51 (Ht rfl) (i:=1) rfl rfl (dY (dU (d:=Qi.zero) zo))) (cL 67 9 71 13 rfl (cI gO K_45 (pV (x:=gm U q (q + 1 + k)) (y:=gv (pU U n j) (q + 1 + k)) (L:=cE L n) (M:=qO (cE L n) j) zo) (Ht rfl) ⟨(Ht rfl),trivial⟩) (fV aT rfl (by kernel_rfl) (zF (zF (zF (aJ (aJ (aJ (aV (ro rfl (cI lH K_44 (Bq (x:=(oH U (pU U n j) n q k)) (y:=gm U q (q + 1 + k) * gv (pU U n j) (q + 1 + k)) (L:=cE L n + k * (cE L n + qO (cE L n) j + 2)) (M:=cE L n + qO (cE L n) j + 1) zo) (Ht rfl) ⟨(Ht rfl),trivial⟩) ?_))))))))))
    refine gQ Z_51 (Ht rfl) (Ht rfl) rfl (i:=2) rfl (aK rfl) rfl rfl (eX (aS (cY (rm rfl (ro rfl (dV (Ht rfl) (cJ 1) z6) (ra rfl (eX (fU (k + 1) hkj zo (zS rfl) (aU (fun _ _ _ h=>h) (aU (fun _ _ _ h=>h) (aU (aB rfl) aY)))))))))))
   ·obtain rfl : k = j := Nat.le_antisymm hk (by simp only [decide_eq_false_iff_not] at hf; omega)
    haveI f1:aO (oH U (pU U n k) n q k) (cE L n + k * (cE L n + qO (cE L n) k + 2)):=Av hUf hXf hG1 hX1 k
    haveI f2:aO (gm U q q) (cE L n):=hUf.get hG1 _ _
    have hb3:k * (qO (cE L n) k + cE L n + 2) = k * (cE L n + qO (cE L n) k + 2):=by rw [Nat.add_comm (qO _ _)]
    have hb2:qO (cE L n) (k + 1) = k * (qO (cE L n) k + cE L n + 2) + 4 * cE L n + 2:=rfl
    refine gV rfl (Y.D_start (m:=17) [(16,1,bH 51 5 B37 (((pU U n k).map aR).set q (aR ((oH U (pU U n k) n q k) / gm U q q))))] (Y.D_step (Ei:=[(9,_)]) rfl rfl (bQ (bJ rfl rfl) bX) rfl rfl (by kernel_rfl) (dX rfl (cX (Ht rfl))) (Y.D_step (Ei:=[(10,_)]) rfl rfl (bQ (bJ rfl rfl) bX) rfl rfl (by kernel_rfl) (dX rfl (cX (Ht rfl))) (Y.D_step (Ei:=[(11,_)]) rfl rfl (bQ (bJ rfl rfl) bX) rfl rfl (by kernel_rfl) (dX rfl (eJ A_51 Z_51 (Ht rfl) (i:=2) rfl rfl rfl)) ?_))))
    refine Y.D_step (Ei:=[(77,_)]) rfl rfl (bQ (bZ 2 rfl rfl) bX) rfl rfl (by kernel_rfl) (dX rfl (cR eD (Ht rfl))) (Y.D_step (Ei:=[(0,_)]) rfl rfl (bQ (bJ rfl rfl) bX) rfl rfl (by kernel_rfl) (dX rfl (cX (Ht rfl))) (Y.D_step (Ei:=[(10,_)]) rfl rfl (bQ (bJ rfl rfl) bX) rfl rfl (by kernel_rfl) (dX rfl (cX (Ht rfl))) (Y.D_step (Ei:=[(79,_),(80,_)]) rfl rfl (bQ (bZ 4 rfl rfl) (bQ (bZ 5 rfl rfl) bX)) rfl rfl (by kernel_rfl) (dX rfl (fY U_30 Z_29 (Ht rfl) (Ht rfl) hqi zo (by rw [Nat.mul_one,Nat.zero_add]))) ?_)))
    refine Y.D_step (Ei:=[(81,_)]) rfl rfl (bQ (bZ 6 rfl rfl) bX) rfl rfl (by kernel_rfl) (dX rfl (gR A_29 Z_29 (Ht rfl) (j:=0) rfl zo)) (Y.D_step (Ei:=[(10,_)]) rfl rfl (bQ (bJ rfl rfl) bX) rfl rfl (by kernel_rfl) (dX rfl (cX (Ht rfl))) (Y.D_step (Ei:=[(82,_),(83,_)]) rfl rfl (bQ (bZ 7 rfl rfl) (bQ (bZ 8 rfl rfl) bX)) rfl rfl (by kernel_rfl) (dX rfl (jM U_29 Z_51 (Ht rfl) (Ht rfl) hqi (j:=0) rfl zo zo zo)) ?_))
    refine Y.D_step (Ei:=[(84,_)]) rfl rfl (bQ (bZ 9 rfl rfl) bX) rfl rfl (by kernel_rfl) (dX rfl (mK A_51 Z_51 (Ht rfl) (j:=0) rfl zo zo zo)) (Y.D_step (Ei:=[(78,_),(85,_)]) rfl rfl (bQ (bZ 3 rfl rfl) (bQ (bZ 10 rfl rfl) bX)) rfl rfl (by kernel_rfl) (dX rfl (cI tC Tryz.call40 (Vv (x:=(oH U (pU U n k) n q k)) (y:=gm U q q) (L:=cE L n + k * (cE L n + qO (cE L n) k + 2)) (M:=cE L n) zo) (Ht rfl) ⟨(Ht rfl),trivial⟩)) (Y.D_step (Ei:=[(86,_)]) rfl rfl (bQ (bZ 11 rfl rfl) bX) rfl rfl (by kernel_rfl) (dX rfl (cX (Ht rfl))) ?_))
    refine Y.D_step (Ei:=[(74,_)]) rfl rfl (bQ (bZ 12 rfl rfl) bX) rfl rfl (by kernel_rfl) (dX rfl (dK (Ht rfl) rfl)) (bY (Ei:=[(74,_)]) rfl rfl (bQ (bZ 12 rfl rfl) bX) rfl rfl (dX rfl (dK (Ht rfl) rfl)) (Y.D_step (Ei:=[(75,_),(76,_)]) rfl rfl (bQ (bZ 0 rfl rfl) (bQ (bZ 1 rfl rfl) bX)) rfl rfl (by kernel_rfl) (dX rfl (cH U_29 Z_51 (Ht rfl) (Ht rfl) hqi (i:=1) rfl (by rw [List.length_map]; omega) rfl)) ?_))
    refine Y.D_putI (Ei:=[(89,_),(87,_)]) 1 rfl rfl rfl (bQ (bZ 15 rfl rfl) (bQ (bZ 13 rfl rfl) bX)) (.head _) rfl (Il Z_51 (Ht rfl) (Ht rfl) (El.ag rfl) (i:=0) rfl rfl (by rw [List.length_map]; omega)) ?_
    refine Y.D_done aT rfl (by kernel_rfl) rfl (by simp [Y.okP]) rfl rfl (bU (bU (bU (bU (bU (bU (bU (bU (bU (bU (bU (bU (bU (bU (bU (bU (Y.F_putI (Y.F_nil ?_))))))))))))))))))
    refine eX (aS (cY (rm rfl (ro rfl (fA (Ht rfl) cV (tQ zo)) (ra rfl (eX (cA [0,1] rfl (by decide) (fU (k + 1) hjn zo (aQ rfl (aQ rfl (aQ rfl (aZ rfl (aM zo) aX)))) (aU (fun _ _ _ h=>h) (aU (aD (by rw [fO,pU,← hq])) aY))))))))))
  ·obtain rfl : j = n := Nat.le_antisymm hj (a4i (by have h := of_decide_eq_false hc; omega))
   refine gJ (i:=1) (tt:=9) rfl rfl eC (gV rfl (ts (rm rfl (ra rfl (ro rfl (cQ (cJ 0)) (eX (bM rfl (fX (eU rfl) ?_) (fX (eU rfl) ?_))))))))
   ·exact (kS (by rw [he,lB,← hU]; rfl))
   ·exact (aM he.symm)
end
section
open Go Go.RowKit
abbrev ek (n k:Nat):List Qi:=(xU n).getD k []
theorem Xf {n k L:Nat} (h:1 ≤ L):dA (ek n k) L:=(a15 h).row k
def Mx (M:List (List Qi)) (n:Nat):Int:=jX (fun k=>kA M (ek n k) n) n
def Kd (M:List (List Qi)) (n:Nat):List (List Qi):=tab n fun r=>tab n fun j=>gv (lB M (ek n j) n) r
theorem rK {α:Type} {n i:Nat} {f:Nat → α} {d:α} (h:i < n):(tab n f).getD i d = f i:=by simp [List.getD,bS h]
end
section
open Go Go.RowKit
section
variable {P:Program} {R:iK} {cx:Cx} {n:Nat} {k:List It} {E:dE} {H:Hp}
theorem Bj (i l off : Nat) {B : Nat} {BT : TypeId} {Us : List Ty} {v : Value} {A : SA} {T : Ty} (hB : H[i]? = some (box B BT Us)) (hU : Us[off]? = some (Is v)) (hL : H[l]? = some A) (hne : i ≠ l) (hT : ∀ S V, A.h S V V → T.p v V)
  (h:Tr P R cx n k E ((H.set l SA.emp).set i (box B BT (Us.set off T)))):Tr P R cx n k E H:=fun a w ⟨V,hi,hs⟩=>by
 obtain ⟨V',S,hle,hi',hA⟩:=hi.freeze hL
 have hT:=hT S V' hA
 refine h a w ⟨V',hi'.withHH ?_,hs.mono hle⟩
 obtain ⟨F,h1,h2⟩:=hi'.hp
 have hB':(H.set l SA.emp)[i]? = some (box B BT Us):=by rw [List.getElem?_set_ne (Ne.symm hne)]; exact hB
 have hil:=(List.getElem?_eq_some_iff.1 hB').1
 refine ⟨F,fun q A hq=>?_,fun q r b hq hr=>h2 q r b (by simpa using hq) (by simpa using hr)⟩
 by_cases c:i = q
 ·subst c
  rw [List.getElem?_set_self hil] at hq
  obtain rfl:=Option.some.inj hq
  obtain ⟨⟨k1,cs,k2,k3⟩,k4⟩:=h1 i _ hB'
  obtain ⟨u,u1,u2⟩:=k3.get hU
  obtain rfl:u = v:=u2
  have hset : cs.set off u = cs := by
   apply List.ext_getElem?
   intro j
   by_cases cj:off = j
   ·subst cj; rw [List.getElem?_set_self (List.getElem?_eq_some_iff.1 u1).1,u1]
   ·rw [List.getElem?_set_ne cj]
  refine ⟨⟨k1,cs,k2,?_⟩,k4⟩
  have:=k3.set off (v:=u) hT (k3.pl u (List.mem_of_getElem? u1))
  rwa [hset] at this
 ·rw [List.getElem?_set_ne c] at hq
  exact h1 q A hq
theorem a4E {B e l : Nat} {BT : TypeId} {F : Qi → Ty} {q : Value → Prop} {M : List (List Qi)} (hl : l = M.length) : ∀ S V, (kE q B BT e 5 (bN F M)).h S V V → (kL 1 (M.map fun r => kL 5 (r.map F))).p (.slice (some ⟨B, 0, none⟩) l l) V := fun S V h =>
 kJ (s:=5) (M:=M) hl _ S V rfl h
end
abbrev dP (l:List Nat):Ty:=kL 1 (l.map (NT .i64))
end
section
open Go Go.RowKit
abbrev gnI (G:List Nat):List Int:=G.map fun (q:Nat)=>(q:Int) + 1
def nH (G : List Nat) : Nat → List Nat
 | 0=>[]
 | k + 1=>nH G k ++ (if k ∈ G then [] else [k])
theorem qD (G : List Nat) : ∀ k, (nH G k).length ≤ k
 | 0=>Nat.le_refl _
 | k + 1 => by
  have:=qD G k
  simp only [nH,List.length_append]
  split
  ·simp; omega
  ·simp; omega
theorem Nd {G : List Nat} : ∀ {k x : Nat}, x ∈ nH G k → x < k
 | 0,x,h=>by cases h
 | k + 1, x, h => by
  rcases List.mem_append.1 h with h1 | h1
  ·have:=Nd h1; omega
  ·split at h1
   ·cases h1
   ·have:=List.mem_singleton.1 h1; omega
theorem Xp {G:List Nat} {i:Nat}:((gnI G).any fun x=>decide (((i + 1:Nat):Int) = x)) = decide (i ∈ G):=by
 rw [Bool.eq_iff_iff]
 simp only [gnI,List.any_map,List.any_eq_true,Function.comp,decide_eq_true_eq]
 constructor
 ·rintro ⟨q, h1, h2⟩
  obtain rfl:i = q:=by omega
  exact h1
 ·intro h; exact ⟨i,h,by omega⟩
abbrev gY (Q:List Nat) (i:Nat):Nat:=Q.getD i 0
def zW (z:List Qi) (Q:List Nat):List Qi:=tab Q.length fun i=>gv z (gY Q i)
def a3X (s:List (List Qi)) (Q:List Nat):List (List Qi):=tab Q.length fun i=>tab Q.length fun j=>gm s (gY Q i) (gY Q j)
theorem Nu {Q:List Nat} {n i:Nat} (h:∀ x,x ∈ Q → x < n) (hi:i < Q.length):gY Q i < n:=h _ (by rw [show gY Q i = Q[i] by simp [gY,List.getD,hi]]; exact List.getElem_mem hi)
theorem qI {Q:List Nat} {i:Nat} (h:i < Q.length):(Q.map Nat.succ)[i]? = some (gY Q i + 1):=by simp [gY,List.getD,h]
end
section
open Go Go.RowKit
theorem rS:Tryz.prog.info? 3 = some Tryz.t3:=by kernel_rfl
theorem sB:Tryz.prog.underlying 72 = some (.slice 3):=by kernel_rfl
end
section
open Go Go.RowKit
theorem Mf {l:List Int} {v:Int} (hl:l.length ≤ 1000000):bE Tryz.prog 192 [kL 1 (l.map (aP .i64)),aP .i64 v] (aP .i64 (Hg (fun x=>decide (v = x)) l)):=by
 refine bE.intro Tryz.func192 rfl Tryz.ntmps192 rfl (fun cx=>(ts (ro rfl (cQ (cJ 0)) (eX (cK (ts (rm rfl (ro rfl (dG U_72 (Ht rfl) aA) (ro rfl (cX (cJ 0)) (eX (eG ?_)))))))))))
 refine bO (fun (k : Nat) => k ≤ l.length ∧ ∀ (i : Nat) (x : Int), i < k → l[i]? = some x → decide (v = x) = false) (fun (k : Nat) => l.length - k) (fun (k : Nat) => [(0, kL 1 (l.map (aP .i64))), (1, aP .i64 v), (7, NT .i64 l.length), (8, NT .i64 k)]) (fun (k : Nat) => []) 0 ⟨Nat.zero_le _, fun i x h => by omega⟩
  (zS rfl) aY (fun k ⟨hk,hn⟩=>?_)
 refine ts (ro rfl (gX (Ht rfl) (Ht rfl)) (eX (cK (dQ (Ht rfl) (fun hb=>?_) (fun hb=>?_)))))
 ·simp only [decide_eq_true_eq] at hb
  refine cU (cK (eG (ts (rm rfl (ra rfl (eX (ts (rm rfl (rm rfl (rm rfl (ro rfl (dZ U_72 Z_3 (Ht rfl) (Ht rfl) rfl (dY (nL hb))) (ro rfl (dJ A_3 Z_3 (Ht rfl)) (ro rfl (jR (Ht rfl) (Ht rfl)) (eX (dQ (Ht rfl) (fun hc=>?_) (fun hc=>?_))))))))))))))))
  ·refine ts (rm rfl (ra rfl (eX (fW rfl (fX (eU rfl) ?_)))))
   exact (aM (Hh (p:=fun x=>decide (v = x)) (nL hb) hc hn).symm)
  ·refine cU (aS (cY (ro rfl (dV (Ht rfl) (cJ 1) z6) (rm rfl (eX ?_)))))
   refine fU (k + 1) ⟨hb, fun i x h1 h2 => by
    by_cases e:i = k
    ·subst e; rw [nL hb] at h2; obtain rfl:=Option.some.inj h2; exact hc
    ·exact hn i x zo h2⟩ zo (zS rfl) aY
 ·simp only [decide_eq_false_iff_not] at hb
  refine gV rfl (ts (ro rfl (cQ cV) (eX (fW rfl (fX (eU rfl) ?_)))))
  exact (aM (yN (p:=fun x=>decide (v = x)) (fun i x h=>hn i x (by have:=(List.getElem?_eq_some_iff.1 h).1; omega) h)).symm)
theorem qK {l:List Int} {v:Int} (hl:l.length ≤ 1000000):bE Tryz.prog 95 [kL 1 (l.map (aP .i64)),aP .i64 v] (aE (l.any fun x=>decide (v = x))):=by
 refine bE.intro Tryz.func95 rfl Tryz.ntmps95 rfl (fun cx=>(ts (ro rfl (cQ cV) (eX (ts (rm rfl (rm rfl (ro rfl (cZ Tryz.call192 (Mf zo) ⟨(Ht rfl),(Ht rfl),trivial⟩) (ro rfl (kH (Ht rfl) cV) (ra rfl (eX (fW rfl (fX (eU rfl) ?_)))))))))))))
 exact (eH (Ce _ l))
theorem a0x {z:List Qi} {s:List (List Qi)} {G:List Nat} (hl:z.length ≤ 1000) (hG:G.length ≤ 1000):bE Tryz.prog 121 [lY z s,kL 1 ((gnI G).map (aP .i64))] (dP ((nH G z.length).map Nat.succ)):=by
 refine bE.intro Tryz.func121 rfl Tryz.ntmps121 rfl (fun cx=>(ts (rn rfl (fG (Ht rfl)) fun B2=>(ro rfl (cQ cV) (eX (ts (ro rfl (cQ cV) (eX (cK (ts (ro rfl (cQ (cJ 1)) (eX (eG (oZ 3 1 ?_))))))))))))))
 refine eA (fun (i : Nat) (v : Value) => i ≤ z.length) (fun (i : Nat) (v : Value) => z.length - i) (fun (i : Nat) (v : Value) => [(1, kL 1 ((gnI G).map (aP .i64))), (2, bR B2 0), (5, Is v), (6, NT .i64 (i + 1))]) (fun (i : Nat) (v : Value) => [box B2 32 [cD z, cM s], bH 3 1 v (((nH G i).map Nat.succ).map (NT .i64))]) 0 (.slice none 0 0) (Nat.zero_le _)
  (zS rfl) (aU (aB rfl) (aU (aD rfl) aY)) (fun i v hi=>?_)
 refine cK (ts (rm rfl (ro rfl (eZ pZ (Ht rfl) rfl) (ro rfl (eY A_29 Z_29 (Ht rfl) (i:=0) rfl rfl) (ro rfl (dG U_29 (Ht rfl) aA) (ro rfl (xF (Ht rfl) (Ht rfl)) (eX (dQ (Ht rfl) (fun hd=>?_) (fun hd=>?_)))))))))
 ·simp only [decide_eq_true_eq] at hd
  have hcl:=qD G i
  refine cU (cK (eG (jO (fun (v2:Value)=>True) (fun (v2:Value)=>[(1,kL 1 ((gnI G).map (aP .i64))),(2,bR B2 0),(5,Is v2),(6,NT .i64 (i + 1))]) (fun (v2:Value)=>[box B2 32 [cD z,cM s],bH 3 1 v2 (((nH G (i + 1)).map Nat.succ).map (NT .i64))]) ?_ (fun v2 _=>?_))))
  ·refine ts (rm rfl (rm rfl (ro rfl (cZ Tryz.call95 (qK (l := gnI G) (v := ((i + 1 : Nat) : Int)) (by rw [List.length_map]; omega)) ⟨(Ht rfl), (Ht rfl), trivial⟩) ?_)))
   refine ro rfl (gB (Ht rfl)) (eX (dQ (Ht rfl) (fun he=>?_) (fun he=>?_)))
   ·rw [Xp] at he
    have he2:i ∉ G:=by simpa using he
    have hnx:nH G (i + 1) = nH G i ++ [i]:=by rw [nH,if_neg he2]
    refine cY (rm rfl (rm rfl (ro rfl (bT (xs:=[.tmp 19]) U_72 Z_3 O_3 (cW (Ht rfl) cG) rfl rfl rfl) (iD (inf:=Tryz.t3) sB rS rfl rfl rfl (Ht rfl) (Ht rfl) (i:=1) rfl (by simp) (fun T hT=>by simp at hT; subst hT; exact El.one) (by show _ * 8 ≤ _; simp only [List.length_map,List.length_cons,List.length_nil]; omega) (by simp only [List.length_map,List.length_cons,List.length_nil]; omega) rfl (fun v3=>?_)))))
    refine ra rfl (eX (bC v3 trivial (zS rfl) (aU (aB rfl) (aU (aD (by rw [hnx,List.map_append,List.map_append]; rfl)) aY))))
   ·rw [Xp] at he
    have he2:i ∈ G:=by simpa using he
    have hnx:nH G (i + 1) = nH G i:=by rw [nH,if_pos he2,List.append_nil]
    refine cU (bC v trivial (zS rfl) (aU (aB rfl) (aU (aD (by rw [hnx])) aY)))
  ·refine aS (cY (rm rfl (ro rfl (dV (Ht rfl) (cJ 1) z6) (ra rfl (eX (fU (i + 1,v2) hd (by dsimp only; omega) (zS rfl) (dB.refl _)))))))
 ·simp only [decide_eq_false_iff_not] at hd
  obtain rfl:z.length = i:=Nat.le_antisymm zo hi
  refine gV rfl (gJ (i:=1) (tt:=5) rfl rfl eC (ts (rm rfl (ra rfl (eX ?_)))))
  exact fW rfl (eU rfl)
theorem a0A {z:List Qi} {s:List (List Qi)} {Q:List Nat} {m:Nat} (hs:dT s z.length z.length) (hQ:∀ x,x ∈ Q → x < z.length) (hm:Q.length = m) (hm2:m ≤ 1000) (hl:z.length ≤ 1000) {i j:Nat} (hi:i < m) (hj:j < m):bE Tryz.prog 206 [NT .i64 i,NT .i64 j,PT (lY z s),PT (dP (Q.map Nat.succ))] (aR (gm s (gY Q i) (gY Q j))):=by
 have hki:gY Q i < z.length:=Nu hQ zo
 have hkj:gY Q j < z.length:=Nu hQ zo
 have hsl:=hs.1
 have hsr:=hs.row hki
 refine bE.intro Tryz.func206 rfl Tryz.ntmps206 rfl (fun cx=>(ts (rn rfl (eW (Ts:=[Is (.bool false),Is (.slice none 0 0),Is (.bool false),Is (.slice none 0 0),Is (.slice none 0 0)]) O_51 rfl (fun V=>aW zd (aW zd (aW zd (aW zd (aW zd (aG))))))) fun B6=>(eX (cK (fZ (m:=14) (dp 2 rfl (Ao uD (Ht rfl) rfl) (dq 7 0 rfl (dJ A_30 Z_30 (Ht rfl)) (dp 3 rfl (dJ A_72 Z_72 (Ht rfl)) (dp 0 rfl (cX (Ht rfl)) ?_))))))))))
 refine cL 9 2 10 3 rfl (dZ U_72 Z_3 (Ht rfl) (Ht rfl) rfl (dY (qI zo))) (dq 11 4 rfl (dJ A_3 Z_3 (Ht rfl)) (dq 12 5 rfl (aL.nat (dW (Ht rfl) (cJ 1) zo z6) (show gY Q i + 1 - 1 = gY Q i by omega)) (cL 8 1 13 6 rfl (dZ U_30 Z_29 (Ht rfl) (Ht rfl) rfl (dY (dU (d:=[]) zo))) (dq 14 7 rfl (dJ A_29 Z_29 (Ht rfl)) (dp 3 rfl (dJ A_72 Z_72 (Ht rfl)) ?_)))))
 refine dp 1 rfl (cX (Ht rfl)) (cL 16 9 17 10 rfl (dZ U_72 Z_3 (Ht rfl) (Ht rfl) rfl (dY (qI zo))) (dq 18 11 rfl (dJ A_3 Z_3 (Ht rfl)) (dq 19 12 rfl (aL.nat (dW (Ht rfl) (cJ 1) zo z6) (show gY Q j + 1 - 1 = gY Q j by omega)) (fV aT rfl (by kernel_rfl) (zF (zF (zF (aJ (aJ (aV (ro rfl (dZ U_29 Z_51 (Ht rfl) (Ht rfl) rfl (dY (dU (d:=Qi.zero) zo))) ?_)))))))))))
 refine ro rfl (dJ A_51 Z_51 (Ht rfl)) (gQ Z_51 (Ht rfl) (Ht rfl) rfl (i:=0) rfl (aK rfl) rfl rfl (eX ?_))
 exact fW rfl (fK A_51 Z_51 rfl (i:=0) rfl rfl)
theorem a0B {z:List Qi} {s:List (List Qi)} {Q:List Nat} {m:Nat} (hs:dT s z.length z.length) (hQ:∀ x,x ∈ Q → x < z.length) (hm:Q.length = m) (hm2:m ≤ 1000) (hl:z.length ≤ 1000):iA Tryz.prog 122 [lY z s,dP (Q.map Nat.succ)] [] (Nat) (fun B=>eP [cD (zW z Q),Is (.slice (some ⟨B,0,none⟩) m m)]) (fun B=>[pG B 29 51 5 (bN aR (a3X s Q))]) (fun _=>True):=by
 have hll:(Q.map Nat.succ).length = m:=by rw [List.length_map]; exact hm
 refine iA.intro Tryz.func122 rfl Tryz.ntmps122 rfl (fun cx Z=>(ts (rn rfl (fG (Ht rfl)) fun B2=>(rn rfl (Cm (Ht rfl)) fun B3=>(rn rfl (eW (Ts:=[Is (.slice none 0 0),Is (.slice none 0 0)]) O_32 rfl (fun V=>aW zd (aW zd (aG)))) fun B4=>(eX (cK (gJ (i:=1) (tt:=2) rfl rfl Hc (gJ (i:=2) (tt:=3) rfl rfl qZ (cY (ro rfl (dJ A_72 Z_72 (Ht rfl)) (ro rfl (dG U_72 (Ht rfl) (by rw [List.length_map,hll])) ?_))))))))))))
 refine rn rfl (jF (T:=aR Qi.zero) (i:=Tryz.t51) nD kV rfl rfl (Ht rfl) rfl kF (El.ag rfl) (by show 88 * _ ≤ _; omega) zo) fun B10=>ra rfl (eX (cK (ts (ro rfl (dJ A_72 Z_72 (Ht rfl)) (ro rfl (dG U_72 (Ht rfl) (by rw [List.length_map,hll])) ?_)))))
 refine ro rfl (cX (cJ 0)) (eX (eG (cA [0,3,4] rfl (by decide) ?_)))
 refine bO (fun (i : Nat) => i ≤ m) (fun (i : Nat) => m - i) (fun (i : Nat) => [(2, PT (lY z s)), (3, PT (dP (Q.map Nat.succ))), (4, bR B4 0), (5, Is B10), (11, dP (Q.map Nat.succ)), (12, NT .i64 m), (13, NT .i64 i)]) (fun (i : Nat) => [Z, box B4 32 [Is (.slice none 0 0), Is (.slice none 0 0)], bH 51 5 B10 ((jA (fun i => gv z (gY Q i)) Qi.zero m i).map aR)]) 0 (Nat.zero_le _)
  (zS rfl) (aU (fun _ _ _ h=>h) (aU (fun _ _ _ h=>h) (aU (aD (by rw [← gH]; exact Ax aR m)) aY))) (fun i hi=>?_)
 refine ts (ro rfl (gX (Ht rfl) (Ht rfl)) (eX (cK (dQ (Ht rfl) (fun hd=>?_) (fun hd=>?_)))))
 ·simp only [decide_eq_true_eq] at hd
  have hki:gY Q i < z.length:=Nu hQ zo
  refine cU (cK (eG (ts (rm rfl (ro rfl (dZ U_72 Z_3 (Ht rfl) (Ht rfl) rfl (dY (qI zo))) (ro rfl (dJ A_3 Z_3 (Ht rfl)) (ra rfl (ra rfl (eX (cY (rm rfl (rm rfl (ro rfl (Ao pZ (Ht rfl) rfl) (ro rfl (dJ A_29 Z_29 (Ht rfl)) (rm rfl (ro rfl (aL.nat (dW (Ht rfl) (cJ 1) zo z6) (show gY Q i + 1 - 1 = gY Q i by omega)) (ro rfl (dZ U_29 Z_51 (Ht rfl) (Ht rfl) rfl (dY (dU (d:=Qi.zero) hki))) ?_)))))))))))))))))
  refine ro rfl (dJ A_51 Z_51 (Ht rfl)) (ro rfl (cH U_29 Z_51 (Ht rfl) (Ht rfl) rfl (i:=2) rfl (by rw [List.length_map,dC]; omega) rfl) ?_)
  refine jB Z_51 (Ht rfl) (Ht rfl) (El.ag rfl) (i:=2) rfl rfl (by rw [List.length_map,dC]; omega) rfl ?_
  refine eX (aS (cY (ro rfl (dV (Ht rfl) (cJ 1) z6) (rm rfl (eX (fU (i + 1) hd zo (zS rfl) (aU (fun _ _ _ h=>h) (aU (fun _ _ _ h=>h) (aU (aD (by rw [fO,← iQ (f:=(fun i=>gv z (gY Q i)))])) aY)))))))))
 ·simp only [decide_eq_false_iff_not] at hd
  obtain rfl:m = i:=Nat.le_antisymm zo hi
  rw [iP]
  refine gV rfl (gJ (i:=2) (tt:=5) rfl rfl eC ?_)
  rw [show zW z Q = tab m fun i=>gv z (gY Q i) from by rw [zW,hm],show a3X s Q = tab m fun i=>tab m fun j=>gm s (gY Q i) (gY Q j) from by rw [a3X,hm]]
  refine ts (rm rfl (ro rfl (dJ A_72 Z_72 (Ht rfl)) (ro rfl (dG U_72 (Ht rfl) (by rw [List.length_map,hll])) ?_)))
  refine ro rfl (uL (γ:=Fin m × Fin m) (Ts:=fun x=>[NT .i64 x.1.1,NT .i64 x.2.1]) (U:=fun x=>aR (gm s (gY Q x.1.1) (gY Q x.2.1))) Tryz.call206 (fun x=>a0A hs hQ hm hm2 hl x.1.2 x.2.2) ⟨(Ht rfl),(Ht rfl),trivial⟩) (jU Tryz.call114 (Pd (n:=m) (f:=fun i j=>gm s (gY Q i) (gY Q j)) zo) ⟨(Ht rfl),(Ht rfl),trivial⟩ rfl (fun B32 _=>(ro rfl (Bm (Ht rfl) (Ht rfl)) (gQ Z_32 (Ht rfl) (Ht rfl) rfl (i:=1) rfl (aK rfl) rfl rfl (eX ?_)))))
  exact jP B32 trivial [0,3] ⟨⟨_,rfl,fun _ _ _ h=>h⟩,⟨_,rfl,fun _ _ _ h=>h⟩,trivial⟩ (by decide) (tK rfl (fK A_32 Z_32 rfl (i:=1) rfl rfl))
theorem Pl {n:Int} (h1:-9223372036854775808 ≤ n) (h2:n ≤ 9223372036854775807):bE Tryz.prog 109 [aP .i64 n] (aR (Qi.ofInt n)):=by
 refine bE.intro Tryz.func109 rfl Tryz.ntmps109 rfl (fun cx=>(ts (rn rfl (eW (Ts:=[Is (.bool false),Is (.slice none 0 0),Is (.bool false),Is (.slice none 0 0),Is (.slice none 0 0)]) O_51 rfl (fun V=>aW zd (aW zd (aW zd (aW zd (aW zd (aG))))))) fun B2=>(eX (ts (rn rfl (eW (Ts:=[Is (.bool false),Is (.slice none 0 0),Is (.bool false),Is (.slice none 0 0),Is (.slice none 0 0)]) O_51 rfl (fun V=>aW zd (aW zd (aW zd (aW zd (aW zd (aG))))))) fun B3=>?_))))))
 refine eX (cK (fZ (m:=4) (dp 3 rfl (eJ A_51 Z_51 (Ht rfl) (i:=1) rfl rfl rfl) (dq 4 0 rfl (cR eD (Ht rfl)) (dp 0 rfl (cX (Ht rfl)) (dq 6 2 rfl (cZ K_77 (sH (n:=n) h1 h2) ⟨(Ht rfl),trivial⟩) (fV aT rfl (by kernel_rfl) (zF (aV (ro rfl (cI rV Tryz.call302 Oy (Ht rfl) ⟨(Ht rfl),trivial⟩) (gQ Z_51 (Ht rfl) (Ht rfl) rfl (i:=0) rfl (aK rfl) rfl rfl (eX ?_))))))))))))
 exact fW rfl (fK A_51 Z_51 rfl (i:=0) rfl rfl)
end
section
open Go Go.RowKit
def uS (x : Qi) (l m : List Qi) : Nat → Qi
 | 0=>x
 | k + 1=>uS x l m k + gv l k * gv m k
theorem Bx {x : Qi} {l m : List Qi} {L M : Nat} (hx : aO x M) (hl : dA l L) (hm : dA m L) (hL : 1 ≤ L) : ∀ k, aO (uS x l m k) (M + k * (2 * L + 2))
 | 0=>hx.le zo
 | k + 1 => by
  haveI f1:=Bx hx hl hm hL k
  haveI f2:=hl.get hL k
  haveI f3:=hm.get hL k
  have:aO (uS x l m (k + 1)) (M + k * (2 * L + 2) + (L + L + 1) + 1):=by unfold uS; infer_instance
  exact this.le (by rw [Nat.add_mul]; omega)
end
section
open Go Go.RowKit
theorem a4q {x:Qi} {l m:List Qi} {L M n:Nat} (hx:aO x M) (hl:dA l L) (hm:dA m L) (hL:1 ≤ L) (hll:l.length = n) (hml:m.length = n) (hn:n ≤ 1000) (hb:M + n * (2 * L + 2) ≤ 17592186044415):bE Tryz.prog 123 [aR x,cD l,cD m] (aR (uS x l m n)):=by
 refine bE.intro Tryz.func123 rfl Tryz.ntmps123 rfl (fun cx=>(ts (rn rfl (fG (Ht rfl)) fun B3=>(rn rfl (eW (Ts:=[Is (.bool false),Is (.slice none 0 0),Is (.bool false),Is (.slice none 0 0),Is (.slice none 0 0)]) O_51 rfl (fun V=>aW zd (aW zd (aW zd (aW zd (aW zd (aG))))))) fun B6=>(eX (cK (ts (rm rfl (ro rfl (dG U_29 (Ht rfl) (by rw [List.length_map,hll])) ?_)))))))))
 refine ro rfl (cX (cJ 0)) (eX (eG ?_))
 refine bO (fun (k : Nat) => k ≤ n) (fun (k : Nat) => n - k) (fun (k : Nat) => [(1, cD l), (2, cD m), (3, bR B3 0), (6, bR B6 0), (9, NT .i64 n), (10, NT .i64 k)]) (fun (k : Nat) => [box B3 51 [aE (decide ((uS x l m k).a < 0)), aI (uS x l m k).a.natAbs, aE (decide ((uS x l m k).b < 0)), aI (uS x l m k).b.natAbs, aI (du (uS x l m k))], box B6 51 [Is (.bool false), Is (.slice none 0 0), Is (.bool false), Is (.slice none 0 0), Is (.slice none 0 0)]]) 0 (Nat.zero_le _)
  (zS rfl) (dB.refl _) (fun k hk=>?_)
 refine ts (ro rfl (gX (Ht rfl) (Ht rfl)) (eX (cK (dQ (Ht rfl) (fun hd=>?_) (fun hd=>?_)))))
 ·simp only [decide_eq_true_eq] at hd
  haveI f1:=Bx hx hl hm hL k
  haveI f2:=hl.get hL k
  haveI f3:=hm.get hL k
  have hkn:(k + 1) * (2 * L + 2) ≤ n * (2 * L + 2):=Nat.mul_le_mul_right _ hd
  rw [Nat.add_mul] at hkn
  refine cU (cK (eG (ts (rm rfl (ra rfl (eX (fZ (m:=12) (dp 3 rfl (eJ A_51 Z_51 (Ht rfl) (i:=0) rfl rfl rfl) (dq 13 0 rfl (cR eD (Ht rfl)) (dp 1 rfl (cX (Ht rfl)) (dp 7 rfl (cX (Ht rfl)) (cL 15 2 16 3 rfl (dZ U_29 Z_51 (Ht rfl) (Ht rfl) rfl (dY (dU (d:=Qi.zero) zo))) (dq 17 4 rfl (dJ A_51 Z_51 (Ht rfl)) (dq 18 5 rfl (cR eD (Ht rfl)) (dp 2 rfl (cX (Ht rfl)) (dp 7 rfl (cX (Ht rfl)) (cL 20 7 21 8 rfl (dZ U_29 Z_51 (Ht rfl) (Ht rfl) rfl (dY (dU (d:=Qi.zero) zo))) ?_)))))))))))))))))
  refine dq 22 9 rfl (dJ A_51 Z_51 (Ht rfl)) (cL 19 6 23 10 rfl (cI gO K_45 (pV (x:=gv l k) (y:=gv m k) (L:=L) (M:=L) zo) (Ht rfl) ⟨(Ht rfl),trivial⟩) (fV aT rfl (by kernel_rfl) (zF (zF (zF (aV (ro rfl (cI tB Tryz.call46 (Ov (x:=uS x l m k) (y:=gv l k * gv m k) (L:=M + k * (2 * L + 2)) (M:=L + L + 1) zo) (Ht rfl) ⟨(Ht rfl),trivial⟩) (gQ Z_51 (Ht rfl) (Ht rfl) rfl (i:=0) rfl (aK rfl) rfl rfl ?_))))))))
  refine eX (aS (cY (ro rfl (dV (Ht rfl) (cJ 1) z6) (rm rfl (eX (fU (k + 1) hd zo (zS rfl) (dB.refl _)))))))
 ·simp only [decide_eq_false_iff_not] at hd
  obtain rfl:k = n:=Nat.le_antisymm hk zo
  refine gV rfl (ts (ro rfl (eJ A_51 Z_51 (Ht rfl) (i:=0) rfl rfl rfl) (gQ Z_51 (Ht rfl) (Ht rfl) rfl (i:=1) rfl (aK rfl) rfl rfl (eX ?_))))
  exact fW rfl (fK A_51 Z_51 rfl (i:=1) rfl rfl)
end
section
open Go Go.RowKit
namespace Qi
def npow' (x : Qi) : Nat → Qi
 | 0=>Qi.ofInt 1
 | k + 1=>npow' x k * x
theorem one_mul2 (x:Qi):Qi.ofInt 1 * x = x:=ext' (by show ((1:Int):Rat) * x.re - 0 * x.im = x.re; grind) (by show ((1:Int):Rat) * x.im + 0 * x.re = x.im; grind)
theorem mul_one2 (x:Qi):x * Qi.ofInt 1 = x:=by rw [mul_comm',one_mul2]
end Qi
instance qiField:Lean.Grind.CommRing Qi where
 natCast:=⟨fun n=>Qi.ofInt n⟩
 ofNat n:=⟨Qi.ofInt n⟩
 nsmul:=⟨fun n x=>Qi.ofInt n * x⟩
 npow:=⟨Qi.npow'⟩
 add_zero:=Qi.add_zero'
 add_comm:=Qi.add_comm'
 add_assoc:=Qi.add_assoc'
 mul_assoc:=Qi.mul_assoc'
 mul_comm:=Qi.mul_comm'
 mul_one:=Qi.mul_one2
 one_mul:=Qi.one_mul2
 left_distrib:=Qi.mul_add'
 right_distrib:=Qi.add_mul'
 zero_mul:=Qi.zero_mul'
 mul_zero:=Qi.mul_zero'
 pow_zero _:=rfl
 pow_succ _ _:=rfl
 ofNat_succ n:=Qi.ext' (by show (((n + 1:Nat):Int):Rat) = ((n:Int):Rat) + ((1:Int):Rat); rw [Int.natCast_add,Rat.intCast_add]; rfl) (by show (0:Rat) = 0 + 0; grind)
 intCast:=⟨Qi.ofInt⟩
 zsmul:=⟨fun n x=>Qi.ofInt n * x⟩
 neg_add_cancel x:=Qi.ext' (by show -x.re + x.re = ((0:Int):Rat); grind) (by show -x.im + x.im = 0; grind)
 sub_eq_add_neg:=Qi.sub_def
 neg_zsmul i x:=Qi.ext' (by show ((-i:Int):Rat) * x.re - 0 * x.im = -((i:Rat) * x.re - 0 * x.im); rw [Rat.intCast_neg]; grind) (by show ((-i:Int):Rat) * x.im + 0 * x.re = -((i:Rat) * x.im + 0 * x.re); rw [Rat.intCast_neg]; grind)
 intCast_neg i:=Qi.ext' (Rat.intCast_neg i) (by show (0:Rat) = -0; grind)
theorem q0:Qi.zero = 0:=rfl
theorem q1:Qi.ofInt 1 = 1:=rfl
theorem Ck {x:Qi} (h:x ≠ 0):x * Qi.inv x = 1:=by
 have hn:x.nrm ≠ 0:=fun e=>h (Qi.nrm_zero.1 e)
 have e:x.re * x.re + x.im * x.im = x.nrm:=rfl
 refine Qi.ext' ?_ ?_
 ·show x.re * (x.re / x.nrm) - x.im * (-x.im / x.nrm) = ((1 : Int) : Rat)
  grind
 ·show x.re * (-x.im / x.nrm) + x.im * (x.re / x.nrm) = 0
  grind
theorem yI {x y:Qi} (h:y ≠ 0):x / y * y = x:=by
 rw [Qi.div_def]
 have:=Ck h
 grind
theorem a3i {x y z:Qi} (h:y ≠ 0) (e:x = z * y):x / y = z:=by
 have h1:=yI (x:=x) h
 have h2:=Ck h
 grind
theorem nZ {x y:Qi} (h:x * y = 0):x = 0 ∨ y = 0:=by
 by_cases e:x = 0
 ·exact .inl e
 ·right; have:=Ck e; grind
end
section
open Go Go.RowKit
theorem rI (m:Nat) (f:Qi) (a b:Nat → Qi):aH m (fun k=>a k - f * b k) = aH m a - f * aH m b:=by
 induction m with
 | zero=>simp only [aH,q0]; grind
 | succ m ih=>simp only [aH,ih]; grind
theorem fR {m i:Nat} (hi:i < m) {f:Nat → Qi} (h:∀ k,k < m → k ≠ i → f k = 0):aH m f = f i:=by
 induction m with
 | zero=>omega
 | succ m ih =>
  by_cases e:i = m
  ·subst e
   have : aH i f = 0 := by
    rw [← q0,← yW i]
    exact bA fun k hk=>h k zo zo
   simp only [aH,this]; grind
  ·have h1 := ih zo (fun k hk => h k zo)
   have h2:=h m zo zo
   simp only [aH,h1,h2]; grind
theorem a01 {m i c:Nat} (hi:i < m) (hc:c < m) (hic:i ≠ c) {f:Nat → Qi} (h:∀ k,k < m → k ≠ i → k ≠ c → f k = 0):aH m f = f i + f c:=by
 have e : aH m f = aH m fun k => (if k = i then f i else 0) + (if k = c then f c else 0) := bA fun k hk => by
  by_cases e1:k = i
  ·subst e1; rw [if_pos rfl,if_neg hic]; grind
  ·by_cases e2 : k = c
   ·subst e2; rw [if_neg e1,if_pos rfl]; grind
   ·rw [if_neg e1,if_neg e2,h k hk e1 e2]; grind
 rw [e,Cz,fR hi (fun k _ hk=>if_neg hk),fR hc (fun k _ hk=>if_neg hk),if_pos rfl,if_pos rfl]
theorem kP {m:Nat} {f:Nat → Qi} (h:∀ k,k < m → f k = 0):aH m f = 0:=by
 rw [← q0,← yW m]; exact bA h
def Ker (M:List (List Qi)) (n m:Nat) (x:Nat → Qi):Prop:=∀ i,i < n → aH m (fun k=>gm M i k * x k) = 0
def iV (rr rc:List Qi) (c k:Nat):List Qi:=tab rr.length fun j=>if c ≤ j ∧ j < k then gv rr j - gv rr c / gv rc c * gv rc j else gv rr j
def mL (M:List (List Qi)) (c r:Nat):List (List Qi):=tab M.length fun i=>if i ≠ c ∧ i < r then iV (dD M i) (dD M c) c (dD M i).length else dD M i
def pN (M : List (List Qi)) : Nat → Option (List (List Qi))
 | 0=>some M
 | c + 1=>(pN M c).bind fun A=>if pv A c M.length = M.length then none else some (mL (swp [] A (pv A c M.length) c) c M.length)
theorem tF (M:List (List Qi)) (c r:Nat):(mL M c r).length = M.length:=aC _ _
theorem rG (rr rc:List Qi) (c k:Nat):(iV rr rc c k).length = rr.length:=aC _ _
theorem Kx {M:List (List Qi)} {c r i:Nat} (hi:i < M.length):dD (mL M c r) i = if i ≠ c ∧ i < r then iV (dD M i) (dD M c) c (dD M i).length else dD M i:=by
 simp only [dD,mL,List.getD]; rw [bS hi]; rfl
theorem Zi {M:List (List Qi)} {n m c r:Nat} (h:dT M n m):dT (mL M c r) n m:=by
 refine ⟨(tF _ _ _).trans h.1,fun x hx=>?_⟩
 obtain ⟨i,hi,rfl⟩:=iZ.1 hx
 have hr:=h.row (i:=i) (by rw [← h.1]; exact hi)
 show (if i ≠ c ∧ i < r then iV (dD M i) (dD M c) c (dD M i).length else dD M i).length = m
 split
 ·rw [rG]; exact hr
 ·exact hr
theorem Ar {M:List (List Qi)} {n m c i j:Nat} (h:dT M n m) (hi:i < n) (hj:j < m):gm (mL M c n) i j = if i ≠ c ∧ c ≤ j then gm M i j - gm M i c / gm M c c * gm M c j else gm M i j:=by
 have hr:(dD M i).length = m:=h.row hi
 show gv (dD (mL M c n) i) j = _
 rw [Kx (by rw [h.1]; exact hi)]
 by_cases e:i = c
 ·rw [if_neg (fun k=>k.1 e),if_neg (fun k=>k.1 e)]
 ·rw [if_pos ⟨e, hi⟩, iV, mJ zo]
  by_cases e2:c ≤ j
  ·rw [if_pos ⟨e2,by omega⟩,if_pos ⟨e,e2⟩]
  ·rw [if_neg (fun k=>e2 k.1),if_neg (fun k=>e2 k.2)]
theorem Oc {M:List (List Qi)} {p c i:Nat} (hp:p < M.length) (hc:c < M.length):dD (swp [] M p c) i = dD M (if i = c then p else if i = p then c else i):=by
 simp only [dD,swp,List.getD]
 by_cases e:i = c
 ·subst e; rw [List.getElem?_set_self (by simpa using hc),if_pos rfl]; rfl
 ·rw [List.getElem?_set_ne (Ne.symm e), if_neg e]
  by_cases e2:i = p
  ·subst e2; rw [List.getElem?_set_self hp,if_pos rfl]; rfl
  ·rw [List.getElem?_set_ne (Ne.symm e2),if_neg e2]
theorem a1g {M:List (List Qi)} {n m p c:Nat} {x:Nat → Qi} (hl:M.length = n) (hp:p < n) (hc:c < n):Ker (swp [] M p c) n m x ↔ Ker M n m x:=by
 have key : ∀ i, gm (swp [] M p c) i = gm M (if i = c then p else if i = p then c else i) := fun i => by
  funext j; exact congrArg (fun r=>gv r j) (Oc zo zo)
 constructor
 ·intro h i hi
  have h1:=h (if i = c then p else if i = p then c else i) (by split <;> (try split) <;> omega)
  rw [key] at h1
  have e : (if (if i = c then p else if i = p then c else i) = c then p else if (if i = c then p else if i = p then c else i) = p then c else (if i = c then p else if i = p then c else i)) = i := by
   by_cases e1:i = c
   ·subst e1; rw [if_pos rfl]
    by_cases e2:p = i
    ·rw [if_pos e2]; exact e2
    ·rw [if_neg e2,if_pos rfl]
   ·rw [if_neg e1]
    by_cases e2:i = p
    ·subst e2; rw [if_pos rfl,if_pos rfl]
    ·rw [if_neg e2,if_neg e1,if_neg e2]
  rw [e] at h1; exact h1
 ·intro h i hi
  rw [key]; exact h _ (by split <;> (try split) <;> omega)
theorem a1f {M:List (List Qi)} {n m c:Nat} {x:Nat → Qi} (hs:dT M n m) (hc:c < n) (hz:∀ j,j < c → gm M c j = 0):Ker (mL M c n) n m x ↔ Ker M n m x:=by
 have key : ∀ i, i < n → i ≠ c → aH m (fun k => gm (mL M c n) i k * x k) = aH m (fun k => gm M i k * x k) - gm M i c / gm M c c * aH m (fun k => gm M c k * x k) := fun i hi e => by
  rw [← rI]
  refine bA fun k hk=>?_
  rw [Ar hs hi hk]
  by_cases e2:c ≤ k
  ·rw [if_pos ⟨e,e2⟩]; grind
  ·rw [if_neg (fun h=>e2 h.2),hz k zo]; grind
 have keyc:aH m (fun k=>gm (mL M c n) c k * x k) = aH m (fun k=>gm M c k * x k):=bA fun k hk=>by rw [Ar hs hc hk,if_neg (fun h=>h.1 rfl)]
 constructor
 ·intro h i hi
  have h0:=h c hc
  rw [keyc] at h0
  by_cases e:i = c
  ·rw [e]; exact h0
  ·have h1 := h i hi
   rw [key i hi e,h0] at h1
   grind
 ·intro h i hi
  have h0:=h c hc
  by_cases e:i = c
  ·rw [e,keyc]; exact h0
  ·rw [key i hi e,h0,h i hi]; grind
structure GJ (M A:List (List Qi)) (n m c:Nat):Prop where
 sh:dT A n m
 ker:∀ x,Ker A n m x ↔ Ker M n m x
 off:∀ j,j < c → ∀ i,i < n → i ≠ j → gm A i j = 0
 dg:∀ j,j < c → gm A j j ≠ 0
theorem GJ.next {M A:List (List Qi)} {n m c p:Nat} (h:GJ M A n m c) (hc:c < n) (hnm:n ≤ m) (hcp:c ≤ p) (hp:p < n) (hz:gm A p c ≠ 0):GJ M (mL (swp [] A p c) c n) n m (c + 1):=by
 have hs:dT (swp [] A p c) n m:=xQ h.sh hp hc
 have hl:=h.sh.1
 have key : ∀ i, gm (swp [] A p c) i = gm A (if i = c then p else if i = p then c else i) := fun i => by
  funext j; exact congrArg (fun r=>gv r j) (Oc zo zo)
 have hcc:gm (swp [] A p c) c c ≠ 0:=by rw [key,if_pos rfl]; exact hz
 have hoff : ∀ j, j < c → ∀ i, i < n → i ≠ j → gm (swp [] A p c) i j = 0 := fun j hj i hi hij => by
  rw [key]
  by_cases e1:i = c
  ·rw [if_pos e1]; exact h.off j hj p hp zo
  ·rw [if_neg e1]
   by_cases e2:i = p
   ·rw [if_pos e2]; exact h.off j hj c hc zo
   ·rw [if_neg e2]; exact h.off j hj i hi hij
 refine ⟨Zi hs,fun x=>(a1f hs hc (fun j hj=>hoff j hj c hc zo)).trans ((a1g hl hp hc).trans (h.ker x)),fun j hj i hi hij=>?_,fun j hj=>?_⟩
 ·rw [Ar hs hi zo]
  by_cases e:j = c
  ·subst e
   rw [if_pos ⟨hij,Nat.le_refl _⟩]
   have:=yI (x:=gm (swp [] A p j) i j) hcc
   grind
  ·rw [if_neg (fun k=>by omega)]; exact hoff j zo i hi hij
 ·rw [Ar hs zo zo]
  by_cases e:j = c
  ·subst e; rw [if_neg (fun k=>k.1 rfl)]; exact hcc
  ·rw [if_neg (fun k=>by omega),key,if_neg zo,if_neg zo]; exact h.dg j zo
theorem yL {M : List (List Qi)} {n m : Nat} (hs : dT M n m) (hnm : n ≤ m) : ∀ {c : Nat} {A : List (List Qi)}, c ≤ n → pN M c = some A → GJ M A n m c
 | 0, A, _, h => by
  obtain rfl:=Option.some.inj h
  exact ⟨hs,fun _=>Iff.rfl,fun j hj=>by omega,fun j hj=>by omega⟩
 | c + 1, A, hc, h => by
  simp only [pN] at h
  obtain ⟨B,h1,h2⟩:=Option.bind_eq_some_iff.1 h
  split at h2
  ·cases h2
  ·rename_i e
   obtain rfl:=Option.some.inj h2
   have ih:=yL hs hnm (c:=c) zo h1
   rw [hs.1] at e ⊢
   obtain ⟨_,i2,i3,i4⟩:=nC (M:=B) (c:=c) (n:=n) zo
   exact ih.next zo hnm i2 zo (i4 zo)
theorem Pz {M : List (List Qi)} : ∀ {n : Nat}, pN M n = none → ∃ c A, c < n ∧ pN M c = some A ∧ pv A c M.length = M.length
 | 0,h=>by cases h
 | c + 1, h => by
  cases e:pN M c with
  | none =>
   obtain ⟨d,A,h1,h2,h3⟩:=Pz e
   exact ⟨d,A,by omega,h2,h3⟩
  | some A =>
   refine ⟨c,A,by omega,e,?_⟩
   simp only [pN,e,Option.bind_some] at h
   by_cases e2:pv A c M.length = M.length
   ·exact e2
   ·rw [if_neg e2] at h; cases h
theorem a3p {M A : List (List Qi)} {n : Nat} (h : GJ M A n (n + 1) n) : Ker M n (n + 1) fun k => if k < n then gm A k n / gm A k k else -1 := (h.ker _).1 fun i hi => by
 have hd:=h.dg i hi
 have e : aH n (fun k => gm A i k * if k < n then gm A k n / gm A k k else -1) = gm A i n := by
  rw [fR hi (fun k hk hki=>by rw [h.off k hk i hi (Ne.symm hki)]; grind),if_pos hi]
  have:=yI (x:=gm A i n) hd
  grind
 simp only [aH,e]
 rw [if_neg zo]; grind
theorem a13 {M A : List (List Qi)} {n : Nat} (h : GJ M A n (n + 1) n) {x : Nat → Qi} (hx : Ker M n (n + 1) x) (h0 : x n = 0) : ∀ k, k < n → x k = 0 := fun k hk => by
 have h1:=(h.ker x).2 hx k hk
 have e:aH n (fun j=>gm A k j * x j) = gm A k k * x k:=fR hk (fun j hj hjk=>by rw [h.off j hj k hk (Ne.symm hjk)]; grind)
 simp only [aH,e,h0] at h1
 rcases nZ (x:=gm A k k) (y:=x k) (by grind) with h2 | h2
 ·exact absurd h2 (h.dg k hk)
 ·exact h2
theorem a12 {M A : List (List Qi)} {n m c : Nat} (h : GJ M A n m c) (hc : c < n) (hnm : n ≤ m) (hz : ∀ r, c ≤ r → r < n → gm A r c = 0) : Ker M n m fun k => if k < c then -(gm A k c / gm A k k) else if k = c then 1 else 0 := (h.ker _).1 fun i hi => by
 by_cases e:i < c
 ·rw [a01 (i := i) (c := c) zo zo zo (fun k hk h1 h2 => ?_)]
  ·rw [if_pos e, if_neg zo, if_pos rfl]
   have:=yI (x:=gm A i c) (h.dg i e)
   grind
  ·by_cases e2 : k < c
   ·rw [h.off k e2 i hi (Ne.symm h1)]; grind
   ·rw [if_neg e2,if_neg h2]; grind
 ·refine kP fun k hk => ?_
  by_cases e2:k < c
  ·rw [h.off k e2 i hi zo]; grind
  ·rw [if_neg e2]
   by_cases e3:k = c
   ·rw [e3,hz i zo hi]; grind
   ·rw [if_neg e3]; grind
def Py (M:List (List Qi)) (b:List Qi) (n:Nat):Option (List Qi):=(pN (kB M [b] n) n).map fun A=>tab n fun i=>gm A i n / gm A i i
theorem a3r {l:List Qi} {z:Qi} {k:Nat} (h:k < l.length):gv (l ++ [z]) k = gv l k:=by
 simp only [gv,List.getD]; rw [List.getElem?_append_left h]
theorem a3s {l:List Qi} {z:Qi}:gv (l ++ [z]) l.length = z:=by
 simp [gv,List.getD]
theorem a4z {M:List (List Qi)} {b:List Qi} {n i:Nat} (h:dT M n n) (hi:i < n):(∀ k,k < n → gm (kB M [b] n) i k = gm M i k) ∧ gm (kB M [b] n) i n = gv b i:=by
 obtain ⟨r,hr⟩:∃ r,r = dD M i:=⟨_,rfl⟩
 have hl:r.length = n:=by rw [hr]; exact h.row hi
 have e : dD (kB M [b] n) i = r ++ [gv b i] := by
  rw [hr]; simp only [dD,kB,List.getD]; rw [bS hi]; rfl
 refine ⟨fun k hk=>?_,?_⟩
 ·show gv (dD (kB M [b] n) i) k = gv (dD M i) k
  rw [e,← hr,a3r zo]
 ·show gv (dD (kB M [b] n) i) n = gv b i
  rw [e,← hl,a3s]
theorem yH {M:List (List Qi)} {b:List Qi} {n i:Nat} (h:dT M n n) (hi:i < n) (x:Nat → Qi):aH (n + 1) (fun k=>gm (kB M [b] n) i k * x k) = aH n (fun k=>gm M i k * x k) + gv b i * x n:=by
 obtain ⟨h1,h2⟩:=a4z (b:=b) h hi
 simp only [aH,h2]
 rw [bA (fun k hk=>by rw [h1 k hk])]
theorem sU {M:List (List Qi)} {b X:List Qi} {n:Nat} (h:dT M n n) (hX:Py M b n = some X):X.length = n ∧ (∀ i,i < n → aH n (fun k=>gm M i k * gv X k) = gv b i) ∧ ∀ y:Nat → Qi,(∀ i,i < n → aH n (fun k=>gm M i k * y k) = 0) → ∀ k,k < n → y k = 0:=by
 obtain ⟨A,hA,rfl⟩:=Option.map_eq_some_iff.1 hX
 have hg:=yL (lN (bs:=[b]) h) (Nat.le_succ n) (Nat.le_refl n) hA
 refine ⟨aC _ _,fun i hi=>?_,fun y hy k hk=>?_⟩
 ·have h1 := a3p hg i hi
  rw [yH h hi] at h1
  have e:aH n (fun k=>gm M i k * if k < n then gm A k n / gm A k k else -1) = aH n (fun k=>gm M i k * gv (tab n fun i=>gm A i n / gm A i i) k):=bA fun k hk=>by rw [if_pos hk,mJ hk]
  rw [e,if_neg zo] at h1
  grind
 ·have h1 := a13 hg (x := fun k => if k < n then y k else 0) (fun i hi => ?_) (if_neg zo) k hk
  ·simpa [hk] using h1
  ·rw [yH h hi,if_neg zo,bA (fun k hk=>by rw [if_pos hk]),hy i hi]; grind
theorem Kb {M:List (List Qi)} {b:List Qi} {n:Nat} (h:dT M n n) (hX:Py M b n = none):∃ y:Nat → Qi,(∀ i,i < n → aH n (fun k=>gm M i k * y k) = 0) ∧ ∃ k,k < n ∧ y k ≠ 0:=by
 have hcs:dT (kB M [b] n) n (n + 1):=lN h
 obtain ⟨c,A,hc,hA,hp⟩:=Pz (Option.map_eq_none_iff.1 hX)
 have hg:=yL hcs (Nat.le_succ n) zo hA
 rw [hcs.1] at hp
 have hz:=(nC (M:=A) (c:=c) (n:=n) zo).1
 rw [hp] at hz
 have hk:=a12 hg hc (Nat.le_succ n) hz
 refine ⟨fun k=>if k < c then -(gm A k c / gm A k k) else if k = c then 1 else 0,fun i hi=>?_,c,hc,?_⟩
 ·have h1 := hk i hi
  rw [yH h hi,if_neg zo,if_neg zo] at h1
  grind
 ·show (if c < c then -(gm A c c / gm A c c) else if c = c then (1 : Qi) else 0) ≠ 0
  rw [if_neg zo,if_pos rfl]
  intro e
  have:=congrArg Qi.re e
  exact absurd this (by decide)
theorem Tu {rr rc : List Qi} {L c k : Nat} (h1 : dA rr L) (h2 : dA rc L) (hL : 1 ≤ L) (hp : gv rc c ≠ Qi.zero) : dA (iV rr rc c k) (6 * L + 4) := dA.tab fun j _ => by
 split
 ·exact Pu h1 h2 hL hp
 ·exact (h1.get hL j).le zo
theorem Zh {M : List (List Qi)} {L c r : Nat} (h : bP M L) (hL : 1 ≤ L) (hp : gm M c c ≠ Qi.zero) : bP (mL M c r) (6 * L + 4) := fun x hx => by
 obtain ⟨i,hi,rfl⟩:=iZ.1 hx
 show dA (if i ≠ c ∧ i < r then iV (dD M i) (dD M c) c (dD M i).length else dD M i) _
 split
 ·exact Tu (h.row i) (h.row c) hL hp
 ·exact (h.row i).le zo
theorem Mw {M : List (List Qi)} {n m L : Nat} (hs : dT M n m) (hnm : n ≤ m) (h : bP M L) (hL : 1 ≤ L) : ∀ {c : Nat} {A : List (List Qi)}, c ≤ n → pN M c = some A → bP A (cE L c)
 | 0,A,_,e=>by obtain rfl:=Option.some.inj e; exact h
 | c + 1, A, hc, e => by
  simp only [pN] at e
  obtain ⟨B,h1,h2⟩:=Option.bind_eq_some_iff.1 e
  split at h2
  ·cases h2
  ·rename_i e3
   obtain rfl:=Option.some.inj h2
   have ih:=Mw hs hnm h hL (c:=c) zo h1
   have hsB:=(yL hs hnm (c:=c) zo h1).sh
   rw [hs.1] at e3 ⊢
   obtain ⟨_,i2,i3,i4⟩:=nC (M:=B) (c:=c) (n:=n) zo
   refine Zh (Aw ih) (Nat.le_trans hL (oK L c)) ?_
   show gv (dD (swp [] _ _ c) c) c ≠ _
   rw [yX (by rw [hsB.1]; omega)]
   exact i4 zo
theorem Kw {rr rc:List Qi} {c:Nat}:rr = iV rr rc c c:=by
 unfold iV
 have:(tab rr.length fun j=>if c ≤ j ∧ j < c then gv rr j - gv rr c / gv rc c * gv rc j else gv rr j) = tab rr.length (gv rr):=cT fun j _=>by rw [if_neg zo]
 rw [this]; exact wZ rfl
theorem Fp {rr rc:List Qi} {c k:Nat} (hk:k < rr.length):gv (iV rr rc c k) k = gv rr k:=by
 rw [iV,mJ hk,if_neg zo]
theorem Nv {rr rc:List Qi} {c k:Nat} (hk:k < rr.length) (h:c ≤ k):(iV rr rc c k).set k (gv (iV rr rc c k) k - gv rr c / gv rc c * gv rc k) = iV rr rc c (k + 1):=by
 rw [Fp hk]
 apply List.ext_getElem?
 intro j
 by_cases hj:j < rr.length
 ·by_cases e : j = k
  ·subst e
   rw [List.getElem?_set_self (by rw [rG]; exact hj),iV,bS hj,if_pos zo]
  ·rw [List.getElem?_set_ne (Ne.symm e), iV, iV, bS hj, bS hj]
   by_cases e2:c ≤ j ∧ j < k
   ·rw [if_pos e2,if_pos zo]
   ·rw [if_neg e2,if_neg zo]
 ·rw [List.getElem?_eq_none (by rw [List.length_set,rG]; omega),List.getElem?_eq_none (by rw [rG]; omega)]
theorem Nw {M:List (List Qi)} {c:Nat}:M = mL M c 0:=by
 unfold mL
 have:(tab M.length fun i=>if i ≠ c ∧ i < 0 then iV (dD M i) (dD M c) c (dD M i).length else dD M i) = tab M.length (dD M):=cT fun i _=>by rw [if_neg zo]
 rw [this]; exact yY (h:=rfl)
theorem Ap {M:List (List Qi)} {c r i:Nat} (hi:i < M.length) (h:¬ (i ≠ c ∧ i < r)):dD (mL M c r) i = dD M i:=by rw [Kx hi,if_neg h]
theorem Tw {M : List (List Qi)} {c : Nat} : mL M c c = mL M c (c + 1) := cT fun i _ => by
 by_cases e:i ≠ c ∧ i < c
 ·rw [if_pos e,if_pos zo]
 ·rw [if_neg e,if_neg zo]
theorem Tv {M:List (List Qi)} {c r:Nat} (hr:r < M.length) (h:r ≠ c):(mL M c r).set r (iV (dD M r) (dD M c) c (dD M r).length) = mL M c (r + 1):=by
 apply List.ext_getElem?
 intro j
 by_cases hj:j < M.length
 ·by_cases e : j = r
  ·subst e
   rw [List.getElem?_set_self (by rw [tF]; exact hj),mL,bS hj,if_pos ⟨h,by omega⟩]
  ·rw [List.getElem?_set_ne (Ne.symm e), mL, mL, bS hj, bS hj]
   by_cases e2:j ≠ c ∧ j < r
   ·rw [if_pos e2,if_pos ⟨e2.1,by omega⟩]
   ·rw [if_neg e2,if_neg (fun k=>e2 ⟨k.1,by omega⟩)]
 ·rw [List.getElem?_eq_none (by rw [List.length_set,tF]; omega),List.getElem?_eq_none (by rw [tF]; omega)]
theorem Uh {D : List (List Qi)} {r c : Nat} (hr : r < D.length) (h : r ≠ c) (hc : c < D.length) :
  (mL D c r).set r (iV (dD (mL D c r) r) (dD (mL D c r) c) c (dD (mL D c r) r).length) = mL D c (r + 1):=by
 rw [Ap hr zo,Ap hc zo]; exact Tv hr h
theorem Ug {X : List (List Qi)} {r c k : Nat} (hr : r < X.length) (hne : r ≠ c) (hk : k < (dD X r).length) (hck : c ≤ k) :
  (X.set r (iV (dD X r) (dD X c) c k)).set r ((dD (X.set r (iV (dD X r) (dD X c) c k)) r).set k (gm (X.set r (iV (dD X r) (dD X c) c k)) r k - gm X r c / gm X c c * gm (X.set r (iV (dD X r) (dD X c) c k)) c k)) = X.set r (iV (dD X r) (dD X c) c (k + 1)):=by
 rw [Lh,tL hr]
 have e1:gm (X.set r (iV (dD X r) (dD X c) c k)) r k = gv (iV (dD X r) (dD X c) c k) k:=by show gv (dD (X.set r _) r) k = _; rw [tL hr]
 have e2:gm (X.set r (iV (dD X r) (dD X c) c k)) c k = gv (dD X c) k:=by show gv (dD (X.set r _) c) k = _; rw [oW hne]
 rw [e1,e2]
 exact congrArg _ (Nv hk hck)
theorem a3h {X:List (List Qi)} {r c k:Nat} (hr:r < X.length) (hk:k < (dD X r).length):gm (X.set r (iV (dD X r) (dD X c) c k)) r k = gv (dD X r) k:=by
 show gv (dD (X.set r _) r) k = _
 rw [tL hr,Fp hk]
theorem a3g {X:List (List Qi)} {r c k j:Nat} (h:r ≠ c):gm (X.set r (iV (dD X r) (dD X c) c k)) c j = gv (dD X c) j:=by
 show gv (dD (X.set r _) c) j = _
 rw [oW h]
theorem a11 {M A:List (List Qi)} {n c p:Nat} (hl:M.length = n) (hA:pN M c = some A) (hp:pv A c n = p) (hpn:p < n):pN M (c + 1) = some (mL (swp [] A p c) c n):=by
 simp only [pN,hA,Option.bind_some,hl,hp]
 rw [if_neg zo]
theorem Xn {M A : List (List Qi)} {n c : Nat} (hl : M.length = n) (hA : pN M c = some A) (hp : pv A c n = n) : ∀ {d : Nat}, c < d → pN M d = none
 | 0,h=>by omega
 | d + 1, h => by
  simp only [pN]
  by_cases e:c = d
  ·rw [← e,hA,Option.bind_some,hl,if_pos hp]
  ·rw [Xn hl hA hp (d:=d) zo]; rfl
def Te (M:List (List Qi)) (b:List Qi) (n:Nat):List Qi:=(Py M b n).getD []
def Fe (M:List (List Qi)) (b:List Qi) (n:Nat):Int:=if (Py M b n).isSome then 0 else 6
end
section
open Go Go.RowKit
theorem Wk {M:List (List Qi)} {n m:Nat} (h:dT M n m) (hn:n ≤ 32) (hm:m ≤ 32):bE Tryz.prog 271 [QM M] (aE true):=by
 have hl:=h.1
 refine bE.intro Tryz.func271 rfl Tryz.ntmps271 rfl (fun cx=>(ts (ro rfl (cQ cV) (eX (cK (ts (rm rfl (ro rfl (dG U_36 (Ht rfl) aA) (ro rfl (eE (Ht rfl) (cJ 32)) (eX (jI (Ht rfl) (by simp [hl]; omega) ?_)))))))))))
 refine cU (cK (ts (ro rfl (cQ (cJ 0)) (eX (eG ?_)))))
 refine bO (fun (i : Nat) => i ≤ n) (fun (i : Nat) => n - i) (fun (i : Nat) => [(0, QM M), (3, NT .i64 i)]) (fun (i : Nat) => []) 0 (Nat.zero_le _)
  (zS rfl) aY (fun i hi=>?_)
 refine cK (ts (rm rfl (rm rfl (ro rfl (dG U_36 (Ht rfl) aA) (ro rfl (gX (Ht rfl) (Ht rfl)) (eX (dQ (Ht rfl) (fun hd=>?_) (fun hd=>?_))))))))
 ·have hdn : i < n := by simp only [decide_eq_true_eq] at hd; omega
  have hr:=h.row hdn
  have hr0:=h.row (i:=0) zo
  simp at hr hr0
  refine cU (cK (eG (cK (fZ (m:=13) (dp 0 rfl (cX (Ht rfl)) (dp 3 rfl (cX (Ht rfl)) (cL 13 0 14 1 rfl (dZ U_36 Z_35 (Ht rfl) (Ht rfl) rfl (dY (dU (d:=[]) zo))) (dq 15 2 rfl (dJ A_35 Z_35 (Ht rfl)) (dq 16 3 rfl (dG U_35 (Ht rfl) aA) (dp 0 rfl (cX (Ht rfl)) (dq 18 5 rfl (dZ U_36 Z_35 (Ht rfl) (cJ 0) rfl (dY (dU (d:=[]) zo))) (dq 19 6 rfl (dJ A_35 Z_35 (Ht rfl)) (dq 20 7 rfl (dG U_35 (Ht rfl) aA) ?_)))))))))))))
  refine cL 17 4 21 8 rfl (gI (Ht rfl) (Ht rfl)) (dq 22 9 rfl (cX (Ht rfl)) (C.D_step (Ei:=[(0,_),(23,_)]) rfl rfl (bV (bK rfl rfl) (bV (bG 10 rfl rfl) bW)) (eK rfl rfl (Ht rfl) (fun h=>cX (Ht rfl))) (C.D_step (Ei:=[(3,_),(23,_)]) rfl rfl (bV (bK rfl rfl) (bV (bG 10 rfl rfl) bW)) (eK rfl rfl (Ht rfl) (fun h=>cX (Ht rfl))) (fV aT rfl (by kernel_rfl) (zF (zF (zF (aJ (aV ?_)))))))))
  refine fQ rfl rfl (eK rfl rfl (Ht rfl) (fun h=>dZ U_36 Z_35 (fJ rfl h) (fJ rfl h) rfl (dY (dU (d:=[]) zo)))) (fQ rfl rfl (eK rfl rfl (Ht rfl) (fun h=>dJ A_35 Z_35 (fJ rfl h))) (fQ rfl rfl (eK rfl rfl (Ht rfl) (fun h=>dG U_35 (fJ rfl h) aA)) (fQ rfl rfl (eK rfl rfl (Ht rfl) (fun h=>eE (fJ rfl h) (cJ 32))) (ro rfl (iU (Ht rfl) (fun h=>(fJ rfl h))) (eX (jI (Ht rfl) (by simp [hr,hr0]; omega) ?_))))))
  refine cU (aS (cY (rm rfl (ro rfl (dV (Ht rfl) (cJ 1) z6) (ra rfl (eX (fU (i + 1) hdn zo (zS rfl) aY)))))))
 ·refine gV rfl (ts (ro rfl (cQ cV) (eX ?_)))
  exact fW rfl (eU rfl)
theorem Mp {M:List (List Qi)} {n m:Nat} (h:dT M n m) (h1:1 ≤ n):bE Tryz.prog 272 [QM M] (NT .i64 m):=by
 have hl:=h.1
 have hr0:=h.row (i:=0) zo
 refine bE.intro Tryz.func272 rfl Tryz.ntmps272 rfl (fun cx=>(ts (ro rfl (cQ (cJ 0)) (eX (cK (ts (rm rfl (ro rfl (dG U_36 (Ht rfl) aA) (ro rfl (cP (Ht rfl) (cJ 0)) (eX (jI (Ht rfl) (by simp [hl]; omega) ?_)))))))))))
 refine cU (ts (rm rfl (ro rfl (dZ U_36 Z_35 (Ht rfl) (cJ 0) rfl (dY (dU (d:=[]) zo))) (ro rfl (dJ A_35 Z_35 (Ht rfl)) (ro rfl (dG U_35 (Ht rfl) aA) (ra rfl (eX (fW rfl (fX (eU rfl) ?_)))))))))
 exact (lT hr0)
theorem Sl {M:List (List Qi)} {n:Nat} (hM:dT M n n) (h1:1 ≤ n) (hn:n ≤ 32):bE Tryz.prog 238 [QM M] (aE true):=by
 have hl:=hM.1
 refine bE.intro Tryz.func238 rfl Tryz.ntmps238 rfl (fun cx=>(ts (ro rfl (cQ cV) (eX (ts (rm rfl (ro rfl (cZ Tryz.call271 (Wk hM hn hn) ⟨(Ht rfl),trivial⟩) (rm rfl (fQ rfl rfl (eK rfl rfl (Ht rfl) (fun h=>cX (Ht rfl))) (fQ rfl rfl (eK rfl rfl (Ht rfl) (fun h=>dG U_36 (fJ rfl h) aA)) (fQ rfl rfl (eK rfl rfl (Ht rfl) (fun h=>cX (Ht rfl))) (fQ rfl rfl (eK rfl rfl (Ht rfl) (fun h=>cZ Tryz.call272 (Mp hM h1) ⟨(fJ rfl h),trivial⟩)) (fQ rfl rfl (eK rfl rfl (Ht rfl) (fun h=>cP (fJ rfl h) (fJ rfl h))) ?_)))))))))))))
 refine ro rfl (fF (Ht rfl) (fun h=>(fJ rfl h))) (ra rfl (eX (fW rfl (fX (eU rfl) ?_))))
 exact (eH (by simp [hl]))
theorem Wf {M:List (List Qi)} {n m:Nat} (hM:dT M n m) (hn:n ≤ 1000) (h1:1 ≤ m) (hm:m ≤ 1000):iA Tryz.prog 172 [QM M] [] (Nat) (fun B=>Is (.slice (some ⟨B,0,none⟩) n n)) (fun B=>[pG B 35 131 5 (bN QT M)]) (fun _=>True):=by
 have hMl:=hM.1
 refine iA.intro Tryz.func172 rfl Tryz.ntmps172 rfl (fun cx Z=>(ts (ro rfl (cQ cV) (eX (ts (rm rfl (ro rfl (dG U_36 (Ht rfl) (by rw [List.length_map,hMl])) ?_)))))))
 refine rn rfl (eN (T:=Is (.slice none 0 0)) (i:=Tryz.t35) Tryz.underlying36 Aj rfl rfl (Ht rfl) rfl (fun _=>rfl) trivial (by show 24 * _ ≤ _; omega) zo) fun B7=>ra rfl (eX (cK (ts (ro rfl (cQ (cJ 0)) (eX (eG (lE 1 rfl (uH (e:=131) (s:=5)) ?_)))))))
 refine bO (fun (i : Nat) => i ≤ n) (fun (i : Nat) => n - i) (fun (i : Nat) => [(0, QM M), (3, Is (.slice (some ⟨B7, 0, none⟩) n n)), (4, NT .i64 i)]) (fun (i : Nat) => [Z, pG B7 35 131 5 (bN QT (jA (dD M) [] n i))]) 0 (Nat.zero_le _)
  (zS rfl) (aU (fun _ _ _ h=>h) (aU (bI (by rw [← gH,lR]; exact mD QT n)) aY)) (fun i hi=>?_)
 refine cK (ts (rm rfl (rm rfl (ro rfl (dG U_36 (Ht rfl) aA) (ro rfl (gX (Ht rfl) (Ht rfl)) (eX (dQ (Ht rfl) (fun hd0=>?_) (fun hd0=>?_))))))))
 ·have hdn : i < n := by simp only [decide_eq_true_eq] at hd0; omega
  have hrl:(dD M i).length = m:=hM.row hdn
  have hrl2:(M.getD i []).length = m:=hrl
  refine pR 1 (i) rfl (lG hdn) (fun v0=>(cU (cK (eG (cY (rm rfl (rm rfl (rn rfl (mO U_35 Z_131 O_131) fun B16=>(rm rfl (rm rfl (ro rfl (dZ U_36 Z_35 (Ht rfl) (Ht rfl) rfl (dY (dU (d:=[]) zo))) (ro rfl (dJ A_35 Z_35 (Ht rfl)) (Ek (inf:=Tryz.t131) sA mW rfl rfl rfl (Ht rfl) (Ht rfl) (i:=3) rfl (fun T hT=>by obtain ⟨x,_,rfl⟩:=List.mem_map.1 hT; exact El.ag rfl) (by show _ * 88 ≤ _; simp only [List.length_map,List.length_append,List.length_take,List.length_cons,List.length_nil]; omega) (by simp only [List.length_map,List.length_append,List.length_take,List.length_cons,List.length_nil]; omega) rfl (fun v1=>?_))))))))))))))
  refine ro rfl (fY U_36 Z_35 (Ht rfl) (Ht rfl) rfl zo (by rw [Nat.mul_one,Nat.zero_add])) ?_
  refine sG Z_35 (Ht rfl) (Ht rfl) (by simp only [bN,List.length_map,dC]; omega) (j:=1) (l:=3) rfl rfl rfl ?_
  refine eX (aS (cA [0,1,3] rfl (by decide) (eR 1 2 rfl rfl (by decide) (by simp only [bN,List.length_map,dC]; omega) ?_)))
  refine cY (rm rfl (ro rfl (dV (Ht rfl) (cJ 1) z6) (ra rfl (eX (cA [0,1] rfl (by decide) (fU (i + 1) hdn zo (zS rfl) (aU (fun _ _ _ h=>h) (aU (bI (by rw [List.nil_append,fH,← iQ (f:=dD M)])) aY))))))))
 ·have hin : i = n := by simp only [decide_eq_false_iff_not] at hd0; omega
  subst hin
  refine gV rfl (ts (rm rfl (ra rfl (eX ?_))))
  exact jP B7 trivial [0,1] ⟨⟨_,rfl,fun _ _ _ h=>h⟩,⟨_,rfl,(bI (by rw [iP]; exact congrArg _ (yY (h:=hMl)).symm))⟩,trivial⟩ (by decide) (tK rfl (eU rfl))
theorem Wg {n:Nat} (hn:n ≤ 32):iA Tryz.prog 199 [NT .i64 n] [] (Nat) (fun B=>Is (.slice (some ⟨B,0,none⟩) n n)) (fun B=>[kE eL B 35 131 5 (bN QT (xU n))]) (fun _=>True):=by
 refine iA.intro Tryz.func199 rfl Tryz.ntmps199 rfl (fun cx Z=>(ts (ro rfl (cQ cV) (eX (cK (ts (rm rfl (ro rfl (gX (Ht rfl) (cJ 0)) (eX (jI (Ht rfl) (by simp) ?_))))))))))
 refine cU (cK (ts (rm rfl (ro rfl (eE (Ht rfl) (cJ 32)) (eX (jI (Ht rfl) (by simp; omega) ?_))))))
 refine cU (ts (rm rfl (rm rfl (jU Tryz.call129 (Br (n:=n) (m:=n) zo zo) ⟨(Ht rfl),(Ht rfl),trivial⟩ rfl (fun B11 _=>(ra rfl (eX (cK (ts (ro rfl (cQ (cJ 0)) (eX (eG ?_))))))))))))
 refine bO (fun (i : Nat) => i ≤ n) (fun (i : Nat) => n - i) (fun (i : Nat) => [(0, NT .i64 n), (3, Is (.slice (some ⟨B11, 0, none⟩) n n)), (4, NT .i64 i)]) (fun (i : Nat) => [Z, kE eL B11 35 131 5 (bN QT (jA (mR n) (tab n fun _ => Qi.zero) n i))]) 0 (Nat.zero_le _)
  (zS rfl) (aU (fun _ _ _ h=>h) (aU (bI (by rw [zN,gH])) aY)) (fun i hi=>?_)
 refine cK (ts (rm rfl (rm rfl (ro rfl (gX (Ht rfl) (Ht rfl)) (eX (dQ (Ht rfl) (fun hd0=>?_) (fun hd0=>?_)))))))
 ·have hdn : i < n := by simp only [decide_eq_true_eq] at hd0; omega
  refine jV 1 (i) rfl (lG hdn) (fun v0 hv0=>(cU (cK (eG (fZ (m:=6) (dp 3 rfl (cX (Ht rfl)) (dp 4 rfl (cX (Ht rfl)) (cL 17 0 18 1 rfl (fY U_36 Z_35 (Ht rfl) (Ht rfl) rfl zo (by rw [Nat.mul_one,Nat.zero_add])) ?_))))))))
  refine dq 19 2 rfl (iF A_35 Z_35 (Ht rfl) (j:=1) rfl) (dp 4 rfl (cX (Ht rfl)) (d0 rfl (cZ K_148 (pD (n:=1) (by decide) (by decide)) ⟨(cJ 1),trivial⟩) (fV aT rfl (by kernel_rfl) (zF (aJ (aJ (aV (ro rfl (cH U_35 Z_131 (Ht rfl) (Ht rfl) rfl (i:=2) rfl (by simp only [List.length_map,aC]; omega) rfl) ?_))))))))
  refine jB Z_131 (Ht rfl) (Ht rfl) (El.ag rfl) (i:=2) rfl rfl (by simp only [List.length_map,aC]; omega) rfl ?_
  refine eX (aS (eR 1 2 rfl rfl (by decide) (by simp only [bN,List.length_map,dC]; omega) ?_))
  refine cY (rm rfl (ro rfl (dV (Ht rfl) (cJ 1) z6) (ra rfl (eX (cA [0,1] rfl (by decide) (fU (i + 1) hdn zo (zS rfl) (aU (fun _ _ _ h=>h) (aU (bI (by rw [fO,fH,← iQ (f:=mR n),mR])) aY))))))))
 ·have hin : i = n := by simp only [decide_eq_false_iff_not] at hd0; omega
  subst hin
  refine gV rfl (ts (rm rfl (ra rfl (eX ?_))))
  exact jP B11 trivial [0,1] ⟨⟨_,rfl,fun _ _ _ h=>h⟩,⟨_,rfl,(bI (by rw [iP]; rfl))⟩,trivial⟩ (by decide) (tK rfl (eU rfl))
end
section
open Go Go.RowKit
def Up (M:List (List Qi)) (b:List Qi) (n i:Nat):List (List Qi):=tab n fun j=>if j < i then Ey M [b] j else dD M j
theorem Vk {M:List (List Qi)} {b:List Qi} {n:Nat} (h:M.length = n):M = Up M b n 0:=by
 have:Up M b n 0 = tab n (dD M):=cT fun j _=>by rw [if_neg zo]
 rw [this]; exact yY (h:=h)
theorem a2L {M:List (List Qi)} {b:List Qi} {n:Nat}:Up M b n n = kB M [b] n:=cT fun j hj=>by rw [if_pos hj]
theorem Bk {M:List (List Qi)} {b:List Qi} {n i:Nat}:(Up M b n i).length = n:=aC _ _
theorem a0W {M:List (List Qi)} {b:List Qi} {n i:Nat} (h:i < n):(bN QT (Up M b n i))[i]? = some ((dD M i).map QT):=by
 rw [bN,List.getElem?_map,Up,bS h,if_neg zo]; rfl
theorem a0k {M:List (List Qi)} {b:List Qi} {n i:Nat} (h:i < n):(Up M b n i).set i (Ey M [b] i) = Up M b n (i + 1):=by
 apply List.ext_getElem?
 intro j
 by_cases hj:j < n
 ·by_cases e : j = i
  ·subst e
   rw [List.getElem?_set_self (by rw [Bk]; exact hj),Up,bS hj,if_pos zo]
  ·rw [List.getElem?_set_ne (Ne.symm e), Up, Up, bS hj, bS hj]
   by_cases e2:j < i
   ·rw [if_pos e2,if_pos zo]
   ·rw [if_neg e2,if_neg zo]
 ·rw [List.getElem?_eq_none (by rw [List.length_set,Bk]; omega),List.getElem?_eq_none (by rw [Bk]; omega)]
theorem a3o {M A:List (List Qi)} {b:List Qi} {n:Nat} (h:pN (kB M [b] n) n = some A):(tab n fun i=>QT (gm A i n / gm A i i)) = (Te M b n).map QT:=by rw [Te,Py,h,Option.map_some,Option.getD_some,rY]
theorem a3m {M A:List (List Qi)} {b:List Qi} {n:Nat} (h:pN (kB M [b] n) n = some A):Fe M b n = 0:=by rw [Fe,Py,h]; rfl
theorem a3n {M:List (List Qi)} {b:List Qi} {n:Nat} (h:pN (kB M [b] n) n = none):Te M b n = []:=by rw [Te,Py,h]; rfl
theorem a3l {M:List (List Qi)} {b:List Qi} {n:Nat} (h:pN (kB M [b] n) n = none):Fe M b n = 6:=by rw [Fe,Py,h]; rfl
theorem Jb {M:List (List Qi)} {b:List Qi} {n L:Nat} (hM:dT M n n) (hb:b.length = n) (hf:bP M L) (hfb:dA b L) (hL:1 ≤ L) (h1:1 ≤ n) (hn:n ≤ 32) (hg:6 * cE L n + 4 ≤ 17592186044415):bE Tryz.prog 201 [QM M,oQ b] (gC [oQ (Te M b n),aP .i64 (Fe M b n)]):=by
 have hMl:=hM.1
 obtain ⟨CM,hC⟩:∃ CM,CM = kB M [b] n:=⟨_,rfl⟩
 have hs:dT CM n (n + 1):=by rw [hC]; exact lN hM
 have hcf:bP CM L:=by rw [hC]; exact yG hf (fun r hr=>by simp at hr; subst hr; exact hfb) hL
 have hs1:=hs.1
 refine bE.intro Tryz.func201 rfl Tryz.ntmps201 rfl (fun cx=>(ts (ro rfl (cQ cV) (ro rfl (cQ (cJ 0)) (eX (cK (ts (rm rfl (ro rfl (cZ Tryz.call238 (Sl hM h1 hn) ⟨(Ht rfl),trivial⟩) (ro rfl (gB (Ht rfl)) (rm rfl (fQ rfl rfl (eK rfl rfl (Ht rfl) (fun h=>cX (Ht rfl))) (fQ rfl rfl (eK rfl rfl (Ht rfl) (fun h=>dG U_35 (fJ rfl h) aA)) (fQ rfl rfl (eK rfl rfl (Ht rfl) (fun h=>cX (Ht rfl))) (fQ rfl rfl (eK rfl rfl (Ht rfl) (fun h=>dG U_36 (fJ rfl h) aA)) ?_)))))))))))))))
 refine fQ rfl rfl (eK rfl rfl (Ht rfl) (fun h=>gI (fJ rfl h) (fJ rfl h))) (ro rfl (iU (Ht rfl) (fun h=>(fJ rfl h))) (eX (jI (Ht rfl) (by simp [hMl,hb]) ?_)))
 refine cU (ts (rm rfl (ro rfl (dG U_36 (Ht rfl) (by rw [List.length_map,hMl])) ?_)))
 refine ra rfl (eX (ts (rm rfl (jU Tryz.call172 (Wf hM zo h1 zo) ⟨(Ht rfl),trivial⟩ rfl (fun B30 _=>(ra rfl (eX (cK (ts (ro rfl (cQ (cJ 0)) (eX (eG ?_))))))))))))
 refine bO (fun (i : Nat) => i ≤ n) (fun (i : Nat) => n - i) (fun (i : Nat) => [(0, QM M), (1, oQ b), (6, NT .i64 n), (7, Is (.slice (some ⟨B30, 0, none⟩) n n)), (8, NT .i64 i)]) (fun (i : Nat) => [pG B30 35 131 5 (bN QT (Up M b n i))]) 0 (Nat.zero_le _)
  (zS rfl) (aU (bI (congrArg _ (Vk hMl))) aY) (fun i hi=>?_)
 refine cK (ts (rm rfl (rm rfl (ro rfl (gX (Ht rfl) (Ht rfl)) (eX (dQ (Ht rfl) (fun hd0=>?_) (fun hd0=>?_)))))))
 ·have hdn : i < n := by simp only [decide_eq_true_eq] at hd0; omega
  have hrl:(dD M i).length = n:=hM.row hdn
  have hrl2:(M.getD i []).length = n:=hrl
  refine pR 0 (i) rfl (a0W hdn) (fun v0=>(cU (cK (eG (Y.D_startA (m:=12) [] 11 1 rfl rfl (bY (Ei:=[(7,_)]) rfl rfl (bQ (bJ rfl rfl) bX) rfl rfl (dX rfl (cX (Ht rfl))) (bY (Ei:=[(8,_)]) rfl rfl (bQ (bJ rfl rfl) bX) rfl rfl (dX rfl (cX (Ht rfl))) (bY (Ei:=[(7,_)]) rfl rfl (bQ (bJ rfl rfl) bX) rfl rfl (dX rfl (cX (Ht rfl))) (bY (Ei:=[(8,_)]) rfl rfl (bQ (bJ rfl rfl) bX) rfl rfl (dX rfl (cX (Ht rfl))) ?_)))))))))
  refine bY (Ei:=[(38,_),(39,_)]) rfl rfl (bQ (bZ 2 rfl rfl) (bQ (bZ 3 rfl rfl) bX)) rfl rfl (dX rfl (fY U_36 Z_35 (Ht rfl) (Ht rfl) rfl zo (by rw [Nat.mul_one,Nat.zero_add]))) ?_
  refine bY (Ei:=[(40,_)]) rfl rfl (bQ (bZ 4 rfl rfl) bX) rfl rfl (dX rfl (iF A_35 Z_35 (Ht rfl) (j:=0) rfl)) (bY (Ei:=[(1,_)]) rfl rfl (bQ (bJ rfl rfl) bX) rfl rfl (dX rfl (cX (Ht rfl))) (bY (Ei:=[(8,_)]) rfl rfl (bQ (bJ rfl rfl) bX) rfl rfl (dX rfl (cX (Ht rfl))) (bY (Ei:=[(42,_),(43,_)]) rfl rfl (bQ (bZ 6 rfl rfl) (bQ (bZ 7 rfl rfl) bX)) rfl rfl (dX rfl (dZ U_35 Z_131 (Ht rfl) (Ht rfl) rfl (dY (dU (d:=Qi.zero) zo)))) ?_)))
  refine bY (Ei:=[(44,_)]) rfl rfl (bQ (bZ 8 rfl rfl) bX) rfl rfl (dX rfl (dJ A_131 Z_131 (Ht rfl))) (bY (Ei:=[(45,_)]) rfl rfl (bQ (bZ 9 rfl rfl) bX) rfl rfl (dX rfl (bT (xs:=[.tmp 45]) U_35 Z_131 O_131 (cW (Ht rfl) cG) rfl rfl rfl)) (Y.D_app (Ei:=[(41,_),(46,_)]) rfl rfl rfl rfl (bQ (bZ 5 rfl rfl) (bQ (bZ 10 rfl rfl) bX)) rfl (qQ (inf:=Tryz.t131) sA mW rfl rfl rfl (Ht rfl) (Ht rfl) (by simp) (fun T hT=>by simp at hT; subst hT; exact El.ag rfl) (by show _ * 88 ≤ _; simp only [List.length_map,List.length_append,List.length_take,List.length_cons,List.length_nil]; omega) (by simp only [List.length_map,List.length_append,List.length_take,List.length_cons,List.length_nil]; omega)) ?_))
  refine Y.D_done aT rfl (by kernel_rfl) rfl (by simp [Y.okP]) rfl rfl (bU (bU (bU (bU (bU (bU (bU (bU (bU (bU (bU (Y.F_app (fun v2=>Y.F_nil ?_)))))))))))))
  refine ro rfl (fY U_36 Z_35 (Ht rfl) (Ht rfl) rfl zo (by rw [Nat.mul_one,Nat.zero_add])) ?_
  refine sG Z_35 (Ht rfl) (Ht rfl) (by simp only [bN,List.length_map,Bk]; omega) (j:=0) (l:=2) rfl rfl rfl ?_
  refine eX (aS (cA [0,2] rfl (by decide) (eR 0 1 rfl rfl (by decide) (by simp only [bN,List.length_map,Bk]; omega) ?_)))
  refine cY (rm rfl (ro rfl (dV (Ht rfl) (cJ 1) z6) (ra rfl (eX (cA [0] rfl (by decide) (fU (i + 1) hdn zo (zS rfl) (aU (bI (by rw [pC QT _ (gv b i),fH]; exact congrArg _ (a0k hdn))) aY)))))))
 ·have hin : i = n := by simp only [decide_eq_false_iff_not] at hd0; omega
  subst hin
  rw [a2L,← hC]
  refine gV rfl (Gc 0 rfl (fun vs hvs=>?_))
  have hvs2:Hds vs i:=by have h:=hvs; rw [bN,List.length_map,hs1] at h; exact h
  refine cK (ts (ro rfl (cQ (cJ 0)) (eX (eG ?_))))
  refine iB (fun (c : Nat) (vs : List Value) (A : List (List Qi)) => c ≤ i ∧ pN CM c = some A ∧ Hds vs i) (fun (c : Nat) (vs : List Value) (A : List (List Qi)) => i - c) (fun (c : Nat) (vs : List Value) (A : List (List Qi)) => [(6, NT .i64 i), (7, Is (.slice (some ⟨B30, 0, none⟩) i i)), (9, NT .i64 c)]) (fun (c : Nat) (vs : List Value) (A : List (List Qi)) => [jQ B30 35 131 5 vs vs (bN QT A)]) 0 vs CM ⟨Nat.zero_le _, rfl, hvs2⟩
   (zS rfl) (dB.refl _) (fun c vs A ⟨hc,hA,hvs⟩=>?_)
  refine cK (ts (rm rfl (rm rfl (ro rfl (gX (Ht rfl) (Ht rfl)) (eX (dQ (Ht rfl) (fun hcn=>?_) (fun hcn=>?_)))))))
  ·simp only [decide_eq_true_eq] at hcn
   have hcn:c < i:=by omega
   have hvl:=hvs.len
   have hgj:=yL hs (Nat.le_succ i) hc hA
   have hAs:dT A i (i + 1):=hgj.sh
   have hAf:bP A (cE L c):=Mw hs (Nat.le_succ i) hcf hL hc hA
   have hAl:=hAs.1
   have hgr:cE L c ≤ cE L i:=lQ L hc
   have hG1:1 ≤ cE L c:=Nat.le_trans hL (oK L c)
   refine cU (cK (eG (ts (rm rfl (ra rfl (eX (cK (eG ?_))))))))
   refine bO (fun (p : Nat) => (c ≤ p ∧ p ≤ i) ∧ ∀ r, c ≤ r → r < p → gm A r c = Qi.zero) (fun (p : Nat) => i - p) (fun (p : Nat) => [(6, NT .i64 i), (7, Is (.slice (some ⟨B30, 0, none⟩) i i)), (9, NT .i64 c), (10, NT .i64 p)]) (fun (p : Nat) => [jQ B30 35 131 5 vs vs (bN QT A)]) c ⟨⟨Nat.le_refl _, hc⟩, fun r h1 h2 => by omega⟩
    (zS rfl) (dB.refl _) (fun p ⟨⟨hcp,hpn⟩,hz⟩=>?_)
   refine cK (ts (rm rfl (rm rfl (ro rfl (gX (Ht rfl) (Ht rfl)) (rm rfl (fQ rfl rfl (eK rfl rfl (Ht rfl) (fun h=>cX (Ht rfl))) (fQ rfl rfl (eK rfl rfl (Ht rfl) (fun h=>cX (Ht rfl))) (fQ rfl rfl (eK rfl rfl (Ht rfl) (fun h=>fY U_36 Z_35 (fJ rfl h) (fJ rfl h) rfl (by first | omega | (simp at h; omega)) (by rw [Nat.mul_one,Nat.zero_add]))) ?_))))))))
   refine fQ rfl rfl (eK rfl rfl (Ht rfl) (fun h=>gR A_35 Z_35 (fJ rfl h) (j:=0) rfl (by simp at h; omega))) ?_
   refine fQ rfl rfl (eK rfl rfl (Ht rfl) (fun h=>cX (Ht rfl))) (fQ rfl rfl (eK rfl rfl (Ht rfl) (fun h=>jM U_35 Z_131 (fJ rfl h) (fJ rfl h) rfl (j:=0) rfl zo (by simp at h; omega) (by simp at h; rw [hAs.row h]; omega))) ?_)
   refine fQ rfl rfl (eK rfl rfl (Ht rfl) (fun h=>mK A_131 Z_131 (fJ rfl h) (j:=0) rfl zo (by simp at h; omega) (by simp at h; rw [hAs.row h]; omega))) ?_
   refine fQ rfl rfl (eK rfl rfl (Ht rfl) (fun h=>cZ Tryz.call166 (Pj (x:=gm A p c)) ⟨(fJ rfl h),trivial⟩)) (ro rfl (fF (Ht rfl) (fun h=>(fJ rfl h))) (eX (dQ (Ht rfl) (fun he=>?_) (fun he=>?_))))
   ·have he2 : p < i ∧ gm A p c = Qi.zero := by simpa using he
    refine cU (eG (cY (rm rfl (ro rfl (dV (Ht rfl) (cJ 1) z6) (ra rfl (eX (aS ?_)))))))
    refine fU (p + 1) ⟨⟨by omega, by omega⟩, fun r h1 h2 => by
      by_cases e:r = p
      ·rw [e]; exact he2.2
      ·exact hz r h1 zo⟩ zo (zS rfl) (dB.refl _)
   ·have hpv : pv A c i = p := a2t hcp hpn hz (fun h => by simp at he; exact he h)
    refine gV rfl (cK (ts (rm rfl (rm rfl (ro rfl (cP (Ht rfl) (Ht rfl)) (eX (dQ (Ht rfl) (fun hp=>?_) (fun hp=>?_))))))))
    ·have hp2 : p = i := by simpa using hp
     have hend:pN CM i = none:=Xn hs1 hA (by rw [hpv]; exact hp2) hcn
     rw [hC] at hend
     refine ts (ro rfl (cQ cV) (ro rfl (cQ (cJ 6)) (eX (bM rfl (fX (eU rfl) ?_) (fX (eU rfl) ?_)))))
     ·exact (fun v V k=>by rw [a3n hend]; exact iR v V k)
     ·exact (aM (a3l hend).symm)
    ·have hp2 : p < i := by simp at hp; omega
     have hpz:=(nC (M:=A) (c:=c) (n:=i) hc).2.2.2 (by rw [hpv]; exact hp2)
     rw [hpv] at hpz
     have hnx:=a11 hs1 hA hpv hp2
     refine cU (cK (Y.D_start (m:=14) [(13,0,jQ B30 35 131 5 (vs.set p (hd vs c)) vs (bN QT A))] (Y.D_step (Ei:=[(7,_)]) rfl rfl (bQ (bJ rfl rfl) bX) rfl rfl (by kernel_rfl) (dX rfl (cX (Ht rfl))) (Y.D_step (Ei:=[(10,_)]) rfl rfl (bQ (bJ rfl rfl) bX) rfl rfl (by kernel_rfl) (dX rfl (cX (Ht rfl))) (bY (Ei:=[(7,_)]) rfl rfl (bQ (bJ rfl rfl) bX) rfl rfl (dX rfl (cX (Ht rfl))) (bY (Ei:=[(9,_)]) rfl rfl (bQ (bJ rfl rfl) bX) rfl rfl (dX rfl (cX (Ht rfl))) ?_))))))
     refine Y.D_step (Ei:=[(7,_)]) rfl rfl (bQ (bJ rfl rfl) bX) rfl rfl (by kernel_rfl) (dX rfl (cX (Ht rfl))) (Y.D_step (Ei:=[(9,_)]) rfl rfl (bQ (bJ rfl rfl) bX) rfl rfl (by kernel_rfl) (dX rfl (cX (Ht rfl))) (Y.D_step (Ei:=[(77,_),(78,_)]) rfl rfl (bQ (bZ 4 rfl rfl) (bQ (bZ 5 rfl rfl) bX)) rfl rfl (by kernel_rfl) (dX rfl (fY U_36 Z_35 (Ht rfl) (Ht rfl) rfl zo (by rw [Nat.mul_one,Nat.zero_add]))) ?_))
     refine Y.D_step (Ei:=[(79,_)]) rfl rfl (bQ (bZ 6 rfl rfl) bX) rfl rfl (by kernel_rfl) (dX rfl (gR A_35 Z_35 (Ht rfl) (j:=0) rfl zo)) (Y.D_step (Ei:=[(7,_)]) rfl rfl (bQ (bJ rfl rfl) bX) rfl rfl (by kernel_rfl) (dX rfl (cX (Ht rfl))) (Y.D_step (Ei:=[(10,_)]) rfl rfl (bQ (bJ rfl rfl) bX) rfl rfl (by kernel_rfl) (dX rfl (cX (Ht rfl))) (Y.D_step (Ei:=[(81,_),(82,_)]) rfl rfl (bQ (bZ 8 rfl rfl) (bQ (bZ 9 rfl rfl) bX)) rfl rfl (by kernel_rfl) (dX rfl (fY U_36 Z_35 (Ht rfl) (Ht rfl) rfl zo (by rw [Nat.mul_one,Nat.zero_add]))) ?_)))
     refine Y.D_step (Ei:=[(83,_)]) rfl rfl (bQ (bZ 10 rfl rfl) bX) rfl rfl (by kernel_rfl) (dX rfl (gR A_35 Z_35 (Ht rfl) (j:=0) rfl zo)) (Y.D_step (Ei:=[(73,_),(74,_)]) rfl rfl (bQ (bZ 0 rfl rfl) (bQ (bZ 1 rfl rfl) bX)) rfl rfl (by kernel_rfl) (dX rfl (fY U_36 Z_35 (Ht rfl) (Ht rfl) rfl zo (by rw [Nat.mul_one,Nat.zero_add]))) ?_)
     refine Y.D_putI (Ei:=[(85,_),(80,_)]) 0 rfl rfl rfl (bQ (bZ 12 rfl rfl) (bQ (bZ 7 rfl rfl) bX)) (.head _) rfl (Ly Z_35 (Ht rfl) (Ht rfl) (hvs.pl c zo) (i:=p) (hs:=vs) zo) (Y.D_done aT rfl (by kernel_rfl) rfl (by simp [Y.okP]) rfl rfl (bU (bU (bU (bU (bU (bU (bU (bU (bU (bU (bU (bU (bU (Y.F_putI (Y.F_nil ?_))))))))))))))))
     refine ro rfl (fY U_36 Z_35 (Ht rfl) (Ht rfl) rfl zo (by rw [Nat.mul_one,Nat.zero_add])) ?_
     refine Uz Z_35 (Ht rfl) (Ht rfl) (j:=0) rfl (hvs.pl p zo) (by rw [List.length_set]; omega) rfl ?_
     refine eX (cK (lE 0 rfl (Fh (hs:=swp Co vs p c) (p:=p) (c:=c) zo zo zo) ?_))
     have hus:=hvs.swp hp2 hcn
     have hDs:dT (swp [] A p c) i (i + 1):=xQ hAs hp2 hcn
     have hDf:bP (swp [] A p c) (cE L c):=Aw hAf
     have hDz : gm (swp [] A p c) c c ≠ Qi.zero := by
      show gv (dD (swp [] A p c) c) c ≠ _
      rw [yX zo]; exact hpz
     obtain ⟨us,hus2⟩:∃ us,us = swp Co vs p c:=⟨_,rfl⟩
     obtain ⟨D,hD⟩:∃ D,D = swp [] A p c:=⟨_,rfl⟩
     rw [← hus2] at hus ⊢
     rw [← hD] at hDs hDf hDz hnx ⊢
     have hul:=hus.len
     have hDl:=hDs.1
     refine cY (ro rfl (cQ (cJ 0)) (eX (eG ?_)))
     refine bO (fun (r : Nat) => r ≤ i) (fun (r : Nat) => i - r) (fun (r : Nat) => [(6, NT .i64 i), (7, Is (.slice (some ⟨B30, 0, none⟩) i i)), (9, NT .i64 c), (11, NT .i64 r)]) (fun (r : Nat) => [jQ B30 35 131 5 us us (bN QT (mL D c r))]) 0 (Nat.zero_le _)
      (zS rfl) (aU (oN (congrArg _ Nw)) aY) (fun r hrn=>?_)
     refine cK (ts (rm rfl (rm rfl (ro rfl (gX (Ht rfl) (Ht rfl)) (eX (dQ (Ht rfl) (fun hr=>?_) (fun hr=>?_)))))))
     ·have hr : r < i := by simp only [decide_eq_true_eq] at hr; omega
      refine cU (cK (eG (ts (rm rfl (rm rfl (ro rfl (gI (Ht rfl) (Ht rfl)) (eX (dQ (Ht rfl) (fun hrc=>?_) (fun hrc=>?_)))))))))
      ·have hrc : r ≠ c := by simpa using hrc
       obtain ⟨X,hX⟩:∃ X,X = mL D c r:=⟨_,rfl⟩
       have hXr:dD X r = dD D r:=by rw [hX]; exact Ap zo zo
       have hXc:dD X c = dD D c:=by rw [hX]; exact Ap zo zo
       have hXl:X.length = i:=by rw [hX,tF]; exact hDl
       have hXrl:(dD X r).length = i + 1:=by rw [hXr]; exact hDs.row hr
       have hXcl:(dD X c).length = i + 1:=by rw [hXc]; exact hDs.row hcn
       have hXrg:(X.getD r []).length = i + 1:=hXrl
       have hXcg:(X.getD c []).length = i + 1:=hXcl
       have hXfr:dA (dD X r) (cE L c):=by rw [hXr]; exact hDf.row r
       have hXfc:dA (dD X c) (cE L c):=by rw [hXc]; exact hDf.row c
       haveI g1:aO (gm X r c) (cE L c):=hXfr.get hG1 c
       haveI g2:aO (gm X c c) (cE L c):=hXfc.get hG1 c
       have hXz:gm X c c ≠ Qi.zero:=by show gv (dD X c) c ≠ _; rw [hXc]; exact hDz
       haveI g3:aO (gm X r c / gm X c c) (cE L c + 3 * cE L c + 2):=⟨g1.fit.div g2.fit hXz⟩
       have hend:=Uh (D:=D) (r:=r) (c:=c) zo hrc zo
       rw [← hX] at hend ⊢
       rw [hXrl] at hend
       have hrU:r < us.length:=by rw [hul]; exact hr
       have hcU:c < us.length:=by rw [hul]; exact hcn
       have hXU:us.length = X.length:=by rw [hul,hXl]
       have hrX:r < X.length:=by rw [hXl]; exact hr
       have hcX:c < X.length:=by rw [hXl]; exact hcn
       have hcr:c < (X.getD r []).length:=by rw [hXrg]; exact Nat.lt_succ_of_lt hcn
       have hcc:c < (X.getD c []).length:=by rw [hXcg]; exact Nat.lt_succ_of_lt hcn
       clear hXrg hXcg hXr hXc
       refine cK (Y.D_start (m:=20) [] (bY (Ei:=[(7,_)]) rfl rfl (bQ (bJ rfl rfl) bX) rfl rfl (dX rfl (cX (Ht rfl))) (bY (Ei:=[(11,_)]) rfl rfl (bQ (bJ rfl rfl) bX) rfl rfl (dX rfl (cX (Ht rfl))) (bY (Ei:=[(96,_),(97,_)]) rfl rfl (bQ (bZ 0 rfl rfl) (bQ (bZ 1 rfl rfl) bX)) rfl rfl (dX rfl (fY U_36 Z_35 (Ht rfl) (Ht rfl) rfl zo (by rw [Nat.mul_one,Nat.zero_add]))) ?_))))
       refine bY (Ei:=[(98,_)]) rfl rfl (bQ (bZ 2 rfl rfl) bX) rfl rfl (dX rfl (gR A_35 Z_35 (Ht rfl) (j:=0) rfl hrU)) (bY (Ei:=[(9,_)]) rfl rfl (bQ (bJ rfl rfl) bX) rfl rfl (dX rfl (cX (Ht rfl))) (bY (Ei:=[(99,_),(100,_)]) rfl rfl (bQ (bZ 3 rfl rfl) (bQ (bZ 4 rfl rfl) bX)) rfl rfl (dX rfl (jM U_35 Z_131 (Ht rfl) (Ht rfl) rfl (j:=0) rfl hXU hrX hcr)) (bY (Ei:=[(101,_)]) rfl rfl (bQ (bZ 5 rfl rfl) bX) rfl rfl (dX rfl (mK A_131 Z_131 (Ht rfl) (j:=0) rfl hXU hrX hcr)) ?_)))
       refine bY (Ei:=[(7,_)]) rfl rfl (bQ (bJ rfl rfl) bX) rfl rfl (dX rfl (cX (Ht rfl))) (bY (Ei:=[(9,_)]) rfl rfl (bQ (bJ rfl rfl) bX) rfl rfl (dX rfl (cX (Ht rfl))) (bY (Ei:=[(103,_),(104,_)]) rfl rfl (bQ (bZ 7 rfl rfl) (bQ (bZ 8 rfl rfl) bX)) rfl rfl (dX rfl (fY U_36 Z_35 (Ht rfl) (Ht rfl) rfl zo (by rw [Nat.mul_one,Nat.zero_add]))) ?_))
       refine bY (Ei:=[(105,_)]) rfl rfl (bQ (bZ 9 rfl rfl) bX) rfl rfl (dX rfl (gR A_35 Z_35 (Ht rfl) (j:=0) rfl hcU)) (bY (Ei:=[(9,_)]) rfl rfl (bQ (bJ rfl rfl) bX) rfl rfl (dX rfl (cX (Ht rfl))) (bY (Ei:=[(106,_),(107,_)]) rfl rfl (bQ (bZ 10 rfl rfl) (bQ (bZ 11 rfl rfl) bX)) rfl rfl (dX rfl (jM U_35 Z_131 (Ht rfl) (Ht rfl) rfl (j:=0) rfl hXU hcX hcc)) (bY (Ei:=[(108,_)]) rfl rfl (bQ (bZ 12 rfl rfl) bX) rfl rfl (dX rfl (mK A_131 Z_131 (Ht rfl) (j:=0) rfl hXU hcX hcc)) ?_)))
       refine bY (Ei:=[(102,_),(109,_)]) rfl rfl (bQ (bZ 6 rfl rfl) (bQ (bZ 13 rfl rfl) bX)) rfl rfl (dX rfl (cZ Tryz.call144 (Pg (x:=gm X r c) (y:=gm X c c) (L:=cE L c) (M:=cE L c) zo) ⟨(Ht rfl),(Ht rfl),trivial⟩)) (bY (Ei:=[(110,_)]) rfl rfl (bQ (bZ 14 rfl rfl) bX) rfl rfl (dX rfl (cX (Ht rfl))) (bY (Ei:=[(95,_)]) rfl rfl (bQ (bZ 15 rfl rfl) bX) rfl rfl (dX rfl (dK (Ht rfl) rfl)) (bY (Ei:=[(95,_)]) rfl rfl (bQ (bZ 15 rfl rfl) bX) rfl rfl (dX rfl (dK (Ht rfl) rfl)) ?_)))
       refine Y.D_newp (Ei:=[]) (fun bb=>box bb 131 [aE (decide ((gm X r c / gm X c c).a < 0)),aI (gm X r c / gm X c c).a.natAbs,aE (decide ((gm X r c / gm X c c).b < 0)),aI (gm X r c / gm X c c).b.natAbs,aI (gm X r c / gm X c c).den]) 19 rfl rfl rfl bX rfl rfl (by kernel_rfl) (eW (Ts:=[Is (.bool false),Is (.slice none 0 0),Is (.bool false),Is (.slice none 0 0),Is (.slice none 0 0)]) O_131 rfl (fun V=>aW zd (aW zd (aW zd (aW zd (aW zd (aG))))))) ?_
       refine Y.D_putN (Ei:=[(111,_)]) 18 rfl rfl rfl rfl rfl rfl (bQ (bZ 16 rfl rfl) bX) (fun bb=>sF Z_131 (Ht rfl) (Ht rfl) rfl (i:=0) rfl (aK rfl) rfl rfl) (Y.D_done aT rfl (by kernel_rfl) rfl (by simp [Y.okP]) rfl rfl (bU (bU (bU (bU (bU (bU (bU (bU (bU (bU (bU (bU (bU (bU (bU (bU (bU (bU (Y.F_newp (fun B12=>Y.F_putN (Y.F_nil ?_))))))))))))))))))))))
       refine ra rfl (eX (ts (rm rfl (ra rfl (eX (eG ?_))))))
       refine bO (fun (k : Nat) => c ≤ k ∧ k ≤ i + 1) (fun (k : Nat) => i + 1 - k) (fun (k : Nat) => [(6, NT .i64 i), (7, Is (.slice (some ⟨B30, 0, none⟩) i i)), (9, NT .i64 c), (11, NT .i64 r), (12, bR B12 0), (14, NT .i64 k)]) (fun (k : Nat) => [jQ B30 35 131 5 us us (bN QT (X.set r (iV (dD X r) (dD X c) c k))), box B12 131 [aE (decide ((gm X r c / gm X c c).a < 0)), aI (gm X r c / gm X c c).a.natAbs, aE (decide ((gm X r c / gm X c c).b < 0)), aI (gm X r c / gm X c c).b.natAbs, aI (gm X r c / gm X c c).den]]) c ⟨Nat.le_refl _, by omega⟩
        (zS rfl) (aU (oN (by rw [← Kw,Zq zo])) (aU (aB rfl) aY)) (fun k ⟨hck,hkm⟩=>?_)
       refine cK (ts (rm rfl (rm rfl (ro rfl (xF (Ht rfl) (Ht rfl)) (eX (dQ (Ht rfl) (fun hk=>?_) (fun hk=>?_)))))))
       ·have hk2 : k < i + 1 := by simp only [decide_eq_true_eq] at hk; omega
        obtain ⟨Y,hY⟩:∃ Y,Y = (X.set r (iV (dD X r) (dD X c) c k)):=⟨_,rfl⟩
        have e1:gm Y r k = gv (dD X r) k:=by rw [hY]; exact a3h hrX (by rw [hXrl]; exact hk2)
        have e2:gm Y c k = gv (dD X c) k:=by rw [hY]; exact a3g hrc
        haveI y1:aO (gm Y r k) (cE L c):=by rw [e1]; exact hXfr.get hG1 k
        haveI y2:aO (gm Y c k) (cE L c):=by rw [e2]; exact hXfc.get hG1 k
        have hst:=Ug (X:=X) (r:=r) (c:=c) (k:=k) hrX hrc (by rw [hXrl]; exact hk2) hck
        have hYU:us.length = Y.length:=by rw [hY,List.length_set]; exact hXU
        have hrY:r < Y.length:=by rw [← hYU]; exact hrU
        have hcY:c < Y.length:=by rw [← hYU]; exact hcU
        have hkr:k < (Y.getD r []).length:=by show k < (dD Y r).length; rw [hY,tL hrX,rG,hXrl]; exact hk2
        have hkc:k < (Y.getD c []).length:=by show k < (dD Y c).length; rw [hY,oW hrc,hXcl]; exact hk2
        rw [← hY] at hst ⊢
        clear hXrl hXcl hXU hrX hcX hcr hcc
        refine cU (cK (eG (fZ (m:=22) (dp 7 rfl (cX (Ht rfl)) (dp 11 rfl (cX (Ht rfl)) (cL 119 0 120 1 rfl (fY U_36 Z_35 (Ht rfl) (Ht rfl) rfl zo (by rw [Nat.mul_one,Nat.zero_add])) ?_))))))
        refine dq 121 2 rfl (gR A_35 Z_35 (Ht rfl) (j:=0) rfl hrU) (dp 14 rfl (cX (Ht rfl)) (dp 7 rfl (cX (Ht rfl)) (dp 11 rfl (cX (Ht rfl)) (cL 124 5 125 6 rfl (fY U_36 Z_35 (Ht rfl) (Ht rfl) rfl zo (by rw [Nat.mul_one,Nat.zero_add])) ?_))))
        refine dq 126 7 rfl (gR A_35 Z_35 (Ht rfl) (j:=0) rfl hrU) (dp 14 rfl (cX (Ht rfl)) (cL 127 8 128 9 rfl (jM U_35 Z_131 (Ht rfl) (Ht rfl) rfl (j:=0) rfl hYU hrY hkr) (dq 129 10 rfl (mK A_131 Z_131 (Ht rfl) (j:=0) rfl hYU hrY hkr) (dp 12 rfl (eJ A_131 Z_131 (Ht rfl) (i:=1) rfl rfl rfl) (dp 7 rfl (cX (Ht rfl)) (dp 9 rfl (cX (Ht rfl)) (cL 132 13 133 14 rfl (fY U_36 Z_35 (Ht rfl) (Ht rfl) rfl zo (by rw [Nat.mul_one,Nat.zero_add])) ?_)))))))
        refine dq 134 15 rfl (gR A_35 Z_35 (Ht rfl) (j:=0) rfl hcU) (dp 14 rfl (cX (Ht rfl)) (cL 135 16 136 17 rfl (jM U_35 Z_131 (Ht rfl) (Ht rfl) rfl (j:=0) rfl hYU hcY hkc) (dq 137 18 rfl (mK A_131 Z_131 (Ht rfl) (j:=0) rfl hYU hcY hkc) (cL 131 12 138 19 rfl (cZ K_146 (yE (x:=gm X r c / gm X c c) (y:=gm Y c k) (L:=cE L c + 3 * cE L c + 2) (M:=cE L c) zo) ⟨(Ht rfl),(Ht rfl),trivial⟩) (cL 130 11 139 20 rfl (cZ Tryz.call147 (Mr (x:=gm Y r k) (y:=gm X r c / gm X c c * gm Y c k) (L:=cE L c) (M:=cE L c + 3 * cE L c + 2 + cE L c + 1) zo) ⟨(Ht rfl),(Ht rfl),trivial⟩) ?_)))))
        refine fV aT rfl (by kernel_rfl) (zF (zF (zF (zF (zF (aJ (aJ (aV (ro rfl (jM U_35 Z_131 (Ht rfl) (Ht rfl) rfl (j:=0) rfl hYU hrY hkr) (a2a Z_131 (Ht rfl) (Ht rfl) (j:=0) rfl (El.ag rfl) (F:=QT) (z:=gm Y r k - gm X r c / gm X c c * gm Y c k) hYU hrY hkr rfl (eX (aS (cY (rm rfl (ro rfl (dV (Ht rfl) (cJ 1) z6) ?_)))))))))))))))
        refine ra rfl (eX (fU (k + 1) ⟨by omega,hk2⟩ zo (zS rfl) (aU (oN (congrArg _ hst)) (aU (aB rfl) aY))))
       ·have hk3 : k = i + 1 := by simp only [decide_eq_false_iff_not] at hk; omega
        subst hk3
        refine gV rfl (aS (cY (rm rfl (ro rfl (dV (Ht rfl) (cJ 1) z6) (ra rfl (eX (cA [0] rfl (by decide) (fU (r + 1) hr zo (zS rfl) (aU (oN (congrArg _ hend)) aY)))))))))
      ·have hrc : r = c := by simpa using hrc
       subst hrc
       refine cU (aS (cY (rm rfl (ro rfl (dV (Ht rfl) (cJ 1) z6) (ra rfl (eX (fU (r + 1) hr zo (zS rfl) (aU (oN (congrArg _ Tw)) aY))))))))
     ·have hri : r = i := by simp only [decide_eq_false_iff_not] at hr; omega
      subst hri
      refine gV rfl (aS (cY (rm rfl (ro rfl (dV (Ht rfl) (cJ 1) z6) (ra rfl (eX (fU (c + 1,us,mL D c r) ⟨hcn,hnx,hus⟩ (by dsimp only; omega) (zS rfl) (dB.refl _))))))))
  ·have hci : c = i := by simp only [decide_eq_false_iff_not] at hcn; omega
   subst hci
   have hvl:=hvs.len
   have hgj:=yL hs (Nat.le_succ c) hc hA
   have hAs:dT A c (c + 1):=hgj.sh
   have hAf:bP A (cE L c):=Mw hs (Nat.le_succ c) hcf hL hc hA
   have hAl:=hAs.1
   have hG1:1 ≤ cE L c:=Nat.le_trans hL (oK L c)
   rw [hC] at hA
   refine gV rfl (ts (rm rfl (rn rfl (jF (T:=ZQ) (i:=Tryz.t131) sA mW rfl rfl (Ht rfl) rfl a09 (El.ag rfl) (by show 88 * _ ≤ _; omega) zo) fun B143=>(ra rfl (eX (cK (ts (ro rfl (cQ (cJ 0)) (eX (eG ?_))))))))))
   refine bO (fun (j : Nat) => j ≤ c) (fun (j : Nat) => c - j) (fun (j : Nat) => [(6, NT .i64 c), (7, Is (.slice (some ⟨B30, 0, none⟩) c c)), (15, Is B143), (16, NT .i64 j)]) (fun (j : Nat) => [jQ B30 35 131 5 vs vs (bN QT A), bH 131 5 B143 (jA (fun j => QT (gm A j c / gm A j j)) ZQ c j)]) 0 (Nat.zero_le _)
    (zS rfl) (aU (fun _ _ _ h=>h) (aU (aD (by rw [← gH]; exact xK _ _)) aY)) (fun j hj=>?_)
   refine cK (ts (rm rfl (rm rfl (ro rfl (gX (Ht rfl) (Ht rfl)) (eX (dQ (Ht rfl) (fun hq=>?_) (fun hq=>?_)))))))
   ·have hq : j < c := by simp only [decide_eq_true_eq] at hq; omega
    have hrr:(A.getD j []).length = c + 1:=hAs.row hq
    haveI f1:aO (gm A j c) (cE L c):=hAf.get hG1 j c
    haveI f2:aO (gm A j j) (cE L c):=hAf.get hG1 j j
    refine cU (cK (eG (Y.D_start (m:=22) [(21,1,bH 131 5 B143 ((jA (fun j=>QT (gm A j c / gm A j j)) ZQ c j).set j (QT (gm A j c / gm A j j))))] (Y.D_step (Ei:=[(15,_)]) rfl rfl (bQ (bJ rfl rfl) bX) rfl rfl (by kernel_rfl) (dX rfl (cX (Ht rfl))) (Y.D_step (Ei:=[(16,_)]) rfl rfl (bQ (bJ rfl rfl) bX) rfl rfl (by kernel_rfl) (dX rfl (cX (Ht rfl))) (Y.D_step (Ei:=[(7,_)]) rfl rfl (bQ (bJ rfl rfl) bX) rfl rfl (by kernel_rfl) (dX rfl (cX (Ht rfl))) (Y.D_step (Ei:=[(16,_)]) rfl rfl (bQ (bJ rfl rfl) bX) rfl rfl (by kernel_rfl) (dX rfl (cX (Ht rfl))) ?_)))))))
    refine Y.D_step (Ei:=[(152,_),(153,_)]) rfl rfl (bQ (bZ 2 rfl rfl) (bQ (bZ 3 rfl rfl) bX)) rfl rfl (by kernel_rfl) (dX rfl (fY U_36 Z_35 (Ht rfl) (Ht rfl) rfl zo (by rw [Nat.mul_one,Nat.zero_add]))) ?_
    refine Y.D_step (Ei:=[(154,_)]) rfl rfl (bQ (bZ 4 rfl rfl) bX) rfl rfl (by kernel_rfl) (dX rfl (gR A_35 Z_35 (Ht rfl) (j:=0) rfl zo)) (Y.D_step (Ei:=[(6,_)]) rfl rfl (bQ (bJ rfl rfl) bX) rfl rfl (by kernel_rfl) (dX rfl (cX (Ht rfl))) (Y.D_step (Ei:=[(155,_),(156,_)]) rfl rfl (bQ (bZ 5 rfl rfl) (bQ (bZ 6 rfl rfl) bX)) rfl rfl (by kernel_rfl) (dX rfl (jM U_35 Z_131 (Ht rfl) (Ht rfl) rfl (j:=0) rfl zo zo zo)) ?_))
    refine Y.D_step (Ei:=[(157,_)]) rfl rfl (bQ (bZ 7 rfl rfl) bX) rfl rfl (by kernel_rfl) (dX rfl (mK A_131 Z_131 (Ht rfl) (j:=0) rfl zo zo zo)) (Y.D_step (Ei:=[(7,_)]) rfl rfl (bQ (bJ rfl rfl) bX) rfl rfl (by kernel_rfl) (dX rfl (cX (Ht rfl))) (Y.D_step (Ei:=[(16,_)]) rfl rfl (bQ (bJ rfl rfl) bX) rfl rfl (by kernel_rfl) (dX rfl (cX (Ht rfl))) (Y.D_step (Ei:=[(159,_),(160,_)]) rfl rfl (bQ (bZ 9 rfl rfl) (bQ (bZ 10 rfl rfl) bX)) rfl rfl (by kernel_rfl) (dX rfl (fY U_36 Z_35 (Ht rfl) (Ht rfl) rfl zo (by rw [Nat.mul_one,Nat.zero_add]))) ?_)))
    refine Y.D_step (Ei:=[(161,_)]) rfl rfl (bQ (bZ 11 rfl rfl) bX) rfl rfl (by kernel_rfl) (dX rfl (gR A_35 Z_35 (Ht rfl) (j:=0) rfl zo)) (Y.D_step (Ei:=[(16,_)]) rfl rfl (bQ (bJ rfl rfl) bX) rfl rfl (by kernel_rfl) (dX rfl (cX (Ht rfl))) (Y.D_step (Ei:=[(162,_),(163,_)]) rfl rfl (bQ (bZ 12 rfl rfl) (bQ (bZ 13 rfl rfl) bX)) rfl rfl (by kernel_rfl) (dX rfl (jM U_35 Z_131 (Ht rfl) (Ht rfl) rfl (j:=0) rfl zo zo zo)) ?_))
    refine Y.D_step (Ei:=[(164,_)]) rfl rfl (bQ (bZ 14 rfl rfl) bX) rfl rfl (by kernel_rfl) (dX rfl (mK A_131 Z_131 (Ht rfl) (j:=0) rfl zo zo zo)) (Y.D_step (Ei:=[(158,_),(165,_)]) rfl rfl (bQ (bZ 8 rfl rfl) (bQ (bZ 15 rfl rfl) bX)) rfl rfl (by kernel_rfl) (dX rfl (cZ Tryz.call144 (Pg (x:=gm A j c) (y:=gm A j j) (L:=cE L c) (M:=cE L c) zo) ⟨(Ht rfl),(Ht rfl),trivial⟩)) (Y.D_step (Ei:=[(166,_)]) rfl rfl (bQ (bZ 16 rfl rfl) bX) rfl rfl (by kernel_rfl) (dX rfl (cX (Ht rfl))) ?_))
    refine Y.D_step (Ei:=[(149,_)]) rfl rfl (bQ (bZ 17 rfl rfl) bX) rfl rfl (by kernel_rfl) (dX rfl (dK (Ht rfl) rfl)) (bY (Ei:=[(149,_)]) rfl rfl (bQ (bZ 17 rfl rfl) bX) rfl rfl (dX rfl (dK (Ht rfl) rfl)) (Y.D_step (Ei:=[(150,_),(151,_)]) rfl rfl (bQ (bZ 0 rfl rfl) (bQ (bZ 1 rfl rfl) bX)) rfl rfl (by kernel_rfl) (dX rfl (cH U_35 Z_131 (Ht rfl) (Ht rfl) rfl (i:=1) rfl (by rw [dC]; omega) rfl)) ?_))
    refine Y.D_putI (Ei:=[(169,_),(167,_)]) 1 rfl rfl rfl (bQ (bZ 20 rfl rfl) (bQ (bZ 18 rfl rfl) bX)) (.head _) rfl (Il Z_131 (Ht rfl) (Ht rfl) (El.ag rfl) (i:=0) rfl rfl (by rw [dC]; omega)) ?_
    refine Y.D_done aT rfl (by kernel_rfl) rfl (by simp [Y.okP]) rfl rfl (bU (bU (bU (bU (bU (bU (bU (bU (bU (bU (bU (bU (bU (bU (bU (bU (bU (bU (bU (bU (bU (Y.F_putI (Y.F_nil ?_)))))))))))))))))))))))
    refine eX (aS (cY (rm rfl (ro rfl (dV (Ht rfl) (cJ 1) z6) (ra rfl (eX (fU (j + 1) hq zo (zS rfl) (aU (fun _ _ _ h=>h) (aU (aD (iQ (f:=(fun j=>QT (gm A j c / gm A j j))))) aY)))))))))
   ·have hjc : j = c := by simp only [decide_eq_false_iff_not] at hq; omega
    subst hjc
    rw [iP]
    refine gV rfl (gJ (i:=1) (tt:=15) rfl rfl eC (ts (rm rfl (ra rfl (ro rfl (cQ (cJ 0)) (eX (bM rfl (fX (eU rfl) ?_) (fX (eU rfl) ?_))))))))
    ·exact (kS (a3o hA))
    ·exact (aM (a3m hA).symm)
end
section
open Go Go.RowKit
abbrev pA (ps:List (Nat × Nat)) (k:Nat):Nat:=(ps.getD k (0,0)).1
abbrev pB (ps:List (Nat × Nat)) (k:Nat):Nat:=(ps.getD k (0,0)).2
def qP (n : Nat) (ps : List (Nat × Nat)) : Nat → List Int
 | 0=>tab n fun _=>-1
 | k + 1=>((qP n ps k).set (pA ps k) (pB ps k:Int)).set (pB ps k) (pA ps k:Int)
abbrev tv (to:List Int) (i:Nat):Int:=to.getD i 0
theorem rZ (n : Nat) (ps : List (Nat × Nat)) : ∀ k, (qP n ps k).length = n
 | 0=>aC _ _
 | k + 1=>by rw [qP,List.length_set,List.length_set,rZ n ps k]
theorem Rx {n : Nat} {ps : List (Nat × Nat)} : ∀ {k : Nat}, (∀ j, j < k → pA ps j < n ∧ pB ps j < n) → ∀ x, x ∈ qP n ps k → -1 ≤ x ∧ x < n
 | 0,_,x,hx=>by obtain ⟨i,_,rfl⟩:=iZ.1 hx; omega
 | k + 1, h, x, hx => by
  have hk:=h k (Nat.lt_succ_self k)
  rcases List.mem_or_eq_of_mem_set hx with h1 | h1
  ·rcases List.mem_or_eq_of_mem_set h1 with h2 | h2
   ·exact Rx (fun j hj=>h j zo) x h2
   ·rw [h2]; omega
  ·rw [h1]; omega
theorem a41 {to:List Int} {i:Nat} (h:i < to.length):tv to i ∈ to:=by
 have e:tv to i = to[i]:=by simp [tv,List.getD,h]
 rw [e]; exact List.getElem_mem h
def uT (to : List Int) : Nat → List Nat
 | 0=>[]
 | k + 1=>uT to k ++ (if tv to k < 0 then [k] else [])
theorem Ye {to : List Int} : ∀ {k x : Nat}, x ∈ uT to k → x < k
 | 0,x,h=>by cases h
 | k + 1, x, h => by
  rcases List.mem_append.1 h with h1 | h1
  ·have:=Ye h1; omega
  ·split at h1
   ·have:=List.mem_singleton.1 h1; omega
   ·cases h1
theorem Hv (to : List Int) : ∀ k, (uT to k).length ≤ k
 | 0=>Nat.le_refl _
 | k + 1 => by
  have:=Hv to k
  simp only [uT,List.length_append]
  split
  ·simp; omega
  ·simp; omega
def zD (S : List (List Qi)) (to : List Int) (n i : Nat) : Nat → List Qi
 | 0=>mR n i
 | j + 1=>if tv to j < 0 then zD S to n i j else (zD S to n i j).set (tv to j).toNat (gv (zD S to n i j) (tv to j).toNat - gm S i j)
theorem Fy (n i:Nat):(mR n i).length = n:=by rw [mR,List.length_set,aC]
theorem wJ (S : List (List Qi)) (to : List Int) (n i : Nat) : ∀ j, (zD S to n i j).length = n
 | 0=>Fy n i
 | j + 1 => by
  simp only [zD]
  split
  ·exact wJ S to n i j
  ·rw [List.length_set,wJ S to n i j]
theorem Gx {S : List (List Qi)} {to : List Int} {n i L : Nat} (h : bP S L) (hL : 1 ≤ L) : ∀ j, dA (zD S to n i j) (1 + j * (L + 1))
 | 0=>Fx zo
 | j + 1 => by
  have ih:=Gx (to:=to) (n:=n) (i:=i) h hL j
  have e:1 + (j + 1) * (L + 1) = 1 + j * (L + 1) + L + 1:=by rw [Nat.add_mul]; omega
  simp only [zD]
  split
  ·exact ih.le zo
  ·intro x hx
   rcases List.mem_or_eq_of_mem_set hx with h1 | h1
   ·exact (ih x h1).le zo
   ·rw [h1, e]
    haveI f1:=ih.get zo (tv to j).toNat
    haveI f2:=h.get hL i j
    infer_instance
def yF (S:List (List Qi)) (to:List Int) (n:Nat):List (List Qi):=tab n fun i=>zD S to n i n
theorem zY (S:List (List Qi)) (to:List Int) (n:Nat):dT (yF S to n) n n:=⟨aC _ _,fun r hr=>by obtain ⟨i,_,rfl⟩:=iZ.1 hr; exact wJ S to n i n⟩
theorem a0P {S:List (List Qi)} {to:List Int} {n L:Nat} (h:bP S L) (hL:1 ≤ L):bP (yF S to n) (1 + n * (L + 1)):=fun r hr=>by obtain ⟨i,_,rfl⟩:=iZ.1 hr; exact Gx h hL n
def Gv (S:List (List Qi)) (n l:Nat):List Qi:=tab n fun i=>gm S i l
theorem a0O {S:List (List Qi)} {n l L:Nat} (h:bP S L) (hL:1 ≤ L):dA (Gv S n l) L:=dA.tab fun i _=>h.get hL i l
def uR (val:Nat → Nat → Qi) (n m k i:Nat):List (List Qi):=tab n fun r=>tab m fun j=>if j < k ∨ j = k ∧ r < i then val r j else Qi.zero
theorem sO (val:Nat → Nat → Qi) (n m k i:Nat):dT (uR val n m k i) n m:=dT.tab
theorem Su (val:Nat → Nat → Qi) (n m:Nat):zN n m = uR val n m 0 0:=cT fun r _=>cT fun j _=>by rw [if_neg zo]
theorem Wv (val : Nat → Nat → Qi) (n m k : Nat) : uR val n m k n = uR val n m (k + 1) 0 := cT fun r hr => cT fun j _ => by
 by_cases h:j < k ∨ j = k ∧ r < n
 ·rw [if_pos h,if_pos zo]
 ·rw [if_neg h,if_neg zo]
theorem Ww (val:Nat → Nat → Qi) (n m:Nat):uR val n m m 0 = tab n fun r=>tab m fun j=>val r j:=cT fun r _=>cT fun j hj=>by rw [if_pos zo]
theorem Ss {val:Nat → Nat → Qi} {n m k i:Nat} (hi:i < n) (hk:k < m):(uR val n m k i).set i (((uR val n m k i).getD i []).set k (val i k)) = uR val n m k (i + 1):=by
 apply List.ext_getElem?
 intro r
 by_cases hr:r < n
 ·by_cases e : r = i
  ·subst e
   rw [List.getElem?_set_self (by rw [(sO _ _ _ _ _).1]; exact hr),uR,uR,bS (f:=fun r=>tab m fun j=>if j < k ∨ j = k ∧ r < _ + 1 then val r j else Qi.zero) hr]
   congr 1
   have:(tab n fun x=>tab m fun j=>if j < k ∨ j = k ∧ x < r then val x j else Qi.zero).getD r [] = tab m fun j=>if j < k ∨ j = k ∧ r < r then val r j else Qi.zero:=rK hr
   rw [this]
   apply List.ext_getElem?
   intro j
   by_cases hj:j < m
   ·by_cases e2 : j = k
    ·subst e2
     rw [List.getElem?_set_self (by rw [aC]; exact hj),bS hj,if_pos zo]
    ·rw [List.getElem?_set_ne (Ne.symm e2), bS hj, bS hj]
     by_cases e3:j < k
     ·rw [if_pos (.inl e3),if_pos (.inl e3)]
     ·rw [if_neg zo,if_neg zo]
   ·rw [List.getElem?_eq_none (by rw [List.length_set,aC]; omega),List.getElem?_eq_none (by rw [aC]; omega)]
  ·rw [List.getElem?_set_ne (Ne.symm e), uR, uR, bS hr, bS hr]
   congr 1
   refine cT fun j _=>?_
   by_cases e3:j < k ∨ j = k ∧ r < i
   ·rw [if_pos e3,if_pos zo]
   ·rw [if_neg e3,if_neg zo]
 ·rw [List.getElem?_eq_none (by rw [List.length_set,(sO _ _ _ _ _).1]; omega),List.getElem?_eq_none (by rw [(sO _ _ _ _ _).1]; omega)]
def Sr (S:List (List Qi)) (to:List Int) (n:Nat) (lf:List Nat) (x y:Nat):Qi:=gv (Te (yF S to n) (Gv S n (lf.getD y 0)) n) (lf.getD x 0)
def Uq (S:List (List Qi)) (to:List Int) (n:Nat) (lf:List Nat):Int:=jX (fun y=>Fe (yF S to n) (Gv S n (lf.getD y 0)) n) lf.length
end
section
open Go Go.RowKit
theorem Cb {L M : Nat} (h : L ≤ M) : ∀ c, cE L c ≤ cE M c
 | 0=>h
 | c + 1=>by have:=Cb h c; simp only [cE]; omega
theorem a10 {M:List (List Qi)} {b:List Qi} {n:Nat} (h:dT M n n) (he:Fe M b n = 0):(Te M b n).length = n:=by
 cases hX:Py M b n with
 | none=>simp only [Fe,hX,Option.isSome_none] at he; exact absurd he (by decide)
 | some X=>simp only [Te,hX,Option.getD_some]; exact (sU h hX).1
theorem yM {l:List Qi} {t k:Nat} {v:Qi} (ht:t < l.length):gv (l.set t v) k = if k = t then v else gv l k:=by
 simp only [gv,List.getD]
 by_cases e:k = t
 ·subst e; rw [if_pos rfl,List.getElem?_set_self ht]; rfl
 ·rw [if_neg e,List.getElem?_set_ne (Ne.symm e)]
theorem Lq {l:List Qi} {n t:Nat} {v:Qi} {x:Nat → Qi} (hl:l.length = n) (ht:t < n):aH n (fun k=>gv (l.set t v) k * x k) = aH n (fun k=>gv l k * x k) + (v - gv l t) * x t:=by
 have e : ∀ k, k < n → gv (l.set t v) k * x k = gv l k * x k + (if k = t then (v - gv l t) * x t else 0) := fun k hk => by
  rw [yM zo]
  by_cases c:k = t
  ·subst c; rw [if_pos rfl,if_pos rfl]; grind
  ·rw [if_neg c,if_neg c]; grind
 rw [bA e,Cz,fR (i:=t) ht (fun k _ hk=>if_neg hk),if_pos rfl]
def cnT (S:List (List Qi)) (to:List Int) (x:Nat → Qi) (i j:Nat):Qi:=if tv to j < 0 then 0 else gm S i j * x (tv to j).toNat
theorem Ul {n i:Nat} (hi:i < n) (x:Nat → Qi):aH n (fun k=>gv (mR n i) k * x k) = x i:=by
 rw [mR,Lq (aC _ _) hi,kP (fun k hk=>by rw [mJ hk,q0]; grind),mJ hi,q0,q1]; grind
theorem Pn {S : List (List Qi)} {to : List Int} {n i : Nat} (hi : i < n) (hto : ∀ j, j < n → tv to j < n) (x : Nat → Qi) : ∀ J, J ≤ n → aH n (fun k => gv (zD S to n i J) k * x k) = x i - aH J (cnT S to x i)
 | 0,_=>by rw [zD,Ul hi]; simp only [aH,q0]; grind
 | J + 1, h => by
  have ih:=Pn (S:=S) hi hto x J zo
  have hj:=hto J zo
  by_cases c:tv to J < 0
  ·rw [zD,if_pos c,ih]; simp only [aH,cnT,if_pos c]; grind
  ·rw [zD,if_neg c,Lq (wJ ..) zo,ih]; simp only [aH,cnT,if_neg c]; grind
theorem a0Q {S:List (List Qi)} {to:List Int} {n i k:Nat} (hi:i < n):gm (yF S to n) i k = gv (zD S to n i n) k:=by
 show gv ((yF S to n).getD i []) k = _
 rw [yF,rK hi]
theorem Gw {S:List (List Qi)} {to:List Int} {n i:Nat} (hi:i < n) (hto:∀ j,j < n → tv to j < n) (x:Nat → Qi):aH n (fun k=>gm (yF S to n) i k * x k) = x i - aH n (cnT S to x i):=by
 rw [← Pn hi hto x n (Nat.le_refl n)]; exact bA fun k _=>by rw [a0Q hi]
theorem a3b {S:List (List Qi)} {n l i:Nat} (hi:i < n):gv (Gv S n l) i = gm S i l:=mJ hi
def Cyc (S:List (List Qi)) (to:List Int) (n:Nat) (x:Nat → Qi):Prop:=∀ i,i < n → x i - aH n (cnT S to x i) = 0
theorem a4y {S : List (List Qi)} {to : List Int} {n : Nat} {lf : List Nat} {u : Nat → Nat → Qi} (hto : ∀ j, j < n → tv to j < n)
  (hu:∀ y,y < lf.length → ∀ i,i < n → u y i - aH n (cnT S to (u y) i) = gm S i (lf.getD y 0)) (hk:∀ x,Cyc S to n x → ∀ k,k < n → x k = 0) :
  Uq S to n lf = 0 ∧ ∀ x y,y < lf.length → lf.getD x 0 < n → Sr S to n lf x y = u y (lf.getD x 0):=by
 have hS:=zY S to n
 have key : ∀ y, y < lf.length → ∃ X, Py (yF S to n) (Gv S n (lf.getD y 0)) n = some X ∧ ∀ k, k < n → gv X k = u y k := fun y hy => by
  cases hX:Py (yF S to n) (Gv S n (lf.getD y 0)) n with
  | none =>
   obtain ⟨z,h1,k,h2,h3⟩:=Kb hS hX
   exact absurd (hk z (fun i hi=>by rw [← Gw hi hto]; exact h1 i hi) k h2) h3
  | some X =>
   refine ⟨X,rfl,fun k hk2=>?_⟩
   obtain ⟨_,h2,h3⟩:=sU hS hX
   have h4 := h3 (fun k => gv X k - 1 * u y k) (fun i hi => by
    have e1:=h2 i hi
    rw [a3b hi] at e1
    have e2:=hu y hy i hi
    rw [← Gw hi hto] at e2
    have e3:aH n (fun k=>gm (yF S to n) i k * (gv X k - 1 * u y k)) = aH n (fun k=>gm (yF S to n) i k * gv X k - 1 * (gm (yF S to n) i k * u y k)):=bA fun k _=>by grind
    rw [e3,rI,e1,e2]; grind) k hk2
   grind
 refine ⟨gM fun y hy=>?_,fun x y hy hx=>?_⟩
 ·obtain ⟨X, hX, _⟩ := key y hy
  simp only [Fe,hX,Option.isSome_some,if_true]
 ·obtain ⟨X, hX, h⟩ := key y hy
  simp only [Sr,Te,hX,Option.getD_some]
  exact h _ hx
theorem a3c {S:List (List Qi)} {to:List Int} {n:Nat} {lf:List Nat} {x:Nat → Qi} (hto:∀ j,j < n → tv to j < n) (hl:1 ≤ lf.length) (hx:Cyc S to n x) {k:Nat} (hk:k < n) (hxk:x k ≠ 0):Uq S to n lf = 6:=by
 have hS:=zY S to n
 have h0 : Fe (yF S to n) (Gv S n (lf.getD 0 0)) n = 6 := by
  cases hX:Py (yF S to n) (Gv S n (lf.getD 0 0)) n with
  | none=>simp only [Fe,hX,Option.isSome_none]; rfl
  | some X =>
   obtain ⟨_,_,h3⟩:=sU hS hX
   exact absurd (h3 x (fun i hi=>by rw [Gw hi hto]; exact hx i hi) k hk) hxk
 have:=lP (f:=fun y=>Fe (yF S to n) (Gv S n (lf.getD y 0)) n) (k:=0) (fun i hi=>by omega) (by show Fe _ (Gv S n (lf.getD 0 0)) n ≠ 0; rw [h0]; decide) (n:=lf.length) zo
 rw [Uq,this]; exact h0
end
section
open Go Go.RowKit
abbrev PrT (q:Nat × Nat):Ty:=eP [NT .i64 q.1,NT .i64 q.2]
abbrev Uy (ps:List (Nat × Nat)):Ty:=kL 2 (ps.map PrT)
abbrev ZT (x:Int):Ty:=aP .i64 x
theorem a4x {z:List Qi} {m:List (List Qi)} {e:Int} (h:e ≠ 0):∀ v V,(oI [] []).p v V → (oI (dL e z) (dL e m)).p v V:=by rw [dL,dL,if_neg h,if_neg h]; exact fun _ _ k=>k
theorem a3d {z:List Qi} {m:List (List Qi)} {e:Int} {Ts:List Ty} {T:Ty} (h:e = 0) (hZ:Ts = z.map QT) (hT:T = QM m):∀ v V,(eP [kL 5 Ts,T]).p v V → (oI (dL e z) (dL e m)).p v V:=by rw [dL,dL,if_pos h,if_pos h,hZ,hT]; exact fun _ _ k=>k
theorem Lg (l:List Int) (k:Nat) (z:Int):(l.set k z).map ZT = (l.map ZT).set k (ZT z):=by rw [List.map_set]
theorem Sg {z:List Qi} {S:List (List Qi)} {n L:Nat} {ps:List (Nat × Nat)} (hS:dT S n n) (hz:z.length = n) (hf:bP S L) (hL:1 ≤ L) (hLb:L ≤ 1000) (h1:1 ≤ n) (hn:n ≤ 9) (hps:∀ j,j < ps.length → pA ps j < n ∧ pB ps j < n) (hpl:ps.length ≤ 9):bE Tryz.prog 198 [oI z S,Uy ps] (gC [oI (dL (Uq S (qP n ps ps.length) n (uT (qP n ps ps.length) n)) ((uT (qP n ps ps.length) n).map fun l=>gv z l)) (dL (Uq S (qP n ps ps.length) n (uT (qP n ps ps.length) n)) (tab (uT (qP n ps ps.length) n).length fun x=>tab (uT (qP n ps ps.length) n).length fun y=>Sr S (qP n ps ps.length) n (uT (qP n ps ps.length) n) x y)),aE (decide (Uq S (qP n ps ps.length) n (uT (qP n ps ps.length) n) = 0))]):=by
 have hSl:=hS.1
 refine bE.intro Tryz.func198 rfl Tryz.ntmps198 rfl (fun cx=>(ts (rn rfl (fG (Ht rfl)) fun B2=>(rn rfl (eW (Ts:=[Is (.slice none 0 0),Is (.slice none 0 0)]) O_38 rfl (fun V=>aW zd (aW zd (aG)))) fun B4=>(ro rfl (cQ cV) (eX (ts (ro rfl (eZ kU (Ht rfl) rfl) (ro rfl (eY A_35 Z_35 (Ht rfl) (i:=0) rfl rfl) (ro rfl (dG U_35 (Ht rfl) (by rw [List.length_map,hz])) ?_))))))))))
 refine ra rfl (eX (ts (rm rfl (rn rfl (jF (T:=ZT 0) (i:=Tryz.t3) sB rS rfl rfl (Ht rfl) rfl (fun V=>rfl) El.one (by show 8 * _ ≤ _; omega) zo) fun B26=>(ra rfl (eX (cK (ts (ro rfl (cQ (cJ 0)) (eX (eG ?_)))))))))))
 refine bO (fun (i : Nat) => i ≤ n) (fun (i : Nat) => n - i) (fun (i : Nat) => [(1, Uy ps), (2, bR B2 0), (4, bR B4 0), (6, NT .i64 n), (7, Is B26), (8, NT .i64 i)]) (fun (i : Nat) => [box B2 38 [oQ z, QM S], box B4 38 [Is (.slice none 0 0), Is (.slice none 0 0)], bH 3 1 B26 (jA (fun _ => ZT (-1)) (ZT 0) n i)]) 0 (Nat.zero_le _)
  (zS rfl) (aU (aB rfl) (aU (aB rfl) (aU (aD (by rw [← gH]; exact xK _ _)) aY))) (fun i hi=>?_)
 refine cK (ts (rm rfl (rm rfl (ro rfl (gX (Ht rfl) (Ht rfl)) (eX (dQ (Ht rfl) (fun hd=>?_) (fun hd=>?_)))))))
 ·have hdn : i < n := by simp only [decide_eq_true_eq] at hd; omega
  refine cU (cK (eG (cY (rm rfl (rm rfl (ro rfl (cH U_72 Z_3 (Ht rfl) (Ht rfl) rfl (i:=2) rfl (by rw [dC]; omega) rfl) ?_))))))
  refine jB Z_3 (Ht rfl) cV El.one (i:=2) rfl rfl (by rw [dC]; omega) rfl ?_
  refine eX (aS (cY (rm rfl (ro rfl (dV (Ht rfl) (cJ 1) z6) (ra rfl (eX (fU (i + 1) hdn zo (zS rfl) (aU (aB rfl) (aU (aB rfl) (aU (aD (iQ (f:=fun _=>ZT (-1)))) aY))))))))))
 ·have hin : i = n := by simp only [decide_eq_false_iff_not] at hd; omega
  subst hin
  rw [iP]
  refine gV rfl (cK (ts (ro rfl (cQ (cJ 0)) (eX (eG ?_)))))
  refine bO (fun (k : Nat) => k ≤ ps.length) (fun (k : Nat) => ps.length - k) (fun (k : Nat) => [(1, Uy ps), (2, bR B2 0), (4, bR B4 0), (6, NT .i64 i), (7, Is B26), (9, NT .i64 k)]) (fun (k : Nat) => [box B2 38 [oQ z, QM S], box B4 38 [Is (.slice none 0 0), Is (.slice none 0 0)], bH 3 1 B26 ((qP i ps k).map ZT)]) 0 (Nat.zero_le _)
   (zS rfl) (aU (aB rfl) (aU (aB rfl) (aU (aD (by rw [qP,rY])) aY))) (fun k hk=>?_)
  refine cK (ts (rm rfl (rm rfl (ro rfl (dG U_26 (Ht rfl) aA) (ro rfl (gX (Ht rfl) (Ht rfl)) (eX (dQ (Ht rfl) (fun hd2=>?_) (fun hd2=>?_))))))))
  ·have hkn : k < ps.length := by simp only [decide_eq_true_eq] at hd2; omega
   obtain ⟨hpa,hpb⟩:=hps k hkn
   refine cU (cK (eG (cK (fZ (m:=11) (dp 7 rfl (cX (Ht rfl)) (dp 1 rfl (cX (Ht rfl)) (dp 9 rfl (cX (Ht rfl)) (cL 42 1 43 2 rfl (dZ U_26 Z_71 (Ht rfl) (Ht rfl) rfl (dY (dU (d:=(0,0)) hkn))) (dq 44 3 rfl (kW U_71 Z_3 (Ht rfl) cV rfl (by decide) rfl) (dq 45 4 rfl (dJ A_3 Z_3 (Ht rfl)) (dp 1 rfl (cX (Ht rfl)) (dp 9 rfl (cX (Ht rfl)) (cL 47 6 48 7 rfl (dZ U_26 Z_71 (Ht rfl) (Ht rfl) rfl (dY (dU (d:=(0,0)) hkn))) ?_)))))))))))))
   refine dq 49 8 rfl (kW U_71 Z_3 (Ht rfl) cV rfl (by decide) rfl) (dq 50 9 rfl (dJ A_3 Z_3 (Ht rfl)) (fV aT rfl (by kernel_rfl) (zF (zF (aJ (aJ (aJ (aV (ro rfl (cH U_72 Z_3 (Ht rfl) (Ht rfl) rfl (i:=2) rfl (by rw [List.length_map,rZ]; omega) rfl) ?_)))))))))
   refine jB Z_3 (Ht rfl) (Ht rfl) El.one (i:=2) rfl rfl (by rw [List.length_map,rZ]; omega) rfl ?_
   refine eX (fZ (m:=11) (dp 7 rfl (cX (Ht rfl)) (dp 1 rfl (cX (Ht rfl)) (dp 9 rfl (cX (Ht rfl)) (cL 54 1 55 2 rfl (dZ U_26 Z_71 (Ht rfl) (Ht rfl) rfl (dY (dU (d:=(0,0)) hkn))) (dq 56 3 rfl (kW U_71 Z_3 (Ht rfl) cV rfl (by decide) rfl) (dq 57 4 rfl (dJ A_3 Z_3 (Ht rfl)) (dp 1 rfl (cX (Ht rfl)) (dp 9 rfl (cX (Ht rfl)) (cL 59 6 60 7 rfl (dZ U_26 Z_71 (Ht rfl) (Ht rfl) rfl (dY (dU (d:=(0,0)) hkn))) (dq 61 8 rfl (kW U_71 Z_3 (Ht rfl) cV rfl (by decide) rfl) ?_)))))))))))
   refine dq 62 9 rfl (dJ A_3 Z_3 (Ht rfl)) (fV aT rfl (by kernel_rfl) (zF (zF (aJ (aJ (aJ (aV (ro rfl (cH U_72 Z_3 (Ht rfl) (Ht rfl) rfl (i:=2) rfl (by rw [List.length_set,List.length_map,rZ]; omega) rfl) ?_))))))))
   refine jB Z_3 (Ht rfl) (Ht rfl) El.one (i:=2) rfl rfl (by rw [List.length_set,List.length_map,rZ]; omega) rfl ?_
   refine eX (aS (cY (rm rfl (ro rfl (dV (Ht rfl) (cJ 1) z6) (ra rfl (eX (fU (k + 1) hkn zo (zS rfl) (aU (aB rfl) (aU (aB rfl) (aU (aD (by rw [qP,← Lg,← Lg])) aY))))))))))
  ·have hkp : k = ps.length := by simp only [decide_eq_false_iff_not] at hd2; omega
   subst hkp
   have htl:=rZ i ps ps.length
   have htm:=Rx hps
   obtain ⟨to,hto⟩:∃ to,to = qP i ps ps.length:=⟨_,rfl⟩
   rw [← hto] at htl htm ⊢
   refine gV rfl (ts (rn rfl (mO U_72 Z_3 O_3) fun B65=>(ra rfl (eX (cK (ts (ro rfl (cQ (cJ 0)) (eX (eG ?_)))))))))
   refine eA (fun (q : Nat) (vL : Value) => q ≤ i) (fun (q : Nat) (vL : Value) => i - q) (fun (q : Nat) (vL : Value) => [(1, Uy ps), (2, bR B2 0), (4, bR B4 0), (6, NT .i64 i), (7, Is B26), (10, Is vL), (11, NT .i64 q)]) (fun (q : Nat) (vL : Value) => [box B2 38 [oQ z, QM S], box B4 38 [Is (.slice none 0 0), Is (.slice none 0 0)], bH 3 1 B26 (to.map ZT), bH 3 1 vL ((uT to q).map (NT .i64))]) 0 _ (Nat.zero_le _)
    (zS rfl) (aU (aB rfl) (aU (aB rfl) (aU (fun _ _ _ h=>h) (aU (aD rfl) aY)))) (fun q vL hq=>?_)
   refine cK (ts (rm rfl (rm rfl (ro rfl (gX (Ht rfl) (Ht rfl)) (eX (dQ (Ht rfl) (fun hd3=>?_) (fun hd3=>?_)))))))
   ·have hqn : q < i := by simp only [decide_eq_true_eq] at hd3; omega
    have hll:=Hv to q
    refine cU (cK (eG (ts (rm rfl (rm rfl (ro rfl (cH U_72 Z_3 (Ht rfl) (Ht rfl) rfl (i:=2) rfl (by rw [List.length_map]; omega) rfl) ?_))))))
    refine ro rfl (nN A_3 Z_3 (Ht rfl) (i:=2) rfl rfl (dY (dU (d:=0) zo))) (ro rfl (pI (Ht rfl) cV) (eX (dQ (Ht rfl) (fun hn=>?_) (fun hn=>?_))))
    ·have hneg : tv to q < 0 := by simpa using hn
     have hnx:uT to (q + 1) = uT to q ++ [q]:=by rw [uT,if_pos hneg]
     refine cY (rm rfl (rm rfl (ro rfl (bT (xs:=[.tmp 77]) U_72 Z_3 O_3 (cW (Ht rfl) cG) rfl rfl rfl) (iD (inf:=Tryz.t3) sB rS rfl rfl rfl (Ht rfl) (Ht rfl) (i:=3) rfl (by simp) (fun T hT=>by simp at hT; subst hT; exact El.one) (by show _ * 8 ≤ _; simp only [List.length_map,List.length_cons,List.length_nil]; omega) (by simp only [List.length_map,List.length_cons,List.length_nil]; omega) rfl (fun v2=>?_)))))
     refine ra rfl (eX (aS (cY (rm rfl (ro rfl (dV (Ht rfl) (cJ 1) z6) (ra rfl (eX (fU (q + 1,v2) hqn (by dsimp only; omega) (zS rfl) (aU (aB rfl) (aU (aB rfl) (aU (fun _ _ _ h=>h) (aU (aD (by rw [hnx,List.map_append]; rfl)) aY))))))))))))
    ·have hneg : ¬ tv to q < 0 := by simpa using hn
     have hnx:uT to (q + 1) = uT to q:=by rw [uT,if_neg hneg,List.append_nil]
     refine cU (aS (cY (rm rfl (ro rfl (dV (Ht rfl) (cJ 1) z6) (ra rfl (eX (fU (q + 1,vL) hqn (by dsimp only; omega) (zS rfl) (aU (aB rfl) (aU (aB rfl) (aU (fun _ _ _ h=>h) (aU (aD (by rw [hnx])) aY)))))))))))
   ·have hqi : q = i := by simp only [decide_eq_false_iff_not] at hd3; omega
    subst hqi
    refine gV rfl (gJ (i:=2) (tt:=7) rfl rfl eC (gJ (i:=3) (tt:=10) rfl rfl eC (cA [0,1] rfl (by decide) (ts (rm rfl (jU Tryz.call199 (Wg (n:=q) zo) ⟨(Ht rfl),trivial⟩ rfl (fun B81 _=>(ra rfl (eX (cK (ts (ro rfl (cQ (cJ 0)) (eX (eG ?_))))))))))))))
    refine bO (fun (r : Nat) => r ≤ q) (fun (r : Nat) => q - r) (fun (r : Nat) => [(2, bR B2 0), (4, bR B4 0), (6, NT .i64 q), (7, kL 1 (to.map ZT)), (10, dP (uT to q)), (12, Is (.slice (some ⟨B81, 0, none⟩) q q)), (13, NT .i64 r)]) (fun (r : Nat) => [box B2 38 [oQ z, QM S], box B4 38 [Is (.slice none 0 0), Is (.slice none 0 0)], kE eL B81 35 131 5 (bN QT (kQ (fun r => zD S to q r q) (mR q) q r))]) 0 (Nat.zero_le _)
     (zS rfl) (aU (aB rfl) (aU (aB rfl) (aU (bI (by rw [← jZ]; rfl)) aY))) (fun r hr=>?_)
    refine cK (ts (rm rfl (rm rfl (ro rfl (gX (Ht rfl) (Ht rfl)) (eX (dQ (Ht rfl) (fun hd4=>?_) (fun hd4=>?_)))))))
    ·have hrn : r < q := by simp only [decide_eq_true_eq] at hd4; omega
     have hsr:=hS.row hrn
     refine jV 2 (r) rfl (oT hrn) (fun v0 hv0=>(cU (cK (eG (ts (ro rfl (cQ (cJ 0)) (eX (eG ?_))))))))
     refine bO (fun (j : Nat) => j ≤ q) (fun (j : Nat) => q - j) (fun (j : Nat) => [(2, bR B2 0), (4, bR B4 0), (6, NT .i64 q), (7, kL 1 (to.map ZT)), (10, dP (uT to q)), (12, Is (.slice (some ⟨B81, 0, none⟩) q q)), (13, NT .i64 r), (14, NT .i64 j)]) (fun (j : Nat) => [box B2 38 [oQ z, QM S], box B4 38 [Is (.slice none 0 0), Is (.slice none 0 0)], pO eL B81 35 131 5 (bN QT (kQ (fun r => zD S to q r q) (mR q) q r)) r v0, bH 131 5 v0 ((zD S to q r j).map QT)]) 0 (Nat.zero_le _)
      (zS rfl) (aU (aB rfl) (aU (aB rfl) (aU (fun _ _ _ h=>h) (aU (aD rfl) aY)))) (fun j hj=>?_)
     refine cK (ts (rm rfl (rm rfl (ro rfl (gX (Ht rfl) (Ht rfl)) (eX (dQ (Ht rfl) (fun he=>?_) (fun he=>?_)))))))
     ·have hjn : j < q := by simp only [decide_eq_true_eq] at he; omega
      have hrl:=wJ S to q r j
      have htj:=htm _ (a41 (i:=j) zo)
      refine cU (cK (eG (ts (rm rfl (rm rfl (ro rfl (dZ U_72 Z_3 (Ht rfl) (Ht rfl) rfl (dY (dU (d:=0) zo))) (ro rfl (dJ A_3 Z_3 (Ht rfl)) (ro rfl (kH (Ht rfl) cV) (eX (dQ (Ht rfl) (fun hg=>?_) (fun hg=>?_)))))))))))
      ·have hpos : ¬ tv to j < 0 := by simp at hg; simp; omega
       have hqi:tv to j = ((tv to j).toNat:Int):=by omega
       have hnx:zD S to q r (j + 1) = (zD S to q r j).set (tv to j).toNat (gv (zD S to q r j) (tv to j).toNat - gm S r j):=by rw [zD,if_neg hpos]
       haveI f1:aO (gv (zD S to q r j) (tv to j).toNat) (1 + j * (L + 1)):=(Gx hf hL j).get zo _
       haveI f2:aO (gm S r j) L:=hf.get hL r j
       have hjl:j * (L + 1) ≤ 9 * (L + 1):=Nat.mul_le_mul_right _ zo
       refine fZ (m:=27) (dp 12 rfl (cX (Ht rfl)) (dp 13 rfl (cX (Ht rfl)) (cL 97 0 98 1 rfl (fY U_36 Z_35 (Ht rfl) (Ht rfl) rfl zo (by rw [Nat.mul_one,Nat.zero_add])) ?_)))
       refine dq 99 2 rfl (iF A_35 Z_35 (Ht rfl) (j:=2) rfl) (dp 7 rfl (cX (Ht rfl)) (dp 14 rfl (cX (Ht rfl)) (cL 101 4 102 5 rfl (dZ U_72 Z_3 (Ht rfl) (Ht rfl) rfl (dY (dU (d:=0) zo))) (dq 103 6 rfl (dJ A_3 Z_3 (Ht rfl)) (dp 12 rfl (cX (Ht rfl)) (dp 13 rfl (cX (Ht rfl)) (cL 105 8 106 9 rfl (fY U_36 Z_35 (Ht rfl) (Ht rfl) rfl zo (by rw [Nat.mul_one,Nat.zero_add])) ?_)))))))
       refine dq 107 10 rfl (iF A_35 Z_35 (Ht rfl) (j:=2) rfl) (dp 7 rfl (cX (Ht rfl)) (dp 14 rfl (cX (Ht rfl)) (cL 109 12 110 13 rfl (dZ U_72 Z_3 (Ht rfl) (Ht rfl) rfl (dY (dU (d:=0) zo))) (dq 111 14 rfl (dJ A_3 Z_3 (Ht rfl)) (cL 108 11 112 15 rfl (cH U_35 Z_131 (Ht rfl) (Ht rfl) hqi (i:=3) rfl (by rw [List.length_map,hrl]; omega) rfl) ?_)))))
       refine dq 113 16 rfl (nN A_131 Z_131 (Ht rfl) (i:=3) rfl rfl (dY (dU (d:=Qi.zero) zo))) (dp 2 rfl (eZ uE (Ht rfl) rfl) (dq 115 18 rfl (eY A_36 Z_36 (Ht rfl) (i:=0) rfl rfl) (dp 13 rfl (cX (Ht rfl)) (cL 116 19 117 20 rfl (dZ U_36 Z_35 (Ht rfl) (Ht rfl) rfl (dY (dU (d:=[]) zo))) (dq 118 21 rfl (dJ A_35 Z_35 (Ht rfl)) (dp 14 rfl (cX (Ht rfl)) (cL 119 22 120 23 rfl (dZ U_35 Z_131 (Ht rfl) (Ht rfl) rfl (dY (dU (d:=Qi.zero) zo))) ?_)))))))
       refine dq 121 24 rfl (dJ A_131 Z_131 (Ht rfl)) (cL 114 17 122 25 rfl (cZ Tryz.call147 (Mr (x:=gv (zD S to q r j) (tv to j).toNat) (y:=gm S r j) (L:=1 + j * (L + 1)) (M:=L) zo) ⟨(Ht rfl),(Ht rfl),trivial⟩) (fV aT rfl (by kernel_rfl) (zF (zF (zF (zF (zF (zF (aJ (aJ (aJ (aV (ro rfl (cH U_35 Z_131 (Ht rfl) (Ht rfl) hqi (i:=3) rfl (by rw [List.length_map,hrl]; omega) rfl) ?_)))))))))))))
       refine jB Z_131 (Ht rfl) (Ht rfl) (El.ag rfl) (i:=3) rfl rfl (by rw [List.length_map,hrl]; omega) rfl ?_
       refine eX (aS (cY (rm rfl (ro rfl (dV (Ht rfl) (cJ 1) z6) (ra rfl (eX (fU (j + 1) hjn zo (zS rfl) (aU (aB rfl) (aU (aB rfl) (aU (fun _ _ _ h=>h) (aU (aD (by rw [fO,hnx])) aY)))))))))))
      ·have hneg : tv to j < 0 := by simp at hg; simp; omega
       have hny:zD S to q r (j + 1) = zD S to q r j:=by rw [zD,if_pos hneg]
       refine cU (aS (cY (rm rfl (ro rfl (dV (Ht rfl) (cJ 1) z6) (ra rfl (eX (fU (j + 1) hjn zo (zS rfl) (aU (aB rfl) (aU (aB rfl) (aU (fun _ _ _ h=>h) (aU (aD (by rw [hny])) aY)))))))))))
     ·have hjq : j = q := by simp only [decide_eq_false_iff_not] at he; omega
      subst hjq
      refine gV rfl (aS (eR 2 3 rfl rfl (by decide) (by simp only [bN,List.length_map,jL]; omega) ?_))
      refine cY (rm rfl (ro rfl (dV (Ht rfl) (cJ 1) z6) (ra rfl (eX (cA [0,1,2] rfl (by decide) (fU (r + 1) hrn zo (zS rfl) (aU (aB rfl) (aU (aB rfl) (aU (bI (by rw [fH,← lJ (f:=fun r=>zD S to j r j)])) aY)))))))))
    ·have hrq : r = q := by simp only [decide_eq_false_iff_not] at hd4; omega
     subst hrq
     rw [lI]
     have hlm:∀ i,i < (uT to r).length → (uT to r).getD i 0 < r:=fun i hi=>Ye (by rw [show (uT to r).getD i 0 = (uT to r)[i] by simp [List.getD,hi]]; exact List.getElem_mem hi)
     have hll:=Hv to r
     obtain ⟨lf,hlf⟩:∃ lf,lf = uT to r:=⟨_,rfl⟩
     rw [← hlf] at hlm hll ⊢
     have hrL:L ≤ 1 + r * (L + 1):=by have:=Nat.mul_le_mul_right (L + 1) h1; omega
     have hrB:1 + r * (L + 1) ≤ 9010:=by have:=Nat.mul_le_mul hn (show L + 1 ≤ 1001 by omega); omega
     have hgr:6 * cE (1 + r * (L + 1)) r + 4 ≤ 17592186044415:=Nat.le_trans (Nat.add_le_add_right (Nat.mul_le_mul_left 6 (Nat.le_trans (Cb hrB r) (lQ 9010 hn))) 4) (by decide)
     refine gV rfl (gJ (i:=2) (tt:=12) rfl rfl (kJ (s:=5) (M:=yF S to r) (aC _ _).symm) (cK (fZ (m:=10) (dp 10 rfl (cX (Ht rfl)) (dq 125 0 rfl (dG U_72 (Ht rfl) aA) (C.D_new (Ei:=[(126,_)]) rfl rfl rfl (bV (bG 1 rfl rfl) bW) (Tl (T:=ZQ) (i:=Tryz.t131) sA mW rfl rfl (Ht rfl) rfl a09 (El.ag rfl) (by show 88 * _ ≤ _; omega) zo) (dp 10 rfl (cX (Ht rfl)) (dq 128 3 rfl (dG U_72 (Ht rfl) aA) (dp 10 rfl (cX (Ht rfl)) (dq 130 5 rfl (dG U_72 (Ht rfl) aA) ?_))))))))))
     refine C.D_new (Ei:=[(129,_),(131,_)]) rfl rfl rfl (bV (bG 4 rfl rfl) (bV (bG 6 rfl rfl) bW)) (Fj Tryz.call129 (Br (n:=lf.length) (m:=lf.length) zo zo) ⟨(Ht rfl),(Ht rfl),trivial⟩) (C.D_dep (fun T U=>eP [T,U]) 2 7 rfl rfl rfl rfl rfl rfl (fun T U hT hU=>by obtain ⟨x,rfl⟩:=hT; obtain ⟨y,rfl⟩:=hU; (try dsimp only); exact dX rfl (Bo (Ht rfl) (Ht rfl))) (C.D_new (Ei:=[]) rfl rfl rfl bW (eW (Ts:=[Is (.slice none 0 0),Is (.slice none 0 0)]) O_38 rfl (fun V=>aW zd (aW zd (aG)))) ?_))
     refine fV aT rfl (by kernel_rfl) (aJ (aJ (C.F_new (fun B127=>aJ (aJ (aJ (aJ (C.F_new (fun B132=>C.F_dep rfl rfl (C.F_new (fun B15=>aV (gQ Z_38 (Ht rfl) (Ht rfl) rfl (i:=5) rfl (aK rfl) rfl rfl (eX (cK (ts (ro rfl (cQ (cJ 0)) (eX (eG (cA [0,1,3,4,5] rfl (by decide) ?_)))))))))))))))))))
     refine bO (fun (y : Nat) => y ≤ lf.length ∧ ∀ j, j < y → Fe (yF S to r) (Gv S r (lf.getD j 0)) r = 0) (fun (y : Nat) => lf.length - y) (fun (y : Nat) => [(2, bR B2 0), (4, bR B4 0), (6, NT .i64 r), (10, dP lf), (12, QM (yF S to r)), (15, bR B15 0), (16, NT .i64 y)]) (fun (y : Nat) => [box B2 38 [oQ z, QM S], box B4 38 [Is (.slice none 0 0), Is (.slice none 0 0)], bH 131 5 (.slice (some ⟨B127, 0, none⟩) lf.length lf.length) (jA (fun y => QT (gv z (lf.getD y 0))) ZQ lf.length y), kE eL B132 35 131 5 (bN QT (uR (Sr S to r lf) lf.length lf.length y 0)), box B15 38 [Is (.slice (some ⟨B127, 0, none⟩) lf.length lf.length), Is (.slice (some ⟨B132, 0, none⟩) lf.length lf.length)]]) 0 ⟨Nat.zero_le _, fun j h => by omega⟩
      (zS rfl) (aU (aB rfl) (aU (aB rfl) (aU (aD (by rw [← gH]; exact xK _ _)) (aU (bI (by rw [zN,← Su]; rfl)) (aU (aB rfl) aY))))) (fun y ⟨hy,h0⟩=>?_)
     refine cK (ts (rm rfl (rm rfl (ro rfl (dG U_72 (Ht rfl) aA) (ro rfl (gX (Ht rfl) (Ht rfl)) (eX (dQ (Ht rfl) (fun hyc=>?_) (fun hyc=>?_))))))))
     ·have hyn : y < lf.length := by simp only [decide_eq_true_eq] at hyc; omega
      have hly:=hlm y hyn
      refine cU (cK (eG (cK (fZ (m:=11) (dp 15 rfl (eZ kU (Ht rfl) rfl) (dq 140 0 rfl (Rc A_35 Z_35 (Ht rfl) (i:=4) rfl rfl) (dp 16 rfl (cX (Ht rfl)) (dp 2 rfl (eZ kU (Ht rfl) rfl) (dq 143 3 rfl (eY A_35 Z_35 (Ht rfl) (i:=0) rfl rfl) (dp 10 rfl (cX (Ht rfl)) (dp 16 rfl (cX (Ht rfl)) (cL 145 5 146 6 rfl (dZ U_72 Z_3 (Ht rfl) (Ht rfl) rfl (dY (dU (d:=0) zo))) (dq 147 7 rfl (dJ A_3 Z_3 (Ht rfl)) (cL 144 4 148 8 rfl (dZ U_35 Z_131 (Ht rfl) (Ht rfl) rfl (dY (dU (d:=Qi.zero) zo))) ?_))))))))))))))
      refine dq 149 9 rfl (dJ A_131 Z_131 (Ht rfl)) (fV aT rfl (by kernel_rfl) (zF (zF (aJ (aJ (aJ (aV (ro rfl (cH U_35 Z_131 (Ht rfl) (Ht rfl) rfl (i:=2) rfl (by rw [dC]; omega) rfl) ?_))))))))
      refine jB Z_131 (Ht rfl) (Ht rfl) (El.ag rfl) (i:=2) rfl rfl (by rw [dC]; omega) rfl ?_
      refine eX (ts (rm rfl (rn rfl (jF (T:=ZQ) (i:=Tryz.t131) sA mW rfl rfl (Ht rfl) rfl a09 (El.ag rfl) (by show 88 * _ ≤ _; omega) zo) fun B153=>(ra rfl (eX (cK (ts (ro rfl (cQ (cJ 0)) (eX (eG ?_))))))))))
      refine bO (fun (i2 : Nat) => i2 ≤ r) (fun (i2 : Nat) => r - i2) (fun (i2 : Nat) => [(2, bR B2 0), (4, bR B4 0), (6, NT .i64 r), (10, dP lf), (12, QM (yF S to r)), (15, bR B15 0), (16, NT .i64 y), (17, Is B153), (18, NT .i64 i2)]) (fun (i2 : Nat) => [box B2 38 [oQ z, QM S], box B4 38 [Is (.slice none 0 0), Is (.slice none 0 0)], bH 131 5 (.slice (some ⟨B127, 0, none⟩) lf.length lf.length) (jA (fun y => QT (gv z (lf.getD y 0))) ZQ lf.length (y + 1)), kE eL B132 35 131 5 (bN QT (uR (Sr S to r lf) lf.length lf.length y 0)), box B15 38 [Is (.slice (some ⟨B127, 0, none⟩) lf.length lf.length), Is (.slice (some ⟨B132, 0, none⟩) lf.length lf.length)], bH 131 5 B153 (jA (fun i => QT (gm S i (lf.getD y 0))) ZQ r i2)]) 0 (Nat.zero_le _)
       (zS rfl) (aU (aB rfl) (aU (aB rfl) (aU (aD (iQ (f:=(fun y=>QT (gv z (lf.getD y 0)))))) (aU (fun _ _ _ h=>h) (aU (aB rfl) (aU (aD (by rw [← gH]; exact xK _ _)) aY)))))) (fun i2 hi2=>?_)
      refine cK (ts (rm rfl (rm rfl (ro rfl (gX (Ht rfl) (Ht rfl)) (eX (dQ (Ht rfl) (fun hic=>?_) (fun hic=>?_)))))))
      ·have hin : i2 < r := by simp only [decide_eq_true_eq] at hic; omega
       have hsr:=hS.row hin
       refine cU (cK (eG (fZ (m:=13) (dp 17 rfl (cX (Ht rfl)) (dp 18 rfl (cX (Ht rfl)) (dp 2 rfl (eZ uE (Ht rfl) rfl) (dq 161 2 rfl (eY A_36 Z_36 (Ht rfl) (i:=0) rfl rfl) (dp 18 rfl (cX (Ht rfl)) (cL 162 3 163 4 rfl (dZ U_36 Z_35 (Ht rfl) (Ht rfl) rfl (dY (dU (d:=[]) zo))) (dq 164 5 rfl (dJ A_35 Z_35 (Ht rfl)) (dp 10 rfl (cX (Ht rfl)) (dp 16 rfl (cX (Ht rfl)) (cL 166 7 167 8 rfl (dZ U_72 Z_3 (Ht rfl) (Ht rfl) rfl (dY (dU (d:=0) zo))) ?_)))))))))))))
       refine dq 168 9 rfl (dJ A_3 Z_3 (Ht rfl)) (cL 165 6 169 10 rfl (dZ U_35 Z_131 (Ht rfl) (Ht rfl) rfl (dY (dU (d:=Qi.zero) zo))) (dq 170 11 rfl (dJ A_131 Z_131 (Ht rfl)) (fV aT rfl (by kernel_rfl) (zF (zF (zF (aJ (aV (ro rfl (cH U_35 Z_131 (Ht rfl) (Ht rfl) rfl (i:=5) rfl (by rw [dC]; omega) rfl) ?_)))))))))
       refine jB Z_131 (Ht rfl) (Ht rfl) (El.ag rfl) (i:=5) rfl rfl (by rw [dC]; omega) rfl ?_
       refine eX (aS (cY (rm rfl (ro rfl (dV (Ht rfl) (cJ 1) z6) (ra rfl (eX (fU (i2 + 1) hin zo (zS rfl) (aU (aB rfl) (aU (aB rfl) (aU (fun _ _ _ h=>h) (aU (fun _ _ _ h=>h) (aU (aB rfl) (aU (aD (iQ (f:=(fun i=>QT (gm S i (lf.getD y 0)))))) aY)))))))))))))
      ·have hir : i2 = r := by simp only [decide_eq_false_iff_not] at hic; omega
       rw [hir,iP,show (tab r fun i=>QT (gm S i (lf.getD y 0))) = (Gv S r (lf.getD y 0)).map QT from by rw [Gv,rY]]
       refine gV rfl (gJ (i:=5) (tt:=17) rfl rfl eC (ts (rm rfl (rm rfl (ro rfl (cZ Tryz.call201 (Jb (M:=yF S to r) (b:=Gv S r (lf.getD y 0)) (n:=r) (L:=1 + r * (L + 1)) (zY S to r) (aC _ _) (a0P hf hL) ((a0O hf hL).le hrL) zo h1 zo hgr) ⟨(Ht rfl),(Ht rfl),trivial⟩) (rm rfl (ro rfl (dK (Ht rfl) rfl) (ro rfl (dK (Ht rfl) rfl) (ra rfl (ra rfl (eX (cK (ts (rm rfl (ro rfl (kR (Ht rfl) cV) (eX (dQ (Ht rfl) (fun hez=>?_) (fun hez=>?_))))))))))))))))))
       ·have hez2 : Fe (yF S to r) (Gv S r (lf.getD y 0)) r ≠ 0 := by simp at hez; exact hez
        have hcE:Uq S to r lf ≠ 0:=by rw [Uq,lP (f:=fun y=>Fe (yF S to r) (Gv S r (lf.getD y 0)) r) h0 hez2 hyn]; exact hez2
        refine ts (ro rfl (aL.imp (tT ) rH) (gQ Z_38 (Ht rfl) (Ht rfl) rfl (i:=1) rfl (aK rfl) rfl rfl (ro rfl (cQ cV) (eX (bM rfl (fX (fK A_38 Z_38 rfl (i:=1) rfl rfl) ?_) (fX (eU rfl) ?_))))))
        ·exact (a4x hcE)
        ·exact (eH (by simp [hcE]))
       ·have hez2 : Fe (yF S to r) (Gv S r (lf.getD y 0)) r = 0 := by simp at hez; exact hez
        have hgl:(Te (yF S to r) (Gv S r (lf.getD y 0)) r).length = r:=a10 (zY S to r) hez2
        refine cU (ts (ro rfl (cQ (cJ 0)) (eX (eG (cA [0,1,2,3,4] rfl (by decide) ?_)))))
        refine bO (fun (x : Nat) => x ≤ lf.length) (fun (x : Nat) => lf.length - x) (fun (x : Nat) => [(2, bR B2 0), (4, bR B4 0), (6, NT .i64 r), (10, dP lf), (12, QM (yF S to r)), (15, bR B15 0), (16, NT .i64 y), (19, oQ (Te (yF S to r) (Gv S r (lf.getD y 0)) r)), (21, NT .i64 x)]) (fun (x : Nat) => [box B2 38 [oQ z, QM S], box B4 38 [Is (.slice none 0 0), Is (.slice none 0 0)], bH 131 5 (.slice (some ⟨B127, 0, none⟩) lf.length lf.length) (jA (fun y => QT (gv z (lf.getD y 0))) ZQ lf.length (y + 1)), kE eL B132 35 131 5 (bN QT (uR (Sr S to r lf) lf.length lf.length y x)), box B15 38 [Is (.slice (some ⟨B127, 0, none⟩) lf.length lf.length), Is (.slice (some ⟨B132, 0, none⟩) lf.length lf.length)]]) 0 (Nat.zero_le _)
         (zS rfl) (aU (aB rfl) (aU (aB rfl) (aU (fun _ _ _ h=>h) (aU (fun _ _ _ h=>h) (aU (aB rfl) aY))))) (fun x hx=>?_)
        refine cK (ts (rm rfl (rm rfl (ro rfl (dG U_72 (Ht rfl) aA) (ro rfl (gX (Ht rfl) (Ht rfl)) (eX (dQ (Ht rfl) (fun hxc=>?_) (fun hxc=>?_))))))))
        ·have hxn : x < lf.length := by simp only [decide_eq_true_eq] at hxc; omega
         have hlx:=hlm x hxn
         have hpl:=(sO (Sr S to r lf) lf.length lf.length y x).1
         have hpr:((uR (Sr S to r lf) lf.length lf.length y x).getD x []).length = lf.length:=(sO (Sr S to r lf) lf.length lf.length y x).row hxn
         refine jV 3 (x) rfl (mV zo) (fun v hv=>(cU (cK (eG (fZ (m:=13) (dp 15 rfl (eZ uE (Ht rfl) rfl) (dq 188 0 rfl (eY A_36 Z_36 (Ht rfl) (i:=4) rfl rfl) (dp 21 rfl (cX (Ht rfl)) (cL 189 1 190 2 rfl (fY U_36 Z_35 (Ht rfl) (Ht rfl) rfl zo (by rw [Nat.mul_one,Nat.zero_add])) ?_)))))))))
         refine dq 191 3 rfl (iF A_35 Z_35 (Ht rfl) (j:=3) rfl) (dp 16 rfl (cX (Ht rfl)) (dp 19 rfl (cX (Ht rfl)) (dp 10 rfl (cX (Ht rfl)) (dp 21 rfl (cX (Ht rfl)) (cL 195 7 196 8 rfl (dZ U_72 Z_3 (Ht rfl) (Ht rfl) rfl (dY (dU (d:=0) zo))) (dq 197 9 rfl (dJ A_3 Z_3 (Ht rfl)) (cL 194 6 198 10 rfl (dZ U_35 Z_131 (Ht rfl) (Ht rfl) rfl (dY (dU (d:=Qi.zero) zo))) (dq 199 11 rfl (dJ A_131 Z_131 (Ht rfl)) (fV aT rfl (by kernel_rfl) (zF (zF (zF (aJ (aV ?_))))))))))))))
         refine ro rfl (cH U_35 Z_131 (Ht rfl) (Ht rfl) rfl (i:=5) rfl (by rw [List.length_map]; omega) rfl) ?_
         refine jB Z_131 (Ht rfl) (Ht rfl) (El.ag rfl) (i:=5) rfl rfl (by rw [List.length_map]; omega) rfl ?_
         refine eX (aS (eR 3 5 rfl rfl (by decide) (by simp only [bN,List.length_map]; omega) ?_))
         refine cY (rm rfl (ro rfl (dV (Ht rfl) (cJ 1) z6) (ra rfl (eX (cA [0,1,2,3,4] rfl (by decide) (fU (x + 1) hxn zo (zS rfl) (aU (aB rfl) (aU (aB rfl) (aU (fun _ _ _ h=>h) (aU (bI (by rw [fO,fH]; exact congrArg _ (Ss (val:=Sr S to r lf) hxn hyn))) (aU (aB rfl) aY)))))))))))
        ·have hxl : x = lf.length := by simp only [decide_eq_false_iff_not] at hxc; omega
         rw [hxl,Wv]
         refine gV rfl (aS (cY (rm rfl (ro rfl (dV (Ht rfl) (cJ 1) z6) (ra rfl (eX ?_))))))
         refine fU (y + 1) ⟨hyn, fun j h => by
          by_cases e:j = y
          ·rw [e]; exact hez2
          ·exact h0 j zo⟩ zo (zS rfl) (aU (aB rfl) (aU (aB rfl) (aU (fun _ _ _ h=>h) (aU (fun _ _ _ h=>h) (aU (aB rfl) aY)))))
     ·have hyl : y = lf.length := by simp only [decide_eq_false_iff_not] at hyc; omega
      rw [hyl,iP,Ww]
      have hcE:Uq S to r lf = 0:=gM (by rw [hyl] at h0; exact h0)
      have hZ:(tab lf.length fun y=>QT (gv z (lf.getD y 0))) = (lf.map fun l=>gv z l).map QT:=by rw [List.map_map]; exact tP lf (fun l=>QT (gv z l))
      refine gV rfl (cK (Em 4 2 0 rfl rfl rfl (by decide) (Bj 4 3 1 rfl rfl rfl (by decide) (a4E (q:=eL) (M:=tab lf.length fun x=>tab lf.length fun y=>Sr S to r lf x y) (aC _ _).symm) (cY (ro rfl (eJ A_38 Z_38 (Ht rfl) (i:=4) rfl rfl rfl) (gQ Z_38 (Ht rfl) (Ht rfl) rfl (i:=1) rfl (aK rfl) rfl rfl (ro rfl (cQ cV) (eX (bM rfl (fX (fK A_38 Z_38 rfl (i:=1) rfl rfl) ?_) (fX (eU rfl) ?_))))))))))
      ·exact (a3d hcE hZ rfl)
      ·exact (eH (by simp [hcE]))
end
section
open Go Go.RowKit
def wA (A:List (List Qi)) (c i j:Nat):Qi:=if j < c ∧ j < i then 0 else gm A i j
def wB (F:Nat → Nat → Qi) (n m:Nat) (x:Nat → Qi):Prop:=∀ i,i < n → aH m (fun k=>F i k * x k) = 0
theorem Ch {F G:Nat → Nat → Qi} {n m:Nat} {x:Nat → Qi} (h:∀ i,i < n → ∀ j,j < m → F i j = G i j):wB F n m x ↔ wB G n m x:=by
 have e:∀ i,i < n → aH m (fun k=>F i k * x k) = aH m (fun k=>G i k * x k):=fun i hi=>bA fun k hk=>by rw [h i hi k hk]
 exact ⟨fun k i hi=>by rw [← e i hi]; exact k i hi,fun k i hi=>by rw [e i hi]; exact k i hi⟩
def Rv (p c i:Nat):Nat:=if i = c then p else if i = p then c else i
theorem Ig {p c i n:Nat} (hp:p < n) (hc:c < n) (hi:i < n):Rv p c i < n:=by unfold Rv; split <;> (try split) <;> omega
theorem Rw (p c i:Nat):Rv p c (Rv p c i) = i:=by
 unfold Rv
 by_cases e1:i = c
 ·subst e1
  rw [if_pos rfl]
  by_cases e2:p = i
  ·rw [if_pos e2]; exact e2
  ·rw [if_neg e2,if_pos rfl]
 ·rw [if_neg e1]
  by_cases e2:i = p
  ·subst e2; rw [if_pos rfl,if_pos rfl]
  ·rw [if_neg e2,if_neg e1,if_neg e2]
theorem Kh {F : Nat → Nat → Qi} {n m p c : Nat} {x : Nat → Qi} (hp : p < n) (hc : c < n) : wB (fun i => F (Rv p c i)) n m x ↔ wB F n m x :=
 ⟨fun h i hi=>by have:=h _ (Ig hp hc hi); simp only [Rw] at this; exact this,fun h i hi=>h _ (Ig hp hc hi)⟩
theorem Yd {F G:Nat → Nat → Qi} {n m c:Nat} {x f:Nat → Qi} (hc:c < n) (hG:∀ i,i < n → ∀ j,j < m → G i j = if c < i then F i j - f i * F c j else F i j):wB G n m x ↔ wB F n m x:=by
 have key : ∀ i, i < n → aH m (fun k => G i k * x k) = if c < i then aH m (fun k => F i k * x k) - f i * aH m (fun k => F c k * x k) else aH m (fun k => F i k * x k) := fun i hi => by
  by_cases e:c < i
  ·rw [if_pos e, ← rI]
   exact bA fun k hk=>by rw [hG i hi k hk,if_pos e]; grind
  ·rw [if_neg e]
   exact bA fun k hk=>by rw [hG i hi k hk,if_neg e]
 have kc:=key c hc
 rw [if_neg zo] at kc
 constructor
 ·intro h i hi
  have h0:=h c hc
  rw [kc] at h0
  have h1:=h i hi
  rw [key i hi] at h1
  by_cases e:c < i
  ·rw [if_pos e,h0] at h1; grind
  ·rw [if_neg e] at h1; exact h1
 ·intro h i hi
  rw [key i hi]
  by_cases e:c < i
  ·rw [if_pos e,h i hi,h c hc]; grind
  ·rw [if_neg e]; exact h i hi
theorem a1Q {M:List (List Qi)} {n m c i j:Nat} (h:dT M n m) (hi:i < n) (hj:j < m):gm (nG M c n) i j = if c < i ∧ c < j then gm M i j - gm M i c / gm M c c * gm M c j else gm M i j:=by
 have hr:(dD M i).length = m:=h.row hi
 have e0 : dD (nG M c n) i = if c < i ∧ i < n then mC (dD M i) (dD M c) c (dD M i).length else dD M i := by
  simp only [dD,nG,List.getD]; rw [bS (by rw [h.1]; exact hi)]; rfl
 show gv (dD (nG M c n) i) j = _
 rw [e0]
 by_cases e:c < i
 ·rw [if_pos ⟨e, hi⟩, mC, mJ zo]
  by_cases e2:c < j
  ·rw [if_pos ⟨e2,by omega⟩,if_pos ⟨e,e2⟩]
  ·rw [if_neg (fun k=>e2 k.1),if_neg (fun k=>e2 k.2)]
 ·rw [if_neg (fun k=>e k.1),if_neg (fun k=>e k.1)]
theorem a0J {A:List (List Qi)} {p c i j:Nat} (hc:c < A.length) (hp:p < A.length) (hcp:c ≤ p):wA (swp [] A p c) c i j = wA A c (Rv p c i) j:=by
 have key:gm (swp [] A p c) i j = gm A (Rv p c i) j:=congrArg (fun r=>gv r j) (Oc zo zo)
 unfold wA
 rw [key]
 have e:(j < c ∧ j < i) ↔ (j < c ∧ j < Rv p c i):=by unfold Rv; split <;> (try split) <;> omega
 by_cases h:j < c ∧ j < i
 ·rw [if_pos h,if_pos (e.1 h)]
 ·rw [if_neg h,if_neg (fun k=>h (e.2 k))]
structure EL (M A:List (List Qi)) (n m c:Nat):Prop where
 sh:dT A n m
 ker:∀ x,wB (wA A c) n m x ↔ wB (gm M) n m x
theorem EL.next {M A:List (List Qi)} {n m c p:Nat} (h:EL M A n m c) (hc:c < n) (hcm:c < m) (hcp:c ≤ p) (hp:p < n) (hz:gm A p c ≠ 0):EL M (nG (if p = c then A else swp [] A p c) c n) n m (c + 1):=by
 have hl:=h.sh.1
 obtain ⟨B,hB⟩:∃ B,B = if p = c then A else swp [] A p c:=⟨_,rfl⟩
 have hs : dT B n m := by
  rw [hB]; split
  ·exact h.sh
  ·exact xQ h.sh hp hc
 have hBk : ∀ x, wB (wA B c) n m x ↔ wB (gm M) n m x := fun x => by
  rw [hB]; split
  ·exact h.ker x
  ·exact (Ch (G:=fun i=>wA A c (Rv p c i)) fun i hi j hj=>a0J zo zo hcp).trans ((Kh hp hc).trans (h.ker x))
 have hBz : gm B c c ≠ 0 := by
  rw [hB]; split
  ·rename_i e; rw [← e] at hz ⊢; exact hz
  ·show gv (dD (swp [] A p c) c) c ≠ 0
   rw [yX zo]; exact hz
 rw [← hB]
 refine ⟨Kz hs,fun x=>(Yd (f:=fun i=>gm B i c / gm B c c) hc fun i hi j hj=>?_).trans (hBk x)⟩
 have hd:=yI (x:=gm B i c) hBz
 unfold wA
 rw [a1Q hs hi hj]
 by_cases e:c < i
 ·rw [if_pos e]
  by_cases e1:j < c
  ·rw [if_pos zo,if_pos zo,if_pos zo]; grind
  ·by_cases e2 : j = c
   ·subst e2
    rw [if_pos zo,if_neg zo,if_neg zo]; grind
   ·rw [if_neg zo,if_pos zo,if_neg zo,if_neg zo]
 ·rw [if_neg e, if_neg (show ¬ (c < i ∧ c < j) from fun k => e k.1)]
  by_cases e1:j < i
  ·rw [if_pos (show j < c + 1 ∧ j < i by omega),if_pos (show j < c ∧ j < i by omega)]
  ·rw [if_neg (show ¬ (j < c + 1 ∧ j < i) by omega),if_neg (show ¬ (j < c ∧ j < i) by omega)]
theorem Gz {M : List (List Qi)} {n m : Nat} (hs : dT M n m) (hnm : n ≤ m) : ∀ {c : Nat}, c ≤ n → (dI M c).2.2 < 0 → EL M (dI M c).1 n m c
 | 0,_,_=>⟨hs,fun x=>Ch fun i _ j _=>by unfold wA; rw [if_neg zo]; rfl⟩
 | c + 1, hc, h => by
  obtain ⟨i1,i2,i3,i4⟩:=nC (M:=(dI M c).1) (c:=c) (n:=M.length) (by rw [hs.1]; omega)
  simp only [dI] at h ⊢
  by_cases e:0 ≤ (dI M c).2.2
  ·rw [if_pos e] at h; omega
  ·rw [if_neg e] at h ⊢
   have ih:=Gz hs hnm (c:=c) zo zo
   by_cases e2:pv (dI M c).1 c M.length = M.length
   ·rw [if_pos e2] at h; simp only at h; omega
   ·rw [if_neg e2]
    rw [hs.1] at i3 i4 e2 ⊢
    exact ih.next zo zo (by rw [hs.1] at i2; exact i2) zo (i4 zo)
theorem Fb {M : List (List Qi)} : ∀ {n : Nat}, 0 ≤ (dI M n).2.2 → ∃ c, c < n ∧ (dI M c).2.2 < 0 ∧ pv (dI M c).1 c M.length = M.length
 | 0,h=>absurd h (by show ¬ (0:Int) ≤ -1; omega)
 | c + 1, h => by
  by_cases e:0 ≤ (dI M c).2.2
  ·obtain ⟨d, h1, h2⟩ := Fb e
   exact ⟨d,by omega,h2⟩
  ·simp only [dI] at h
   rw [if_neg e] at h
   by_cases e2:pv (dI M c).1 c M.length = M.length
   ·exact ⟨c,by omega,by omega,e2⟩
   ·rw [if_neg e2] at h; simp only at h; omega
theorem vX {U : List (List Qi)} {x y : List Qi} {n c : Nat} : ∀ {K : Nat}, (∀ k, k < K → gv x (c + 1 + k) = gv y (c + 1 + k)) → oH U x n c K = oH U y n c K
 | 0,_=>rfl
 | K + 1,h=>by rw [oH,oH,vX (fun k hk=>h k zo),h K zo]
theorem Lo (U : List (List Qi)) (x : List Qi) (n c : Nat) : ∀ K, oH U x n c K = gm U c n - aH K (fun k => gm U c (c + 1 + k) * gv x (c + 1 + k))
 | 0=>by simp only [oH,aH,q0]; grind
 | K + 1=>by simp only [oH,aH,Lo U x n c K]; grind
theorem Vq {U : List (List Qi)} {n : Nat} : ∀ {j : Nat}, j ≤ n → ∀ c, n - j ≤ c → c < n → gv (pU U n j) c = oH U (pU U n j) n c (n - 1 - c) / gm U c c
 | 0,_,c,h1,h2=>by omega
 | j + 1, hj, c, h1, h2 => by
  have hl:=wD U n j
  rw [pU]
  by_cases e:c = n - (j + 1)
  ·subst e
   rw [yM zo,if_pos rfl,show n - 1 - (n - (j + 1)) = j by omega]
   rw [vX (x:=(pU U n j).set _ _) (y:=pU U n j) fun k hk=>by rw [yM zo,if_neg zo]]
  ·rw [yM zo, if_neg e, Vq (j := j) zo c zo h2]
   rw [vX (x:=(pU U n j).set _ _) (y:=pU U n j) fun k hk=>by rw [yM zo,if_neg zo]]
theorem tO (a : Nat) (f : Nat → Qi) : ∀ b, aH (a + b) f = aH a f + aH b fun k => f (a + k)
 | 0=>by simp only [aH,q0,Nat.add_zero]; grind
 | b + 1=>by rw [← Nat.add_assoc]; simp only [aH,tO a f b]; grind
theorem Rz {U:List (List Qi)} {n i:Nat} (hi:i < n) (y:Nat → Qi):aH n (fun k=>wA U n i k * y k) = gm U i i * y i + aH (n - 1 - i) fun k=>gm U i (i + 1 + k) * y (i + 1 + k):=by
 have e:n = i + 1 + (n - 1 - i):=by omega
 have h1:aH i (fun k=>wA U n i k * y k) = 0:=kP fun k hk=>by unfold wA; rw [if_pos zo]; grind
 have h2:wA U n i i = gm U i i:=by unfold wA; rw [if_neg zo]
 have h3:aH (n - 1 - i) (fun k=>wA U n i (i + 1 + k) * y (i + 1 + k)) = aH (n - 1 - i) fun k=>gm U i (i + 1 + k) * y (i + 1 + k):=bA fun k hk=>by unfold wA; rw [if_neg zo]
 have h4:=tO (i + 1) (fun k=>wA U n i k * y k) (n - 1 - i)
 rw [← e] at h4
 rw [h4,h3]
 simp only [aH,h1,h2]; grind
theorem Ry {U:List (List Qi)} {n i:Nat} (hd:∀ j,j < n → gm U j j ≠ 0) (hi:i < n):aH n (fun k=>wA U n i k * gv (pU U n n) k) = gm U i n:=by
 rw [Rz hi,Vq (Nat.le_refl n) i zo hi,Lo]
 have:=yI (x:=gm U i n - aH (n - 1 - i) (fun k=>gm U i (i + 1 + k) * gv (pU U n n) (i + 1 + k))) (hd i hi)
 grind
theorem Ls {U : List (List Qi)} {n : Nat} (hd : ∀ j, j < n → gm U j j ≠ 0) {y : Nat → Qi} (h : ∀ i, i < n → aH n (fun k => wA U n i k * y k) = 0) : ∀ t k, n - t ≤ k → k < n → y k = 0
 | 0,k,h1,h2=>by omega
 | t + 1, k, h1, h2 => by
  have h3:=h k h2
  rw [Rz h2,kP (fun j hj=>by rw [Ls hd h t (k + 1 + j) zo zo]; grind)] at h3
  rcases nZ (x:=gm U k k) (y:=y k) (by grind) with h4 | h4
  ·exact absurd h4 (hd k h2)
  ·exact h4
theorem oD {M:List (List Qi)} {b:List Qi} {n:Nat} (h:dT M n n) (hE:kA M b n = 0):(∀ i,i < n → aH n (fun k=>gm M i k * gv (lB M b n) k) = gv b i) ∧ ∀ y:Nat → Qi,(∀ i,i < n → aH n (fun k=>gm M i k * y k) = 0) → ∀ k,k < n → y k = 0:=by
 have hcs:dT (kB M [b] n) n (n + 1):=lN h
 have hst : (uU M b n).2.2 < 0 := by
  unfold kA at hE
  by_cases e:0 ≤ (uU M b n).2.2
  ·rw [if_pos e] at hE; omega
  ·omega
 have hg:=Gz hcs (Nat.le_succ n) (Nat.le_refl n) hst
 have hd:=qV hcs (Nat.le_refl n) hst
 obtain ⟨U,hU⟩:∃ U,U = (uU M b n).1:=⟨_,rfl⟩
 have hX:lB M b n = pU U n n:=by rw [hU]; rfl
 have hU2:(dI (kB M [b] n) n).1 = U:=hU.symm
 rw [hU2] at hg hd
 rw [hX]
 refine ⟨fun i hi=>?_,fun y hy k hk=>?_⟩
 ·have h1 := (hg.ker fun k => if k < n then gv (pU U n n) k else -1).1 (fun i hi => by
   simp only [aH]
   rw [bA (g:=fun k=>wA U n i k * gv (pU U n n) k) (fun k hk=>by rw [if_pos hk]),Ry hd hi,if_neg zo,show wA U n i n = gm U i n by unfold wA; rw [if_neg zo]]
   grind) i hi
  rw [yH h hi,bA (g:=fun k=>gm M i k * gv (pU U n n) k) (fun k hk=>by rw [if_pos hk]),if_neg zo] at h1
  grind
 ·have h1 := (hg.ker fun k => if k < n then y k else 0).2 (fun i hi => by
   rw [yH h hi,bA (g:=fun k=>gm M i k * y k) (fun k hk=>by rw [if_pos hk]),if_neg zo,hy i hi]; grind)
  refine Ls (y:=y) hd (fun i hi=>?_) n k zo hk
  have h2:=h1 i hi
  simp only [aH] at h2
  rw [bA (g:=fun k=>wA U n i k * y k) (fun k hk=>by rw [if_pos hk]),if_neg zo] at h2
  grind
theorem xP {M:List (List Qi)} {b:List Qi} {n:Nat} (h:dT M n n) (hE:kA M b n ≠ 0):∃ y:Nat → Qi,(∀ i,i < n → aH n (fun k=>gm M i k * y k) = 0) ∧ ∃ k,k < n ∧ y k ≠ 0:=by
 have hcs:dT (kB M [b] n) n (n + 1):=lN h
 have hst : 0 ≤ (uU M b n).2.2 := by
  unfold kA at hE
  by_cases e:0 ≤ (uU M b n).2.2
  ·exact e
  ·rw [if_neg e] at hE; exact absurd rfl hE
 obtain ⟨c,hc,hA,hp⟩:=Fb hst
 have hg:=Gz hcs (Nat.le_succ n) zo hA
 have hd:=qV hcs zo hA
 obtain ⟨U,hU⟩:∃ U,U = (dI (kB M [b] n) c).1:=⟨_,rfl⟩
 rw [← hU] at hg hd hp
 rw [hcs.1] at hp
 have hz:=(nC (M:=U) (c:=c) (n:=n) zo).1
 rw [hp] at hz
 have key := (hg.ker fun k => if k < c then gv (pU U c c) k else if k = c then -1 else 0).1 (fun i hi => by
  have e:n + 1 = c + (1 + (n - c)):=by omega
  rw [e,tO,tO]
  have z3:aH (n - c) (fun k=>wA U c i (c + (1 + k)) * (if c + (1 + k) < c then gv (pU U c c) (c + (1 + k)) else if c + (1 + k) = c then -1 else 0)) = 0:=kP fun k hk=>by rw [if_neg zo,if_neg zo]; grind
  have z2 : aH 1 (fun k => wA U c i (c + k) * (if c + k < c then gv (pU U c c) (c + k) else if c + k = c then -1 else 0)) = wA U c i c * -1 := by
   rw [Da,if_neg zo,if_pos zo]; rfl
  have z1:aH c (fun k=>wA U c i k * (if k < c then gv (pU U c c) k else if k = c then -1 else 0)) = aH c (fun k=>wA U c i k * gv (pU U c c) k):=bA fun k hk=>by rw [if_pos hk]
  rw [z1,z2,z3]
  have zc:wA U c i c = gm U i c:=by unfold wA; rw [if_neg zo]
  rw [zc]
  by_cases e2:i < c
  ·rw [Ry hd e2]; grind
  ·rw [hz i zo hi,kP (fun k hk=>by unfold wA; rw [if_pos zo]; grind),q0]; grind)
 refine ⟨fun k=>if k < c then gv (pU U c c) k else if k = c then -1 else 0,fun i hi=>?_,c,hc,?_⟩
 ·have h1 := key i hi
  rw [yH h hi,if_neg zo,if_neg zo] at h1
  grind
 ·show (if c < c then gv (pU U c c) c else if c = c then (-1 : Qi) else 0) ≠ 0
  rw [if_neg zo,if_pos rfl]
  intro e
  exact absurd (congrArg Qi.re e) (by decide)
theorem a3W {M:List (List Qi)} {b:List Qi} {n:Nat} (h:dT M n n):kA M b n = Fe M b n ∧ (kA M b n = 0 → lB M b n = Te M b n):=by
 by_cases hE:kA M b n = 0
 ·obtain ⟨h1, h2⟩ := oD h hE
  cases hX:Py M b n with
  | none =>
   obtain ⟨y,h3,k,h4,h5⟩:=Kb h hX
   exact absurd (h2 y h3 k h4) h5
  | some X =>
   obtain ⟨h3,h4,_⟩:=sU h hX
   refine ⟨by rw [hE]; simp only [Fe,hX,Option.isSome_some,if_true],fun _=>?_⟩
   simp only [Te,hX,Option.getD_some]
   have hk : ∀ k, k < n → gv (lB M b n) k = gv X k := fun k hk => by
    have := h2 (fun k => gv (lB M b n) k - 1 * gv X k) (fun i hi => by
     have e:aH n (fun k=>gm M i k * (gv (lB M b n) k - 1 * gv X k)) = aH n (fun k=>gm M i k * gv (lB M b n) k - 1 * (gm M i k * gv X k)):=bA fun k _=>by grind
     rw [e,rI,h1 i hi,h4 i hi]; grind) k hk
    grind
   have hl:(lB M b n).length = n:=wD _ _ _
   apply List.ext_getElem?
   intro k
   by_cases c:k < n
   ·have := hk k c
    simp only [gv,List.getD] at this
    rw [List.getElem?_eq_getElem zo,List.getElem?_eq_getElem zo] at this ⊢
    exact congrArg some this
   ·rw [List.getElem?_eq_none zo,List.getElem?_eq_none zo]
 ·obtain ⟨y, h3, k, h4, h5⟩ := xP (b := b) h hE
  have h6 : kA M b n = 6 := by
   unfold kA at hE ⊢
   split
   ·rfl
   ·rename_i e; rw [if_neg e] at hE; exact absurd rfl hE
  refine ⟨?_,fun e=>absurd e hE⟩
  cases hX:Py M b n with
  | none=>rw [h6]; simp only [Fe,hX,Option.isSome_none]; rfl
  | some X =>
   obtain ⟨_,_,h7⟩:=sU h hX
   exact absurd (h7 y h3 k h4) h5
end
section
open Go Go.RowKit
def gq (ps:List (Nat × Nat)) (x:Nat):Nat:=if x % 2 = 0 then pA ps (x / 2) else pB ps (x / 2)
def iN (x:Nat):Nat:=if x % 2 = 0 then x + 1 else x - 1
theorem Rj (x:Nat):iN (iN x) = x:=by unfold iN; split <;> split <;> omega
theorem nO {x k:Nat} (h:x < 2 * k):iN x < 2 * k:=by unfold iN; split <;> omega
theorem rQ (ps:List (Nat × Nat)) (k:Nat):gq ps (2 * k) = pA ps k:=by unfold gq; rw [if_pos zo,show 2 * k / 2 = k by omega]
theorem vM (ps:List (Nat × Nat)) (k:Nat):gq ps (2 * k + 1) = pB ps k:=by unfold gq; rw [if_neg zo,show (2 * k + 1) / 2 = k by omega]
structure Jn (ps:List (Nat × Nat)) (n K:Nat):Prop where
 lt:∀ x,x < 2 * K → gq ps x < n
 inj:∀ x y,x < 2 * K → y < 2 * K → gq ps x = gq ps y → x = y
theorem Jn.le {ps:List (Nat × Nat)} {n K k:Nat} (h:Jn ps n K) (hk:k ≤ K):Jn ps n k:=⟨fun x hx=>h.lt x zo,fun x y hx hy=>h.inj x y zo zo⟩
theorem a04 {l:List Int} {t j:Nat} {v:Int} (ht:t < l.length):tv (l.set t v) j = if j = t then v else tv l j:=by
 simp only [tv,List.getD]
 by_cases e:j = t
 ·subst e; rw [if_pos rfl,List.getElem?_set_self ht]; rfl
 ·rw [if_neg e,List.getElem?_set_ne (Ne.symm e)]
theorem Qm {ps : List (Nat × Nat)} {n : Nat} : ∀ {k : Nat}, Jn ps n k → (∀ x, x < 2 * k → tv (qP n ps k) (gq ps x) = (gq ps (iN x) : Int)) ∧ ∀ j, j < n → (∀ x, x < 2 * k → gq ps x ≠ j) → tv (qP n ps k) j = -1
 | 0,_=>⟨fun x h=>by omega,fun j hj _=>by rw [qP,tv,List.getD,bS hj]; rfl⟩
 | k + 1, h => by
  obtain ⟨i1,i2⟩:=Qm (h.le (Nat.le_succ k))
  have hl:=rZ n ps k
  have ha:=h.lt (2 * k) zo
  have hb:=h.lt (2 * k + 1) zo
  rw [rQ] at ha
  rw [vM] at hb
  have key : ∀ j, tv (qP n ps (k + 1)) j = if j = pB ps k then (pA ps k : Int) else if j = pA ps k then (pB ps k : Int) else tv (qP n ps k) j := fun j => by
   rw [qP,a04 (by rw [List.length_set]; omega),a04 zo]
  refine ⟨fun x hx=>?_,fun j hj hx=>?_⟩
  ·rw [key]
   by_cases e1:x = 2 * k + 1
   ·subst e1
    rw [if_pos (vM ps k),show iN (2 * k + 1) = 2 * k by unfold iN; split <;> omega,rQ]
   ·have n1 : ¬ gq ps x = pB ps k := fun e => e1 (h.inj x (2 * k + 1) hx zo (by rw [e, vM]))
    rw [if_neg n1]
    by_cases e2:x = 2 * k
    ·subst e2
     rw [if_pos (rQ ps k),show iN (2 * k) = 2 * k + 1 by unfold iN; split <;> omega,vM]
    ·have n2 : ¬ gq ps x = pA ps k := fun e => e2 (h.inj x (2 * k) hx zo (by rw [e, rQ]))
     rw [if_neg n2]; exact i1 x zo
  ·rw [key, if_neg (fun e => hx (2 * k + 1) zo (by rw [vM]; exact e.symm)), if_neg (fun e => hx (2 * k) zo (by rw [rQ]; exact e.symm))]
   exact i2 j hj fun x hx2=>hx x zo
theorem a2r {ps:List (Nat × Nat)} {n K:Nat} (h:Jn ps n K) {j:Nat} (hj:j < n):tv (qP n ps K) j < n:=by
 obtain ⟨i1,i2⟩:=Qm h
 by_cases e:∃ x,x < 2 * K ∧ gq ps x = j
 ·obtain ⟨x, hx, rfl⟩ := e
  rw [i1 x hx]; have:=h.lt (iN x) (nO hx); omega
 ·rw [i2 j hj fun x hx hxj=>e ⟨x,hx,hxj⟩]; omega
theorem Hq {ps:List (Nat × Nat)} {n K:Nat} (h:Jn ps n K) (S:List (List Qi)) (x:Nat → Qi) (i:Nat):aH n (cnT S (qP n ps K) x i) = aH (2 * K) fun y=>gm S i (gq ps y) * x (gq ps (iN y)):=by
 obtain ⟨i1,i2⟩:=Qm h
 have e1 : aH n (cnT S (qP n ps K) x i) = aH n fun j => aH (2 * K) fun y => if gq ps y = j then gm S i (gq ps y) * x (gq ps (iN y)) else 0 := bA fun j hj => by
  by_cases e:∃ y,y < 2 * K ∧ gq ps y = j
  ·obtain ⟨y, hy, rfl⟩ := e
   rw [fR hy (fun k hk hky=>if_neg fun e=>hky (h.inj k y hk hy e)),if_pos rfl,cnT,i1 y hy,if_neg zo,Int.toNat_natCast]
  ·rw [kP (fun y hy=>if_neg fun e2=>e ⟨y,hy,e2⟩),cnT,i2 j hj fun y hy e2=>e ⟨y,hy,e2⟩,if_pos zo]
 rw [e1,rJ]
 exact bA fun y hy=>by rw [fR (h.lt y hy) (fun j _ hj=>if_neg (Ne.symm hj)),if_pos rfl]
def mU (S:List (List Qi)) (ps:List (Nat × Nat)) (m:Nat):List (List Qi):=tab m fun x=>tab m fun y=>(if x = y then Qi.ofInt 1 else Qi.ofInt 0) - gm S (gq ps (iN x)) (gq ps y)
def Dj (S:List (List Qi)) (ps:List (Nat × Nat)) (m b:Nat):List Qi:=tab m fun x=>gm S (gq ps (iN x)) b
theorem mZ (S:List (List Qi)) (ps:List (Nat × Nat)) (m:Nat):dT (mU S ps m) m m:=dT.tab
theorem Al {S:List (List Qi)} {ps:List (Nat × Nat)} {m x:Nat} (hx:x < m) (v:Nat → Qi):aH m (fun y=>gm (mU S ps m) x y * v y) = v x - aH m fun y=>gm S (gq ps (iN x)) (gq ps y) * v y:=by
 have e : ∀ y, y < m → gm (mU S ps m) x y * v y = (if y = x then v x else 0) - 1 * (gm S (gq ps (iN x)) (gq ps y) * v y) := fun y hy => by
  have : gm (mU S ps m) x y = (if x = y then Qi.ofInt 1 else Qi.ofInt 0) - gm S (gq ps (iN x)) (gq ps y) := by
   show gv ((mU S ps m).getD x []) y = _
   rw [mU,rK hx,mJ hy]
  rw [this]
  by_cases c:y = x
  ·subst c; rw [if_pos rfl,if_pos rfl,q1]; grind
  ·rw [if_neg c,if_neg (Ne.symm c),show Qi.ofInt 0 = (0:Qi) from rfl]; grind
 rw [bA e,rI,fR hx (fun k _ hk=>if_neg hk),if_pos rfl]; grind
theorem a3w {S:List (List Qi)} {ps:List (Nat × Nat)} {m b x:Nat} (hx:x < m):gv (Dj S ps m b) x = gm S (gq ps (iN x)) b:=mJ hx
def Dk (S:List (List Qi)) (ps:List (Nat × Nat)) (m a b:Nat):Qi:=gm S a b + aH m fun y=>gm S a (gq ps y) * gv (lB (mU S ps m) (Dj S ps m b) m) y
theorem a3z {ps : List (Nat × Nat)} {n K : Nat} (h : Jn ps n K) {S : List (List Qi)} {v : Nat → Qi} (hv : ∀ x, x < 2 * K → aH (2 * K) (fun y => gm (mU S ps (2 * K)) x y * v y) = 0) :
  Cyc S (qP n ps K) n (fun i=>aH (2 * K) fun y=>gm S i (gq ps y) * v y):=fun i hi=>by
 have e : ∀ x, x < 2 * K → aH (2 * K) (fun y => gm S (gq ps (iN x)) (gq ps y) * v y) = v x := fun x hx => by
  have:=hv x hx
  rw [Al hx] at this
  grind
 rw [Hq h,bA (g:=fun y=>gm S i (gq ps y) * v y) (fun y hy=>by rw [e y hy])]; grind
theorem a3y {ps:List (Nat × Nat)} {n K:Nat} (h:Jn ps n K) {S:List (List Qi)} {lf:List Nat} {b:List Qi} (hl:1 ≤ lf.length) (hE:kA (mU S ps (2 * K)) b (2 * K) ≠ 0):Uq S (qP n ps K) n lf = 6:=by
 obtain ⟨v,h1,k,h2,h3⟩:=xP (mZ S ps (2 * K)) hE
 refine a3c (fun j hj=>a2r h hj) hl (a3z h h1) (h.lt (iN k) (nO h2)) ?_
 have:=h1 k h2
 rw [Al h2] at this
 intro e
 exact h3 (by grind)
theorem a4H {ps : List (Nat × Nat)} {n K : Nat} (h : Jn ps n K) {S : List (List Qi)} {lf : List Nat} (hl : ∀ y, y < lf.length → lf.getD y 0 < n) (h1 : 1 ≤ lf.length) (hE : ∀ y, y < lf.length → kA (mU S ps (2 * K)) (Dj S ps (2 * K) (lf.getD y 0)) (2 * K) = 0) :
  Uq S (qP n ps K) n lf = 0 ∧ ∀ x y,x < lf.length → y < lf.length → Sr S (qP n ps K) n lf x y = Dk S ps (2 * K) (lf.getD x 0) (lf.getD y 0):=by
 have hs:=mZ S ps (2 * K)
 have e : ∀ y, y < lf.length → ∀ x, x < 2 * K → Dk S ps (2 * K) (gq ps (iN x)) (lf.getD y 0) = gv (lB (mU S ps (2 * K)) (Dj S ps (2 * K) (lf.getD y 0)) (2 * K)) x := fun y hy x hx => by
  have:=(oD hs (hE y hy)).1 x hx
  rw [Al hx,a3w hx] at this
  rw [Dk]; grind
 obtain ⟨c1, c2⟩ := a4y (S := S) (to := qP n ps K) (n := n) (lf := lf) (u := fun y i => Dk S ps (2 * K) i (lf.getD y 0)) (fun j hj => a2r h hj)
  (fun y hy i hi => by
   rw [Hq h,bA (g:=fun k=>gm S i (gq ps k) * gv (lB (mU S ps (2 * K)) (Dj S ps (2 * K) (lf.getD y 0)) (2 * K)) k) (fun k hk=>by rw [e y hy k hk])]
   show Dk S ps (2 * K) i (lf.getD y 0) - _ = _
   rw [Dk]; grind)
  (fun x hx k hk => by
   have hv := (oD hs (hE 0 h1)).2 (fun y => x (gq ps (iN y))) (fun z hz => by
    rw [Al hz]
    have:=hx (gq ps (iN z)) (h.lt _ (nO hz))
    rw [Hq h] at this
    exact this)
   have:=hx k hk
   rw [Hq h,kP (fun y hy=>by rw [hv y hy]; grind)] at this
   grind)
 exact ⟨c1,fun x y hx hy=>c2 x y hy (hl x hx)⟩
theorem Ql {ps : List (Nat × Nat)} {n K : Nat} (h : Jn ps n K) {G : List Nat} (hG : ∀ j, j ∈ G ↔ ∃ x, x < 2 * K ∧ gq ps x = j) : ∀ k, k ≤ n → uT (qP n ps K) k = nH G k
 | 0,_=>rfl
 | k + 1, hk => by
  obtain ⟨i1,i2⟩:=Qm h
  rw [uT,nH,Ql h hG k zo]
  congr 1
  by_cases e:k ∈ G
  ·obtain ⟨x, hx, rfl⟩ := (hG k).1 e
   rw [i1 x hx,if_neg zo,if_pos e]
  ·rw [i2 k zo fun x hx hxk=>e ((hG k).2 ⟨x,hx,hxk⟩),if_pos zo,if_neg e]
end
section
open Go Go.RowKit
def eM (n:Nat) (p:Int) (o:List Int):Int:=if ¬ (1 ≤ p ∧ p ≤ n) then 1 else if (o.any fun x=>decide (p = x)) = true then 8 else 0
def pP (n:Nat) (l:List Int):Int:=jX (fun i=>eM n (l.getD i 0) (l.take i)) l.length
def a4Q (l:List Int):List Nat:=l.map fun p=>(p - 1).toNat
theorem wS {n:Nat} {p:Int} {o:List Int} (h:eM n p o = 0):1 ≤ p ∧ p ≤ n:=by
 unfold eM at h
 split at h
 ·omega
 ·rename_i c; exact Decidable.not_not.1 c
theorem Cr {n : Nat} {l : List Int} (h : pP n l = 0) : ∀ x, x ∈ l → 1 ≤ x ∧ x ≤ n := fun x hx => by
 obtain ⟨i,hi,e⟩:=List.getElem_of_mem hx
 have:=wS (gN h i hi)
 rw [show l.getD i 0 = x by rw [List.getD,List.getElem?_eq_getElem hi,e]; rfl] at this
 exact this
theorem Zg {n:Nat} {l:List Int} (h:pP n l = 0):l.map (aP .i64) = ((a4Q l).map Nat.succ).map (NT .i64):=by
 rw [a4Q,List.map_map,List.map_map]
 refine List.map_congr_left fun p hp=>?_
 have:=Cr h p hp
 show aP .i64 p = aP .i64 (((p - 1).toNat + 1:Nat):Int)
 congr 1; omega
theorem a00 (z:List Qi) (Q:List Nat):(zW z Q).length = Q.length:=aC _ _
theorem Zz {z:List Qi} {Q:List Nat} {L:Nat} (h:dA z L) (hL:1 ≤ L):dA (zW z Q) L:=dA.tab fun i _=>h.get hL _
end
section
open Go Go.RowKit
def lC (js:List (Int × Int)):List Int:=js.flatMap fun q=>[q.1,q.2]
def cB (js:List (Int × Int)):List (Nat × Nat):=js.map fun q=>((q.1 - 1).toNat,(q.2 - 1).toNat)
abbrev iH (js:List (Int × Int)) (k:Nat):Int × Int:=js.getD k (0,0)
theorem a19 (a b:List (Int × Int)):lC (a ++ b) = lC a ++ lC b:=by simp [lC]
theorem sW {js:List (Int × Int)} {k:Nat} (h:k < js.length):lC (js.take (k + 1)) = lC (js.take k) ++ [(iH js k).1,(iH js k).2]:=by
 rw [List.take_succ_eq_append_getElem h,a19]
 simp [lC,iH,List.getD,h]
theorem mY : ∀ (js : List (Int × Int)), (lC js).length = 2 * js.length
 | []=>rfl
 | q :: r => by
  have:=mY r
  have e:lC (q :: r) = q.1 :: q.2 :: lC r:=rfl
  rw [e,List.length_cons,List.length_cons,List.length_cons,this]; omega
theorem Qg : ∀ (js : List (Int × Int)) {x : Nat}, x < 2 * js.length → (lC js).getD x 0 = if x % 2 = 0 then (iH js (x / 2)).1 else (iH js (x / 2)).2
 | [],x,h=>by simp at h
 | q :: r,0,_=>rfl
 | q :: r,1,_=>rfl
 | q :: r, x + 2, h => by
  have ih:=Qg r (x:=x) (by simp only [List.length_cons] at h; omega)
  have e:lC (q :: r) = q.1 :: q.2 :: lC r:=rfl
  rw [e]
  show (lC r).getD x 0 = _
  rw [ih,show (x + 2) % 2 = x % 2 by omega,show (x + 2) / 2 = x / 2 + 1 by omega]
  rfl
theorem Nb {js:List (Int × Int)} {k:Nat} (h:k < js.length):pA (cB js) k = ((iH js k).1 - 1).toNat ∧ pB (cB js) k = ((iH js k).2 - 1).toNat:=by
 simp [pA,pB,cB,iH,List.getD,h]
theorem jgq {js:List (Int × Int)} {x:Nat} (h:x < 2 * js.length):gq (cB js) x = ((lC js).getD x 0 - 1).toNat:=by
 have h2:x / 2 < js.length:=by omega
 rw [Qg js h,gq,(Nb h2).1,(Nb h2).2]
 split <;> rfl
theorem Ku {n:Nat} {A:List Int} (h:pP n A = 0) (a:Int):pP n (A ++ [a]) = eM n a A:=by
 rw [pP,List.length_append,List.length_singleton]
 have e : jX (fun i => eM n ((A ++ [a]).getD i 0) ((A ++ [a]).take i)) A.length = 0 := gM fun i hi => by
  have:=gN h i hi
  rw [List.take_append_of_le_length zo]
  have e2:(A ++ [a]).getD i 0 = A.getD i 0:=by simp [List.getD,List.getElem?_append_left hi]
  rw [e2]; exact this
 rw [jX,e,if_neg (by simp),List.take_append_of_le_length (Nat.le_refl _),List.take_length]
 congr 1
 simp [List.getD]
theorem Fo {n:Nat} {A:List Int} (h:pP n A = 0) (a b:Int):pP n (A ++ [a,b]) = if eM n a A ≠ 0 then eM n a A else eM n b (A ++ [a]):=by
 have e:A ++ [a,b] = (A ++ [a]) ++ [b]:=by simp
 by_cases c:eM n a A = 0
 ·rw [if_neg (fun k=>k c),e,Ku (by rw [Ku h]; exact c)]
 ·rw [if_pos c]
  have h1 : jX (fun i => eM n ((A ++ [a, b]).getD i 0) ((A ++ [a, b]).take i)) A.length = 0 := gM fun i hi => by
   have:=gN h i hi
   rw [List.take_append_of_le_length zo]
   have e2:(A ++ [a,b]).getD i 0 = A.getD i 0:=by simp [List.getD,List.getElem?_append_left hi]
   rw [e2]; exact this
  have h2 : eM n ((A ++ [a, b]).getD A.length 0) ((A ++ [a, b]).take A.length) = eM n a A := by
   rw [List.take_append_of_le_length (Nat.le_refl _),List.take_length]
   congr 1
   simp [List.getD]
  rw [pP,lP (k:=A.length) (fun i hi=>gN h1 i hi) (by rw [h2]; exact c) (by simp)]
  exact h2
def rC (z : List Qi) (js : List (Int × Int)) (k : Nat) : Int :=
 if eM z.length (iH js k).1 (lC (js.take k)) ≠ 0 then eM z.length (iH js k).1 (lC (js.take k))
 else if eM z.length (iH js k).2 (lC (js.take k) ++ [(iH js k).1]) ≠ 0 then eM z.length (iH js k).2 (lC (js.take k) ++ [(iH js k).1])
 else if gv z ((iH js k).1 - 1).toNat = gv z ((iH js k).2 - 1).toNat then 0 else 40
def sV (z:List Qi) (js:List (Int × Int)):Int:=jX (rC z js) js.length
theorem Yc {z:List Qi} {js:List (Int × Int)} {k:Nat} (h:rC z js k = 0):eM z.length (iH js k).1 (lC (js.take k)) = 0 ∧ eM z.length (iH js k).2 (lC (js.take k) ++ [(iH js k).1]) = 0 ∧ gv z ((iH js k).1 - 1).toNat = gv z ((iH js k).2 - 1).toNat:=by
 unfold rC at h
 by_cases c1:eM z.length (iH js k).1 (lC (js.take k)) = 0
 ·rw [if_neg (fun k => k c1)] at h
  by_cases c2:eM z.length (iH js k).2 (lC (js.take k) ++ [(iH js k).1]) = 0
  ·rw [if_neg (fun k => k c2)] at h
   by_cases c3:gv z ((iH js k).1 - 1).toNat = gv z ((iH js k).2 - 1).toNat
   ·exact ⟨c1,c2,c3⟩
   ·rw [if_neg c3] at h; omega
  ·rw [if_pos c2] at h; exact absurd h c2
 ·rw [if_pos c1] at h; exact absurd h c1
theorem jpr {z : List Qi} {js : List (Int × Int)} : ∀ {k : Nat}, k ≤ js.length → (∀ j, j < k → rC z js j = 0) → pP z.length (lC (js.take k)) = 0
 | 0,_,_=>rfl
 | k + 1, hk, h => by
  have ih:=jpr (z:=z) (js:=js) (k:=k) zo fun j hj=>h j zo
  obtain ⟨h1,h2,_⟩:=Yc (h k zo)
  rw [sW zo,Fo ih,if_neg (fun k=>k h1)]; exact h2
theorem Qo {z:List Qi} {js:List (Int × Int)} {k:Nat} (hk:k < js.length) (h:∀ j,j < k → rC z js j = 0):rC z js k = if pP z.length (lC (js.take (k + 1))) ≠ 0 then pP z.length (lC (js.take (k + 1))) else if gv z ((iH js k).1 - 1).toNat = gv z ((iH js k).2 - 1).toNat then 0 else 40:=by
 have hp:=jpr (z:=z) (Nat.le_of_lt hk) h
 rw [sW hk,Fo hp,rC]
 by_cases c1:eM z.length (iH js k).1 (lC (js.take k)) = 0
 ·simp only [c1,ne_eq,not_true_eq_false,if_false,ite_false]
 ·simp only [c1,ne_eq,not_false_eq_true,if_true,ite_true]
theorem Hj {z:List Qi} {js:List (Int × Int)} (h:sV z js = 0):pP z.length (lC js) = 0:=by
 have:=jpr (z:=z) (Nat.le_refl js.length) (gN h)
 rwa [List.take_length] at this
theorem Tb {n : Nat} {p : Int} {o : List Int} (h : eM n p o = 0) : p ∉ o := fun hm => by
 have h1:=wS h
 unfold eM at h
 rw [if_neg (fun k=>k h1),if_pos (List.any_eq_true.2 ⟨p,hm,by simp⟩)] at h
 omega
theorem a1M {n:Nat} {l:List Int} (h:pP n l = 0) {x y:Nat} (hx:x < l.length) (hy:y < l.length) (e:l.getD x 0 = l.getD y 0):x = y:=by
 have key : ∀ x y, x < y → y < l.length → l.getD x 0 ≠ l.getD y 0 := fun x y hxy hy e => by
  refine Tb (gN h y hy) ?_
  rw [← e]
  have e2:l.getD x 0 = l[x]'zo:=by simp [List.getD,show x < l.length by omega]
  rw [e2]
  exact List.mem_take_iff_getElem.2 ⟨x,by omega,rfl⟩
 rcases Nat.lt_trichotomy x y with c | c | c
 ·exact absurd e (key x y c hy)
 ·exact c
 ·exact absurd e.symm (key y x c hx)
theorem uY {z:List Qi} {js:List (Int × Int)} (h:sV z js = 0):Jn (cB js) z.length js.length:=by
 have hp:=Hj h
 have hl:=mY js
 have hr : ∀ x, x < 2 * js.length → 1 ≤ (lC js).getD x 0 ∧ (lC js).getD x 0 ≤ z.length := fun x hx => Cr hp _ (by
  rw [show (lC js).getD x 0 = (lC js)[x]'zo by simp [List.getD,show x < (lC js).length by omega]]; exact List.getElem_mem _)
 refine ⟨fun x hx=>?_,fun x y hx hy e=>?_⟩
 ·rw [jgq hx]; have:=hr x hx; omega
 ·rw [jgq hx, jgq hy] at e
  have h1:=hr x hx; have h2:=hr y hy
  exact a1M hp zo zo zo
def nM (js:List (Int × Int)):List Nat:=(lC js).map fun p=>(p - 1).toNat
def eO (z:List Qi) (js:List (Int × Int)):List Nat:=nH (nM js) z.length
def Hu (z:List Qi) (S:List (List Qi)) (js:List (Int × Int)):Int:=jX (fun y=>kA (mU S (cB js) (2 * js.length)) (Dj S (cB js) (2 * js.length) ((eO z js).getD y 0)) (2 * js.length)) (eO z js).length
def rB (z : List Qi) (S : List (List Qi)) (js : List (Int × Int)) : Int :=
 if sV z js ≠ 0 then sV z js else if js.length = 0 then 0 else if 2 * js.length = z.length then 4 else if Hu z S js = 0 then 0 else 6
def a1d (z:List Qi) (js:List (Int × Int)):List Qi:=zW z (eO z js)
def Xx (z:List Qi) (S:List (List Qi)) (js:List (Int × Int)):List (List Qi):=tab (eO z js).length fun x=>tab (eO z js).length fun y=>Dk S (cB js) (2 * js.length) (gY (eO z js) x) (gY (eO z js) y)
def rT (z:List Qi) (S:List (List Qi)) (js:List (Int × Int)):List Qi:=dL (rB z S js) (if js.length = 0 then z else a1d z js)
def sX (z:List Qi) (S:List (List Qi)) (js:List (Int × Int)):List (List Qi):=dL (rB z S js) (if js.length = 0 then S else Xx z S js)
theorem Ak (js:List (Int × Int)):(nM js).length = 2 * js.length:=by rw [nM,List.length_map,mY]
theorem Hm {js:List (Int × Int)} {j:Nat}:j ∈ nM js ↔ ∃ x,x < 2 * js.length ∧ gq (cB js) x = j:=by
 constructor
 ·intro h
  obtain ⟨p,hp,rfl⟩:=List.mem_map.1 h
  obtain ⟨x,hx,e⟩:=List.getElem_of_mem hp
  have hl:=mY js
  refine ⟨x,by omega,?_⟩
  rw [jgq zo,show (lC js).getD x 0 = p by rw [← e]; simp [List.getD,hx]]
 ·rintro ⟨x, hx, rfl⟩
  have hl:=mY js
  rw [jgq hx]
  refine List.mem_map.2 ⟨(lC js).getD x 0,?_,rfl⟩
  rw [show (lC js).getD x 0 = (lC js)[x]'zo by simp [List.getD,show x < (lC js).length by omega]]; exact List.getElem_mem _
theorem a1a {z:List Qi} {js:List (Int × Int)} (h:sV z js = 0):uT (qP z.length (cB js) js.length) z.length = eO z js:=Ql (uY h) (fun j=>Hm) z.length (Nat.le_refl _)
theorem Na {z : List Qi} {js : List (Int × Int)} {y : Nat} (hy : y < (eO z js).length) : (eO z js).getD y 0 < z.length := Nd (by
 rw [show (eO z js).getD y 0 = (eO z js)[y] by simp [List.getD,hy]]; exact List.getElem_mem hy)
end
section
open Go Go.RowKit
theorem Ke (M:List (List Qi)) (n:Nat):dT (Kd M n) n n:=dT.tab
theorem tN (M:List (List Qi)) (b:List Qi) (n:Nat):(lB M b n).length = n:=wD _ _ _
theorem Rr {M : List (List Qi)} {b : List Qi} {n L : Nat} (h : dT M n n) (hM : bP M L) (hb : dA b L) (hL : 1 ≤ L) (hE : kA M b n = 0) : dA (lB M b n) (qO (cE L n) n) := Zu h hM hb hL (by
 unfold kA at hE
 by_cases e:0 ≤ (uU M b n).2.2
 ·rw [if_pos e] at hE; omega
 ·omega)
theorem Kf {M:List (List Qi)} {n:Nat} (h:Mx M n = 0):∀ k,k < n → kA M (ek n k) n = 0:=gN h
theorem zA {G H : Nat} (h : G ≤ H) : ∀ j, qO G j ≤ qO H j
 | 0=>h
 | j + 1 => by
  have:=zA h j
  have h2:j * (qO G j + G + 2) ≤ j * (qO H j + H + 2):=Nat.mul_le_mul_left _ zo
  simp only [qO]; omega
theorem sC {n i j:Nat} (hi:i < n) (hj:j < n):gm (xU n) i j = if i = j then 1 else 0:=by
 show gv ((xU n).getD i []) j = _
 rw [xU,rK hi,mR,yM (by rw [aC]; exact hi)]
 by_cases e:j = i
 ·subst e; rw [if_pos rfl,if_pos rfl]; rfl
 ·rw [if_neg e,if_neg (Ne.symm e),mJ hj]; rfl
theorem qE {a b:List (List Qi)} {n m:Nat} (ha:dT a n m) (hb:dT b n m) (h:∀ i,i < n → ∀ j,j < m → gm a i j = gm b i j):a = b:=by
 rw [uI ha,uI hb]
 exact cT fun i hi=>cT fun j hj=>h i hi j hj
end
section
open Go Go.RowKit
def Kt (q:Int × Int):List Int:=[q.1,q.2]
abbrev JT (q:Int × Int):Ty:=eP [aP .i64 q.1,aP .i64 q.2]
abbrev Ii (js:List (Int × Int)):Ty:=kL 2 (js.map JT)
theorem a1L {q : Int × Int} : ∀ {i : Nat}, i < 2 → ([aP .i64 q.1, aP .i64 q.2] : List Ty)[i]? = some (aP .i64 ((Kt q).getD i 0))
 | 0,_=>rfl
 | 1,_=>rfl
theorem Ze {q : Int × Int} : ∀ {i : Nat}, i < 2 → (Kt q).take (i + 1) = (Kt q).take i ++ [(Kt q).getD i 0]
 | 0,_=>rfl
 | 1,_=>rfl
abbrev Hr (z:List Qi) (js:List (Int × Int)) (k i:Nat):Int:=eM z.length ((Kt (iH js k)).getD i 0) (lC (js.take k) ++ (Kt (iH js k)).take i)
theorem a4K {z : List Qi} {js : List (Int × Int)} {k : Nat} : ∀ {i : Nat}, i < 2 → (∀ x, x < i → Hr z js k x = 0) → Hr z js k i ≠ 0 → rC z js k = Hr z js k i
 | 0, _, _, h => by
  have e:Hr z js k 0 = eM z.length (iH js k).1 (lC (js.take k)):=by simp [Hr,Kt]
  rw [e] at h ⊢
  rw [rC,if_pos h]
 | 1, _, h0, h => by
  have e0:Hr z js k 0 = eM z.length (iH js k).1 (lC (js.take k)):=by simp [Hr,Kt]
  have e:Hr z js k 1 = eM z.length (iH js k).2 (lC (js.take k) ++ [(iH js k).1]):=by simp [Hr,Kt]
  have h1:=h0 0 zo
  rw [e0] at h1
  rw [e] at h ⊢
  rw [rC,if_neg (fun k=>k h1),if_pos h]
theorem a4L {z : List Qi} {js : List (Int × Int)} {k : Nat} (h : ∀ x, x < 2 → Hr z js k x = 0) : (1 ≤ (iH js k).1 ∧ (iH js k).1 ≤ z.length) ∧ (1 ≤ (iH js k).2 ∧ (iH js k).2 ≤ z.length) ∧
  rC z js k = if gv z ((iH js k).1 - 1).toNat = gv z ((iH js k).2 - 1).toNat then 0 else 40:=by
 have e0:Hr z js k 0 = eM z.length (iH js k).1 (lC (js.take k)):=by simp [Hr,Kt]
 have e:Hr z js k 1 = eM z.length (iH js k).2 (lC (js.take k) ++ [(iH js k).1]):=by simp [Hr,Kt]
 have h0:=h 0 zo
 have h1:=h 1 zo
 rw [e0] at h0
 rw [e] at h1
 exact ⟨wS h0,wS h1,by rw [rC,if_neg (fun k=>k h0),if_neg (fun k=>k h1)]⟩
def zG (z:List Qi) (js:List (Int × Int)):Int:=if sV z js ≠ 0 then sV z js else if 0 < 2 * js.length ∧ 2 * js.length = z.length then 4 else 0
def jeL (z:List Qi) (js:List (Int × Int)):List Int:=dL (zG z js) (lC js)
theorem Hk {z:List Qi} {js:List (Int × Int)} (h:sV z js ≠ 0):zG z js = sV z js:=if_pos h
theorem Qf {z:List Qi} {js:List (Int × Int)} (h:sV z js = 0) (h2:0 < 2 * js.length ∧ 2 * js.length = z.length):zG z js = 4:=by rw [zG,if_neg (fun k=>k h),if_pos h2]
theorem Qe {z:List Qi} {js:List (Int × Int)} (h:sV z js = 0) (h2:¬ (0 < 2 * js.length ∧ 2 * js.length = z.length)):zG z js = 0:=by rw [zG,if_neg (fun k=>k h),if_neg h2]
theorem wV {z:List Qi} {js:List (Int × Int)} (h:zG z js = 0):sV z js = 0 ∧ ¬ (0 < 2 * js.length ∧ 2 * js.length = z.length):=by
 unfold zG at h
 by_cases c:sV z js = 0
 ·refine ⟨c, fun h2 => ?_⟩
  rw [if_neg (fun k=>k c),if_pos h2] at h
  omega
 ·rw [if_pos c] at h; exact absurd h c
theorem Qk {z:List Qi} {S:List (List Qi)} {js:List (Int × Int)} (h:zG z js ≠ 0):rB z S js = zG z js:=by
 unfold rB zG at *
 by_cases c:sV z js ≠ 0
 ·rw [if_pos c,if_pos c]
 ·rw [if_neg c] at h
  rw [if_neg c,if_neg c]
  by_cases d:0 < 2 * js.length ∧ 2 * js.length = z.length
  ·rw [if_neg zo,if_pos d.2,if_pos d]
  ·rw [if_neg d] at h; exact absurd rfl h
theorem Qn {z:List Qi} {S:List (List Qi)} {js:List (Int × Int)} (h:zG z js = 0) (h2:js.length = 0):rB z S js = 0:=by
 obtain ⟨h1,_⟩:=wV h
 rw [rB,if_neg (fun k=>k h1),if_pos h2]
theorem Cg {z:List Qi} {S:List (List Qi)} {js:List (Int × Int)} (h:zG z js = 0) (h2:js.length ≠ 0):rB z S js = if Hu z S js = 0 then 0 else 6:=by
 obtain ⟨h1,h3⟩:=wV h
 rw [rB,if_neg (fun k=>k h1),if_neg h2,if_neg zo]
theorem pig : ∀ {n m : Nat} {f : Nat → Nat}, (∀ x, x < m → f x < n) → (∀ x y, x < m → y < m → f x = f y → x = y) → m ≤ n
 | 0, m, f, h, _ => by
  cases m with
  | zero=>exact Nat.le_refl 0
  | succ m=>exact absurd (h 0 zo) zo
 | n + 1,0,_,_,_=>by omega
 | n + 1, k + 1, f, h, i => by
  have := pig (n := n) (m := k) (f := fun x => if f x = n then f k else f x) (fun x hx => by
   have h1:=h x zo
   have h2:=h k zo
   by_cases c:f x = n
   ·simp only [if_pos c]
    have:f k ≠ n:=fun e=>by have:=i x k zo zo (by rw [c,e]); omega
    omega
   ·simp only [if_neg c]; omega) (fun x y hx hy e=>by
   by_cases c:f x = n <;> by_cases d:f y = n
   ·exact i x y zo zo (by rw [c,d])
   ·simp only [if_pos c, if_neg d] at e
    have:=i k y zo zo e; omega
   ·simp only [if_neg c, if_pos d] at e
    have:=i x k zo zo e; omega
   ·simp only [if_neg c, if_neg d] at e
    exact i x y zo zo e)
  omega
theorem Cf {z:List Qi} {js:List (Int × Int)} (h:sV z js = 0):2 * js.length ≤ z.length:=by
 have hj:=uY h
 exact pig (f:=gq (cB js)) hj.lt hj.inj
theorem Xv {z:List Qi} {js:List (Int × Int)} (h:sV z js = 0):(lC js).map (aP .i64) = ((nM js).map Nat.succ).map (NT .i64):=Zg (Hj h)
theorem Hl {js:List (Int × Int)} {x:Nat} (h:x < 2 * js.length):(nM js).getD x 0 = gq (cB js) x:=by
 have hl:=mY js
 rw [jgq h,nM]
 simp [List.getD,show x < (lC js).length by omega]
theorem Xo (G:List Nat):(gnI G).map (aP .i64) = (G.map Nat.succ).map (NT .i64):=by
 simp only [gnI,List.map_map]
 refine List.map_congr_left fun x _=>?_
 simp [Function.comp,NT]
theorem wY (js:List (Int × Int)):(cB js).length = js.length:=by simp [cB]
theorem Yb {js:List (Int × Int)} {k:Nat} (h:k < js.length):(cB js).take (k + 1) = (cB js).take k ++ [(((iH js k).1 - 1).toNat,((iH js k).2 - 1).toNat)]:=by
 rw [List.take_succ_eq_append_getElem (by rw [wY]; exact h)]
 simp [cB,List.getD,h]
theorem a4J {js:List (Int × Int)} {n k:Nat} (h:pP n (lC (js.take (k + 1))) = 0) (hk:k < js.length):(1 ≤ (iH js k).1 ∧ (iH js k).1 ≤ n) ∧ (1 ≤ (iH js k).2 ∧ (iH js k).2 ≤ n):=by
 rw [sW hk] at h
 exact ⟨Cr h _ (by simp),Cr h _ (by simp)⟩
theorem Qr {G : List Nat} {j : Nat} (h : j ∉ G) : ∀ {k : Nat}, j < k → j ∈ nH G k
 | k + 1, hk => by
  rw [nH,List.mem_append]
  by_cases e:j = k
  ·subst e; exact .inr (by rw [if_neg h]; simp)
  ·exact .inl (Qr h zo)
theorem Mz {z:List Qi} {js:List (Int × Int)} (h:sV z js = 0) (h2:2 * js.length ≠ z.length):1 ≤ (eO z js).length:=by
 by_cases c:(eO z js).length = 0
 ·have hn : eO z js = [] := List.eq_nil_of_length_eq_zero c
  have hm : ∀ j, j < z.length → ∃ x, x < 2 * js.length ∧ gq (cB js) x = j := fun j hj => by
   by_cases d:j ∈ nM js
   ·exact Hm.1 d
   ·have := Qr d hj
    rw [show nH (nM js) z.length = [] from hn] at this
    cases this
  have:=Cf h
  have h3 : z.length ≤ 2 * js.length := pig (f := fun j => if hj : j < z.length then Classical.choose (hm j hj) else 0) (fun j hj => by
   simp only [dif_pos hj]; exact (Classical.choose_spec (hm j hj)).1) (fun x y hx hy e=>by
   simp only [dif_pos hx,dif_pos hy] at e
   rw [← (Classical.choose_spec (hm x hx)).2,← (Classical.choose_spec (hm y hy)).2,e])
  omega
 ·omega
theorem Jw {f:Nat → Int} {n:Nat} (h:jX f n ≠ 0):∃ y,y < n ∧ f y ≠ 0:=by
 by_cases c:∃ y,y < n ∧ f y ≠ 0
 ·exact c
 ·exact absurd (gM fun y hy => by
   by_cases d:f y = 0
   ·exact d
   ·exact absurd ⟨y,hy,d⟩ c) h
theorem a3A {z : List Qi} {S : List (List Qi)} {js : List (Int × Int)} (h : sV z js = 0) (h0 : js.length ≠ 0) (h2 : 2 * js.length ≠ z.length) :
  (Uq S (qP z.length (cB js) (cB js).length) z.length (uT (qP z.length (cB js) (cB js).length) z.length) = rB z S js) ∧
  (dL (rB z S js) ((uT (qP z.length (cB js) (cB js).length) z.length).map fun l=>gv z l) = rT z S js) ∧
  (dL (rB z S js) (tab (uT (qP z.length (cB js) (cB js).length) z.length).length fun x=>tab (uT (qP z.length (cB js) (cB js).length) z.length).length fun y=>Sr S (qP z.length (cB js) (cB js).length) z.length (uT (qP z.length (cB js) (cB js).length) z.length) x y) = sX z S js):=by
 rw [wY,a1a h]
 have hp:=Mz h h2
 have hj:=uY h
 have hs:rB z S js = if Hu z S js = 0 then 0 else 6:=Cg (Qe h zo) h0
 by_cases e:Hu z S js = 0
 ·rw [if_pos e] at hs
  obtain ⟨c1,c2⟩:=a4H (S:=S) hj (fun y hy=>Na hy) hp (fun y hy=>gN e y hy)
  refine ⟨c1.trans hs.symm,?_,?_⟩
  ·rw [rT, hs, if_neg h0, a1d, zW]
   exact congrArg _ (tP (eO z js) (gv z)).symm
  ·rw [sX, hs, if_neg h0, Xx]
   exact congrArg _ (cT fun x hx=>cT fun y hy=>c2 x y hx hy)
 ·rw [if_neg e] at hs
  obtain ⟨y,hy,h3⟩:=Jw e
  refine ⟨(a3y hj hp h3).trans hs.symm,?_,?_⟩
  ·rw [rT,hs]; rfl
  ·rw [sX,hs]; rfl
theorem Ps (x : Qi) (l m : List Qi) : ∀ k, uS x l m k = x + aH k fun y => gv l y * gv m y
 | 0=>by rw [uS,aH,show Qi.zero = (0:Qi) from rfl]; grind
 | k + 1=>by rw [uS,Ps x l m k,aH]; grind
theorem Xe {S:List (List Qi)} {ps:List (Nat × Nat)} {m a b:Nat}:uS (gm S a b) (tab m fun x=>gm S a (gq ps x)) (lB (mU S ps m) (Dj S ps m b) m) m = Dk S ps m a b:=by
 rw [Ps,Dk]
 congr 1
 exact bA fun y hy=>by rw [mJ hy]
theorem wW {S : List (List Qi)} {ps : List (Nat × Nat)} {m L : Nat} (hf : bP S L) (hL : 1 ≤ L) : bP (mU S ps m) (L + 2) := bP.tab fun x y _ _ => by
 haveI h1:=hf.get hL (gq ps (iN x)) (gq ps y)
 haveI h2 : aO (if x = y then Qi.ofInt 1 else Qi.ofInt 0) 1 := by
  split
  ·exact wQ
  ·exact (aO.zero (Nat.le_refl 1):aO Qi.zero 1)
 exact (fitSub:aO (_ - _) (1 + L + 1)).le zo
theorem Qh {S:List (List Qi)} {ps:List (Nat × Nat)} {m b L:Nat} (hf:bP S L) (hL:1 ≤ L):dA (Dj S ps m b) L:=dA.tab fun x _=>hf.get hL _ _
theorem a1c {S:List (List Qi)} {ps:List (Nat × Nat)} {m a b L G:Nat} (hf:bP S L) (hL:1 ≤ L) (hG:qO (cE (L + 2) m) m ≤ G) (hE:kA (mU S ps m) (Dj S ps m b) m = 0):aO (Dk S ps m a b) (L + m * (2 * G + 2)):=by
 have h1:L + 2 ≤ G:=Nat.le_trans (Nat.le_trans (oK (L + 2) m) (Dg _ _)) hG
 rw [← Xe]
 exact Bx (hf.get hL a b) (dA.tab fun x _=>(hf.get hL a (gq ps x)).le zo) ((Rr (mZ S ps m) (wW hf hL) ((Qh hf hL).le zo) zo hE).le hG) zo m
theorem a1b {z:List Qi} {S:List (List Qi)} {js:List (Int × Int)} {L G:Nat} (hf:bP S L) (hL:1 ≤ L) (hG:zG z js = 0 → qO (cE (L + 2) (2 * js.length)) (2 * js.length) ≤ G) (hB:∀ m,m = 2 * js.length → zG z js = 0 → L + m * (2 * G + 2) ≤ 900000000000):bP (sX z S js) 900000000000:=by
 by_cases h:rB z S js = 0
 ·have hj : zG z js = 0 := by
   by_cases c:zG z js = 0
   ·exact c
   ·rw [Qk c] at h; exact absurd h c
  by_cases h0:js.length = 0
  ·rw [sX, dL, if_pos h, if_pos h0]
   exact hf.le (Nat.le_trans (Nat.le_add_right _ _) (hB _ rfl hj))
  ·have hs := Cg (S := S) hj h0
   rw [h] at hs
   have he : Hu z S js = 0 := by
    by_cases c:Hu z S js = 0
    ·exact c
    ·rw [if_neg c] at hs; omega
   rw [sX,dL,if_pos h,if_neg h0,Xx]
   refine bP.tab fun i j _ hj2=>(a1c hf hL (hG hj) (gN he j hj2)).le (hB _ rfl hj)
 ·rw [sX, dL, if_neg h]
  exact fun r hr=>by cases hr
theorem a1e {z:List Qi} {S:List (List Qi)} {js:List (Int × Int)} {L M:Nat} (h:dA z L) (hL:1 ≤ L) (hM:L ≤ M):dA (rT z S js) M:=by
 refine Hx ?_
 split
 ·exact h.le hM
 ·exact (Zz h hL).le hM
theorem a3B {z:List Qi} {S:List (List Qi)} {js:List (Int × Int)} (hS:dT S z.length z.length):dT (sX z S js) (rT z S js).length (rT z S js).length ∧ (rT z S js).length ≤ z.length:=by
 by_cases h:rB z S js = 0
 ·by_cases h0 : js.length = 0
  ·rw [sX,rT,dL,dL,if_pos h,if_pos h,if_pos h0,if_pos h0]; exact ⟨hS,Nat.le_refl _⟩
  ·rw [sX,rT,dL,dL,if_pos h,if_pos h,if_neg h0,if_neg h0,a1d,a00]; exact ⟨dT.tab,qD _ _⟩
 ·rw [sX,rT,dL,dL,if_neg h,if_neg h]; exact ⟨⟨rfl,fun r hr=>by cases hr⟩,Nat.zero_le _⟩
end
section
open Go Go.RowKit
def uZ (i j:Nat):Qi:=if i = j then Qi.ofInt 1 else Qi.ofInt 0
theorem Ic (i j:Nat):aO (uZ i j) 1:=by
 unfold uZ; split
 ·exact wQ
 ·exact aO.zero (Nat.le_refl 1)
end
section
open Go Go.RowKit
section
variable {φ:Qi → Qi → Bool} {z:List Qi} {js:List (Int × Int)}
end
theorem qM {a b:List (List Qi)} {n k m i j:Nat} (hi:i < n) (hj:j < m):gm (mT a b n k m) i j = aH k fun t=>gm a i t * gm b t j:=qL hi hj
theorem a1l {A : List (List Qi)} {n : Nat} (h : dT A n n) : mT (xU n) A n n n = A := qE pH h fun i hi j hj => by
 rw [qM hi hj,fR hi (f:=fun t=>gm (xU n) i t * gm A t j) fun k hk hne=>by rw [sC hi hk,if_neg (Ne.symm hne)]; grind,sC hi hi,if_pos rfl]; grind
theorem a1m {A : List (List Qi)} {n : Nat} (h : dT A n n) : mT A (xU n) n n n = A := qE pH h fun i hi j hj => by
 rw [qM hi hj,fR hj (f:=fun t=>gm A i t * gm (xU n) t j) fun k hk hne=>by rw [sC hk hj,if_neg hne]; grind,sC hj hj,if_pos rfl]; grind
abbrev jp1 (js:List (Int × Int)) (k:Nat):Nat:=((iH js k).1 - 1).toNat
abbrev jp2 (js:List (Int × Int)) (k:Nat):Nat:=((iH js k).2 - 1).toNat
theorem a4I {js:List (Int × Int)} {k:Nat} (h:k < js.length):gq (cB js) (2 * k) = jp1 js k ∧ gq (cB js) (2 * k + 1) = jp2 js k:=by
 obtain ⟨h1,h2⟩:=Nb h
 rw [rQ,vM]; exact ⟨h1,h2⟩
def hlf:Qi:=Qi.frac 1 0 2
section
variable {js:List (Int × Int)} {n:Nat}
end
theorem Am : ∀ n, nH [] n = tab n fun i => i
 | 0=>rfl
 | n + 1=>by rw [nH,Am n,oF]; rfl
end
section
open Go Go.RowKit
structure Ej (O:List Nat) (n:Nat):Prop where
 nd:O.Nodup
 all:∀ x,x ∈ O ↔ 1 ≤ x ∧ x ≤ n
theorem Ej.len {O:List Nat} {n:Nat} (h:Ej O n):O.length = n:=by
 refine Nat.le_antisymm ?_ ?_
 ·refine pig (n := n) (f := fun i => O.getD i 0 - 1) (fun x hx => ?_) (fun x y hx hy e => ?_)
  ·have := (h.all (O.getD x 0)).1 (by rw [show O.getD x 0 = O[x] by simp [List.getD, hx]]; exact List.getElem_mem hx)
   show O.getD x 0 - 1 < n; omega
  ·have a := (h.all (O.getD x 0)).1 (by rw [show O.getD x 0 = O[x] by simp [List.getD, hx]]; exact List.getElem_mem hx)
   have b:=(h.all (O.getD y 0)).1 (by rw [show O.getD y 0 = O[y] by simp [List.getD,hy]]; exact List.getElem_mem hy)
   have e2:O.getD x 0 = O.getD y 0:=by have:O.getD x 0 - 1 = O.getD y 0 - 1:=e; omega
   rw [show O.getD x 0 = O[x] by simp [List.getD,hx],show O.getD y 0 = O[y] by simp [List.getD,hy]] at e2
   exact (List.getElem_inj h.nd).1 e2
 ·have key : ∀ j, j < n → ∃ i, i < O.length ∧ O.getD i 0 = j + 1 := fun j hj => by
   obtain ⟨i,hi,e⟩:=List.getElem_of_mem ((h.all (j + 1)).2 ⟨by omega,by omega⟩)
   exact ⟨i,hi,by simp [List.getD,hi,e]⟩
  refine pig (n:=O.length) (f:=fun j=>if hj:j < n then Classical.choose (key j hj) else 0) (fun x hx=>by simp only [dif_pos hx]; exact (Classical.choose_spec (key x hx)).1) (fun x y hx hy e=>?_)
  simp only [dif_pos hx,dif_pos hy] at e
  have a:=(Classical.choose_spec (key x hx)).2
  have b:=(Classical.choose_spec (key y hy)).2
  rw [e] at a; omega
section
variable {O:List Nat} {n:Nat}
theorem Ej.at (h:Ej O n) {i:Nat} (hi:i < n):1 ≤ O.getD i 0 ∧ O.getD i 0 ≤ n:=by
 have hl:=h.len
 exact (h.all _).1 (by rw [show O.getD i 0 = O[i] by simp [List.getD,show i < O.length by omega]]; exact List.getElem_mem _)
theorem Ej.inj (h:Ej O n) {i j:Nat} (hi:i < n) (hj:j < n) (e:O.getD i 0 = O.getD j 0):i = j:=by
 have hl:=h.len
 rw [show O.getD i 0 = O[i] by simp [List.getD,show i < O.length by omega],show O.getD j 0 = O[j] by simp [List.getD,show j < O.length by omega]] at e
 exact (List.getElem_inj h.nd).1 e
end
end
section
open Go Go.RowKit
theorem xO {M:List (List Qi)} {b:List Qi} {n:Nat} (h:dT M n n):kA M b n = 0 ↔ ∀ y:Nat → Qi,(∀ i,i < n → aH n (fun k=>gm M i k * y k) = 0) → ∀ k,k < n → y k = 0:=by
 constructor
 ·intro e; exact (oD h e).2
 ·intro hk
  apply Classical.byContradiction; intro e
  obtain ⟨y,hy,k,hkn,hne⟩:=xP h e
  exact hne (hk y hy k hkn)
section
variable {S:List (List Qi)} {p q r t a b:Nat}
theorem a25 {x y:Qi} (h:x - y = 0):x = y:=by grind
end
section
variable {S:Nat → Nat → Qi} {p q r t a b:Nat}
def S1 (S:Nat → Nat → Qi) (p q:Nat) (V:Nat → Qi × Qi) (a b:Nat):Qi:=S a b + (S a p * (V b).1 + S a q * (V b).2)
variable {V:Nat → Qi × Qi}
end
end
section
open Go Go.RowKit
def low (c a b:Nat):Nat:=c - (if a < c then 1 else 0) - (if b < c then 1 else 0)
def okP (N p q r t : Nat) : Bool :=
 decide ((nH [p,q] N).length = N - 2) && decide (low r p q < N - 2) && decide (low t p q < N - 2) && decide (low r p q ≠ low t p q) && decide (gY (nH [p,q] N) (low r p q) = r) && decide (gY (nH [p,q] N) (low t p q) = t)
 && decide ((nH [low r p q,low t p q] (N - 2)).map (gY (nH [p,q] N)) = nH [p,q,r,t] N) && decide ((nH [p,q,r,t] N).length = N - 4) && decide (nH [t,r,p,q] N = nH [p,q,r,t] N) && decide (nH [r,t,p,q] N = nH [p,q,r,t] N)
section
variable {z:List Qi} {S:List (List Qi)} {N p q r t:Nat} {ζ:Qi}
end
end
section
open Go Go.RowKit
def Gb (x:Qi) (N:Nat):Prop:=∃ p q:Int,x = Qi.mk (p:Rat) (q:Rat) ∧ p.natAbs ≤ N ∧ q.natAbs ≤ N
theorem Gb.le {x:Qi} {N M:Nat} (h:Gb x N) (k:N ≤ M):Gb x M:=by
 obtain ⟨p,q,e,h1,h2⟩:=h; exact ⟨p,q,e,by omega,by omega⟩
theorem Gb.add {x y:Qi} {N M:Nat} (h:Gb x N) (k:Gb y M):Gb (x + y) (N + M):=by
 obtain ⟨p,q,rfl,h1,h2⟩:=h; obtain ⟨r,s,rfl,k1,k2⟩:=k
 refine ⟨p + r,q + s,Qi.ext' ?_ ?_,by omega,by omega⟩
 ·show (p:Rat) + (r:Rat) = ((p + r:Int):Rat); push_cast; rfl
 ·show (q:Rat) + (s:Rat) = ((q + s:Int):Rat); push_cast; rfl
theorem Gb.neg {x:Qi} {N:Nat} (h:Gb x N):Gb (-x) N:=by
 obtain ⟨p,q,rfl,h1,h2⟩:=h
 refine ⟨-p,-q,Qi.ext' ?_ ?_,by omega,by omega⟩
 ·show -(p:Rat) = ((-p:Int):Rat); push_cast; rfl
 ·show -(q:Rat) = ((-q:Int):Rat); push_cast; rfl
theorem Gb.sub {x y:Qi} {N M:Nat} (h:Gb x N) (k:Gb y M):Gb (x - y) (N + M):=by rw [Qi.sub_def]; exact h.add k.neg
theorem qG {p q:Int} {N M:Nat} (h:p.natAbs ≤ N) (k:q.natAbs ≤ M):(p * q).natAbs ≤ N * M:=by rw [Int.natAbs_mul]; exact Nat.mul_le_mul h k
theorem Gb.mul {x y:Qi} {N M:Nat} (h:Gb x N) (k:Gb y M):Gb (x * y) (2 * N * M):=by
 obtain ⟨p,q,rfl,h1,h2⟩:=h; obtain ⟨r,s,rfl,k1,k2⟩:=k
 have a1:=qG h1 k1; have a2:=qG h2 k2; have a3:=qG h1 k2; have a4:=qG h2 k1
 have e:2 * N * M = N * M + N * M:=by rw [Nat.mul_assoc,Nat.two_mul]
 refine ⟨p * r - q * s,p * s + q * r,Qi.ext' ?_ ?_,by omega,by omega⟩
 ·rw [Qi.mul_re]; show (p:Rat) * (r:Rat) - (q:Rat) * (s:Rat) = ((p * r - q * s:Int):Rat); push_cast; rfl
 ·rw [Qi.mul_im]; show (p:Rat) * (s:Rat) + (q:Rat) * (r:Rat) = ((p * s + q * r:Int):Rat); push_cast; rfl
theorem Gb.sum {f : Nat → Qi} {N : Nat} : ∀ {n : Nat}, (∀ k, k < n → Gb (f k) N) → Gb (aH n f) (n * N)
 | 0,_=>⟨0,0,Qi.ext' rfl rfl,by simp,by simp⟩
 | n + 1, h => by
  rw [aH,Nat.succ_mul]
  exact (Gb.sum fun k hk=>h k zo).add (h n zo)
theorem Gb.fit {x:Qi} {N L:Nat} (h:Gb x N) (hN:N < BB ^ L) (hL:1 ≤ L):aO x L:=by
 obtain ⟨p,q,rfl,h1,h2⟩:=h
 have e:Qi.mk (p:Rat) (q:Rat) = Qi.mk' p q 1:=Qi.ext' (by rw [Qi.mk_re]; show (p:Rat) = p / ((1:Nat):Rat); grind) (by rw [Qi.mk_im]; show (q:Rat) = q / ((1:Nat):Rat); grind)
 rw [e]
 exact ⟨Qi.Fit.mk (by decide) zo zo (Qi.one_lt hL)⟩
theorem rX (n:Nat) (f:Nat → Qi):aH (n + 1) f = f 0 + aH n fun k=>f (k + 1):=by
 rw [Nat.add_comm n 1,tO,Da]
 exact congrArg _ (bA fun k _=>by rw [Nat.add_comm])
def fs : Nat → Nat → Nat
 | 0,_=>1
 | n + 1,N=>2 * (n + 1) * N * fs n (4 * N * N)
theorem Nc {F:Nat → Nat → Qi} {n:Nat} {x:Nat → Qi}:wB F (n + 1) (n + 1) x ↔ (F 0 0 * x 0 + aH n (fun k=>F 0 (k + 1) * x (k + 1)) = 0) ∧ ∀ i,i < n → F (i + 1) 0 * x 0 + aH n (fun k=>F (i + 1) (k + 1) * x (k + 1)) = 0:=by
 constructor
 ·intro h
  exact ⟨by have:=h 0 zo; rwa [rX] at this,fun i hi=>by have:=h (i + 1) zo; rwa [rX] at this⟩
 ·rintro ⟨h1, h2⟩ i hi
  rw [rX]
  cases i with
  | zero=>exact h1
  | succ i=>exact h2 i zo
theorem Lp (n:Nat) (a b:Qi) (f g x:Nat → Qi):aH n (fun k=>(a * f k - b * g k) * x k) = a * aH n (fun k=>f k * x k) - b * aH n (fun k=>g k * x k):=by
 induction n with
 | zero=>simp only [aH,q0]; grind
 | succ n ih=>simp only [aH,ih]; grind
theorem yV (n:Nat) (a:Qi) (f x:Nat → Qi):aH n (fun k=>f k * (x k * a)) = a * aH n (fun k=>f k * x k):=by
 induction n with
 | zero=>simp only [aH,q0]; grind
 | succ n ih=>simp only [aH,ih]; grind
theorem a0U {F : Nat → Nat → Qi} {n N : Nat} (hp : F 0 0 ≠ 0) (hN : 1 ≤ N) (hF : ∀ i, i < n + 1 → ∀ j, j ≤ n + 1 → Gb (F i j) N) (hk : ∀ v, wB F (n + 1) (n + 1) v → ∀ k, k < n + 1 → v k = 0)
  (ih:∀ G:Nat → Nat → Qi,(∀ i,i < n → ∀ j,j ≤ n → Gb (G i j) (4 * N * N)) → (∀ v,wB G n n v → ∀ k,k < n → v k = 0) → ∃ (y:Nat → Qi) (e:Qi),e ≠ 0 ∧ Gb e (fs n (4 * N * N)) ∧ (∀ k,k < n → Gb (y k) (fs n (4 * N * N))) ∧ ∀ i,i < n → aH n (fun k=>G i k * y k) = e * G i n) :
  ∃ (y:Nat → Qi) (e:Qi),e ≠ 0 ∧ Gb e (fs (n + 1) N) ∧ (∀ k,k < n + 1 → Gb (y k) (fs (n + 1) N)) ∧ ∀ i,i < n + 1 → aH (n + 1) (fun k=>F i k * y k) = e * F i (n + 1):=by
 obtain ⟨y, e, he, ge, gy, hy⟩ := ih (fun i j => F 0 0 * F (i + 1) (j + 1) - F (i + 1) 0 * F 0 (j + 1)) (fun i hi j hj => by
   have h1:=(hF 0 zo 0 zo).mul (hF (i + 1) zo (j + 1) zo)
   have h2:=(hF (i + 1) zo 0 zo).mul (hF 0 zo (j + 1) zo)
   exact (h1.sub h2).le (by rw [show 4 * N * N = 2 * N * N + 2 * N * N by rw [← Nat.add_mul]; congr 1; omega]; exact Nat.le_refl _)) (fun v hv k hkn=>by
   have hz := hk (fun k => if k = 0 then -(aH n fun k => F 0 (k + 1) * v k) else F 0 0 * v (k - 1)) (Nc.2 ⟨by
    simp only [if_true,Nat.add_sub_cancel,if_neg (Nat.succ_ne_zero _)]
    have:=yV n (F 0 0) (fun k=>F 0 (k + 1)) v
    simp only [Qi.mul_comm' _ (F 0 0)] at this ⊢
    rw [this]; grind,fun i hi=>by
    simp only [if_true,Nat.add_sub_cancel,if_neg (Nat.succ_ne_zero _)]
    have:=yV n (F 0 0) (fun k=>F (i + 1) (k + 1)) v
    simp only [Qi.mul_comm' _ (F 0 0)] at this ⊢
    rw [this]
    have h:=hv i hi
    have h2:=Lp n (F 0 0) (F (i + 1) 0) (fun k=>F (i + 1) (k + 1)) (fun k=>F 0 (k + 1)) v
    simp only [] at h
    rw [h2] at h
    grind⟩) (k + 1) zo
   simp only [Nat.add_sub_cancel,if_neg (Nat.succ_ne_zero _)] at hz
   rcases nZ hz with h | h
   ·exact absurd h hp
   ·exact h)
 have hf1 : 1 ≤ fs n (4 * N * N) := by
  apply Decidable.byContradiction; intro h
  have h0:fs n (4 * N * N) = 0:=by omega
  rw [h0] at ge
  obtain ⟨p,q,e1,p1,p2⟩:=ge
  have hp0:p = 0:=by omega
  have hq0:q = 0:=by omega
  exact he (by rw [e1,hp0,hq0]; exact Qi.ext' rfl rfl)
 have hG : fs (n + 1) N = (n + 1) * (2 * fs n (4 * N * N) * N) := by
  rw [fs]; simp only [Nat.mul_comm,Nat.mul_left_comm,Nat.mul_assoc]
 have hG1:2 * fs n (4 * N * N) * N ≤ fs (n + 1) N:=by rw [hG]; exact Nat.le_mul_of_pos_left _ zo
 refine ⟨fun k=>if k = 0 then e * F 0 (n + 1) - aH n (fun k=>F 0 (k + 1) * y k) else y (k - 1) * F 0 0,e * F 0 0,fun h=>?_,?_,fun k hkn=>?_,fun i hi=>?_⟩
 ·rcases nZ h with h | h
  ·exact he h
  ·exact hp h
 ·exact (ge.mul (hF 0 zo 0 zo)).le hG1
 ·cases k with
  | zero =>
   simp only [if_true]
   have h1:=ge.mul (hF 0 zo (n + 1) zo)
   have h2:Gb (aH n fun k=>F 0 (k + 1) * y k) (n * (2 * N * fs n (4 * N * N))):=Gb.sum fun k hk=>(hF 0 zo (k + 1) zo).mul (gy k hk)
   refine (h1.sub h2).le ?_
   have e3:n * (2 * N * fs n (4 * N * N)) = n * (2 * fs n (4 * N * N) * N):=by simp only [Nat.mul_comm,Nat.mul_left_comm,Nat.mul_assoc]
   have e4:(n + 1) * (2 * fs n (4 * N * N) * N) = n * (2 * fs n (4 * N * N) * N) + 2 * fs n (4 * N * N) * N:=Nat.succ_mul _ _
   rw [hG,e3,e4,Nat.add_comm]; exact Nat.le_refl _
  | succ k =>
   simp only [Nat.add_sub_cancel,if_neg (Nat.succ_ne_zero _)]
   exact ((gy k zo).mul (hF 0 zo 0 zo)).le hG1
 ·rw [rX]
  simp only [if_true,Nat.add_sub_cancel,if_neg (Nat.succ_ne_zero _)]
  rw [yV n (F 0 0) (fun k=>F i (k + 1)) y]
  cases i with
  | zero=>grind
  | succ i =>
   have h:=hy i zo
   have h2:=Lp n (F 0 0) (F (i + 1) 0) (fun k=>F (i + 1) (k + 1)) (fun k=>F 0 (k + 1)) y
   rw [h2] at h
   grind
theorem Xm : ∀ (n N : Nat) (F : Nat → Nat → Qi), 1 ≤ N → (∀ i, i < n → ∀ j, j ≤ n → Gb (F i j) N) → (∀ v, wB F n n v → ∀ k, k < n → v k = 0) →
  ∃ (y:Nat → Qi) (e:Qi),e ≠ 0 ∧ Gb e (fs n N) ∧ (∀ k,k < n → Gb (y k) (fs n N)) ∧ ∀ i,i < n → aH n (fun k=>F i k * y k) = e * F i n
 | 0,N,F,_,_,_=>⟨fun _=>0,1,fun h=>by have:=congrArg Qi.re h; revert this; decide,⟨1,0,Qi.ext' rfl rfl,by simp [fs],by simp [fs]⟩,fun k hk=>by omega,fun i hi=>by omega⟩
 | n + 1, N, F, hN, hF, hk => by
  have hpz : ∃ p, p < n + 1 ∧ F p 0 ≠ 0 := by
   apply Classical.byContradiction; intro hno
   have hz : ∀ p, p < n + 1 → F p 0 = 0 := fun p hp => by
    apply Classical.byContradiction; intro h; exact hno ⟨p,hp,h⟩
   have := hk (fun k => if k = 0 then 1 else 0) (fun i hi => by
    rw [kP]
    intro k hk
    by_cases e:k = 0
    ·subst e; rw [hz i hi]; grind
    ·simp only [if_neg e]; grind) 0 zo
   simp only [if_true] at this
   have:=congrArg Qi.re this; revert this; decide
  obtain ⟨p,hp,hpz⟩:=hpz
  have hN4:1 ≤ 4 * N * N:=Nat.mul_pos zo zo
  obtain ⟨y, e, he, ge, gy, hy⟩ := a0U (F := fun i => F (Rv p 0 i)) (n := n) (N := N) (by simpa [Rv] using hpz) hN (fun i hi j hj => hF _ (Ig hp zo hi) j hj)
   (fun v hv=>hk v ((Kh hp zo).1 hv)) (fun G hG hGk=>Xm n (4 * N * N) G hN4 hG hGk)
  refine ⟨y,e,he,ge,gy,fun i hi=>?_⟩
  have:=hy (Rv p 0 i) (Ig hp zo hi)
  simp only [Rw] at this
  exact this
theorem a0X {N:Nat}:∀ {n:Nat},n ≤ 4 → 1 ≤ N → fs n N ≤ 1610612736 * N ^ 15:=by
 intro n hn hN
 have hp:∀ k,k ≤ 15 → N ^ k ≤ N ^ 15:=fun k hk=>Nat.pow_le_pow_right hN hk
 have h0:=hp 0 zo; have h1:=hp 1 zo; have h3:=hp 3 zo; have h7:=hp 7 zo
 match n,hn with
 | 0,_=>rw [fs]; rw [Nat.pow_zero] at h0; omega
 | 1,_=>simp only [fs]; rw [show 2 * (0 + 1) * N * 1 = 2 * N ^ 1 by grind]; omega
 | 2,_=>simp only [fs]; rw [show 2 * (1 + 1) * N * (2 * (0 + 1) * (4 * N * N) * 1) = 32 * N ^ 3 by grind]; omega
 | 3,_=>simp only [fs]; rw [show 2 * (2 + 1) * N * (2 * (1 + 1) * (4 * N * N) * (2 * (0 + 1) * (4 * (4 * N * N) * (4 * N * N)) * 1)) = 12288 * N ^ 7 by grind]; omega
 | 4,_=>simp only [fs]; rw [show 2 * (3 + 1) * N * (2 * (2 + 1) * (4 * N * N) * (2 * (1 + 1) * (4 * (4 * N * N) * (4 * N * N)) * (2 * (0 + 1) * (4 * (4 * (4 * N * N) * (4 * N * N)) * (4 * (4 * N * N) * (4 * N * N))) * 1))) = 1610612736 * N ^ 15 by grind]; omega
theorem a0T (x:Qi):((x.den:Int):Rat) * x.re = (x.a:Rat) ∧ ((x.den:Int):Rat) * x.im = (x.b:Rat):=by
 have h:=Qi.nc x.den_pos
 have h2:((x.den:Int):Rat) = (x.den:Rat):=by push_cast; rfl
 rw [h2]
 exact ⟨by rw [Qi.re_eq x]; grind,by rw [Qi.im_eq x]; grind⟩
theorem Ro {L : Nat} {x : Nat → Qi} : ∀ k, (∀ j, j < k → aO (x j) L) → ∃ d : Nat, 0 < d ∧ d ≤ BB ^ (k * L) ∧ ∀ j, j < k → Gb (Qi.ofInt d * x j) (BB ^ (k * L))
 | 0,_=>⟨1,by decide,Nat.pow_pos fL,fun j hj=>by omega⟩
 | k + 1, h => by
  obtain ⟨d,d0,dl,hd⟩:=Ro k fun j hj=>h j zo
  have hx:=(h k zo).fit
  have hm:=a0T (x k)
  have hpow:BB ^ ((k + 1) * L) = BB ^ (k * L) * BB ^ L:=by rw [Nat.succ_mul,Nat.pow_add]
  refine ⟨d * (x k).den,Nat.mul_pos d0 (x k).den_pos,?_,fun j hj=>?_⟩
  ·rw [hpow]; exact Nat.mul_le_mul dl (Nat.le_of_lt hx.2.2)
  ·by_cases e : j = k
   ·subst e
    refine ⟨d * (x j).a,d * (x j).b,Qi.ext' ?_ ?_,?_,?_⟩
    ·rw [Qi.mul_re]
     show (((d * (x j).den:Nat):Int):Rat) * (x j).re - 0 * (x j).im = ((d * (x j).a:Int):Rat)
     have:=hm.1; push_cast at *; grind
    ·rw [Qi.mul_im]
     show (((d * (x j).den:Nat):Int):Rat) * (x j).im + 0 * (x j).re = ((d * (x j).b:Int):Rat)
     have:=hm.2; push_cast at *; grind
    ·rw [hpow]; exact qG (by simpa using dl) (Nat.le_of_lt hx.1)
    ·rw [hpow]; exact qG (by simpa using dl) (Nat.le_of_lt hx.2.1)
   ·obtain ⟨p, q, e1, h1, h2⟩ := hd j zo
    have er:=congrArg Qi.re e1; have ei:=congrArg Qi.im e1
    rw [Qi.mul_re] at er; rw [Qi.mul_im] at ei
    refine ⟨p * (x k).den,q * (x k).den,Qi.ext' ?_ ?_,?_,?_⟩
    ·rw [Qi.mul_re]
     have er:((d:Int):Rat) * (x j).re - 0 * (x j).im = (p:Rat):=er
     show (((d * (x k).den:Nat):Int):Rat) * (x j).re - 0 * (x j).im = ((p * (x k).den:Int):Rat)
     push_cast at *; grind
    ·rw [Qi.mul_im]
     have ei:((d:Int):Rat) * (x j).im + 0 * (x j).re = (q:Rat):=ei
     show (((d * (x k).den:Nat):Int):Rat) * (x j).im + 0 * (x j).re = ((q * (x k).den:Int):Rat)
     push_cast at *; grind
    ·rw [hpow]; exact qG h1 (by simpa using Nat.le_of_lt hx.2.2)
    ·rw [hpow]; exact qG h2 (by simpa using Nat.le_of_lt hx.2.2)
theorem Yq {d : Nat} (h : 0 < d) : Qi.ofInt d ≠ 0 := fun e => by
 have:=congrArg Qi.re e
 have h2:((d:Int):Rat) = ((0:Int):Rat):=this
 rw [Rat.intCast_inj] at h2; omega
end
section
open Go Go.RowKit
theorem Zv {M:List (List Qi)} {b:List Qi} {n m L K:Nat} (h:dT M n n) (hM:bP M L) (hb:dA b L) (hL:1 ≤ L) (hn:n ≤ m) (hbig:fs n (BB ^ ((m + 1) * L)) < BB ^ K) (hK:1 ≤ K) (hE:kA M b n = 0):dA (lB M b n) (4 * K + 2):=by
 obtain ⟨s1,s2⟩:=oD h hE
 have hrow : ∀ i, ∃ d : Nat, 0 < d ∧ ∀ j, j < n + 1 → Gb (Qi.ofInt d * (if j < n then gm M i j else gv b i)) (BB ^ ((m + 1) * L)) := fun i => by
  obtain ⟨d, d0, _, hd⟩ := Ro (L := L) (x := fun j => if j < n then gm M i j else gv b i) (n + 1) fun j _ => by
   show aO (if j < n then gm M i j else gv b i) L
   split
   ·exact hM.get hL i j
   ·exact hb.get hL i
  exact ⟨d,d0,fun j hj=>(hd j hj).le (Nat.pow_le_pow_right fL (Nat.mul_le_mul_right _ zo))⟩
 have hd:∃ d:Nat → Nat,∀ i,0 < d i ∧ ∀ j,j < n + 1 → Gb (Qi.ofInt (d i) * (if j < n then gm M i j else gv b i)) (BB ^ ((m + 1) * L)):=⟨fun i=>Classical.choose (hrow i),fun i=>Classical.choose_spec (hrow i)⟩
 obtain ⟨d,hd⟩:=hd
 have cancel : ∀ {i : Nat} {u : Qi}, Qi.ofInt (d i) * u = 0 → u = 0 := fun {i u} hu => by
  rcases nZ hu with k | k
  ·exact absurd k (Yq (hd i).1)
  ·exact k
 have hsum : ∀ (i : Nat) (v : Nat → Qi), aH n (fun k => Qi.ofInt (d i) * (if k < n then gm M i k else gv b i) * v k) = Qi.ofInt (d i) * aH n (fun k => gm M i k * v k) := fun i v => by
  rw [Qi.mul_comm',← oE]
  exact bA fun k hk=>by rw [if_pos hk]; grind
 have hN:1 ≤ BB ^ ((m + 1) * L):=Nat.pow_pos fL
 obtain ⟨y, e, he, ge, gy, hy⟩ := Xm n (BB ^ ((m + 1) * L)) (fun i j => Qi.ofInt (d i) * (if j < n then gm M i j else gv b i)) hN (fun i _ j hj => (hd i).2 j zo) (fun v hv => s2 v fun i hi => by
  have:=hv i hi
  simp only [] at this
  rw [hsum] at this
  exact cancel this)
 have hsol : ∀ k, k < n → y k - e * gv (lB M b n) k = 0 := s2 (fun k => y k - e * gv (lB M b n) k) fun i hi => by
  have h1:=hy i hi
  rw [hsum,if_neg zo] at h1
  have h2:=s1 i hi
  have h3 : aH n (fun k => gm M i k * (y k - e * gv (lB M b n) k)) = aH n (fun k => gm M i k * y k) - e * aH n (fun k => gm M i k * gv (lB M b n) k) := by
   rw [← rI]; exact bA fun k _=>by grind
  rw [h3,h2]
  exact cancel (i:=i) (by grind)
 intro x hx
 obtain ⟨k,hk,rfl⟩:=List.mem_iff_getElem.1 hx
 rw [tN] at hk
 have hg:(lB M b n)[k] = gv (lB M b n) k:=by simp [gv,List.getD,tN,hk]
 rw [hg]
 have e1:gv (lB M b n) k = y k / e:=(a3i he (by have:=hsol k hk; grind)).symm
 haveI f1:aO (y k) K:=(gy k hk).fit hbig hK
 haveI f2:aO e K:=ge.fit hbig hK
 rw [e1]
 exact (fitDiv (x:=y k) (y:=e)).le zo
end
section
open Go Go.RowKit
def My (l : List Nat) (p : Nat) : Nat → Int
 | 0=>-1
 | k + 1=>if l.getD (l.length - (k + 1)) 0 = p then ((l.length - (k + 1):Nat):Int) else My l p k
def wU (l:List Nat) (p:Nat):Int:=My l p l.length
theorem a2q (l : List Nat) (p : Nat) : ∀ k, My l p k = -1 ∨ (0 ≤ My l p k ∧ (My l p k).toNat < l.length ∧ l.getD (My l p k).toNat 0 = p) ∨ l.length < k
 | 0=>.inl rfl
 | k + 1 => by
  rw [My]
  by_cases c:l.length < k + 1
  ·exact .inr (.inr c)
  ·by_cases e : l.getD (l.length - (k + 1)) 0 = p
   ·rw [if_pos e]; exact .inr (.inl ⟨by omega,by rw [Int.toNat_natCast]; omega,by rw [Int.toNat_natCast]; exact e⟩)
   ·rw [if_neg e]
    rcases a2q l p k with h | h | h
    ·exact .inl h
    ·exact .inr (.inl h)
    ·omega
theorem Kg (l:List Nat) (p:Nat):wU l p = -1 ∨ (0 ≤ wU l p ∧ (wU l p).toNat < l.length ∧ l.getD (wU l p).toNat 0 = p):=by
 rcases a2q l p l.length with h | h | h
 ·exact .inl h
 ·exact .inr h
 ·omega
theorem Xu {l : List Nat} {p : Nat} : ∀ {k : Nat}, k ≤ l.length → My l p k < 0 → ∀ x, l.length - k ≤ x → x < l.length → l.getD x 0 ≠ p
 | 0,_,_,x,h1,h2=>by omega
 | k + 1, hk, h, x, h1, h2 => by
  rw [My] at h
  by_cases e:l.getD (l.length - (k + 1)) 0 = p
  ·rw [if_pos e] at h; omega
  ·rw [if_neg e] at h
   by_cases c:x = l.length - (k + 1)
   ·rw [c]; exact e
   ·exact Xu (k:=k) zo h x zo h2
theorem Hi {l:List Nat} {p:Nat}:0 ≤ wU l p ↔ p ∈ l:=by
 constructor
 ·intro h
  rcases Kg l p with k | ⟨_,k1,k2⟩
  ·omega
  ·rw [← k2,show l.getD (wU l p).toNat 0 = l[(wU l p).toNat] by simp [List.getD,k1]]; exact List.getElem_mem k1
 ·intro h
  apply Classical.byContradiction; intro hn
  obtain ⟨x,hx,e⟩:=List.getElem_of_mem h
  exact Xu (l:=l) (p:=p) (Nat.le_refl _) (show My l p l.length < 0 by have:¬ 0 ≤ My l p l.length:=hn; omega) x zo hx (by rw [show l.getD x 0 = l[x] by simp [List.getD,hx]]; exact e)
def zH (js:List (Int × Int)):List Nat:=tab (2 * js.length) (gq (cB js))
def oU (js:List (Int × Int)):List Nat:=tab (2 * js.length) fun x=>gq (cB js) (iN x)
theorem Ay {α:Type} (f:Nat → α) (k:Nat):tab (2 * (k + 1)) f = tab (2 * k) f ++ [f (2 * k),f (2 * k + 1)]:=by
 rw [show 2 * (k + 1) = 2 * k + 1 + 1 by omega,oF,oF,List.append_assoc]; rfl
theorem Qj (js:List (Int × Int)):zH js = nM js:=by
 have h:=yY (l:=nM js) (m:=2 * js.length) (Ak js)
 rw [h]
 refine (cT fun x hx=>?_).symm
 exact Hl hx
theorem Rk (k:Nat):iN (2 * k) = 2 * k + 1 ∧ iN (2 * k + 1) = 2 * k:=by
 constructor
 ·rw [iN,if_pos zo]
 ·rw [iN,if_neg zo]; omega
theorem Ya {js:List (Int × Int)} {n k:Nat} (hp:pP n (lC js) = 0) (hk:k < js.length):(iH js k).1 - 1 = ((gq (cB js) (2 * k):Nat):Int) ∧ (iH js k).2 - 1 = ((gq (cB js) (2 * k + 1):Nat):Int) ∧ -1000 ≤ (iH js k).1 ∧ (iH js k).1 ≤ n ∧ -1000 ≤ (iH js k).2 ∧ (iH js k).2 ≤ n:=by
 have hmm:=fun x hx=>Cr hp x hx
 have hm1:(iH js k).1 ∈ lC js:=by rw [lC,List.mem_flatMap]; exact ⟨iH js k,by rw [show iH js k = js[k] by simp [iH,List.getD,hk]]; exact List.getElem_mem hk,by simp⟩
 have hm2:(iH js k).2 ∈ lC js:=by rw [lC,List.mem_flatMap]; exact ⟨iH js k,by rw [show iH js k = js[k] by simp [iH,List.getD,hk]]; exact List.getElem_mem hk,by simp⟩
 have hb1:=hmm _ hm1
 have hb2:=hmm _ hm2
 obtain ⟨e1,e2⟩:=a4I hk
 rw [e1,e2]
 exact ⟨by show _ = (((iH js k).1 - 1).toNat:Int); omega,by show _ = (((iH js k).2 - 1).toNat:Int); omega,by omega,by omega,by omega,by omega⟩
def zV (S:List (List Qi)) (js:List (Int × Int)) (x:Nat):List Qi:=lB (mU S (cB js) (2 * js.length)) (ek (2 * js.length) x) (2 * js.length)
def wT (i k:Nat):Qi:=if k = i then Qi.ofInt 1 else Qi.ofInt 0
def vK (S:List (List Qi)) (js:List (Int × Int)) (i k:Nat):Qi:=if 0 ≤ wU (oU js) k then wT i k + aH (2 * js.length) (fun y=>gm S i (gq (cB js) y) * gv (zV S js (wU (oU js) k).toNat) y) else wT i k
def Ca (S:List (List Qi)) (js:List (Int × Int)) (N:Nat):List (List Qi):=(nH (nM js) N).map fun i=>tab N fun k=>vK S js i k
theorem Qa (i k:Nat):aO (wT i k) 1:=by
 unfold wT; split
 ·exact wQ
 ·exact (aO.zero (Nat.le_refl 1):aO Qi.zero 1)
theorem Qc {S:List (List Qi)} {js:List (Int × Int)} {i t L G:Nat} {v:List Qi} (hf:bP S L) (hL:1 ≤ L) (hv:dA v G) (hG:1 ≤ G) (ht:t ≤ 8):aO (aH t fun y=>gm S i (gq (cB js) y) * gv v y) (8 * (L + G) + 17):=by
 refine (aO.sum (L:=L + G + 1) fun y _=>?_).le ?_
 ·haveI := hf.get hL i (gq (cB js) y); haveI := hv.get hG y
  exact fitMul
 ·have : t * (L + G + 1 + 1) ≤ 8 * (L + G + 1 + 1) := Nat.mul_le_mul_right _ ht
  omega
end
section
open Go Go.RowKit
theorem a3q {f:Nat → List Qi} {l:List Nat} {a k:Nat} (h:a < l.length):gm (l.map f) a k = gv (f (gY l a)) k:=by simp [gm,gY,List.getD,h]
section
variable {z:List Qi} {s c:List (List Qi)} {g t:Qi} {p:Nat}
theorem a14 {S:List (List Qi)} {js:List (Int × Int)} {i k L G:Nat} (hf:bP S L) (hL:1 ≤ L) (hv:∀ x,dA (zV S js x) G) (hG:1 ≤ G) (hj:2 * js.length ≤ 8):aO (vK S js i k) (8 * (L + G) + 19):=by
 haveI g3:=Qa i k
 unfold vK
 split
 ·haveI g4 := Qc (i := i) (t := 2 * js.length) (js := js) hf hL (hv (wU (oU js) k).toNat) hG hj
  exact (fitAdd).le zo
 ·exact g3.le zo
theorem Hd {S : List (List Qi)} {js : List (Int × Int)} {N L G : Nat} (hf : bP S L) (hL : 1 ≤ L) (hv : ∀ x, dA (zV S js x) G) (hG : 1 ≤ G) (hj : 2 * js.length ≤ 8) : bP (Ca S js N) (8 * (L + G) + 19) := fun r hr => by
 obtain ⟨i,_,rfl⟩:=List.mem_map.1 hr
 exact dA.tab fun k _=>a14 hf hL hv hG hj
theorem He (S : List (List Qi)) (js : List (Int × Int)) (N : Nat) : dT (Ca S js N) (nH (nM js) N).length N := ⟨by rw [Ca, List.length_map], fun r hr => by
 obtain ⟨i,_,rfl⟩:=List.mem_map.1 hr; exact aC _ _⟩
end
end
section
open Go Go.RowKit
theorem Sq {r n:Nat} (hr:r ≤ 1000) (h1:1 ≤ n) (hn:n ≤ 1000):iA Tryz.prog 97 [NT .i64 r,NT .i64 n] [] (Nat) (fun B=>Is (.slice (some ⟨B,0,none⟩) r r)) (fun B=>[kE eL B 29 51 5 (bN aR (zN r n))]) (fun _=>True):=by
 refine iA.intro Tryz.func97 rfl Tryz.ntmps97 rfl (fun cx Z=>(ts (ro rfl (cQ cV) (eX (ts (rm rfl (rn rfl (eN (T:=Is (.slice none 0 0)) (i:=Tryz.t29) V_30 mX rfl rfl (Ht rfl) rfl (fun _=>rfl) trivial (by show 24 * _ ≤ _; omega) zo) fun B8=>(ra rfl (eX (cK (ts (rm rfl (ro rfl (iI U_30 (Ht rfl)) (ro rfl (cX (cJ 0)) (eX (eG (lE 1 rfl (tA eL ⟨none,0,rfl⟩ (e:=51) (s:=5)) ?_)))))))))))))))))
 refine bO (fun (k : Nat) => k ≤ r) (fun (k : Nat) => r - k) (fun (k : Nat) => [(1, NT .i64 n), (5, Is (.slice (some ⟨B8, 0, none⟩) r r)), (10, NT .i64 r), (11, NT .i64 k)]) (fun (k : Nat) => [Z, kE eL B8 29 51 5 (bN aR (jA (fun _ => (tab n fun _ => Qi.zero)) [] r k))]) 0 (Nat.zero_le _)
  (zS rfl) (aU (fun _ _ _ h=>h) (aU (bI (by rw [← gH,lR]; exact mD aR r)) aY)) (fun k hk=>?_)
 refine ts (ro rfl (gX (Ht rfl) (Ht rfl)) (eX (cK (dQ (Ht rfl) (fun hd=>?_) (fun hd=>?_)))))
 ·simp only [decide_eq_true_eq] at hd
  refine jV 1 (k) rfl (lG hd) (fun v hv=>(cU (cK (eG (ts (rm rfl (ra rfl (eX (cY (rm rfl (rm rfl (ro rfl (cZ K_77 (sH (n:=0) (by decide) (by decide)) ⟨(cJ 0),trivial⟩) (ro rfl (cZ K_98 Ml ⟨(Ht rfl),trivial⟩) (ro rfl (bT (xs:=[.tmp 17]) U_29 Z_51 O_51 (cW (Ht rfl) cG) rfl rfl rfl) (rm rfl (jU Tryz.call191 (Mi (m:=n) h1 hn) ⟨(Ht rfl),(Ht rfl),trivial⟩ rfl (fun B20 _=>?_)))))))))))))))))
  have hB20:=B20.2
  refine ro rfl (fY U_30 Z_29 (Ht rfl) (Ht rfl) rfl zo (by rw [Nat.mul_one,Nat.zero_add])) ?_
  refine sG Z_29 (Ht rfl) (Ht rfl) (by simp only [bN,List.length_map,dC]; omega) (j:=1) (l:=3) rfl rfl rfl ?_
  refine eX (aS (eR 1 3 rfl rfl (by decide) (by simp only [bN,List.length_map,dC]; omega) ?_))
  refine cY (ro rfl (dV (Ht rfl) (cJ 1) z6) (rm rfl (eX (cA [0,1] rfl (by decide) (fU (k + 1) hd zo (zS rfl) (aU (fun _ _ _ h=>h) (aU (bI (by rw [fH,← iQ (f:=fun _=>(tab n fun _=>Qi.zero))])) aY)))))))
 ·simp only [decide_eq_false_iff_not] at hd
  obtain rfl:r = k:=Nat.le_antisymm zo hk
  refine gV rfl (ts (rm rfl (ra rfl (eX ?_))))
  exact jP B8 trivial [0,1] ⟨⟨_,rfl,fun _ _ _ h=>h⟩,⟨_,rfl,(bI (by rw [iP]; rfl))⟩,trivial⟩ (by decide) (tK rfl (eU rfl))
end
section
open Go Go.RowKit
theorem a0s {z:List Qi} {s:List (List Qi)} {q:Int} {o:List Int} (hl:z.length ≤ 1000) (ho:o.length ≤ 1000):bE Tryz.prog 125 [lY z s,aP .i64 q,kL 1 (o.map (aP .i64))] (aP .i64 (eM z.length q o)):=by
 refine bE.intro Tryz.func125 rfl Tryz.ntmps125 rfl (fun cx=>(ts (rn rfl (fG (Ht rfl)) fun B3=>(ro rfl (cQ (cJ 0)) (eX (cK (eG (ts (ro rfl (eJ A_32 Z_32 (Ht rfl) (i:=0) rfl rfl rfl) (rm rfl (ro rfl (cZ Tryz.call106 Pe ⟨(Ht rfl),(Ht rfl),trivial⟩) (ro rfl (gB (Ht rfl)) (ra rfl (eX (dQ (Ht rfl) (fun hb1=>?_) (fun hb1=>?_))))))))))))))))
 ·have h2 : ¬ (1 ≤ q ∧ q ≤ (z.length : Int)) := by simpa only [Bool.not_eq_true', decide_eq_false_iff_not] using hb1
  refine ts (ro rfl (cQ (cJ 1)) (eX (fW rfl (fX (eU rfl) ?_))))
  exact (aM (if_pos h2).symm)
 ·have h2 : 1 ≤ q ∧ q ≤ (z.length : Int) := by simpa using hb1
  refine ts (rm rfl (rm rfl (ro rfl (cZ Tryz.call95 (qK (l:=o) (v:=q) zo) ⟨(Ht rfl),(Ht rfl),trivial⟩) (ra rfl (eX (dQ (Ht rfl) (fun hb2=>?_) (fun hb2=>?_)))))))
  ·refine ts (ro rfl (cQ (cJ 8)) (eX (fW rfl (fX (eU rfl) ?_))))
   exact (aM (by rw [eM,if_neg (fun k=>k h2),if_pos hb2]; rfl))
  ·refine cU (aS (ts (ro rfl (cQ (cJ 0)) (eX (fW rfl (fX (eU rfl) ?_))))))
   exact (aM (by rw [eM,if_neg (fun k=>k h2),if_neg (by rw [hb2]; decide)]; rfl))
theorem Oh {l:List Int} {n i:Nat} {q:Int} (hi:i < n) (hn:n ≤ l.length) (h:l.getD i 0 = q):((l.take n).any fun x=>decide (q = x)) = true:=by
 rw [List.any_eq_true]
 refine ⟨q,?_,by simp⟩
 have e:l.getD i 0 = l[i]:=by simp [List.getD,show i < l.length by omega]
 rw [← h,e]
 exact List.mem_take_iff_getElem.2 ⟨i,by omega,rfl⟩
theorem Uo {l:List Int} {n:Nat} {q:Int} (h:∀ j,j < n → l.getD j 0 ≠ q):((l.take n).any fun x=>decide (q = x)) = false:=by
 rw [List.any_eq_false]
 intro x hx
 obtain ⟨j,hj,rfl⟩:=List.mem_take_iff_getElem.1 hx
 have:=h j zo
 simp [List.getD,show j < l.length by omega] at this
 simpa using Ne.symm this
theorem Wp {l:List Int} {n:Nat} {q:Int} (hn:n ≤ l.length) (hl:l.length ≤ 1000):bE Tryz.prog 254 [kL 1 (l.map (aP .i64)),NT .i64 n,aP .i64 q] (aE ((l.take n).any fun x=>decide (q = x))):=by
 refine bE.intro Tryz.func254 rfl Tryz.ntmps254 rfl (fun cx=>(ts (ro rfl (cQ cV) (eX (cK (ts (ro rfl (cQ (cJ 0)) (eX (eG ?_)))))))))
 refine bO (fun (i : Nat) => i ≤ n ∧ ∀ j, j < i → l.getD j 0 ≠ q) (fun (i : Nat) => n - i) (fun (i : Nat) => [(0, kL 1 (l.map (aP .i64))), (1, NT .i64 n), (2, aP .i64 q), (7, NT .i64 i)]) (fun (i : Nat) => []) 0 ⟨Nat.zero_le _, fun j h => by omega⟩
  (zS rfl) aY (fun i ⟨hi,h0⟩=>?_)
 refine cK (ts (rm rfl (rm rfl (ro rfl (gX (Ht rfl) (Ht rfl)) (eX (dQ (Ht rfl) (fun hd=>?_) (fun hd=>?_)))))))
 ·have hin : i < n := by simp only [decide_eq_true_eq] at hd; omega
  refine cU (cK (eG (ts (rm rfl (rm rfl (ro rfl (dZ U_72 Z_3 (Ht rfl) (Ht rfl) rfl (dY (dU (d:=0) zo))) (ro rfl (dJ A_3 Z_3 (Ht rfl)) (rm rfl (ro rfl (jR (Ht rfl) (Ht rfl)) (eX (dQ (Ht rfl) (fun he=>?_) (fun he=>?_))))))))))))
  ·have h3 : l.getD i 0 = q := by simpa using he
   refine ts (ro rfl (cQ cV) (eX (fW rfl (fX (eU rfl) ?_))))
   exact (eH (Oh hin hn h3).symm)
  ·have h3 : l.getD i 0 ≠ q := by simpa using he
   refine cU (aS (cY (rm rfl (ro rfl (dV (Ht rfl) (cJ 1) z6) (ra rfl (eX ?_))))))
   refine fU (i + 1) ⟨hin, fun j h => by
    by_cases e:j = i
    ·rw [e]; exact h3
    ·exact h0 j zo⟩ zo (zS rfl) aY
 ·have hin : i = n := by simp only [decide_eq_false_iff_not] at hd; omega
  rw [hin] at h0
  refine gV rfl (ts (ro rfl (cQ cV) (eX (fW rfl (fX (eU rfl) ?_)))))
  exact (eH (Uo h0).symm)
theorem Wi {n:Nat} {l:List Int} (hl:l.length ≤ 1000):bE Tryz.prog 212 [NT .i64 n,kL 1 (l.map (aP .i64))] (aP .i64 (pP n l)):=by
 refine bE.intro Tryz.func212 rfl Tryz.ntmps212 rfl (fun cx=>(ts (ro rfl (cQ (cJ 0)) (eX (cK (ts (ro rfl (cQ (cJ 0)) (eX (eG ?_)))))))))
 refine bO (fun (i : Nat) => i ≤ l.length ∧ ∀ j, j < i → (fun i => eM n (l.getD i 0) (l.take i)) j = 0) (fun (i : Nat) => l.length - i) (fun (i : Nat) => [(0, NT .i64 n), (1, kL 1 (l.map (aP .i64))), (5, NT .i64 i)]) (fun (i : Nat) => []) 0 ⟨Nat.zero_le _, fun j h => by omega⟩
  (zS rfl) aY (fun i ⟨hi,h0⟩=>?_)
 refine cK (ts (rm rfl (rm rfl (ro rfl (dG U_72 (Ht rfl) aA) (ro rfl (gX (Ht rfl) (Ht rfl)) (eX (dQ (Ht rfl) (fun hd=>?_) (fun hd=>?_))))))))
 ·have hin : i < l.length := by simp only [decide_eq_true_eq] at hd; omega
  refine cU (cK (eG (cK (ts (rm rfl (rm rfl (ro rfl (dZ U_72 Z_3 (Ht rfl) (Ht rfl) rfl (dY (dU (d:=0) zo))) (ro rfl (dJ A_3 Z_3 (Ht rfl)) (ro rfl (pI (Ht rfl) cV) (rm rfl (fQ rfl rfl (eK rfl rfl (Ht rfl) (fun h=>cX (Ht rfl))) (fQ rfl rfl (eK rfl rfl (Ht rfl) (fun h=>cX (Ht rfl))) (fQ rfl rfl (eK rfl rfl (Ht rfl) (fun h=>dZ U_72 Z_3 (fJ rfl h) (fJ rfl h) rfl (dY (dU (d:=0) zo)))) (fQ rfl rfl (eK rfl rfl (Ht rfl) (fun h=>dJ A_3 Z_3 (fJ rfl h))) ?_))))))))))))))
  refine fQ rfl rfl (eK rfl rfl (Ht rfl) (fun h=>cX (Ht rfl))) (fQ rfl rfl (eK rfl rfl (Ht rfl) (fun h=>yT (fJ rfl h) (fJ rfl h))) (ro rfl (iU (Ht rfl) (fun h=>(fJ rfl h))) (eX (dQ (Ht rfl) (fun he=>?_) (fun he=>?_)))))
  ·have h3 : ¬ (1 ≤ l.getD i 0 ∧ l.getD i 0 ≤ (n : Int)) := by simp only [Bool.or_eq_true, decide_eq_true_eq] at he; omega
   have h4:(fun i=>eM n (l.getD i 0) (l.take i)) i = 1:=if_pos h3
   refine ts (ro rfl (cQ (cJ 1)) (eX (fW rfl (fX (eU rfl) ?_))))
   exact (aM (by rw [pP,lP h0 (fun k=>absurd (h4.symm.trans k) (by decide)) hin]; exact h4.symm))
  ·have h3 : 1 ≤ l.getD i 0 ∧ l.getD i 0 ≤ (n : Int) := by simp only [Bool.or_eq_false_iff, decide_eq_false_iff_not] at he; omega
   refine cU (ts (rm rfl (rm rfl (rm rfl (rm rfl (ro rfl (dZ U_72 Z_3 (Ht rfl) (Ht rfl) rfl (dY (dU (d:=0) zo))) (ro rfl (dJ A_3 Z_3 (Ht rfl)) (ro rfl (cZ Tryz.call254 (Wp (n:=i) (q:=l.getD i 0) zo hl) ⟨(Ht rfl),(Ht rfl),(Ht rfl),trivial⟩) (eX (dQ (Ht rfl) (fun hf=>?_) (fun hf=>?_)))))))))))
   ·have h4 : (fun i => eM n (l.getD i 0) (l.take i)) i = 8 := by show eM _ _ _ = 8; rw [eM, if_neg (fun k => k h3), if_pos hf]
    refine ts (ro rfl (cQ (cJ 8)) (eX (fW rfl (fX (eU rfl) ?_))))
    exact (aM (by rw [pP,lP h0 (fun k=>absurd (h4.symm.trans k) (by decide)) hin]; exact h4.symm))
   ·have h4 : (fun i => eM n (l.getD i 0) (l.take i)) i = 0 := by show eM _ _ _ = 0; rw [eM, if_neg (fun k => k h3), if_neg (by rw [hf]; decide)]
    refine cU (aS (cY (rm rfl (ro rfl (dV (Ht rfl) (cJ 1) z6) (ra rfl (eX ?_))))))
    refine fU (i + 1) ⟨hin, fun j h => by
     by_cases e:j = i
     ·rw [e]; exact h4
     ·exact h0 j zo⟩ zo (zS rfl) aY
 ·have hin : i = l.length := by simp only [decide_eq_false_iff_not] at hd; omega
  rw [hin] at h0
  refine gV rfl (ts (ro rfl (cQ (cJ 0)) (eX (fW rfl (fX (eU rfl) ?_)))))
  exact (aM (gM h0).symm)
end
section
open Go Go.RowKit
section
variable {P:Program} {n:Nat} {E:dE} {H:Hp}
variable {d:Option Tmp} {t:TypeId} {pos:String} {af:Array Edge} {g:Option (Nat × Bool)}
theorem Kq {f : FuncId} {xs : List Operand} {tys : Array TypeId} {Ts : List Ty} {U T0 T1 : Ty} {A : SA} {j tt : Nat} (hc : ∀ args w, (callFunc f args).run P w = .ok (.enter f args) w) (hF : bE P f Ts U)
  (hA:H[j]? = some A) (hl:gD E tt = some T0) (hz:∀ v S V,T0.p v V → A.h S V V → T1.p v V) (hU:∀ v V V',U.p v V → U.p v V') (ha:pM ((tt,T1) :: E) xs Ts) :
  aL P n E H ⟨d,.call ⟨.value (.func f),xs.toArray,tys⟩,t,pos,af,g⟩ U:=fun cx X a w V hi hs K Q hK=>by
 have hrun : (execOp a.eval ⟨d, .call ⟨.value (.func f), xs.toArray, tys⟩, t, pos, af, g⟩).run P w = .ok (.enter f (xs.map a.eval).toArray) w := by
  simp [execOp,resolve,Act.eval,Deferred.ofValue,invoke,hc]
 simp only [Oper.wp,hrun,Oper.upon_enter]
 obtain ⟨F,h1,h2⟩:=hi.hp
 have hjl:=(List.getElem?_eq_some_iff.1 hA).1
 obtain ⟨k1,k2⟩:=h1 j A (by rw [List.getElem?_append_left hjl]; exact hA)
 let V1:bD:=fun b=>if b ∈ F j then w.heap[b]? else V b
 have hle : nF V V1 := fun b o hb => by
  have:b ∉ F j:=fun hf=>by have:=(k2 b hf).1; rw [hb] at this; cases this
  simp only [V1,if_neg this]; exact hb
 have hon : ∀ b o, V1 b = some o → w.heap[b]? = some o := fun b o hb => by
  by_cases hf:b ∈ F j
  ·simp only [V1,if_pos hf] at hb; exact hb
  ·simp only [V1,if_neg hf] at hb; exact hi.on b o hb
 have hA1:A.h (F j) V1 V1:=A.mono (A.loc k1 fun b hb=>by simp only [V1,if_pos hb]; rfl) hle
 have hsl : fD n ((tt, T1) :: E) V1 a := by
  have hs':=hs.mono hle
  refine ⟨hs'.1,hs'.2.1,fun t' T hT=>?_⟩
  rw [dM] at hT
  by_cases e:tt = t'
  ·subst e
   rw [if_pos rfl] at hT; obtain rfl:=Option.some.inj hT
   obtain ⟨v,q1,q2⟩:=hs'.2.2 _ _ hl
   exact ⟨v,q1,hz v (F j) V1 q2 hA1⟩
  ·rw [if_neg e] at hT; exact hs'.2.2 t' T hT
 refine (hF _ V1 w hon (pM.all hsl ha)).mono ?_
 rintro e w' ⟨v,V',rfl,m1,m2,m3,m4,m5⟩
 exact hK v w' V (hi.after (nF.refl V) (fun b o hb=>m2 b o (m1 b o (hle b o hb))) (fun b o hb h0=>by rw [hb] at h0; cases h0) m4) (nF.refl V) (hU v V' V m5)
theorem Tn {x i : Operand} {q : Nat} {Ts : List Ty} {T : Ty} {kd : IntKind} {e : TypeId} {len : Nat} (hU : ∀ w, (underlying t).run P w = .ok (.array len e) w) (hS : ∀ w, (sizeOf e).run P w = .ok 1 w) (hg : ∀ w, (isAgg e).run P w = .ok false w)
  (hx:bF E x (eP Ts)) (hi:bF E i (NT kd q)) (hl:q < len) (hT:Ts[q]? = some T) {t':TypeId}:aL P n E H ⟨d,.index t x i,t',pos,af,g⟩ T :=
 fB fun a V w hs => by
  obtain ⟨vs,e1,e4⟩:=hx n V a hs
  have ei:a.eval i = .int kd (q:Int):=hi n V a hs
  obtain ⟨u,e5,e6⟩:=e4.all.get hT
  exact ⟨u,by simp [execOp,e1,ei,Instr.index,asIntOf,Sem.run_bind,hU,hS,hg,part,Result.andThen,hl,e5],e6⟩
end
end
section
open Go Go.RowKit
theorem Md {n : Nat} {E : dE} {H : Hp} {d : Option Tmp} {t : TypeId} {pos : String} {af : Array Edge} {g : Option (Nat × Bool)} {x0 x1 : Operand} {T0 T1 : Ty} [s0 : dR T0 1 false] (h0 : bF E x0 T0) [s1 : dR T1 1 false] (h1 : bF E x1 T1) :
  aL Tryz.prog n E H ⟨d,.build 71 #[(0,x0),(1,x1)],t,pos,af,g⟩ (eP [T0,T1]) :=
 fS (parts := [(0, x0), (1, x1)]) fun a V w hs => by
  have p0:=h0 n V a hs
  generalize e0:a.eval x0 = v0 at p0
  have q0:=(s0.ok v0 V p0).2.2 rfl
  have p1:=h1 n V a hs
  generalize e1:a.eval x1 = v1 at p1
  have q1:=(s1.ok v1 V p1).2.2 rfl
  refine ⟨.agg #[v0,v1],?_,[v0,v1],rfl,aW (⟨p0,q0⟩) (aW (⟨p1,q1⟩) (aG))⟩
  simp [e0,e1,Instr.build,Instr.fill,Sem.run_bind,Result.andThen,eS,q0.cells,q1.cells,O_71,U_71,Z_3]
theorem a17:Tryz.prog.info? 71 = some Tryz.t71:=by kernel_rfl
theorem a42:Tryz.prog.underlying 26 = some (.slice 71):=by kernel_rfl
end
section
open Go Go.RowKit
theorem Wb {z:List Qi} {S:List (List Qi)} {js:List (Int × Int)} {L:Nat} (hfz:dA z L) (hL:1 ≤ L) (hLb:L ≤ 1000000) (hz:z.length ≤ 1000) (hj:js.length ≤ 100):bE Tryz.prog 117 [lY z S,Ii js] (gC [kL 1 ((jeL z js).map (aP .i64)),aP .i64 (zG z js)]):=by
 refine bE.intro Tryz.func117 rfl Tryz.ntmps117 rfl (fun cx=>(ts (rn rfl (fG (Ht rfl)) fun B2=>(ro rfl (cQ cV) (ro rfl (cQ (cJ 0)) (eX (ts (ro rfl (cQ cV) (eX (cK (cK (oZ 3 1 (cY (rm rfl (ro rfl (dG U_26 (Ht rfl) aA) (ro rfl (cX (cJ 0)) (eX (eG ?_))))))))))))))))))
 refine eA (fun (k : Nat) (vG : Value) => k ≤ js.length ∧ ∀ j, j < k → rC z js j = 0) (fun (k : Nat) (vG : Value) => js.length - k) (fun (k : Nat) (vG : Value) => [(1, Ii js), (2, bR B2 0), (6, Is vG), (12, Ii js), (13, NT .i64 js.length), (14, NT .i64 k)]) (fun (k : Nat) (vG : Value) => [box B2 32 [cD z, cM S], bH 3 1 vG ((lC (js.take k)).map (aP .i64))]) 0 _ ⟨Nat.zero_le _, fun j h => by omega⟩
  (zS rfl) (aU (aB rfl) (aU (aD rfl) aY)) (fun k vG ⟨hk,h0⟩=>?_)
 refine ts (ro rfl (gX (Ht rfl) (Ht rfl)) (eX (cK (dQ (Ht rfl) (fun hd=>?_) (fun hd=>?_)))))
 ·have hkn : k < js.length := by simp only [decide_eq_true_eq] at hd; omega
  have hjk:=mY (js.take k)
  refine cU (cK (eG (ts (ro rfl (dZ U_26 Z_71 (Ht rfl) (Ht rfl) rfl (dY (dU (d:=(0,0)) hkn))) (ro rfl (dJ Tryz.isAgg71 Z_71 (Ht rfl)) (rn rfl (eW (Ts:=[Is (.int .i64 0),Is (.int .i64 0)]) O_71 rfl (fun V=>aW zd (aW zd (aG)))) fun B8=>(gQ Z_71 (Ht rfl) (Ht rfl) rfl (i:=2) rfl (aK rfl) rfl rfl (eX (cK (cK (gJ (i:=2) (tt:=8) rfl rfl Hc (cY (ro rfl (dJ Tryz.isAgg71 Z_71 (Ht rfl)) ?_)))))))))))))
  refine ro rfl (cX (cJ 0)) (eX (eG (cA [0,1] rfl (by decide) ?_)))
  refine eA (fun (i : Nat) (vI : Value) => i ≤ 2 ∧ ∀ x, x < i → Hr z js k x = 0) (fun (i : Nat) (vI : Value) => 2 - i) (fun (i : Nat) (vI : Value) => [(1, Ii js), (2, bR B2 0), (6, Is vI), (8, PT (JT (iH js k))), (12, Ii js), (13, NT .i64 js.length), (14, NT .i64 k), (18, JT (iH js k)), (19, NT .i64 i)]) (fun (i : Nat) (vI : Value) => [box B2 32 [cD z, cM S], bH 3 1 vI ((lC (js.take k) ++ (Kt (iH js k)).take i).map (aP .i64))]) 0 _ ⟨Nat.zero_le _, fun x h => by omega⟩
   (zS rfl) (aU (aB rfl) (aU (aD (by rw [List.take_zero,List.append_nil])) aY)) (fun i vI ⟨hi,h1⟩=>?_)
  refine ts (ro rfl (gX (Ht rfl) (cJ 2)) (eX (cK (dQ (Ht rfl) (fun he=>?_) (fun he=>?_)))))
  ·have hi2 : i < 2 := by simp only [decide_eq_true_eq] at he; omega
   have hol:(lC (js.take k) ++ (Kt (iH js k)).take i).length ≤ 300:=by rw [List.length_append,hjk,List.length_take,List.length_take]; omega
   refine cU (cK (eG (ts (ro rfl (Tn U_71 Z_3 A_3 (Ht rfl) (Ht rfl) zo (a1L hi2)) (ra rfl (eX (cK (ts (ro rfl (eJ A_32 Z_32 (Ht rfl) (i:=0) rfl rfl rfl) (rm rfl (rm rfl (ro rfl (Kq Tryz.call125 (a0s (z:=z) (s:=S) (q:=(Kt (iH js k)).getD i 0) (o:=lC (js.take k) ++ (Kt (iH js k)).take i) hz zo) (j:=1) (tt:=24) rfl rfl eC (fun _ _ _ h=>h) ⟨(Ht rfl),(Ht rfl),(Ht rfl),trivial⟩) (ra rfl (eX (ts (rm rfl (ro rfl (kR (Ht rfl) cV) (eX (dQ (Ht rfl) (fun hf=>?_) (fun hf=>?_))))))))))))))))))))
   ·have h3 : Hr z js k i ≠ 0 := by simp only [Bool.not_eq_true', decide_eq_false_iff_not] at hf; exact hf
    have h4:=a4K hi2 h1 h3
    have h5:sV z js = Hr z js k i:=(lP h0 (by rw [h4]; exact h3) hkn).trans h4
    have h6:zG z js = Hr z js k i:=(Hk (by rw [h5]; exact h3)).trans h5
    refine ts (rm rfl (ro rfl (cQ cV) (ra rfl (eX (bM rfl (fX (eU rfl) ?_) (fX (eU rfl) ?_))))))
    ·exact (fun v V h=>by rw [jeL,dL,h6,if_neg h3]; exact iR v V h)
    ·exact (aM h6.symm)
   ·have h3 : Hr z js k i = 0 := by simp only [Bool.not_eq_false', decide_eq_true_eq] at hf; exact hf
    refine cU (cY (rm rfl (rm rfl (ro rfl (bT (xs:=[.tmp 30]) U_72 Z_3 O_3 (cW (Ht rfl) cG) rfl rfl rfl) (iD (inf:=Tryz.t3) sB rS rfl rfl rfl (Ht rfl) (Ht rfl) (i:=1) rfl (by simp) (fun T hT=>by simp at hT; subst hT; exact El.one) (by show _ * 8 ≤ _; simp only [List.length_map,List.length_cons,List.length_nil]; omega) (by simp only [List.length_map,List.length_cons,List.length_nil]; omega) rfl (fun v2=>?_))))))
    refine ra rfl (eX (aS (cY (ro rfl (dV (Ht rfl) (cJ 1) z6) (rm rfl (eX ?_))))))
    refine fU (i + 1, v2) ⟨hi2, fun x hx => by
      by_cases e:x = i
      ·rw [e]; exact h3
      ·exact h1 x zo⟩ (by dsimp only; omega) (zS rfl) (aU (aB rfl) (aU (aD (by rw [Ze hi2,← List.append_assoc,List.map_append (l₁:=lC (js.take k) ++ (Kt (iH js k)).take i)]; rfl)) aY))
  ·obtain rfl : i = 2 := by simp only [decide_eq_false_iff_not] at he; omega
   obtain ⟨⟨p1,p2⟩,⟨p3,p4⟩,h3⟩:=a4L h1
   have hrow:lC (js.take (k + 1)) = lC (js.take k) ++ (Kt (iH js k)).take 2:=sW hkn
   haveI g1:=hfz.get hL ((iH js k).1 - 1).toNat
   haveI g2:=hfz.get hL ((iH js k).2 - 1).toNat
   refine gV rfl (cK (fZ (m:=14) (dp 2 rfl (eZ pZ (Ht rfl) rfl) (dq 34 0 rfl (eY A_29 Z_29 (Ht rfl) (i:=0) rfl rfl) (dp 8 rfl (kW U_71 Z_3 (Ht rfl) cV rfl (by decide) rfl) (dq 36 2 rfl (dJ A_3 Z_3 (Ht rfl)) (dq 37 3 rfl (fA (Ht rfl) cV (r:=((((iH js k).1 - 1).toNat:Nat):Int)) ((tQ (z:=(iH js k).1 - 1) zo).trans zo)) ?_)))))))
   refine cL 35 1 38 4 rfl (dZ U_29 Z_51 (Ht rfl) (Ht rfl) rfl (dY (dU (d:=Qi.zero) zo))) (dq 39 5 rfl (dJ A_51 Z_51 (Ht rfl)) (dp 2 rfl (eZ pZ (Ht rfl) rfl) (dq 41 7 rfl (eY A_29 Z_29 (Ht rfl) (i:=0) rfl rfl) (dp 8 rfl (kW U_71 Z_3 (Ht rfl) cV rfl (by decide) rfl) (dq 43 9 rfl (dJ A_3 Z_3 (Ht rfl)) (dq 44 10 rfl (fA (Ht rfl) cV (r:=((((iH js k).2 - 1).toNat:Nat):Int)) ((tQ (z:=(iH js k).2 - 1) zo).trans zo)) ?_))))))
   refine cL 42 8 45 11 rfl (dZ U_29 Z_51 (Ht rfl) (Ht rfl) rfl (dY (dU (d:=Qi.zero) zo))) (dq 46 12 rfl (dJ A_51 Z_51 (Ht rfl)) (fV aT rfl (by kernel_rfl) (zF (zF (zF (aJ (aJ (aV (ro rfl (cZ Tryz.call139 (a2X (x:=gv z ((iH js k).1 - 1).toNat) (y:=gv z ((iH js k).2 - 1).toNat) (L:=L) (M:=L) zo zo) ⟨(Ht rfl),(Ht rfl),trivial⟩) (ro rfl (gB (Ht rfl)) ?_))))))))))
   refine eX (dQ (Ht rfl) (fun hg=>?_) (fun hg=>?_))
   ·have h4 : rC z js k = 40 := by rw [h3, if_neg (by simpa using hg)]
    have h5:sV z js = 40:=(lP h0 (by rw [h4]; decide) hkn).trans h4
    have h6:zG z js = 40:=(Hk (by rw [h5]; decide)).trans h5
    refine ts (ro rfl (cQ cV) (ro rfl (cQ (cJ 40)) (eX (bM rfl (fX (eU rfl) ?_) (fX (eU rfl) ?_)))))
    ·exact (fun v V h=>by rw [jeL,dL,h6]; exact iR v V h)
    ·exact (aM h6.symm)
   ·have h4 : rC z js k = 0 := by rw [h3, if_pos (by simpa using hg)]
    refine cU (aS (cY (ro rfl (dV (Ht rfl) (cJ 1) z6) (rm rfl (eX ?_)))))
    refine fU (k + 1, vI) ⟨hkn, fun j h => by
      by_cases e:j = k
      ·rw [e]; exact h4
      ·exact h0 j zo⟩ (by dsimp only; omega) (zS rfl) (aU (aB rfl) (aU (aD (by rw [hrow])) aY))
 ·obtain rfl : k = js.length := by simp only [decide_eq_false_iff_not] at hd; omega
  have h2:sV z js = 0:=gM h0
  have hll:=mY js
  rw [List.take_length]
  refine gV rfl (cK (ts (rm rfl (ro rfl (oO U_72 (Ht rfl) (i:=1) rfl aA) (ro rfl (eE (Ht rfl) (cJ 0)) (rm rfl (fQ rfl rfl (eK rfl rfl (Ht rfl) (fun h=>cX (Ht rfl))) (fQ rfl rfl (eK rfl rfl (Ht rfl) (fun h=>oO U_72 (fJ rfl h) (i:=1) rfl aA)) (fQ rfl rfl (eK rfl rfl (Ht rfl) (fun h=>eZ pZ (Ht rfl) rfl)) (fQ rfl rfl (eK rfl rfl (Ht rfl) (fun h=>eY A_29 Z_29 (fJ rfl h) (i:=0) rfl rfl)) (fQ rfl rfl (eK rfl rfl (Ht rfl) (fun h=>dG U_29 (fJ rfl h) aA)) ?_)))))))))))
  refine fQ rfl rfl (eK rfl rfl (Ht rfl) (fun h=>cP (fJ rfl h) (fJ rfl h))) (ro rfl (fF (Ht rfl) (fun h=>(fJ rfl h))) (eX (dQ (Ht rfl) (fun hc=>?_) (fun hc=>?_))))
  ·have h3 : 0 < 2 * js.length ∧ 2 * js.length = z.length := by simpa [hll] using hc
   have h6:zG z js = 4:=Qf h2 h3
   refine ts (ro rfl (cQ cV) (ro rfl (cQ (cJ 4)) (eX (bM rfl (fX (eU rfl) ?_) (fX (eU rfl) ?_)))))
   ·exact (fun v V h=>by rw [jeL,dL,h6]; exact iR v V h)
   ·exact (aM h6.symm)
  ·have h3 : ¬ (0 < 2 * js.length ∧ 2 * js.length = z.length) := by simpa [hll] using hc
   have h6:zG z js = 0:=Qe h2 h3
   refine gJ (i:=1) (tt:=6) rfl rfl eC (cU (ts (rm rfl (ra rfl (ro rfl (cQ (cJ 0)) (eX (bM rfl (fX (eU rfl) ?_) (fX (eU rfl) ?_))))))))
   ·exact (kS (by rw [jeL,dL,h6]; rfl))
   ·exact (aM h6.symm)
theorem Sm {z:List Qi} {S:List (List Qi)} {js:List (Int × Int)} {L:Nat} (hfz:dA z L) (hL:1 ≤ L) (hLb:L ≤ 1000000) (hz:z.length ≤ 1000) (hj:js.length ≤ 100):bE Tryz.prog 197 [oI z S,Ii js] (gC [Uy (dL (sV z js) (cB js)),aP .i64 (sV z js)]):=by
 have hpl:=wY js
 refine bE.intro Tryz.func197 rfl Tryz.ntmps197 rfl (fun cx=>(ts (rn rfl (fG (Ht rfl)) fun B2=>(ro rfl (cQ cV) (ro rfl (cQ (cJ 0)) (eX (ts (rn rfl (mO U_72 Z_3 O_3) fun B12=>(ra rfl (eX (ts (rn rfl (mO U_26 Z_71 O_71) fun B13=>(ra rfl (eX (cK (ts (ro rfl (cQ (cJ 0)) (eX (eG ?_)))))))))))))))))))
 refine iB (fun (k : Nat) (vG : Value) (vP : Value) => k ≤ js.length ∧ ∀ j, j < k → rC z js j = 0) (fun (k : Nat) (vG : Value) (vP : Value) => js.length - k) (fun (k : Nat) (vG : Value) (vP : Value) => [(1, Ii js), (2, bR B2 0), (6, Is vG), (7, Is vP), (8, NT .i64 k)]) (fun (k : Nat) (vG : Value) (vP : Value) => [box B2 38 [oQ z, QM S], bH 3 1 vG ((lC (js.take k)).map (aP .i64)), bH 71 2 vP (((cB js).take k).map PrT)]) 0 _ _ ⟨Nat.zero_le _, fun j h => by omega⟩
  (zS rfl) (aU (aB rfl) (aU (aD rfl) (aU (aD rfl) aY))) (fun k vG vP ⟨hk,h0⟩=>?_)
 refine cK (ts (rm rfl (rm rfl (ro rfl (dG U_26 (Ht rfl) aA) (ro rfl (gX (Ht rfl) (Ht rfl)) (eX (dQ (Ht rfl) (fun hd=>?_) (fun hd=>?_))))))))
 ·have hkn : k < js.length := by simp only [decide_eq_true_eq] at hd; omega
  have hjk:=mY (js.take k)
  have hjt:(js.take k).length ≤ 100:=by rw [List.length_take]; omega
  have hkt:((cB js).take k).length ≤ 100:=by rw [List.length_take]; omega
  have hjk2:(lC (js.take (k + 1))).length ≤ 1000:=by rw [mY,List.length_take]; omega
  have hrow:lC (js.take (k + 1)) = lC (js.take k) ++ [(iH js k).1,(iH js k).2]:=sW hkn
  refine cU (cK (eG (cK (fZ (m:=12) (dp 6 rfl (cX (Ht rfl)) (dp 1 rfl (cX (Ht rfl)) (dp 8 rfl (cX (Ht rfl)) (cL 21 1 22 2 rfl (dZ U_26 Z_71 (Ht rfl) (Ht rfl) rfl (dY (dU (d:=(0,0)) hkn))) (dq 23 3 rfl (kW U_71 Z_3 (Ht rfl) cV rfl (by decide) rfl) (dq 24 4 rfl (dJ A_3 Z_3 (Ht rfl)) (dp 1 rfl (cX (Ht rfl)) (dp 8 rfl (cX (Ht rfl)) (cL 26 6 27 7 rfl (dZ U_26 Z_71 (Ht rfl) (Ht rfl) rfl (dY (dU (d:=(0,0)) hkn))) ?_)))))))))))))
  refine dq 28 8 rfl (kW U_71 Z_3 (Ht rfl) cV rfl (by decide) rfl) (dq 29 9 rfl (dJ A_3 Z_3 (Ht rfl)) (cL 25 5 30 10 rfl (bT (xs:=[.tmp 25,.tmp 30]) U_72 Z_3 O_3 (cW (Ht rfl) (cW (Ht rfl) cG)) rfl rfl rfl) (fV aT rfl (by kernel_rfl) (zF (zF (zF (aV (iD (inf:=Tryz.t3) sB rS rfl rfl rfl (Ht rfl) (Ht rfl) (i:=1) rfl (by simp) (fun T hT=>by simp at hT; rcases hT with rfl | rfl <;> exact El.one) (by show _ * 8 ≤ _; simp only [List.length_map,List.length_cons,List.length_nil]; omega) (by simp only [List.length_map,List.length_cons,List.length_nil]; omega) rfl (fun v2=>?_)))))))))
  refine ra rfl (eX (cK (cK (lE 1 rfl (aD (e:=3) (s:=1) (by rw [hrow,List.map_append]; rfl:_ = (lC (js.take (k + 1))).map (aP .i64))) ?_))))
  refine cY (ro rfl (eZ kU (Ht rfl) rfl) (ro rfl (eY A_35 Z_35 (Ht rfl) (i:=0) rfl rfl) (ro rfl (dG U_35 (Ht rfl) aA) (rm rfl (ro rfl (Kq Tryz.call212 (Wi (n:=z.length) (l:=lC (js.take (k + 1))) hjk2) (j:=1) (tt:=36) rfl rfl eC (fun _ _ _ h=>h) ⟨(Ht rfl),(Ht rfl),trivial⟩) (ra rfl (eX (ts (rm rfl (ro rfl (kR (Ht rfl) cV) (eX (dQ (Ht rfl) (fun hf=>?_) (fun hf=>?_)))))))))))))
  ·have h3 : pP z.length (lC (js.take (k + 1))) ≠ 0 := by simpa using hf
   have h4:rC z js k = pP z.length (lC (js.take (k + 1))):=by rw [Qo hkn h0,if_pos h3]
   have h5:sV z js = pP z.length (lC (js.take (k + 1))):=(lP h0 (by rw [h4]; exact h3) hkn).trans h4
   refine ts (rm rfl (ro rfl (cQ cV) (ra rfl (eX (bM rfl (fX (eU rfl) ?_) (fX (eU rfl) ?_))))))
   ·exact (fun v V h=>by rw [dL,h5,if_neg h3]; exact iR v V h)
   ·exact (aM h5.symm)
  ·have h3 : pP z.length (lC (js.take (k + 1))) = 0 := by simpa using hf
   have h4:rC z js k = if gv z ((iH js k).1 - 1).toNat = gv z ((iH js k).2 - 1).toNat then 0 else 40:=by rw [Qo hkn h0,if_neg (fun k=>k h3)]
   obtain ⟨⟨p1,p2⟩,p3,p4⟩:=a4J h3 hkn
   haveI g1:=hfz.get hL ((iH js k).1 - 1).toNat
   haveI g2:=hfz.get hL ((iH js k).2 - 1).toNat
   refine cU (cK (fZ (m:=13) (dp 1 rfl (cX (Ht rfl)) (dp 8 rfl (cX (Ht rfl)) (cL 41 0 42 1 rfl (dZ U_26 Z_71 (Ht rfl) (Ht rfl) rfl (dY (dU (d:=(0,0)) hkn))) (dq 43 2 rfl (kW U_71 Z_3 (Ht rfl) cV rfl (by decide) rfl) (dq 44 3 rfl (dJ A_3 Z_3 (Ht rfl)) (dq 45 4 rfl (fA (Ht rfl) cV (r:=((((iH js k).1 - 1).toNat:Nat):Int)) ((tQ (z:=(iH js k).1 - 1) zo).trans zo)) ?_))))))))
   refine dp 1 rfl (cX (Ht rfl)) (dp 8 rfl (cX (Ht rfl)) (cL 47 6 48 7 rfl (dZ U_26 Z_71 (Ht rfl) (Ht rfl) rfl (dY (dU (d:=(0,0)) hkn))) (dq 49 8 rfl (kW U_71 Z_3 (Ht rfl) cV rfl (by decide) rfl) (dq 50 9 rfl (dJ A_3 Z_3 (Ht rfl)) (dq 51 10 rfl (fA (Ht rfl) cV (r:=((((iH js k).2 - 1).toNat:Nat):Int)) ((tQ (z:=(iH js k).2 - 1) zo).trans zo)) ?_)))))
   refine dq 46 5 rfl (cQ (Ht rfl)) (fV aT rfl (by kernel_rfl) (zF (zF (zF (aJ (aV (ra rfl (eX (cK (cK (fZ (m:=10) (dp 2 rfl (eZ kU (Ht rfl) rfl) (dq 53 0 rfl (eY A_35 Z_35 (Ht rfl) (i:=0) rfl rfl) (dp 10 rfl (cX (Ht rfl)) (cL 54 1 55 2 rfl (dZ U_35 Z_131 (Ht rfl) (Ht rfl) rfl (dY (dU (d:=Qi.zero) zo))) (dq 56 3 rfl (dJ A_131 Z_131 (Ht rfl)) ?_))))))))))))))))
   refine dp 2 rfl (eZ kU (Ht rfl) rfl) (dq 58 5 rfl (eY A_35 Z_35 (Ht rfl) (i:=0) rfl rfl) (dp 11 rfl (cX (Ht rfl)) (cL 59 6 60 7 rfl (dZ U_35 Z_131 (Ht rfl) (Ht rfl) rfl (dY (dU (d:=Qi.zero) zo))) (dq 61 8 rfl (dJ A_131 Z_131 (Ht rfl)) (fV aT rfl (by kernel_rfl) (zF (zF (aJ (aJ (aV (ro rfl (cZ Tryz.call164 (a0E (x:=gv z ((iH js k).1 - 1).toNat) (y:=gv z ((iH js k).2 - 1).toNat) (L:=L) (M:=L) zo zo) ⟨(Ht rfl),(Ht rfl),trivial⟩) ?_)))))))))))
   refine ro rfl (gB (Ht rfl)) (eX (dQ (Ht rfl) (fun hg=>?_) (fun hg=>?_)))
   ·have h5 : rC z js k = 40 := by rw [h4, if_neg (by simpa using hg)]
    have h6:sV z js = 40:=(lP h0 (by rw [h5]; decide) hkn).trans h5
    refine ts (ro rfl (cQ cV) (ro rfl (cQ (cJ 40)) (eX (bM rfl (fX (eU rfl) ?_) (fX (eU rfl) ?_)))))
    ·exact (fun v V h=>by rw [dL,h6]; exact iR v V h)
    ·exact (aM h6.symm)
   ·have h5 : rC z js k = 0 := by rw [h4, if_pos (by simpa using hg)]
    refine cU (cY (rm rfl (rm rfl (rm rfl (ro rfl (Md (Ht rfl) (Ht rfl)) (ro rfl (bT (xs:=[.tmp 68]) U_26 Z_71 O_71 (cW (Ht rfl) cG) rfl rfl rfl) (iD (inf:=Tryz.t71) a42 a17 rfl rfl rfl (Ht rfl) (Ht rfl) (i:=2) rfl (by simp) (fun T hT=>by simp at hT; subst hT; exact El.ag rfl) (by show _ * 16 ≤ _; simp only [List.length_map,List.length_cons,List.length_nil]; omega) (by simp only [List.length_map,List.length_cons,List.length_nil]; omega) rfl (fun v3=>?_))))))))
    refine ra rfl (eX (aS (cY (rm rfl (ro rfl (dV (Ht rfl) (cJ 1) z6) (ra rfl (eX ?_)))))))
    refine fU (k + 1, v2, v3) ⟨hkn, fun j h => by
      by_cases e:j = k
      ·rw [e]; exact h5
      ·exact h0 j zo⟩ (by dsimp only; omega) (zS rfl) (aU (aB rfl) (aU (fun _ _ _ h=>h) (aU (aD (by rw [Yb hkn,List.map_append]; rfl)) aY)))
 ·obtain rfl : k = js.length := by simp only [decide_eq_false_iff_not] at hd; omega
  have h2:sV z js = 0:=gM h0
  rw [show (cB js).take js.length = cB js by rw [← hpl,List.take_length]]
  refine gJ (i:=2) (tt:=7) rfl rfl eC (gV rfl (ts (rm rfl (ra rfl (ro rfl (cQ (cJ 0)) (eX (bM rfl (fX (eU rfl) ?_) (fX (eU rfl) ?_))))))))
  ·exact (kS (by rw [dL,if_pos h2]))
  ·exact (aM h2.symm)
end
section
open Go Go.RowKit
theorem a55 {x : Nat} (h : x < 20) : IntKind.wrap .i64 ((BitVec.ofInt (IntKind.bits .i64) (x : Int) ^^^ BitVec.ofInt (IntKind.bits .i64) ((1 : Nat) : Int)).toNat : Nat) = ((iN x : Nat) : Int) :=
 (by decide +kernel:∀ x:Nat,x < 20 → IntKind.wrap .i64 ((BitVec.ofInt (IntKind.bits .i64) (x:Int) ^^^ BitVec.ofInt (IntKind.bits .i64) ((1:Nat):Int)).toNat:Nat) = ((iN x:Nat):Int)) x h
theorem a0u {z:List Qi} {S:List (List Qi)} {js:List (Int × Int)} {x:Nat} (hS:dT S z.length z.length) (hd:sV z js = 0) (hx:x < 2 * js.length) (hm:2 * js.length ≤ 18) (hz:z.length ≤ 1000):bE Tryz.prog 118 [NT .i64 x,PT (lY z S),PT (dP ((nM js).map Nat.succ))] (cD (S.getD (gq (cB js) (iN x)) [])):=by
 have hpx:iN x < 2 * js.length:=nO hx
 have hgq:=(uY hd).lt (iN x) hpx
 have hSl:=hS.1
 have hJl:=Ak js
 have hat:gY (nM js) (iN x) = gq (cB js) (iN x):=Hl hpx
 refine bE.intro Tryz.func118 rfl Tryz.ntmps118 rfl (fun cx=>(ts (ro rfl (cQ cV) (eX (cK (fZ (m:=8) (dp 1 rfl (Ao uD (Ht rfl) rfl) (dq 5 0 rfl (dJ A_30 Z_30 (Ht rfl)) (dp 2 rfl (dJ A_72 Z_72 (Ht rfl)) (dp 0 rfl (cX (Ht rfl)) (dq 8 3 rfl (Rb (Ht rfl) (cJ 1) (a55 zo)) (cL 7 2 9 4 rfl (dZ U_72 Z_3 (Ht rfl) (Ht rfl) rfl (dY (qI zo))) (dq 10 5 rfl (dJ A_3 Z_3 (Ht rfl)) (dq 11 6 rfl (aL.nat (dW (Ht rfl) (cJ 1) zo z6) (show gY (nM js) (iN x) + 1 - 1 = gq (cB js) (iN x) by omega)) ?_))))))))))))))
 refine fV aT rfl (by kernel_rfl) (zF (zF (aV (ro rfl (dZ U_30 Z_29 (Ht rfl) (Ht rfl) rfl (dY (dU (d:=[]) zo))) (ro rfl (dJ A_29 Z_29 (Ht rfl)) (ra rfl (eX ?_)))))))
 exact fW rfl (eU rfl)
theorem a38 {x y:Nat}:bE Tryz.prog 120 [NT .i64 x,NT .i64 y] (aR (if x = y then Qi.ofInt 1 else Qi.ofInt 0)):=by
 refine bE.intro Tryz.func120 rfl Tryz.ntmps120 rfl (fun cx=>(ts (rn rfl (eW (Ts:=[Is (.bool false),Is (.slice none 0 0),Is (.bool false),Is (.slice none 0 0),Is (.slice none 0 0)]) O_51 rfl (fun V=>aW zd (aW zd (aW zd (aW zd (aW zd (aG))))))) fun B4=>(eX (cK (ts (rm rfl (rm rfl (ro rfl (cP (Ht rfl) (Ht rfl)) (eX (dQ (Ht rfl) (fun hb=>?_) (fun hb=>?_))))))))))))
 ·have h2 : x = y := by simpa using hb
  refine ts (ro rfl (cZ Tryz.call109 (Pl (n:=1) (by decide) (by decide)) ⟨(cJ 1),trivial⟩) (gQ Z_51 (Ht rfl) (Ht rfl) rfl (i:=0) rfl (aK rfl) rfl rfl (eX (fW rfl (fX (fK A_51 Z_51 rfl (i:=0) rfl rfl) ?_)))))
  exact (lW (if_pos h2).symm)
 ·have h2 : ¬ x = y := by simpa using hb
  refine cU (ts (ro rfl (cZ Tryz.call109 (Pl (n:=0) (by decide) (by decide)) ⟨(cJ 0),trivial⟩) (gQ Z_51 (Ht rfl) (Ht rfl) rfl (i:=0) rfl (aK rfl) rfl rfl (eX (fW rfl (fX (fK A_51 Z_51 rfl (i:=0) rfl rfl) ?_))))))
  exact (lW (if_neg h2).symm)
theorem a0v {z:List Qi} {S:List (List Qi)} {js:List (Int × Int)} {x y L:Nat} (hS:dT S z.length z.length) (hf:bP S L) (hL:1 ≤ L) (hLb:L ≤ 1000) (hd:sV z js = 0) (hx:x < 2 * js.length) (hy:y < 2 * js.length) (hm:2 * js.length ≤ 18) (hz:z.length ≤ 1000):bE Tryz.prog 119 [NT .i64 x,NT .i64 y,PT (Fz Tryz.prog (Fin (2 * js.length)) (fun x=>[NT .i64 x.1]) (fun x=>cD (S.getD (gq (cB js) (iN x.1)) []))),PT (dP ((nM js).map Nat.succ))] (aR ((if x = y then Qi.ofInt 1 else Qi.ofInt 0) - gm S (gq (cB js) (iN x)) (gq (cB js) y))):=by
 have hpx:iN x < 2 * js.length:=nO hx
 have hgx:=(uY hd).lt (iN x) hpx
 have hgy:=(uY hd).lt y hy
 have hSl:=hS.1
 have hSr:=hS.row hgx
 have hJl:=Ak js
 have hat:gY (nM js) y = gq (cB js) y:=Hl hy
 haveI g1:aO (gm S (gq (cB js) (iN x)) (gq (cB js) y)) L:=hf.get hL _ _
 haveI g2 : aO (if x = y then Qi.ofInt 1 else Qi.ofInt 0) 1 := by
  split
  ·exact wQ
  ·exact (aO.zero (Nat.le_refl 1):aO Qi.zero 1)
 refine bE.intro Tryz.func119 rfl Tryz.ntmps119 rfl (fun cx=>(ts (rn rfl (eW (Ts:=[Is (.bool false),Is (.slice none 0 0),Is (.bool false),Is (.slice none 0 0),Is (.slice none 0 0)]) O_51 rfl (fun V=>aW zd (aW zd (aW zd (aW zd (aW zd (aG))))))) fun B6=>(eX (cK (fZ (m:=14) (dp 0 rfl (cX (Ht rfl)) (dp 1 rfl (cX (Ht rfl)) (cL 7 0 8 1 rfl (cZ Tryz.call120 (a38 (x:=x) (y:=y)) ⟨(Ht rfl),(Ht rfl),trivial⟩) (dq 9 2 rfl (cR eD (Ht rfl)) ?_))))))))))
 refine dp 2 rfl (dJ Tryz.isAgg175 Tryz.sizeOf175 (Ht rfl)) (dp 0 rfl (cX (Ht rfl)) (cL 11 4 12 5 rfl (tD (Ts:=fun x:Fin (2 * js.length)=>[NT .i64 x.1]) ⟨x,hx⟩ (Ht rfl) ⟨(Ht rfl),trivial⟩) (dp 3 rfl (dJ A_72 Z_72 (Ht rfl)) (dp 1 rfl (cX (Ht rfl)) (cL 14 7 15 8 rfl (dZ U_72 Z_3 (Ht rfl) (Ht rfl) rfl (dY (qI zo))) (dq 16 9 rfl (dJ A_3 Z_3 (Ht rfl)) (dq 17 10 rfl (aL.nat (dW (Ht rfl) (cJ 1) zo z6) (show gY (nM js) y + 1 - 1 = gq (cB js) y by omega)) ?_)))))))
 refine cL 13 6 18 11 rfl (dZ U_29 Z_51 (Ht rfl) (Ht rfl) rfl (dY (dU (d:=Qi.zero) (show gq (cB js) y < (S.getD (gq (cB js) (iN x)) []).length by omega)))) (dq 19 12 rfl (dJ A_51 Z_51 (Ht rfl)) (fV aT rfl (by kernel_rfl) (zF (zF (zF (aJ (aJ (aV (ro rfl (cI lH K_44 (Bq (x:=if x = y then Qi.ofInt 1 else Qi.ofInt 0) (y:=gm S (gq (cB js) (iN x)) (gq (cB js) y)) (L:=1) (M:=L) zo) (Ht rfl) ⟨(Ht rfl),trivial⟩) ?_)))))))))
 refine gQ Z_51 (Ht rfl) (Ht rfl) rfl (i:=0) rfl (aK rfl) rfl rfl (eX ?_)
 exact fW rfl (fK A_51 Z_51 rfl (i:=0) rfl rfl)
theorem a2U {z:List Qi} {S:List (List Qi)} {js:List (Int × Int)} {L:Nat} (hS:dT S z.length z.length) (hf:bP S L) (hfz:dA z L) (hL:1 ≤ L) (hLb:L ≤ 1000) (hz:z.length ≤ 18) (hj:js.length ≤ 100) (hg:∀ k,2 * k < z.length → 6 * cE (L + 2) (2 * k) + 4 ≤ 17592186044415) (hx:∀ k,2 * k < z.length → qO (cE (L + 2) (2 * k)) (2 * k + 1) ≤ 100000000000):bE Tryz.prog 31 [lY z S,Ii js] (gC [lY (rT z S js) (sX z S js),aP .i64 (rB z S js)]):=by
 have hll:=mY js
 have hJl:=Ak js
 have hSl:=hS.1
 refine bE.intro Tryz.func31 rfl Tryz.ntmps31 rfl (fun cx=>(ts (rn rfl (fG (Ht rfl)) fun B2=>(rn rfl (eW (Ts:=[Is (.slice none 0 0),Is (.slice none 0 0)]) O_32 rfl (fun V=>aW zd (aW zd (aG)))) fun B4=>(ro rfl (cQ (cJ 0)) (eX (ts (ro rfl (eJ A_32 Z_32 (Ht rfl) (i:=0) rfl rfl rfl) (rm rfl (ro rfl (cZ Tryz.call117 (Wb (z:=z) (S:=S) (js:=js) (L:=L) hfz hL zo zo hj) ⟨(Ht rfl),(Ht rfl),trivial⟩) (rm rfl (ro rfl (dK (Ht rfl) rfl) ?_))))))))))))
 refine ro rfl (dK (Ht rfl) rfl) (rn rfl (eW (Ts:=[Is (.slice none 0 0)]) Tryz.zeroValue72 rfl (fun V=>aW zd (aG))) fun B6=>(kZ Z_72 (Ht rfl) (Ht rfl) (i:=2) rfl (aK rfl) rfl (ra rfl (eX (cK (ts (rm rfl (ro rfl (kR (Ht rfl) cV) (eX (dQ (Ht rfl) (fun hc=>?_) (fun hc=>?_)))))))))))
 ·have h3 : zG z js ≠ 0 := by simpa using hc
  have he:rB z S js = zG z js:=Qk h3
  refine ts (ro rfl (aL.imp (wE ) xB) (rm rfl (gQ Z_32 (Ht rfl) (Ht rfl) rfl (i:=1) rfl (aK rfl) rfl rfl (ra rfl (eX (bM rfl (fX (fK A_32 Z_32 rfl (i:=1) rfl rfl) ?_) (fX (eU rfl) ?_)))))))
  ·exact (fun v V h=>by rw [rT,sX,dL,dL,he,if_neg h3,if_neg h3]; exact h)
  ·exact (aM he.symm)
 ·have h3 : zG z js = 0 := by simpa using hc
  obtain ⟨hd,hne⟩:=wV h3
  have hok:jeL z js = lC js:=by rw [jeL,dL,if_pos h3]
  rw [hok]
  refine cU (cK (ts (ro rfl (eY A_72 Z_72 (Ht rfl) (i:=2) rfl rfl) (ro rfl (dG U_72 (Ht rfl) (by rw [List.length_map,hll])) ?_))))
  refine ro rfl (cP (Ht rfl) (cJ 0)) (eX (dQ (Ht rfl) (fun hc2=>?_) (fun hc2=>?_)))
  ·have h4 : js.length = 0 := by simp only [decide_eq_true_eq] at hc2; omega
   have he:rB z S js = 0:=Qn h3 h4
   refine ts (ro rfl (eJ A_32 Z_32 (Ht rfl) (i:=0) rfl rfl rfl) (gQ Z_32 (Ht rfl) (Ht rfl) rfl (i:=1) rfl (aK rfl) rfl rfl (ro rfl (cQ (cJ 0)) (eX (bM rfl (fX (fK A_32 Z_32 rfl (i:=1) rfl rfl) ?_) (fX (eU rfl) ?_))))))
   ·exact (fun v V h=>by rw [rT,sX,dL,dL,he,if_pos h4,if_pos h4]; exact h)
   ·exact (aM he.symm)
  ·have h4 : js.length ≠ 0 := by simp only [decide_eq_false_iff_not] at hc2; omega
   have hj:=uY hd
   have hjl:=Cf hd
   have hm1:2 * js.length < z.length:=by omega
   obtain ⟨m,hm⟩:∃ m,m = 2 * js.length:=⟨_,rfl⟩
   have hg2:=hg js.length hm1
   have hx2:=hx js.length hm1
   have hxn:=Nat.le_trans (xT (cE (L + 2) (2 * js.length)) (2 * js.length)) hx2
   have hlf:=a0x (z:=z) (s:=S) (G:=nM js) zo zo
   rw [Xo] at hlf
   have hfl:(eO z js).length ≤ z.length:=qD _ _
   have hfx:∀ x,x ∈ eO z js → x < z.length:=fun x h=>Nd h
   rw [Xv hd]
   refine cU (cK (gJ (i:=0) (tt:=2) rfl rfl Hc (gJ (i:=2) (tt:=6) rfl rfl qZ (cY (ro rfl (uL (γ:=Fin (2 * js.length)) (Ts:=fun x=>[NT .i64 x.1]) (U:=fun x=>cD (S.getD (gq (cB js) (iN x.1)) [])) Tryz.call118 (fun x=>a0u hS hd x.2 zo zo) ⟨(Ht rfl),(Ht rfl),trivial⟩) (rn rfl (eW (Ts:=[Is (.nilFunc)]) Tryz.zeroValue175 rfl (fun V=>aW zd (aG))) fun B8=>(kZ Tryz.sizeOf175 (Ht rfl) (Ht rfl) (i:=3) rfl (aK rfl) rfl (eX (cK (gJ (i:=3) (tt:=8) rfl rfl qZ ?_))))))))))
   refine cY (ro rfl (dJ A_72 Z_72 (Ht rfl)) (ro rfl (dG U_72 (Ht rfl) (by rw [List.length_map,List.length_map,hJl])) ?_))
   refine ro rfl (uL (γ:=Fin (2 * js.length) × Fin (2 * js.length)) (Ts:=fun x=>[NT .i64 x.1.1,NT .i64 x.2.1]) (U:=fun x=>aR ((if x.1.1 = x.2.1 then Qi.ofInt 1 else Qi.ofInt 0) - gm S (gq (cB js) (iN x.1.1)) (gq (cB js) x.2.1))) Tryz.call119 (fun x=>a0v hS hf hL hLb hd x.1.2 x.2.2 zo zo) ⟨(Ht rfl),(Ht rfl),trivial⟩) (ro rfl (cZ Tryz.call114 (Wa (n:=2 * js.length) (f:=fun x y=>(if x = y then Qi.ofInt 1 else Qi.ofInt 0) - gm S (gq (cB js) (iN x)) (gq (cB js) y)) zo) ⟨(Ht rfl),(Ht rfl),trivial⟩) (ra rfl (eX (ts (ro rfl (dJ A_32 Z_32 (Ht rfl)) ?_)))))
   refine ro rfl (dJ A_72 Z_72 (Ht rfl)) (ro rfl (cZ Tryz.call121 hlf ⟨(Ht rfl),(Ht rfl),trivial⟩) (ra rfl (eX (ts (ro rfl (dJ A_32 Z_32 (Ht rfl)) (rm rfl (jU Tryz.call122 (a0B (Q:=eO z js) (m:=(eO z js).length) hS hfx rfl zo zo) ⟨(Ht rfl),(Ht rfl),trivial⟩ rfl (fun B47 _=>(rn rfl (eW (Ts:=[Is (.slice none 0 0),Is (.slice none 0 0)]) O_32 rfl (fun V=>aW zd (aW zd (aG)))) fun B11=>(gQ Z_32 (Ht rfl) (Ht rfl) rfl (i:=5) rfl (aK rfl) rfl rfl ?_))))))))))
   refine eX (cK (ts (rm rfl (ro rfl (dG U_72 (Ht rfl) (by rw [List.length_map,List.length_map])) ?_))))
   refine ro rfl (cX (cJ 0)) (eX (eG (cA [1,4,5] rfl (by decide) ?_)))
   refine bO (fun (j : Nat) => j ≤ (eO z js).length ∧ ∀ y, y < j → kA (mU S (cB js) (2 * js.length)) (Dj S (cB js) (2 * js.length) ((eO z js).getD y 0)) (2 * js.length) = 0) (fun (j : Nat) => (eO z js).length - j) (fun (j : Nat) => [(2, PT (lY z S)), (4, bR B4 0), (6, PT (dP ((nM js).map Nat.succ))), (8, PT (Fz Tryz.prog (Fin (2 * js.length)) (fun x => [NT .i64 x.1]) (fun x => cD (S.getD (gq (cB js) (iN x.1)) [])))), (9, cM (mU S (cB js) (2 * js.length))), (10, dP ((eO z js).map Nat.succ)), (11, bR B11 0), (48, dP ((eO z js).map Nat.succ)), (49, NT .i64 ((eO z js).length)), (50, NT .i64 j)]) (fun (j : Nat) => [box B4 32 [Is (.slice none 0 0), Is (.slice none 0 0)], pG B47 29 51 5 (bN aR (tab ((eO z js).length) fun i => (kQ (fun y => Dk S (cB js) (2 * js.length) (gY (eO z js) i) (gY (eO z js) y)) (fun y => gm S (gY (eO z js) i) (gY (eO z js) y)) (eO z js).length j))), box B11 32 [cD (zW z (eO z js)), Is (.slice (some ⟨B47, 0, none⟩) ((eO z js).length) ((eO z js).length))]]) 0 ⟨Nat.zero_le _, fun y h => by omega⟩
    (zS rfl) (aU (aB rfl) (aU (bI (congrArg (bN aR) (cT fun i _=>jZ _ _ _))) (aU (aB rfl) aY))) (fun j ⟨hjq,h0⟩=>?_)
   refine ts (ro rfl (gX (Ht rfl) (Ht rfl)) (eX (cK (dQ (Ht rfl) (fun hd1=>?_) (fun hd1=>?_)))))
   ·have hjn : j < (eO z js).length := by simp only [decide_eq_true_eq] at hd1; omega
    have hFj:gY (eO z js) j < z.length:=Na hjn
    have hbf:dA (Dj S (cB js) (2 * js.length) ((eO z js).getD j 0)) L:=Qh hf hL
    refine cU (cK (eG (ts (rm rfl (ro rfl (dZ U_72 Z_3 (Ht rfl) (Ht rfl) rfl (dY (qI hjn))) (ro rfl (dJ A_3 Z_3 (Ht rfl)) (ra rfl (ra rfl (eX (ts (ro rfl (dJ A_72 Z_72 (Ht rfl)) (ro rfl (dG U_72 (Ht rfl) (by rw [List.length_map,List.length_map,hJl])) ?_))))))))))))
    refine rn rfl (jF (T:=aR Qi.zero) (i:=Tryz.t51) nD kV rfl rfl (Ht rfl) rfl kF (El.ag rfl) (by show 88 * _ ≤ _; omega) zo) fun B57=>ra rfl (eX (cK (ts (rm rfl (ro rfl (oO U_29 (Ht rfl) (i:=3) rfl (show ((List.replicate (2 * js.length) (aR Qi.zero)).length:Int) = ((2 * js.length:Nat):Int) from by simp)) (ro rfl (cX (cJ 0)) (eX (eG ?_))))))))
    refine bO (fun (x : Nat) => x ≤ 2 * js.length) (fun (x : Nat) => 2 * js.length - x) (fun (x : Nat) => [(2, PT (lY z S)), (4, bR B4 0), (6, PT (dP ((nM js).map Nat.succ))), (8, PT (Fz Tryz.prog (Fin (2 * js.length)) (fun x => [NT .i64 x.1]) (fun x => cD (S.getD (gq (cB js) (iN x.1)) [])))), (9, cM (mU S (cB js) (2 * js.length))), (10, dP ((eO z js).map Nat.succ)), (11, bR B11 0), (12, NT .i64 j), (13, NT .i64 (gY (eO z js) j + 1)), (14, Is B57), (48, dP ((eO z js).map Nat.succ)), (49, NT .i64 ((eO z js).length)), (50, NT .i64 j), (59, NT .i64 (2 * js.length)), (60, NT .i64 x)]) (fun (x : Nat) => [box B4 32 [Is (.slice none 0 0), Is (.slice none 0 0)], pG B47 29 51 5 (bN aR (tab ((eO z js).length) fun i => (kQ (fun y => Dk S (cB js) (2 * js.length) (gY (eO z js) i) (gY (eO z js) y)) (fun y => gm S (gY (eO z js) i) (gY (eO z js) y)) (eO z js).length j))), box B11 32 [cD (zW z (eO z js)), Is (.slice (some ⟨B47, 0, none⟩) ((eO z js).length) ((eO z js).length))], bH 51 5 B57 ((jA (fun x => gm S (gq (cB js) (iN x)) (gY (eO z js) j)) Qi.zero (2 * js.length) x).map aR)]) 0 (Nat.zero_le _)
     (zS rfl) (aU (aB rfl) (aU (fun _ _ _ h=>h) (aU (aB rfl) (aU (aD (by rw [← gH]; exact Ax aR _)) aY)))) (fun x hx1=>?_)
    refine ts (ro rfl (gX (Ht rfl) (Ht rfl)) (eX (cK (dQ (Ht rfl) (fun hd2=>?_) (fun hd2=>?_)))))
    ·have hxm : x < 2 * js.length := by simp only [decide_eq_true_eq] at hd2; omega
     have hgx:=hj.lt (iN x) (nO hxm)
     have hSr:=hS.row hgx
     refine cU (cK (eG (ts (rm rfl (ra rfl (eX (cY (rm rfl (rm rfl (ro rfl (dJ Tryz.isAgg175 Tryz.sizeOf175 (Ht rfl)) (rm rfl (ro rfl (tD (Ts:=fun x:Fin (2 * js.length)=>[NT .i64 x.1]) ⟨x,hxm⟩ (Ht rfl) ⟨(Ht rfl),trivial⟩) (rm rfl (ro rfl (aL.nat (dW (Ht rfl) (cJ 1) zo z6) (show gY (eO z js) j + 1 - 1 = gY (eO z js) j by omega)) (ro rfl (dZ U_29 Z_51 (Ht rfl) (Ht rfl) rfl (dY (dU (d:=Qi.zero) (show gY (eO z js) j < (S.getD (gq (cB js) (iN x)) []).length by omega)))) ?_)))))))))))))))
     refine ro rfl (dJ A_51 Z_51 (Ht rfl)) (ro rfl (cH U_29 Z_51 (Ht rfl) (Ht rfl) rfl (i:=3) rfl (by rw [List.length_map,dC]; omega) rfl) ?_)
     refine jB Z_51 (Ht rfl) (Ht rfl) (El.ag rfl) (i:=3) rfl rfl (by rw [List.length_map,dC]; omega) rfl ?_
     refine eX (aS (cY (ro rfl (dV (Ht rfl) (cJ 1) z6) (rm rfl (eX (fU (x + 1) hxm zo (zS rfl) (aU (aB rfl) (aU (fun _ _ _ h=>h) (aU (aB rfl) (aU (aD (by rw [fO]; exact congrArg _ (iQ (f:=(fun x=>gm S (gq (cB js) (iN x)) (gY (eO z js) j)))))) aY))))))))))
    ·have hxm : x = 2 * js.length := by simp only [decide_eq_false_iff_not] at hd2; omega
     rw [hxm,iP]
     refine gV rfl (gJ (i:=3) (tt:=14) rfl rfl eC (ts (rm rfl (rm rfl (ro rfl (cZ Tryz.call96 (Pa (M:=mU S (cB js) (2 * js.length)) (b:=Dj S (cB js) (2 * js.length) ((eO z js).getD j 0)) (n:=2 * js.length) (L:=L + 2) (mZ _ _ _) (aC _ _) (wW hf hL) (hbf.le zo) zo zo zo hg2 zo) ⟨(Ht rfl),(Ht rfl),trivial⟩) (rm rfl (ro rfl (dK (Ht rfl) rfl) (ro rfl (dK (Ht rfl) rfl) (ra rfl (ra rfl (eX (cK (ts (rm rfl (ro rfl (kR (Ht rfl) cV) (eX (dQ (Ht rfl) (fun hc3=>?_) (fun hc3=>?_))))))))))))))))))
     ·have h5 : kA (mU S (cB js) (2 * js.length)) (Dj S (cB js) (2 * js.length) ((eO z js).getD j 0)) (2 * js.length) ≠ 0 := by simpa using hc3
      have h6:Hu z S js ≠ 0:=fun k=>h5 (gN k j hjn)
      have he:rB z S js = 6:=(Cg h3 h4).trans (if_neg h6)
      refine ts (ro rfl (aL.imp (wE ) xB) (gQ Z_32 (Ht rfl) (Ht rfl) rfl (i:=0) rfl (aK rfl) rfl rfl (ro rfl (cQ (cJ 6)) (eX (bM rfl (fX (fK A_32 Z_32 rfl (i:=0) rfl rfl) ?_) (fX (eU rfl) ?_))))))
      ·exact (fun v V h=>by rw [rT,sX,dL,dL,he]; exact h)
      ·exact (aM he.symm)
     ·have h5 : kA (mU S (cB js) (2 * js.length)) (Dj S (cB js) (2 * js.length) ((eO z js).getD j 0)) (2 * js.length) = 0 := by simpa using hc3
      have hxf:=Rr (mZ S (cB js) (2 * js.length)) (wW hf hL) (hbf.le zo) zo h5
      have hxl:(lB (mU S (cB js) (2 * js.length)) (Dj S (cB js) (2 * js.length) ((eO z js).getD j 0)) (2 * js.length)).length = 2 * js.length:=tN _ _ _
      have hGe:L + 2 ≤ qO (cE (L + 2) (2 * js.length)) (2 * js.length):=Nat.le_trans (oK (L + 2) (2 * js.length)) (Dg _ _)
      obtain ⟨G,hG⟩:∃ G,G = qO (cE (L + 2) (2 * js.length)) (2 * js.length):=⟨_,rfl⟩
      rw [← hG] at hxf hGe hxn
      have hmG:2 * js.length * (2 * G + 2) ≤ 18 * (2 * G + 2):=Nat.mul_le_mul_right _ zo
      have hokx:dL (kA (mU S (cB js) (2 * js.length)) (Dj S (cB js) (2 * js.length) ((eO z js).getD j 0)) (2 * js.length)) (lB (mU S (cB js) (2 * js.length)) (Dj S (cB js) (2 * js.length) ((eO z js).getD j 0)) (2 * js.length)) = lB (mU S (cB js) (2 * js.length)) (Dj S (cB js) (2 * js.length) ((eO z js).getD j 0)) (2 * js.length):=by rw [dL,if_pos h5]
      rw [hokx]
      refine cU (ts (rm rfl (ro rfl (dG U_72 (Ht rfl) (by rw [List.length_map,List.length_map])) ?_)))
      refine ro rfl (cX (cJ 0)) (eX (eG (cA [0,1,2] rfl (by decide) ?_)))
      refine bO (fun (i : Nat) => i ≤ (eO z js).length) (fun (i : Nat) => (eO z js).length - i) (fun (i : Nat) => [(2, PT (lY z S)), (4, bR B4 0), (6, PT (dP ((nM js).map Nat.succ))), (8, PT (Fz Tryz.prog (Fin (2 * js.length)) (fun x => [NT .i64 x.1]) (fun x => cD (S.getD (gq (cB js) (iN x.1)) [])))), (9, cM (mU S (cB js) (2 * js.length))), (10, dP ((eO z js).map Nat.succ)), (11, bR B11 0), (12, NT .i64 j), (16, cD (lB (mU S (cB js) (2 * js.length)) (Dj S (cB js) (2 * js.length) ((eO z js).getD j 0)) (2 * js.length))), (48, dP ((eO z js).map Nat.succ)), (49, NT .i64 ((eO z js).length)), (50, NT .i64 j), (83, dP ((eO z js).map Nat.succ)), (84, NT .i64 ((eO z js).length)), (85, NT .i64 i)]) (fun (i : Nat) => [box B4 32 [Is (.slice none 0 0), Is (.slice none 0 0)], pG B47 29 51 5 (bN aR (kQ (fun i => (kQ (fun y => Dk S (cB js) (2 * js.length) (gY (eO z js) i) (gY (eO z js) y)) (fun y => gm S (gY (eO z js) i) (gY (eO z js) y)) (eO z js).length (j + 1))) (fun i => (kQ (fun y => Dk S (cB js) (2 * js.length) (gY (eO z js) i) (gY (eO z js) y)) (fun y => gm S (gY (eO z js) i) (gY (eO z js) y)) (eO z js).length j)) ((eO z js).length) i)), box B11 32 [cD (zW z (eO z js)), Is (.slice (some ⟨B47, 0, none⟩) ((eO z js).length) ((eO z js).length))]]) 0 (Nat.zero_le _)
       (zS rfl) (aU (aB rfl) (aU (bI (congrArg (bN aR) (jZ _ _ _))) (aU (aB rfl) aY))) (fun i hi=>?_)
      refine ts (ro rfl (gX (Ht rfl) (Ht rfl)) (eX (cK (dQ (Ht rfl) (fun hd4=>?_) (fun hd4=>?_)))))
      ·have hin : i < (eO z js).length := by simp only [decide_eq_true_eq] at hd4; omega
       have hFi:gY (eO z js) i < z.length:=Na hin
       have hSr:=hS.row hFi
       refine cU (cK (eG (ts (rm rfl (ro rfl (dZ U_72 Z_3 (Ht rfl) (Ht rfl) rfl (dY (qI hin))) (ro rfl (dJ A_3 Z_3 (Ht rfl)) (ra rfl (ra rfl (eX (ts (ro rfl (dJ A_72 Z_72 (Ht rfl)) (ro rfl (dG U_72 (Ht rfl) (by rw [List.length_map,List.length_map,hJl])) ?_))))))))))))
       refine rn rfl (jF (T:=aR Qi.zero) (i:=Tryz.t51) nD kV rfl rfl (Ht rfl) rfl kF (El.ag rfl) (by show 88 * _ ≤ _; omega) zo) fun B92=>ra rfl (eX (cK (ts (ro rfl (dJ A_72 Z_72 (Ht rfl)) (ro rfl (dG U_72 (Ht rfl) (by rw [List.length_map,List.length_map,hJl])) ?_)))))
       refine ro rfl (cX (cJ 0)) (eX (eG ?_))
       refine bO (fun (x : Nat) => x ≤ 2 * js.length) (fun (x : Nat) => 2 * js.length - x) (fun (x : Nat) => [(2, PT (lY z S)), (4, bR B4 0), (6, PT (dP ((nM js).map Nat.succ))), (8, PT (Fz Tryz.prog (Fin (2 * js.length)) (fun x => [NT .i64 x.1]) (fun x => cD (S.getD (gq (cB js) (iN x.1)) [])))), (9, cM (mU S (cB js) (2 * js.length))), (10, dP ((eO z js).map Nat.succ)), (11, bR B11 0), (12, NT .i64 j), (16, cD (lB (mU S (cB js) (2 * js.length)) (Dj S (cB js) (2 * js.length) ((eO z js).getD j 0)) (2 * js.length))), (18, NT .i64 i), (19, NT .i64 (gY (eO z js) i + 1)), (20, Is B92), (48, dP ((eO z js).map Nat.succ)), (49, NT .i64 ((eO z js).length)), (50, NT .i64 j), (83, dP ((eO z js).map Nat.succ)), (84, NT .i64 ((eO z js).length)), (85, NT .i64 i), (93, dP ((nM js).map Nat.succ)), (94, NT .i64 (2 * js.length)), (95, NT .i64 x)]) (fun (x : Nat) => [box B4 32 [Is (.slice none 0 0), Is (.slice none 0 0)], pG B47 29 51 5 (bN aR (kQ (fun i => (kQ (fun y => Dk S (cB js) (2 * js.length) (gY (eO z js) i) (gY (eO z js) y)) (fun y => gm S (gY (eO z js) i) (gY (eO z js) y)) (eO z js).length (j + 1))) (fun i => (kQ (fun y => Dk S (cB js) (2 * js.length) (gY (eO z js) i) (gY (eO z js) y)) (fun y => gm S (gY (eO z js) i) (gY (eO z js) y)) (eO z js).length j)) ((eO z js).length) i)), box B11 32 [cD (zW z (eO z js)), Is (.slice (some ⟨B47, 0, none⟩) ((eO z js).length) ((eO z js).length))], bH 51 5 B92 ((jA (fun x => gm S (gY (eO z js) i) (gq (cB js) x)) Qi.zero (2 * js.length) x).map aR)]) 0 (Nat.zero_le _)
        (zS rfl) (aU (aB rfl) (aU (fun _ _ _ h=>h) (aU (aB rfl) (aU (aD (by rw [← gH]; exact Ax aR _)) aY)))) (fun x hx1=>?_)
       refine ts (ro rfl (gX (Ht rfl) (Ht rfl)) (eX (cK (dQ (Ht rfl) (fun hd5=>?_) (fun hd5=>?_)))))
       ·have hxm : x < 2 * js.length := by simp only [decide_eq_true_eq] at hd5; omega
        have hat:gY (nM js) x = gq (cB js) x:=Hl hxm
        have hgx:=hj.lt x hxm
        refine cU (cK (eG (ts (rm rfl (ro rfl (dZ U_72 Z_3 (Ht rfl) (Ht rfl) rfl (dY (qI zo))) (ro rfl (dJ A_3 Z_3 (Ht rfl)) (ra rfl (ra rfl (eX (cY (rm rfl (rm rfl (ro rfl (Ao uD (Ht rfl) rfl) (ro rfl (dJ A_30 Z_30 (Ht rfl)) (rm rfl (ro rfl (aL.nat (dW (Ht rfl) (cJ 1) zo z6) (show gY (eO z js) i + 1 - 1 = gY (eO z js) i by omega)) (ro rfl (dZ U_30 Z_29 (Ht rfl) (Ht rfl) rfl (dY (dU (d:=[]) (show gY (eO z js) i < S.length by omega)))) ?_)))))))))))))))))
        refine ro rfl (dJ A_29 Z_29 (Ht rfl)) (rm rfl (ro rfl (aL.nat (dW (Ht rfl) (cJ 1) zo z6) (show gY (nM js) x + 1 - 1 = gq (cB js) x by omega)) (ro rfl (dZ U_29 Z_51 (Ht rfl) (Ht rfl) rfl (dY (dU (d:=Qi.zero) (show gq (cB js) x < (S.getD (gY (eO z js) i) []).length by omega)))) (ro rfl (dJ A_51 Z_51 (Ht rfl)) (ro rfl (cH U_29 Z_51 (Ht rfl) (Ht rfl) rfl (i:=3) rfl (by rw [List.length_map,dC]; omega) rfl) ?_)))))
        refine jB Z_51 (Ht rfl) (Ht rfl) (El.ag rfl) (i:=3) rfl rfl (by rw [List.length_map,dC]; omega) rfl ?_
        refine eX (aS (cY (ro rfl (dV (Ht rfl) (cJ 1) z6) (rm rfl (eX (fU (x + 1) hxm zo (zS rfl) (aU (aB rfl) (aU (fun _ _ _ h=>h) (aU (aB rfl) (aU (aD (by rw [fO]; exact congrArg _ (iQ (f:=(fun x=>gm S (gY (eO z js) i) (gq (cB js) x)))))) aY))))))))))
       ·have hxm : x = 2 * js.length := by simp only [decide_eq_false_iff_not] at hd5; omega
        rw [hxm,iP]
        refine gV rfl (gJ (i:=3) (tt:=20) rfl rfl eC (cA [0,1,2] rfl (by decide) (pR 1 (i) rfl (oT hin) (fun v0=>?_))))
        have hrl:=jL (fun y=>Dk S (cB js) (2 * js.length) (gY (eO z js) i) (gY (eO z js) y)) (fun y=>gm S (gY (eO z js) i) (gY (eO z js) y)) ((eO z js).length) j
        have hrf:dA (tab (2 * js.length) (fun x=>gm S (gY (eO z js) i) (gq (cB js) x))) G:=dA.tab fun x _=>(hf.get hL _ _).le zo
        have hro : ((kQ (fun y => Dk S (cB js) (2 * js.length) (gY (eO z js) i) (gY (eO z js) y)) (fun y => gm S (gY (eO z js) i) (gY (eO z js) y)) (eO z js).length j)).set j (uS (gm S (gY (eO z js) i) (gY (eO z js) j)) (tab (2 * js.length) (fun x => gm S (gY (eO z js) i) (gq (cB js) x))) (lB (mU S (cB js) (2 * js.length)) (Dj S (cB js) (2 * js.length) ((eO z js).getD j 0)) (2 * js.length)) (2 * js.length)) = (kQ (fun y => Dk S (cB js) (2 * js.length) (gY (eO z js) i) (gY (eO z js) y)) (fun y => gm S (gY (eO z js) i) (gY (eO z js) y)) (eO z js).length (j + 1)) := by
         rw [Xe]; exact lJ (f:=fun y=>Dk S (cB js) (2 * js.length) (gY (eO z js) i) (gY (eO z js) y))
        refine fZ (m:=17) (dp 11 rfl (eZ uD (Ht rfl) rfl) (dq 114 0 rfl (eY A_30 Z_30 (Ht rfl) (i:=2) rfl rfl) (dp 18 rfl (cX (Ht rfl)) (cL 115 1 116 2 rfl (fY U_30 Z_29 (Ht rfl) (Ht rfl) rfl zo (by rw [Nat.mul_one,Nat.zero_add])) ?_))))
        refine dq 117 3 rfl (iF A_29 Z_29 (Ht rfl) (j:=1) rfl) (dp 12 rfl (cX (Ht rfl)) (dp 11 rfl (eZ uD (Ht rfl) rfl) (dq 120 6 rfl (eY A_30 Z_30 (Ht rfl) (i:=2) rfl rfl) (dp 18 rfl (cX (Ht rfl)) (cL 121 7 122 8 rfl (fY U_30 Z_29 (Ht rfl) (Ht rfl) rfl zo (by rw [Nat.mul_one,Nat.zero_add])) ?_)))))
        refine dq 123 9 rfl (iF A_29 Z_29 (Ht rfl) (j:=1) rfl) (dp 12 rfl (cX (Ht rfl)) (cL 124 10 125 11 rfl (cH U_29 Z_51 (Ht rfl) (Ht rfl) rfl (i:=3) rfl (by simp only [List.length_map,hrl]; omega) rfl) ?_))
        refine dq 126 12 rfl (nN A_51 Z_51 (Ht rfl) (i:=3) rfl rfl (dY (rD hjn))) (dp 20 rfl (cX (Ht rfl)) (dp 16 rfl (cX (Ht rfl)) (C.D_step (Ei:=[(127,_),(128,_),(129,_)]) rfl rfl (bV (bG 13 rfl rfl) (bV (bG 14 rfl rfl) (bV (bG 15 rfl rfl) bW))) (dX rfl (cZ Tryz.call123 (a4q (x:=gm S (gY (eO z js) i) (gY (eO z js) j)) (l:=tab (2 * js.length) (fun x=>gm S (gY (eO z js) i) (gq (cB js) x))) (m:=lB (mU S (cB js) (2 * js.length)) (Dj S (cB js) (2 * js.length) ((eO z js).getD j 0)) (2 * js.length)) (L:=G) (M:=L) (n:=2 * js.length) (hf.get hL _ _) hrf hxf zo (aC _ _) hxl zo zo) ⟨(Ht rfl),(Ht rfl),(Ht rfl),trivial⟩)) ?_)))
        refine fV aT rfl (by kernel_rfl) (zF (zF (zF (zF (aJ (aV (ro rfl (cH U_29 Z_51 (Ht rfl) (Ht rfl) rfl (i:=3) rfl (by simp only [List.length_map,hrl]; omega) rfl) ?_)))))))
        refine jB Z_51 (Ht rfl) (Ht rfl) (El.ag rfl) (i:=3) rfl rfl (by simp only [List.length_map,hrl]; omega) rfl ?_
        refine eX (eR 1 3 rfl rfl (by decide) (by simp only [bN,List.length_map,jL]; omega) ?_)
        refine aS (cY (ro rfl (dV (Ht rfl) (cJ 1) z6) (rm rfl (eX (cA [0,1,2] rfl (by decide) (fU (i + 1) hin zo (zS rfl) (aU (aB rfl) (aU (bI (by rw [fO,hro,fH]; exact congrArg _ (lJ (f:=fun i=>(kQ (fun y=>Dk S (cB js) (2 * js.length) (gY (eO z js) i) (gY (eO z js) y)) (fun y=>gm S (gY (eO z js) i) (gY (eO z js) y)) (eO z js).length (j + 1)))))) (aU (aB rfl) aY)))))))))
      ·have hin : i = (eO z js).length := by simp only [decide_eq_false_iff_not] at hd4; omega
       rw [hin,lI]
       refine gV rfl (aS (cY (ro rfl (dV (Ht rfl) (cJ 1) z6) (rm rfl (eX ?_)))))
       refine fU (j + 1) ⟨hjn, fun y h => by
         by_cases e:y = j
         ·rw [e]; exact h5
         ·exact h0 y zo⟩ zo (zS rfl) (aU (aB rfl) (aU (fun _ _ _ h=>h) (aU (aB rfl) aY)))
   ·have hjn : j = (eO z js).length := by simp only [decide_eq_false_iff_not] at hd1; omega
    rw [hjn] at h0
    have h6:Hu z S js = 0:=gM h0
    have he:rB z S js = 0:=(Cg h3 h4).trans (if_pos h6)
    rw [hjn,show (tab ((eO z js).length) fun i=>(kQ (fun y=>Dk S (cB js) (2 * js.length) (gY (eO z js) i) (gY (eO z js) y)) (fun y=>gm S (gY (eO z js) i) (gY (eO z js) y)) (eO z js).length (eO z js).length)) = Xx z S js from cT fun i _=>lI _ _ _]
    refine gV rfl (cK (Bj 2 1 1 rfl rfl rfl (by decide) (a4E (q:=fun _=>True) (M:=Xx z S js) (aC _ _).symm) (cY (ro rfl (eJ A_32 Z_32 (Ht rfl) (i:=2) rfl rfl rfl) (gQ Z_32 (Ht rfl) (Ht rfl) rfl (i:=0) rfl (aK rfl) rfl rfl (ro rfl (cQ (cJ 0)) (eX (bM rfl (fX (fK A_32 Z_32 rfl (i:=0) rfl rfl) ?_) (fX (eU rfl) ?_)))))))))
    ·exact (fun v V h=>by rw [rT,sX,dL,dL,he,if_neg h4,if_neg h4]; exact h)
    ·exact (aM he.symm)
end
section
open Go Go.RowKit
theorem Nf {A B C : List (List Qi)} {n : Nat} : mT (mT A B n n n) C n n n = mT A (mT B C n n n) n n n := qE pH pH fun i hi j hj => by
 rw [qM hi hj,qM hi hj]
 have e1 : aH n (fun t => gm (mT A B n n n) i t * gm C t j) = aH n fun t => aH n fun u => gm A i u * gm B u t * gm C t j := bA fun t ht => by
  rw [qM hi ht,← oE]
 have e2 : aH n (fun u => gm A i u * gm (mT B C n n n) u j) = aH n fun u => aH n fun t => gm A i u * gm B u t * gm C t j := bA fun u hu => by
  rw [qM hu hj,Qi.mul_comm',← oE]
  exact bA fun t _=>by grind
 rw [e1,e2,rJ]
theorem Ff {n i j:Nat} (hi:i < n) (hj:j < n):gm (xU n) i j = if i = j then 1 else 0:=sC hi hj
theorem Xg {n j i:Nat} (hi:i < n) (hj:j < n):gv (ek n j) i = if i = j then 1 else 0:=by
 have h:gv (ek n j) i = if j = i then 1 else 0:=Ff (n:=n) hj hi
 rw [h]
 by_cases c:i = j
 ·rw [if_pos c,if_pos c.symm]
 ·rw [if_neg c,if_neg (Ne.symm c)]
theorem a2o {M : List (List Qi)} {n : Nat} (h : dT M n n) (hE : Mx M n = 0) : mT M (Kd M n) n n n = xU n := qE pH (Ai n) fun i hi j hj => by
 have hs:=(oD h (Kf hE j hj)).1 i hi
 rw [qM hi hj,Ff hi hj,← Xg hi hj,← hs]
 exact bA fun t ht=>by rw [show gm (Kd M n) t j = gv (lB M (ek n j) n) t from qL ht hj]
theorem a1h {M X : List (List Qi)} {n : Nat} (h : mT X M n n n = xU n) {y : Nat → Qi} (hy : ∀ i, i < n → aH n (fun k => gm M i k * y k) = 0) : ∀ k, k < n → y k = 0 := fun k hk => by
 have e1:aH n (fun i=>gm X k i * aH n (fun t=>gm M i t * y t)) = 0:=kP fun i hi=>by rw [hy i hi]; grind
 have e2 : aH n (fun i => gm X k i * aH n (fun t => gm M i t * y t)) = aH n fun i => aH n fun t => gm X k i * gm M i t * y t := bA fun i _ => by
  rw [Qi.mul_comm',← oE]; exact bA fun t _=>by grind
 have e3 : aH n (fun t => aH n fun i => gm X k i * gm M i t * y t) = aH n fun t => gm (xU n) k t * y t := bA fun t ht => by
  rw [← h,qM hk ht,← oE]
 rw [e2,rJ,e3] at e1
 rw [fR (i:=k) hk (fun t ht hne=>by rw [Ff hk ht,if_neg (Ne.symm hne)]; grind),Ff hk hk,if_pos rfl] at e1
 grind
theorem Qs {M X : List (List Qi)} {n : Nat} (hM : dT M n n) (h : mT X M n n n = xU n) : Mx M n = 0 := gM fun k hk => by
 apply Classical.byContradiction; intro e
 obtain ⟨y,hy,k,hk,hne⟩:=xP hM e
 exact hne (a1h h hy k hk)
theorem a3C {M X Y:List (List Qi)} {n:Nat} (hX:dT X n n) (hY:dT Y n n) (h:mT X M n n n = xU n) (k:mT M Y n n n = xU n):X = Y:=by
 rw [← a1m hX,← k,← Nf,h,a1l hY]
theorem Rn {M Y:List (List Qi)} {n:Nat} (hM:dT M n n) (hY:dT Y n n) (h:mT M Y n n n = xU n):mT Y M n n n = xU n:=by
 have e:=Qs hY h
 have r:=a2o hY e
 rw [a3C hM (Ke Y n) h r]; exact r
theorem a4G {M:List (List Qi)} {n:Nat} (h:dT M n n) (hE:Mx M n = 0):mT (Kd M n) M n n n = xU n:=Rn h (Ke M n) (a2o h hE)
theorem a1R {M Y:List (List Qi)} {n:Nat} (hM:dT M n n) (hY:dT Y n n) (h:mT M Y n n n = xU n):Mx M n = 0:=Qs hM (Rn hM hY h)
section
variable {a b:Qi} {A B C:List (List Qi)} {d e:Nat → Qi} {n:Nat}
end
theorem q2:Qi.ofInt 2 = 2:=rfl
section
variable {z:List Qi} {s:List (List Qi)}
end
end
section
open Go Go.RowKit
theorem Px {n C k : Nat} (h : ∀ N, 1 ≤ N → fs n N ≤ C * N ^ k) : ∀ N, 1 ≤ N → fs (n + 1) N ≤ 2 * (n + 1) * C * 4 ^ k * N ^ (2 * k + 1) := fun N hN => by
 have h4:1 ≤ 4 * N * N:=Nat.mul_pos zo zo
 have a:=h (4 * N * N) h4
 have e:(4 * N * N) ^ k = 4 ^ k * (N ^ k * N ^ k):=by rw [Nat.mul_pow,Nat.mul_pow,Nat.mul_assoc]
 have e2:N ^ (2 * k + 1) = N ^ k * N ^ k * N:=by rw [Nat.pow_succ,Nat.two_mul,Nat.pow_add]
 rw [fs,e2]
 refine Nat.le_trans (Nat.mul_le_mul_left _ a) ?_
 rw [e]
 refine Nat.le_of_eq ?_
 simp only [Nat.mul_comm,Nat.mul_left_comm,Nat.mul_assoc]
theorem Pw {n C k C' k' : Nat} (h : ∀ N, 1 ≤ N → fs n N ≤ C * N ^ k) (hC : C ≤ C') (hk : k ≤ k') : ∀ N, 1 ≤ N → fs n N ≤ C' * N ^ k' := fun N hN =>
 Nat.le_trans (h N hN) (Nat.mul_le_mul hC (Nat.pow_le_pow_right hN hk))
theorem a3j {n:Nat} (hn:n ≤ 6):∀ N,1 ≤ N → fs n N ≤ (2 * 6 * (2 * 5 * 1610612736 * 4 ^ 15) * 4 ^ 31) * N ^ 63:=by
 have h4:∀ m,m ≤ 4 → ∀ N,1 ≤ N → fs m N ≤ 1610612736 * N ^ 15:=fun m hm N hN=>a0X hm hN
 have h5:∀ N,1 ≤ N → fs 5 N ≤ (2 * 5 * 1610612736 * 4 ^ 15) * N ^ 31:=Px (h4 4 (Nat.le_refl 4))
 have h6:∀ N,1 ≤ N → fs 6 N ≤ (2 * 6 * (2 * 5 * 1610612736 * 4 ^ 15) * 4 ^ 31) * N ^ 63:=Px h5
 by_cases a:n ≤ 4
 ·exact Pw (h4 n a) (by decide) (by decide)
 ·by_cases b : n = 5
  ·subst b; exact Pw h5 (by decide) (by decide)
  ·obtain rfl : n = 6 := by omega
   exact h6
theorem Nt {C m k M:Nat} (h:m + k = M) (hC:C < BB ^ k):C * BB ^ m < BB ^ M:=by
 subst h
 rw [Nat.pow_add,Nat.mul_comm (BB ^ m)]
 exact Nat.mul_lt_mul_of_pos_right hC (Nat.pow_pos fL)
theorem Mv {n e K:Nat} (hn:n ≤ 6) (he:e * 63 + 6 = K):fs n (BB ^ e) < BB ^ K:=by
 refine Nat.lt_of_le_of_lt (a3j hn _ (Nat.pow_pos fL)) ?_
 rw [← Nat.pow_mul]
 exact Nt he (by show _ < 4294967296 ^ 6; decide)
theorem Td {n:Nat} (hn:n ≤ 6):fs n (BB ^ ((6 + 1) * 4)) < BB ^ 1770:=Mv (e:=(6 + 1) * 4) (K:=1770) hn (by decide)
section
variable {z:List Qi} {S c:List (List Qi)} {js:List (Int × Int)} {N:Nat}
def Tg (S:List (List Qi)) (js:List (Int × Int)):List (List Qi):=tab (2 * js.length) fun x=>tab (2 * js.length) fun y=>uZ x y - gm S (gq (cB js) (iN y)) (gq (cB js) x)
def jnV (S:List (List Qi)) (js:List (Int × Int)) (i:Nat):List Qi:=tab (2 * js.length) fun y=>gm S i (gq (cB js) y)
def jnQ (S:List (List Qi)) (js:List (Int × Int)) (i:Nat):List Qi:=lB (Tg S js) (jnV S js i) (2 * js.length)
theorem wX (S:List (List Qi)) (js:List (Int × Int)):dT (Tg S js) (2 * js.length) (2 * js.length):=dT.tab
theorem Xy {x y:Nat} (hx:x < 2 * js.length) (hy:y < 2 * js.length):gm (Tg S js) x y = gm (mU S (cB js) (2 * js.length)) y x:=by
 have e1:gm (Tg S js) x y = uZ x y - gm S (gq (cB js) (iN y)) (gq (cB js) x):=qL hx hy
 have e2:gm (mU S (cB js) (2 * js.length)) y x = (if y = x then Qi.ofInt 1 else Qi.ofInt 0) - gm S (gq (cB js) (iN y)) (gq (cB js) x):=qL hy hx
 rw [e1,e2,uZ]
 by_cases c:x = y
 ·rw [if_pos c,if_pos c.symm]
 ·rw [if_neg c,if_neg (Ne.symm c)]
theorem a18 {M:List (List Qi)} {n:Nat} (h:dT M n n) (hk:∀ b,kA M b n = 0):Mx M n = 0:=gM fun k _=>hk _
theorem a0i {M : List (List Qi)} {n : Nat} (h : dT M n n) (hE : Mx M n = 0) (hn : 1 ≤ n) : ∀ b, kA M b n = 0 := fun b => by
 have h0:=(xO h).1 (Kf hE 0 zo)
 exact (xO h).2 h0
theorem a0j {M:List (List Qi)} {n:Nat} {b:List Qi} (h:dT M n n) (hb:kA M b n = 0):∀ b,kA M b n = 0:=fun _=>(xO h).2 ((xO h).1 hb)
theorem Xz (hk:∀ b,kA (mU S (cB js) (2 * js.length)) b (2 * js.length) = 0) (hn:1 ≤ 2 * js.length):∀ b,kA (Tg S js) b (2 * js.length) = 0:=by
 have hM:=mZ S (cB js) (2 * js.length)
 have hE:=a18 hM hk
 have l:=a4G hM hE
 refine a0i (wX S js) (a1R (Y:=tab (2 * js.length) fun x=>tab (2 * js.length) fun y=>gm (Kd (mU S (cB js) (2 * js.length)) (2 * js.length)) y x) (wX S js) dT.tab ?_) hn
 refine qE pH (Ai _) fun i hi j hj=>?_
 have e:gm (mT (Kd (mU S (cB js) (2 * js.length)) (2 * js.length)) (mU S (cB js) (2 * js.length)) (2 * js.length) (2 * js.length) (2 * js.length)) j i = gm (xU (2 * js.length)) j i:=by rw [l]
 rw [qM hj hi,Ff hj hi] at e
 rw [qM hi hj,Ff hi hj]
 have e2 : aH (2 * js.length) (fun t => gm (Tg S js) i t * gm (tab (2 * js.length) fun x => tab (2 * js.length) fun y => gm (Kd (mU S (cB js) (2 * js.length)) (2 * js.length)) y x) t j) = aH (2 * js.length) fun t => gm (Kd (mU S (cB js) (2 * js.length)) (2 * js.length)) j t * gm (mU S (cB js) (2 * js.length)) t i := bA fun t ht => by
  rw [Xy hi ht,qL ht hj,Qi.mul_comm']
 rw [e2,e]
 by_cases c:i = j
 ·rw [if_pos c,if_pos c.symm]
 ·rw [if_neg c,if_neg (Ne.symm c)]
theorem a3x (hk:∀ b,kA (mU S (cB js) (2 * js.length)) b (2 * js.length) = 0) {i x:Nat} (hx:x < 2 * js.length):gv (jnQ S js i) x = aH (2 * js.length) fun y=>gm S i (gq (cB js) y) * gv (zV S js x) y:=by
 have hM:=mZ S (cB js) (2 * js.length)
 have hT:=(oD (wX S js) (Xz hk zo (jnV S js i))).1
 have hV:=(oD hM (hk (ek (2 * js.length) x))).1
 have e1 : aH (2 * js.length) (fun y => gm S i (gq (cB js) y) * gv (zV S js x) y) = aH (2 * js.length) fun y => aH (2 * js.length) fun w => gm (mU S (cB js) (2 * js.length)) w y * gv (jnQ S js i) w * gv (zV S js x) y := bA fun y hy => by
  have h:=hT y hy
  rw [show gv (jnV S js i) y = gm S i (gq (cB js) y) from mJ hy] at h
  rw [← h,← oE]
  exact bA fun w hw=>by rw [Xy hy hw]; rfl
 have e2 : aH (2 * js.length) (fun w => aH (2 * js.length) fun y => gm (mU S (cB js) (2 * js.length)) w y * gv (jnQ S js i) w * gv (zV S js x) y) = aH (2 * js.length) fun w => gv (jnQ S js i) w * gv (ek (2 * js.length) x) w := bA fun w hw => by
  have h:=hV w hw
  rw [show gv (ek (2 * js.length) x) w = aH (2 * js.length) (fun k=>gm (mU S (cB js) (2 * js.length)) w k * gv (zV S js x) k) from h.symm,Qi.mul_comm',← oE]
  exact bA fun y _=>by grind
 rw [e1,rJ,e2,fR hx (fun k hkk hne=>by rw [Xg hkk hx,if_neg hne]; grind),Xg hx hx,if_pos rfl]; grind
theorem a3v {l:List Nat} {x:Nat} (hx:x < l.length) (hinj:∀ a b,a < l.length → b < l.length → l.getD a 0 = l.getD b 0 → a = b):wU l (l.getD x 0) = (x:Int):=by
 have hm:0 ≤ wU l (l.getD x 0):=Hi.2 (by rw [show l.getD x 0 = l[x] by simp [List.getD,hx]]; exact List.getElem_mem hx)
 rcases Kg l (l.getD x 0) with h | ⟨h1,h2,h3⟩
 ·omega
 ·have:=hinj _ _ h2 hx h3; omega
theorem Hn {x:Nat} (hx:x < 2 * js.length):(oU js).getD x 0 = gq (cB js) (iN x):=by rw [oU,rK hx]
theorem Xw (hj:Jn (cB js) N js.length) {x:Nat} (hx:x < 2 * js.length):wU (oU js) (gq (cB js) (iN x)) = (x:Int):=by
 have hl:(oU js).length = 2 * js.length:=aC _ _
 rw [← Hn hx]
 refine a3v zo fun a b ha hb e=>?_
 rw [Hn zo,Hn zo] at e
 have:=hj.inj _ _ (nO (show a < 2 * js.length by omega)) (nO (show b < 2 * js.length by omega)) e
 have e2:=congrArg iN this
 rwa [Rj,Rj] at e2
def sI (S:List (List Qi)) (js:List (Int × Int)) (N i y:Nat):List Qi:=tab N fun k=>if 0 ≤ wU (oU js) k ∧ (wU (oU js) k).toNat < y then vK S js i k else wT i k
theorem Nz {i:Nat} (hi:i < N):(tab N fun _=>Qi.zero).set i (Qi.ofInt 1) = sI S js N i 0:=by
 refine List.ext_getElem (by rw [List.length_set,aC,sI,aC]) fun k h1 h2=>?_
 rw [List.length_set,aC] at h1
 rw [List.getElem_set]
 have e:(sI S js N i 0)[k] = wT i k:=by simp [sI,tab]
 rw [e,wT]
 by_cases c:i = k
 ·rw [if_pos c,if_pos c.symm]
 ·rw [if_neg c,if_neg (Ne.symm c)]; simp [tab]; rfl
theorem Zk (S : List (List Qi)) (js : List (Int × Int)) (N i : Nat) : sI S js N i (2 * js.length) = tab N fun k => vK S js i k := cT fun k _ => by
 have hl:(oU js).length = 2 * js.length:=aC _ _
 rcases Kg (oU js) k with h | ⟨h1,h2,_⟩
 ·rw [if_neg zo,vK,if_neg zo]
 ·rw [if_pos ⟨h1,by omega⟩]
theorem Zm (hj:Jn (cB js) N js.length) {i y:Nat} (hy:y < 2 * js.length):(sI S js N i y).set (gq (cB js) (iN y)) (vK S js i (gq (cB js) (iN y))) = sI S js N i (y + 1):=by
 have hix:=Xw hj hy
 have hlt:=hj.lt (iN y) (nO hy)
 have hl:(oU js).length = 2 * js.length:=aC _ _
 refine List.ext_getElem (by rw [List.length_set,sI,sI,aC,aC]) fun k h1 h2=>?_
 have hk:k < N:=by rw [sI,aC] at h2; exact h2
 rw [List.getElem_set]
 have e1:(sI S js N i (y + 1))[k] = if 0 ≤ wU (oU js) k ∧ (wU (oU js) k).toNat < y + 1 then vK S js i k else wT i k:=by simp [sI,tab]
 have e0:(sI S js N i y)[k]'(by rw [sI,aC]; exact hk) = if 0 ≤ wU (oU js) k ∧ (wU (oU js) k).toNat < y then vK S js i k else wT i k:=by simp [sI,tab]
 by_cases c:gq (cB js) (iN y) = k
 ·rw [if_pos c,e1,← c,hix,if_pos ⟨by omega,by omega⟩]
 ·rw [if_neg c, e1, e0]
  have hne : ¬ (wU (oU js) k = (y : Int)) := fun e => by
   rcases Kg (oU js) k with h | ⟨q1,q2,q3⟩
   ·omega
   ·rw [e,Int.toNat_natCast,Hn hy] at q3; exact c q3
  by_cases d:0 ≤ wU (oU js) k ∧ (wU (oU js) k).toNat < y
  ·rw [if_pos d,if_pos ⟨d.1,by omega⟩]
  ·rw [if_neg d,if_neg fun h=>d ⟨h.1,by omega⟩]
theorem a4F (hj:Jn (cB js) N js.length) (hk:∀ b,kA (mU S (cB js) (2 * js.length)) b (2 * js.length) = 0) {i y:Nat} (hi:i ∉ nM js) (hy:y < 2 * js.length):vK S js i (gq (cB js) (iN y)) = gv (jnQ S js i) y:=by
 have hne:gq (cB js) (iN y) ≠ i:=fun e=>hi (Hm.2 ⟨iN y,nO hy,e⟩)
 rw [vK,Xw hj hy,if_pos zo,Int.toNat_natCast,wT,if_neg hne,a3x hk hy]
 rw [show Qi.ofInt 0 = (0:Qi) from rfl]; grind
def Nj (z:List Qi) (S c:List (List Qi)) (js:List (Int × Int)):List (List Qi):=dL (rB z S js) (mI (Ca S js z.length) c)
theorem Ag (hf : bP S 2) (hj : 2 * js.length ≤ 6) (hk : ∀ b, kA (mU S (cB js) (2 * js.length)) b (2 * js.length) = 0) (x : Nat) : dA (zV S js x) 7082 :=
 Zv (m:=6) (K:=1770) (L:=4) (mZ _ _ _) (wW hf (by decide)) (Xf (by decide)) (by decide) hj (Td hj) (by decide) (hk _)
theorem xC (hE:rB z S js = 0) (hl:z.length ≤ 8):sV z js = 0 ∧ 2 * js.length ≤ 6 ∧ (∀ b,kA (mU S (cB js) (2 * js.length)) b (2 * js.length) = 0) ∧ (js.length ≠ 0 → 2 * js.length ≠ z.length):=by
 have hd : sV z js = 0 := by
  apply Classical.byContradiction; intro h
  rw [rB,if_pos h] at hE; exact h hE
 have hle:=Cf hd
 have h2 : js.length ≠ 0 → 2 * js.length ≠ z.length := fun h0 h2 => by
  rw [rB,if_neg (fun k=>k hd),if_neg h0,if_pos h2] at hE; omega
 refine ⟨hd,by omega,?_,h2⟩
 by_cases h0:js.length = 0
 ·intro b
  exact (xO (mZ _ _ _)).2 fun y _ k hk=>by omega
 ·have h3 := h2 h0
  rw [rB,if_neg (fun k=>k hd),if_neg h0,if_neg h3] at hE
  have hs : Hu z S js = 0 := by
   apply Classical.byContradiction; intro h
   rw [if_neg h] at hE; omega
  have hp:=Mz hd h3
  exact a0j (mZ _ _ _) (gN hs 0 zo)
theorem Qb (hc:dT c N N):mI (Ca S [] N) c = c:=by
 have hl:(Ca S [] N).length = N:=by rw [Ca,List.length_map,show nM [] = [] from rfl,Am,aC]
 have hcl:=hc.1
 have hg : ∀ a k, a < N → k < N → gm (Ca S [] N) a k = if k = a then 1 else 0 := fun a k ha hk => by
  have hq:gY (nH (nM []) N) a = a:=by rw [show nM [] = [] from rfl,Am]; exact rK ha
  rw [Ca,a3q (by rw [show nM [] = [] from rfl,Am,aC]; exact ha),mJ hk,hq,vK,show oU [] = [] from rfl,show wU [] k = -1 from rfl,if_neg (by decide),wT]; rfl
 refine qE (by have h:=qT (p:=Ca S [] N) (c:=c); rw [hl] at h; exact h) hc fun a ha b hb=>?_
 rw [mI,qL zo zo,wH,hcl]
 have e : aH N (fun x => aH N fun y => sL (Ca S [] N) c a b x y) = aH N fun x => (if x = a then 1 else 0) * gm c x b := bA fun x hx => by
  rw [fR hb (fun y hy hne=>by rw [sL,hg b y hb hy,if_neg hne]; show _ * Qi.conj 0 = 0; rw [show Qi.conj 0 = 0 from rfl]; grind),sL,hg a x ha hx,hg b b hb hb,if_pos rfl,show Qi.conj 1 = 1 from rfl]; grind
 rw [e,fR ha (fun x _ hne=>by rw [if_neg hne]; grind),if_pos rfl]; grind
end
end
section
open Go Go.RowKit
section
variable {P:Program} {R:iK} {cx:Cx} {n:Nat} {k:List It} {E:dE} {H:Hp}
theorem HH.two {base:Nat} {w:World} {V:bD} {Z:SA} {X:Hp} (h:HH base w V (Z :: X)):HH base w V [Z,gW (SA.emp :: X)]:=by
 have h1:HH base w V ((Z :: X).set 0 SA.emp ++ [Z]):=h.last rfl
 have h2:HH base w V (gW (SA.emp :: X) :: [Z]):=HH.repack h1
 exact h2.pick (is:=[1,0]) ⟨⟨_,rfl,fun _ _ _ h=>h⟩,⟨_,rfl,fun _ _ _ h=>h⟩,trivial⟩ (by decide)
theorem iA.pack {f : FuncId} {Ts : List Ty} {γ : Type} {U : γ → Ty} {X : γ → Hp} {Q : γ → Prop} (h : iA P f Ts [] γ U X Q) : iA P f Ts [] γ U (fun x => [gW (SA.emp :: X x)]) Q :=
 fun cx Z vs V w h1 h2=>(h cx Z vs V w h1 h2).mono fun e w' ⟨v,V',x,a,b,c,d,e'⟩=>⟨v,V',x,a,b,c.withHH c.hp.two,d,e'⟩
end
namespace W
variable {P:Program} {R:iK} {cx:Cx} {n:Nat} {k:List It} {E:dE} {H:Hp} {Hf:Bool → Hp} {p:Nat}
end W
end
section
open Go Go.RowKit
section
variable {P:Program} {n:Nat} {E:dE} {H:Hp}
variable {d:Option Tmp} {t:TypeId} {pos:String} {af:Array Edge} {g:Option (Nat × Bool)}
theorem xE {x i : Operand} {B o q r s : Nat} {kd : IntKind} {j : Int} {e : TypeId} {len : Nat} (hU : ∀ w, (underlying t).run P w = .ok (.array len e) w) (hS : ∀ w, (sizeOf e).run P w = .ok s w)
  (hx:bF E x (bR B o)) (hi:bF E i (aP kd j)) (hj:j = (q:Int)) (hl:q < len) (hr:o + q * s = r) {t':TypeId}:aL P n E H ⟨d,.indexAddr t x i,t',pos,af,g⟩ (bR B r) :=
 fB fun a V w hs => by
  have e1:a.eval x = .pointer (some ⟨B,o,none⟩):=hx n V a hs
  have ei:a.eval i = .int kd j:=hi n V a hs
  subst hj hr
  exact ⟨.pointer (some ⟨B,o + q * s,none⟩),by simp [execOp,e1,ei,Instr.indexAt,Instr.sureAddr,asIntOf,Sem.run_bind,hU,hS,Result.andThen,hl,gL],rfl⟩
end
end
end Go.Proofs.YteohomnhncjcnaaGreat
