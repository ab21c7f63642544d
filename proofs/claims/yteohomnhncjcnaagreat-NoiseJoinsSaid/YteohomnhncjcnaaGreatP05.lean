/- What functions of the program compute, proved by walks over their code, and the plain mathematics of it; a part of the proof in the last text. -/
import Derived.Test.YteohomnhncjcnaaGreatP04
set_option linter.unusedVariables false
set_option linter.unusedSimpArgs false
set_option maxRecDepth 100000
set_option maxHeartbeats 4000000
namespace Go.Proofs.YteohomnhncjcnaaGreat
section
open Go Go.RowKit
theorem a4o {n:Nat} (hn:n ≤ 32):iC Tryz.prog 94 [NT .i64 n] [] (Nat) (fun B=>Is (.slice (some ⟨B,0,none⟩) n n)) (fun B=>[kH eM B 29 51 5 (bN aR (xU n))]) (fun _=>True):=by
 refine iC.intro Tryz.func94 rfl Tryz.ntmps94 rfl (fun cx Z=>(ts (ro rfl (cQ cV) (eX (ts (rn rfl (eW (Ts:=[Is (.bool false),Is (.slice none 0 0),Is (.bool false),Is (.slice none 0 0),Is (.slice none 0 0)]) O_51 rfl (fun V=>aW zd (aW zd (aW zd (aW zd (aW zd (aG))))))) fun B3=>(eX (ts (rm rfl (ro rfl (aL.nat (a0U (Ht rfl) (cJ 0)) (show max n 0 = n by omega)) (ro rfl (aL.nat (Ol (Ht rfl) (cJ 32)) (show min n 32 = n by omega)) ?_)))))))))))
 refine rn rfl (eN (T:=Is (.slice none 0 0)) (i:=Tryz.t29) V_30 mY rfl rfl (Ht rfl) rfl (fun _=>rfl) trivial (by show 24 * _ ≤ _; omega) zo) fun B9=>ra rfl (eX (cK (ts (rm rfl (ro rfl (iH U_30 (Ht rfl)) (ro rfl (cX (cJ 0)) (eX (eG (lJ 2 rfl (tK eM ⟨none,0,rfl⟩ (e:=51) (s:=5)) ?_)))))))))
 refine bO (fun (k : Nat) => k ≤ n) (fun (k : Nat) => n - k) (fun (k : Nat) => [(3, bP B3 0), (4, Is (.slice (some ⟨B9, 0, none⟩) n n)), (11, NT .i64 n), (12, NT .i64 k)]) (fun (k : Nat) => [Z, box B3 51 [Is (.bool false), Is (.slice none 0 0), Is (.bool false), Is (.slice none 0 0), Is (.slice none 0 0)], kH eM B9 29 51 5 (bN aR (jA (mO n) [] n k))]) 0 (Nat.zero_le _)
  (zS rfl) (aU (fun _ _ _ h=>h) (aU (fun _ _ _ h=>h) (aU (bI (by rw [← gF,lM]; exact mB aR n)) aY))) (fun k hk=>?_)
 refine ts (ro rfl (gX (Ht rfl) (Ht rfl)) (eX (cK (dQ (Ht rfl) (fun hd=>?_) (fun hd=>?_)))))
 ·simp only [decide_eq_true_eq] at hd
  refine jZ 2 (k) rfl (lF hd) (fun v hv=>(cU (cK (eG (ts (rm rfl (ra rfl (eX (cK (fZ (m:=10) (dp 4 rfl (cX (Ht rfl)) (dp 5 rfl (cX (Ht rfl)) (dp 3 rfl (eJ A_51 Z_51 (Ht rfl) (i:=1) rfl rfl rfl) (dq 17 2 rfl (cR dT (Ht rfl)) (d0 rfl (cZ K_77 (sE (n:=0) (by decide) (by decide)) ⟨(cJ 0),trivial⟩) (cL 18 3 19 4 rfl (cI rZ Tryz.call302 Ry (Ht rfl) ⟨(Ht rfl),trivial⟩) (dq 20 5 rfl (bT (xs:=[.tmp 20]) U_29 Z_51 O_51 (cW (Ht rfl) cG) rfl rfl rfl) ?_)))))))))))))))))
  refine dp 4 rfl (cX (Ht rfl)) (dq 22 7 rfl (iH U_30 (Ht rfl)) (C.D_new (Ei:=[(21,_),(23,_)]) rfl rfl rfl (bV (bG 6 rfl rfl) (bV (bG 8 rfl rfl) bW)) (Ff Tryz.call191 (Nz (m:=n) zo zo) ⟨(Ht rfl),(Ht rfl),trivial⟩) (fV aT rfl (by kernel_rfl) (zF (zF (aJ (C.F_new (fun B24=>aV (ro rfl (fY U_30 Z_29 (Ht rfl) (Ht rfl) rfl zo (by rw [Nat.mul_one,Nat.zero_add])) ?_)))))))))
  refine sH Z_29 (Ht rfl) (Ht rfl) (by simp only [bN,List.length_map,dA]; omega) (j:=2) (l:=4) rfl rfl rfl ?_
  refine eX ?_
  have hB24:=B24.1.2
  refine fZ (m:=9) (dp 4 rfl (cX (Ht rfl)) (dp 5 rfl (cX (Ht rfl)) (cL 26 0 27 1 rfl (fY U_30 Z_29 (Ht rfl) (Ht rfl) rfl zo (by rw [Nat.mul_one,Nat.zero_add])) ?_)))
  refine dq 28 2 rfl (iF A_29 Z_29 (Ht rfl) (j:=2) rfl) (dp 5 rfl (cX (Ht rfl)) (dp 3 rfl (eJ A_51 Z_51 (Ht rfl) (i:=1) rfl rfl rfl) (dq 31 5 rfl (cR dT (Ht rfl)) (d0 rfl (cZ K_77 (sE (n:=1) (by decide) (by decide)) ⟨(cJ 1),trivial⟩) (cL 32 6 33 7 rfl (cI rZ Tryz.call302 Ry (Ht rfl) ⟨(Ht rfl),trivial⟩) (fV aT rfl (by kernel_rfl) (zF (zF (aJ (aV (ro rfl (cH U_29 Z_51 (Ht rfl) (Ht rfl) rfl (i:=4) rfl (by simp only [List.length_map,aC]; omega) rfl) ?_)))))))))))
  refine jB Z_51 (Ht rfl) (Ht rfl) (El.ag rfl) (i:=4) rfl rfl (by simp only [List.length_map,aC]; omega) rfl ?_
  refine eX (aS (eS 2 4 rfl rfl (by decide) (by simp only [bN,List.length_map,dA]; omega) ?_))
  refine cY (ro rfl (dV (Ht rfl) (cJ 1) z6) (rm rfl (eX (cA [0,1,2] rfl (by decide) (fU (k + 1) hd zo (zS rfl) (aU (fun _ _ _ h=>h) (aU (fun _ _ _ h=>h) (aU (bI (by rw [← iP (f:=mO n),← fF,mO,← fO])) aY))))))))
 ·simp only [decide_eq_false_iff_not] at hd
  obtain rfl:n = k:=Nat.le_antisymm zo hk
  refine gV rfl (ts (rm rfl (ra rfl (eX ?_))))
  exact jR B9 trivial [0,2] ⟨⟨_,rfl,fun _ _ _ h=>h⟩,⟨_,rfl,(bI (by rw [iO]; rfl))⟩,trivial⟩ (by decide) (tJ rfl (eU rfl))
theorem Oq {M:List (List Qi)} {b:List Qi} {n L:Nat} (hM:eE M n n) (hb:b.length = n) (hf:bR M L) (hfb:dD b L) (hL:1 ≤ L) (h1:1 ≤ n) (hn:n ≤ 32) (hg:6 * cE L n + 4 ≤ 17592186044415) (hx:qP (cE L n) (n + 1) ≤ 17592186044415):bE Tryz.prog 96 [cM M,cD b] (gD [cD (dL (kA M b n) (lA M b n)),aP .i64 (kA M b n)]):=by
 have hMl:=hM.1
 have hcs:eE (kB M [b] n) n (n + 1):=lS hM
 have hcf:bR (kB M [b] n) L:=yD hf (fun r hr=>by simp at hr; subst hr; exact hfb) hL
 obtain ⟨U,hU⟩:∃ U,U = (uT M b n).1:=⟨_,rfl⟩
 have hUs:eE U n (n + 1):=by rw [hU]; exact Zh hM
 have hUl:=hUs.1
 have hUf:bR U (cE L n):=by rw [hU]; exact Le hM hf hfb hL
 have hG1:1 ≤ cE L n:=Nat.le_trans hL (oK L n)
 refine bE.intro Tryz.func96 rfl Tryz.ntmps96 rfl (fun cx=>(ts (ro rfl (cQ cV) (ro rfl (cQ (cJ 0)) (eX (cK (ts (rm rfl (ro rfl (cZ Tryz.call174 (Xa hM h1 hn) ⟨(Ht rfl),trivial⟩) (ro rfl (gB (Ht rfl)) (rm rfl (fQ rfl rfl (eK rfl rfl (Ht rfl) (fun h=>cX (Ht rfl))) (fQ rfl rfl (eK rfl rfl (Ht rfl) (fun h=>dG U_29 (fJ rfl h) aA)) (fQ rfl rfl (eK rfl rfl (Ht rfl) (fun h=>cX (Ht rfl))) (fQ rfl rfl (eK rfl rfl (Ht rfl) (fun h=>dG U_30 (fJ rfl h) aA)) ?_)))))))))))))))
 refine fQ rfl rfl (eK rfl rfl (Ht rfl) (fun h=>gK (fJ rfl h) (fJ rfl h))) (ro rfl (iV (Ht rfl) (fun h=>(fJ rfl h))) (eX (jI (Ht rfl) (by simp [hMl,hb]) ?_)))
 refine cU (ts (rm rfl (ro rfl (dG U_30 (Ht rfl) (by rw [List.length_map,hMl])) ?_)))
 refine ra rfl (eX (ts (rm rfl (rm rfl (ro rfl (bT (xs:=[.tmp 26]) U_30 Z_29 O_29 (cW (Ht rfl) cG) rfl rfl rfl) (jT Tryz.call193 (Td (M:=M) (bs:=[b]) (n:=n) (m:=n) hM (fun r hr=>by simp at hr; subst hr; omega) zo zo (by simp)) ⟨(Ht rfl),(Ht rfl),trivial⟩ rfl (fun B28 _=>?_)))))))
 refine ra rfl (eX (cK (ts (rm rfl (Gn Tryz.call194 (a17 (n:=n) (m:=n + 1) (L:=L) hcs hcf hL hg zo zo) (i:=0) rfl ⟨(Ht rfl),trivial⟩ rfl (fun uu _=>(rm rfl (ro rfl (dK (Ht rfl) rfl) (ro rfl (dK (Ht rfl) rfl) (ra rfl (ra rfl (eX (ts (rm rfl (ro rfl (kC (Ht rfl) cV) (eX (dQ (Ht rfl) (fun hs=>?_) (fun hs=>?_))))))))))))))))))
 ·have he : kA M b n = 6 := by rw [kA, if_pos (show 0 ≤ (uT M b n).2.2 from of_decide_eq_true hs)]
  refine ts (ro rfl (cQ cV) (ro rfl (cQ (cJ 6)) (eX (bM rfl (fX (eU rfl) ?_) (fX (eU rfl) ?_)))))
  ·exact (fun v V k=>by rw [he]; exact iR v V k)
  ·exact (aM he.symm)
 ·have hst : ¬ 0 ≤ (uT M b n).2.2 := of_decide_eq_false hs
  have he:kA M b n = 0:=by rw [kA,if_neg hst]
  have hdz:∀ i,i < n → gm U i i ≠ Qi.zero:=by rw [hU]; exact rK hcs (Nat.le_refl n) (a1K hst)
  refine cU (ts (rm rfl (rn rfl (jE (T:=aR Qi.zero) (i:=Tryz.t51) nC kT rfl rfl (Ht rfl) rfl kF (El.ag rfl) (by show 88 * _ ≤ _; omega) zo) fun B37=>(ra rfl (eX (cK (ts (rm rfl (ro rfl (dW (Ht rfl) (cJ 1) zo z6) (ra rfl (eX (eG (lJ 0 rfl (bI (show bN aR (dI (kB M [b] n) n).1 = bN aR U by rw [hU]; rfl)) (Hi 0 rfl (fun vs hvs=>?_)))))))))))))))
  have hvl:vs.length = n:=by have h:=hvs.len; rw [List.length_map,hUl] at h; exact h
  refine bO (fun (j : Nat) => j ≤ n) (fun (j : Nat) => n - j) (fun (j : Nat) => [(0, Is (.slice (some ⟨B28, 0, none⟩) n n)), (6, NT .i64 n), (9, Is B37), (10, aP .i64 ((n : Int) - 1 - (j : Int)))]) (fun (j : Nat) => [jP B28 29 51 5 vs vs (bN aR U), bH 51 5 B37 ((pX U n j).map aR)]) 0 (Nat.zero_le _)
   (aQ rfl (aQ rfl (aQ rfl (aZ rfl (aM zo) aX)))) (aU (fun _ _ _ h=>h) (aU (aD (by rw [pX]; exact Am aR n)) aY)) (fun j hj=>?_)
  refine cK (ts (rm rfl (ro rfl (kC (Ht rfl) cV) (eX (dQ (Ht rfl) (fun hc=>?_) (fun hc=>?_))))))
  ·have hjn : j < n := a44 (of_decide_eq_true hc)
   obtain ⟨q,hq⟩:∃ q,q = n - (j + 1):=⟨_,rfl⟩
   have hqi:(n:Int) - 1 - (j:Int) = (q:Int):=by omega
   have hqr:(U.getD q []).length = n + 1:=hUs.row zo
   have hXf:=Nn hUf hG1 hdz j hj
   have hXl:=wL U n j
   have hX1:1 ≤ qP (cE L n) j:=Nat.le_trans hG1 (Bv _ _)
   have hxm:=xS (cE L n) (show j + 1 ≤ n + 1 by omega)
   refine cU (cK (eG (ts (rm rfl (rm rfl (ro rfl (fY U_30 Z_29 (Ht rfl) (Ht rfl) hqi zo (by rw [Nat.mul_one,Nat.zero_add])) ?_))))))
   refine ro rfl (gP A_29 Z_29 (Ht rfl) (j:=0) rfl zo) (rm rfl (ro rfl (jM U_29 Z_51 (Ht rfl) (Ht rfl) rfl (j:=0) rfl zo zo zo) (ro rfl (mJ A_51 Z_51 (Ht rfl) (j:=0) rfl zo zo zo) (rn rfl (eW (Ts:=[Is (.bool false),Is (.slice none 0 0),Is (.bool false),Is (.slice none 0 0),Is (.slice none 0 0)]) O_51 rfl (fun V=>aW zd (aW zd (aW zd (aW zd (aW zd (aG))))))) fun B11=>?_))))
   refine gQ Z_51 (Ht rfl) (Ht rfl) rfl (i:=2) rfl (aK rfl) rfl rfl (eX (cK (ts (rm rfl (ro rfl (Ns (Ht rfl) cV (r:=((q + 1:Nat):Int)) ((tE (z:=(n:Int) - 1 - (j:Int) + 1) zo).trans zo)) ?_)))))
   refine ra rfl (eX (eG ?_))
   refine bO (fun (k : Nat) => k ≤ j) (fun (k : Nat) => j - k) (fun (k : Nat) => [(0, Is (.slice (some ⟨B28, 0, none⟩) n n)), (6, NT .i64 n), (9, Is B37), (10, aP .i64 ((n : Int) - 1 - (j : Int))), (11, bP B11 0), (12, NT .i64 (q + 1 + k))]) (fun (k : Nat) => [jP B28 29 51 5 vs vs (bN aR U), bH 51 5 B37 ((pX U n j).map aR), box B11 51 [aE (decide ((oH U (pX U n j) n q k).a < 0)), aI (oH U (pX U n j) n q k).a.natAbs, aE (decide ((oH U (pX U n j) n q k).b < 0)), aI (oH U (pX U n j) n q k).b.natAbs, aI (du (oH U (pX U n j) n q k))]]) 0 (Nat.zero_le _)
    (zS rfl) (aU (fun _ _ _ h=>h) (aU (fun _ _ _ h=>h) (aU (aB rfl) aY))) (fun k hk=>?_)
   refine cK (ts (rm rfl (rm rfl (ro rfl (gX (Ht rfl) (Ht rfl)) (eX (dQ (Ht rfl) (fun hf=>?_) (fun hf=>?_)))))))
   ·have hkj : k < j := by simp only [decide_eq_true_eq] at hf; omega
    haveI f1:aO (oH U (pX U n j) n q k) (cE L n + k * (cE L n + qP (cE L n) j + 2)):=At hUf hXf hG1 hX1 k
    haveI f2:aO (gm U q (q + 1 + k)) (cE L n):=hUf.get hG1 _ _
    haveI f3:aO (gv (pX U n j) (q + 1 + k)) (qP (cE L n) j):=hXf.get hX1 _
    have hb1:=Yz (G:=cE L n) (X:=qP (cE L n) j) hkj
    have hb2:qP (cE L n) (j + 1) = j * (qP (cE L n) j + cE L n + 2) + 4 * cE L n + 2:=rfl
    refine cU (cK (eG (fZ (m:=15) (dp 11 rfl (eJ A_51 Z_51 (Ht rfl) (i:=2) rfl rfl rfl) (dq 58 0 rfl (cR dT (Ht rfl)) (dp 0 rfl (cX (Ht rfl)) (dp 10 rfl (cX (Ht rfl)) (cL 60 2 61 3 rfl (fY U_30 Z_29 (Ht rfl) (Ht rfl) hqi zo (by rw [Nat.mul_one,Nat.zero_add])) ?_))))))))
    refine dq 62 4 rfl (gP A_29 Z_29 (Ht rfl) (j:=0) rfl zo) (dp 12 rfl (cX (Ht rfl)) (cL 63 5 64 6 rfl (jM U_29 Z_51 (Ht rfl) (Ht rfl) rfl (j:=0) rfl zo zo zo) (dq 65 7 rfl (mJ A_51 Z_51 (Ht rfl) (j:=0) rfl zo zo zo) (dq 66 8 rfl (cR dT (Ht rfl)) (dp 9 rfl (cX (Ht rfl)) (dp 12 rfl (cX (Ht rfl)) (cL 68 10 69 11 rfl (cH U_29 Z_51 (Ht rfl) (Ht rfl) rfl (i:=1) rfl (by rw [List.length_map]; omega) rfl) ?_)))))))
    refine dq 70 12 rfl (nM A_51 Z_51 (Ht rfl) (i:=1) rfl rfl (dY (dU (d:=Qi.zero) zo))) (cL 67 9 71 13 rfl (cI gN K_45 (qI (x:=gm U q (q + 1 + k)) (y:=gv (pX U n j) (q + 1 + k)) (L:=cE L n) (M:=qP (cE L n) j) zo) (Ht rfl) ⟨(Ht rfl),trivial⟩) (fV aT rfl (by kernel_rfl) (zF (zF (zF (aJ (aJ (aJ (aV (ro rfl (cI lE K_44 (Di (x:=(oH U (pX U n j) n q k)) (y:=gm U q (q + 1 + k) * gv (pX U n j) (q + 1 + k)) (L:=cE L n + k * (cE L n + qP (cE L n) j + 2)) (M:=cE L n + qP (cE L n) j + 1) zo) (Ht rfl) ⟨(Ht rfl),trivial⟩) ?_))))))))))
    refine gQ Z_51 (Ht rfl) (Ht rfl) rfl (i:=2) rfl (aK rfl) rfl rfl (eX (aS (cY (rm rfl (ro rfl (dV (Ht rfl) (cJ 1) z6) (ra rfl (eX (fU (k + 1) hkj zo (zS rfl) (aU (fun _ _ _ h=>h) (aU (fun _ _ _ h=>h) (aU (aB rfl) aY)))))))))))
   ·obtain rfl : k = j := Nat.le_antisymm hk (by simp only [decide_eq_false_iff_not] at hf; omega)
    haveI f1:aO (oH U (pX U n k) n q k) (cE L n + k * (cE L n + qP (cE L n) k + 2)):=At hUf hXf hG1 hX1 k
    haveI f2:aO (gm U q q) (cE L n):=hUf.get hG1 _ _
    have hb3:k * (qP (cE L n) k + cE L n + 2) = k * (cE L n + qP (cE L n) k + 2):=by rw [Nat.add_comm (qP _ _)]
    have hb2:qP (cE L n) (k + 1) = k * (qP (cE L n) k + cE L n + 2) + 4 * cE L n + 2:=rfl
    refine gV rfl (Y.D_start (m:=17) [(16,1,bH 51 5 B37 (((pX U n k).map aR).set q (aR ((oH U (pX U n k) n q k) / gm U q q))))] (Y.D_step (Ei:=[(9,_)]) rfl rfl (bQ (bJ rfl rfl) bX) rfl rfl (by kernel_rfl) (dX rfl (cX (Ht rfl))) (Y.D_step (Ei:=[(10,_)]) rfl rfl (bQ (bJ rfl rfl) bX) rfl rfl (by kernel_rfl) (dX rfl (cX (Ht rfl))) (Y.D_step (Ei:=[(11,_)]) rfl rfl (bQ (bJ rfl rfl) bX) rfl rfl (by kernel_rfl) (dX rfl (eJ A_51 Z_51 (Ht rfl) (i:=2) rfl rfl rfl)) ?_))))
    refine Y.D_step (Ei:=[(77,_)]) rfl rfl (bQ (bZ 2 rfl rfl) bX) rfl rfl (by kernel_rfl) (dX rfl (cR dT (Ht rfl))) (Y.D_step (Ei:=[(0,_)]) rfl rfl (bQ (bJ rfl rfl) bX) rfl rfl (by kernel_rfl) (dX rfl (cX (Ht rfl))) (Y.D_step (Ei:=[(10,_)]) rfl rfl (bQ (bJ rfl rfl) bX) rfl rfl (by kernel_rfl) (dX rfl (cX (Ht rfl))) (Y.D_step (Ei:=[(79,_),(80,_)]) rfl rfl (bQ (bZ 4 rfl rfl) (bQ (bZ 5 rfl rfl) bX)) rfl rfl (by kernel_rfl) (dX rfl (fY U_30 Z_29 (Ht rfl) (Ht rfl) hqi zo (by rw [Nat.mul_one,Nat.zero_add]))) ?_)))
    refine Y.D_step (Ei:=[(81,_)]) rfl rfl (bQ (bZ 6 rfl rfl) bX) rfl rfl (by kernel_rfl) (dX rfl (gP A_29 Z_29 (Ht rfl) (j:=0) rfl zo)) (Y.D_step (Ei:=[(10,_)]) rfl rfl (bQ (bJ rfl rfl) bX) rfl rfl (by kernel_rfl) (dX rfl (cX (Ht rfl))) (Y.D_step (Ei:=[(82,_),(83,_)]) rfl rfl (bQ (bZ 7 rfl rfl) (bQ (bZ 8 rfl rfl) bX)) rfl rfl (by kernel_rfl) (dX rfl (jM U_29 Z_51 (Ht rfl) (Ht rfl) hqi (j:=0) rfl zo zo zo)) ?_))
    refine Y.D_step (Ei:=[(84,_)]) rfl rfl (bQ (bZ 9 rfl rfl) bX) rfl rfl (by kernel_rfl) (dX rfl (mJ A_51 Z_51 (Ht rfl) (j:=0) rfl zo zo zo)) (Y.D_step (Ei:=[(78,_),(85,_)]) rfl rfl (bQ (bZ 3 rfl rfl) (bQ (bZ 10 rfl rfl) bX)) rfl rfl (by kernel_rfl) (dX rfl (cI sN Tryz.call40 (Xx (x:=(oH U (pX U n k) n q k)) (y:=gm U q q) (L:=cE L n + k * (cE L n + qP (cE L n) k + 2)) (M:=cE L n) zo) (Ht rfl) ⟨(Ht rfl),trivial⟩)) (Y.D_step (Ei:=[(86,_)]) rfl rfl (bQ (bZ 11 rfl rfl) bX) rfl rfl (by kernel_rfl) (dX rfl (cX (Ht rfl))) ?_))
    refine Y.D_step (Ei:=[(74,_)]) rfl rfl (bQ (bZ 12 rfl rfl) bX) rfl rfl (by kernel_rfl) (dX rfl (dK (Ht rfl) rfl)) (bY (Ei:=[(74,_)]) rfl rfl (bQ (bZ 12 rfl rfl) bX) rfl rfl (dX rfl (dK (Ht rfl) rfl)) (Y.D_step (Ei:=[(75,_),(76,_)]) rfl rfl (bQ (bZ 0 rfl rfl) (bQ (bZ 1 rfl rfl) bX)) rfl rfl (by kernel_rfl) (dX rfl (cH U_29 Z_51 (Ht rfl) (Ht rfl) hqi (i:=1) rfl (by rw [List.length_map]; omega) rfl)) ?_))
    refine Y.D_putI (Ei:=[(89,_),(87,_)]) 1 rfl rfl rfl (bQ (bZ 15 rfl rfl) (bQ (bZ 13 rfl rfl) bX)) (.head _) rfl (Iw Z_51 (Ht rfl) (Ht rfl) (El.ag rfl) (i:=0) rfl rfl (by rw [List.length_map]; omega)) ?_
    refine Y.D_done aT rfl (by kernel_rfl) rfl (by simp [Y.okP]) rfl rfl (bU (bU (bU (bU (bU (bU (bU (bU (bU (bU (bU (bU (bU (bU (bU (bU (Y.F_putI (Y.F_nil ?_))))))))))))))))))
    refine eX (aS (cY (rm rfl (ro rfl (fA (Ht rfl) cV (tE zo)) (ra rfl (eX (cA [0,1] rfl (by decide) (fU (k + 1) hjn zo (aQ rfl (aQ rfl (aQ rfl (aZ rfl (aM zo) aX)))) (aU (fun _ _ _ h=>h) (aU (aD (by rw [fO,pX,← hq])) aY))))))))))
  ·obtain rfl : j = n := Nat.le_antisymm hj (a4L (by have h := of_decide_eq_false hc; omega))
   refine gJ (i:=1) (tt:=9) rfl rfl eB (gV rfl (ts (rm rfl (ra rfl (ro rfl (cQ (cJ 0)) (eX (bM rfl (fX (eU rfl) ?_) (fX (eU rfl) ?_))))))))
   ·exact (kR (by rw [he,lA,← hU]; rfl))
   ·exact (aM he.symm)
end
section
open Go Go.RowKit
abbrev ek (n k:Nat):List Qi:=(xU n).getD k []
theorem Wk {n k L:Nat} (h:1 ≤ L):dD (ek n k) L:=(a0J h).row k
def Lz (M:List (List Qi)) (n:Nat):Int:=jV (fun k=>kA M (ek n k) n) n
def Ks (M:List (List Qi)) (n:Nat):List (List Qi):=tab n fun r=>tab n fun j=>gv (lA M (ek n j) n) r
theorem rI {α:Type} {n i:Nat} {f:Nat → α} {d:α} (h:i < n):(tab n f).getD i d = f i:=by simp [List.getD,bS h]
end
section
open Go Go.RowKit
section
variable {P:Program} {R:iK} {cx:Cx} {n:Nat} {k:List It} {E:dF} {H:Hp}
theorem Cl (i l off : Nat) {B : Nat} {BT : TypeId} {Us : List Ty} {v : Value} {A : SA} {T : Ty} (hB : H[i]? = some (box B BT Us)) (hU : Us[off]? = some (Is v)) (hL : H[l]? = some A) (hne : i ≠ l) (hT : ∀ S V, A.h S V V → T.p v V)
  (h:Tr P R cx n k E ((H.set l SA.emp).set i (box B BT (Us.set off T)))):Tr P R cx n k E H:=fun a w ⟨V,hi,hs⟩=>by
 obtain ⟨V',S,hle,hi',hA⟩:=hi.freeze hL
 have hT:=hT S V' hA
 refine h a w ⟨V',hi'.withHH ?_,hs.mono hle⟩
 obtain ⟨F,h1,h2⟩:=hi'.hp
 have hB':(H.set l SA.emp)[i]? = some (box B BT Us):=by rw [List.getElem?_set_ne (Ne.symm hne)]; exact hB
 have hil:=(List.getElem?_eq_some_iff.1 hB').1
 refine ⟨F,fun q A hq=>?_,fun q r b hq hr=>h2 q r b (by simpa using hq) (by simpa using hr)⟩
 by_cases c:i = q
 ·subst c
  rw [List.getElem?_set_self hil] at hq
  obtain rfl:=Option.some.inj hq
  obtain ⟨⟨k1,cs,k2,k3⟩,k4⟩:=h1 i _ hB'
  obtain ⟨u,u1,u2⟩:=k3.get hU
  obtain rfl:u = v:=u2
  have hset : cs.set off u = cs := by
   apply List.ext_getElem?
   intro j
   by_cases cj:off = j
   ·subst cj; rw [List.getElem?_set_self (List.getElem?_eq_some_iff.1 u1).1,u1]
   ·rw [List.getElem?_set_ne cj]
  refine ⟨⟨k1,cs,k2,?_⟩,k4⟩
  have:=k3.set off (v:=u) hT (k3.pl u (List.mem_of_getElem? u1))
  rwa [hset] at this
 ·rw [List.getElem?_set_ne c] at hq
  exact h1 q A hq
theorem a4F {B e l : Nat} {BT : TypeId} {F : Qi → Ty} {q : Value → Prop} {M : List (List Qi)} (hl : l = M.length) : ∀ S V, (kH q B BT e 5 (bN F M)).h S V V → (kP 1 (M.map fun r => kP 5 (r.map F))).p (.slice (some ⟨B, 0, none⟩) l l) V := fun S V h =>
 kJ (s:=5) (M:=M) hl _ S V rfl h
end
abbrev dP (l:List Nat):Ty:=kP 1 (l.map (NT .i64))
end
section
open Go Go.RowKit
abbrev gnI (G:List Nat):List Int:=G.map fun (q:Nat)=>(q:Int) + 1
def nH (G : List Nat) : Nat → List Nat
 | 0=>[]
 | k + 1=>nH G k ++ (if k ∈ G then [] else [k])
theorem qA (G : List Nat) : ∀ k, (nH G k).length ≤ k
 | 0=>Nat.le_refl _
 | k + 1 => by
  have:=qA G k
  simp only [nH,List.length_append]
  split
  ·simp; omega
  ·simp; omega
theorem Ms {G : List Nat} : ∀ {k x : Nat}, x ∈ nH G k → x < k
 | 0,x,h=>by cases h
 | k + 1, x, h => by
  rcases List.mem_append.1 h with h1 | h1
  ·have:=Ms h1; omega
  ·split at h1
   ·cases h1
   ·have:=List.mem_singleton.1 h1; omega
theorem Vq {G:List Nat} {i:Nat}:((gnI G).any fun x=>decide (((i + 1:Nat):Int) = x)) = decide (i ∈ G):=by
 rw [Bool.eq_iff_iff]
 simp only [gnI,List.any_map,List.any_eq_true,Function.comp,decide_eq_true_eq]
 constructor
 ·rintro ⟨q, h1, h2⟩
  obtain rfl:i = q:=by omega
  exact h1
 ·intro h; exact ⟨i,h,by omega⟩
abbrev gY (Q:List Nat) (i:Nat):Nat:=Q.getD i 0
def zP (z:List Qi) (Q:List Nat):List Qi:=tab Q.length fun i=>gv z (gY Q i)
def a3E (s:List (List Qi)) (Q:List Nat):List (List Qi):=tab Q.length fun i=>tab Q.length fun j=>gm s (gY Q i) (gY Q j)
theorem Nt {Q:List Nat} {n i:Nat} (h:∀ x,x ∈ Q → x < n) (hi:i < Q.length):gY Q i < n:=h _ (by rw [show gY Q i = Q[i] by simp [gY,List.getD,hi]]; exact List.getElem_mem hi)
theorem pQ {Q:List Nat} {i:Nat} (h:i < Q.length):(Q.map Nat.succ)[i]? = some (gY Q i + 1):=by simp [gY,List.getD,h]
end
section
open Go Go.RowKit
theorem sA:Tryz.prog.info? 3 = some Tryz.t3:=by kernel_rfl
theorem rT:Tryz.prog.underlying 72 = some (.slice 3):=by kernel_rfl
end
section
open Go Go.RowKit
theorem Mi {l:List Int} {v:Int} (hl:l.length ≤ 1000000):bE Tryz.prog 192 [kP 1 (l.map (aP .i64)),aP .i64 v] (aP .i64 (Hc (fun x=>decide (v = x)) l)):=by
 refine bE.intro Tryz.func192 rfl Tryz.ntmps192 rfl (fun cx=>(ts (ro rfl (cQ (cJ 0)) (eX (cK (ts (rm rfl (ro rfl (dG U_72 (Ht rfl) aA) (ro rfl (cX (cJ 0)) (eX (eG ?_)))))))))))
 refine bO (fun (k : Nat) => k ≤ l.length ∧ ∀ (i : Nat) (x : Int), i < k → l[i]? = some x → decide (v = x) = false) (fun (k : Nat) => l.length - k) (fun (k : Nat) => [(0, kP 1 (l.map (aP .i64))), (1, aP .i64 v), (7, NT .i64 l.length), (8, NT .i64 k)]) (fun (k : Nat) => []) 0 ⟨Nat.zero_le _, fun i x h => by omega⟩
  (zS rfl) aY (fun k ⟨hk,hn⟩=>?_)
 refine ts (ro rfl (gX (Ht rfl) (Ht rfl)) (eX (cK (dQ (Ht rfl) (fun hb=>?_) (fun hb=>?_)))))
 ·simp only [decide_eq_true_eq] at hb
  refine cU (cK (eG (ts (rm rfl (ra rfl (eX (ts (rm rfl (rm rfl (rm rfl (ro rfl (dZ U_72 Z_3 (Ht rfl) (Ht rfl) rfl (dY (nQ hb))) (ro rfl (dJ A_3 Z_3 (Ht rfl)) (ro rfl (jO (Ht rfl) (Ht rfl)) (eX (dQ (Ht rfl) (fun hc=>?_) (fun hc=>?_))))))))))))))))
  ·refine ts (rm rfl (ra rfl (eX (fW rfl (fX (eU rfl) ?_)))))
   exact (aM (Gq (p:=fun x=>decide (v = x)) (nQ hb) hc hn).symm)
  ·refine cU (aS (cY (ro rfl (dV (Ht rfl) (cJ 1) z6) (rm rfl (eX ?_)))))
   refine fU (k + 1) ⟨hb, fun i x h1 h2 => by
    by_cases e:i = k
    ·subst e; rw [nQ hb] at h2; obtain rfl:=Option.some.inj h2; exact hc
    ·exact hn i x zo h2⟩ zo (zS rfl) aY
 ·simp only [decide_eq_false_iff_not] at hb
  refine gV rfl (ts (ro rfl (cQ cV) (eX (fW rfl (fX (eU rfl) ?_)))))
  exact (aM (xX (p:=fun x=>decide (v = x)) (fun i x h=>hn i x (by have:=(List.getElem?_eq_some_iff.1 h).1; omega) h)).symm)
theorem qL {l:List Int} {v:Int} (hl:l.length ≤ 1000000):bE Tryz.prog 95 [kP 1 (l.map (aP .i64)),aP .i64 v] (aE (l.any fun x=>decide (v = x))):=by
 refine bE.intro Tryz.func95 rfl Tryz.ntmps95 rfl (fun cx=>(ts (ro rfl (cQ cV) (eX (ts (rm rfl (rm rfl (ro rfl (cZ Tryz.call192 (Mi zo) ⟨(Ht rfl),(Ht rfl),trivial⟩) (ro rfl (kC (Ht rfl) cV) (ra rfl (eX (fW rfl (fX (eU rfl) ?_)))))))))))))
 exact (eH (Cd _ l))
theorem a09 {z:List Qi} {s:List (List Qi)} {G:List Nat} (hl:z.length ≤ 1000) (hG:G.length ≤ 1000):bE Tryz.prog 121 [mD z s,kP 1 ((gnI G).map (aP .i64))] (dP ((nH G z.length).map Nat.succ)):=by
 refine bE.intro Tryz.func121 rfl Tryz.ntmps121 rfl (fun cx=>(ts (rn rfl (fG (Ht rfl)) fun B2=>(ro rfl (cQ cV) (eX (ts (ro rfl (cQ cV) (eX (cK (ts (ro rfl (cQ (cJ 1)) (eX (eG (pE 3 1 ?_))))))))))))))
 refine eC (fun (i : Nat) (v : Value) => i ≤ z.length) (fun (i : Nat) (v : Value) => z.length - i) (fun (i : Nat) (v : Value) => [(1, kP 1 ((gnI G).map (aP .i64))), (2, bP B2 0), (5, Is v), (6, NT .i64 (i + 1))]) (fun (i : Nat) (v : Value) => [box B2 32 [cD z, cM s], bH 3 1 v (((nH G i).map Nat.succ).map (NT .i64))]) 0 (.slice none 0 0) (Nat.zero_le _)
  (zS rfl) (aU (aB rfl) (aU (aD rfl) aY)) (fun i v hi=>?_)
 refine cK (ts (rm rfl (ro rfl (eZ pT (Ht rfl) rfl) (ro rfl (eY A_29 Z_29 (Ht rfl) (i:=0) rfl rfl) (ro rfl (dG U_29 (Ht rfl) aA) (ro rfl (wK (Ht rfl) (Ht rfl)) (eX (dQ (Ht rfl) (fun hd=>?_) (fun hd=>?_)))))))))
 ·simp only [decide_eq_true_eq] at hd
  have hcl:=qA G i
  refine cU (cK (eG (jQ (fun (v2:Value)=>True) (fun (v2:Value)=>[(1,kP 1 ((gnI G).map (aP .i64))),(2,bP B2 0),(5,Is v2),(6,NT .i64 (i + 1))]) (fun (v2:Value)=>[box B2 32 [cD z,cM s],bH 3 1 v2 (((nH G (i + 1)).map Nat.succ).map (NT .i64))]) ?_ (fun v2 _=>?_))))
  ·refine ts (rm rfl (rm rfl (ro rfl (cZ Tryz.call95 (qL (l := gnI G) (v := ((i + 1 : Nat) : Int)) (by rw [List.length_map]; omega)) ⟨(Ht rfl), (Ht rfl), trivial⟩) ?_)))
   refine ro rfl (gB (Ht rfl)) (eX (dQ (Ht rfl) (fun he=>?_) (fun he=>?_)))
   ·rw [Vq] at he
    have he2:i ∉ G:=by simpa using he
    have hnx:nH G (i + 1) = nH G i ++ [i]:=by rw [nH,if_neg he2]
    refine cY (rm rfl (rm rfl (ro rfl (bT (xs:=[.tmp 19]) U_72 Z_3 O_3 (cW (Ht rfl) cG) rfl rfl rfl) (iD (inf:=Tryz.t3) rT sA rfl rfl rfl (Ht rfl) (Ht rfl) (i:=1) rfl (by simp) (fun T hT=>by simp at hT; subst hT; exact El.one) (by show _ * 8 ≤ _; simp only [List.length_map,List.length_cons,List.length_nil]; omega) (by simp only [List.length_map,List.length_cons,List.length_nil]; omega) rfl (fun v3=>?_)))))
    refine ra rfl (eX (bC v3 trivial (zS rfl) (aU (aB rfl) (aU (aD (by rw [hnx,List.map_append,List.map_append]; rfl)) aY))))
   ·rw [Vq] at he
    have he2:i ∈ G:=by simpa using he
    have hnx:nH G (i + 1) = nH G i:=by rw [nH,if_pos he2,List.append_nil]
    refine cU (bC v trivial (zS rfl) (aU (aB rfl) (aU (aD (by rw [hnx])) aY)))
  ·refine aS (cY (rm rfl (ro rfl (dV (Ht rfl) (cJ 1) z6) (ra rfl (eX (fU (i + 1,v2) hd (by dsimp only; omega) (zS rfl) (dC.refl _)))))))
 ·simp only [decide_eq_false_iff_not] at hd
  obtain rfl:z.length = i:=Nat.le_antisymm zo hi
  refine gV rfl (gJ (i:=1) (tt:=5) rfl rfl eB (ts (rm rfl (ra rfl (eX ?_)))))
  exact fW rfl (eU rfl)
theorem a1A {z:List Qi} {s:List (List Qi)} {Q:List Nat} {m:Nat} (hs:eE s z.length z.length) (hQ:∀ x,x ∈ Q → x < z.length) (hm:Q.length = m) (hm2:m ≤ 1000) (hl:z.length ≤ 1000) {i j:Nat} (hi:i < m) (hj:j < m):bE Tryz.prog 206 [NT .i64 i,NT .i64 j,PT (mD z s),PT (dP (Q.map Nat.succ))] (aR (gm s (gY Q i) (gY Q j))):=by
 have hki:gY Q i < z.length:=Nt hQ zo
 have hkj:gY Q j < z.length:=Nt hQ zo
 have hsl:=hs.1
 have hsr:=hs.row hki
 refine bE.intro Tryz.func206 rfl Tryz.ntmps206 rfl (fun cx=>(ts (rn rfl (eW (Ts:=[Is (.bool false),Is (.slice none 0 0),Is (.bool false),Is (.slice none 0 0),Is (.slice none 0 0)]) O_51 rfl (fun V=>aW zd (aW zd (aW zd (aW zd (aW zd (aG))))))) fun B6=>(eX (cK (fZ (m:=14) (dp 2 rfl (Ba tW (Ht rfl) rfl) (dq 7 0 rfl (dJ A_30 Z_30 (Ht rfl)) (dp 3 rfl (dJ A_72 Z_72 (Ht rfl)) (dp 0 rfl (cX (Ht rfl)) ?_))))))))))
 refine cL 9 2 10 3 rfl (dZ U_72 Z_3 (Ht rfl) (Ht rfl) rfl (dY (pQ zo))) (dq 11 4 rfl (dJ A_3 Z_3 (Ht rfl)) (dq 12 5 rfl (aL.nat (dW (Ht rfl) (cJ 1) zo z6) (show gY Q i + 1 - 1 = gY Q i by omega)) (cL 8 1 13 6 rfl (dZ U_30 Z_29 (Ht rfl) (Ht rfl) rfl (dY (dU (d:=[]) zo))) (dq 14 7 rfl (dJ A_29 Z_29 (Ht rfl)) (dp 3 rfl (dJ A_72 Z_72 (Ht rfl)) ?_)))))
 refine dp 1 rfl (cX (Ht rfl)) (cL 16 9 17 10 rfl (dZ U_72 Z_3 (Ht rfl) (Ht rfl) rfl (dY (pQ zo))) (dq 18 11 rfl (dJ A_3 Z_3 (Ht rfl)) (dq 19 12 rfl (aL.nat (dW (Ht rfl) (cJ 1) zo z6) (show gY Q j + 1 - 1 = gY Q j by omega)) (fV aT rfl (by kernel_rfl) (zF (zF (zF (aJ (aJ (aV (ro rfl (dZ U_29 Z_51 (Ht rfl) (Ht rfl) rfl (dY (dU (d:=Qi.zero) zo))) ?_)))))))))))
 refine ro rfl (dJ A_51 Z_51 (Ht rfl)) (gQ Z_51 (Ht rfl) (Ht rfl) rfl (i:=0) rfl (aK rfl) rfl rfl (eX ?_))
 exact fW rfl (fK A_51 Z_51 rfl (i:=0) rfl rfl)
theorem a19 {z:List Qi} {s:List (List Qi)} {Q:List Nat} {m:Nat} (hs:eE s z.length z.length) (hQ:∀ x,x ∈ Q → x < z.length) (hm:Q.length = m) (hm2:m ≤ 1000) (hl:z.length ≤ 1000):iC Tryz.prog 122 [mD z s,dP (Q.map Nat.succ)] [] (Nat) (fun B=>eP [cD (zP z Q),Is (.slice (some ⟨B,0,none⟩) m m)]) (fun B=>[pF B 29 51 5 (bN aR (a3E s Q))]) (fun _=>True):=by
 have hll:(Q.map Nat.succ).length = m:=by rw [List.length_map]; exact hm
 refine iC.intro Tryz.func122 rfl Tryz.ntmps122 rfl (fun cx Z=>(ts (rn rfl (fG (Ht rfl)) fun B2=>(rn rfl (Df (Ht rfl)) fun B3=>(rn rfl (eW (Ts:=[Is (.slice none 0 0),Is (.slice none 0 0)]) O_32 rfl (fun V=>aW zd (aW zd (aG)))) fun B4=>(eX (cK (gJ (i:=1) (tt:=2) rfl rfl Hv (gJ (i:=2) (tt:=3) rfl rfl rE (cY (ro rfl (dJ A_72 Z_72 (Ht rfl)) (ro rfl (dG U_72 (Ht rfl) (by rw [List.length_map,hll])) ?_))))))))))))
 refine rn rfl (jE (T:=aR Qi.zero) (i:=Tryz.t51) nC kT rfl rfl (Ht rfl) rfl kF (El.ag rfl) (by show 88 * _ ≤ _; omega) zo) fun B10=>ra rfl (eX (cK (ts (ro rfl (dJ A_72 Z_72 (Ht rfl)) (ro rfl (dG U_72 (Ht rfl) (by rw [List.length_map,hll])) ?_)))))
 refine ro rfl (cX (cJ 0)) (eX (eG (cA [0,3,4] rfl (by decide) ?_)))
 refine bO (fun (i : Nat) => i ≤ m) (fun (i : Nat) => m - i) (fun (i : Nat) => [(2, PT (mD z s)), (3, PT (dP (Q.map Nat.succ))), (4, bP B4 0), (5, Is B10), (11, dP (Q.map Nat.succ)), (12, NT .i64 m), (13, NT .i64 i)]) (fun (i : Nat) => [Z, box B4 32 [Is (.slice none 0 0), Is (.slice none 0 0)], bH 51 5 B10 ((jA (fun i => gv z (gY Q i)) Qi.zero m i).map aR)]) 0 (Nat.zero_le _)
  (zS rfl) (aU (fun _ _ _ h=>h) (aU (fun _ _ _ h=>h) (aU (aD (by rw [← gF]; exact Am aR m)) aY))) (fun i hi=>?_)
 refine ts (ro rfl (gX (Ht rfl) (Ht rfl)) (eX (cK (dQ (Ht rfl) (fun hd=>?_) (fun hd=>?_)))))
 ·simp only [decide_eq_true_eq] at hd
  have hki:gY Q i < z.length:=Nt hQ zo
  refine cU (cK (eG (ts (rm rfl (ro rfl (dZ U_72 Z_3 (Ht rfl) (Ht rfl) rfl (dY (pQ zo))) (ro rfl (dJ A_3 Z_3 (Ht rfl)) (ra rfl (ra rfl (eX (cY (rm rfl (rm rfl (ro rfl (Ba pT (Ht rfl) rfl) (ro rfl (dJ A_29 Z_29 (Ht rfl)) (rm rfl (ro rfl (aL.nat (dW (Ht rfl) (cJ 1) zo z6) (show gY Q i + 1 - 1 = gY Q i by omega)) (ro rfl (dZ U_29 Z_51 (Ht rfl) (Ht rfl) rfl (dY (dU (d:=Qi.zero) hki))) ?_)))))))))))))))))
  refine ro rfl (dJ A_51 Z_51 (Ht rfl)) (ro rfl (cH U_29 Z_51 (Ht rfl) (Ht rfl) rfl (i:=2) rfl (by rw [List.length_map,dA]; omega) rfl) ?_)
  refine jB Z_51 (Ht rfl) (Ht rfl) (El.ag rfl) (i:=2) rfl rfl (by rw [List.length_map,dA]; omega) rfl ?_
  refine eX (aS (cY (ro rfl (dV (Ht rfl) (cJ 1) z6) (rm rfl (eX (fU (i + 1) hd zo (zS rfl) (aU (fun _ _ _ h=>h) (aU (fun _ _ _ h=>h) (aU (aD (by rw [fO,← iP (f:=(fun i=>gv z (gY Q i)))])) aY)))))))))
 ·simp only [decide_eq_false_iff_not] at hd
  obtain rfl:m = i:=Nat.le_antisymm zo hi
  rw [iO]
  refine gV rfl (gJ (i:=2) (tt:=5) rfl rfl eB ?_)
  rw [show zP z Q = tab m fun i=>gv z (gY Q i) from by rw [zP,hm],show a3E s Q = tab m fun i=>tab m fun j=>gm s (gY Q i) (gY Q j) from by rw [a3E,hm]]
  refine ts (rm rfl (ro rfl (dJ A_72 Z_72 (Ht rfl)) (ro rfl (dG U_72 (Ht rfl) (by rw [List.length_map,hll])) ?_)))
  refine ro rfl (tV (γ:=Fin m × Fin m) (Ts:=fun x=>[NT .i64 x.1.1,NT .i64 x.2.1]) (U:=fun x=>aR (gm s (gY Q x.1.1) (gY Q x.2.1))) Tryz.call206 (fun x=>a1A hs hQ hm hm2 hl x.1.2 x.2.2) ⟨(Ht rfl),(Ht rfl),trivial⟩) (jT Tryz.call114 (Qa (n:=m) (f:=fun i j=>gm s (gY Q i) (gY Q j)) zo) ⟨(Ht rfl),(Ht rfl),trivial⟩ rfl (fun B32 _=>(ro rfl (By (Ht rfl) (Ht rfl)) (gQ Z_32 (Ht rfl) (Ht rfl) rfl (i:=1) rfl (aK rfl) rfl rfl (eX ?_)))))
  exact jR B32 trivial [0,3] ⟨⟨_,rfl,fun _ _ _ h=>h⟩,⟨_,rfl,fun _ _ _ h=>h⟩,trivial⟩ (by decide) (tJ rfl (fK A_32 Z_32 rfl (i:=1) rfl rfl))
theorem Pj {n:Int} (h1:-9223372036854775808 ≤ n) (h2:n ≤ 9223372036854775807):bE Tryz.prog 109 [aP .i64 n] (aR (Qi.ofInt n)):=by
 refine bE.intro Tryz.func109 rfl Tryz.ntmps109 rfl (fun cx=>(ts (rn rfl (eW (Ts:=[Is (.bool false),Is (.slice none 0 0),Is (.bool false),Is (.slice none 0 0),Is (.slice none 0 0)]) O_51 rfl (fun V=>aW zd (aW zd (aW zd (aW zd (aW zd (aG))))))) fun B2=>(eX (ts (rn rfl (eW (Ts:=[Is (.bool false),Is (.slice none 0 0),Is (.bool false),Is (.slice none 0 0),Is (.slice none 0 0)]) O_51 rfl (fun V=>aW zd (aW zd (aW zd (aW zd (aW zd (aG))))))) fun B3=>?_))))))
 refine eX (cK (fZ (m:=4) (dp 3 rfl (eJ A_51 Z_51 (Ht rfl) (i:=1) rfl rfl rfl) (dq 4 0 rfl (cR dT (Ht rfl)) (dp 0 rfl (cX (Ht rfl)) (dq 6 2 rfl (cZ K_77 (sE (n:=n) h1 h2) ⟨(Ht rfl),trivial⟩) (fV aT rfl (by kernel_rfl) (zF (aV (ro rfl (cI rZ Tryz.call302 Ry (Ht rfl) ⟨(Ht rfl),trivial⟩) (gQ Z_51 (Ht rfl) (Ht rfl) rfl (i:=0) rfl (aK rfl) rfl rfl (eX ?_))))))))))))
 exact fW rfl (fK A_51 Z_51 rfl (i:=0) rfl rfl)
end
section
open Go Go.RowKit
def uS (x : Qi) (l m : List Qi) : Nat → Qi
 | 0=>x
 | k + 1=>uS x l m k + gv l k * gv m k
theorem Bc {x : Qi} {l m : List Qi} {L M : Nat} (hx : aO x M) (hl : dD l L) (hm : dD m L) (hL : 1 ≤ L) : ∀ k, aO (uS x l m k) (M + k * (2 * L + 2))
 | 0=>hx.le zo
 | k + 1 => by
  haveI f1:=Bc hx hl hm hL k
  haveI f2:=hl.get hL k
  haveI f3:=hm.get hL k
  have:aO (uS x l m (k + 1)) (M + k * (2 * L + 2) + (L + L + 1) + 1):=by unfold uS; infer_instance
  exact this.le (by rw [Nat.add_mul]; omega)
end
section
open Go Go.RowKit
theorem a4H {x:Qi} {l m:List Qi} {L M n:Nat} (hx:aO x M) (hl:dD l L) (hm:dD m L) (hL:1 ≤ L) (hll:l.length = n) (hml:m.length = n) (hn:n ≤ 1000) (hb:M + n * (2 * L + 2) ≤ 17592186044415):bE Tryz.prog 123 [aR x,cD l,cD m] (aR (uS x l m n)):=by
 refine bE.intro Tryz.func123 rfl Tryz.ntmps123 rfl (fun cx=>(ts (rn rfl (fG (Ht rfl)) fun B3=>(rn rfl (eW (Ts:=[Is (.bool false),Is (.slice none 0 0),Is (.bool false),Is (.slice none 0 0),Is (.slice none 0 0)]) O_51 rfl (fun V=>aW zd (aW zd (aW zd (aW zd (aW zd (aG))))))) fun B6=>(eX (cK (ts (rm rfl (ro rfl (dG U_29 (Ht rfl) (by rw [List.length_map,hll])) ?_)))))))))
 refine ro rfl (cX (cJ 0)) (eX (eG ?_))
 refine bO (fun (k : Nat) => k ≤ n) (fun (k : Nat) => n - k) (fun (k : Nat) => [(1, cD l), (2, cD m), (3, bP B3 0), (6, bP B6 0), (9, NT .i64 n), (10, NT .i64 k)]) (fun (k : Nat) => [box B3 51 [aE (decide ((uS x l m k).a < 0)), aI (uS x l m k).a.natAbs, aE (decide ((uS x l m k).b < 0)), aI (uS x l m k).b.natAbs, aI (du (uS x l m k))], box B6 51 [Is (.bool false), Is (.slice none 0 0), Is (.bool false), Is (.slice none 0 0), Is (.slice none 0 0)]]) 0 (Nat.zero_le _)
  (zS rfl) (dC.refl _) (fun k hk=>?_)
 refine ts (ro rfl (gX (Ht rfl) (Ht rfl)) (eX (cK (dQ (Ht rfl) (fun hd=>?_) (fun hd=>?_)))))
 ·simp only [decide_eq_true_eq] at hd
  haveI f1:=Bc hx hl hm hL k
  haveI f2:=hl.get hL k
  haveI f3:=hm.get hL k
  have hkn:(k + 1) * (2 * L + 2) ≤ n * (2 * L + 2):=Nat.mul_le_mul_right _ hd
  rw [Nat.add_mul] at hkn
  refine cU (cK (eG (ts (rm rfl (ra rfl (eX (fZ (m:=12) (dp 3 rfl (eJ A_51 Z_51 (Ht rfl) (i:=0) rfl rfl rfl) (dq 13 0 rfl (cR dT (Ht rfl)) (dp 1 rfl (cX (Ht rfl)) (dp 7 rfl (cX (Ht rfl)) (cL 15 2 16 3 rfl (dZ U_29 Z_51 (Ht rfl) (Ht rfl) rfl (dY (dU (d:=Qi.zero) zo))) (dq 17 4 rfl (dJ A_51 Z_51 (Ht rfl)) (dq 18 5 rfl (cR dT (Ht rfl)) (dp 2 rfl (cX (Ht rfl)) (dp 7 rfl (cX (Ht rfl)) (cL 20 7 21 8 rfl (dZ U_29 Z_51 (Ht rfl) (Ht rfl) rfl (dY (dU (d:=Qi.zero) zo))) ?_)))))))))))))))))
  refine dq 22 9 rfl (dJ A_51 Z_51 (Ht rfl)) (cL 19 6 23 10 rfl (cI gN K_45 (qI (x:=gv l k) (y:=gv m k) (L:=L) (M:=L) zo) (Ht rfl) ⟨(Ht rfl),trivial⟩) (fV aT rfl (by kernel_rfl) (zF (zF (zF (aV (ro rfl (cI tA Tryz.call46 (Qj (x:=uS x l m k) (y:=gv l k * gv m k) (L:=M + k * (2 * L + 2)) (M:=L + L + 1) zo) (Ht rfl) ⟨(Ht rfl),trivial⟩) (gQ Z_51 (Ht rfl) (Ht rfl) rfl (i:=0) rfl (aK rfl) rfl rfl ?_))))))))
  refine eX (aS (cY (ro rfl (dV (Ht rfl) (cJ 1) z6) (rm rfl (eX (fU (k + 1) hd zo (zS rfl) (dC.refl _)))))))
 ·simp only [decide_eq_false_iff_not] at hd
  obtain rfl:k = n:=Nat.le_antisymm hk zo
  refine gV rfl (ts (ro rfl (eJ A_51 Z_51 (Ht rfl) (i:=0) rfl rfl rfl) (gQ Z_51 (Ht rfl) (Ht rfl) rfl (i:=1) rfl (aK rfl) rfl rfl (eX ?_))))
  exact fW rfl (fK A_51 Z_51 rfl (i:=1) rfl rfl)
end
section
open Go Go.RowKit
namespace Qi
def npow' (x : Qi) : Nat → Qi
 | 0=>Qi.ofInt 1
 | k + 1=>npow' x k * x
theorem one_mul2 (x:Qi):Qi.ofInt 1 * x = x:=ext' (by show ((1:Int):Rat) * x.re - 0 * x.im = x.re; grind) (by show ((1:Int):Rat) * x.im + 0 * x.re = x.im; grind)
theorem mul_one2 (x:Qi):x * Qi.ofInt 1 = x:=by rw [mul_comm',one_mul2]
end Qi
instance qiField:Lean.Grind.CommRing Qi where
 natCast:=⟨fun n=>Qi.ofInt n⟩
 ofNat n:=⟨Qi.ofInt n⟩
 nsmul:=⟨fun n x=>Qi.ofInt n * x⟩
 npow:=⟨Qi.npow'⟩
 add_zero:=Qi.add_zero'
 add_comm:=Qi.add_comm'
 add_assoc:=Qi.add_assoc'
 mul_assoc:=Qi.mul_assoc'
 mul_comm:=Qi.mul_comm'
 mul_one:=Qi.mul_one2
 one_mul:=Qi.one_mul2
 left_distrib:=Qi.mul_add'
 right_distrib:=Qi.add_mul'
 zero_mul:=Qi.zero_mul'
 mul_zero:=Qi.mul_zero'
 pow_zero _:=rfl
 pow_succ _ _:=rfl
 ofNat_succ n:=Qi.ext' (by show (((n + 1:Nat):Int):Rat) = ((n:Int):Rat) + ((1:Int):Rat); rw [Int.natCast_add,Rat.intCast_add]; rfl) (by show (0:Rat) = 0 + 0; grind)
 intCast:=⟨Qi.ofInt⟩
 zsmul:=⟨fun n x=>Qi.ofInt n * x⟩
 neg_add_cancel x:=Qi.ext' (by show -x.re + x.re = ((0:Int):Rat); grind) (by show -x.im + x.im = 0; grind)
 sub_eq_add_neg:=Qi.sub_def
 neg_zsmul i x:=Qi.ext' (by show ((-i:Int):Rat) * x.re - 0 * x.im = -((i:Rat) * x.re - 0 * x.im); rw [Rat.intCast_neg]; grind) (by show ((-i:Int):Rat) * x.im + 0 * x.re = -((i:Rat) * x.im + 0 * x.re); rw [Rat.intCast_neg]; grind)
 intCast_neg i:=Qi.ext' (Rat.intCast_neg i) (by show (0:Rat) = -0; grind)
theorem q0:Qi.zero = 0:=rfl
theorem q1:Qi.ofInt 1 = 1:=rfl
theorem Br {x:Qi} (h:x ≠ 0):x * Qi.inv x = 1:=by
 have hn:x.nrm ≠ 0:=fun e=>h (Qi.nrm_zero.1 e)
 have e:x.re * x.re + x.im * x.im = x.nrm:=rfl
 refine Qi.ext' ?_ ?_
 ·show x.re * (x.re / x.nrm) - x.im * (-x.im / x.nrm) = ((1 : Int) : Rat)
  grind
 ·show x.re * (-x.im / x.nrm) + x.im * (x.re / x.nrm) = 0
  grind
theorem yK {x y:Qi} (h:y ≠ 0):x / y * y = x:=by
 rw [Qi.div_def]
 have:=Br h
 grind
theorem a35 {x y z:Qi} (h:y ≠ 0) (e:x = z * y):x / y = z:=by
 have h1:=yK (x:=x) h
 have h2:=Br h
 grind
theorem oA {x y:Qi} (h:x * y = 0):x = 0 ∨ y = 0:=by
 by_cases e:x = 0
 ·exact .inl e
 ·right; have:=Br e; grind
end
section
open Go Go.RowKit
theorem qW (m:Nat) (f:Qi) (a b:Nat → Qi):aF m (fun k=>a k - f * b k) = aF m a - f * aF m b:=by
 induction m with
 | zero=>simp only [aF,q0]; grind
 | succ m ih=>simp only [aF,ih]; grind
theorem fP {m i:Nat} (hi:i < m) {f:Nat → Qi} (h:∀ k,k < m → k ≠ i → f k = 0):aF m f = f i:=by
 induction m with
 | zero=>omega
 | succ m ih =>
  by_cases e:i = m
  ·subst e
   have : aF i f = 0 := by
    rw [← q0,← yQ i]
    exact bA fun k hk=>h k zo zo
   simp only [aF,this]; grind
  ·have h1 := ih zo (fun k hk => h k zo)
   have h2:=h m zo zo
   simp only [aF,h1,h2]; grind
theorem Ve {m i c:Nat} (hi:i < m) (hc:c < m) (hic:i ≠ c) {f:Nat → Qi} (h:∀ k,k < m → k ≠ i → k ≠ c → f k = 0):aF m f = f i + f c:=by
 have e : aF m f = aF m fun k => (if k = i then f i else 0) + (if k = c then f c else 0) := bA fun k hk => by
  by_cases e1:k = i
  ·subst e1; rw [if_pos rfl,if_neg hic]; grind
  ·by_cases e2 : k = c
   ·subst e2; rw [if_neg e1,if_pos rfl]; grind
   ·rw [if_neg e1,if_neg e2,h k hk e1 e2]; grind
 rw [e,Bw,fP hi (fun k _ hk=>if_neg hk),fP hc (fun k _ hk=>if_neg hk),if_pos rfl,if_pos rfl]
theorem kO {m:Nat} {f:Nat → Qi} (h:∀ k,k < m → f k = 0):aF m f = 0:=by
 rw [← q0,← yQ m]; exact bA h
def Ker (M:List (List Qi)) (n m:Nat) (x:Nat → Qi):Prop:=∀ i,i < n → aF m (fun k=>gm M i k * x k) = 0
def iW (rr rc:List Qi) (c k:Nat):List Qi:=tab rr.length fun j=>if c ≤ j ∧ j < k then gv rr j - gv rr c / gv rc c * gv rc j else gv rr j
def mK (M:List (List Qi)) (c r:Nat):List (List Qi):=tab M.length fun i=>if i ≠ c ∧ i < r then iW (dB M i) (dB M c) c (dB M i).length else dB M i
def pP (M : List (List Qi)) : Nat → Option (List (List Qi))
 | 0=>some M
 | c + 1=>(pP M c).bind fun A=>if pv A c M.length = M.length then none else some (mK (swp [] A (pv A c M.length) c) c M.length)
theorem tI (M:List (List Qi)) (c r:Nat):(mK M c r).length = M.length:=aC _ _
theorem rH (rr rc:List Qi) (c k:Nat):(iW rr rc c k).length = rr.length:=aC _ _
theorem Ip {M:List (List Qi)} {c r i:Nat} (hi:i < M.length):dB (mK M c r) i = if i ≠ c ∧ i < r then iW (dB M i) (dB M c) c (dB M i).length else dB M i:=by
 simp only [dB,mK,List.getD]; rw [bS hi]; rfl
theorem Xg {M:List (List Qi)} {n m c r:Nat} (h:eE M n m):eE (mK M c r) n m:=by
 refine ⟨(tI _ _ _).trans h.1,fun x hx=>?_⟩
 obtain ⟨i,hi,rfl⟩:=iZ.1 hx
 have hr:=h.row (i:=i) (by rw [← h.1]; exact hi)
 show (if i ≠ c ∧ i < r then iW (dB M i) (dB M c) c (dB M i).length else dB M i).length = m
 split
 ·rw [rH]; exact hr
 ·exact hr
theorem Ae {M:List (List Qi)} {n m c i j:Nat} (h:eE M n m) (hi:i < n) (hj:j < m):gm (mK M c n) i j = if i ≠ c ∧ c ≤ j then gm M i j - gm M i c / gm M c c * gm M c j else gm M i j:=by
 have hr:(dB M i).length = m:=h.row hi
 show gv (dB (mK M c n) i) j = _
 rw [Ip (by rw [h.1]; exact hi)]
 by_cases e:i = c
 ·rw [if_neg (fun k=>k.1 e),if_neg (fun k=>k.1 e)]
 ·rw [if_pos ⟨e, hi⟩, iW, mI zo]
  by_cases e2:c ≤ j
  ·rw [if_pos ⟨e2,by omega⟩,if_pos ⟨e,e2⟩]
  ·rw [if_neg (fun k=>e2 k.1),if_neg (fun k=>e2 k.2)]
theorem Lw {M:List (List Qi)} {p c i:Nat} (hp:p < M.length) (hc:c < M.length):dB (swp [] M p c) i = dB M (if i = c then p else if i = p then c else i):=by
 simp only [dB,swp,List.getD]
 by_cases e:i = c
 ·subst e; rw [List.getElem?_set_self (by simpa using hc),if_pos rfl]; rfl
 ·rw [List.getElem?_set_ne (Ne.symm e), if_neg e]
  by_cases e2:i = p
  ·subst e2; rw [List.getElem?_set_self hp,if_pos rfl]; rfl
  ·rw [List.getElem?_set_ne (Ne.symm e2),if_neg e2]
theorem a0c {M:List (List Qi)} {n m p c:Nat} {x:Nat → Qi} (hl:M.length = n) (hp:p < n) (hc:c < n):Ker (swp [] M p c) n m x ↔ Ker M n m x:=by
 have key : ∀ i, gm (swp [] M p c) i = gm M (if i = c then p else if i = p then c else i) := fun i => by
  funext j; exact congrArg (fun r=>gv r j) (Lw zo zo)
 constructor
 ·intro h i hi
  have h1:=h (if i = c then p else if i = p then c else i) (by split <;> (try split) <;> omega)
  rw [key] at h1
  have e : (if (if i = c then p else if i = p then c else i) = c then p else if (if i = c then p else if i = p then c else i) = p then c else (if i = c then p else if i = p then c else i)) = i := by
   by_cases e1:i = c
   ·subst e1; rw [if_pos rfl]
    by_cases e2:p = i
    ·rw [if_pos e2]; exact e2
    ·rw [if_neg e2,if_pos rfl]
   ·rw [if_neg e1]
    by_cases e2:i = p
    ·subst e2; rw [if_pos rfl,if_pos rfl]
    ·rw [if_neg e2,if_neg e1,if_neg e2]
  rw [e] at h1; exact h1
 ·intro h i hi
  rw [key]; exact h _ (by split <;> (try split) <;> omega)
theorem a1G {M:List (List Qi)} {n m c:Nat} {x:Nat → Qi} (hs:eE M n m) (hc:c < n) (hz:∀ j,j < c → gm M c j = 0):Ker (mK M c n) n m x ↔ Ker M n m x:=by
 have key : ∀ i, i < n → i ≠ c → aF m (fun k => gm (mK M c n) i k * x k) = aF m (fun k => gm M i k * x k) - gm M i c / gm M c c * aF m (fun k => gm M c k * x k) := fun i hi e => by
  rw [← qW]
  refine bA fun k hk=>?_
  rw [Ae hs hi hk]
  by_cases e2:c ≤ k
  ·rw [if_pos ⟨e,e2⟩]; grind
  ·rw [if_neg (fun h=>e2 h.2),hz k zo]; grind
 have keyc:aF m (fun k=>gm (mK M c n) c k * x k) = aF m (fun k=>gm M c k * x k):=bA fun k hk=>by rw [Ae hs hc hk,if_neg (fun h=>h.1 rfl)]
 constructor
 ·intro h i hi
  have h0:=h c hc
  rw [keyc] at h0
  by_cases e:i = c
  ·rw [e]; exact h0
  ·have h1 := h i hi
   rw [key i hi e,h0] at h1
   grind
 ·intro h i hi
  have h0:=h c hc
  by_cases e:i = c
  ·rw [e,keyc]; exact h0
  ·rw [key i hi e,h0,h i hi]; grind
structure GJ (M A:List (List Qi)) (n m c:Nat):Prop where
 sh:eE A n m
 ker:∀ x,Ker A n m x ↔ Ker M n m x
 off:∀ j,j < c → ∀ i,i < n → i ≠ j → gm A i j = 0
 dg:∀ j,j < c → gm A j j ≠ 0
theorem GJ.next {M A:List (List Qi)} {n m c p:Nat} (h:GJ M A n m c) (hc:c < n) (hnm:n ≤ m) (hcp:c ≤ p) (hp:p < n) (hz:gm A p c ≠ 0):GJ M (mK (swp [] A p c) c n) n m (c + 1):=by
 have hs:eE (swp [] A p c) n m:=xB h.sh hp hc
 have hl:=h.sh.1
 have key : ∀ i, gm (swp [] A p c) i = gm A (if i = c then p else if i = p then c else i) := fun i => by
  funext j; exact congrArg (fun r=>gv r j) (Lw zo zo)
 have hcc:gm (swp [] A p c) c c ≠ 0:=by rw [key,if_pos rfl]; exact hz
 have hoff : ∀ j, j < c → ∀ i, i < n → i ≠ j → gm (swp [] A p c) i j = 0 := fun j hj i hi hij => by
  rw [key]
  by_cases e1:i = c
  ·rw [if_pos e1]; exact h.off j hj p hp zo
  ·rw [if_neg e1]
   by_cases e2:i = p
   ·rw [if_pos e2]; exact h.off j hj c hc zo
   ·rw [if_neg e2]; exact h.off j hj i hi hij
 refine ⟨Xg hs,fun x=>(a1G hs hc (fun j hj=>hoff j hj c hc zo)).trans ((a0c hl hp hc).trans (h.ker x)),fun j hj i hi hij=>?_,fun j hj=>?_⟩
 ·rw [Ae hs hi zo]
  by_cases e:j = c
  ·subst e
   rw [if_pos ⟨hij,Nat.le_refl _⟩]
   have:=yK (x:=gm (swp [] A p j) i j) hcc
   grind
  ·rw [if_neg (fun k=>by omega)]; exact hoff j zo i hi hij
 ·rw [Ae hs zo zo]
  by_cases e:j = c
  ·subst e; rw [if_neg (fun k=>k.1 rfl)]; exact hcc
  ·rw [if_neg (fun k=>by omega),key,if_neg zo,if_neg zo]; exact h.dg j zo
theorem yC {M : List (List Qi)} {n m : Nat} (hs : eE M n m) (hnm : n ≤ m) : ∀ {c : Nat} {A : List (List Qi)}, c ≤ n → pP M c = some A → GJ M A n m c
 | 0, A, _, h => by
  obtain rfl:=Option.some.inj h
  exact ⟨hs,fun _=>Iff.rfl,fun j hj=>by omega,fun j hj=>by omega⟩
 | c + 1, A, hc, h => by
  simp only [pP] at h
  obtain ⟨B,h1,h2⟩:=Option.bind_eq_some_iff.1 h
  split at h2
  ·cases h2
  ·rename_i e
   obtain rfl:=Option.some.inj h2
   have ih:=yC hs hnm (c:=c) zo h1
   rw [hs.1] at e ⊢
   obtain ⟨_,i2,i3,i4⟩:=mW (M:=B) (c:=c) (n:=n) zo
   exact ih.next zo hnm i2 zo (i4 zo)
theorem Ov {M : List (List Qi)} : ∀ {n : Nat}, pP M n = none → ∃ c A, c < n ∧ pP M c = some A ∧ pv A c M.length = M.length
 | 0,h=>by cases h
 | c + 1, h => by
  cases e:pP M c with
  | none =>
   obtain ⟨d,A,h1,h2,h3⟩:=Ov e
   exact ⟨d,A,by omega,h2,h3⟩
  | some A =>
   refine ⟨c,A,by omega,e,?_⟩
   simp only [pP,e,Option.bind_some] at h
   by_cases e2:pv A c M.length = M.length
   ·exact e2
   ·rw [if_neg e2] at h; cases h
theorem a2K {M A : List (List Qi)} {n : Nat} (h : GJ M A n (n + 1) n) : Ker M n (n + 1) fun k => if k < n then gm A k n / gm A k k else -1 := (h.ker _).1 fun i hi => by
 have hd:=h.dg i hi
 have e : aF n (fun k => gm A i k * if k < n then gm A k n / gm A k k else -1) = gm A i n := by
  rw [fP hi (fun k hk hki=>by rw [h.off k hk i hi (Ne.symm hki)]; grind),if_pos hi]
  have:=yK (x:=gm A i n) hd
  grind
 simp only [aF,e]
 rw [if_neg zo]; grind
theorem a0M {M A : List (List Qi)} {n : Nat} (h : GJ M A n (n + 1) n) {x : Nat → Qi} (hx : Ker M n (n + 1) x) (h0 : x n = 0) : ∀ k, k < n → x k = 0 := fun k hk => by
 have h1:=(h.ker x).2 hx k hk
 have e:aF n (fun j=>gm A k j * x j) = gm A k k * x k:=fP hk (fun j hj hjk=>by rw [h.off j hj k hk (Ne.symm hjk)]; grind)
 simp only [aF,e,h0] at h1
 rcases oA (x:=gm A k k) (y:=x k) (by grind) with h2 | h2
 ·exact absurd h2 (h.dg k hk)
 ·exact h2
theorem a22 {M A : List (List Qi)} {n m c : Nat} (h : GJ M A n m c) (hc : c < n) (hnm : n ≤ m) (hz : ∀ r, c ≤ r → r < n → gm A r c = 0) : Ker M n m fun k => if k < c then -(gm A k c / gm A k k) else if k = c then 1 else 0 := (h.ker _).1 fun i hi => by
 by_cases e:i < c
 ·rw [Ve (i := i) (c := c) zo zo zo (fun k hk h1 h2 => ?_)]
  ·rw [if_pos e, if_neg zo, if_pos rfl]
   have:=yK (x:=gm A i c) (h.dg i e)
   grind
  ·by_cases e2 : k < c
   ·rw [h.off k e2 i hi (Ne.symm h1)]; grind
   ·rw [if_neg e2,if_neg h2]; grind
 ·refine kO fun k hk => ?_
  by_cases e2:k < c
  ·rw [h.off k e2 i hi zo]; grind
  ·rw [if_neg e2]
   by_cases e3:k = c
   ·rw [e3,hz i zo hi]; grind
   ·rw [if_neg e3]; grind
def Ri (M:List (List Qi)) (b:List Qi) (n:Nat):Option (List Qi):=(pP (kB M [b] n) n).map fun A=>tab n fun i=>gm A i n / gm A i i
theorem a30 {l:List Qi} {z:Qi} {k:Nat} (h:k < l.length):gv (l ++ [z]) k = gv l k:=by
 simp only [gv,List.getD]; rw [List.getElem?_append_left h]
theorem a2O {l:List Qi} {z:Qi}:gv (l ++ [z]) l.length = z:=by
 simp [gv,List.getD]
theorem a4l {M:List (List Qi)} {b:List Qi} {n i:Nat} (h:eE M n n) (hi:i < n):(∀ k,k < n → gm (kB M [b] n) i k = gm M i k) ∧ gm (kB M [b] n) i n = gv b i:=by
 obtain ⟨r,hr⟩:∃ r,r = dB M i:=⟨_,rfl⟩
 have hl:r.length = n:=by rw [hr]; exact h.row hi
 have e : dB (kB M [b] n) i = r ++ [gv b i] := by
  rw [hr]; simp only [dB,kB,List.getD]; rw [bS hi]; rfl
 refine ⟨fun k hk=>?_,?_⟩
 ·show gv (dB (kB M [b] n) i) k = gv (dB M i) k
  rw [e,← hr,a30 zo]
 ·show gv (dB (kB M [b] n) i) n = gv b i
  rw [e,← hl,a2O]
theorem yU {M:List (List Qi)} {b:List Qi} {n i:Nat} (h:eE M n n) (hi:i < n) (x:Nat → Qi):aF (n + 1) (fun k=>gm (kB M [b] n) i k * x k) = aF n (fun k=>gm M i k * x k) + gv b i * x n:=by
 obtain ⟨h1,h2⟩:=a4l (b:=b) h hi
 simp only [aF,h2]
 rw [bA (fun k hk=>by rw [h1 k hk])]
theorem sU {M:List (List Qi)} {b X:List Qi} {n:Nat} (h:eE M n n) (hX:Ri M b n = some X):X.length = n ∧ (∀ i,i < n → aF n (fun k=>gm M i k * gv X k) = gv b i) ∧ ∀ y:Nat → Qi,(∀ i,i < n → aF n (fun k=>gm M i k * y k) = 0) → ∀ k,k < n → y k = 0:=by
 obtain ⟨A,hA,rfl⟩:=Option.map_eq_some_iff.1 hX
 have hg:=yC (lS (bs:=[b]) h) (Nat.le_succ n) (Nat.le_refl n) hA
 refine ⟨aC _ _,fun i hi=>?_,fun y hy k hk=>?_⟩
 ·have h1 := a2K hg i hi
  rw [yU h hi] at h1
  have e:aF n (fun k=>gm M i k * if k < n then gm A k n / gm A k k else -1) = aF n (fun k=>gm M i k * gv (tab n fun i=>gm A i n / gm A i i) k):=bA fun k hk=>by rw [if_pos hk,mI hk]
  rw [e,if_neg zo] at h1
  grind
 ·have h1 := a0M hg (x := fun k => if k < n then y k else 0) (fun i hi => ?_) (if_neg zo) k hk
  ·simpa [hk] using h1
  ·rw [yU h hi,if_neg zo,bA (fun k hk=>by rw [if_pos hk]),hy i hi]; grind
theorem Ll {M:List (List Qi)} {b:List Qi} {n:Nat} (h:eE M n n) (hX:Ri M b n = none):∃ y:Nat → Qi,(∀ i,i < n → aF n (fun k=>gm M i k * y k) = 0) ∧ ∃ k,k < n ∧ y k ≠ 0:=by
 have hcs:eE (kB M [b] n) n (n + 1):=lS h
 obtain ⟨c,A,hc,hA,hp⟩:=Ov (Option.map_eq_none_iff.1 hX)
 have hg:=yC hcs (Nat.le_succ n) zo hA
 rw [hcs.1] at hp
 have hz:=(mW (M:=A) (c:=c) (n:=n) zo).1
 rw [hp] at hz
 have hk:=a22 hg hc (Nat.le_succ n) hz
 refine ⟨fun k=>if k < c then -(gm A k c / gm A k k) else if k = c then 1 else 0,fun i hi=>?_,c,hc,?_⟩
 ·have h1 := hk i hi
  rw [yU h hi,if_neg zo,if_neg zo] at h1
  grind
 ·show (if c < c then -(gm A c c / gm A c c) else if c = c then (1 : Qi) else 0) ≠ 0
  rw [if_neg zo,if_pos rfl]
  intro e
  have:=congrArg Qi.re e
  exact absurd this (by decide)
theorem So {rr rc : List Qi} {L c k : Nat} (h1 : dD rr L) (h2 : dD rc L) (hL : 1 ≤ L) (hp : gv rc c ≠ Qi.zero) : dD (iW rr rc c k) (6 * L + 4) := dD.tab fun j _ => by
 split
 ·exact Pf h1 h2 hL hp
 ·exact (h1.get hL j).le zo
theorem Zg {M : List (List Qi)} {L c r : Nat} (h : bR M L) (hL : 1 ≤ L) (hp : gm M c c ≠ Qi.zero) : bR (mK M c r) (6 * L + 4) := fun x hx => by
 obtain ⟨i,hi,rfl⟩:=iZ.1 hx
 show dD (if i ≠ c ∧ i < r then iW (dB M i) (dB M c) c (dB M i).length else dB M i) _
 split
 ·exact So (h.row i) (h.row c) hL hp
 ·exact (h.row i).le zo
theorem Mo {M : List (List Qi)} {n m L : Nat} (hs : eE M n m) (hnm : n ≤ m) (h : bR M L) (hL : 1 ≤ L) : ∀ {c : Nat} {A : List (List Qi)}, c ≤ n → pP M c = some A → bR A (cE L c)
 | 0,A,_,e=>by obtain rfl:=Option.some.inj e; exact h
 | c + 1, A, hc, e => by
  simp only [pP] at e
  obtain ⟨B,h1,h2⟩:=Option.bind_eq_some_iff.1 e
  split at h2
  ·cases h2
  ·rename_i e3
   obtain rfl:=Option.some.inj h2
   have ih:=Mo hs hnm h hL (c:=c) zo h1
   have hsB:=(yC hs hnm (c:=c) zo h1).sh
   rw [hs.1] at e3 ⊢
   obtain ⟨_,i2,i3,i4⟩:=mW (M:=B) (c:=c) (n:=n) zo
   refine Zg (Aa ih) (Nat.le_trans hL (oK L c)) ?_
   show gv (dB (swp [] _ _ c) c) c ≠ _
   rw [yH (by rw [hsB.1]; omega)]
   exact i4 zo
theorem Jo {rr rc:List Qi} {c:Nat}:rr = iW rr rc c c:=by
 unfold iW
 have:(tab rr.length fun j=>if c ≤ j ∧ j < c then gv rr j - gv rr c / gv rc c * gv rc j else gv rr j) = tab rr.length (gv rr):=cT fun j _=>by rw [if_neg zo]
 rw [this]; exact xE rfl
theorem Fk {rr rc:List Qi} {c k:Nat} (hk:k < rr.length):gv (iW rr rc c k) k = gv rr k:=by
 rw [iW,mI hk,if_neg zo]
theorem Mp {rr rc:List Qi} {c k:Nat} (hk:k < rr.length) (h:c ≤ k):(iW rr rc c k).set k (gv (iW rr rc c k) k - gv rr c / gv rc c * gv rc k) = iW rr rc c (k + 1):=by
 rw [Fk hk]
 apply List.ext_getElem?
 intro j
 by_cases hj:j < rr.length
 ·by_cases e : j = k
  ·subst e
   rw [List.getElem?_set_self (by rw [rH]; exact hj),iW,bS hj,if_pos zo]
  ·rw [List.getElem?_set_ne (Ne.symm e), iW, iW, bS hj, bS hj]
   by_cases e2:c ≤ j ∧ j < k
   ·rw [if_pos e2,if_pos zo]
   ·rw [if_neg e2,if_neg zo]
 ·rw [List.getElem?_eq_none (by rw [List.length_set,rH]; omega),List.getElem?_eq_none (by rw [rH]; omega)]
theorem Mm {M:List (List Qi)} {c:Nat}:M = mK M c 0:=by
 unfold mK
 have:(tab M.length fun i=>if i ≠ c ∧ i < 0 then iW (dB M i) (dB M c) c (dB M i).length else dB M i) = tab M.length (dB M):=cT fun i _=>by rw [if_neg zo]
 rw [this]; exact zA (h:=rfl)
theorem Af {M:List (List Qi)} {c r i:Nat} (hi:i < M.length) (h:¬ (i ≠ c ∧ i < r)):dB (mK M c r) i = dB M i:=by rw [Ip hi,if_neg h]
theorem Ul {M : List (List Qi)} {c : Nat} : mK M c c = mK M c (c + 1) := cT fun i _ => by
 by_cases e:i ≠ c ∧ i < c
 ·rw [if_pos e,if_pos zo]
 ·rw [if_neg e,if_neg zo]
theorem Te {M:List (List Qi)} {c r:Nat} (hr:r < M.length) (h:r ≠ c):(mK M c r).set r (iW (dB M r) (dB M c) c (dB M r).length) = mK M c (r + 1):=by
 apply List.ext_getElem?
 intro j
 by_cases hj:j < M.length
 ·by_cases e : j = r
  ·subst e
   rw [List.getElem?_set_self (by rw [tI]; exact hj),mK,bS hj,if_pos ⟨h,by omega⟩]
  ·rw [List.getElem?_set_ne (Ne.symm e), mK, mK, bS hj, bS hj]
   by_cases e2:j ≠ c ∧ j < r
   ·rw [if_pos e2,if_pos ⟨e2.1,by omega⟩]
   ·rw [if_neg e2,if_neg (fun k=>e2 ⟨k.1,by omega⟩)]
 ·rw [List.getElem?_eq_none (by rw [List.length_set,tI]; omega),List.getElem?_eq_none (by rw [tI]; omega)]
theorem Sx {D : List (List Qi)} {r c : Nat} (hr : r < D.length) (h : r ≠ c) (hc : c < D.length) :
  (mK D c r).set r (iW (dB (mK D c r) r) (dB (mK D c r) c) c (dB (mK D c r) r).length) = mK D c (r + 1):=by
 rw [Af hr zo,Af hc zo]; exact Te hr h
theorem Sz {X : List (List Qi)} {r c k : Nat} (hr : r < X.length) (hne : r ≠ c) (hk : k < (dB X r).length) (hck : c ≤ k) :
  (X.set r (iW (dB X r) (dB X c) c k)).set r ((dB (X.set r (iW (dB X r) (dB X c) c k)) r).set k (gm (X.set r (iW (dB X r) (dB X c) c k)) r k - gm X r c / gm X c c * gm (X.set r (iW (dB X r) (dB X c) c k)) c k)) = X.set r (iW (dB X r) (dB X c) c (k + 1)):=by
 rw [Kn,sJ hr]
 have e1:gm (X.set r (iW (dB X r) (dB X c) c k)) r k = gv (iW (dB X r) (dB X c) c k) k:=by show gv (dB (X.set r _) r) k = _; rw [sJ hr]
 have e2:gm (X.set r (iW (dB X r) (dB X c) c k)) c k = gv (dB X c) k:=by show gv (dB (X.set r _) c) k = _; rw [oS hne]
 rw [e1,e2]
 exact congrArg _ (Mp hk hck)
theorem a2P {X:List (List Qi)} {r c k:Nat} (hr:r < X.length) (hk:k < (dB X r).length):gm (X.set r (iW (dB X r) (dB X c) c k)) r k = gv (dB X r) k:=by
 show gv (dB (X.set r _) r) k = _
 rw [sJ hr,Fk hk]
theorem a2x {X:List (List Qi)} {r c k j:Nat} (h:r ≠ c):gm (X.set r (iW (dB X r) (dB X c) c k)) c j = gv (dB X c) j:=by
 show gv (dB (X.set r _) c) j = _
 rw [oS h]
theorem a0Q {M A:List (List Qi)} {n c p:Nat} (hl:M.length = n) (hA:pP M c = some A) (hp:pv A c n = p) (hpn:p < n):pP M (c + 1) = some (mK (swp [] A p c) c n):=by
 simp only [pP,hA,Option.bind_some,hl,hp]
 rw [if_neg zo]
theorem Xd {M A : List (List Qi)} {n c : Nat} (hl : M.length = n) (hA : pP M c = some A) (hp : pv A c n = n) : ∀ {d : Nat}, c < d → pP M d = none
 | 0,h=>by omega
 | d + 1, h => by
  simp only [pP]
  by_cases e:c = d
  ·rw [← e,hA,Option.bind_some,hl,if_pos hp]
  ·rw [Xd hl hA hp (d:=d) zo]; rfl
def Sl (M:List (List Qi)) (b:List Qi) (n:Nat):List Qi:=(Ri M b n).getD []
def Fm (M:List (List Qi)) (b:List Qi) (n:Nat):Int:=if (Ri M b n).isSome then 0 else 6
end
section
open Go Go.RowKit
theorem Wo {M:List (List Qi)} {n m:Nat} (h:eE M n m) (hn:n ≤ 32) (hm:m ≤ 32):bE Tryz.prog 271 [QM M] (aE true):=by
 have hl:=h.1
 refine bE.intro Tryz.func271 rfl Tryz.ntmps271 rfl (fun cx=>(ts (ro rfl (cQ cV) (eX (cK (ts (rm rfl (ro rfl (dG U_36 (Ht rfl) aA) (ro rfl (eD (Ht rfl) (cJ 32)) (eX (jI (Ht rfl) (by simp [hl]; omega) ?_)))))))))))
 refine cU (cK (ts (ro rfl (cQ (cJ 0)) (eX (eG ?_)))))
 refine bO (fun (i : Nat) => i ≤ n) (fun (i : Nat) => n - i) (fun (i : Nat) => [(0, QM M), (3, NT .i64 i)]) (fun (i : Nat) => []) 0 (Nat.zero_le _)
  (zS rfl) aY (fun i hi=>?_)
 refine cK (ts (rm rfl (rm rfl (ro rfl (dG U_36 (Ht rfl) aA) (ro rfl (gX (Ht rfl) (Ht rfl)) (eX (dQ (Ht rfl) (fun hd=>?_) (fun hd=>?_))))))))
 ·have hdn : i < n := by simp only [decide_eq_true_eq] at hd; omega
  have hr:=h.row hdn
  have hr0:=h.row (i:=0) zo
  simp at hr hr0
  refine cU (cK (eG (cK (fZ (m:=13) (dp 0 rfl (cX (Ht rfl)) (dp 3 rfl (cX (Ht rfl)) (cL 13 0 14 1 rfl (dZ U_36 Z_35 (Ht rfl) (Ht rfl) rfl (dY (dU (d:=[]) zo))) (dq 15 2 rfl (dJ A_35 Z_35 (Ht rfl)) (dq 16 3 rfl (dG U_35 (Ht rfl) aA) (dp 0 rfl (cX (Ht rfl)) (dq 18 5 rfl (dZ U_36 Z_35 (Ht rfl) (cJ 0) rfl (dY (dU (d:=[]) zo))) (dq 19 6 rfl (dJ A_35 Z_35 (Ht rfl)) (dq 20 7 rfl (dG U_35 (Ht rfl) aA) ?_)))))))))))))
  refine cL 17 4 21 8 rfl (gK (Ht rfl) (Ht rfl)) (dq 22 9 rfl (cX (Ht rfl)) (C.D_step (Ei:=[(0,_),(23,_)]) rfl rfl (bV (bK rfl rfl) (bV (bG 10 rfl rfl) bW)) (eK rfl rfl (Ht rfl) (fun h=>cX (Ht rfl))) (C.D_step (Ei:=[(3,_),(23,_)]) rfl rfl (bV (bK rfl rfl) (bV (bG 10 rfl rfl) bW)) (eK rfl rfl (Ht rfl) (fun h=>cX (Ht rfl))) (fV aT rfl (by kernel_rfl) (zF (zF (zF (aJ (aV ?_)))))))))
  refine fQ rfl rfl (eK rfl rfl (Ht rfl) (fun h=>dZ U_36 Z_35 (fJ rfl h) (fJ rfl h) rfl (dY (dU (d:=[]) zo)))) (fQ rfl rfl (eK rfl rfl (Ht rfl) (fun h=>dJ A_35 Z_35 (fJ rfl h))) (fQ rfl rfl (eK rfl rfl (Ht rfl) (fun h=>dG U_35 (fJ rfl h) aA)) (fQ rfl rfl (eK rfl rfl (Ht rfl) (fun h=>eD (fJ rfl h) (cJ 32))) (ro rfl (iV (Ht rfl) (fun h=>(fJ rfl h))) (eX (jI (Ht rfl) (by simp [hr,hr0]; omega) ?_))))))
  refine cU (aS (cY (rm rfl (ro rfl (dV (Ht rfl) (cJ 1) z6) (ra rfl (eX (fU (i + 1) hdn zo (zS rfl) aY)))))))
 ·refine gV rfl (ts (ro rfl (cQ cV) (eX ?_)))
  exact fW rfl (eU rfl)
theorem Me {M:List (List Qi)} {n m:Nat} (h:eE M n m) (h1:1 ≤ n):bE Tryz.prog 272 [QM M] (NT .i64 m):=by
 have hl:=h.1
 have hr0:=h.row (i:=0) zo
 refine bE.intro Tryz.func272 rfl Tryz.ntmps272 rfl (fun cx=>(ts (ro rfl (cQ (cJ 0)) (eX (cK (ts (rm rfl (ro rfl (dG U_36 (Ht rfl) aA) (ro rfl (cP (Ht rfl) (cJ 0)) (eX (jI (Ht rfl) (by simp [hl]; omega) ?_)))))))))))
 refine cU (ts (rm rfl (ro rfl (dZ U_36 Z_35 (Ht rfl) (cJ 0) rfl (dY (dU (d:=[]) zo))) (ro rfl (dJ A_35 Z_35 (Ht rfl)) (ro rfl (dG U_35 (Ht rfl) aA) (ra rfl (eX (fW rfl (fX (eU rfl) ?_)))))))))
 exact (lT hr0)
theorem To {M:List (List Qi)} {n:Nat} (hM:eE M n n) (h1:1 ≤ n) (hn:n ≤ 32):bE Tryz.prog 238 [QM M] (aE true):=by
 have hl:=hM.1
 refine bE.intro Tryz.func238 rfl Tryz.ntmps238 rfl (fun cx=>(ts (ro rfl (cQ cV) (eX (ts (rm rfl (ro rfl (cZ Tryz.call271 (Wo hM hn hn) ⟨(Ht rfl),trivial⟩) (rm rfl (fQ rfl rfl (eK rfl rfl (Ht rfl) (fun h=>cX (Ht rfl))) (fQ rfl rfl (eK rfl rfl (Ht rfl) (fun h=>dG U_36 (fJ rfl h) aA)) (fQ rfl rfl (eK rfl rfl (Ht rfl) (fun h=>cX (Ht rfl))) (fQ rfl rfl (eK rfl rfl (Ht rfl) (fun h=>cZ Tryz.call272 (Me hM h1) ⟨(fJ rfl h),trivial⟩)) (fQ rfl rfl (eK rfl rfl (Ht rfl) (fun h=>cP (fJ rfl h) (fJ rfl h))) ?_)))))))))))))
 refine ro rfl (fE (Ht rfl) (fun h=>(fJ rfl h))) (ra rfl (eX (fW rfl (fX (eU rfl) ?_))))
 exact (eH (by simp [hl]))
theorem Xh {M:List (List Qi)} {n m:Nat} (hM:eE M n m) (hn:n ≤ 1000) (h1:1 ≤ m) (hm:m ≤ 1000):iC Tryz.prog 172 [QM M] [] (Nat) (fun B=>Is (.slice (some ⟨B,0,none⟩) n n)) (fun B=>[pF B 35 131 5 (bN QT M)]) (fun _=>True):=by
 have hMl:=hM.1
 refine iC.intro Tryz.func172 rfl Tryz.ntmps172 rfl (fun cx Z=>(ts (ro rfl (cQ cV) (eX (ts (rm rfl (ro rfl (dG U_36 (Ht rfl) (by rw [List.length_map,hMl])) ?_)))))))
 refine rn rfl (eN (T:=Is (.slice none 0 0)) (i:=Tryz.t35) Tryz.underlying36 Ah rfl rfl (Ht rfl) rfl (fun _=>rfl) trivial (by show 24 * _ ≤ _; omega) zo) fun B7=>ra rfl (eX (cK (ts (ro rfl (cQ (cJ 0)) (eX (eG (lJ 1 rfl (uN (e:=131) (s:=5)) ?_)))))))
 refine bO (fun (i : Nat) => i ≤ n) (fun (i : Nat) => n - i) (fun (i : Nat) => [(0, QM M), (3, Is (.slice (some ⟨B7, 0, none⟩) n n)), (4, NT .i64 i)]) (fun (i : Nat) => [Z, pF B7 35 131 5 (bN QT (jA (dB M) [] n i))]) 0 (Nat.zero_le _)
  (zS rfl) (aU (fun _ _ _ h=>h) (aU (bI (by rw [← gF,lM]; exact mB QT n)) aY)) (fun i hi=>?_)
 refine cK (ts (rm rfl (rm rfl (ro rfl (dG U_36 (Ht rfl) aA) (ro rfl (gX (Ht rfl) (Ht rfl)) (eX (dQ (Ht rfl) (fun hd0=>?_) (fun hd0=>?_))))))))
 ·have hdn : i < n := by simp only [decide_eq_true_eq] at hd0; omega
  have hrl:(dB M i).length = m:=hM.row hdn
  have hrl2:(M.getD i []).length = m:=hrl
  refine pZ 1 (i) rfl (lF hdn) (fun v0=>(cU (cK (eG (cY (rm rfl (rm rfl (rn rfl (mN U_35 Z_131 O_131) fun B16=>(rm rfl (rm rfl (ro rfl (dZ U_36 Z_35 (Ht rfl) (Ht rfl) rfl (dY (dU (d:=[]) zo))) (ro rfl (dJ A_35 Z_35 (Ht rfl)) (En (inf:=Tryz.t131) rV mV rfl rfl rfl (Ht rfl) (Ht rfl) (i:=3) rfl (fun T hT=>by obtain ⟨x,_,rfl⟩:=List.mem_map.1 hT; exact El.ag rfl) (by show _ * 88 ≤ _; simp only [List.length_map,List.length_append,List.length_take,List.length_cons,List.length_nil]; omega) (by simp only [List.length_map,List.length_append,List.length_take,List.length_cons,List.length_nil]; omega) rfl (fun v1=>?_))))))))))))))
  refine ro rfl (fY U_36 Z_35 (Ht rfl) (Ht rfl) rfl zo (by rw [Nat.mul_one,Nat.zero_add])) ?_
  refine sH Z_35 (Ht rfl) (Ht rfl) (by simp only [bN,List.length_map,dA]; omega) (j:=1) (l:=3) rfl rfl rfl ?_
  refine eX (aS (cA [0,1,3] rfl (by decide) (eS 1 2 rfl rfl (by decide) (by simp only [bN,List.length_map,dA]; omega) ?_)))
  refine cY (rm rfl (ro rfl (dV (Ht rfl) (cJ 1) z6) (ra rfl (eX (cA [0,1] rfl (by decide) (fU (i + 1) hdn zo (zS rfl) (aU (fun _ _ _ h=>h) (aU (bI (by rw [List.nil_append,fF,← iP (f:=dB M)])) aY))))))))
 ·have hin : i = n := by simp only [decide_eq_false_iff_not] at hd0; omega
  subst hin
  refine gV rfl (ts (rm rfl (ra rfl (eX ?_))))
  exact jR B7 trivial [0,1] ⟨⟨_,rfl,fun _ _ _ h=>h⟩,⟨_,rfl,(bI (by rw [iO]; exact congrArg _ (zA (h:=hMl)).symm))⟩,trivial⟩ (by decide) (tJ rfl (eU rfl))
theorem Yc {n:Nat} (hn:n ≤ 32):iC Tryz.prog 199 [NT .i64 n] [] (Nat) (fun B=>Is (.slice (some ⟨B,0,none⟩) n n)) (fun B=>[kH eM B 35 131 5 (bN QT (xU n))]) (fun _=>True):=by
 refine iC.intro Tryz.func199 rfl Tryz.ntmps199 rfl (fun cx Z=>(ts (ro rfl (cQ cV) (eX (cK (ts (rm rfl (ro rfl (gX (Ht rfl) (cJ 0)) (eX (jI (Ht rfl) (by simp) ?_))))))))))
 refine cU (cK (ts (rm rfl (ro rfl (eD (Ht rfl) (cJ 32)) (eX (jI (Ht rfl) (by simp; omega) ?_))))))
 refine cU (ts (rm rfl (rm rfl (jT Tryz.call129 (Bg (n:=n) (m:=n) zo zo) ⟨(Ht rfl),(Ht rfl),trivial⟩ rfl (fun B11 _=>(ra rfl (eX (cK (ts (ro rfl (cQ (cJ 0)) (eX (eG ?_))))))))))))
 refine bO (fun (i : Nat) => i ≤ n) (fun (i : Nat) => n - i) (fun (i : Nat) => [(0, NT .i64 n), (3, Is (.slice (some ⟨B11, 0, none⟩) n n)), (4, NT .i64 i)]) (fun (i : Nat) => [Z, kH eM B11 35 131 5 (bN QT (jA (mO n) (tab n fun _ => Qi.zero) n i))]) 0 (Nat.zero_le _)
  (zS rfl) (aU (fun _ _ _ h=>h) (aU (bI (by rw [zD,gF])) aY)) (fun i hi=>?_)
 refine cK (ts (rm rfl (rm rfl (ro rfl (gX (Ht rfl) (Ht rfl)) (eX (dQ (Ht rfl) (fun hd0=>?_) (fun hd0=>?_)))))))
 ·have hdn : i < n := by simp only [decide_eq_true_eq] at hd0; omega
  refine jZ 1 (i) rfl (lF hdn) (fun v0 hv0=>(cU (cK (eG (fZ (m:=6) (dp 3 rfl (cX (Ht rfl)) (dp 4 rfl (cX (Ht rfl)) (cL 17 0 18 1 rfl (fY U_36 Z_35 (Ht rfl) (Ht rfl) rfl zo (by rw [Nat.mul_one,Nat.zero_add])) ?_))))))))
  refine dq 19 2 rfl (iF A_35 Z_35 (Ht rfl) (j:=1) rfl) (dp 4 rfl (cX (Ht rfl)) (d0 rfl (cZ K_148 (oY (n:=1) (by decide) (by decide)) ⟨(cJ 1),trivial⟩) (fV aT rfl (by kernel_rfl) (zF (aJ (aJ (aV (ro rfl (cH U_35 Z_131 (Ht rfl) (Ht rfl) rfl (i:=2) rfl (by simp only [List.length_map,aC]; omega) rfl) ?_))))))))
  refine jB Z_131 (Ht rfl) (Ht rfl) (El.ag rfl) (i:=2) rfl rfl (by simp only [List.length_map,aC]; omega) rfl ?_
  refine eX (aS (eS 1 2 rfl rfl (by decide) (by simp only [bN,List.length_map,dA]; omega) ?_))
  refine cY (rm rfl (ro rfl (dV (Ht rfl) (cJ 1) z6) (ra rfl (eX (cA [0,1] rfl (by decide) (fU (i + 1) hdn zo (zS rfl) (aU (fun _ _ _ h=>h) (aU (bI (by rw [fO,fF,← iP (f:=mO n),mO])) aY))))))))
 ·have hin : i = n := by simp only [decide_eq_false_iff_not] at hd0; omega
  subst hin
  refine gV rfl (ts (rm rfl (ra rfl (eX ?_))))
  exact jR B11 trivial [0,1] ⟨⟨_,rfl,fun _ _ _ h=>h⟩,⟨_,rfl,(bI (by rw [iO]; rfl))⟩,trivial⟩ (by decide) (tJ rfl (eU rfl))
end
section
open Go Go.RowKit
def Up (M:List (List Qi)) (b:List Qi) (n i:Nat):List (List Qi):=tab n fun j=>if j < i then Fc M [b] j else dB M j
theorem Yw {M:List (List Qi)} {b:List Qi} {n:Nat} (h:M.length = n):M = Up M b n 0:=by
 have:Up M b n 0 = tab n (dB M):=cT fun j _=>by rw [if_neg zo]
 rw [this]; exact zA (h:=h)
theorem a3U {M:List (List Qi)} {b:List Qi} {n:Nat}:Up M b n n = kB M [b] n:=cT fun j hj=>by rw [if_pos hj]
theorem Bx {M:List (List Qi)} {b:List Qi} {n i:Nat}:(Up M b n i).length = n:=aC _ _
theorem a0m {M:List (List Qi)} {b:List Qi} {n i:Nat} (h:i < n):(bN QT (Up M b n i))[i]? = some ((dB M i).map QT):=by
 rw [bN,List.getElem?_map,Up,bS h,if_neg zo]; rfl
theorem a0j {M:List (List Qi)} {b:List Qi} {n i:Nat} (h:i < n):(Up M b n i).set i (Fc M [b] i) = Up M b n (i + 1):=by
 apply List.ext_getElem?
 intro j
 by_cases hj:j < n
 ·by_cases e : j = i
  ·subst e
   rw [List.getElem?_set_self (by rw [Bx]; exact hj),Up,bS hj,if_pos zo]
  ·rw [List.getElem?_set_ne (Ne.symm e), Up, Up, bS hj, bS hj]
   by_cases e2:j < i
   ·rw [if_pos e2,if_pos zo]
   ·rw [if_neg e2,if_neg zo]
 ·rw [List.getElem?_eq_none (by rw [List.length_set,Bx]; omega),List.getElem?_eq_none (by rw [Bx]; omega)]
theorem a3c {M A:List (List Qi)} {b:List Qi} {n:Nat} (h:pP (kB M [b] n) n = some A):(tab n fun i=>QT (gm A i n / gm A i i)) = (Sl M b n).map QT:=by rw [Sl,Ri,h,Option.map_some,Option.getD_some,rR]
theorem a41 {M A:List (List Qi)} {b:List Qi} {n:Nat} (h:pP (kB M [b] n) n = some A):Fm M b n = 0:=by rw [Fm,Ri,h]; rfl
theorem a3x {M:List (List Qi)} {b:List Qi} {n:Nat} (h:pP (kB M [b] n) n = none):Sl M b n = []:=by rw [Sl,Ri,h]; rfl
theorem a3G {M:List (List Qi)} {b:List Qi} {n:Nat} (h:pP (kB M [b] n) n = none):Fm M b n = 6:=by rw [Fm,Ri,h]; rfl
theorem Ka {M:List (List Qi)} {b:List Qi} {n L:Nat} (hM:eE M n n) (hb:b.length = n) (hf:bR M L) (hfb:dD b L) (hL:1 ≤ L) (h1:1 ≤ n) (hn:n ≤ 32) (hg:6 * cE L n + 4 ≤ 17592186044415):bE Tryz.prog 201 [QM M,oT b] (gD [oT (Sl M b n),aP .i64 (Fm M b n)]):=by
 have hMl:=hM.1
 obtain ⟨CM,hC⟩:∃ CM,CM = kB M [b] n:=⟨_,rfl⟩
 have hs:eE CM n (n + 1):=by rw [hC]; exact lS hM
 have hcf:bR CM L:=by rw [hC]; exact yD hf (fun r hr=>by simp at hr; subst hr; exact hfb) hL
 have hs1:=hs.1
 refine bE.intro Tryz.func201 rfl Tryz.ntmps201 rfl (fun cx=>(ts (ro rfl (cQ cV) (ro rfl (cQ (cJ 0)) (eX (cK (ts (rm rfl (ro rfl (cZ Tryz.call238 (To hM h1 hn) ⟨(Ht rfl),trivial⟩) (ro rfl (gB (Ht rfl)) (rm rfl (fQ rfl rfl (eK rfl rfl (Ht rfl) (fun h=>cX (Ht rfl))) (fQ rfl rfl (eK rfl rfl (Ht rfl) (fun h=>dG U_35 (fJ rfl h) aA)) (fQ rfl rfl (eK rfl rfl (Ht rfl) (fun h=>cX (Ht rfl))) (fQ rfl rfl (eK rfl rfl (Ht rfl) (fun h=>dG U_36 (fJ rfl h) aA)) ?_)))))))))))))))
 refine fQ rfl rfl (eK rfl rfl (Ht rfl) (fun h=>gK (fJ rfl h) (fJ rfl h))) (ro rfl (iV (Ht rfl) (fun h=>(fJ rfl h))) (eX (jI (Ht rfl) (by simp [hMl,hb]) ?_)))
 refine cU (ts (rm rfl (ro rfl (dG U_36 (Ht rfl) (by rw [List.length_map,hMl])) ?_)))
 refine ra rfl (eX (ts (rm rfl (jT Tryz.call172 (Xh hM zo h1 zo) ⟨(Ht rfl),trivial⟩ rfl (fun B30 _=>(ra rfl (eX (cK (ts (ro rfl (cQ (cJ 0)) (eX (eG ?_))))))))))))
 refine bO (fun (i : Nat) => i ≤ n) (fun (i : Nat) => n - i) (fun (i : Nat) => [(0, QM M), (1, oT b), (6, NT .i64 n), (7, Is (.slice (some ⟨B30, 0, none⟩) n n)), (8, NT .i64 i)]) (fun (i : Nat) => [pF B30 35 131 5 (bN QT (Up M b n i))]) 0 (Nat.zero_le _)
  (zS rfl) (aU (bI (congrArg _ (Yw hMl))) aY) (fun i hi=>?_)
 refine cK (ts (rm rfl (rm rfl (ro rfl (gX (Ht rfl) (Ht rfl)) (eX (dQ (Ht rfl) (fun hd0=>?_) (fun hd0=>?_)))))))
 ·have hdn : i < n := by simp only [decide_eq_true_eq] at hd0; omega
  have hrl:(dB M i).length = n:=hM.row hdn
  have hrl2:(M.getD i []).length = n:=hrl
  refine pZ 0 (i) rfl (a0m hdn) (fun v0=>(cU (cK (eG (Y.D_startA (m:=12) [] 11 1 rfl rfl (bY (Ei:=[(7,_)]) rfl rfl (bQ (bJ rfl rfl) bX) rfl rfl (dX rfl (cX (Ht rfl))) (bY (Ei:=[(8,_)]) rfl rfl (bQ (bJ rfl rfl) bX) rfl rfl (dX rfl (cX (Ht rfl))) (bY (Ei:=[(7,_)]) rfl rfl (bQ (bJ rfl rfl) bX) rfl rfl (dX rfl (cX (Ht rfl))) (bY (Ei:=[(8,_)]) rfl rfl (bQ (bJ rfl rfl) bX) rfl rfl (dX rfl (cX (Ht rfl))) ?_)))))))))
  refine bY (Ei:=[(38,_),(39,_)]) rfl rfl (bQ (bZ 2 rfl rfl) (bQ (bZ 3 rfl rfl) bX)) rfl rfl (dX rfl (fY U_36 Z_35 (Ht rfl) (Ht rfl) rfl zo (by rw [Nat.mul_one,Nat.zero_add]))) ?_
  refine bY (Ei:=[(40,_)]) rfl rfl (bQ (bZ 4 rfl rfl) bX) rfl rfl (dX rfl (iF A_35 Z_35 (Ht rfl) (j:=0) rfl)) (bY (Ei:=[(1,_)]) rfl rfl (bQ (bJ rfl rfl) bX) rfl rfl (dX rfl (cX (Ht rfl))) (bY (Ei:=[(8,_)]) rfl rfl (bQ (bJ rfl rfl) bX) rfl rfl (dX rfl (cX (Ht rfl))) (bY (Ei:=[(42,_),(43,_)]) rfl rfl (bQ (bZ 6 rfl rfl) (bQ (bZ 7 rfl rfl) bX)) rfl rfl (dX rfl (dZ U_35 Z_131 (Ht rfl) (Ht rfl) rfl (dY (dU (d:=Qi.zero) zo)))) ?_)))
  refine bY (Ei:=[(44,_)]) rfl rfl (bQ (bZ 8 rfl rfl) bX) rfl rfl (dX rfl (dJ A_131 Z_131 (Ht rfl))) (bY (Ei:=[(45,_)]) rfl rfl (bQ (bZ 9 rfl rfl) bX) rfl rfl (dX rfl (bT (xs:=[.tmp 45]) U_35 Z_131 O_131 (cW (Ht rfl) cG) rfl rfl rfl)) (Y.D_app (Ei:=[(41,_),(46,_)]) rfl rfl rfl rfl (bQ (bZ 5 rfl rfl) (bQ (bZ 10 rfl rfl) bX)) rfl (rD (inf:=Tryz.t131) rV mV rfl rfl rfl (Ht rfl) (Ht rfl) (by simp) (fun T hT=>by simp at hT; subst hT; exact El.ag rfl) (by show _ * 88 ≤ _; simp only [List.length_map,List.length_append,List.length_take,List.length_cons,List.length_nil]; omega) (by simp only [List.length_map,List.length_append,List.length_take,List.length_cons,List.length_nil]; omega)) ?_))
  refine Y.D_done aT rfl (by kernel_rfl) rfl (by simp [Y.okP]) rfl rfl (bU (bU (bU (bU (bU (bU (bU (bU (bU (bU (bU (Y.F_app (fun v2=>Y.F_nil ?_)))))))))))))
  refine ro rfl (fY U_36 Z_35 (Ht rfl) (Ht rfl) rfl zo (by rw [Nat.mul_one,Nat.zero_add])) ?_
  refine sH Z_35 (Ht rfl) (Ht rfl) (by simp only [bN,List.length_map,Bx]; omega) (j:=0) (l:=2) rfl rfl rfl ?_
  refine eX (aS (cA [0,2] rfl (by decide) (eS 0 1 rfl rfl (by decide) (by simp only [bN,List.length_map,Bx]; omega) ?_)))
  refine cY (rm rfl (ro rfl (dV (Ht rfl) (cJ 1) z6) (ra rfl (eX (cA [0] rfl (by decide) (fU (i + 1) hdn zo (zS rfl) (aU (bI (by rw [pC QT _ (gv b i),fF]; exact congrArg _ (a0j hdn))) aY)))))))
 ·have hin : i = n := by simp only [decide_eq_false_iff_not] at hd0; omega
  subst hin
  rw [a3U,← hC]
  refine gV rfl (Hi 0 rfl (fun vs hvs=>?_))
  have hvs2:Hds vs i:=by have h:=hvs; rw [bN,List.length_map,hs1] at h; exact h
  refine cK (ts (ro rfl (cQ (cJ 0)) (eX (eG ?_))))
  refine iB (fun (c : Nat) (vs : List Value) (A : List (List Qi)) => c ≤ i ∧ pP CM c = some A ∧ Hds vs i) (fun (c : Nat) (vs : List Value) (A : List (List Qi)) => i - c) (fun (c : Nat) (vs : List Value) (A : List (List Qi)) => [(6, NT .i64 i), (7, Is (.slice (some ⟨B30, 0, none⟩) i i)), (9, NT .i64 c)]) (fun (c : Nat) (vs : List Value) (A : List (List Qi)) => [jP B30 35 131 5 vs vs (bN QT A)]) 0 vs CM ⟨Nat.zero_le _, rfl, hvs2⟩
   (zS rfl) (dC.refl _) (fun c vs A ⟨hc,hA,hvs⟩=>?_)
  refine cK (ts (rm rfl (rm rfl (ro rfl (gX (Ht rfl) (Ht rfl)) (eX (dQ (Ht rfl) (fun hcn=>?_) (fun hcn=>?_)))))))
  ·simp only [decide_eq_true_eq] at hcn
   have hcn:c < i:=by omega
   have hvl:=hvs.len
   have hgj:=yC hs (Nat.le_succ i) hc hA
   have hAs:eE A i (i + 1):=hgj.sh
   have hAf:bR A (cE L c):=Mo hs (Nat.le_succ i) hcf hL hc hA
   have hAl:=hAs.1
   have hgr:cE L c ≤ cE L i:=lP L hc
   have hG1:1 ≤ cE L c:=Nat.le_trans hL (oK L c)
   refine cU (cK (eG (ts (rm rfl (ra rfl (eX (cK (eG ?_))))))))
   refine bO (fun (p : Nat) => (c ≤ p ∧ p ≤ i) ∧ ∀ r, c ≤ r → r < p → gm A r c = Qi.zero) (fun (p : Nat) => i - p) (fun (p : Nat) => [(6, NT .i64 i), (7, Is (.slice (some ⟨B30, 0, none⟩) i i)), (9, NT .i64 c), (10, NT .i64 p)]) (fun (p : Nat) => [jP B30 35 131 5 vs vs (bN QT A)]) c ⟨⟨Nat.le_refl _, hc⟩, fun r h1 h2 => by omega⟩
    (zS rfl) (dC.refl _) (fun p ⟨⟨hcp,hpn⟩,hz⟩=>?_)
   refine cK (ts (rm rfl (rm rfl (ro rfl (gX (Ht rfl) (Ht rfl)) (rm rfl (fQ rfl rfl (eK rfl rfl (Ht rfl) (fun h=>cX (Ht rfl))) (fQ rfl rfl (eK rfl rfl (Ht rfl) (fun h=>cX (Ht rfl))) (fQ rfl rfl (eK rfl rfl (Ht rfl) (fun h=>fY U_36 Z_35 (fJ rfl h) (fJ rfl h) rfl (by first | omega | (simp at h; omega)) (by rw [Nat.mul_one,Nat.zero_add]))) ?_))))))))
   refine fQ rfl rfl (eK rfl rfl (Ht rfl) (fun h=>gP A_35 Z_35 (fJ rfl h) (j:=0) rfl (by simp at h; omega))) ?_
   refine fQ rfl rfl (eK rfl rfl (Ht rfl) (fun h=>cX (Ht rfl))) (fQ rfl rfl (eK rfl rfl (Ht rfl) (fun h=>jM U_35 Z_131 (fJ rfl h) (fJ rfl h) rfl (j:=0) rfl zo (by simp at h; omega) (by simp at h; rw [hAs.row h]; omega))) ?_)
   refine fQ rfl rfl (eK rfl rfl (Ht rfl) (fun h=>mJ A_131 Z_131 (fJ rfl h) (j:=0) rfl zo (by simp at h; omega) (by simp at h; rw [hAs.row h]; omega))) ?_
   refine fQ rfl rfl (eK rfl rfl (Ht rfl) (fun h=>cZ Tryz.call166 (Ox (x:=gm A p c)) ⟨(fJ rfl h),trivial⟩)) (ro rfl (fE (Ht rfl) (fun h=>(fJ rfl h))) (eX (dQ (Ht rfl) (fun he=>?_) (fun he=>?_))))
   ·have he2 : p < i ∧ gm A p c = Qi.zero := by simpa using he
    refine cU (eG (cY (rm rfl (ro rfl (dV (Ht rfl) (cJ 1) z6) (ra rfl (eX (aS ?_)))))))
    refine fU (p + 1) ⟨⟨by omega, by omega⟩, fun r h1 h2 => by
      by_cases e:r = p
      ·rw [e]; exact he2.2
      ·exact hz r h1 zo⟩ zo (zS rfl) (dC.refl _)
   ·have hpv : pv A c i = p := a2u hcp hpn hz (fun h => by simp at he; exact he h)
    refine gV rfl (cK (ts (rm rfl (rm rfl (ro rfl (cP (Ht rfl) (Ht rfl)) (eX (dQ (Ht rfl) (fun hp=>?_) (fun hp=>?_))))))))
    ·have hp2 : p = i := by simpa using hp
     have hend:pP CM i = none:=Xd hs1 hA (by rw [hpv]; exact hp2) hcn
     rw [hC] at hend
     refine ts (ro rfl (cQ cV) (ro rfl (cQ (cJ 6)) (eX (bM rfl (fX (eU rfl) ?_) (fX (eU rfl) ?_)))))
     ·exact (fun v V k=>by rw [a3x hend]; exact iR v V k)
     ·exact (aM (a3G hend).symm)
    ·have hp2 : p < i := by simp at hp; omega
     have hpz:=(mW (M:=A) (c:=c) (n:=i) hc).2.2.2 (by rw [hpv]; exact hp2)
     rw [hpv] at hpz
     have hnx:=a0Q hs1 hA hpv hp2
     refine cU (cK (Y.D_start (m:=14) [(13,0,jP B30 35 131 5 (vs.set p (hd vs c)) vs (bN QT A))] (Y.D_step (Ei:=[(7,_)]) rfl rfl (bQ (bJ rfl rfl) bX) rfl rfl (by kernel_rfl) (dX rfl (cX (Ht rfl))) (Y.D_step (Ei:=[(10,_)]) rfl rfl (bQ (bJ rfl rfl) bX) rfl rfl (by kernel_rfl) (dX rfl (cX (Ht rfl))) (bY (Ei:=[(7,_)]) rfl rfl (bQ (bJ rfl rfl) bX) rfl rfl (dX rfl (cX (Ht rfl))) (bY (Ei:=[(9,_)]) rfl rfl (bQ (bJ rfl rfl) bX) rfl rfl (dX rfl (cX (Ht rfl))) ?_))))))
     refine Y.D_step (Ei:=[(7,_)]) rfl rfl (bQ (bJ rfl rfl) bX) rfl rfl (by kernel_rfl) (dX rfl (cX (Ht rfl))) (Y.D_step (Ei:=[(9,_)]) rfl rfl (bQ (bJ rfl rfl) bX) rfl rfl (by kernel_rfl) (dX rfl (cX (Ht rfl))) (Y.D_step (Ei:=[(77,_),(78,_)]) rfl rfl (bQ (bZ 4 rfl rfl) (bQ (bZ 5 rfl rfl) bX)) rfl rfl (by kernel_rfl) (dX rfl (fY U_36 Z_35 (Ht rfl) (Ht rfl) rfl zo (by rw [Nat.mul_one,Nat.zero_add]))) ?_))
     refine Y.D_step (Ei:=[(79,_)]) rfl rfl (bQ (bZ 6 rfl rfl) bX) rfl rfl (by kernel_rfl) (dX rfl (gP A_35 Z_35 (Ht rfl) (j:=0) rfl zo)) (Y.D_step (Ei:=[(7,_)]) rfl rfl (bQ (bJ rfl rfl) bX) rfl rfl (by kernel_rfl) (dX rfl (cX (Ht rfl))) (Y.D_step (Ei:=[(10,_)]) rfl rfl (bQ (bJ rfl rfl) bX) rfl rfl (by kernel_rfl) (dX rfl (cX (Ht rfl))) (Y.D_step (Ei:=[(81,_),(82,_)]) rfl rfl (bQ (bZ 8 rfl rfl) (bQ (bZ 9 rfl rfl) bX)) rfl rfl (by kernel_rfl) (dX rfl (fY U_36 Z_35 (Ht rfl) (Ht rfl) rfl zo (by rw [Nat.mul_one,Nat.zero_add]))) ?_)))
     refine Y.D_step (Ei:=[(83,_)]) rfl rfl (bQ (bZ 10 rfl rfl) bX) rfl rfl (by kernel_rfl) (dX rfl (gP A_35 Z_35 (Ht rfl) (j:=0) rfl zo)) (Y.D_step (Ei:=[(73,_),(74,_)]) rfl rfl (bQ (bZ 0 rfl rfl) (bQ (bZ 1 rfl rfl) bX)) rfl rfl (by kernel_rfl) (dX rfl (fY U_36 Z_35 (Ht rfl) (Ht rfl) rfl zo (by rw [Nat.mul_one,Nat.zero_add]))) ?_)
     refine Y.D_putI (Ei:=[(85,_),(80,_)]) 0 rfl rfl rfl (bQ (bZ 12 rfl rfl) (bQ (bZ 7 rfl rfl) bX)) (.head _) rfl (Lx Z_35 (Ht rfl) (Ht rfl) (hvs.pl c zo) (i:=p) (hs:=vs) zo) (Y.D_done aT rfl (by kernel_rfl) rfl (by simp [Y.okP]) rfl rfl (bU (bU (bU (bU (bU (bU (bU (bU (bU (bU (bU (bU (bU (Y.F_putI (Y.F_nil ?_))))))))))))))))
     refine ro rfl (fY U_36 Z_35 (Ht rfl) (Ht rfl) rfl zo (by rw [Nat.mul_one,Nat.zero_add])) ?_
     refine Yp Z_35 (Ht rfl) (Ht rfl) (j:=0) rfl (hvs.pl p zo) (by rw [List.length_set]; omega) rfl ?_
     refine eX (cK (lJ 0 rfl (Eo (hs:=swp Bh vs p c) (p:=p) (c:=c) zo zo zo) ?_))
     have hus:=hvs.swp hp2 hcn
     have hDs:eE (swp [] A p c) i (i + 1):=xB hAs hp2 hcn
     have hDf:bR (swp [] A p c) (cE L c):=Aa hAf
     have hDz : gm (swp [] A p c) c c ≠ Qi.zero := by
      show gv (dB (swp [] A p c) c) c ≠ _
      rw [yH zo]; exact hpz
     obtain ⟨us,hus2⟩:∃ us,us = swp Bh vs p c:=⟨_,rfl⟩
     obtain ⟨D,hD⟩:∃ D,D = swp [] A p c:=⟨_,rfl⟩
     rw [← hus2] at hus ⊢
     rw [← hD] at hDs hDf hDz hnx ⊢
     have hul:=hus.len
     have hDl:=hDs.1
     refine cY (ro rfl (cQ (cJ 0)) (eX (eG ?_)))
     refine bO (fun (r : Nat) => r ≤ i) (fun (r : Nat) => i - r) (fun (r : Nat) => [(6, NT .i64 i), (7, Is (.slice (some ⟨B30, 0, none⟩) i i)), (9, NT .i64 c), (11, NT .i64 r)]) (fun (r : Nat) => [jP B30 35 131 5 us us (bN QT (mK D c r))]) 0 (Nat.zero_le _)
      (zS rfl) (aU (oM (congrArg _ Mm)) aY) (fun r hrn=>?_)
     refine cK (ts (rm rfl (rm rfl (ro rfl (gX (Ht rfl) (Ht rfl)) (eX (dQ (Ht rfl) (fun hr=>?_) (fun hr=>?_)))))))
     ·have hr : r < i := by simp only [decide_eq_true_eq] at hr; omega
      refine cU (cK (eG (ts (rm rfl (rm rfl (ro rfl (gK (Ht rfl) (Ht rfl)) (eX (dQ (Ht rfl) (fun hrc=>?_) (fun hrc=>?_)))))))))
      ·have hrc : r ≠ c := by simpa using hrc
       obtain ⟨X,hX⟩:∃ X,X = mK D c r:=⟨_,rfl⟩
       have hXr:dB X r = dB D r:=by rw [hX]; exact Af zo zo
       have hXc:dB X c = dB D c:=by rw [hX]; exact Af zo zo
       have hXl:X.length = i:=by rw [hX,tI]; exact hDl
       have hXrl:(dB X r).length = i + 1:=by rw [hXr]; exact hDs.row hr
       have hXcl:(dB X c).length = i + 1:=by rw [hXc]; exact hDs.row hcn
       have hXrg:(X.getD r []).length = i + 1:=hXrl
       have hXcg:(X.getD c []).length = i + 1:=hXcl
       have hXfr:dD (dB X r) (cE L c):=by rw [hXr]; exact hDf.row r
       have hXfc:dD (dB X c) (cE L c):=by rw [hXc]; exact hDf.row c
       haveI g1:aO (gm X r c) (cE L c):=hXfr.get hG1 c
       haveI g2:aO (gm X c c) (cE L c):=hXfc.get hG1 c
       have hXz:gm X c c ≠ Qi.zero:=by show gv (dB X c) c ≠ _; rw [hXc]; exact hDz
       haveI g3:aO (gm X r c / gm X c c) (cE L c + 3 * cE L c + 2):=⟨g1.fit.div g2.fit hXz⟩
       have hend:=Sx (D:=D) (r:=r) (c:=c) zo hrc zo
       rw [← hX] at hend ⊢
       rw [hXrl] at hend
       have hrU:r < us.length:=by rw [hul]; exact hr
       have hcU:c < us.length:=by rw [hul]; exact hcn
       have hXU:us.length = X.length:=by rw [hul,hXl]
       have hrX:r < X.length:=by rw [hXl]; exact hr
       have hcX:c < X.length:=by rw [hXl]; exact hcn
       have hcr:c < (X.getD r []).length:=by rw [hXrg]; exact Nat.lt_succ_of_lt hcn
       have hcc:c < (X.getD c []).length:=by rw [hXcg]; exact Nat.lt_succ_of_lt hcn
       clear hXrg hXcg hXr hXc
       refine cK (Y.D_start (m:=20) [] (bY (Ei:=[(7,_)]) rfl rfl (bQ (bJ rfl rfl) bX) rfl rfl (dX rfl (cX (Ht rfl))) (bY (Ei:=[(11,_)]) rfl rfl (bQ (bJ rfl rfl) bX) rfl rfl (dX rfl (cX (Ht rfl))) (bY (Ei:=[(96,_),(97,_)]) rfl rfl (bQ (bZ 0 rfl rfl) (bQ (bZ 1 rfl rfl) bX)) rfl rfl (dX rfl (fY U_36 Z_35 (Ht rfl) (Ht rfl) rfl zo (by rw [Nat.mul_one,Nat.zero_add]))) ?_))))
       refine bY (Ei:=[(98,_)]) rfl rfl (bQ (bZ 2 rfl rfl) bX) rfl rfl (dX rfl (gP A_35 Z_35 (Ht rfl) (j:=0) rfl hrU)) (bY (Ei:=[(9,_)]) rfl rfl (bQ (bJ rfl rfl) bX) rfl rfl (dX rfl (cX (Ht rfl))) (bY (Ei:=[(99,_),(100,_)]) rfl rfl (bQ (bZ 3 rfl rfl) (bQ (bZ 4 rfl rfl) bX)) rfl rfl (dX rfl (jM U_35 Z_131 (Ht rfl) (Ht rfl) rfl (j:=0) rfl hXU hrX hcr)) (bY (Ei:=[(101,_)]) rfl rfl (bQ (bZ 5 rfl rfl) bX) rfl rfl (dX rfl (mJ A_131 Z_131 (Ht rfl) (j:=0) rfl hXU hrX hcr)) ?_)))
       refine bY (Ei:=[(7,_)]) rfl rfl (bQ (bJ rfl rfl) bX) rfl rfl (dX rfl (cX (Ht rfl))) (bY (Ei:=[(9,_)]) rfl rfl (bQ (bJ rfl rfl) bX) rfl rfl (dX rfl (cX (Ht rfl))) (bY (Ei:=[(103,_),(104,_)]) rfl rfl (bQ (bZ 7 rfl rfl) (bQ (bZ 8 rfl rfl) bX)) rfl rfl (dX rfl (fY U_36 Z_35 (Ht rfl) (Ht rfl) rfl zo (by rw [Nat.mul_one,Nat.zero_add]))) ?_))
       refine bY (Ei:=[(105,_)]) rfl rfl (bQ (bZ 9 rfl rfl) bX) rfl rfl (dX rfl (gP A_35 Z_35 (Ht rfl) (j:=0) rfl hcU)) (bY (Ei:=[(9,_)]) rfl rfl (bQ (bJ rfl rfl) bX) rfl rfl (dX rfl (cX (Ht rfl))) (bY (Ei:=[(106,_),(107,_)]) rfl rfl (bQ (bZ 10 rfl rfl) (bQ (bZ 11 rfl rfl) bX)) rfl rfl (dX rfl (jM U_35 Z_131 (Ht rfl) (Ht rfl) rfl (j:=0) rfl hXU hcX hcc)) (bY (Ei:=[(108,_)]) rfl rfl (bQ (bZ 12 rfl rfl) bX) rfl rfl (dX rfl (mJ A_131 Z_131 (Ht rfl) (j:=0) rfl hXU hcX hcc)) ?_)))
       refine bY (Ei:=[(102,_),(109,_)]) rfl rfl (bQ (bZ 6 rfl rfl) (bQ (bZ 13 rfl rfl) bX)) rfl rfl (dX rfl (cZ Tryz.call144 (Pz (x:=gm X r c) (y:=gm X c c) (L:=cE L c) (M:=cE L c) zo) ⟨(Ht rfl),(Ht rfl),trivial⟩)) (bY (Ei:=[(110,_)]) rfl rfl (bQ (bZ 14 rfl rfl) bX) rfl rfl (dX rfl (cX (Ht rfl))) (bY (Ei:=[(95,_)]) rfl rfl (bQ (bZ 15 rfl rfl) bX) rfl rfl (dX rfl (dK (Ht rfl) rfl)) (bY (Ei:=[(95,_)]) rfl rfl (bQ (bZ 15 rfl rfl) bX) rfl rfl (dX rfl (dK (Ht rfl) rfl)) ?_)))
       refine Y.D_newp (Ei:=[]) (fun bb=>box bb 131 [aE (decide ((gm X r c / gm X c c).a < 0)),aI (gm X r c / gm X c c).a.natAbs,aE (decide ((gm X r c / gm X c c).b < 0)),aI (gm X r c / gm X c c).b.natAbs,aI (gm X r c / gm X c c).den]) 19 rfl rfl rfl bX rfl rfl (by kernel_rfl) (eW (Ts:=[Is (.bool false),Is (.slice none 0 0),Is (.bool false),Is (.slice none 0 0),Is (.slice none 0 0)]) O_131 rfl (fun V=>aW zd (aW zd (aW zd (aW zd (aW zd (aG))))))) ?_
       refine Y.D_putN (Ei:=[(111,_)]) 18 rfl rfl rfl rfl rfl rfl (bQ (bZ 16 rfl rfl) bX) (fun bb=>sG Z_131 (Ht rfl) (Ht rfl) rfl (i:=0) rfl (aK rfl) rfl rfl) (Y.D_done aT rfl (by kernel_rfl) rfl (by simp [Y.okP]) rfl rfl (bU (bU (bU (bU (bU (bU (bU (bU (bU (bU (bU (bU (bU (bU (bU (bU (bU (bU (Y.F_newp (fun B12=>Y.F_putN (Y.F_nil ?_))))))))))))))))))))))
       refine ra rfl (eX (ts (rm rfl (ra rfl (eX (eG ?_))))))
       refine bO (fun (k : Nat) => c ≤ k ∧ k ≤ i + 1) (fun (k : Nat) => i + 1 - k) (fun (k : Nat) => [(6, NT .i64 i), (7, Is (.slice (some ⟨B30, 0, none⟩) i i)), (9, NT .i64 c), (11, NT .i64 r), (12, bP B12 0), (14, NT .i64 k)]) (fun (k : Nat) => [jP B30 35 131 5 us us (bN QT (X.set r (iW (dB X r) (dB X c) c k))), box B12 131 [aE (decide ((gm X r c / gm X c c).a < 0)), aI (gm X r c / gm X c c).a.natAbs, aE (decide ((gm X r c / gm X c c).b < 0)), aI (gm X r c / gm X c c).b.natAbs, aI (gm X r c / gm X c c).den]]) c ⟨Nat.le_refl _, by omega⟩
        (zS rfl) (aU (oM (by rw [← Jo,Wq zo])) (aU (aB rfl) aY)) (fun k ⟨hck,hkm⟩=>?_)
       refine cK (ts (rm rfl (rm rfl (ro rfl (wK (Ht rfl) (Ht rfl)) (eX (dQ (Ht rfl) (fun hk=>?_) (fun hk=>?_)))))))
       ·have hk2 : k < i + 1 := by simp only [decide_eq_true_eq] at hk; omega
        obtain ⟨Y,hY⟩:∃ Y,Y = (X.set r (iW (dB X r) (dB X c) c k)):=⟨_,rfl⟩
        have e1:gm Y r k = gv (dB X r) k:=by rw [hY]; exact a2P hrX (by rw [hXrl]; exact hk2)
        have e2:gm Y c k = gv (dB X c) k:=by rw [hY]; exact a2x hrc
        haveI y1:aO (gm Y r k) (cE L c):=by rw [e1]; exact hXfr.get hG1 k
        haveI y2:aO (gm Y c k) (cE L c):=by rw [e2]; exact hXfc.get hG1 k
        have hst:=Sz (X:=X) (r:=r) (c:=c) (k:=k) hrX hrc (by rw [hXrl]; exact hk2) hck
        have hYU:us.length = Y.length:=by rw [hY,List.length_set]; exact hXU
        have hrY:r < Y.length:=by rw [← hYU]; exact hrU
        have hcY:c < Y.length:=by rw [← hYU]; exact hcU
        have hkr:k < (Y.getD r []).length:=by show k < (dB Y r).length; rw [hY,sJ hrX,rH,hXrl]; exact hk2
        have hkc:k < (Y.getD c []).length:=by show k < (dB Y c).length; rw [hY,oS hrc,hXcl]; exact hk2
        rw [← hY] at hst ⊢
        clear hXrl hXcl hXU hrX hcX hcr hcc
        refine cU (cK (eG (fZ (m:=22) (dp 7 rfl (cX (Ht rfl)) (dp 11 rfl (cX (Ht rfl)) (cL 119 0 120 1 rfl (fY U_36 Z_35 (Ht rfl) (Ht rfl) rfl zo (by rw [Nat.mul_one,Nat.zero_add])) ?_))))))
        refine dq 121 2 rfl (gP A_35 Z_35 (Ht rfl) (j:=0) rfl hrU) (dp 14 rfl (cX (Ht rfl)) (dp 7 rfl (cX (Ht rfl)) (dp 11 rfl (cX (Ht rfl)) (cL 124 5 125 6 rfl (fY U_36 Z_35 (Ht rfl) (Ht rfl) rfl zo (by rw [Nat.mul_one,Nat.zero_add])) ?_))))
        refine dq 126 7 rfl (gP A_35 Z_35 (Ht rfl) (j:=0) rfl hrU) (dp 14 rfl (cX (Ht rfl)) (cL 127 8 128 9 rfl (jM U_35 Z_131 (Ht rfl) (Ht rfl) rfl (j:=0) rfl hYU hrY hkr) (dq 129 10 rfl (mJ A_131 Z_131 (Ht rfl) (j:=0) rfl hYU hrY hkr) (dp 12 rfl (eJ A_131 Z_131 (Ht rfl) (i:=1) rfl rfl rfl) (dp 7 rfl (cX (Ht rfl)) (dp 9 rfl (cX (Ht rfl)) (cL 132 13 133 14 rfl (fY U_36 Z_35 (Ht rfl) (Ht rfl) rfl zo (by rw [Nat.mul_one,Nat.zero_add])) ?_)))))))
        refine dq 134 15 rfl (gP A_35 Z_35 (Ht rfl) (j:=0) rfl hcU) (dp 14 rfl (cX (Ht rfl)) (cL 135 16 136 17 rfl (jM U_35 Z_131 (Ht rfl) (Ht rfl) rfl (j:=0) rfl hYU hcY hkc) (dq 137 18 rfl (mJ A_131 Z_131 (Ht rfl) (j:=0) rfl hYU hcY hkc) (cL 131 12 138 19 rfl (cZ K_146 (xV (x:=gm X r c / gm X c c) (y:=gm Y c k) (L:=cE L c + 3 * cE L c + 2) (M:=cE L c) zo) ⟨(Ht rfl),(Ht rfl),trivial⟩) (cL 130 11 139 20 rfl (cZ Tryz.call147 (Nb (x:=gm Y r k) (y:=gm X r c / gm X c c * gm Y c k) (L:=cE L c) (M:=cE L c + 3 * cE L c + 2 + cE L c + 1) zo) ⟨(Ht rfl),(Ht rfl),trivial⟩) ?_)))))
        refine fV aT rfl (by kernel_rfl) (zF (zF (zF (zF (zF (aJ (aJ (aV (ro rfl (jM U_35 Z_131 (Ht rfl) (Ht rfl) rfl (j:=0) rfl hYU hrY hkr) (a2n Z_131 (Ht rfl) (Ht rfl) (j:=0) rfl (El.ag rfl) (F:=QT) (z:=gm Y r k - gm X r c / gm X c c * gm Y c k) hYU hrY hkr rfl (eX (aS (cY (rm rfl (ro rfl (dV (Ht rfl) (cJ 1) z6) ?_)))))))))))))))
        refine ra rfl (eX (fU (k + 1) ⟨by omega,hk2⟩ zo (zS rfl) (aU (oM (congrArg _ hst)) (aU (aB rfl) aY))))
       ·have hk3 : k = i + 1 := by simp only [decide_eq_false_iff_not] at hk; omega
        subst hk3
        refine gV rfl (aS (cY (rm rfl (ro rfl (dV (Ht rfl) (cJ 1) z6) (ra rfl (eX (cA [0] rfl (by decide) (fU (r + 1) hr zo (zS rfl) (aU (oM (congrArg _ hend)) aY)))))))))
      ·have hrc : r = c := by simpa using hrc
       subst hrc
       refine cU (aS (cY (rm rfl (ro rfl (dV (Ht rfl) (cJ 1) z6) (ra rfl (eX (fU (r + 1) hr zo (zS rfl) (aU (oM (congrArg _ Ul)) aY))))))))
     ·have hri : r = i := by simp only [decide_eq_false_iff_not] at hr; omega
      subst hri
      refine gV rfl (aS (cY (rm rfl (ro rfl (dV (Ht rfl) (cJ 1) z6) (ra rfl (eX (fU (c + 1,us,mK D c r) ⟨hcn,hnx,hus⟩ (by dsimp only; omega) (zS rfl) (dC.refl _))))))))
  ·have hci : c = i := by simp only [decide_eq_false_iff_not] at hcn; omega
   subst hci
   have hvl:=hvs.len
   have hgj:=yC hs (Nat.le_succ c) hc hA
   have hAs:eE A c (c + 1):=hgj.sh
   have hAf:bR A (cE L c):=Mo hs (Nat.le_succ c) hcf hL hc hA
   have hAl:=hAs.1
   have hG1:1 ≤ cE L c:=Nat.le_trans hL (oK L c)
   rw [hC] at hA
   refine gV rfl (ts (rm rfl (rn rfl (jE (T:=ZQ) (i:=Tryz.t131) rV mV rfl rfl (Ht rfl) rfl Zl (El.ag rfl) (by show 88 * _ ≤ _; omega) zo) fun B143=>(ra rfl (eX (cK (ts (ro rfl (cQ (cJ 0)) (eX (eG ?_))))))))))
   refine bO (fun (j : Nat) => j ≤ c) (fun (j : Nat) => c - j) (fun (j : Nat) => [(6, NT .i64 c), (7, Is (.slice (some ⟨B30, 0, none⟩) c c)), (15, Is B143), (16, NT .i64 j)]) (fun (j : Nat) => [jP B30 35 131 5 vs vs (bN QT A), bH 131 5 B143 (jA (fun j => QT (gm A j c / gm A j j)) ZQ c j)]) 0 (Nat.zero_le _)
    (zS rfl) (aU (fun _ _ _ h=>h) (aU (aD (by rw [← gF]; exact wR _ _)) aY)) (fun j hj=>?_)
   refine cK (ts (rm rfl (rm rfl (ro rfl (gX (Ht rfl) (Ht rfl)) (eX (dQ (Ht rfl) (fun hq=>?_) (fun hq=>?_)))))))
   ·have hq : j < c := by simp only [decide_eq_true_eq] at hq; omega
    have hrr:(A.getD j []).length = c + 1:=hAs.row hq
    haveI f1:aO (gm A j c) (cE L c):=hAf.get hG1 j c
    haveI f2:aO (gm A j j) (cE L c):=hAf.get hG1 j j
    refine cU (cK (eG (Y.D_start (m:=22) [(21,1,bH 131 5 B143 ((jA (fun j=>QT (gm A j c / gm A j j)) ZQ c j).set j (QT (gm A j c / gm A j j))))] (Y.D_step (Ei:=[(15,_)]) rfl rfl (bQ (bJ rfl rfl) bX) rfl rfl (by kernel_rfl) (dX rfl (cX (Ht rfl))) (Y.D_step (Ei:=[(16,_)]) rfl rfl (bQ (bJ rfl rfl) bX) rfl rfl (by kernel_rfl) (dX rfl (cX (Ht rfl))) (Y.D_step (Ei:=[(7,_)]) rfl rfl (bQ (bJ rfl rfl) bX) rfl rfl (by kernel_rfl) (dX rfl (cX (Ht rfl))) (Y.D_step (Ei:=[(16,_)]) rfl rfl (bQ (bJ rfl rfl) bX) rfl rfl (by kernel_rfl) (dX rfl (cX (Ht rfl))) ?_)))))))
    refine Y.D_step (Ei:=[(152,_),(153,_)]) rfl rfl (bQ (bZ 2 rfl rfl) (bQ (bZ 3 rfl rfl) bX)) rfl rfl (by kernel_rfl) (dX rfl (fY U_36 Z_35 (Ht rfl) (Ht rfl) rfl zo (by rw [Nat.mul_one,Nat.zero_add]))) ?_
    refine Y.D_step (Ei:=[(154,_)]) rfl rfl (bQ (bZ 4 rfl rfl) bX) rfl rfl (by kernel_rfl) (dX rfl (gP A_35 Z_35 (Ht rfl) (j:=0) rfl zo)) (Y.D_step (Ei:=[(6,_)]) rfl rfl (bQ (bJ rfl rfl) bX) rfl rfl (by kernel_rfl) (dX rfl (cX (Ht rfl))) (Y.D_step (Ei:=[(155,_),(156,_)]) rfl rfl (bQ (bZ 5 rfl rfl) (bQ (bZ 6 rfl rfl) bX)) rfl rfl (by kernel_rfl) (dX rfl (jM U_35 Z_131 (Ht rfl) (Ht rfl) rfl (j:=0) rfl zo zo zo)) ?_))
    refine Y.D_step (Ei:=[(157,_)]) rfl rfl (bQ (bZ 7 rfl rfl) bX) rfl rfl (by kernel_rfl) (dX rfl (mJ A_131 Z_131 (Ht rfl) (j:=0) rfl zo zo zo)) (Y.D_step (Ei:=[(7,_)]) rfl rfl (bQ (bJ rfl rfl) bX) rfl rfl (by kernel_rfl) (dX rfl (cX (Ht rfl))) (Y.D_step (Ei:=[(16,_)]) rfl rfl (bQ (bJ rfl rfl) bX) rfl rfl (by kernel_rfl) (dX rfl (cX (Ht rfl))) (Y.D_step (Ei:=[(159,_),(160,_)]) rfl rfl (bQ (bZ 9 rfl rfl) (bQ (bZ 10 rfl rfl) bX)) rfl rfl (by kernel_rfl) (dX rfl (fY U_36 Z_35 (Ht rfl) (Ht rfl) rfl zo (by rw [Nat.mul_one,Nat.zero_add]))) ?_)))
    refine Y.D_step (Ei:=[(161,_)]) rfl rfl (bQ (bZ 11 rfl rfl) bX) rfl rfl (by kernel_rfl) (dX rfl (gP A_35 Z_35 (Ht rfl) (j:=0) rfl zo)) (Y.D_step (Ei:=[(16,_)]) rfl rfl (bQ (bJ rfl rfl) bX) rfl rfl (by kernel_rfl) (dX rfl (cX (Ht rfl))) (Y.D_step (Ei:=[(162,_),(163,_)]) rfl rfl (bQ (bZ 12 rfl rfl) (bQ (bZ 13 rfl rfl) bX)) rfl rfl (by kernel_rfl) (dX rfl (jM U_35 Z_131 (Ht rfl) (Ht rfl) rfl (j:=0) rfl zo zo zo)) ?_))
    refine Y.D_step (Ei:=[(164,_)]) rfl rfl (bQ (bZ 14 rfl rfl) bX) rfl rfl (by kernel_rfl) (dX rfl (mJ A_131 Z_131 (Ht rfl) (j:=0) rfl zo zo zo)) (Y.D_step (Ei:=[(158,_),(165,_)]) rfl rfl (bQ (bZ 8 rfl rfl) (bQ (bZ 15 rfl rfl) bX)) rfl rfl (by kernel_rfl) (dX rfl (cZ Tryz.call144 (Pz (x:=gm A j c) (y:=gm A j j) (L:=cE L c) (M:=cE L c) zo) ⟨(Ht rfl),(Ht rfl),trivial⟩)) (Y.D_step (Ei:=[(166,_)]) rfl rfl (bQ (bZ 16 rfl rfl) bX) rfl rfl (by kernel_rfl) (dX rfl (cX (Ht rfl))) ?_))
    refine Y.D_step (Ei:=[(149,_)]) rfl rfl (bQ (bZ 17 rfl rfl) bX) rfl rfl (by kernel_rfl) (dX rfl (dK (Ht rfl) rfl)) (bY (Ei:=[(149,_)]) rfl rfl (bQ (bZ 17 rfl rfl) bX) rfl rfl (dX rfl (dK (Ht rfl) rfl)) (Y.D_step (Ei:=[(150,_),(151,_)]) rfl rfl (bQ (bZ 0 rfl rfl) (bQ (bZ 1 rfl rfl) bX)) rfl rfl (by kernel_rfl) (dX rfl (cH U_35 Z_131 (Ht rfl) (Ht rfl) rfl (i:=1) rfl (by rw [dA]; omega) rfl)) ?_))
    refine Y.D_putI (Ei:=[(169,_),(167,_)]) 1 rfl rfl rfl (bQ (bZ 20 rfl rfl) (bQ (bZ 18 rfl rfl) bX)) (.head _) rfl (Iw Z_131 (Ht rfl) (Ht rfl) (El.ag rfl) (i:=0) rfl rfl (by rw [dA]; omega)) ?_
    refine Y.D_done aT rfl (by kernel_rfl) rfl (by simp [Y.okP]) rfl rfl (bU (bU (bU (bU (bU (bU (bU (bU (bU (bU (bU (bU (bU (bU (bU (bU (bU (bU (bU (bU (bU (Y.F_putI (Y.F_nil ?_)))))))))))))))))))))))
    refine eX (aS (cY (rm rfl (ro rfl (dV (Ht rfl) (cJ 1) z6) (ra rfl (eX (fU (j + 1) hq zo (zS rfl) (aU (fun _ _ _ h=>h) (aU (aD (iP (f:=(fun j=>QT (gm A j c / gm A j j))))) aY)))))))))
   ·have hjc : j = c := by simp only [decide_eq_false_iff_not] at hq; omega
    subst hjc
    rw [iO]
    refine gV rfl (gJ (i:=1) (tt:=15) rfl rfl eB (ts (rm rfl (ra rfl (ro rfl (cQ (cJ 0)) (eX (bM rfl (fX (eU rfl) ?_) (fX (eU rfl) ?_))))))))
    ·exact (kR (a3c hA))
    ·exact (aM (a41 hA).symm)
end
section
open Go Go.RowKit
abbrev pA (ps:List (Nat × Nat)) (k:Nat):Nat:=(ps.getD k (0,0)).1
abbrev pB (ps:List (Nat × Nat)) (k:Nat):Nat:=(ps.getD k (0,0)).2
def qO (n : Nat) (ps : List (Nat × Nat)) : Nat → List Int
 | 0=>tab n fun _=>-1
 | k + 1=>((qO n ps k).set (pA ps k) (pB ps k:Int)).set (pB ps k) (pA ps k:Int)
abbrev tv (to:List Int) (i:Nat):Int:=to.getD i 0
theorem rN (n : Nat) (ps : List (Nat × Nat)) : ∀ k, (qO n ps k).length = n
 | 0=>aC _ _
 | k + 1=>by rw [qO,List.length_set,List.length_set,rN n ps k]
theorem Rf {n : Nat} {ps : List (Nat × Nat)} : ∀ {k : Nat}, (∀ j, j < k → pA ps j < n ∧ pB ps j < n) → ∀ x, x ∈ qO n ps k → -1 ≤ x ∧ x < n
 | 0,_,x,hx=>by obtain ⟨i,_,rfl⟩:=iZ.1 hx; omega
 | k + 1, h, x, hx => by
  have hk:=h k (Nat.lt_succ_self k)
  rcases List.mem_or_eq_of_mem_set hx with h1 | h1
  ·rcases List.mem_or_eq_of_mem_set h1 with h2 | h2
   ·exact Rf (fun j hj=>h j zo) x h2
   ·rw [h2]; omega
  ·rw [h1]; omega
theorem a2T {to:List Int} {i:Nat} (h:i < to.length):tv to i ∈ to:=by
 have e:tv to i = to[i]:=by simp [tv,List.getD,h]
 rw [e]; exact List.getElem_mem h
def uR (to : List Int) : Nat → List Nat
 | 0=>[]
 | k + 1=>uR to k ++ (if tv to k < 0 then [k] else [])
theorem Vv {to : List Int} : ∀ {k x : Nat}, x ∈ uR to k → x < k
 | 0,x,h=>by cases h
 | k + 1, x, h => by
  rcases List.mem_append.1 h with h1 | h1
  ·have:=Vv h1; omega
  ·split at h1
   ·have:=List.mem_singleton.1 h1; omega
   ·cases h1
theorem Gv (to : List Int) : ∀ k, (uR to k).length ≤ k
 | 0=>Nat.le_refl _
 | k + 1 => by
  have:=Gv to k
  simp only [uR,List.length_append]
  split
  ·simp; omega
  ·simp; omega
def zB (S : List (List Qi)) (to : List Int) (n i : Nat) : Nat → List Qi
 | 0=>mO n i
 | j + 1=>if tv to j < 0 then zB S to n i j else (zB S to n i j).set (tv to j).toNat (gv (zB S to n i j) (tv to j).toNat - gm S i j)
theorem Fq (n i:Nat):(mO n i).length = n:=by rw [mO,List.length_set,aC]
theorem xH (S : List (List Qi)) (to : List Int) (n i : Nat) : ∀ j, (zB S to n i j).length = n
 | 0=>Fq n i
 | j + 1 => by
  simp only [zB]
  split
  ·exact xH S to n i j
  ·rw [List.length_set,xH S to n i j]
theorem Hl {S : List (List Qi)} {to : List Int} {n i L : Nat} (h : bR S L) (hL : 1 ≤ L) : ∀ j, dD (zB S to n i j) (1 + j * (L + 1))
 | 0=>Fh zo
 | j + 1 => by
  have ih:=Hl (to:=to) (n:=n) (i:=i) h hL j
  have e:1 + (j + 1) * (L + 1) = 1 + j * (L + 1) + L + 1:=by rw [Nat.add_mul]; omega
  simp only [zB]
  split
  ·exact ih.le zo
  ·intro x hx
   rcases List.mem_or_eq_of_mem_set hx with h1 | h1
   ·exact (ih x h1).le zo
   ·rw [h1, e]
    haveI f1:=ih.get zo (tv to j).toNat
    haveI f2:=h.get hL i j
    infer_instance
def yB (S:List (List Qi)) (to:List Int) (n:Nat):List (List Qi):=tab n fun i=>zB S to n i n
theorem Ab (S:List (List Qi)) (to:List Int) (n:Nat):eE (yB S to n) n n:=⟨aC _ _,fun r hr=>by obtain ⟨i,_,rfl⟩:=iZ.1 hr; exact xH S to n i n⟩
theorem a0n {S:List (List Qi)} {to:List Int} {n L:Nat} (h:bR S L) (hL:1 ≤ L):bR (yB S to n) (1 + n * (L + 1)):=fun r hr=>by obtain ⟨i,_,rfl⟩:=iZ.1 hr; exact Hl h hL n
def Gz (S:List (List Qi)) (n l:Nat):List Qi:=tab n fun i=>gm S i l
theorem a0x {S:List (List Qi)} {n l L:Nat} (h:bR S L) (hL:1 ≤ L):dD (Gz S n l) L:=dD.tab fun i _=>h.get hL i l
def uU (val:Nat → Nat → Qi) (n m k i:Nat):List (List Qi):=tab n fun r=>tab m fun j=>if j < k ∨ j = k ∧ r < i then val r j else Qi.zero
theorem sQ (val:Nat → Nat → Qi) (n m k i:Nat):eE (uU val n m k i) n m:=eE.tab
theorem Tk (val:Nat → Nat → Qi) (n m:Nat):zD n m = uU val n m 0 0:=cT fun r _=>cT fun j _=>by rw [if_neg zo]
theorem Zk (val : Nat → Nat → Qi) (n m k : Nat) : uU val n m k n = uU val n m (k + 1) 0 := cT fun r hr => cT fun j _ => by
 by_cases h:j < k ∨ j = k ∧ r < n
 ·rw [if_pos h,if_pos zo]
 ·rw [if_neg h,if_neg zo]
theorem Zt (val:Nat → Nat → Qi) (n m:Nat):uU val n m m 0 = tab n fun r=>tab m fun j=>val r j:=cT fun r _=>cT fun j hj=>by rw [if_pos zo]
theorem Uf {val:Nat → Nat → Qi} {n m k i:Nat} (hi:i < n) (hk:k < m):(uU val n m k i).set i (((uU val n m k i).getD i []).set k (val i k)) = uU val n m k (i + 1):=by
 apply List.ext_getElem?
 intro r
 by_cases hr:r < n
 ·by_cases e : r = i
  ·subst e
   rw [List.getElem?_set_self (by rw [(sQ _ _ _ _ _).1]; exact hr),uU,uU,bS (f:=fun r=>tab m fun j=>if j < k ∨ j = k ∧ r < _ + 1 then val r j else Qi.zero) hr]
   congr 1
   have:(tab n fun x=>tab m fun j=>if j < k ∨ j = k ∧ x < r then val x j else Qi.zero).getD r [] = tab m fun j=>if j < k ∨ j = k ∧ r < r then val r j else Qi.zero:=rI hr
   rw [this]
   apply List.ext_getElem?
   intro j
   by_cases hj:j < m
   ·by_cases e2 : j = k
    ·subst e2
     rw [List.getElem?_set_self (by rw [aC]; exact hj),bS hj,if_pos zo]
    ·rw [List.getElem?_set_ne (Ne.symm e2), bS hj, bS hj]
     by_cases e3:j < k
     ·rw [if_pos (.inl e3),if_pos (.inl e3)]
     ·rw [if_neg zo,if_neg zo]
   ·rw [List.getElem?_eq_none (by rw [List.length_set,aC]; omega),List.getElem?_eq_none (by rw [aC]; omega)]
  ·rw [List.getElem?_set_ne (Ne.symm e), uU, uU, bS hr, bS hr]
   congr 1
   refine cT fun j _=>?_
   by_cases e3:j < k ∨ j = k ∧ r < i
   ·rw [if_pos e3,if_pos zo]
   ·rw [if_neg e3,if_neg zo]
 ·rw [List.getElem?_eq_none (by rw [List.length_set,(sQ _ _ _ _ _).1]; omega),List.getElem?_eq_none (by rw [(sQ _ _ _ _ _).1]; omega)]
def Si (S:List (List Qi)) (to:List Int) (n:Nat) (lf:List Nat) (x y:Nat):Qi:=gv (Sl (yB S to n) (Gz S n (lf.getD y 0)) n) (lf.getD x 0)
def Uo (S:List (List Qi)) (to:List Int) (n:Nat) (lf:List Nat):Int:=jV (fun y=>Fm (yB S to n) (Gz S n (lf.getD y 0)) n) lf.length
end
section
open Go Go.RowKit
theorem Bp {L M : Nat} (h : L ≤ M) : ∀ c, cE L c ≤ cE M c
 | 0=>h
 | c + 1=>by have:=Bp h c; simp only [cE]; omega
theorem a1v {M:List (List Qi)} {b:List Qi} {n:Nat} (h:eE M n n) (he:Fm M b n = 0):(Sl M b n).length = n:=by
 cases hX:Ri M b n with
 | none=>simp only [Fm,hX,Option.isSome_none] at he; exact absurd he (by decide)
 | some X=>simp only [Sl,hX,Option.getD_some]; exact (sU h hX).1
theorem yX {l:List Qi} {t k:Nat} {v:Qi} (ht:t < l.length):gv (l.set t v) k = if k = t then v else gv l k:=by
 simp only [gv,List.getD]
 by_cases e:k = t
 ·subst e; rw [if_pos rfl,List.getElem?_set_self ht]; rfl
 ·rw [if_neg e,List.getElem?_set_ne (Ne.symm e)]
theorem Jk {l:List Qi} {n t:Nat} {v:Qi} {x:Nat → Qi} (hl:l.length = n) (ht:t < n):aF n (fun k=>gv (l.set t v) k * x k) = aF n (fun k=>gv l k * x k) + (v - gv l t) * x t:=by
 have e : ∀ k, k < n → gv (l.set t v) k * x k = gv l k * x k + (if k = t then (v - gv l t) * x t else 0) := fun k hk => by
  rw [yX zo]
  by_cases c:k = t
  ·subst c; rw [if_pos rfl,if_pos rfl]; grind
  ·rw [if_neg c,if_neg c]; grind
 rw [bA e,Bw,fP (i:=t) ht (fun k _ hk=>if_neg hk),if_pos rfl]
def cnT (S:List (List Qi)) (to:List Int) (x:Nat → Qi) (i j:Nat):Qi:=if tv to j < 0 then 0 else gm S i j * x (tv to j).toNat
theorem Ti {n i:Nat} (hi:i < n) (x:Nat → Qi):aF n (fun k=>gv (mO n i) k * x k) = x i:=by
 rw [mO,Jk (aC _ _) hi,kO (fun k hk=>by rw [mI hk,q0]; grind),mI hi,q0,q1]; grind
theorem Sb {S : List (List Qi)} {to : List Int} {n i : Nat} (hi : i < n) (hto : ∀ j, j < n → tv to j < n) (x : Nat → Qi) : ∀ J, J ≤ n → aF n (fun k => gv (zB S to n i J) k * x k) = x i - aF J (cnT S to x i)
 | 0,_=>by rw [zB,Ti hi]; simp only [aF,q0]; grind
 | J + 1, h => by
  have ih:=Sb (S:=S) hi hto x J zo
  have hj:=hto J zo
  by_cases c:tv to J < 0
  ·rw [zB,if_pos c,ih]; simp only [aF,cnT,if_pos c]; grind
  ·rw [zB,if_neg c,Jk (xH ..) zo,ih]; simp only [aF,cnT,if_neg c]; grind
theorem a1k {S:List (List Qi)} {to:List Int} {n i k:Nat} (hi:i < n):gm (yB S to n) i k = gv (zB S to n i n) k:=by
 show gv ((yB S to n).getD i []) k = _
 rw [yB,rI hi]
theorem Ge {S:List (List Qi)} {to:List Int} {n i:Nat} (hi:i < n) (hto:∀ j,j < n → tv to j < n) (x:Nat → Qi):aF n (fun k=>gm (yB S to n) i k * x k) = x i - aF n (cnT S to x i):=by
 rw [← Sb hi hto x n (Nat.le_refl n)]; exact bA fun k _=>by rw [a1k hi]
theorem a3Y {S:List (List Qi)} {n l i:Nat} (hi:i < n):gv (Gz S n l) i = gm S i l:=mI hi
def Cyc (S:List (List Qi)) (to:List Int) (n:Nat) (x:Nat → Qi):Prop:=∀ i,i < n → x i - aF n (cnT S to x i) = 0
theorem a4D {S : List (List Qi)} {to : List Int} {n : Nat} {lf : List Nat} {u : Nat → Nat → Qi} (hto : ∀ j, j < n → tv to j < n)
  (hu:∀ y,y < lf.length → ∀ i,i < n → u y i - aF n (cnT S to (u y) i) = gm S i (lf.getD y 0)) (hk:∀ x,Cyc S to n x → ∀ k,k < n → x k = 0) :
  Uo S to n lf = 0 ∧ ∀ x y,y < lf.length → lf.getD x 0 < n → Si S to n lf x y = u y (lf.getD x 0):=by
 have hS:=Ab S to n
 have key : ∀ y, y < lf.length → ∃ X, Ri (yB S to n) (Gz S n (lf.getD y 0)) n = some X ∧ ∀ k, k < n → gv X k = u y k := fun y hy => by
  cases hX:Ri (yB S to n) (Gz S n (lf.getD y 0)) n with
  | none =>
   obtain ⟨z,h1,k,h2,h3⟩:=Ll hS hX
   exact absurd (hk z (fun i hi=>by rw [← Ge hi hto]; exact h1 i hi) k h2) h3
  | some X =>
   refine ⟨X,rfl,fun k hk2=>?_⟩
   obtain ⟨_,h2,h3⟩:=sU hS hX
   have h4 := h3 (fun k => gv X k - 1 * u y k) (fun i hi => by
    have e1:=h2 i hi
    rw [a3Y hi] at e1
    have e2:=hu y hy i hi
    rw [← Ge hi hto] at e2
    have e3:aF n (fun k=>gm (yB S to n) i k * (gv X k - 1 * u y k)) = aF n (fun k=>gm (yB S to n) i k * gv X k - 1 * (gm (yB S to n) i k * u y k)):=bA fun k _=>by grind
    rw [e3,qW,e1,e2]; grind) k hk2
   grind
 refine ⟨gO fun y hy=>?_,fun x y hy hx=>?_⟩
 ·obtain ⟨X, hX, _⟩ := key y hy
  simp only [Fm,hX,Option.isSome_some,if_true]
 ·obtain ⟨X, hX, h⟩ := key y hy
  simp only [Si,Sl,hX,Option.getD_some]
  exact h _ hx
theorem a3m {S:List (List Qi)} {to:List Int} {n:Nat} {lf:List Nat} {x:Nat → Qi} (hto:∀ j,j < n → tv to j < n) (hl:1 ≤ lf.length) (hx:Cyc S to n x) {k:Nat} (hk:k < n) (hxk:x k ≠ 0):Uo S to n lf = 6:=by
 have hS:=Ab S to n
 have h0 : Fm (yB S to n) (Gz S n (lf.getD 0 0)) n = 6 := by
  cases hX:Ri (yB S to n) (Gz S n (lf.getD 0 0)) n with
  | none=>simp only [Fm,hX,Option.isSome_none]; rfl
  | some X =>
   obtain ⟨_,_,h3⟩:=sU hS hX
   exact absurd (h3 x (fun i hi=>by rw [Ge hi hto]; exact hx i hi) k hk) hxk
 have:=lO (f:=fun y=>Fm (yB S to n) (Gz S n (lf.getD y 0)) n) (k:=0) (fun i hi=>by omega) (by show Fm _ (Gz S n (lf.getD 0 0)) n ≠ 0; rw [h0]; decide) (n:=lf.length) zo
 rw [Uo,this]; exact h0
end
section
open Go Go.RowKit
abbrev PrT (q:Nat × Nat):Ty:=eP [NT .i64 q.1,NT .i64 q.2]
abbrev Xr (ps:List (Nat × Nat)):Ty:=kP 2 (ps.map PrT)
abbrev ZT (x:Int):Ty:=aP .i64 x
theorem a4E {z:List Qi} {m:List (List Qi)} {e:Int} (h:e ≠ 0):∀ v V,(oI [] []).p v V → (oI (dL e z) (dL e m)).p v V:=by rw [dL,dL,if_neg h,if_neg h]; exact fun _ _ k=>k
theorem a3b {z:List Qi} {m:List (List Qi)} {e:Int} {Ts:List Ty} {T:Ty} (h:e = 0) (hZ:Ts = z.map QT) (hT:T = QM m):∀ v V,(eP [kP 5 Ts,T]).p v V → (oI (dL e z) (dL e m)).p v V:=by rw [dL,dL,if_pos h,if_pos h,hZ,hT]; exact fun _ _ k=>k
theorem Kd (l:List Int) (k:Nat) (z:Int):(l.set k z).map ZT = (l.map ZT).set k (ZT z):=by rw [List.map_set]
theorem Sf {z:List Qi} {S:List (List Qi)} {n L:Nat} {ps:List (Nat × Nat)} (hS:eE S n n) (hz:z.length = n) (hf:bR S L) (hL:1 ≤ L) (hLb:L ≤ 1000) (h1:1 ≤ n) (hn:n ≤ 9) (hps:∀ j,j < ps.length → pA ps j < n ∧ pB ps j < n) (hpl:ps.length ≤ 9):bE Tryz.prog 198 [oI z S,Xr ps] (gD [oI (dL (Uo S (qO n ps ps.length) n (uR (qO n ps ps.length) n)) ((uR (qO n ps ps.length) n).map fun l=>gv z l)) (dL (Uo S (qO n ps ps.length) n (uR (qO n ps ps.length) n)) (tab (uR (qO n ps ps.length) n).length fun x=>tab (uR (qO n ps ps.length) n).length fun y=>Si S (qO n ps ps.length) n (uR (qO n ps ps.length) n) x y)),aE (decide (Uo S (qO n ps ps.length) n (uR (qO n ps ps.length) n) = 0))]):=by
 have hSl:=hS.1
 refine bE.intro Tryz.func198 rfl Tryz.ntmps198 rfl (fun cx=>(ts (rn rfl (fG (Ht rfl)) fun B2=>(rn rfl (eW (Ts:=[Is (.slice none 0 0),Is (.slice none 0 0)]) O_38 rfl (fun V=>aW zd (aW zd (aG)))) fun B4=>(ro rfl (cQ cV) (eX (ts (ro rfl (eZ kU (Ht rfl) rfl) (ro rfl (eY A_35 Z_35 (Ht rfl) (i:=0) rfl rfl) (ro rfl (dG U_35 (Ht rfl) (by rw [List.length_map,hz])) ?_))))))))))
 refine ra rfl (eX (ts (rm rfl (rn rfl (jE (T:=ZT 0) (i:=Tryz.t3) rT sA rfl rfl (Ht rfl) rfl (fun V=>rfl) El.one (by show 8 * _ ≤ _; omega) zo) fun B26=>(ra rfl (eX (cK (ts (ro rfl (cQ (cJ 0)) (eX (eG ?_)))))))))))
 refine bO (fun (i : Nat) => i ≤ n) (fun (i : Nat) => n - i) (fun (i : Nat) => [(1, Xr ps), (2, bP B2 0), (4, bP B4 0), (6, NT .i64 n), (7, Is B26), (8, NT .i64 i)]) (fun (i : Nat) => [box B2 38 [oT z, QM S], box B4 38 [Is (.slice none 0 0), Is (.slice none 0 0)], bH 3 1 B26 (jA (fun _ => ZT (-1)) (ZT 0) n i)]) 0 (Nat.zero_le _)
  (zS rfl) (aU (aB rfl) (aU (aB rfl) (aU (aD (by rw [← gF]; exact wR _ _)) aY))) (fun i hi=>?_)
 refine cK (ts (rm rfl (rm rfl (ro rfl (gX (Ht rfl) (Ht rfl)) (eX (dQ (Ht rfl) (fun hd=>?_) (fun hd=>?_)))))))
 ·have hdn : i < n := by simp only [decide_eq_true_eq] at hd; omega
  refine cU (cK (eG (cY (rm rfl (rm rfl (ro rfl (cH U_72 Z_3 (Ht rfl) (Ht rfl) rfl (i:=2) rfl (by rw [dA]; omega) rfl) ?_))))))
  refine jB Z_3 (Ht rfl) cV El.one (i:=2) rfl rfl (by rw [dA]; omega) rfl ?_
  refine eX (aS (cY (rm rfl (ro rfl (dV (Ht rfl) (cJ 1) z6) (ra rfl (eX (fU (i + 1) hdn zo (zS rfl) (aU (aB rfl) (aU (aB rfl) (aU (aD (iP (f:=fun _=>ZT (-1)))) aY))))))))))
 ·have hin : i = n := by simp only [decide_eq_false_iff_not] at hd; omega
  subst hin
  rw [iO]
  refine gV rfl (cK (ts (ro rfl (cQ (cJ 0)) (eX (eG ?_)))))
  refine bO (fun (k : Nat) => k ≤ ps.length) (fun (k : Nat) => ps.length - k) (fun (k : Nat) => [(1, Xr ps), (2, bP B2 0), (4, bP B4 0), (6, NT .i64 i), (7, Is B26), (9, NT .i64 k)]) (fun (k : Nat) => [box B2 38 [oT z, QM S], box B4 38 [Is (.slice none 0 0), Is (.slice none 0 0)], bH 3 1 B26 ((qO i ps k).map ZT)]) 0 (Nat.zero_le _)
   (zS rfl) (aU (aB rfl) (aU (aB rfl) (aU (aD (by rw [qO,rR])) aY))) (fun k hk=>?_)
  refine cK (ts (rm rfl (rm rfl (ro rfl (dG U_26 (Ht rfl) aA) (ro rfl (gX (Ht rfl) (Ht rfl)) (eX (dQ (Ht rfl) (fun hd2=>?_) (fun hd2=>?_))))))))
  ·have hkn : k < ps.length := by simp only [decide_eq_true_eq] at hd2; omega
   obtain ⟨hpa,hpb⟩:=hps k hkn
   refine cU (cK (eG (cK (fZ (m:=11) (dp 7 rfl (cX (Ht rfl)) (dp 1 rfl (cX (Ht rfl)) (dp 9 rfl (cX (Ht rfl)) (cL 42 1 43 2 rfl (dZ U_26 Z_71 (Ht rfl) (Ht rfl) rfl (dY (dU (d:=(0,0)) hkn))) (dq 44 3 rfl (kV U_71 Z_3 (Ht rfl) cV rfl (by decide) rfl) (dq 45 4 rfl (dJ A_3 Z_3 (Ht rfl)) (dp 1 rfl (cX (Ht rfl)) (dp 9 rfl (cX (Ht rfl)) (cL 47 6 48 7 rfl (dZ U_26 Z_71 (Ht rfl) (Ht rfl) rfl (dY (dU (d:=(0,0)) hkn))) ?_)))))))))))))
   refine dq 49 8 rfl (kV U_71 Z_3 (Ht rfl) cV rfl (by decide) rfl) (dq 50 9 rfl (dJ A_3 Z_3 (Ht rfl)) (fV aT rfl (by kernel_rfl) (zF (zF (aJ (aJ (aJ (aV (ro rfl (cH U_72 Z_3 (Ht rfl) (Ht rfl) rfl (i:=2) rfl (by rw [List.length_map,rN]; omega) rfl) ?_)))))))))
   refine jB Z_3 (Ht rfl) (Ht rfl) El.one (i:=2) rfl rfl (by rw [List.length_map,rN]; omega) rfl ?_
   refine eX (fZ (m:=11) (dp 7 rfl (cX (Ht rfl)) (dp 1 rfl (cX (Ht rfl)) (dp 9 rfl (cX (Ht rfl)) (cL 54 1 55 2 rfl (dZ U_26 Z_71 (Ht rfl) (Ht rfl) rfl (dY (dU (d:=(0,0)) hkn))) (dq 56 3 rfl (kV U_71 Z_3 (Ht rfl) cV rfl (by decide) rfl) (dq 57 4 rfl (dJ A_3 Z_3 (Ht rfl)) (dp 1 rfl (cX (Ht rfl)) (dp 9 rfl (cX (Ht rfl)) (cL 59 6 60 7 rfl (dZ U_26 Z_71 (Ht rfl) (Ht rfl) rfl (dY (dU (d:=(0,0)) hkn))) (dq 61 8 rfl (kV U_71 Z_3 (Ht rfl) cV rfl (by decide) rfl) ?_)))))))))))
   refine dq 62 9 rfl (dJ A_3 Z_3 (Ht rfl)) (fV aT rfl (by kernel_rfl) (zF (zF (aJ (aJ (aJ (aV (ro rfl (cH U_72 Z_3 (Ht rfl) (Ht rfl) rfl (i:=2) rfl (by rw [List.length_set,List.length_map,rN]; omega) rfl) ?_))))))))
   refine jB Z_3 (Ht rfl) (Ht rfl) El.one (i:=2) rfl rfl (by rw [List.length_set,List.length_map,rN]; omega) rfl ?_
   refine eX (aS (cY (rm rfl (ro rfl (dV (Ht rfl) (cJ 1) z6) (ra rfl (eX (fU (k + 1) hkn zo (zS rfl) (aU (aB rfl) (aU (aB rfl) (aU (aD (by rw [qO,← Kd,← Kd])) aY))))))))))
  ·have hkp : k = ps.length := by simp only [decide_eq_false_iff_not] at hd2; omega
   subst hkp
   have htl:=rN i ps ps.length
   have htm:=Rf hps
   obtain ⟨to,hto⟩:∃ to,to = qO i ps ps.length:=⟨_,rfl⟩
   rw [← hto] at htl htm ⊢
   refine gV rfl (ts (rn rfl (mN U_72 Z_3 O_3) fun B65=>(ra rfl (eX (cK (ts (ro rfl (cQ (cJ 0)) (eX (eG ?_)))))))))
   refine eC (fun (q : Nat) (vL : Value) => q ≤ i) (fun (q : Nat) (vL : Value) => i - q) (fun (q : Nat) (vL : Value) => [(1, Xr ps), (2, bP B2 0), (4, bP B4 0), (6, NT .i64 i), (7, Is B26), (10, Is vL), (11, NT .i64 q)]) (fun (q : Nat) (vL : Value) => [box B2 38 [oT z, QM S], box B4 38 [Is (.slice none 0 0), Is (.slice none 0 0)], bH 3 1 B26 (to.map ZT), bH 3 1 vL ((uR to q).map (NT .i64))]) 0 _ (Nat.zero_le _)
    (zS rfl) (aU (aB rfl) (aU (aB rfl) (aU (fun _ _ _ h=>h) (aU (aD rfl) aY)))) (fun q vL hq=>?_)
   refine cK (ts (rm rfl (rm rfl (ro rfl (gX (Ht rfl) (Ht rfl)) (eX (dQ (Ht rfl) (fun hd3=>?_) (fun hd3=>?_)))))))
   ·have hqn : q < i := by simp only [decide_eq_true_eq] at hd3; omega
    have hll:=Gv to q
    refine cU (cK (eG (ts (rm rfl (rm rfl (ro rfl (cH U_72 Z_3 (Ht rfl) (Ht rfl) rfl (i:=2) rfl (by rw [List.length_map]; omega) rfl) ?_))))))
    refine ro rfl (nM A_3 Z_3 (Ht rfl) (i:=2) rfl rfl (dY (dU (d:=0) zo))) (ro rfl (pJ (Ht rfl) cV) (eX (dQ (Ht rfl) (fun hn=>?_) (fun hn=>?_))))
    ·have hneg : tv to q < 0 := by simpa using hn
     have hnx:uR to (q + 1) = uR to q ++ [q]:=by rw [uR,if_pos hneg]
     refine cY (rm rfl (rm rfl (ro rfl (bT (xs:=[.tmp 77]) U_72 Z_3 O_3 (cW (Ht rfl) cG) rfl rfl rfl) (iD (inf:=Tryz.t3) rT sA rfl rfl rfl (Ht rfl) (Ht rfl) (i:=3) rfl (by simp) (fun T hT=>by simp at hT; subst hT; exact El.one) (by show _ * 8 ≤ _; simp only [List.length_map,List.length_cons,List.length_nil]; omega) (by simp only [List.length_map,List.length_cons,List.length_nil]; omega) rfl (fun v2=>?_)))))
     refine ra rfl (eX (aS (cY (rm rfl (ro rfl (dV (Ht rfl) (cJ 1) z6) (ra rfl (eX (fU (q + 1,v2) hqn (by dsimp only; omega) (zS rfl) (aU (aB rfl) (aU (aB rfl) (aU (fun _ _ _ h=>h) (aU (aD (by rw [hnx,List.map_append]; rfl)) aY))))))))))))
    ·have hneg : ¬ tv to q < 0 := by simpa using hn
     have hnx:uR to (q + 1) = uR to q:=by rw [uR,if_neg hneg,List.append_nil]
     refine cU (aS (cY (rm rfl (ro rfl (dV (Ht rfl) (cJ 1) z6) (ra rfl (eX (fU (q + 1,vL) hqn (by dsimp only; omega) (zS rfl) (aU (aB rfl) (aU (aB rfl) (aU (fun _ _ _ h=>h) (aU (aD (by rw [hnx])) aY)))))))))))
   ·have hqi : q = i := by simp only [decide_eq_false_iff_not] at hd3; omega
    subst hqi
    refine gV rfl (gJ (i:=2) (tt:=7) rfl rfl eB (gJ (i:=3) (tt:=10) rfl rfl eB (cA [0,1] rfl (by decide) (ts (rm rfl (jT Tryz.call199 (Yc (n:=q) zo) ⟨(Ht rfl),trivial⟩ rfl (fun B81 _=>(ra rfl (eX (cK (ts (ro rfl (cQ (cJ 0)) (eX (eG ?_))))))))))))))
    refine bO (fun (r : Nat) => r ≤ q) (fun (r : Nat) => q - r) (fun (r : Nat) => [(2, bP B2 0), (4, bP B4 0), (6, NT .i64 q), (7, kP 1 (to.map ZT)), (10, dP (uR to q)), (12, Is (.slice (some ⟨B81, 0, none⟩) q q)), (13, NT .i64 r)]) (fun (r : Nat) => [box B2 38 [oT z, QM S], box B4 38 [Is (.slice none 0 0), Is (.slice none 0 0)], kH eM B81 35 131 5 (bN QT (kQ (fun r => zB S to q r q) (mO q) q r))]) 0 (Nat.zero_le _)
     (zS rfl) (aU (aB rfl) (aU (aB rfl) (aU (bI (by rw [← jY]; rfl)) aY))) (fun r hr=>?_)
    refine cK (ts (rm rfl (rm rfl (ro rfl (gX (Ht rfl) (Ht rfl)) (eX (dQ (Ht rfl) (fun hd4=>?_) (fun hd4=>?_)))))))
    ·have hrn : r < q := by simp only [decide_eq_true_eq] at hd4; omega
     have hsr:=hS.row hrn
     refine jZ 2 (r) rfl (oU hrn) (fun v0 hv0=>(cU (cK (eG (ts (ro rfl (cQ (cJ 0)) (eX (eG ?_))))))))
     refine bO (fun (j : Nat) => j ≤ q) (fun (j : Nat) => q - j) (fun (j : Nat) => [(2, bP B2 0), (4, bP B4 0), (6, NT .i64 q), (7, kP 1 (to.map ZT)), (10, dP (uR to q)), (12, Is (.slice (some ⟨B81, 0, none⟩) q q)), (13, NT .i64 r), (14, NT .i64 j)]) (fun (j : Nat) => [box B2 38 [oT z, QM S], box B4 38 [Is (.slice none 0 0), Is (.slice none 0 0)], pO eM B81 35 131 5 (bN QT (kQ (fun r => zB S to q r q) (mO q) q r)) r v0, bH 131 5 v0 ((zB S to q r j).map QT)]) 0 (Nat.zero_le _)
      (zS rfl) (aU (aB rfl) (aU (aB rfl) (aU (fun _ _ _ h=>h) (aU (aD rfl) aY)))) (fun j hj=>?_)
     refine cK (ts (rm rfl (rm rfl (ro rfl (gX (Ht rfl) (Ht rfl)) (eX (dQ (Ht rfl) (fun he=>?_) (fun he=>?_)))))))
     ·have hjn : j < q := by simp only [decide_eq_true_eq] at he; omega
      have hrl:=xH S to q r j
      have htj:=htm _ (a2T (i:=j) zo)
      refine cU (cK (eG (ts (rm rfl (rm rfl (ro rfl (dZ U_72 Z_3 (Ht rfl) (Ht rfl) rfl (dY (dU (d:=0) zo))) (ro rfl (dJ A_3 Z_3 (Ht rfl)) (ro rfl (kC (Ht rfl) cV) (eX (dQ (Ht rfl) (fun hg=>?_) (fun hg=>?_)))))))))))
      ·have hpos : ¬ tv to j < 0 := by simp at hg; simp; omega
       have hqi:tv to j = ((tv to j).toNat:Int):=by omega
       have hnx:zB S to q r (j + 1) = (zB S to q r j).set (tv to j).toNat (gv (zB S to q r j) (tv to j).toNat - gm S r j):=by rw [zB,if_neg hpos]
       haveI f1:aO (gv (zB S to q r j) (tv to j).toNat) (1 + j * (L + 1)):=(Hl hf hL j).get zo _
       haveI f2:aO (gm S r j) L:=hf.get hL r j
       have hjl:j * (L + 1) ≤ 9 * (L + 1):=Nat.mul_le_mul_right _ zo
       refine fZ (m:=27) (dp 12 rfl (cX (Ht rfl)) (dp 13 rfl (cX (Ht rfl)) (cL 97 0 98 1 rfl (fY U_36 Z_35 (Ht rfl) (Ht rfl) rfl zo (by rw [Nat.mul_one,Nat.zero_add])) ?_)))
       refine dq 99 2 rfl (iF A_35 Z_35 (Ht rfl) (j:=2) rfl) (dp 7 rfl (cX (Ht rfl)) (dp 14 rfl (cX (Ht rfl)) (cL 101 4 102 5 rfl (dZ U_72 Z_3 (Ht rfl) (Ht rfl) rfl (dY (dU (d:=0) zo))) (dq 103 6 rfl (dJ A_3 Z_3 (Ht rfl)) (dp 12 rfl (cX (Ht rfl)) (dp 13 rfl (cX (Ht rfl)) (cL 105 8 106 9 rfl (fY U_36 Z_35 (Ht rfl) (Ht rfl) rfl zo (by rw [Nat.mul_one,Nat.zero_add])) ?_)))))))
       refine dq 107 10 rfl (iF A_35 Z_35 (Ht rfl) (j:=2) rfl) (dp 7 rfl (cX (Ht rfl)) (dp 14 rfl (cX (Ht rfl)) (cL 109 12 110 13 rfl (dZ U_72 Z_3 (Ht rfl) (Ht rfl) rfl (dY (dU (d:=0) zo))) (dq 111 14 rfl (dJ A_3 Z_3 (Ht rfl)) (cL 108 11 112 15 rfl (cH U_35 Z_131 (Ht rfl) (Ht rfl) hqi (i:=3) rfl (by rw [List.length_map,hrl]; omega) rfl) ?_)))))
       refine dq 113 16 rfl (nM A_131 Z_131 (Ht rfl) (i:=3) rfl rfl (dY (dU (d:=Qi.zero) zo))) (dp 2 rfl (eZ uD (Ht rfl) rfl) (dq 115 18 rfl (eY A_36 Z_36 (Ht rfl) (i:=0) rfl rfl) (dp 13 rfl (cX (Ht rfl)) (cL 116 19 117 20 rfl (dZ U_36 Z_35 (Ht rfl) (Ht rfl) rfl (dY (dU (d:=[]) zo))) (dq 118 21 rfl (dJ A_35 Z_35 (Ht rfl)) (dp 14 rfl (cX (Ht rfl)) (cL 119 22 120 23 rfl (dZ U_35 Z_131 (Ht rfl) (Ht rfl) rfl (dY (dU (d:=Qi.zero) zo))) ?_)))))))
       refine dq 121 24 rfl (dJ A_131 Z_131 (Ht rfl)) (cL 114 17 122 25 rfl (cZ Tryz.call147 (Nb (x:=gv (zB S to q r j) (tv to j).toNat) (y:=gm S r j) (L:=1 + j * (L + 1)) (M:=L) zo) ⟨(Ht rfl),(Ht rfl),trivial⟩) (fV aT rfl (by kernel_rfl) (zF (zF (zF (zF (zF (zF (aJ (aJ (aJ (aV (ro rfl (cH U_35 Z_131 (Ht rfl) (Ht rfl) hqi (i:=3) rfl (by rw [List.length_map,hrl]; omega) rfl) ?_)))))))))))))
       refine jB Z_131 (Ht rfl) (Ht rfl) (El.ag rfl) (i:=3) rfl rfl (by rw [List.length_map,hrl]; omega) rfl ?_
       refine eX (aS (cY (rm rfl (ro rfl (dV (Ht rfl) (cJ 1) z6) (ra rfl (eX (fU (j + 1) hjn zo (zS rfl) (aU (aB rfl) (aU (aB rfl) (aU (fun _ _ _ h=>h) (aU (aD (by rw [fO,hnx])) aY)))))))))))
      ·have hneg : tv to j < 0 := by simp at hg; simp; omega
       have hny:zB S to q r (j + 1) = zB S to q r j:=by rw [zB,if_pos hneg]
       refine cU (aS (cY (rm rfl (ro rfl (dV (Ht rfl) (cJ 1) z6) (ra rfl (eX (fU (j + 1) hjn zo (zS rfl) (aU (aB rfl) (aU (aB rfl) (aU (fun _ _ _ h=>h) (aU (aD (by rw [hny])) aY)))))))))))
     ·have hjq : j = q := by simp only [decide_eq_false_iff_not] at he; omega
      subst hjq
      refine gV rfl (aS (eS 2 3 rfl rfl (by decide) (by simp only [bN,List.length_map,jK]; omega) ?_))
      refine cY (rm rfl (ro rfl (dV (Ht rfl) (cJ 1) z6) (ra rfl (eX (cA [0,1,2] rfl (by decide) (fU (r + 1) hrn zo (zS rfl) (aU (aB rfl) (aU (aB rfl) (aU (bI (by rw [fF,← lI (f:=fun r=>zB S to j r j)])) aY)))))))))
    ·have hrq : r = q := by simp only [decide_eq_false_iff_not] at hd4; omega
     subst hrq
     rw [lL]
     have hlm:∀ i,i < (uR to r).length → (uR to r).getD i 0 < r:=fun i hi=>Vv (by rw [show (uR to r).getD i 0 = (uR to r)[i] by simp [List.getD,hi]]; exact List.getElem_mem hi)
     have hll:=Gv to r
     obtain ⟨lf,hlf⟩:∃ lf,lf = uR to r:=⟨_,rfl⟩
     rw [← hlf] at hlm hll ⊢
     have hrL:L ≤ 1 + r * (L + 1):=by have:=Nat.mul_le_mul_right (L + 1) h1; omega
     have hrB:1 + r * (L + 1) ≤ 9010:=by have:=Nat.mul_le_mul hn (show L + 1 ≤ 1001 by omega); omega
     have hgr:6 * cE (1 + r * (L + 1)) r + 4 ≤ 17592186044415:=Nat.le_trans (Nat.add_le_add_right (Nat.mul_le_mul_left 6 (Nat.le_trans (Bp hrB r) (lP 9010 hn))) 4) (by decide)
     refine gV rfl (gJ (i:=2) (tt:=12) rfl rfl (kJ (s:=5) (M:=yB S to r) (aC _ _).symm) (cK (fZ (m:=10) (dp 10 rfl (cX (Ht rfl)) (dq 125 0 rfl (dG U_72 (Ht rfl) aA) (C.D_new (Ei:=[(126,_)]) rfl rfl rfl (bV (bG 1 rfl rfl) bW) (Sr (T:=ZQ) (i:=Tryz.t131) rV mV rfl rfl (Ht rfl) rfl Zl (El.ag rfl) (by show 88 * _ ≤ _; omega) zo) (dp 10 rfl (cX (Ht rfl)) (dq 128 3 rfl (dG U_72 (Ht rfl) aA) (dp 10 rfl (cX (Ht rfl)) (dq 130 5 rfl (dG U_72 (Ht rfl) aA) ?_))))))))))
     refine C.D_new (Ei:=[(129,_),(131,_)]) rfl rfl rfl (bV (bG 4 rfl rfl) (bV (bG 6 rfl rfl) bW)) (Ff Tryz.call129 (Bg (n:=lf.length) (m:=lf.length) zo zo) ⟨(Ht rfl),(Ht rfl),trivial⟩) (C.D_dep (fun T U=>eP [T,U]) 2 7 rfl rfl rfl rfl rfl rfl (fun T U hT hU=>by obtain ⟨x,rfl⟩:=hT; obtain ⟨y,rfl⟩:=hU; (try dsimp only); exact dX rfl (Be (Ht rfl) (Ht rfl))) (C.D_new (Ei:=[]) rfl rfl rfl bW (eW (Ts:=[Is (.slice none 0 0),Is (.slice none 0 0)]) O_38 rfl (fun V=>aW zd (aW zd (aG)))) ?_))
     refine fV aT rfl (by kernel_rfl) (aJ (aJ (C.F_new (fun B127=>aJ (aJ (aJ (aJ (C.F_new (fun B132=>C.F_dep rfl rfl (C.F_new (fun B15=>aV (gQ Z_38 (Ht rfl) (Ht rfl) rfl (i:=5) rfl (aK rfl) rfl rfl (eX (cK (ts (ro rfl (cQ (cJ 0)) (eX (eG (cA [0,1,3,4,5] rfl (by decide) ?_)))))))))))))))))))
     refine bO (fun (y : Nat) => y ≤ lf.length ∧ ∀ j, j < y → Fm (yB S to r) (Gz S r (lf.getD j 0)) r = 0) (fun (y : Nat) => lf.length - y) (fun (y : Nat) => [(2, bP B2 0), (4, bP B4 0), (6, NT .i64 r), (10, dP lf), (12, QM (yB S to r)), (15, bP B15 0), (16, NT .i64 y)]) (fun (y : Nat) => [box B2 38 [oT z, QM S], box B4 38 [Is (.slice none 0 0), Is (.slice none 0 0)], bH 131 5 (.slice (some ⟨B127, 0, none⟩) lf.length lf.length) (jA (fun y => QT (gv z (lf.getD y 0))) ZQ lf.length y), kH eM B132 35 131 5 (bN QT (uU (Si S to r lf) lf.length lf.length y 0)), box B15 38 [Is (.slice (some ⟨B127, 0, none⟩) lf.length lf.length), Is (.slice (some ⟨B132, 0, none⟩) lf.length lf.length)]]) 0 ⟨Nat.zero_le _, fun j h => by omega⟩
      (zS rfl) (aU (aB rfl) (aU (aB rfl) (aU (aD (by rw [← gF]; exact wR _ _)) (aU (bI (by rw [zD,← Tk]; rfl)) (aU (aB rfl) aY))))) (fun y ⟨hy,h0⟩=>?_)
     refine cK (ts (rm rfl (rm rfl (ro rfl (dG U_72 (Ht rfl) aA) (ro rfl (gX (Ht rfl) (Ht rfl)) (eX (dQ (Ht rfl) (fun hyc=>?_) (fun hyc=>?_))))))))
     ·have hyn : y < lf.length := by simp only [decide_eq_true_eq] at hyc; omega
      have hly:=hlm y hyn
      refine cU (cK (eG (cK (fZ (m:=11) (dp 15 rfl (eZ kU (Ht rfl) rfl) (dq 140 0 rfl (Rd A_35 Z_35 (Ht rfl) (i:=4) rfl rfl) (dp 16 rfl (cX (Ht rfl)) (dp 2 rfl (eZ kU (Ht rfl) rfl) (dq 143 3 rfl (eY A_35 Z_35 (Ht rfl) (i:=0) rfl rfl) (dp 10 rfl (cX (Ht rfl)) (dp 16 rfl (cX (Ht rfl)) (cL 145 5 146 6 rfl (dZ U_72 Z_3 (Ht rfl) (Ht rfl) rfl (dY (dU (d:=0) zo))) (dq 147 7 rfl (dJ A_3 Z_3 (Ht rfl)) (cL 144 4 148 8 rfl (dZ U_35 Z_131 (Ht rfl) (Ht rfl) rfl (dY (dU (d:=Qi.zero) zo))) ?_))))))))))))))
      refine dq 149 9 rfl (dJ A_131 Z_131 (Ht rfl)) (fV aT rfl (by kernel_rfl) (zF (zF (aJ (aJ (aJ (aV (ro rfl (cH U_35 Z_131 (Ht rfl) (Ht rfl) rfl (i:=2) rfl (by rw [dA]; omega) rfl) ?_))))))))
      refine jB Z_131 (Ht rfl) (Ht rfl) (El.ag rfl) (i:=2) rfl rfl (by rw [dA]; omega) rfl ?_
      refine eX (ts (rm rfl (rn rfl (jE (T:=ZQ) (i:=Tryz.t131) rV mV rfl rfl (Ht rfl) rfl Zl (El.ag rfl) (by show 88 * _ ≤ _; omega) zo) fun B153=>(ra rfl (eX (cK (ts (ro rfl (cQ (cJ 0)) (eX (eG ?_))))))))))
      refine bO (fun (i2 : Nat) => i2 ≤ r) (fun (i2 : Nat) => r - i2) (fun (i2 : Nat) => [(2, bP B2 0), (4, bP B4 0), (6, NT .i64 r), (10, dP lf), (12, QM (yB S to r)), (15, bP B15 0), (16, NT .i64 y), (17, Is B153), (18, NT .i64 i2)]) (fun (i2 : Nat) => [box B2 38 [oT z, QM S], box B4 38 [Is (.slice none 0 0), Is (.slice none 0 0)], bH 131 5 (.slice (some ⟨B127, 0, none⟩) lf.length lf.length) (jA (fun y => QT (gv z (lf.getD y 0))) ZQ lf.length (y + 1)), kH eM B132 35 131 5 (bN QT (uU (Si S to r lf) lf.length lf.length y 0)), box B15 38 [Is (.slice (some ⟨B127, 0, none⟩) lf.length lf.length), Is (.slice (some ⟨B132, 0, none⟩) lf.length lf.length)], bH 131 5 B153 (jA (fun i => QT (gm S i (lf.getD y 0))) ZQ r i2)]) 0 (Nat.zero_le _)
       (zS rfl) (aU (aB rfl) (aU (aB rfl) (aU (aD (iP (f:=(fun y=>QT (gv z (lf.getD y 0)))))) (aU (fun _ _ _ h=>h) (aU (aB rfl) (aU (aD (by rw [← gF]; exact wR _ _)) aY)))))) (fun i2 hi2=>?_)
      refine cK (ts (rm rfl (rm rfl (ro rfl (gX (Ht rfl) (Ht rfl)) (eX (dQ (Ht rfl) (fun hic=>?_) (fun hic=>?_)))))))
      ·have hin : i2 < r := by simp only [decide_eq_true_eq] at hic; omega
       have hsr:=hS.row hin
       refine cU (cK (eG (fZ (m:=13) (dp 17 rfl (cX (Ht rfl)) (dp 18 rfl (cX (Ht rfl)) (dp 2 rfl (eZ uD (Ht rfl) rfl) (dq 161 2 rfl (eY A_36 Z_36 (Ht rfl) (i:=0) rfl rfl) (dp 18 rfl (cX (Ht rfl)) (cL 162 3 163 4 rfl (dZ U_36 Z_35 (Ht rfl) (Ht rfl) rfl (dY (dU (d:=[]) zo))) (dq 164 5 rfl (dJ A_35 Z_35 (Ht rfl)) (dp 10 rfl (cX (Ht rfl)) (dp 16 rfl (cX (Ht rfl)) (cL 166 7 167 8 rfl (dZ U_72 Z_3 (Ht rfl) (Ht rfl) rfl (dY (dU (d:=0) zo))) ?_)))))))))))))
       refine dq 168 9 rfl (dJ A_3 Z_3 (Ht rfl)) (cL 165 6 169 10 rfl (dZ U_35 Z_131 (Ht rfl) (Ht rfl) rfl (dY (dU (d:=Qi.zero) zo))) (dq 170 11 rfl (dJ A_131 Z_131 (Ht rfl)) (fV aT rfl (by kernel_rfl) (zF (zF (zF (aJ (aV (ro rfl (cH U_35 Z_131 (Ht rfl) (Ht rfl) rfl (i:=5) rfl (by rw [dA]; omega) rfl) ?_)))))))))
       refine jB Z_131 (Ht rfl) (Ht rfl) (El.ag rfl) (i:=5) rfl rfl (by rw [dA]; omega) rfl ?_
       refine eX (aS (cY (rm rfl (ro rfl (dV (Ht rfl) (cJ 1) z6) (ra rfl (eX (fU (i2 + 1) hin zo (zS rfl) (aU (aB rfl) (aU (aB rfl) (aU (fun _ _ _ h=>h) (aU (fun _ _ _ h=>h) (aU (aB rfl) (aU (aD (iP (f:=(fun i=>QT (gm S i (lf.getD y 0)))))) aY)))))))))))))
      ·have hir : i2 = r := by simp only [decide_eq_false_iff_not] at hic; omega
       rw [hir,iO,show (tab r fun i=>QT (gm S i (lf.getD y 0))) = (Gz S r (lf.getD y 0)).map QT from by rw [Gz,rR]]
       refine gV rfl (gJ (i:=5) (tt:=17) rfl rfl eB (ts (rm rfl (rm rfl (ro rfl (cZ Tryz.call201 (Ka (M:=yB S to r) (b:=Gz S r (lf.getD y 0)) (n:=r) (L:=1 + r * (L + 1)) (Ab S to r) (aC _ _) (a0n hf hL) ((a0x hf hL).le hrL) zo h1 zo hgr) ⟨(Ht rfl),(Ht rfl),trivial⟩) (rm rfl (ro rfl (dK (Ht rfl) rfl) (ro rfl (dK (Ht rfl) rfl) (ra rfl (ra rfl (eX (cK (ts (rm rfl (ro rfl (kS (Ht rfl) cV) (eX (dQ (Ht rfl) (fun hez=>?_) (fun hez=>?_))))))))))))))))))
       ·have hez2 : Fm (yB S to r) (Gz S r (lf.getD y 0)) r ≠ 0 := by simp at hez; exact hez
        have hcE:Uo S to r lf ≠ 0:=by rw [Uo,lO (f:=fun y=>Fm (yB S to r) (Gz S r (lf.getD y 0)) r) h0 hez2 hyn]; exact hez2
        refine ts (ro rfl (aL.imp (uK ) qR) (gQ Z_38 (Ht rfl) (Ht rfl) rfl (i:=1) rfl (aK rfl) rfl rfl (ro rfl (cQ cV) (eX (bM rfl (fX (fK A_38 Z_38 rfl (i:=1) rfl rfl) ?_) (fX (eU rfl) ?_))))))
        ·exact (a4E hcE)
        ·exact (eH (by simp [hcE]))
       ·have hez2 : Fm (yB S to r) (Gz S r (lf.getD y 0)) r = 0 := by simp at hez; exact hez
        have hgl:(Sl (yB S to r) (Gz S r (lf.getD y 0)) r).length = r:=a1v (Ab S to r) hez2
        refine cU (ts (ro rfl (cQ (cJ 0)) (eX (eG (cA [0,1,2,3,4] rfl (by decide) ?_)))))
        refine bO (fun (x : Nat) => x ≤ lf.length) (fun (x : Nat) => lf.length - x) (fun (x : Nat) => [(2, bP B2 0), (4, bP B4 0), (6, NT .i64 r), (10, dP lf), (12, QM (yB S to r)), (15, bP B15 0), (16, NT .i64 y), (19, oT (Sl (yB S to r) (Gz S r (lf.getD y 0)) r)), (21, NT .i64 x)]) (fun (x : Nat) => [box B2 38 [oT z, QM S], box B4 38 [Is (.slice none 0 0), Is (.slice none 0 0)], bH 131 5 (.slice (some ⟨B127, 0, none⟩) lf.length lf.length) (jA (fun y => QT (gv z (lf.getD y 0))) ZQ lf.length (y + 1)), kH eM B132 35 131 5 (bN QT (uU (Si S to r lf) lf.length lf.length y x)), box B15 38 [Is (.slice (some ⟨B127, 0, none⟩) lf.length lf.length), Is (.slice (some ⟨B132, 0, none⟩) lf.length lf.length)]]) 0 (Nat.zero_le _)
         (zS rfl) (aU (aB rfl) (aU (aB rfl) (aU (fun _ _ _ h=>h) (aU (fun _ _ _ h=>h) (aU (aB rfl) aY))))) (fun x hx=>?_)
        refine cK (ts (rm rfl (rm rfl (ro rfl (dG U_72 (Ht rfl) aA) (ro rfl (gX (Ht rfl) (Ht rfl)) (eX (dQ (Ht rfl) (fun hxc=>?_) (fun hxc=>?_))))))))
        ·have hxn : x < lf.length := by simp only [decide_eq_true_eq] at hxc; omega
         have hlx:=hlm x hxn
         have hpl:=(sQ (Si S to r lf) lf.length lf.length y x).1
         have hpr:((uU (Si S to r lf) lf.length lf.length y x).getD x []).length = lf.length:=(sQ (Si S to r lf) lf.length lf.length y x).row hxn
         refine jZ 3 (x) rfl (nA zo) (fun v hv=>(cU (cK (eG (fZ (m:=13) (dp 15 rfl (eZ uD (Ht rfl) rfl) (dq 188 0 rfl (eY A_36 Z_36 (Ht rfl) (i:=4) rfl rfl) (dp 21 rfl (cX (Ht rfl)) (cL 189 1 190 2 rfl (fY U_36 Z_35 (Ht rfl) (Ht rfl) rfl zo (by rw [Nat.mul_one,Nat.zero_add])) ?_)))))))))
         refine dq 191 3 rfl (iF A_35 Z_35 (Ht rfl) (j:=3) rfl) (dp 16 rfl (cX (Ht rfl)) (dp 19 rfl (cX (Ht rfl)) (dp 10 rfl (cX (Ht rfl)) (dp 21 rfl (cX (Ht rfl)) (cL 195 7 196 8 rfl (dZ U_72 Z_3 (Ht rfl) (Ht rfl) rfl (dY (dU (d:=0) zo))) (dq 197 9 rfl (dJ A_3 Z_3 (Ht rfl)) (cL 194 6 198 10 rfl (dZ U_35 Z_131 (Ht rfl) (Ht rfl) rfl (dY (dU (d:=Qi.zero) zo))) (dq 199 11 rfl (dJ A_131 Z_131 (Ht rfl)) (fV aT rfl (by kernel_rfl) (zF (zF (zF (aJ (aV ?_))))))))))))))
         refine ro rfl (cH U_35 Z_131 (Ht rfl) (Ht rfl) rfl (i:=5) rfl (by rw [List.length_map]; omega) rfl) ?_
         refine jB Z_131 (Ht rfl) (Ht rfl) (El.ag rfl) (i:=5) rfl rfl (by rw [List.length_map]; omega) rfl ?_
         refine eX (aS (eS 3 5 rfl rfl (by decide) (by simp only [bN,List.length_map]; omega) ?_))
         refine cY (rm rfl (ro rfl (dV (Ht rfl) (cJ 1) z6) (ra rfl (eX (cA [0,1,2,3,4] rfl (by decide) (fU (x + 1) hxn zo (zS rfl) (aU (aB rfl) (aU (aB rfl) (aU (fun _ _ _ h=>h) (aU (bI (by rw [fO,fF]; exact congrArg _ (Uf (val:=Si S to r lf) hxn hyn))) (aU (aB rfl) aY)))))))))))
        ·have hxl : x = lf.length := by simp only [decide_eq_false_iff_not] at hxc; omega
         rw [hxl,Zk]
         refine gV rfl (aS (cY (rm rfl (ro rfl (dV (Ht rfl) (cJ 1) z6) (ra rfl (eX ?_))))))
         refine fU (y + 1) ⟨hyn, fun j h => by
          by_cases e:j = y
          ·rw [e]; exact hez2
          ·exact h0 j zo⟩ zo (zS rfl) (aU (aB rfl) (aU (aB rfl) (aU (fun _ _ _ h=>h) (aU (fun _ _ _ h=>h) (aU (aB rfl) aY)))))
     ·have hyl : y = lf.length := by simp only [decide_eq_false_iff_not] at hyc; omega
      rw [hyl,iO,Zt]
      have hcE:Uo S to r lf = 0:=gO (by rw [hyl] at h0; exact h0)
      have hZ:(tab lf.length fun y=>QT (gv z (lf.getD y 0))) = (lf.map fun l=>gv z l).map QT:=by rw [List.map_map]; exact sS lf (fun l=>QT (gv z l))
      refine gV rfl (cK (Fg 4 2 0 rfl rfl rfl (by decide) (Cl 4 3 1 rfl rfl rfl (by decide) (a4F (q:=eM) (M:=tab lf.length fun x=>tab lf.length fun y=>Si S to r lf x y) (aC _ _).symm) (cY (ro rfl (eJ A_38 Z_38 (Ht rfl) (i:=4) rfl rfl rfl) (gQ Z_38 (Ht rfl) (Ht rfl) rfl (i:=1) rfl (aK rfl) rfl rfl (ro rfl (cQ cV) (eX (bM rfl (fX (fK A_38 Z_38 rfl (i:=1) rfl rfl) ?_) (fX (eU rfl) ?_))))))))))
      ·exact (a3b hcE hZ rfl)
      ·exact (eH (by simp [hcE]))
end
section
open Go Go.RowKit
def vZ (A:List (List Qi)) (c i j:Nat):Qi:=if j < c ∧ j < i then 0 else gm A i j
def wW (F:Nat → Nat → Qi) (n m:Nat) (x:Nat → Qi):Prop:=∀ i,i < n → aF m (fun k=>F i k * x k) = 0
theorem Cm {F G:Nat → Nat → Qi} {n m:Nat} {x:Nat → Qi} (h:∀ i,i < n → ∀ j,j < m → F i j = G i j):wW F n m x ↔ wW G n m x:=by
 have e:∀ i,i < n → aF m (fun k=>F i k * x k) = aF m (fun k=>G i k * x k):=fun i hi=>bA fun k hk=>by rw [h i hi k hk]
 exact ⟨fun k i hi=>by rw [← e i hi]; exact k i hi,fun k i hi=>by rw [e i hi]; exact k i hi⟩
def Pq (p c i:Nat):Nat:=if i = c then p else if i = p then c else i
theorem Hg {p c i n:Nat} (hp:p < n) (hc:c < n) (hi:i < n):Pq p c i < n:=by unfold Pq; split <;> (try split) <;> omega
theorem Pu (p c i:Nat):Pq p c (Pq p c i) = i:=by
 unfold Pq
 by_cases e1:i = c
 ·subst e1
  rw [if_pos rfl]
  by_cases e2:p = i
  ·rw [if_pos e2]; exact e2
  ·rw [if_neg e2,if_pos rfl]
 ·rw [if_neg e1]
  by_cases e2:i = p
  ·subst e2; rw [if_pos rfl,if_pos rfl]
  ·rw [if_neg e2,if_neg e1,if_neg e2]
theorem Kb {F : Nat → Nat → Qi} {n m p c : Nat} {x : Nat → Qi} (hp : p < n) (hc : c < n) : wW (fun i => F (Pq p c i)) n m x ↔ wW F n m x :=
 ⟨fun h i hi=>by have:=h _ (Hg hp hc hi); simp only [Pu] at this; exact this,fun h i hi=>h _ (Hg hp hc hi)⟩
theorem Va {F G:Nat → Nat → Qi} {n m c:Nat} {x f:Nat → Qi} (hc:c < n) (hG:∀ i,i < n → ∀ j,j < m → G i j = if c < i then F i j - f i * F c j else F i j):wW G n m x ↔ wW F n m x:=by
 have key : ∀ i, i < n → aF m (fun k => G i k * x k) = if c < i then aF m (fun k => F i k * x k) - f i * aF m (fun k => F c k * x k) else aF m (fun k => F i k * x k) := fun i hi => by
  by_cases e:c < i
  ·rw [if_pos e, ← qW]
   exact bA fun k hk=>by rw [hG i hi k hk,if_pos e]; grind
  ·rw [if_neg e]
   exact bA fun k hk=>by rw [hG i hi k hk,if_neg e]
 have kc:=key c hc
 rw [if_neg zo] at kc
 constructor
 ·intro h i hi
  have h0:=h c hc
  rw [kc] at h0
  have h1:=h i hi
  rw [key i hi] at h1
  by_cases e:c < i
  ·rw [if_pos e,h0] at h1; grind
  ·rw [if_neg e] at h1; exact h1
 ·intro h i hi
  rw [key i hi]
  by_cases e:c < i
  ·rw [if_pos e,h i hi,h c hc]; grind
  ·rw [if_neg e]; exact h i hi
theorem a1h {M:List (List Qi)} {n m c i j:Nat} (h:eE M n m) (hi:i < n) (hj:j < m):gm (nG M c n) i j = if c < i ∧ c < j then gm M i j - gm M i c / gm M c c * gm M c j else gm M i j:=by
 have hr:(dB M i).length = m:=h.row hi
 have e0 : dB (nG M c n) i = if c < i ∧ i < n then mC (dB M i) (dB M c) c (dB M i).length else dB M i := by
  simp only [dB,nG,List.getD]; rw [bS (by rw [h.1]; exact hi)]; rfl
 show gv (dB (nG M c n) i) j = _
 rw [e0]
 by_cases e:c < i
 ·rw [if_pos ⟨e, hi⟩, mC, mI zo]
  by_cases e2:c < j
  ·rw [if_pos ⟨e2,by omega⟩,if_pos ⟨e,e2⟩]
  ·rw [if_neg (fun k=>e2 k.1),if_neg (fun k=>e2 k.2)]
 ·rw [if_neg (fun k=>e k.1),if_neg (fun k=>e k.1)]
theorem a1m {A:List (List Qi)} {p c i j:Nat} (hc:c < A.length) (hp:p < A.length) (hcp:c ≤ p):vZ (swp [] A p c) c i j = vZ A c (Pq p c i) j:=by
 have key:gm (swp [] A p c) i j = gm A (Pq p c i) j:=congrArg (fun r=>gv r j) (Lw zo zo)
 unfold vZ
 rw [key]
 have e:(j < c ∧ j < i) ↔ (j < c ∧ j < Pq p c i):=by unfold Pq; split <;> (try split) <;> omega
 by_cases h:j < c ∧ j < i
 ·rw [if_pos h,if_pos (e.1 h)]
 ·rw [if_neg h,if_neg (fun k=>h (e.2 k))]
structure EL (M A:List (List Qi)) (n m c:Nat):Prop where
 sh:eE A n m
 ker:∀ x,wW (vZ A c) n m x ↔ wW (gm M) n m x
theorem EL.next {M A:List (List Qi)} {n m c p:Nat} (h:EL M A n m c) (hc:c < n) (hcm:c < m) (hcp:c ≤ p) (hp:p < n) (hz:gm A p c ≠ 0):EL M (nG (if p = c then A else swp [] A p c) c n) n m (c + 1):=by
 have hl:=h.sh.1
 obtain ⟨B,hB⟩:∃ B,B = if p = c then A else swp [] A p c:=⟨_,rfl⟩
 have hs : eE B n m := by
  rw [hB]; split
  ·exact h.sh
  ·exact xB h.sh hp hc
 have hBk : ∀ x, wW (vZ B c) n m x ↔ wW (gm M) n m x := fun x => by
  rw [hB]; split
  ·exact h.ker x
  ·exact (Cm (G:=fun i=>vZ A c (Pq p c i)) fun i hi j hj=>a1m zo zo hcp).trans ((Kb hp hc).trans (h.ker x))
 have hBz : gm B c c ≠ 0 := by
  rw [hB]; split
  ·rename_i e; rw [← e] at hz ⊢; exact hz
  ·show gv (dB (swp [] A p c) c) c ≠ 0
   rw [yH zo]; exact hz
 rw [← hB]
 refine ⟨Kf hs,fun x=>(Va (f:=fun i=>gm B i c / gm B c c) hc fun i hi j hj=>?_).trans (hBk x)⟩
 have hd:=yK (x:=gm B i c) hBz
 unfold vZ
 rw [a1h hs hi hj]
 by_cases e:c < i
 ·rw [if_pos e]
  by_cases e1:j < c
  ·rw [if_pos zo,if_pos zo,if_pos zo]; grind
  ·by_cases e2 : j = c
   ·subst e2
    rw [if_pos zo,if_neg zo,if_neg zo]; grind
   ·rw [if_neg zo,if_pos zo,if_neg zo,if_neg zo]
 ·rw [if_neg e, if_neg (show ¬ (c < i ∧ c < j) from fun k => e k.1)]
  by_cases e1:j < i
  ·rw [if_pos (show j < c + 1 ∧ j < i by omega),if_pos (show j < c ∧ j < i by omega)]
  ·rw [if_neg (show ¬ (j < c + 1 ∧ j < i) by omega),if_neg (show ¬ (j < c ∧ j < i) by omega)]
theorem He {M : List (List Qi)} {n m : Nat} (hs : eE M n m) (hnm : n ≤ m) : ∀ {c : Nat}, c ≤ n → (dI M c).2.2 < 0 → EL M (dI M c).1 n m c
 | 0,_,_=>⟨hs,fun x=>Cm fun i _ j _=>by unfold vZ; rw [if_neg zo]; rfl⟩
 | c + 1, hc, h => by
  obtain ⟨i1,i2,i3,i4⟩:=mW (M:=(dI M c).1) (c:=c) (n:=M.length) (by rw [hs.1]; omega)
  simp only [dI] at h ⊢
  by_cases e:0 ≤ (dI M c).2.2
  ·rw [if_pos e] at h; omega
  ·rw [if_neg e] at h ⊢
   have ih:=He hs hnm (c:=c) zo zo
   by_cases e2:pv (dI M c).1 c M.length = M.length
   ·rw [if_pos e2] at h; simp only at h; omega
   ·rw [if_neg e2]
    rw [hs.1] at i3 i4 e2 ⊢
    exact ih.next zo zo (by rw [hs.1] at i2; exact i2) zo (i4 zo)
theorem Fx {M : List (List Qi)} : ∀ {n : Nat}, 0 ≤ (dI M n).2.2 → ∃ c, c < n ∧ (dI M c).2.2 < 0 ∧ pv (dI M c).1 c M.length = M.length
 | 0,h=>absurd h (by show ¬ (0:Int) ≤ -1; omega)
 | c + 1, h => by
  by_cases e:0 ≤ (dI M c).2.2
  ·obtain ⟨d, h1, h2⟩ := Fx e
   exact ⟨d,by omega,h2⟩
  ·simp only [dI] at h
   rw [if_neg e] at h
   by_cases e2:pv (dI M c).1 c M.length = M.length
   ·exact ⟨c,by omega,by omega,e2⟩
   ·rw [if_neg e2] at h; simp only at h; omega
theorem vH {U : List (List Qi)} {x y : List Qi} {n c : Nat} : ∀ {K : Nat}, (∀ k, k < K → gv x (c + 1 + k) = gv y (c + 1 + k)) → oH U x n c K = oH U y n c K
 | 0,_=>rfl
 | K + 1,h=>by rw [oH,oH,vH (fun k hk=>h k zo),h K zo]
theorem Kr (U : List (List Qi)) (x : List Qi) (n c : Nat) : ∀ K, oH U x n c K = gm U c n - aF K (fun k => gm U c (c + 1 + k) * gv x (c + 1 + k))
 | 0=>by simp only [oH,aF,q0]; grind
 | K + 1=>by simp only [oH,aF,Kr U x n c K]; grind
theorem Xl {U : List (List Qi)} {n : Nat} : ∀ {j : Nat}, j ≤ n → ∀ c, n - j ≤ c → c < n → gv (pX U n j) c = oH U (pX U n j) n c (n - 1 - c) / gm U c c
 | 0,_,c,h1,h2=>by omega
 | j + 1, hj, c, h1, h2 => by
  have hl:=wL U n j
  rw [pX]
  by_cases e:c = n - (j + 1)
  ·subst e
   rw [yX zo,if_pos rfl,show n - 1 - (n - (j + 1)) = j by omega]
   rw [vH (x:=(pX U n j).set _ _) (y:=pX U n j) fun k hk=>by rw [yX zo,if_neg zo]]
  ·rw [yX zo, if_neg e, Xl (j := j) zo c zo h2]
   rw [vH (x:=(pX U n j).set _ _) (y:=pX U n j) fun k hk=>by rw [yX zo,if_neg zo]]
theorem sT (a : Nat) (f : Nat → Qi) : ∀ b, aF (a + b) f = aF a f + aF b fun k => f (a + k)
 | 0=>by simp only [aF,q0,Nat.add_zero]; grind
 | b + 1=>by rw [← Nat.add_assoc]; simp only [aF,sT a f b]; grind
theorem Pl {U:List (List Qi)} {n i:Nat} (hi:i < n) (y:Nat → Qi):aF n (fun k=>vZ U n i k * y k) = gm U i i * y i + aF (n - 1 - i) fun k=>gm U i (i + 1 + k) * y (i + 1 + k):=by
 have e:n = i + 1 + (n - 1 - i):=by omega
 have h1:aF i (fun k=>vZ U n i k * y k) = 0:=kO fun k hk=>by unfold vZ; rw [if_pos zo]; grind
 have h2:vZ U n i i = gm U i i:=by unfold vZ; rw [if_neg zo]
 have h3:aF (n - 1 - i) (fun k=>vZ U n i (i + 1 + k) * y (i + 1 + k)) = aF (n - 1 - i) fun k=>gm U i (i + 1 + k) * y (i + 1 + k):=bA fun k hk=>by unfold vZ; rw [if_neg zo]
 have h4:=sT (i + 1) (fun k=>vZ U n i k * y k) (n - 1 - i)
 rw [← e] at h4
 rw [h4,h3]
 simp only [aF,h1,h2]; grind
theorem Pa {U:List (List Qi)} {n i:Nat} (hd:∀ j,j < n → gm U j j ≠ 0) (hi:i < n):aF n (fun k=>vZ U n i k * gv (pX U n n) k) = gm U i n:=by
 rw [Pl hi,Xl (Nat.le_refl n) i zo hi,Kr]
 have:=yK (x:=gm U i n - aF (n - 1 - i) (fun k=>gm U i (i + 1 + k) * gv (pX U n n) (i + 1 + k))) (hd i hi)
 grind
theorem Ld {U : List (List Qi)} {n : Nat} (hd : ∀ j, j < n → gm U j j ≠ 0) {y : Nat → Qi} (h : ∀ i, i < n → aF n (fun k => vZ U n i k * y k) = 0) : ∀ t k, n - t ≤ k → k < n → y k = 0
 | 0,k,h1,h2=>by omega
 | t + 1, k, h1, h2 => by
  have h3:=h k h2
  rw [Pl h2,kO (fun j hj=>by rw [Ld hd h t (k + 1 + j) zo zo]; grind)] at h3
  rcases oA (x:=gm U k k) (y:=y k) (by grind) with h4 | h4
  ·exact absurd h4 (hd k h2)
  ·exact h4
theorem oC {M:List (List Qi)} {b:List Qi} {n:Nat} (h:eE M n n) (hE:kA M b n = 0):(∀ i,i < n → aF n (fun k=>gm M i k * gv (lA M b n) k) = gv b i) ∧ ∀ y:Nat → Qi,(∀ i,i < n → aF n (fun k=>gm M i k * y k) = 0) → ∀ k,k < n → y k = 0:=by
 have hcs:eE (kB M [b] n) n (n + 1):=lS h
 have hst : (uT M b n).2.2 < 0 := by
  unfold kA at hE
  by_cases e:0 ≤ (uT M b n).2.2
  ·rw [if_pos e] at hE; omega
  ·omega
 have hg:=He hcs (Nat.le_succ n) (Nat.le_refl n) hst
 have hd:=rK hcs (Nat.le_refl n) hst
 obtain ⟨U,hU⟩:∃ U,U = (uT M b n).1:=⟨_,rfl⟩
 have hX:lA M b n = pX U n n:=by rw [hU]; rfl
 have hU2:(dI (kB M [b] n) n).1 = U:=hU.symm
 rw [hU2] at hg hd
 rw [hX]
 refine ⟨fun i hi=>?_,fun y hy k hk=>?_⟩
 ·have h1 := (hg.ker fun k => if k < n then gv (pX U n n) k else -1).1 (fun i hi => by
   simp only [aF]
   rw [bA (g:=fun k=>vZ U n i k * gv (pX U n n) k) (fun k hk=>by rw [if_pos hk]),Pa hd hi,if_neg zo,show vZ U n i n = gm U i n by unfold vZ; rw [if_neg zo]]
   grind) i hi
  rw [yU h hi,bA (g:=fun k=>gm M i k * gv (pX U n n) k) (fun k hk=>by rw [if_pos hk]),if_neg zo] at h1
  grind
 ·have h1 := (hg.ker fun k => if k < n then y k else 0).2 (fun i hi => by
   rw [yU h hi,bA (g:=fun k=>gm M i k * y k) (fun k hk=>by rw [if_pos hk]),if_neg zo,hy i hi]; grind)
  refine Ld (y:=y) hd (fun i hi=>?_) n k zo hk
  have h2:=h1 i hi
  simp only [aF] at h2
  rw [bA (g:=fun k=>vZ U n i k * y k) (fun k hk=>by rw [if_pos hk]),if_neg zo] at h2
  grind
theorem xI {M:List (List Qi)} {b:List Qi} {n:Nat} (h:eE M n n) (hE:kA M b n ≠ 0):∃ y:Nat → Qi,(∀ i,i < n → aF n (fun k=>gm M i k * y k) = 0) ∧ ∃ k,k < n ∧ y k ≠ 0:=by
 have hcs:eE (kB M [b] n) n (n + 1):=lS h
 have hst : 0 ≤ (uT M b n).2.2 := by
  unfold kA at hE
  by_cases e:0 ≤ (uT M b n).2.2
  ·exact e
  ·rw [if_neg e] at hE; exact absurd rfl hE
 obtain ⟨c,hc,hA,hp⟩:=Fx hst
 have hg:=He hcs (Nat.le_succ n) zo hA
 have hd:=rK hcs zo hA
 obtain ⟨U,hU⟩:∃ U,U = (dI (kB M [b] n) c).1:=⟨_,rfl⟩
 rw [← hU] at hg hd hp
 rw [hcs.1] at hp
 have hz:=(mW (M:=U) (c:=c) (n:=n) zo).1
 rw [hp] at hz
 have key := (hg.ker fun k => if k < c then gv (pX U c c) k else if k = c then -1 else 0).1 (fun i hi => by
  have e:n + 1 = c + (1 + (n - c)):=by omega
  rw [e,sT,sT]
  have z3:aF (n - c) (fun k=>vZ U c i (c + (1 + k)) * (if c + (1 + k) < c then gv (pX U c c) (c + (1 + k)) else if c + (1 + k) = c then -1 else 0)) = 0:=kO fun k hk=>by rw [if_neg zo,if_neg zo]; grind
  have z2 : aF 1 (fun k => vZ U c i (c + k) * (if c + k < c then gv (pX U c c) (c + k) else if c + k = c then -1 else 0)) = vZ U c i c * -1 := by
   rw [Dh,if_neg zo,if_pos zo]; rfl
  have z1:aF c (fun k=>vZ U c i k * (if k < c then gv (pX U c c) k else if k = c then -1 else 0)) = aF c (fun k=>vZ U c i k * gv (pX U c c) k):=bA fun k hk=>by rw [if_pos hk]
  rw [z1,z2,z3]
  have zc:vZ U c i c = gm U i c:=by unfold vZ; rw [if_neg zo]
  rw [zc]
  by_cases e2:i < c
  ·rw [Pa hd e2]; grind
  ·rw [hz i zo hi,kO (fun k hk=>by unfold vZ; rw [if_pos zo]; grind),q0]; grind)
 refine ⟨fun k=>if k < c then gv (pX U c c) k else if k = c then -1 else 0,fun i hi=>?_,c,hc,?_⟩
 ·have h1 := key i hi
  rw [yU h hi,if_neg zo,if_neg zo] at h1
  grind
 ·show (if c < c then gv (pX U c c) c else if c = c then (-1 : Qi) else 0) ≠ 0
  rw [if_neg zo,if_pos rfl]
  intro e
  exact absurd (congrArg Qi.re e) (by decide)
theorem a3M {M:List (List Qi)} {b:List Qi} {n:Nat} (h:eE M n n):kA M b n = Fm M b n ∧ (kA M b n = 0 → lA M b n = Sl M b n):=by
 by_cases hE:kA M b n = 0
 ·obtain ⟨h1, h2⟩ := oC h hE
  cases hX:Ri M b n with
  | none =>
   obtain ⟨y,h3,k,h4,h5⟩:=Ll h hX
   exact absurd (h2 y h3 k h4) h5
  | some X =>
   obtain ⟨h3,h4,_⟩:=sU h hX
   refine ⟨by rw [hE]; simp only [Fm,hX,Option.isSome_some,if_true],fun _=>?_⟩
   simp only [Sl,hX,Option.getD_some]
   have hk : ∀ k, k < n → gv (lA M b n) k = gv X k := fun k hk => by
    have := h2 (fun k => gv (lA M b n) k - 1 * gv X k) (fun i hi => by
     have e:aF n (fun k=>gm M i k * (gv (lA M b n) k - 1 * gv X k)) = aF n (fun k=>gm M i k * gv (lA M b n) k - 1 * (gm M i k * gv X k)):=bA fun k _=>by grind
     rw [e,qW,h1 i hi,h4 i hi]; grind) k hk
    grind
   have hl:(lA M b n).length = n:=wL _ _ _
   apply List.ext_getElem?
   intro k
   by_cases c:k < n
   ·have := hk k c
    simp only [gv,List.getD] at this
    rw [List.getElem?_eq_getElem zo,List.getElem?_eq_getElem zo] at this ⊢
    exact congrArg some this
   ·rw [List.getElem?_eq_none zo,List.getElem?_eq_none zo]
 ·obtain ⟨y, h3, k, h4, h5⟩ := xI (b := b) h hE
  have h6 : kA M b n = 6 := by
   unfold kA at hE ⊢
   split
   ·rfl
   ·rename_i e; rw [if_neg e] at hE; exact absurd rfl hE
  refine ⟨?_,fun e=>absurd e hE⟩
  cases hX:Ri M b n with
  | none=>rw [h6]; simp only [Fm,hX,Option.isSome_none]; rfl
  | some X =>
   obtain ⟨_,_,h7⟩:=sU h hX
   exact absurd (h7 y h3 k h4) h5
end
section
open Go Go.RowKit
def gq (ps:List (Nat × Nat)) (x:Nat):Nat:=if x % 2 = 0 then pA ps (x / 2) else pB ps (x / 2)
def iM (x:Nat):Nat:=if x % 2 = 0 then x + 1 else x - 1
theorem Qb (x:Nat):iM (iM x) = x:=by unfold iM; split <;> split <;> omega
theorem nN {x k:Nat} (h:x < 2 * k):iM x < 2 * k:=by unfold iM; split <;> omega
theorem rO (ps:List (Nat × Nat)) (k:Nat):gq ps (2 * k) = pA ps k:=by unfold gq; rw [if_pos zo,show 2 * k / 2 = k by omega]
theorem vE (ps:List (Nat × Nat)) (k:Nat):gq ps (2 * k + 1) = pB ps k:=by unfold gq; rw [if_neg zo,show (2 * k + 1) / 2 = k by omega]
structure Jn (ps:List (Nat × Nat)) (n K:Nat):Prop where
 lt:∀ x,x < 2 * K → gq ps x < n
 inj:∀ x y,x < 2 * K → y < 2 * K → gq ps x = gq ps y → x = y
theorem Jn.le {ps:List (Nat × Nat)} {n K k:Nat} (h:Jn ps n K) (hk:k ≤ K):Jn ps n k:=⟨fun x hx=>h.lt x zo,fun x y hx hy=>h.inj x y zo zo⟩
theorem Xb {l:List Int} {t j:Nat} {v:Int} (ht:t < l.length):tv (l.set t v) j = if j = t then v else tv l j:=by
 simp only [tv,List.getD]
 by_cases e:j = t
 ·subst e; rw [if_pos rfl,List.getElem?_set_self ht]; rfl
 ·rw [if_neg e,List.getElem?_set_ne (Ne.symm e)]
theorem Rz {ps : List (Nat × Nat)} {n : Nat} : ∀ {k : Nat}, Jn ps n k → (∀ x, x < 2 * k → tv (qO n ps k) (gq ps x) = (gq ps (iM x) : Int)) ∧ ∀ j, j < n → (∀ x, x < 2 * k → gq ps x ≠ j) → tv (qO n ps k) j = -1
 | 0,_=>⟨fun x h=>by omega,fun j hj _=>by rw [qO,tv,List.getD,bS hj]; rfl⟩
 | k + 1, h => by
  obtain ⟨i1,i2⟩:=Rz (h.le (Nat.le_succ k))
  have hl:=rN n ps k
  have ha:=h.lt (2 * k) zo
  have hb:=h.lt (2 * k + 1) zo
  rw [rO] at ha
  rw [vE] at hb
  have key : ∀ j, tv (qO n ps (k + 1)) j = if j = pB ps k then (pA ps k : Int) else if j = pA ps k then (pB ps k : Int) else tv (qO n ps k) j := fun j => by
   rw [qO,Xb (by rw [List.length_set]; omega),Xb zo]
  refine ⟨fun x hx=>?_,fun j hj hx=>?_⟩
  ·rw [key]
   by_cases e1:x = 2 * k + 1
   ·subst e1
    rw [if_pos (vE ps k),show iM (2 * k + 1) = 2 * k by unfold iM; split <;> omega,rO]
   ·have n1 : ¬ gq ps x = pB ps k := fun e => e1 (h.inj x (2 * k + 1) hx zo (by rw [e, vE]))
    rw [if_neg n1]
    by_cases e2:x = 2 * k
    ·subst e2
     rw [if_pos (rO ps k),show iM (2 * k) = 2 * k + 1 by unfold iM; split <;> omega,vE]
    ·have n2 : ¬ gq ps x = pA ps k := fun e => e2 (h.inj x (2 * k) hx zo (by rw [e, rO]))
     rw [if_neg n2]; exact i1 x zo
  ·rw [key, if_neg (fun e => hx (2 * k + 1) zo (by rw [vE]; exact e.symm)), if_neg (fun e => hx (2 * k) zo (by rw [rO]; exact e.symm))]
   exact i2 j hj fun x hx2=>hx x zo
theorem a2m {ps:List (Nat × Nat)} {n K:Nat} (h:Jn ps n K) {j:Nat} (hj:j < n):tv (qO n ps K) j < n:=by
 obtain ⟨i1,i2⟩:=Rz h
 by_cases e:∃ x,x < 2 * K ∧ gq ps x = j
 ·obtain ⟨x, hx, rfl⟩ := e
  rw [i1 x hx]; have:=h.lt (iM x) (nN hx); omega
 ·rw [i2 j hj fun x hx hxj=>e ⟨x,hx,hxj⟩]; omega
theorem Ha {ps:List (Nat × Nat)} {n K:Nat} (h:Jn ps n K) (S:List (List Qi)) (x:Nat → Qi) (i:Nat):aF n (cnT S (qO n ps K) x i) = aF (2 * K) fun y=>gm S i (gq ps y) * x (gq ps (iM y)):=by
 obtain ⟨i1,i2⟩:=Rz h
 have e1 : aF n (cnT S (qO n ps K) x i) = aF n fun j => aF (2 * K) fun y => if gq ps y = j then gm S i (gq ps y) * x (gq ps (iM y)) else 0 := bA fun j hj => by
  by_cases e:∃ y,y < 2 * K ∧ gq ps y = j
  ·obtain ⟨y, hy, rfl⟩ := e
   rw [fP hy (fun k hk hky=>if_neg fun e=>hky (h.inj k y hk hy e)),if_pos rfl,cnT,i1 y hy,if_neg zo,Int.toNat_natCast]
  ·rw [kO (fun y hy=>if_neg fun e2=>e ⟨y,hy,e2⟩),cnT,i2 j hj fun y hy e2=>e ⟨y,hy,e2⟩,if_pos zo]
 rw [e1,rA]
 exact bA fun y hy=>by rw [fP (h.lt y hy) (fun j _ hj=>if_neg (Ne.symm hj)),if_pos rfl]
def mU (S:List (List Qi)) (ps:List (Nat × Nat)) (m:Nat):List (List Qi):=tab m fun x=>tab m fun y=>(if x = y then Qi.ofInt 1 else Qi.ofInt 0) - gm S (gq ps (iM x)) (gq ps y)
def Dk (S:List (List Qi)) (ps:List (Nat × Nat)) (m b:Nat):List Qi:=tab m fun x=>gm S (gq ps (iM x)) b
theorem mZ (S:List (List Qi)) (ps:List (Nat × Nat)) (m:Nat):eE (mU S ps m) m m:=eE.tab
theorem Av {S:List (List Qi)} {ps:List (Nat × Nat)} {m x:Nat} (hx:x < m) (v:Nat → Qi):aF m (fun y=>gm (mU S ps m) x y * v y) = v x - aF m fun y=>gm S (gq ps (iM x)) (gq ps y) * v y:=by
 have e : ∀ y, y < m → gm (mU S ps m) x y * v y = (if y = x then v x else 0) - 1 * (gm S (gq ps (iM x)) (gq ps y) * v y) := fun y hy => by
  have : gm (mU S ps m) x y = (if x = y then Qi.ofInt 1 else Qi.ofInt 0) - gm S (gq ps (iM x)) (gq ps y) := by
   show gv ((mU S ps m).getD x []) y = _
   rw [mU,rI hx,mI hy]
  rw [this]
  by_cases c:y = x
  ·subst c; rw [if_pos rfl,if_pos rfl,q1]; grind
  ·rw [if_neg c,if_neg (Ne.symm c),show Qi.ofInt 0 = (0:Qi) from rfl]; grind
 rw [bA e,qW,fP hx (fun k _ hk=>if_neg hk),if_pos rfl]; grind
theorem a3B {S:List (List Qi)} {ps:List (Nat × Nat)} {m b x:Nat} (hx:x < m):gv (Dk S ps m b) x = gm S (gq ps (iM x)) b:=mI hx
def Dj (S:List (List Qi)) (ps:List (Nat × Nat)) (m a b:Nat):Qi:=gm S a b + aF m fun y=>gm S a (gq ps y) * gv (lA (mU S ps m) (Dk S ps m b) m) y
theorem a34 {ps : List (Nat × Nat)} {n K : Nat} (h : Jn ps n K) {S : List (List Qi)} {v : Nat → Qi} (hv : ∀ x, x < 2 * K → aF (2 * K) (fun y => gm (mU S ps (2 * K)) x y * v y) = 0) :
  Cyc S (qO n ps K) n (fun i=>aF (2 * K) fun y=>gm S i (gq ps y) * v y):=fun i hi=>by
 have e : ∀ x, x < 2 * K → aF (2 * K) (fun y => gm S (gq ps (iM x)) (gq ps y) * v y) = v x := fun x hx => by
  have:=hv x hx
  rw [Av hx] at this
  grind
 rw [Ha h,bA (g:=fun y=>gm S i (gq ps y) * v y) (fun y hy=>by rw [e y hy])]; grind
theorem a2G {ps:List (Nat × Nat)} {n K:Nat} (h:Jn ps n K) {S:List (List Qi)} {lf:List Nat} {b:List Qi} (hl:1 ≤ lf.length) (hE:kA (mU S ps (2 * K)) b (2 * K) ≠ 0):Uo S (qO n ps K) n lf = 6:=by
 obtain ⟨v,h1,k,h2,h3⟩:=xI (mZ S ps (2 * K)) hE
 refine a3m (fun j hj=>a2m h hj) hl (a34 h h1) (h.lt (iM k) (nN h2)) ?_
 have:=h1 k h2
 rw [Av h2] at this
 intro e
 exact h3 (by grind)
theorem a4f {ps : List (Nat × Nat)} {n K : Nat} (h : Jn ps n K) {S : List (List Qi)} {lf : List Nat} (hl : ∀ y, y < lf.length → lf.getD y 0 < n) (h1 : 1 ≤ lf.length) (hE : ∀ y, y < lf.length → kA (mU S ps (2 * K)) (Dk S ps (2 * K) (lf.getD y 0)) (2 * K) = 0) :
  Uo S (qO n ps K) n lf = 0 ∧ ∀ x y,x < lf.length → y < lf.length → Si S (qO n ps K) n lf x y = Dj S ps (2 * K) (lf.getD x 0) (lf.getD y 0):=by
 have hs:=mZ S ps (2 * K)
 have e : ∀ y, y < lf.length → ∀ x, x < 2 * K → Dj S ps (2 * K) (gq ps (iM x)) (lf.getD y 0) = gv (lA (mU S ps (2 * K)) (Dk S ps (2 * K) (lf.getD y 0)) (2 * K)) x := fun y hy x hx => by
  have:=(oC hs (hE y hy)).1 x hx
  rw [Av hx,a3B hx] at this
  rw [Dj]; grind
 obtain ⟨c1, c2⟩ := a4D (S := S) (to := qO n ps K) (n := n) (lf := lf) (u := fun y i => Dj S ps (2 * K) i (lf.getD y 0)) (fun j hj => a2m h hj)
  (fun y hy i hi => by
   rw [Ha h,bA (g:=fun k=>gm S i (gq ps k) * gv (lA (mU S ps (2 * K)) (Dk S ps (2 * K) (lf.getD y 0)) (2 * K)) k) (fun k hk=>by rw [e y hy k hk])]
   show Dj S ps (2 * K) i (lf.getD y 0) - _ = _
   rw [Dj]; grind)
  (fun x hx k hk => by
   have hv := (oC hs (hE 0 h1)).2 (fun y => x (gq ps (iM y))) (fun z hz => by
    rw [Av hz]
    have:=hx (gq ps (iM z)) (h.lt _ (nN hz))
    rw [Ha h] at this
    exact this)
   have:=hx k hk
   rw [Ha h,kO (fun y hy=>by rw [hv y hy]; grind)] at this
   grind)
 exact ⟨c1,fun x y hx hy=>c2 x y hy (hl x hx)⟩
theorem Px {ps : List (Nat × Nat)} {n K : Nat} (h : Jn ps n K) {G : List Nat} (hG : ∀ j, j ∈ G ↔ ∃ x, x < 2 * K ∧ gq ps x = j) : ∀ k, k ≤ n → uR (qO n ps K) k = nH G k
 | 0,_=>rfl
 | k + 1, hk => by
  obtain ⟨i1,i2⟩:=Rz h
  rw [uR,nH,Px h hG k zo]
  congr 1
  by_cases e:k ∈ G
  ·obtain ⟨x, hx, rfl⟩ := (hG k).1 e
   rw [i1 x hx,if_neg zo,if_pos e]
  ·rw [i2 k zo fun x hx hxk=>e ((hG k).2 ⟨x,hx,hxk⟩),if_pos zo,if_neg e]
end
section
open Go Go.RowKit
def eI (n:Nat) (p:Int) (o:List Int):Int:=if ¬ (1 ≤ p ∧ p ≤ n) then 1 else if (o.any fun x=>decide (p = x)) = true then 8 else 0
def pL (n:Nat) (l:List Int):Int:=jV (fun i=>eI n (l.getD i 0) (l.take i)) l.length
def a4J (l:List Int):List Nat:=l.map fun p=>(p - 1).toNat
theorem wZ {n:Nat} {p:Int} {o:List Int} (h:eI n p o = 0):1 ≤ p ∧ p ≤ n:=by
 unfold eI at h
 split at h
 ·omega
 ·rename_i c; exact Decidable.not_not.1 c
theorem Cu {n : Nat} {l : List Int} (h : pL n l = 0) : ∀ x, x ∈ l → 1 ≤ x ∧ x ≤ n := fun x hx => by
 obtain ⟨i,hi,e⟩:=List.getElem_of_mem hx
 have:=wZ (gM h i hi)
 rw [show l.getD i 0 = x by rw [List.getD,List.getElem?_eq_getElem hi,e]; rfl] at this
 exact this
theorem Yd {n:Nat} {l:List Int} (h:pL n l = 0):l.map (aP .i64) = ((a4J l).map Nat.succ).map (NT .i64):=by
 rw [a4J,List.map_map,List.map_map]
 refine List.map_congr_left fun p hp=>?_
 have:=Cu h p hp
 show aP .i64 p = aP .i64 (((p - 1).toNat + 1:Nat):Int)
 congr 1; omega
theorem Wz (z:List Qi) (Q:List Nat):(zP z Q).length = Q.length:=aC _ _
theorem Vr {z:List Qi} {Q:List Nat} {L:Nat} (h:dD z L) (hL:1 ≤ L):dD (zP z Q) L:=dD.tab fun i _=>h.get hL _
end
section
open Go Go.RowKit
def lC (js:List (Int × Int)):List Int:=js.flatMap fun q=>[q.1,q.2]
def cC (js:List (Int × Int)):List (Nat × Nat):=js.map fun q=>((q.1 - 1).toNat,(q.2 - 1).toNat)
abbrev iG (js:List (Int × Int)) (k:Nat):Int × Int:=js.getD k (0,0)
theorem a0b (a b:List (Int × Int)):lC (a ++ b) = lC a ++ lC b:=by simp [lC]
theorem sO {js:List (Int × Int)} {k:Nat} (h:k < js.length):lC (js.take (k + 1)) = lC (js.take k) ++ [(iG js k).1,(iG js k).2]:=by
 rw [List.take_succ_eq_append_getElem h,a0b]
 simp [lC,iG,List.getD,h]
theorem nD : ∀ (js : List (Int × Int)), (lC js).length = 2 * js.length
 | []=>rfl
 | q :: r => by
  have:=nD r
  have e:lC (q :: r) = q.1 :: q.2 :: lC r:=rfl
  rw [e,List.length_cons,List.length_cons,List.length_cons,this]; omega
theorem Pd : ∀ (js : List (Int × Int)) {x : Nat}, x < 2 * js.length → (lC js).getD x 0 = if x % 2 = 0 then (iG js (x / 2)).1 else (iG js (x / 2)).2
 | [],x,h=>by simp at h
 | q :: r,0,_=>rfl
 | q :: r,1,_=>rfl
 | q :: r, x + 2, h => by
  have ih:=Pd r (x:=x) (by simp only [List.length_cons] at h; omega)
  have e:lC (q :: r) = q.1 :: q.2 :: lC r:=rfl
  rw [e]
  show (lC r).getD x 0 = _
  rw [ih,show (x + 2) % 2 = x % 2 by omega,show (x + 2) / 2 = x / 2 + 1 by omega]
  rfl
theorem Mx {js:List (Int × Int)} {k:Nat} (h:k < js.length):pA (cC js) k = ((iG js k).1 - 1).toNat ∧ pB (cC js) k = ((iG js k).2 - 1).toNat:=by
 simp [pA,pB,cC,iG,List.getD,h]
theorem jgq {js:List (Int × Int)} {x:Nat} (h:x < 2 * js.length):gq (cC js) x = ((lC js).getD x 0 - 1).toNat:=by
 have h2:x / 2 < js.length:=by omega
 rw [Pd js h,gq,(Mx h2).1,(Mx h2).2]
 split <;> rfl
theorem Lf {n:Nat} {A:List Int} (h:pL n A = 0) (a:Int):pL n (A ++ [a]) = eI n a A:=by
 rw [pL,List.length_append,List.length_singleton]
 have e : jV (fun i => eI n ((A ++ [a]).getD i 0) ((A ++ [a]).take i)) A.length = 0 := gO fun i hi => by
  have:=gM h i hi
  rw [List.take_append_of_le_length zo]
  have e2:(A ++ [a]).getD i 0 = A.getD i 0:=by simp [List.getD,List.getElem?_append_left hi]
  rw [e2]; exact this
 rw [jV,e,if_neg (by simp),List.take_append_of_le_length (Nat.le_refl _),List.take_length]
 congr 1
 simp [List.getD]
theorem Fy {n:Nat} {A:List Int} (h:pL n A = 0) (a b:Int):pL n (A ++ [a,b]) = if eI n a A ≠ 0 then eI n a A else eI n b (A ++ [a]):=by
 have e:A ++ [a,b] = (A ++ [a]) ++ [b]:=by simp
 by_cases c:eI n a A = 0
 ·rw [if_neg (fun k=>k c),e,Lf (by rw [Lf h]; exact c)]
 ·rw [if_pos c]
  have h1 : jV (fun i => eI n ((A ++ [a, b]).getD i 0) ((A ++ [a, b]).take i)) A.length = 0 := gO fun i hi => by
   have:=gM h i hi
   rw [List.take_append_of_le_length zo]
   have e2:(A ++ [a,b]).getD i 0 = A.getD i 0:=by simp [List.getD,List.getElem?_append_left hi]
   rw [e2]; exact this
  have h2 : eI n ((A ++ [a, b]).getD A.length 0) ((A ++ [a, b]).take A.length) = eI n a A := by
   rw [List.take_append_of_le_length (Nat.le_refl _),List.take_length]
   congr 1
   simp [List.getD]
  rw [pL,lO (k:=A.length) (fun i hi=>gM h1 i hi) (by rw [h2]; exact c) (by simp)]
  exact h2
def qZ (z : List Qi) (js : List (Int × Int)) (k : Nat) : Int :=
 if eI z.length (iG js k).1 (lC (js.take k)) ≠ 0 then eI z.length (iG js k).1 (lC (js.take k))
 else if eI z.length (iG js k).2 (lC (js.take k) ++ [(iG js k).1]) ≠ 0 then eI z.length (iG js k).2 (lC (js.take k) ++ [(iG js k).1])
 else if gv z ((iG js k).1 - 1).toNat = gv z ((iG js k).2 - 1).toNat then 0 else 40
def sW (z:List Qi) (js:List (Int × Int)):Int:=jV (qZ z js) js.length
theorem Ze {z:List Qi} {js:List (Int × Int)} {k:Nat} (h:qZ z js k = 0):eI z.length (iG js k).1 (lC (js.take k)) = 0 ∧ eI z.length (iG js k).2 (lC (js.take k) ++ [(iG js k).1]) = 0 ∧ gv z ((iG js k).1 - 1).toNat = gv z ((iG js k).2 - 1).toNat:=by
 unfold qZ at h
 by_cases c1:eI z.length (iG js k).1 (lC (js.take k)) = 0
 ·rw [if_neg (fun k => k c1)] at h
  by_cases c2:eI z.length (iG js k).2 (lC (js.take k) ++ [(iG js k).1]) = 0
  ·rw [if_neg (fun k => k c2)] at h
   by_cases c3:gv z ((iG js k).1 - 1).toNat = gv z ((iG js k).2 - 1).toNat
   ·exact ⟨c1,c2,c3⟩
   ·rw [if_neg c3] at h; omega
  ·rw [if_pos c2] at h; exact absurd h c2
 ·rw [if_pos c1] at h; exact absurd h c1
theorem jpr {z : List Qi} {js : List (Int × Int)} : ∀ {k : Nat}, k ≤ js.length → (∀ j, j < k → qZ z js j = 0) → pL z.length (lC (js.take k)) = 0
 | 0,_,_=>rfl
 | k + 1, hk, h => by
  have ih:=jpr (z:=z) (js:=js) (k:=k) zo fun j hj=>h j zo
  obtain ⟨h1,h2,_⟩:=Ze (h k zo)
  rw [sO zo,Fy ih,if_neg (fun k=>k h1)]; exact h2
theorem Ru {z:List Qi} {js:List (Int × Int)} {k:Nat} (hk:k < js.length) (h:∀ j,j < k → qZ z js j = 0):qZ z js k = if pL z.length (lC (js.take (k + 1))) ≠ 0 then pL z.length (lC (js.take (k + 1))) else if gv z ((iG js k).1 - 1).toNat = gv z ((iG js k).2 - 1).toNat then 0 else 40:=by
 have hp:=jpr (z:=z) (Nat.le_of_lt hk) h
 rw [sO hk,Fy hp,qZ]
 by_cases c1:eI z.length (iG js k).1 (lC (js.take k)) = 0
 ·simp only [c1,ne_eq,not_true_eq_false,if_false,ite_false]
 ·simp only [c1,ne_eq,not_false_eq_true,if_true,ite_true]
theorem Gc {z:List Qi} {js:List (Int × Int)} (h:sW z js = 0):pL z.length (lC js) = 0:=by
 have:=jpr (z:=z) (Nat.le_refl js.length) (gM h)
 rwa [List.take_length] at this
theorem Ta {n : Nat} {p : Int} {o : List Int} (h : eI n p o = 0) : p ∉ o := fun hm => by
 have h1:=wZ h
 unfold eI at h
 rw [if_neg (fun k=>k h1),if_pos (List.any_eq_true.2 ⟨p,hm,by simp⟩)] at h
 omega
theorem a0a {n:Nat} {l:List Int} (h:pL n l = 0) {x y:Nat} (hx:x < l.length) (hy:y < l.length) (e:l.getD x 0 = l.getD y 0):x = y:=by
 have key : ∀ x y, x < y → y < l.length → l.getD x 0 ≠ l.getD y 0 := fun x y hxy hy e => by
  refine Ta (gM h y hy) ?_
  rw [← e]
  have e2:l.getD x 0 = l[x]'zo:=by simp [List.getD,show x < l.length by omega]
  rw [e2]
  exact List.mem_take_iff_getElem.2 ⟨x,by omega,rfl⟩
 rcases Nat.lt_trichotomy x y with c | c | c
 ·exact absurd e (key x y c hy)
 ·exact c
 ·exact absurd e.symm (key y x c hx)
theorem vA {z:List Qi} {js:List (Int × Int)} (h:sW z js = 0):Jn (cC js) z.length js.length:=by
 have hp:=Gc h
 have hl:=nD js
 have hr : ∀ x, x < 2 * js.length → 1 ≤ (lC js).getD x 0 ∧ (lC js).getD x 0 ≤ z.length := fun x hx => Cu hp _ (by
  rw [show (lC js).getD x 0 = (lC js)[x]'zo by simp [List.getD,show x < (lC js).length by omega]]; exact List.getElem_mem _)
 refine ⟨fun x hx=>?_,fun x y hx hy e=>?_⟩
 ·rw [jgq hx]; have:=hr x hx; omega
 ·rw [jgq hx, jgq hy] at e
  have h1:=hr x hx; have h2:=hr y hy
  exact a0a hp zo zo zo
def nJ (js:List (Int × Int)):List Nat:=(lC js).map fun p=>(p - 1).toNat
def eO (z:List Qi) (js:List (Int × Int)):List Nat:=nH (nJ js) z.length
def Ii (z:List Qi) (S:List (List Qi)) (js:List (Int × Int)):Int:=jV (fun y=>kA (mU S (cC js) (2 * js.length)) (Dk S (cC js) (2 * js.length) ((eO z js).getD y 0)) (2 * js.length)) (eO z js).length
def rQ (z : List Qi) (S : List (List Qi)) (js : List (Int × Int)) : Int :=
 if sW z js ≠ 0 then sW z js else if js.length = 0 then 0 else if 2 * js.length = z.length then 4 else if Ii z S js = 0 then 0 else 6
def a08 (z:List Qi) (js:List (Int × Int)):List Qi:=zP z (eO z js)
def Zr (z:List Qi) (S:List (List Qi)) (js:List (Int × Int)):List (List Qi):=tab (eO z js).length fun x=>tab (eO z js).length fun y=>Dj S (cC js) (2 * js.length) (gY (eO z js) x) (gY (eO z js) y)
def sF (z:List Qi) (S:List (List Qi)) (js:List (Int × Int)):List Qi:=dL (rQ z S js) (if js.length = 0 then z else a08 z js)
def uM (z:List Qi) (S:List (List Qi)) (js:List (Int × Int)):List (List Qi):=dL (rQ z S js) (if js.length = 0 then S else Zr z S js)
theorem Au (js:List (Int × Int)):(nJ js).length = 2 * js.length:=by rw [nJ,List.length_map,nD]
theorem Hk {js:List (Int × Int)} {j:Nat}:j ∈ nJ js ↔ ∃ x,x < 2 * js.length ∧ gq (cC js) x = j:=by
 constructor
 ·intro h
  obtain ⟨p,hp,rfl⟩:=List.mem_map.1 h
  obtain ⟨x,hx,e⟩:=List.getElem_of_mem hp
  have hl:=nD js
  refine ⟨x,by omega,?_⟩
  rw [jgq zo,show (lC js).getD x 0 = p by rw [← e]; simp [List.getD,hx]]
 ·rintro ⟨x, hx, rfl⟩
  have hl:=nD js
  rw [jgq hx]
  refine List.mem_map.2 ⟨(lC js).getD x 0,?_,rfl⟩
  rw [show (lC js).getD x 0 = (lC js)[x]'zo by simp [List.getD,show x < (lC js).length by omega]]; exact List.getElem_mem _
theorem a1U {z:List Qi} {js:List (Int × Int)} (h:sW z js = 0):uR (qO z.length (cC js) js.length) z.length = eO z js:=Px (vA h) (fun j=>Hk) z.length (Nat.le_refl _)
theorem Na {z : List Qi} {js : List (Int × Int)} {y : Nat} (hy : y < (eO z js).length) : (eO z js).getD y 0 < z.length := Ms (by
 rw [show (eO z js).getD y 0 = (eO z js)[y] by simp [List.getD,hy]]; exact List.getElem_mem hy)
end
section
open Go Go.RowKit
theorem Kp (M:List (List Qi)) (n:Nat):eE (Ks M n) n n:=eE.tab
theorem tL (M:List (List Qi)) (b:List Qi) (n:Nat):(lA M b n).length = n:=wL _ _ _
theorem Qx {M : List (List Qi)} {b : List Qi} {n L : Nat} (h : eE M n n) (hM : bR M L) (hb : dD b L) (hL : 1 ≤ L) (hE : kA M b n = 0) : dD (lA M b n) (qP (cE L n) n) := Xp h hM hb hL (by
 unfold kA at hE
 by_cases e:0 ≤ (uT M b n).2.2
 ·rw [if_pos e] at hE; omega
 ·omega)
theorem Ir {M:List (List Qi)} {n:Nat} (h:Lz M n = 0):∀ k,k < n → kA M (ek n k) n = 0:=gM h
theorem yP {G H : Nat} (h : G ≤ H) : ∀ j, qP G j ≤ qP H j
 | 0=>h
 | j + 1 => by
  have:=yP h j
  have h2:j * (qP G j + G + 2) ≤ j * (qP H j + H + 2):=Nat.mul_le_mul_left _ zo
  simp only [qP]; omega
theorem rS {n i j:Nat} (hi:i < n) (hj:j < n):gm (xU n) i j = if i = j then 1 else 0:=by
 show gv ((xU n).getD i []) j = _
 rw [xU,rI hi,mO,yX (by rw [aC]; exact hi)]
 by_cases e:j = i
 ·subst e; rw [if_pos rfl,if_pos rfl]; rfl
 ·rw [if_neg e,if_neg (Ne.symm e),mI hj]; rfl
theorem qE {a b:List (List Qi)} {n m:Nat} (ha:eE a n m) (hb:eE b n m) (h:∀ i,i < n → ∀ j,j < m → gm a i j = gm b i j):a = b:=by
 rw [uH ha,uH hb]
 exact cT fun i hi=>cT fun j hj=>h i hi j hj
end
section
open Go Go.RowKit
def Jg (q:Int × Int):List Int:=[q.1,q.2]
abbrev JT (q:Int × Int):Ty:=eP [aP .i64 q.1,aP .i64 q.2]
abbrev Js (js:List (Int × Int)):Ty:=kP 2 (js.map JT)
theorem a0o {q : Int × Int} : ∀ {i : Nat}, i < 2 → ([aP .i64 q.1, aP .i64 q.2] : List Ty)[i]? = some (aP .i64 ((Jg q).getD i 0))
 | 0,_=>rfl
 | 1,_=>rfl
theorem Wu {q : Int × Int} : ∀ {i : Nat}, i < 2 → (Jg q).take (i + 1) = (Jg q).take i ++ [(Jg q).getD i 0]
 | 0,_=>rfl
 | 1,_=>rfl
abbrev Hb (z:List Qi) (js:List (Int × Int)) (k i:Nat):Int:=eI z.length ((Jg (iG js k)).getD i 0) (lC (js.take k) ++ (Jg (iG js k)).take i)
theorem a4R {z : List Qi} {js : List (Int × Int)} {k : Nat} : ∀ {i : Nat}, i < 2 → (∀ x, x < i → Hb z js k x = 0) → Hb z js k i ≠ 0 → qZ z js k = Hb z js k i
 | 0, _, _, h => by
  have e:Hb z js k 0 = eI z.length (iG js k).1 (lC (js.take k)):=by simp [Hb,Jg]
  rw [e] at h ⊢
  rw [qZ,if_pos h]
 | 1, _, h0, h => by
  have e0:Hb z js k 0 = eI z.length (iG js k).1 (lC (js.take k)):=by simp [Hb,Jg]
  have e:Hb z js k 1 = eI z.length (iG js k).2 (lC (js.take k) ++ [(iG js k).1]):=by simp [Hb,Jg]
  have h1:=h0 0 zo
  rw [e0] at h1
  rw [e] at h ⊢
  rw [qZ,if_neg (fun k=>k h1),if_pos h]
theorem a4u {z : List Qi} {js : List (Int × Int)} {k : Nat} (h : ∀ x, x < 2 → Hb z js k x = 0) : (1 ≤ (iG js k).1 ∧ (iG js k).1 ≤ z.length) ∧ (1 ≤ (iG js k).2 ∧ (iG js k).2 ≤ z.length) ∧
  qZ z js k = if gv z ((iG js k).1 - 1).toNat = gv z ((iG js k).2 - 1).toNat then 0 else 40:=by
 have e0:Hb z js k 0 = eI z.length (iG js k).1 (lC (js.take k)):=by simp [Hb,Jg]
 have e:Hb z js k 1 = eI z.length (iG js k).2 (lC (js.take k) ++ [(iG js k).1]):=by simp [Hb,Jg]
 have h0:=h 0 zo
 have h1:=h 1 zo
 rw [e0] at h0
 rw [e] at h1
 exact ⟨wZ h0,wZ h1,by rw [qZ,if_neg (fun k=>k h0),if_neg (fun k=>k h1)]⟩
def zC (z:List Qi) (js:List (Int × Int)):Int:=if sW z js ≠ 0 then sW z js else if 0 < 2 * js.length ∧ 2 * js.length = z.length then 4 else 0
def jeL (z:List Qi) (js:List (Int × Int)):List Int:=dL (zC z js) (lC js)
theorem Hn {z:List Qi} {js:List (Int × Int)} (h:sW z js ≠ 0):zC z js = sW z js:=if_pos h
theorem Rm {z:List Qi} {js:List (Int × Int)} (h:sW z js = 0) (h2:0 < 2 * js.length ∧ 2 * js.length = z.length):zC z js = 4:=by rw [zC,if_neg (fun k=>k h),if_pos h2]
theorem Oi {z:List Qi} {js:List (Int × Int)} (h:sW z js = 0) (h2:¬ (0 < 2 * js.length ∧ 2 * js.length = z.length)):zC z js = 0:=by rw [zC,if_neg (fun k=>k h),if_neg h2]
theorem xQ {z:List Qi} {js:List (Int × Int)} (h:zC z js = 0):sW z js = 0 ∧ ¬ (0 < 2 * js.length ∧ 2 * js.length = z.length):=by
 unfold zC at h
 by_cases c:sW z js = 0
 ·refine ⟨c, fun h2 => ?_⟩
  rw [if_neg (fun k=>k c),if_pos h2] at h
  omega
 ·rw [if_pos c] at h; exact absurd h c
theorem Pn {z:List Qi} {S:List (List Qi)} {js:List (Int × Int)} (h:zC z js ≠ 0):rQ z S js = zC z js:=by
 unfold rQ zC at *
 by_cases c:sW z js ≠ 0
 ·rw [if_pos c,if_pos c]
 ·rw [if_neg c] at h
  rw [if_neg c,if_neg c]
  by_cases d:0 < 2 * js.length ∧ 2 * js.length = z.length
  ·rw [if_neg zo,if_pos d.2,if_pos d]
  ·rw [if_neg d] at h; exact absurd rfl h
theorem Oo {z:List Qi} {S:List (List Qi)} {js:List (Int × Int)} (h:zC z js = 0) (h2:js.length = 0):rQ z S js = 0:=by
 obtain ⟨h1,_⟩:=xQ h
 rw [rQ,if_neg (fun k=>k h1),if_pos h2]
theorem Db {z:List Qi} {S:List (List Qi)} {js:List (Int × Int)} (h:zC z js = 0) (h2:js.length ≠ 0):rQ z S js = if Ii z S js = 0 then 0 else 6:=by
 obtain ⟨h1,h3⟩:=xQ h
 rw [rQ,if_neg (fun k=>k h1),if_neg h2,if_neg zo]
theorem pig : ∀ {n m : Nat} {f : Nat → Nat}, (∀ x, x < m → f x < n) → (∀ x y, x < m → y < m → f x = f y → x = y) → m ≤ n
 | 0, m, f, h, _ => by
  cases m with
  | zero=>exact Nat.le_refl 0
  | succ m=>exact absurd (h 0 zo) zo
 | n + 1,0,_,_,_=>by omega
 | n + 1, k + 1, f, h, i => by
  have := pig (n := n) (m := k) (f := fun x => if f x = n then f k else f x) (fun x hx => by
   have h1:=h x zo
   have h2:=h k zo
   by_cases c:f x = n
   ·simp only [if_pos c]
    have:f k ≠ n:=fun e=>by have:=i x k zo zo (by rw [c,e]); omega
    omega
   ·simp only [if_neg c]; omega) (fun x y hx hy e=>by
   by_cases c:f x = n <;> by_cases d:f y = n
   ·exact i x y zo zo (by rw [c,d])
   ·simp only [if_pos c, if_neg d] at e
    have:=i k y zo zo e; omega
   ·simp only [if_neg c, if_pos d] at e
    have:=i x k zo zo e; omega
   ·simp only [if_neg c, if_neg d] at e
    exact i x y zo zo e)
  omega
theorem Cb {z:List Qi} {js:List (Int × Int)} (h:sW z js = 0):2 * js.length ≤ z.length:=by
 have hj:=vA h
 exact pig (f:=gq (cC js)) hj.lt hj.inj
theorem Xv {z:List Qi} {js:List (Int × Int)} (h:sW z js = 0):(lC js).map (aP .i64) = ((nJ js).map Nat.succ).map (NT .i64):=Yd (Gc h)
theorem Gi {js:List (Int × Int)} {x:Nat} (h:x < 2 * js.length):(nJ js).getD x 0 = gq (cC js) x:=by
 have hl:=nD js
 rw [jgq h,nJ]
 simp [List.getD,show x < (lC js).length by omega]
theorem Yj (G:List Nat):(gnI G).map (aP .i64) = (G.map Nat.succ).map (NT .i64):=by
 simp only [gnI,List.map_map]
 refine List.map_congr_left fun x _=>?_
 simp [Function.comp,NT]
theorem wG (js:List (Int × Int)):(cC js).length = js.length:=by simp [cC]
theorem Zi {js:List (Int × Int)} {k:Nat} (h:k < js.length):(cC js).take (k + 1) = (cC js).take k ++ [(((iG js k).1 - 1).toNat,((iG js k).2 - 1).toNat)]:=by
 rw [List.take_succ_eq_append_getElem (by rw [wG]; exact h)]
 simp [cC,List.getD,h]
theorem a4j {js:List (Int × Int)} {n k:Nat} (h:pL n (lC (js.take (k + 1))) = 0) (hk:k < js.length):(1 ≤ (iG js k).1 ∧ (iG js k).1 ≤ n) ∧ (1 ≤ (iG js k).2 ∧ (iG js k).2 ≤ n):=by
 rw [sO hk] at h
 exact ⟨Cu h _ (by simp),Cu h _ (by simp)⟩
theorem Pi {G : List Nat} {j : Nat} (h : j ∉ G) : ∀ {k : Nat}, j < k → j ∈ nH G k
 | k + 1, hk => by
  rw [nH,List.mem_append]
  by_cases e:j = k
  ·subst e; exact .inr (by rw [if_neg h]; simp)
  ·exact .inl (Pi h zo)
theorem Nq {z:List Qi} {js:List (Int × Int)} (h:sW z js = 0) (h2:2 * js.length ≠ z.length):1 ≤ (eO z js).length:=by
 by_cases c:(eO z js).length = 0
 ·have hn : eO z js = [] := List.eq_nil_of_length_eq_zero c
  have hm : ∀ j, j < z.length → ∃ x, x < 2 * js.length ∧ gq (cC js) x = j := fun j hj => by
   by_cases d:j ∈ nJ js
   ·exact Hk.1 d
   ·have := Pi d hj
    rw [show nH (nJ js) z.length = [] from hn] at this
    cases this
  have:=Cb h
  have h3 : z.length ≤ 2 * js.length := pig (f := fun j => if hj : j < z.length then Classical.choose (hm j hj) else 0) (fun j hj => by
   simp only [dif_pos hj]; exact (Classical.choose_spec (hm j hj)).1) (fun x y hx hy e=>by
   simp only [dif_pos hx,dif_pos hy] at e
   rw [← (Classical.choose_spec (hm x hx)).2,← (Classical.choose_spec (hm y hy)).2,e])
  omega
 ·omega
theorem Ky {f:Nat → Int} {n:Nat} (h:jV f n ≠ 0):∃ y,y < n ∧ f y ≠ 0:=by
 by_cases c:∃ y,y < n ∧ f y ≠ 0
 ·exact c
 ·exact absurd (gO fun y hy => by
   by_cases d:f y = 0
   ·exact d
   ·exact absurd ⟨y,hy,d⟩ c) h
theorem a3N {z : List Qi} {S : List (List Qi)} {js : List (Int × Int)} (h : sW z js = 0) (h0 : js.length ≠ 0) (h2 : 2 * js.length ≠ z.length) :
  (Uo S (qO z.length (cC js) (cC js).length) z.length (uR (qO z.length (cC js) (cC js).length) z.length) = rQ z S js) ∧
  (dL (rQ z S js) ((uR (qO z.length (cC js) (cC js).length) z.length).map fun l=>gv z l) = sF z S js) ∧
  (dL (rQ z S js) (tab (uR (qO z.length (cC js) (cC js).length) z.length).length fun x=>tab (uR (qO z.length (cC js) (cC js).length) z.length).length fun y=>Si S (qO z.length (cC js) (cC js).length) z.length (uR (qO z.length (cC js) (cC js).length) z.length) x y) = uM z S js):=by
 rw [wG,a1U h]
 have hp:=Nq h h2
 have hj:=vA h
 have hs:rQ z S js = if Ii z S js = 0 then 0 else 6:=Db (Oi h zo) h0
 by_cases e:Ii z S js = 0
 ·rw [if_pos e] at hs
  obtain ⟨c1,c2⟩:=a4f (S:=S) hj (fun y hy=>Na hy) hp (fun y hy=>gM e y hy)
  refine ⟨c1.trans hs.symm,?_,?_⟩
  ·rw [sF, hs, if_neg h0, a08, zP]
   exact congrArg _ (sS (eO z js) (gv z)).symm
  ·rw [uM, hs, if_neg h0, Zr]
   exact congrArg _ (cT fun x hx=>cT fun y hy=>c2 x y hx hy)
 ·rw [if_neg e] at hs
  obtain ⟨y,hy,h3⟩:=Ky e
  refine ⟨(a2G hj hp h3).trans hs.symm,?_,?_⟩
  ·rw [sF,hs]; rfl
  ·rw [uM,hs]; rfl
theorem Qf (x : Qi) (l m : List Qi) : ∀ k, uS x l m k = x + aF k fun y => gv l y * gv m y
 | 0=>by rw [uS,aF,show Qi.zero = (0:Qi) from rfl]; grind
 | k + 1=>by rw [uS,Qf x l m k,aF]; grind
theorem Zu {S:List (List Qi)} {ps:List (Nat × Nat)} {m a b:Nat}:uS (gm S a b) (tab m fun x=>gm S a (gq ps x)) (lA (mU S ps m) (Dk S ps m b) m) m = Dj S ps m a b:=by
 rw [Qf,Dj]
 congr 1
 exact bA fun y hy=>by rw [mI hy]
theorem xD {S : List (List Qi)} {ps : List (Nat × Nat)} {m L : Nat} (hf : bR S L) (hL : 1 ≤ L) : bR (mU S ps m) (L + 2) := bR.tab fun x y _ _ => by
 haveI h1:=hf.get hL (gq ps (iM x)) (gq ps y)
 haveI h2 : aO (if x = y then Qi.ofInt 1 else Qi.ofInt 0) 1 := by
  split
  ·exact wJ
  ·exact (aO.zero (Nat.le_refl 1):aO Qi.zero 1)
 exact (fitSub:aO (_ - _) (1 + L + 1)).le zo
theorem Oy {S:List (List Qi)} {ps:List (Nat × Nat)} {m b L:Nat} (hf:bR S L) (hL:1 ≤ L):dD (Dk S ps m b) L:=dD.tab fun x _=>hf.get hL _ _
theorem a1n {S:List (List Qi)} {ps:List (Nat × Nat)} {m a b L G:Nat} (hf:bR S L) (hL:1 ≤ L) (hG:qP (cE (L + 2) m) m ≤ G) (hE:kA (mU S ps m) (Dk S ps m b) m = 0):aO (Dj S ps m a b) (L + m * (2 * G + 2)):=by
 have h1:L + 2 ≤ G:=Nat.le_trans (Nat.le_trans (oK (L + 2) m) (Bv _ _)) hG
 rw [← Zu]
 exact Bc (hf.get hL a b) (dD.tab fun x _=>(hf.get hL a (gq ps x)).le zo) ((Qx (mZ S ps m) (xD hf hL) ((Oy hf hL).le zo) zo hE).le hG) zo m
theorem a0w {z:List Qi} {S:List (List Qi)} {js:List (Int × Int)} {L G:Nat} (hf:bR S L) (hL:1 ≤ L) (hG:zC z js = 0 → qP (cE (L + 2) (2 * js.length)) (2 * js.length) ≤ G) (hB:∀ m,m = 2 * js.length → zC z js = 0 → L + m * (2 * G + 2) ≤ 900000000000):bR (uM z S js) 900000000000:=by
 by_cases h:rQ z S js = 0
 ·have hj : zC z js = 0 := by
   by_cases c:zC z js = 0
   ·exact c
   ·rw [Pn c] at h; exact absurd h c
  by_cases h0:js.length = 0
  ·rw [uM, dL, if_pos h, if_pos h0]
   exact hf.le (Nat.le_trans (Nat.le_add_right _ _) (hB _ rfl hj))
  ·have hs := Db (S := S) hj h0
   rw [h] at hs
   have he : Ii z S js = 0 := by
    by_cases c:Ii z S js = 0
    ·exact c
    ·rw [if_neg c] at hs; omega
   rw [uM,dL,if_pos h,if_neg h0,Zr]
   refine bR.tab fun i j _ hj2=>(a1n hf hL (hG hj) (gM he j hj2)).le (hB _ rfl hj)
 ·rw [uM, dL, if_neg h]
  exact fun r hr=>by cases hr
theorem a13 {z:List Qi} {S:List (List Qi)} {js:List (Int × Int)} {L M:Nat} (h:dD z L) (hL:1 ≤ L) (hM:L ≤ M):dD (sF z S js) M:=by
 refine Gw ?_
 split
 ·exact h.le hM
 ·exact (Vr h hL).le hM
theorem a3O {z:List Qi} {S:List (List Qi)} {js:List (Int × Int)} (hS:eE S z.length z.length):eE (uM z S js) (sF z S js).length (sF z S js).length ∧ (sF z S js).length ≤ z.length:=by
 by_cases h:rQ z S js = 0
 ·by_cases h0 : js.length = 0
  ·rw [uM,sF,dL,dL,if_pos h,if_pos h,if_pos h0,if_pos h0]; exact ⟨hS,Nat.le_refl _⟩
  ·rw [uM,sF,dL,dL,if_pos h,if_pos h,if_neg h0,if_neg h0,a08,Wz]; exact ⟨eE.tab,qA _ _⟩
 ·rw [uM,sF,dL,dL,if_neg h,if_neg h]; exact ⟨⟨rfl,fun r hr=>by cases hr⟩,Nat.zero_le _⟩
end
section
open Go Go.RowKit
def uV (i j:Nat):Qi:=if i = j then Qi.ofInt 1 else Qi.ofInt 0
theorem Gy (i j:Nat):aO (uV i j) 1:=by
 unfold uV; split
 ·exact wJ
 ·exact aO.zero (Nat.le_refl 1)
end
section
open Go Go.RowKit
section
variable {φ:Qi → Qi → Bool} {z:List Qi} {js:List (Int × Int)}
end
theorem qM {a b:List (List Qi)} {n k m i j:Nat} (hi:i < n) (hj:j < m):gm (mS a b n k m) i j = aF k fun t=>gm a i t * gm b t j:=qN hi hj
theorem a1e {A : List (List Qi)} {n : Nat} (h : eE A n n) : mS (xU n) A n n n = A := qE pG h fun i hi j hj => by
 rw [qM hi hj,fP hi (f:=fun t=>gm (xU n) i t * gm A t j) fun k hk hne=>by rw [rS hi hk,if_neg (Ne.symm hne)]; grind,rS hi hi,if_pos rfl]; grind
theorem a11 {A : List (List Qi)} {n : Nat} (h : eE A n n) : mS A (xU n) n n n = A := qE pG h fun i hi j hj => by
 rw [qM hi hj,fP hj (f:=fun t=>gm A i t * gm (xU n) t j) fun k hk hne=>by rw [rS hk hj,if_neg hne]; grind,rS hj hj,if_pos rfl]; grind
abbrev jp1 (js:List (Int × Int)) (k:Nat):Nat:=((iG js k).1 - 1).toNat
abbrev jp2 (js:List (Int × Int)) (k:Nat):Nat:=((iG js k).2 - 1).toNat
theorem a4x {js:List (Int × Int)} {k:Nat} (h:k < js.length):gq (cC js) (2 * k) = jp1 js k ∧ gq (cC js) (2 * k + 1) = jp2 js k:=by
 obtain ⟨h1,h2⟩:=Mx h
 rw [rO,vE]; exact ⟨h1,h2⟩
def hlf:Qi:=Qi.frac 1 0 2
section
variable {js:List (Int × Int)} {n:Nat}
end
theorem Ag : ∀ n, nH [] n = tab n fun i => i
 | 0=>rfl
 | n + 1=>by rw [nH,Ag n,nY]; rfl
end
section
open Go Go.RowKit
structure Fu (O:List Nat) (n:Nat):Prop where
 nd:O.Nodup
 all:∀ x,x ∈ O ↔ 1 ≤ x ∧ x ≤ n
theorem Fu.len {O:List Nat} {n:Nat} (h:Fu O n):O.length = n:=by
 refine Nat.le_antisymm ?_ ?_
 ·refine pig (n := n) (f := fun i => O.getD i 0 - 1) (fun x hx => ?_) (fun x y hx hy e => ?_)
  ·have := (h.all (O.getD x 0)).1 (by rw [show O.getD x 0 = O[x] by simp [List.getD, hx]]; exact List.getElem_mem hx)
   show O.getD x 0 - 1 < n; omega
  ·have a := (h.all (O.getD x 0)).1 (by rw [show O.getD x 0 = O[x] by simp [List.getD, hx]]; exact List.getElem_mem hx)
   have b:=(h.all (O.getD y 0)).1 (by rw [show O.getD y 0 = O[y] by simp [List.getD,hy]]; exact List.getElem_mem hy)
   have e2:O.getD x 0 = O.getD y 0:=by have:O.getD x 0 - 1 = O.getD y 0 - 1:=e; omega
   rw [show O.getD x 0 = O[x] by simp [List.getD,hx],show O.getD y 0 = O[y] by simp [List.getD,hy]] at e2
   exact (List.getElem_inj h.nd).1 e2
 ·have key : ∀ j, j < n → ∃ i, i < O.length ∧ O.getD i 0 = j + 1 := fun j hj => by
   obtain ⟨i,hi,e⟩:=List.getElem_of_mem ((h.all (j + 1)).2 ⟨by omega,by omega⟩)
   exact ⟨i,hi,by simp [List.getD,hi,e]⟩
  refine pig (n:=O.length) (f:=fun j=>if hj:j < n then Classical.choose (key j hj) else 0) (fun x hx=>by simp only [dif_pos hx]; exact (Classical.choose_spec (key x hx)).1) (fun x y hx hy e=>?_)
  simp only [dif_pos hx,dif_pos hy] at e
  have a:=(Classical.choose_spec (key x hx)).2
  have b:=(Classical.choose_spec (key y hy)).2
  rw [e] at a; omega
section
variable {O:List Nat} {n:Nat}
theorem Fu.at (h:Fu O n) {i:Nat} (hi:i < n):1 ≤ O.getD i 0 ∧ O.getD i 0 ≤ n:=by
 have hl:=h.len
 exact (h.all _).1 (by rw [show O.getD i 0 = O[i] by simp [List.getD,show i < O.length by omega]]; exact List.getElem_mem _)
theorem Fu.inj (h:Fu O n) {i j:Nat} (hi:i < n) (hj:j < n) (e:O.getD i 0 = O.getD j 0):i = j:=by
 have hl:=h.len
 rw [show O.getD i 0 = O[i] by simp [List.getD,show i < O.length by omega],show O.getD j 0 = O[j] by simp [List.getD,show j < O.length by omega]] at e
 exact (List.getElem_inj h.nd).1 e
end
end
section
open Go Go.RowKit
theorem wD {M:List (List Qi)} {b:List Qi} {n:Nat} (h:eE M n n):kA M b n = 0 ↔ ∀ y:Nat → Qi,(∀ i,i < n → aF n (fun k=>gm M i k * y k) = 0) → ∀ k,k < n → y k = 0:=by
 constructor
 ·intro e; exact (oC h e).2
 ·intro hk
  apply Classical.byContradiction; intro e
  obtain ⟨y,hy,k,hkn,hne⟩:=xI h e
  exact hne (hk y hy k hkn)
section
variable {S:List (List Qi)} {p q r t a b:Nat}
theorem a0E {x y:Qi} (h:x - y = 0):x = y:=by grind
end
section
variable {S:Nat → Nat → Qi} {p q r t a b:Nat}
def S1 (S:Nat → Nat → Qi) (p q:Nat) (V:Nat → Qi × Qi) (a b:Nat):Qi:=S a b + (S a p * (V b).1 + S a q * (V b).2)
variable {V:Nat → Qi × Qi}
end
end
section
open Go Go.RowKit
def low (c a b:Nat):Nat:=c - (if a < c then 1 else 0) - (if b < c then 1 else 0)
def okP (N p q r t : Nat) : Bool :=
 decide ((nH [p,q] N).length = N - 2) && decide (low r p q < N - 2) && decide (low t p q < N - 2) && decide (low r p q ≠ low t p q) && decide (gY (nH [p,q] N) (low r p q) = r) && decide (gY (nH [p,q] N) (low t p q) = t)
 && decide ((nH [low r p q,low t p q] (N - 2)).map (gY (nH [p,q] N)) = nH [p,q,r,t] N) && decide ((nH [p,q,r,t] N).length = N - 4) && decide (nH [t,r,p,q] N = nH [p,q,r,t] N) && decide (nH [r,t,p,q] N = nH [p,q,r,t] N)
section
variable {z:List Qi} {S:List (List Qi)} {N p q r t:Nat} {ζ:Qi}
end
end
section
open Go Go.RowKit
def Gb (x:Qi) (N:Nat):Prop:=∃ p q:Int,x = Qi.mk (p:Rat) (q:Rat) ∧ p.natAbs ≤ N ∧ q.natAbs ≤ N
theorem Gb.le {x:Qi} {N M:Nat} (h:Gb x N) (k:N ≤ M):Gb x M:=by
 obtain ⟨p,q,e,h1,h2⟩:=h; exact ⟨p,q,e,by omega,by omega⟩
theorem Gb.add {x y:Qi} {N M:Nat} (h:Gb x N) (k:Gb y M):Gb (x + y) (N + M):=by
 obtain ⟨p,q,rfl,h1,h2⟩:=h; obtain ⟨r,s,rfl,k1,k2⟩:=k
 refine ⟨p + r,q + s,Qi.ext' ?_ ?_,by omega,by omega⟩
 ·show (p:Rat) + (r:Rat) = ((p + r:Int):Rat); push_cast; rfl
 ·show (q:Rat) + (s:Rat) = ((q + s:Int):Rat); push_cast; rfl
theorem Gb.neg {x:Qi} {N:Nat} (h:Gb x N):Gb (-x) N:=by
 obtain ⟨p,q,rfl,h1,h2⟩:=h
 refine ⟨-p,-q,Qi.ext' ?_ ?_,by omega,by omega⟩
 ·show -(p:Rat) = ((-p:Int):Rat); push_cast; rfl
 ·show -(q:Rat) = ((-q:Int):Rat); push_cast; rfl
theorem Gb.sub {x y:Qi} {N M:Nat} (h:Gb x N) (k:Gb y M):Gb (x - y) (N + M):=by rw [Qi.sub_def]; exact h.add k.neg
theorem qC {p q:Int} {N M:Nat} (h:p.natAbs ≤ N) (k:q.natAbs ≤ M):(p * q).natAbs ≤ N * M:=by rw [Int.natAbs_mul]; exact Nat.mul_le_mul h k
theorem Gb.mul {x y:Qi} {N M:Nat} (h:Gb x N) (k:Gb y M):Gb (x * y) (2 * N * M):=by
 obtain ⟨p,q,rfl,h1,h2⟩:=h; obtain ⟨r,s,rfl,k1,k2⟩:=k
 have a1:=qC h1 k1; have a2:=qC h2 k2; have a3:=qC h1 k2; have a4:=qC h2 k1
 have e:2 * N * M = N * M + N * M:=by rw [Nat.mul_assoc,Nat.two_mul]
 refine ⟨p * r - q * s,p * s + q * r,Qi.ext' ?_ ?_,by omega,by omega⟩
 ·rw [Qi.mul_re]; show (p:Rat) * (r:Rat) - (q:Rat) * (s:Rat) = ((p * r - q * s:Int):Rat); push_cast; rfl
 ·rw [Qi.mul_im]; show (p:Rat) * (s:Rat) + (q:Rat) * (r:Rat) = ((p * s + q * r:Int):Rat); push_cast; rfl
theorem Gb.sum {f : Nat → Qi} {N : Nat} : ∀ {n : Nat}, (∀ k, k < n → Gb (f k) N) → Gb (aF n f) (n * N)
 | 0,_=>⟨0,0,Qi.ext' rfl rfl,by simp,by simp⟩
 | n + 1, h => by
  rw [aF,Nat.succ_mul]
  exact (Gb.sum fun k hk=>h k zo).add (h n zo)
theorem Gb.fit {x:Qi} {N L:Nat} (h:Gb x N) (hN:N < BB ^ L) (hL:1 ≤ L):aO x L:=by
 obtain ⟨p,q,rfl,h1,h2⟩:=h
 have e:Qi.mk (p:Rat) (q:Rat) = Qi.mk' p q 1:=Qi.ext' (by rw [Qi.mk_re]; show (p:Rat) = p / ((1:Nat):Rat); grind) (by rw [Qi.mk_im]; show (q:Rat) = q / ((1:Nat):Rat); grind)
 rw [e]
 exact ⟨Qi.Fit.mk (by decide) zo zo (Qi.one_lt hL)⟩
theorem sC (n:Nat) (f:Nat → Qi):aF (n + 1) f = f 0 + aF n fun k=>f (k + 1):=by
 rw [Nat.add_comm n 1,sT,Dh]
 exact congrArg _ (bA fun k _=>by rw [Nat.add_comm])
def fs : Nat → Nat → Nat
 | 0,_=>1
 | n + 1,N=>2 * (n + 1) * N * fs n (4 * N * N)
theorem Np {F:Nat → Nat → Qi} {n:Nat} {x:Nat → Qi}:wW F (n + 1) (n + 1) x ↔ (F 0 0 * x 0 + aF n (fun k=>F 0 (k + 1) * x (k + 1)) = 0) ∧ ∀ i,i < n → F (i + 1) 0 * x 0 + aF n (fun k=>F (i + 1) (k + 1) * x (k + 1)) = 0:=by
 constructor
 ·intro h
  exact ⟨by have:=h 0 zo; rwa [sC] at this,fun i hi=>by have:=h (i + 1) zo; rwa [sC] at this⟩
 ·rintro ⟨h1, h2⟩ i hi
  rw [sC]
  cases i with
  | zero=>exact h1
  | succ i=>exact h2 i zo
theorem Jx (n:Nat) (a b:Qi) (f g x:Nat → Qi):aF n (fun k=>(a * f k - b * g k) * x k) = a * aF n (fun k=>f k * x k) - b * aF n (fun k=>g k * x k):=by
 induction n with
 | zero=>simp only [aF,q0]; grind
 | succ n ih=>simp only [aF,ih]; grind
theorem yV (n:Nat) (a:Qi) (f x:Nat → Qi):aF n (fun k=>f k * (x k * a)) = a * aF n (fun k=>f k * x k):=by
 induction n with
 | zero=>simp only [aF,q0]; grind
 | succ n ih=>simp only [aF,ih]; grind
theorem a1q {F : Nat → Nat → Qi} {n N : Nat} (hp : F 0 0 ≠ 0) (hN : 1 ≤ N) (hF : ∀ i, i < n + 1 → ∀ j, j ≤ n + 1 → Gb (F i j) N) (hk : ∀ v, wW F (n + 1) (n + 1) v → ∀ k, k < n + 1 → v k = 0)
  (ih:∀ G:Nat → Nat → Qi,(∀ i,i < n → ∀ j,j ≤ n → Gb (G i j) (4 * N * N)) → (∀ v,wW G n n v → ∀ k,k < n → v k = 0) → ∃ (y:Nat → Qi) (e:Qi),e ≠ 0 ∧ Gb e (fs n (4 * N * N)) ∧ (∀ k,k < n → Gb (y k) (fs n (4 * N * N))) ∧ ∀ i,i < n → aF n (fun k=>G i k * y k) = e * G i n) :
  ∃ (y:Nat → Qi) (e:Qi),e ≠ 0 ∧ Gb e (fs (n + 1) N) ∧ (∀ k,k < n + 1 → Gb (y k) (fs (n + 1) N)) ∧ ∀ i,i < n + 1 → aF (n + 1) (fun k=>F i k * y k) = e * F i (n + 1):=by
 obtain ⟨y, e, he, ge, gy, hy⟩ := ih (fun i j => F 0 0 * F (i + 1) (j + 1) - F (i + 1) 0 * F 0 (j + 1)) (fun i hi j hj => by
   have h1:=(hF 0 zo 0 zo).mul (hF (i + 1) zo (j + 1) zo)
   have h2:=(hF (i + 1) zo 0 zo).mul (hF 0 zo (j + 1) zo)
   exact (h1.sub h2).le (by rw [show 4 * N * N = 2 * N * N + 2 * N * N by rw [← Nat.add_mul]; congr 1; omega]; exact Nat.le_refl _)) (fun v hv k hkn=>by
   have hz := hk (fun k => if k = 0 then -(aF n fun k => F 0 (k + 1) * v k) else F 0 0 * v (k - 1)) (Np.2 ⟨by
    simp only [if_true,Nat.add_sub_cancel,if_neg (Nat.succ_ne_zero _)]
    have:=yV n (F 0 0) (fun k=>F 0 (k + 1)) v
    simp only [Qi.mul_comm' _ (F 0 0)] at this ⊢
    rw [this]; grind,fun i hi=>by
    simp only [if_true,Nat.add_sub_cancel,if_neg (Nat.succ_ne_zero _)]
    have:=yV n (F 0 0) (fun k=>F (i + 1) (k + 1)) v
    simp only [Qi.mul_comm' _ (F 0 0)] at this ⊢
    rw [this]
    have h:=hv i hi
    have h2:=Jx n (F 0 0) (F (i + 1) 0) (fun k=>F (i + 1) (k + 1)) (fun k=>F 0 (k + 1)) v
    simp only [] at h
    rw [h2] at h
    grind⟩) (k + 1) zo
   simp only [Nat.add_sub_cancel,if_neg (Nat.succ_ne_zero _)] at hz
   rcases oA hz with h | h
   ·exact absurd h hp
   ·exact h)
 have hf1 : 1 ≤ fs n (4 * N * N) := by
  apply Decidable.byContradiction; intro h
  have h0:fs n (4 * N * N) = 0:=by omega
  rw [h0] at ge
  obtain ⟨p,q,e1,p1,p2⟩:=ge
  have hp0:p = 0:=by omega
  have hq0:q = 0:=by omega
  exact he (by rw [e1,hp0,hq0]; exact Qi.ext' rfl rfl)
 have hG : fs (n + 1) N = (n + 1) * (2 * fs n (4 * N * N) * N) := by
  rw [fs]; simp only [Nat.mul_comm,Nat.mul_left_comm,Nat.mul_assoc]
 have hG1:2 * fs n (4 * N * N) * N ≤ fs (n + 1) N:=by rw [hG]; exact Nat.le_mul_of_pos_left _ zo
 refine ⟨fun k=>if k = 0 then e * F 0 (n + 1) - aF n (fun k=>F 0 (k + 1) * y k) else y (k - 1) * F 0 0,e * F 0 0,fun h=>?_,?_,fun k hkn=>?_,fun i hi=>?_⟩
 ·rcases oA h with h | h
  ·exact he h
  ·exact hp h
 ·exact (ge.mul (hF 0 zo 0 zo)).le hG1
 ·cases k with
  | zero =>
   simp only [if_true]
   have h1:=ge.mul (hF 0 zo (n + 1) zo)
   have h2:Gb (aF n fun k=>F 0 (k + 1) * y k) (n * (2 * N * fs n (4 * N * N))):=Gb.sum fun k hk=>(hF 0 zo (k + 1) zo).mul (gy k hk)
   refine (h1.sub h2).le ?_
   have e3:n * (2 * N * fs n (4 * N * N)) = n * (2 * fs n (4 * N * N) * N):=by simp only [Nat.mul_comm,Nat.mul_left_comm,Nat.mul_assoc]
   have e4:(n + 1) * (2 * fs n (4 * N * N) * N) = n * (2 * fs n (4 * N * N) * N) + 2 * fs n (4 * N * N) * N:=Nat.succ_mul _ _
   rw [hG,e3,e4,Nat.add_comm]; exact Nat.le_refl _
  | succ k =>
   simp only [Nat.add_sub_cancel,if_neg (Nat.succ_ne_zero _)]
   exact ((gy k zo).mul (hF 0 zo 0 zo)).le hG1
 ·rw [sC]
  simp only [if_true,Nat.add_sub_cancel,if_neg (Nat.succ_ne_zero _)]
  rw [yV n (F 0 0) (fun k=>F i (k + 1)) y]
  cases i with
  | zero=>grind
  | succ i =>
   have h:=hy i zo
   have h2:=Jx n (F 0 0) (F (i + 1) 0) (fun k=>F (i + 1) (k + 1)) (fun k=>F 0 (k + 1)) y
   rw [h2] at h
   grind
theorem Vh : ∀ (n N : Nat) (F : Nat → Nat → Qi), 1 ≤ N → (∀ i, i < n → ∀ j, j ≤ n → Gb (F i j) N) → (∀ v, wW F n n v → ∀ k, k < n → v k = 0) →
  ∃ (y:Nat → Qi) (e:Qi),e ≠ 0 ∧ Gb e (fs n N) ∧ (∀ k,k < n → Gb (y k) (fs n N)) ∧ ∀ i,i < n → aF n (fun k=>F i k * y k) = e * F i n
 | 0,N,F,_,_,_=>⟨fun _=>0,1,fun h=>by have:=congrArg Qi.re h; revert this; decide,⟨1,0,Qi.ext' rfl rfl,by simp [fs],by simp [fs]⟩,fun k hk=>by omega,fun i hi=>by omega⟩
 | n + 1, N, F, hN, hF, hk => by
  have hpz : ∃ p, p < n + 1 ∧ F p 0 ≠ 0 := by
   apply Classical.byContradiction; intro hno
   have hz : ∀ p, p < n + 1 → F p 0 = 0 := fun p hp => by
    apply Classical.byContradiction; intro h; exact hno ⟨p,hp,h⟩
   have := hk (fun k => if k = 0 then 1 else 0) (fun i hi => by
    rw [kO]
    intro k hk
    by_cases e:k = 0
    ·subst e; rw [hz i hi]; grind
    ·simp only [if_neg e]; grind) 0 zo
   simp only [if_true] at this
   have:=congrArg Qi.re this; revert this; decide
  obtain ⟨p,hp,hpz⟩:=hpz
  have hN4:1 ≤ 4 * N * N:=Nat.mul_pos zo zo
  obtain ⟨y, e, he, ge, gy, hy⟩ := a1q (F := fun i => F (Pq p 0 i)) (n := n) (N := N) (by simpa [Pq] using hpz) hN (fun i hi j hj => hF _ (Hg hp zo hi) j hj)
   (fun v hv=>hk v ((Kb hp zo).1 hv)) (fun G hG hGk=>Vh n (4 * N * N) G hN4 hG hGk)
  refine ⟨y,e,he,ge,gy,fun i hi=>?_⟩
  have:=hy (Pq p 0 i) (Hg hp zo hi)
  simp only [Pu] at this
  exact this
theorem a1V {N:Nat}:∀ {n:Nat},n ≤ 4 → 1 ≤ N → fs n N ≤ 1610612736 * N ^ 15:=by
 intro n hn hN
 have hp:∀ k,k ≤ 15 → N ^ k ≤ N ^ 15:=fun k hk=>Nat.pow_le_pow_right hN hk
 have h0:=hp 0 zo; have h1:=hp 1 zo; have h3:=hp 3 zo; have h7:=hp 7 zo
 match n,hn with
 | 0,_=>rw [fs]; rw [Nat.pow_zero] at h0; omega
 | 1,_=>simp only [fs]; rw [show 2 * (0 + 1) * N * 1 = 2 * N ^ 1 by grind]; omega
 | 2,_=>simp only [fs]; rw [show 2 * (1 + 1) * N * (2 * (0 + 1) * (4 * N * N) * 1) = 32 * N ^ 3 by grind]; omega
 | 3,_=>simp only [fs]; rw [show 2 * (2 + 1) * N * (2 * (1 + 1) * (4 * N * N) * (2 * (0 + 1) * (4 * (4 * N * N) * (4 * N * N)) * 1)) = 12288 * N ^ 7 by grind]; omega
 | 4,_=>simp only [fs]; rw [show 2 * (3 + 1) * N * (2 * (2 + 1) * (4 * N * N) * (2 * (1 + 1) * (4 * (4 * N * N) * (4 * N * N)) * (2 * (0 + 1) * (4 * (4 * (4 * N * N) * (4 * N * N)) * (4 * (4 * N * N) * (4 * N * N))) * 1))) = 1610612736 * N ^ 15 by grind]; omega
theorem a1w (x:Qi):((x.den:Int):Rat) * x.re = (x.a:Rat) ∧ ((x.den:Int):Rat) * x.im = (x.b:Rat):=by
 have h:=Qi.nc x.den_pos
 have h2:((x.den:Int):Rat) = (x.den:Rat):=by push_cast; rfl
 rw [h2]
 exact ⟨by rw [Qi.re_eq x]; grind,by rw [Qi.im_eq x]; grind⟩
theorem On {L : Nat} {x : Nat → Qi} : ∀ k, (∀ j, j < k → aO (x j) L) → ∃ d : Nat, 0 < d ∧ d ≤ BB ^ (k * L) ∧ ∀ j, j < k → Gb (Qi.ofInt d * x j) (BB ^ (k * L))
 | 0,_=>⟨1,by decide,Nat.pow_pos fL,fun j hj=>by omega⟩
 | k + 1, h => by
  obtain ⟨d,d0,dl,hd⟩:=On k fun j hj=>h j zo
  have hx:=(h k zo).fit
  have hm:=a1w (x k)
  have hpow:BB ^ ((k + 1) * L) = BB ^ (k * L) * BB ^ L:=by rw [Nat.succ_mul,Nat.pow_add]
  refine ⟨d * (x k).den,Nat.mul_pos d0 (x k).den_pos,?_,fun j hj=>?_⟩
  ·rw [hpow]; exact Nat.mul_le_mul dl (Nat.le_of_lt hx.2.2)
  ·by_cases e : j = k
   ·subst e
    refine ⟨d * (x j).a,d * (x j).b,Qi.ext' ?_ ?_,?_,?_⟩
    ·rw [Qi.mul_re]
     show (((d * (x j).den:Nat):Int):Rat) * (x j).re - 0 * (x j).im = ((d * (x j).a:Int):Rat)
     have:=hm.1; push_cast at *; grind
    ·rw [Qi.mul_im]
     show (((d * (x j).den:Nat):Int):Rat) * (x j).im + 0 * (x j).re = ((d * (x j).b:Int):Rat)
     have:=hm.2; push_cast at *; grind
    ·rw [hpow]; exact qC (by simpa using dl) (Nat.le_of_lt hx.1)
    ·rw [hpow]; exact qC (by simpa using dl) (Nat.le_of_lt hx.2.1)
   ·obtain ⟨p, q, e1, h1, h2⟩ := hd j zo
    have er:=congrArg Qi.re e1; have ei:=congrArg Qi.im e1
    rw [Qi.mul_re] at er; rw [Qi.mul_im] at ei
    refine ⟨p * (x k).den,q * (x k).den,Qi.ext' ?_ ?_,?_,?_⟩
    ·rw [Qi.mul_re]
     have er:((d:Int):Rat) * (x j).re - 0 * (x j).im = (p:Rat):=er
     show (((d * (x k).den:Nat):Int):Rat) * (x j).re - 0 * (x j).im = ((p * (x k).den:Int):Rat)
     push_cast at *; grind
    ·rw [Qi.mul_im]
     have ei:((d:Int):Rat) * (x j).im + 0 * (x j).re = (q:Rat):=ei
     show (((d * (x k).den:Nat):Int):Rat) * (x j).im + 0 * (x j).re = ((q * (x k).den:Int):Rat)
     push_cast at *; grind
    ·rw [hpow]; exact qC h1 (by simpa using Nat.le_of_lt hx.2.2)
    ·rw [hpow]; exact qC h2 (by simpa using Nat.le_of_lt hx.2.2)
theorem Zd {d : Nat} (h : 0 < d) : Qi.ofInt d ≠ 0 := fun e => by
 have:=congrArg Qi.re e
 have h2:((d:Int):Rat) = ((0:Int):Rat):=this
 rw [Rat.intCast_inj] at h2; omega
end
section
open Go Go.RowKit
theorem Yb {M:List (List Qi)} {b:List Qi} {n m L K:Nat} (h:eE M n n) (hM:bR M L) (hb:dD b L) (hL:1 ≤ L) (hn:n ≤ m) (hbig:fs n (BB ^ ((m + 1) * L)) < BB ^ K) (hK:1 ≤ K) (hE:kA M b n = 0):dD (lA M b n) (4 * K + 2):=by
 obtain ⟨s1,s2⟩:=oC h hE
 have hrow : ∀ i, ∃ d : Nat, 0 < d ∧ ∀ j, j < n + 1 → Gb (Qi.ofInt d * (if j < n then gm M i j else gv b i)) (BB ^ ((m + 1) * L)) := fun i => by
  obtain ⟨d, d0, _, hd⟩ := On (L := L) (x := fun j => if j < n then gm M i j else gv b i) (n + 1) fun j _ => by
   show aO (if j < n then gm M i j else gv b i) L
   split
   ·exact hM.get hL i j
   ·exact hb.get hL i
  exact ⟨d,d0,fun j hj=>(hd j hj).le (Nat.pow_le_pow_right fL (Nat.mul_le_mul_right _ zo))⟩
 have hd:∃ d:Nat → Nat,∀ i,0 < d i ∧ ∀ j,j < n + 1 → Gb (Qi.ofInt (d i) * (if j < n then gm M i j else gv b i)) (BB ^ ((m + 1) * L)):=⟨fun i=>Classical.choose (hrow i),fun i=>Classical.choose_spec (hrow i)⟩
 obtain ⟨d,hd⟩:=hd
 have cancel : ∀ {i : Nat} {u : Qi}, Qi.ofInt (d i) * u = 0 → u = 0 := fun {i u} hu => by
  rcases oA hu with k | k
  ·exact absurd k (Zd (hd i).1)
  ·exact k
 have hsum : ∀ (i : Nat) (v : Nat → Qi), aF n (fun k => Qi.ofInt (d i) * (if k < n then gm M i k else gv b i) * v k) = Qi.ofInt (d i) * aF n (fun k => gm M i k * v k) := fun i v => by
  rw [Qi.mul_comm',← oB]
  exact bA fun k hk=>by rw [if_pos hk]; grind
 have hN:1 ≤ BB ^ ((m + 1) * L):=Nat.pow_pos fL
 obtain ⟨y, e, he, ge, gy, hy⟩ := Vh n (BB ^ ((m + 1) * L)) (fun i j => Qi.ofInt (d i) * (if j < n then gm M i j else gv b i)) hN (fun i _ j hj => (hd i).2 j zo) (fun v hv => s2 v fun i hi => by
  have:=hv i hi
  simp only [] at this
  rw [hsum] at this
  exact cancel this)
 have hsol : ∀ k, k < n → y k - e * gv (lA M b n) k = 0 := s2 (fun k => y k - e * gv (lA M b n) k) fun i hi => by
  have h1:=hy i hi
  rw [hsum,if_neg zo] at h1
  have h2:=s1 i hi
  have h3 : aF n (fun k => gm M i k * (y k - e * gv (lA M b n) k)) = aF n (fun k => gm M i k * y k) - e * aF n (fun k => gm M i k * gv (lA M b n) k) := by
   rw [← qW]; exact bA fun k _=>by grind
  rw [h3,h2]
  exact cancel (i:=i) (by grind)
 intro x hx
 obtain ⟨k,hk,rfl⟩:=List.mem_iff_getElem.1 hx
 rw [tL] at hk
 have hg:(lA M b n)[k] = gv (lA M b n) k:=by simp [gv,List.getD,tL,hk]
 rw [hg]
 have e1:gv (lA M b n) k = y k / e:=(a35 he (by have:=hsol k hk; grind)).symm
 haveI f1:aO (y k) K:=(gy k hk).fit hbig hK
 haveI f2:aO e K:=ge.fit hbig hK
 rw [e1]
 exact (fitDiv (x:=y k) (y:=e)).le zo
end
section
open Go Go.RowKit
def Nx (l : List Nat) (p : Nat) : Nat → Int
 | 0=>-1
 | k + 1=>if l.getD (l.length - (k + 1)) 0 = p then ((l.length - (k + 1):Nat):Int) else Nx l p k
def wB (l:List Nat) (p:Nat):Int:=Nx l p l.length
theorem a2o (l : List Nat) (p : Nat) : ∀ k, Nx l p k = -1 ∨ (0 ≤ Nx l p k ∧ (Nx l p k).toNat < l.length ∧ l.getD (Nx l p k).toNat 0 = p) ∨ l.length < k
 | 0=>.inl rfl
 | k + 1 => by
  rw [Nx]
  by_cases c:l.length < k + 1
  ·exact .inr (.inr c)
  ·by_cases e : l.getD (l.length - (k + 1)) 0 = p
   ·rw [if_pos e]; exact .inr (.inl ⟨by omega,by rw [Int.toNat_natCast]; omega,by rw [Int.toNat_natCast]; exact e⟩)
   ·rw [if_neg e]
    rcases a2o l p k with h | h | h
    ·exact .inl h
    ·exact .inr (.inl h)
    ·omega
theorem Lq (l:List Nat) (p:Nat):wB l p = -1 ∨ (0 ≤ wB l p ∧ (wB l p).toNat < l.length ∧ l.getD (wB l p).toNat 0 = p):=by
 rcases a2o l p l.length with h | h | h
 ·exact .inl h
 ·exact .inr h
 ·omega
theorem Zp {l : List Nat} {p : Nat} : ∀ {k : Nat}, k ≤ l.length → Nx l p k < 0 → ∀ x, l.length - k ≤ x → x < l.length → l.getD x 0 ≠ p
 | 0,_,_,x,h1,h2=>by omega
 | k + 1, hk, h, x, h1, h2 => by
  rw [Nx] at h
  by_cases e:l.getD (l.length - (k + 1)) 0 = p
  ·rw [if_pos e] at h; omega
  ·rw [if_neg e] at h
   by_cases c:x = l.length - (k + 1)
   ·rw [c]; exact e
   ·exact Zp (k:=k) zo h x zo h2
theorem Hw {l:List Nat} {p:Nat}:0 ≤ wB l p ↔ p ∈ l:=by
 constructor
 ·intro h
  rcases Lq l p with k | ⟨_,k1,k2⟩
  ·omega
  ·rw [← k2,show l.getD (wB l p).toNat 0 = l[(wB l p).toNat] by simp [List.getD,k1]]; exact List.getElem_mem k1
 ·intro h
  apply Classical.byContradiction; intro hn
  obtain ⟨x,hx,e⟩:=List.getElem_of_mem h
  exact Zp (l:=l) (p:=p) (Nat.le_refl _) (show Nx l p l.length < 0 by have:¬ 0 ≤ Nx l p l.length:=hn; omega) x zo hx (by rw [show l.getD x 0 = l[x] by simp [List.getD,hx]]; exact e)
def zM (js:List (Int × Int)):List Nat:=tab (2 * js.length) (gq (cC js))
def oR (js:List (Int × Int)):List Nat:=tab (2 * js.length) fun x=>gq (cC js) (iM x)
theorem Ay {α:Type} (f:Nat → α) (k:Nat):tab (2 * (k + 1)) f = tab (2 * k) f ++ [f (2 * k),f (2 * k + 1)]:=by
 rw [show 2 * (k + 1) = 2 * k + 1 + 1 by omega,nY,nY,List.append_assoc]; rfl
theorem Rw (js:List (Int × Int)):zM js = nJ js:=by
 have h:=zA (l:=nJ js) (m:=2 * js.length) (Au js)
 rw [h]
 refine (cT fun x hx=>?_).symm
 exact Gi hx
theorem Ok (k:Nat):iM (2 * k) = 2 * k + 1 ∧ iM (2 * k + 1) = 2 * k:=by
 constructor
 ·rw [iM,if_pos zo]
 ·rw [iM,if_neg zo]; omega
theorem Vi {js:List (Int × Int)} {n k:Nat} (hp:pL n (lC js) = 0) (hk:k < js.length):(iG js k).1 - 1 = ((gq (cC js) (2 * k):Nat):Int) ∧ (iG js k).2 - 1 = ((gq (cC js) (2 * k + 1):Nat):Int) ∧ -1000 ≤ (iG js k).1 ∧ (iG js k).1 ≤ n ∧ -1000 ≤ (iG js k).2 ∧ (iG js k).2 ≤ n:=by
 have hmm:=fun x hx=>Cu hp x hx
 have hm1:(iG js k).1 ∈ lC js:=by rw [lC,List.mem_flatMap]; exact ⟨iG js k,by rw [show iG js k = js[k] by simp [iG,List.getD,hk]]; exact List.getElem_mem hk,by simp⟩
 have hm2:(iG js k).2 ∈ lC js:=by rw [lC,List.mem_flatMap]; exact ⟨iG js k,by rw [show iG js k = js[k] by simp [iG,List.getD,hk]]; exact List.getElem_mem hk,by simp⟩
 have hb1:=hmm _ hm1
 have hb2:=hmm _ hm2
 obtain ⟨e1,e2⟩:=a4x hk
 rw [e1,e2]
 exact ⟨by show _ = (((iG js k).1 - 1).toNat:Int); omega,by show _ = (((iG js k).2 - 1).toNat:Int); omega,by omega,by omega,by omega,by omega⟩
def zW (S:List (List Qi)) (js:List (Int × Int)) (x:Nat):List Qi:=lA (mU S (cC js) (2 * js.length)) (ek (2 * js.length) x) (2 * js.length)
def xR (i k:Nat):Qi:=if k = i then Qi.ofInt 1 else Qi.ofInt 0
def vX (S:List (List Qi)) (js:List (Int × Int)) (i k:Nat):Qi:=if 0 ≤ wB (oR js) k then xR i k + aF (2 * js.length) (fun y=>gm S i (gq (cC js) y) * gv (zW S js (wB (oR js) k).toNat) y) else xR i k
def Bf (S:List (List Qi)) (js:List (Int × Int)) (N:Nat):List (List Qi):=(nH (nJ js) N).map fun i=>tab N fun k=>vX S js i k
theorem Rr (i k:Nat):aO (xR i k) 1:=by
 unfold xR; split
 ·exact wJ
 ·exact (aO.zero (Nat.le_refl 1):aO Qi.zero 1)
theorem Pt {S:List (List Qi)} {js:List (Int × Int)} {i t L G:Nat} {v:List Qi} (hf:bR S L) (hL:1 ≤ L) (hv:dD v G) (hG:1 ≤ G) (ht:t ≤ 8):aO (aF t fun y=>gm S i (gq (cC js) y) * gv v y) (8 * (L + G) + 17):=by
 refine (aO.sum (L:=L + G + 1) fun y _=>?_).le ?_
 ·haveI := hf.get hL i (gq (cC js) y); haveI := hv.get hG y
  exact fitMul
 ·have : t * (L + G + 1 + 1) ≤ 8 * (L + G + 1 + 1) := Nat.mul_le_mul_right _ ht
  omega
end
section
open Go Go.RowKit
theorem a2Z {f:Nat → List Qi} {l:List Nat} {a k:Nat} (h:a < l.length):gm (l.map f) a k = gv (f (gY l a)) k:=by simp [gm,gY,List.getD,h]
section
variable {z:List Qi} {s c:List (List Qi)} {g t:Qi} {p:Nat}
theorem a0p {S:List (List Qi)} {js:List (Int × Int)} {i k L G:Nat} (hf:bR S L) (hL:1 ≤ L) (hv:∀ x,dD (zW S js x) G) (hG:1 ≤ G) (hj:2 * js.length ≤ 8):aO (vX S js i k) (8 * (L + G) + 19):=by
 haveI g3:=Rr i k
 unfold vX
 split
 ·haveI g4 := Pt (i := i) (t := 2 * js.length) (js := js) hf hL (hv (wB (oR js) k).toNat) hG hj
  exact (fitAdd).le zo
 ·exact g3.le zo
theorem Hm {S : List (List Qi)} {js : List (Int × Int)} {N L G : Nat} (hf : bR S L) (hL : 1 ≤ L) (hv : ∀ x, dD (zW S js x) G) (hG : 1 ≤ G) (hj : 2 * js.length ≤ 8) : bR (Bf S js N) (8 * (L + G) + 19) := fun r hr => by
 obtain ⟨i,_,rfl⟩:=List.mem_map.1 hr
 exact dD.tab fun k _=>a0p hf hL hv hG hj
theorem Ia (S : List (List Qi)) (js : List (Int × Int)) (N : Nat) : eE (Bf S js N) (nH (nJ js) N).length N := ⟨by rw [Bf, List.length_map], fun r hr => by
 obtain ⟨i,_,rfl⟩:=List.mem_map.1 hr; exact aC _ _⟩
end
end
section
open Go Go.RowKit
theorem Tf {r n:Nat} (hr:r ≤ 1000) (h1:1 ≤ n) (hn:n ≤ 1000):iC Tryz.prog 97 [NT .i64 r,NT .i64 n] [] (Nat) (fun B=>Is (.slice (some ⟨B,0,none⟩) r r)) (fun B=>[kH eM B 29 51 5 (bN aR (zD r n))]) (fun _=>True):=by
 refine iC.intro Tryz.func97 rfl Tryz.ntmps97 rfl (fun cx Z=>(ts (ro rfl (cQ cV) (eX (ts (rm rfl (rn rfl (eN (T:=Is (.slice none 0 0)) (i:=Tryz.t29) V_30 mY rfl rfl (Ht rfl) rfl (fun _=>rfl) trivial (by show 24 * _ ≤ _; omega) zo) fun B8=>(ra rfl (eX (cK (ts (rm rfl (ro rfl (iH U_30 (Ht rfl)) (ro rfl (cX (cJ 0)) (eX (eG (lJ 1 rfl (tK eM ⟨none,0,rfl⟩ (e:=51) (s:=5)) ?_)))))))))))))))))
 refine bO (fun (k : Nat) => k ≤ r) (fun (k : Nat) => r - k) (fun (k : Nat) => [(1, NT .i64 n), (5, Is (.slice (some ⟨B8, 0, none⟩) r r)), (10, NT .i64 r), (11, NT .i64 k)]) (fun (k : Nat) => [Z, kH eM B8 29 51 5 (bN aR (jA (fun _ => (tab n fun _ => Qi.zero)) [] r k))]) 0 (Nat.zero_le _)
  (zS rfl) (aU (fun _ _ _ h=>h) (aU (bI (by rw [← gF,lM]; exact mB aR r)) aY)) (fun k hk=>?_)
 refine ts (ro rfl (gX (Ht rfl) (Ht rfl)) (eX (cK (dQ (Ht rfl) (fun hd=>?_) (fun hd=>?_)))))
 ·simp only [decide_eq_true_eq] at hd
  refine jZ 1 (k) rfl (lF hd) (fun v hv=>(cU (cK (eG (ts (rm rfl (ra rfl (eX (cY (rm rfl (rm rfl (ro rfl (cZ K_77 (sE (n:=0) (by decide) (by decide)) ⟨(cJ 0),trivial⟩) (ro rfl (cZ K_98 Ni ⟨(Ht rfl),trivial⟩) (ro rfl (bT (xs:=[.tmp 17]) U_29 Z_51 O_51 (cW (Ht rfl) cG) rfl rfl rfl) (rm rfl (jT Tryz.call191 (Nz (m:=n) h1 hn) ⟨(Ht rfl),(Ht rfl),trivial⟩ rfl (fun B20 _=>?_)))))))))))))))))
  have hB20:=B20.2
  refine ro rfl (fY U_30 Z_29 (Ht rfl) (Ht rfl) rfl zo (by rw [Nat.mul_one,Nat.zero_add])) ?_
  refine sH Z_29 (Ht rfl) (Ht rfl) (by simp only [bN,List.length_map,dA]; omega) (j:=1) (l:=3) rfl rfl rfl ?_
  refine eX (aS (eS 1 3 rfl rfl (by decide) (by simp only [bN,List.length_map,dA]; omega) ?_))
  refine cY (ro rfl (dV (Ht rfl) (cJ 1) z6) (rm rfl (eX (cA [0,1] rfl (by decide) (fU (k + 1) hd zo (zS rfl) (aU (fun _ _ _ h=>h) (aU (bI (by rw [fF,← iP (f:=fun _=>(tab n fun _=>Qi.zero))])) aY)))))))
 ·simp only [decide_eq_false_iff_not] at hd
  obtain rfl:r = k:=Nat.le_antisymm zo hk
  refine gV rfl (ts (rm rfl (ra rfl (eX ?_))))
  exact jR B8 trivial [0,1] ⟨⟨_,rfl,fun _ _ _ h=>h⟩,⟨_,rfl,(bI (by rw [iO]; rfl))⟩,trivial⟩ (by decide) (tJ rfl (eU rfl))
end
section
open Go Go.RowKit
theorem a1Q {z:List Qi} {s:List (List Qi)} {q:Int} {o:List Int} (hl:z.length ≤ 1000) (ho:o.length ≤ 1000):bE Tryz.prog 125 [mD z s,aP .i64 q,kP 1 (o.map (aP .i64))] (aP .i64 (eI z.length q o)):=by
 refine bE.intro Tryz.func125 rfl Tryz.ntmps125 rfl (fun cx=>(ts (rn rfl (fG (Ht rfl)) fun B3=>(ro rfl (cQ (cJ 0)) (eX (cK (eG (ts (ro rfl (eJ A_32 Z_32 (Ht rfl) (i:=0) rfl rfl rfl) (rm rfl (ro rfl (cZ Tryz.call106 Qo ⟨(Ht rfl),(Ht rfl),trivial⟩) (ro rfl (gB (Ht rfl)) (ra rfl (eX (dQ (Ht rfl) (fun hb1=>?_) (fun hb1=>?_))))))))))))))))
 ·have h2 : ¬ (1 ≤ q ∧ q ≤ (z.length : Int)) := by simpa only [Bool.not_eq_true', decide_eq_false_iff_not] using hb1
  refine ts (ro rfl (cQ (cJ 1)) (eX (fW rfl (fX (eU rfl) ?_))))
  exact (aM (if_pos h2).symm)
 ·have h2 : 1 ≤ q ∧ q ≤ (z.length : Int) := by simpa using hb1
  refine ts (rm rfl (rm rfl (ro rfl (cZ Tryz.call95 (qL (l:=o) (v:=q) zo) ⟨(Ht rfl),(Ht rfl),trivial⟩) (ra rfl (eX (dQ (Ht rfl) (fun hb2=>?_) (fun hb2=>?_)))))))
  ·refine ts (ro rfl (cQ (cJ 8)) (eX (fW rfl (fX (eU rfl) ?_))))
   exact (aM (by rw [eI,if_neg (fun k=>k h2),if_pos hb2]; rfl))
  ·refine cU (aS (ts (ro rfl (cQ (cJ 0)) (eX (fW rfl (fX (eU rfl) ?_))))))
   exact (aM (by rw [eI,if_neg (fun k=>k h2),if_neg (by rw [hb2]; decide)]; rfl))
theorem Nh {l:List Int} {n i:Nat} {q:Int} (hi:i < n) (hn:n ≤ l.length) (h:l.getD i 0 = q):((l.take n).any fun x=>decide (q = x)) = true:=by
 rw [List.any_eq_true]
 refine ⟨q,?_,by simp⟩
 have e:l.getD i 0 = l[i]:=by simp [List.getD,show i < l.length by omega]
 rw [← h,e]
 exact List.mem_take_iff_getElem.2 ⟨i,by omega,rfl⟩
theorem Tm {l:List Int} {n:Nat} {q:Int} (h:∀ j,j < n → l.getD j 0 ≠ q):((l.take n).any fun x=>decide (q = x)) = false:=by
 rw [List.any_eq_false]
 intro x hx
 obtain ⟨j,hj,rfl⟩:=List.mem_take_iff_getElem.1 hx
 have:=h j zo
 simp [List.getD,show j < l.length by omega] at this
 simpa using Ne.symm this
theorem Zo {l:List Int} {n:Nat} {q:Int} (hn:n ≤ l.length) (hl:l.length ≤ 1000):bE Tryz.prog 254 [kP 1 (l.map (aP .i64)),NT .i64 n,aP .i64 q] (aE ((l.take n).any fun x=>decide (q = x))):=by
 refine bE.intro Tryz.func254 rfl Tryz.ntmps254 rfl (fun cx=>(ts (ro rfl (cQ cV) (eX (cK (ts (ro rfl (cQ (cJ 0)) (eX (eG ?_)))))))))
 refine bO (fun (i : Nat) => i ≤ n ∧ ∀ j, j < i → l.getD j 0 ≠ q) (fun (i : Nat) => n - i) (fun (i : Nat) => [(0, kP 1 (l.map (aP .i64))), (1, NT .i64 n), (2, aP .i64 q), (7, NT .i64 i)]) (fun (i : Nat) => []) 0 ⟨Nat.zero_le _, fun j h => by omega⟩
  (zS rfl) aY (fun i ⟨hi,h0⟩=>?_)
 refine cK (ts (rm rfl (rm rfl (ro rfl (gX (Ht rfl) (Ht rfl)) (eX (dQ (Ht rfl) (fun hd=>?_) (fun hd=>?_)))))))
 ·have hin : i < n := by simp only [decide_eq_true_eq] at hd; omega
  refine cU (cK (eG (ts (rm rfl (rm rfl (ro rfl (dZ U_72 Z_3 (Ht rfl) (Ht rfl) rfl (dY (dU (d:=0) zo))) (ro rfl (dJ A_3 Z_3 (Ht rfl)) (rm rfl (ro rfl (jO (Ht rfl) (Ht rfl)) (eX (dQ (Ht rfl) (fun he=>?_) (fun he=>?_))))))))))))
  ·have h3 : l.getD i 0 = q := by simpa using he
   refine ts (ro rfl (cQ cV) (eX (fW rfl (fX (eU rfl) ?_))))
   exact (eH (Nh hin hn h3).symm)
  ·have h3 : l.getD i 0 ≠ q := by simpa using he
   refine cU (aS (cY (rm rfl (ro rfl (dV (Ht rfl) (cJ 1) z6) (ra rfl (eX ?_))))))
   refine fU (i + 1) ⟨hin, fun j h => by
    by_cases e:j = i
    ·rw [e]; exact h3
    ·exact h0 j zo⟩ zo (zS rfl) aY
 ·have hin : i = n := by simp only [decide_eq_false_iff_not] at hd; omega
  rw [hin] at h0
  refine gV rfl (ts (ro rfl (cQ cV) (eX (fW rfl (fX (eU rfl) ?_)))))
  exact (eH (Tm h0).symm)
theorem Vd {n:Nat} {l:List Int} (hl:l.length ≤ 1000):bE Tryz.prog 212 [NT .i64 n,kP 1 (l.map (aP .i64))] (aP .i64 (pL n l)):=by
 refine bE.intro Tryz.func212 rfl Tryz.ntmps212 rfl (fun cx=>(ts (ro rfl (cQ (cJ 0)) (eX (cK (ts (ro rfl (cQ (cJ 0)) (eX (eG ?_)))))))))
 refine bO (fun (i : Nat) => i ≤ l.length ∧ ∀ j, j < i → (fun i => eI n (l.getD i 0) (l.take i)) j = 0) (fun (i : Nat) => l.length - i) (fun (i : Nat) => [(0, NT .i64 n), (1, kP 1 (l.map (aP .i64))), (5, NT .i64 i)]) (fun (i : Nat) => []) 0 ⟨Nat.zero_le _, fun j h => by omega⟩
  (zS rfl) aY (fun i ⟨hi,h0⟩=>?_)
 refine cK (ts (rm rfl (rm rfl (ro rfl (dG U_72 (Ht rfl) aA) (ro rfl (gX (Ht rfl) (Ht rfl)) (eX (dQ (Ht rfl) (fun hd=>?_) (fun hd=>?_))))))))
 ·have hin : i < l.length := by simp only [decide_eq_true_eq] at hd; omega
  refine cU (cK (eG (cK (ts (rm rfl (rm rfl (ro rfl (dZ U_72 Z_3 (Ht rfl) (Ht rfl) rfl (dY (dU (d:=0) zo))) (ro rfl (dJ A_3 Z_3 (Ht rfl)) (ro rfl (pJ (Ht rfl) cV) (rm rfl (fQ rfl rfl (eK rfl rfl (Ht rfl) (fun h=>cX (Ht rfl))) (fQ rfl rfl (eK rfl rfl (Ht rfl) (fun h=>cX (Ht rfl))) (fQ rfl rfl (eK rfl rfl (Ht rfl) (fun h=>dZ U_72 Z_3 (fJ rfl h) (fJ rfl h) rfl (dY (dU (d:=0) zo)))) (fQ rfl rfl (eK rfl rfl (Ht rfl) (fun h=>dJ A_3 Z_3 (fJ rfl h))) ?_))))))))))))))
  refine fQ rfl rfl (eK rfl rfl (Ht rfl) (fun h=>cX (Ht rfl))) (fQ rfl rfl (eK rfl rfl (Ht rfl) (fun h=>yL (fJ rfl h) (fJ rfl h))) (ro rfl (iV (Ht rfl) (fun h=>(fJ rfl h))) (eX (dQ (Ht rfl) (fun he=>?_) (fun he=>?_)))))
  ·have h3 : ¬ (1 ≤ l.getD i 0 ∧ l.getD i 0 ≤ (n : Int)) := by simp only [Bool.or_eq_true, decide_eq_true_eq] at he; omega
   have h4:(fun i=>eI n (l.getD i 0) (l.take i)) i = 1:=if_pos h3
   refine ts (ro rfl (cQ (cJ 1)) (eX (fW rfl (fX (eU rfl) ?_))))
   exact (aM (by rw [pL,lO h0 (fun k=>absurd (h4.symm.trans k) (by decide)) hin]; exact h4.symm))
  ·have h3 : 1 ≤ l.getD i 0 ∧ l.getD i 0 ≤ (n : Int) := by simp only [Bool.or_eq_false_iff, decide_eq_false_iff_not] at he; omega
   refine cU (ts (rm rfl (rm rfl (rm rfl (rm rfl (ro rfl (dZ U_72 Z_3 (Ht rfl) (Ht rfl) rfl (dY (dU (d:=0) zo))) (ro rfl (dJ A_3 Z_3 (Ht rfl)) (ro rfl (cZ Tryz.call254 (Zo (n:=i) (q:=l.getD i 0) zo hl) ⟨(Ht rfl),(Ht rfl),(Ht rfl),trivial⟩) (eX (dQ (Ht rfl) (fun hf=>?_) (fun hf=>?_)))))))))))
   ·have h4 : (fun i => eI n (l.getD i 0) (l.take i)) i = 8 := by show eI _ _ _ = 8; rw [eI, if_neg (fun k => k h3), if_pos hf]
    refine ts (ro rfl (cQ (cJ 8)) (eX (fW rfl (fX (eU rfl) ?_))))
    exact (aM (by rw [pL,lO h0 (fun k=>absurd (h4.symm.trans k) (by decide)) hin]; exact h4.symm))
   ·have h4 : (fun i => eI n (l.getD i 0) (l.take i)) i = 0 := by show eI _ _ _ = 0; rw [eI, if_neg (fun k => k h3), if_neg (by rw [hf]; decide)]
    refine cU (aS (cY (rm rfl (ro rfl (dV (Ht rfl) (cJ 1) z6) (ra rfl (eX ?_))))))
    refine fU (i + 1) ⟨hin, fun j h => by
     by_cases e:j = i
     ·rw [e]; exact h4
     ·exact h0 j zo⟩ zo (zS rfl) aY
 ·have hin : i = l.length := by simp only [decide_eq_false_iff_not] at hd; omega
  rw [hin] at h0
  refine gV rfl (ts (ro rfl (cQ (cJ 0)) (eX (fW rfl (fX (eU rfl) ?_)))))
  exact (aM (gO h0).symm)
end
section
open Go Go.RowKit
section
variable {P:Program} {n:Nat} {E:dF} {H:Hp}
variable {d:Option Tmp} {t:TypeId} {pos:String} {af:Array Edge} {g:Option (Nat × Bool)}
theorem Kj {f : FuncId} {xs : List Operand} {tys : Array TypeId} {Ts : List Ty} {U T0 T1 : Ty} {A : SA} {j tt : Nat} (hc : ∀ args w, (callFunc f args).run P w = .ok (.enter f args) w) (hF : bE P f Ts U)
  (hA:H[j]? = some A) (hl:gC E tt = some T0) (hz:∀ v S V,T0.p v V → A.h S V V → T1.p v V) (hU:∀ v V V',U.p v V → U.p v V') (ha:pM ((tt,T1) :: E) xs Ts) :
  aL P n E H ⟨d,.call ⟨.value (.func f),xs.toArray,tys⟩,t,pos,af,g⟩ U:=fun cx X a w V hi hs K Q hK=>by
 have hrun : (execOp a.eval ⟨d, .call ⟨.value (.func f), xs.toArray, tys⟩, t, pos, af, g⟩).run P w = .ok (.enter f (xs.map a.eval).toArray) w := by
  simp [execOp,resolve,Act.eval,Deferred.ofValue,invoke,hc]
 simp only [Oper.wp,hrun,Oper.upon_enter]
 obtain ⟨F,h1,h2⟩:=hi.hp
 have hjl:=(List.getElem?_eq_some_iff.1 hA).1
 obtain ⟨k1,k2⟩:=h1 j A (by rw [List.getElem?_append_left hjl]; exact hA)
 let V1:bD:=fun b=>if b ∈ F j then w.heap[b]? else V b
 have hle : nF V V1 := fun b o hb => by
  have:b ∉ F j:=fun hf=>by have:=(k2 b hf).1; rw [hb] at this; cases this
  simp only [V1,if_neg this]; exact hb
 have hon : ∀ b o, V1 b = some o → w.heap[b]? = some o := fun b o hb => by
  by_cases hf:b ∈ F j
  ·simp only [V1,if_pos hf] at hb; exact hb
  ·simp only [V1,if_neg hf] at hb; exact hi.on b o hb
 have hA1:A.h (F j) V1 V1:=A.mono (A.loc k1 fun b hb=>by simp only [V1,if_pos hb]; rfl) hle
 have hsl : fD n ((tt, T1) :: E) V1 a := by
  have hs':=hs.mono hle
  refine ⟨hs'.1,hs'.2.1,fun t' T hT=>?_⟩
  rw [dM] at hT
  by_cases e:tt = t'
  ·subst e
   rw [if_pos rfl] at hT; obtain rfl:=Option.some.inj hT
   obtain ⟨v,q1,q2⟩:=hs'.2.2 _ _ hl
   exact ⟨v,q1,hz v (F j) V1 q2 hA1⟩
  ·rw [if_neg e] at hT; exact hs'.2.2 t' T hT
 refine (hF _ V1 w hon (pM.all hsl ha)).mono ?_
 rintro e w' ⟨v,V',rfl,m1,m2,m3,m4,m5⟩
 exact hK v w' V (hi.after (nF.refl V) (fun b o hb=>m2 b o (m1 b o (hle b o hb))) (fun b o hb h0=>by rw [hb] at h0; cases h0) m4) (nF.refl V) (hU v V' V m5)
theorem Sy {x i : Operand} {q : Nat} {Ts : List Ty} {T : Ty} {kd : IntKind} {e : TypeId} {len : Nat} (hU : ∀ w, (underlying t).run P w = .ok (.array len e) w) (hS : ∀ w, (sizeOf e).run P w = .ok 1 w) (hg : ∀ w, (isAgg e).run P w = .ok false w)
  (hx:bF E x (eP Ts)) (hi:bF E i (NT kd q)) (hl:q < len) (hT:Ts[q]? = some T) {t':TypeId}:aL P n E H ⟨d,.index t x i,t',pos,af,g⟩ T :=
 fB fun a V w hs => by
  obtain ⟨vs,e1,e4⟩:=hx n V a hs
  have ei:a.eval i = .int kd (q:Int):=hi n V a hs
  obtain ⟨u,e5,e6⟩:=e4.all.get hT
  exact ⟨u,by simp [execOp,e1,ei,Instr.index,asIntOf,Sem.run_bind,hU,hS,hg,part,Result.andThen,hl,e5],e6⟩
end
end
section
open Go Go.RowKit
theorem Mt {n : Nat} {E : dF} {H : Hp} {d : Option Tmp} {t : TypeId} {pos : String} {af : Array Edge} {g : Option (Nat × Bool)} {x0 x1 : Operand} {T0 T1 : Ty} [s0 : dS T0 1 false] (h0 : bF E x0 T0) [s1 : dS T1 1 false] (h1 : bF E x1 T1) :
  aL Tryz.prog n E H ⟨d,.build 71 #[(0,x0),(1,x1)],t,pos,af,g⟩ (eP [T0,T1]) :=
 fS (parts := [(0, x0), (1, x1)]) fun a V w hs => by
  have p0:=h0 n V a hs
  generalize e0:a.eval x0 = v0 at p0
  have q0:=(s0.ok v0 V p0).2.2 rfl
  have p1:=h1 n V a hs
  generalize e1:a.eval x1 = v1 at p1
  have q1:=(s1.ok v1 V p1).2.2 rfl
  refine ⟨.agg #[v0,v1],?_,[v0,v1],rfl,aW (⟨p0,q0⟩) (aW (⟨p1,q1⟩) (aG))⟩
  simp [e0,e1,Instr.build,Instr.fill,Sem.run_bind,Result.andThen,eR,q0.cells,q1.cells,O_71,U_71,Z_3]
theorem a0z:Tryz.prog.info? 71 = some Tryz.t71:=by kernel_rfl
theorem a3R:Tryz.prog.underlying 26 = some (.slice 71):=by kernel_rfl
end
section
open Go Go.RowKit
theorem Xn {z:List Qi} {S:List (List Qi)} {js:List (Int × Int)} {L:Nat} (hfz:dD z L) (hL:1 ≤ L) (hLb:L ≤ 1000000) (hz:z.length ≤ 1000) (hj:js.length ≤ 100):bE Tryz.prog 117 [mD z S,Js js] (gD [kP 1 ((jeL z js).map (aP .i64)),aP .i64 (zC z js)]):=by
 refine bE.intro Tryz.func117 rfl Tryz.ntmps117 rfl (fun cx=>(ts (rn rfl (fG (Ht rfl)) fun B2=>(ro rfl (cQ cV) (ro rfl (cQ (cJ 0)) (eX (ts (ro rfl (cQ cV) (eX (cK (cK (pE 3 1 (cY (rm rfl (ro rfl (dG U_26 (Ht rfl) aA) (ro rfl (cX (cJ 0)) (eX (eG ?_))))))))))))))))))
 refine eC (fun (k : Nat) (vG : Value) => k ≤ js.length ∧ ∀ j, j < k → qZ z js j = 0) (fun (k : Nat) (vG : Value) => js.length - k) (fun (k : Nat) (vG : Value) => [(1, Js js), (2, bP B2 0), (6, Is vG), (12, Js js), (13, NT .i64 js.length), (14, NT .i64 k)]) (fun (k : Nat) (vG : Value) => [box B2 32 [cD z, cM S], bH 3 1 vG ((lC (js.take k)).map (aP .i64))]) 0 _ ⟨Nat.zero_le _, fun j h => by omega⟩
  (zS rfl) (aU (aB rfl) (aU (aD rfl) aY)) (fun k vG ⟨hk,h0⟩=>?_)
 refine ts (ro rfl (gX (Ht rfl) (Ht rfl)) (eX (cK (dQ (Ht rfl) (fun hd=>?_) (fun hd=>?_)))))
 ·have hkn : k < js.length := by simp only [decide_eq_true_eq] at hd; omega
  have hjk:=nD (js.take k)
  refine cU (cK (eG (ts (ro rfl (dZ U_26 Z_71 (Ht rfl) (Ht rfl) rfl (dY (dU (d:=(0,0)) hkn))) (ro rfl (dJ Tryz.isAgg71 Z_71 (Ht rfl)) (rn rfl (eW (Ts:=[Is (.int .i64 0),Is (.int .i64 0)]) O_71 rfl (fun V=>aW zd (aW zd (aG)))) fun B8=>(gQ Z_71 (Ht rfl) (Ht rfl) rfl (i:=2) rfl (aK rfl) rfl rfl (eX (cK (cK (gJ (i:=2) (tt:=8) rfl rfl Hv (cY (ro rfl (dJ Tryz.isAgg71 Z_71 (Ht rfl)) ?_)))))))))))))
  refine ro rfl (cX (cJ 0)) (eX (eG (cA [0,1] rfl (by decide) ?_)))
  refine eC (fun (i : Nat) (vI : Value) => i ≤ 2 ∧ ∀ x, x < i → Hb z js k x = 0) (fun (i : Nat) (vI : Value) => 2 - i) (fun (i : Nat) (vI : Value) => [(1, Js js), (2, bP B2 0), (6, Is vI), (8, PT (JT (iG js k))), (12, Js js), (13, NT .i64 js.length), (14, NT .i64 k), (18, JT (iG js k)), (19, NT .i64 i)]) (fun (i : Nat) (vI : Value) => [box B2 32 [cD z, cM S], bH 3 1 vI ((lC (js.take k) ++ (Jg (iG js k)).take i).map (aP .i64))]) 0 _ ⟨Nat.zero_le _, fun x h => by omega⟩
   (zS rfl) (aU (aB rfl) (aU (aD (by rw [List.take_zero,List.append_nil])) aY)) (fun i vI ⟨hi,h1⟩=>?_)
  refine ts (ro rfl (gX (Ht rfl) (cJ 2)) (eX (cK (dQ (Ht rfl) (fun he=>?_) (fun he=>?_)))))
  ·have hi2 : i < 2 := by simp only [decide_eq_true_eq] at he; omega
   have hol:(lC (js.take k) ++ (Jg (iG js k)).take i).length ≤ 300:=by rw [List.length_append,hjk,List.length_take,List.length_take]; omega
   refine cU (cK (eG (ts (ro rfl (Sy U_71 Z_3 A_3 (Ht rfl) (Ht rfl) zo (a0o hi2)) (ra rfl (eX (cK (ts (ro rfl (eJ A_32 Z_32 (Ht rfl) (i:=0) rfl rfl rfl) (rm rfl (rm rfl (ro rfl (Kj Tryz.call125 (a1Q (z:=z) (s:=S) (q:=(Jg (iG js k)).getD i 0) (o:=lC (js.take k) ++ (Jg (iG js k)).take i) hz zo) (j:=1) (tt:=24) rfl rfl eB (fun _ _ _ h=>h) ⟨(Ht rfl),(Ht rfl),(Ht rfl),trivial⟩) (ra rfl (eX (ts (rm rfl (ro rfl (kS (Ht rfl) cV) (eX (dQ (Ht rfl) (fun hf=>?_) (fun hf=>?_))))))))))))))))))))
   ·have h3 : Hb z js k i ≠ 0 := by simp only [Bool.not_eq_true', decide_eq_false_iff_not] at hf; exact hf
    have h4:=a4R hi2 h1 h3
    have h5:sW z js = Hb z js k i:=(lO h0 (by rw [h4]; exact h3) hkn).trans h4
    have h6:zC z js = Hb z js k i:=(Hn (by rw [h5]; exact h3)).trans h5
    refine ts (rm rfl (ro rfl (cQ cV) (ra rfl (eX (bM rfl (fX (eU rfl) ?_) (fX (eU rfl) ?_))))))
    ·exact (fun v V h=>by rw [jeL,dL,h6,if_neg h3]; exact iR v V h)
    ·exact (aM h6.symm)
   ·have h3 : Hb z js k i = 0 := by simp only [Bool.not_eq_false', decide_eq_true_eq] at hf; exact hf
    refine cU (cY (rm rfl (rm rfl (ro rfl (bT (xs:=[.tmp 30]) U_72 Z_3 O_3 (cW (Ht rfl) cG) rfl rfl rfl) (iD (inf:=Tryz.t3) rT sA rfl rfl rfl (Ht rfl) (Ht rfl) (i:=1) rfl (by simp) (fun T hT=>by simp at hT; subst hT; exact El.one) (by show _ * 8 ≤ _; simp only [List.length_map,List.length_cons,List.length_nil]; omega) (by simp only [List.length_map,List.length_cons,List.length_nil]; omega) rfl (fun v2=>?_))))))
    refine ra rfl (eX (aS (cY (ro rfl (dV (Ht rfl) (cJ 1) z6) (rm rfl (eX ?_))))))
    refine fU (i + 1, v2) ⟨hi2, fun x hx => by
      by_cases e:x = i
      ·rw [e]; exact h3
      ·exact h1 x zo⟩ (by dsimp only; omega) (zS rfl) (aU (aB rfl) (aU (aD (by rw [Wu hi2,← List.append_assoc,List.map_append (l₁:=lC (js.take k) ++ (Jg (iG js k)).take i)]; rfl)) aY))
  ·obtain rfl : i = 2 := by simp only [decide_eq_false_iff_not] at he; omega
   obtain ⟨⟨p1,p2⟩,⟨p3,p4⟩,h3⟩:=a4u h1
   have hrow:lC (js.take (k + 1)) = lC (js.take k) ++ (Jg (iG js k)).take 2:=sO hkn
   haveI g1:=hfz.get hL ((iG js k).1 - 1).toNat
   haveI g2:=hfz.get hL ((iG js k).2 - 1).toNat
   refine gV rfl (cK (fZ (m:=14) (dp 2 rfl (eZ pT (Ht rfl) rfl) (dq 34 0 rfl (eY A_29 Z_29 (Ht rfl) (i:=0) rfl rfl) (dp 8 rfl (kV U_71 Z_3 (Ht rfl) cV rfl (by decide) rfl) (dq 36 2 rfl (dJ A_3 Z_3 (Ht rfl)) (dq 37 3 rfl (fA (Ht rfl) cV (r:=((((iG js k).1 - 1).toNat:Nat):Int)) ((tE (z:=(iG js k).1 - 1) zo).trans zo)) ?_)))))))
   refine cL 35 1 38 4 rfl (dZ U_29 Z_51 (Ht rfl) (Ht rfl) rfl (dY (dU (d:=Qi.zero) zo))) (dq 39 5 rfl (dJ A_51 Z_51 (Ht rfl)) (dp 2 rfl (eZ pT (Ht rfl) rfl) (dq 41 7 rfl (eY A_29 Z_29 (Ht rfl) (i:=0) rfl rfl) (dp 8 rfl (kV U_71 Z_3 (Ht rfl) cV rfl (by decide) rfl) (dq 43 9 rfl (dJ A_3 Z_3 (Ht rfl)) (dq 44 10 rfl (fA (Ht rfl) cV (r:=((((iG js k).2 - 1).toNat:Nat):Int)) ((tE (z:=(iG js k).2 - 1) zo).trans zo)) ?_))))))
   refine cL 42 8 45 11 rfl (dZ U_29 Z_51 (Ht rfl) (Ht rfl) rfl (dY (dU (d:=Qi.zero) zo))) (dq 46 12 rfl (dJ A_51 Z_51 (Ht rfl)) (fV aT rfl (by kernel_rfl) (zF (zF (zF (aJ (aJ (aV (ro rfl (cZ Tryz.call139 (a3d (x:=gv z ((iG js k).1 - 1).toNat) (y:=gv z ((iG js k).2 - 1).toNat) (L:=L) (M:=L) zo zo) ⟨(Ht rfl),(Ht rfl),trivial⟩) (ro rfl (gB (Ht rfl)) ?_))))))))))
   refine eX (dQ (Ht rfl) (fun hg=>?_) (fun hg=>?_))
   ·have h4 : qZ z js k = 40 := by rw [h3, if_neg (by simpa using hg)]
    have h5:sW z js = 40:=(lO h0 (by rw [h4]; decide) hkn).trans h4
    have h6:zC z js = 40:=(Hn (by rw [h5]; decide)).trans h5
    refine ts (ro rfl (cQ cV) (ro rfl (cQ (cJ 40)) (eX (bM rfl (fX (eU rfl) ?_) (fX (eU rfl) ?_)))))
    ·exact (fun v V h=>by rw [jeL,dL,h6]; exact iR v V h)
    ·exact (aM h6.symm)
   ·have h4 : qZ z js k = 0 := by rw [h3, if_pos (by simpa using hg)]
    refine cU (aS (cY (ro rfl (dV (Ht rfl) (cJ 1) z6) (rm rfl (eX ?_)))))
    refine fU (k + 1, vI) ⟨hkn, fun j h => by
      by_cases e:j = k
      ·rw [e]; exact h4
      ·exact h0 j zo⟩ (by dsimp only; omega) (zS rfl) (aU (aB rfl) (aU (aD (by rw [hrow])) aY))
 ·obtain rfl : k = js.length := by simp only [decide_eq_false_iff_not] at hd; omega
  have h2:sW z js = 0:=gO h0
  have hll:=nD js
  rw [List.take_length]
  refine gV rfl (cK (ts (rm rfl (ro rfl (oO U_72 (Ht rfl) (i:=1) rfl aA) (ro rfl (eD (Ht rfl) (cJ 0)) (rm rfl (fQ rfl rfl (eK rfl rfl (Ht rfl) (fun h=>cX (Ht rfl))) (fQ rfl rfl (eK rfl rfl (Ht rfl) (fun h=>oO U_72 (fJ rfl h) (i:=1) rfl aA)) (fQ rfl rfl (eK rfl rfl (Ht rfl) (fun h=>eZ pT (Ht rfl) rfl)) (fQ rfl rfl (eK rfl rfl (Ht rfl) (fun h=>eY A_29 Z_29 (fJ rfl h) (i:=0) rfl rfl)) (fQ rfl rfl (eK rfl rfl (Ht rfl) (fun h=>dG U_29 (fJ rfl h) aA)) ?_)))))))))))
  refine fQ rfl rfl (eK rfl rfl (Ht rfl) (fun h=>cP (fJ rfl h) (fJ rfl h))) (ro rfl (fE (Ht rfl) (fun h=>(fJ rfl h))) (eX (dQ (Ht rfl) (fun hc=>?_) (fun hc=>?_))))
  ·have h3 : 0 < 2 * js.length ∧ 2 * js.length = z.length := by simpa [hll] using hc
   have h6:zC z js = 4:=Rm h2 h3
   refine ts (ro rfl (cQ cV) (ro rfl (cQ (cJ 4)) (eX (bM rfl (fX (eU rfl) ?_) (fX (eU rfl) ?_)))))
   ·exact (fun v V h=>by rw [jeL,dL,h6]; exact iR v V h)
   ·exact (aM h6.symm)
  ·have h3 : ¬ (0 < 2 * js.length ∧ 2 * js.length = z.length) := by simpa [hll] using hc
   have h6:zC z js = 0:=Oi h2 h3
   refine gJ (i:=1) (tt:=6) rfl rfl eB (cU (ts (rm rfl (ra rfl (ro rfl (cQ (cJ 0)) (eX (bM rfl (fX (eU rfl) ?_) (fX (eU rfl) ?_))))))))
   ·exact (kR (by rw [jeL,dL,h6]; rfl))
   ·exact (aM h6.symm)
theorem Sq {z:List Qi} {S:List (List Qi)} {js:List (Int × Int)} {L:Nat} (hfz:dD z L) (hL:1 ≤ L) (hLb:L ≤ 1000000) (hz:z.length ≤ 1000) (hj:js.length ≤ 100):bE Tryz.prog 197 [oI z S,Js js] (gD [Xr (dL (sW z js) (cC js)),aP .i64 (sW z js)]):=by
 have hpl:=wG js
 refine bE.intro Tryz.func197 rfl Tryz.ntmps197 rfl (fun cx=>(ts (rn rfl (fG (Ht rfl)) fun B2=>(ro rfl (cQ cV) (ro rfl (cQ (cJ 0)) (eX (ts (rn rfl (mN U_72 Z_3 O_3) fun B12=>(ra rfl (eX (ts (rn rfl (mN U_26 Z_71 O_71) fun B13=>(ra rfl (eX (cK (ts (ro rfl (cQ (cJ 0)) (eX (eG ?_)))))))))))))))))))
 refine iB (fun (k : Nat) (vG : Value) (vP : Value) => k ≤ js.length ∧ ∀ j, j < k → qZ z js j = 0) (fun (k : Nat) (vG : Value) (vP : Value) => js.length - k) (fun (k : Nat) (vG : Value) (vP : Value) => [(1, Js js), (2, bP B2 0), (6, Is vG), (7, Is vP), (8, NT .i64 k)]) (fun (k : Nat) (vG : Value) (vP : Value) => [box B2 38 [oT z, QM S], bH 3 1 vG ((lC (js.take k)).map (aP .i64)), bH 71 2 vP (((cC js).take k).map PrT)]) 0 _ _ ⟨Nat.zero_le _, fun j h => by omega⟩
  (zS rfl) (aU (aB rfl) (aU (aD rfl) (aU (aD rfl) aY))) (fun k vG vP ⟨hk,h0⟩=>?_)
 refine cK (ts (rm rfl (rm rfl (ro rfl (dG U_26 (Ht rfl) aA) (ro rfl (gX (Ht rfl) (Ht rfl)) (eX (dQ (Ht rfl) (fun hd=>?_) (fun hd=>?_))))))))
 ·have hkn : k < js.length := by simp only [decide_eq_true_eq] at hd; omega
  have hjk:=nD (js.take k)
  have hjt:(js.take k).length ≤ 100:=by rw [List.length_take]; omega
  have hkt:((cC js).take k).length ≤ 100:=by rw [List.length_take]; omega
  have hjk2:(lC (js.take (k + 1))).length ≤ 1000:=by rw [nD,List.length_take]; omega
  have hrow:lC (js.take (k + 1)) = lC (js.take k) ++ [(iG js k).1,(iG js k).2]:=sO hkn
  refine cU (cK (eG (cK (fZ (m:=12) (dp 6 rfl (cX (Ht rfl)) (dp 1 rfl (cX (Ht rfl)) (dp 8 rfl (cX (Ht rfl)) (cL 21 1 22 2 rfl (dZ U_26 Z_71 (Ht rfl) (Ht rfl) rfl (dY (dU (d:=(0,0)) hkn))) (dq 23 3 rfl (kV U_71 Z_3 (Ht rfl) cV rfl (by decide) rfl) (dq 24 4 rfl (dJ A_3 Z_3 (Ht rfl)) (dp 1 rfl (cX (Ht rfl)) (dp 8 rfl (cX (Ht rfl)) (cL 26 6 27 7 rfl (dZ U_26 Z_71 (Ht rfl) (Ht rfl) rfl (dY (dU (d:=(0,0)) hkn))) ?_)))))))))))))
  refine dq 28 8 rfl (kV U_71 Z_3 (Ht rfl) cV rfl (by decide) rfl) (dq 29 9 rfl (dJ A_3 Z_3 (Ht rfl)) (cL 25 5 30 10 rfl (bT (xs:=[.tmp 25,.tmp 30]) U_72 Z_3 O_3 (cW (Ht rfl) (cW (Ht rfl) cG)) rfl rfl rfl) (fV aT rfl (by kernel_rfl) (zF (zF (zF (aV (iD (inf:=Tryz.t3) rT sA rfl rfl rfl (Ht rfl) (Ht rfl) (i:=1) rfl (by simp) (fun T hT=>by simp at hT; rcases hT with rfl | rfl <;> exact El.one) (by show _ * 8 ≤ _; simp only [List.length_map,List.length_cons,List.length_nil]; omega) (by simp only [List.length_map,List.length_cons,List.length_nil]; omega) rfl (fun v2=>?_)))))))))
  refine ra rfl (eX (cK (cK (lJ 1 rfl (aD (e:=3) (s:=1) (by rw [hrow,List.map_append]; rfl:_ = (lC (js.take (k + 1))).map (aP .i64))) ?_))))
  refine cY (ro rfl (eZ kU (Ht rfl) rfl) (ro rfl (eY A_35 Z_35 (Ht rfl) (i:=0) rfl rfl) (ro rfl (dG U_35 (Ht rfl) aA) (rm rfl (ro rfl (Kj Tryz.call212 (Vd (n:=z.length) (l:=lC (js.take (k + 1))) hjk2) (j:=1) (tt:=36) rfl rfl eB (fun _ _ _ h=>h) ⟨(Ht rfl),(Ht rfl),trivial⟩) (ra rfl (eX (ts (rm rfl (ro rfl (kS (Ht rfl) cV) (eX (dQ (Ht rfl) (fun hf=>?_) (fun hf=>?_)))))))))))))
  ·have h3 : pL z.length (lC (js.take (k + 1))) ≠ 0 := by simpa using hf
   have h4:qZ z js k = pL z.length (lC (js.take (k + 1))):=by rw [Ru hkn h0,if_pos h3]
   have h5:sW z js = pL z.length (lC (js.take (k + 1))):=(lO h0 (by rw [h4]; exact h3) hkn).trans h4
   refine ts (rm rfl (ro rfl (cQ cV) (ra rfl (eX (bM rfl (fX (eU rfl) ?_) (fX (eU rfl) ?_))))))
   ·exact (fun v V h=>by rw [dL,h5,if_neg h3]; exact iR v V h)
   ·exact (aM h5.symm)
  ·have h3 : pL z.length (lC (js.take (k + 1))) = 0 := by simpa using hf
   have h4:qZ z js k = if gv z ((iG js k).1 - 1).toNat = gv z ((iG js k).2 - 1).toNat then 0 else 40:=by rw [Ru hkn h0,if_neg (fun k=>k h3)]
   obtain ⟨⟨p1,p2⟩,p3,p4⟩:=a4j h3 hkn
   haveI g1:=hfz.get hL ((iG js k).1 - 1).toNat
   haveI g2:=hfz.get hL ((iG js k).2 - 1).toNat
   refine cU (cK (fZ (m:=13) (dp 1 rfl (cX (Ht rfl)) (dp 8 rfl (cX (Ht rfl)) (cL 41 0 42 1 rfl (dZ U_26 Z_71 (Ht rfl) (Ht rfl) rfl (dY (dU (d:=(0,0)) hkn))) (dq 43 2 rfl (kV U_71 Z_3 (Ht rfl) cV rfl (by decide) rfl) (dq 44 3 rfl (dJ A_3 Z_3 (Ht rfl)) (dq 45 4 rfl (fA (Ht rfl) cV (r:=((((iG js k).1 - 1).toNat:Nat):Int)) ((tE (z:=(iG js k).1 - 1) zo).trans zo)) ?_))))))))
   refine dp 1 rfl (cX (Ht rfl)) (dp 8 rfl (cX (Ht rfl)) (cL 47 6 48 7 rfl (dZ U_26 Z_71 (Ht rfl) (Ht rfl) rfl (dY (dU (d:=(0,0)) hkn))) (dq 49 8 rfl (kV U_71 Z_3 (Ht rfl) cV rfl (by decide) rfl) (dq 50 9 rfl (dJ A_3 Z_3 (Ht rfl)) (dq 51 10 rfl (fA (Ht rfl) cV (r:=((((iG js k).2 - 1).toNat:Nat):Int)) ((tE (z:=(iG js k).2 - 1) zo).trans zo)) ?_)))))
   refine dq 46 5 rfl (cQ (Ht rfl)) (fV aT rfl (by kernel_rfl) (zF (zF (zF (aJ (aV (ra rfl (eX (cK (cK (fZ (m:=10) (dp 2 rfl (eZ kU (Ht rfl) rfl) (dq 53 0 rfl (eY A_35 Z_35 (Ht rfl) (i:=0) rfl rfl) (dp 10 rfl (cX (Ht rfl)) (cL 54 1 55 2 rfl (dZ U_35 Z_131 (Ht rfl) (Ht rfl) rfl (dY (dU (d:=Qi.zero) zo))) (dq 56 3 rfl (dJ A_131 Z_131 (Ht rfl)) ?_))))))))))))))))
   refine dp 2 rfl (eZ kU (Ht rfl) rfl) (dq 58 5 rfl (eY A_35 Z_35 (Ht rfl) (i:=0) rfl rfl) (dp 11 rfl (cX (Ht rfl)) (cL 59 6 60 7 rfl (dZ U_35 Z_131 (Ht rfl) (Ht rfl) rfl (dY (dU (d:=Qi.zero) zo))) (dq 61 8 rfl (dJ A_131 Z_131 (Ht rfl)) (fV aT rfl (by kernel_rfl) (zF (zF (aJ (aJ (aV (ro rfl (cZ Tryz.call164 (a0y (x:=gv z ((iG js k).1 - 1).toNat) (y:=gv z ((iG js k).2 - 1).toNat) (L:=L) (M:=L) zo zo) ⟨(Ht rfl),(Ht rfl),trivial⟩) ?_)))))))))))
   refine ro rfl (gB (Ht rfl)) (eX (dQ (Ht rfl) (fun hg=>?_) (fun hg=>?_)))
   ·have h5 : qZ z js k = 40 := by rw [h4, if_neg (by simpa using hg)]
    have h6:sW z js = 40:=(lO h0 (by rw [h5]; decide) hkn).trans h5
    refine ts (ro rfl (cQ cV) (ro rfl (cQ (cJ 40)) (eX (bM rfl (fX (eU rfl) ?_) (fX (eU rfl) ?_)))))
    ·exact (fun v V h=>by rw [dL,h6]; exact iR v V h)
    ·exact (aM h6.symm)
   ·have h5 : qZ z js k = 0 := by rw [h4, if_pos (by simpa using hg)]
    refine cU (cY (rm rfl (rm rfl (rm rfl (ro rfl (Mt (Ht rfl) (Ht rfl)) (ro rfl (bT (xs:=[.tmp 68]) U_26 Z_71 O_71 (cW (Ht rfl) cG) rfl rfl rfl) (iD (inf:=Tryz.t71) a3R a0z rfl rfl rfl (Ht rfl) (Ht rfl) (i:=2) rfl (by simp) (fun T hT=>by simp at hT; subst hT; exact El.ag rfl) (by show _ * 16 ≤ _; simp only [List.length_map,List.length_cons,List.length_nil]; omega) (by simp only [List.length_map,List.length_cons,List.length_nil]; omega) rfl (fun v3=>?_))))))))
    refine ra rfl (eX (aS (cY (rm rfl (ro rfl (dV (Ht rfl) (cJ 1) z6) (ra rfl (eX ?_)))))))
    refine fU (k + 1, v2, v3) ⟨hkn, fun j h => by
      by_cases e:j = k
      ·rw [e]; exact h5
      ·exact h0 j zo⟩ (by dsimp only; omega) (zS rfl) (aU (aB rfl) (aU (fun _ _ _ h=>h) (aU (aD (by rw [Zi hkn,List.map_append]; rfl)) aY)))
 ·obtain rfl : k = js.length := by simp only [decide_eq_false_iff_not] at hd; omega
  have h2:sW z js = 0:=gO h0
  rw [show (cC js).take js.length = cC js by rw [← hpl,List.take_length]]
  refine gJ (i:=2) (tt:=7) rfl rfl eB (gV rfl (ts (rm rfl (ra rfl (ro rfl (cQ (cJ 0)) (eX (bM rfl (fX (eU rfl) ?_) (fX (eU rfl) ?_))))))))
  ·exact (kR (by rw [dL,if_pos h2]))
  ·exact (aM h2.symm)
end
section
open Go Go.RowKit
theorem a4V {x : Nat} (h : x < 20) : IntKind.wrap .i64 ((BitVec.ofInt (IntKind.bits .i64) (x : Int) ^^^ BitVec.ofInt (IntKind.bits .i64) ((1 : Nat) : Int)).toNat : Nat) = ((iM x : Nat) : Int) :=
 (by decide +kernel:∀ x:Nat,x < 20 → IntKind.wrap .i64 ((BitVec.ofInt (IntKind.bits .i64) (x:Int) ^^^ BitVec.ofInt (IntKind.bits .i64) ((1:Nat):Int)).toNat:Nat) = ((iM x:Nat):Int)) x h
theorem a1L {z:List Qi} {S:List (List Qi)} {js:List (Int × Int)} {x:Nat} (hS:eE S z.length z.length) (hd:sW z js = 0) (hx:x < 2 * js.length) (hm:2 * js.length ≤ 18) (hz:z.length ≤ 1000):bE Tryz.prog 118 [NT .i64 x,PT (mD z S),PT (dP ((nJ js).map Nat.succ))] (cD (S.getD (gq (cC js) (iM x)) [])):=by
 have hpx:iM x < 2 * js.length:=nN hx
 have hgq:=(vA hd).lt (iM x) hpx
 have hSl:=hS.1
 have hJl:=Au js
 have hat:gY (nJ js) (iM x) = gq (cC js) (iM x):=Gi hpx
 refine bE.intro Tryz.func118 rfl Tryz.ntmps118 rfl (fun cx=>(ts (ro rfl (cQ cV) (eX (cK (fZ (m:=8) (dp 1 rfl (Ba tW (Ht rfl) rfl) (dq 5 0 rfl (dJ A_30 Z_30 (Ht rfl)) (dp 2 rfl (dJ A_72 Z_72 (Ht rfl)) (dp 0 rfl (cX (Ht rfl)) (dq 8 3 rfl (Ot (Ht rfl) (cJ 1) (a4V zo)) (cL 7 2 9 4 rfl (dZ U_72 Z_3 (Ht rfl) (Ht rfl) rfl (dY (pQ zo))) (dq 10 5 rfl (dJ A_3 Z_3 (Ht rfl)) (dq 11 6 rfl (aL.nat (dW (Ht rfl) (cJ 1) zo z6) (show gY (nJ js) (iM x) + 1 - 1 = gq (cC js) (iM x) by omega)) ?_))))))))))))))
 refine fV aT rfl (by kernel_rfl) (zF (zF (aV (ro rfl (dZ U_30 Z_29 (Ht rfl) (Ht rfl) rfl (dY (dU (d:=[]) zo))) (ro rfl (dJ A_29 Z_29 (Ht rfl)) (ra rfl (eX ?_)))))))
 exact fW rfl (eU rfl)
theorem a2w {x y:Nat}:bE Tryz.prog 120 [NT .i64 x,NT .i64 y] (aR (if x = y then Qi.ofInt 1 else Qi.ofInt 0)):=by
 refine bE.intro Tryz.func120 rfl Tryz.ntmps120 rfl (fun cx=>(ts (rn rfl (eW (Ts:=[Is (.bool false),Is (.slice none 0 0),Is (.bool false),Is (.slice none 0 0),Is (.slice none 0 0)]) O_51 rfl (fun V=>aW zd (aW zd (aW zd (aW zd (aW zd (aG))))))) fun B4=>(eX (cK (ts (rm rfl (rm rfl (ro rfl (cP (Ht rfl) (Ht rfl)) (eX (dQ (Ht rfl) (fun hb=>?_) (fun hb=>?_))))))))))))
 ·have h2 : x = y := by simpa using hb
  refine ts (ro rfl (cZ Tryz.call109 (Pj (n:=1) (by decide) (by decide)) ⟨(cJ 1),trivial⟩) (gQ Z_51 (Ht rfl) (Ht rfl) rfl (i:=0) rfl (aK rfl) rfl rfl (eX (fW rfl (fX (fK A_51 Z_51 rfl (i:=0) rfl rfl) ?_)))))
  exact (lX (if_pos h2).symm)
 ·have h2 : ¬ x = y := by simpa using hb
  refine cU (ts (ro rfl (cZ Tryz.call109 (Pj (n:=0) (by decide) (by decide)) ⟨(cJ 0),trivial⟩) (gQ Z_51 (Ht rfl) (Ht rfl) rfl (i:=0) rfl (aK rfl) rfl rfl (eX (fW rfl (fX (fK A_51 Z_51 rfl (i:=0) rfl rfl) ?_))))))
  exact (lX (if_neg h2).symm)
theorem a1t {z:List Qi} {S:List (List Qi)} {js:List (Int × Int)} {x y L:Nat} (hS:eE S z.length z.length) (hf:bR S L) (hL:1 ≤ L) (hLb:L ≤ 1000) (hd:sW z js = 0) (hx:x < 2 * js.length) (hy:y < 2 * js.length) (hm:2 * js.length ≤ 18) (hz:z.length ≤ 1000):bE Tryz.prog 119 [NT .i64 x,NT .i64 y,PT (Gl Tryz.prog (Fin (2 * js.length)) (fun x=>[NT .i64 x.1]) (fun x=>cD (S.getD (gq (cC js) (iM x.1)) []))),PT (dP ((nJ js).map Nat.succ))] (aR ((if x = y then Qi.ofInt 1 else Qi.ofInt 0) - gm S (gq (cC js) (iM x)) (gq (cC js) y))):=by
 have hpx:iM x < 2 * js.length:=nN hx
 have hgx:=(vA hd).lt (iM x) hpx
 have hgy:=(vA hd).lt y hy
 have hSl:=hS.1
 have hSr:=hS.row hgx
 have hJl:=Au js
 have hat:gY (nJ js) y = gq (cC js) y:=Gi hy
 haveI g1:aO (gm S (gq (cC js) (iM x)) (gq (cC js) y)) L:=hf.get hL _ _
 haveI g2 : aO (if x = y then Qi.ofInt 1 else Qi.ofInt 0) 1 := by
  split
  ·exact wJ
  ·exact (aO.zero (Nat.le_refl 1):aO Qi.zero 1)
 refine bE.intro Tryz.func119 rfl Tryz.ntmps119 rfl (fun cx=>(ts (rn rfl (eW (Ts:=[Is (.bool false),Is (.slice none 0 0),Is (.bool false),Is (.slice none 0 0),Is (.slice none 0 0)]) O_51 rfl (fun V=>aW zd (aW zd (aW zd (aW zd (aW zd (aG))))))) fun B6=>(eX (cK (fZ (m:=14) (dp 0 rfl (cX (Ht rfl)) (dp 1 rfl (cX (Ht rfl)) (cL 7 0 8 1 rfl (cZ Tryz.call120 (a2w (x:=x) (y:=y)) ⟨(Ht rfl),(Ht rfl),trivial⟩) (dq 9 2 rfl (cR dT (Ht rfl)) ?_))))))))))
 refine dp 2 rfl (dJ Tryz.isAgg175 Tryz.sizeOf175 (Ht rfl)) (dp 0 rfl (cX (Ht rfl)) (cL 11 4 12 5 rfl (sV (Ts:=fun x:Fin (2 * js.length)=>[NT .i64 x.1]) ⟨x,hx⟩ (Ht rfl) ⟨(Ht rfl),trivial⟩) (dp 3 rfl (dJ A_72 Z_72 (Ht rfl)) (dp 1 rfl (cX (Ht rfl)) (cL 14 7 15 8 rfl (dZ U_72 Z_3 (Ht rfl) (Ht rfl) rfl (dY (pQ zo))) (dq 16 9 rfl (dJ A_3 Z_3 (Ht rfl)) (dq 17 10 rfl (aL.nat (dW (Ht rfl) (cJ 1) zo z6) (show gY (nJ js) y + 1 - 1 = gq (cC js) y by omega)) ?_)))))))
 refine cL 13 6 18 11 rfl (dZ U_29 Z_51 (Ht rfl) (Ht rfl) rfl (dY (dU (d:=Qi.zero) (show gq (cC js) y < (S.getD (gq (cC js) (iM x)) []).length by omega)))) (dq 19 12 rfl (dJ A_51 Z_51 (Ht rfl)) (fV aT rfl (by kernel_rfl) (zF (zF (zF (aJ (aJ (aV (ro rfl (cI lE K_44 (Di (x:=if x = y then Qi.ofInt 1 else Qi.ofInt 0) (y:=gm S (gq (cC js) (iM x)) (gq (cC js) y)) (L:=1) (M:=L) zo) (Ht rfl) ⟨(Ht rfl),trivial⟩) ?_)))))))))
 refine gQ Z_51 (Ht rfl) (Ht rfl) rfl (i:=0) rfl (aK rfl) rfl rfl (eX ?_)
 exact fW rfl (fK A_51 Z_51 rfl (i:=0) rfl rfl)
theorem a2H {z:List Qi} {S:List (List Qi)} {js:List (Int × Int)} {L:Nat} (hS:eE S z.length z.length) (hf:bR S L) (hfz:dD z L) (hL:1 ≤ L) (hLb:L ≤ 1000) (hz:z.length ≤ 18) (hj:js.length ≤ 100) (hg:∀ k,2 * k < z.length → 6 * cE (L + 2) (2 * k) + 4 ≤ 17592186044415) (hx:∀ k,2 * k < z.length → qP (cE (L + 2) (2 * k)) (2 * k + 1) ≤ 100000000000):bE Tryz.prog 31 [mD z S,Js js] (gD [mD (sF z S js) (uM z S js),aP .i64 (rQ z S js)]):=by
 have hll:=nD js
 have hJl:=Au js
 have hSl:=hS.1
 refine bE.intro Tryz.func31 rfl Tryz.ntmps31 rfl (fun cx=>(ts (rn rfl (fG (Ht rfl)) fun B2=>(rn rfl (eW (Ts:=[Is (.slice none 0 0),Is (.slice none 0 0)]) O_32 rfl (fun V=>aW zd (aW zd (aG)))) fun B4=>(ro rfl (cQ (cJ 0)) (eX (ts (ro rfl (eJ A_32 Z_32 (Ht rfl) (i:=0) rfl rfl rfl) (rm rfl (ro rfl (cZ Tryz.call117 (Xn (z:=z) (S:=S) (js:=js) (L:=L) hfz hL zo zo hj) ⟨(Ht rfl),(Ht rfl),trivial⟩) (rm rfl (ro rfl (dK (Ht rfl) rfl) ?_))))))))))))
 refine ro rfl (dK (Ht rfl) rfl) (rn rfl (eW (Ts:=[Is (.slice none 0 0)]) Tryz.zeroValue72 rfl (fun V=>aW zd (aG))) fun B6=>(kZ Z_72 (Ht rfl) (Ht rfl) (i:=2) rfl (aK rfl) rfl (ra rfl (eX (cK (ts (rm rfl (ro rfl (kS (Ht rfl) cV) (eX (dQ (Ht rfl) (fun hc=>?_) (fun hc=>?_)))))))))))
 ·have h3 : zC z js ≠ 0 := by simpa using hc
  have he:rQ z S js = zC z js:=Pn h3
  refine ts (ro rfl (aL.imp (xF ) xT) (rm rfl (gQ Z_32 (Ht rfl) (Ht rfl) rfl (i:=1) rfl (aK rfl) rfl rfl (ra rfl (eX (bM rfl (fX (fK A_32 Z_32 rfl (i:=1) rfl rfl) ?_) (fX (eU rfl) ?_)))))))
  ·exact (fun v V h=>by rw [sF,uM,dL,dL,he,if_neg h3,if_neg h3]; exact h)
  ·exact (aM he.symm)
 ·have h3 : zC z js = 0 := by simpa using hc
  obtain ⟨hd,hne⟩:=xQ h3
  have hok:jeL z js = lC js:=by rw [jeL,dL,if_pos h3]
  rw [hok]
  refine cU (cK (ts (ro rfl (eY A_72 Z_72 (Ht rfl) (i:=2) rfl rfl) (ro rfl (dG U_72 (Ht rfl) (by rw [List.length_map,hll])) ?_))))
  refine ro rfl (cP (Ht rfl) (cJ 0)) (eX (dQ (Ht rfl) (fun hc2=>?_) (fun hc2=>?_)))
  ·have h4 : js.length = 0 := by simp only [decide_eq_true_eq] at hc2; omega
   have he:rQ z S js = 0:=Oo h3 h4
   refine ts (ro rfl (eJ A_32 Z_32 (Ht rfl) (i:=0) rfl rfl rfl) (gQ Z_32 (Ht rfl) (Ht rfl) rfl (i:=1) rfl (aK rfl) rfl rfl (ro rfl (cQ (cJ 0)) (eX (bM rfl (fX (fK A_32 Z_32 rfl (i:=1) rfl rfl) ?_) (fX (eU rfl) ?_))))))
   ·exact (fun v V h=>by rw [sF,uM,dL,dL,he,if_pos h4,if_pos h4]; exact h)
   ·exact (aM he.symm)
  ·have h4 : js.length ≠ 0 := by simp only [decide_eq_false_iff_not] at hc2; omega
   have hj:=vA hd
   have hjl:=Cb hd
   have hm1:2 * js.length < z.length:=by omega
   obtain ⟨m,hm⟩:∃ m,m = 2 * js.length:=⟨_,rfl⟩
   have hg2:=hg js.length hm1
   have hx2:=hx js.length hm1
   have hxn:=Nat.le_trans (xK (cE (L + 2) (2 * js.length)) (2 * js.length)) hx2
   have hlf:=a09 (z:=z) (s:=S) (G:=nJ js) zo zo
   rw [Yj] at hlf
   have hfl:(eO z js).length ≤ z.length:=qA _ _
   have hfx:∀ x,x ∈ eO z js → x < z.length:=fun x h=>Ms h
   rw [Xv hd]
   refine cU (cK (gJ (i:=0) (tt:=2) rfl rfl Hv (gJ (i:=2) (tt:=6) rfl rfl rE (cY (ro rfl (tV (γ:=Fin (2 * js.length)) (Ts:=fun x=>[NT .i64 x.1]) (U:=fun x=>cD (S.getD (gq (cC js) (iM x.1)) [])) Tryz.call118 (fun x=>a1L hS hd x.2 zo zo) ⟨(Ht rfl),(Ht rfl),trivial⟩) (rn rfl (eW (Ts:=[Is (.nilFunc)]) Tryz.zeroValue175 rfl (fun V=>aW zd (aG))) fun B8=>(kZ Tryz.sizeOf175 (Ht rfl) (Ht rfl) (i:=3) rfl (aK rfl) rfl (eX (cK (gJ (i:=3) (tt:=8) rfl rfl rE ?_))))))))))
   refine cY (ro rfl (dJ A_72 Z_72 (Ht rfl)) (ro rfl (dG U_72 (Ht rfl) (by rw [List.length_map,List.length_map,hJl])) ?_))
   refine ro rfl (tV (γ:=Fin (2 * js.length) × Fin (2 * js.length)) (Ts:=fun x=>[NT .i64 x.1.1,NT .i64 x.2.1]) (U:=fun x=>aR ((if x.1.1 = x.2.1 then Qi.ofInt 1 else Qi.ofInt 0) - gm S (gq (cC js) (iM x.1.1)) (gq (cC js) x.2.1))) Tryz.call119 (fun x=>a1t hS hf hL hLb hd x.1.2 x.2.2 zo zo) ⟨(Ht rfl),(Ht rfl),trivial⟩) (ro rfl (cZ Tryz.call114 (Wc (n:=2 * js.length) (f:=fun x y=>(if x = y then Qi.ofInt 1 else Qi.ofInt 0) - gm S (gq (cC js) (iM x)) (gq (cC js) y)) zo) ⟨(Ht rfl),(Ht rfl),trivial⟩) (ra rfl (eX (ts (ro rfl (dJ A_32 Z_32 (Ht rfl)) ?_)))))
   refine ro rfl (dJ A_72 Z_72 (Ht rfl)) (ro rfl (cZ Tryz.call121 hlf ⟨(Ht rfl),(Ht rfl),trivial⟩) (ra rfl (eX (ts (ro rfl (dJ A_32 Z_32 (Ht rfl)) (rm rfl (jT Tryz.call122 (a19 (Q:=eO z js) (m:=(eO z js).length) hS hfx rfl zo zo) ⟨(Ht rfl),(Ht rfl),trivial⟩ rfl (fun B47 _=>(rn rfl (eW (Ts:=[Is (.slice none 0 0),Is (.slice none 0 0)]) O_32 rfl (fun V=>aW zd (aW zd (aG)))) fun B11=>(gQ Z_32 (Ht rfl) (Ht rfl) rfl (i:=5) rfl (aK rfl) rfl rfl ?_))))))))))
   refine eX (cK (ts (rm rfl (ro rfl (dG U_72 (Ht rfl) (by rw [List.length_map,List.length_map])) ?_))))
   refine ro rfl (cX (cJ 0)) (eX (eG (cA [1,4,5] rfl (by decide) ?_)))
   refine bO (fun (j : Nat) => j ≤ (eO z js).length ∧ ∀ y, y < j → kA (mU S (cC js) (2 * js.length)) (Dk S (cC js) (2 * js.length) ((eO z js).getD y 0)) (2 * js.length) = 0) (fun (j : Nat) => (eO z js).length - j) (fun (j : Nat) => [(2, PT (mD z S)), (4, bP B4 0), (6, PT (dP ((nJ js).map Nat.succ))), (8, PT (Gl Tryz.prog (Fin (2 * js.length)) (fun x => [NT .i64 x.1]) (fun x => cD (S.getD (gq (cC js) (iM x.1)) [])))), (9, cM (mU S (cC js) (2 * js.length))), (10, dP ((eO z js).map Nat.succ)), (11, bP B11 0), (48, dP ((eO z js).map Nat.succ)), (49, NT .i64 ((eO z js).length)), (50, NT .i64 j)]) (fun (j : Nat) => [box B4 32 [Is (.slice none 0 0), Is (.slice none 0 0)], pF B47 29 51 5 (bN aR (tab ((eO z js).length) fun i => (kQ (fun y => Dj S (cC js) (2 * js.length) (gY (eO z js) i) (gY (eO z js) y)) (fun y => gm S (gY (eO z js) i) (gY (eO z js) y)) (eO z js).length j))), box B11 32 [cD (zP z (eO z js)), Is (.slice (some ⟨B47, 0, none⟩) ((eO z js).length) ((eO z js).length))]]) 0 ⟨Nat.zero_le _, fun y h => by omega⟩
    (zS rfl) (aU (aB rfl) (aU (bI (congrArg (bN aR) (cT fun i _=>jY _ _ _))) (aU (aB rfl) aY))) (fun j ⟨hjq,h0⟩=>?_)
   refine ts (ro rfl (gX (Ht rfl) (Ht rfl)) (eX (cK (dQ (Ht rfl) (fun hd1=>?_) (fun hd1=>?_)))))
   ·have hjn : j < (eO z js).length := by simp only [decide_eq_true_eq] at hd1; omega
    have hFj:gY (eO z js) j < z.length:=Na hjn
    have hbf:dD (Dk S (cC js) (2 * js.length) ((eO z js).getD j 0)) L:=Oy hf hL
    refine cU (cK (eG (ts (rm rfl (ro rfl (dZ U_72 Z_3 (Ht rfl) (Ht rfl) rfl (dY (pQ hjn))) (ro rfl (dJ A_3 Z_3 (Ht rfl)) (ra rfl (ra rfl (eX (ts (ro rfl (dJ A_72 Z_72 (Ht rfl)) (ro rfl (dG U_72 (Ht rfl) (by rw [List.length_map,List.length_map,hJl])) ?_))))))))))))
    refine rn rfl (jE (T:=aR Qi.zero) (i:=Tryz.t51) nC kT rfl rfl (Ht rfl) rfl kF (El.ag rfl) (by show 88 * _ ≤ _; omega) zo) fun B57=>ra rfl (eX (cK (ts (rm rfl (ro rfl (oO U_29 (Ht rfl) (i:=3) rfl (show ((List.replicate (2 * js.length) (aR Qi.zero)).length:Int) = ((2 * js.length:Nat):Int) from by simp)) (ro rfl (cX (cJ 0)) (eX (eG ?_))))))))
    refine bO (fun (x : Nat) => x ≤ 2 * js.length) (fun (x : Nat) => 2 * js.length - x) (fun (x : Nat) => [(2, PT (mD z S)), (4, bP B4 0), (6, PT (dP ((nJ js).map Nat.succ))), (8, PT (Gl Tryz.prog (Fin (2 * js.length)) (fun x => [NT .i64 x.1]) (fun x => cD (S.getD (gq (cC js) (iM x.1)) [])))), (9, cM (mU S (cC js) (2 * js.length))), (10, dP ((eO z js).map Nat.succ)), (11, bP B11 0), (12, NT .i64 j), (13, NT .i64 (gY (eO z js) j + 1)), (14, Is B57), (48, dP ((eO z js).map Nat.succ)), (49, NT .i64 ((eO z js).length)), (50, NT .i64 j), (59, NT .i64 (2 * js.length)), (60, NT .i64 x)]) (fun (x : Nat) => [box B4 32 [Is (.slice none 0 0), Is (.slice none 0 0)], pF B47 29 51 5 (bN aR (tab ((eO z js).length) fun i => (kQ (fun y => Dj S (cC js) (2 * js.length) (gY (eO z js) i) (gY (eO z js) y)) (fun y => gm S (gY (eO z js) i) (gY (eO z js) y)) (eO z js).length j))), box B11 32 [cD (zP z (eO z js)), Is (.slice (some ⟨B47, 0, none⟩) ((eO z js).length) ((eO z js).length))], bH 51 5 B57 ((jA (fun x => gm S (gq (cC js) (iM x)) (gY (eO z js) j)) Qi.zero (2 * js.length) x).map aR)]) 0 (Nat.zero_le _)
     (zS rfl) (aU (aB rfl) (aU (fun _ _ _ h=>h) (aU (aB rfl) (aU (aD (by rw [← gF]; exact Am aR _)) aY)))) (fun x hx1=>?_)
    refine ts (ro rfl (gX (Ht rfl) (Ht rfl)) (eX (cK (dQ (Ht rfl) (fun hd2=>?_) (fun hd2=>?_)))))
    ·have hxm : x < 2 * js.length := by simp only [decide_eq_true_eq] at hd2; omega
     have hgx:=hj.lt (iM x) (nN hxm)
     have hSr:=hS.row hgx
     refine cU (cK (eG (ts (rm rfl (ra rfl (eX (cY (rm rfl (rm rfl (ro rfl (dJ Tryz.isAgg175 Tryz.sizeOf175 (Ht rfl)) (rm rfl (ro rfl (sV (Ts:=fun x:Fin (2 * js.length)=>[NT .i64 x.1]) ⟨x,hxm⟩ (Ht rfl) ⟨(Ht rfl),trivial⟩) (rm rfl (ro rfl (aL.nat (dW (Ht rfl) (cJ 1) zo z6) (show gY (eO z js) j + 1 - 1 = gY (eO z js) j by omega)) (ro rfl (dZ U_29 Z_51 (Ht rfl) (Ht rfl) rfl (dY (dU (d:=Qi.zero) (show gY (eO z js) j < (S.getD (gq (cC js) (iM x)) []).length by omega)))) ?_)))))))))))))))
     refine ro rfl (dJ A_51 Z_51 (Ht rfl)) (ro rfl (cH U_29 Z_51 (Ht rfl) (Ht rfl) rfl (i:=3) rfl (by rw [List.length_map,dA]; omega) rfl) ?_)
     refine jB Z_51 (Ht rfl) (Ht rfl) (El.ag rfl) (i:=3) rfl rfl (by rw [List.length_map,dA]; omega) rfl ?_
     refine eX (aS (cY (ro rfl (dV (Ht rfl) (cJ 1) z6) (rm rfl (eX (fU (x + 1) hxm zo (zS rfl) (aU (aB rfl) (aU (fun _ _ _ h=>h) (aU (aB rfl) (aU (aD (by rw [fO]; exact congrArg _ (iP (f:=(fun x=>gm S (gq (cC js) (iM x)) (gY (eO z js) j)))))) aY))))))))))
    ·have hxm : x = 2 * js.length := by simp only [decide_eq_false_iff_not] at hd2; omega
     rw [hxm,iO]
     refine gV rfl (gJ (i:=3) (tt:=14) rfl rfl eB (ts (rm rfl (rm rfl (ro rfl (cZ Tryz.call96 (Oq (M:=mU S (cC js) (2 * js.length)) (b:=Dk S (cC js) (2 * js.length) ((eO z js).getD j 0)) (n:=2 * js.length) (L:=L + 2) (mZ _ _ _) (aC _ _) (xD hf hL) (hbf.le zo) zo zo zo hg2 zo) ⟨(Ht rfl),(Ht rfl),trivial⟩) (rm rfl (ro rfl (dK (Ht rfl) rfl) (ro rfl (dK (Ht rfl) rfl) (ra rfl (ra rfl (eX (cK (ts (rm rfl (ro rfl (kS (Ht rfl) cV) (eX (dQ (Ht rfl) (fun hc3=>?_) (fun hc3=>?_))))))))))))))))))
     ·have h5 : kA (mU S (cC js) (2 * js.length)) (Dk S (cC js) (2 * js.length) ((eO z js).getD j 0)) (2 * js.length) ≠ 0 := by simpa using hc3
      have h6:Ii z S js ≠ 0:=fun k=>h5 (gM k j hjn)
      have he:rQ z S js = 6:=(Db h3 h4).trans (if_neg h6)
      refine ts (ro rfl (aL.imp (xF ) xT) (gQ Z_32 (Ht rfl) (Ht rfl) rfl (i:=0) rfl (aK rfl) rfl rfl (ro rfl (cQ (cJ 6)) (eX (bM rfl (fX (fK A_32 Z_32 rfl (i:=0) rfl rfl) ?_) (fX (eU rfl) ?_))))))
      ·exact (fun v V h=>by rw [sF,uM,dL,dL,he]; exact h)
      ·exact (aM he.symm)
     ·have h5 : kA (mU S (cC js) (2 * js.length)) (Dk S (cC js) (2 * js.length) ((eO z js).getD j 0)) (2 * js.length) = 0 := by simpa using hc3
      have hxf:=Qx (mZ S (cC js) (2 * js.length)) (xD hf hL) (hbf.le zo) zo h5
      have hxl:(lA (mU S (cC js) (2 * js.length)) (Dk S (cC js) (2 * js.length) ((eO z js).getD j 0)) (2 * js.length)).length = 2 * js.length:=tL _ _ _
      have hGe:L + 2 ≤ qP (cE (L + 2) (2 * js.length)) (2 * js.length):=Nat.le_trans (oK (L + 2) (2 * js.length)) (Bv _ _)
      obtain ⟨G,hG⟩:∃ G,G = qP (cE (L + 2) (2 * js.length)) (2 * js.length):=⟨_,rfl⟩
      rw [← hG] at hxf hGe hxn
      have hmG:2 * js.length * (2 * G + 2) ≤ 18 * (2 * G + 2):=Nat.mul_le_mul_right _ zo
      have hokx:dL (kA (mU S (cC js) (2 * js.length)) (Dk S (cC js) (2 * js.length) ((eO z js).getD j 0)) (2 * js.length)) (lA (mU S (cC js) (2 * js.length)) (Dk S (cC js) (2 * js.length) ((eO z js).getD j 0)) (2 * js.length)) = lA (mU S (cC js) (2 * js.length)) (Dk S (cC js) (2 * js.length) ((eO z js).getD j 0)) (2 * js.length):=by rw [dL,if_pos h5]
      rw [hokx]
      refine cU (ts (rm rfl (ro rfl (dG U_72 (Ht rfl) (by rw [List.length_map,List.length_map])) ?_)))
      refine ro rfl (cX (cJ 0)) (eX (eG (cA [0,1,2] rfl (by decide) ?_)))
      refine bO (fun (i : Nat) => i ≤ (eO z js).length) (fun (i : Nat) => (eO z js).length - i) (fun (i : Nat) => [(2, PT (mD z S)), (4, bP B4 0), (6, PT (dP ((nJ js).map Nat.succ))), (8, PT (Gl Tryz.prog (Fin (2 * js.length)) (fun x => [NT .i64 x.1]) (fun x => cD (S.getD (gq (cC js) (iM x.1)) [])))), (9, cM (mU S (cC js) (2 * js.length))), (10, dP ((eO z js).map Nat.succ)), (11, bP B11 0), (12, NT .i64 j), (16, cD (lA (mU S (cC js) (2 * js.length)) (Dk S (cC js) (2 * js.length) ((eO z js).getD j 0)) (2 * js.length))), (48, dP ((eO z js).map Nat.succ)), (49, NT .i64 ((eO z js).length)), (50, NT .i64 j), (83, dP ((eO z js).map Nat.succ)), (84, NT .i64 ((eO z js).length)), (85, NT .i64 i)]) (fun (i : Nat) => [box B4 32 [Is (.slice none 0 0), Is (.slice none 0 0)], pF B47 29 51 5 (bN aR (kQ (fun i => (kQ (fun y => Dj S (cC js) (2 * js.length) (gY (eO z js) i) (gY (eO z js) y)) (fun y => gm S (gY (eO z js) i) (gY (eO z js) y)) (eO z js).length (j + 1))) (fun i => (kQ (fun y => Dj S (cC js) (2 * js.length) (gY (eO z js) i) (gY (eO z js) y)) (fun y => gm S (gY (eO z js) i) (gY (eO z js) y)) (eO z js).length j)) ((eO z js).length) i)), box B11 32 [cD (zP z (eO z js)), Is (.slice (some ⟨B47, 0, none⟩) ((eO z js).length) ((eO z js).length))]]) 0 (Nat.zero_le _)
       (zS rfl) (aU (aB rfl) (aU (bI (congrArg (bN aR) (jY _ _ _))) (aU (aB rfl) aY))) (fun i hi=>?_)
      refine ts (ro rfl (gX (Ht rfl) (Ht rfl)) (eX (cK (dQ (Ht rfl) (fun hd4=>?_) (fun hd4=>?_)))))
      ·have hin : i < (eO z js).length := by simp only [decide_eq_true_eq] at hd4; omega
       have hFi:gY (eO z js) i < z.length:=Na hin
       have hSr:=hS.row hFi
       refine cU (cK (eG (ts (rm rfl (ro rfl (dZ U_72 Z_3 (Ht rfl) (Ht rfl) rfl (dY (pQ hin))) (ro rfl (dJ A_3 Z_3 (Ht rfl)) (ra rfl (ra rfl (eX (ts (ro rfl (dJ A_72 Z_72 (Ht rfl)) (ro rfl (dG U_72 (Ht rfl) (by rw [List.length_map,List.length_map,hJl])) ?_))))))))))))
       refine rn rfl (jE (T:=aR Qi.zero) (i:=Tryz.t51) nC kT rfl rfl (Ht rfl) rfl kF (El.ag rfl) (by show 88 * _ ≤ _; omega) zo) fun B92=>ra rfl (eX (cK (ts (ro rfl (dJ A_72 Z_72 (Ht rfl)) (ro rfl (dG U_72 (Ht rfl) (by rw [List.length_map,List.length_map,hJl])) ?_)))))
       refine ro rfl (cX (cJ 0)) (eX (eG ?_))
       refine bO (fun (x : Nat) => x ≤ 2 * js.length) (fun (x : Nat) => 2 * js.length - x) (fun (x : Nat) => [(2, PT (mD z S)), (4, bP B4 0), (6, PT (dP ((nJ js).map Nat.succ))), (8, PT (Gl Tryz.prog (Fin (2 * js.length)) (fun x => [NT .i64 x.1]) (fun x => cD (S.getD (gq (cC js) (iM x.1)) [])))), (9, cM (mU S (cC js) (2 * js.length))), (10, dP ((eO z js).map Nat.succ)), (11, bP B11 0), (12, NT .i64 j), (16, cD (lA (mU S (cC js) (2 * js.length)) (Dk S (cC js) (2 * js.length) ((eO z js).getD j 0)) (2 * js.length))), (18, NT .i64 i), (19, NT .i64 (gY (eO z js) i + 1)), (20, Is B92), (48, dP ((eO z js).map Nat.succ)), (49, NT .i64 ((eO z js).length)), (50, NT .i64 j), (83, dP ((eO z js).map Nat.succ)), (84, NT .i64 ((eO z js).length)), (85, NT .i64 i), (93, dP ((nJ js).map Nat.succ)), (94, NT .i64 (2 * js.length)), (95, NT .i64 x)]) (fun (x : Nat) => [box B4 32 [Is (.slice none 0 0), Is (.slice none 0 0)], pF B47 29 51 5 (bN aR (kQ (fun i => (kQ (fun y => Dj S (cC js) (2 * js.length) (gY (eO z js) i) (gY (eO z js) y)) (fun y => gm S (gY (eO z js) i) (gY (eO z js) y)) (eO z js).length (j + 1))) (fun i => (kQ (fun y => Dj S (cC js) (2 * js.length) (gY (eO z js) i) (gY (eO z js) y)) (fun y => gm S (gY (eO z js) i) (gY (eO z js) y)) (eO z js).length j)) ((eO z js).length) i)), box B11 32 [cD (zP z (eO z js)), Is (.slice (some ⟨B47, 0, none⟩) ((eO z js).length) ((eO z js).length))], bH 51 5 B92 ((jA (fun x => gm S (gY (eO z js) i) (gq (cC js) x)) Qi.zero (2 * js.length) x).map aR)]) 0 (Nat.zero_le _)
        (zS rfl) (aU (aB rfl) (aU (fun _ _ _ h=>h) (aU (aB rfl) (aU (aD (by rw [← gF]; exact Am aR _)) aY)))) (fun x hx1=>?_)
       refine ts (ro rfl (gX (Ht rfl) (Ht rfl)) (eX (cK (dQ (Ht rfl) (fun hd5=>?_) (fun hd5=>?_)))))
       ·have hxm : x < 2 * js.length := by simp only [decide_eq_true_eq] at hd5; omega
        have hat:gY (nJ js) x = gq (cC js) x:=Gi hxm
        have hgx:=hj.lt x hxm
        refine cU (cK (eG (ts (rm rfl (ro rfl (dZ U_72 Z_3 (Ht rfl) (Ht rfl) rfl (dY (pQ zo))) (ro rfl (dJ A_3 Z_3 (Ht rfl)) (ra rfl (ra rfl (eX (cY (rm rfl (rm rfl (ro rfl (Ba tW (Ht rfl) rfl) (ro rfl (dJ A_30 Z_30 (Ht rfl)) (rm rfl (ro rfl (aL.nat (dW (Ht rfl) (cJ 1) zo z6) (show gY (eO z js) i + 1 - 1 = gY (eO z js) i by omega)) (ro rfl (dZ U_30 Z_29 (Ht rfl) (Ht rfl) rfl (dY (dU (d:=[]) (show gY (eO z js) i < S.length by omega)))) ?_)))))))))))))))))
        refine ro rfl (dJ A_29 Z_29 (Ht rfl)) (rm rfl (ro rfl (aL.nat (dW (Ht rfl) (cJ 1) zo z6) (show gY (nJ js) x + 1 - 1 = gq (cC js) x by omega)) (ro rfl (dZ U_29 Z_51 (Ht rfl) (Ht rfl) rfl (dY (dU (d:=Qi.zero) (show gq (cC js) x < (S.getD (gY (eO z js) i) []).length by omega)))) (ro rfl (dJ A_51 Z_51 (Ht rfl)) (ro rfl (cH U_29 Z_51 (Ht rfl) (Ht rfl) rfl (i:=3) rfl (by rw [List.length_map,dA]; omega) rfl) ?_)))))
        refine jB Z_51 (Ht rfl) (Ht rfl) (El.ag rfl) (i:=3) rfl rfl (by rw [List.length_map,dA]; omega) rfl ?_
        refine eX (aS (cY (ro rfl (dV (Ht rfl) (cJ 1) z6) (rm rfl (eX (fU (x + 1) hxm zo (zS rfl) (aU (aB rfl) (aU (fun _ _ _ h=>h) (aU (aB rfl) (aU (aD (by rw [fO]; exact congrArg _ (iP (f:=(fun x=>gm S (gY (eO z js) i) (gq (cC js) x)))))) aY))))))))))
       ·have hxm : x = 2 * js.length := by simp only [decide_eq_false_iff_not] at hd5; omega
        rw [hxm,iO]
        refine gV rfl (gJ (i:=3) (tt:=20) rfl rfl eB (cA [0,1,2] rfl (by decide) (pZ 1 (i) rfl (oU hin) (fun v0=>?_))))
        have hrl:=jK (fun y=>Dj S (cC js) (2 * js.length) (gY (eO z js) i) (gY (eO z js) y)) (fun y=>gm S (gY (eO z js) i) (gY (eO z js) y)) ((eO z js).length) j
        have hrf:dD (tab (2 * js.length) (fun x=>gm S (gY (eO z js) i) (gq (cC js) x))) G:=dD.tab fun x _=>(hf.get hL _ _).le zo
        have hro : ((kQ (fun y => Dj S (cC js) (2 * js.length) (gY (eO z js) i) (gY (eO z js) y)) (fun y => gm S (gY (eO z js) i) (gY (eO z js) y)) (eO z js).length j)).set j (uS (gm S (gY (eO z js) i) (gY (eO z js) j)) (tab (2 * js.length) (fun x => gm S (gY (eO z js) i) (gq (cC js) x))) (lA (mU S (cC js) (2 * js.length)) (Dk S (cC js) (2 * js.length) ((eO z js).getD j 0)) (2 * js.length)) (2 * js.length)) = (kQ (fun y => Dj S (cC js) (2 * js.length) (gY (eO z js) i) (gY (eO z js) y)) (fun y => gm S (gY (eO z js) i) (gY (eO z js) y)) (eO z js).length (j + 1)) := by
         rw [Zu]; exact lI (f:=fun y=>Dj S (cC js) (2 * js.length) (gY (eO z js) i) (gY (eO z js) y))
        refine fZ (m:=17) (dp 11 rfl (eZ tW (Ht rfl) rfl) (dq 114 0 rfl (eY A_30 Z_30 (Ht rfl) (i:=2) rfl rfl) (dp 18 rfl (cX (Ht rfl)) (cL 115 1 116 2 rfl (fY U_30 Z_29 (Ht rfl) (Ht rfl) rfl zo (by rw [Nat.mul_one,Nat.zero_add])) ?_))))
        refine dq 117 3 rfl (iF A_29 Z_29 (Ht rfl) (j:=1) rfl) (dp 12 rfl (cX (Ht rfl)) (dp 11 rfl (eZ tW (Ht rfl) rfl) (dq 120 6 rfl (eY A_30 Z_30 (Ht rfl) (i:=2) rfl rfl) (dp 18 rfl (cX (Ht rfl)) (cL 121 7 122 8 rfl (fY U_30 Z_29 (Ht rfl) (Ht rfl) rfl zo (by rw [Nat.mul_one,Nat.zero_add])) ?_)))))
        refine dq 123 9 rfl (iF A_29 Z_29 (Ht rfl) (j:=1) rfl) (dp 12 rfl (cX (Ht rfl)) (cL 124 10 125 11 rfl (cH U_29 Z_51 (Ht rfl) (Ht rfl) rfl (i:=3) rfl (by simp only [List.length_map,hrl]; omega) rfl) ?_))
        refine dq 126 12 rfl (nM A_51 Z_51 (Ht rfl) (i:=3) rfl rfl (dY (rB hjn))) (dp 20 rfl (cX (Ht rfl)) (dp 16 rfl (cX (Ht rfl)) (C.D_step (Ei:=[(127,_),(128,_),(129,_)]) rfl rfl (bV (bG 13 rfl rfl) (bV (bG 14 rfl rfl) (bV (bG 15 rfl rfl) bW))) (dX rfl (cZ Tryz.call123 (a4H (x:=gm S (gY (eO z js) i) (gY (eO z js) j)) (l:=tab (2 * js.length) (fun x=>gm S (gY (eO z js) i) (gq (cC js) x))) (m:=lA (mU S (cC js) (2 * js.length)) (Dk S (cC js) (2 * js.length) ((eO z js).getD j 0)) (2 * js.length)) (L:=G) (M:=L) (n:=2 * js.length) (hf.get hL _ _) hrf hxf zo (aC _ _) hxl zo zo) ⟨(Ht rfl),(Ht rfl),(Ht rfl),trivial⟩)) ?_)))
        refine fV aT rfl (by kernel_rfl) (zF (zF (zF (zF (aJ (aV (ro rfl (cH U_29 Z_51 (Ht rfl) (Ht rfl) rfl (i:=3) rfl (by simp only [List.length_map,hrl]; omega) rfl) ?_)))))))
        refine jB Z_51 (Ht rfl) (Ht rfl) (El.ag rfl) (i:=3) rfl rfl (by simp only [List.length_map,hrl]; omega) rfl ?_
        refine eX (eS 1 3 rfl rfl (by decide) (by simp only [bN,List.length_map,jK]; omega) ?_)
        refine aS (cY (ro rfl (dV (Ht rfl) (cJ 1) z6) (rm rfl (eX (cA [0,1,2] rfl (by decide) (fU (i + 1) hin zo (zS rfl) (aU (aB rfl) (aU (bI (by rw [fO,hro,fF]; exact congrArg _ (lI (f:=fun i=>(kQ (fun y=>Dj S (cC js) (2 * js.length) (gY (eO z js) i) (gY (eO z js) y)) (fun y=>gm S (gY (eO z js) i) (gY (eO z js) y)) (eO z js).length (j + 1)))))) (aU (aB rfl) aY)))))))))
      ·have hin : i = (eO z js).length := by simp only [decide_eq_false_iff_not] at hd4; omega
       rw [hin,lL]
       refine gV rfl (aS (cY (ro rfl (dV (Ht rfl) (cJ 1) z6) (rm rfl (eX ?_)))))
       refine fU (j + 1) ⟨hjn, fun y h => by
         by_cases e:y = j
         ·rw [e]; exact h5
         ·exact h0 y zo⟩ zo (zS rfl) (aU (aB rfl) (aU (fun _ _ _ h=>h) (aU (aB rfl) aY)))
   ·have hjn : j = (eO z js).length := by simp only [decide_eq_false_iff_not] at hd1; omega
    rw [hjn] at h0
    have h6:Ii z S js = 0:=gO h0
    have he:rQ z S js = 0:=(Db h3 h4).trans (if_pos h6)
    rw [hjn,show (tab ((eO z js).length) fun i=>(kQ (fun y=>Dj S (cC js) (2 * js.length) (gY (eO z js) i) (gY (eO z js) y)) (fun y=>gm S (gY (eO z js) i) (gY (eO z js) y)) (eO z js).length (eO z js).length)) = Zr z S js from cT fun i _=>lL _ _ _]
    refine gV rfl (cK (Cl 2 1 1 rfl rfl rfl (by decide) (a4F (q:=fun _=>True) (M:=Zr z S js) (aC _ _).symm) (cY (ro rfl (eJ A_32 Z_32 (Ht rfl) (i:=2) rfl rfl rfl) (gQ Z_32 (Ht rfl) (Ht rfl) rfl (i:=0) rfl (aK rfl) rfl rfl (ro rfl (cQ (cJ 0)) (eX (bM rfl (fX (fK A_32 Z_32 rfl (i:=0) rfl rfl) ?_) (fX (eU rfl) ?_)))))))))
    ·exact (fun v V h=>by rw [sF,uM,dL,dL,he,if_neg h4,if_neg h4]; exact h)
    ·exact (aM he.symm)
end
section
open Go Go.RowKit
theorem Mj {A B C : List (List Qi)} {n : Nat} : mS (mS A B n n n) C n n n = mS A (mS B C n n n) n n n := qE pG pG fun i hi j hj => by
 rw [qM hi hj,qM hi hj]
 have e1 : aF n (fun t => gm (mS A B n n n) i t * gm C t j) = aF n fun t => aF n fun u => gm A i u * gm B u t * gm C t j := bA fun t ht => by
  rw [qM hi ht,← oB]
 have e2 : aF n (fun u => gm A i u * gm (mS B C n n n) u j) = aF n fun u => aF n fun t => gm A i u * gm B u t * gm C t j := bA fun u hu => by
  rw [qM hu hj,Qi.mul_comm',← oB]
  exact bA fun t _=>by grind
 rw [e1,e2,rA]
theorem Fa {n i j:Nat} (hi:i < n) (hj:j < n):gm (xU n) i j = if i = j then 1 else 0:=rS hi hj
theorem Wg {n j i:Nat} (hi:i < n) (hj:j < n):gv (ek n j) i = if i = j then 1 else 0:=by
 have h:gv (ek n j) i = if j = i then 1 else 0:=Fa (n:=n) hj hi
 rw [h]
 by_cases c:i = j
 ·rw [if_pos c,if_pos c.symm]
 ·rw [if_neg c,if_neg (Ne.symm c)]
theorem a2j {M : List (List Qi)} {n : Nat} (h : eE M n n) (hE : Lz M n = 0) : mS M (Ks M n) n n n = xU n := qE pG (Ai n) fun i hi j hj => by
 have hs:=(oC h (Ir hE j hj)).1 i hi
 rw [qM hi hj,Fa hi hj,← Wg hi hj,← hs]
 exact bA fun t ht=>by rw [show gm (Ks M n) t j = gv (lA M (ek n j) n) t from qN ht hj]
theorem a1P {M X : List (List Qi)} {n : Nat} (h : mS X M n n n = xU n) {y : Nat → Qi} (hy : ∀ i, i < n → aF n (fun k => gm M i k * y k) = 0) : ∀ k, k < n → y k = 0 := fun k hk => by
 have e1:aF n (fun i=>gm X k i * aF n (fun t=>gm M i t * y t)) = 0:=kO fun i hi=>by rw [hy i hi]; grind
 have e2 : aF n (fun i => gm X k i * aF n (fun t => gm M i t * y t)) = aF n fun i => aF n fun t => gm X k i * gm M i t * y t := bA fun i _ => by
  rw [Qi.mul_comm',← oB]; exact bA fun t _=>by grind
 have e3 : aF n (fun t => aF n fun i => gm X k i * gm M i t * y t) = aF n fun t => gm (xU n) k t * y t := bA fun t ht => by
  rw [← h,qM hk ht,← oB]
 rw [e2,rA,e3] at e1
 rw [fP (i:=k) hk (fun t ht hne=>by rw [Fa hk ht,if_neg (Ne.symm hne)]; grind),Fa hk hk,if_pos rfl] at e1
 grind
theorem Ql {M X : List (List Qi)} {n : Nat} (hM : eE M n n) (h : mS X M n n n = xU n) : Lz M n = 0 := gO fun k hk => by
 apply Classical.byContradiction; intro e
 obtain ⟨y,hy,k,hk,hne⟩:=xI hM e
 exact hne (a1P h hy k hk)
theorem a33 {M X Y:List (List Qi)} {n:Nat} (hX:eE X n n) (hY:eE Y n n) (h:mS X M n n n = xU n) (k:mS M Y n n n = xU n):X = Y:=by
 rw [← a11 hX,← k,← Mj,h,a1e hY]
theorem Rj {M Y:List (List Qi)} {n:Nat} (hM:eE M n n) (hY:eE Y n n) (h:mS M Y n n n = xU n):mS Y M n n n = xU n:=by
 have e:=Ql hY h
 have r:=a2j hY e
 rw [a33 hM (Kp Y n) h r]; exact r
theorem a4g {M:List (List Qi)} {n:Nat} (h:eE M n n) (hE:Lz M n = 0):mS (Ks M n) M n n n = xU n:=Rj h (Kp M n) (a2j h hE)
theorem a1D {M Y:List (List Qi)} {n:Nat} (hM:eE M n n) (hY:eE Y n n) (h:mS M Y n n n = xU n):Lz M n = 0:=Ql hM (Rj hM hY h)
section
variable {a b:Qi} {A B C:List (List Qi)} {d e:Nat → Qi} {n:Nat}
end
theorem q2:Qi.ofInt 2 = 2:=rfl
section
variable {z:List Qi} {s:List (List Qi)}
end
end
section
open Go Go.RowKit
theorem Rl {n C k : Nat} (h : ∀ N, 1 ≤ N → fs n N ≤ C * N ^ k) : ∀ N, 1 ≤ N → fs (n + 1) N ≤ 2 * (n + 1) * C * 4 ^ k * N ^ (2 * k + 1) := fun N hN => by
 have h4:1 ≤ 4 * N * N:=Nat.mul_pos zo zo
 have a:=h (4 * N * N) h4
 have e:(4 * N * N) ^ k = 4 ^ k * (N ^ k * N ^ k):=by rw [Nat.mul_pow,Nat.mul_pow,Nat.mul_assoc]
 have e2:N ^ (2 * k + 1) = N ^ k * N ^ k * N:=by rw [Nat.pow_succ,Nat.two_mul,Nat.pow_add]
 rw [fs,e2]
 refine Nat.le_trans (Nat.mul_le_mul_left _ a) ?_
 rw [e]
 refine Nat.le_of_eq ?_
 simp only [Nat.mul_comm,Nat.mul_left_comm,Nat.mul_assoc]
theorem Qe {n C k C' k' : Nat} (h : ∀ N, 1 ≤ N → fs n N ≤ C * N ^ k) (hC : C ≤ C') (hk : k ≤ k') : ∀ N, 1 ≤ N → fs n N ≤ C' * N ^ k' := fun N hN =>
 Nat.le_trans (h N hN) (Nat.mul_le_mul hC (Nat.pow_le_pow_right hN hk))
theorem a3K {n:Nat} (hn:n ≤ 6):∀ N,1 ≤ N → fs n N ≤ (2 * 6 * (2 * 5 * 1610612736 * 4 ^ 15) * 4 ^ 31) * N ^ 63:=by
 have h4:∀ m,m ≤ 4 → ∀ N,1 ≤ N → fs m N ≤ 1610612736 * N ^ 15:=fun m hm N hN=>a1V hm hN
 have h5:∀ N,1 ≤ N → fs 5 N ≤ (2 * 5 * 1610612736 * 4 ^ 15) * N ^ 31:=Rl (h4 4 (Nat.le_refl 4))
 have h6:∀ N,1 ≤ N → fs 6 N ≤ (2 * 6 * (2 * 5 * 1610612736 * 4 ^ 15) * 4 ^ 31) * N ^ 63:=Rl h5
 by_cases a:n ≤ 4
 ·exact Qe (h4 n a) (by decide) (by decide)
 ·by_cases b : n = 5
  ·subst b; exact Qe h5 (by decide) (by decide)
  ·obtain rfl : n = 6 := by omega
   exact h6
theorem Uk {n:Nat} (hn:n ≤ 6):fs n (BB ^ ((6 + 1) * 4)) < BB ^ 1770:=by
 refine Nat.lt_of_le_of_lt (a3K hn _ (Nat.pow_pos fL)) ?_
 rw [← Nat.pow_mul,show (6 + 1) * 4 * 63 = 1764 by decide,show (1770:Nat) = 1764 + 6 by decide,Nat.pow_add,Nat.mul_comm (BB ^ 1764)]
 exact Nat.mul_lt_mul_of_pos_right (by show _ < 4294967296 ^ 6; decide) (Nat.pow_pos fL)
section
variable {z:List Qi} {S c:List (List Qi)} {js:List (Int × Int)} {N:Nat}
def Tb (S:List (List Qi)) (js:List (Int × Int)):List (List Qi):=tab (2 * js.length) fun x=>tab (2 * js.length) fun y=>uV x y - gm S (gq (cC js) (iM y)) (gq (cC js) x)
def jnV (S:List (List Qi)) (js:List (Int × Int)) (i:Nat):List Qi:=tab (2 * js.length) fun y=>gm S i (gq (cC js) y)
def jnQ (S:List (List Qi)) (js:List (Int × Int)) (i:Nat):List Qi:=lA (Tb S js) (jnV S js i) (2 * js.length)
theorem wY (S:List (List Qi)) (js:List (Int × Int)):eE (Tb S js) (2 * js.length) (2 * js.length):=eE.tab
theorem a00 {x y:Nat} (hx:x < 2 * js.length) (hy:y < 2 * js.length):gm (Tb S js) x y = gm (mU S (cC js) (2 * js.length)) y x:=by
 have e1:gm (Tb S js) x y = uV x y - gm S (gq (cC js) (iM y)) (gq (cC js) x):=qN hx hy
 have e2:gm (mU S (cC js) (2 * js.length)) y x = (if y = x then Qi.ofInt 1 else Qi.ofInt 0) - gm S (gq (cC js) (iM y)) (gq (cC js) x):=qN hy hx
 rw [e1,e2,uV]
 by_cases c:x = y
 ·rw [if_pos c,if_pos c.symm]
 ·rw [if_neg c,if_neg (Ne.symm c)]
theorem a1b {M:List (List Qi)} {n:Nat} (h:eE M n n) (hk:∀ b,kA M b n = 0):Lz M n = 0:=gO fun k _=>hk _
theorem a0I {M : List (List Qi)} {n : Nat} (h : eE M n n) (hE : Lz M n = 0) (hn : 1 ≤ n) : ∀ b, kA M b n = 0 := fun b => by
 have h0:=(wD h).1 (Ir hE 0 zo)
 exact (wD h).2 h0
theorem a0Z {M:List (List Qi)} {n:Nat} {b:List Qi} (h:eE M n n) (hb:kA M b n = 0):∀ b,kA M b n = 0:=fun _=>(wD h).2 ((wD h).1 hb)
theorem Xo (hk:∀ b,kA (mU S (cC js) (2 * js.length)) b (2 * js.length) = 0) (hn:1 ≤ 2 * js.length):∀ b,kA (Tb S js) b (2 * js.length) = 0:=by
 have hM:=mZ S (cC js) (2 * js.length)
 have hE:=a1b hM hk
 have l:=a4g hM hE
 refine a0I (wY S js) (a1D (Y:=tab (2 * js.length) fun x=>tab (2 * js.length) fun y=>gm (Ks (mU S (cC js) (2 * js.length)) (2 * js.length)) y x) (wY S js) eE.tab ?_) hn
 refine qE pG (Ai _) fun i hi j hj=>?_
 have e:gm (mS (Ks (mU S (cC js) (2 * js.length)) (2 * js.length)) (mU S (cC js) (2 * js.length)) (2 * js.length) (2 * js.length) (2 * js.length)) j i = gm (xU (2 * js.length)) j i:=by rw [l]
 rw [qM hj hi,Fa hj hi] at e
 rw [qM hi hj,Fa hi hj]
 have e2 : aF (2 * js.length) (fun t => gm (Tb S js) i t * gm (tab (2 * js.length) fun x => tab (2 * js.length) fun y => gm (Ks (mU S (cC js) (2 * js.length)) (2 * js.length)) y x) t j) = aF (2 * js.length) fun t => gm (Ks (mU S (cC js) (2 * js.length)) (2 * js.length)) j t * gm (mU S (cC js) (2 * js.length)) t i := bA fun t ht => by
  rw [a00 hi ht,qN ht hj,Qi.mul_comm']
 rw [e2,e]
 by_cases c:i = j
 ·rw [if_pos c,if_pos c.symm]
 ·rw [if_neg c,if_neg (Ne.symm c)]
theorem a3i (hk:∀ b,kA (mU S (cC js) (2 * js.length)) b (2 * js.length) = 0) {i x:Nat} (hx:x < 2 * js.length):gv (jnQ S js i) x = aF (2 * js.length) fun y=>gm S i (gq (cC js) y) * gv (zW S js x) y:=by
 have hM:=mZ S (cC js) (2 * js.length)
 have hT:=(oC (wY S js) (Xo hk zo (jnV S js i))).1
 have hV:=(oC hM (hk (ek (2 * js.length) x))).1
 have e1 : aF (2 * js.length) (fun y => gm S i (gq (cC js) y) * gv (zW S js x) y) = aF (2 * js.length) fun y => aF (2 * js.length) fun w => gm (mU S (cC js) (2 * js.length)) w y * gv (jnQ S js i) w * gv (zW S js x) y := bA fun y hy => by
  have h:=hT y hy
  rw [show gv (jnV S js i) y = gm S i (gq (cC js) y) from mI hy] at h
  rw [← h,← oB]
  exact bA fun w hw=>by rw [a00 hy hw]; rfl
 have e2 : aF (2 * js.length) (fun w => aF (2 * js.length) fun y => gm (mU S (cC js) (2 * js.length)) w y * gv (jnQ S js i) w * gv (zW S js x) y) = aF (2 * js.length) fun w => gv (jnQ S js i) w * gv (ek (2 * js.length) x) w := bA fun w hw => by
  have h:=hV w hw
  rw [show gv (ek (2 * js.length) x) w = aF (2 * js.length) (fun k=>gm (mU S (cC js) (2 * js.length)) w k * gv (zW S js x) k) from h.symm,Qi.mul_comm',← oB]
  exact bA fun y _=>by grind
 rw [e1,rA,e2,fP hx (fun k hkk hne=>by rw [Wg hkk hx,if_neg hne]; grind),Wg hx hx,if_pos rfl]; grind
theorem a3s {l:List Nat} {x:Nat} (hx:x < l.length) (hinj:∀ a b,a < l.length → b < l.length → l.getD a 0 = l.getD b 0 → a = b):wB l (l.getD x 0) = (x:Int):=by
 have hm:0 ≤ wB l (l.getD x 0):=Hw.2 (by rw [show l.getD x 0 = l[x] by simp [List.getD,hx]]; exact List.getElem_mem hx)
 rcases Lq l (l.getD x 0) with h | ⟨h1,h2,h3⟩
 ·omega
 ·have:=hinj _ _ h2 hx h3; omega
theorem Gh {x:Nat} (hx:x < 2 * js.length):(oR js).getD x 0 = gq (cC js) (iM x):=by rw [oR,rI hx]
theorem Zq (hj:Jn (cC js) N js.length) {x:Nat} (hx:x < 2 * js.length):wB (oR js) (gq (cC js) (iM x)) = (x:Int):=by
 have hl:(oR js).length = 2 * js.length:=aC _ _
 rw [← Gh hx]
 refine a3s zo fun a b ha hb e=>?_
 rw [Gh zo,Gh zo] at e
 have:=hj.inj _ _ (nN (show a < 2 * js.length by omega)) (nN (show b < 2 * js.length by omega)) e
 have e2:=congrArg iM this
 rwa [Qb,Qb] at e2
def sI (S:List (List Qi)) (js:List (Int × Int)) (N i y:Nat):List Qi:=tab N fun k=>if 0 ≤ wB (oR js) k ∧ (wB (oR js) k).toNat < y then vX S js i k else xR i k
theorem Nr {i:Nat} (hi:i < N):(tab N fun _=>Qi.zero).set i (Qi.ofInt 1) = sI S js N i 0:=by
 refine List.ext_getElem (by rw [List.length_set,aC,sI,aC]) fun k h1 h2=>?_
 rw [List.length_set,aC] at h1
 rw [List.getElem_set]
 have e:(sI S js N i 0)[k] = xR i k:=by simp [sI,tab]
 rw [e,xR]
 by_cases c:i = k
 ·rw [if_pos c,if_pos c.symm]
 ·rw [if_neg c,if_neg (Ne.symm c)]; simp [tab]; rfl
theorem Zz (S : List (List Qi)) (js : List (Int × Int)) (N i : Nat) : sI S js N i (2 * js.length) = tab N fun k => vX S js i k := cT fun k _ => by
 have hl:(oR js).length = 2 * js.length:=aC _ _
 rcases Lq (oR js) k with h | ⟨h1,h2,_⟩
 ·rw [if_neg zo,vX,if_neg zo]
 ·rw [if_pos ⟨h1,by omega⟩]
theorem Uw (hj:Jn (cC js) N js.length) {i y:Nat} (hy:y < 2 * js.length):(sI S js N i y).set (gq (cC js) (iM y)) (vX S js i (gq (cC js) (iM y))) = sI S js N i (y + 1):=by
 have hix:=Zq hj hy
 have hlt:=hj.lt (iM y) (nN hy)
 have hl:(oR js).length = 2 * js.length:=aC _ _
 refine List.ext_getElem (by rw [List.length_set,sI,sI,aC,aC]) fun k h1 h2=>?_
 have hk:k < N:=by rw [sI,aC] at h2; exact h2
 rw [List.getElem_set]
 have e1:(sI S js N i (y + 1))[k] = if 0 ≤ wB (oR js) k ∧ (wB (oR js) k).toNat < y + 1 then vX S js i k else xR i k:=by simp [sI,tab]
 have e0:(sI S js N i y)[k]'(by rw [sI,aC]; exact hk) = if 0 ≤ wB (oR js) k ∧ (wB (oR js) k).toNat < y then vX S js i k else xR i k:=by simp [sI,tab]
 by_cases c:gq (cC js) (iM y) = k
 ·rw [if_pos c,e1,← c,hix,if_pos ⟨by omega,by omega⟩]
 ·rw [if_neg c, e1, e0]
  have hne : ¬ (wB (oR js) k = (y : Int)) := fun e => by
   rcases Lq (oR js) k with h | ⟨q1,q2,q3⟩
   ·omega
   ·rw [e,Int.toNat_natCast,Gh hy] at q3; exact c q3
  by_cases d:0 ≤ wB (oR js) k ∧ (wB (oR js) k).toNat < y
  ·rw [if_pos d,if_pos ⟨d.1,by omega⟩]
  ·rw [if_neg d,if_neg fun h=>d ⟨h.1,by omega⟩]
theorem a4B (hj:Jn (cC js) N js.length) (hk:∀ b,kA (mU S (cC js) (2 * js.length)) b (2 * js.length) = 0) {i y:Nat} (hi:i ∉ nJ js) (hy:y < 2 * js.length):vX S js i (gq (cC js) (iM y)) = gv (jnQ S js i) y:=by
 have hne:gq (cC js) (iM y) ≠ i:=fun e=>hi (Hk.2 ⟨iM y,nN hy,e⟩)
 rw [vX,Zq hj hy,if_pos zo,Int.toNat_natCast,xR,if_neg hne,a3i hk hy]
 rw [show Qi.ofInt 0 = (0:Qi) from rfl]; grind
def Qy (z:List Qi) (S c:List (List Qi)) (js:List (Int × Int)):List (List Qi):=dL (rQ z S js) (mH (Bf S js z.length) c)
theorem Az (hf : bR S 2) (hj : 2 * js.length ≤ 6) (hk : ∀ b, kA (mU S (cC js) (2 * js.length)) b (2 * js.length) = 0) (x : Nat) : dD (zW S js x) 7082 :=
 Yb (m:=6) (K:=1770) (L:=4) (mZ _ _ _) (xD hf (by decide)) (Wk (by decide)) (by decide) hj (Uk hj) (by decide) (hk _)
theorem Ce (hE:rQ z S js = 0) (hl:z.length ≤ 8):sW z js = 0 ∧ 2 * js.length ≤ 6 ∧ (∀ b,kA (mU S (cC js) (2 * js.length)) b (2 * js.length) = 0) ∧ (js.length ≠ 0 → 2 * js.length ≠ z.length):=by
 have hd : sW z js = 0 := by
  apply Classical.byContradiction; intro h
  rw [rQ,if_pos h] at hE; exact h hE
 have hle:=Cb hd
 have h2 : js.length ≠ 0 → 2 * js.length ≠ z.length := fun h0 h2 => by
  rw [rQ,if_neg (fun k=>k hd),if_neg h0,if_pos h2] at hE; omega
 refine ⟨hd,by omega,?_,h2⟩
 by_cases h0:js.length = 0
 ·intro b
  exact (wD (mZ _ _ _)).2 fun y _ k hk=>by omega
 ·have h3 := h2 h0
  rw [rQ,if_neg (fun k=>k hd),if_neg h0,if_neg h3] at hE
  have hs : Ii z S js = 0 := by
   apply Classical.byContradiction; intro h
   rw [if_neg h] at hE; omega
  have hp:=Nq hd h3
  exact a0Z (mZ _ _ _) (gM hs 0 zo)
theorem Rk (hc:eE c N N):mH (Bf S [] N) c = c:=by
 have hl:(Bf S [] N).length = N:=by rw [Bf,List.length_map,show nJ [] = [] from rfl,Ag,aC]
 have hcl:=hc.1
 have hg : ∀ a k, a < N → k < N → gm (Bf S [] N) a k = if k = a then 1 else 0 := fun a k ha hk => by
  have hq:gY (nH (nJ []) N) a = a:=by rw [show nJ [] = [] from rfl,Ag]; exact rI ha
  rw [Bf,a2Z (by rw [show nJ [] = [] from rfl,Ag,aC]; exact ha),mI hk,hq,vX,show oR [] = [] from rfl,show wB [] k = -1 from rfl,if_neg (by decide),xR]; rfl
 refine qE (by have h:=qX (p:=Bf S [] N) (c:=c); rw [hl] at h; exact h) hc fun a ha b hb=>?_
 rw [mH,qN zo zo,xA,hcl]
 have e : aF N (fun x => aF N fun y => tO (Bf S [] N) c a b x y) = aF N fun x => (if x = a then 1 else 0) * gm c x b := bA fun x hx => by
  rw [fP hb (fun y hy hne=>by rw [tO,hg b y hb hy,if_neg hne]; show _ * Qi.conj 0 = 0; rw [show Qi.conj 0 = 0 from rfl]; grind),tO,hg a x ha hx,hg b b hb hb,if_pos rfl,show Qi.conj 1 = 1 from rfl]; grind
 rw [e,fP ha (fun x _ hne=>by rw [if_neg hne]; grind),if_pos rfl]; grind
end
end
section
open Go Go.RowKit
section
variable {P:Program} {R:iK} {cx:Cx} {n:Nat} {k:List It} {E:dF} {H:Hp}
theorem HH.two {base:Nat} {w:World} {V:bD} {Z:SA} {X:Hp} (h:HH base w V (Z :: X)):HH base w V [Z,gU (SA.emp :: X)]:=by
 have h1:HH base w V ((Z :: X).set 0 SA.emp ++ [Z]):=h.last rfl
 have h2:HH base w V (gU (SA.emp :: X) :: [Z]):=HH.repack h1
 exact h2.pick (is:=[1,0]) ⟨⟨_,rfl,fun _ _ _ h=>h⟩,⟨_,rfl,fun _ _ _ h=>h⟩,trivial⟩ (by decide)
theorem iC.pack {f : FuncId} {Ts : List Ty} {γ : Type} {U : γ → Ty} {X : γ → Hp} {Q : γ → Prop} (h : iC P f Ts [] γ U X Q) : iC P f Ts [] γ U (fun x => [gU (SA.emp :: X x)]) Q :=
 fun cx Z vs V w h1 h2=>(h cx Z vs V w h1 h2).mono fun e w' ⟨v,V',x,a,b,c,d,e'⟩=>⟨v,V',x,a,b,c.withHH c.hp.two,d,e'⟩
end
namespace W
variable {P:Program} {R:iK} {cx:Cx} {n:Nat} {k:List It} {E:dF} {H:Hp} {Hf:Bool → Hp} {p:Nat}
end W
end
section
open Go Go.RowKit
section
variable {P:Program} {n:Nat} {E:dF} {H:Hp}
variable {d:Option Tmp} {t:TypeId} {pos:String} {af:Array Edge} {g:Option (Nat × Bool)}
theorem wN {x i : Operand} {B o q r s : Nat} {kd : IntKind} {j : Int} {e : TypeId} {len : Nat} (hU : ∀ w, (underlying t).run P w = .ok (.array len e) w) (hS : ∀ w, (sizeOf e).run P w = .ok s w)
  (hx:bF E x (bP B o)) (hi:bF E i (aP kd j)) (hj:j = (q:Int)) (hl:q < len) (hr:o + q * s = r) {t':TypeId}:aL P n E H ⟨d,.indexAddr t x i,t',pos,af,g⟩ (bP B r) :=
 fB fun a V w hs => by
  have e1:a.eval x = .pointer (some ⟨B,o,none⟩):=hx n V a hs
  have ei:a.eval i = .int kd j:=hi n V a hs
  subst hj hr
  exact ⟨.pointer (some ⟨B,o + q * s,none⟩),by simp [execOp,e1,ei,Instr.indexAt,Instr.sureAddr,asIntOf,Sem.run_bind,hU,hS,Result.andThen,hl,gL],rfl⟩
end
end
end Go.Proofs.YteohomnhncjcnaaGreat
