/- What functions of the program compute, proved by walks over their code, and the plain mathematics of it; a part of the proof in the last text. -/
import Derived.Test.YteohomnhncjcnaaGreatP04
set_option linter.unusedVariables false
set_option linter.unusedSimpArgs false
set_option maxRecDepth 100000
set_option maxHeartbeats 4000000
namespace Go.Proofs.YteohomnhncjcnaaGreat
section
open Go Go.RowKit
theorem Fr {n:Nat} (hn:n ≤ 32):cR Tryz.prog 94 [NT .i64 n] [] (Nat) (fun B=>Is (.slice (some ⟨B,0,none⟩) n n)) (fun B=>[eC bL B 29 51 5 (aH ar (mL n))]) (fun _=>True):=by
 refine cR.intro Tryz.func94 rfl Tryz.ntmps94 rfl (fun cx Z=>(ts (ro rfl (cQ cV) (eX (ts (rn rfl (eW (Ts:=[Is (.bool false),Is (.slice none 0 0),Is (.bool false),Is (.slice none 0 0),Is (.slice none 0 0)]) O_51 rfl (fun V=>aW zd (aW zd (aW zd (aW zd (aW zd (aG))))))) fun B3=>(eX (ts (rm rfl (ro rfl (al.nat (Bg (Ht rfl) (cJ 0)) (show max n 0 = n by omega)) (ro rfl (al.nat (wd (Ht rfl) (cJ 32)) (show min n 32 = n by omega)) ?_)))))))))))
 refine rn rfl (bM (T:=Is (.slice none 0 0)) (i:=Tryz.t29) V_30 gr rfl rfl (Ht rfl) rfl (fun _=>rfl) trivial (by show 24 * _ ≤ _; omega) zo) fun B9=>ra rfl (eX (cK (ts (rm rfl (ro rfl (d7 U_30 (Ht rfl)) (ro rfl (cX (cJ 0)) (eX (eG (fk 2 rfl (km bL ⟨none,0,rfl⟩ (e:=51) (s:=5)) ?_)))))))))
 refine aF (fun (k : Nat) => k ≤ n) (fun (k : Nat) => n - k) (fun (k : Nat) => [(3, aI B3 0), (4, Is (.slice (some ⟨B9, 0, none⟩) n n)), (11, NT .i64 n), (12, NT .i64 k)]) (fun (k : Nat) => [Z, box B3 51 [Is (.bool false), Is (.slice none 0 0), Is (.bool false), Is (.slice none 0 0), Is (.slice none 0 0)], eC bL B9 29 51 5 (aH ar (dA (ga n) [] n k))]) 0 (Nat.zero_le _)
  (zS rfl) (aU (fun _ _ _ h=>h) (aU (fun _ _ _ h=>h) (aU (aC (by rw [← cz,fA]; exact fN ar n)) aY))) (fun k hk=>?_)
 refine ts (ro rfl (gX (Ht rfl) (Ht rfl)) (eX (cK (dQ (Ht rfl) (fun hd=>?_) (fun hd=>?_)))))
 ·simp only [decide_eq_true_eq] at hd
  refine eg 2 (k) rfl (ft hd) (fun v hv=>(cU (cK (eG (ts (rm rfl (ra rfl (eX (cK (fZ (m:=10) (dp 4 rfl (cX (Ht rfl)) (dp 5 rfl (cX (Ht rfl)) (dp 3 rfl (eJ A_51 Z_51 (Ht rfl) (i:=1) rfl rfl rfl) (dq 17 2 rfl (bd bC (Ht rfl)) (d0 rfl (cZ K_77 (jZ (n:=0) (by decide) (by decide)) ⟨(cJ 0),trivial⟩) (b8 18 3 19 4 rfl (b7 jH Tryz.call302 uJ (Ht rfl) ⟨(Ht rfl),trivial⟩) (dq 20 5 rfl (aN (xs:=[.tmp 20]) U_29 Z_51 O_51 (cW (Ht rfl) cG) rfl rfl rfl) ?_)))))))))))))))))
  refine dp 4 rfl (cX (Ht rfl)) (dq 22 7 rfl (d7 U_30 (Ht rfl)) (C.D_new (Ei:=[(21,_),(23,_)]) rfl rfl rfl (bV (bG 6 rfl rfl) (bV (bG 8 rfl rfl) bW)) (qH Tryz.call191 (u7 (m:=n) zo zo) ⟨(Ht rfl),(Ht rfl),trivial⟩) (fV au rfl (by kernel_rfl) (zF (zF (aJ (C.F_new (fun B24=>aV (ro rfl (fY U_30 Z_29 (Ht rfl) (Ht rfl) rfl zo (by rw [Nat.mul_one,Nat.zero_add])) ?_)))))))))
  refine jX Z_29 (Ht rfl) (Ht rfl) (by simp only [aH,List.length_map,bg]; omega) (j:=2) (l:=4) rfl rfl rfl ?_
  refine eX ?_
  have hB24:=B24.1.2
  refine fZ (m:=9) (dp 4 rfl (cX (Ht rfl)) (dp 5 rfl (cX (Ht rfl)) (b8 26 0 27 1 rfl (fY U_30 Z_29 (Ht rfl) (Ht rfl) rfl zo (by rw [Nat.mul_one,Nat.zero_add])) ?_)))
  refine dq 28 2 rfl (d4 A_29 Z_29 (Ht rfl) (j:=2) rfl) (dp 5 rfl (cX (Ht rfl)) (dp 3 rfl (eJ A_51 Z_51 (Ht rfl) (i:=1) rfl rfl rfl) (dq 31 5 rfl (bd bC (Ht rfl)) (d0 rfl (cZ K_77 (jZ (n:=1) (by decide) (by decide)) ⟨(cJ 1),trivial⟩) (b8 32 6 33 7 rfl (b7 jH Tryz.call302 uJ (Ht rfl) ⟨(Ht rfl),trivial⟩) (fV au rfl (by kernel_rfl) (zF (zF (aJ (aV (ro rfl (b6 U_29 Z_51 (Ht rfl) (Ht rfl) rfl (i:=4) rfl (by simp only [List.length_map,a9]; omega) rfl) ?_)))))))))))
  refine dB Z_51 (Ht rfl) (Ht rfl) (El.ag rfl) (i:=4) rfl rfl (by simp only [List.length_map,a9]; omega) rfl ?_
  refine eX (as (bR 2 4 rfl rfl (by decide) (by simp only [aH,List.length_map,bg]; omega) ?_))
  refine cY (ro rfl (dV (Ht rfl) (cJ 1) z6) (rm rfl (eX (aO [0,1,2] rfl (by decide) (fU (k + 1) hd zo (zS rfl) (aU (fun _ _ _ h=>h) (aU (fun _ _ _ h=>h) (aU (aC (by rw [← dn (f:=ga n),← c9,ga,← ce])) aY))))))))
 ·simp only [decide_eq_false_iff_not] at hd
  obtain rfl:n = k:=Nat.le_antisymm zo hk
  refine gV rfl (ts (rm rfl (ra rfl (eX ?_))))
  exact dS B9 trivial [0,2] ⟨⟨_,rfl,fun _ _ _ h=>h⟩,⟨_,rfl,(aC (by rw [di]; rfl))⟩,trivial⟩ (by decide) (kn rfl (eU rfl))
theorem vk {M:List (List Qi)} {b:List Qi} {n L:Nat} (hM:bE M n n) (hb:b.length = n) (hf:aL M L) (hfb:bk b L) (hL:1 ≤ L) (h1:1 ≤ n) (hn:n ≤ 32) (hg:6 * b5 L n + 4 ≤ 17592186044415) (hx:ji (b5 L n) (n + 1) ≤ 17592186044415):az Tryz.prog 96 [b9 M,aS b] (cr [aS (bq (et M b n) (fd M b n)),ap .i64 (et M b n)]):=by
 have hMl:=hM.1
 have hcs:bE (eu M [b] n) n (n + 1):=fx hM
 have hcf:aL (eu M [b] n) L:=mU hf (fun r hr=>by simp at hr; subst hr; exact hfb) hL
 obtain ⟨U,hU⟩:∃ U,U = (lk M b n).1:=⟨_,rfl⟩
 have hUs:bE U n (n + 1):=by rw [hU]; exact zn hM
 have hUl:=hUs.1
 have hUf:aL U (b5 L n):=by rw [hU]; exact su hM hf hfb hL
 have hG1:1 ≤ b5 L n:=Nat.le_trans hL (it L n)
 refine az.intro Tryz.func96 rfl Tryz.ntmps96 rfl (fun cx=>(ts (ro rfl (cQ cV) (ro rfl (cQ (cJ 0)) (eX (cK (ts (rm rfl (ro rfl (cZ Tryz.call174 (y5 hM h1 hn) ⟨(Ht rfl),trivial⟩) (ro rfl (co (Ht rfl)) (rm rfl (fQ rfl rfl (eK rfl rfl (Ht rfl) (fun h=>cX (Ht rfl))) (fQ rfl rfl (eK rfl rfl (Ht rfl) (fun h=>dG U_29 (fJ rfl h) a7)) (fQ rfl rfl (eK rfl rfl (Ht rfl) (fun h=>cX (Ht rfl))) (fQ rfl rfl (eK rfl rfl (Ht rfl) (fun h=>dG U_30 (fJ rfl h) a7)) ?_)))))))))))))))
 refine fQ rfl rfl (eK rfl rfl (Ht rfl) (fun h=>cu (fJ rfl h) (fJ rfl h))) (ro rfl (dr (Ht rfl) (fun h=>(fJ rfl h))) (eX (dP (Ht rfl) (by simp [hMl,hb]) ?_)))
 refine cU (ts (rm rfl (ro rfl (dG U_30 (Ht rfl) (by rw [List.length_map,hMl])) ?_)))
 refine ra rfl (eX (ts (rm rfl (rm rfl (ro rfl (aN (xs:=[.tmp 26]) U_30 Z_29 O_29 (cW (Ht rfl) cG) rfl rfl rfl) (ec Tryz.call193 (wO (M:=M) (bs:=[b]) (n:=n) (m:=n) hM (fun r hr=>by simp at hr; subst hr; omega) zo zo (by simp)) ⟨(Ht rfl),(Ht rfl),trivial⟩ rfl (fun B28 _=>?_)))))))
 refine ra rfl (eX (cK (ts (rm rfl (rD Tryz.call194 (AL (n:=n) (m:=n + 1) (L:=L) hcs hcf hL hg zo zo) (i:=0) rfl ⟨(Ht rfl),trivial⟩ rfl (fun uu _=>(rm rfl (ro rfl (dK (Ht rfl) rfl) (ro rfl (dK (Ht rfl) rfl) (ra rfl (ra rfl (eX (ts (rm rfl (ro rfl (eB (Ht rfl) cV) (eX (dQ (Ht rfl) (fun hs=>?_) (fun hs=>?_))))))))))))))))))
 ·have he : et M b n = 6 := by rw [et, if_pos (show 0 ≤ (lk M b n).2.2 from of_decide_eq_true hs)]
  refine ts (ro rfl (cQ cV) (ro rfl (cQ (cJ 6)) (eX (aE rfl (fX (eU rfl) ?_) (fX (eU rfl) ?_)))))
  ·exact (fun v V k=>by rw [he]; exact dh v V k)
  ·exact (am he.symm)
 ·have hst : ¬ 0 ≤ (lk M b n).2.2 := of_decide_eq_false hs
  have he:et M b n = 0:=by rw [et,if_neg hst]
  have hdz:∀ i,i < n → gm U i i ≠ Qi.zero:=by rw [hU]; exact jB hcs (Nat.le_refl n) (Cj hst)
  refine cU (ts (rm rfl (rn rfl (dE (T:=ar Qi.zero) (i:=Tryz.t51) gt f9 rfl rfl (Ht rfl) rfl ez (El.ag rfl) (by show 88 * _ ≤ _; omega) zo) fun B37=>(ra rfl (eX (cK (ts (rm rfl (ro rfl (dW (Ht rfl) (cJ 1) zo z6) (ra rfl (eX (eG (fk 0 rfl (aC (show aH ar (bp (eu M [b] n) n).1 = aH ar U by rw [hU]; rfl)) (r8 0 rfl (fun vs hvs=>?_)))))))))))))))
  have hvl:vs.length = n:=by have h:=hvs.len; rw [List.length_map,hUl] at h; exact h
  refine aF (fun (j : Nat) => j ≤ n) (fun (j : Nat) => n - j) (fun (j : Nat) => [(0, Is (.slice (some ⟨B28, 0, none⟩) n n)), (6, NT .i64 n), (9, Is B37), (10, ap .i64 ((n : Int) - 1 - (j : Int)))]) (fun (j : Nat) => [dT B28 29 51 5 vs vs (aH ar U), aB 51 5 B37 ((j1 U n j).map ar)]) 0 (Nat.zero_le _)
   (aQ rfl (aQ rfl (aQ rfl (aZ rfl (am zo) aX)))) (aU (fun _ _ _ h=>h) (aU (aa (by rw [j1]; exact nT ar n)) aY)) (fun j hj=>?_)
  refine cK (ts (rm rfl (ro rfl (eB (Ht rfl) cV) (eX (dQ (Ht rfl) (fun hc=>?_) (fun hc=>?_))))))
  ·have hjn : j < n := EV (of_decide_eq_true hc)
   obtain ⟨q,hq⟩:∃ q,q = n - (j + 1):=⟨_,rfl⟩
   have hqi:(n:Int) - 1 - (j:Int) = (q:Int):=by omega
   have hqr:(U.getD q []).length = n + 1:=hUs.row zo
   have hXf:=ut hUf hG1 hdz j hj
   have hXl:=lX U n j
   have hX1:1 ≤ ji (b5 L n) j:=Nat.le_trans hG1 (pg _ _)
   have hxm:=mi (b5 L n) (show j + 1 ≤ n + 1 by omega)
   refine cU (cK (eG (ts (rm rfl (rm rfl (ro rfl (fY U_30 Z_29 (Ht rfl) (Ht rfl) hqi zo (by rw [Nat.mul_one,Nat.zero_add])) ?_))))))
   refine ro rfl (cF A_29 Z_29 (Ht rfl) (j:=0) rfl zo) (rm rfl (ro rfl (dF U_29 Z_51 (Ht rfl) (Ht rfl) rfl (j:=0) rfl zo zo zo) (ro rfl (g0 A_51 Z_51 (Ht rfl) (j:=0) rfl zo zo zo) (rn rfl (eW (Ts:=[Is (.bool false),Is (.slice none 0 0),Is (.bool false),Is (.slice none 0 0),Is (.slice none 0 0)]) O_51 rfl (fun V=>aW zd (aW zd (aW zd (aW zd (aW zd (aG))))))) fun B11=>?_))))
   refine gQ Z_51 (Ht rfl) (Ht rfl) rfl (i:=2) rfl (aK rfl) rfl rfl (eX (cK (ts (rm rfl (ro rfl (uy (Ht rfl) cV (r:=((q + 1:Nat):Int)) ((kA (z:=(n:Int) - 1 - (j:Int) + 1) zo).trans zo)) ?_)))))
   refine ra rfl (eX (eG ?_))
   refine aF (fun (k : Nat) => k ≤ j) (fun (k : Nat) => j - k) (fun (k : Nat) => [(0, Is (.slice (some ⟨B28, 0, none⟩) n n)), (6, NT .i64 n), (9, Is B37), (10, ap .i64 ((n : Int) - 1 - (j : Int))), (11, aI B11 0), (12, NT .i64 (q + 1 + k))]) (fun (k : Nat) => [dT B28 29 51 5 vs vs (aH ar U), aB 51 5 B37 ((j1 U n j).map ar), box B11 51 [ab (decide ((ij U (j1 U n j) n q k).a < 0)), ai (ij U (j1 U n j) n q k).a.natAbs, ab (decide ((ij U (j1 U n j) n q k).b < 0)), ai (ij U (j1 U n j) n q k).b.natAbs, ai (du (ij U (j1 U n j) n q k))]]) 0 (Nat.zero_le _)
    (zS rfl) (aU (fun _ _ _ h=>h) (aU (fun _ _ _ h=>h) (aU (a8 rfl) aY))) (fun k hk=>?_)
   refine cK (ts (rm rfl (rm rfl (ro rfl (gX (Ht rfl) (Ht rfl)) (eX (dQ (Ht rfl) (fun hf=>?_) (fun hf=>?_)))))))
   ·have hkj : k < j := by simp only [decide_eq_true_eq] at hf; omega
    haveI f1:ao (ij U (j1 U n j) n q k) (b5 L n + k * (b5 L n + ji (b5 L n) j + 2)):=o3 hUf hXf hG1 hX1 k
    haveI f2:ao (gm U q (q + 1 + k)) (b5 L n):=hUf.get hG1 _ _
    haveI f3:ao (gv (j1 U n j) (q + 1 + k)) (ji (b5 L n) j):=hXf.get hX1 _
    have hb1:=yz (G:=b5 L n) (X:=ji (b5 L n) j) hkj
    have hb2:ji (b5 L n) (j + 1) = j * (ji (b5 L n) j + b5 L n + 2) + 4 * b5 L n + 2:=rfl
    refine cU (cK (eG (fZ (m:=15) (dp 11 rfl (eJ A_51 Z_51 (Ht rfl) (i:=2) rfl rfl rfl) (dq 58 0 rfl (bd bC (Ht rfl)) (dp 0 rfl (cX (Ht rfl)) (dp 10 rfl (cX (Ht rfl)) (b8 60 2 61 3 rfl (fY U_30 Z_29 (Ht rfl) (Ht rfl) hqi zo (by rw [Nat.mul_one,Nat.zero_add])) ?_))))))))
    refine dq 62 4 rfl (cF A_29 Z_29 (Ht rfl) (j:=0) rfl zo) (dp 12 rfl (cX (Ht rfl)) (b8 63 5 64 6 rfl (dF U_29 Z_51 (Ht rfl) (Ht rfl) rfl (j:=0) rfl zo zo zo) (dq 65 7 rfl (g0 A_51 Z_51 (Ht rfl) (j:=0) rfl zo zo zo) (dq 66 8 rfl (bd bC (Ht rfl)) (dp 9 rfl (cX (Ht rfl)) (dp 12 rfl (cX (Ht rfl)) (b8 68 10 69 11 rfl (b6 U_29 Z_51 (Ht rfl) (Ht rfl) rfl (i:=1) rfl (by rw [List.length_map]; omega) rfl) ?_)))))))
    refine dq 70 12 rfl (gD A_51 Z_51 (Ht rfl) (i:=1) rfl rfl (dY (dU (d:=Qi.zero) zo))) (b8 67 9 71 13 rfl (b7 cD K_45 (jc (x:=gm U q (q + 1 + k)) (y:=gv (j1 U n j) (q + 1 + k)) (L:=b5 L n) (M:=ji (b5 L n) j) zo) (Ht rfl) ⟨(Ht rfl),trivial⟩) (fV au rfl (by kernel_rfl) (zF (zF (zF (aJ (aJ (aJ (aV (ro rfl (b7 fo K_44 (oL (x:=(ij U (j1 U n j) n q k)) (y:=gm U q (q + 1 + k) * gv (j1 U n j) (q + 1 + k)) (L:=b5 L n + k * (b5 L n + ji (b5 L n) j + 2)) (M:=b5 L n + ji (b5 L n) j + 1) zo) (Ht rfl) ⟨(Ht rfl),trivial⟩) ?_))))))))))
    refine gQ Z_51 (Ht rfl) (Ht rfl) rfl (i:=2) rfl (aK rfl) rfl rfl (eX (as (cY (rm rfl (ro rfl (dV (Ht rfl) (cJ 1) z6) (ra rfl (eX (fU (k + 1) hkj zo (zS rfl) (aU (fun _ _ _ h=>h) (aU (fun _ _ _ h=>h) (aU (a8 rfl) aY)))))))))))
   ·obtain rfl : k = j := Nat.le_antisymm hk (by simp only [decide_eq_false_iff_not] at hf; omega)
    haveI f1:ao (ij U (j1 U n k) n q k) (b5 L n + k * (b5 L n + ji (b5 L n) k + 2)):=o3 hUf hXf hG1 hX1 k
    haveI f2:ao (gm U q q) (b5 L n):=hUf.get hG1 _ _
    have hb3:k * (ji (b5 L n) k + b5 L n + 2) = k * (b5 L n + ji (b5 L n) k + 2):=by rw [Nat.add_comm (ji _ _)]
    have hb2:ji (b5 L n) (k + 1) = k * (ji (b5 L n) k + b5 L n + 2) + 4 * b5 L n + 2:=rfl
    refine gV rfl (Y.D_start (m:=17) [(16,1,aB 51 5 B37 (((j1 U n k).map ar).set q (ar ((ij U (j1 U n k) n q k) / gm U q q))))] (Y.D_step (Ei:=[(9,_)]) rfl rfl (bQ (bJ rfl rfl) bX) rfl rfl (by kernel_rfl) (dX rfl (cX (Ht rfl))) (Y.D_step (Ei:=[(10,_)]) rfl rfl (bQ (bJ rfl rfl) bX) rfl rfl (by kernel_rfl) (dX rfl (cX (Ht rfl))) (Y.D_step (Ei:=[(11,_)]) rfl rfl (bQ (bJ rfl rfl) bX) rfl rfl (by kernel_rfl) (dX rfl (eJ A_51 Z_51 (Ht rfl) (i:=2) rfl rfl rfl)) ?_))))
    refine Y.D_step (Ei:=[(77,_)]) rfl rfl (bQ (bZ 2 rfl rfl) bX) rfl rfl (by kernel_rfl) (dX rfl (bd bC (Ht rfl))) (Y.D_step (Ei:=[(0,_)]) rfl rfl (bQ (bJ rfl rfl) bX) rfl rfl (by kernel_rfl) (dX rfl (cX (Ht rfl))) (Y.D_step (Ei:=[(10,_)]) rfl rfl (bQ (bJ rfl rfl) bX) rfl rfl (by kernel_rfl) (dX rfl (cX (Ht rfl))) (Y.D_step (Ei:=[(79,_),(80,_)]) rfl rfl (bQ (bZ 4 rfl rfl) (bQ (bZ 5 rfl rfl) bX)) rfl rfl (by kernel_rfl) (dX rfl (fY U_30 Z_29 (Ht rfl) (Ht rfl) hqi zo (by rw [Nat.mul_one,Nat.zero_add]))) ?_)))
    refine Y.D_step (Ei:=[(81,_)]) rfl rfl (bQ (bZ 6 rfl rfl) bX) rfl rfl (by kernel_rfl) (dX rfl (cF A_29 Z_29 (Ht rfl) (j:=0) rfl zo)) (Y.D_step (Ei:=[(10,_)]) rfl rfl (bQ (bJ rfl rfl) bX) rfl rfl (by kernel_rfl) (dX rfl (cX (Ht rfl))) (Y.D_step (Ei:=[(82,_),(83,_)]) rfl rfl (bQ (bZ 7 rfl rfl) (bQ (bZ 8 rfl rfl) bX)) rfl rfl (by kernel_rfl) (dX rfl (dF U_29 Z_51 (Ht rfl) (Ht rfl) hqi (j:=0) rfl zo zo zo)) ?_))
    refine Y.D_step (Ei:=[(84,_)]) rfl rfl (bQ (bZ 9 rfl rfl) bX) rfl rfl (by kernel_rfl) (dX rfl (g0 A_51 Z_51 (Ht rfl) (j:=0) rfl zo zo zo)) (Y.D_step (Ei:=[(78,_),(85,_)]) rfl rfl (bQ (bZ 3 rfl rfl) (bQ (bZ 10 rfl rfl) bX)) rfl rfl (by kernel_rfl) (dX rfl (b7 kJ Tryz.call40 (yS (x:=(ij U (j1 U n k) n q k)) (y:=gm U q q) (L:=b5 L n + k * (b5 L n + ji (b5 L n) k + 2)) (M:=b5 L n) zo) (Ht rfl) ⟨(Ht rfl),trivial⟩)) (Y.D_step (Ei:=[(86,_)]) rfl rfl (bQ (bZ 11 rfl rfl) bX) rfl rfl (by kernel_rfl) (dX rfl (cX (Ht rfl))) ?_))
    refine Y.D_step (Ei:=[(74,_)]) rfl rfl (bQ (bZ 12 rfl rfl) bX) rfl rfl (by kernel_rfl) (dX rfl (dK (Ht rfl) rfl)) (bY (Ei:=[(74,_)]) rfl rfl (bQ (bZ 12 rfl rfl) bX) rfl rfl (dX rfl (dK (Ht rfl) rfl)) (Y.D_step (Ei:=[(75,_),(76,_)]) rfl rfl (bQ (bZ 0 rfl rfl) (bQ (bZ 1 rfl rfl) bX)) rfl rfl (by kernel_rfl) (dX rfl (b6 U_29 Z_51 (Ht rfl) (Ht rfl) hqi (i:=1) rfl (by rw [List.length_map]; omega) rfl)) ?_))
    refine Y.D_putI (Ei:=[(89,_),(87,_)]) 1 rfl rfl rfl (bQ (bZ 15 rfl rfl) (bQ (bZ 13 rfl rfl) bX)) (.head _) rfl (sF Z_51 (Ht rfl) (Ht rfl) (El.ag rfl) (i:=0) rfl rfl (by rw [List.length_map]; omega)) ?_
    refine Y.D_done au rfl (by kernel_rfl) rfl (by simp [Y.okP]) rfl rfl (bU (bU (bU (bU (bU (bU (bU (bU (bU (bU (bU (bU (bU (bU (bU (bU (Y.F_putI (Y.F_nil ?_))))))))))))))))))
    refine eX (as (cY (rm rfl (ro rfl (bT (Ht rfl) cV (kA zo)) (ra rfl (eX (aO [0,1] rfl (by decide) (fU (k + 1) hjn zo (aQ rfl (aQ rfl (aQ rfl (aZ rfl (am zo) aX)))) (aU (fun _ _ _ h=>h) (aU (aa (by rw [ce,j1,← hq])) aY))))))))))
  ·obtain rfl : j = n := Nat.le_antisymm hj (Fk (by have h := of_decide_eq_false hc; omega))
   refine gJ (i:=1) (tt:=9) rfl rfl bB (gV rfl (ts (rm rfl (ra rfl (ro rfl (cQ (cJ 0)) (eX (aE rfl (fX (eU rfl) ?_) (fX (eU rfl) ?_))))))))
   ·exact (eR (by rw [he,fd,← hU]; rfl))
   ·exact (am he.symm)
end
section
open Go Go.RowKit
abbrev ek (n k:Nat):List Qi:=(mL n).getD k []
theorem yx {n k L:Nat} (h:1 ≤ L):bk (ek n k) L:=(AA h).row k
def tR (M:List (List Qi)) (n:Nat):Int:=ed (fun k=>et M (ek n k) n) n
def tw (M:List (List Qi)) (n:Nat):List (List Qi):=tab n fun r=>tab n fun j=>gv (fd M (ek n j) n) r
theorem jv {α:Type} {n i:Nat} {f:Nat → α} {d:α} (h:i < n):(tab n f).getD i d = f i:=by simp [List.getD,aM h]
end
section
open Go Go.RowKit
section
variable {P:Program} {R:db} {cx:Cx} {n:Nat} {k:List It} {E:bn} {H:Hp}
theorem po (i l off : Nat) {B : Nat} {BT : TypeId} {Us : List Ty} {v : Value} {A : SA} {T : Ty} (hB : H[i]? = some (box B BT Us)) (hU : Us[off]? = some (Is v)) (hL : H[l]? = some A) (hne : i ≠ l) (hT : ∀ S V, A.h S V V → T.p v V)
  (h:Tr P R cx n k E ((H.set l SA.emp).set i (box B BT (Us.set off T)))):Tr P R cx n k E H:=fun a w ⟨V,hi,hs⟩=>by
 obtain ⟨V',S,hle,hi',hA⟩:=hi.freeze hL
 have hT:=hT S V' hA
 refine h a w ⟨V',hi'.withHH ?_,hs.mono hle⟩
 obtain ⟨F,h1,h2⟩:=hi'.hp
 have hB':(H.set l SA.emp)[i]? = some (box B BT Us):=by rw [List.getElem?_set_ne (Ne.symm hne)]; exact hB
 have hil:=(List.getElem?_eq_some_iff.1 hB').1
 refine ⟨F,fun q A hq=>?_,fun q r b hq hr=>h2 q r b (by simpa using hq) (by simpa using hr)⟩
 by_cases c:i = q
 ·subst c
  rw [List.getElem?_set_self hil] at hq
  obtain rfl:=Option.some.inj hq
  obtain ⟨⟨k1,cs,k2,k3⟩,k4⟩:=h1 i _ hB'
  obtain ⟨u,u1,u2⟩:=k3.get hU
  obtain rfl:u = v:=u2
  have hset : cs.set off u = cs := by
   apply List.ext_getElem?
   intro j
   by_cases cj:off = j
   ·subst cj; rw [List.getElem?_set_self (List.getElem?_eq_some_iff.1 u1).1,u1]
   ·rw [List.getElem?_set_ne cj]
  refine ⟨⟨k1,cs,k2,?_⟩,k4⟩
  have:=k3.set off (v:=u) hT (k3.pl u (List.mem_of_getElem? u1))
  rwa [hset] at this
 ·rw [List.getElem?_set_ne c] at hq
  exact h1 q A hq
theorem F9 {B e l : Nat} {BT : TypeId} {F : Qi → Ty} {q : Value → Prop} {M : List (List Qi)} (hl : l = M.length) : ∀ S V, (eC q B BT e 5 (aH F M)).h S V V → (eN 1 (M.map fun r => eN 5 (r.map F))).p (.slice (some ⟨B, 0, none⟩) l l) V := fun S V h =>
 eD (s:=5) (M:=M) hl _ S V rfl h
end
abbrev bv (l:List Nat):Ty:=eN 1 (l.map (NT .i64))
end
section
open Go Go.RowKit
abbrev D0 (G:List Nat):List Int:=G.map fun (q:Nat)=>(q:Int) + 1
def gC (G : List Nat) : Nat → List Nat
 | 0=>[]
 | k + 1=>gC G k ++ (if k ∈ G then [] else [k])
theorem j4 (G : List Nat) : ∀ k, (gC G k).length ≤ k
 | 0=>Nat.le_refl _
 | k + 1 => by
  have:=j4 G k
  simp only [gC,List.length_append]
  split
  ·simp; omega
  ·simp; omega
theorem tS {G : List Nat} : ∀ {k x : Nat}, x ∈ gC G k → x < k
 | 0,x,h=>by cases h
 | k + 1, x, h => by
  rcases List.mem_append.1 h with h1 | h1
  ·have:=tS h1; omega
  ·split at h1
   ·cases h1
   ·have:=List.mem_singleton.1 h1; omega
theorem yF {G:List Nat} {i:Nat}:((D0 G).any fun x=>decide (((i + 1:Nat):Int) = x)) = decide (i ∈ G):=by
 rw [Bool.eq_iff_iff]
 simp only [D0,List.any_map,List.any_eq_true,Function.comp,decide_eq_true_eq]
 constructor
 ·rintro ⟨q, h1, h2⟩
  obtain rfl:i = q:=by omega
  exact h1
 ·intro h; exact ⟨i,h,by omega⟩
abbrev cO (Q:List Nat) (i:Nat):Nat:=Q.getD i 0
def nK (z:List Qi) (Q:List Nat):List Qi:=tab Q.length fun i=>gv z (cO Q i)
def Ew (s:List (List Qi)) (Q:List Nat):List (List Qi):=tab Q.length fun i=>tab Q.length fun j=>gm s (cO Q i) (cO Q j)
theorem uk {Q:List Nat} {n i:Nat} (h:∀ x,x ∈ Q → x < n) (hi:i < Q.length):cO Q i < n:=h _ (by rw [show cO Q i = Q[i] by simp [cO,List.getD,hi]]; exact List.getElem_mem hi)
theorem j3 {Q:List Nat} {i:Nat} (h:i < Q.length):(Q.map Nat.succ)[i]? = some (cO Q i + 1):=by simp [cO,List.getD,h]
end
section
open Go Go.RowKit
theorem jT:Tryz.prog.info? 3 = some Tryz.t3:=by kernel_rfl
theorem jN:Tryz.prog.underlying 72 = some (.slice 3):=by kernel_rfl
end
section
open Go Go.RowKit
theorem ud {l:List Int} {v:Int} (hl:l.length ≤ 1000000):az Tryz.prog 192 [eN 1 (l.map (ap .i64)),ap .i64 v] (ap .i64 (rg (fun x=>decide (v = x)) l)):=by
 refine az.intro Tryz.func192 rfl Tryz.ntmps192 rfl (fun cx=>(ts (ro rfl (cQ (cJ 0)) (eX (cK (ts (rm rfl (ro rfl (dG U_72 (Ht rfl) a7) (ro rfl (cX (cJ 0)) (eX (eG ?_)))))))))))
 refine aF (fun (k : Nat) => k ≤ l.length ∧ ∀ (i : Nat) (x : Int), i < k → l[i]? = some x → decide (v = x) = false) (fun (k : Nat) => l.length - k) (fun (k : Nat) => [(0, eN 1 (l.map (ap .i64))), (1, ap .i64 v), (7, NT .i64 l.length), (8, NT .i64 k)]) (fun (k : Nat) => []) 0 ⟨Nat.zero_le _, fun i x h => by omega⟩
  (zS rfl) aY (fun k ⟨hk,hn⟩=>?_)
 refine ts (ro rfl (gX (Ht rfl) (Ht rfl)) (eX (cK (dQ (Ht rfl) (fun hb=>?_) (fun hb=>?_)))))
 ·simp only [decide_eq_true_eq] at hb
  refine cU (cK (eG (ts (rm rfl (ra rfl (eX (ts (rm rfl (rm rfl (rm rfl (ro rfl (dZ U_72 Z_3 (Ht rfl) (Ht rfl) rfl (dY (gG hb))) (ro rfl (dJ A_3 Z_3 (Ht rfl)) (ro rfl (dR (Ht rfl) (Ht rfl)) (eX (dQ (Ht rfl) (fun hc=>?_) (fun hc=>?_))))))))))))))))
  ·refine ts (rm rfl (ra rfl (eX (fW rfl (fX (eU rfl) ?_)))))
   exact (am (qP (p:=fun x=>decide (v = x)) (gG hb) hc hn).symm)
  ·refine cU (as (cY (ro rfl (dV (Ht rfl) (cJ 1) z6) (rm rfl (eX ?_)))))
   refine fU (k + 1) ⟨hb, fun i x h1 h2 => by
    by_cases e:i = k
    ·subst e; rw [gG hb] at h2; obtain rfl:=Option.some.inj h2; exact hc
    ·exact hn i x zo h2⟩ zo (zS rfl) aY
 ·simp only [decide_eq_false_iff_not] at hb
  refine gV rfl (ts (ro rfl (cQ cV) (eX (fW rfl (fX (eU rfl) ?_)))))
  exact (am (no (p:=fun x=>decide (v = x)) (fun i x h=>hn i x (by have:=(List.getElem?_eq_some_iff.1 h).1; omega) h)).symm)
theorem jg {l:List Int} {v:Int} (hl:l.length ≤ 1000000):az Tryz.prog 95 [eN 1 (l.map (ap .i64)),ap .i64 v] (ab (l.any fun x=>decide (v = x))):=by
 refine az.intro Tryz.func95 rfl Tryz.ntmps95 rfl (fun cx=>(ts (ro rfl (cQ cV) (eX (ts (rm rfl (rm rfl (ro rfl (cZ Tryz.call192 (ud zo) ⟨(Ht rfl),(Ht rfl),trivial⟩) (ro rfl (eB (Ht rfl) cV) (ra rfl (eX (fW rfl (fX (eU rfl) ?_)))))))))))))
 exact (bF (pi _ l))
theorem AV {z:List Qi} {s:List (List Qi)} {G:List Nat} (hl:z.length ≤ 1000) (hG:G.length ≤ 1000):az Tryz.prog 121 [fP z s,eN 1 ((D0 G).map (ap .i64))] (bv ((gC G z.length).map Nat.succ)):=by
 refine az.intro Tryz.func121 rfl Tryz.ntmps121 rfl (fun cx=>(ts (rn rfl (fG (Ht rfl)) fun B2=>(ro rfl (cQ cV) (eX (ts (ro rfl (cQ cV) (eX (cK (ts (ro rfl (cQ (cJ 1)) (eX (eG (iF 3 1 ?_))))))))))))))
 refine bA (fun (i : Nat) (v : Value) => i ≤ z.length) (fun (i : Nat) (v : Value) => z.length - i) (fun (i : Nat) (v : Value) => [(1, eN 1 ((D0 G).map (ap .i64))), (2, aI B2 0), (5, Is v), (6, NT .i64 (i + 1))]) (fun (i : Nat) (v : Value) => [box B2 32 [aS z, b9 s], aB 3 1 v (((gC G i).map Nat.succ).map (NT .i64))]) 0 (.slice none 0 0) (Nat.zero_le _)
  (zS rfl) (aU (a8 rfl) (aU (aa rfl) aY)) (fun i v hi=>?_)
 refine cK (ts (rm rfl (ro rfl (eZ iT (Ht rfl) rfl) (ro rfl (eY A_29 Z_29 (Ht rfl) (i:=0) rfl rfl) (ro rfl (dG U_29 (Ht rfl) a7) (ro rfl (mI (Ht rfl) (Ht rfl)) (eX (dQ (Ht rfl) (fun hd=>?_) (fun hd=>?_)))))))))
 ·simp only [decide_eq_true_eq] at hd
  have hcl:=j4 G i
  refine cU (cK (eG (e9 (fun (v2:Value)=>True) (fun (v2:Value)=>[(1,eN 1 ((D0 G).map (ap .i64))),(2,aI B2 0),(5,Is v2),(6,NT .i64 (i + 1))]) (fun (v2:Value)=>[box B2 32 [aS z,b9 s],aB 3 1 v2 (((gC G (i + 1)).map Nat.succ).map (NT .i64))]) ?_ (fun v2 _=>?_))))
  ·refine ts (rm rfl (rm rfl (ro rfl (cZ Tryz.call95 (jg (l := D0 G) (v := ((i + 1 : Nat) : Int)) (by rw [List.length_map]; omega)) ⟨(Ht rfl), (Ht rfl), trivial⟩) ?_)))
   refine ro rfl (co (Ht rfl)) (eX (dQ (Ht rfl) (fun he=>?_) (fun he=>?_)))
   ·rw [yF] at he
    have he2:i ∉ G:=by simpa using he
    have hnx:gC G (i + 1) = gC G i ++ [i]:=by rw [gC,if_neg he2]
    refine cY (rm rfl (rm rfl (ro rfl (aN (xs:=[.tmp 19]) U_72 Z_3 O_3 (cW (Ht rfl) cG) rfl rfl rfl) (d5 (inf:=Tryz.t3) jN jT rfl rfl rfl (Ht rfl) (Ht rfl) (i:=1) rfl (by simp) (fun T hT=>by simp at hT; subst hT; exact El.one) (by show _ * 8 ≤ _; simp only [List.length_map,List.length_cons,List.length_nil]; omega) (by simp only [List.length_map,List.length_cons,List.length_nil]; omega) rfl (fun v3=>?_)))))
    refine ra rfl (eX (ax v3 trivial (zS rfl) (aU (a8 rfl) (aU (aa (by rw [hnx,List.map_append,List.map_append]; rfl)) aY))))
   ·rw [yF] at he
    have he2:i ∈ G:=by simpa using he
    have hnx:gC G (i + 1) = gC G i:=by rw [gC,if_pos he2,List.append_nil]
    refine cU (ax v trivial (zS rfl) (aU (a8 rfl) (aU (aa (by rw [hnx])) aY)))
  ·refine as (cY (rm rfl (ro rfl (dV (Ht rfl) (cJ 1) z6) (ra rfl (eX (fU (i + 1,v2) hd (by dsimp only; omega) (zS rfl) (bh.refl _)))))))
 ·simp only [decide_eq_false_iff_not] at hd
  obtain rfl:z.length = i:=Nat.le_antisymm zo hi
  refine gV rfl (gJ (i:=1) (tt:=5) rfl rfl bB (ts (rm rfl (ra rfl (eX ?_)))))
  exact fW rfl (eU rfl)
theorem AI {z:List Qi} {s:List (List Qi)} {Q:List Nat} {m:Nat} (hs:bE s z.length z.length) (hQ:∀ x,x ∈ Q → x < z.length) (hm:Q.length = m) (hm2:m ≤ 1000) (hl:z.length ≤ 1000) {i j:Nat} (hi:i < m) (hj:j < m):az Tryz.prog 206 [NT .i64 i,NT .i64 j,PT (fP z s),PT (bv (Q.map Nat.succ))] (ar (gm s (cO Q i) (cO Q j))):=by
 have hki:cO Q i < z.length:=uk hQ zo
 have hkj:cO Q j < z.length:=uk hQ zo
 have hsl:=hs.1
 have hsr:=hs.row hki
 refine az.intro Tryz.func206 rfl Tryz.ntmps206 rfl (fun cx=>(ts (rn rfl (eW (Ts:=[Is (.bool false),Is (.slice none 0 0),Is (.bool false),Is (.slice none 0 0),Is (.slice none 0 0)]) O_51 rfl (fun V=>aW zd (aW zd (aW zd (aW zd (aW zd (aG))))))) fun B6=>(eX (cK (fZ (m:=14) (dp 2 rfl (og l9 (Ht rfl) rfl) (dq 7 0 rfl (dJ A_30 Z_30 (Ht rfl)) (dp 3 rfl (dJ A_72 Z_72 (Ht rfl)) (dp 0 rfl (cX (Ht rfl)) ?_))))))))))
 refine b8 9 2 10 3 rfl (dZ U_72 Z_3 (Ht rfl) (Ht rfl) rfl (dY (j3 zo))) (dq 11 4 rfl (dJ A_3 Z_3 (Ht rfl)) (dq 12 5 rfl (al.nat (dW (Ht rfl) (cJ 1) zo z6) (show cO Q i + 1 - 1 = cO Q i by omega)) (b8 8 1 13 6 rfl (dZ U_30 Z_29 (Ht rfl) (Ht rfl) rfl (dY (dU (d:=[]) zo))) (dq 14 7 rfl (dJ A_29 Z_29 (Ht rfl)) (dp 3 rfl (dJ A_72 Z_72 (Ht rfl)) ?_)))))
 refine dp 1 rfl (cX (Ht rfl)) (b8 16 9 17 10 rfl (dZ U_72 Z_3 (Ht rfl) (Ht rfl) rfl (dY (j3 zo))) (dq 18 11 rfl (dJ A_3 Z_3 (Ht rfl)) (dq 19 12 rfl (al.nat (dW (Ht rfl) (cJ 1) zo z6) (show cO Q j + 1 - 1 = cO Q j by omega)) (fV au rfl (by kernel_rfl) (zF (zF (zF (aJ (aJ (aV (ro rfl (dZ U_29 Z_51 (Ht rfl) (Ht rfl) rfl (dY (dU (d:=Qi.zero) zo))) ?_)))))))))))
 refine ro rfl (dJ A_51 Z_51 (Ht rfl)) (gQ Z_51 (Ht rfl) (Ht rfl) rfl (i:=0) rfl (aK rfl) rfl rfl (eX ?_))
 exact fW rfl (fK A_51 Z_51 rfl (i:=0) rfl rfl)
theorem Bh {z:List Qi} {s:List (List Qi)} {Q:List Nat} {m:Nat} (hs:bE s z.length z.length) (hQ:∀ x,x ∈ Q → x < z.length) (hm:Q.length = m) (hm2:m ≤ 1000) (hl:z.length ≤ 1000):cR Tryz.prog 122 [fP z s,bv (Q.map Nat.succ)] [] (Nat) (fun B=>bO [aS (nK z Q),Is (.slice (some ⟨B,0,none⟩) m m)]) (fun B=>[iK B 29 51 5 (aH ar (Ew s Q))]) (fun _=>True):=by
 have hll:(Q.map Nat.succ).length = m:=by rw [List.length_map]; exact hm
 refine cR.intro Tryz.func122 rfl Tryz.ntmps122 rfl (fun cx Z=>(ts (rn rfl (fG (Ht rfl)) fun B2=>(rn rfl (p8 (Ht rfl)) fun B3=>(rn rfl (eW (Ts:=[Is (.slice none 0 0),Is (.slice none 0 0)]) O_32 rfl (fun V=>aW zd (aW zd (aG)))) fun B4=>(eX (cK (gJ (i:=1) (tt:=2) rfl rfl rK (gJ (i:=2) (tt:=3) rfl rfl ju (cY (ro rfl (dJ A_72 Z_72 (Ht rfl)) (ro rfl (dG U_72 (Ht rfl) (by rw [List.length_map,hll])) ?_))))))))))))
 refine rn rfl (dE (T:=ar Qi.zero) (i:=Tryz.t51) gt f9 rfl rfl (Ht rfl) rfl ez (El.ag rfl) (by show 88 * _ ≤ _; omega) zo) fun B10=>ra rfl (eX (cK (ts (ro rfl (dJ A_72 Z_72 (Ht rfl)) (ro rfl (dG U_72 (Ht rfl) (by rw [List.length_map,hll])) ?_)))))
 refine ro rfl (cX (cJ 0)) (eX (eG (aO [0,3,4] rfl (by decide) ?_)))
 refine aF (fun (i : Nat) => i ≤ m) (fun (i : Nat) => m - i) (fun (i : Nat) => [(2, PT (fP z s)), (3, PT (bv (Q.map Nat.succ))), (4, aI B4 0), (5, Is B10), (11, bv (Q.map Nat.succ)), (12, NT .i64 m), (13, NT .i64 i)]) (fun (i : Nat) => [Z, box B4 32 [Is (.slice none 0 0), Is (.slice none 0 0)], aB 51 5 B10 ((dA (fun i => gv z (cO Q i)) Qi.zero m i).map ar)]) 0 (Nat.zero_le _)
  (zS rfl) (aU (fun _ _ _ h=>h) (aU (fun _ _ _ h=>h) (aU (aa (by rw [← cz]; exact nT ar m)) aY))) (fun i hi=>?_)
 refine ts (ro rfl (gX (Ht rfl) (Ht rfl)) (eX (cK (dQ (Ht rfl) (fun hd=>?_) (fun hd=>?_)))))
 ·simp only [decide_eq_true_eq] at hd
  have hki:cO Q i < z.length:=uk hQ zo
  refine cU (cK (eG (ts (rm rfl (ro rfl (dZ U_72 Z_3 (Ht rfl) (Ht rfl) rfl (dY (j3 zo))) (ro rfl (dJ A_3 Z_3 (Ht rfl)) (ra rfl (ra rfl (eX (cY (rm rfl (rm rfl (ro rfl (og iT (Ht rfl) rfl) (ro rfl (dJ A_29 Z_29 (Ht rfl)) (rm rfl (ro rfl (al.nat (dW (Ht rfl) (cJ 1) zo z6) (show cO Q i + 1 - 1 = cO Q i by omega)) (ro rfl (dZ U_29 Z_51 (Ht rfl) (Ht rfl) rfl (dY (dU (d:=Qi.zero) hki))) ?_)))))))))))))))))
  refine ro rfl (dJ A_51 Z_51 (Ht rfl)) (ro rfl (b6 U_29 Z_51 (Ht rfl) (Ht rfl) rfl (i:=2) rfl (by rw [List.length_map,bg]; omega) rfl) ?_)
  refine dB Z_51 (Ht rfl) (Ht rfl) (El.ag rfl) (i:=2) rfl rfl (by rw [List.length_map,bg]; omega) rfl ?_
  refine eX (as (cY (ro rfl (dV (Ht rfl) (cJ 1) z6) (rm rfl (eX (fU (i + 1) hd zo (zS rfl) (aU (fun _ _ _ h=>h) (aU (fun _ _ _ h=>h) (aU (aa (by rw [ce,← dn (f:=(fun i=>gv z (cO Q i)))])) aY)))))))))
 ·simp only [decide_eq_false_iff_not] at hd
  obtain rfl:m = i:=Nat.le_antisymm zo hi
  rw [di]
  refine gV rfl (gJ (i:=2) (tt:=5) rfl rfl bB ?_)
  rw [show nK z Q = tab m fun i=>gv z (cO Q i) from by rw [nK,hm],show Ew s Q = tab m fun i=>tab m fun j=>gm s (cO Q i) (cO Q j) from by rw [Ew,hm]]
  refine ts (rm rfl (ro rfl (dJ A_72 Z_72 (Ht rfl)) (ro rfl (dG U_72 (Ht rfl) (by rw [List.length_map,hll])) ?_)))
  refine ro rfl (lc (γ:=Fin m × Fin m) (Ts:=fun x=>[NT .i64 x.1.1,NT .i64 x.2.1]) (U:=fun x=>ar (gm s (cO Q x.1.1) (cO Q x.2.1))) Tryz.call206 (fun x=>AI hs hQ hm hm2 hl x.1.2 x.2.2) ⟨(Ht rfl),(Ht rfl),trivial⟩) (ec Tryz.call114 (vp (n:=m) (f:=fun i j=>gm s (cO Q i) (cO Q j)) zo) ⟨(Ht rfl),(Ht rfl),trivial⟩ rfl (fun B32 _=>(ro rfl (oX (Ht rfl) (Ht rfl)) (gQ Z_32 (Ht rfl) (Ht rfl) rfl (i:=1) rfl (aK rfl) rfl rfl (eX ?_)))))
  exact dS B32 trivial [0,3] ⟨⟨_,rfl,fun _ _ _ h=>h⟩,⟨_,rfl,fun _ _ _ h=>h⟩,trivial⟩ (by decide) (kn rfl (fK A_32 Z_32 rfl (i:=1) rfl rfl))
theorem uU {n:Int} (h1:-9223372036854775808 ≤ n) (h2:n ≤ 9223372036854775807):az Tryz.prog 109 [ap .i64 n] (ar (Qi.ofInt n)):=by
 refine az.intro Tryz.func109 rfl Tryz.ntmps109 rfl (fun cx=>(ts (rn rfl (eW (Ts:=[Is (.bool false),Is (.slice none 0 0),Is (.bool false),Is (.slice none 0 0),Is (.slice none 0 0)]) O_51 rfl (fun V=>aW zd (aW zd (aW zd (aW zd (aW zd (aG))))))) fun B2=>(eX (ts (rn rfl (eW (Ts:=[Is (.bool false),Is (.slice none 0 0),Is (.bool false),Is (.slice none 0 0),Is (.slice none 0 0)]) O_51 rfl (fun V=>aW zd (aW zd (aW zd (aW zd (aW zd (aG))))))) fun B3=>?_))))))
 refine eX (cK (fZ (m:=4) (dp 3 rfl (eJ A_51 Z_51 (Ht rfl) (i:=1) rfl rfl rfl) (dq 4 0 rfl (bd bC (Ht rfl)) (dp 0 rfl (cX (Ht rfl)) (dq 6 2 rfl (cZ K_77 (jZ (n:=n) h1 h2) ⟨(Ht rfl),trivial⟩) (fV au rfl (by kernel_rfl) (zF (aV (ro rfl (b7 jH Tryz.call302 uJ (Ht rfl) ⟨(Ht rfl),trivial⟩) (gQ Z_51 (Ht rfl) (Ht rfl) rfl (i:=0) rfl (aK rfl) rfl rfl (eX ?_))))))))))))
 exact fW rfl (fK A_51 Z_51 rfl (i:=0) rfl rfl)
end
section
open Go Go.RowKit
def lm (x : Qi) (l m : List Qi) : Nat → Qi
 | 0=>x
 | k + 1=>lm x l m k + gv l k * gv m k
theorem pn {x : Qi} {l m : List Qi} {L M : Nat} (hx : ao x M) (hl : bk l L) (hm : bk m L) (hL : 1 ≤ L) : ∀ k, ao (lm x l m k) (M + k * (2 * L + 2))
 | 0=>hx.le zo
 | k + 1 => by
  haveI f1:=pn hx hl hm hL k
  haveI f2:=hl.get hL k
  haveI f3:=hm.get hL k
  have:ao (lm x l m (k + 1)) (M + k * (2 * L + 2) + (L + L + 1) + 1):=by unfold lm; infer_instance
  exact this.le (by rw [Nat.add_mul]; omega)
end
section
open Go Go.RowKit
theorem FL {x:Qi} {l m:List Qi} {L M n:Nat} (hx:ao x M) (hl:bk l L) (hm:bk m L) (hL:1 ≤ L) (hll:l.length = n) (hml:m.length = n) (hn:n ≤ 1000) (hb:M + n * (2 * L + 2) ≤ 17592186044415):az Tryz.prog 123 [ar x,aS l,aS m] (ar (lm x l m n)):=by
 refine az.intro Tryz.func123 rfl Tryz.ntmps123 rfl (fun cx=>(ts (rn rfl (fG (Ht rfl)) fun B3=>(rn rfl (eW (Ts:=[Is (.bool false),Is (.slice none 0 0),Is (.bool false),Is (.slice none 0 0),Is (.slice none 0 0)]) O_51 rfl (fun V=>aW zd (aW zd (aW zd (aW zd (aW zd (aG))))))) fun B6=>(eX (cK (ts (rm rfl (ro rfl (dG U_29 (Ht rfl) (by rw [List.length_map,hll])) ?_)))))))))
 refine ro rfl (cX (cJ 0)) (eX (eG ?_))
 refine aF (fun (k : Nat) => k ≤ n) (fun (k : Nat) => n - k) (fun (k : Nat) => [(1, aS l), (2, aS m), (3, aI B3 0), (6, aI B6 0), (9, NT .i64 n), (10, NT .i64 k)]) (fun (k : Nat) => [box B3 51 [ab (decide ((lm x l m k).a < 0)), ai (lm x l m k).a.natAbs, ab (decide ((lm x l m k).b < 0)), ai (lm x l m k).b.natAbs, ai (du (lm x l m k))], box B6 51 [Is (.bool false), Is (.slice none 0 0), Is (.bool false), Is (.slice none 0 0), Is (.slice none 0 0)]]) 0 (Nat.zero_le _)
  (zS rfl) (bh.refl _) (fun k hk=>?_)
 refine ts (ro rfl (gX (Ht rfl) (Ht rfl)) (eX (cK (dQ (Ht rfl) (fun hd=>?_) (fun hd=>?_)))))
 ·simp only [decide_eq_true_eq] at hd
  haveI f1:=pn hx hl hm hL k
  haveI f2:=hl.get hL k
  haveI f3:=hm.get hL k
  have hkn:(k + 1) * (2 * L + 2) ≤ n * (2 * L + 2):=Nat.mul_le_mul_right _ hd
  rw [Nat.add_mul] at hkn
  refine cU (cK (eG (ts (rm rfl (ra rfl (eX (fZ (m:=12) (dp 3 rfl (eJ A_51 Z_51 (Ht rfl) (i:=0) rfl rfl rfl) (dq 13 0 rfl (bd bC (Ht rfl)) (dp 1 rfl (cX (Ht rfl)) (dp 7 rfl (cX (Ht rfl)) (b8 15 2 16 3 rfl (dZ U_29 Z_51 (Ht rfl) (Ht rfl) rfl (dY (dU (d:=Qi.zero) zo))) (dq 17 4 rfl (dJ A_51 Z_51 (Ht rfl)) (dq 18 5 rfl (bd bC (Ht rfl)) (dp 2 rfl (cX (Ht rfl)) (dp 7 rfl (cX (Ht rfl)) (b8 20 7 21 8 rfl (dZ U_29 Z_51 (Ht rfl) (Ht rfl) rfl (dY (dU (d:=Qi.zero) zo))) ?_)))))))))))))))))
  refine dq 22 9 rfl (dJ A_51 Z_51 (Ht rfl)) (b8 19 6 23 10 rfl (b7 cD K_45 (jc (x:=gv l k) (y:=gv m k) (L:=L) (M:=L) zo) (Ht rfl) ⟨(Ht rfl),trivial⟩) (fV au rfl (by kernel_rfl) (zF (zF (zF (aV (ro rfl (b7 kK Tryz.call46 (vB (x:=lm x l m k) (y:=gv l k * gv m k) (L:=M + k * (2 * L + 2)) (M:=L + L + 1) zo) (Ht rfl) ⟨(Ht rfl),trivial⟩) (gQ Z_51 (Ht rfl) (Ht rfl) rfl (i:=0) rfl (aK rfl) rfl rfl ?_))))))))
  refine eX (as (cY (ro rfl (dV (Ht rfl) (cJ 1) z6) (rm rfl (eX (fU (k + 1) hd zo (zS rfl) (bh.refl _)))))))
 ·simp only [decide_eq_false_iff_not] at hd
  obtain rfl:k = n:=Nat.le_antisymm hk zo
  refine gV rfl (ts (ro rfl (eJ A_51 Z_51 (Ht rfl) (i:=0) rfl rfl rfl) (gQ Z_51 (Ht rfl) (Ht rfl) rfl (i:=1) rfl (aK rfl) rfl rfl (eX ?_))))
  exact fW rfl (fK A_51 Z_51 rfl (i:=1) rfl rfl)
end
section
open Go Go.RowKit
namespace Qi
def npow' (x : Qi) : Nat → Qi
 | 0=>Qi.ofInt 1
 | k + 1=>npow' x k * x
theorem one_mul2 (x:Qi):Qi.ofInt 1 * x = x:=ext' (by show ((1:Int):Rat) * x.re - 0 * x.im = x.re; grind) (by show ((1:Int):Rat) * x.im + 0 * x.re = x.im; grind)
theorem mul_one2 (x:Qi):x * Qi.ofInt 1 = x:=by rw [mul_comm',one_mul2]
end Qi
instance qiField:Lean.Grind.CommRing Qi where
 natCast:=⟨fun n=>Qi.ofInt n⟩
 ofNat n:=⟨Qi.ofInt n⟩
 nsmul:=⟨fun n x=>Qi.ofInt n * x⟩
 npow:=⟨Qi.npow'⟩
 add_zero:=Qi.add_zero'
 add_comm:=Qi.add_comm'
 add_assoc:=Qi.add_assoc'
 mul_assoc:=Qi.mul_assoc'
 mul_comm:=Qi.mul_comm'
 mul_one:=Qi.mul_one2
 one_mul:=Qi.one_mul2
 left_distrib:=Qi.mul_add'
 right_distrib:=Qi.add_mul'
 zero_mul:=Qi.zero_mul'
 mul_zero:=Qi.mul_zero'
 pow_zero _:=rfl
 pow_succ _ _:=rfl
 ofNat_succ n:=Qi.ext' (by show (((n + 1:Nat):Int):Rat) = ((n:Int):Rat) + ((1:Int):Rat); rw [Int.natCast_add,Rat.intCast_add]; rfl) (by show (0:Rat) = 0 + 0; grind)
 intCast:=⟨Qi.ofInt⟩
 zsmul:=⟨fun n x=>Qi.ofInt n * x⟩
 neg_add_cancel x:=Qi.ext' (by show -x.re + x.re = ((0:Int):Rat); grind) (by show -x.im + x.im = 0; grind)
 sub_eq_add_neg:=Qi.sub_def
 neg_zsmul i x:=Qi.ext' (by show ((-i:Int):Rat) * x.re - 0 * x.im = -((i:Rat) * x.re - 0 * x.im); rw [Rat.intCast_neg]; grind) (by show ((-i:Int):Rat) * x.im + 0 * x.re = -((i:Rat) * x.im + 0 * x.re); rw [Rat.intCast_neg]; grind)
 intCast_neg i:=Qi.ext' (Rat.intCast_neg i) (by show (0:Rat) = -0; grind)
theorem q0:Qi.zero = 0:=rfl
theorem q1:Qi.ofInt 1 = 1:=rfl
theorem pu {x:Qi} (h:x ≠ 0):x * Qi.inv x = 1:=by
 have hn:x.nrm ≠ 0:=fun e=>h (Qi.nrm_zero.1 e)
 have e:x.re * x.re + x.im * x.im = x.nrm:=rfl
 refine Qi.ext' ?_ ?_
 ·show x.re * (x.re / x.nrm) - x.im * (-x.im / x.nrm) = ((1 : Int) : Rat)
  grind
 ·show x.re * (-x.im / x.nrm) + x.im * (x.re / x.nrm) = 0
  grind
theorem mN {x y:Qi} (h:y ≠ 0):x / y * y = x:=by
 rw [Qi.div_def]
 have:=pu h
 grind
theorem Db {x y z:Qi} (h:y ≠ 0) (e:x = z * y):x / y = z:=by
 have h1:=mN (x:=x) h
 have h2:=pu h
 grind
theorem gY {x y:Qi} (h:x * y = 0):x = 0 ∨ y = 0:=by
 by_cases e:x = 0
 ·exact .inl e
 ·right; have:=pu e; grind
end
section
open Go Go.RowKit
theorem jw (m:Nat) (f:Qi) (a b:Nat → Qi):ah m (fun k=>a k - f * b k) = ah m a - f * ah m b:=by
 induction m with
 | zero=>simp only [ah,q0]; grind
 | succ m ih=>simp only [ah,ih]; grind
theorem cf {m i:Nat} (hi:i < m) {f:Nat → Qi} (h:∀ k,k < m → k ≠ i → f k = 0):ah m f = f i:=by
 induction m with
 | zero=>omega
 | succ m ih =>
  by_cases e:i = m
  ·subst e
   have : ah i f = 0 := by
    rw [← q0,← ng i]
    exact av fun k hk=>h k zo zo
   simp only [ah,this]; grind
  ·have h1 := ih zo (fun k hk => h k zo)
   have h2:=h m zo zo
   simp only [ah,h1,h2]; grind
theorem zt {m i c:Nat} (hi:i < m) (hc:c < m) (hic:i ≠ c) {f:Nat → Qi} (h:∀ k,k < m → k ≠ i → k ≠ c → f k = 0):ah m f = f i + f c:=by
 have e : ah m f = ah m fun k => (if k = i then f i else 0) + (if k = c then f c else 0) := av fun k hk => by
  by_cases e1:k = i
  ·subst e1; rw [if_pos rfl,if_neg hic]; grind
  ·by_cases e2 : k = c
   ·subst e2; rw [if_neg e1,if_pos rfl]; grind
   ·rw [if_neg e1,if_neg e2,h k hk e1 e2]; grind
 rw [e,pt,cf hi (fun k _ hk=>if_neg hk),cf hc (fun k _ hk=>if_neg hk),if_pos rfl,if_pos rfl]
theorem eM {m:Nat} {f:Nat → Qi} (h:∀ k,k < m → f k = 0):ah m f = 0:=by
 rw [← q0,← ng m]; exact av h
def Bs (M:List (List Qi)) (n m:Nat) (x:Nat → Qi):Prop:=∀ i,i < n → ah m (fun k=>gm M i k * x k) = 0
def dv (rr rc:List Qi) (c k:Nat):List Qi:=tab rr.length fun j=>if c ≤ j ∧ j < k then gv rr j - gv rr c / gv rc c * gv rc j else gv rr j
def g6 (M:List (List Qi)) (c r:Nat):List (List Qi):=tab M.length fun i=>if i ≠ c ∧ i < r then dv (bi M i) (bi M c) c (bi M i).length else bi M i
def iS (M : List (List Qi)) : Nat → Option (List (List Qi))
 | 0=>some M
 | c + 1=>(iS M c).bind fun A=>if pv A c M.length = M.length then none else some (g6 (swp [] A (pv A c M.length) c) c M.length)
theorem ku (M:List (List Qi)) (c r:Nat):(g6 M c r).length = M.length:=a9 _ _
theorem jx (rr rc:List Qi) (c k:Nat):(dv rr rc c k).length = rr.length:=a9 _ _
theorem tn {M:List (List Qi)} {c r i:Nat} (hi:i < M.length):bi (g6 M c r) i = if i ≠ c ∧ i < r then dv (bi M i) (bi M c) c (bi M i).length else bi M i:=by
 simp only [bi,g6,List.getD]; rw [aM hi]; rfl
theorem zM {M:List (List Qi)} {n m c r:Nat} (h:bE M n m):bE (g6 M c r) n m:=by
 refine ⟨(ku _ _ _).trans h.1,fun x hx=>?_⟩
 obtain ⟨i,hi,rfl⟩:=dz.1 hx
 have hr:=h.row (i:=i) (by rw [← h.1]; exact hi)
 show (if i ≠ c ∧ i < r then dv (bi M i) (bi M c) c (bi M i).length else bi M i).length = m
 split
 ·rw [jx]; exact hr
 ·exact hr
theorem oi {M:List (List Qi)} {n m c i j:Nat} (h:bE M n m) (hi:i < n) (hj:j < m):gm (g6 M c n) i j = if i ≠ c ∧ c ≤ j then gm M i j - gm M i c / gm M c c * gm M c j else gm M i j:=by
 have hr:(bi M i).length = m:=h.row hi
 show gv (bi (g6 M c n) i) j = _
 rw [tn (by rw [h.1]; exact hi)]
 by_cases e:i = c
 ·rw [if_neg (fun k=>k.1 e),if_neg (fun k=>k.1 e)]
 ·rw [if_pos ⟨e, hi⟩, dv, g9 zo]
  by_cases e2:c ≤ j
  ·rw [if_pos ⟨e2,by omega⟩,if_pos ⟨e,e2⟩]
  ·rw [if_neg (fun k=>e2 k.1),if_neg (fun k=>e2 k.2)]
theorem uc {M:List (List Qi)} {p c i:Nat} (hp:p < M.length) (hc:c < M.length):bi (swp [] M p c) i = bi M (if i = c then p else if i = p then c else i):=by
 simp only [bi,swp,List.getD]
 by_cases e:i = c
 ·subst e; rw [List.getElem?_set_self (by simpa using hc),if_pos rfl]; rfl
 ·rw [List.getElem?_set_ne (Ne.symm e), if_neg e]
  by_cases e2:i = p
  ·subst e2; rw [List.getElem?_set_self hp,if_pos rfl]; rfl
  ·rw [List.getElem?_set_ne (Ne.symm e2),if_neg e2]
theorem Av {M:List (List Qi)} {n m p c:Nat} {x:Nat → Qi} (hl:M.length = n) (hp:p < n) (hc:c < n):Bs (swp [] M p c) n m x ↔ Bs M n m x:=by
 have key : ∀ i, gm (swp [] M p c) i = gm M (if i = c then p else if i = p then c else i) := fun i => by
  funext j; exact congrArg (fun r=>gv r j) (uc zo zo)
 constructor
 ·intro h i hi
  have h1:=h (if i = c then p else if i = p then c else i) (by split <;> (try split) <;> omega)
  rw [key] at h1
  have e : (if (if i = c then p else if i = p then c else i) = c then p else if (if i = c then p else if i = p then c else i) = p then c else (if i = c then p else if i = p then c else i)) = i := by
   by_cases e1:i = c
   ·subst e1; rw [if_pos rfl]
    by_cases e2:p = i
    ·rw [if_pos e2]; exact e2
    ·rw [if_neg e2,if_pos rfl]
   ·rw [if_neg e1]
    by_cases e2:i = p
    ·subst e2; rw [if_pos rfl,if_pos rfl]
    ·rw [if_neg e2,if_neg e1,if_neg e2]
  rw [e] at h1; exact h1
 ·intro h i hi
  rw [key]; exact h _ (by split <;> (try split) <;> omega)
theorem AK {M:List (List Qi)} {n m c:Nat} {x:Nat → Qi} (hs:bE M n m) (hc:c < n) (hz:∀ j,j < c → gm M c j = 0):Bs (g6 M c n) n m x ↔ Bs M n m x:=by
 have key : ∀ i, i < n → i ≠ c → ah m (fun k => gm (g6 M c n) i k * x k) = ah m (fun k => gm M i k * x k) - gm M i c / gm M c c * ah m (fun k => gm M c k * x k) := fun i hi e => by
  rw [← jw]
  refine av fun k hk=>?_
  rw [oi hs hi hk]
  by_cases e2:c ≤ k
  ·rw [if_pos ⟨e,e2⟩]; grind
  ·rw [if_neg (fun h=>e2 h.2),hz k zo]; grind
 have keyc:ah m (fun k=>gm (g6 M c n) c k * x k) = ah m (fun k=>gm M c k * x k):=av fun k hk=>by rw [oi hs hc hk,if_neg (fun h=>h.1 rfl)]
 constructor
 ·intro h i hi
  have h0:=h c hc
  rw [keyc] at h0
  by_cases e:i = c
  ·rw [e]; exact h0
  ·have h1 := h i hi
   rw [key i hi e,h0] at h1
   grind
 ·intro h i hi
  have h0:=h c hc
  by_cases e:i = c
  ·rw [e,keyc]; exact h0
  ·rw [key i hi e,h0,h i hi]; grind
structure GJ (M A:List (List Qi)) (n m c:Nat):Prop where
 sh:bE A n m
 ker:∀ x,Bs A n m x ↔ Bs M n m x
 off:∀ j,j < c → ∀ i,i < n → i ≠ j → gm A i j = 0
 dg:∀ j,j < c → gm A j j ≠ 0
theorem GJ.next {M A:List (List Qi)} {n m c p:Nat} (h:GJ M A n m c) (hc:c < n) (hnm:n ≤ m) (hcp:c ≤ p) (hp:p < n) (hz:gm A p c ≠ 0):GJ M (g6 (swp [] A p c) c n) n m (c + 1):=by
 have hs:bE (swp [] A p c) n m:=lW h.sh hp hc
 have hl:=h.sh.1
 have key : ∀ i, gm (swp [] A p c) i = gm A (if i = c then p else if i = p then c else i) := fun i => by
  funext j; exact congrArg (fun r=>gv r j) (uc zo zo)
 have hcc:gm (swp [] A p c) c c ≠ 0:=by rw [key,if_pos rfl]; exact hz
 have hoff : ∀ j, j < c → ∀ i, i < n → i ≠ j → gm (swp [] A p c) i j = 0 := fun j hj i hi hij => by
  rw [key]
  by_cases e1:i = c
  ·rw [if_pos e1]; exact h.off j hj p hp zo
  ·rw [if_neg e1]
   by_cases e2:i = p
   ·rw [if_pos e2]; exact h.off j hj c hc zo
   ·rw [if_neg e2]; exact h.off j hj i hi hij
 refine ⟨zM hs,fun x=>(AK hs hc (fun j hj=>hoff j hj c hc zo)).trans ((Av hl hp hc).trans (h.ker x)),fun j hj i hi hij=>?_,fun j hj=>?_⟩
 ·rw [oi hs hi zo]
  by_cases e:j = c
  ·subst e
   rw [if_pos ⟨hij,Nat.le_refl _⟩]
   have:=mN (x:=gm (swp [] A p j) i j) hcc
   grind
  ·rw [if_neg (fun k=>by omega)]; exact hoff j zo i hi hij
 ·rw [oi hs zo zo]
  by_cases e:j = c
  ·subst e; rw [if_neg (fun k=>k.1 rfl)]; exact hcc
  ·rw [if_neg (fun k=>by omega),key,if_neg zo,if_neg zo]; exact h.dg j zo
theorem nn {M : List (List Qi)} {n m : Nat} (hs : bE M n m) (hnm : n ≤ m) : ∀ {c : Nat} {A : List (List Qi)}, c ≤ n → iS M c = some A → GJ M A n m c
 | 0, A, _, h => by
  obtain rfl:=Option.some.inj h
  exact ⟨hs,fun _=>Iff.rfl,fun j hj=>by omega,fun j hj=>by omega⟩
 | c + 1, A, hc, h => by
  simp only [iS] at h
  obtain ⟨B,h1,h2⟩:=Option.bind_eq_some_iff.1 h
  split at h2
  ·cases h2
  ·rename_i e
   obtain rfl:=Option.some.inj h2
   have ih:=nn hs hnm (c:=c) zo h1
   rw [hs.1] at e ⊢
   obtain ⟨_,i2,i3,i4⟩:=gl (M:=B) (c:=c) (n:=n) zo
   exact ih.next zo hnm i2 zo (i4 zo)
theorem vY {M : List (List Qi)} : ∀ {n : Nat}, iS M n = none → ∃ c A, c < n ∧ iS M c = some A ∧ pv A c M.length = M.length
 | 0,h=>by cases h
 | c + 1, h => by
  cases e:iS M c with
  | none =>
   obtain ⟨d,A,h1,h2,h3⟩:=vY e
   exact ⟨d,A,by omega,h2,h3⟩
  | some A =>
   refine ⟨c,A,by omega,e,?_⟩
   simp only [iS,e,Option.bind_some] at h
   by_cases e2:pv A c M.length = M.length
   ·exact e2
   ·rw [if_neg e2] at h; cases h
theorem EM {M A : List (List Qi)} {n : Nat} (h : GJ M A n (n + 1) n) : Bs M n (n + 1) fun k => if k < n then gm A k n / gm A k k else -1 := (h.ker _).1 fun i hi => by
 have hd:=h.dg i hi
 have e : ah n (fun k => gm A i k * if k < n then gm A k n / gm A k k else -1) = gm A i n := by
  rw [cf hi (fun k hk hki=>by rw [h.off k hk i hi (Ne.symm hki)]; grind),if_pos hi]
  have:=mN (x:=gm A i n) hd
  grind
 simp only [ah,e]
 rw [if_neg zo]; grind
theorem Cq {M A : List (List Qi)} {n : Nat} (h : GJ M A n (n + 1) n) {x : Nat → Qi} (hx : Bs M n (n + 1) x) (h0 : x n = 0) : ∀ k, k < n → x k = 0 := fun k hk => by
 have h1:=(h.ker x).2 hx k hk
 have e:ah n (fun j=>gm A k j * x j) = gm A k k * x k:=cf hk (fun j hj hjk=>by rw [h.off j hj k hk (Ne.symm hjk)]; grind)
 simp only [ah,e,h0] at h1
 rcases gY (x:=gm A k k) (y:=x k) (by grind) with h2 | h2
 ·exact absurd h2 (h.dg k hk)
 ·exact h2
theorem Bx {M A : List (List Qi)} {n m c : Nat} (h : GJ M A n m c) (hc : c < n) (hnm : n ≤ m) (hz : ∀ r, c ≤ r → r < n → gm A r c = 0) : Bs M n m fun k => if k < c then -(gm A k c / gm A k k) else if k = c then 1 else 0 := (h.ker _).1 fun i hi => by
 by_cases e:i < c
 ·rw [zt (i := i) (c := c) zo zo zo (fun k hk h1 h2 => ?_)]
  ·rw [if_pos e, if_neg zo, if_pos rfl]
   have:=mN (x:=gm A i c) (h.dg i e)
   grind
  ·by_cases e2 : k < c
   ·rw [h.off k e2 i hi (Ne.symm h1)]; grind
   ·rw [if_neg e2,if_neg h2]; grind
 ·refine eM fun k hk => ?_
  by_cases e2:k < c
  ·rw [h.off k e2 i hi zo]; grind
  ·rw [if_neg e2]
   by_cases e3:k = c
   ·rw [e3,hz i zo hi]; grind
   ·rw [if_neg e3]; grind
def ws (M:List (List Qi)) (b:List Qi) (n:Nat):Option (List Qi):=(iS (eu M [b] n) n).map fun A=>tab n fun i=>gm A i n / gm A i i
theorem Dc {l:List Qi} {z:Qi} {k:Nat} (h:k < l.length):gv (l ++ [z]) k = gv l k:=by
 simp only [gv,List.getD]; rw [List.getElem?_append_left h]
theorem De {l:List Qi} {z:Qi}:gv (l ++ [z]) l.length = z:=by
 simp [gv,List.getD]
theorem EX {M:List (List Qi)} {b:List Qi} {n i:Nat} (h:bE M n n) (hi:i < n):(∀ k,k < n → gm (eu M [b] n) i k = gm M i k) ∧ gm (eu M [b] n) i n = gv b i:=by
 obtain ⟨r,hr⟩:∃ r,r = bi M i:=⟨_,rfl⟩
 have hl:r.length = n:=by rw [hr]; exact h.row hi
 have e : bi (eu M [b] n) i = r ++ [gv b i] := by
  rw [hr]; simp only [bi,eu,List.getD]; rw [aM hi]; rfl
 refine ⟨fun k hk=>?_,?_⟩
 ·show gv (bi (eu M [b] n) i) k = gv (bi M i) k
  rw [e,← hr,Dc zo]
 ·show gv (bi (eu M [b] n) i) n = gv b i
  rw [e,← hl,De]
theorem nm {M:List (List Qi)} {b:List Qi} {n i:Nat} (h:bE M n n) (hi:i < n) (x:Nat → Qi):ah (n + 1) (fun k=>gm (eu M [b] n) i k * x k) = ah n (fun k=>gm M i k * x k) + gv b i * x n:=by
 obtain ⟨h1,h2⟩:=EX (b:=b) h hi
 simp only [ah,h2]
 rw [av (fun k hk=>by rw [h1 k hk])]
theorem kr {M:List (List Qi)} {b X:List Qi} {n:Nat} (h:bE M n n) (hX:ws M b n = some X):X.length = n ∧ (∀ i,i < n → ah n (fun k=>gm M i k * gv X k) = gv b i) ∧ ∀ y:Nat → Qi,(∀ i,i < n → ah n (fun k=>gm M i k * y k) = 0) → ∀ k,k < n → y k = 0:=by
 obtain ⟨A,hA,rfl⟩:=Option.map_eq_some_iff.1 hX
 have hg:=nn (fx (bs:=[b]) h) (Nat.le_succ n) (Nat.le_refl n) hA
 refine ⟨a9 _ _,fun i hi=>?_,fun y hy k hk=>?_⟩
 ·have h1 := EM hg i hi
  rw [nm h hi] at h1
  have e:ah n (fun k=>gm M i k * if k < n then gm A k n / gm A k k else -1) = ah n (fun k=>gm M i k * gv (tab n fun i=>gm A i n / gm A i i) k):=av fun k hk=>by rw [if_pos hk,g9 hk]
  rw [e,if_neg zo] at h1
  grind
 ·have h1 := Cq hg (x := fun k => if k < n then y k else 0) (fun i hi => ?_) (if_neg zo) k hk
  ·simpa [hk] using h1
  ·rw [nm h hi,if_neg zo,av (fun k hk=>by rw [if_pos hk]),hy i hi]; grind
theorem sX {M:List (List Qi)} {b:List Qi} {n:Nat} (h:bE M n n) (hX:ws M b n = none):∃ y:Nat → Qi,(∀ i,i < n → ah n (fun k=>gm M i k * y k) = 0) ∧ ∃ k,k < n ∧ y k ≠ 0:=by
 have hcs:bE (eu M [b] n) n (n + 1):=fx h
 obtain ⟨c,A,hc,hA,hp⟩:=vY (Option.map_eq_none_iff.1 hX)
 have hg:=nn hcs (Nat.le_succ n) zo hA
 rw [hcs.1] at hp
 have hz:=(gl (M:=A) (c:=c) (n:=n) zo).1
 rw [hp] at hz
 have hk:=Bx hg hc (Nat.le_succ n) hz
 refine ⟨fun k=>if k < c then -(gm A k c / gm A k k) else if k = c then 1 else 0,fun i hi=>?_,c,hc,?_⟩
 ·have h1 := hk i hi
  rw [nm h hi,if_neg zo,if_neg zo] at h1
  grind
 ·show (if c < c then -(gm A c c / gm A c c) else if c = c then (1 : Qi) else 0) ≠ 0
  rw [if_neg zo,if_pos rfl]
  intro e
  have:=congrArg Qi.re e
  exact absurd this (by decide)
theorem xf {rr rc : List Qi} {L c k : Nat} (h1 : bk rr L) (h2 : bk rc L) (hL : 1 ≤ L) (hp : gv rc c ≠ Qi.zero) : bk (dv rr rc c k) (6 * L + 4) := bk.tab fun j _ => by
 split
 ·exact vT h1 h2 hL hp
 ·exact (h1.get hL j).le zo
theorem Aj {M : List (List Qi)} {L c r : Nat} (h : aL M L) (hL : 1 ≤ L) (hp : gm M c c ≠ Qi.zero) : aL (g6 M c r) (6 * L + 4) := fun x hx => by
 obtain ⟨i,hi,rfl⟩:=dz.1 hx
 show bk (if i ≠ c ∧ i < r then dv (bi M i) (bi M c) c (bi M i).length else bi M i) _
 split
 ·exact xf (h.row i) (h.row c) hL hp
 ·exact (h.row i).le zo
theorem tJ {M : List (List Qi)} {n m L : Nat} (hs : bE M n m) (hnm : n ≤ m) (h : aL M L) (hL : 1 ≤ L) : ∀ {c : Nat} {A : List (List Qi)}, c ≤ n → iS M c = some A → aL A (b5 L c)
 | 0,A,_,e=>by obtain rfl:=Option.some.inj e; exact h
 | c + 1, A, hc, e => by
  simp only [iS] at e
  obtain ⟨B,h1,h2⟩:=Option.bind_eq_some_iff.1 e
  split at h2
  ·cases h2
  ·rename_i e3
   obtain rfl:=Option.some.inj h2
   have ih:=tJ hs hnm h hL (c:=c) zo h1
   have hsB:=(nn hs hnm (c:=c) zo h1).sh
   rw [hs.1] at e3 ⊢
   obtain ⟨_,i2,i3,i4⟩:=gl (M:=B) (c:=c) (n:=n) zo
   refine Aj (nV ih) (Nat.le_trans hL (it L c)) ?_
   show gv (bi (swp [] _ _ c) c) c ≠ _
   rw [mR (by rw [hsB.1]; omega)]
   exact i4 zo
theorem s7 {rr rc:List Qi} {c:Nat}:rr = dv rr rc c c:=by
 unfold dv
 have:(tab rr.length fun j=>if c ≤ j ∧ j < c then gv rr j - gv rr c / gv rc c * gv rc j else gv rr j) = tab rr.length (gv rr):=bf fun j _=>by rw [if_neg zo]
 rw [this]; exact lY rfl
theorem qJ {rr rc:List Qi} {c k:Nat} (hk:k < rr.length):gv (dv rr rc c k) k = gv rr k:=by
 rw [dv,g9 hk,if_neg zo]
theorem uC {rr rc:List Qi} {c k:Nat} (hk:k < rr.length) (h:c ≤ k):(dv rr rc c k).set k (gv (dv rr rc c k) k - gv rr c / gv rc c * gv rc k) = dv rr rc c (k + 1):=by
 rw [qJ hk]
 apply List.ext_getElem?
 intro j
 by_cases hj:j < rr.length
 ·by_cases e : j = k
  ·subst e
   rw [List.getElem?_set_self (by rw [jx]; exact hj),dv,aM hj,if_pos zo]
  ·rw [List.getElem?_set_ne (Ne.symm e), dv, dv, aM hj, aM hj]
   by_cases e2:c ≤ j ∧ j < k
   ·rw [if_pos e2,if_pos zo]
   ·rw [if_neg e2,if_neg zo]
 ·rw [List.getElem?_eq_none (by rw [List.length_set,jx]; omega),List.getElem?_eq_none (by rw [jx]; omega)]
theorem un {M:List (List Qi)} {c:Nat}:M = g6 M c 0:=by
 unfold g6
 have:(tab M.length fun i=>if i ≠ c ∧ i < 0 then dv (bi M i) (bi M c) c (bi M i).length else bi M i) = tab M.length (bi M):=bf fun i _=>by rw [if_neg zo]
 rw [this]; exact mT (h:=rfl)
theorem o4 {M:List (List Qi)} {c r i:Nat} (hi:i < M.length) (h:¬ (i ≠ c ∧ i < r)):bi (g6 M c r) i = bi M i:=by rw [tn hi,if_neg h]
theorem x5 {M : List (List Qi)} {c : Nat} : g6 M c c = g6 M c (c + 1) := bf fun i _ => by
 by_cases e:i ≠ c ∧ i < c
 ·rw [if_pos e,if_pos zo]
 ·rw [if_neg e,if_neg zo]
theorem x4 {M:List (List Qi)} {c r:Nat} (hr:r < M.length) (h:r ≠ c):(g6 M c r).set r (dv (bi M r) (bi M c) c (bi M r).length) = g6 M c (r + 1):=by
 apply List.ext_getElem?
 intro j
 by_cases hj:j < M.length
 ·by_cases e : j = r
  ·subst e
   rw [List.getElem?_set_self (by rw [ku]; exact hj),g6,aM hj,if_pos ⟨h,by omega⟩]
  ·rw [List.getElem?_set_ne (Ne.symm e), g6, g6, aM hj, aM hj]
   by_cases e2:j ≠ c ∧ j < r
   ·rw [if_pos e2,if_pos ⟨e2.1,by omega⟩]
   ·rw [if_neg e2,if_neg (fun k=>e2 ⟨k.1,by omega⟩)]
 ·rw [List.getElem?_eq_none (by rw [List.length_set,ku]; omega),List.getElem?_eq_none (by rw [ku]; omega)]
theorem xA {D : List (List Qi)} {r c : Nat} (hr : r < D.length) (h : r ≠ c) (hc : c < D.length) :
  (g6 D c r).set r (dv (bi (g6 D c r) r) (bi (g6 D c r) c) c (bi (g6 D c r) r).length) = g6 D c (r + 1):=by
 rw [o4 hr zo,o4 hc zo]; exact x4 hr h
theorem xB {X : List (List Qi)} {r c k : Nat} (hr : r < X.length) (hne : r ≠ c) (hk : k < (bi X r).length) (hck : c ≤ k) :
  (X.set r (dv (bi X r) (bi X c) c k)).set r ((bi (X.set r (dv (bi X r) (bi X c) c k)) r).set k (gm (X.set r (dv (bi X r) (bi X c) c k)) r k - gm X r c / gm X c c * gm (X.set r (dv (bi X r) (bi X c) c k)) c k)) = X.set r (dv (bi X r) (bi X c) c (k + 1)):=by
 rw [tB,kB hr]
 have e1:gm (X.set r (dv (bi X r) (bi X c) c k)) r k = gv (dv (bi X r) (bi X c) c k) k:=by show gv (bi (X.set r _) r) k = _; rw [kB hr]
 have e2:gm (X.set r (dv (bi X r) (bi X c) c k)) c k = gv (bi X c) k:=by show gv (bi (X.set r _) c) k = _; rw [iB hne]
 rw [e1,e2]
 exact congrArg _ (uC hk hck)
theorem DN {X:List (List Qi)} {r c k:Nat} (hr:r < X.length) (hk:k < (bi X r).length):gm (X.set r (dv (bi X r) (bi X c) c k)) r k = gv (bi X r) k:=by
 show gv (bi (X.set r _) r) k = _
 rw [kB hr,qJ hk]
theorem DM {X:List (List Qi)} {r c k j:Nat} (h:r ≠ c):gm (X.set r (dv (bi X r) (bi X c) c k)) c j = gv (bi X c) j:=by
 show gv (bi (X.set r _) c) j = _
 rw [iB h]
theorem Bw {M A:List (List Qi)} {n c p:Nat} (hl:M.length = n) (hA:iS M c = some A) (hp:pv A c n = p) (hpn:p < n):iS M (c + 1) = some (g6 (swp [] A p c) c n):=by
 simp only [iS,hA,Option.bind_some,hl,hp]
 rw [if_neg zo]
theorem xS {M A : List (List Qi)} {n c : Nat} (hl : M.length = n) (hA : iS M c = some A) (hp : pv A c n = n) : ∀ {d : Nat}, c < d → iS M d = none
 | 0,h=>by omega
 | d + 1, h => by
  simp only [iS]
  by_cases e:c = d
  ·rw [← e,hA,Option.bind_some,hl,if_pos hp]
  ·rw [xS hl hA hp (d:=d) zo]; rfl
def wJ (M:List (List Qi)) (b:List Qi) (n:Nat):List Qi:=(ws M b n).getD []
def qq (M:List (List Qi)) (b:List Qi) (n:Nat):Int:=if (ws M b n).isSome then 0 else 6
end
section
open Go Go.RowKit
theorem zw {M:List (List Qi)} {n m:Nat} (h:bE M n m) (hn:n ≤ 32) (hm:m ≤ 32):az Tryz.prog 271 [QM M] (ab true):=by
 have hl:=h.1
 refine az.intro Tryz.func271 rfl Tryz.ntmps271 rfl (fun cx=>(ts (ro rfl (cQ cV) (eX (cK (ts (rm rfl (ro rfl (dG U_36 (Ht rfl) a7) (ro rfl (bD (Ht rfl) (cJ 32)) (eX (dP (Ht rfl) (by simp [hl]; omega) ?_)))))))))))
 refine cU (cK (ts (ro rfl (cQ (cJ 0)) (eX (eG ?_)))))
 refine aF (fun (i : Nat) => i ≤ n) (fun (i : Nat) => n - i) (fun (i : Nat) => [(0, QM M), (3, NT .i64 i)]) (fun (i : Nat) => []) 0 (Nat.zero_le _)
  (zS rfl) aY (fun i hi=>?_)
 refine cK (ts (rm rfl (rm rfl (ro rfl (dG U_36 (Ht rfl) a7) (ro rfl (gX (Ht rfl) (Ht rfl)) (eX (dQ (Ht rfl) (fun hd=>?_) (fun hd=>?_))))))))
 ·have hdn : i < n := by simp only [decide_eq_true_eq] at hd; omega
  have hr:=h.row hdn
  have hr0:=h.row (i:=0) zo
  simp at hr hr0
  refine cU (cK (eG (cK (fZ (m:=13) (dp 0 rfl (cX (Ht rfl)) (dp 3 rfl (cX (Ht rfl)) (b8 13 0 14 1 rfl (dZ U_36 Z_35 (Ht rfl) (Ht rfl) rfl (dY (dU (d:=[]) zo))) (dq 15 2 rfl (dJ A_35 Z_35 (Ht rfl)) (dq 16 3 rfl (dG U_35 (Ht rfl) a7) (dp 0 rfl (cX (Ht rfl)) (dq 18 5 rfl (dZ U_36 Z_35 (Ht rfl) (cJ 0) rfl (dY (dU (d:=[]) zo))) (dq 19 6 rfl (dJ A_35 Z_35 (Ht rfl)) (dq 20 7 rfl (dG U_35 (Ht rfl) a7) ?_)))))))))))))
  refine b8 17 4 21 8 rfl (cu (Ht rfl) (Ht rfl)) (dq 22 9 rfl (cX (Ht rfl)) (C.D_step (Ei:=[(0,_),(23,_)]) rfl rfl (bV (bK rfl rfl) (bV (bG 10 rfl rfl) bW)) (eK rfl rfl (Ht rfl) (fun h=>cX (Ht rfl))) (C.D_step (Ei:=[(3,_),(23,_)]) rfl rfl (bV (bK rfl rfl) (bV (bG 10 rfl rfl) bW)) (eK rfl rfl (Ht rfl) (fun h=>cX (Ht rfl))) (fV au rfl (by kernel_rfl) (zF (zF (zF (aJ (aV ?_)))))))))
  refine fQ rfl rfl (eK rfl rfl (Ht rfl) (fun h=>dZ U_36 Z_35 (fJ rfl h) (fJ rfl h) rfl (dY (dU (d:=[]) zo)))) (fQ rfl rfl (eK rfl rfl (Ht rfl) (fun h=>dJ A_35 Z_35 (fJ rfl h))) (fQ rfl rfl (eK rfl rfl (Ht rfl) (fun h=>dG U_35 (fJ rfl h) a7)) (fQ rfl rfl (eK rfl rfl (Ht rfl) (fun h=>bD (fJ rfl h) (cJ 32))) (ro rfl (dr (Ht rfl) (fun h=>(fJ rfl h))) (eX (dP (Ht rfl) (by simp [hr,hr0]; omega) ?_))))))
  refine cU (as (cY (rm rfl (ro rfl (dV (Ht rfl) (cJ 1) z6) (ra rfl (eX (fU (i + 1) hdn zo (zS rfl) aY)))))))
 ·refine gV rfl (ts (ro rfl (cQ cV) (eX ?_)))
  exact fW rfl (eU rfl)
theorem um {M:List (List Qi)} {n m:Nat} (h:bE M n m) (h1:1 ≤ n):az Tryz.prog 272 [QM M] (NT .i64 m):=by
 have hl:=h.1
 have hr0:=h.row (i:=0) zo
 refine az.intro Tryz.func272 rfl Tryz.ntmps272 rfl (fun cx=>(ts (ro rfl (cQ (cJ 0)) (eX (cK (ts (rm rfl (ro rfl (dG U_36 (Ht rfl) a7) (ro rfl (bc (Ht rfl) (cJ 0)) (eX (dP (Ht rfl) (by simp [hl]; omega) ?_)))))))))))
 refine cU (ts (rm rfl (ro rfl (dZ U_36 Z_35 (Ht rfl) (cJ 0) rfl (dY (dU (d:=[]) zo))) (ro rfl (dJ A_35 Z_35 (Ht rfl)) (ro rfl (dG U_35 (Ht rfl) a7) (ra rfl (eX (fW rfl (fX (eU rfl) ?_)))))))))
 exact (fC hr0)
theorem xj {M:List (List Qi)} {n:Nat} (hM:bE M n n) (h1:1 ≤ n) (hn:n ≤ 32):az Tryz.prog 238 [QM M] (ab true):=by
 have hl:=hM.1
 refine az.intro Tryz.func238 rfl Tryz.ntmps238 rfl (fun cx=>(ts (ro rfl (cQ cV) (eX (ts (rm rfl (ro rfl (cZ Tryz.call271 (zw hM hn hn) ⟨(Ht rfl),trivial⟩) (rm rfl (fQ rfl rfl (eK rfl rfl (Ht rfl) (fun h=>cX (Ht rfl))) (fQ rfl rfl (eK rfl rfl (Ht rfl) (fun h=>dG U_36 (fJ rfl h) a7)) (fQ rfl rfl (eK rfl rfl (Ht rfl) (fun h=>cX (Ht rfl))) (fQ rfl rfl (eK rfl rfl (Ht rfl) (fun h=>cZ Tryz.call272 (um hM h1) ⟨(fJ rfl h),trivial⟩)) (fQ rfl rfl (eK rfl rfl (Ht rfl) (fun h=>bc (fJ rfl h) (fJ rfl h))) ?_)))))))))))))
 refine ro rfl (c7 (Ht rfl) (fun h=>(fJ rfl h))) (ra rfl (eX (fW rfl (fX (eU rfl) ?_))))
 exact (bF (by simp [hl]))
theorem yt {M:List (List Qi)} {n m:Nat} (hM:bE M n m) (hn:n ≤ 1000) (h1:1 ≤ m) (hm:m ≤ 1000):cR Tryz.prog 172 [QM M] [] (Nat) (fun B=>Is (.slice (some ⟨B,0,none⟩) n n)) (fun B=>[iK B 35 131 5 (aH QT M)]) (fun _=>True):=by
 have hMl:=hM.1
 refine cR.intro Tryz.func172 rfl Tryz.ntmps172 rfl (fun cx Z=>(ts (ro rfl (cQ cV) (eX (ts (rm rfl (ro rfl (dG U_36 (Ht rfl) (by rw [List.length_map,hMl])) ?_)))))))
 refine rn rfl (bM (T:=Is (.slice none 0 0)) (i:=Tryz.t35) Tryz.underlying36 nR rfl rfl (Ht rfl) rfl (fun _=>rfl) trivial (by show 24 * _ ≤ _; omega) zo) fun B7=>ra rfl (eX (cK (ts (ro rfl (cQ (cJ 0)) (eX (eG (fk 1 rfl (kV (e:=131) (s:=5)) ?_)))))))
 refine aF (fun (i : Nat) => i ≤ n) (fun (i : Nat) => n - i) (fun (i : Nat) => [(0, QM M), (3, Is (.slice (some ⟨B7, 0, none⟩) n n)), (4, NT .i64 i)]) (fun (i : Nat) => [Z, iK B7 35 131 5 (aH QT (dA (bi M) [] n i))]) 0 (Nat.zero_le _)
  (zS rfl) (aU (fun _ _ _ h=>h) (aU (aC (by rw [← cz,fA]; exact fN QT n)) aY)) (fun i hi=>?_)
 refine cK (ts (rm rfl (rm rfl (ro rfl (dG U_36 (Ht rfl) a7) (ro rfl (gX (Ht rfl) (Ht rfl)) (eX (dQ (Ht rfl) (fun hd0=>?_) (fun hd0=>?_))))))))
 ·have hdn : i < n := by simp only [decide_eq_true_eq] at hd0; omega
  have hrl:(bi M i).length = m:=hM.row hdn
  have hrl2:(M.getD i []).length = m:=hrl
  refine j2 1 (i) rfl (ft hdn) (fun v0=>(cU (cK (eG (cY (rm rfl (rm rfl (rn rfl (gc U_35 Z_131 O_131) fun B16=>(rm rfl (rm rfl (ro rfl (dZ U_36 Z_35 (Ht rfl) (Ht rfl) rfl (dY (dU (d:=[]) zo))) (ro rfl (dJ A_35 Z_35 (Ht rfl)) (qm (inf:=Tryz.t131) jF go rfl rfl rfl (Ht rfl) (Ht rfl) (i:=3) rfl (fun T hT=>by obtain ⟨x,_,rfl⟩:=List.mem_map.1 hT; exact El.ag rfl) (by show _ * 88 ≤ _; simp only [List.length_map,List.length_append,List.length_take,List.length_cons,List.length_nil]; omega) (by simp only [List.length_map,List.length_append,List.length_take,List.length_cons,List.length_nil]; omega) rfl (fun v1=>?_))))))))))))))
  refine ro rfl (fY U_36 Z_35 (Ht rfl) (Ht rfl) rfl zo (by rw [Nat.mul_one,Nat.zero_add])) ?_
  refine jX Z_35 (Ht rfl) (Ht rfl) (by simp only [aH,List.length_map,bg]; omega) (j:=1) (l:=3) rfl rfl rfl ?_
  refine eX (as (aO [0,1,3] rfl (by decide) (bR 1 2 rfl rfl (by decide) (by simp only [aH,List.length_map,bg]; omega) ?_)))
  refine cY (rm rfl (ro rfl (dV (Ht rfl) (cJ 1) z6) (ra rfl (eX (aO [0,1] rfl (by decide) (fU (i + 1) hdn zo (zS rfl) (aU (fun _ _ _ h=>h) (aU (aC (by rw [List.nil_append,c9,← dn (f:=bi M)])) aY))))))))
 ·have hin : i = n := by simp only [decide_eq_false_iff_not] at hd0; omega
  subst hin
  refine gV rfl (ts (rm rfl (ra rfl (eX ?_))))
  exact dS B7 trivial [0,1] ⟨⟨_,rfl,fun _ _ _ h=>h⟩,⟨_,rfl,(aC (by rw [di]; exact congrArg _ (mT (h:=hMl)).symm))⟩,trivial⟩ (by decide) (kn rfl (eU rfl))
theorem za {n:Nat} (hn:n ≤ 32):cR Tryz.prog 199 [NT .i64 n] [] (Nat) (fun B=>Is (.slice (some ⟨B,0,none⟩) n n)) (fun B=>[eC bL B 35 131 5 (aH QT (mL n))]) (fun _=>True):=by
 refine cR.intro Tryz.func199 rfl Tryz.ntmps199 rfl (fun cx Z=>(ts (ro rfl (cQ cV) (eX (cK (ts (rm rfl (ro rfl (gX (Ht rfl) (cJ 0)) (eX (dP (Ht rfl) (by simp) ?_))))))))))
 refine cU (cK (ts (rm rfl (ro rfl (bD (Ht rfl) (cJ 32)) (eX (dP (Ht rfl) (by simp; omega) ?_))))))
 refine cU (ts (rm rfl (rm rfl (ec Tryz.call129 (oM (n:=n) (m:=n) zo zo) ⟨(Ht rfl),(Ht rfl),trivial⟩ rfl (fun B11 _=>(ra rfl (eX (cK (ts (ro rfl (cQ (cJ 0)) (eX (eG ?_))))))))))))
 refine aF (fun (i : Nat) => i ≤ n) (fun (i : Nat) => n - i) (fun (i : Nat) => [(0, NT .i64 n), (3, Is (.slice (some ⟨B11, 0, none⟩) n n)), (4, NT .i64 i)]) (fun (i : Nat) => [Z, eC bL B11 35 131 5 (aH QT (dA (ga n) (tab n fun _ => Qi.zero) n i))]) 0 (Nat.zero_le _)
  (zS rfl) (aU (fun _ _ _ h=>h) (aU (aC (by rw [nF,cz])) aY)) (fun i hi=>?_)
 refine cK (ts (rm rfl (rm rfl (ro rfl (gX (Ht rfl) (Ht rfl)) (eX (dQ (Ht rfl) (fun hd0=>?_) (fun hd0=>?_)))))))
 ·have hdn : i < n := by simp only [decide_eq_true_eq] at hd0; omega
  refine eg 1 (i) rfl (ft hdn) (fun v0 hv0=>(cU (cK (eG (fZ (m:=6) (dp 3 rfl (cX (Ht rfl)) (dp 4 rfl (cX (Ht rfl)) (b8 17 0 18 1 rfl (fY U_36 Z_35 (Ht rfl) (Ht rfl) rfl zo (by rw [Nat.mul_one,Nat.zero_add])) ?_))))))))
  refine dq 19 2 rfl (d4 A_35 Z_35 (Ht rfl) (j:=1) rfl) (dp 4 rfl (cX (Ht rfl)) (d0 rfl (cZ K_148 (iJ (n:=1) (by decide) (by decide)) ⟨(cJ 1),trivial⟩) (fV au rfl (by kernel_rfl) (zF (aJ (aJ (aV (ro rfl (b6 U_35 Z_131 (Ht rfl) (Ht rfl) rfl (i:=2) rfl (by simp only [List.length_map,a9]; omega) rfl) ?_))))))))
  refine dB Z_131 (Ht rfl) (Ht rfl) (El.ag rfl) (i:=2) rfl rfl (by simp only [List.length_map,a9]; omega) rfl ?_
  refine eX (as (bR 1 2 rfl rfl (by decide) (by simp only [aH,List.length_map,bg]; omega) ?_))
  refine cY (rm rfl (ro rfl (dV (Ht rfl) (cJ 1) z6) (ra rfl (eX (aO [0,1] rfl (by decide) (fU (i + 1) hdn zo (zS rfl) (aU (fun _ _ _ h=>h) (aU (aC (by rw [ce,c9,← dn (f:=ga n),ga])) aY))))))))
 ·have hin : i = n := by simp only [decide_eq_false_iff_not] at hd0; omega
  subst hin
  refine gV rfl (ts (rm rfl (ra rfl (eX ?_))))
  exact dS B11 trivial [0,1] ⟨⟨_,rfl,fun _ _ _ h=>h⟩,⟨_,rfl,(aC (by rw [di]; rfl))⟩,trivial⟩ (by decide) (kn rfl (eU rfl))
end
section
open Go Go.RowKit
def xD (M:List (List Qi)) (b:List Qi) (n i:Nat):List (List Qi):=tab n fun j=>if j < i then ql M [b] j else bi M j
theorem zr {M:List (List Qi)} {b:List Qi} {n:Nat} (h:M.length = n):M = xD M b n 0:=by
 have:xD M b n 0 = tab n (bi M):=bf fun j _=>by rw [if_neg zo]
 rw [this]; exact mT (h:=h)
theorem Ex {M:List (List Qi)} {b:List Qi} {n:Nat}:xD M b n n = eu M [b] n:=bf fun j hj=>by rw [if_pos hj]
theorem pm {M:List (List Qi)} {b:List Qi} {n i:Nat}:(xD M b n i).length = n:=a9 _ _
theorem BD {M:List (List Qi)} {b:List Qi} {n i:Nat} (h:i < n):(aH QT (xD M b n i))[i]? = some ((bi M i).map QT):=by
 rw [aH,List.getElem?_map,xD,aM h,if_neg zo]; rfl
theorem An {M:List (List Qi)} {b:List Qi} {n i:Nat} (h:i < n):(xD M b n i).set i (ql M [b] i) = xD M b n (i + 1):=by
 apply List.ext_getElem?
 intro j
 by_cases hj:j < n
 ·by_cases e : j = i
  ·subst e
   rw [List.getElem?_set_self (by rw [pm]; exact hj),xD,aM hj,if_pos zo]
  ·rw [List.getElem?_set_ne (Ne.symm e), xD, xD, aM hj, aM hj]
   by_cases e2:j < i
   ·rw [if_pos e2,if_pos zo]
   ·rw [if_neg e2,if_neg zo]
 ·rw [List.getElem?_eq_none (by rw [List.length_set,pm]; omega),List.getElem?_eq_none (by rw [pm]; omega)]
theorem Dz {M A:List (List Qi)} {b:List Qi} {n:Nat} (h:iS (eu M [b] n) n = some A):(tab n fun i=>QT (gm A i n / gm A i i)) = (wJ M b n).map QT:=by rw [wJ,ws,h,Option.map_some,Option.getD_some,jR]
theorem Em {M A:List (List Qi)} {b:List Qi} {n:Nat} (h:iS (eu M [b] n) n = some A):qq M b n = 0:=by rw [qq,ws,h]; rfl
theorem Dv {M:List (List Qi)} {b:List Qi} {n:Nat} (h:iS (eu M [b] n) n = none):wJ M b n = []:=by rw [wJ,ws,h]; rfl
theorem EC {M:List (List Qi)} {b:List Qi} {n:Nat} (h:iS (eu M [b] n) n = none):qq M b n = 6:=by rw [qq,ws,h]; rfl
theorem tf {M:List (List Qi)} {b:List Qi} {n L:Nat} (hM:bE M n n) (hb:b.length = n) (hf:aL M L) (hfb:bk b L) (hL:1 ≤ L) (h1:1 ≤ n) (hn:n ≤ 32) (hg:6 * b5 L n + 4 ≤ 17592186044415):az Tryz.prog 201 [QM M,iv b] (cr [iv (wJ M b n),ap .i64 (qq M b n)]):=by
 have hMl:=hM.1
 obtain ⟨CM,hC⟩:∃ CM,CM = eu M [b] n:=⟨_,rfl⟩
 have hs:bE CM n (n + 1):=by rw [hC]; exact fx hM
 have hcf:aL CM L:=by rw [hC]; exact mU hf (fun r hr=>by simp at hr; subst hr; exact hfb) hL
 have hs1:=hs.1
 refine az.intro Tryz.func201 rfl Tryz.ntmps201 rfl (fun cx=>(ts (ro rfl (cQ cV) (ro rfl (cQ (cJ 0)) (eX (cK (ts (rm rfl (ro rfl (cZ Tryz.call238 (xj hM h1 hn) ⟨(Ht rfl),trivial⟩) (ro rfl (co (Ht rfl)) (rm rfl (fQ rfl rfl (eK rfl rfl (Ht rfl) (fun h=>cX (Ht rfl))) (fQ rfl rfl (eK rfl rfl (Ht rfl) (fun h=>dG U_35 (fJ rfl h) a7)) (fQ rfl rfl (eK rfl rfl (Ht rfl) (fun h=>cX (Ht rfl))) (fQ rfl rfl (eK rfl rfl (Ht rfl) (fun h=>dG U_36 (fJ rfl h) a7)) ?_)))))))))))))))
 refine fQ rfl rfl (eK rfl rfl (Ht rfl) (fun h=>cu (fJ rfl h) (fJ rfl h))) (ro rfl (dr (Ht rfl) (fun h=>(fJ rfl h))) (eX (dP (Ht rfl) (by simp [hMl,hb]) ?_)))
 refine cU (ts (rm rfl (ro rfl (dG U_36 (Ht rfl) (by rw [List.length_map,hMl])) ?_)))
 refine ra rfl (eX (ts (rm rfl (ec Tryz.call172 (yt hM zo h1 zo) ⟨(Ht rfl),trivial⟩ rfl (fun B30 _=>(ra rfl (eX (cK (ts (ro rfl (cQ (cJ 0)) (eX (eG ?_))))))))))))
 refine aF (fun (i : Nat) => i ≤ n) (fun (i : Nat) => n - i) (fun (i : Nat) => [(0, QM M), (1, iv b), (6, NT .i64 n), (7, Is (.slice (some ⟨B30, 0, none⟩) n n)), (8, NT .i64 i)]) (fun (i : Nat) => [iK B30 35 131 5 (aH QT (xD M b n i))]) 0 (Nat.zero_le _)
  (zS rfl) (aU (aC (congrArg _ (zr hMl))) aY) (fun i hi=>?_)
 refine cK (ts (rm rfl (rm rfl (ro rfl (gX (Ht rfl) (Ht rfl)) (eX (dQ (Ht rfl) (fun hd0=>?_) (fun hd0=>?_)))))))
 ·have hdn : i < n := by simp only [decide_eq_true_eq] at hd0; omega
  have hrl:(bi M i).length = n:=hM.row hdn
  have hrl2:(M.getD i []).length = n:=hrl
  refine j2 0 (i) rfl (BD hdn) (fun v0=>(cU (cK (eG (Y.D_startA (m:=12) [] 11 1 rfl rfl (bY (Ei:=[(7,_)]) rfl rfl (bQ (bJ rfl rfl) bX) rfl rfl (dX rfl (cX (Ht rfl))) (bY (Ei:=[(8,_)]) rfl rfl (bQ (bJ rfl rfl) bX) rfl rfl (dX rfl (cX (Ht rfl))) (bY (Ei:=[(7,_)]) rfl rfl (bQ (bJ rfl rfl) bX) rfl rfl (dX rfl (cX (Ht rfl))) (bY (Ei:=[(8,_)]) rfl rfl (bQ (bJ rfl rfl) bX) rfl rfl (dX rfl (cX (Ht rfl))) ?_)))))))))
  refine bY (Ei:=[(38,_),(39,_)]) rfl rfl (bQ (bZ 2 rfl rfl) (bQ (bZ 3 rfl rfl) bX)) rfl rfl (dX rfl (fY U_36 Z_35 (Ht rfl) (Ht rfl) rfl zo (by rw [Nat.mul_one,Nat.zero_add]))) ?_
  refine bY (Ei:=[(40,_)]) rfl rfl (bQ (bZ 4 rfl rfl) bX) rfl rfl (dX rfl (d4 A_35 Z_35 (Ht rfl) (j:=0) rfl)) (bY (Ei:=[(1,_)]) rfl rfl (bQ (bJ rfl rfl) bX) rfl rfl (dX rfl (cX (Ht rfl))) (bY (Ei:=[(8,_)]) rfl rfl (bQ (bJ rfl rfl) bX) rfl rfl (dX rfl (cX (Ht rfl))) (bY (Ei:=[(42,_),(43,_)]) rfl rfl (bQ (bZ 6 rfl rfl) (bQ (bZ 7 rfl rfl) bX)) rfl rfl (dX rfl (dZ U_35 Z_131 (Ht rfl) (Ht rfl) rfl (dY (dU (d:=Qi.zero) zo)))) ?_)))
  refine bY (Ei:=[(44,_)]) rfl rfl (bQ (bZ 8 rfl rfl) bX) rfl rfl (dX rfl (dJ A_131 Z_131 (Ht rfl))) (bY (Ei:=[(45,_)]) rfl rfl (bQ (bZ 9 rfl rfl) bX) rfl rfl (dX rfl (aN (xs:=[.tmp 45]) U_35 Z_131 O_131 (cW (Ht rfl) cG) rfl rfl rfl)) (Y.D_app (Ei:=[(41,_),(46,_)]) rfl rfl rfl rfl (bQ (bZ 5 rfl rfl) (bQ (bZ 10 rfl rfl) bX)) rfl (jk (inf:=Tryz.t131) jF go rfl rfl rfl (Ht rfl) (Ht rfl) (by simp) (fun T hT=>by simp at hT; subst hT; exact El.ag rfl) (by show _ * 88 ≤ _; simp only [List.length_map,List.length_append,List.length_take,List.length_cons,List.length_nil]; omega) (by simp only [List.length_map,List.length_append,List.length_take,List.length_cons,List.length_nil]; omega)) ?_))
  refine Y.D_done au rfl (by kernel_rfl) rfl (by simp [Y.okP]) rfl rfl (bU (bU (bU (bU (bU (bU (bU (bU (bU (bU (bU (Y.F_app (fun v2=>Y.F_nil ?_)))))))))))))
  refine ro rfl (fY U_36 Z_35 (Ht rfl) (Ht rfl) rfl zo (by rw [Nat.mul_one,Nat.zero_add])) ?_
  refine jX Z_35 (Ht rfl) (Ht rfl) (by simp only [aH,List.length_map,pm]; omega) (j:=0) (l:=2) rfl rfl rfl ?_
  refine eX (as (aO [0,2] rfl (by decide) (bR 0 1 rfl rfl (by decide) (by simp only [aH,List.length_map,pm]; omega) ?_)))
  refine cY (rm rfl (ro rfl (dV (Ht rfl) (cJ 1) z6) (ra rfl (eX (aO [0] rfl (by decide) (fU (i + 1) hdn zo (zS rfl) (aU (aC (by rw [iE QT _ (gv b i),c9]; exact congrArg _ (An hdn))) aY)))))))
 ·have hin : i = n := by simp only [decide_eq_false_iff_not] at hd0; omega
  subst hin
  rw [Ex,← hC]
  refine gV rfl (r8 0 rfl (fun vs hvs=>?_))
  have hvs2:Al vs i:=by have h:=hvs; rw [aH,List.length_map,hs1] at h; exact h
  refine cK (ts (ro rfl (cQ (cJ 0)) (eX (eG ?_))))
  refine cT (fun (c : Nat) (vs : List Value) (A : List (List Qi)) => c ≤ i ∧ iS CM c = some A ∧ Al vs i) (fun (c : Nat) (vs : List Value) (A : List (List Qi)) => i - c) (fun (c : Nat) (vs : List Value) (A : List (List Qi)) => [(6, NT .i64 i), (7, Is (.slice (some ⟨B30, 0, none⟩) i i)), (9, NT .i64 c)]) (fun (c : Nat) (vs : List Value) (A : List (List Qi)) => [dT B30 35 131 5 vs vs (aH QT A)]) 0 vs CM ⟨Nat.zero_le _, rfl, hvs2⟩
   (zS rfl) (bh.refl _) (fun c vs A ⟨hc,hA,hvs⟩=>?_)
  refine cK (ts (rm rfl (rm rfl (ro rfl (gX (Ht rfl) (Ht rfl)) (eX (dQ (Ht rfl) (fun hcn=>?_) (fun hcn=>?_)))))))
  ·simp only [decide_eq_true_eq] at hcn
   have hcn:c < i:=by omega
   have hvl:=hvs.len
   have hgj:=nn hs (Nat.le_succ i) hc hA
   have hAs:bE A i (i + 1):=hgj.sh
   have hAf:aL A (b5 L c):=tJ hs (Nat.le_succ i) hcf hL hc hA
   have hAl:=hAs.1
   have hgr:b5 L c ≤ b5 L i:=fv L hc
   have hG1:1 ≤ b5 L c:=Nat.le_trans hL (it L c)
   refine cU (cK (eG (ts (rm rfl (ra rfl (eX (cK (eG ?_))))))))
   refine aF (fun (p : Nat) => (c ≤ p ∧ p ≤ i) ∧ ∀ r, c ≤ r → r < p → gm A r c = Qi.zero) (fun (p : Nat) => i - p) (fun (p : Nat) => [(6, NT .i64 i), (7, Is (.slice (some ⟨B30, 0, none⟩) i i)), (9, NT .i64 c), (10, NT .i64 p)]) (fun (p : Nat) => [dT B30 35 131 5 vs vs (aH QT A)]) c ⟨⟨Nat.le_refl _, hc⟩, fun r h1 h2 => by omega⟩
    (zS rfl) (bh.refl _) (fun p ⟨⟨hcp,hpn⟩,hz⟩=>?_)
   refine cK (ts (rm rfl (rm rfl (ro rfl (gX (Ht rfl) (Ht rfl)) (rm rfl (fQ rfl rfl (eK rfl rfl (Ht rfl) (fun h=>cX (Ht rfl))) (fQ rfl rfl (eK rfl rfl (Ht rfl) (fun h=>cX (Ht rfl))) (fQ rfl rfl (eK rfl rfl (Ht rfl) (fun h=>fY U_36 Z_35 (fJ rfl h) (fJ rfl h) rfl (by first | omega | (simp at h; omega)) (by rw [Nat.mul_one,Nat.zero_add]))) ?_))))))))
   refine fQ rfl rfl (eK rfl rfl (Ht rfl) (fun h=>cF A_35 Z_35 (fJ rfl h) (j:=0) rfl (by simp at h; omega))) ?_
   refine fQ rfl rfl (eK rfl rfl (Ht rfl) (fun h=>cX (Ht rfl))) (fQ rfl rfl (eK rfl rfl (Ht rfl) (fun h=>dF U_35 Z_131 (fJ rfl h) (fJ rfl h) rfl (j:=0) rfl zo (by simp at h; omega) (by simp at h; rw [hAs.row h]; omega))) ?_)
   refine fQ rfl rfl (eK rfl rfl (Ht rfl) (fun h=>g0 A_131 Z_131 (fJ rfl h) (j:=0) rfl zo (by simp at h; omega) (by simp at h; rw [hAs.row h]; omega))) ?_
   refine fQ rfl rfl (eK rfl rfl (Ht rfl) (fun h=>cZ Tryz.call166 (vu (x:=gm A p c)) ⟨(fJ rfl h),trivial⟩)) (ro rfl (c7 (Ht rfl) (fun h=>(fJ rfl h))) (eX (dQ (Ht rfl) (fun he=>?_) (fun he=>?_))))
   ·have he2 : p < i ∧ gm A p c = Qi.zero := by simpa using he
    refine cU (eG (cY (rm rfl (ro rfl (dV (Ht rfl) (cJ 1) z6) (ra rfl (eX (as ?_)))))))
    refine fU (p + 1) ⟨⟨by omega, by omega⟩, fun r h1 h2 => by
      by_cases e:r = p
      ·rw [e]; exact he2.2
      ·exact hz r h1 zo⟩ zo (zS rfl) (bh.refl _)
   ·have hpv : pv A c i = p := CH hcp hpn hz (fun h => by simp at he; exact he h)
    refine gV rfl (cK (ts (rm rfl (rm rfl (ro rfl (bc (Ht rfl) (Ht rfl)) (eX (dQ (Ht rfl) (fun hp=>?_) (fun hp=>?_))))))))
    ·have hp2 : p = i := by simpa using hp
     have hend:iS CM i = none:=xS hs1 hA (by rw [hpv]; exact hp2) hcn
     rw [hC] at hend
     refine ts (ro rfl (cQ cV) (ro rfl (cQ (cJ 6)) (eX (aE rfl (fX (eU rfl) ?_) (fX (eU rfl) ?_)))))
     ·exact (fun v V k=>by rw [Dv hend]; exact dh v V k)
     ·exact (am (EC hend).symm)
    ·have hp2 : p < i := by simp at hp; omega
     have hpz:=(gl (M:=A) (c:=c) (n:=i) hc).2.2.2 (by rw [hpv]; exact hp2)
     rw [hpv] at hpz
     have hnx:=Bw hs1 hA hpv hp2
     refine cU (cK (Y.D_start (m:=14) [(13,0,dT B30 35 131 5 (vs.set p (hd vs c)) vs (aH QT A))] (Y.D_step (Ei:=[(7,_)]) rfl rfl (bQ (bJ rfl rfl) bX) rfl rfl (by kernel_rfl) (dX rfl (cX (Ht rfl))) (Y.D_step (Ei:=[(10,_)]) rfl rfl (bQ (bJ rfl rfl) bX) rfl rfl (by kernel_rfl) (dX rfl (cX (Ht rfl))) (bY (Ei:=[(7,_)]) rfl rfl (bQ (bJ rfl rfl) bX) rfl rfl (dX rfl (cX (Ht rfl))) (bY (Ei:=[(9,_)]) rfl rfl (bQ (bJ rfl rfl) bX) rfl rfl (dX rfl (cX (Ht rfl))) ?_))))))
     refine Y.D_step (Ei:=[(7,_)]) rfl rfl (bQ (bJ rfl rfl) bX) rfl rfl (by kernel_rfl) (dX rfl (cX (Ht rfl))) (Y.D_step (Ei:=[(9,_)]) rfl rfl (bQ (bJ rfl rfl) bX) rfl rfl (by kernel_rfl) (dX rfl (cX (Ht rfl))) (Y.D_step (Ei:=[(77,_),(78,_)]) rfl rfl (bQ (bZ 4 rfl rfl) (bQ (bZ 5 rfl rfl) bX)) rfl rfl (by kernel_rfl) (dX rfl (fY U_36 Z_35 (Ht rfl) (Ht rfl) rfl zo (by rw [Nat.mul_one,Nat.zero_add]))) ?_))
     refine Y.D_step (Ei:=[(79,_)]) rfl rfl (bQ (bZ 6 rfl rfl) bX) rfl rfl (by kernel_rfl) (dX rfl (cF A_35 Z_35 (Ht rfl) (j:=0) rfl zo)) (Y.D_step (Ei:=[(7,_)]) rfl rfl (bQ (bJ rfl rfl) bX) rfl rfl (by kernel_rfl) (dX rfl (cX (Ht rfl))) (Y.D_step (Ei:=[(10,_)]) rfl rfl (bQ (bJ rfl rfl) bX) rfl rfl (by kernel_rfl) (dX rfl (cX (Ht rfl))) (Y.D_step (Ei:=[(81,_),(82,_)]) rfl rfl (bQ (bZ 8 rfl rfl) (bQ (bZ 9 rfl rfl) bX)) rfl rfl (by kernel_rfl) (dX rfl (fY U_36 Z_35 (Ht rfl) (Ht rfl) rfl zo (by rw [Nat.mul_one,Nat.zero_add]))) ?_)))
     refine Y.D_step (Ei:=[(83,_)]) rfl rfl (bQ (bZ 10 rfl rfl) bX) rfl rfl (by kernel_rfl) (dX rfl (cF A_35 Z_35 (Ht rfl) (j:=0) rfl zo)) (Y.D_step (Ei:=[(73,_),(74,_)]) rfl rfl (bQ (bZ 0 rfl rfl) (bQ (bZ 1 rfl rfl) bX)) rfl rfl (by kernel_rfl) (dX rfl (fY U_36 Z_35 (Ht rfl) (Ht rfl) rfl zo (by rw [Nat.mul_one,Nat.zero_add]))) ?_)
     refine Y.D_putI (Ei:=[(85,_),(80,_)]) 0 rfl rfl rfl (bQ (bZ 12 rfl rfl) (bQ (bZ 7 rfl rfl) bX)) (.head _) rfl (uD Z_35 (Ht rfl) (Ht rfl) (hvs.pl c zo) (i:=p) (hs:=vs) zo) (Y.D_done au rfl (by kernel_rfl) rfl (by simp [Y.okP]) rfl rfl (bU (bU (bU (bU (bU (bU (bU (bU (bU (bU (bU (bU (bU (Y.F_putI (Y.F_nil ?_))))))))))))))))
     refine ro rfl (fY U_36 Z_35 (Ht rfl) (Ht rfl) rfl zo (by rw [Nat.mul_one,Nat.zero_add])) ?_
     refine zZ Z_35 (Ht rfl) (Ht rfl) (j:=0) rfl (hvs.pl p zo) (by rw [List.length_set]; omega) rfl ?_
     refine eX (cK (fk 0 rfl (qG (hs:=swp oJ vs p c) (p:=p) (c:=c) zo zo zo) ?_))
     have hus:=hvs.swp hp2 hcn
     have hDs:bE (swp [] A p c) i (i + 1):=lW hAs hp2 hcn
     have hDf:aL (swp [] A p c) (b5 L c):=nV hAf
     have hDz : gm (swp [] A p c) c c ≠ Qi.zero := by
      show gv (bi (swp [] A p c) c) c ≠ _
      rw [mR zo]; exact hpz
     obtain ⟨us,hus2⟩:∃ us,us = swp oJ vs p c:=⟨_,rfl⟩
     obtain ⟨D,hD⟩:∃ D,D = swp [] A p c:=⟨_,rfl⟩
     rw [← hus2] at hus ⊢
     rw [← hD] at hDs hDf hDz hnx ⊢
     have hul:=hus.len
     have hDl:=hDs.1
     refine cY (ro rfl (cQ (cJ 0)) (eX (eG ?_)))
     refine aF (fun (r : Nat) => r ≤ i) (fun (r : Nat) => i - r) (fun (r : Nat) => [(6, NT .i64 i), (7, Is (.slice (some ⟨B30, 0, none⟩) i i)), (9, NT .i64 c), (11, NT .i64 r)]) (fun (r : Nat) => [dT B30 35 131 5 us us (aH QT (g6 D c r))]) 0 (Nat.zero_le _)
      (zS rfl) (aU (il (congrArg _ un)) aY) (fun r hrn=>?_)
     refine cK (ts (rm rfl (rm rfl (ro rfl (gX (Ht rfl) (Ht rfl)) (eX (dQ (Ht rfl) (fun hr=>?_) (fun hr=>?_)))))))
     ·have hr : r < i := by simp only [decide_eq_true_eq] at hr; omega
      refine cU (cK (eG (ts (rm rfl (rm rfl (ro rfl (cu (Ht rfl) (Ht rfl)) (eX (dQ (Ht rfl) (fun hrc=>?_) (fun hrc=>?_)))))))))
      ·have hrc : r ≠ c := by simpa using hrc
       obtain ⟨X,hX⟩:∃ X,X = g6 D c r:=⟨_,rfl⟩
       have hXr:bi X r = bi D r:=by rw [hX]; exact o4 zo zo
       have hXc:bi X c = bi D c:=by rw [hX]; exact o4 zo zo
       have hXl:X.length = i:=by rw [hX,ku]; exact hDl
       have hXrl:(bi X r).length = i + 1:=by rw [hXr]; exact hDs.row hr
       have hXcl:(bi X c).length = i + 1:=by rw [hXc]; exact hDs.row hcn
       have hXrg:(X.getD r []).length = i + 1:=hXrl
       have hXcg:(X.getD c []).length = i + 1:=hXcl
       have hXfr:bk (bi X r) (b5 L c):=by rw [hXr]; exact hDf.row r
       have hXfc:bk (bi X c) (b5 L c):=by rw [hXc]; exact hDf.row c
       haveI g1:ao (gm X r c) (b5 L c):=hXfr.get hG1 c
       haveI g2:ao (gm X c c) (b5 L c):=hXfc.get hG1 c
       have hXz:gm X c c ≠ Qi.zero:=by show gv (bi X c) c ≠ _; rw [hXc]; exact hDz
       haveI g3:ao (gm X r c / gm X c c) (b5 L c + 3 * b5 L c + 2):=⟨g1.fit.div g2.fit hXz⟩
       have hend:=xA (D:=D) (r:=r) (c:=c) zo hrc zo
       rw [← hX] at hend ⊢
       rw [hXrl] at hend
       have hrU:r < us.length:=by rw [hul]; exact hr
       have hcU:c < us.length:=by rw [hul]; exact hcn
       have hXU:us.length = X.length:=by rw [hul,hXl]
       have hrX:r < X.length:=by rw [hXl]; exact hr
       have hcX:c < X.length:=by rw [hXl]; exact hcn
       have hcr:c < (X.getD r []).length:=by rw [hXrg]; exact Nat.lt_succ_of_lt hcn
       have hcc:c < (X.getD c []).length:=by rw [hXcg]; exact Nat.lt_succ_of_lt hcn
       clear hXrg hXcg hXr hXc
       refine cK (Y.D_start (m:=20) [] (bY (Ei:=[(7,_)]) rfl rfl (bQ (bJ rfl rfl) bX) rfl rfl (dX rfl (cX (Ht rfl))) (bY (Ei:=[(11,_)]) rfl rfl (bQ (bJ rfl rfl) bX) rfl rfl (dX rfl (cX (Ht rfl))) (bY (Ei:=[(96,_),(97,_)]) rfl rfl (bQ (bZ 0 rfl rfl) (bQ (bZ 1 rfl rfl) bX)) rfl rfl (dX rfl (fY U_36 Z_35 (Ht rfl) (Ht rfl) rfl zo (by rw [Nat.mul_one,Nat.zero_add]))) ?_))))
       refine bY (Ei:=[(98,_)]) rfl rfl (bQ (bZ 2 rfl rfl) bX) rfl rfl (dX rfl (cF A_35 Z_35 (Ht rfl) (j:=0) rfl hrU)) (bY (Ei:=[(9,_)]) rfl rfl (bQ (bJ rfl rfl) bX) rfl rfl (dX rfl (cX (Ht rfl))) (bY (Ei:=[(99,_),(100,_)]) rfl rfl (bQ (bZ 3 rfl rfl) (bQ (bZ 4 rfl rfl) bX)) rfl rfl (dX rfl (dF U_35 Z_131 (Ht rfl) (Ht rfl) rfl (j:=0) rfl hXU hrX hcr)) (bY (Ei:=[(101,_)]) rfl rfl (bQ (bZ 5 rfl rfl) bX) rfl rfl (dX rfl (g0 A_131 Z_131 (Ht rfl) (j:=0) rfl hXU hrX hcr)) ?_)))
       refine bY (Ei:=[(7,_)]) rfl rfl (bQ (bJ rfl rfl) bX) rfl rfl (dX rfl (cX (Ht rfl))) (bY (Ei:=[(9,_)]) rfl rfl (bQ (bJ rfl rfl) bX) rfl rfl (dX rfl (cX (Ht rfl))) (bY (Ei:=[(103,_),(104,_)]) rfl rfl (bQ (bZ 7 rfl rfl) (bQ (bZ 8 rfl rfl) bX)) rfl rfl (dX rfl (fY U_36 Z_35 (Ht rfl) (Ht rfl) rfl zo (by rw [Nat.mul_one,Nat.zero_add]))) ?_))
       refine bY (Ei:=[(105,_)]) rfl rfl (bQ (bZ 9 rfl rfl) bX) rfl rfl (dX rfl (cF A_35 Z_35 (Ht rfl) (j:=0) rfl hcU)) (bY (Ei:=[(9,_)]) rfl rfl (bQ (bJ rfl rfl) bX) rfl rfl (dX rfl (cX (Ht rfl))) (bY (Ei:=[(106,_),(107,_)]) rfl rfl (bQ (bZ 10 rfl rfl) (bQ (bZ 11 rfl rfl) bX)) rfl rfl (dX rfl (dF U_35 Z_131 (Ht rfl) (Ht rfl) rfl (j:=0) rfl hXU hcX hcc)) (bY (Ei:=[(108,_)]) rfl rfl (bQ (bZ 12 rfl rfl) bX) rfl rfl (dX rfl (g0 A_131 Z_131 (Ht rfl) (j:=0) rfl hXU hcX hcc)) ?_)))
       refine bY (Ei:=[(102,_),(109,_)]) rfl rfl (bQ (bZ 6 rfl rfl) (bQ (bZ 13 rfl rfl) bX)) rfl rfl (dX rfl (cZ Tryz.call144 (wb (x:=gm X r c) (y:=gm X c c) (L:=b5 L c) (M:=b5 L c) zo) ⟨(Ht rfl),(Ht rfl),trivial⟩)) (bY (Ei:=[(110,_)]) rfl rfl (bQ (bZ 14 rfl rfl) bX) rfl rfl (dX rfl (cX (Ht rfl))) (bY (Ei:=[(95,_)]) rfl rfl (bQ (bZ 15 rfl rfl) bX) rfl rfl (dX rfl (dK (Ht rfl) rfl)) (bY (Ei:=[(95,_)]) rfl rfl (bQ (bZ 15 rfl rfl) bX) rfl rfl (dX rfl (dK (Ht rfl) rfl)) ?_)))
       refine Y.D_newp (Ei:=[]) (fun bb=>box bb 131 [ab (decide ((gm X r c / gm X c c).a < 0)),ai (gm X r c / gm X c c).a.natAbs,ab (decide ((gm X r c / gm X c c).b < 0)),ai (gm X r c / gm X c c).b.natAbs,ai (gm X r c / gm X c c).den]) 19 rfl rfl rfl bX rfl rfl (by kernel_rfl) (eW (Ts:=[Is (.bool false),Is (.slice none 0 0),Is (.bool false),Is (.slice none 0 0),Is (.slice none 0 0)]) O_131 rfl (fun V=>aW zd (aW zd (aW zd (aW zd (aW zd (aG))))))) ?_
       refine Y.D_putN (Ei:=[(111,_)]) 18 rfl rfl rfl rfl rfl rfl (bQ (bZ 16 rfl rfl) bX) (fun bb=>k5 Z_131 (Ht rfl) (Ht rfl) rfl (i:=0) rfl (aK rfl) rfl rfl) (Y.D_done au rfl (by kernel_rfl) rfl (by simp [Y.okP]) rfl rfl (bU (bU (bU (bU (bU (bU (bU (bU (bU (bU (bU (bU (bU (bU (bU (bU (bU (bU (Y.F_newp (fun B12=>Y.F_putN (Y.F_nil ?_))))))))))))))))))))))
       refine ra rfl (eX (ts (rm rfl (ra rfl (eX (eG ?_))))))
       refine aF (fun (k : Nat) => c ≤ k ∧ k ≤ i + 1) (fun (k : Nat) => i + 1 - k) (fun (k : Nat) => [(6, NT .i64 i), (7, Is (.slice (some ⟨B30, 0, none⟩) i i)), (9, NT .i64 c), (11, NT .i64 r), (12, aI B12 0), (14, NT .i64 k)]) (fun (k : Nat) => [dT B30 35 131 5 us us (aH QT (X.set r (dv (bi X r) (bi X c) c k))), box B12 131 [ab (decide ((gm X r c / gm X c c).a < 0)), ai (gm X r c / gm X c c).a.natAbs, ab (decide ((gm X r c / gm X c c).b < 0)), ai (gm X r c / gm X c c).b.natAbs, ai (gm X r c / gm X c c).den]]) c ⟨Nat.le_refl _, by omega⟩
        (zS rfl) (aU (il (by rw [← s7,Ac zo])) (aU (a8 rfl) aY)) (fun k ⟨hck,hkm⟩=>?_)
       refine cK (ts (rm rfl (rm rfl (ro rfl (mI (Ht rfl) (Ht rfl)) (eX (dQ (Ht rfl) (fun hk=>?_) (fun hk=>?_)))))))
       ·have hk2 : k < i + 1 := by simp only [decide_eq_true_eq] at hk; omega
        obtain ⟨Y,hY⟩:∃ Y,Y = (X.set r (dv (bi X r) (bi X c) c k)):=⟨_,rfl⟩
        have e1:gm Y r k = gv (bi X r) k:=by rw [hY]; exact DN hrX (by rw [hXrl]; exact hk2)
        have e2:gm Y c k = gv (bi X c) k:=by rw [hY]; exact DM hrc
        haveI y1:ao (gm Y r k) (b5 L c):=by rw [e1]; exact hXfr.get hG1 k
        haveI y2:ao (gm Y c k) (b5 L c):=by rw [e2]; exact hXfc.get hG1 k
        have hst:=xB (X:=X) (r:=r) (c:=c) (k:=k) hrX hrc (by rw [hXrl]; exact hk2) hck
        have hYU:us.length = Y.length:=by rw [hY,List.length_set]; exact hXU
        have hrY:r < Y.length:=by rw [← hYU]; exact hrU
        have hcY:c < Y.length:=by rw [← hYU]; exact hcU
        have hkr:k < (Y.getD r []).length:=by show k < (bi Y r).length; rw [hY,kB hrX,jx,hXrl]; exact hk2
        have hkc:k < (Y.getD c []).length:=by show k < (bi Y c).length; rw [hY,iB hrc,hXcl]; exact hk2
        rw [← hY] at hst ⊢
        clear hXrl hXcl hXU hrX hcX hcr hcc
        refine cU (cK (eG (fZ (m:=22) (dp 7 rfl (cX (Ht rfl)) (dp 11 rfl (cX (Ht rfl)) (b8 119 0 120 1 rfl (fY U_36 Z_35 (Ht rfl) (Ht rfl) rfl zo (by rw [Nat.mul_one,Nat.zero_add])) ?_))))))
        refine dq 121 2 rfl (cF A_35 Z_35 (Ht rfl) (j:=0) rfl hrU) (dp 14 rfl (cX (Ht rfl)) (dp 7 rfl (cX (Ht rfl)) (dp 11 rfl (cX (Ht rfl)) (b8 124 5 125 6 rfl (fY U_36 Z_35 (Ht rfl) (Ht rfl) rfl zo (by rw [Nat.mul_one,Nat.zero_add])) ?_))))
        refine dq 126 7 rfl (cF A_35 Z_35 (Ht rfl) (j:=0) rfl hrU) (dp 14 rfl (cX (Ht rfl)) (b8 127 8 128 9 rfl (dF U_35 Z_131 (Ht rfl) (Ht rfl) rfl (j:=0) rfl hYU hrY hkr) (dq 129 10 rfl (g0 A_131 Z_131 (Ht rfl) (j:=0) rfl hYU hrY hkr) (dp 12 rfl (eJ A_131 Z_131 (Ht rfl) (i:=1) rfl rfl rfl) (dp 7 rfl (cX (Ht rfl)) (dp 9 rfl (cX (Ht rfl)) (b8 132 13 133 14 rfl (fY U_36 Z_35 (Ht rfl) (Ht rfl) rfl zo (by rw [Nat.mul_one,Nat.zero_add])) ?_)))))))
        refine dq 134 15 rfl (cF A_35 Z_35 (Ht rfl) (j:=0) rfl hcU) (dp 14 rfl (cX (Ht rfl)) (b8 135 16 136 17 rfl (dF U_35 Z_131 (Ht rfl) (Ht rfl) rfl (j:=0) rfl hYU hcY hkc) (dq 137 18 rfl (g0 A_131 Z_131 (Ht rfl) (j:=0) rfl hYU hcY hkc) (b8 131 12 138 19 rfl (cZ K_146 (mZ (x:=gm X r c / gm X c c) (y:=gm Y c k) (L:=b5 L c + 3 * b5 L c + 2) (M:=b5 L c) zo) ⟨(Ht rfl),(Ht rfl),trivial⟩) (b8 130 11 139 20 rfl (cZ Tryz.call147 (tE (x:=gm Y r k) (y:=gm X r c / gm X c c * gm Y c k) (L:=b5 L c) (M:=b5 L c + 3 * b5 L c + 2 + b5 L c + 1) zo) ⟨(Ht rfl),(Ht rfl),trivial⟩) ?_)))))
        refine fV au rfl (by kernel_rfl) (zF (zF (zF (zF (zF (aJ (aJ (aV (ro rfl (dF U_35 Z_131 (Ht rfl) (Ht rfl) rfl (j:=0) rfl hYU hrY hkr) (CT Z_131 (Ht rfl) (Ht rfl) (j:=0) rfl (El.ag rfl) (F:=QT) (z:=gm Y r k - gm X r c / gm X c c * gm Y c k) hYU hrY hkr rfl (eX (as (cY (rm rfl (ro rfl (dV (Ht rfl) (cJ 1) z6) ?_)))))))))))))))
        refine ra rfl (eX (fU (k + 1) ⟨by omega,hk2⟩ zo (zS rfl) (aU (il (congrArg _ hst)) (aU (a8 rfl) aY))))
       ·have hk3 : k = i + 1 := by simp only [decide_eq_false_iff_not] at hk; omega
        subst hk3
        refine gV rfl (as (cY (rm rfl (ro rfl (dV (Ht rfl) (cJ 1) z6) (ra rfl (eX (aO [0] rfl (by decide) (fU (r + 1) hr zo (zS rfl) (aU (il (congrArg _ hend)) aY)))))))))
      ·have hrc : r = c := by simpa using hrc
       subst hrc
       refine cU (as (cY (rm rfl (ro rfl (dV (Ht rfl) (cJ 1) z6) (ra rfl (eX (fU (r + 1) hr zo (zS rfl) (aU (il (congrArg _ x5)) aY))))))))
     ·have hri : r = i := by simp only [decide_eq_false_iff_not] at hr; omega
      subst hri
      refine gV rfl (as (cY (rm rfl (ro rfl (dV (Ht rfl) (cJ 1) z6) (ra rfl (eX (fU (c + 1,us,g6 D c r) ⟨hcn,hnx,hus⟩ (by dsimp only; omega) (zS rfl) (bh.refl _))))))))
  ·have hci : c = i := by simp only [decide_eq_false_iff_not] at hcn; omega
   subst hci
   have hvl:=hvs.len
   have hgj:=nn hs (Nat.le_succ c) hc hA
   have hAs:bE A c (c + 1):=hgj.sh
   have hAf:aL A (b5 L c):=tJ hs (Nat.le_succ c) hcf hL hc hA
   have hAl:=hAs.1
   have hG1:1 ≤ b5 L c:=Nat.le_trans hL (it L c)
   rw [hC] at hA
   refine gV rfl (ts (rm rfl (rn rfl (dE (T:=ZQ) (i:=Tryz.t131) jF go rfl rfl (Ht rfl) rfl y3 (El.ag rfl) (by show 88 * _ ≤ _; omega) zo) fun B143=>(ra rfl (eX (cK (ts (ro rfl (cQ (cJ 0)) (eX (eG ?_))))))))))
   refine aF (fun (j : Nat) => j ≤ c) (fun (j : Nat) => c - j) (fun (j : Nat) => [(6, NT .i64 c), (7, Is (.slice (some ⟨B30, 0, none⟩) c c)), (15, Is B143), (16, NT .i64 j)]) (fun (j : Nat) => [dT B30 35 131 5 vs vs (aH QT A), aB 131 5 B143 (dA (fun j => QT (gm A j c / gm A j j)) ZQ c j)]) 0 (Nat.zero_le _)
    (zS rfl) (aU (fun _ _ _ h=>h) (aU (aa (by rw [← cz]; exact my _ _)) aY)) (fun j hj=>?_)
   refine cK (ts (rm rfl (rm rfl (ro rfl (gX (Ht rfl) (Ht rfl)) (eX (dQ (Ht rfl) (fun hq=>?_) (fun hq=>?_)))))))
   ·have hq : j < c := by simp only [decide_eq_true_eq] at hq; omega
    have hrr:(A.getD j []).length = c + 1:=hAs.row hq
    haveI f1:ao (gm A j c) (b5 L c):=hAf.get hG1 j c
    haveI f2:ao (gm A j j) (b5 L c):=hAf.get hG1 j j
    refine cU (cK (eG (Y.D_start (m:=22) [(21,1,aB 131 5 B143 ((dA (fun j=>QT (gm A j c / gm A j j)) ZQ c j).set j (QT (gm A j c / gm A j j))))] (Y.D_step (Ei:=[(15,_)]) rfl rfl (bQ (bJ rfl rfl) bX) rfl rfl (by kernel_rfl) (dX rfl (cX (Ht rfl))) (Y.D_step (Ei:=[(16,_)]) rfl rfl (bQ (bJ rfl rfl) bX) rfl rfl (by kernel_rfl) (dX rfl (cX (Ht rfl))) (Y.D_step (Ei:=[(7,_)]) rfl rfl (bQ (bJ rfl rfl) bX) rfl rfl (by kernel_rfl) (dX rfl (cX (Ht rfl))) (Y.D_step (Ei:=[(16,_)]) rfl rfl (bQ (bJ rfl rfl) bX) rfl rfl (by kernel_rfl) (dX rfl (cX (Ht rfl))) ?_)))))))
    refine Y.D_step (Ei:=[(152,_),(153,_)]) rfl rfl (bQ (bZ 2 rfl rfl) (bQ (bZ 3 rfl rfl) bX)) rfl rfl (by kernel_rfl) (dX rfl (fY U_36 Z_35 (Ht rfl) (Ht rfl) rfl zo (by rw [Nat.mul_one,Nat.zero_add]))) ?_
    refine Y.D_step (Ei:=[(154,_)]) rfl rfl (bQ (bZ 4 rfl rfl) bX) rfl rfl (by kernel_rfl) (dX rfl (cF A_35 Z_35 (Ht rfl) (j:=0) rfl zo)) (Y.D_step (Ei:=[(6,_)]) rfl rfl (bQ (bJ rfl rfl) bX) rfl rfl (by kernel_rfl) (dX rfl (cX (Ht rfl))) (Y.D_step (Ei:=[(155,_),(156,_)]) rfl rfl (bQ (bZ 5 rfl rfl) (bQ (bZ 6 rfl rfl) bX)) rfl rfl (by kernel_rfl) (dX rfl (dF U_35 Z_131 (Ht rfl) (Ht rfl) rfl (j:=0) rfl zo zo zo)) ?_))
    refine Y.D_step (Ei:=[(157,_)]) rfl rfl (bQ (bZ 7 rfl rfl) bX) rfl rfl (by kernel_rfl) (dX rfl (g0 A_131 Z_131 (Ht rfl) (j:=0) rfl zo zo zo)) (Y.D_step (Ei:=[(7,_)]) rfl rfl (bQ (bJ rfl rfl) bX) rfl rfl (by kernel_rfl) (dX rfl (cX (Ht rfl))) (Y.D_step (Ei:=[(16,_)]) rfl rfl (bQ (bJ rfl rfl) bX) rfl rfl (by kernel_rfl) (dX rfl (cX (Ht rfl))) (Y.D_step (Ei:=[(159,_),(160,_)]) rfl rfl (bQ (bZ 9 rfl rfl) (bQ (bZ 10 rfl rfl) bX)) rfl rfl (by kernel_rfl) (dX rfl (fY U_36 Z_35 (Ht rfl) (Ht rfl) rfl zo (by rw [Nat.mul_one,Nat.zero_add]))) ?_)))
    refine Y.D_step (Ei:=[(161,_)]) rfl rfl (bQ (bZ 11 rfl rfl) bX) rfl rfl (by kernel_rfl) (dX rfl (cF A_35 Z_35 (Ht rfl) (j:=0) rfl zo)) (Y.D_step (Ei:=[(16,_)]) rfl rfl (bQ (bJ rfl rfl) bX) rfl rfl (by kernel_rfl) (dX rfl (cX (Ht rfl))) (Y.D_step (Ei:=[(162,_),(163,_)]) rfl rfl (bQ (bZ 12 rfl rfl) (bQ (bZ 13 rfl rfl) bX)) rfl rfl (by kernel_rfl) (dX rfl (dF U_35 Z_131 (Ht rfl) (Ht rfl) rfl (j:=0) rfl zo zo zo)) ?_))
    refine Y.D_step (Ei:=[(164,_)]) rfl rfl (bQ (bZ 14 rfl rfl) bX) rfl rfl (by kernel_rfl) (dX rfl (g0 A_131 Z_131 (Ht rfl) (j:=0) rfl zo zo zo)) (Y.D_step (Ei:=[(158,_),(165,_)]) rfl rfl (bQ (bZ 8 rfl rfl) (bQ (bZ 15 rfl rfl) bX)) rfl rfl (by kernel_rfl) (dX rfl (cZ Tryz.call144 (wb (x:=gm A j c) (y:=gm A j j) (L:=b5 L c) (M:=b5 L c) zo) ⟨(Ht rfl),(Ht rfl),trivial⟩)) (Y.D_step (Ei:=[(166,_)]) rfl rfl (bQ (bZ 16 rfl rfl) bX) rfl rfl (by kernel_rfl) (dX rfl (cX (Ht rfl))) ?_))
    refine Y.D_step (Ei:=[(149,_)]) rfl rfl (bQ (bZ 17 rfl rfl) bX) rfl rfl (by kernel_rfl) (dX rfl (dK (Ht rfl) rfl)) (bY (Ei:=[(149,_)]) rfl rfl (bQ (bZ 17 rfl rfl) bX) rfl rfl (dX rfl (dK (Ht rfl) rfl)) (Y.D_step (Ei:=[(150,_),(151,_)]) rfl rfl (bQ (bZ 0 rfl rfl) (bQ (bZ 1 rfl rfl) bX)) rfl rfl (by kernel_rfl) (dX rfl (b6 U_35 Z_131 (Ht rfl) (Ht rfl) rfl (i:=1) rfl (by rw [bg]; omega) rfl)) ?_))
    refine Y.D_putI (Ei:=[(169,_),(167,_)]) 1 rfl rfl rfl (bQ (bZ 20 rfl rfl) (bQ (bZ 18 rfl rfl) bX)) (.head _) rfl (sF Z_131 (Ht rfl) (Ht rfl) (El.ag rfl) (i:=0) rfl rfl (by rw [bg]; omega)) ?_
    refine Y.D_done au rfl (by kernel_rfl) rfl (by simp [Y.okP]) rfl rfl (bU (bU (bU (bU (bU (bU (bU (bU (bU (bU (bU (bU (bU (bU (bU (bU (bU (bU (bU (bU (bU (Y.F_putI (Y.F_nil ?_)))))))))))))))))))))))
    refine eX (as (cY (rm rfl (ro rfl (dV (Ht rfl) (cJ 1) z6) (ra rfl (eX (fU (j + 1) hq zo (zS rfl) (aU (fun _ _ _ h=>h) (aU (aa (dn (f:=(fun j=>QT (gm A j c / gm A j j))))) aY)))))))))
   ·have hjc : j = c := by simp only [decide_eq_false_iff_not] at hq; omega
    subst hjc
    rw [di]
    refine gV rfl (gJ (i:=1) (tt:=15) rfl rfl bB (ts (rm rfl (ra rfl (ro rfl (cQ (cJ 0)) (eX (aE rfl (fX (eU rfl) ?_) (fX (eU rfl) ?_))))))))
    ·exact (eR (Dz hA))
    ·exact (am (Em hA).symm)
end
section
open Go Go.RowKit
abbrev pA (ps:List (Nat × Nat)) (k:Nat):Nat:=(ps.getD k (0,0)).1
abbrev pB (ps:List (Nat × Nat)) (k:Nat):Nat:=(ps.getD k (0,0)).2
def jh (n : Nat) (ps : List (Nat × Nat)) : Nat → List Int
 | 0=>tab n fun _=>-1
 | k + 1=>((jh n ps k).set (pA ps k) (pB ps k:Int)).set (pB ps k) (pA ps k:Int)
abbrev tv (to:List Int) (i:Nat):Int:=to.getD i 0
theorem jM (n : Nat) (ps : List (Nat × Nat)) : ∀ k, (jh n ps k).length = n
 | 0=>a9 _ _
 | k + 1=>by rw [jh,List.length_set,List.length_set,jM n ps k]
theorem uZ {n : Nat} {ps : List (Nat × Nat)} : ∀ {k : Nat}, (∀ j, j < k → pA ps j < n ∧ pB ps j < n) → ∀ x, x ∈ jh n ps k → -1 ≤ x ∧ x < n
 | 0,_,x,hx=>by obtain ⟨i,_,rfl⟩:=dz.1 hx; omega
 | k + 1, h, x, hx => by
  have hk:=h k (Nat.lt_succ_self k)
  rcases List.mem_or_eq_of_mem_set hx with h1 | h1
  ·rcases List.mem_or_eq_of_mem_set h1 with h2 | h2
   ·exact uZ (fun j hj=>h j zo) x h2
   ·rw [h2]; omega
  ·rw [h1]; omega
theorem DS {to:List Int} {i:Nat} (h:i < to.length):tv to i ∈ to:=by
 have e:tv to i = to[i]:=by simp [tv,List.getD,h]
 rw [e]; exact List.getElem_mem h
def ll (to : List Int) : Nat → List Nat
 | 0=>[]
 | k + 1=>ll to k ++ (if tv to k < 0 then [k] else [])
theorem yM {to : List Int} : ∀ {k x : Nat}, x ∈ ll to k → x < k
 | 0,x,h=>by cases h
 | k + 1, x, h => by
  rcases List.mem_append.1 h with h1 | h1
  ·have:=yM h1; omega
  ·split at h1
   ·have:=List.mem_singleton.1 h1; omega
   ·cases h1
theorem rj (to : List Int) : ∀ k, (ll to k).length ≤ k
 | 0=>Nat.le_refl _
 | k + 1 => by
  have:=rj to k
  simp only [ll,List.length_append]
  split
  ·simp; omega
  ·simp; omega
def nx (S : List (List Qi)) (to : List Int) (n i : Nat) : Nat → List Qi
 | 0=>ga n i
 | j + 1=>if tv to j < 0 then nx S to n i j else (nx S to n i j).set (tv to j).toNat (gv (nx S to n i j) (tv to j).toNat - gm S i j)
theorem qh (n i:Nat):(ga n i).length = n:=by rw [ga,List.length_set,a9]
theorem mB (S : List (List Qi)) (to : List Int) (n i : Nat) : ∀ j, (nx S to n i j).length = n
 | 0=>qh n i
 | j + 1 => by
  simp only [nx]
  split
  ·exact mB S to n i j
  ·rw [List.length_set,mB S to n i j]
theorem qT {S : List (List Qi)} {to : List Int} {n i L : Nat} (h : aL S L) (hL : 1 ≤ L) : ∀ j, bk (nx S to n i j) (1 + j * (L + 1))
 | 0=>qx zo
 | j + 1 => by
  have ih:=qT (to:=to) (n:=n) (i:=i) h hL j
  have e:1 + (j + 1) * (L + 1) = 1 + j * (L + 1) + L + 1:=by rw [Nat.add_mul]; omega
  simp only [nx]
  split
  ·exact ih.le zo
  ·intro x hx
   rcases List.mem_or_eq_of_mem_set hx with h1 | h1
   ·exact (ih x h1).le zo
   ·rw [h1, e]
    haveI f1:=ih.get zo (tv to j).toNat
    haveI f2:=h.get hL i j
    infer_instance
def nh (S:List (List Qi)) (to:List Int) (n:Nat):List (List Qi):=tab n fun i=>nx S to n i n
theorem o8 (S:List (List Qi)) (to:List Int) (n:Nat):bE (nh S to n) n n:=⟨a9 _ _,fun r hr=>by obtain ⟨i,_,rfl⟩:=dz.1 hr; exact mB S to n i n⟩
theorem Cy {S:List (List Qi)} {to:List Int} {n L:Nat} (h:aL S L) (hL:1 ≤ L):aL (nh S to n) (1 + n * (L + 1)):=fun r hr=>by obtain ⟨i,_,rfl⟩:=dz.1 hr; exact qT h hL n
def r7 (S:List (List Qi)) (n l:Nat):List Qi:=tab n fun i=>gm S i l
theorem BJ {S:List (List Qi)} {n l L:Nat} (h:aL S L) (hL:1 ≤ L):bk (r7 S n l) L:=bk.tab fun i _=>h.get hL i l
def lj (val:Nat → Nat → Qi) (n m k i:Nat):List (List Qi):=tab n fun r=>tab m fun j=>if j < k ∨ j = k ∧ r < i then val r j else Qi.zero
theorem kh (val:Nat → Nat → Qi) (n m k i:Nat):bE (lj val n m k i) n m:=bE.tab
theorem xp (val:Nat → Nat → Qi) (n m:Nat):nF n m = lj val n m 0 0:=bf fun r _=>bf fun j _=>by rw [if_neg zo]
theorem zN (val : Nat → Nat → Qi) (n m k : Nat) : lj val n m k n = lj val n m (k + 1) 0 := bf fun r hr => bf fun j _ => by
 by_cases h:j < k ∨ j = k ∧ r < n
 ·rw [if_pos h,if_pos zo]
 ·rw [if_neg h,if_neg zo]
theorem Ad (val:Nat → Nat → Qi) (n m:Nat):lj val n m m 0 = tab n fun r=>tab m fun j=>val r j:=bf fun r _=>bf fun j hj=>by rw [if_pos zo]
theorem x6 {val:Nat → Nat → Qi} {n m k i:Nat} (hi:i < n) (hk:k < m):(lj val n m k i).set i (((lj val n m k i).getD i []).set k (val i k)) = lj val n m k (i + 1):=by
 apply List.ext_getElem?
 intro r
 by_cases hr:r < n
 ·by_cases e : r = i
  ·subst e
   rw [List.getElem?_set_self (by rw [(kh _ _ _ _ _).1]; exact hr),lj,lj,aM (f:=fun r=>tab m fun j=>if j < k ∨ j = k ∧ r < _ + 1 then val r j else Qi.zero) hr]
   congr 1
   have:(tab n fun x=>tab m fun j=>if j < k ∨ j = k ∧ x < r then val x j else Qi.zero).getD r [] = tab m fun j=>if j < k ∨ j = k ∧ r < r then val r j else Qi.zero:=jv hr
   rw [this]
   apply List.ext_getElem?
   intro j
   by_cases hj:j < m
   ·by_cases e2 : j = k
    ·subst e2
     rw [List.getElem?_set_self (by rw [a9]; exact hj),aM hj,if_pos zo]
    ·rw [List.getElem?_set_ne (Ne.symm e2), aM hj, aM hj]
     by_cases e3:j < k
     ·rw [if_pos (.inl e3),if_pos (.inl e3)]
     ·rw [if_neg zo,if_neg zo]
   ·rw [List.getElem?_eq_none (by rw [List.length_set,a9]; omega),List.getElem?_eq_none (by rw [a9]; omega)]
  ·rw [List.getElem?_set_ne (Ne.symm e), lj, lj, aM hr, aM hr]
   congr 1
   refine bf fun j _=>?_
   by_cases e3:j < k ∨ j = k ∧ r < i
   ·rw [if_pos e3,if_pos zo]
   ·rw [if_neg e3,if_neg zo]
 ·rw [List.getElem?_eq_none (by rw [List.length_set,(kh _ _ _ _ _).1]; omega),List.getElem?_eq_none (by rw [(kh _ _ _ _ _).1]; omega)]
def wE (S:List (List Qi)) (to:List Int) (n:Nat) (lf:List Nat) (x y:Nat):Qi:=gv (wJ (nh S to n) (r7 S n (lf.getD y 0)) n) (lf.getD x 0)
def xE (S:List (List Qi)) (to:List Int) (n:Nat) (lf:List Nat):Int:=ed (fun y=>qq (nh S to n) (r7 S n (lf.getD y 0)) n) lf.length
end
section
open Go Go.RowKit
theorem ou {L M : Nat} (h : L ≤ M) : ∀ c, b5 L c ≤ b5 M c
 | 0=>h
 | c + 1=>by have:=ou h c; simp only [b5]; omega
theorem Cl {M:List (List Qi)} {b:List Qi} {n:Nat} (h:bE M n n) (he:qq M b n = 0):(wJ M b n).length = n:=by
 cases hX:ws M b n with
 | none=>simp only [qq,hX,Option.isSome_none] at he; exact absurd he (by decide)
 | some X=>simp only [wJ,hX,Option.getD_some]; exact (kr h hX).1
theorem mQ {l:List Qi} {t k:Nat} {v:Qi} (ht:t < l.length):gv (l.set t v) k = if k = t then v else gv l k:=by
 simp only [gv,List.getD]
 by_cases e:k = t
 ·subst e; rw [if_pos rfl,List.getElem?_set_self ht]; rfl
 ·rw [if_neg e,List.getElem?_set_ne (Ne.symm e)]
theorem rV {l:List Qi} {n t:Nat} {v:Qi} {x:Nat → Qi} (hl:l.length = n) (ht:t < n):ah n (fun k=>gv (l.set t v) k * x k) = ah n (fun k=>gv l k * x k) + (v - gv l t) * x t:=by
 have e : ∀ k, k < n → gv (l.set t v) k * x k = gv l k * x k + (if k = t then (v - gv l t) * x t else 0) := fun k hk => by
  rw [mQ zo]
  by_cases c:k = t
  ·subst c; rw [if_pos rfl,if_pos rfl]; grind
  ·rw [if_neg c,if_neg c]; grind
 rw [av e,pt,cf (i:=t) ht (fun k _ hk=>if_neg hk),if_pos rfl]
def Ak (S:List (List Qi)) (to:List Int) (x:Nat → Qi) (i j:Nat):Qi:=if tv to j < 0 then 0 else gm S i j * x (tv to j).toNat
theorem xg {n i:Nat} (hi:i < n) (x:Nat → Qi):ah n (fun k=>gv (ga n i) k * x k) = x i:=by
 rw [ga,rV (a9 _ _) hi,eM (fun k hk=>by rw [g9 hk,q0]; grind),g9 hi,q0,q1]; grind
theorem vC {S : List (List Qi)} {to : List Int} {n i : Nat} (hi : i < n) (hto : ∀ j, j < n → tv to j < n) (x : Nat → Qi) : ∀ J, J ≤ n → ah n (fun k => gv (nx S to n i J) k * x k) = x i - ah J (Ak S to x i)
 | 0,_=>by rw [nx,xg hi]; simp only [ah,q0]; grind
 | J + 1, h => by
  have ih:=vC (S:=S) hi hto x J zo
  have hj:=hto J zo
  by_cases c:tv to J < 0
  ·rw [nx,if_pos c,ih]; simp only [ah,Ak,if_pos c]; grind
  ·rw [nx,if_neg c,rV (mB ..) zo,ih]; simp only [ah,Ak,if_neg c]; grind
theorem BF {S:List (List Qi)} {to:List Int} {n i k:Nat} (hi:i < n):gm (nh S to n) i k = gv (nx S to n i n) k:=by
 show gv ((nh S to n).getD i []) k = _
 rw [nh,jv hi]
theorem r3 {S:List (List Qi)} {to:List Int} {n i:Nat} (hi:i < n) (hto:∀ j,j < n → tv to j < n) (x:Nat → Qi):ah n (fun k=>gm (nh S to n) i k * x k) = x i - ah n (Ak S to x i):=by
 rw [← vC hi hto x n (Nat.le_refl n)]; exact av fun k _=>by rw [BF hi]
theorem DH {S:List (List Qi)} {n l i:Nat} (hi:i < n):gv (r7 S n l) i = gm S i l:=g9 hi
def FY (S:List (List Qi)) (to:List Int) (n:Nat) (x:Nat → Qi):Prop:=∀ i,i < n → x i - ah n (Ak S to x i) = 0
theorem Fj {S : List (List Qi)} {to : List Int} {n : Nat} {lf : List Nat} {u : Nat → Nat → Qi} (hto : ∀ j, j < n → tv to j < n)
  (hu:∀ y,y < lf.length → ∀ i,i < n → u y i - ah n (Ak S to (u y) i) = gm S i (lf.getD y 0)) (hk:∀ x,FY S to n x → ∀ k,k < n → x k = 0) :
  xE S to n lf = 0 ∧ ∀ x y,y < lf.length → lf.getD x 0 < n → wE S to n lf x y = u y (lf.getD x 0):=by
 have hS:=o8 S to n
 have key : ∀ y, y < lf.length → ∃ X, ws (nh S to n) (r7 S n (lf.getD y 0)) n = some X ∧ ∀ k, k < n → gv X k = u y k := fun y hy => by
  cases hX:ws (nh S to n) (r7 S n (lf.getD y 0)) n with
  | none =>
   obtain ⟨z,h1,k,h2,h3⟩:=sX hS hX
   exact absurd (hk z (fun i hi=>by rw [← r3 hi hto]; exact h1 i hi) k h2) h3
  | some X =>
   refine ⟨X,rfl,fun k hk2=>?_⟩
   obtain ⟨_,h2,h3⟩:=kr hS hX
   have h4 := h3 (fun k => gv X k - 1 * u y k) (fun i hi => by
    have e1:=h2 i hi
    rw [DH hi] at e1
    have e2:=hu y hy i hi
    rw [← r3 hi hto] at e2
    have e3:ah n (fun k=>gm (nh S to n) i k * (gv X k - 1 * u y k)) = ah n (fun k=>gm (nh S to n) i k * gv X k - 1 * (gm (nh S to n) i k * u y k)):=av fun k _=>by grind
    rw [e3,jw,e1,e2]; grind) k hk2
   grind
 refine ⟨cB fun y hy=>?_,fun x y hy hx=>?_⟩
 ·obtain ⟨X, hX, _⟩ := key y hy
  simp only [qq,hX,Option.isSome_some,if_true]
 ·obtain ⟨X, hX, h⟩ := key y hy
  simp only [wE,wJ,hX,Option.getD_some]
  exact h _ hx
theorem Dy {S:List (List Qi)} {to:List Int} {n:Nat} {lf:List Nat} {x:Nat → Qi} (hto:∀ j,j < n → tv to j < n) (hl:1 ≤ lf.length) (hx:FY S to n x) {k:Nat} (hk:k < n) (hxk:x k ≠ 0):xE S to n lf = 6:=by
 have hS:=o8 S to n
 have h0 : qq (nh S to n) (r7 S n (lf.getD 0 0)) n = 6 := by
  cases hX:ws (nh S to n) (r7 S n (lf.getD 0 0)) n with
  | none=>simp only [qq,hX,Option.isSome_none]; rfl
  | some X =>
   obtain ⟨_,_,h3⟩:=kr hS hX
   exact absurd (h3 x (fun i hi=>by rw [r3 hi hto]; exact hx i hi) k hk) hxk
 have:=fw (f:=fun y=>qq (nh S to n) (r7 S n (lf.getD y 0)) n) (k:=0) (fun i hi=>by omega) (by show qq _ (r7 S n (lf.getD 0 0)) n ≠ 0; rw [h0]; decide) (n:=lf.length) zo
 rw [xE,this]; exact h0
end
section
open Go Go.RowKit
abbrev G6 (q:Nat × Nat):Ty:=bO [NT .i64 q.1,NT .i64 q.2]
abbrev z9 (ps:List (Nat × Nat)):Ty:=eN 2 (ps.map G6)
abbrev ZT (x:Int):Ty:=ap .i64 x
theorem F3 {z:List Qi} {m:List (List Qi)} {e:Int} (h:e ≠ 0):∀ v V,(ik [] []).p v V → (ik (bq e z) (bq e m)).p v V:=by rw [bq,bq,if_neg h,if_neg h]; exact fun _ _ k=>k
theorem DD {z:List Qi} {m:List (List Qi)} {e:Int} {Ts:List Ty} {T:Ty} (h:e = 0) (hZ:Ts = z.map QT) (hT:T = QM m):∀ v V,(bO [eN 5 Ts,T]).p v V → (ik (bq e z) (bq e m)).p v V:=by rw [bq,bq,if_pos h,if_pos h,hZ,hT]; exact fun _ _ k=>k
theorem t8 (l:List Int) (k:Nat) (z:Int):(l.set k z).map ZT = (l.map ZT).set k (ZT z):=by rw [List.map_set]
theorem x8 {z:List Qi} {S:List (List Qi)} {n L:Nat} {ps:List (Nat × Nat)} (hS:bE S n n) (hz:z.length = n) (hf:aL S L) (hL:1 ≤ L) (hLb:L ≤ 1000) (h1:1 ≤ n) (hn:n ≤ 9) (hps:∀ j,j < ps.length → pA ps j < n ∧ pB ps j < n) (hpl:ps.length ≤ 9):az Tryz.prog 198 [ik z S,z9 ps] (cr [ik (bq (xE S (jh n ps ps.length) n (ll (jh n ps ps.length) n)) ((ll (jh n ps ps.length) n).map fun l=>gv z l)) (bq (xE S (jh n ps ps.length) n (ll (jh n ps ps.length) n)) (tab (ll (jh n ps ps.length) n).length fun x=>tab (ll (jh n ps ps.length) n).length fun y=>wE S (jh n ps ps.length) n (ll (jh n ps ps.length) n) x y)),ab (decide (xE S (jh n ps ps.length) n (ll (jh n ps ps.length) n) = 0))]):=by
 have hSl:=hS.1
 refine az.intro Tryz.func198 rfl Tryz.ntmps198 rfl (fun cx=>(ts (rn rfl (fG (Ht rfl)) fun B2=>(rn rfl (eW (Ts:=[Is (.slice none 0 0),Is (.slice none 0 0)]) O_38 rfl (fun V=>aW zd (aW zd (aG)))) fun B4=>(ro rfl (cQ cV) (eX (ts (ro rfl (eZ f7 (Ht rfl) rfl) (ro rfl (eY A_35 Z_35 (Ht rfl) (i:=0) rfl rfl) (ro rfl (dG U_35 (Ht rfl) (by rw [List.length_map,hz])) ?_))))))))))
 refine ra rfl (eX (ts (rm rfl (rn rfl (dE (T:=ZT 0) (i:=Tryz.t3) jN jT rfl rfl (Ht rfl) rfl (fun V=>rfl) El.one (by show 8 * _ ≤ _; omega) zo) fun B26=>(ra rfl (eX (cK (ts (ro rfl (cQ (cJ 0)) (eX (eG ?_)))))))))))
 refine aF (fun (i : Nat) => i ≤ n) (fun (i : Nat) => n - i) (fun (i : Nat) => [(1, z9 ps), (2, aI B2 0), (4, aI B4 0), (6, NT .i64 n), (7, Is B26), (8, NT .i64 i)]) (fun (i : Nat) => [box B2 38 [iv z, QM S], box B4 38 [Is (.slice none 0 0), Is (.slice none 0 0)], aB 3 1 B26 (dA (fun _ => ZT (-1)) (ZT 0) n i)]) 0 (Nat.zero_le _)
  (zS rfl) (aU (a8 rfl) (aU (a8 rfl) (aU (aa (by rw [← cz]; exact my _ _)) aY))) (fun i hi=>?_)
 refine cK (ts (rm rfl (rm rfl (ro rfl (gX (Ht rfl) (Ht rfl)) (eX (dQ (Ht rfl) (fun hd=>?_) (fun hd=>?_)))))))
 ·have hdn : i < n := by simp only [decide_eq_true_eq] at hd; omega
  refine cU (cK (eG (cY (rm rfl (rm rfl (ro rfl (b6 U_72 Z_3 (Ht rfl) (Ht rfl) rfl (i:=2) rfl (by rw [bg]; omega) rfl) ?_))))))
  refine dB Z_3 (Ht rfl) cV El.one (i:=2) rfl rfl (by rw [bg]; omega) rfl ?_
  refine eX (as (cY (rm rfl (ro rfl (dV (Ht rfl) (cJ 1) z6) (ra rfl (eX (fU (i + 1) hdn zo (zS rfl) (aU (a8 rfl) (aU (a8 rfl) (aU (aa (dn (f:=fun _=>ZT (-1)))) aY))))))))))
 ·have hin : i = n := by simp only [decide_eq_false_iff_not] at hd; omega
  subst hin
  rw [di]
  refine gV rfl (cK (ts (ro rfl (cQ (cJ 0)) (eX (eG ?_)))))
  refine aF (fun (k : Nat) => k ≤ ps.length) (fun (k : Nat) => ps.length - k) (fun (k : Nat) => [(1, z9 ps), (2, aI B2 0), (4, aI B4 0), (6, NT .i64 i), (7, Is B26), (9, NT .i64 k)]) (fun (k : Nat) => [box B2 38 [iv z, QM S], box B4 38 [Is (.slice none 0 0), Is (.slice none 0 0)], aB 3 1 B26 ((jh i ps k).map ZT)]) 0 (Nat.zero_le _)
   (zS rfl) (aU (a8 rfl) (aU (a8 rfl) (aU (aa (by rw [jh,jR])) aY))) (fun k hk=>?_)
  refine cK (ts (rm rfl (rm rfl (ro rfl (dG U_26 (Ht rfl) a7) (ro rfl (gX (Ht rfl) (Ht rfl)) (eX (dQ (Ht rfl) (fun hd2=>?_) (fun hd2=>?_))))))))
  ·have hkn : k < ps.length := by simp only [decide_eq_true_eq] at hd2; omega
   obtain ⟨hpa,hpb⟩:=hps k hkn
   refine cU (cK (eG (cK (fZ (m:=11) (dp 7 rfl (cX (Ht rfl)) (dp 1 rfl (cX (Ht rfl)) (dp 9 rfl (cX (Ht rfl)) (b8 42 1 43 2 rfl (dZ U_26 Z_71 (Ht rfl) (Ht rfl) rfl (dY (dU (d:=(0,0)) hkn))) (dq 44 3 rfl (eT U_71 Z_3 (Ht rfl) cV rfl (by decide) rfl) (dq 45 4 rfl (dJ A_3 Z_3 (Ht rfl)) (dp 1 rfl (cX (Ht rfl)) (dp 9 rfl (cX (Ht rfl)) (b8 47 6 48 7 rfl (dZ U_26 Z_71 (Ht rfl) (Ht rfl) rfl (dY (dU (d:=(0,0)) hkn))) ?_)))))))))))))
   refine dq 49 8 rfl (eT U_71 Z_3 (Ht rfl) cV rfl (by decide) rfl) (dq 50 9 rfl (dJ A_3 Z_3 (Ht rfl)) (fV au rfl (by kernel_rfl) (zF (zF (aJ (aJ (aJ (aV (ro rfl (b6 U_72 Z_3 (Ht rfl) (Ht rfl) rfl (i:=2) rfl (by rw [List.length_map,jM]; omega) rfl) ?_)))))))))
   refine dB Z_3 (Ht rfl) (Ht rfl) El.one (i:=2) rfl rfl (by rw [List.length_map,jM]; omega) rfl ?_
   refine eX (fZ (m:=11) (dp 7 rfl (cX (Ht rfl)) (dp 1 rfl (cX (Ht rfl)) (dp 9 rfl (cX (Ht rfl)) (b8 54 1 55 2 rfl (dZ U_26 Z_71 (Ht rfl) (Ht rfl) rfl (dY (dU (d:=(0,0)) hkn))) (dq 56 3 rfl (eT U_71 Z_3 (Ht rfl) cV rfl (by decide) rfl) (dq 57 4 rfl (dJ A_3 Z_3 (Ht rfl)) (dp 1 rfl (cX (Ht rfl)) (dp 9 rfl (cX (Ht rfl)) (b8 59 6 60 7 rfl (dZ U_26 Z_71 (Ht rfl) (Ht rfl) rfl (dY (dU (d:=(0,0)) hkn))) (dq 61 8 rfl (eT U_71 Z_3 (Ht rfl) cV rfl (by decide) rfl) ?_)))))))))))
   refine dq 62 9 rfl (dJ A_3 Z_3 (Ht rfl)) (fV au rfl (by kernel_rfl) (zF (zF (aJ (aJ (aJ (aV (ro rfl (b6 U_72 Z_3 (Ht rfl) (Ht rfl) rfl (i:=2) rfl (by rw [List.length_set,List.length_map,jM]; omega) rfl) ?_))))))))
   refine dB Z_3 (Ht rfl) (Ht rfl) El.one (i:=2) rfl rfl (by rw [List.length_set,List.length_map,jM]; omega) rfl ?_
   refine eX (as (cY (rm rfl (ro rfl (dV (Ht rfl) (cJ 1) z6) (ra rfl (eX (fU (k + 1) hkn zo (zS rfl) (aU (a8 rfl) (aU (a8 rfl) (aU (aa (by rw [jh,← t8,← t8])) aY))))))))))
  ·have hkp : k = ps.length := by simp only [decide_eq_false_iff_not] at hd2; omega
   subst hkp
   have htl:=jM i ps ps.length
   have htm:=uZ hps
   obtain ⟨to,hto⟩:∃ to,to = jh i ps ps.length:=⟨_,rfl⟩
   rw [← hto] at htl htm ⊢
   refine gV rfl (ts (rn rfl (gc U_72 Z_3 O_3) fun B65=>(ra rfl (eX (cK (ts (ro rfl (cQ (cJ 0)) (eX (eG ?_)))))))))
   refine bA (fun (q : Nat) (vL : Value) => q ≤ i) (fun (q : Nat) (vL : Value) => i - q) (fun (q : Nat) (vL : Value) => [(1, z9 ps), (2, aI B2 0), (4, aI B4 0), (6, NT .i64 i), (7, Is B26), (10, Is vL), (11, NT .i64 q)]) (fun (q : Nat) (vL : Value) => [box B2 38 [iv z, QM S], box B4 38 [Is (.slice none 0 0), Is (.slice none 0 0)], aB 3 1 B26 (to.map ZT), aB 3 1 vL ((ll to q).map (NT .i64))]) 0 _ (Nat.zero_le _)
    (zS rfl) (aU (a8 rfl) (aU (a8 rfl) (aU (fun _ _ _ h=>h) (aU (aa rfl) aY)))) (fun q vL hq=>?_)
   refine cK (ts (rm rfl (rm rfl (ro rfl (gX (Ht rfl) (Ht rfl)) (eX (dQ (Ht rfl) (fun hd3=>?_) (fun hd3=>?_)))))))
   ·have hqn : q < i := by simp only [decide_eq_true_eq] at hd3; omega
    have hll:=rj to q
    refine cU (cK (eG (ts (rm rfl (rm rfl (ro rfl (b6 U_72 Z_3 (Ht rfl) (Ht rfl) rfl (i:=2) rfl (by rw [List.length_map]; omega) rfl) ?_))))))
    refine ro rfl (gD A_3 Z_3 (Ht rfl) (i:=2) rfl rfl (dY (dU (d:=0) zo))) (ro rfl (iG (Ht rfl) cV) (eX (dQ (Ht rfl) (fun hn=>?_) (fun hn=>?_))))
    ·have hneg : tv to q < 0 := by simpa using hn
     have hnx:ll to (q + 1) = ll to q ++ [q]:=by rw [ll,if_pos hneg]
     refine cY (rm rfl (rm rfl (ro rfl (aN (xs:=[.tmp 77]) U_72 Z_3 O_3 (cW (Ht rfl) cG) rfl rfl rfl) (d5 (inf:=Tryz.t3) jN jT rfl rfl rfl (Ht rfl) (Ht rfl) (i:=3) rfl (by simp) (fun T hT=>by simp at hT; subst hT; exact El.one) (by show _ * 8 ≤ _; simp only [List.length_map,List.length_cons,List.length_nil]; omega) (by simp only [List.length_map,List.length_cons,List.length_nil]; omega) rfl (fun v2=>?_)))))
     refine ra rfl (eX (as (cY (rm rfl (ro rfl (dV (Ht rfl) (cJ 1) z6) (ra rfl (eX (fU (q + 1,v2) hqn (by dsimp only; omega) (zS rfl) (aU (a8 rfl) (aU (a8 rfl) (aU (fun _ _ _ h=>h) (aU (aa (by rw [hnx,List.map_append]; rfl)) aY))))))))))))
    ·have hneg : ¬ tv to q < 0 := by simpa using hn
     have hnx:ll to (q + 1) = ll to q:=by rw [ll,if_neg hneg,List.append_nil]
     refine cU (as (cY (rm rfl (ro rfl (dV (Ht rfl) (cJ 1) z6) (ra rfl (eX (fU (q + 1,vL) hqn (by dsimp only; omega) (zS rfl) (aU (a8 rfl) (aU (a8 rfl) (aU (fun _ _ _ h=>h) (aU (aa (by rw [hnx])) aY)))))))))))
   ·have hqi : q = i := by simp only [decide_eq_false_iff_not] at hd3; omega
    subst hqi
    refine gV rfl (gJ (i:=2) (tt:=7) rfl rfl bB (gJ (i:=3) (tt:=10) rfl rfl bB (aO [0,1] rfl (by decide) (ts (rm rfl (ec Tryz.call199 (za (n:=q) zo) ⟨(Ht rfl),trivial⟩ rfl (fun B81 _=>(ra rfl (eX (cK (ts (ro rfl (cQ (cJ 0)) (eX (eG ?_))))))))))))))
    refine aF (fun (r : Nat) => r ≤ q) (fun (r : Nat) => q - r) (fun (r : Nat) => [(2, aI B2 0), (4, aI B4 0), (6, NT .i64 q), (7, eN 1 (to.map ZT)), (10, bv (ll to q)), (12, Is (.slice (some ⟨B81, 0, none⟩) q q)), (13, NT .i64 r)]) (fun (r : Nat) => [box B2 38 [iv z, QM S], box B4 38 [Is (.slice none 0 0), Is (.slice none 0 0)], eC bL B81 35 131 5 (aH QT (eS (fun r => nx S to q r q) (ga q) q r))]) 0 (Nat.zero_le _)
     (zS rfl) (aU (a8 rfl) (aU (a8 rfl) (aU (aC (by rw [← eo]; rfl)) aY))) (fun r hr=>?_)
    refine cK (ts (rm rfl (rm rfl (ro rfl (gX (Ht rfl) (Ht rfl)) (eX (dQ (Ht rfl) (fun hd4=>?_) (fun hd4=>?_)))))))
    ·have hrn : r < q := by simp only [decide_eq_true_eq] at hd4; omega
     have hsr:=hS.row hrn
     refine eg 2 (r) rfl (iC hrn) (fun v0 hv0=>(cU (cK (eG (ts (ro rfl (cQ (cJ 0)) (eX (eG ?_))))))))
     refine aF (fun (j : Nat) => j ≤ q) (fun (j : Nat) => q - j) (fun (j : Nat) => [(2, aI B2 0), (4, aI B4 0), (6, NT .i64 q), (7, eN 1 (to.map ZT)), (10, bv (ll to q)), (12, Is (.slice (some ⟨B81, 0, none⟩) q q)), (13, NT .i64 r), (14, NT .i64 j)]) (fun (j : Nat) => [box B2 38 [iv z, QM S], box B4 38 [Is (.slice none 0 0), Is (.slice none 0 0)], iR bL B81 35 131 5 (aH QT (eS (fun r => nx S to q r q) (ga q) q r)) r v0, aB 131 5 v0 ((nx S to q r j).map QT)]) 0 (Nat.zero_le _)
      (zS rfl) (aU (a8 rfl) (aU (a8 rfl) (aU (fun _ _ _ h=>h) (aU (aa rfl) aY)))) (fun j hj=>?_)
     refine cK (ts (rm rfl (rm rfl (ro rfl (gX (Ht rfl) (Ht rfl)) (eX (dQ (Ht rfl) (fun he=>?_) (fun he=>?_)))))))
     ·have hjn : j < q := by simp only [decide_eq_true_eq] at he; omega
      have hrl:=mB S to q r j
      have htj:=htm _ (DS (i:=j) zo)
      refine cU (cK (eG (ts (rm rfl (rm rfl (ro rfl (dZ U_72 Z_3 (Ht rfl) (Ht rfl) rfl (dY (dU (d:=0) zo))) (ro rfl (dJ A_3 Z_3 (Ht rfl)) (ro rfl (eB (Ht rfl) cV) (eX (dQ (Ht rfl) (fun hg=>?_) (fun hg=>?_)))))))))))
      ·have hpos : ¬ tv to j < 0 := by simp at hg; simp; omega
       have hqi:tv to j = ((tv to j).toNat:Int):=by omega
       have hnx:nx S to q r (j + 1) = (nx S to q r j).set (tv to j).toNat (gv (nx S to q r j) (tv to j).toNat - gm S r j):=by rw [nx,if_neg hpos]
       haveI f1:ao (gv (nx S to q r j) (tv to j).toNat) (1 + j * (L + 1)):=(qT hf hL j).get zo _
       haveI f2:ao (gm S r j) L:=hf.get hL r j
       have hjl:j * (L + 1) ≤ 9 * (L + 1):=Nat.mul_le_mul_right _ zo
       refine fZ (m:=27) (dp 12 rfl (cX (Ht rfl)) (dp 13 rfl (cX (Ht rfl)) (b8 97 0 98 1 rfl (fY U_36 Z_35 (Ht rfl) (Ht rfl) rfl zo (by rw [Nat.mul_one,Nat.zero_add])) ?_)))
       refine dq 99 2 rfl (d4 A_35 Z_35 (Ht rfl) (j:=2) rfl) (dp 7 rfl (cX (Ht rfl)) (dp 14 rfl (cX (Ht rfl)) (b8 101 4 102 5 rfl (dZ U_72 Z_3 (Ht rfl) (Ht rfl) rfl (dY (dU (d:=0) zo))) (dq 103 6 rfl (dJ A_3 Z_3 (Ht rfl)) (dp 12 rfl (cX (Ht rfl)) (dp 13 rfl (cX (Ht rfl)) (b8 105 8 106 9 rfl (fY U_36 Z_35 (Ht rfl) (Ht rfl) rfl zo (by rw [Nat.mul_one,Nat.zero_add])) ?_)))))))
       refine dq 107 10 rfl (d4 A_35 Z_35 (Ht rfl) (j:=2) rfl) (dp 7 rfl (cX (Ht rfl)) (dp 14 rfl (cX (Ht rfl)) (b8 109 12 110 13 rfl (dZ U_72 Z_3 (Ht rfl) (Ht rfl) rfl (dY (dU (d:=0) zo))) (dq 111 14 rfl (dJ A_3 Z_3 (Ht rfl)) (b8 108 11 112 15 rfl (b6 U_35 Z_131 (Ht rfl) (Ht rfl) hqi (i:=3) rfl (by rw [List.length_map,hrl]; omega) rfl) ?_)))))
       refine dq 113 16 rfl (gD A_131 Z_131 (Ht rfl) (i:=3) rfl rfl (dY (dU (d:=Qi.zero) zo))) (dp 2 rfl (eZ kX (Ht rfl) rfl) (dq 115 18 rfl (eY A_36 Z_36 (Ht rfl) (i:=0) rfl rfl) (dp 13 rfl (cX (Ht rfl)) (b8 116 19 117 20 rfl (dZ U_36 Z_35 (Ht rfl) (Ht rfl) rfl (dY (dU (d:=[]) zo))) (dq 118 21 rfl (dJ A_35 Z_35 (Ht rfl)) (dp 14 rfl (cX (Ht rfl)) (b8 119 22 120 23 rfl (dZ U_35 Z_131 (Ht rfl) (Ht rfl) rfl (dY (dU (d:=Qi.zero) zo))) ?_)))))))
       refine dq 121 24 rfl (dJ A_131 Z_131 (Ht rfl)) (b8 114 17 122 25 rfl (cZ Tryz.call147 (tE (x:=gv (nx S to q r j) (tv to j).toNat) (y:=gm S r j) (L:=1 + j * (L + 1)) (M:=L) zo) ⟨(Ht rfl),(Ht rfl),trivial⟩) (fV au rfl (by kernel_rfl) (zF (zF (zF (zF (zF (zF (aJ (aJ (aJ (aV (ro rfl (b6 U_35 Z_131 (Ht rfl) (Ht rfl) hqi (i:=3) rfl (by rw [List.length_map,hrl]; omega) rfl) ?_)))))))))))))
       refine dB Z_131 (Ht rfl) (Ht rfl) (El.ag rfl) (i:=3) rfl rfl (by rw [List.length_map,hrl]; omega) rfl ?_
       refine eX (as (cY (rm rfl (ro rfl (dV (Ht rfl) (cJ 1) z6) (ra rfl (eX (fU (j + 1) hjn zo (zS rfl) (aU (a8 rfl) (aU (a8 rfl) (aU (fun _ _ _ h=>h) (aU (aa (by rw [ce,hnx])) aY)))))))))))
      ·have hneg : tv to j < 0 := by simp at hg; simp; omega
       have hny:nx S to q r (j + 1) = nx S to q r j:=by rw [nx,if_pos hneg]
       refine cU (as (cY (rm rfl (ro rfl (dV (Ht rfl) (cJ 1) z6) (ra rfl (eX (fU (j + 1) hjn zo (zS rfl) (aU (a8 rfl) (aU (a8 rfl) (aU (fun _ _ _ h=>h) (aU (aa (by rw [hny])) aY)))))))))))
     ·have hjq : j = q := by simp only [decide_eq_false_iff_not] at he; omega
      subst hjq
      refine gV rfl (as (bR 2 3 rfl rfl (by decide) (by simp only [aH,List.length_map,dL]; omega) ?_))
      refine cY (rm rfl (ro rfl (dV (Ht rfl) (cJ 1) z6) (ra rfl (eX (aO [0,1,2] rfl (by decide) (fU (r + 1) hrn zo (zS rfl) (aU (a8 rfl) (aU (a8 rfl) (aU (aC (by rw [c9,← fl (f:=fun r=>nx S to j r j)])) aY)))))))))
    ·have hrq : r = q := by simp only [decide_eq_false_iff_not] at hd4; omega
     subst hrq
     rw [fm]
     have hlm:∀ i,i < (ll to r).length → (ll to r).getD i 0 < r:=fun i hi=>yM (by rw [show (ll to r).getD i 0 = (ll to r)[i] by simp [List.getD,hi]]; exact List.getElem_mem hi)
     have hll:=rj to r
     obtain ⟨lf,Fi⟩:∃ lf,lf = ll to r:=⟨_,rfl⟩
     rw [← Fi] at hlm hll ⊢
     have hrL:L ≤ 1 + r * (L + 1):=by have:=Nat.mul_le_mul_right (L + 1) h1; omega
     have hrB:1 + r * (L + 1) ≤ 9010:=by have:=Nat.mul_le_mul hn (show L + 1 ≤ 1001 by omega); omega
     have hgr:6 * b5 (1 + r * (L + 1)) r + 4 ≤ 17592186044415:=Nat.le_trans (Nat.add_le_add_right (Nat.mul_le_mul_left 6 (Nat.le_trans (ou hrB r) (fv 9010 hn))) 4) (by decide)
     refine gV rfl (gJ (i:=2) (tt:=12) rfl rfl (eD (s:=5) (M:=nh S to r) (a9 _ _).symm) (cK (fZ (m:=10) (dp 10 rfl (cX (Ht rfl)) (dq 125 0 rfl (dG U_72 (Ht rfl) a7) (C.D_new (Ei:=[(126,_)]) rfl rfl rfl (bV (bG 1 rfl rfl) bW) (xi (T:=ZQ) (i:=Tryz.t131) jF go rfl rfl (Ht rfl) rfl y3 (El.ag rfl) (by show 88 * _ ≤ _; omega) zo) (dp 10 rfl (cX (Ht rfl)) (dq 128 3 rfl (dG U_72 (Ht rfl) a7) (dp 10 rfl (cX (Ht rfl)) (dq 130 5 rfl (dG U_72 (Ht rfl) a7) ?_))))))))))
     refine C.D_new (Ei:=[(129,_),(131,_)]) rfl rfl rfl (bV (bG 4 rfl rfl) (bV (bG 6 rfl rfl) bW)) (qH Tryz.call129 (oM (n:=lf.length) (m:=lf.length) zo zo) ⟨(Ht rfl),(Ht rfl),trivial⟩) (C.D_dep (fun T U=>bO [T,U]) 2 7 rfl rfl rfl rfl rfl rfl (fun T U hT hU=>by obtain ⟨x,rfl⟩:=hT; obtain ⟨y,rfl⟩:=hU; (try dsimp only); exact dX rfl (p7 (Ht rfl) (Ht rfl))) (C.D_new (Ei:=[]) rfl rfl rfl bW (eW (Ts:=[Is (.slice none 0 0),Is (.slice none 0 0)]) O_38 rfl (fun V=>aW zd (aW zd (aG)))) ?_))
     refine fV au rfl (by kernel_rfl) (aJ (aJ (C.F_new (fun B127=>aJ (aJ (aJ (aJ (C.F_new (fun B132=>C.F_dep rfl rfl (C.F_new (fun B15=>aV (gQ Z_38 (Ht rfl) (Ht rfl) rfl (i:=5) rfl (aK rfl) rfl rfl (eX (cK (ts (ro rfl (cQ (cJ 0)) (eX (eG (aO [0,1,3,4,5] rfl (by decide) ?_)))))))))))))))))))
     refine aF (fun (y : Nat) => y ≤ lf.length ∧ ∀ j, j < y → qq (nh S to r) (r7 S r (lf.getD j 0)) r = 0) (fun (y : Nat) => lf.length - y) (fun (y : Nat) => [(2, aI B2 0), (4, aI B4 0), (6, NT .i64 r), (10, bv lf), (12, QM (nh S to r)), (15, aI B15 0), (16, NT .i64 y)]) (fun (y : Nat) => [box B2 38 [iv z, QM S], box B4 38 [Is (.slice none 0 0), Is (.slice none 0 0)], aB 131 5 (.slice (some ⟨B127, 0, none⟩) lf.length lf.length) (dA (fun y => QT (gv z (lf.getD y 0))) ZQ lf.length y), eC bL B132 35 131 5 (aH QT (lj (wE S to r lf) lf.length lf.length y 0)), box B15 38 [Is (.slice (some ⟨B127, 0, none⟩) lf.length lf.length), Is (.slice (some ⟨B132, 0, none⟩) lf.length lf.length)]]) 0 ⟨Nat.zero_le _, fun j h => by omega⟩
      (zS rfl) (aU (a8 rfl) (aU (a8 rfl) (aU (aa (by rw [← cz]; exact my _ _)) (aU (aC (by rw [nF,← xp]; rfl)) (aU (a8 rfl) aY))))) (fun y ⟨hy,h0⟩=>?_)
     refine cK (ts (rm rfl (rm rfl (ro rfl (dG U_72 (Ht rfl) a7) (ro rfl (gX (Ht rfl) (Ht rfl)) (eX (dQ (Ht rfl) (fun hyc=>?_) (fun hyc=>?_))))))))
     ·have hyn : y < lf.length := by simp only [decide_eq_true_eq] at hyc; omega
      have hly:=hlm y hyn
      refine cU (cK (eG (cK (fZ (m:=11) (dp 15 rfl (eZ f7 (Ht rfl) rfl) (dq 140 0 rfl (wq A_35 Z_35 (Ht rfl) (i:=4) rfl rfl) (dp 16 rfl (cX (Ht rfl)) (dp 2 rfl (eZ f7 (Ht rfl) rfl) (dq 143 3 rfl (eY A_35 Z_35 (Ht rfl) (i:=0) rfl rfl) (dp 10 rfl (cX (Ht rfl)) (dp 16 rfl (cX (Ht rfl)) (b8 145 5 146 6 rfl (dZ U_72 Z_3 (Ht rfl) (Ht rfl) rfl (dY (dU (d:=0) zo))) (dq 147 7 rfl (dJ A_3 Z_3 (Ht rfl)) (b8 144 4 148 8 rfl (dZ U_35 Z_131 (Ht rfl) (Ht rfl) rfl (dY (dU (d:=Qi.zero) zo))) ?_))))))))))))))
      refine dq 149 9 rfl (dJ A_131 Z_131 (Ht rfl)) (fV au rfl (by kernel_rfl) (zF (zF (aJ (aJ (aJ (aV (ro rfl (b6 U_35 Z_131 (Ht rfl) (Ht rfl) rfl (i:=2) rfl (by rw [bg]; omega) rfl) ?_))))))))
      refine dB Z_131 (Ht rfl) (Ht rfl) (El.ag rfl) (i:=2) rfl rfl (by rw [bg]; omega) rfl ?_
      refine eX (ts (rm rfl (rn rfl (dE (T:=ZQ) (i:=Tryz.t131) jF go rfl rfl (Ht rfl) rfl y3 (El.ag rfl) (by show 88 * _ ≤ _; omega) zo) fun B153=>(ra rfl (eX (cK (ts (ro rfl (cQ (cJ 0)) (eX (eG ?_))))))))))
      refine aF (fun (i2 : Nat) => i2 ≤ r) (fun (i2 : Nat) => r - i2) (fun (i2 : Nat) => [(2, aI B2 0), (4, aI B4 0), (6, NT .i64 r), (10, bv lf), (12, QM (nh S to r)), (15, aI B15 0), (16, NT .i64 y), (17, Is B153), (18, NT .i64 i2)]) (fun (i2 : Nat) => [box B2 38 [iv z, QM S], box B4 38 [Is (.slice none 0 0), Is (.slice none 0 0)], aB 131 5 (.slice (some ⟨B127, 0, none⟩) lf.length lf.length) (dA (fun y => QT (gv z (lf.getD y 0))) ZQ lf.length (y + 1)), eC bL B132 35 131 5 (aH QT (lj (wE S to r lf) lf.length lf.length y 0)), box B15 38 [Is (.slice (some ⟨B127, 0, none⟩) lf.length lf.length), Is (.slice (some ⟨B132, 0, none⟩) lf.length lf.length)], aB 131 5 B153 (dA (fun i => QT (gm S i (lf.getD y 0))) ZQ r i2)]) 0 (Nat.zero_le _)
       (zS rfl) (aU (a8 rfl) (aU (a8 rfl) (aU (aa (dn (f:=(fun y=>QT (gv z (lf.getD y 0)))))) (aU (fun _ _ _ h=>h) (aU (a8 rfl) (aU (aa (by rw [← cz]; exact my _ _)) aY)))))) (fun i2 hi2=>?_)
      refine cK (ts (rm rfl (rm rfl (ro rfl (gX (Ht rfl) (Ht rfl)) (eX (dQ (Ht rfl) (fun hic=>?_) (fun hic=>?_)))))))
      ·have hin : i2 < r := by simp only [decide_eq_true_eq] at hic; omega
       have hsr:=hS.row hin
       refine cU (cK (eG (fZ (m:=13) (dp 17 rfl (cX (Ht rfl)) (dp 18 rfl (cX (Ht rfl)) (dp 2 rfl (eZ kX (Ht rfl) rfl) (dq 161 2 rfl (eY A_36 Z_36 (Ht rfl) (i:=0) rfl rfl) (dp 18 rfl (cX (Ht rfl)) (b8 162 3 163 4 rfl (dZ U_36 Z_35 (Ht rfl) (Ht rfl) rfl (dY (dU (d:=[]) zo))) (dq 164 5 rfl (dJ A_35 Z_35 (Ht rfl)) (dp 10 rfl (cX (Ht rfl)) (dp 16 rfl (cX (Ht rfl)) (b8 166 7 167 8 rfl (dZ U_72 Z_3 (Ht rfl) (Ht rfl) rfl (dY (dU (d:=0) zo))) ?_)))))))))))))
       refine dq 168 9 rfl (dJ A_3 Z_3 (Ht rfl)) (b8 165 6 169 10 rfl (dZ U_35 Z_131 (Ht rfl) (Ht rfl) rfl (dY (dU (d:=Qi.zero) zo))) (dq 170 11 rfl (dJ A_131 Z_131 (Ht rfl)) (fV au rfl (by kernel_rfl) (zF (zF (zF (aJ (aV (ro rfl (b6 U_35 Z_131 (Ht rfl) (Ht rfl) rfl (i:=5) rfl (by rw [bg]; omega) rfl) ?_)))))))))
       refine dB Z_131 (Ht rfl) (Ht rfl) (El.ag rfl) (i:=5) rfl rfl (by rw [bg]; omega) rfl ?_
       refine eX (as (cY (rm rfl (ro rfl (dV (Ht rfl) (cJ 1) z6) (ra rfl (eX (fU (i2 + 1) hin zo (zS rfl) (aU (a8 rfl) (aU (a8 rfl) (aU (fun _ _ _ h=>h) (aU (fun _ _ _ h=>h) (aU (a8 rfl) (aU (aa (dn (f:=(fun i=>QT (gm S i (lf.getD y 0)))))) aY)))))))))))))
      ·have hir : i2 = r := by simp only [decide_eq_false_iff_not] at hic; omega
       rw [hir,di,show (tab r fun i=>QT (gm S i (lf.getD y 0))) = (r7 S r (lf.getD y 0)).map QT from by rw [r7,jR]]
       refine gV rfl (gJ (i:=5) (tt:=17) rfl rfl bB (ts (rm rfl (rm rfl (ro rfl (cZ Tryz.call201 (tf (M:=nh S to r) (b:=r7 S r (lf.getD y 0)) (n:=r) (L:=1 + r * (L + 1)) (o8 S to r) (a9 _ _) (Cy hf hL) ((BJ hf hL).le hrL) zo h1 zo hgr) ⟨(Ht rfl),(Ht rfl),trivial⟩) (rm rfl (ro rfl (dK (Ht rfl) rfl) (ro rfl (dK (Ht rfl) rfl) (ra rfl (ra rfl (eX (cK (ts (rm rfl (ro rfl (eP (Ht rfl) cV) (eX (dQ (Ht rfl) (fun hez=>?_) (fun hez=>?_))))))))))))))))))
       ·have hez2 : qq (nh S to r) (r7 S r (lf.getD y 0)) r ≠ 0 := by simp at hez; exact hez
        have hcE:xE S to r lf ≠ 0:=by rw [xE,fw (f:=fun y=>qq (nh S to r) (r7 S r (lf.getD y 0)) r) h0 hez2 hyn]; exact hez2
        refine ts (ro rfl (al.imp (kT ) jl) (gQ Z_38 (Ht rfl) (Ht rfl) rfl (i:=1) rfl (aK rfl) rfl rfl (ro rfl (cQ cV) (eX (aE rfl (fX (fK A_38 Z_38 rfl (i:=1) rfl rfl) ?_) (fX (eU rfl) ?_))))))
        ·exact (F3 hcE)
        ·exact (bF (by simp [hcE]))
       ·have hez2 : qq (nh S to r) (r7 S r (lf.getD y 0)) r = 0 := by simp at hez; exact hez
        have hgl:(wJ (nh S to r) (r7 S r (lf.getD y 0)) r).length = r:=Cl (o8 S to r) hez2
        refine cU (ts (ro rfl (cQ (cJ 0)) (eX (eG (aO [0,1,2,3,4] rfl (by decide) ?_)))))
        refine aF (fun (x : Nat) => x ≤ lf.length) (fun (x : Nat) => lf.length - x) (fun (x : Nat) => [(2, aI B2 0), (4, aI B4 0), (6, NT .i64 r), (10, bv lf), (12, QM (nh S to r)), (15, aI B15 0), (16, NT .i64 y), (19, iv (wJ (nh S to r) (r7 S r (lf.getD y 0)) r)), (21, NT .i64 x)]) (fun (x : Nat) => [box B2 38 [iv z, QM S], box B4 38 [Is (.slice none 0 0), Is (.slice none 0 0)], aB 131 5 (.slice (some ⟨B127, 0, none⟩) lf.length lf.length) (dA (fun y => QT (gv z (lf.getD y 0))) ZQ lf.length (y + 1)), eC bL B132 35 131 5 (aH QT (lj (wE S to r lf) lf.length lf.length y x)), box B15 38 [Is (.slice (some ⟨B127, 0, none⟩) lf.length lf.length), Is (.slice (some ⟨B132, 0, none⟩) lf.length lf.length)]]) 0 (Nat.zero_le _)
         (zS rfl) (aU (a8 rfl) (aU (a8 rfl) (aU (fun _ _ _ h=>h) (aU (fun _ _ _ h=>h) (aU (a8 rfl) aY))))) (fun x hx=>?_)
        refine cK (ts (rm rfl (rm rfl (ro rfl (dG U_72 (Ht rfl) a7) (ro rfl (gX (Ht rfl) (Ht rfl)) (eX (dQ (Ht rfl) (fun hxc=>?_) (fun hxc=>?_))))))))
        ·have hxn : x < lf.length := by simp only [decide_eq_true_eq] at hxc; omega
         have hlx:=hlm x hxn
         have hpl:=(kh (wE S to r lf) lf.length lf.length y x).1
         have hpr:((lj (wE S to r lf) lf.length lf.length y x).getD x []).length = lf.length:=(kh (wE S to r lf) lf.length lf.length y x).row hxn
         refine eg 3 (x) rfl (gu zo) (fun v hv=>(cU (cK (eG (fZ (m:=13) (dp 15 rfl (eZ kX (Ht rfl) rfl) (dq 188 0 rfl (eY A_36 Z_36 (Ht rfl) (i:=4) rfl rfl) (dp 21 rfl (cX (Ht rfl)) (b8 189 1 190 2 rfl (fY U_36 Z_35 (Ht rfl) (Ht rfl) rfl zo (by rw [Nat.mul_one,Nat.zero_add])) ?_)))))))))
         refine dq 191 3 rfl (d4 A_35 Z_35 (Ht rfl) (j:=3) rfl) (dp 16 rfl (cX (Ht rfl)) (dp 19 rfl (cX (Ht rfl)) (dp 10 rfl (cX (Ht rfl)) (dp 21 rfl (cX (Ht rfl)) (b8 195 7 196 8 rfl (dZ U_72 Z_3 (Ht rfl) (Ht rfl) rfl (dY (dU (d:=0) zo))) (dq 197 9 rfl (dJ A_3 Z_3 (Ht rfl)) (b8 194 6 198 10 rfl (dZ U_35 Z_131 (Ht rfl) (Ht rfl) rfl (dY (dU (d:=Qi.zero) zo))) (dq 199 11 rfl (dJ A_131 Z_131 (Ht rfl)) (fV au rfl (by kernel_rfl) (zF (zF (zF (aJ (aV ?_))))))))))))))
         refine ro rfl (b6 U_35 Z_131 (Ht rfl) (Ht rfl) rfl (i:=5) rfl (by rw [List.length_map]; omega) rfl) ?_
         refine dB Z_131 (Ht rfl) (Ht rfl) (El.ag rfl) (i:=5) rfl rfl (by rw [List.length_map]; omega) rfl ?_
         refine eX (as (bR 3 5 rfl rfl (by decide) (by simp only [aH,List.length_map]; omega) ?_))
         refine cY (rm rfl (ro rfl (dV (Ht rfl) (cJ 1) z6) (ra rfl (eX (aO [0,1,2,3,4] rfl (by decide) (fU (x + 1) hxn zo (zS rfl) (aU (a8 rfl) (aU (a8 rfl) (aU (fun _ _ _ h=>h) (aU (aC (by rw [ce,c9]; exact congrArg _ (x6 (val:=wE S to r lf) hxn hyn))) (aU (a8 rfl) aY)))))))))))
        ·have hxl : x = lf.length := by simp only [decide_eq_false_iff_not] at hxc; omega
         rw [hxl,zN]
         refine gV rfl (as (cY (rm rfl (ro rfl (dV (Ht rfl) (cJ 1) z6) (ra rfl (eX ?_))))))
         refine fU (y + 1) ⟨hyn, fun j h => by
          by_cases e:j = y
          ·rw [e]; exact hez2
          ·exact h0 j zo⟩ zo (zS rfl) (aU (a8 rfl) (aU (a8 rfl) (aU (fun _ _ _ h=>h) (aU (fun _ _ _ h=>h) (aU (a8 rfl) aY)))))
     ·have hyl : y = lf.length := by simp only [decide_eq_false_iff_not] at hyc; omega
      rw [hyl,di,Ad]
      have hcE:xE S to r lf = 0:=cB (by rw [hyl] at h0; exact h0)
      have hZ:(tab lf.length fun y=>QT (gv z (lf.getD y 0))) = (lf.map fun l=>gv z l).map QT:=by rw [List.map_map]; exact kz lf (fun l=>QT (gv z l))
      refine gV rfl (cK (qz 4 2 0 rfl rfl rfl (by decide) (po 4 3 1 rfl rfl rfl (by decide) (F9 (q:=bL) (M:=tab lf.length fun x=>tab lf.length fun y=>wE S to r lf x y) (a9 _ _).symm) (cY (ro rfl (eJ A_38 Z_38 (Ht rfl) (i:=4) rfl rfl rfl) (gQ Z_38 (Ht rfl) (Ht rfl) rfl (i:=1) rfl (aK rfl) rfl rfl (ro rfl (cQ cV) (eX (aE rfl (fX (fK A_38 Z_38 rfl (i:=1) rfl rfl) ?_) (fX (eU rfl) ?_))))))))))
      ·exact (DD hcE hZ rfl)
      ·exact (bF (by simp [hcE]))
end
section
open Go Go.RowKit
def lO (A:List (List Qi)) (c i j:Nat):Qi:=if j < c ∧ j < i then 0 else gm A i j
def mf (F:Nat → Nat → Qi) (n m:Nat) (x:Nat → Qi):Prop:=∀ i,i < n → ah m (fun k=>F i k * x k) = 0
theorem pb {F G:Nat → Nat → Qi} {n m:Nat} {x:Nat → Qi} (h:∀ i,i < n → ∀ j,j < m → F i j = G i j):mf F n m x ↔ mf G n m x:=by
 have e:∀ i,i < n → ah m (fun k=>F i k * x k) = ah m (fun k=>G i k * x k):=fun i hi=>av fun k hk=>by rw [h i hi k hk]
 exact ⟨fun k i hi=>by rw [← e i hi]; exact k i hi,fun k i hi=>by rw [e i hi]; exact k i hi⟩
def wy (p c i:Nat):Nat:=if i = c then p else if i = p then c else i
theorem rf {p c i n:Nat} (hp:p < n) (hc:c < n) (hi:i < n):wy p c i < n:=by unfold wy; split <;> (try split) <;> omega
theorem wa (p c i:Nat):wy p c (wy p c i) = i:=by
 unfold wy
 by_cases e1:i = c
 ·subst e1
  rw [if_pos rfl]
  by_cases e2:p = i
  ·rw [if_pos e2]; exact e2
  ·rw [if_neg e2,if_pos rfl]
 ·rw [if_neg e1]
  by_cases e2:i = p
  ·subst e2; rw [if_pos rfl,if_pos rfl]
  ·rw [if_neg e2,if_neg e1,if_neg e2]
theorem sC {F : Nat → Nat → Qi} {n m p c : Nat} {x : Nat → Qi} (hp : p < n) (hc : c < n) : mf (fun i => F (wy p c i)) n m x ↔ mf F n m x :=
 ⟨fun h i hi=>by have:=h _ (rf hp hc hi); simp only [wa] at this; exact this,fun h i hi=>h _ (rf hp hc hi)⟩
theorem xX {F G:Nat → Nat → Qi} {n m c:Nat} {x f:Nat → Qi} (hc:c < n) (hG:∀ i,i < n → ∀ j,j < m → G i j = if c < i then F i j - f i * F c j else F i j):mf G n m x ↔ mf F n m x:=by
 have key : ∀ i, i < n → ah m (fun k => G i k * x k) = if c < i then ah m (fun k => F i k * x k) - f i * ah m (fun k => F c k * x k) else ah m (fun k => F i k * x k) := fun i hi => by
  by_cases e:c < i
  ·rw [if_pos e, ← jw]
   exact av fun k hk=>by rw [hG i hi k hk,if_pos e]; grind
  ·rw [if_neg e]
   exact av fun k hk=>by rw [hG i hi k hk,if_neg e]
 have kc:=key c hc
 rw [if_neg zo] at kc
 constructor
 ·intro h i hi
  have h0:=h c hc
  rw [kc] at h0
  have h1:=h i hi
  rw [key i hi] at h1
  by_cases e:c < i
  ·rw [if_pos e,h0] at h1; grind
  ·rw [if_neg e] at h1; exact h1
 ·intro h i hi
  rw [key i hi]
  by_cases e:c < i
  ·rw [if_pos e,h i hi,h c hc]; grind
  ·rw [if_neg e]; exact h i hi
theorem Ch {M:List (List Qi)} {n m c i j:Nat} (h:bE M n m) (hi:i < n) (hj:j < m):gm (gB M c n) i j = if c < i ∧ c < j then gm M i j - gm M i c / gm M c c * gm M c j else gm M i j:=by
 have hr:(bi M i).length = m:=h.row hi
 have e0 : bi (gB M c n) i = if c < i ∧ i < n then fL (bi M i) (bi M c) c (bi M i).length else bi M i := by
  simp only [bi,gB,List.getD]; rw [aM (by rw [h.1]; exact hi)]; rfl
 show gv (bi (gB M c n) i) j = _
 rw [e0]
 by_cases e:c < i
 ·rw [if_pos ⟨e, hi⟩, fL, g9 zo]
  by_cases e2:c < j
  ·rw [if_pos ⟨e2,by omega⟩,if_pos ⟨e,e2⟩]
  ·rw [if_neg (fun k=>e2 k.1),if_neg (fun k=>e2 k.2)]
 ·rw [if_neg (fun k=>e k.1),if_neg (fun k=>e k.1)]
theorem Bm {A:List (List Qi)} {p c i j:Nat} (hc:c < A.length) (hp:p < A.length) (hcp:c ≤ p):lO (swp [] A p c) c i j = lO A c (wy p c i) j:=by
 have key:gm (swp [] A p c) i j = gm A (wy p c i) j:=congrArg (fun r=>gv r j) (uc zo zo)
 unfold lO
 rw [key]
 have e:(j < c ∧ j < i) ↔ (j < c ∧ j < wy p c i):=by unfold wy; split <;> (try split) <;> omega
 by_cases h:j < c ∧ j < i
 ·rw [if_pos h,if_pos (e.1 h)]
 ·rw [if_neg h,if_neg (fun k=>h (e.2 k))]
structure EL (M A:List (List Qi)) (n m c:Nat):Prop where
 sh:bE A n m
 ker:∀ x,mf (lO A c) n m x ↔ mf (gm M) n m x
theorem EL.next {M A:List (List Qi)} {n m c p:Nat} (h:EL M A n m c) (hc:c < n) (hcm:c < m) (hcp:c ≤ p) (hp:p < n) (hz:gm A p c ≠ 0):EL M (gB (if p = c then A else swp [] A p c) c n) n m (c + 1):=by
 have hl:=h.sh.1
 obtain ⟨B,hB⟩:∃ B,B = if p = c then A else swp [] A p c:=⟨_,rfl⟩
 have hs : bE B n m := by
  rw [hB]; split
  ·exact h.sh
  ·exact lW h.sh hp hc
 have hBk : ∀ x, mf (lO B c) n m x ↔ mf (gm M) n m x := fun x => by
  rw [hB]; split
  ·exact h.ker x
  ·exact (pb (G:=fun i=>lO A c (wy p c i)) fun i hi j hj=>Bm zo zo hcp).trans ((sC hp hc).trans (h.ker x))
 have hBz : gm B c c ≠ 0 := by
  rw [hB]; split
  ·rename_i e; rw [← e] at hz ⊢; exact hz
  ·show gv (bi (swp [] A p c) c) c ≠ 0
   rw [mR zo]; exact hz
 rw [← hB]
 refine ⟨sY hs,fun x=>(xX (f:=fun i=>gm B i c / gm B c c) hc fun i hi j hj=>?_).trans (hBk x)⟩
 have hd:=mN (x:=gm B i c) hBz
 unfold lO
 rw [Ch hs hi hj]
 by_cases e:c < i
 ·rw [if_pos e]
  by_cases e1:j < c
  ·rw [if_pos zo,if_pos zo,if_pos zo]; grind
  ·by_cases e2 : j = c
   ·subst e2
    rw [if_pos zo,if_neg zo,if_neg zo]; grind
   ·rw [if_neg zo,if_pos zo,if_neg zo,if_neg zo]
 ·rw [if_neg e, if_neg (show ¬ (c < i ∧ c < j) from fun k => e k.1)]
  by_cases e1:j < i
  ·rw [if_pos (show j < c + 1 ∧ j < i by omega),if_pos (show j < c ∧ j < i by omega)]
  ·rw [if_neg (show ¬ (j < c + 1 ∧ j < i) by omega),if_neg (show ¬ (j < c ∧ j < i) by omega)]
theorem qZ {M : List (List Qi)} {n m : Nat} (hs : bE M n m) (hnm : n ≤ m) : ∀ {c : Nat}, c ≤ n → (bp M c).2.2 < 0 → EL M (bp M c).1 n m c
 | 0,_,_=>⟨hs,fun x=>pb fun i _ j _=>by unfold lO; rw [if_neg zo]; rfl⟩
 | c + 1, hc, h => by
  obtain ⟨i1,i2,i3,i4⟩:=gl (M:=(bp M c).1) (c:=c) (n:=M.length) (by rw [hs.1]; omega)
  simp only [bp] at h ⊢
  by_cases e:0 ≤ (bp M c).2.2
  ·rw [if_pos e] at h; omega
  ·rw [if_neg e] at h ⊢
   have ih:=qZ hs hnm (c:=c) zo zo
   by_cases e2:pv (bp M c).1 c M.length = M.length
   ·rw [if_pos e2] at h; simp only at h; omega
   ·rw [if_neg e2]
    rw [hs.1] at i3 i4 e2 ⊢
    exact ih.next zo zo (by rw [hs.1] at i2; exact i2) zo (i4 zo)
theorem qF {M : List (List Qi)} : ∀ {n : Nat}, 0 ≤ (bp M n).2.2 → ∃ c, c < n ∧ (bp M c).2.2 < 0 ∧ pv (bp M c).1 c M.length = M.length
 | 0,h=>absurd h (by show ¬ (0:Int) ≤ -1; omega)
 | c + 1, h => by
  by_cases e:0 ≤ (bp M c).2.2
  ·obtain ⟨d, h1, h2⟩ := qF e
   exact ⟨d,by omega,h2⟩
  ·simp only [bp] at h
   rw [if_neg e] at h
   by_cases e2:pv (bp M c).1 c M.length = M.length
   ·exact ⟨c,by omega,by omega,e2⟩
   ·rw [if_neg e2] at h; simp only at h; omega
theorem lI {U : List (List Qi)} {x y : List Qi} {n c : Nat} : ∀ {K : Nat}, (∀ k, k < K → gv x (c + 1 + k) = gv y (c + 1 + k)) → ij U x n c K = ij U y n c K
 | 0,_=>rfl
 | K + 1,h=>by rw [ij,ij,lI (fun k hk=>h k zo),h K zo]
theorem sW (U : List (List Qi)) (x : List Qi) (n c : Nat) : ∀ K, ij U x n c K = gm U c n - ah K (fun k => gm U c (c + 1 + k) * gv x (c + 1 + k))
 | 0=>by simp only [ij,ah,q0]; grind
 | K + 1=>by simp only [ij,ah,sW U x n c K]; grind
theorem ze {U : List (List Qi)} {n : Nat} : ∀ {j : Nat}, j ≤ n → ∀ c, n - j ≤ c → c < n → gv (j1 U n j) c = ij U (j1 U n j) n c (n - 1 - c) / gm U c c
 | 0,_,c,h1,h2=>by omega
 | j + 1, hj, c, h1, h2 => by
  have hl:=lX U n j
  rw [j1]
  by_cases e:c = n - (j + 1)
  ·subst e
   rw [mQ zo,if_pos rfl,show n - 1 - (n - (j + 1)) = j by omega]
   rw [lI (x:=(j1 U n j).set _ _) (y:=j1 U n j) fun k hk=>by rw [mQ zo,if_neg zo]]
  ·rw [mQ zo, if_neg e, ze (j := j) zo c zo h2]
   rw [lI (x:=(j1 U n j).set _ _) (y:=j1 U n j) fun k hk=>by rw [mQ zo,if_neg zo]]
theorem k8 (a : Nat) (f : Nat → Qi) : ∀ b, ah (a + b) f = ah a f + ah b fun k => f (a + k)
 | 0=>by simp only [ah,q0,Nat.add_zero]; grind
 | b + 1=>by rw [← Nat.add_assoc]; simp only [ah,k8 a f b]; grind
theorem wt {U:List (List Qi)} {n i:Nat} (hi:i < n) (y:Nat → Qi):ah n (fun k=>lO U n i k * y k) = gm U i i * y i + ah (n - 1 - i) fun k=>gm U i (i + 1 + k) * y (i + 1 + k):=by
 have e:n = i + 1 + (n - 1 - i):=by omega
 have h1:ah i (fun k=>lO U n i k * y k) = 0:=eM fun k hk=>by unfold lO; rw [if_pos zo]; grind
 have h2:lO U n i i = gm U i i:=by unfold lO; rw [if_neg zo]
 have h3:ah (n - 1 - i) (fun k=>lO U n i (i + 1 + k) * y (i + 1 + k)) = ah (n - 1 - i) fun k=>gm U i (i + 1 + k) * y (i + 1 + k):=av fun k hk=>by unfold lO; rw [if_neg zo]
 have h4:=k8 (i + 1) (fun k=>lO U n i k * y k) (n - 1 - i)
 rw [← e] at h4
 rw [h4,h3]
 simp only [ah,h1,h2]; grind
theorem vK {U:List (List Qi)} {n i:Nat} (hd:∀ j,j < n → gm U j j ≠ 0) (hi:i < n):ah n (fun k=>lO U n i k * gv (j1 U n n) k) = gm U i n:=by
 rw [wt hi,ze (Nat.le_refl n) i zo hi,sW]
 have:=mN (x:=gm U i n - ah (n - 1 - i) (fun k=>gm U i (i + 1 + k) * gv (j1 U n n) (i + 1 + k))) (hd i hi)
 grind
theorem rX {U : List (List Qi)} {n : Nat} (hd : ∀ j, j < n → gm U j j ≠ 0) {y : Nat → Qi} (h : ∀ i, i < n → ah n (fun k => lO U n i k * y k) = 0) : ∀ t k, n - t ≤ k → k < n → y k = 0
 | 0,k,h1,h2=>by omega
 | t + 1, k, h1, h2 => by
  have h3:=h k h2
  rw [wt h2,eM (fun j hj=>by rw [rX hd h t (k + 1 + j) zo zo]; grind)] at h3
  rcases gY (x:=gm U k k) (y:=y k) (by grind) with h4 | h4
  ·exact absurd h4 (hd k h2)
  ·exact h4
theorem gW {M:List (List Qi)} {b:List Qi} {n:Nat} (h:bE M n n) (hE:et M b n = 0):(∀ i,i < n → ah n (fun k=>gm M i k * gv (fd M b n) k) = gv b i) ∧ ∀ y:Nat → Qi,(∀ i,i < n → ah n (fun k=>gm M i k * y k) = 0) → ∀ k,k < n → y k = 0:=by
 have hcs:bE (eu M [b] n) n (n + 1):=fx h
 have hst : (lk M b n).2.2 < 0 := by
  unfold et at hE
  by_cases e:0 ≤ (lk M b n).2.2
  ·rw [if_pos e] at hE; omega
  ·omega
 have hg:=qZ hcs (Nat.le_succ n) (Nat.le_refl n) hst
 have hd:=jB hcs (Nat.le_refl n) hst
 obtain ⟨U,hU⟩:∃ U,U = (lk M b n).1:=⟨_,rfl⟩
 have hX:fd M b n = j1 U n n:=by rw [hU]; rfl
 have hU2:(bp (eu M [b] n) n).1 = U:=hU.symm
 rw [hU2] at hg hd
 rw [hX]
 refine ⟨fun i hi=>?_,fun y hy k hk=>?_⟩
 ·have h1 := (hg.ker fun k => if k < n then gv (j1 U n n) k else -1).1 (fun i hi => by
   simp only [ah]
   rw [av (g:=fun k=>lO U n i k * gv (j1 U n n) k) (fun k hk=>by rw [if_pos hk]),vK hd hi,if_neg zo,show lO U n i n = gm U i n by unfold lO; rw [if_neg zo]]
   grind) i hi
  rw [nm h hi,av (g:=fun k=>gm M i k * gv (j1 U n n) k) (fun k hk=>by rw [if_pos hk]),if_neg zo] at h1
  grind
 ·have h1 := (hg.ker fun k => if k < n then y k else 0).2 (fun i hi => by
   rw [nm h hi,av (g:=fun k=>gm M i k * y k) (fun k hk=>by rw [if_pos hk]),if_neg zo,hy i hi]; grind)
  refine rX (y:=y) hd (fun i hi=>?_) n k zo hk
  have h2:=h1 i hi
  simp only [ah] at h2
  rw [av (g:=fun k=>lO U n i k * y k) (fun k hk=>by rw [if_pos hk]),if_neg zo] at h2
  grind
theorem lU {M:List (List Qi)} {b:List Qi} {n:Nat} (h:bE M n n) (hE:et M b n ≠ 0):∃ y:Nat → Qi,(∀ i,i < n → ah n (fun k=>gm M i k * y k) = 0) ∧ ∃ k,k < n ∧ y k ≠ 0:=by
 have hcs:bE (eu M [b] n) n (n + 1):=fx h
 have hst : 0 ≤ (lk M b n).2.2 := by
  unfold et at hE
  by_cases e:0 ≤ (lk M b n).2.2
  ·exact e
  ·rw [if_neg e] at hE; exact absurd rfl hE
 obtain ⟨c,hc,hA,hp⟩:=qF hst
 have hg:=qZ hcs (Nat.le_succ n) zo hA
 have hd:=jB hcs zo hA
 obtain ⟨U,hU⟩:∃ U,U = (bp (eu M [b] n) c).1:=⟨_,rfl⟩
 rw [← hU] at hg hd hp
 rw [hcs.1] at hp
 have hz:=(gl (M:=U) (c:=c) (n:=n) zo).1
 rw [hp] at hz
 have key := (hg.ker fun k => if k < c then gv (j1 U c c) k else if k = c then -1 else 0).1 (fun i hi => by
  have e:n + 1 = c + (1 + (n - c)):=by omega
  rw [e,k8,k8]
  have z3:ah (n - c) (fun k=>lO U c i (c + (1 + k)) * (if c + (1 + k) < c then gv (j1 U c c) (c + (1 + k)) else if c + (1 + k) = c then -1 else 0)) = 0:=eM fun k hk=>by rw [if_neg zo,if_neg zo]; grind
  have z2 : ah 1 (fun k => lO U c i (c + k) * (if c + k < c then gv (j1 U c c) (c + k) else if c + k = c then -1 else 0)) = lO U c i c * -1 := by
   rw [pk,if_neg zo,if_pos zo]; rfl
  have z1:ah c (fun k=>lO U c i k * (if k < c then gv (j1 U c c) k else if k = c then -1 else 0)) = ah c (fun k=>lO U c i k * gv (j1 U c c) k):=av fun k hk=>by rw [if_pos hk]
  rw [z1,z2,z3]
  have zc:lO U c i c = gm U i c:=by unfold lO; rw [if_neg zo]
  rw [zc]
  by_cases e2:i < c
  ·rw [vK hd e2]; grind
  ·rw [hz i zo hi,eM (fun k hk=>by unfold lO; rw [if_pos zo]; grind),q0]; grind)
 refine ⟨fun k=>if k < c then gv (j1 U c c) k else if k = c then -1 else 0,fun i hi=>?_,c,hc,?_⟩
 ·have h1 := key i hi
  rw [nm h hi,if_neg zo,if_neg zo] at h1
  grind
 ·show (if c < c then gv (j1 U c c) c else if c = c then (-1 : Qi) else 0) ≠ 0
  rw [if_neg zo,if_pos rfl]
  intro e
  exact absurd (congrArg Qi.re e) (by decide)
theorem DU {M:List (List Qi)} {b:List Qi} {n:Nat} (h:bE M n n):et M b n = qq M b n ∧ (et M b n = 0 → fd M b n = wJ M b n):=by
 by_cases hE:et M b n = 0
 ·obtain ⟨h1, h2⟩ := gW h hE
  cases hX:ws M b n with
  | none =>
   obtain ⟨y,h3,k,h4,h5⟩:=sX h hX
   exact absurd (h2 y h3 k h4) h5
  | some X =>
   obtain ⟨h3,h4,_⟩:=kr h hX
   refine ⟨by rw [hE]; simp only [qq,hX,Option.isSome_some,if_true],fun _=>?_⟩
   simp only [wJ,hX,Option.getD_some]
   have hk : ∀ k, k < n → gv (fd M b n) k = gv X k := fun k hk => by
    have := h2 (fun k => gv (fd M b n) k - 1 * gv X k) (fun i hi => by
     have e:ah n (fun k=>gm M i k * (gv (fd M b n) k - 1 * gv X k)) = ah n (fun k=>gm M i k * gv (fd M b n) k - 1 * (gm M i k * gv X k)):=av fun k _=>by grind
     rw [e,jw,h1 i hi,h4 i hi]; grind) k hk
    grind
   have hl:(fd M b n).length = n:=lX _ _ _
   apply List.ext_getElem?
   intro k
   by_cases c:k < n
   ·have := hk k c
    simp only [gv,List.getD] at this
    rw [List.getElem?_eq_getElem zo,List.getElem?_eq_getElem zo] at this ⊢
    exact congrArg some this
   ·rw [List.getElem?_eq_none zo,List.getElem?_eq_none zo]
 ·obtain ⟨y, h3, k, h4, h5⟩ := lU (b := b) h hE
  have h6 : et M b n = 6 := by
   unfold et at hE ⊢
   split
   ·rfl
   ·rename_i e; rw [if_neg e] at hE; exact absurd rfl hE
  refine ⟨?_,fun e=>absurd e hE⟩
  cases hX:ws M b n with
  | none=>rw [h6]; simp only [qq,hX,Option.isSome_none]; rfl
  | some X =>
   obtain ⟨_,_,h7⟩:=kr h hX
   exact absurd (h7 y h3 k h4) h5
end
section
open Go Go.RowKit
def gq (ps:List (Nat × Nat)) (x:Nat):Nat:=if x % 2 = 0 then pA ps (x / 2) else pB ps (x / 2)
def de (x:Nat):Nat:=if x % 2 = 0 then x + 1 else x - 1
theorem vA (x:Nat):de (de x) = x:=by unfold de; split <;> split <;> omega
theorem gF {x k:Nat} (h:x < 2 * k):de x < 2 * k:=by unfold de; split <;> omega
theorem jJ (ps:List (Nat × Nat)) (k:Nat):gq ps (2 * k) = pA ps k:=by unfold gq; rw [if_pos zo,show 2 * k / 2 = k by omega]
theorem lE (ps:List (Nat × Nat)) (k:Nat):gq ps (2 * k + 1) = pB ps k:=by unfold gq; rw [if_neg zo,show (2 * k + 1) / 2 = k by omega]
structure Jn (ps:List (Nat × Nat)) (n K:Nat):Prop where
 lt:∀ x,x < 2 * K → gq ps x < n
 inj:∀ x y,x < 2 * K → y < 2 * K → gq ps x = gq ps y → x = y
theorem Jn.le {ps:List (Nat × Nat)} {n K k:Nat} (h:Jn ps n K) (hk:k ≤ K):Jn ps n k:=⟨fun x hx=>h.lt x zo,fun x y hx hy=>h.inj x y zo zo⟩
theorem yY {l:List Int} {t j:Nat} {v:Int} (ht:t < l.length):tv (l.set t v) j = if j = t then v else tv l j:=by
 simp only [tv,List.getD]
 by_cases e:j = t
 ·subst e; rw [if_pos rfl,List.getElem?_set_self ht]; rfl
 ·rw [if_neg e,List.getElem?_set_ne (Ne.symm e)]
theorem wo {ps : List (Nat × Nat)} {n : Nat} : ∀ {k : Nat}, Jn ps n k → (∀ x, x < 2 * k → tv (jh n ps k) (gq ps x) = (gq ps (de x) : Int)) ∧ ∀ j, j < n → (∀ x, x < 2 * k → gq ps x ≠ j) → tv (jh n ps k) j = -1
 | 0,_=>⟨fun x h=>by omega,fun j hj _=>by rw [jh,tv,List.getD,aM hj]; rfl⟩
 | k + 1, h => by
  obtain ⟨i1,i2⟩:=wo (h.le (Nat.le_succ k))
  have hl:=jM n ps k
  have ha:=h.lt (2 * k) zo
  have hb:=h.lt (2 * k + 1) zo
  rw [jJ] at ha
  rw [lE] at hb
  have key : ∀ j, tv (jh n ps (k + 1)) j = if j = pB ps k then (pA ps k : Int) else if j = pA ps k then (pB ps k : Int) else tv (jh n ps k) j := fun j => by
   rw [jh,yY (by rw [List.length_set]; omega),yY zo]
  refine ⟨fun x hx=>?_,fun j hj hx=>?_⟩
  ·rw [key]
   by_cases e1:x = 2 * k + 1
   ·subst e1
    rw [if_pos (lE ps k),show de (2 * k + 1) = 2 * k by unfold de; split <;> omega,jJ]
   ·have n1 : ¬ gq ps x = pB ps k := fun e => e1 (h.inj x (2 * k + 1) hx zo (by rw [e, lE]))
    rw [if_neg n1]
    by_cases e2:x = 2 * k
    ·subst e2
     rw [if_pos (jJ ps k),show de (2 * k) = 2 * k + 1 by unfold de; split <;> omega,lE]
    ·have n2 : ¬ gq ps x = pA ps k := fun e => e2 (h.inj x (2 * k) hx zo (by rw [e, jJ]))
     rw [if_neg n2]; exact i1 x zo
  ·rw [key, if_neg (fun e => hx (2 * k + 1) zo (by rw [lE]; exact e.symm)), if_neg (fun e => hx (2 * k) zo (by rw [jJ]; exact e.symm))]
   exact i2 j hj fun x hx2=>hx x zo
theorem CE {ps:List (Nat × Nat)} {n K:Nat} (h:Jn ps n K) {j:Nat} (hj:j < n):tv (jh n ps K) j < n:=by
 obtain ⟨i1,i2⟩:=wo h
 by_cases e:∃ x,x < 2 * K ∧ gq ps x = j
 ·obtain ⟨x, hx, rfl⟩ := e
  rw [i1 x hx]; have:=h.lt (de x) (gF hx); omega
 ·rw [i2 j hj fun x hx hxj=>e ⟨x,hx,hxj⟩]; omega
theorem rJ {ps:List (Nat × Nat)} {n K:Nat} (h:Jn ps n K) (S:List (List Qi)) (x:Nat → Qi) (i:Nat):ah n (Ak S (jh n ps K) x i) = ah (2 * K) fun y=>gm S i (gq ps y) * x (gq ps (de y)):=by
 obtain ⟨i1,i2⟩:=wo h
 have e1 : ah n (Ak S (jh n ps K) x i) = ah n fun j => ah (2 * K) fun y => if gq ps y = j then gm S i (gq ps y) * x (gq ps (de y)) else 0 := av fun j hj => by
  by_cases e:∃ y,y < 2 * K ∧ gq ps y = j
  ·obtain ⟨y, hy, rfl⟩ := e
   rw [cf hy (fun k hk hky=>if_neg fun e=>hky (h.inj k y hk hy e)),if_pos rfl,Ak,i1 y hy,if_neg zo,Int.toNat_natCast]
  ·rw [eM (fun y hy=>if_neg fun e2=>e ⟨y,hy,e2⟩),Ak,i2 j hj fun y hy e2=>e ⟨y,hy,e2⟩,if_pos zo]
 rw [e1,jz]
 exact av fun y hy=>by rw [cf (h.lt y hy) (fun j _ hj=>if_neg (Ne.symm hj)),if_pos rfl]
def gk (S:List (List Qi)) (ps:List (Nat × Nat)) (m:Nat):List (List Qi):=tab m fun x=>tab m fun y=>(if x = y then Qi.ofInt 1 else Qi.ofInt 0) - gm S (gq ps (de x)) (gq ps y)
def px (S:List (List Qi)) (ps:List (Nat × Nat)) (m b:Nat):List Qi:=tab m fun x=>gm S (gq ps (de x)) b
theorem gx (S:List (List Qi)) (ps:List (Nat × Nat)) (m:Nat):bE (gk S ps m) m m:=bE.tab
theorem o9 {S:List (List Qi)} {ps:List (Nat × Nat)} {m x:Nat} (hx:x < m) (v:Nat → Qi):ah m (fun y=>gm (gk S ps m) x y * v y) = v x - ah m fun y=>gm S (gq ps (de x)) (gq ps y) * v y:=by
 have e : ∀ y, y < m → gm (gk S ps m) x y * v y = (if y = x then v x else 0) - 1 * (gm S (gq ps (de x)) (gq ps y) * v y) := fun y hy => by
  have : gm (gk S ps m) x y = (if x = y then Qi.ofInt 1 else Qi.ofInt 0) - gm S (gq ps (de x)) (gq ps y) := by
   show gv ((gk S ps m).getD x []) y = _
   rw [gk,jv hx,g9 hy]
  rw [this]
  by_cases c:y = x
  ·subst c; rw [if_pos rfl,if_pos rfl,q1]; grind
  ·rw [if_neg c,if_neg (Ne.symm c),show Qi.ofInt 0 = (0:Qi) from rfl]; grind
 rw [av e,jw,cf hx (fun k _ hk=>if_neg hk),if_pos rfl]; grind
theorem DO {S:List (List Qi)} {ps:List (Nat × Nat)} {m b x:Nat} (hx:x < m):gv (px S ps m b) x = gm S (gq ps (de x)) b:=g9 hx
def pz (S:List (List Qi)) (ps:List (Nat × Nat)) (m a b:Nat):Qi:=gm S a b + ah m fun y=>gm S a (gq ps y) * gv (fd (gk S ps m) (px S ps m b) m) y
theorem Dj {ps : List (Nat × Nat)} {n K : Nat} (h : Jn ps n K) {S : List (List Qi)} {v : Nat → Qi} (hv : ∀ x, x < 2 * K → ah (2 * K) (fun y => gm (gk S ps (2 * K)) x y * v y) = 0) :
  FY S (jh n ps K) n (fun i=>ah (2 * K) fun y=>gm S i (gq ps y) * v y):=fun i hi=>by
 have e : ∀ x, x < 2 * K → ah (2 * K) (fun y => gm S (gq ps (de x)) (gq ps y) * v y) = v x := fun x hx => by
  have:=hv x hx
  rw [o9 hx] at this
  grind
 rw [rJ h,av (g:=fun y=>gm S i (gq ps y) * v y) (fun y hy=>by rw [e y hy])]; grind
theorem ED {ps:List (Nat × Nat)} {n K:Nat} (h:Jn ps n K) {S:List (List Qi)} {lf:List Nat} {b:List Qi} (hl:1 ≤ lf.length) (hE:et (gk S ps (2 * K)) b (2 * K) ≠ 0):xE S (jh n ps K) n lf = 6:=by
 obtain ⟨v,h1,k,h2,h3⟩:=lU (gx S ps (2 * K)) hE
 refine Dy (fun j hj=>CE h hj) hl (Dj h h1) (h.lt (de k) (gF h2)) ?_
 have:=h1 k h2
 rw [o9 h2] at this
 intro e
 exact h3 (by grind)
theorem FH {ps : List (Nat × Nat)} {n K : Nat} (h : Jn ps n K) {S : List (List Qi)} {lf : List Nat} (hl : ∀ y, y < lf.length → lf.getD y 0 < n) (h1 : 1 ≤ lf.length) (hE : ∀ y, y < lf.length → et (gk S ps (2 * K)) (px S ps (2 * K) (lf.getD y 0)) (2 * K) = 0) :
  xE S (jh n ps K) n lf = 0 ∧ ∀ x y,x < lf.length → y < lf.length → wE S (jh n ps K) n lf x y = pz S ps (2 * K) (lf.getD x 0) (lf.getD y 0):=by
 have hs:=gx S ps (2 * K)
 have e : ∀ y, y < lf.length → ∀ x, x < 2 * K → pz S ps (2 * K) (gq ps (de x)) (lf.getD y 0) = gv (fd (gk S ps (2 * K)) (px S ps (2 * K) (lf.getD y 0)) (2 * K)) x := fun y hy x hx => by
  have:=(gW hs (hE y hy)).1 x hx
  rw [o9 hx,DO hx] at this
  rw [pz]; grind
 obtain ⟨c1, c2⟩ := Fj (S := S) (to := jh n ps K) (n := n) (lf := lf) (u := fun y i => pz S ps (2 * K) i (lf.getD y 0)) (fun j hj => CE h hj)
  (fun y hy i hi => by
   rw [rJ h,av (g:=fun k=>gm S i (gq ps k) * gv (fd (gk S ps (2 * K)) (px S ps (2 * K) (lf.getD y 0)) (2 * K)) k) (fun k hk=>by rw [e y hy k hk])]
   show pz S ps (2 * K) i (lf.getD y 0) - _ = _
   rw [pz]; grind)
  (fun x hx k hk => by
   have hv := (gW hs (hE 0 h1)).2 (fun y => x (gq ps (de y))) (fun z hz => by
    rw [o9 hz]
    have:=hx (gq ps (de z)) (h.lt _ (gF hz))
    rw [rJ h] at this
    exact this)
   have:=hx k hk
   rw [rJ h,eM (fun y hy=>by rw [hv y hy]; grind)] at this
   grind)
 exact ⟨c1,fun x y hx hy=>c2 x y hy (hl x hx)⟩
theorem vj {ps : List (Nat × Nat)} {n K : Nat} (h : Jn ps n K) {G : List Nat} (hG : ∀ j, j ∈ G ↔ ∃ x, x < 2 * K ∧ gq ps x = j) : ∀ k, k ≤ n → ll (jh n ps K) k = gC G k
 | 0,_=>rfl
 | k + 1, hk => by
  obtain ⟨i1,i2⟩:=wo h
  rw [ll,gC,vj h hG k zo]
  congr 1
  by_cases e:k ∈ G
  ·obtain ⟨x, hx, rfl⟩ := (hG k).1 e
   rw [i1 x hx,if_neg zo,if_pos e]
  ·rw [i2 k zo fun x hx hxk=>e ((hG k).2 ⟨x,hx,hxk⟩),if_pos zo,if_neg e]
end
section
open Go Go.RowKit
def bH (n:Nat) (p:Int) (o:List Int):Int:=if ¬ (1 ≤ p ∧ p ≤ n) then 1 else if (o.any fun x=>decide (p = x)) = true then 8 else 0
def iO (n:Nat) (l:List Int):Int:=ed (fun i=>bH n (l.getD i 0) (l.take i)) l.length
def Fo (l:List Int):List Nat:=l.map fun p=>(p - 1).toNat
theorem ms {n:Nat} {p:Int} {o:List Int} (h:bH n p o = 0):1 ≤ p ∧ p ≤ n:=by
 unfold bH at h
 split at h
 ·omega
 ·rename_i c; exact Decidable.not_not.1 c
theorem oP {n : Nat} {l : List Int} (h : iO n l = 0) : ∀ x, x ∈ l → 1 ≤ x ∧ x ≤ n := fun x hx => by
 obtain ⟨i,hi,e⟩:=List.getElem_of_mem hx
 have:=ms (cC h i hi)
 rw [show l.getD i 0 = x by rw [List.getD,List.getElem?_eq_getElem hi,e]; rfl] at this
 exact this
theorem yP {n:Nat} {l:List Int} (h:iO n l = 0):l.map (ap .i64) = ((Fo l).map Nat.succ).map (NT .i64):=by
 rw [Fo,List.map_map,List.map_map]
 refine List.map_congr_left fun p hp=>?_
 have:=oP h p hp
 show ap .i64 p = ap .i64 (((p - 1).toNat + 1:Nat):Int)
 congr 1; omega
theorem y9 (z:List Qi) (Q:List Nat):(nK z Q).length = Q.length:=a9 _ _
theorem y6 {z:List Qi} {Q:List Nat} {L:Nat} (h:bk z L) (hL:1 ≤ L):bk (nK z Q) L:=bk.tab fun i _=>h.get hL _
end
section
open Go Go.RowKit
def ff (js:List (Int × Int)):List Int:=js.flatMap fun q=>[q.1,q.2]
def aR (js:List (Int × Int)):List (Nat × Nat):=js.map fun q=>((q.1 - 1).toNat,(q.2 - 1).toNat)
abbrev d6 (js:List (Int × Int)) (k:Nat):Int × Int:=js.getD k (0,0)
theorem C5 (a b:List (Int × Int)):ff (a ++ b) = ff a ++ ff b:=by simp [ff]
theorem kv {js:List (Int × Int)} {k:Nat} (h:k < js.length):ff (js.take (k + 1)) = ff (js.take k) ++ [(d6 js k).1,(d6 js k).2]:=by
 rw [List.take_succ_eq_append_getElem h,C5]
 simp [ff,d6,List.getD,h]
theorem gn : ∀ (js : List (Int × Int)), (ff js).length = 2 * js.length
 | []=>rfl
 | q :: r => by
  have:=gn r
  have e:ff (q :: r) = q.1 :: q.2 :: ff r:=rfl
  rw [e,List.length_cons,List.length_cons,List.length_cons,this]; omega
theorem vl : ∀ (js : List (Int × Int)) {x : Nat}, x < 2 * js.length → (ff js).getD x 0 = if x % 2 = 0 then (d6 js (x / 2)).1 else (d6 js (x / 2)).2
 | [],x,h=>by simp at h
 | q :: r,0,_=>rfl
 | q :: r,1,_=>rfl
 | q :: r, x + 2, h => by
  have ih:=vl r (x:=x) (by simp only [List.length_cons] at h; omega)
  have e:ff (q :: r) = q.1 :: q.2 :: ff r:=rfl
  rw [e]
  show (ff r).getD x 0 = _
  rw [ih,show (x + 2) % 2 = x % 2 by omega,show (x + 2) / 2 = x / 2 + 1 by omega]
  rfl
theorem uG {js:List (Int × Int)} {k:Nat} (h:k < js.length):pA (aR js) k = ((d6 js k).1 - 1).toNat ∧ pB (aR js) k = ((d6 js k).2 - 1).toNat:=by
 simp [pA,pB,aR,d6,List.getD,h]
theorem EP {js:List (Int × Int)} {x:Nat} (h:x < 2 * js.length):gq (aR js) x = ((ff js).getD x 0 - 1).toNat:=by
 have h2:x / 2 < js.length:=by omega
 rw [vl js h,gq,(uG h2).1,(uG h2).2]
 split <;> rfl
theorem tq {n:Nat} {A:List Int} (h:iO n A = 0) (a:Int):iO n (A ++ [a]) = bH n a A:=by
 rw [iO,List.length_append,List.length_singleton]
 have e : ed (fun i => bH n ((A ++ [a]).getD i 0) ((A ++ [a]).take i)) A.length = 0 := cB fun i hi => by
  have:=cC h i hi
  rw [List.take_append_of_le_length zo]
  have e2:(A ++ [a]).getD i 0 = A.getD i 0:=by simp [List.getD,List.getElem?_append_left hi]
  rw [e2]; exact this
 rw [ed,e,if_neg (by simp),List.take_append_of_le_length (Nat.le_refl _),List.take_length]
 congr 1
 simp [List.getD]
theorem qg {n:Nat} {A:List Int} (h:iO n A = 0) (a b:Int):iO n (A ++ [a,b]) = if bH n a A ≠ 0 then bH n a A else bH n b (A ++ [a]):=by
 have e:A ++ [a,b] = (A ++ [a]) ++ [b]:=by simp
 by_cases c:bH n a A = 0
 ·rw [if_neg (fun k=>k c),e,tq (by rw [tq h]; exact c)]
 ·rw [if_pos c]
  have h1 : ed (fun i => bH n ((A ++ [a, b]).getD i 0) ((A ++ [a, b]).take i)) A.length = 0 := cB fun i hi => by
   have:=cC h i hi
   rw [List.take_append_of_le_length zo]
   have e2:(A ++ [a,b]).getD i 0 = A.getD i 0:=by simp [List.getD,List.getElem?_append_left hi]
   rw [e2]; exact this
  have h2 : bH n ((A ++ [a, b]).getD A.length 0) ((A ++ [a, b]).take A.length) = bH n a A := by
   rw [List.take_append_of_le_length (Nat.le_refl _),List.take_length]
   congr 1
   simp [List.getD]
  rw [iO,fw (k:=A.length) (fun i hi=>cC h1 i hi) (by rw [h2]; exact c) (by simp)]
  exact h2
def jo (z : List Qi) (js : List (Int × Int)) (k : Nat) : Int :=
 if bH z.length (d6 js k).1 (ff (js.take k)) ≠ 0 then bH z.length (d6 js k).1 (ff (js.take k))
 else if bH z.length (d6 js k).2 (ff (js.take k) ++ [(d6 js k).1]) ≠ 0 then bH z.length (d6 js k).2 (ff (js.take k) ++ [(d6 js k).1])
 else if gv z ((d6 js k).1 - 1).toNat = gv z ((d6 js k).2 - 1).toNat then 0 else 40
def k9 (z:List Qi) (js:List (Int × Int)):Int:=ed (jo z js) js.length
theorem xW {z:List Qi} {js:List (Int × Int)} {k:Nat} (h:jo z js k = 0):bH z.length (d6 js k).1 (ff (js.take k)) = 0 ∧ bH z.length (d6 js k).2 (ff (js.take k) ++ [(d6 js k).1]) = 0 ∧ gv z ((d6 js k).1 - 1).toNat = gv z ((d6 js k).2 - 1).toNat:=by
 unfold jo at h
 by_cases c1:bH z.length (d6 js k).1 (ff (js.take k)) = 0
 ·rw [if_neg (fun k => k c1)] at h
  by_cases c2:bH z.length (d6 js k).2 (ff (js.take k) ++ [(d6 js k).1]) = 0
  ·rw [if_neg (fun k => k c2)] at h
   by_cases c3:gv z ((d6 js k).1 - 1).toNat = gv z ((d6 js k).2 - 1).toNat
   ·exact ⟨c1,c2,c3⟩
   ·rw [if_neg c3] at h; omega
  ·rw [if_pos c2] at h; exact absurd h c2
 ·rw [if_pos c1] at h; exact absurd h c1
theorem G4 {z : List Qi} {js : List (Int × Int)} : ∀ {k : Nat}, k ≤ js.length → (∀ j, j < k → jo z js j = 0) → iO z.length (ff (js.take k)) = 0
 | 0,_,_=>rfl
 | k + 1, hk, h => by
  have ih:=G4 (z:=z) (js:=js) (k:=k) zo fun j hj=>h j zo
  obtain ⟨h1,h2,_⟩:=xW (h k zo)
  rw [kv zo,qg ih,if_neg (fun k=>k h1)]; exact h2
theorem wk {z:List Qi} {js:List (Int × Int)} {k:Nat} (hk:k < js.length) (h:∀ j,j < k → jo z js j = 0):jo z js k = if iO z.length (ff (js.take (k + 1))) ≠ 0 then iO z.length (ff (js.take (k + 1))) else if gv z ((d6 js k).1 - 1).toNat = gv z ((d6 js k).2 - 1).toNat then 0 else 40:=by
 have hp:=G4 (z:=z) (Nat.le_of_lt hk) h
 rw [kv hk,qg hp,jo]
 by_cases c1:bH z.length (d6 js k).1 (ff (js.take k)) = 0
 ·simp only [c1,ne_eq,not_true_eq_false,if_false,ite_false]
 ·simp only [c1,ne_eq,not_false_eq_true,if_true,ite_true]
theorem rl {z:List Qi} {js:List (Int × Int)} (h:k9 z js = 0):iO z.length (ff js) = 0:=by
 have:=G4 (z:=z) (Nat.le_refl js.length) (cC h)
 rwa [List.take_length] at this
theorem xb {n : Nat} {p : Int} {o : List Int} (h : bH n p o = 0) : p ∉ o := fun hm => by
 have h1:=ms h
 unfold bH at h
 rw [if_neg (fun k=>k h1),if_pos (List.any_eq_true.2 ⟨p,hm,by simp⟩)] at h
 omega
theorem Bj {n:Nat} {l:List Int} (h:iO n l = 0) {x y:Nat} (hx:x < l.length) (hy:y < l.length) (e:l.getD x 0 = l.getD y 0):x = y:=by
 have key : ∀ x y, x < y → y < l.length → l.getD x 0 ≠ l.getD y 0 := fun x y hxy hy e => by
  refine xb (cC h y hy) ?_
  rw [← e]
  have e2:l.getD x 0 = l[x]'zo:=by simp [List.getD,show x < l.length by omega]
  rw [e2]
  exact List.mem_take_iff_getElem.2 ⟨x,by omega,rfl⟩
 rcases Nat.lt_trichotomy x y with c | c | c
 ·exact absurd e (key x y c hy)
 ·exact c
 ·exact absurd e.symm (key y x c hx)
theorem lw {z:List Qi} {js:List (Int × Int)} (h:k9 z js = 0):Jn (aR js) z.length js.length:=by
 have hp:=rl h
 have hl:=gn js
 have hr : ∀ x, x < 2 * js.length → 1 ≤ (ff js).getD x 0 ∧ (ff js).getD x 0 ≤ z.length := fun x hx => oP hp _ (by
  rw [show (ff js).getD x 0 = (ff js)[x]'zo by simp [List.getD,show x < (ff js).length by omega]]; exact List.getElem_mem _)
 refine ⟨fun x hx=>?_,fun x y hx hy e=>?_⟩
 ·rw [EP hx]; have:=hr x hx; omega
 ·rw [EP hx, EP hy] at e
  have h1:=hr x hx; have h2:=hr y hy
  exact Bj hp zo zo zo
def gO (js:List (Int × Int)):List Nat:=(ff js).map fun p=>(p - 1).toNat
def bN (z:List Qi) (js:List (Int × Int)):List Nat:=gC (gO js) z.length
def rI (z:List Qi) (S:List (List Qi)) (js:List (Int × Int)):Int:=ed (fun y=>et (gk S (aR js) (2 * js.length)) (px S (aR js) (2 * js.length) ((bN z js).getD y 0)) (2 * js.length)) (bN z js).length
def jV (z : List Qi) (S : List (List Qi)) (js : List (Int × Int)) : Int :=
 if k9 z js ≠ 0 then k9 z js else if js.length = 0 then 0 else if 2 * js.length = z.length then 4 else if rI z S js = 0 then 0 else 6
def Ce (z:List Qi) (js:List (Int × Int)):List Qi:=nK z (bN z js)
def yp (z:List Qi) (S:List (List Qi)) (js:List (Int × Int)):List (List Qi):=tab (bN z js).length fun x=>tab (bN z js).length fun y=>pz S (aR js) (2 * js.length) (cO (bN z js) x) (cO (bN z js) y)
def jY (z:List Qi) (S:List (List Qi)) (js:List (Int × Int)):List Qi:=bq (jV z S js) (if js.length = 0 then z else Ce z js)
def lb (z:List Qi) (S:List (List Qi)) (js:List (Int × Int)):List (List Qi):=bq (jV z S js) (if js.length = 0 then S else yp z S js)
theorem om (js:List (Int × Int)):(gO js).length = 2 * js.length:=by rw [gO,List.length_map,gn]
theorem ru {js:List (Int × Int)} {j:Nat}:j ∈ gO js ↔ ∃ x,x < 2 * js.length ∧ gq (aR js) x = j:=by
 constructor
 ·intro h
  obtain ⟨p,hp,rfl⟩:=List.mem_map.1 h
  obtain ⟨x,hx,e⟩:=List.getElem_of_mem hp
  have hl:=gn js
  refine ⟨x,by omega,?_⟩
  rw [EP zo,show (ff js).getD x 0 = p by rw [← e]; simp [List.getD,hx]]
 ·rintro ⟨x, hx, rfl⟩
  have hl:=gn js
  rw [EP hx]
  refine List.mem_map.2 ⟨(ff js).getD x 0,?_,rfl⟩
  rw [show (ff js).getD x 0 = (ff js)[x]'zo by simp [List.getD,show x < (ff js).length by omega]]; exact List.getElem_mem _
theorem Bo {z:List Qi} {js:List (Int × Int)} (h:k9 z js = 0):ll (jh z.length (aR js) js.length) z.length = bN z js:=vj (lw h) (fun j=>ru) z.length (Nat.le_refl _)
theorem tG {z : List Qi} {js : List (Int × Int)} {y : Nat} (hy : y < (bN z js).length) : (bN z js).getD y 0 < z.length := tS (by
 rw [show (bN z js).getD y 0 = (bN z js)[y] by simp [List.getD,hy]]; exact List.getElem_mem hy)
end
section
open Go Go.RowKit
theorem tl (M:List (List Qi)) (n:Nat):bE (tw M n) n n:=bE.tab
theorem ky (M:List (List Qi)) (b:List Qi) (n:Nat):(fd M b n).length = n:=lX _ _ _
theorem uW {M : List (List Qi)} {b : List Qi} {n L : Nat} (h : bE M n n) (hM : aL M L) (hb : bk b L) (hL : 1 ≤ L) (hE : et M b n = 0) : bk (fd M b n) (ji (b5 L n) n) := yT h hM hb hL (by
 unfold et at hE
 by_cases e:0 ≤ (lk M b n).2.2
 ·rw [if_pos e] at hE; omega
 ·omega)
theorem sD {M:List (List Qi)} {n:Nat} (h:tR M n = 0):∀ k,k < n → et M (ek n k) n = 0:=cC h
theorem nb {G H : Nat} (h : G ≤ H) : ∀ j, ji G j ≤ ji H j
 | 0=>h
 | j + 1 => by
  have:=nb h j
  have h2:j * (ji G j + G + 2) ≤ j * (ji H j + H + 2):=Nat.mul_le_mul_left _ zo
  simp only [ji]; omega
theorem jK {n i j:Nat} (hi:i < n) (hj:j < n):gm (mL n) i j = if i = j then 1 else 0:=by
 show gv ((mL n).getD i []) j = _
 rw [mL,jv hi,ga,mQ (by rw [a9]; exact hi)]
 by_cases e:j = i
 ·subst e; rw [if_pos rfl,if_pos rfl]; rfl
 ·rw [if_neg e,if_neg (Ne.symm e),g9 hj]; rfl
theorem j9 {a b:List (List Qi)} {n m:Nat} (ha:bE a n m) (hb:bE b n m) (h:∀ i,i < n → ∀ j,j < m → gm a i j = gm b i j):a = b:=by
 rw [lh ha,lh hb]
 exact bf fun i hi=>bf fun j hj=>h i hi j hj
end
section
open Go Go.RowKit
def t4 (q:Int × Int):List Int:=[q.1,q.2]
abbrev JT (q:Int × Int):Ty:=bO [ap .i64 q.1,ap .i64 q.2]
abbrev te (js:List (Int × Int)):Ty:=eN 2 (js.map JT)
theorem Cf {q : Int × Int} : ∀ {i : Nat}, i < 2 → ([ap .i64 q.1, ap .i64 q.2] : List Ty)[i]? = some (ap .i64 ((t4 q).getD i 0))
 | 0,_=>rfl
 | 1,_=>rfl
theorem yl {q : Int × Int} : ∀ {i : Nat}, i < 2 → (t4 q).take (i + 1) = (t4 q).take i ++ [(t4 q).getD i 0]
 | 0,_=>rfl
 | 1,_=>rfl
abbrev qO (z:List Qi) (js:List (Int × Int)) (k i:Nat):Int:=bH z.length ((t4 (d6 js k)).getD i 0) (ff (js.take k) ++ (t4 (d6 js k)).take i)
theorem FO {z : List Qi} {js : List (Int × Int)} {k : Nat} : ∀ {i : Nat}, i < 2 → (∀ x, x < i → qO z js k x = 0) → qO z js k i ≠ 0 → jo z js k = qO z js k i
 | 0, _, _, h => by
  have e:qO z js k 0 = bH z.length (d6 js k).1 (ff (js.take k)):=by simp [qO,t4]
  rw [e] at h ⊢
  rw [jo,if_pos h]
 | 1, _, h0, h => by
  have e0:qO z js k 0 = bH z.length (d6 js k).1 (ff (js.take k)):=by simp [qO,t4]
  have e:qO z js k 1 = bH z.length (d6 js k).2 (ff (js.take k) ++ [(d6 js k).1]):=by simp [qO,t4]
  have h1:=h0 0 zo
  rw [e0] at h1
  rw [e] at h ⊢
  rw [jo,if_neg (fun k=>k h1),if_pos h]
theorem FF {z : List Qi} {js : List (Int × Int)} {k : Nat} (h : ∀ x, x < 2 → qO z js k x = 0) : (1 ≤ (d6 js k).1 ∧ (d6 js k).1 ≤ z.length) ∧ (1 ≤ (d6 js k).2 ∧ (d6 js k).2 ≤ z.length) ∧
  jo z js k = if gv z ((d6 js k).1 - 1).toNat = gv z ((d6 js k).2 - 1).toNat then 0 else 40:=by
 have e0:qO z js k 0 = bH z.length (d6 js k).1 (ff (js.take k)):=by simp [qO,t4]
 have e:qO z js k 1 = bH z.length (d6 js k).2 (ff (js.take k) ++ [(d6 js k).1]):=by simp [qO,t4]
 have h0:=h 0 zo
 have h1:=h 1 zo
 rw [e0] at h0
 rw [e] at h1
 exact ⟨ms h0,ms h1,by rw [jo,if_neg (fun k=>k h0),if_neg (fun k=>k h1)]⟩
def nw (z:List Qi) (js:List (Int × Int)):Int:=if k9 z js ≠ 0 then k9 z js else if 0 < 2 * js.length ∧ 2 * js.length = z.length then 4 else 0
def DF (z:List Qi) (js:List (Int × Int)):List Int:=bq (nw z js) (ff js)
theorem rE {z:List Qi} {js:List (Int × Int)} (h:k9 z js ≠ 0):nw z js = k9 z js:=if_pos h
theorem uY {z:List Qi} {js:List (Int × Int)} (h:k9 z js = 0) (h2:0 < 2 * js.length ∧ 2 * js.length = z.length):nw z js = 4:=by rw [nw,if_neg (fun k=>k h),if_pos h2]
theorem vE {z:List Qi} {js:List (Int × Int)} (h:k9 z js = 0) (h2:¬ (0 < 2 * js.length ∧ 2 * js.length = z.length)):nw z js = 0:=by rw [nw,if_neg (fun k=>k h),if_neg h2]
theorem lV {z:List Qi} {js:List (Int × Int)} (h:nw z js = 0):k9 z js = 0 ∧ ¬ (0 < 2 * js.length ∧ 2 * js.length = z.length):=by
 unfold nw at h
 by_cases c:k9 z js = 0
 ·refine ⟨c, fun h2 => ?_⟩
  rw [if_neg (fun k=>k c),if_pos h2] at h
  omega
 ·rw [if_pos c] at h; exact absurd h c
theorem wc {z:List Qi} {S:List (List Qi)} {js:List (Int × Int)} (h:nw z js ≠ 0):jV z S js = nw z js:=by
 unfold jV nw at *
 by_cases c:k9 z js ≠ 0
 ·rw [if_pos c,if_pos c]
 ·rw [if_neg c] at h
  rw [if_neg c,if_neg c]
  by_cases d:0 < 2 * js.length ∧ 2 * js.length = z.length
  ·rw [if_neg zo,if_pos d.2,if_pos d]
  ·rw [if_neg d] at h; exact absurd rfl h
theorem vJ {z:List Qi} {S:List (List Qi)} {js:List (Int × Int)} (h:nw z js = 0) (h2:js.length = 0):jV z S js = 0:=by
 obtain ⟨h1,_⟩:=lV h
 rw [jV,if_neg (fun k=>k h1),if_pos h2]
theorem oz {z:List Qi} {S:List (List Qi)} {js:List (Int × Int)} (h:nw z js = 0) (h2:js.length ≠ 0):jV z S js = if rI z S js = 0 then 0 else 6:=by
 obtain ⟨h1,h3⟩:=lV h
 rw [jV,if_neg (fun k=>k h1),if_neg h2,if_neg zo]
theorem FJ : ∀ {n m : Nat} {f : Nat → Nat}, (∀ x, x < m → f x < n) → (∀ x y, x < m → y < m → f x = f y → x = y) → m ≤ n
 | 0, m, f, h, _ => by
  cases m with
  | zero=>exact Nat.le_refl 0
  | succ m=>exact absurd (h 0 zo) zo
 | n + 1,0,_,_,_=>by omega
 | n + 1, k + 1, f, h, i => by
  have := FJ (n := n) (m := k) (f := fun x => if f x = n then f k else f x) (fun x hx => by
   have h1:=h x zo
   have h2:=h k zo
   by_cases c:f x = n
   ·simp only [if_pos c]
    have:f k ≠ n:=fun e=>by have:=i x k zo zo (by rw [c,e]); omega
    omega
   ·simp only [if_neg c]; omega) (fun x y hx hy e=>by
   by_cases c:f x = n <;> by_cases d:f y = n
   ·exact i x y zo zo (by rw [c,d])
   ·simp only [if_pos c, if_neg d] at e
    have:=i k y zo zo e; omega
   ·simp only [if_neg c, if_pos d] at e
    have:=i x k zo zo e; omega
   ·simp only [if_neg c, if_neg d] at e
    exact i x y zo zo e)
  omega
theorem oC {z:List Qi} {js:List (Int × Int)} (h:k9 z js = 0):2 * js.length ≤ z.length:=by
 have hj:=lw h
 exact FJ (f:=gq (aR js)) hj.lt hj.inj
theorem yQ {z:List Qi} {js:List (Int × Int)} (h:k9 z js = 0):(ff js).map (ap .i64) = ((gO js).map Nat.succ).map (NT .i64):=yP (rl h)
theorem rh {js:List (Int × Int)} {x:Nat} (h:x < 2 * js.length):(gO js).getD x 0 = gq (aR js) x:=by
 have hl:=gn js
 rw [EP h,gO]
 simp [List.getD,show x < (ff js).length by omega]
theorem yJ (G:List Nat):(D0 G).map (ap .i64) = (G.map Nat.succ).map (NT .i64):=by
 simp only [D0,List.map_map]
 refine List.map_congr_left fun x _=>?_
 simp [Function.comp,NT]
theorem lT (js:List (Int × Int)):(aR js).length = js.length:=by simp [aR]
theorem xP {js:List (Int × Int)} {k:Nat} (h:k < js.length):(aR js).take (k + 1) = (aR js).take k ++ [(((d6 js k).1 - 1).toNat,((d6 js k).2 - 1).toNat)]:=by
 rw [List.take_succ_eq_append_getElem (by rw [lT]; exact h)]
 simp [aR,List.getD,h]
theorem ER {js:List (Int × Int)} {n k:Nat} (h:iO n (ff (js.take (k + 1))) = 0) (hk:k < js.length):(1 ≤ (d6 js k).1 ∧ (d6 js k).1 ≤ n) ∧ (1 ≤ (d6 js k).2 ∧ (d6 js k).2 ≤ n):=by
 rw [kv hk] at h
 exact ⟨oP h _ (by simp),oP h _ (by simp)⟩
theorem vZ {G : List Nat} {j : Nat} (h : j ∉ G) : ∀ {k : Nat}, j < k → j ∈ gC G k
 | k + 1, hk => by
  rw [gC,List.mem_append]
  by_cases e:j = k
  ·subst e; exact .inr (by rw [if_neg h]; simp)
  ·exact .inl (vZ h zo)
theorem uq {z:List Qi} {js:List (Int × Int)} (h:k9 z js = 0) (h2:2 * js.length ≠ z.length):1 ≤ (bN z js).length:=by
 by_cases c:(bN z js).length = 0
 ·have hn : bN z js = [] := List.eq_nil_of_length_eq_zero c
  have hm : ∀ j, j < z.length → ∃ x, x < 2 * js.length ∧ gq (aR js) x = j := fun j hj => by
   by_cases d:j ∈ gO js
   ·exact ru.1 d
   ·have := vZ d hj
    rw [show gC (gO js) z.length = [] from hn] at this
    cases this
  have:=oC h
  have h3 : z.length ≤ 2 * js.length := FJ (f := fun j => if hj : j < z.length then Classical.choose (hm j hj) else 0) (fun j hj => by
   simp only [dif_pos hj]; exact (Classical.choose_spec (hm j hj)).1) (fun x y hx hy e=>by
   simp only [dif_pos hx,dif_pos hy] at e
   rw [← (Classical.choose_spec (hm x hx)).2,← (Classical.choose_spec (hm y hy)).2,e])
  omega
 ·omega
theorem sl {f:Nat → Int} {n:Nat} (h:ed f n ≠ 0):∃ y,y < n ∧ f y ≠ 0:=by
 by_cases c:∃ y,y < n ∧ f y ≠ 0
 ·exact c
 ·exact absurd (cB fun y hy => by
   by_cases d:f y = 0
   ·exact d
   ·exact absurd ⟨y,hy,d⟩ c) h
theorem DZ {z : List Qi} {S : List (List Qi)} {js : List (Int × Int)} (h : k9 z js = 0) (h0 : js.length ≠ 0) (h2 : 2 * js.length ≠ z.length) :
  (xE S (jh z.length (aR js) (aR js).length) z.length (ll (jh z.length (aR js) (aR js).length) z.length) = jV z S js) ∧
  (bq (jV z S js) ((ll (jh z.length (aR js) (aR js).length) z.length).map fun l=>gv z l) = jY z S js) ∧
  (bq (jV z S js) (tab (ll (jh z.length (aR js) (aR js).length) z.length).length fun x=>tab (ll (jh z.length (aR js) (aR js).length) z.length).length fun y=>wE S (jh z.length (aR js) (aR js).length) z.length (ll (jh z.length (aR js) (aR js).length) z.length) x y) = lb z S js):=by
 rw [lT,Bo h]
 have hp:=uq h h2
 have hj:=lw h
 have hs:jV z S js = if rI z S js = 0 then 0 else 6:=oz (vE h zo) h0
 by_cases e:rI z S js = 0
 ·rw [if_pos e] at hs
  obtain ⟨c1,c2⟩:=FH (S:=S) hj (fun y hy=>tG hy) hp (fun y hy=>cC e y hy)
  refine ⟨c1.trans hs.symm,?_,?_⟩
  ·rw [jY, hs, if_neg h0, Ce, nK]
   exact congrArg _ (kz (bN z js) (gv z)).symm
  ·rw [lb, hs, if_neg h0, yp]
   exact congrArg _ (bf fun x hx=>bf fun y hy=>c2 x y hx hy)
 ·rw [if_neg e] at hs
  obtain ⟨y,hy,h3⟩:=sl e
  refine ⟨(ED hj hp h3).trans hs.symm,?_,?_⟩
  ·rw [jY,hs]; rfl
  ·rw [lb,hs]; rfl
theorem w9 (x : Qi) (l m : List Qi) : ∀ k, lm x l m k = x + ah k fun y => gv l y * gv m y
 | 0=>by rw [lm,ah,show Qi.zero = (0:Qi) from rfl]; grind
 | k + 1=>by rw [lm,w9 x l m k,ah]; grind
theorem ym {S:List (List Qi)} {ps:List (Nat × Nat)} {m a b:Nat}:lm (gm S a b) (tab m fun x=>gm S a (gq ps x)) (fd (gk S ps m) (px S ps m b) m) m = pz S ps m a b:=by
 rw [w9,pz]
 congr 1
 exact av fun y hy=>by rw [g9 hy]
theorem mc {S : List (List Qi)} {ps : List (Nat × Nat)} {m L : Nat} (hf : aL S L) (hL : 1 ≤ L) : aL (gk S ps m) (L + 2) := aL.tab fun x y _ _ => by
 haveI h1:=hf.get hL (gq ps (de x)) (gq ps y)
 haveI h2 : ao (if x = y then Qi.ofInt 1 else Qi.ofInt 0) 1 := by
  split
  ·exact mt
  ·exact (ao.zero (Nat.le_refl 1):ao Qi.zero 1)
 exact (fitSub:ao (_ - _) (1 + L + 1)).le zo
theorem uP {S:List (List Qi)} {ps:List (Nat × Nat)} {m b L:Nat} (hf:aL S L) (hL:1 ≤ L):bk (px S ps m b) L:=bk.tab fun x _=>hf.get hL _ _
theorem Bt {S:List (List Qi)} {ps:List (Nat × Nat)} {m a b L G:Nat} (hf:aL S L) (hL:1 ≤ L) (hG:ji (b5 (L + 2) m) m ≤ G) (hE:et (gk S ps m) (px S ps m b) m = 0):ao (pz S ps m a b) (L + m * (2 * G + 2)):=by
 have h1:L + 2 ≤ G:=Nat.le_trans (Nat.le_trans (it (L + 2) m) (pg _ _)) hG
 rw [← ym]
 exact pn (hf.get hL a b) (bk.tab fun x _=>(hf.get hL a (gq ps x)).le zo) ((uW (gx S ps m) (mc hf hL) ((uP hf hL).le zo) zo hE).le hG) zo m
theorem By {z:List Qi} {S:List (List Qi)} {js:List (Int × Int)} {L G:Nat} (hf:aL S L) (hL:1 ≤ L) (hG:nw z js = 0 → ji (b5 (L + 2) (2 * js.length)) (2 * js.length) ≤ G) (hB:∀ m,m = 2 * js.length → nw z js = 0 → L + m * (2 * G + 2) ≤ 900000000000):aL (lb z S js) 900000000000:=by
 by_cases h:jV z S js = 0
 ·have hj : nw z js = 0 := by
   by_cases c:nw z js = 0
   ·exact c
   ·rw [wc c] at h; exact absurd h c
  by_cases h0:js.length = 0
  ·rw [lb, bq, if_pos h, if_pos h0]
   exact hf.le (Nat.le_trans (Nat.le_add_right _ _) (hB _ rfl hj))
  ·have hs := oz (S := S) hj h0
   rw [h] at hs
   have he : rI z S js = 0 := by
    by_cases c:rI z S js = 0
    ·exact c
    ·rw [if_neg c] at hs; omega
   rw [lb,bq,if_pos h,if_neg h0,yp]
   refine aL.tab fun i j _ hj2=>(Bt hf hL (hG hj) (cC he j hj2)).le (hB _ rfl hj)
 ·rw [lb, bq, if_neg h]
  exact fun r hr=>by cases hr
theorem AY {z:List Qi} {S:List (List Qi)} {js:List (Int × Int)} {L M:Nat} (h:bk z L) (hL:1 ≤ L) (hM:L ≤ M):bk (jY z S js) M:=by
 refine rp ?_
 split
 ·exact h.le hM
 ·exact (y6 h hL).le hM
theorem E8 {z:List Qi} {S:List (List Qi)} {js:List (Int × Int)} (hS:bE S z.length z.length):bE (lb z S js) (jY z S js).length (jY z S js).length ∧ (jY z S js).length ≤ z.length:=by
 by_cases h:jV z S js = 0
 ·by_cases h0 : js.length = 0
  ·rw [lb,jY,bq,bq,if_pos h,if_pos h,if_pos h0,if_pos h0]; exact ⟨hS,Nat.le_refl _⟩
  ·rw [lb,jY,bq,bq,if_pos h,if_pos h,if_neg h0,if_neg h0,Ce,y9]; exact ⟨bE.tab,j4 _ _⟩
 ·rw [lb,jY,bq,bq,if_neg h,if_neg h]; exact ⟨⟨rfl,fun r hr=>by cases hr⟩,Nat.zero_le _⟩
end
section
open Go Go.RowKit
def ln (i j:Nat):Qi:=if i = j then Qi.ofInt 1 else Qi.ofInt 0
theorem qN (i j:Nat):ao (ln i j) 1:=by
 unfold ln; split
 ·exact mt
 ·exact ao.zero (Nat.le_refl 1)
end
section
open Go Go.RowKit
section
variable {φ:Qi → Qi → Bool} {z:List Qi} {js:List (Int × Int)}
end
theorem jf {a b:List (List Qi)} {n k m i j:Nat} (hi:i < n) (hj:j < m):gm (gj a b n k m) i j = ah k fun t=>gm a i t * gm b t j:=jd hi hj
theorem Cv {A : List (List Qi)} {n : Nat} (h : bE A n n) : gj (mL n) A n n n = A := j9 iI h fun i hi j hj => by
 rw [jf hi hj,cf hi (f:=fun t=>gm (mL n) i t * gm A t j) fun k hk hne=>by rw [jK hi hk,if_neg (Ne.symm hne)]; grind,jK hi hi,if_pos rfl]; grind
theorem AC {A : List (List Qi)} {n : Nat} (h : bE A n n) : gj A (mL n) n n n = A := j9 iI h fun i hi j hj => by
 rw [jf hi hj,cf hj (f:=fun t=>gm A i t * gm (mL n) t j) fun k hk hne=>by rw [jK hk hj,if_neg hne]; grind,jK hj hj,if_pos rfl]; grind
abbrev Gf (js:List (Int × Int)) (k:Nat):Nat:=((d6 js k).1 - 1).toNat
abbrev Gh (js:List (Int × Int)) (k:Nat):Nat:=((d6 js k).2 - 1).toNat
theorem Fd {js:List (Int × Int)} {k:Nat} (h:k < js.length):gq (aR js) (2 * k) = Gf js k ∧ gq (aR js) (2 * k + 1) = Gh js k:=by
 obtain ⟨h1,h2⟩:=uG h
 rw [jJ,lE]; exact ⟨h1,h2⟩
def Fi:Qi:=Qi.frac 1 0 2
section
variable {js:List (Int × Int)} {n:Nat}
end
theorem oj : ∀ n, gC [] n = tab n fun i => i
 | 0=>rfl
 | n + 1=>by rw [gC,oj n,ie]; rfl
end
section
open Go Go.RowKit
structure qy (O:List Nat) (n:Nat):Prop where
 nd:O.Nodup
 all:∀ x,x ∈ O ↔ 1 ≤ x ∧ x ≤ n
theorem qy.len {O:List Nat} {n:Nat} (h:qy O n):O.length = n:=by
 refine Nat.le_antisymm ?_ ?_
 ·refine FJ (n := n) (f := fun i => O.getD i 0 - 1) (fun x hx => ?_) (fun x y hx hy e => ?_)
  ·have := (h.all (O.getD x 0)).1 (by rw [show O.getD x 0 = O[x] by simp [List.getD, hx]]; exact List.getElem_mem hx)
   show O.getD x 0 - 1 < n; omega
  ·have a := (h.all (O.getD x 0)).1 (by rw [show O.getD x 0 = O[x] by simp [List.getD, hx]]; exact List.getElem_mem hx)
   have b:=(h.all (O.getD y 0)).1 (by rw [show O.getD y 0 = O[y] by simp [List.getD,hy]]; exact List.getElem_mem hy)
   have e2:O.getD x 0 = O.getD y 0:=by have:O.getD x 0 - 1 = O.getD y 0 - 1:=e; omega
   rw [show O.getD x 0 = O[x] by simp [List.getD,hx],show O.getD y 0 = O[y] by simp [List.getD,hy]] at e2
   exact (List.getElem_inj h.nd).1 e2
 ·have key : ∀ j, j < n → ∃ i, i < O.length ∧ O.getD i 0 = j + 1 := fun j hj => by
   obtain ⟨i,hi,e⟩:=List.getElem_of_mem ((h.all (j + 1)).2 ⟨by omega,by omega⟩)
   exact ⟨i,hi,by simp [List.getD,hi,e]⟩
  refine FJ (n:=O.length) (f:=fun j=>if hj:j < n then Classical.choose (key j hj) else 0) (fun x hx=>by simp only [dif_pos hx]; exact (Classical.choose_spec (key x hx)).1) (fun x y hx hy e=>?_)
  simp only [dif_pos hx,dif_pos hy] at e
  have a:=(Classical.choose_spec (key x hx)).2
  have b:=(Classical.choose_spec (key y hy)).2
  rw [e] at a; omega
section
variable {O:List Nat} {n:Nat}
theorem qy.at (h:qy O n) {i:Nat} (hi:i < n):1 ≤ O.getD i 0 ∧ O.getD i 0 ≤ n:=by
 have hl:=h.len
 exact (h.all _).1 (by rw [show O.getD i 0 = O[i] by simp [List.getD,show i < O.length by omega]]; exact List.getElem_mem _)
theorem qy.inj (h:qy O n) {i j:Nat} (hi:i < n) (hj:j < n) (e:O.getD i 0 = O.getD j 0):i = j:=by
 have hl:=h.len
 rw [show O.getD i 0 = O[i] by simp [List.getD,show i < O.length by omega],show O.getD j 0 = O[j] by simp [List.getD,show j < O.length by omega]] at e
 exact (List.getElem_inj h.nd).1 e
end
end
section
open Go Go.RowKit
theorem mu {M:List (List Qi)} {b:List Qi} {n:Nat} (h:bE M n n):et M b n = 0 ↔ ∀ y:Nat → Qi,(∀ i,i < n → ah n (fun k=>gm M i k * y k) = 0) → ∀ k,k < n → y k = 0:=by
 constructor
 ·intro e; exact (gW h e).2
 ·intro hk
  apply Classical.byContradiction; intro e
  obtain ⟨y,hy,k,hkn,hne⟩:=lU h e
  exact hne (hk y hy k hkn)
section
variable {S:List (List Qi)} {p q r t a b:Nat}
theorem AJ {x y:Qi} (h:x - y = 0):x = y:=by grind
end
section
variable {S:Nat → Nat → Qi} {p q r t a b:Nat}
def S1 (S:Nat → Nat → Qi) (p q:Nat) (V:Nat → Qi × Qi) (a b:Nat):Qi:=S a b + (S a p * (V b).1 + S a q * (V b).2)
variable {V:Nat → Qi × Qi}
end
end
section
open Go Go.RowKit
def low (c a b:Nat):Nat:=c - (if a < c then 1 else 0) - (if b < c then 1 else 0)
def okP (N p q r t : Nat) : Bool :=
 decide ((gC [p,q] N).length = N - 2) && decide (low r p q < N - 2) && decide (low t p q < N - 2) && decide (low r p q ≠ low t p q) && decide (cO (gC [p,q] N) (low r p q) = r) && decide (cO (gC [p,q] N) (low t p q) = t)
 && decide ((gC [low r p q,low t p q] (N - 2)).map (cO (gC [p,q] N)) = gC [p,q,r,t] N) && decide ((gC [p,q,r,t] N).length = N - 4) && decide (gC [t,r,p,q] N = gC [p,q,r,t] N) && decide (gC [r,t,p,q] N = gC [p,q,r,t] N)
section
variable {z:List Qi} {S:List (List Qi)} {N p q r t:Nat} {ζ:Qi}
end
end
section
open Go Go.RowKit
def Gb (x:Qi) (N:Nat):Prop:=∃ p q:Int,x = Qi.mk (p:Rat) (q:Rat) ∧ p.natAbs ≤ N ∧ q.natAbs ≤ N
theorem Gb.le {x:Qi} {N M:Nat} (h:Gb x N) (k:N ≤ M):Gb x M:=by
 obtain ⟨p,q,e,h1,h2⟩:=h; exact ⟨p,q,e,by omega,by omega⟩
theorem Gb.add {x y:Qi} {N M:Nat} (h:Gb x N) (k:Gb y M):Gb (x + y) (N + M):=by
 obtain ⟨p,q,rfl,h1,h2⟩:=h; obtain ⟨r,s,rfl,k1,k2⟩:=k
 refine ⟨p + r,q + s,Qi.ext' ?_ ?_,by omega,by omega⟩
 ·show (p:Rat) + (r:Rat) = ((p + r:Int):Rat); push_cast; rfl
 ·show (q:Rat) + (s:Rat) = ((q + s:Int):Rat); push_cast; rfl
theorem Gb.neg {x:Qi} {N:Nat} (h:Gb x N):Gb (-x) N:=by
 obtain ⟨p,q,rfl,h1,h2⟩:=h
 refine ⟨-p,-q,Qi.ext' ?_ ?_,by omega,by omega⟩
 ·show -(p:Rat) = ((-p:Int):Rat); push_cast; rfl
 ·show -(q:Rat) = ((-q:Int):Rat); push_cast; rfl
theorem Gb.sub {x y:Qi} {N M:Nat} (h:Gb x N) (k:Gb y M):Gb (x - y) (N + M):=by rw [Qi.sub_def]; exact h.add k.neg
theorem iX {p q:Int} {N M:Nat} (h:p.natAbs ≤ N) (k:q.natAbs ≤ M):(p * q).natAbs ≤ N * M:=by rw [Int.natAbs_mul]; exact Nat.mul_le_mul h k
theorem Gb.mul {x y:Qi} {N M:Nat} (h:Gb x N) (k:Gb y M):Gb (x * y) (2 * N * M):=by
 obtain ⟨p,q,rfl,h1,h2⟩:=h; obtain ⟨r,s,rfl,k1,k2⟩:=k
 have a1:=iX h1 k1; have a2:=iX h2 k2; have a3:=iX h1 k2; have a4:=iX h2 k1
 have e:2 * N * M = N * M + N * M:=by rw [Nat.mul_assoc,Nat.two_mul]
 refine ⟨p * r - q * s,p * s + q * r,Qi.ext' ?_ ?_,by omega,by omega⟩
 ·rw [Qi.mul_re]; show (p:Rat) * (r:Rat) - (q:Rat) * (s:Rat) = ((p * r - q * s:Int):Rat); push_cast; rfl
 ·rw [Qi.mul_im]; show (p:Rat) * (s:Rat) + (q:Rat) * (r:Rat) = ((p * s + q * r:Int):Rat); push_cast; rfl
theorem Gb.sum {f : Nat → Qi} {N : Nat} : ∀ {n : Nat}, (∀ k, k < n → Gb (f k) N) → Gb (ah n f) (n * N)
 | 0,_=>⟨0,0,Qi.ext' rfl rfl,by simp,by simp⟩
 | n + 1, h => by
  rw [ah,Nat.succ_mul]
  exact (Gb.sum fun k hk=>h k zo).add (h n zo)
theorem Gb.fit {x:Qi} {N L:Nat} (h:Gb x N) (hN:N < BB ^ L) (hL:1 ≤ L):ao x L:=by
 obtain ⟨p,q,rfl,h1,h2⟩:=h
 have e:Qi.mk (p:Rat) (q:Rat) = Qi.mk' p q 1:=Qi.ext' (by rw [Qi.mk_re]; show (p:Rat) = p / ((1:Nat):Rat); grind) (by rw [Qi.mk_im]; show (q:Rat) = q / ((1:Nat):Rat); grind)
 rw [e]
 exact ⟨Qi.Fit.mk (by decide) zo zo (Qi.one_lt hL)⟩
theorem jO (n:Nat) (f:Nat → Qi):ah (n + 1) f = f 0 + ah n fun k=>f (k + 1):=by
 rw [Nat.add_comm n 1,k8,pk]
 exact congrArg _ (av fun k _=>by rw [Nat.add_comm])
def fs : Nat → Nat → Nat
 | 0,_=>1
 | n + 1,N=>2 * (n + 1) * N * fs n (4 * N * N)
theorem tW {F:Nat → Nat → Qi} {n:Nat} {x:Nat → Qi}:mf F (n + 1) (n + 1) x ↔ (F 0 0 * x 0 + ah n (fun k=>F 0 (k + 1) * x (k + 1)) = 0) ∧ ∀ i,i < n → F (i + 1) 0 * x 0 + ah n (fun k=>F (i + 1) (k + 1) * x (k + 1)) = 0:=by
 constructor
 ·intro h
  exact ⟨by have:=h 0 zo; rwa [jO] at this,fun i hi=>by have:=h (i + 1) zo; rwa [jO] at this⟩
 ·rintro ⟨h1, h2⟩ i hi
  rw [jO]
  cases i with
  | zero=>exact h1
  | succ i=>exact h2 i zo
theorem th (n:Nat) (a b:Qi) (f g x:Nat → Qi):ah n (fun k=>(a * f k - b * g k) * x k) = a * ah n (fun k=>f k * x k) - b * ah n (fun k=>g k * x k):=by
 induction n with
 | zero=>simp only [ah,q0]; grind
 | succ n ih=>simp only [ah,ih]; grind
theorem n7 (n:Nat) (a:Qi) (f x:Nat → Qi):ah n (fun k=>f k * (x k * a)) = a * ah n (fun k=>f k * x k):=by
 induction n with
 | zero=>simp only [ah,q0]; grind
 | succ n ih=>simp only [ah,ih]; grind
theorem Cu {F : Nat → Nat → Qi} {n N : Nat} (hp : F 0 0 ≠ 0) (hN : 1 ≤ N) (hF : ∀ i, i < n + 1 → ∀ j, j ≤ n + 1 → Gb (F i j) N) (hk : ∀ v, mf F (n + 1) (n + 1) v → ∀ k, k < n + 1 → v k = 0)
  (ih:∀ G:Nat → Nat → Qi,(∀ i,i < n → ∀ j,j ≤ n → Gb (G i j) (4 * N * N)) → (∀ v,mf G n n v → ∀ k,k < n → v k = 0) → ∃ (y:Nat → Qi) (e:Qi),e ≠ 0 ∧ Gb e (fs n (4 * N * N)) ∧ (∀ k,k < n → Gb (y k) (fs n (4 * N * N))) ∧ ∀ i,i < n → ah n (fun k=>G i k * y k) = e * G i n) :
  ∃ (y:Nat → Qi) (e:Qi),e ≠ 0 ∧ Gb e (fs (n + 1) N) ∧ (∀ k,k < n + 1 → Gb (y k) (fs (n + 1) N)) ∧ ∀ i,i < n + 1 → ah (n + 1) (fun k=>F i k * y k) = e * F i (n + 1):=by
 obtain ⟨y, e, he, ge, gy, hy⟩ := ih (fun i j => F 0 0 * F (i + 1) (j + 1) - F (i + 1) 0 * F 0 (j + 1)) (fun i hi j hj => by
   have h1:=(hF 0 zo 0 zo).mul (hF (i + 1) zo (j + 1) zo)
   have h2:=(hF (i + 1) zo 0 zo).mul (hF 0 zo (j + 1) zo)
   exact (h1.sub h2).le (by rw [show 4 * N * N = 2 * N * N + 2 * N * N by rw [← Nat.add_mul]; congr 1; omega]; exact Nat.le_refl _)) (fun v hv k hkn=>by
   have hz := hk (fun k => if k = 0 then -(ah n fun k => F 0 (k + 1) * v k) else F 0 0 * v (k - 1)) (tW.2 ⟨by
    simp only [if_true,Nat.add_sub_cancel,if_neg (Nat.succ_ne_zero _)]
    have:=n7 n (F 0 0) (fun k=>F 0 (k + 1)) v
    simp only [Qi.mul_comm' _ (F 0 0)] at this ⊢
    rw [this]; grind,fun i hi=>by
    simp only [if_true,Nat.add_sub_cancel,if_neg (Nat.succ_ne_zero _)]
    have:=n7 n (F 0 0) (fun k=>F (i + 1) (k + 1)) v
    simp only [Qi.mul_comm' _ (F 0 0)] at this ⊢
    rw [this]
    have h:=hv i hi
    have h2:=th n (F 0 0) (F (i + 1) 0) (fun k=>F (i + 1) (k + 1)) (fun k=>F 0 (k + 1)) v
    simp only [] at h
    rw [h2] at h
    grind⟩) (k + 1) zo
   simp only [Nat.add_sub_cancel,if_neg (Nat.succ_ne_zero _)] at hz
   rcases gY hz with h | h
   ·exact absurd h hp
   ·exact h)
 have hf1 : 1 ≤ fs n (4 * N * N) := by
  apply Decidable.byContradiction; intro h
  have h0:fs n (4 * N * N) = 0:=by omega
  rw [h0] at ge
  obtain ⟨p,q,e1,p1,p2⟩:=ge
  have hp0:p = 0:=by omega
  have hq0:q = 0:=by omega
  exact he (by rw [e1,hp0,hq0]; exact Qi.ext' rfl rfl)
 have hG : fs (n + 1) N = (n + 1) * (2 * fs n (4 * N * N) * N) := by
  rw [fs]; simp only [Nat.mul_comm,Nat.mul_left_comm,Nat.mul_assoc]
 have hG1:2 * fs n (4 * N * N) * N ≤ fs (n + 1) N:=by rw [hG]; exact Nat.le_mul_of_pos_left _ zo
 refine ⟨fun k=>if k = 0 then e * F 0 (n + 1) - ah n (fun k=>F 0 (k + 1) * y k) else y (k - 1) * F 0 0,e * F 0 0,fun h=>?_,?_,fun k hkn=>?_,fun i hi=>?_⟩
 ·rcases gY h with h | h
  ·exact he h
  ·exact hp h
 ·exact (ge.mul (hF 0 zo 0 zo)).le hG1
 ·cases k with
  | zero =>
   simp only [if_true]
   have h1:=ge.mul (hF 0 zo (n + 1) zo)
   have h2:Gb (ah n fun k=>F 0 (k + 1) * y k) (n * (2 * N * fs n (4 * N * N))):=Gb.sum fun k hk=>(hF 0 zo (k + 1) zo).mul (gy k hk)
   refine (h1.sub h2).le ?_
   have e3:n * (2 * N * fs n (4 * N * N)) = n * (2 * fs n (4 * N * N) * N):=by simp only [Nat.mul_comm,Nat.mul_left_comm,Nat.mul_assoc]
   have e4:(n + 1) * (2 * fs n (4 * N * N) * N) = n * (2 * fs n (4 * N * N) * N) + 2 * fs n (4 * N * N) * N:=Nat.succ_mul _ _
   rw [hG,e3,e4,Nat.add_comm]; exact Nat.le_refl _
  | succ k =>
   simp only [Nat.add_sub_cancel,if_neg (Nat.succ_ne_zero _)]
   exact ((gy k zo).mul (hF 0 zo 0 zo)).le hG1
 ·rw [jO]
  simp only [if_true,Nat.add_sub_cancel,if_neg (Nat.succ_ne_zero _)]
  rw [n7 n (F 0 0) (fun k=>F i (k + 1)) y]
  cases i with
  | zero=>grind
  | succ i =>
   have h:=hy i zo
   have h2:=th n (F 0 0) (F (i + 1) 0) (fun k=>F (i + 1) (k + 1)) (fun k=>F 0 (k + 1)) y
   rw [h2] at h
   grind
theorem z8 : ∀ (n N : Nat) (F : Nat → Nat → Qi), 1 ≤ N → (∀ i, i < n → ∀ j, j ≤ n → Gb (F i j) N) → (∀ v, mf F n n v → ∀ k, k < n → v k = 0) →
  ∃ (y:Nat → Qi) (e:Qi),e ≠ 0 ∧ Gb e (fs n N) ∧ (∀ k,k < n → Gb (y k) (fs n N)) ∧ ∀ i,i < n → ah n (fun k=>F i k * y k) = e * F i n
 | 0,N,F,_,_,_=>⟨fun _=>0,1,fun h=>by have:=congrArg Qi.re h; revert this; decide,⟨1,0,Qi.ext' rfl rfl,by simp [fs],by simp [fs]⟩,fun k hk=>by omega,fun i hi=>by omega⟩
 | n + 1, N, F, hN, hF, hk => by
  have hpz : ∃ p, p < n + 1 ∧ F p 0 ≠ 0 := by
   apply Classical.byContradiction; intro hno
   have hz : ∀ p, p < n + 1 → F p 0 = 0 := fun p hp => by
    apply Classical.byContradiction; intro h; exact hno ⟨p,hp,h⟩
   have := hk (fun k => if k = 0 then 1 else 0) (fun i hi => by
    rw [eM]
    intro k hk
    by_cases e:k = 0
    ·subst e; rw [hz i hi]; grind
    ·simp only [if_neg e]; grind) 0 zo
   simp only [if_true] at this
   have:=congrArg Qi.re this; revert this; decide
  obtain ⟨p,hp,hpz⟩:=hpz
  have hN4:1 ≤ 4 * N * N:=Nat.mul_pos zo zo
  obtain ⟨y, e, he, ge, gy, hy⟩ := Cu (F := fun i => F (wy p 0 i)) (n := n) (N := N) (by simpa [wy] using hpz) hN (fun i hi j hj => hF _ (rf hp zo hi) j hj)
   (fun v hv=>hk v ((sC hp zo).1 hv)) (fun G hG hGk=>z8 n (4 * N * N) G hN4 hG hGk)
  refine ⟨y,e,he,ge,gy,fun i hi=>?_⟩
  have:=hy (wy p 0 i) (rf hp zo hi)
  simp only [wa] at this
  exact this
theorem BS {N:Nat}:∀ {n:Nat},n ≤ 4 → 1 ≤ N → fs n N ≤ 1610612736 * N ^ 15:=by
 intro n hn hN
 have hp:∀ k,k ≤ 15 → N ^ k ≤ N ^ 15:=fun k hk=>Nat.pow_le_pow_right hN hk
 have h0:=hp 0 zo; have h1:=hp 1 zo; have h3:=hp 3 zo; have h7:=hp 7 zo
 match n,hn with
 | 0,_=>rw [fs]; rw [Nat.pow_zero] at h0; omega
 | 1,_=>simp only [fs]; rw [show 2 * (0 + 1) * N * 1 = 2 * N ^ 1 by grind]; omega
 | 2,_=>simp only [fs]; rw [show 2 * (1 + 1) * N * (2 * (0 + 1) * (4 * N * N) * 1) = 32 * N ^ 3 by grind]; omega
 | 3,_=>simp only [fs]; rw [show 2 * (2 + 1) * N * (2 * (1 + 1) * (4 * N * N) * (2 * (0 + 1) * (4 * (4 * N * N) * (4 * N * N)) * 1)) = 12288 * N ^ 7 by grind]; omega
 | 4,_=>simp only [fs]; rw [show 2 * (3 + 1) * N * (2 * (2 + 1) * (4 * N * N) * (2 * (1 + 1) * (4 * (4 * N * N) * (4 * N * N)) * (2 * (0 + 1) * (4 * (4 * (4 * N * N) * (4 * N * N)) * (4 * (4 * N * N) * (4 * N * N))) * 1))) = 1610612736 * N ^ 15 by grind]; omega
theorem Br (x:Qi):((x.den:Int):Rat) * x.re = (x.a:Rat) ∧ ((x.den:Int):Rat) * x.im = (x.b:Rat):=by
 have h:=Qi.nc x.den_pos
 have h2:((x.den:Int):Rat) = (x.den:Rat):=by push_cast; rfl
 rw [h2]
 exact ⟨by rw [Qi.re_eq x]; grind,by rw [Qi.im_eq x]; grind⟩
theorem wi {L : Nat} {x : Nat → Qi} : ∀ k, (∀ j, j < k → ao (x j) L) → ∃ d : Nat, 0 < d ∧ d ≤ BB ^ (k * L) ∧ ∀ j, j < k → Gb (Qi.ofInt d * x j) (BB ^ (k * L))
 | 0,_=>⟨1,by decide,Nat.pow_pos cb,fun j hj=>by omega⟩
 | k + 1, h => by
  obtain ⟨d,d0,dl,hd⟩:=wi k fun j hj=>h j zo
  have hx:=(h k zo).fit
  have hm:=Br (x k)
  have hpow:BB ^ ((k + 1) * L) = BB ^ (k * L) * BB ^ L:=by rw [Nat.succ_mul,Nat.pow_add]
  refine ⟨d * (x k).den,Nat.mul_pos d0 (x k).den_pos,?_,fun j hj=>?_⟩
  ·rw [hpow]; exact Nat.mul_le_mul dl (Nat.le_of_lt hx.2.2)
  ·by_cases e : j = k
   ·subst e
    refine ⟨d * (x j).a,d * (x j).b,Qi.ext' ?_ ?_,?_,?_⟩
    ·rw [Qi.mul_re]
     show (((d * (x j).den:Nat):Int):Rat) * (x j).re - 0 * (x j).im = ((d * (x j).a:Int):Rat)
     have:=hm.1; push_cast at *; grind
    ·rw [Qi.mul_im]
     show (((d * (x j).den:Nat):Int):Rat) * (x j).im + 0 * (x j).re = ((d * (x j).b:Int):Rat)
     have:=hm.2; push_cast at *; grind
    ·rw [hpow]; exact iX (by simpa using dl) (Nat.le_of_lt hx.1)
    ·rw [hpow]; exact iX (by simpa using dl) (Nat.le_of_lt hx.2.1)
   ·obtain ⟨p, q, e1, h1, h2⟩ := hd j zo
    have er:=congrArg Qi.re e1; have ei:=congrArg Qi.im e1
    rw [Qi.mul_re] at er; rw [Qi.mul_im] at ei
    refine ⟨p * (x k).den,q * (x k).den,Qi.ext' ?_ ?_,?_,?_⟩
    ·rw [Qi.mul_re]
     have er:((d:Int):Rat) * (x j).re - 0 * (x j).im = (p:Rat):=er
     show (((d * (x k).den:Nat):Int):Rat) * (x j).re - 0 * (x j).im = ((p * (x k).den:Int):Rat)
     push_cast at *; grind
    ·rw [Qi.mul_im]
     have ei:((d:Int):Rat) * (x j).im + 0 * (x j).re = (q:Rat):=ei
     show (((d * (x k).den:Nat):Int):Rat) * (x j).im + 0 * (x j).re = ((q * (x k).den:Int):Rat)
     push_cast at *; grind
    ·rw [hpow]; exact iX h1 (by simpa using Nat.le_of_lt hx.2.2)
    ·rw [hpow]; exact iX h2 (by simpa using Nat.le_of_lt hx.2.2)
theorem xU {d : Nat} (h : 0 < d) : Qi.ofInt d ≠ 0 := fun e => by
 have:=congrArg Qi.re e
 have h2:((d:Int):Rat) = ((0:Int):Rat):=this
 rw [Rat.intCast_inj] at h2; omega
end
section
open Go Go.RowKit
theorem yV {M:List (List Qi)} {b:List Qi} {n m L K:Nat} (h:bE M n n) (hM:aL M L) (hb:bk b L) (hL:1 ≤ L) (hn:n ≤ m) (hbig:fs n (BB ^ ((m + 1) * L)) < BB ^ K) (hK:1 ≤ K) (hE:et M b n = 0):bk (fd M b n) (4 * K + 2):=by
 obtain ⟨s1,s2⟩:=gW h hE
 have hrow : ∀ i, ∃ d : Nat, 0 < d ∧ ∀ j, j < n + 1 → Gb (Qi.ofInt d * (if j < n then gm M i j else gv b i)) (BB ^ ((m + 1) * L)) := fun i => by
  obtain ⟨d, d0, _, hd⟩ := wi (L := L) (x := fun j => if j < n then gm M i j else gv b i) (n + 1) fun j _ => by
   show ao (if j < n then gm M i j else gv b i) L
   split
   ·exact hM.get hL i j
   ·exact hb.get hL i
  exact ⟨d,d0,fun j hj=>(hd j hj).le (Nat.pow_le_pow_right cb (Nat.mul_le_mul_right _ zo))⟩
 have hd:∃ d:Nat → Nat,∀ i,0 < d i ∧ ∀ j,j < n + 1 → Gb (Qi.ofInt (d i) * (if j < n then gm M i j else gv b i)) (BB ^ ((m + 1) * L)):=⟨fun i=>Classical.choose (hrow i),fun i=>Classical.choose_spec (hrow i)⟩
 obtain ⟨d,hd⟩:=hd
 have cancel : ∀ {i : Nat} {u : Qi}, Qi.ofInt (d i) * u = 0 → u = 0 := fun {i u} hu => by
  rcases gY hu with k | k
  ·exact absurd k (xU (hd i).1)
  ·exact k
 have hsum : ∀ (i : Nat) (v : Nat → Qi), ah n (fun k => Qi.ofInt (d i) * (if k < n then gm M i k else gv b i) * v k) = Qi.ofInt (d i) * ah n (fun k => gm M i k * v k) := fun i v => by
  rw [Qi.mul_comm',← i9]
  exact av fun k hk=>by rw [if_pos hk]; grind
 have hN:1 ≤ BB ^ ((m + 1) * L):=Nat.pow_pos cb
 obtain ⟨y, e, he, ge, gy, hy⟩ := z8 n (BB ^ ((m + 1) * L)) (fun i j => Qi.ofInt (d i) * (if j < n then gm M i j else gv b i)) hN (fun i _ j hj => (hd i).2 j zo) (fun v hv => s2 v fun i hi => by
  have:=hv i hi
  simp only [] at this
  rw [hsum] at this
  exact cancel this)
 have hsol : ∀ k, k < n → y k - e * gv (fd M b n) k = 0 := s2 (fun k => y k - e * gv (fd M b n) k) fun i hi => by
  have h1:=hy i hi
  rw [hsum,if_neg zo] at h1
  have h2:=s1 i hi
  have h3 : ah n (fun k => gm M i k * (y k - e * gv (fd M b n) k)) = ah n (fun k => gm M i k * y k) - e * ah n (fun k => gm M i k * gv (fd M b n) k) := by
   rw [← jw]; exact av fun k _=>by grind
  rw [h3,h2]
  exact cancel (i:=i) (by grind)
 intro x hx
 obtain ⟨k,hk,rfl⟩:=List.mem_iff_getElem.1 hx
 rw [ky] at hk
 have hg:(fd M b n)[k] = gv (fd M b n) k:=by simp [gv,List.getD,ky,hk]
 rw [hg]
 have e1:gv (fd M b n) k = y k / e:=(Db he (by have:=hsol k hk; grind)).symm
 haveI f1:ao (y k) K:=(gy k hk).fit hbig hK
 haveI f2:ao e K:=ge.fit hbig hK
 rw [e1]
 exact (fitDiv (x:=y k) (y:=e)).le zo
end
section
open Go Go.RowKit
def tZ (l : List Nat) (p : Nat) : Nat → Int
 | 0=>-1
 | k + 1=>if l.getD (l.length - (k + 1)) 0 = p then ((l.length - (k + 1):Nat):Int) else tZ l p k
def mF (l:List Nat) (p:Nat):Int:=tZ l p l.length
theorem CZ (l : List Nat) (p : Nat) : ∀ k, tZ l p k = -1 ∨ (0 ≤ tZ l p k ∧ (tZ l p k).toNat < l.length ∧ l.getD (tZ l p k).toNat 0 = p) ∨ l.length < k
 | 0=>.inl rfl
 | k + 1 => by
  rw [tZ]
  by_cases c:l.length < k + 1
  ·exact .inr (.inr c)
  ·by_cases e : l.getD (l.length - (k + 1)) 0 = p
   ·rw [if_pos e]; exact .inr (.inl ⟨by omega,by rw [Int.toNat_natCast]; omega,by rw [Int.toNat_natCast]; exact e⟩)
   ·rw [if_neg e]
    rcases CZ l p k with h | h | h
    ·exact .inl h
    ·exact .inr (.inl h)
    ·omega
theorem sq (l:List Nat) (p:Nat):mF l p = -1 ∨ (0 ≤ mF l p ∧ (mF l p).toNat < l.length ∧ l.getD (mF l p).toNat 0 = p):=by
 rcases CZ l p l.length with h | h | h
 ·exact .inl h
 ·exact .inr h
 ·omega
theorem yI {l : List Nat} {p : Nat} : ∀ {k : Nat}, k ≤ l.length → tZ l p k < 0 → ∀ x, l.length - k ≤ x → x < l.length → l.getD x 0 ≠ p
 | 0,_,_,x,h1,h2=>by omega
 | k + 1, hk, h, x, h1, h2 => by
  rw [tZ] at h
  by_cases e:l.getD (l.length - (k + 1)) 0 = p
  ·rw [if_pos e] at h; omega
  ·rw [if_neg e] at h
   by_cases c:x = l.length - (k + 1)
   ·rw [c]; exact e
   ·exact yI (k:=k) zo h x zo h2
theorem rP {l:List Nat} {p:Nat}:0 ≤ mF l p ↔ p ∈ l:=by
 constructor
 ·intro h
  rcases sq l p with k | ⟨_,k1,k2⟩
  ·omega
  ·rw [← k2,show l.getD (mF l p).toNat 0 = l[(mF l p).toNat] by simp [List.getD,k1]]; exact List.getElem_mem k1
 ·intro h
  apply Classical.byContradiction; intro hn
  obtain ⟨x,hx,e⟩:=List.getElem_of_mem h
  exact yI (l:=l) (p:=p) (Nat.le_refl _) (show tZ l p l.length < 0 by have:¬ 0 ≤ tZ l p l.length:=hn; omega) x zo hx (by rw [show l.getD x 0 = l[x] by simp [List.getD,hx]]; exact e)
def nG (js:List (Int × Int)):List Nat:=tab (2 * js.length) (gq (aR js))
def ix (js:List (Int × Int)):List Nat:=tab (2 * js.length) fun x=>gq (aR js) (de x)
theorem nS {α:Type} (f:Nat → α) (k:Nat):tab (2 * (k + 1)) f = tab (2 * k) f ++ [f (2 * k),f (2 * k + 1)]:=by
 rw [show 2 * (k + 1) = 2 * k + 1 + 1 by omega,ie,ie,List.append_assoc]; rfl
theorem uL (js:List (Int × Int)):nG js = gO js:=by
 have h:=mT (l:=gO js) (m:=2 * js.length) (om js)
 rw [h]
 refine (bf fun x hx=>?_).symm
 exact rh hx
theorem vM (k:Nat):de (2 * k) = 2 * k + 1 ∧ de (2 * k + 1) = 2 * k:=by
 constructor
 ·rw [de,if_pos zo]
 ·rw [de,if_neg zo]; omega
theorem zz {js:List (Int × Int)} {n k:Nat} (hp:iO n (ff js) = 0) (hk:k < js.length):(d6 js k).1 - 1 = ((gq (aR js) (2 * k):Nat):Int) ∧ (d6 js k).2 - 1 = ((gq (aR js) (2 * k + 1):Nat):Int) ∧ -1000 ≤ (d6 js k).1 ∧ (d6 js k).1 ≤ n ∧ -1000 ≤ (d6 js k).2 ∧ (d6 js k).2 ≤ n:=by
 have hmm:=fun x hx=>oP hp x hx
 have hm1:(d6 js k).1 ∈ ff js:=by rw [ff,List.mem_flatMap]; exact ⟨d6 js k,by rw [show d6 js k = js[k] by simp [d6,List.getD,hk]]; exact List.getElem_mem hk,by simp⟩
 have hm2:(d6 js k).2 ∈ ff js:=by rw [ff,List.mem_flatMap]; exact ⟨d6 js k,by rw [show d6 js k = js[k] by simp [d6,List.getD,hk]]; exact List.getElem_mem hk,by simp⟩
 have hb1:=hmm _ hm1
 have hb2:=hmm _ hm2
 obtain ⟨e1,e2⟩:=Fd hk
 rw [e1,e2]
 exact ⟨by show _ = (((d6 js k).1 - 1).toNat:Int); omega,by show _ = (((d6 js k).2 - 1).toNat:Int); omega,by omega,by omega,by omega,by omega⟩
def nJ (S:List (List Qi)) (js:List (Int × Int)) (x:Nat):List Qi:=fd (gk S (aR js) (2 * js.length)) (ek (2 * js.length) x) (2 * js.length)
def mz (i k:Nat):Qi:=if k = i then Qi.ofInt 1 else Qi.ofInt 0
def lD (S:List (List Qi)) (js:List (Int × Int)) (i k:Nat):Qi:=if 0 ≤ mF (ix js) k then mz i k + ah (2 * js.length) (fun y=>gm S i (gq (aR js) y) * gv (nJ S js (mF (ix js) k).toNat) y) else mz i k
def oF (S:List (List Qi)) (js:List (Int × Int)) (N:Nat):List (List Qi):=(gC (gO js) N).map fun i=>tab N fun k=>lD S js i k
theorem vz (i k:Nat):ao (mz i k) 1:=by
 unfold mz; split
 ·exact mt
 ·exact (ao.zero (Nat.le_refl 1):ao Qi.zero 1)
theorem wh {S:List (List Qi)} {js:List (Int × Int)} {i t L G:Nat} {v:List Qi} (hf:aL S L) (hL:1 ≤ L) (hv:bk v G) (hG:1 ≤ G) (ht:t ≤ 8):ao (ah t fun y=>gm S i (gq (aR js) y) * gv v y) (8 * (L + G) + 17):=by
 refine (ao.sum (L:=L + G + 1) fun y _=>?_).le ?_
 ·haveI := hf.get hL i (gq (aR js) y); haveI := hv.get hG y
  exact fitMul
 ·have : t * (L + G + 1 + 1) ≤ 8 * (L + G + 1 + 1) := Nat.mul_le_mul_right _ ht
  omega
end
section
open Go Go.RowKit
theorem EO {f:Nat → List Qi} {l:List Nat} {a k:Nat} (h:a < l.length):gm (l.map f) a k = gv (f (cO l a)) k:=by simp [gm,cO,List.getD,h]
section
variable {z:List Qi} {s c:List (List Qi)} {g t:Qi} {p:Nat}
theorem BL {S:List (List Qi)} {js:List (Int × Int)} {i k L G:Nat} (hf:aL S L) (hL:1 ≤ L) (hv:∀ x,bk (nJ S js x) G) (hG:1 ≤ G) (hj:2 * js.length ≤ 8):ao (lD S js i k) (8 * (L + G) + 19):=by
 haveI g3:=vz i k
 unfold lD
 split
 ·haveI g4 := wh (i := i) (t := 2 * js.length) (js := js) hf hL (hv (mF (ix js) k).toNat) hG hj
  exact (fitAdd).le zo
 ·exact g3.le zo
theorem rH {S : List (List Qi)} {js : List (Int × Int)} {N L G : Nat} (hf : aL S L) (hL : 1 ≤ L) (hv : ∀ x, bk (nJ S js x) G) (hG : 1 ≤ G) (hj : 2 * js.length ≤ 8) : aL (oF S js N) (8 * (L + G) + 19) := fun r hr => by
 obtain ⟨i,_,rfl⟩:=List.mem_map.1 hr
 exact bk.tab fun k _=>BL hf hL hv hG hj
theorem rk (S : List (List Qi)) (js : List (Int × Int)) (N : Nat) : bE (oF S js N) (gC (gO js) N).length N := ⟨by rw [oF, List.length_map], fun r hr => by
 obtain ⟨i,_,rfl⟩:=List.mem_map.1 hr; exact a9 _ _⟩
end
end
section
open Go Go.RowKit
theorem wG {r n:Nat} (hr:r ≤ 1000) (h1:1 ≤ n) (hn:n ≤ 1000):cR Tryz.prog 97 [NT .i64 r,NT .i64 n] [] (Nat) (fun B=>Is (.slice (some ⟨B,0,none⟩) r r)) (fun B=>[eC bL B 29 51 5 (aH ar (nF r n))]) (fun _=>True):=by
 refine cR.intro Tryz.func97 rfl Tryz.ntmps97 rfl (fun cx Z=>(ts (ro rfl (cQ cV) (eX (ts (rm rfl (rn rfl (bM (T:=Is (.slice none 0 0)) (i:=Tryz.t29) V_30 gr rfl rfl (Ht rfl) rfl (fun _=>rfl) trivial (by show 24 * _ ≤ _; omega) zo) fun B8=>(ra rfl (eX (cK (ts (rm rfl (ro rfl (d7 U_30 (Ht rfl)) (ro rfl (cX (cJ 0)) (eX (eG (fk 1 rfl (km bL ⟨none,0,rfl⟩ (e:=51) (s:=5)) ?_)))))))))))))))))
 refine aF (fun (k : Nat) => k ≤ r) (fun (k : Nat) => r - k) (fun (k : Nat) => [(1, NT .i64 n), (5, Is (.slice (some ⟨B8, 0, none⟩) r r)), (10, NT .i64 r), (11, NT .i64 k)]) (fun (k : Nat) => [Z, eC bL B8 29 51 5 (aH ar (dA (fun _ => (tab n fun _ => Qi.zero)) [] r k))]) 0 (Nat.zero_le _)
  (zS rfl) (aU (fun _ _ _ h=>h) (aU (aC (by rw [← cz,fA]; exact fN ar r)) aY)) (fun k hk=>?_)
 refine ts (ro rfl (gX (Ht rfl) (Ht rfl)) (eX (cK (dQ (Ht rfl) (fun hd=>?_) (fun hd=>?_)))))
 ·simp only [decide_eq_true_eq] at hd
  refine eg 1 (k) rfl (ft hd) (fun v hv=>(cU (cK (eG (ts (rm rfl (ra rfl (eX (cY (rm rfl (rm rfl (ro rfl (cZ K_77 (jZ (n:=0) (by decide) (by decide)) ⟨(cJ 0),trivial⟩) (ro rfl (cZ K_98 tI ⟨(Ht rfl),trivial⟩) (ro rfl (aN (xs:=[.tmp 17]) U_29 Z_51 O_51 (cW (Ht rfl) cG) rfl rfl rfl) (rm rfl (ec Tryz.call191 (u7 (m:=n) h1 hn) ⟨(Ht rfl),(Ht rfl),trivial⟩ rfl (fun B20 _=>?_)))))))))))))))))
  have hB20:=B20.2
  refine ro rfl (fY U_30 Z_29 (Ht rfl) (Ht rfl) rfl zo (by rw [Nat.mul_one,Nat.zero_add])) ?_
  refine jX Z_29 (Ht rfl) (Ht rfl) (by simp only [aH,List.length_map,bg]; omega) (j:=1) (l:=3) rfl rfl rfl ?_
  refine eX (as (bR 1 3 rfl rfl (by decide) (by simp only [aH,List.length_map,bg]; omega) ?_))
  refine cY (ro rfl (dV (Ht rfl) (cJ 1) z6) (rm rfl (eX (aO [0,1] rfl (by decide) (fU (k + 1) hd zo (zS rfl) (aU (fun _ _ _ h=>h) (aU (aC (by rw [c9,← dn (f:=fun _=>(tab n fun _=>Qi.zero))])) aY)))))))
 ·simp only [decide_eq_false_iff_not] at hd
  obtain rfl:r = k:=Nat.le_antisymm zo hk
  refine gV rfl (ts (rm rfl (ra rfl (eX ?_))))
  exact dS B8 trivial [0,1] ⟨⟨_,rfl,fun _ _ _ h=>h⟩,⟨_,rfl,(aC (by rw [di]; rfl))⟩,trivial⟩ (by decide) (kn rfl (eU rfl))
end
section
open Go Go.RowKit
theorem Az {z:List Qi} {s:List (List Qi)} {q:Int} {o:List Int} (hl:z.length ≤ 1000) (ho:o.length ≤ 1000):az Tryz.prog 125 [fP z s,ap .i64 q,eN 1 (o.map (ap .i64))] (ap .i64 (bH z.length q o)):=by
 refine az.intro Tryz.func125 rfl Tryz.ntmps125 rfl (fun cx=>(ts (rn rfl (fG (Ht rfl)) fun B3=>(ro rfl (cQ (cJ 0)) (eX (cK (eG (ts (ro rfl (eJ A_32 Z_32 (Ht rfl) (i:=0) rfl rfl rfl) (rm rfl (ro rfl (cZ Tryz.call106 uQ ⟨(Ht rfl),(Ht rfl),trivial⟩) (ro rfl (co (Ht rfl)) (ra rfl (eX (dQ (Ht rfl) (fun hb1=>?_) (fun hb1=>?_))))))))))))))))
 ·have h2 : ¬ (1 ≤ q ∧ q ≤ (z.length : Int)) := by simpa only [Bool.not_eq_true', decide_eq_false_iff_not] using hb1
  refine ts (ro rfl (cQ (cJ 1)) (eX (fW rfl (fX (eU rfl) ?_))))
  exact (am (if_pos h2).symm)
 ·have h2 : 1 ≤ q ∧ q ≤ (z.length : Int) := by simpa using hb1
  refine ts (rm rfl (rm rfl (ro rfl (cZ Tryz.call95 (jg (l:=o) (v:=q) zo) ⟨(Ht rfl),(Ht rfl),trivial⟩) (ra rfl (eX (dQ (Ht rfl) (fun hb2=>?_) (fun hb2=>?_)))))))
  ·refine ts (ro rfl (cQ (cJ 8)) (eX (fW rfl (fX (eU rfl) ?_))))
   exact (am (by rw [bH,if_neg (fun k=>k h2),if_pos hb2]; rfl))
  ·refine cU (as (ts (ro rfl (cQ (cJ 0)) (eX (fW rfl (fX (eU rfl) ?_))))))
   exact (am (by rw [bH,if_neg (fun k=>k h2),if_neg (by rw [hb2]; decide)]; rfl))
theorem uH {l:List Int} {n i:Nat} {q:Int} (hi:i < n) (hn:n ≤ l.length) (h:l.getD i 0 = q):((l.take n).any fun x=>decide (q = x)) = true:=by
 rw [List.any_eq_true]
 refine ⟨q,?_,by simp⟩
 have e:l.getD i 0 = l[i]:=by simp [List.getD,show i < l.length by omega]
 rw [← h,e]
 exact List.mem_take_iff_getElem.2 ⟨i,by omega,rfl⟩
theorem wN {l:List Int} {n:Nat} {q:Int} (h:∀ j,j < n → l.getD j 0 ≠ q):((l.take n).any fun x=>decide (q = x)) = false:=by
 rw [List.any_eq_false]
 intro x hx
 obtain ⟨j,hj,rfl⟩:=List.mem_take_iff_getElem.1 hx
 have:=h j zo
 simp [List.getD,show j < l.length by omega] at this
 simpa using Ne.symm this
theorem zp {l:List Int} {n:Nat} {q:Int} (hn:n ≤ l.length) (hl:l.length ≤ 1000):az Tryz.prog 254 [eN 1 (l.map (ap .i64)),NT .i64 n,ap .i64 q] (ab ((l.take n).any fun x=>decide (q = x))):=by
 refine az.intro Tryz.func254 rfl Tryz.ntmps254 rfl (fun cx=>(ts (ro rfl (cQ cV) (eX (cK (ts (ro rfl (cQ (cJ 0)) (eX (eG ?_)))))))))
 refine aF (fun (i : Nat) => i ≤ n ∧ ∀ j, j < i → l.getD j 0 ≠ q) (fun (i : Nat) => n - i) (fun (i : Nat) => [(0, eN 1 (l.map (ap .i64))), (1, NT .i64 n), (2, ap .i64 q), (7, NT .i64 i)]) (fun (i : Nat) => []) 0 ⟨Nat.zero_le _, fun j h => by omega⟩
  (zS rfl) aY (fun i ⟨hi,h0⟩=>?_)
 refine cK (ts (rm rfl (rm rfl (ro rfl (gX (Ht rfl) (Ht rfl)) (eX (dQ (Ht rfl) (fun hd=>?_) (fun hd=>?_)))))))
 ·have hin : i < n := by simp only [decide_eq_true_eq] at hd; omega
  refine cU (cK (eG (ts (rm rfl (rm rfl (ro rfl (dZ U_72 Z_3 (Ht rfl) (Ht rfl) rfl (dY (dU (d:=0) zo))) (ro rfl (dJ A_3 Z_3 (Ht rfl)) (rm rfl (ro rfl (dR (Ht rfl) (Ht rfl)) (eX (dQ (Ht rfl) (fun he=>?_) (fun he=>?_))))))))))))
  ·have h3 : l.getD i 0 = q := by simpa using he
   refine ts (ro rfl (cQ cV) (eX (fW rfl (fX (eU rfl) ?_))))
   exact (bF (uH hin hn h3).symm)
  ·have h3 : l.getD i 0 ≠ q := by simpa using he
   refine cU (as (cY (rm rfl (ro rfl (dV (Ht rfl) (cJ 1) z6) (ra rfl (eX ?_))))))
   refine fU (i + 1) ⟨hin, fun j h => by
    by_cases e:j = i
    ·rw [e]; exact h3
    ·exact h0 j zo⟩ zo (zS rfl) aY
 ·have hin : i = n := by simp only [decide_eq_false_iff_not] at hd; omega
  rw [hin] at h0
  refine gV rfl (ts (ro rfl (cQ cV) (eX (fW rfl (fX (eU rfl) ?_)))))
  exact (bF (wN h0).symm)
theorem zT {n:Nat} {l:List Int} (hl:l.length ≤ 1000):az Tryz.prog 212 [NT .i64 n,eN 1 (l.map (ap .i64))] (ap .i64 (iO n l)):=by
 refine az.intro Tryz.func212 rfl Tryz.ntmps212 rfl (fun cx=>(ts (ro rfl (cQ (cJ 0)) (eX (cK (ts (ro rfl (cQ (cJ 0)) (eX (eG ?_)))))))))
 refine aF (fun (i : Nat) => i ≤ l.length ∧ ∀ j, j < i → (fun i => bH n (l.getD i 0) (l.take i)) j = 0) (fun (i : Nat) => l.length - i) (fun (i : Nat) => [(0, NT .i64 n), (1, eN 1 (l.map (ap .i64))), (5, NT .i64 i)]) (fun (i : Nat) => []) 0 ⟨Nat.zero_le _, fun j h => by omega⟩
  (zS rfl) aY (fun i ⟨hi,h0⟩=>?_)
 refine cK (ts (rm rfl (rm rfl (ro rfl (dG U_72 (Ht rfl) a7) (ro rfl (gX (Ht rfl) (Ht rfl)) (eX (dQ (Ht rfl) (fun hd=>?_) (fun hd=>?_))))))))
 ·have hin : i < l.length := by simp only [decide_eq_true_eq] at hd; omega
  refine cU (cK (eG (cK (ts (rm rfl (rm rfl (ro rfl (dZ U_72 Z_3 (Ht rfl) (Ht rfl) rfl (dY (dU (d:=0) zo))) (ro rfl (dJ A_3 Z_3 (Ht rfl)) (ro rfl (iG (Ht rfl) cV) (rm rfl (fQ rfl rfl (eK rfl rfl (Ht rfl) (fun h=>cX (Ht rfl))) (fQ rfl rfl (eK rfl rfl (Ht rfl) (fun h=>cX (Ht rfl))) (fQ rfl rfl (eK rfl rfl (Ht rfl) (fun h=>dZ U_72 Z_3 (fJ rfl h) (fJ rfl h) rfl (dY (dU (d:=0) zo)))) (fQ rfl rfl (eK rfl rfl (Ht rfl) (fun h=>dJ A_3 Z_3 (fJ rfl h))) ?_))))))))))))))
  refine fQ rfl rfl (eK rfl rfl (Ht rfl) (fun h=>cX (Ht rfl))) (fQ rfl rfl (eK rfl rfl (Ht rfl) (fun h=>mY (fJ rfl h) (fJ rfl h))) (ro rfl (dr (Ht rfl) (fun h=>(fJ rfl h))) (eX (dQ (Ht rfl) (fun he=>?_) (fun he=>?_)))))
  ·have h3 : ¬ (1 ≤ l.getD i 0 ∧ l.getD i 0 ≤ (n : Int)) := by simp only [Bool.or_eq_true, decide_eq_true_eq] at he; omega
   have h4:(fun i=>bH n (l.getD i 0) (l.take i)) i = 1:=if_pos h3
   refine ts (ro rfl (cQ (cJ 1)) (eX (fW rfl (fX (eU rfl) ?_))))
   exact (am (by rw [iO,fw h0 (fun k=>absurd (h4.symm.trans k) (by decide)) hin]; exact h4.symm))
  ·have h3 : 1 ≤ l.getD i 0 ∧ l.getD i 0 ≤ (n : Int) := by simp only [Bool.or_eq_false_iff, decide_eq_false_iff_not] at he; omega
   refine cU (ts (rm rfl (rm rfl (rm rfl (rm rfl (ro rfl (dZ U_72 Z_3 (Ht rfl) (Ht rfl) rfl (dY (dU (d:=0) zo))) (ro rfl (dJ A_3 Z_3 (Ht rfl)) (ro rfl (cZ Tryz.call254 (zp (n:=i) (q:=l.getD i 0) zo hl) ⟨(Ht rfl),(Ht rfl),(Ht rfl),trivial⟩) (eX (dQ (Ht rfl) (fun hf=>?_) (fun hf=>?_)))))))))))
   ·have h4 : (fun i => bH n (l.getD i 0) (l.take i)) i = 8 := by show bH _ _ _ = 8; rw [bH, if_neg (fun k => k h3), if_pos hf]
    refine ts (ro rfl (cQ (cJ 8)) (eX (fW rfl (fX (eU rfl) ?_))))
    exact (am (by rw [iO,fw h0 (fun k=>absurd (h4.symm.trans k) (by decide)) hin]; exact h4.symm))
   ·have h4 : (fun i => bH n (l.getD i 0) (l.take i)) i = 0 := by show bH _ _ _ = 0; rw [bH, if_neg (fun k => k h3), if_neg (by rw [hf]; decide)]
    refine cU (as (cY (rm rfl (ro rfl (dV (Ht rfl) (cJ 1) z6) (ra rfl (eX ?_))))))
    refine fU (i + 1) ⟨hin, fun j h => by
     by_cases e:j = i
     ·rw [e]; exact h4
     ·exact h0 j zo⟩ zo (zS rfl) aY
 ·have hin : i = l.length := by simp only [decide_eq_false_iff_not] at hd; omega
  rw [hin] at h0
  refine gV rfl (ts (ro rfl (cQ (cJ 0)) (eX (fW rfl (fX (eU rfl) ?_)))))
  exact (am (cB h0).symm)
end
section
open Go Go.RowKit
section
variable {P:Program} {n:Nat} {E:bn} {H:Hp}
variable {d:Option Tmp} {t:TypeId} {pos:String} {af:Array Edge} {g:Option (Nat × Bool)}
theorem sV {f : FuncId} {xs : List Operand} {tys : Array TypeId} {Ts : List Ty} {U T0 T1 : Ty} {A : SA} {j tt : Nat} (hc : ∀ args w, (callFunc f args).run P w = .ok (.enter f args) w) (hF : az P f Ts U)
  (hA:H[j]? = some A) (hl:cq E tt = some T0) (hz:∀ v S V,T0.p v V → A.h S V V → T1.p v V) (hU:∀ v V V',U.p v V → U.p v V') (ha:iP ((tt,T1) :: E) xs Ts) :
  al P n E H ⟨d,.call ⟨.value (.func f),xs.toArray,tys⟩,t,pos,af,g⟩ U:=fun cx X a w V hi hs K Q hK=>by
 have hrun : (execOp a.eval ⟨d, .call ⟨.value (.func f), xs.toArray, tys⟩, t, pos, af, g⟩).run P w = .ok (.enter f (xs.map a.eval).toArray) w := by
  simp [execOp,resolve,Act.eval,Deferred.ofValue,invoke,hc]
 simp only [Oper.wp,hrun,Oper.upon_enter]
 obtain ⟨F,h1,h2⟩:=hi.hp
 have hjl:=(List.getElem?_eq_some_iff.1 hA).1
 obtain ⟨k1,k2⟩:=h1 j A (by rw [List.getElem?_append_left hjl]; exact hA)
 let V1:ay:=fun b=>if b ∈ F j then w.heap[b]? else V b
 have hle : gA V V1 := fun b o hb => by
  have:b ∉ F j:=fun hf=>by have:=(k2 b hf).1; rw [hb] at this; cases this
  simp only [V1,if_neg this]; exact hb
 have hon : ∀ b o, V1 b = some o → w.heap[b]? = some o := fun b o hb => by
  by_cases hf:b ∈ F j
  ·simp only [V1,if_pos hf] at hb; exact hb
  ·simp only [V1,if_neg hf] at hb; exact hi.on b o hb
 have hA1:A.h (F j) V1 V1:=A.mono (A.loc k1 fun b hb=>by simp only [V1,if_pos hb]; rfl) hle
 have hsl : c6 n ((tt, T1) :: E) V1 a := by
  have hs':=hs.mono hle
  refine ⟨hs'.1,hs'.2.1,fun t' T hT=>?_⟩
  rw [br] at hT
  by_cases e:tt = t'
  ·subst e
   rw [if_pos rfl] at hT; obtain rfl:=Option.some.inj hT
   obtain ⟨v,q1,q2⟩:=hs'.2.2 _ _ hl
   exact ⟨v,q1,hz v (F j) V1 q2 hA1⟩
  ·rw [if_neg e] at hT; exact hs'.2.2 t' T hT
 refine (hF _ V1 w hon (iP.all hsl ha)).mono ?_
 rintro e w' ⟨v,V',rfl,m1,m2,m3,m4,m5⟩
 exact hK v w' V (hi.after (gA.refl V) (fun b o hb=>m2 b o (m1 b o (hle b o hb))) (fun b o hb h0=>by rw [hb] at h0; cases h0) m4) (gA.refl V) (hU v V' V m5)
theorem wQ {x i : Operand} {q : Nat} {Ts : List Ty} {T : Ty} {kd : IntKind} {e : TypeId} {len : Nat} (hU : ∀ w, (underlying t).run P w = .ok (.array len e) w) (hS : ∀ w, (sizeOf e).run P w = .ok 1 w) (hg : ∀ w, (isAgg e).run P w = .ok false w)
  (hx:aA E x (bO Ts)) (hi:aA E i (NT kd q)) (hl:q < len) (hT:Ts[q]? = some T) {t':TypeId}:al P n E H ⟨d,.index t x i,t',pos,af,g⟩ T :=
 c5 fun a V w hs => by
  obtain ⟨vs,e1,e4⟩:=hx n V a hs
  have ei:a.eval i = .int kd (q:Int):=hi n V a hs
  obtain ⟨u,e5,e6⟩:=e4.all.get hT
  exact ⟨u,by simp [execOp,e1,ei,Instr.index,asIntOf,Sem.run_bind,hU,hS,hg,part,Result.andThen,hl,e5],e6⟩
end
end
section
open Go Go.RowKit
theorem tX {n : Nat} {E : bn} {H : Hp} {d : Option Tmp} {t : TypeId} {pos : String} {af : Array Edge} {g : Option (Nat × Bool)} {x0 x1 : Operand} {T0 T1 : Ty} [s0 : bx T0 1 false] (h0 : aA E x0 T0) [s1 : bx T1 1 false] (h1 : aA E x1 T1) :
  al Tryz.prog n E H ⟨d,.build 71 #[(0,x0),(1,x1)],t,pos,af,g⟩ (bO [T0,T1]) :=
 ck (parts := [(0, x0), (1, x1)]) fun a V w hs => by
  have p0:=h0 n V a hs
  generalize e0:a.eval x0 = v0 at p0
  have q0:=(s0.ok v0 V p0).2.2 rfl
  have p1:=h1 n V a hs
  generalize e1:a.eval x1 = v1 at p1
  have q1:=(s1.ok v1 V p1).2.2 rfl
  refine ⟨.agg #[v0,v1],?_,[v0,v1],rfl,aW (⟨p0,q0⟩) (aW (⟨p1,q1⟩) (aG))⟩
  simp [e0,e1,Instr.build,Instr.fill,Sem.run_bind,Result.andThen,bP,q0.cells,q1.cells,O_71,U_71,Z_3]
theorem BN:Tryz.prog.info? 71 = some Tryz.t71:=by kernel_rfl
theorem EB:Tryz.prog.underlying 26 = some (.slice 71):=by kernel_rfl
end
section
open Go Go.RowKit
theorem A7 {z:List Qi} {S:List (List Qi)} {js:List (Int × Int)} {L:Nat} (hfz:bk z L) (hL:1 ≤ L) (hLb:L ≤ 1000000) (hz:z.length ≤ 1000) (hj:js.length ≤ 100):az Tryz.prog 117 [fP z S,te js] (cr [eN 1 ((DF z js).map (ap .i64)),ap .i64 (nw z js)]):=by
 refine az.intro Tryz.func117 rfl Tryz.ntmps117 rfl (fun cx=>(ts (rn rfl (fG (Ht rfl)) fun B2=>(ro rfl (cQ cV) (ro rfl (cQ (cJ 0)) (eX (ts (ro rfl (cQ cV) (eX (cK (cK (iF 3 1 (cY (rm rfl (ro rfl (dG U_26 (Ht rfl) a7) (ro rfl (cX (cJ 0)) (eX (eG ?_))))))))))))))))))
 refine bA (fun (k : Nat) (vG : Value) => k ≤ js.length ∧ ∀ j, j < k → jo z js j = 0) (fun (k : Nat) (vG : Value) => js.length - k) (fun (k : Nat) (vG : Value) => [(1, te js), (2, aI B2 0), (6, Is vG), (12, te js), (13, NT .i64 js.length), (14, NT .i64 k)]) (fun (k : Nat) (vG : Value) => [box B2 32 [aS z, b9 S], aB 3 1 vG ((ff (js.take k)).map (ap .i64))]) 0 _ ⟨Nat.zero_le _, fun j h => by omega⟩
  (zS rfl) (aU (a8 rfl) (aU (aa rfl) aY)) (fun k vG ⟨hk,h0⟩=>?_)
 refine ts (ro rfl (gX (Ht rfl) (Ht rfl)) (eX (cK (dQ (Ht rfl) (fun hd=>?_) (fun hd=>?_)))))
 ·have hkn : k < js.length := by simp only [decide_eq_true_eq] at hd; omega
  have hjk:=gn (js.take k)
  refine cU (cK (eG (ts (ro rfl (dZ U_26 Z_71 (Ht rfl) (Ht rfl) rfl (dY (dU (d:=(0,0)) hkn))) (ro rfl (dJ Tryz.isAgg71 Z_71 (Ht rfl)) (rn rfl (eW (Ts:=[Is (.int .i64 0),Is (.int .i64 0)]) O_71 rfl (fun V=>aW zd (aW zd (aG)))) fun B8=>(gQ Z_71 (Ht rfl) (Ht rfl) rfl (i:=2) rfl (aK rfl) rfl rfl (eX (cK (cK (gJ (i:=2) (tt:=8) rfl rfl rK (cY (ro rfl (dJ Tryz.isAgg71 Z_71 (Ht rfl)) ?_)))))))))))))
  refine ro rfl (cX (cJ 0)) (eX (eG (aO [0,1] rfl (by decide) ?_)))
  refine bA (fun (i : Nat) (vI : Value) => i ≤ 2 ∧ ∀ x, x < i → qO z js k x = 0) (fun (i : Nat) (vI : Value) => 2 - i) (fun (i : Nat) (vI : Value) => [(1, te js), (2, aI B2 0), (6, Is vI), (8, PT (JT (d6 js k))), (12, te js), (13, NT .i64 js.length), (14, NT .i64 k), (18, JT (d6 js k)), (19, NT .i64 i)]) (fun (i : Nat) (vI : Value) => [box B2 32 [aS z, b9 S], aB 3 1 vI ((ff (js.take k) ++ (t4 (d6 js k)).take i).map (ap .i64))]) 0 _ ⟨Nat.zero_le _, fun x h => by omega⟩
   (zS rfl) (aU (a8 rfl) (aU (aa (by rw [List.take_zero,List.append_nil])) aY)) (fun i vI ⟨hi,h1⟩=>?_)
  refine ts (ro rfl (gX (Ht rfl) (cJ 2)) (eX (cK (dQ (Ht rfl) (fun he=>?_) (fun he=>?_)))))
  ·have hi2 : i < 2 := by simp only [decide_eq_true_eq] at he; omega
   have hol:(ff (js.take k) ++ (t4 (d6 js k)).take i).length ≤ 300:=by rw [List.length_append,hjk,List.length_take,List.length_take]; omega
   refine cU (cK (eG (ts (ro rfl (wQ U_71 Z_3 A_3 (Ht rfl) (Ht rfl) zo (Cf hi2)) (ra rfl (eX (cK (ts (ro rfl (eJ A_32 Z_32 (Ht rfl) (i:=0) rfl rfl rfl) (rm rfl (rm rfl (ro rfl (sV Tryz.call125 (Az (z:=z) (s:=S) (q:=(t4 (d6 js k)).getD i 0) (o:=ff (js.take k) ++ (t4 (d6 js k)).take i) hz zo) (j:=1) (tt:=24) rfl rfl bB (fun _ _ _ h=>h) ⟨(Ht rfl),(Ht rfl),(Ht rfl),trivial⟩) (ra rfl (eX (ts (rm rfl (ro rfl (eP (Ht rfl) cV) (eX (dQ (Ht rfl) (fun hf=>?_) (fun hf=>?_))))))))))))))))))))
   ·have h3 : qO z js k i ≠ 0 := by simp only [Bool.not_eq_true', decide_eq_false_iff_not] at hf; exact hf
    have h4:=FO hi2 h1 h3
    have h5:k9 z js = qO z js k i:=(fw h0 (by rw [h4]; exact h3) hkn).trans h4
    have h6:nw z js = qO z js k i:=(rE (by rw [h5]; exact h3)).trans h5
    refine ts (rm rfl (ro rfl (cQ cV) (ra rfl (eX (aE rfl (fX (eU rfl) ?_) (fX (eU rfl) ?_))))))
    ·exact (fun v V h=>by rw [DF,bq,h6,if_neg h3]; exact dh v V h)
    ·exact (am h6.symm)
   ·have h3 : qO z js k i = 0 := by simp only [Bool.not_eq_false', decide_eq_true_eq] at hf; exact hf
    refine cU (cY (rm rfl (rm rfl (ro rfl (aN (xs:=[.tmp 30]) U_72 Z_3 O_3 (cW (Ht rfl) cG) rfl rfl rfl) (d5 (inf:=Tryz.t3) jN jT rfl rfl rfl (Ht rfl) (Ht rfl) (i:=1) rfl (by simp) (fun T hT=>by simp at hT; subst hT; exact El.one) (by show _ * 8 ≤ _; simp only [List.length_map,List.length_cons,List.length_nil]; omega) (by simp only [List.length_map,List.length_cons,List.length_nil]; omega) rfl (fun v2=>?_))))))
    refine ra rfl (eX (as (cY (ro rfl (dV (Ht rfl) (cJ 1) z6) (rm rfl (eX ?_))))))
    refine fU (i + 1, v2) ⟨hi2, fun x hx => by
      by_cases e:x = i
      ·rw [e]; exact h3
      ·exact h1 x zo⟩ (by dsimp only; omega) (zS rfl) (aU (a8 rfl) (aU (aa (by rw [yl hi2,← List.append_assoc,List.map_append (l₁:=ff (js.take k) ++ (t4 (d6 js k)).take i)]; rfl)) aY))
  ·obtain rfl : i = 2 := by simp only [decide_eq_false_iff_not] at he; omega
   obtain ⟨⟨p1,p2⟩,⟨p3,p4⟩,h3⟩:=FF h1
   have hrow:ff (js.take (k + 1)) = ff (js.take k) ++ (t4 (d6 js k)).take 2:=kv hkn
   haveI g1:=hfz.get hL ((d6 js k).1 - 1).toNat
   haveI g2:=hfz.get hL ((d6 js k).2 - 1).toNat
   refine gV rfl (cK (fZ (m:=14) (dp 2 rfl (eZ iT (Ht rfl) rfl) (dq 34 0 rfl (eY A_29 Z_29 (Ht rfl) (i:=0) rfl rfl) (dp 8 rfl (eT U_71 Z_3 (Ht rfl) cV rfl (by decide) rfl) (dq 36 2 rfl (dJ A_3 Z_3 (Ht rfl)) (dq 37 3 rfl (bT (Ht rfl) cV (r:=((((d6 js k).1 - 1).toNat:Nat):Int)) ((kA (z:=(d6 js k).1 - 1) zo).trans zo)) ?_)))))))
   refine b8 35 1 38 4 rfl (dZ U_29 Z_51 (Ht rfl) (Ht rfl) rfl (dY (dU (d:=Qi.zero) zo))) (dq 39 5 rfl (dJ A_51 Z_51 (Ht rfl)) (dp 2 rfl (eZ iT (Ht rfl) rfl) (dq 41 7 rfl (eY A_29 Z_29 (Ht rfl) (i:=0) rfl rfl) (dp 8 rfl (eT U_71 Z_3 (Ht rfl) cV rfl (by decide) rfl) (dq 43 9 rfl (dJ A_3 Z_3 (Ht rfl)) (dq 44 10 rfl (bT (Ht rfl) cV (r:=((((d6 js k).2 - 1).toNat:Nat):Int)) ((kA (z:=(d6 js k).2 - 1) zo).trans zo)) ?_))))))
   refine b8 42 8 45 11 rfl (dZ U_29 Z_51 (Ht rfl) (Ht rfl) rfl (dY (dU (d:=Qi.zero) zo))) (dq 46 12 rfl (dJ A_51 Z_51 (Ht rfl)) (fV au rfl (by kernel_rfl) (zF (zF (zF (aJ (aJ (aV (ro rfl (cZ Tryz.call139 (EI (x:=gv z ((d6 js k).1 - 1).toNat) (y:=gv z ((d6 js k).2 - 1).toNat) (L:=L) (M:=L) zo zo) ⟨(Ht rfl),(Ht rfl),trivial⟩) (ro rfl (co (Ht rfl)) ?_))))))))))
   refine eX (dQ (Ht rfl) (fun hg=>?_) (fun hg=>?_))
   ·have h4 : jo z js k = 40 := by rw [h3, if_neg (by simpa using hg)]
    have h5:k9 z js = 40:=(fw h0 (by rw [h4]; decide) hkn).trans h4
    have h6:nw z js = 40:=(rE (by rw [h5]; decide)).trans h5
    refine ts (ro rfl (cQ cV) (ro rfl (cQ (cJ 40)) (eX (aE rfl (fX (eU rfl) ?_) (fX (eU rfl) ?_)))))
    ·exact (fun v V h=>by rw [DF,bq,h6]; exact dh v V h)
    ·exact (am h6.symm)
   ·have h4 : jo z js k = 0 := by rw [h3, if_pos (by simpa using hg)]
    refine cU (as (cY (ro rfl (dV (Ht rfl) (cJ 1) z6) (rm rfl (eX ?_)))))
    refine fU (k + 1, vI) ⟨hkn, fun j h => by
      by_cases e:j = k
      ·rw [e]; exact h4
      ·exact h0 j zo⟩ (by dsimp only; omega) (zS rfl) (aU (a8 rfl) (aU (aa (by rw [hrow])) aY))
 ·obtain rfl : k = js.length := by simp only [decide_eq_false_iff_not] at hd; omega
  have h2:k9 z js = 0:=cB h0
  have hll:=gn js
  rw [List.take_length]
  refine gV rfl (cK (ts (rm rfl (ro rfl (ir U_72 (Ht rfl) (i:=1) rfl a7) (ro rfl (bD (Ht rfl) (cJ 0)) (rm rfl (fQ rfl rfl (eK rfl rfl (Ht rfl) (fun h=>cX (Ht rfl))) (fQ rfl rfl (eK rfl rfl (Ht rfl) (fun h=>ir U_72 (fJ rfl h) (i:=1) rfl a7)) (fQ rfl rfl (eK rfl rfl (Ht rfl) (fun h=>eZ iT (Ht rfl) rfl)) (fQ rfl rfl (eK rfl rfl (Ht rfl) (fun h=>eY A_29 Z_29 (fJ rfl h) (i:=0) rfl rfl)) (fQ rfl rfl (eK rfl rfl (Ht rfl) (fun h=>dG U_29 (fJ rfl h) a7)) ?_)))))))))))
  refine fQ rfl rfl (eK rfl rfl (Ht rfl) (fun h=>bc (fJ rfl h) (fJ rfl h))) (ro rfl (c7 (Ht rfl) (fun h=>(fJ rfl h))) (eX (dQ (Ht rfl) (fun hc=>?_) (fun hc=>?_))))
  ·have h3 : 0 < 2 * js.length ∧ 2 * js.length = z.length := by simpa [hll] using hc
   have h6:nw z js = 4:=uY h2 h3
   refine ts (ro rfl (cQ cV) (ro rfl (cQ (cJ 4)) (eX (aE rfl (fX (eU rfl) ?_) (fX (eU rfl) ?_)))))
   ·exact (fun v V h=>by rw [DF,bq,h6]; exact dh v V h)
   ·exact (am h6.symm)
  ·have h3 : ¬ (0 < 2 * js.length ∧ 2 * js.length = z.length) := by simpa [hll] using hc
   have h6:nw z js = 0:=vE h2 h3
   refine gJ (i:=1) (tt:=6) rfl rfl bB (cU (ts (rm rfl (ra rfl (ro rfl (cQ (cJ 0)) (eX (aE rfl (fX (eU rfl) ?_) (fX (eU rfl) ?_))))))))
   ·exact (eR (by rw [DF,bq,h6]; rfl))
   ·exact (am h6.symm)
theorem wS {z:List Qi} {S:List (List Qi)} {js:List (Int × Int)} {L:Nat} (hfz:bk z L) (hL:1 ≤ L) (hLb:L ≤ 1000000) (hz:z.length ≤ 1000) (hj:js.length ≤ 100):az Tryz.prog 197 [ik z S,te js] (cr [z9 (bq (k9 z js) (aR js)),ap .i64 (k9 z js)]):=by
 have hpl:=lT js
 refine az.intro Tryz.func197 rfl Tryz.ntmps197 rfl (fun cx=>(ts (rn rfl (fG (Ht rfl)) fun B2=>(ro rfl (cQ cV) (ro rfl (cQ (cJ 0)) (eX (ts (rn rfl (gc U_72 Z_3 O_3) fun B12=>(ra rfl (eX (ts (rn rfl (gc U_26 Z_71 O_71) fun B13=>(ra rfl (eX (cK (ts (ro rfl (cQ (cJ 0)) (eX (eG ?_)))))))))))))))))))
 refine cT (fun (k : Nat) (vG : Value) (vP : Value) => k ≤ js.length ∧ ∀ j, j < k → jo z js j = 0) (fun (k : Nat) (vG : Value) (vP : Value) => js.length - k) (fun (k : Nat) (vG : Value) (vP : Value) => [(1, te js), (2, aI B2 0), (6, Is vG), (7, Is vP), (8, NT .i64 k)]) (fun (k : Nat) (vG : Value) (vP : Value) => [box B2 38 [iv z, QM S], aB 3 1 vG ((ff (js.take k)).map (ap .i64)), aB 71 2 vP (((aR js).take k).map G6)]) 0 _ _ ⟨Nat.zero_le _, fun j h => by omega⟩
  (zS rfl) (aU (a8 rfl) (aU (aa rfl) (aU (aa rfl) aY))) (fun k vG vP ⟨hk,h0⟩=>?_)
 refine cK (ts (rm rfl (rm rfl (ro rfl (dG U_26 (Ht rfl) a7) (ro rfl (gX (Ht rfl) (Ht rfl)) (eX (dQ (Ht rfl) (fun hd=>?_) (fun hd=>?_))))))))
 ·have hkn : k < js.length := by simp only [decide_eq_true_eq] at hd; omega
  have hjk:=gn (js.take k)
  have hjt:(js.take k).length ≤ 100:=by rw [List.length_take]; omega
  have hkt:((aR js).take k).length ≤ 100:=by rw [List.length_take]; omega
  have hjk2:(ff (js.take (k + 1))).length ≤ 1000:=by rw [gn,List.length_take]; omega
  have hrow:ff (js.take (k + 1)) = ff (js.take k) ++ [(d6 js k).1,(d6 js k).2]:=kv hkn
  refine cU (cK (eG (cK (fZ (m:=12) (dp 6 rfl (cX (Ht rfl)) (dp 1 rfl (cX (Ht rfl)) (dp 8 rfl (cX (Ht rfl)) (b8 21 1 22 2 rfl (dZ U_26 Z_71 (Ht rfl) (Ht rfl) rfl (dY (dU (d:=(0,0)) hkn))) (dq 23 3 rfl (eT U_71 Z_3 (Ht rfl) cV rfl (by decide) rfl) (dq 24 4 rfl (dJ A_3 Z_3 (Ht rfl)) (dp 1 rfl (cX (Ht rfl)) (dp 8 rfl (cX (Ht rfl)) (b8 26 6 27 7 rfl (dZ U_26 Z_71 (Ht rfl) (Ht rfl) rfl (dY (dU (d:=(0,0)) hkn))) ?_)))))))))))))
  refine dq 28 8 rfl (eT U_71 Z_3 (Ht rfl) cV rfl (by decide) rfl) (dq 29 9 rfl (dJ A_3 Z_3 (Ht rfl)) (b8 25 5 30 10 rfl (aN (xs:=[.tmp 25,.tmp 30]) U_72 Z_3 O_3 (cW (Ht rfl) (cW (Ht rfl) cG)) rfl rfl rfl) (fV au rfl (by kernel_rfl) (zF (zF (zF (aV (d5 (inf:=Tryz.t3) jN jT rfl rfl rfl (Ht rfl) (Ht rfl) (i:=1) rfl (by simp) (fun T hT=>by simp at hT; rcases hT with rfl | rfl <;> exact El.one) (by show _ * 8 ≤ _; simp only [List.length_map,List.length_cons,List.length_nil]; omega) (by simp only [List.length_map,List.length_cons,List.length_nil]; omega) rfl (fun v2=>?_)))))))))
  refine ra rfl (eX (cK (cK (fk 1 rfl (aa (e:=3) (s:=1) (by rw [hrow,List.map_append]; rfl:_ = (ff (js.take (k + 1))).map (ap .i64))) ?_))))
  refine cY (ro rfl (eZ f7 (Ht rfl) rfl) (ro rfl (eY A_35 Z_35 (Ht rfl) (i:=0) rfl rfl) (ro rfl (dG U_35 (Ht rfl) a7) (rm rfl (ro rfl (sV Tryz.call212 (zT (n:=z.length) (l:=ff (js.take (k + 1))) hjk2) (j:=1) (tt:=36) rfl rfl bB (fun _ _ _ h=>h) ⟨(Ht rfl),(Ht rfl),trivial⟩) (ra rfl (eX (ts (rm rfl (ro rfl (eP (Ht rfl) cV) (eX (dQ (Ht rfl) (fun hf=>?_) (fun hf=>?_)))))))))))))
  ·have h3 : iO z.length (ff (js.take (k + 1))) ≠ 0 := by simpa using hf
   have h4:jo z js k = iO z.length (ff (js.take (k + 1))):=by rw [wk hkn h0,if_pos h3]
   have h5:k9 z js = iO z.length (ff (js.take (k + 1))):=(fw h0 (by rw [h4]; exact h3) hkn).trans h4
   refine ts (rm rfl (ro rfl (cQ cV) (ra rfl (eX (aE rfl (fX (eU rfl) ?_) (fX (eU rfl) ?_))))))
   ·exact (fun v V h=>by rw [bq,h5,if_neg h3]; exact dh v V h)
   ·exact (am h5.symm)
  ·have h3 : iO z.length (ff (js.take (k + 1))) = 0 := by simpa using hf
   have h4:jo z js k = if gv z ((d6 js k).1 - 1).toNat = gv z ((d6 js k).2 - 1).toNat then 0 else 40:=by rw [wk hkn h0,if_neg (fun k=>k h3)]
   obtain ⟨⟨p1,p2⟩,p3,p4⟩:=ER h3 hkn
   haveI g1:=hfz.get hL ((d6 js k).1 - 1).toNat
   haveI g2:=hfz.get hL ((d6 js k).2 - 1).toNat
   refine cU (cK (fZ (m:=13) (dp 1 rfl (cX (Ht rfl)) (dp 8 rfl (cX (Ht rfl)) (b8 41 0 42 1 rfl (dZ U_26 Z_71 (Ht rfl) (Ht rfl) rfl (dY (dU (d:=(0,0)) hkn))) (dq 43 2 rfl (eT U_71 Z_3 (Ht rfl) cV rfl (by decide) rfl) (dq 44 3 rfl (dJ A_3 Z_3 (Ht rfl)) (dq 45 4 rfl (bT (Ht rfl) cV (r:=((((d6 js k).1 - 1).toNat:Nat):Int)) ((kA (z:=(d6 js k).1 - 1) zo).trans zo)) ?_))))))))
   refine dp 1 rfl (cX (Ht rfl)) (dp 8 rfl (cX (Ht rfl)) (b8 47 6 48 7 rfl (dZ U_26 Z_71 (Ht rfl) (Ht rfl) rfl (dY (dU (d:=(0,0)) hkn))) (dq 49 8 rfl (eT U_71 Z_3 (Ht rfl) cV rfl (by decide) rfl) (dq 50 9 rfl (dJ A_3 Z_3 (Ht rfl)) (dq 51 10 rfl (bT (Ht rfl) cV (r:=((((d6 js k).2 - 1).toNat:Nat):Int)) ((kA (z:=(d6 js k).2 - 1) zo).trans zo)) ?_)))))
   refine dq 46 5 rfl (cQ (Ht rfl)) (fV au rfl (by kernel_rfl) (zF (zF (zF (aJ (aV (ra rfl (eX (cK (cK (fZ (m:=10) (dp 2 rfl (eZ f7 (Ht rfl) rfl) (dq 53 0 rfl (eY A_35 Z_35 (Ht rfl) (i:=0) rfl rfl) (dp 10 rfl (cX (Ht rfl)) (b8 54 1 55 2 rfl (dZ U_35 Z_131 (Ht rfl) (Ht rfl) rfl (dY (dU (d:=Qi.zero) zo))) (dq 56 3 rfl (dJ A_131 Z_131 (Ht rfl)) ?_))))))))))))))))
   refine dp 2 rfl (eZ f7 (Ht rfl) rfl) (dq 58 5 rfl (eY A_35 Z_35 (Ht rfl) (i:=0) rfl rfl) (dp 11 rfl (cX (Ht rfl)) (b8 59 6 60 7 rfl (dZ U_35 Z_131 (Ht rfl) (Ht rfl) rfl (dY (dU (d:=Qi.zero) zo))) (dq 61 8 rfl (dJ A_131 Z_131 (Ht rfl)) (fV au rfl (by kernel_rfl) (zF (zF (aJ (aJ (aV (ro rfl (cZ Tryz.call164 (Bq (x:=gv z ((d6 js k).1 - 1).toNat) (y:=gv z ((d6 js k).2 - 1).toNat) (L:=L) (M:=L) zo zo) ⟨(Ht rfl),(Ht rfl),trivial⟩) ?_)))))))))))
   refine ro rfl (co (Ht rfl)) (eX (dQ (Ht rfl) (fun hg=>?_) (fun hg=>?_)))
   ·have h5 : jo z js k = 40 := by rw [h4, if_neg (by simpa using hg)]
    have h6:k9 z js = 40:=(fw h0 (by rw [h5]; decide) hkn).trans h5
    refine ts (ro rfl (cQ cV) (ro rfl (cQ (cJ 40)) (eX (aE rfl (fX (eU rfl) ?_) (fX (eU rfl) ?_)))))
    ·exact (fun v V h=>by rw [bq,h6]; exact dh v V h)
    ·exact (am h6.symm)
   ·have h5 : jo z js k = 0 := by rw [h4, if_pos (by simpa using hg)]
    refine cU (cY (rm rfl (rm rfl (rm rfl (ro rfl (tX (Ht rfl) (Ht rfl)) (ro rfl (aN (xs:=[.tmp 68]) U_26 Z_71 O_71 (cW (Ht rfl) cG) rfl rfl rfl) (d5 (inf:=Tryz.t71) EB BN rfl rfl rfl (Ht rfl) (Ht rfl) (i:=2) rfl (by simp) (fun T hT=>by simp at hT; subst hT; exact El.ag rfl) (by show _ * 16 ≤ _; simp only [List.length_map,List.length_cons,List.length_nil]; omega) (by simp only [List.length_map,List.length_cons,List.length_nil]; omega) rfl (fun v3=>?_))))))))
    refine ra rfl (eX (as (cY (rm rfl (ro rfl (dV (Ht rfl) (cJ 1) z6) (ra rfl (eX ?_)))))))
    refine fU (k + 1, v2, v3) ⟨hkn, fun j h => by
      by_cases e:j = k
      ·rw [e]; exact h5
      ·exact h0 j zo⟩ (by dsimp only; omega) (zS rfl) (aU (a8 rfl) (aU (fun _ _ _ h=>h) (aU (aa (by rw [xP hkn,List.map_append]; rfl)) aY)))
 ·obtain rfl : k = js.length := by simp only [decide_eq_false_iff_not] at hd; omega
  have h2:k9 z js = 0:=cB h0
  rw [show (aR js).take js.length = aR js by rw [← hpl,List.take_length]]
  refine gJ (i:=2) (tt:=7) rfl rfl bB (gV rfl (ts (rm rfl (ra rfl (ro rfl (cQ (cJ 0)) (eX (aE rfl (fX (eU rfl) ?_) (fX (eU rfl) ?_))))))))
  ·exact (eR (by rw [bq,if_pos h2]))
  ·exact (am h2.symm)
end
section
open Go Go.RowKit
theorem G0 {x : Nat} (h : x < 20) : IntKind.wrap .i64 ((BitVec.ofInt (IntKind.bits .i64) (x : Int) ^^^ BitVec.ofInt (IntKind.bits .i64) ((1 : Nat) : Int)).toNat : Nat) = ((de x : Nat) : Int) :=
 (by decide +kernel:∀ x:Nat,x < 20 → IntKind.wrap .i64 ((BitVec.ofInt (IntKind.bits .i64) (x:Int) ^^^ BitVec.ofInt (IntKind.bits .i64) ((1:Nat):Int)).toNat:Nat) = ((de x:Nat):Int)) x h
theorem Be {z:List Qi} {S:List (List Qi)} {js:List (Int × Int)} {x:Nat} (hS:bE S z.length z.length) (hd:k9 z js = 0) (hx:x < 2 * js.length) (hm:2 * js.length ≤ 18) (hz:z.length ≤ 1000):az Tryz.prog 118 [NT .i64 x,PT (fP z S),PT (bv ((gO js).map Nat.succ))] (aS (S.getD (gq (aR js) (de x)) [])):=by
 have hpx:de x < 2 * js.length:=gF hx
 have hgq:=(lw hd).lt (de x) hpx
 have hSl:=hS.1
 have hJl:=om js
 have hat:cO (gO js) (de x) = gq (aR js) (de x):=rh hpx
 refine az.intro Tryz.func118 rfl Tryz.ntmps118 rfl (fun cx=>(ts (ro rfl (cQ cV) (eX (cK (fZ (m:=8) (dp 1 rfl (og l9 (Ht rfl) rfl) (dq 5 0 rfl (dJ A_30 Z_30 (Ht rfl)) (dp 2 rfl (dJ A_72 Z_72 (Ht rfl)) (dp 0 rfl (cX (Ht rfl)) (dq 8 3 rfl (vv (Ht rfl) (cJ 1) (G0 zo)) (b8 7 2 9 4 rfl (dZ U_72 Z_3 (Ht rfl) (Ht rfl) rfl (dY (j3 zo))) (dq 10 5 rfl (dJ A_3 Z_3 (Ht rfl)) (dq 11 6 rfl (al.nat (dW (Ht rfl) (cJ 1) zo z6) (show cO (gO js) (de x) + 1 - 1 = gq (aR js) (de x) by omega)) ?_))))))))))))))
 refine fV au rfl (by kernel_rfl) (zF (zF (aV (ro rfl (dZ U_30 Z_29 (Ht rfl) (Ht rfl) rfl (dY (dU (d:=[]) zo))) (ro rfl (dJ A_29 Z_29 (Ht rfl)) (ra rfl (eX ?_)))))))
 exact fW rfl (eU rfl)
theorem Ds {x y:Nat}:az Tryz.prog 120 [NT .i64 x,NT .i64 y] (ar (if x = y then Qi.ofInt 1 else Qi.ofInt 0)):=by
 refine az.intro Tryz.func120 rfl Tryz.ntmps120 rfl (fun cx=>(ts (rn rfl (eW (Ts:=[Is (.bool false),Is (.slice none 0 0),Is (.bool false),Is (.slice none 0 0),Is (.slice none 0 0)]) O_51 rfl (fun V=>aW zd (aW zd (aW zd (aW zd (aW zd (aG))))))) fun B4=>(eX (cK (ts (rm rfl (rm rfl (ro rfl (bc (Ht rfl) (Ht rfl)) (eX (dQ (Ht rfl) (fun hb=>?_) (fun hb=>?_))))))))))))
 ·have h2 : x = y := by simpa using hb
  refine ts (ro rfl (cZ Tryz.call109 (uU (n:=1) (by decide) (by decide)) ⟨(cJ 1),trivial⟩) (gQ Z_51 (Ht rfl) (Ht rfl) rfl (i:=0) rfl (aK rfl) rfl rfl (eX (fW rfl (fX (fK A_51 Z_51 rfl (i:=0) rfl rfl) ?_)))))
  exact (fH (if_pos h2).symm)
 ·have h2 : ¬ x = y := by simpa using hb
  refine cU (ts (ro rfl (cZ Tryz.call109 (uU (n:=0) (by decide) (by decide)) ⟨(cJ 0),trivial⟩) (gQ Z_51 (Ht rfl) (Ht rfl) rfl (i:=0) rfl (aK rfl) rfl rfl (eX (fW rfl (fX (fK A_51 Z_51 rfl (i:=0) rfl rfl) ?_))))))
  exact (fH (if_neg h2).symm)
theorem C6 {z:List Qi} {S:List (List Qi)} {js:List (Int × Int)} {x y L:Nat} (hS:bE S z.length z.length) (hf:aL S L) (hL:1 ≤ L) (hLb:L ≤ 1000) (hd:k9 z js = 0) (hx:x < 2 * js.length) (hy:y < 2 * js.length) (hm:2 * js.length ≤ 18) (hz:z.length ≤ 1000):az Tryz.prog 119 [NT .i64 x,NT .i64 y,PT (rO Tryz.prog (Fin (2 * js.length)) (fun x=>[NT .i64 x.1]) (fun x=>aS (S.getD (gq (aR js) (de x.1)) []))),PT (bv ((gO js).map Nat.succ))] (ar ((if x = y then Qi.ofInt 1 else Qi.ofInt 0) - gm S (gq (aR js) (de x)) (gq (aR js) y))):=by
 have hpx:de x < 2 * js.length:=gF hx
 have hgx:=(lw hd).lt (de x) hpx
 have hgy:=(lw hd).lt y hy
 have hSl:=hS.1
 have hSr:=hS.row hgx
 have hJl:=om js
 have hat:cO (gO js) y = gq (aR js) y:=rh hy
 haveI g1:ao (gm S (gq (aR js) (de x)) (gq (aR js) y)) L:=hf.get hL _ _
 haveI g2 : ao (if x = y then Qi.ofInt 1 else Qi.ofInt 0) 1 := by
  split
  ·exact mt
  ·exact (ao.zero (Nat.le_refl 1):ao Qi.zero 1)
 refine az.intro Tryz.func119 rfl Tryz.ntmps119 rfl (fun cx=>(ts (rn rfl (eW (Ts:=[Is (.bool false),Is (.slice none 0 0),Is (.bool false),Is (.slice none 0 0),Is (.slice none 0 0)]) O_51 rfl (fun V=>aW zd (aW zd (aW zd (aW zd (aW zd (aG))))))) fun B6=>(eX (cK (fZ (m:=14) (dp 0 rfl (cX (Ht rfl)) (dp 1 rfl (cX (Ht rfl)) (b8 7 0 8 1 rfl (cZ Tryz.call120 (Ds (x:=x) (y:=y)) ⟨(Ht rfl),(Ht rfl),trivial⟩) (dq 9 2 rfl (bd bC (Ht rfl)) ?_))))))))))
 refine dp 2 rfl (dJ Tryz.isAgg175 Tryz.sizeOf175 (Ht rfl)) (dp 0 rfl (cX (Ht rfl)) (b8 11 4 12 5 rfl (kE (Ts:=fun x:Fin (2 * js.length)=>[NT .i64 x.1]) ⟨x,hx⟩ (Ht rfl) ⟨(Ht rfl),trivial⟩) (dp 3 rfl (dJ A_72 Z_72 (Ht rfl)) (dp 1 rfl (cX (Ht rfl)) (b8 14 7 15 8 rfl (dZ U_72 Z_3 (Ht rfl) (Ht rfl) rfl (dY (j3 zo))) (dq 16 9 rfl (dJ A_3 Z_3 (Ht rfl)) (dq 17 10 rfl (al.nat (dW (Ht rfl) (cJ 1) zo z6) (show cO (gO js) y + 1 - 1 = gq (aR js) y by omega)) ?_)))))))
 refine b8 13 6 18 11 rfl (dZ U_29 Z_51 (Ht rfl) (Ht rfl) rfl (dY (dU (d:=Qi.zero) (show gq (aR js) y < (S.getD (gq (aR js) (de x)) []).length by omega)))) (dq 19 12 rfl (dJ A_51 Z_51 (Ht rfl)) (fV au rfl (by kernel_rfl) (zF (zF (zF (aJ (aJ (aV (ro rfl (b7 fo K_44 (oL (x:=if x = y then Qi.ofInt 1 else Qi.ofInt 0) (y:=gm S (gq (aR js) (de x)) (gq (aR js) y)) (L:=1) (M:=L) zo) (Ht rfl) ⟨(Ht rfl),trivial⟩) ?_)))))))))
 refine gQ Z_51 (Ht rfl) (Ht rfl) rfl (i:=0) rfl (aK rfl) rfl rfl (eX ?_)
 exact fW rfl (fK A_51 Z_51 rfl (i:=0) rfl rfl)
theorem EG {z:List Qi} {S:List (List Qi)} {js:List (Int × Int)} {L:Nat} (hS:bE S z.length z.length) (hf:aL S L) (hfz:bk z L) (hL:1 ≤ L) (hLb:L ≤ 1000) (hz:z.length ≤ 18) (hj:js.length ≤ 100) (hg:∀ k,2 * k < z.length → 6 * b5 (L + 2) (2 * k) + 4 ≤ 17592186044415) (hx:∀ k,2 * k < z.length → ji (b5 (L + 2) (2 * k)) (2 * k + 1) ≤ 100000000000):az Tryz.prog 31 [fP z S,te js] (cr [fP (jY z S js) (lb z S js),ap .i64 (jV z S js)]):=by
 have hll:=gn js
 have hJl:=om js
 have hSl:=hS.1
 refine az.intro Tryz.func31 rfl Tryz.ntmps31 rfl (fun cx=>(ts (rn rfl (fG (Ht rfl)) fun B2=>(rn rfl (eW (Ts:=[Is (.slice none 0 0),Is (.slice none 0 0)]) O_32 rfl (fun V=>aW zd (aW zd (aG)))) fun B4=>(ro rfl (cQ (cJ 0)) (eX (ts (ro rfl (eJ A_32 Z_32 (Ht rfl) (i:=0) rfl rfl rfl) (rm rfl (ro rfl (cZ Tryz.call117 (A7 (z:=z) (S:=S) (js:=js) (L:=L) hfz hL zo zo hj) ⟨(Ht rfl),(Ht rfl),trivial⟩) (rm rfl (ro rfl (dK (Ht rfl) rfl) ?_))))))))))))
 refine ro rfl (dK (Ht rfl) rfl) (rn rfl (eW (Ts:=[Is (.slice none 0 0)]) Tryz.zeroValue72 rfl (fun V=>aW zd (aG))) fun B6=>(fe Z_72 (Ht rfl) (Ht rfl) (i:=2) rfl (aK rfl) rfl (ra rfl (eX (cK (ts (rm rfl (ro rfl (eP (Ht rfl) cV) (eX (dQ (Ht rfl) (fun hc=>?_) (fun hc=>?_)))))))))))
 ·have h3 : nw z js ≠ 0 := by simpa using hc
  have he:jV z S js = nw z js:=wc h3
  refine ts (ro rfl (al.imp (ma ) mh) (rm rfl (gQ Z_32 (Ht rfl) (Ht rfl) rfl (i:=1) rfl (aK rfl) rfl rfl (ra rfl (eX (aE rfl (fX (fK A_32 Z_32 rfl (i:=1) rfl rfl) ?_) (fX (eU rfl) ?_)))))))
  ·exact (fun v V h=>by rw [jY,lb,bq,bq,he,if_neg h3,if_neg h3]; exact h)
  ·exact (am he.symm)
 ·have h3 : nw z js = 0 := by simpa using hc
  obtain ⟨hd,hne⟩:=lV h3
  have hok:DF z js = ff js:=by rw [DF,bq,if_pos h3]
  rw [hok]
  refine cU (cK (ts (ro rfl (eY A_72 Z_72 (Ht rfl) (i:=2) rfl rfl) (ro rfl (dG U_72 (Ht rfl) (by rw [List.length_map,hll])) ?_))))
  refine ro rfl (bc (Ht rfl) (cJ 0)) (eX (dQ (Ht rfl) (fun hc2=>?_) (fun hc2=>?_)))
  ·have h4 : js.length = 0 := by simp only [decide_eq_true_eq] at hc2; omega
   have he:jV z S js = 0:=vJ h3 h4
   refine ts (ro rfl (eJ A_32 Z_32 (Ht rfl) (i:=0) rfl rfl rfl) (gQ Z_32 (Ht rfl) (Ht rfl) rfl (i:=1) rfl (aK rfl) rfl rfl (ro rfl (cQ (cJ 0)) (eX (aE rfl (fX (fK A_32 Z_32 rfl (i:=1) rfl rfl) ?_) (fX (eU rfl) ?_))))))
   ·exact (fun v V h=>by rw [jY,lb,bq,bq,he,if_pos h4,if_pos h4]; exact h)
   ·exact (am he.symm)
  ·have h4 : js.length ≠ 0 := by simp only [decide_eq_false_iff_not] at hc2; omega
   have hj:=lw hd
   have hjl:=oC hd
   have hm1:2 * js.length < z.length:=by omega
   obtain ⟨m,hm⟩:∃ m,m = 2 * js.length:=⟨_,rfl⟩
   have hg2:=hg js.length hm1
   have hx2:=hx js.length hm1
   have hxn:=Nat.le_trans (md (b5 (L + 2) (2 * js.length)) (2 * js.length)) hx2
   have Fi:=AV (z:=z) (s:=S) (G:=gO js) zo zo
   rw [yJ] at Fi
   have hfl:(bN z js).length ≤ z.length:=j4 _ _
   have hfx:∀ x,x ∈ bN z js → x < z.length:=fun x h=>tS h
   rw [yQ hd]
   refine cU (cK (gJ (i:=0) (tt:=2) rfl rfl rK (gJ (i:=2) (tt:=6) rfl rfl ju (cY (ro rfl (lc (γ:=Fin (2 * js.length)) (Ts:=fun x=>[NT .i64 x.1]) (U:=fun x=>aS (S.getD (gq (aR js) (de x.1)) [])) Tryz.call118 (fun x=>Be hS hd x.2 zo zo) ⟨(Ht rfl),(Ht rfl),trivial⟩) (rn rfl (eW (Ts:=[Is (.nilFunc)]) Tryz.zeroValue175 rfl (fun V=>aW zd (aG))) fun B8=>(fe Tryz.sizeOf175 (Ht rfl) (Ht rfl) (i:=3) rfl (aK rfl) rfl (eX (cK (gJ (i:=3) (tt:=8) rfl rfl ju ?_))))))))))
   refine cY (ro rfl (dJ A_72 Z_72 (Ht rfl)) (ro rfl (dG U_72 (Ht rfl) (by rw [List.length_map,List.length_map,hJl])) ?_))
   refine ro rfl (lc (γ:=Fin (2 * js.length) × Fin (2 * js.length)) (Ts:=fun x=>[NT .i64 x.1.1,NT .i64 x.2.1]) (U:=fun x=>ar ((if x.1.1 = x.2.1 then Qi.ofInt 1 else Qi.ofInt 0) - gm S (gq (aR js) (de x.1.1)) (gq (aR js) x.2.1))) Tryz.call119 (fun x=>C6 hS hf hL hLb hd x.1.2 x.2.2 zo zo) ⟨(Ht rfl),(Ht rfl),trivial⟩) (ro rfl (cZ Tryz.call114 (yE (n:=2 * js.length) (f:=fun x y=>(if x = y then Qi.ofInt 1 else Qi.ofInt 0) - gm S (gq (aR js) (de x)) (gq (aR js) y)) zo) ⟨(Ht rfl),(Ht rfl),trivial⟩) (ra rfl (eX (ts (ro rfl (dJ A_32 Z_32 (Ht rfl)) ?_)))))
   refine ro rfl (dJ A_72 Z_72 (Ht rfl)) (ro rfl (cZ Tryz.call121 Fi ⟨(Ht rfl),(Ht rfl),trivial⟩) (ra rfl (eX (ts (ro rfl (dJ A_32 Z_32 (Ht rfl)) (rm rfl (ec Tryz.call122 (Bh (Q:=bN z js) (m:=(bN z js).length) hS hfx rfl zo zo) ⟨(Ht rfl),(Ht rfl),trivial⟩ rfl (fun B47 _=>(rn rfl (eW (Ts:=[Is (.slice none 0 0),Is (.slice none 0 0)]) O_32 rfl (fun V=>aW zd (aW zd (aG)))) fun B11=>(gQ Z_32 (Ht rfl) (Ht rfl) rfl (i:=5) rfl (aK rfl) rfl rfl ?_))))))))))
   refine eX (cK (ts (rm rfl (ro rfl (dG U_72 (Ht rfl) (by rw [List.length_map,List.length_map])) ?_))))
   refine ro rfl (cX (cJ 0)) (eX (eG (aO [1,4,5] rfl (by decide) ?_)))
   refine aF (fun (j : Nat) => j ≤ (bN z js).length ∧ ∀ y, y < j → et (gk S (aR js) (2 * js.length)) (px S (aR js) (2 * js.length) ((bN z js).getD y 0)) (2 * js.length) = 0) (fun (j : Nat) => (bN z js).length - j) (fun (j : Nat) => [(2, PT (fP z S)), (4, aI B4 0), (6, PT (bv ((gO js).map Nat.succ))), (8, PT (rO Tryz.prog (Fin (2 * js.length)) (fun x => [NT .i64 x.1]) (fun x => aS (S.getD (gq (aR js) (de x.1)) [])))), (9, b9 (gk S (aR js) (2 * js.length))), (10, bv ((bN z js).map Nat.succ)), (11, aI B11 0), (48, bv ((bN z js).map Nat.succ)), (49, NT .i64 ((bN z js).length)), (50, NT .i64 j)]) (fun (j : Nat) => [box B4 32 [Is (.slice none 0 0), Is (.slice none 0 0)], iK B47 29 51 5 (aH ar (tab ((bN z js).length) fun i => (eS (fun y => pz S (aR js) (2 * js.length) (cO (bN z js) i) (cO (bN z js) y)) (fun y => gm S (cO (bN z js) i) (cO (bN z js) y)) (bN z js).length j))), box B11 32 [aS (nK z (bN z js)), Is (.slice (some ⟨B47, 0, none⟩) ((bN z js).length) ((bN z js).length))]]) 0 ⟨Nat.zero_le _, fun y h => by omega⟩
    (zS rfl) (aU (a8 rfl) (aU (aC (congrArg (aH ar) (bf fun i _=>eo _ _ _))) (aU (a8 rfl) aY))) (fun j ⟨hjq,h0⟩=>?_)
   refine ts (ro rfl (gX (Ht rfl) (Ht rfl)) (eX (cK (dQ (Ht rfl) (fun hd1=>?_) (fun hd1=>?_)))))
   ·have hjn : j < (bN z js).length := by simp only [decide_eq_true_eq] at hd1; omega
    have hFj:cO (bN z js) j < z.length:=tG hjn
    have hbf:bk (px S (aR js) (2 * js.length) ((bN z js).getD j 0)) L:=uP hf hL
    refine cU (cK (eG (ts (rm rfl (ro rfl (dZ U_72 Z_3 (Ht rfl) (Ht rfl) rfl (dY (j3 hjn))) (ro rfl (dJ A_3 Z_3 (Ht rfl)) (ra rfl (ra rfl (eX (ts (ro rfl (dJ A_72 Z_72 (Ht rfl)) (ro rfl (dG U_72 (Ht rfl) (by rw [List.length_map,List.length_map,hJl])) ?_))))))))))))
    refine rn rfl (dE (T:=ar Qi.zero) (i:=Tryz.t51) gt f9 rfl rfl (Ht rfl) rfl ez (El.ag rfl) (by show 88 * _ ≤ _; omega) zo) fun B57=>ra rfl (eX (cK (ts (rm rfl (ro rfl (ir U_29 (Ht rfl) (i:=3) rfl (show ((List.replicate (2 * js.length) (ar Qi.zero)).length:Int) = ((2 * js.length:Nat):Int) from by simp)) (ro rfl (cX (cJ 0)) (eX (eG ?_))))))))
    refine aF (fun (x : Nat) => x ≤ 2 * js.length) (fun (x : Nat) => 2 * js.length - x) (fun (x : Nat) => [(2, PT (fP z S)), (4, aI B4 0), (6, PT (bv ((gO js).map Nat.succ))), (8, PT (rO Tryz.prog (Fin (2 * js.length)) (fun x => [NT .i64 x.1]) (fun x => aS (S.getD (gq (aR js) (de x.1)) [])))), (9, b9 (gk S (aR js) (2 * js.length))), (10, bv ((bN z js).map Nat.succ)), (11, aI B11 0), (12, NT .i64 j), (13, NT .i64 (cO (bN z js) j + 1)), (14, Is B57), (48, bv ((bN z js).map Nat.succ)), (49, NT .i64 ((bN z js).length)), (50, NT .i64 j), (59, NT .i64 (2 * js.length)), (60, NT .i64 x)]) (fun (x : Nat) => [box B4 32 [Is (.slice none 0 0), Is (.slice none 0 0)], iK B47 29 51 5 (aH ar (tab ((bN z js).length) fun i => (eS (fun y => pz S (aR js) (2 * js.length) (cO (bN z js) i) (cO (bN z js) y)) (fun y => gm S (cO (bN z js) i) (cO (bN z js) y)) (bN z js).length j))), box B11 32 [aS (nK z (bN z js)), Is (.slice (some ⟨B47, 0, none⟩) ((bN z js).length) ((bN z js).length))], aB 51 5 B57 ((dA (fun x => gm S (gq (aR js) (de x)) (cO (bN z js) j)) Qi.zero (2 * js.length) x).map ar)]) 0 (Nat.zero_le _)
     (zS rfl) (aU (a8 rfl) (aU (fun _ _ _ h=>h) (aU (a8 rfl) (aU (aa (by rw [← cz]; exact nT ar _)) aY)))) (fun x hx1=>?_)
    refine ts (ro rfl (gX (Ht rfl) (Ht rfl)) (eX (cK (dQ (Ht rfl) (fun hd2=>?_) (fun hd2=>?_)))))
    ·have hxm : x < 2 * js.length := by simp only [decide_eq_true_eq] at hd2; omega
     have hgx:=hj.lt (de x) (gF hxm)
     have hSr:=hS.row hgx
     refine cU (cK (eG (ts (rm rfl (ra rfl (eX (cY (rm rfl (rm rfl (ro rfl (dJ Tryz.isAgg175 Tryz.sizeOf175 (Ht rfl)) (rm rfl (ro rfl (kE (Ts:=fun x:Fin (2 * js.length)=>[NT .i64 x.1]) ⟨x,hxm⟩ (Ht rfl) ⟨(Ht rfl),trivial⟩) (rm rfl (ro rfl (al.nat (dW (Ht rfl) (cJ 1) zo z6) (show cO (bN z js) j + 1 - 1 = cO (bN z js) j by omega)) (ro rfl (dZ U_29 Z_51 (Ht rfl) (Ht rfl) rfl (dY (dU (d:=Qi.zero) (show cO (bN z js) j < (S.getD (gq (aR js) (de x)) []).length by omega)))) ?_)))))))))))))))
     refine ro rfl (dJ A_51 Z_51 (Ht rfl)) (ro rfl (b6 U_29 Z_51 (Ht rfl) (Ht rfl) rfl (i:=3) rfl (by rw [List.length_map,bg]; omega) rfl) ?_)
     refine dB Z_51 (Ht rfl) (Ht rfl) (El.ag rfl) (i:=3) rfl rfl (by rw [List.length_map,bg]; omega) rfl ?_
     refine eX (as (cY (ro rfl (dV (Ht rfl) (cJ 1) z6) (rm rfl (eX (fU (x + 1) hxm zo (zS rfl) (aU (a8 rfl) (aU (fun _ _ _ h=>h) (aU (a8 rfl) (aU (aa (by rw [ce]; exact congrArg _ (dn (f:=(fun x=>gm S (gq (aR js) (de x)) (cO (bN z js) j)))))) aY))))))))))
    ·have hxm : x = 2 * js.length := by simp only [decide_eq_false_iff_not] at hd2; omega
     rw [hxm,di]
     refine gV rfl (gJ (i:=3) (tt:=14) rfl rfl bB (ts (rm rfl (rm rfl (ro rfl (cZ Tryz.call96 (vk (M:=gk S (aR js) (2 * js.length)) (b:=px S (aR js) (2 * js.length) ((bN z js).getD j 0)) (n:=2 * js.length) (L:=L + 2) (gx _ _ _) (a9 _ _) (mc hf hL) (hbf.le zo) zo zo zo hg2 zo) ⟨(Ht rfl),(Ht rfl),trivial⟩) (rm rfl (ro rfl (dK (Ht rfl) rfl) (ro rfl (dK (Ht rfl) rfl) (ra rfl (ra rfl (eX (cK (ts (rm rfl (ro rfl (eP (Ht rfl) cV) (eX (dQ (Ht rfl) (fun hc3=>?_) (fun hc3=>?_))))))))))))))))))
     ·have h5 : et (gk S (aR js) (2 * js.length)) (px S (aR js) (2 * js.length) ((bN z js).getD j 0)) (2 * js.length) ≠ 0 := by simpa using hc3
      have h6:rI z S js ≠ 0:=fun k=>h5 (cC k j hjn)
      have he:jV z S js = 6:=(oz h3 h4).trans (if_neg h6)
      refine ts (ro rfl (al.imp (ma ) mh) (gQ Z_32 (Ht rfl) (Ht rfl) rfl (i:=0) rfl (aK rfl) rfl rfl (ro rfl (cQ (cJ 6)) (eX (aE rfl (fX (fK A_32 Z_32 rfl (i:=0) rfl rfl) ?_) (fX (eU rfl) ?_))))))
      ·exact (fun v V h=>by rw [jY,lb,bq,bq,he]; exact h)
      ·exact (am he.symm)
     ·have h5 : et (gk S (aR js) (2 * js.length)) (px S (aR js) (2 * js.length) ((bN z js).getD j 0)) (2 * js.length) = 0 := by simpa using hc3
      have hxf:=uW (gx S (aR js) (2 * js.length)) (mc hf hL) (hbf.le zo) zo h5
      have hxl:(fd (gk S (aR js) (2 * js.length)) (px S (aR js) (2 * js.length) ((bN z js).getD j 0)) (2 * js.length)).length = 2 * js.length:=ky _ _ _
      have hGe:L + 2 ≤ ji (b5 (L + 2) (2 * js.length)) (2 * js.length):=Nat.le_trans (it (L + 2) (2 * js.length)) (pg _ _)
      obtain ⟨G,hG⟩:∃ G,G = ji (b5 (L + 2) (2 * js.length)) (2 * js.length):=⟨_,rfl⟩
      rw [← hG] at hxf hGe hxn
      have hmG:2 * js.length * (2 * G + 2) ≤ 18 * (2 * G + 2):=Nat.mul_le_mul_right _ zo
      have hokx:bq (et (gk S (aR js) (2 * js.length)) (px S (aR js) (2 * js.length) ((bN z js).getD j 0)) (2 * js.length)) (fd (gk S (aR js) (2 * js.length)) (px S (aR js) (2 * js.length) ((bN z js).getD j 0)) (2 * js.length)) = fd (gk S (aR js) (2 * js.length)) (px S (aR js) (2 * js.length) ((bN z js).getD j 0)) (2 * js.length):=by rw [bq,if_pos h5]
      rw [hokx]
      refine cU (ts (rm rfl (ro rfl (dG U_72 (Ht rfl) (by rw [List.length_map,List.length_map])) ?_)))
      refine ro rfl (cX (cJ 0)) (eX (eG (aO [0,1,2] rfl (by decide) ?_)))
      refine aF (fun (i : Nat) => i ≤ (bN z js).length) (fun (i : Nat) => (bN z js).length - i) (fun (i : Nat) => [(2, PT (fP z S)), (4, aI B4 0), (6, PT (bv ((gO js).map Nat.succ))), (8, PT (rO Tryz.prog (Fin (2 * js.length)) (fun x => [NT .i64 x.1]) (fun x => aS (S.getD (gq (aR js) (de x.1)) [])))), (9, b9 (gk S (aR js) (2 * js.length))), (10, bv ((bN z js).map Nat.succ)), (11, aI B11 0), (12, NT .i64 j), (16, aS (fd (gk S (aR js) (2 * js.length)) (px S (aR js) (2 * js.length) ((bN z js).getD j 0)) (2 * js.length))), (48, bv ((bN z js).map Nat.succ)), (49, NT .i64 ((bN z js).length)), (50, NT .i64 j), (83, bv ((bN z js).map Nat.succ)), (84, NT .i64 ((bN z js).length)), (85, NT .i64 i)]) (fun (i : Nat) => [box B4 32 [Is (.slice none 0 0), Is (.slice none 0 0)], iK B47 29 51 5 (aH ar (eS (fun i => (eS (fun y => pz S (aR js) (2 * js.length) (cO (bN z js) i) (cO (bN z js) y)) (fun y => gm S (cO (bN z js) i) (cO (bN z js) y)) (bN z js).length (j + 1))) (fun i => (eS (fun y => pz S (aR js) (2 * js.length) (cO (bN z js) i) (cO (bN z js) y)) (fun y => gm S (cO (bN z js) i) (cO (bN z js) y)) (bN z js).length j)) ((bN z js).length) i)), box B11 32 [aS (nK z (bN z js)), Is (.slice (some ⟨B47, 0, none⟩) ((bN z js).length) ((bN z js).length))]]) 0 (Nat.zero_le _)
       (zS rfl) (aU (a8 rfl) (aU (aC (congrArg (aH ar) (eo _ _ _))) (aU (a8 rfl) aY))) (fun i hi=>?_)
      refine ts (ro rfl (gX (Ht rfl) (Ht rfl)) (eX (cK (dQ (Ht rfl) (fun hd4=>?_) (fun hd4=>?_)))))
      ·have hin : i < (bN z js).length := by simp only [decide_eq_true_eq] at hd4; omega
       have hFi:cO (bN z js) i < z.length:=tG hin
       have hSr:=hS.row hFi
       refine cU (cK (eG (ts (rm rfl (ro rfl (dZ U_72 Z_3 (Ht rfl) (Ht rfl) rfl (dY (j3 hin))) (ro rfl (dJ A_3 Z_3 (Ht rfl)) (ra rfl (ra rfl (eX (ts (ro rfl (dJ A_72 Z_72 (Ht rfl)) (ro rfl (dG U_72 (Ht rfl) (by rw [List.length_map,List.length_map,hJl])) ?_))))))))))))
       refine rn rfl (dE (T:=ar Qi.zero) (i:=Tryz.t51) gt f9 rfl rfl (Ht rfl) rfl ez (El.ag rfl) (by show 88 * _ ≤ _; omega) zo) fun B92=>ra rfl (eX (cK (ts (ro rfl (dJ A_72 Z_72 (Ht rfl)) (ro rfl (dG U_72 (Ht rfl) (by rw [List.length_map,List.length_map,hJl])) ?_)))))
       refine ro rfl (cX (cJ 0)) (eX (eG ?_))
       refine aF (fun (x : Nat) => x ≤ 2 * js.length) (fun (x : Nat) => 2 * js.length - x) (fun (x : Nat) => [(2, PT (fP z S)), (4, aI B4 0), (6, PT (bv ((gO js).map Nat.succ))), (8, PT (rO Tryz.prog (Fin (2 * js.length)) (fun x => [NT .i64 x.1]) (fun x => aS (S.getD (gq (aR js) (de x.1)) [])))), (9, b9 (gk S (aR js) (2 * js.length))), (10, bv ((bN z js).map Nat.succ)), (11, aI B11 0), (12, NT .i64 j), (16, aS (fd (gk S (aR js) (2 * js.length)) (px S (aR js) (2 * js.length) ((bN z js).getD j 0)) (2 * js.length))), (18, NT .i64 i), (19, NT .i64 (cO (bN z js) i + 1)), (20, Is B92), (48, bv ((bN z js).map Nat.succ)), (49, NT .i64 ((bN z js).length)), (50, NT .i64 j), (83, bv ((bN z js).map Nat.succ)), (84, NT .i64 ((bN z js).length)), (85, NT .i64 i), (93, bv ((gO js).map Nat.succ)), (94, NT .i64 (2 * js.length)), (95, NT .i64 x)]) (fun (x : Nat) => [box B4 32 [Is (.slice none 0 0), Is (.slice none 0 0)], iK B47 29 51 5 (aH ar (eS (fun i => (eS (fun y => pz S (aR js) (2 * js.length) (cO (bN z js) i) (cO (bN z js) y)) (fun y => gm S (cO (bN z js) i) (cO (bN z js) y)) (bN z js).length (j + 1))) (fun i => (eS (fun y => pz S (aR js) (2 * js.length) (cO (bN z js) i) (cO (bN z js) y)) (fun y => gm S (cO (bN z js) i) (cO (bN z js) y)) (bN z js).length j)) ((bN z js).length) i)), box B11 32 [aS (nK z (bN z js)), Is (.slice (some ⟨B47, 0, none⟩) ((bN z js).length) ((bN z js).length))], aB 51 5 B92 ((dA (fun x => gm S (cO (bN z js) i) (gq (aR js) x)) Qi.zero (2 * js.length) x).map ar)]) 0 (Nat.zero_le _)
        (zS rfl) (aU (a8 rfl) (aU (fun _ _ _ h=>h) (aU (a8 rfl) (aU (aa (by rw [← cz]; exact nT ar _)) aY)))) (fun x hx1=>?_)
       refine ts (ro rfl (gX (Ht rfl) (Ht rfl)) (eX (cK (dQ (Ht rfl) (fun hd5=>?_) (fun hd5=>?_)))))
       ·have hxm : x < 2 * js.length := by simp only [decide_eq_true_eq] at hd5; omega
        have hat:cO (gO js) x = gq (aR js) x:=rh hxm
        have hgx:=hj.lt x hxm
        refine cU (cK (eG (ts (rm rfl (ro rfl (dZ U_72 Z_3 (Ht rfl) (Ht rfl) rfl (dY (j3 zo))) (ro rfl (dJ A_3 Z_3 (Ht rfl)) (ra rfl (ra rfl (eX (cY (rm rfl (rm rfl (ro rfl (og l9 (Ht rfl) rfl) (ro rfl (dJ A_30 Z_30 (Ht rfl)) (rm rfl (ro rfl (al.nat (dW (Ht rfl) (cJ 1) zo z6) (show cO (bN z js) i + 1 - 1 = cO (bN z js) i by omega)) (ro rfl (dZ U_30 Z_29 (Ht rfl) (Ht rfl) rfl (dY (dU (d:=[]) (show cO (bN z js) i < S.length by omega)))) ?_)))))))))))))))))
        refine ro rfl (dJ A_29 Z_29 (Ht rfl)) (rm rfl (ro rfl (al.nat (dW (Ht rfl) (cJ 1) zo z6) (show cO (gO js) x + 1 - 1 = gq (aR js) x by omega)) (ro rfl (dZ U_29 Z_51 (Ht rfl) (Ht rfl) rfl (dY (dU (d:=Qi.zero) (show gq (aR js) x < (S.getD (cO (bN z js) i) []).length by omega)))) (ro rfl (dJ A_51 Z_51 (Ht rfl)) (ro rfl (b6 U_29 Z_51 (Ht rfl) (Ht rfl) rfl (i:=3) rfl (by rw [List.length_map,bg]; omega) rfl) ?_)))))
        refine dB Z_51 (Ht rfl) (Ht rfl) (El.ag rfl) (i:=3) rfl rfl (by rw [List.length_map,bg]; omega) rfl ?_
        refine eX (as (cY (ro rfl (dV (Ht rfl) (cJ 1) z6) (rm rfl (eX (fU (x + 1) hxm zo (zS rfl) (aU (a8 rfl) (aU (fun _ _ _ h=>h) (aU (a8 rfl) (aU (aa (by rw [ce]; exact congrArg _ (dn (f:=(fun x=>gm S (cO (bN z js) i) (gq (aR js) x)))))) aY))))))))))
       ·have hxm : x = 2 * js.length := by simp only [decide_eq_false_iff_not] at hd5; omega
        rw [hxm,di]
        refine gV rfl (gJ (i:=3) (tt:=20) rfl rfl bB (aO [0,1,2] rfl (by decide) (j2 1 (i) rfl (iC hin) (fun v0=>?_))))
        have hrl:=dL (fun y=>pz S (aR js) (2 * js.length) (cO (bN z js) i) (cO (bN z js) y)) (fun y=>gm S (cO (bN z js) i) (cO (bN z js) y)) ((bN z js).length) j
        have hrf:bk (tab (2 * js.length) (fun x=>gm S (cO (bN z js) i) (gq (aR js) x))) G:=bk.tab fun x _=>(hf.get hL _ _).le zo
        have hro : ((eS (fun y => pz S (aR js) (2 * js.length) (cO (bN z js) i) (cO (bN z js) y)) (fun y => gm S (cO (bN z js) i) (cO (bN z js) y)) (bN z js).length j)).set j (lm (gm S (cO (bN z js) i) (cO (bN z js) j)) (tab (2 * js.length) (fun x => gm S (cO (bN z js) i) (gq (aR js) x))) (fd (gk S (aR js) (2 * js.length)) (px S (aR js) (2 * js.length) ((bN z js).getD j 0)) (2 * js.length)) (2 * js.length)) = (eS (fun y => pz S (aR js) (2 * js.length) (cO (bN z js) i) (cO (bN z js) y)) (fun y => gm S (cO (bN z js) i) (cO (bN z js) y)) (bN z js).length (j + 1)) := by
         rw [ym]; exact fl (f:=fun y=>pz S (aR js) (2 * js.length) (cO (bN z js) i) (cO (bN z js) y))
        refine fZ (m:=17) (dp 11 rfl (eZ l9 (Ht rfl) rfl) (dq 114 0 rfl (eY A_30 Z_30 (Ht rfl) (i:=2) rfl rfl) (dp 18 rfl (cX (Ht rfl)) (b8 115 1 116 2 rfl (fY U_30 Z_29 (Ht rfl) (Ht rfl) rfl zo (by rw [Nat.mul_one,Nat.zero_add])) ?_))))
        refine dq 117 3 rfl (d4 A_29 Z_29 (Ht rfl) (j:=1) rfl) (dp 12 rfl (cX (Ht rfl)) (dp 11 rfl (eZ l9 (Ht rfl) rfl) (dq 120 6 rfl (eY A_30 Z_30 (Ht rfl) (i:=2) rfl rfl) (dp 18 rfl (cX (Ht rfl)) (b8 121 7 122 8 rfl (fY U_30 Z_29 (Ht rfl) (Ht rfl) rfl zo (by rw [Nat.mul_one,Nat.zero_add])) ?_)))))
        refine dq 123 9 rfl (d4 A_29 Z_29 (Ht rfl) (j:=1) rfl) (dp 12 rfl (cX (Ht rfl)) (b8 124 10 125 11 rfl (b6 U_29 Z_51 (Ht rfl) (Ht rfl) rfl (i:=3) rfl (by simp only [List.length_map,hrl]; omega) rfl) ?_))
        refine dq 126 12 rfl (gD A_51 Z_51 (Ht rfl) (i:=3) rfl rfl (dY (jp hjn))) (dp 20 rfl (cX (Ht rfl)) (dp 16 rfl (cX (Ht rfl)) (C.D_step (Ei:=[(127,_),(128,_),(129,_)]) rfl rfl (bV (bG 13 rfl rfl) (bV (bG 14 rfl rfl) (bV (bG 15 rfl rfl) bW))) (dX rfl (cZ Tryz.call123 (FL (x:=gm S (cO (bN z js) i) (cO (bN z js) j)) (l:=tab (2 * js.length) (fun x=>gm S (cO (bN z js) i) (gq (aR js) x))) (m:=fd (gk S (aR js) (2 * js.length)) (px S (aR js) (2 * js.length) ((bN z js).getD j 0)) (2 * js.length)) (L:=G) (M:=L) (n:=2 * js.length) (hf.get hL _ _) hrf hxf zo (a9 _ _) hxl zo zo) ⟨(Ht rfl),(Ht rfl),(Ht rfl),trivial⟩)) ?_)))
        refine fV au rfl (by kernel_rfl) (zF (zF (zF (zF (aJ (aV (ro rfl (b6 U_29 Z_51 (Ht rfl) (Ht rfl) rfl (i:=3) rfl (by simp only [List.length_map,hrl]; omega) rfl) ?_)))))))
        refine dB Z_51 (Ht rfl) (Ht rfl) (El.ag rfl) (i:=3) rfl rfl (by simp only [List.length_map,hrl]; omega) rfl ?_
        refine eX (bR 1 3 rfl rfl (by decide) (by simp only [aH,List.length_map,dL]; omega) ?_)
        refine as (cY (ro rfl (dV (Ht rfl) (cJ 1) z6) (rm rfl (eX (aO [0,1,2] rfl (by decide) (fU (i + 1) hin zo (zS rfl) (aU (a8 rfl) (aU (aC (by rw [ce,hro,c9]; exact congrArg _ (fl (f:=fun i=>(eS (fun y=>pz S (aR js) (2 * js.length) (cO (bN z js) i) (cO (bN z js) y)) (fun y=>gm S (cO (bN z js) i) (cO (bN z js) y)) (bN z js).length (j + 1)))))) (aU (a8 rfl) aY)))))))))
      ·have hin : i = (bN z js).length := by simp only [decide_eq_false_iff_not] at hd4; omega
       rw [hin,fm]
       refine gV rfl (as (cY (ro rfl (dV (Ht rfl) (cJ 1) z6) (rm rfl (eX ?_)))))
       refine fU (j + 1) ⟨hjn, fun y h => by
         by_cases e:y = j
         ·rw [e]; exact h5
         ·exact h0 y zo⟩ zo (zS rfl) (aU (a8 rfl) (aU (fun _ _ _ h=>h) (aU (a8 rfl) aY)))
   ·have hjn : j = (bN z js).length := by simp only [decide_eq_false_iff_not] at hd1; omega
    rw [hjn] at h0
    have h6:rI z S js = 0:=cB h0
    have he:jV z S js = 0:=(oz h3 h4).trans (if_pos h6)
    rw [hjn,show (tab ((bN z js).length) fun i=>(eS (fun y=>pz S (aR js) (2 * js.length) (cO (bN z js) i) (cO (bN z js) y)) (fun y=>gm S (cO (bN z js) i) (cO (bN z js) y)) (bN z js).length (bN z js).length)) = yp z S js from bf fun i _=>fm _ _ _]
    refine gV rfl (cK (po 2 1 1 rfl rfl rfl (by decide) (F9 (q:=fun _=>True) (M:=yp z S js) (a9 _ _).symm) (cY (ro rfl (eJ A_32 Z_32 (Ht rfl) (i:=2) rfl rfl rfl) (gQ Z_32 (Ht rfl) (Ht rfl) rfl (i:=0) rfl (aK rfl) rfl rfl (ro rfl (cQ (cJ 0)) (eX (aE rfl (fX (fK A_32 Z_32 rfl (i:=0) rfl rfl) ?_) (fX (eU rfl) ?_)))))))))
    ·exact (fun v V h=>by rw [jY,lb,bq,bq,he,if_neg h4,if_neg h4]; exact h)
    ·exact (am he.symm)
end
section
open Go Go.RowKit
theorem tT {A B C : List (List Qi)} {n : Nat} : gj (gj A B n n n) C n n n = gj A (gj B C n n n) n n n := j9 iI iI fun i hi j hj => by
 rw [jf hi hj,jf hi hj]
 have e1 : ah n (fun t => gm (gj A B n n n) i t * gm C t j) = ah n fun t => ah n fun u => gm A i u * gm B u t * gm C t j := av fun t ht => by
  rw [jf hi ht,← i9]
 have e2 : ah n (fun u => gm A i u * gm (gj B C n n n) u j) = ah n fun u => ah n fun t => gm A i u * gm B u t * gm C t j := av fun u hu => by
  rw [jf hu hj,Qi.mul_comm',← i9]
  exact av fun t _=>by grind
 rw [e1,e2,jz]
theorem qA {n i j:Nat} (hi:i < n) (hj:j < n):gm (mL n) i j = if i = j then 1 else 0:=jK hi hj
theorem yn {n j i:Nat} (hi:i < n) (hj:j < n):gv (ek n j) i = if i = j then 1 else 0:=by
 have h:gv (ek n j) i = if j = i then 1 else 0:=qA (n:=n) hj hi
 rw [h]
 by_cases c:i = j
 ·rw [if_pos c,if_pos c.symm]
 ·rw [if_neg c,if_neg (Ne.symm c)]
theorem CI {M : List (List Qi)} {n : Nat} (h : bE M n n) (hE : tR M n = 0) : gj M (tw M n) n n n = mL n := j9 iI (ol n) fun i hi j hj => by
 have hs:=(gW h (sD hE j hj)).1 i hi
 rw [jf hi hj,qA hi hj,← yn hi hj,← hs]
 exact av fun t ht=>by rw [show gm (tw M n) t j = gv (fd M (ek n j) n) t from jd ht hj]
theorem CA {M X : List (List Qi)} {n : Nat} (h : gj X M n n n = mL n) {y : Nat → Qi} (hy : ∀ i, i < n → ah n (fun k => gm M i k * y k) = 0) : ∀ k, k < n → y k = 0 := fun k hk => by
 have e1:ah n (fun i=>gm X k i * ah n (fun t=>gm M i t * y t)) = 0:=eM fun i hi=>by rw [hy i hi]; grind
 have e2 : ah n (fun i => gm X k i * ah n (fun t => gm M i t * y t)) = ah n fun i => ah n fun t => gm X k i * gm M i t * y t := av fun i _ => by
  rw [Qi.mul_comm',← i9]; exact av fun t _=>by grind
 have e3 : ah n (fun t => ah n fun i => gm X k i * gm M i t * y t) = ah n fun t => gm (mL n) k t * y t := av fun t ht => by
  rw [← h,jf hk ht,← i9]
 rw [e2,jz,e3] at e1
 rw [cf (i:=k) hk (fun t ht hne=>by rw [qA hk ht,if_neg (Ne.symm hne)]; grind),qA hk hk,if_pos rfl] at e1
 grind
theorem uT {M X : List (List Qi)} {n : Nat} (hM : bE M n n) (h : gj X M n n n = mL n) : tR M n = 0 := cB fun k hk => by
 apply Classical.byContradiction; intro e
 obtain ⟨y,hy,k,hk,hne⟩:=lU hM e
 exact hne (CA h hy k hk)
theorem Dq {M X Y:List (List Qi)} {n:Nat} (hX:bE X n n) (hY:bE Y n n) (h:gj X M n n n = mL n) (k:gj M Y n n n = mL n):X = Y:=by
 rw [← AC hX,← k,← tT,h,Cv hY]
theorem vg {M Y:List (List Qi)} {n:Nat} (hM:bE M n n) (hY:bE Y n n) (h:gj M Y n n n = mL n):gj Y M n n n = mL n:=by
 have e:=uT hY h
 have r:=CI hY e
 rw [Dq hM (tl Y n) h r]; exact r
theorem Fh {M:List (List Qi)} {n:Nat} (h:bE M n n) (hE:tR M n = 0):gj (tw M n) M n n n = mL n:=vg h (tl M n) (CI h hE)
theorem BK {M Y:List (List Qi)} {n:Nat} (hM:bE M n n) (hY:bE Y n n) (h:gj M Y n n n = mL n):tR M n = 0:=uT hM (vg hM hY h)
section
variable {a b:Qi} {A B C:List (List Qi)} {d e:Nat → Qi} {n:Nat}
end
theorem q2:Qi.ofInt 2 = 2:=rfl
section
variable {z:List Qi} {s:List (List Qi)}
end
end
section
open Go Go.RowKit
theorem w7 {n C k : Nat} (h : ∀ N, 1 ≤ N → fs n N ≤ C * N ^ k) : ∀ N, 1 ≤ N → fs (n + 1) N ≤ 2 * (n + 1) * C * 4 ^ k * N ^ (2 * k + 1) := fun N hN => by
 have h4:1 ≤ 4 * N * N:=Nat.mul_pos zo zo
 have a:=h (4 * N * N) h4
 have e:(4 * N * N) ^ k = 4 ^ k * (N ^ k * N ^ k):=by rw [Nat.mul_pow,Nat.mul_pow,Nat.mul_assoc]
 have e2:N ^ (2 * k + 1) = N ^ k * N ^ k * N:=by rw [Nat.pow_succ,Nat.two_mul,Nat.pow_add]
 rw [fs,e2]
 refine Nat.le_trans (Nat.mul_le_mul_left _ a) ?_
 rw [e]
 refine Nat.le_of_eq ?_
 simp only [Nat.mul_comm,Nat.mul_left_comm,Nat.mul_assoc]
theorem wg {n C k C' k' : Nat} (h : ∀ N, 1 ≤ N → fs n N ≤ C * N ^ k) (hC : C ≤ C') (hk : k ≤ k') : ∀ N, 1 ≤ N → fs n N ≤ C' * N ^ k' := fun N hN =>
 Nat.le_trans (h N hN) (Nat.mul_le_mul hC (Nat.pow_le_pow_right hN hk))
theorem DG {n:Nat} (hn:n ≤ 6):∀ N,1 ≤ N → fs n N ≤ (2 * 6 * (2 * 5 * 1610612736 * 4 ^ 15) * 4 ^ 31) * N ^ 63:=by
 have h4:∀ m,m ≤ 4 → ∀ N,1 ≤ N → fs m N ≤ 1610612736 * N ^ 15:=fun m hm N hN=>BS hm hN
 have h5:∀ N,1 ≤ N → fs 5 N ≤ (2 * 5 * 1610612736 * 4 ^ 15) * N ^ 31:=w7 (h4 4 (Nat.le_refl 4))
 have h6:∀ N,1 ≤ N → fs 6 N ≤ (2 * 6 * (2 * 5 * 1610612736 * 4 ^ 15) * 4 ^ 31) * N ^ 63:=w7 h5
 by_cases a:n ≤ 4
 ·exact wg (h4 n a) (by decide) (by decide)
 ·by_cases b : n = 5
  ·subst b; exact wg h5 (by decide) (by decide)
  ·obtain rfl : n = 6 := by omega
   exact h6
theorem x9 {n:Nat} (hn:n ≤ 6):fs n (BB ^ ((6 + 1) * 4)) < BB ^ 1770:=by
 refine Nat.lt_of_le_of_lt (DG hn _ (Nat.pow_pos cb)) ?_
 rw [← Nat.pow_mul,show (6 + 1) * 4 * 63 = 1764 by decide,show (1770:Nat) = 1764 + 6 by decide,Nat.pow_add,Nat.mul_comm (BB ^ 1764)]
 exact Nat.mul_lt_mul_of_pos_right (by show _ < 4294967296 ^ 6; decide) (Nat.pow_pos cb)
section
variable {z:List Qi} {S c:List (List Qi)} {js:List (Int × Int)} {N:Nat}
def xy (S:List (List Qi)) (js:List (Int × Int)):List (List Qi):=tab (2 * js.length) fun x=>tab (2 * js.length) fun y=>ln x y - gm S (gq (aR js) (de y)) (gq (aR js) x)
def E2 (S:List (List Qi)) (js:List (Int × Int)) (i:Nat):List Qi:=tab (2 * js.length) fun y=>gm S i (gq (aR js) y)
def CL (S:List (List Qi)) (js:List (Int × Int)) (i:Nat):List Qi:=fd (xy S js) (E2 S js i) (2 * js.length)
theorem mn (S:List (List Qi)) (js:List (Int × Int)):bE (xy S js) (2 * js.length) (2 * js.length):=bE.tab
theorem zP {x y:Nat} (hx:x < 2 * js.length) (hy:y < 2 * js.length):gm (xy S js) x y = gm (gk S (aR js) (2 * js.length)) y x:=by
 have e1:gm (xy S js) x y = ln x y - gm S (gq (aR js) (de y)) (gq (aR js) x):=jd hx hy
 have e2:gm (gk S (aR js) (2 * js.length)) y x = (if y = x then Qi.ofInt 1 else Qi.ofInt 0) - gm S (gq (aR js) (de y)) (gq (aR js) x):=jd hy hx
 rw [e1,e2,ln]
 by_cases c:x = y
 ·rw [if_pos c,if_pos c.symm]
 ·rw [if_neg c,if_neg (Ne.symm c)]
theorem Bn {M:List (List Qi)} {n:Nat} (h:bE M n n) (hk:∀ b,et M b n = 0):tR M n = 0:=cB fun k _=>hk _
theorem Cp {M : List (List Qi)} {n : Nat} (h : bE M n n) (hE : tR M n = 0) (hn : 1 ≤ n) : ∀ b, et M b n = 0 := fun b => by
 have h0:=(mu h).1 (sD hE 0 zo)
 exact (mu h).2 h0
theorem Bp {M:List (List Qi)} {n:Nat} {b:List Qi} (h:bE M n n) (hb:et M b n = 0):∀ b,et M b n = 0:=fun _=>(mu h).2 ((mu h).1 hb)
theorem zA (hk:∀ b,et (gk S (aR js) (2 * js.length)) b (2 * js.length) = 0) (hn:1 ≤ 2 * js.length):∀ b,et (xy S js) b (2 * js.length) = 0:=by
 have hM:=gx S (aR js) (2 * js.length)
 have hE:=Bn hM hk
 have l:=Fh hM hE
 refine Cp (mn S js) (BK (Y:=tab (2 * js.length) fun x=>tab (2 * js.length) fun y=>gm (tw (gk S (aR js) (2 * js.length)) (2 * js.length)) y x) (mn S js) bE.tab ?_) hn
 refine j9 iI (ol _) fun i hi j hj=>?_
 have e:gm (gj (tw (gk S (aR js) (2 * js.length)) (2 * js.length)) (gk S (aR js) (2 * js.length)) (2 * js.length) (2 * js.length) (2 * js.length)) j i = gm (mL (2 * js.length)) j i:=by rw [l]
 rw [jf hj hi,qA hj hi] at e
 rw [jf hi hj,qA hi hj]
 have e2 : ah (2 * js.length) (fun t => gm (xy S js) i t * gm (tab (2 * js.length) fun x => tab (2 * js.length) fun y => gm (tw (gk S (aR js) (2 * js.length)) (2 * js.length)) y x) t j) = ah (2 * js.length) fun t => gm (tw (gk S (aR js) (2 * js.length)) (2 * js.length)) j t * gm (gk S (aR js) (2 * js.length)) t i := av fun t ht => by
  rw [zP hi ht,jd ht hj,Qi.mul_comm']
 rw [e2,e]
 by_cases c:i = j
 ·rw [if_pos c,if_pos c.symm]
 ·rw [if_neg c,if_neg (Ne.symm c)]
theorem Du (hk:∀ b,et (gk S (aR js) (2 * js.length)) b (2 * js.length) = 0) {i x:Nat} (hx:x < 2 * js.length):gv (CL S js i) x = ah (2 * js.length) fun y=>gm S i (gq (aR js) y) * gv (nJ S js x) y:=by
 have hM:=gx S (aR js) (2 * js.length)
 have hT:=(gW (mn S js) (zA hk zo (E2 S js i))).1
 have hV:=(gW hM (hk (ek (2 * js.length) x))).1
 have e1 : ah (2 * js.length) (fun y => gm S i (gq (aR js) y) * gv (nJ S js x) y) = ah (2 * js.length) fun y => ah (2 * js.length) fun w => gm (gk S (aR js) (2 * js.length)) w y * gv (CL S js i) w * gv (nJ S js x) y := av fun y hy => by
  have h:=hT y hy
  rw [show gv (E2 S js i) y = gm S i (gq (aR js) y) from g9 hy] at h
  rw [← h,← i9]
  exact av fun w hw=>by rw [zP hy hw]; rfl
 have e2 : ah (2 * js.length) (fun w => ah (2 * js.length) fun y => gm (gk S (aR js) (2 * js.length)) w y * gv (CL S js i) w * gv (nJ S js x) y) = ah (2 * js.length) fun w => gv (CL S js i) w * gv (ek (2 * js.length) x) w := av fun w hw => by
  have h:=hV w hw
  rw [show gv (ek (2 * js.length) x) w = ah (2 * js.length) (fun k=>gm (gk S (aR js) (2 * js.length)) w k * gv (nJ S js x) k) from h.symm,Qi.mul_comm',← i9]
  exact av fun y _=>by grind
 rw [e1,jz,e2,cf hx (fun k hkk hne=>by rw [yn hkk hx,if_neg hne]; grind),yn hx hx,if_pos rfl]; grind
theorem DW {l:List Nat} {x:Nat} (hx:x < l.length) (hinj:∀ a b,a < l.length → b < l.length → l.getD a 0 = l.getD b 0 → a = b):mF l (l.getD x 0) = (x:Int):=by
 have hm:0 ≤ mF l (l.getD x 0):=rP.2 (by rw [show l.getD x 0 = l[x] by simp [List.getD,hx]]; exact List.getElem_mem hx)
 rcases sq l (l.getD x 0) with h | ⟨h1,h2,h3⟩
 ·omega
 ·have:=hinj _ _ h2 hx h3; omega
theorem qQ {x:Nat} (hx:x < 2 * js.length):(ix js).getD x 0 = gq (aR js) (de x):=by rw [ix,jv hx]
theorem zi (hj:Jn (aR js) N js.length) {x:Nat} (hx:x < 2 * js.length):mF (ix js) (gq (aR js) (de x)) = (x:Int):=by
 have hl:(ix js).length = 2 * js.length:=a9 _ _
 rw [← qQ hx]
 refine DW zo fun a b ha hb e=>?_
 rw [qQ zo,qQ zo] at e
 have:=hj.inj _ _ (gF (show a < 2 * js.length by omega)) (gF (show b < 2 * js.length by omega)) e
 have e2:=congrArg de this
 rwa [vA,vA] at e2
def k7 (S:List (List Qi)) (js:List (Int × Int)) (N i y:Nat):List Qi:=tab N fun k=>if 0 ≤ mF (ix js) k ∧ (mF (ix js) k).toNat < y then lD S js i k else mz i k
theorem u5 {i:Nat} (hi:i < N):(tab N fun _=>Qi.zero).set i (Qi.ofInt 1) = k7 S js N i 0:=by
 refine List.ext_getElem (by rw [List.length_set,a9,k7,a9]) fun k h1 h2=>?_
 rw [List.length_set,a9] at h1
 rw [List.getElem_set]
 have e:(k7 S js N i 0)[k] = mz i k:=by simp [k7,tab]
 rw [e,mz]
 by_cases c:i = k
 ·rw [if_pos c,if_pos c.symm]
 ·rw [if_neg c,if_neg (Ne.symm c)]; simp [tab]; rfl
theorem zK (S : List (List Qi)) (js : List (Int × Int)) (N i : Nat) : k7 S js N i (2 * js.length) = tab N fun k => lD S js i k := bf fun k _ => by
 have hl:(ix js).length = 2 * js.length:=a9 _ _
 rcases sq (ix js) k with h | ⟨h1,h2,_⟩
 ·rw [if_neg zo,lD,if_neg zo]
 ·rw [if_pos ⟨h1,by omega⟩]
theorem xI (hj:Jn (aR js) N js.length) {i y:Nat} (hy:y < 2 * js.length):(k7 S js N i y).set (gq (aR js) (de y)) (lD S js i (gq (aR js) (de y))) = k7 S js N i (y + 1):=by
 have hix:=zi hj hy
 have hlt:=hj.lt (de y) (gF hy)
 have hl:(ix js).length = 2 * js.length:=a9 _ _
 refine List.ext_getElem (by rw [List.length_set,k7,k7,a9,a9]) fun k h1 h2=>?_
 have hk:k < N:=by rw [k7,a9] at h2; exact h2
 rw [List.getElem_set]
 have e1:(k7 S js N i (y + 1))[k] = if 0 ≤ mF (ix js) k ∧ (mF (ix js) k).toNat < y + 1 then lD S js i k else mz i k:=by simp [k7,tab]
 have e0:(k7 S js N i y)[k]'(by rw [k7,a9]; exact hk) = if 0 ≤ mF (ix js) k ∧ (mF (ix js) k).toNat < y then lD S js i k else mz i k:=by simp [k7,tab]
 by_cases c:gq (aR js) (de y) = k
 ·rw [if_pos c,e1,← c,hix,if_pos ⟨by omega,by omega⟩]
 ·rw [if_neg c, e1, e0]
  have hne : ¬ (mF (ix js) k = (y : Int)) := fun e => by
   rcases sq (ix js) k with h | ⟨q1,q2,q3⟩
   ·omega
   ·rw [e,Int.toNat_natCast,qQ hy] at q3; exact c q3
  by_cases d:0 ≤ mF (ix js) k ∧ (mF (ix js) k).toNat < y
  ·rw [if_pos d,if_pos ⟨d.1,by omega⟩]
  ·rw [if_neg d,if_neg fun h=>d ⟨h.1,by omega⟩]
theorem FQ (hj:Jn (aR js) N js.length) (hk:∀ b,et (gk S (aR js) (2 * js.length)) b (2 * js.length) = 0) {i y:Nat} (hi:i ∉ gO js) (hy:y < 2 * js.length):lD S js i (gq (aR js) (de y)) = gv (CL S js i) y:=by
 have hne:gq (aR js) (de y) ≠ i:=fun e=>hi (ru.2 ⟨de y,gF hy,e⟩)
 rw [lD,zi hj hy,if_pos zo,Int.toNat_natCast,mz,if_neg hne,Du hk hy]
 rw [show Qi.ofInt 0 = (0:Qi) from rfl]; grind
def wr (z:List Qi) (S c:List (List Qi)) (js:List (Int × Int)):List (List Qi):=bq (jV z S js) (g7 (oF S js z.length) c)
theorem nO (hf : aL S 2) (hj : 2 * js.length ≤ 6) (hk : ∀ b, et (gk S (aR js) (2 * js.length)) b (2 * js.length) = 0) (x : Nat) : bk (nJ S js x) 7082 :=
 yV (m:=6) (K:=1770) (L:=4) (gx _ _ _) (mc hf (by decide)) (yx (by decide)) (by decide) hj (x9 hj) (by decide) (hk _)
theorem oV (hE:jV z S js = 0) (hl:z.length ≤ 8):k9 z js = 0 ∧ 2 * js.length ≤ 6 ∧ (∀ b,et (gk S (aR js) (2 * js.length)) b (2 * js.length) = 0) ∧ (js.length ≠ 0 → 2 * js.length ≠ z.length):=by
 have hd : k9 z js = 0 := by
  apply Classical.byContradiction; intro h
  rw [jV,if_pos h] at hE; exact h hE
 have hle:=oC hd
 have h2 : js.length ≠ 0 → 2 * js.length ≠ z.length := fun h0 h2 => by
  rw [jV,if_neg (fun k=>k hd),if_neg h0,if_pos h2] at hE; omega
 refine ⟨hd,by omega,?_,h2⟩
 by_cases h0:js.length = 0
 ·intro b
  exact (mu (gx _ _ _)).2 fun y _ k hk=>by omega
 ·have h3 := h2 h0
  rw [jV,if_neg (fun k=>k hd),if_neg h0,if_neg h3] at hE
  have hs : rI z S js = 0 := by
   apply Classical.byContradiction; intro h
   rw [if_neg h] at hE; omega
  have hp:=uq hd h3
  exact Bp (gx _ _ _) (cC hs 0 zo)
theorem uR (hc:bE c N N):g7 (oF S [] N) c = c:=by
 have hl:(oF S [] N).length = N:=by rw [oF,List.length_map,show gO [] = [] from rfl,oj,a9]
 have hcl:=hc.1
 have hg : ∀ a k, a < N → k < N → gm (oF S [] N) a k = if k = a then 1 else 0 := fun a k ha hk => by
  have hq:cO (gC (gO []) N) a = a:=by rw [show gO [] = [] from rfl,oj]; exact jv ha
  rw [oF,EO (by rw [show gO [] = [] from rfl,oj,a9]; exact ha),g9 hk,hq,lD,show ix [] = [] from rfl,show mF [] k = -1 from rfl,if_neg (by decide),mz]; rfl
 refine j9 (by have h:=jt (p:=oF S [] N) (c:=c); rw [hl] at h; exact h) hc fun a ha b hb=>?_
 rw [g7,jd zo zo,mA,hcl]
 have e : ah N (fun x => ah N fun y => kx (oF S [] N) c a b x y) = ah N fun x => (if x = a then 1 else 0) * gm c x b := av fun x hx => by
  rw [cf hb (fun y hy hne=>by rw [kx,hg b y hb hy,if_neg hne]; show _ * Qi.conj 0 = 0; rw [show Qi.conj 0 = 0 from rfl]; grind),kx,hg a x ha hx,hg b b hb hb,if_pos rfl,show Qi.conj 1 = 1 from rfl]; grind
 rw [e,cf ha (fun x _ hne=>by rw [if_neg hne]; grind),if_pos rfl]; grind
end
end
section
open Go Go.RowKit
section
variable {P:Program} {R:db} {cx:Cx} {n:Nat} {k:List It} {E:bn} {H:Hp}
theorem HH.two {base:Nat} {w:World} {V:ay} {Z:SA} {X:Hp} (h:HH base w V (Z :: X)):HH base w V [Z,cL (SA.emp :: X)]:=by
 have h1:HH base w V ((Z :: X).set 0 SA.emp ++ [Z]):=h.last rfl
 have h2:HH base w V (cL (SA.emp :: X) :: [Z]):=HH.repack h1
 exact h2.pick (is:=[1,0]) ⟨⟨_,rfl,fun _ _ _ h=>h⟩,⟨_,rfl,fun _ _ _ h=>h⟩,trivial⟩ (by decide)
theorem cR.pack {f : FuncId} {Ts : List Ty} {γ : Type} {U : γ → Ty} {X : γ → Hp} {Q : γ → Prop} (h : cR P f Ts [] γ U X Q) : cR P f Ts [] γ U (fun x => [cL (SA.emp :: X x)]) Q :=
 fun cx Z vs V w h1 h2=>(h cx Z vs V w h1 h2).mono fun e w' ⟨v,V',x,a,b,c,d,e'⟩=>⟨v,V',x,a,b,c.withHH c.hp.two,d,e'⟩
end
namespace W
variable {P:Program} {R:db} {cx:Cx} {n:Nat} {k:List It} {E:bn} {H:Hp} {Hf:Bool → Hp} {p:Nat}
end W
end
section
open Go Go.RowKit
section
variable {P:Program} {n:Nat} {E:bn} {H:Hp}
variable {d:Option Tmp} {t:TypeId} {pos:String} {af:Array Edge} {g:Option (Nat × Bool)}
theorem mp {x i : Operand} {B o q r s : Nat} {kd : IntKind} {j : Int} {e : TypeId} {len : Nat} (hU : ∀ w, (underlying t).run P w = .ok (.array len e) w) (hS : ∀ w, (sizeOf e).run P w = .ok s w)
  (hx:aA E x (aI B o)) (hi:aA E i (ap kd j)) (hj:j = (q:Int)) (hl:q < len) (hr:o + q * s = r) {t':TypeId}:al P n E H ⟨d,.indexAddr t x i,t',pos,af,g⟩ (aI B r) :=
 c5 fun a V w hs => by
  have e1:a.eval x = .pointer (some ⟨B,o,none⟩):=hx n V a hs
  have ei:a.eval i = .int kd j:=hi n V a hs
  subst hj hr
  exact ⟨.pointer (some ⟨B,o + q * s,none⟩),by simp [execOp,e1,ei,Instr.indexAt,Instr.sureAddr,asIntOf,Sem.run_bind,hU,hS,Result.andThen,hl,cA],rfl⟩
end
end
end Go.Proofs.YteohomnhncjcnaaGreat
