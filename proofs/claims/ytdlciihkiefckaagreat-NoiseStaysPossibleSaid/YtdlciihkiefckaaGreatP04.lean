/- What functions of the program compute, proved by walks over their code, and the plain mathematics of it; a part of the proof in the last text. -/
import Derived.Test.YtdlciihkiefckaaGreatP03
set_option linter.unusedVariables false
set_option linter.unusedSimpArgs false
set_option maxRecDepth 100000
set_option maxHeartbeats 4000000
namespace Go.Proofs.YtdlciihkiefckaaGreat
section
open Go Go.RowKit
theorem wV {a:List (List Qi)} (h1:1 ≤ a.length) (hn:a.length ≤ 32) (hk:(a.getD 0 []).length ≤ 32) (hbad:(a.any fun r=>!decide (r.length = (a.getD 0 []).length)) = true):bR Tryz.prog 226 [aR a] (eD [NT .i64 (a.getD 0 []).length,aH false]):=by
 refine bR.intro Tryz.func226 rfl Tryz.ntmps226 rfl (fun cx=>(ts (ro rfl (cQ (cJ 0)) (ro rfl (cQ cV) (eX (cK (ts (rm rfl (ro rfl (dG U_26 (Ht rfl) aC) (ro rfl (eB (Ht rfl) (cJ 0)) (eX (dQ (Ht rfl) (fun hb=>?_) (fun hb=>?_)))))))))))))
 ·simp only [decide_eq_true_eq] at hb
  omega
 ·refine cU (ts (rm rfl (ro rfl (dZ U_26 Z_25 (Ht rfl) (cJ 0) rfl (dY (dU (d := []) zo))) (ro rfl (dJ A_25 Z_25 (Ht rfl)) (ro rfl (dG U_25 (Ht rfl) aC) (rn rfl (eW (Ts := [Is (.int .i64 0)]) O_3 rfl (fun V => aW zd (aG))) fun B4 => (pX Z_3 (Ht rfl) (Ht rfl) (i := 0) rfl (aK rfl) rfl (eX (cK (gV (i := 0) (tt := 4) rfl rfl lE (fZ (m := 15) (dp 4 rfl (dJ A_3 Z_3 (Ht rfl)) ?_))))))))))))
  refine dp 0 rfl (cX (Ht rfl)) (dq 13 1 rfl (dG U_26 (Ht rfl) aC) (dq 14 2 rfl (uZ (Ht rfl) (cJ 32)) (dq 15 3 rfl (cX (Ht rfl)) (C.D_step (Ei:=[(4,_),(16,_)]) rfl rfl (bV (bK rfl rfl) (bV (bG 4 rfl rfl) bW)) (eK rfl rfl (Ht rfl) (fun h=>dJ A_3 Z_3 (Ht rfl))) (C.D_step (Ei:=[(17,_),(16,_)]) rfl rfl (bV (bG 5 rfl rfl) (bV (bG 4 rfl rfl) bW)) (eK rfl rfl (Ht rfl) (fun h=>uZ (fJ rfl h) (cJ 32))) (cP 16 4 18 6 rfl (fC (Ht rfl) (fun h=>(fJ rfl h))) ?_))))))
  refine dq 19 7 rfl (cX (Ht rfl)) (C.D_step (Ei:=[(0,_),(20,_)]) rfl rfl (bV (bK rfl rfl) (bV (bG 8 rfl rfl) bW)) (eK rfl rfl (Ht rfl) (fun h=>cX (Ht rfl))) (C.D_step (Ei:=[(4,_),(20,_)]) rfl rfl (bV (bK rfl rfl) (bV (bG 8 rfl rfl) bW)) (eK rfl rfl (Ht rfl) (fun h=>nS (γ:=List Qi) (Ts:=fun r=>[aM r]) (U:=fun r=>aH (!decide (r.length = (a.getD 0 []).length))) Tryz.call261 (fun r=>Bw) ⟨(Ht rfl),trivial⟩)) (C.D_step (Ei:=[(21,_),(22,_),(20,_)]) rfl rfl (bV (bG 9 rfl rfl) (bV (bG 10 rfl rfl) (bV (bG 8 rfl rfl) bW))) (eK rfl rfl (Ht rfl) (fun h=>cZ Tryz.call227 (qS (l:=a) (T:=aM) (p:=fun r=>!decide (r.length = (a.getD 0 []).length)) zo) ⟨(fJ rfl h),(fJ rfl h),trivial⟩)) ?_)))
  refine C.D_step (Ei:=[(23,_),(20,_)]) rfl rfl (bV (bG 11 rfl rfl) (bV (bG 8 rfl rfl) bW)) (eK rfl rfl (Ht rfl) (fun h=>dH (fJ rfl h))) (cP 20 8 24 12 rfl (fC (Ht rfl) (fun h=>(fJ rfl h))) (dq 12 0 rfl (cQ (Ht rfl)) (fV bC rfl (by kernel_rfl) (zF (zF (zF (aJ (aJ (aJ (aV (ra rfl (eX (bN rfl (eU rfl) (fX (eU rfl) ?_))))))))))))))
  exact (fA (by rw [hbad]; simp))
theorem Xb {a b:List (List Qi)} {n k m L M:Nat} (ha:cF a n k) (hb:cF b k m) (hfa:aN a L) (hfb:aN b M) (hL1:1 ≤ L) (hM1:1 ≤ M) (hL:L ≤ 900000000000) (hM:M ≤ 900000000000) (hn1:1 ≤ n ∨ k = 0) (hk1:1 ≤ k ∨ m = 0) (hn:n ≤ 9) (hk:k ≤ 9) (hm:m ≤ 9):fN Tryz.prog 141 [aR a,aR b] [] (Nat) (fun B=>eD [Is (.slice (some ⟨B,0,none⟩) n n),aP .i64 0]) (fun B=>[lQ B 25 60 5 (bM aF (iJ a b n k m))]) (fun _=>True):=by
 have hal:=ha.1
 have hbl:=hb.1
 refine fN.intro Tryz.func141 rfl Tryz.ntmps141 rfl (fun cx Z=>(ts (ro rfl (cQ cV) (ro rfl (cQ (cJ 0)) (eX (ts (rm rfl (ro rfl (cZ K_226 (pM ha hn1 zo zo) ⟨(Ht rfl),trivial⟩) (rm rfl (ro rfl (dK (Ht rfl) rfl) (ro rfl (dK (Ht rfl) rfl) (ra rfl (ra rfl (eX (ts (rm rfl (ro rfl (cZ K_226 (pM hb hk1 zo zo) ⟨(Ht rfl),trivial⟩) (rm rfl (ro rfl (dK (Ht rfl) rfl) (ro rfl (dK (Ht rfl) rfl) (ra rfl (ra rfl (eX (cK (ts (rm rfl (ro rfl (dH (Ht rfl)) ?_)))))))))))))))))))))))))))
 refine rm rfl (fQ rfl rfl (eK rfl rfl (Ht rfl) (fun h=>cX (Ht rfl))) (fQ rfl rfl (eK rfl rfl (Ht rfl) (fun h=>dH (fJ rfl h))) (ro rfl (jQ (Ht rfl) (fun h=>(fJ rfl h))) (rm rfl (fQ rfl rfl (eK rfl rfl (Ht rfl) (fun h=>cX (Ht rfl))) (fQ rfl rfl (eK rfl rfl (Ht rfl) (fun h=>cX (Ht rfl))) (fQ rfl rfl (eK rfl rfl (Ht rfl) (fun h=>dG U_26 (fJ rfl h) aC)) (fQ rfl rfl (eK rfl rfl (Ht rfl) (fun h=>kN (fJ rfl h) (fJ rfl h))) (ro rfl (jQ (Ht rfl) (fun h=>(fJ rfl h))) ?_)))))))))
 refine eX (dQ (Ht rfl) (fun h0=>?_) (fun h0=>?_))
 ·exact absurd h0 (by simp [hbl])
 ·refine cU (ts (rm rfl (ro rfl (dG U_26 (Ht rfl) aC) (rn rfl (gK (T := Is (.slice none 0 0)) (i := Tryz.t25) V_26 lA rfl rfl (Ht rfl) rfl (fun _ => rfl) trivial (by show 24 * _ ≤ _; omega) zo) fun B39 => (ra rfl (eX (cK (ts (rm rfl (ro rfl (eT U_26 (Ht rfl)) (ro rfl (cX (cJ 0)) (eX (eG (mU 1 rfl (sC (e := 60) (s := 5)) ?_))))))))))))))
  refine cA (fun (i : Nat) => i ≤ n) (fun (i : Nat) => n - i) (fun (i : Nat) => [(0, aR a), (1, aR b), (6, NT .i64 k), (8, NT .i64 m), (10, Is (.slice (some ⟨B39, 0, none⟩) n n)), (41, NT .i64 n), (42, NT .i64 i)]) (fun (i : Nat) => [Z, lQ B39 25 60 5 (bM aF (kV (fun i => tab m fun c => qU a b k i c) [] n i))]) 0 (Nat.zero_le _)
   (aQ rfl (aQ rfl (aQ rfl (aQ rfl (aZ rfl (fun v V h=>by rw [← hal]; exact h) (aZ rfl (lX hal) (zS rfl))))))) (aU (fun _ _ _ h=>h) (aU (bI (by rw [← iL,kT,hal]; exact mA aF n)) aY)) (fun i hi=>?_)
  refine ts (ro rfl (gX (Ht rfl) (Ht rfl)) (eX (cK (dQ (Ht rfl) (fun hd=>?_) (fun hd=>?_)))))
  ·simp only [decide_eq_true_eq] at hd
   have har:=ha.row hd
   refine mB 1 (i) rfl (kQ hd) (fun v=>(cU (cK (eG (ts (rm rfl (ra rfl (eX (ts (rm rfl (ro rfl (cX (cJ 0)) (eX (eG ?_)))))))))))))
   refine fO (fun (c : Nat) (v : Value) => c ≤ m) (fun (c : Nat) (v : Value) => m - c) (fun (c : Nat) (v : Value) => [(0, aR a), (1, aR b), (6, NT .i64 k), (8, NT .i64 m), (10, Is (.slice (some ⟨B39, 0, none⟩) n n)), (11, NT .i64 i), (41, NT .i64 n), (42, NT .i64 i), (45, NT .i64 m), (46, NT .i64 c)]) (fun (c : Nat) (v : Value) => [Z, Ac B39 25 60 5 (bM aF (kV (fun i => tab m fun c => qU a b k i c) [] n i)) i v, bF 60 5 v ((tab c fun c => qU a b k i c).map aF)]) 0 v (Nat.zero_le _)
    (zS rfl) (dR.refl _) (fun c v hc=>?_)
   refine ts (ro rfl (gX (Ht rfl) (Ht rfl)) (eX (cK (dQ (Ht rfl) (fun he=>?_) (fun he=>?_)))))
   ·simp only [decide_eq_true_eq] at he
    have hk1:1 ≤ k:=by omega
    have hb0:=hb.row (i:=0) zo
    haveI f1:aE (gm a i 0) L:=hfa.get hL1 i 0
    haveI f2:aE (gm b 0 c) M:=hfb.get hM1 0 c
    refine cU (cK (eG (ts (rm rfl (ra rfl (eX (cK (fZ (m:=15) (dp 0 rfl (cX (Ht rfl)) (dp 11 rfl (cX (Ht rfl)) (cP 49 0 50 1 rfl (dZ U_26 Z_25 (Ht rfl) (Ht rfl) rfl (dY (dU (d:=[]) zo))) (dq 51 2 rfl (dJ A_25 Z_25 (Ht rfl)) (dq 52 3 rfl (dZ U_25 Z_60 (Ht rfl) (cJ 0) rfl (dY (dU (d:=Qi.zero) (by rw [har]; omega)))) ?_)))))))))))))
    refine dq 53 4 rfl (dJ A_60 Z_60 (Ht rfl)) (dq 54 5 rfl (aT bD (Ht rfl)) (dp 1 rfl (cX (Ht rfl)) (dq 56 7 rfl (dZ U_26 Z_25 (Ht rfl) (cJ 0) rfl (dY (dU (d:=[]) zo))) (dq 57 8 rfl (dJ A_25 Z_25 (Ht rfl)) (dp 12 rfl (cX (Ht rfl)) (cP 58 9 59 10 rfl (dZ U_25 Z_60 (Ht rfl) (Ht rfl) rfl (dY (dU (d:=Qi.zero) (by rw [hb0]; omega)))) ?_))))))
    refine dq 60 11 rfl (dJ A_60 Z_60 (Ht rfl)) (cP 55 6 61 12 rfl (aL cB K_70 (iF zo) (Ht rfl) ⟨(Ht rfl),trivial⟩) (C.D_new (Ei:=[]) rfl rfl rfl bW (eW (Ts:=[Is (.bool false),Is (.slice none 0 0),Is (.bool false),Is (.slice none 0 0),Is (.slice none 0 0)]) O_60 rfl (fun V=>aW zd (aW zd (aW zd (aW zd (aW zd (aG))))))) (fV bC rfl (by kernel_rfl) (zF (zF (zF (aJ (aJ (C.F_new (fun B13=>aV ?_))))))))))
    refine gQ Z_60 (Ht rfl) (Ht rfl) rfl (i:=3) rfl (aK rfl) rfl rfl (eX (cK (ts (ro rfl (cQ (cJ 1)) (eX (eG ?_))))))
    refine cA (fun (j : Nat) => 1 ≤ j ∧ j ≤ k) (fun (j : Nat) => k - j) (fun (j : Nat) => [(0, aR a), (1, aR b), (6, NT .i64 k), (8, NT .i64 m), (10, Is (.slice (some ⟨B39, 0, none⟩) n n)), (11, NT .i64 i), (12, NT .i64 c), (13, bO B13 0), (14, NT .i64 j), (41, NT .i64 n), (42, NT .i64 i), (45, NT .i64 m), (46, NT .i64 c)]) (fun (j : Nat) => [Z, Ac B39 25 60 5 (bM aF (kV (fun i => tab m fun c => qU a b k i c) [] n i)) i v, bF 60 5 v ((tab c fun c => qU a b k i c).map aF), box B13 60 [aH (decide ((aI j fun j => gm a i j * gm b j c).a < 0)), bA (aI j fun j => gm a i j * gm b j c).a.natAbs, aH (decide ((aI j fun j => gm a i j * gm b j c).b < 0)), bA (aI j fun j => gm a i j * gm b j c).b.natAbs, bA (du (aI j fun j => gm a i j * gm b j c))]]) 1 ⟨Nat.le_refl _, hk1⟩
     (zS rfl) (aU (fun _ _ _ h=>h) (aU (fun _ _ _ h=>h) (aU (fun _ _ _ h=>h) (aU (aA (by rw [yD]; rfl)) aY)))) (fun j ⟨hj1,hj⟩=>?_)
    refine cK (ts (rm rfl (rm rfl (ro rfl (gX (Ht rfl) (Ht rfl)) (eX (dQ (Ht rfl) (fun hf=>?_) (fun hf=>?_)))))))
    ·simp only [decide_eq_true_eq] at hf
     haveI f3:aE (gm a i j) L:=hfa.get hL1 i j
     haveI f4:aE (gm b j c) M:=hfb.get hM1 j c
     haveI f5:aE (aI j fun j=>gm a i j * gm b j c) (8 * (L + M) + 17):=Gy hfa hfb hL1 hM1 zo i c
     have hbj:=hb.row (i:=j) zo
     refine cU (cK (eG (fZ (m:=18) (dp 13 rfl (eJ A_60 Z_60 (Ht rfl) (i:=3) rfl rfl rfl) (dq 68 0 rfl (aT bD (Ht rfl)) (dp 0 rfl (cX (Ht rfl)) (dp 11 rfl (cX (Ht rfl)) (cP 70 2 71 3 rfl (dZ U_26 Z_25 (Ht rfl) (Ht rfl) rfl (dY (dU (d:=[]) zo))) (dq 72 4 rfl (dJ A_25 Z_25 (Ht rfl)) (dp 14 rfl (cX (Ht rfl)) (cP 73 5 74 6 rfl (dZ U_25 Z_60 (Ht rfl) (Ht rfl) rfl (dY (dU (d:=Qi.zero) (by rw [har]; omega)))) ?_)))))))))))
     refine dq 75 7 rfl (dJ A_60 Z_60 (Ht rfl)) (dq 76 8 rfl (aT bD (Ht rfl)) (dp 1 rfl (cX (Ht rfl)) (dp 14 rfl (cX (Ht rfl)) (cP 78 10 79 11 rfl (dZ U_26 Z_25 (Ht rfl) (Ht rfl) rfl (dY (dU (d:=[]) zo))) (dq 80 12 rfl (dJ A_25 Z_25 (Ht rfl)) (dp 12 rfl (cX (Ht rfl)) (cP 81 13 82 14 rfl (dZ U_25 Z_60 (Ht rfl) (Ht rfl) rfl (dY (dU (d:=Qi.zero) (by rw [hbj]; omega)))) ?_)))))))
     refine dq 83 15 rfl (dJ A_60 Z_60 (Ht rfl)) (cP 77 9 84 16 rfl (aL cB K_70 (iF zo) (Ht rfl) ⟨(Ht rfl),trivial⟩) (fV bC rfl (by kernel_rfl) (zF (zF (zF (zF (aJ (aJ (aV (ro rfl (aL lF K_71 (rB zo) (Ht rfl) ⟨(Ht rfl),trivial⟩) (gQ Z_60 (Ht rfl) (Ht rfl) rfl (i:=3) rfl (aK rfl) rfl rfl (eX (bL ?_)))))))))))))
     refine cY (rm rfl (ro rfl (dV (Ht rfl) (cJ 1) z6) (ra rfl (eX (fU (j + 1) ⟨by omega,hf⟩ zo (zS rfl) (aU (fun _ _ _ h=>h) (aU (fun _ _ _ h=>h) (aU (fun _ _ _ h=>h) (aU (aA rfl) aY)))))))))
    ·simp only [decide_eq_false_iff_not] at hf
     obtain rfl:k = j:=Nat.le_antisymm zo hj
     refine gW rfl (Y.D_startA (m:=9) [] 8 2 rfl rfl (bY (Ei:=[(10,_)]) rfl rfl (bQ (bJ rfl rfl) bX) rfl rfl (dX rfl (cX (Ht rfl))) (bY (Ei:=[(11,_)]) rfl rfl (bQ (bJ rfl rfl) bX) rfl rfl (dX rfl (cX (Ht rfl))) (bY (Ei:=[(10,_)]) rfl rfl (bQ (bJ rfl rfl) bX) rfl rfl (dX rfl (cX (Ht rfl))) (bY (Ei:=[(11,_)]) rfl rfl (bQ (bJ rfl rfl) bX) rfl rfl (dX rfl (cX (Ht rfl))) (bY (Ei:=[(89,_),(90,_)]) rfl rfl (bQ (bZ 2 rfl rfl) (bQ (bZ 3 rfl rfl) bX)) rfl rfl (dX rfl (fY U_26 Z_25 (Ht rfl) (Ht rfl) rfl zo (by rw [Nat.mul_one,Nat.zero_add]))) ?_))))))
     refine bY (Ei:=[(91,_)]) rfl rfl (bQ (bZ 4 rfl rfl) bX) rfl rfl (dX rfl (iC A_25 Z_25 (Ht rfl) (j:=1) rfl)) (bY (Ei:=[(13,_)]) rfl rfl (bQ (bJ rfl rfl) bX) rfl rfl (dX rfl (eJ A_60 Z_60 (Ht rfl) (i:=3) rfl rfl rfl)) (bY (Ei:=[(93,_)]) rfl rfl (bQ (bZ 6 rfl rfl) bX) rfl rfl (dX rfl (cE (xs:=[.tmp 93]) U_25 Z_60 O_60 (cW (Ht rfl) cG) rfl rfl rfl)) (Y.D_app (Ei:=[(92,_),(94,_)]) rfl rfl rfl rfl (bQ (bZ 5 rfl rfl) (bQ (bZ 7 rfl rfl) bX)) rfl (nW (inf:=Tryz.t60) jH gG rfl rfl rfl (Ht rfl) (Ht rfl) (by simp) (fun T hT=>by simp at hT; subst hT; exact El.ag rfl) (by show _ * 88 ≤ _; simp only [List.length_map,aD,List.length_cons,List.length_nil]; omega) (by simp only [List.length_map,aD,List.length_cons,List.length_nil]; omega)) ?_)))
     refine Y.D_done bC rfl (by kernel_rfl) rfl (by simp [Y.okP]) rfl rfl (bU (bU (bU (bU (bU (bU (bU (bU (Y.F_app (fun v2=>Y.F_nil ?_))))))))))
     refine ro rfl (fY U_26 Z_25 (Ht rfl) (Ht rfl) rfl zo (by rw [Nat.mul_one,Nat.zero_add])) ?_
     refine tK Z_25 (Ht rfl) (Ht rfl) (by simp only [bM,List.length_map,dE]; omega) (j:=1) (l:=4) rfl rfl rfl ?_
     refine eX (bL (cY (ro rfl (dV (Ht rfl) (cJ 1) z6) (rm rfl (eX (bS [0,1,4] rfl (by decide) (fU (c + 1,v2) he (by dsimp only; omega) (zS rfl) (aU (fun _ _ _ h=>h) (aU (fun _ _ _ h=>h) (aU (aO ((rA aF _ (qU a b k i c)).trans (congrArg _ (lH c (fun c=>qU a b k i c)).symm))) aY))))))))))
   ·simp only [decide_eq_false_iff_not] at he
    obtain rfl:m = c:=Nat.le_antisymm zo hc
    refine gW rfl (bL (dS 1 2 rfl rfl (by decide) (by simp only [bM,List.length_map,dE]; omega) ?_))
    refine cY (ro rfl (dV (Ht rfl) (cJ 1) z6) (rm rfl (eX (bS [0,1] rfl (by decide) (fU (i + 1) hd zo (zS rfl) (aU (fun _ _ _ h=>h) (aU (bI (by rw [eN,← jN (f:=(fun i=>tab m fun c=>qU a b k i c))])) aY)))))))
  ·simp only [decide_eq_false_iff_not] at hd
   obtain rfl:n = i:=Nat.le_antisymm zo hi
   refine gW rfl (ts (rm rfl (ra rfl (ro rfl (cQ (cJ 0)) (eX ?_)))))
   exact iO B39 trivial [0,1] ⟨⟨_,rfl,fun _ _ _ h=>h⟩,⟨_,rfl,(bI (by rw [jW]; rfl))⟩,trivial⟩ (by decide) (Vd rfl (eU rfl) (eU rfl))
theorem Po {a b:List (List Qi)} {n k m L M:Nat} (ha:cF a n k) (hb:cF b k m) (hfa:aN a L) (hfb:aN b M) (hL1:1 ≤ L) (hM1:1 ≤ M) (hL:L ≤ 900000000000) (hM:M ≤ 900000000000) (hn1:1 ≤ n ∨ k = 0) (hk1:1 ≤ k ∨ m = 0) (hn:n ≤ 9) (hk:k ≤ 9) (hm:m ≤ 9):bR Tryz.prog 141 [aR a,aR b] (eD [aR (iJ a b n k m),aP .i64 0]):=(Xb ha hb hfa hfb hL1 hM1 hL hM hn1 hk1 hn hk hm).fun fun B _ v S V h1 h2=>a0T h1 fun u hu=>gY (s:=5) (M:=iJ a b n k m) (aD _ _).symm u S V hu h2
theorem Td {a:List (List Qi)} (h1:1 ≤ a.length) (hn:a.length ≤ 32) (hk:(a.getD 0 []).length ≤ 32) (hbad:(a.any fun r=>!decide (r.length = (a.getD 0 []).length)) = true):bR Tryz.prog 141 [aR a,aR []] (eD [aR [],aP .i64 4]):=by
 refine bR.intro Tryz.func141 rfl Tryz.ntmps141 rfl (fun cx=>(ts (ro rfl (cQ cV) (ro rfl (cQ (cJ 0)) (eX (ts (rm rfl (ro rfl (cZ K_226 (wV h1 hn hk hbad) ⟨(Ht rfl),trivial⟩) (rm rfl (ro rfl (dK (Ht rfl) rfl) (ro rfl (dK (Ht rfl) rfl) (ra rfl (ra rfl (eX (ts (rm rfl (ro rfl (cZ K_226 wE ⟨(Ht rfl),trivial⟩) (rm rfl (ro rfl (dK (Ht rfl) rfl) (ro rfl (dK (Ht rfl) rfl) (ra rfl (ra rfl (eX (cK (ts (rm rfl (ro rfl (dH (Ht rfl)) (rm rfl (fQ rfl rfl (eK rfl rfl (Ht rfl) (fun h=>cX (Ht rfl))) ?_)))))))))))))))))))))))))))))
 refine fQ rfl rfl (eK rfl rfl (Ht rfl) (fun h=>dH (fJ rfl h))) (ro rfl (jQ (Ht rfl) (fun h=>(fJ rfl h))) (rm rfl (fQ rfl rfl (eK rfl rfl (Ht rfl) (fun h=>cX (Ht rfl))) (fQ rfl rfl (eK rfl rfl (Ht rfl) (fun h=>cX (Ht rfl))) (fQ rfl rfl (eK rfl rfl (Ht rfl) (fun h=>dG U_26 (fJ rfl h) aC)) (fQ rfl rfl (eK rfl rfl (Ht rfl) (fun h=>kN (fJ rfl h) (fJ rfl h))) (ro rfl (jQ (Ht rfl) (fun h=>(fJ rfl h))) (eX (Af (Ht rfl) (by simp) ?_)))))))))
 refine ts (ro rfl (cQ cV) (ro rfl (cQ (cJ 4)) (eX (bN rfl (fX (eU rfl) ?_) (eU rfl)))))
 exact (fun v V h=>iR _ _ h)
theorem Wy {a:List (List Qi)} (h1:1 ≤ a.length) (hn:a.length ≤ 32) (hk:(a.getD 0 []).length ≤ 32) (hbad:(a.any fun r=>!decide (r.length = (a.getD 0 []).length)) = true):bR Tryz.prog 140 [aR a] (eD [aR [],aP .i64 4]):=by
 refine bR.intro Tryz.func140 rfl Tryz.ntmps140 rfl (fun cx=>(ts (ro rfl (cQ cV) (ro rfl (cQ (cJ 0)) (eX (ts (rm rfl (ro rfl (cZ K_226 (wV h1 hn hk hbad) ⟨(Ht rfl),trivial⟩) (rm rfl (ro rfl (dK (Ht rfl) rfl) (ro rfl (dK (Ht rfl) rfl) (ra rfl (ra rfl (eX (cK (ts (rm rfl (ro rfl (dH (Ht rfl)) (eX (Af (Ht rfl) (by simp) ?_))))))))))))))))))))
 refine ts (ro rfl (cQ cV) (ro rfl (cQ (cJ 4)) (eX (bN rfl (fX (eU rfl) ?_) (eU rfl)))))
 exact (fun v V h=>iR _ _ h)
theorem a1b {a:List (List Qi)} {n m:Nat} (ha:cF a n m) (hn1:1 ≤ n ∨ m = 0) (hn:n ≤ 9) (hm:m ≤ 9):fN Tryz.prog 140 [aR a] [] (Nat) (fun B=>eD [Is (.slice (some ⟨B,0,none⟩) m m),aP .i64 0]) (fun B=>[lQ B 25 60 5 (bM aF (mR a n m))]) (fun _=>True):=by
 have hal:=ha.1
 refine fN.intro Tryz.func140 rfl Tryz.ntmps140 rfl (fun cx Z=>(ts (ro rfl (cQ cV) (ro rfl (cQ (cJ 0)) (eX (ts (rm rfl (ro rfl (cZ K_226 (pM ha hn1 zo zo) ⟨(Ht rfl),trivial⟩) (rm rfl (ro rfl (dK (Ht rfl) rfl) (ro rfl (dK (Ht rfl) rfl) (ra rfl (ra rfl (eX (cK (ts (rm rfl (ro rfl (dH (Ht rfl)) (eX (dQ (Ht rfl) (fun h0=>?_) (fun h0=>?_)))))))))))))))))))))
 ·exact absurd h0 (by simp)
 ·refine cU (ts (rm rfl (rn rfl (gK (T := Is (.slice none 0 0)) (i := Tryz.t25) V_26 lA rfl rfl (Ht rfl) rfl (fun _ => rfl) trivial (by show 24 * _ ≤ _; omega) zo) fun B17 => (ra rfl (eX (cK (ts (rm rfl (ro rfl (eT U_26 (Ht rfl)) (ro rfl (cX (cJ 0)) (eX (eG (mU 1 rfl (sC (e := 60) (s := 5)) ?_)))))))))))))
  refine cA (fun (k : Nat) => k ≤ m) (fun (k : Nat) => m - k) (fun (k : Nat) => [(0, aR a), (6, Is (.slice (some ⟨B17, 0, none⟩) m m)), (19, NT .i64 m), (20, NT .i64 k)]) (fun (k : Nat) => [Z, lQ B17 25 60 5 (bM aF (kV (fun k => tab n fun i => (gm a i k).conj) [] m k))]) 0 (Nat.zero_le _)
   (zS rfl) (aU (fun _ _ _ h=>h) (aU (bI (by rw [← iL,kT]; exact mA aF m)) aY)) (fun k hk=>?_)
  refine ts (ro rfl (gX (Ht rfl) (Ht rfl)) (eX (cK (dQ (Ht rfl) (fun hd=>?_) (fun hd=>?_)))))
  ·simp only [decide_eq_true_eq] at hd
   refine mB 1 (k) rfl (kQ hd) (fun v=>(cU (cK (eG (ts (rm rfl (ra rfl (eX (ts (rm rfl (ro rfl (dG U_26 (Ht rfl) aC) (ro rfl (cX (cJ 0)) (eX (eG ?_))))))))))))))
   refine fO (fun (i : Nat) (v : Value) => i ≤ n) (fun (i : Nat) (v : Value) => n - i) (fun (i : Nat) (v : Value) => [(0, aR a), (6, Is (.slice (some ⟨B17, 0, none⟩) m m)), (7, NT .i64 k), (19, NT .i64 m), (20, NT .i64 k), (24, NT .i64 n), (25, NT .i64 i)]) (fun (i : Nat) (v : Value) => [Z, Ac B17 25 60 5 (bM aF (kV (fun k => tab n fun i => (gm a i k).conj) [] m k)) k v, bF 60 5 v ((tab i fun i => (gm a i k).conj).map aF)]) 0 v (Nat.zero_le _)
    (aQ rfl (aQ rfl (aQ rfl (aQ rfl (aQ rfl (aZ rfl (lX hal) (zS rfl))))))) (dR.refl _) (fun i v hi=>?_)
   refine ts (ro rfl (gX (Ht rfl) (Ht rfl)) (eX (cK (dQ (Ht rfl) (fun he=>?_) (fun he=>?_)))))
   ·simp only [decide_eq_true_eq] at he
    have har:=ha.row he
    refine cU (cK (eG (ts (rm rfl (ra rfl (eX (Y.D_startA (m:=17) [] 16 2 rfl rfl (bY (Ei:=[(6,_)]) rfl rfl (bQ (bJ rfl rfl) bX) rfl rfl (dX rfl (cX (Ht rfl))) (bY (Ei:=[(7,_)]) rfl rfl (bQ (bJ rfl rfl) bX) rfl rfl (dX rfl (cX (Ht rfl))) (bY (Ei:=[(6,_)]) rfl rfl (bQ (bJ rfl rfl) bX) rfl rfl (dX rfl (cX (Ht rfl))) (bY (Ei:=[(7,_)]) rfl rfl (bQ (bJ rfl rfl) bX) rfl rfl (dX rfl (cX (Ht rfl))) (bY (Ei:=[(30,_),(31,_)]) rfl rfl (bQ (bZ 2 rfl rfl) (bQ (bZ 3 rfl rfl) bX)) rfl rfl (dX rfl (fY U_26 Z_25 (Ht rfl) (Ht rfl) rfl zo (by rw [Nat.mul_one,Nat.zero_add]))) ?_))))))))))))
    refine bY (Ei:=[(32,_)]) rfl rfl (bQ (bZ 4 rfl rfl) bX) rfl rfl (dX rfl (iC A_25 Z_25 (Ht rfl) (j:=1) rfl)) (bY (Ei:=[(0,_)]) rfl rfl (bQ (bJ rfl rfl) bX) rfl rfl (dX rfl (cX (Ht rfl))) (bY (Ei:=[(8,_)]) rfl rfl (bQ (bJ rfl rfl) bX) rfl rfl (dX rfl (cX (Ht rfl))) (bY (Ei:=[(34,_),(35,_)]) rfl rfl (bQ (bZ 6 rfl rfl) (bQ (bZ 7 rfl rfl) bX)) rfl rfl (dX rfl (dZ U_26 Z_25 (Ht rfl) (Ht rfl) rfl (dY (dU (d:=[]) zo)))) ?_)))
    refine bY (Ei:=[(36,_)]) rfl rfl (bQ (bZ 8 rfl rfl) bX) rfl rfl (dX rfl (dJ A_25 Z_25 (Ht rfl))) (bY (Ei:=[(7,_)]) rfl rfl (bQ (bJ rfl rfl) bX) rfl rfl (dX rfl (cX (Ht rfl))) (bY (Ei:=[(37,_),(38,_)]) rfl rfl (bQ (bZ 9 rfl rfl) (bQ (bZ 10 rfl rfl) bX)) rfl rfl (dX rfl (dZ U_25 Z_60 (Ht rfl) (Ht rfl) rfl (dY (dU (d:=Qi.zero) (by rw [har]; omega))))) ?_))
    refine bY (Ei:=[(39,_)]) rfl rfl (bQ (bZ 11 rfl rfl) bX) rfl rfl (dX rfl (dJ A_60 Z_60 (Ht rfl))) (bY (Ei:=[(40,_)]) rfl rfl (bQ (bZ 12 rfl rfl) bX) rfl rfl (dX rfl (aT bD (Ht rfl))) (bY (Ei:=[(41,_)]) rfl rfl (bQ (bZ 13 rfl rfl) bX) rfl rfl (dX rfl (aL lM K_173 wD (Ht rfl) trivial)) (bY (Ei:=[(42,_)]) rfl rfl (bQ (bZ 14 rfl rfl) bX) rfl rfl (dX rfl (cE (xs:=[.tmp 42]) U_25 Z_60 O_60 (cW (Ht rfl) cG) rfl rfl rfl)) ?_)))
    refine Y.D_app (Ei:=[(33,_),(43,_)]) rfl rfl rfl rfl (bQ (bZ 5 rfl rfl) (bQ (bZ 15 rfl rfl) bX)) rfl (nW (inf:=Tryz.t60) jH gG rfl rfl rfl (Ht rfl) (Ht rfl) (by simp) (fun T hT=>by simp at hT; subst hT; exact El.ag rfl) (by show _ * 88 ≤ _; simp only [List.length_map,aD,List.length_cons,List.length_nil]; omega) (by simp only [List.length_map,aD,List.length_cons,List.length_nil]; omega)) ?_
    refine Y.D_done bC rfl (by kernel_rfl) rfl (by simp [Y.okP]) rfl rfl (bU (bU (bU (bU (bU (bU (bU (bU (bU (bU (bU (bU (bU (bU (bU (bU (Y.F_app (fun v2=>Y.F_nil ?_))))))))))))))))))
    refine ro rfl (fY U_26 Z_25 (Ht rfl) (Ht rfl) rfl zo (by rw [Nat.mul_one,Nat.zero_add])) ?_
    refine tK Z_25 (Ht rfl) (Ht rfl) (by simp only [bM,List.length_map,dE]; omega) (j:=1) (l:=3) rfl rfl rfl ?_
    refine eX (bL (cY (ro rfl (dV (Ht rfl) (cJ 1) z6) (rm rfl (eX (bS [0,1,3] rfl (by decide) (fU (i + 1,v2) he (by dsimp only; omega) (zS rfl) (aU (fun _ _ _ h=>h) (aU (fun _ _ _ h=>h) (aU (aO ((rA aF _ (gm a i k).conj).trans (congrArg _ (lH i (fun i=>(gm a i k).conj)).symm))) aY))))))))))
   ·simp only [decide_eq_false_iff_not] at he
    obtain rfl:n = i:=Nat.le_antisymm zo hi
    refine gW rfl (bL (dS 1 2 rfl rfl (by decide) (by simp only [bM,List.length_map,dE]; omega) ?_))
    refine cY (ro rfl (dV (Ht rfl) (cJ 1) z6) (rm rfl (eX (bS [0,1] rfl (by decide) (fU (k + 1) hd zo (zS rfl) (aU (fun _ _ _ h=>h) (aU (bI (by rw [eN,← jN (f:=(fun k=>tab n fun i=>(gm a i k).conj))])) aY)))))))
  ·simp only [decide_eq_false_iff_not] at hd
   obtain rfl:m = k:=Nat.le_antisymm zo hk
   refine gW rfl (ts (rm rfl (ra rfl (ro rfl (cQ (cJ 0)) (eX ?_)))))
   exact iO B17 trivial [0,1] ⟨⟨_,rfl,fun _ _ _ h=>h⟩,⟨_,rfl,(bI (by rw [jW]; rfl))⟩,trivial⟩ (by decide) (Vd rfl (eU rfl) (eU rfl))
theorem Wx {a:List (List Qi)} {n m:Nat} (ha:cF a n m) (hn1:1 ≤ n ∨ m = 0) (hn:n ≤ 9) (hm:m ≤ 9):bR Tryz.prog 140 [aR a] (eD [aR (mR a n m),aP .i64 0]):=(a1b ha hn1 hn hm).fun fun B _ v S V h1 h2=>a0T h1 fun u hu=>gY (s:=5) (M:=mR a n m) (aD _ _).symm u S V hu h2
theorem Nj {C : List (List Qi)} (hf : aN C 2) (hl : C.length ≤ 9) (hr : ∀ r, r ∈ C → r.length ≤ 9) : ∃ (D M : List (List Qi)) (e1 e2 : Int), bR Tryz.prog 140 [aR C] (eD [aR D, aP .i64 e1]) ∧ bR Tryz.prog 141 [aR C, aR D] (eD [aR M, aP .i64 e2])
  ∧ M.length ≤ 9 ∧ (e1 = 0 → ∃ n m,cF C n m ∧ n ≤ 9 ∧ m ≤ 9 ∧ M = iJ C (mR C n m) n m (if m = 0 then 0 else n)):=by
 by_cases h0:C = []
 ·subst h0
  refine ⟨mR [] 0 0,iJ [] (mR [] 0 0) 0 0 0,0,0,Wx (n:=0) (m:=0) ⟨rfl,fun r h=>by cases h⟩ (.inr rfl) (by decide) (by decide),Po (n:=0) (k:=0) (m:=0) (L:=2) (M:=2) ⟨rfl,fun r h=>by cases h⟩ Bt hf aN.nil (by decide) (by decide) (by decide) (by decide) (.inr rfl) (.inr rfl) (by decide) (by decide) (by decide),by rw [(jO).1]; decide,fun _=>⟨0,0,⟨rfl,fun r h=>by cases h⟩,by decide,by decide,rfl⟩⟩
 have h1 : 1 ≤ C.length := by
  rcases Nat.eq_zero_or_pos C.length with e | e
  ·exact absurd (List.length_eq_zero_iff.1 e) h0
  ·exact e
 have hk:(C.getD 0 []).length ≤ 9:=hr _ (by rw [show C.getD 0 [] = C[0] by simp [List.getD,show 0 < C.length by omega]]; exact List.getElem_mem _)
 by_cases hb:(C.any fun r=>!decide (r.length = (C.getD 0 []).length)) = true
 ·exact ⟨[],[],4,4,Wy h1 zo zo hb,Td h1 zo zo hb,by simp,fun h=>absurd h (by decide)⟩
 obtain ⟨m,hm⟩:∃ m,m = (C.getD 0 []).length:=⟨_,rfl⟩
 obtain ⟨n,hn⟩:∃ n,n = C.length:=⟨_,rfl⟩
 rw [← hm] at hb hk
 have hs : cF C n m := ⟨hn.symm, fun r hrr => by
  apply Classical.byContradiction; intro e
  exact hb (List.any_eq_true.2 ⟨r,hrr,by simp [e]⟩)⟩
 have hA:=Wx hs (.inl zo) zo hk
 have hfa:aN (mR C n m) 2:=Bs hf (by decide)
 refine ⟨mR C n m,iJ C (mR C n m) n m (if m = 0 then 0 else n),0,0,hA,Po (L:=2) (M:=2) hs ?_ hf hfa (by decide) (by decide) (by decide) (by decide) (.inl zo) ?_ zo hk ?_,by rw [(jO).1]; omega,fun _=>⟨n,m,hs,by omega,hk,rfl⟩⟩
 ·by_cases e : m = 0
  ·subst e; exact ⟨rfl,fun r h=>by cases h⟩
  ·rw [if_neg e]; exact Bt
 ·by_cases e : m = 0
  ·rw [if_pos e]; exact .inr rfl
  ·exact .inl zo
 ·by_cases e : m = 0
  ·rw [if_pos e]; omega
  ·rw [if_neg e]; omega
theorem a48 {z:List Rt} {s c:List (List Rt)} {D M:List (List Qi)} {e1 e2:Int} (hf:yU z s c = true) (hA:bR Tryz.prog 140 [aR (rq c)] (eD [aR D,aP .i64 e1])) (hP:bR Tryz.prog 141 [aR (rq c),aR D] (eD [aR M,aP .i64 e2])) (hM:M.length ≤ 9):bR Tryz.prog 43 [Wb z s c] (eD [eH (dM (fS (dM (eS (z.map Rt.q) (rq s)) (z.map Rt.q)) M) (dM (eS (z.map Rt.q) (rq s)) (z.map Rt.q))) (dM (fS (dM (eS (z.map Rt.q) (rq s)) (z.map Rt.q)) M) (dM (eS (z.map Rt.q) (rq s)) (rq s))) (dM (fS (dM (eS (z.map Rt.q) (rq s)) (z.map Rt.q)) M) M),aH (((decide (eS (z.map Rt.q) (rq s) = 0) && decide (e1 = 0)) && decide (e2 = 0)) && decide (fS (dM (eS (z.map Rt.q) (rq s)) (z.map Rt.q)) M = 0))]):=by
 obtain ⟨h1,h2,h3,h4,h5⟩:=xF hf
 have hN:=Jo (z:=z.map Rt.q) (s:=rq s) (L:=2) bP.rt (by decide) (by rw [List.length_map]; omega) (by rw [rq,List.length_map]; omega)
 have hzl:(dM (eS (z.map Rt.q) (rq s)) (z.map Rt.q)).length ≤ 9:=Nat.le_trans (a2x _ _) (by rw [List.length_map]; exact h1)
 have hr4:∀ r,r ∈ s → r.length ≤ 1000:=fun r h=>Nat.le_trans (h4 r h) (by decide)
 have hr5:∀ r,r ∈ c → r.length ≤ 1000:=fun r h=>Nat.le_trans (h5 r h) (by decide)
 generalize hZ:dM (eS (z.map Rt.q) (rq s)) (z.map Rt.q) = Z0 at *
 generalize hS:dM (eS (z.map Rt.q) (rq s)) (rq s) = S0 at *
 have hX:=Xm (z:=Z0) (s:=S0) (c:=M) zo zo
 refine bR.intro Tryz.func43 rfl Tryz.ntmps43 rfl (fun cx=>(ts (rn rfl (fG (Ht rfl)) fun B1=>(rn rfl (eW (Ts:=[Is (.slice none 0 0),Is (.slice none 0 0),Is (.slice none 0 0)]) O_80 rfl (fun V=>aW zd (aW zd (aW zd (aG))))) fun B2=>(ro rfl (cQ cV) (eX (cK (Y.D_start (m:=12) [] (bY (Ei:=[(1,_)]) rfl rfl (bQ (bJ rfl rfl) bX) rfl rfl (dX rfl (eZ Qh (Ht rfl) rfl)) (bY (Ei:=[(14,_)]) rfl rfl (bQ (bZ 0 rfl rfl) bX) rfl rfl (dX rfl (eY A_22 Z_22 (Ht rfl) (i:=0) rfl rfl)) ?_))))))))))
 refine bY (Ei:=[(15,_)]) rfl rfl (bQ (bZ 1 rfl rfl) bX) rfl rfl (dX rfl (cZ Tryz.call48 (uP (l:=z) zo) ⟨(Ht rfl),trivial⟩)) (bY (Ei:=[(1,_)]) rfl rfl (bQ (bJ rfl rfl) bX) rfl rfl (dX rfl (eZ Hc (Ht rfl) rfl)) (bY (Ei:=[(17,_)]) rfl rfl (bQ (bZ 3 rfl rfl) bX) rfl rfl (dX rfl (eY A_75 Z_75 (Ht rfl) (i:=0) rfl rfl)) (bY (Ei:=[(18,_)]) rfl rfl (bQ (bZ 4 rfl rfl) bX) rfl rfl (dX rfl (cZ Tryz.call94 (yN (m:=s) zo hr4) ⟨(Ht rfl),trivial⟩)) ?_)))
 refine bY (Ei:=[(16,_),(19,_)]) rfl rfl (bQ (bZ 2 rfl rfl) (bQ (bZ 5 rfl rfl) bX)) rfl rfl (dX rfl (cZ Tryz.call93 hN ⟨(Ht rfl),(Ht rfl),trivial⟩)) (bY (Ei:=[(20,_)]) rfl rfl (bQ (bZ 6 rfl rfl) bX) rfl rfl (dX rfl (cX (Ht rfl))) (bY (Ei:=[(13,_)]) rfl rfl (bQ (bZ 7 rfl rfl) bX) rfl rfl (dX rfl (dK (Ht rfl) rfl)) (bY (Ei:=[(13,_)]) rfl rfl (bQ (bZ 7 rfl rfl) bX) rfl rfl (dX rfl (dK (Ht rfl) rfl)) (Y.D_newp (Ei:=[]) (fun bb=>box bb 28 [aM Z0,aR S0]) 11 rfl rfl rfl bX rfl rfl (by kernel_rfl) (eW (Ts:=[Is (.slice none 0 0),Is (.slice none 0 0)]) O_28 rfl (fun V=>aW zd (aW zd (aG)))) ?_))))
 refine Y.D_putN (Ei:=[(21,_)]) 10 rfl rfl rfl rfl rfl rfl (bQ (bZ 8 rfl rfl) bX) (fun bb=>tJ Z_28 (Ht rfl) (Ht rfl) rfl (i:=0) rfl (aK rfl) rfl rfl) (Y.D_done bC rfl (by kernel_rfl) rfl (by simp [Y.okP]) rfl rfl (bU (bU (bU (bU (bU (bU (bU (bU (bU (bU (Y.F_newp (fun B4=>Y.F_putN (Y.F_nil ?_))))))))))))))
 refine ra rfl (eX (ts (ro rfl (eZ Hd (Ht rfl) rfl) (ro rfl (eY A_75 Z_75 (Ht rfl) (i:=0) rfl rfl) (ro rfl (cZ Tryz.call94 (yN (m:=c) zo hr5) ⟨(Ht rfl),trivial⟩) (ra rfl (eX (ts (rm rfl (ro rfl (cZ Tryz.call140 hA ⟨(Ht rfl),trivial⟩) (rm rfl (ro rfl (dK (Ht rfl) rfl) (ro rfl (dK (Ht rfl) rfl) (ra rfl (ra rfl (eX (ts (rm rfl (rm rfl (ro rfl (cZ Tryz.call141 hP ⟨(Ht rfl),(Ht rfl),trivial⟩) (rm rfl (ro rfl (dK (Ht rfl) rfl) (ro rfl (dK (Ht rfl) rfl) (ra rfl (ra rfl ?_)))))))))))))))))))))))))
 refine eX (ts (ro rfl (eJ A_28 Z_28 (Ht rfl) (i:=2) rfl rfl rfl) (rm rfl (ro rfl (cZ Tryz.call142 hX ⟨(Ht rfl),(Ht rfl),trivial⟩) (rm rfl (ro rfl (dK (Ht rfl) rfl) (ro rfl (dK (Ht rfl) rfl) (rn rfl (eW (Ts:=[Is (.slice none 0 0),Is (.slice none 0 0),Is (.slice none 0 0)]) O_80 rfl (fun V=>aW zd (aW zd (aW zd (aG))))) fun B11=>(gQ Z_80 (Ht rfl) (Ht rfl) rfl (i:=3) rfl (aK rfl) rfl rfl (ra rfl (eX (ts ?_))))))))))))
 refine ro rfl (eJ A_80 Z_80 (Ht rfl) (i:=3) rfl rfl rfl) (rm rfl (ro rfl (mH (Ht rfl) cV) (rm rfl (fQ rfl rfl (eK rfl rfl (Ht rfl) (fun h=>cX (Ht rfl))) (fQ rfl rfl (eK rfl rfl (Ht rfl) (fun h=>mH (fJ rfl h) cV)) (ro rfl (fC (Ht rfl) (fun h=>(fJ rfl h))) (rm rfl (fQ rfl rfl (eK rfl rfl (Ht rfl) (fun h=>cX (Ht rfl))) (fQ rfl rfl (eK rfl rfl (Ht rfl) (fun h=>mH (fJ rfl h) cV)) (ro rfl (fC (Ht rfl) (fun h=>(fJ rfl h))) (rm rfl (fQ rfl rfl (eK rfl rfl (Ht rfl) (fun h=>cX (Ht rfl))) ?_))))))))))))
 refine fQ rfl rfl (eK rfl rfl (Ht rfl) (fun h=>mH (fJ rfl h) cV)) (ro rfl (fC (Ht rfl) (fun h=>(fJ rfl h))) (gQ Z_80 (Ht rfl) (Ht rfl) rfl (i:=1) rfl (aK rfl) rfl rfl (ra rfl (eX (bN rfl (fK A_80 Z_80 rfl (i:=1) rfl rfl) (fX (eU rfl) ?_))))))
 exact (fA (by by_cases q1:eS (z.map Rt.q) (rq s) = 0 <;> by_cases q2:e1 = 0 <;> by_cases q3:e2 = 0 <;> by_cases q4:fS Z0 M = 0 <;> simp [q1,q2,q3,q4]))
end
section
open Go Go.RowKit
namespace Qi
end Qi
def kU (f : Nat → Int) : Nat → Int
 | 0=>0
 | n + 1=>if kU f n ≠ 0 then kU f n else f n
theorem uS {f:Nat → Int} {k:Nat} (h:∀ i,i < k → f i = 0) (hk:f k ≠ 0):∀ {n:Nat},k < n → kU f n = f k:=by
 have hz : kU f k = 0 := by
  clear hk
  induction k with
  | zero=>rfl
  | succ k ih=>rw [kU,ih (fun i hi=>h i zo),if_neg (by simp),h k zo]
 intro n
 induction n with
 | zero=>intro h; omega
 | succ n ih =>
  intro hn
  by_cases e:n = k
  ·rw [e,kU,hz,if_neg (by simp)]
  ·rw [kU,ih zo,if_pos hk]
theorem kG {f : Nat → Int} : ∀ {n : Nat}, (∀ i, i < n → f i = 0) → kU f n = 0
 | 0,_=>rfl
 | n + 1,h=>by rw [kU,kG (fun i hi=>h i zo),if_neg (by simp),h n zo]
theorem iT {f : Nat → Int} : ∀ {n : Nat}, kU f n = 0 → ∀ i, i < n → f i = 0
 | 0,_,i,hi=>by omega
 | n + 1, h, i, hi => by
  rw [kU] at h
  split at h
  ·rename_i c; exact absurd h c
  ·rename_i c
   by_cases e:i = n
   ·rw [e]; exact h
   ·exact iT (Decidable.not_not.1 c) i zo
abbrev eF (l:List (Qi × Qi)) (i:Nat):Qi:=(l.getD i (Qi.zero,Qi.zero)).1
abbrev eV (l:List (Qi × Qi)) (i:Nat):Qi:=(l.getD i (Qi.zero,Qi.zero)).2
structure a3n (l:List (Qi × Qi)) (f:Qi):Prop where
 real:∀ i,i < l.length → (eF l i).b = 0 ∧ (eV l i).b = 0
 up:∀ i,0 < i → i < l.length → (eF l (i - 1)).re < (eF l i).re
 fr:f.b = 0
theorem a53 {x:Qi} (h:gU x = true):x.b = 0:=by simp only [gU,decide_eq_true_eq] at h; exact h.1
theorem a3n.mono {l : List (Qi × Qi)} {f : Qi} (h : a3n l f) {i : Nat} : ∀ {j : Nat}, i < j → j < l.length → (eF l i).re < (eF l j).re
 | 0,h1,_=>by omega
 | j + 1, h1, h2 => by
  have h3:=h.up (j + 1) zo h2
  rw [Nat.add_sub_cancel] at h3
  by_cases e:i = j
  ·rw [e]; exact h3
  ·have := h.mono (i := i) (j := j) zo zo
   grind
def a5y (l:List (Qi × Qi)) (L:Nat):Prop:=∀ e,e ∈ l → aE e.1 L ∧ aE e.2 L
theorem a5y.get {l:List (Qi × Qi)} {L:Nat} (h:a5y l L) (hL:1 ≤ L) (i:Nat):aE (eF l i) L ∧ aE (eV l i) L:=by
 by_cases hi:i < l.length
 ·have e : l.getD i (Qi.zero, Qi.zero) = l[i] := by simp [List.getD, hi]
  show aE (l.getD i _).1 L ∧ aE (l.getD i _).2 L
  rw [e]; exact h _ (List.getElem_mem hi)
 ·have e : l.getD i (Qi.zero, Qi.zero) = (Qi.zero, Qi.zero) := by simp [List.getD, List.getElem?_eq_none (Nat.le_of_not_lt hi)]
  show aE (l.getD i _).1 L ∧ aE (l.getD i _).2 L
  rw [e]; exact ⟨aE.zero hL,aE.zero hL⟩
end
section
open Go Go.RowKit
abbrev dN (M:List (List Qi)) (i:Nat):List Qi:=M.getD i []
def Vx (M : List (List Qi)) (c n : Nat) : Nat → Nat
 | 0=>n
 | k + 1=>if gm M (n - (k + 1)) c = Qi.zero then Vx M c n k else n - (k + 1)
def pv (M:List (List Qi)) (c n:Nat):Nat:=Vx M c n (n - c)
theorem Lk {M : List (List Qi)} {c n : Nat} : ∀ {k : Nat}, k ≤ n → (∀ r, n - k ≤ r → r < Vx M c n k → gm M r c = Qi.zero) ∧ n - k ≤ Vx M c n k ∧ Vx M c n k ≤ n ∧ (Vx M c n k < n → gm M (Vx M c n k) c ≠ Qi.zero)
 | 0,_=>⟨fun r h1 h2=>by simp [Vx] at h2; omega,by simp [Vx],by simp [Vx],fun h=>by simp [Vx] at h⟩
 | k + 1, hk => by
  obtain ⟨i1,i2,i3,i4⟩:=Lk (M:=M) (c:=c) (n:=n) (k:=k) zo
  unfold Vx
  by_cases e:gm M (n - (k + 1)) c = Qi.zero
  ·rw [if_pos e]
   refine ⟨fun r h1 h2=>?_,by omega,i3,i4⟩
   by_cases e2:r = n - (k + 1)
   ·rw [e2]; exact e
   ·exact i1 r zo h2
  ·rw [if_neg e]
   exact ⟨fun r h1 h2=>by omega,Nat.le_refl _,by omega,fun _=>e⟩
theorem nU {M:List (List Qi)} {c n:Nat} (hc:c ≤ n):(∀ r,c ≤ r → r < pv M c n → gm M r c = Qi.zero) ∧ c ≤ pv M c n ∧ pv M c n ≤ n ∧ (pv M c n < n → gm M (pv M c n) c ≠ Qi.zero):=by
 have h:=Lk (M:=M) (c:=c) (n:=n) (k:=n - c) zo
 rw [show n - (n - c) = c by omega] at h
 exact h
theorem a6h {M:List (List Qi)} {c n p:Nat} (hc:c ≤ p) (hp:p ≤ n) (h1:∀ r,c ≤ r → r < p → gm M r c = Qi.zero) (h2:p < n → gm M p c ≠ Qi.zero):pv M c n = p:=by
 obtain ⟨i1,i2,i3,i4⟩:=nU (M:=M) (n:=n) (show c ≤ n by omega)
 rcases Nat.lt_trichotomy (pv M c n) p with h | h | h
 ·exact absurd (h1 _ i2 h) (i4 zo)
 ·exact h
 ·exact absurd (i1 p hc h) (h2 zo)
def lT (rr rc:List Qi) (c k:Nat):List Qi:=tab rr.length fun j=>if c < j ∧ j < k then gv rr j - gv rr c / gv rc c * gv rc j else gv rr j
def redM (M:List (List Qi)) (c r:Nat):List (List Qi):=tab M.length fun i=>if c < i ∧ i < r then lT (dN M i) (dN M c) c (dN M i).length else dN M i
def cM (M : List (List Qi)) : Nat → List (List Qi) × Nat × Int
 | 0=>(M,0,-1)
 | c + 1 =>
  let s:=cM M c
  if 0 ≤ s.2.2 then s else
  if pv s.1 c M.length = M.length then (s.1,s.2.1,(c:Int)) else
  (redM (if pv s.1 c M.length = c then s.1 else swp [] s.1 (pv s.1 c M.length) c) c M.length,s.2.1 + (if pv s.1 c M.length = c then 0 else 1),-1)
theorem Fd {M : List (List Qi)} {c : Nat} (h : 0 ≤ (cM M c).2.2) : ∀ {d : Nat}, c ≤ d → cM M d = cM M c
 | 0,hd=>by rw [show c = 0 by omega]
 | d + 1, hd => by
  by_cases e:c = d + 1
  ·rw [e]
  ·have := Fd h (d := d) zo
   simp only [cM,this]
   rw [if_pos h]
theorem uC (M:List (List Qi)) (c r:Nat):(redM M c r).length = M.length:=aD _ _
theorem Ln {M:List (List Qi)} {n m c r:Nat} (h:cF M n m):cF (redM M c r) n m:=by
 refine ⟨(uC _ _ _).trans h.1,fun x hx=>?_⟩
 obtain ⟨i,hi,rfl⟩:=gC.1 hx
 have hr:=h.row (i:=i) (by rw [← h.1]; exact hi)
 show (if c < i ∧ i < r then lT (dN M i) (dN M c) c (dN M i).length else dN M i).length = m
 split
 ·rw [lT,aD]; exact hr
 ·exact hr
theorem Bi {M:List (List Qi)} {n m p c:Nat} (h:cF M n m) (hp:p < n) (hc:c < n):cF (swp [] M p c) n m:=by
 refine ⟨(Bh _ _ _ _).trans h.1,fun x hx=>?_⟩
 unfold swp at hx
 rcases List.mem_or_eq_of_mem_set hx with h1 | h1
 ·rcases List.mem_or_eq_of_mem_set h1 with h2 | h2
  ·exact h.2 x h2
  ·rw [h2]; exact h.row hc
 ·rw [h1]; exact h.row hp
theorem pQ {M : List (List Qi)} {n m : Nat} (h : cF M n m) : ∀ {c : Nat}, c ≤ n → cF (cM M c).1 n m
 | 0,_=>h
 | c + 1, hc => by
  have ih:=pQ h (c:=c) zo
  obtain ⟨_,_,i3,_⟩:=nU (M:=(cM M c).1) (c:=c) (n:=M.length) (by rw [h.1]; omega)
  simp only [cM]
  split
  ·exact ih
  ·split
   ·exact ih
   ·rename_i e
    apply Ln
    split
    ·exact ih
    ·exact Bi ih (by rw [← h.1]; omega) zo
def mS (L : Nat) : Nat → Nat
 | 0=>L
 | c + 1=>6 * mS L c + 4
theorem pG (L : Nat) : ∀ {c d : Nat}, c ≤ d → mS L c ≤ mS L d
 | c,0,h=>by rw [show c = 0 by omega]; exact Nat.le_refl _
 | c, d + 1, h => by
  by_cases e:c = d + 1
  ·rw [e]; exact Nat.le_refl _
  ·have := pG L (c := c) (d := d) zo
   simp only [mS]; omega
theorem uU (L c:Nat):L ≤ mS L c:=pG L (Nat.zero_le c)
theorem Qg {rr rc:List Qi} {L c j:Nat} (h1:bP rr L) (h2:bP rc L) (hL:1 ≤ L) (hp:gv rc c ≠ Qi.zero):aE (gv rr j - gv rr c / gv rc c * gv rc j) (6 * L + 4):=by
 haveI f1:=h1.get hL j; haveI f2:=h1.get hL c; haveI f3:=h2.get hL c; haveI f4:=h2.get hL j
 haveI g:aE (gv rr c / gv rc c) (L + 3 * L + 2):=⟨f2.fit.div f3.fit hp⟩
 have:aE (gv rr j - gv rr c / gv rc c * gv rc j) (L + (L + 3 * L + 2 + L + 1) + 1):=inferInstance
 exact this.le zo
theorem a0s {rr rc : List Qi} {L c k : Nat} (h1 : bP rr L) (h2 : bP rc L) (hL : 1 ≤ L) (hp : gv rc c ≠ Qi.zero) : bP (lT rr rc c k) (6 * L + 4) := bP.tab fun j _ => by
 split
 ·exact Qg h1 h2 hL hp
 ·exact (h1.get hL j).le zo
theorem Lm {M : List (List Qi)} {L c r : Nat} (h : aN M L) (hL : 1 ≤ L) (hp : gm M c c ≠ Qi.zero) : aN (redM M c r) (6 * L + 4) := fun x hx => by
 obtain ⟨i,hi,rfl⟩:=gC.1 hx
 show bP (if c < i ∧ i < r then lT (dN M i) (dN M c) c (dN M i).length else dN M i) _
 split
 ·exact a0s (h.row i) (h.row c) hL hp
 ·exact (h.row i).le zo
theorem Ip {M : List (List Qi)} {L p c : Nat} (h : aN M L) : aN (swp [] M p c) L := fun x hx => by
 unfold swp at hx
 rcases List.mem_or_eq_of_mem_set hx with h1 | h1
 ·rcases List.mem_or_eq_of_mem_set h1 with h2 | h2
  ·exact h x h2
  ·rw [h2]; exact h.row c
 ·rw [h1]; exact h.row p
theorem zK {M:List (List Qi)} {p c:Nat} (hc:c < M.length):dN (swp [] M p c) c = dN M p:=by
 simp [dN,swp,List.getD,hc]
theorem Ce {M : List (List Qi)} {n m L : Nat} (hs : cF M n m) (h : aN M L) (hL : 1 ≤ L) : ∀ {c : Nat}, c ≤ n → aN (cM M c).1 (mS L c)
 | 0,_=>h
 | c + 1, hc => by
  have ih:=Ce hs h hL (c:=c) zo
  have hg:1 ≤ mS L c:=Nat.le_trans hL (uU L c)
  have sh:=pQ hs (c:=c) zo
  obtain ⟨_,i2,i3,i4⟩:=nU (M:=(cM M c).1) (c:=c) (n:=M.length) (by rw [hs.1]; omega)
  simp only [cM,mS]
  split
  ·exact ih.le zo
  ·split
   ·exact ih.le zo
   ·rename_i e
    split
    ·rename_i e2
     refine Lm ih hg ?_
     have:=i4 zo
     rw [e2] at this; exact this
    ·refine Lm (Ip ih) hg ?_
     show gv (dN (swp [] _ _ c) c) c ≠ _
     rw [zK (by rw [sh.1]; omega)]
     exact i4 zo
theorem Oj {rr rc:List Qi} {c:Nat}:rr = lT rr rc c (c + 1):=by
 unfold lT
 have:(tab rr.length fun j=>if c < j ∧ j < c + 1 then gv rr j - gv rr c / gv rc c * gv rc j else gv rr j) = tab rr.length (gv rr):=bT fun j _=>by rw [if_neg zo]
 rw [this]; exact Cn rfl
theorem xW (rr rc:List Qi) (c k:Nat):(lT rr rc c k).length = rr.length:=aD _ _
theorem Lo {rr rc:List Qi} {c k:Nat} (hk:k < rr.length) (h:c < k):gv (lT rr rc c k) k = gv rr k:=by
 rw [lT,kK hk,if_neg zo]
theorem Vb {rr rc:List Qi} {c k:Nat} (hk:k < rr.length) (h:c < k):(lT rr rc c k).set k (gv (lT rr rc c k) k - gv rr c / gv rc c * gv rc k) = lT rr rc c (k + 1):=by
 rw [Lo hk h]
 apply List.ext_getElem?
 intro j
 by_cases hj:j < rr.length
 ·by_cases e : j = k
  ·subst e
   rw [List.getElem?_set_self (by rw [xW]; exact hj),lT,cH hj,if_pos zo]
  ·rw [List.getElem?_set_ne (Ne.symm e), lT, lT, cH hj, cH hj]
   by_cases e2:c < j ∧ j < k
   ·rw [if_pos e2,if_pos zo]
   ·rw [if_neg e2,if_neg zo]
 ·rw [List.getElem?_eq_none (by rw [List.length_set,xW]; omega),List.getElem?_eq_none (by rw [xW]; omega)]
theorem Oi {M:List (List Qi)} {c:Nat}:M = redM M c (c + 1):=by
 unfold redM
 have:(tab M.length fun i=>if c < i ∧ i < c + 1 then lT (dN M i) (dN M c) c (dN M i).length else dN M i) = tab M.length (dN M):=bT fun i _=>by rw [if_neg zo]
 rw [this]; exact Di (h:=rfl)
theorem xV {M:List (List Qi)} {c r i:Nat} (hi:i < M.length) (h:¬ (c < i ∧ i < r)):dN (redM M c r) i = dN M i:=by
 simp only [dN,redM,List.getD]
 rw [cH hi,if_neg h]; rfl
theorem Va {M:List (List Qi)} {c r:Nat} (hr:r < M.length) (h:c < r):(redM M c r).set r (lT (dN M r) (dN M c) c (dN M r).length) = redM M c (r + 1):=by
 apply List.ext_getElem?
 intro j
 by_cases hj:j < M.length
 ·by_cases e : j = r
  ·subst e
   rw [List.getElem?_set_self (by rw [uC]; exact hj),redM,cH hj,if_pos zo]
  ·rw [List.getElem?_set_ne (Ne.symm e), redM, redM, cH hj, cH hj]
   by_cases e2:c < j ∧ j < r
   ·rw [if_pos e2,if_pos zo]
   ·rw [if_neg e2,if_neg zo]
 ·rw [List.getElem?_eq_none (by rw [List.length_set,uC]; omega),List.getElem?_eq_none (by rw [uC]; omega)]
theorem a0A {M:List (List Qi)} {r:Nat} {x y:List Qi}:(M.set r x).set r y = M.set r y:=List.set_set ..
theorem Dc {M:List (List Qi)} {r:Nat} {x:List Qi} (h:r < M.length):dN (M.set r x) r = x:=by simp [dN,List.getD,h]
theorem vD {M:List (List Qi)} {r i:Nat} {x:List Qi} (h:r ≠ i):dN (M.set r x) i = dN M i:=by simp [dN,List.getD,List.getElem?_set_ne h]
theorem a5c {M:List (List Qi)} {r:Nat} (h:r < M.length):M.set r (dN M r) = M:=by
 apply List.ext_getElem?
 intro j
 by_cases e:j = r
 ·subst e; rw [List.getElem?_set_self h]; simp [dN,List.getD,h]
 ·rw [List.getElem?_set_ne (Ne.symm e)]
theorem a0I {X : List (List Qi)} {r c k : Nat} (hr : r < X.length) (hne : r ≠ c) (hk : k < (dN X r).length) (hck : c < k) :
  (X.set r (lT (dN X r) (dN X c) c k)).set r ((dN (X.set r (lT (dN X r) (dN X c) c k)) r).set k (gm (X.set r (lT (dN X r) (dN X c) c k)) r k - gm X r c / gm X c c * gm (X.set r (lT (dN X r) (dN X c) c k)) c k)) = X.set r (lT (dN X r) (dN X c) c (k + 1)):=by
 rw [a0A,Dc hr]
 have e1:gm (X.set r (lT (dN X r) (dN X c) c k)) r k = gv (lT (dN X r) (dN X c) c k) k:=by show gv (dN (X.set r _) r) k = _; rw [Dc hr]
 have e2:gm (X.set r (lT (dN X r) (dN X c) c k)) c k = gv (dN X c) k:=by show gv (dN (X.set r _) c) k = _; rw [vD hne]
 rw [e1,e2]
 exact congrArg _ (Vb hk hck)
theorem a0J {D:List (List Qi)} {r c:Nat} (hr:r < D.length) (hc:c < r):(redM D c r).set r (lT (dN (redM D c r) r) (dN (redM D c r) c) c (dN D r).length) = redM D c (r + 1):=by
 rw [xV hr zo,xV zo zo]
 exact Va hr hc
theorem a5Z {X:List (List Qi)} {r c k:Nat} (hr:r < X.length) (hk:k < (dN X r).length) (hck:c < k):gm (X.set r (lT (dN X r) (dN X c) c k)) r k = gv (dN X r) k:=by
 show gv (dN (X.set r _) r) k = _; rw [Dc hr,Lo hk hck]
theorem a5Y {X:List (List Qi)} {r c k:Nat} {y:List Qi} (hne:r ≠ c):gm (X.set r y) c k = gv (dN X c) k:=by show gv (dN (X.set r _) c) k = _; rw [vD hne]
theorem Tv {M A:List (List Qi)} {n c sw p:Nat} (hl:M.length = n) (h:cM M c = (A,sw,-1)) (hp:pv A c n = p) (hpn:p < n):cM M (c + 1) = (redM (if p = c then A else swp [] A p c) c n,sw + (if p = c then 0 else 1),-1):=by
 simp only [cM,h,hl,hp]
 rw [if_neg (by decide),if_neg zo]
theorem Yp {M A:List (List Qi)} {n c sw:Nat} (hl:M.length = n) (h:cM M c = (A,sw,-1)) (hp:pv A c n = n) (hc:c < n):cM M n = (A,sw,(c:Int)):=by
 have e : cM M (c + 1) = (A, sw, (c : Int)) := by
  simp only [cM,h,hl,hp]
  rw [if_neg (by decide)]; simp
 rw [Fd (c:=c + 1) (by rw [e]; show (0:Int) ≤ (c:Int); omega) hc,e]
end
section
open Go Go.RowKit
theorem Ed (v : Value) (w : World) : (method (Tryz.prog.types.size + Made.depth) 60 v "Clear").run Tryz.prog w = .ok (82, v) w := by kernel_rfl
end
section
open Go Go.RowKit
theorem a1i {M:List (List Qi)} {n m G B:Nat} (hs:cF M n m) (hstg:∀ c,c ≤ n → aN (cM M c).1 G) (hG1:1 ≤ G) (hg:6 * G + 4 ≤ 17592186044415) (hnm:n ≤ m) (hm:m ≤ 1000):fN Tryz.prog 221 [Is (.slice (some ⟨B,0,none⟩) n n)] [lQ B 25 60 5 (bM aF M)] (Unit) (fun _=>eD [NT .i64 (cM M n).2.1,aP .i64 (cM M n).2.2]) (fun _=>[lQ B 25 60 5 (bM aF (cM M n).1)]) (fun _=>True):=by
 have hs1:=hs.1
 refine fN.intro Tryz.func221 rfl Tryz.ntmps221 rfl (fun cx Z=>(ts (ro rfl (cQ (cJ 0)) (ro rfl (cQ (cJ 0)) (eX (ts (ro rfl (cQ (cJ 0)) (eX (cK (ts (rm rfl (ro rfl (eT U_26 (Ht rfl)) (ro rfl (cX (cJ 0)) (eX (eG (Gh 1 rfl (fun vs hvs=>?_)))))))))))))))))
 have hvs2:Hds vs n:=by have h:=hvs; rw [List.length_map,hs1] at h; exact h
 refine Gg (fun (c : Nat) (sw : Nat) (vs : List Value) (A : List (List Qi)) => (c ≤ n ∧ sw ≤ c) ∧ cM M c = (A, sw, -1) ∧ Hds vs n) (fun (c : Nat) (sw : Nat) (vs : List Value) (A : List (List Qi)) => n - c) (fun (c : Nat) (sw : Nat) (vs : List Value) (A : List (List Qi)) => [(0, Is (.slice (some ⟨B, 0, none⟩) n n)), (4, NT .i64 sw), (12, NT .i64 n), (13, NT .i64 c)]) (fun (c : Nat) (sw : Nat) (vs : List Value) (A : List (List Qi)) => [Z, jL B 25 60 5 vs vs (bM aF A)]) 0 0 vs M ⟨⟨Nat.zero_le _, Nat.le_refl _⟩, rfl, hvs2⟩
  (zS rfl) (dR.refl _) (fun c sw vs A ⟨⟨hc,hsw⟩,hA,hvs⟩=>?_)
 refine ts (ro rfl (gX (Ht rfl) (Ht rfl)) (eX (cK (dQ (Ht rfl) (fun hcn=>?_) (fun hcn=>?_)))))
 ·simp only [decide_eq_true_eq] at hcn
  have hvl:=hvs.len
  have hAs:cF A n m:=by have h:=pQ hs hc; rw [hA] at h; exact h
  have hAf:aN A G:=by have h:=hstg c hc; rw [hA] at h; exact h
  have hAl:=hAs.1
  refine cU (cK (eG (ts (rm rfl (ra rfl (eX (ts (rm rfl (ra rfl (eX (cK (eG ?_))))))))))))
  refine cA (fun (p : Nat) => (c ≤ p ∧ p ≤ n) ∧ ∀ r, c ≤ r → r < p → gm A r c = Qi.zero) (fun (p : Nat) => n - p) (fun (p : Nat) => [(0, Is (.slice (some ⟨B, 0, none⟩) n n)), (4, NT .i64 sw), (5, NT .i64 c), (6, NT .i64 p), (12, NT .i64 n), (13, NT .i64 c)]) (fun (p : Nat) => [Z, jL B 25 60 5 vs vs (bM aF A)]) c ⟨⟨Nat.le_refl _, hc⟩, fun r h1 h2 => by omega⟩
   (zS rfl) (dR.refl _) (fun p ⟨⟨hcp,hpn⟩,hz⟩=>?_)
  haveI fp:aE (gm A p c) G:=hAf.get hG1 p c
  refine cK (ts (rm rfl (rm rfl (ro rfl (eT U_26 (Ht rfl)) (ro rfl (gX (Ht rfl) (Ht rfl)) (rm rfl (fQ rfl rfl (eK rfl rfl (Ht rfl) (fun h=>cX (Ht rfl))) (fQ rfl rfl (eK rfl rfl (Ht rfl) (fun h=>cX (Ht rfl))) (fQ rfl rfl (eK rfl rfl (Ht rfl) (fun h=>fY U_26 Z_25 (fJ rfl h) (fJ rfl h) rfl (by first | omega | (simp at h; omega)) (by rw [Nat.mul_one,Nat.zero_add]))) ?_)))))))))
  refine fQ rfl rfl (eK rfl rfl (Ht rfl) (fun h=>fE A_25 Z_25 (fJ rfl h) (j:=1) rfl (by simp at h; omega))) ?_
  refine fQ rfl rfl (eK rfl rfl (Ht rfl) (fun h=>cX (Ht rfl))) (fQ rfl rfl (eK rfl rfl (Ht rfl) (fun h=>gH U_25 Z_60 (fJ rfl h) (fJ rfl h) rfl (j:=1) rfl zo (by simp at h; omega) (by simp at h; rw [hAs.row h]; omega))) ?_)
  refine fQ rfl rfl (eK rfl rfl (Ht rfl) (fun h=>kA A_60 Z_60 (fJ rfl h) (j:=1) rfl zo (by simp at h; omega) (by simp at h; rw [hAs.row h]; omega))) ?_
  refine fQ rfl rfl (eK rfl rfl (Ht rfl) (fun h=>aT bD (fJ rfl h))) (fQ rfl rfl (eK rfl rfl (Ht rfl) (fun h=>aL Ed Tryz.call82 (wU (x:=gm A p c) (L:=G) zo) (fJ rfl h) trivial)) (fQ rfl rfl (eK rfl rfl (Ht rfl) (fun h=>dH (fJ rfl h))) (ro rfl (fC (Ht rfl) (fun h=>(fJ rfl h))) (eX (dQ (Ht rfl) (fun he=>?_) (fun he=>?_))))))
  ·have he2 : p < n ∧ gm A p c = Qi.zero := by simpa using he
   refine cU (eG (cY (rm rfl (ro rfl (dV (Ht rfl) (cJ 1) z6) (ra rfl (eX (bL ?_)))))))
   refine fU (p + 1) ⟨⟨by omega, by omega⟩, fun r h1 h2 => by
     by_cases e:r = p
     ·rw [e]; exact he2.2
     ·exact hz r h1 zo⟩ zo (zS rfl) (dR.refl _)
  ·have hpv : pv A c n = p := a6h hcp hpn hz (fun h => by simp at he; exact he h)
   refine gW rfl (cK (ts (rm rfl (rm rfl (ro rfl (eT U_26 (Ht rfl)) (ro rfl (eB (Ht rfl) (Ht rfl)) (eX (dQ (Ht rfl) (fun hp=>?_) (fun hp=>?_)))))))))
   ·have hp2 : p = n := by simpa using hp
    have hend:=Yp hs1 hA (by rw [hpv]; exact hp2) hcn
    refine ts (rm rfl (rm rfl (ra rfl (ra rfl (eX ?_)))))
    exact iO () trivial [0,1] ⟨⟨_,rfl,fun _ _ _ h=>h⟩,⟨_,rfl,(fun S w V h=>bI (by rw [hend]) S w V (Cq (by rw [List.length_map]; omega) S w V h))⟩,trivial⟩ (by decide) (Vd rfl (fX (eU rfl) (lX (by rw [hend]))) (fX (eU rfl) (bE (by rw [hend]))))
   ·have hp2 : p < n := by simp at hp; omega
    have hpz:=(nU (M:=A) (c:=c) (n:=n) hc).2.2.2 (by rw [hpv]; exact hp2)
    rw [hpv] at hpz
    have hnx:=Tv hs1 hA hpv hp2
    refine cU (cK (a16 (fun (q:Nat) (us:List Value) (D:List (List Qi))=>(q = sw + (if p = c then 0 else 1) ∧ D = (if p = c then A else swp [] A p c)) ∧ Hds us n) (fun (q:Nat) (us:List Value) (D:List (List Qi))=>[(0,Is (.slice (some ⟨B,0,none⟩) n n)),(4,NT .i64 q),(5,NT .i64 c),(12,NT .i64 n),(13,NT .i64 c)]) (fun (q:Nat) (us:List Value) (D:List (List Qi))=>[Z,jL B 25 60 5 us us (bM aF D)]) ?_ (fun q us D ⟨⟨hq,hD⟩,hus⟩=>?_)))
    ·refine ts (rm rfl (rm rfl (ro rfl (kN (Ht rfl) (Ht rfl)) (eX (dQ (Ht rfl) (fun hpc => ?_) (fun hpc => ?_))))))
     ·have hpc2 : ¬ p = c := by simpa using hpc
      refine cK (Y.D_start (m:=14) [(13,1,jL B 25 60 5 (vs.set p (hd vs c)) vs (bM aF A))] (Y.D_step (Ei:=[(0,_)]) rfl rfl (bQ (bJ rfl rfl) bX) rfl rfl (by kernel_rfl) (dX rfl (cX (Ht rfl))) (Y.D_step (Ei:=[(6,_)]) rfl rfl (bQ (bJ rfl rfl) bX) rfl rfl (by kernel_rfl) (dX rfl (cX (Ht rfl))) (bY (Ei:=[(0,_)]) rfl rfl (bQ (bJ rfl rfl) bX) rfl rfl (dX rfl (cX (Ht rfl))) (bY (Ei:=[(5,_)]) rfl rfl (bQ (bJ rfl rfl) bX) rfl rfl (dX rfl (cX (Ht rfl))) ?_)))))
      refine Y.D_step (Ei:=[(0,_)]) rfl rfl (bQ (bJ rfl rfl) bX) rfl rfl (by kernel_rfl) (dX rfl (cX (Ht rfl))) (Y.D_step (Ei:=[(5,_)]) rfl rfl (bQ (bJ rfl rfl) bX) rfl rfl (by kernel_rfl) (dX rfl (cX (Ht rfl))) (Y.D_step (Ei:=[(48,_),(49,_)]) rfl rfl (bQ (bZ 4 rfl rfl) (bQ (bZ 5 rfl rfl) bX)) rfl rfl (by kernel_rfl) (dX rfl (fY U_26 Z_25 (Ht rfl) (Ht rfl) rfl zo (by rw [Nat.mul_one,Nat.zero_add]))) ?_))
      refine Y.D_step (Ei:=[(50,_)]) rfl rfl (bQ (bZ 6 rfl rfl) bX) rfl rfl (by kernel_rfl) (dX rfl (fE A_25 Z_25 (Ht rfl) (j:=1) rfl zo)) (Y.D_step (Ei:=[(0,_)]) rfl rfl (bQ (bJ rfl rfl) bX) rfl rfl (by kernel_rfl) (dX rfl (cX (Ht rfl))) (Y.D_step (Ei:=[(6,_)]) rfl rfl (bQ (bJ rfl rfl) bX) rfl rfl (by kernel_rfl) (dX rfl (cX (Ht rfl))) (Y.D_step (Ei:=[(52,_),(53,_)]) rfl rfl (bQ (bZ 8 rfl rfl) (bQ (bZ 9 rfl rfl) bX)) rfl rfl (by kernel_rfl) (dX rfl (fY U_26 Z_25 (Ht rfl) (Ht rfl) rfl zo (by rw [Nat.mul_one,Nat.zero_add]))) ?_)))
      refine Y.D_step (Ei:=[(54,_)]) rfl rfl (bQ (bZ 10 rfl rfl) bX) rfl rfl (by kernel_rfl) (dX rfl (fE A_25 Z_25 (Ht rfl) (j:=1) rfl zo)) (Y.D_step (Ei:=[(44,_),(45,_)]) rfl rfl (bQ (bZ 0 rfl rfl) (bQ (bZ 1 rfl rfl) bX)) rfl rfl (by kernel_rfl) (dX rfl (fY U_26 Z_25 (Ht rfl) (Ht rfl) rfl zo (by rw [Nat.mul_one,Nat.zero_add]))) ?_)
      refine Y.D_putI (Ei:=[(56,_),(51,_)]) 1 rfl rfl rfl (bQ (bZ 12 rfl rfl) (bQ (bZ 7 rfl rfl) bX)) (.head _) rfl (Wd Z_25 (Ht rfl) (Ht rfl) (hvs.pl c zo) (i:=p) (hs:=vs) zo) (Y.D_done bC rfl (by kernel_rfl) rfl (by simp [Y.okP]) rfl rfl (bU (bU (bU (bU (bU (bU (bU (bU (bU (bU (bU (bU (bU (Y.F_putI (Y.F_nil ?_))))))))))))))))
      refine ro rfl (fY U_26 Z_25 (Ht rfl) (Ht rfl) rfl zo (by rw [Nat.mul_one,Nat.zero_add])) ?_
      refine a3L Z_25 (Ht rfl) (Ht rfl) (j:=1) rfl (hvs.pl p zo) (by rw [List.length_set]; omega) rfl ?_
      refine eX (mU 1 rfl (Uj (hs:=swp Hz vs p c) (p:=p) (c:=c) zo zo zo) (cY (rm rfl (ro rfl (dV (Ht rfl) (cJ 1) z6) (ra rfl (eX (cD (sw + 1,swp Hz vs p c,swp [] A p c) ⟨⟨by rw [if_neg hpc2],by rw [if_neg hpc2]⟩,hvs.swp hp2 hcn⟩ (zS rfl) (dR.refl _))))))))
     ·have hpc2 : p = c := by simpa using hpc
      refine cU (cD (sw,vs,A) ⟨⟨by rw [if_pos hpc2]; rfl,by rw [if_pos hpc2]⟩,hvs⟩ (zS rfl) (dR.refl _))
    ·have hul := hus.len
     rw [← hq,← hD] at hnx
     have hDs:cF D n m:=by rw [hD]; split; exact hAs; exact Bi hAs hp2 hcn
     have hDf:aN D G:=by rw [hD]; split; exact hAf; exact Ip hAf
     have hDl:=hDs.1
     have hDz : gm D c c ≠ Qi.zero := by
      rw [hD]; split
      ·rename_i e; rw [e] at hpz; exact hpz
      ·show gv (dN (swp [] A p c) c) c ≠ _
       rw [zK zo]; exact hpz
     refine ts (rm rfl (ro rfl (dV (Ht rfl) (cJ 1) z6) (ra rfl (eX (eG ?_)))))
     refine cA (fun (r : Nat) => c < r ∧ r ≤ n) (fun (r : Nat) => n - r) (fun (r : Nat) => [(0, Is (.slice (some ⟨B, 0, none⟩) n n)), (4, NT .i64 q), (5, NT .i64 c), (7, NT .i64 r), (12, NT .i64 n), (13, NT .i64 c)]) (fun (r : Nat) => [Z, jL B 25 60 5 us us (bM aF (redM D c r))]) (c + 1) ⟨Nat.lt_succ_self _, hcn⟩
      (zS rfl) (aU (fun _ _ _ h=>h) (aU (oY (congrArg _ Oi)) aY)) (fun r ⟨hcr,hrn⟩=>?_)
     refine cK (ts (rm rfl (rm rfl (ro rfl (eT U_26 (Ht rfl)) (ro rfl (gX (Ht rfl) (Ht rfl)) (eX (dQ (Ht rfl) (fun hr=>?_) (fun hr=>?_))))))))
     ·simp only [decide_eq_true_eq] at hr
      obtain ⟨X,hX⟩:∃ X,X = redM D c r:=⟨_,rfl⟩
      have hXr:dN X r = dN D r:=by rw [hX]; exact xV zo zo
      have hXc:dN X c = dN D c:=by rw [hX]; exact xV zo zo
      have hXl:X.length = n:=by rw [hX,uC]; exact hDl
      have hXrl:(dN X r).length = m:=by rw [hXr]; exact hDs.row hr
      have hXcl:(dN X c).length = m:=by rw [hXc]; exact hDs.row hcn
      have hXrg:(X.getD r []).length = m:=hXrl
      have hXcg:(X.getD c []).length = m:=hXcl
      have hXfr:bP (dN X r) G:=by rw [hXr]; exact hDf.row r
      have hXfc:bP (dN X c) G:=by rw [hXc]; exact hDf.row c
      haveI g1:aE (gm X r c) G:=hXfr.get hG1 c
      haveI g2:aE (gm X c c) G:=hXfc.get hG1 c
      have hXz:gm X c c ≠ Qi.zero:=by show gv (dN X c) c ≠ _; rw [hXc]; exact hDz
      haveI g3:aE (gm X r c / gm X c c) (G + 3 * G + 2):=⟨g1.fit.div g2.fit hXz⟩
      have hend:=a0J (D:=D) (r:=r) (c:=c) zo hcr
      rw [← hX] at hend ⊢
      refine cU (cK (eG (cK (Y.D_start (m:=21) [] (bY (Ei:=[(0,_)]) rfl rfl (bQ (bJ rfl rfl) bX) rfl rfl (dX rfl (cX (Ht rfl))) (bY (Ei:=[(7,_)]) rfl rfl (bQ (bJ rfl rfl) bX) rfl rfl (dX rfl (cX (Ht rfl))) (bY (Ei:=[(69,_),(70,_)]) rfl rfl (bQ (bZ 0 rfl rfl) (bQ (bZ 1 rfl rfl) bX)) rfl rfl (dX rfl (fY U_26 Z_25 (Ht rfl) (Ht rfl) rfl zo (by rw [Nat.mul_one,Nat.zero_add]))) ?_)))))))
      refine bY (Ei:=[(71,_)]) rfl rfl (bQ (bZ 2 rfl rfl) bX) rfl rfl (dX rfl (fE A_25 Z_25 (Ht rfl) (j:=1) rfl zo)) (bY (Ei:=[(5,_)]) rfl rfl (bQ (bJ rfl rfl) bX) rfl rfl (dX rfl (cX (Ht rfl))) (bY (Ei:=[(72,_),(73,_)]) rfl rfl (bQ (bZ 3 rfl rfl) (bQ (bZ 4 rfl rfl) bX)) rfl rfl (dX rfl (gH U_25 Z_60 (Ht rfl) (Ht rfl) rfl (j:=1) rfl zo zo zo)) (bY (Ei:=[(74,_)]) rfl rfl (bQ (bZ 5 rfl rfl) bX) rfl rfl (dX rfl (kA A_60 Z_60 (Ht rfl) (j:=1) rfl zo zo zo)) ?_)))
      refine bY (Ei:=[(75,_)]) rfl rfl (bQ (bZ 6 rfl rfl) bX) rfl rfl (dX rfl (aT bD (Ht rfl))) (bY (Ei:=[(0,_)]) rfl rfl (bQ (bJ rfl rfl) bX) rfl rfl (dX rfl (cX (Ht rfl))) (bY (Ei:=[(5,_)]) rfl rfl (bQ (bJ rfl rfl) bX) rfl rfl (dX rfl (cX (Ht rfl))) (bY (Ei:=[(77,_),(78,_)]) rfl rfl (bQ (bZ 8 rfl rfl) (bQ (bZ 9 rfl rfl) bX)) rfl rfl (dX rfl (fY U_26 Z_25 (Ht rfl) (Ht rfl) rfl zo (by rw [Nat.mul_one,Nat.zero_add]))) ?_)))
      refine bY (Ei:=[(79,_)]) rfl rfl (bQ (bZ 10 rfl rfl) bX) rfl rfl (dX rfl (fE A_25 Z_25 (Ht rfl) (j:=1) rfl zo)) (bY (Ei:=[(5,_)]) rfl rfl (bQ (bJ rfl rfl) bX) rfl rfl (dX rfl (cX (Ht rfl))) (bY (Ei:=[(80,_),(81,_)]) rfl rfl (bQ (bZ 11 rfl rfl) (bQ (bZ 12 rfl rfl) bX)) rfl rfl (dX rfl (gH U_25 Z_60 (Ht rfl) (Ht rfl) rfl (j:=1) rfl zo zo zo)) (bY (Ei:=[(82,_)]) rfl rfl (bQ (bZ 13 rfl rfl) bX) rfl rfl (dX rfl (kA A_60 Z_60 (Ht rfl) (j:=1) rfl zo zo zo)) ?_)))
      refine bY (Ei:=[(76,_),(83,_)]) rfl rfl (bQ (bZ 7 rfl rfl) (bQ (bZ 14 rfl rfl) bX)) rfl rfl (dX rfl (aL mO K_64 (vW (x:=gm X r c) (y:=gm X c c) (L:=G) (M:=G) zo) (Ht rfl) ⟨(Ht rfl),trivial⟩)) (bY (Ei:=[(84,_)]) rfl rfl (bQ (bZ 15 rfl rfl) bX) rfl rfl (dX rfl (cX (Ht rfl))) (bY (Ei:=[(68,_)]) rfl rfl (bQ (bZ 16 rfl rfl) bX) rfl rfl (dX rfl (dK (Ht rfl) rfl)) (bY (Ei:=[(68,_)]) rfl rfl (bQ (bZ 16 rfl rfl) bX) rfl rfl (dX rfl (dK (Ht rfl) rfl)) ?_)))
      refine Y.D_newp (Ei:=[]) (fun bb=>box bb 60 [aH (decide ((gm X r c / gm X c c).a < 0)),bA (gm X r c / gm X c c).a.natAbs,aH (decide ((gm X r c / gm X c c).b < 0)),bA (gm X r c / gm X c c).b.natAbs,bA (du (gm X r c / gm X c c))]) 20 rfl rfl rfl bX rfl rfl (by kernel_rfl) (eW (Ts:=[Is (.bool false),Is (.slice none 0 0),Is (.bool false),Is (.slice none 0 0),Is (.slice none 0 0)]) O_60 rfl (fun V=>aW zd (aW zd (aW zd (aW zd (aW zd (aG))))))) ?_
      refine Y.D_putN (Ei:=[(85,_)]) 19 rfl rfl rfl rfl rfl rfl (bQ (bZ 17 rfl rfl) bX) (fun bb=>tJ Z_60 (Ht rfl) (Ht rfl) rfl (i:=0) rfl (aK rfl) rfl rfl) (Y.D_done bC rfl (by kernel_rfl) rfl (by simp [Y.okP]) rfl rfl (bU (bU (bU (bU (bU (bU (bU (bU (bU (bU (bU (bU (bU (bU (bU (bU (bU (bU (bU (Y.F_newp (fun B8=>Y.F_putN (Y.F_nil ?_)))))))))))))))))))))))
      refine ra rfl (eX (ts (rm rfl (ro rfl (dV (Ht rfl) (cJ 1) z6) (ra rfl (eX (eG ?_)))))))
      refine cA (fun (k : Nat) => c < k ∧ k ≤ m) (fun (k : Nat) => m - k) (fun (k : Nat) => [(0, Is (.slice (some ⟨B, 0, none⟩) n n)), (4, NT .i64 q), (5, NT .i64 c), (7, NT .i64 r), (8, bO B8 0), (10, NT .i64 k), (12, NT .i64 n), (13, NT .i64 c)]) (fun (k : Nat) => [Z, jL B 25 60 5 us us (bM aF (X.set r (lT (dN X r) (dN X c) c k))), box B8 60 [aH (decide ((gm X r c / gm X c c).a < 0)), bA (gm X r c / gm X c c).a.natAbs, aH (decide ((gm X r c / gm X c c).b < 0)), bA (gm X r c / gm X c c).b.natAbs, bA (du (gm X r c / gm X c c))]]) (c + 1) ⟨Nat.lt_succ_self _, by omega⟩
       (zS rfl) (aU (fun _ _ _ h=>h) (aU (oY (by rw [← Oj,a5c zo])) (aU (aA rfl) aY))) (fun k ⟨hck,hkm⟩=>?_)
      obtain ⟨Y,hY⟩:∃ Y,Y = (X.set r (lT (dN X r) (dN X c) c k)):=⟨_,rfl⟩
      have hYl:Y.length = n:=by rw [hY,List.length_set]; exact hXl
      have hYrl:(dN Y r).length = m:=by rw [hY,Dc zo,xW]; exact hXrl
      have hYcl:(dN Y c).length = m:=by rw [hY,vD zo]; exact hXcl
      have hYrg:(Y.getD r []).length = m:=hYrl
      have hYcg:(Y.getD c []).length = m:=hYcl
      rw [← hY]
      refine cK (ts (rm rfl (rm rfl (rm rfl (ro rfl (fY U_26 Z_25 (Ht rfl) (Ht rfl) rfl zo (by rw [Nat.mul_one,Nat.zero_add])) ?_)))))
      refine ro rfl (fE A_25 Z_25 (Ht rfl) (j:=1) rfl zo) (ro rfl (a2H U_25 (Ht rfl) (j:=1) rfl zo zo) (ro rfl (gX (Ht rfl) (Ht rfl)) (eX (dQ (Ht rfl) (fun hk=>?_) (fun hk=>?_)))))
      ·have hk2 : k < m := by simp only [decide_eq_true_eq] at hk; omega
       have e1:gm Y r k = gv (dN X r) k:=by rw [hY]; exact a5Z zo zo hck
       have e2:gm Y c k = gv (dN X c) k:=by rw [hY]; exact a5Y zo
       haveI y1:aE (gm Y r k) G:=by rw [e1]; exact hXfr.get hG1 k
       haveI y2:aE (gm Y c k) G:=by rw [e2]; exact hXfc.get hG1 k
       have hst:=a0I (X:=X) (r:=r) (c:=c) (k:=k) zo zo zo hck
       rw [← hY] at hst
       refine cU (cK (eG (fZ (m:=24) (dp 0 rfl (cX (Ht rfl)) (dp 7 rfl (cX (Ht rfl)) (cP 98 0 99 1 rfl (fY U_26 Z_25 (Ht rfl) (Ht rfl) rfl zo (by rw [Nat.mul_one,Nat.zero_add])) ?_))))))
       refine dq 100 2 rfl (fE A_25 Z_25 (Ht rfl) (j:=1) rfl zo) (dp 10 rfl (cX (Ht rfl)) (dp 0 rfl (cX (Ht rfl)) (dp 7 rfl (cX (Ht rfl)) (cP 103 5 104 6 rfl (fY U_26 Z_25 (Ht rfl) (Ht rfl) rfl zo (by rw [Nat.mul_one,Nat.zero_add])) ?_))))
       refine dq 105 7 rfl (fE A_25 Z_25 (Ht rfl) (j:=1) rfl zo) (dp 10 rfl (cX (Ht rfl)) (cP 106 8 107 9 rfl (gH U_25 Z_60 (Ht rfl) (Ht rfl) rfl (j:=1) rfl zo zo zo) (dq 108 10 rfl (kA A_60 Z_60 (Ht rfl) (j:=1) rfl zo zo zo) (dq 109 11 rfl (aT bD (Ht rfl)) (dp 8 rfl (eJ A_60 Z_60 (Ht rfl) (i:=2) rfl rfl rfl) (dq 111 13 rfl (aT bD (Ht rfl)) (dp 0 rfl (cX (Ht rfl)) (dp 5 rfl (cX (Ht rfl)) (cP 113 15 114 16 rfl (fY U_26 Z_25 (Ht rfl) (Ht rfl) rfl zo (by rw [Nat.mul_one,Nat.zero_add])) ?_)))))))))
       refine dq 115 17 rfl (fE A_25 Z_25 (Ht rfl) (j:=1) rfl zo) (dp 10 rfl (cX (Ht rfl)) (cP 116 18 117 19 rfl (gH U_25 Z_60 (Ht rfl) (Ht rfl) rfl (j:=1) rfl zo zo zo) (dq 118 20 rfl (kA A_60 Z_60 (Ht rfl) (j:=1) rfl zo zo zo) (cP 112 14 119 21 rfl (aL cB K_70 (iF (x:=gm X r c / gm X c c) (y:=gm Y c k) (L:=G + 3 * G + 2) (M:=G) zo) (Ht rfl) ⟨(Ht rfl),trivial⟩) (cP 110 12 120 22 rfl (aL iA K_69 (qC (x:=gm Y r k) (y:=gm X r c / gm X c c * gm Y c k) (L:=G) (M:=G + 3 * G + 2 + G + 1) zo) (Ht rfl) ⟨(Ht rfl),trivial⟩) ?_)))))
       refine fV bC rfl (by kernel_rfl) (zF (zF (zF (zF (zF (zF (aV (ro rfl (gH U_25 Z_60 (Ht rfl) (Ht rfl) rfl (j:=1) rfl zo zo zo) (a3k Z_60 (Ht rfl) (Ht rfl) (j:=1) rfl (El.ag rfl) (F:=aF) (z:=gm Y r k - gm X r c / gm X c c * gm Y c k) zo zo zo rfl (eX (bL (cY ?_))))))))))))
       refine rm rfl (ro rfl (dV (Ht rfl) (cJ 1) z6) (ra rfl (eX (fU (k + 1) ⟨by omega,hk2⟩ zo (zS rfl) (aU (fun _ _ _ h=>h) (aU (oY (congrArg _ hst)) (aU (aA rfl) aY)))))))
      ·have hk3 : k = m := by simp only [decide_eq_false_iff_not] at hk; omega
       subst hk3
       refine gW rfl (bL (cY (rm rfl (ro rfl (dV (Ht rfl) (cJ 1) z6) (ra rfl (eX (bS [0,1] rfl (by decide) (fU (r + 1) ⟨by omega,hr⟩ zo (zS rfl) (aU (fun _ _ _ h=>h) (aU (oY (by rw [hY,← hend,hDs.row hr])) aY))))))))))
     ·simp only [decide_eq_false_iff_not] at hr
      obtain rfl:r = n:=Nat.le_antisymm hrn zo
      refine gW rfl (bL (cY (ro rfl (dV (Ht rfl) (cJ 1) z6) (rm rfl (eX (fU (c + 1,q,us,redM D c r) ⟨⟨hcn,by show q ≤ c + 1; rw [hq]; split <;> omega⟩,hnx,hus⟩ (by dsimp only; omega) (zS rfl) (dR.refl _)))))))
 ·simp only [decide_eq_false_iff_not] at hcn
  obtain rfl:c = n:=Nat.le_antisymm hc zo
  have hvl:=hvs.len
  have hAs:cF A c m:=by have h:=pQ hs hc; rw [hA] at h; exact h
  refine gW rfl (ts (rm rfl (ra rfl (ro rfl (cQ cV) (eX ?_)))))
  exact iO () trivial [0,1] ⟨⟨_,rfl,fun _ _ _ h=>h⟩,⟨_,rfl,(fun S w V h=>bI (by rw [hA]) S w V (Cq (by rw [List.length_map,hAs.1]; exact hvl) S w V h))⟩,trivial⟩ (by decide) (Vd rfl (fX (eU rfl) (lX (by rw [hA]))) (fX (eU rfl) (bE (by rw [hA]))))
end
section
open Go Go.RowKit
abbrev Jv (M bs:List (List Qi)) (i:Nat):List Qi:=dN M i ++ bs.map fun b=>gv b i
def kF (M bs:List (List Qi)) (n:Nat):List (List Qi):=tab n (Jv M bs)
theorem a1C {r:List Qi} {bs:List (List Qi)} {i j:Nat} (h:j < bs.length):(r ++ (bs.take j).map fun b=>gv b i) ++ [gv (bs.getD j []) i] = r ++ (bs.take (j + 1)).map fun b=>gv b i:=by
 rw [List.append_assoc,List.take_add_one,List.map_append]
 simp [List.getD,h]
theorem lJ {M bs:List (List Qi)} {n m:Nat} (h:cF M n m):cF (kF M bs n) n (m + bs.length):=by
 refine ⟨aD _ _,fun r hr=>?_⟩
 obtain ⟨i,hi,rfl⟩:=gC.1 hr
 rw [List.length_append,List.length_map,h.row hi]
theorem uQ {M bs : List (List Qi)} {n L : Nat} (h : aN M L) (hb : aN bs L) (hL : 1 ≤ L) : aN (kF M bs n) L := fun r hr x hx => by
 obtain ⟨i,hi,rfl⟩:=gC.1 hr
 rcases List.mem_append.1 hx with h1 | h1
 ·exact h.row i x h1
 ·obtain ⟨b, hb1, rfl⟩ := List.mem_map.1 h1
  exact bP.get (hb b hb1) hL i
theorem Tl {M:List (List Qi)} {n m:Nat} (h:cF M n m):kF M [] n = M:=by
 have:kF M [] n = tab n (dN M):=bT fun i _=>by simp [Jv]
 rw [this]; exact (Di (h:=h.1)).symm
def oK (U : List (List Qi)) (x : List Qi) (n c : Nat) : Nat → Qi
 | 0=>gm U c n
 | k + 1=>oK U x n c k - gm U c (c + 1 + k) * gv x (c + 1 + k)
def nQ (U : List (List Qi)) (n : Nat) : Nat → List Qi
 | 0=>tab n fun _=>Qi.zero
 | j + 1=>(nQ U n j).set (n - (j + 1)) (oK U (nQ U n j) n (n - (j + 1)) j / gm U (n - (j + 1)) (n - (j + 1)))
theorem uO (U : List (List Qi)) (n : Nat) : ∀ j, (nQ U n j).length = n
 | 0=>aD _ _
 | j + 1=>by rw [nQ,List.length_set,uO U n j]
def qX (M:List (List Qi)) (b:List Qi) (n:Nat):List (List Qi) × Nat × Int:=cM (kF M [b] n) n
def jF (M:List (List Qi)) (b:List Qi) (n:Nat):Int:=if 0 ≤ (qX M b n).2.2 then 6 else 0
def iY (M:List (List Qi)) (b:List Qi) (n:Nat):List Qi:=nQ (qX M b n).1 n n
def zM (G : Nat) : Nat → Nat
 | 0=>G
 | j + 1=>j * (zM G j + G + 2) + 4 * G + 2
theorem yH (G j:Nat):zM G j ≤ zM G (j + 1):=by
 cases j with
 | zero=>simp only [zM]; omega
 | succ j =>
  have:zM G (j + 1) + G + 2 ≤ (j + 1) * (zM G (j + 1) + G + 2):=Nat.le_mul_of_pos_left _ zo
  rw [show zM G (j + 1 + 1) = (j + 1) * (zM G (j + 1) + G + 2) + 4 * G + 2 from rfl]
  omega
theorem Ix (G : Nat) : ∀ j, G ≤ zM G j
 | 0=>Nat.le_refl _
 | j + 1=>Nat.le_trans (Ix G j) (yH G j)
theorem Dq (G : Nat) : ∀ {i j : Nat}, i ≤ j → zM G i ≤ zM G j
 | i,0,h=>by rw [show i = 0 by omega]; exact Nat.le_refl _
 | i, j + 1, h => by
  by_cases e:i = j + 1
  ·rw [e]; exact Nat.le_refl _
  ·exact Nat.le_trans (Dq G (show i ≤ j by omega)) (yH G j)
theorem pF {M : List (List Qi)} {n m : Nat} (hs : cF M n m) : ∀ {c : Nat}, c ≤ n → (cM M c).2.2 < 0 → ∀ i, i < c → gm (cM M c).1 i i ≠ Qi.zero
 | 0,_,_,i,hi=>by omega
 | c + 1, hc, hst, i, hi => by
  have sh:=pQ hs (c:=c) zo
  obtain ⟨_,i2,i3,i4⟩:=nU (M:=(cM M c).1) (c:=c) (n:=M.length) (by rw [hs.1]; omega)
  simp only [cM] at hst ⊢
  split at hst
  ·rename_i h0; omega
  ·rename_i h0
   rw [if_neg h0]
   split at hst
   ·simp at hst; omega
   ·rename_i h1
    rw [if_neg h1]
    have ih:=pF hs (c:=c) zo zo
    have hl : ∀ X : List (List Qi), X.length = n → gm (redM X c M.length) i i = gm X i i := fun X hX => by
     show gv (dN (redM X c M.length) i) i = _
     rw [xV zo zo]
    by_cases e:pv (cM M c).1 c M.length = c
    ·rw [if_pos e, hl _ sh.1]
     by_cases e2:i = c
     ·rw [e2]; have:=i4 (by have:=hs.1; omega); rw [e] at this; exact this
     ·exact ih i zo
    ·have hpl : pv (cM M c).1 c M.length < n := by rw [← hs.1]; omega
     rw [if_neg e,hl _ ((Bh _ _ _ _).trans sh.1)]
     by_cases e2:i = c
     ·rw [e2]
      show gv (dN (swp [] _ _ c) c) c ≠ _
      rw [zK (by rw [sh.1]; omega)]
      exact i4 (by have:=hs.1; omega)
     ·have : dN (swp [] (cM M c).1 (pv (cM M c).1 c M.length) c) i = dN (cM M c).1 i := by
       simp only [dN,swp,List.getD]
       rw [List.getElem?_set_ne (Ne.symm e2),List.getElem?_set_ne zo]
      show gv (dN (swp [] _ _ c) i) i ≠ _
      rw [this]; exact ih i zo
theorem Bg {U : List (List Qi)} {x : List Qi} {n c G X : Nat} (hU : aN U G) (hx : bP x X) (hG : 1 ≤ G) (hX : 1 ≤ X) : ∀ k, aE (oK U x n c k) (G + k * (G + X + 2))
 | 0=>(hU.get hG c n).le zo
 | k + 1 => by
  haveI f1:=Bg (n:=n) (c:=c) hU hx hG hX k
  haveI f2:=hU.get hG c (c + 1 + k)
  haveI f3:=hx.get hX (c + 1 + k)
  have:aE (oK U x n c (k + 1)) (G + k * (G + X + 2) + (G + X + 1) + 1):=by unfold oK; infer_instance
  exact this.le (by rw [Nat.add_mul]; omega)
theorem a3Y {U:List (List Qi)} {x:List Qi} {n c G X j:Nat} (hU:aN U G) (hx:bP x X) (hG:1 ≤ G) (hX:1 ≤ X) (hz:gm U c c ≠ Qi.zero):aE (oK U x n c j / gm U c c) (j * (X + G + 2) + 4 * G + 2):=by
 have f1:=Bg (n:=n) (c:=c) hU hx hG hX j
 have f2:=hU.get hG c c
 have:aE (oK U x n c j / gm U c c) (G + j * (G + X + 2) + 3 * G + 2):=⟨f1.fit.div f2.fit hz⟩
 exact this.le (by rw [Nat.add_comm X G]; omega)
theorem Mn {U : List (List Qi)} {n G : Nat} (hU : aN U G) (hG : 1 ≤ G) (hz : ∀ i, i < n → gm U i i ≠ Qi.zero) : ∀ j, j ≤ n → bP (nQ U n j) (zM G j)
 | 0,_=>bP.tab fun _ _=>aE.zero hG
 | j + 1, hj => fun y hy => by
  have ih:=Mn hU hG hz j zo
  rcases List.mem_or_eq_of_mem_set hy with h1 | h1
  ·exact (ih y h1).le (yH G j)
  ·rw [h1]; exact a3Y hU ih hG (Nat.le_trans hG (Ix G j)) (hz _ zo)
theorem a0F {M:List (List Qi)} {b:List Qi} {n:Nat} (h:cF M n n):cF (qX M b n).1 n (n + 1):=pQ (lJ h) (Nat.le_refl n)
theorem Lu {M:List (List Qi)} {b:List Qi} {n L:Nat} (h:cF M n n) (hM:aN M L) (hb:bP b L) (hL:1 ≤ L):aN (qX M b n).1 (mS L n):=Ce (lJ h) (uQ hM (fun r hr=>by simp at hr; subst hr; exact hb) hL) hL (Nat.le_refl n)
theorem a0G {M : List (List Qi)} {b : List Qi} {n L : Nat} (h : cF M n n) (hM : aN M L) (hb : bP b L) (hL : 1 ≤ L) (hE : (qX M b n).2.2 < 0) : bP (iY M b n) (zM (mS L n) n) :=
 Mn (Lu h hM hb hL) (Nat.le_trans hL (uU L n)) (pF (lJ h) (Nat.le_refl n) hE) n (Nat.le_refl n)
def Dn (n i:Nat):List Qi:=(tab n fun _=>Qi.zero).set i (Qi.ofInt 1)
def rO (n:Nat):List (List Qi):=tab n (Dn n)
theorem nR (n:Nat):cF (rO n) n n:=⟨aD _ _,fun r hr=>by obtain ⟨i,_,rfl⟩:=gC.1 hr; rw [Dn,List.length_set,aD]⟩
theorem iP:aE (Qi.ofInt 1) 1:=⟨Qi.Fit.int (L:=1) (by decide) (by decide)⟩
theorem Vr {n i L : Nat} (h : 1 ≤ L) : bP (Dn n i) L := fun x hx => by
 rcases List.mem_or_eq_of_mem_set hx with h1 | h1
 ·obtain ⟨_,_,rfl⟩:=gC.1 h1; exact aE.zero h
 ·rw [h1]; exact iP.le h
theorem Qs {n L:Nat} (h:1 ≤ L):aN (rO n) L:=fun r hr=>by obtain ⟨i,_,rfl⟩:=gC.1 hr; exact Vr h
theorem Sh {M:List (List Qi)} {b:List Qi} {n:Nat} (h:¬ 0 ≤ (qX M b n).2.2):(qX M b n).2.2 < 0:=by omega
theorem vH (F:Qi → Ty) (n:Nat):List.replicate n (F Qi.zero) = (tab n fun _=>Qi.zero).map F:=by rw [Bj,a2Y]
theorem a5M {n j:Nat} (h:(0:Int) ≤ (n:Int) - 1 - (j:Int)):j < n:=by omega
theorem a5N {n j:Nat} (h:(n:Int) - 1 - (j:Int) < 0):n ≤ j:=by omega
end
section
open Go Go.RowKit
theorem Th  : bR Tryz.prog 172 [aR []] (aH true):=by
 refine bR.intro Tryz.func172 rfl Tryz.ntmps172 rfl (fun cx=>(ts (ro rfl (cQ cV) (eX (ts (rm rfl (ro rfl (cZ K_226 wE ⟨(Ht rfl),trivial⟩) (rm rfl (ro rfl (dK (Ht rfl) rfl) (ro rfl (dK (Ht rfl) rfl) (ra rfl (ra rfl (eX (ts (rm rfl (rm rfl (fQ rfl rfl (eK rfl rfl (Ht rfl) (fun h=>cX (Ht rfl))) (fQ rfl rfl (eK rfl rfl (Ht rfl) (fun h=>cX (Ht rfl))) (fQ rfl rfl (eK rfl rfl (Ht rfl) (fun h=>dG U_26 (fJ rfl h) aC)) (fQ rfl rfl (eK rfl rfl (Ht rfl) (fun h=>eB (fJ rfl h) (fJ rfl h))) ?_))))))))))))))))))))
 refine ro rfl (fC (Ht rfl) (fun h=>(fJ rfl h))) (ra rfl (eX (fW rfl (fX (eU rfl) ?_))))
 exact (fA (by simp))
theorem Jp {M:List (List Qi)} {n:Nat} (h:cF M n n) (h1:1 ≤ n) (hn:n ≤ 32):bR Tryz.prog 172 [aR M] (aH true):=by
 have hl:=h.1
 refine bR.intro Tryz.func172 rfl Tryz.ntmps172 rfl (fun cx=>(ts (ro rfl (cQ cV) (eX (ts (rm rfl (ro rfl (cZ K_226 (yM h h1 hn hn) ⟨(Ht rfl),trivial⟩) (rm rfl (ro rfl (dK (Ht rfl) rfl) (ro rfl (dK (Ht rfl) rfl) (ra rfl (ra rfl (eX (ts (rm rfl (rm rfl (fQ rfl rfl (eK rfl rfl (Ht rfl) (fun h=>cX (Ht rfl))) (fQ rfl rfl (eK rfl rfl (Ht rfl) (fun h=>cX (Ht rfl))) (fQ rfl rfl (eK rfl rfl (Ht rfl) (fun h=>dG U_26 (fJ rfl h) aC)) (fQ rfl rfl (eK rfl rfl (Ht rfl) (fun h=>eB (fJ rfl h) (fJ rfl h))) ?_))))))))))))))))))))
 refine ro rfl (fC (Ht rfl) (fun h=>(fJ rfl h))) (ra rfl (eX (fW rfl (fX (eU rfl) ?_))))
 exact (fA (by simp [hl]))
theorem Er {M:List (List Qi)} {n:Nat} (h:cF M n n) (hn:n ≤ 32):bR Tryz.prog 172 [aR M] (aH true):=by
 by_cases e:n = 0
 ·subst e
  obtain rfl:=List.length_eq_zero_iff.1 h.1
  exact Th
 ·exact Jp h zo hn
theorem Eo {M bs:List (List Qi)} {n m:Nat} (hM:cF M n m) (hb:∀ b,b ∈ bs → n ≤ b.length) (hn:n ≤ 1000) (hm:m ≤ 1000) (hbl:bs.length ≤ 1000):fN Tryz.prog 195 [aR M,aR bs] [] (Nat) (fun B=>Is (.slice (some ⟨B,0,none⟩) n n)) (fun B=>[lQ B 25 60 5 (bM aF (kF M bs n))]) (fun _=>True):=by
 have hMl:=hM.1
 refine fN.intro Tryz.func195 rfl Tryz.ntmps195 rfl (fun cx Z=>(ts (ro rfl (cQ cV) (eX (ts (rm rfl (ro rfl (dG U_26 (Ht rfl) aC) (rn rfl (gK (T:=Is (.slice none 0 0)) (i:=Tryz.t25) V_26 lA rfl rfl (Ht rfl) rfl (fun _=>rfl) trivial (by show 24 * _ ≤ _; omega) zo) fun B12=>(ra rfl (eX (cK (ts (rm rfl (ro rfl (dG U_26 (Ht rfl) aC) (ro rfl (cX (cJ 0)) (eX (eG (mU 1 rfl (sC (e:=60) (s:=5)) ?_))))))))))))))))))
 refine cA (fun (i : Nat) => i ≤ M.length) (fun (i : Nat) => M.length - i) (fun (i : Nat) => [(0, aR M), (1, aR bs), (5, Is (.slice (some ⟨B12, 0, none⟩) M.length M.length)), (13, aR M), (14, NT .i64 M.length), (15, NT .i64 i)]) (fun (i : Nat) => [Z, lQ B12 25 60 5 (bM aF (kV (Jv M bs) [] M.length i))]) 0 (Nat.zero_le _)
  (zS rfl) (aU (fun _ _ _ h=>h) (aU (bI (by rw [← iL,kT]; exact mA aF M.length)) aY)) (fun i hi=>?_)
 refine ts (ro rfl (gX (Ht rfl) (Ht rfl)) (eX (cK (dQ (Ht rfl) (fun hd0=>?_) (fun hd0=>?_)))))
 ·simp only [decide_eq_true_eq] at hd0
  have hrl:(dN M i).length = m:=hM.row zo
  have hrl2:(M.getD i []).length = m:=hrl
  refine mB 1 (i) rfl (kQ hd0) (fun v0=>(cU (cK (eG (ts (rm rfl (ro rfl (dZ U_26 Z_25 (Ht rfl) (Ht rfl) rfl (dY (dU (d:=[]) hd0))) (ro rfl (dJ A_25 Z_25 (Ht rfl)) (ra rfl (ra rfl (eX (ts (rm rfl (rm rfl (rm rfl (iN Tryz.call109 (Jg (l:=M.getD i []) zo) ⟨(Ht rfl),trivial⟩ rfl (fun v1 _=>(ro rfl (fY U_26 Z_25 (Ht rfl) (Ht rfl) rfl zo (by rw [Nat.mul_one,Nat.zero_add])) ?_))))))))))))))))))
  refine tK Z_25 (Ht rfl) (Ht rfl) (by simp only [bM,List.length_map,dE]; omega) (j:=1) (l:=3) rfl rfl rfl ?_
  refine eX (ts (rm rfl (ro rfl (dG U_26 (Ht rfl) aC) (ro rfl (cX (cJ 0)) (eX (eG (bS [0,1,3] rfl (by decide) ?_)))))))
  refine fO (fun (j : Nat) (v : Value) => j ≤ bs.length) (fun (j : Nat) (v : Value) => bs.length - j) (fun (j : Nat) (v : Value) => [(0, aR M), (1, aR bs), (5, Is (.slice (some ⟨B12, 0, none⟩) M.length M.length)), (6, NT .i64 i), (13, aR M), (14, NT .i64 M.length), (15, NT .i64 i), (25, aR bs), (26, NT .i64 bs.length), (27, NT .i64 j)]) (fun (j : Nat) (v : Value) => [Z, Ac B12 25 60 5 (bM aF (kV (Jv M bs) [] M.length i)) i v, bF 60 5 v ((dN M i ++ (bs.take j).map fun b => gv b i).map aF)]) 0 v1 (Nat.zero_le _)
   (zS rfl) (aU (fun _ _ _ h=>h) (aU (fun _ _ _ h=>h) (aU (aO (by simp)) aY))) (fun j v hj=>?_)
  refine ts (ro rfl (gX (Ht rfl) (Ht rfl)) (eX (cK (dQ (Ht rfl) (fun he=>?_) (fun he=>?_)))))
  ·simp only [decide_eq_true_eq] at he
   have hbj:i < (bs.getD j []).length:=by have h1:=hb (bs.getD j []) (by rw [a1V he]; exact List.getElem_mem _); omega
   refine cU (cK (eG (ts (ro rfl (dZ U_26 Z_25 (Ht rfl) (Ht rfl) rfl (dY (dU (d:=[]) he))) (ro rfl (dJ A_25 Z_25 (Ht rfl)) (ra rfl (eX (Y.D_startA (m:=12) [] 11 2 rfl rfl (bY (Ei:=[(5,_)]) rfl rfl (bQ (bJ rfl rfl) bX) rfl rfl (dX rfl (cX (Ht rfl))) (bY (Ei:=[(6,_)]) rfl rfl (bQ (bJ rfl rfl) bX) rfl rfl (dX rfl (cX (Ht rfl))) (bY (Ei:=[(5,_)]) rfl rfl (bQ (bJ rfl rfl) bX) rfl rfl (dX rfl (cX (Ht rfl))) ?_)))))))))))
   refine bY (Ei:=[(6,_)]) rfl rfl (bQ (bJ rfl rfl) bX) rfl rfl (dX rfl (cX (Ht rfl))) (bY (Ei:=[(33,_),(34,_)]) rfl rfl (bQ (bZ 2 rfl rfl) (bQ (bZ 3 rfl rfl) bX)) rfl rfl (dX rfl (fY U_26 Z_25 (Ht rfl) (Ht rfl) rfl zo (by rw [Nat.mul_one,Nat.zero_add]))) ?_)
   refine bY (Ei:=[(35,_)]) rfl rfl (bQ (bZ 4 rfl rfl) bX) rfl rfl (dX rfl (iC A_25 Z_25 (Ht rfl) (j:=1) rfl)) (bY (Ei:=[(9,_)]) rfl rfl (bQ (bJ rfl rfl) bX) rfl rfl (dX rfl (cX (Ht rfl))) (bY (Ei:=[(6,_)]) rfl rfl (bQ (bJ rfl rfl) bX) rfl rfl (dX rfl (cX (Ht rfl))) (bY (Ei:=[(37,_),(38,_)]) rfl rfl (bQ (bZ 6 rfl rfl) (bQ (bZ 7 rfl rfl) bX)) rfl rfl (dX rfl (dZ U_25 Z_60 (Ht rfl) (Ht rfl) rfl (dY (dU (d:=Qi.zero) hbj)))) ?_)))
   refine bY (Ei:=[(39,_)]) rfl rfl (bQ (bZ 8 rfl rfl) bX) rfl rfl (dX rfl (dJ A_60 Z_60 (Ht rfl))) (bY (Ei:=[(40,_)]) rfl rfl (bQ (bZ 9 rfl rfl) bX) rfl rfl (dX rfl (cE (xs:=[.tmp 40]) U_25 Z_60 O_60 (cW (Ht rfl) cG) rfl rfl rfl)) (Y.D_app (Ei:=[(36,_),(41,_)]) rfl rfl rfl rfl (bQ (bZ 5 rfl rfl) (bQ (bZ 10 rfl rfl) bX)) rfl (nW (inf:=Tryz.t60) jH gG rfl rfl rfl (Ht rfl) (Ht rfl) (by simp) (fun T hT=>by simp at hT; subst hT; exact El.ag rfl) (by show _ * 88 ≤ _; simp only [List.length_map,List.length_append,List.length_take,List.length_cons,List.length_nil]; omega) (by simp only [List.length_map,List.length_append,List.length_take,List.length_cons,List.length_nil]; omega)) ?_))
   refine Y.D_done bC rfl (by kernel_rfl) rfl (by simp [Y.okP]) rfl rfl (bU (bU (bU (bU (bU (bU (bU (bU (bU (bU (bU (Y.F_app (fun v2=>Y.F_nil ?_)))))))))))))
   refine ro rfl (fY U_26 Z_25 (Ht rfl) (Ht rfl) rfl zo (by rw [Nat.mul_one,Nat.zero_add])) ?_
   refine tK Z_25 (Ht rfl) (Ht rfl) (by simp only [bM,List.length_map,dE]; omega) (j:=1) (l:=3) rfl rfl rfl ?_
   refine eX (bL (cY (ro rfl (dV (Ht rfl) (cJ 1) z6) (rm rfl (eX (bS [0,1,3] rfl (by decide) (fU (j + 1,v2) he (by dsimp only; omega) (zS rfl) (aU (fun _ _ _ h=>h) (aU (fun _ _ _ h=>h) (aU (aO ((rA aF _ (gv (bs.getD j []) i)).trans (congrArg _ (a1C he)))) aY))))))))))
  ·simp only [decide_eq_false_iff_not] at he
   obtain rfl:bs.length = j:=Nat.le_antisymm zo hj
   refine gW rfl (bL (dS 1 2 rfl rfl (by decide) (by simp only [bM,List.length_map,dE]; omega) ?_))
   refine cY (ro rfl (dV (Ht rfl) (cJ 1) z6) (rm rfl (eX (bS [0,1] rfl (by decide) (fU (i + 1) hd0 zo (zS rfl) (aU (fun _ _ _ h=>h) (aU (bI (by rw [List.take_length,eN,← jN (f:=Jv M bs)])) aY)))))))
 ·simp only [decide_eq_false_iff_not] at hd0
  obtain rfl:i = M.length:=Nat.le_antisymm hi zo
  subst hMl
  refine gW rfl (ts (rm rfl (ra rfl (eX ?_))))
  exact iO B12 trivial [0,1] ⟨⟨_,rfl,fun _ _ _ h=>h⟩,⟨_,rfl,(bI (by rw [jW]; rfl))⟩,trivial⟩ (by decide) (tG rfl (eU rfl))
end
section
open Go Go.RowKit
abbrev ek (n k:Nat):List Qi:=(rO n).getD k []
theorem a4o {n k:Nat} (h:k < n):(ek n k).length = n:=(nR n).row h
theorem Yn {n k L:Nat} (h:1 ≤ L):bP (ek n k) L:=(Qs h).row k
def sP (M:List (List Qi)) (n:Nat):Int:=kU (fun k=>jF M (ek n k) n) n
def qA (M:List (List Qi)) (n:Nat):List (List Qi):=tab n fun r=>tab n fun j=>gv (iY M (ek n j) n) r
theorem nC {α:Type} {n i:Nat} {f:Nat → α} {d:α} (h:i < n):(tab n f).getD i d = f i:=by simp [List.getD,cH h]
def tY (M:List (List Qi)) (n k i:Nat):List (List Qi):=tab n fun r=>tab n fun j=>if j < k ∨ j = k ∧ r < i then gv (iY M (ek n j) n) r else gm M r j
theorem rH (M:List (List Qi)) (n k i:Nat):cF (tY M n k i) n n:=cF.tab
theorem Uh {M:List (List Qi)} {n:Nat} (h:cF M n n):M = tY M n 0 0:=by
 rw [tY]
 conv=>lhs; rw [mY h]
 exact bT fun r _=>bT fun j _=>by rw [if_neg zo]
theorem Ze (M : List (List Qi)) (n k : Nat) : tY M n k n = tY M n (k + 1) 0 := bT fun r hr => bT fun j _ => by
 by_cases h:j < k ∨ j = k ∧ r < n
 ·rw [if_pos h,if_pos zo]
 ·rw [if_neg h,if_neg zo]
theorem Zf (M:List (List Qi)) (n:Nat):tY M n n 0 = qA M n:=bT fun r _=>bT fun j hj=>by rw [if_pos zo]
theorem Ug {M:List (List Qi)} {n k i:Nat} (hi:i < n) (hk:k < n):(tY M n k i).set i (((tY M n k i).getD i []).set k (gv (iY M (ek n k) n) i)) = tY M n k (i + 1):=by
 apply List.ext_getElem?
 intro r
 by_cases hr:r < n
 ·by_cases e : r = i
  ·subst e
   rw [List.getElem?_set_self (by rw [(rH _ _ _ _).1]; exact hr),tY,tY,cH (f:=fun r=>tab n fun j=>if j < k ∨ j = k ∧ r < _ + 1 then gv (iY M (ek n j) n) r else gm M r j) hr]
   congr 1
   have:(tab n fun x=>tab n fun j=>if j < k ∨ j = k ∧ x < r then gv (iY M (ek n j) n) x else gm M x j).getD r [] = tab n fun j=>if j < k ∨ j = k ∧ r < r then gv (iY M (ek n j) n) r else gm M r j:=nC hr
   rw [this]
   apply List.ext_getElem?
   intro j
   by_cases hj:j < n
   ·by_cases e2 : j = k
    ·subst e2
     rw [List.getElem?_set_self (by rw [aD]; exact hj),cH hj,if_pos zo]
    ·rw [List.getElem?_set_ne (Ne.symm e2), cH hj, cH hj]
     by_cases e3:j < k
     ·rw [if_pos (.inl e3),if_pos (.inl e3)]
     ·rw [if_neg zo,if_neg zo]
   ·rw [List.getElem?_eq_none (by rw [List.length_set,aD]; omega),List.getElem?_eq_none (by rw [aD]; omega)]
  ·rw [List.getElem?_set_ne (Ne.symm e), tY, tY, cH hr, cH hr]
   congr 1
   refine bT fun j _=>?_
   by_cases e3:j < k ∨ j = k ∧ r < i
   ·rw [if_pos e3,if_pos zo]
   ·rw [if_neg e3,if_neg zo]
 ·rw [List.getElem?_eq_none (by rw [List.length_set,(rH _ _ _ _).1]; omega),List.getElem?_eq_none (by rw [(rH _ _ _ _).1]; omega)]
theorem a26 {M:List (List Qi)} {n k:Nat} (h:∀ i,i < k → jF M (ek n i) n = 0) (hk:k < n) (hx:jF M (ek n k) n ≠ 0):sP M n = jF M (ek n k) n:=uS h hx hk
theorem Uf {M:List (List Qi)} {n:Nat} (h:∀ i,i < n → jF M (ek n i) n = 0):sP M n = 0:=kG h
theorem Wk {T : Ty} {s : Nat} : ∀ vs V, eE [T, Is (.slice none 0 0)] vs V → eE [T, kI s []] vs V
 | [_,_],_,⟨h1,h2,h3⟩=>⟨h1,iR _ _ h2,h3⟩
 | [],_,h=>h.elim
 | [_],_,h=>h.2.elim
 | _ :: _ :: _ :: _,_,h=>h.2.2.elim
theorem fN.arg {P : Program} {f : FuncId} {Ts Ts' : List Ty} {As : Hp} {γ : Type} {U : γ → Ty} {As' : γ → Hp} {Q : γ → Prop} (h : fN P f Ts As γ U As' Q) (i : ∀ vs V, eE Ts' vs V → eE Ts vs V) : fN P f Ts' As γ U As' Q :=
 fun cx Z vs V w h1 h2=>h cx Z vs V w h1 (i _ _ h2)
end
section
open Go Go.RowKit
section
variable {P:Program} {R:iE} {cx:Cx} {n:Nat} {k:List It} {E:dA} {H:Hp}
theorem Br (i l off : Nat) {B : Nat} {BT : TypeId} {Us : List Ty} {v : Value} {A : SA} {T : Ty} (hB : H[i]? = some (box B BT Us)) (hU : Us[off]? = some (Is v)) (hL : H[l]? = some A) (hne : i ≠ l) (hT : ∀ S V, A.h S V V → T.p v V)
  (h:Tr P R cx n k E ((H.set l SA.emp).set i (box B BT (Us.set off T)))):Tr P R cx n k E H:=fun a w ⟨V,hi,hs⟩=>by
 obtain ⟨V',S,hle,hi',hA⟩:=hi.freeze hL
 have hT:=hT S V' hA
 refine h a w ⟨V',hi'.withHH ?_,hs.mono hle⟩
 obtain ⟨F,h1,h2⟩:=hi'.hp
 have hB':(H.set l SA.emp)[i]? = some (box B BT Us):=by rw [List.getElem?_set_ne (Ne.symm hne)]; exact hB
 have hil:=(List.getElem?_eq_some_iff.1 hB').1
 refine ⟨F,fun q A hq=>?_,fun q r b hq hr=>h2 q r b (by simpa using hq) (by simpa using hr)⟩
 by_cases c:i = q
 ·subst c
  rw [List.getElem?_set_self hil] at hq
  obtain rfl:=Option.some.inj hq
  obtain ⟨⟨k1,cs,k2,k3⟩,k4⟩:=h1 i _ hB'
  obtain ⟨u,u1,u2⟩:=k3.get hU
  obtain rfl:u = v:=u2
  have hset : cs.set off u = cs := by
   apply List.ext_getElem?
   intro j
   by_cases cj:off = j
   ·subst cj; rw [List.getElem?_set_self (List.getElem?_eq_some_iff.1 u1).1,u1]
   ·rw [List.getElem?_set_ne cj]
  refine ⟨⟨k1,cs,k2,?_⟩,k4⟩
  have:=k3.set off (v:=u) hT (k3.pl u (List.mem_of_getElem? u1))
  rwa [hset] at this
 ·rw [List.getElem?_set_ne c] at hq
  exact h1 q A hq
theorem a60 {B e l : Nat} {BT : TypeId} {F : Qi → Ty} {q : Value → Prop} {M : List (List Qi)} (hl : l = M.length) : ∀ S V, (lR q B BT e 5 (bM F M)).h S V V → (kI 1 (M.map fun r => kI 5 (r.map F))).p (.slice (some ⟨B, 0, none⟩) l l) V := fun S V h =>
 gY (s:=5) (M:=M) hl _ S V rfl h
end
def pI (p i:Nat):Nat:=if i < p then i else i + 1
abbrev fF (l:List Nat):Ty:=kI 1 (l.map (NT .i64))
def Cm (p n:Nat):List Nat:=tab n fun j=>pI p j + 1
def Tk (p i:Nat):Nat:=if i ≤ p then i else i - 1
theorem Gv {p n:Nat} (h:p < n):Tk p n = n - 1:=by unfold Tk; split <;> omega
theorem Om {p i n:Nat} (h:i < n - 1) (hp:p < n):pI p i < n:=by unfold pI; split <;> omega
theorem Rb {p n j:Nat} (h:j < n):(Cm p n)[j]? = some (pI p j + 1):=cH h
def zE (z:List Qi) (p m:Nat):List Qi:=tab m fun i=>gv z (pI p i)
def a6g (s:List (List Qi)) (p m:Nat):List (List Qi):=tab m fun i=>tab m fun j=>gm s (pI p i) (pI p j)
def Ox (s:List (List Qi)) (p:Nat) (f:Qi) (i j:Nat):Qi:=gm s (pI p i) (pI p j) + gm s (pI p i) p * (f * gm s p (pI p j))
def Iu (s:List (List Qi)) (p m:Nat) (f:Qi):List (List Qi):=tab m fun i=>tab m fun j=>Ox s p f i j
def kO (s:List (List Qi)) (p:Nat) (g:Qi):Qi:=g / (Qi.ofInt 1 - gm s p p * g)
def qY (z : List Qi) (s : List (List Qi)) (port : Int) (g : Qi) : Int :=
 if ¬ (1 ≤ port ∧ port ≤ z.length) then 1 else if z.length = 1 then 4 else if Qi.ofInt 1 - gm s (port - 1).toNat (port - 1).toNat * g = Qi.zero then 6 else 0
def Dm (z:List Qi) (s:List (List Qi)) (port:Int) (g:Qi):List Qi:=dM (qY z s port g) (zE z (port - 1).toNat (z.length - 1))
def Dl (z:List Qi) (s:List (List Qi)) (port:Int) (g:Qi):List (List Qi):=dM (qY z s port g) (Iu s (port - 1).toNat (z.length - 1) (kO s (port - 1).toNat g))
theorem Iv {z:List Qi} {s:List (List Qi)} {port:Int} {g:Qi} {e:Int} (h:qY z s port g = e) (he:e ≠ 0):∀ v V,(iK [] []).p v V → (iK (Dm z s port g) (Dl z s port g)).p v V:=by
 rw [Dm,Dl,dM,dM,h,if_neg he,if_neg he]; exact fun _ _ k=>k
theorem a3F (p:Nat):((p:Int) + 1 - 1).toNat = p:=by omega
theorem a0S {z:List Qi} {s:List (List Qi)} {p:Nat} {g:Qi} (h:qY z s ((p:Int) + 1) g = 0):∀ v V,(iK (zE z p (z.length - 1)) (Iu s p (z.length - 1) (kO s p g))).p v V → (iK (Dm z s ((p:Int) + 1) g) (Dl z s ((p:Int) + 1) g)).p v V:=by
 rw [Dm,Dl,dM,dM,h,if_pos rfl,if_pos rfl,a3F]; exact fun _ _ k=>k
theorem a5r {z:List Qi} {s:List (List Qi)} {port:Int} {g:Qi} (h:¬ (1 ≤ port ∧ port ≤ z.length)):qY z s port g = 1:=by rw [qY,if_pos h]
theorem a5s {z:List Qi} {s:List (List Qi)} {port:Int} {g:Qi} (h:1 ≤ port ∧ port ≤ z.length) (h1:z.length = 1):qY z s port g = 4:=by rw [qY,if_neg (fun k=>k h),if_pos h1]
theorem a5t {z:List Qi} {s:List (List Qi)} {p:Nat} {g:Qi} (h:p < z.length) (h1:¬ z.length = 1):qY z s ((p:Int) + 1) g = if Qi.ofInt 1 - gm s p p * g = Qi.zero then 6 else 0:=by
 rw [qY,if_neg (fun k=>k zo),if_neg h1,a3F]
theorem a0R {s:List (List Qi)} {p L:Nat} {g:Qi} (hs:aN s L) (hg:aE g L) (hL:1 ≤ L) (hd:Qi.ofInt 1 - gm s p p * g ≠ Qi.zero):aE (kO s p g) (7 * L + 11):=by
 haveI f0:=iP
 haveI f1:=hs.get hL p p
 haveI f2:=hg
 have f3:aE (Qi.ofInt 1 - gm s p p * g) (1 + (L + L + 1) + 1):=@fitSub _ _ _ _ f0 inferInstance
 have:aE (kO s p g) (L + 3 * (1 + (L + L + 1) + 1) + 2):=⟨f2.fit.div f3.fit hd⟩
 exact this.le zo
end
section
open Go Go.RowKit
def vN (x : Qi) (l m : List Qi) : Nat → Qi
 | 0=>x
 | k + 1=>vN x l m k + gv l k * gv m k
theorem Kb {x : Qi} {l m : List Qi} {L M : Nat} (hx : aE x M) (hl : bP l L) (hm : bP m L) (hL : 1 ≤ L) : ∀ k, aE (vN x l m k) (M + k * (2 * L + 2))
 | 0=>hx.le zo
 | k + 1 => by
  haveI f1:=Kb hx hl hm hL k
  haveI f2:=hl.get hL k
  haveI f3:=hm.get hL k
  have:aE (vN x l m (k + 1)) (M + k * (2 * L + 2) + (L + L + 1) + 1):=by unfold vN; infer_instance
  exact this.le (by rw [Nat.add_mul]; omega)
end
section
open Go Go.RowKit
namespace Qi
def npow' (x : Qi) : Nat → Qi
 | 0=>Qi.ofInt 1
 | k + 1=>npow' x k * x
theorem one_mul2 (x:Qi):Qi.ofInt 1 * x = x:=ext' (by show ((1:Int):Rat) * x.re - 0 * x.im = x.re; grind) (by show ((1:Int):Rat) * x.im + 0 * x.re = x.im; grind)
theorem mul_one2 (x:Qi):x * Qi.ofInt 1 = x:=by rw [mul_comm',one_mul2]
end Qi
instance qiField:Lean.Grind.CommRing Qi where
 natCast:=⟨fun n=>Qi.ofInt n⟩
 ofNat n:=⟨Qi.ofInt n⟩
 nsmul:=⟨fun n x=>Qi.ofInt n * x⟩
 npow:=⟨Qi.npow'⟩
 add_zero:=Qi.add_zero'
 add_comm:=Qi.add_comm'
 add_assoc:=Qi.add_assoc'
 mul_assoc:=Qi.mul_assoc'
 mul_comm:=Qi.mul_comm'
 mul_one:=Qi.mul_one2
 one_mul:=Qi.one_mul2
 left_distrib:=Qi.mul_add'
 right_distrib:=Qi.add_mul'
 zero_mul:=Qi.zero_mul'
 mul_zero:=Qi.mul_zero'
 pow_zero _:=rfl
 pow_succ _ _:=rfl
 ofNat_succ n:=Qi.ext' (by show (((n + 1:Nat):Int):Rat) = ((n:Int):Rat) + ((1:Int):Rat); rw [Int.natCast_add,Rat.intCast_add]; rfl) (by show (0:Rat) = 0 + 0; grind)
 intCast:=⟨Qi.ofInt⟩
 zsmul:=⟨fun n x=>Qi.ofInt n * x⟩
 neg_add_cancel x:=Qi.ext' (by show -x.re + x.re = ((0:Int):Rat); grind) (by show -x.im + x.im = 0; grind)
 sub_eq_add_neg:=Qi.sub_def
 neg_zsmul i x:=Qi.ext' (by show ((-i:Int):Rat) * x.re - 0 * x.im = -((i:Rat) * x.re - 0 * x.im); rw [Rat.intCast_neg]; grind) (by show ((-i:Int):Rat) * x.im + 0 * x.re = -((i:Rat) * x.im + 0 * x.re); rw [Rat.intCast_neg]; grind)
 intCast_neg i:=Qi.ext' (Rat.intCast_neg i) (by show (0:Rat) = -0; grind)
theorem q0:Qi.zero = 0:=rfl
theorem q1:Qi.ofInt 1 = 1:=rfl
theorem uA {x:Qi} (h:x ≠ 0):x * Qi.inv x = 1:=by
 have hn:x.nrm ≠ 0:=fun e=>h (Qi.nrm_zero.1 e)
 have e:x.re * x.re + x.im * x.im = x.nrm:=rfl
 refine Qi.ext' ?_ ?_
 ·show x.re * (x.re / x.nrm) - x.im * (-x.im / x.nrm) = ((1 : Int) : Rat)
  grind
 ·show x.re * (-x.im / x.nrm) + x.im * (x.re / x.nrm) = 0
  grind
theorem qT {x y:Qi} (h:y ≠ 0):x / y * y = x:=by
 rw [Qi.div_def]
 have:=uA h
 grind
theorem Ha {x y z:Qi} (h:y ≠ 0) (e:x = z * y):x / y = z:=by
 have h1:=qT (x:=x) h
 have h2:=uA h
 grind
theorem jP {x y:Qi} (h:x * y = 0):x = 0 ∨ y = 0:=by
 by_cases e:x = 0
 ·exact .inl e
 ·right; have:=uA e; grind
end
section
open Go Go.RowKit
theorem uK (m:Nat) (f:Qi) (a b:Nat → Qi):aI m (fun k=>a k - f * b k) = aI m a - f * aI m b:=by
 induction m with
 | zero=>simp only [aI,q0]; grind
 | succ m ih=>simp only [aI,ih]; grind
theorem eA {m i:Nat} (hi:i < m) {f:Nat → Qi} (h:∀ k,k < m → k ≠ i → f k = 0):aI m f = f i:=by
 induction m with
 | zero=>omega
 | succ m ih =>
  by_cases e:i = m
  ·subst e
   have : aI i f = 0 := by
    rw [← q0,← zJ i]
    exact aB fun k hk=>h k zo zo
   simp only [aI,this]; grind
  ·have h1 := ih zo (fun k hk => h k zo)
   have h2:=h m zo zo
   simp only [aI,h1,h2]; grind
theorem dT {m:Nat} {f:Nat → Qi} (h:∀ k,k < m → f k = 0):aI m f = 0:=by
 rw [← q0,← zJ m]; exact aB h
def Ker (M:List (List Qi)) (n m:Nat) (x:Nat → Qi):Prop:=∀ i,i < n → aI m (fun k=>gm M i k * x k) = 0
def zT (rr rc:List Qi) (c k:Nat):List Qi:=tab rr.length fun j=>if c ≤ j ∧ j < k then gv rr j - gv rr c / gv rc c * gv rc j else gv rr j
def redJ (M:List (List Qi)) (c r:Nat):List (List Qi):=tab M.length fun i=>if i ≠ c ∧ i < r then zT (dN M i) (dN M c) c (dN M i).length else dN M i
def Ud (M : List (List Qi)) : Nat → Option (List (List Qi))
 | 0=>some M
 | c + 1=>(Ud M c).bind fun A=>if pv A c M.length = M.length then none else some (redJ (swp [] A (pv A c M.length) c) c M.length)
theorem a0p (M:List (List Qi)) (c r:Nat):(redJ M c r).length = M.length:=aD _ _
theorem Uz (rr rc:List Qi) (c k:Nat):(zT rr rc c k).length = rr.length:=aD _ _
theorem a0q {M:List (List Qi)} {c r i:Nat} (hi:i < M.length):dN (redJ M c r) i = if i ≠ c ∧ i < r then zT (dN M i) (dN M c) c (dN M i).length else dN M i:=by
 simp only [dN,redJ,List.getD]; rw [cH hi]; rfl
theorem a0r {M:List (List Qi)} {n m c r:Nat} (h:cF M n m):cF (redJ M c r) n m:=by
 refine ⟨(a0p _ _ _).trans h.1,fun x hx=>?_⟩
 obtain ⟨i,hi,rfl⟩:=gC.1 hx
 have hr:=h.row (i:=i) (by rw [← h.1]; exact hi)
 show (if i ≠ c ∧ i < r then zT (dN M i) (dN M c) c (dN M i).length else dN M i).length = m
 split
 ·rw [Uz]; exact hr
 ·exact hr
theorem Bc {M:List (List Qi)} {n m c i j:Nat} (h:cF M n m) (hi:i < n) (hj:j < m):gm (redJ M c n) i j = if i ≠ c ∧ c ≤ j then gm M i j - gm M i c / gm M c c * gm M c j else gm M i j:=by
 have hr:(dN M i).length = m:=h.row hi
 show gv (dN (redJ M c n) i) j = _
 rw [a0q (by rw [h.1]; exact hi)]
 by_cases e:i = c
 ·rw [if_neg (fun k=>k.1 e),if_neg (fun k=>k.1 e)]
 ·rw [if_pos ⟨e, hi⟩, zT, kK zo]
  by_cases e2:c ≤ j
  ·rw [if_pos ⟨e2,by omega⟩,if_pos ⟨e,e2⟩]
  ·rw [if_neg (fun k=>e2 k.1),if_neg (fun k=>e2 k.2)]
theorem Ot {M:List (List Qi)} {p c i:Nat} (hp:p < M.length) (hc:c < M.length):dN (swp [] M p c) i = dN M (if i = c then p else if i = p then c else i):=by
 simp only [dN,swp,List.getD]
 by_cases e:i = c
 ·subst e; rw [List.getElem?_set_self (by simpa using hc),if_pos rfl]; rfl
 ·rw [List.getElem?_set_ne (Ne.symm e), if_neg e]
  by_cases e2:i = p
  ·subst e2; rw [List.getElem?_set_self hp,if_pos rfl]; rfl
  ·rw [List.getElem?_set_ne (Ne.symm e2),if_neg e2]
theorem a2e {M:List (List Qi)} {n m p c:Nat} {x:Nat → Qi} (hl:M.length = n) (hp:p < n) (hc:c < n):Ker (swp [] M p c) n m x ↔ Ker M n m x:=by
 have key : ∀ i, gm (swp [] M p c) i = gm M (if i = c then p else if i = p then c else i) := fun i => by
  funext j; exact congrArg (fun r=>gv r j) (Ot zo zo)
 constructor
 ·intro h i hi
  have h1:=h (if i = c then p else if i = p then c else i) (by split <;> (try split) <;> omega)
  rw [key] at h1
  have e : (if (if i = c then p else if i = p then c else i) = c then p else if (if i = c then p else if i = p then c else i) = p then c else (if i = c then p else if i = p then c else i)) = i := by
   by_cases e1:i = c
   ·subst e1; rw [if_pos rfl]
    by_cases e2:p = i
    ·rw [if_pos e2]; exact e2
    ·rw [if_neg e2,if_pos rfl]
   ·rw [if_neg e1]
    by_cases e2:i = p
    ·subst e2; rw [if_pos rfl,if_pos rfl]
    ·rw [if_neg e2,if_neg e1,if_neg e2]
  rw [e] at h1; exact h1
 ·intro h i hi
  rw [key]; exact h _ (by split <;> (try split) <;> omega)
theorem a2d {M:List (List Qi)} {n m c:Nat} {x:Nat → Qi} (hs:cF M n m) (hc:c < n) (hz:∀ j,j < c → gm M c j = 0):Ker (redJ M c n) n m x ↔ Ker M n m x:=by
 have key : ∀ i, i < n → i ≠ c → aI m (fun k => gm (redJ M c n) i k * x k) = aI m (fun k => gm M i k * x k) - gm M i c / gm M c c * aI m (fun k => gm M c k * x k) := fun i hi e => by
  rw [← uK]
  refine aB fun k hk=>?_
  rw [Bc hs hi hk]
  by_cases e2:c ≤ k
  ·rw [if_pos ⟨e,e2⟩]; grind
  ·rw [if_neg (fun h=>e2 h.2),hz k zo]; grind
 have keyc:aI m (fun k=>gm (redJ M c n) c k * x k) = aI m (fun k=>gm M c k * x k):=aB fun k hk=>by rw [Bc hs hc hk,if_neg (fun h=>h.1 rfl)]
 constructor
 ·intro h i hi
  have h0:=h c hc
  rw [keyc] at h0
  by_cases e:i = c
  ·rw [e]; exact h0
  ·have h1 := h i hi
   rw [key i hi e,h0] at h1
   grind
 ·intro h i hi
  have h0:=h c hc
  by_cases e:i = c
  ·rw [e,keyc]; exact h0
  ·rw [key i hi e,h0,h i hi]; grind
structure GJ (M A:List (List Qi)) (n m c:Nat):Prop where
 sh:cF A n m
 ker:∀ x,Ker A n m x ↔ Ker M n m x
 off:∀ j,j < c → ∀ i,i < n → i ≠ j → gm A i j = 0
 dg:∀ j,j < c → gm A j j ≠ 0
theorem GJ.next {M A:List (List Qi)} {n m c p:Nat} (h:GJ M A n m c) (hc:c < n) (hnm:n ≤ m) (hcp:c ≤ p) (hp:p < n) (hz:gm A p c ≠ 0):GJ M (redJ (swp [] A p c) c n) n m (c + 1):=by
 have hs:cF (swp [] A p c) n m:=Bi h.sh hp hc
 have hl:=h.sh.1
 have key : ∀ i, gm (swp [] A p c) i = gm A (if i = c then p else if i = p then c else i) := fun i => by
  funext j; exact congrArg (fun r=>gv r j) (Ot zo zo)
 have hcc:gm (swp [] A p c) c c ≠ 0:=by rw [key,if_pos rfl]; exact hz
 have hoff : ∀ j, j < c → ∀ i, i < n → i ≠ j → gm (swp [] A p c) i j = 0 := fun j hj i hi hij => by
  rw [key]
  by_cases e1:i = c
  ·rw [if_pos e1]; exact h.off j hj p hp zo
  ·rw [if_neg e1]
   by_cases e2:i = p
   ·rw [if_pos e2]; exact h.off j hj c hc zo
   ·rw [if_neg e2]; exact h.off j hj i hi hij
 refine ⟨a0r hs,fun x=>(a2d hs hc (fun j hj=>hoff j hj c hc zo)).trans ((a2e hl hp hc).trans (h.ker x)),fun j hj i hi hij=>?_,fun j hj=>?_⟩
 ·rw [Bc hs hi zo]
  by_cases e:j = c
  ·subst e
   rw [if_pos ⟨hij,Nat.le_refl _⟩]
   have:=qT (x:=gm (swp [] A p j) i j) hcc
   grind
  ·rw [if_neg (fun k=>by omega)]; exact hoff j zo i hi hij
 ·rw [Bc hs zo zo]
  by_cases e:j = c
  ·subst e; rw [if_neg (fun k=>k.1 rfl)]; exact hcc
  ·rw [if_neg (fun k=>by omega),key,if_neg zo,if_neg zo]; exact h.dg j zo
theorem Yx {M : List (List Qi)} {n m : Nat} (hs : cF M n m) (hnm : n ≤ m) : ∀ {c : Nat} {A : List (List Qi)}, c ≤ n → Ud M c = some A → GJ M A n m c
 | 0, A, _, h => by
  obtain rfl:=Option.some.inj h
  exact ⟨hs,fun _=>Iff.rfl,fun j hj=>by omega,fun j hj=>by omega⟩
 | c + 1, A, hc, h => by
  simp only [Ud] at h
  obtain ⟨B,h1,h2⟩:=Option.bind_eq_some_iff.1 h
  split at h2
  ·cases h2
  ·rename_i e
   obtain rfl:=Option.some.inj h2
   have ih:=Yx hs hnm (c:=c) zo h1
   rw [hs.1] at e ⊢
   obtain ⟨_,i2,i3,i4⟩:=nU (M:=B) (c:=c) (n:=n) zo
   exact ih.next zo hnm i2 zo (i4 zo)
theorem a4u {l:List Qi} {z:Qi} {k:Nat} (h:k < l.length):gv (l ++ [z]) k = gv l k:=by
 simp only [gv,List.getD]; rw [List.getElem?_append_left h]
theorem a4v {l:List Qi} {z:Qi}:gv (l ++ [z]) l.length = z:=by
 simp [gv,List.getD]
theorem a5W {M:List (List Qi)} {b:List Qi} {n i:Nat} (h:cF M n n) (hi:i < n):(∀ k,k < n → gm (kF M [b] n) i k = gm M i k) ∧ gm (kF M [b] n) i n = gv b i:=by
 obtain ⟨r,hr⟩:∃ r,r = dN M i:=⟨_,rfl⟩
 have hl:r.length = n:=by rw [hr]; exact h.row hi
 have e : dN (kF M [b] n) i = r ++ [gv b i] := by
  rw [hr]; simp only [dN,kF,List.getD]; rw [cH hi]; rfl
 refine ⟨fun k hk=>?_,?_⟩
 ·show gv (dN (kF M [b] n) i) k = gv (dN M i) k
  rw [e,← hr,a4u zo]
 ·show gv (dN (kF M [b] n) i) n = gv b i
  rw [e,← hl,a4v]
theorem Nb {M:List (List Qi)} {b:List Qi} {n i:Nat} (h:cF M n n) (hi:i < n) (x:Nat → Qi):aI (n + 1) (fun k=>gm (kF M [b] n) i k * x k) = aI n (fun k=>gm M i k * x k) + gv b i * x n:=by
 obtain ⟨h1,h2⟩:=a5W (b:=b) h hi
 simp only [aI,h2]
 rw [aB (fun k hk=>by rw [h1 k hk])]
theorem Uy {rr rc : List Qi} {L c k : Nat} (h1 : bP rr L) (h2 : bP rc L) (hL : 1 ≤ L) (hp : gv rc c ≠ Qi.zero) : bP (zT rr rc c k) (6 * L + 4) := bP.tab fun j _ => by
 split
 ·exact Qg h1 h2 hL hp
 ·exact (h1.get hL j).le zo
theorem a0o {M : List (List Qi)} {L c r : Nat} (h : aN M L) (hL : 1 ≤ L) (hp : gm M c c ≠ Qi.zero) : aN (redJ M c r) (6 * L + 4) := fun x hx => by
 obtain ⟨i,hi,rfl⟩:=gC.1 hx
 show bP (if i ≠ c ∧ i < r then zT (dN M i) (dN M c) c (dN M i).length else dN M i) _
 split
 ·exact Uy (h.row i) (h.row c) hL hp
 ·exact (h.row i).le zo
theorem Yw {M : List (List Qi)} {n m L : Nat} (hs : cF M n m) (hnm : n ≤ m) (h : aN M L) (hL : 1 ≤ L) : ∀ {c : Nat} {A : List (List Qi)}, c ≤ n → Ud M c = some A → aN A (mS L c)
 | 0,A,_,e=>by obtain rfl:=Option.some.inj e; exact h
 | c + 1, A, hc, e => by
  simp only [Ud] at e
  obtain ⟨B,h1,h2⟩:=Option.bind_eq_some_iff.1 e
  split at h2
  ·cases h2
  ·rename_i e3
   obtain rfl:=Option.some.inj h2
   have ih:=Yw hs hnm h hL (c:=c) zo h1
   have hsB:=(Yx hs hnm (c:=c) zo h1).sh
   rw [hs.1] at e3 ⊢
   obtain ⟨_,i2,i3,i4⟩:=nU (M:=B) (c:=c) (n:=n) zo
   refine a0o (Ip ih) (Nat.le_trans hL (uU L c)) ?_
   show gv (dN (swp [] _ _ c) c) c ≠ _
   rw [zK (by rw [hsB.1]; omega)]
   exact i4 zo
end
section
open Go Go.RowKit
def tH (a b:List (List Qi)) (x y i:Nat):List Qi:=tab (x + y) fun j=>if i < x then (if j < x then gm a i j else Qi.zero) else (if x ≤ j then gm b (i - x) (j - x) else Qi.zero)
def oJ (a b:List (List Qi)) (x y:Nat):List (List Qi):=tab (x + y) (tH a b x y)
theorem uJ (a b:List (List Qi)) (x y:Nat):cF (oJ a b x y) (x + y) (x + y):=⟨aD _ _,fun r hr=>by obtain ⟨i,_,rfl⟩:=gC.1 hr; exact aD _ _⟩
theorem a0D {a b : List (List Qi)} {x y L : Nat} (ha : aN a L) (hb : aN b L) (hL : 1 ≤ L) : aN (oJ a b x y) L := fun r hr => by
 obtain ⟨i,_,rfl⟩:=gC.1 hr
 refine bP.tab fun j _=>?_
 split
 ·split
  ·exact ha.get hL _ _
  ·exact aE.zero hL
 ·split
  ·exact hb.get hL _ _
  ·exact aE.zero hL
theorem jS {a b:List (List Qi)} {x y i j:Nat} (hi:i < x + y) (hj:j < x + y):gm (oJ a b x y) i j = if i < x then (if j < x then gm a i j else Qi.zero) else (if x ≤ j then gm b (i - x) (j - x) else Qi.zero):=by
 have e:(oJ a b x y).getD i [] = tH a b x y i:=by rw [oJ,List.getD,cH hi]; rfl
 show gv ((oJ a b x y).getD i []) j = _
 rw [e,tH,kK hj]
end
section
open Go Go.RowKit
abbrev pA (ps:List (Nat × Nat)) (k:Nat):Nat:=(ps.getD k (0,0)).1
abbrev pB (ps:List (Nat × Nat)) (k:Nat):Nat:=(ps.getD k (0,0)).2
end
section
open Go Go.RowKit
theorem tX {l:List Qi} {t k:Nat} {v:Qi} (ht:t < l.length):gv (l.set t v) k = if k = t then v else gv l k:=by
 simp only [gv,List.getD]
 by_cases e:k = t
 ·subst e; rw [if_pos rfl,List.getElem?_set_self ht]; rfl
 ·rw [if_neg e,List.getElem?_set_ne (Ne.symm e)]
end
section
open Go Go.RowKit
def wO (A:List (List Qi)) (c i j:Nat):Qi:=if j < c ∧ j < i then 0 else gm A i j
def wQ (F:Nat → Nat → Qi) (n m:Nat) (x:Nat → Qi):Prop:=∀ i,i < n → aI m (fun k=>F i k * x k) = 0
theorem Cl {F G:Nat → Nat → Qi} {n m:Nat} {x:Nat → Qi} (h:∀ i,i < n → ∀ j,j < m → F i j = G i j):wQ F n m x ↔ wQ G n m x:=by
 have e:∀ i,i < n → aI m (fun k=>F i k * x k) = aI m (fun k=>G i k * x k):=fun i hi=>aB fun k hk=>by rw [h i hi k hk]
 exact ⟨fun k i hi=>by rw [← e i hi]; exact k i hi,fun k i hi=>by rw [e i hi]; exact k i hi⟩
def Sn (p c i:Nat):Nat:=if i = c then p else if i = p then c else i
theorem Ir {p c i n:Nat} (hp:p < n) (hc:c < n) (hi:i < n):Sn p c i < n:=by unfold Sn; split <;> (try split) <;> omega
theorem So (p c i:Nat):Sn p c (Sn p c i) = i:=by
 unfold Sn
 by_cases e1:i = c
 ·subst e1
  rw [if_pos rfl]
  by_cases e2:p = i
  ·rw [if_pos e2]; exact e2
  ·rw [if_neg e2,if_pos rfl]
 ·rw [if_neg e1]
  by_cases e2:i = p
  ·subst e2; rw [if_pos rfl,if_pos rfl]
  ·rw [if_neg e2,if_neg e1,if_neg e2]
theorem Kp {F : Nat → Nat → Qi} {n m p c : Nat} {x : Nat → Qi} (hp : p < n) (hc : c < n) : wQ (fun i => F (Sn p c i)) n m x ↔ wQ F n m x :=
 ⟨fun h i hi=>by have:=h _ (Ir hp hc hi); simp only [So] at this; exact this,fun h i hi=>h _ (Ir hp hc hi)⟩
theorem Zt {F G:Nat → Nat → Qi} {n m c:Nat} {x f:Nat → Qi} (hc:c < n) (hG:∀ i,i < n → ∀ j,j < m → G i j = if c < i then F i j - f i * F c j else F i j):wQ G n m x ↔ wQ F n m x:=by
 have key : ∀ i, i < n → aI m (fun k => G i k * x k) = if c < i then aI m (fun k => F i k * x k) - f i * aI m (fun k => F c k * x k) else aI m (fun k => F i k * x k) := fun i hi => by
  by_cases e:c < i
  ·rw [if_pos e, ← uK]
   exact aB fun k hk=>by rw [hG i hi k hk,if_pos e]; grind
  ·rw [if_neg e]
   exact aB fun k hk=>by rw [hG i hi k hk,if_neg e]
 have kc:=key c hc
 rw [if_neg zo] at kc
 constructor
 ·intro h i hi
  have h0:=h c hc
  rw [kc] at h0
  have h1:=h i hi
  rw [key i hi] at h1
  by_cases e:c < i
  ·rw [if_pos e,h0] at h1; grind
  ·rw [if_neg e] at h1; exact h1
 ·intro h i hi
  rw [key i hi]
  by_cases e:c < i
  ·rw [if_pos e,h i hi,h c hc]; grind
  ·rw [if_neg e]; exact h i hi
theorem a2X {M:List (List Qi)} {n m c i j:Nat} (h:cF M n m) (hi:i < n) (hj:j < m):gm (redM M c n) i j = if c < i ∧ c < j then gm M i j - gm M i c / gm M c c * gm M c j else gm M i j:=by
 have hr:(dN M i).length = m:=h.row hi
 have e0 : dN (redM M c n) i = if c < i ∧ i < n then lT (dN M i) (dN M c) c (dN M i).length else dN M i := by
  simp only [dN,redM,List.getD]; rw [cH (by rw [h.1]; exact hi)]; rfl
 show gv (dN (redM M c n) i) j = _
 rw [e0]
 by_cases e:c < i
 ·rw [if_pos ⟨e, hi⟩, lT, kK zo]
  by_cases e2:c < j
  ·rw [if_pos ⟨e2,by omega⟩,if_pos ⟨e,e2⟩]
  ·rw [if_neg (fun k=>e2 k.1),if_neg (fun k=>e2 k.2)]
 ·rw [if_neg (fun k=>e k.1),if_neg (fun k=>e k.1)]
theorem a1u {A:List (List Qi)} {p c i j:Nat} (hc:c < A.length) (hp:p < A.length) (hcp:c ≤ p):wO (swp [] A p c) c i j = wO A c (Sn p c i) j:=by
 have key:gm (swp [] A p c) i j = gm A (Sn p c i) j:=congrArg (fun r=>gv r j) (Ot zo zo)
 unfold wO
 rw [key]
 have e:(j < c ∧ j < i) ↔ (j < c ∧ j < Sn p c i):=by unfold Sn; split <;> (try split) <;> omega
 by_cases h:j < c ∧ j < i
 ·rw [if_pos h,if_pos (e.1 h)]
 ·rw [if_neg h,if_neg (fun k=>h (e.2 k))]
structure EL (M A:List (List Qi)) (n m c:Nat):Prop where
 sh:cF A n m
 ker:∀ x,wQ (wO A c) n m x ↔ wQ (gm M) n m x
theorem EL.next {M A:List (List Qi)} {n m c p:Nat} (h:EL M A n m c) (hc:c < n) (hcm:c < m) (hcp:c ≤ p) (hp:p < n) (hz:gm A p c ≠ 0):EL M (redM (if p = c then A else swp [] A p c) c n) n m (c + 1):=by
 have hl:=h.sh.1
 obtain ⟨B,hB⟩:∃ B,B = if p = c then A else swp [] A p c:=⟨_,rfl⟩
 have hs : cF B n m := by
  rw [hB]; split
  ·exact h.sh
  ·exact Bi h.sh hp hc
 have hBk : ∀ x, wQ (wO B c) n m x ↔ wQ (gm M) n m x := fun x => by
  rw [hB]; split
  ·exact h.ker x
  ·exact (Cl (G:=fun i=>wO A c (Sn p c i)) fun i hi j hj=>a1u zo zo hcp).trans ((Kp hp hc).trans (h.ker x))
 have hBz : gm B c c ≠ 0 := by
  rw [hB]; split
  ·rename_i e; rw [← e] at hz ⊢; exact hz
  ·show gv (dN (swp [] A p c) c) c ≠ 0
   rw [zK zo]; exact hz
 rw [← hB]
 refine ⟨Ln hs,fun x=>(Zt (f:=fun i=>gm B i c / gm B c c) hc fun i hi j hj=>?_).trans (hBk x)⟩
 have hd:=qT (x:=gm B i c) hBz
 unfold wO
 rw [a2X hs hi hj]
 by_cases e:c < i
 ·rw [if_pos e]
  by_cases e1:j < c
  ·rw [if_pos zo,if_pos zo,if_pos zo]; grind
  ·by_cases e2 : j = c
   ·subst e2
    rw [if_pos zo,if_neg zo,if_neg zo]; grind
   ·rw [if_neg zo,if_pos zo,if_neg zo,if_neg zo]
 ·rw [if_neg e, if_neg (show ¬ (c < i ∧ c < j) from fun k => e k.1)]
  by_cases e1:j < i
  ·rw [if_pos (show j < c + 1 ∧ j < i by omega),if_pos (show j < c ∧ j < i by omega)]
  ·rw [if_neg (show ¬ (j < c + 1 ∧ j < i) by omega),if_neg (show ¬ (j < c ∧ j < i) by omega)]
theorem Gz {M : List (List Qi)} {n m : Nat} (hs : cF M n m) (hnm : n ≤ m) : ∀ {c : Nat}, c ≤ n → (cM M c).2.2 < 0 → EL M (cM M c).1 n m c
 | 0,_,_=>⟨hs,fun x=>Cl fun i _ j _=>by unfold wO; rw [if_neg zo]; rfl⟩
 | c + 1, hc, h => by
  obtain ⟨i1,i2,i3,i4⟩:=nU (M:=(cM M c).1) (c:=c) (n:=M.length) (by rw [hs.1]; omega)
  simp only [cM] at h ⊢
  by_cases e:0 ≤ (cM M c).2.2
  ·rw [if_pos e] at h; omega
  ·rw [if_neg e] at h ⊢
   have ih:=Gz hs hnm (c:=c) zo zo
   by_cases e2:pv (cM M c).1 c M.length = M.length
   ·rw [if_pos e2] at h; simp only at h; omega
   ·rw [if_neg e2]
    rw [hs.1] at i3 i4 e2 ⊢
    exact ih.next zo zo (by rw [hs.1] at i2; exact i2) zo (i4 zo)
theorem Fb {M : List (List Qi)} : ∀ {n : Nat}, 0 ≤ (cM M n).2.2 → ∃ c, c < n ∧ (cM M c).2.2 < 0 ∧ pv (cM M c).1 c M.length = M.length
 | 0,h=>absurd h (by show ¬ (0:Int) ≤ -1; omega)
 | c + 1, h => by
  by_cases e:0 ≤ (cM M c).2.2
  ·obtain ⟨d, h1, h2⟩ := Fb e
   exact ⟨d,by omega,h2⟩
  ·simp only [cM] at h
   rw [if_neg e] at h
   by_cases e2:pv (cM M c).1 c M.length = M.length
   ·exact ⟨c,by omega,by omega,e2⟩
   ·rw [if_neg e2] at h; simp only at h; omega
theorem wM {U : List (List Qi)} {x y : List Qi} {n c : Nat} : ∀ {K : Nat}, (∀ k, k < K → gv x (c + 1 + k) = gv y (c + 1 + k)) → oK U x n c K = oK U y n c K
 | 0,_=>rfl
 | K + 1,h=>by rw [oK,oK,wM (fun k hk=>h k zo),h K zo]
theorem Lx (U : List (List Qi)) (x : List Qi) (n c : Nat) : ∀ K, oK U x n c K = gm U c n - aI K (fun k => gm U c (c + 1 + k) * gv x (c + 1 + k))
 | 0=>by simp only [oK,aI,q0]; grind
 | K + 1=>by simp only [oK,aI,Lx U x n c K]; grind
theorem Wu {U : List (List Qi)} {n : Nat} : ∀ {j : Nat}, j ≤ n → ∀ c, n - j ≤ c → c < n → gv (nQ U n j) c = oK U (nQ U n j) n c (n - 1 - c) / gm U c c
 | 0,_,c,h1,h2=>by omega
 | j + 1, hj, c, h1, h2 => by
  have hl:=uO U n j
  rw [nQ]
  by_cases e:c = n - (j + 1)
  ·subst e
   rw [tX zo,if_pos rfl,show n - 1 - (n - (j + 1)) = j by omega]
   rw [wM (x:=(nQ U n j).set _ _) (y:=nQ U n j) fun k hk=>by rw [tX zo,if_neg zo]]
  ·rw [tX zo, if_neg e, Wu (j := j) zo c zo h2]
   rw [wM (x:=(nQ U n j).set _ _) (y:=nQ U n j) fun k hk=>by rw [tX zo,if_neg zo]]
theorem oF (a : Nat) (f : Nat → Qi) : ∀ b, aI (a + b) f = aI a f + aI b fun k => f (a + k)
 | 0=>by simp only [aI,q0,Nat.add_zero]; grind
 | b + 1=>by rw [← Nat.add_assoc]; simp only [aI,oF a f b]; grind
theorem Sr {U:List (List Qi)} {n i:Nat} (hi:i < n) (y:Nat → Qi):aI n (fun k=>wO U n i k * y k) = gm U i i * y i + aI (n - 1 - i) fun k=>gm U i (i + 1 + k) * y (i + 1 + k):=by
 have e:n = i + 1 + (n - 1 - i):=by omega
 have h1:aI i (fun k=>wO U n i k * y k) = 0:=dT fun k hk=>by unfold wO; rw [if_pos zo]; grind
 have h2:wO U n i i = gm U i i:=by unfold wO; rw [if_neg zo]
 have h3:aI (n - 1 - i) (fun k=>wO U n i (i + 1 + k) * y (i + 1 + k)) = aI (n - 1 - i) fun k=>gm U i (i + 1 + k) * y (i + 1 + k):=aB fun k hk=>by unfold wO; rw [if_neg zo]
 have h4:=oF (i + 1) (fun k=>wO U n i k * y k) (n - 1 - i)
 rw [← e] at h4
 rw [h4,h3]
 simp only [aI,h1,h2]; grind
theorem Sq {U:List (List Qi)} {n i:Nat} (hd:∀ j,j < n → gm U j j ≠ 0) (hi:i < n):aI n (fun k=>wO U n i k * gv (nQ U n n) k) = gm U i n:=by
 rw [Sr hi,Wu (Nat.le_refl n) i zo hi,Lx]
 have:=qT (x:=gm U i n - aI (n - 1 - i) (fun k=>gm U i (i + 1 + k) * gv (nQ U n n) (i + 1 + k))) (hd i hi)
 grind
theorem Lz {U : List (List Qi)} {n : Nat} (hd : ∀ j, j < n → gm U j j ≠ 0) {y : Nat → Qi} (h : ∀ i, i < n → aI n (fun k => wO U n i k * y k) = 0) : ∀ t k, n - t ≤ k → k < n → y k = 0
 | 0,k,h1,h2=>by omega
 | t + 1, k, h1, h2 => by
  have h3:=h k h2
  rw [Sr h2,dT (fun j hj=>by rw [Lz hd h t (k + 1 + j) zo zo]; grind)] at h3
  rcases jP (x:=gm U k k) (y:=y k) (by grind) with h4 | h4
  ·exact absurd h4 (hd k h2)
  ·exact h4
theorem pS {M:List (List Qi)} {b:List Qi} {n:Nat} (h:cF M n n) (hE:jF M b n = 0):(∀ i,i < n → aI n (fun k=>gm M i k * gv (iY M b n) k) = gv b i) ∧ ∀ y:Nat → Qi,(∀ i,i < n → aI n (fun k=>gm M i k * y k) = 0) → ∀ k,k < n → y k = 0:=by
 have hcs:cF (kF M [b] n) n (n + 1):=lJ h
 have hst : (qX M b n).2.2 < 0 := by
  unfold jF at hE
  by_cases e:0 ≤ (qX M b n).2.2
  ·rw [if_pos e] at hE; omega
  ·omega
 have hg:=Gz hcs (Nat.le_succ n) (Nat.le_refl n) hst
 have hd:=pF hcs (Nat.le_refl n) hst
 obtain ⟨U,hU⟩:∃ U,U = (qX M b n).1:=⟨_,rfl⟩
 have hX:iY M b n = nQ U n n:=by rw [hU]; rfl
 have hU2:(cM (kF M [b] n) n).1 = U:=hU.symm
 rw [hU2] at hg hd
 rw [hX]
 refine ⟨fun i hi=>?_,fun y hy k hk=>?_⟩
 ·have h1 := (hg.ker fun k => if k < n then gv (nQ U n n) k else -1).1 (fun i hi => by
   simp only [aI]
   rw [aB (g:=fun k=>wO U n i k * gv (nQ U n n) k) (fun k hk=>by rw [if_pos hk]),Sq hd hi,if_neg zo,show wO U n i n = gm U i n by unfold wO; rw [if_neg zo]]
   grind) i hi
  rw [Nb h hi,aB (g:=fun k=>gm M i k * gv (nQ U n n) k) (fun k hk=>by rw [if_pos hk]),if_neg zo] at h1
  grind
 ·have h1 := (hg.ker fun k => if k < n then y k else 0).2 (fun i hi => by
   rw [Nb h hi,aB (g:=fun k=>gm M i k * y k) (fun k hk=>by rw [if_pos hk]),if_neg zo,hy i hi]; grind)
  refine Lz (y:=y) hd (fun i hi=>?_) n k zo hk
  have h2:=h1 i hi
  simp only [aI] at h2
  rw [aB (g:=fun k=>wO U n i k * y k) (fun k hk=>by rw [if_pos hk]),if_neg zo] at h2
  grind
theorem Df {M:List (List Qi)} {b:List Qi} {n:Nat} (h:cF M n n) (hE:jF M b n ≠ 0):∃ y:Nat → Qi,(∀ i,i < n → aI n (fun k=>gm M i k * y k) = 0) ∧ ∃ k,k < n ∧ y k ≠ 0:=by
 have hcs:cF (kF M [b] n) n (n + 1):=lJ h
 have hst : 0 ≤ (qX M b n).2.2 := by
  unfold jF at hE
  by_cases e:0 ≤ (qX M b n).2.2
  ·exact e
  ·rw [if_neg e] at hE; exact absurd rfl hE
 obtain ⟨c,hc,hA,hp⟩:=Fb hst
 have hg:=Gz hcs (Nat.le_succ n) zo hA
 have hd:=pF hcs zo hA
 obtain ⟨U,hU⟩:∃ U,U = (cM (kF M [b] n) c).1:=⟨_,rfl⟩
 rw [← hU] at hg hd hp
 rw [hcs.1] at hp
 have hz:=(nU (M:=U) (c:=c) (n:=n) zo).1
 rw [hp] at hz
 have key := (hg.ker fun k => if k < c then gv (nQ U c c) k else if k = c then -1 else 0).1 (fun i hi => by
  have e:n + 1 = c + (1 + (n - c)):=by omega
  rw [e,oF,oF]
  have z3:aI (n - c) (fun k=>wO U c i (c + (1 + k)) * (if c + (1 + k) < c then gv (nQ U c c) (c + (1 + k)) else if c + (1 + k) = c then -1 else 0)) = 0:=dT fun k hk=>by rw [if_neg zo,if_neg zo]; grind
  have z2 : aI 1 (fun k => wO U c i (c + k) * (if c + k < c then gv (nQ U c c) (c + k) else if c + k = c then -1 else 0)) = wO U c i c * -1 := by
   rw [yD,if_neg zo,if_pos zo]; rfl
  have z1:aI c (fun k=>wO U c i k * (if k < c then gv (nQ U c c) k else if k = c then -1 else 0)) = aI c (fun k=>wO U c i k * gv (nQ U c c) k):=aB fun k hk=>by rw [if_pos hk]
  rw [z1,z2,z3]
  have zc:wO U c i c = gm U i c:=by unfold wO; rw [if_neg zo]
  rw [zc]
  by_cases e2:i < c
  ·rw [Sq hd e2]; grind
  ·rw [hz i zo hi,dT (fun k hk=>by unfold wO; rw [if_pos zo]; grind),q0]; grind)
 refine ⟨fun k=>if k < c then gv (nQ U c c) k else if k = c then -1 else 0,fun i hi=>?_,c,hc,?_⟩
 ·have h1 := key i hi
  rw [Nb h hi,if_neg zo,if_neg zo] at h1
  grind
 ·show (if c < c then gv (nQ U c c) c else if c = c then (-1 : Qi) else 0) ≠ 0
  rw [if_neg zo,if_pos rfl]
  intro e
  exact absurd (congrArg Qi.re e) (by decide)
end
section
open Go Go.RowKit
abbrev gnI (G:List Nat):List Int:=G.map fun (q:Nat)=>(q:Int) + 1
def lU (G : List Nat) : Nat → List Nat
 | 0=>[]
 | k + 1=>lU G k ++ (if k ∈ G then [] else [k])
theorem sB (G : List Nat) : ∀ k, (lU G k).length ≤ k
 | 0=>Nat.le_refl _
 | k + 1 => by
  have:=sB G k
  simp only [lU,List.length_append]
  split
  ·simp; omega
  ·simp; omega
theorem Hw {G : List Nat} : ∀ {k x : Nat}, x ∈ lU G k → x < k
 | 0,x,h=>by cases h
 | k + 1, x, h => by
  rcases List.mem_append.1 h with h1 | h1
  ·have:=Hw h1; omega
  ·split at h1
   ·cases h1
   ·have:=List.mem_singleton.1 h1; omega
theorem Aw {p : Nat} : ∀ {k : Nat}, lU [p] k = tab (Tk p k) (pI p)
 | 0=>by rw [lU,show Tk p 0 = 0 by unfold Tk; split <;> omega]; rfl
 | k + 1 => by
  rw [lU,Aw]
  by_cases c:k = p
  ·subst c
   rw [if_pos (by simp),List.append_nil,show Tk k (k + 1) = Tk k k by unfold Tk; split <;> split <;> omega]
  ·rw [if_neg (by simpa using c)]
   have e1:pI p (Tk p k) = k:=by unfold pI Tk; split <;> split <;> omega
   have e2:Tk p (k + 1) = Tk p k + 1:=by unfold Tk; split <;> split <;> omega
   rw [e2,lH,e1]
theorem a2f {p n:Nat} (h:p < n):(lU [p] n).map Nat.succ = Cm p (n - 1):=by rw [Aw,Gv h,Bj]; rfl
theorem Za {G:List Nat} {i:Nat}:((gnI G).any fun x=>decide (((i + 1:Nat):Int) = x)) = decide (i ∈ G):=by
 rw [Bool.eq_iff_iff]
 simp only [gnI,List.any_map,List.any_eq_true,Function.comp,decide_eq_true_eq]
 constructor
 ·rintro ⟨q, h1, h2⟩
  obtain rfl:i = q:=by omega
  exact h1
 ·intro h; exact ⟨i,h,by omega⟩
abbrev gE (Q:List Nat) (i:Nat):Nat:=Q.getD i 0
def Dh (z:List Qi) (Q:List Nat):List Qi:=tab Q.length fun i=>gv z (gE Q i)
def a0K (s:List (List Qi)) (Q:List Nat):List (List Qi):=tab Q.length fun i=>tab Q.length fun j=>gm s (gE Q i) (gE Q j)
theorem Ij {Q:List Nat} {n i:Nat} (h:∀ x,x ∈ Q → x < n) (hi:i < Q.length):gE Q i < n:=h _ (by rw [show gE Q i = Q[i] by simp [gE,List.getD,hi]]; exact List.getElem_mem hi)
theorem qO {Q:List Nat} {i:Nat} (h:i < Q.length):(Q.map Nat.succ)[i]? = some (gE Q i + 1):=by simp [gE,List.getD,h]
theorem yE {m i:Nat} {p:Nat} (h:i < m):gE (tab m (pI p)) i = pI p i:=nC h
theorem a0M (z:List Qi) (p m:Nat):Dh z (tab m (pI p)) = zE z p m:=by
 rw [Dh,aD]; exact bT fun i hi=>by rw [yE hi]
theorem a0L (s:List (List Qi)) (p m:Nat):a0K s (tab m (pI p)) = a6g s p m:=by
 rw [a0K,aD]; exact bT fun i hi=>bT fun j hj=>by rw [yE hi,yE hj]
theorem a3a {p m n : Nat} (hp : p < n) (hm : m = n - 1) : ∀ x, x ∈ tab m (pI p) → x < n := fun x hx => by
 obtain ⟨i,hi,rfl⟩:=gC.1 hx; exact Om zo hp
theorem a2i (p m:Nat):(tab m (pI p)).map Nat.succ = Cm p m:=by rw [Bj]; rfl
end
section
open Go Go.RowKit
def gq (ps:List (Nat × Nat)) (x:Nat):Nat:=if x % 2 = 0 then pA ps (x / 2) else pB ps (x / 2)
def kW (x:Nat):Nat:=if x % 2 = 0 then x + 1 else x - 1
theorem Rz (x:Nat):kW (kW x) = x:=by unfold kW; split <;> split <;> omega
theorem sI {x k:Nat} (h:x < 2 * k):kW x < 2 * k:=by unfold kW; split <;> omega
theorem a22 (ps:List (Nat × Nat)) (k:Nat):gq ps (2 * k) = pA ps k:=by unfold gq; rw [if_pos zo,show 2 * k / 2 = k by omega]
theorem a4t (ps:List (Nat × Nat)) (k:Nat):gq ps (2 * k + 1) = pB ps k:=by unfold gq; rw [if_neg zo,show (2 * k + 1) / 2 = k by omega]
structure Jn (ps:List (Nat × Nat)) (n K:Nat):Prop where
 lt:∀ x,x < 2 * K → gq ps x < n
 inj:∀ x y,x < 2 * K → y < 2 * K → gq ps x = gq ps y → x = y
theorem Jn.le {ps:List (Nat × Nat)} {n K k:Nat} (h:Jn ps n K) (hk:k ≤ K):Jn ps n k:=⟨fun x hx=>h.lt x zo,fun x y hx hy=>h.inj x y zo zo⟩
def oH (S:List (List Qi)) (ps:List (Nat × Nat)) (m:Nat):List (List Qi):=tab m fun x=>tab m fun y=>(if x = y then Qi.ofInt 1 else Qi.ofInt 0) - gm S (gq ps (kW x)) (gq ps y)
def Ko (S:List (List Qi)) (ps:List (Nat × Nat)) (m b:Nat):List Qi:=tab m fun x=>gm S (gq ps (kW x)) b
theorem oV (S:List (List Qi)) (ps:List (Nat × Nat)) (m:Nat):cF (oH S ps m) m m:=cF.tab
theorem Qx {S:List (List Qi)} {ps:List (Nat × Nat)} {m x:Nat} (hx:x < m) (v:Nat → Qi):aI m (fun y=>gm (oH S ps m) x y * v y) = v x - aI m fun y=>gm S (gq ps (kW x)) (gq ps y) * v y:=by
 have e : ∀ y, y < m → gm (oH S ps m) x y * v y = (if y = x then v x else 0) - 1 * (gm S (gq ps (kW x)) (gq ps y) * v y) := fun y hy => by
  have : gm (oH S ps m) x y = (if x = y then Qi.ofInt 1 else Qi.ofInt 0) - gm S (gq ps (kW x)) (gq ps y) := by
   show gv ((oH S ps m).getD x []) y = _
   rw [oH,nC hx,kK hy]
  rw [this]
  by_cases c:y = x
  ·subst c; rw [if_pos rfl,if_pos rfl,q1]; grind
  ·rw [if_neg c,if_neg (Ne.symm c),show Qi.ofInt 0 = (0:Qi) from rfl]; grind
 rw [aB e,uK,eA hx (fun k _ hk=>if_neg hk),if_pos rfl]; grind
def Nm (S:List (List Qi)) (ps:List (Nat × Nat)) (m a b:Nat):Qi:=gm S a b + aI m fun y=>gm S a (gq ps y) * gv (iY (oH S ps m) (Ko S ps m b) m) y
end
section
open Go Go.RowKit
def Ee (x y:Nat):Int:=if 8 < x + y then 4 else 0
def Ef (z zb:List Qi):List Qi:=dM (Ee z.length zb.length) (z ++ zb)
def wL (z zb:List Qi) (a b:List (List Qi)):List (List Qi):=dM (Ee z.length zb.length) (oJ a b z.length zb.length)
theorem Sl {x y:Nat} (h:8 < x + y):Ee x y = 4:=if_pos h
theorem a5h {x y:Nat} (h:¬ 8 < x + y):Ee x y = 0:=if_neg h
def fI (n:Nat) (p:Int) (o:List Int):Int:=if ¬ (1 ≤ p ∧ p ≤ n) then 1 else if (o.any fun x=>decide (p = x)) = true then 8 else 0
def Ad (n:Nat) (l:List Int):Int:=kU (fun i=>fI n (l.getD i 0) (l.take i)) l.length
def a6e (l:List Int):List Nat:=l.map fun p=>(p - 1).toNat
theorem xG {n:Nat} {p:Int} {o:List Int} (h:fI n p o = 0):1 ≤ p ∧ p ≤ n:=by
 unfold fI at h
 split at h
 ·omega
 ·rename_i c; exact Decidable.not_not.1 c
theorem Oh {n : Nat} {l : List Int} (h : Ad n l = 0) : ∀ x, x ∈ l → 1 ≤ x ∧ x ≤ n := fun x hx => by
 obtain ⟨i,hi,e⟩:=List.getElem_of_mem hx
 have:=xG (iT h i hi)
 rw [show l.getD i 0 = x by rw [List.getD,List.getElem?_eq_getElem hi,e]; rfl] at this
 exact this
theorem a0l {n:Nat} {l:List Int} (h:Ad n l = 0):l.map (aP .i64) = ((a6e l).map Nat.succ).map (NT .i64):=by
 rw [a6e,List.map_map,List.map_map]
 refine List.map_congr_left fun p hp=>?_
 have:=Oh h p hp
 show aP .i64 p = aP .i64 (((p - 1).toNat + 1:Nat):Int)
 congr 1; omega
end
section
open Go Go.RowKit
def nE (js:List (Int × Int)):List Int:=js.flatMap fun q=>[q.1,q.2]
def dB (js:List (Int × Int)):List (Nat × Nat):=js.map fun q=>((q.1 - 1).toNat,(q.2 - 1).toNat)
abbrev kL (js:List (Int × Int)) (k:Nat):Int × Int:=js.getD k (0,0)
theorem a2a (a b:List (Int × Int)):nE (a ++ b) = nE a ++ nE b:=by simp [nE]
theorem Kn {js:List (Int × Int)} {k:Nat} (h:k < js.length):nE (js.take (k + 1)) = nE (js.take k) ++ [(kL js k).1,(kL js k).2]:=by
 rw [List.take_succ_eq_append_getElem h,a2a]
 simp [nE,kL,List.getD,h]
theorem oU : ∀ (js : List (Int × Int)), (nE js).length = 2 * js.length
 | []=>rfl
 | q :: r => by
  have:=oU r
  have e:nE (q :: r) = q.1 :: q.2 :: nE r:=rfl
  rw [e,List.length_cons,List.length_cons,List.length_cons,this]; omega
theorem Qv : ∀ (js : List (Int × Int)) {x : Nat}, x < 2 * js.length → (nE js).getD x 0 = if x % 2 = 0 then (kL js (x / 2)).1 else (kL js (x / 2)).2
 | [],x,h=>by simp at h
 | q :: r,0,_=>rfl
 | q :: r,1,_=>rfl
 | q :: r, x + 2, h => by
  have ih:=Qv r (x:=x) (by simp only [List.length_cons] at h; omega)
  have e:nE (q :: r) = q.1 :: q.2 :: nE r:=rfl
  rw [e]
  show (nE r).getD x 0 = _
  rw [ih,show (x + 2) % 2 = x % 2 by omega,show (x + 2) / 2 = x / 2 + 1 by omega]
  rfl
theorem Nn {js:List (Int × Int)} {k:Nat} (h:k < js.length):pA (dB js) k = ((kL js k).1 - 1).toNat ∧ pB (dB js) k = ((kL js k).2 - 1).toNat:=by
 simp [pA,pB,dB,kL,List.getD,h]
theorem jgq {js:List (Int × Int)} {x:Nat} (h:x < 2 * js.length):gq (dB js) x = ((nE js).getD x 0 - 1).toNat:=by
 have h2:x / 2 < js.length:=by omega
 rw [Qv js h,gq,(Nn h2).1,(Nn h2).2]
 split <;> rfl
theorem Lh {n:Nat} {A:List Int} (h:Ad n A = 0) (a:Int):Ad n (A ++ [a]) = fI n a A:=by
 rw [Ad,List.length_append,List.length_singleton]
 have e : kU (fun i => fI n ((A ++ [a]).getD i 0) ((A ++ [a]).take i)) A.length = 0 := kG fun i hi => by
  have:=iT h i hi
  rw [List.take_append_of_le_length zo]
  have e2:(A ++ [a]).getD i 0 = A.getD i 0:=by simp [List.getD,List.getElem?_append_left hi]
  rw [e2]; exact this
 rw [kU,e,if_neg (by simp),List.take_append_of_le_length (Nat.le_refl _),List.take_length]
 congr 1
 simp [List.getD]
theorem Uw {n:Nat} {A:List Int} (h:Ad n A = 0) (a b:Int):Ad n (A ++ [a,b]) = if fI n a A ≠ 0 then fI n a A else fI n b (A ++ [a]):=by
 have e:A ++ [a,b] = (A ++ [a]) ++ [b]:=by simp
 by_cases c:fI n a A = 0
 ·rw [if_neg (fun k=>k c),e,Lh (by rw [Lh h]; exact c)]
 ·rw [if_pos c]
  have h1 : kU (fun i => fI n ((A ++ [a, b]).getD i 0) ((A ++ [a, b]).take i)) A.length = 0 := kG fun i hi => by
   have:=iT h i hi
   rw [List.take_append_of_le_length zo]
   have e2:(A ++ [a,b]).getD i 0 = A.getD i 0:=by simp [List.getD,List.getElem?_append_left hi]
   rw [e2]; exact this
  have h2 : fI n ((A ++ [a, b]).getD A.length 0) ((A ++ [a, b]).take A.length) = fI n a A := by
   rw [List.take_append_of_le_length (Nat.le_refl _),List.take_length]
   congr 1
   simp [List.getD]
  rw [Ad,uS (k:=A.length) (fun i hi=>iT h1 i hi) (by rw [h2]; exact c) (by simp)]
  exact h2
def Ab (z : List Qi) (js : List (Int × Int)) (k : Nat) : Int :=
 if fI z.length (kL js k).1 (nE (js.take k)) ≠ 0 then fI z.length (kL js k).1 (nE (js.take k))
 else if fI z.length (kL js k).2 (nE (js.take k) ++ [(kL js k).1]) ≠ 0 then fI z.length (kL js k).2 (nE (js.take k) ++ [(kL js k).1])
 else if gv z ((kL js k).1 - 1).toNat = gv z ((kL js k).2 - 1).toNat then 0 else 40
def Ck (z:List Qi) (js:List (Int × Int)):Int:=kU (Ab z js) js.length
theorem Zs {z:List Qi} {js:List (Int × Int)} {k:Nat} (h:Ab z js k = 0):fI z.length (kL js k).1 (nE (js.take k)) = 0 ∧ fI z.length (kL js k).2 (nE (js.take k) ++ [(kL js k).1]) = 0 ∧ gv z ((kL js k).1 - 1).toNat = gv z ((kL js k).2 - 1).toNat:=by
 unfold Ab at h
 by_cases c1:fI z.length (kL js k).1 (nE (js.take k)) = 0
 ·rw [if_neg (fun k => k c1)] at h
  by_cases c2:fI z.length (kL js k).2 (nE (js.take k) ++ [(kL js k).1]) = 0
  ·rw [if_neg (fun k => k c2)] at h
   by_cases c3:gv z ((kL js k).1 - 1).toNat = gv z ((kL js k).2 - 1).toNat
   ·exact ⟨c1,c2,c3⟩
   ·rw [if_neg c3] at h; omega
  ·rw [if_pos c2] at h; exact absurd h c2
 ·rw [if_pos c1] at h; exact absurd h c1
theorem jpr {z : List Qi} {js : List (Int × Int)} : ∀ {k : Nat}, k ≤ js.length → (∀ j, j < k → Ab z js j = 0) → Ad z.length (nE (js.take k)) = 0
 | 0,_,_=>rfl
 | k + 1, hk, h => by
  have ih:=jpr (z:=z) (js:=js) (k:=k) zo fun j hj=>h j zo
  obtain ⟨h1,h2,_⟩:=Zs (h k zo)
  rw [Kn zo,Uw ih,if_neg (fun k=>k h1)]; exact h2
theorem Nl {z:List Qi} {js:List (Int × Int)} (h:Ck z js = 0):Ad z.length (nE js) = 0:=by
 have:=jpr (z:=z) (Nat.le_refl js.length) (iT h)
 rwa [List.take_length] at this
theorem Ua {n : Nat} {p : Int} {o : List Int} (h : fI n p o = 0) : p ∉ o := fun hm => by
 have h1:=xG h
 unfold fI at h
 rw [if_neg (fun k=>k h1),if_pos (List.any_eq_true.2 ⟨p,hm,by simp⟩)] at h
 omega
theorem a2S {n:Nat} {l:List Int} (h:Ad n l = 0) {x y:Nat} (hx:x < l.length) (hy:y < l.length) (e:l.getD x 0 = l.getD y 0):x = y:=by
 have key : ∀ x y, x < y → y < l.length → l.getD x 0 ≠ l.getD y 0 := fun x y hxy hy e => by
  refine Ua (iT h y hy) ?_
  rw [← e]
  have e2:l.getD x 0 = l[x]'zo:=by simp [List.getD,show x < l.length by omega]
  rw [e2]
  exact List.mem_take_iff_getElem.2 ⟨x,by omega,rfl⟩
 rcases Nat.lt_trichotomy x y with c | c | c
 ·exact absurd e (key x y c hy)
 ·exact c
 ·exact absurd e.symm (key y x c hx)
theorem Fh {z:List Qi} {js:List (Int × Int)} (h:Ck z js = 0):Jn (dB js) z.length js.length:=by
 have hp:=Nl h
 have hl:=oU js
 have hr : ∀ x, x < 2 * js.length → 1 ≤ (nE js).getD x 0 ∧ (nE js).getD x 0 ≤ z.length := fun x hx => Oh hp _ (by
  rw [show (nE js).getD x 0 = (nE js)[x]'zo by simp [List.getD,show x < (nE js).length by omega]]; exact List.getElem_mem _)
 refine ⟨fun x hx=>?_,fun x y hx hy e=>?_⟩
 ·rw [jgq hx]; have:=hr x hx; omega
 ·rw [jgq hx, jgq hy] at e
  have h1:=hr x hx; have h2:=hr y hy
  exact a2S hp zo zo zo
def qB (js:List (Int × Int)):List Nat:=(nE js).map fun p=>(p - 1).toNat
def dP (z:List Qi) (js:List (Int × Int)):List Nat:=lU (qB js) z.length
def Zr (z:List Qi) (S:List (List Qi)) (js:List (Int × Int)):Int:=kU (fun y=>jF (oH S (dB js) (2 * js.length)) (Ko S (dB js) (2 * js.length) ((dP z js).getD y 0)) (2 * js.length)) (dP z js).length
def yX (z : List Qi) (S : List (List Qi)) (js : List (Int × Int)) : Int :=
 if Ck z js ≠ 0 then Ck z js else if js.length = 0 then 0 else if 2 * js.length = z.length then 4 else if Zr z S js = 0 then 0 else 6
def a64 (z:List Qi) (js:List (Int × Int)):List Qi:=Dh z (dP z js)
def a4D (z:List Qi) (S:List (List Qi)) (js:List (Int × Int)):List (List Qi):=tab (dP z js).length fun x=>tab (dP z js).length fun y=>Nm S (dB js) (2 * js.length) (gE (dP z js) x) (gE (dP z js) y)
def Hu (z:List Qi) (S:List (List Qi)) (js:List (Int × Int)):List Qi:=dM (yX z S js) (if js.length = 0 then z else a64 z js)
def Mc (z:List Qi) (S:List (List Qi)) (js:List (Int × Int)):List (List Qi):=dM (yX z S js) (if js.length = 0 then S else a4D z S js)
theorem Au (js:List (Int × Int)):(qB js).length = 2 * js.length:=by rw [qB,List.length_map,oU]
theorem Qw {js:List (Int × Int)} {j:Nat}:j ∈ qB js ↔ ∃ x,x < 2 * js.length ∧ gq (dB js) x = j:=by
 constructor
 ·intro h
  obtain ⟨p,hp,rfl⟩:=List.mem_map.1 h
  obtain ⟨x,hx,e⟩:=List.getElem_of_mem hp
  have hl:=oU js
  refine ⟨x,by omega,?_⟩
  rw [jgq zo,show (nE js).getD x 0 = p by rw [← e]; simp [List.getD,hx]]
 ·rintro ⟨x, hx, rfl⟩
  have hl:=oU js
  rw [jgq hx]
  refine List.mem_map.2 ⟨(nE js).getD x 0,?_,rfl⟩
  rw [show (nE js).getD x 0 = (nE js)[x]'zo by simp [List.getD,show x < (nE js).length by omega]]; exact List.getElem_mem _
theorem Zm {z : List Qi} {js : List (Int × Int)} {y : Nat} (hy : y < (dP z js).length) : (dP z js).getD y 0 < z.length := Hw (by
 rw [show (dP z js).getD y 0 = (dP z js)[y] by simp [List.getD,hy]]; exact List.getElem_mem hy)
end
section
open Go Go.RowKit
theorem Ci (M:List (List Qi)) (n:Nat):cF (qA M n) n n:=cF.tab
theorem yC (M:List (List Qi)) (b:List Qi) (n:Nat):(iY M b n).length = n:=uO _ _ _
theorem a3b {M : List (List Qi)} {b : List Qi} {n L : Nat} (h : cF M n n) (hM : aN M L) (hb : bP b L) (hL : 1 ≤ L) (hE : jF M b n = 0) : bP (iY M b n) (zM (mS L n) n) := a0G h hM hb hL (by
 unfold jF at hE
 by_cases e:0 ≤ (qX M b n).2.2
 ·rw [if_pos e] at hE; omega
 ·omega)
theorem Cj {M:List (List Qi)} {n:Nat} (h:sP M n = 0):∀ k,k < n → jF M (ek n k) n = 0:=iT h
theorem Fv {G H : Nat} (h : G ≤ H) : ∀ j, zM G j ≤ zM H j
 | 0=>h
 | j + 1 => by
  have:=Fv h j
  have h2:j * (zM G j + G + 2) ≤ j * (zM H j + H + 2):=Nat.mul_le_mul_left _ zo
  simp only [zM]; omega
def ovE (M:List (List Qi)) (n:Nat):Int:=if sP M n = 0 then 0 else 5
def ovX (Y M:List (List Qi)) (n:Nat):List (List Qi):=dM (ovE M n) (iJ Y (qA M n) n n n)
theorem a0f {M:List (List Qi)} {n:Nat} (h:ovE M n = 0):sP M n = 0:=by
 unfold ovE at h; split at h
 ·assumption
 ·omega
theorem vJ {n i j:Nat} (hi:i < n) (hj:j < n):gm (rO n) i j = if i = j then 1 else 0:=by
 show gv ((rO n).getD i []) j = _
 rw [rO,nC hi,Dn,tX (by rw [aD]; exact hi)]
 by_cases e:j = i
 ·subst e; rw [if_pos rfl,if_pos rfl]; rfl
 ·rw [if_neg e,if_neg (Ne.symm e),kK hj]; rfl
theorem qK {a b:List (List Qi)} {n m:Nat} (ha:cF a n m) (hb:cF b n m) (h:∀ i,i < n → ∀ j,j < m → gm a i j = gm b i j):a = b:=by
 rw [mY ha,mY hb]
 exact bT fun i hi=>bT fun j hj=>h i hi j hj
end
section
open Go Go.RowKit
def Lg (q:Int × Int):List Int:=[q.1,q.2]
abbrev JT (q:Int × Int):Ty:=gN [aP .i64 q.1,aP .i64 q.2]
abbrev Vu (js:List (Int × Int)):Ty:=kI 2 (js.map JT)
theorem a2R {q : Int × Int} : ∀ {i : Nat}, i < 2 → ([aP .i64 q.1, aP .i64 q.2] : List Ty)[i]? = some (aP .i64 ((Lg q).getD i 0))
 | 0,_=>rfl
 | 1,_=>rfl
theorem a0j {q : Int × Int} : ∀ {i : Nat}, i < 2 → (Lg q).take (i + 1) = (Lg q).take i ++ [(Lg q).getD i 0]
 | 0,_=>rfl
 | 1,_=>rfl
abbrev Hv (z:List Qi) (js:List (Int × Int)) (k i:Nat):Int:=fI z.length ((Lg (kL js k)).getD i 0) (nE (js.take k) ++ (Lg (kL js k)).take i)
theorem a67 {z : List Qi} {js : List (Int × Int)} {k : Nat} : ∀ {i : Nat}, i < 2 → (∀ x, x < i → Hv z js k x = 0) → Hv z js k i ≠ 0 → Ab z js k = Hv z js k i
 | 0, _, _, h => by
  have e:Hv z js k 0 = fI z.length (kL js k).1 (nE (js.take k)):=by simp [Hv,Lg]
  rw [e] at h ⊢
  rw [Ab,if_pos h]
 | 1, _, h0, h => by
  have e0:Hv z js k 0 = fI z.length (kL js k).1 (nE (js.take k)):=by simp [Hv,Lg]
  have e:Hv z js k 1 = fI z.length (kL js k).2 (nE (js.take k) ++ [(kL js k).1]):=by simp [Hv,Lg]
  have h1:=h0 0 zo
  rw [e0] at h1
  rw [e] at h ⊢
  rw [Ab,if_neg (fun k=>k h1),if_pos h]
theorem a68 {z : List Qi} {js : List (Int × Int)} {k : Nat} (h : ∀ x, x < 2 → Hv z js k x = 0) : (1 ≤ (kL js k).1 ∧ (kL js k).1 ≤ z.length) ∧ (1 ≤ (kL js k).2 ∧ (kL js k).2 ≤ z.length) ∧
  Ab z js k = if gv z ((kL js k).1 - 1).toNat = gv z ((kL js k).2 - 1).toNat then 0 else 40:=by
 have e0:Hv z js k 0 = fI z.length (kL js k).1 (nE (js.take k)):=by simp [Hv,Lg]
 have e:Hv z js k 1 = fI z.length (kL js k).2 (nE (js.take k) ++ [(kL js k).1]):=by simp [Hv,Lg]
 have h0:=h 0 zo
 have h1:=h 1 zo
 rw [e0] at h0
 rw [e] at h1
 exact ⟨xG h0,xG h1,by rw [Ab,if_neg (fun k=>k h0),if_neg (fun k=>k h1)]⟩
def Eb (z:List Qi) (js:List (Int × Int)):Int:=if Ck z js ≠ 0 then Ck z js else if 0 < 2 * js.length ∧ 2 * js.length = z.length then 4 else 0
def jeL (z:List Qi) (js:List (Int × Int)):List Int:=dM (Eb z js) (nE js)
theorem Zk {z:List Qi} {js:List (Int × Int)} (h:Ck z js ≠ 0):Eb z js = Ck z js:=if_pos h
theorem a29 {z:List Qi} {js:List (Int × Int)} (h:Ck z js = 0) (h2:0 < 2 * js.length ∧ 2 * js.length = z.length):Eb z js = 4:=by rw [Eb,if_neg (fun k=>k h),if_pos h2]
theorem a63 {z:List Qi} {js:List (Int × Int)} (h:Ck z js = 0) (h2:¬ (0 < 2 * js.length ∧ 2 * js.length = z.length)):Eb z js = 0:=by rw [Eb,if_neg (fun k=>k h),if_neg h2]
theorem Hl {z:List Qi} {js:List (Int × Int)} (h:Eb z js = 0):Ck z js = 0 ∧ ¬ (0 < 2 * js.length ∧ 2 * js.length = z.length):=by
 unfold Eb at h
 by_cases c:Ck z js = 0
 ·refine ⟨c, fun h2 => ?_⟩
  rw [if_neg (fun k=>k c),if_pos h2] at h
  omega
 ·rw [if_pos c] at h; exact absurd h c
theorem a65 {z:List Qi} {S:List (List Qi)} {js:List (Int × Int)} (h:Eb z js ≠ 0):yX z S js = Eb z js:=by
 unfold yX Eb at *
 by_cases c:Ck z js ≠ 0
 ·rw [if_pos c,if_pos c]
 ·rw [if_neg c] at h
  rw [if_neg c,if_neg c]
  by_cases d:0 < 2 * js.length ∧ 2 * js.length = z.length
  ·rw [if_neg zo,if_pos d.2,if_pos d]
  ·rw [if_neg d] at h; exact absurd rfl h
theorem a2c {z:List Qi} {S:List (List Qi)} {js:List (Int × Int)} (h:Eb z js = 0) (h2:js.length = 0):yX z S js = 0:=by
 obtain ⟨h1,_⟩:=Hl h
 rw [yX,if_neg (fun k=>k h1),if_pos h2]
theorem Zq {z:List Qi} {S:List (List Qi)} {js:List (Int × Int)} (h:Eb z js = 0) (h2:js.length ≠ 0):yX z S js = if Zr z S js = 0 then 0 else 6:=by
 obtain ⟨h1,h3⟩:=Hl h
 rw [yX,if_neg (fun k=>k h1),if_neg h2,if_neg zo]
theorem pig : ∀ {n m : Nat} {f : Nat → Nat}, (∀ x, x < m → f x < n) → (∀ x y, x < m → y < m → f x = f y → x = y) → m ≤ n
 | 0, m, f, h, _ => by
  cases m with
  | zero=>exact Nat.le_refl 0
  | succ m=>exact absurd (h 0 zo) zo
 | n + 1,0,_,_,_=>by omega
 | n + 1, k + 1, f, h, i => by
  have := pig (n := n) (m := k) (f := fun x => if f x = n then f k else f x) (fun x hx => by
   have h1:=h x zo
   have h2:=h k zo
   by_cases c:f x = n
   ·simp only [if_pos c]
    have:f k ≠ n:=fun e=>by have:=i x k zo zo (by rw [c,e]); omega
    omega
   ·simp only [if_neg c]; omega) (fun x y hx hy e=>by
   by_cases c:f x = n <;> by_cases d:f y = n
   ·exact i x y zo zo (by rw [c,d])
   ·simp only [if_pos c, if_neg d] at e
    have:=i k y zo zo e; omega
   ·simp only [if_neg c, if_pos d] at e
    have:=i x k zo zo e; omega
   ·simp only [if_neg c, if_neg d] at e
    exact i x y zo zo e)
  omega
theorem Qy {z:List Qi} {js:List (Int × Int)} (h:Ck z js = 0):2 * js.length ≤ z.length:=by
 have hj:=Fh h
 exact pig (f:=gq (dB js)) hj.lt hj.inj
theorem Zl {z:List Qi} {js:List (Int × Int)} (h:Ck z js = 0):(nE js).map (aP .i64) = ((qB js).map Nat.succ).map (NT .i64):=a0l (Nl h)
theorem Hn {js:List (Int × Int)} {x:Nat} (h:x < 2 * js.length):(qB js).getD x 0 = gq (dB js) x:=by
 have hl:=oU js
 rw [jgq h,qB]
 simp [List.getD,show x < (nE js).length by omega]
theorem Yy (G:List Nat):(gnI G).map (aP .i64) = (G.map Nat.succ).map (NT .i64):=by
 simp only [gnI,List.map_map]
 refine List.map_congr_left fun x _=>?_
 simp [Function.comp,NT]
theorem Ra {G : List Nat} {j : Nat} (h : j ∉ G) : ∀ {k : Nat}, j < k → j ∈ lU G k
 | k + 1, hk => by
  rw [lU,List.mem_append]
  by_cases e:j = k
  ·subst e; exact .inr (by rw [if_neg h]; simp)
  ·exact .inl (Ra h zo)
theorem Zj {z:List Qi} {js:List (Int × Int)} (h:Ck z js = 0) (h2:2 * js.length ≠ z.length):1 ≤ (dP z js).length:=by
 by_cases c:(dP z js).length = 0
 ·have hn : dP z js = [] := List.eq_nil_of_length_eq_zero c
  have hm : ∀ j, j < z.length → ∃ x, x < 2 * js.length ∧ gq (dB js) x = j := fun j hj => by
   by_cases d:j ∈ qB js
   ·exact Qw.1 d
   ·have := Ra d hj
    rw [show lU (qB js) z.length = [] from hn] at this
    cases this
  have:=Qy h
  have h3 : z.length ≤ 2 * js.length := pig (f := fun j => if hj : j < z.length then Classical.choose (hm j hj) else 0) (fun j hj => by
   simp only [dif_pos hj]; exact (Classical.choose_spec (hm j hj)).1) (fun x y hx hy e=>by
   simp only [dif_pos hx,dif_pos hy] at e
   rw [← (Classical.choose_spec (hm x hx)).2,← (Classical.choose_spec (hm y hy)).2,e])
  omega
 ·omega
theorem Qf (x : Qi) (l m : List Qi) : ∀ k, vN x l m k = x + aI k fun y => gv l y * gv m y
 | 0=>by rw [vN,aI,show Qi.zero = (0:Qi) from rfl]; grind
 | k + 1=>by rw [vN,Qf x l m k,aI]; grind
theorem a4n {S:List (List Qi)} {ps:List (Nat × Nat)} {m a b:Nat}:vN (gm S a b) (tab m fun x=>gm S a (gq ps x)) (iY (oH S ps m) (Ko S ps m b) m) m = Nm S ps m a b:=by
 rw [Qf,Nm]
 congr 1
 exact aB fun y hy=>by rw [kK hy]
theorem Hq {S : List (List Qi)} {ps : List (Nat × Nat)} {m L : Nat} (hf : aN S L) (hL : 1 ≤ L) : aN (oH S ps m) (L + 2) := aN.tab fun x y _ _ => by
 haveI h1:=hf.get hL (gq ps (kW x)) (gq ps y)
 haveI h2 : aE (if x = y then Qi.ofInt 1 else Qi.ofInt 0) 1 := by
  split
  ·exact iP
  ·exact (aE.zero (Nat.le_refl 1):aE Qi.zero 1)
 exact (fitSub:aE (_ - _) (1 + L + 1)).le zo
theorem a2b {S:List (List Qi)} {ps:List (Nat × Nat)} {m b L:Nat} (hf:aN S L) (hL:1 ≤ L):bP (Ko S ps m b) L:=bP.tab fun x _=>hf.get hL _ _
end
section
open Go Go.RowKit
theorem a54 {x:Qi} (h:gU x = true):x ≠ 0:=fun e=>(a55 h).2 (by rw [e]; rfl)
theorem Ml {z:List Qi} (h:z.all gU = true) {i:Nat} (hi:i < z.length):gv z i ≠ 0:=a54 (List.all_eq_true.1 h _ (by rw [show gv z i = z[i] by simp [gv,List.getD,hi]]; exact List.getElem_mem hi))
theorem Am {x y:Qi} {L M:Nat} (hx:aE x L) (hy:aE y M) (h:y ≠ 0):aE (x / y) (L + 3 * M + 2):=⟨hx.fit.div hy.fit h⟩
def oR (z w:List Qi) (i:Nat):Qi:=gv w i / gv z i
def rnP (z w:List Qi):List Qi:=tab w.length fun i=>Qi.ofInt 1 + oR z w i
def rnM (z w:List Qi):List Qi:=tab w.length fun i=>Qi.ofInt 1 - oR z w i
def mxE (st fa:List Qi) (s:List (List Qi)) (i j:Nat):Qi:=(if i = j then gv st i else Qi.ofInt 0) + gv fa i * gm s i j
def mxM (st fa:List Qi) (s:List (List Qi)) (n:Nat):List (List Qi):=tab n fun i=>tab n fun j=>mxE st fa s i j
theorem xM (st fa:List Qi) (s:List (List Qi)) (n:Nat):cF (mxM st fa s n) n n:=cF.tab
theorem a2q {st fa:List Qi} {s:List (List Qi)} {K L:Nat} (hs:bP st K) (hf:bP fa K) (hS:aN s L) (hK:1 ≤ K) (hL:1 ≤ L) (i j:Nat):aE (mxE st fa s i j) (2 * K + L + 2):=by
 haveI f1:=hf.get hK i
 haveI f2:=hS.get hL i j
 haveI f3 : aE (if i = j then gv st i else Qi.ofInt 0) K := by
  split
  ·exact hs.get hK i
  ·exact aE.zero hK
 have:aE (mxE st fa s i j) (K + (K + L + 1) + 1):=inferInstanceAs (aE (_ + _ * _) _)
 exact this.le zo
theorem xL {st fa:List Qi} {s:List (List Qi)} {n K L:Nat} (hs:bP st K) (hf:bP fa K) (hS:aN s L) (hK:1 ≤ K) (hL:1 ≤ L):aN (mxM st fa s n) (2 * K + L + 2):=aN.tab fun i j _ _=>a2q hs hf hS hK hL i j
theorem vC {z w:List Qi} {L M i:Nat} (hz:bP z L) (hw:bP w M) (hL:1 ≤ L) (hM:1 ≤ M) (hp:z.all gU = true) (hi:i < z.length):aE (oR z w i) (M + 3 * L + 2):=Am (hw.get hM i) (hz.get hL i) (Ml hp hi)
theorem xY {z w : List Qi} {L M : Nat} (hz : bP z L) (hw : bP w M) (hL : 1 ≤ L) (hM : 1 ≤ M) (hp : z.all gU = true) (hl : w.length = z.length) : bP (rnP z w) (M + 3 * L + 4) := bP.tab fun i hi => by
 haveI f1:=vC (i:=i) hz hw hL hM hp zo
 haveI:=iP
 have:aE (Qi.ofInt 1 + oR z w i) (1 + (M + 3 * L + 2) + 1):=fitAdd
 exact this.le zo
theorem xX {z w : List Qi} {L M : Nat} (hz : bP z L) (hw : bP w M) (hL : 1 ≤ L) (hM : 1 ≤ M) (hp : z.all gU = true) (hl : w.length = z.length) : bP (rnM z w) (M + 3 * L + 4) := bP.tab fun i hi => by
 haveI f1:=vC (i:=i) hz hw hL hM hp zo
 haveI:=iP
 have:aE (Qi.ofInt 1 - oR z w i) (1 + (M + 3 * L + 2) + 1):=fitSub
 exact this.le zo
abbrev Vy (z w:List Qi) (s:List (List Qi)):List (List Qi):=mxM (rnM z w) (rnP z w) s w.length
abbrev Ae (z w:List Qi) (s:List (List Qi)):List (List Qi):=mxM (rnP z w) (rnM z w) s w.length
def Fq (z w:List Qi) (s:List (List Qi)):Int:=if w.length ≠ z.length then 4 else if w.all gU = true then ovE (Ae z w s) w.length else 1
def rnZ (z w:List Qi) (s:List (List Qi)):List Qi:=dM (Fq z w s) w
def xZ (z w:List Qi) (s:List (List Qi)):List (List Qi):=dM (Fq z w s) (iJ (Vy z w s) (qA (Ae z w s) w.length) w.length w.length w.length)
theorem Se {z w:List Qi} {s:List (List Qi)} (h:w.length ≠ z.length):Fq z w s = 4:=if_pos h
theorem a57 {z w:List Qi} {s:List (List Qi)} (h:w.length = z.length) (hp:w.all gU ≠ true):Fq z w s = 1:=by rw [Fq,if_neg (fun k=>k h),if_neg hp]
theorem a3C {z w:List Qi} {s:List (List Qi)} (h:w.length = z.length) (hp:w.all gU = true):Fq z w s = ovE (Ae z w s) w.length:=by rw [Fq,if_neg (fun k=>k h),if_pos hp]
theorem a58 {z w:List Qi} {s:List (List Qi)} (h:w.length = z.length) (hp:w.all gU = true):xZ z w s = ovX (Vy z w s) (Ae z w s) w.length:=by rw [xZ,a3C h hp]; rfl
def Ik (i j:Nat):Qi:=if i = j then Qi.ofInt 1 else Qi.ofInt 0
theorem Sc (i j:Nat):aE (Ik i j) 1:=by
 unfold Ik; split
 ·exact iP
 ·exact aE.zero (Nat.le_refl 1)
end
section
open Go Go.RowKit
section
variable {φ:Qi → Qi → Bool} {z:List Qi} {js:List (Int × Int)}
end
theorem mZ {a b:List (List Qi)} {n k m i j:Nat} (hi:i < n) (hj:j < m):gm (iJ a b n k m) i j = aI k fun t=>gm a i t * gm b t j:=jG hi hj
theorem a2o {A : List (List Qi)} {n : Nat} (h : cF A n n) : iJ (rO n) A n n n = A := qK jO h fun i hi j hj => by
 rw [mZ hi hj,eA hi (f:=fun t=>gm (rO n) i t * gm A t j) fun k hk hne=>by rw [vJ hi hk,if_neg (Ne.symm hne)]; grind,vJ hi hi,if_pos rfl]; grind
theorem a2p {A : List (List Qi)} {n : Nat} (h : cF A n n) : iJ A (rO n) n n n = A := qK jO h fun i hi j hj => by
 rw [mZ hi hj,eA hj (f:=fun t=>gm A i t * gm (rO n) t j) fun k hk hne=>by rw [vJ hk hj,if_neg hne]; grind,vJ hj hj,if_pos rfl]; grind
abbrev jp1 (js:List (Int × Int)) (k:Nat):Nat:=((kL js k).1 - 1).toNat
abbrev jp2 (js:List (Int × Int)) (k:Nat):Nat:=((kL js k).2 - 1).toNat
theorem a66 {js:List (Int × Int)} {k:Nat} (h:k < js.length):gq (dB js) (2 * k) = jp1 js k ∧ gq (dB js) (2 * k + 1) = jp2 js k:=by
 obtain ⟨h1,h2⟩:=Nn h
 rw [a22,a4t]; exact ⟨h1,h2⟩
def zZ:Qi:=Qi.frac 1 0 2
theorem Qq:aE zZ 2:=⟨Qi.Fit.frac (by decide) (by decide) (by decide) (by decide) (by decide) (by decide) (by decide)⟩
section
variable {js:List (Int × Int)} {n:Nat}
end
theorem Av : ∀ n, lU [] n = tab n fun i => i
 | 0=>rfl
 | n + 1=>by rw [lU,Av n,lH]; rfl
end
section
open Go Go.RowKit
structure Eh (O:List Nat) (n:Nat):Prop where
 nd:O.Nodup
 all:∀ x,x ∈ O ↔ 1 ≤ x ∧ x ≤ n
theorem Eh.len {O:List Nat} {n:Nat} (h:Eh O n):O.length = n:=by
 refine Nat.le_antisymm ?_ ?_
 ·refine pig (n := n) (f := fun i => O.getD i 0 - 1) (fun x hx => ?_) (fun x y hx hy e => ?_)
  ·have := (h.all (O.getD x 0)).1 (by rw [show O.getD x 0 = O[x] by simp [List.getD, hx]]; exact List.getElem_mem hx)
   show O.getD x 0 - 1 < n; omega
  ·have a := (h.all (O.getD x 0)).1 (by rw [show O.getD x 0 = O[x] by simp [List.getD, hx]]; exact List.getElem_mem hx)
   have b:=(h.all (O.getD y 0)).1 (by rw [show O.getD y 0 = O[y] by simp [List.getD,hy]]; exact List.getElem_mem hy)
   have e2:O.getD x 0 = O.getD y 0:=by have:O.getD x 0 - 1 = O.getD y 0 - 1:=e; omega
   rw [show O.getD x 0 = O[x] by simp [List.getD,hx],show O.getD y 0 = O[y] by simp [List.getD,hy]] at e2
   exact (List.getElem_inj h.nd).1 e2
 ·have key : ∀ j, j < n → ∃ i, i < O.length ∧ O.getD i 0 = j + 1 := fun j hj => by
   obtain ⟨i,hi,e⟩:=List.getElem_of_mem ((h.all (j + 1)).2 ⟨by omega,by omega⟩)
   exact ⟨i,hi,by simp [List.getD,hi,e]⟩
  refine pig (n:=O.length) (f:=fun j=>if hj:j < n then Classical.choose (key j hj) else 0) (fun x hx=>by simp only [dif_pos hx]; exact (Classical.choose_spec (key x hx)).1) (fun x y hx hy e=>?_)
  simp only [dif_pos hx,dif_pos hy] at e
  have a:=(Classical.choose_spec (key x hx)).2
  have b:=(Classical.choose_spec (key y hy)).2
  rw [e] at a; omega
section
variable {O:List Nat} {n:Nat}
theorem Eh.at (h:Eh O n) {i:Nat} (hi:i < n):1 ≤ O.getD i 0 ∧ O.getD i 0 ≤ n:=by
 have hl:=h.len
 exact (h.all _).1 (by rw [show O.getD i 0 = O[i] by simp [List.getD,show i < O.length by omega]]; exact List.getElem_mem _)
theorem Eh.inj (h:Eh O n) {i j:Nat} (hi:i < n) (hj:j < n) (e:O.getD i 0 = O.getD j 0):i = j:=by
 have hl:=h.len
 rw [show O.getD i 0 = O[i] by simp [List.getD,show i < O.length by omega],show O.getD j 0 = O[j] by simp [List.getD,show j < O.length by omega]] at e
 exact (List.getElem_inj h.nd).1 e
end
end
section
open Go Go.RowKit
def a5z (S:Nat → Nat → Qi) (p q:Nat):Prop:=∀ v0 v1:Qi,v0 = S q p * v0 + S q q * v1 → v1 = S p p * v0 + S p q * v1 → v0 = 0 ∧ v1 = 0
theorem vF {M:List (List Qi)} {b:List Qi} {n:Nat} (h:cF M n n):jF M b n = 0 ↔ ∀ y:Nat → Qi,(∀ i,i < n → aI n (fun k=>gm M i k * y k) = 0) → ∀ k,k < n → y k = 0:=by
 constructor
 ·intro e; exact (pS h e).2
 ·intro hk
  apply Classical.byContradiction; intro e
  obtain ⟨y,hy,k,hkn,hne⟩:=Df h e
  exact hne (hk y hy k hkn)
theorem Oq (f:Nat → Qi):aI 2 f = f 0 + f 1:=by simp only [aI,q0]; grind
section
variable {S:List (List Qi)} {p q r t a b:Nat}
abbrev J1 (p q:Nat):List (Int × Int):=[(((p + 1:Nat):Int),((q + 1:Nat):Int))]
theorem p1n (p:Nat):(((p + 1:Nat):Int) - 1).toNat = p:=by omega
theorem a4F:dB (J1 p q) = [(p,q)]:=by simp only [dB,J1,List.map_cons,List.map_nil,p1n]
theorem a6y:qB (J1 p q) = [p,q]:=by
 have e:qB (J1 p q) = [(((p + 1:Nat):Int) - 1).toNat,(((q + 1:Nat):Int) - 1).toNat]:=rfl
 rw [e,p1n,p1n]
theorem a5a {v:Nat → Qi}:(aI 2 (fun y=>gm (oH S [(p,q)] 2) 0 y * v y) = v 0 - (gm S q p * v 0 + gm S q q * v 1)) ∧ (aI 2 (fun y=>gm (oH S [(p,q)] 2) 1 y * v y) = v 1 - (gm S p p * v 0 + gm S p q * v 1)):=by
 rw [Qx zo,Qx zo,Oq,Oq]
 exact ⟨rfl,rfl⟩
theorem Vm {x y:Qi} (h:x - y = 0):x = y:=by grind
theorem a2y {bb:List Qi}:jF (oH S [(p,q)] 2) bb 2 = 0 ↔ a5z (gm S) p q:=by
 rw [vF (oV _ _ _)]
 constructor
 ·intro h v0 v1 h0 h1
  have hk := h (fun k => if k = 0 then v0 else v1) (fun i hi => by
   obtain ⟨r0,r1⟩:=a5a (S:=S) (p:=p) (q:=q) (v:=fun k=>if k = 0 then v0 else v1)
   have c:i = 0 ∨ i = 1:=by omega
   rcases c with rfl | rfl
   ·rw [r0]; show v0 - (gm S q p * v0 + gm S q q * v1) = 0; clear r0 r1 h; grind
   ·rw [r1]; show v1 - (gm S p p * v0 + gm S p q * v1) = 0; clear r0 r1 h; grind)
  exact ⟨hk 0 zo,hk 1 zo⟩
 ·intro h y hy
  obtain ⟨r0,r1⟩:=a5a (S:=S) (p:=p) (q:=q) (v:=y)
  obtain ⟨a0,a1⟩:=h (y 0) (y 1) (Vm (by rw [← r0]; exact hy 0 zo)) (Vm (by rw [← r1]; exact hy 1 zo))
  intro k hk
  have c:k = 0 ∨ k = 1:=by omega
  rcases c with rfl | rfl
  ·exact a0
  ·exact a1
end
section
variable {S:Nat → Nat → Qi} {p q r t a b:Nat}
def S1 (S:Nat → Nat → Qi) (p q:Nat) (V:Nat → Qi × Qi) (a b:Nat):Qi:=S a b + (S a p * (V b).1 + S a q * (V b).2)
variable {V:Nat → Qi × Qi}
end
end
section
open Go Go.RowKit
def low (c a b:Nat):Nat:=c - (if a < c then 1 else 0) - (if b < c then 1 else 0)
def okP (N p q r t : Nat) : Bool :=
 decide ((lU [p,q] N).length = N - 2) && decide (low r p q < N - 2) && decide (low t p q < N - 2) && decide (low r p q ≠ low t p q) && decide (gE (lU [p,q] N) (low r p q) = r) && decide (gE (lU [p,q] N) (low t p q) = t)
 && decide ((lU [low r p q,low t p q] (N - 2)).map (gE (lU [p,q] N)) = lU [p,q,r,t] N) && decide ((lU [p,q,r,t] N).length = N - 4) && decide (lU [t,r,p,q] N = lU [p,q,r,t] N) && decide (lU [r,t,p,q] N = lU [p,q,r,t] N)
section
variable {z:List Qi} {S:List (List Qi)} {N p q r t:Nat} {ζ:Qi}
end
end
section
open Go Go.RowKit
def Gb (x:Qi) (N:Nat):Prop:=∃ p q:Int,x = Qi.mk (p:Rat) (q:Rat) ∧ p.natAbs ≤ N ∧ q.natAbs ≤ N
theorem Gb.le {x:Qi} {N M:Nat} (h:Gb x N) (k:N ≤ M):Gb x M:=by
 obtain ⟨p,q,e,h1,h2⟩:=h; exact ⟨p,q,e,by omega,by omega⟩
theorem Gb.add {x y:Qi} {N M:Nat} (h:Gb x N) (k:Gb y M):Gb (x + y) (N + M):=by
 obtain ⟨p,q,rfl,h1,h2⟩:=h; obtain ⟨r,s,rfl,k1,k2⟩:=k
 refine ⟨p + r,q + s,Qi.ext' ?_ ?_,by omega,by omega⟩
 ·show (p:Rat) + (r:Rat) = ((p + r:Int):Rat); push_cast; rfl
 ·show (q:Rat) + (s:Rat) = ((q + s:Int):Rat); push_cast; rfl
theorem Gb.neg {x:Qi} {N:Nat} (h:Gb x N):Gb (-x) N:=by
 obtain ⟨p,q,rfl,h1,h2⟩:=h
 refine ⟨-p,-q,Qi.ext' ?_ ?_,by omega,by omega⟩
 ·show -(p:Rat) = ((-p:Int):Rat); push_cast; rfl
 ·show -(q:Rat) = ((-q:Int):Rat); push_cast; rfl
theorem Gb.sub {x y:Qi} {N M:Nat} (h:Gb x N) (k:Gb y M):Gb (x - y) (N + M):=by rw [Qi.sub_def]; exact h.add k.neg
theorem qM {p q:Int} {N M:Nat} (h:p.natAbs ≤ N) (k:q.natAbs ≤ M):(p * q).natAbs ≤ N * M:=by rw [Int.natAbs_mul]; exact Nat.mul_le_mul h k
theorem Gb.mul {x y:Qi} {N M:Nat} (h:Gb x N) (k:Gb y M):Gb (x * y) (2 * N * M):=by
 obtain ⟨p,q,rfl,h1,h2⟩:=h; obtain ⟨r,s,rfl,k1,k2⟩:=k
 have a1:=qM h1 k1; have a2:=qM h2 k2; have a3:=qM h1 k2; have a4:=qM h2 k1
 have e:2 * N * M = N * M + N * M:=by rw [Nat.mul_assoc,Nat.two_mul]
 refine ⟨p * r - q * s,p * s + q * r,Qi.ext' ?_ ?_,by omega,by omega⟩
 ·rw [Qi.mul_re]; show (p:Rat) * (r:Rat) - (q:Rat) * (s:Rat) = ((p * r - q * s:Int):Rat); push_cast; rfl
 ·rw [Qi.mul_im]; show (p:Rat) * (s:Rat) + (q:Rat) * (r:Rat) = ((p * s + q * r:Int):Rat); push_cast; rfl
theorem Gb.sum {f : Nat → Qi} {N : Nat} : ∀ {n : Nat}, (∀ k, k < n → Gb (f k) N) → Gb (aI n f) (n * N)
 | 0,_=>⟨0,0,Qi.ext' rfl rfl,by simp,by simp⟩
 | n + 1, h => by
  rw [aI,Nat.succ_mul]
  exact (Gb.sum fun k hk=>h k zo).add (h n zo)
theorem Gb.fit {x:Qi} {N L:Nat} (h:Gb x N) (hN:N < BB ^ L) (hL:1 ≤ L):aE x L:=by
 obtain ⟨p,q,rfl,h1,h2⟩:=h
 have e:Qi.mk (p:Rat) (q:Rat) = Qi.mk' p q 1:=Qi.ext' (by rw [Qi.mk_re]; show (p:Rat) = p / ((1:Nat):Rat); grind) (by rw [Qi.mk_im]; show (q:Rat) = q / ((1:Nat):Rat); grind)
 rw [e]
 exact ⟨Qi.Fit.mk (by decide) zo zo (Qi.one_lt hL)⟩
theorem sK (n:Nat) (f:Nat → Qi):aI (n + 1) f = f 0 + aI n fun k=>f (k + 1):=by
 rw [Nat.add_comm n 1,oF,yD]
 exact congrArg _ (aB fun k _=>by rw [Nat.add_comm])
def fs : Nat → Nat → Nat
 | 0,_=>1
 | n + 1,N=>2 * (n + 1) * N * fs n (4 * N * N)
theorem No {F:Nat → Nat → Qi} {n:Nat} {x:Nat → Qi}:wQ F (n + 1) (n + 1) x ↔ (F 0 0 * x 0 + aI n (fun k=>F 0 (k + 1) * x (k + 1)) = 0) ∧ ∀ i,i < n → F (i + 1) 0 * x 0 + aI n (fun k=>F (i + 1) (k + 1) * x (k + 1)) = 0:=by
 constructor
 ·intro h
  exact ⟨by have:=h 0 zo; rwa [sK] at this,fun i hi=>by have:=h (i + 1) zo; rwa [sK] at this⟩
 ·rintro ⟨h1, h2⟩ i hi
  rw [sK]
  cases i with
  | zero=>exact h1
  | succ i=>exact h2 i zo
theorem Ly (n:Nat) (a b:Qi) (f g x:Nat → Qi):aI n (fun k=>(a * f k - b * g k) * x k) = a * aI n (fun k=>f k * x k) - b * aI n (fun k=>g k * x k):=by
 induction n with
 | zero=>simp only [aI,q0]; grind
 | succ n ih=>simp only [aI,ih]; grind
theorem zI (n:Nat) (a:Qi) (f x:Nat → Qi):aI n (fun k=>f k * (x k * a)) = a * aI n (fun k=>f k * x k):=by
 induction n with
 | zero=>simp only [aI,q0]; grind
 | succ n ih=>simp only [aI,ih]; grind
theorem a1Q {F : Nat → Nat → Qi} {n N : Nat} (hp : F 0 0 ≠ 0) (hN : 1 ≤ N) (hF : ∀ i, i < n + 1 → ∀ j, j ≤ n + 1 → Gb (F i j) N) (hk : ∀ v, wQ F (n + 1) (n + 1) v → ∀ k, k < n + 1 → v k = 0)
  (ih:∀ G:Nat → Nat → Qi,(∀ i,i < n → ∀ j,j ≤ n → Gb (G i j) (4 * N * N)) → (∀ v,wQ G n n v → ∀ k,k < n → v k = 0) → ∃ (y:Nat → Qi) (e:Qi),e ≠ 0 ∧ Gb e (fs n (4 * N * N)) ∧ (∀ k,k < n → Gb (y k) (fs n (4 * N * N))) ∧ ∀ i,i < n → aI n (fun k=>G i k * y k) = e * G i n) :
  ∃ (y:Nat → Qi) (e:Qi),e ≠ 0 ∧ Gb e (fs (n + 1) N) ∧ (∀ k,k < n + 1 → Gb (y k) (fs (n + 1) N)) ∧ ∀ i,i < n + 1 → aI (n + 1) (fun k=>F i k * y k) = e * F i (n + 1):=by
 obtain ⟨y, e, he, ge, gy, hy⟩ := ih (fun i j => F 0 0 * F (i + 1) (j + 1) - F (i + 1) 0 * F 0 (j + 1)) (fun i hi j hj => by
   have h1:=(hF 0 zo 0 zo).mul (hF (i + 1) zo (j + 1) zo)
   have h2:=(hF (i + 1) zo 0 zo).mul (hF 0 zo (j + 1) zo)
   exact (h1.sub h2).le (by rw [show 4 * N * N = 2 * N * N + 2 * N * N by rw [← Nat.add_mul]; congr 1; omega]; exact Nat.le_refl _)) (fun v hv k hkn=>by
   have hz := hk (fun k => if k = 0 then -(aI n fun k => F 0 (k + 1) * v k) else F 0 0 * v (k - 1)) (No.2 ⟨by
    simp only [if_true,Nat.add_sub_cancel,if_neg (Nat.succ_ne_zero _)]
    have:=zI n (F 0 0) (fun k=>F 0 (k + 1)) v
    simp only [Qi.mul_comm' _ (F 0 0)] at this ⊢
    rw [this]; grind,fun i hi=>by
    simp only [if_true,Nat.add_sub_cancel,if_neg (Nat.succ_ne_zero _)]
    have:=zI n (F 0 0) (fun k=>F (i + 1) (k + 1)) v
    simp only [Qi.mul_comm' _ (F 0 0)] at this ⊢
    rw [this]
    have h:=hv i hi
    have h2:=Ly n (F 0 0) (F (i + 1) 0) (fun k=>F (i + 1) (k + 1)) (fun k=>F 0 (k + 1)) v
    simp only [] at h
    rw [h2] at h
    grind⟩) (k + 1) zo
   simp only [Nat.add_sub_cancel,if_neg (Nat.succ_ne_zero _)] at hz
   rcases jP hz with h | h
   ·exact absurd h hp
   ·exact h)
 have hf1 : 1 ≤ fs n (4 * N * N) := by
  apply Decidable.byContradiction; intro h
  have h0:fs n (4 * N * N) = 0:=by omega
  rw [h0] at ge
  obtain ⟨p,q,e1,p1,p2⟩:=ge
  have hp0:p = 0:=by omega
  have hq0:q = 0:=by omega
  exact he (by rw [e1,hp0,hq0]; exact Qi.ext' rfl rfl)
 have hG : fs (n + 1) N = (n + 1) * (2 * fs n (4 * N * N) * N) := by
  rw [fs]; simp only [Nat.mul_comm,Nat.mul_left_comm,Nat.mul_assoc]
 have hG1:2 * fs n (4 * N * N) * N ≤ fs (n + 1) N:=by rw [hG]; exact Nat.le_mul_of_pos_left _ zo
 refine ⟨fun k=>if k = 0 then e * F 0 (n + 1) - aI n (fun k=>F 0 (k + 1) * y k) else y (k - 1) * F 0 0,e * F 0 0,fun h=>?_,?_,fun k hkn=>?_,fun i hi=>?_⟩
 ·rcases jP h with h | h
  ·exact he h
  ·exact hp h
 ·exact (ge.mul (hF 0 zo 0 zo)).le hG1
 ·cases k with
  | zero =>
   simp only [if_true]
   have h1:=ge.mul (hF 0 zo (n + 1) zo)
   have h2:Gb (aI n fun k=>F 0 (k + 1) * y k) (n * (2 * N * fs n (4 * N * N))):=Gb.sum fun k hk=>(hF 0 zo (k + 1) zo).mul (gy k hk)
   refine (h1.sub h2).le ?_
   have e3:n * (2 * N * fs n (4 * N * N)) = n * (2 * fs n (4 * N * N) * N):=by simp only [Nat.mul_comm,Nat.mul_left_comm,Nat.mul_assoc]
   have e4:(n + 1) * (2 * fs n (4 * N * N) * N) = n * (2 * fs n (4 * N * N) * N) + 2 * fs n (4 * N * N) * N:=Nat.succ_mul _ _
   rw [hG,e3,e4,Nat.add_comm]; exact Nat.le_refl _
  | succ k =>
   simp only [Nat.add_sub_cancel,if_neg (Nat.succ_ne_zero _)]
   exact ((gy k zo).mul (hF 0 zo 0 zo)).le hG1
 ·rw [sK]
  simp only [if_true,Nat.add_sub_cancel,if_neg (Nat.succ_ne_zero _)]
  rw [zI n (F 0 0) (fun k=>F i (k + 1)) y]
  cases i with
  | zero=>grind
  | succ i =>
   have h:=hy i zo
   have h2:=Ly n (F 0 0) (F (i + 1) 0) (fun k=>F (i + 1) (k + 1)) (fun k=>F 0 (k + 1)) y
   rw [h2] at h
   grind
theorem Yt : ∀ (n N : Nat) (F : Nat → Nat → Qi), 1 ≤ N → (∀ i, i < n → ∀ j, j ≤ n → Gb (F i j) N) → (∀ v, wQ F n n v → ∀ k, k < n → v k = 0) →
  ∃ (y:Nat → Qi) (e:Qi),e ≠ 0 ∧ Gb e (fs n N) ∧ (∀ k,k < n → Gb (y k) (fs n N)) ∧ ∀ i,i < n → aI n (fun k=>F i k * y k) = e * F i n
 | 0,N,F,_,_,_=>⟨fun _=>0,1,fun h=>by have:=congrArg Qi.re h; revert this; decide,⟨1,0,Qi.ext' rfl rfl,by simp [fs],by simp [fs]⟩,fun k hk=>by omega,fun i hi=>by omega⟩
 | n + 1, N, F, hN, hF, hk => by
  have hpz : ∃ p, p < n + 1 ∧ F p 0 ≠ 0 := by
   apply Classical.byContradiction; intro hno
   have hz : ∀ p, p < n + 1 → F p 0 = 0 := fun p hp => by
    apply Classical.byContradiction; intro h; exact hno ⟨p,hp,h⟩
   have := hk (fun k => if k = 0 then 1 else 0) (fun i hi => by
    rw [dT]
    intro k hk
    by_cases e:k = 0
    ·subst e; rw [hz i hi]; grind
    ·simp only [if_neg e]; grind) 0 zo
   simp only [if_true] at this
   have:=congrArg Qi.re this; revert this; decide
  obtain ⟨p,hp,hpz⟩:=hpz
  have hN4:1 ≤ 4 * N * N:=Nat.mul_pos zo zo
  obtain ⟨y, e, he, ge, gy, hy⟩ := a1Q (F := fun i => F (Sn p 0 i)) (n := n) (N := N) (by simpa [Sn] using hpz) hN (fun i hi j hj => hF _ (Ir hp zo hi) j hj)
   (fun v hv=>hk v ((Kp hp zo).1 hv)) (fun G hG hGk=>Yt n (4 * N * N) G hN4 hG hGk)
  refine ⟨y,e,he,ge,gy,fun i hi=>?_⟩
  have:=hy (Sn p 0 i) (Ir hp zo hi)
  simp only [So] at this
  exact this
theorem a1R {N:Nat}:∀ {n:Nat},n ≤ 4 → 1 ≤ N → fs n N ≤ 1610612736 * N ^ 15:=by
 intro n hn hN
 have hp:∀ k,k ≤ 15 → N ^ k ≤ N ^ 15:=fun k hk=>Nat.pow_le_pow_right hN hk
 have h0:=hp 0 zo; have h1:=hp 1 zo; have h3:=hp 3 zo; have h7:=hp 7 zo
 match n,hn with
 | 0,_=>rw [fs]; rw [Nat.pow_zero] at h0; omega
 | 1,_=>simp only [fs]; rw [show 2 * (0 + 1) * N * 1 = 2 * N ^ 1 by grind]; omega
 | 2,_=>simp only [fs]; rw [show 2 * (1 + 1) * N * (2 * (0 + 1) * (4 * N * N) * 1) = 32 * N ^ 3 by grind]; omega
 | 3,_=>simp only [fs]; rw [show 2 * (2 + 1) * N * (2 * (1 + 1) * (4 * N * N) * (2 * (0 + 1) * (4 * (4 * N * N) * (4 * N * N)) * 1)) = 12288 * N ^ 7 by grind]; omega
 | 4,_=>simp only [fs]; rw [show 2 * (3 + 1) * N * (2 * (2 + 1) * (4 * N * N) * (2 * (1 + 1) * (4 * (4 * N * N) * (4 * N * N)) * (2 * (0 + 1) * (4 * (4 * (4 * N * N) * (4 * N * N)) * (4 * (4 * N * N) * (4 * N * N))) * 1))) = 1610612736 * N ^ 15 by grind]; omega
theorem rW (x:Qi):((x.den:Int):Rat) * x.re = (x.a:Rat) ∧ ((x.den:Int):Rat) * x.im = (x.b:Rat):=by
 have h:=Qi.nc x.den_pos
 have h2:((x.den:Int):Rat) = (x.den:Rat):=by push_cast; rfl
 rw [h2]
 exact ⟨by rw [Qi.re_eq x]; grind,by rw [Qi.im_eq x]; grind⟩
theorem Il {L : Nat} {x : Nat → Qi} : ∀ k, (∀ j, j < k → aE (x j) L) → ∃ d : Nat, 0 < d ∧ d ≤ BB ^ (k * L) ∧ ∀ j, j < k → Gb (Qi.ofInt d * x j) (BB ^ (k * L))
 | 0,_=>⟨1,by decide,Nat.pow_pos eC,fun j hj=>by omega⟩
 | k + 1, h => by
  obtain ⟨d,d0,dl,hd⟩:=Il k fun j hj=>h j zo
  have hx:=(h k zo).fit
  have hm:=rW (x k)
  have hpow:BB ^ ((k + 1) * L) = BB ^ (k * L) * BB ^ L:=by rw [Nat.succ_mul,Nat.pow_add]
  refine ⟨d * (x k).den,Nat.mul_pos d0 (x k).den_pos,?_,fun j hj=>?_⟩
  ·rw [hpow]; exact Nat.mul_le_mul dl (Nat.le_of_lt hx.2.2)
  ·by_cases e : j = k
   ·subst e
    refine ⟨d * (x j).a,d * (x j).b,Qi.ext' ?_ ?_,?_,?_⟩
    ·rw [Qi.mul_re]
     show (((d * (x j).den:Nat):Int):Rat) * (x j).re - 0 * (x j).im = ((d * (x j).a:Int):Rat)
     have:=hm.1; push_cast at *; grind
    ·rw [Qi.mul_im]
     show (((d * (x j).den:Nat):Int):Rat) * (x j).im + 0 * (x j).re = ((d * (x j).b:Int):Rat)
     have:=hm.2; push_cast at *; grind
    ·rw [hpow]; exact qM (by simpa using dl) (Nat.le_of_lt hx.1)
    ·rw [hpow]; exact qM (by simpa using dl) (Nat.le_of_lt hx.2.1)
   ·obtain ⟨p, q, e1, h1, h2⟩ := hd j zo
    have er:=congrArg Qi.re e1; have ei:=congrArg Qi.im e1
    rw [Qi.mul_re] at er; rw [Qi.mul_im] at ei
    refine ⟨p * (x k).den,q * (x k).den,Qi.ext' ?_ ?_,?_,?_⟩
    ·rw [Qi.mul_re]
     have er:((d:Int):Rat) * (x j).re - 0 * (x j).im = (p:Rat):=er
     show (((d * (x k).den:Nat):Int):Rat) * (x j).re - 0 * (x j).im = ((p * (x k).den:Int):Rat)
     push_cast at *; grind
    ·rw [Qi.mul_im]
     have ei:((d:Int):Rat) * (x j).im + 0 * (x j).re = (q:Rat):=ei
     show (((d * (x k).den:Nat):Int):Rat) * (x j).im + 0 * (x j).re = ((q * (x k).den:Int):Rat)
     push_cast at *; grind
    ·rw [hpow]; exact qM h1 (by simpa using Nat.le_of_lt hx.2.2)
    ·rw [hpow]; exact qM h2 (by simpa using Nat.le_of_lt hx.2.2)
theorem Lb {d : Nat} (h : 0 < d) : Qi.ofInt d ≠ 0 := fun e => by
 have:=congrArg Qi.re e
 have h2:((d:Int):Rat) = ((0:Int):Rat):=this
 rw [Rat.intCast_inj] at h2; omega
end
section
open Go Go.RowKit
theorem Lv {M:List (List Qi)} {b:List Qi} {n m L K:Nat} (h:cF M n n) (hM:aN M L) (hb:bP b L) (hL:1 ≤ L) (hn:n ≤ m) (hbig:fs n (BB ^ ((m + 1) * L)) < BB ^ K) (hK:1 ≤ K) (hE:jF M b n = 0):bP (iY M b n) (4 * K + 2):=by
 obtain ⟨s1,s2⟩:=pS h hE
 have hrow : ∀ i, ∃ d : Nat, 0 < d ∧ ∀ j, j < n + 1 → Gb (Qi.ofInt d * (if j < n then gm M i j else gv b i)) (BB ^ ((m + 1) * L)) := fun i => by
  obtain ⟨d, d0, _, hd⟩ := Il (L := L) (x := fun j => if j < n then gm M i j else gv b i) (n + 1) fun j _ => by
   show aE (if j < n then gm M i j else gv b i) L
   split
   ·exact hM.get hL i j
   ·exact hb.get hL i
  exact ⟨d,d0,fun j hj=>(hd j hj).le (Nat.pow_le_pow_right eC (Nat.mul_le_mul_right _ zo))⟩
 have hd:∃ d:Nat → Nat,∀ i,0 < d i ∧ ∀ j,j < n + 1 → Gb (Qi.ofInt (d i) * (if j < n then gm M i j else gv b i)) (BB ^ ((m + 1) * L)):=⟨fun i=>Classical.choose (hrow i),fun i=>Classical.choose_spec (hrow i)⟩
 obtain ⟨d,hd⟩:=hd
 have cancel : ∀ {i : Nat} {u : Qi}, Qi.ofInt (d i) * u = 0 → u = 0 := fun {i u} hu => by
  rcases jP hu with k | k
  ·exact absurd k (Lb (hd i).1)
  ·exact k
 have hsum : ∀ (i : Nat) (v : Nat → Qi), aI n (fun k => Qi.ofInt (d i) * (if k < n then gm M i k else gv b i) * v k) = Qi.ofInt (d i) * aI n (fun k => gm M i k * v k) := fun i v => by
  rw [Qi.mul_comm',← iM]
  exact aB fun k hk=>by rw [if_pos hk]; grind
 have hN:1 ≤ BB ^ ((m + 1) * L):=Nat.pow_pos eC
 obtain ⟨y, e, he, ge, gy, hy⟩ := Yt n (BB ^ ((m + 1) * L)) (fun i j => Qi.ofInt (d i) * (if j < n then gm M i j else gv b i)) hN (fun i _ j hj => (hd i).2 j zo) (fun v hv => s2 v fun i hi => by
  have:=hv i hi
  simp only [] at this
  rw [hsum] at this
  exact cancel this)
 have hsol : ∀ k, k < n → y k - e * gv (iY M b n) k = 0 := s2 (fun k => y k - e * gv (iY M b n) k) fun i hi => by
  have h1:=hy i hi
  rw [hsum,if_neg zo] at h1
  have h2:=s1 i hi
  have h3 : aI n (fun k => gm M i k * (y k - e * gv (iY M b n) k)) = aI n (fun k => gm M i k * y k) - e * aI n (fun k => gm M i k * gv (iY M b n) k) := by
   rw [← uK]; exact aB fun k _=>by grind
  rw [h3,h2]
  exact cancel (i:=i) (by grind)
 intro x hx
 obtain ⟨k,hk,rfl⟩:=List.mem_iff_getElem.1 hx
 rw [yC] at hk
 have hg:(iY M b n)[k] = gv (iY M b n) k:=by simp [gv,List.getD,yC,hk]
 rw [hg]
 have e1:gv (iY M b n) k = y k / e:=(Ha he (by have:=hsol k hk; grind)).symm
 haveI f1:aE (y k) K:=(gy k hk).fit hbig hK
 haveI f2:aE e K:=ge.fit hbig hK
 rw [e1]
 exact (fitDiv (x:=y k) (y:=e)).le zo
end
section
open Go Go.RowKit
def Zh (l : List Nat) (p : Nat) : Nat → Int
 | 0=>-1
 | k + 1=>if l.getD (l.length - (k + 1)) 0 = p then ((l.length - (k + 1):Nat):Int) else Zh l p k
def Aa (l:List Nat) (p:Nat):Int:=Zh l p l.length
theorem a3A (l : List Nat) (p : Nat) : ∀ k, Zh l p k = -1 ∨ (0 ≤ Zh l p k ∧ (Zh l p k).toNat < l.length ∧ l.getD (Zh l p k).toNat 0 = p) ∨ l.length < k
 | 0=>.inl rfl
 | k + 1 => by
  rw [Zh]
  by_cases c:l.length < k + 1
  ·exact .inr (.inr c)
  ·by_cases e : l.getD (l.length - (k + 1)) 0 = p
   ·rw [if_pos e]; exact .inr (.inl ⟨by omega,by rw [Int.toNat_natCast]; omega,by rw [Int.toNat_natCast]; exact e⟩)
   ·rw [if_neg e]
    rcases a3A l p k with h | h | h
    ·exact .inl h
    ·exact .inr (.inl h)
    ·omega
theorem Qu (l:List Nat) (p:Nat):Aa l p = -1 ∨ (0 ≤ Aa l p ∧ (Aa l p).toNat < l.length ∧ l.getD (Aa l p).toNat 0 = p):=by
 rcases a3A l p l.length with h | h | h
 ·exact .inl h
 ·exact .inr h
 ·omega
theorem Zi {l : List Nat} {p : Nat} : ∀ {k : Nat}, k ≤ l.length → Zh l p k < 0 → ∀ x, l.length - k ≤ x → x < l.length → l.getD x 0 ≠ p
 | 0,_,_,x,h1,h2=>by omega
 | k + 1, hk, h, x, h1, h2 => by
  rw [Zh] at h
  by_cases e:l.getD (l.length - (k + 1)) 0 = p
  ·rw [if_pos e] at h; omega
  ·rw [if_neg e] at h
   by_cases c:x = l.length - (k + 1)
   ·rw [c]; exact e
   ·exact Zi (k:=k) zo h x zo h2
theorem a28 {l:List Nat} {p:Nat}:0 ≤ Aa l p ↔ p ∈ l:=by
 constructor
 ·intro h
  rcases Qu l p with k | ⟨_,k1,k2⟩
  ·omega
  ·rw [← k2,show l.getD (Aa l p).toNat 0 = l[(Aa l p).toNat] by simp [List.getD,k1]]; exact List.getElem_mem k1
 ·intro h
  apply Classical.byContradiction; intro hn
  obtain ⟨x,hx,e⟩:=List.getElem_of_mem h
  exact Zi (l:=l) (p:=p) (Nat.le_refl _) (show Zh l p l.length < 0 by have:¬ 0 ≤ Zh l p l.length:=hn; omega) x zo hx (by rw [show l.getD x 0 = l[x] by simp [List.getD,hx]]; exact e)
def Vw (js:List (Int × Int)):List Nat:=tab (2 * js.length) (gq (dB js))
def vP (js:List (Int × Int)):List Nat:=tab (2 * js.length) fun x=>gq (dB js) (kW x)
theorem Sm {α:Type} (f:Nat → α) (k:Nat):tab (2 * (k + 1)) f = tab (2 * k) f ++ [f (2 * k),f (2 * k + 1)]:=by
 rw [show 2 * (k + 1) = 2 * k + 1 + 1 by omega,lH,lH,List.append_assoc]; rfl
theorem a3B (js:List (Int × Int)):Vw js = qB js:=by
 have h:=Di (l:=qB js) (m:=2 * js.length) (Au js)
 rw [h]
 refine (bT fun x hx=>?_).symm
 exact Hn hx
theorem a2T (k:Nat):kW (2 * k) = 2 * k + 1 ∧ kW (2 * k + 1) = 2 * k:=by
 constructor
 ·rw [kW,if_pos zo]
 ·rw [kW,if_neg zo]; omega
theorem a4E {js:List (Int × Int)} {n k:Nat} (hp:Ad n (nE js) = 0) (hk:k < js.length):(kL js k).1 - 1 = ((gq (dB js) (2 * k):Nat):Int) ∧ (kL js k).2 - 1 = ((gq (dB js) (2 * k + 1):Nat):Int) ∧ -1000 ≤ (kL js k).1 ∧ (kL js k).1 ≤ n ∧ -1000 ≤ (kL js k).2 ∧ (kL js k).2 ≤ n:=by
 have hmm:=fun x hx=>Oh hp x hx
 have hm1:(kL js k).1 ∈ nE js:=by rw [nE,List.mem_flatMap]; exact ⟨kL js k,by rw [show kL js k = js[k] by simp [kL,List.getD,hk]]; exact List.getElem_mem hk,by simp⟩
 have hm2:(kL js k).2 ∈ nE js:=by rw [nE,List.mem_flatMap]; exact ⟨kL js k,by rw [show kL js k = js[k] by simp [kL,List.getD,hk]]; exact List.getElem_mem hk,by simp⟩
 have hb1:=hmm _ hm1
 have hb2:=hmm _ hm2
 obtain ⟨e1,e2⟩:=a66 hk
 rw [e1,e2]
 exact ⟨by show _ = (((kL js k).1 - 1).toNat:Int); omega,by show _ = (((kL js k).2 - 1).toNat:Int); omega,by omega,by omega,by omega,by omega⟩
def Vv (S:List (List Qi)) (js:List (Int × Int)) (x:Nat):List Qi:=iY (oH S (dB js) (2 * js.length)) (ek (2 * js.length) x) (2 * js.length)
def Qm (i k:Nat):Qi:=if k = i then Qi.ofInt 1 else Qi.ofInt 0
def Kl (S:List (List Qi)) (js:List (Int × Int)) (i k:Nat):Qi:=if 0 ≤ Aa (vP js) k then Qm i k + aI (2 * js.length) (fun y=>gm S i (gq (dB js) y) * gv (Vv S js (Aa (vP js) k).toNat) y) else Qm i k
def tI (S:List (List Qi)) (js:List (Int × Int)) (N:Nat):List (List Qi):=(lU (qB js) N).map fun i=>tab N fun k=>Kl S js i k
theorem a1W (i k:Nat):aE (Qm i k) 1:=by
 unfold Qm; split
 ·exact iP
 ·exact (aE.zero (Nat.le_refl 1):aE Qi.zero 1)
theorem a21 {S:List (List Qi)} {js:List (Int × Int)} {i t L G:Nat} {v:List Qi} (hf:aN S L) (hL:1 ≤ L) (hv:bP v G) (hG:1 ≤ G) (ht:t ≤ 8):aE (aI t fun y=>gm S i (gq (dB js) y) * gv v y) (8 * (L + G) + 17):=by
 refine (aE.sum (L:=L + G + 1) fun y _=>?_).le ?_
 ·haveI := hf.get hL i (gq (dB js) y); haveI := hv.get hG y
  exact fitMul
 ·have : t * (L + G + 1 + 1) ≤ 8 * (L + G + 1 + 1) := Nat.mul_le_mul_right _ ht
  omega
end
section
open Go Go.RowKit
def ntD (s:List (List Qi)) (g:Qi) (p:Nat):Qi:=Qi.ofInt 1 - gm s p p * g
def ntH (s:List (List Qi)) (g:Qi) (p:Nat):Qi:=Qi.ofInt 1 / ntD s g p
def Cw (s:List (List Qi)) (g:Qi) (p n i:Nat):List Qi:=((tab n fun _=>Qi.zero).set i (Qi.ofInt 1)).set p (gm s i p * kO s p g)
def zA (s:List (List Qi)) (g:Qi) (p n k:Nat):List (List Qi):=(lU [p] k).map (Cw s g p n)
def Ba (s:List (List Qi)) (g:Qi) (p k:Nat):List Qi:=(lU [p] k).map fun i=>gm s i p * ntH s g p
def Fj (z:List Qi) (g t:Qi) (p:Nat):Qi:=t * gv z p * (Qi.ofInt 1 - g * g.conj)
def ntX (z:List Qi) (s c:List (List Qi)) (g t:Qi) (p a b:Nat):Qi:=gm (iI (zA s g p z.length z.length) c) a b + Fj z g t p * (gv (Ba s g p z.length) a * (gv (Ba s g p z.length) b).conj)
def ntC (z:List Qi) (s c:List (List Qi)) (g t:Qi) (p:Nat):List (List Qi):=tab (z.length - 1) fun a=>tab (z.length - 1) fun b=>ntX z s c g t p a b
def Nz (z:List Qi) (s:List (List Qi)) (port:Int) (g t:Qi):Int:=if oL t = 0 then qY z s port g else oL t
def ntZ (z:List Qi) (s:List (List Qi)) (port:Int) (g t:Qi):List Qi:=dM (Nz z s port g t) (zE z (port - 1).toNat (z.length - 1))
def ntS (z:List Qi) (s:List (List Qi)) (port:Int) (g t:Qi):List (List Qi):=dM (Nz z s port g t) (Iu s (port - 1).toNat (z.length - 1) (kO s (port - 1).toNat g))
def ntQ (z:List Qi) (s c:List (List Qi)) (port:Int) (g t:Qi):List (List Qi):=dM (Nz z s port g t) (ntC z s c g t (port - 1).toNat)
theorem uW {p n:Nat} (h:p < n):(lU [p] n).length = n - 1:=by rw [Aw,aD,Gv h]
theorem Ma {z:List Qi} {s:List (List Qi)} {port:Int} {g:Qi} (h:qY z s port g = 0):(1 ≤ port ∧ port ≤ z.length) ∧ z.length ≠ 1 ∧ ntD s g (port - 1).toNat ≠ 0:=by
 rw [qY] at h
 by_cases c1:1 ≤ port ∧ port ≤ z.length
 ·rw [if_neg (fun k => k c1)] at h
  by_cases c2:z.length = 1
  ·rw [if_pos c2] at h; omega
  ·rw [if_neg c2] at h
   by_cases c3:Qi.ofInt 1 - gm s (port - 1).toNat (port - 1).toNat * g = Qi.zero
   ·rw [if_pos c3] at h; omega
   ·exact ⟨c1,c2,c3⟩
 ·rw [if_pos c1] at h; omega
theorem a4w {f:Nat → Qi} {l:List Nat} {a:Nat} (h:a < l.length):gv (l.map f) a = f (gE l a):=by simp [gv,gE,List.getD,h]
theorem Ni {f:Nat → List Qi} {l:List Nat} {a k:Nat} (h:a < l.length):gm (l.map f) a k = gv (f (gE l a)) k:=by simp [gm,gE,List.getD,h]
section
variable {z:List Qi} {s c:List (List Qi)} {g t:Qi} {p:Nat}
theorem a02 {n i k:Nat} (hi:i < n) (hp:p < n) (hk:k < n):gv (Cw s g p n i) k = if k = p then gm s i p * kO s p g else if k = i then Qi.ofInt 1 else Qi.zero:=by
 rw [Cw,tX (by rw [List.length_set,aD]; exact hp)]
 by_cases e:k = p
 ·rw [if_pos e,if_pos e]
 ·rw [if_neg e, if_neg e, tX (by rw [aD]; exact hi)]
  by_cases e2:k = i
  ·rw [if_pos e2,if_pos e2]
  ·rw [if_neg e2,if_neg e2,kK hk]
theorem Rk (s:List (List Qi)) (g:Qi) {n:Nat} (h:p < n):cF (zA s g p n n) (n - 1) n:=by
 refine ⟨by rw [zA,List.length_map,uW h],fun r hr=>?_⟩
 obtain ⟨i,_,rfl⟩:=List.mem_map.1 hr
 rw [Cw,List.length_set,List.length_set,aD]
theorem a3d {S : List (List Qi)} {n x : Nat} {d sp : Qi} (hnp : gm S n p = 0) (hnn : gm S n n = g) (hpn : gm S p n = 0) (hpp : gm S p p = sp) (hd : d = 1 - sp * g) (hd0 : d ≠ 0) (hx : x < 2) :
  gv (Vv S (J1 p n) x) 0 = (if x = 0 then 1 / d else g / d):=by
 have hk : a5z (gm S) p n := fun v0 v1 h0 h1 => by
  rw [hnp,hnn] at h0
  rw [hpp,hpn] at h1
  have e:v1 * d = 0:=by rw [hd]; grind
  rcases jP e with k | k
  ·exact ⟨by rw [h0,k]; grind,k⟩
  ·exact absurd k hd0
 have hE:jF (oH S [(p,n)] 2) (ek 2 x) 2 = 0:=a2y.2 hk
 have hs:=(pS (oV S [(p,n)] 2) hE).1
 have hgn:Vv S (J1 p n) x = iY (oH S [(p,n)] 2) (ek 2 x) 2:=by rw [Vv,a4F]; rfl
 rw [hgn]
 obtain ⟨r0,r1⟩:=a5a (S:=S) (p:=p) (q:=n) (v:=gv (iY (oH S [(p,n)] 2) (ek 2 x) 2))
 have h0:=hs 0 zo
 have h1:=hs 1 zo
 rw [r0,hnp,hnn] at h0
 rw [r1,hpp,hpn] at h1
 generalize gv (iY (oH S [(p,n)] 2) (ek 2 x) 2) 0 = v0 at *
 generalize gv (iY (oH S [(p,n)] 2) (ek 2 x) 2) 1 = v1 at *
 have c:x = 0 ∨ x = 1:=by omega
 rcases c with rfl | rfl
 ·rw [if_pos rfl]
  rw [show gv (ek 2 0) 0 = 1 from rfl] at h0
  rw [show gv (ek 2 0) 1 = 0 from rfl] at h1
  exact (Ha hd0 (by rw [hd]; grind)).symm
 ·rw [if_neg (by decide)]
  rw [show gv (ek 2 1) 0 = 0 from rfl] at h0
  rw [show gv (ek 2 1) 1 = 1 from rfl] at h1
  exact (Ha hd0 (by rw [hd]; grind)).symm
abbrev lV (s:List (List Qi)) (g:Qi) (n:Nat):List (List Qi):=oJ s [[g]] n 1
theorem a1a {n:Nat} (hp:p < n):gm (lV s g n) n p = 0 ∧ gm (lV s g n) n n = g ∧ gm (lV s g n) p n = 0 ∧ gm (lV s g n) p p = gm s p p:=by
 refine ⟨?_,?_,?_,?_⟩
 ·rw [jS zo zo,if_neg zo,if_neg zo]; rfl
 ·rw [jS zo zo,if_neg zo,if_pos zo,Nat.sub_self]; rfl
 ·rw [jS zo zo,if_pos hp,if_neg zo]; rfl
 ·rw [jS zo zo,if_pos hp,if_pos hp]
theorem a6z {n:Nat}:vP (J1 p n) = [n,p]:=by
 have e:vP (J1 p n) = [gq (dB (J1 p n)) (kW 0),gq (dB (J1 p n)) (kW 1)]:=rfl
 rw [e,a4F]; rfl
theorem a4B {n k:Nat} (hpn:p ≠ n):Aa [n,p] k = if k = n then 0 else if k = p then 1 else -1:=by
 have e:Aa [n,p] k = if n = k then ((0:Nat):Int) else if p = k then ((1:Nat):Int) else -1:=rfl
 rw [e]
 by_cases c:k = n
 ·rw [if_pos c.symm,if_pos c]; rfl
 ·rw [if_neg (Ne.symm c), if_neg c]
  by_cases c2:k = p
  ·rw [if_pos c2.symm,if_pos c2]; rfl
  ·rw [if_neg (Ne.symm c2),if_neg c2]
theorem a1Y {n i k:Nat} (hp:p < n) (hi:i < n) (hip:i ≠ p) (hk:k < n + 1) (hd:ntD s g p ≠ 0):Kl (lV s g n) (J1 p n) i k = if k < n then gv (Cw s g p n i) k else gm s i p * ntH s g p:=by
 obtain ⟨b1,b2,b3,b4⟩:=a1a (s:=s) (g:=g) hp
 have hin:gm (lV s g n) i n = 0:=by rw [jS zo zo,if_pos hi,if_neg zo]; rfl
 have hip2:gm (lV s g n) i p = gm s i p:=by rw [jS zo zo,if_pos hi,if_pos hp]
 have hdd:ntD s g p = 1 - gm s p p * g:=rfl
 have sol:=fun x (hx:x < 2)=>a3d (S:=lV s g n) (x:=x) b1 b2 b3 b4 hdd hd hx
 have hsum : ∀ v : List Qi, aI (2 * (J1 p n).length) (fun y => gm (lV s g n) i (gq (dB (J1 p n)) y) * gv v y) = gm s i p * gv v 0 := fun v => by
  show aI 2 (fun y=>gm (lV s g n) i (gq (dB (J1 p n)) y) * gv v y) = _
  rw [Oq,a4F,show gq [(p,n)] 0 = p from rfl,show gq [(p,n)] 1 = n from rfl,hin,hip2]; grind
 rw [Kl,a6z,a4B zo]
 by_cases c:k = n
 ·rw [if_pos c, if_pos (by decide), hsum, Qm, if_neg zo, if_neg zo]
  rw [show (0:Int).toNat = 0 from rfl,sol 0 zo,if_pos rfl]
  show Qi.ofInt 0 + gm s i p * (1 / ntD s g p) = gm s i p * ntH s g p
  rw [show ntH s g p = 1 / ntD s g p from rfl,show Qi.ofInt 0 = (0:Qi) from rfl]; grind
 ·rw [if_neg c, if_pos (show k < n by omega), a02 hi hp zo]
  by_cases c2:k = p
  ·rw [if_pos c2, if_pos (by decide), hsum, Qm, if_neg zo, if_pos c2]
   rw [show (1:Int).toNat = 1 from rfl,sol 1 zo,if_neg (by decide)]
   rw [show kO s p g = g / ntD s g p from rfl,show Qi.ofInt 0 = (0:Qi) from rfl]; grind
  ·rw [if_neg c2,if_neg (by decide),Qm,if_neg c2]; rfl
theorem Ax {n:Nat} (hp:p < n):lU (qB (J1 p n)) (n + 1) = lU [p] n:=by
 rw [a6y,lU,if_pos (by simp),List.append_nil]
 have : ∀ k, k ≤ n → lU [p, n] k = lU [p] k := fun k => by
  induction k with
  | zero=>intro _; rfl
  | succ k ih =>
   intro hk
   rw [lU,lU,ih zo]
   have e:(k ∈ [p,n]) ↔ (k ∈ [p]):=by simp; omega
   by_cases c:k ∈ [p]
   ·rw [if_pos c,if_pos (e.2 c)]
   ·rw [if_neg c,if_neg fun h=>c (e.1 h)]
 exact this n (Nat.le_refl n)
theorem pJ (n:Nat) (f:Nat → Qi):aI (n + 1) f = aI n f + f n:=rfl
theorem a03 {n:Nat} {r:Qi} (hn:z.length = n) (hp:p < n) (hc:cF c n n) (hd:ntD s g p ≠ 0) (hr:r = Fj z g t p):iI (tI (lV s g n) (J1 p n) (n + 1)) (oJ c [[r]] n 1) = ntC z s c g t p:=by
 have hl:(tI (lV s g n) (J1 p n) (n + 1)).length = n - 1:=by rw [tI,List.length_map,Ax hp,uW hp]
 have zZ:=uW hp
 have hq : ∀ a, a < n - 1 → gE (lU [p] n) a < n ∧ gE (lU [p] n) a ≠ p := fun a ha => by
  refine ⟨Ij (fun x hx=>Hw hx) zo,?_⟩
  rw [Aw,yE (by rw [Gv hp]; exact ha)]
  unfold pI; split <;> omega
 have hP : ∀ a k, a < n - 1 → k < n + 1 → gm (tI (lV s g n) (J1 p n) (n + 1)) a k = if k < n then gm (zA s g p n n) a k else gv (Ba s g p n) a := fun a k ha hk => by
  rw [tI,Ax hp,Ni zo,kK hk,a1Y hp (hq a ha).1 (hq a ha).2 hk hd,zA,Ni zo,Ba,a4w zo]
 have hcl:=hc.1
 have hsl:=(uJ c [[r]] n 1).1
 unfold iI ntC
 rw [hl,hn,hsl]
 refine bT fun a ha=>bT fun b hb=>?_
 have e1 : Ti (tI (lV s g n) (J1 p n) (n + 1)) (oJ c [[r]] n 1) (n + 1) a b = aI n (fun x => aI n fun y => pY (zA s g p n n) c a b x y) + gv (Ba s g p n) a * r * (gv (Ba s g p n) b).conj := by
  rw [Ti,pJ]
  congr 1
  ·refine aB fun x hx => ?_
   rw [pJ]
   have z0 : pY (tI (lV s g n) (J1 p n) (n + 1)) (oJ c [[r]] n 1) a b x n = 0 := by
    rw [pY,jS zo zo,if_pos hx,if_neg zo,q0]; grind
   rw [z0]
   have e2 : aI n (fun y => pY (tI (lV s g n) (J1 p n) (n + 1)) (oJ c [[r]] n 1) a b x y) = aI n fun y => pY (zA s g p n n) c a b x y := aB fun y hy => by
    rw [pY,pY,jS zo zo,if_pos hx,if_pos hy,hP a x ha zo,hP b y hb zo,if_pos hx,if_pos hy]
   rw [e2]; grind
  ·rw [pJ]
   have e2 : aI n (fun y => pY (tI (lV s g n) (J1 p n) (n + 1)) (oJ c [[r]] n 1) a b n y) = 0 := dT fun y hy => by
    rw [pY,jS zo zo,if_neg zo,if_neg zo,q0]; grind
   rw [e2,pY,hP a n ha zo,hP b n hb zo,if_neg zo,if_neg zo,jS zo zo,if_neg zo,if_pos (Nat.le_refl n),Nat.sub_self,show gm [[r]] 0 0 = r from rfl]
   grind
 rw [e1,ntX,hn]
 have hA:=Rk s g hp
 have e3 : gm (iI (zA s g p n n) c) a b = aI n (fun x => aI n fun y => pY (zA s g p n n) c a b x y) := by
  rw [iI,jG (by rw [hA.1]; exact ha) (by rw [hA.1]; exact hb),hcl]; rfl
 rw [e3,hr]; grind
theorem Np:t * (gv z p * (Qi.ofInt 1 - g * g.conj)) = Fj z g t p:=by rw [Fj]; grind
theorem a1X {S:List (List Qi)} {js:List (Int × Int)} {i k L G:Nat} (hf:aN S L) (hL:1 ≤ L) (hv:∀ x,bP (Vv S js x) G) (hG:1 ≤ G) (hj:2 * js.length ≤ 8):aE (Kl S js i k) (8 * (L + G) + 19):=by
 haveI g3:=a1W i k
 unfold Kl
 split
 ·haveI g4 := a21 (i := i) (t := 2 * js.length) (js := js) hf hL (hv (Aa (vP js) k).toNat) hG hj
  exact (fitAdd).le zo
 ·exact g3.le zo
theorem Qn {S : List (List Qi)} {js : List (Int × Int)} {N L G : Nat} (hf : aN S L) (hL : 1 ≤ L) (hv : ∀ x, bP (Vv S js x) G) (hG : 1 ≤ G) (hj : 2 * js.length ≤ 8) : aN (tI S js N) (8 * (L + G) + 19) := fun r hr => by
 obtain ⟨i,_,rfl⟩:=List.mem_map.1 hr
 exact bP.tab fun k _=>a1X hf hL hv hG hj
theorem a20 (S : List (List Qi)) (js : List (Int × Int)) (N : Nat) : cF (tI S js N) (lU (qB js) N).length N := ⟨by rw [tI, List.length_map], fun r hr => by
 obtain ⟨i,_,rfl⟩:=List.mem_map.1 hr; exact aD _ _⟩
theorem Uq {n i : Nat} (hs : aN s 2) (hg : aE g 2) : bP (Cw s g p n i) 28 := fun x hx => by
 haveI:=hg
 haveI f0:=iP
 haveI f1:aE (gm s p p) 2:=hs.get (by decide) p p
 haveI f2:aE (gm s i p) 2:=hs.get (by decide) i p
 haveI f3:aE (Qi.ofInt 1 - gm s p p * g) 7:=(fitSub (x:=Qi.ofInt 1) (y:=gm s p p * g))
 rcases List.mem_or_eq_of_mem_set hx with h | h
 ·rcases List.mem_or_eq_of_mem_set h with k | k
  ·obtain ⟨_,_,rfl⟩:=gC.1 k; exact aE.zero (by decide)
  ·rw [k]; exact f0.le (by decide)
 ·rw [h]; exact (fitMul (x:=gm s i p) (y:=g / (Qi.ofInt 1 - gm s p p * g)):aE _ (2 + 25 + 1))
theorem Rj {n k : Nat} (hs : aN s 2) (hg : aE g 2) : aN (zA s g p n k) 28 := fun r hr => by
 obtain ⟨i,_,rfl⟩:=List.mem_map.1 hr; exact Uq hs hg
theorem Ib {k : Nat} (hs : aN s 2) (hg : aE g 2) : bP (Ba s g p k) 27 := fun x hx => by
 obtain ⟨i,_,rfl⟩:=List.mem_map.1 hx
 haveI:=hg
 haveI f0:=iP
 haveI f1:aE (gm s p p) 2:=hs.get (by decide) p p
 haveI f2:aE (gm s i p) 2:=hs.get (by decide) i p
 haveI f3:aE (Qi.ofInt 1 - gm s p p * g) 7:=(fitSub (x:=Qi.ofInt 1) (y:=gm s p p * g))
 exact (fitMul (x:=gm s i p) (y:=Qi.ofInt 1 / (Qi.ofInt 1 - gm s p p * g)):aE _ (2 + 24 + 1))
theorem Rl (hz:bP z 2) (hg:aE g 2) (ht:aE t 2):aE (Fj z g t p) 13:=by
 haveI:=hg; haveI:=ht
 haveI f0:=iP
 haveI f1:aE (gv z p) 2:=hz.get (by decide) p
 exact (fitMul (x:=t * gv z p) (y:=Qi.ofInt 1 - g * g.conj))
end
end
section
open Go Go.RowKit
theorem Nq {A B C : List (List Qi)} {n : Nat} : iJ (iJ A B n n n) C n n n = iJ A (iJ B C n n n) n n n := qK jO jO fun i hi j hj => by
 rw [mZ hi hj,mZ hi hj]
 have e1 : aI n (fun t => gm (iJ A B n n n) i t * gm C t j) = aI n fun t => aI n fun u => gm A i u * gm B u t * gm C t j := aB fun t ht => by
  rw [mZ hi ht,← iM]
 have e2 : aI n (fun u => gm A i u * gm (iJ B C n n n) u j) = aI n fun u => aI n fun t => gm A i u * gm B u t * gm C t j := aB fun u hu => by
  rw [mZ hu hj,Qi.mul_comm',← iM]
  exact aB fun t _=>by grind
 rw [e1,e2,jJ]
theorem vX {n i j:Nat} (hi:i < n) (hj:j < n):gm (rO n) i j = if i = j then 1 else 0:=vJ hi hj
theorem Yo {n j i:Nat} (hi:i < n) (hj:j < n):gv (ek n j) i = if i = j then 1 else 0:=by
 have h:gv (ek n j) i = if j = i then 1 else 0:=vX (n:=n) hj hi
 rw [h]
 by_cases c:i = j
 ·rw [if_pos c,if_pos c.symm]
 ·rw [if_neg c,if_neg (Ne.symm c)]
theorem Zg {M : List (List Qi)} {n : Nat} (h : cF M n n) (hE : sP M n = 0) : iJ M (qA M n) n n n = rO n := qK jO (nR n) fun i hi j hj => by
 have hs:=(pS h (Cj hE j hj)).1 i hi
 rw [mZ hi hj,vX hi hj,← Yo hi hj,← hs]
 exact aB fun t ht=>by rw [show gm (qA M n) t j = gv (iY M (ek n j) n) t from jG ht hj]
theorem a2h {M X : List (List Qi)} {n : Nat} (h : iJ X M n n n = rO n) {y : Nat → Qi} (hy : ∀ i, i < n → aI n (fun k => gm M i k * y k) = 0) : ∀ k, k < n → y k = 0 := fun k hk => by
 have e1:aI n (fun i=>gm X k i * aI n (fun t=>gm M i t * y t)) = 0:=dT fun i hi=>by rw [hy i hi]; grind
 have e2 : aI n (fun i => gm X k i * aI n (fun t => gm M i t * y t)) = aI n fun i => aI n fun t => gm X k i * gm M i t * y t := aB fun i _ => by
  rw [Qi.mul_comm',← iM]; exact aB fun t _=>by grind
 have e3 : aI n (fun t => aI n fun i => gm X k i * gm M i t * y t) = aI n fun t => gm (rO n) k t * y t := aB fun t ht => by
  rw [← h,mZ hk ht,← iM]
 rw [e2,jJ,e3] at e1
 rw [eA (i:=k) hk (fun t ht hne=>by rw [vX hk ht,if_neg (Ne.symm hne)]; grind),vX hk hk,if_pos rfl] at e1
 grind
theorem Rc {M X : List (List Qi)} {n : Nat} (hM : cF M n n) (h : iJ X M n n n = rO n) : sP M n = 0 := kG fun k hk => by
 apply Classical.byContradiction; intro e
 obtain ⟨y,hy,k,hk,hne⟩:=Df hM e
 exact hne (a2h h hy k hk)
theorem a4G {M X Y:List (List Qi)} {n:Nat} (hX:cF X n n) (hY:cF Y n n) (h:iJ X M n n n = rO n) (k:iJ M Y n n n = rO n):X = Y:=by
 rw [← a2p hX,← k,← Nq,h,a2o hY]
theorem Sd {M Y:List (List Qi)} {n:Nat} (hM:cF M n n) (hY:cF Y n n) (h:iJ M Y n n n = rO n):iJ Y M n n n = rO n:=by
 have e:=Rc hY h
 have r:=Zg hY e
 rw [a4G hM (Ci Y n) h r]; exact r
theorem a3z {M:List (List Qi)} {n:Nat} (h:cF M n n) (hE:sP M n = 0):iJ (qA M n) M n n n = rO n:=Sd h (Ci M n) (Zg h hE)
theorem a2Z {M Y:List (List Qi)} {n:Nat} (hM:cF M n n) (hY:cF Y n n) (h:iJ M Y n n n = rO n):sP M n = 0:=Rc hM (Sd hM hY h)
section
variable {a b:Qi} {A B C:List (List Qi)} {d e:Nat → Qi} {n:Nat}
end
theorem q2:Qi.ofInt 2 = 2:=rfl
section
variable {z:List Qi} {s:List (List Qi)}
end
end
section
open Go Go.RowKit
theorem Ap {n C k : Nat} (h : ∀ N, 1 ≤ N → fs n N ≤ C * N ^ k) : ∀ N, 1 ≤ N → fs (n + 1) N ≤ 2 * (n + 1) * C * 4 ^ k * N ^ (2 * k + 1) := fun N hN => by
 have h4:1 ≤ 4 * N * N:=Nat.mul_pos zo zo
 have a:=h (4 * N * N) h4
 have e:(4 * N * N) ^ k = 4 ^ k * (N ^ k * N ^ k):=by rw [Nat.mul_pow,Nat.mul_pow,Nat.mul_assoc]
 have e2:N ^ (2 * k + 1) = N ^ k * N ^ k * N:=by rw [Nat.pow_succ,Nat.two_mul,Nat.pow_add]
 rw [fs,e2]
 refine Nat.le_trans (Nat.mul_le_mul_left _ a) ?_
 rw [e]
 refine Nat.le_of_eq ?_
 simp only [Nat.mul_comm,Nat.mul_left_comm,Nat.mul_assoc]
theorem Ao {n C k C' k' : Nat} (h : ∀ N, 1 ≤ N → fs n N ≤ C * N ^ k) (hC : C ≤ C') (hk : k ≤ k') : ∀ N, 1 ≤ N → fs n N ≤ C' * N ^ k' := fun N hN =>
 Nat.le_trans (h N hN) (Nat.mul_le_mul hC (Nat.pow_le_pow_right hN hk))
theorem Ng {n:Nat} (hn:n ≤ 6):∀ N,1 ≤ N → fs n N ≤ (2 * 6 * (2 * 5 * 1610612736 * 4 ^ 15) * 4 ^ 31) * N ^ 63:=by
 have h4:∀ m,m ≤ 4 → ∀ N,1 ≤ N → fs m N ≤ 1610612736 * N ^ 15:=fun m hm N hN=>a1R hm hN
 have h5:∀ N,1 ≤ N → fs 5 N ≤ (2 * 5 * 1610612736 * 4 ^ 15) * N ^ 31:=Ap (h4 4 (Nat.le_refl 4))
 have h6:∀ N,1 ≤ N → fs 6 N ≤ (2 * 6 * (2 * 5 * 1610612736 * 4 ^ 15) * 4 ^ 31) * N ^ 63:=Ap h5
 by_cases a:n ≤ 4
 ·exact Ao (h4 n a) (by decide) (by decide)
 ·by_cases b : n = 5
  ·subst b; exact Ao h5 (by decide) (by decide)
  ·obtain rfl : n = 6 := by omega
   exact h6
theorem Cy {C m k M:Nat} (h:m + k = M) (hC:C < BB ^ k):C * BB ^ m < BB ^ M:=by
 subst h
 rw [Nat.pow_add,Nat.mul_comm (BB ^ m)]
 exact Nat.mul_lt_mul_of_pos_right hC (Nat.pow_pos eC)
theorem Nh {n e K:Nat} (hn:n ≤ 6) (he:e * 63 + 6 = K):fs n (BB ^ e) < BB ^ K:=by
 refine Nat.lt_of_le_of_lt (Ng hn _ (Nat.pow_pos eC)) ?_
 rw [← Nat.pow_mul]
 exact Cy he (by show _ < 4294967296 ^ 6; decide)
theorem Uc {n:Nat} (hn:n ≤ 6):fs n (BB ^ ((6 + 1) * 4)) < BB ^ 1770:=Nh (e:=(6 + 1) * 4) (K:=1770) hn (by decide)
section
variable {z:List Qi} {S c:List (List Qi)} {js:List (Int × Int)} {N:Nat}
def Ui (S:List (List Qi)) (js:List (Int × Int)):List (List Qi):=tab (2 * js.length) fun x=>tab (2 * js.length) fun y=>Ik x y - gm S (gq (dB js) (kW y)) (gq (dB js) x)
def jnV (S:List (List Qi)) (js:List (Int × Int)) (i:Nat):List Qi:=tab (2 * js.length) fun y=>gm S i (gq (dB js) y)
def jnQ (S:List (List Qi)) (js:List (Int × Int)) (i:Nat):List Qi:=iY (Ui S js) (jnV S js i) (2 * js.length)
theorem xI (S:List (List Qi)) (js:List (Int × Int)):cF (Ui S js) (2 * js.length) (2 * js.length):=cF.tab
theorem Zo {x y:Nat} (hx:x < 2 * js.length) (hy:y < 2 * js.length):gm (Ui S js) x y = gm (oH S (dB js) (2 * js.length)) y x:=by
 have e1:gm (Ui S js) x y = Ik x y - gm S (gq (dB js) (kW y)) (gq (dB js) x):=jG hx hy
 have e2:gm (oH S (dB js) (2 * js.length)) y x = (if y = x then Qi.ofInt 1 else Qi.ofInt 0) - gm S (gq (dB js) (kW y)) (gq (dB js) x):=jG hy hx
 rw [e1,e2,Ik]
 by_cases c:x = y
 ·rw [if_pos c,if_pos c.symm]
 ·rw [if_neg c,if_neg (Ne.symm c)]
theorem a27 {M:List (List Qi)} {n:Nat} (h:cF M n n) (hk:∀ b,jF M b n = 0):sP M n = 0:=kG fun k _=>hk _
theorem a17 {M : List (List Qi)} {n : Nat} (h : cF M n n) (hE : sP M n = 0) (hn : 1 ≤ n) : ∀ b, jF M b n = 0 := fun b => by
 have h0:=(vF h).1 (Cj hE 0 zo)
 exact (vF h).2 h0
theorem a18 {M:List (List Qi)} {n:Nat} {b:List Qi} (h:cF M n n) (hb:jF M b n = 0):∀ b,jF M b n = 0:=fun _=>(vF h).2 ((vF h).1 hb)
theorem Zp (hk:∀ b,jF (oH S (dB js) (2 * js.length)) b (2 * js.length) = 0) (hn:1 ≤ 2 * js.length):∀ b,jF (Ui S js) b (2 * js.length) = 0:=by
 have hM:=oV S (dB js) (2 * js.length)
 have hE:=a27 hM hk
 have l:=a3z hM hE
 refine a17 (xI S js) (a2Z (Y:=tab (2 * js.length) fun x=>tab (2 * js.length) fun y=>gm (qA (oH S (dB js) (2 * js.length)) (2 * js.length)) y x) (xI S js) cF.tab ?_) hn
 refine qK jO (nR _) fun i hi j hj=>?_
 have e:gm (iJ (qA (oH S (dB js) (2 * js.length)) (2 * js.length)) (oH S (dB js) (2 * js.length)) (2 * js.length) (2 * js.length) (2 * js.length)) j i = gm (rO (2 * js.length)) j i:=by rw [l]
 rw [mZ hj hi,vX hj hi] at e
 rw [mZ hi hj,vX hi hj]
 have e2 : aI (2 * js.length) (fun t => gm (Ui S js) i t * gm (tab (2 * js.length) fun x => tab (2 * js.length) fun y => gm (qA (oH S (dB js) (2 * js.length)) (2 * js.length)) y x) t j) = aI (2 * js.length) fun t => gm (qA (oH S (dB js) (2 * js.length)) (2 * js.length)) j t * gm (oH S (dB js) (2 * js.length)) t i := aB fun t ht => by
  rw [Zo hi ht,jG ht hj,Qi.mul_comm']
 rw [e2,e]
 by_cases c:i = j
 ·rw [if_pos c,if_pos c.symm]
 ·rw [if_neg c,if_neg (Ne.symm c)]
theorem a4C (hk:∀ b,jF (oH S (dB js) (2 * js.length)) b (2 * js.length) = 0) {i x:Nat} (hx:x < 2 * js.length):gv (jnQ S js i) x = aI (2 * js.length) fun y=>gm S i (gq (dB js) y) * gv (Vv S js x) y:=by
 have hM:=oV S (dB js) (2 * js.length)
 have hT:=(pS (xI S js) (Zp hk zo (jnV S js i))).1
 have hV:=(pS hM (hk (ek (2 * js.length) x))).1
 have e1 : aI (2 * js.length) (fun y => gm S i (gq (dB js) y) * gv (Vv S js x) y) = aI (2 * js.length) fun y => aI (2 * js.length) fun w => gm (oH S (dB js) (2 * js.length)) w y * gv (jnQ S js i) w * gv (Vv S js x) y := aB fun y hy => by
  have h:=hT y hy
  rw [show gv (jnV S js i) y = gm S i (gq (dB js) y) from kK hy] at h
  rw [← h,← iM]
  exact aB fun w hw=>by rw [Zo hy hw]; rfl
 have e2 : aI (2 * js.length) (fun w => aI (2 * js.length) fun y => gm (oH S (dB js) (2 * js.length)) w y * gv (jnQ S js i) w * gv (Vv S js x) y) = aI (2 * js.length) fun w => gv (jnQ S js i) w * gv (ek (2 * js.length) x) w := aB fun w hw => by
  have h:=hV w hw
  rw [show gv (ek (2 * js.length) x) w = aI (2 * js.length) (fun k=>gm (oH S (dB js) (2 * js.length)) w k * gv (Vv S js x) k) from h.symm,Qi.mul_comm',← iM]
  exact aB fun y _=>by grind
 rw [e1,jJ,e2,eA hx (fun k hkk hne=>by rw [Yo hkk hx,if_neg hne]; grind),Yo hx hx,if_pos rfl]; grind
theorem a4A {l:List Nat} {x:Nat} (hx:x < l.length) (hinj:∀ a b,a < l.length → b < l.length → l.getD a 0 = l.getD b 0 → a = b):Aa l (l.getD x 0) = (x:Int):=by
 have hm:0 ≤ Aa l (l.getD x 0):=a28.2 (by rw [show l.getD x 0 = l[x] by simp [List.getD,hx]]; exact List.getElem_mem hx)
 rcases Qu l (l.getD x 0) with h | ⟨h1,h2,h3⟩
 ·omega
 ·have:=hinj _ _ h2 hx h3; omega
theorem Hr {x:Nat} (hx:x < 2 * js.length):(vP js).getD x 0 = gq (dB js) (kW x):=by rw [vP,nC hx]
theorem Zn (hj:Jn (dB js) N js.length) {x:Nat} (hx:x < 2 * js.length):Aa (vP js) (gq (dB js) (kW x)) = (x:Int):=by
 have hl:(vP js).length = 2 * js.length:=aD _ _
 rw [← Hr hx]
 refine a4A zo fun a b ha hb e=>?_
 rw [Hr zo,Hr zo] at e
 have:=hj.inj _ _ (sI (show a < 2 * js.length by omega)) (sI (show b < 2 * js.length by omega)) e
 have e2:=congrArg kW this
 rwa [Rz,Rz] at e2
def tF (S:List (List Qi)) (js:List (Int × Int)) (N i y:Nat):List Qi:=tab N fun k=>if 0 ≤ Aa (vP js) k ∧ (Aa (vP js) k).toNat < y then Kl S js i k else Qm i k
theorem Ok {i:Nat} (hi:i < N):(tab N fun _=>Qi.zero).set i (Qi.ofInt 1) = tF S js N i 0:=by
 refine List.ext_getElem (by rw [List.length_set,aD,tF,aD]) fun k h1 h2=>?_
 rw [List.length_set,aD] at h1
 rw [List.getElem_set]
 have e:(tF S js N i 0)[k] = Qm i k:=by simp [tF,tab]
 rw [e,Qm]
 by_cases c:i = k
 ·rw [if_pos c,if_pos c.symm]
 ·rw [if_neg c,if_neg (Ne.symm c)]; simp [tab]; rfl
theorem a0u (S : List (List Qi)) (js : List (Int × Int)) (N i : Nat) : tF S js N i (2 * js.length) = tab N fun k => Kl S js i k := bT fun k _ => by
 have hl:(vP js).length = 2 * js.length:=aD _ _
 rcases Qu (vP js) k with h | ⟨h1,h2,_⟩
 ·rw [if_neg zo,Kl,if_neg zo]
 ·rw [if_pos ⟨h1,by omega⟩]
theorem a0w (hj:Jn (dB js) N js.length) {i y:Nat} (hy:y < 2 * js.length):(tF S js N i y).set (gq (dB js) (kW y)) (Kl S js i (gq (dB js) (kW y))) = tF S js N i (y + 1):=by
 have hix:=Zn hj hy
 have hlt:=hj.lt (kW y) (sI hy)
 have hl:(vP js).length = 2 * js.length:=aD _ _
 refine List.ext_getElem (by rw [List.length_set,tF,tF,aD,aD]) fun k h1 h2=>?_
 have hk:k < N:=by rw [tF,aD] at h2; exact h2
 rw [List.getElem_set]
 have e1:(tF S js N i (y + 1))[k] = if 0 ≤ Aa (vP js) k ∧ (Aa (vP js) k).toNat < y + 1 then Kl S js i k else Qm i k:=by simp [tF,tab]
 have e0:(tF S js N i y)[k]'(by rw [tF,aD]; exact hk) = if 0 ≤ Aa (vP js) k ∧ (Aa (vP js) k).toNat < y then Kl S js i k else Qm i k:=by simp [tF,tab]
 by_cases c:gq (dB js) (kW y) = k
 ·rw [if_pos c,e1,← c,hix,if_pos ⟨by omega,by omega⟩]
 ·rw [if_neg c, e1, e0]
  have hne : ¬ (Aa (vP js) k = (y : Int)) := fun e => by
   rcases Qu (vP js) k with h | ⟨q1,q2,q3⟩
   ·omega
   ·rw [e,Int.toNat_natCast,Hr hy] at q3; exact c q3
  by_cases d:0 ≤ Aa (vP js) k ∧ (Aa (vP js) k).toNat < y
  ·rw [if_pos d,if_pos ⟨d.1,by omega⟩]
  ·rw [if_neg d,if_neg fun h=>d ⟨h.1,by omega⟩]
theorem a62 (hj:Jn (dB js) N js.length) (hk:∀ b,jF (oH S (dB js) (2 * js.length)) b (2 * js.length) = 0) {i y:Nat} (hi:i ∉ qB js) (hy:y < 2 * js.length):Kl S js i (gq (dB js) (kW y)) = gv (jnQ S js i) y:=by
 have hne:gq (dB js) (kW y) ≠ i:=fun e=>hi (Qw.2 ⟨kW y,sI hy,e⟩)
 rw [Kl,Zn hj hy,if_pos zo,Int.toNat_natCast,Qm,if_neg hne,a4C hk hy]
 rw [show Qi.ofInt 0 = (0:Qi) from rfl]; grind
def Zy (z:List Qi) (S c:List (List Qi)) (js:List (Int × Int)):List (List Qi):=dM (yX z S js) (iI (tI S js z.length) c)
theorem Qo (hf : aN S 2) (hj : 2 * js.length ≤ 6) (hk : ∀ b, jF (oH S (dB js) (2 * js.length)) b (2 * js.length) = 0) (x : Nat) : bP (Vv S js x) 7082 :=
 Lv (m:=6) (K:=1770) (L:=4) (oV _ _ _) (Hq hf (by decide)) (Yn (by decide)) (by decide) hj (Uc hj) (by decide) (hk _)
theorem Cv (hE:yX z S js = 0) (hl:z.length ≤ 8):Ck z js = 0 ∧ 2 * js.length ≤ 6 ∧ (∀ b,jF (oH S (dB js) (2 * js.length)) b (2 * js.length) = 0) ∧ (js.length ≠ 0 → 2 * js.length ≠ z.length):=by
 have hd : Ck z js = 0 := by
  apply Classical.byContradiction; intro h
  rw [yX,if_pos h] at hE; exact h hE
 have hle:=Qy hd
 have h2 : js.length ≠ 0 → 2 * js.length ≠ z.length := fun h0 h2 => by
  rw [yX,if_neg (fun k=>k hd),if_neg h0,if_pos h2] at hE; omega
 refine ⟨hd,by omega,?_,h2⟩
 by_cases h0:js.length = 0
 ·intro b
  exact (vF (oV _ _ _)).2 fun y _ k hk=>by omega
 ·have h3 := h2 h0
  rw [yX,if_neg (fun k=>k hd),if_neg h0,if_neg h3] at hE
  have hs : Zr z S js = 0 := by
   apply Classical.byContradiction; intro h
   rw [if_neg h] at hE; omega
  have hp:=Zj hd h3
  exact a18 (oV _ _ _) (iT hs 0 zo)
theorem a1Z (hc:cF c N N):iI (tI S [] N) c = c:=by
 have hl:(tI S [] N).length = N:=by rw [tI,List.length_map,show qB [] = [] from rfl,Av,aD]
 have hcl:=hc.1
 have hg : ∀ a k, a < N → k < N → gm (tI S [] N) a k = if k = a then 1 else 0 := fun a k ha hk => by
  have hq:gE (lU (qB []) N) a = a:=by rw [show qB [] = [] from rfl,Av]; exact nC ha
  rw [tI,Ni (by rw [show qB [] = [] from rfl,Av,aD]; exact ha),kK hk,hq,Kl,show vP [] = [] from rfl,show Aa [] k = -1 from rfl,if_neg (by decide),Qm]; rfl
 refine qK (by have h:=rC (p:=tI S [] N) (c:=c); rw [hl] at h; exact h) hc fun a ha b hb=>?_
 rw [iI,jG zo zo,Ti,hcl]
 have e : aI N (fun x => aI N fun y => pY (tI S [] N) c a b x y) = aI N fun x => (if x = a then 1 else 0) * gm c x b := aB fun x hx => by
  rw [eA hb (fun y hy hne=>by rw [pY,hg b y hb hy,if_neg hne]; show _ * Qi.conj 0 = 0; rw [show Qi.conj 0 = 0 from rfl]; grind),pY,hg a x ha hx,hg b b hb hb,if_pos rfl,show Qi.conj 1 = 1 from rfl]; grind
 rw [e,eA ha (fun x _ hne=>by rw [if_neg hne]; grind),if_pos rfl]; grind
end
end
section
open Go Go.RowKit
def Pa (w : Nat) : Nat → Nat
 | 0=>w
 | c + 1=>2 * Pa w c + 1
theorem uL (w : Nat) : ∀ {c d : Nat}, c ≤ d → Pa w c ≤ Pa w d
 | c,0,h=>by rw [show c = 0 by omega]; exact Nat.le_refl _
 | c, d + 1, h => by
  by_cases e:c = d + 1
  ·rw [e]; exact Nat.le_refl _
  ·have := uL w (c := c) (d := d) zo
   simp only [Pa]; omega
theorem a0V {w v : Nat} (h : w ≤ v) : ∀ c, Pa w c ≤ Pa v c
 | 0=>h
 | c + 1=>by have:=a0V h c; simp only [Pa]; omega
def qQ (r:List Qi) (w:Nat):Prop:=∃ d:Qi,d ≠ 0 ∧ Gb d (BB ^ w) ∧ ∀ j,Gb (d * gv r j) (BB ^ w)
theorem qQ.le {r:List Qi} {w v:Nat} (h:qQ r w) (k:w ≤ v):qQ r v:=by
 obtain ⟨d,d0,dg,dj⟩:=h
 have hp:BB ^ w ≤ BB ^ v:=Nat.pow_le_pow_right eC k
 exact ⟨d,d0,dg.le hp,fun j=>(dj j).le hp⟩
theorem Oz (w:Nat):2 * BB ^ w * BB ^ w + 2 * BB ^ w * BB ^ w ≤ BB ^ (2 * w + 1):=by
 have e:BB ^ (2 * w + 1) = BB ^ w * BB ^ w * BB:=by rw [Nat.pow_succ,Nat.two_mul,Nat.pow_add]
 rw [e,Nat.mul_assoc 2,← Nat.two_mul,← Nat.mul_assoc 2 2,Nat.mul_comm (2 * 2)]
 exact Nat.mul_le_mul_left _ (by decide)
theorem Hh {l:List Qi} {j:Nat} (h:l.length ≤ j):gv l j = 0:=by simp [gv,List.getD,List.getElem?_eq_none h]; rfl
theorem Ql (N:Nat):Gb 0 N:=⟨0,0,Qi.ext' rfl rfl,by simp,by simp⟩
theorem qQ.red {rr rc:List Qi} {c w:Nat} {P:Nat → Prop} [DecidablePred P] (h1:qQ rr w) (h2:qQ rc w) (hp:gv rc c ≠ 0):qQ (tab rr.length fun j=>if P j then gv rr j - gv rr c / gv rc c * gv rc j else gv rr j) (2 * w + 1):=by
 obtain ⟨d,d0,dg,dj⟩:=h1
 obtain ⟨e,e0,eg,ej⟩:=h2
 have t:=Oz w
 refine ⟨d * (e * gv rc c),fun k=>?_,(dg.mul (ej c)).le zo,fun j=>?_⟩
 ·rcases jP k with k | k
  ·exact d0 k
  ·rcases jP k with k | k
   ·exact e0 k
   ·exact hp k
 ·by_cases hj : j < rr.length
  ·rw [kK hj]
   by_cases hP:P j
   ·rw [if_pos hP]
    have hd:=qT (x:=gv rr c) hp
    have ee : d * (e * gv rc c) * (gv rr j - gv rr c / gv rc c * gv rc j) = d * gv rr j * (e * gv rc c) - d * gv rr c * (e * gv rc j) := by
     have e2:d * (e * gv rc c) * (gv rr c / gv rc c * gv rc j) = d * (gv rr c / gv rc c * gv rc c) * (e * gv rc j):=by grind
     rw [hd] at e2
     grind
    rw [ee]
    exact (((dj j).mul (ej c)).sub ((dj c).mul (ej j))).le t
   ·rw [if_neg hP]
    have ee:d * (e * gv rc c) * gv rr j = d * gv rr j * (e * gv rc c):=by grind
    rw [ee]
    exact ((dj j).mul (ej c)).le zo
  ·rw [Hh (l := tab rr.length fun j => if P j then gv rr j - gv rr c / gv rc c * gv rc j else gv rr j) (by rw [aD]; omega)]
   have ee:d * (e * gv rc c) * 0 = 0:=by grind
   rw [ee]; exact Ql _
theorem qQ.fit {r : List Qi} {w : Nat} (h : qQ r w) : bP r (4 * (w + 1) + 2) := fun x hx => by
 obtain ⟨d,d0,dg,dj⟩:=h
 obtain ⟨j,hj,e⟩:=List.getElem_of_mem hx
 have e2:gv r j = x:=by simp [gv,List.getD,hj,e]
 have hlt:BB ^ w < BB ^ (w + 1):=Nat.pow_lt_pow_right (by decide) zo
 have f1:aE (d * gv r j) (w + 1):=(dj j).fit hlt zo
 have f2:aE d (w + 1):=dg.fit hlt zo
 have f3:aE (d * gv r j / d) (w + 1 + 3 * (w + 1) + 2):=Am f1 f2 d0
 rw [Ha (z:=x) d0 (by rw [e2]; grind)] at f3
 exact f3.le zo
theorem Sf {r:List Qi} {m L:Nat} (hl:r.length = m) (h:bP r L) (hL:1 ≤ L):qQ r (m * L):=by
 obtain ⟨d,d0,dl,dj⟩:=Il (L:=L) (x:=gv r) m fun j _=>h.get hL j
 refine ⟨Qi.ofInt d,Lb d0,⟨d,0,Qi.ext' rfl (by show (0:Rat) = ((0:Int):Rat); rfl),by simpa using dl,by simp⟩,fun j=>?_⟩
 by_cases hj:j < m
 ·exact dj j hj
 ·rw [Hh zo]
  have ee:Qi.ofInt d * 0 = 0:=by grind
  rw [ee]; exact Ql _
abbrev oP (M:List (List Qi)) (w:Nat):Prop:=∀ r,r ∈ M → qQ r w
theorem oP.row {M : List (List Qi)} {w i : Nat} (h : oP M w) (hi : i < M.length) : qQ (dN M i) w := h _ (by
 rw [show dN M i = M[i] by simp [dN,List.getD,hi]]; exact List.getElem_mem hi)
theorem a0x {M:List (List Qi)} {n m L:Nat} (hs:cF M n m) (h:aN M L) (hL:1 ≤ L):oP M (m * L):=fun r hr=>Sf (hs.2 r hr) (h r hr) hL
theorem oP.swp {M : List (List Qi)} {w p c : Nat} (h : oP M w) (hp : p < M.length) (hc : c < M.length) : oP (swp [] M p c) w := fun x hx => by
 unfold Go.Proofs.YtdlciihkiefckaaGreat.swp at hx
 rcases List.mem_or_eq_of_mem_set hx with h1 | h1
 ·rcases List.mem_or_eq_of_mem_set h1 with h2 | h2
  ·exact h x h2
  ·rw [h2]; exact h.row hc
 ·rw [h1]; exact h.row hp
theorem oP.redM {M : List (List Qi)} {w c r : Nat} (h : oP M w) (hc : c < M.length) (hp : gm M c c ≠ Qi.zero) : oP (redM M c r) (2 * w + 1) := fun x hx => by
 obtain ⟨i,hi,rfl⟩:=gC.1 hx
 show qQ (if c < i ∧ i < r then lT (dN M i) (dN M c) c (dN M i).length else dN M i) _
 split
 ·exact (h.row hi).red (h.row hc) hp
 ·exact (h.row hi).le zo
theorem oP.redJ {M : List (List Qi)} {w c r : Nat} (h : oP M w) (hc : c < M.length) (hp : gm M c c ≠ Qi.zero) : oP (redJ M c r) (2 * w + 1) := fun x hx => by
 obtain ⟨i,hi,rfl⟩:=gC.1 hx
 show qQ (if i ≠ c ∧ i < r then zT (dN M i) (dN M c) c (dN M i).length else dN M i) _
 split
 ·exact (h.row hi).red (h.row hc) hp
 ·exact (h.row hi).le zo
theorem Fc {M : List (List Qi)} {n m w : Nat} (hs : cF M n m) (h : oP M w) : ∀ {c : Nat}, c ≤ n → oP (cM M c).1 (Pa w c)
 | 0,_=>h
 | c + 1, hc => by
  have ih:=Fc hs h (c:=c) zo
  have sh:=pQ hs (c:=c) zo
  obtain ⟨_,i2,i3,i4⟩:=nU (M:=(cM M c).1) (c:=c) (n:=M.length) (by rw [hs.1]; omega)
  have hml:=hs.1
  have hel:=sh.1
  simp only [cM,Pa]
  split
  ·exact fun r hr=>(ih r hr).le zo
  ·split
   ·exact fun r hr=>(ih r hr).le zo
   ·rename_i e
    split
    ·rename_i e2
     refine oP.redM ih zo ?_
     have:=i4 zo
     rw [e2] at this; exact this
    ·refine oP.redM (ih.swp zo zo) (by rw [Bh]; omega) ?_
     show gv (dN (swp [] _ _ c) c) c ≠ _
     rw [zK (by rw [sh.1]; omega)]
     exact i4 zo
def stG (w n:Nat):Nat:=4 * (Pa w n + 1) + 2
theorem a1M {M : List (List Qi)} {n m L c : Nat} (hs : cF M n m) (hM : aN M L) (hL : 1 ≤ L) (hc : c ≤ n) : aN (cM M c).1 (stG (m * L) n) := fun r hr =>
 ((Fc hs (a0x hs hM hL) hc r hr).le (uL _ hc)).fit
theorem Pi {U : List (List Qi)} {n i : Nat} : ∀ {k j : Nat}, j + k ≤ n → n - j ≤ i → gv (nQ U n (j + k)) i = gv (nQ U n j) i
 | 0,_,_,_=>rfl
 | k + 1, j, h, hi => by
  rw [show j + (k + 1) = (j + k) + 1 by omega,nQ,gv,List.getD,List.getElem?_set_ne zo]
  exact Pi (k:=k) zo hi
theorem Pj {U : List (List Qi)} {n i : Nat} : ∀ {j : Nat}, j ≤ n → i < n - j → gv (nQ U n j) i = 0
 | 0,_,h=>by rw [nQ,kK zo]; rfl
 | j + 1, hj, h => by
  rw [nQ,gv,List.getD,List.getElem?_set_ne zo]
  exact Pj (j:=j) zo zo
theorem a19 {M : List (List Qi)} {b : List Qi} {n j X : Nat} (hX : 1 ≤ X) (h : bP (iY M b n) X) (hj : j ≤ n) : bP (nQ (qX M b n).1 n j) X := fun x hx => by
 obtain ⟨i,hi,e⟩:=List.getElem_of_mem hx
 have e2:gv (nQ (qX M b n).1 n j) i = x:=by simp [gv,List.getD,hi,e]
 rw [uO] at hi
 rw [← e2]
 by_cases c:n - j ≤ i
 ·have k := Pi (U := (qX M b n).1) (n := n) (k := n - j) (j := j) zo c
  rw [show j + (n - j) = n by omega] at k
  rw [← k]; exact h.get hX i
 ·rw [Pj hj zo]; exact aE.zero hX
structure Wg (M:List (List Qi)) (b:List Qi) (n G X:Nat):Prop where
 st:∀ c,c ≤ n → aN (cM (kF M [b] n) c).1 G
 bk:jF M b n = 0 → ∀ j,j ≤ n → bP (nQ (qX M b n).1 n j) X
 g1:1 ≤ G
 x1:1 ≤ X
 g:6 * G + 4 ≤ 17592186044415
 x:n * (X + G + 2) + 4 * G + 2 ≤ 17592186044415
theorem Wg.old {M:List (List Qi)} {b:List Qi} {n L:Nat} (hM:cF M n n) (hf:aN M L) (hfb:bP b L) (hL:1 ≤ L) (hg:6 * mS L n + 4 ≤ 17592186044415) (hx:zM (mS L n) (n + 1) ≤ 17592186044415):Wg M b n (mS L n) (zM (mS L n) n):=by
 have hcs:cF (kF M [b] n) n (n + 1):=lJ hM
 have hcf:aN (kF M [b] n) L:=uQ hf (fun r hr=>by simp at hr; subst hr; exact hfb) hL
 have hG1:1 ≤ mS L n:=Nat.le_trans hL (uU L n)
 refine ⟨fun c hc=>(Ce hcs hcf hL hc).le (pG L hc),fun hE j hj=>?_,hG1,Nat.le_trans hG1 (Ix _ _),hg,hx⟩
 have hst:¬ 0 ≤ (qX M b n).2.2:=fun h=>by rw [jF,if_pos h] at hE; omega
 have hf2:=Mn (Lu hM hf hfb hL) hG1 (pF hcs (Nat.le_refl n) (Sh hst)) j hj
 exact fun y hy=>(hf2 y hy).le (Dq _ hj)
theorem Fg {M : List (List Qi)} {n G X : Nat} (hz : ∀ i, i < n → Wg M (ek n i) n G X) (hE : sP M n = 0) : aN (qA M n) X := fun r hr => by
 obtain ⟨i,_,rfl⟩:=gC.1 hr
 exact bP.tab fun j hj=>((hz j hj).bk (Cj hE j hj) n (Nat.le_refl n)).get (hz j hj).x1 i
structure SzJ (M:List (List Qi)) (b:List Qi) (n G:Nat):Prop where
 st:∀ c A,c ≤ n → Ud (kF M [b] n) c = some A → aN A G
 g1:1 ≤ G
 g:6 * G + 4 ≤ 17592186044415
theorem SzJ.old {M : List (List Qi)} {b : List Qi} {n L : Nat} (hM : cF M n n) (hf : aN M L) (hfb : bP b L) (hL : 1 ≤ L) (hg : 6 * mS L n + 4 ≤ 17592186044415) : SzJ M b n (mS L n) :=
 ⟨fun _ _ hc hA=>(Yw (show cF (kF M [b] n) n (n + 1) from lJ hM) (Nat.le_succ n) (uQ hf (fun r hr=>by simp at hr; subst hr; exact hfb) hL) hL hc hA).le (pG L hc),Nat.le_trans hL (uU L n),hg⟩
theorem Yu {n:Nat} (hn:n ≤ 8):∀ N,1 ≤ N → fs n N ≤ (2 * 8 * (2 * 7 * (2 * 6 * (2 * 5 * 1610612736 * 4 ^ 15) * 4 ^ 31) * 4 ^ 63) * 4 ^ 127) * N ^ 255:=by
 have h6:∀ N,1 ≤ N → fs 6 N ≤ (2 * 6 * (2 * 5 * 1610612736 * 4 ^ 15) * 4 ^ 31) * N ^ 63:=fun N hN=>Ng (Nat.le_refl 6) N hN
 have h7:∀ N,1 ≤ N → fs 7 N ≤ (2 * 7 * (2 * 6 * (2 * 5 * 1610612736 * 4 ^ 15) * 4 ^ 31) * 4 ^ 63) * N ^ 127:=Ap h6
 have h8:∀ N,1 ≤ N → fs 8 N ≤ (2 * 8 * (2 * 7 * (2 * 6 * (2 * 5 * 1610612736 * 4 ^ 15) * 4 ^ 31) * 4 ^ 63) * 4 ^ 127) * N ^ 255:=Ap h7
 by_cases a:n ≤ 6
 ·exact Ao (Ng a) (by decide) (by decide)
 ·by_cases b : n = 7
  ·subst b; exact Ao h7 (by decide) (by decide)
  ·obtain rfl : n = 8 := by omega
   exact h8
theorem Kj {n e K:Nat} (hn:n ≤ 8) (he:e * 255 + 17 = K):fs n (BB ^ e) < BB ^ K:=by
 refine Nat.lt_of_le_of_lt (Yu hn _ (Nat.pow_pos eC)) ?_
 rw [← Nat.pow_mul]
 exact Cy he (by show _ < 4294967296 ^ 17; decide)
def De (L:Nat):Nat:=4 * (9 * L * 255 + 17) + 2
def st8 (L:Nat):Nat:=stG (9 * L) 8
theorem Lt {M : List (List Qi)} {b : List Qi} {n L : Nat} (h : cF M n n) (hM : aN M L) (hb : bP b L) (hL : 1 ≤ L) (hn : n ≤ 8) (hE : jF M b n = 0) : bP (iY M b n) (De L) :=
 Lv (m:=8) (K:=9 * L * 255 + 17) h hM hb hL hn (Kj (e:=(8 + 1) * L) (K:=9 * L * 255 + 17) hn zo) zo hE
theorem Oo (L:Nat):st8 L = 9216 * L + 1026:=by simp only [st8,stG,Pa]; omega
theorem a5k (L:Nat) (h:L ≤ 10000000):4 * (9 * L * 255 + 17) + 2 + (9216 * L + 1026) + 2 ≤ 200000000000:=by omega
theorem a5l (L:Nat) (h:L ≤ 10000000):4 * (9216 * L + 1026) + 2 ≤ 400000000000:=by omega
theorem a5m (n A B:Nat) (hn:n ≤ 8) (hA:A ≤ 200000000000) (hB:B + 2 ≤ 400000000000):n * A + B + 2 ≤ 17592186044415:=by
 have:n * A ≤ 8 * A:=Nat.mul_le_mul_right _ hn
 omega
theorem a5n (n L:Nat) (hn:n ≤ 8) (h:L ≤ 10000000):n * (De L + st8 L + 2) + 4 * st8 L + 2 ≤ 17592186044415:=by
 rw [Oo,De]
 exact a5m n _ _ hn (a5k L h) (a5l L h)
theorem a5o (L:Nat) (h:L ≤ 10000000):6 * st8 L + 4 ≤ 17592186044415:=by rw [Oo]; omega
theorem a5p (L:Nat):1 ≤ st8 L:=by rw [Oo]; omega
theorem Iq (L:Nat):1 ≤ De L:=by unfold De; omega
theorem a6C {M:List (List Qi)} {b:List Qi} {n L:Nat} (h:cF M n n) (hM:aN M L) (hb:bP b L) (hL:1 ≤ L) (hLb:L ≤ 10000000) (hn:n ≤ 8):Wg M b n (st8 L) (De L):=by
 have hcs:cF (kF M [b] n) n (n + 1):=lJ h
 have hcf:aN (kF M [b] n) L:=uQ hM (fun r hr=>by simp at hr; subst hr; exact hb) hL
 have hle : stG ((n + 1) * L) n ≤ st8 L := by
  have hw:(n + 1) * L ≤ 9 * L:=Nat.mul_le_mul_right _ zo
  have h1:=a0V hw n
  have h2:=uL (9 * L) hn
  simp only [stG,st8]; omega
 exact ⟨fun c hc=>(a1M hcs hcf hL hc).le hle,fun hE j hj=>a19 (Iq L) (Lt h hM hb hL hn hE) hj,a5p L,Iq L,a5o L hLb,a5n n L hn hLb⟩
end
section
open Go Go.RowKit
theorem Xa {n:Nat} (hn:n ≤ 32):fN Tryz.prog 144 [NT .i64 n] [] (Nat) (fun B=>Is (.slice (some ⟨B,0,none⟩) n n)) (fun B=>[lR jB B 25 60 5 (bM aF (rO n))]) (fun _=>True):=by
 refine fN.intro Tryz.func144 rfl Tryz.ntmps144 rfl (fun cx Z=>(ts (ro rfl (cQ cV) (eX (ts (rn rfl (eW (Ts:=[Is (.bool false),Is (.slice none 0 0),Is (.bool false),Is (.slice none 0 0),Is (.slice none 0 0)]) O_60 rfl (fun V=>aW zd (aW zd (aW zd (aW zd (aW zd (aG))))))) fun B3=>(eX (ts (rm rfl (ro rfl (aS.nat (a2J (Ht rfl) (cJ 0)) (show max n 0 = n by omega)) (ro rfl (aS.nat (Rr (Ht rfl) (cJ 32)) (show min n 32 = n by omega)) ?_)))))))))))
 refine rn rfl (gK (T:=Is (.slice none 0 0)) (i:=Tryz.t25) V_26 lA rfl rfl (Ht rfl) rfl (fun _=>rfl) trivial (by show 24 * _ ≤ _; omega) zo) fun B9=>ra rfl (eX (cK (ts (rm rfl (ro rfl (eT U_26 (Ht rfl)) (ro rfl (cX (cJ 0)) (eX (eG (mU 2 rfl (xK jB ⟨none,0,rfl⟩ (e:=60) (s:=5)) ?_)))))))))
 refine cA (fun (k : Nat) => k ≤ n) (fun (k : Nat) => n - k) (fun (k : Nat) => [(3, bO B3 0), (4, Is (.slice (some ⟨B9, 0, none⟩) n n)), (11, NT .i64 n), (12, NT .i64 k)]) (fun (k : Nat) => [Z, box B3 60 [Is (.bool false), Is (.slice none 0 0), Is (.bool false), Is (.slice none 0 0), Is (.slice none 0 0)], lR jB B9 25 60 5 (bM aF (kV (Dn n) [] n k))]) 0 (Nat.zero_le _)
  (zS rfl) (aU (fun _ _ _ h=>h) (aU (fun _ _ _ h=>h) (aU (bI (by rw [← iL,kT]; exact mA aF n)) aY))) (fun k hk=>?_)
 refine ts (ro rfl (gX (Ht rfl) (Ht rfl)) (eX (cK (dQ (Ht rfl) (fun hd=>?_) (fun hd=>?_)))))
 ·simp only [decide_eq_true_eq] at hd
  refine mV 2 (k) rfl (kQ hd) (fun v hv=>(cU (cK (eG (ts (rm rfl (ra rfl (eX (cK (fZ (m:=10) (dp 4 rfl (cX (Ht rfl)) (dp 5 rfl (cX (Ht rfl)) (dp 3 rfl (eJ A_60 Z_60 (Ht rfl) (i:=1) rfl rfl rfl) (dq 17 2 rfl (aT bD (Ht rfl)) (d0 rfl (cZ K_52 (mK (n:=0) (by decide) (by decide)) ⟨(cJ 0),trivial⟩) (cP 18 3 19 4 rfl (aL nJ K_304 Em (Ht rfl) ⟨(Ht rfl),trivial⟩) (dq 20 5 rfl (cE (xs:=[.tmp 20]) U_25 Z_60 O_60 (cW (Ht rfl) cG) rfl rfl rfl) ?_)))))))))))))))))
  refine dp 4 rfl (cX (Ht rfl)) (dq 22 7 rfl (eT U_26 (Ht rfl)) (C.D_new (Ei:=[(21,_),(23,_)]) rfl rfl rfl (bV (bG 6 rfl rfl) (bV (bG 8 rfl rfl) bW)) (Fi Tryz.call229 (Mv (m:=n) zo zo) ⟨(Ht rfl),(Ht rfl),trivial⟩) (fV bC rfl (by kernel_rfl) (zF (zF (aJ (C.F_new (fun B24=>aV (ro rfl (fY U_26 Z_25 (Ht rfl) (Ht rfl) rfl zo (by rw [Nat.mul_one,Nat.zero_add])) ?_)))))))))
  refine tK Z_25 (Ht rfl) (Ht rfl) (by simp only [bM,List.length_map,dE]; omega) (j:=2) (l:=4) rfl rfl rfl ?_
  refine eX ?_
  have hB24:=B24.1.2
  refine fZ (m:=9) (dp 4 rfl (cX (Ht rfl)) (dp 5 rfl (cX (Ht rfl)) (cP 26 0 27 1 rfl (fY U_26 Z_25 (Ht rfl) (Ht rfl) rfl zo (by rw [Nat.mul_one,Nat.zero_add])) ?_)))
  refine dq 28 2 rfl (iC A_25 Z_25 (Ht rfl) (j:=2) rfl) (dp 5 rfl (cX (Ht rfl)) (dp 3 rfl (eJ A_60 Z_60 (Ht rfl) (i:=1) rfl rfl rfl) (dq 31 5 rfl (aT bD (Ht rfl)) (d0 rfl (cZ K_52 (mK (n:=1) (by decide) (by decide)) ⟨(cJ 1),trivial⟩) (cP 32 6 33 7 rfl (aL nJ K_304 Em (Ht rfl) ⟨(Ht rfl),trivial⟩) (fV bC rfl (by kernel_rfl) (zF (zF (aJ (aV (ro rfl (cL U_25 Z_60 (Ht rfl) (Ht rfl) rfl (i:=4) rfl (by simp only [List.length_map,aD]; omega) rfl) ?_)))))))))))
  refine kX Z_60 (Ht rfl) (Ht rfl) (El.ag rfl) (i:=4) rfl rfl (by simp only [List.length_map,aD]; omega) rfl ?_
  refine eX (bL (dS 2 4 rfl rfl (by decide) (by simp only [bM,List.length_map,dE]; omega) ?_))
  refine cY (ro rfl (dV (Ht rfl) (cJ 1) z6) (rm rfl (eX (bS [0,1,2] rfl (by decide) (fU (k + 1) hd zo (zS rfl) (aU (fun _ _ _ h=>h) (aU (fun _ _ _ h=>h) (aU (bI (by rw [← jN (f:=Dn n),← eN,Dn,← dO])) aY))))))))
 ·simp only [decide_eq_false_iff_not] at hd
  obtain rfl:n = k:=Nat.le_antisymm zo hk
  refine gW rfl (ts (rm rfl (ra rfl (eX ?_))))
  exact iO B9 trivial [0,2] ⟨⟨_,rfl,fun _ _ _ h=>h⟩,⟨_,rfl,(bI (by rw [jW]; rfl))⟩,trivial⟩ (by decide) (tG rfl (eU rfl))
theorem a6w {n:Nat} (hn:n ≤ 32):bR Tryz.prog 144 [NT .i64 n] (aR (rO n)):=(Xa hn).fun fun B _ v S V h1 h2=>gY (s:=5) (M:=rO n) (nR n).1.symm v S V h1 h2
theorem Jk {M:List (List Qi)} {b:List Qi} {n G X:Nat} (hM:cF M n n) (hb:b.length = n) (hz:Wg M b n G X) (h1:1 ≤ n) (hn:n ≤ 32):bR Tryz.prog 126 [aR M,aM b] (eD [aM (dM (jF M b n) (iY M b n)),aP .i64 (jF M b n)]):=by
 have hMl:=hM.1
 have hcs:cF (kF M [b] n) n (n + 1):=lJ hM
 have hg:=hz.g
 have hx:n * (G + X + 2) + 4 * G + 2 ≤ 17592186044415:=by rw [Nat.add_comm G X]; exact hz.x
 obtain ⟨U,hU⟩:∃ U,U = (qX M b n).1:=⟨_,rfl⟩
 have hUs:cF U n (n + 1):=by rw [hU]; exact a0F hM
 have hUl:=hUs.1
 have hUf:aN U G:=by rw [hU]; exact hz.st n (Nat.le_refl n)
 have hG1:=hz.g1
 have hX1:=hz.x1
 refine bR.intro Tryz.func126 rfl Tryz.ntmps126 rfl (fun cx=>(ts (ro rfl (cQ cV) (ro rfl (cQ (cJ 0)) (eX (cK (ts (rm rfl (ro rfl (cZ Tryz.call172 (Jp hM h1 hn) ⟨(Ht rfl),trivial⟩) (ro rfl (dH (Ht rfl)) (rm rfl (fQ rfl rfl (eK rfl rfl (Ht rfl) (fun h=>cX (Ht rfl))) (fQ rfl rfl (eK rfl rfl (Ht rfl) (fun h=>dG U_25 (fJ rfl h) aC)) (fQ rfl rfl (eK rfl rfl (Ht rfl) (fun h=>cX (Ht rfl))) (fQ rfl rfl (eK rfl rfl (Ht rfl) (fun h=>dG U_26 (fJ rfl h) aC)) ?_)))))))))))))))
 refine fQ rfl rfl (eK rfl rfl (Ht rfl) (fun h=>kN (fJ rfl h) (fJ rfl h))) (ro rfl (jQ (Ht rfl) (fun h=>(fJ rfl h))) (eX (nO (Ht rfl) (by simp [hMl,hb]) ?_)))
 refine cU (ts (rm rfl (ro rfl (dG U_26 (Ht rfl) (by rw [List.length_map,hMl])) ?_)))
 refine ra rfl (eX (ts (rm rfl (rm rfl (ro rfl (cE (xs:=[.tmp 26]) U_26 Z_25 O_25 (cW (Ht rfl) cG) rfl rfl rfl) (iN Tryz.call195 (Eo (M:=M) (bs:=[b]) (n:=n) (m:=n) hM (fun r hr=>by simp at hr; subst hr; omega) zo zo (by simp)) ⟨(Ht rfl),(Ht rfl),trivial⟩ rfl (fun B28 _=>?_)))))))
 refine ra rfl (eX (cK (ts (rm rfl (Ga Tryz.call221 (a1i (n:=n) (m:=n + 1) (G:=G) hcs hz.st hG1 hg zo zo) (i:=0) rfl ⟨(Ht rfl),trivial⟩ rfl (fun uu _=>(rm rfl (ro rfl (dK (Ht rfl) rfl) (ro rfl (dK (Ht rfl) rfl) (ra rfl (ra rfl (eX (ts (rm rfl (ro rfl (nA (Ht rfl) cV) (eX (dQ (Ht rfl) (fun hs=>?_) (fun hs=>?_))))))))))))))))))
 ·have he : jF M b n = 6 := by rw [jF, if_pos (show 0 ≤ (qX M b n).2.2 from of_decide_eq_true hs)]
  refine ts (ro rfl (cQ cV) (ro rfl (cQ (cJ 6)) (eX (bN rfl (fX (eU rfl) ?_) (fX (eU rfl) ?_)))))
  ·exact (fun v V k=>by rw [he]; exact iR v V k)
  ·exact (bE he.symm)
 ·have hst : ¬ 0 ≤ (qX M b n).2.2 := of_decide_eq_false hs
  have he:jF M b n = 0:=by rw [jF,if_neg hst]
  have hdz:∀ i,i < n → gm U i i ≠ Qi.zero:=by rw [hU]; exact pF hcs (Nat.le_refl n) (Sh hst)
  refine cU (ts (rm rfl (rn rfl (kS (T:=aF Qi.zero) (i:=Tryz.t60) jH gG rfl rfl (Ht rfl) rfl jD (El.ag rfl) (by show 88 * _ ≤ _; omega) zo) fun B37=>(ra rfl (eX (cK (ts (rm rfl (ro rfl (dW (Ht rfl) (cJ 1) zo z6) (ra rfl (eX (eG (mU 0 rfl (bI (show bM aF (cM (kF M [b] n) n).1 = bM aF U by rw [hU]; rfl)) (Gh 0 rfl (fun vs hvs=>?_)))))))))))))))
  have hvl:vs.length = n:=by have h:=hvs.len; rw [List.length_map,hUl] at h; exact h
  refine cA (fun (j : Nat) => j ≤ n) (fun (j : Nat) => n - j) (fun (j : Nat) => [(0, Is (.slice (some ⟨B28, 0, none⟩) n n)), (6, NT .i64 n), (9, Is B37), (10, aP .i64 ((n : Int) - 1 - (j : Int)))]) (fun (j : Nat) => [jL B28 25 60 5 vs vs (bM aF U), bF 60 5 B37 ((nQ U n j).map aF)]) 0 (Nat.zero_le _)
   (aQ rfl (aQ rfl (aQ rfl (aZ rfl (bE zo) aX)))) (aU (fun _ _ _ h=>h) (aU (aO (by rw [nQ]; exact vH aF n)) aY)) (fun j hj=>?_)
  refine cK (ts (rm rfl (ro rfl (nA (Ht rfl) cV) (eX (dQ (Ht rfl) (fun hc=>?_) (fun hc=>?_))))))
  ·have hjn : j < n := a5M (of_decide_eq_true hc)
   obtain ⟨q,hq⟩:∃ q,q = n - (j + 1):=⟨_,rfl⟩
   have hqi:(n:Int) - 1 - (j:Int) = (q:Int):=by omega
   have hqr:(U.getD q []).length = n + 1:=hUs.row zo
   have hXf:bP (nQ U n j) X:=by rw [hU]; exact hz.bk he j hj
   have hXl:=uO U n j
   refine cU (cK (eG (ts (rm rfl (rm rfl (ro rfl (fY U_26 Z_25 (Ht rfl) (Ht rfl) hqi zo (by rw [Nat.mul_one,Nat.zero_add])) ?_))))))
   refine ro rfl (fE A_25 Z_25 (Ht rfl) (j:=0) rfl zo) (rm rfl (ro rfl (gH U_25 Z_60 (Ht rfl) (Ht rfl) rfl (j:=0) rfl zo zo zo) (ro rfl (kA A_60 Z_60 (Ht rfl) (j:=0) rfl zo zo zo) (rn rfl (eW (Ts:=[Is (.bool false),Is (.slice none 0 0),Is (.bool false),Is (.slice none 0 0),Is (.slice none 0 0)]) O_60 rfl (fun V=>aW zd (aW zd (aW zd (aW zd (aW zd (aG))))))) fun B11=>?_))))
   refine gQ Z_60 (Ht rfl) (Ht rfl) rfl (i:=2) rfl (aK rfl) rfl rfl (eX (cK (ts (rm rfl (ro rfl (Oa (Ht rfl) cV (r:=((q + 1:Nat):Int)) ((Du (z:=(n:Int) - 1 - (j:Int) + 1) zo).trans zo)) ?_)))))
   refine ra rfl (eX (eG ?_))
   refine cA (fun (k : Nat) => k ≤ j) (fun (k : Nat) => j - k) (fun (k : Nat) => [(0, Is (.slice (some ⟨B28, 0, none⟩) n n)), (6, NT .i64 n), (9, Is B37), (10, aP .i64 ((n : Int) - 1 - (j : Int))), (11, bO B11 0), (12, NT .i64 (q + 1 + k))]) (fun (k : Nat) => [jL B28 25 60 5 vs vs (bM aF U), bF 60 5 B37 ((nQ U n j).map aF), box B11 60 [aH (decide ((oK U (nQ U n j) n q k).a < 0)), bA (oK U (nQ U n j) n q k).a.natAbs, aH (decide ((oK U (nQ U n j) n q k).b < 0)), bA (oK U (nQ U n j) n q k).b.natAbs, bA (du (oK U (nQ U n j) n q k))]]) 0 (Nat.zero_le _)
    (zS rfl) (aU (fun _ _ _ h=>h) (aU (fun _ _ _ h=>h) (aU (aA rfl) aY))) (fun k hk=>?_)
   refine cK (ts (rm rfl (rm rfl (ro rfl (gX (Ht rfl) (Ht rfl)) (eX (dQ (Ht rfl) (fun hf=>?_) (fun hf=>?_)))))))
   ·have hkj : k < j := by simp only [decide_eq_true_eq] at hf; omega
    haveI f1:aE (oK U (nQ U n j) n q k) (G + k * (G + X + 2)):=Bg hUf hXf hG1 hX1 k
    haveI f2:aE (gm U q (q + 1 + k)) G:=hUf.get hG1 _ _
    haveI f3:aE (gv (nQ U n j) (q + 1 + k)) X:=hXf.get hX1 _
    have hb1:k * (G + X + 2) + (G + X + 2) ≤ n * (G + X + 2):=by rw [← Nat.succ_mul]; exact Nat.mul_le_mul_right _ zo
    refine cU (cK (eG (fZ (m:=15) (dp 11 rfl (eJ A_60 Z_60 (Ht rfl) (i:=2) rfl rfl rfl) (dq 58 0 rfl (aT bD (Ht rfl)) (dp 0 rfl (cX (Ht rfl)) (dp 10 rfl (cX (Ht rfl)) (cP 60 2 61 3 rfl (fY U_26 Z_25 (Ht rfl) (Ht rfl) hqi zo (by rw [Nat.mul_one,Nat.zero_add])) ?_))))))))
    refine dq 62 4 rfl (fE A_25 Z_25 (Ht rfl) (j:=0) rfl zo) (dp 12 rfl (cX (Ht rfl)) (cP 63 5 64 6 rfl (gH U_25 Z_60 (Ht rfl) (Ht rfl) rfl (j:=0) rfl zo zo zo) (dq 65 7 rfl (kA A_60 Z_60 (Ht rfl) (j:=0) rfl zo zo zo) (dq 66 8 rfl (aT bD (Ht rfl)) (dp 9 rfl (cX (Ht rfl)) (dp 12 rfl (cX (Ht rfl)) (cP 68 10 69 11 rfl (cL U_25 Z_60 (Ht rfl) (Ht rfl) rfl (i:=1) rfl (by rw [List.length_map]; omega) rfl) ?_)))))))
    refine dq 70 12 rfl (mI A_60 Z_60 (Ht rfl) (i:=1) rfl rfl (dY (dU (d:=Qi.zero) zo))) (cP 67 9 71 13 rfl (aL cB K_70 (iF (x:=gm U q (q + 1 + k)) (y:=gv (nQ U n j) (q + 1 + k)) (L:=G) (M:=X) zo) (Ht rfl) ⟨(Ht rfl),trivial⟩) (fV bC rfl (by kernel_rfl) (zF (zF (zF (aJ (aJ (aJ (aV (ro rfl (aL iA K_69 (qC (x:=(oK U (nQ U n j) n q k)) (y:=gm U q (q + 1 + k) * gv (nQ U n j) (q + 1 + k)) (L:=G + k * (G + X + 2)) (M:=G + X + 1) zo) (Ht rfl) ⟨(Ht rfl),trivial⟩) ?_))))))))))
    refine gQ Z_60 (Ht rfl) (Ht rfl) rfl (i:=2) rfl (aK rfl) rfl rfl (eX (bL (cY (rm rfl (ro rfl (dV (Ht rfl) (cJ 1) z6) (ra rfl (eX (fU (k + 1) hkj zo (zS rfl) (aU (fun _ _ _ h=>h) (aU (fun _ _ _ h=>h) (aU (aA rfl) aY)))))))))))
   ·obtain rfl : k = j := Nat.le_antisymm hk (by simp only [decide_eq_false_iff_not] at hf; omega)
    haveI f1:aE (oK U (nQ U n k) n q k) (G + k * (G + X + 2)):=Bg hUf hXf hG1 hX1 k
    haveI f2:aE (gm U q q) G:=hUf.get hG1 _ _
    have hb3:k * (G + X + 2) ≤ n * (G + X + 2):=Nat.mul_le_mul_right _ zo
    refine gW rfl (Y.D_start (m:=17) [(16,1,bF 60 5 B37 (((nQ U n k).map aF).set q (aF ((oK U (nQ U n k) n q k) / gm U q q))))] (Y.D_step (Ei:=[(9,_)]) rfl rfl (bQ (bJ rfl rfl) bX) rfl rfl (by kernel_rfl) (dX rfl (cX (Ht rfl))) (Y.D_step (Ei:=[(10,_)]) rfl rfl (bQ (bJ rfl rfl) bX) rfl rfl (by kernel_rfl) (dX rfl (cX (Ht rfl))) (Y.D_step (Ei:=[(11,_)]) rfl rfl (bQ (bJ rfl rfl) bX) rfl rfl (by kernel_rfl) (dX rfl (eJ A_60 Z_60 (Ht rfl) (i:=2) rfl rfl rfl)) ?_))))
    refine Y.D_step (Ei:=[(77,_)]) rfl rfl (bQ (bZ 2 rfl rfl) bX) rfl rfl (by kernel_rfl) (dX rfl (aT bD (Ht rfl))) (Y.D_step (Ei:=[(0,_)]) rfl rfl (bQ (bJ rfl rfl) bX) rfl rfl (by kernel_rfl) (dX rfl (cX (Ht rfl))) (Y.D_step (Ei:=[(10,_)]) rfl rfl (bQ (bJ rfl rfl) bX) rfl rfl (by kernel_rfl) (dX rfl (cX (Ht rfl))) (Y.D_step (Ei:=[(79,_),(80,_)]) rfl rfl (bQ (bZ 4 rfl rfl) (bQ (bZ 5 rfl rfl) bX)) rfl rfl (by kernel_rfl) (dX rfl (fY U_26 Z_25 (Ht rfl) (Ht rfl) hqi zo (by rw [Nat.mul_one,Nat.zero_add]))) ?_)))
    refine Y.D_step (Ei:=[(81,_)]) rfl rfl (bQ (bZ 6 rfl rfl) bX) rfl rfl (by kernel_rfl) (dX rfl (fE A_25 Z_25 (Ht rfl) (j:=0) rfl zo)) (Y.D_step (Ei:=[(10,_)]) rfl rfl (bQ (bJ rfl rfl) bX) rfl rfl (by kernel_rfl) (dX rfl (cX (Ht rfl))) (Y.D_step (Ei:=[(82,_),(83,_)]) rfl rfl (bQ (bZ 7 rfl rfl) (bQ (bZ 8 rfl rfl) bX)) rfl rfl (by kernel_rfl) (dX rfl (gH U_25 Z_60 (Ht rfl) (Ht rfl) hqi (j:=0) rfl zo zo zo)) ?_))
    refine Y.D_step (Ei:=[(84,_)]) rfl rfl (bQ (bZ 9 rfl rfl) bX) rfl rfl (by kernel_rfl) (dX rfl (kA A_60 Z_60 (Ht rfl) (j:=0) rfl zo zo zo)) (Y.D_step (Ei:=[(78,_),(85,_)]) rfl rfl (bQ (bZ 3 rfl rfl) (bQ (bZ 10 rfl rfl) bX)) rfl rfl (by kernel_rfl) (dX rfl (aL mO K_64 (vW (x:=(oK U (nQ U n k) n q k)) (y:=gm U q q) (L:=G + k * (G + X + 2)) (M:=G) zo) (Ht rfl) ⟨(Ht rfl),trivial⟩)) (Y.D_step (Ei:=[(86,_)]) rfl rfl (bQ (bZ 11 rfl rfl) bX) rfl rfl (by kernel_rfl) (dX rfl (cX (Ht rfl))) ?_))
    refine Y.D_step (Ei:=[(74,_)]) rfl rfl (bQ (bZ 12 rfl rfl) bX) rfl rfl (by kernel_rfl) (dX rfl (dK (Ht rfl) rfl)) (bY (Ei:=[(74,_)]) rfl rfl (bQ (bZ 12 rfl rfl) bX) rfl rfl (dX rfl (dK (Ht rfl) rfl)) (Y.D_step (Ei:=[(75,_),(76,_)]) rfl rfl (bQ (bZ 0 rfl rfl) (bQ (bZ 1 rfl rfl) bX)) rfl rfl (by kernel_rfl) (dX rfl (cL U_25 Z_60 (Ht rfl) (Ht rfl) hqi (i:=1) rfl (by rw [List.length_map]; omega) rfl)) ?_))
    refine Y.D_putI (Ei:=[(89,_),(87,_)]) 1 rfl rfl rfl (bQ (bZ 15 rfl rfl) (bQ (bZ 13 rfl rfl) bX)) (.head _) rfl (Ja Z_60 (Ht rfl) (Ht rfl) (El.ag rfl) (i:=0) rfl rfl (by rw [List.length_map]; omega)) ?_
    refine Y.D_done bC rfl (by kernel_rfl) rfl (by simp [Y.okP]) rfl rfl (bU (bU (bU (bU (bU (bU (bU (bU (bU (bU (bU (bU (bU (bU (bU (bU (Y.F_putI (Y.F_nil ?_))))))))))))))))))
    refine eX (bL (cY (rm rfl (ro rfl (jE (Ht rfl) cV (Du zo)) (ra rfl (eX (bS [0,1] rfl (by decide) (fU (k + 1) hjn zo (aQ rfl (aQ rfl (aQ rfl (aZ rfl (bE zo) aX)))) (aU (fun _ _ _ h=>h) (aU (aO (by rw [dO,nQ,← hq])) aY))))))))))
  ·obtain rfl : j = n := Nat.le_antisymm hj (a5N (by have h := of_decide_eq_false hc; omega))
   refine gV (i:=1) (tt:=9) rfl rfl eR (gW rfl (ts (rm rfl (ra rfl (ro rfl (cQ (cJ 0)) (eX (bN rfl (fX (eU rfl) ?_) (fX (eU rfl) ?_))))))))
   ·exact (kB (by rw [he,iY,← hU]; rfl))
   ·exact (bE he.symm)
theorem Pq {M:List (List Qi)} {b:List Qi} {n L:Nat} (hM:cF M n n) (hb:b.length = n) (hf:aN M L) (hfb:bP b L) (hL:1 ≤ L) (h1:1 ≤ n) (hn:n ≤ 32) (hg:6 * mS L n + 4 ≤ 17592186044415) (hx:zM (mS L n) (n + 1) ≤ 17592186044415):bR Tryz.prog 126 [aR M,aM b] (eD [aM (dM (jF M b n) (iY M b n)),aP .i64 (jF M b n)]):=Jk hM hb (Wg.old hM hf hfb hL hg hx) h1 hn
end
section
open Go Go.RowKit
theorem En {M:List (List Qi)} {n m:Nat} (hM:cF M n m) (hn:n ≤ 1000) (hm:m ≤ 1000):fN Tryz.prog 195 [aR M,Is (.slice none 0 0)] [] Nat (fun B=>Is (.slice (some ⟨B,0,none⟩) n n)) (fun B=>[lQ B 25 60 5 (bM aF M)]) (fun _=>True):=by
 have h:=Eo (M:=M) (bs:=[]) hM (fun b hb=>by cases hb) hn hm (by simp)
 rw [Tl hM] at h
 exact h.arg Wk
theorem a40 {M:List (List Qi)} {n G X:Nat} (hM:cF M n n) (hz:∀ i,i < n → Wg M (ek n i) n G X) (hn:n ≤ 32):bR Tryz.prog 224 [aR M] (eD [aR (dM (sP M n) (qA M n)),aP .i64 (sP M n)]):=by
 have hMl:=hM.1
 refine bR.intro Tryz.func224 rfl Tryz.ntmps224 rfl (fun cx=>(ts (ro rfl (cQ cV) (ro rfl (cQ (cJ 0)) (eX (cK (ts (rm rfl (ro rfl (cZ Tryz.call172 (Er hM hn) ⟨(Ht rfl),trivial⟩) (ro rfl (dH (Ht rfl)) (eX (nO (Ht rfl) (by rfl) ?_))))))))))))
 refine cU (ts (rm rfl (iN Tryz.call195 (En hM zo zo) ⟨(Ht rfl),cV,trivial⟩ rfl (fun B14 _=>(ra rfl (eX (cK (ts (rm rfl (ro rfl (dG U_26 (Ht rfl) (by rw [List.length_map,hMl])) ?_))))))))))
 refine ro rfl (cZ Tryz.call144 (a6w (n:=n) hn) ⟨(Ht rfl),trivial⟩) (ro rfl (dG U_26 (Ht rfl) aC) (ro rfl (cX (cJ 0)) (eX (eG ?_))))
 refine cA (fun (k : Nat) => k ≤ n ∧ ∀ i, i < k → jF M (ek n i) n = 0) (fun (k : Nat) => n - k) (fun (k : Nat) => [(0, aR M), (4, Is (.slice (some ⟨B14, 0, none⟩) n n)), (17, aR (rO n)), (18, NT .i64 n), (19, NT .i64 k)]) (fun (k : Nat) => [lQ B14 25 60 5 (bM aF (tY M n k 0))]) 0 ⟨Nat.zero_le _, fun i h => by omega⟩
  (aQ rfl (aQ rfl (aQ rfl (aZ rfl (lX (nR n).1) (zS rfl))))) (aU (bI (congrArg _ (Uh hM))) aY) (fun k ⟨hk,h0⟩=>?_)
 refine ts (ro rfl (gX (Ht rfl) (Ht rfl)) (eX (cK (dQ (Ht rfl) (fun hd0=>?_) (fun hd0=>?_)))))
 ·simp only [decide_eq_true_eq] at hd0
  have hel:=a4o hd0
  refine cU (cK (eG (ts (rm rfl (ro rfl (dZ U_26 Z_25 (Ht rfl) (Ht rfl) rfl (dY (dU (d:=[]) (by rw [(nR n).1]; exact hd0)))) ?_)))))
  refine ro rfl (dJ A_25 Z_25 (Ht rfl)) (ra rfl (ra rfl (eX (ts (rm rfl (rm rfl (ro rfl (cZ Tryz.call126 (Jk (M:=M) (b:=ek n k) (n:=n) (G:=G) (X:=X) hM hel (hz k hd0) zo hn) ⟨(Ht rfl),(Ht rfl),trivial⟩) (rm rfl (ro rfl (dK (Ht rfl) rfl) (ro rfl (dK (Ht rfl) rfl) (ra rfl (ra rfl (eX (cK (ts (rm rfl (ro rfl (kM (Ht rfl) cV) (eX (dQ (Ht rfl) (fun he=>?_) (fun he=>?_))))))))))))))))))))
  ·have he2 : ¬ jF M (ek n k) n = 0 := by simpa using he
   have hi:=a26 h0 hd0 he2
   refine ts (rm rfl (ro rfl (cQ cV) (ra rfl (eX (bN rfl (fX (eU rfl) ?_) (fX (eU rfl) ?_))))))
   ·exact (fun v V h=>by rw [hi,dM,if_neg he2]; exact iR v V h)
   ·exact (bE hi.symm)
  ·have he2 : jF M (ek n k) n = 0 := by simpa using he
   have hxl:(iY M (ek n k) n).length = n:=uO _ _ _
   refine sN (E':=[(0,_),(4,_),(5,_),(7,_),(17,_),(18,_),(19,_)]) (aQ rfl (aQ rfl (aQ rfl (aZ rfl (kB (Us:=(iY M (ek n k) n).map aF) (by rw [he2]; rfl)) (zS rfl))))) ?_
   refine cU (ts (rm rfl (ro rfl (dG U_25 (Ht rfl) aC) (ro rfl (cX (cJ 0)) (eX (eG ?_))))))
   refine cA (fun (i : Nat) => i ≤ n) (fun (i : Nat) => n - i) (fun (i : Nat) => [(0, aR M), (4, Is (.slice (some ⟨B14, 0, none⟩) n n)), (5, NT .i64 k), (7, aM (iY M (ek n k) n)), (17, aR (rO n)), (18, NT .i64 n), (19, NT .i64 k), (34, NT .i64 n), (35, NT .i64 i)]) (fun (i : Nat) => [lQ B14 25 60 5 (bM aF (tY M n k i))]) 0 (Nat.zero_le _)
    (aQ rfl (aQ rfl (aQ rfl (aQ rfl (aQ rfl (aQ rfl (aQ rfl (aZ rfl (lX hxl) (zS rfl))))))))) (dR.refl _) (fun i hi=>?_)
   refine ts (ro rfl (gX (Ht rfl) (Ht rfl)) (eX (cK (dQ (Ht rfl) (fun hf2=>?_) (fun hf2=>?_)))))
   ·simp only [decide_eq_true_eq] at hf2
    have hpl:=(rH M n k i).1
    have hpr:((tY M n k i).getD i []).length = n:=(rH M n k i).row hf2
    refine mB 0 (i) rfl (nY zo) (fun v=>(cU (cK (eG (ts (rm rfl (ra rfl (eX (fZ (m:=9) (dp 4 rfl (cX (Ht rfl)) (dp 9 rfl (cX (Ht rfl)) (cP 38 0 39 1 rfl (fY U_26 Z_25 (Ht rfl) (Ht rfl) rfl zo (by rw [Nat.mul_one,Nat.zero_add])) ?_))))))))))))
    refine dq 40 2 rfl (iC A_25 Z_25 (Ht rfl) (j:=0) rfl) (dp 5 rfl (cX (Ht rfl)) (dp 7 rfl (cX (Ht rfl)) (dp 9 rfl (cX (Ht rfl)) (cP 43 5 44 6 rfl (dZ U_25 Z_60 (Ht rfl) (Ht rfl) rfl (dY (dU (d:=Qi.zero) zo))) (dq 45 7 rfl (dJ A_60 Z_60 (Ht rfl)) (fV bC rfl (by kernel_rfl) (zF (zF (aJ (aV (ro rfl (cL U_25 Z_60 (Ht rfl) (Ht rfl) rfl (i:=1) rfl (by rw [List.length_map]; omega) rfl) ?_)))))))))))
    refine kX Z_60 (Ht rfl) (Ht rfl) (El.ag rfl) (i:=1) rfl rfl (by rw [List.length_map]; omega) rfl ?_
    refine eX (bL (dS 0 1 rfl rfl (by decide) (by simp only [bM,List.length_map]; omega) ?_))
    refine cY (ro rfl (dV (Ht rfl) (cJ 1) z6) (rm rfl (eX (bS [0] rfl (by decide) (fU (i + 1) hf2 zo (zS rfl) (aU (bI (by rw [dO,eN,Ug hf2 hd0])) aY))))))
   ·simp only [decide_eq_false_iff_not] at hf2
    obtain rfl:n = i:=Nat.le_antisymm zo hi
    refine gW rfl (bL (cY (ro rfl (dV (Ht rfl) (cJ 1) z6) (rm rfl (eX ?_)))))
    refine fU (k + 1) ⟨hd0, fun j h => by
     by_cases e:j = k
     ·rw [e]; exact he2
     ·exact h0 j zo⟩ zo (zS rfl) (aU (bI (by rw [Ze])) aY)
 ·simp only [decide_eq_false_iff_not] at hd0
  obtain rfl:n = k:=Nat.le_antisymm zo hk
  have hi:=Uf h0
  refine gV (i:=0) (tt:=4) rfl rfl (gY (s:=5) (M:=tY M n n 0) (rH M n n 0).1.symm) (gW rfl (ts (rm rfl (ra rfl (ro rfl (cQ (cJ 0)) (eX (bN rfl (fX (eU rfl) ?_) (fX (eU rfl) ?_))))))))
  ·exact (kB (by rw [hi,Zf]; rfl))
  ·exact (bE hi.symm)
end
section
open Go Go.RowKit
def xH (p : Nat → Bool) : Nat → Nat → Nat
 | 0,k=>k
 | f + 1,k=>if p k = true then k else xH p f (k + 1)
theorem He {p : Nat → Bool} : ∀ {f k r : Nat}, k ≤ r → r ≤ k + f → (∀ j, k ≤ j → j < r → p j = false) → (r < k + f → p r = true) → xH p f k = r
 | 0,k,r,h1,h2,_,_=>by simp only [xH]; omega
 | f + 1, k, r, h1, h2, h3, h4 => by
  unfold xH
  by_cases e:r = k
  ·subst e; rw [if_pos (h4 zo)]
  ·rw [if_neg (by rw [h3 k (Nat.le_refl _) zo]; simp)]
   exact He zo zo (fun j a b=>h3 j zo b) (fun h=>h4 zo)
theorem yV {p : Nat → Bool} : ∀ {f k : Nat}, (k ≤ xH p f k ∧ xH p f k ≤ k + f) ∧ (∀ j, k ≤ j → j < xH p f k → p j = false) ∧ (xH p f k < k + f → p (xH p f k) = true)
 | 0,k=>⟨⟨Nat.le_refl _,Nat.le_refl _⟩,fun j a b=>by simp only [xH] at b; omega,fun h=>by simp only [xH] at h; omega⟩
 | f + 1, k => by
  unfold xH
  by_cases e:p k = true
  ·rw [if_pos e]; exact ⟨⟨Nat.le_refl _,by omega⟩,fun j a b=>by omega,fun _=>e⟩
  ·rw [if_neg e]
   obtain ⟨⟨a1,a2⟩,a3,a4⟩:=yV (p:=p) (f:=f) (k:=k + 1)
   refine ⟨⟨by omega,by omega⟩,fun j a b=>?_,fun h=>a4 zo⟩
   by_cases c:j = k
   ·subst c; simpa using e
   ·exact a3 j zo b
def Zu (x:List Qi) (f:Qi) (y:List Qi):List Qi:=tab x.length fun i=>gv x i + f * gv y i
def Md (x:Qi):Bool:=decide (rV x Qi.zero < 0)
def Tm (x:Qi):Qi:=if Md x = true then -x else x
def Xz (G:List (List Qi)) (n i:Nat):Nat:=xH (fun k=>!decide (gm G i k = 0)) (n - (i + 1)) (i + 1)
def yP (G:List (List Qi)) (i k:Nat):Qi:=(Tm (gm G k k) + Qi.ofInt 1) / ((gm G i k).norm + (gm G i k).norm)
def crV (G V:List (List Qi)) (i k:Nat):List Qi:=Zu (V.getD k []) (-(yP G i k) * gm G i k) (V.getD i [])
def Ey (G V:List (List Qi)) (n i:Nat):List Qi:=if gm G i i = 0 then (if Xz G n i < n then crV G V i (Xz G n i) else []) else []
def xC (G:List (List Qi)) (n i k l:Nat):List (List Qi):=tab n fun r=>tab n fun c=>if (i < r ∧ i < c) ∧ (c < k ∨ c = k ∧ r < l) then gm G r c - gm G r i * (gm G i c / gm G i i) else gm G r c
def To (G:List (List Qi)) (n i:Nat):List (List Qi):=xC G n i n 0
def oG (G V:List (List Qi)) (n i k:Nat):List (List Qi):=tab n fun r=>if i < r ∧ r < k then Zu (V.getD r []) (-(gm G i r / gm G i i)) (V.getD i []) else V.getD r []
def gM (h : List (List Qi)) (n : Nat) : Nat → List (List Qi) × List (List Qi)
 | 0=>(h,rO n)
 | i + 1=>if gm (gM h n i).1 i i = 0 then gM h n i else (To (gM h n i).1 n i,oG (gM h n i).1 (gM h n i).2 n i n)
def yQ (h : List (List Qi)) (n : Nat) : Nat → Nat → Bool × List Qi
 | 0,_=>(true,[])
 | f + 1,i=>if Md (gm (gM h n i).1 i i) = true then (false,(gM h n i).2.getD i []) else if Ey (gM h n i).1 (gM h n i).2 n i ≠ [] then (false,Ey (gM h n i).1 (gM h n i).2 n i) else yQ h n f (i + 1)
theorem a4h {G V : List (List Qi)} {i k : Nat} (h : 0 < (V.getD k []).length) : (crV G V i k).map aF ≠ [] := fun e => by
 have:=congrArg List.length e
 rw [List.length_map,crV,Zu,aD] at this
 rw [List.length_nil] at this; omega
theorem Kz {x : Qi} (h : ¬ x = 0) : x.norm + x.norm ≠ 0 := fun e => by
 have e2:x.nrm + x.nrm = 0:=congrArg Qi.re e
 exact h (Qi.nrm_zero.1 (by grind))
theorem qH (G:List (List Qi)) (n i k l:Nat):cF (xC G n i k l) n n:=cF.tab
theorem Tp {G:List (List Qi)} {n i:Nat} (h:cF G n n):xC G n i (i + 1) 0 = G:=by
 have:xC G n i (i + 1) 0 = tab n fun r=>tab n fun c=>gm G r c:=bT fun r _=>bT fun c _=>by rw [if_neg zo]
 rw [this]; exact (mY h).symm
theorem a1H {G : List (List Qi)} {n i k : Nat} : xC G n i k 0 = xC G n i k (i + 1) := bT fun r _ => bT fun c _ => by
 by_cases a:(i < r ∧ i < c) ∧ (c < k ∨ c = k ∧ r < 0)
 ·rw [if_pos a,if_pos zo]
 ·rw [if_neg a,if_neg zo]
theorem a1G {G : List (List Qi)} {n i k : Nat} : xC G n i k n = xC G n i (k + 1) 0 := bT fun r hr => bT fun c _ => by
 by_cases a:(i < r ∧ i < c) ∧ (c < k ∨ c = k ∧ r < n)
 ·rw [if_pos a,if_pos zo]
 ·rw [if_neg a,if_neg zo]
theorem Gx {G:List (List Qi)} {n i k l r c:Nat} (hr:r < n) (hc:c < n) (h:¬ ((i < r ∧ i < c) ∧ (c < k ∨ c = k ∧ r < l))):gm (xC G n i k l) r c = gm G r c:=by rw [xC,jG hr hc,if_neg h]
theorem Yb {G:List (List Qi)} {n i k l:Nat} (hl:l < n) (hk:k < n) (hil:i < l) (hik:i < k):(xC G n i k l).set l ((dN (xC G n i k l) l).set k (gm G l k - gm G l i * (gm G i k / gm G i i))) = xC G n i k (l + 1):=by
 refine qK (n:=n) (m:=n) ⟨by rw [List.length_set]; exact aD _ _,fun r hr=>?_⟩ (qH _ _ _ _ _) fun r hr c hc=>?_
 ·rcases List.mem_or_eq_of_mem_set hr with h1 | h1
  ·exact (qH G n i k l).2 r h1
  ·rw [h1,List.length_set]; exact (qH G n i k l).row hl
 ·have hrl : (dN (xC G n i k l) l).length = n := (qH G n i k l).row hl
  have hlen:(xC G n i k l).length = n:=aD _ _
  show gv (dN ((xC G n i k l).set l _) r) c = _
  by_cases e:r = l
  ·subst e
   rw [Dc zo,tX zo]
   by_cases e2:c = k
   ·subst e2
    rw [if_pos rfl,xC,jG hr hc,if_pos zo]
   ·rw [if_neg e2]
    show gm (xC G n i k r) r c = _
    rw [xC,jG hr hc,xC,jG hr hc]
    by_cases a:(i < r ∧ i < c) ∧ (c < k ∨ c = k ∧ r < r)
    ·rw [if_pos a,if_pos zo]
    ·rw [if_neg a,if_neg zo]
  ·rw [vD (fun x => e x.symm)]
   show gm (xC G n i k l) r c = _
   rw [xC,jG hr hc,xC,jG hr hc]
   by_cases a:(i < r ∧ i < c) ∧ (c < k ∨ c = k ∧ r < l)
   ·rw [if_pos a,if_pos zo]
   ·rw [if_neg a,if_neg zo]
theorem Nc {G V:List (List Qi)} {n i:Nat} (h:V.length = n):oG G V n i (i + 1) = V:=by
 have:oG G V n i (i + 1) = tab n fun r=>V.getD r []:=bT fun r _=>by rw [if_neg zo]
 rw [this]; exact (Di (h:=h)).symm
theorem Tt {G V:List (List Qi)} {n i k:Nat} (hk:k < n) (hik:i < k):(oG G V n i k).set k (Zu (V.getD k []) (-(gm G i k / gm G i i)) (V.getD i [])) = oG G V n i (k + 1):=by
 apply List.ext_getElem?
 intro r
 by_cases hr:r < n
 ·by_cases e : r = k
  ·subst e
   rw [List.getElem?_set_self (by rw [oG,aD]; exact hr),oG,cH hr,if_pos zo]
  ·rw [List.getElem?_set_ne (Ne.symm e), oG, oG, cH hr, cH hr]
   by_cases a:i < r ∧ r < k
   ·rw [if_pos a,if_pos zo]
   ·rw [if_neg a,if_neg zo]
 ·rw [List.getElem?_eq_none (by rw [List.length_set,oG,aD]; omega),List.getElem?_eq_none (by rw [oG,aD]; omega)]
theorem Jz {G V:List (List Qi)} {n i k r:Nat} (hr:r < n) (h:¬ (i < r ∧ r < k)):(oG G V n i k).getD r [] = V.getD r []:=by rw [oG,nC hr,if_neg h]
theorem Az (x y:List Qi) (f:Qi):(Zu x f y).length = x.length:=aD _ _
theorem qG {h : List (List Qi)} {n : Nat} (hs : cF h n n) : ∀ i, i ≤ n → cF (gM h n i).1 n n ∧ cF (gM h n i).2 n n
 | 0,_=>⟨hs,nR n⟩
 | i + 1, hi => by
  obtain ⟨a,b⟩:=qG hs i zo
  simp only [gM]
  split
  ·exact ⟨a,b⟩
  ·refine ⟨qH _ _ _ _ _, ⟨aD _ _, fun r hr => ?_⟩⟩
   obtain ⟨j,hj,rfl⟩:=gC.1 hr
   by_cases c:i < j ∧ j < n
   ·rw [if_pos c,Az]; exact b.row hj
   ·rw [if_neg c]; exact b.row hj
def lP (h:List (List Qi)) (n:Nat):Bool:=decide (∀ i,i < n → ∀ k,k < n → gm h i k = (gm h k i).conj)
def Tn (h:List (List Qi)) (n:Nat):Bool:=if lP h n = true then (yQ h n n 0).1 else false
def dfW (h:List (List Qi)) (n:Nat):List Qi:=if lP h n = true then (yQ h n n 0).2 else []
def dfX (h:List (List Qi)) (n:Nat):Int:=if lP h n = true then 0 else 1
theorem a1F {h:List (List Qi)} {n i:Nat} (hi:i < n) (k:Md (gm (gM h n i).1 i i) = true):yQ h n (n - i) i = (false,(gM h n i).2.getD i []):=by
 rw [show n - i = (n - (i + 1)) + 1 by omega,yQ,if_pos k]
theorem a1E {h:List (List Qi)} {n i:Nat} (hi:i < n) (k:Md (gm (gM h n i).1 i i) ≠ true) (w:Ey (gM h n i).1 (gM h n i).2 n i ≠ []):yQ h n (n - i) i = (false,Ey (gM h n i).1 (gM h n i).2 n i):=by
 rw [show n - i = (n - (i + 1)) + 1 by omega,yQ,if_neg k,if_pos w]
theorem a4j {h:List (List Qi)} {n i:Nat} (hi:i < n) (k:Md (gm (gM h n i).1 i i) ≠ true) (w:Ey (gM h n i).1 (gM h n i).2 n i = []):yQ h n (n - i) i = yQ h n (n - (i + 1)) (i + 1):=by
 rw [show n - i = (n - (i + 1)) + 1 by omega,yQ,if_neg k,if_neg (fun e=>e w)]
theorem xB {h:List (List Qi)} {n i:Nat} (k:gm (gM h n i).1 i i = 0):gM h n (i + 1) = gM h n i:=by rw [gM,if_pos k]
theorem Gw {h:List (List Qi)} {n i:Nat} (k:¬ gm (gM h n i).1 i i = 0):gM h n (i + 1) = (To (gM h n i).1 n i,oG (gM h n i).1 (gM h n i).2 n i n):=by rw [gM,if_neg k]
structure SzD (h:List (List Qi)) (n G V:Nat):Prop where
 g:∀ i,i ≤ n → aN (gM h n i).1 G
 v:∀ i,i ≤ n → aN (gM h n i).2 V
 g1:1 ≤ G
 v1:1 ≤ V
 b:10 * G + 2 * V + 40 ≤ 8796093022208
end
section
open Go Go.RowKit
section
variable {P:Program} {n:Nat} {E:dA} {H:Hp}
variable {d:Option Tmp} {t:TypeId} {pos:String} {af:Array Edge} {g:Option (Nat × Bool)}
theorem a5B {x y : Operand} {i B o' : Nat} {BT : TypeId} {Ts Ws : List Ty} {T : Ty} [hsh : dI T 1 false] (hS : ∀ w, (sizeOf t).run P w = .ok 1 w) (hx : bH E x (bO B o')) (hy : bH E y T)
  (hH:H[i]? = some (box B BT Ts)) (hlt:o' < Ts.length) (hW:Ts.set o' T = Ws) {t':TypeId} {H':Hp} (hH':H.set i (box B BT Ws) = H') :
  W.PutTy P n E H H' ⟨none,.store t x y,t',pos,af,none⟩:=by subst hW; subst hH'; exact a5A hS hx hy hH hlt
theorem Um {x y : Operand} {m e s : Nat} {tn : TypeId} {i : TypeInfo} {z : Value} {kd kn : IntKind} (ht : P.underlying t = some (.slice e)) (htn : P.underlying tn = some (.int kn)) (hi : P.info? e = some i) (hz : i.zero = some z) (hs : i.size = s) (hzs : z.cells.size = s) (hs0 : 0 < s)
  (hx:bH E x (Is (.slice none 0 0))) (hy:bH E y (aP kd (m:Int))) (h0:0 < m) (hb:m * i.bytes ≤ 281474976710656) (hm:m ≤ 9223372036854775807) {t':TypeId} :
  iZ P n E H ⟨d,.call ⟨.builtin .append,#[x,y],#[t,tn]⟩,t',pos,af,g⟩ (Nat × Nat) (fun q=>Is (.slice (some ⟨q.1,0,none⟩) m q.2)) (fun q=>bF e s (.slice (some ⟨q.1,0,none⟩) 0 q.2) []):=iZ.of fun cx X a w V hi' hsl=>by
 have ex:a.eval x = .slice none 0 0:=hx n V a hsl
 have ey:a.eval y = .int kd (m:Int):=hy n V a hsl
 have hr:=Lib.run_append_nil_zeros (P:=P) w t tn t' e i z kd kn ht htn hi hz m h0 zo zo hb
 have hge:=grownCap_ge w m 0 e
 have hcm:grownCap w m 0 e ≤ maxLen:=grownCap_le_maxLen w m 0 e (by simp only [maxLen]; omega)
 subst hs
 refine ⟨(w.heap.size,grownCap w m 0 e),_,_,?_,rfl,(hi'.drew).alloc (ob:=.cells (Builtin.zeroCells z.cells m ++ Builtin.zeroCells z.cells (grownCap w m 0 e - m)) e) (fun mm hm'=>⟨[],⟨trivial,by simp,by simp [cR]⟩,.inr ⟨w.heap.size,grownCap w m 0 e,_,rfl,rfl,hm',Nat.zero_le _,hcm,?_,by simp [cR]⟩⟩)⟩
 ·simp [execOp,resolve,invoke,builtin,ex,ey,hr,Sem.run_bind,Result.andThen]
 ·simp only [Array.size_append, size_zeroCells, hzs, ← Nat.add_mul]
  congr 1; omega
theorem Rn {x : Operand} {ad : Option Addr} {l cap : Nat} {e : TypeId} {ta : TypeId} (hU : ∀ w, (underlying ta).run P w = .ok (.slice e) w) (hx : bH E x (Is (.slice ad l cap))) :
  aS P n E H ⟨d,.call ⟨.builtin .cap,#[x],#[ta]⟩,t,pos,af,g⟩ (aP .i64 cap) :=
 dL fun a V w hs => by
  have e1:a.eval x = .slice ad l cap:=hx n V a hs
  exact ⟨.int .i64 cap,by simp [execOp,resolve,e1,invoke,builtin,Builtin.cap_,Sem.run_bind,hU,Result.andThen,goInt],rfl⟩
theorem Fm {x hiO : Operand} {ad : Option Addr} {l cap m s : Nat} {kd : IntKind} {e : TypeId} (hU : ∀ w, (underlying t).run P w = .ok (.slice e) w) (hS : ∀ w, (sizeOf e).run P w = .ok s w) (hx : bH E x (Is (.slice ad l cap))) (hh : bH E hiO (aP kd (m : Int))) (h1 : m ≤ cap) {t' : TypeId} :
  aS P n E H ⟨d,.slice t x none (some hiO) none,t',pos,af,g⟩ (Is (.slice ad m cap)) :=
 dL fun a V w hs => by
  have e1:a.eval x = .slice ad l cap:=hx n V a hs
  have eh:a.eval hiO = .int kd (m:Int):=hh n V a hs
  have had:(ad.map fun x:Addr=>x.add 0) = ad:=by cases ad <;> simp [Addr.add]
  refine ⟨.slice ad m cap,?_,rfl⟩
  simp [execOp,e1,eh,Instr.sliceAt,Instr.slice,Instr.sliceBounds,Instr.sliceBound,asIntOf,Sem.run_bind,hU,hS,Result.andThen,h1,had]
end
end
section
open Go Go.RowKit
section
variable {P:Program} {n:Nat} {E:dA} {H:Hp}
variable {d:Option Tmp} {t:TypeId} {pos:String} {af:Array Edge} {g:Option (Nat × Bool)}
theorem a0b {f : FuncId} {xs : List Operand} {tys : Array TypeId} {Ts : List Ty} {U T0 T1 : Ty} {A : SA} {j tt : Nat} (hc : ∀ args w, (callFunc f args).run P w = .ok (.enter f args) w) (hF : bR P f Ts U)
  (hA:H[j]? = some A) (hl:fL E tt = some T0) (hz:∀ v S V,T0.p v V → A.h S V V → T1.p v V) (hU:∀ v V V',U.p v V → U.p v V') (ha:oS ((tt,T1) :: E) xs Ts) :
  aS P n E H ⟨d,.call ⟨.value (.func f),xs.toArray,tys⟩,t,pos,af,g⟩ U:=fun cx X a w V hi hs K Q hK=>by
 have hrun : (execOp a.eval ⟨d, .call ⟨.value (.func f), xs.toArray, tys⟩, t, pos, af, g⟩).run P w = .ok (.enter f (xs.map a.eval).toArray) w := by
  simp [execOp,resolve,Act.eval,Deferred.ofValue,invoke,hc]
 simp only [Oper.wp,hrun,Oper.upon_enter]
 obtain ⟨F,h1,h2⟩:=hi.hp
 have hjl:=(List.getElem?_eq_some_iff.1 hA).1
 obtain ⟨k1,k2⟩:=h1 j A (by rw [List.getElem?_append_left hjl]; exact hA)
 let V1:bB:=fun b=>if b ∈ F j then w.heap[b]? else V b
 have hle : mW V V1 := fun b o hb => by
  have:b ∉ F j:=fun hf=>by have:=(k2 b hf).1; rw [hb] at this; cases this
  simp only [V1,if_neg this]; exact hb
 have hon : ∀ b o, V1 b = some o → w.heap[b]? = some o := fun b o hb => by
  by_cases hf:b ∈ F j
  ·simp only [V1,if_pos hf] at hb; exact hb
  ·simp only [V1,if_neg hf] at hb; exact hi.on b o hb
 have hA1:A.h (F j) V1 V1:=A.mono (A.loc k1 fun b hb=>by simp only [V1,if_pos hb]; rfl) hle
 have hsl : eI n ((tt, T1) :: E) V1 a := by
  have hs':=hs.mono hle
  refine ⟨hs'.1,hs'.2.1,fun t' T hT=>?_⟩
  rw [cT] at hT
  by_cases e:tt = t'
  ·subst e
   rw [if_pos rfl] at hT; obtain rfl:=Option.some.inj hT
   obtain ⟨v,q1,q2⟩:=hs'.2.2 _ _ hl
   exact ⟨v,q1,hz v (F j) V1 q2 hA1⟩
  ·rw [if_neg e] at hT; exact hs'.2.2 t' T hT
 refine (hF _ V1 w hon (oS.all hsl ha)).mono ?_
 rintro e w' ⟨v,V',rfl,m1,m2,m3,m4,m5⟩
 exact hK v w' V (hi.after (mW.refl V) (fun b o hb=>m2 b o (m1 b o (hle b o hb))) (fun b o hb h0=>by rw [hb] at h0; cases h0) m4) (mW.refl V) (hU v V' V m5)
theorem Ur {x i : Operand} {q : Nat} {Ts : List Ty} {T : Ty} {kd : IntKind} {e : TypeId} {len : Nat} (hU : ∀ w, (underlying t).run P w = .ok (.array len e) w) (hS : ∀ w, (sizeOf e).run P w = .ok 1 w) (hg : ∀ w, (isAgg e).run P w = .ok false w)
  (hx:bH E x (gN Ts)) (hi:bH E i (NT kd q)) (hl:q < len) (hT:Ts[q]? = some T) {t':TypeId}:aS P n E H ⟨d,.index t x i,t',pos,af,g⟩ T :=
 dL fun a V w hs => by
  obtain ⟨vs,e1,e4⟩:=hx n V a hs
  have ei:a.eval i = .int kd (q:Int):=hi n V a hs
  obtain ⟨u,e5,e6⟩:=e4.all.get hT
  exact ⟨u,by simp [execOp,e1,ei,Instr.index,asIntOf,Sem.run_bind,hU,hS,hg,part,Result.andThen,hl,e5],e6⟩
end
end
section
open Go Go.RowKit
section
variable {P:Program} {R:iE} {cx:Cx} {n:Nat} {k:List It} {E:dA} {H:Hp}
theorem HH.two {base:Nat} {w:World} {V:bB} {Z:SA} {X:Hp} (h:HH base w V (Z :: X)):HH base w V [Z,fM (SA.emp :: X)]:=by
 have h1:HH base w V ((Z :: X).set 0 SA.emp ++ [Z]):=h.last rfl
 have h2:HH base w V (fM (SA.emp :: X) :: [Z]):=HH.repack h1
 exact h2.pick (is:=[1,0]) ⟨⟨_,rfl,fun _ _ _ h=>h⟩,⟨_,rfl,fun _ _ _ h=>h⟩,trivial⟩ (by decide)
theorem fN.pack {f : FuncId} {Ts : List Ty} {γ : Type} {U : γ → Ty} {X : γ → Hp} {Q : γ → Prop} (h : fN P f Ts [] γ U X Q) : fN P f Ts [] γ U (fun x => [fM (SA.emp :: X x)]) Q :=
 fun cx Z vs V w h1 h2=>(h cx Z vs V w h1 h2).mono fun e w' ⟨v,V',x,a,b,c,d,e'⟩=>⟨v,V',x,a,b,c.withHH c.hp.two,d,e'⟩
end
namespace W
variable {P:Program} {R:iE} {cx:Cx} {n:Nat} {k:List It} {E:dA} {H:Hp} {Hf:Bool → Hp} {p:Nat}
end W
end
section
open Go Go.RowKit
section
variable {P:Program} {n:Nat} {E:dA} {H:Hp}
variable {d:Option Tmp} {t:TypeId} {pos:String} {af:Array Edge} {g:Option (Nat × Bool)}
theorem xO {x i : Operand} {B o q r s : Nat} {kd : IntKind} {j : Int} {e : TypeId} {len : Nat} (hU : ∀ w, (underlying t).run P w = .ok (.array len e) w) (hS : ∀ w, (sizeOf e).run P w = .ok s w)
  (hx:bH E x (bO B o)) (hi:bH E i (aP kd j)) (hj:j = (q:Int)) (hl:q < len) (hr:o + q * s = r) {t':TypeId}:aS P n E H ⟨d,.indexAddr t x i,t',pos,af,g⟩ (bO B r) :=
 dL fun a V w hs => by
  have e1:a.eval x = .pointer (some ⟨B,o,none⟩):=hx n V a hs
  have ei:a.eval i = .int kd j:=hi n V a hs
  subst hj hr
  exact ⟨.pointer (some ⟨B,o + q * s,none⟩),by simp [execOp,e1,ei,Instr.indexAt,Instr.sureAddr,asIntOf,Sem.run_bind,hU,hS,Result.andThen,hl,gD],rfl⟩
end
end
section
open Go Go.RowKit
theorem eE.tk {V : bB} : ∀ {Ts : List Ty} {vs : List Value} (k : Nat), eE Ts vs V → eE (Ts.take k) (vs.take k) V
 | _,_,0,_=>by simp [eE]
 | [],[],k + 1,_=>by simp [eE]
 | T :: Ts, v :: vs, k + 1, h => by
  rw [List.take_succ_cons,List.take_succ_cons]; exact ⟨h.1,eE.tk k h.2⟩
 | [],_ :: _,_ + 1,h=>h.elim
 | _ :: _,[],_ + 1,h=>h.elim
theorem eE.dr {V : bB} : ∀ {Ts : List Ty} {vs : List Value} (k : Nat), eE Ts vs V → eE (Ts.drop k) (vs.drop k) V
 | _,_,0,h=>h
 | [],[],k + 1,_=>by simp [eE]
 | T :: Ts, v :: vs, k + 1, h => by
  rw [List.drop_succ_cons,List.drop_succ_cons]; exact eE.dr k h.2
 | [],_ :: _,_ + 1,h=>h.elim
 | _ :: _,[],_ + 1,h=>h.elim
section
variable {P:Program} {R:iE} {cx:Cx} {n:Nat} {k:List It} {E:dA} {H:Hp} {ops:Array Oper} {o:Oper} {rest:List Oper}
variable {d:Option Tmp} {t:TypeId} {pos:String} {af:Array Edge} {g:Option (Nat × Bool)}
theorem Bz {x y : Operand} {i e e' s lo p : Nat} {ta tb : TypeId} {v : Value} {Ts Us : List Ty} {a : Act} {w : World} {V : bB} {b0 o0 cp dd : Nat} {ys : List Value} {t' : TypeId} (hU : ∀ w, (underlying ta).run P w = .ok (.slice e) w) (hS : ∀ w, (sizeOf e).run P w = .ok s w)
  (hinv:iD cx V H w) (hH:H[i]? = some (bF e' s v Ts)) (hxv:(Dy s v lo p).p (a.eval x) V) (ey:a.eval y = .slice (some ⟨b0,o0,none⟩) Us.length cp) (hqp:Us.length ≤ p)
  (hrow:yI s Us ys V) (hcells:∀ (j:Nat) u,(cR ys)[j]? = some u → w.cell? ((⟨b0,o0,none⟩:Addr).add j) = some u) :
  ∃ w',(execOp a.eval ⟨some dd,.call ⟨.builtin .copy,#[x,y],#[ta,tb]⟩,t',pos,af,g⟩).run P w = .ok (.value (goInt Us.length)) w' ∧ iD cx V (H.set i (bF e' s v (Ts.take lo ++ Us ++ Ts.drop (lo + Us.length)))) w':=by
 obtain ⟨S,hR⟩:=(show HH cx.w0.heap.size w V (H ++ []) by simpa using hinv.hp).get hH
 obtain ⟨xs,hrx,h2⟩:=hR
 obtain ⟨g1,l0,cap0,hv,hlo,hlc,ex⟩:=hxv
 rcases h2 with ⟨h0,_⟩ | ⟨g2,cap,cur,h3,hS',hg,hle,hcm,hcs,htake⟩
 ·rw [hv] at h0; cases h0
 rw [hv] at h3
 simp only [Value.slice.injEq,Option.some.injEq,Addr.mk.injEq] at h3
 obtain ⟨⟨rfl,_⟩,rfl,rfl⟩:=h3
 have hyl:ys.length = Us.length:=hrow.all.length
 have hxl:xs.length = Ts.length:=hrx.all.length
 have hmin:Nat.min Us.length p = Us.length:=Nat.min_eq_left hqp
 have hfl:(cR ys).length = Us.length * s:=by rw [kP _ (fun z hz=>hrow.size z hz),hyl]
 have hg':w.heap[g1]? = some (.cells cur e' (0,0)):=hg
 have h1s:(lo + Us.length) * s ≤ Ts.length * s:=Nat.mul_le_mul_right _ zo
 have h2s:Ts.length * s ≤ cap0 * s:=Nat.mul_le_mul_right _ hle
 have h3s:(lo + Us.length) * s = lo * s + Us.length * s:=Nat.add_mul _ _ _
 have hpl:∀ u,u ∈ cR ys → kE u:=fun u hu=>hrow.plain u hu
 obtain ⟨w',q1,⟨c',q2,q2'⟩,q3,q4,q5,q6,q7⟩:=mJ (P:=P) (cR ys) (lo * s) 0 w cur hg' (by rw [hfl]; omega) hpl
 have hf:=run_firstCells_some (P:=P) w s Us.length ⟨b0,o0,none⟩ Us.length cp (cR ys) hfl hcells
 refine ⟨w',?_,?_⟩
 ·simp [execOp,resolve,invoke,builtin,ex,ey,Builtin.copy_,Builtin.lenOf,Sem.run_bind,hU,hS,Result.andThen,hmin,hf,q1]
 ·refine hinv.upd hH q4 q5 q6 q7 (fun S2 hS2 => ?_)
  obtain ⟨xs2,hrx2,h4⟩:=hS2
  rcases h4 with ⟨h0,_⟩ | ⟨g3,cap3,cur3,h5,hS3,hg3,hle3,hcm3,hcs3,htake3⟩
  ·rw [hv] at h0; cases h0
  rw [hv] at h5
  simp only [Value.slice.injEq,Option.some.injEq,Addr.mk.injEq] at h5
  obtain ⟨⟨rfl,_⟩,_,rfl⟩:=h5
  have hg4:w.heap[g1]? = some (.cells cur3 e' (0,0)):=hg3
  rw [hg'] at hg4; simp at hg4; subst hg4
  subst hS3
  have hx2l:xs2.length = Ts.length:=hrx2.all.length
  have hnl:(Ts.take lo ++ Us ++ Ts.drop (lo + Us.length)).length = Ts.length:=by simp only [List.length_append,List.length_take,List.length_drop]; omega
  refine ⟨fun b hb=>q3 b (by simpa using hb),xs2.take lo ++ ys ++ xs2.drop (lo + Us.length),⟨((hrx2.all.tk lo).append hrow.all).append (hrx2.all.dr _),fun z hz=>?_,fun u hu=>?_⟩,.inr ⟨g1,cap0,c',by rw [hv,hnl],rfl,q2,by rw [hnl]; exact hle,hcm,?_,?_⟩⟩
  ·simp only [List.mem_append] at hz
   rcases hz with (hz | hz) | hz
   ·exact hrx2.size z (List.mem_of_mem_take hz)
   ·exact hrow.size z hz
   ·exact hrx2.size z (List.mem_of_mem_drop hz)
  ·obtain ⟨z, hz, hu'⟩ := gI.1 hu
   simp only [List.mem_append] at hz
   rcases hz with (hz | hz) | hz
   ·exact hrx2.plain u (gI.2 ⟨z,List.mem_of_mem_take hz,hu'⟩)
   ·exact hrow.plain u (gI.2 ⟨z,hz,hu'⟩)
   ·exact hrx2.plain u (gI.2 ⟨z,List.mem_of_mem_drop hz,hu'⟩)
  ·have : c'.toList.length = cur.toList.length := by
    rw [q2']; simp only [List.length_append,List.length_take,List.length_drop,Array.length_toList,hfl]; omega
   simpa [hcs] using this
  ·rw [hnl, q2', rE, rE, An hrx2.size lo zo, Qj hrx2.size (lo + Us.length) zo, ← htake3, h3s]
   simp only [Nat.add_zero,hfl]
   exact Dk _ _ _ _ _ hfl zo (by simp only [Array.length_toList]; omega)
theorem a0Z {x y : Operand} {i e e' s lo p dd : Nat} {ta tb : TypeId} {v : Value} {Ts Us : List Ty} (hU : ∀ w, (underlying ta).run P w = .ok (.slice e) w) (hS : ∀ w, (sizeOf e).run P w = .ok s w)
  (hH:H[i]? = some (bF e' s v Ts)) (hx:bH E x (Dy s v lo p)) (hy:bH E y (kI s Us)) (hq:Us ≠ []) (hqp:Us.length ≤ p) (hEl:∀ T,T ∈ Us → El s T) (hn:Nat.blt dd n = true) {t':TypeId}
  (h:Rg P R cx n ops rest k ((dd,NT .i64 Us.length) :: E) (H.set i (bF e' s v (Ts.take lo ++ Us ++ Ts.drop (lo + Us.length))))) :
  Rg P R cx n ops (⟨some dd,.call ⟨.builtin .copy,#[x,y],#[ta,tb]⟩,t',pos,af,none⟩ :: rest) k E H:=by
 intro a w ⟨V,hinv,hs⟩
 unfold wpList
 rw [if_pos (by simp [Region.wanted])]
 left
 obtain ⟨b0,o0,cp,ys,ey,_,hrow,hcells⟩:=kI.row (hy n V a hs) hq hEl
 obtain ⟨w',hrun,hi'⟩:=Bz (dd:=dd) (pos:=pos) (af:=af) (g:=none) (t':=t') (tb:=tb) hU hS hinv hH (hx n V a hs) ey hqp hrow (hcells w hinv.on)
 simp only [Oper.wp,hrun,Oper.upon_value]
 exact h _ _ ⟨V,hi',hs.put (aK hn) rfl⟩
theorem a10 {x y : Operand} {i e e' s dd : Nat} {ta tb : TypeId} {v : Value} {Ts Us : List Ty} (hU : ∀ w, (underlying ta).run P w = .ok (.slice e) w) (hS : ∀ w, (sizeOf e).run P w = .ok s w)
  (hH:H[i]? = some (bF e' s v Ts)) (hx:bH E x (Is v)) (hy:bH E y (kI s Us)) (hq:Us ≠ []) (hqp:Us.length ≤ Ts.length) (hEl:∀ T,T ∈ Us → El s T) (hn:Nat.blt dd n = true) {t':TypeId}
  (h:Rg P R cx n ops rest k ((dd,NT .i64 Us.length) :: E) (H.set i (bF e' s v (Us ++ Ts.drop Us.length)))) :
  Rg P R cx n ops (⟨some dd,.call ⟨.builtin .copy,#[x,y],#[ta,tb]⟩,t',pos,af,none⟩ :: rest) k E H:=by
 intro a w ⟨V,hinv,hs⟩
 unfold wpList
 rw [if_pos (by simp [Region.wanted])]
 left
 obtain ⟨b0,o0,cp,ys,ey,_,hrow,hcells⟩:=kI.row (hy n V a hs) hq hEl
 obtain ⟨S,hR⟩:=(show HH cx.w0.heap.size w V (H ++ []) by simpa using hinv.hp).get hH
 have hxv : (Dy s v 0 Ts.length).p (a.eval x) V := by
  obtain ⟨xs,_,h2⟩:=hR
  rcases h2 with ⟨_,h0,_⟩ | ⟨g1,cap,cur,hv,_,_,hle,_⟩
  ·have := List.length_pos_iff.2 hq
   rw [h0] at hqp; simp at hqp; exact absurd hqp hq
  ·have ex : a.eval x = v := hx n V a hs
   exact ⟨g1,Ts.length,cap,hv,by omega,hle,by rw [ex,hv]; simp⟩
 obtain ⟨w',hrun,hi'⟩:=Bz (dd:=dd) (pos:=pos) (af:=af) (g:=none) (t':=t') (tb:=tb) hU hS hinv hH hxv ey hqp hrow (hcells w hinv.on)
 rw [Nat.zero_add,List.take_zero,List.nil_append] at hi'
 simp only [Oper.wp,hrun,Oper.upon_value]
 exact h _ _ ⟨V,hi',hs.put (aK hn) rfl⟩
def hdr : Option (Nat × Nat) → Nat → Value
 | none,_=>.slice none 0 0
 | some (b,cp),l=>.slice (some ⟨b,0,none⟩) l cp
instance shHdr (x:Option (Nat × Nat)) (l:Nat):dI (Is (hdr x l)) 1 false:=by
 match x with
 | none=>exact inferInstanceAs (dI (Is (.slice none 0 0)) 1 false)
 | some (b,cp)=>exact inferInstanceAs (dI (Is (.slice (some ⟨b,0,none⟩) l cp)) 1 false)
end
end
section
open Go Go.RowKit
theorem eE.mk' {V : bB} : ∀ {Ts : List Ty} {vs : List Value}, vs.length = Ts.length → (∀ (q : Nat) (T : Ty), Ts[q]? = some T → ∃ u, vs[q]? = some u ∧ T.p u V) → eE Ts vs V
 | [],[],_,_=>trivial
 | T :: Ts, v :: vs, h, k => by
  obtain ⟨u,h1,h2⟩:=k 0 T rfl
  simp at h1; subst h1
  exact ⟨h2,eE.mk' (by simpa using h) fun q T hT=>k (q + 1) T (by simpa using hT)⟩
 | [],_ :: _,h,_=>by simp at h
 | _ :: _,[],h,_=>by simp at h
section
variable {P:Program} {R:iE} {cx:Cx} {n:Nat} {k:List It} {E:dA} {H:Hp} {ops:Array Oper} {o:Oper} {rest:List Oper}
variable {d:Option Tmp} {t:TypeId} {pos:String} {af:Array Edge} {g:Option (Nat × Bool)}
theorem iD.frzRows {V : bB} {w : World} {j B e s : Nat} {q : Value → Prop} {BT : TypeId} {Rs : List (List Ty)} (h : iD cx V H w) (hH : H[j]? = some (lR q B BT e s Rs)) (hm : Rs.length ≤ maxLen) :
  ∃ V',mW V V' ∧ iD cx V' (H.set j (bF BT 1 (.slice (some ⟨B,0,none⟩) Rs.length Rs.length) (Rs.map (kI s)))) w:=by
 have hjl:=(List.getElem?_eq_some_iff.1 hH).1
 obtain ⟨vs, hv⟩ := h.hp.split (γ := {vs : List Value // vs.length = Rs.length}) (A1 := fun vs => box B BT (vs.1.map Is)) (A2 := fun vs => fM (SA.emp :: List.zipWith (bF e s) vs.1 Rs)) hH (fun S ⟨vs, ⟨h1, h1q⟩, h2⟩ => by
  obtain ⟨S1,S2,k1,k2,k3,k4⟩:=fM.split (q:=0) h2 (A:=box B BT (vs.map Is)) (by simp [mx])
  exact ⟨⟨vs,h1⟩,S2,S1,k2,k1,fun b p r=>k3 b r p,fun b=>by rw [k4 b]; exact Or.comm⟩)
 have h3:iD cx V (H.set j (box B BT (vs.1.map Is)) ++ [fM (SA.emp :: List.zipWith (bF e s) vs.1 Rs)]) w:=h.withHH hv
 obtain ⟨V',S,hle,hi',hA⟩:=h3.freeze (i:=H.length) (A:=fM (SA.emp :: List.zipWith (bF e s) vs.1 Rs)) (by rw [List.getElem?_append_right (by simp)]; simp)
 refine ⟨V',hle,?_⟩
 obtain ⟨F,f1,f2⟩:=hi'.hp
 obtain ⟨G,g1,g2,g3⟩:=hA
 refine hi'.withHH ⟨F,fun i A hA=>?_,fun i l b hi hl=>?_⟩
 ·by_cases c : i = j
  ·subst c
   simp [hjl] at hA; subst hA
   obtain ⟨⟨e0,cs,e1,e2⟩,k2⟩:=f1 i (box B BT (vs.1.map Is)) (by rw [List.getElem?_set_ne zo,List.getElem?_append_left (by simpa using hjl)]; simp [hjl])
   refine ⟨⟨cs,⟨?_,fun x hx=>by rw [(e2.pl x hx).cells]; rfl,fun u hu=>?_⟩,.inr ⟨B,Rs.length,cs.toArray,by rw [List.length_map],e0,e1,by rw [List.length_map]; exact Nat.le_refl _,hm,?_,?_⟩⟩,k2⟩
   ·refine eE.mk' (by rw [e2.length, List.length_map, List.length_map, vs.2]) fun q T hT => ?_
    rw [List.getElem?_map] at hT
    obtain ⟨Ts,hR,rfl⟩:=Option.map_eq_some_iff.1 hT
    have hql:=(List.getElem?_eq_some_iff.1 hR).1
    have hvq:vs.1[q]? = some (vs.1[q]'(by rw [vs.2]; exact hql)):=by simp [vs.2,hql]
    obtain ⟨u,u1,u2⟩:=e2.get (i:=q) (T:=Is (vs.1[q]'(by rw [vs.2]; exact hql))) (by simp [vs.2,hql])
    have hrow:=g1 (q + 1) (bF e s (vs.1[q]'(by rw [vs.2]; exact hql)) Ts) (by simp [List.getElem?_zipWith,hvq,hR])
    exact ⟨u,u1,eR u _ V' u2 hrow⟩
   ·obtain ⟨x, hx, hu⟩ := gI.1 hu
    have:=e2.pl x hx
    rw [this.cells] at hu; simp at hu; subst hu; exact this
   ·have := e2.length
    rw [List.length_map,vs.2] at this
    simp [this]
   ·have := e2.length
    rw [List.length_map,vs.2] at this
    have hf:cR cs = cs:=rY cs fun x hx=>e2.pl x hx
    rw [hf,List.length_map,Nat.mul_one]
    simp [← this]
  ·rw [List.getElem?_set_ne (fun x => c x.symm)] at hA
   have hil:=(List.getElem?_eq_some_iff.1 hA).1
   refine f1 i A ?_
   rw [List.getElem?_set_ne zo,List.getElem?_append_left (by simpa using hil),List.getElem?_set_ne (fun x=>c x.symm)]
   exact hA
 ·simp at hi hl
  exact f2 i l b (by simp; omega) (by simp; omega)
theorem Sy (j : Nat) {B e s : Nat} {q : Value → Prop} {BT : TypeId} {Rs : List (List Ty)} (hH : H[j]? = some (lR q B BT e s Rs)) (hm : Rs.length ≤ maxLen)
  (h:Tr P R cx n k E (H.set j (bF BT 1 (.slice (some ⟨B,0,none⟩) Rs.length Rs.length) (Rs.map (kI s))))):Tr P R cx n k E H:=fun a w ⟨V,hi,hs⟩=>by
 obtain ⟨V',hle,hi'⟩:=hi.frzRows hH hm
 exact h a w ⟨V',hi',hs.mono hle⟩
theorem Mj (j : Nat) {B e s m : Nat} {q : Value → Prop} {BT : TypeId} {Rs : List (List Ty)} {Us : List Ty} (hH : H[j]? = some (lR q B BT e s Rs)) (hm : m ≤ maxLen) (hl : Rs.length = m) (hU : Rs.map (kI s) = Us)
  (h:Tr P R cx n k E (H.set j (bF BT 1 (.slice (some ⟨B,0,none⟩) m m) Us))):Tr P R cx n k E H:=by
 subst hl hU; exact Sy j hH hm h
def NlT (s:Nat) (Ts:List Ty):Ty where
 p v V:=(Ts = [] ∧ v = .slice none 0 0) ∨ (Ts ≠ [] ∧ (kI s Ts).p v V)
 mono h k:=h.imp id fun ⟨a,b⟩=>⟨a,(kI s Ts).mono b k⟩
theorem Cf (tx:TypeId) (x y:Operand) (a b:Option Addr) (l c l' c':Nat):eqGuard .neq tx x y (.slice a l c) (.slice b l' c') = pure ():=rfl
theorem Ut {tx ty : TypeId} {x : Operand} {s : Nat} {Ts : List Ty} {e : TypeId} {q : Bool} (hq : q = true ↔ Ts ≠ []) (hU : ∀ w, (underlying tx).run P w = .ok (.slice e) w) (hx : bH E x (NlT s Ts)) :
  aS P n E H ⟨d,.binOp .neq tx x (.const (.slice none 0 0)) ty,t,pos,af,g⟩ (aH q) :=
 dL fun a V w hs => by
  rcases hx n V a hs with ⟨hT,e1⟩ | ⟨hT,ad,cap,e1,_,e3⟩
  ·have hf : q = false := by cases q; rfl; exact absurd hT (hq.1 rfl)
   subst hf
   refine ⟨.bool false,?_,rfl⟩
   have h:=Be (P:=P) (tx:=tx) (e:=e) none 0 0 hU
   simp [execOp,e1,rX,Cf,binOp,h,Sem.run_bind,Result.andThen] at h ⊢
  ·have ht : q = true := hq.2 hT
   subst ht
   cases ad with
   | none =>
    cases Ts with
    | nil=>exact absurd rfl hT
    | cons T Ts=>obtain ⟨b,o,x,h,_⟩:=e3 0 T rfl; cases h
   | some ad =>
    refine ⟨.bool true,?_,rfl⟩
    have h:=Be (P:=P) (tx:=tx) (e:=e) (some ad) Ts.length cap hU
    simp [execOp,e1,rX,Cf,binOp,h,Sem.run_bind,Result.andThen] at h ⊢
theorem a0X {f : FuncId} {xs : List Operand} {tys : Array TypeId} {Ts : List Ty} {γ : Type} {U : γ → Ty} {i j : Nat} {A B : SA} {A' B' : γ → SA} {Q : γ → Prop} {dd : Nat} (hc : ∀ args w, (callFunc f args).run P w = .ok (.enter f args) w)
  (hF:fN P f Ts [A,B] γ U (fun x=>[A' x,B' x]) Q) (hA:H[i]? = some A) (hB:H[j]? = some B) (hij:i ≠ j) (ha:oS E xs Ts) (hn:Nat.blt dd n = true) (h:∀ x,Q x → Rg P R cx n ops rest k ((dd,U x) :: E) ((H.set j (B' x)).set i (A' x))) :
  Rg P R cx n ops (⟨some dd,.call ⟨.value (.func f),xs.toArray,tys⟩,t,pos,af,none⟩ :: rest) k E H:=by
 intro a w ⟨V,hi,hs⟩
 unfold wpList
 rw [if_pos (by simp [Region.wanted])]
 left
 have hrun : (execOp a.eval ⟨some dd, .call ⟨.value (.func f), xs.toArray, tys⟩, t, pos, af, none⟩).run P w = .ok (.enter f (xs.map a.eval).toArray) w := by
  simp [execOp,resolve,Act.eval,Deferred.ofValue,invoke,hc]
 simp only [Oper.wp,hrun,Oper.upon_enter]
 have hil:=(List.getElem?_eq_some_iff.1 hA).1
 have hjl:=(List.getElem?_eq_some_iff.1 hB).1
 have h1:=hi.hp.last hA
 have h2:=h1.last (i:=j) (A:=B) (by rw [List.getElem?_append_left (by simpa using hjl),List.getElem?_set_ne hij]; exact hB)
 rw [List.set_append_left _ _ (by simpa using hjl),List.append_assoc] at h2
 have h3:=HH.repack h2
 refine (hF cx _ _ V w (hi.withHH h3) (oS.all hs ha)).mono ?_
 rintro e w' ⟨v,V',x,rfl,m1,m2,m3,m4⟩
 refine h x m4 _ _ ⟨V',m2.withHH ?_,(hs.mono m1).put (aK hn) m3⟩
 have g1:=m2.hp.unpack
 have e1 : (H.set i SA.emp).set j SA.emp ++ [A' x, B' x] = (H.set i SA.emp ++ [A' x]).set j SA.emp ++ [B' x] := by
  rw [List.set_append_left _ _ (by simpa using hjl),List.append_assoc]; rfl
 rw [e1] at g1
 have g2:=g1.unlast (by simp; omega)
 rw [List.set_append_left _ _ (by simpa using hjl),List.set_comm _ _ hij] at g2
 exact g2.unlast (by simpa using hil)
end
end
section
open Go Go.RowKit
theorem Mt {x:Qi} {L:Nat} [hx:aE x L] (h:L + L + 1 ≤ 17592186044415):bR Tryz.prog 50 [aF x] (aF x.norm):=by
 have hxa:=oM hx.fit; have hxb:=oN hx.fit; have hxd:=oO hx.fit
 have hxp:=x.den_pos; have hdp:=Nat.mul_pos hxp hxp
 have e1:=mN x.a x.a; have e2:=mN x.b x.b; have e5:=yS x.den x.den
 have e6:=nH (x:=x.a * x.a) (y:=x.b * x.b) (L:=L + L) zo zo
 have hz:(dg (0:Int).natAbs).length ≤ 0:=by rw [show (0:Int).natAbs = 0 from rfl,fP]; exact Nat.le_refl _
 refine bR.intro Tryz.func50 rfl Tryz.ntmps50 rfl (fun cx=>(ts (rn rfl (fG (Ht rfl)) fun B1=>(rn rfl (eW (Ts:=[Is (.bool false),Is (.slice none 0 0),Is (.bool false),Is (.slice none 0 0),Is (.slice none 0 0)]) O_60 rfl (fun V=>aW zd (aW zd (aW zd (aW zd (aW zd (aG))))))) fun B2=>(eX (cK (fZ (m:=17) (dp 1 rfl (eZ fR (Ht rfl) rfl) (dq 3 0 rfl (eJ A_58 Z_58 (Ht rfl) (i:=0) rfl rfl rfl) (dp 1 rfl (eZ fR (Ht rfl) rfl) ?_))))))))))
 refine dq 5 2 rfl (eJ A_58 Z_58 (Ht rfl) (i:=0) rfl rfl rfl) (cP 4 1 6 3 rfl (cZ K_151 (qE zo zo) ⟨(Ht rfl),(Ht rfl),trivial⟩) (dp 1 rfl (eZ gF (Ht rfl) rfl) (dq 8 5 rfl (eJ A_58 Z_58 (Ht rfl) (i:=0) rfl rfl rfl) (dp 1 rfl (eZ gF (Ht rfl) rfl) (dq 10 7 rfl (eJ A_58 Z_58 (Ht rfl) (i:=0) rfl rfl rfl) (cP 9 6 11 8 rfl (cZ K_151 (qE zo zo) ⟨(Ht rfl),(Ht rfl),trivial⟩) (cP 7 4 12 9 rfl (cZ K_152 (wG zo zo) ⟨(Ht rfl),(Ht rfl),trivial⟩) ?_)))))))
 refine d0 rfl (aS.imp (Pn ) Ds) (dp 1 rfl (eJ A_60 Z_60 (Ht rfl) (i:=0) rfl rfl rfl) (dq 15 12 rfl (cZ K_153 oQ ⟨(Ht rfl),trivial⟩) (dp 1 rfl (eJ A_60 Z_60 (Ht rfl) (i:=0) rfl rfl rfl) (dq 17 14 rfl (cZ K_153 oQ ⟨(Ht rfl),trivial⟩) (cP 16 13 18 15 rfl (cZ K_154 (Ep zo zo) ⟨(Ht rfl),(Ht rfl),trivial⟩) (fV bC rfl (by kernel_rfl) (zF (zF (zF (zF (aJ (aV ?_))))))))))))
 refine ro rfl (cZ K_150 (wF (A:=x.a * x.a + x.b * x.b) (B:=0) (D:=x.den * x.den) hdp zo zo zo) ⟨(Ht rfl),(Ht rfl),(Ht rfl),trivial⟩) (gQ Z_60 (Ht rfl) (Ht rfl) rfl (i:=1) rfl (aK rfl) rfl rfl (eX (fW rfl (fX (fK A_60 Z_60 rfl (i:=1) rfl rfl) ?_))))
 exact (jU (Qi.mk_norm x))
theorem Pu {x y:List Qi} {f:Qi} {n L M N:Nat} (hx:bP x L) (hf:aE f M) (hy:bP y N) (hL:1 ≤ L) (hN:1 ≤ N) (hb:L + M + N + 4 ≤ 17592186044415) (hxl:x.length = n) (hyl:y.length = n) (hn:n ≤ 1000):bR Tryz.prog 197 [aM x,aF f,aM y] (aM (Zu x f y)):=by
 haveI:=hf
 refine bR.intro Tryz.func197 rfl Tryz.ntmps197 rfl (fun cx=>(ts (rn rfl (fG (Ht rfl)) fun B4=>(ro rfl (cQ cV) (eX (ts (ro rfl (cQ cV) (eX (cK (cK (qZ 60 5 (cY (rm rfl (ro rfl (dG U_25 (Ht rfl) (by rw [List.length_map,hxl])) ?_))))))))))))))
 refine ro rfl (cX (cJ 0)) (eX (eG ?_))
 refine fO (fun (i : Nat) (v : Value) => i ≤ n) (fun (i : Nat) (v : Value) => n - i) (fun (i : Nat) (v : Value) => [(0, aM x), (2, aM y), (4, bO B4 0), (7, Is v), (10, NT .i64 n), (11, NT .i64 i)]) (fun (i : Nat) (v : Value) => [box B4 60 [aH (decide (f.a < 0)), bA f.a.natAbs, aH (decide (f.b < 0)), bA f.b.natAbs, bA (du f)], bF 60 5 v ((tab i (fun i => gv x i + f * gv y i)).map aF)]) 0 _ (Nat.zero_le _)
  (zS rfl) (aU (aA rfl) (aU (aO rfl) aY)) (fun i v hi=>?_)
 refine ts (ro rfl (gX (Ht rfl) (Ht rfl)) (eX (cK (dQ (Ht rfl) (fun hd=>?_) (fun hd=>?_)))))
 ·have hin : i < n := by simp only [decide_eq_true_eq] at hd; omega
  haveI f1:aE (gv x i) L:=hx.get hL i
  haveI f2:aE (gv y i) N:=hy.get hN i
  haveI f3:aE (f * gv y i) (M + N + 1):=fitMul
  refine cU (cK (eG (ts (rm rfl (ra rfl (eX (fZ (m:=13) (dp 7 rfl (cX (Ht rfl)) (dp 0 rfl (cX (Ht rfl)) (dp 8 rfl (cX (Ht rfl)) (cP 15 1 16 2 rfl (dZ U_25 Z_60 (Ht rfl) (Ht rfl) rfl (dY (dU (d:=Qi.zero) zo))) (dq 17 3 rfl (dJ A_60 Z_60 (Ht rfl)) (dp 4 rfl (eJ A_60 Z_60 (Ht rfl) (i:=0) rfl rfl rfl) (dp 2 rfl (cX (Ht rfl)) (dp 8 rfl (cX (Ht rfl)) (cP 20 6 21 7 rfl (dZ U_25 Z_60 (Ht rfl) (Ht rfl) rfl (dY (dU (d:=Qi.zero) zo))) ?_))))))))))))))))
  refine dq 22 8 rfl (dJ A_60 Z_60 (Ht rfl)) (cP 19 5 23 9 rfl (cZ K_70 (iF (x:=f) (y:=gv y i) (L:=M) (M:=N) zo) ⟨(Ht rfl),(Ht rfl),trivial⟩) (cP 18 4 24 10 rfl (cZ K_71 (rB (x:=gv x i) (y:=f * gv y i) (L:=L) (M:=M + N + 1) zo) ⟨(Ht rfl),(Ht rfl),trivial⟩) (dq 25 11 rfl (cE (xs:=[.tmp 25]) U_25 Z_60 O_60 (cW (Ht rfl) cG) rfl rfl rfl) (fV bC rfl (by kernel_rfl) (zF (zF (zF (aJ (aV ?_)))))))))
  refine mT (inf:=Tryz.t60) jH gG rfl rfl rfl (Ht rfl) (Ht rfl) (i:=1) rfl (by simp) (fun T hT=>by simp at hT; subst hT; exact El.ag rfl) (by show _ * 88 ≤ _; simp only [List.length_map,aD,List.length_cons,List.length_nil]; omega) (by simp only [List.length_map,aD,List.length_cons,List.length_nil]; omega) rfl (fun v2=>?_)
  refine ra rfl (eX (bL (cY (ro rfl (dV (Ht rfl) (cJ 1) z6) (rm rfl (eX (fU (i + 1,v2) hin (by dsimp only; omega) (zS rfl) (aU (aA rfl) (aU (aO (by rw [lH,List.map_append]; rfl)) aY)))))))))
 ·have hin : i = n := by simp only [decide_eq_false_iff_not] at hd; omega
  rw [hin]
  refine gW rfl (gV (i:=1) (tt:=7) rfl rfl eR (ts (rm rfl (ra rfl (eX (fW rfl (fX (eU rfl) ?_)))))))
  exact (kB (by rw [Zu,hxl]))
theorem Mx {G V:List (List Qi)} {vs:List Value} {n i L M B BV:Nat} (hG:cF G n n) (hV:cF V n n) (hvs:Hds vs n) (hfG:aN G L) (hfV:aN V M) (hL:1 ≤ L) (hM:1 ≤ M) (hb:10 * L + 2 * M + 40 ≤ 8796093022208) (hi:i < n) (hn:n ≤ 32):fN Tryz.prog 196 [Is (.slice (some ⟨B,0,none⟩) n n),Is (.slice (some ⟨BV,0,none⟩) n n),NT .i64 i] [jL B 25 60 5 vs vs (bM aF G),bF 25 1 (.slice (some ⟨BV,0,none⟩) n n) (V.map aM)] (Unit) (fun _=>NlT 5 ((Ey G V n i).map aF)) (fun _=>[jL B 25 60 5 vs vs (bM aF G),bF 25 1 (.slice (some ⟨BV,0,none⟩) n n) (V.map aM)]) (fun _=>True):=by
 have hGl:=hG.1
 have hvl:=hvs.len
 haveI h0:=iP
 have hVl:=hV.1
 refine fN.intro Tryz.func196 rfl Tryz.ntmps196 rfl (fun cx Z=>?_)
 haveI g0:aE (gm G i i) L:=hfG.get hL i i
 refine ts (ro rfl (cQ cV) (eX (cK (ts (rm rfl (rm rfl (ro rfl (fY U_26 Z_25 (Ht rfl) (Ht rfl) rfl zo (by rw [Nat.mul_one,Nat.zero_add])) ?_)))))))
 refine ro rfl (fE A_25 Z_25 (Ht rfl) (j:=1) rfl zo) (rm rfl (ro rfl (gH U_25 Z_60 (Ht rfl) (Ht rfl) rfl (j:=1) rfl zo zo (by rw [hG.row zo]; omega)) ?_))
 refine ro rfl (kA A_60 Z_60 (Ht rfl) (j:=1) rfl zo zo (by rw [hG.row zo]; omega)) ?_
 refine ro rfl (cZ Tryz.call82 (wU (x:=gm G i i) (L:=L) zo) ⟨(Ht rfl),trivial⟩) (eX (dQ (Ht rfl) (fun h0=>?_) (fun h0=>?_)))
 ·have hne : ¬ gm G i i = Qi.zero := by simpa using h0
  have hz:Ey G V n i = []:=by rw [Ey,if_neg (show ¬ gm G i i = 0 from hne)]
  refine ts (ro rfl (cQ cV) (eX ?_))
  exact iO () trivial [0,1,2] ⟨⟨_,rfl,fun _ _ _ h=>h⟩,⟨_,rfl,fun _ _ _ h=>h⟩,⟨_,rfl,fun _ _ _ h=>h⟩,trivial⟩ (by decide) (tG rfl (fX (eU rfl) (fun v V h=>by rw [hz]; exact .inl ⟨rfl,h⟩)))
 ·have hze0 : gm G i i = Qi.zero := by simpa using h0
  have hze:gm G i i = 0:=hze0
  refine cU (cK (ts (rm rfl (ro rfl (dV (Ht rfl) (cJ 1) z6) (ra rfl (eX (eG ?_)))))))
  refine cA (fun (k : Nat) => (i + 1 ≤ k ∧ k ≤ n) ∧ ∀ j, i + 1 ≤ j → j < k → gm G i j = Qi.zero) (fun (k : Nat) => n - k) (fun (k : Nat) => [(0, Is (.slice (some ⟨B, 0, none⟩) n n)), (1, Is (.slice (some ⟨BV, 0, none⟩) n n)), (2, NT .i64 i), (7, NT .i64 k)]) (fun (k : Nat) => [Z, jL B 25 60 5 vs vs (bM aF G), bF 25 1 (.slice (some ⟨BV, 0, none⟩) n n) (V.map aM)]) (i + 1) ⟨⟨Nat.le_refl _, hi⟩, fun j h1 h2 => by omega⟩
   (zS rfl) (dR.refl _) (fun k ⟨⟨hk1,hk2⟩,hz0⟩=>?_)
  refine cK (ts (rm rfl (rm rfl (ro rfl (eT U_26 (Ht rfl)) (ro rfl (gX (Ht rfl) (Ht rfl)) (eX (dQ (Ht rfl) (fun hc=>?_) (fun hc=>?_))))))))
  ·have hkn : k < n := by simp only [decide_eq_true_eq] at hc; omega
   haveI g1:aE (gm G i k) L:=hfG.get hL i k
   haveI g2:aE (gm G k k) L:=hfG.get hL k k
   have hri:=hG.row hi
   have hrk:=hG.row hkn
   refine cU (cK (eG (cK (ts (rm rfl (rm rfl (ro rfl (fY U_26 Z_25 (Ht rfl) (Ht rfl) rfl zo (by rw [Nat.mul_one,Nat.zero_add])) ?_)))))))
   refine ro rfl (fE A_25 Z_25 (Ht rfl) (j:=1) rfl zo) (rm rfl (ro rfl (gH U_25 Z_60 (Ht rfl) (Ht rfl) rfl (j:=1) rfl zo zo zo) (ro rfl (kA A_60 Z_60 (Ht rfl) (j:=1) rfl zo zo zo) (ro rfl (cZ Tryz.call82 (wU (x:=gm G i k) (L:=L) zo) ⟨(Ht rfl),trivial⟩) (ro rfl (dH (Ht rfl)) (eX (dQ (Ht rfl) (fun hd=>?_) (fun hd=>?_))))))))
   ·have hik : gm G i k = Qi.zero := by simpa using hd
    refine gW rfl (cY (rm rfl (ro rfl (dV (Ht rfl) (cJ 1) z6) (ra rfl (eX ?_)))))
    refine fU (k + 1) ⟨⟨by omega, hkn⟩, fun j h1 h2 => by
      by_cases e:j = k
      ·rw [e]; exact hik
      ·exact hz0 j h1 zo⟩ zo (zS rfl) (dR.refl _)
   ·have hik : ¬ gm G i k = Qi.zero := by simpa using hd
    have hK:Xz G n i = k:=He hk1 zo (fun j h1 h2=>by rw [show decide (gm G i j = 0) = true from decide_eq_true (hz0 j h1 h2)]; rfl) (fun _=>by rw [show decide (gm G i k = 0) = false from decide_eq_false hik]; rfl)
    have hw:Ey G V n i = crV G V i k:=by rw [Ey,if_pos hze,hK,if_pos hkn]
    refine cU (ts (rm rfl (rm rfl (ro rfl (fY U_26 Z_25 (Ht rfl) (Ht rfl) rfl zo (by rw [Nat.mul_one,Nat.zero_add])) ?_))))
    refine ro rfl (fE A_25 Z_25 (Ht rfl) (j:=1) rfl zo) (rm rfl (ro rfl (gH U_25 Z_60 (Ht rfl) (Ht rfl) rfl (j:=1) rfl zo zo zo) (ro rfl (kA A_60 Z_60 (Ht rfl) (j:=1) rfl zo zo zo) (rn rfl (eW (Ts:=[Is (.bool false),Is (.slice none 0 0),Is (.bool false),Is (.slice none 0 0),Is (.slice none 0 0)]) O_60 rfl (fun V=>aW zd (aW zd (aW zd (aW zd (aW zd (aG))))))) fun B8=>?_))))
    refine gQ Z_60 (Ht rfl) (Ht rfl) rfl (i:=3) rfl (aK rfl) rfl rfl (eX (cK (mG (fun (x:Qi)=>x = Tm (gm G k k)) (fun (x:Qi)=>[(0,Is (.slice (some ⟨B,0,none⟩) n n)),(1,Is (.slice (some ⟨BV,0,none⟩) n n)),(2,NT .i64 i),(7,NT .i64 k),(8,bO B8 0)]) (fun (x:Qi)=>[Z,jL B 25 60 5 vs vs (bM aF G),bF 25 1 (.slice (some ⟨BV,0,none⟩) n n) (V.map aM),box B8 60 [aH (decide (x.a < 0)),bA x.a.natAbs,aH (decide (x.b < 0)),bA x.b.natAbs,bA (du x)]]) ?_ (fun x hx=>?_))))
    ·refine ts (ro rfl (eJ A_60 Z_60 (Ht rfl) (i := 3) rfl rfl rfl) (ro rfl (aS.imp (wT ) lY) (ro rfl (cZ K_51 (Bu (x := gm G k k) (y := Qi.zero) (L := L) (M := 1) (hy := aE.zero (Nat.le_refl 1)) zo) ⟨(Ht rfl), (Ht rfl), trivial⟩) (ro rfl (uB (Ht rfl) cV) (eX (dQ (Ht rfl) (fun hn2 => ?_) (fun hn2 => ?_)))))))
     ·refine cY (ro rfl (eJ A_60 Z_60 (Ht rfl) (i:=3) rfl rfl rfl) (ro rfl (cZ Tryz.call168 Ji ⟨(Ht rfl),trivial⟩) (gQ Z_60 (Ht rfl) (Ht rfl) rfl (i:=3) rfl (aK rfl) rfl rfl (eX (cD (-(gm G k k)) (by rw [Tm,Md,if_pos hn2]) (zS rfl) (dR.refl _))))))
     ·refine cU (cD (gm G k k) (by rw [Tm,Md,hn2]; rfl) (zS rfl) (dR.refl _))
    ·haveI g3 : aE x L := by
      rw [hx]; unfold Tm; split
      ·exact fitNeg
      ·exact g2
     haveI g4:aE (gm G i k).norm (L + L + 1):=fitNorm
     have hnz:(gm G i k).norm + (gm G i k).norm ≠ 0:=Kz hik
     haveI g5:aE ((gm G i k).norm + (gm G i k).norm) (L + L + 1 + (L + L + 1) + 1):=fitAdd (L:=L + L + 1) (M:=L + L + 1)
     haveI g6:aE (x + Qi.ofInt 1) (L + 1 + 1):=fitAdd (L:=L) (M:=1)
     haveI g7:aE (yP G i k) (L + 1 + 1 + 3 * (L + L + 1 + (L + L + 1) + 1) + 2):=by rw [yP,← hx]; exact Am g6 g5 hnz
     refine cK (Y.D_start (m:=26) [] (bY (Ei:=[(8,_)]) rfl rfl (bQ (bJ rfl rfl) bX) rfl rfl (dX rfl (eJ A_60 Z_60 (Ht rfl) (i:=3) rfl rfl rfl)) (bY (Ei:=[]) rfl rfl bX rfl rfl (dX rfl (cZ K_52 (mK (n:=1) (by decide) (by decide)) ⟨(cJ 1),trivial⟩)) (bY (Ei:=[(50,_),(51,_)]) rfl rfl (bQ (bZ 0 rfl rfl) (bQ (bZ 1 rfl rfl) bX)) rfl rfl (dX rfl (cZ K_71 (rB (x:=x) (y:=Qi.ofInt 1) (L:=L) (M:=1) zo) ⟨(Ht rfl),(Ht rfl),trivial⟩)) ?_))))
     refine bY (Ei:=[(0,_)]) rfl rfl (bQ (bJ rfl rfl) bX) rfl rfl (dX rfl (cX (Ht rfl))) (bY (Ei:=[(2,_)]) rfl rfl (bQ (bJ rfl rfl) bX) rfl rfl (dX rfl (cX (Ht rfl))) (bY (Ei:=[(53,_),(54,_)]) rfl rfl (bQ (bZ 3 rfl rfl) (bQ (bZ 4 rfl rfl) bX)) rfl rfl (dX rfl (fY U_26 Z_25 (Ht rfl) (Ht rfl) rfl zo (by rw [Nat.mul_one,Nat.zero_add]))) ?_))
     refine bY (Ei:=[(55,_)]) rfl rfl (bQ (bZ 5 rfl rfl) bX) rfl rfl (dX rfl (fE A_25 Z_25 (Ht rfl) (j:=1) rfl zo)) (bY (Ei:=[(7,_)]) rfl rfl (bQ (bJ rfl rfl) bX) rfl rfl (dX rfl (cX (Ht rfl))) (bY (Ei:=[(56,_),(57,_)]) rfl rfl (bQ (bZ 6 rfl rfl) (bQ (bZ 7 rfl rfl) bX)) rfl rfl (dX rfl (gH U_25 Z_60 (Ht rfl) (Ht rfl) rfl (j:=1) rfl zo zo zo)) (bY (Ei:=[(58,_)]) rfl rfl (bQ (bZ 8 rfl rfl) bX) rfl rfl (dX rfl (kA A_60 Z_60 (Ht rfl) (j:=1) rfl zo zo zo)) ?_)))
     refine bY (Ei:=[(59,_)]) rfl rfl (bQ (bZ 9 rfl rfl) bX) rfl rfl (dX rfl (cZ Tryz.call50 (Mt (x:=gm G i k) (L:=L) zo) ⟨(Ht rfl),trivial⟩)) (bY (Ei:=[(0,_)]) rfl rfl (bQ (bJ rfl rfl) bX) rfl rfl (dX rfl (cX (Ht rfl))) (bY (Ei:=[(2,_)]) rfl rfl (bQ (bJ rfl rfl) bX) rfl rfl (dX rfl (cX (Ht rfl))) (bY (Ei:=[(61,_),(62,_)]) rfl rfl (bQ (bZ 11 rfl rfl) (bQ (bZ 12 rfl rfl) bX)) rfl rfl (dX rfl (fY U_26 Z_25 (Ht rfl) (Ht rfl) rfl zo (by rw [Nat.mul_one,Nat.zero_add]))) ?_)))
     refine bY (Ei:=[(63,_)]) rfl rfl (bQ (bZ 13 rfl rfl) bX) rfl rfl (dX rfl (fE A_25 Z_25 (Ht rfl) (j:=1) rfl zo)) (bY (Ei:=[(7,_)]) rfl rfl (bQ (bJ rfl rfl) bX) rfl rfl (dX rfl (cX (Ht rfl))) (bY (Ei:=[(64,_),(65,_)]) rfl rfl (bQ (bZ 14 rfl rfl) (bQ (bZ 15 rfl rfl) bX)) rfl rfl (dX rfl (gH U_25 Z_60 (Ht rfl) (Ht rfl) rfl (j:=1) rfl zo zo zo)) (bY (Ei:=[(66,_)]) rfl rfl (bQ (bZ 16 rfl rfl) bX) rfl rfl (dX rfl (kA A_60 Z_60 (Ht rfl) (j:=1) rfl zo zo zo)) ?_)))
     refine bY (Ei:=[(67,_)]) rfl rfl (bQ (bZ 17 rfl rfl) bX) rfl rfl (dX rfl (cZ Tryz.call50 (Mt (x:=gm G i k) (L:=L) zo) ⟨(Ht rfl),trivial⟩)) (bY (Ei:=[(60,_),(68,_)]) rfl rfl (bQ (bZ 10 rfl rfl) (bQ (bZ 18 rfl rfl) bX)) rfl rfl (dX rfl (cZ K_71 (rB (x:=(gm G i k).norm) (y:=(gm G i k).norm) (L:=L + L + 1) (M:=L + L + 1) zo) ⟨(Ht rfl),(Ht rfl),trivial⟩)) (bY (Ei:=[(52,_),(69,_)]) rfl rfl (bQ (bZ 2 rfl rfl) (bQ (bZ 19 rfl rfl) bX)) rfl rfl (dX rfl (cZ K_64 (eQ (vW (x:=x + Qi.ofInt 1) (y:=(gm G i k).norm + (gm G i k).norm) (L:=L + 1 + 1) (M:=L + L + 1 + (L + L + 1) + 1) zo) (by rw [hx]; exact fun _ _ k=>k)) ⟨(Ht rfl),(Ht rfl),trivial⟩)) ?_))
     refine bY (Ei:=[(70,_)]) rfl rfl (bQ (bZ 20 rfl rfl) bX) rfl rfl (dX rfl (cX (Ht rfl))) (bY (Ei:=[(49,_)]) rfl rfl (bQ (bZ 21 rfl rfl) bX) rfl rfl (dX rfl (dK (Ht rfl) rfl)) (bY (Ei:=[(49,_)]) rfl rfl (bQ (bZ 21 rfl rfl) bX) rfl rfl (dX rfl (dK (Ht rfl) rfl)) (Y.D_newp (Ei:=[]) (fun bb=>box bb 60 [aH (decide ((yP G i k).a < 0)),bA (yP G i k).a.natAbs,aH (decide ((yP G i k).b < 0)),bA (yP G i k).b.natAbs,bA (du (yP G i k))]) 25 rfl rfl rfl bX rfl rfl (by kernel_rfl) (eW (Ts:=[Is (.bool false),Is (.slice none 0 0),Is (.bool false),Is (.slice none 0 0),Is (.slice none 0 0)]) O_60 rfl (fun V=>aW zd (aW zd (aW zd (aW zd (aW zd (aG))))))) ?_)))
     refine Y.D_putN (Ei:=[(71,_)]) 24 rfl rfl rfl rfl rfl rfl (bQ (bZ 22 rfl rfl) bX) (fun bb=>tJ Z_60 (Ht rfl) (Ht rfl) rfl (i:=0) rfl (aK rfl) rfl rfl) (Y.D_done bC rfl (by kernel_rfl) rfl (by simp [Y.okP]) rfl rfl (bU (bU (bU (bU (bU (bU (bU (bU (bU (bU (bU (bU (bU (bU (bU (bU (bU (bU (bU (bU (bU (bU (bU (bU (Y.F_newp (fun B9=>Y.F_putN (Y.F_nil ?_))))))))))))))))))))))))))))
     refine ra rfl (eX (cK ?_))
     haveI g8:aE (-(yP G i k)) (L + 1 + 1 + 3 * (L + L + 1 + (L + L + 1) + 1) + 2):=fitNeg
     haveI g9:aE (-(yP G i k) * gm G i k) (L + 1 + 1 + 3 * (L + L + 1 + (L + L + 1) + 1) + 2 + L + 1):=fitMul
     refine fZ (m:=18) (dp 1 rfl (cX (Ht rfl)) (dp 7 rfl (cX (Ht rfl)) (cP 73 0 74 1 rfl (cL U_26 Z_25 (Ht rfl) (Ht rfl) rfl (i:=2) rfl (by rw [List.length_map]; omega) rfl) ?_)))
     refine dq 75 2 rfl (mI A_25 Z_25 (Ht rfl) (i:=2) rfl rfl (dY (dU (d:=[]) zo))) (dp 9 rfl (eJ A_60 Z_60 (Ht rfl) (i:=4) rfl rfl rfl) (dq 77 4 rfl (cZ Tryz.call168 Ji ⟨(Ht rfl),trivial⟩) (dp 0 rfl (cX (Ht rfl)) (dp 2 rfl (cX (Ht rfl)) (cP 79 6 80 7 rfl (fY U_26 Z_25 (Ht rfl) (Ht rfl) rfl zo (by rw [Nat.mul_one,Nat.zero_add])) ?_)))))
     refine dq 81 8 rfl (fE A_25 Z_25 (Ht rfl) (j:=1) rfl zo) (dp 7 rfl (cX (Ht rfl)) (cP 82 9 83 10 rfl (gH U_25 Z_60 (Ht rfl) (Ht rfl) rfl (j:=1) rfl zo zo zo) (dq 84 11 rfl (kA A_60 Z_60 (Ht rfl) (j:=1) rfl zo zo zo) (cP 78 5 85 12 rfl (cZ K_70 (iF (x:=-(yP G i k)) (y:=gm G i k) (L:=L + 1 + 1 + 3 * (L + L + 1 + (L + L + 1) + 1) + 2) (M:=L) zo) ⟨(Ht rfl),(Ht rfl),trivial⟩) (dp 1 rfl (cX (Ht rfl)) (dp 2 rfl (cX (Ht rfl)) ?_))))))
     refine cP 87 14 88 15 rfl (cL U_26 Z_25 (Ht rfl) (Ht rfl) rfl (i:=2) rfl (by rw [List.length_map]; omega) rfl) ?_
     refine dq 89 16 rfl (mI A_25 Z_25 (Ht rfl) (i:=2) rfl rfl (dY (dU (d:=[]) zo))) (fV bC rfl (by kernel_rfl) (zF (zF (zF (zF (aJ (aJ (aV (ro rfl (cZ Tryz.call197 (Pu (x:=V.getD k []) (f:=-(yP G i k) * gm G i k) (y:=V.getD i []) (n:=n) (L:=M) (N:=M) (hfV.row k) g9 (hfV.row i) hM hM zo (hV.row hkn) (hV.row hi) zo) ⟨(Ht rfl),(Ht rfl),(Ht rfl),trivial⟩) ?_)))))))))
     refine ra rfl (eX ?_)
     exact iO () trivial [0,1,2] ⟨⟨_,rfl,fun _ _ _ h=>h⟩,⟨_,rfl,fun _ _ _ h=>h⟩,⟨_,rfl,fun _ _ _ h=>h⟩,trivial⟩ (by decide) (tG rfl (fX (eU rfl) (fun v V h=>by rw [hw]; exact .inr ⟨a4h (by rw [hV.row hkn]; omega),h⟩)))
  ·have hkn : k = n := by simp only [decide_eq_false_iff_not] at hc; omega
   have hK:Xz G n i = n:=He zo zo (fun j h1 h2=>by rw [show decide (gm G i j = 0) = true from decide_eq_true (hz0 j h1 zo)]; rfl) (fun h=>by omega)
   have hw:Ey G V n i = []:=by rw [Ey,if_pos hze,hK,if_neg zo]
   refine gW rfl (ts (ro rfl (cQ cV) (eX ?_)))
   exact iO () trivial [0,1,2] ⟨⟨_,rfl,fun _ _ _ h=>h⟩,⟨_,rfl,fun _ _ _ h=>h⟩,⟨_,rfl,fun _ _ _ h=>h⟩,trivial⟩ (by decide) (tG rfl (fX (eU rfl) (fun v V h=>by rw [hw]; exact .inl ⟨rfl,h⟩)))
end
end Go.Proofs.YtdlciihkiefckaaGreat
