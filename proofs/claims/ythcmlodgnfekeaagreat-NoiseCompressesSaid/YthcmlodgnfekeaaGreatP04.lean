/- What functions of the program compute, proved by walks over their code, and the plain mathematics of it; a part of the proof in the last text. -/
import Derived.Test.YthcmlodgnfekeaaGreatP03
set_option linter.unusedVariables false
set_option linter.unusedSimpArgs false
set_option maxRecDepth 100000
set_option maxHeartbeats 4000000
namespace Go.Proofs.YthcmlodgnfekeaaGreat
section
open Go Go.RowKit
theorem Od {a b:List (List Qi)} {n k m L M:Nat} (ha:iR a n k) (hb:iR b k m) (hfa:cD a L) (hfb:cD b M) (hL1:1 ≤ L) (hM1:1 ≤ M) (hL:L ≤ 900000000000) (hM:M ≤ 900000000000) (hn1:1 ≤ n ∨ k = 0) (hk1:1 ≤ k ∨ m = 0) (hn:n ≤ 8) (hk:k ≤ 8) (hm:m ≤ 8):jG Tryz.prog 165 [gB a,gB b] [] (Nat) (fun B=>eL [Is (.slice (some ⟨B,0,none⟩) n n),aM .i64 0]) (fun B=>[yE B 54 32 5 (eS bB (vT a b n k m))]) (fun _=>True):=by
 have hal:=ha.1
 have hbl:=hb.1
 refine jG.intro Tryz.func165 rfl Tryz.ntmps165 rfl (fun cx Z=>(ts (ro rfl (cQ cV) (ro rfl (cQ (cJ 0)) (eX (ts (rm rfl (ro rfl (cZ Tryz.call231 (xL ha hn1 zo zo) ⟨(Ht rfl),trivial⟩) (rm rfl (ro rfl (dK (Ht rfl) rfl) (ro rfl (dK (Ht rfl) rfl) (ra rfl (ra rfl (eX (ts (rm rfl (ro rfl (cZ Tryz.call231 (xL hb hk1 zo zo) ⟨(Ht rfl),trivial⟩) (rm rfl (ro rfl (dK (Ht rfl) rfl) (ro rfl (dK (Ht rfl) rfl) (ra rfl (ra rfl (eX (cK (ts (rm rfl (ro rfl (eM (Ht rfl)) ?_)))))))))))))))))))))))))))
 refine rm rfl (fQ rfl rfl (eK rfl rfl (Ht rfl) (fun h=>cX (Ht rfl))) (fQ rfl rfl (eK rfl rfl (Ht rfl) (fun h=>eM (fJ rfl h))) (ro rfl (iJ (Ht rfl) (fun h=>(fJ rfl h))) (rm rfl (fQ rfl rfl (eK rfl rfl (Ht rfl) (fun h=>cX (Ht rfl))) (fQ rfl rfl (eK rfl rfl (Ht rfl) (fun h=>cX (Ht rfl))) (fQ rfl rfl (eK rfl rfl (Ht rfl) (fun h=>dG U_78 (fJ rfl h) aA)) (fQ rfl rfl (eK rfl rfl (Ht rfl) (fun h=>jT (fJ rfl h) (fJ rfl h))) (ro rfl (iJ (Ht rfl) (fun h=>(fJ rfl h))) ?_)))))))))
 refine eX (dQ (Ht rfl) (fun h0=>?_) (fun h0=>?_))
 ·exact absurd h0 (by simp [hbl])
 ·refine cU (ts (rm rfl (ro rfl (dG U_78 (Ht rfl) aA) (rn rfl (dO (T := Is (.slice none 0 0)) (i := Tryz.t54) V_78 qX rfl rfl (Ht rfl) rfl (fun _ => rfl) trivial (by show 24 * _ ≤ _; omega) zo) fun B39 => (ra rfl (eX (cK (ts (rm rfl (ro rfl (jR U_78 (Ht rfl)) (ro rfl (cX (cJ 0)) (eX (eG (xI 1 rfl (wQ (e := 32) (s := 5)) ?_))))))))))))))
  refine fD (fun (i : Nat) => i ≤ n) (fun (i : Nat) => n - i) (fun (i : Nat) => [(0, gB a), (1, gB b), (6, NT .i64 k), (8, NT .i64 m), (10, Is (.slice (some ⟨B39, 0, none⟩) n n)), (41, NT .i64 n), (42, NT .i64 i)]) (fun (i : Nat) => [Z, yE B39 54 32 5 (eS bB (nY (fun i => tab m fun c => vR a b k i c) [] n i))]) 0 (Nat.zero_le _)
   (aQ rfl (aQ rfl (aQ rfl (aQ rfl (aZ rfl (fun v V h=>by rw [← hal]; exact h) (aZ rfl (jY hal) (zS rfl))))))) (aU (fun _ _ _ h=>h) (aU (eH (by rw [← qB,oG,hal]; exact qD bB n)) aY)) (fun i hi=>?_)
  refine ts (ro rfl (gX (Ht rfl) (Ht rfl)) (eX (cK (dQ (Ht rfl) (fun hd=>?_) (fun hd=>?_)))))
  ·simp only [decide_eq_true_eq] at hd
   have har:=ha.row hd
   refine vW 1 (i) rfl (pU hd) (fun v=>(cU (cK (eG (ts (rm rfl (ra rfl (eX (ts (rm rfl (ro rfl (cX (cJ 0)) (eX (eG ?_)))))))))))))
   refine dN (fun (c : Nat) (v : Value) => c ≤ m) (fun (c : Nat) (v : Value) => m - c) (fun (c : Nat) (v : Value) => [(0, gB a), (1, gB b), (6, NT .i64 k), (8, NT .i64 m), (10, Is (.slice (some ⟨B39, 0, none⟩) n n)), (11, NT .i64 i), (41, NT .i64 n), (42, NT .i64 i), (45, NT .i64 m), (46, NT .i64 c)]) (fun (c : Nat) (v : Value) => [Z, Qk B39 54 32 5 (eS bB (nY (fun i => tab m fun c => vR a b k i c) [] n i)) i v, bN 32 5 v ((tab c fun c => vR a b k i c).map bB)]) 0 v (Nat.zero_le _)
    (zS rfl) (cE.refl _) (fun c v hc=>?_)
   refine ts (ro rfl (gX (Ht rfl) (Ht rfl)) (eX (cK (dQ (Ht rfl) (fun he=>?_) (fun he=>?_)))))
   ·simp only [decide_eq_true_eq] at he
    have hk1:1 ≤ k:=by omega
    have hb0:=hb.row (i:=0) zo
    haveI f1:aH (gm a i 0) L:=hfa.get hL1 i 0
    haveI f2:aH (gm b 0 c) M:=hfb.get hM1 0 c
    refine cU (cK (eG (ts (rm rfl (ra rfl (eX (cK (fZ (m:=15) (dp 0 rfl (cX (Ht rfl)) (dp 11 rfl (cX (Ht rfl)) (cL 49 0 50 1 rfl (dZ U_78 Z_54 (Ht rfl) (Ht rfl) rfl (dY (dU (d:=[]) zo))) (dq 51 2 rfl (dJ A_54 Z_54 (Ht rfl)) (dq 52 3 rfl (dZ U_54 Z_32 (Ht rfl) (cJ 0) rfl (dY (dU (d:=Qi.zero) (by rw [har]; omega)))) ?_)))))))))))))
    refine dq 53 4 rfl (dJ A_32 Z_32 (Ht rfl)) (dq 54 5 rfl (eI fO (Ht rfl)) (dp 1 rfl (cX (Ht rfl)) (dq 56 7 rfl (dZ U_78 Z_54 (Ht rfl) (cJ 0) rfl (dY (dU (d:=[]) zo))) (dq 57 8 rfl (dJ A_54 Z_54 (Ht rfl)) (dp 12 rfl (cX (Ht rfl)) (cL 58 9 59 10 rfl (dZ U_54 Z_32 (Ht rfl) (Ht rfl) rfl (dY (dU (d:=Qi.zero) (by rw [hb0]; omega)))) ?_))))))
    refine dq 60 11 rfl (dJ A_32 Z_32 (Ht rfl)) (cL 55 6 61 12 rfl (dH gT K_29 (lB zo) (Ht rfl) ⟨(Ht rfl),trivial⟩) (C.D_new (Ei:=[]) rfl rfl rfl bW (eW (Ts:=[Is (.bool false),Is (.slice none 0 0),Is (.bool false),Is (.slice none 0 0),Is (.slice none 0 0)]) O_32 rfl (fun V=>aW zd (aW zd (aW zd (aW zd (aW zd (aG))))))) (fV aR rfl (by kernel_rfl) (zF (zF (zF (aJ (aJ (C.F_new (fun B13=>aV ?_))))))))))
    refine gQ Z_32 (Ht rfl) (Ht rfl) rfl (i:=3) rfl (aK rfl) rfl rfl (eX (cK (ts (ro rfl (cQ (cJ 1)) (eX (eG ?_))))))
    refine fD (fun (j : Nat) => 1 ≤ j ∧ j ≤ k) (fun (j : Nat) => k - j) (fun (j : Nat) => [(0, gB a), (1, gB b), (6, NT .i64 k), (8, NT .i64 m), (10, Is (.slice (some ⟨B39, 0, none⟩) n n)), (11, NT .i64 i), (12, NT .i64 c), (13, eB B13 0), (14, NT .i64 j), (41, NT .i64 n), (42, NT .i64 i), (45, NT .i64 m), (46, NT .i64 c)]) (fun (j : Nat) => [Z, Qk B39 54 32 5 (eS bB (nY (fun i => tab m fun c => vR a b k i c) [] n i)) i v, bN 32 5 v ((tab c fun c => vR a b k i c).map bB), box B13 32 [aB (decide ((eO j fun j => gm a i j * gm b j c).a < 0)), aD (eO j fun j => gm a i j * gm b j c).a.natAbs, aB (decide ((eO j fun j => gm a i j * gm b j c).b < 0)), aD (eO j fun j => gm a i j * gm b j c).b.natAbs, aD (du (eO j fun j => gm a i j * gm b j c))]]) 1 ⟨Nat.le_refl _, hk1⟩
     (zS rfl) (aU (fun _ _ _ h=>h) (aU (fun _ _ _ h=>h) (aU (fun _ _ _ h=>h) (aU (aP (by rw [Sk]; rfl)) aY)))) (fun j ⟨hj1,hj⟩=>?_)
    refine cK (ts (rm rfl (rm rfl (ro rfl (gX (Ht rfl) (Ht rfl)) (eX (dQ (Ht rfl) (fun hf=>?_) (fun hf=>?_)))))))
    ·simp only [decide_eq_true_eq] at hf
     haveI f3:aH (gm a i j) L:=hfa.get hL1 i j
     haveI f4:aH (gm b j c) M:=hfb.get hM1 j c
     haveI f5:aH (eO j fun j=>gm a i j * gm b j c) (8 * (L + M) + 17):=Ju hfa hfb hL1 hM1 zo i c
     have hbj:=hb.row (i:=j) zo
     refine cU (cK (eG (fZ (m:=18) (dp 13 rfl (eJ A_32 Z_32 (Ht rfl) (i:=3) rfl rfl rfl) (dq 68 0 rfl (eI fO (Ht rfl)) (dp 0 rfl (cX (Ht rfl)) (dp 11 rfl (cX (Ht rfl)) (cL 70 2 71 3 rfl (dZ U_78 Z_54 (Ht rfl) (Ht rfl) rfl (dY (dU (d:=[]) zo))) (dq 72 4 rfl (dJ A_54 Z_54 (Ht rfl)) (dp 14 rfl (cX (Ht rfl)) (cL 73 5 74 6 rfl (dZ U_54 Z_32 (Ht rfl) (Ht rfl) rfl (dY (dU (d:=Qi.zero) (by rw [har]; omega)))) ?_)))))))))))
     refine dq 75 7 rfl (dJ A_32 Z_32 (Ht rfl)) (dq 76 8 rfl (eI fO (Ht rfl)) (dp 1 rfl (cX (Ht rfl)) (dp 14 rfl (cX (Ht rfl)) (cL 78 10 79 11 rfl (dZ U_78 Z_54 (Ht rfl) (Ht rfl) rfl (dY (dU (d:=[]) zo))) (dq 80 12 rfl (dJ A_54 Z_54 (Ht rfl)) (dp 12 rfl (cX (Ht rfl)) (cL 81 13 82 14 rfl (dZ U_54 Z_32 (Ht rfl) (Ht rfl) rfl (dY (dU (d:=Qi.zero) (by rw [hbj]; omega)))) ?_)))))))
     refine dq 83 15 rfl (dJ A_32 Z_32 (Ht rfl)) (cL 77 9 84 16 rfl (dH gT K_29 (lB zo) (Ht rfl) ⟨(Ht rfl),trivial⟩) (fV aR rfl (by kernel_rfl) (zF (zF (zF (zF (aJ (aJ (aV (ro rfl (dH vE Tryz.call33 (Jb zo) (Ht rfl) ⟨(Ht rfl),trivial⟩) (gQ Z_32 (Ht rfl) (Ht rfl) rfl (i:=3) rfl (aK rfl) rfl rfl (eX (bF ?_)))))))))))))
     refine cY (rm rfl (ro rfl (dV (Ht rfl) (cJ 1) z6) (ra rfl (eX (fU (j + 1) ⟨by omega,hf⟩ zo (zS rfl) (aU (fun _ _ _ h=>h) (aU (fun _ _ _ h=>h) (aU (fun _ _ _ h=>h) (aU (aP rfl) aY)))))))))
    ·simp only [decide_eq_false_iff_not] at hf
     obtain rfl:k = j:=Nat.le_antisymm zo hj
     refine gV rfl (Y.D_startA (m:=9) [] 8 2 rfl rfl (bY (Ei:=[(10,_)]) rfl rfl (bQ (bJ rfl rfl) bX) rfl rfl (dX rfl (cX (Ht rfl))) (bY (Ei:=[(11,_)]) rfl rfl (bQ (bJ rfl rfl) bX) rfl rfl (dX rfl (cX (Ht rfl))) (bY (Ei:=[(10,_)]) rfl rfl (bQ (bJ rfl rfl) bX) rfl rfl (dX rfl (cX (Ht rfl))) (bY (Ei:=[(11,_)]) rfl rfl (bQ (bJ rfl rfl) bX) rfl rfl (dX rfl (cX (Ht rfl))) (bY (Ei:=[(89,_),(90,_)]) rfl rfl (bQ (bZ 2 rfl rfl) (bQ (bZ 3 rfl rfl) bX)) rfl rfl (dX rfl (fY U_78 Z_54 (Ht rfl) (Ht rfl) rfl zo (by rw [Nat.mul_one,Nat.zero_add]))) ?_))))))
     refine bY (Ei:=[(91,_)]) rfl rfl (bQ (bZ 4 rfl rfl) bX) rfl rfl (dX rfl (oS A_54 Z_54 (Ht rfl) (j:=1) rfl)) (bY (Ei:=[(13,_)]) rfl rfl (bQ (bJ rfl rfl) bX) rfl rfl (dX rfl (eJ A_32 Z_32 (Ht rfl) (i:=3) rfl rfl rfl)) (bY (Ei:=[(93,_)]) rfl rfl (bQ (bZ 6 rfl rfl) bX) rfl rfl (dX rfl (bP (xs:=[.tmp 93]) U_54 Z_32 O_32 (cW (Ht rfl) cG) rfl rfl rfl)) (Y.D_app (Ei:=[(92,_),(94,_)]) rfl rfl rfl rfl (bQ (bZ 5 rfl rfl) (bQ (bZ 7 rfl rfl) bX)) rfl (xA (inf:=Tryz.t32) oU mD rfl rfl rfl (Ht rfl) (Ht rfl) (by simp) (fun T hT=>by simp at hT; subst hT; exact El.ag rfl) (by show _ * 88 ≤ _; simp only [List.length_map,bT,List.length_cons,List.length_nil]; omega) (by simp only [List.length_map,bT,List.length_cons,List.length_nil]; omega)) ?_)))
     refine Y.D_done aR rfl (by kernel_rfl) rfl (by simp [Y.okP]) rfl rfl (bU (bU (bU (bU (bU (bU (bU (bU (Y.F_app (fun v2=>Y.F_nil ?_))))))))))
     refine ro rfl (fY U_78 Z_54 (Ht rfl) (Ht rfl) rfl zo (by rw [Nat.mul_one,Nat.zero_add])) ?_
     refine De Z_54 (Ht rfl) (Ht rfl) (by simp only [eS,List.length_map,kG]; omega) (j:=1) (l:=4) rfl rfl rfl ?_
     refine eX (bF (cY (ro rfl (dV (Ht rfl) (cJ 1) z6) (rm rfl (eX (gE [0,1,4] rfl (by decide) (fU (c + 1,v2) he (by dsimp only; omega) (zS rfl) (aU (fun _ _ _ h=>h) (aU (fun _ _ _ h=>h) (aU (dI ((mQ bB _ (vR a b k i c)).trans (congrArg _ (zD c (fun c=>vR a b k i c)).symm))) aY))))))))))
   ·simp only [decide_eq_false_iff_not] at he
    obtain rfl:m = c:=Nat.le_antisymm zo hc
    refine gV rfl (bF (kO 1 2 rfl rfl (by decide) (by simp only [eS,List.length_map,kG]; omega) ?_))
    refine cY (ro rfl (dV (Ht rfl) (cJ 1) z6) (rm rfl (eX (gE [0,1] rfl (by decide) (fU (i + 1) hd zo (zS rfl) (aU (fun _ _ _ h=>h) (aU (eH (by rw [lX,← tQ (f:=(fun i=>tab m fun c=>vR a b k i c))])) aY)))))))
  ·simp only [decide_eq_false_iff_not] at hd
   obtain rfl:n = i:=Nat.le_antisymm zo hi
   refine gV rfl (ts (rm rfl (ra rfl (ro rfl (cQ (cJ 0)) (eX ?_)))))
   exact mP B39 trivial [0,1] ⟨⟨_,rfl,fun _ _ _ h=>h⟩,⟨_,rfl,(eH (by rw [tO]; rfl))⟩,trivial⟩ (by decide) (a1j rfl (eU rfl) (eU rfl))
theorem Jd {a b:List (List Qi)} {n k m L M:Nat} (ha:iR a n k) (hb:iR b k m) (hfa:cD a L) (hfb:cD b M) (hL1:1 ≤ L) (hM1:1 ≤ M) (hL:L ≤ 900000000000) (hM:M ≤ 900000000000) (hn1:1 ≤ n) (hk1:1 ≤ k) (hn:n ≤ 8) (hk:k ≤ 8) (hm:m ≤ 8):jG Tryz.prog 165 [gB a,gB b] [] Nat (fun B=>eL [Is (.slice (some ⟨B,0,none⟩) n n),aM .i64 0]) (fun B=>[yE B 54 32 5 (eS bB (vT a b n k m))]) (fun _=>True):=Od ha hb hfa hfb hL1 hM1 hL hM (.inl hn1) (.inl hk1) hn hk hm
theorem Zt {a b:List (List Qi)} {n k m L M:Nat} (ha:iR a n k) (hb:iR b k m) (hfa:cD a L) (hfb:cD b M) (hL1:1 ≤ L) (hM1:1 ≤ M) (hL:L ≤ 900000000000) (hM:M ≤ 900000000000) (hn1:1 ≤ n) (hk1:1 ≤ k) (hn:n ≤ 8) (hk:k ≤ 8) (hm:m ≤ 8):bA Tryz.prog 165 [gB a,gB b] (eL [gB (vT a b n k m),aM .i64 0]):=(Jd ha hb hfa hfb hL1 hM1 hL hM hn1 hk1 hn hk hm).fun fun B _ v S V h1 h2=>a1q h1 fun u hu=>mU (s:=5) (M:=vT a b n k m) (bT _ _).symm u S V hu h2
theorem Zr {a:List (List Qi)} {n m:Nat} (ha:iR a n m) (hn1:1 ≤ n) (hn:n ≤ 8) (hm:m ≤ 8):jG Tryz.prog 213 [gB a] [] (Nat) (fun B=>eL [Is (.slice (some ⟨B,0,none⟩) m m),aM .i64 0]) (fun B=>[yE B 54 32 5 (eS bB (Bi a n m))]) (fun _=>True):=by
 have hal:=ha.1
 refine jG.intro Tryz.func213 rfl Tryz.ntmps213 rfl (fun cx Z=>(ts (ro rfl (cQ cV) (ro rfl (cQ (cJ 0)) (eX (ts (rm rfl (ro rfl (cZ Tryz.call231 (Ac ha hn1 zo zo) ⟨(Ht rfl),trivial⟩) (rm rfl (ro rfl (dK (Ht rfl) rfl) (ro rfl (dK (Ht rfl) rfl) (ra rfl (ra rfl (eX (cK (ts (rm rfl (ro rfl (eM (Ht rfl)) (eX (dQ (Ht rfl) (fun h0=>?_) (fun h0=>?_)))))))))))))))))))))
 ·exact absurd h0 (by simp)
 ·refine cU (ts (rm rfl (rn rfl (dO (T := Is (.slice none 0 0)) (i := Tryz.t54) V_78 qX rfl rfl (Ht rfl) rfl (fun _ => rfl) trivial (by show 24 * _ ≤ _; omega) zo) fun B17 => (ra rfl (eX (cK (ts (rm rfl (ro rfl (jR U_78 (Ht rfl)) (ro rfl (cX (cJ 0)) (eX (eG (xI 1 rfl (wQ (e := 32) (s := 5)) ?_)))))))))))))
  refine fD (fun (k : Nat) => k ≤ m) (fun (k : Nat) => m - k) (fun (k : Nat) => [(0, gB a), (6, Is (.slice (some ⟨B17, 0, none⟩) m m)), (19, NT .i64 m), (20, NT .i64 k)]) (fun (k : Nat) => [Z, yE B17 54 32 5 (eS bB (nY (fun k => tab n fun i => (gm a i k).conj) [] m k))]) 0 (Nat.zero_le _)
   (zS rfl) (aU (fun _ _ _ h=>h) (aU (eH (by rw [← qB,oG]; exact qD bB m)) aY)) (fun k hk=>?_)
  refine ts (ro rfl (gX (Ht rfl) (Ht rfl)) (eX (cK (dQ (Ht rfl) (fun hd=>?_) (fun hd=>?_)))))
  ·simp only [decide_eq_true_eq] at hd
   refine vW 1 (k) rfl (pU hd) (fun v=>(cU (cK (eG (ts (rm rfl (ra rfl (eX (ts (rm rfl (ro rfl (dG U_78 (Ht rfl) aA) (ro rfl (cX (cJ 0)) (eX (eG ?_))))))))))))))
   refine dN (fun (i : Nat) (v : Value) => i ≤ n) (fun (i : Nat) (v : Value) => n - i) (fun (i : Nat) (v : Value) => [(0, gB a), (6, Is (.slice (some ⟨B17, 0, none⟩) m m)), (7, NT .i64 k), (19, NT .i64 m), (20, NT .i64 k), (24, NT .i64 n), (25, NT .i64 i)]) (fun (i : Nat) (v : Value) => [Z, Qk B17 54 32 5 (eS bB (nY (fun k => tab n fun i => (gm a i k).conj) [] m k)) k v, bN 32 5 v ((tab i fun i => (gm a i k).conj).map bB)]) 0 v (Nat.zero_le _)
    (aQ rfl (aQ rfl (aQ rfl (aQ rfl (aQ rfl (aZ rfl (jY hal) (zS rfl))))))) (cE.refl _) (fun i v hi=>?_)
   refine ts (ro rfl (gX (Ht rfl) (Ht rfl)) (eX (cK (dQ (Ht rfl) (fun he=>?_) (fun he=>?_)))))
   ·simp only [decide_eq_true_eq] at he
    have har:=ha.row he
    refine cU (cK (eG (ts (rm rfl (ra rfl (eX (Y.D_startA (m:=17) [] 16 2 rfl rfl (bY (Ei:=[(6,_)]) rfl rfl (bQ (bJ rfl rfl) bX) rfl rfl (dX rfl (cX (Ht rfl))) (bY (Ei:=[(7,_)]) rfl rfl (bQ (bJ rfl rfl) bX) rfl rfl (dX rfl (cX (Ht rfl))) (bY (Ei:=[(6,_)]) rfl rfl (bQ (bJ rfl rfl) bX) rfl rfl (dX rfl (cX (Ht rfl))) (bY (Ei:=[(7,_)]) rfl rfl (bQ (bJ rfl rfl) bX) rfl rfl (dX rfl (cX (Ht rfl))) (bY (Ei:=[(30,_),(31,_)]) rfl rfl (bQ (bZ 2 rfl rfl) (bQ (bZ 3 rfl rfl) bX)) rfl rfl (dX rfl (fY U_78 Z_54 (Ht rfl) (Ht rfl) rfl zo (by rw [Nat.mul_one,Nat.zero_add]))) ?_))))))))))))
    refine bY (Ei:=[(32,_)]) rfl rfl (bQ (bZ 4 rfl rfl) bX) rfl rfl (dX rfl (oS A_54 Z_54 (Ht rfl) (j:=1) rfl)) (bY (Ei:=[(0,_)]) rfl rfl (bQ (bJ rfl rfl) bX) rfl rfl (dX rfl (cX (Ht rfl))) (bY (Ei:=[(8,_)]) rfl rfl (bQ (bJ rfl rfl) bX) rfl rfl (dX rfl (cX (Ht rfl))) (bY (Ei:=[(34,_),(35,_)]) rfl rfl (bQ (bZ 6 rfl rfl) (bQ (bZ 7 rfl rfl) bX)) rfl rfl (dX rfl (dZ U_78 Z_54 (Ht rfl) (Ht rfl) rfl (dY (dU (d:=[]) zo)))) ?_)))
    refine bY (Ei:=[(36,_)]) rfl rfl (bQ (bZ 8 rfl rfl) bX) rfl rfl (dX rfl (dJ A_54 Z_54 (Ht rfl))) (bY (Ei:=[(7,_)]) rfl rfl (bQ (bJ rfl rfl) bX) rfl rfl (dX rfl (cX (Ht rfl))) (bY (Ei:=[(37,_),(38,_)]) rfl rfl (bQ (bZ 9 rfl rfl) (bQ (bZ 10 rfl rfl) bX)) rfl rfl (dX rfl (dZ U_54 Z_32 (Ht rfl) (Ht rfl) rfl (dY (dU (d:=Qi.zero) (by rw [har]; omega))))) ?_))
    refine bY (Ei:=[(39,_)]) rfl rfl (bQ (bZ 11 rfl rfl) bX) rfl rfl (dX rfl (dJ A_32 Z_32 (Ht rfl))) (bY (Ei:=[(40,_)]) rfl rfl (bQ (bZ 12 rfl rfl) bX) rfl rfl (dX rfl (eI fO (Ht rfl))) (bY (Ei:=[(41,_)]) rfl rfl (bQ (bZ 13 rfl rfl) bX) rfl rfl (dX rfl (dH oQ Tryz.call317 Gw (Ht rfl) trivial)) (bY (Ei:=[(42,_)]) rfl rfl (bQ (bZ 14 rfl rfl) bX) rfl rfl (dX rfl (bP (xs:=[.tmp 42]) U_54 Z_32 O_32 (cW (Ht rfl) cG) rfl rfl rfl)) ?_)))
    refine Y.D_app (Ei:=[(33,_),(43,_)]) rfl rfl rfl rfl (bQ (bZ 5 rfl rfl) (bQ (bZ 15 rfl rfl) bX)) rfl (xA (inf:=Tryz.t32) oU mD rfl rfl rfl (Ht rfl) (Ht rfl) (by simp) (fun T hT=>by simp at hT; subst hT; exact El.ag rfl) (by show _ * 88 ≤ _; simp only [List.length_map,bT,List.length_cons,List.length_nil]; omega) (by simp only [List.length_map,bT,List.length_cons,List.length_nil]; omega)) ?_
    refine Y.D_done aR rfl (by kernel_rfl) rfl (by simp [Y.okP]) rfl rfl (bU (bU (bU (bU (bU (bU (bU (bU (bU (bU (bU (bU (bU (bU (bU (bU (Y.F_app (fun v2=>Y.F_nil ?_))))))))))))))))))
    refine ro rfl (fY U_78 Z_54 (Ht rfl) (Ht rfl) rfl zo (by rw [Nat.mul_one,Nat.zero_add])) ?_
    refine De Z_54 (Ht rfl) (Ht rfl) (by simp only [eS,List.length_map,kG]; omega) (j:=1) (l:=3) rfl rfl rfl ?_
    refine eX (bF (cY (ro rfl (dV (Ht rfl) (cJ 1) z6) (rm rfl (eX (gE [0,1,3] rfl (by decide) (fU (i + 1,v2) he (by dsimp only; omega) (zS rfl) (aU (fun _ _ _ h=>h) (aU (fun _ _ _ h=>h) (aU (dI ((mQ bB _ (gm a i k).conj).trans (congrArg _ (zD i (fun i=>(gm a i k).conj)).symm))) aY))))))))))
   ·simp only [decide_eq_false_iff_not] at he
    obtain rfl:n = i:=Nat.le_antisymm zo hi
    refine gV rfl (bF (kO 1 2 rfl rfl (by decide) (by simp only [eS,List.length_map,kG]; omega) ?_))
    refine cY (ro rfl (dV (Ht rfl) (cJ 1) z6) (rm rfl (eX (gE [0,1] rfl (by decide) (fU (k + 1) hd zo (zS rfl) (aU (fun _ _ _ h=>h) (aU (eH (by rw [lX,← tQ (f:=(fun k=>tab n fun i=>(gm a i k).conj))])) aY)))))))
  ·simp only [decide_eq_false_iff_not] at hd
   obtain rfl:m = k:=Nat.le_antisymm zo hk
   refine gV rfl (ts (rm rfl (ra rfl (ro rfl (cQ (cJ 0)) (eX ?_)))))
   exact mP B17 trivial [0,1] ⟨⟨_,rfl,fun _ _ _ h=>h⟩,⟨_,rfl,(eH (by rw [tO]; rfl))⟩,trivial⟩ (by decide) (a1j rfl (eU rfl) (eU rfl))
theorem a0V {a:List (List Qi)} {n m:Nat} (ha:iR a n m) (hn1:1 ≤ n) (hn:n ≤ 8) (hm:m ≤ 8):bA Tryz.prog 213 [gB a] (eL [gB (Bi a n m),aM .i64 0]):=(Zr ha hn1 hn hm).fun fun B _ v S V h1 h2=>a1q h1 fun u hu=>mU (s:=5) (M:=Bi a n m) (bT _ _).symm u S V hu h2
theorem Uf {z:List Qi} {s:List (List Qi)} (hsh:iR s z.length z.length) (hl:z.length ≤ 8):jG Tryz.prog 122 [pG z s] [] (Nat) (fun B=>Is (.slice (some ⟨B,0,none⟩) z.length z.length)) (fun B=>[yE B 54 32 5 (eS bB (tab z.length fun i=>tab z.length fun k=>gm s i k))]) (fun _=>True):=by
 refine jG.intro Tryz.func122 rfl Tryz.ntmps122 rfl (fun cx Z=>(ts (rn rfl (fG (Ht rfl)) fun B1=>(ro rfl (cQ cV) (eX (ts (ro rfl (eJ A_80 Z_80 (Ht rfl) (i:=1) rfl rfl rfl) (ro rfl (cZ Tryz.call117 wA ⟨(Ht rfl),trivial⟩) (rn rfl (dO (T:=Is (.slice none 0 0)) (i:=Tryz.t54) V_78 qX rfl rfl (Ht rfl) rfl (fun _=>rfl) trivial (by show 24 * _ ≤ _; omega) zo) fun B10=>(ra rfl (eX (cK (ts (rm rfl (ro rfl (jR U_78 (Ht rfl)) (ro rfl (cX (cJ 0)) (eX (eG ?_))))))))))))))))))
 refine xI 2 rfl (wQ (e:=32) (s:=5)) ?_
 refine fD (fun (i : Nat) => i ≤ z.length) (fun (i : Nat) => z.length - i) (fun (i : Nat) => [(1, eB B1 0), (3, Is (.slice (some ⟨B10, 0, none⟩) z.length z.length)), (12, NT .i64 z.length), (13, NT .i64 i)]) (fun (i : Nat) => [Z, box B1 80 [fF z, gB s], yE B10 54 32 5 (eS bB (nY (fun i => tab z.length fun k => gm s i k) [] z.length i))]) 0 (Nat.zero_le _)
  (zS rfl) (aU (fun _ _ _ h=>h) (aU (fun _ _ _ h=>h) (aU (eH (by rw [← qB,oG]; exact qD bB z.length)) aY))) (fun i hi=>?_)
 refine ts (ro rfl (gX (Ht rfl) (Ht rfl)) (eX (cK (dQ (Ht rfl) (fun hd=>?_) (fun hd=>?_)))))
 ·simp only [decide_eq_true_eq] at hd
  refine vW 2 (i) rfl (pU hd) (fun v=>(cU (cK (eG (ts (rm rfl (ra rfl (eX (ts (rm rfl (ro rfl (jR U_78 (Ht rfl)) (ro rfl (cX (cJ 0)) (eX (eG ?_))))))))))))))
  refine dN (fun (k : Nat) (v : Value) => k ≤ z.length) (fun (k : Nat) (v : Value) => z.length - k) (fun (k : Nat) (v : Value) => [(1, eB B1 0), (3, Is (.slice (some ⟨B10, 0, none⟩) z.length z.length)), (4, NT .i64 i), (12, NT .i64 z.length), (13, NT .i64 i), (17, NT .i64 z.length), (18, NT .i64 k)]) (fun (k : Nat) (v : Value) => [Z, box B1 80 [fF z, gB s], Qk B10 54 32 5 (eS bB (nY (fun i => tab z.length fun k => gm s i k) [] z.length i)) i v, bN 32 5 v ((tab k fun k => gm s i k).map bB)]) 0 v (Nat.zero_le _)
   (zS rfl) (cE.refl _) (fun k v hk=>?_)
  refine ts (ro rfl (gX (Ht rfl) (Ht rfl)) (eX (cK (dQ (Ht rfl) (fun he=>?_) (fun he=>?_)))))
  ·simp only [decide_eq_true_eq] at he
   refine cU (cK (eG (ts (rm rfl (ra rfl (eX (ts (ro rfl (eJ A_80 Z_80 (Ht rfl) (i:=1) rfl rfl rfl) (rm rfl (ro rfl (dV (Ht rfl) (cJ 1) z6) (rm rfl (ro rfl (dV (Ht rfl) (cJ 1) z6) (ro rfl (cZ Tryz.call130 (a1z (i:=(i:Int) + 1) (j:=(k:Int) + 1) hsh zo) ⟨(Ht rfl),(Ht rfl),(Ht rfl),trivial⟩) (rm rfl (ro rfl (dK (Ht rfl) rfl) (ro rfl (dK (Ht rfl) rfl) ?_))))))))))))))))
   refine rn rfl (eW (Ts:=[Is (.bool false),Is (.slice none 0 0),Is (.bool false),Is (.slice none 0 0),Is (.slice none 0 0)]) O_32 rfl (fun V=>aW zd (aW zd (aW zd (aW zd (aW zd (aG))))))) fun B6=>gQ Z_32 (Ht rfl) (Ht rfl) rfl (i:=4) rfl (aK rfl) rfl rfl (ra rfl (eX (Y.D_startA (m:=9) [] 8 3 rfl rfl (bY (Ei:=[(3,_)]) rfl rfl (bQ (bJ rfl rfl) bX) rfl rfl (dX rfl (cX (Ht rfl))) ?_))))
   refine bY (Ei:=[(4,_)]) rfl rfl (bQ (bJ rfl rfl) bX) rfl rfl (dX rfl (cX (Ht rfl))) (bY (Ei:=[(3,_)]) rfl rfl (bQ (bJ rfl rfl) bX) rfl rfl (dX rfl (cX (Ht rfl))) (bY (Ei:=[(4,_)]) rfl rfl (bQ (bJ rfl rfl) bX) rfl rfl (dX rfl (cX (Ht rfl))) (bY (Ei:=[(32,_),(33,_)]) rfl rfl (bQ (bZ 2 rfl rfl) (bQ (bZ 3 rfl rfl) bX)) rfl rfl (dX rfl (fY U_78 Z_54 (Ht rfl) (Ht rfl) rfl zo (by rw [Nat.mul_one,Nat.zero_add]))) ?_)))
   refine bY (Ei:=[(34,_)]) rfl rfl (bQ (bZ 4 rfl rfl) bX) rfl rfl (dX rfl (oS A_54 Z_54 (Ht rfl) (j:=2) rfl)) (bY (Ei:=[(6,_)]) rfl rfl (bQ (bJ rfl rfl) bX) rfl rfl (dX rfl (eJ A_32 Z_32 (Ht rfl) (i:=4) rfl rfl rfl)) (bY (Ei:=[(36,_)]) rfl rfl (bQ (bZ 6 rfl rfl) bX) rfl rfl (dX rfl (bP (xs:=[.tmp 36]) U_54 Z_32 O_32 (cW (Ht rfl) cG) rfl rfl rfl)) (Y.D_app (Ei:=[(35,_),(37,_)]) rfl rfl rfl rfl (bQ (bZ 5 rfl rfl) (bQ (bZ 7 rfl rfl) bX)) rfl (xA (inf:=Tryz.t32) oU mD rfl rfl rfl (Ht rfl) (Ht rfl) (by simp) (fun T hT=>by simp at hT; subst hT; exact El.ag rfl) (by show _ * 88 ≤ _; simp only [List.length_map,bT,List.length_cons,List.length_nil]; omega) (by simp only [List.length_map,bT,List.length_cons,List.length_nil]; omega)) ?_)))
   refine Y.D_done aR rfl (by kernel_rfl) rfl (by simp [Y.okP]) rfl rfl (bU (bU (bU (bU (bU (bU (bU (bU (Y.F_app (fun v2=>Y.F_nil ?_))))))))))
   refine ro rfl (fY U_78 Z_54 (Ht rfl) (Ht rfl) rfl zo (by rw [Nat.mul_one,Nat.zero_add])) ?_
   refine De Z_54 (Ht rfl) (Ht rfl) (by simp only [eS,List.length_map,kG]; omega) (j:=2) (l:=5) rfl rfl rfl ?_
   refine eX (bF (cY (ro rfl (dV (Ht rfl) (cJ 1) z6) (rm rfl (eX (gE [0,1,2,5] rfl (by decide) (fU (k + 1,v2) he (by dsimp only; omega) (zS rfl) (aU (fun _ _ _ h=>h) (aU (fun _ _ _ h=>h) (aU (fun _ _ _ h=>h) (aU (dI (by rw [zD,List.map_append,a0v hd he]; rfl)) aY)))))))))))
  ·simp only [decide_eq_false_iff_not] at he
   obtain rfl:k = z.length:=Nat.le_antisymm hk zo
   refine gV rfl (bF (kO 2 3 rfl rfl (by decide) (by simp only [eS,List.length_map,kG]; omega) ?_))
   refine cY (ro rfl (dV (Ht rfl) (cJ 1) z6) (rm rfl (eX (gE [0,1,2] rfl (by decide) (fU (i + 1) hd zo (zS rfl) (aU (fun _ _ _ h=>h) (aU (fun _ _ _ h=>h) (aU (eH (by rw [lX,← tQ (f:=(fun i=>tab z.length fun k=>gm s i k))])) aY))))))))
 ·simp only [decide_eq_false_iff_not] at hd
  obtain rfl:i = z.length:=Nat.le_antisymm hi zo
  refine gV rfl (ts (rm rfl (ra rfl (eX ?_))))
  exact mP B10 trivial [0,2] ⟨⟨_,rfl,fun _ _ _ h=>h⟩,⟨_,rfl,(eH (by rw [tO]))⟩,trivial⟩ (by decide) (Ct rfl (eU rfl))
theorem Ok {z : List Qi} {s : List (List Qi)} (hsh : iR s z.length z.length) (hl : z.length ≤ 8) : bA Tryz.prog 122 [pG z s] (gB s) := (Uf hsh hl).fun fun B _ v S V h1 h2 => by
 have h3:=mU (s:=5) (M:=tab z.length fun i=>tab z.length fun k=>gm s i k) (bT _ _).symm v S V h1 h2
 rw [← wR hsh] at h3; exact h3
theorem a02 {z:List Qi} {s:List (List Qi)} (hl:z.length ≤ 8):bA Tryz.prog 247 [pG z s] (fF z):=by
 refine bA.intro Tryz.func247 rfl Tryz.ntmps247 rfl (fun cx=>(ts (rn rfl (fG (Ht rfl)) fun B1=>(ro rfl (cQ cV) (eX (ts (ro rfl (eJ A_80 Z_80 (Ht rfl) (i:=0) rfl rfl rfl) (ro rfl (cZ Tryz.call117 wA ⟨(Ht rfl),trivial⟩) (rn rfl (rB (T:=bB Qi.zero) (i:=Tryz.t32) oU mD rfl rfl (Ht rfl) rfl mW (El.ag rfl) (by show 88 * _ ≤ _; omega) zo) fun B7=>(ra rfl (eX (cK (ts (rm rfl (ro rfl (rF U_54 (Ht rfl) (i:=1) rfl (show ((List.replicate z.length (bB Qi.zero)).length:Int) = ((z.length:Nat):Int) by simp)) ?_)))))))))))))))
 refine ro rfl (cX (cJ 0)) (eX (eG ?_))
 refine dN (fun (k : Nat) (out : List Qi) => lS (fun i => gv z i) z.length out k) (fun (k : Nat) (out : List Qi) => z.length - k) (fun (k : Nat) (out : List Qi) => [(1, eB B1 0), (3, Is B7), (9, NT .i64 z.length), (10, NT .i64 k)]) (fun (k : Nat) (out : List Qi) => [box B1 80 [fF z, gB s], bN 32 5 B7 (out.map bB)]) 0 (List.replicate z.length Qi.zero) (lS.start _ _ _)
  (zS rfl) (aU (fun _ _ _ h=>h) (aU (dI (qE bB _ _)) aY)) (fun k out hS=>?_)
 refine ts (ro rfl (gX (Ht rfl) (Ht rfl)) (eX (cK (dQ (Ht rfl) (fun hk=>?_) (fun hk=>?_)))))
 ·simp only [decide_eq_true_eq] at hk
  have hlen:=hS.len
  refine cU (cK (eG (ts (rm rfl (ra rfl (eX (cY (rm rfl (rm rfl (ro rfl (eJ A_80 Z_80 (Ht rfl) (i:=0) rfl rfl rfl) (rm rfl (ro rfl (dV (Ht rfl) (cJ 1) z6) (ro rfl (cZ Tryz.call124 (Xz (i:=(k:Int) + 1) zo) ⟨(Ht rfl),(Ht rfl),trivial⟩) (rm rfl (ro rfl (dK (Ht rfl) rfl) (ro rfl (dK (Ht rfl) rfl) (ro rfl (gU U_54 Z_32 (Ht rfl) (Ht rfl) rfl (i:=1) rfl (by first | omega | (simp; omega)) rfl) ?_)))))))))))))))))
  refine sW Z_32 (Ht rfl) (Ht rfl) (El.ag rfl) (i:=1) rfl rfl (by first | omega | (simp; omega)) rfl (eX (bF (cY (ro rfl (dV (Ht rfl) (cJ 1) z6) (rm rfl (eX (fU (k + 1,_) (hS.next hk (Rn hk)) (by dsimp only; omega) (zS rfl) (aU (fun _ _ _ h=>h) (aU (dI (nA bB _ _ _)) aY)))))))))
 ·simp only [decide_eq_false_iff_not] at hk
  obtain rfl:k = z.length:=Nat.le_antisymm hS.kle zo
  have hfin:=hS.fin.trans (Fa (l:=z) rfl).symm
  refine gV rfl (gJ (i:=1) (tt:=3) rfl rfl kF (ts (rm rfl (ra rfl (eX (fW rfl (fX (eU rfl) ?_)))))))
  exact (kN (by rw [hfin]))
end
section
open Go Go.RowKit
theorem Kb (a:Addr) (w:World):(Instr.fieldAt 84 (.pointer (some a)) 0).run Tryz.prog w = .ok (.pointer (some (a.add 0))) w:=by
 simp [Instr.fieldAt,Instr.sureAddr,fieldPlace,Sem.run_bind,Result.andThen,U_84,Z_80]
theorem Fd (v : Value) (w : World) : (method (Tryz.prog.types.size + Made.depth) 32 v "Div").run Tryz.prog w = .ok (142, v) w := by kernel_rfl
theorem pZ (v : Value) (w : World) : (method (Tryz.prog.types.size + Made.depth) 32 v "Sub").run Tryz.prog w = .ok (32, v) w := by kernel_rfl
end
section
open Go Go.RowKit
theorem Oe {p c:List (List Qi)} {n m L:Nat} (hp:iR p n m) (hc:iR c m m) (hfp:cD p L) (hfc:cD c L) (hL1:1 ≤ L) (hL:L ≤ 1000000000) (hn1:1 ≤ n) (hm1:1 ≤ m) (hn:n ≤ 8) (hm:m ≤ 8):jG Tryz.prog 126 [gB p,gB c] [] (Nat) (fun B=>Is (.slice (some ⟨B,0,none⟩) n n)) (fun B=>[yE B 54 32 5 (eS bB (mR p c))]) (fun _=>True):=by
 have hpl:=hp.1
 have hf1:=Ql (n:=n) (m:=m) hfp hfc hL1 hL1 hm
 have hf2:=Nm (n:=n) (m:=m) hfp hL1
 have hs1:iR (vT p c n m m) n m:=Qm
 have hs2:iR (Bi p n m) m n:=Nn
 refine jG.intro Tryz.func126 rfl Tryz.ntmps126 rfl (fun cx Z=>(ts (ro rfl (cQ cV) (eX (cK (ts (rm rfl (ro rfl (dG U_78 (Ht rfl) aA) (ro rfl (cA (Ht rfl) (cJ 0)) (eX (dQ (Ht rfl) (fun h0=>?_) (fun h0=>?_))))))))))))
 ·simp only [decide_eq_true_eq] at h0
  omega
 ·refine cU (ts (rm rfl (rm rfl (ro rfl (cZ Tryz.call165 (Zt hp hc hfp hfc hL1 hL1 zo zo hn1 hm1 hn hm hm) ⟨(Ht rfl), (Ht rfl), trivial⟩) (rm rfl (ro rfl (dK (Ht rfl) rfl) (ro rfl (dK (Ht rfl) rfl) (ra rfl (ra rfl (eX (ts (rm rfl (ro rfl (cZ Tryz.call213 (a0V hp hn1 hn hm) ⟨(Ht rfl), trivial⟩) (rm rfl (ro rfl (dK (Ht rfl) rfl) (ro rfl (dK (Ht rfl) rfl) (ra rfl (ra rfl (eX (ts (rm rfl (rm rfl (vV Tryz.call165 (Jd (a := vT p c n m m) (b := Bi p n m) hs1 hs2 hf1 hf2 zo hL1 zo zo hn1 hm1 hn hm hn) ⟨(Ht rfl), (Ht rfl), trivial⟩ rfl (fun B28 _ => ?_))))))))))))))))))))))))
  refine rm rfl (ro rfl (dK (Ht rfl) rfl) (ro rfl (dK (Ht rfl) rfl) (ra rfl (ra rfl (eX (ts (rm rfl (ra rfl (eX ?_)))))))))
  exact mP B28 trivial [0,1] ⟨⟨_,rfl,fun _ _ _ h=>h⟩,⟨_,rfl,(eH (by rw [a05 hp hc]))⟩,trivial⟩ (by decide) (Ct rfl (eU rfl))
theorem a11 {p c:List (List Qi)} {n m L:Nat} (hp:iR p n m) (hc:iR c m m) (hfp:cD p L) (hfc:cD c L) (hL1:1 ≤ L) (hL:L ≤ 1000000000) (hn1:1 ≤ n) (hm1:1 ≤ m) (hn:n ≤ 8) (hm:m ≤ 8):bA Tryz.prog 126 [gB p,gB c] (gB (mR p c)):=(Oe hp hc hfp hfc hL1 hL hn1 hm1 hn hm).fun fun B _ v S V h1 h2=>mU (s:=5) (M:=mR p c) (by rw [xO.1,hp.1]) v S V h1 h2
theorem Oa {z:List Qi} {s c:List (List Qi)} {g t0:Qi} {L:Nat} (hz:fM z L) (hs:cD s L) (hc:cD c L) (hg:aH g L) (ht:aH t0 L) (hL1:1 ≤ L) (hL:L ≤ 4000) (hsh:iR s z.length z.length) (hch:iR c z.length z.length) (hl:z.length ≤ 8):bA Tryz.prog 44 [nM z s c,bB g,bB t0] (eL [bB (tH z s c g t0).1,aM .i64 (tH z s c g t0).2]):=by
 haveI:=hg; haveI:=ht
 haveI hz0:aH Qi.zero 1:=aH.zero (Nat.le_refl 1)
 have d1:(dg (((1:Nat):Int)).natAbs).length = 1:=by decide
 have d2:(dg (Int.natAbs 1)).length = 1:=by decide
 have hcl:=hch.1
 refine bA.intro Tryz.func44 rfl Tryz.ntmps44 rfl (fun cx=>(ts (rn rfl (fG (Ht rfl)) fun B3=>(rn rfl (fG (Ht rfl)) fun B4=>(rn rfl (fG (Ht rfl)) fun B5=>(rn rfl (eW (Ts:=[Is (.bool false),Is (.slice none 0 0),Is (.bool false),Is (.slice none 0 0),Is (.slice none 0 0)]) O_32 rfl (fun V=>aW zd (aW zd (aW zd (aW zd (aW zd (aG))))))) fun B6=>(ro rfl (cQ (cJ 0)) (eX (ts (rn rfl (eW (Ts:=[Is (.bool false),Is (.slice none 0 0),Is (.bool false),Is (.slice none 0 0),Is (.slice none 0 0)]) O_32 rfl (fun V=>aW zd (aW zd (aW zd (aW zd (aW zd (aG))))))) fun B8=>?_))))))))))
 refine eX (cK (cK (fZ (m:=6) (dp 5 rfl (eJ A_32 Z_32 (Ht rfl) (i:=2) rfl rfl rfl) (dq 18 0 rfl (cZ K_35 uG ⟨(Ht rfl),trivial⟩) (dq 19 1 rfl (eM (Ht rfl)) (dq 20 2 rfl (cX (Ht rfl)) (C.D_step (Ei:=[(5,_),(21,_)]) rfl rfl (bV (bK rfl rfl) (bV (bG 3 rfl rfl) bW)) (eK rfl rfl (Ht rfl) (fun h=>eJ A_32 Z_32 (Ht rfl) (i:=2) rfl rfl rfl)) (C.D_step (Ei:=[(21,_)]) rfl rfl (bV (bG 3 rfl rfl) bW) (eK rfl rfl (Ht rfl) (fun h=>cZ K_36 (oY (n:=0) (by decide) (by decide)) ⟨(cJ 0),trivial⟩)) ?_)))))))))
 refine fV aR rfl (by kernel_rfl) (zF (aJ (aJ (aV (fQ rfl rfl (eK rfl rfl (Ht rfl) (fun h=>cZ K_30 (oX (x:=t0) (y:=Qi.zero) (M:=1) zo) ⟨(fJ rfl h),(fJ rfl h),trivial⟩)) (fQ rfl rfl (eK rfl rfl (Ht rfl) (fun h=>yZ (fJ rfl h) cV)) (ro rfl (iJ (Ht rfl) (fun h=>(fJ rfl h))) (eX (dQ (Ht rfl) (fun hb=>?_) (fun hb=>?_))))))))))
 ·rw [Km] at hb
  simp only [Bool.not_eq_true'] at hb
  have he:tH z s c g t0 = (Qi.zero,1):=by rw [tH,if_pos hb]
  refine ts (ro rfl (eJ A_32 Z_32 (Ht rfl) (i:=4) rfl rfl rfl) (gQ Z_32 (Ht rfl) (Ht rfl) rfl (i:=3) rfl (aK rfl) rfl rfl (ro rfl (cQ (cJ 1)) (eX (bC rfl (fX (fK A_32 Z_32 rfl (i:=3) rfl rfl) ?_) (fX (eU rfl) ?_))))))
  ·exact (fun v V k=>by rw [he]; exact iU v V k)
  ·exact (fun v V k=>by rw [he]; exact k)
 ·rw [Km] at hb
  simp only [Bool.not_eq_false'] at hb
  have hb2:¬ jU t0 = false:=by rw [hb]; decide
  refine cU (cK (ts (ro rfl (eZ tG (Ht rfl) rfl) (ro rfl (eY A_78 Z_78 (Ht rfl) (i:=0) rfl rfl) (ro rfl (dG U_78 (Ht rfl) aA) (ro rfl (jT (Ht rfl) (cJ 2)) (eX (dQ (Ht rfl) (fun hd=>?_) (fun hd=>?_)))))))))
  ·have hd2 : z.length ≠ 2 := by rw [← hcl]; simpa using hd
   have he:tH z s c g t0 = (Qi.zero,4):=by rw [tH,if_neg hb2,if_pos hd2]
   refine ts (ro rfl (eJ A_32 Z_32 (Ht rfl) (i:=4) rfl rfl rfl) (gQ Z_32 (Ht rfl) (Ht rfl) rfl (i:=3) rfl (aK rfl) rfl rfl (ro rfl (cQ (cJ 4)) (eX (bC rfl (fX (fK A_32 Z_32 rfl (i:=3) rfl rfl) ?_) (fX (eU rfl) ?_))))))
   ·exact (fun v V k=>by rw [he]; exact iU v V k)
   ·exact (fun v V k=>by rw [he]; exact k)
  ·have hd2 : z.length = 2 := by rw [← hcl]; simpa using hd
   have hd3:¬ z.length ≠ 2:=fun h=>h hd2
   have hsh2:=hsh
   rw [hd2] at hsh hch
   have hs1:=hsh.1
   have hc1:=hch.1
   have hr0:=hsh.row (i:=0) (by decide)
   have hr1:=hsh.row (i:=1) (by decide)
   have hWf:=Em hs hg hL1
   have hW:iR (Pl s g) 1 2:=⟨rfl,fun r hr=>by have:=List.mem_singleton.1 hr; subst this; rfl⟩
   have hXs:iR (mR (Pl s g) c) 1 1:=xO
   have hX0:=hXs.row (i:=0) (by decide)
   have hp1:=pk1 (z:=z) zo
   haveI f1:aH (gm s 1 0) L:=hs.get hL1 1 0
   haveI f2:aH (gm s 0 0) L:=hs.get hL1 0 0
   haveI f3:aH (Sz z ((1:Nat):Int)) L:=by rw [hp1]; exact hz.get hL1 0
   haveI f4:=Pn hs hc hg hL1 zo
   have hpd:gm s 1 0 * (gm s 1 0).conj * (t0 * Sz z ((1:Nat):Int)) * (Ci - g * g.conj) = Ek z s g t0:=by rw [hp1,Qi.mul_conj_norm,Qi.mul_conj_norm,Ek,Qi.mul_assoc']
   refine cU (ts (ro rfl (eZ Kb (Ht rfl) rfl) (ro rfl (eJ A_80 Z_80 (Ht rfl) (i:=0) rfl rfl rfl) (ro rfl (cZ Tryz.call122 (Ok hsh2 zo) ⟨(Ht rfl),trivial⟩) (ro rfl (cZ K_36 (oY (n:=1) (by decide) (by decide)) ⟨(cJ 1),trivial⟩) (ro rfl (cZ Tryz.call123 Oi ⟨(Ht rfl),trivial⟩) (rn rfl (eW (Ts:=[Is (.bool false),Is (.slice none 0 0),Is (.bool false),Is (.slice none 0 0),Is (.slice none 0 0)]) O_32 rfl (fun V=>aW zd (aW zd (aW zd (aW zd (aW zd (aG))))))) fun B10=>?_)))))))
   refine ra rfl (gQ Z_32 (Ht rfl) (Ht rfl) rfl (i:=5) rfl (aK rfl) rfl rfl (eX (ts (ro rfl (eZ Kb (Ht rfl) rfl) (ro rfl (eJ A_80 Z_80 (Ht rfl) (i:=0) rfl rfl rfl) (ro rfl (cZ Tryz.call124 (Xz (i:=((1:Nat):Int)) zo) ⟨(Ht rfl),(cJ 1),trivial⟩) (rm rfl (ro rfl (dK (Ht rfl) rfl) (ro rfl (dK (Ht rfl) rfl) (rn rfl (eW (Ts:=[Is (.bool false),Is (.slice none 0 0),Is (.bool false),Is (.slice none 0 0),Is (.slice none 0 0)]) O_32 rfl (fun V=>aW zd (aW zd (aW zd (aW zd (aW zd (aG))))))) fun B11=>?_))))))))))
   refine gQ Z_32 (Ht rfl) (Ht rfl) rfl (i:=6) rfl (aK rfl) rfl rfl (ra rfl (eX (cK (nE (E':=[(3,_),(4,_),(5,_),(6,_),(7,_),(8,_),(9,_),(10,_),(11,_)]) (zS rfl) (fZ (m:=18) (dp 9 rfl (cX (Ht rfl)) (dq 44 0 rfl (dZ U_78 Z_54 (Ht rfl) (cJ 1) rfl (dY (dU (d:=[]) zo))) (dq 45 1 rfl (dJ A_54 Z_54 (Ht rfl)) (dq 46 2 rfl (dZ U_54 Z_32 (Ht rfl) (cJ 0) rfl (dY (dU (d:=Qi.zero) (by rw [hr1]; decide)))) ?_)))))))))
   refine dq 47 3 rfl (dJ A_32 Z_32 (Ht rfl)) (dq 48 4 rfl (eI fO (Ht rfl)) (dp 4 rfl (eJ A_32 Z_32 (Ht rfl) (i:=1) rfl rfl rfl) (cL 49 5 50 6 rfl (dH gT K_29 (lB zo) (Ht rfl) ⟨(Ht rfl),trivial⟩) (dp 10 rfl (eJ A_32 Z_32 (Ht rfl) (i:=5) rfl rfl rfl) (dq 52 8 rfl (eI fO (Ht rfl)) (dp 4 rfl (eJ A_32 Z_32 (Ht rfl) (i:=1) rfl rfl rfl) (dq 54 10 rfl (eI fO (Ht rfl)) (dp 9 rfl (cX (Ht rfl)) (dq 56 12 rfl (dZ U_78 Z_54 (Ht rfl) (cJ 0) rfl (dY (dU (d:=[]) zo))) ?_)))))))))
   refine dq 57 13 rfl (dJ A_54 Z_54 (Ht rfl)) (dq 58 14 rfl (dZ U_54 Z_32 (Ht rfl) (cJ 0) rfl (dY (dU (d:=Qi.zero) (by rw [hr0]; decide)))) ?_)
   refine dq 59 15 rfl (dJ A_32 Z_32 (Ht rfl)) (cL 55 11 60 16 rfl (dH gT K_29 (lB zo) (Ht rfl) ⟨(Ht rfl),trivial⟩) (fV aR rfl (by kernel_rfl) (zF (zF (zF (zF (aJ (aJ (aV (ro rfl (dH pZ K_32 (pK zo) (Ht rfl) ⟨(Ht rfl),trivial⟩) (ro rfl (bP (xs:=[.tmp 51,.tmp 62]) U_54 Z_32 O_32 (cW (Ht rfl) (cW (Ht rfl) cG)) rfl rfl rfl) ?_)))))))))))
   refine ro rfl (bP (xs:=[.tmp 63]) U_78 Z_54 Tryz.zeroValue54 (cW (Ht rfl) cG) rfl rfl rfl) (ra rfl (eX (cK (nE (E':=[(3,_),(4,_),(5,_),(6,_),(7,_),(8,_),(9,_),(10,_),(11,_),(13,_)]) (zS rfl) (cY (rm rfl (ro rfl (eZ tG (Ht rfl) rfl) (ro rfl (eY A_78 Z_78 (Ht rfl) (i:=0) rfl rfl) (ro rfl (cZ Tryz.call126 (a11 (p:=Pl s g) (c:=c) (n:=1) (m:=2) (L:=2 * L + 4) hW hch hWf (hc.le zo) zo zo (by decide) (by decide) (by decide) (by decide)) ⟨(Ht rfl),(Ht rfl),trivial⟩) ?_)))))))))
   refine ro rfl (dZ U_78 Z_54 (Ht rfl) (cJ 0) rfl (dY (dU (d:=[]) (by rw [hXs.1]; decide)))) ?_
   refine ro rfl (dJ A_54 Z_54 (Ht rfl)) (ro rfl (dZ U_54 Z_32 (Ht rfl) (cJ 0) rfl (dY (dU (d:=Qi.zero) (by rw [hX0]; decide)))) ?_)
   refine ro rfl (dJ A_32 Z_32 (Ht rfl)) (rn rfl (eW (Ts:=[Is (.bool false),Is (.slice none 0 0),Is (.bool false),Is (.slice none 0 0),Is (.slice none 0 0)]) O_32 rfl (fun V=>aW zd (aW zd (aW zd (aW zd (aW zd (aG))))))) fun B14=>(gQ Z_32 (Ht rfl) (Ht rfl) rfl (i:=7) rfl (aK rfl) rfl rfl (eX (cK (nE (E':=[(3,_),(4,_),(5,_),(6,_),(7,_),(8,_),(9,_),(10,_),(11,_),(14,_)]) (zS rfl) ?_)))))
   refine fZ (m:=32) (dp 9 rfl (cX (Ht rfl)) (dq 73 0 rfl (dZ U_78 Z_54 (Ht rfl) (cJ 1) rfl (dY (dU (d:=[]) zo))) (dq 74 1 rfl (dJ A_54 Z_54 (Ht rfl)) (dq 75 2 rfl (dZ U_54 Z_32 (Ht rfl) (cJ 0) rfl (dY (dU (d:=Qi.zero) (by rw [hr1]; decide)))) ?_))))
   refine dq 76 3 rfl (dJ A_32 Z_32 (Ht rfl)) (dq 77 4 rfl (eI fO (Ht rfl)) (dp 9 rfl (cX (Ht rfl)) (dq 79 6 rfl (dZ U_78 Z_54 (Ht rfl) (cJ 1) rfl (dY (dU (d:=[]) zo))) (dq 80 7 rfl (dJ A_54 Z_54 (Ht rfl)) (dq 81 8 rfl (dZ U_54 Z_32 (Ht rfl) (cJ 0) rfl (dY (dU (d:=Qi.zero) (by rw [hr1]; decide)))) ?_)))))
   refine dq 82 9 rfl (dJ A_32 Z_32 (Ht rfl)) (dq 83 10 rfl (eI fO (Ht rfl)) (dq 84 11 rfl (dH oQ Tryz.call317 Gw (Ht rfl) trivial) (cL 78 5 85 12 rfl (dH gT K_29 (lB zo) (Ht rfl) ⟨(Ht rfl),trivial⟩) (dq 86 13 rfl (eI fO (Ht rfl)) (dp 5 rfl (eJ A_32 Z_32 (Ht rfl) (i:=2) rfl rfl rfl) (dp 11 rfl (eJ A_32 Z_32 (Ht rfl) (i:=6) rfl rfl rfl) (cL 88 15 89 16 rfl (cZ K_29 (lB zo) ⟨(Ht rfl),(Ht rfl),trivial⟩) (dq 90 17 rfl (cZ Tryz.call123 Oi ⟨(Ht rfl),trivial⟩) ?_))))))))
   refine cL 87 14 91 18 rfl (dH gT K_29 (lB zo) (Ht rfl) ⟨(Ht rfl),trivial⟩) (dq 92 19 rfl (eI fO (Ht rfl)) (dp 10 rfl (eJ A_32 Z_32 (Ht rfl) (i:=5) rfl rfl rfl) (dq 94 21 rfl (eI fO (Ht rfl)) (dp 4 rfl (eJ A_32 Z_32 (Ht rfl) (i:=1) rfl rfl rfl) (dq 96 23 rfl (eI fO (Ht rfl)) (dp 4 rfl (eJ A_32 Z_32 (Ht rfl) (i:=1) rfl rfl rfl) (dq 98 25 rfl (eI fO (Ht rfl)) (dq 99 26 rfl (dH oQ Tryz.call317 Gw (Ht rfl) trivial) (cL 97 24 100 27 rfl (dH gT K_29 (lB zo) (Ht rfl) ⟨(Ht rfl),trivial⟩) ?_)))))))))
   refine cL 95 22 101 28 rfl (dH pZ K_32 (pK zo) (Ht rfl) ⟨(Ht rfl),trivial⟩) (cL 93 20 102 29 rfl (dH gT K_29 (lB zo) (Ht rfl) ⟨(Ht rfl),trivial⟩) (C.D_new (Ei:=[]) rfl rfl rfl bW (eW (Ts:=[Is (.bool false),Is (.slice none 0 0),Is (.bool false),Is (.slice none 0 0),Is (.slice none 0 0)]) O_32 rfl (fun V=>aW zd (aW zd (aW zd (aW zd (aW zd (aG))))))) (fV aR rfl (by kernel_rfl) (zF (zF (zF (zF (zF (zF (zF (aJ (aJ (aJ (C.F_new (fun B15=>aV ?_)))))))))))))))
   refine gQ Z_32 (Ht rfl) (Ht rfl) rfl (i:=8) rfl (aK rfl) rfl rfl (eX (cK (nE (E':=[(6,_),(7,_),(8,_),(10,_),(14,_),(15,_)]) (zS rfl) (cY (ro rfl (eJ A_32 Z_32 (Ht rfl) (i:=7) rfl rfl rfl) (ro rfl (eI fO (Ht rfl)) (ro rfl (eJ A_32 Z_32 (Ht rfl) (i:=8) rfl rfl rfl) (ro rfl (dH Fd Tryz.call142 (Xy (x:=Pm s c g) (y:=gm s 1 0 * (gm s 1 0).conj * (t0 * Sz z ((1:Nat):Int)) * (Ci - g * g.conj)) zo) (Ht rfl) ⟨(Ht rfl),trivial⟩) ?_))))))))
   refine rm rfl (ro rfl (dK (Ht rfl) rfl) (ro rfl (dK (Ht rfl) rfl) (rn rfl (eW (Ts:=[Is (.bool false),Is (.slice none 0 0),Is (.bool false),Is (.slice none 0 0),Is (.slice none 0 0)]) O_32 rfl (fun V=>aW zd (aW zd (aW zd (aW zd (aW zd (aG))))))) fun B16=>(gQ Z_32 (Ht rfl) (Ht rfl) rfl (i:=9) rfl (aK rfl) rfl rfl (ra rfl (eX (cK (cK (nE (E':=[(6,_),(7,_),(8,_),(10,_),(16,_),(17,_)]) (zS rfl) ?_)))))))))
   refine cY (rm rfl (ro rfl (nO (Ht rfl) cV) (eX (dQ (Ht rfl) (fun hk=>?_) (fun hk=>?_)))))
   ·rw [hpd] at hk
    have hk2 : Ek z s g t0 = Qi.zero := by
     by_cases h:Ek z s g t0 = Qi.zero
     ·exact h
     ·rw [if_neg h] at hk; exact absurd hk (by decide)
    have he:tH z s c g t0 = (Qi.zero,3):=by rw [tH,if_neg hb2,if_neg hd3,if_pos hk2]
    refine ts (ro rfl (eJ A_32 Z_32 (Ht rfl) (i:=4) rfl rfl rfl) (gQ Z_32 (Ht rfl) (Ht rfl) rfl (i:=3) rfl (aK rfl) rfl rfl (ro rfl (cQ (cJ 3)) (eX (bC rfl (fX (fK A_32 Z_32 rfl (i:=3) rfl rfl) ?_) (fX (eU rfl) ?_))))))
    ·exact (fun v V k=>by rw [he]; exact iU v V k)
    ·exact (fun v V k=>by rw [he]; exact k)
   ·have hk2 : ¬ Ek z s g t0 = Qi.zero := fun h => by rw [hpd, if_pos h] at hk; exact absurd hk (by decide)
    have he:tH z s c g t0 = (Ci + Pm s c g / Ek z s g t0,0):=by rw [tH,if_neg hb2,if_neg hd3,if_neg hk2]
    have hv:Ci + Pm s c g / (gm s 1 0 * (gm s 1 0).conj * (t0 * Sz z ((1:Nat):Int)) * (Ci - g * g.conj)) = (tH z s c g t0).1:=by rw [he,hpd]
    refine cU (ts (ro rfl (eJ A_32 Z_32 (Ht rfl) (i:=5) rfl rfl rfl) (ro rfl (eI fO (Ht rfl)) (ro rfl (eJ A_32 Z_32 (Ht rfl) (i:=9) rfl rfl rfl) (ro rfl (dH vE Tryz.call33 (Jb zo) (Ht rfl) ⟨(Ht rfl),trivial⟩) (gQ Z_32 (Ht rfl) (Ht rfl) rfl (i:=3) rfl (aK rfl) rfl rfl (ro rfl (cQ (cJ 0)) (eX (bC rfl (fX (fK A_32 Z_32 rfl (i:=3) rfl rfl) ?_) (fX (eU rfl) ?_))))))))))
    ·exact (gK hv)
    ·exact (fun v V k=>by rw [he]; exact k)
end
section
open Go Go.RowKit
theorem Tt {n:Nat} (h:n < 4294967296):bA Tryz.prog 289 [NT .u64 1,NT .u64 n] (eL [NT .u64 0,NT .u64 n]):=by
 refine bA.intro Tryz.func289 rfl Tryz.ntmps289 rfl (fun cx=>(ts (ro rfl (cQ (cJ 0)) (ro rfl (cQ (cJ 0)) (eX (ts (rm rfl (ro rfl (aC.nat (kW rfl (Ht rfl) (cJ 4294967295) z7 z7) (show (1:Nat) &&& 4294967295 = 1 by decide)) (ra rfl (eX (ts (rm rfl (ro rfl (aC.nat (cC (Ht rfl) (cJ 32) (by decide)) (show (1:Nat) / 2 ^ 32 = 0 by decide)) (ra rfl (eX (ts (rm rfl (ro rfl (aC.nat (kW rfl (Ht rfl) (cJ 4294967295) z7 z7) (show n &&& 4294967295 = n from (Nat.and_two_pow_sub_one_eq_mod n 32).trans (Nat.mod_eq_of_lt h))) ?_))))))))))))))))))
 refine ra rfl (eX (ts (rm rfl (ro rfl (aC.nat (cC (Ht rfl) (cJ 32) (by decide)) (show n / 2 ^ 32 = 0 from Nat.div_eq_of_lt h)) (ra rfl (eX (ts (rm rfl (rm rfl (ro rfl (aC.nat (jS (Ht rfl) (Ht rfl) z7) (Nat.one_mul n)) (ra rfl (eX (ts (rm rfl (rm rfl (ro rfl (aC.nat (jS (Ht rfl) (Ht rfl) z7) (Nat.zero_mul n)) (rm rfl (ro rfl (aC.nat (cC (Ht rfl) (cJ 32) (by decide)) (show n / 2 ^ 32 = 0 from Nat.div_eq_of_lt h)) ?_))))))))))))))))))
 refine ro rfl (dV (Ht rfl) (Ht rfl) z7) (ra rfl (eX (ts (rm rfl (ro rfl (aC.nat (kW rfl (Ht rfl) (cJ 4294967295) z7 z7) (show (0 + 0:Nat) &&& 4294967295 = 0 by decide)) (ra rfl (eX (ts (rm rfl (ro rfl (aC.nat (cC (Ht rfl) (cJ 32) (by decide)) (show (0 + 0:Nat) / 2 ^ 32 = 0 by decide)) (ra rfl (eX (ts (rm rfl (rm rfl (rm rfl ?_))))))))))))))))
 refine ro rfl (aC.nat (jS (Ht rfl) (Ht rfl) z7) (show (1 * 0:Nat) = 0 by decide)) (ro rfl (dV (Ht rfl) (Ht rfl) z7) (ra rfl (eX (ts (rm rfl (rm rfl (ro rfl (aC.nat (jS (Ht rfl) (Ht rfl) z7) (show (0 * 0:Nat) = 0 by decide)) (rm rfl (ro rfl (dV (Ht rfl) (Ht rfl) z7) ?_)))))))))
 refine rm rfl (ro rfl (aC.nat (cC (Ht rfl) (cJ 32) (by decide)) (show (0 + 0:Nat) / 2 ^ 32 = 0 by decide)) (ro rfl (dV (Ht rfl) (Ht rfl) z7) (ra rfl (eX (ts (rm rfl (rm rfl (ro rfl (aC.nat (jS (Ht rfl) (Ht rfl) z7) (Nat.one_mul n)) (ra rfl (eX (bC rfl (fX (eU rfl) ?_) (eU rfl))))))))))))
 exact (jY (by decide))
theorem Zv {n:Nat} (h:n < 4294967296):bA Tryz.prog 259 [NT .u64 1,NT .u64 n] (eL [NT .u64 0,NT .u64 n]):=by
 refine bA.intro Tryz.func259 rfl Tryz.ntmps259 rfl (fun cx=>(ts (ro rfl (cQ (cJ 0)) (ro rfl (cQ (cJ 0)) (eX (cK (dQ cV (fun hf=>?_) (fun hf=>?_))))))))
 ·exact absurd hf (by decide)
 ·refine cU (ts (rm rfl (rm rfl (ro rfl (cZ Tryz.call289 (Tt h) ⟨(Ht rfl), (Ht rfl), trivial⟩) (rm rfl (ro rfl (dK (Ht rfl) rfl) (ro rfl (dK (Ht rfl) rfl) (ra rfl (ra rfl (eX (ts (rm rfl (rm rfl (ra rfl (ra rfl (eX ?_))))))))))))))))
  exact bC rfl (eU rfl) (eU rfl)
theorem Zu {m:Nat} (h1:1 ≤ m) (hm:m ≤ 1000):jG Tryz.prog 212 [fF [Qi.zero],NT .i64 m] [] ({v:Value // lE v}) (fun v=>Is v.1) (fun v=>[bN 32 5 v.1 ((tab m fun _=>Qi.zero).map bB)]) (fun _=>True):=by
 refine jG.intro Tryz.func212 rfl Tryz.ntmps212 rfl (fun cx Z=>(ts (ro rfl (cQ cV) (eX (cK (ts (rm rfl (ro rfl (gX (Ht rfl) (cJ 0)) (eX (dQ (Ht rfl) (fun h0=>?_) (fun h0=>?_)))))))))))
 ·simp only [decide_eq_true_eq] at h0
  omega
 ·refine cU (ts (rm rfl (ro rfl (dG U_54 (Ht rfl) (show (([Qi.zero].map bB).length : Int) = ((1 : Nat) : Int) from rfl)) (ro rfl (gZ U_3 U_275 (Ht rfl) z7) (rm rfl (ro rfl (gZ U_3 U_275 (Ht rfl) z7) (ro rfl (cZ Tryz.call259 (Zv zo) ⟨(Ht rfl), (Ht rfl), trivial⟩) (rm rfl (ro rfl (dK (Ht rfl) rfl) (ro rfl (dK (Ht rfl) rfl) ?_))))))))))
  refine ra rfl (ra rfl (eX (cK (ts (rm rfl (ro rfl (dA (Ht rfl) (cJ 0)) (rm rfl (fQ rfl rfl (eK rfl rfl (Ht rfl) (fun h=>cX (Ht rfl))) (fQ rfl rfl (eK rfl rfl (Ht rfl) (fun h=>dA (fJ rfl h) (cJ 9223372036854775807))) (ro rfl (iJ (Ht rfl) (fun h=>(fJ rfl h))) (eX (dQ (Ht rfl) (fun h2=>?_) (fun h2=>?_)))))))))))))
  ·simp only [Bool.or_eq_true, decide_eq_true_eq] at h2
   omega
  ·refine cU (ts (rm rfl (ro rfl (gZ U_275 U_3 (Ht rfl) z6) (Tc (T := bB Qi.zero) (i := Tryz.t32) oU mD rfl rfl (Ht rfl) rfl mW (El.ag rfl) (by show 88 * _ ≤ _; omega) zo rfl (fun B30 hB30 => (ra rfl (eX (ts (rm rfl (rm rfl (ro rfl (Rc (q := 1) (T := bB Qi.zero) U_54 Z_32 (i := 1) rfl (Ht rfl) (Ht rfl) (by decide) (El.ag rfl) zo) (ra rfl (eX (cK (eG ?_)))))))))))))))
   refine fD (fun (k : Nat) => 1 ≤ k ∧ k ≤ m) (fun (k : Nat) => m - k) (fun (k : Nat) => [(7, Is B30), (8, NT .i64 k)]) (fun (k : Nat) => [Z, bN 32 5 B30 (List.replicate m (bB Qi.zero))]) (Nat.min 1 m) ⟨by show 1 ≤ min 1 m; omega, by show min 1 m ≤ m; omega⟩
    (zS rfl) (cE.refl _) (fun k ⟨hk1,hk⟩=>?_)
   refine cK (ts (rm rfl (rm rfl (ro rfl (rF U_54 (Ht rfl) (i:=1) rfl (show ((List.replicate m (bB Qi.zero)).length:Int) = ((m:Nat):Int) by simp)) (ro rfl (gX (Ht rfl) (Ht rfl)) (eX (dQ (Ht rfl) (fun hd=>?_) (fun hd=>?_))))))))
   ·simp only [decide_eq_true_eq] at hd
    have hlen:(List.replicate m (bB Qi.zero)).length = m:=by simp
    have h5:Nat.min k ((List.replicate m (bB Qi.zero)).length - k) = min k (m - k):=by rw [hlen]
    refine cU (eG (fZ (m:=8) (dp 8 rfl (cX (Ht rfl)) (dp 7 rfl (cX (Ht rfl)) (dp 8 rfl (cX (Ht rfl)) (cL 39 1 40 2 rfl (Rh U_54 Z_32 (Ht rfl) (Ht rfl) rfl (i:=1) rfl (by rw [hlen]; exact hd)) ?_))))))
    refine dp 7 rfl (cX (Ht rfl)) (dp 8 rfl (cX (Ht rfl)) (cL 42 4 43 5 rfl (Rf U_54 Z_32 (Ht rfl) (Ht rfl) rfl (i:=1) rfl (by rw [hlen]; omega) (by rw [hlen]; omega)) ?_))
    refine cL 41 3 44 6 rfl (Hw (T:=bB Qi.zero) U_54 Z_32 (i:=1) rfl (Ht rfl) (Ht rfl)) (fV aR rfl (by kernel_rfl) (zF (zF (aV (ro rfl (dV (Ht rfl) (Ht rfl) (by show _ < 9223372036854775808; omega)) (ra rfl (eX (bF (fU (k + Nat.min k ((List.replicate m (bB Qi.zero)).length - k)) ⟨by omega,by omega⟩ zo (zS rfl) (cE.refl _))))))))))
   ·refine gV rfl (ts (rm rfl (ra rfl (eX ?_))))
    exact mP ⟨B30,hB30⟩ trivial [0,1] ⟨⟨_,rfl,fun _ _ _ h=>h⟩,⟨_,rfl,(dI (by rw [oG,qE]))⟩,trivial⟩ (by decide) (Ct rfl (eU rfl))
end
section
open Go Go.RowKit
theorem Gt {n : Nat} {E : bL} {H : Hp} {d : Option Tmp} {t : TypeId} {pos : String} {af : Array Edge} {g : Option (Nat × Bool)} {x0 x1 : Operand} {T0 T1 T2 : Ty} (h0 : aS E x0 (dM [T0, T1])) [s1 : cI T2 1 false] (h1 : aS E x1 T2) :
  aC Tryz.prog n E H ⟨d,.build 84 #[(0,x0),(1,x1)],t,pos,af,g⟩ (dM [T0,T1,T2]) :=
 fE (parts := [(0, x0), (1, x1)]) fun a V w hs => by
  obtain ⟨v0,e0,c0⟩:=h0 n V a hs
  obtain ⟨c0_0,c0_1,rfl⟩:∃ c0_0 c0_1,v0 = [c0_0,c0_1]:=Ar (by simpa using c0.length)
  have p1:=h1 n V a hs
  generalize e1:a.eval x1 = v1 at p1
  have q1:=(s1.ok v1 V p1).2.2 rfl
  refine ⟨.agg #[c0_0,c0_1,v1],?_,[c0_0,c0_1,v1],rfl,aW (c0.at (i:=0) rfl rfl) (aW (c0.at (i:=1) rfl rfl) (aW (⟨p1,q1⟩) (aG)))⟩
  simp [e0,e1,Instr.build,Instr.fill,Sem.run_bind,Result.andThen,dT,q1.cells,O_84,U_84,Z_78,Z_80]
end
section
open Go Go.RowKit
theorem On {n:Nat} (hn:n ≤ 1000):jG Tryz.prog 125 [NT .i64 n,NT .i64 n] [] (Nat) (fun B=>Is (.slice (some ⟨B,0,none⟩) n n)) (fun B=>[nX lE B 54 32 5 (eS bB (Yw n n))]) (fun _=>True):=by
 refine jG.intro Tryz.func125 rfl Tryz.ntmps125 rfl (fun cx Z=>(ts (ro rfl (cQ cV) (eX (ts (rm rfl (rn rfl (dO (T:=Is (.slice none 0 0)) (i:=Tryz.t54) V_78 qX rfl rfl (Ht rfl) rfl (fun _=>rfl) trivial (by show 24 * _ ≤ _; omega) zo) fun B8=>(ra rfl (eX (cK (ts (rm rfl (ro rfl (jR U_78 (Ht rfl)) (ro rfl (cX (cJ 0)) (eX (eG (xI 1 rfl (Fc lE ⟨none,0,rfl⟩ (e:=32) (s:=5)) ?_)))))))))))))))))
 refine fD (fun (k : Nat) => k ≤ n) (fun (k : Nat) => n - k) (fun (k : Nat) => [(1, NT .i64 n), (5, Is (.slice (some ⟨B8, 0, none⟩) n n)), (10, NT .i64 n), (11, NT .i64 k)]) (fun (k : Nat) => [Z, nX lE B8 54 32 5 (eS bB (nY (fun _ => (tab n fun _ => Qi.zero)) [] n k))]) 0 (Nat.zero_le _)
  (zS rfl) (aU (fun _ _ _ h=>h) (aU (eH (by rw [← qB,oG]; exact qD bB n)) aY)) (fun k hk=>?_)
 refine ts (ro rfl (gX (Ht rfl) (Ht rfl)) (eX (cK (dQ (Ht rfl) (fun hd=>?_) (fun hd=>?_)))))
 ·simp only [decide_eq_true_eq] at hd
  refine sY 1 (k) rfl (pU hd) (fun v hv=>(cU (cK (eG (ts (rm rfl (ra rfl (eX (cY (rm rfl (rm rfl (ro rfl (cZ K_36 (oY (n:=0) (by decide) (by decide)) ⟨(cJ 0),trivial⟩) (ro rfl (cZ Tryz.call123 Oi ⟨(Ht rfl),trivial⟩) (ro rfl (bP (xs:=[.tmp 17]) U_54 Z_32 O_32 (cW (Ht rfl) cG) rfl rfl rfl) (rm rfl (vV Tryz.call212 (Zu (m:=n) zo hn) ⟨(Ht rfl),(Ht rfl),trivial⟩ rfl (fun B20 _=>?_)))))))))))))))))
  have hB20:=B20.2
  refine ro rfl (fY U_78 Z_54 (Ht rfl) (Ht rfl) rfl zo (by rw [Nat.mul_one,Nat.zero_add])) ?_
  refine De Z_54 (Ht rfl) (Ht rfl) (by simp only [eS,List.length_map,kG]; omega) (j:=1) (l:=3) rfl rfl rfl ?_
  refine eX (bF (kO 1 3 rfl rfl (by decide) (by simp only [eS,List.length_map,kG]; omega) ?_))
  refine cY (ro rfl (dV (Ht rfl) (cJ 1) z6) (rm rfl (eX (gE [0,1] rfl (by decide) (fU (k + 1) hd zo (zS rfl) (aU (fun _ _ _ h=>h) (aU (eH (by rw [lX,← tQ (f:=fun _=>(tab n fun _=>Qi.zero))])) aY)))))))
 ·simp only [decide_eq_false_iff_not] at hd
  obtain rfl:n = k:=Nat.le_antisymm zo hk
  refine gV rfl (ts (rm rfl (ra rfl (eX ?_))))
  exact mP B8 trivial [0,1] ⟨⟨_,rfl,fun _ _ _ h=>h⟩,⟨_,rfl,(eH (by rw [tO]; rfl))⟩,trivial⟩ (by decide) (Ct rfl (eU rfl))
theorem Ol {z:List Qi} {s:List (List Qi)} {L:Nat} (hz:fM z L) (hs:cD s L) (hL1:1 ≤ L) (hL:L ≤ 10000000) (hsh:iR s z.length z.length) (hl1:1 ≤ z.length) (hl:z.length ≤ 8):jG Tryz.prog 196 [pG z s] [] (Nat) (fun B=>Is (.slice (some ⟨B,0,none⟩) z.length z.length)) (fun B=>[nX lE B 54 32 5 (eS bB (oD z s))]) (fun _=>True):=by
 have hs1:=hs.le (Nat.le_refl L)
 have hsl:=hsh.1
 have hD:=Ef z
 have hDf:=xS hz hL1
 have hXf:=xN hs hDf hL1 (by rw [hD.1]; exact hl)
 have hX:iR (mR s (gF z)) s.length s.length:=xO
 refine jG.intro Tryz.func196 rfl Tryz.ntmps196 rfl (fun cx Z=>(ts (rn rfl (fG (Ht rfl)) fun B1=>(ro rfl (cQ cV) (eX (cK (fZ (m:=3) (dp 1 rfl (eJ A_80 Z_80 (Ht rfl) (i:=1) rfl rfl rfl) (dq 10 0 rfl (cZ Tryz.call117 wA ⟨(Ht rfl),trivial⟩) (dp 1 rfl (eJ A_80 Z_80 (Ht rfl) (i:=1) rfl rfl rfl) (fV aR rfl (by kernel_rfl) (aJ (aJ (aJ (aV (ro rfl (cZ Tryz.call117 wA ⟨(Ht rfl),trivial⟩) (vV Tryz.call125 (On (n:=z.length) zo) ⟨(Ht rfl),(Ht rfl),trivial⟩ rfl (fun B14 _=>?_))))))))))))))))))
 refine ra rfl (eX (cK (ts (ro rfl (eJ A_80 Z_80 (Ht rfl) (i:=1) rfl rfl rfl) (ro rfl (cZ Tryz.call247 (a02 zo) ⟨(Ht rfl),trivial⟩) (ro rfl (dG U_54 (Ht rfl) aA) (ro rfl (cX (cJ 0)) (eX (eG ?_)))))))))
 refine fD (fun (i : Nat) => i ≤ z.length) (fun (i : Nat) => z.length - i) (fun (i : Nat) => [(1, eB B1 0), (3, Is (.slice (some ⟨B14, 0, none⟩) z.length z.length)), (16, fF z), (17, NT .i64 z.length), (18, NT .i64 i)]) (fun (i : Nat) => [Z, box B1 80 [fF z, gB s], nX lE B14 54 32 5 (eS bB (nY (fun i => (tab z.length fun _ => Qi.zero).set i (gv z i)) (tab z.length fun _ => Qi.zero) z.length i))]) 0 (Nat.zero_le _)
  (zS rfl) (aU (fun _ _ _ h=>h) (aU (fun _ _ _ h=>h) (aU (eH (by rw [Yw,qB])) aY))) (fun i hi=>?_)
 refine ts (ro rfl (gX (Ht rfl) (Ht rfl)) (eX (cK (dQ (Ht rfl) (fun hd=>?_) (fun hd=>?_)))))
 ·simp only [decide_eq_true_eq] at hd
  have hzl:=bT z.length fun _=>Qi.zero
  refine sY 2 (i) rfl (pU hd) (fun v hv=>(cU (cK (eG (ts (rm rfl (ro rfl (dZ U_54 Z_32 (Ht rfl) (Ht rfl) rfl (dY (dU (d:=Qi.zero) hd))) (ro rfl (dJ A_32 Z_32 (Ht rfl)) (rn rfl (eW (Ts:=[Is (.bool false),Is (.slice none 0 0),Is (.bool false),Is (.slice none 0 0),Is (.slice none 0 0)]) O_32 rfl (fun V=>aW zd (aW zd (aW zd (aW zd (aW zd (aG))))))) fun B5=>(ra rfl ?_))))))))))
  refine gQ Z_32 (Ht rfl) (Ht rfl) rfl (i:=4) rfl (aK rfl) rfl rfl (eX (fZ (m:=7) (dp 3 rfl (cX (Ht rfl)) (dp 4 rfl (cX (Ht rfl)) (cL 23 0 24 1 rfl (fY U_78 Z_54 (Ht rfl) (Ht rfl) rfl zo (by rw [Nat.mul_one,Nat.zero_add])) ?_)))))
  refine dq 25 2 rfl (oS A_54 Z_54 (Ht rfl) (j:=2) rfl) (dp 4 rfl (cX (Ht rfl)) (dp 5 rfl (eJ A_32 Z_32 (Ht rfl) (i:=4) rfl rfl rfl) (dq 28 5 rfl (cZ Tryz.call123 Oi ⟨(Ht rfl),trivial⟩) (fV aR rfl (by kernel_rfl) (zF (aJ (aJ (aJ (aV (ro rfl (gU U_54 Z_32 (Ht rfl) (Ht rfl) rfl (i:=3) rfl (by simp only [List.length_map,bT]; omega) rfl) ?_))))))))))
  refine sW Z_32 (Ht rfl) (Ht rfl) (El.ag rfl) (i:=3) rfl rfl (by simp only [List.length_map,bT]; omega) rfl ?_
  refine eX (bF (kO 2 3 rfl rfl (by decide) (by simp only [eS,List.length_map,kG]; omega) ?_))
  refine cY (ro rfl (dV (Ht rfl) (cJ 1) z6) (rm rfl (eX (gE [0,1,2] rfl (by decide) (fU (i + 1) hd zo (zS rfl) (aU (fun _ _ _ h=>h) (aU (fun _ _ _ h=>h) (aU (eH (by rw [← tQ (f:=(fun i=>(tab z.length fun _=>Qi.zero).set i (gv z i))),← lX,← nA])) aY))))))))
 ·simp only [decide_eq_false_iff_not] at hd
  obtain rfl:i = z.length:=Nat.le_antisymm hi zo
  rw [tO]
  refine gV rfl (ts (ro rfl (eJ A_80 Z_80 (Ht rfl) (i:=1) rfl rfl rfl) (ro rfl (cZ Tryz.call122 (Ok hsh hl) ⟨(Ht rfl),trivial⟩) (rm rfl (Za Tryz.call126 (Oe (p:=s) (c:=gF z) (n:=z.length) (m:=z.length) (L:=L) hsh hD hs hDf hL1 zo hl1 hl1 hl hl) (j:=2) (tt:=34) rfl rfl (mU (s:=5) (M:=gF z) hD.1.symm) a0l (fun _=>inferInstance) (fun _ B hB=>by simp only [List.mem_singleton] at hB; subst hB; exact Sg) ⟨(Ht rfl),(Ht rfl),trivial⟩ rfl (fun B35 _=>(ra rfl (eX (cK (cK (gJ (i:=3) (tt:=6) rfl rfl (mU (s:=5) (M:=mR s (gF z)) (hX.1.trans hsl).symm) ?_)))))))))))
  refine cY (rm rfl (ro rfl (dG U_78 (Ht rfl) aA) (ro rfl (cX (cJ 0)) (eX (eG (gE [0,2] rfl (by decide) ?_))))))
  refine fD (fun (i : Nat) => i ≤ z.length) (fun (i : Nat) => z.length - i) (fun (i : Nat) => [(3, Is (.slice (some ⟨B14, 0, none⟩) z.length z.length)), (36, gB (mR s (gF z))), (37, NT .i64 z.length), (38, NT .i64 i)]) (fun (i : Nat) => [Z, nX lE B14 54 32 5 (eS bB (qA (fun i => tab z.length fun j => gm (gF z) i j - gm (mR s (gF z)) i j) (fun i => tab z.length fun j => gm (gF z) i j) z.length i))]) 0 (Nat.zero_le _)
   (aQ rfl (aQ rfl (aZ rfl (jY (hX.1.trans hsl)) (zS rfl)))) (aU (fun _ _ _ h=>h) (aU (eH (by rw [← qZ]; exact congrArg _ (wR hD))) aY)) (fun i hi=>?_)
  refine ts (ro rfl (gX (Ht rfl) (Ht rfl)) (eX (cK (dQ (Ht rfl) (fun he=>?_) (fun he=>?_)))))
  ·simp only [decide_eq_true_eq] at he
   have hxr:=hX.row (i:=i) zo
   refine sY 1 (i) rfl (Am he) (fun v hv=>(cU (cK (eG (ts (rm rfl (ro rfl (dZ U_78 Z_54 (Ht rfl) (Ht rfl) rfl (dY (dU (d:=[]) (by rw [hX.1]; omega)))) ?_)))))))
   refine ro rfl (dJ A_54 Z_54 (Ht rfl)) (ra rfl (ra rfl (eX (ts (rm rfl (ro rfl (dG U_54 (Ht rfl) aA) (ro rfl (cX (cJ 0)) (eX (eG ?_)))))))))
   refine fD (fun (j : Nat) => j ≤ z.length) (fun (j : Nat) => z.length - j) (fun (j : Nat) => [(3, Is (.slice (some ⟨B14, 0, none⟩) z.length z.length)), (7, NT .i64 i), (8, fF ((mR s (gF z)).getD i [])), (36, gB (mR s (gF z))), (37, NT .i64 z.length), (38, NT .i64 i), (44, NT .i64 z.length), (45, NT .i64 j)]) (fun (j : Nat) => [Z, tL lE B14 54 32 5 (eS bB (qA (fun i => tab z.length fun j => gm (gF z) i j - gm (mR s (gF z)) i j) (fun i => tab z.length fun j => gm (gF z) i j) z.length i)) i v, bN 32 5 v ((qA (fun j => gm (gF z) i j - gm (mR s (gF z)) i j) (fun j => gm (gF z) i j) z.length j).map bB)]) 0 (Nat.zero_le _)
    (aQ rfl (aQ rfl (aQ rfl (aQ rfl (aQ rfl (aQ rfl (aZ rfl (jY (hxr.trans hsl)) (zS rfl)))))))) (aU (fun _ _ _ h=>h) (aU (fun _ _ _ h=>h) (aU (dI (by rw [← qZ])) aY))) (fun j hj=>?_)
   refine ts (ro rfl (gX (Ht rfl) (Ht rfl)) (eX (cK (dQ (Ht rfl) (fun hf=>?_) (fun hf=>?_)))))
   ·simp only [decide_eq_true_eq] at hf
    have hrl:=mV (fun j=>gm (gF z) i j - gm (mR s (gF z)) i j) (fun j=>gm (gF z) i j) z.length j
    haveI f1:aH (gm (gF z) i j) L:=hDf.get hL1 i j
    haveI f2:aH (gm (mR s (gF z)) i j) (200 * L + 300):=hXf.get zo i j
    refine cU (cK (eG (ts (rm rfl (ra rfl (eX (fZ (m:=18) (dp 3 rfl (cX (Ht rfl)) (dp 7 rfl (cX (Ht rfl)) (cL 48 0 49 1 rfl (fY U_78 Z_54 (Ht rfl) (Ht rfl) rfl zo (by rw [Nat.mul_one,Nat.zero_add])) ?_))))))))))
    refine dq 50 2 rfl (oS A_54 Z_54 (Ht rfl) (j:=1) rfl) (dp 9 rfl (cX (Ht rfl)) (dp 3 rfl (cX (Ht rfl)) (dp 7 rfl (cX (Ht rfl)) (cL 53 5 54 6 rfl (fY U_78 Z_54 (Ht rfl) (Ht rfl) rfl zo (by rw [Nat.mul_one,Nat.zero_add])) ?_))))
    refine dq 55 7 rfl (oS A_54 Z_54 (Ht rfl) (j:=1) rfl) (dp 9 rfl (cX (Ht rfl)) (cL 56 8 57 9 rfl (gU U_54 Z_32 (Ht rfl) (Ht rfl) rfl (i:=2) rfl (by simp only [List.length_map,hrl]; omega) rfl) ?_))
    refine dq 58 10 rfl (uP A_32 Z_32 (Ht rfl) (i:=2) rfl rfl (dY (yF hf))) (dq 59 11 rfl (eI fO (Ht rfl)) (dp 8 rfl (cX (Ht rfl)) (dp 9 rfl (cX (Ht rfl)) (cL 61 13 62 14 rfl (dZ U_54 Z_32 (Ht rfl) (Ht rfl) rfl (dY (dU (d:=Qi.zero) (by rw [hxr]; omega)))) ?_))))
    refine dq 63 15 rfl (dJ A_32 Z_32 (Ht rfl)) (cL 60 12 64 16 rfl (dH pZ K_32 (pK zo) (Ht rfl) ⟨(Ht rfl),trivial⟩) (fV aR rfl (by kernel_rfl) (zF (zF (zF (zF (aJ (aJ (aV (ro rfl (gU U_54 Z_32 (Ht rfl) (Ht rfl) rfl (i:=2) rfl (by simp only [List.length_map,hrl]; omega) rfl) ?_))))))))))
    refine sW Z_32 (Ht rfl) (Ht rfl) (El.ag rfl) (i:=2) rfl rfl (by simp only [List.length_map,hrl]; omega) rfl ?_
    refine eX (bF (cY (ro rfl (dV (Ht rfl) (cJ 1) z6) (rm rfl (eX (fU (j + 1) hf zo (zS rfl) (aU (fun _ _ _ h=>h) (aU (fun _ _ _ h=>h) (aU (dI (by rw [nA,← tN (f:=fun j=>gm (gF z) i j - gm (mR s (gF z)) i j)])) aY)))))))))
   ·simp only [decide_eq_false_iff_not] at hf
    obtain rfl:j = z.length:=Nat.le_antisymm hj zo
    refine gV rfl (bF (kO 1 2 rfl rfl (by decide) (by simp only [eS,List.length_map,mV]; omega) ?_))
    refine cY (ro rfl (dV (Ht rfl) (cJ 1) z6) (rm rfl (eX (gE [0,1] rfl (by decide) (fU (i + 1) he zo (zS rfl) (aU (fun _ _ _ h=>h) (aU (eH (by rw [lX,tM,← tN (f:=(fun i=>tab z.length fun j=>gm (gF z) i j - gm (mR s (gF z)) i j))])) aY)))))))
  ·simp only [decide_eq_false_iff_not] at he
   obtain rfl:i = z.length:=Nat.le_antisymm hi zo
   refine gV rfl (ts (rm rfl (ra rfl (eX ?_))))
   exact mP B14 trivial [0,1] ⟨⟨_,rfl,fun _ _ _ h=>h⟩,⟨_,rfl,(eH (by rw [tM]; rfl))⟩,trivial⟩ (by decide) (Ct rfl (eU rfl))
theorem a0Z {z:List Qi} {s:List (List Qi)} {t:Qi} {L:Nat} (hz:fM z L) (hs:cD s L) (ht:aH t L) (hL1:1 ≤ L) (hL:L ≤ 10000000) (hsh:iR s z.length z.length) (hl1:1 ≤ z.length) (hl:z.length ≤ 8):bA Tryz.prog 100 [pG z s,bB t] (eL [nM (sU (sR t) z) (sU (sR t) s) (sU (sR t) (Se t (oD z s) z.length)),aM .i64 (sR t)]):=by
 haveI:=ht
 have hOs:=Rj z s
 have hOf:=Fn hz hs hL1 hl
 refine bA.intro Tryz.func100 rfl Tryz.ntmps100 rfl (fun cx=>(ts (rn rfl (fG (Ht rfl)) fun B2=>(rn rfl (fG (Ht rfl)) fun B3=>(rn rfl (eW (Ts:=[Is (.slice none 0 0),Is (.slice none 0 0),Is (.slice none 0 0)]) O_84 rfl (fun V=>aW zd (aW zd (aW zd (aG))))) fun B4=>(ro rfl (cQ (cJ 0)) (eX (cK (ts (ro rfl (eJ A_32 Z_32 (Ht rfl) (i:=1) rfl rfl rfl) (ro rfl (cZ Tryz.call79 (a04 zo) ⟨(Ht rfl),trivial⟩) (ro rfl (eM (Ht rfl)) ?_))))))))))))
 refine eX (dQ (Ht rfl) (fun hb=>?_) (fun hb=>?_))
 ·have he : sR t ≠ 0 := by simp only [Bool.not_eq_true'] at hb; rw [sR, hb]; decide
  have he1:sR t = 1:=by simp only [Bool.not_eq_true'] at hb; rw [sR,hb]; rfl
  refine ts (ro rfl (aC.imp (Tm ) Mi) (gQ Z_84 (Ht rfl) (Ht rfl) rfl (i:=2) rfl (aK rfl) rfl rfl (ro rfl (cQ (cJ 1)) (eX (bC rfl (fX (fK Tryz.isAgg84 Z_84 rfl (i:=2) rfl rfl) ?_) (fX (eU rfl) ?_))))))
  ·exact (Wl he)
  ·exact (aL he1.symm)
 ·have he : sR t = 0 := by simp only [Bool.not_eq_false'] at hb; rw [sR, hb]; rfl
  refine cU (ts (ro rfl (eJ A_80 Z_80 (Ht rfl) (i:=0) rfl rfl rfl) (vV Tryz.call196 (Ol hz hs hL1 hL hsh hl1 hl) ⟨(Ht rfl),trivial⟩ rfl (fun B15 _=>(ra rfl (eX (cK (ts (rm rfl (ro rfl (jR U_78 (Ht rfl)) (ro rfl (cX (cJ 0)) (eX (eG ?_)))))))))))))
  refine fD (fun (i : Nat) => i ≤ z.length) (fun (i : Nat) => z.length - i) (fun (i : Nat) => [(2, eB B2 0), (3, eB B3 0), (4, eB B4 0), (6, Is (.slice (some ⟨B15, 0, none⟩) z.length z.length)), (16, Is (.slice (some ⟨B15, 0, none⟩) z.length z.length)), (17, NT .i64 z.length), (18, NT .i64 i)]) (fun (i : Nat) => [box B2 80 [fF z, gB s], box B3 32 [aB (decide (t.a < 0)), aD t.a.natAbs, aB (decide (t.b < 0)), aD t.b.natAbs, aD (du t)], box B4 84 [Is (.slice none 0 0), Is (.slice none 0 0), Is (.slice none 0 0)], nX lE B15 54 32 5 (eS bB (qA (fun i => tab z.length fun j => t * gm (oD z s) i j) (fun i => tab z.length fun j => gm (oD z s) i j) z.length i))]) 0 (Nat.zero_le _)
   (zS rfl) (aU (fun _ _ _ h=>h) (aU (fun _ _ _ h=>h) (aU (fun _ _ _ h=>h) (aU (eH (by rw [← qZ]; exact congrArg _ (wR hOs))) aY)))) (fun i hi=>?_)
  refine ts (ro rfl (gX (Ht rfl) (Ht rfl)) (eX (cK (dQ (Ht rfl) (fun he2=>?_) (fun he2=>?_)))))
  ·simp only [decide_eq_true_eq] at he2
   refine sY 3 (i) rfl (Am he2) (fun v hv=>(cU (cK (eG (ts (ro rfl (fY U_78 Z_54 (Ht rfl) (Ht rfl) rfl zo (by rw [Nat.mul_one,Nat.zero_add])) ?_))))))
   refine ro rfl (oS A_54 Z_54 (Ht rfl) (j:=3) rfl) (ra rfl (eX (ts (rm rfl (ro rfl (rF U_54 (Ht rfl) (i:=4) rfl (show (((tab z.length fun j=>gm (oD z s) i j).map bB).length:Int) = ((z.length:Nat):Int) by rw [List.length_map,bT])) (ro rfl (cX (cJ 0)) (eX (eG ?_))))))))
   refine fD (fun (j : Nat) => j ≤ z.length) (fun (j : Nat) => z.length - j) (fun (j : Nat) => [(2, eB B2 0), (3, eB B3 0), (4, eB B4 0), (6, Is (.slice (some ⟨B15, 0, none⟩) z.length z.length)), (8, Is v), (16, Is (.slice (some ⟨B15, 0, none⟩) z.length z.length)), (17, NT .i64 z.length), (18, NT .i64 i), (23, NT .i64 z.length), (24, NT .i64 j)]) (fun (j : Nat) => [box B2 80 [fF z, gB s], box B3 32 [aB (decide (t.a < 0)), aD t.a.natAbs, aB (decide (t.b < 0)), aD t.b.natAbs, aD (du t)], box B4 84 [Is (.slice none 0 0), Is (.slice none 0 0), Is (.slice none 0 0)], tL lE B15 54 32 5 (eS bB (qA (fun i => tab z.length fun j => t * gm (oD z s) i j) (fun i => tab z.length fun j => gm (oD z s) i j) z.length i)) i v, bN 32 5 v ((qA (fun j => t * gm (oD z s) i j) (fun j => gm (oD z s) i j) z.length j).map bB)]) 0 (Nat.zero_le _)
    (zS rfl) (aU (fun _ _ _ h=>h) (aU (fun _ _ _ h=>h) (aU (fun _ _ _ h=>h) (aU (fun _ _ _ h=>h) (aU (dI (by rw [← qZ])) aY))))) (fun j hj=>?_)
   refine ts (ro rfl (gX (Ht rfl) (Ht rfl)) (eX (cK (dQ (Ht rfl) (fun hf=>?_) (fun hf=>?_)))))
   ·simp only [decide_eq_true_eq] at hf
    have hrl:=mV (fun j=>t * gm (oD z s) i j) (fun j=>gm (oD z s) i j) z.length j
    haveI f1:aH (gm (oD z s) i j) (201 * L + 301):=hOf.get zo i j
    refine cU (cK (eG (ts (rm rfl (ra rfl (eX (fZ (m:=10) (dp 8 rfl (cX (Ht rfl)) (dp 9 rfl (cX (Ht rfl)) (dp 3 rfl (eJ A_32 Z_32 (Ht rfl) (i:=1) rfl rfl rfl) (dq 29 2 rfl (cZ Tryz.call123 Oi ⟨(Ht rfl),trivial⟩) (dq 30 3 rfl (eI fO (Ht rfl)) (dp 8 rfl (cX (Ht rfl)) (dp 9 rfl (cX (Ht rfl)) (cL 32 5 33 6 rfl (gU U_54 Z_32 (Ht rfl) (Ht rfl) rfl (i:=4) rfl (by simp only [List.length_map,hrl]; omega) rfl) ?_)))))))))))))))
    refine dq 34 7 rfl (uP A_32 Z_32 (Ht rfl) (i:=4) rfl rfl (dY (yF hf))) (cL 31 4 35 8 rfl (dH gT K_29 (lB zo) (Ht rfl) ⟨(Ht rfl),trivial⟩) (fV aR rfl (by kernel_rfl) (zF (zF (aJ (aJ (aV (ro rfl (gU U_54 Z_32 (Ht rfl) (Ht rfl) rfl (i:=4) rfl (by simp only [List.length_map,hrl]; omega) rfl) ?_))))))))
    refine sW Z_32 (Ht rfl) (Ht rfl) (El.ag rfl) (i:=4) rfl rfl (by simp only [List.length_map,hrl]; omega) rfl ?_
    refine eX (bF (cY (ro rfl (dV (Ht rfl) (cJ 1) z6) (rm rfl (eX (fU (j + 1) hf zo (zS rfl) (aU (fun _ _ _ h=>h) (aU (fun _ _ _ h=>h) (aU (fun _ _ _ h=>h) (aU (fun _ _ _ h=>h) (aU (dI (by rw [nA,← tN (f:=fun j=>t * gm (oD z s) i j)])) aY)))))))))))
   ·simp only [decide_eq_false_iff_not] at hf
    obtain rfl:j = z.length:=Nat.le_antisymm hj zo
    refine gV rfl (bF (kO 3 4 rfl rfl (by decide) (by simp only [eS,List.length_map,mV]; omega) ?_))
    refine cY (ro rfl (dV (Ht rfl) (cJ 1) z6) (rm rfl (eX (gE [0,1,2,3] rfl (by decide) (fU (i + 1) he2 zo (zS rfl) (aU (fun _ _ _ h=>h) (aU (fun _ _ _ h=>h) (aU (fun _ _ _ h=>h) (aU (eH (by rw [lX,tM,← tN (f:=(fun i=>tab z.length fun j=>t * gm (oD z s) i j))])) aY)))))))))
  ·simp only [decide_eq_false_iff_not] at he2
   obtain rfl:i = z.length:=Nat.le_antisymm hi zo
   rw [tM]
   refine gV rfl (cK (gJ (i:=3) (tt:=6) rfl rfl (mU (s:=5) (M:=(Se t (oD z s) z.length)) Fv.1.symm) (cY (ro rfl (eJ A_80 Z_80 (Ht rfl) (i:=0) rfl rfl rfl) (rm rfl (ro rfl (Gt (Ht rfl) (Ht rfl)) (gQ Z_84 (Ht rfl) (Ht rfl) rfl (i:=2) rfl (aK rfl) rfl rfl (ro rfl (cQ (cJ 0)) (eX (bC rfl (fX (fK Tryz.isAgg84 Z_84 rfl (i:=2) rfl rfl) ?_) (fX (eU rfl) ?_)))))))))))
   ·exact (Rk he)
   ·exact (aL he.symm)
end
section
open Go Go.RowKit
theorem Ja {n : Nat} {E : bL} {H : Hp} {d : Option Tmp} {t : TypeId} {pos : String} {af : Array Edge} {g : Option (Nat × Bool)}  :
  aC Tryz.prog n E H ⟨d,.build 23 #[],t,pos,af,g⟩ (dM [Is (.int .i64 0),Is (.int .i64 0),Is (.int .i64 0)]) :=
 fE (parts := []) fun a V w hs => by
  refine ⟨.agg #[(.int .i64 0),(.int .i64 0),(.int .i64 0)],?_,[(.int .i64 0),(.int .i64 0),(.int .i64 0)],rfl,aW (⟨rfl,trivial⟩) (aW (⟨rfl,trivial⟩) (aW (⟨rfl,trivial⟩) (aG)))⟩
  simp [Instr.build,Instr.fill,Sem.run_bind,Result.andThen,dT,O_23,U_23,Z_2]
theorem Dk {n : Nat} {E : bL} {H : Hp} {d : Option Tmp} {t : TypeId} {pos : String} {af : Array Edge} {g : Option (Nat × Bool)} {x0 : Operand} {T0 : Ty} [s0 : cI T0 1 false] (h0 : aS E x0 T0) :
  aC Tryz.prog n E H ⟨d,.build 23 #[(0,x0)],t,pos,af,g⟩ (dM [T0,Is (.int .i64 0),Is (.int .i64 0)]) :=
 fE (parts := [(0, x0)]) fun a V w hs => by
  have p0:=h0 n V a hs
  generalize e0:a.eval x0 = v0 at p0
  have q0:=(s0.ok v0 V p0).2.2 rfl
  refine ⟨.agg #[v0,(.int .i64 0),(.int .i64 0)],?_,[v0,(.int .i64 0),(.int .i64 0)],rfl,aW (⟨p0,q0⟩) (aW (⟨rfl,trivial⟩) (aW (⟨rfl,trivial⟩) (aG)))⟩
  simp [e0,Instr.build,Instr.fill,Sem.run_bind,Result.andThen,dT,q0.cells,O_23,U_23,Z_2]
theorem Gr {n : Nat} {E : bL} {H : Hp} {d : Option Tmp} {t : TypeId} {pos : String} {af : Array Edge} {g : Option (Nat × Bool)} {x0 x2 : Operand} {T0 T2 : Ty} [s0 : cI T0 1 false] (h0 : aS E x0 T0) [s2 : cI T2 1 false] (h2 : aS E x2 T2) :
  aC Tryz.prog n E H ⟨d,.build 23 #[(0,x0),(2,x2)],t,pos,af,g⟩ (dM [T0,Is (.int .i64 0),T2]) :=
 fE (parts := [(0, x0), (2, x2)]) fun a V w hs => by
  have p0:=h0 n V a hs
  generalize e0:a.eval x0 = v0 at p0
  have q0:=(s0.ok v0 V p0).2.2 rfl
  have p2:=h2 n V a hs
  generalize e2:a.eval x2 = v2 at p2
  have q2:=(s2.ok v2 V p2).2.2 rfl
  refine ⟨.agg #[v0,(.int .i64 0),v2],?_,[v0,(.int .i64 0),v2],rfl,aW (⟨p0,q0⟩) (aW (⟨rfl,trivial⟩) (aW (⟨p2,q2⟩) (aG)))⟩
  simp [e0,e2,Instr.build,Instr.fill,Sem.run_bind,Result.andThen,dT,q0.cells,q2.cells,O_23,U_23,Z_2]
end
section
open Go Go.RowKit
theorem tC  : bA Tryz.prog 22 [] (aB true):=by
 refine bA.intro Tryz.func22 rfl Tryz.ntmps22 rfl (fun cx=>(ts (ro rfl (cQ cV) (eX (ts (ro rfl (Gr cV cV) (rn rfl (eW (Ts:=[Is (.int .i64 0),Is (.int .i64 0),Is (.int .i64 0)]) O_23 rfl (fun V=>aW zd (aW zd (aW zd (aG))))) fun B1=>(gQ Z_23 (Ht rfl) (Ht rfl) rfl (i:=0) rfl (aK rfl) rfl rfl (eX (cK (Y.D_start (m:=18) [] (bY (Ei:=[]) rfl rfl bX rfl rfl (dX rfl (Dk cV)) (bY (Ei:=[]) rfl rfl bX rfl rfl (dX rfl (Dk cV)) ?_)))))))))))))
 refine bY (Ei:=[(12,_),(13,_)]) rfl rfl (bQ (bZ 0 rfl rfl) (bQ (bZ 1 rfl rfl) bX)) rfl rfl (dX rfl (bP (xs:=[.tmp 12,.tmp 13]) U_77 Z_23 O_23 (cW (Ht rfl) (cW (Ht rfl) cG)) rfl rfl rfl)) (bY (Ei:=[(14,_)]) rfl rfl (bQ (bZ 2 rfl rfl) bX) rfl rfl (dX rfl (cZ Tryz.call50 (Ad (l:=[r50,r50]) (by decide)) ⟨(Ht rfl),trivial⟩)) (bY (Ei:=[]) rfl rfl bX rfl rfl (dX rfl (Ja )) (bY (Ei:=[(1,_)]) rfl rfl (bQ (bJ rfl rfl) bX) rfl rfl (dX rfl (eJ A_23 Z_23 (Ht rfl) (i:=0) rfl rfl rfl)) ?_)))
 refine bY (Ei:=[(16,_),(17,_)]) rfl rfl (bQ (bZ 4 rfl rfl) (bQ (bZ 5 rfl rfl) bX)) rfl rfl (dX rfl (bP (xs:=[.tmp 16,.tmp 17]) U_77 Z_23 O_23 (cW (Ht rfl) (cW (Ht rfl) cG)) rfl rfl rfl)) (bY (Ei:=[(1,_)]) rfl rfl (bQ (bJ rfl rfl) bX) rfl rfl (dX rfl (eJ A_23 Z_23 (Ht rfl) (i:=0) rfl rfl rfl)) (bY (Ei:=[]) rfl rfl bX rfl rfl (dX rfl (Ja )) (bY (Ei:=[(19,_),(20,_)]) rfl rfl (bQ (bZ 7 rfl rfl) (bQ (bZ 8 rfl rfl) bX)) rfl rfl (dX rfl (bP (xs:=[.tmp 19,.tmp 20]) U_77 Z_23 O_23 (cW (Ht rfl) (cW (Ht rfl) cG)) rfl rfl rfl)) ?_)))
 refine bY (Ei:=[(18,_),(21,_)]) rfl rfl (bQ (bZ 6 rfl rfl) (bQ (bZ 9 rfl rfl) bX)) rfl rfl (dX rfl (bP (xs:=[.tmp 18,.tmp 21]) U_181 Tryz.sizeOf77 Tryz.zeroValue77 (cW (Ht rfl) (cW (Ht rfl) cG)) rfl rfl rfl)) (bY (Ei:=[(22,_)]) rfl rfl (bQ (bZ 10 rfl rfl) bX) rfl rfl (dX rfl (cZ Tryz.call99 (Lo (m:=[[Wo,Kx],[Kx,Wo]]) (by decide) (by intro r hr; simp at hr; rcases hr with rfl | rfl <;> decide)) ⟨(Ht rfl),trivial⟩)) ?_)
 refine bY (Ei:=[(15,_),(23,_)]) rfl rfl (bQ (bZ 3 rfl rfl) (bQ (bZ 11 rfl rfl) bX)) rfl rfl (dX rfl (cZ Tryz.call98 (eQ (Oh (z:=uF) (s:=zM) (L:=2) Ix (by decide) (by decide) (by decide)) Zm) ⟨(Ht rfl),(Ht rfl),trivial⟩)) (bY (Ei:=[(24,_)]) rfl rfl (bQ (bZ 12 rfl rfl) bX) rfl rfl (dX rfl (cX (Ht rfl))) (bY (Ei:=[(11,_)]) rfl rfl (bQ (bZ 13 rfl rfl) bX) rfl rfl (dX rfl (dK (Ht rfl) rfl)) (bY (Ei:=[(11,_)]) rfl rfl (bQ (bZ 13 rfl rfl) bX) rfl rfl (dX rfl (dK (Ht rfl) rfl)) ?_)))
 refine Y.D_newp (Ei:=[]) (fun bb=>box bb 80 [fF uF,gB zM]) 17 rfl rfl rfl bX rfl rfl (by kernel_rfl) (eW (Ts:=[Is (.slice none 0 0),Is (.slice none 0 0)]) O_80 rfl (fun V=>aW zd (aW zd (aG)))) (Y.D_putN (Ei:=[(25,_)]) 16 rfl rfl rfl rfl rfl rfl (bQ (bZ 14 rfl rfl) bX) (fun bb=>sV Z_80 (Ht rfl) (Ht rfl) rfl (i:=0) rfl (aK rfl) rfl rfl) (Y.D_done aR rfl (by kernel_rfl) rfl (by simp [Y.okP]) rfl rfl (bU (bU (bU (bU (bU (bU (bU (bU (bU (bU (bU (bU (bU (bU (bU (bU (Y.F_newp (fun B2=>Y.F_putN (Y.F_nil ?_)))))))))))))))))))))
 refine ra rfl (eX (cK (Y.D_start (m:=8) [] (bY (Ei:=[(2,_)]) rfl rfl (bQ (bJ rfl rfl) bX) rfl rfl (dX rfl (eJ A_80 Z_80 (Ht rfl) (i:=1) rfl rfl rfl)) (bY (Ei:=[]) rfl rfl bX rfl rfl (dX rfl (cZ K_36 (oY (n:=290) (by decide) (by decide)) ⟨(cJ 290),trivial⟩)) (bY (Ei:=[(28,_),(29,_)]) rfl rfl (bQ (bZ 0 rfl rfl) (bQ (bZ 1 rfl rfl) bX)) rfl rfl (dX rfl (cZ Tryz.call100 (eQ (a0Z (z:=uF) (s:=zM) (t:=Qi.ofInt 290) (L:=2) Ix Nr Ns (by decide) (by decide) Nt (by decide) (by decide)) Zn) ⟨(Ht rfl),(Ht rfl),trivial⟩)) ?_))))))
 refine bY (Ei:=[(30,_)]) rfl rfl (bQ (bZ 2 rfl rfl) bX) rfl rfl (dX rfl (cX (Ht rfl))) (bY (Ei:=[(27,_)]) rfl rfl (bQ (bZ 3 rfl rfl) bX) rfl rfl (dX rfl (dK (Ht rfl) rfl)) (bY (Ei:=[(27,_)]) rfl rfl (bQ (bZ 3 rfl rfl) bX) rfl rfl (dX rfl (dK (Ht rfl) rfl)) (Y.D_newp (Ei:=[]) (fun bb=>box bb 84 [fF uF,gB zM,gB Aa]) 7 rfl rfl rfl bX rfl rfl (by kernel_rfl) (eW (Ts:=[Is (.slice none 0 0),Is (.slice none 0 0),Is (.slice none 0 0)]) O_84 rfl (fun V=>aW zd (aW zd (aW zd (aG))))) ?_)))
 refine Y.D_putN (Ei:=[(31,_)]) 6 rfl rfl rfl rfl rfl rfl (bQ (bZ 4 rfl rfl) bX) (fun bb=>sV Z_84 (Ht rfl) (Ht rfl) rfl (i:=0) rfl (aK rfl) rfl rfl) (Y.D_done aR rfl (by kernel_rfl) rfl (by simp [Y.okP]) rfl rfl (bU (bU (bU (bU (bU (bU (Y.F_newp (fun B4=>Y.F_putN (Y.F_nil ?_))))))))))
 refine ra rfl (eX (ts (ro rfl (eJ Tryz.isAgg84 Z_84 (Ht rfl) (i:=2) rfl rfl rfl) (ro rfl (cZ Tryz.call42 (eQ (Ua (z:=uF) (s:=zM) (c:=Aa) (i:=((2:Nat):Int)) (j:=((2:Nat):Int)) Zk (by rw [Iw.1]; decide)) a0O) ⟨(Ht rfl),(cJ 2),(cJ 2),trivial⟩) ?_))))
 refine rm rfl (ro rfl (dK (Ht rfl) rfl) (ro rfl (dK (Ht rfl) rfl) (rn rfl (eW (Ts:=[Is (.bool false),Is (.slice none 0 0),Is (.bool false),Is (.slice none 0 0),Is (.slice none 0 0)]) O_32 rfl (fun V=>aW zd (aW zd (aW zd (aW zd (aW zd (aG))))))) fun B6=>(gQ Z_32 (Ht rfl) (Ht rfl) rfl (i:=3) rfl (aK rfl) rfl rfl (ra rfl (eX (cK (Y.D_start (m:=9) [] (bY (Ei:=[(4,_)]) rfl rfl (bQ (bJ rfl rfl) bX) rfl rfl (dX rfl (eJ Tryz.isAgg84 Z_84 (Ht rfl) (i:=2) rfl rfl rfl)) ?_)))))))))
 refine bY (Ei:=[]) rfl rfl bX rfl rfl (dX rfl (cZ K_36 (oY (n:=0) (by decide) (by decide)) ⟨(cJ 0),trivial⟩)) (bY (Ei:=[]) rfl rfl bX rfl rfl (dX rfl (cZ K_36 (oY (n:=290) (by decide) (by decide)) ⟨(cJ 290),trivial⟩)) (bY (Ei:=[(39,_),(40,_),(41,_)]) rfl rfl (bQ (bZ 0 rfl rfl) (bQ (bZ 1 rfl rfl) (bQ (bZ 2 rfl rfl) bX))) rfl rfl (dX rfl (cZ Tryz.call44 (eQ (Oa (z:=uF) (s:=zM) (c:=Aa) (g:=Qi.ofInt 0) (t0:=Qi.ofInt 290) (L:=1000) (Ix.le (by decide)) (Nr.le (by decide)) a0Q (a0P.le (by decide)) (Ns.le (by decide)) (by decide) (by decide) Nt Iw (by decide)) Zl) ⟨(Ht rfl),(Ht rfl),(Ht rfl),trivial⟩)) ?_))
 refine bY (Ei:=[(42,_)]) rfl rfl (bQ (bZ 3 rfl rfl) bX) rfl rfl (dX rfl (cX (Ht rfl))) (bY (Ei:=[(38,_)]) rfl rfl (bQ (bZ 4 rfl rfl) bX) rfl rfl (dX rfl (dK (Ht rfl) rfl)) (bY (Ei:=[(38,_)]) rfl rfl (bQ (bZ 4 rfl rfl) bX) rfl rfl (dX rfl (dK (Ht rfl) rfl)) (Y.D_newp (Ei:=[]) (fun bb=>box bb 32 [aB (decide ((Qi.ofInt 4).a < 0)),aD (Qi.ofInt 4).a.natAbs,aB (decide ((Qi.ofInt 4).b < 0)),aD (Qi.ofInt 4).b.natAbs,aD (du (Qi.ofInt 4))]) 8 rfl rfl rfl bX rfl rfl (by kernel_rfl) (eW (Ts:=[Is (.bool false),Is (.slice none 0 0),Is (.bool false),Is (.slice none 0 0),Is (.slice none 0 0)]) O_32 rfl (fun V=>aW zd (aW zd (aW zd (aW zd (aW zd (aG))))))) ?_)))
 refine Y.D_putN (Ei:=[(43,_)]) 7 rfl rfl rfl rfl rfl rfl (bQ (bZ 5 rfl rfl) bX) (fun bb=>sV Z_32 (Ht rfl) (Ht rfl) rfl (i:=0) rfl (aK rfl) rfl rfl) (Y.D_done aR rfl (by kernel_rfl) rfl (by simp [Y.okP]) rfl rfl (bU (bU (bU (bU (bU (bU (bU (Y.F_newp (fun B8=>Y.F_putN (Y.F_nil ?_)))))))))))
 refine ra rfl (eX (ts (rm rfl (ro rfl (kB (Ht rfl) cV) (rm rfl (fQ rfl rfl (eK rfl rfl (Ht rfl) (fun h=>cX (Ht rfl))) (fQ rfl rfl (eK rfl rfl (Ht rfl) (fun h=>kB (fJ rfl h) cV)) (ro rfl (cO (Ht rfl) (fun h=>(fJ rfl h))) (rm rfl (fQ rfl rfl (eK rfl rfl (Ht rfl) (fun h=>cX (Ht rfl))) (fQ rfl rfl (eK rfl rfl (Ht rfl) (fun h=>kB (fJ rfl h) cV)) (ro rfl (cO (Ht rfl) (fun h=>(fJ rfl h))) (rm rfl (fQ rfl rfl (eK rfl rfl (Ht rfl) (fun h=>cX (Ht rfl))) (fQ rfl rfl (eK rfl rfl (Ht rfl) (fun h=>kB (fJ rfl h) cV)) ?_)))))))))))))))
 refine ro rfl (cO (Ht rfl) (fun h=>(fJ rfl h))) (rm rfl (fQ rfl rfl (eK rfl rfl (Ht rfl) (fun h=>eJ A_32 Z_32 (Ht rfl) (i:=3) rfl rfl rfl)) (fQ rfl rfl (eK rfl rfl (Ht rfl) (fun h=>cZ Tryz.call92 (Gz (x:=Qi.ofInt 10875) (L:=2) (hx:=(@fitInt 10875).le (by decide)) (by decide)) ⟨(fJ rfl h),trivial⟩)) (fQ rfl rfl (eK rfl rfl (Ht rfl) (fun h=>Hx (fJ rfl h) (aS.cS (l:=[49,48,56,55,53]) rfl))) (ro rfl (cO (Ht rfl) (fun h=>(fJ rfl h))) (rm rfl (fQ rfl rfl (eK rfl rfl (Ht rfl) (fun h=>eJ A_32 Z_32 (Ht rfl) (i:=4) rfl rfl rfl)) ?_)))))))
 refine fQ rfl rfl (eK rfl rfl (Ht rfl) (fun h=>cZ Tryz.call92 (Gz (x:=Qi.ofInt 4) (L:=2) (hx:=(@fitInt 4).le (by decide)) (by decide)) ⟨(fJ rfl h),trivial⟩)) (fQ rfl rfl (eK rfl rfl (Ht rfl) (fun h=>Hx (fJ rfl h) (aS.cS (l:=[52]) rfl))) (ro rfl (cO (Ht rfl) (fun h=>(fJ rfl h))) (ra rfl (eX (fW rfl (fX (eU rfl) ?_))))))
 exact (fA (by rw [a0R,a0S]; rfl))
end
section
open Go Go.RowKit
theorem Qi.zero_div (y:Qi):Qi.zero / y = Qi.zero:=by rw [Qi.div_def,Qi.zero_mul']
theorem pos_re {x:Qi} (h:jU x = true):x.im = 0 ∧ x.re ≠ 0:=by
 simp only [jU,decide_eq_true_eq] at h
 exact ⟨Qi.b_zero.1 h.1,fun e=>by have:=Qi.a_zero.2 e; omega⟩
end
section
open Go Go.RowKit
namespace Qi
theorem Di {x:Qi}:0 ≤ x.a ↔ 0 ≤ x.re:=by
 have hk:0 < x.den / x.re.den:=Nat.div_pos (Nat.le_of_dvd x.den_pos (Nat.dvd_lcm_left _ _)) x.re.den_pos
 rw [← Rat.num_nonneg]
 show 0 ≤ x.re.num * ((x.den / x.re.den:Nat):Int) ↔ _
 generalize x.den / x.re.den = k at hk
 constructor
 ·intro h
  exact Int.nonneg_of_mul_nonneg_left h zo
 ·intro h; exact Int.mul_nonneg h zo
theorem a_neg {x:Qi}:x.a < 0 ↔ x.re < 0:=by
 have:=@Di x
 constructor
 ·intro h; rcases Rat.not_le.1 (fun k=>by have:=this.2 k; omega) with h; exact h
 ·intro h; exact Int.not_le.1 fun k=>Rat.not_le.2 h (this.1 k)
theorem a_pos {x:Qi}:0 < x.a ↔ 0 < x.re:=by
 have h1:=@Di x; have h2:=@a_zero x
 constructor
 ·intro h
  have h3:0 ≤ x.re:=h1.1 zo
  have h4:x.re ≠ 0:=fun e=>by have:=h2.2 e; omega
  exact Rat.lt_of_le_of_ne h3 (Ne.symm h4)
 ·intro h
  have h3:0 ≤ x.a:=h1.2 (by grind)
  have h4:x.a ≠ 0:=fun e=>by have:=h2.1 e; grind
  omega
theorem sub_im0 {x y:Qi} (hx:x.b = 0) (hy:y.b = 0):(x - y).im = 0:=by
 show x.im - y.im = 0
 rw [b_zero.1 hx,b_zero.1 hy]; grind
end Qi
theorem Ov {m n:Int} (h1:m < 0 ↔ n < 0) (h2:0 < m ↔ 0 < n):gY m 0 = gY n 0:=by
 unfold gY
 by_cases a:m < 0
 ·rw [if_pos a,if_pos (h1.1 a)]
 ·rw [if_neg a, if_neg (fun k => a (h1.2 k))]
  by_cases b:0 < m
  ·rw [if_pos b,if_pos (h2.1 b)]
  ·rw [if_neg b,if_neg (fun k=>b (h2.2 k))]
theorem Ow (m n:Int):gY m n = gY (m - n) 0:=by
 unfold gY
 by_cases a:m < n
 ·rw [if_pos a,if_pos zo]
 ·rw [if_neg a, if_neg (by omega : ¬ m - n < 0)]
  by_cases b:n < m
  ·rw [if_pos b,if_pos zo]
  ·rw [if_neg b,if_neg zo]
def vQ (x y:Qi):Int:=gY (x - y).a 0
theorem Jq {x y:Qi}:vQ x y < 0 ↔ x.re < y.re:=by
 rw [vQ,Ou,Qi.a_neg]; show x.re - y.re < 0 ↔ _; constructor <;> intro h <;> grind
theorem Bt {x y:Qi}:0 < vQ x y ↔ y.re < x.re:=by
 rw [vQ,xP,Qi.a_pos]; show 0 < x.re - y.re ↔ _; constructor <;> intro h <;> grind
theorem Bu {x y:Qi}:vQ x y ≤ 0 ↔ x.re ≤ y.re:=by
 have:=@Bt x y
 constructor
 ·intro h; exact Rat.not_lt.1 fun k=>by have:=this.2 k; omega
 ·intro h; exact Int.not_lt.1 fun k=>Rat.not_lt.2 h (this.1 k)
theorem mJ {x y:Qi} (hx:x.b = 0) (hy:y.b = 0):kR x y = vQ x y:=by
 have e2:gY (x.b * y.den) (y.b * x.den) = 0:=by rw [hx,hy]; simp [gY]
 have h0 : x - y = Qi.mk' (x.a * y.den + -y.a * x.den) (x.b * y.den + -y.b * x.den) (x.den * y.den) := by
  obtain ⟨n1,n2,n3⟩:=Qi.neg_a y
  rw [Qi.sub_def,← Qi.mk_add,n1,n2,n3]
 obtain ⟨k,hk,_,h2,_⟩:=Qi.mk_scale (x.a * y.den + -y.a * x.den) (x.b * y.den + -y.b * x.den) (Nat.mul_pos x.den_pos y.den_pos)
 rw [← h0] at h2
 have e1 : gY (x.a * y.den) (y.a * x.den) = vQ x y := by
  rw [Ow,vQ]
  have e:x.a * y.den - y.a * x.den = (x - y).a * k:=by rw [← h2,Int.neg_mul]; omega
  rw [e]
  refine Ov ?_ ?_
  ·constructor
   ·intro h; exact Int.not_le.1 fun g=>by have:=Int.mul_nonneg g (by omega:(0:Int) ≤ k); omega
   ·intro h; exact Int.mul_neg_of_neg_of_pos h zo
  ·constructor
   ·intro h; exact Int.not_le.1 fun g=>by have:=Int.mul_nonpos_of_nonpos_of_nonneg g (by omega:(0:Int) ≤ k); omega
   ·intro h; exact Int.mul_pos h zo
 unfold kR
 rw [e1,e2]
 by_cases h:vQ x y ≠ 0
 ·rw [if_pos h]
 ·rw [if_neg h]; exact (Decidable.not_not.1 h).symm
def Cr (x y:Qi):Int:=if gY (x - y).a 0 ≠ 0 then gY (x - y).a 0 else gY (x - y).imp.a 0
theorem uQ {x y:Qi} (hx:x.b = 0) (hy:y.b = 0):Cr x y = vQ x y:=by
 have e:(x - y).imp.a = 0:=Qi.a_zero.2 (Qi.sub_im0 hx hy)
 unfold Cr vQ
 rw [e]
 by_cases h:gY (x - y).a 0 ≠ 0
 ·rw [if_pos h]
 ·rw [if_neg h,Decidable.not_not.1 h]; rfl
def lZ (f : Nat → Int) : Nat → Int
 | 0=>0
 | n + 1=>if lZ f n ≠ 0 then lZ f n else f n
theorem Lz {f:Nat → Int} {k:Nat} (h:∀ i,i < k → f i = 0) (hk:f k ≠ 0):∀ {n:Nat},k < n → lZ f n = f k:=by
 have hz : lZ f k = 0 := by
  clear hk
  induction k with
  | zero=>rfl
  | succ k ih=>rw [lZ,ih (fun i hi=>h i zo),if_neg (by simp),h k zo]
 intro n
 induction n with
 | zero=>intro h; omega
 | succ n ih =>
  intro hn
  by_cases e:n = k
  ·rw [e,lZ,hz,if_neg (by simp)]
  ·rw [lZ,ih zo,if_pos hk]
theorem vB {f : Nat → Int} : ∀ {n : Nat}, (∀ i, i < n → f i = 0) → lZ f n = 0
 | 0,_=>rfl
 | n + 1,h=>by rw [lZ,vB (fun i hi=>h i zo),if_neg (by simp),h n zo]
theorem vC {f : Nat → Int} : ∀ {n : Nat}, lZ f n = 0 → ∀ i, i < n → f i = 0
 | 0,_,i,hi=>by omega
 | n + 1, h, i, hi => by
  rw [lZ] at h
  split at h
  ·rename_i c; exact absurd h c
  ·rename_i c
   by_cases e:i = n
   ·rw [e]; exact h
   ·exact vC (Decidable.not_not.1 c) i zo
abbrev eF (l:List (Qi × Qi)) (i:Nat):Qi:=(l.getD i (Qi.zero,Qi.zero)).1
abbrev eV (l:List (Qi × Qi)) (i:Nat):Qi:=(l.getD i (Qi.zero,Qi.zero)).2
structure Xr (l:List (Qi × Qi)) (f:Qi):Prop where
 real:∀ i,i < l.length → (eF l i).b = 0 ∧ (eV l i).b = 0
 up:∀ i,0 < i → i < l.length → (eF l (i - 1)).re < (eF l i).re
 fr:f.b = 0
theorem a0w {x:Qi} (h:jU x = true):x.b = 0:=by simp only [jU,decide_eq_true_eq] at h; exact h.1
theorem Xr.mono {l : List (Qi × Qi)} {f : Qi} (h : Xr l f) {i : Nat} : ∀ {j : Nat}, i < j → j < l.length → (eF l i).re < (eF l j).re
 | 0,h1,_=>by omega
 | j + 1, h1, h2 => by
  have h3:=h.up (j + 1) zo h2
  rw [Nat.add_sub_cancel] at h3
  by_cases e:i = j
  ·rw [e]; exact h3
  ·have := h.mono (i := i) (j := j) zo zo
   grind
theorem Pv {l:List (Qi × Qi)} {i:Nat} {e:Qi × Qi} (h:l[i]? = some e):l.getD i (Qi.zero,Qi.zero) = e:=by simp [List.getD,h]
theorem Ih {l:List (Qi × Qi)} {i:Nat} (h:i < l.length):l[i]? = some (l.getD i (Qi.zero,Qi.zero)):=by simp [List.getD,h]
theorem Qi.sub_ne {x y : Qi} (h : x.re ≠ y.re) : x - y ≠ Qi.zero := fun e => h (by
 have:(x - y).re = 0:=by rw [e]; rfl
 have h2:x.re - y.re = 0:=this
 grind)
theorem Pz {α β:Type} (g:α → β) (p:β → Bool) (l:List α):pD p (l.map g) = pD (fun x=>p (g x)) l:=by
 unfold pD; rw [List.findIdx?_map]; rfl
theorem Vc {α:Type} (p:α → Bool) (l:List α):-1 ≤ pD p l:=by
 unfold pD; split <;> omega
def a0I (l:List (Qi × Qi)) (L:Nat):Prop:=∀ e,e ∈ l → aH e.1 L ∧ aH e.2 L
theorem a0I.get {l:List (Qi × Qi)} {L:Nat} (h:a0I l L) (hL:1 ≤ L) (i:Nat):aH (eF l i) L ∧ aH (eV l i) L:=by
 by_cases hi:i < l.length
 ·have e : l.getD i (Qi.zero, Qi.zero) = l[i] := by simp [List.getD, hi]
  show aH (l.getD i _).1 L ∧ aH (l.getD i _).2 L
  rw [e]; exact h _ (List.getElem_mem hi)
 ·have e : l.getD i (Qi.zero, Qi.zero) = (Qi.zero, Qi.zero) := by simp [List.getD, List.getElem?_eq_none (Nat.le_of_not_lt hi)]
  show aH (l.getD i _).1 L ∧ aH (l.getD i _).2 L
  rw [e]; exact ⟨aH.zero hL,aH.zero hL⟩
end
section
open Go Go.RowKit
abbrev Gi (e:Qi × Qi):Ty:=dM [aB (decide (e.1.a < 0)),aD e.1.a.natAbs,aB (decide (e.1.b < 0)),aD e.1.b.natAbs,aD (du e.1),aB (decide (e.2.a < 0)),aD e.2.a.natAbs,aB (decide (e.2.b < 0)),aD e.2.b.natAbs,aD (du e.2)]
abbrev Xl (l:List (Qi × Qi)):Ty:=lA 10 (l.map Gi)
theorem Tu {x:Qi} {L:Nat} [hx:aH x L] (h:L ≤ 8796093022208):bA Tryz.prog 94 [bB x] (aB (jU x)):=by
 refine bA.intro Tryz.func94 rfl Tryz.ntmps94 rfl (fun cx=>(ts (rn rfl (fG (Ht rfl)) fun B1=>(ro rfl (cQ cV) (eX (cK (fZ (m:=5) (dp 1 rfl (eJ A_32 Z_32 (Ht rfl) (i:=0) rfl rfl rfl) (dq 3 0 rfl (cZ K_35 uG ⟨(Ht rfl),trivial⟩) (dq 4 1 rfl (cX (Ht rfl)) (C.D_step (Ei:=[(1,_),(5,_)]) rfl rfl (bV (bK rfl rfl) (bV (bG 2 rfl rfl) bW)) (eK rfl rfl (Ht rfl) (fun h=>eJ A_32 Z_32 (Ht rfl) (i:=0) rfl rfl rfl)) (C.D_step (Ei:=[(5,_)]) rfl rfl (bV (bG 2 rfl rfl) bW) (eK rfl rfl (Ht rfl) (fun h=>cZ K_36 (oY (n:=0) (by decide) (by decide)) ⟨(cJ 0),trivial⟩)) ?_))))))))))))
 refine fV aR rfl (by kernel_rfl) (zF (aJ (aV (fQ rfl rfl (eK rfl rfl (Ht rfl) (fun h=>cZ K_30 (oX (x:=x) (y:=Qi.ofInt 0) (L:=L) (M:=1) (hy:=(aH.zero (Nat.le_refl 1):aH (Qi.ofInt 0) 1)) zo) ⟨(fJ rfl h),(fJ rfl h),trivial⟩)) (fQ rfl rfl (eK rfl rfl (Ht rfl) (fun h=>mX (fJ rfl h) cV)) (ro rfl (cO (Ht rfl) (fun h=>(fJ rfl h))) (ra rfl (eX (fW rfl (fX (eU rfl) ?_))))))))))
 exact (fA (Cp x))
theorem wD {x y:Qi} {L M:Nat} [hx:aH x L] [hy:aH y M] (h:L + 3 * M + 2 ≤ 17592186044415):bA Tryz.prog 80 [bB x,bB y] (bB (x / y)):=by
 refine bA.intro Tryz.func80 rfl Tryz.ntmps80 rfl (fun cx=>(ts (rn rfl (fG (Ht rfl)) fun B2=>(rn rfl (fG (Ht rfl)) fun B3=>(rn rfl (eW (Ts:=[Is (.bool false),Is (.slice none 0 0),Is (.bool false),Is (.slice none 0 0),Is (.slice none 0 0)]) O_32 rfl (fun V=>aW zd (aW zd (aW zd (aW zd (aW zd (aG))))))) fun B4=>(eX (ts (ro rfl (eJ A_32 Z_32 (Ht rfl) (i:=0) rfl rfl rfl) (ro rfl (eJ A_32 Z_32 (Ht rfl) (i:=1) rfl rfl rfl) ?_)))))))))
 refine ro rfl (cZ Tryz.call142 (Xy zo) ⟨(Ht rfl),(Ht rfl),trivial⟩) (rm rfl (ro rfl (dK (Ht rfl) rfl) (ro rfl (dK (Ht rfl) rfl) (rn rfl (eW (Ts:=[Is (.bool false),Is (.slice none 0 0),Is (.bool false),Is (.slice none 0 0),Is (.slice none 0 0)]) O_32 rfl (fun V=>aW zd (aW zd (aW zd (aW zd (aW zd (aG))))))) fun B5=>(gQ Z_32 (Ht rfl) (Ht rfl) rfl (i:=3) rfl (aK rfl) rfl rfl (ra rfl (eX ?_)))))))
 refine ts (ro rfl (eJ A_32 Z_32 (Ht rfl) (i:=3) rfl rfl rfl) (gQ Z_32 (Ht rfl) (Ht rfl) rfl (i:=2) rfl (aK rfl) rfl rfl (eX ?_)))
 exact fW rfl (fK A_32 Z_32 rfl (i:=2) rfl rfl)
end
section
open Go Go.RowKit
theorem Oj {x y:Qi} {L M:Nat} [hx:aH x L] [hy:aH y M] (h:L + M + 1 ≤ 17592186044415):bA Tryz.prog 85 [QT x,QT y] (aM .i64 (Cr x y)):=by
 refine bA.intro Tryz.func85 rfl Tryz.ntmps85 rfl (fun cx=>(ts (rn rfl (fG (Ht rfl)) fun B2=>(rn rfl (fG (Ht rfl)) fun B3=>(ro rfl (cQ (cJ 0)) (eX (ts (ro rfl (eJ A_40 Z_40 (Ht rfl) (i:=0) rfl rfl rfl) (ro rfl (eJ A_40 Z_40 (Ht rfl) (i:=1) rfl rfl rfl) (ro rfl (cZ Tryz.call88 (Hh zo) ⟨(Ht rfl),(Ht rfl),trivial⟩) (rn rfl (eW (Ts:=[Is (.bool false),Is (.slice none 0 0),Is (.bool false),Is (.slice none 0 0),Is (.slice none 0 0)]) O_40 rfl (fun V=>aW zd (aW zd (aW zd (aW zd (aW zd (aG))))))) fun B5=>?_)))))))))))
 refine gQ Z_40 (Ht rfl) (Ht rfl) rfl (i:=2) rfl (aK rfl) rfl rfl (eX (cK (ts (ro rfl (eJ A_40 Z_40 (Ht rfl) (i:=2) rfl rfl rfl) (ro rfl (cZ Tryz.call90 wC ⟨(Ht rfl),trivial⟩) (ra rfl (eX (ts (rm rfl (ro rfl (nO (Ht rfl) cV) (eX (dQ (Ht rfl) (fun hb=>?_) (fun hb=>?_)))))))))))))
 ·have hb2 : gY (x - y).a 0 ≠ 0 := by simpa using hb
  refine ts (rm rfl (ra rfl (eX (fW rfl (fX (eU rfl) ?_)))))
  exact (aL (by rw [Cr,if_pos hb2]))
 ·have hb2 : ¬ gY (x - y).a 0 ≠ 0 := by simpa using hb
  refine cU (ts (ro rfl (eJ A_40 Z_40 (Ht rfl) (i:=2) rfl rfl rfl) (ro rfl (cZ Tryz.call180 (Yd (L:=L + M + 1) zo) ⟨(Ht rfl),trivial⟩) (ro rfl (cZ Tryz.call90 wC ⟨(Ht rfl),trivial⟩) (ra rfl (eX (fW rfl (fX (eU rfl) ?_))))))))
  exact (aL (by rw [Cr,if_neg hb2]))
end
section
open Go Go.RowKit
def Na (k:FloatKind) (Q:Nat → Prop):Ty:=⟨fun v _=>∃ b,v = .float k b ∧ Q b,fun h _=>h⟩
def Mz (k:FloatKind) (Q:Nat → Nat → Prop):Ty:=⟨fun v _=>∃ a b,v = .complex k a b ∧ Q a b,fun h _=>h⟩
abbrev zN (k:FloatKind) (b:Nat):Ty:=Na k (fun x=>x = b)
instance shFlT (k:FloatKind) (Q:Nat → Prop):cI (Na k Q) 1 false:=eR fun v V h=>by obtain ⟨b,rfl,_⟩:=h; trivial
instance shCxT (k:FloatKind) (Q:Nat → Nat → Prop):cI (Mz k Q) 1 false:=eR fun v V h=>by obtain ⟨a,b,rfl,_⟩:=h; trivial
theorem aS.cF {E:bL} {k:FloatKind} {b:Nat}:aS E (.const (.float k b)) (zN k b):=fun _ _ _ _=>⟨b,rfl,rfl⟩
theorem jP {k:FloatKind} {Q R:Nat → Prop} (h:∀ b,Q b → R b):∀ v V,(Na k Q).p v V → (Na k R).p v V:=fun _ _ ⟨b,e,q⟩=>⟨b,e,h b q⟩
theorem Uq {k:FloatKind} {Q R:Nat → Nat → Prop} (h:∀ a b,Q a b → R a b):∀ v V,(Mz k Q).p v V → (Mz k R).p v V:=fun _ _ ⟨a,b,e,q⟩=>⟨a,b,e,h a b q⟩
def pF (s k : FloatKind) (p a : Nat) : Prop :=
 if s = k then a = p else match s.decode p with
 | .nan _ _=>∃ t,a = (Question.nanConv k p).cut t
 | .infinity n=>a = k.encode (.infinity n)
 | .number n m e=>if (k.decode (k.encode (.number n m e))).isInfinity then ∃ t,a = (Question.floatToFloat p).cut t else a = k.encode (.number n m e)
structure Dc (P:Program) (f:FuncId) (e:Array Value → Sem Value):Prop where
 run:∀ args w,(callFunc f args).run P w = ((e args).run P w).andThen fun v w'=>.ok (.value v) w'
@[irreducible] def Nl (a:Nat):Nat:=a % 9223372036854775808
theorem Iv (a:Nat):Nl a = a % 9223372036854775808:=by unfold Nl; rfl
section
variable {P:Program} {R:eT} {cx:Cx} {n:Nat} {k:List It} {E:bL} {H:Hp} {ops:Array Oper} {o:Oper} {rest:List Oper}
theorem Fm {T : Ty} (h : ∀ (a : Act) (V : aN) (w : World), dC n E V a → ∃ v w', (execOp a.eval o).run P w = .ok (.value v) w' ∧ (∀ cx H, fL cx V H w → fL cx V H w') ∧ T.p v V) : aC P n E H o T :=
 fun cx X a w V hi hs K Q hK => by
  obtain ⟨v,w',h1,h3,h2⟩:=h a V w hs
  simp only [Oper.wp,h1,Oper.upon_value]
  exact hK v w' V (h3 _ _ hi) (lO.refl V) h2
theorem sN (s k:FloatKind) (p:Nat) (w:World):∃ a w',(Conv.floatToFloat s p k).run P w = .ok (.float k a) w' ∧ (∀ cx V H,fL cx V H w → fL cx V H w') ∧ pF s k p a:=by
 unfold Conv.floatToFloat pF
 split
 ·exact ⟨p,w,rfl,fun _ _ _ h=>h,rfl⟩
 ·cases s.decode p with
  | nan a b=>exact ⟨(Question.nanConv k p).cut (w.tape w.drawn (.nanConv k p)),w.drew,by simp [Sem.run_bind,run_choose_drew,Question.forced,Result.andThen],fun _ _ _ h=>h.drew,_,rfl⟩
  | infinity a=>exact ⟨_,w,rfl,fun _ _ _ h=>h,rfl⟩
  | number a b c =>
   simp only
   split
   ·exact ⟨(Question.floatToFloat p).cut (w.tape w.drawn (.floatToFloat p)),w.drew,by simp [Sem.run_bind,run_choose_drew,Question.forced,Result.andThen],fun _ _ _ h=>h.drew,_,rfl⟩
   ·exact ⟨_,w,rfl,fun _ _ _ h=>h,rfl⟩
section
variable {d:Option Tmp} {t tx ty:TypeId} {pos:String} {af:Array Edge} {g:Option (Nat × Bool)}
theorem kL {x y : Operand} {k : FloatKind} {Q S : Nat → Prop} {tys : Array TypeId} (hx : aS E x (Na k Q)) (hy : aS E y (Na k S)) :
  aC P n E H ⟨d,.call ⟨.builtin .complex,#[x,y],tys⟩,t,pos,af,g⟩ (Mz k (fun a b=>Q a ∧ S b)) :=
 bS fun c V w hs => by
  obtain ⟨a,ex,qa⟩:=hx n V c hs
  obtain ⟨b,ey,qb⟩:=hy n V c hs
  have e : ∀ tt, Builtin.complex_ tys tt #[.float k a, .float k b] = pure (.complex k a b) := fun tt => by
   have : Builtin.complex_ tys tt #[.float k a, .float k b] = (if k = k then pure (.complex k a b) else stuck "complex: parts of different kinds") := rfl
   rw [this,if_pos rfl]
  exact ⟨.complex k a b,by simp [execOp,resolve,ex,ey,invoke,builtin,e,Sem.run_bind,Result.andThen],a,b,rfl,qa,qb⟩
theorem tW {x : Operand} {k : FloatKind} {Q : Nat → Nat → Prop} {tys : Array TypeId} (hx : aS E x (Mz k Q)) :
  aC P n E H ⟨d,.call ⟨.builtin .real,#[x],tys⟩,t,pos,af,g⟩ (Na k (fun a=>∃ b,Q a b)) :=
 bS fun c V w hs => by
  obtain ⟨a,b,ex,qa⟩:=hx n V c hs
  have e:∀ tt,Builtin.real_ tys tt #[.complex k a b] = pure (.float k a):=fun tt=>rfl
  exact ⟨.float k a,by simp [execOp,resolve,ex,invoke,builtin,e,Sem.run_bind,Result.andThen],a,rfl,b,qa⟩
theorem tV {x : Operand} {k : FloatKind} {Q : Nat → Nat → Prop} {tys : Array TypeId} (hx : aS E x (Mz k Q)) :
  aC P n E H ⟨d,.call ⟨.builtin .imag,#[x],tys⟩,t,pos,af,g⟩ (Na k (fun b=>∃ a,Q a b)) :=
 bS fun c V w hs => by
  obtain ⟨a,b,ex,qa⟩:=hx n V c hs
  have e:∀ tt,Builtin.imag_ tys tt #[.complex k a b] = pure (.float k b):=fun tt=>rfl
  exact ⟨.float k b,by simp [execOp,resolve,ex,invoke,builtin,e,Sem.run_bind,Result.andThen],b,rfl,a,qa⟩
theorem Ra {x : Operand} {s k : FloatKind} {Q : Nat → Nat → Prop} (hs : ∀ w, (underlying tx).run P w = .ok (.complex s) w) (hd : ∀ w, (underlying ty).run P w = .ok (.complex k) w) (hx : aS E x (Mz s Q)) :
  aC P n E H ⟨d,.convert tx ty x,t,pos,af,g⟩ (Mz k (fun a b=>∃ p q,Q p q ∧ pF s k p a ∧ pF s k q b)) :=
 Fm fun c V w hsl => by
  obtain ⟨p,q,ex,qa⟩:=hx n V c hsl
  obtain ⟨a,w1,h1,i1,c1⟩:=sN (P:=P) s k p w
  obtain ⟨b,w2,h2,i2,c2⟩:=sN (P:=P) s k q w1
  exact ⟨.complex k a b,w2,by simp [execOp,ex,convert,Sem.run_bind,hs,hd,Conv.complexToComplex,h1,h2,Result.andThen],fun _ _ h=>i2 _ _ _ (i1 _ _ _ h),a,b,rfl,p,q,qa,c1,c2⟩
theorem Fj {x : Operand} {s k : FloatKind} {Q : Nat → Prop} (hs : ∀ w, (underlying tx).run P w = .ok (.float s) w) (hd : ∀ w, (underlying ty).run P w = .ok (.float k) w) (hx : aS E x (Na s Q)) :
  aC P n E H ⟨d,.convert tx ty x,t,pos,af,g⟩ (Na k (fun a=>∃ p,Q p ∧ pF s k p a)) :=
 Fm fun c V w hsl => by
  obtain ⟨p,ex,qa⟩:=hx n V c hsl
  obtain ⟨a,w1,h1,i1,c1⟩:=sN (P:=P) s k p w
  exact ⟨.float k a,w1,by simp [execOp,ex,convert,Sem.run_bind,hs,hd,h1,Result.andThen],fun _ _ h=>i1 _ _ _ h,a,rfl,p,qa,c1⟩
theorem Ax {x : Operand} {s : IntKind} {k : FloatKind} {m : Int} {kd : IntKind} (hs : ∀ w, (underlying tx).run P w = .ok (.int s) w) (hd : ∀ w, (underlying ty).run P w = .ok (.float k) w) (hx : aS E x (aM kd m)) :
  aC P n E H ⟨d,.convert tx ty x,t,pos,af,g⟩ (zN k (k.nearest m)) :=
 bS fun c V w hsl => by
  have ex:c.eval x = .int kd m:=hx n V c hsl
  exact ⟨.float k (k.nearest m),by simp [execOp,ex,convert,Sem.run_bind,hs,hd,Conv.intToFloat],_,rfl,rfl⟩
def Uv (op : BinOp) (k : FloatKind) (x y : Nat) : Option Bool :=
 let c:=k.format.order x y
 match op with
 | .eql=>some (c == some .eq)
 | .neq=>some (c != some .eq)
 | .lss=>some (c == some .lt)
 | .leq=>some (c == some .lt || c == some .eq)
 | .gtr=>some (c == some .gt)
 | .geq=>some (c == some .gt || c == some .eq)
 | _=>none
theorem rE {op : BinOp} {k : FloatKind} {Q S : Nat → Prop} {r : Bool} {x y : Operand} (hx : aS E x (Na k Q)) (hy : aS E y (Na k S)) (h : ∀ a b, Q a → S b → Uv op k a b = some r) :
  aC P n E H ⟨d,.binOp op tx x y ty,t,pos,af,g⟩ (aB r) :=
 bS fun c V w hs => by
  obtain ⟨a,ex,qa⟩:=hx n V c hs
  obtain ⟨b,ey,qb⟩:=hy n V c hs
  have hr:=h a b qa qb
  refine ⟨.bool r,?_,rfl⟩
  have hg:∀ u v:Operand,eqGuard op tx u v (.float k a) (.float k b) = pure ():=fun u v=>by unfold eqGuard; split <;> rfl
  cases op <;> simp only [Uv,Option.some.injEq,reduceCtorEq] at hr <;> subst hr <;> simp [execOp,ex,ey,binOp,Op.floatCmp,hg,Sem.run_bind,Result.andThen]
theorem Hy {f : FuncId} {xs : List Operand} {tys : Array TypeId} {T : Ty} {e : Array Value → Sem Value} (hc : Dc P f e)
  (h:∀ (a:Act) (V:aN) (w:World),dC n E V a → ∃ v,(e (xs.map a.eval).toArray).run P w = .ok v w ∧ T.p v V) :
  aC P n E H ⟨d,.call ⟨.value (.func f),xs.toArray,tys⟩,t,pos,af,g⟩ T :=
 bS fun a V w hs => by
  obtain ⟨v,h1,h2⟩:=h a V w hs
  exact ⟨v,by simp [execOp,resolve,Act.eval,Deferred.ofValue,invoke,hc.run,h1,Result.andThen],h2⟩
theorem rC {f : FuncId} {x : Operand} {tys : Array TypeId} {b : Nat} (hc : Dc P f Extern.MathFloatBits.float64bits) (hx : aS E x (zN .f64 b)) :
  aC P n E H ⟨d,.call ⟨.value (.func f),[x].toArray,tys⟩,t,pos,af,g⟩ (NT .u64 b) :=
 Hy hc fun a V w hs => by
  obtain ⟨c,ex,rfl⟩:=hx n V a hs
  have e:Extern.MathFloatBits.float64bits #[.float .f64 c] = pure (.int .u64 c):=rfl
  exact ⟨.int .u64 c,by simp [ex,e],rfl⟩
theorem rM {f : FuncId} {x : Operand} {tys : Array TypeId} {b : Nat} (hc : Dc P f Extern.MathFloatBits.float32frombits) (hx : aS E x (NT .u32 b)) :
  aC P n E H ⟨d,.call ⟨.value (.func f),[x].toArray,tys⟩,t,pos,af,g⟩ (zN .f32 b) :=
 Hy hc fun a V w hs => by
  have ex:a.eval x = .int .u32 (b:Int):=hx n V a hs
  have e:Extern.MathFloatBits.float32frombits #[.int .u32 (b:Int)] = pure (.float .f32 b):=rfl
  exact ⟨.float .f32 b,by simp [ex,e],b,rfl,rfl⟩
theorem zX {f : FuncId} {x : Operand} {tys : Array TypeId} {b : Nat} (hc : Dc P f Extern.MathFloatBits.float64frombits) (hx : aS E x (NT .u64 b)) :
  aC P n E H ⟨d,.call ⟨.value (.func f),[x].toArray,tys⟩,t,pos,af,g⟩ (zN .f64 b) :=
 Hy hc fun a V w hs => by
  have ex:a.eval x = .int .u64 (b:Int):=hx n V a hs
  have e:Extern.MathFloatBits.float64frombits #[.int .u64 (b:Int)] = pure (.float .f64 b):=rfl
  exact ⟨.float .f64 b,by simp [ex,e],b,rfl,rfl⟩
theorem Qx {x : Operand} {a : Nat} (hx : aS E x (NT .u64 a)) (ha : a < 18446744073709551616) : aC P n E H ⟨d, .binOp .andNot tx x (.const (.int .u64 9223372036854775808)) ty, t, pos, af, g⟩ (NT .u64 (Nl a)) :=
 jJ hx (cJ 9223372036854775808) fun w => by
  rw [Iv]
  have e : IntKind.u64.wrap (BitVec.ofInt IntKind.u64.bits (a : Int) &&& ~~~BitVec.ofInt IntKind.u64.bits ((9223372036854775808 : Nat) : Int)).toNat = ((a % 9223372036854775808 : Nat) : Int) := by
   have h1:(~~~BitVec.ofInt IntKind.u64.bits ((9223372036854775808:Nat):Int)).toNat = 2 ^ 63 - 1:=by decide
   have h2:(BitVec.ofInt IntKind.u64.bits (a:Int)).toNat = a:=jQ _ _ (by show a < 18446744073709551616; exact ha)
   rw [BitVec.toNat_and,h2,h1,Nat.and_two_pow_sub_one_eq_mod,show (2:Nat) ^ 63 = 9223372036854775808 by decide]
   exact qI (by show _ < 18446744073709551616; omega)
  rw [← e]
  simp [eqGuard,binOp,Op.intBits,pure,Sem.run,bind,Sem.bind]
theorem Mj {x y : Operand} {op : BinOp} {k : FloatKind} {a b r : Nat} (hx : aS E x (zN k a)) (hy : aS E y (zN k b)) (h : floatBits op k a b = some r) : aC P n E H ⟨d, .binOp op tx x y ty, t, pos, af, g⟩ (zN k r) :=
 bS fun c V w hs => by
  obtain ⟨a',ex,rfl⟩:=hx n V c hs
  obtain ⟨b',ey,rfl⟩:=hy n V c hs
  have hr:=run_float_arith (P:=P) w op tx k a' b' r h
  have hg:∀ u v:Operand,eqGuard op tx u v (.float k a') (.float k b') = pure ():=fun u v=>by unfold eqGuard; split <;> rfl
  exact ⟨.float k r,by simp [execOp,ex,ey,hg,hr,Sem.run_bind,Result.andThen],r,rfl,rfl⟩
theorem Wd {x y z : Operand} {kd : IntKind} {a b c : Int} {tys : Array TypeId} (hx : aS E x (aM kd a)) (hy : aS E y (aM kd b)) (hz : aS E z (aM kd c)) : aC P n E H ⟨d, .call ⟨.builtin .max, #[x, y, z], tys⟩, t, pos, af, g⟩ (aM kd (max (max a b) c)) :=
 bS fun u V w hs => by
  have ex:u.eval x = .int kd a:=hx n V u hs
  have ey:u.eval y = .int kd b:=hy n V u hs
  have ez:u.eval z = .int kd c:=hz n V u hs
  refine ⟨.int kd (if c > (if b > a then b else a) then c else (if b > a then b else a)),?_,?_⟩
  ·simp [execOp,resolve,ex,ey,ez,invoke,builtin,Builtin.max_,Builtin.max2,Sem.run_bind,Result.andThen]
  ·show Value.int kd _ = Value.int kd _
   congr 1; split <;> split <;> omega
theorem Wc {x y : Operand} {kd : IntKind} {a b : Int} {tys : Array TypeId} (hx : aS E x (aM kd a)) (hy : aS E y (aM kd b)) : aC P n E H ⟨d, .call ⟨.builtin .max, #[x, y], tys⟩, t, pos, af, g⟩ (aM kd (max a b)) :=
 bS fun u V w hs => by
  have ex:u.eval x = .int kd a:=hx n V u hs
  have ey:u.eval y = .int kd b:=hy n V u hs
  refine ⟨.int kd (if b > a then b else a),?_,?_⟩
  ·simp [execOp,resolve,ex,ey,invoke,builtin,Builtin.max_,Builtin.max2,Sem.run_bind,Result.andThen]
  ·show Value.int kd _ = Value.int kd _
   congr 1; split <;> omega
end
end
theorem xX {P : Program} {f : FuncId} {fn : Func} {e : Array Value → Sem Value} (hf : P.funcs[f]? = some fn) (hname : (fn.name == "runtime.NumGoroutine") = false)
  (hb:fn.body.isNone = true) (hn:Extern.findNext fn = none) (he:Extern.find fn = some e):Dc P f e :=
 ⟨fun args w=>run_callFunc_extern hf hname hb hn he args w⟩
end
section
namespace Fl
open Ieee
@[irreducible] def Ys:Nat:=925
theorem Sw:Ys = 925:=by unfold Ys; rfl
def mg (f:Format) (r:Nat):Nat:=if r < f.binade then r else f.binade + r % f.binade
def up (f:Format) (r:Nat):Nat:=r / f.binade - 1
def nn (f:Format) (r:Nat):Nat:=mg f r * 2 ^ up f r
def rg (f:Format) (x:Nat):Nat:=x % f.signWeight
def ng (f:Format) (x:Nat):Bool:=x / f.signWeight % 2 == 1
def fin (f:Format) (x:Nat):Bool:=decide (rg f x < f.infRung)
def av (f:Format) (x:Nat):Int:=if ng f x then -(nn f (rg f x):Int) else nn f (rg f x)
theorem vY (f:Format):0 < f.binade:=Nat.two_pow_pos _
theorem kY {f:Format} {x:Nat} (h:fin f x = true):f.read x = .number (ng f x) (mg f (rg f x)) (f.leastPlace + (up f (rg f x):Nat)):=by
 have h:rg f x < f.infRung:=by simpa [fin] using h
 have e : f.read x = (if rg f x < f.binade then .number (ng f x) (rg f x) f.leastPlace else if rg f x < f.infRung then
  .number (ng f x) (f.binade + rg f x % f.binade) (f.leastPlace + (rg f x / f.binade - 1:Nat)) else if rg f x = f.infRung then .infinity (ng f x) else .nan (ng f x) (rg f x - f.infRung)):=rfl
 rw [e]
 generalize rg f x = r at *
 unfold mg up
 by_cases hb:r < f.binade
 ·rw [if_pos hb,if_pos hb,Nat.div_eq_of_lt hb]; simp
 ·rw [if_neg hb,if_neg hb,if_pos h]
theorem Vs {f:Format} {r s:Nat} (h:r < s):nn f r < nn f s:=by
 have hb:=vY f
 unfold nn mg up
 generalize f.binade = b at *
 have d1:=Nat.div_add_mod r b
 have d2:=Nat.div_add_mod s b
 have m1:=Nat.mod_lt r hb
 have m2:=Nat.mod_lt s hb
 by_cases hr:r < b
 ·rw [if_pos hr]
  have:r / b - 1 = 0:=by rw [Nat.div_eq_of_lt hr]
  rw [this]
  by_cases hs:s < b
  ·rw [if_pos hs,Nat.div_eq_of_lt hs]; simpa using h
  ·rw [if_neg hs]
   have:1 ≤ 2 ^ (s / b - 1):=Nat.two_pow_pos _
   have:=Nat.mul_le_mul (Nat.le_refl (b + s % b)) this
   omega
 ·have hs : ¬ s < b := by omega
  rw [if_neg hr,if_neg hs]
  have q1:1 ≤ r / b:=(Nat.le_div_iff_mul_le hb).2 zo
  have q2:r / b ≤ s / b:=Nat.div_le_div_right (Nat.le_of_lt h)
  rcases Nat.eq_or_lt_of_le q2 with e | l
  ·rw [← e]
   have:r % b < s % b:=by rw [← e] at d2; omega
   exact Nat.mul_lt_mul_of_pos_right zo (Nat.two_pow_pos _)
  ·have e1 : s / b - 1 = (r / b - 1) + 1 + (s / b - 1 - (r / b - 1) - 1) := by omega
   rw [e1,Nat.pow_add,Nat.pow_succ]
   have p1:=Nat.two_pow_pos (r / b - 1)
   have p2:=Nat.two_pow_pos (s / b - 1 - (r / b - 1) - 1)
   generalize 2 ^ (r / b - 1) = x at *
   generalize 2 ^ (s / b - 1 - (r / b - 1) - 1) = y at *
   have a1:(b + r % b) * x < (2 * b) * x:=Nat.mul_lt_mul_of_pos_right zo p1
   have a2:(2 * b) * x = b * (x * 2 * 1):=by grind
   have a3:b * (x * 2 * 1) ≤ (b + s % b) * (x * 2 * y):=Nat.mul_le_mul zo (Nat.mul_le_mul (Nat.le_refl _) p2)
   omega
theorem Yl {f:Format} {r s:Nat} (h:r ≤ s):nn f r ≤ nn f s:=by
 rcases Nat.eq_or_lt_of_le h with e | l
 ·rw [e]; exact Nat.le_refl _
 ·exact Nat.le_of_lt (Vs l)
theorem Lt (a b:Int) {c:Int} (h:0 < c):compare (a * c) (b * c) = compare a b:=by
 simp only [compare,compareOfLessAndEq]
 have e1:(a * c < b * c) ↔ a < b:=⟨fun k=>Int.lt_of_mul_lt_mul_right k (Int.le_of_lt h),fun k=>Int.mul_lt_mul_of_pos_right k h⟩
 have e2:(a * c = b * c) ↔ a = b:=⟨fun k=>Int.eq_of_mul_eq_mul_right (Int.ne_of_gt h) k,fun k=>by rw [k]⟩
 simp only [e1,e2]
theorem uA (s:Bool) (m u w:Nat) (h:w ≤ u):(if s then -((m * 2 ^ u:Nat):Int) else ((m * 2 ^ u:Nat):Int)) = signed s m (u - w) * (2 ^ w:Nat):=by
 have e : m * 2 ^ u = (m <<< (u - w)) * 2 ^ w := by
  rw [Nat.shiftLeft_eq,Nat.mul_assoc,← Nat.pow_add]; congr 2; omega
 unfold signed
 rw [e]; push_cast
 cases s <;> simp [Int.neg_mul]
theorem oC {f:Format} {x y:Nat} (hx:fin f x = true) (hy:fin f y = true):f.order x y = some (compare (av f x) (av f y)):=by
 unfold Format.order
 rw [kY hx,kY hy]
 simp only [Datum.order]
 generalize f.leastPlace = L
 unfold av nn
 generalize mg f (rg f x) = m
 generalize mg f (rg f y) = n
 generalize up f (rg f x) = u
 generalize up f (rg f y) = v
 congr 1
 have hw:(0:Int) < ((2 ^ (min u v):Nat):Int):=by have:=Nat.two_pow_pos (min u v); omega
 rw [uA (ng f x) m u (min u v) (Nat.min_le_left _ _),uA (ng f y) n v (min u v) (Nat.min_le_right _ _),Lt _ _ hw]
 have e1:(L + (u:Int) - min (L + (u:Int)) (L + (v:Int))).toNat = u - min u v:=by omega
 have e2:(L + (v:Int) - min (L + (u:Int)) (L + (v:Int))).toNat = v - min u v:=by omega
 rw [e1,e2]
theorem oT {f:Format} {x:Nat} (hf:f.binade ≤ f.infRung) (h:fin f x = false):f.read x = (if rg f x = f.infRung then .infinity (ng f x) else .nan (ng f x) (rg f x - f.infRung)):=by
 have h:¬ rg f x < f.infRung:=by simpa [fin] using h
 have e : f.read x = (if rg f x < f.binade then .number (ng f x) (rg f x) f.leastPlace else if rg f x < f.infRung then
  .number (ng f x) (f.binade + rg f x % f.binade) (f.leastPlace + (rg f x / f.binade - 1:Nat)) else if rg f x = f.infRung then .infinity (ng f x) else .nan (ng f x) (rg f x - f.infRung)):=rfl
 rw [e,if_neg zo,if_neg h]
theorem bs:single.binade ≤ single.infRung:=by decide
theorem bd:double.binade ≤ double.infRung:=by decide
theorem a1m:single.signWeight = 2147483648:=by decide
theorem sQ:double.signWeight = 9223372036854775808:=by decide
theorem Vf:single.infRung = 2139095040:=by decide
theorem Hk:double.infRung = 9218868437227405312:=by decide
theorem Lm:single.binade = 8388608:=by decide
theorem Ti:double.binade = 4503599627370496:=by decide
theorem Oz (a:Int):compare a a = .eq:=by simp [compare,compareOfLessAndEq]
theorem rT (a b:Int):(compare a b == .lt) = decide (a < b):=by
 simp only [compare,compareOfLessAndEq]
 by_cases k:a < b
 ·rw [if_pos k]; simp [k]
 ·rw [if_neg k]
  by_cases k2:a = b
  ·rw [if_pos k2]; simp [k]
  ·rw [if_neg k2]; simp [k]
theorem Oy (a b:Int):(compare a b == .gt) = decide (b < a):=by
 simp only [compare,compareOfLessAndEq]
 by_cases k:a < b
 ·rw [if_pos k]; have : ¬ b < a := by omega
  simp [this]
 ·rw [if_neg k]
  by_cases k2:a = b
  ·rw [if_pos k2]; simp [k2]
  ·rw [if_neg k2]; have : b < a := by omega
   simp [this]
theorem Ox (a b:Int):(compare a b == .eq) = decide (a = b):=by
 simp only [compare,compareOfLessAndEq]
 by_cases k:a < b
 ·rw [if_pos k]; have : ¬ a = b := by omega
  simp [this]
 ·rw [if_neg k]
  by_cases k2:a = b
  ·rw [if_pos k2]; simp [k2]
  ·rw [if_neg k2]; simp [k2]
theorem Ia {f:Format} {x:Nat} (hf:f.binade ≤ f.infRung):(f.order x x != some .eq) = decide (f.infRung < rg f x):=by
 by_cases h:fin f x = true
 ·rw [oC h h, Oz]
  have:rg f x < f.infRung:=by simpa [fin] using h
  have:¬ f.infRung < rg f x:=by omega
  simp [this]
 ·have h : fin f x = false := by simpa using h
  have h':¬ rg f x < f.infRung:=by simpa [fin] using h
  unfold Format.order
  rw [oT hf h]
  by_cases e:rg f x = f.infRung
  ·rw [if_pos e]; have : ¬ f.infRung < rg f x := by omega
   simp [Datum.order,this]
  ·rw [if_neg e]; have : f.infRung < rg f x := by omega
   simp [Datum.order,this]
theorem Np (f:Format) (x:Nat):(av f x).natAbs = nn f (rg f x):=by unfold av; split <;> omega
theorem Bk {f:Format} {x:Nat} (h:ng f x = false):av f x = nn f (rg f x):=by unfold av; rw [h]; rfl
theorem Zj {f:Format} {x:Nat} (h:ng f x = true):av f x = -(nn f (rg f x):Int):=by unfold av; rw [h]; rfl
theorem Xw (f:Format) (x:Nat):av f x ≤ nn f (rg f x) ∧ -(nn f (rg f x):Int) ≤ av f x:=by have:=Np f x; omega
theorem a0c {f:Format} {x m:Nat} (hf:f.binade ≤ f.infRung) (hm:rg f m + 1 = f.infRung) (hn:ng f m = false):(f.order x m == some .gt) = (decide (rg f x = f.infRung) && !ng f x):=by
 have mf:fin f m = true:=by simp [fin]; omega
 by_cases h:fin f x = true
 ·rw [oC h mf]
  have h2:rg f x < f.infRung:=by simpa [fin] using h
  have h3:nn f (rg f x) ≤ nn f (rg f m):=Yl zo
  have h4:=Xw f x
  have h5:¬ rg f x = f.infRung:=by omega
  have h6:¬ av f m < av f x:=by rw [Bk hn]; omega
  rw [Option.some_beq_some,Oy]; simp [h5,h6]
 ·have h : fin f x = false := by simpa using h
  unfold Format.order
  rw [oT hf h,kY mf]
  by_cases e:rg f x = f.infRung
  ·rw [if_pos e]; simp only [Datum.order,e,decide_true,Bool.true_and]; cases ng f x <;> rfl
  ·rw [if_neg e]; simp [Datum.order,e]
theorem a0g {f : Format} {x m : Nat} (hf : f.binade ≤ f.infRung) (hm : rg f m + 1 = f.infRung) (hn : ng f m = false) :
  ((f.order x 0 == some .gt) && (f.order x m == some .lt || f.order x m == some .eq)) = (fin f x && decide (0 < av f x)):=by
 have mf:fin f m = true:=by simp [fin]; omega
 have z0:rg f 0 = 0:=by simp [rg]
 have zf:fin f 0 = true:=by have:=vY f; simp [fin,z0]; omega
 have za : av f 0 = 0 := by
  have:nn f 0 = 0:=by unfold nn mg; rw [if_pos (vY f)]; simp
  unfold av; rw [z0,this]; split <;> rfl
 by_cases h:fin f x = true
 ·rw [oC h mf, oC h zf, za, h]
  have h2:rg f x < f.infRung:=by simpa [fin] using h
  have h3:nn f (rg f x) ≤ nn f (rg f m):=Yl zo
  have h4:=Xw f x
  have h5:=Bk hn
  simp only [Option.some_beq_some,Oy,rT,Ox,Bool.true_and]
  by_cases k:av f x < av f m
  ·simp [k]
  ·have : av f x = av f m := by omega
   simp [this]
 ·have h : fin f x = false := by simpa using h
  rw [h]; simp only [Bool.false_and]
  unfold Format.order
  rw [oT hf h,kY mf,kY zf]
  by_cases e:rg f x = f.infRung
  ·rw [if_pos e]; cases ng f x <;> simp [Datum.order]
  ·rw [if_neg e]; simp [Datum.order]
theorem a0h {f:Format} {x y:Nat} (hx:fin f x = true) (hy:fin f y = true):(f.order x y == some .lt || f.order x y == some .eq) = decide (av f x ≤ av f y):=by
 rw [oC hx hy]
 simp only [Option.some_beq_some,rT,Ox]
 by_cases k:av f x < av f y
 ·have : av f x ≤ av f y := by omega
  simp [k,this]
 ·by_cases k2 : av f x = av f y
  ·simp [k2]
  ·have : ¬ av f x ≤ av f y := by omega
   simp [k,k2,this]
def iI (a:Nat):Nat:=a / 4503599627370496 % 2048
def oP (a:Nat):Nat:=if iI a = 0 then a % 4503599627370496 else 4503599627370496 + a % 4503599627370496
theorem Ku {a : Nat} (ha : a < 18446744073709551616) : rg double a = a % 9223372036854775808 ∧ ng double a = decide (9223372036854775808 ≤ a) ∧ rg double a / 4503599627370496 = iI a ∧
  rg double a % 4503599627370496 = a % 4503599627370496 ∧ mg double (rg double a) = oP a ∧ up double (rg double a) = iI a - 1 ∧ fin double a = decide (iI a ≠ 2047):=by
 have r:rg double a = a % 9223372036854775808:=by unfold rg; rw [sQ]
 have n : ng double a = decide (9223372036854775808 ≤ a) := by
  unfold ng; rw [sQ]
  by_cases h:9223372036854775808 ≤ a
  ·rw [show a / 9223372036854775808 % 2 = 1 by omega]; simp [h]
  ·rw [show a / 9223372036854775808 % 2 = 0 by omega]; simp [h]
 have q:rg double a / 4503599627370496 = iI a:=by rw [r]; unfold iI; omega
 have q2:rg double a % 4503599627370496 = a % 4503599627370496:=by rw [r]; omega
 refine ⟨r,n,q,q2,?_,?_,?_⟩
 ·unfold mg oP; rw [Ti, q2, ← q]
  by_cases h:rg double a < 4503599627370496
  ·rw [if_pos h,if_pos (Nat.div_eq_of_lt h),← q2,Nat.mod_eq_of_lt h]
  ·rw [if_neg h,if_neg zo]
 ·unfold up; rw [Ti,q]
 ·unfold fin; rw [Hk, ← q, r]
  by_cases h:a % 9223372036854775808 < 9218868437227405312
  ·rw [decide_eq_true h]; symm; rw [decide_eq_true_eq]; omega
  ·rw [decide_eq_false h]; symm; rw [decide_eq_false_iff_not]; omega
theorem Up (s:Bool) (n:Nat):Toward.even.cut s n 0 = n:=by
 unfold Toward.cut
 simp only [Nat.zero_min,Nat.min_eq_left (Nat.zero_le _),Nat.shiftLeft_zero,Nat.div_one,Nat.mod_one]
 simp
theorem Qp (s : Bool) {m u : Nat} (h0 : m ≠ 0) (hm : m < 16777216) (hu : u ≤ 253) :
  double.nearest s m (-149 + (u:Int)) = double.word s ((u + m.log2 + 873) * 4503599627370496 + m * 2 ^ (52 - m.log2)):=by
 have hl:m.log2 < 24:=(Nat.log2_lt h0).2 hm
 have l1:2 ^ m.log2 ≤ m:=Nat.log2_self_le h0
 have l2:m < 2 ^ (m.log2 + 1):=Nat.lt_log2_self
 unfold Format.nearest
 rw [if_neg h0]
 have hlp:double.leastPlace = -1074:=by decide
 have hfb:((double.fractionBits:Nat):Int) = 52:=rfl
 rw [hlp,hfb]
 have e1:max (-149 + (u:Int) + (m.log2:Int) - 52) (-1074) = (u:Int) + m.log2 - 201:=by omega
 simp only [e1]
 have e2:(-149 + (u:Int) - ((u:Int) + m.log2 - 201)).toNat = 52 - m.log2:=by omega
 have e3:((u:Int) + m.log2 - 201 - (-149 + (u:Int))).toNat = 0:=by omega
 have e4:((u:Int) + m.log2 - 201 - (-1074)).toNat = u + m.log2 + 873:=by omega
 rw [e2,e3,e4,Up,Ti,Hk,Nat.shiftLeft_eq]
 congr 1
 have:m * 2 ^ (52 - m.log2) < 2 ^ (m.log2 + 1) * 2 ^ (52 - m.log2):=Nat.mul_lt_mul_of_pos_right l2 (Nat.two_pow_pos _)
 rw [← Nat.pow_add,show m.log2 + 1 + (52 - m.log2) = 53 by omega] at this
 rw [Nat.min_eq_left]
 have:(2:Nat) ^ 53 = 9007199254740992:=by decide
 omega
theorem Hr (s : Bool) {m u a : Nat} (hm : m < 16777216) (hu : u ≤ 253) (ha : a = double.nearest s m (-149 + (u : Int))) :
  a < 18446744073709551616 ∧ rg double a < double.infRung ∧ ng double a = s ∧ nn double (rg double a) = m * 2 ^ u * 2 ^ Ys:=by
 by_cases h0:m = 0
 ·subst h0
  have:a = double.word s 0:=by rw [ha]; unfold Format.nearest; rw [if_pos rfl]
  unfold Format.word at this
  rw [sQ] at this
  have e:rg double a = 0:=by unfold rg; rw [sQ]; cases s <;> simp at this <;> omega
  refine ⟨by cases s <;> simp at this <;> omega,by rw [e,Hk]; omega,?_,?_⟩
  ·unfold ng; rw [sQ]; cases s <;> simp at this <;> subst this <;> rfl
  ·rw [e]; unfold nn mg; rw [if_pos (vY _)]; simp
 ·rw [Qp s h0 hm hu] at ha
  have hl:m.log2 < 24:=(Nat.log2_lt h0).2 hm
  have l1:2 ^ m.log2 ≤ m:=Nat.log2_self_le h0
  have l2:m < 2 ^ (m.log2 + 1):=Nat.lt_log2_self
  have b1:m * 2 ^ (52 - m.log2) < 2 ^ (m.log2 + 1) * 2 ^ (52 - m.log2):=Nat.mul_lt_mul_of_pos_right l2 (Nat.two_pow_pos _)
  rw [← Nat.pow_add,show m.log2 + 1 + (52 - m.log2) = 53 by omega,show (2:Nat) ^ 53 = 9007199254740992 by decide] at b1
  have b2:2 ^ m.log2 * 2 ^ (52 - m.log2) ≤ m * 2 ^ (52 - m.log2):=Nat.mul_le_mul_right _ l1
  rw [← Nat.pow_add,show m.log2 + (52 - m.log2) = 52 by omega,show (2:Nat) ^ 52 = 4503599627370496 by decide] at b2
  have b3 : m * 2 ^ (52 - m.log2) * 2 ^ (u + m.log2 + 873) = m * 2 ^ u * 2 ^ Ys := by
   rw [Nat.mul_assoc,Nat.mul_assoc,← Nat.pow_add,← Nat.pow_add,show 52 - m.log2 + (u + m.log2 + 873) = u + Ys by rw [Sw]; omega]
  generalize m * 2 ^ (52 - m.log2) = K at *
  have hr : rg double a = (u + m.log2 + 873) * 4503599627370496 + K := by
   unfold rg; rw [sQ,ha]; unfold Format.word; rw [sQ]
   cases s <;> simp <;> omega
  refine ⟨?_,?_,?_,?_⟩
  ·rw [ha]; unfold Format.word; rw [sQ]; cases s <;> simp <;> omega
  ·rw [hr,Hk]; omega
  ·unfold ng; rw [sQ, ha]; unfold Format.word; rw [sQ]
   cases s
   ·simp only [Bool.false_eq_true,if_false,beq_eq_false_iff_ne]; omega
   ·simp only [if_true,beq_iff_eq]; omega
  ·rw [hr]; unfold nn mg up; rw [Ti, if_neg zo]
   have e1:((u + m.log2 + 873) * 4503599627370496 + K) % 4503599627370496 = K - 4503599627370496:=by omega
   have e2:((u + m.log2 + 873) * 4503599627370496 + K) / 4503599627370496 - 1 = u + m.log2 + 873:=by omega
   rw [e1,e2,Nat.add_sub_cancel' b2,b3]
theorem Yu {p a : Nat} (h : pF .f32 .f64 p a) : a < 18446744073709551616 ∧ fin double a = fin single p ∧
  (fin single p = true → ng double a = ng single p ∧ ∃ m u,m < 16777216 ∧ u ≤ 253 ∧ nn single (rg single p) = m * 2 ^ u ∧ nn double (rg double a) = m * 2 ^ u * 2 ^ Ys):=by
 have hlp:single.leastPlace = -149:=by decide
 unfold pF at h
 rw [if_neg (by decide)] at h
 have hd:FloatKind.f32.decode p = single.read p:=rfl
 rw [hd] at h
 by_cases hf:fin single p = true
 ·rw [kY hf, hlp] at h
  have hr:rg single p < 2139095040:=by rw [← Vf]; simpa [fin] using hf
  have hm:mg single (rg single p) < 16777216:=by unfold mg; rw [Lm]; split <;> omega
  have hu:up single (rg single p) ≤ 253:=by unfold up; rw [Lm]; omega
  obtain ⟨p1,p2,p3,p4⟩:=Hr (ng single p) hm hu rfl
  have hw:FloatKind.f64.encode (.number (ng single p) (mg single (rg single p)) (-149 + ((up single (rg single p):Nat):Int))) = double.nearest (ng single p) (mg single (rg single p)) (-149 + ((up single (rg single p):Nat):Int)):=rfl
  simp only at h
  rw [hw] at h
  have hdd:∀ b,FloatKind.f64.decode b = double.read b:=fun _=>rfl
  rw [hdd,kY (by simpa [fin] using p2)] at h
  simp only [Datum.isInfinity] at h
  have h':a = double.nearest (ng single p) (mg single (rg single p)) (-149 + ((up single (rg single p):Nat):Int)):=by simpa using h
  rw [h']
  refine ⟨p1,?_,fun _=>⟨p3,_,_,hm,hu,rfl,p4⟩⟩
  rw [hf]; simpa [fin] using p2
 ·have hf' : fin single p = false := by simpa using hf
  rw [oT bs hf'] at h
  refine ⟨?_,?_,fun k=>absurd k hf⟩
  ·by_cases e : rg single p = single.infRung
   ·rw [if_pos e] at h; simp only at h
    have:a = double.word (ng single p) double.infRung:=h
    rw [this]; unfold Format.word; rw [sQ,Hk]; split <;> omega
   ·rw [if_neg e] at h; simp only at h
    obtain ⟨t,rfl⟩:=h
    simp only [Question.cut]; omega
  ·rw [hf']; unfold fin rg; rw [sQ, Hk]; simp only [decide_eq_false_iff_not]
   by_cases e:rg single p = single.infRung
   ·rw [if_pos e] at h; simp only at h
    have:a = double.word (ng single p) double.infRung:=h
    rw [this]; unfold Format.word; rw [sQ,Hk]; split <;> omega
   ·rw [if_neg e] at h; simp only at h
    obtain ⟨t,rfl⟩:=h
    simp only [Question.cut]
    have y1:t / 2 % (2 ^ 52 - 1) < 4503599627370495:=Nat.mod_lt _ (by decide)
    have y2:t % 2 = 0 ∨ t % 2 = 1:=by omega
    have y3:(2:Nat) ^ 63 = 9223372036854775808:=by decide
    rw [y3]
    generalize t / 2 % (2 ^ 52 - 1) = y at *
    rcases y2 with k | k <;> rw [k] <;> omega
end Fl
end
section
namespace Fl
open Ieee
@[irreducible] def Ta:Nat:=1074
theorem zJ:Ta = 1074:=by unfold Ta; rfl
theorem At (A:Int) {D c:Nat} (hD:0 < D) (hc:0 < c):Qi.mk' (A * (c:Nat)) 0 (D * c) = Qi.mk' A 0 D:=by
 have h1:=Qi.nc hD; have h2:=Qi.nc hc
 refine Qi.ext' ?_ ?_
 ·rw [Qi.mk_re,Qi.mk_re]; push_cast; grind
 ·rw [Qi.mk_im,Qi.mk_im]; push_cast; grind
theorem wS {A B:Int} {D C:Nat} (hD:0 < D) (hC:0 < C) (h:A * (C:Nat) = B * (D:Nat)):Qi.mk' A 0 D = Qi.mk' B 0 C:=by
 rw [← At A hD hC,← At B hC hD,h,Nat.mul_comm]
theorem rI (b:Bool) (m c:Nat):oF b (m * c) = oF b m * (c:Nat):=by unfold oF; cases b <;> simp [Int.neg_mul]
theorem Gq (f:Format) (x:Nat):av f x = oF (ng f x) (nn f (rg f x)):=rfl
def Fr (a:Nat):Qi:=Qi.mk' (av double a) 0 (2 ^ Ta)
def q32 (p:Nat):Qi:=Qi.mk' (av single p) 0 (2 ^ 149)
theorem Rq {p a:Nat} (h:pF .f32 .f64 p a) (hf:fin single p = true):Fr a = q32 p:=by
 obtain ⟨_,_,h3⟩:=Yu h
 obtain ⟨e1,m,u,_,_,e2,e3⟩:=h3 hf
 have:av double a = av single p * ((2 ^ Ys:Nat):Int):=by rw [Gq,Gq,e1,e3,e2,rI]
 unfold Fr q32
 refine wS (Nat.two_pow_pos _) (Nat.two_pow_pos _) ?_
 rw [this,Int.mul_assoc,← Int.natCast_mul,← Nat.pow_add,show Ys + 149 = Ta by rw [Sw,zJ]]
theorem tS {a:Nat} (ha:a < 18446744073709551616):av double a = oF (decide (9223372036854775808 ≤ a)) (oP a * 2 ^ (iI a - 1)):=by
 obtain ⟨_,h2,_,_,h5,h6,_⟩:=Ku ha
 rw [Gq,h2]; unfold nn; rw [h5,h6]
theorem Rp {a k:Nat} (ha:a < 18446744073709551616) (hk:k = max (iI a) 1 - 1):Qi.mk' (oF (decide (9223372036854775808 ≤ a)) (oP a * 2 ^ k)) 0 (2 ^ Ta) = Fr a:=by
 unfold Fr; rw [tS ha,show k = iI a - 1 by omega]
theorem Wn {a:Nat} (ha:a < 18446744073709551616) (he:1075 ≤ iI a):Qi.mk' (oF (decide (9223372036854775808 ≤ a)) (oP a * 2 ^ (iI a - 1075))) 0 1 = Fr a:=by
 unfold Fr; rw [tS ha]
 refine wS zo (Nat.two_pow_pos _) ?_
 rw [← rI,Int.natCast_one,Int.mul_one,Nat.mul_assoc,← Nat.pow_add]
 congr 3; rw [zJ]; omega
theorem Ro {a e:Nat} (ha:a < 18446744073709551616) (he:e = max (iI a) 1) (h:e < 1075):Qi.mk' (oF (decide (9223372036854775808 ≤ a)) (oP a)) 0 (2 ^ (1075 - e)) = Fr a:=by
 unfold Fr; rw [tS ha]
 refine wS (Nat.two_pow_pos _) (Nat.two_pow_pos _) ?_
 rw [← rI,← rI,Nat.mul_assoc,← Nat.pow_add]
 congr 3; rw [zJ]; omega
theorem Rr:Fr 0 = Qi.zero:=by
 have:av double 0 = 0:=by decide
 unfold Fr; rw [this]
 refine Qi.ext' ?_ ?_
 ·rw [Qi.mk_re]; show _ = (0:Rat); push_cast; grind
 ·rw [Qi.mk_im]; show _ = (0:Rat); push_cast; grind
theorem a0x (p:Nat):(q32 p).im = 0:=by unfold q32; rw [Qi.mk_im]; push_cast; grind
theorem Ic (p:Nat):(q32 p).re = (av single p:Rat) / ((2 ^ 149:Nat):Rat):=rfl
theorem Po {p:Nat} (hf:fin single p = true):Qi.Fit (q32 p) 9:=by
 have hr:rg single p < 2139095040:=by rw [← Vf]; simpa [fin] using hf
 have hm:mg single (rg single p) < 2 ^ 24:=by unfold mg; rw [Lm]; split <;> omega
 have hu:up single (rg single p) ≤ 253:=by unfold up; rw [Lm]; omega
 unfold q32
 refine Qi.Fit.mk (Nat.two_pow_pos _) ?_ (Nat.pow_pos dB) ?_
 ·rw [Np]; unfold nn
  have h1 : 2 ^ up single (rg single p) < BB ^ 8 := by
   refine Nat.lt_of_le_of_lt (Nat.pow_le_pow_right (by decide) hu) ?_
   show _ < (2 ^ 32) ^ 8
   rw [← Nat.pow_mul]
   exact Nat.pow_lt_pow_right (by decide) (by decide)
  have h2:mg single (rg single p) < BB ^ 1:=Nat.lt_of_lt_of_le hm (by decide)
  exact Qi.lt_mul h2 h1
 ·refine Nat.lt_of_lt_of_le (m := BB ^ 8) ?_ (Nat.pow_le_pow_right dB (by decide))
  show _ < (2 ^ 32) ^ 8
  rw [← Nat.pow_mul]
  exact Nat.pow_lt_pow_right (by decide) (by decide)
def pw (p:Nat):Bool:=fin single p && decide (0 < av single p)
theorem Kw {p:Nat}:0 < (q32 p).re ↔ 0 < av single p:=by
 rw [Ic]
 have h : (0 : Rat) < ((2 ^ 149 : Nat) : Rat) := by
  have:((0:Nat):Rat) < ((2 ^ 149:Nat):Rat):=Rat.natCast_lt_natCast.2 (Nat.two_pow_pos _)
  exact this
 rw [Rat.lt_div_iff h,Rat.zero_mul]
 exact ⟨fun k=>Rat.intCast_lt_intCast.1 k,fun k=>Rat.intCast_lt_intCast.2 k⟩
theorem Ib {p q:Nat}:(q32 p).re ≤ (q32 q).re ↔ av single p ≤ av single q:=by
 rw [Ic,Ic]
 have h : (0 : Rat) < ((2 ^ 149 : Nat) : Rat) := by
  have:((0:Nat):Rat) < ((2 ^ 149:Nat):Rat):=Rat.natCast_lt_natCast.2 (Nat.two_pow_pos _)
  exact this
 generalize ((2 ^ 149:Nat):Rat) = D at *
 constructor
 ·intro k
  have e:∀ z:Int,(z:Rat) = (z:Rat) / D * D:=fun z=>by grind
  have:=Rat.mul_le_mul_of_nonneg_right k (Rat.le_of_lt h)
  rw [← e,← e] at this
  exact Rat.intCast_le_intCast.1 this
 ·intro k
  rw [Rat.div_def,Rat.div_def]
  exact Rat.mul_le_mul_of_nonneg_right (Rat.intCast_le_intCast.2 k) (Rat.le_of_lt (Rat.inv_pos.2 h))
end Fl
end
section
namespace Fl
theorem Ru {x y:Qi} (hx:x.im = 0) (hy:y.im = 0):(x / y).re = x.re / y.re ∧ (x / y).im = 0:=by
 have hn:y.nrm = y.re * y.re:=by unfold Qi.nrm; rw [hy]; grind
 have hi:Qi.inv y = ⟨y.re / y.nrm,-y.im / y.nrm⟩:=rfl
 constructor
 ·rw [Qi.div_def, Qi.mul_re, hi, hn, hx, hy]
  by_cases h:y.re = 0
  ·rw [h]; show x.re * (0 / (0 * 0)) - 0 * _ = _; grind
  ·show x.re * (y.re / (y.re * y.re)) - 0 * _ = _; grind
 ·rw [Qi.div_def,Qi.mul_im,hi,hx,hy]; show x.re * (-0 / _) + 0 * _ = _; grind
structure Re (x:Qi):Prop where
 im:x.im = 0
theorem Re.sub {x y:Qi} (h:Re x) (k:Re y):Re (x - y):=⟨by rw [Qi.sub_im,h.im,k.im]; grind⟩
theorem Re.add {x y:Qi} (h:Re x) (k:Re y):Re (x + y):=⟨by rw [Qi.add_im,h.im,k.im]; grind⟩
theorem Re.mul {x y:Qi} (h:Re x) (k:Re y):Re (x * y):=⟨by rw [Qi.mul_im,h.im,k.im]; grind⟩
theorem Re.div {x y:Qi} (h:Re x) (k:Re y):Re (x / y):=⟨(Ru h.im k.im).2⟩
theorem Re.one:Re (Qi.ofInt 1):=⟨rfl⟩
theorem Re.q32 (p:Nat):Re (q32 p):=⟨a0x p⟩
theorem Re.of {x:Qi} (h:x.b = 0):Re x:=⟨Qi.b_zero.1 h⟩
theorem Re.b {x:Qi} (h:Re x):x.b = 0:=Qi.b_zero.2 h.im
theorem Re.rdiv {x y:Qi} (h:Re x) (k:Re y):(x / y).re = x.re / y.re:=(Ru h.im k.im).1
theorem Re.rmul {x y:Qi} (h:Re x):(x * y).re = x.re * y.re:=by rw [Qi.mul_re,h.im]; grind
theorem Re.ext {x y:Qi} (h:Re x) (k:Re y) (e:x.re = y.re):x = y:=Qi.ext' e (by rw [h.im,k.im])
def tP (hot cold a b:Qi):Qi:=(hot - a / b * cold) / (a / b - Qi.ofInt 1)
def tR (hot cold a b:Qi):Qi:=(hot * b - cold * a) / (a - b)
theorem a1o {hot cold a b:Qi} (h:Re hot) (c:Re cold) (x:Re a) (y:Re b):Re (tP hot cold a b):=(h.sub ((x.div y).mul c)).div ((x.div y).sub Re.one)
theorem a1n {hot cold a b:Qi} (h:Re hot) (c:Re cold) (x:Re a) (y:Re b) (h0:b.re ≠ 0) (h1:a.re ≠ b.re):tP hot cold a b = tR hot cold a b:=by
 refine Re.ext (a1o h c x y) (((h.mul y).sub (c.mul x)).div (x.sub y)) ?_
 unfold tP tR
 rw [(h.sub ((x.div y).mul c)).rdiv ((x.div y).sub Re.one),((h.mul y).sub (c.mul x)).rdiv (x.sub y),Qi.sub_re,Qi.sub_re,Qi.sub_re,Qi.sub_re,(x.div y).rmul,x.rdiv y,h.rmul,c.rmul]
 show (hot.re - a.re / b.re * cold.re) / (a.re / b.re - ((1:Int):Rat)) = (hot.re * b.re - cold.re * a.re) / (a.re - b.re)
 generalize hot.re = H
 generalize cold.re = K
 generalize a.re = p at *
 generalize b.re = q at *
 have e:p = p / q * q:=by grind
 generalize p / q = y at *
 subst e
 have hy:y - 1 ≠ 0:=by grind
 have e1:y * q - q = (y - 1) * q:=by grind
 have e2:H * q - K * (y * q) = (H - y * K) * q:=by grind
 rw [e1,e2]
 show (H - y * K) / (y - 1) = _
 grind
theorem pos_re {x:Qi} (h:jU x = true):Re x:=Re.of (a0w h)
theorem zA {p:Nat} (h:pw p = true):fin Ieee.single p = true:=by
 unfold pw at h; simp only [Bool.and_eq_true] at h; exact h.1
theorem Cq {p:Nat} (h:pw p = true):0 < (q32 p).re:=by
 unfold pw at h; simp only [Bool.and_eq_true,decide_eq_true_eq] at h; exact Kw.2 h.2
def Rv (hot cold:Qi) (p q:Nat):Int:=if !zK hot || !zK cold || !pw p || !pw q then 1 else if decide (vQ hot cold ≤ 0) || decide (av Ieee.single p ≤ av Ieee.single q) then 7 else if (tR hot cold (q32 p) (q32 q)).re < 0 then 5 else 0
def Wq (hot cold:Qi) (p q:Nat):Qi × Int:=if Rv hot cold p q = 0 then (tR hot cold (q32 p) (q32 q),0) else (Qi.zero,Rv hot cold p q)
structure zZ (hot cold:Qi) (p q:Nat):Prop where
 h:Re hot
 c:Re cold
 pp:pw p = true
 pq:pw q = true
 ord:¬ av Ieee.single p ≤ av Ieee.single q
theorem zZ.eq {hot cold : Qi} {p q : Nat} (h : zZ hot cold p q) : tP hot cold (q32 p) (q32 q) = tR hot cold (q32 p) (q32 q) :=
 a1n h.h h.c (Re.q32 p) (Re.q32 q) (fun e=>by have:=Cq h.pq; rw [e] at this; exact Rat.lt_irrefl this) (fun e=>h.ord (Ib.1 (by rw [e]; exact Rat.le_refl)))
theorem zZ.ne {hot cold:Qi} {p q:Nat} (h:zZ hot cold p q):q32 q ≠ Qi.zero ∧ q32 p - q32 q ≠ Qi.zero ∧ q32 p / q32 q - Qi.ofInt 1 ≠ Qi.zero:=by
 have h0:(q32 q).re ≠ 0:=fun e=>by have:=Cq h.pq; rw [e] at this; exact Rat.lt_irrefl this
 have h1:(q32 p).re ≠ (q32 q).re:=fun e=>h.ord (Ib.1 (by rw [e]; exact Rat.le_refl))
 refine ⟨fun e=>h0 (by rw [e]; rfl),Qi.sub_ne h1,Qi.sub_ne ?_⟩
 rw [(Re.q32 p).rdiv (Re.q32 q)]
 show _ ≠ ((1:Int):Rat)
 intro e
 apply h1
 have:(q32 p).re / (q32 q).re = 1:=e
 grind
theorem zZ.real {hot cold:Qi} {p q:Nat} (h:zZ hot cold p q):Re (tR hot cold (q32 p) (q32 q)):=((h.h.mul (Re.q32 q)).sub (h.c.mul (Re.q32 p))).div ((Re.q32 p).sub (Re.q32 q))
theorem a16 {x:Qi} (h:Re x):kR x (Qi.ofInt 1) < 0 ↔ x.re < 1:=by
 rw [mJ h.b (Qi.int_a 1).2.1,Jq]; exact Iff.rfl
theorem a1h {x:Qi} (h:Re x):Cr x (Qi.ofInt 1) < 0 ↔ x.re < 1:=by
 rw [uQ h.b (Qi.int_a 1).2.1,Jq]; exact Iff.rfl
theorem uO {m:Nat} (hm:m < 16777216):Ieee.single.nearest false m 0 < 4294967296 ∧ fin Ieee.single (Ieee.single.nearest false m 0) = true ∧ av Ieee.single (Ieee.single.nearest false m 0) = (m * 2 ^ 149:Nat):=by
 by_cases h0:m = 0
 ·subst h0
  have:Ieee.single.nearest false 0 0 = 0:=by decide
  rw [this]; refine ⟨by decide,by decide,?_⟩
  rw [Nat.zero_mul]; decide
 ·have hl : m.log2 < 24 := (Nat.log2_lt h0).2 hm
  have l1:2 ^ m.log2 ≤ m:=Nat.log2_self_le h0
  have l2:m < 2 ^ (m.log2 + 1):=Nat.lt_log2_self
  have b1:m * 2 ^ (23 - m.log2) < 2 ^ (m.log2 + 1) * 2 ^ (23 - m.log2):=Nat.mul_lt_mul_of_pos_right l2 (Nat.two_pow_pos _)
  rw [← Nat.pow_add,show m.log2 + 1 + (23 - m.log2) = 24 by omega,show (2:Nat) ^ 24 = 16777216 by decide] at b1
  have b2:2 ^ m.log2 * 2 ^ (23 - m.log2) ≤ m * 2 ^ (23 - m.log2):=Nat.mul_le_mul_right _ l1
  rw [← Nat.pow_add,show m.log2 + (23 - m.log2) = 23 by omega,show (2:Nat) ^ 23 = 8388608 by decide] at b2
  have b3 : m * 2 ^ (23 - m.log2) * 2 ^ (m.log2 + 126) = m * 2 ^ 149 := by
   rw [Nat.mul_assoc,← Nat.pow_add,show 23 - m.log2 + (m.log2 + 126) = 149 by omega]
  have e : Ieee.single.nearest false m 0 = (m.log2 + 126) * 8388608 + m * 2 ^ (23 - m.log2) := by
   unfold Ieee.Format.nearest
   rw [if_neg h0]
   have hlp:Ieee.single.leastPlace = -149:=by decide
   have hfb:((Ieee.single.fractionBits:Nat):Int) = 23:=rfl
   rw [hlp,hfb]
   have e1:max (0 + (m.log2:Int) - 23) (-149) = (m.log2:Int) - 23:=by omega
   simp only [e1]
   have e2:(0 - ((m.log2:Int) - 23)).toNat = 23 - m.log2:=by omega
   have e3:((m.log2:Int) - 23 - 0).toNat = 0:=by omega
   have e4:((m.log2:Int) - 23 - (-149)).toNat = m.log2 + 126:=by omega
   rw [e2,e3,e4,Up,Lm,Vf,Nat.shiftLeft_eq,Nat.min_eq_left zo]
   rfl
  rw [e]
  generalize m * 2 ^ (23 - m.log2) = K at *
  have hr:rg Ieee.single ((m.log2 + 126) * 8388608 + K) = (m.log2 + 126) * 8388608 + K:=by unfold rg; rw [a1m]; omega
  refine ⟨by omega,?_,?_⟩
  ·unfold fin; rw [hr,Vf]; simp only [decide_eq_true_eq]; omega
  ·have hn : ng Ieee.single ((m.log2 + 126) * 8388608 + K) = false := by unfold ng; rw [a1m]; simp only [beq_eq_false_iff_ne]; omega
   rw [Bk hn,hr]; unfold nn mg up; rw [Lm,if_neg zo]
   have e1:((m.log2 + 126) * 8388608 + K) % 8388608 = K - 8388608:=by omega
   have e2:((m.log2 + 126) * 8388608 + K) / 8388608 - 1 = m.log2 + 126:=by omega
   rw [e1,e2,Nat.add_sub_cancel' b2,b3]
theorem Fq {m:Nat} (hm:m < 16777216):q32 (Ieee.single.nearest false m 0) = Qi.ofInt m:=by
 unfold q32; rw [(uO hm).2.2,← Qi.mk_int]
 refine wS (Nat.two_pow_pos _) (by decide) ?_
 rw [Int.natCast_mul]; show _ * ((1:Nat):Int) = _; rw [Int.natCast_one,Int.mul_one]
theorem Kv {m:Nat} (h0:0 < m) (hm:m < 16777216):pw (Ieee.single.nearest false m 0) = true:=by
 obtain ⟨_,h2,h3⟩:=uO hm
 have:=Nat.mul_pos h0 (Nat.two_pow_pos 149)
 unfold pw; rw [h2,h3]; simp only [Bool.true_and,decide_eq_true_eq]
 exact Int.natCast_pos.2 this
def cP (n o a b k:Qi):Qi:=(o - (b - o) / (a - n) * n) / (k - (b - o) / (a - n))
def cR (n o a b k:Qi):Qi:=(n * (k * a - b) + a * (o - k * n)) / (o - k * n + (k * a - b))
theorem a0U {n o a b k:Qi} (hn:Re n) (ho:Re o) (ha:Re a) (hb:Re b) (hk:Re k) (h1:n.re < a.re) (h2:k.re * n.re < o.re) (h3:b.re ≤ k.re * a.re):cP n o a b k = cR n o a b k:=by
 have hr:Re ((b - o) / (a - n)):=(hb.sub ho).div (ha.sub hn)
 refine Re.ext ((ho.sub (hr.mul hn)).div (hk.sub hr)) (((hn.mul ((hk.mul ha).sub hb)).add (ha.mul (ho.sub (hk.mul hn)))).div ((ho.sub (hk.mul hn)).add ((hk.mul ha).sub hb))) ?_
 unfold cP cR
 rw [(ho.sub (hr.mul hn)).rdiv (hk.sub hr),((hn.mul ((hk.mul ha).sub hb)).add (ha.mul (ho.sub (hk.mul hn)))).rdiv ((ho.sub (hk.mul hn)).add ((hk.mul ha).sub hb))]
 simp only [Qi.sub_re,Qi.add_re,hr.rmul,hn.rmul,ha.rmul,hk.rmul,(hb.sub ho).rdiv (ha.sub hn)]
 generalize n.re = n at *
 generalize o.re = o at *
 generalize a.re = a at *
 generalize b.re = b at *
 generalize k.re = k at *
 have h4:a - n ≠ 0:=by grind
 have h5:o - k * n + (k * a - b) ≠ 0:=by grind
 obtain ⟨r,hr⟩:∃ r,r = (b - o) / (a - n):=⟨_,rfl⟩
 have e:b = o + r * (a - n):=by grind
 rw [← hr]
 subst e
 have e1:o - k * n + (k * a - (o + r * (a - n))) = (k - r) * (a - n):=by grind
 have e2:n * (k * a - (o + r * (a - n))) + a * (o - k * n) = (o - r * n) * (a - n):=by grind
 rw [e1] at h5
 rw [e1,e2]
 have h6:k - r ≠ 0:=fun h=>h5 (by rw [h]; grind)
 grind
end Fl
end
section
namespace Fl
def lv (l:List (Nat × Nat)):List (Qi × Qi):=l.map fun e=>(q32 e.1,q32 e.2)
abbrev bI (l:List (Nat × Nat)) (i:Nat):Nat:=(l.getD i (0,0)).1
abbrev bO (l:List (Nat × Nat)) (i:Nat):Nat:=(l.getD i (0,0)).2
theorem gH (l:List (Nat × Nat)):(lv l).length = l.length:=List.length_map _
theorem pY {l:List (Nat × Nat)} {i:Nat} (h:i < l.length):eF (lv l) i = q32 (bI l i) ∧ eV (lv l) i = q32 (bO l i):=by
 unfold eF eV bI bO lv
 simp [List.getD,List.getElem?_map,List.getElem?_eq_getElem h]
def rX (l:List (Nat × Nat)) (i:Nat):Int:=if pw (bI l i) = true ∧ pw (bO l i) = true then (if 0 < i ∧ av Ieee.single (bI l i) ≤ av Ieee.single (bI l (i - 1)) then 7 else 0) else 1
def bM (l:List (Nat × Nat)):Int:=if l.length = 0 ∨ 256 < l.length then 4 else lZ (rX l) l.length
structure LevOk (l:List (Nat × Nat)):Prop where
 pos:∀ i,i < l.length → pw (bI l i) = true ∧ pw (bO l i) = true
 up:∀ i,0 < i → i < l.length → (q32 (bI l (i - 1))).re < (q32 (bI l i)).re
 n0:0 < l.length
 n1:l.length ≤ 256
theorem Ez {l:List (Nat × Nat)} (h:l.length = 0 ∨ 256 < l.length):bM l = 4:=by rw [bM,if_pos h]
theorem Cf {l:List (Nat × Nat)} {k:Nat} {e:Int} (h:¬ (l.length = 0 ∨ 256 < l.length)) (hk:k < l.length) (h0:∀ i,i < k → rX l i = 0) (h1:rX l k = e) (he:e ≠ 0):bM l = e:=by
 have:=Lz h0 (by rw [h1]; exact he) hk
 rw [bM,if_neg h,this,h1]
theorem Hm {l:List (Nat × Nat)} (h:¬ (l.length = 0 ∨ 256 < l.length)) (h0:∀ i,i < l.length → rX l i = 0):bM l = 0:=by
 rw [bM,if_neg h,vB h0]
theorem Ey {l:List (Nat × Nat)} {i:Nat} (h:(!pw (bI l i) || !pw (bO l i)) = true):rX l i = 1:=by
 rw [rX,if_neg]; rintro ⟨a,b⟩; rw [a,b] at h; simp at h
theorem Kj {l:List (Nat × Nat)} {i:Nat} (h:(!pw (bI l i) || !pw (bO l i)) = false):rX l i = if 0 < i ∧ av Ieee.single (bI l i) ≤ av Ieee.single (bI l (i - 1)) then 7 else 0:=by
 rw [rX,if_pos (by simpa using h)]
theorem qY {l:List (Nat × Nat)} {i:Nat} (h:rX l i = 0):(pw (bI l i) = true ∧ pw (bO l i) = true) ∧ (0 < i → av Ieee.single (bI l (i - 1)) < av Ieee.single (bI l i)):=by
 unfold rX at h
 split at h
 ·rename_i c
  refine ⟨c,fun hi=>?_⟩
  split at h
  ·cases h
  ·rename_i c2
   exact Int.not_le.1 fun k=>c2 ⟨hi,k⟩
 ·cases h
theorem oO {l:List (Nat × Nat)} (h:bM l = 0):LevOk l:=by
 unfold bM at h
 split at h
 ·cases h
 ·rename_i c
  have h0:=vC h
  refine ⟨fun i hi=>(qY (h0 i hi)).1,fun i h1 hi=>?_,by omega,by omega⟩
  have:=(qY (h0 i hi)).2 h1
  exact Rat.not_le.1 fun k=>by have:=Ib.1 k; omega
def eN (l:List (Nat × Nat)):List Qi:=l.map fun e=>q32 e.2 / q32 e.1
def pV (l:List (Nat × Nat)):List Qi:=if bM l = 0 then eN l else []
def iY (l:List (Nat × Nat)) (f:Qi):Qi:=eV (lv l) 0 / eF (lv l) 0 * f
def mS (l:List (Nat × Nat)) (f:Qi):Int:=pD (fun e:Qi × Qi=>decide (kR e.2 (iY l f * e.1) ≤ 0)) (lv l)
def fS (f:Qi):Bool:=jU f && decide (f.re < 1)
def iZ (l : List (Nat × Nat)) (f : Qi) : Qi × Int :=
 if bM l ≠ 0 then (Qi.zero,bM l) else if fS f = false then (Qi.zero,1) else if mS l f < 0 then (Qi.zero,5)
 else (cR (eF (lv l) ((mS l f).toNat - 1)) (eV (lv l) ((mS l f).toNat - 1)) (eF (lv l) (mS l f).toNat) (eV (lv l) (mS l f).toNat) (iY l f),0)
theorem kD {l:List (Nat × Nat)} {f:Qi} {e:Int} (h:bM l = e) (he:e ≠ 0):iZ l f = (Qi.zero,e):=by rw [iZ,if_pos (by rw [h]; exact he),h]
theorem jI {l:List (Nat × Nat)} {f:Qi} (h:bM l = 0) (h2:fS f = false):iZ l f = (Qi.zero,1):=by rw [iZ,if_neg (fun k=>k h),if_pos h2]
theorem iE {l:List (Nat × Nat)} {f:Qi} (h:bM l = 0) (h2:fS f = true) (h3:mS l f < 0):iZ l f = (Qi.zero,5):=by rw [iZ,if_neg (fun k=>k h),if_neg (by rw [h2]; decide),if_pos h3]
theorem wI {l : List (Nat × Nat)} {f : Qi} {m : Nat} (h : bM l = 0) (h2 : fS f = true) (h3 : mS l f = m) :
  iZ l f = (cR (eF (lv l) (m - 1)) (eV (lv l) (m - 1)) (eF (lv l) m) (eV (lv l) m) (iY l f),0):=by
 rw [iZ,if_neg (fun k=>k h),if_neg (by rw [h2]; decide),if_neg (by rw [h3]; omega),h3,Int.toNat_natCast]
section
variable {l:List (Nat × Nat)} {f:Qi}
theorem LevOk.re (h:LevOk l) {i:Nat} (hi:i < l.length):Re (eF (lv l) i) ∧ Re (eV (lv l) i) ∧ 0 < (eF (lv l) i).re ∧ 0 < (eV (lv l) i).re:=by
 obtain ⟨e1,e2⟩:=pY hi
 obtain ⟨p1,p2⟩:=h.pos i hi
 rw [e1,e2]; exact ⟨Re.q32 _,Re.q32 _,Cq p1,Cq p2⟩
theorem LevOk.lt (h:LevOk l) {i:Nat} (h0:0 < i) (hi:i < l.length):(eF (lv l) (i - 1)).re < (eF (lv l) i).re:=by
 rw [(pY hi).1,(pY (show i - 1 < l.length by omega)).1]; exact h.up i h0 hi
theorem pJ (h:LevOk l) (hf:fS f = true):Re (iY l f) ∧ (iY l f).re * (eF (lv l) 0).re < (eV (lv l) 0).re:=by
 obtain ⟨r1,r2,p1,p2⟩:=h.re h.n0
 simp only [fS,Bool.and_eq_true,decide_eq_true_eq] at hf
 have rf:=pos_re hf.1
 refine ⟨(r2.div r1).mul rf,?_⟩
 unfold iY
 rw [(r2.div r1).rmul,r2.rdiv r1]
 generalize (eF (lv l) 0).re = x at *
 generalize (eV (lv l) 0).re = y at *
 have hx:x ≠ 0:=fun e=>by rw [e] at p1; exact Rat.lt_irrefl p1
 have e:y / x * f.re * x = y * f.re:=by grind
 rw [e]
 have:y * f.re < y * 1:=Rat.mul_lt_mul_of_pos_left hf.2 p2
 grind
theorem uJ (h:LevOk l) (hf:fS f = true) {i:Nat} (hi:i < l.length):kR (eV (lv l) i) (iY l f * eF (lv l) i) ≤ 0 ↔ (eV (lv l) i).re ≤ (iY l f).re * (eF (lv l) i).re:=by
 obtain ⟨r1,r2,p1,p2⟩:=h.re hi
 have rb:=(pJ h hf).1
 rw [mJ r2.b (rb.mul r1).b,Bu,rb.rmul]
theorem Ke (h:LevOk l) (hf:fS f = true) {i:Nat} (hi:i < l.length):Cr (eV (lv l) i / eF (lv l) i) (iY l f) ≤ 0 ↔ (eV (lv l) i).re ≤ (iY l f).re * (eF (lv l) i).re:=by
 obtain ⟨r1,r2,p1,p2⟩:=h.re hi
 have rb:=(pJ h hf).1
 rw [uQ (r2.div r1).b rb.b,Bu,r2.rdiv r1]
 rw [← Rat.not_lt,Rat.lt_div_iff p1,Rat.not_lt]
theorem Ui (h:LevOk l) (hf:fS f = true) {m:Nat} (hm:m < l.length) (h1:(eV (lv l) m).re ≤ (iY l f).re * (eF (lv l) m).re) (h2:∀ i,i < m → ¬ (eV (lv l) i).re ≤ (iY l f).re * (eF (lv l) i).re):mS l f = m:=by
 have hl:=gH l
 refine wN (Ih zo) (decide_eq_true ((uJ h hf hm).2 h1)) fun i y hi hy=>?_
 rw [← Pv hy]
 exact decide_eq_false fun k=>h2 i hi ((uJ h hf zo).1 k)
theorem Jp (h:LevOk l) (hf:fS f = true) (h2:∀ i,i < l.length → ¬ (eV (lv l) i).re ≤ (iY l f).re * (eF (lv l) i).re):mS l f < 0:=by
 have : mS l f = -1 := qW fun i y hy => by
  have hi:=(List.getElem?_eq_some_iff.1 hy).1
  rw [gH] at hi
  rw [← Pv hy]
  exact decide_eq_false fun k=>h2 i hi ((uJ h hf hi).1 k)
 omega
theorem Ex {α:Type} {p:α → Bool} {l:List α} {m:Nat} (h:pD p l = (m:Int)):∃ x,l[m]? = some x ∧ p x = true ∧ ∀ i y,i < m → l[i]? = some y → p y = false:=by
 unfold pD at h
 split at h
 ·rename_i i e
  obtain ⟨hl,h1,h2⟩:=List.findIdx?_eq_some_iff_getElem.1 e
  have:i = m:=by omega
  subst this
  refine ⟨l[i],List.getElem?_eq_getElem hl,h1,fun j y hj hy=>?_⟩
  obtain ⟨hj2,rfl⟩:=List.getElem?_eq_some_iff.1 hy
  exact Bool.not_eq_true _ ▸ h2 j hj
 ·omega
theorem wE (h:LevOk l) (hf:fS f = true) {m:Nat} (hm:mS l f = m):0 < m ∧ m < l.length ∧ (eV (lv l) m).re ≤ (iY l f).re * (eF (lv l) m).re ∧ (iY l f).re * (eF (lv l) (m - 1)).re < (eV (lv l) (m - 1)).re ∧ (eF (lv l) (m - 1)).re < (eF (lv l) m).re:=by
 obtain ⟨x,h1,h2,h3⟩:=Ex hm
 have hl:=(List.getElem?_eq_some_iff.1 h1).1
 rw [gH] at hl
 rw [← Pv h1] at h2
 have g2:=(uJ h hf hl).1 (of_decide_eq_true h2)
 have hp : 0 < m := Nat.pos_of_ne_zero fun e => by
  subst e; exact Rat.not_lt.2 g2 (pJ h hf).2
 refine ⟨hp,hl,g2,?_,h.lt hp hl⟩
 have:=h3 (m - 1) _ zo (Ih (by rw [gH]; omega))
 exact Rat.not_le.1 fun k=>of_decide_eq_false this ((uJ h hf zo).2 k)
theorem a06 (h:bM l = 0) (hf:fS f = true) {m:Nat} (hm:mS l f = m):iZ l f = (cP (eF (lv l) (m - 1)) (eV (lv l) (m - 1)) (eF (lv l) m) (eV (lv l) m) (iY l f),0):=by
 have ok:=oO h
 obtain ⟨h1,h2,h3,h4,h5⟩:=wE ok hf hm
 obtain ⟨r1,r2,_,_⟩:=ok.re h2
 obtain ⟨r3,r4,_,_⟩:=ok.re (show m - 1 < l.length by omega)
 rw [wI h hf hm,a0U r3 r4 r1 r2 (pJ ok hf).1 h5 h4 h3]
end
end Fl
end
section
namespace Fl
theorem Xx {n o a b k : Qi} (hn : Re n) (ho : Re o) (ha : Re a) (hb : Re b) (hk : Re k) : Re (cR n o a b k) :=
 ((hn.mul ((hk.mul ha).sub hb)).add (ha.mul (ho.sub (hk.mul hn)))).div ((ho.sub (hk.mul hn)).add ((hk.mul ha).sub hb))
theorem Gu {n o a b k : Qi} (hn : Re n) (ho : Re o) (ha : Re a) (hb : Re b) (hk : Re k) (h1 : n.re < a.re) (h2 : k.re * n.re < o.re) (h3 : b.re ≤ k.re * a.re) :
  n.re < (cR n o a b k).re ∧ (cR n o a b k).re ≤ a.re ∧ (o - k * cR n o a b k) * (a - n) + (b - o) * (cR n o a b k - n) = Qi.zero:=by
 have hc:=Xx hn ho ha hb hk
 have e : (cR n o a b k).re = (n.re * (k.re * a.re - b.re) + a.re * (o.re - k.re * n.re)) / (o.re - k.re * n.re + (k.re * a.re - b.re)) := by
  unfold cR
  rw [((hn.mul ((hk.mul ha).sub hb)).add (ha.mul (ho.sub (hk.mul hn)))).rdiv ((ho.sub (hk.mul hn)).add ((hk.mul ha).sub hb))]
  simp only [Qi.sub_re,Qi.add_re,hn.rmul,ha.rmul,hk.rmul]
 have hz : (o - k * cR n o a b k) * (a - n) + (b - o) * (cR n o a b k - n) = Qi.zero := by
  refine Re.ext (((ho.sub (hk.mul hc)).mul (ha.sub hn)).add ((hb.sub ho).mul (hc.sub hn))) ⟨rfl⟩ ?_
  rw [Qi.add_re,(ho.sub (hk.mul hc)).rmul,(hb.sub ho).rmul,Qi.sub_re,Qi.sub_re,Qi.sub_re,Qi.sub_re,hk.rmul,e]
  show _ = ((0:Int):Rat)
  have z0:((0:Int):Rat) = 0:=rfl
  rw [z0]
  generalize n.re = n at *
  generalize o.re = o at *
  generalize a.re = a at *
  generalize b.re = b at *
  generalize k.re = k at *
  have hd:o - k * n + (k * a - b) ≠ 0:=by grind
  obtain ⟨p,hp⟩:∃ p,p = (n * (k * a - b) + a * (o - k * n)) / (o - k * n + (k * a - b)):=⟨_,rfl⟩
  have e2:p * (o - k * n + (k * a - b)) = n * (k * a - b) + a * (o - k * n):=by grind
  rw [← hp]
  grind
 refine ⟨?_,?_,hz⟩
 all_goals
  rw [e]
  generalize n.re = n at *
  generalize o.re = o at *
  generalize a.re = a at *
  generalize b.re = b at *
  generalize k.re = k at *
  have hd:0 < o - k * n + (k * a - b):=by grind
 ·rw [Rat.lt_div_iff hd]
  have:n * (k * a - b) + a * (o - k * n) - n * (o - k * n + (k * a - b)) = (a - n) * (o - k * n):=by grind
  have h5:0 < (a - n) * (o - k * n):=Rat.mul_pos (by grind) (by grind)
  grind
 ·rw [← Rat.not_lt, Rat.lt_div_iff hd, Rat.not_lt]
  have:a * (o - k * n + (k * a - b)) - (n * (k * a - b) + a * (o - k * n)) = (a - n) * (k * a - b):=by grind
  have h5:0 ≤ (a - n) * (k * a - b):=Rat.mul_nonneg (by grind) (by grind)
  grind
end Fl
end
section
namespace Fl
open Ieee
theorem Lv (s:Bool) (n k:Nat) (h0:n ≠ 0):Toward.even.cut s (n * 2 ^ k) k = n:=by
 have hl : k ≤ (n * 2 ^ k).log2 := by
  have:2 ^ k ≤ n * 2 ^ k:=Nat.le_mul_of_pos_left _ (Nat.pos_of_ne_zero h0)
  exact (Nat.le_log2 (Nat.mul_ne_zero h0 (Nat.ne_of_gt (Nat.two_pow_pos _)))).2 this
 unfold Toward.cut
 rw [Nat.min_eq_left zo,Nat.shiftLeft_eq,Nat.one_mul]
 simp only [Nat.mul_div_cancel _ (Nat.two_pow_pos k),Nat.mul_mod_left]
 have:0 < 2 ^ k:=Nat.two_pow_pos k
 have h1:¬ 2 ^ k < 0:=by omega
 have h2:¬ 2 ^ k = 0:=by omega
 simp [h2]
theorem yJ {f:Format} {s:Bool} {m k:Nat} {P:Int} (h0:m ≠ 0) (h1:m.log2 ≤ f.fractionBits) (h2:f.leastPlace ≤ P):f.nearest s (m * 2 ^ k) (P - k) = f.nearest s m P:=by
 have hk:m * 2 ^ k ≠ 0:=Nat.mul_ne_zero h0 (Nat.ne_of_gt (Nat.two_pow_pos _))
 have hl : (m * 2 ^ k).log2 = m.log2 + k := by
  have l1:2 ^ m.log2 ≤ m:=Nat.log2_self_le h0
  have l2:m < 2 ^ (m.log2 + 1):=Nat.lt_log2_self
  rw [Nat.log2_eq_iff hk]
  constructor
  ·rw [Nat.pow_add]; exact Nat.mul_le_mul_right _ l1
  ·rw [show m.log2 + k + 1 = m.log2 + 1 + k by omega,Nat.pow_add]; exact Nat.mul_lt_mul_of_pos_right l2 (Nat.two_pow_pos _)
 unfold Format.nearest
 rw [if_neg hk,if_neg h0,hl]
 have e1:P - (k:Int) + ((m.log2 + k:Nat):Int) - (f.fractionBits:Int) = P + (m.log2:Int) - (f.fractionBits:Int):=by omega
 simp only [e1]
 obtain ⟨last,hlast⟩:∃ last,last = max (P + (m.log2:Int) - (f.fractionBits:Int)) f.leastPlace:=⟨_,rfl⟩
 rw [← hlast]
 have hle:last ≤ P:=by omega
 have ek : Toward.even.cut s ((m * 2 ^ k) <<< (P - k - last).toNat) (last - (P - k)).toNat = Toward.even.cut s (m <<< (P - last).toNat) (last - P).toNat := by
  rw [show (last - P).toNat = 0 by omega,Up,Nat.shiftLeft_eq,Nat.shiftLeft_eq]
  by_cases c:last ≤ P - k
  ·rw [show (last - (P - k)).toNat = 0 by omega,Up,Nat.mul_assoc,← Nat.pow_add,show k + (P - k - last).toNat = (P - last).toNat by omega]
  ·rw [show (P - k - last).toNat = 0 by omega, Nat.pow_zero, Nat.mul_one]
   have : m * 2 ^ k = m * 2 ^ (P - last).toNat * 2 ^ (last - (P - k)).toNat := by
    rw [Nat.mul_assoc,← Nat.pow_add,show (P - last).toNat + (last - (P - k)).toNat = k by omega]
   rw [this,Lv s _ _ (Nat.mul_ne_zero h0 (Nat.ne_of_gt (Nat.two_pow_pos _)))]
 rw [ek]
theorem Qn {a b:Nat} (ha:0 < a) (hb:0 < b) (h:a * b < 16777216):single.mul (single.nearest false a 0) (single.nearest false b 0) = some (single.nearest false (a * b) 0):=by
 have la:a < 16777216:=Nat.lt_of_le_of_lt (Nat.le_mul_of_pos_right a hb) h
 have lb:b < 16777216:=Nat.lt_of_le_of_lt (Nat.le_mul_of_pos_left b ha) h
 obtain ⟨a1,a2,a3⟩:=uO la
 obtain ⟨b1,b2,b3⟩:=uO lb
 have hlp:single.leastPlace = -149:=by decide
 have hN:a * b ≠ 0:=Nat.mul_ne_zero zo zo
 have pos : ∀ x m : Nat, 0 < m → av single x = (m * 2 ^ 149 : Nat) → ng single x = false ∧ mg single (rg single x) * 2 ^ up single (rg single x) = m * 2 ^ 149 := fun x m hm hx => by
  have h0:0 < m * 2 ^ 149:=Nat.mul_pos hm (Nat.two_pow_pos _)
  have hn : ng single x = false := by
   cases hh:ng single x with
   | false=>rfl
   | true=>rw [Zj hh] at hx; omega
  rw [Bk hn] at hx
  exact ⟨hn,Int.ofNat_inj.1 hx⟩
 obtain ⟨n1,n2⟩:=pos _ a ha a3
 obtain ⟨n3,n4⟩:=pos _ b hb b3
 unfold Format.mul
 rw [kY a2,kY b2,n1,n3,hlp]
 simp only [Datum.product,Option.map_some,Format.write]
 generalize mg single (rg single (single.nearest false a 0)) = ma at *
 generalize mg single (rg single (single.nearest false b 0)) = mb at *
 generalize up single (rg single (single.nearest false a 0)) = ua at *
 generalize up single (rg single (single.nearest false b 0)) = ub at *
 congr 1
 show single.nearest false (ma * mb) _ = _
 rw [show (-149 + (ua:Int)) + (-149 + (ub:Int)) = ((ua + ub:Nat):Int) - 298 by omega]
 have hM : ma * mb * 2 ^ (ua + ub) = a * b * (2 ^ 149 * 2 ^ 149) := by
  rw [Nat.pow_add,Nat.mul_mul_mul_comm,n2,n4,Nat.mul_mul_mul_comm]
 generalize ma * mb = M at *
 generalize ua + ub = U at *
 generalize hK:a * b = K at *
 have lK:K.log2 ≤ 23:=by have:=(Nat.log2_lt hN).2 (show K < 2 ^ 24 from h); omega
 rw [← Nat.pow_add] at hM
 have p298:(149 + 149:Nat) = 298:=rfl
 rw [p298] at hM
 obtain ⟨c,hc⟩:∃ c:Nat,c = 298:=⟨_,rfl⟩
 rw [← hc] at hM
 rw [show ((U:Nat):Int) - 298 = (U:Int) - (c:Int) by rw [hc]; rfl]
 by_cases hU:U ≤ c
 ·have e : M = K * 2 ^ (c - U) := by
   have e1:K * 2 ^ c = K * 2 ^ (c - U) * 2 ^ U:=by rw [Nat.mul_assoc,← Nat.pow_add,show c - U + U = c by omega]
   rw [e1] at hM
   exact Nat.eq_of_mul_eq_mul_right (Nat.two_pow_pos U) hM
  rw [e,show (U:Int) - (c:Int) = 0 - ((c - U:Nat):Int) by omega]
  exact yJ hN lK (by rw [hlp]; omega)
 ·have e : K = M * 2 ^ (U - c) := by
   have e1:M * 2 ^ U = M * 2 ^ (U - c) * 2 ^ c:=by rw [Nat.mul_assoc,← Nat.pow_add,show U - c + c = U by omega]
   rw [e1] at hM
   exact (Nat.eq_of_mul_eq_mul_right (Nat.two_pow_pos c) hM).symm
  have hM0:M ≠ 0:=fun z=>by rw [z,Nat.zero_mul] at e; exact hN e
  have lM : M.log2 ≤ 23 := by
   have hle:M ≤ K:=by rw [e]; exact Nat.le_mul_of_pos_right _ (Nat.two_pow_pos _)
   have:=(Nat.log2_lt hM0).2 (show M < 2 ^ 24 from Nat.lt_of_le_of_lt hle h)
   omega
  have:=yJ (f:=single) (s:=false) (m:=M) (k:=U - c) (P:=((U - c:Nat):Int)) hM0 lM (by rw [hlp]; omega)
  rw [Int.sub_self,← e] at this
  rw [this,show (U:Int) - (c:Int) = ((U - c:Nat):Int) by omega]
def flat (c n:Nat):List (Nat × Nat):=(List.range n).map fun i=>(single.nearest false (i + 1) 0,single.nearest false ((i + 1) * c) 0)
theorem flat_len (c n:Nat):(flat c n).length = n:=by simp [flat]
theorem kV {c n i:Nat} (h:i < n):bI (flat c n) i = single.nearest false (i + 1) 0 ∧ bO (flat c n) i = single.nearest false ((i + 1) * c) 0:=by
 unfold bI bO flat
 simp [List.getD,List.getElem?_map,List.getElem?_range h]
theorem flat_next (c n:Nat):flat c (n + 1) = flat c n ++ [(single.nearest false (n + 1) 0,single.nearest false ((n + 1) * c) 0)]:=by
 unfold flat; rw [List.range_succ,List.map_append]; rfl
theorem rW {c i:Nat} (hc:c ≤ 16) (hi:i < 10):(i + 1) * c < 16777216:=by
 have:(i + 1) * c ≤ 10 * 16:=Nat.mul_le_mul zo hc
 omega
theorem Uy {c:Nat} (h0:0 < c) (hc:c ≤ 16):bM (flat c 10) = 0:=by
 refine Hm (by rw [flat_len]; omega) fun i hi=>?_
 rw [flat_len] at hi
 obtain ⟨e1,e2⟩:=kV (c:=c) hi
 unfold rX
 rw [e1,e2,if_pos ⟨Kv zo zo,Kv (Nat.mul_pos zo h0) (rW hc hi)⟩,if_neg]
 rintro ⟨k1,k2⟩
 rw [(kV (c:=c) (show i - 1 < 10 by omega)).1,(uO (show i + 1 < 16777216 by omega)).2.2,(uO (show i - 1 + 1 < 16777216 by omega)).2.2,Int.ofNat_le] at k2
 have:=Nat.le_of_mul_le_mul_right k2 (Nat.two_pow_pos _)
 omega
theorem Ma {c:Nat} (h0:0 < c) (hc:c ≤ 16) (f:Qi):iZ (flat c 10) f = (Qi.zero,if fS f then 5 else 1):=by
 have hz:=Uy h0 hc
 have ok:=oO hz
 cases hf:fS f with
 | false=>exact jI hz hf
 | true =>
  have g : ∀ i, i < 10 → eF (lv (flat c 10)) i = Qi.ofInt ((i + 1 : Nat) : Int) ∧ eV (lv (flat c 10)) i = Qi.ofInt (((i + 1) * c : Nat) : Int) := fun i hi => by
   obtain ⟨e1,e2⟩:=pY (l:=flat c 10) (i:=i) (by rw [flat_len]; exact hi)
   obtain ⟨e3,e4⟩:=kV (c:=c) hi
   rw [e1,e2,e3,e4]
   exact ⟨Fq (show i + 1 < 16777216 by omega),Fq (rW hc hi)⟩
  refine iE hz hf (Jp ok hf fun i hi=>?_)
  rw [flat_len] at hi
  obtain ⟨rb,_⟩:=pJ ok hf
  have hff:=hf
  simp only [fS,Bool.and_eq_true,decide_eq_true_eq] at hff
  have rf:=pos_re hff.1
  have r:∀ n:Int,Re (Qi.ofInt n):=fun n=>⟨rfl⟩
  have hb : (iY (flat c 10) f).re = ((c : Int) : Rat) * f.re := by
   unfold iY
   rw [(g 0 (by decide)).1,(g 0 (by decide)).2,((r _).div (r _)).rmul,(r _).rdiv (r _)]
   show ((((0 + 1) * c:Nat):Int):Rat) / (((0 + 1:Nat):Int):Rat) * f.re = _
   rw [Nat.zero_add,Nat.one_mul]
   have:(((1:Nat):Int):Rat) = 1:=rfl
   rw [this]; grind
  rw [(g i hi).1,(g i hi).2,hb]
  show ¬ ((((i + 1) * c:Nat):Int):Rat) ≤ ((c:Int):Rat) * f.re * (((i + 1:Nat):Int):Rat)
  have e:((((i + 1) * c:Nat):Int):Rat) = (((i + 1:Nat):Int):Rat) * ((c:Int):Rat):=by push_cast; rfl
  have p1:(0:Rat) < (((i + 1:Nat):Int):Rat):=Rat.intCast_lt_intCast.2 (show (0:Int) < ((i + 1:Nat):Int) by omega)
  have p2:(0:Rat) < ((c:Int):Rat):=Rat.intCast_lt_intCast.2 (show (0:Int) < (c:Int) by omega)
  rw [e]
  generalize (((i + 1:Nat):Int):Rat) = x at *
  generalize ((c:Int):Rat) = y at *
  have p3:=Rat.mul_pos p1 p2
  have p4:x * y * f.re < x * y * 1:=Rat.mul_lt_mul_of_pos_left hff.2 p3
  intro k
  have p5:y * f.re * x = x * y * f.re:=by grind
  rw [p5] at k
  have:x * y * 1 = x * y:=by grind
  grind
end Fl
end
section
open Go Go.RowKit
theorem wK:Dc Tryz.prog 256 Extern.MathFloatBits.float64bits:=xX Tryz.func256 (by kernel_rfl) (by kernel_rfl) (by kernel_rfl) (by kernel_rfl)
theorem Ut:Dc Tryz.prog 292 Extern.MathFloatBits.float64frombits:=xX Tryz.func292 (by kernel_rfl) (by kernel_rfl) (by kernel_rfl) (by kernel_rfl)
end
section
open Go Go.RowKit
open Fl
abbrev CbT (k:FloatKind) (a b:Nat):Ty:=Mz k (fun x y=>x = a ∧ y = b)
theorem Kd {P : Program} {f : FuncId} {k : FloatKind} {Q : Nat → Nat → Prop} {U : Ty} (h : ∀ a b, Q a b → bA P f [CbT k a b] U) : bA P f [Mz k Q] U := fun vs V w hi ha => by
 match vs,ha with
 | [v],⟨⟨a,b,e,q⟩,_⟩=>exact h a b q [v] V w hi ⟨⟨a,b,e,rfl,rfl⟩,trivial⟩
theorem Xu (a:Nat):a &&& 4503599627370495 = a % 4503599627370496:=Nat.and_two_pow_sub_one_eq_mod a 52
theorem No (a:Nat):a &&& 2047 = a % 2048:=Nat.and_two_pow_sub_one_eq_mod a 11
theorem a1D {m:Nat} (h:m < 4503599627370496):m ||| 4503599627370496 = 4503599627370496 + m:=by
 rw [Nat.or_comm]; exact (Nat.two_pow_add_eq_or_of_lt (i:=52) h 1).symm ▸ rfl
theorem Ym {a:Nat} (h:iI a ≠ 0):a % 4503599627370496 ||| 4503599627370496 = oP a:=(a1D (Nat.mod_lt _ (by decide))).trans (by rw [oP,if_neg h])
theorem Ph (a:Nat):a / 2 ^ 52 % 2048 = iI a:=by unfold iI; rw [show (2:Nat) ^ 52 = 4503599627370496 by decide]
theorem Vd {a:Nat} (ha:a < 18446744073709551616):Uv .gtr .f64 (Nl a) 9218868437227405311 = some (decide (rg Ieee.double a = Ieee.double.infRung)):=by
 rw [Iv]
 have h:=a0c (f:=Ieee.double) (x:=a % 9223372036854775808) (m:=9218868437227405311) bd (by decide) (by decide)
 have e1:rg Ieee.double (a % 9223372036854775808) = rg Ieee.double a:=by unfold rg; rw [sQ,Nat.mod_mod]
 have e2:ng Ieee.double (a % 9223372036854775808) = false:=by unfold ng; rw [sQ,Nat.div_eq_of_lt (Nat.mod_lt _ (by decide))]; rfl
 rw [e1,e2] at h
 show some (Ieee.double.order _ _ == some .gt) = _
 rw [h]; simp
theorem Qo {a:Nat}:Uv .neq .f64 a a = some (decide (Ieee.double.infRung < rg Ieee.double a)):=congrArg some (Ia bd)
theorem Ly (a:Nat):(!decide (Ieee.double.infRung < rg Ieee.double a) && !decide (rg Ieee.double a = Ieee.double.infRung)) = fin Ieee.double a:=by
 unfold fin; rw [Bool.eq_iff_iff]; simp; omega
def vF (p:Nat):Qi:=if fin Ieee.single p then q32 p else Qi.zero
theorem a0H (p:Nat):aH (vF p) 9:=by
 unfold vF; split
 ·rename_i h; exact ⟨Po h⟩
 ·exact aH.zero (by decide)
theorem a1t (p:Nat):Re (vF p):=by
 unfold vF; split
 ·exact Re.q32 p
 ·exact ⟨rfl⟩
theorem a1s (p:Nat):(decide ((if fin Ieee.single p then (0:Int) else 1) = 0) && decide (0 < kR (vF p) (Qi.ofInt 0))) = pw p:=by
 have e:0 < kR (vF p) (Qi.ofInt 0) ↔ 0 < (vF p).re:=by rw [mJ (a1t p).b (Qi.int_a 0).2.1,Bt]; exact Iff.rfl
 unfold pw
 cases h:fin Ieee.single p with
 | false=>simp
 | true =>
  have:vF p = q32 p:=by unfold vF; rw [if_pos h]
  rw [this] at e
  rw [Bool.eq_iff_iff]; simp [this,e,Kw]
def vD (a:Nat):Qi:=if fin Ieee.double a then Fr a else Qi.zero
def Wid (p a:Nat):Prop:=a < 18446744073709551616 ∧ fin Ieee.double a = fin Ieee.single p ∧ vD a = vF p
theorem Sy {p a:Nat} (h:pF .f32 .f64 p a):Wid p a:=by
 obtain ⟨h1,h2,_⟩:=Yu h
 refine ⟨h1,h2,?_⟩
 unfold vD vF; rw [h2]
 split
 ·rename_i k; exact Rq h k
 ·rfl
theorem Yf {b:Nat} (h:pF .f32 .f64 0 b):b = 0:=by
 unfold pF at h
 rw [if_neg (by decide)] at h
 have e:FloatKind.f32.decode 0 = .number false 0 (-149):=by decide
 rw [e] at h; simp only at h
 have e2:FloatKind.f64.encode (.number false 0 (-149)) = 0:=by decide
 rw [e2] at h
 have e3:(FloatKind.f64.decode 0).isInfinity = false:=by decide
 rw [e3] at h; simpa using h
theorem Jy (a:Nat):iI a < 2048:=Nat.mod_lt _ (by decide)
theorem Fb (a:Nat):oP a < 9007199254740992:=by unfold oP; split <;> omega
abbrev zR (a:Nat):Int:=oF (decide (9223372036854775808 ≤ a)) (oP a)
theorem Gl (a:Nat):(dg (zR a).natAbs).length ≤ 2:=by
 rw [wW]; exact vA (by have:=Fb a; show _ < 4294967296 ^ 2; omega)
theorem Df:zR 0 = 0:=by decide
theorem Pa {a k : Nat} (ha : a < 18446744073709551616) (hk : k = max (iI a) 1 - 1) (hf : fin Ieee.double a = true) :
  Qi.mk' (oF (decide (zR a < 0)) ((zR a).natAbs * 2 ^ k)) (oF (decide (zR 0 < 0)) ((zR 0).natAbs * 2 ^ 0)) (1 * 2 ^ Ta) = vD a:=by
 have h:=Rp ha hk
 have e1:=sP (zR a) (2 ^ k)
 rw [e1,Df,Nat.one_mul,← rI]
 have e2:oF (decide ((0:Int) < 0)) ((0:Int).natAbs * 2 ^ 0) = 0:=by decide
 rw [e2,h]; unfold vD; rw [hf]; rfl
theorem a09 {a:Nat} (ha:a < 18446744073709551616) (he:1075 ≤ iI a):Qi.ofInt (oF (decide (zR a < 0)) ((zR a).natAbs * 2 ^ (max (iI a) 1 - 1075))) = Fr a:=by
 rw [← Qi.mk_int,sP,← rI,show max (iI a) 1 = iI a by omega]
 exact Wn ha he
theorem Ur {a:Nat} (ha:a < 18446744073709551616) (h:max (iI a) 1 < 1075):Qi.mk' (zR a) 0 (1 * 2 ^ (1075 - max (iI a) 1)) = Fr a:=by
 rw [Nat.one_mul]; exact Ro ha rfl h
@[irreducible] def wF:Nat:=2050
theorem Yt:wF = 2050:=by unfold wF; rfl
theorem a1b {a:Nat} (ha:a < 18446744073709551616):Qi.Fit (Fr a) wF:=by
 have hex:=Jy a; have hma:=Fb a; have hw:=zJ; have hF:=Yt
 have hpow:∀ k,2 ^ k ≤ BB ^ k:=fun k=>Nat.pow_le_pow_left (by decide) k
 unfold Fr
 refine Qi.Fit.mk (Nat.two_pow_pos _) ?_ (Nat.pow_pos dB) ?_
 ·rw [tS ha, wW]
  have h1:oP a < BB ^ 2:=by show _ < 4294967296 ^ 2; omega
  have h2:oP a * 2 ^ (iI a - 1) < BB ^ 2 * BB ^ (iI a - 1):=Nat.mul_lt_mul_of_lt_of_le h1 (hpow _) (Nat.pow_pos (by decide))
  rw [← Nat.pow_add] at h2
  exact Nat.lt_of_lt_of_le h2 (Nat.pow_le_pow_right dB zo)
 ·exact Nat.lt_of_le_of_lt (hpow _) (Nat.pow_lt_pow_right (by decide) zo)
def iu:Qi:=Qi.mk' 0 1 1
theorem a1B:iu.a = 0 ∧ iu.b = 1 ∧ iu.den = 1:=Qi.uniq (A:=0) (B:=1) (D:=1) (by decide) (by decide)
theorem a0f:aH iu 1:=⟨Qi.Fit.mk (by decide) (by decide) (by decide) (by decide)⟩
theorem a1E:∀ v V,(dM [Is (.bool false),Is (.slice none 0 0),aB (decide ((1:Int) < 0)),aD (1:Int).natAbs,lA 1 [bD 1]]).p v V → (QT iu).p v V:=by
 obtain ⟨e1,e2,e3⟩:=a1B
 rw [QT,e1,e2,e3]
 exact sZ ⟨mG,iG,mG,mG,nZ,trivial⟩
theorem Xk:Qi.zero * iu = Qi.zero:=by
 refine Qi.ext' ?_ ?_
 ·rw [Qi.mul_re]; show (0:Int) * _ - (0:Rat) * _ = ((0:Int):Rat); have:((0:Int):Rat) = 0:=rfl; grind
 ·rw [Qi.mul_im]; show (0:Int) * _ + (0:Rat) * _ = (0:Rat); have:((0:Int):Rat) = 0:=rfl; grind
theorem Bz (m k:Nat) (h:m < BB ^ 2):(dg (m * 2 ^ k)).length ≤ k + 2:=by
 refine vA ?_
 have:2 ^ k ≤ BB ^ k:=Nat.pow_le_pow_left (by decide) k
 rw [Nat.add_comm,Nat.pow_add]
 exact Nat.mul_lt_mul_of_lt_of_le h this (Nat.pow_pos (by decide))
theorem Tp {a:Nat}:bA Tryz.prog 254 [zN .f64 a] (aB (decide (Ieee.double.infRung < rg Ieee.double a))):=by
 refine bA.intro Tryz.func254 rfl Tryz.ntmps254 rfl (fun cx=>(ts (ro rfl (cQ cV) (eX (ts (rm rfl (rm rfl (ro rfl (rE (Ht rfl) (Ht rfl) (fun x y hx hy=>by subst hx hy; exact Qo)) (ra rfl (eX ?_))))))))))
 exact fW rfl (eU rfl)
section
attribute [local irreducible] callFunc
theorem Zq {a:Nat} (ha:a < 18446744073709551616):bA Tryz.prog 286 [zN .f64 a] (zN .f64 (Nl a)):=by
 refine bA.intro Tryz.func286 rfl Tryz.ntmps286 rfl (fun cx=>(ts (ro rfl (cQ aS.cF) (eX (ts (rm rfl (ro rfl (rC wK (Ht rfl)) (ro rfl (Qx (Ht rfl) ha) (ro rfl (zX Ut (Ht rfl)) (ra rfl (eX ?_)))))))))))
 exact fW rfl (eU rfl)
end
theorem To {a:Nat} (ha:a < 18446744073709551616):bA Tryz.prog 255 [zN .f64 a,NT .i64 0] (aB (decide (rg Ieee.double a = Ieee.double.infRung))):=by
 refine bA.intro Tryz.func255 rfl Tryz.ntmps255 rfl (fun cx=>(ts (ro rfl (cQ cV) (eX (cK (ts (rm rfl (ro rfl (cA (Ht rfl) (cJ 0)) (eX (Ir (Ht rfl) (by decide) (cY (rm rfl (ro rfl (cZ Tryz.call286 (Zq (by assumption)) ⟨(Ht rfl),trivial⟩) ?_)))))))))))))
 refine ra rfl (eX (ts (rm rfl (ro rfl (rE (Ht rfl) aS.cF (fun x y hx hy=>by subst hx hy; exact Vd ha)) (ra rfl (eX ?_))))))
 exact fW rfl (eU rfl)
theorem Jf {a:Nat} (ha:a < 18446744073709551616):bA Tryz.prog 204 [zN .f64 a] (aB (fin Ieee.double a)):=by
 refine bA.intro Tryz.func204 rfl Tryz.ntmps204 rfl (fun cx=>(ts (ro rfl (cQ cV) (eX (ts (rm rfl (ro rfl (cZ Tryz.call254 Tp ⟨(Ht rfl),trivial⟩) (ro rfl (eM (Ht rfl)) (rm rfl (fQ rfl rfl (eK rfl rfl (Ht rfl) (fun h=>cX (Ht rfl))) (fQ rfl rfl (eK rfl rfl (Ht rfl) (fun h=>cZ Tryz.call255 (To (by assumption)) ⟨(fJ rfl h),(cJ 0),trivial⟩)) ?_)))))))))))
 refine fQ rfl rfl (eK rfl rfl (Ht rfl) (fun h=>eM (fJ rfl h))) (ro rfl (cO (Ht rfl) (fun h=>(fJ rfl h))) (ra rfl (eX (fW rfl (fX (eU rfl) ?_)))))
 exact (fA (Ly a))
section
attribute [local irreducible] callFunc
theorem Jo {a:Nat} (ha:a < 18446744073709551616):bA Tryz.prog 205 [zN .f64 a] (eL [cH (zR a),aM .i64 (max (iI a:Int) 1 - 1075)]):=by
 have hex:=Jy a; have hma:=Fb a
 refine bA.intro Tryz.func205 rfl Tryz.ntmps205 rfl (fun cx=>(ts (rn rfl (eW (Ts:=[Is (.bool false),Is (.slice none 0 0)]) O_30 rfl (fun V=>aW zd (aW zd (aG)))) fun B2=>(ro rfl (cQ (cJ 0)) (eX (ts (rm rfl (ro rfl (rC wK (Ht rfl)) (ra rfl (eX (ts (rm rfl (ro rfl (aC.nat (kW rfl (Ht rfl) (cJ 4503599627370495) z7 z7) (Xu a)) ?_)))))))))))))
 refine rm rfl (ro rfl (cC (Ht rfl) (cJ 52) (by decide)) (ro rfl (aC.nat (kW rfl (Ht rfl) (cJ 2047) z7 z7) ((No _).trans (Ph a))) (ro rfl (gZ U_274 U_3 (Ht rfl) z6) (ra rfl (ra rfl (eX (cK (iC (fun (uu:Unit)=>True) (fun (uu:Unit)=>[(2,eB B2 0),(4,NT .u64 a),(5,NT .u64 (oP a)),(6,NT .i64 (iI a))]) (fun (uu:Unit)=>[box B2 30 [Is (.bool false),Is (.slice none 0 0)]]) ?_ (fun uu _=>?_)))))))))
 ·refine ts (rm rfl (ro rfl (dA (Ht rfl) (cJ 0)) (eX (dQ (Ht rfl) (fun hb => ?_) (fun hb => ?_)))))
  ·have hb2 : iI a ≠ 0 := by simp only [decide_eq_true_eq] at hb; omega
   refine cY (rm rfl (ro rfl (aC.nat (lF rfl (Ht rfl) (cJ 4503599627370496) z7 z7) (Ym hb2)) (ra rfl (eX (aO () trivial (zS rfl) (aU (aP rfl) aY))))))
  ·have hb2 : iI a = 0 := by simp only [decide_eq_false_iff_not] at hb; omega
   refine cU (aO () trivial (aQ rfl (aQ rfl (aZ rfl (jY (by rw [oP,if_pos hb2])) (zS rfl)))) (aU (aP rfl) aY))
 ·refine ts (rm rfl (ro rfl (cC (Ht rfl) (cJ 63) (by decide)) (ro rfl (aC.imp (cA (Ht rfl) (cJ 1)) (fA (b := decide (9223372036854775808 ≤ a)) (by rw [Bool.eq_iff_iff]; simp only [decide_eq_true_eq]; omega))) ?_)))
  refine rm rfl (ro rfl (cZ Tryz.call207 (wB (m:=oP a) zo) ⟨(Ht rfl),trivial⟩) (ro rfl (cZ K_197 jO ⟨(Ht rfl),(Ht rfl),trivial⟩) (rm rfl (ro rfl (Wc (Ht rfl) cV) (ro rfl (fP (Ht rfl) cV (vL zo)) (gQ Z_30 (Ht rfl) (Ht rfl) rfl (i:=0) rfl (aK rfl) rfl rfl (ra rfl (eX ?_))))))))
  exact bC rfl (fK A_30 Z_30 rfl (i:=0) rfl rfl) (eU rfl)
end
theorem Ln {a:Nat} (ha:a < 18446744073709551616):bA Tryz.prog 113 [CbT .f64 a 0] (eL [bB (vD a),aM .i64 (if fin Ieee.double a then 0 else 1)]):=by
 have hex:=Jy a; have hma:=Fb a
 have e0:iI 0 = 0:=by decide
 have m0:oP 0 = 0:=by decide
 obtain ⟨k,hk⟩:∃ k,k = max (iI a) 1 - 1:=⟨_,rfl⟩
 have hw:=zJ
 refine bA.intro Tryz.func113 rfl Tryz.ntmps113 rfl (fun cx=>(ts (rn rfl (eW (Ts:=[Is (.bool false),Is (.slice none 0 0),Is (.bool false),Is (.slice none 0 0),Is (.slice none 0 0)]) O_32 rfl (fun V=>aW zd (aW zd (aW zd (aW zd (aW zd (aG))))))) fun B2=>(ro rfl (cQ (cJ 0)) (eX (cK (ts (rm rfl (ro rfl (aC.imp (tW (Ht rfl)) (jP (Q:=_) (fun _ h=>by obtain ⟨_,h1,h2⟩:=h; exact h1))) (ro rfl (cZ Tryz.call204 (Jf (by assumption)) ⟨(Ht rfl),trivial⟩) ?_))))))))))
 refine ro rfl (eM (Ht rfl)) (rm rfl (fQ rfl rfl (eK rfl rfl (Ht rfl) (fun h=>cX (Ht rfl))) (fQ rfl rfl (eK rfl rfl (Ht rfl) (fun h=>aC.imp (tV (fJ rfl h)) (jP (Q:=_) (fun _ h=>by obtain ⟨_,h1,h2⟩:=h; exact h2)))) (fQ rfl rfl (eK rfl rfl (Ht rfl) (fun h=>cZ Tryz.call204 (Jf (a:=0) (by decide)) ⟨(fJ rfl h),trivial⟩)) (fQ rfl rfl (eK rfl rfl (Ht rfl) (fun h=>eM (fJ rfl h))) (ro rfl (iJ (Ht rfl) (fun h=>(fJ rfl h))) (eX (dQ (Ht rfl) (fun hb=>?_) (fun hb=>?_)))))))))
 ·have hb2 : fin Ieee.double a = false := by
   have z:fin Ieee.double 0 = true:=by decide
   rw [z] at hb; simpa using hb
  refine ts (ro rfl (aC.imp (oI ) iU) (gQ Z_32 (Ht rfl) (Ht rfl) rfl (i:=0) rfl (aK rfl) rfl rfl (ro rfl (cQ (cJ 1)) (eX (bC rfl (fX (fK A_32 Z_32 rfl (i:=0) rfl rfl) ?_) (fX (eU rfl) ?_))))))
  ·exact (gK (by unfold vD; rw [hb2]; rfl))
  ·exact (aL (by rw [hb2]; rfl))
 ·have hb2 : fin Ieee.double a = true := by
   simp only [Bool.or_eq_false_iff,Bool.not_eq_false'] at hb; exact hb.1
  refine cU (ts (rm rfl (ro rfl (aC.imp (tW (Ht rfl)) (jP (Q:=_) (fun _ h=>by obtain ⟨_,h1,h2⟩:=h; exact h1))) (ro rfl (cZ Tryz.call205 (Jo (a:=a) ha) ⟨(Ht rfl),trivial⟩) (rm rfl (ro rfl (dK (Ht rfl) rfl) (ro rfl (dK (Ht rfl) rfl) (rn rfl (eW (Ts:=[Is (.bool false),Is (.slice none 0 0)]) O_30 rfl (fun V=>aW zd (aW zd (aG)))) fun B4=>(gQ Z_30 (Ht rfl) (Ht rfl) rfl (i:=1) rfl (aK rfl) rfl rfl (ra rfl (eX (ts (rm rfl (ro rfl (aC.imp (tV (Ht rfl)) (jP (Q:=_) (fun _ h=>by obtain ⟨_,h1,h2⟩:=h; exact h2))) ?_))))))))))))))
  refine ro rfl (cZ Tryz.call205 (Jo (a:=0) (by decide)) ⟨(Ht rfl),trivial⟩) (rm rfl (ro rfl (dK (Ht rfl) rfl) (ro rfl (dK (Ht rfl) rfl) (rn rfl (eW (Ts:=[Is (.bool false),Is (.slice none 0 0)]) O_30 rfl (fun V=>aW zd (aW zd (aG)))) fun B6=>(gQ Z_30 (Ht rfl) (Ht rfl) rfl (i:=2) rfl (aK rfl) rfl rfl (ra rfl (eX (ts (rm rfl (ro rfl (Co (Ht rfl) (vL zo)) (rm rfl (ro rfl (Co (Ht rfl) (vL zo)) (ro rfl (aC.imp (Wd cV (Ht rfl) (Ht rfl)) (aL (b:=((Ta:Nat):Int)) (by rw [e0,hw]; omega))) ?_)))))))))))))
  refine ra rfl (eX (cK ?_))
  have d1:=Gl a
  have d2:=Gl 0
  have d3:(dg ((zR a).natAbs * 2 ^ k)).length ≤ 2050:=Nat.le_trans (Bz _ _ (Nat.lt_of_lt_of_le (yC _) (Nat.pow_le_pow_right dB d1))) zo
  have d4:(dg (1 * 2 ^ Ta)).length ≤ 2050:=Nat.le_trans (Bz _ _ (by decide)) zo
  have hval:=Pa ha hk hb2
  refine fZ (m:=20) (dp 4 rfl (eZ iN (Ht rfl) rfl) (dq 37 0 rfl (eY A_4 Z_4 (Ht rfl) (i:=1) rfl rfl) (dp 4 rfl (eZ dD (Ht rfl) rfl) (dq 39 2 rfl (eY A_28 Z_28 (Ht rfl) (i:=1) rfl rfl) (dp 5 rfl (cX (Ht rfl)) (dp 8 rfl (cX (Ht rfl)) (cL 41 4 42 5 rfl (aC.imp (Ck (Ht rfl) (Ht rfl) (vL zo)) (aL (b:=((k:Nat):Int)) zo)) (cL 40 3 43 6 rfl (cZ Tryz.call206 (Dx (m:=(zR a).natAbs) (k:=k) zo zo) ⟨(Ht rfl),(Ht rfl),trivial⟩) (cL 38 1 44 7 rfl (cZ K_197 jO ⟨(Ht rfl),(Ht rfl),trivial⟩) ?_)))))))))
  refine dp 6 rfl (eZ iN (Ht rfl) rfl) (dq 46 9 rfl (eY A_4 Z_4 (Ht rfl) (i:=2) rfl rfl) (dp 6 rfl (eZ dD (Ht rfl) rfl) (dq 48 11 rfl (eY A_28 Z_28 (Ht rfl) (i:=2) rfl rfl) (dp 7 rfl (cX (Ht rfl)) (dp 8 rfl (cX (Ht rfl)) (cL 50 13 51 14 rfl (aC.imp (Ck (Ht rfl) (Ht rfl) (vL zo)) (aL (b:=((0:Nat):Int)) (by rw [e0,hw]; omega))) ?_))))))
  refine cL 49 12 52 15 rfl (cZ Tryz.call206 (Dx (m:=(zR 0).natAbs) (k:=0) zo zo) ⟨(Ht rfl),(Ht rfl),trivial⟩) (cL 47 10 53 16 rfl (cZ K_197 jO ⟨(Ht rfl),(Ht rfl),trivial⟩) (d0 rfl (aC.imp (bP (xs:=[_]) U_28 Z_24 O_24 (cW (cJ 1) cG) rfl rfl rfl) nZ) (dp 8 rfl (cX (Ht rfl)) (fV aR rfl (by kernel_rfl) (zF (zF (zF (zF (zF (aV ?_))))))))))
  refine ro rfl (cZ Tryz.call206 (Dx (m:=1) (k:=Ta) (by decide) zo) ⟨(Ht rfl),(Ht rfl),trivial⟩) (ro rfl (cZ K_108 (eQ (rS (A:=oF (decide (zR a < 0)) ((zR a).natAbs * 2 ^ k)) (B:=oF (decide (zR 0 < 0)) ((zR 0).natAbs * 2 ^ 0)) (D:=1 * 2 ^ Ta) (by rw [Nat.one_mul]; exact Nat.two_pow_pos _) (by rw [wW]; omega) (by rw [Df]; decide) zo) (gK hval)) ⟨(Ht rfl),(Ht rfl),(Ht rfl),trivial⟩) ?_)
  refine gQ Z_32 (Ht rfl) (Ht rfl) rfl (i:=0) rfl (aK rfl) rfl rfl (ro rfl (cQ (cJ 0)) (eX (bC rfl (fK A_32 Z_32 rfl (i:=0) rfl rfl) (fX (eU rfl) ?_))))
  exact (aL (by rw [hb2]; rfl))
theorem Gv {p : Nat} : bA Tryz.prog 113 [Mz .f64 (fun a b => Wid p a ∧ b = 0)] (eL [bB (vF p), aM .i64 (if fin Ieee.single p then 0 else 1)]) := Kd fun a b h => by
 obtain ⟨h,hb⟩:=h
 subst hb
 have k:=Ln h.1
 rw [h.2.1,h.2.2] at k
 exact k
theorem lU {p:Nat}:bA Tryz.prog 31 [CbT .f32 p 0] (eL [bB (vF p),aM .i64 (if fin Ieee.single p then 0 else 1)]):=by
 refine bA.intro Tryz.func31 rfl Tryz.ntmps31 rfl (fun cx=>(ts (rn rfl (eW (Ts:=[Is (.bool false),Is (.slice none 0 0),Is (.bool false),Is (.slice none 0 0),Is (.slice none 0 0)]) O_32 rfl (fun V=>aW zd (aW zd (aW zd (aW zd (aW zd (aG))))))) fun B2=>(ro rfl (cQ (cJ 0)) (eX (ts (rm rfl (ro rfl (aC.imp (Ra Tryz.runUnderlying67 Tryz.runUnderlying200 (Ht rfl)) (Uq (R:=fun a b=>Wid p a ∧ b = 0) (fun a b h=>by obtain ⟨_,_,⟨rfl,rfl⟩,h1,h2⟩:=h; exact ⟨Sy h1,Yf h2⟩))) ?_))))))))
 refine ro rfl (cZ Tryz.call113 Gv ⟨(Ht rfl),trivial⟩) (ro rfl (dK (Ht rfl) rfl) (ro rfl (dK (Ht rfl) rfl) (gQ Z_32 (Ht rfl) (Ht rfl) rfl (i:=0) rfl (aK rfl) rfl rfl (ra rfl (eX ?_)))))
 exact bC rfl (fK A_32 Z_32 rfl (i:=0) rfl rfl) (eU rfl)
theorem Jh {p:Nat}:bA Tryz.prog 78 [zN .f32 p] (eL [bB (vF p),aB (pw p)]):=by
 refine bA.intro Tryz.func78 rfl Tryz.ntmps78 rfl (fun cx=>(ts (rn rfl (eW (Ts:=[Is (.bool false),Is (.slice none 0 0),Is (.bool false),Is (.slice none 0 0),Is (.slice none 0 0)]) O_32 rfl (fun V=>aW zd (aW zd (aW zd (aW zd (aW zd (aG))))))) fun B2=>(ro rfl (cQ cV) (eX (ts (rm rfl (ro rfl (kL (Ht rfl) aS.cF) (ro rfl (cZ Tryz.call31 lU ⟨(Ht rfl),trivial⟩) (rm rfl (ro rfl (dK (Ht rfl) rfl) (ro rfl (dK (Ht rfl) rfl) ?_))))))))))))
 refine rn rfl (eW (Ts:=[Is (.bool false),Is (.slice none 0 0),Is (.bool false),Is (.slice none 0 0),Is (.slice none 0 0)]) O_32 rfl (fun V=>aW zd (aW zd (aW zd (aW zd (aW zd (aG))))))) fun B4=>gQ Z_32 (Ht rfl) (Ht rfl) rfl (i:=1) rfl (aK rfl) rfl rfl (ra rfl (eX (cK (W.D_start (m:=10) (fun b=>cond b ([box B2 32 [aB (decide ((vF p).a < 0)),aD (vF p).a.natAbs,aB (decide ((vF p).b < 0)),aD (vF p).b.natAbs,aD (du (vF p))],box B4 32 [aB (decide ((vF p).a < 0)),aD (vF p).a.natAbs,aB (decide ((vF p).b < 0)),aD (vF p).b.natAbs,aD (du (vF p))]]) _) 9 ?_))))
 refine W.D_step (Ei:=[(4,_)]) rfl rfl (W.Srcs.cons (W.Src.pre rfl rfl) W.Srcs.nil) rfl (by kernel_rfl) (dX rfl (eJ A_32 Z_32 (Ht rfl) (i:=1) rfl rfl rfl)) (W.D_step (Ei:=[(5,_)]) rfl rfl (W.Srcs.cons (W.Src.pre rfl rfl) W.Srcs.nil) rfl (by kernel_rfl) (dX rfl (cX (Ht rfl))) (W.D_step (Ei:=[(13,_)]) rfl rfl (W.Srcs.cons (W.Src.op 1 rfl rfl) W.Srcs.nil) rfl (by kernel_rfl) (dX rfl (kB (Ht rfl) cV)) (W.D_step (Ei:=[(14,_)]) rfl rfl (W.Srcs.cons (W.Src.op 2 rfl rfl) W.Srcs.nil) rfl (by kernel_rfl) (dX rfl (cX (Ht rfl))) ?_)))
 refine W.D_step (Ei:=[(4,_),(15,_)]) rfl rfl (W.Srcs.cons (W.Src.pre rfl rfl) (W.Srcs.cons (W.Src.op 3 rfl rfl) W.Srcs.nil)) rfl (by kernel_rfl) (eK rfl rfl (Ht rfl) (fun h=>eJ A_32 Z_32 (Ht rfl) (i:=1) rfl rfl rfl)) (W.D_step (Ei:=[(15,_)]) rfl rfl (W.Srcs.cons (W.Src.op 3 rfl rfl) W.Srcs.nil) rfl (by kernel_rfl) (eK rfl rfl (Ht rfl) (fun h=>cZ K_36 (oY (n:=0) (by decide) (by decide)) ⟨(cJ 0),trivial⟩)) (W.D_step (Ei:=[(16,_),(17,_),(15,_)]) rfl rfl (W.Srcs.cons (W.Src.op 4 rfl rfl) (W.Srcs.cons (W.Src.op 5 rfl rfl) (W.Srcs.cons (W.Src.op 3 rfl rfl) W.Srcs.nil))) rfl (by kernel_rfl) (eK rfl rfl (Ht rfl) (fun h=>cZ K_30 (oX (x:=vF p) (y:=Qi.ofInt 0) (L:=9) (M:=1) (hx:=a0H p) (hy:=(aH.zero (Nat.le_refl 1):aH (Qi.ofInt 0) 1)) zo) ⟨(fJ rfl h),(fJ rfl h),trivial⟩)) ?_))
 refine W.D_pure (Ei:=[(18,_),(15,_)]) rfl rfl (W.Srcs.cons (W.Src.op 6 rfl rfl) (W.Srcs.cons (W.Src.op 3 rfl rfl) W.Srcs.nil)) rfl (fun _=>eK rfl rfl (Ht rfl) (fun h=>mX (fJ rfl h) cV)) (W.D_pure (Ei:=[(15,_),(19,_)]) rfl rfl (W.Srcs.cons (W.Src.op 3 rfl rfl) (W.Srcs.cons (W.Src.op 7 rfl rfl) W.Srcs.nil)) rfl (fun _=>dX rfl (cO (Ht rfl) (fun h=>(fJ rfl h)))) (W.D_put (Ei:=[(2,_),(12,_)]) rfl rfl (W.Srcs.cons (W.Src.pre rfl rfl) (W.Srcs.cons (W.Src.op 0 rfl rfl) W.Srcs.nil)) rfl (sV Z_32 (Ht rfl) (Ht rfl) rfl (i:=0) rfl (aK rfl) rfl rfl) ?_))
 refine W.D_done aR rfl (by kernel_rfl) rfl (W.F_val (W.F_val (W.F_val (W.F_val (W.F_val (W.F_val (W.F_val (W.F_val (W.F_val (W.F_put (W.F_nil (ra rfl (eX (bC rfl (fK A_32 Z_32 rfl (i:=0) rfl rfl) (fX (eU rfl) ?_)))))))))))))))
 exact (fA (a1s p))
section
attribute [local irreducible] callFunc
theorem Dv {a:Nat} (ha:a < 18446744073709551616):bA Tryz.prog 277 [zN .f64 a] (aB (fin Ieee.double a)):=by
 refine bA.intro Tryz.func277 rfl Tryz.ntmps277 rfl (fun cx=>(ts (ro rfl (cQ cV) (eX (ts (rm rfl (ro rfl (rC wK (Ht rfl)) (ro rfl (cC (Ht rfl) (cJ 52) (by decide)) (ro rfl (aC.nat (kW rfl (Ht rfl) (cJ 2047) z7 z7) ((No _).trans (Ph a))) (ro rfl (jT (Ht rfl) (cJ 2047)) (ra rfl (eX (fW rfl (fX (eU rfl) ?_))))))))))))))
 exact (fA (by rw [(Ku ha).2.2.2.2.2.2,decide_not]))
theorem Dn {a:Nat} (ha:a < 18446744073709551616):bA Tryz.prog 278 [zN .f64 a] (QT (Fr a)):=by
 have hex:=Jy a; have hma:=Fb a
 have d1:=Gl a
 refine bA.intro Tryz.func278 rfl Tryz.ntmps278 rfl (fun cx=>(ts (rn rfl (eW (Ts:=[Is (.bool false),Is (.slice none 0 0),Is (.bool false),Is (.slice none 0 0),Is (.slice none 0 0)]) O_40 rfl (fun V=>aW zd (aW zd (aW zd (aW zd (aW zd (aG))))))) fun B2=>(eX (ts (rm rfl (ro rfl (rC wK (Ht rfl)) (ra rfl (eX (ts (rm rfl (ro rfl (cC (Ht rfl) (cJ 52) (by decide)) (ro rfl (aC.nat (kW rfl (Ht rfl) (cJ 2047) z7 z7) ((No _).trans (Ph a))) ?_)))))))))))))
 refine ro rfl (gZ U_274 U_3 (Ht rfl) z6) (ra rfl (eX (ts (rm rfl (ro rfl (aC.nat (kW rfl (Ht rfl) (cJ 4503599627370495) z7 z7) (Xu a)) (ra rfl (eX (cK (iC (fun (uu:Unit)=>True) (fun (uu:Unit)=>[(2,eB B2 0),(3,NT .u64 a),(4,NT .i64 (max (iI a) 1)),(5,NT .u64 (oP a))]) (fun (uu:Unit)=>[box B2 40 [Is (.bool false),Is (.slice none 0 0),Is (.bool false),Is (.slice none 0 0),Is (.slice none 0 0)]]) ?_ (fun uu _=>?_))))))))))
 ·refine ts (rm rfl (ro rfl (cA (Ht rfl) (cJ 0)) (eX (dQ (Ht rfl) (fun hb => ?_) (fun hb => ?_)))))
  ·have hb2 : iI a = 0 := by simp only [decide_eq_true_eq] at hb; exact hb
   refine cY (ro rfl (cQ (cJ 1)) (eX (aO () trivial (aQ rfl (aQ rfl (aZ rfl (jY (by rw [hb2]; rfl)) (aZ rfl (jY (by rw [oP,if_pos hb2])) aX)))) (aU (aP rfl) aY))))
  ·have hb2 : iI a ≠ 0 := by simp only [decide_eq_false_iff_not] at hb; exact hb
   refine cY (rm rfl (ro rfl (aC.nat (lF rfl (Ht rfl) (cJ 4503599627370496) z7 z7) (Ym hb2)) (ra rfl (eX (aO () trivial (aQ rfl (aQ rfl (aZ rfl (jY (by show iI a = _; omega)) (zS rfl)))) (aU (aP rfl) aY))))))
 ·refine ts (rm rfl (ro rfl (cC (Ht rfl) (cJ 63) (by decide)) (ro rfl (aC.imp (cA (Ht rfl) (cJ 1)) (fA (b := decide (9223372036854775808 ≤ a)) (by rw [Bool.eq_iff_iff]; simp only [decide_eq_true_eq]; omega))) ?_)))
  refine rm rfl (ro rfl (cZ Tryz.call235 (tD zo) ⟨(Ht rfl),trivial⟩) (ro rfl (cZ K_239 jN ⟨(Ht rfl),(Ht rfl),trivial⟩) (rn rfl (eW (Ts:=[Is (.bool false),Is (.slice none 0 0)]) O_38 rfl (fun V=>aW zd (aW zd (aG)))) fun B6=>(gQ Z_38 (Ht rfl) (Ht rfl) rfl (i:=1) rfl (aK rfl) rfl rfl (eX (cK (ts (rm rfl (ro rfl (lP (Ht rfl) (cJ 1075)) (eX (dQ (Ht rfl) (fun hc=>?_) (fun hc=>?_))))))))))))
  ·have hc2 : 1075 ≤ iI a := by simp only [decide_eq_true_eq] at hc; omega
   have hval:=a09 ha hc2
   have d3:(dg ((zR a).natAbs * 2 ^ (max (iI a) 1 - 1075))).length ≤ 2050:=Nat.le_trans (Bz _ _ (Nat.lt_of_lt_of_le (yC _) (Nat.pow_le_pow_right dB d1))) zo
   refine cK (fZ (m:=10) (dp 6 rfl (eZ iO (Ht rfl) rfl) (dq 27 0 rfl (eY A_4 Z_4 (Ht rfl) (i:=1) rfl rfl) (dp 6 rfl (eZ dR (Ht rfl) rfl) (dq 29 2 rfl (eY A_27 Z_27 (Ht rfl) (i:=1) rfl rfl) (dp 4 rfl (cX (Ht rfl)) (dq 31 4 rfl (dW (Ht rfl) (cJ 1075) zo z6) (cL 30 3 32 5 rfl (cZ Tryz.call281 (Bs (m:=(zR a).natAbs) (k:=max (iI a) 1 - 1075) zo zo) ⟨(Ht rfl),(Ht rfl),trivial⟩) (cL 28 1 33 6 rfl (cZ K_239 jN ⟨(Ht rfl),(Ht rfl),trivial⟩) ?_)))))))))
   refine d0 rfl (tA ) (d0 rfl (bP (xs:=[_]) U_27 Z_24 O_24 (cW (cJ 1) cG) rfl rfl rfl) (fV aR rfl (by kernel_rfl) (zF (zF (aJ (aJ (aV (ro rfl (aC.imp (iK (Ht rfl) (Ht rfl) (Ht rfl)) (fun v V h=>lG hval v V (Yo v V h))) (gQ Z_40 (Ht rfl) (Ht rfl) rfl (i:=0) rfl (aK rfl) rfl rfl (eX ?_))))))))))
   exact fW rfl (fK A_40 Z_40 rfl (i:=0) rfl rfl)
  ·have hc2 : max (iI a) 1 < 1075 := by simp only [decide_eq_false_iff_not] at hc; omega
   have hval:=Ur ha hc2
   obtain ⟨j,hj⟩:∃ j,j = 1075 - max (iI a) 1:=⟨_,rfl⟩
   rw [← hj] at hval
   have d4:(dg (1 * 2 ^ j)).length ≤ 2050:=Nat.le_trans (Bz _ _ (by decide)) zo
   refine cU (cK (fZ (m:=6) (dp 6 rfl (eJ A_38 Z_38 (Ht rfl) (i:=1) rfl rfl rfl) (d0 rfl (aC.imp (tA ) sS) (d0 rfl (aC.imp (bP (xs:=[_]) U_27 Z_24 O_24 (cW (cJ 1) cG) rfl rfl rfl) nZ) (dp 4 rfl (cX (Ht rfl)) (dq 41 3 rfl (aC.nat (dW (cJ 1075) (Ht rfl) zo z6) hj.symm) (cL 40 2 42 4 rfl (cZ Tryz.call281 (Bs (m:=1) (k:=j) (by decide) zo) ⟨(Ht rfl),(Ht rfl),trivial⟩) ?_))))))))
   refine fV aR rfl (by kernel_rfl) (zF (aJ (aJ (aV (ro rfl (cZ K_185 (eQ (qL (A:=zR a) (B:=0) (D:=1 * 2 ^ j) (by rw [Nat.one_mul]; exact Nat.two_pow_pos _) zo (by decide) zo) (lG hval)) ⟨(Ht rfl),(Ht rfl),(Ht rfl),trivial⟩) ?_)))))
   refine gQ Z_40 (Ht rfl) (Ht rfl) rfl (i:=0) rfl (aK rfl) rfl rfl (eX ?_)
   exact fW rfl (fK A_40 Z_40 rfl (i:=0) rfl rfl)
end
theorem He {a:Nat} (ha:a < 18446744073709551616):bA Tryz.prog 236 [CbT .f64 a 0] (eL [QT (vD a),aM .i64 (if fin Ieee.double a then 0 else 1)]):=by
 refine bA.intro Tryz.func236 rfl Tryz.ntmps236 rfl (fun cx=>(ts (rn rfl (eW (Ts:=[Is (.bool false),Is (.slice none 0 0),Is (.bool false),Is (.slice none 0 0),Is (.slice none 0 0)]) O_40 rfl (fun V=>aW zd (aW zd (aW zd (aW zd (aW zd (aG))))))) fun B2=>(ro rfl (cQ (cJ 0)) (eX (cK (ts (rm rfl (ro rfl (aC.imp (tW (Ht rfl)) (jP (Q:=_) (fun _ h=>by obtain ⟨_,h1,h2⟩:=h; exact h1))) (ro rfl (cZ Tryz.call277 (Dv (a:=a) ha) ⟨(Ht rfl),trivial⟩) ?_))))))))))
 refine ro rfl (eM (Ht rfl)) (rm rfl (fQ rfl rfl (eK rfl rfl (Ht rfl) (fun h=>cX (Ht rfl))) (fQ rfl rfl (eK rfl rfl (Ht rfl) (fun h=>aC.imp (tV (fJ rfl h)) (jP (Q:=_) (fun _ h=>by obtain ⟨_,h1,h2⟩:=h; exact h2)))) (fQ rfl rfl (eK rfl rfl (Ht rfl) (fun h=>cZ Tryz.call277 (Dv (a:=0) (by decide)) ⟨(fJ rfl h),trivial⟩)) (fQ rfl rfl (eK rfl rfl (Ht rfl) (fun h=>eM (fJ rfl h))) (ro rfl (iJ (Ht rfl) (fun h=>(fJ rfl h))) (eX (dQ (Ht rfl) (fun hb=>?_) (fun hb=>?_)))))))))
 ·have hb2 : fin Ieee.double a = false := by
   have z:fin Ieee.double 0 = true:=by decide
   rw [z] at hb; simpa using hb
  refine ts (ro rfl (cZ K_84 (nR (n:=0) (by decide) (by decide)) ⟨(cJ 0),trivial⟩) (gQ Z_40 (Ht rfl) (Ht rfl) rfl (i:=0) rfl (aK rfl) rfl rfl (ro rfl (cQ (cJ 1)) (eX (bC rfl (fX (fK A_40 Z_40 rfl (i:=0) rfl rfl) ?_) (fX (eU rfl) ?_))))))
  ·exact (lG (by unfold vD; rw [hb2]; rfl))
  ·exact (aL (by rw [hb2]; rfl))
 ·have hb2 : fin Ieee.double a = true := by
   simp only [Bool.or_eq_false_iff,Bool.not_eq_false'] at hb; exact hb.1
  refine cU (ts (rm rfl (ro rfl (aC.imp (tW (Ht rfl)) (jP (Q:=_) (fun _ h=>by obtain ⟨_,h1,h2⟩:=h; exact h1))) (ro rfl (cZ Tryz.call278 (Dn (a:=a) ha) ⟨(Ht rfl),trivial⟩) (rm rfl (ro rfl (aC.imp (tV (Ht rfl)) (jP (Q:=_) (fun _ h=>by obtain ⟨_,h1,h2⟩:=h; exact h2))) (ro rfl (cZ Tryz.call278 (eQ (Dn (a:=0) (by decide)) (lG Rr)) ⟨(Ht rfl),trivial⟩) (ro rfl (tA ) (ro rfl (cZ Tryz.call179 (pL (n:=1) (by decide) (by decide)) ⟨(cJ 1),trivial⟩) (ro rfl (bP (xs:=[_]) U_27 Z_24 O_24 (cW (cJ 1) cG) rfl rfl rfl) ?_))))))))))
  refine ro rfl (aC.imp (iK (Ht rfl) (Ht rfl) (Ht rfl)) a1E) (ro rfl (cZ K_89 (eQ (pM (x:=Qi.zero) (y:=iu) (L:=1) (M:=1) (hx:=aH.zero (Nat.le_refl 1)) (hy:=a0f) (by decide)) (lG Xk)) ⟨(Ht rfl),(Ht rfl),trivial⟩) (ro rfl (cZ Tryz.call96 (eQ (Bq (x:=Fr a) (y:=Qi.zero) (L:=wF) (M:=1) (hx:=⟨a1b ha⟩) (hy:=aH.zero (Nat.le_refl 1)) (by rw [Yt]; decide)) (lG (y:=vD a) (by rw [Qi.add_zero',vD,if_pos hb2]))) ⟨(Ht rfl),(Ht rfl),trivial⟩) ?_))
  refine gQ Z_40 (Ht rfl) (Ht rfl) rfl (i:=0) rfl (aK rfl) rfl rfl (ro rfl (cQ (cJ 0)) (eX (bC rfl (fK A_40 Z_40 rfl (i:=0) rfl rfl) (fX (eU rfl) ?_))))
  exact (aL (by rw [hb2]; rfl))
theorem Ds {p : Nat} : bA Tryz.prog 236 [Mz .f64 (fun a b => Wid p a ∧ b = 0)] (eL [QT (vF p), aM .i64 (if fin Ieee.single p then 0 else 1)]) := Kd fun a b h => by
 obtain ⟨h,hb⟩:=h
 subst hb
 have k:=He h.1
 rw [h.2.1,h.2.2] at k
 exact k
theorem Br {p:Nat}:bA Tryz.prog 181 [CbT .f32 p 0] (eL [QT (vF p),aM .i64 (if fin Ieee.single p then 0 else 1)]):=by
 refine bA.intro Tryz.func181 rfl Tryz.ntmps181 rfl (fun cx=>(ts (rn rfl (eW (Ts:=[Is (.bool false),Is (.slice none 0 0),Is (.bool false),Is (.slice none 0 0),Is (.slice none 0 0)]) O_40 rfl (fun V=>aW zd (aW zd (aW zd (aW zd (aW zd (aG))))))) fun B2=>(ro rfl (cQ (cJ 0)) (eX (ts (rm rfl (ro rfl (aC.imp (tW (Ht rfl)) (jP (Q:=_) (fun _ h=>by obtain ⟨_,h1,h2⟩:=h; exact h1))) (ro rfl (aC.imp (Fj U_25 Tryz.runUnderlying91 (Ht rfl)) (jP (R:=fun a=>Wid p a) (fun a h=>by obtain ⟨_,rfl,h1⟩:=h; exact Sy h1))) ?_)))))))))
 refine rm rfl (ro rfl (aC.imp (tV (Ht rfl)) (jP (Q:=_) (fun _ h=>by obtain ⟨_,h1,h2⟩:=h; exact h2))) (ro rfl (aC.imp (Fj U_25 Tryz.runUnderlying91 (Ht rfl)) (jP (R:=fun b=>b = 0) (fun a h=>by obtain ⟨_,rfl,h1⟩:=h; exact Yf h1))) (ro rfl (kL (Ht rfl) (Ht rfl)) (ro rfl (cZ Tryz.call236 Ds ⟨(Ht rfl),trivial⟩) (ro rfl (dK (Ht rfl) rfl) (ro rfl (dK (Ht rfl) rfl) (gQ Z_40 (Ht rfl) (Ht rfl) rfl (i:=0) rfl (aK rfl) rfl rfl (ra rfl (eX ?_)))))))))
 exact bC rfl (fK A_40 Z_40 rfl (i:=0) rfl rfl) (eU rfl)
theorem Du {p:Nat}:bA Tryz.prog 83 [zN .f32 p] (aB (pw p)):=by
 refine bA.intro Tryz.func83 rfl Tryz.ntmps83 rfl (fun cx=>(ts (ro rfl (cQ cV) (eX (ts (rm rfl (ro rfl (rE (Ht rfl) aS.cF (r:=(Ieee.single.order p 0 == some .gt)) (fun x y hx hy=>by subst hx hy; rfl)) ?_)))))))
 refine rm rfl (fQ rfl rfl (eK rfl rfl (Ht rfl) (fun h=>cX (Ht rfl))) (fQ rfl rfl (eK rfl rfl (Ht rfl) (fun h=>rE (fJ rfl h) aS.cF (r:=(Ieee.single.order p 2139095039 == some .lt || Ieee.single.order p 2139095039 == some .eq)) (fun x y hx hy=>by subst hx hy; rfl))) ?_))
 refine ro rfl (cO (Ht rfl) (fun h=>(fJ rfl h))) (ra rfl (eX (fW rfl (fX (eU rfl) ?_))))
 exact (fA (a0g bs (by decide) (by decide)))
theorem nS {p:Nat}:bA Tryz.prog 86 [zN .f32 p] (QT (vF p)):=by
 refine bA.intro Tryz.func86 rfl Tryz.ntmps86 rfl (fun cx=>(ts (rn rfl (eW (Ts:=[Is (.bool false),Is (.slice none 0 0),Is (.bool false),Is (.slice none 0 0),Is (.slice none 0 0)]) O_40 rfl (fun V=>aW zd (aW zd (aW zd (aW zd (aW zd (aG))))))) fun B2=>(eX (ts (rm rfl (ro rfl (kL (Ht rfl) aS.cF) (ro rfl (cZ Tryz.call181 Br ⟨(Ht rfl),trivial⟩) (rm rfl (ro rfl (dK (Ht rfl) rfl) (ro rfl (dK (Ht rfl) rfl) ?_)))))))))))
 refine rn rfl (eW (Ts:=[Is (.bool false),Is (.slice none 0 0),Is (.bool false),Is (.slice none 0 0),Is (.slice none 0 0)]) O_40 rfl (fun V=>aW zd (aW zd (aW zd (aW zd (aW zd (aG))))))) fun B3=>gQ Z_40 (Ht rfl) (Ht rfl) rfl (i:=1) rfl (aK rfl) rfl rfl (ra rfl (eX (ts (ro rfl (eJ A_40 Z_40 (Ht rfl) (i:=1) rfl rfl rfl) (gQ Z_40 (Ht rfl) (Ht rfl) rfl (i:=0) rfl (aK rfl) rfl rfl ?_)))))
 refine eX ?_
 exact fW rfl (fK A_40 Z_40 rfl (i:=0) rfl rfl)
end
section
open Go Go.RowKit
theorem Pi:Dc Tryz.prog 12 Extern.MathFloatBits.float32frombits:=xX Tryz.func12 (by kernel_rfl) (by kernel_rfl) (by kernel_rfl) (by kernel_rfl)
end
section
open Go Go.RowKit
open Fl
theorem Hj:aH (Qi.ofInt 1) 1:=⟨Qi.Fit.int (by decide) (by decide)⟩
theorem a1A:aH (Qi.ofInt 0) 1:=aH.zero (Nat.le_refl 1)
theorem Xh {p:Nat} (h:pw p = true):vF p = q32 p:=by unfold vF; rw [if_pos (zA h)]
end
section
open Go Go.RowKit
section
variable {P:Program} {R:eT} {cx:Cx} {n:Nat} {k:List It} {E:bL} {H:Hp}
theorem HH.two {base:Nat} {w:World} {V:aN} {Z:SA} {X:Hp} (h:HH base w V (Z :: X)):HH base w V [Z,hY (SA.emp :: X)]:=by
 have h1:HH base w V ((Z :: X).set 0 SA.emp ++ [Z]):=h.last rfl
 have h2:HH base w V (hY (SA.emp :: X) :: [Z]):=HH.repack h1
 exact h2.pick (is:=[1,0]) ⟨⟨_,rfl,fun _ _ _ h=>h⟩,⟨_,rfl,fun _ _ _ h=>h⟩,trivial⟩ (by decide)
theorem jG.pack {f : FuncId} {Ts : List Ty} {γ : Type} {U : γ → Ty} {X : γ → Hp} {Q : γ → Prop} (h : jG P f Ts [] γ U X Q) : jG P f Ts [] γ U (fun x => [hY (SA.emp :: X x)]) Q :=
 fun cx Z vs V w h1 h2=>(h cx Z vs V w h1 h2).mono fun e w' ⟨v,V',x,a,b,c,d,e'⟩=>⟨v,V',x,a,b,c.withHH c.hp.two,d,e'⟩
end
namespace W
variable {P:Program} {R:eT} {cx:Cx} {n:Nat} {k:List It} {E:bL} {H:Hp} {Hf:Bool → Hp} {p:Nat}
end W
end
section
open Go Go.RowKit
section
variable {P:Program} {n:Nat} {E:bL} {H:Hp}
variable {d:Option Tmp} {t:TypeId} {pos:String} {af:Array Edge} {g:Option (Nat × Bool)}
theorem tU {x i : Operand} {B o q r s : Nat} {kd : IntKind} {j : Int} {e : TypeId} {len : Nat} (hU : ∀ w, (underlying t).run P w = .ok (.array len e) w) (hS : ∀ w, (sizeOf e).run P w = .ok s w)
  (hx:aS E x (eB B o)) (hi:aS E i (aM kd j)) (hj:j = (q:Int)) (hl:q < len) (hr:o + q * s = r) {t':TypeId}:aC P n E H ⟨d,.indexAddr t x i,t',pos,af,g⟩ (eB B r) :=
 bS fun a V w hs => by
  have e1:a.eval x = .pointer (some ⟨B,o,none⟩):=hx n V a hs
  have ei:a.eval i = .int kd j:=hi n V a hs
  subst hj hr
  exact ⟨.pointer (some ⟨B,o + q * s,none⟩),by simp [execOp,e1,ei,Instr.indexAt,Instr.sureAddr,asIntOf,Sem.run_bind,hU,hS,Result.andThen,hl,eP],rfl⟩
theorem oA {x i : Operand} {q s : Nat} {Ts Us : List Ty} {kd : IntKind} {j : Int} {e : TypeId} {len : Nat} (hU : ∀ w, (underlying t).run P w = .ok (.array len e) w) (hS : ∀ w, (sizeOf e).run P w = .ok s w)
  (hx:aS E x (PT (dM Ts))) (hi:aS E i (aM kd j)) (hj:j = (q:Int)) (hl:q < len) (hc:(Ts.drop (q * s)).take s = Us) {t':TypeId}:aC P n E H ⟨d,.indexAddr t x i,t',pos,af,g⟩ (PT (dM Us)) :=
 bS fun a V w hs => by
  obtain ⟨b,o,v,e1,⟨c,BT,fr,e2,e3⟩,vs,rfl,e4⟩:=hx n V a hs
  have ei:a.eval i = .int kd j:=hi n V a hs
  subst hj
  refine ⟨.pointer (some ⟨b,o + q * s,none⟩),by simp [execOp,e1,ei,Instr.indexAt,Instr.sureAddr,asIntOf,Sem.run_bind,hU,hS,Result.andThen,hl,eP],b,o + q * s,.agg ((vs.drop (q * s)).take s).toArray,rfl,⟨c,BT,fr,e2,fun j u hu=>?_⟩,_,rfl,?_⟩
  ·simp only [Value.cells, List.getElem?_toArray, List.getElem?_take, List.getElem?_drop] at hu
   split at hu
   ·have := e3 (q * s + j) u (by simpa [Value.cells] using hu)
    rw [show o + q * s + j = o + (q * s + j) by omega]; exact this
   ·cases hu
  ·rw [← hc]; exact (e4.drop (q * s)).take s
end
end
section
open Go Go.RowKit
theorem fC.mk' {V : aN} : ∀ {Ts : List Ty} {vs : List Value}, vs.length = Ts.length → (∀ (q : Nat) (T : Ty), Ts[q]? = some T → ∃ u, vs[q]? = some u ∧ T.p u V) → fC Ts vs V
 | [],[],_,_=>trivial
 | T :: Ts, v :: vs, h, k => by
  obtain ⟨u,h1,h2⟩:=k 0 T rfl
  simp at h1; subst h1
  exact ⟨h2,fC.mk' (by simpa using h) fun q T hT=>k (q + 1) T (by simpa using hT)⟩
 | [],_ :: _,h,_=>by simp at h
 | _ :: _,[],h,_=>by simp at h
section
variable {P:Program} {R:eT} {cx:Cx} {n:Nat} {k:List It} {E:bL} {H:Hp} {ops:Array Oper} {o:Oper} {rest:List Oper}
variable {d:Option Tmp} {t:TypeId} {pos:String} {af:Array Edge} {g:Option (Nat × Bool)}
end
end
section
open Go Go.RowKit
theorem Dj {n : Nat} {E : bL} {H : Hp} {d : Option Tmp} {t : TypeId} {pos : String} {af : Array Edge} {g : Option (Nat × Bool)} {x0 x1 : Operand} {T0 T1 T2 T3 T4 T5 T6 T7 T8 T9 : Ty} (h0 : aS E x0 (dM [T0, T1, T2, T3, T4])) (h1 : aS E x1 (dM [T5, T6, T7, T8, T9])) :
  aC Tryz.prog n E H ⟨d,.build 188 #[(0,x0),(1,x1)],t,pos,af,g⟩ (dM [T0,T1,T2,T3,T4,T5,T6,T7,T8,T9]) :=
 fE (parts := [(0, x0), (1, x1)]) fun a V w hs => by
  obtain ⟨v0,e0,c0⟩:=h0 n V a hs
  obtain ⟨c0_0,c0_1,c0_2,c0_3,c0_4,rfl⟩:∃ c0_0 c0_1 c0_2 c0_3 c0_4,v0 = [c0_0,c0_1,c0_2,c0_3,c0_4]:=Qf (by simpa using c0.length)
  obtain ⟨v1,e1,c1⟩:=h1 n V a hs
  obtain ⟨c1_0,c1_1,c1_2,c1_3,c1_4,rfl⟩:∃ c1_0 c1_1 c1_2 c1_3 c1_4,v1 = [c1_0,c1_1,c1_2,c1_3,c1_4]:=Qf (by simpa using c1.length)
  refine ⟨.agg #[c0_0,c0_1,c0_2,c0_3,c0_4,c1_0,c1_1,c1_2,c1_3,c1_4],?_,[c0_0,c0_1,c0_2,c0_3,c0_4,c1_0,c1_1,c1_2,c1_3,c1_4],rfl,aW (c0.at (i:=0) rfl rfl) (aW (c0.at (i:=1) rfl rfl) (aW (c0.at (i:=2) rfl rfl) (aW (c0.at (i:=3) rfl rfl) (aW (c0.at (i:=4) rfl rfl) (aW (c1.at (i:=0) rfl rfl) (aW (c1.at (i:=1) rfl rfl) (aW (c1.at (i:=2) rfl rfl) (aW (c1.at (i:=3) rfl rfl) (aW (c1.at (i:=4) rfl rfl) (aG))))))))))⟩
  simp [e0,e1,Instr.build,Instr.fill,Sem.run_bind,Result.andThen,dT,Tryz.zeroValue188,U_188,Z_32]
theorem xK {n : Nat} {E : bL} {H : Hp} {d : Option Tmp} {t : TypeId} {pos : String} {af : Array Edge} {g : Option (Nat × Bool)} {x0 x1 : Operand} {T0 T1 : Ty} [s0 : cI T0 1 false] (h0 : aS E x0 T0) [s1 : cI T1 1 false] (h1 : aS E x1 T1) :
  aC Tryz.prog n E H ⟨d,.build 69 #[(0,x0),(1,x1)],t,pos,af,g⟩ (dM [T0,T1]) :=
 fE (parts := [(0, x0), (1, x1)]) fun a V w hs => by
  have p0:=h0 n V a hs
  generalize e0:a.eval x0 = v0 at p0
  have q0:=(s0.ok v0 V p0).2.2 rfl
  have p1:=h1 n V a hs
  generalize e1:a.eval x1 = v1 at p1
  have q1:=(s1.ok v1 V p1).2.2 rfl
  refine ⟨.agg #[v0,v1],?_,[v0,v1],rfl,aW (⟨p0,q0⟩) (aW (⟨p1,q1⟩) (aG))⟩
  simp [e0,e1,Instr.build,Instr.fill,Sem.run_bind,Result.andThen,dT,q0.cells,q1.cells,O_69,U_69,Z_25]
theorem Pj (a:Addr) (w:World):(Instr.fieldAt 184 (.pointer (some a)) 0).run Tryz.prog w = .ok (.pointer (some (a.add 0))) w:=by
 simp [Instr.fieldAt,Instr.sureAddr,fieldPlace,Sem.run_bind,Result.andThen,Tryz.runUnderlying184,Z_24]
theorem Pk (a:Addr) (w:World):(Instr.fieldAt 184 (.pointer (some a)) 1).run Tryz.prog w = .ok (.pointer (some (a.add 1))) w:=by
 simp [Instr.fieldAt,Instr.sureAddr,fieldPlace,Sem.run_bind,Result.andThen,Tryz.runUnderlying184,Z_24]
theorem kU (a:Addr) (w:World):(Instr.fieldAt 69 (.pointer (some a)) 0).run Tryz.prog w = .ok (.pointer (some (a.add 0))) w:=by
 simp [Instr.fieldAt,Instr.sureAddr,fieldPlace,Sem.run_bind,Result.andThen,U_69,Z_25]
theorem oN (a:Addr) (w:World):(Instr.fieldAt 69 (.pointer (some a)) 1).run Tryz.prog w = .ok (.pointer (some (a.add 1))) w:=by
 simp [Instr.fieldAt,Instr.sureAddr,fieldPlace,Sem.run_bind,Result.andThen,U_69,Z_25]
theorem Qa:Tryz.prog.info? 188 = some Tryz.t188:=by kernel_rfl
theorem Kg:Tryz.prog.info? 69 = some Tryz.t69:=by kernel_rfl
theorem Xg:Tryz.prog.underlying 185 = some (.slice 188):=by kernel_rfl
theorem Sv:Tryz.prog.underlying 52 = some (.slice 69):=by kernel_rfl
end
section
open Go Go.RowKit
open Fl
abbrev LvT (e:Nat × Nat):Ty:=dM [zN .f32 e.1,zN .f32 e.2]
abbrev LwT (e:Nat × Nat):Ty:=dM [NT .u32 e.1,NT .u32 e.2]
abbrev uC (l:List (Nat × Nat)):Ty:=lA 2 (l.map LvT)
abbrev Lj (l:List (Nat × Nat)):Ty:=lA 2 (l.map LwT)
theorem Cz {α:Type} {l:List α} {k:Nat} (d:α) (h:k < l.length):l.take k ++ [l.getD k d] = l.take (k + 1):=by
 rw [List.take_succ_eq_append_getElem h]; simp [List.getD,List.getElem?_eq_getElem h]
def Mf (l:List (Nat × Nat)):List (Qi × Qi):=if bM l = 0 then lv l else []
theorem yA {l:List (Nat × Nat)} {e:Int} (h:bM l = e) (he:e ≠ 0):Mf l = []:=by rw [Mf,if_neg (by rw [h]; exact he)]
theorem wO {l:List (Nat × Nat)} (h:bM l = 0):Mf l = lv l:=by rw [Mf,if_pos h]
theorem qT {l:List (Nat × Nat)} {e:Int} (h:bM l = e) (he:e ≠ 0):pV l = []:=by rw [pV,if_neg (by rw [h]; exact he)]
theorem nU {l:List (Nat × Nat)} (h:bM l = 0):pV l = eN l:=by rw [pV,if_pos h]
theorem eA (l:List (Nat × Nat)):(eN l).length = l.length:=List.length_map _
theorem wP {l : List (Nat × Nat)} {k : Nat} (h1 : pw (bI l k) = true) (h0 : 0 < k → pw (bI l (k - 1)) = true) :
  (decide (0 < k) && (Ieee.single.order (bI l k) (bI l (k - 1)) == some .lt || Ieee.single.order (bI l k) (bI l (k - 1)) == some .eq)) = decide (0 < k ∧ av Ieee.single (bI l k) ≤ av Ieee.single (bI l (k - 1))):=by
 by_cases h:0 < k
 ·rw [a0h (zA h1) (zA (h0 h))]; simp [h]
 ·simp [h]
theorem Vj {l:List (Nat × Nat)} {k:Nat} (h:k < l.length) (h1:pw (bI l k) = true) (h2:pw (bO l k) = true):(lv l).take k ++ [(vF (bI l k),vF (bO l k))] = (lv l).take (k + 1):=by
 rw [Xh h1,Xh h2,← Cz (Qi.zero,Qi.zero) (show k < (lv l).length by rw [gH]; exact h)]
 obtain ⟨e1,e2⟩:=pY h
 congr 2
 exact (Prod.ext e1 e2).symm
theorem nV {l:List (Nat × Nat)} {k:Nat} (h:k < l.length):gv (eN l) k = eV (lv l) k / eF (lv l) k:=by
 obtain ⟨e1,e2⟩:=pY h
 rw [e1,e2]; unfold gv eN bI bO
 simp [List.getD,List.getElem?_map,List.getElem?_eq_getElem h]
theorem Ao {l:List (Nat × Nat)} {k:Nat} (h:k < l.length):(eN l).take k ++ [eV (lv l) k / eF (lv l) k] = (eN l).take (k + 1):=by
 rw [← nV h,← Cz Qi.zero (show k < (eN l).length by rw [eA]; exact h)]
theorem Fl.LevOk.fit {l:List (Nat × Nat)} (h:LevOk l) {i:Nat} (hi:i < l.length):aH (eF (lv l) i) 9 ∧ aH (eV (lv l) i) 9:=by
 obtain ⟨e1,e2⟩:=pY hi
 obtain ⟨p1,p2⟩:=h.pos i hi
 rw [e1,e2]; exact ⟨⟨Po (zA p1)⟩,⟨Po (zA p2)⟩⟩
theorem Fl.LevOk.vf {l:List (Nat × Nat)} (h:LevOk l) {i:Nat} (hi:i < l.length):vF (bI l i) = eF (lv l) i ∧ vF (bO l i) = eV (lv l) i:=by
 obtain ⟨e1,e2⟩:=pY hi
 obtain ⟨p1,p2⟩:=h.pos i hi
 rw [e1,e2,Xh p1,Xh p2]; exact ⟨rfl,rfl⟩
theorem Fl.LevOk.all {l : List (Nat × Nat)} (h : LevOk l) : ∀ e ∈ lv l, aH e.1 9 ∧ aH e.2 9 := fun e he => by
 obtain ⟨i,hi,rfl⟩:=List.getElem_of_mem he
 rw [gH] at hi
 have:=h.fit hi
 have e1:(lv l)[i] = (eF (lv l) i,eV (lv l) i):=by unfold eF eV; simp [List.getD,List.getElem?_eq_getElem (show i < (lv l).length by rw [gH]; exact hi)]
 rw [e1]; exact this
theorem xY {l : List (Nat × Nat)} (h : LevOk l) : fM (eN l) 38 := fun x hx => by
 obtain ⟨i,hi,rfl⟩:=List.getElem_of_mem hx
 rw [eA] at hi
 have e1:(eN l)[i] = gv (eN l) i:=by unfold gv; simp [List.getD,List.getElem?_eq_getElem (show i < (eN l).length by rw [eA]; exact hi)]
 rw [e1,nV hi]
 obtain ⟨f1,f2⟩:=h.fit hi
 have g:aH (eV (lv l) i / eF (lv l) i) (9 + 3 * 9 + 2):=inferInstance
 exact g
theorem Pr {f:Qi}:(!jU f || decide (0 ≤ kR f (Qi.ofInt 1))) = !fS f:=by
 unfold fS
 cases h:jU f with
 | false=>rfl
 | true =>
  have:=a16 (Fl.pos_re h)
  simp only [Bool.not_true,Bool.false_or,Bool.true_and]
  by_cases k:f.re < 1
  ·have:=this.2 k; rw [decide_eq_true k]; simp; omega
  ·have k2 : ¬ kR f (Qi.ofInt 1) < 0 := fun z => k (this.1 z)
   rw [decide_eq_false k]; simp; omega
theorem Ps {f:Qi}:(!jU f || decide (0 ≤ Cr f (Qi.ofInt 1))) = !fS f:=by
 unfold fS
 cases h:jU f with
 | false=>rfl
 | true =>
  have:=a1h (Fl.pos_re h)
  simp only [Bool.not_true,Bool.false_or,Bool.true_and]
  by_cases k:f.re < 1
  ·have:=this.2 k; rw [decide_eq_true k]; simp; omega
  ·have k2 : ¬ Cr f (Qi.ofInt 1) < 0 := fun z => k (this.1 z)
   rw [decide_eq_false k]; simp; omega
theorem vZ {l:List (Nat × Nat)} (h:LevOk l) {f:Qi} {L:Nat} (hf:aH f L):aH (iY l f) (38 + L + 1):=by
 obtain ⟨f1,f2⟩:=h.fit h.n0
 unfold iY
 have g:aH (eV (lv l) 0 / eF (lv l) 0) (9 + 3 * 9 + 2):=inferInstance
 have g2:aH (eV (lv l) 0 / eF (lv l) 0 * f) (9 + 3 * 9 + 2 + L + 1):=inferInstance
 exact g2
theorem uX {l:List (Nat × Nat)} (hl:l.length ≤ 1000):bA Tryz.prog 23 [Lj l] (uC l):=by
 refine bA.intro Tryz.func23 rfl Tryz.ntmps23 rfl (fun cx=>(ts (ro rfl (cQ cV) (eX (ts (ro rfl (cQ cV) (eX (cK (ts (rm rfl (ro rfl (dG U_51 (Ht rfl) aA) (ro rfl (cX (cJ 0)) (eX (eG (uV 69 2 ?_)))))))))))))))
 refine dN (fun (k : Nat) (v : Value) => k ≤ l.length) (fun (k : Nat) (v : Value) => l.length - k) (fun (k : Nat) (v : Value) => [(3, Is v), (6, Lj l), (7, NT .i64 l.length), (8, NT .i64 k)]) (fun (k : Nat) (v : Value) => [bN 69 2 v ((l.take k).map LvT)]) 0 (.slice none 0 0) (Nat.zero_le _)
  (zS rfl) (cE.refl _) (fun k v hk=>?_)
 refine ts (ro rfl (gX (Ht rfl) (Ht rfl)) (eX (cK (dQ (Ht rfl) (fun hd=>?_) (fun hd=>?_)))))
 ·simp only [decide_eq_true_eq] at hd
  refine cU (cK (eG (ts (ro rfl (dZ U_51 Tryz.sizeOf184 (Ht rfl) (Ht rfl) rfl (dY (dU (d:=((0:Nat),(0:Nat))) hd))) (ro rfl (dJ Tryz.isAgg184 Tryz.sizeOf184 (Ht rfl)) (rn rfl (eW (Ts:=[Is (.int .u32 0),Is (.int .u32 0)]) Tryz.zeroValue184 rfl (fun V=>aW zd (aW zd (aG)))) fun B5=>(gQ Tryz.sizeOf184 (Ht rfl) (Ht rfl) rfl (i:=1) rfl (aK rfl) rfl rfl (eX (fZ (m:=9) (dp 3 rfl (cX (Ht rfl)) (dp 5 rfl (eZ Pj (Ht rfl) rfl) (dq 13 1 rfl (eY A_24 Z_24 (Ht rfl) (i:=1) rfl rfl) ?_))))))))))))
  refine dq 14 2 rfl (rM Pi (Ht rfl)) (dp 5 rfl (eZ Pk (Ht rfl) rfl) (dq 16 4 rfl (eY A_24 Z_24 (Ht rfl) (i:=1) rfl rfl) (dq 17 5 rfl (rM Pi (Ht rfl)) (cL 15 3 18 6 rfl (xK (Ht rfl) (Ht rfl)) (dq 19 7 rfl (bP (xs:=[.tmp 19]) U_52 Z_69 O_69 (cW (Ht rfl) cG) rfl rfl rfl) (fV aR rfl (by kernel_rfl) (zF (zF (aJ (aV (mN (inf:=Tryz.t69) Sv Kg rfl rfl rfl (Ht rfl) (Ht rfl) (i:=0) rfl (by simp) (fun T hT=>by simp at hT; subst hT; exact El.ag rfl) (by show _ * 8 ≤ _; simp only [List.length_map,List.length_append,List.length_take,gH,eA,List.length_cons,List.length_nil]; omega) (by simp only [List.length_map,List.length_append,List.length_take,gH,eA,List.length_cons,List.length_nil]; omega) rfl (fun v2=>?_))))))))))))
  refine ra rfl (eX (bF (cY (ro rfl (dV (Ht rfl) (cJ 1) z6) (rm rfl (eX (gE [0] rfl (by decide) (fU (k + 1,v2) hd (by dsimp only; omega) (zS rfl) (aU (dI ((mQ LvT _ (l.getD k ((0:Nat),(0:Nat)))).trans (congrArg _ (Cz ((0:Nat),(0:Nat)) hd)))) aY)))))))))
 ·simp only [decide_eq_false_iff_not] at hd
  refine gV rfl (gJ (i:=0) (tt:=3) rfl rfl kF (ts (rm rfl (ra rfl (eX (fW rfl (fX (eU rfl) ?_)))))))
  exact (kN (by rw [List.take_of_length_le zo]))
theorem Do {l:List (Nat × Nat)} (hn:l.length ≤ 1000000):bA Tryz.prog 101 [uC l] (eL [Xl (Mf l),aM .i64 (bM l)]):=by
 refine bA.intro Tryz.func101 rfl Tryz.ntmps101 rfl (fun cx=>(ts (ro rfl (cQ cV) (ro rfl (cQ (cJ 0)) (eX (cK (ts (rm rfl (ro rfl (dG U_52 (Ht rfl) aA) (ro rfl (cA (Ht rfl) (cJ 0)) (rm rfl (fQ rfl rfl (eK rfl rfl (Ht rfl) (fun h=>cX (Ht rfl))) (fQ rfl rfl (eK rfl rfl (Ht rfl) (fun h=>dG U_52 (fJ rfl h) aA)) (fQ rfl rfl (eK rfl rfl (Ht rfl) (fun h=>dA (fJ rfl h) (cJ 256))) (ro rfl (iJ (Ht rfl) (fun h=>(fJ rfl h))) (eX (dQ (Ht rfl) (fun hb=>?_) (fun hb=>?_))))))))))))))))))
 ·have he : bM l = 4 := Ez (by simpa only [Bool.or_eq_true, decide_eq_true_eq] using hb)
  refine ts (ro rfl (cQ cV) (ro rfl (cQ (cJ 4)) (eX (bC rfl (fX (eU rfl) ?_) (fX (eU rfl) ?_)))))
  ·exact (fun v V h=>by rw [yA he (by decide)]; exact kH v V h)
  ·exact (aL he.symm)
 ·have hne : ¬ (l.length = 0 ∨ 256 < l.length) := by simp only [Bool.or_eq_false_iff, decide_eq_false_iff_not] at hb; omega
  refine cU (ts (ro rfl (cQ cV) (eX (cK (ts (rm rfl (ro rfl (dG U_52 (Ht rfl) aA) (ro rfl (cX (cJ 0)) (eX (eG (uV 188 10 ?_)))))))))))
  refine dN (fun (k : Nat) (v : Value) => k ≤ l.length ∧ ∀ i, i < k → rX l i = 0) (fun (k : Nat) (v : Value) => l.length - k) (fun (k : Nat) (v : Value) => [(0, uC l), (4, Is v), (19, uC l), (20, NT .i64 l.length), (21, NT .i64 k)]) (fun (k : Nat) (v : Value) => [bN 188 10 v (((lv l).take k).map Gi)]) 0 (.slice none 0 0) ⟨Nat.zero_le _, fun i h => by omega⟩
   (zS rfl) (cE.refl _) (fun k v ⟨hk,h0⟩=>?_)
  refine ts (ro rfl (gX (Ht rfl) (Ht rfl)) (eX (cK (dQ (Ht rfl) (fun hc=>?_) (fun hc=>?_)))))
  ·simp only [decide_eq_true_eq] at hc
   refine cU (cK (eG (ts (rm rfl (ro rfl (dZ U_52 Z_69 (Ht rfl) (Ht rfl) rfl (dY (dU (d:=((0:Nat),(0:Nat))) hc))) (ro rfl (dJ Tryz.isAgg69 Z_69 (Ht rfl)) (rn rfl (eW (Ts:=[Is (.float .f32 0),Is (.float .f32 0)]) O_69 rfl (fun V=>aW zd (aW zd (aG)))) fun B6=>(ra rfl (gQ Z_69 (Ht rfl) (Ht rfl) rfl (i:=1) rfl (aK rfl) rfl rfl (eX (ts (ro rfl (eZ kU (Ht rfl) rfl) (ro rfl (eY A_25 Z_25 (Ht rfl) (i:=1) rfl rfl) ?_)))))))))))))
   refine ro rfl (cZ Tryz.call78 (Jh (p:=bI l k)) ⟨(Ht rfl),trivial⟩) (rm rfl (ro rfl (dK (Ht rfl) rfl) (ro rfl (dK (Ht rfl) rfl) (rn rfl (eW (Ts:=[Is (.bool false),Is (.slice none 0 0),Is (.bool false),Is (.slice none 0 0),Is (.slice none 0 0)]) O_32 rfl (fun V=>aW zd (aW zd (aW zd (aW zd (aW zd (aG))))))) fun B7=>(gQ Z_32 (Ht rfl) (Ht rfl) rfl (i:=2) rfl (aK rfl) rfl rfl (ra rfl (eX ?_)))))))
   refine ts (ro rfl (eZ oN (Ht rfl) rfl) (ro rfl (eY A_25 Z_25 (Ht rfl) (i:=1) rfl rfl) (ro rfl (cZ Tryz.call78 (Jh (p:=bO l k)) ⟨(Ht rfl),trivial⟩) (rm rfl (ro rfl (dK (Ht rfl) rfl) (ro rfl (dK (Ht rfl) rfl) (rn rfl (eW (Ts:=[Is (.bool false),Is (.slice none 0 0),Is (.bool false),Is (.slice none 0 0),Is (.slice none 0 0)]) O_32 rfl (fun V=>aW zd (aW zd (aW zd (aW zd (aW zd (aG))))))) fun B9=>?_)))))))
   refine gQ Z_32 (Ht rfl) (Ht rfl) rfl (i:=3) rfl (aK rfl) rfl rfl (ra rfl (eX (cK (ts (rm rfl (ro rfl (eM (Ht rfl)) (rm rfl (fQ rfl rfl (eK rfl rfl (Ht rfl) (fun h=>cX (Ht rfl))) (fQ rfl rfl (eK rfl rfl (Ht rfl) (fun h=>eM (fJ rfl h))) (ro rfl (iJ (Ht rfl) (fun h=>(fJ rfl h))) (eX (dQ (Ht rfl) (fun hd=>?_) (fun hd=>?_)))))))))))))
   ·have he : bM l = 1 := Cf hne hc h0 (Ey hd) (by decide)
    refine ts (ro rfl (cQ cV) (ro rfl (cQ (cJ 1)) (eX (bC rfl (fX (eU rfl) ?_) (fX (eU rfl) ?_)))))
    ·exact (fun v V h=>by rw [yA he (by decide)]; exact kH v V h)
    ·exact (aL he.symm)
   ·have hok := Kj hd
    have hpw:pw (bI l k) = true ∧ pw (bO l k) = true:=by simpa using hd
    have hpr:0 < k → pw (bI l (k - 1)) = true:=fun h=>(qY (h0 (k - 1) zo)).1.1
    refine cU (cK (cK (fZ (m:=11) (dp 5 rfl (cX (Ht rfl)) (dq 44 0 rfl (dA (Ht rfl) (cJ 0)) (dq 45 1 rfl (cX (Ht rfl)) (C.D_step (Ei:=[(6,_),(46,_)]) rfl rfl (bV (bK rfl rfl) (bV (bG 2 rfl rfl) bW)) (eK rfl rfl (Ht rfl) (fun h=>eZ kU (Ht rfl) rfl)) (C.D_step (Ei:=[(47,_),(46,_)]) rfl rfl (bV (bG 3 rfl rfl) (bV (bG 2 rfl rfl) bW)) (eK rfl rfl (Ht rfl) (fun h=>eY A_25 Z_25 (fJ rfl h) (i:=1) rfl rfl)) (C.D_step (Ei:=[(0,_),(46,_)]) rfl rfl (bV (bK rfl rfl) (bV (bG 2 rfl rfl) bW)) (eK rfl rfl (Ht rfl) (fun h=>cX (Ht rfl))) ?_)))))))))
    refine C.D_step (Ei:=[(5,_),(46,_)]) rfl rfl (bV (bK rfl rfl) (bV (bG 2 rfl rfl) bW)) (eK rfl rfl (Ht rfl) (fun h=>cX (Ht rfl))) (C.D_step (Ei:=[(50,_),(46,_)]) rfl rfl (bV (bG 6 rfl rfl) (bV (bG 2 rfl rfl) bW)) (eK rfl rfl (Ht rfl) (fun h=>dW (fJ rfl h) (cJ 1) (by first | omega | (simp at h; omega)) (by show _ < 9223372036854775808; first | omega | (simp at h; omega)))) (C.D_step (Ei:=[(49,_),(51,_),(46,_)]) rfl rfl (bV (bG 5 rfl rfl) (bV (bG 7 rfl rfl) (bV (bG 2 rfl rfl) bW))) (eK rfl rfl (Ht rfl) (fun h=>dZ U_52 Z_69 (fJ rfl h) (fJ rfl h) rfl (dY (dU (d:=((0:Nat),(0:Nat))) (by simp at h; omega))))) ?_))
    refine C.D_step (Ei:=[(52,_),(46,_)]) rfl rfl (bV (bG 8 rfl rfl) (bV (bG 2 rfl rfl) bW)) (eK rfl rfl (Ht rfl) (fun h=>iQ kU (fJ rfl h) rfl)) (C.D_step (Ei:=[(53,_),(46,_)]) rfl rfl (bV (bG 9 rfl rfl) (bV (bG 2 rfl rfl) bW)) (eK rfl rfl (Ht rfl) (fun h=>dJ A_25 Z_25 (fJ rfl h))) (fV aR rfl (by kernel_rfl) (zF (zF (aJ (aJ (aJ (aV (fQ rfl rfl (eK rfl rfl (Ht rfl) (fun h=>rE (fJ rfl h) (fJ rfl h) (r:=(Ieee.single.order (bI l k) (bI l (k - 1)) == some .lt || Ieee.single.order (bI l k) (bI l (k - 1)) == some .eq)) (fun x y hx hy=>by subst hx hy; rfl))) ?_)))))))))
    refine ro rfl (cO (Ht rfl) (fun h=>(fJ rfl h))) (eX (dQ (Ht rfl) (fun hg=>?_) (fun hg=>?_)))
    ·have hg2 : decide (0 < k ∧ av Ieee.single (bI l k) ≤ av Ieee.single (bI l (k - 1))) = true := (wP hpw.1 hpr).symm.trans hg
     have he:bM l = 7:=Cf hne hc h0 (by rw [hok,if_pos (of_decide_eq_true hg2)]) (by decide)
     refine ts (ro rfl (cQ cV) (ro rfl (cQ (cJ 7)) (eX (bC rfl (fX (eU rfl) ?_) (fX (eU rfl) ?_)))))
     ·exact (fun v V h=>by rw [yA he (by decide)]; exact kH v V h)
     ·exact (aL he.symm)
    ·have hg2 : decide (0 < k ∧ av Ieee.single (bI l k) ≤ av Ieee.single (bI l (k - 1))) = false := (wP hpw.1 hpr).symm.trans hg
     have hk0:rX l k = 0:=by rw [hok,if_neg (of_decide_eq_false hg2)]
     refine cU (cY (rm rfl (ro rfl (eJ A_32 Z_32 (Ht rfl) (i:=2) rfl rfl rfl) (ro rfl (eJ A_32 Z_32 (Ht rfl) (i:=3) rfl rfl rfl) (ro rfl (Dj (Ht rfl) (Ht rfl)) (ro rfl (bP (xs:=[.tmp 60]) U_185 Z_188 Tryz.zeroValue188 (cW (Ht rfl) cG) rfl rfl rfl) (mN (inf:=Tryz.t188) Xg Qa rfl rfl rfl (Ht rfl) (Ht rfl) (i:=0) rfl (by simp) (fun T hT=>by simp at hT; subst hT; exact El.ag rfl) (by show _ * 176 ≤ _; simp only [List.length_map,List.length_append,List.length_take,gH,eA,List.length_cons,List.length_nil]; omega) (by simp only [List.length_map,List.length_append,List.length_take,gH,eA,List.length_cons,List.length_nil]; omega) rfl (fun v2=>?_))))))))
     refine ra rfl (eX (bF (cY (ro rfl (dV (Ht rfl) (cJ 1) z6) (rm rfl (eX (gE [0] rfl (by decide) ?_)))))))
     refine fU (k + 1, v2) ⟨hc, fun i h => by
       by_cases e:i = k
       ·rw [e]; exact hk0
       ·exact h0 i zo⟩ (by dsimp only; omega) (zS rfl) (aU (dI ((mQ Gi _ (vF (bI l k),vF (bO l k))).trans (congrArg _ (Vj hc hpw.1 hpw.2)))) aY)
  ·simp only [decide_eq_false_iff_not] at hc
   have he:bM l = 0:=Hm hne (fun i h=>h0 i zo)
   refine gV rfl (gJ (i:=0) (tt:=4) rfl rfl kF (ts (rm rfl (ra rfl (ro rfl (cQ (cJ 0)) (eX (bC rfl (fX (eU rfl) ?_) (fX (eU rfl) ?_))))))))
   ·exact (kN (by rw [wO he,List.take_of_length_le (by rw [gH]; omega)]))
   ·exact (aL he.symm)
theorem Oc {l:List (Nat × Nat)} (hn:l.length ≤ 1000000):bA Tryz.prog 24 [uC l] (eL [fF (pV l),aM .i64 (bM l)]):=by
 refine bA.intro Tryz.func24 rfl Tryz.ntmps24 rfl (fun cx=>(ts (ro rfl (cQ cV) (ro rfl (cQ (cJ 0)) (eX (ts (rm rfl (ro rfl (cZ Tryz.call101 (Do zo) ⟨(Ht rfl),trivial⟩) (rm rfl (ro rfl (dK (Ht rfl) rfl) (ro rfl (dK (Ht rfl) rfl) (ra rfl (ra rfl (eX (cK (ts (rm rfl (ro rfl (nO (Ht rfl) cV) (eX (dQ (Ht rfl) (fun hb=>?_) (fun hb=>?_)))))))))))))))))))))
 ·have he : bM l ≠ 0 := by simpa using hb
  refine ts (rm rfl (ro rfl (cQ cV) (ra rfl (eX (bC rfl (fX (eU rfl) ?_) (fX (eU rfl) ?_))))))
  ·exact (fun v V h=>by rw [qT rfl he]; exact kH v V h)
  ·exact (aL rfl)
 ·have he : bM l = 0 := by simpa using hb
  have ok:=oO he
  refine cU (ts (ro rfl (cQ cV) (eX (cK (ts (rm rfl (ro rfl (dG U_185 (Ht rfl) aA) (ro rfl (cX (cJ 0)) (eX (eG (uV 32 5 ?_)))))))))))
  refine dN (fun (k : Nat) (v : Value) => k ≤ l.length) (fun (k : Nat) (v : Value) => l.length - k) (fun (k : Nat) (v : Value) => [(6, Is v), (17, Xl (lv l)), (18, NT .i64 l.length), (19, NT .i64 k)]) (fun (k : Nat) (v : Value) => [bN 32 5 v (((eN l).take k).map bB)]) 0 (.slice none 0 0) (Nat.zero_le _)
   (aQ rfl (aZ rfl (kN (by rw [wO he])) (aZ rfl (jY (by rw [wO he,gH])) (zS rfl)))) (cE.refl _) (fun k v hk=>?_)
  refine ts (ro rfl (gX (Ht rfl) (Ht rfl)) (eX (cK (dQ (Ht rfl) (fun hc=>?_) (fun hc=>?_)))))
  ·simp only [decide_eq_true_eq] at hc
   have hcl:k < (lv l).length:=by rw [gH]; exact hc
   obtain ⟨f1,f2⟩:=ok.fit hc
   refine cU (cK (eG (ts (ro rfl (dZ U_185 Z_188 (Ht rfl) (Ht rfl) rfl (dY (dU (d:=(Qi.zero,Qi.zero)) hcl))) (ro rfl (dJ Tryz.isAgg188 Z_188 (Ht rfl)) (rn rfl (eW (Ts:=[Is (.bool false),Is (.slice none 0 0),Is (.bool false),Is (.slice none 0 0),Is (.slice none 0 0),Is (.bool false),Is (.slice none 0 0),Is (.bool false),Is (.slice none 0 0),Is (.slice none 0 0)]) Tryz.zeroValue188 rfl (fun V=>aW zd (aW zd (aW zd (aW zd (aW zd (aW zd (aW zd (aW zd (aW zd (aW zd (aG)))))))))))) fun B8=>?_))))))
   refine gQ Z_188 (Ht rfl) (Ht rfl) rfl (i:=1) rfl (aK rfl) rfl rfl (eX (cY (rm rfl (ro rfl (tU U_188 Z_32 (Ht rfl) (cJ 1) rfl (by decide) rfl) (ro rfl (eJ A_32 Z_32 (Ht rfl) (i:=1) rfl rfl rfl) (ro rfl (tU U_188 Z_32 (Ht rfl) (cJ 0) rfl (by decide) rfl) (ro rfl (eJ A_32 Z_32 (Ht rfl) (i:=1) rfl rfl rfl) (ro rfl (cZ Tryz.call80 (wD (x:=eV (lv l) k) (y:=eF (lv l) k) (L:=9) (M:=9) zo) ⟨(Ht rfl),(Ht rfl),trivial⟩) ?_))))))))
   refine ro rfl (bP (xs:=[.tmp 28]) U_54 Z_32 O_32 (cW (Ht rfl) cG) rfl rfl rfl) (mN (inf:=Tryz.t32) oU mD rfl rfl rfl (Ht rfl) (Ht rfl) (i:=0) rfl (by simp) (fun T hT=>by simp at hT; subst hT; exact El.ag rfl) (by show _ * 88 ≤ _; simp only [List.length_map,List.length_append,List.length_take,gH,eA,List.length_cons,List.length_nil]; omega) (by simp only [List.length_map,List.length_append,List.length_take,gH,eA,List.length_cons,List.length_nil]; omega) rfl (fun v2=>?_))
   refine ra rfl (eX (bF (cY (ro rfl (dV (Ht rfl) (cJ 1) z6) (rm rfl (eX (gE [0] rfl (by decide) (fU (k + 1,v2) hc (by dsimp only; omega) (zS rfl) (aU (dI ((mQ bB _ (eV (lv l) k / eF (lv l) k)).trans (congrArg _ (Ao hc)))) aY)))))))))
  ·simp only [decide_eq_false_iff_not] at hc
   refine gV rfl (gJ (i:=0) (tt:=6) rfl rfl kF (ts (rm rfl (ra rfl (ro rfl (cQ (cJ 0)) (eX (bC rfl (fX (eU rfl) ?_) (fX (eU rfl) ?_))))))))
   ·exact (kN (by rw [nU he,List.take_of_length_le (by rw [eA]; omega)]))
   ·exact (aL he.symm)
end
section
open Go Go.RowKit
theorem Ve:Tryz.prog.info? 40 = some Tryz.t40:=by kernel_rfl
theorem a0F:Tryz.prog.underlying 57 = some (.slice 40):=by kernel_rfl
end
section
open Go Go.RowKit
open Fl
theorem Nz {e:Qi × Qi} {k:Qi} {L M:Nat} [h1:aH e.1 L] [h2:aH e.2 L] [h3:aH k M] (h:L + (M + L + 1) ≤ 17592186044415):bA Tryz.prog 104 [Gi e,PT (bB k)] (aB (decide (kR e.2 (k * e.1) ≤ 0))):=by
 refine bA.intro Tryz.func104 rfl Tryz.ntmps104 rfl (fun cx=>(ts (rn rfl (fG (Ht rfl)) fun B2=>(ro rfl (cQ cV) (eX (cK (fZ (m:=6) (dp 2 rfl (tU U_188 Z_32 (Ht rfl) (cJ 1) rfl (by decide) rfl) (dq 4 0 rfl (eJ A_32 Z_32 (Ht rfl) (i:=0) rfl rfl rfl) (dp 1 rfl (dJ A_32 Z_32 (Ht rfl)) (dp 2 rfl (tU U_188 Z_32 (Ht rfl) (cJ 0) rfl (by decide) rfl) (dq 7 3 rfl (eJ A_32 Z_32 (Ht rfl) (i:=0) rfl rfl rfl) (cL 6 2 8 4 rfl (cZ K_29 (lB (x:=k) (y:=e.1) (L:=M) (M:=L) zo) ⟨(Ht rfl),(Ht rfl),trivial⟩) ?_)))))))))))))
 refine fV aR rfl (by kernel_rfl) (zF (aJ (aJ (aV (ro rfl (cZ K_30 (oX (x:=e.2) (y:=k * e.1) (L:=L) (M:=M + L + 1) zo) ⟨(Ht rfl),(Ht rfl),trivial⟩) (ro rfl (yZ (Ht rfl) cV) (ra rfl (eX ?_))))))))
 exact fW rfl (eU rfl)
theorem Dl {γ:Type} {l:List γ} {T:γ → Ty} {p:γ → Bool} [sh:∀ x,cI (T x) 10 true] (hl:l.length ≤ 1000000):bA Tryz.prog 103 [lA 10 (l.map T),Gg Tryz.prog γ (fun x=>[T x]) (fun x=>aB (p x))] (aM .i64 (pD p l)):=by
 refine bA.intro Tryz.func103 rfl Tryz.ntmps103 rfl (fun cx=>(ts (ro rfl (cQ (cJ 0)) (eX (cK (ts (rm rfl (ro rfl (dG U_185 (Ht rfl) aA) (ro rfl (cX (cJ 0)) (eX (eG ?_)))))))))))
 refine fD (fun (k : Nat) => k ≤ l.length ∧ ∀ (i : Nat) (x : γ), i < k → l[i]? = some x → p x = false) (fun (k : Nat) => l.length - k) (fun (k : Nat) => [(0, lA 10 (l.map T)), (1, Gg Tryz.prog γ (fun x => [T x]) (fun x => aB (p x))), (7, NT .i64 l.length), (8, NT .i64 k)]) (fun (k : Nat) => []) 0 ⟨Nat.zero_le _, fun i x h => by omega⟩
  (zS rfl) aY (fun k ⟨hk,hn⟩=>?_)
 refine ts (ro rfl (gX (Ht rfl) (Ht rfl)) (eX (cK (dQ (Ht rfl) (fun hb=>?_) (fun hb=>?_)))))
 ·simp only [decide_eq_true_eq] at hb
  refine cU (cK (eG (ts (rm rfl (ra rfl (eX (ts (rm rfl (rm rfl (rm rfl (ro rfl (dZ U_185 Z_188 (Ht rfl) (Ht rfl) rfl (dY (vS hb))) (ro rfl (dJ Tryz.isAgg188 Z_188 (Ht rfl)) (ro rfl (tT (l[k]) (Ht rfl) ⟨(Ht rfl),trivial⟩) (eX (dQ (Ht rfl) (fun hc=>?_) (fun hc=>?_))))))))))))))))
  ·have hp : p l[k] = true := hc
   refine ts (rm rfl (ra rfl (eX (fW rfl (fX (eU rfl) ?_)))))
   exact (aL (wN (vS hb) hp hn).symm)
  ·have hp : p l[k] = false := hc
   refine cU (bF (cY (ro rfl (dV (Ht rfl) (cJ 1) z6) (rm rfl (eX ?_)))))
   refine fU (k + 1) ⟨hb, fun i x h1 h2 => by
    by_cases e:i = k
    ·subst e; rw [vS hb] at h2; obtain rfl:=Option.some.inj h2; exact hp
    ·exact hn i x zo h2⟩ zo (zS rfl) aY
 ·simp only [decide_eq_false_iff_not] at hb
  refine gV rfl (ts (ro rfl (cQ cV) (eX (fW rfl (fX (eU rfl) ?_)))))
  exact (aL (qW (fun i x h=>hn i x (by have:=(List.getElem?_eq_some_iff.1 h).1; omega) h)).symm)
theorem nN {l:List (Nat × Nat)} {f:Qi} {L:Nat} (hf:aH f L) (hL1:1 ≤ L) (hL:L ≤ 1000000) (hn:l.length ≤ 1000000):bA Tryz.prog 26 [uC l,bB f] (eL [bB (iZ l f).1,aM .i64 (iZ l f).2]):=by
 haveI:=hf; haveI f1:=Hj
 refine bA.intro Tryz.func26 rfl Tryz.ntmps26 rfl (fun cx=>(ts (rn rfl (fG (Ht rfl)) fun B3=>(rn rfl (eW (Ts:=[Is (.bool false),Is (.slice none 0 0),Is (.bool false),Is (.slice none 0 0),Is (.slice none 0 0)]) O_32 rfl (fun V=>aW zd (aW zd (aW zd (aW zd (aW zd (aG))))))) fun B4=>(ro rfl (cQ (cJ 0)) (eX (ts (rm rfl (ro rfl (cZ Tryz.call101 (Do zo) ⟨(Ht rfl),trivial⟩) (rm rfl (ro rfl (dK (Ht rfl) rfl) ?_)))))))))))
 refine ro rfl (dK (Ht rfl) rfl) (ra rfl (ra rfl (eX (cK (ts (rm rfl (ro rfl (nO (Ht rfl) cV) (eX (dQ (Ht rfl) (fun hb=>?_) (fun hb=>?_))))))))))
 ·have hb2 : bM l ≠ 0 := by simpa using hb
  refine ts (ro rfl (aC.imp (oI ) iU) (rm rfl (gQ Z_32 (Ht rfl) (Ht rfl) rfl (i:=1) rfl (aK rfl) rfl rfl (ra rfl (eX (bC rfl (fX (fK A_32 Z_32 rfl (i:=1) rfl rfl) ?_) (fX (eU rfl) ?_)))))))
  ·exact (gK (by first | (rw [kD rfl hb2]; done) | (rw [kD rfl hb2]; rfl)))
  ·exact (aL (by first | (rw [kD rfl hb2]; done) | (rw [kD rfl hb2]; rfl)))
 ·have he : bM l = 0 := by simpa using hb
  have ok:=oO he
  refine cU (cK (cK (fZ (m:=6) (dp 3 rfl (eJ A_32 Z_32 (Ht rfl) (i:=0) rfl rfl rfl) (dq 24 0 rfl (cZ Tryz.call94 (Tu (x:=f) (L:=L) zo) ⟨(Ht rfl),trivial⟩) (dq 25 1 rfl (eM (Ht rfl)) (dq 26 2 rfl (cX (Ht rfl)) (C.D_step (Ei:=[(3,_),(27,_)]) rfl rfl (bV (bK rfl rfl) (bV (bG 3 rfl rfl) bW)) (eK rfl rfl (Ht rfl) (fun h=>eJ A_32 Z_32 (Ht rfl) (i:=0) rfl rfl rfl)) (C.D_step (Ei:=[(27,_)]) rfl rfl (bV (bG 3 rfl rfl) bW) (eK rfl rfl (Ht rfl) (fun h=>cZ K_36 (oY (n:=1) (by decide) (by decide)) ⟨(cJ 1),trivial⟩)) ?_)))))))))
  refine fV aR rfl (by kernel_rfl) (zF (aJ (aJ (aV (fQ rfl rfl (eK rfl rfl (Ht rfl) (fun h=>cZ K_30 (oX (x:=f) (y:=Qi.ofInt 1) (L:=L) (M:=1) zo) ⟨(fJ rfl h),(fJ rfl h),trivial⟩)) (fQ rfl rfl (eK rfl rfl (Ht rfl) (fun h=>kM (fJ rfl h) cV)) (ro rfl (iJ (Ht rfl) (fun h=>(fJ rfl h))) (eX (dQ (Ht rfl) (fun hg=>?_) (fun hg=>?_))))))))))
  ·have hg2 : fS f = false := by rw [show _ = _ from Pr] at hg; simpa using hg
   refine ts (ro rfl (aC.imp (oI ) iU) (gQ Z_32 (Ht rfl) (Ht rfl) rfl (i:=1) rfl (aK rfl) rfl rfl (ro rfl (cQ (cJ 1)) (eX (bC rfl (fX (fK A_32 Z_32 rfl (i:=1) rfl rfl) ?_) (fX (eU rfl) ?_))))))
   ·exact (gK (by first | (rw [jI he hg2]; done) | (rw [jI he hg2]; rfl)))
   ·exact (aL (by first | (rw [jI he hg2]; done) | (rw [jI he hg2]; rfl)))
  ·have hg2 : fS f = true := by rw [show _ = _ from Pr] at hg; simpa using hg
   obtain ⟨f2,f3⟩:=ok.fit ok.n0
   haveI fb:=vZ ok hf
   have hl0:0 < (lv l).length:=by rw [gH]; exact ok.n0
   have hlv:Mf l = lv l:=wO he
   refine nE (E':=[(0,_),(1,_),(3,_),(4,_),(5,_),(6,_),(7,_),(15,_),(16,_),(17,_),(18,_),(19,_),(20,_),(21,_),(24,_),(25,_),(26,_),(27,_),(28,_),(29,_),(30,_),(31,_),(32,_)]) (aQ rfl (aQ rfl (aQ rfl (aQ rfl (aQ rfl (aZ rfl (kN (by rw [hlv])) (zS rfl))))))) ?_
   refine cU (cK (fZ (m:=12) (dp 6 rfl (cX (Ht rfl)) (dq 34 0 rfl (dZ U_185 Z_188 (Ht rfl) (cJ 0) rfl (dY (dU (d:=(Qi.zero,Qi.zero)) hl0))) (dq 35 1 rfl (oA U_188 Z_32 (Ht rfl) (cJ 1) rfl (by decide) rfl) (dq 36 2 rfl (dJ A_32 Z_32 (Ht rfl)) (dp 6 rfl (cX (Ht rfl)) (dq 38 4 rfl (dZ U_185 Z_188 (Ht rfl) (cJ 0) rfl (dY (dU (d:=(Qi.zero,Qi.zero)) hl0))) (dq 39 5 rfl (oA U_188 Z_32 (Ht rfl) (cJ 0) rfl (by decide) rfl) ?_)))))))))
   refine dq 40 6 rfl (dJ A_32 Z_32 (Ht rfl)) (cL 37 3 41 7 rfl (cZ Tryz.call80 (wD (x:=eV (lv l) 0) (y:=eF (lv l) 0) (L:=9) (M:=9) zo) ⟨(Ht rfl),(Ht rfl),trivial⟩) (dp 3 rfl (eJ A_32 Z_32 (Ht rfl) (i:=0) rfl rfl rfl) (cL 42 8 43 9 rfl (cZ K_29 (lB (x:=eV (lv l) 0 / eF (lv l) 0) (y:=f) (L:=9 + 3 * 9 + 2) (M:=L) zo) ⟨(Ht rfl),(Ht rfl),trivial⟩) (C.D_new (Ei:=[]) rfl rfl rfl bW (eW (Ts:=[Is (.bool false),Is (.slice none 0 0),Is (.bool false),Is (.slice none 0 0),Is (.slice none 0 0)]) O_32 rfl (fun V=>aW zd (aW zd (aW zd (aW zd (aW zd (aG))))))) ?_))))
   refine fV aR rfl (by kernel_rfl) (zF (zF (aJ (aJ (aJ (C.F_new (fun B8=>aV (gQ Z_32 (Ht rfl) (Ht rfl) rfl (i:=2) rfl (aK rfl) rfl rfl (eX (cK (gJ (i:=2) (tt:=8) rfl rfl Uz ?_)))))))))))
   obtain ⟨m,hm⟩:∃ m:List {e:Qi × Qi // aH e.1 9 ∧ aH e.2 9},lv l = m.map Subtype.val:=⟨(lv l).attach.map fun x=>⟨x.1,ok.all x.1 x.2⟩,by rw [List.map_map]; exact (List.attach_map_subtype_val (lv l)).symm⟩
   have hml:m.length ≤ 1000000:=by have h:=congrArg List.length hm; rw [gH,List.length_map] at h; omega
   obtain ⟨i,hi⟩:∃ i,i = mS l f:=⟨_,rfl⟩
   have hge:=Vc (fun e:Qi × Qi=>decide (kR e.2 (iY l f * e.1) ≤ 0)) (lv l)
   have hgi:-1 ≤ i:=by rw [hi]; exact hge
   have hi2:pD (fun x:{e:Qi × Qi // aH e.1 9 ∧ aH e.2 9}=>decide (kR x.1.2 (iY l f * x.1.1) ≤ 0)) m = i:=by rw [hi]; unfold mS; rw [hm,Pz]
   refine cY (ro rfl (aC.imp (cX (Ht rfl)) (kN (Us:=m.map fun x=>Gi x.1) (by rw [hm]; simp [List.map_map,Function.comp_def]))) ?_)
   refine ro rfl (Cm (γ:={e:Qi × Qi // aH e.1 9 ∧ aH e.2 9}) (Ts:=fun x=>[Gi x.1]) (U:=fun x=>aB (decide (kR x.1.2 (iY l f * x.1.1) ≤ 0))) Tryz.call104 (fun x=>haveI:=x.2.1; haveI:=x.2.2; Nz (L:=9) (M:=38 + L + 1) zo) ⟨(Ht rfl),trivial⟩) (ro rfl (cZ Tryz.call103 (eQ (Dl (l:=m) (T:=fun x=>Gi x.1) (p:=fun x=>decide (kR x.1.2 (iY l f * x.1.1) ≤ 0)) hml) (aL hi2)) ⟨(Ht rfl),(Ht rfl),trivial⟩) (ra rfl (eX (cK (ts (rm rfl (ro rfl (mY (Ht rfl) cV) (eX (dQ (Ht rfl) (fun hu=>?_) (fun hu=>?_))))))))))
   ·have hu2 : mS l f < 0 := by rw [← hi]; simpa using hu
    refine ts (ro rfl (aC.imp (oI ) iU) (gQ Z_32 (Ht rfl) (Ht rfl) rfl (i:=1) rfl (aK rfl) rfl rfl (ro rfl (cQ (cJ 5)) (eX (bC rfl (fX (fK A_32 Z_32 rfl (i:=1) rfl rfl) ?_) (fX (eU rfl) ?_))))))
    ·exact (gK (by first | (rw [iE he hg2 hu2]; done) | (rw [iE he hg2 hu2]; rfl)))
    ·exact (aL (by first | (rw [iE he hg2 hu2]; done) | (rw [iE he hg2 hu2]; rfl)))
   ·have hu2 : ¬ i < 0 := by simpa using hu
    obtain ⟨q,rfl⟩:∃ q:Nat,i = (q:Int):=⟨i.toNat,by omega⟩
    obtain ⟨h1,h2,-,-,-⟩:=wE ok hg2 hi.symm
    have hq:q < (lv l).length:=by rw [gH]; exact h2
    obtain ⟨g1,g2⟩:=ok.fit h2
    obtain ⟨g3,g4⟩:=ok.fit (show q - 1 < l.length by omega)
    have hcp:=a06 he hg2 hi.symm
    refine cU (cK (Y.D_start (m:=13) [] (bY (Ei:=[(6,_)]) rfl rfl (bQ (bJ rfl rfl) bX) rfl rfl (dX rfl (cX (Ht rfl))) (bY (Ei:=[(9,_)]) rfl rfl (bQ (bJ rfl rfl) bX) rfl rfl (dX rfl (cX (Ht rfl))) (bY (Ei:=[(51,_),(52,_)]) rfl rfl (bQ (bZ 0 rfl rfl) (bQ (bZ 1 rfl rfl) bX)) rfl rfl (dX rfl (dZ U_185 Z_188 (Ht rfl) (Ht rfl) rfl (dY (dU (d:=(Qi.zero,Qi.zero)) hq)))) (bY (Ei:=[(53,_)]) rfl rfl (bQ (bZ 2 rfl rfl) bX) rfl rfl (dX rfl (oA U_188 Z_32 (Ht rfl) (cJ 0) rfl (by decide) rfl)) ?_))))))
    refine bY (Ei:=[(54,_)]) rfl rfl (bQ (bZ 3 rfl rfl) bX) rfl rfl (dX rfl (dJ A_32 Z_32 (Ht rfl))) (bY (Ei:=[(6,_)]) rfl rfl (bQ (bJ rfl rfl) bX) rfl rfl (dX rfl (cX (Ht rfl))) (bY (Ei:=[(9,_)]) rfl rfl (bQ (bJ rfl rfl) bX) rfl rfl (dX rfl (cX (Ht rfl))) (bY (Ei:=[(56,_),(57,_)]) rfl rfl (bQ (bZ 5 rfl rfl) (bQ (bZ 6 rfl rfl) bX)) rfl rfl (dX rfl (dZ U_185 Z_188 (Ht rfl) (Ht rfl) rfl (dY (dU (d:=(Qi.zero,Qi.zero)) hq)))) ?_)))
    refine bY (Ei:=[(58,_)]) rfl rfl (bQ (bZ 7 rfl rfl) bX) rfl rfl (dX rfl (oA U_188 Z_32 (Ht rfl) (cJ 1) rfl (by decide) rfl)) (bY (Ei:=[(59,_)]) rfl rfl (bQ (bZ 8 rfl rfl) bX) rfl rfl (dX rfl (dJ A_32 Z_32 (Ht rfl))) (Y.D_newp (Ei:=[]) (fun bb=>box bb 32 [aB (decide ((eF (lv l) q).a < 0)),aD (eF (lv l) q).a.natAbs,aB (decide ((eF (lv l) q).b < 0)),aD (eF (lv l) q).b.natAbs,aD (du (eF (lv l) q))]) 12 rfl rfl rfl bX rfl rfl (by kernel_rfl) (eW (Ts:=[Is (.bool false),Is (.slice none 0 0),Is (.bool false),Is (.slice none 0 0),Is (.slice none 0 0)]) O_32 rfl (fun V=>aW zd (aW zd (aW zd (aW zd (aW zd (aG))))))) ?_))
    refine Y.D_new (Ei:=[]) rfl rfl rfl bX rfl rfl (eW (Ts:=[Is (.bool false),Is (.slice none 0 0),Is (.bool false),Is (.slice none 0 0),Is (.slice none 0 0)]) O_32 rfl (fun V=>aW zd (aW zd (aW zd (aW zd (aW zd (aG))))))) (Y.D_putN (Ei:=[(55,_)]) 10 rfl rfl rfl rfl rfl rfl (bQ (bZ 4 rfl rfl) bX) (fun bb=>sV Z_32 (Ht rfl) (Ht rfl) rfl (i:=0) rfl (aK rfl) rfl rfl) (Y.D_done aR rfl (by kernel_rfl) rfl (by simp [Y.okP]) rfl rfl (bU (bU (bU (bU (bU (bU (bU (bU (bU (bU (Y.F_newp (fun B10=>Y.F_new (fun B11=>Y.F_putN (Y.F_nil ?_))))))))))))))))
    refine gQ Z_32 (Ht rfl) (Ht rfl) rfl (i:=4) rfl (aK rfl) rfl rfl (eX (cK (Y.D_start (m:=15) [] (bY (Ei:=[(6,_)]) rfl rfl (bQ (bJ rfl rfl) bX) rfl rfl (dX rfl (cX (Ht rfl))) (bY (Ei:=[(9,_)]) rfl rfl (bQ (bJ rfl rfl) bX) rfl rfl (dX rfl (cX (Ht rfl))) (bY (Ei:=[(62,_)]) rfl rfl (bQ (bZ 1 rfl rfl) bX) rfl rfl (dX rfl (dW (Ht rfl) (cJ 1) zo z6)) ?_))))))
    refine bY (Ei:=[(61,_),(63,_)]) rfl rfl (bQ (bZ 0 rfl rfl) (bQ (bZ 2 rfl rfl) bX)) rfl rfl (dX rfl (dZ U_185 Z_188 (Ht rfl) (Ht rfl) rfl (dY (dU (d:=(Qi.zero,Qi.zero)) zo)))) (bY (Ei:=[(64,_)]) rfl rfl (bQ (bZ 3 rfl rfl) bX) rfl rfl (dX rfl (oA U_188 Z_32 (Ht rfl) (cJ 0) rfl (by decide) rfl)) (bY (Ei:=[(65,_)]) rfl rfl (bQ (bZ 4 rfl rfl) bX) rfl rfl (dX rfl (dJ A_32 Z_32 (Ht rfl))) ?_))
    refine bY (Ei:=[(6,_)]) rfl rfl (bQ (bJ rfl rfl) bX) rfl rfl (dX rfl (cX (Ht rfl))) (bY (Ei:=[(9,_)]) rfl rfl (bQ (bJ rfl rfl) bX) rfl rfl (dX rfl (cX (Ht rfl))) (bY (Ei:=[(68,_)]) rfl rfl (bQ (bZ 7 rfl rfl) bX) rfl rfl (dX rfl (dW (Ht rfl) (cJ 1) zo z6)) (bY (Ei:=[(67,_),(69,_)]) rfl rfl (bQ (bZ 6 rfl rfl) (bQ (bZ 8 rfl rfl) bX)) rfl rfl (dX rfl (dZ U_185 Z_188 (Ht rfl) (Ht rfl) rfl (dY (dU (d:=(Qi.zero,Qi.zero)) zo)))) ?_)))
    refine bY (Ei:=[(70,_)]) rfl rfl (bQ (bZ 9 rfl rfl) bX) rfl rfl (dX rfl (oA U_188 Z_32 (Ht rfl) (cJ 1) rfl (by decide) rfl)) (bY (Ei:=[(71,_)]) rfl rfl (bQ (bZ 10 rfl rfl) bX) rfl rfl (dX rfl (dJ A_32 Z_32 (Ht rfl))) (Y.D_newp (Ei:=[]) (fun bb=>box bb 32 [aB (decide ((eF (lv l) (q - 1)).a < 0)),aD (eF (lv l) (q - 1)).a.natAbs,aB (decide ((eF (lv l) (q - 1)).b < 0)),aD (eF (lv l) (q - 1)).b.natAbs,aD (du (eF (lv l) (q - 1)))]) 14 rfl rfl rfl bX rfl rfl (by kernel_rfl) (eW (Ts:=[Is (.bool false),Is (.slice none 0 0),Is (.bool false),Is (.slice none 0 0),Is (.slice none 0 0)]) O_32 rfl (fun V=>aW zd (aW zd (aW zd (aW zd (aW zd (aG))))))) ?_))
    refine Y.D_new (Ei:=[]) rfl rfl rfl bX rfl rfl (eW (Ts:=[Is (.bool false),Is (.slice none 0 0),Is (.bool false),Is (.slice none 0 0),Is (.slice none 0 0)]) O_32 rfl (fun V=>aW zd (aW zd (aW zd (aW zd (aW zd (aG))))))) (Y.D_putN (Ei:=[(66,_)]) 12 rfl rfl rfl rfl rfl rfl (bQ (bZ 5 rfl rfl) bX) (fun bb=>sV Z_32 (Ht rfl) (Ht rfl) rfl (i:=0) rfl (aK rfl) rfl rfl) (Y.D_done aR rfl (by kernel_rfl) rfl (by simp [Y.okP]) rfl rfl (bU (bU (bU (bU (bU (bU (bU (bU (bU (bU (bU (bU (Y.F_newp (fun B12=>Y.F_new (fun B13=>Y.F_putN (Y.F_nil ?_))))))))))))))))))
    refine gQ Z_32 (Ht rfl) (Ht rfl) rfl (i:=6) rfl (aK rfl) rfl rfl (eX (cK (fZ (m:=8) (dp 11 rfl (eJ A_32 Z_32 (Ht rfl) (i:=4) rfl rfl rfl) (dp 13 rfl (eJ A_32 Z_32 (Ht rfl) (i:=6) rfl rfl rfl) (cL 73 0 74 1 rfl (cZ K_32 (pK (x:=(eV (lv l) q)) (y:=(eV (lv l) (q - 1))) (L:=9) (M:=9) zo) ⟨(Ht rfl),(Ht rfl),trivial⟩) (dp 10 rfl (eJ A_32 Z_32 (Ht rfl) (i:=3) rfl rfl rfl) (dp 12 rfl (eJ A_32 Z_32 (Ht rfl) (i:=5) rfl rfl rfl) ?_))))))))
    refine cL 76 3 77 4 rfl (cZ K_32 (pK (x:=(eF (lv l) q)) (y:=(eF (lv l) (q - 1))) (L:=9) (M:=9) zo) ⟨(Ht rfl),(Ht rfl),trivial⟩) (cL 75 2 78 5 rfl (cZ Tryz.call80 (wD (x:=(eV (lv l) q) - (eV (lv l) (q - 1))) (y:=(eF (lv l) q) - (eF (lv l) (q - 1))) (L:=9 + 9 + 1) (M:=9 + 9 + 1) zo) ⟨(Ht rfl),(Ht rfl),trivial⟩) (C.D_new (Ei:=[]) rfl rfl rfl bW (eW (Ts:=[Is (.bool false),Is (.slice none 0 0),Is (.bool false),Is (.slice none 0 0),Is (.slice none 0 0)]) O_32 rfl (fun V=>aW zd (aW zd (aW zd (aW zd (aW zd (aG))))))) ?_))
    refine fV aR rfl (by kernel_rfl) (zF (aJ (aJ (aJ (C.F_new (fun B14=>aV (gQ Z_32 (Ht rfl) (Ht rfl) rfl (i:=7) rfl (aK rfl) rfl rfl (eX (cK ?_)))))))))
    haveI gR:aH (((eV (lv l) q) - (eV (lv l) (q - 1))) / ((eF (lv l) q) - (eF (lv l) (q - 1)))) ((9 + 9 + 1) + 3 * (9 + 9 + 1) + 2):=inferInstance
    refine fZ (m:=7) (dp 13 rfl (eJ A_32 Z_32 (Ht rfl) (i:=6) rfl rfl rfl) (dp 14 rfl (eJ A_32 Z_32 (Ht rfl) (i:=7) rfl rfl rfl) (dp 12 rfl (eJ A_32 Z_32 (Ht rfl) (i:=5) rfl rfl rfl) (cL 81 1 82 2 rfl (cZ K_29 (lB (x:=(((eV (lv l) q) - (eV (lv l) (q - 1))) / ((eF (lv l) q) - (eF (lv l) (q - 1))))) (y:=(eF (lv l) (q - 1))) (L:=(9 + 9 + 1) + 3 * (9 + 9 + 1) + 2) (M:=9) zo) ⟨(Ht rfl),(Ht rfl),trivial⟩) (cL 80 0 83 3 rfl (cZ K_32 (pK (x:=(eV (lv l) (q - 1))) (y:=(((eV (lv l) q) - (eV (lv l) (q - 1))) / ((eF (lv l) q) - (eF (lv l) (q - 1)))) * (eF (lv l) (q - 1))) (L:=9) (M:=(9 + 9 + 1) + 3 * (9 + 9 + 1) + 2 + 9 + 1) zo) ⟨(Ht rfl),(Ht rfl),trivial⟩) ?_)))))
    refine dp 8 rfl (dJ A_32 Z_32 (Ht rfl)) (dp 14 rfl (eJ A_32 Z_32 (Ht rfl) (i:=7) rfl rfl rfl) (fV aR rfl (by kernel_rfl) (zF (aJ (aJ (aJ (aV (ro rfl (cZ K_32 (pK (x:=(iY l f)) (y:=(((eV (lv l) q) - (eV (lv l) (q - 1))) / ((eF (lv l) q) - (eF (lv l) (q - 1))))) (L:=38 + L + 1) (M:=(9 + 9 + 1) + 3 * (9 + 9 + 1) + 2) zo) ⟨(Ht rfl),(Ht rfl),trivial⟩) (ro rfl (cZ Tryz.call80 (wD (x:=(eV (lv l) (q - 1)) - (((eV (lv l) q) - (eV (lv l) (q - 1))) / ((eF (lv l) q) - (eF (lv l) (q - 1)))) * (eF (lv l) (q - 1))) (y:=(iY l f) - (((eV (lv l) q) - (eV (lv l) (q - 1))) / ((eF (lv l) q) - (eF (lv l) (q - 1))))) zo) ⟨(Ht rfl),(Ht rfl),trivial⟩) ?_)))))))))
    refine gQ Z_32 (Ht rfl) (Ht rfl) rfl (i:=1) rfl (aK rfl) rfl rfl (ro rfl (cQ (cJ 0)) (eX (bC rfl (fX (fK A_32 Z_32 rfl (i:=1) rfl rfl) ?_) (fX (eU rfl) ?_))))
    ·exact (gK (by first | (rw [hcp]; done) | (rw [hcp]; rfl)))
    ·exact (aL (by rw [hcp]; rfl))
theorem Lr {l:List (Nat × Nat)} (hn:l.length ≤ 1000000):bA Tryz.prog 102 [uC l] (aM .i64 (bM l)):=by
 refine bA.intro Tryz.func102 rfl Tryz.ntmps102 rfl (fun cx=>(ts (ro rfl (cQ (cJ 0)) (eX (cK (ts (rm rfl (ro rfl (dG U_52 (Ht rfl) aA) (ro rfl (gX (Ht rfl) (cJ 1)) (rm rfl (fQ rfl rfl (eK rfl rfl (Ht rfl) (fun h=>cX (Ht rfl))) (fQ rfl rfl (eK rfl rfl (Ht rfl) (fun h=>dG U_52 (fJ rfl h) aA)) (fQ rfl rfl (eK rfl rfl (Ht rfl) (fun h=>dA (fJ rfl h) (cJ 256))) (ro rfl (iJ (Ht rfl) (fun h=>(fJ rfl h))) (eX (dQ (Ht rfl) (fun hb=>?_) (fun hb=>?_)))))))))))))))))
 ·have he : bM l = 4 := Ez (by simp only [Bool.or_eq_true, decide_eq_true_eq] at hb; omega)
  refine ts (ro rfl (cQ (cJ 4)) (eX (fW rfl (fX (eU rfl) ?_))))
  exact (aL he.symm)
 ·have hne : ¬ (l.length = 0 ∨ 256 < l.length) := by simp only [Bool.or_eq_false_iff, decide_eq_false_iff_not] at hb; omega
  refine cU (cK (ts (ro rfl (cQ (cJ 0)) (eX (eG ?_)))))
  refine fD (fun (k : Nat) => k ≤ l.length ∧ ∀ i, i < k → rX l i = 0) (fun (k : Nat) => l.length - k) (fun (k : Nat) => [(0, uC l), (3, NT .i64 k)]) (fun (k : Nat) => []) 0 ⟨Nat.zero_le _, fun i h => by omega⟩
   (zS rfl) aY (fun k ⟨hk,h0⟩=>?_)
  refine cK (ts (rm rfl (rm rfl (ro rfl (dG U_52 (Ht rfl) aA) (ro rfl (gX (Ht rfl) (Ht rfl)) (eX (dQ (Ht rfl) (fun hc=>?_) (fun hc=>?_))))))))
  ·simp only [decide_eq_true_eq] at hc
   refine cU (cK (eG (cK (ts (rm rfl (rm rfl (ro rfl (dZ U_52 Z_69 (Ht rfl) (Ht rfl) rfl (dY (dU (d:=((0:Nat),(0:Nat))) hc))) (ro rfl (iQ kU (Ht rfl) rfl) (ro rfl (dJ A_25 Z_25 (Ht rfl)) (ro rfl (cZ Tryz.call83 (Du (p:=bI l k)) ⟨(Ht rfl),trivial⟩) (ro rfl (eM (Ht rfl)) (rm rfl (fQ rfl rfl (eK rfl rfl (Ht rfl) (fun h=>cX (Ht rfl))) (fQ rfl rfl (eK rfl rfl (Ht rfl) (fun h=>cX (Ht rfl))) (fQ rfl rfl (eK rfl rfl (Ht rfl) (fun h=>dZ U_52 Z_69 (fJ rfl h) (fJ rfl h) rfl (dY (dU (d:=((0:Nat),(0:Nat))) hc)))) ?_)))))))))))))))
   refine fQ rfl rfl (eK rfl rfl (Ht rfl) (fun h=>iQ oN (fJ rfl h) rfl)) (fQ rfl rfl (eK rfl rfl (Ht rfl) (fun h=>dJ A_25 Z_25 (fJ rfl h))) (fQ rfl rfl (eK rfl rfl (Ht rfl) (fun h=>cZ Tryz.call83 (Du (p:=bO l k)) ⟨(fJ rfl h),trivial⟩)) (fQ rfl rfl (eK rfl rfl (Ht rfl) (fun h=>eM (fJ rfl h))) (ro rfl (iJ (Ht rfl) (fun h=>(fJ rfl h))) (eX (dQ (Ht rfl) (fun hd=>?_) (fun hd=>?_)))))))
   ·have he : bM l = 1 := Cf hne hc h0 (Ey hd) (by decide)
    refine ts (ro rfl (cQ (cJ 1)) (eX (fW rfl (fX (eU rfl) ?_))))
    exact (aL he.symm)
   ·have hok := Kj hd
    have hpw:pw (bI l k) = true ∧ pw (bO l k) = true:=by simpa using hd
    have hpr:0 < k → pw (bI l (k - 1)) = true:=fun h=>(qY (h0 (k - 1) zo)).1.1
    refine cU (cK (fZ (m:=14) (dp 3 rfl (cX (Ht rfl)) (dq 34 0 rfl (dA (Ht rfl) (cJ 0)) (dq 35 1 rfl (cX (Ht rfl)) (C.D_step (Ei:=[(0,_),(36,_)]) rfl rfl (bV (bK rfl rfl) (bV (bG 2 rfl rfl) bW)) (eK rfl rfl (Ht rfl) (fun h=>cX (Ht rfl))) (C.D_step (Ei:=[(3,_),(36,_)]) rfl rfl (bV (bK rfl rfl) (bV (bG 2 rfl rfl) bW)) (eK rfl rfl (Ht rfl) (fun h=>cX (Ht rfl))) (C.D_step (Ei:=[(37,_),(38,_),(36,_)]) rfl rfl (bV (bG 3 rfl rfl) (bV (bG 4 rfl rfl) (bV (bG 2 rfl rfl) bW))) (eK rfl rfl (Ht rfl) (fun h=>dZ U_52 Z_69 (fJ rfl h) (fJ rfl h) rfl (dY (dU (d:=((0:Nat),(0:Nat))) hc)))) ?_))))))))
    refine C.D_step (Ei:=[(39,_),(36,_)]) rfl rfl (bV (bG 5 rfl rfl) (bV (bG 2 rfl rfl) bW)) (eK rfl rfl (Ht rfl) (fun h=>iQ kU (fJ rfl h) rfl)) (C.D_step (Ei:=[(40,_),(36,_)]) rfl rfl (bV (bG 6 rfl rfl) (bV (bG 2 rfl rfl) bW)) (eK rfl rfl (Ht rfl) (fun h=>dJ A_25 Z_25 (fJ rfl h))) (C.D_step (Ei:=[(0,_),(36,_)]) rfl rfl (bV (bK rfl rfl) (bV (bG 2 rfl rfl) bW)) (eK rfl rfl (Ht rfl) (fun h=>cX (Ht rfl))) (C.D_step (Ei:=[(3,_),(36,_)]) rfl rfl (bV (bK rfl rfl) (bV (bG 2 rfl rfl) bW)) (eK rfl rfl (Ht rfl) (fun h=>cX (Ht rfl))) ?_)))
    refine C.D_step (Ei:=[(43,_),(36,_)]) rfl rfl (bV (bG 9 rfl rfl) (bV (bG 2 rfl rfl) bW)) (eK rfl rfl (Ht rfl) (fun h=>dW (fJ rfl h) (cJ 1) (by first | omega | (simp at h; omega)) (by show _ < 9223372036854775808; first | omega | (simp at h; omega)))) (C.D_step (Ei:=[(42,_),(44,_),(36,_)]) rfl rfl (bV (bG 8 rfl rfl) (bV (bG 10 rfl rfl) (bV (bG 2 rfl rfl) bW))) (eK rfl rfl (Ht rfl) (fun h=>dZ U_52 Z_69 (fJ rfl h) (fJ rfl h) rfl (dY (dU (d:=((0:Nat),(0:Nat))) (by simp at h; omega))))) ?_)
    refine C.D_step (Ei:=[(45,_),(36,_)]) rfl rfl (bV (bG 11 rfl rfl) (bV (bG 2 rfl rfl) bW)) (eK rfl rfl (Ht rfl) (fun h=>iQ kU (fJ rfl h) rfl)) (C.D_step (Ei:=[(46,_),(36,_)]) rfl rfl (bV (bG 12 rfl rfl) (bV (bG 2 rfl rfl) bW)) (eK rfl rfl (Ht rfl) (fun h=>dJ A_25 Z_25 (fJ rfl h))) (fV aR rfl (by kernel_rfl) (zF (zF (zF (aJ (aJ (aV ?_))))))))
    refine fQ rfl rfl (eK rfl rfl (Ht rfl) (fun h=>rE (fJ rfl h) (fJ rfl h) (r:=(Ieee.single.order (bI l k) (bI l (k - 1)) == some .lt || Ieee.single.order (bI l k) (bI l (k - 1)) == some .eq)) (fun x y hx hy=>by subst hx hy; rfl))) ?_
    refine ro rfl (cO (Ht rfl) (fun h=>(fJ rfl h))) (eX (dQ (Ht rfl) (fun hg=>?_) (fun hg=>?_)))
    ·have hg2 : decide (0 < k ∧ av Ieee.single (bI l k) ≤ av Ieee.single (bI l (k - 1))) = true := (wP hpw.1 hpr).symm.trans hg
     have he:bM l = 7:=Cf hne hc h0 (by rw [hok,if_pos (of_decide_eq_true hg2)]) (by decide)
     refine ts (ro rfl (cQ (cJ 7)) (eX (fW rfl (fX (eU rfl) ?_))))
     exact (aL he.symm)
    ·have hg2 : decide (0 < k ∧ av Ieee.single (bI l k) ≤ av Ieee.single (bI l (k - 1))) = false := (wP hpw.1 hpr).symm.trans hg
     have hk0:rX l k = 0:=by rw [hok,if_neg (of_decide_eq_false hg2)]
     refine cU (bF (cY (rm rfl (ro rfl (dV (Ht rfl) (cJ 1) z6) (ra rfl (eX ?_))))))
     refine fU (k + 1) ⟨hc, fun i h => by
      by_cases e:i = k
      ·rw [e]; exact hk0
      ·exact h0 i zo⟩ zo (zS rfl) aY
  ·simp only [decide_eq_false_iff_not] at hc
   have he:bM l = 0:=Hm hne (fun i h=>h0 i zo)
   refine gV rfl (ts (ro rfl (cQ (cJ 0)) (eX (fW rfl (fX (eU rfl) ?_)))))
   exact (aL he.symm)
theorem Jj {l:List (Nat × Nat)} (hn:l.length ≤ 1000000):bA Tryz.prog 25 [uC l] (eL [QsT (pV l),aM .i64 (bM l)]):=by
 refine bA.intro Tryz.func25 rfl Tryz.ntmps25 rfl (fun cx=>(ts (ro rfl (cQ cV) (ro rfl (cQ (cJ 0)) (eX (cK (ts (rm rfl (ro rfl (cZ Tryz.call102 (Lr zo) ⟨(Ht rfl),trivial⟩) (ra rfl (eX (ts (rm rfl (ro rfl (nO (Ht rfl) cV) (eX (dQ (Ht rfl) (fun hb=>?_) (fun hb=>?_)))))))))))))))))
 ·have he : bM l ≠ 0 := by simpa using hb
  refine ts (rm rfl (ro rfl (cQ cV) (ra rfl (eX (bC rfl (fX (eU rfl) ?_) (fX (eU rfl) ?_))))))
  ·exact (fun v V h=>by rw [qT rfl he]; exact kH v V h)
  ·exact (aL rfl)
 ·have he : bM l = 0 := by simpa using hb
  have ok:=oO he
  refine cU (ts (ro rfl (cQ cV) (eX (cK (ts (ro rfl (cQ (cJ 0)) (eX (eG (uV 40 5 ?_)))))))))
  refine dN (fun (k : Nat) (v : Value) => k ≤ l.length) (fun (k : Nat) (v : Value) => l.length - k) (fun (k : Nat) (v : Value) => [(0, uC l), (5, Is v), (6, NT .i64 k)]) (fun (k : Nat) (v : Value) => [bN 40 5 v (((eN l).take k).map QT)]) 0 (.slice none 0 0) (Nat.zero_le _)
   (zS rfl) (cE.refl _) (fun k v hk=>?_)
  refine cK (ts (rm rfl (rm rfl (ro rfl (dG U_52 (Ht rfl) aA) (ro rfl (gX (Ht rfl) (Ht rfl)) (eX (dQ (Ht rfl) (fun hc=>?_) (fun hc=>?_))))))))
  ·simp only [decide_eq_true_eq] at hc
   obtain ⟨f1,f2⟩:=ok.fit hc
   obtain ⟨v1,v2⟩:=ok.vf hc
   refine cU (cK (eG (cK (Y.D_start (m:=18) [] (bY (Ei:=[(0,_)]) rfl rfl (bQ (bJ rfl rfl) bX) rfl rfl (dX rfl (cX (Ht rfl))) (bY (Ei:=[(6,_)]) rfl rfl (bQ (bJ rfl rfl) bX) rfl rfl (dX rfl (cX (Ht rfl))) (bY (Ei:=[(21,_),(22,_)]) rfl rfl (bQ (bZ 0 rfl rfl) (bQ (bZ 1 rfl rfl) bX)) rfl rfl (dX rfl (dZ U_52 Z_69 (Ht rfl) (Ht rfl) rfl (dY (dU (d:=((0:Nat),(0:Nat))) hc)))) (bY (Ei:=[(23,_)]) rfl rfl (bQ (bZ 2 rfl rfl) bX) rfl rfl (dX rfl (iQ oN (Ht rfl) rfl)) ?_))))))))
   refine bY (Ei:=[(24,_)]) rfl rfl (bQ (bZ 3 rfl rfl) bX) rfl rfl (dX rfl (dJ A_25 Z_25 (Ht rfl))) (bY (Ei:=[(25,_)]) rfl rfl (bQ (bZ 4 rfl rfl) bX) rfl rfl (dX rfl (cZ K_86 (eQ (nS (p:=bO l k)) (lG v2)) ⟨(Ht rfl),trivial⟩)) (bY (Ei:=[(0,_)]) rfl rfl (bQ (bJ rfl rfl) bX) rfl rfl (dX rfl (cX (Ht rfl))) (bY (Ei:=[(6,_)]) rfl rfl (bQ (bJ rfl rfl) bX) rfl rfl (dX rfl (cX (Ht rfl))) (bY (Ei:=[(27,_),(28,_)]) rfl rfl (bQ (bZ 6 rfl rfl) (bQ (bZ 7 rfl rfl) bX)) rfl rfl (dX rfl (dZ U_52 Z_69 (Ht rfl) (Ht rfl) rfl (dY (dU (d:=((0:Nat),(0:Nat))) hc)))) ?_))))
   refine bY (Ei:=[(29,_)]) rfl rfl (bQ (bZ 8 rfl rfl) bX) rfl rfl (dX rfl (iQ kU (Ht rfl) rfl)) (bY (Ei:=[(30,_)]) rfl rfl (bQ (bZ 9 rfl rfl) bX) rfl rfl (dX rfl (dJ A_25 Z_25 (Ht rfl))) (bY (Ei:=[(31,_)]) rfl rfl (bQ (bZ 10 rfl rfl) bX) rfl rfl (dX rfl (cZ K_86 (eQ (nS (p:=bI l k)) (lG v1)) ⟨(Ht rfl),trivial⟩)) (bY (Ei:=[(26,_),(32,_)]) rfl rfl (bQ (bZ 5 rfl rfl) (bQ (bZ 11 rfl rfl) bX)) rfl rfl (dX rfl (cZ Tryz.call87 (Jk (x:=eV (lv l) k) (y:=eF (lv l) k) (L:=9) (M:=9) zo) ⟨(Ht rfl),(Ht rfl),trivial⟩)) ?_)))
   refine bY (Ei:=[(33,_)]) rfl rfl (bQ (bZ 12 rfl rfl) bX) rfl rfl (dX rfl (cX (Ht rfl))) (bY (Ei:=[(20,_)]) rfl rfl (bQ (bZ 13 rfl rfl) bX) rfl rfl (dX rfl (dK (Ht rfl) rfl)) (bY (Ei:=[(20,_)]) rfl rfl (bQ (bZ 13 rfl rfl) bX) rfl rfl (dX rfl (dK (Ht rfl) rfl)) (Y.D_newp (Ei:=[]) (fun bb=>box bb 40 [aB (decide ((eV (lv l) k / eF (lv l) k).a < 0)),aD (eV (lv l) k / eF (lv l) k).a.natAbs,aB (decide ((eV (lv l) k / eF (lv l) k).b < 0)),aD (eV (lv l) k / eF (lv l) k).b.natAbs,aD (eV (lv l) k / eF (lv l) k).den]) 17 rfl rfl rfl bX rfl rfl (by kernel_rfl) (eW (Ts:=[Is (.bool false),Is (.slice none 0 0),Is (.bool false),Is (.slice none 0 0),Is (.slice none 0 0)]) O_40 rfl (fun V=>aW zd (aW zd (aW zd (aW zd (aW zd (aG))))))) ?_)))
   refine Y.D_putN (Ei:=[(34,_)]) 16 rfl rfl rfl rfl rfl rfl (bQ (bZ 14 rfl rfl) bX) (fun bb=>sV Z_40 (Ht rfl) (Ht rfl) rfl (i:=0) rfl (aK rfl) rfl rfl) (Y.D_done aR rfl (by kernel_rfl) rfl (by simp [Y.okP]) rfl rfl (bU (bU (bU (bU (bU (bU (bU (bU (bU (bU (bU (bU (bU (bU (bU (bU (Y.F_newp (fun B7=>Y.F_putN (Y.F_nil ?_))))))))))))))))))))
   refine ra rfl (eX (cY (rm rfl (ro rfl (eJ A_40 Z_40 (Ht rfl) (i:=1) rfl rfl rfl) (ro rfl (bP (xs:=[.tmp 37]) U_57 Z_40 O_40 (cW (Ht rfl) cG) rfl rfl rfl) (mN (inf:=Tryz.t40) a0F Ve rfl rfl rfl (Ht rfl) (Ht rfl) (i:=0) rfl (by simp) (fun T hT=>by simp at hT; subst hT; exact El.ag rfl) (by show _ * 88 ≤ _; simp only [List.length_map,List.length_append,List.length_take,gH,eA,List.length_cons,List.length_nil]; omega) (by simp only [List.length_map,List.length_append,List.length_take,gH,eA,List.length_cons,List.length_nil]; omega) rfl (fun v3=>?_)))))))
   refine ra rfl (eX (bF (cY (rm rfl (ro rfl (dV (Ht rfl) (cJ 1) z6) (ra rfl (eX (gE [0] rfl (by decide) (fU (k + 1,v3) hc (by dsimp only; omega) (zS rfl) (aU (dI ((mQ QT _ (eV (lv l) k / eF (lv l) k)).trans (congrArg _ (Ao hc)))) aY))))))))))
  ·simp only [decide_eq_false_iff_not] at hc
   refine gV rfl (gJ (i:=0) (tt:=5) rfl rfl kF (ts (rm rfl (ra rfl (ro rfl (cQ (cJ 0)) (eX (bC rfl (fX (eU rfl) ?_) (fX (eU rfl) ?_))))))))
   ·exact (kN (by rw [nU he,List.take_of_length_le (by rw [eA]; omega)]))
   ·exact (aL he.symm)
theorem xM {l:List (Nat × Nat)} {f:Qi} {L:Nat} (hf:aH f L) (hL1:1 ≤ L) (hL:L ≤ 1000000) (hn:l.length ≤ 1000000):bA Tryz.prog 27 [uC l,QT f] (eL [QT (iZ l f).1,aM .i64 (iZ l f).2]):=by
 haveI:=hf; haveI f1:=Hj
 refine bA.intro Tryz.func27 rfl Tryz.ntmps27 rfl (fun cx=>(ts (rn rfl (fG (Ht rfl)) fun B3=>(rn rfl (eW (Ts:=[Is (.bool false),Is (.slice none 0 0),Is (.bool false),Is (.slice none 0 0),Is (.slice none 0 0)]) O_40 rfl (fun V=>aW zd (aW zd (aW zd (aW zd (aW zd (aG))))))) fun B4=>(ro rfl (cQ (cJ 0)) (eX (ts (rm rfl (ro rfl (cZ Tryz.call25 (Jj zo) ⟨(Ht rfl),trivial⟩) (rm rfl (ro rfl (dK (Ht rfl) rfl) ?_)))))))))))
 refine ro rfl (dK (Ht rfl) rfl) (ra rfl (ra rfl (eX (cK (ts (rm rfl (ro rfl (nO (Ht rfl) cV) (eX (dQ (Ht rfl) (fun hb=>?_) (fun hb=>?_))))))))))
 ·have hb2 : bM l ≠ 0 := by simpa using hb
  refine ts (ro rfl (cZ K_84 (nR (n:=0) (by decide) (by decide)) ⟨(cJ 0),trivial⟩) (rm rfl (gQ Z_40 (Ht rfl) (Ht rfl) rfl (i:=1) rfl (aK rfl) rfl rfl (ra rfl (eX (bC rfl (fX (fK A_40 Z_40 rfl (i:=1) rfl rfl) ?_) (fX (eU rfl) ?_)))))))
  ·exact (lG (by first | (rw [kD rfl hb2]; done) | (rw [kD rfl hb2]; rfl)))
  ·exact (aL (by first | (rw [kD rfl hb2]; done) | (rw [kD rfl hb2]; rfl)))
 ·have he : bM l = 0 := by simpa using hb
  have ok:=oO he
  refine cU (cK (cK (fZ (m:=6) (dp 3 rfl (eJ A_40 Z_40 (Ht rfl) (i:=0) rfl rfl rfl) (dq 25 0 rfl (cZ Tryz.call95 (Dw (x:=f) (L:=L) zo) ⟨(Ht rfl),trivial⟩) (dq 26 1 rfl (eM (Ht rfl)) (dq 27 2 rfl (cX (Ht rfl)) (C.D_step (Ei:=[(3,_),(28,_)]) rfl rfl (bV (bK rfl rfl) (bV (bG 3 rfl rfl) bW)) (eK rfl rfl (Ht rfl) (fun h=>eJ A_40 Z_40 (Ht rfl) (i:=0) rfl rfl rfl)) (C.D_step (Ei:=[(28,_)]) rfl rfl (bV (bG 3 rfl rfl) bW) (eK rfl rfl (Ht rfl) (fun h=>cZ K_84 (nR (n:=1) (by decide) (by decide)) ⟨(cJ 1),trivial⟩)) ?_)))))))))
  refine fV aR rfl (by kernel_rfl) (zF (aJ (aJ (aV (fQ rfl rfl (eK rfl rfl (Ht rfl) (fun h=>cZ Tryz.call85 (Oj (x:=f) (y:=Qi.ofInt 1) (L:=L) (M:=1) zo) ⟨(fJ rfl h),(fJ rfl h),trivial⟩)) (fQ rfl rfl (eK rfl rfl (Ht rfl) (fun h=>kM (fJ rfl h) cV)) (ro rfl (iJ (Ht rfl) (fun h=>(fJ rfl h))) (eX (dQ (Ht rfl) (fun hg=>?_) (fun hg=>?_))))))))))
  ·have hg2 : fS f = false := by rw [show _ = _ from Ps] at hg; simpa using hg
   refine ts (ro rfl (cZ K_84 (nR (n:=0) (by decide) (by decide)) ⟨(cJ 0),trivial⟩) (gQ Z_40 (Ht rfl) (Ht rfl) rfl (i:=1) rfl (aK rfl) rfl rfl (ro rfl (cQ (cJ 1)) (eX (bC rfl (fX (fK A_40 Z_40 rfl (i:=1) rfl rfl) ?_) (fX (eU rfl) ?_))))))
   ·exact (lG (by first | (rw [jI he hg2]; done) | (rw [jI he hg2]; rfl)))
   ·exact (aL (by first | (rw [jI he hg2]; done) | (rw [jI he hg2]; rfl)))
  ·have hg2 : fS f = true := by rw [show _ = _ from Ps] at hg; simpa using hg
   haveI fb:=vZ ok hf
   have hgl:pV l = eN l:=nU he
   have hgl0:0 < (eN l).length:=by rw [eA]; exact ok.n0
   have hg0:gv (eN l) 0 = eV (lv l) 0 / eF (lv l) 0:=nV ok.n0
   have fg:=xY ok
   haveI fg0:aH (gv (eN l) 0) 38:=fg.get (by decide) 0
   have hmul:gv (eN l) 0 * f = iY l f:=by rw [hg0]; rfl
   obtain ⟨rb,hb0⟩:=pJ ok hg2
   refine nE (E':=[(0,_),(1,_),(3,_),(4,_),(5,_),(6,_),(7,_),(16,_),(17,_),(18,_),(19,_),(20,_),(21,_),(22,_),(25,_),(26,_),(27,_),(28,_),(29,_),(30,_),(31,_),(32,_),(33,_)]) (aQ rfl (aQ rfl (aQ rfl (aQ rfl (aQ rfl (aZ rfl (kN (by rw [hgl])) (zS rfl))))))) ?_
   refine cU (cK (fZ (m:=6) (dp 6 rfl (cX (Ht rfl)) (dq 35 0 rfl (dZ U_57 Z_40 (Ht rfl) (cJ 0) rfl (dY (dU (d:=Qi.zero) hgl0))) (dq 36 1 rfl (dJ A_40 Z_40 (Ht rfl)) (dp 3 rfl (eJ A_40 Z_40 (Ht rfl) (i:=0) rfl rfl rfl) (cL 37 2 38 3 rfl (cZ K_89 (eQ (pM (x:=gv (eN l) 0) (y:=f) (L:=38) (M:=L) zo) (lG hmul)) ⟨(Ht rfl),(Ht rfl),trivial⟩) (C.D_new (Ei:=[]) rfl rfl rfl bW (eW (Ts:=[Is (.bool false),Is (.slice none 0 0),Is (.bool false),Is (.slice none 0 0),Is (.slice none 0 0)]) O_40 rfl (fun V=>aW zd (aW zd (aW zd (aW zd (aW zd (aG))))))) ?_))))))))
   refine fV aR rfl (by kernel_rfl) (zF (aJ (C.F_new (fun B8=>aV (gQ Z_40 (Ht rfl) (Ht rfl) rfl (i:=2) rfl (aK rfl) rfl rfl (eX (cK (ts (ro rfl (cQ (cJ 1)) (eX (eG (gE [1,2] rfl (by decide) ?_))))))))))))
   refine fD (fun (k : Nat) => k ≤ l.length ∧ 1 ≤ k ∧ ∀ i, i < k → ¬ (eV (lv l) i).re ≤ (iY l f).re * (eF (lv l) i).re) (fun (k : Nat) => l.length - k) (fun (k : Nat) => [(0, uC l), (4, eB B4 0), (6, QsT (eN l)), (8, eB B8 0), (9, NT .i64 k)]) (fun (k : Nat) => [box B4 40 [Is (.bool false), Is (.slice none 0 0), Is (.bool false), Is (.slice none 0 0), Is (.slice none 0 0)], box B8 40 [aB (decide ((iY l f).a < 0)), aD (iY l f).a.natAbs, aB (decide ((iY l f).b < 0)), aD (iY l f).b.natAbs, aD (iY l f).den]]) 1 ⟨ok.n0, Nat.le_refl _, fun i h => (show i = 0 by omega) ▸ Rat.not_le.2 hb0⟩
    (zS rfl) (aU (aP rfl) (aU (aP rfl) aY)) (fun k ⟨hk,hk1,h0⟩=>?_)
   refine cK (ts (rm rfl (rm rfl (ro rfl (dG U_52 (Ht rfl) aA) (ro rfl (gX (Ht rfl) (Ht rfl)) (eX (dQ (Ht rfl) (fun hc=>?_) (fun hc=>?_))))))))
   ·simp only [decide_eq_true_eq] at hc
    have hcg:k < (eN l).length:=by rw [eA]; exact hc
    haveI fk:aH (gv (eN l) k) 38:=fg.get (by decide) k
    have hgk:=nV hc
    have hgle:=Ke ok hg2 hc
    rw [← hgk] at hgle
    refine cU (cK (eG (cK (cK (fZ (m:=5) (dp 6 rfl (cX (Ht rfl)) (dp 9 rfl (cX (Ht rfl)) (cL 46 0 47 1 rfl (dZ U_57 Z_40 (Ht rfl) (Ht rfl) rfl (dY (dU (d:=Qi.zero) hcg))) (dq 48 2 rfl (dJ A_40 Z_40 (Ht rfl)) (dp 8 rfl (eJ A_40 Z_40 (Ht rfl) (i:=1) rfl rfl rfl) (fV aR rfl (by kernel_rfl) (zF (aJ (aV (ro rfl (cZ Tryz.call85 (Oj (x:=gv (eN l) k) (y:=iY l f) (L:=38) (M:=38 + L + 1) zo) ⟨(Ht rfl),(Ht rfl),trivial⟩) ?_)))))))))))))))
    refine ro rfl (mX (Ht rfl) cV) (eX (dQ (Ht rfl) (fun hs=>?_) (fun hs=>?_)))
    ·have hs2 : ¬ (eV (lv l) k).re ≤ (iY l f).re * (eF (lv l) k).re := fun z => by have := hgle.2 z; simp only [decide_eq_true_eq] at hs; omega
     refine gV rfl (cY (rm rfl (ro rfl (dV (Ht rfl) (cJ 1) z6) (ra rfl (eX ?_)))))
     refine fU (k + 1) ⟨hc, by omega, fun i h => by
       by_cases e:i = k
       ·rw [e]; exact hs2
       ·exact h0 i zo⟩ zo (zS rfl) (cE.refl _)
    ·have hs2 : (eV (lv l) k).re ≤ (iY l f).re * (eF (lv l) k).re := hgle.1 (by simp only [decide_eq_false_iff_not] at hs; omega)
     have hix:mS l f = k:=Ui ok hg2 hc hs2 h0
     obtain ⟨g1,g2⟩:=ok.fit hc
     obtain ⟨g3,g4⟩:=ok.fit (show k - 1 < l.length by omega)
     obtain ⟨v1,v2⟩:=ok.vf hc
     obtain ⟨v3,v4⟩:=ok.vf (show k - 1 < l.length by omega)
     have hcp:=wI he hg2 hix
     refine cU (cK (fZ (m:=15) (dp 0 rfl (cX (Ht rfl)) (dp 9 rfl (cX (Ht rfl)) (dq 54 1 rfl (dW (Ht rfl) (cJ 1) zo z6) (cL 53 0 55 2 rfl (dZ U_52 Z_69 (Ht rfl) (Ht rfl) rfl (dY (dU (d:=((0:Nat),(0:Nat))) zo))) (dq 56 3 rfl (iQ kU (Ht rfl) rfl) (dq 57 4 rfl (dJ A_25 Z_25 (Ht rfl)) (dq 58 5 rfl (cZ K_86 (eQ (nS (p:=bI l (k - 1))) (lG v3)) ⟨(Ht rfl),trivial⟩) (dp 0 rfl (cX (Ht rfl)) ?_))))))))))
     refine dp 9 rfl (cX (Ht rfl)) (cL 60 7 61 8 rfl (dZ U_52 Z_69 (Ht rfl) (Ht rfl) rfl (dY (dU (d:=((0:Nat),(0:Nat))) hc))) (dq 62 9 rfl (iQ kU (Ht rfl) rfl) (dq 63 10 rfl (dJ A_25 Z_25 (Ht rfl)) (dq 64 11 rfl (cZ K_86 (eQ (nS (p:=bI l k)) (lG v1)) ⟨(Ht rfl),trivial⟩) (C.D_new (Ei:=[]) rfl rfl rfl bW (eW (Ts:=[Is (.bool false),Is (.slice none 0 0),Is (.bool false),Is (.slice none 0 0),Is (.slice none 0 0)]) O_40 rfl (fun V=>aW zd (aW zd (aW zd (aW zd (aW zd (aG))))))) ?_)))))
     refine C.D_new (Ei:=[]) rfl rfl rfl bW (eW (Ts:=[Is (.bool false),Is (.slice none 0 0),Is (.bool false),Is (.slice none 0 0),Is (.slice none 0 0)]) O_40 rfl (fun V=>aW zd (aW zd (aW zd (aW zd (aW zd (aG))))))) (fV aR rfl (by kernel_rfl) (zF (zF (zF (aJ (C.F_new (fun B10=>C.F_new (fun B11=>aV (gQ Z_40 (Ht rfl) (Ht rfl) rfl (i:=2) rfl (aK rfl) rfl rfl ?_)))))))))
     refine gQ Z_40 (Ht rfl) (Ht rfl) rfl (i:=3) rfl (aK rfl) rfl rfl (eX (cK (fZ (m:=12) (dp 0 rfl (cX (Ht rfl)) (dp 9 rfl (cX (Ht rfl)) (dq 67 1 rfl (dW (Ht rfl) (cJ 1) zo z6) (cL 66 0 68 2 rfl (dZ U_52 Z_69 (Ht rfl) (Ht rfl) rfl (dY (dU (d:=((0:Nat),(0:Nat))) zo))) (dq 69 3 rfl (iQ oN (Ht rfl) rfl) (dq 70 4 rfl (dJ A_25 Z_25 (Ht rfl)) (dq 71 5 rfl (cZ K_86 (eQ (nS (p:=bO l (k - 1))) (lG v4)) ⟨(Ht rfl),trivial⟩) ?_))))))))))
     refine dp 8 rfl (eJ A_40 Z_40 (Ht rfl) (i:=1) rfl rfl rfl) (dp 10 rfl (eJ A_40 Z_40 (Ht rfl) (i:=2) rfl rfl rfl) (cL 73 7 74 8 rfl (cZ K_89 (pM (x:=(iY l f)) (y:=(eF (lv l) (k - 1))) (L:=38 + L + 1) (M:=9) zo) ⟨(Ht rfl),(Ht rfl),trivial⟩) (cL 72 6 75 9 rfl (cZ Tryz.call88 (Hh (x:=(eV (lv l) (k - 1))) (y:=(iY l f) * (eF (lv l) (k - 1))) (L:=9) (M:=38 + L + 1 + 9 + 1) zo) ⟨(Ht rfl),(Ht rfl),trivial⟩) (C.D_new (Ei:=[]) rfl rfl rfl bW (eW (Ts:=[Is (.bool false),Is (.slice none 0 0),Is (.bool false),Is (.slice none 0 0),Is (.slice none 0 0)]) O_40 rfl (fun V=>aW zd (aW zd (aW zd (aW zd (aW zd (aG))))))) ?_))))
     refine fV aR rfl (by kernel_rfl) (zF (zF (aJ (aJ (aJ (C.F_new (fun B12=>aV (gQ Z_40 (Ht rfl) (Ht rfl) rfl (i:=4) rfl (aK rfl) rfl rfl (eX (cK (fZ (m:=11) (dp 8 rfl (eJ A_40 Z_40 (Ht rfl) (i:=1) rfl rfl rfl) (dp 11 rfl (eJ A_40 Z_40 (Ht rfl) (i:=3) rfl rfl rfl) (cL 77 0 78 1 rfl (cZ K_89 (pM (x:=(iY l f)) (y:=(eF (lv l) k)) (L:=38 + L + 1) (M:=9) zo) ⟨(Ht rfl),(Ht rfl),trivial⟩) ?_))))))))))))))
     refine dp 0 rfl (cX (Ht rfl)) (dp 9 rfl (cX (Ht rfl)) (cL 80 3 81 4 rfl (dZ U_52 Z_69 (Ht rfl) (Ht rfl) rfl (dY (dU (d:=((0:Nat),(0:Nat))) hc))) (dq 82 5 rfl (iQ oN (Ht rfl) rfl) (dq 83 6 rfl (dJ A_25 Z_25 (Ht rfl)) (dq 84 7 rfl (cZ K_86 (eQ (nS (p:=bO l k)) (lG v2)) ⟨(Ht rfl),trivial⟩) (cL 79 2 85 8 rfl (cZ Tryz.call88 (Hh (x:=(iY l f) * (eF (lv l) k)) (y:=(eV (lv l) k)) (L:=38 + L + 1 + 9 + 1) (M:=9) zo) ⟨(Ht rfl),(Ht rfl),trivial⟩) (C.D_new (Ei:=[]) rfl rfl rfl bW (eW (Ts:=[Is (.bool false),Is (.slice none 0 0),Is (.bool false),Is (.slice none 0 0),Is (.slice none 0 0)]) O_40 rfl (fun V=>aW zd (aW zd (aW zd (aW zd (aW zd (aG))))))) ?_)))))))
     refine fV aR rfl (by kernel_rfl) (zF (zF (aJ (aJ (C.F_new (fun B13=>aV (gQ Z_40 (Ht rfl) (Ht rfl) rfl (i:=5) rfl (aK rfl) rfl rfl (eX (cK ?_)))))))))
     haveI u1:aH ((eV (lv l) (k - 1)) - (iY l f) * (eF (lv l) (k - 1))) (9 + (38 + L + 1 + 9 + 1) + 1):=inferInstance
     haveI u2:aH ((iY l f) * (eF (lv l) k) - (eV (lv l) k)) ((38 + L + 1 + 9 + 1) + 9 + 1):=inferInstance
     refine Y.D_start (m:=16) [] (bY (Ei:=[(10,_)]) rfl rfl (bQ (bJ rfl rfl) bX) rfl rfl (dX rfl (eJ A_40 Z_40 (Ht rfl) (i:=2) rfl rfl rfl)) (bY (Ei:=[(13,_)]) rfl rfl (bQ (bJ rfl rfl) bX) rfl rfl (dX rfl (eJ A_40 Z_40 (Ht rfl) (i:=5) rfl rfl rfl)) (bY (Ei:=[(88,_),(89,_)]) rfl rfl (bQ (bZ 0 rfl rfl) (bQ (bZ 1 rfl rfl) bX)) rfl rfl (dX rfl (cZ K_89 (pM (x:=(eF (lv l) (k - 1))) (y:=((iY l f) * (eF (lv l) k) - (eV (lv l) k))) zo) ⟨(Ht rfl),(Ht rfl),trivial⟩)) ?_)))
     refine bY (Ei:=[(11,_)]) rfl rfl (bQ (bJ rfl rfl) bX) rfl rfl (dX rfl (eJ A_40 Z_40 (Ht rfl) (i:=3) rfl rfl rfl)) (bY (Ei:=[(12,_)]) rfl rfl (bQ (bJ rfl rfl) bX) rfl rfl (dX rfl (eJ A_40 Z_40 (Ht rfl) (i:=4) rfl rfl rfl)) (bY (Ei:=[(91,_),(92,_)]) rfl rfl (bQ (bZ 3 rfl rfl) (bQ (bZ 4 rfl rfl) bX)) rfl rfl (dX rfl (cZ K_89 (pM (x:=(eF (lv l) k)) (y:=((eV (lv l) (k - 1)) - (iY l f) * (eF (lv l) (k - 1)))) zo) ⟨(Ht rfl),(Ht rfl),trivial⟩)) ?_))
     refine bY (Ei:=[(90,_),(93,_)]) rfl rfl (bQ (bZ 2 rfl rfl) (bQ (bZ 5 rfl rfl) bX)) rfl rfl (dX rfl (cZ Tryz.call96 (Bq (x:=(eF (lv l) (k - 1)) * ((iY l f) * (eF (lv l) k) - (eV (lv l) k))) (y:=(eF (lv l) k) * ((eV (lv l) (k - 1)) - (iY l f) * (eF (lv l) (k - 1)))) zo) ⟨(Ht rfl),(Ht rfl),trivial⟩)) (bY (Ei:=[(12,_)]) rfl rfl (bQ (bJ rfl rfl) bX) rfl rfl (dX rfl (eJ A_40 Z_40 (Ht rfl) (i:=4) rfl rfl rfl)) (bY (Ei:=[(13,_)]) rfl rfl (bQ (bJ rfl rfl) bX) rfl rfl (dX rfl (eJ A_40 Z_40 (Ht rfl) (i:=5) rfl rfl rfl)) ?_))
     refine bY (Ei:=[(95,_),(96,_)]) rfl rfl (bQ (bZ 7 rfl rfl) (bQ (bZ 8 rfl rfl) bX)) rfl rfl (dX rfl (cZ Tryz.call96 (Bq (x:=((eV (lv l) (k - 1)) - (iY l f) * (eF (lv l) (k - 1)))) (y:=((iY l f) * (eF (lv l) k) - (eV (lv l) k))) zo) ⟨(Ht rfl),(Ht rfl),trivial⟩)) (bY (Ei:=[(94,_),(97,_)]) rfl rfl (bQ (bZ 6 rfl rfl) (bQ (bZ 9 rfl rfl) bX)) rfl rfl (dX rfl (cZ Tryz.call87 (Jk (x:=(eF (lv l) (k - 1)) * ((iY l f) * (eF (lv l) k) - (eV (lv l) k)) + (eF (lv l) k) * ((eV (lv l) (k - 1)) - (iY l f) * (eF (lv l) (k - 1)))) (y:=((eV (lv l) (k - 1)) - (iY l f) * (eF (lv l) (k - 1))) + ((iY l f) * (eF (lv l) k) - (eV (lv l) k))) zo) ⟨(Ht rfl),(Ht rfl),trivial⟩)) ?_)
     refine bY (Ei:=[(98,_)]) rfl rfl (bQ (bZ 10 rfl rfl) bX) rfl rfl (dX rfl (cX (Ht rfl))) (bY (Ei:=[(87,_)]) rfl rfl (bQ (bZ 11 rfl rfl) bX) rfl rfl (dX rfl (dK (Ht rfl) rfl)) (bY (Ei:=[(87,_)]) rfl rfl (bQ (bZ 11 rfl rfl) bX) rfl rfl (dX rfl (dK (Ht rfl) rfl)) (Y.D_newp (Ei:=[]) (fun bb=>box bb 40 [aB (decide ((cR (eF (lv l) (k - 1)) (eV (lv l) (k - 1)) (eF (lv l) k) (eV (lv l) k) (iY l f)).a < 0)),aD (cR (eF (lv l) (k - 1)) (eV (lv l) (k - 1)) (eF (lv l) k) (eV (lv l) k) (iY l f)).a.natAbs,aB (decide ((cR (eF (lv l) (k - 1)) (eV (lv l) (k - 1)) (eF (lv l) k) (eV (lv l) k) (iY l f)).b < 0)),aD (cR (eF (lv l) (k - 1)) (eV (lv l) (k - 1)) (eF (lv l) k) (eV (lv l) k) (iY l f)).b.natAbs,aD (cR (eF (lv l) (k - 1)) (eV (lv l) (k - 1)) (eF (lv l) k) (eV (lv l) k) (iY l f)).den]) 15 rfl rfl rfl bX rfl rfl (by kernel_rfl) (eW (Ts:=[Is (.bool false),Is (.slice none 0 0),Is (.bool false),Is (.slice none 0 0),Is (.slice none 0 0)]) O_40 rfl (fun V=>aW zd (aW zd (aW zd (aW zd (aW zd (aG))))))) ?_)))
     refine Y.D_putN (Ei:=[(99,_)]) 14 rfl rfl rfl rfl rfl rfl (bQ (bZ 12 rfl rfl) bX) (fun bb=>sV Z_40 (Ht rfl) (Ht rfl) rfl (i:=0) rfl (aK rfl) rfl rfl) (Y.D_done aR rfl (by kernel_rfl) rfl (by simp [Y.okP]) rfl rfl (bU (bU (bU (bU (bU (bU (bU (bU (bU (bU (bU (bU (bU (bU (Y.F_newp (fun B14=>Y.F_putN (Y.F_nil ?_))))))))))))))))))
     refine ra rfl (eX (ts (ro rfl (eJ A_40 Z_40 (Ht rfl) (i:=6) rfl rfl rfl) (gQ Z_40 (Ht rfl) (Ht rfl) rfl (i:=0) rfl (aK rfl) rfl rfl (ro rfl (cQ (cJ 0)) (eX (bC rfl (fX (fK A_40 Z_40 rfl (i:=0) rfl rfl) ?_) (fX (eU rfl) ?_))))))))
     ·exact (lG (by first | (rw [hcp]; done) | (rw [hcp]; rfl)))
     ·exact (aL (by rw [hcp]; rfl))
   ·simp only [decide_eq_false_iff_not] at hc
    have hix:=Jp ok hg2 (fun i hi=>h0 i zo)
    refine gV rfl (ts (ro rfl (cZ K_84 (nR (n:=0) (by decide) (by decide)) ⟨(cJ 0),trivial⟩) (gQ Z_40 (Ht rfl) (Ht rfl) rfl (i:=0) rfl (aK rfl) rfl rfl (ro rfl (cQ (cJ 5)) (eX (bC rfl (fX (fK A_40 Z_40 rfl (i:=0) rfl rfl) ?_) (fX (eU rfl) ?_)))))))
    ·exact (lG (by first | (rw [iE he hg2 hix]; done) | (rw [iE he hg2 hix]; rfl)))
    ·exact (aL (by first | (rw [iE he hg2 hix]; done) | (rw [iE he hg2 hix]; rfl)))
end
section
open Go Go.RowKit
abbrev jM (M:List (List Qi)) (i:Nat):List Qi:=M.getD i []
def Nc (M : List (List Qi)) (c n : Nat) : Nat → Nat
 | 0=>n
 | k + 1=>if gm M (n - (k + 1)) c = Qi.zero then Nc M c n k else n - (k + 1)
def pv (M:List (List Qi)) (c n:Nat):Nat:=Nc M c n (n - c)
theorem Fp {M : List (List Qi)} {c n : Nat} : ∀ {k : Nat}, k ≤ n → (∀ r, n - k ≤ r → r < Nc M c n k → gm M r c = Qi.zero) ∧ n - k ≤ Nc M c n k ∧ Nc M c n k ≤ n ∧ (Nc M c n k < n → gm M (Nc M c n k) c ≠ Qi.zero)
 | 0,_=>⟨fun r h1 h2=>by simp [Nc] at h2; omega,by simp [Nc],by simp [Nc],fun h=>by simp [Nc] at h⟩
 | k + 1, hk => by
  obtain ⟨i1,i2,i3,i4⟩:=Fp (M:=M) (c:=c) (n:=n) (k:=k) zo
  unfold Nc
  by_cases e:gm M (n - (k + 1)) c = Qi.zero
  ·rw [if_pos e]
   refine ⟨fun r h1 h2=>?_,by omega,i3,i4⟩
   by_cases e2:r = n - (k + 1)
   ·rw [e2]; exact e
   ·exact i1 r zo h2
  ·rw [if_neg e]
   exact ⟨fun r h1 h2=>by omega,Nat.le_refl _,by omega,fun _=>e⟩
theorem tY {M:List (List Qi)} {c n:Nat} (hc:c ≤ n):(∀ r,c ≤ r → r < pv M c n → gm M r c = Qi.zero) ∧ c ≤ pv M c n ∧ pv M c n ≤ n ∧ (pv M c n < n → gm M (pv M c n) c ≠ Qi.zero):=by
 have h:=Fp (M:=M) (c:=c) (n:=n) (k:=n - c) zo
 rw [show n - (n - c) = c by omega] at h
 exact h
def Fu (rr rc:List Qi) (c k:Nat):List Qi:=tab rr.length fun j=>if c < j ∧ j < k then gv rr j - gv rr c / gv rc c * gv rc j else gv rr j
def redM (M:List (List Qi)) (c r:Nat):List (List Qi):=tab M.length fun i=>if c < i ∧ i < r then Fu (jM M i) (jM M c) c (jM M i).length else jM M i
def jA (M : List (List Qi)) : Nat → List (List Qi) × Nat × Int
 | 0=>(M,0,-1)
 | c + 1 =>
  let s:=jA M c
  if 0 ≤ s.2.2 then s else
  if pv s.1 c M.length = M.length then (s.1,s.2.1,(c:Int)) else
  (redM (if pv s.1 c M.length = c then s.1 else swp [] s.1 (pv s.1 c M.length) c) c M.length,s.2.1 + (if pv s.1 c M.length = c then 0 else 1),-1)
theorem Sa (M:List (List Qi)) (c r:Nat):(redM M c r).length = M.length:=bT _ _
theorem Ft {M:List (List Qi)} {n m c r:Nat} (h:iR M n m):iR (redM M c r) n m:=by
 refine ⟨(Sa _ _ _).trans h.1,fun x hx=>?_⟩
 obtain ⟨i,hi,rfl⟩:=jF.1 hx
 have hr:=h.row (i:=i) (by rw [← h.1]; exact hi)
 show (if c < i ∧ i < r then Fu (jM M i) (jM M c) c (jM M i).length else jM M i).length = m
 split
 ·rw [Fu,bT]; exact hr
 ·exact hr
theorem Cy {M:List (List Qi)} {n m p c:Nat} (h:iR M n m) (hp:p < n) (hc:c < n):iR (swp [] M p c) n m:=by
 refine ⟨(Cw _ _ _ _).trans h.1,fun x hx=>?_⟩
 unfold swp at hx
 rcases List.mem_or_eq_of_mem_set hx with h1 | h1
 ·rcases List.mem_or_eq_of_mem_set h1 with h2 | h2
  ·exact h.2 x h2
  ·rw [h2]; exact h.row hc
 ·rw [h1]; exact h.row hp
theorem xV {M : List (List Qi)} {n m : Nat} (h : iR M n m) : ∀ {c : Nat}, c ≤ n → iR (jA M c).1 n m
 | 0,_=>h
 | c + 1, hc => by
  have ih:=xV h (c:=c) zo
  obtain ⟨_,_,i3,_⟩:=tY (M:=(jA M c).1) (c:=c) (n:=M.length) (by rw [h.1]; omega)
  simp only [jA]
  split
  ·exact ih
  ·split
   ·exact ih
   ·rename_i e
    apply Ft
    split
    ·exact ih
    ·exact Cy ih (by rw [← h.1]; omega) zo
def pW (L : Nat) : Nat → Nat
 | 0=>L
 | c + 1=>6 * pW L c + 4
theorem qV (L : Nat) : ∀ {c d : Nat}, c ≤ d → pW L c ≤ pW L d
 | c,0,h=>by rw [show c = 0 by omega]; exact Nat.le_refl _
 | c, d + 1, h => by
  by_cases e:c = d + 1
  ·rw [e]; exact Nat.le_refl _
  ·have := qV L (c := c) (d := d) zo
   simp only [pW]; omega
theorem wL (L c:Nat):L ≤ pW L c:=qV L (Nat.zero_le c)
theorem Jx {rr rc:List Qi} {L c j:Nat} (h1:fM rr L) (h2:fM rc L) (hL:1 ≤ L) (hp:gv rc c ≠ Qi.zero):aH (gv rr j - gv rr c / gv rc c * gv rc j) (6 * L + 4):=by
 haveI f1:=h1.get hL j; haveI f2:=h1.get hL c; haveI f3:=h2.get hL c; haveI f4:=h2.get hL j
 haveI g:aH (gv rr c / gv rc c) (L + 3 * L + 2):=⟨f2.fit.div f3.fit hp⟩
 have:aH (gv rr j - gv rr c / gv rc c * gv rc j) (L + (L + 3 * L + 2 + L + 1) + 1):=inferInstance
 exact this.le zo
theorem Sb {rr rc : List Qi} {L c k : Nat} (h1 : fM rr L) (h2 : fM rc L) (hL : 1 ≤ L) (hp : gv rc c ≠ Qi.zero) : fM (Fu rr rc c k) (6 * L + 4) := fM.tab fun j _ => by
 split
 ·exact Jx h1 h2 hL hp
 ·exact (h1.get hL j).le zo
theorem Fs {M : List (List Qi)} {L c r : Nat} (h : cD M L) (hL : 1 ≤ L) (hp : gm M c c ≠ Qi.zero) : cD (redM M c r) (6 * L + 4) := fun x hx => by
 obtain ⟨i,hi,rfl⟩:=jF.1 hx
 show fM (if c < i ∧ i < r then Fu (jM M i) (jM M c) c (jM M i).length else jM M i) _
 split
 ·exact Sb (h.row i) (h.row c) hL hp
 ·exact (h.row i).le zo
theorem Ld {M : List (List Qi)} {L p c : Nat} (h : cD M L) : cD (swp [] M p c) L := fun x hx => by
 unfold swp at hx
 rcases List.mem_or_eq_of_mem_set hx with h1 | h1
 ·rcases List.mem_or_eq_of_mem_set h1 with h2 | h2
  ·exact h x h2
  ·rw [h2]; exact h.row c
 ·rw [h1]; exact h.row p
theorem Cv {M:List (List Qi)} {p c:Nat} (hc:c < M.length):jM (swp [] M p c) c = jM M p:=by
 simp [jM,swp,List.getD,hc]
theorem xU {M : List (List Qi)} {n m L : Nat} (hs : iR M n m) (h : cD M L) (hL : 1 ≤ L) : ∀ {c : Nat}, c ≤ n → cD (jA M c).1 (pW L c)
 | 0,_=>h
 | c + 1, hc => by
  have ih:=xU hs h hL (c:=c) zo
  have hg:1 ≤ pW L c:=Nat.le_trans hL (wL L c)
  have sh:=xV hs (c:=c) zo
  obtain ⟨_,i2,i3,i4⟩:=tY (M:=(jA M c).1) (c:=c) (n:=M.length) (by rw [hs.1]; omega)
  simp only [jA,pW]
  split
  ·exact ih.le zo
  ·split
   ·exact ih.le zo
   ·rename_i e
    split
    ·rename_i e2
     refine Fs ih hg ?_
     have:=i4 zo
     rw [e2] at this; exact this
    ·refine Fs (Ld ih) hg ?_
     show gv (jM (swp [] _ _ c) c) c ≠ _
     rw [Cv (by rw [sh.1]; omega)]
     exact i4 zo
theorem Wr {M:List (List Qi)} {c r i:Nat} (hi:i < M.length) (h:¬ (c < i ∧ i < r)):jM (redM M c r) i = jM M i:=by
 simp only [jM,redM,List.getD]
 rw [fI hi,if_neg h]; rfl
end
section
open Go Go.RowKit
abbrev a17 (M bs:List (List Qi)) (i:Nat):List Qi:=jM M i ++ bs.map fun b=>gv b i
def uZ (M bs:List (List Qi)) (n:Nat):List (List Qi):=tab n (a17 M bs)
theorem uL {M bs:List (List Qi)} {n m:Nat} (h:iR M n m):iR (uZ M bs n) n (m + bs.length):=by
 refine ⟨bT _ _,fun r hr=>?_⟩
 obtain ⟨i,hi,rfl⟩:=jF.1 hr
 rw [List.length_append,List.length_map,h.row hi]
theorem uK {M bs : List (List Qi)} {n L : Nat} (h : cD M L) (hb : cD bs L) (hL : 1 ≤ L) : cD (uZ M bs n) L := fun r hr x hx => by
 obtain ⟨i,hi,rfl⟩:=jF.1 hr
 rcases List.mem_append.1 hx with h1 | h1
 ·exact h.row i x h1
 ·obtain ⟨b, hb1, rfl⟩ := List.mem_map.1 h1
  exact fM.get (hb b hb1) hL i
def Ii (U : List (List Qi)) (x : List Qi) (n c : Nat) : Nat → Qi
 | 0=>gm U c n
 | k + 1=>Ii U x n c k - gm U c (c + 1 + k) * gv x (c + 1 + k)
def bkS (U : List (List Qi)) (n : Nat) : Nat → List Qi
 | 0=>tab n fun _=>Qi.zero
 | j + 1=>(bkS U n j).set (n - (j + 1)) (Ii U (bkS U n j) n (n - (j + 1)) j / gm U (n - (j + 1)) (n - (j + 1)))
def Mr (M:List (List Qi)) (b:List Qi) (n:Nat):List (List Qi) × Nat × Int:=jA (uZ M [b] n) n
def a1l (M:List (List Qi)) (b:List Qi) (n:Nat):Int:=if 0 ≤ (Mr M b n).2.2 then 6 else 0
def Lg (G : Nat) : Nat → Nat
 | 0=>G
 | j + 1=>j * (Lg G j + G + 2) + 4 * G + 2
theorem zL (G j:Nat):Lg G j ≤ Lg G (j + 1):=by
 cases j with
 | zero=>simp only [Lg]; omega
 | succ j =>
  have:Lg G (j + 1) + G + 2 ≤ (j + 1) * (Lg G (j + 1) + G + 2):=Nat.le_mul_of_pos_left _ zo
  rw [show Lg G (j + 1 + 1) = (j + 1) * (Lg G (j + 1) + G + 2) + 4 * G + 2 from rfl]
  omega
theorem Im (G : Nat) : ∀ j, G ≤ Lg G j
 | 0=>Nat.le_refl _
 | j + 1=>Nat.le_trans (Im G j) (zL G j)
theorem Gf (G : Nat) : ∀ {i j : Nat}, i ≤ j → Lg G i ≤ Lg G j
 | i,0,h=>by rw [show i = 0 by omega]; exact Nat.le_refl _
 | i, j + 1, h => by
  by_cases e:i = j + 1
  ·rw [e]; exact Nat.le_refl _
  ·exact Nat.le_trans (Gf G (show i ≤ j by omega)) (zL G j)
theorem Ak {M : List (List Qi)} {n m : Nat} (hs : iR M n m) : ∀ {c : Nat}, c ≤ n → (jA M c).2.2 < 0 → ∀ i, i < c → gm (jA M c).1 i i ≠ Qi.zero
 | 0,_,_,i,hi=>by omega
 | c + 1, hc, hst, i, hi => by
  have sh:=xV hs (c:=c) zo
  obtain ⟨_,i2,i3,i4⟩:=tY (M:=(jA M c).1) (c:=c) (n:=M.length) (by rw [hs.1]; omega)
  simp only [jA] at hst ⊢
  split at hst
  ·rename_i h0; omega
  ·rename_i h0
   rw [if_neg h0]
   split at hst
   ·simp at hst; omega
   ·rename_i h1
    rw [if_neg h1]
    have ih:=Ak hs (c:=c) zo zo
    have hl : ∀ X : List (List Qi), X.length = n → gm (redM X c M.length) i i = gm X i i := fun X hX => by
     show gv (jM (redM X c M.length) i) i = _
     rw [Wr zo zo]
    by_cases e:pv (jA M c).1 c M.length = c
    ·rw [if_pos e, hl _ sh.1]
     by_cases e2:i = c
     ·rw [e2]; have:=i4 (by have:=hs.1; omega); rw [e] at this; exact this
     ·exact ih i zo
    ·have hpl : pv (jA M c).1 c M.length < n := by rw [← hs.1]; omega
     rw [if_neg e,hl _ ((Cw _ _ _ _).trans sh.1)]
     by_cases e2:i = c
     ·rw [e2]
      show gv (jM (swp [] _ _ c) c) c ≠ _
      rw [Cv (by rw [sh.1]; omega)]
      exact i4 (by have:=hs.1; omega)
     ·have : jM (swp [] (jA M c).1 (pv (jA M c).1 c M.length) c) i = jM (jA M c).1 i := by
       simp only [jM,swp,List.getD]
       rw [List.getElem?_set_ne (Ne.symm e2),List.getElem?_set_ne zo]
      show gv (jM (swp [] _ _ c) i) i ≠ _
      rw [this]; exact ih i zo
theorem Lc {U : List (List Qi)} {x : List Qi} {n c G X : Nat} (hU : cD U G) (hx : fM x X) (hG : 1 ≤ G) (hX : 1 ≤ X) : ∀ k, aH (Ii U x n c k) (G + k * (G + X + 2))
 | 0=>(hU.get hG c n).le zo
 | k + 1 => by
  haveI f1:=Lc (n:=n) (c:=c) hU hx hG hX k
  haveI f2:=hU.get hG c (c + 1 + k)
  haveI f3:=hx.get hX (c + 1 + k)
  have:aH (Ii U x n c (k + 1)) (G + k * (G + X + 2) + (G + X + 1) + 1):=by unfold Ii; infer_instance
  exact this.le (by rw [Nat.add_mul]; omega)
theorem Zp {U:List (List Qi)} {x:List Qi} {n c G X j:Nat} (hU:cD U G) (hx:fM x X) (hG:1 ≤ G) (hX:1 ≤ X) (hz:gm U c c ≠ Qi.zero):aH (Ii U x n c j / gm U c c) (j * (X + G + 2) + 4 * G + 2):=by
 have f1:=Lc (n:=n) (c:=c) hU hx hG hX j
 have f2:=hU.get hG c c
 have:aH (Ii U x n c j / gm U c c) (G + j * (G + X + 2) + 3 * G + 2):=⟨f1.fit.div f2.fit hz⟩
 exact this.le (by rw [Nat.add_comm X G]; omega)
theorem Nv {U : List (List Qi)} {n G : Nat} (hU : cD U G) (hG : 1 ≤ G) (hz : ∀ i, i < n → gm U i i ≠ Qi.zero) : ∀ j, j ≤ n → fM (bkS U n j) (Lg G j)
 | 0,_=>fM.tab fun _ _=>aH.zero hG
 | j + 1, hj => fun y hy => by
  have ih:=Nv hU hG hz j zo
  rcases List.mem_or_eq_of_mem_set hy with h1 | h1
  ·exact (ih y h1).le (zL G j)
  ·rw [h1]; exact Zp hU ih hG (Nat.le_trans hG (Im G j)) (hz _ zo)
theorem Sh {M:List (List Qi)} {b:List Qi} {n L:Nat} (h:iR M n n) (hM:cD M L) (hb:fM b L) (hL:1 ≤ L):cD (Mr M b n).1 (pW L n):=xU (uL h) (uK hM (fun r hr=>by simp at hr; subst hr; exact hb) hL) hL (Nat.le_refl n)
def a1r (n i:Nat):List Qi:=(tab n fun _=>Qi.zero).set i (Qi.ofInt 1)
def idM (n:Nat):List (List Qi):=tab n (a1r n)
theorem Xb {M:List (List Qi)} {b:List Qi} {n:Nat} (h:¬ 0 ≤ (Mr M b n).2.2):(Mr M b n).2.2 < 0:=by omega
end
section
open Go Go.RowKit
abbrev ek (n k:Nat):List Qi:=(idM n).getD k []
end
section
open Go Go.RowKit
namespace Qi
def npow' (x : Qi) : Nat → Qi
 | 0=>Qi.ofInt 1
 | k + 1=>npow' x k * x
theorem one_mul2 (x:Qi):Qi.ofInt 1 * x = x:=ext' (by show ((1:Int):Rat) * x.re - 0 * x.im = x.re; grind) (by show ((1:Int):Rat) * x.im + 0 * x.re = x.im; grind)
theorem mul_one2 (x:Qi):x * Qi.ofInt 1 = x:=by rw [mul_comm',one_mul2]
end Qi
instance qiField:Lean.Grind.CommRing Qi where
 natCast:=⟨fun n=>Qi.ofInt n⟩
 ofNat n:=⟨Qi.ofInt n⟩
 nsmul:=⟨fun n x=>Qi.ofInt n * x⟩
 npow:=⟨Qi.npow'⟩
 add_zero:=Qi.add_zero'
 add_comm:=Qi.add_comm'
 add_assoc:=Qi.add_assoc'
 mul_assoc:=Qi.mul_assoc'
 mul_comm:=Qi.mul_comm'
 mul_one:=Qi.mul_one2
 one_mul:=Qi.one_mul2
 left_distrib:=Qi.mul_add'
 right_distrib:=Qi.add_mul'
 zero_mul:=Qi.zero_mul'
 mul_zero:=Qi.mul_zero'
 pow_zero _:=rfl
 pow_succ _ _:=rfl
 ofNat_succ n:=Qi.ext' (by show (((n + 1:Nat):Int):Rat) = ((n:Int):Rat) + ((1:Int):Rat); rw [Int.natCast_add,Rat.intCast_add]; rfl) (by show (0:Rat) = 0 + 0; grind)
 intCast:=⟨Qi.ofInt⟩
 zsmul:=⟨fun n x=>Qi.ofInt n * x⟩
 neg_add_cancel x:=Qi.ext' (by show -x.re + x.re = ((0:Int):Rat); grind) (by show -x.im + x.im = 0; grind)
 sub_eq_add_neg:=Qi.sub_def
 neg_zsmul i x:=Qi.ext' (by show ((-i:Int):Rat) * x.re - 0 * x.im = -((i:Rat) * x.re - 0 * x.im); rw [Rat.intCast_neg]; grind) (by show ((-i:Int):Rat) * x.im + 0 * x.re = -((i:Rat) * x.im + 0 * x.re); rw [Rat.intCast_neg]; grind)
 intCast_neg i:=Qi.ext' (Rat.intCast_neg i) (by show (0:Rat) = -0; grind)
theorem q0:Qi.zero = 0:=rfl
theorem q1:Qi.ofInt 1 = 1:=rfl
theorem yG {x:Qi} (h:x ≠ 0):x * Qi.inv x = 1:=by
 have hn:x.nrm ≠ 0:=fun e=>h (Qi.nrm_zero.1 e)
 have e:x.re * x.re + x.im * x.im = x.nrm:=rfl
 refine Qi.ext' ?_ ?_
 ·show x.re * (x.re / x.nrm) - x.im * (-x.im / x.nrm) = ((1 : Int) : Rat)
  grind
 ·show x.re * (-x.im / x.nrm) + x.im * (x.re / x.nrm) = 0
  grind
theorem Bx {x y:Qi} (h:y ≠ 0):x / y * y = x:=by
 rw [Qi.div_def]
 have:=yG h
 grind
theorem a0a {x y z:Qi} (h:y ≠ 0) (e:x = z * y):x / y = z:=by
 have h1:=Bx (x:=x) h
 have h2:=yG h
 grind
theorem vG {x y:Qi} (h:x * y = 0):x = 0 ∨ y = 0:=by
 by_cases e:x = 0
 ·exact .inl e
 ·right; have:=yG e; grind
end
section
open Go Go.RowKit
theorem Gd (m:Nat) (f:Qi) (a b:Nat → Qi):eO m (fun k=>a k - f * b k) = eO m a - f * eO m b:=by
 induction m with
 | zero=>simp only [eO,q0]; grind
 | succ m ih=>simp only [eO,ih]; grind
def Ker (M:List (List Qi)) (n m:Nat) (x:Nat → Qi):Prop:=∀ i,i < n → eO m (fun k=>gm M i k * x k) = 0
def vI (rr rc:List Qi) (c k:Nat):List Qi:=tab rr.length fun j=>if c ≤ j ∧ j < k then gv rr j - gv rr c / gv rc c * gv rc j else gv rr j
def redJ (M:List (List Qi)) (c r:Nat):List (List Qi):=tab M.length fun i=>if i ≠ c ∧ i < r then vI (jM M i) (jM M c) c (jM M i).length else jM M i
def Md (M : List (List Qi)) : Nat → Option (List (List Qi))
 | 0=>some M
 | c + 1=>(Md M c).bind fun A=>if pv A c M.length = M.length then none else some (redJ (swp [] A (pv A c M.length) c) c M.length)
theorem Rx (M:List (List Qi)) (c r:Nat):(redJ M c r).length = M.length:=bT _ _
theorem Mn (rr rc:List Qi) (c k:Nat):(vI rr rc c k).length = rr.length:=bT _ _
theorem Ry {M:List (List Qi)} {c r i:Nat} (hi:i < M.length):jM (redJ M c r) i = if i ≠ c ∧ i < r then vI (jM M i) (jM M c) c (jM M i).length else jM M i:=by
 simp only [jM,redJ,List.getD]; rw [fI hi]; rfl
theorem Rz {M:List (List Qi)} {n m c r:Nat} (h:iR M n m):iR (redJ M c r) n m:=by
 refine ⟨(Rx _ _ _).trans h.1,fun x hx=>?_⟩
 obtain ⟨i,hi,rfl⟩:=jF.1 hx
 have hr:=h.row (i:=i) (by rw [← h.1]; exact hi)
 show (if i ≠ c ∧ i < r then vI (jM M i) (jM M c) c (jM M i).length else jM M i).length = m
 split
 ·rw [Mn]; exact hr
 ·exact hr
theorem wU {M:List (List Qi)} {n m c i j:Nat} (h:iR M n m) (hi:i < n) (hj:j < m):gm (redJ M c n) i j = if i ≠ c ∧ c ≤ j then gm M i j - gm M i c / gm M c c * gm M c j else gm M i j:=by
 have hr:(jM M i).length = m:=h.row hi
 show gv (jM (redJ M c n) i) j = _
 rw [Ry (by rw [h.1]; exact hi)]
 by_cases e:i = c
 ·rw [if_neg (fun k=>k.1 e),if_neg (fun k=>k.1 e)]
 ·rw [if_pos ⟨e, hi⟩, vI, Ce zo]
  by_cases e2:c ≤ j
  ·rw [if_pos ⟨e2,by omega⟩,if_pos ⟨e,e2⟩]
  ·rw [if_neg (fun k=>e2 k.1),if_neg (fun k=>e2 k.2)]
theorem Ij {M:List (List Qi)} {p c i:Nat} (hp:p < M.length) (hc:c < M.length):jM (swp [] M p c) i = jM M (if i = c then p else if i = p then c else i):=by
 simp only [jM,swp,List.getD]
 by_cases e:i = c
 ·subst e; rw [List.getElem?_set_self (by simpa using hc),if_pos rfl]; rfl
 ·rw [List.getElem?_set_ne (Ne.symm e), if_neg e]
  by_cases e2:i = p
  ·subst e2; rw [List.getElem?_set_self hp,if_pos rfl]; rfl
  ·rw [List.getElem?_set_ne (Ne.symm e2),if_neg e2]
theorem Vh {M:List (List Qi)} {n m p c:Nat} {x:Nat → Qi} (hl:M.length = n) (hp:p < n) (hc:c < n):Ker (swp [] M p c) n m x ↔ Ker M n m x:=by
 have key : ∀ i, gm (swp [] M p c) i = gm M (if i = c then p else if i = p then c else i) := fun i => by
  funext j; exact congrArg (fun r=>gv r j) (Ij zo zo)
 constructor
 ·intro h i hi
  have h1:=h (if i = c then p else if i = p then c else i) (by split <;> (try split) <;> omega)
  rw [key] at h1
  have e : (if (if i = c then p else if i = p then c else i) = c then p else if (if i = c then p else if i = p then c else i) = p then c else (if i = c then p else if i = p then c else i)) = i := by
   by_cases e1:i = c
   ·subst e1; rw [if_pos rfl]
    by_cases e2:p = i
    ·rw [if_pos e2]; exact e2
    ·rw [if_neg e2,if_pos rfl]
   ·rw [if_neg e1]
    by_cases e2:i = p
    ·subst e2; rw [if_pos rfl,if_pos rfl]
    ·rw [if_neg e2,if_neg e1,if_neg e2]
  rw [e] at h1; exact h1
 ·intro h i hi
  rw [key]; exact h _ (by split <;> (try split) <;> omega)
theorem Vg {M:List (List Qi)} {n m c:Nat} {x:Nat → Qi} (hs:iR M n m) (hc:c < n) (hz:∀ j,j < c → gm M c j = 0):Ker (redJ M c n) n m x ↔ Ker M n m x:=by
 have key : ∀ i, i < n → i ≠ c → eO m (fun k => gm (redJ M c n) i k * x k) = eO m (fun k => gm M i k * x k) - gm M i c / gm M c c * eO m (fun k => gm M c k * x k) := fun i hi e => by
  rw [← Gd]
  refine lJ fun k hk=>?_
  rw [wU hs hi hk]
  by_cases e2:c ≤ k
  ·rw [if_pos ⟨e,e2⟩]; grind
  ·rw [if_neg (fun h=>e2 h.2),hz k zo]; grind
 have keyc:eO m (fun k=>gm (redJ M c n) c k * x k) = eO m (fun k=>gm M c k * x k):=lJ fun k hk=>by rw [wU hs hc hk,if_neg (fun h=>h.1 rfl)]
 constructor
 ·intro h i hi
  have h0:=h c hc
  rw [keyc] at h0
  by_cases e:i = c
  ·rw [e]; exact h0
  ·have h1 := h i hi
   rw [key i hi e,h0] at h1
   grind
 ·intro h i hi
  have h0:=h c hc
  by_cases e:i = c
  ·rw [e,keyc]; exact h0
  ·rw [key i hi e,h0,h i hi]; grind
structure GJ (M A:List (List Qi)) (n m c:Nat):Prop where
 sh:iR A n m
 ker:∀ x,Ker A n m x ↔ Ker M n m x
 off:∀ j,j < c → ∀ i,i < n → i ≠ j → gm A i j = 0
 dg:∀ j,j < c → gm A j j ≠ 0
theorem GJ.next {M A:List (List Qi)} {n m c p:Nat} (h:GJ M A n m c) (hc:c < n) (hnm:n ≤ m) (hcp:c ≤ p) (hp:p < n) (hz:gm A p c ≠ 0):GJ M (redJ (swp [] A p c) c n) n m (c + 1):=by
 have hs:iR (swp [] A p c) n m:=Cy h.sh hp hc
 have hl:=h.sh.1
 have key : ∀ i, gm (swp [] A p c) i = gm A (if i = c then p else if i = p then c else i) := fun i => by
  funext j; exact congrArg (fun r=>gv r j) (Ij zo zo)
 have hcc:gm (swp [] A p c) c c ≠ 0:=by rw [key,if_pos rfl]; exact hz
 have hoff : ∀ j, j < c → ∀ i, i < n → i ≠ j → gm (swp [] A p c) i j = 0 := fun j hj i hi hij => by
  rw [key]
  by_cases e1:i = c
  ·rw [if_pos e1]; exact h.off j hj p hp zo
  ·rw [if_neg e1]
   by_cases e2:i = p
   ·rw [if_pos e2]; exact h.off j hj c hc zo
   ·rw [if_neg e2]; exact h.off j hj i hi hij
 refine ⟨Rz hs,fun x=>(Vg hs hc (fun j hj=>hoff j hj c hc zo)).trans ((Vh hl hp hc).trans (h.ker x)),fun j hj i hi hij=>?_,fun j hj=>?_⟩
 ·rw [wU hs hi zo]
  by_cases e:j = c
  ·subst e
   rw [if_pos ⟨hij,Nat.le_refl _⟩]
   have:=Bx (x:=gm (swp [] A p j) i j) hcc
   grind
  ·rw [if_neg (fun k=>by omega)]; exact hoff j zo i hi hij
 ·rw [wU hs zo zo]
  by_cases e:j = c
  ·subst e; rw [if_neg (fun k=>k.1 rfl)]; exact hcc
  ·rw [if_neg (fun k=>by omega),key,if_neg zo,if_neg zo]; exact h.dg j zo
theorem Px {M : List (List Qi)} {n m : Nat} (hs : iR M n m) (hnm : n ≤ m) : ∀ {c : Nat} {A : List (List Qi)}, c ≤ n → Md M c = some A → GJ M A n m c
 | 0, A, _, h => by
  obtain rfl:=Option.some.inj h
  exact ⟨hs,fun _=>Iff.rfl,fun j hj=>by omega,fun j hj=>by omega⟩
 | c + 1, A, hc, h => by
  simp only [Md] at h
  obtain ⟨B,h1,h2⟩:=Option.bind_eq_some_iff.1 h
  split at h2
  ·cases h2
  ·rename_i e
   obtain rfl:=Option.some.inj h2
   have ih:=Px hs hnm (c:=c) zo h1
   rw [hs.1] at e ⊢
   obtain ⟨_,i2,i3,i4⟩:=tY (M:=B) (c:=c) (n:=n) zo
   exact ih.next zo hnm i2 zo (i4 zo)
theorem Mm {rr rc : List Qi} {L c k : Nat} (h1 : fM rr L) (h2 : fM rc L) (hL : 1 ≤ L) (hp : gv rc c ≠ Qi.zero) : fM (vI rr rc c k) (6 * L + 4) := fM.tab fun j _ => by
 split
 ·exact Jx h1 h2 hL hp
 ·exact (h1.get hL j).le zo
theorem Rw {M : List (List Qi)} {L c r : Nat} (h : cD M L) (hL : 1 ≤ L) (hp : gm M c c ≠ Qi.zero) : cD (redJ M c r) (6 * L + 4) := fun x hx => by
 obtain ⟨i,hi,rfl⟩:=jF.1 hx
 show fM (if i ≠ c ∧ i < r then vI (jM M i) (jM M c) c (jM M i).length else jM M i) _
 split
 ·exact Mm (h.row i) (h.row c) hL hp
 ·exact (h.row i).le zo
theorem Pw {M : List (List Qi)} {n m L : Nat} (hs : iR M n m) (hnm : n ≤ m) (h : cD M L) (hL : 1 ≤ L) : ∀ {c : Nat} {A : List (List Qi)}, c ≤ n → Md M c = some A → cD A (pW L c)
 | 0,A,_,e=>by obtain rfl:=Option.some.inj e; exact h
 | c + 1, A, hc, e => by
  simp only [Md] at e
  obtain ⟨B,h1,h2⟩:=Option.bind_eq_some_iff.1 e
  split at h2
  ·cases h2
  ·rename_i e3
   obtain rfl:=Option.some.inj h2
   have ih:=Pw hs hnm h hL (c:=c) zo h1
   have hsB:=(Px hs hnm (c:=c) zo h1).sh
   rw [hs.1] at e3 ⊢
   obtain ⟨_,i2,i3,i4⟩:=tY (M:=B) (c:=c) (n:=n) zo
   refine Rw (Ld ih) (Nat.le_trans hL (wL L c)) ?_
   show gv (jM (swp [] _ _ c) c) c ≠ _
   rw [Cv (by rw [hsB.1]; omega)]
   exact i4 zo
end
section
open Go Go.RowKit
abbrev pA (ps:List (Nat × Nat)) (k:Nat):Nat:=(ps.getD k (0,0)).1
abbrev pB (ps:List (Nat × Nat)) (k:Nat):Nat:=(ps.getD k (0,0)).2
end
section
open Go Go.RowKit
def clr (A:List (List Qi)) (c i j:Nat):Qi:=if j < c ∧ j < i then 0 else gm A i j
def zO (F:Nat → Nat → Qi) (n m:Nat) (x:Nat → Qi):Prop:=∀ i,i < n → eO m (fun k=>F i k * x k) = 0
theorem Hl {F G:Nat → Nat → Qi} {n m:Nat} {x:Nat → Qi} (h:∀ i,i < n → ∀ j,j < m → F i j = G i j):zO F n m x ↔ zO G n m x:=by
 have e:∀ i,i < n → eO m (fun k=>F i k * x k) = eO m (fun k=>G i k * x k):=fun i hi=>lJ fun k hk=>by rw [h i hi k hk]
 exact ⟨fun k i hi=>by rw [← e i hi]; exact k i hi,fun k i hi=>by rw [e i hi]; exact k i hi⟩
def Sl (p c i:Nat):Nat:=if i = c then p else if i = p then c else i
theorem Sm {p c i n:Nat} (hp:p < n) (hc:c < n) (hi:i < n):Sl p c i < n:=by unfold Sl; split <;> (try split) <;> omega
theorem Xf (p c i:Nat):Sl p c (Sl p c i) = i:=by
 unfold Sl
 by_cases e1:i = c
 ·subst e1
  rw [if_pos rfl]
  by_cases e2:p = i
  ·rw [if_pos e2]; exact e2
  ·rw [if_neg e2,if_pos rfl]
 ·rw [if_neg e1]
  by_cases e2:i = p
  ·subst e2; rw [if_pos rfl,if_pos rfl]
  ·rw [if_neg e2,if_neg e1,if_neg e2]
theorem Qe {F : Nat → Nat → Qi} {n m p c : Nat} {x : Nat → Qi} (hp : p < n) (hc : c < n) : zO (fun i => F (Sl p c i)) n m x ↔ zO F n m x :=
 ⟨fun h i hi=>by have:=h _ (Sm hp hc hi); simp only [Xf] at this; exact this,fun h i hi=>h _ (Sm hp hc hi)⟩
theorem Qd {F G:Nat → Nat → Qi} {n m c:Nat} {x f:Nat → Qi} (hc:c < n) (hG:∀ i,i < n → ∀ j,j < m → G i j = if c < i then F i j - f i * F c j else F i j):zO G n m x ↔ zO F n m x:=by
 have key : ∀ i, i < n → eO m (fun k => G i k * x k) = if c < i then eO m (fun k => F i k * x k) - f i * eO m (fun k => F c k * x k) else eO m (fun k => F i k * x k) := fun i hi => by
  by_cases e:c < i
  ·rw [if_pos e, ← Gd]
   exact lJ fun k hk=>by rw [hG i hi k hk,if_pos e]; grind
  ·rw [if_neg e]
   exact lJ fun k hk=>by rw [hG i hi k hk,if_neg e]
 have kc:=key c hc
 rw [if_neg zo] at kc
 constructor
 ·intro h i hi
  have h0:=h c hc
  rw [kc] at h0
  have h1:=h i hi
  rw [key i hi] at h1
  by_cases e:c < i
  ·rw [if_pos e,h0] at h1; grind
  ·rw [if_neg e] at h1; exact h1
 ·intro h i hi
  rw [key i hi]
  by_cases e:c < i
  ·rw [if_pos e,h i hi,h c hc]; grind
  ·rw [if_neg e]; exact h i hi
theorem Wt {M:List (List Qi)} {n m c i j:Nat} (h:iR M n m) (hi:i < n) (hj:j < m):gm (redM M c n) i j = if c < i ∧ c < j then gm M i j - gm M i c / gm M c c * gm M c j else gm M i j:=by
 have hr:(jM M i).length = m:=h.row hi
 have e0 : jM (redM M c n) i = if c < i ∧ i < n then Fu (jM M i) (jM M c) c (jM M i).length else jM M i := by
  simp only [jM,redM,List.getD]; rw [fI (by rw [h.1]; exact hi)]; rfl
 show gv (jM (redM M c n) i) j = _
 rw [e0]
 by_cases e:c < i
 ·rw [if_pos ⟨e, hi⟩, Fu, Ce zo]
  by_cases e2:c < j
  ·rw [if_pos ⟨e2,by omega⟩,if_pos ⟨e,e2⟩]
  ·rw [if_neg (fun k=>e2 k.1),if_neg (fun k=>e2 k.2)]
 ·rw [if_neg (fun k=>e k.1),if_neg (fun k=>e k.1)]
theorem Uj {A:List (List Qi)} {p c i j:Nat} (hc:c < A.length) (hp:p < A.length) (hcp:c ≤ p):clr (swp [] A p c) c i j = clr A c (Sl p c i) j:=by
 have key:gm (swp [] A p c) i j = gm A (Sl p c i) j:=congrArg (fun r=>gv r j) (Ij zo zo)
 unfold clr
 rw [key]
 have e:(j < c ∧ j < i) ↔ (j < c ∧ j < Sl p c i):=by unfold Sl; split <;> (try split) <;> omega
 by_cases h:j < c ∧ j < i
 ·rw [if_pos h,if_pos (e.1 h)]
 ·rw [if_neg h,if_neg (fun k=>h (e.2 k))]
structure EL (M A:List (List Qi)) (n m c:Nat):Prop where
 sh:iR A n m
 ker:∀ x,zO (clr A c) n m x ↔ zO (gm M) n m x
theorem EL.next {M A:List (List Qi)} {n m c p:Nat} (h:EL M A n m c) (hc:c < n) (hcm:c < m) (hcp:c ≤ p) (hp:p < n) (hz:gm A p c ≠ 0):EL M (redM (if p = c then A else swp [] A p c) c n) n m (c + 1):=by
 have hl:=h.sh.1
 obtain ⟨B,hB⟩:∃ B,B = if p = c then A else swp [] A p c:=⟨_,rfl⟩
 have hs : iR B n m := by
  rw [hB]; split
  ·exact h.sh
  ·exact Cy h.sh hp hc
 have hBk : ∀ x, zO (clr B c) n m x ↔ zO (gm M) n m x := fun x => by
  rw [hB]; split
  ·exact h.ker x
  ·exact (Hl (G:=fun i=>clr A c (Sl p c i)) fun i hi j hj=>Uj zo zo hcp).trans ((Qe hp hc).trans (h.ker x))
 have hBz : gm B c c ≠ 0 := by
  rw [hB]; split
  ·rename_i e; rw [← e] at hz ⊢; exact hz
  ·show gv (jM (swp [] A p c) c) c ≠ 0
   rw [Cv zo]; exact hz
 rw [← hB]
 refine ⟨Ft hs,fun x=>(Qd (f:=fun i=>gm B i c / gm B c c) hc fun i hi j hj=>?_).trans (hBk x)⟩
 have hd:=Bx (x:=gm B i c) hBz
 unfold clr
 rw [Wt hs hi hj]
 by_cases e:c < i
 ·rw [if_pos e]
  by_cases e1:j < c
  ·rw [if_pos zo,if_pos zo,if_pos zo]; grind
  ·by_cases e2 : j = c
   ·subst e2
    rw [if_pos zo,if_neg zo,if_neg zo]; grind
   ·rw [if_neg zo,if_pos zo,if_neg zo,if_neg zo]
 ·rw [if_neg e, if_neg (show ¬ (c < i ∧ c < j) from fun k => e k.1)]
  by_cases e1:j < i
  ·rw [if_pos (show j < c + 1 ∧ j < i by omega),if_pos (show j < c ∧ j < i by omega)]
  ·rw [if_neg (show ¬ (j < c + 1 ∧ j < i) by omega),if_neg (show ¬ (j < c ∧ j < i) by omega)]
end
section
open Go Go.RowKit
def Nb (G : List Nat) : Nat → List Nat
 | 0=>[]
 | k + 1=>Nb G k ++ (if k ∈ G then [] else [k])
abbrev qat (Q:List Nat) (i:Nat):Nat:=Q.getD i 0
end
section
open Go Go.RowKit
def gq (ps:List (Nat × Nat)) (x:Nat):Nat:=if x % 2 = 0 then pA ps (x / 2) else pB ps (x / 2)
structure Jn (ps:List (Nat × Nat)) (n K:Nat):Prop where
 lt:∀ x,x < 2 * K → gq ps x < n
 inj:∀ x y,x < 2 * K → y < 2 * K → gq ps x = gq ps y → x = y
theorem Jn.le {ps:List (Nat × Nat)} {n K k:Nat} (h:Jn ps n K) (hk:k ≤ K):Jn ps n k:=⟨fun x hx=>h.lt x zo,fun x y hx hy=>h.inj x y zo zo⟩
end
section
open Go Go.RowKit
theorem pig : ∀ {n m : Nat} {f : Nat → Nat}, (∀ x, x < m → f x < n) → (∀ x y, x < m → y < m → f x = f y → x = y) → m ≤ n
 | 0, m, f, h, _ => by
  cases m with
  | zero=>exact Nat.le_refl 0
  | succ m=>exact absurd (h 0 zo) zo
 | n + 1,0,_,_,_=>by omega
 | n + 1, k + 1, f, h, i => by
  have := pig (n := n) (m := k) (f := fun x => if f x = n then f k else f x) (fun x hx => by
   have h1:=h x zo
   have h2:=h k zo
   by_cases c:f x = n
   ·simp only [if_pos c]
    have:f k ≠ n:=fun e=>by have:=i x k zo zo (by rw [c,e]); omega
    omega
   ·simp only [if_neg c]; omega) (fun x y hx hy e=>by
   by_cases c:f x = n <;> by_cases d:f y = n
   ·exact i x y zo zo (by rw [c,d])
   ·simp only [if_pos c, if_neg d] at e
    have:=i k y zo zo e; omega
   ·simp only [if_neg c, if_pos d] at e
    have:=i x k zo zo e; omega
   ·simp only [if_neg c, if_neg d] at e
    exact i x y zo zo e)
  omega
end
section
open Go Go.RowKit
theorem Uw {x y:Qi} {L M:Nat} (hx:aH x L) (hy:aH y M) (h:y ≠ 0):aH (x / y) (L + 3 * M + 2):=⟨hx.fit.div hy.fit h⟩
end
section
open Go Go.RowKit
structure uT (O:List Nat) (n:Nat):Prop where
 nd:O.Nodup
 all:∀ x,x ∈ O ↔ 1 ≤ x ∧ x ≤ n
theorem uT.len {O:List Nat} {n:Nat} (h:uT O n):O.length = n:=by
 refine Nat.le_antisymm ?_ ?_
 ·refine pig (n := n) (f := fun i => O.getD i 0 - 1) (fun x hx => ?_) (fun x y hx hy e => ?_)
  ·have := (h.all (O.getD x 0)).1 (by rw [show O.getD x 0 = O[x] by simp [List.getD, hx]]; exact List.getElem_mem hx)
   show O.getD x 0 - 1 < n; omega
  ·have a := (h.all (O.getD x 0)).1 (by rw [show O.getD x 0 = O[x] by simp [List.getD, hx]]; exact List.getElem_mem hx)
   have b:=(h.all (O.getD y 0)).1 (by rw [show O.getD y 0 = O[y] by simp [List.getD,hy]]; exact List.getElem_mem hy)
   have e2:O.getD x 0 = O.getD y 0:=by have:O.getD x 0 - 1 = O.getD y 0 - 1:=e; omega
   rw [show O.getD x 0 = O[x] by simp [List.getD,hx],show O.getD y 0 = O[y] by simp [List.getD,hy]] at e2
   exact (List.getElem_inj h.nd).1 e2
 ·have key : ∀ j, j < n → ∃ i, i < O.length ∧ O.getD i 0 = j + 1 := fun j hj => by
   obtain ⟨i,hi,e⟩:=List.getElem_of_mem ((h.all (j + 1)).2 ⟨by omega,by omega⟩)
   exact ⟨i,hi,by simp [List.getD,hi,e]⟩
  refine pig (n:=O.length) (f:=fun j=>if hj:j < n then Classical.choose (key j hj) else 0) (fun x hx=>by simp only [dif_pos hx]; exact (Classical.choose_spec (key x hx)).1) (fun x y hx hy e=>?_)
  simp only [dif_pos hx,dif_pos hy] at e
  have a:=(Classical.choose_spec (key x hx)).2
  have b:=(Classical.choose_spec (key y hy)).2
  rw [e] at a; omega
section
variable {O:List Nat} {n:Nat}
theorem uT.at (h:uT O n) {i:Nat} (hi:i < n):1 ≤ O.getD i 0 ∧ O.getD i 0 ≤ n:=by
 have hl:=h.len
 exact (h.all _).1 (by rw [show O.getD i 0 = O[i] by simp [List.getD,show i < O.length by omega]]; exact List.getElem_mem _)
theorem uT.inj (h:uT O n) {i j:Nat} (hi:i < n) (hj:j < n) (e:O.getD i 0 = O.getD j 0):i = j:=by
 have hl:=h.len
 rw [show O.getD i 0 = O[i] by simp [List.getD,show i < O.length by omega],show O.getD j 0 = O[j] by simp [List.getD,show j < O.length by omega]] at e
 exact (List.getElem_inj h.nd).1 e
theorem uT.find (h:uT O n) {j:Nat} (hj:j < n):∃ i,i < n ∧ O.getD i 0 = j + 1:=by
 have hl:=h.len
 obtain ⟨i,hi,e⟩:=List.getElem_of_mem ((h.all (j + 1)).2 ⟨by omega,by omega⟩)
 exact ⟨i,by omega,by simp [List.getD,hi,e]⟩
end
end
section
open Go Go.RowKit
section
variable {S:List (List Qi)} {p q r t a b:Nat}
theorem Xd {x y:Qi} (h:x - y = 0):x = y:=by grind
end
section
variable {S:Nat → Nat → Qi} {p q r t a b:Nat}
def S1 (S:Nat → Nat → Qi) (p q:Nat) (V:Nat → Qi × Qi) (a b:Nat):Qi:=S a b + (S a p * (V b).1 + S a q * (V b).2)
variable {V:Nat → Qi × Qi}
end
end
section
open Go Go.RowKit
def low (c a b:Nat):Nat:=c - (if a < c then 1 else 0) - (if b < c then 1 else 0)
def okP (N p q r t : Nat) : Bool :=
 decide ((Nb [p,q] N).length = N - 2) && decide (low r p q < N - 2) && decide (low t p q < N - 2) && decide (low r p q ≠ low t p q) && decide (qat (Nb [p,q] N) (low r p q) = r) && decide (qat (Nb [p,q] N) (low t p q) = t)
 && decide ((Nb [low r p q,low t p q] (N - 2)).map (qat (Nb [p,q] N)) = Nb [p,q,r,t] N) && decide ((Nb [p,q,r,t] N).length = N - 4) && decide (Nb [t,r,p,q] N = Nb [p,q,r,t] N) && decide (Nb [r,t,p,q] N = Nb [p,q,r,t] N)
section
variable {z:List Qi} {S:List (List Qi)} {N p q r t:Nat} {ζ:Qi}
end
end
section
open Go Go.RowKit
def Gb (x:Qi) (N:Nat):Prop:=∃ p q:Int,x = Qi.mk (p:Rat) (q:Rat) ∧ p.natAbs ≤ N ∧ q.natAbs ≤ N
theorem Gb.le {x:Qi} {N M:Nat} (h:Gb x N) (k:N ≤ M):Gb x M:=by
 obtain ⟨p,q,e,h1,h2⟩:=h; exact ⟨p,q,e,by omega,by omega⟩
theorem Gb.add {x y:Qi} {N M:Nat} (h:Gb x N) (k:Gb y M):Gb (x + y) (N + M):=by
 obtain ⟨p,q,rfl,h1,h2⟩:=h; obtain ⟨r,s,rfl,k1,k2⟩:=k
 refine ⟨p + r,q + s,Qi.ext' ?_ ?_,by omega,by omega⟩
 ·show (p:Rat) + (r:Rat) = ((p + r:Int):Rat); push_cast; rfl
 ·show (q:Rat) + (s:Rat) = ((q + s:Int):Rat); push_cast; rfl
theorem Gb.neg {x:Qi} {N:Nat} (h:Gb x N):Gb (-x) N:=by
 obtain ⟨p,q,rfl,h1,h2⟩:=h
 refine ⟨-p,-q,Qi.ext' ?_ ?_,by omega,by omega⟩
 ·show -(p:Rat) = ((-p:Int):Rat); push_cast; rfl
 ·show -(q:Rat) = ((-q:Int):Rat); push_cast; rfl
theorem Gb.sub {x y:Qi} {N M:Nat} (h:Gb x N) (k:Gb y M):Gb (x - y) (N + M):=by rw [Qi.sub_def]; exact h.add k.neg
theorem wT {p q:Int} {N M:Nat} (h:p.natAbs ≤ N) (k:q.natAbs ≤ M):(p * q).natAbs ≤ N * M:=by rw [Int.natAbs_mul]; exact Nat.mul_le_mul h k
theorem Gb.mul {x y:Qi} {N M:Nat} (h:Gb x N) (k:Gb y M):Gb (x * y) (2 * N * M):=by
 obtain ⟨p,q,rfl,h1,h2⟩:=h; obtain ⟨r,s,rfl,k1,k2⟩:=k
 have a1:=wT h1 k1; have a2:=wT h2 k2; have a3:=wT h1 k2; have a4:=wT h2 k1
 have e:2 * N * M = N * M + N * M:=by rw [Nat.mul_assoc,Nat.two_mul]
 refine ⟨p * r - q * s,p * s + q * r,Qi.ext' ?_ ?_,by omega,by omega⟩
 ·rw [Qi.mul_re]; show (p:Rat) * (r:Rat) - (q:Rat) * (s:Rat) = ((p * r - q * s:Int):Rat); push_cast; rfl
 ·rw [Qi.mul_im]; show (p:Rat) * (s:Rat) + (q:Rat) * (r:Rat) = ((p * s + q * r:Int):Rat); push_cast; rfl
theorem Gb.sum {f : Nat → Qi} {N : Nat} : ∀ {n : Nat}, (∀ k, k < n → Gb (f k) N) → Gb (eO n f) (n * N)
 | 0,_=>⟨0,0,Qi.ext' rfl rfl,by simp,by simp⟩
 | n + 1, h => by
  rw [eO,Nat.succ_mul]
  exact (Gb.sum fun k hk=>h k zo).add (h n zo)
theorem Gb.fit {x:Qi} {N L:Nat} (h:Gb x N) (hN:N < BB ^ L) (hL:1 ≤ L):aH x L:=by
 obtain ⟨p,q,rfl,h1,h2⟩:=h
 have e:Qi.mk (p:Rat) (q:Rat) = Qi.mk' p q 1:=Qi.ext' (by rw [Qi.mk_re]; show (p:Rat) = p / ((1:Nat):Rat); grind) (by rw [Qi.mk_im]; show (q:Rat) = q / ((1:Nat):Rat); grind)
 rw [e]
 exact ⟨Qi.Fit.mk (by decide) zo zo (Qi.one_lt hL)⟩
end
section
open Go Go.RowKit
section
variable {a b:Qi} {A B C:List (List Qi)} {d e:Nat → Qi} {n:Nat}
end
theorem q2:Qi.ofInt 2 = 2:=rfl
section
variable {z:List Qi} {s:List (List Qi)}
end
end
section
open Go Go.RowKit
def uE (r:List Qi) (w:Nat):Prop:=∃ d:Qi,d ≠ 0 ∧ Gb d (BB ^ w) ∧ ∀ j,Gb (d * gv r j) (BB ^ w)
theorem uE.le {r:List Qi} {w v:Nat} (h:uE r w) (k:w ≤ v):uE r v:=by
 obtain ⟨d,d0,dg,dj⟩:=h
 have hp:BB ^ w ≤ BB ^ v:=Nat.pow_le_pow_right dB k
 exact ⟨d,d0,dg.le hp,fun j=>(dj j).le hp⟩
theorem Il (w:Nat):2 * BB ^ w * BB ^ w + 2 * BB ^ w * BB ^ w ≤ BB ^ (2 * w + 1):=by
 have e:BB ^ (2 * w + 1) = BB ^ w * BB ^ w * BB:=by rw [Nat.pow_succ,Nat.two_mul,Nat.pow_add]
 rw [e,Nat.mul_assoc 2,← Nat.two_mul,← Nat.mul_assoc 2 2,Nat.mul_comm (2 * 2)]
 exact Nat.mul_le_mul_left _ (by decide)
theorem a0d {l:List Qi} {j:Nat} (h:l.length ≤ j):gv l j = 0:=by simp [gv,List.getD,List.getElem?_eq_none h]; rfl
theorem Vb (N:Nat):Gb 0 N:=⟨0,0,Qi.ext' rfl rfl,by simp,by simp⟩
theorem uE.red {rr rc:List Qi} {c w:Nat} {P:Nat → Prop} [DecidablePred P] (h1:uE rr w) (h2:uE rc w) (hp:gv rc c ≠ 0):uE (tab rr.length fun j=>if P j then gv rr j - gv rr c / gv rc c * gv rc j else gv rr j) (2 * w + 1):=by
 obtain ⟨d,d0,dg,dj⟩:=h1
 obtain ⟨e,e0,eg,ej⟩:=h2
 have t:=Il w
 refine ⟨d * (e * gv rc c),fun k=>?_,(dg.mul (ej c)).le zo,fun j=>?_⟩
 ·rcases vG k with k | k
  ·exact d0 k
  ·rcases vG k with k | k
   ·exact e0 k
   ·exact hp k
 ·by_cases hj : j < rr.length
  ·rw [Ce hj]
   by_cases hP:P j
   ·rw [if_pos hP]
    have hd:=Bx (x:=gv rr c) hp
    have ee : d * (e * gv rc c) * (gv rr j - gv rr c / gv rc c * gv rc j) = d * gv rr j * (e * gv rc c) - d * gv rr c * (e * gv rc j) := by
     have e2:d * (e * gv rc c) * (gv rr c / gv rc c * gv rc j) = d * (gv rr c / gv rc c * gv rc c) * (e * gv rc j):=by grind
     rw [hd] at e2
     grind
    rw [ee]
    exact (((dj j).mul (ej c)).sub ((dj c).mul (ej j))).le t
   ·rw [if_neg hP]
    have ee:d * (e * gv rc c) * gv rr j = d * gv rr j * (e * gv rc c):=by grind
    rw [ee]
    exact ((dj j).mul (ej c)).le zo
  ·rw [a0d (l := tab rr.length fun j => if P j then gv rr j - gv rr c / gv rc c * gv rc j else gv rr j) (by rw [bT]; omega)]
   have ee:d * (e * gv rc c) * 0 = 0:=by grind
   rw [ee]; exact Vb _
theorem uE.fit {r : List Qi} {w : Nat} (h : uE r w) : fM r (4 * (w + 1) + 2) := fun x hx => by
 obtain ⟨d,d0,dg,dj⟩:=h
 obtain ⟨j,hj,e⟩:=List.getElem_of_mem hx
 have e2:gv r j = x:=by simp [gv,List.getD,hj,e]
 have hlt:BB ^ w < BB ^ (w + 1):=Nat.pow_lt_pow_right (by decide) zo
 have f1:aH (d * gv r j) (w + 1):=(dj j).fit hlt zo
 have f2:aH d (w + 1):=dg.fit hlt zo
 have f3:aH (d * gv r j / d) (w + 1 + 3 * (w + 1) + 2):=Uw f1 f2 d0
 rw [a0a (z:=x) d0 (by rw [e2]; grind)] at f3
 exact f3.le zo
abbrev pH (M:List (List Qi)) (w:Nat):Prop:=∀ r,r ∈ M → uE r w
theorem pH.row {M : List (List Qi)} {w i : Nat} (h : pH M w) (hi : i < M.length) : uE (jM M i) w := h _ (by
 rw [show jM M i = M[i] by simp [jM,List.getD,hi]]; exact List.getElem_mem hi)
theorem pH.swp {M : List (List Qi)} {w p c : Nat} (h : pH M w) (hp : p < M.length) (hc : c < M.length) : pH (swp [] M p c) w := fun x hx => by
 unfold Go.Proofs.YthcmlodgnfekeaaGreat.swp at hx
 rcases List.mem_or_eq_of_mem_set hx with h1 | h1
 ·rcases List.mem_or_eq_of_mem_set h1 with h2 | h2
  ·exact h x h2
  ·rw [h2]; exact h.row hc
 ·rw [h1]; exact h.row hp
theorem pH.redM {M : List (List Qi)} {w c r : Nat} (h : pH M w) (hc : c < M.length) (hp : gm M c c ≠ Qi.zero) : pH (redM M c r) (2 * w + 1) := fun x hx => by
 obtain ⟨i,hi,rfl⟩:=jF.1 hx
 show uE (if c < i ∧ i < r then Fu (jM M i) (jM M c) c (jM M i).length else jM M i) _
 split
 ·exact (h.row hi).red (h.row hc) hp
 ·exact (h.row hi).le zo
theorem pH.redJ {M : List (List Qi)} {w c r : Nat} (h : pH M w) (hc : c < M.length) (hp : gm M c c ≠ Qi.zero) : pH (redJ M c r) (2 * w + 1) := fun x hx => by
 obtain ⟨i,hi,rfl⟩:=jF.1 hx
 show uE (if i ≠ c ∧ i < r then vI (jM M i) (jM M c) c (jM M i).length else jM M i) _
 split
 ·exact (h.row hi).red (h.row hc) hp
 ·exact (h.row hi).le zo
structure SzS (M:List (List Qi)) (b:List Qi) (n G X:Nat):Prop where
 st:∀ c,c ≤ n → cD (jA (uZ M [b] n) c).1 G
 bk:a1l M b n = 0 → ∀ j,j ≤ n → fM (bkS (Mr M b n).1 n j) X
 g1:1 ≤ G
 x1:1 ≤ X
 g:6 * G + 4 ≤ 17592186044415
 x:n * (X + G + 2) + 4 * G + 2 ≤ 17592186044415
theorem SzS.old {M:List (List Qi)} {b:List Qi} {n L:Nat} (hM:iR M n n) (hf:cD M L) (hfb:fM b L) (hL:1 ≤ L) (hg:6 * pW L n + 4 ≤ 17592186044415) (hx:Lg (pW L n) (n + 1) ≤ 17592186044415):SzS M b n (pW L n) (Lg (pW L n) n):=by
 have hcs:iR (uZ M [b] n) n (n + 1):=uL hM
 have hcf:cD (uZ M [b] n) L:=uK hf (fun r hr=>by simp at hr; subst hr; exact hfb) hL
 have hG1:1 ≤ pW L n:=Nat.le_trans hL (wL L n)
 refine ⟨fun c hc=>(xU hcs hcf hL hc).le (qV L hc),fun hE j hj=>?_,hG1,Nat.le_trans hG1 (Im _ _),hg,hx⟩
 have hst:¬ 0 ≤ (Mr M b n).2.2:=fun h=>by rw [a1l,if_pos h] at hE; omega
 have hf2:=Nv (Sh hM hf hfb hL) hG1 (Ak hcs (Nat.le_refl n) (Xb hst)) j hj
 exact fun y hy=>(hf2 y hy).le (Gf _ hj)
structure SzJ (M:List (List Qi)) (b:List Qi) (n G:Nat):Prop where
 st:∀ c A,c ≤ n → Md (uZ M [b] n) c = some A → cD A G
 g1:1 ≤ G
 g:6 * G + 4 ≤ 17592186044415
theorem SzJ.old {M : List (List Qi)} {b : List Qi} {n L : Nat} (hM : iR M n n) (hf : cD M L) (hfb : fM b L) (hL : 1 ≤ L) (hg : 6 * pW L n + 4 ≤ 17592186044415) : SzJ M b n (pW L n) :=
 ⟨fun _ _ hc hA=>(Pw (show iR (uZ M [b] n) n (n + 1) from uL hM) (Nat.le_succ n) (uK hf (fun r hr=>by simp at hr; subst hr; exact hfb) hL) hL hc hA).le (qV L hc),Nat.le_trans hL (wL L n),hg⟩
end
section
open Go Go.RowKit
theorem Nx {l:List Qi} {L:Nat} (hf:fM l L) (hL1:1 ≤ L) (hL:L ≤ 8796093022208) (hl:l.length ≤ 1000):bA Tryz.prog 28 [fF l,QsT l] (aB true):=by
 refine bA.intro Tryz.func28 rfl Tryz.ntmps28 rfl (fun cx=>(ts (ro rfl (cQ cV) (eX (cK (ts (rm rfl (ro rfl (dG U_54 (Ht rfl) aA) (rm rfl (ro rfl (dG U_57 (Ht rfl) aA) (ro rfl (jT (Ht rfl) (Ht rfl)) (eX (lN (Ht rfl) (by simp) ?_)))))))))))))
 refine cU (cK (ts (rm rfl (ro rfl (dG U_54 (Ht rfl) aA) (ro rfl (cX (cJ 0)) (eX (eG ?_)))))))
 refine fD (fun (k : Nat) => k ≤ l.length) (fun (k : Nat) => l.length - k) (fun (k : Nat) => [(0, fF l), (1, QsT l), (12, fF l), (13, NT .i64 l.length), (14, NT .i64 k)]) (fun (k : Nat) => []) 0 (Nat.zero_le _)
  (zS rfl) aY (fun k hk=>?_)
 refine ts (ro rfl (gX (Ht rfl) (Ht rfl)) (eX (cK (dQ (Ht rfl) (fun hd=>?_) (fun hd=>?_)))))
 ·simp only [decide_eq_true_eq] at hd
  haveI f1:aH (gv l k) L:=hf.get hL1 k
  refine cU (cK (eG (ts (rm rfl (ro rfl (dZ U_54 Z_32 (Ht rfl) (Ht rfl) rfl (dY (dU (d:=Qi.zero) hd))) (ro rfl (dJ A_32 Z_32 (Ht rfl)) (rn rfl (eW (Ts:=[Is (.bool false),Is (.slice none 0 0),Is (.bool false),Is (.slice none 0 0),Is (.slice none 0 0)]) O_32 rfl (fun V=>aW zd (aW zd (aW zd (aW zd (aW zd (aG))))))) fun B6=>(ra rfl (gQ Z_32 (Ht rfl) (Ht rfl) rfl (i:=0) rfl (aK rfl) rfl rfl ?_)))))))))
  refine eX (cK (fZ (m:=5) (dp 6 rfl (eJ A_32 Z_32 (Ht rfl) (i:=0) rfl rfl rfl) (dp 1 rfl (cX (Ht rfl)) (dp 5 rfl (cX (Ht rfl)) (cL 20 1 21 2 rfl (dZ U_57 Z_40 (Ht rfl) (Ht rfl) rfl (dY (dU (d:=Qi.zero) hd))) (dq 22 3 rfl (dJ A_40 Z_40 (Ht rfl)) (fV aR rfl (by kernel_rfl) (zF (aJ (aV (ro rfl (cZ Tryz.call17 (Jg (x:=gv l k) (y:=gv l k) (L:=L) (M:=L) hL hL) ⟨(Ht rfl),(Ht rfl),trivial⟩) (ro rfl (eM (Ht rfl)) ?_)))))))))))))
  refine eX (lN (Ht rfl) (by simp) ?_)
  refine cU (bF (cY (ro rfl (dV (Ht rfl) (cJ 1) z6) (rm rfl (eX (gE [] rfl (by decide) (fU (k + 1) hd zo (zS rfl) aY)))))))
 ·refine gV rfl (ts (ro rfl (cQ cV) (eX ?_)))
  exact fW rfl (eU rfl)
end
end Go.Proofs.YthcmlodgnfekeaaGreat
