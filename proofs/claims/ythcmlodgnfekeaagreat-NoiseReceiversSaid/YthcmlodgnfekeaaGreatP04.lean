/- What functions of the program compute, proved by walks over their code, and the plain mathematics of it; a part of the proof in the last text. -/
import Derived.Test.YthcmlodgnfekeaaGreatP03
set_option linter.unusedVariables false
set_option linter.unusedSimpArgs false
set_option maxRecDepth 100000
set_option maxHeartbeats 4000000
namespace Go.Proofs.YthcmlodgnfekeaaGreat
section
open Go Go.RowKit
theorem Jl {a b:List (List Qi)} {n k m L M:Nat} (ha:kZ a n k) (hb:kZ b k m) (hfa:eC a L) (hfb:eC b M) (hL1:1 ≤ L) (hM1:1 ≤ M) (hL:L ≤ 900000000000) (hM:M ≤ 900000000000) (hn1:1 ≤ n ∨ k = 0) (hk1:1 ≤ k ∨ m = 0) (hn:n ≤ 8) (hk:k ≤ 8) (hm:m ≤ 8):jI Tryz.prog 165 [fN a,fN b] [] (Nat) (fun B=>eD [Is (.slice (some ⟨B,0,none⟩) n n),aN .i64 0]) (fun B=>[vY B 54 32 5 (eI aS (tX a b n k m))]) (fun _=>True):=by
 have hal:=ha.1
 have hbl:=hb.1
 refine jI.intro Tryz.func165 rfl Tryz.ntmps165 rfl (fun cx Z=>(ts (ro rfl (cQ cV) (ro rfl (cQ (cJ 0)) (eX (ts (rm rfl (ro rfl (cZ Tryz.call231 (vH ha hn1 zo zo) ⟨(Ht rfl),trivial⟩) (rm rfl (ro rfl (dK (Ht rfl) rfl) (ro rfl (dK (Ht rfl) rfl) (ra rfl (ra rfl (eX (ts (rm rfl (ro rfl (cZ Tryz.call231 (vH hb hk1 zo zo) ⟨(Ht rfl),trivial⟩) (rm rfl (ro rfl (dK (Ht rfl) rfl) (ro rfl (dK (Ht rfl) rfl) (ra rfl (ra rfl (eX (cK (ts (rm rfl (ro rfl (cB (Ht rfl)) ?_)))))))))))))))))))))))))))
 refine rm rfl (fQ rfl rfl (eK rfl rfl (Ht rfl) (fun h=>cX (Ht rfl))) (fQ rfl rfl (eK rfl rfl (Ht rfl) (fun h=>cB (fJ rfl h))) (ro rfl (dT (Ht rfl) (fun h=>(fJ rfl h))) (rm rfl (fQ rfl rfl (eK rfl rfl (Ht rfl) (fun h=>cX (Ht rfl))) (fQ rfl rfl (eK rfl rfl (Ht rfl) (fun h=>cX (Ht rfl))) (fQ rfl rfl (eK rfl rfl (Ht rfl) (fun h=>dG U_78 (fJ rfl h) aA)) (fQ rfl rfl (eK rfl rfl (Ht rfl) (fun h=>kE (fJ rfl h) (fJ rfl h))) (ro rfl (dT (Ht rfl) (fun h=>(fJ rfl h))) ?_)))))))))
 refine eX (dQ (Ht rfl) (fun h0=>?_) (fun h0=>?_))
 ·exact absurd h0 (by simp [hbl])
 ·refine cU (ts (rm rfl (ro rfl (dG U_78 (Ht rfl) aA) (rn rfl (dE (T := Is (.slice none 0 0)) (i := Tryz.t54) V_78 pQ rfl rfl (Ht rfl) rfl (fun _ => rfl) trivial (by show 24 * _ ≤ _; omega) zo) fun B39 => (ra rfl (eX (cK (ts (rm rfl (ro rfl (jF U_78 (Ht rfl)) (ro rfl (cX (cJ 0)) (eX (eG (vC 1 rfl (uM (e := 32) (s := 5)) ?_))))))))))))))
  refine gN (fun (i : Nat) => i ≤ n) (fun (i : Nat) => n - i) (fun (i : Nat) => [(0, fN a), (1, fN b), (6, NT .i64 k), (8, NT .i64 m), (10, Is (.slice (some ⟨B39, 0, none⟩) n n)), (41, NT .i64 n), (42, NT .i64 i)]) (fun (i : Nat) => [Z, vY B39 54 32 5 (eI aS (mZ (fun i => tab m fun c => tW a b k i c) [] n i))]) 0 (Nat.zero_le _)
   (aQ rfl (aQ rfl (aQ rfl (aQ rfl (aZ rfl (fun v V h=>by rw [← hal]; exact h) (aZ rfl (jO hal) (zS rfl))))))) (aU (fun _ _ _ h=>h) (aU (dN (by rw [← oU,nG,hal]; exact oW aS n)) aY)) (fun i hi=>?_)
  refine ts (ro rfl (gX (Ht rfl) (Ht rfl)) (eX (cK (dQ (Ht rfl) (fun hd=>?_) (fun hd=>?_)))))
  ·simp only [decide_eq_true_eq] at hd
   have har:=ha.row hd
   refine tZ 1 (i) rfl (oQ hd) (fun v=>(cU (cK (eG (ts (rm rfl (ra rfl (eX (ts (rm rfl (ro rfl (cX (cJ 0)) (eX (eG ?_)))))))))))))
   refine eL (fun (c : Nat) (v : Value) => c ≤ m) (fun (c : Nat) (v : Value) => m - c) (fun (c : Nat) (v : Value) => [(0, fN a), (1, fN b), (6, NT .i64 k), (8, NT .i64 m), (10, Is (.slice (some ⟨B39, 0, none⟩) n n)), (11, NT .i64 i), (41, NT .i64 n), (42, NT .i64 i), (45, NT .i64 m), (46, NT .i64 c)]) (fun (c : Nat) (v : Value) => [Z, Ld B39 54 32 5 (eI aS (mZ (fun i => tab m fun c => tW a b k i c) [] n i)) i v, bN 32 5 v ((tab c fun c => tW a b k i c).map aS)]) 0 v (Nat.zero_le _)
    (zS rfl) (cP.refl _) (fun c v hc=>?_)
   refine ts (ro rfl (gX (Ht rfl) (Ht rfl)) (eX (cK (dQ (Ht rfl) (fun he=>?_) (fun he=>?_)))))
   ·simp only [decide_eq_true_eq] at he
    have hk1:1 ≤ k:=by omega
    have hb0:=hb.row (i:=0) zo
    haveI f1:aH (gm a i 0) L:=hfa.get hL1 i 0
    haveI f2:aH (gm b 0 c) M:=hfb.get hM1 0 c
    refine cU (cK (eG (ts (rm rfl (ra rfl (eX (cK (fZ (m:=15) (dp 0 rfl (cX (Ht rfl)) (dp 11 rfl (cX (Ht rfl)) (dC 49 0 50 1 rfl (dZ U_78 Z_54 (Ht rfl) (Ht rfl) rfl (dY (dU (d:=[]) zo))) (dq 51 2 rfl (dJ A_54 Z_54 (Ht rfl)) (dq 52 3 rfl (dZ U_54 Z_32 (Ht rfl) (cJ 0) rfl (dY (dU (d:=Qi.zero) (by rw [har]; omega)))) ?_)))))))))))))
    refine dq 53 4 rfl (dJ A_32 Z_32 (Ht rfl)) (dq 54 5 rfl (dR fE (Ht rfl)) (dp 1 rfl (cX (Ht rfl)) (dq 56 7 rfl (dZ U_78 Z_54 (Ht rfl) (cJ 0) rfl (dY (dU (d:=[]) zo))) (dq 57 8 rfl (dJ A_54 Z_54 (Ht rfl)) (dp 12 rfl (cX (Ht rfl)) (dC 58 9 59 10 rfl (dZ U_54 Z_32 (Ht rfl) (Ht rfl) rfl (dY (dU (d:=Qi.zero) (by rw [hb0]; omega)))) ?_))))))
    refine dq 60 11 rfl (dJ A_32 Z_32 (Ht rfl)) (dC 55 6 61 12 rfl (dA gK K_29 (nX zo) (Ht rfl) ⟨(Ht rfl),trivial⟩) (C.D_new (Ei:=[]) rfl rfl rfl bW (eW (Ts:=[Is (.bool false),Is (.slice none 0 0),Is (.bool false),Is (.slice none 0 0),Is (.slice none 0 0)]) O_32 rfl (fun V=>aW zd (aW zd (aW zd (aW zd (aW zd (aG))))))) (fV bB rfl (by kernel_rfl) (zF (zF (zF (aJ (aJ (C.F_new (fun B13=>aV ?_))))))))))
    refine gQ Z_32 (Ht rfl) (Ht rfl) rfl (i:=3) rfl (aK rfl) rfl rfl (eX (cK (ts (ro rfl (cQ (cJ 1)) (eX (eG ?_))))))
    refine gN (fun (j : Nat) => 1 ≤ j ∧ j ≤ k) (fun (j : Nat) => k - j) (fun (j : Nat) => [(0, fN a), (1, fN b), (6, NT .i64 k), (8, NT .i64 m), (10, Is (.slice (some ⟨B39, 0, none⟩) n n)), (11, NT .i64 i), (12, NT .i64 c), (13, eS B13 0), (14, NT .i64 j), (41, NT .i64 n), (42, NT .i64 i), (45, NT .i64 m), (46, NT .i64 c)]) (fun (j : Nat) => [Z, Ld B39 54 32 5 (eI aS (mZ (fun i => tab m fun c => tW a b k i c) [] n i)) i v, bN 32 5 v ((tab c fun c => tW a b k i c).map aS), box B13 32 [aB (decide ((iV j fun j => gm a i j * gm b j c).a < 0)), aD (iV j fun j => gm a i j * gm b j c).a.natAbs, aB (decide ((iV j fun j => gm a i j * gm b j c).b < 0)), aD (iV j fun j => gm a i j * gm b j c).b.natAbs, aD (du (iV j fun j => gm a i j * gm b j c))]]) 1 ⟨Nat.le_refl _, hk1⟩
     (zS rfl) (aU (fun _ _ _ h=>h) (aU (fun _ _ _ h=>h) (aU (fun _ _ _ h=>h) (aU (aR (by rw [Ms]; rfl)) aY)))) (fun j ⟨hj1,hj⟩=>?_)
    refine cK (ts (rm rfl (rm rfl (ro rfl (gX (Ht rfl) (Ht rfl)) (eX (dQ (Ht rfl) (fun hf=>?_) (fun hf=>?_)))))))
    ·simp only [decide_eq_true_eq] at hf
     haveI f3:aH (gm a i j) L:=hfa.get hL1 i j
     haveI f4:aH (gm b j c) M:=hfb.get hM1 j c
     haveI f5:aH (iV j fun j=>gm a i j * gm b j c) (8 * (L + M) + 17):=Fn hfa hfb hL1 hM1 zo i c
     have hbj:=hb.row (i:=j) zo
     refine cU (cK (eG (fZ (m:=18) (dp 13 rfl (eJ A_32 Z_32 (Ht rfl) (i:=3) rfl rfl rfl) (dq 68 0 rfl (dR fE (Ht rfl)) (dp 0 rfl (cX (Ht rfl)) (dp 11 rfl (cX (Ht rfl)) (dC 70 2 71 3 rfl (dZ U_78 Z_54 (Ht rfl) (Ht rfl) rfl (dY (dU (d:=[]) zo))) (dq 72 4 rfl (dJ A_54 Z_54 (Ht rfl)) (dp 14 rfl (cX (Ht rfl)) (dC 73 5 74 6 rfl (dZ U_54 Z_32 (Ht rfl) (Ht rfl) rfl (dY (dU (d:=Qi.zero) (by rw [har]; omega)))) ?_)))))))))))
     refine dq 75 7 rfl (dJ A_32 Z_32 (Ht rfl)) (dq 76 8 rfl (dR fE (Ht rfl)) (dp 1 rfl (cX (Ht rfl)) (dp 14 rfl (cX (Ht rfl)) (dC 78 10 79 11 rfl (dZ U_78 Z_54 (Ht rfl) (Ht rfl) rfl (dY (dU (d:=[]) zo))) (dq 80 12 rfl (dJ A_54 Z_54 (Ht rfl)) (dp 12 rfl (cX (Ht rfl)) (dC 81 13 82 14 rfl (dZ U_54 Z_32 (Ht rfl) (Ht rfl) rfl (dY (dU (d:=Qi.zero) (by rw [hbj]; omega)))) ?_)))))))
     refine dq 83 15 rfl (dJ A_32 Z_32 (Ht rfl)) (dC 77 9 84 16 rfl (dA gK K_29 (nX zo) (Ht rfl) ⟨(Ht rfl),trivial⟩) (fV bB rfl (by kernel_rfl) (zF (zF (zF (zF (aJ (aJ (aV (ro rfl (dA tL Tryz.call33 (Ex zo) (Ht rfl) ⟨(Ht rfl),trivial⟩) (gQ Z_32 (Ht rfl) (Ht rfl) rfl (i:=3) rfl (aK rfl) rfl rfl (eX (bP ?_)))))))))))))
     refine cY (rm rfl (ro rfl (dV (Ht rfl) (cJ 1) z6) (ra rfl (eX (fU (j + 1) ⟨by omega,hf⟩ zo (zS rfl) (aU (fun _ _ _ h=>h) (aU (fun _ _ _ h=>h) (aU (fun _ _ _ h=>h) (aU (aR rfl) aY)))))))))
    ·simp only [decide_eq_false_iff_not] at hf
     obtain rfl:k = j:=Nat.le_antisymm zo hj
     refine gW rfl (Y.D_startA (m:=9) [] 8 2 rfl rfl (bY (Ei:=[(10,_)]) rfl rfl (bQ (bJ rfl rfl) bX) rfl rfl (dX rfl (cX (Ht rfl))) (bY (Ei:=[(11,_)]) rfl rfl (bQ (bJ rfl rfl) bX) rfl rfl (dX rfl (cX (Ht rfl))) (bY (Ei:=[(10,_)]) rfl rfl (bQ (bJ rfl rfl) bX) rfl rfl (dX rfl (cX (Ht rfl))) (bY (Ei:=[(11,_)]) rfl rfl (bQ (bJ rfl rfl) bX) rfl rfl (dX rfl (cX (Ht rfl))) (bY (Ei:=[(89,_),(90,_)]) rfl rfl (bQ (bZ 2 rfl rfl) (bQ (bZ 3 rfl rfl) bX)) rfl rfl (dX rfl (fY U_78 Z_54 (Ht rfl) (Ht rfl) rfl zo (by rw [Nat.mul_one,Nat.zero_add]))) ?_))))))
     refine bY (Ei:=[(91,_)]) rfl rfl (bQ (bZ 4 rfl rfl) bX) rfl rfl (dX rfl (nR A_54 Z_54 (Ht rfl) (j:=1) rfl)) (bY (Ei:=[(13,_)]) rfl rfl (bQ (bJ rfl rfl) bX) rfl rfl (dX rfl (eJ A_32 Z_32 (Ht rfl) (i:=3) rfl rfl rfl)) (bY (Ei:=[(93,_)]) rfl rfl (bQ (bZ 6 rfl rfl) bX) rfl rfl (dX rfl (cD (xs:=[.tmp 93]) U_54 Z_32 O_32 (cW (Ht rfl) cG) rfl rfl rfl)) (Y.D_app (Ei:=[(92,_),(94,_)]) rfl rfl rfl rfl (bQ (bZ 5 rfl rfl) (bQ (bZ 7 rfl rfl) bX)) rfl (uS (inf:=Tryz.t32) pB mN rfl rfl rfl (Ht rfl) (Ht rfl) (by simp) (fun T hT=>by simp at hT; subst hT; exact El.ag rfl) (by show _ * 88 ≤ _; simp only [List.length_map,dD,List.length_cons,List.length_nil]; omega) (by simp only [List.length_map,dD,List.length_cons,List.length_nil]; omega)) ?_)))
     refine Y.D_done bB rfl (by kernel_rfl) rfl (by simp [Y.okP]) rfl rfl (bU (bU (bU (bU (bU (bU (bU (bU (Y.F_app (fun v2=>Y.F_nil ?_))))))))))
     refine ro rfl (fY U_78 Z_54 (Ht rfl) (Ht rfl) rfl zo (by rw [Nat.mul_one,Nat.zero_add])) ?_
     refine zO Z_54 (Ht rfl) (Ht rfl) (by simp only [eI,List.length_map,jR]; omega) (j:=1) (l:=4) rfl rfl rfl ?_
     refine eX (bP (cY (ro rfl (dV (Ht rfl) (cJ 1) z6) (rm rfl (eX (fO [0,1,4] rfl (by decide) (fU (c + 1,v2) he (by dsimp only; omega) (zS rfl) (aU (fun _ _ _ h=>h) (aU (fun _ _ _ h=>h) (aU (eA ((zU aS _ (tW a b k i c)).trans (congrArg _ (wH c (fun c=>tW a b k i c)).symm))) aY))))))))))
   ·simp only [decide_eq_false_iff_not] at he
    obtain rfl:m = c:=Nat.le_antisymm zo hc
    refine gW rfl (bP (jV 1 2 rfl rfl (by decide) (by simp only [eI,List.length_map,jR]; omega) ?_))
    refine cY (ro rfl (dV (Ht rfl) (cJ 1) z6) (rm rfl (eX (fO [0,1] rfl (by decide) (fU (i + 1) hd zo (zS rfl) (aU (fun _ _ _ h=>h) (aU (dN (by rw [kY,← rU (f:=(fun i=>tab m fun c=>tW a b k i c))])) aY)))))))
  ·simp only [decide_eq_false_iff_not] at hd
   obtain rfl:n = i:=Nat.le_antisymm zo hi
   refine gW rfl (ts (rm rfl (ra rfl (ro rfl (cQ (cJ 0)) (eX ?_)))))
   exact lR B39 trivial [0,1] ⟨⟨_,rfl,fun _ _ _ h=>h⟩,⟨_,rfl,(dN (by rw [rT]; rfl))⟩,trivial⟩ (by decide) (Wx rfl (eU rfl) (eU rfl))
theorem Ey {a b:List (List Qi)} {n k m L M:Nat} (ha:kZ a n k) (hb:kZ b k m) (hfa:eC a L) (hfb:eC b M) (hL1:1 ≤ L) (hM1:1 ≤ M) (hL:L ≤ 900000000000) (hM:M ≤ 900000000000) (hn1:1 ≤ n) (hk1:1 ≤ k) (hn:n ≤ 8) (hk:k ≤ 8) (hm:m ≤ 8):jI Tryz.prog 165 [fN a,fN b] [] Nat (fun B=>eD [Is (.slice (some ⟨B,0,none⟩) n n),aN .i64 0]) (fun B=>[vY B 54 32 5 (eI aS (tX a b n k m))]) (fun _=>True):=Jl ha hb hfa hfb hL1 hM1 hL hM (.inl hn1) (.inl hk1) hn hk hm
theorem Tf {a b:List (List Qi)} {n k m L M:Nat} (ha:kZ a n k) (hb:kZ b k m) (hfa:eC a L) (hfb:eC b M) (hL1:1 ≤ L) (hM1:1 ≤ M) (hL:L ≤ 900000000000) (hM:M ≤ 900000000000) (hn1:1 ≤ n) (hk1:1 ≤ k) (hn:n ≤ 8) (hk:k ≤ 8) (hm:m ≤ 8):bA Tryz.prog 165 [fN a,fN b] (eD [fN (tX a b n k m),aN .i64 0]):=(Ey ha hb hfa hfb hL1 hM1 hL hM hn1 hk1 hn hk hm).fun fun B _ v S V h1 h2=>Xc h1 fun u hu=>lU (s:=5) (M:=tX a b n k m) (dD _ _).symm u S V hu h2
theorem Td {a:List (List Qi)} {n m:Nat} (ha:kZ a n m) (hn1:1 ≤ n) (hn:n ≤ 8) (hm:m ≤ 8):jI Tryz.prog 213 [fN a] [] (Nat) (fun B=>eD [Is (.slice (some ⟨B,0,none⟩) m m),aN .i64 0]) (fun B=>[vY B 54 32 5 (eI aS (yA a n m))]) (fun _=>True):=by
 have hal:=ha.1
 refine jI.intro Tryz.func213 rfl Tryz.ntmps213 rfl (fun cx Z=>(ts (ro rfl (cQ cV) (ro rfl (cQ (cJ 0)) (eX (ts (rm rfl (ro rfl (cZ Tryz.call231 (wY ha hn1 zo zo) ⟨(Ht rfl),trivial⟩) (rm rfl (ro rfl (dK (Ht rfl) rfl) (ro rfl (dK (Ht rfl) rfl) (ra rfl (ra rfl (eX (cK (ts (rm rfl (ro rfl (cB (Ht rfl)) (eX (dQ (Ht rfl) (fun h0=>?_) (fun h0=>?_)))))))))))))))))))))
 ·exact absurd h0 (by simp)
 ·refine cU (ts (rm rfl (rn rfl (dE (T := Is (.slice none 0 0)) (i := Tryz.t54) V_78 pQ rfl rfl (Ht rfl) rfl (fun _ => rfl) trivial (by show 24 * _ ≤ _; omega) zo) fun B17 => (ra rfl (eX (cK (ts (rm rfl (ro rfl (jF U_78 (Ht rfl)) (ro rfl (cX (cJ 0)) (eX (eG (vC 1 rfl (uM (e := 32) (s := 5)) ?_)))))))))))))
  refine gN (fun (k : Nat) => k ≤ m) (fun (k : Nat) => m - k) (fun (k : Nat) => [(0, fN a), (6, Is (.slice (some ⟨B17, 0, none⟩) m m)), (19, NT .i64 m), (20, NT .i64 k)]) (fun (k : Nat) => [Z, vY B17 54 32 5 (eI aS (mZ (fun k => tab n fun i => (gm a i k).conj) [] m k))]) 0 (Nat.zero_le _)
   (zS rfl) (aU (fun _ _ _ h=>h) (aU (dN (by rw [← oU,nG]; exact oW aS m)) aY)) (fun k hk=>?_)
  refine ts (ro rfl (gX (Ht rfl) (Ht rfl)) (eX (cK (dQ (Ht rfl) (fun hd=>?_) (fun hd=>?_)))))
  ·simp only [decide_eq_true_eq] at hd
   refine tZ 1 (k) rfl (oQ hd) (fun v=>(cU (cK (eG (ts (rm rfl (ra rfl (eX (ts (rm rfl (ro rfl (dG U_78 (Ht rfl) aA) (ro rfl (cX (cJ 0)) (eX (eG ?_))))))))))))))
   refine eL (fun (i : Nat) (v : Value) => i ≤ n) (fun (i : Nat) (v : Value) => n - i) (fun (i : Nat) (v : Value) => [(0, fN a), (6, Is (.slice (some ⟨B17, 0, none⟩) m m)), (7, NT .i64 k), (19, NT .i64 m), (20, NT .i64 k), (24, NT .i64 n), (25, NT .i64 i)]) (fun (i : Nat) (v : Value) => [Z, Ld B17 54 32 5 (eI aS (mZ (fun k => tab n fun i => (gm a i k).conj) [] m k)) k v, bN 32 5 v ((tab i fun i => (gm a i k).conj).map aS)]) 0 v (Nat.zero_le _)
    (aQ rfl (aQ rfl (aQ rfl (aQ rfl (aQ rfl (aZ rfl (jO hal) (zS rfl))))))) (cP.refl _) (fun i v hi=>?_)
   refine ts (ro rfl (gX (Ht rfl) (Ht rfl)) (eX (cK (dQ (Ht rfl) (fun he=>?_) (fun he=>?_)))))
   ·simp only [decide_eq_true_eq] at he
    have har:=ha.row he
    refine cU (cK (eG (ts (rm rfl (ra rfl (eX (Y.D_startA (m:=17) [] 16 2 rfl rfl (bY (Ei:=[(6,_)]) rfl rfl (bQ (bJ rfl rfl) bX) rfl rfl (dX rfl (cX (Ht rfl))) (bY (Ei:=[(7,_)]) rfl rfl (bQ (bJ rfl rfl) bX) rfl rfl (dX rfl (cX (Ht rfl))) (bY (Ei:=[(6,_)]) rfl rfl (bQ (bJ rfl rfl) bX) rfl rfl (dX rfl (cX (Ht rfl))) (bY (Ei:=[(7,_)]) rfl rfl (bQ (bJ rfl rfl) bX) rfl rfl (dX rfl (cX (Ht rfl))) (bY (Ei:=[(30,_),(31,_)]) rfl rfl (bQ (bZ 2 rfl rfl) (bQ (bZ 3 rfl rfl) bX)) rfl rfl (dX rfl (fY U_78 Z_54 (Ht rfl) (Ht rfl) rfl zo (by rw [Nat.mul_one,Nat.zero_add]))) ?_))))))))))))
    refine bY (Ei:=[(32,_)]) rfl rfl (bQ (bZ 4 rfl rfl) bX) rfl rfl (dX rfl (nR A_54 Z_54 (Ht rfl) (j:=1) rfl)) (bY (Ei:=[(0,_)]) rfl rfl (bQ (bJ rfl rfl) bX) rfl rfl (dX rfl (cX (Ht rfl))) (bY (Ei:=[(8,_)]) rfl rfl (bQ (bJ rfl rfl) bX) rfl rfl (dX rfl (cX (Ht rfl))) (bY (Ei:=[(34,_),(35,_)]) rfl rfl (bQ (bZ 6 rfl rfl) (bQ (bZ 7 rfl rfl) bX)) rfl rfl (dX rfl (dZ U_78 Z_54 (Ht rfl) (Ht rfl) rfl (dY (dU (d:=[]) zo)))) ?_)))
    refine bY (Ei:=[(36,_)]) rfl rfl (bQ (bZ 8 rfl rfl) bX) rfl rfl (dX rfl (dJ A_54 Z_54 (Ht rfl))) (bY (Ei:=[(7,_)]) rfl rfl (bQ (bJ rfl rfl) bX) rfl rfl (dX rfl (cX (Ht rfl))) (bY (Ei:=[(37,_),(38,_)]) rfl rfl (bQ (bZ 9 rfl rfl) (bQ (bZ 10 rfl rfl) bX)) rfl rfl (dX rfl (dZ U_54 Z_32 (Ht rfl) (Ht rfl) rfl (dY (dU (d:=Qi.zero) (by rw [har]; omega))))) ?_))
    refine bY (Ei:=[(39,_)]) rfl rfl (bQ (bZ 11 rfl rfl) bX) rfl rfl (dX rfl (dJ A_32 Z_32 (Ht rfl))) (bY (Ei:=[(40,_)]) rfl rfl (bQ (bZ 12 rfl rfl) bX) rfl rfl (dX rfl (dR fE (Ht rfl))) (bY (Ei:=[(41,_)]) rfl rfl (bQ (bZ 13 rfl rfl) bX) rfl rfl (dX rfl (dA nP Tryz.call317 Cv (Ht rfl) trivial)) (bY (Ei:=[(42,_)]) rfl rfl (bQ (bZ 14 rfl rfl) bX) rfl rfl (dX rfl (cD (xs:=[.tmp 42]) U_54 Z_32 O_32 (cW (Ht rfl) cG) rfl rfl rfl)) ?_)))
    refine Y.D_app (Ei:=[(33,_),(43,_)]) rfl rfl rfl rfl (bQ (bZ 5 rfl rfl) (bQ (bZ 15 rfl rfl) bX)) rfl (uS (inf:=Tryz.t32) pB mN rfl rfl rfl (Ht rfl) (Ht rfl) (by simp) (fun T hT=>by simp at hT; subst hT; exact El.ag rfl) (by show _ * 88 ≤ _; simp only [List.length_map,dD,List.length_cons,List.length_nil]; omega) (by simp only [List.length_map,dD,List.length_cons,List.length_nil]; omega)) ?_
    refine Y.D_done bB rfl (by kernel_rfl) rfl (by simp [Y.okP]) rfl rfl (bU (bU (bU (bU (bU (bU (bU (bU (bU (bU (bU (bU (bU (bU (bU (bU (Y.F_app (fun v2=>Y.F_nil ?_))))))))))))))))))
    refine ro rfl (fY U_78 Z_54 (Ht rfl) (Ht rfl) rfl zo (by rw [Nat.mul_one,Nat.zero_add])) ?_
    refine zO Z_54 (Ht rfl) (Ht rfl) (by simp only [eI,List.length_map,jR]; omega) (j:=1) (l:=3) rfl rfl rfl ?_
    refine eX (bP (cY (ro rfl (dV (Ht rfl) (cJ 1) z6) (rm rfl (eX (fO [0,1,3] rfl (by decide) (fU (i + 1,v2) he (by dsimp only; omega) (zS rfl) (aU (fun _ _ _ h=>h) (aU (fun _ _ _ h=>h) (aU (eA ((zU aS _ (gm a i k).conj).trans (congrArg _ (wH i (fun i=>(gm a i k).conj)).symm))) aY))))))))))
   ·simp only [decide_eq_false_iff_not] at he
    obtain rfl:n = i:=Nat.le_antisymm zo hi
    refine gW rfl (bP (jV 1 2 rfl rfl (by decide) (by simp only [eI,List.length_map,jR]; omega) ?_))
    refine cY (ro rfl (dV (Ht rfl) (cJ 1) z6) (rm rfl (eX (fO [0,1] rfl (by decide) (fU (k + 1) hd zo (zS rfl) (aU (fun _ _ _ h=>h) (aU (dN (by rw [kY,← rU (f:=(fun k=>tab n fun i=>(gm a i k).conj))])) aY)))))))
  ·simp only [decide_eq_false_iff_not] at hd
   obtain rfl:m = k:=Nat.le_antisymm zo hk
   refine gW rfl (ts (rm rfl (ra rfl (ro rfl (cQ (cJ 0)) (eX ?_)))))
   exact lR B17 trivial [0,1] ⟨⟨_,rfl,fun _ _ _ h=>h⟩,⟨_,rfl,(dN (by rw [rT]; rfl))⟩,trivial⟩ (by decide) (Wx rfl (eU rfl) (eU rfl))
theorem Vv {a:List (List Qi)} {n m:Nat} (ha:kZ a n m) (hn1:1 ≤ n) (hn:n ≤ 8) (hm:m ≤ 8):bA Tryz.prog 213 [fN a] (eD [fN (yA a n m),aN .i64 0]):=(Td ha hn1 hn hm).fun fun B _ v S V h1 h2=>Xc h1 fun u hu=>lU (s:=5) (M:=yA a n m) (dD _ _).symm u S V hu h2
theorem Oh {z:List Qi} {s:List (List Qi)} (hsh:kZ s z.length z.length) (hl:z.length ≤ 8):jI Tryz.prog 122 [oD z s] [] (Nat) (fun B=>Is (.slice (some ⟨B,0,none⟩) z.length z.length)) (fun B=>[vY B 54 32 5 (eI aS (tab z.length fun i=>tab z.length fun k=>gm s i k))]) (fun _=>True):=by
 refine jI.intro Tryz.func122 rfl Tryz.ntmps122 rfl (fun cx Z=>(ts (rn rfl (fG (Ht rfl)) fun B1=>(ro rfl (cQ cV) (eX (ts (ro rfl (eJ A_80 Z_80 (Ht rfl) (i:=1) rfl rfl rfl) (ro rfl (cZ Tryz.call117 uC ⟨(Ht rfl),trivial⟩) (rn rfl (dE (T:=Is (.slice none 0 0)) (i:=Tryz.t54) V_78 pQ rfl rfl (Ht rfl) rfl (fun _=>rfl) trivial (by show 24 * _ ≤ _; omega) zo) fun B10=>(ra rfl (eX (cK (ts (rm rfl (ro rfl (jF U_78 (Ht rfl)) (ro rfl (cX (cJ 0)) (eX (eG ?_))))))))))))))))))
 refine vC 2 rfl (uM (e:=32) (s:=5)) ?_
 refine gN (fun (i : Nat) => i ≤ z.length) (fun (i : Nat) => z.length - i) (fun (i : Nat) => [(1, eS B1 0), (3, Is (.slice (some ⟨B10, 0, none⟩) z.length z.length)), (12, NT .i64 z.length), (13, NT .i64 i)]) (fun (i : Nat) => [Z, box B1 80 [gD z, fN s], vY B10 54 32 5 (eI aS (mZ (fun i => tab z.length fun k => gm s i k) [] z.length i))]) 0 (Nat.zero_le _)
  (zS rfl) (aU (fun _ _ _ h=>h) (aU (fun _ _ _ h=>h) (aU (dN (by rw [← oU,nG]; exact oW aS z.length)) aY))) (fun i hi=>?_)
 refine ts (ro rfl (gX (Ht rfl) (Ht rfl)) (eX (cK (dQ (Ht rfl) (fun hd=>?_) (fun hd=>?_)))))
 ·simp only [decide_eq_true_eq] at hd
  refine tZ 2 (i) rfl (oQ hd) (fun v=>(cU (cK (eG (ts (rm rfl (ra rfl (eX (ts (rm rfl (ro rfl (jF U_78 (Ht rfl)) (ro rfl (cX (cJ 0)) (eX (eG ?_))))))))))))))
  refine eL (fun (k : Nat) (v : Value) => k ≤ z.length) (fun (k : Nat) (v : Value) => z.length - k) (fun (k : Nat) (v : Value) => [(1, eS B1 0), (3, Is (.slice (some ⟨B10, 0, none⟩) z.length z.length)), (4, NT .i64 i), (12, NT .i64 z.length), (13, NT .i64 i), (17, NT .i64 z.length), (18, NT .i64 k)]) (fun (k : Nat) (v : Value) => [Z, box B1 80 [gD z, fN s], Ld B10 54 32 5 (eI aS (mZ (fun i => tab z.length fun k => gm s i k) [] z.length i)) i v, bN 32 5 v ((tab k fun k => gm s i k).map aS)]) 0 v (Nat.zero_le _)
   (zS rfl) (cP.refl _) (fun k v hk=>?_)
  refine ts (ro rfl (gX (Ht rfl) (Ht rfl)) (eX (cK (dQ (Ht rfl) (fun he=>?_) (fun he=>?_)))))
  ·simp only [decide_eq_true_eq] at he
   refine cU (cK (eG (ts (rm rfl (ra rfl (eX (ts (ro rfl (eJ A_80 Z_80 (Ht rfl) (i:=1) rfl rfl rfl) (rm rfl (ro rfl (dV (Ht rfl) (cJ 1) z6) (rm rfl (ro rfl (dV (Ht rfl) (cJ 1) z6) (ro rfl (cZ Tryz.call130 (Xl (i:=(i:Int) + 1) (j:=(k:Int) + 1) hsh zo) ⟨(Ht rfl),(Ht rfl),(Ht rfl),trivial⟩) (rm rfl (ro rfl (dK (Ht rfl) rfl) (ro rfl (dK (Ht rfl) rfl) ?_))))))))))))))))
   refine rn rfl (eW (Ts:=[Is (.bool false),Is (.slice none 0 0),Is (.bool false),Is (.slice none 0 0),Is (.slice none 0 0)]) O_32 rfl (fun V=>aW zd (aW zd (aW zd (aW zd (aW zd (aG))))))) fun B6=>gQ Z_32 (Ht rfl) (Ht rfl) rfl (i:=4) rfl (aK rfl) rfl rfl (ra rfl (eX (Y.D_startA (m:=9) [] 8 3 rfl rfl (bY (Ei:=[(3,_)]) rfl rfl (bQ (bJ rfl rfl) bX) rfl rfl (dX rfl (cX (Ht rfl))) ?_))))
   refine bY (Ei:=[(4,_)]) rfl rfl (bQ (bJ rfl rfl) bX) rfl rfl (dX rfl (cX (Ht rfl))) (bY (Ei:=[(3,_)]) rfl rfl (bQ (bJ rfl rfl) bX) rfl rfl (dX rfl (cX (Ht rfl))) (bY (Ei:=[(4,_)]) rfl rfl (bQ (bJ rfl rfl) bX) rfl rfl (dX rfl (cX (Ht rfl))) (bY (Ei:=[(32,_),(33,_)]) rfl rfl (bQ (bZ 2 rfl rfl) (bQ (bZ 3 rfl rfl) bX)) rfl rfl (dX rfl (fY U_78 Z_54 (Ht rfl) (Ht rfl) rfl zo (by rw [Nat.mul_one,Nat.zero_add]))) ?_)))
   refine bY (Ei:=[(34,_)]) rfl rfl (bQ (bZ 4 rfl rfl) bX) rfl rfl (dX rfl (nR A_54 Z_54 (Ht rfl) (j:=2) rfl)) (bY (Ei:=[(6,_)]) rfl rfl (bQ (bJ rfl rfl) bX) rfl rfl (dX rfl (eJ A_32 Z_32 (Ht rfl) (i:=4) rfl rfl rfl)) (bY (Ei:=[(36,_)]) rfl rfl (bQ (bZ 6 rfl rfl) bX) rfl rfl (dX rfl (cD (xs:=[.tmp 36]) U_54 Z_32 O_32 (cW (Ht rfl) cG) rfl rfl rfl)) (Y.D_app (Ei:=[(35,_),(37,_)]) rfl rfl rfl rfl (bQ (bZ 5 rfl rfl) (bQ (bZ 7 rfl rfl) bX)) rfl (uS (inf:=Tryz.t32) pB mN rfl rfl rfl (Ht rfl) (Ht rfl) (by simp) (fun T hT=>by simp at hT; subst hT; exact El.ag rfl) (by show _ * 88 ≤ _; simp only [List.length_map,dD,List.length_cons,List.length_nil]; omega) (by simp only [List.length_map,dD,List.length_cons,List.length_nil]; omega)) ?_)))
   refine Y.D_done bB rfl (by kernel_rfl) rfl (by simp [Y.okP]) rfl rfl (bU (bU (bU (bU (bU (bU (bU (bU (Y.F_app (fun v2=>Y.F_nil ?_))))))))))
   refine ro rfl (fY U_78 Z_54 (Ht rfl) (Ht rfl) rfl zo (by rw [Nat.mul_one,Nat.zero_add])) ?_
   refine zO Z_54 (Ht rfl) (Ht rfl) (by simp only [eI,List.length_map,jR]; omega) (j:=2) (l:=5) rfl rfl rfl ?_
   refine eX (bP (cY (ro rfl (dV (Ht rfl) (cJ 1) z6) (rm rfl (eX (fO [0,1,2,5] rfl (by decide) (fU (k + 1,v2) he (by dsimp only; omega) (zS rfl) (aU (fun _ _ _ h=>h) (aU (fun _ _ _ h=>h) (aU (fun _ _ _ h=>h) (aU (eA (by rw [wH,List.map_append,Ut hd he]; rfl)) aY)))))))))))
  ·simp only [decide_eq_false_iff_not] at he
   obtain rfl:k = z.length:=Nat.le_antisymm hk zo
   refine gW rfl (bP (jV 2 3 rfl rfl (by decide) (by simp only [eI,List.length_map,jR]; omega) ?_))
   refine cY (ro rfl (dV (Ht rfl) (cJ 1) z6) (rm rfl (eX (fO [0,1,2] rfl (by decide) (fU (i + 1) hd zo (zS rfl) (aU (fun _ _ _ h=>h) (aU (fun _ _ _ h=>h) (aU (dN (by rw [kY,← rU (f:=(fun i=>tab z.length fun k=>gm s i k))])) aY))))))))
 ·simp only [decide_eq_false_iff_not] at hd
  obtain rfl:i = z.length:=Nat.le_antisymm hi zo
  refine gW rfl (ts (rm rfl (ra rfl (eX ?_))))
  exact lR B10 trivial [0,2] ⟨⟨_,rfl,fun _ _ _ h=>h⟩,⟨_,rfl,(dN (by rw [rT]))⟩,trivial⟩ (by decide) (zH rfl (eU rfl))
theorem Jr {z : List Qi} {s : List (List Qi)} (hsh : kZ s z.length z.length) (hl : z.length ≤ 8) : bA Tryz.prog 122 [oD z s] (fN s) := (Oh hsh hl).fun fun B _ v S V h1 h2 => by
 have h3:=lU (s:=5) (M:=tab z.length fun i=>tab z.length fun k=>gm s i k) (dD _ _).symm v S V h1 h2
 rw [← uN hsh] at h3; exact h3
theorem To {z:List Qi} {s:List (List Qi)} (hl:z.length ≤ 8):bA Tryz.prog 247 [oD z s] (gD z):=by
 refine bA.intro Tryz.func247 rfl Tryz.ntmps247 rfl (fun cx=>(ts (rn rfl (fG (Ht rfl)) fun B1=>(ro rfl (cQ cV) (eX (ts (ro rfl (eJ A_80 Z_80 (Ht rfl) (i:=0) rfl rfl rfl) (ro rfl (cZ Tryz.call117 uC ⟨(Ht rfl),trivial⟩) (rn rfl (pT (T:=aS Qi.zero) (i:=Tryz.t32) pB mN rfl rfl (Ht rfl) rfl lX (El.ag rfl) (by show 88 * _ ≤ _; omega) zo) fun B7=>(ra rfl (eX (cK (ts (rm rfl (ro rfl (pX U_54 (Ht rfl) (i:=1) rfl (show ((List.replicate z.length (aS Qi.zero)).length:Int) = ((z.length:Nat):Int) by simp)) ?_)))))))))))))))
 refine ro rfl (cX (cJ 0)) (eX (eG ?_))
 refine eL (fun (k : Nat) (out : List Qi) => kU (fun i => gv z i) z.length out k) (fun (k : Nat) (out : List Qi) => z.length - k) (fun (k : Nat) (out : List Qi) => [(1, eS B1 0), (3, Is B7), (9, NT .i64 z.length), (10, NT .i64 k)]) (fun (k : Nat) (out : List Qi) => [box B1 80 [gD z, fN s], bN 32 5 B7 (out.map aS)]) 0 (List.replicate z.length Qi.zero) (kU.start _ _ _)
  (zS rfl) (aU (fun _ _ _ h=>h) (aU (eA (oX aS _ _)) aY)) (fun k out hS=>?_)
 refine ts (ro rfl (gX (Ht rfl) (Ht rfl)) (eX (cK (dQ (Ht rfl) (fun hk=>?_) (fun hk=>?_)))))
 ·simp only [decide_eq_true_eq] at hk
  have hlen:=hS.len
  refine cU (cK (eG (ts (rm rfl (ra rfl (eX (cY (rm rfl (rm rfl (ro rfl (eJ A_80 Z_80 (Ht rfl) (i:=0) rfl rfl rfl) (rm rfl (ro rfl (dV (Ht rfl) (cJ 1) z6) (ro rfl (cZ Tryz.call124 (Rj (i:=(k:Int) + 1) zo) ⟨(Ht rfl),(Ht rfl),trivial⟩) (rm rfl (ro rfl (dK (Ht rfl) rfl) (ro rfl (dK (Ht rfl) rfl) (ro rfl (gL U_54 Z_32 (Ht rfl) (Ht rfl) rfl (i:=1) rfl (by first | omega | (simp; omega)) rfl) ?_)))))))))))))))))
  refine rD Z_32 (Ht rfl) (Ht rfl) (El.ag rfl) (i:=1) rfl rfl (by first | omega | (simp; omega)) rfl (eX (bP (cY (ro rfl (dV (Ht rfl) (cJ 1) z6) (rm rfl (eX (fU (k + 1,_) (hS.next hk (Mb hk)) (by dsimp only; omega) (zS rfl) (aU (fun _ _ _ h=>h) (aU (eA (mB aS _ _ _)) aY)))))))))
 ·simp only [decide_eq_false_iff_not] at hk
  obtain rfl:k = z.length:=Nat.le_antisymm hS.kle zo
  have hfin:=hS.fin.trans (Bh (l:=z) rfl).symm
  refine gW rfl (gJ (i:=1) (tt:=3) rfl rfl nN (ts (rm rfl (ra rfl (eX (fW rfl (fX (eU rfl) ?_)))))))
  exact (tD (by rw [hfin]))
end
section
open Go Go.RowKit
theorem Ft (a:Addr) (w:World):(Instr.fieldAt 84 (.pointer (some a)) 0).run Tryz.prog w = .ok (.pointer (some (a.add 0))) w:=by
 simp [Instr.fieldAt,Instr.sureAddr,fieldPlace,Sem.run_bind,Result.andThen,U_84,Z_80]
theorem Bk (v : Value) (w : World) : (method (Tryz.prog.types.size + Made.depth) 32 v "Div").run Tryz.prog w = .ok (142, v) w := by kernel_rfl
theorem oS (v : Value) (w : World) : (method (Tryz.prog.types.size + Made.depth) 32 v "Sub").run Tryz.prog w = .ok (32, v) w := by kernel_rfl
end
section
open Go Go.RowKit
theorem Jm {p c:List (List Qi)} {n m L:Nat} (hp:kZ p n m) (hc:kZ c m m) (hfp:eC p L) (hfc:eC c L) (hL1:1 ≤ L) (hL:L ≤ 1000000000) (hn1:1 ≤ n) (hm1:1 ≤ m) (hn:n ≤ 8) (hm:m ≤ 8):jI Tryz.prog 126 [fN p,fN c] [] (Nat) (fun B=>Is (.slice (some ⟨B,0,none⟩) n n)) (fun B=>[vY B 54 32 5 (eI aS (lS p c))]) (fun _=>True):=by
 have hpl:=hp.1
 have hf1:=Le (n:=n) (m:=m) hfp hfc hL1 hL1 hm
 have hf2:=Iy (n:=n) (m:=m) hfp hL1
 have hs1:kZ (tX p c n m m) n m:=Lf
 have hs2:kZ (yA p n m) m n:=Iz
 refine jI.intro Tryz.func126 rfl Tryz.ntmps126 rfl (fun cx Z=>(ts (ro rfl (cQ cV) (eX (cK (ts (rm rfl (ro rfl (dG U_78 (Ht rfl) aA) (ro rfl (bS (Ht rfl) (cJ 0)) (eX (dQ (Ht rfl) (fun h0=>?_) (fun h0=>?_))))))))))))
 ·simp only [decide_eq_true_eq] at h0
  omega
 ·refine cU (ts (rm rfl (rm rfl (ro rfl (cZ Tryz.call165 (Tf hp hc hfp hfc hL1 hL1 zo zo hn1 hm1 hn hm hm) ⟨(Ht rfl), (Ht rfl), trivial⟩) (rm rfl (ro rfl (dK (Ht rfl) rfl) (ro rfl (dK (Ht rfl) rfl) (ra rfl (ra rfl (eX (ts (rm rfl (ro rfl (cZ Tryz.call213 (Vv hp hn1 hn hm) ⟨(Ht rfl), trivial⟩) (rm rfl (ro rfl (dK (Ht rfl) rfl) (ro rfl (dK (Ht rfl) rfl) (ra rfl (ra rfl (eX (ts (rm rfl (rm rfl (tY Tryz.call165 (Ey (a := tX p c n m m) (b := yA p n m) hs1 hs2 hf1 hf2 zo hL1 zo zo hn1 hm1 hn hm hn) ⟨(Ht rfl), (Ht rfl), trivial⟩ rfl (fun B28 _ => ?_))))))))))))))))))))))))
  refine rm rfl (ro rfl (dK (Ht rfl) rfl) (ro rfl (dK (Ht rfl) rfl) (ra rfl (ra rfl (eX (ts (rm rfl (ra rfl (eX ?_)))))))))
  exact lR B28 trivial [0,1] ⟨⟨_,rfl,fun _ _ _ h=>h⟩,⟨_,rfl,(dN (by rw [Tt hp hc]))⟩,trivial⟩ (by decide) (zH rfl (eU rfl))
theorem Wb {p c:List (List Qi)} {n m L:Nat} (hp:kZ p n m) (hc:kZ c m m) (hfp:eC p L) (hfc:eC c L) (hL1:1 ≤ L) (hL:L ≤ 1000000000) (hn1:1 ≤ n) (hm1:1 ≤ m) (hn:n ≤ 8) (hm:m ≤ 8):bA Tryz.prog 126 [fN p,fN c] (fN (lS p c)):=(Jm hp hc hfp hfc hL1 hL hn1 hm1 hn hm).fun fun B _ v S V h1 h2=>lU (s:=5) (M:=lS p c) (by rw [vM.1,hp.1]) v S V h1 h2
theorem Jk {z:List Qi} {s c:List (List Qi)} {g t0:Qi} {L:Nat} (hz:lD z L) (hs:eC s L) (hc:eC c L) (hg:aH g L) (ht:aH t0 L) (hL1:1 ≤ L) (hL:L ≤ 4000) (hsh:kZ s z.length z.length) (hch:kZ c z.length z.length) (hl:z.length ≤ 8):bA Tryz.prog 44 [mQ z s c,aS g,aS t0] (eD [aS (rM z s c g t0).1,aN .i64 (rM z s c g t0).2]):=by
 haveI:=hg; haveI:=ht
 haveI hz0:aH Qi.zero 1:=aH.zero (Nat.le_refl 1)
 have d1:(dg (((1:Nat):Int)).natAbs).length = 1:=by decide
 have d2:(dg (Int.natAbs 1)).length = 1:=by decide
 have hcl:=hch.1
 refine bA.intro Tryz.func44 rfl Tryz.ntmps44 rfl (fun cx=>(ts (rn rfl (fG (Ht rfl)) fun B3=>(rn rfl (fG (Ht rfl)) fun B4=>(rn rfl (fG (Ht rfl)) fun B5=>(rn rfl (eW (Ts:=[Is (.bool false),Is (.slice none 0 0),Is (.bool false),Is (.slice none 0 0),Is (.slice none 0 0)]) O_32 rfl (fun V=>aW zd (aW zd (aW zd (aW zd (aW zd (aG))))))) fun B6=>(ro rfl (cQ (cJ 0)) (eX (ts (rn rfl (eW (Ts:=[Is (.bool false),Is (.slice none 0 0),Is (.bool false),Is (.slice none 0 0),Is (.slice none 0 0)]) O_32 rfl (fun V=>aW zd (aW zd (aW zd (aW zd (aW zd (aG))))))) fun B8=>?_))))))))))
 refine eX (cK (cK (fZ (m:=6) (dp 5 rfl (eJ A_32 Z_32 (Ht rfl) (i:=2) rfl rfl rfl) (dq 18 0 rfl (cZ K_35 qK ⟨(Ht rfl),trivial⟩) (dq 19 1 rfl (cB (Ht rfl)) (dq 20 2 rfl (cX (Ht rfl)) (C.D_step (Ei:=[(5,_),(21,_)]) rfl rfl (bV (bK rfl rfl) (bV (bG 3 rfl rfl) bW)) (eK rfl rfl (Ht rfl) (fun h=>eJ A_32 Z_32 (Ht rfl) (i:=2) rfl rfl rfl)) (C.D_step (Ei:=[(21,_)]) rfl rfl (bV (bG 3 rfl rfl) bW) (eK rfl rfl (Ht rfl) (fun h=>cZ K_36 (mT (n:=0) (by decide) (by decide)) ⟨(cJ 0),trivial⟩)) ?_)))))))))
 refine fV bB rfl (by kernel_rfl) (zF (aJ (aJ (aV (fQ rfl rfl (eK rfl rfl (Ht rfl) (fun h=>cZ K_30 (oG (x:=t0) (y:=Qi.zero) (M:=1) zo) ⟨(fJ rfl h),(fJ rfl h),trivial⟩)) (fQ rfl rfl (eK rfl rfl (Ht rfl) (fun h=>tA (fJ rfl h) cV)) (ro rfl (dT (Ht rfl) (fun h=>(fJ rfl h))) (eX (dQ (Ht rfl) (fun hb=>?_) (fun hb=>?_))))))))))
 ·rw [Gf] at hb
  simp only [Bool.not_eq_true'] at hb
  have he:rM z s c g t0 = (Qi.zero,1):=by rw [rM,if_pos hb]
  refine ts (ro rfl (eJ A_32 Z_32 (Ht rfl) (i:=4) rfl rfl rfl) (gQ Z_32 (Ht rfl) (Ht rfl) rfl (i:=3) rfl (aK rfl) rfl rfl (ro rfl (cQ (cJ 1)) (eX (bC rfl (fX (fK A_32 Z_32 rfl (i:=3) rfl rfl) ?_) (fX (eU rfl) ?_))))))
  ·exact (fun v V k=>by rw [he]; exact fR v V k)
  ·exact (fun v V k=>by rw [he]; exact k)
 ·rw [Gf] at hb
  simp only [Bool.not_eq_false'] at hb
  have hb2:¬ iC t0 = false:=by rw [hb]; decide
  refine cU (cK (ts (ro rfl (eZ rL (Ht rfl) rfl) (ro rfl (eY A_78 Z_78 (Ht rfl) (i:=0) rfl rfl) (ro rfl (dG U_78 (Ht rfl) aA) (ro rfl (kE (Ht rfl) (cJ 2)) (eX (dQ (Ht rfl) (fun hd=>?_) (fun hd=>?_)))))))))
  ·have hd2 : z.length ≠ 2 := by rw [← hcl]; simpa using hd
   have he:rM z s c g t0 = (Qi.zero,4):=by rw [rM,if_neg hb2,if_pos hd2]
   refine ts (ro rfl (eJ A_32 Z_32 (Ht rfl) (i:=4) rfl rfl rfl) (gQ Z_32 (Ht rfl) (Ht rfl) rfl (i:=3) rfl (aK rfl) rfl rfl (ro rfl (cQ (cJ 4)) (eX (bC rfl (fX (fK A_32 Z_32 rfl (i:=3) rfl rfl) ?_) (fX (eU rfl) ?_))))))
   ·exact (fun v V k=>by rw [he]; exact fR v V k)
   ·exact (fun v V k=>by rw [he]; exact k)
  ·have hd2 : z.length = 2 := by rw [← hcl]; simpa using hd
   have hd3:¬ z.length ≠ 2:=fun h=>h hd2
   have hsh2:=hsh
   rw [hd2] at hsh hch
   have hs1:=hsh.1
   have hc1:=hch.1
   have hr0:=hsh.row (i:=0) (by decide)
   have hr1:=hsh.row (i:=1) (by decide)
   have hWf:=Aw hs hg hL1
   have hW:kZ (Ko s g) 1 2:=⟨rfl,fun r hr=>by have:=List.mem_singleton.1 hr; subst this; rfl⟩
   have hXs:kZ (lS (Ko s g) c) 1 1:=vM
   have hX0:=hXs.row (i:=0) (by decide)
   have hp1:=Yc (z:=z) zo
   haveI f1:aH (gm s 1 0) L:=hs.get hL1 1 0
   haveI f2:aH (gm s 0 0) L:=hs.get hL1 0 0
   haveI f3:aH (Mz z ((1:Nat):Int)) L:=by rw [hp1]; exact hz.get hL1 0
   haveI f4:=Kq hs hc hg hL1 zo
   have hpd:gm s 1 0 * (gm s 1 0).conj * (t0 * Mz z ((1:Nat):Int)) * (yZ - g * g.conj) = Au z s g t0:=by rw [hp1,Qi.mul_conj_norm,Qi.mul_conj_norm,Au,Qi.mul_assoc']
   refine cU (ts (ro rfl (eZ Ft (Ht rfl) rfl) (ro rfl (eJ A_80 Z_80 (Ht rfl) (i:=0) rfl rfl rfl) (ro rfl (cZ Tryz.call122 (Jr hsh2 zo) ⟨(Ht rfl),trivial⟩) (ro rfl (cZ K_36 (mT (n:=1) (by decide) (by decide)) ⟨(cJ 1),trivial⟩) (ro rfl (cZ Tryz.call123 Jp ⟨(Ht rfl),trivial⟩) (rn rfl (eW (Ts:=[Is (.bool false),Is (.slice none 0 0),Is (.bool false),Is (.slice none 0 0),Is (.slice none 0 0)]) O_32 rfl (fun V=>aW zd (aW zd (aW zd (aW zd (aW zd (aG))))))) fun B10=>?_)))))))
   refine ra rfl (gQ Z_32 (Ht rfl) (Ht rfl) rfl (i:=5) rfl (aK rfl) rfl rfl (eX (ts (ro rfl (eZ Ft (Ht rfl) rfl) (ro rfl (eJ A_80 Z_80 (Ht rfl) (i:=0) rfl rfl rfl) (ro rfl (cZ Tryz.call124 (Rj (i:=((1:Nat):Int)) zo) ⟨(Ht rfl),(cJ 1),trivial⟩) (rm rfl (ro rfl (dK (Ht rfl) rfl) (ro rfl (dK (Ht rfl) rfl) (rn rfl (eW (Ts:=[Is (.bool false),Is (.slice none 0 0),Is (.bool false),Is (.slice none 0 0),Is (.slice none 0 0)]) O_32 rfl (fun V=>aW zd (aW zd (aW zd (aW zd (aW zd (aG))))))) fun B11=>?_))))))))))
   refine gQ Z_32 (Ht rfl) (Ht rfl) rfl (i:=6) rfl (aK rfl) rfl rfl (ra rfl (eX (cK (oE (E':=[(3,_),(4,_),(5,_),(6,_),(7,_),(8,_),(9,_),(10,_),(11,_)]) (zS rfl) (fZ (m:=18) (dp 9 rfl (cX (Ht rfl)) (dq 44 0 rfl (dZ U_78 Z_54 (Ht rfl) (cJ 1) rfl (dY (dU (d:=[]) zo))) (dq 45 1 rfl (dJ A_54 Z_54 (Ht rfl)) (dq 46 2 rfl (dZ U_54 Z_32 (Ht rfl) (cJ 0) rfl (dY (dU (d:=Qi.zero) (by rw [hr1]; decide)))) ?_)))))))))
   refine dq 47 3 rfl (dJ A_32 Z_32 (Ht rfl)) (dq 48 4 rfl (dR fE (Ht rfl)) (dp 4 rfl (eJ A_32 Z_32 (Ht rfl) (i:=1) rfl rfl rfl) (dC 49 5 50 6 rfl (dA gK K_29 (nX zo) (Ht rfl) ⟨(Ht rfl),trivial⟩) (dp 10 rfl (eJ A_32 Z_32 (Ht rfl) (i:=5) rfl rfl rfl) (dq 52 8 rfl (dR fE (Ht rfl)) (dp 4 rfl (eJ A_32 Z_32 (Ht rfl) (i:=1) rfl rfl rfl) (dq 54 10 rfl (dR fE (Ht rfl)) (dp 9 rfl (cX (Ht rfl)) (dq 56 12 rfl (dZ U_78 Z_54 (Ht rfl) (cJ 0) rfl (dY (dU (d:=[]) zo))) ?_)))))))))
   refine dq 57 13 rfl (dJ A_54 Z_54 (Ht rfl)) (dq 58 14 rfl (dZ U_54 Z_32 (Ht rfl) (cJ 0) rfl (dY (dU (d:=Qi.zero) (by rw [hr0]; decide)))) ?_)
   refine dq 59 15 rfl (dJ A_32 Z_32 (Ht rfl)) (dC 55 11 60 16 rfl (dA gK K_29 (nX zo) (Ht rfl) ⟨(Ht rfl),trivial⟩) (fV bB rfl (by kernel_rfl) (zF (zF (zF (zF (aJ (aJ (aV (ro rfl (dA oS K_32 (vG zo) (Ht rfl) ⟨(Ht rfl),trivial⟩) (ro rfl (cD (xs:=[.tmp 51,.tmp 62]) U_54 Z_32 O_32 (cW (Ht rfl) (cW (Ht rfl) cG)) rfl rfl rfl) ?_)))))))))))
   refine ro rfl (cD (xs:=[.tmp 63]) U_78 Z_54 Tryz.zeroValue54 (cW (Ht rfl) cG) rfl rfl rfl) (ra rfl (eX (cK (oE (E':=[(3,_),(4,_),(5,_),(6,_),(7,_),(8,_),(9,_),(10,_),(11,_),(13,_)]) (zS rfl) (cY (rm rfl (ro rfl (eZ rL (Ht rfl) rfl) (ro rfl (eY A_78 Z_78 (Ht rfl) (i:=0) rfl rfl) (ro rfl (cZ Tryz.call126 (Wb (p:=Ko s g) (c:=c) (n:=1) (m:=2) (L:=2 * L + 4) hW hch hWf (hc.le zo) zo zo (by decide) (by decide) (by decide) (by decide)) ⟨(Ht rfl),(Ht rfl),trivial⟩) ?_)))))))))
   refine ro rfl (dZ U_78 Z_54 (Ht rfl) (cJ 0) rfl (dY (dU (d:=[]) (by rw [hXs.1]; decide)))) ?_
   refine ro rfl (dJ A_54 Z_54 (Ht rfl)) (ro rfl (dZ U_54 Z_32 (Ht rfl) (cJ 0) rfl (dY (dU (d:=Qi.zero) (by rw [hX0]; decide)))) ?_)
   refine ro rfl (dJ A_32 Z_32 (Ht rfl)) (rn rfl (eW (Ts:=[Is (.bool false),Is (.slice none 0 0),Is (.bool false),Is (.slice none 0 0),Is (.slice none 0 0)]) O_32 rfl (fun V=>aW zd (aW zd (aW zd (aW zd (aW zd (aG))))))) fun B14=>(gQ Z_32 (Ht rfl) (Ht rfl) rfl (i:=7) rfl (aK rfl) rfl rfl (eX (cK (oE (E':=[(3,_),(4,_),(5,_),(6,_),(7,_),(8,_),(9,_),(10,_),(11,_),(14,_)]) (zS rfl) ?_)))))
   refine fZ (m:=32) (dp 9 rfl (cX (Ht rfl)) (dq 73 0 rfl (dZ U_78 Z_54 (Ht rfl) (cJ 1) rfl (dY (dU (d:=[]) zo))) (dq 74 1 rfl (dJ A_54 Z_54 (Ht rfl)) (dq 75 2 rfl (dZ U_54 Z_32 (Ht rfl) (cJ 0) rfl (dY (dU (d:=Qi.zero) (by rw [hr1]; decide)))) ?_))))
   refine dq 76 3 rfl (dJ A_32 Z_32 (Ht rfl)) (dq 77 4 rfl (dR fE (Ht rfl)) (dp 9 rfl (cX (Ht rfl)) (dq 79 6 rfl (dZ U_78 Z_54 (Ht rfl) (cJ 1) rfl (dY (dU (d:=[]) zo))) (dq 80 7 rfl (dJ A_54 Z_54 (Ht rfl)) (dq 81 8 rfl (dZ U_54 Z_32 (Ht rfl) (cJ 0) rfl (dY (dU (d:=Qi.zero) (by rw [hr1]; decide)))) ?_)))))
   refine dq 82 9 rfl (dJ A_32 Z_32 (Ht rfl)) (dq 83 10 rfl (dR fE (Ht rfl)) (dq 84 11 rfl (dA nP Tryz.call317 Cv (Ht rfl) trivial) (dC 78 5 85 12 rfl (dA gK K_29 (nX zo) (Ht rfl) ⟨(Ht rfl),trivial⟩) (dq 86 13 rfl (dR fE (Ht rfl)) (dp 5 rfl (eJ A_32 Z_32 (Ht rfl) (i:=2) rfl rfl rfl) (dp 11 rfl (eJ A_32 Z_32 (Ht rfl) (i:=6) rfl rfl rfl) (dC 88 15 89 16 rfl (cZ K_29 (nX zo) ⟨(Ht rfl),(Ht rfl),trivial⟩) (dq 90 17 rfl (cZ Tryz.call123 Jp ⟨(Ht rfl),trivial⟩) ?_))))))))
   refine dC 87 14 91 18 rfl (dA gK K_29 (nX zo) (Ht rfl) ⟨(Ht rfl),trivial⟩) (dq 92 19 rfl (dR fE (Ht rfl)) (dp 10 rfl (eJ A_32 Z_32 (Ht rfl) (i:=5) rfl rfl rfl) (dq 94 21 rfl (dR fE (Ht rfl)) (dp 4 rfl (eJ A_32 Z_32 (Ht rfl) (i:=1) rfl rfl rfl) (dq 96 23 rfl (dR fE (Ht rfl)) (dp 4 rfl (eJ A_32 Z_32 (Ht rfl) (i:=1) rfl rfl rfl) (dq 98 25 rfl (dR fE (Ht rfl)) (dq 99 26 rfl (dA nP Tryz.call317 Cv (Ht rfl) trivial) (dC 97 24 100 27 rfl (dA gK K_29 (nX zo) (Ht rfl) ⟨(Ht rfl),trivial⟩) ?_)))))))))
   refine dC 95 22 101 28 rfl (dA oS K_32 (vG zo) (Ht rfl) ⟨(Ht rfl),trivial⟩) (dC 93 20 102 29 rfl (dA gK K_29 (nX zo) (Ht rfl) ⟨(Ht rfl),trivial⟩) (C.D_new (Ei:=[]) rfl rfl rfl bW (eW (Ts:=[Is (.bool false),Is (.slice none 0 0),Is (.bool false),Is (.slice none 0 0),Is (.slice none 0 0)]) O_32 rfl (fun V=>aW zd (aW zd (aW zd (aW zd (aW zd (aG))))))) (fV bB rfl (by kernel_rfl) (zF (zF (zF (zF (zF (zF (zF (aJ (aJ (aJ (C.F_new (fun B15=>aV ?_)))))))))))))))
   refine gQ Z_32 (Ht rfl) (Ht rfl) rfl (i:=8) rfl (aK rfl) rfl rfl (eX (cK (oE (E':=[(6,_),(7,_),(8,_),(10,_),(14,_),(15,_)]) (zS rfl) (cY (ro rfl (eJ A_32 Z_32 (Ht rfl) (i:=7) rfl rfl rfl) (ro rfl (dR fE (Ht rfl)) (ro rfl (eJ A_32 Z_32 (Ht rfl) (i:=8) rfl rfl rfl) (ro rfl (dA Bk Tryz.call142 (Ri (x:=Kp s c g) (y:=gm s 1 0 * (gm s 1 0).conj * (t0 * Mz z ((1:Nat):Int)) * (yZ - g * g.conj)) zo) (Ht rfl) ⟨(Ht rfl),trivial⟩) ?_))))))))
   refine rm rfl (ro rfl (dK (Ht rfl) rfl) (ro rfl (dK (Ht rfl) rfl) (rn rfl (eW (Ts:=[Is (.bool false),Is (.slice none 0 0),Is (.bool false),Is (.slice none 0 0),Is (.slice none 0 0)]) O_32 rfl (fun V=>aW zd (aW zd (aW zd (aW zd (aW zd (aG))))))) fun B16=>(gQ Z_32 (Ht rfl) (Ht rfl) rfl (i:=9) rfl (aK rfl) rfl rfl (ra rfl (eX (cK (cK (oE (E':=[(6,_),(7,_),(8,_),(10,_),(16,_),(17,_)]) (zS rfl) ?_)))))))))
   refine cY (rm rfl (ro rfl (nS (Ht rfl) cV) (eX (dQ (Ht rfl) (fun hk=>?_) (fun hk=>?_)))))
   ·rw [hpd] at hk
    have hk2 : Au z s g t0 = Qi.zero := by
     by_cases h:Au z s g t0 = Qi.zero
     ·exact h
     ·rw [if_neg h] at hk; exact absurd hk (by decide)
    have he:rM z s c g t0 = (Qi.zero,3):=by rw [rM,if_neg hb2,if_neg hd3,if_pos hk2]
    refine ts (ro rfl (eJ A_32 Z_32 (Ht rfl) (i:=4) rfl rfl rfl) (gQ Z_32 (Ht rfl) (Ht rfl) rfl (i:=3) rfl (aK rfl) rfl rfl (ro rfl (cQ (cJ 3)) (eX (bC rfl (fX (fK A_32 Z_32 rfl (i:=3) rfl rfl) ?_) (fX (eU rfl) ?_))))))
    ·exact (fun v V k=>by rw [he]; exact fR v V k)
    ·exact (fun v V k=>by rw [he]; exact k)
   ·have hk2 : ¬ Au z s g t0 = Qi.zero := fun h => by rw [hpd, if_pos h] at hk; exact absurd hk (by decide)
    have he:rM z s c g t0 = (yZ + Kp s c g / Au z s g t0,0):=by rw [rM,if_neg hb2,if_neg hd3,if_neg hk2]
    have hv:yZ + Kp s c g / (gm s 1 0 * (gm s 1 0).conj * (t0 * Mz z ((1:Nat):Int)) * (yZ - g * g.conj)) = (rM z s c g t0).1:=by rw [he,hpd]
    refine cU (ts (ro rfl (eJ A_32 Z_32 (Ht rfl) (i:=5) rfl rfl rfl) (ro rfl (dR fE (Ht rfl)) (ro rfl (eJ A_32 Z_32 (Ht rfl) (i:=9) rfl rfl rfl) (ro rfl (dA tL Tryz.call33 (Ex zo) (Ht rfl) ⟨(Ht rfl),trivial⟩) (gQ Z_32 (Ht rfl) (Ht rfl) rfl (i:=3) rfl (aK rfl) rfl rfl (ro rfl (cQ (cJ 0)) (eX (bC rfl (fX (fK A_32 Z_32 rfl (i:=3) rfl rfl) ?_) (fX (eU rfl) ?_))))))))))
    ·exact (eO hv)
    ·exact (fun v V k=>by rw [he]; exact k)
end
section
open Go Go.RowKit
theorem Nu {n:Nat} (h:n < 4294967296):bA Tryz.prog 289 [NT .u64 1,NT .u64 n] (eD [NT .u64 0,NT .u64 n]):=by
 refine bA.intro Tryz.func289 rfl Tryz.ntmps289 rfl (fun cx=>(ts (ro rfl (cQ (cJ 0)) (ro rfl (cQ (cJ 0)) (eX (ts (rm rfl (ro rfl (aC.nat (kC rfl (Ht rfl) (cJ 4294967295) z7 z7) (show (1:Nat) &&& 4294967295 = 1 by decide)) (ra rfl (eX (ts (rm rfl (ro rfl (aC.nat (bT (Ht rfl) (cJ 32) (by decide)) (show (1:Nat) / 2 ^ 32 = 0 by decide)) (ra rfl (eX (ts (rm rfl (ro rfl (aC.nat (kC rfl (Ht rfl) (cJ 4294967295) z7 z7) (show n &&& 4294967295 = n from (Nat.and_two_pow_sub_one_eq_mod n 32).trans (Nat.mod_eq_of_lt h))) ?_))))))))))))))))))
 refine ra rfl (eX (ts (rm rfl (ro rfl (aC.nat (bT (Ht rfl) (cJ 32) (by decide)) (show n / 2 ^ 32 = 0 from Nat.div_eq_of_lt h)) (ra rfl (eX (ts (rm rfl (rm rfl (ro rfl (aC.nat (jG (Ht rfl) (Ht rfl) z7) (Nat.one_mul n)) (ra rfl (eX (ts (rm rfl (rm rfl (ro rfl (aC.nat (jG (Ht rfl) (Ht rfl) z7) (Nat.zero_mul n)) (rm rfl (ro rfl (aC.nat (bT (Ht rfl) (cJ 32) (by decide)) (show n / 2 ^ 32 = 0 from Nat.div_eq_of_lt h)) ?_))))))))))))))))))
 refine ro rfl (dV (Ht rfl) (Ht rfl) z7) (ra rfl (eX (ts (rm rfl (ro rfl (aC.nat (kC rfl (Ht rfl) (cJ 4294967295) z7 z7) (show (0 + 0:Nat) &&& 4294967295 = 0 by decide)) (ra rfl (eX (ts (rm rfl (ro rfl (aC.nat (bT (Ht rfl) (cJ 32) (by decide)) (show (0 + 0:Nat) / 2 ^ 32 = 0 by decide)) (ra rfl (eX (ts (rm rfl (rm rfl (rm rfl ?_))))))))))))))))
 refine ro rfl (aC.nat (jG (Ht rfl) (Ht rfl) z7) (show (1 * 0:Nat) = 0 by decide)) (ro rfl (dV (Ht rfl) (Ht rfl) z7) (ra rfl (eX (ts (rm rfl (rm rfl (ro rfl (aC.nat (jG (Ht rfl) (Ht rfl) z7) (show (0 * 0:Nat) = 0 by decide)) (rm rfl (ro rfl (dV (Ht rfl) (Ht rfl) z7) ?_)))))))))
 refine rm rfl (ro rfl (aC.nat (bT (Ht rfl) (cJ 32) (by decide)) (show (0 + 0:Nat) / 2 ^ 32 = 0 by decide)) (ro rfl (dV (Ht rfl) (Ht rfl) z7) (ra rfl (eX (ts (rm rfl (rm rfl (ro rfl (aC.nat (jG (Ht rfl) (Ht rfl) z7) (Nat.one_mul n)) (ra rfl (eX (bC rfl (fX (eU rfl) ?_) (eU rfl))))))))))))
 exact (jO (by decide))
theorem Th {n:Nat} (h:n < 4294967296):bA Tryz.prog 259 [NT .u64 1,NT .u64 n] (eD [NT .u64 0,NT .u64 n]):=by
 refine bA.intro Tryz.func259 rfl Tryz.ntmps259 rfl (fun cx=>(ts (ro rfl (cQ (cJ 0)) (ro rfl (cQ (cJ 0)) (eX (cK (dQ cV (fun hf=>?_) (fun hf=>?_))))))))
 ·exact absurd hf (by decide)
 ·refine cU (ts (rm rfl (rm rfl (ro rfl (cZ Tryz.call289 (Nu h) ⟨(Ht rfl), (Ht rfl), trivial⟩) (rm rfl (ro rfl (dK (Ht rfl) rfl) (ro rfl (dK (Ht rfl) rfl) (ra rfl (ra rfl (eX (ts (rm rfl (rm rfl (ra rfl (ra rfl (eX ?_))))))))))))))))
  exact bC rfl (eU rfl) (eU rfl)
theorem Tg {m:Nat} (h1:1 ≤ m) (hm:m ≤ 1000):jI Tryz.prog 212 [gD [Qi.zero],NT .i64 m] [] ({v:Value // kJ v}) (fun v=>Is v.1) (fun v=>[bN 32 5 v.1 ((tab m fun _=>Qi.zero).map aS)]) (fun _=>True):=by
 refine jI.intro Tryz.func212 rfl Tryz.ntmps212 rfl (fun cx Z=>(ts (ro rfl (cQ cV) (eX (cK (ts (rm rfl (ro rfl (gX (Ht rfl) (cJ 0)) (eX (dQ (Ht rfl) (fun h0=>?_) (fun h0=>?_)))))))))))
 ·simp only [decide_eq_true_eq] at h0
  omega
 ·refine cU (ts (rm rfl (ro rfl (dG U_54 (Ht rfl) (show (([Qi.zero].map aS).length : Int) = ((1 : Nat) : Int) from rfl)) (ro rfl (gZ U_3 U_275 (Ht rfl) z7) (rm rfl (ro rfl (gZ U_3 U_275 (Ht rfl) z7) (ro rfl (cZ Tryz.call259 (Th zo) ⟨(Ht rfl), (Ht rfl), trivial⟩) (rm rfl (ro rfl (dK (Ht rfl) rfl) (ro rfl (dK (Ht rfl) rfl) ?_))))))))))
  refine ra rfl (ra rfl (eX (cK (ts (rm rfl (ro rfl (dP (Ht rfl) (cJ 0)) (rm rfl (fQ rfl rfl (eK rfl rfl (Ht rfl) (fun h=>cX (Ht rfl))) (fQ rfl rfl (eK rfl rfl (Ht rfl) (fun h=>dP (fJ rfl h) (cJ 9223372036854775807))) (ro rfl (dT (Ht rfl) (fun h=>(fJ rfl h))) (eX (dQ (Ht rfl) (fun h2=>?_) (fun h2=>?_)))))))))))))
  ·simp only [Bool.or_eq_true, decide_eq_true_eq] at h2
   omega
  ·refine cU (ts (rm rfl (ro rfl (gZ U_275 U_3 (Ht rfl) z6) (Nc (T := aS Qi.zero) (i := Tryz.t32) pB mN rfl rfl (Ht rfl) rfl lX (El.ag rfl) (by show 88 * _ ≤ _; omega) zo rfl (fun B30 hB30 => (ra rfl (eX (ts (rm rfl (rm rfl (ro rfl (Lt (q := 1) (T := aS Qi.zero) U_54 Z_32 (i := 1) rfl (Ht rfl) (Ht rfl) (by decide) (El.ag rfl) zo) (ra rfl (eX (cK (eG ?_)))))))))))))))
   refine gN (fun (k : Nat) => 1 ≤ k ∧ k ≤ m) (fun (k : Nat) => m - k) (fun (k : Nat) => [(7, Is B30), (8, NT .i64 k)]) (fun (k : Nat) => [Z, bN 32 5 B30 (List.replicate m (aS Qi.zero))]) (Nat.min 1 m) ⟨by show 1 ≤ min 1 m; omega, by show min 1 m ≤ m; omega⟩
    (zS rfl) (cP.refl _) (fun k ⟨hk1,hk⟩=>?_)
   refine cK (ts (rm rfl (rm rfl (ro rfl (pX U_54 (Ht rfl) (i:=1) rfl (show ((List.replicate m (aS Qi.zero)).length:Int) = ((m:Nat):Int) by simp)) (ro rfl (gX (Ht rfl) (Ht rfl)) (eX (dQ (Ht rfl) (fun hd=>?_) (fun hd=>?_))))))))
   ·simp only [decide_eq_true_eq] at hd
    have hlen:(List.replicate m (aS Qi.zero)).length = m:=by simp
    have h5:Nat.min k ((List.replicate m (aS Qi.zero)).length - k) = min k (m - k):=by rw [hlen]
    refine cU (eG (fZ (m:=8) (dp 8 rfl (cX (Ht rfl)) (dp 7 rfl (cX (Ht rfl)) (dp 8 rfl (cX (Ht rfl)) (dC 39 1 40 2 rfl (Lw U_54 Z_32 (Ht rfl) (Ht rfl) rfl (i:=1) rfl (by rw [hlen]; exact hd)) ?_))))))
    refine dp 7 rfl (cX (Ht rfl)) (dp 8 rfl (cX (Ht rfl)) (dC 42 4 43 5 rfl (Lv U_54 Z_32 (Ht rfl) (Ht rfl) rfl (i:=1) rfl (by rw [hlen]; omega) (by rw [hlen]; omega)) ?_))
    refine dC 41 3 44 6 rfl (Dq (T:=aS Qi.zero) U_54 Z_32 (i:=1) rfl (Ht rfl) (Ht rfl)) (fV bB rfl (by kernel_rfl) (zF (zF (aV (ro rfl (dV (Ht rfl) (Ht rfl) (by show _ < 9223372036854775808; omega)) (ra rfl (eX (bP (fU (k + Nat.min k ((List.replicate m (aS Qi.zero)).length - k)) ⟨by omega,by omega⟩ zo (zS rfl) (cP.refl _))))))))))
   ·refine gW rfl (ts (rm rfl (ra rfl (eX ?_))))
    exact lR ⟨B30,hB30⟩ trivial [0,1] ⟨⟨_,rfl,fun _ _ _ h=>h⟩,⟨_,rfl,(eA (by rw [nG,oX]))⟩,trivial⟩ (by decide) (zH rfl (eU rfl))
end
section
open Go Go.RowKit
theorem Ct {n : Nat} {E : bL} {H : Hp} {d : Option Tmp} {t : TypeId} {pos : String} {af : Array Edge} {g : Option (Nat × Bool)} {x0 x1 : Operand} {T0 T1 T2 : Ty} (h0 : aT E x0 (eB [T0, T1])) [s1 : cI T2 1 false] (h1 : aT E x1 T2) :
  aC Tryz.prog n E H ⟨d,.build 84 #[(0,x0),(1,x1)],t,pos,af,g⟩ (eB [T0,T1,T2]) :=
 fS (parts := [(0, x0), (1, x1)]) fun a V w hs => by
  obtain ⟨v0,e0,c0⟩:=h0 n V a hs
  obtain ⟨c0_0,c0_1,rfl⟩:∃ c0_0 c0_1,v0 = [c0_0,c0_1]:=xJ (by simpa using c0.length)
  have p1:=h1 n V a hs
  generalize e1:a.eval x1 = v1 at p1
  have q1:=(s1.ok v1 V p1).2.2 rfl
  refine ⟨.agg #[c0_0,c0_1,v1],?_,[c0_0,c0_1,v1],rfl,aW (c0.at (i:=0) rfl rfl) (aW (c0.at (i:=1) rfl rfl) (aW (⟨p1,q1⟩) (aG)))⟩
  simp [e0,e1,Instr.build,Instr.fill,Sem.run_bind,Result.andThen,eE,q1.cells,O_84,U_84,Z_78,Z_80]
end
section
open Go Go.RowKit
theorem Ju {n:Nat} (hn:n ≤ 1000):jI Tryz.prog 125 [NT .i64 n,NT .i64 n] [] (Nat) (fun B=>Is (.slice (some ⟨B,0,none⟩) n n)) (fun B=>[mY kJ B 54 32 5 (eI aS (Si n n))]) (fun _=>True):=by
 refine jI.intro Tryz.func125 rfl Tryz.ntmps125 rfl (fun cx Z=>(ts (ro rfl (cQ cV) (eX (ts (rm rfl (rn rfl (dE (T:=Is (.slice none 0 0)) (i:=Tryz.t54) V_78 pQ rfl rfl (Ht rfl) rfl (fun _=>rfl) trivial (by show 24 * _ ≤ _; omega) zo) fun B8=>(ra rfl (eX (cK (ts (rm rfl (ro rfl (jF U_78 (Ht rfl)) (ro rfl (cX (cJ 0)) (eX (eG (vC 1 rfl (Bj kJ ⟨none,0,rfl⟩ (e:=32) (s:=5)) ?_)))))))))))))))))
 refine gN (fun (k : Nat) => k ≤ n) (fun (k : Nat) => n - k) (fun (k : Nat) => [(1, NT .i64 n), (5, Is (.slice (some ⟨B8, 0, none⟩) n n)), (10, NT .i64 n), (11, NT .i64 k)]) (fun (k : Nat) => [Z, mY kJ B8 54 32 5 (eI aS (mZ (fun _ => (tab n fun _ => Qi.zero)) [] n k))]) 0 (Nat.zero_le _)
  (zS rfl) (aU (fun _ _ _ h=>h) (aU (dN (by rw [← oU,nG]; exact oW aS n)) aY)) (fun k hk=>?_)
 refine ts (ro rfl (gX (Ht rfl) (Ht rfl)) (eX (cK (dQ (Ht rfl) (fun hd=>?_) (fun hd=>?_)))))
 ·simp only [decide_eq_true_eq] at hd
  refine rF 1 (k) rfl (oQ hd) (fun v hv=>(cU (cK (eG (ts (rm rfl (ra rfl (eX (cY (rm rfl (rm rfl (ro rfl (cZ K_36 (mT (n:=0) (by decide) (by decide)) ⟨(cJ 0),trivial⟩) (ro rfl (cZ Tryz.call123 Jp ⟨(Ht rfl),trivial⟩) (ro rfl (cD (xs:=[.tmp 17]) U_54 Z_32 O_32 (cW (Ht rfl) cG) rfl rfl rfl) (rm rfl (tY Tryz.call212 (Tg (m:=n) zo hn) ⟨(Ht rfl),(Ht rfl),trivial⟩ rfl (fun B20 _=>?_)))))))))))))))))
  have hB20:=B20.2
  refine ro rfl (fY U_78 Z_54 (Ht rfl) (Ht rfl) rfl zo (by rw [Nat.mul_one,Nat.zero_add])) ?_
  refine zO Z_54 (Ht rfl) (Ht rfl) (by simp only [eI,List.length_map,jR]; omega) (j:=1) (l:=3) rfl rfl rfl ?_
  refine eX (bP (jV 1 3 rfl rfl (by decide) (by simp only [eI,List.length_map,jR]; omega) ?_))
  refine cY (ro rfl (dV (Ht rfl) (cJ 1) z6) (rm rfl (eX (fO [0,1] rfl (by decide) (fU (k + 1) hd zo (zS rfl) (aU (fun _ _ _ h=>h) (aU (dN (by rw [kY,← rU (f:=fun _=>(tab n fun _=>Qi.zero))])) aY)))))))
 ·simp only [decide_eq_false_iff_not] at hd
  obtain rfl:n = k:=Nat.le_antisymm zo hk
  refine gW rfl (ts (rm rfl (ra rfl (eX ?_))))
  exact lR B8 trivial [0,1] ⟨⟨_,rfl,fun _ _ _ h=>h⟩,⟨_,rfl,(dN (by rw [rT]; rfl))⟩,trivial⟩ (by decide) (zH rfl (eU rfl))
theorem Js {z:List Qi} {s:List (List Qi)} {L:Nat} (hz:lD z L) (hs:eC s L) (hL1:1 ≤ L) (hL:L ≤ 10000000) (hsh:kZ s z.length z.length) (hl1:1 ≤ z.length) (hl:z.length ≤ 8):jI Tryz.prog 196 [oD z s] [] (Nat) (fun B=>Is (.slice (some ⟨B,0,none⟩) z.length z.length)) (fun B=>[mY kJ B 54 32 5 (eI aS (nD z s))]) (fun _=>True):=by
 have hs1:=hs.le (Nat.le_refl L)
 have hsl:=hsh.1
 have hD:=Ao z
 have hDf:=vQ hz hL1
 have hXf:=vL hs hDf hL1 (by rw [hD.1]; exact hl)
 have hX:kZ (lS s (fP z)) s.length s.length:=vM
 refine jI.intro Tryz.func196 rfl Tryz.ntmps196 rfl (fun cx Z=>(ts (rn rfl (fG (Ht rfl)) fun B1=>(ro rfl (cQ cV) (eX (cK (fZ (m:=3) (dp 1 rfl (eJ A_80 Z_80 (Ht rfl) (i:=1) rfl rfl rfl) (dq 10 0 rfl (cZ Tryz.call117 uC ⟨(Ht rfl),trivial⟩) (dp 1 rfl (eJ A_80 Z_80 (Ht rfl) (i:=1) rfl rfl rfl) (fV bB rfl (by kernel_rfl) (aJ (aJ (aJ (aV (ro rfl (cZ Tryz.call117 uC ⟨(Ht rfl),trivial⟩) (tY Tryz.call125 (Ju (n:=z.length) zo) ⟨(Ht rfl),(Ht rfl),trivial⟩ rfl (fun B14 _=>?_))))))))))))))))))
 refine ra rfl (eX (cK (ts (ro rfl (eJ A_80 Z_80 (Ht rfl) (i:=1) rfl rfl rfl) (ro rfl (cZ Tryz.call247 (To zo) ⟨(Ht rfl),trivial⟩) (ro rfl (dG U_54 (Ht rfl) aA) (ro rfl (cX (cJ 0)) (eX (eG ?_)))))))))
 refine gN (fun (i : Nat) => i ≤ z.length) (fun (i : Nat) => z.length - i) (fun (i : Nat) => [(1, eS B1 0), (3, Is (.slice (some ⟨B14, 0, none⟩) z.length z.length)), (16, gD z), (17, NT .i64 z.length), (18, NT .i64 i)]) (fun (i : Nat) => [Z, box B1 80 [gD z, fN s], mY kJ B14 54 32 5 (eI aS (mZ (fun i => (tab z.length fun _ => Qi.zero).set i (gv z i)) (tab z.length fun _ => Qi.zero) z.length i))]) 0 (Nat.zero_le _)
  (zS rfl) (aU (fun _ _ _ h=>h) (aU (fun _ _ _ h=>h) (aU (dN (by rw [Si,oU])) aY))) (fun i hi=>?_)
 refine ts (ro rfl (gX (Ht rfl) (Ht rfl)) (eX (cK (dQ (Ht rfl) (fun hd=>?_) (fun hd=>?_)))))
 ·simp only [decide_eq_true_eq] at hd
  have hzl:=dD z.length fun _=>Qi.zero
  refine rF 2 (i) rfl (oQ hd) (fun v hv=>(cU (cK (eG (ts (rm rfl (ro rfl (dZ U_54 Z_32 (Ht rfl) (Ht rfl) rfl (dY (dU (d:=Qi.zero) hd))) (ro rfl (dJ A_32 Z_32 (Ht rfl)) (rn rfl (eW (Ts:=[Is (.bool false),Is (.slice none 0 0),Is (.bool false),Is (.slice none 0 0),Is (.slice none 0 0)]) O_32 rfl (fun V=>aW zd (aW zd (aW zd (aW zd (aW zd (aG))))))) fun B5=>(ra rfl ?_))))))))))
  refine gQ Z_32 (Ht rfl) (Ht rfl) rfl (i:=4) rfl (aK rfl) rfl rfl (eX (fZ (m:=7) (dp 3 rfl (cX (Ht rfl)) (dp 4 rfl (cX (Ht rfl)) (dC 23 0 24 1 rfl (fY U_78 Z_54 (Ht rfl) (Ht rfl) rfl zo (by rw [Nat.mul_one,Nat.zero_add])) ?_)))))
  refine dq 25 2 rfl (nR A_54 Z_54 (Ht rfl) (j:=2) rfl) (dp 4 rfl (cX (Ht rfl)) (dp 5 rfl (eJ A_32 Z_32 (Ht rfl) (i:=4) rfl rfl rfl) (dq 28 5 rfl (cZ Tryz.call123 Jp ⟨(Ht rfl),trivial⟩) (fV bB rfl (by kernel_rfl) (zF (aJ (aJ (aJ (aV (ro rfl (gL U_54 Z_32 (Ht rfl) (Ht rfl) rfl (i:=3) rfl (by simp only [List.length_map,dD]; omega) rfl) ?_))))))))))
  refine rD Z_32 (Ht rfl) (Ht rfl) (El.ag rfl) (i:=3) rfl rfl (by simp only [List.length_map,dD]; omega) rfl ?_
  refine eX (bP (jV 2 3 rfl rfl (by decide) (by simp only [eI,List.length_map,jR]; omega) ?_))
  refine cY (ro rfl (dV (Ht rfl) (cJ 1) z6) (rm rfl (eX (fO [0,1,2] rfl (by decide) (fU (i + 1) hd zo (zS rfl) (aU (fun _ _ _ h=>h) (aU (fun _ _ _ h=>h) (aU (dN (by rw [← rU (f:=(fun i=>(tab z.length fun _=>Qi.zero).set i (gv z i))),← kY,← mB])) aY))))))))
 ·simp only [decide_eq_false_iff_not] at hd
  obtain rfl:i = z.length:=Nat.le_antisymm hi zo
  rw [rT]
  refine gW rfl (ts (ro rfl (eJ A_80 Z_80 (Ht rfl) (i:=1) rfl rfl rfl) (ro rfl (cZ Tryz.call122 (Jr hsh hl) ⟨(Ht rfl),trivial⟩) (rm rfl (Sm Tryz.call126 (Jm (p:=s) (c:=fP z) (n:=z.length) (m:=z.length) (L:=L) hsh hD hs hDf hL1 zo hl1 hl1 hl hl) (j:=2) (tt:=34) rfl rfl (lU (s:=5) (M:=fP z) hD.1.symm) Ui (fun _=>inferInstance) (fun _ B hB=>by simp only [List.mem_singleton] at hB; subst hB; exact Mp) ⟨(Ht rfl),(Ht rfl),trivial⟩ rfl (fun B35 _=>(ra rfl (eX (cK (cK (gJ (i:=3) (tt:=6) rfl rfl (lU (s:=5) (M:=lS s (fP z)) (hX.1.trans hsl).symm) ?_)))))))))))
  refine cY (rm rfl (ro rfl (dG U_78 (Ht rfl) aA) (ro rfl (cX (cJ 0)) (eX (eG (fO [0,2] rfl (by decide) ?_))))))
  refine gN (fun (i : Nat) => i ≤ z.length) (fun (i : Nat) => z.length - i) (fun (i : Nat) => [(3, Is (.slice (some ⟨B14, 0, none⟩) z.length z.length)), (36, fN (lS s (fP z))), (37, NT .i64 z.length), (38, NT .i64 i)]) (fun (i : Nat) => [Z, mY kJ B14 54 32 5 (eI aS (oT (fun i => tab z.length fun j => gm (fP z) i j - gm (lS s (fP z)) i j) (fun i => tab z.length fun j => gm (fP z) i j) z.length i))]) 0 (Nat.zero_le _)
   (aQ rfl (aQ rfl (aZ rfl (jO (hX.1.trans hsl)) (zS rfl)))) (aU (fun _ _ _ h=>h) (aU (dN (by rw [← pR]; exact congrArg _ (uN hD))) aY)) (fun i hi=>?_)
  refine ts (ro rfl (gX (Ht rfl) (Ht rfl)) (eX (cK (dQ (Ht rfl) (fun he=>?_) (fun he=>?_)))))
  ·simp only [decide_eq_true_eq] at he
   have hxr:=hX.row (i:=i) zo
   refine rF 1 (i) rfl (xG he) (fun v hv=>(cU (cK (eG (ts (rm rfl (ro rfl (dZ U_78 Z_54 (Ht rfl) (Ht rfl) rfl (dY (dU (d:=[]) (by rw [hX.1]; omega)))) ?_)))))))
   refine ro rfl (dJ A_54 Z_54 (Ht rfl)) (ra rfl (ra rfl (eX (ts (rm rfl (ro rfl (dG U_54 (Ht rfl) aA) (ro rfl (cX (cJ 0)) (eX (eG ?_)))))))))
   refine gN (fun (j : Nat) => j ≤ z.length) (fun (j : Nat) => z.length - j) (fun (j : Nat) => [(3, Is (.slice (some ⟨B14, 0, none⟩) z.length z.length)), (7, NT .i64 i), (8, gD ((lS s (fP z)).getD i [])), (36, fN (lS s (fP z))), (37, NT .i64 z.length), (38, NT .i64 i), (44, NT .i64 z.length), (45, NT .i64 j)]) (fun (j : Nat) => [Z, rQ kJ B14 54 32 5 (eI aS (oT (fun i => tab z.length fun j => gm (fP z) i j - gm (lS s (fP z)) i j) (fun i => tab z.length fun j => gm (fP z) i j) z.length i)) i v, bN 32 5 v ((oT (fun j => gm (fP z) i j - gm (lS s (fP z)) i j) (fun j => gm (fP z) i j) z.length j).map aS)]) 0 (Nat.zero_le _)
    (aQ rfl (aQ rfl (aQ rfl (aQ rfl (aQ rfl (aQ rfl (aZ rfl (jO (hxr.trans hsl)) (zS rfl)))))))) (aU (fun _ _ _ h=>h) (aU (fun _ _ _ h=>h) (aU (eA (by rw [← pR])) aY))) (fun j hj=>?_)
   refine ts (ro rfl (gX (Ht rfl) (Ht rfl)) (eX (cK (dQ (Ht rfl) (fun hf=>?_) (fun hf=>?_)))))
   ·simp only [decide_eq_true_eq] at hf
    have hrl:=lW (fun j=>gm (fP z) i j - gm (lS s (fP z)) i j) (fun j=>gm (fP z) i j) z.length j
    haveI f1:aH (gm (fP z) i j) L:=hDf.get hL1 i j
    haveI f2:aH (gm (lS s (fP z)) i j) (200 * L + 300):=hXf.get zo i j
    refine cU (cK (eG (ts (rm rfl (ra rfl (eX (fZ (m:=18) (dp 3 rfl (cX (Ht rfl)) (dp 7 rfl (cX (Ht rfl)) (dC 48 0 49 1 rfl (fY U_78 Z_54 (Ht rfl) (Ht rfl) rfl zo (by rw [Nat.mul_one,Nat.zero_add])) ?_))))))))))
    refine dq 50 2 rfl (nR A_54 Z_54 (Ht rfl) (j:=1) rfl) (dp 9 rfl (cX (Ht rfl)) (dp 3 rfl (cX (Ht rfl)) (dp 7 rfl (cX (Ht rfl)) (dC 53 5 54 6 rfl (fY U_78 Z_54 (Ht rfl) (Ht rfl) rfl zo (by rw [Nat.mul_one,Nat.zero_add])) ?_))))
    refine dq 55 7 rfl (nR A_54 Z_54 (Ht rfl) (j:=1) rfl) (dp 9 rfl (cX (Ht rfl)) (dC 56 8 57 9 rfl (gL U_54 Z_32 (Ht rfl) (Ht rfl) rfl (i:=2) rfl (by simp only [List.length_map,hrl]; omega) rfl) ?_))
    refine dq 58 10 rfl (sZ A_32 Z_32 (Ht rfl) (i:=2) rfl rfl (dY (vZ hf))) (dq 59 11 rfl (dR fE (Ht rfl)) (dp 8 rfl (cX (Ht rfl)) (dp 9 rfl (cX (Ht rfl)) (dC 61 13 62 14 rfl (dZ U_54 Z_32 (Ht rfl) (Ht rfl) rfl (dY (dU (d:=Qi.zero) (by rw [hxr]; omega)))) ?_))))
    refine dq 63 15 rfl (dJ A_32 Z_32 (Ht rfl)) (dC 60 12 64 16 rfl (dA oS K_32 (vG zo) (Ht rfl) ⟨(Ht rfl),trivial⟩) (fV bB rfl (by kernel_rfl) (zF (zF (zF (zF (aJ (aJ (aV (ro rfl (gL U_54 Z_32 (Ht rfl) (Ht rfl) rfl (i:=2) rfl (by simp only [List.length_map,hrl]; omega) rfl) ?_))))))))))
    refine rD Z_32 (Ht rfl) (Ht rfl) (El.ag rfl) (i:=2) rfl rfl (by simp only [List.length_map,hrl]; omega) rfl ?_
    refine eX (bP (cY (ro rfl (dV (Ht rfl) (cJ 1) z6) (rm rfl (eX (fU (j + 1) hf zo (zS rfl) (aU (fun _ _ _ h=>h) (aU (fun _ _ _ h=>h) (aU (eA (by rw [mB,← rS (f:=fun j=>gm (fP z) i j - gm (lS s (fP z)) i j)])) aY)))))))))
   ·simp only [decide_eq_false_iff_not] at hf
    obtain rfl:j = z.length:=Nat.le_antisymm hj zo
    refine gW rfl (bP (jV 1 2 rfl rfl (by decide) (by simp only [eI,List.length_map,lW]; omega) ?_))
    refine cY (ro rfl (dV (Ht rfl) (cJ 1) z6) (rm rfl (eX (fO [0,1] rfl (by decide) (fU (i + 1) he zo (zS rfl) (aU (fun _ _ _ h=>h) (aU (dN (by rw [kY,rR,← rS (f:=(fun i=>tab z.length fun j=>gm (fP z) i j - gm (lS s (fP z)) i j))])) aY)))))))
  ·simp only [decide_eq_false_iff_not] at he
   obtain rfl:i = z.length:=Nat.le_antisymm hi zo
   refine gW rfl (ts (rm rfl (ra rfl (eX ?_))))
   exact lR B14 trivial [0,1] ⟨⟨_,rfl,fun _ _ _ h=>h⟩,⟨_,rfl,(dN (by rw [rR]; rfl))⟩,trivial⟩ (by decide) (zH rfl (eU rfl))
theorem Vz {z:List Qi} {s:List (List Qi)} {t:Qi} {L:Nat} (hz:lD z L) (hs:eC s L) (ht:aH t L) (hL1:1 ≤ L) (hL:L ≤ 10000000) (hsh:kZ s z.length z.length) (hl1:1 ≤ z.length) (hl:z.length ≤ 8):bA Tryz.prog 100 [oD z s,aS t] (eD [mQ (rC (qZ t) z) (rC (qZ t) s) (rC (qZ t) (Mn t (nD z s) z.length)),aN .i64 (qZ t)]):=by
 haveI:=ht
 have hOs:=Lx z s
 have hOf:=Bt hz hs hL1 hl
 refine bA.intro Tryz.func100 rfl Tryz.ntmps100 rfl (fun cx=>(ts (rn rfl (fG (Ht rfl)) fun B2=>(rn rfl (fG (Ht rfl)) fun B3=>(rn rfl (eW (Ts:=[Is (.slice none 0 0),Is (.slice none 0 0),Is (.slice none 0 0)]) O_84 rfl (fun V=>aW zd (aW zd (aW zd (aG))))) fun B4=>(ro rfl (cQ (cJ 0)) (eX (cK (ts (ro rfl (eJ A_32 Z_32 (Ht rfl) (i:=1) rfl rfl rfl) (ro rfl (cZ Tryz.call79 (yM zo) ⟨(Ht rfl),trivial⟩) (ro rfl (cB (Ht rfl)) ?_))))))))))))
 refine eX (dQ (Ht rfl) (fun hb=>?_) (fun hb=>?_))
 ·have he : qZ t ≠ 0 := by simp only [Bool.not_eq_true'] at hb; rw [qZ, hb]; decide
  have he1:qZ t = 1:=by simp only [Bool.not_eq_true'] at hb; rw [qZ,hb]; rfl
  refine ts (ro rfl (aC.imp (No ) Hy) (gQ Z_84 (Ht rfl) (Ht rfl) rfl (i:=2) rfl (aK rfl) rfl rfl (ro rfl (cQ (cJ 1)) (eX (bC rfl (fX (fK Tryz.isAgg84 Z_84 rfl (i:=2) rfl rfl) ?_) (fX (eU rfl) ?_))))))
  ·exact (Qd he)
  ·exact (aL he1.symm)
 ·have he : qZ t = 0 := by simp only [Bool.not_eq_false'] at hb; rw [qZ, hb]; rfl
  refine cU (ts (ro rfl (eJ A_80 Z_80 (Ht rfl) (i:=0) rfl rfl rfl) (tY Tryz.call196 (Js hz hs hL1 hL hsh hl1 hl) ⟨(Ht rfl),trivial⟩ rfl (fun B15 _=>(ra rfl (eX (cK (ts (rm rfl (ro rfl (jF U_78 (Ht rfl)) (ro rfl (cX (cJ 0)) (eX (eG ?_)))))))))))))
  refine gN (fun (i : Nat) => i ≤ z.length) (fun (i : Nat) => z.length - i) (fun (i : Nat) => [(2, eS B2 0), (3, eS B3 0), (4, eS B4 0), (6, Is (.slice (some ⟨B15, 0, none⟩) z.length z.length)), (16, Is (.slice (some ⟨B15, 0, none⟩) z.length z.length)), (17, NT .i64 z.length), (18, NT .i64 i)]) (fun (i : Nat) => [box B2 80 [gD z, fN s], box B3 32 [aB (decide (t.a < 0)), aD t.a.natAbs, aB (decide (t.b < 0)), aD t.b.natAbs, aD (du t)], box B4 84 [Is (.slice none 0 0), Is (.slice none 0 0), Is (.slice none 0 0)], mY kJ B15 54 32 5 (eI aS (oT (fun i => tab z.length fun j => t * gm (nD z s) i j) (fun i => tab z.length fun j => gm (nD z s) i j) z.length i))]) 0 (Nat.zero_le _)
   (zS rfl) (aU (fun _ _ _ h=>h) (aU (fun _ _ _ h=>h) (aU (fun _ _ _ h=>h) (aU (dN (by rw [← pR]; exact congrArg _ (uN hOs))) aY)))) (fun i hi=>?_)
  refine ts (ro rfl (gX (Ht rfl) (Ht rfl)) (eX (cK (dQ (Ht rfl) (fun he2=>?_) (fun he2=>?_)))))
  ·simp only [decide_eq_true_eq] at he2
   refine rF 3 (i) rfl (xG he2) (fun v hv=>(cU (cK (eG (ts (ro rfl (fY U_78 Z_54 (Ht rfl) (Ht rfl) rfl zo (by rw [Nat.mul_one,Nat.zero_add])) ?_))))))
   refine ro rfl (nR A_54 Z_54 (Ht rfl) (j:=3) rfl) (ra rfl (eX (ts (rm rfl (ro rfl (pX U_54 (Ht rfl) (i:=4) rfl (show (((tab z.length fun j=>gm (nD z s) i j).map aS).length:Int) = ((z.length:Nat):Int) by rw [List.length_map,dD])) (ro rfl (cX (cJ 0)) (eX (eG ?_))))))))
   refine gN (fun (j : Nat) => j ≤ z.length) (fun (j : Nat) => z.length - j) (fun (j : Nat) => [(2, eS B2 0), (3, eS B3 0), (4, eS B4 0), (6, Is (.slice (some ⟨B15, 0, none⟩) z.length z.length)), (8, Is v), (16, Is (.slice (some ⟨B15, 0, none⟩) z.length z.length)), (17, NT .i64 z.length), (18, NT .i64 i), (23, NT .i64 z.length), (24, NT .i64 j)]) (fun (j : Nat) => [box B2 80 [gD z, fN s], box B3 32 [aB (decide (t.a < 0)), aD t.a.natAbs, aB (decide (t.b < 0)), aD t.b.natAbs, aD (du t)], box B4 84 [Is (.slice none 0 0), Is (.slice none 0 0), Is (.slice none 0 0)], rQ kJ B15 54 32 5 (eI aS (oT (fun i => tab z.length fun j => t * gm (nD z s) i j) (fun i => tab z.length fun j => gm (nD z s) i j) z.length i)) i v, bN 32 5 v ((oT (fun j => t * gm (nD z s) i j) (fun j => gm (nD z s) i j) z.length j).map aS)]) 0 (Nat.zero_le _)
    (zS rfl) (aU (fun _ _ _ h=>h) (aU (fun _ _ _ h=>h) (aU (fun _ _ _ h=>h) (aU (fun _ _ _ h=>h) (aU (eA (by rw [← pR])) aY))))) (fun j hj=>?_)
   refine ts (ro rfl (gX (Ht rfl) (Ht rfl)) (eX (cK (dQ (Ht rfl) (fun hf=>?_) (fun hf=>?_)))))
   ·simp only [decide_eq_true_eq] at hf
    have hrl:=lW (fun j=>t * gm (nD z s) i j) (fun j=>gm (nD z s) i j) z.length j
    haveI f1:aH (gm (nD z s) i j) (201 * L + 301):=hOf.get zo i j
    refine cU (cK (eG (ts (rm rfl (ra rfl (eX (fZ (m:=10) (dp 8 rfl (cX (Ht rfl)) (dp 9 rfl (cX (Ht rfl)) (dp 3 rfl (eJ A_32 Z_32 (Ht rfl) (i:=1) rfl rfl rfl) (dq 29 2 rfl (cZ Tryz.call123 Jp ⟨(Ht rfl),trivial⟩) (dq 30 3 rfl (dR fE (Ht rfl)) (dp 8 rfl (cX (Ht rfl)) (dp 9 rfl (cX (Ht rfl)) (dC 32 5 33 6 rfl (gL U_54 Z_32 (Ht rfl) (Ht rfl) rfl (i:=4) rfl (by simp only [List.length_map,hrl]; omega) rfl) ?_)))))))))))))))
    refine dq 34 7 rfl (sZ A_32 Z_32 (Ht rfl) (i:=4) rfl rfl (dY (vZ hf))) (dC 31 4 35 8 rfl (dA gK K_29 (nX zo) (Ht rfl) ⟨(Ht rfl),trivial⟩) (fV bB rfl (by kernel_rfl) (zF (zF (aJ (aJ (aV (ro rfl (gL U_54 Z_32 (Ht rfl) (Ht rfl) rfl (i:=4) rfl (by simp only [List.length_map,hrl]; omega) rfl) ?_))))))))
    refine rD Z_32 (Ht rfl) (Ht rfl) (El.ag rfl) (i:=4) rfl rfl (by simp only [List.length_map,hrl]; omega) rfl ?_
    refine eX (bP (cY (ro rfl (dV (Ht rfl) (cJ 1) z6) (rm rfl (eX (fU (j + 1) hf zo (zS rfl) (aU (fun _ _ _ h=>h) (aU (fun _ _ _ h=>h) (aU (fun _ _ _ h=>h) (aU (fun _ _ _ h=>h) (aU (eA (by rw [mB,← rS (f:=fun j=>t * gm (nD z s) i j)])) aY)))))))))))
   ·simp only [decide_eq_false_iff_not] at hf
    obtain rfl:j = z.length:=Nat.le_antisymm hj zo
    refine gW rfl (bP (jV 3 4 rfl rfl (by decide) (by simp only [eI,List.length_map,lW]; omega) ?_))
    refine cY (ro rfl (dV (Ht rfl) (cJ 1) z6) (rm rfl (eX (fO [0,1,2,3] rfl (by decide) (fU (i + 1) he2 zo (zS rfl) (aU (fun _ _ _ h=>h) (aU (fun _ _ _ h=>h) (aU (fun _ _ _ h=>h) (aU (dN (by rw [kY,rR,← rS (f:=(fun i=>tab z.length fun j=>t * gm (nD z s) i j))])) aY)))))))))
  ·simp only [decide_eq_false_iff_not] at he2
   obtain rfl:i = z.length:=Nat.le_antisymm hi zo
   rw [rR]
   refine gW rfl (cK (gJ (i:=3) (tt:=6) rfl rfl (lU (s:=5) (M:=(Mn t (nD z s) z.length)) By.1.symm) (cY (ro rfl (eJ A_80 Z_80 (Ht rfl) (i:=0) rfl rfl rfl) (rm rfl (ro rfl (Ct (Ht rfl) (Ht rfl)) (gQ Z_84 (Ht rfl) (Ht rfl) rfl (i:=2) rfl (aK rfl) rfl rfl (ro rfl (cQ (cJ 0)) (eX (bC rfl (fX (fK Tryz.isAgg84 Z_84 rfl (i:=2) rfl rfl) ?_) (fX (eU rfl) ?_)))))))))))
   ·exact (Ly he)
   ·exact (aL he.symm)
end
section
open Go Go.RowKit
theorem Ew {n : Nat} {E : bL} {H : Hp} {d : Option Tmp} {t : TypeId} {pos : String} {af : Array Edge} {g : Option (Nat × Bool)}  :
  aC Tryz.prog n E H ⟨d,.build 23 #[],t,pos,af,g⟩ (eB [Is (.int .i64 0),Is (.int .i64 0),Is (.int .i64 0)]) :=
 fS (parts := []) fun a V w hs => by
  refine ⟨.agg #[(.int .i64 0),(.int .i64 0),(.int .i64 0)],?_,[(.int .i64 0),(.int .i64 0),(.int .i64 0)],rfl,aW (⟨rfl,trivial⟩) (aW (⟨rfl,trivial⟩) (aW (⟨rfl,trivial⟩) (aG)))⟩
  simp [Instr.build,Instr.fill,Sem.run_bind,Result.andThen,eE,O_23,U_23,Z_2]
theorem zV {n : Nat} {E : bL} {H : Hp} {d : Option Tmp} {t : TypeId} {pos : String} {af : Array Edge} {g : Option (Nat × Bool)} {x0 : Operand} {T0 : Ty} [s0 : cI T0 1 false] (h0 : aT E x0 T0) :
  aC Tryz.prog n E H ⟨d,.build 23 #[(0,x0)],t,pos,af,g⟩ (eB [T0,Is (.int .i64 0),Is (.int .i64 0)]) :=
 fS (parts := [(0, x0)]) fun a V w hs => by
  have p0:=h0 n V a hs
  generalize e0:a.eval x0 = v0 at p0
  have q0:=(s0.ok v0 V p0).2.2 rfl
  refine ⟨.agg #[v0,(.int .i64 0),(.int .i64 0)],?_,[v0,(.int .i64 0),(.int .i64 0)],rfl,aW (⟨p0,q0⟩) (aW (⟨rfl,trivial⟩) (aW (⟨rfl,trivial⟩) (aG)))⟩
  simp [e0,Instr.build,Instr.fill,Sem.run_bind,Result.andThen,eE,q0.cells,O_23,U_23,Z_2]
theorem Cq {n : Nat} {E : bL} {H : Hp} {d : Option Tmp} {t : TypeId} {pos : String} {af : Array Edge} {g : Option (Nat × Bool)} {x0 x2 : Operand} {T0 T2 : Ty} [s0 : cI T0 1 false] (h0 : aT E x0 T0) [s2 : cI T2 1 false] (h2 : aT E x2 T2) :
  aC Tryz.prog n E H ⟨d,.build 23 #[(0,x0),(2,x2)],t,pos,af,g⟩ (eB [T0,Is (.int .i64 0),T2]) :=
 fS (parts := [(0, x0), (2, x2)]) fun a V w hs => by
  have p0:=h0 n V a hs
  generalize e0:a.eval x0 = v0 at p0
  have q0:=(s0.ok v0 V p0).2.2 rfl
  have p2:=h2 n V a hs
  generalize e2:a.eval x2 = v2 at p2
  have q2:=(s2.ok v2 V p2).2.2 rfl
  refine ⟨.agg #[v0,(.int .i64 0),v2],?_,[v0,(.int .i64 0),v2],rfl,aW (⟨p0,q0⟩) (aW (⟨rfl,trivial⟩) (aW (⟨p2,q2⟩) (aG)))⟩
  simp [e0,e2,Instr.build,Instr.fill,Sem.run_bind,Result.andThen,eE,q0.cells,q2.cells,O_23,U_23,Z_2]
end
section
open Go Go.RowKit
theorem Nw  : bA Tryz.prog 22 [] (aB true):=by
 refine bA.intro Tryz.func22 rfl Tryz.ntmps22 rfl (fun cx=>(ts (ro rfl (cQ cV) (eX (ts (ro rfl (Cq cV cV) (rn rfl (eW (Ts:=[Is (.int .i64 0),Is (.int .i64 0),Is (.int .i64 0)]) O_23 rfl (fun V=>aW zd (aW zd (aW zd (aG))))) fun B1=>(gQ Z_23 (Ht rfl) (Ht rfl) rfl (i:=0) rfl (aK rfl) rfl rfl (eX (cK (Y.D_start (m:=18) [] (bY (Ei:=[]) rfl rfl bX rfl rfl (dX rfl (zV cV)) (bY (Ei:=[]) rfl rfl bX rfl rfl (dX rfl (zV cV)) ?_)))))))))))))
 refine bY (Ei:=[(12,_),(13,_)]) rfl rfl (bQ (bZ 0 rfl rfl) (bQ (bZ 1 rfl rfl) bX)) rfl rfl (dX rfl (cD (xs:=[.tmp 12,.tmp 13]) U_77 Z_23 O_23 (cW (Ht rfl) (cW (Ht rfl) cG)) rfl rfl rfl)) (bY (Ei:=[(14,_)]) rfl rfl (bQ (bZ 2 rfl rfl) bX) rfl rfl (dX rfl (cZ Tryz.call50 (wZ (l:=[Xf,Xf]) (by decide)) ⟨(Ht rfl),trivial⟩)) (bY (Ei:=[]) rfl rfl bX rfl rfl (dX rfl (Ew )) (bY (Ei:=[(1,_)]) rfl rfl (bQ (bJ rfl rfl) bX) rfl rfl (dX rfl (eJ A_23 Z_23 (Ht rfl) (i:=0) rfl rfl rfl)) ?_)))
 refine bY (Ei:=[(16,_),(17,_)]) rfl rfl (bQ (bZ 4 rfl rfl) (bQ (bZ 5 rfl rfl) bX)) rfl rfl (dX rfl (cD (xs:=[.tmp 16,.tmp 17]) U_77 Z_23 O_23 (cW (Ht rfl) (cW (Ht rfl) cG)) rfl rfl rfl)) (bY (Ei:=[(1,_)]) rfl rfl (bQ (bJ rfl rfl) bX) rfl rfl (dX rfl (eJ A_23 Z_23 (Ht rfl) (i:=0) rfl rfl rfl)) (bY (Ei:=[]) rfl rfl bX rfl rfl (dX rfl (Ew )) (bY (Ei:=[(19,_),(20,_)]) rfl rfl (bQ (bZ 7 rfl rfl) (bQ (bZ 8 rfl rfl) bX)) rfl rfl (dX rfl (cD (xs:=[.tmp 19,.tmp 20]) U_77 Z_23 O_23 (cW (Ht rfl) (cW (Ht rfl) cG)) rfl rfl rfl)) ?_)))
 refine bY (Ei:=[(18,_),(21,_)]) rfl rfl (bQ (bZ 6 rfl rfl) (bQ (bZ 9 rfl rfl) bX)) rfl rfl (dX rfl (cD (xs:=[.tmp 18,.tmp 21]) U_181 Tryz.sizeOf77 Tryz.zeroValue77 (cW (Ht rfl) (cW (Ht rfl) cG)) rfl rfl rfl)) (bY (Ei:=[(22,_)]) rfl rfl (bQ (bZ 10 rfl rfl) bX) rfl rfl (dX rfl (cZ Tryz.call99 (Hi (m:=[[Qg,Gs],[Gs,Qg]]) (by decide) (by intro r hr; simp at hr; rcases hr with rfl | rfl <;> decide)) ⟨(Ht rfl),trivial⟩)) ?_)
 refine bY (Ei:=[(15,_),(23,_)]) rfl rfl (bQ (bZ 3 rfl rfl) (bQ (bZ 11 rfl rfl) bX)) rfl rfl (dX rfl (cZ Tryz.call98 (eQ (Jo (z:=sS) (s:=wN) (L:=2) Et (by decide) (by decide) (by decide)) Sz) ⟨(Ht rfl),(Ht rfl),trivial⟩)) (bY (Ei:=[(24,_)]) rfl rfl (bQ (bZ 12 rfl rfl) bX) rfl rfl (dX rfl (cX (Ht rfl))) (bY (Ei:=[(11,_)]) rfl rfl (bQ (bZ 13 rfl rfl) bX) rfl rfl (dX rfl (dK (Ht rfl) rfl)) (bY (Ei:=[(11,_)]) rfl rfl (bQ (bZ 13 rfl rfl) bX) rfl rfl (dX rfl (dK (Ht rfl) rfl)) ?_)))
 refine Y.D_newp (Ei:=[]) (fun bb=>box bb 80 [gD sS,fN wN]) 17 rfl rfl rfl bX rfl rfl (by kernel_rfl) (eW (Ts:=[Is (.slice none 0 0),Is (.slice none 0 0)]) O_80 rfl (fun V=>aW zd (aW zd (aG)))) (Y.D_putN (Ei:=[(25,_)]) 16 rfl rfl rfl rfl rfl rfl (bQ (bZ 14 rfl rfl) bX) (fun bb=>mG Z_80 (Ht rfl) (Ht rfl) rfl (i:=0) rfl (aK rfl) rfl rfl) (Y.D_done bB rfl (by kernel_rfl) rfl (by simp [Y.okP]) rfl rfl (bU (bU (bU (bU (bU (bU (bU (bU (bU (bU (bU (bU (bU (bU (bU (bU (Y.F_newp (fun B2=>Y.F_putN (Y.F_nil ?_)))))))))))))))))))))
 refine ra rfl (eX (cK (Y.D_start (m:=8) [] (bY (Ei:=[(2,_)]) rfl rfl (bQ (bJ rfl rfl) bX) rfl rfl (dX rfl (eJ A_80 Z_80 (Ht rfl) (i:=1) rfl rfl rfl)) (bY (Ei:=[]) rfl rfl bX rfl rfl (dX rfl (cZ K_36 (mT (n:=290) (by decide) (by decide)) ⟨(cJ 290),trivial⟩)) (bY (Ei:=[(28,_),(29,_)]) rfl rfl (bQ (bZ 0 rfl rfl) (bQ (bZ 1 rfl rfl) bX)) rfl rfl (dX rfl (cZ Tryz.call100 (eQ (Vz (z:=sS) (s:=wN) (t:=Qi.ofInt 290) (L:=2) Et Je Jf (by decide) (by decide) Jg (by decide) (by decide)) Ta) ⟨(Ht rfl),(Ht rfl),trivial⟩)) ?_))))))
 refine bY (Ei:=[(30,_)]) rfl rfl (bQ (bZ 2 rfl rfl) bX) rfl rfl (dX rfl (cX (Ht rfl))) (bY (Ei:=[(27,_)]) rfl rfl (bQ (bZ 3 rfl rfl) bX) rfl rfl (dX rfl (dK (Ht rfl) rfl)) (bY (Ei:=[(27,_)]) rfl rfl (bQ (bZ 3 rfl rfl) bX) rfl rfl (dX rfl (dK (Ht rfl) rfl)) (Y.D_newp (Ei:=[]) (fun bb=>box bb 84 [gD sS,fN wN,fN wX]) 7 rfl rfl rfl bX rfl rfl (by kernel_rfl) (eW (Ts:=[Is (.slice none 0 0),Is (.slice none 0 0),Is (.slice none 0 0)]) O_84 rfl (fun V=>aW zd (aW zd (aW zd (aG))))) ?_)))
 refine Y.D_putN (Ei:=[(31,_)]) 6 rfl rfl rfl rfl rfl rfl (bQ (bZ 4 rfl rfl) bX) (fun bb=>mG Z_84 (Ht rfl) (Ht rfl) rfl (i:=0) rfl (aK rfl) rfl rfl) (Y.D_done bB rfl (by kernel_rfl) rfl (by simp [Y.okP]) rfl rfl (bU (bU (bU (bU (bU (bU (Y.F_newp (fun B4=>Y.F_putN (Y.F_nil ?_))))))))))
 refine ra rfl (eX (ts (ro rfl (eJ Tryz.isAgg84 Z_84 (Ht rfl) (i:=2) rfl rfl rfl) (ro rfl (cZ Tryz.call42 (eQ (Oa (z:=sS) (s:=wN) (c:=wX) (i:=((2:Nat):Int)) (j:=((2:Nat):Int)) Sx (by rw [Er.1]; decide)) Vq) ⟨(Ht rfl),(cJ 2),(cJ 2),trivial⟩) ?_))))
 refine rm rfl (ro rfl (dK (Ht rfl) rfl) (ro rfl (dK (Ht rfl) rfl) (rn rfl (eW (Ts:=[Is (.bool false),Is (.slice none 0 0),Is (.bool false),Is (.slice none 0 0),Is (.slice none 0 0)]) O_32 rfl (fun V=>aW zd (aW zd (aW zd (aW zd (aW zd (aG))))))) fun B6=>(gQ Z_32 (Ht rfl) (Ht rfl) rfl (i:=3) rfl (aK rfl) rfl rfl (ra rfl (eX (cK (Y.D_start (m:=9) [] (bY (Ei:=[(4,_)]) rfl rfl (bQ (bJ rfl rfl) bX) rfl rfl (dX rfl (eJ Tryz.isAgg84 Z_84 (Ht rfl) (i:=2) rfl rfl rfl)) ?_)))))))))
 refine bY (Ei:=[]) rfl rfl bX rfl rfl (dX rfl (cZ K_36 (mT (n:=0) (by decide) (by decide)) ⟨(cJ 0),trivial⟩)) (bY (Ei:=[]) rfl rfl bX rfl rfl (dX rfl (cZ K_36 (mT (n:=290) (by decide) (by decide)) ⟨(cJ 290),trivial⟩)) (bY (Ei:=[(39,_),(40,_),(41,_)]) rfl rfl (bQ (bZ 0 rfl rfl) (bQ (bZ 1 rfl rfl) (bQ (bZ 2 rfl rfl) bX))) rfl rfl (dX rfl (cZ Tryz.call44 (eQ (Jk (z:=sS) (s:=wN) (c:=wX) (g:=Qi.ofInt 0) (t0:=Qi.ofInt 290) (L:=1000) (Et.le (by decide)) (Je.le (by decide)) Vs (Vr.le (by decide)) (Jf.le (by decide)) (by decide) (by decide) Jg Er (by decide)) Sy) ⟨(Ht rfl),(Ht rfl),(Ht rfl),trivial⟩)) ?_))
 refine bY (Ei:=[(42,_)]) rfl rfl (bQ (bZ 3 rfl rfl) bX) rfl rfl (dX rfl (cX (Ht rfl))) (bY (Ei:=[(38,_)]) rfl rfl (bQ (bZ 4 rfl rfl) bX) rfl rfl (dX rfl (dK (Ht rfl) rfl)) (bY (Ei:=[(38,_)]) rfl rfl (bQ (bZ 4 rfl rfl) bX) rfl rfl (dX rfl (dK (Ht rfl) rfl)) (Y.D_newp (Ei:=[]) (fun bb=>box bb 32 [aB (decide ((Qi.ofInt 4).a < 0)),aD (Qi.ofInt 4).a.natAbs,aB (decide ((Qi.ofInt 4).b < 0)),aD (Qi.ofInt 4).b.natAbs,aD (du (Qi.ofInt 4))]) 8 rfl rfl rfl bX rfl rfl (by kernel_rfl) (eW (Ts:=[Is (.bool false),Is (.slice none 0 0),Is (.bool false),Is (.slice none 0 0),Is (.slice none 0 0)]) O_32 rfl (fun V=>aW zd (aW zd (aW zd (aW zd (aW zd (aG))))))) ?_)))
 refine Y.D_putN (Ei:=[(43,_)]) 7 rfl rfl rfl rfl rfl rfl (bQ (bZ 5 rfl rfl) bX) (fun bb=>mG Z_32 (Ht rfl) (Ht rfl) rfl (i:=0) rfl (aK rfl) rfl rfl) (Y.D_done bB rfl (by kernel_rfl) rfl (by simp [Y.okP]) rfl rfl (bU (bU (bU (bU (bU (bU (bU (Y.F_newp (fun B8=>Y.F_putN (Y.F_nil ?_)))))))))))
 refine ra rfl (eX (ts (rm rfl (ro rfl (kK (Ht rfl) cV) (rm rfl (fQ rfl rfl (eK rfl rfl (Ht rfl) (fun h=>cX (Ht rfl))) (fQ rfl rfl (eK rfl rfl (Ht rfl) (fun h=>kK (fJ rfl h) cV)) (ro rfl (dO (Ht rfl) (fun h=>(fJ rfl h))) (rm rfl (fQ rfl rfl (eK rfl rfl (Ht rfl) (fun h=>cX (Ht rfl))) (fQ rfl rfl (eK rfl rfl (Ht rfl) (fun h=>kK (fJ rfl h) cV)) (ro rfl (dO (Ht rfl) (fun h=>(fJ rfl h))) (rm rfl (fQ rfl rfl (eK rfl rfl (Ht rfl) (fun h=>cX (Ht rfl))) (fQ rfl rfl (eK rfl rfl (Ht rfl) (fun h=>kK (fJ rfl h) cV)) ?_)))))))))))))))
 refine ro rfl (dO (Ht rfl) (fun h=>(fJ rfl h))) (rm rfl (fQ rfl rfl (eK rfl rfl (Ht rfl) (fun h=>eJ A_32 Z_32 (Ht rfl) (i:=3) rfl rfl rfl)) (fQ rfl rfl (eK rfl rfl (Ht rfl) (fun h=>cZ Tryz.call92 (Da (x:=Qi.ofInt 10875) (L:=2) (hx:=(@fitInt 10875).le (by decide)) (by decide)) ⟨(fJ rfl h),trivial⟩)) (fQ rfl rfl (eK rfl rfl (Ht rfl) (fun h=>Ds (fJ rfl h) (aT.cS (l:=[49,48,56,55,53]) rfl))) (ro rfl (dO (Ht rfl) (fun h=>(fJ rfl h))) (rm rfl (fQ rfl rfl (eK rfl rfl (Ht rfl) (fun h=>eJ A_32 Z_32 (Ht rfl) (i:=4) rfl rfl rfl)) ?_)))))))
 refine fQ rfl rfl (eK rfl rfl (Ht rfl) (fun h=>cZ Tryz.call92 (Da (x:=Qi.ofInt 4) (L:=2) (hx:=(@fitInt 4).le (by decide)) (by decide)) ⟨(fJ rfl h),trivial⟩)) (fQ rfl rfl (eK rfl rfl (Ht rfl) (fun h=>Ds (fJ rfl h) (aT.cS (l:=[52]) rfl))) (ro rfl (dO (Ht rfl) (fun h=>(fJ rfl h))) (ra rfl (eX (fW rfl (fX (eU rfl) ?_))))))
 exact (fC (by rw [Vt,Vu]; rfl))
end
section
open Go Go.RowKit
theorem Qi.zero_div (y:Qi):Qi.zero / y = Qi.zero:=by rw [Qi.div_def,Qi.zero_mul']
theorem Dx {x:Qi} (h:iC x = true):x.im = 0 ∧ x.re ≠ 0:=by
 simp only [iC,decide_eq_true_eq] at h
 exact ⟨Qi.b_zero.1 h.1,fun e=>by have:=Qi.a_zero.2 e; omega⟩
end
section
open Go Go.RowKit
namespace Qi
theorem zT {x:Qi}:0 ≤ x.a ↔ 0 ≤ x.re:=by
 have hk:0 < x.den / x.re.den:=Nat.div_pos (Nat.le_of_dvd x.den_pos (Nat.dvd_lcm_left _ _)) x.re.den_pos
 rw [← Rat.num_nonneg]
 show 0 ≤ x.re.num * ((x.den / x.re.den:Nat):Int) ↔ _
 generalize x.den / x.re.den = k at hk
 constructor
 ·intro h
  exact Int.nonneg_of_mul_nonneg_left h zo
 ·intro h; exact Int.mul_nonneg h zo
theorem a_neg {x:Qi}:x.a < 0 ↔ x.re < 0:=by
 have:=@zT x
 constructor
 ·intro h; rcases Rat.not_le.1 (fun k=>by have:=this.2 k; omega) with h; exact h
 ·intro h; exact Int.not_le.1 fun k=>Rat.not_le.2 h (this.1 k)
theorem a_pos {x:Qi}:0 < x.a ↔ 0 < x.re:=by
 have h1:=@zT x; have h2:=@a_zero x
 constructor
 ·intro h
  have h3:0 ≤ x.re:=h1.1 zo
  have h4:x.re ≠ 0:=fun e=>by have:=h2.2 e; omega
  exact Rat.lt_of_le_of_ne h3 (Ne.symm h4)
 ·intro h
  have h3:0 ≤ x.a:=h1.2 (by grind)
  have h4:x.a ≠ 0:=fun e=>by have:=h2.1 e; grind
  omega
theorem sub_im0 {x y:Qi} (hx:x.b = 0) (hy:y.b = 0):(x - y).im = 0:=by
 show x.im - y.im = 0
 rw [b_zero.1 hx,b_zero.1 hy]; grind
end Qi
theorem Jz {m n:Int} (h1:m < 0 ↔ n < 0) (h2:0 < m ↔ 0 < n):fA m 0 = fA n 0:=by
 unfold fA
 by_cases a:m < 0
 ·rw [if_pos a,if_pos (h1.1 a)]
 ·rw [if_neg a, if_neg (fun k => a (h1.2 k))]
  by_cases b:0 < m
  ·rw [if_pos b,if_pos (h2.1 b)]
  ·rw [if_neg b,if_neg (fun k=>b (h2.2 k))]
theorem Ka (m n:Int):fA m n = fA (m - n) 0:=by
 unfold fA
 by_cases a:m < n
 ·rw [if_pos a,if_pos zo]
 ·rw [if_neg a, if_neg (by omega : ¬ m - n < 0)]
  by_cases b:n < m
  ·rw [if_pos b,if_pos zo]
  ·rw [if_neg b,if_neg zo]
def mE (x y:Qi):Int:=fA (x - y).a 0
theorem yN {x y:Qi}:mE x y < 0 ↔ x.re < y.re:=by
 rw [mE,Jy,Qi.a_neg]; show x.re - y.re < 0 ↔ _; constructor <;> intro h <;> grind
theorem Fi {x y:Qi}:0 < mE x y ↔ y.re < x.re:=by
 rw [mE,vN,Qi.a_pos]; show 0 < x.re - y.re ↔ _; constructor <;> intro h <;> grind
theorem On {x y:Qi}:mE x y ≤ 0 ↔ x.re ≤ y.re:=by
 have:=@Fi x y
 constructor
 ·intro h; exact Rat.not_lt.1 fun k=>by have:=this.2 k; omega
 ·intro h; exact Int.not_lt.1 fun k=>Rat.not_lt.2 h (this.1 k)
theorem lM {x y:Qi} (hx:x.b = 0) (hy:y.b = 0):nK x y = mE x y:=by
 have e2:fA (x.b * y.den) (y.b * x.den) = 0:=by rw [hx,hy]; simp [fA]
 have h0 : x - y = Qi.mk' (x.a * y.den + -y.a * x.den) (x.b * y.den + -y.b * x.den) (x.den * y.den) := by
  obtain ⟨n1,n2,n3⟩:=Qi.neg_a y
  rw [Qi.sub_def,← Qi.mk_add,n1,n2,n3]
 obtain ⟨k,hk,_,h2,_⟩:=Qi.mk_scale (x.a * y.den + -y.a * x.den) (x.b * y.den + -y.b * x.den) (Nat.mul_pos x.den_pos y.den_pos)
 rw [← h0] at h2
 have e1 : fA (x.a * y.den) (y.a * x.den) = mE x y := by
  rw [Ka,mE]
  have e:x.a * y.den - y.a * x.den = (x - y).a * k:=by rw [← h2,Int.neg_mul]; omega
  rw [e]
  refine Jz ?_ ?_
  ·constructor
   ·intro h; exact Int.not_le.1 fun g=>by have:=Int.mul_nonneg g (by omega:(0:Int) ≤ k); omega
   ·intro h; exact Int.mul_neg_of_neg_of_pos h zo
  ·constructor
   ·intro h; exact Int.not_le.1 fun g=>by have:=Int.mul_nonpos_of_nonpos_of_nonneg g (by omega:(0:Int) ≤ k); omega
   ·intro h; exact Int.mul_pos h zo
 unfold nK
 rw [e1,e2]
 by_cases h:mE x y ≠ 0
 ·rw [if_pos h]
 ·rw [if_neg h]; exact (Decidable.not_not.1 h).symm
def wV (x y:Qi):Int:=if fA (x - y).a 0 ≠ 0 then fA (x - y).a 0 else fA (x - y).imp.a 0
theorem tB {x y:Qi} (hx:x.b = 0) (hy:y.b = 0):wV x y = mE x y:=by
 have e:(x - y).imp.a = 0:=Qi.a_zero.2 (Qi.sub_im0 hx hy)
 unfold wV mE
 rw [e]
 by_cases h:fA (x - y).a 0 ≠ 0
 ·rw [if_pos h]
 ·rw [if_neg h,Decidable.not_not.1 h]; rfl
abbrev eF (l:List (Qi × Qi)) (i:Nat):Qi:=(l.getD i (Qi.zero,Qi.zero)).1
abbrev eV (l:List (Qi × Qi)) (i:Nat):Qi:=(l.getD i (Qi.zero,Qi.zero)).2
structure Ra (l:List (Qi × Qi)) (f:Qi):Prop where
 real:∀ i,i < l.length → (eF l i).b = 0 ∧ (eV l i).b = 0
 up:∀ i,0 < i → i < l.length → (eF l (i - 1)).re < (eF l i).re
 fr:f.b = 0
theorem Uu {x:Qi} (h:iC x = true):x.b = 0:=by simp only [iC,decide_eq_true_eq] at h; exact h.1
theorem Ra.mono {l : List (Qi × Qi)} {f : Qi} (h : Ra l f) {i : Nat} : ∀ {j : Nat}, i < j → j < l.length → (eF l i).re < (eF l j).re
 | 0,h1,_=>by omega
 | j + 1, h1, h2 => by
  have h3:=h.up (j + 1) zo h2
  rw [Nat.add_sub_cancel] at h3
  by_cases e:i = j
  ·rw [e]; exact h3
  ·have := h.mono (i := i) (j := j) zo zo
   grind
theorem Qi.sub_ne {x y : Qi} (h : x.re ≠ y.re) : x - y ≠ Qi.zero := fun e => h (by
 have:(x - y).re = 0:=by rw [e]; rfl
 have h2:x.re - y.re = 0:=this
 grind)
def Vi (l:List (Qi × Qi)) (L:Nat):Prop:=∀ e,e ∈ l → aH e.1 L ∧ aH e.2 L
theorem Vi.get {l:List (Qi × Qi)} {L:Nat} (h:Vi l L) (hL:1 ≤ L) (i:Nat):aH (eF l i) L ∧ aH (eV l i) L:=by
 by_cases hi:i < l.length
 ·have e : l.getD i (Qi.zero, Qi.zero) = l[i] := by simp [List.getD, hi]
  show aH (l.getD i _).1 L ∧ aH (l.getD i _).2 L
  rw [e]; exact h _ (List.getElem_mem hi)
 ·have e : l.getD i (Qi.zero, Qi.zero) = (Qi.zero, Qi.zero) := by simp [List.getD, List.getElem?_eq_none (Nat.le_of_not_lt hi)]
  show aH (l.getD i _).1 L ∧ aH (l.getD i _).2 L
  rw [e]; exact ⟨aH.zero hL,aH.zero hL⟩
end
section
open Go Go.RowKit
theorem Ez {x:Qi} {L:Nat} [hx:aH x L] (h:L ≤ 8796093022208):bA Tryz.prog 94 [aS x] (aB (iC x)):=by
 refine bA.intro Tryz.func94 rfl Tryz.ntmps94 rfl (fun cx=>(ts (rn rfl (fG (Ht rfl)) fun B1=>(ro rfl (cQ cV) (eX (cK (fZ (m:=5) (dp 1 rfl (eJ A_32 Z_32 (Ht rfl) (i:=0) rfl rfl rfl) (dq 3 0 rfl (cZ K_35 qK ⟨(Ht rfl),trivial⟩) (dq 4 1 rfl (cX (Ht rfl)) (C.D_step (Ei:=[(1,_),(5,_)]) rfl rfl (bV (bK rfl rfl) (bV (bG 2 rfl rfl) bW)) (eK rfl rfl (Ht rfl) (fun h=>eJ A_32 Z_32 (Ht rfl) (i:=0) rfl rfl rfl)) (C.D_step (Ei:=[(5,_)]) rfl rfl (bV (bG 2 rfl rfl) bW) (eK rfl rfl (Ht rfl) (fun h=>cZ K_36 (mT (n:=0) (by decide) (by decide)) ⟨(cJ 0),trivial⟩)) ?_))))))))))))
 refine fV bB rfl (by kernel_rfl) (zF (aJ (aV (fQ rfl rfl (eK rfl rfl (Ht rfl) (fun h=>cZ K_30 (oG (x:=x) (y:=Qi.ofInt 0) (L:=L) (M:=1) (hy:=(aH.zero (Nat.le_refl 1):aH (Qi.ofInt 0) 1)) zo) ⟨(fJ rfl h),(fJ rfl h),trivial⟩)) (fQ rfl rfl (eK rfl rfl (Ht rfl) (fun h=>qS (fJ rfl h) cV)) (ro rfl (dO (Ht rfl) (fun h=>(fJ rfl h))) (ra rfl (eX (fW rfl (fX (eU rfl) ?_))))))))))
 exact (fC (Dw x))
theorem uF {x y:Qi} {L M:Nat} [hx:aH x L] [hy:aH y M] (h:L + 3 * M + 2 ≤ 17592186044415):bA Tryz.prog 80 [aS x,aS y] (aS (x / y)):=by
 refine bA.intro Tryz.func80 rfl Tryz.ntmps80 rfl (fun cx=>(ts (rn rfl (fG (Ht rfl)) fun B2=>(rn rfl (fG (Ht rfl)) fun B3=>(rn rfl (eW (Ts:=[Is (.bool false),Is (.slice none 0 0),Is (.bool false),Is (.slice none 0 0),Is (.slice none 0 0)]) O_32 rfl (fun V=>aW zd (aW zd (aW zd (aW zd (aW zd (aG))))))) fun B4=>(eX (ts (ro rfl (eJ A_32 Z_32 (Ht rfl) (i:=0) rfl rfl rfl) (ro rfl (eJ A_32 Z_32 (Ht rfl) (i:=1) rfl rfl rfl) ?_)))))))))
 refine ro rfl (cZ Tryz.call142 (Ri zo) ⟨(Ht rfl),(Ht rfl),trivial⟩) (rm rfl (ro rfl (dK (Ht rfl) rfl) (ro rfl (dK (Ht rfl) rfl) (rn rfl (eW (Ts:=[Is (.bool false),Is (.slice none 0 0),Is (.bool false),Is (.slice none 0 0),Is (.slice none 0 0)]) O_32 rfl (fun V=>aW zd (aW zd (aW zd (aW zd (aW zd (aG))))))) fun B5=>(gQ Z_32 (Ht rfl) (Ht rfl) rfl (i:=3) rfl (aK rfl) rfl rfl (ra rfl (eX ?_)))))))
 refine ts (ro rfl (eJ A_32 Z_32 (Ht rfl) (i:=3) rfl rfl rfl) (gQ Z_32 (Ht rfl) (Ht rfl) rfl (i:=2) rfl (aK rfl) rfl rfl (eX ?_)))
 exact fW rfl (fK A_32 Z_32 rfl (i:=2) rfl rfl)
end
section
open Go Go.RowKit
theorem yH {x y:Qi} {L M:Nat} [hx:aH x L] [hy:aH y M] (h:L + M + 1 ≤ 17592186044415):bA Tryz.prog 85 [QT x,QT y] (aN .i64 (wV x y)):=by
 refine bA.intro Tryz.func85 rfl Tryz.ntmps85 rfl (fun cx=>(ts (rn rfl (fG (Ht rfl)) fun B2=>(rn rfl (fG (Ht rfl)) fun B3=>(ro rfl (cQ (cJ 0)) (eX (ts (ro rfl (eJ A_40 Z_40 (Ht rfl) (i:=0) rfl rfl rfl) (ro rfl (eJ A_40 Z_40 (Ht rfl) (i:=1) rfl rfl rfl) (ro rfl (cZ Tryz.call88 (vK zo) ⟨(Ht rfl),(Ht rfl),trivial⟩) (rn rfl (eW (Ts:=[Is (.bool false),Is (.slice none 0 0),Is (.bool false),Is (.slice none 0 0),Is (.slice none 0 0)]) O_40 rfl (fun V=>aW zd (aW zd (aW zd (aW zd (aW zd (aG))))))) fun B5=>?_)))))))))))
 refine gQ Z_40 (Ht rfl) (Ht rfl) rfl (i:=2) rfl (aK rfl) rfl rfl (eX (cK (ts (ro rfl (eJ A_40 Z_40 (Ht rfl) (i:=2) rfl rfl rfl) (ro rfl (cZ K_90 pI ⟨(Ht rfl),trivial⟩) (ra rfl (eX (ts (rm rfl (ro rfl (nS (Ht rfl) cV) (eX (dQ (Ht rfl) (fun hb=>?_) (fun hb=>?_)))))))))))))
 ·have hb2 : fA (x - y).a 0 ≠ 0 := by simpa using hb
  refine ts (rm rfl (ra rfl (eX (fW rfl (fX (eU rfl) ?_)))))
  exact (aL (by rw [wV,if_pos hb2]))
 ·have hb2 : ¬ fA (x - y).a 0 ≠ 0 := by simpa using hb
  refine cU (ts (ro rfl (eJ A_40 Z_40 (Ht rfl) (i:=2) rfl rfl rfl) (ro rfl (cZ Tryz.call180 (Rn (L:=L + M + 1) zo) ⟨(Ht rfl),trivial⟩) (ro rfl (cZ K_90 pI ⟨(Ht rfl),trivial⟩) (ra rfl (eX (fW rfl (fX (eU rfl) ?_))))))))
  exact (aL (by rw [wV,if_neg hb2]))
end
section
open Go Go.RowKit
def Im (k:FloatKind) (Q:Nat → Prop):Ty:=⟨fun v _=>∃ b,v = .float k b ∧ Q b,fun h _=>h⟩
def Il (k:FloatKind) (Q:Nat → Nat → Prop):Ty:=⟨fun v _=>∃ a b,v = .complex k a b ∧ Q a b,fun h _=>h⟩
abbrev xY (k:FloatKind) (b:Nat):Ty:=Im k (fun x=>x = b)
instance shFlT (k:FloatKind) (Q:Nat → Prop):cI (Im k Q) 1 false:=eH fun v V h=>by obtain ⟨b,rfl,_⟩:=h; trivial
instance shCxT (k:FloatKind) (Q:Nat → Nat → Prop):cI (Il k Q) 1 false:=eH fun v V h=>by obtain ⟨a,b,rfl,_⟩:=h; trivial
theorem aT.cF {E:bL} {k:FloatKind} {b:Nat}:aT E (.const (.float k b)) (xY k b):=fun _ _ _ _=>⟨b,rfl,rfl⟩
theorem jQ {k:FloatKind} {Q R:Nat → Prop} (h:∀ b,Q b → R b):∀ v V,(Im k Q).p v V → (Im k R).p v V:=fun _ _ ⟨b,e,q⟩=>⟨b,e,h b q⟩
theorem Ot {k:FloatKind} {Q R:Nat → Nat → Prop} (h:∀ a b,Q a b → R a b):∀ v V,(Il k Q).p v V → (Il k R).p v V:=fun _ _ ⟨a,b,e,q⟩=>⟨a,b,e,h a b q⟩
def oC (s k : FloatKind) (p a : Nat) : Prop :=
 if s = k then a = p else match s.decode p with
 | .nan _ _=>∃ t,a = (Question.nanConv k p).cut t
 | .infinity n=>a = k.encode (.infinity n)
 | .number n m e=>if (k.decode (k.encode (.number n m e))).isInfinity then ∃ t,a = (Question.floatToFloat p).cut t else a = k.encode (.number n m e)
structure zK (P:Program) (f:FuncId) (e:Array Value → Sem Value):Prop where
 run:∀ args w,(callFunc f args).run P w = ((e args).run P w).andThen fun v w'=>.ok (.value v) w'
@[irreducible] def Ix (a:Nat):Nat:=a % 9223372036854775808
theorem Ep (a:Nat):Ix a = a % 9223372036854775808:=by unfold Ix; rfl
section
variable {P:Program} {R:fM} {cx:Cx} {n:Nat} {k:List It} {E:bL} {H:Hp} {ops:Array Oper} {o:Oper} {rest:List Oper}
theorem Bs {T : Ty} (h : ∀ (a : Act) (V : aM) (w : World), cL n E V a → ∃ v w', (execOp a.eval o).run P w = .ok (.value v) w' ∧ (∀ cx H, eR cx V H w → eR cx V H w') ∧ T.p v V) : aC P n E H o T :=
 fun cx X a w V hi hs K Q hK => by
  obtain ⟨v,w',h1,h3,h2⟩:=h a V w hs
  simp only [Oper.wp,h1,Oper.upon_value]
  exact hK v w' V (h3 _ _ hi) (kP.refl V) h2
theorem qV (s k:FloatKind) (p:Nat) (w:World):∃ a w',(Conv.floatToFloat s p k).run P w = .ok (.float k a) w' ∧ (∀ cx V H,eR cx V H w → eR cx V H w') ∧ oC s k p a:=by
 unfold Conv.floatToFloat oC
 split
 ·exact ⟨p,w,rfl,fun _ _ _ h=>h,rfl⟩
 ·cases s.decode p with
  | nan a b=>exact ⟨(Question.nanConv k p).cut (w.tape w.drawn (.nanConv k p)),w.drew,by simp [Sem.run_bind,run_choose_drew,Question.forced,Result.andThen],fun _ _ _ h=>h.drew,_,rfl⟩
  | infinity a=>exact ⟨_,w,rfl,fun _ _ _ h=>h,rfl⟩
  | number a b c =>
   simp only
   split
   ·exact ⟨(Question.floatToFloat p).cut (w.tape w.drawn (.floatToFloat p)),w.drew,by simp [Sem.run_bind,run_choose_drew,Question.forced,Result.andThen],fun _ _ _ h=>h.drew,_,rfl⟩
   ·exact ⟨_,w,rfl,fun _ _ _ h=>h,rfl⟩
section
variable {d:Option Tmp} {t tx ty:TypeId} {pos:String} {af:Array Edge} {g:Option (Nat × Bool)}
theorem qR {x y : Operand} {k : FloatKind} {Q S : Nat → Prop} {tys : Array TypeId} (hx : aT E x (Im k Q)) (hy : aT E y (Im k S)) :
  aC P n E H ⟨d,.call ⟨.builtin .complex,#[x,y],tys⟩,t,pos,af,g⟩ (Il k (fun a b=>Q a ∧ S b)) :=
 cC fun c V w hs => by
  obtain ⟨a,ex,qa⟩:=hx n V c hs
  obtain ⟨b,ey,qb⟩:=hy n V c hs
  have e : ∀ tt, Builtin.complex_ tys tt #[.float k a, .float k b] = pure (.complex k a b) := fun tt => by
   have : Builtin.complex_ tys tt #[.float k a, .float k b] = (if k = k then pure (.complex k a b) else stuck "complex: parts of different kinds") := rfl
   rw [this,if_pos rfl]
  exact ⟨.complex k a b,by simp [execOp,resolve,ex,ey,invoke,builtin,e,Sem.run_bind,Result.andThen],a,b,rfl,qa,qb⟩
theorem sM {x : Operand} {k : FloatKind} {Q : Nat → Nat → Prop} {tys : Array TypeId} (hx : aT E x (Il k Q)) :
  aC P n E H ⟨d,.call ⟨.builtin .real,#[x],tys⟩,t,pos,af,g⟩ (Im k (fun a=>∃ b,Q a b)) :=
 cC fun c V w hs => by
  obtain ⟨a,b,ex,qa⟩:=hx n V c hs
  have e:∀ tt,Builtin.real_ tys tt #[.complex k a b] = pure (.float k a):=fun tt=>rfl
  exact ⟨.float k a,by simp [execOp,resolve,ex,invoke,builtin,e,Sem.run_bind,Result.andThen],a,rfl,b,qa⟩
theorem sL {x : Operand} {k : FloatKind} {Q : Nat → Nat → Prop} {tys : Array TypeId} (hx : aT E x (Il k Q)) :
  aC P n E H ⟨d,.call ⟨.builtin .imag,#[x],tys⟩,t,pos,af,g⟩ (Im k (fun b=>∃ a,Q a b)) :=
 cC fun c V w hs => by
  obtain ⟨a,b,ex,qa⟩:=hx n V c hs
  have e:∀ tt,Builtin.imag_ tys tt #[.complex k a b] = pure (.float k b):=fun tt=>rfl
  exact ⟨.float k b,by simp [execOp,resolve,ex,invoke,builtin,e,Sem.run_bind,Result.andThen],b,rfl,a,qa⟩
theorem Lr {x : Operand} {s k : FloatKind} {Q : Nat → Nat → Prop} (hs : ∀ w, (underlying tx).run P w = .ok (.complex s) w) (hd : ∀ w, (underlying ty).run P w = .ok (.complex k) w) (hx : aT E x (Il s Q)) :
  aC P n E H ⟨d,.convert tx ty x,t,pos,af,g⟩ (Il k (fun a b=>∃ p q,Q p q ∧ oC s k p a ∧ oC s k q b)) :=
 Bs fun c V w hsl => by
  obtain ⟨p,q,ex,qa⟩:=hx n V c hsl
  obtain ⟨a,w1,h1,i1,c1⟩:=qV (P:=P) s k p w
  obtain ⟨b,w2,h2,i2,c2⟩:=qV (P:=P) s k q w1
  exact ⟨.complex k a b,w2,by simp [execOp,ex,convert,Sem.run_bind,hs,hd,Conv.complexToComplex,h1,h2,Result.andThen],fun _ _ h=>i2 _ _ _ (i1 _ _ _ h),a,b,rfl,p,q,qa,c1,c2⟩
theorem Bq {x : Operand} {s k : FloatKind} {Q : Nat → Prop} (hs : ∀ w, (underlying tx).run P w = .ok (.float s) w) (hd : ∀ w, (underlying ty).run P w = .ok (.float k) w) (hx : aT E x (Im s Q)) :
  aC P n E H ⟨d,.convert tx ty x,t,pos,af,g⟩ (Im k (fun a=>∃ p,Q p ∧ oC s k p a)) :=
 Bs fun c V w hsl => by
  obtain ⟨p,ex,qa⟩:=hx n V c hsl
  obtain ⟨a,w1,h1,i1,c1⟩:=qV (P:=P) s k p w
  exact ⟨.float k a,w1,by simp [execOp,ex,convert,Sem.run_bind,hs,hd,h1,Result.andThen],fun _ _ h=>i1 _ _ _ h,a,rfl,p,qa,c1⟩
def Ox (op : BinOp) (k : FloatKind) (x y : Nat) : Option Bool :=
 let c:=k.format.order x y
 match op with
 | .eql=>some (c == some .eq)
 | .neq=>some (c != some .eq)
 | .lss=>some (c == some .lt)
 | .leq=>some (c == some .lt || c == some .eq)
 | .gtr=>some (c == some .gt)
 | .geq=>some (c == some .gt || c == some .eq)
 | _=>none
theorem sK {op : BinOp} {k : FloatKind} {Q S : Nat → Prop} {r : Bool} {x y : Operand} (hx : aT E x (Im k Q)) (hy : aT E y (Im k S)) (h : ∀ a b, Q a → S b → Ox op k a b = some r) :
  aC P n E H ⟨d,.binOp op tx x y ty,t,pos,af,g⟩ (aB r) :=
 cC fun c V w hs => by
  obtain ⟨a,ex,qa⟩:=hx n V c hs
  obtain ⟨b,ey,qb⟩:=hy n V c hs
  have hr:=h a b qa qb
  refine ⟨.bool r,?_,rfl⟩
  have hg:∀ u v:Operand,eqGuard op tx u v (.float k a) (.float k b) = pure ():=fun u v=>by unfold eqGuard; split <;> rfl
  cases op <;> simp only [Ox,Option.some.injEq,reduceCtorEq] at hr <;> subst hr <;> simp [execOp,ex,ey,binOp,Op.floatCmp,hg,Sem.run_bind,Result.andThen]
theorem Dt {f : FuncId} {xs : List Operand} {tys : Array TypeId} {T : Ty} {e : Array Value → Sem Value} (hc : zK P f e)
  (h:∀ (a:Act) (V:aM) (w:World),cL n E V a → ∃ v,(e (xs.map a.eval).toArray).run P w = .ok v w ∧ T.p v V) :
  aC P n E H ⟨d,.call ⟨.value (.func f),xs.toArray,tys⟩,t,pos,af,g⟩ T :=
 cC fun a V w hs => by
  obtain ⟨v,h1,h2⟩:=h a V w hs
  exact ⟨v,by simp [execOp,resolve,Act.eval,Deferred.ofValue,invoke,hc.run,h1,Result.andThen],h2⟩
theorem pV {f : FuncId} {x : Operand} {tys : Array TypeId} {b : Nat} (hc : zK P f Extern.MathFloatBits.float64bits) (hx : aT E x (xY .f64 b)) :
  aC P n E H ⟨d,.call ⟨.value (.func f),[x].toArray,tys⟩,t,pos,af,g⟩ (NT .u64 b) :=
 Dt hc fun a V w hs => by
  obtain ⟨c,ex,rfl⟩:=hx n V a hs
  have e:Extern.MathFloatBits.float64bits #[.float .f64 c] = pure (.int .u64 c):=rfl
  exact ⟨.int .u64 c,by simp [ex,e],rfl⟩
theorem qE {f : FuncId} {x : Operand} {tys : Array TypeId} {b : Nat} (hc : zK P f Extern.MathFloatBits.float32frombits) (hx : aT E x (NT .u32 b)) :
  aC P n E H ⟨d,.call ⟨.value (.func f),[x].toArray,tys⟩,t,pos,af,g⟩ (xY .f32 b) :=
 Dt hc fun a V w hs => by
  have ex:a.eval x = .int .u32 (b:Int):=hx n V a hs
  have e:Extern.MathFloatBits.float32frombits #[.int .u32 (b:Int)] = pure (.float .f32 b):=rfl
  exact ⟨.float .f32 b,by simp [ex,e],b,rfl,rfl⟩
theorem wU {f : FuncId} {x : Operand} {tys : Array TypeId} {b : Nat} (hc : zK P f Extern.MathFloatBits.float64frombits) (hx : aT E x (NT .u64 b)) :
  aC P n E H ⟨d,.call ⟨.value (.func f),[x].toArray,tys⟩,t,pos,af,g⟩ (xY .f64 b) :=
 Dt hc fun a V w hs => by
  have ex:a.eval x = .int .u64 (b:Int):=hx n V a hs
  have e:Extern.MathFloatBits.float64frombits #[.int .u64 (b:Int)] = pure (.float .f64 b):=rfl
  exact ⟨.float .f64 b,by simp [ex,e],b,rfl,rfl⟩
theorem Lo {x : Operand} {a : Nat} (hx : aT E x (NT .u64 a)) (ha : a < 18446744073709551616) : aC P n E H ⟨d, .binOp .andNot tx x (.const (.int .u64 9223372036854775808)) ty, t, pos, af, g⟩ (NT .u64 (Ix a)) :=
 iX hx (cJ 9223372036854775808) fun w => by
  rw [Ep]
  have e : IntKind.u64.wrap (BitVec.ofInt IntKind.u64.bits (a : Int) &&& ~~~BitVec.ofInt IntKind.u64.bits ((9223372036854775808 : Nat) : Int)).toNat = ((a % 9223372036854775808 : Nat) : Int) := by
   have h1:(~~~BitVec.ofInt IntKind.u64.bits ((9223372036854775808:Nat):Int)).toNat = 2 ^ 63 - 1:=by decide
   have h2:(BitVec.ofInt IntKind.u64.bits (a:Int)).toNat = a:=jE _ _ (by show a < 18446744073709551616; exact ha)
   rw [BitVec.toNat_and,h2,h1,Nat.and_two_pow_sub_one_eq_mod,show (2:Nat) ^ 63 = 9223372036854775808 by decide]
   exact pC (by show _ < 18446744073709551616; omega)
  rw [← e]
  simp [eqGuard,binOp,Op.intBits,pure,Sem.run,bind,Sem.bind]
theorem Pw {x y z : Operand} {kd : IntKind} {a b c : Int} {tys : Array TypeId} (hx : aT E x (aN kd a)) (hy : aT E y (aN kd b)) (hz : aT E z (aN kd c)) : aC P n E H ⟨d, .call ⟨.builtin .max, #[x, y, z], tys⟩, t, pos, af, g⟩ (aN kd (max (max a b) c)) :=
 cC fun u V w hs => by
  have ex:u.eval x = .int kd a:=hx n V u hs
  have ey:u.eval y = .int kd b:=hy n V u hs
  have ez:u.eval z = .int kd c:=hz n V u hs
  refine ⟨.int kd (if c > (if b > a then b else a) then c else (if b > a then b else a)),?_,?_⟩
  ·simp [execOp,resolve,ex,ey,ez,invoke,builtin,Builtin.max_,Builtin.max2,Sem.run_bind,Result.andThen]
  ·show Value.int kd _ = Value.int kd _
   congr 1; split <;> split <;> omega
theorem Pv {x y : Operand} {kd : IntKind} {a b : Int} {tys : Array TypeId} (hx : aT E x (aN kd a)) (hy : aT E y (aN kd b)) : aC P n E H ⟨d, .call ⟨.builtin .max, #[x, y], tys⟩, t, pos, af, g⟩ (aN kd (max a b)) :=
 cC fun u V w hs => by
  have ex:u.eval x = .int kd a:=hx n V u hs
  have ey:u.eval y = .int kd b:=hy n V u hs
  refine ⟨.int kd (if b > a then b else a),?_,?_⟩
  ·simp [execOp,resolve,ex,ey,invoke,builtin,Builtin.max_,Builtin.max2,Sem.run_bind,Result.andThen]
  ·show Value.int kd _ = Value.int kd _
   congr 1; split <;> omega
end
end
theorem vT {P : Program} {f : FuncId} {fn : Func} {e : Array Value → Sem Value} (hf : P.funcs[f]? = some fn) (hname : (fn.name == "runtime.NumGoroutine") = false)
  (hb:fn.body.isNone = true) (hn:Extern.findNext fn = none) (he:Extern.find fn = some e):zK P f e :=
 ⟨fun args w=>run_callFunc_extern hf hname hb hn he args w⟩
end
section
namespace Fl
open Ieee
@[irreducible] def Se:Nat:=925
theorem Mx:Se = 925:=by unfold Se; rfl
def mg (f:Format) (r:Nat):Nat:=if r < f.binade then r else f.binade + r % f.binade
def up (f:Format) (r:Nat):Nat:=r / f.binade - 1
def nn (f:Format) (r:Nat):Nat:=mg f r * 2 ^ up f r
def rg (f:Format) (x:Nat):Nat:=x % f.signWeight
def ng (f:Format) (x:Nat):Bool:=x / f.signWeight % 2 == 1
def fin (f:Format) (x:Nat):Bool:=decide (rg f x < f.infRung)
def av (f:Format) (x:Nat):Int:=if ng f x then -(nn f (rg f x):Int) else nn f (rg f x)
theorem uB (f:Format):0 < f.binade:=Nat.two_pow_pos _
theorem lY {f:Format} {x:Nat} (h:fin f x = true):f.read x = .number (ng f x) (mg f (rg f x)) (f.leastPlace + (up f (rg f x):Nat)):=by
 have h:rg f x < f.infRung:=by simpa [fin] using h
 have e : f.read x = (if rg f x < f.binade then .number (ng f x) (rg f x) f.leastPlace else if rg f x < f.infRung then
  .number (ng f x) (f.binade + rg f x % f.binade) (f.leastPlace + (rg f x / f.binade - 1:Nat)) else if rg f x = f.infRung then .infinity (ng f x) else .nan (ng f x) (rg f x - f.infRung)):=rfl
 rw [e]
 generalize rg f x = r at *
 unfold mg up
 by_cases hb:r < f.binade
 ·rw [if_pos hb,if_pos hb,Nat.div_eq_of_lt hb]; simp
 ·rw [if_neg hb,if_neg hb,if_pos h]
theorem Pl {f:Format} {r s:Nat} (h:r < s):nn f r < nn f s:=by
 have hb:=uB f
 unfold nn mg up
 generalize f.binade = b at *
 have d1:=Nat.div_add_mod r b
 have d2:=Nat.div_add_mod s b
 have m1:=Nat.mod_lt r hb
 have m2:=Nat.mod_lt s hb
 by_cases hr:r < b
 ·rw [if_pos hr]
  have:r / b - 1 = 0:=by rw [Nat.div_eq_of_lt hr]
  rw [this]
  by_cases hs:s < b
  ·rw [if_pos hs,Nat.div_eq_of_lt hs]; simpa using h
  ·rw [if_neg hs]
   have:1 ≤ 2 ^ (s / b - 1):=Nat.two_pow_pos _
   have:=Nat.mul_le_mul (Nat.le_refl (b + s % b)) this
   omega
 ·have hs : ¬ s < b := by omega
  rw [if_neg hr,if_neg hs]
  have q1:1 ≤ r / b:=(Nat.le_div_iff_mul_le hb).2 zo
  have q2:r / b ≤ s / b:=Nat.div_le_div_right (Nat.le_of_lt h)
  rcases Nat.eq_or_lt_of_le q2 with e | l
  ·rw [← e]
   have:r % b < s % b:=by rw [← e] at d2; omega
   exact Nat.mul_lt_mul_of_pos_right zo (Nat.two_pow_pos _)
  ·have e1 : s / b - 1 = (r / b - 1) + 1 + (s / b - 1 - (r / b - 1) - 1) := by omega
   rw [e1,Nat.pow_add,Nat.pow_succ]
   have p1:=Nat.two_pow_pos (r / b - 1)
   have p2:=Nat.two_pow_pos (s / b - 1 - (r / b - 1) - 1)
   generalize 2 ^ (r / b - 1) = x at *
   generalize 2 ^ (s / b - 1 - (r / b - 1) - 1) = y at *
   have a1:(b + r % b) * x < (2 * b) * x:=Nat.mul_lt_mul_of_pos_right zo p1
   have a2:(2 * b) * x = b * (x * 2 * 1):=by grind
   have a3:b * (x * 2 * 1) ≤ (b + s % b) * (x * 2 * y):=Nat.mul_le_mul zo (Nat.mul_le_mul (Nat.le_refl _) p2)
   omega
theorem Rx {f:Format} {r s:Nat} (h:r ≤ s):nn f r ≤ nn f s:=by
 rcases Nat.eq_or_lt_of_le h with e | l
 ·rw [e]; exact Nat.le_refl _
 ·exact Nat.le_of_lt (Pl l)
theorem Hm (a b:Int) {c:Int} (h:0 < c):compare (a * c) (b * c) = compare a b:=by
 simp only [compare,compareOfLessAndEq]
 have e1:(a * c < b * c) ↔ a < b:=⟨fun k=>Int.lt_of_mul_lt_mul_right k (Int.le_of_lt h),fun k=>Int.mul_lt_mul_of_pos_right k h⟩
 have e2:(a * c = b * c) ↔ a = b:=⟨fun k=>Int.eq_of_mul_eq_mul_right (Int.ne_of_gt h) k,fun k=>by rw [k]⟩
 simp only [e1,e2]
theorem sP (s:Bool) (m u w:Nat) (h:w ≤ u):(if s then -((m * 2 ^ u:Nat):Int) else ((m * 2 ^ u:Nat):Int)) = signed s m (u - w) * (2 ^ w:Nat):=by
 have e : m * 2 ^ u = (m <<< (u - w)) * 2 ^ w := by
  rw [Nat.shiftLeft_eq,Nat.mul_assoc,← Nat.pow_add]; congr 2; omega
 unfold signed
 rw [e]; push_cast
 cases s <;> simp [Int.neg_mul]
theorem nC {f:Format} {x y:Nat} (hx:fin f x = true) (hy:fin f y = true):f.order x y = some (compare (av f x) (av f y)):=by
 unfold Format.order
 rw [lY hx,lY hy]
 simp only [Datum.order]
 generalize f.leastPlace = L
 unfold av nn
 generalize mg f (rg f x) = m
 generalize mg f (rg f y) = n
 generalize up f (rg f x) = u
 generalize up f (rg f y) = v
 congr 1
 have hw:(0:Int) < ((2 ^ (min u v):Nat):Int):=by have:=Nat.two_pow_pos (min u v); omega
 rw [sP (ng f x) m u (min u v) (Nat.min_le_left _ _),sP (ng f y) n v (min u v) (Nat.min_le_right _ _),Hm _ _ hw]
 have e1:(L + (u:Int) - min (L + (u:Int)) (L + (v:Int))).toNat = u - min u v:=by omega
 have e2:(L + (v:Int) - min (L + (u:Int)) (L + (v:Int))).toNat = v - min u v:=by omega
 rw [e1,e2]
theorem nT {f:Format} {x:Nat} (hf:f.binade ≤ f.infRung) (h:fin f x = false):f.read x = (if rg f x = f.infRung then .infinity (ng f x) else .nan (ng f x) (rg f x - f.infRung)):=by
 have h:¬ rg f x < f.infRung:=by simpa [fin] using h
 have e : f.read x = (if rg f x < f.binade then .number (ng f x) (rg f x) f.leastPlace else if rg f x < f.infRung then
  .number (ng f x) (f.binade + rg f x % f.binade) (f.leastPlace + (rg f x / f.binade - 1:Nat)) else if rg f x = f.infRung then .infinity (ng f x) else .nan (ng f x) (rg f x - f.infRung)):=rfl
 rw [e,if_neg zo,if_neg h]
theorem bs:single.binade ≤ single.infRung:=by decide
theorem bd:double.binade ≤ double.infRung:=by decide
theorem qY:double.signWeight = 9223372036854775808:=by decide
theorem Wn:single.infRung = 2139095040:=by decide
theorem Dj:double.infRung = 9218868437227405312:=by decide
theorem Nj:single.binade = 8388608:=by decide
theorem Nk:double.binade = 4503599627370496:=by decide
theorem Kd (a:Int):compare a a = .eq:=by simp [compare,compareOfLessAndEq]
theorem qM (a b:Int):(compare a b == .lt) = decide (a < b):=by
 simp only [compare,compareOfLessAndEq]
 by_cases k:a < b
 ·rw [if_pos k]; simp [k]
 ·rw [if_neg k]
  by_cases k2:a = b
  ·rw [if_pos k2]; simp [k]
  ·rw [if_neg k2]; simp [k]
theorem Kc (a b:Int):(compare a b == .gt) = decide (b < a):=by
 simp only [compare,compareOfLessAndEq]
 by_cases k:a < b
 ·rw [if_pos k]; have : ¬ b < a := by omega
  simp [this]
 ·rw [if_neg k]
  by_cases k2:a = b
  ·rw [if_pos k2]; simp [k2]
  ·rw [if_neg k2]; have : b < a := by omega
   simp [this]
theorem Kb (a b:Int):(compare a b == .eq) = decide (a = b):=by
 simp only [compare,compareOfLessAndEq]
 by_cases k:a < b
 ·rw [if_pos k]; have : ¬ a = b := by omega
  simp [this]
 ·rw [if_neg k]
  by_cases k2:a = b
  ·rw [if_pos k2]; simp [k2]
  ·rw [if_neg k2]; simp [k2]
theorem Dv {f:Format} {x:Nat} (hf:f.binade ≤ f.infRung):(f.order x x != some .eq) = decide (f.infRung < rg f x):=by
 by_cases h:fin f x = true
 ·rw [nC h h, Kd]
  have:rg f x < f.infRung:=by simpa [fin] using h
  have:¬ f.infRung < rg f x:=by omega
  simp [this]
 ·have h : fin f x = false := by simpa using h
  have h':¬ rg f x < f.infRung:=by simpa [fin] using h
  unfold Format.order
  rw [nT hf h]
  by_cases e:rg f x = f.infRung
  ·rw [if_pos e]; have : ¬ f.infRung < rg f x := by omega
   simp [Datum.order,this]
  ·rw [if_neg e]; have : f.infRung < rg f x := by omega
   simp [Datum.order,this]
theorem Jb (f:Format) (x:Nat):(av f x).natAbs = nn f (rg f x):=by unfold av; split <;> omega
theorem Jc {f:Format} {x:Nat} (h:ng f x = false):av f x = nn f (rg f x):=by unfold av; rw [h]; rfl
theorem Rh (f:Format) (x:Nat):av f x ≤ nn f (rg f x) ∧ -(nn f (rg f x):Int) ≤ av f x:=by have:=Jb f x; omega
theorem Ua {f:Format} {x m:Nat} (hf:f.binade ≤ f.infRung) (hm:rg f m + 1 = f.infRung) (hn:ng f m = false):(f.order x m == some .gt) = (decide (rg f x = f.infRung) && !ng f x):=by
 have mf:fin f m = true:=by simp [fin]; omega
 by_cases h:fin f x = true
 ·rw [nC h mf]
  have h2:rg f x < f.infRung:=by simpa [fin] using h
  have h3:nn f (rg f x) ≤ nn f (rg f m):=Rx zo
  have h4:=Rh f x
  have h5:¬ rg f x = f.infRung:=by omega
  have h6:¬ av f m < av f x:=by rw [Jc hn]; omega
  rw [Option.some_beq_some,Kc]; simp [h5,h6]
 ·have h : fin f x = false := by simpa using h
  unfold Format.order
  rw [nT hf h,lY mf]
  by_cases e:rg f x = f.infRung
  ·rw [if_pos e]; simp only [Datum.order,e,decide_true,Bool.true_and]; cases ng f x <;> rfl
  ·rw [if_neg e]; simp [Datum.order,e]
theorem Ue {f : Format} {x m : Nat} (hf : f.binade ≤ f.infRung) (hm : rg f m + 1 = f.infRung) (hn : ng f m = false) :
  ((f.order x 0 == some .gt) && (f.order x m == some .lt || f.order x m == some .eq)) = (fin f x && decide (0 < av f x)):=by
 have mf:fin f m = true:=by simp [fin]; omega
 have z0:rg f 0 = 0:=by simp [rg]
 have zf:fin f 0 = true:=by have:=uB f; simp [fin,z0]; omega
 have za : av f 0 = 0 := by
  have:nn f 0 = 0:=by unfold nn mg; rw [if_pos (uB f)]; simp
  unfold av; rw [z0,this]; split <;> rfl
 by_cases h:fin f x = true
 ·rw [nC h mf, nC h zf, za, h]
  have h2:rg f x < f.infRung:=by simpa [fin] using h
  have h3:nn f (rg f x) ≤ nn f (rg f m):=Rx zo
  have h4:=Rh f x
  have h5:=Jc hn
  simp only [Option.some_beq_some,Kc,qM,Kb,Bool.true_and]
  by_cases k:av f x < av f m
  ·simp [k]
  ·have : av f x = av f m := by omega
   simp [this]
 ·have h : fin f x = false := by simpa using h
  rw [h]; simp only [Bool.false_and]
  unfold Format.order
  rw [nT hf h,lY mf,lY zf]
  by_cases e:rg f x = f.infRung
  ·rw [if_pos e]; cases ng f x <;> simp [Datum.order]
  ·rw [if_neg e]; simp [Datum.order]
theorem Kz {f:Format} {x y:Nat} (hx:fin f x = true) (hy:fin f y = true):(f.order x y == some .lt || f.order x y == some .eq) = decide (av f x ≤ av f y):=by
 rw [nC hx hy]
 simp only [Option.some_beq_some,qM,Kb]
 by_cases k:av f x < av f y
 ·have : av f x ≤ av f y := by omega
  simp [k,this]
 ·by_cases k2 : av f x = av f y
  ·simp [k2]
  ·have : ¬ av f x ≤ av f y := by omega
   simp [k,k2,this]
def iB (a:Nat):Nat:=a / 4503599627370496 % 2048
def nO (a:Nat):Nat:=if iB a = 0 then a % 4503599627370496 else 4503599627370496 + a % 4503599627370496
theorem Gp {a : Nat} (ha : a < 18446744073709551616) : rg double a = a % 9223372036854775808 ∧ ng double a = decide (9223372036854775808 ≤ a) ∧ rg double a / 4503599627370496 = iB a ∧
  rg double a % 4503599627370496 = a % 4503599627370496 ∧ mg double (rg double a) = nO a ∧ up double (rg double a) = iB a - 1 ∧ fin double a = decide (iB a ≠ 2047):=by
 have r:rg double a = a % 9223372036854775808:=by unfold rg; rw [qY]
 have n : ng double a = decide (9223372036854775808 ≤ a) := by
  unfold ng; rw [qY]
  by_cases h:9223372036854775808 ≤ a
  ·rw [show a / 9223372036854775808 % 2 = 1 by omega]; simp [h]
  ·rw [show a / 9223372036854775808 % 2 = 0 by omega]; simp [h]
 have q:rg double a / 4503599627370496 = iB a:=by rw [r]; unfold iB; omega
 have q2:rg double a % 4503599627370496 = a % 4503599627370496:=by rw [r]; omega
 refine ⟨r,n,q,q2,?_,?_,?_⟩
 ·unfold mg nO; rw [Nk, q2, ← q]
  by_cases h:rg double a < 4503599627370496
  ·rw [if_pos h,if_pos (Nat.div_eq_of_lt h),← q2,Nat.mod_eq_of_lt h]
  ·rw [if_neg h,if_neg zo]
 ·unfold up; rw [Nk,q]
 ·unfold fin; rw [Dj, ← q, r]
  by_cases h:a % 9223372036854775808 < 9218868437227405312
  ·rw [decide_eq_true h]; symm; rw [decide_eq_true_eq]; omega
  ·rw [decide_eq_false h]; symm; rw [decide_eq_false_iff_not]; omega
theorem Xm (s:Bool) (n:Nat):Toward.even.cut s n 0 = n:=by
 unfold Toward.cut
 simp only [Nat.zero_min,Nat.min_eq_left (Nat.zero_le _),Nat.shiftLeft_zero,Nat.div_one,Nat.mod_one]
 simp
theorem Li (s : Bool) {m u : Nat} (h0 : m ≠ 0) (hm : m < 16777216) (hu : u ≤ 253) :
  double.nearest s m (-149 + (u:Int)) = double.word s ((u + m.log2 + 873) * 4503599627370496 + m * 2 ^ (52 - m.log2)):=by
 have hl:m.log2 < 24:=(Nat.log2_lt h0).2 hm
 have l1:2 ^ m.log2 ≤ m:=Nat.log2_self_le h0
 have l2:m < 2 ^ (m.log2 + 1):=Nat.lt_log2_self
 unfold Format.nearest
 rw [if_neg h0]
 have hlp:double.leastPlace = -1074:=by decide
 have hfb:((double.fractionBits:Nat):Int) = 52:=rfl
 rw [hlp,hfb]
 have e1:max (-149 + (u:Int) + (m.log2:Int) - 52) (-1074) = (u:Int) + m.log2 - 201:=by omega
 simp only [e1]
 have e2:(-149 + (u:Int) - ((u:Int) + m.log2 - 201)).toNat = 52 - m.log2:=by omega
 have e3:((u:Int) + m.log2 - 201 - (-149 + (u:Int))).toNat = 0:=by omega
 have e4:((u:Int) + m.log2 - 201 - (-1074)).toNat = u + m.log2 + 873:=by omega
 rw [e2,e3,e4,Xm,Nk,Dj,Nat.shiftLeft_eq]
 congr 1
 have:m * 2 ^ (52 - m.log2) < 2 ^ (m.log2 + 1) * 2 ^ (52 - m.log2):=Nat.mul_lt_mul_of_pos_right l2 (Nat.two_pow_pos _)
 rw [← Nat.pow_add,show m.log2 + 1 + (52 - m.log2) = 53 by omega] at this
 rw [Nat.min_eq_left]
 have:(2:Nat) ^ 53 = 9007199254740992:=by decide
 omega
theorem Dn (s : Bool) {m u a : Nat} (hm : m < 16777216) (hu : u ≤ 253) (ha : a = double.nearest s m (-149 + (u : Int))) :
  a < 18446744073709551616 ∧ rg double a < double.infRung ∧ ng double a = s ∧ nn double (rg double a) = m * 2 ^ u * 2 ^ Se:=by
 by_cases h0:m = 0
 ·subst h0
  have:a = double.word s 0:=by rw [ha]; unfold Format.nearest; rw [if_pos rfl]
  unfold Format.word at this
  rw [qY] at this
  have e:rg double a = 0:=by unfold rg; rw [qY]; cases s <;> simp at this <;> omega
  refine ⟨by cases s <;> simp at this <;> omega,by rw [e,Dj]; omega,?_,?_⟩
  ·unfold ng; rw [qY]; cases s <;> simp at this <;> subst this <;> rfl
  ·rw [e]; unfold nn mg; rw [if_pos (uB _)]; simp
 ·rw [Li s h0 hm hu] at ha
  have hl:m.log2 < 24:=(Nat.log2_lt h0).2 hm
  have l1:2 ^ m.log2 ≤ m:=Nat.log2_self_le h0
  have l2:m < 2 ^ (m.log2 + 1):=Nat.lt_log2_self
  have b1:m * 2 ^ (52 - m.log2) < 2 ^ (m.log2 + 1) * 2 ^ (52 - m.log2):=Nat.mul_lt_mul_of_pos_right l2 (Nat.two_pow_pos _)
  rw [← Nat.pow_add,show m.log2 + 1 + (52 - m.log2) = 53 by omega,show (2:Nat) ^ 53 = 9007199254740992 by decide] at b1
  have b2:2 ^ m.log2 * 2 ^ (52 - m.log2) ≤ m * 2 ^ (52 - m.log2):=Nat.mul_le_mul_right _ l1
  rw [← Nat.pow_add,show m.log2 + (52 - m.log2) = 52 by omega,show (2:Nat) ^ 52 = 4503599627370496 by decide] at b2
  have b3 : m * 2 ^ (52 - m.log2) * 2 ^ (u + m.log2 + 873) = m * 2 ^ u * 2 ^ Se := by
   rw [Nat.mul_assoc,Nat.mul_assoc,← Nat.pow_add,← Nat.pow_add,show 52 - m.log2 + (u + m.log2 + 873) = u + Se by rw [Mx]; omega]
  generalize m * 2 ^ (52 - m.log2) = K at *
  have hr : rg double a = (u + m.log2 + 873) * 4503599627370496 + K := by
   unfold rg; rw [qY,ha]; unfold Format.word; rw [qY]
   cases s <;> simp <;> omega
  refine ⟨?_,?_,?_,?_⟩
  ·rw [ha]; unfold Format.word; rw [qY]; cases s <;> simp <;> omega
  ·rw [hr,Dj]; omega
  ·unfold ng; rw [qY, ha]; unfold Format.word; rw [qY]
   cases s
   ·simp only [Bool.false_eq_true,if_false,beq_eq_false_iff_ne]; omega
   ·simp only [if_true,beq_iff_eq]; omega
  ·rw [hr]; unfold nn mg up; rw [Nk, if_neg zo]
   have e1:((u + m.log2 + 873) * 4503599627370496 + K) % 4503599627370496 = K - 4503599627370496:=by omega
   have e2:((u + m.log2 + 873) * 4503599627370496 + K) / 4503599627370496 - 1 = u + m.log2 + 873:=by omega
   rw [e1,e2,Nat.add_sub_cancel' b2,b3]
theorem Sg {p a : Nat} (h : oC .f32 .f64 p a) : a < 18446744073709551616 ∧ fin double a = fin single p ∧
  (fin single p = true → ng double a = ng single p ∧ ∃ m u,m < 16777216 ∧ u ≤ 253 ∧ nn single (rg single p) = m * 2 ^ u ∧ nn double (rg double a) = m * 2 ^ u * 2 ^ Se):=by
 have hlp:single.leastPlace = -149:=by decide
 unfold oC at h
 rw [if_neg (by decide)] at h
 have hd:FloatKind.f32.decode p = single.read p:=rfl
 rw [hd] at h
 by_cases hf:fin single p = true
 ·rw [lY hf, hlp] at h
  have hr:rg single p < 2139095040:=by rw [← Wn]; simpa [fin] using hf
  have hm:mg single (rg single p) < 16777216:=by unfold mg; rw [Nj]; split <;> omega
  have hu:up single (rg single p) ≤ 253:=by unfold up; rw [Nj]; omega
  obtain ⟨p1,p2,p3,p4⟩:=Dn (ng single p) hm hu rfl
  have hw:FloatKind.f64.encode (.number (ng single p) (mg single (rg single p)) (-149 + ((up single (rg single p):Nat):Int))) = double.nearest (ng single p) (mg single (rg single p)) (-149 + ((up single (rg single p):Nat):Int)):=rfl
  simp only at h
  rw [hw] at h
  have hdd:∀ b,FloatKind.f64.decode b = double.read b:=fun _=>rfl
  rw [hdd,lY (by simpa [fin] using p2)] at h
  simp only [Datum.isInfinity] at h
  have h':a = double.nearest (ng single p) (mg single (rg single p)) (-149 + ((up single (rg single p):Nat):Int)):=by simpa using h
  rw [h']
  refine ⟨p1,?_,fun _=>⟨p3,_,_,hm,hu,rfl,p4⟩⟩
  rw [hf]; simpa [fin] using p2
 ·have hf' : fin single p = false := by simpa using hf
  rw [nT bs hf'] at h
  refine ⟨?_,?_,fun k=>absurd k hf⟩
  ·by_cases e : rg single p = single.infRung
   ·rw [if_pos e] at h; simp only at h
    have:a = double.word (ng single p) double.infRung:=h
    rw [this]; unfold Format.word; rw [qY,Dj]; split <;> omega
   ·rw [if_neg e] at h; simp only at h
    obtain ⟨t,rfl⟩:=h
    simp only [Question.cut]; omega
  ·rw [hf']; unfold fin rg; rw [qY, Dj]; simp only [decide_eq_false_iff_not]
   by_cases e:rg single p = single.infRung
   ·rw [if_pos e] at h; simp only at h
    have:a = double.word (ng single p) double.infRung:=h
    rw [this]; unfold Format.word; rw [qY,Dj]; split <;> omega
   ·rw [if_neg e] at h; simp only at h
    obtain ⟨t,rfl⟩:=h
    simp only [Question.cut]
    have y1:t / 2 % (2 ^ 52 - 1) < 4503599627370495:=Nat.mod_lt _ (by decide)
    have y2:t % 2 = 0 ∨ t % 2 = 1:=by omega
    have y3:(2:Nat) ^ 63 = 9223372036854775808:=by decide
    rw [y3]
    generalize t / 2 % (2 ^ 52 - 1) = y at *
    rcases y2 with k | k <;> rw [k] <;> omega
end Fl
end
section
namespace Fl
open Ieee
@[irreducible] def Na:Nat:=1074
theorem wM:Na = 1074:=by unfold Na; rfl
theorem xK (A:Int) {D c:Nat} (hD:0 < D) (hc:0 < c):Qi.mk' (A * (c:Nat)) 0 (D * c) = Qi.mk' A 0 D:=by
 have h1:=Qi.nc hD; have h2:=Qi.nc hc
 refine Qi.ext' ?_ ?_
 ·rw [Qi.mk_re,Qi.mk_re]; push_cast; grind
 ·rw [Qi.mk_im,Qi.mk_im]; push_cast; grind
theorem yW {A B:Int} {D C:Nat} (hD:0 < D) (hC:0 < C) (h:A * (C:Nat) = B * (D:Nat)):Qi.mk' A 0 D = Qi.mk' B 0 C:=by
 rw [← xK A hD hC,← xK B hC hD,h,Nat.mul_comm]
theorem qA (b:Bool) (m c:Nat):nF b (m * c) = nF b m * (c:Nat):=by unfold nF; cases b <;> simp [Int.neg_mul]
theorem Cp (f:Format) (x:Nat):av f x = nF (ng f x) (nn f (rg f x)):=rfl
def Bv (a:Nat):Qi:=Qi.mk' (av double a) 0 (2 ^ Na)
def q32 (p:Nat):Qi:=Qi.mk' (av single p) 0 (2 ^ 149)
theorem Mf {p a:Nat} (h:oC .f32 .f64 p a) (hf:fin single p = true):Bv a = q32 p:=by
 obtain ⟨_,_,h3⟩:=Sg h
 obtain ⟨e1,m,u,_,_,e2,e3⟩:=h3 hf
 have:av double a = av single p * ((2 ^ Se:Nat):Int):=by rw [Cp,Cp,e1,e3,e2,qA]
 unfold Bv q32
 refine yW (Nat.two_pow_pos _) (Nat.two_pow_pos _) ?_
 rw [this,Int.mul_assoc,← Int.natCast_mul,← Nat.pow_add,show Se + 149 = Na by rw [Mx,wM]]
theorem rV {a:Nat} (ha:a < 18446744073709551616):av double a = nF (decide (9223372036854775808 ≤ a)) (nO a * 2 ^ (iB a - 1)):=by
 obtain ⟨_,h2,_,_,h5,h6,_⟩:=Gp ha
 rw [Cp,h2]; unfold nn; rw [h5,h6]
theorem Me {a k:Nat} (ha:a < 18446744073709551616) (hk:k = max (iB a) 1 - 1):Qi.mk' (nF (decide (9223372036854775808 ≤ a)) (nO a * 2 ^ k)) 0 (2 ^ Na) = Bv a:=by
 unfold Bv; rw [rV ha,show k = iB a - 1 by omega]
theorem Qf {a:Nat} (ha:a < 18446744073709551616) (he:1075 ≤ iB a):Qi.mk' (nF (decide (9223372036854775808 ≤ a)) (nO a * 2 ^ (iB a - 1075))) 0 1 = Bv a:=by
 unfold Bv; rw [rV ha]
 refine yW zo (Nat.two_pow_pos _) ?_
 rw [← qA,Int.natCast_one,Int.mul_one,Nat.mul_assoc,← Nat.pow_add]
 congr 3; rw [wM]; omega
theorem Md {a e:Nat} (ha:a < 18446744073709551616) (he:e = max (iB a) 1) (h:e < 1075):Qi.mk' (nF (decide (9223372036854775808 ≤ a)) (nO a)) 0 (2 ^ (1075 - e)) = Bv a:=by
 unfold Bv; rw [rV ha]
 refine yW (Nat.two_pow_pos _) (Nat.two_pow_pos _) ?_
 rw [← qA,← qA,Nat.mul_assoc,← Nat.pow_add]
 congr 3; rw [wM]; omega
theorem Mg:Bv 0 = Qi.zero:=by
 have:av double 0 = 0:=by decide
 unfold Bv; rw [this]
 refine Qi.ext' ?_ ?_
 ·rw [Qi.mk_re]; show _ = (0:Rat); push_cast; grind
 ·rw [Qi.mk_im]; show _ = (0:Rat); push_cast; grind
theorem Uv (p:Nat):(q32 p).im = 0:=by unfold q32; rw [Qi.mk_im]; push_cast; grind
theorem Dz (p:Nat):(q32 p).re = (av single p:Rat) / ((2 ^ 149:Nat):Rat):=rfl
theorem Ku {p:Nat} (hf:fin single p = true):Qi.Fit (q32 p) 9:=by
 have hr:rg single p < 2139095040:=by rw [← Wn]; simpa [fin] using hf
 have hm:mg single (rg single p) < 2 ^ 24:=by unfold mg; rw [Nj]; split <;> omega
 have hu:up single (rg single p) ≤ 253:=by unfold up; rw [Nj]; omega
 unfold q32
 refine Qi.Fit.mk (Nat.two_pow_pos _) ?_ (Nat.pow_pos cO) ?_
 ·rw [Jb]; unfold nn
  have h1 : 2 ^ up single (rg single p) < BB ^ 8 := by
   refine Nat.lt_of_le_of_lt (Nat.pow_le_pow_right (by decide) hu) ?_
   show _ < (2 ^ 32) ^ 8
   rw [← Nat.pow_mul]
   exact Nat.pow_lt_pow_right (by decide) (by decide)
  have h2:mg single (rg single p) < BB ^ 1:=Nat.lt_of_lt_of_le hm (by decide)
  exact Qi.lt_mul h2 h1
 ·refine Nat.lt_of_lt_of_le (m := BB ^ 8) ?_ (Nat.pow_le_pow_right cO (by decide))
  show _ < (2 ^ 32) ^ 8
  rw [← Nat.pow_mul]
  exact Nat.pow_lt_pow_right (by decide) (by decide)
def pw (p:Nat):Bool:=fin single p && decide (0 < av single p)
theorem Gr {p:Nat}:0 < (q32 p).re ↔ 0 < av single p:=by
 rw [Dz]
 have h : (0 : Rat) < ((2 ^ 149 : Nat) : Rat) := by
  have:((0:Nat):Rat) < ((2 ^ 149:Nat):Rat):=Rat.natCast_lt_natCast.2 (Nat.two_pow_pos _)
  exact this
 rw [Rat.lt_div_iff h,Rat.zero_mul]
 exact ⟨fun k=>Rat.intCast_lt_intCast.1 k,fun k=>Rat.intCast_lt_intCast.2 k⟩
theorem Dy {p q:Nat}:(q32 p).re ≤ (q32 q).re ↔ av single p ≤ av single q:=by
 rw [Dz,Dz]
 have h : (0 : Rat) < ((2 ^ 149 : Nat) : Rat) := by
  have:((0:Nat):Rat) < ((2 ^ 149:Nat):Rat):=Rat.natCast_lt_natCast.2 (Nat.two_pow_pos _)
  exact this
 generalize ((2 ^ 149:Nat):Rat) = D at *
 constructor
 ·intro k
  have e:∀ z:Int,(z:Rat) = (z:Rat) / D * D:=fun z=>by grind
  have:=Rat.mul_le_mul_of_nonneg_right k (Rat.le_of_lt h)
  rw [← e,← e] at this
  exact Rat.intCast_le_intCast.1 this
 ·intro k
  rw [Rat.div_def,Rat.div_def]
  exact Rat.mul_le_mul_of_nonneg_right (Rat.intCast_le_intCast.2 k) (Rat.le_of_lt (Rat.inv_pos.2 h))
end Fl
end
section
namespace Fl
theorem Mh {x y:Qi} (hx:x.im = 0) (hy:y.im = 0):(x / y).re = x.re / y.re ∧ (x / y).im = 0:=by
 have hn:y.nrm = y.re * y.re:=by unfold Qi.nrm; rw [hy]; grind
 have hi:Qi.inv y = ⟨y.re / y.nrm,-y.im / y.nrm⟩:=rfl
 constructor
 ·rw [Qi.div_def, Qi.mul_re, hi, hn, hx, hy]
  by_cases h:y.re = 0
  ·rw [h]; show x.re * (0 / (0 * 0)) - 0 * _ = _; grind
  ·show x.re * (y.re / (y.re * y.re)) - 0 * _ = _; grind
 ·rw [Qi.div_def,Qi.mul_im,hi,hx,hy]; show x.re * (-0 / _) + 0 * _ = _; grind
structure Re (x:Qi):Prop where
 im:x.im = 0
theorem Re.sub {x y:Qi} (h:Re x) (k:Re y):Re (x - y):=⟨by rw [Qi.sub_im,h.im,k.im]; grind⟩
theorem Re.add {x y:Qi} (h:Re x) (k:Re y):Re (x + y):=⟨by rw [Qi.add_im,h.im,k.im]; grind⟩
theorem Re.mul {x y:Qi} (h:Re x) (k:Re y):Re (x * y):=⟨by rw [Qi.mul_im,h.im,k.im]; grind⟩
theorem Re.div {x y:Qi} (h:Re x) (k:Re y):Re (x / y):=⟨(Mh h.im k.im).2⟩
theorem Re.one:Re (Qi.ofInt 1):=⟨rfl⟩
theorem Re.q32 (p:Nat):Re (q32 p):=⟨Uv p⟩
theorem Re.of {x:Qi} (h:x.b = 0):Re x:=⟨Qi.b_zero.1 h⟩
theorem Re.b {x:Qi} (h:Re x):x.b = 0:=Qi.b_zero.2 h.im
theorem Re.rdiv {x y:Qi} (h:Re x) (k:Re y):(x / y).re = x.re / y.re:=(Mh h.im k.im).1
theorem Re.rmul {x y:Qi} (h:Re x):(x * y).re = x.re * y.re:=by rw [Qi.mul_re,h.im]; grind
theorem Re.ext {x y:Qi} (h:Re x) (k:Re y) (e:x.re = y.re):x = y:=Qi.ext' e (by rw [h.im,k.im])
def tP (hot cold a b:Qi):Qi:=(hot - a / b * cold) / (a / b - Qi.ofInt 1)
def tR (hot cold a b:Qi):Qi:=(hot * b - cold * a) / (a - b)
theorem Xa {hot cold a b:Qi} (h:Re hot) (c:Re cold) (x:Re a) (y:Re b):Re (tP hot cold a b):=(h.sub ((x.div y).mul c)).div ((x.div y).sub Re.one)
theorem Wz {hot cold a b:Qi} (h:Re hot) (c:Re cold) (x:Re a) (y:Re b) (h0:b.re ≠ 0) (h1:a.re ≠ b.re):tP hot cold a b = tR hot cold a b:=by
 refine Re.ext (Xa h c x y) (((h.mul y).sub (c.mul x)).div (x.sub y)) ?_
 unfold tP tR
 rw [(h.sub ((x.div y).mul c)).rdiv ((x.div y).sub Re.one),((h.mul y).sub (c.mul x)).rdiv (x.sub y),Qi.sub_re,Qi.sub_re,Qi.sub_re,Qi.sub_re,(x.div y).rmul,x.rdiv y,h.rmul,c.rmul]
 show (hot.re - a.re / b.re * cold.re) / (a.re / b.re - ((1:Int):Rat)) = (hot.re * b.re - cold.re * a.re) / (a.re - b.re)
 generalize hot.re = H
 generalize cold.re = K
 generalize a.re = p at *
 generalize b.re = q at *
 have e:p = p / q * q:=by grind
 generalize p / q = y at *
 subst e
 have hy:y - 1 ≠ 0:=by grind
 have e1:y * q - q = (y - 1) * q:=by grind
 have e2:H * q - K * (y * q) = (H - y * K) * q:=by grind
 rw [e1,e2]
 show (H - y * K) / (y - 1) = _
 grind
theorem nV {x:Qi} (h:dS x = true):Re x:=by
 simp only [dS,Bool.and_eq_true,decide_eq_true_eq] at h; exact Re.of h.1
theorem Dx {x:Qi} (h:iC x = true):Re x:=Re.of (Uu h)
theorem qU {p:Nat} (h:pw p = true):fin Ieee.single p = true:=by
 unfold pw at h; simp only [Bool.and_eq_true] at h; exact h.1
theorem zG {p:Nat} (h:pw p = true):0 < (q32 p).re:=by
 unfold pw at h; simp only [Bool.and_eq_true,decide_eq_true_eq] at h; exact Gr.2 h.2
theorem Gq {p q:Nat}:nK (q32 p) (q32 q) ≤ 0 ↔ av Ieee.single p ≤ av Ieee.single q:=by
 rw [lM (Re.q32 p).b (Re.q32 q).b,On,Dy]
def lZ (hot cold:Qi) (p q:Nat):Int:=if !dS hot || !dS cold || !pw p || !pw q then 1 else if decide (mE hot cold ≤ 0) || decide (av Ieee.single p ≤ av Ieee.single q) then 7 else if (tR hot cold (q32 p) (q32 q)).re < 0 then 5 else 0
def jZ (hot cold:Qi) (p q:Nat):Qi × Int:=if lZ hot cold p q = 0 then (tR hot cold (q32 p) (q32 q),0) else (Qi.zero,lZ hot cold p q)
theorem Bw {hot cold:Qi} {p q:Nat} (h:(!dS hot || !dS cold || !pw p || !pw q) = true):jZ hot cold p q = (Qi.zero,1):=by
 have:lZ hot cold p q = 1:=by rw [lZ,if_pos h]
 rw [jZ,this]; rfl
theorem Bx {hot cold:Qi} {p q:Nat} (h:¬ (!dS hot || !dS cold || !pw p || !pw q) = true) (h2:(decide (mE hot cold ≤ 0) || decide (av Ieee.single p ≤ av Ieee.single q)) = true):jZ hot cold p q = (Qi.zero,7):=by
 have:lZ hot cold p q = 7:=by rw [lZ,if_neg h,if_pos h2]
 rw [jZ,this]; rfl
theorem xP {hot cold:Qi} {p q:Nat} (h:¬ (!dS hot || !dS cold || !pw p || !pw q) = true) (h2:¬ (decide (mE hot cold ≤ 0) || decide (av Ieee.single p ≤ av Ieee.single q)) = true) (h3:(tR hot cold (q32 p) (q32 q)).re < 0):jZ hot cold p q = (Qi.zero,5):=by
 have:lZ hot cold p q = 5:=by rw [lZ,if_neg h,if_neg h2,if_pos h3]
 rw [jZ,this]; rfl
theorem Gu {hot cold:Qi} {p q:Nat} (h:¬ (!dS hot || !dS cold || !pw p || !pw q) = true) (h2:¬ (decide (mE hot cold ≤ 0) || decide (av Ieee.single p ≤ av Ieee.single q)) = true) (h3:¬ (tR hot cold (q32 p) (q32 q)).re < 0):jZ hot cold p q = (tR hot cold (q32 p) (q32 q),0):=by
 have:lZ hot cold p q = 0:=by rw [lZ,if_neg h,if_neg h2,if_neg h3]
 rw [jZ,this]; rfl
structure uY (hot cold:Qi) (p q:Nat):Prop where
 h:Re hot
 c:Re cold
 pp:pw p = true
 pq:pw q = true
 ord:¬ av Ieee.single p ≤ av Ieee.single q
theorem Mi {hot cold:Qi} {p q:Nat} (h:¬ (!dS hot || !dS cold || !pw p || !pw q) = true) (h2:¬ (decide (mE hot cold ≤ 0) || decide (av Ieee.single p ≤ av Ieee.single q)) = true):uY hot cold p q:=by
 simp only [Bool.or_eq_true,Bool.not_eq_true',decide_eq_true_eq,not_or,Bool.not_eq_false] at h h2
 exact ⟨nV h.1.1.1,nV h.1.1.2,h.1.2,h.2,h2.2⟩
theorem uY.eq {hot cold : Qi} {p q : Nat} (h : uY hot cold p q) : tP hot cold (q32 p) (q32 q) = tR hot cold (q32 p) (q32 q) :=
 Wz h.h h.c (Re.q32 p) (Re.q32 q) (fun e=>by have:=zG h.pq; rw [e] at this; exact Rat.lt_irrefl this) (fun e=>h.ord (Dy.1 (by rw [e]; exact Rat.le_refl)))
theorem uY.ne {hot cold:Qi} {p q:Nat} (h:uY hot cold p q):q32 q ≠ Qi.zero ∧ q32 p - q32 q ≠ Qi.zero ∧ q32 p / q32 q - Qi.ofInt 1 ≠ Qi.zero:=by
 have h0:(q32 q).re ≠ 0:=fun e=>by have:=zG h.pq; rw [e] at this; exact Rat.lt_irrefl this
 have h1:(q32 p).re ≠ (q32 q).re:=fun e=>h.ord (Dy.1 (by rw [e]; exact Rat.le_refl))
 refine ⟨fun e=>h0 (by rw [e]; rfl),Qi.sub_ne h1,Qi.sub_ne ?_⟩
 rw [(Re.q32 p).rdiv (Re.q32 q)]
 show _ ≠ ((1:Int):Rat)
 intro e
 apply h1
 have:(q32 p).re / (q32 q).re = 1:=e
 grind
theorem uY.real {hot cold:Qi} {p q:Nat} (h:uY hot cold p q):Re (tR hot cold (q32 p) (q32 q)):=((h.h.mul (Re.q32 q)).sub (h.c.mul (Re.q32 p))).div ((Re.q32 p).sub (Re.q32 q))
theorem Wf {x:Qi} (h:Re x):nK x (Qi.ofInt 0) < 0 ↔ x.re < 0:=by
 rw [lM h.b (Qi.int_a 0).2.1,yN]; exact Iff.rfl
theorem Ok {x:Qi} (h:Re x):nK x (Qi.ofInt 1) < 0 ↔ x.re < 1:=by
 rw [lM h.b (Qi.int_a 1).2.1,yN]; exact Iff.rfl
theorem Gt {x:Qi} (h:Re x):wV x (Qi.ofInt 1) < 0 ↔ x.re < 1:=by
 rw [tB h.b (Qi.int_a 1).2.1,yN]; exact Iff.rfl
theorem Mc {x:Qi} (h:iC x = true):0 < x.re:=by
 simp only [iC,decide_eq_true_eq] at h; exact Qi.a_pos.1 h.2
def mF (t t0:Qi):Qi × Int:=if dS t && iC t0 then (Qi.ofInt 1 + t / t0,0) else (Qi.zero,1)
theorem Tx {t t0:Qi} (h:dS t = true) (h0:iC t0 = true):(t0 + t) / t0 = Qi.ofInt 1 + t / t0:=by
 have h1:=nV h
 have h2:=Dx h0
 refine Re.ext ((h2.add h1).div h2) (Re.one.add (h1.div h2)) ?_
 have hp:t0.re ≠ 0:=fun e=>by have:=Mc h0; rw [e] at this; exact Rat.lt_irrefl this
 rw [(h2.add h1).rdiv h2,Qi.add_re,Qi.add_re,h1.rdiv h2]
 show (t0.re + t.re) / t0.re = ((1:Int):Rat) + t.re / t0.re
 have:((1:Int):Rat) = 1:=rfl
 grind
theorem Av {t t0:Qi} (h:(!dS t || !iC t0) = true):mF t t0 = (Qi.zero,1):=by
 rw [mF,if_neg]; intro k; simp only [Bool.and_eq_true] at k; simp [k.1,k.2] at h
theorem Fu {t t0:Qi} (h:¬ (!dS t || !iC t0) = true):dS t = true ∧ iC t0 = true ∧ mF t t0 = (Qi.ofInt 1 + t / t0,0):=by
 simp only [Bool.or_eq_true,Bool.not_eq_true',not_or,Bool.not_eq_false] at h
 exact ⟨h.1,h.2,by rw [mF,if_pos (by simp [h.1,h.2])]⟩
def qO (t r g:Qi):Bool:=decide (t.b = 0) && decide (r.b = 0) && iC g && decide (1 ≤ t.re) && decide (1 ≤ r.re)
def oA (t r g:Qi):Qi:=t - (r - Qi.ofInt 1) / g
def uK (t r g:Qi):Qi × Int:=if qO t r g then (if (oA t r g).re < 1 then (Qi.zero,5) else (oA t r g,0)) else (Qi.zero,1)
theorem Fw {t r g:Qi} (h:qO t r g = false):uK t r g = (Qi.zero,1):=by rw [uK,h]; rfl
theorem Ay {t r g:Qi} (h:qO t r g = true) (h2:(oA t r g).re < 1):uK t r g = (Qi.zero,5):=by rw [uK,if_pos h,if_pos h2]
theorem Kt {t r g:Qi} (h:qO t r g = true) (h2:¬ (oA t r g).re < 1):uK t r g = (oA t r g,0):=by rw [uK,if_pos h,if_neg h2]
theorem Kr (t r g:Qi):(!decide (t.b = 0) || !decide (r.b = 0) || !iC g || decide (nK t (Qi.ofInt 1) < 0) || decide (nK r (Qi.ofInt 1) < 0)) = !qO t r g:=by
 unfold qO
 by_cases h1:t.b = 0
 ·by_cases h2 : r.b = 0
  ·rw [decide_eq_true h1, decide_eq_true h2]
   have e1:decide (nK t (Qi.ofInt 1) < 0) = !decide (1 ≤ t.re):=by rw [← decide_not]; congr 1; rw [Ok (Re.of h1)]; exact propext Rat.not_le.symm
   have e2:decide (nK r (Qi.ofInt 1) < 0) = !decide (1 ≤ r.re):=by rw [← decide_not]; congr 1; rw [Ok (Re.of h2)]; exact propext Rat.not_le.symm
   rw [e1,e2]; cases iC g <;> cases decide (1 ≤ t.re) <;> cases decide (1 ≤ r.re) <;> rfl
  ·rw [decide_eq_false h2]; simp
 ·rw [decide_eq_false h1]; simp
theorem Ks (t r g:Qi):(!decide (t.b = 0) || !decide (r.b = 0) || decide (wV t (Qi.ofInt 1) < 0) || decide (wV r (Qi.ofInt 1) < 0) || !iC g) = !qO t r g:=by
 unfold qO
 by_cases h1:t.b = 0
 ·by_cases h2 : r.b = 0
  ·rw [decide_eq_true h1, decide_eq_true h2]
   have e1:decide (wV t (Qi.ofInt 1) < 0) = !decide (1 ≤ t.re):=by rw [← decide_not]; congr 1; rw [Gt (Re.of h1)]; exact propext Rat.not_le.symm
   have e2:decide (wV r (Qi.ofInt 1) < 0) = !decide (1 ≤ r.re):=by rw [← decide_not]; congr 1; rw [Gt (Re.of h2)]; exact propext Rat.not_le.symm
   rw [e1,e2]; cases iC g <;> cases decide (1 ≤ t.re) <;> cases decide (1 ≤ r.re) <;> rfl
  ·rw [decide_eq_false h2]; simp
 ·rw [decide_eq_false h1]; simp
theorem Oy {t r g:Qi} (h:qO t r g = true):Re t ∧ Re r ∧ iC g = true:=by
 unfold qO at h; simp only [Bool.and_eq_true,decide_eq_true_eq] at h
 exact ⟨Re.of h.1.1.1.1,Re.of h.1.1.1.2,h.1.1.2⟩
theorem Fv {t r g:Qi} (h:qO t r g = true):Re (oA t r g):=by
 obtain ⟨h1,h2,h3⟩:=Oy h
 exact h1.sub ((h2.sub Re.one).div (Dx h3))
end Fl
end
section
namespace Fl
def lv (l:List (Nat × Nat)):List (Qi × Qi):=l.map fun e=>(q32 e.1,q32 e.2)
abbrev bI (l:List (Nat × Nat)) (i:Nat):Nat:=(l.getD i (0,0)).1
abbrev bO (l:List (Nat × Nat)) (i:Nat):Nat:=(l.getD i (0,0)).2
theorem Dk {l:List (Nat × Nat)} {i:Nat} (h:i < l.length):eF (lv l) i = q32 (bI l i) ∧ eV (lv l) i = q32 (bO l i):=by
 unfold eF eV bI bO lv
 simp [List.getD,List.getElem?_map,List.getElem?_eq_getElem h]
structure Ej (l:List (Nat × Nat)):Prop where
 pos:∀ i,i < l.length → pw (bI l i) = true ∧ pw (bO l i) = true
 up:∀ i,0 < i → i < l.length → (q32 (bI l (i - 1))).re < (q32 (bI l i)).re
 n0:0 < l.length
 n1:l.length ≤ 256
section
variable {l:List (Nat × Nat)} {f:Qi}
theorem Ej.re (h:Ej l) {i:Nat} (hi:i < l.length):Re (eF (lv l) i) ∧ Re (eV (lv l) i) ∧ 0 < (eF (lv l) i).re ∧ 0 < (eV (lv l) i).re:=by
 obtain ⟨e1,e2⟩:=Dk hi
 obtain ⟨p1,p2⟩:=h.pos i hi
 rw [e1,e2]; exact ⟨Re.q32 _,Re.q32 _,zG p1,zG p2⟩
theorem Ej.lt (h:Ej l) {i:Nat} (h0:0 < i) (hi:i < l.length):(eF (lv l) (i - 1)).re < (eF (lv l) i).re:=by
 rw [(Dk hi).1,(Dk (show i - 1 < l.length by omega)).1]; exact h.up i h0 hi
end
end Fl
end
section
namespace Fl
open Ieee
def bH (c n:Nat):List (Nat × Nat):=(List.range n).map fun i=>(single.nearest false (i + 1) 0,single.nearest false ((i + 1) * c) 0)
theorem iM (c n:Nat):(bH c n).length = n:=by simp [bH]
theorem mW {c n i:Nat} (h:i < n):bI (bH c n) i = single.nearest false (i + 1) 0 ∧ bO (bH c n) i = single.nearest false ((i + 1) * c) 0:=by
 unfold bI bO bH
 simp [List.getD,List.getElem?_map,List.getElem?_range h]
end Fl
end
section
open Go Go.RowKit
theorem uJ:zK Tryz.prog 256 Extern.MathFloatBits.float64bits:=vT Tryz.func256 (by kernel_rfl) (by kernel_rfl) (by kernel_rfl) (by kernel_rfl)
theorem Ov:zK Tryz.prog 292 Extern.MathFloatBits.float64frombits:=vT Tryz.func292 (by kernel_rfl) (by kernel_rfl) (by kernel_rfl) (by kernel_rfl)
end
section
open Go Go.RowKit
open Fl
abbrev Vg (k:FloatKind) (a b:Nat):Ty:=Il k (fun x y=>x = a ∧ y = b)
theorem Fy {P : Program} {f : FuncId} {k : FloatKind} {Q : Nat → Nat → Prop} {U : Ty} (h : ∀ a b, Q a b → bA P f [Vg k a b] U) : bA P f [Il k Q] U := fun vs V w hi ha => by
 match vs,ha with
 | [v],⟨⟨a,b,e,q⟩,_⟩=>exact h a b q [v] V w hi ⟨⟨a,b,e,rfl,rfl⟩,trivial⟩
theorem Rd (a:Nat):a &&& 4503599627370495 = a % 4503599627370496:=Nat.and_two_pow_sub_one_eq_mod a 52
theorem Ja (a:Nat):a &&& 2047 = a % 2048:=Nat.and_two_pow_sub_one_eq_mod a 11
theorem Xr {m:Nat} (h:m < 4503599627370496):m ||| 4503599627370496 = 4503599627370496 + m:=by
 rw [Nat.or_comm]; exact (Nat.two_pow_add_eq_or_of_lt (i:=52) h 1).symm ▸ rfl
theorem Ry {a:Nat} (h:iB a ≠ 0):a % 4503599627370496 ||| 4503599627370496 = nO a:=(Xr (Nat.mod_lt _ (by decide))).trans (by rw [nO,if_neg h])
theorem Kl (a:Nat):a / 2 ^ 52 % 2048 = iB a:=by unfold iB; rw [show (2:Nat) ^ 52 = 4503599627370496 by decide]
theorem Pc {a:Nat} (ha:a < 18446744073709551616):Ox .gtr .f64 (Ix a) 9218868437227405311 = some (decide (rg Ieee.double a = Ieee.double.infRung)):=by
 rw [Ep]
 have h:=Ua (f:=Ieee.double) (x:=a % 9223372036854775808) (m:=9218868437227405311) bd (by decide) (by decide)
 have e1:rg Ieee.double (a % 9223372036854775808) = rg Ieee.double a:=by unfold rg; rw [qY,Nat.mod_mod]
 have e2:ng Ieee.double (a % 9223372036854775808) = false:=by unfold ng; rw [qY,Nat.div_eq_of_lt (Nat.mod_lt _ (by decide))]; rfl
 rw [e1,e2] at h
 show some (Ieee.double.order _ _ == some .gt) = _
 rw [h]; simp
theorem Lh {a:Nat}:Ox .neq .f64 a a = some (decide (Ieee.double.infRung < rg Ieee.double a)):=congrArg some (Dv bd)
theorem Hr (a:Nat):(!decide (Ieee.double.infRung < rg Ieee.double a) && !decide (rg Ieee.double a = Ieee.double.infRung)) = fin Ieee.double a:=by
 unfold fin; rw [Bool.eq_iff_iff]; simp; omega
def vF (p:Nat):Qi:=if fin Ieee.single p then q32 p else Qi.zero
theorem wL (p:Nat):aH (vF p) 9:=by
 unfold vF; split
 ·rename_i h; exact ⟨Ku h⟩
 ·exact aH.zero (by decide)
theorem Xe (p:Nat):Re (vF p):=by
 unfold vF; split
 ·exact Re.q32 p
 ·exact ⟨rfl⟩
theorem Xd (p:Nat):(decide ((if fin Ieee.single p then (0:Int) else 1) = 0) && decide (0 < nK (vF p) (Qi.ofInt 0))) = pw p:=by
 have e:0 < nK (vF p) (Qi.ofInt 0) ↔ 0 < (vF p).re:=by rw [lM (Xe p).b (Qi.int_a 0).2.1,Fi]; exact Iff.rfl
 unfold pw
 cases h:fin Ieee.single p with
 | false=>simp
 | true =>
  have:vF p = q32 p:=by unfold vF; rw [if_pos h]
  rw [this] at e
  rw [Bool.eq_iff_iff]; simp [this,e,Gr]
def vD (a:Nat):Qi:=if fin Ieee.double a then Bv a else Qi.zero
def Vo (p a:Nat):Prop:=a < 18446744073709551616 ∧ fin Ieee.double a = fin Ieee.single p ∧ vD a = vF p
theorem My {p a:Nat} (h:oC .f32 .f64 p a):Vo p a:=by
 obtain ⟨h1,h2,_⟩:=Sg h
 refine ⟨h1,h2,?_⟩
 unfold vD vF; rw [h2]
 split
 ·rename_i k; exact Mf h k
 ·rfl
theorem Rp {b:Nat} (h:oC .f32 .f64 0 b):b = 0:=by
 unfold oC at h
 rw [if_neg (by decide)] at h
 have e:FloatKind.f32.decode 0 = .number false 0 (-149):=by decide
 rw [e] at h; simp only at h
 have e2:FloatKind.f64.encode (.number false 0 (-149)) = 0:=by decide
 rw [e2] at h
 have e3:(FloatKind.f64.decode 0).isInfinity = false:=by decide
 rw [e3] at h; simpa using h
theorem Fq (a:Nat):iB a < 2048:=Nat.mod_lt _ (by decide)
theorem Bi (a:Nat):nO a < 9007199254740992:=by unfold nO; split <;> omega
abbrev wP (a:Nat):Int:=nF (decide (9223372036854775808 ≤ a)) (nO a)
theorem Cl (a:Nat):(dg (wP a).natAbs).length ≤ 2:=by
 rw [uP]; exact tK (by have:=Bi a; show _ < 4294967296 ^ 2; omega)
theorem zP:wP 0 = 0:=by decide
theorem Ke {a k : Nat} (ha : a < 18446744073709551616) (hk : k = max (iB a) 1 - 1) (hf : fin Ieee.double a = true) :
  Qi.mk' (nF (decide (wP a < 0)) ((wP a).natAbs * 2 ^ k)) (nF (decide (wP 0 < 0)) ((wP 0).natAbs * 2 ^ 0)) (1 * 2 ^ Na) = vD a:=by
 have h:=Me ha hk
 have e1:=qX (wP a) (2 ^ k)
 rw [e1,zP,Nat.one_mul,← qA]
 have e2:nF (decide ((0:Int) < 0)) ((0:Int).natAbs * 2 ^ 0) = 0:=by decide
 rw [e2,h]; unfold vD; rw [hf]; rfl
theorem Tw {a:Nat} (ha:a < 18446744073709551616) (he:1075 ≤ iB a):Qi.ofInt (nF (decide (wP a < 0)) ((wP a).natAbs * 2 ^ (max (iB a) 1 - 1075))) = Bv a:=by
 rw [← Qi.mk_int,qX,← qA,show max (iB a) 1 = iB a by omega]
 exact Qf ha he
theorem Ou {a:Nat} (ha:a < 18446744073709551616) (h:max (iB a) 1 < 1075):Qi.mk' (wP a) 0 (1 * 2 ^ (1075 - max (iB a) 1)) = Bv a:=by
 rw [Nat.one_mul]; exact Md ha rfl h
@[irreducible] def wF:Nat:=2050
theorem Sf:wF = 2050:=by unfold wF; rfl
theorem Wl {a:Nat} (ha:a < 18446744073709551616):Qi.Fit (Bv a) wF:=by
 have hex:=Fq a; have hma:=Bi a; have hw:=wM; have hF:=Sf
 have hpow:∀ k,2 ^ k ≤ BB ^ k:=fun k=>Nat.pow_le_pow_left (by decide) k
 unfold Bv
 refine Qi.Fit.mk (Nat.two_pow_pos _) ?_ (Nat.pow_pos cO) ?_
 ·rw [rV ha, uP]
  have h1:nO a < BB ^ 2:=by show _ < 4294967296 ^ 2; omega
  have h2:nO a * 2 ^ (iB a - 1) < BB ^ 2 * BB ^ (iB a - 1):=Nat.mul_lt_mul_of_lt_of_le h1 (hpow _) (Nat.pow_pos (by decide))
  rw [← Nat.pow_add] at h2
  exact Nat.lt_of_lt_of_le h2 (Nat.pow_le_pow_right cO zo)
 ·exact Nat.lt_of_le_of_lt (hpow _) (Nat.pow_lt_pow_right (by decide) zo)
def iu:Qi:=Qi.mk' 0 1 1
theorem Xn:iu.a = 0 ∧ iu.b = 1 ∧ iu.den = 1:=Qi.uniq (A:=0) (B:=1) (D:=1) (by decide) (by decide)
theorem Ud:aH iu 1:=⟨Qi.Fit.mk (by decide) (by decide) (by decide) (by decide)⟩
theorem Xs:∀ v V,(eB [Is (.bool false),Is (.slice none 0 0),aB (decide ((1:Int) < 0)),aD (1:Int).natAbs,lC 1 [bD 1]]).p v V → (QT iu).p v V:=by
 obtain ⟨e1,e2,e3⟩:=Xn
 rw [QT,e1,e2,e3]
 exact rG ⟨lJ,hZ,lJ,lJ,nA,trivial⟩
theorem Qu:Qi.zero * iu = Qi.zero:=by
 refine Qi.ext' ?_ ?_
 ·rw [Qi.mul_re]; show (0:Int) * _ - (0:Rat) * _ = ((0:Int):Rat); have:((0:Int):Rat) = 0:=rfl; grind
 ·rw [Qi.mul_im]; show (0:Int) * _ + (0:Rat) * _ = (0:Rat); have:((0:Int):Rat) = 0:=rfl; grind
theorem yR (m k:Nat) (h:m < BB ^ 2):(dg (m * 2 ^ k)).length ≤ k + 2:=by
 refine tK ?_
 have:2 ^ k ≤ BB ^ k:=Nat.pow_le_pow_left (by decide) k
 rw [Nat.add_comm,Nat.pow_add]
 exact Nat.mul_lt_mul_of_lt_of_le h this (Nat.pow_pos (by decide))
theorem Nt {a:Nat}:bA Tryz.prog 254 [xY .f64 a] (aB (decide (Ieee.double.infRung < rg Ieee.double a))):=by
 refine bA.intro Tryz.func254 rfl Tryz.ntmps254 rfl (fun cx=>(ts (ro rfl (cQ cV) (eX (ts (rm rfl (rm rfl (ro rfl (sK (Ht rfl) (Ht rfl) (fun x y hx hy=>by subst hx hy; exact Lh)) (ra rfl (eX ?_))))))))))
 exact fW rfl (eU rfl)
section
attribute [local irreducible] callFunc
theorem Tc {a:Nat} (ha:a < 18446744073709551616):bA Tryz.prog 286 [xY .f64 a] (xY .f64 (Ix a)):=by
 refine bA.intro Tryz.func286 rfl Tryz.ntmps286 rfl (fun cx=>(ts (ro rfl (cQ aT.cF) (eX (ts (rm rfl (ro rfl (pV uJ (Ht rfl)) (ro rfl (Lo (Ht rfl) ha) (ro rfl (wU Ov (Ht rfl)) (ra rfl (eX ?_)))))))))))
 exact fW rfl (eU rfl)
end
theorem Ns {a:Nat} (ha:a < 18446744073709551616):bA Tryz.prog 255 [xY .f64 a,NT .i64 0] (aB (decide (rg Ieee.double a = Ieee.double.infRung))):=by
 refine bA.intro Tryz.func255 rfl Tryz.ntmps255 rfl (fun cx=>(ts (ro rfl (cQ cV) (eX (cK (ts (rm rfl (ro rfl (bS (Ht rfl) (cJ 0)) (eX (En (Ht rfl) (by decide) (cY (rm rfl (ro rfl (cZ Tryz.call286 (Tc (by assumption)) ⟨(Ht rfl),trivial⟩) ?_)))))))))))))
 refine ra rfl (eX (ts (rm rfl (ro rfl (sK (Ht rfl) aT.cF (fun x y hx hy=>by subst hx hy; exact Pc ha)) (ra rfl (eX ?_))))))
 exact fW rfl (eU rfl)
theorem Fb {a:Nat} (ha:a < 18446744073709551616):bA Tryz.prog 204 [xY .f64 a] (aB (fin Ieee.double a)):=by
 refine bA.intro Tryz.func204 rfl Tryz.ntmps204 rfl (fun cx=>(ts (ro rfl (cQ cV) (eX (ts (rm rfl (ro rfl (cZ Tryz.call254 Nt ⟨(Ht rfl),trivial⟩) (ro rfl (cB (Ht rfl)) (rm rfl (fQ rfl rfl (eK rfl rfl (Ht rfl) (fun h=>cX (Ht rfl))) (fQ rfl rfl (eK rfl rfl (Ht rfl) (fun h=>cZ Tryz.call255 (Ns (by assumption)) ⟨(fJ rfl h),(cJ 0),trivial⟩)) ?_)))))))))))
 refine fQ rfl rfl (eK rfl rfl (Ht rfl) (fun h=>cB (fJ rfl h))) (ro rfl (dO (Ht rfl) (fun h=>(fJ rfl h))) (ra rfl (eX (fW rfl (fX (eU rfl) ?_)))))
 exact (fC (Hr a))
section
attribute [local irreducible] callFunc
theorem Fg {a:Nat} (ha:a < 18446744073709551616):bA Tryz.prog 205 [xY .f64 a] (eD [cA (wP a),aN .i64 (max (iB a:Int) 1 - 1075)]):=by
 have hex:=Fq a; have hma:=Bi a
 refine bA.intro Tryz.func205 rfl Tryz.ntmps205 rfl (fun cx=>(ts (rn rfl (eW (Ts:=[Is (.bool false),Is (.slice none 0 0)]) O_30 rfl (fun V=>aW zd (aW zd (aG)))) fun B2=>(ro rfl (cQ (cJ 0)) (eX (ts (rm rfl (ro rfl (pV uJ (Ht rfl)) (ra rfl (eX (ts (rm rfl (ro rfl (aC.nat (kC rfl (Ht rfl) (cJ 4503599627370495) z7 z7) (Rd a)) ?_)))))))))))))
 refine rm rfl (ro rfl (bT (Ht rfl) (cJ 52) (by decide)) (ro rfl (aC.nat (kC rfl (Ht rfl) (cJ 2047) z7 z7) ((Ja _).trans (Kl a))) (ro rfl (gZ U_274 U_3 (Ht rfl) z6) (ra rfl (ra rfl (eX (cK (iD (fun (uu:Unit)=>True) (fun (uu:Unit)=>[(2,eS B2 0),(4,NT .u64 a),(5,NT .u64 (nO a)),(6,NT .i64 (iB a))]) (fun (uu:Unit)=>[box B2 30 [Is (.bool false),Is (.slice none 0 0)]]) ?_ (fun uu _=>?_)))))))))
 ·refine ts (rm rfl (ro rfl (dP (Ht rfl) (cJ 0)) (eX (dQ (Ht rfl) (fun hb => ?_) (fun hb => ?_)))))
  ·have hb2 : iB a ≠ 0 := by simp only [decide_eq_true_eq] at hb; omega
   refine cY (rm rfl (ro rfl (aC.nat (kL rfl (Ht rfl) (cJ 4503599627370496) z7 z7) (Ry hb2)) (ra rfl (eX (aO () trivial (zS rfl) (aU (aR rfl) aY))))))
  ·have hb2 : iB a = 0 := by simp only [decide_eq_false_iff_not] at hb; omega
   refine cU (aO () trivial (aQ rfl (aQ rfl (aZ rfl (jO (by rw [nO,if_pos hb2])) (zS rfl)))) (aU (aR rfl) aY))
 ·refine ts (rm rfl (ro rfl (bT (Ht rfl) (cJ 63) (by decide)) (ro rfl (aC.imp (bS (Ht rfl) (cJ 1)) (fC (b := decide (9223372036854775808 ≤ a)) (by rw [Bool.eq_iff_iff]; simp only [decide_eq_true_eq]; omega))) ?_)))
  refine rm rfl (ro rfl (cZ Tryz.call207 (uD (m:=nO a) zo) ⟨(Ht rfl),trivial⟩) (ro rfl (cZ K_197 jD ⟨(Ht rfl),(Ht rfl),trivial⟩) (rm rfl (ro rfl (Pv (Ht rfl) cV) (ro rfl (fF (Ht rfl) cV (tQ zo)) (gQ Z_30 (Ht rfl) (Ht rfl) rfl (i:=0) rfl (aK rfl) rfl rfl (ra rfl (eX ?_))))))))
  exact bC rfl (fK A_30 Z_30 rfl (i:=0) rfl rfl) (eU rfl)
end
theorem Hh {a:Nat} (ha:a < 18446744073709551616):bA Tryz.prog 113 [Vg .f64 a 0] (eD [aS (vD a),aN .i64 (if fin Ieee.double a then 0 else 1)]):=by
 have hex:=Fq a; have hma:=Bi a
 have e0:iB 0 = 0:=by decide
 have m0:nO 0 = 0:=by decide
 obtain ⟨k,hk⟩:∃ k,k = max (iB a) 1 - 1:=⟨_,rfl⟩
 have hw:=wM
 refine bA.intro Tryz.func113 rfl Tryz.ntmps113 rfl (fun cx=>(ts (rn rfl (eW (Ts:=[Is (.bool false),Is (.slice none 0 0),Is (.bool false),Is (.slice none 0 0),Is (.slice none 0 0)]) O_32 rfl (fun V=>aW zd (aW zd (aW zd (aW zd (aW zd (aG))))))) fun B2=>(ro rfl (cQ (cJ 0)) (eX (cK (ts (rm rfl (ro rfl (aC.imp (sM (Ht rfl)) (jQ (Q:=_) (fun _ h=>by obtain ⟨_,h1,h2⟩:=h; exact h1))) (ro rfl (cZ Tryz.call204 (Fb (by assumption)) ⟨(Ht rfl),trivial⟩) ?_))))))))))
 refine ro rfl (cB (Ht rfl)) (rm rfl (fQ rfl rfl (eK rfl rfl (Ht rfl) (fun h=>cX (Ht rfl))) (fQ rfl rfl (eK rfl rfl (Ht rfl) (fun h=>aC.imp (sL (fJ rfl h)) (jQ (Q:=_) (fun _ h=>by obtain ⟨_,h1,h2⟩:=h; exact h2)))) (fQ rfl rfl (eK rfl rfl (Ht rfl) (fun h=>cZ Tryz.call204 (Fb (a:=0) (by decide)) ⟨(fJ rfl h),trivial⟩)) (fQ rfl rfl (eK rfl rfl (Ht rfl) (fun h=>cB (fJ rfl h))) (ro rfl (dT (Ht rfl) (fun h=>(fJ rfl h))) (eX (dQ (Ht rfl) (fun hb=>?_) (fun hb=>?_)))))))))
 ·have hb2 : fin Ieee.double a = false := by
   have z:fin Ieee.double 0 = true:=by decide
   rw [z] at hb; simpa using hb
  refine ts (ro rfl (aC.imp (kQ ) fR) (gQ Z_32 (Ht rfl) (Ht rfl) rfl (i:=0) rfl (aK rfl) rfl rfl (ro rfl (cQ (cJ 1)) (eX (bC rfl (fX (fK A_32 Z_32 rfl (i:=0) rfl rfl) ?_) (fX (eU rfl) ?_))))))
  ·exact (eO (by unfold vD; rw [hb2]; rfl))
  ·exact (aL (by rw [hb2]; rfl))
 ·have hb2 : fin Ieee.double a = true := by
   simp only [Bool.or_eq_false_iff,Bool.not_eq_false'] at hb; exact hb.1
  refine cU (ts (rm rfl (ro rfl (aC.imp (sM (Ht rfl)) (jQ (Q:=_) (fun _ h=>by obtain ⟨_,h1,h2⟩:=h; exact h1))) (ro rfl (cZ Tryz.call205 (Fg (a:=a) ha) ⟨(Ht rfl),trivial⟩) (rm rfl (ro rfl (dK (Ht rfl) rfl) (ro rfl (dK (Ht rfl) rfl) (rn rfl (eW (Ts:=[Is (.bool false),Is (.slice none 0 0)]) O_30 rfl (fun V=>aW zd (aW zd (aG)))) fun B4=>(gQ Z_30 (Ht rfl) (Ht rfl) rfl (i:=1) rfl (aK rfl) rfl rfl (ra rfl (eX (ts (rm rfl (ro rfl (aC.imp (sL (Ht rfl)) (jQ (Q:=_) (fun _ h=>by obtain ⟨_,h1,h2⟩:=h; exact h2))) ?_))))))))))))))
  refine ro rfl (cZ Tryz.call205 (Fg (a:=0) (by decide)) ⟨(Ht rfl),trivial⟩) (rm rfl (ro rfl (dK (Ht rfl) rfl) (ro rfl (dK (Ht rfl) rfl) (rn rfl (eW (Ts:=[Is (.bool false),Is (.slice none 0 0)]) O_30 rfl (fun V=>aW zd (aW zd (aG)))) fun B6=>(gQ Z_30 (Ht rfl) (Ht rfl) rfl (i:=2) rfl (aK rfl) rfl rfl (ra rfl (eX (ts (rm rfl (ro rfl (zE (Ht rfl) (tQ zo)) (rm rfl (ro rfl (zE (Ht rfl) (tQ zo)) (ro rfl (aC.imp (Pw cV (Ht rfl) (Ht rfl)) (aL (b:=((Na:Nat):Int)) (by rw [e0,hw]; omega))) ?_)))))))))))))
  refine ra rfl (eX (cK ?_))
  have d1:=Cl a
  have d2:=Cl 0
  have d3:(dg ((wP a).natAbs * 2 ^ k)).length ≤ 2050:=Nat.le_trans (yR _ _ (Nat.lt_of_lt_of_le (vW _) (Nat.pow_le_pow_right cO d1))) zo
  have d4:(dg (1 * 2 ^ Na)).length ≤ 2050:=Nat.le_trans (yR _ _ (by decide)) zo
  have hval:=Ke ha hk hb2
  refine fZ (m:=20) (dp 4 rfl (eZ iH (Ht rfl) rfl) (dq 37 0 rfl (eY A_4 Z_4 (Ht rfl) (i:=1) rfl rfl) (dp 4 rfl (eZ cM (Ht rfl) rfl) (dq 39 2 rfl (eY A_28 Z_28 (Ht rfl) (i:=1) rfl rfl) (dp 5 rfl (cX (Ht rfl)) (dp 8 rfl (cX (Ht rfl)) (dC 41 4 42 5 rfl (aC.imp (zB (Ht rfl) (Ht rfl) (tQ zo)) (aL (b:=((k:Nat):Int)) zo)) (dC 40 3 43 6 rfl (cZ Tryz.call206 (Ai (m:=(wP a).natAbs) (k:=k) zo zo) ⟨(Ht rfl),(Ht rfl),trivial⟩) (dC 38 1 44 7 rfl (cZ K_197 jD ⟨(Ht rfl),(Ht rfl),trivial⟩) ?_)))))))))
  refine dp 6 rfl (eZ iH (Ht rfl) rfl) (dq 46 9 rfl (eY A_4 Z_4 (Ht rfl) (i:=2) rfl rfl) (dp 6 rfl (eZ cM (Ht rfl) rfl) (dq 48 11 rfl (eY A_28 Z_28 (Ht rfl) (i:=2) rfl rfl) (dp 7 rfl (cX (Ht rfl)) (dp 8 rfl (cX (Ht rfl)) (dC 50 13 51 14 rfl (aC.imp (zB (Ht rfl) (Ht rfl) (tQ zo)) (aL (b:=((0:Nat):Int)) (by rw [e0,hw]; omega))) ?_))))))
  refine dC 49 12 52 15 rfl (cZ Tryz.call206 (Ai (m:=(wP 0).natAbs) (k:=0) zo zo) ⟨(Ht rfl),(Ht rfl),trivial⟩) (dC 47 10 53 16 rfl (cZ K_197 jD ⟨(Ht rfl),(Ht rfl),trivial⟩) (d0 rfl (aC.imp (cD (xs:=[_]) U_28 Z_24 O_24 (cW (cJ 1) cG) rfl rfl rfl) nA) (dp 8 rfl (cX (Ht rfl)) (fV bB rfl (by kernel_rfl) (zF (zF (zF (zF (zF (aV ?_))))))))))
  refine ro rfl (cZ Tryz.call206 (Ai (m:=1) (k:=Na) (by decide) zo) ⟨(Ht rfl),(Ht rfl),trivial⟩) (ro rfl (cZ K_108 (eQ (qL (A:=nF (decide (wP a < 0)) ((wP a).natAbs * 2 ^ k)) (B:=nF (decide (wP 0 < 0)) ((wP 0).natAbs * 2 ^ 0)) (D:=1 * 2 ^ Na) (by rw [Nat.one_mul]; exact Nat.two_pow_pos _) (by rw [uP]; omega) (by rw [zP]; decide) zo) (eO hval)) ⟨(Ht rfl),(Ht rfl),(Ht rfl),trivial⟩) ?_)
  refine gQ Z_32 (Ht rfl) (Ht rfl) rfl (i:=0) rfl (aK rfl) rfl rfl (ro rfl (cQ (cJ 0)) (eX (bC rfl (fK A_32 Z_32 rfl (i:=0) rfl rfl) (fX (eU rfl) ?_))))
  exact (aL (by rw [hb2]; rfl))
theorem Cu {p : Nat} : bA Tryz.prog 113 [Il .f64 (fun a b => Vo p a ∧ b = 0)] (eD [aS (vF p), aN .i64 (if fin Ieee.single p then 0 else 1)]) := Fy fun a b h => by
 obtain ⟨h,hb⟩:=h
 subst hb
 have k:=Hh h.1
 rw [h.2.1,h.2.2] at k
 exact k
theorem zW {p:Nat}:bA Tryz.prog 31 [Vg .f32 p 0] (eD [aS (vF p),aN .i64 (if fin Ieee.single p then 0 else 1)]):=by
 refine bA.intro Tryz.func31 rfl Tryz.ntmps31 rfl (fun cx=>(ts (rn rfl (eW (Ts:=[Is (.bool false),Is (.slice none 0 0),Is (.bool false),Is (.slice none 0 0),Is (.slice none 0 0)]) O_32 rfl (fun V=>aW zd (aW zd (aW zd (aW zd (aW zd (aG))))))) fun B2=>(ro rfl (cQ (cJ 0)) (eX (ts (rm rfl (ro rfl (aC.imp (Lr Tryz.runUnderlying67 Tryz.runUnderlying200 (Ht rfl)) (Ot (R:=fun a b=>Vo p a ∧ b = 0) (fun a b h=>by obtain ⟨_,_,⟨rfl,rfl⟩,h1,h2⟩:=h; exact ⟨My h1,Rp h2⟩))) ?_))))))))
 refine ro rfl (cZ Tryz.call113 Cu ⟨(Ht rfl),trivial⟩) (ro rfl (dK (Ht rfl) rfl) (ro rfl (dK (Ht rfl) rfl) (gQ Z_32 (Ht rfl) (Ht rfl) rfl (i:=0) rfl (aK rfl) rfl rfl (ra rfl (eX ?_)))))
 exact bC rfl (fK A_32 Z_32 rfl (i:=0) rfl rfl) (eU rfl)
theorem Fc {p:Nat}:bA Tryz.prog 78 [xY .f32 p] (eD [aS (vF p),aB (pw p)]):=by
 refine bA.intro Tryz.func78 rfl Tryz.ntmps78 rfl (fun cx=>(ts (rn rfl (eW (Ts:=[Is (.bool false),Is (.slice none 0 0),Is (.bool false),Is (.slice none 0 0),Is (.slice none 0 0)]) O_32 rfl (fun V=>aW zd (aW zd (aW zd (aW zd (aW zd (aG))))))) fun B2=>(ro rfl (cQ cV) (eX (ts (rm rfl (ro rfl (qR (Ht rfl) aT.cF) (ro rfl (cZ Tryz.call31 zW ⟨(Ht rfl),trivial⟩) (rm rfl (ro rfl (dK (Ht rfl) rfl) (ro rfl (dK (Ht rfl) rfl) ?_))))))))))))
 refine rn rfl (eW (Ts:=[Is (.bool false),Is (.slice none 0 0),Is (.bool false),Is (.slice none 0 0),Is (.slice none 0 0)]) O_32 rfl (fun V=>aW zd (aW zd (aW zd (aW zd (aW zd (aG))))))) fun B4=>gQ Z_32 (Ht rfl) (Ht rfl) rfl (i:=1) rfl (aK rfl) rfl rfl (ra rfl (eX (cK (W.D_start (m:=10) (fun b=>cond b ([box B2 32 [aB (decide ((vF p).a < 0)),aD (vF p).a.natAbs,aB (decide ((vF p).b < 0)),aD (vF p).b.natAbs,aD (du (vF p))],box B4 32 [aB (decide ((vF p).a < 0)),aD (vF p).a.natAbs,aB (decide ((vF p).b < 0)),aD (vF p).b.natAbs,aD (du (vF p))]]) _) 9 ?_))))
 refine W.D_step (Ei:=[(4,_)]) rfl rfl (W.Srcs.cons (W.Src.pre rfl rfl) W.Srcs.nil) rfl (by kernel_rfl) (dX rfl (eJ A_32 Z_32 (Ht rfl) (i:=1) rfl rfl rfl)) (W.D_step (Ei:=[(5,_)]) rfl rfl (W.Srcs.cons (W.Src.pre rfl rfl) W.Srcs.nil) rfl (by kernel_rfl) (dX rfl (cX (Ht rfl))) (W.D_step (Ei:=[(13,_)]) rfl rfl (W.Srcs.cons (W.Src.op 1 rfl rfl) W.Srcs.nil) rfl (by kernel_rfl) (dX rfl (kK (Ht rfl) cV)) (W.D_step (Ei:=[(14,_)]) rfl rfl (W.Srcs.cons (W.Src.op 2 rfl rfl) W.Srcs.nil) rfl (by kernel_rfl) (dX rfl (cX (Ht rfl))) ?_)))
 refine W.D_step (Ei:=[(4,_),(15,_)]) rfl rfl (W.Srcs.cons (W.Src.pre rfl rfl) (W.Srcs.cons (W.Src.op 3 rfl rfl) W.Srcs.nil)) rfl (by kernel_rfl) (eK rfl rfl (Ht rfl) (fun h=>eJ A_32 Z_32 (Ht rfl) (i:=1) rfl rfl rfl)) (W.D_step (Ei:=[(15,_)]) rfl rfl (W.Srcs.cons (W.Src.op 3 rfl rfl) W.Srcs.nil) rfl (by kernel_rfl) (eK rfl rfl (Ht rfl) (fun h=>cZ K_36 (mT (n:=0) (by decide) (by decide)) ⟨(cJ 0),trivial⟩)) (W.D_step (Ei:=[(16,_),(17,_),(15,_)]) rfl rfl (W.Srcs.cons (W.Src.op 4 rfl rfl) (W.Srcs.cons (W.Src.op 5 rfl rfl) (W.Srcs.cons (W.Src.op 3 rfl rfl) W.Srcs.nil))) rfl (by kernel_rfl) (eK rfl rfl (Ht rfl) (fun h=>cZ K_30 (oG (x:=vF p) (y:=Qi.ofInt 0) (L:=9) (M:=1) (hx:=wL p) (hy:=(aH.zero (Nat.le_refl 1):aH (Qi.ofInt 0) 1)) zo) ⟨(fJ rfl h),(fJ rfl h),trivial⟩)) ?_))
 refine W.D_pure (Ei:=[(18,_),(15,_)]) rfl rfl (W.Srcs.cons (W.Src.op 6 rfl rfl) (W.Srcs.cons (W.Src.op 3 rfl rfl) W.Srcs.nil)) rfl (fun _=>eK rfl rfl (Ht rfl) (fun h=>qS (fJ rfl h) cV)) (W.D_pure (Ei:=[(15,_),(19,_)]) rfl rfl (W.Srcs.cons (W.Src.op 3 rfl rfl) (W.Srcs.cons (W.Src.op 7 rfl rfl) W.Srcs.nil)) rfl (fun _=>dX rfl (dO (Ht rfl) (fun h=>(fJ rfl h)))) (W.D_put (Ei:=[(2,_),(12,_)]) rfl rfl (W.Srcs.cons (W.Src.pre rfl rfl) (W.Srcs.cons (W.Src.op 0 rfl rfl) W.Srcs.nil)) rfl (mG Z_32 (Ht rfl) (Ht rfl) rfl (i:=0) rfl (aK rfl) rfl rfl) ?_))
 refine W.D_done bB rfl (by kernel_rfl) rfl (W.F_val (W.F_val (W.F_val (W.F_val (W.F_val (W.F_val (W.F_val (W.F_val (W.F_val (W.F_put (W.F_nil (ra rfl (eX (bC rfl (fK A_32 Z_32 rfl (i:=0) rfl rfl) (fX (eU rfl) ?_)))))))))))))))
 exact (fC (Xd p))
section
attribute [local irreducible] callFunc
theorem Af {a:Nat} (ha:a < 18446744073709551616):bA Tryz.prog 277 [xY .f64 a] (aB (fin Ieee.double a)):=by
 refine bA.intro Tryz.func277 rfl Tryz.ntmps277 rfl (fun cx=>(ts (ro rfl (cQ cV) (eX (ts (rm rfl (ro rfl (pV uJ (Ht rfl)) (ro rfl (bT (Ht rfl) (cJ 52) (by decide)) (ro rfl (aC.nat (kC rfl (Ht rfl) (cJ 2047) z7 z7) ((Ja _).trans (Kl a))) (ro rfl (kE (Ht rfl) (cJ 2047)) (ra rfl (eX (fW rfl (fX (eU rfl) ?_))))))))))))))
 exact (fC (by rw [(Gp ha).2.2.2.2.2.2,decide_not]))
theorem zY {a:Nat} (ha:a < 18446744073709551616):bA Tryz.prog 278 [xY .f64 a] (QT (Bv a)):=by
 have hex:=Fq a; have hma:=Bi a
 have d1:=Cl a
 refine bA.intro Tryz.func278 rfl Tryz.ntmps278 rfl (fun cx=>(ts (rn rfl (eW (Ts:=[Is (.bool false),Is (.slice none 0 0),Is (.bool false),Is (.slice none 0 0),Is (.slice none 0 0)]) O_40 rfl (fun V=>aW zd (aW zd (aW zd (aW zd (aW zd (aG))))))) fun B2=>(eX (ts (rm rfl (ro rfl (pV uJ (Ht rfl)) (ra rfl (eX (ts (rm rfl (ro rfl (bT (Ht rfl) (cJ 52) (by decide)) (ro rfl (aC.nat (kC rfl (Ht rfl) (cJ 2047) z7 z7) ((Ja _).trans (Kl a))) ?_)))))))))))))
 refine ro rfl (gZ U_274 U_3 (Ht rfl) z6) (ra rfl (eX (ts (rm rfl (ro rfl (aC.nat (kC rfl (Ht rfl) (cJ 4503599627370495) z7 z7) (Rd a)) (ra rfl (eX (cK (iD (fun (uu:Unit)=>True) (fun (uu:Unit)=>[(2,eS B2 0),(3,NT .u64 a),(4,NT .i64 (max (iB a) 1)),(5,NT .u64 (nO a))]) (fun (uu:Unit)=>[box B2 40 [Is (.bool false),Is (.slice none 0 0),Is (.bool false),Is (.slice none 0 0),Is (.slice none 0 0)]]) ?_ (fun uu _=>?_))))))))))
 ·refine ts (rm rfl (ro rfl (bS (Ht rfl) (cJ 0)) (eX (dQ (Ht rfl) (fun hb => ?_) (fun hb => ?_)))))
  ·have hb2 : iB a = 0 := by simp only [decide_eq_true_eq] at hb; exact hb
   refine cY (ro rfl (cQ (cJ 1)) (eX (aO () trivial (aQ rfl (aQ rfl (aZ rfl (jO (by rw [hb2]; rfl)) (aZ rfl (jO (by rw [nO,if_pos hb2])) aX)))) (aU (aR rfl) aY))))
  ·have hb2 : iB a ≠ 0 := by simp only [decide_eq_false_iff_not] at hb; exact hb
   refine cY (rm rfl (ro rfl (aC.nat (kL rfl (Ht rfl) (cJ 4503599627370496) z7 z7) (Ry hb2)) (ra rfl (eX (aO () trivial (aQ rfl (aQ rfl (aZ rfl (jO (by show iB a = _; omega)) (zS rfl)))) (aU (aR rfl) aY))))))
 ·refine ts (rm rfl (ro rfl (bT (Ht rfl) (cJ 63) (by decide)) (ro rfl (aC.imp (bS (Ht rfl) (cJ 1)) (fC (b := decide (9223372036854775808 ≤ a)) (by rw [Bool.eq_iff_iff]; simp only [decide_eq_true_eq]; omega))) ?_)))
  refine rm rfl (ro rfl (cZ Tryz.call235 (rI zo) ⟨(Ht rfl),trivial⟩) (ro rfl (cZ K_239 jC ⟨(Ht rfl),(Ht rfl),trivial⟩) (rn rfl (eW (Ts:=[Is (.bool false),Is (.slice none 0 0)]) O_38 rfl (fun V=>aW zd (aW zd (aG)))) fun B6=>(gQ Z_38 (Ht rfl) (Ht rfl) rfl (i:=1) rfl (aK rfl) rfl rfl (eX (cK (ts (rm rfl (ro rfl (lI (Ht rfl) (cJ 1075)) (eX (dQ (Ht rfl) (fun hc=>?_) (fun hc=>?_))))))))))))
  ·have hc2 : 1075 ≤ iB a := by simp only [decide_eq_true_eq] at hc; omega
   have hval:=Tw ha hc2
   have d3:(dg ((wP a).natAbs * 2 ^ (max (iB a) 1 - 1075))).length ≤ 2050:=Nat.le_trans (yR _ _ (Nat.lt_of_lt_of_le (vW _) (Nat.pow_le_pow_right cO d1))) zo
   refine cK (fZ (m:=10) (dp 6 rfl (eZ iI (Ht rfl) rfl) (dq 27 0 rfl (eY A_4 Z_4 (Ht rfl) (i:=1) rfl rfl) (dp 6 rfl (eZ dH (Ht rfl) rfl) (dq 29 2 rfl (eY A_27 Z_27 (Ht rfl) (i:=1) rfl rfl) (dp 4 rfl (cX (Ht rfl)) (dq 31 4 rfl (dW (Ht rfl) (cJ 1075) zo z6) (dC 30 3 32 5 rfl (cZ Tryz.call281 (yK (m:=(wP a).natAbs) (k:=max (iB a) 1 - 1075) zo zo) ⟨(Ht rfl),(Ht rfl),trivial⟩) (dC 28 1 33 6 rfl (cZ K_239 jC ⟨(Ht rfl),(Ht rfl),trivial⟩) ?_)))))))))
   refine d0 rfl (rH ) (d0 rfl (cD (xs:=[_]) U_27 Z_24 O_24 (cW (cJ 1) cG) rfl rfl rfl) (fV bB rfl (by kernel_rfl) (zF (zF (aJ (aJ (aV (ro rfl (aC.imp (iE (Ht rfl) (Ht rfl) (Ht rfl)) (fun v V h=>lB hval v V (Sa v V h))) (gQ Z_40 (Ht rfl) (Ht rfl) rfl (i:=0) rfl (aK rfl) rfl rfl (eX ?_))))))))))
   exact fW rfl (fK A_40 Z_40 rfl (i:=0) rfl rfl)
  ·have hc2 : max (iB a) 1 < 1075 := by simp only [decide_eq_false_iff_not] at hc; omega
   have hval:=Ou ha hc2
   obtain ⟨j,hj⟩:∃ j,j = 1075 - max (iB a) 1:=⟨_,rfl⟩
   rw [← hj] at hval
   have d4:(dg (1 * 2 ^ j)).length ≤ 2050:=Nat.le_trans (yR _ _ (by decide)) zo
   refine cU (cK (fZ (m:=6) (dp 6 rfl (eJ A_38 Z_38 (Ht rfl) (i:=1) rfl rfl rfl) (d0 rfl (aC.imp (rH ) rA) (d0 rfl (aC.imp (cD (xs:=[_]) U_27 Z_24 O_24 (cW (cJ 1) cG) rfl rfl rfl) nA) (dp 4 rfl (cX (Ht rfl)) (dq 41 3 rfl (aC.nat (dW (cJ 1075) (Ht rfl) zo z6) hj.symm) (dC 40 2 42 4 rfl (cZ Tryz.call281 (yK (m:=1) (k:=j) (by decide) zo) ⟨(Ht rfl),(Ht rfl),trivial⟩) ?_))))))))
   refine fV bB rfl (by kernel_rfl) (zF (aJ (aJ (aV (ro rfl (cZ K_185 (eQ (pG (A:=wP a) (B:=0) (D:=1 * 2 ^ j) (by rw [Nat.one_mul]; exact Nat.two_pow_pos _) zo (by decide) zo) (lB hval)) ⟨(Ht rfl),(Ht rfl),(Ht rfl),trivial⟩) ?_)))))
   refine gQ Z_40 (Ht rfl) (Ht rfl) rfl (i:=0) rfl (aK rfl) rfl rfl (eX ?_)
   exact fW rfl (fK A_40 Z_40 rfl (i:=0) rfl rfl)
end
theorem Dg {a:Nat} (ha:a < 18446744073709551616):bA Tryz.prog 236 [Vg .f64 a 0] (eD [QT (vD a),aN .i64 (if fin Ieee.double a then 0 else 1)]):=by
 refine bA.intro Tryz.func236 rfl Tryz.ntmps236 rfl (fun cx=>(ts (rn rfl (eW (Ts:=[Is (.bool false),Is (.slice none 0 0),Is (.bool false),Is (.slice none 0 0),Is (.slice none 0 0)]) O_40 rfl (fun V=>aW zd (aW zd (aW zd (aW zd (aW zd (aG))))))) fun B2=>(ro rfl (cQ (cJ 0)) (eX (cK (ts (rm rfl (ro rfl (aC.imp (sM (Ht rfl)) (jQ (Q:=_) (fun _ h=>by obtain ⟨_,h1,h2⟩:=h; exact h1))) (ro rfl (cZ Tryz.call277 (Af (a:=a) ha) ⟨(Ht rfl),trivial⟩) ?_))))))))))
 refine ro rfl (cB (Ht rfl)) (rm rfl (fQ rfl rfl (eK rfl rfl (Ht rfl) (fun h=>cX (Ht rfl))) (fQ rfl rfl (eK rfl rfl (Ht rfl) (fun h=>aC.imp (sL (fJ rfl h)) (jQ (Q:=_) (fun _ h=>by obtain ⟨_,h1,h2⟩:=h; exact h2)))) (fQ rfl rfl (eK rfl rfl (Ht rfl) (fun h=>cZ Tryz.call277 (Af (a:=0) (by decide)) ⟨(fJ rfl h),trivial⟩)) (fQ rfl rfl (eK rfl rfl (Ht rfl) (fun h=>cB (fJ rfl h))) (ro rfl (dT (Ht rfl) (fun h=>(fJ rfl h))) (eX (dQ (Ht rfl) (fun hb=>?_) (fun hb=>?_)))))))))
 ·have hb2 : fin Ieee.double a = false := by
   have z:fin Ieee.double 0 = true:=by decide
   rw [z] at hb; simpa using hb
  refine ts (ro rfl (cZ K_84 (kA (n:=0) (by decide) (by decide)) ⟨(cJ 0),trivial⟩) (gQ Z_40 (Ht rfl) (Ht rfl) rfl (i:=0) rfl (aK rfl) rfl rfl (ro rfl (cQ (cJ 1)) (eX (bC rfl (fX (fK A_40 Z_40 rfl (i:=0) rfl rfl) ?_) (fX (eU rfl) ?_))))))
  ·exact (lB (by unfold vD; rw [hb2]; rfl))
  ·exact (aL (by rw [hb2]; rfl))
 ·have hb2 : fin Ieee.double a = true := by
   simp only [Bool.or_eq_false_iff,Bool.not_eq_false'] at hb; exact hb.1
  refine cU (ts (rm rfl (ro rfl (aC.imp (sM (Ht rfl)) (jQ (Q:=_) (fun _ h=>by obtain ⟨_,h1,h2⟩:=h; exact h1))) (ro rfl (cZ Tryz.call278 (zY (a:=a) ha) ⟨(Ht rfl),trivial⟩) (rm rfl (ro rfl (aC.imp (sL (Ht rfl)) (jQ (Q:=_) (fun _ h=>by obtain ⟨_,h1,h2⟩:=h; exact h2))) (ro rfl (cZ Tryz.call278 (eQ (zY (a:=0) (by decide)) (lB Mg)) ⟨(Ht rfl),trivial⟩) (ro rfl (rH ) (ro rfl (cZ Tryz.call179 (oH (n:=1) (by decide) (by decide)) ⟨(cJ 1),trivial⟩) (ro rfl (cD (xs:=[_]) U_27 Z_24 O_24 (cW (cJ 1) cG) rfl rfl rfl) ?_))))))))))
  refine ro rfl (aC.imp (iE (Ht rfl) (Ht rfl) (Ht rfl)) Xs) (ro rfl (cZ Tryz.call89 (eQ (vI (x:=Qi.zero) (y:=iu) (L:=1) (M:=1) (hx:=aH.zero (Nat.le_refl 1)) (hy:=Ud) (by decide)) (lB Qu)) ⟨(Ht rfl),(Ht rfl),trivial⟩) (ro rfl (cZ Tryz.call96 (eQ (Df (x:=Bv a) (y:=Qi.zero) (L:=wF) (M:=1) (hx:=⟨Wl ha⟩) (hy:=aH.zero (Nat.le_refl 1)) (by rw [Sf]; decide)) (lB (y:=vD a) (by rw [Qi.add_zero',vD,if_pos hb2]))) ⟨(Ht rfl),(Ht rfl),trivial⟩) ?_))
  refine gQ Z_40 (Ht rfl) (Ht rfl) rfl (i:=0) rfl (aK rfl) rfl rfl (ro rfl (cQ (cJ 0)) (eX (bC rfl (fK A_40 Z_40 rfl (i:=0) rfl rfl) (fX (eU rfl) ?_))))
  exact (aL (by rw [hb2]; rfl))
theorem Ab {p : Nat} : bA Tryz.prog 236 [Il .f64 (fun a b => Vo p a ∧ b = 0)] (eD [QT (vF p), aN .i64 (if fin Ieee.single p then 0 else 1)]) := Fy fun a b h => by
 obtain ⟨h,hb⟩:=h
 subst hb
 have k:=Dg h.1
 rw [h.2.1,h.2.2] at k
 exact k
theorem yI {p:Nat}:bA Tryz.prog 181 [Vg .f32 p 0] (eD [QT (vF p),aN .i64 (if fin Ieee.single p then 0 else 1)]):=by
 refine bA.intro Tryz.func181 rfl Tryz.ntmps181 rfl (fun cx=>(ts (rn rfl (eW (Ts:=[Is (.bool false),Is (.slice none 0 0),Is (.bool false),Is (.slice none 0 0),Is (.slice none 0 0)]) O_40 rfl (fun V=>aW zd (aW zd (aW zd (aW zd (aW zd (aG))))))) fun B2=>(ro rfl (cQ (cJ 0)) (eX (ts (rm rfl (ro rfl (aC.imp (sM (Ht rfl)) (jQ (Q:=_) (fun _ h=>by obtain ⟨_,h1,h2⟩:=h; exact h1))) (ro rfl (aC.imp (Bq Tryz.runUnderlying25 Tryz.runUnderlying91 (Ht rfl)) (jQ (R:=fun a=>Vo p a) (fun a h=>by obtain ⟨_,rfl,h1⟩:=h; exact My h1))) ?_)))))))))
 refine rm rfl (ro rfl (aC.imp (sL (Ht rfl)) (jQ (Q:=_) (fun _ h=>by obtain ⟨_,h1,h2⟩:=h; exact h2))) (ro rfl (aC.imp (Bq Tryz.runUnderlying25 Tryz.runUnderlying91 (Ht rfl)) (jQ (R:=fun b=>b = 0) (fun a h=>by obtain ⟨_,rfl,h1⟩:=h; exact Rp h1))) (ro rfl (qR (Ht rfl) (Ht rfl)) (ro rfl (cZ Tryz.call236 Ab ⟨(Ht rfl),trivial⟩) (ro rfl (dK (Ht rfl) rfl) (ro rfl (dK (Ht rfl) rfl) (gQ Z_40 (Ht rfl) (Ht rfl) rfl (i:=0) rfl (aK rfl) rfl rfl (ra rfl (eX ?_)))))))))
 exact bC rfl (fK A_40 Z_40 rfl (i:=0) rfl rfl) (eU rfl)
theorem Ae {p:Nat}:bA Tryz.prog 83 [xY .f32 p] (aB (pw p)):=by
 refine bA.intro Tryz.func83 rfl Tryz.ntmps83 rfl (fun cx=>(ts (ro rfl (cQ cV) (eX (ts (rm rfl (ro rfl (sK (Ht rfl) aT.cF (r:=(Ieee.single.order p 0 == some .gt)) (fun x y hx hy=>by subst hx hy; rfl)) ?_)))))))
 refine rm rfl (fQ rfl rfl (eK rfl rfl (Ht rfl) (fun h=>cX (Ht rfl))) (fQ rfl rfl (eK rfl rfl (Ht rfl) (fun h=>sK (fJ rfl h) aT.cF (r:=(Ieee.single.order p 2139095039 == some .lt || Ieee.single.order p 2139095039 == some .eq)) (fun x y hx hy=>by subst hx hy; rfl))) ?_))
 refine ro rfl (dO (Ht rfl) (fun h=>(fJ rfl h))) (ra rfl (eX (fW rfl (fX (eU rfl) ?_))))
 exact (fC (Ue bs (by decide) (by decide)))
theorem Ah {p:Nat}:bA Tryz.prog 86 [xY .f32 p] (QT (vF p)):=by
 refine bA.intro Tryz.func86 rfl Tryz.ntmps86 rfl (fun cx=>(ts (rn rfl (eW (Ts:=[Is (.bool false),Is (.slice none 0 0),Is (.bool false),Is (.slice none 0 0),Is (.slice none 0 0)]) O_40 rfl (fun V=>aW zd (aW zd (aW zd (aW zd (aW zd (aG))))))) fun B2=>(eX (ts (rm rfl (ro rfl (qR (Ht rfl) aT.cF) (ro rfl (cZ Tryz.call181 yI ⟨(Ht rfl),trivial⟩) (rm rfl (ro rfl (dK (Ht rfl) rfl) (ro rfl (dK (Ht rfl) rfl) ?_)))))))))))
 refine rn rfl (eW (Ts:=[Is (.bool false),Is (.slice none 0 0),Is (.bool false),Is (.slice none 0 0),Is (.slice none 0 0)]) O_40 rfl (fun V=>aW zd (aW zd (aW zd (aW zd (aW zd (aG))))))) fun B3=>gQ Z_40 (Ht rfl) (Ht rfl) rfl (i:=1) rfl (aK rfl) rfl rfl (ra rfl (eX (ts (ro rfl (eJ A_40 Z_40 (Ht rfl) (i:=1) rfl rfl rfl) (gQ Z_40 (Ht rfl) (Ht rfl) rfl (i:=0) rfl (aK rfl) rfl rfl ?_)))))
 refine eX ?_
 exact fW rfl (fK A_40 Z_40 rfl (i:=0) rfl rfl)
end
section
open Go Go.RowKit
theorem Km:zK Tryz.prog 12 Extern.MathFloatBits.float32frombits:=vT Tryz.func12 (by kernel_rfl) (by kernel_rfl) (by kernel_rfl) (by kernel_rfl)
end
section
open Go Go.RowKit
open Fl
theorem oO:aH (Qi.ofInt 1) 1:=⟨Qi.Fit.int (by decide) (by decide)⟩
theorem Wm:aH (Qi.ofInt 0) 1:=aH.zero (Nat.le_refl 1)
theorem Qr {p:Nat} (h:pw p = true):vF p = q32 p:=by unfold vF; rw [if_pos (qU h)]
theorem Wg {z:Int}:fA z 0 < 0 ↔ z < 0:=by
 unfold fA; constructor
 ·intro h; split at h
  ·assumption
  ·split at h <;> omega
 ·intro h; rw [if_pos h]; decide
theorem wW {x:Qi}:fA x.a 0 < 0 ↔ x.re < 0:=by
 rw [Wg]
 have h1:=@Qi.a_pos (-x)
 rw [(Qi.neg_a x).1,Qi.neg_re] at h1
 constructor
 ·intro h; have:=h1.1 zo; grind
 ·intro h; have:=h1.2 (by grind); omega
theorem Mj {hot cold:Qi} {p q L:Nat} (h:aH hot L) (c:aH cold L) (hL:1 ≤ L):aH (jZ hot cold p q).1 (2 * L + 100):=by
 unfold jZ
 split
 ·rename_i e
  have e1 : (!dS hot || !dS cold || !pw p || !pw q) = false := by
   cases h':(!dS hot || !dS cold || !pw p || !pw q) with
   | false=>rfl
   | true=>rw [lZ,if_pos h'] at e; exact absurd e (by decide)
  simp only [Bool.or_eq_false_iff,Bool.not_eq_false'] at e1
  haveI f1:aH (q32 p) 9:=⟨Ku (qU e1.1.2)⟩
  haveI f2:aH (q32 q) 9:=⟨Ku (qU e1.2)⟩
  have g:aH (tR hot cold (q32 p) (q32 q)) (((L + 9 + 1) + (L + 9 + 1) + 1) + 3 * (9 + 9 + 1) + 2):=by unfold tR; infer_instance
  exact g.le zo
 ·exact aH.zero zo
theorem wS {hot cold:Qi} {p q L:Nat} (hh:aH hot L) (hc:aH cold L) (hL1:1 ≤ L) (hL:L ≤ 1000000):bA Tryz.prog 13 [aS hot,aS cold,xY .f32 p,xY .f32 q] (eD [aS (jZ hot cold p q).1,aN .i64 (jZ hot cold p q).2]):=by
 haveI:=hh; haveI:=hc; haveI fp:=wL p; haveI fq:=wL q; haveI f1:=oO; haveI f0:=Wm
 refine bA.intro Tryz.func13 rfl Tryz.ntmps13 rfl (fun cx=>(ts (rn rfl (fG (Ht rfl)) fun B4=>(rn rfl (fG (Ht rfl)) fun B5=>(rn rfl (eW (Ts:=[Is (.bool false),Is (.slice none 0 0),Is (.bool false),Is (.slice none 0 0),Is (.slice none 0 0)]) O_32 rfl (fun V=>aW zd (aW zd (aW zd (aW zd (aW zd (aG))))))) fun B8=>(ro rfl (cQ (cJ 0)) (eX (ts (rm rfl (ro rfl (cZ Tryz.call78 Fc ⟨(Ht rfl),trivial⟩) (rm rfl (ro rfl (dK (Ht rfl) rfl) ?_))))))))))))
 refine ro rfl (dK (Ht rfl) rfl) (rn rfl (eW (Ts:=[Is (.bool false),Is (.slice none 0 0),Is (.bool false),Is (.slice none 0 0),Is (.slice none 0 0)]) O_32 rfl (fun V=>aW zd (aW zd (aW zd (aW zd (aW zd (aG))))))) fun B10=>(gQ Z_32 (Ht rfl) (Ht rfl) rfl (i:=3) rfl (aK rfl) rfl rfl (ra rfl (eX (ts (rm rfl (ro rfl (cZ Tryz.call78 Fc ⟨(Ht rfl),trivial⟩) (rm rfl (ro rfl (dK (Ht rfl) rfl) (ro rfl (dK (Ht rfl) rfl) ?_))))))))))
 refine rn rfl (eW (Ts:=[Is (.bool false),Is (.slice none 0 0),Is (.bool false),Is (.slice none 0 0),Is (.slice none 0 0)]) O_32 rfl (fun V=>aW zd (aW zd (aW zd (aW zd (aW zd (aG))))))) fun B12=>gQ Z_32 (Ht rfl) (Ht rfl) rfl (i:=4) rfl (aK rfl) rfl rfl (ra rfl (eX (cK (ts (ro rfl (eJ A_32 Z_32 (Ht rfl) (i:=0) rfl rfl rfl) (ro rfl (cZ Tryz.call79 (yM (x:=hot) (L:=L) zo) ⟨(Ht rfl),trivial⟩) ?_))))))
 refine ro rfl (cB (Ht rfl)) (rm rfl (fQ rfl rfl (eK rfl rfl (Ht rfl) (fun h=>eJ A_32 Z_32 (Ht rfl) (i:=1) rfl rfl rfl)) (fQ rfl rfl (eK rfl rfl (Ht rfl) (fun h=>cZ Tryz.call79 (yM (x:=cold) (L:=L) zo) ⟨(fJ rfl h),trivial⟩)) (fQ rfl rfl (eK rfl rfl (Ht rfl) (fun h=>cB (fJ rfl h))) (ro rfl (dT (Ht rfl) (fun h=>(fJ rfl h))) (rm rfl (fQ rfl rfl (eK rfl rfl (Ht rfl) (fun h=>cX (Ht rfl))) (fQ rfl rfl (eK rfl rfl (Ht rfl) (fun h=>cB (fJ rfl h))) (ro rfl (dT (Ht rfl) (fun h=>(fJ rfl h))) ?_)))))))))
 refine rm rfl (fQ rfl rfl (eK rfl rfl (Ht rfl) (fun h=>cX (Ht rfl))) (fQ rfl rfl (eK rfl rfl (Ht rfl) (fun h=>cB (fJ rfl h))) (ro rfl (dT (Ht rfl) (fun h=>(fJ rfl h))) (eX (dQ (Ht rfl) (fun hb=>?_) (fun hb=>?_))))))
 ·have he := Bw (hot := hot) (cold := cold) (p := p) (q := q) hb
  refine ts (ro rfl (aC.imp (kQ ) fR) (gQ Z_32 (Ht rfl) (Ht rfl) rfl (i:=2) rfl (aK rfl) rfl rfl (ro rfl (cQ (cJ 1)) (eX (bC rfl (fX (fK A_32 Z_32 rfl (i:=2) rfl rfl) ?_) (fX (eU rfl) ?_))))))
  ·exact (eO (by first | (rw [he]; done) | (rw [he]; rfl)))
  ·exact (aL (by rw [he]; rfl))
 ·have hbn : ¬ (!dS hot || !dS cold || !pw p || !pw q) = true := by rw [hb]; decide
  have hb2:((dS hot = true ∧ dS cold = true) ∧ pw p = true) ∧ pw q = true:=by simpa only [Bool.or_eq_false_iff,Bool.not_eq_false'] using hb
  have vp:=Qr hb2.1.2
  have vq:=Qr hb2.2
  have rh:=nV hb2.1.1.1
  have rc:=nV hb2.1.1.2
  refine cU (cK (ts (ro rfl (eJ A_32 Z_32 (Ht rfl) (i:=0) rfl rfl rfl) (ro rfl (eJ A_32 Z_32 (Ht rfl) (i:=1) rfl rfl rfl) (ro rfl (cZ K_30 (oG (x:=hot) (y:=cold) (L:=L) (M:=L) zo) ⟨(Ht rfl),(Ht rfl),trivial⟩) (ro rfl (tA (Ht rfl) cV) (rm rfl (fQ rfl rfl (eK rfl rfl (Ht rfl) (fun h=>eJ A_32 Z_32 (Ht rfl) (i:=3) rfl rfl rfl)) (fQ rfl rfl (eK rfl rfl (Ht rfl) (fun h=>eJ A_32 Z_32 (Ht rfl) (i:=4) rfl rfl rfl)) (fQ rfl rfl (eK rfl rfl (Ht rfl) (fun h=>cZ K_30 (oG (x:=vF p) (y:=vF q) (L:=9) (M:=9) zo) ⟨(fJ rfl h),(fJ rfl h),trivial⟩)) ?_))))))))))
  refine fQ rfl rfl (eK rfl rfl (Ht rfl) (fun h=>tA (fJ rfl h) cV)) (ro rfl (dT (Ht rfl) (fun h=>(fJ rfl h))) (eX (dQ (Ht rfl) (fun hg=>?_) (fun hg=>?_))))
  ·have hg2 : (decide (mE hot cold ≤ 0) || decide (av Ieee.single p ≤ av Ieee.single q)) = true := by
    rw [lM rh.b rc.b,vp,vq] at hg
    rw [← hg]; congr 1; rw [decide_eq_decide]; exact Gq.symm
   have he:=Bx hbn hg2
   refine ts (ro rfl (aC.imp (kQ ) fR) (gQ Z_32 (Ht rfl) (Ht rfl) rfl (i:=2) rfl (aK rfl) rfl rfl (ro rfl (cQ (cJ 7)) (eX (bC rfl (fX (fK A_32 Z_32 rfl (i:=2) rfl rfl) ?_) (fX (eU rfl) ?_))))))
   ·exact (eO (by first | (rw [he]; done) | (rw [he]; rfl)))
   ·exact (aL (by rw [he]; rfl))
  ·have hg2 : (decide (mE hot cold ≤ 0) || decide (av Ieee.single p ≤ av Ieee.single q)) = false := by
    rw [lM rh.b rc.b,vp,vq] at hg
    rw [← hg]; congr 1; rw [decide_eq_decide]; exact Gq.symm
   have hgn:¬ (decide (mE hot cold ≤ 0) || decide (av Ieee.single p ≤ av Ieee.single q)) = true:=by rw [hg2]; decide
   have ok:=Mi hbn hgn
   have htp:(hot - vF p / vF q * cold) / (vF p / vF q - Qi.ofInt 1) = (tR hot cold (q32 p) (q32 q)):=by rw [vp,vq]; exact ok.eq
   have gT:aH ((hot - vF p / vF q * cold) / (vF p / vF q - Qi.ofInt 1)) ((L + ((9 + 3 * 9 + 2) + L + 1) + 1) + 3 * ((9 + 3 * 9 + 2) + 1 + 1) + 2):=inferInstance
   rw [htp] at gT
   haveI:=gT
   refine cU (ts (ro rfl (eJ A_32 Z_32 (Ht rfl) (i:=3) rfl rfl rfl) (ro rfl (eJ A_32 Z_32 (Ht rfl) (i:=4) rfl rfl rfl) (ro rfl (cZ Tryz.call80 (uF (x:=vF p) (y:=vF q) (L:=9) (M:=9) zo) ⟨(Ht rfl),(Ht rfl),trivial⟩) (rn rfl (eW (Ts:=[Is (.bool false),Is (.slice none 0 0),Is (.bool false),Is (.slice none 0 0),Is (.slice none 0 0)]) O_32 rfl (fun V=>aW zd (aW zd (aW zd (aW zd (aW zd (aG))))))) fun B14=>?_)))))
   refine gQ Z_32 (Ht rfl) (Ht rfl) rfl (i:=5) rfl (aK rfl) rfl rfl (eX (cK (fZ (m:=10) (dp 4 rfl (eJ A_32 Z_32 (Ht rfl) (i:=0) rfl rfl rfl) (dp 14 rfl (eJ A_32 Z_32 (Ht rfl) (i:=5) rfl rfl rfl) (dp 5 rfl (eJ A_32 Z_32 (Ht rfl) (i:=1) rfl rfl rfl) (dC 58 1 59 2 rfl (cZ K_29 (nX (x:=vF p / vF q) (y:=cold) zo) ⟨(Ht rfl),(Ht rfl),trivial⟩) (dC 57 0 60 3 rfl (cZ K_32 (vG (x:=hot) (y:=vF p / vF q * cold) zo) ⟨(Ht rfl),(Ht rfl),trivial⟩) ?_))))))))
   refine dp 14 rfl (eJ A_32 Z_32 (Ht rfl) (i:=5) rfl rfl rfl) (d0 rfl (cZ K_36 (mT (n:=1) (by decide) (by decide)) ⟨(cJ 1),trivial⟩) (dC 62 5 63 6 rfl (cZ K_32 (vG (x:=vF p / vF q) (y:=Qi.ofInt 1) zo) ⟨(Ht rfl),(Ht rfl),trivial⟩) (dC 61 4 64 7 rfl (cZ Tryz.call80 (eQ (uF (x:=hot - vF p / vF q * cold) (y:=vF p / vF q - Qi.ofInt 1) zo) (eO htp)) ⟨(Ht rfl),(Ht rfl),trivial⟩) (C.D_new (Ei:=[]) rfl rfl rfl bW (eW (Ts:=[Is (.bool false),Is (.slice none 0 0),Is (.bool false),Is (.slice none 0 0),Is (.slice none 0 0)]) O_32 rfl (fun V=>aW zd (aW zd (aW zd (aW zd (aW zd (aG))))))) ?_))))
   refine fV bB rfl (by kernel_rfl) (zF (zF (aJ (C.F_new (fun B15=>aV (gQ Z_32 (Ht rfl) (Ht rfl) rfl (i:=6) rfl (aK rfl) rfl rfl (eX (cK (cK (fZ (m:=2) (dp 15 rfl (eJ A_32 Z_32 (Ht rfl) (i:=6) rfl rfl rfl) (d0 rfl (cZ K_36 (mT (n:=0) (by decide) (by decide)) ⟨(cJ 0),trivial⟩) (fV bB rfl (by kernel_rfl) (aJ (aJ (aV (ro rfl (cZ K_30 (oG (x:=(tR hot cold (q32 p) (q32 q))) (y:=Qi.ofInt 0) zo) ⟨(Ht rfl),(Ht rfl),trivial⟩) ?_)))))))))))))))))
   refine ro rfl (iY (Ht rfl) cV) (eX (dQ (Ht rfl) (fun hs=>?_) (fun hs=>?_)))
   ·have hs2 : (tR hot cold (q32 p) (q32 q)).re < 0 := (Wf ok.real).1 (by simpa using hs)
    have he:=xP hbn hgn hs2
    refine ts (ro rfl (aC.imp (kQ ) fR) (gQ Z_32 (Ht rfl) (Ht rfl) rfl (i:=2) rfl (aK rfl) rfl rfl (ro rfl (cQ (cJ 5)) (eX (bC rfl (fX (fK A_32 Z_32 rfl (i:=2) rfl rfl) ?_) (fX (eU rfl) ?_))))))
    ·exact (eO (by first | (rw [he]; done) | (rw [he]; rfl)))
    ·exact (aL (by rw [he]; rfl))
   ·have hs2 : ¬ (tR hot cold (q32 p) (q32 q)).re < 0 := fun k => by have := (Wf ok.real).2 k; simp [this] at hs
    have he:=Gu hbn hgn hs2
    refine cU (ts (ro rfl (eJ A_32 Z_32 (Ht rfl) (i:=6) rfl rfl rfl) (gQ Z_32 (Ht rfl) (Ht rfl) rfl (i:=2) rfl (aK rfl) rfl rfl (ro rfl (cQ (cJ 0)) (eX (bC rfl (fX (fK A_32 Z_32 rfl (i:=2) rfl rfl) ?_) (fX (eU rfl) ?_)))))))
    ·exact (eO (by rw [he]))
    ·exact (aL (by rw [he]; rfl))
theorem Ag {hot cold:Qi} {p q L:Nat} (hh:aH hot L) (hc:aH cold L) (hL1:1 ≤ L) (hL:L ≤ 1000000):bA Tryz.prog 15 [QT hot,QT cold,xY .f32 p,xY .f32 q] (eD [QT (jZ hot cold p q).1,aN .i64 (jZ hot cold p q).2]):=by
 haveI:=hh; haveI:=hc; haveI fp:=wL p; haveI fq:=wL q; haveI f1:=oO; haveI f0:=Wm
 refine bA.intro Tryz.func15 rfl Tryz.ntmps15 rfl (fun cx=>(ts (rn rfl (fG (Ht rfl)) fun B4=>(rn rfl (fG (Ht rfl)) fun B5=>(rn rfl (eW (Ts:=[Is (.bool false),Is (.slice none 0 0),Is (.bool false),Is (.slice none 0 0),Is (.slice none 0 0)]) O_40 rfl (fun V=>aW zd (aW zd (aW zd (aW zd (aW zd (aG))))))) fun B8=>(ro rfl (cQ (cJ 0)) (eX (cK (ts (ro rfl (eJ A_40 Z_40 (Ht rfl) (i:=0) rfl rfl rfl) ?_))))))))))
 refine ro rfl (cZ Tryz.call82 (yL (x:=hot) (L:=L) zo) ⟨(Ht rfl),trivial⟩) (ro rfl (cB (Ht rfl)) (rm rfl (fQ rfl rfl (eK rfl rfl (Ht rfl) (fun h=>eJ A_40 Z_40 (Ht rfl) (i:=1) rfl rfl rfl)) (fQ rfl rfl (eK rfl rfl (Ht rfl) (fun h=>cZ Tryz.call82 (yL (x:=cold) (L:=L) zo) ⟨(fJ rfl h),trivial⟩)) (fQ rfl rfl (eK rfl rfl (Ht rfl) (fun h=>cB (fJ rfl h))) (ro rfl (dT (Ht rfl) (fun h=>(fJ rfl h))) (rm rfl (fQ rfl rfl (eK rfl rfl (Ht rfl) (fun h=>cX (Ht rfl))) ?_))))))))
 refine fQ rfl rfl (eK rfl rfl (Ht rfl) (fun h=>cZ Tryz.call83 Ae ⟨(fJ rfl h),trivial⟩)) (fQ rfl rfl (eK rfl rfl (Ht rfl) (fun h=>cB (fJ rfl h))) (ro rfl (dT (Ht rfl) (fun h=>(fJ rfl h))) (rm rfl (fQ rfl rfl (eK rfl rfl (Ht rfl) (fun h=>cX (Ht rfl))) (fQ rfl rfl (eK rfl rfl (Ht rfl) (fun h=>cZ Tryz.call83 Ae ⟨(fJ rfl h),trivial⟩)) (fQ rfl rfl (eK rfl rfl (Ht rfl) (fun h=>cB (fJ rfl h))) (ro rfl (dT (Ht rfl) (fun h=>(fJ rfl h))) (eX (dQ (Ht rfl) (fun hb=>?_) (fun hb=>?_))))))))))
 ·have he := Bw (hot := hot) (cold := cold) (p := p) (q := q) hb
  refine ts (ro rfl (cZ K_84 (kA (n:=0) (by decide) (by decide)) ⟨(cJ 0),trivial⟩) (gQ Z_40 (Ht rfl) (Ht rfl) rfl (i:=2) rfl (aK rfl) rfl rfl (ro rfl (cQ (cJ 1)) (eX (bC rfl (fX (fK A_40 Z_40 rfl (i:=2) rfl rfl) ?_) (fX (eU rfl) ?_))))))
  ·exact (lB (by first | (rw [he]; done) | (rw [he]; rfl)))
  ·exact (aL (by rw [he]; rfl))
 ·have hbn : ¬ (!dS hot || !dS cold || !pw p || !pw q) = true := by rw [hb]; decide
  have hb2:((dS hot = true ∧ dS cold = true) ∧ pw p = true) ∧ pw q = true:=by simpa only [Bool.or_eq_false_iff,Bool.not_eq_false'] using hb
  have vp:=Qr hb2.1.2
  have vq:=Qr hb2.2
  have rh:=nV hb2.1.1.1
  have rc:=nV hb2.1.1.2
  refine cU (cK (ts (ro rfl (eJ A_40 Z_40 (Ht rfl) (i:=0) rfl rfl rfl) (ro rfl (eJ A_40 Z_40 (Ht rfl) (i:=1) rfl rfl rfl) (ro rfl (cZ Tryz.call85 (yH (x:=hot) (y:=cold) (L:=L) (M:=L) zo) ⟨(Ht rfl),(Ht rfl),trivial⟩) (ro rfl (tA (Ht rfl) cV) (rm rfl (fQ rfl rfl (eK rfl rfl (Ht rfl) (fun h=>cX (Ht rfl))) (fQ rfl rfl (eK rfl rfl (Ht rfl) (fun h=>cX (Ht rfl))) (fQ rfl rfl (eK rfl rfl (Ht rfl) (fun h=>sK (fJ rfl h) (fJ rfl h) (r:=(Ieee.single.order p q == some .lt || Ieee.single.order p q == some .eq)) (fun x y hx hy=>by subst hx hy; rfl))) ?_))))))))))
  refine ro rfl (dT (Ht rfl) (fun h=>(fJ rfl h))) (eX (dQ (Ht rfl) (fun hg=>?_) (fun hg=>?_)))
  ·have hg2 : (decide (mE hot cold ≤ 0) || decide (av Ieee.single p ≤ av Ieee.single q)) = true := by
    rw [tB rh.b rc.b,Kz (qU hb2.1.2) (qU hb2.2)] at hg; exact hg
   have he:=Bx hbn hg2
   refine ts (ro rfl (cZ K_84 (kA (n:=0) (by decide) (by decide)) ⟨(cJ 0),trivial⟩) (gQ Z_40 (Ht rfl) (Ht rfl) rfl (i:=2) rfl (aK rfl) rfl rfl (ro rfl (cQ (cJ 7)) (eX (bC rfl (fX (fK A_40 Z_40 rfl (i:=2) rfl rfl) ?_) (fX (eU rfl) ?_))))))
   ·exact (lB (by first | (rw [he]; done) | (rw [he]; rfl)))
   ·exact (aL (by rw [he]; rfl))
  ·have hg2 : (decide (mE hot cold ≤ 0) || decide (av Ieee.single p ≤ av Ieee.single q)) = false := by
    rw [tB rh.b rc.b,Kz (qU hb2.1.2) (qU hb2.2)] at hg; exact hg
   have hgn:¬ (decide (mE hot cold ≤ 0) || decide (av Ieee.single p ≤ av Ieee.single q)) = true:=by rw [hg2]; decide
   have ok:=Mi hbn hgn
   have htp:(hot * vF q - cold * vF p) / (vF p - vF q) = (tR hot cold (q32 p) (q32 q)):=by rw [vp,vq]; rfl
   have gT:aH ((hot * vF q - cold * vF p) / (vF p - vF q)) (((L + 9 + 1) + (L + 9 + 1) + 1) + 3 * (9 + 9 + 1) + 2):=inferInstance
   rw [htp] at gT
   haveI:=gT
   refine cU (ts (rm rfl (ro rfl (cZ Tryz.call86 Ah ⟨(Ht rfl),trivial⟩) (rm rfl (ro rfl (cZ Tryz.call86 Ah ⟨(Ht rfl),trivial⟩) (rn rfl (eW (Ts:=[Is (.bool false),Is (.slice none 0 0),Is (.bool false),Is (.slice none 0 0),Is (.slice none 0 0)]) O_40 rfl (fun V=>aW zd (aW zd (aW zd (aW zd (aW zd (aG))))))) fun B10=>(rn rfl (eW (Ts:=[Is (.bool false),Is (.slice none 0 0),Is (.bool false),Is (.slice none 0 0),Is (.slice none 0 0)]) O_40 rfl (fun V=>aW zd (aW zd (aW zd (aW zd (aW zd (aG))))))) fun B11=>?_)))))))
   refine gQ Z_40 (Ht rfl) (Ht rfl) rfl (i:=3) rfl (aK rfl) rfl rfl (gQ Z_40 (Ht rfl) (Ht rfl) rfl (i:=4) rfl (aK rfl) rfl rfl (eX (cK (Y.D_start (m:=16) [] (bY (Ei:=[(4,_)]) rfl rfl (bQ (bJ rfl rfl) bX) rfl rfl (dX rfl (eJ A_40 Z_40 (Ht rfl) (i:=0) rfl rfl rfl)) (bY (Ei:=[(11,_)]) rfl rfl (bQ (bJ rfl rfl) bX) rfl rfl (dX rfl (eJ A_40 Z_40 (Ht rfl) (i:=4) rfl rfl rfl)) (bY (Ei:=[(48,_),(49,_)]) rfl rfl (bQ (bZ 0 rfl rfl) (bQ (bZ 1 rfl rfl) bX)) rfl rfl (dX rfl (cZ Tryz.call89 (vI (x:=hot) (y:=vF q) zo) ⟨(Ht rfl),(Ht rfl),trivial⟩)) ?_)))))))
   refine bY (Ei:=[(5,_)]) rfl rfl (bQ (bJ rfl rfl) bX) rfl rfl (dX rfl (eJ A_40 Z_40 (Ht rfl) (i:=1) rfl rfl rfl)) (bY (Ei:=[(10,_)]) rfl rfl (bQ (bJ rfl rfl) bX) rfl rfl (dX rfl (eJ A_40 Z_40 (Ht rfl) (i:=3) rfl rfl rfl)) (bY (Ei:=[(51,_),(52,_)]) rfl rfl (bQ (bZ 3 rfl rfl) (bQ (bZ 4 rfl rfl) bX)) rfl rfl (dX rfl (cZ Tryz.call89 (vI (x:=cold) (y:=vF p) zo) ⟨(Ht rfl),(Ht rfl),trivial⟩)) (bY (Ei:=[(50,_),(53,_)]) rfl rfl (bQ (bZ 2 rfl rfl) (bQ (bZ 5 rfl rfl) bX)) rfl rfl (dX rfl (cZ Tryz.call88 (vK (x:=hot * vF q) (y:=cold * vF p) zo) ⟨(Ht rfl),(Ht rfl),trivial⟩)) ?_)))
   refine bY (Ei:=[(10,_)]) rfl rfl (bQ (bJ rfl rfl) bX) rfl rfl (dX rfl (eJ A_40 Z_40 (Ht rfl) (i:=3) rfl rfl rfl)) (bY (Ei:=[(11,_)]) rfl rfl (bQ (bJ rfl rfl) bX) rfl rfl (dX rfl (eJ A_40 Z_40 (Ht rfl) (i:=4) rfl rfl rfl)) (bY (Ei:=[(55,_),(56,_)]) rfl rfl (bQ (bZ 7 rfl rfl) (bQ (bZ 8 rfl rfl) bX)) rfl rfl (dX rfl (cZ Tryz.call88 (vK (x:=vF p) (y:=vF q) zo) ⟨(Ht rfl),(Ht rfl),trivial⟩)) (bY (Ei:=[(54,_),(57,_)]) rfl rfl (bQ (bZ 6 rfl rfl) (bQ (bZ 9 rfl rfl) bX)) rfl rfl (dX rfl (cZ Tryz.call87 (yJ (x:=hot * vF q - cold * vF p) (y:=vF p - vF q) zo) ⟨(Ht rfl),(Ht rfl),trivial⟩)) ?_)))
   refine bY (Ei:=[(58,_)]) rfl rfl (bQ (bZ 10 rfl rfl) bX) rfl rfl (dX rfl (cX (Ht rfl))) (bY (Ei:=[(47,_)]) rfl rfl (bQ (bZ 11 rfl rfl) bX) rfl rfl (dX rfl (dK (Ht rfl) rfl)) (bY (Ei:=[(47,_)]) rfl rfl (bQ (bZ 11 rfl rfl) bX) rfl rfl (dX rfl (dK (Ht rfl) rfl)) (Y.D_newp (Ei:=[]) (fun bb=>box bb 40 [aB (decide (((hot * vF q - cold * vF p) / (vF p - vF q)).a < 0)),aD ((hot * vF q - cold * vF p) / (vF p - vF q)).a.natAbs,aB (decide (((hot * vF q - cold * vF p) / (vF p - vF q)).b < 0)),aD ((hot * vF q - cold * vF p) / (vF p - vF q)).b.natAbs,aD ((hot * vF q - cold * vF p) / (vF p - vF q)).den]) 15 rfl rfl rfl bX rfl rfl (by kernel_rfl) (eW (Ts:=[Is (.bool false),Is (.slice none 0 0),Is (.bool false),Is (.slice none 0 0),Is (.slice none 0 0)]) O_40 rfl (fun V=>aW zd (aW zd (aW zd (aW zd (aW zd (aG))))))) ?_)))
   refine Y.D_putN (Ei:=[(59,_)]) 14 rfl rfl rfl rfl rfl rfl (bQ (bZ 12 rfl rfl) bX) (fun bb=>mG Z_40 (Ht rfl) (Ht rfl) rfl (i:=0) rfl (aK rfl) rfl rfl) (Y.D_done bB rfl (by kernel_rfl) rfl (by simp [Y.okP]) rfl rfl (bU (bU (bU (bU (bU (bU (bU (bU (bU (bU (bU (bU (bU (bU (Y.F_newp (fun B12=>Y.F_putN (Y.F_nil ?_))))))))))))))))))
   refine ra rfl (eX (cK (cK ?_)))
   rw [htp]
   refine cY (ro rfl (eJ A_40 Z_40 (Ht rfl) (i:=5) rfl rfl rfl) (ro rfl (cZ K_90 pI ⟨(Ht rfl),trivial⟩) (ro rfl (iY (Ht rfl) cV) (eX (dQ (Ht rfl) (fun hs=>?_) (fun hs=>?_))))))
   ·have hs2 : (tR hot cold (q32 p) (q32 q)).re < 0 := by simp only [decide_eq_true_eq] at hs; exact wW.1 hs
    have he:=xP hbn hgn hs2
    refine ts (ro rfl (cZ K_84 (kA (n:=0) (by decide) (by decide)) ⟨(cJ 0),trivial⟩) (gQ Z_40 (Ht rfl) (Ht rfl) rfl (i:=2) rfl (aK rfl) rfl rfl (ro rfl (cQ (cJ 5)) (eX (bC rfl (fX (fK A_40 Z_40 rfl (i:=2) rfl rfl) ?_) (fX (eU rfl) ?_))))))
    ·exact (lB (by first | (rw [he]; done) | (rw [he]; rfl)))
    ·exact (aL (by rw [he]; rfl))
   ·have hs2 : ¬ (tR hot cold (q32 p) (q32 q)).re < 0 := by simp only [decide_eq_false_iff_not] at hs; exact fun k => hs (wW.2 k)
    have he:=Gu hbn hgn hs2
    refine cU (ts (ro rfl (eJ A_40 Z_40 (Ht rfl) (i:=5) rfl rfl rfl) (gQ Z_40 (Ht rfl) (Ht rfl) rfl (i:=2) rfl (aK rfl) rfl rfl (ro rfl (cQ (cJ 0)) (eX (bC rfl (fX (fK A_40 Z_40 rfl (i:=2) rfl rfl) ?_) (fX (eU rfl) ?_)))))))
    ·exact (lB (by rw [he]))
    ·exact (aL (by rw [he]; rfl))
theorem Cw {t t0:Qi} {L:Nat} (ht:aH t L) (hc:aH t0 L) (hL1:1 ≤ L) (hL:L ≤ 1000000):bA Tryz.prog 18 [aS t,aS t0] (eD [aS (mF t t0).1,aN .i64 (mF t t0).2]):=by
 haveI:=ht; haveI:=hc; haveI f1:=oO
 refine bA.intro Tryz.func18 rfl Tryz.ntmps18 rfl (fun cx=>(ts (rn rfl (fG (Ht rfl)) fun B2=>(rn rfl (fG (Ht rfl)) fun B3=>(rn rfl (eW (Ts:=[Is (.bool false),Is (.slice none 0 0),Is (.bool false),Is (.slice none 0 0),Is (.slice none 0 0)]) O_32 rfl (fun V=>aW zd (aW zd (aW zd (aW zd (aW zd (aG))))))) fun B4=>(ro rfl (cQ (cJ 0)) (eX (cK (ts (ro rfl (eJ A_32 Z_32 (Ht rfl) (i:=0) rfl rfl rfl) ?_))))))))))
 refine ro rfl (cZ Tryz.call79 (yM (x:=t) (L:=L) zo) ⟨(Ht rfl),trivial⟩) (ro rfl (cB (Ht rfl)) (rm rfl (fQ rfl rfl (eK rfl rfl (Ht rfl) (fun h=>eJ A_32 Z_32 (Ht rfl) (i:=1) rfl rfl rfl)) (fQ rfl rfl (eK rfl rfl (Ht rfl) (fun h=>cZ Tryz.call94 (Ez (x:=t0) (L:=L) zo) ⟨(fJ rfl h),trivial⟩)) (fQ rfl rfl (eK rfl rfl (Ht rfl) (fun h=>cB (fJ rfl h))) (ro rfl (dT (Ht rfl) (fun h=>(fJ rfl h))) (eX (dQ (Ht rfl) (fun hb=>?_) (fun hb=>?_)))))))))
 ·have he := Av hb
  refine ts (ro rfl (aC.imp (kQ ) fR) (gQ Z_32 (Ht rfl) (Ht rfl) rfl (i:=2) rfl (aK rfl) rfl rfl (ro rfl (cQ (cJ 1)) (eX (bC rfl (fX (fK A_32 Z_32 rfl (i:=2) rfl rfl) ?_) (fX (eU rfl) ?_))))))
  ·exact (eO (by first | (rw [he]; done) | (rw [he]; rfl)))
  ·exact (aL (by rw [he]; rfl))
 ·obtain ⟨k1, k2, he⟩ := Fu (t := t) (t0 := t0) (by rw [hb]; decide)
  refine cU (cK (fZ (m:=3) (d0 rfl (cZ K_36 (mT (n:=1) (by decide) (by decide)) ⟨(cJ 1),trivial⟩) (dp 2 rfl (eJ A_32 Z_32 (Ht rfl) (i:=0) rfl rfl rfl) (dp 3 rfl (eJ A_32 Z_32 (Ht rfl) (i:=1) rfl rfl rfl) (fV bB rfl (by kernel_rfl) (aJ (aJ (aJ (aV (ro rfl (cZ Tryz.call80 (uF (x:=t) (y:=t0) (L:=L) (M:=L) zo) ⟨(Ht rfl),(Ht rfl),trivial⟩) (ro rfl (cZ Tryz.call33 (Ex (x:=Qi.ofInt 1) (y:=t / t0) zo) ⟨(Ht rfl),(Ht rfl),trivial⟩) ?_))))))))))))
  refine gQ Z_32 (Ht rfl) (Ht rfl) rfl (i:=2) rfl (aK rfl) rfl rfl (ro rfl (cQ (cJ 0)) (eX (bC rfl (fX (fK A_32 Z_32 rfl (i:=2) rfl rfl) ?_) (fX (eU rfl) ?_))))
  ·exact (eO (by rw [he]))
  ·exact (aL (by rw [he]; rfl))
theorem Ad {t t0:Qi} {L:Nat} (ht:aH t L) (hc:aH t0 L) (hL1:1 ≤ L) (hL:L ≤ 1000000):bA Tryz.prog 19 [QT t,QT t0] (eD [QT (mF t t0).1,aN .i64 (mF t t0).2]):=by
 haveI:=ht; haveI:=hc; haveI f1:=oO
 refine bA.intro Tryz.func19 rfl Tryz.ntmps19 rfl (fun cx=>(ts (rn rfl (fG (Ht rfl)) fun B2=>(rn rfl (fG (Ht rfl)) fun B3=>(rn rfl (eW (Ts:=[Is (.bool false),Is (.slice none 0 0),Is (.bool false),Is (.slice none 0 0),Is (.slice none 0 0)]) O_40 rfl (fun V=>aW zd (aW zd (aW zd (aW zd (aW zd (aG))))))) fun B4=>(ro rfl (cQ (cJ 0)) (eX (cK (ts (ro rfl (eJ A_40 Z_40 (Ht rfl) (i:=0) rfl rfl rfl) ?_))))))))))
 refine ro rfl (cZ Tryz.call82 (yL (x:=t) (L:=L) zo) ⟨(Ht rfl),trivial⟩) (ro rfl (cB (Ht rfl)) (rm rfl (fQ rfl rfl (eK rfl rfl (Ht rfl) (fun h=>eJ A_40 Z_40 (Ht rfl) (i:=1) rfl rfl rfl)) (fQ rfl rfl (eK rfl rfl (Ht rfl) (fun h=>cZ Tryz.call95 (tI (x:=t0) (L:=L) zo) ⟨(fJ rfl h),trivial⟩)) (fQ rfl rfl (eK rfl rfl (Ht rfl) (fun h=>cB (fJ rfl h))) (ro rfl (dT (Ht rfl) (fun h=>(fJ rfl h))) (eX (dQ (Ht rfl) (fun hb=>?_) (fun hb=>?_)))))))))
 ·have he := Av hb
  refine ts (ro rfl (cZ K_84 (kA (n:=0) (by decide) (by decide)) ⟨(cJ 0),trivial⟩) (gQ Z_40 (Ht rfl) (Ht rfl) rfl (i:=2) rfl (aK rfl) rfl rfl (ro rfl (cQ (cJ 1)) (eX (bC rfl (fX (fK A_40 Z_40 rfl (i:=2) rfl rfl) ?_) (fX (eU rfl) ?_))))))
  ·exact (lB (by first | (rw [he]; done) | (rw [he]; rfl)))
  ·exact (aL (by rw [he]; rfl))
 ·obtain ⟨k1, k2, he⟩ := Fu (t := t) (t0 := t0) (by rw [hb]; decide)
  refine cU (cK (Y.D_start (m:=10) [] (bY (Ei:=[(3,_)]) rfl rfl (bQ (bJ rfl rfl) bX) rfl rfl (dX rfl (eJ A_40 Z_40 (Ht rfl) (i:=1) rfl rfl rfl)) (bY (Ei:=[(2,_)]) rfl rfl (bQ (bJ rfl rfl) bX) rfl rfl (dX rfl (eJ A_40 Z_40 (Ht rfl) (i:=0) rfl rfl rfl)) (bY (Ei:=[(18,_),(19,_)]) rfl rfl (bQ (bZ 0 rfl rfl) (bQ (bZ 1 rfl rfl) bX)) rfl rfl (dX rfl (cZ Tryz.call96 (Df (x:=t0) (y:=t) (L:=L) (M:=L) zo) ⟨(Ht rfl),(Ht rfl),trivial⟩)) ?_)))))
  refine bY (Ei:=[(3,_)]) rfl rfl (bQ (bJ rfl rfl) bX) rfl rfl (dX rfl (eJ A_40 Z_40 (Ht rfl) (i:=1) rfl rfl rfl)) (bY (Ei:=[(20,_),(21,_)]) rfl rfl (bQ (bZ 2 rfl rfl) (bQ (bZ 3 rfl rfl) bX)) rfl rfl (dX rfl (cZ Tryz.call87 (yJ (x:=t0 + t) (y:=t0) zo) ⟨(Ht rfl),(Ht rfl),trivial⟩)) (bY (Ei:=[(22,_)]) rfl rfl (bQ (bZ 4 rfl rfl) bX) rfl rfl (dX rfl (cX (Ht rfl))) (bY (Ei:=[(17,_)]) rfl rfl (bQ (bZ 5 rfl rfl) bX) rfl rfl (dX rfl (dK (Ht rfl) rfl)) ?_)))
  refine bY (Ei:=[(17,_)]) rfl rfl (bQ (bZ 5 rfl rfl) bX) rfl rfl (dX rfl (dK (Ht rfl) rfl)) (Y.D_newp (Ei:=[]) (fun bb=>box bb 40 [aB (decide (((t0 + t) / t0).a < 0)),aD ((t0 + t) / t0).a.natAbs,aB (decide (((t0 + t) / t0).b < 0)),aD ((t0 + t) / t0).b.natAbs,aD ((t0 + t) / t0).den]) 9 rfl rfl rfl bX rfl rfl (by kernel_rfl) (eW (Ts:=[Is (.bool false),Is (.slice none 0 0),Is (.bool false),Is (.slice none 0 0),Is (.slice none 0 0)]) O_40 rfl (fun V=>aW zd (aW zd (aW zd (aW zd (aW zd (aG))))))) ?_)
  refine Y.D_putN (Ei:=[(23,_)]) 8 rfl rfl rfl rfl rfl rfl (bQ (bZ 6 rfl rfl) bX) (fun bb=>mG Z_40 (Ht rfl) (Ht rfl) rfl (i:=0) rfl (aK rfl) rfl rfl) (Y.D_done bB rfl (by kernel_rfl) rfl (by simp [Y.okP]) rfl rfl (bU (bU (bU (bU (bU (bU (bU (bU (Y.F_newp (fun B6=>Y.F_putN (Y.F_nil ?_))))))))))))
  refine ra rfl (eX (ts (ro rfl (eJ A_40 Z_40 (Ht rfl) (i:=3) rfl rfl rfl) (gQ Z_40 (Ht rfl) (Ht rfl) rfl (i:=2) rfl (aK rfl) rfl rfl (ro rfl (cQ (cJ 0)) (eX (bC rfl (fX (fK A_40 Z_40 rfl (i:=2) rfl rfl) ?_) (fX (eU rfl) ?_))))))))
  ·exact (lB (by rw [he]; exact Tx k1 k2))
  ·exact (aL (by rw [he]; rfl))
theorem Nr {t r g:Qi} {L:Nat} (ht:aH t L) (hr:aH r L) (hg:aH g L) (hL1:1 ≤ L) (hL:L ≤ 1000000):bA Tryz.prog 20 [aS t,aS r,aS g] (eD [aS (uK t r g).1,aN .i64 (uK t r g).2]):=by
 haveI:=ht; haveI:=hr; haveI:=hg; haveI f1:=oO
 haveI gV:aH (oA t r g) (L + ((L + 1 + 1) + 3 * L + 2) + 1):=by unfold oA; infer_instance
 refine bA.intro Tryz.func20 rfl Tryz.ntmps20 rfl (fun cx=>(ts (rn rfl (fG (Ht rfl)) fun B3=>(rn rfl (fG (Ht rfl)) fun B4=>(rn rfl (fG (Ht rfl)) fun B5=>(rn rfl (eW (Ts:=[Is (.bool false),Is (.slice none 0 0),Is (.bool false),Is (.slice none 0 0),Is (.slice none 0 0)]) O_32 rfl (fun V=>aW zd (aW zd (aW zd (aW zd (aW zd (aG))))))) fun B6=>(ro rfl (cQ (cJ 0)) (eX (ts (ro rfl (cZ K_36 (mT (n:=1) (by decide) (by decide)) ⟨(cJ 1),trivial⟩) ?_))))))))))
 refine rn rfl (eW (Ts:=[Is (.bool false),Is (.slice none 0 0),Is (.bool false),Is (.slice none 0 0),Is (.slice none 0 0)]) O_32 rfl (fun V=>aW zd (aW zd (aW zd (aW zd (aW zd (aG))))))) fun B8=>gQ Z_32 (Ht rfl) (Ht rfl) rfl (i:=4) rfl (aK rfl) rfl rfl (eX (cK (ts (ro rfl (eJ A_32 Z_32 (Ht rfl) (i:=0) rfl rfl rfl) (ro rfl (cZ K_35 qK ⟨(Ht rfl),trivial⟩) (ro rfl (cB (Ht rfl)) ?_))))))
 refine rm rfl (fQ rfl rfl (eK rfl rfl (Ht rfl) (fun h=>eJ A_32 Z_32 (Ht rfl) (i:=1) rfl rfl rfl)) (fQ rfl rfl (eK rfl rfl (Ht rfl) (fun h=>cZ K_35 qK ⟨(fJ rfl h),trivial⟩)) (fQ rfl rfl (eK rfl rfl (Ht rfl) (fun h=>cB (fJ rfl h))) (ro rfl (dT (Ht rfl) (fun h=>(fJ rfl h))) (rm rfl (fQ rfl rfl (eK rfl rfl (Ht rfl) (fun h=>eJ A_32 Z_32 (Ht rfl) (i:=2) rfl rfl rfl)) (fQ rfl rfl (eK rfl rfl (Ht rfl) (fun h=>cZ Tryz.call94 (Ez (x:=g) (L:=L) zo) ⟨(fJ rfl h),trivial⟩)) ?_)))))))
 refine fQ rfl rfl (eK rfl rfl (Ht rfl) (fun h=>cB (fJ rfl h))) (ro rfl (dT (Ht rfl) (fun h=>(fJ rfl h))) (rm rfl (fQ rfl rfl (eK rfl rfl (Ht rfl) (fun h=>eJ A_32 Z_32 (Ht rfl) (i:=0) rfl rfl rfl)) (fQ rfl rfl (eK rfl rfl (Ht rfl) (fun h=>eJ A_32 Z_32 (Ht rfl) (i:=4) rfl rfl rfl)) (fQ rfl rfl (eK rfl rfl (Ht rfl) (fun h=>cZ K_30 (oG (x:=t) (y:=Qi.ofInt 1) (L:=L) (M:=1) zo) ⟨(fJ rfl h),(fJ rfl h),trivial⟩)) (fQ rfl rfl (eK rfl rfl (Ht rfl) (fun h=>iY (fJ rfl h) cV)) ?_))))))
 refine ro rfl (dT (Ht rfl) (fun h=>(fJ rfl h))) (rm rfl (fQ rfl rfl (eK rfl rfl (Ht rfl) (fun h=>eJ A_32 Z_32 (Ht rfl) (i:=1) rfl rfl rfl)) (fQ rfl rfl (eK rfl rfl (Ht rfl) (fun h=>eJ A_32 Z_32 (Ht rfl) (i:=4) rfl rfl rfl)) (fQ rfl rfl (eK rfl rfl (Ht rfl) (fun h=>cZ K_30 (oG (x:=r) (y:=Qi.ofInt 1) (L:=L) (M:=1) zo) ⟨(fJ rfl h),(fJ rfl h),trivial⟩)) (fQ rfl rfl (eK rfl rfl (Ht rfl) (fun h=>iY (fJ rfl h) cV)) (ro rfl (dT (Ht rfl) (fun h=>(fJ rfl h))) ?_))))))
 refine eX (dQ (Ht rfl) (fun hb=>?_) (fun hb=>?_))
 ·have hb2 : qO t r g = false := by rw [Kr] at hb; simpa using hb
  have he:=Fw hb2
  refine ts (ro rfl (aC.imp (kQ ) fR) (gQ Z_32 (Ht rfl) (Ht rfl) rfl (i:=3) rfl (aK rfl) rfl rfl (ro rfl (cQ (cJ 1)) (eX (bC rfl (fX (fK A_32 Z_32 rfl (i:=3) rfl rfl) ?_) (fX (eU rfl) ?_))))))
  ·exact (eO (by first | (rw [he]; done) | (rw [he]; rfl)))
  ·exact (aL (by rw [he]; rfl))
 ·have hb2 : qO t r g = true := by rw [Kr] at hb; simpa using hb
  have rv:=Fv hb2
  refine cU (cK (fZ (m:=8) (dp 3 rfl (eJ A_32 Z_32 (Ht rfl) (i:=0) rfl rfl rfl) (dp 4 rfl (eJ A_32 Z_32 (Ht rfl) (i:=1) rfl rfl rfl) (dp 8 rfl (eJ A_32 Z_32 (Ht rfl) (i:=4) rfl rfl rfl) (dC 38 1 39 2 rfl (cZ K_32 (vG (x:=r) (y:=Qi.ofInt 1) (L:=L) (M:=1) zo) ⟨(Ht rfl),(Ht rfl),trivial⟩) (dp 5 rfl (eJ A_32 Z_32 (Ht rfl) (i:=2) rfl rfl rfl) (dC 40 3 41 4 rfl (cZ Tryz.call80 (uF (x:=r - Qi.ofInt 1) (y:=g) zo) ⟨(Ht rfl),(Ht rfl),trivial⟩) ?_))))))))
  refine dC 37 0 42 5 rfl (cZ K_32 (vG (x:=t) (y:=(r - Qi.ofInt 1) / g) zo) ⟨(Ht rfl),(Ht rfl),trivial⟩) (C.D_new (Ei:=[]) rfl rfl rfl bW (eW (Ts:=[Is (.bool false),Is (.slice none 0 0),Is (.bool false),Is (.slice none 0 0),Is (.slice none 0 0)]) O_32 rfl (fun V=>aW zd (aW zd (aW zd (aW zd (aW zd (aG))))))) (fV bB rfl (by kernel_rfl) (zF (aJ (aJ (aJ (C.F_new (fun B9=>aV ?_))))))))
  refine gQ Z_32 (Ht rfl) (Ht rfl) rfl (i:=5) rfl (aK rfl) rfl rfl (eX (cK (ts (ro rfl (eJ A_32 Z_32 (Ht rfl) (i:=5) rfl rfl rfl) (ro rfl (eJ A_32 Z_32 (Ht rfl) (i:=4) rfl rfl rfl) (ro rfl (cZ K_30 (oG (x:=oA t r g) (y:=Qi.ofInt 1) zo) ⟨(Ht rfl),(Ht rfl),trivial⟩) (ro rfl (iY (Ht rfl) cV) (eX (dQ (Ht rfl) (fun hs=>?_) (fun hs=>?_))))))))))
  ·have hs2 : (oA t r g).re < 1 := (Ok rv).1 (by simpa using hs)
   have he:=Ay hb2 hs2
   refine ts (ro rfl (aC.imp (kQ ) fR) (gQ Z_32 (Ht rfl) (Ht rfl) rfl (i:=3) rfl (aK rfl) rfl rfl (ro rfl (cQ (cJ 5)) (eX (bC rfl (fX (fK A_32 Z_32 rfl (i:=3) rfl rfl) ?_) (fX (eU rfl) ?_))))))
   ·exact (eO (by first | (rw [he]; done) | (rw [he]; rfl)))
   ·exact (aL (by rw [he]; rfl))
  ·have hs2 : ¬ (oA t r g).re < 1 := fun k => by have := (Ok rv).2 k; simp [this] at hs
   have he:=Kt hb2 hs2
   refine cU (ts (ro rfl (eJ A_32 Z_32 (Ht rfl) (i:=5) rfl rfl rfl) (gQ Z_32 (Ht rfl) (Ht rfl) rfl (i:=3) rfl (aK rfl) rfl rfl (ro rfl (cQ (cJ 0)) (eX (bC rfl (fX (fK A_32 Z_32 rfl (i:=3) rfl rfl) ?_) (fX (eU rfl) ?_)))))))
   ·exact (eO (by rw [he]; rfl))
   ·exact (aL (by rw [he]; rfl))
theorem Jq {t r g:Qi} {L:Nat} (ht:aH t L) (hr:aH r L) (hg:aH g L) (hL1:1 ≤ L) (hL:L ≤ 1000000):bA Tryz.prog 21 [QT t,QT r,QT g] (eD [QT (uK t r g).1,aN .i64 (uK t r g).2]):=by
 haveI:=ht; haveI:=hr; haveI:=hg; haveI f1:=oO
 haveI gV:aH (oA t r g) (L + ((L + 1 + 1) + 3 * L + 2) + 1):=by unfold oA; infer_instance
 refine bA.intro Tryz.func21 rfl Tryz.ntmps21 rfl (fun cx=>(ts (rn rfl (fG (Ht rfl)) fun B3=>(rn rfl (fG (Ht rfl)) fun B4=>(rn rfl (fG (Ht rfl)) fun B5=>(rn rfl (eW (Ts:=[Is (.bool false),Is (.slice none 0 0),Is (.bool false),Is (.slice none 0 0),Is (.slice none 0 0)]) O_40 rfl (fun V=>aW zd (aW zd (aW zd (aW zd (aW zd (aG))))))) fun B6=>(ro rfl (cQ (cJ 0)) (eX (ts (ro rfl (cZ K_84 (kA (n:=1) (by decide) (by decide)) ⟨(cJ 1),trivial⟩) ?_))))))))))
 refine rn rfl (eW (Ts:=[Is (.bool false),Is (.slice none 0 0),Is (.bool false),Is (.slice none 0 0),Is (.slice none 0 0)]) O_40 rfl (fun V=>aW zd (aW zd (aW zd (aW zd (aW zd (aG))))))) fun B8=>gQ Z_40 (Ht rfl) (Ht rfl) rfl (i:=4) rfl (aK rfl) rfl rfl (eX (cK (ts (ro rfl (eJ A_40 Z_40 (Ht rfl) (i:=0) rfl rfl rfl) (ro rfl (cZ Tryz.call97 (uE (x:=t) (L:=L) zo) ⟨(Ht rfl),trivial⟩) ?_)))))
 refine ro rfl (nS (Ht rfl) cV) (rm rfl (fQ rfl rfl (eK rfl rfl (Ht rfl) (fun h=>eJ A_40 Z_40 (Ht rfl) (i:=1) rfl rfl rfl)) (fQ rfl rfl (eK rfl rfl (Ht rfl) (fun h=>cZ Tryz.call97 (uE (x:=r) (L:=L) zo) ⟨(fJ rfl h),trivial⟩)) (fQ rfl rfl (eK rfl rfl (Ht rfl) (fun h=>nS (fJ rfl h) cV)) (ro rfl (dT (Ht rfl) (fun h=>(fJ rfl h))) (rm rfl (fQ rfl rfl (eK rfl rfl (Ht rfl) (fun h=>eJ A_40 Z_40 (Ht rfl) (i:=0) rfl rfl rfl)) (fQ rfl rfl (eK rfl rfl (Ht rfl) (fun h=>eJ A_40 Z_40 (Ht rfl) (i:=4) rfl rfl rfl)) ?_))))))))
 refine fQ rfl rfl (eK rfl rfl (Ht rfl) (fun h=>cZ Tryz.call85 (yH (x:=t) (y:=Qi.ofInt 1) (L:=L) (M:=1) zo) ⟨(fJ rfl h),(fJ rfl h),trivial⟩)) (fQ rfl rfl (eK rfl rfl (Ht rfl) (fun h=>iY (fJ rfl h) cV)) (ro rfl (dT (Ht rfl) (fun h=>(fJ rfl h))) (rm rfl (fQ rfl rfl (eK rfl rfl (Ht rfl) (fun h=>eJ A_40 Z_40 (Ht rfl) (i:=1) rfl rfl rfl)) (fQ rfl rfl (eK rfl rfl (Ht rfl) (fun h=>eJ A_40 Z_40 (Ht rfl) (i:=4) rfl rfl rfl)) (fQ rfl rfl (eK rfl rfl (Ht rfl) (fun h=>cZ Tryz.call85 (yH (x:=r) (y:=Qi.ofInt 1) (L:=L) (M:=1) zo) ⟨(fJ rfl h),(fJ rfl h),trivial⟩)) ?_))))))
 refine fQ rfl rfl (eK rfl rfl (Ht rfl) (fun h=>iY (fJ rfl h) cV)) (ro rfl (dT (Ht rfl) (fun h=>(fJ rfl h))) (rm rfl (fQ rfl rfl (eK rfl rfl (Ht rfl) (fun h=>eJ A_40 Z_40 (Ht rfl) (i:=2) rfl rfl rfl)) (fQ rfl rfl (eK rfl rfl (Ht rfl) (fun h=>cZ Tryz.call95 (tI (x:=g) (L:=L) zo) ⟨(fJ rfl h),trivial⟩)) (fQ rfl rfl (eK rfl rfl (Ht rfl) (fun h=>cB (fJ rfl h))) (ro rfl (dT (Ht rfl) (fun h=>(fJ rfl h))) (eX (dQ (Ht rfl) (fun hb=>?_) (fun hb=>?_)))))))))
 ·have hb2 : qO t r g = false := by simp only [mU] at hb; rw [Ks] at hb; simpa using hb
  have he:=Fw hb2
  refine ts (ro rfl (cZ K_84 (kA (n:=0) (by decide) (by decide)) ⟨(cJ 0),trivial⟩) (gQ Z_40 (Ht rfl) (Ht rfl) rfl (i:=3) rfl (aK rfl) rfl rfl (ro rfl (cQ (cJ 1)) (eX (bC rfl (fX (fK A_40 Z_40 rfl (i:=3) rfl rfl) ?_) (fX (eU rfl) ?_))))))
  ·exact (lB (by first | (rw [he]; done) | (rw [he]; rfl)))
  ·exact (aL (by rw [he]; rfl))
 ·have hb2 : qO t r g = true := by simp only [mU] at hb; rw [Ks] at hb; simpa using hb
  have rv:=Fv hb2
  refine cU (cK (Y.D_start (m:=10) [] (bY (Ei:=[(4,_)]) rfl rfl (bQ (bJ rfl rfl) bX) rfl rfl (dX rfl (eJ A_40 Z_40 (Ht rfl) (i:=1) rfl rfl rfl)) (bY (Ei:=[(8,_)]) rfl rfl (bQ (bJ rfl rfl) bX) rfl rfl (dX rfl (eJ A_40 Z_40 (Ht rfl) (i:=4) rfl rfl rfl)) (bY (Ei:=[(40,_),(41,_)]) rfl rfl (bQ (bZ 0 rfl rfl) (bQ (bZ 1 rfl rfl) bX)) rfl rfl (dX rfl (cZ Tryz.call88 (vK (x:=r) (y:=Qi.ofInt 1) (L:=L) (M:=1) zo) ⟨(Ht rfl),(Ht rfl),trivial⟩)) ?_)))))
  refine bY (Ei:=[(5,_)]) rfl rfl (bQ (bJ rfl rfl) bX) rfl rfl (dX rfl (eJ A_40 Z_40 (Ht rfl) (i:=2) rfl rfl rfl)) (bY (Ei:=[(42,_),(43,_)]) rfl rfl (bQ (bZ 2 rfl rfl) (bQ (bZ 3 rfl rfl) bX)) rfl rfl (dX rfl (cZ Tryz.call87 (yJ (x:=r - Qi.ofInt 1) (y:=g) zo) ⟨(Ht rfl),(Ht rfl),trivial⟩)) (bY (Ei:=[(44,_)]) rfl rfl (bQ (bZ 4 rfl rfl) bX) rfl rfl (dX rfl (cX (Ht rfl))) (bY (Ei:=[(39,_)]) rfl rfl (bQ (bZ 5 rfl rfl) bX) rfl rfl (dX rfl (dK (Ht rfl) rfl)) ?_)))
  refine bY (Ei:=[(39,_)]) rfl rfl (bQ (bZ 5 rfl rfl) bX) rfl rfl (dX rfl (dK (Ht rfl) rfl)) (Y.D_newp (Ei:=[]) (fun bb=>box bb 40 [aB (decide (((r - Qi.ofInt 1) / g).a < 0)),aD ((r - Qi.ofInt 1) / g).a.natAbs,aB (decide (((r - Qi.ofInt 1) / g).b < 0)),aD ((r - Qi.ofInt 1) / g).b.natAbs,aD ((r - Qi.ofInt 1) / g).den]) 9 rfl rfl rfl bX rfl rfl (by kernel_rfl) (eW (Ts:=[Is (.bool false),Is (.slice none 0 0),Is (.bool false),Is (.slice none 0 0),Is (.slice none 0 0)]) O_40 rfl (fun V=>aW zd (aW zd (aW zd (aW zd (aW zd (aG))))))) ?_)
  refine Y.D_putN (Ei:=[(45,_)]) 8 rfl rfl rfl rfl rfl rfl (bQ (bZ 6 rfl rfl) bX) (fun bb=>mG Z_40 (Ht rfl) (Ht rfl) rfl (i:=0) rfl (aK rfl) rfl rfl) (Y.D_done bB rfl (by kernel_rfl) rfl (by simp [Y.okP]) rfl rfl (bU (bU (bU (bU (bU (bU (bU (bU (Y.F_newp (fun B9=>Y.F_putN (Y.F_nil ?_))))))))))))
  refine ra rfl (eX (ts (ro rfl (eJ A_40 Z_40 (Ht rfl) (i:=0) rfl rfl rfl) (ro rfl (eJ A_40 Z_40 (Ht rfl) (i:=5) rfl rfl rfl) (ro rfl (cZ Tryz.call88 (vK (x:=t) (y:=(r - Qi.ofInt 1) / g) zo) ⟨(Ht rfl),(Ht rfl),trivial⟩) (rn rfl (eW (Ts:=[Is (.bool false),Is (.slice none 0 0),Is (.bool false),Is (.slice none 0 0),Is (.slice none 0 0)]) O_40 rfl (fun V=>aW zd (aW zd (aW zd (aW zd (aW zd (aG))))))) fun B11=>?_))))))
  refine gQ Z_40 (Ht rfl) (Ht rfl) rfl (i:=6) rfl (aK rfl) rfl rfl (eX (cK (ts (ro rfl (eJ A_40 Z_40 (Ht rfl) (i:=6) rfl rfl rfl) (ro rfl (eJ A_40 Z_40 (Ht rfl) (i:=4) rfl rfl rfl) (ro rfl (cZ Tryz.call85 (yH (x:=oA t r g) (y:=Qi.ofInt 1) zo) ⟨(Ht rfl),(Ht rfl),trivial⟩) (ro rfl (iY (Ht rfl) cV) (eX (dQ (Ht rfl) (fun hs=>?_) (fun hs=>?_))))))))))
  ·have hs2 : (oA t r g).re < 1 := (Gt rv).1 (by simpa using hs)
   have he:=Ay hb2 hs2
   refine ts (ro rfl (cZ K_84 (kA (n:=0) (by decide) (by decide)) ⟨(cJ 0),trivial⟩) (gQ Z_40 (Ht rfl) (Ht rfl) rfl (i:=3) rfl (aK rfl) rfl rfl (ro rfl (cQ (cJ 5)) (eX (bC rfl (fX (fK A_40 Z_40 rfl (i:=3) rfl rfl) ?_) (fX (eU rfl) ?_))))))
   ·exact (lB (by first | (rw [he]; done) | (rw [he]; rfl)))
   ·exact (aL (by rw [he]; rfl))
  ·have hs2 : ¬ (oA t r g).re < 1 := fun k => by have := (Gt rv).2 k; simp [this] at hs
   have he:=Kt hb2 hs2
   refine cU (ts (ro rfl (eJ A_40 Z_40 (Ht rfl) (i:=6) rfl rfl rfl) (gQ Z_40 (Ht rfl) (Ht rfl) rfl (i:=3) rfl (aK rfl) rfl rfl (ro rfl (cQ (cJ 0)) (eX (bC rfl (fX (fK A_40 Z_40 rfl (i:=3) rfl rfl) ?_) (fX (eU rfl) ?_)))))))
   ·exact (lB (by rw [he]; rfl))
   ·exact (aL (by rw [he]; rfl))
theorem Kn {t t0:Qi} {L:Nat} (h:aH t L) (k:aH t0 L) (hL:1 ≤ L):aH (mF t t0).1 (4 * L + 10):=by
 haveI:=oO
 unfold mF; split
 ·have g : aH (Qi.ofInt 1 + t / t0) (1 + (L + 3 * L + 2) + 1) := inferInstance
  exact g.le zo
 ·exact aH.zero zo
theorem Oz {t r g:Qi} {L:Nat} (h:aH t L) (k:aH r L) (m:aH g L) (hL:1 ≤ L):aH (uK t r g).1 (5 * L + 10):=by
 haveI:=oO
 unfold uK; split
 ·split
  ·exact aH.zero zo
  ·have gV : aH (oA t r g) (L + ((L + 1 + 1) + 3 * L + 2) + 1) := by unfold oA; infer_instance
   exact gV.le zo
 ·exact aH.zero zo
theorem sT {hot cold g:Rt} {ph pc:Nat}:bA Tryz.prog 3 [Ck hot,Ck cold,NT .u32 ph,NT .u32 pc,Ck g] (aB true):=by
 have f1:aH hot.q 2:=inferInstance
 have f2:aH cold.q 2:=inferInstance
 have f3:aH g.q 2:=inferInstance
 have gR:=Mj (p:=ph) (q:=pc) f1 f2 (by decide)
 have gF:=Kn f1 f2 (by decide)
 have gI:=Oz f1 f2 f3 (by decide)
 refine bA.intro Tryz.func3 rfl Tryz.ntmps3 rfl (fun cx=>(ts (rn rfl (fG (Ht rfl)) fun B5=>(rn rfl (fG (Ht rfl)) fun B6=>(rn rfl (fG (Ht rfl)) fun B9=>(ro rfl (cQ cV) (eX (ts (rm rfl (ro rfl (qE Km (Ht rfl)) (rm rfl (ro rfl (qE Km (Ht rfl)) (ra rfl (ra rfl (eX (cK (fO [0,1,2] rfl (by decide) (Y.D_start (m:=12) [] (bY (Ei:=[(5,_)]) rfl rfl (bQ (bJ rfl rfl) bX) rfl rfl (dX rfl (eJ A_23 Z_23 (Ht rfl) (i:=0) rfl rfl rfl)) (bY (Ei:=[(22,_)]) rfl rfl (bQ (bZ 0 rfl rfl) bX) rfl rfl (dX rfl (cZ K_14 (mJ (r:=hot)) ⟨(Ht rfl),trivial⟩)) ?_))))))))))))))))))))
 refine bY (Ei:=[(6,_)]) rfl rfl (bQ (bJ rfl rfl) bX) rfl rfl (dX rfl (eJ A_23 Z_23 (Ht rfl) (i:=1) rfl rfl rfl)) (bY (Ei:=[(24,_)]) rfl rfl (bQ (bZ 2 rfl rfl) bX) rfl rfl (dX rfl (cZ K_14 (mJ (r:=cold)) ⟨(Ht rfl),trivial⟩)) ?_)
 refine bY (Ei:=[(11,_)]) rfl rfl (bQ (bJ rfl rfl) bX) rfl rfl (dX rfl (cX (Ht rfl))) (bY (Ei:=[(12,_)]) rfl rfl (bQ (bJ rfl rfl) bX) rfl rfl (dX rfl (cX (Ht rfl))) (bY (Ei:=[(23,_),(25,_),(26,_),(27,_)]) rfl rfl (bQ (bZ 1 rfl rfl) (bQ (bZ 3 rfl rfl) (bQ (bZ 4 rfl rfl) (bQ (bZ 5 rfl rfl) bX)))) rfl rfl (dX rfl (cZ Tryz.call13 (wS (hot:=hot.q) (cold:=cold.q) (p:=ph) (q:=pc) (L:=2) f1 f2 (by decide) (by decide)) ⟨(Ht rfl),(Ht rfl),(Ht rfl),(Ht rfl),trivial⟩)) ?_))
 refine bY (Ei:=[(28,_)]) rfl rfl (bQ (bZ 6 rfl rfl) bX) rfl rfl (dX rfl (cX (Ht rfl))) (bY (Ei:=[(21,_)]) rfl rfl (bQ (bZ 7 rfl rfl) bX) rfl rfl (dX rfl (dK (Ht rfl) rfl)) (bY (Ei:=[(21,_)]) rfl rfl (bQ (bZ 7 rfl rfl) bX) rfl rfl (dX rfl (dK (Ht rfl) rfl)) (Y.D_newp (Ei:=[]) (fun bb=>box bb 32 [aB (decide ((jZ hot.q cold.q ph pc).1.a < 0)),aD (jZ hot.q cold.q ph pc).1.a.natAbs,aB (decide ((jZ hot.q cold.q ph pc).1.b < 0)),aD (jZ hot.q cold.q ph pc).1.b.natAbs,aD (du (jZ hot.q cold.q ph pc).1)]) 11 rfl rfl rfl bX rfl rfl (by kernel_rfl) (eW (Ts:=[Is (.bool false),Is (.slice none 0 0),Is (.bool false),Is (.slice none 0 0),Is (.slice none 0 0)]) O_32 rfl (fun V=>aW zd (aW zd (aW zd (aW zd (aW zd (aG))))))) ?_)))
 refine Y.D_putN (Ei:=[(29,_)]) 10 rfl rfl rfl rfl rfl rfl (bQ (bZ 8 rfl rfl) bX) (fun bb=>mG Z_32 (Ht rfl) (Ht rfl) rfl (i:=0) rfl (aK rfl) rfl rfl) (Y.D_done bB rfl (by kernel_rfl) rfl (by simp [Y.okP]) rfl rfl (bU (bU (bU (bU (bU (bU (bU (bU (bU (bU (Y.F_newp (fun B13=>Y.F_putN (Y.F_nil ?_))))))))))))))
 refine ra rfl (eX (cK (fO [0,1,2,3] rfl (by decide) (Y.D_start (m:=12) [] (bY (Ei:=[(5,_)]) rfl rfl (bQ (bJ rfl rfl) bX) rfl rfl (dX rfl (eJ A_23 Z_23 (Ht rfl) (i:=0) rfl rfl rfl)) (bY (Ei:=[(32,_)]) rfl rfl (bQ (bZ 0 rfl rfl) bX) rfl rfl (dX rfl (cZ K_16 (vJ (r:=hot)) ⟨(Ht rfl),trivial⟩)) ?_))))))
 refine bY (Ei:=[(6,_)]) rfl rfl (bQ (bJ rfl rfl) bX) rfl rfl (dX rfl (eJ A_23 Z_23 (Ht rfl) (i:=1) rfl rfl rfl)) (bY (Ei:=[(34,_)]) rfl rfl (bQ (bZ 2 rfl rfl) bX) rfl rfl (dX rfl (cZ K_16 (vJ (r:=cold)) ⟨(Ht rfl),trivial⟩)) ?_)
 refine bY (Ei:=[(11,_)]) rfl rfl (bQ (bJ rfl rfl) bX) rfl rfl (dX rfl (cX (Ht rfl))) (bY (Ei:=[(12,_)]) rfl rfl (bQ (bJ rfl rfl) bX) rfl rfl (dX rfl (cX (Ht rfl))) (bY (Ei:=[(33,_),(35,_),(36,_),(37,_)]) rfl rfl (bQ (bZ 1 rfl rfl) (bQ (bZ 3 rfl rfl) (bQ (bZ 4 rfl rfl) (bQ (bZ 5 rfl rfl) bX)))) rfl rfl (dX rfl (cZ Tryz.call15 (Ag (hot:=hot.q) (cold:=cold.q) (p:=ph) (q:=pc) (L:=2) f1 f2 (by decide) (by decide)) ⟨(Ht rfl),(Ht rfl),(Ht rfl),(Ht rfl),trivial⟩)) ?_))
 refine bY (Ei:=[(38,_)]) rfl rfl (bQ (bZ 6 rfl rfl) bX) rfl rfl (dX rfl (cX (Ht rfl))) (bY (Ei:=[(31,_)]) rfl rfl (bQ (bZ 7 rfl rfl) bX) rfl rfl (dX rfl (dK (Ht rfl) rfl)) (bY (Ei:=[(31,_)]) rfl rfl (bQ (bZ 7 rfl rfl) bX) rfl rfl (dX rfl (dK (Ht rfl) rfl)) (Y.D_newp (Ei:=[]) (fun bb=>box bb 40 [aB (decide ((jZ hot.q cold.q ph pc).1.a < 0)),aD (jZ hot.q cold.q ph pc).1.a.natAbs,aB (decide ((jZ hot.q cold.q ph pc).1.b < 0)),aD (jZ hot.q cold.q ph pc).1.b.natAbs,aD (jZ hot.q cold.q ph pc).1.den]) 11 rfl rfl rfl bX rfl rfl (by kernel_rfl) (eW (Ts:=[Is (.bool false),Is (.slice none 0 0),Is (.bool false),Is (.slice none 0 0),Is (.slice none 0 0)]) O_40 rfl (fun V=>aW zd (aW zd (aW zd (aW zd (aW zd (aG))))))) ?_)))
 refine Y.D_putN (Ei:=[(39,_)]) 10 rfl rfl rfl rfl rfl rfl (bQ (bZ 8 rfl rfl) bX) (fun bb=>mG Z_40 (Ht rfl) (Ht rfl) rfl (i:=0) rfl (aK rfl) rfl rfl) (Y.D_done bB rfl (by kernel_rfl) rfl (by simp [Y.okP]) rfl rfl (bU (bU (bU (bU (bU (bU (bU (bU (bU (bU (Y.F_newp (fun B15=>Y.F_putN (Y.F_nil ?_))))))))))))))
 refine ra rfl (eX (cK (cK (fO [0,1,2,3,4] rfl (by decide) (cY (rm rfl (rm rfl (ro rfl (nS (Ht rfl) (Ht rfl)) (rm rfl (fQ rfl rfl (eK rfl rfl (Ht rfl) (fun h=>eJ A_32 Z_32 (Ht rfl) (i:=3) rfl rfl rfl)) (fQ rfl rfl (eK rfl rfl (Ht rfl) (fun h=>eJ A_40 Z_40 (Ht rfl) (i:=4) rfl rfl rfl)) (fQ rfl rfl (eK rfl rfl (Ht rfl) (fun h=>cZ Tryz.call17 (yE (x:=(jZ hot.q cold.q ph pc).1) (y:=(jZ hot.q cold.q ph pc).1) (hx:=gR) (hy:=gR) (by decide) (by decide)) ⟨(fJ rfl h),(fJ rfl h),trivial⟩)) ?_))))))))))))
 refine fQ rfl rfl (eK rfl rfl (Ht rfl) (fun h=>cB (fJ rfl h))) (ro rfl (dT (Ht rfl) (fun h=>(fJ rfl h))) (eX (pE (Ht rfl) (by simp) ?_)))
 refine cU (cK (fO [0,1,2,3,4] rfl (by decide) (Y.D_start (m:=9) [(8,3,box B13 32 [aB (decide ((mF hot.q cold.q).1.a < 0)),aD (mF hot.q cold.q).1.a.natAbs,aB (decide ((mF hot.q cold.q).1.b < 0)),aD (mF hot.q cold.q).1.b.natAbs,aD (du (mF hot.q cold.q).1)])] (Y.D_step (Ei:=[(5,_)]) rfl rfl (bQ (bJ rfl rfl) bX) rfl rfl (by kernel_rfl) (dX rfl (eJ A_23 Z_23 (Ht rfl) (i:=0) rfl rfl rfl)) (Y.D_step (Ei:=[(51,_)]) rfl rfl (bQ (bZ 0 rfl rfl) bX) rfl rfl (by kernel_rfl) (dX rfl (cZ K_14 (mJ (r:=hot)) ⟨(Ht rfl),trivial⟩)) ?_)))))
 refine Y.D_step (Ei:=[(6,_)]) rfl rfl (bQ (bJ rfl rfl) bX) rfl rfl (by kernel_rfl) (dX rfl (eJ A_23 Z_23 (Ht rfl) (i:=1) rfl rfl rfl)) (Y.D_step (Ei:=[(53,_)]) rfl rfl (bQ (bZ 2 rfl rfl) bX) rfl rfl (by kernel_rfl) (dX rfl (cZ K_14 (mJ (r:=cold)) ⟨(Ht rfl),trivial⟩)) ?_)
 refine Y.D_step (Ei:=[(52,_),(54,_)]) rfl rfl (bQ (bZ 1 rfl rfl) (bQ (bZ 3 rfl rfl) bX)) rfl rfl (by kernel_rfl) (dX rfl (cZ Tryz.call18 (Cw (t:=hot.q) (t0:=cold.q) (L:=2) f1 f2 (by decide) (by decide)) ⟨(Ht rfl),(Ht rfl),trivial⟩)) (Y.D_step (Ei:=[(55,_)]) rfl rfl (bQ (bZ 4 rfl rfl) bX) rfl rfl (by kernel_rfl) (dX rfl (cX (Ht rfl))) (Y.D_step (Ei:=[(50,_)]) rfl rfl (bQ (bZ 5 rfl rfl) bX) rfl rfl (by kernel_rfl) (dX rfl (dK (Ht rfl) rfl)) (bY (Ei:=[(50,_)]) rfl rfl (bQ (bZ 5 rfl rfl) bX) rfl rfl (dX rfl (dK (Ht rfl) rfl)) ?_)))
 refine Y.D_putI (Ei:=[(13,_),(56,_)]) 3 rfl rfl rfl (bQ (bJ rfl rfl) (bQ (bZ 6 rfl rfl) bX)) (.head _) rfl (mG Z_32 (Ht rfl) (Ht rfl) rfl (i:=0) rfl (aK rfl) rfl rfl) (Y.D_done bB rfl (by kernel_rfl) rfl (by simp [Y.okP]) rfl rfl (bU (bU (bU (bU (bU (bU (bU (bU (Y.F_putI (Y.F_nil ?_)))))))))))
 refine ra rfl (eX (cK (fO [0,1,2,3,4] rfl (by decide) (Y.D_start (m:=9) [(8,4,box B15 40 [aB (decide ((mF hot.q cold.q).1.a < 0)),aD (mF hot.q cold.q).1.a.natAbs,aB (decide ((mF hot.q cold.q).1.b < 0)),aD (mF hot.q cold.q).1.b.natAbs,aD (mF hot.q cold.q).1.den])] (Y.D_step (Ei:=[(5,_)]) rfl rfl (bQ (bJ rfl rfl) bX) rfl rfl (by kernel_rfl) (dX rfl (eJ A_23 Z_23 (Ht rfl) (i:=0) rfl rfl rfl)) (Y.D_step (Ei:=[(59,_)]) rfl rfl (bQ (bZ 0 rfl rfl) bX) rfl rfl (by kernel_rfl) (dX rfl (cZ K_16 (vJ (r:=hot)) ⟨(Ht rfl),trivial⟩)) ?_))))))
 refine Y.D_step (Ei:=[(6,_)]) rfl rfl (bQ (bJ rfl rfl) bX) rfl rfl (by kernel_rfl) (dX rfl (eJ A_23 Z_23 (Ht rfl) (i:=1) rfl rfl rfl)) (Y.D_step (Ei:=[(61,_)]) rfl rfl (bQ (bZ 2 rfl rfl) bX) rfl rfl (by kernel_rfl) (dX rfl (cZ K_16 (vJ (r:=cold)) ⟨(Ht rfl),trivial⟩)) ?_)
 refine Y.D_step (Ei:=[(60,_),(62,_)]) rfl rfl (bQ (bZ 1 rfl rfl) (bQ (bZ 3 rfl rfl) bX)) rfl rfl (by kernel_rfl) (dX rfl (cZ Tryz.call19 (Ad (t:=hot.q) (t0:=cold.q) (L:=2) f1 f2 (by decide) (by decide)) ⟨(Ht rfl),(Ht rfl),trivial⟩)) (Y.D_step (Ei:=[(63,_)]) rfl rfl (bQ (bZ 4 rfl rfl) bX) rfl rfl (by kernel_rfl) (dX rfl (cX (Ht rfl))) (Y.D_step (Ei:=[(58,_)]) rfl rfl (bQ (bZ 5 rfl rfl) bX) rfl rfl (by kernel_rfl) (dX rfl (dK (Ht rfl) rfl)) (bY (Ei:=[(58,_)]) rfl rfl (bQ (bZ 5 rfl rfl) bX) rfl rfl (dX rfl (dK (Ht rfl) rfl)) ?_)))
 refine Y.D_putI (Ei:=[(15,_),(64,_)]) 4 rfl rfl rfl (bQ (bJ rfl rfl) (bQ (bZ 6 rfl rfl) bX)) (.head _) rfl (mG Z_40 (Ht rfl) (Ht rfl) rfl (i:=0) rfl (aK rfl) rfl rfl) (Y.D_done bB rfl (by kernel_rfl) rfl (by simp [Y.okP]) rfl rfl (bU (bU (bU (bU (bU (bU (bU (bU (Y.F_putI (Y.F_nil ?_)))))))))))
 refine ra rfl (eX (cK (cK (fO [0,1,2,3,4] rfl (by decide) (cY (rm rfl (rm rfl (ro rfl (nS (Ht rfl) (Ht rfl)) (rm rfl (fQ rfl rfl (eK rfl rfl (Ht rfl) (fun h=>eJ A_32 Z_32 (Ht rfl) (i:=3) rfl rfl rfl)) (fQ rfl rfl (eK rfl rfl (Ht rfl) (fun h=>eJ A_40 Z_40 (Ht rfl) (i:=4) rfl rfl rfl)) (fQ rfl rfl (eK rfl rfl (Ht rfl) (fun h=>cZ Tryz.call17 (yE (x:=(mF hot.q cold.q).1) (y:=(mF hot.q cold.q).1) (hx:=gF) (hy:=gF) (by decide) (by decide)) ⟨(fJ rfl h),(fJ rfl h),trivial⟩)) ?_))))))))))))
 refine fQ rfl rfl (eK rfl rfl (Ht rfl) (fun h=>cB (fJ rfl h))) (ro rfl (dT (Ht rfl) (fun h=>(fJ rfl h))) (eX (pE (Ht rfl) (by simp) ?_)))
 refine cU (cK (fO [0,1,2,3,4] rfl (by decide) (Y.D_start (m:=11) [(10,3,box B13 32 [aB (decide ((uK hot.q cold.q g.q).1.a < 0)),aD (uK hot.q cold.q g.q).1.a.natAbs,aB (decide ((uK hot.q cold.q g.q).1.b < 0)),aD (uK hot.q cold.q g.q).1.b.natAbs,aD (du (uK hot.q cold.q g.q).1)])] (Y.D_step (Ei:=[(5,_)]) rfl rfl (bQ (bJ rfl rfl) bX) rfl rfl (by kernel_rfl) (dX rfl (eJ A_23 Z_23 (Ht rfl) (i:=0) rfl rfl rfl)) (Y.D_step (Ei:=[(76,_)]) rfl rfl (bQ (bZ 0 rfl rfl) bX) rfl rfl (by kernel_rfl) (dX rfl (cZ K_14 (mJ (r:=hot)) ⟨(Ht rfl),trivial⟩)) ?_)))))
 refine Y.D_step (Ei:=[(6,_)]) rfl rfl (bQ (bJ rfl rfl) bX) rfl rfl (by kernel_rfl) (dX rfl (eJ A_23 Z_23 (Ht rfl) (i:=1) rfl rfl rfl)) (Y.D_step (Ei:=[(78,_)]) rfl rfl (bQ (bZ 2 rfl rfl) bX) rfl rfl (by kernel_rfl) (dX rfl (cZ K_14 (mJ (r:=cold)) ⟨(Ht rfl),trivial⟩)) ?_)
 refine Y.D_step (Ei:=[(9,_)]) rfl rfl (bQ (bJ rfl rfl) bX) rfl rfl (by kernel_rfl) (dX rfl (eJ A_23 Z_23 (Ht rfl) (i:=2) rfl rfl rfl)) (Y.D_step (Ei:=[(80,_)]) rfl rfl (bQ (bZ 4 rfl rfl) bX) rfl rfl (by kernel_rfl) (dX rfl (cZ K_14 (mJ (r:=g)) ⟨(Ht rfl),trivial⟩)) ?_)
 refine Y.D_step (Ei:=[(77,_),(79,_),(81,_)]) rfl rfl (bQ (bZ 1 rfl rfl) (bQ (bZ 3 rfl rfl) (bQ (bZ 5 rfl rfl) bX))) rfl rfl (by kernel_rfl) (dX rfl (cZ Tryz.call20 (Nr (t:=hot.q) (r:=cold.q) (g:=g.q) (L:=2) f1 f2 f3 (by decide) (by decide)) ⟨(Ht rfl),(Ht rfl),(Ht rfl),trivial⟩)) ?_
 refine Y.D_step (Ei:=[(82,_)]) rfl rfl (bQ (bZ 6 rfl rfl) bX) rfl rfl (by kernel_rfl) (dX rfl (cX (Ht rfl))) (Y.D_step (Ei:=[(75,_)]) rfl rfl (bQ (bZ 7 rfl rfl) bX) rfl rfl (by kernel_rfl) (dX rfl (dK (Ht rfl) rfl)) (bY (Ei:=[(75,_)]) rfl rfl (bQ (bZ 7 rfl rfl) bX) rfl rfl (dX rfl (dK (Ht rfl) rfl)) (Y.D_putI (Ei:=[(13,_),(83,_)]) 3 rfl rfl rfl (bQ (bJ rfl rfl) (bQ (bZ 8 rfl rfl) bX)) (.head _) rfl (mG Z_32 (Ht rfl) (Ht rfl) rfl (i:=0) rfl (aK rfl) rfl rfl) ?_)))
 refine Y.D_done bB rfl (by kernel_rfl) rfl (by simp [Y.okP]) rfl rfl (bU (bU (bU (bU (bU (bU (bU (bU (bU (bU (Y.F_putI (Y.F_nil ?_))))))))))))
 refine ra rfl (eX (cK (fO [0,1,2,3,4] rfl (by decide) (Y.D_start (m:=11) [(10,4,box B15 40 [aB (decide ((uK hot.q cold.q g.q).1.a < 0)),aD (uK hot.q cold.q g.q).1.a.natAbs,aB (decide ((uK hot.q cold.q g.q).1.b < 0)),aD (uK hot.q cold.q g.q).1.b.natAbs,aD (uK hot.q cold.q g.q).1.den])] (Y.D_step (Ei:=[(5,_)]) rfl rfl (bQ (bJ rfl rfl) bX) rfl rfl (by kernel_rfl) (dX rfl (eJ A_23 Z_23 (Ht rfl) (i:=0) rfl rfl rfl)) (Y.D_step (Ei:=[(86,_)]) rfl rfl (bQ (bZ 0 rfl rfl) bX) rfl rfl (by kernel_rfl) (dX rfl (cZ K_16 (vJ (r:=hot)) ⟨(Ht rfl),trivial⟩)) ?_))))))
 refine Y.D_step (Ei:=[(6,_)]) rfl rfl (bQ (bJ rfl rfl) bX) rfl rfl (by kernel_rfl) (dX rfl (eJ A_23 Z_23 (Ht rfl) (i:=1) rfl rfl rfl)) (Y.D_step (Ei:=[(88,_)]) rfl rfl (bQ (bZ 2 rfl rfl) bX) rfl rfl (by kernel_rfl) (dX rfl (cZ K_16 (vJ (r:=cold)) ⟨(Ht rfl),trivial⟩)) ?_)
 refine Y.D_step (Ei:=[(9,_)]) rfl rfl (bQ (bJ rfl rfl) bX) rfl rfl (by kernel_rfl) (dX rfl (eJ A_23 Z_23 (Ht rfl) (i:=2) rfl rfl rfl)) (Y.D_step (Ei:=[(90,_)]) rfl rfl (bQ (bZ 4 rfl rfl) bX) rfl rfl (by kernel_rfl) (dX rfl (cZ K_16 (vJ (r:=g)) ⟨(Ht rfl),trivial⟩)) ?_)
 refine Y.D_step (Ei:=[(87,_),(89,_),(91,_)]) rfl rfl (bQ (bZ 1 rfl rfl) (bQ (bZ 3 rfl rfl) (bQ (bZ 5 rfl rfl) bX))) rfl rfl (by kernel_rfl) (dX rfl (cZ Tryz.call21 (Jq (t:=hot.q) (r:=cold.q) (g:=g.q) (L:=2) f1 f2 f3 (by decide) (by decide)) ⟨(Ht rfl),(Ht rfl),(Ht rfl),trivial⟩)) ?_
 refine Y.D_step (Ei:=[(92,_)]) rfl rfl (bQ (bZ 6 rfl rfl) bX) rfl rfl (by kernel_rfl) (dX rfl (cX (Ht rfl))) (Y.D_step (Ei:=[(85,_)]) rfl rfl (bQ (bZ 7 rfl rfl) bX) rfl rfl (by kernel_rfl) (dX rfl (dK (Ht rfl) rfl)) (bY (Ei:=[(85,_)]) rfl rfl (bQ (bZ 7 rfl rfl) bX) rfl rfl (dX rfl (dK (Ht rfl) rfl)) (Y.D_putI (Ei:=[(15,_),(93,_)]) 4 rfl rfl rfl (bQ (bJ rfl rfl) (bQ (bZ 8 rfl rfl) bX)) (.head _) rfl (mG Z_40 (Ht rfl) (Ht rfl) rfl (i:=0) rfl (aK rfl) rfl rfl) ?_)))
 refine Y.D_done bB rfl (by kernel_rfl) rfl (by simp [Y.okP]) rfl rfl (bU (bU (bU (bU (bU (bU (bU (bU (bU (bU (Y.F_putI (Y.F_nil ?_))))))))))))
 refine ra rfl (eX (cK (fO [0,1,2,3,4] rfl (by decide) (cY (rm rfl (rm rfl (ro rfl (kK (Ht rfl) (Ht rfl)) (rm rfl (fQ rfl rfl (eK rfl rfl (Ht rfl) (fun h=>eJ A_32 Z_32 (Ht rfl) (i:=3) rfl rfl rfl)) (fQ rfl rfl (eK rfl rfl (Ht rfl) (fun h=>eJ A_40 Z_40 (Ht rfl) (i:=4) rfl rfl rfl)) (fQ rfl rfl (eK rfl rfl (Ht rfl) (fun h=>cZ Tryz.call17 (yE (x:=(uK hot.q cold.q g.q).1) (y:=(uK hot.q cold.q g.q).1) (hx:=gI) (hy:=gI) (by decide) (by decide)) ⟨(fJ rfl h),(fJ rfl h),trivial⟩)) ?_)))))))))))
 refine ro rfl (dO (Ht rfl) (fun h=>(fJ rfl h))) (rm rfl (fQ rfl rfl (eK rfl rfl (Ht rfl) (fun h=>cZ Tryz.call22 Nw trivial)) (ro rfl (dO (Ht rfl) (fun h=>(fJ rfl h))) (ra rfl (eX (fW rfl (fX (eU rfl) ?_)))))))
 exact (fC (by simp))
end
end Go.Proofs.YthcmlodgnfekeaaGreat
