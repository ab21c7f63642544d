/- What functions of the program compute, proved by walks over their code, and the plain mathematics of it; a part of the proof in the last text. -/
import Derived.Test.YthcmlodgnfekeaaGreatP03
set_option linter.unusedVariables false
set_option linter.unusedSimpArgs false
set_option maxRecDepth 100000
set_option maxHeartbeats 4000000
namespace Go.Proofs.YthcmlodgnfekeaaGreat
section
open Go Go.RowKit
theorem Jx {a b:List (List Qi)} {n k m L M:Nat} (ha:iA a n k) (hb:iA b k m) (hfa:bS a L) (hfb:bS b M) (hL1:1 ≤ L) (hM1:1 ≤ M) (hL:L ≤ 900000000000) (hM:M ≤ 900000000000) (hn1:1 ≤ n ∨ k = 0) (hk1:1 ≤ k ∨ m = 0) (hn:n ≤ 8) (hk:k ≤ 8) (hm:m ≤ 8):jC Tryz.prog 165 [fN a,fN b] [] (Nat) (fun B=>fT [Is (.slice (some ⟨B,0,none⟩) n n),aF .i64 0]) (fun B=>[wB B 54 32 5 (eH bA (tX a b n k m))]) (fun _=>True):=by
 have hal:=ha.1
 have hbl:=hb.1
 refine jC.intro Tryz.func165 rfl Tryz.ntmps165 rfl (fun cx Z=>(ts (ro rfl (cQ cV) (ro rfl (cQ (cJ 0)) (eX (ts (rm rfl (ro rfl (cZ Tryz.call231 (vE ha hn1 zo zo) ⟨(Ht rfl),trivial⟩) (rm rfl (ro rfl (dK (Ht rfl) rfl) (ro rfl (dK (Ht rfl) rfl) (ra rfl (ra rfl (eX (ts (rm rfl (ro rfl (cZ Tryz.call231 (vE hb hk1 zo zo) ⟨(Ht rfl),trivial⟩) (rm rfl (ro rfl (dK (Ht rfl) rfl) (ro rfl (dK (Ht rfl) rfl) (ra rfl (ra rfl (eX (cK (ts (rm rfl (ro rfl (eN (Ht rfl)) ?_)))))))))))))))))))))))))))
 refine rm rfl (fQ rfl rfl (eK rfl rfl (Ht rfl) (fun h=>cX (Ht rfl))) (fQ rfl rfl (eK rfl rfl (Ht rfl) (fun h=>eN (fJ rfl h))) (ro rfl (eE (Ht rfl) (fun h=>(fJ rfl h))) (rm rfl (fQ rfl rfl (eK rfl rfl (Ht rfl) (fun h=>cX (Ht rfl))) (fQ rfl rfl (eK rfl rfl (Ht rfl) (fun h=>cX (Ht rfl))) (fQ rfl rfl (eK rfl rfl (Ht rfl) (fun h=>dG U_78 (fJ rfl h) aA)) (fQ rfl rfl (eK rfl rfl (Ht rfl) (fun h=>jY (fJ rfl h) (fJ rfl h))) (ro rfl (eE (Ht rfl) (fun h=>(fJ rfl h))) ?_)))))))))
 refine eX (dQ (Ht rfl) (fun h0=>?_) (fun h0=>?_))
 ·exact absurd h0 (by simp [hbl])
 ·refine cU (ts (rm rfl (ro rfl (dG U_78 (Ht rfl) aA) (rn rfl (dC (T := Is (.slice none 0 0)) (i := Tryz.t54) V_78 pP rfl rfl (Ht rfl) rfl (fun _ => rfl) trivial (by show 24 * _ ≤ _; omega) zo) fun B39 => (ra rfl (eX (cK (ts (rm rfl (ro rfl (iZ U_78 (Ht rfl)) (ro rfl (cX (cJ 0)) (eX (eG (qJ 1 rfl (uK (e := 32) (s := 5)) ?_))))))))))))))
  refine eP (fun (i : Nat) => i ≤ n) (fun (i : Nat) => n - i) (fun (i : Nat) => [(0, fN a), (1, fN b), (6, NT .i64 k), (8, NT .i64 m), (10, Is (.slice (some ⟨B39, 0, none⟩) n n)), (41, NT .i64 n), (42, NT .i64 i)]) (fun (i : Nat) => [Z, wB B39 54 32 5 (eH bA (mX (fun i => tab m fun c => tV a b k i c) [] n i))]) 0 (Nat.zero_le _)
   (aQ rfl (aQ rfl (aQ rfl (aQ rfl (aZ rfl (fun v V h=>by rw [← hal]; exact h) (aZ rfl (kT hal) (zS rfl))))))) (aU (fun _ _ _ h=>h) (aU (dT (by rw [← oP,nC,hal]; exact oS bA n)) aY)) (fun i hi=>?_)
  refine ts (ro rfl (gX (Ht rfl) (Ht rfl)) (eX (cK (dQ (Ht rfl) (fun hd=>?_) (fun hd=>?_)))))
  ·simp only [decide_eq_true_eq] at hd
   have har:=ha.row hd
   refine tZ 1 (i) rfl (oK hd) (fun v=>(cU (cK (eG (ts (rm rfl (ra rfl (eX (ts (rm rfl (ro rfl (cX (cJ 0)) (eX (eG ?_)))))))))))))
   refine dP (fun (c : Nat) (v : Value) => c ≤ m) (fun (c : Nat) (v : Value) => m - c) (fun (c : Nat) (v : Value) => [(0, fN a), (1, fN b), (6, NT .i64 k), (8, NT .i64 m), (10, Is (.slice (some ⟨B39, 0, none⟩) n n)), (11, NT .i64 i), (41, NT .i64 n), (42, NT .i64 i), (45, NT .i64 m), (46, NT .i64 c)]) (fun (c : Nat) (v : Value) => [Z, Lq B39 54 32 5 (eH bA (mX (fun i => tab m fun c => tV a b k i c) [] n i)) i v, bE 32 5 v ((tab c fun c => tV a b k i c).map bA)]) 0 v (Nat.zero_le _)
    (zS rfl) (cF.refl _) (fun c v hc=>?_)
   refine ts (ro rfl (gX (Ht rfl) (Ht rfl)) (eX (cK (dQ (Ht rfl) (fun he=>?_) (fun he=>?_)))))
   ·simp only [decide_eq_true_eq] at he
    have hk1:1 ≤ k:=by omega
    have hb0:=hb.row (i:=0) zo
    haveI f1:aL (gm a i 0) L:=hfa.get hL1 i 0
    haveI f2:aL (gm b 0 c) M:=hfb.get hM1 0 c
    refine cU (cK (eG (ts (rm rfl (ra rfl (eX (cK (fZ (m:=15) (dp 0 rfl (cX (Ht rfl)) (dp 11 rfl (cX (Ht rfl)) (cP 49 0 50 1 rfl (dZ U_78 Z_54 (Ht rfl) (Ht rfl) rfl (dY (dU (d:=[]) zo))) (dq 51 2 rfl (dJ A_54 Z_54 (Ht rfl)) (dq 52 3 rfl (dZ U_54 Z_32 (Ht rfl) (cJ 0) rfl (dY (dU (d:=Qi.zero) (by rw [har]; omega)))) ?_)))))))))))))
    refine dq 53 4 rfl (dJ A_32 Z_32 (Ht rfl)) (dq 54 5 rfl (eB fD (Ht rfl)) (dp 1 rfl (cX (Ht rfl)) (dq 56 7 rfl (dZ U_78 Z_54 (Ht rfl) (cJ 0) rfl (dY (dU (d:=[]) zo))) (dq 57 8 rfl (dJ A_54 Z_54 (Ht rfl)) (dp 12 rfl (cX (Ht rfl)) (cP 58 9 59 10 rfl (dZ U_54 Z_32 (Ht rfl) (Ht rfl) rfl (dY (dU (d:=Qi.zero) (by rw [hb0]; omega)))) ?_))))))
    refine dq 60 11 rfl (dJ A_32 Z_32 (Ht rfl)) (cP 55 6 61 12 rfl (cR gM K_29 (lR zo) (Ht rfl) ⟨(Ht rfl),trivial⟩) (C.D_new (Ei:=[]) rfl rfl rfl bW (eW (Ts:=[Is (.bool false),Is (.slice none 0 0),Is (.bool false),Is (.slice none 0 0),Is (.slice none 0 0)]) O_32 rfl (fun V=>aW zd (aW zd (aW zd (aW zd (aW zd (aG))))))) (fV mixed rfl (by kernel_rfl) (zF (zF (zF (aJ (aJ (C.F_new (fun B13=>aV ?_))))))))))
    refine gQ Z_32 (Ht rfl) (Ht rfl) rfl (i:=3) rfl (aK rfl) rfl rfl (eX (cK (ts (ro rfl (cQ (cJ 1)) (eX (eG ?_))))))
    refine eP (fun (j : Nat) => 1 ≤ j ∧ j ≤ k) (fun (j : Nat) => k - j) (fun (j : Nat) => [(0, fN a), (1, fN b), (6, NT .i64 k), (8, NT .i64 m), (10, Is (.slice (some ⟨B39, 0, none⟩) n n)), (11, NT .i64 i), (12, NT .i64 c), (13, bT B13 0), (14, NT .i64 j), (41, NT .i64 n), (42, NT .i64 i), (45, NT .i64 m), (46, NT .i64 c)]) (fun (j : Nat) => [Z, Lq B39 54 32 5 (eH bA (mX (fun i => tab m fun c => tV a b k i c) [] n i)) i v, bE 32 5 v ((tab c fun c => tV a b k i c).map bA), box B13 32 [aC (decide ((eC j fun j => gm a i j * gm b j c).a < 0)), aB (eC j fun j => gm a i j * gm b j c).a.natAbs, aC (decide ((eC j fun j => gm a i j * gm b j c).b < 0)), aB (eC j fun j => gm a i j * gm b j c).b.natAbs, aB (du (eC j fun j => gm a i j * gm b j c))]]) 1 ⟨Nat.le_refl _, hk1⟩
     (zS rfl) (aU (fun _ _ _ h=>h) (aU (fun _ _ _ h=>h) (aU (fun _ _ _ h=>h) (aU (aD (by rw [Nn]; rfl)) aY)))) (fun j ⟨hj1,hj⟩=>?_)
    refine cK (ts (rm rfl (rm rfl (ro rfl (gX (Ht rfl) (Ht rfl)) (eX (dQ (Ht rfl) (fun hf=>?_) (fun hf=>?_)))))))
    ·simp only [decide_eq_true_eq] at hf
     haveI f3:aL (gm a i j) L:=hfa.get hL1 i j
     haveI f4:aL (gm b j c) M:=hfb.get hM1 j c
     haveI f5:aL (eC j fun j=>gm a i j * gm b j c) (8 * (L + M) + 17):=Fv hfa hfb hL1 hM1 zo i c
     have hbj:=hb.row (i:=j) zo
     refine cU (cK (eG (fZ (m:=18) (dp 13 rfl (eJ A_32 Z_32 (Ht rfl) (i:=3) rfl rfl rfl) (dq 68 0 rfl (eB fD (Ht rfl)) (dp 0 rfl (cX (Ht rfl)) (dp 11 rfl (cX (Ht rfl)) (cP 70 2 71 3 rfl (dZ U_78 Z_54 (Ht rfl) (Ht rfl) rfl (dY (dU (d:=[]) zo))) (dq 72 4 rfl (dJ A_54 Z_54 (Ht rfl)) (dp 14 rfl (cX (Ht rfl)) (cP 73 5 74 6 rfl (dZ U_54 Z_32 (Ht rfl) (Ht rfl) rfl (dY (dU (d:=Qi.zero) (by rw [har]; omega)))) ?_)))))))))))
     refine dq 75 7 rfl (dJ A_32 Z_32 (Ht rfl)) (dq 76 8 rfl (eB fD (Ht rfl)) (dp 1 rfl (cX (Ht rfl)) (dp 14 rfl (cX (Ht rfl)) (cP 78 10 79 11 rfl (dZ U_78 Z_54 (Ht rfl) (Ht rfl) rfl (dY (dU (d:=[]) zo))) (dq 80 12 rfl (dJ A_54 Z_54 (Ht rfl)) (dp 12 rfl (cX (Ht rfl)) (cP 81 13 82 14 rfl (dZ U_54 Z_32 (Ht rfl) (Ht rfl) rfl (dY (dU (d:=Qi.zero) (by rw [hbj]; omega)))) ?_)))))))
     refine dq 83 15 rfl (dJ A_32 Z_32 (Ht rfl)) (cP 77 9 84 16 rfl (cR gM K_29 (lR zo) (Ht rfl) ⟨(Ht rfl),trivial⟩) (fV mixed rfl (by kernel_rfl) (zF (zF (zF (zF (aJ (aJ (aV (ro rfl (cR tH Tryz.call33 (Fh zo) (Ht rfl) ⟨(Ht rfl),trivial⟩) (gQ Z_32 (Ht rfl) (Ht rfl) rfl (i:=3) rfl (aK rfl) rfl rfl (eX (bF ?_)))))))))))))
     refine cY (rm rfl (ro rfl (dV (Ht rfl) (cJ 1) z6) (ra rfl (eX (fU (j + 1) ⟨by omega,hf⟩ zo (zS rfl) (aU (fun _ _ _ h=>h) (aU (fun _ _ _ h=>h) (aU (fun _ _ _ h=>h) (aU (aD rfl) aY)))))))))
    ·simp only [decide_eq_false_iff_not] at hf
     obtain rfl:k = j:=Nat.le_antisymm zo hj
     refine gV rfl (Y.D_startA (m:=9) [] 8 2 rfl rfl (bY (Ei:=[(10,_)]) rfl rfl (bQ (bJ rfl rfl) bX) rfl rfl (dX rfl (cX (Ht rfl))) (bY (Ei:=[(11,_)]) rfl rfl (bQ (bJ rfl rfl) bX) rfl rfl (dX rfl (cX (Ht rfl))) (bY (Ei:=[(10,_)]) rfl rfl (bQ (bJ rfl rfl) bX) rfl rfl (dX rfl (cX (Ht rfl))) (bY (Ei:=[(11,_)]) rfl rfl (bQ (bJ rfl rfl) bX) rfl rfl (dX rfl (cX (Ht rfl))) (bY (Ei:=[(89,_),(90,_)]) rfl rfl (bQ (bZ 2 rfl rfl) (bQ (bZ 3 rfl rfl) bX)) rfl rfl (dX rfl (fY U_78 Z_54 (Ht rfl) (Ht rfl) rfl zo (by rw [Nat.mul_one,Nat.zero_add]))) ?_))))))
     refine bY (Ei:=[(91,_)]) rfl rfl (bQ (bZ 4 rfl rfl) bX) rfl rfl (dX rfl (nL A_54 Z_54 (Ht rfl) (j:=1) rfl)) (bY (Ei:=[(13,_)]) rfl rfl (bQ (bJ rfl rfl) bX) rfl rfl (dX rfl (eJ A_32 Z_32 (Ht rfl) (i:=3) rfl rfl rfl)) (bY (Ei:=[(93,_)]) rfl rfl (bQ (bZ 6 rfl rfl) bX) rfl rfl (dX rfl (cH (xs:=[.tmp 93]) U_54 Z_32 O_32 (cW (Ht rfl) cG) rfl rfl rfl)) (Y.D_app (Ei:=[(92,_),(94,_)]) rfl rfl rfl rfl (bQ (bZ 5 rfl rfl) (bQ (bZ 7 rfl rfl) bX)) rfl (uT (inf:=Tryz.t32) oY mK rfl rfl rfl (Ht rfl) (Ht rfl) (by simp) (fun T hT=>by simp at hT; subst hT; exact El.ag rfl) (by show _ * 88 ≤ _; simp only [List.length_map,bR,List.length_cons,List.length_nil]; omega) (by simp only [List.length_map,bR,List.length_cons,List.length_nil]; omega)) ?_)))
     refine Y.D_done mixed rfl (by kernel_rfl) rfl (by simp [Y.okP]) rfl rfl (bU (bU (bU (bU (bU (bU (bU (bU (Y.F_app (fun v2=>Y.F_nil ?_))))))))))
     refine ro rfl (fY U_78 Z_54 (Ht rfl) (Ht rfl) rfl zo (by rw [Nat.mul_one,Nat.zero_add])) ?_
     refine Ac Z_54 (Ht rfl) (Ht rfl) (by simp only [eH,List.length_map,jL]; omega) (j:=1) (l:=4) rfl rfl rfl ?_
     refine eX (bF (cY (ro rfl (dV (Ht rfl) (cJ 1) z6) (rm rfl (eX (eD [0,1,4] rfl (by decide) (fU (c + 1,v2) he (by dsimp only; omega) (zS rfl) (aU (fun _ _ _ h=>h) (aU (fun _ _ _ h=>h) (aU (bN ((Ai bA _ (tV a b k i c)).trans (congrArg _ (wK c (fun c=>tV a b k i c)).symm))) aY))))))))))
   ·simp only [decide_eq_false_iff_not] at he
    obtain rfl:m = c:=Nat.le_antisymm zo hc
    refine gV rfl (bF (jP 1 2 rfl rfl (by decide) (by simp only [eH,List.length_map,jL]; omega) ?_))
    refine cY (ro rfl (dV (Ht rfl) (cJ 1) z6) (rm rfl (eX (eD [0,1] rfl (by decide) (fU (i + 1) hd zo (zS rfl) (aU (fun _ _ _ h=>h) (aU (dT (by rw [kX,← rQ (f:=(fun i=>tab m fun c=>tV a b k i c))])) aY)))))))
  ·simp only [decide_eq_false_iff_not] at hd
   obtain rfl:n = i:=Nat.le_antisymm zo hi
   refine gV rfl (ts (rm rfl (ra rfl (ro rfl (cQ (cJ 0)) (eX ?_)))))
   exact lP B39 trivial [0,1] ⟨⟨_,rfl,fun _ _ _ h=>h⟩,⟨_,rfl,(dT (by rw [rP]; rfl))⟩,trivial⟩ (by decide) (Ye rfl (eU rfl) (eU rfl))
theorem Fi {a b:List (List Qi)} {n k m L M:Nat} (ha:iA a n k) (hb:iA b k m) (hfa:bS a L) (hfb:bS b M) (hL1:1 ≤ L) (hM1:1 ≤ M) (hL:L ≤ 900000000000) (hM:M ≤ 900000000000) (hn1:1 ≤ n) (hk1:1 ≤ k) (hn:n ≤ 8) (hk:k ≤ 8) (hm:m ≤ 8):jC Tryz.prog 165 [fN a,fN b] [] Nat (fun B=>fT [Is (.slice (some ⟨B,0,none⟩) n n),aF .i64 0]) (fun B=>[wB B 54 32 5 (eH bA (tX a b n k m))]) (fun _=>True):=Jx ha hb hfa hfb hL1 hM1 hL hM (.inl hn1) (.inl hk1) hn hk hm
theorem Un {a b:List (List Qi)} {n k m L M:Nat} (ha:iA a n k) (hb:iA b k m) (hfa:bS a L) (hfb:bS b M) (hL1:1 ≤ L) (hM1:1 ≤ M) (hL:L ≤ 900000000000) (hM:M ≤ 900000000000) (hn1:1 ≤ n) (hk1:1 ≤ k) (hn:n ≤ 8) (hk:k ≤ 8) (hm:m ≤ 8):bB Tryz.prog 165 [fN a,fN b] (fT [fN (tX a b n k m),aF .i64 0]):=(Fi ha hb hfa hfb hL1 hM1 hL hM hn1 hk1 hn hk hm).fun fun B _ v S V h1 h2=>Ym h1 fun u hu=>lU (s:=5) (M:=tX a b n k m) (bR _ _).symm u S V hu h2
theorem Ul {a:List (List Qi)} {n m:Nat} (ha:iA a n m) (hn1:1 ≤ n) (hn:n ≤ 8) (hm:m ≤ 8):jC Tryz.prog 213 [fN a] [] (Nat) (fun B=>fT [Is (.slice (some ⟨B,0,none⟩) m m),aF .i64 0]) (fun B=>[wB B 54 32 5 (eH bA (yJ a n m))]) (fun _=>True):=by
 have hal:=ha.1
 refine jC.intro Tryz.func213 rfl Tryz.ntmps213 rfl (fun cx Z=>(ts (ro rfl (cQ cV) (ro rfl (cQ (cJ 0)) (eX (ts (rm rfl (ro rfl (cZ Tryz.call231 (xE ha hn1 zo zo) ⟨(Ht rfl),trivial⟩) (rm rfl (ro rfl (dK (Ht rfl) rfl) (ro rfl (dK (Ht rfl) rfl) (ra rfl (ra rfl (eX (cK (ts (rm rfl (ro rfl (eN (Ht rfl)) (eX (dQ (Ht rfl) (fun h0=>?_) (fun h0=>?_)))))))))))))))))))))
 ·exact absurd h0 (by simp)
 ·refine cU (ts (rm rfl (rn rfl (dC (T := Is (.slice none 0 0)) (i := Tryz.t54) V_78 pP rfl rfl (Ht rfl) rfl (fun _ => rfl) trivial (by show 24 * _ ≤ _; omega) zo) fun B17 => (ra rfl (eX (cK (ts (rm rfl (ro rfl (iZ U_78 (Ht rfl)) (ro rfl (cX (cJ 0)) (eX (eG (qJ 1 rfl (uK (e := 32) (s := 5)) ?_)))))))))))))
  refine eP (fun (k : Nat) => k ≤ m) (fun (k : Nat) => m - k) (fun (k : Nat) => [(0, fN a), (6, Is (.slice (some ⟨B17, 0, none⟩) m m)), (19, NT .i64 m), (20, NT .i64 k)]) (fun (k : Nat) => [Z, wB B17 54 32 5 (eH bA (mX (fun k => tab n fun i => (gm a i k).conj) [] m k))]) 0 (Nat.zero_le _)
   (zS rfl) (aU (fun _ _ _ h=>h) (aU (dT (by rw [← oP,nC]; exact oS bA m)) aY)) (fun k hk=>?_)
  refine ts (ro rfl (gX (Ht rfl) (Ht rfl)) (eX (cK (dQ (Ht rfl) (fun hd=>?_) (fun hd=>?_)))))
  ·simp only [decide_eq_true_eq] at hd
   refine tZ 1 (k) rfl (oK hd) (fun v=>(cU (cK (eG (ts (rm rfl (ra rfl (eX (ts (rm rfl (ro rfl (dG U_78 (Ht rfl) aA) (ro rfl (cX (cJ 0)) (eX (eG ?_))))))))))))))
   refine dP (fun (i : Nat) (v : Value) => i ≤ n) (fun (i : Nat) (v : Value) => n - i) (fun (i : Nat) (v : Value) => [(0, fN a), (6, Is (.slice (some ⟨B17, 0, none⟩) m m)), (7, NT .i64 k), (19, NT .i64 m), (20, NT .i64 k), (24, NT .i64 n), (25, NT .i64 i)]) (fun (i : Nat) (v : Value) => [Z, Lq B17 54 32 5 (eH bA (mX (fun k => tab n fun i => (gm a i k).conj) [] m k)) k v, bE 32 5 v ((tab i fun i => (gm a i k).conj).map bA)]) 0 v (Nat.zero_le _)
    (aQ rfl (aQ rfl (aQ rfl (aQ rfl (aQ rfl (aZ rfl (kT hal) (zS rfl))))))) (cF.refl _) (fun i v hi=>?_)
   refine ts (ro rfl (gX (Ht rfl) (Ht rfl)) (eX (cK (dQ (Ht rfl) (fun he=>?_) (fun he=>?_)))))
   ·simp only [decide_eq_true_eq] at he
    have har:=ha.row he
    refine cU (cK (eG (ts (rm rfl (ra rfl (eX (Y.D_startA (m:=17) [] 16 2 rfl rfl (bY (Ei:=[(6,_)]) rfl rfl (bQ (bJ rfl rfl) bX) rfl rfl (dX rfl (cX (Ht rfl))) (bY (Ei:=[(7,_)]) rfl rfl (bQ (bJ rfl rfl) bX) rfl rfl (dX rfl (cX (Ht rfl))) (bY (Ei:=[(6,_)]) rfl rfl (bQ (bJ rfl rfl) bX) rfl rfl (dX rfl (cX (Ht rfl))) (bY (Ei:=[(7,_)]) rfl rfl (bQ (bJ rfl rfl) bX) rfl rfl (dX rfl (cX (Ht rfl))) (bY (Ei:=[(30,_),(31,_)]) rfl rfl (bQ (bZ 2 rfl rfl) (bQ (bZ 3 rfl rfl) bX)) rfl rfl (dX rfl (fY U_78 Z_54 (Ht rfl) (Ht rfl) rfl zo (by rw [Nat.mul_one,Nat.zero_add]))) ?_))))))))))))
    refine bY (Ei:=[(32,_)]) rfl rfl (bQ (bZ 4 rfl rfl) bX) rfl rfl (dX rfl (nL A_54 Z_54 (Ht rfl) (j:=1) rfl)) (bY (Ei:=[(0,_)]) rfl rfl (bQ (bJ rfl rfl) bX) rfl rfl (dX rfl (cX (Ht rfl))) (bY (Ei:=[(8,_)]) rfl rfl (bQ (bJ rfl rfl) bX) rfl rfl (dX rfl (cX (Ht rfl))) (bY (Ei:=[(34,_),(35,_)]) rfl rfl (bQ (bZ 6 rfl rfl) (bQ (bZ 7 rfl rfl) bX)) rfl rfl (dX rfl (dZ U_78 Z_54 (Ht rfl) (Ht rfl) rfl (dY (dU (d:=[]) zo)))) ?_)))
    refine bY (Ei:=[(36,_)]) rfl rfl (bQ (bZ 8 rfl rfl) bX) rfl rfl (dX rfl (dJ A_54 Z_54 (Ht rfl))) (bY (Ei:=[(7,_)]) rfl rfl (bQ (bJ rfl rfl) bX) rfl rfl (dX rfl (cX (Ht rfl))) (bY (Ei:=[(37,_),(38,_)]) rfl rfl (bQ (bZ 9 rfl rfl) (bQ (bZ 10 rfl rfl) bX)) rfl rfl (dX rfl (dZ U_54 Z_32 (Ht rfl) (Ht rfl) rfl (dY (dU (d:=Qi.zero) (by rw [har]; omega))))) ?_))
    refine bY (Ei:=[(39,_)]) rfl rfl (bQ (bZ 11 rfl rfl) bX) rfl rfl (dX rfl (dJ A_32 Z_32 (Ht rfl))) (bY (Ei:=[(40,_)]) rfl rfl (bQ (bZ 12 rfl rfl) bX) rfl rfl (dX rfl (eB fD (Ht rfl))) (bY (Ei:=[(41,_)]) rfl rfl (bQ (bZ 13 rfl rfl) bX) rfl rfl (dX rfl (cR nJ Tryz.call317 Dk (Ht rfl) trivial)) (bY (Ei:=[(42,_)]) rfl rfl (bQ (bZ 14 rfl rfl) bX) rfl rfl (dX rfl (cH (xs:=[.tmp 42]) U_54 Z_32 O_32 (cW (Ht rfl) cG) rfl rfl rfl)) ?_)))
    refine Y.D_app (Ei:=[(33,_),(43,_)]) rfl rfl rfl rfl (bQ (bZ 5 rfl rfl) (bQ (bZ 15 rfl rfl) bX)) rfl (uT (inf:=Tryz.t32) oY mK rfl rfl rfl (Ht rfl) (Ht rfl) (by simp) (fun T hT=>by simp at hT; subst hT; exact El.ag rfl) (by show _ * 88 ≤ _; simp only [List.length_map,bR,List.length_cons,List.length_nil]; omega) (by simp only [List.length_map,bR,List.length_cons,List.length_nil]; omega)) ?_
    refine Y.D_done mixed rfl (by kernel_rfl) rfl (by simp [Y.okP]) rfl rfl (bU (bU (bU (bU (bU (bU (bU (bU (bU (bU (bU (bU (bU (bU (bU (bU (Y.F_app (fun v2=>Y.F_nil ?_))))))))))))))))))
    refine ro rfl (fY U_78 Z_54 (Ht rfl) (Ht rfl) rfl zo (by rw [Nat.mul_one,Nat.zero_add])) ?_
    refine Ac Z_54 (Ht rfl) (Ht rfl) (by simp only [eH,List.length_map,jL]; omega) (j:=1) (l:=3) rfl rfl rfl ?_
    refine eX (bF (cY (ro rfl (dV (Ht rfl) (cJ 1) z6) (rm rfl (eX (eD [0,1,3] rfl (by decide) (fU (i + 1,v2) he (by dsimp only; omega) (zS rfl) (aU (fun _ _ _ h=>h) (aU (fun _ _ _ h=>h) (aU (bN ((Ai bA _ (gm a i k).conj).trans (congrArg _ (wK i (fun i=>(gm a i k).conj)).symm))) aY))))))))))
   ·simp only [decide_eq_false_iff_not] at he
    obtain rfl:n = i:=Nat.le_antisymm zo hi
    refine gV rfl (bF (jP 1 2 rfl rfl (by decide) (by simp only [eH,List.length_map,jL]; omega) ?_))
    refine cY (ro rfl (dV (Ht rfl) (cJ 1) z6) (rm rfl (eX (eD [0,1] rfl (by decide) (fU (k + 1) hd zo (zS rfl) (aU (fun _ _ _ h=>h) (aU (dT (by rw [kX,← rQ (f:=(fun k=>tab n fun i=>(gm a i k).conj))])) aY)))))))
  ·simp only [decide_eq_false_iff_not] at hd
   obtain rfl:m = k:=Nat.le_antisymm zo hk
   refine gV rfl (ts (rm rfl (ra rfl (ro rfl (cQ (cJ 0)) (eX ?_)))))
   exact lP B17 trivial [0,1] ⟨⟨_,rfl,fun _ _ _ h=>h⟩,⟨_,rfl,(dT (by rw [rP]; rfl))⟩,trivial⟩ (by decide) (Ye rfl (eU rfl) (eU rfl))
theorem Xg {a:List (List Qi)} {n m:Nat} (ha:iA a n m) (hn1:1 ≤ n) (hn:n ≤ 8) (hm:m ≤ 8):bB Tryz.prog 213 [fN a] (fT [fN (yJ a n m),aF .i64 0]):=(Ul ha hn1 hn hm).fun fun B _ v S V h1 h2=>Ym h1 fun u hu=>lU (s:=5) (M:=yJ a n m) (bR _ _).symm u S V hu h2
theorem Pg {z:List Qi} {s:List (List Qi)} (hsh:iA s z.length z.length) (hl:z.length ≤ 8):jC Tryz.prog 122 [nU z s] [] (Nat) (fun B=>Is (.slice (some ⟨B,0,none⟩) z.length z.length)) (fun B=>[wB B 54 32 5 (eH bA (tab z.length fun i=>tab z.length fun k=>gm s i k))]) (fun _=>True):=by
 refine jC.intro Tryz.func122 rfl Tryz.ntmps122 rfl (fun cx Z=>(ts (rn rfl (fG (Ht rfl)) fun B1=>(ro rfl (cQ cV) (eX (ts (ro rfl (eJ A_80 Z_80 (Ht rfl) (i:=1) rfl rfl rfl) (ro rfl (cZ Tryz.call117 uD ⟨(Ht rfl),trivial⟩) (rn rfl (dC (T:=Is (.slice none 0 0)) (i:=Tryz.t54) V_78 pP rfl rfl (Ht rfl) rfl (fun _=>rfl) trivial (by show 24 * _ ≤ _; omega) zo) fun B10=>(ra rfl (eX (cK (ts (rm rfl (ro rfl (iZ U_78 (Ht rfl)) (ro rfl (cX (cJ 0)) (eX (eG ?_))))))))))))))))))
 refine qJ 2 rfl (uK (e:=32) (s:=5)) ?_
 refine eP (fun (i : Nat) => i ≤ z.length) (fun (i : Nat) => z.length - i) (fun (i : Nat) => [(1, bT B1 0), (3, Is (.slice (some ⟨B10, 0, none⟩) z.length z.length)), (12, NT .i64 z.length), (13, NT .i64 i)]) (fun (i : Nat) => [Z, box B1 80 [gE z, fN s], wB B10 54 32 5 (eH bA (mX (fun i => tab z.length fun k => gm s i k) [] z.length i))]) 0 (Nat.zero_le _)
  (zS rfl) (aU (fun _ _ _ h=>h) (aU (fun _ _ _ h=>h) (aU (dT (by rw [← oP,nC]; exact oS bA z.length)) aY))) (fun i hi=>?_)
 refine ts (ro rfl (gX (Ht rfl) (Ht rfl)) (eX (cK (dQ (Ht rfl) (fun hd=>?_) (fun hd=>?_)))))
 ·simp only [decide_eq_true_eq] at hd
  refine tZ 2 (i) rfl (oK hd) (fun v=>(cU (cK (eG (ts (rm rfl (ra rfl (eX (ts (rm rfl (ro rfl (iZ U_78 (Ht rfl)) (ro rfl (cX (cJ 0)) (eX (eG ?_))))))))))))))
  refine dP (fun (k : Nat) (v : Value) => k ≤ z.length) (fun (k : Nat) (v : Value) => z.length - k) (fun (k : Nat) (v : Value) => [(1, bT B1 0), (3, Is (.slice (some ⟨B10, 0, none⟩) z.length z.length)), (4, NT .i64 i), (12, NT .i64 z.length), (13, NT .i64 i), (17, NT .i64 z.length), (18, NT .i64 k)]) (fun (k : Nat) (v : Value) => [Z, box B1 80 [gE z, fN s], Lq B10 54 32 5 (eH bA (mX (fun i => tab z.length fun k => gm s i k) [] z.length i)) i v, bE 32 5 v ((tab k fun k => gm s i k).map bA)]) 0 v (Nat.zero_le _)
   (zS rfl) (cF.refl _) (fun k v hk=>?_)
  refine ts (ro rfl (gX (Ht rfl) (Ht rfl)) (eX (cK (dQ (Ht rfl) (fun he=>?_) (fun he=>?_)))))
  ·simp only [decide_eq_true_eq] at he
   refine cU (cK (eG (ts (rm rfl (ra rfl (eX (ts (ro rfl (eJ A_80 Z_80 (Ht rfl) (i:=1) rfl rfl rfl) (rm rfl (ro rfl (dV (Ht rfl) (cJ 1) z6) (rm rfl (ro rfl (dV (Ht rfl) (cJ 1) z6) (ro rfl (cZ Tryz.call130 (Yw (i:=(i:Int) + 1) (j:=(k:Int) + 1) hsh zo) ⟨(Ht rfl),(Ht rfl),(Ht rfl),trivial⟩) (rm rfl (ro rfl (dK (Ht rfl) rfl) (ro rfl (dK (Ht rfl) rfl) ?_))))))))))))))))
   refine rn rfl (eW (Ts:=[Is (.bool false),Is (.slice none 0 0),Is (.bool false),Is (.slice none 0 0),Is (.slice none 0 0)]) O_32 rfl (fun V=>aW zd (aW zd (aW zd (aW zd (aW zd (aG))))))) fun B6=>gQ Z_32 (Ht rfl) (Ht rfl) rfl (i:=4) rfl (aK rfl) rfl rfl (ra rfl (eX (Y.D_startA (m:=9) [] 8 3 rfl rfl (bY (Ei:=[(3,_)]) rfl rfl (bQ (bJ rfl rfl) bX) rfl rfl (dX rfl (cX (Ht rfl))) ?_))))
   refine bY (Ei:=[(4,_)]) rfl rfl (bQ (bJ rfl rfl) bX) rfl rfl (dX rfl (cX (Ht rfl))) (bY (Ei:=[(3,_)]) rfl rfl (bQ (bJ rfl rfl) bX) rfl rfl (dX rfl (cX (Ht rfl))) (bY (Ei:=[(4,_)]) rfl rfl (bQ (bJ rfl rfl) bX) rfl rfl (dX rfl (cX (Ht rfl))) (bY (Ei:=[(32,_),(33,_)]) rfl rfl (bQ (bZ 2 rfl rfl) (bQ (bZ 3 rfl rfl) bX)) rfl rfl (dX rfl (fY U_78 Z_54 (Ht rfl) (Ht rfl) rfl zo (by rw [Nat.mul_one,Nat.zero_add]))) ?_)))
   refine bY (Ei:=[(34,_)]) rfl rfl (bQ (bZ 4 rfl rfl) bX) rfl rfl (dX rfl (nL A_54 Z_54 (Ht rfl) (j:=2) rfl)) (bY (Ei:=[(6,_)]) rfl rfl (bQ (bJ rfl rfl) bX) rfl rfl (dX rfl (eJ A_32 Z_32 (Ht rfl) (i:=4) rfl rfl rfl)) (bY (Ei:=[(36,_)]) rfl rfl (bQ (bZ 6 rfl rfl) bX) rfl rfl (dX rfl (cH (xs:=[.tmp 36]) U_54 Z_32 O_32 (cW (Ht rfl) cG) rfl rfl rfl)) (Y.D_app (Ei:=[(35,_),(37,_)]) rfl rfl rfl rfl (bQ (bZ 5 rfl rfl) (bQ (bZ 7 rfl rfl) bX)) rfl (uT (inf:=Tryz.t32) oY mK rfl rfl rfl (Ht rfl) (Ht rfl) (by simp) (fun T hT=>by simp at hT; subst hT; exact El.ag rfl) (by show _ * 88 ≤ _; simp only [List.length_map,bR,List.length_cons,List.length_nil]; omega) (by simp only [List.length_map,bR,List.length_cons,List.length_nil]; omega)) ?_)))
   refine Y.D_done mixed rfl (by kernel_rfl) rfl (by simp [Y.okP]) rfl rfl (bU (bU (bU (bU (bU (bU (bU (bU (Y.F_app (fun v2=>Y.F_nil ?_))))))))))
   refine ro rfl (fY U_78 Z_54 (Ht rfl) (Ht rfl) rfl zo (by rw [Nat.mul_one,Nat.zero_add])) ?_
   refine Ac Z_54 (Ht rfl) (Ht rfl) (by simp only [eH,List.length_map,jL]; omega) (j:=2) (l:=5) rfl rfl rfl ?_
   refine eX (bF (cY (ro rfl (dV (Ht rfl) (cJ 1) z6) (rm rfl (eX (eD [0,1,2,5] rfl (by decide) (fU (k + 1,v2) he (by dsimp only; omega) (zS rfl) (aU (fun _ _ _ h=>h) (aU (fun _ _ _ h=>h) (aU (fun _ _ _ h=>h) (aU (bN (by rw [wK,List.map_append,Vz hd he]; rfl)) aY)))))))))))
  ·simp only [decide_eq_false_iff_not] at he
   obtain rfl:k = z.length:=Nat.le_antisymm hk zo
   refine gV rfl (bF (jP 2 3 rfl rfl (by decide) (by simp only [eH,List.length_map,jL]; omega) ?_))
   refine cY (ro rfl (dV (Ht rfl) (cJ 1) z6) (rm rfl (eX (eD [0,1,2] rfl (by decide) (fU (i + 1) hd zo (zS rfl) (aU (fun _ _ _ h=>h) (aU (fun _ _ _ h=>h) (aU (dT (by rw [kX,← rQ (f:=(fun i=>tab z.length fun k=>gm s i k))])) aY))))))))
 ·simp only [decide_eq_false_iff_not] at hd
  obtain rfl:i = z.length:=Nat.le_antisymm hi zo
  refine gV rfl (ts (rm rfl (ra rfl (eX ?_))))
  exact lP B10 trivial [0,2] ⟨⟨_,rfl,fun _ _ _ h=>h⟩,⟨_,rfl,(dT (by rw [rP]))⟩,trivial⟩ (by decide) (zQ rfl (eU rfl))
theorem Kg {z : List Qi} {s : List (List Qi)} (hsh : iA s z.length z.length) (hl : z.length ≤ 8) : bB Tryz.prog 122 [nU z s] (fN s) := (Pg hsh hl).fun fun B _ v S V h1 h2 => by
 have h3:=lU (s:=5) (M:=tab z.length fun i=>tab z.length fun k=>gm s i k) (bR _ _).symm v S V h1 h2
 rw [← uL hsh] at h3; exact h3
theorem Uy {z:List Qi} {s:List (List Qi)} (hl:z.length ≤ 8):bB Tryz.prog 247 [nU z s] (gE z):=by
 refine bB.intro Tryz.func247 rfl Tryz.ntmps247 rfl (fun cx=>(ts (rn rfl (fG (Ht rfl)) fun B1=>(ro rfl (cQ cV) (eX (ts (ro rfl (eJ A_80 Z_80 (Ht rfl) (i:=0) rfl rfl rfl) (ro rfl (cZ Tryz.call117 uD ⟨(Ht rfl),trivial⟩) (rn rfl (pS (T:=bA Qi.zero) (i:=Tryz.t32) oY mK rfl rfl (Ht rfl) rfl lW (El.ag rfl) (by show 88 * _ ≤ _; omega) zo) fun B7=>(ra rfl (eX (cK (ts (rm rfl (ro rfl (mO U_54 (Ht rfl) (i:=1) rfl (show ((List.replicate z.length (bA Qi.zero)).length:Int) = ((z.length:Nat):Int) by simp)) ?_)))))))))))))))
 refine ro rfl (cX (cJ 0)) (eX (eG ?_))
 refine dP (fun (k : Nat) (out : List Qi) => kR (fun i => gv z i) z.length out k) (fun (k : Nat) (out : List Qi) => z.length - k) (fun (k : Nat) (out : List Qi) => [(1, bT B1 0), (3, Is B7), (9, NT .i64 z.length), (10, NT .i64 k)]) (fun (k : Nat) (out : List Qi) => [box B1 80 [gE z, fN s], bE 32 5 B7 (out.map bA)]) 0 (List.replicate z.length Qi.zero) (kR.start _ _ _)
  (zS rfl) (aU (fun _ _ _ h=>h) (aU (bN (oT bA _ _)) aY)) (fun k out hS=>?_)
 refine ts (ro rfl (gX (Ht rfl) (Ht rfl)) (eX (cK (dQ (Ht rfl) (fun hk=>?_) (fun hk=>?_)))))
 ·simp only [decide_eq_true_eq] at hk
  have hlen:=hS.len
  refine cU (cK (eG (ts (rm rfl (ra rfl (eX (cY (rm rfl (rm rfl (ro rfl (eJ A_80 Z_80 (Ht rfl) (i:=0) rfl rfl rfl) (rm rfl (ro rfl (dV (Ht rfl) (cJ 1) z6) (ro rfl (cZ Tryz.call124 (Ss (i:=(k:Int) + 1) zo) ⟨(Ht rfl),(Ht rfl),trivial⟩) (rm rfl (ro rfl (dK (Ht rfl) rfl) (ro rfl (dK (Ht rfl) rfl) (ro rfl (eI U_54 Z_32 (Ht rfl) (Ht rfl) rfl (i:=1) rfl (by first | omega | (simp; omega)) rfl) ?_)))))))))))))))))
  refine nV Z_32 (Ht rfl) (Ht rfl) (El.ag rfl) (i:=1) rfl rfl (by first | omega | (simp; omega)) rfl (eX (bF (cY (ro rfl (dV (Ht rfl) (cJ 1) z6) (rm rfl (eX (fU (k + 1,_) (hS.next hk (Mn hk)) (by dsimp only; omega) (zS rfl) (aU (fun _ _ _ h=>h) (aU (bN (mA bA _ _ _)) aY)))))))))
 ·simp only [decide_eq_false_iff_not] at hk
  obtain rfl:k = z.length:=Nat.le_antisymm hS.kle zo
  have hfin:=hS.fin.trans (Bq (l:=z) rfl).symm
  refine gV rfl (gJ (i:=1) (tt:=3) rfl rfl lE (ts (rm rfl (ra rfl (eX (fW rfl (fX (eU rfl) ?_)))))))
  exact (oX (by rw [hfin]))
end
section
open Go Go.RowKit
theorem Gd (a:Addr) (w:World):(Instr.fieldAt 84 (.pointer (some a)) 0).run Tryz.prog w = .ok (.pointer (some (a.add 0))) w:=by
 simp [Instr.fieldAt,Instr.sureAddr,fieldPlace,Sem.run_bind,Result.andThen,U_84,Z_80]
theorem Bt (v : Value) (w : World) : (method (Tryz.prog.types.size + Made.depth) 32 v "Div").run Tryz.prog w = .ok (142, v) w := by kernel_rfl
theorem oN (v : Value) (w : World) : (method (Tryz.prog.types.size + Made.depth) 32 v "Sub").run Tryz.prog w = .ok (32, v) w := by kernel_rfl
end
section
open Go Go.RowKit
theorem Ka {p c:List (List Qi)} {n m L:Nat} (hp:iA p n m) (hc:iA c m m) (hfp:bS p L) (hfc:bS c L) (hL1:1 ≤ L) (hL:L ≤ 1000000000) (hn1:1 ≤ n) (hm1:1 ≤ m) (hn:n ≤ 8) (hm:m ≤ 8):jC Tryz.prog 126 [fN p,fN c] [] (Nat) (fun B=>Is (.slice (some ⟨B,0,none⟩) n n)) (fun B=>[wB B 54 32 5 (eH bA (lS p c))]) (fun _=>True):=by
 have hpl:=hp.1
 have hf1:=Lr (n:=n) (m:=m) hfp hfc hL1 hL1 hm
 have hf2:=Jk (n:=n) (m:=m) hfp hL1
 have hs1:iA (tX p c n m m) n m:=Ls
 have hs2:iA (yJ p n m) m n:=Jl
 refine jC.intro Tryz.func126 rfl Tryz.ntmps126 rfl (fun cx Z=>(ts (ro rfl (cQ cV) (eX (cK (ts (rm rfl (ro rfl (dG U_78 (Ht rfl) aA) (ro rfl (cE (Ht rfl) (cJ 0)) (eX (dQ (Ht rfl) (fun h0=>?_) (fun h0=>?_))))))))))))
 ·simp only [decide_eq_true_eq] at h0
  omega
 ·refine cU (ts (rm rfl (rm rfl (ro rfl (cZ Tryz.call165 (Un hp hc hfp hfc hL1 hL1 zo zo hn1 hm1 hn hm hm) ⟨(Ht rfl), (Ht rfl), trivial⟩) (rm rfl (ro rfl (dK (Ht rfl) rfl) (ro rfl (dK (Ht rfl) rfl) (ra rfl (ra rfl (eX (ts (rm rfl (ro rfl (cZ Tryz.call213 (Xg hp hn1 hn hm) ⟨(Ht rfl), trivial⟩) (rm rfl (ro rfl (dK (Ht rfl) rfl) (ro rfl (dK (Ht rfl) rfl) (ra rfl (ra rfl (eX (ts (rm rfl (rm rfl (tY Tryz.call165 (Fi (a := tX p c n m m) (b := yJ p n m) hs1 hs2 hf1 hf2 zo hL1 zo zo hn1 hm1 hn hm hn) ⟨(Ht rfl), (Ht rfl), trivial⟩ rfl (fun B28 _ => ?_))))))))))))))))))))))))
  refine rm rfl (ro rfl (dK (Ht rfl) rfl) (ro rfl (dK (Ht rfl) rfl) (ra rfl (ra rfl (eX (ts (rm rfl (ra rfl (eX ?_)))))))))
  exact lP B28 trivial [0,1] ⟨⟨_,rfl,fun _ _ _ h=>h⟩,⟨_,rfl,(dT (by rw [Vb hp hc]))⟩,trivial⟩ (by decide) (zQ rfl (eU rfl))
theorem Xm {p c:List (List Qi)} {n m L:Nat} (hp:iA p n m) (hc:iA c m m) (hfp:bS p L) (hfc:bS c L) (hL1:1 ≤ L) (hL:L ≤ 1000000000) (hn1:1 ≤ n) (hm1:1 ≤ m) (hn:n ≤ 8) (hm:m ≤ 8):bB Tryz.prog 126 [fN p,fN c] (fN (lS p c)):=(Ka hp hc hfp hfc hL1 hL hn1 hm1 hn hm).fun fun B _ v S V h1 h2=>lU (s:=5) (M:=lS p c) (by rw [vH.1,hp.1]) v S V h1 h2
theorem Jw {z:List Qi} {s c:List (List Qi)} {g t0:Qi} {L:Nat} (hz:fS z L) (hs:bS s L) (hc:bS c L) (hg:aL g L) (ht:aL t0 L) (hL1:1 ≤ L) (hL:L ≤ 4000) (hsh:iA s z.length z.length) (hch:iA c z.length z.length) (hl:z.length ≤ 8):bB Tryz.prog 44 [mQ z s c,bA g,bA t0] (fT [bA (rI z s c g t0).1,aF .i64 (rI z s c g t0).2]):=by
 haveI:=hg; haveI:=ht
 haveI hz0:aL Qi.zero 1:=aL.zero (Nat.le_refl 1)
 have d1:(dg (((1:Nat):Int)).natAbs).length = 1:=by decide
 have d2:(dg (Int.natAbs 1)).length = 1:=by decide
 have hcl:=hch.1
 refine bB.intro Tryz.func44 rfl Tryz.ntmps44 rfl (fun cx=>(ts (rn rfl (fG (Ht rfl)) fun B3=>(rn rfl (fG (Ht rfl)) fun B4=>(rn rfl (fG (Ht rfl)) fun B5=>(rn rfl (eW (Ts:=[Is (.bool false),Is (.slice none 0 0),Is (.bool false),Is (.slice none 0 0),Is (.slice none 0 0)]) O_32 rfl (fun V=>aW zd (aW zd (aW zd (aW zd (aW zd (aG))))))) fun B6=>(ro rfl (cQ (cJ 0)) (eX (ts (rn rfl (eW (Ts:=[Is (.bool false),Is (.slice none 0 0),Is (.bool false),Is (.slice none 0 0),Is (.slice none 0 0)]) O_32 rfl (fun V=>aW zd (aW zd (aW zd (aW zd (aW zd (aG))))))) fun B8=>?_))))))))))
 refine eX (cK (cK (fZ (m:=6) (dp 5 rfl (eJ A_32 Z_32 (Ht rfl) (i:=2) rfl rfl rfl) (dq 18 0 rfl (cZ K_35 qN ⟨(Ht rfl),trivial⟩) (dq 19 1 rfl (eN (Ht rfl)) (dq 20 2 rfl (cX (Ht rfl)) (C.D_step (Ei:=[(5,_),(21,_)]) rfl rfl (bV (bK rfl rfl) (bV (bG 3 rfl rfl) bW)) (eK rfl rfl (Ht rfl) (fun h=>eJ A_32 Z_32 (Ht rfl) (i:=2) rfl rfl rfl)) (C.D_step (Ei:=[(21,_)]) rfl rfl (bV (bG 3 rfl rfl) bW) (eK rfl rfl (Ht rfl) (fun h=>cZ K_36 (qC (n:=0) (by decide) (by decide)) ⟨(cJ 0),trivial⟩)) ?_)))))))))
 refine fV mixed rfl (by kernel_rfl) (zF (aJ (aJ (aV (fQ rfl rfl (eK rfl rfl (Ht rfl) (fun h=>cZ K_30 (tE (x:=t0) (y:=Qi.zero) (M:=1) zo) ⟨(fJ rfl h),(fJ rfl h),trivial⟩)) (fQ rfl rfl (eK rfl rfl (Ht rfl) (fun h=>nM (fJ rfl h) cV)) (ro rfl (eE (Ht rfl) (fun h=>(fJ rfl h))) (eX (dQ (Ht rfl) (fun hb=>?_) (fun hb=>?_))))))))))
 ·rw [Gs] at hb
  simp only [Bool.not_eq_true'] at hb
  have he:rI z s c g t0 = (Qi.zero,1):=by rw [rI,if_pos hb]
  refine ts (ro rfl (eJ A_32 Z_32 (Ht rfl) (i:=4) rfl rfl rfl) (gQ Z_32 (Ht rfl) (Ht rfl) rfl (i:=3) rfl (aK rfl) rfl rfl (ro rfl (cQ (cJ 1)) (eX (bI rfl (fX (fK A_32 Z_32 rfl (i:=3) rfl rfl) ?_) (fX (eU rfl) ?_))))))
  ·exact (fun v V k=>by rw [he]; exact jV v V k)
  ·exact (fun v V k=>by rw [he]; exact k)
 ·rw [Gs] at hb
  simp only [Bool.not_eq_false'] at hb
  have hb2:¬ fL t0 = false:=by rw [hb]; decide
  refine cU (cK (ts (ro rfl (eZ rH (Ht rfl) rfl) (ro rfl (eY A_78 Z_78 (Ht rfl) (i:=0) rfl rfl) (ro rfl (dG U_78 (Ht rfl) aA) (ro rfl (jY (Ht rfl) (cJ 2)) (eX (dQ (Ht rfl) (fun hd=>?_) (fun hd=>?_)))))))))
  ·have hd2 : z.length ≠ 2 := by rw [← hcl]; simpa using hd
   have he:rI z s c g t0 = (Qi.zero,4):=by rw [rI,if_neg hb2,if_pos hd2]
   refine ts (ro rfl (eJ A_32 Z_32 (Ht rfl) (i:=4) rfl rfl rfl) (gQ Z_32 (Ht rfl) (Ht rfl) rfl (i:=3) rfl (aK rfl) rfl rfl (ro rfl (cQ (cJ 4)) (eX (bI rfl (fX (fK A_32 Z_32 rfl (i:=3) rfl rfl) ?_) (fX (eU rfl) ?_))))))
   ·exact (fun v V k=>by rw [he]; exact jV v V k)
   ·exact (fun v V k=>by rw [he]; exact k)
  ·have hd2 : z.length = 2 := by rw [← hcl]; simpa using hd
   have hd3:¬ z.length ≠ 2:=fun h=>h hd2
   have hsh2:=hsh
   rw [hd2] at hsh hch
   have hs1:=hsh.1
   have hc1:=hch.1
   have hr0:=hsh.row (i:=0) (by decide)
   have hr1:=hsh.row (i:=1) (by decide)
   have hWf:=Be hs hg hL1
   have hW:iA (Kx s g) 1 2:=⟨rfl,fun r hr=>by have:=List.mem_singleton.1 hr; subst this; rfl⟩
   have hXs:iA (lS (Kx s g) c) 1 1:=vH
   have hX0:=hXs.row (i:=0) (by decide)
   have hp1:=Zs (z:=z) zo
   haveI f1:aL (gm s 1 0) L:=hs.get hL1 1 0
   haveI f2:aL (gm s 0 0) L:=hs.get hL1 0 0
   haveI f3:aL (Nw z ((1:Nat):Int)) L:=by rw [hp1]; exact hz.get hL1 0
   haveI f4:=Kz hs hc hg hL1 zo
   have hpd:gm s 1 0 * (gm s 1 0).conj * (t0 * Nw z ((1:Nat):Int)) * (zK - g * g.conj) = Bd z s g t0:=by rw [hp1,Qi.mul_conj_norm,Qi.mul_conj_norm,Bd,Qi.mul_assoc']
   refine cU (ts (ro rfl (eZ Gd (Ht rfl) rfl) (ro rfl (eJ A_80 Z_80 (Ht rfl) (i:=0) rfl rfl rfl) (ro rfl (cZ Tryz.call122 (Kg hsh2 zo) ⟨(Ht rfl),trivial⟩) (ro rfl (cZ K_36 (qC (n:=1) (by decide) (by decide)) ⟨(cJ 1),trivial⟩) (ro rfl (cZ Tryz.call123 Kd ⟨(Ht rfl),trivial⟩) (rn rfl (eW (Ts:=[Is (.bool false),Is (.slice none 0 0),Is (.bool false),Is (.slice none 0 0),Is (.slice none 0 0)]) O_32 rfl (fun V=>aW zd (aW zd (aW zd (aW zd (aW zd (aG))))))) fun B10=>?_)))))))
   refine ra rfl (gQ Z_32 (Ht rfl) (Ht rfl) rfl (i:=5) rfl (aK rfl) rfl rfl (eX (ts (ro rfl (eZ Gd (Ht rfl) rfl) (ro rfl (eJ A_80 Z_80 (Ht rfl) (i:=0) rfl rfl rfl) (ro rfl (cZ Tryz.call124 (Ss (i:=((1:Nat):Int)) zo) ⟨(Ht rfl),(cJ 1),trivial⟩) (rm rfl (ro rfl (dK (Ht rfl) rfl) (ro rfl (dK (Ht rfl) rfl) (rn rfl (eW (Ts:=[Is (.bool false),Is (.slice none 0 0),Is (.bool false),Is (.slice none 0 0),Is (.slice none 0 0)]) O_32 rfl (fun V=>aW zd (aW zd (aW zd (aW zd (aW zd (aG))))))) fun B11=>?_))))))))))
   refine gQ Z_32 (Ht rfl) (Ht rfl) rfl (i:=6) rfl (aK rfl) rfl rfl (ra rfl (eX (cK (lQ (E':=[(3,_),(4,_),(5,_),(6,_),(7,_),(8,_),(9,_),(10,_),(11,_)]) (zS rfl) (fZ (m:=18) (dp 9 rfl (cX (Ht rfl)) (dq 44 0 rfl (dZ U_78 Z_54 (Ht rfl) (cJ 1) rfl (dY (dU (d:=[]) zo))) (dq 45 1 rfl (dJ A_54 Z_54 (Ht rfl)) (dq 46 2 rfl (dZ U_54 Z_32 (Ht rfl) (cJ 0) rfl (dY (dU (d:=Qi.zero) (by rw [hr1]; decide)))) ?_)))))))))
   refine dq 47 3 rfl (dJ A_32 Z_32 (Ht rfl)) (dq 48 4 rfl (eB fD (Ht rfl)) (dp 4 rfl (eJ A_32 Z_32 (Ht rfl) (i:=1) rfl rfl rfl) (cP 49 5 50 6 rfl (cR gM K_29 (lR zo) (Ht rfl) ⟨(Ht rfl),trivial⟩) (dp 10 rfl (eJ A_32 Z_32 (Ht rfl) (i:=5) rfl rfl rfl) (dq 52 8 rfl (eB fD (Ht rfl)) (dp 4 rfl (eJ A_32 Z_32 (Ht rfl) (i:=1) rfl rfl rfl) (dq 54 10 rfl (eB fD (Ht rfl)) (dp 9 rfl (cX (Ht rfl)) (dq 56 12 rfl (dZ U_78 Z_54 (Ht rfl) (cJ 0) rfl (dY (dU (d:=[]) zo))) ?_)))))))))
   refine dq 57 13 rfl (dJ A_54 Z_54 (Ht rfl)) (dq 58 14 rfl (dZ U_54 Z_32 (Ht rfl) (cJ 0) rfl (dY (dU (d:=Qi.zero) (by rw [hr0]; decide)))) ?_)
   refine dq 59 15 rfl (dJ A_32 Z_32 (Ht rfl)) (cP 55 11 60 16 rfl (cR gM K_29 (lR zo) (Ht rfl) ⟨(Ht rfl),trivial⟩) (fV mixed rfl (by kernel_rfl) (zF (zF (zF (zF (aJ (aJ (aV (ro rfl (cR oN Tryz.call32 (Jy zo) (Ht rfl) ⟨(Ht rfl),trivial⟩) (ro rfl (cH (xs:=[.tmp 51,.tmp 62]) U_54 Z_32 O_32 (cW (Ht rfl) (cW (Ht rfl) cG)) rfl rfl rfl) ?_)))))))))))
   refine ro rfl (cH (xs:=[.tmp 63]) U_78 Z_54 Tryz.zeroValue54 (cW (Ht rfl) cG) rfl rfl rfl) (ra rfl (eX (cK (lQ (E':=[(3,_),(4,_),(5,_),(6,_),(7,_),(8,_),(9,_),(10,_),(11,_),(13,_)]) (zS rfl) (cY (rm rfl (ro rfl (eZ rH (Ht rfl) rfl) (ro rfl (eY A_78 Z_78 (Ht rfl) (i:=0) rfl rfl) (ro rfl (cZ Tryz.call126 (Xm (p:=Kx s g) (c:=c) (n:=1) (m:=2) (L:=2 * L + 4) hW hch hWf (hc.le zo) zo zo (by decide) (by decide) (by decide) (by decide)) ⟨(Ht rfl),(Ht rfl),trivial⟩) ?_)))))))))
   refine ro rfl (dZ U_78 Z_54 (Ht rfl) (cJ 0) rfl (dY (dU (d:=[]) (by rw [hXs.1]; decide)))) ?_
   refine ro rfl (dJ A_54 Z_54 (Ht rfl)) (ro rfl (dZ U_54 Z_32 (Ht rfl) (cJ 0) rfl (dY (dU (d:=Qi.zero) (by rw [hX0]; decide)))) ?_)
   refine ro rfl (dJ A_32 Z_32 (Ht rfl)) (rn rfl (eW (Ts:=[Is (.bool false),Is (.slice none 0 0),Is (.bool false),Is (.slice none 0 0),Is (.slice none 0 0)]) O_32 rfl (fun V=>aW zd (aW zd (aW zd (aW zd (aW zd (aG))))))) fun B14=>(gQ Z_32 (Ht rfl) (Ht rfl) rfl (i:=7) rfl (aK rfl) rfl rfl (eX (cK (lQ (E':=[(3,_),(4,_),(5,_),(6,_),(7,_),(8,_),(9,_),(10,_),(11,_),(14,_)]) (zS rfl) ?_)))))
   refine fZ (m:=32) (dp 9 rfl (cX (Ht rfl)) (dq 73 0 rfl (dZ U_78 Z_54 (Ht rfl) (cJ 1) rfl (dY (dU (d:=[]) zo))) (dq 74 1 rfl (dJ A_54 Z_54 (Ht rfl)) (dq 75 2 rfl (dZ U_54 Z_32 (Ht rfl) (cJ 0) rfl (dY (dU (d:=Qi.zero) (by rw [hr1]; decide)))) ?_))))
   refine dq 76 3 rfl (dJ A_32 Z_32 (Ht rfl)) (dq 77 4 rfl (eB fD (Ht rfl)) (dp 9 rfl (cX (Ht rfl)) (dq 79 6 rfl (dZ U_78 Z_54 (Ht rfl) (cJ 1) rfl (dY (dU (d:=[]) zo))) (dq 80 7 rfl (dJ A_54 Z_54 (Ht rfl)) (dq 81 8 rfl (dZ U_54 Z_32 (Ht rfl) (cJ 0) rfl (dY (dU (d:=Qi.zero) (by rw [hr1]; decide)))) ?_)))))
   refine dq 82 9 rfl (dJ A_32 Z_32 (Ht rfl)) (dq 83 10 rfl (eB fD (Ht rfl)) (dq 84 11 rfl (cR nJ Tryz.call317 Dk (Ht rfl) trivial) (cP 78 5 85 12 rfl (cR gM K_29 (lR zo) (Ht rfl) ⟨(Ht rfl),trivial⟩) (dq 86 13 rfl (eB fD (Ht rfl)) (dp 5 rfl (eJ A_32 Z_32 (Ht rfl) (i:=2) rfl rfl rfl) (dp 11 rfl (eJ A_32 Z_32 (Ht rfl) (i:=6) rfl rfl rfl) (cP 88 15 89 16 rfl (cZ K_29 (lR zo) ⟨(Ht rfl),(Ht rfl),trivial⟩) (dq 90 17 rfl (cZ Tryz.call123 Kd ⟨(Ht rfl),trivial⟩) ?_))))))))
   refine cP 87 14 91 18 rfl (cR gM K_29 (lR zo) (Ht rfl) ⟨(Ht rfl),trivial⟩) (dq 92 19 rfl (eB fD (Ht rfl)) (dp 10 rfl (eJ A_32 Z_32 (Ht rfl) (i:=5) rfl rfl rfl) (dq 94 21 rfl (eB fD (Ht rfl)) (dp 4 rfl (eJ A_32 Z_32 (Ht rfl) (i:=1) rfl rfl rfl) (dq 96 23 rfl (eB fD (Ht rfl)) (dp 4 rfl (eJ A_32 Z_32 (Ht rfl) (i:=1) rfl rfl rfl) (dq 98 25 rfl (eB fD (Ht rfl)) (dq 99 26 rfl (cR nJ Tryz.call317 Dk (Ht rfl) trivial) (cP 97 24 100 27 rfl (cR gM K_29 (lR zo) (Ht rfl) ⟨(Ht rfl),trivial⟩) ?_)))))))))
   refine cP 95 22 101 28 rfl (cR oN Tryz.call32 (Jy zo) (Ht rfl) ⟨(Ht rfl),trivial⟩) (cP 93 20 102 29 rfl (cR gM K_29 (lR zo) (Ht rfl) ⟨(Ht rfl),trivial⟩) (C.D_new (Ei:=[]) rfl rfl rfl bW (eW (Ts:=[Is (.bool false),Is (.slice none 0 0),Is (.bool false),Is (.slice none 0 0),Is (.slice none 0 0)]) O_32 rfl (fun V=>aW zd (aW zd (aW zd (aW zd (aW zd (aG))))))) (fV mixed rfl (by kernel_rfl) (zF (zF (zF (zF (zF (zF (zF (aJ (aJ (aJ (C.F_new (fun B15=>aV ?_)))))))))))))))
   refine gQ Z_32 (Ht rfl) (Ht rfl) rfl (i:=8) rfl (aK rfl) rfl rfl (eX (cK (lQ (E':=[(6,_),(7,_),(8,_),(10,_),(14,_),(15,_)]) (zS rfl) (cY (ro rfl (eJ A_32 Z_32 (Ht rfl) (i:=7) rfl rfl rfl) (ro rfl (eB fD (Ht rfl)) (ro rfl (eJ A_32 Z_32 (Ht rfl) (i:=8) rfl rfl rfl) (ro rfl (cR Bt Tryz.call142 (Sr (x:=Ky s c g) (y:=gm s 1 0 * (gm s 1 0).conj * (t0 * Nw z ((1:Nat):Int)) * (zK - g * g.conj)) zo) (Ht rfl) ⟨(Ht rfl),trivial⟩) ?_))))))))
   refine rm rfl (ro rfl (dK (Ht rfl) rfl) (ro rfl (dK (Ht rfl) rfl) (rn rfl (eW (Ts:=[Is (.bool false),Is (.slice none 0 0),Is (.bool false),Is (.slice none 0 0),Is (.slice none 0 0)]) O_32 rfl (fun V=>aW zd (aW zd (aW zd (aW zd (aW zd (aG))))))) fun B16=>(gQ Z_32 (Ht rfl) (Ht rfl) rfl (i:=9) rfl (aK rfl) rfl rfl (ra rfl (eX (cK (cK (lQ (E':=[(6,_),(7,_),(8,_),(10,_),(16,_),(17,_)]) (zS rfl) ?_)))))))))
   refine cY (rm rfl (ro rfl (jH (Ht rfl) cV) (eX (dQ (Ht rfl) (fun hk=>?_) (fun hk=>?_)))))
   ·rw [hpd] at hk
    have hk2 : Bd z s g t0 = Qi.zero := by
     by_cases h:Bd z s g t0 = Qi.zero
     ·exact h
     ·rw [if_neg h] at hk; exact absurd hk (by decide)
    have he:rI z s c g t0 = (Qi.zero,3):=by rw [rI,if_neg hb2,if_neg hd3,if_pos hk2]
    refine ts (ro rfl (eJ A_32 Z_32 (Ht rfl) (i:=4) rfl rfl rfl) (gQ Z_32 (Ht rfl) (Ht rfl) rfl (i:=3) rfl (aK rfl) rfl rfl (ro rfl (cQ (cJ 3)) (eX (bI rfl (fX (fK A_32 Z_32 rfl (i:=3) rfl rfl) ?_) (fX (eU rfl) ?_))))))
    ·exact (fun v V k=>by rw [he]; exact jV v V k)
    ·exact (fun v V k=>by rw [he]; exact k)
   ·have hk2 : ¬ Bd z s g t0 = Qi.zero := fun h => by rw [hpd, if_pos h] at hk; exact absurd hk (by decide)
    have he:rI z s c g t0 = (zK + Ky s c g / Bd z s g t0,0):=by rw [rI,if_neg hb2,if_neg hd3,if_neg hk2]
    have hv:zK + Ky s c g / (gm s 1 0 * (gm s 1 0).conj * (t0 * Nw z ((1:Nat):Int)) * (zK - g * g.conj)) = (rI z s c g t0).1:=by rw [he,hpd]
    refine cU (ts (ro rfl (eJ A_32 Z_32 (Ht rfl) (i:=5) rfl rfl rfl) (ro rfl (eB fD (Ht rfl)) (ro rfl (eJ A_32 Z_32 (Ht rfl) (i:=9) rfl rfl rfl) (ro rfl (cR tH Tryz.call33 (Fh zo) (Ht rfl) ⟨(Ht rfl),trivial⟩) (gQ Z_32 (Ht rfl) (Ht rfl) rfl (i:=3) rfl (aK rfl) rfl rfl (ro rfl (cQ (cJ 0)) (eX (bI rfl (fX (fK A_32 Z_32 rfl (i:=3) rfl rfl) ?_) (fX (eU rfl) ?_))))))))))
    ·exact (jF hv)
    ·exact (fun v V k=>by rw [he]; exact k)
end
section
open Go Go.RowKit
theorem Oo {n:Nat} (h:n < 4294967296):bB Tryz.prog 289 [NT .u64 1,NT .u64 n] (fT [NT .u64 0,NT .u64 n]):=by
 refine bB.intro Tryz.func289 rfl Tryz.ntmps289 rfl (fun cx=>(ts (ro rfl (cQ (cJ 0)) (ro rfl (cQ (cJ 0)) (eX (ts (rm rfl (ro rfl (aM.nat (pT rfl (Ht rfl) (cJ 4294967295) z7 z7) (show (1:Nat) &&& 4294967295 = 1 by decide)) (ra rfl (eX (ts (rm rfl (ro rfl (aM.nat (cI (Ht rfl) (cJ 32) (by decide)) (show (1:Nat) / 2 ^ 32 = 0 by decide)) (ra rfl (eX (ts (rm rfl (ro rfl (aM.nat (pT rfl (Ht rfl) (cJ 4294967295) z7 z7) (show n &&& 4294967295 = n from (Nat.and_two_pow_sub_one_eq_mod n 32).trans (Nat.mod_eq_of_lt h))) ?_))))))))))))))))))
 refine ra rfl (eX (ts (rm rfl (ro rfl (aM.nat (cI (Ht rfl) (cJ 32) (by decide)) (show n / 2 ^ 32 = 0 from Nat.div_eq_of_lt h)) (ra rfl (eX (ts (rm rfl (rm rfl (ro rfl (aM.nat (jA (Ht rfl) (Ht rfl) z7) (Nat.one_mul n)) (ra rfl (eX (ts (rm rfl (rm rfl (ro rfl (aM.nat (jA (Ht rfl) (Ht rfl) z7) (Nat.zero_mul n)) (rm rfl (ro rfl (aM.nat (cI (Ht rfl) (cJ 32) (by decide)) (show n / 2 ^ 32 = 0 from Nat.div_eq_of_lt h)) ?_))))))))))))))))))
 refine ro rfl (dV (Ht rfl) (Ht rfl) z7) (ra rfl (eX (ts (rm rfl (ro rfl (aM.nat (pT rfl (Ht rfl) (cJ 4294967295) z7 z7) (show (0 + 0:Nat) &&& 4294967295 = 0 by decide)) (ra rfl (eX (ts (rm rfl (ro rfl (aM.nat (cI (Ht rfl) (cJ 32) (by decide)) (show (0 + 0:Nat) / 2 ^ 32 = 0 by decide)) (ra rfl (eX (ts (rm rfl (rm rfl (rm rfl ?_))))))))))))))))
 refine ro rfl (aM.nat (jA (Ht rfl) (Ht rfl) z7) (show (1 * 0:Nat) = 0 by decide)) (ro rfl (dV (Ht rfl) (Ht rfl) z7) (ra rfl (eX (ts (rm rfl (rm rfl (ro rfl (aM.nat (jA (Ht rfl) (Ht rfl) z7) (show (0 * 0:Nat) = 0 by decide)) (rm rfl (ro rfl (dV (Ht rfl) (Ht rfl) z7) ?_)))))))))
 refine rm rfl (ro rfl (aM.nat (cI (Ht rfl) (cJ 32) (by decide)) (show (0 + 0:Nat) / 2 ^ 32 = 0 by decide)) (ro rfl (dV (Ht rfl) (Ht rfl) z7) (ra rfl (eX (ts (rm rfl (rm rfl (ro rfl (aM.nat (jA (Ht rfl) (Ht rfl) z7) (Nat.one_mul n)) (ra rfl (eX (bI rfl (fX (eU rfl) ?_) (eU rfl))))))))))))
 exact (kT (by decide))
theorem Up {n:Nat} (h:n < 4294967296):bB Tryz.prog 259 [NT .u64 1,NT .u64 n] (fT [NT .u64 0,NT .u64 n]):=by
 refine bB.intro Tryz.func259 rfl Tryz.ntmps259 rfl (fun cx=>(ts (ro rfl (cQ (cJ 0)) (ro rfl (cQ (cJ 0)) (eX (cK (dQ cV (fun hf=>?_) (fun hf=>?_))))))))
 ·exact absurd hf (by decide)
 ·refine cU (ts (rm rfl (rm rfl (ro rfl (cZ Tryz.call289 (Oo h) ⟨(Ht rfl), (Ht rfl), trivial⟩) (rm rfl (ro rfl (dK (Ht rfl) rfl) (ro rfl (dK (Ht rfl) rfl) (ra rfl (ra rfl (eX (ts (rm rfl (rm rfl (ra rfl (ra rfl (eX ?_))))))))))))))))
  exact bI rfl (eU rfl) (eU rfl)
theorem Uo {m:Nat} (h1:1 ≤ m) (hm:m ≤ 1000):jC Tryz.prog 212 [gE [Qi.zero],NT .i64 m] [] ({v:Value // kF v}) (fun v=>Is v.1) (fun v=>[bE 32 5 v.1 ((tab m fun _=>Qi.zero).map bA)]) (fun _=>True):=by
 refine jC.intro Tryz.func212 rfl Tryz.ntmps212 rfl (fun cx Z=>(ts (ro rfl (cQ cV) (eX (cK (ts (rm rfl (ro rfl (gX (Ht rfl) (cJ 0)) (eX (dQ (Ht rfl) (fun h0=>?_) (fun h0=>?_)))))))))))
 ·simp only [decide_eq_true_eq] at h0
  omega
 ·refine cU (ts (rm rfl (ro rfl (dG U_54 (Ht rfl) (show (([Qi.zero].map bA).length : Int) = ((1 : Nat) : Int) from rfl)) (ro rfl (gZ U_3 U_275 (Ht rfl) z7) (rm rfl (ro rfl (gZ U_3 U_275 (Ht rfl) z7) (ro rfl (cZ Tryz.call259 (Up zo) ⟨(Ht rfl), (Ht rfl), trivial⟩) (rm rfl (ro rfl (dK (Ht rfl) rfl) (ro rfl (dK (Ht rfl) rfl) ?_))))))))))
  refine ra rfl (ra rfl (eX (cK (ts (rm rfl (ro rfl (dM (Ht rfl) (cJ 0)) (rm rfl (fQ rfl rfl (eK rfl rfl (Ht rfl) (fun h=>cX (Ht rfl))) (fQ rfl rfl (eK rfl rfl (Ht rfl) (fun h=>dM (fJ rfl h) (cJ 9223372036854775807))) (ro rfl (eE (Ht rfl) (fun h=>(fJ rfl h))) (eX (dQ (Ht rfl) (fun h2=>?_) (fun h2=>?_)))))))))))))
  ·simp only [Bool.or_eq_true, decide_eq_true_eq] at h2
   omega
  ·refine cU (ts (rm rfl (ro rfl (gZ U_275 U_3 (Ht rfl) z6) (Nz (T := bA Qi.zero) (i := Tryz.t32) oY mK rfl rfl (Ht rfl) rfl lW (El.ag rfl) (by show 88 * _ ≤ _; omega) zo rfl (fun B30 hB30 => (ra rfl (eX (ts (rm rfl (rm rfl (ro rfl (Md (q := 1) (T := bA Qi.zero) U_54 Z_32 (i := 1) rfl (Ht rfl) (Ht rfl) (by decide) (El.ag rfl) zo) (ra rfl (eX (cK (eG ?_)))))))))))))))
   refine eP (fun (k : Nat) => 1 ≤ k ∧ k ≤ m) (fun (k : Nat) => m - k) (fun (k : Nat) => [(7, Is B30), (8, NT .i64 k)]) (fun (k : Nat) => [Z, bE 32 5 B30 (List.replicate m (bA Qi.zero))]) (Nat.min 1 m) ⟨by show 1 ≤ min 1 m; omega, by show min 1 m ≤ m; omega⟩
    (zS rfl) (cF.refl _) (fun k ⟨hk1,hk⟩=>?_)
   refine cK (ts (rm rfl (rm rfl (ro rfl (mO U_54 (Ht rfl) (i:=1) rfl (show ((List.replicate m (bA Qi.zero)).length:Int) = ((m:Nat):Int) by simp)) (ro rfl (gX (Ht rfl) (Ht rfl)) (eX (dQ (Ht rfl) (fun hd=>?_) (fun hd=>?_))))))))
   ·simp only [decide_eq_true_eq] at hd
    have hlen:(List.replicate m (bA Qi.zero)).length = m:=by simp
    have h5:Nat.min k ((List.replicate m (bA Qi.zero)).length - k) = min k (m - k):=by rw [hlen]
    refine cU (eG (fZ (m:=8) (dp 8 rfl (cX (Ht rfl)) (dp 7 rfl (cX (Ht rfl)) (dp 8 rfl (cX (Ht rfl)) (cP 39 1 40 2 rfl (Mh U_54 Z_32 (Ht rfl) (Ht rfl) rfl (i:=1) rfl (by rw [hlen]; exact hd)) ?_))))))
    refine dp 7 rfl (cX (Ht rfl)) (dp 8 rfl (cX (Ht rfl)) (cP 42 4 43 5 rfl (Mg U_54 Z_32 (Ht rfl) (Ht rfl) rfl (i:=1) rfl (by rw [hlen]; omega) (by rw [hlen]; omega)) ?_))
    refine cP 41 3 44 6 rfl (Ec (T:=bA Qi.zero) U_54 Z_32 (i:=1) rfl (Ht rfl) (Ht rfl)) (fV mixed rfl (by kernel_rfl) (zF (zF (aV (ro rfl (dV (Ht rfl) (Ht rfl) (by show _ < 9223372036854775808; omega)) (ra rfl (eX (bF (fU (k + Nat.min k ((List.replicate m (bA Qi.zero)).length - k)) ⟨by omega,by omega⟩ zo (zS rfl) (cF.refl _))))))))))
   ·refine gV rfl (ts (rm rfl (ra rfl (eX ?_))))
    exact lP ⟨B30,hB30⟩ trivial [0,1] ⟨⟨_,rfl,fun _ _ _ h=>h⟩,⟨_,rfl,(bN (by rw [nC,oT]))⟩,trivial⟩ (by decide) (zQ rfl (eU rfl))
end
section
open Go Go.RowKit
theorem Dj {n : Nat} {E : bM} {H : Hp} {d : Option Tmp} {t : TypeId} {pos : String} {af : Array Edge} {g : Option (Nat × Bool)} {x0 x1 : Operand} {T0 T1 T2 : Ty} (h0 : aT E x0 (dE [T0, T1])) [s1 : cA T2 1 false] (h1 : aT E x1 T2) :
  aM Tryz.prog n E H ⟨d,.build 84 #[(0,x0),(1,x1)],t,pos,af,g⟩ (dE [T0,T1,T2]) :=
 eM (parts := [(0, x0), (1, x1)]) fun a V w hs => by
  obtain ⟨v0,e0,c0⟩:=h0 n V a hs
  obtain ⟨c0_0,c0_1,rfl⟩:∃ c0_0 c0_1,v0 = [c0_0,c0_1]:=xV (by simpa using c0.length)
  have p1:=h1 n V a hs
  generalize e1:a.eval x1 = v1 at p1
  have q1:=(s1.ok v1 V p1).2.2 rfl
  refine ⟨.agg #[c0_0,c0_1,v1],?_,[c0_0,c0_1,v1],rfl,aW (c0.at (i:=0) rfl rfl) (aW (c0.at (i:=1) rfl rfl) (aW (⟨p1,q1⟩) (aG)))⟩
  simp [e0,e1,Instr.build,Instr.fill,Sem.run_bind,Result.andThen,dI,q1.cells,O_84,U_84,Z_78,Z_80]
end
section
open Go Go.RowKit
theorem Kj {n:Nat} (hn:n ≤ 1000):jC Tryz.prog 125 [NT .i64 n,NT .i64 n] [] (Nat) (fun B=>Is (.slice (some ⟨B,0,none⟩) n n)) (fun B=>[mW kF B 54 32 5 (eH bA (Tm n n))]) (fun _=>True):=by
 refine jC.intro Tryz.func125 rfl Tryz.ntmps125 rfl (fun cx Z=>(ts (ro rfl (cQ cV) (eX (ts (rm rfl (rn rfl (dC (T:=Is (.slice none 0 0)) (i:=Tryz.t54) V_78 pP rfl rfl (Ht rfl) rfl (fun _=>rfl) trivial (by show 24 * _ ≤ _; omega) zo) fun B8=>(ra rfl (eX (cK (ts (rm rfl (ro rfl (iZ U_78 (Ht rfl)) (ro rfl (cX (cJ 0)) (eX (eG (qJ 1 rfl (Bs kF ⟨none,0,rfl⟩ (e:=32) (s:=5)) ?_)))))))))))))))))
 refine eP (fun (k : Nat) => k ≤ n) (fun (k : Nat) => n - k) (fun (k : Nat) => [(1, NT .i64 n), (5, Is (.slice (some ⟨B8, 0, none⟩) n n)), (10, NT .i64 n), (11, NT .i64 k)]) (fun (k : Nat) => [Z, mW kF B8 54 32 5 (eH bA (mX (fun _ => (tab n fun _ => Qi.zero)) [] n k))]) 0 (Nat.zero_le _)
  (zS rfl) (aU (fun _ _ _ h=>h) (aU (dT (by rw [← oP,nC]; exact oS bA n)) aY)) (fun k hk=>?_)
 refine ts (ro rfl (gX (Ht rfl) (Ht rfl)) (eX (cK (dQ (Ht rfl) (fun hd=>?_) (fun hd=>?_)))))
 ·simp only [decide_eq_true_eq] at hd
  refine qZ 1 (k) rfl (oK hd) (fun v hv=>(cU (cK (eG (ts (rm rfl (ra rfl (eX (cY (rm rfl (rm rfl (ro rfl (cZ K_36 (qC (n:=0) (by decide) (by decide)) ⟨(cJ 0),trivial⟩) (ro rfl (cZ Tryz.call123 Kd ⟨(Ht rfl),trivial⟩) (ro rfl (cH (xs:=[.tmp 17]) U_54 Z_32 O_32 (cW (Ht rfl) cG) rfl rfl rfl) (rm rfl (tY Tryz.call212 (Uo (m:=n) zo hn) ⟨(Ht rfl),(Ht rfl),trivial⟩ rfl (fun B20 _=>?_)))))))))))))))))
  have hB20:=B20.2
  refine ro rfl (fY U_78 Z_54 (Ht rfl) (Ht rfl) rfl zo (by rw [Nat.mul_one,Nat.zero_add])) ?_
  refine Ac Z_54 (Ht rfl) (Ht rfl) (by simp only [eH,List.length_map,jL]; omega) (j:=1) (l:=3) rfl rfl rfl ?_
  refine eX (bF (jP 1 3 rfl rfl (by decide) (by simp only [eH,List.length_map,jL]; omega) ?_))
  refine cY (ro rfl (dV (Ht rfl) (cJ 1) z6) (rm rfl (eX (eD [0,1] rfl (by decide) (fU (k + 1) hd zo (zS rfl) (aU (fun _ _ _ h=>h) (aU (dT (by rw [kX,← rQ (f:=fun _=>(tab n fun _=>Qi.zero))])) aY)))))))
 ·simp only [decide_eq_false_iff_not] at hd
  obtain rfl:n = k:=Nat.le_antisymm zo hk
  refine gV rfl (ts (rm rfl (ra rfl (eX ?_))))
  exact lP B8 trivial [0,1] ⟨⟨_,rfl,fun _ _ _ h=>h⟩,⟨_,rfl,(dT (by rw [rP]; rfl))⟩,trivial⟩ (by decide) (zQ rfl (eU rfl))
theorem Kh {z:List Qi} {s:List (List Qi)} {L:Nat} (hz:fS z L) (hs:bS s L) (hL1:1 ≤ L) (hL:L ≤ 10000000) (hsh:iA s z.length z.length) (hl1:1 ≤ z.length) (hl:z.length ≤ 8):jC Tryz.prog 196 [nU z s] [] (Nat) (fun B=>Is (.slice (some ⟨B,0,none⟩) z.length z.length)) (fun B=>[mW kF B 54 32 5 (eH bA (mZ z s))]) (fun _=>True):=by
 have hs1:=hs.le (Nat.le_refl L)
 have hsl:=hsh.1
 have hD:=Az z
 have hDf:=vN hz hL1
 have hXf:=vG hs hDf hL1 (by rw [hD.1]; exact hl)
 have hX:iA (lS s (fP z)) s.length s.length:=vH
 refine jC.intro Tryz.func196 rfl Tryz.ntmps196 rfl (fun cx Z=>(ts (rn rfl (fG (Ht rfl)) fun B1=>(ro rfl (cQ cV) (eX (cK (fZ (m:=3) (dp 1 rfl (eJ A_80 Z_80 (Ht rfl) (i:=1) rfl rfl rfl) (dq 10 0 rfl (cZ Tryz.call117 uD ⟨(Ht rfl),trivial⟩) (dp 1 rfl (eJ A_80 Z_80 (Ht rfl) (i:=1) rfl rfl rfl) (fV mixed rfl (by kernel_rfl) (aJ (aJ (aJ (aV (ro rfl (cZ Tryz.call117 uD ⟨(Ht rfl),trivial⟩) (tY Tryz.call125 (Kj (n:=z.length) zo) ⟨(Ht rfl),(Ht rfl),trivial⟩ rfl (fun B14 _=>?_))))))))))))))))))
 refine ra rfl (eX (cK (ts (ro rfl (eJ A_80 Z_80 (Ht rfl) (i:=1) rfl rfl rfl) (ro rfl (cZ Tryz.call247 (Uy zo) ⟨(Ht rfl),trivial⟩) (ro rfl (dG U_54 (Ht rfl) aA) (ro rfl (cX (cJ 0)) (eX (eG ?_)))))))))
 refine eP (fun (i : Nat) => i ≤ z.length) (fun (i : Nat) => z.length - i) (fun (i : Nat) => [(1, bT B1 0), (3, Is (.slice (some ⟨B14, 0, none⟩) z.length z.length)), (16, gE z), (17, NT .i64 z.length), (18, NT .i64 i)]) (fun (i : Nat) => [Z, box B1 80 [gE z, fN s], mW kF B14 54 32 5 (eH bA (mX (fun i => (tab z.length fun _ => Qi.zero).set i (gv z i)) (tab z.length fun _ => Qi.zero) z.length i))]) 0 (Nat.zero_le _)
  (zS rfl) (aU (fun _ _ _ h=>h) (aU (fun _ _ _ h=>h) (aU (dT (by rw [Tm,oP])) aY))) (fun i hi=>?_)
 refine ts (ro rfl (gX (Ht rfl) (Ht rfl)) (eX (cK (dQ (Ht rfl) (fun hd=>?_) (fun hd=>?_)))))
 ·simp only [decide_eq_true_eq] at hd
  have hzl:=bR z.length fun _=>Qi.zero
  refine qZ 2 (i) rfl (oK hd) (fun v hv=>(cU (cK (eG (ts (rm rfl (ro rfl (dZ U_54 Z_32 (Ht rfl) (Ht rfl) rfl (dY (dU (d:=Qi.zero) hd))) (ro rfl (dJ A_32 Z_32 (Ht rfl)) (rn rfl (eW (Ts:=[Is (.bool false),Is (.slice none 0 0),Is (.bool false),Is (.slice none 0 0),Is (.slice none 0 0)]) O_32 rfl (fun V=>aW zd (aW zd (aW zd (aW zd (aW zd (aG))))))) fun B5=>(ra rfl ?_))))))))))
  refine gQ Z_32 (Ht rfl) (Ht rfl) rfl (i:=4) rfl (aK rfl) rfl rfl (eX (fZ (m:=7) (dp 3 rfl (cX (Ht rfl)) (dp 4 rfl (cX (Ht rfl)) (cP 23 0 24 1 rfl (fY U_78 Z_54 (Ht rfl) (Ht rfl) rfl zo (by rw [Nat.mul_one,Nat.zero_add])) ?_)))))
  refine dq 25 2 rfl (nL A_54 Z_54 (Ht rfl) (j:=2) rfl) (dp 4 rfl (cX (Ht rfl)) (dp 5 rfl (eJ A_32 Z_32 (Ht rfl) (i:=4) rfl rfl rfl) (dq 28 5 rfl (cZ Tryz.call123 Kd ⟨(Ht rfl),trivial⟩) (fV mixed rfl (by kernel_rfl) (zF (aJ (aJ (aJ (aV (ro rfl (eI U_54 Z_32 (Ht rfl) (Ht rfl) rfl (i:=3) rfl (by simp only [List.length_map,bR]; omega) rfl) ?_))))))))))
  refine nV Z_32 (Ht rfl) (Ht rfl) (El.ag rfl) (i:=3) rfl rfl (by simp only [List.length_map,bR]; omega) rfl ?_
  refine eX (bF (jP 2 3 rfl rfl (by decide) (by simp only [eH,List.length_map,jL]; omega) ?_))
  refine cY (ro rfl (dV (Ht rfl) (cJ 1) z6) (rm rfl (eX (eD [0,1,2] rfl (by decide) (fU (i + 1) hd zo (zS rfl) (aU (fun _ _ _ h=>h) (aU (fun _ _ _ h=>h) (aU (dT (by rw [← rQ (f:=(fun i=>(tab z.length fun _=>Qi.zero).set i (gv z i))),← kX,← mA])) aY))))))))
 ·simp only [decide_eq_false_iff_not] at hd
  obtain rfl:i = z.length:=Nat.le_antisymm hi zo
  rw [rP]
  refine gV rfl (ts (ro rfl (eJ A_80 Z_80 (Ht rfl) (i:=1) rfl rfl rfl) (ro rfl (cZ Tryz.call122 (Kg hsh hl) ⟨(Ht rfl),trivial⟩) (rm rfl (Tu Tryz.call126 (Ka (p:=s) (c:=fP z) (n:=z.length) (m:=z.length) (L:=L) hsh hD hs hDf hL1 zo hl1 hl1 hl hl) (j:=2) (tt:=34) rfl rfl (lU (s:=5) (M:=fP z) hD.1.symm) Vp (fun _=>inferInstance) (fun _ B hB=>by simp only [List.mem_singleton] at hB; subst hB; exact Nh) ⟨(Ht rfl),(Ht rfl),trivial⟩ rfl (fun B35 _=>(ra rfl (eX (cK (cK (gJ (i:=3) (tt:=6) rfl rfl (lU (s:=5) (M:=lS s (fP z)) (hX.1.trans hsl).symm) ?_)))))))))))
  refine cY (rm rfl (ro rfl (dG U_78 (Ht rfl) aA) (ro rfl (cX (cJ 0)) (eX (eG (eD [0,2] rfl (by decide) ?_))))))
  refine eP (fun (i : Nat) => i ≤ z.length) (fun (i : Nat) => z.length - i) (fun (i : Nat) => [(3, Is (.slice (some ⟨B14, 0, none⟩) z.length z.length)), (36, fN (lS s (fP z))), (37, NT .i64 z.length), (38, NT .i64 i)]) (fun (i : Nat) => [Z, mW kF B14 54 32 5 (eH bA (oO (fun i => tab z.length fun j => gm (fP z) i j - gm (lS s (fP z)) i j) (fun i => tab z.length fun j => gm (fP z) i j) z.length i))]) 0 (Nat.zero_le _)
   (aQ rfl (aQ rfl (aZ rfl (kT (hX.1.trans hsl)) (zS rfl)))) (aU (fun _ _ _ h=>h) (aU (dT (by rw [← pQ]; exact congrArg _ (uL hD))) aY)) (fun i hi=>?_)
  refine ts (ro rfl (gX (Ht rfl) (Ht rfl)) (eX (cK (dQ (Ht rfl) (fun he=>?_) (fun he=>?_)))))
  ·simp only [decide_eq_true_eq] at he
   have hxr:=hX.row (i:=i) zo
   refine qZ 1 (i) rfl (xR he) (fun v hv=>(cU (cK (eG (ts (rm rfl (ro rfl (dZ U_78 Z_54 (Ht rfl) (Ht rfl) rfl (dY (dU (d:=[]) (by rw [hX.1]; omega)))) ?_)))))))
   refine ro rfl (dJ A_54 Z_54 (Ht rfl)) (ra rfl (ra rfl (eX (ts (rm rfl (ro rfl (dG U_54 (Ht rfl) aA) (ro rfl (cX (cJ 0)) (eX (eG ?_)))))))))
   refine eP (fun (j : Nat) => j ≤ z.length) (fun (j : Nat) => z.length - j) (fun (j : Nat) => [(3, Is (.slice (some ⟨B14, 0, none⟩) z.length z.length)), (7, NT .i64 i), (8, gE ((lS s (fP z)).getD i [])), (36, fN (lS s (fP z))), (37, NT .i64 z.length), (38, NT .i64 i), (44, NT .i64 z.length), (45, NT .i64 j)]) (fun (j : Nat) => [Z, rM kF B14 54 32 5 (eH bA (oO (fun i => tab z.length fun j => gm (fP z) i j - gm (lS s (fP z)) i j) (fun i => tab z.length fun j => gm (fP z) i j) z.length i)) i v, bE 32 5 v ((oO (fun j => gm (fP z) i j - gm (lS s (fP z)) i j) (fun j => gm (fP z) i j) z.length j).map bA)]) 0 (Nat.zero_le _)
    (aQ rfl (aQ rfl (aQ rfl (aQ rfl (aQ rfl (aQ rfl (aZ rfl (kT (hxr.trans hsl)) (zS rfl)))))))) (aU (fun _ _ _ h=>h) (aU (fun _ _ _ h=>h) (aU (bN (by rw [← pQ])) aY))) (fun j hj=>?_)
   refine ts (ro rfl (gX (Ht rfl) (Ht rfl)) (eX (cK (dQ (Ht rfl) (fun hf=>?_) (fun hf=>?_)))))
   ·simp only [decide_eq_true_eq] at hf
    have hrl:=lV (fun j=>gm (fP z) i j - gm (lS s (fP z)) i j) (fun j=>gm (fP z) i j) z.length j
    haveI f1:aL (gm (fP z) i j) L:=hDf.get hL1 i j
    haveI f2:aL (gm (lS s (fP z)) i j) (200 * L + 300):=hXf.get zo i j
    refine cU (cK (eG (ts (rm rfl (ra rfl (eX (fZ (m:=18) (dp 3 rfl (cX (Ht rfl)) (dp 7 rfl (cX (Ht rfl)) (cP 48 0 49 1 rfl (fY U_78 Z_54 (Ht rfl) (Ht rfl) rfl zo (by rw [Nat.mul_one,Nat.zero_add])) ?_))))))))))
    refine dq 50 2 rfl (nL A_54 Z_54 (Ht rfl) (j:=1) rfl) (dp 9 rfl (cX (Ht rfl)) (dp 3 rfl (cX (Ht rfl)) (dp 7 rfl (cX (Ht rfl)) (cP 53 5 54 6 rfl (fY U_78 Z_54 (Ht rfl) (Ht rfl) rfl zo (by rw [Nat.mul_one,Nat.zero_add])) ?_))))
    refine dq 55 7 rfl (nL A_54 Z_54 (Ht rfl) (j:=1) rfl) (dp 9 rfl (cX (Ht rfl)) (cP 56 8 57 9 rfl (eI U_54 Z_32 (Ht rfl) (Ht rfl) rfl (i:=2) rfl (by simp only [List.length_map,hrl]; omega) rfl) ?_))
    refine dq 58 10 rfl (oQ A_32 Z_32 (Ht rfl) (i:=2) rfl rfl (dY (wC hf))) (dq 59 11 rfl (eB fD (Ht rfl)) (dp 8 rfl (cX (Ht rfl)) (dp 9 rfl (cX (Ht rfl)) (cP 61 13 62 14 rfl (dZ U_54 Z_32 (Ht rfl) (Ht rfl) rfl (dY (dU (d:=Qi.zero) (by rw [hxr]; omega)))) ?_))))
    refine dq 63 15 rfl (dJ A_32 Z_32 (Ht rfl)) (cP 60 12 64 16 rfl (cR oN Tryz.call32 (Jy zo) (Ht rfl) ⟨(Ht rfl),trivial⟩) (fV mixed rfl (by kernel_rfl) (zF (zF (zF (zF (aJ (aJ (aV (ro rfl (eI U_54 Z_32 (Ht rfl) (Ht rfl) rfl (i:=2) rfl (by simp only [List.length_map,hrl]; omega) rfl) ?_))))))))))
    refine nV Z_32 (Ht rfl) (Ht rfl) (El.ag rfl) (i:=2) rfl rfl (by simp only [List.length_map,hrl]; omega) rfl ?_
    refine eX (bF (cY (ro rfl (dV (Ht rfl) (cJ 1) z6) (rm rfl (eX (fU (j + 1) hf zo (zS rfl) (aU (fun _ _ _ h=>h) (aU (fun _ _ _ h=>h) (aU (bN (by rw [mA,← rO (f:=fun j=>gm (fP z) i j - gm (lS s (fP z)) i j)])) aY)))))))))
   ·simp only [decide_eq_false_iff_not] at hf
    obtain rfl:j = z.length:=Nat.le_antisymm hj zo
    refine gV rfl (bF (jP 1 2 rfl rfl (by decide) (by simp only [eH,List.length_map,lV]; omega) ?_))
    refine cY (ro rfl (dV (Ht rfl) (cJ 1) z6) (rm rfl (eX (eD [0,1] rfl (by decide) (fU (i + 1) he zo (zS rfl) (aU (fun _ _ _ h=>h) (aU (dT (by rw [kX,rN,← rO (f:=(fun i=>tab z.length fun j=>gm (fP z) i j - gm (lS s (fP z)) i j))])) aY)))))))
  ·simp only [decide_eq_false_iff_not] at he
   obtain rfl:i = z.length:=Nat.le_antisymm hi zo
   refine gV rfl (ts (rm rfl (ra rfl (eX ?_))))
   exact lP B14 trivial [0,1] ⟨⟨_,rfl,fun _ _ _ h=>h⟩,⟨_,rfl,(dT (by rw [rN]; rfl))⟩,trivial⟩ (by decide) (zQ rfl (eU rfl))
theorem Xk {z:List Qi} {s:List (List Qi)} {t:Qi} {L:Nat} (hz:fS z L) (hs:bS s L) (ht:aL t L) (hL1:1 ≤ L) (hL:L ≤ 10000000) (hsh:iA s z.length z.length) (hl1:1 ≤ z.length) (hl:z.length ≤ 8):bB Tryz.prog 100 [nU z s,bA t] (fT [mQ (qW (qU t) z) (qW (qU t) s) (qW (qU t) (Nf t (mZ z s) z.length)),aF .i64 (qU t)]):=by
 haveI:=ht
 have hOs:=Mj z s
 have hOf:=Cb hz hs hL1 hl
 refine bB.intro Tryz.func100 rfl Tryz.ntmps100 rfl (fun cx=>(ts (rn rfl (fG (Ht rfl)) fun B2=>(rn rfl (fG (Ht rfl)) fun B3=>(rn rfl (eW (Ts:=[Is (.slice none 0 0),Is (.slice none 0 0),Is (.slice none 0 0)]) O_84 rfl (fun V=>aW zd (aW zd (aW zd (aG))))) fun B4=>(ro rfl (cQ (cJ 0)) (eX (cK (ts (ro rfl (eJ A_32 Z_32 (Ht rfl) (i:=1) rfl rfl rfl) (ro rfl (cZ Tryz.call79 (Va zo) ⟨(Ht rfl),trivial⟩) (ro rfl (eN (Ht rfl)) ?_))))))))))))
 refine eX (dQ (Ht rfl) (fun hb=>?_) (fun hb=>?_))
 ·have he : qU t ≠ 0 := by simp only [Bool.not_eq_true'] at hb; rw [qU, hb]; decide
  have he1:qU t = 1:=by simp only [Bool.not_eq_true'] at hb; rw [qU,hb]; rfl
  refine ts (ro rfl (aM.imp (Ol ) Ii) (gQ Z_84 (Ht rfl) (Ht rfl) rfl (i:=2) rfl (aK rfl) rfl rfl (ro rfl (cQ (cJ 1)) (eX (bI rfl (fX (fK Tryz.isAgg84 Z_84 rfl (i:=2) rfl rfl) ?_) (fX (eU rfl) ?_))))))
  ·exact (Qy he)
  ·exact (aN he1.symm)
 ·have he : qU t = 0 := by simp only [Bool.not_eq_false'] at hb; rw [qU, hb]; rfl
  refine cU (ts (ro rfl (eJ A_80 Z_80 (Ht rfl) (i:=0) rfl rfl rfl) (tY Tryz.call196 (Kh hz hs hL1 hL hsh hl1 hl) ⟨(Ht rfl),trivial⟩ rfl (fun B15 _=>(ra rfl (eX (cK (ts (rm rfl (ro rfl (iZ U_78 (Ht rfl)) (ro rfl (cX (cJ 0)) (eX (eG ?_)))))))))))))
  refine eP (fun (i : Nat) => i ≤ z.length) (fun (i : Nat) => z.length - i) (fun (i : Nat) => [(2, bT B2 0), (3, bT B3 0), (4, bT B4 0), (6, Is (.slice (some ⟨B15, 0, none⟩) z.length z.length)), (16, Is (.slice (some ⟨B15, 0, none⟩) z.length z.length)), (17, NT .i64 z.length), (18, NT .i64 i)]) (fun (i : Nat) => [box B2 80 [gE z, fN s], box B3 32 [aC (decide (t.a < 0)), aB t.a.natAbs, aC (decide (t.b < 0)), aB t.b.natAbs, aB (du t)], box B4 84 [Is (.slice none 0 0), Is (.slice none 0 0), Is (.slice none 0 0)], mW kF B15 54 32 5 (eH bA (oO (fun i => tab z.length fun j => t * gm (mZ z s) i j) (fun i => tab z.length fun j => gm (mZ z s) i j) z.length i))]) 0 (Nat.zero_le _)
   (zS rfl) (aU (fun _ _ _ h=>h) (aU (fun _ _ _ h=>h) (aU (fun _ _ _ h=>h) (aU (dT (by rw [← pQ]; exact congrArg _ (uL hOs))) aY)))) (fun i hi=>?_)
  refine ts (ro rfl (gX (Ht rfl) (Ht rfl)) (eX (cK (dQ (Ht rfl) (fun he2=>?_) (fun he2=>?_)))))
  ·simp only [decide_eq_true_eq] at he2
   refine qZ 3 (i) rfl (xR he2) (fun v hv=>(cU (cK (eG (ts (ro rfl (fY U_78 Z_54 (Ht rfl) (Ht rfl) rfl zo (by rw [Nat.mul_one,Nat.zero_add])) ?_))))))
   refine ro rfl (nL A_54 Z_54 (Ht rfl) (j:=3) rfl) (ra rfl (eX (ts (rm rfl (ro rfl (mO U_54 (Ht rfl) (i:=4) rfl (show (((tab z.length fun j=>gm (mZ z s) i j).map bA).length:Int) = ((z.length:Nat):Int) by rw [List.length_map,bR])) (ro rfl (cX (cJ 0)) (eX (eG ?_))))))))
   refine eP (fun (j : Nat) => j ≤ z.length) (fun (j : Nat) => z.length - j) (fun (j : Nat) => [(2, bT B2 0), (3, bT B3 0), (4, bT B4 0), (6, Is (.slice (some ⟨B15, 0, none⟩) z.length z.length)), (8, Is v), (16, Is (.slice (some ⟨B15, 0, none⟩) z.length z.length)), (17, NT .i64 z.length), (18, NT .i64 i), (23, NT .i64 z.length), (24, NT .i64 j)]) (fun (j : Nat) => [box B2 80 [gE z, fN s], box B3 32 [aC (decide (t.a < 0)), aB t.a.natAbs, aC (decide (t.b < 0)), aB t.b.natAbs, aB (du t)], box B4 84 [Is (.slice none 0 0), Is (.slice none 0 0), Is (.slice none 0 0)], rM kF B15 54 32 5 (eH bA (oO (fun i => tab z.length fun j => t * gm (mZ z s) i j) (fun i => tab z.length fun j => gm (mZ z s) i j) z.length i)) i v, bE 32 5 v ((oO (fun j => t * gm (mZ z s) i j) (fun j => gm (mZ z s) i j) z.length j).map bA)]) 0 (Nat.zero_le _)
    (zS rfl) (aU (fun _ _ _ h=>h) (aU (fun _ _ _ h=>h) (aU (fun _ _ _ h=>h) (aU (fun _ _ _ h=>h) (aU (bN (by rw [← pQ])) aY))))) (fun j hj=>?_)
   refine ts (ro rfl (gX (Ht rfl) (Ht rfl)) (eX (cK (dQ (Ht rfl) (fun hf=>?_) (fun hf=>?_)))))
   ·simp only [decide_eq_true_eq] at hf
    have hrl:=lV (fun j=>t * gm (mZ z s) i j) (fun j=>gm (mZ z s) i j) z.length j
    haveI f1:aL (gm (mZ z s) i j) (201 * L + 301):=hOf.get zo i j
    refine cU (cK (eG (ts (rm rfl (ra rfl (eX (fZ (m:=10) (dp 8 rfl (cX (Ht rfl)) (dp 9 rfl (cX (Ht rfl)) (dp 3 rfl (eJ A_32 Z_32 (Ht rfl) (i:=1) rfl rfl rfl) (dq 29 2 rfl (cZ Tryz.call123 Kd ⟨(Ht rfl),trivial⟩) (dq 30 3 rfl (eB fD (Ht rfl)) (dp 8 rfl (cX (Ht rfl)) (dp 9 rfl (cX (Ht rfl)) (cP 32 5 33 6 rfl (eI U_54 Z_32 (Ht rfl) (Ht rfl) rfl (i:=4) rfl (by simp only [List.length_map,hrl]; omega) rfl) ?_)))))))))))))))
    refine dq 34 7 rfl (oQ A_32 Z_32 (Ht rfl) (i:=4) rfl rfl (dY (wC hf))) (cP 31 4 35 8 rfl (cR gM K_29 (lR zo) (Ht rfl) ⟨(Ht rfl),trivial⟩) (fV mixed rfl (by kernel_rfl) (zF (zF (aJ (aJ (aV (ro rfl (eI U_54 Z_32 (Ht rfl) (Ht rfl) rfl (i:=4) rfl (by simp only [List.length_map,hrl]; omega) rfl) ?_))))))))
    refine nV Z_32 (Ht rfl) (Ht rfl) (El.ag rfl) (i:=4) rfl rfl (by simp only [List.length_map,hrl]; omega) rfl ?_
    refine eX (bF (cY (ro rfl (dV (Ht rfl) (cJ 1) z6) (rm rfl (eX (fU (j + 1) hf zo (zS rfl) (aU (fun _ _ _ h=>h) (aU (fun _ _ _ h=>h) (aU (fun _ _ _ h=>h) (aU (fun _ _ _ h=>h) (aU (bN (by rw [mA,← rO (f:=fun j=>t * gm (mZ z s) i j)])) aY)))))))))))
   ·simp only [decide_eq_false_iff_not] at hf
    obtain rfl:j = z.length:=Nat.le_antisymm hj zo
    refine gV rfl (bF (jP 3 4 rfl rfl (by decide) (by simp only [eH,List.length_map,lV]; omega) ?_))
    refine cY (ro rfl (dV (Ht rfl) (cJ 1) z6) (rm rfl (eX (eD [0,1,2,3] rfl (by decide) (fU (i + 1) he2 zo (zS rfl) (aU (fun _ _ _ h=>h) (aU (fun _ _ _ h=>h) (aU (fun _ _ _ h=>h) (aU (dT (by rw [kX,rN,← rO (f:=(fun i=>tab z.length fun j=>t * gm (mZ z s) i j))])) aY)))))))))
  ·simp only [decide_eq_false_iff_not] at he2
   obtain rfl:i = z.length:=Nat.le_antisymm hi zo
   rw [rN]
   refine gV rfl (cK (gJ (i:=3) (tt:=6) rfl rfl (lU (s:=5) (M:=(Nf t (mZ z s) z.length)) Cl.1.symm) (cY (ro rfl (eJ A_80 Z_80 (Ht rfl) (i:=0) rfl rfl rfl) (rm rfl (ro rfl (Dj (Ht rfl) (Ht rfl)) (gQ Z_84 (Ht rfl) (Ht rfl) rfl (i:=2) rfl (aK rfl) rfl rfl (ro rfl (cQ (cJ 0)) (eX (bI rfl (fX (fK Tryz.isAgg84 Z_84 rfl (i:=2) rfl rfl) ?_) (fX (eU rfl) ?_)))))))))))
   ·exact (Mk he)
   ·exact (aN he.symm)
end
section
open Go Go.RowKit
theorem Ff {n : Nat} {E : bM} {H : Hp} {d : Option Tmp} {t : TypeId} {pos : String} {af : Array Edge} {g : Option (Nat × Bool)}  :
  aM Tryz.prog n E H ⟨d,.build 23 #[],t,pos,af,g⟩ (dE [Is (.int .i64 0),Is (.int .i64 0),Is (.int .i64 0)]) :=
 eM (parts := []) fun a V w hs => by
  refine ⟨.agg #[(.int .i64 0),(.int .i64 0),(.int .i64 0)],?_,[(.int .i64 0),(.int .i64 0),(.int .i64 0)],rfl,aW (⟨rfl,trivial⟩) (aW (⟨rfl,trivial⟩) (aW (⟨rfl,trivial⟩) (aG)))⟩
  simp [Instr.build,Instr.fill,Sem.run_bind,Result.andThen,dI,O_23,U_23,Z_2]
theorem Al {n : Nat} {E : bM} {H : Hp} {d : Option Tmp} {t : TypeId} {pos : String} {af : Array Edge} {g : Option (Nat × Bool)} {x0 : Operand} {T0 : Ty} [s0 : cA T0 1 false] (h0 : aT E x0 T0) :
  aM Tryz.prog n E H ⟨d,.build 23 #[(0,x0)],t,pos,af,g⟩ (dE [T0,Is (.int .i64 0),Is (.int .i64 0)]) :=
 eM (parts := [(0, x0)]) fun a V w hs => by
  have p0:=h0 n V a hs
  generalize e0:a.eval x0 = v0 at p0
  have q0:=(s0.ok v0 V p0).2.2 rfl
  refine ⟨.agg #[v0,(.int .i64 0),(.int .i64 0)],?_,[v0,(.int .i64 0),(.int .i64 0)],rfl,aW (⟨p0,q0⟩) (aW (⟨rfl,trivial⟩) (aW (⟨rfl,trivial⟩) (aG)))⟩
  simp [e0,Instr.build,Instr.fill,Sem.run_bind,Result.andThen,dI,q0.cells,O_23,U_23,Z_2]
theorem Dh {n : Nat} {E : bM} {H : Hp} {d : Option Tmp} {t : TypeId} {pos : String} {af : Array Edge} {g : Option (Nat × Bool)} {x0 x2 : Operand} {T0 T2 : Ty} [s0 : cA T0 1 false] (h0 : aT E x0 T0) [s2 : cA T2 1 false] (h2 : aT E x2 T2) :
  aM Tryz.prog n E H ⟨d,.build 23 #[(0,x0),(2,x2)],t,pos,af,g⟩ (dE [T0,Is (.int .i64 0),T2]) :=
 eM (parts := [(0, x0), (2, x2)]) fun a V w hs => by
  have p0:=h0 n V a hs
  generalize e0:a.eval x0 = v0 at p0
  have q0:=(s0.ok v0 V p0).2.2 rfl
  have p2:=h2 n V a hs
  generalize e2:a.eval x2 = v2 at p2
  have q2:=(s2.ok v2 V p2).2.2 rfl
  refine ⟨.agg #[v0,(.int .i64 0),v2],?_,[v0,(.int .i64 0),v2],rfl,aW (⟨p0,q0⟩) (aW (⟨rfl,trivial⟩) (aW (⟨p2,q2⟩) (aG)))⟩
  simp [e0,e2,Instr.build,Instr.fill,Sem.run_bind,Result.andThen,dI,q0.cells,q2.cells,O_23,U_23,Z_2]
end
section
open Go Go.RowKit
theorem Ou  : bB Tryz.prog 22 [] (aC true):=by
 refine bB.intro Tryz.func22 rfl Tryz.ntmps22 rfl (fun cx=>(ts (ro rfl (cQ cV) (eX (ts (ro rfl (Dh cV cV) (rn rfl (eW (Ts:=[Is (.int .i64 0),Is (.int .i64 0),Is (.int .i64 0)]) O_23 rfl (fun V=>aW zd (aW zd (aW zd (aG))))) fun B1=>(gQ Z_23 (Ht rfl) (Ht rfl) rfl (i:=0) rfl (aK rfl) rfl rfl (eX (cK (Y.D_start (m:=18) [] (bY (Ei:=[]) rfl rfl bX rfl rfl (dX rfl (Al cV)) (bY (Ei:=[]) rfl rfl bX rfl rfl (dX rfl (Al cV)) ?_)))))))))))))
 refine bY (Ei:=[(12,_),(13,_)]) rfl rfl (bQ (bZ 0 rfl rfl) (bQ (bZ 1 rfl rfl) bX)) rfl rfl (dX rfl (cH (xs:=[.tmp 12,.tmp 13]) U_77 Z_23 O_23 (cW (Ht rfl) (cW (Ht rfl) cG)) rfl rfl rfl)) (bY (Ei:=[(14,_)]) rfl rfl (bQ (bZ 2 rfl rfl) bX) rfl rfl (dX rfl (cZ Tryz.call50 (xF (l:=[Yo,Yo]) (by decide)) ⟨(Ht rfl),trivial⟩)) (bY (Ei:=[]) rfl rfl bX rfl rfl (dX rfl (Ff )) (bY (Ei:=[(1,_)]) rfl rfl (bQ (bJ rfl rfl) bX) rfl rfl (dX rfl (eJ A_23 Z_23 (Ht rfl) (i:=0) rfl rfl rfl)) ?_)))
 refine bY (Ei:=[(16,_),(17,_)]) rfl rfl (bQ (bZ 4 rfl rfl) (bQ (bZ 5 rfl rfl) bX)) rfl rfl (dX rfl (cH (xs:=[.tmp 16,.tmp 17]) U_77 Z_23 O_23 (cW (Ht rfl) (cW (Ht rfl) cG)) rfl rfl rfl)) (bY (Ei:=[(1,_)]) rfl rfl (bQ (bJ rfl rfl) bX) rfl rfl (dX rfl (eJ A_23 Z_23 (Ht rfl) (i:=0) rfl rfl rfl)) (bY (Ei:=[]) rfl rfl bX rfl rfl (dX rfl (Ff )) (bY (Ei:=[(19,_),(20,_)]) rfl rfl (bQ (bZ 7 rfl rfl) (bQ (bZ 8 rfl rfl) bX)) rfl rfl (dX rfl (cH (xs:=[.tmp 19,.tmp 20]) U_77 Z_23 O_23 (cW (Ht rfl) (cW (Ht rfl) cG)) rfl rfl rfl)) ?_)))
 refine bY (Ei:=[(18,_),(21,_)]) rfl rfl (bQ (bZ 6 rfl rfl) (bQ (bZ 9 rfl rfl) bX)) rfl rfl (dX rfl (cH (xs:=[.tmp 18,.tmp 21]) U_181 Tryz.sizeOf77 Tryz.zeroValue77 (cW (Ht rfl) (cW (Ht rfl) cG)) rfl rfl rfl)) (bY (Ei:=[(22,_)]) rfl rfl (bQ (bZ 10 rfl rfl) bX) rfl rfl (dX rfl (cZ Tryz.call99 (Hw (m:=[[Rb,Hb],[Hb,Rb]]) (by decide) (by intro r hr; simp at hr; rcases hr with rfl | rfl <;> decide)) ⟨(Ht rfl),trivial⟩)) ?_)
 refine bY (Ei:=[(15,_),(23,_)]) rfl rfl (bQ (bZ 3 rfl rfl) (bQ (bZ 11 rfl rfl) bX)) rfl rfl (dX rfl (cZ Tryz.call98 (eQ (Kc (z:=sB) (s:=wR) (L:=2) Fa (by decide) (by decide) (by decide)) Uh) ⟨(Ht rfl),(Ht rfl),trivial⟩)) (bY (Ei:=[(24,_)]) rfl rfl (bQ (bZ 12 rfl rfl) bX) rfl rfl (dX rfl (cX (Ht rfl))) (bY (Ei:=[(11,_)]) rfl rfl (bQ (bZ 13 rfl rfl) bX) rfl rfl (dX rfl (dK (Ht rfl) rfl)) (bY (Ei:=[(11,_)]) rfl rfl (bQ (bZ 13 rfl rfl) bX) rfl rfl (dX rfl (dK (Ht rfl) rfl)) ?_)))
 refine Y.D_newp (Ei:=[]) (fun bb=>box bb 80 [gE sB,fN wR]) 17 rfl rfl rfl bX rfl rfl (by kernel_rfl) (eW (Ts:=[Is (.slice none 0 0),Is (.slice none 0 0)]) O_80 rfl (fun V=>aW zd (aW zd (aG)))) (Y.D_putN (Ei:=[(25,_)]) 16 rfl rfl rfl rfl rfl rfl (bQ (bZ 14 rfl rfl) bX) (fun bb=>uY Z_80 (Ht rfl) (Ht rfl) rfl (i:=0) rfl (aK rfl) rfl rfl) (Y.D_done mixed rfl (by kernel_rfl) rfl (by simp [Y.okP]) rfl rfl (bU (bU (bU (bU (bU (bU (bU (bU (bU (bU (bU (bU (bU (bU (bU (bU (Y.F_newp (fun B2=>Y.F_putN (Y.F_nil ?_)))))))))))))))))))))
 refine ra rfl (eX (cK (Y.D_start (m:=8) [] (bY (Ei:=[(2,_)]) rfl rfl (bQ (bJ rfl rfl) bX) rfl rfl (dX rfl (eJ A_80 Z_80 (Ht rfl) (i:=1) rfl rfl rfl)) (bY (Ei:=[]) rfl rfl bX rfl rfl (dX rfl (cZ K_36 (qC (n:=290) (by decide) (by decide)) ⟨(cJ 290),trivial⟩)) (bY (Ei:=[(28,_),(29,_)]) rfl rfl (bQ (bZ 0 rfl rfl) (bQ (bZ 1 rfl rfl) bX)) rfl rfl (dX rfl (cZ Tryz.call100 (eQ (Xk (z:=sB) (s:=wR) (t:=Qi.ofInt 290) (L:=2) Fa Jo Jp (by decide) (by decide) Jq (by decide) (by decide)) Ui) ⟨(Ht rfl),(Ht rfl),trivial⟩)) ?_))))))
 refine bY (Ei:=[(30,_)]) rfl rfl (bQ (bZ 2 rfl rfl) bX) rfl rfl (dX rfl (cX (Ht rfl))) (bY (Ei:=[(27,_)]) rfl rfl (bQ (bZ 3 rfl rfl) bX) rfl rfl (dX rfl (dK (Ht rfl) rfl)) (bY (Ei:=[(27,_)]) rfl rfl (bQ (bZ 3 rfl rfl) bX) rfl rfl (dX rfl (dK (Ht rfl) rfl)) (Y.D_newp (Ei:=[]) (fun bb=>box bb 84 [gE sB,fN wR,fN xD]) 7 rfl rfl rfl bX rfl rfl (by kernel_rfl) (eW (Ts:=[Is (.slice none 0 0),Is (.slice none 0 0),Is (.slice none 0 0)]) O_84 rfl (fun V=>aW zd (aW zd (aW zd (aG))))) ?_)))
 refine Y.D_putN (Ei:=[(31,_)]) 6 rfl rfl rfl rfl rfl rfl (bQ (bZ 4 rfl rfl) bX) (fun bb=>uY Z_84 (Ht rfl) (Ht rfl) rfl (i:=0) rfl (aK rfl) rfl rfl) (Y.D_done mixed rfl (by kernel_rfl) rfl (by simp [Y.okP]) rfl rfl (bU (bU (bU (bU (bU (bU (Y.F_newp (fun B4=>Y.F_putN (Y.F_nil ?_))))))))))
 refine ra rfl (eX (ts (ro rfl (eJ Tryz.isAgg84 Z_84 (Ht rfl) (i:=2) rfl rfl rfl) (ro rfl (cZ Tryz.call42 (eQ (Oy (z:=sB) (s:=wR) (c:=xD) (i:=((2:Nat):Int)) (j:=((2:Nat):Int)) Uf (by rw [Ez.1]; decide)) Xb) ⟨(Ht rfl),(cJ 2),(cJ 2),trivial⟩) ?_))))
 refine rm rfl (ro rfl (dK (Ht rfl) rfl) (ro rfl (dK (Ht rfl) rfl) (rn rfl (eW (Ts:=[Is (.bool false),Is (.slice none 0 0),Is (.bool false),Is (.slice none 0 0),Is (.slice none 0 0)]) O_32 rfl (fun V=>aW zd (aW zd (aW zd (aW zd (aW zd (aG))))))) fun B6=>(gQ Z_32 (Ht rfl) (Ht rfl) rfl (i:=3) rfl (aK rfl) rfl rfl (ra rfl (eX (cK (Y.D_start (m:=9) [] (bY (Ei:=[(4,_)]) rfl rfl (bQ (bJ rfl rfl) bX) rfl rfl (dX rfl (eJ Tryz.isAgg84 Z_84 (Ht rfl) (i:=2) rfl rfl rfl)) ?_)))))))))
 refine bY (Ei:=[]) rfl rfl bX rfl rfl (dX rfl (cZ K_36 (qC (n:=0) (by decide) (by decide)) ⟨(cJ 0),trivial⟩)) (bY (Ei:=[]) rfl rfl bX rfl rfl (dX rfl (cZ K_36 (qC (n:=290) (by decide) (by decide)) ⟨(cJ 290),trivial⟩)) (bY (Ei:=[(39,_),(40,_),(41,_)]) rfl rfl (bQ (bZ 0 rfl rfl) (bQ (bZ 1 rfl rfl) (bQ (bZ 2 rfl rfl) bX))) rfl rfl (dX rfl (cZ Tryz.call44 (eQ (Jw (z:=sB) (s:=wR) (c:=xD) (g:=Qi.ofInt 0) (t0:=Qi.ofInt 290) (L:=1000) (Fa.le (by decide)) (Jo.le (by decide)) Xd (Xc.le (by decide)) (Jp.le (by decide)) (by decide) (by decide) Jq Ez (by decide)) Ug) ⟨(Ht rfl),(Ht rfl),(Ht rfl),trivial⟩)) ?_))
 refine bY (Ei:=[(42,_)]) rfl rfl (bQ (bZ 3 rfl rfl) bX) rfl rfl (dX rfl (cX (Ht rfl))) (bY (Ei:=[(38,_)]) rfl rfl (bQ (bZ 4 rfl rfl) bX) rfl rfl (dX rfl (dK (Ht rfl) rfl)) (bY (Ei:=[(38,_)]) rfl rfl (bQ (bZ 4 rfl rfl) bX) rfl rfl (dX rfl (dK (Ht rfl) rfl)) (Y.D_newp (Ei:=[]) (fun bb=>box bb 32 [aC (decide ((Qi.ofInt 4).a < 0)),aB (Qi.ofInt 4).a.natAbs,aC (decide ((Qi.ofInt 4).b < 0)),aB (Qi.ofInt 4).b.natAbs,aB (du (Qi.ofInt 4))]) 8 rfl rfl rfl bX rfl rfl (by kernel_rfl) (eW (Ts:=[Is (.bool false),Is (.slice none 0 0),Is (.bool false),Is (.slice none 0 0),Is (.slice none 0 0)]) O_32 rfl (fun V=>aW zd (aW zd (aW zd (aW zd (aW zd (aG))))))) ?_)))
 refine Y.D_putN (Ei:=[(43,_)]) 7 rfl rfl rfl rfl rfl rfl (bQ (bZ 5 rfl rfl) bX) (fun bb=>uY Z_32 (Ht rfl) (Ht rfl) rfl (i:=0) rfl (aK rfl) rfl rfl) (Y.D_done mixed rfl (by kernel_rfl) rfl (by simp [Y.okP]) rfl rfl (bU (bU (bU (bU (bU (bU (bU (Y.F_newp (fun B8=>Y.F_putN (Y.F_nil ?_)))))))))))
 refine ra rfl (eX (ts (rm rfl (ro rfl (lX (Ht rfl) cV) (rm rfl (fQ rfl rfl (eK rfl rfl (Ht rfl) (fun h=>cX (Ht rfl))) (fQ rfl rfl (eK rfl rfl (Ht rfl) (fun h=>lX (fJ rfl h) cV)) (ro rfl (eA (Ht rfl) (fun h=>(fJ rfl h))) (rm rfl (fQ rfl rfl (eK rfl rfl (Ht rfl) (fun h=>cX (Ht rfl))) (fQ rfl rfl (eK rfl rfl (Ht rfl) (fun h=>lX (fJ rfl h) cV)) (ro rfl (eA (Ht rfl) (fun h=>(fJ rfl h))) (rm rfl (fQ rfl rfl (eK rfl rfl (Ht rfl) (fun h=>cX (Ht rfl))) (fQ rfl rfl (eK rfl rfl (Ht rfl) (fun h=>lX (fJ rfl h) cV)) ?_)))))))))))))))
 refine ro rfl (eA (Ht rfl) (fun h=>(fJ rfl h))) (rm rfl (fQ rfl rfl (eK rfl rfl (Ht rfl) (fun h=>eJ A_32 Z_32 (Ht rfl) (i:=3) rfl rfl rfl)) (fQ rfl rfl (eK rfl rfl (Ht rfl) (fun h=>cZ Tryz.call92 (Do (x:=Qi.ofInt 10875) (L:=2) (hx:=(@fitInt 10875).le (by decide)) (by decide)) ⟨(fJ rfl h),trivial⟩)) (fQ rfl rfl (eK rfl rfl (Ht rfl) (fun h=>Ed (fJ rfl h) (aT.cS (l:=[49,48,56,55,53]) rfl))) (ro rfl (eA (Ht rfl) (fun h=>(fJ rfl h))) (rm rfl (fQ rfl rfl (eK rfl rfl (Ht rfl) (fun h=>eJ A_32 Z_32 (Ht rfl) (i:=4) rfl rfl rfl)) ?_)))))))
 refine fQ rfl rfl (eK rfl rfl (Ht rfl) (fun h=>cZ Tryz.call92 (Do (x:=Qi.ofInt 4) (L:=2) (hx:=(@fitInt 4).le (by decide)) (by decide)) ⟨(fJ rfl h),trivial⟩)) (fQ rfl rfl (eK rfl rfl (Ht rfl) (fun h=>Ed (fJ rfl h) (aT.cS (l:=[52]) rfl))) (ro rfl (eA (Ht rfl) (fun h=>(fJ rfl h))) (ra rfl (eX (fW rfl (fX (eU rfl) ?_))))))
 exact (gF (by rw [Xe,Xf]; rfl))
end
section
open Go Go.RowKit
theorem Qi.zero_div (y:Qi):Qi.zero / y = Qi.zero:=by rw [Qi.div_def,Qi.zero_mul']
theorem pos_re {x:Qi} (h:fL x = true):x.im = 0 ∧ x.re ≠ 0:=by
 simp only [fL,decide_eq_true_eq] at h
 exact ⟨Qi.b_zero.1 h.1,fun e=>by have:=Qi.a_zero.2 e; omega⟩
end
section
open Go Go.RowKit
namespace Qi
theorem Ah {x:Qi}:0 ≤ x.a ↔ 0 ≤ x.re:=by
 have hk:0 < x.den / x.re.den:=Nat.div_pos (Nat.le_of_dvd x.den_pos (Nat.dvd_lcm_left _ _)) x.re.den_pos
 rw [← Rat.num_nonneg]
 show 0 ≤ x.re.num * ((x.den / x.re.den:Nat):Int) ↔ _
 generalize x.den / x.re.den = k at hk
 constructor
 ·intro h
  exact Int.nonneg_of_mul_nonneg_left h zo
 ·intro h; exact Int.mul_nonneg h zo
theorem a_neg {x:Qi}:x.a < 0 ↔ x.re < 0:=by
 have:=@Ah x
 constructor
 ·intro h; rcases Rat.not_le.1 (fun k=>by have:=this.2 k; omega) with h; exact h
 ·intro h; exact Int.not_le.1 fun k=>Rat.not_le.2 h (this.1 k)
theorem a_pos {x:Qi}:0 < x.a ↔ 0 < x.re:=by
 have h1:=@Ah x; have h2:=@a_zero x
 constructor
 ·intro h
  have h3:0 ≤ x.re:=h1.1 zo
  have h4:x.re ≠ 0:=fun e=>by have:=h2.2 e; omega
  exact Rat.lt_of_le_of_ne h3 (Ne.symm h4)
 ·intro h
  have h3:0 ≤ x.a:=h1.2 (by grind)
  have h4:x.a ≠ 0:=fun e=>by have:=h2.1 e; grind
  omega
theorem sub_im0 {x y:Qi} (hx:x.b = 0) (hy:y.b = 0):(x - y).im = 0:=by
 show x.im - y.im = 0
 rw [b_zero.1 hx,b_zero.1 hy]; grind
end Qi
theorem Ko {m n:Int} (h1:m < 0 ↔ n < 0) (h2:0 < m ↔ 0 < n):dH m 0 = dH n 0:=by
 unfold dH
 by_cases a:m < 0
 ·rw [if_pos a,if_pos (h1.1 a)]
 ·rw [if_neg a, if_neg (fun k => a (h1.2 k))]
  by_cases b:0 < m
  ·rw [if_pos b,if_pos (h2.1 b)]
  ·rw [if_neg b,if_neg (fun k=>b (h2.2 k))]
theorem Kp (m n:Int):dH m n = dH (m - n) 0:=by
 unfold dH
 by_cases a:m < n
 ·rw [if_pos a,if_pos zo]
 ·rw [if_neg a, if_neg (by omega : ¬ m - n < 0)]
  by_cases b:n < m
  ·rw [if_pos b,if_pos zo]
  ·rw [if_neg b,if_neg zo]
def kZ (x y:Qi):Int:=dH (x - y).a 0
theorem Fr {x y:Qi}:kZ x y < 0 ↔ x.re < y.re:=by
 rw [kZ,Kn,Qi.a_neg]; show x.re - y.re < 0 ↔ _; constructor <;> intro h <;> grind
theorem Po {x y:Qi}:0 < kZ x y ↔ y.re < x.re:=by
 rw [kZ,vJ,Qi.a_pos]; show 0 < x.re - y.re ↔ _; constructor <;> intro h <;> grind
theorem Pn {x y:Qi}:0 ≤ kZ x y ↔ y.re ≤ x.re:=by
 have:=@Fr x y
 constructor
 ·intro h; exact Rat.not_lt.1 fun k=>by have:=this.2 k; omega
 ·intro h; exact Int.not_lt.1 fun k=>Rat.not_lt.2 h (this.1 k)
theorem Pp {x y:Qi}:kZ x y ≤ 0 ↔ x.re ≤ y.re:=by
 have:=@Po x y
 constructor
 ·intro h; exact Rat.not_lt.1 fun k=>by have:=this.2 k; omega
 ·intro h; exact Int.not_lt.1 fun k=>Rat.not_lt.2 h (this.1 k)
theorem pI {x y:Qi} (hx:x.b = 0) (hy:y.b = 0):nR x y = kZ x y:=by
 have e2:dH (x.b * y.den) (y.b * x.den) = 0:=by rw [hx,hy]; simp [dH]
 have h0 : x - y = Qi.mk' (x.a * y.den + -y.a * x.den) (x.b * y.den + -y.b * x.den) (x.den * y.den) := by
  obtain ⟨n1,n2,n3⟩:=Qi.neg_a y
  rw [Qi.sub_def,← Qi.mk_add,n1,n2,n3]
 obtain ⟨k,hk,_,h2,_⟩:=Qi.mk_scale (x.a * y.den + -y.a * x.den) (x.b * y.den + -y.b * x.den) (Nat.mul_pos x.den_pos y.den_pos)
 rw [← h0] at h2
 have e1 : dH (x.a * y.den) (y.a * x.den) = kZ x y := by
  rw [Kp,kZ]
  have e:x.a * y.den - y.a * x.den = (x - y).a * k:=by rw [← h2,Int.neg_mul]; omega
  rw [e]
  refine Ko ?_ ?_
  ·constructor
   ·intro h; exact Int.not_le.1 fun g=>by have:=Int.mul_nonneg g (by omega:(0:Int) ≤ k); omega
   ·intro h; exact Int.mul_neg_of_neg_of_pos h zo
  ·constructor
   ·intro h; exact Int.not_le.1 fun g=>by have:=Int.mul_nonpos_of_nonpos_of_nonneg g (by omega:(0:Int) ≤ k); omega
   ·intro h; exact Int.mul_pos h zo
 unfold nR
 rw [e1,e2]
 by_cases h:kZ x y ≠ 0
 ·rw [if_pos h]
 ·rw [if_neg h]; exact (Decidable.not_not.1 h).symm
def Ch (x y:Qi):Int:=if dH (x - y).a 0 ≠ 0 then dH (x - y).a 0 else dH (x - y).imp.a 0
theorem pW {x y:Qi} (hx:x.b = 0) (hy:y.b = 0):Ch x y = kZ x y:=by
 have e:(x - y).imp.a = 0:=Qi.a_zero.2 (Qi.sub_im0 hx hy)
 unfold Ch kZ
 rw [e]
 by_cases h:dH (x - y).a 0 ≠ 0
 ·rw [if_pos h]
 ·rw [if_neg h,Decidable.not_not.1 h]; rfl
abbrev eF (l:List (Qi × Qi)) (i:Nat):Qi:=(l.getD i (Qi.zero,Qi.zero)).1
abbrev eV (l:List (Qi × Qi)) (i:Nat):Qi:=(l.getD i (Qi.zero,Qi.zero)).2
structure Sm (l:List (Qi × Qi)) (f:Qi):Prop where
 real:∀ i,i < l.length → (eF l i).b = 0 ∧ (eV l i).b = 0
 up:∀ i,0 < i → i < l.length → (eF l (i - 1)).re < (eF l i).re
 fr:f.b = 0
theorem Wa {x:Qi} (h:fL x = true):x.b = 0:=by simp only [fL,decide_eq_true_eq] at h; exact h.1
theorem Sm.mono {l : List (Qi × Qi)} {f : Qi} (h : Sm l f) {i : Nat} : ∀ {j : Nat}, i < j → j < l.length → (eF l i).re < (eF l j).re
 | 0,h1,_=>by omega
 | j + 1, h1, h2 => by
  have h3:=h.up (j + 1) zo h2
  rw [Nat.add_sub_cancel] at h3
  by_cases e:i = j
  ·rw [e]; exact h3
  ·have := h.mono (i := i) (j := j) zo zo
   grind
theorem Qi.sub_ne {x y : Qi} (h : x.re ≠ y.re) : x - y ≠ Qi.zero := fun e => h (by
 have:(x - y).re = 0:=by rw [e]; rfl
 have h2:x.re - y.re = 0:=this
 grind)
def Wu (l:List (Qi × Qi)) (L:Nat):Prop:=∀ e,e ∈ l → aL e.1 L ∧ aL e.2 L
theorem Wu.get {l:List (Qi × Qi)} {L:Nat} (h:Wu l L) (hL:1 ≤ L) (i:Nat):aL (eF l i) L ∧ aL (eV l i) L:=by
 by_cases hi:i < l.length
 ·have e : l.getD i (Qi.zero, Qi.zero) = l[i] := by simp [List.getD, hi]
  show aL (l.getD i _).1 L ∧ aL (l.getD i _).2 L
  rw [e]; exact h _ (List.getElem_mem hi)
 ·have e : l.getD i (Qi.zero, Qi.zero) = (Qi.zero, Qi.zero) := by simp [List.getD, List.getElem?_eq_none (Nat.le_of_not_lt hi)]
  show aL (l.getD i _).1 L ∧ aL (l.getD i _).2 L
  rw [e]; exact ⟨aL.zero hL,aL.zero hL⟩
end
section
open Go Go.RowKit
theorem rA {x:Qi} {L:Nat} [hx:aL x L] (h:L ≤ 8796093022208):bB Tryz.prog 94 [bA x] (aC (fL x)):=by
 refine bB.intro Tryz.func94 rfl Tryz.ntmps94 rfl (fun cx=>(ts (rn rfl (fG (Ht rfl)) fun B1=>(ro rfl (cQ cV) (eX (cK (fZ (m:=5) (dp 1 rfl (eJ A_32 Z_32 (Ht rfl) (i:=0) rfl rfl rfl) (dq 3 0 rfl (cZ K_35 qN ⟨(Ht rfl),trivial⟩) (dq 4 1 rfl (cX (Ht rfl)) (C.D_step (Ei:=[(1,_),(5,_)]) rfl rfl (bV (bK rfl rfl) (bV (bG 2 rfl rfl) bW)) (eK rfl rfl (Ht rfl) (fun h=>eJ A_32 Z_32 (Ht rfl) (i:=0) rfl rfl rfl)) (C.D_step (Ei:=[(5,_)]) rfl rfl (bV (bG 2 rfl rfl) bW) (eK rfl rfl (Ht rfl) (fun h=>cZ K_36 (qC (n:=0) (by decide) (by decide)) ⟨(cJ 0),trivial⟩)) ?_))))))))))))
 refine fV mixed rfl (by kernel_rfl) (zF (aJ (aV (fQ rfl rfl (eK rfl rfl (Ht rfl) (fun h=>cZ K_30 (tE (x:=x) (y:=Qi.ofInt 0) (L:=L) (M:=1) (hy:=(aL.zero (Nat.le_refl 1):aL (Qi.ofInt 0) 1)) zo) ⟨(fJ rfl h),(fJ rfl h),trivial⟩)) (fQ rfl rfl (eK rfl rfl (Ht rfl) (fun h=>kH (fJ rfl h) cV)) (ro rfl (eA (Ht rfl) (fun h=>(fJ rfl h))) (ra rfl (eX (fW rfl (fX (eU rfl) ?_))))))))))
 exact (gF (Ef x))
theorem Pf {x y:Qi} {L M:Nat} [hx:aL x L] [hy:aL y M] (h:L + 3 * M + 2 ≤ 17592186044415):bB Tryz.prog 80 [bA x,bA y] (bA (x / y)):=by
 refine bB.intro Tryz.func80 rfl Tryz.ntmps80 rfl (fun cx=>(ts (rn rfl (fG (Ht rfl)) fun B2=>(rn rfl (fG (Ht rfl)) fun B3=>(rn rfl (eW (Ts:=[Is (.bool false),Is (.slice none 0 0),Is (.bool false),Is (.slice none 0 0),Is (.slice none 0 0)]) O_32 rfl (fun V=>aW zd (aW zd (aW zd (aW zd (aW zd (aG))))))) fun B4=>(eX (ts (ro rfl (eJ A_32 Z_32 (Ht rfl) (i:=0) rfl rfl rfl) (ro rfl (eJ A_32 Z_32 (Ht rfl) (i:=1) rfl rfl rfl) ?_)))))))))
 refine ro rfl (cZ Tryz.call142 (Sr zo) ⟨(Ht rfl),(Ht rfl),trivial⟩) (rm rfl (ro rfl (dK (Ht rfl) rfl) (ro rfl (dK (Ht rfl) rfl) (rn rfl (eW (Ts:=[Is (.bool false),Is (.slice none 0 0),Is (.bool false),Is (.slice none 0 0),Is (.slice none 0 0)]) O_32 rfl (fun V=>aW zd (aW zd (aW zd (aW zd (aW zd (aG))))))) fun B5=>(gQ Z_32 (Ht rfl) (Ht rfl) rfl (i:=3) rfl (aK rfl) rfl rfl (ra rfl (eX ?_)))))))
 refine ts (ro rfl (eJ A_32 Z_32 (Ht rfl) (i:=3) rfl rfl rfl) (gQ Z_32 (Ht rfl) (Ht rfl) rfl (i:=2) rfl (aK rfl) rfl rfl (eX ?_)))
 exact fW rfl (fK A_32 Z_32 rfl (i:=2) rfl rfl)
end
section
open Go Go.RowKit
theorem yT {x y:Qi} {L M:Nat} [hx:aL x L] [hy:aL y M] (h:L + M + 1 ≤ 17592186044415):bB Tryz.prog 85 [QT x,QT y] (aF .i64 (Ch x y)):=by
 refine bB.intro Tryz.func85 rfl Tryz.ntmps85 rfl (fun cx=>(ts (rn rfl (fG (Ht rfl)) fun B2=>(rn rfl (fG (Ht rfl)) fun B3=>(ro rfl (cQ (cJ 0)) (eX (ts (ro rfl (eJ A_40 Z_40 (Ht rfl) (i:=0) rfl rfl rfl) (ro rfl (eJ A_40 Z_40 (Ht rfl) (i:=1) rfl rfl rfl) (ro rfl (cZ Tryz.call88 (Uw zo) ⟨(Ht rfl),(Ht rfl),trivial⟩) (rn rfl (eW (Ts:=[Is (.bool false),Is (.slice none 0 0),Is (.bool false),Is (.slice none 0 0),Is (.slice none 0 0)]) O_40 rfl (fun V=>aW zd (aW zd (aW zd (aW zd (aW zd (aG))))))) fun B5=>?_)))))))))))
 refine gQ Z_40 (Ht rfl) (Ht rfl) rfl (i:=2) rfl (aK rfl) rfl rfl (eX (cK (ts (ro rfl (eJ A_40 Z_40 (Ht rfl) (i:=2) rfl rfl rfl) (ro rfl (cZ Tryz.call90 rD ⟨(Ht rfl),trivial⟩) (ra rfl (eX (ts (rm rfl (ro rfl (jH (Ht rfl) cV) (eX (dQ (Ht rfl) (fun hb=>?_) (fun hb=>?_)))))))))))))
 ·have hb2 : dH (x - y).a 0 ≠ 0 := by simpa using hb
  refine ts (rm rfl (ra rfl (eX (fW rfl (fX (eU rfl) ?_)))))
  exact (aN (by rw [Ch,if_pos hb2]))
 ·have hb2 : ¬ dH (x - y).a 0 ≠ 0 := by simpa using hb
  refine cU (ts (ro rfl (eJ A_40 Z_40 (Ht rfl) (i:=2) rfl rfl rfl) (ro rfl (cZ Tryz.call180 (Sx (L:=L + M + 1) zo) ⟨(Ht rfl),trivial⟩) (ro rfl (cZ Tryz.call90 rD ⟨(Ht rfl),trivial⟩) (ra rfl (eX (fW rfl (fX (eU rfl) ?_))))))))
  exact (aN (by rw [Ch,if_neg hb2]))
end
section
open Go Go.RowKit
@[irreducible] def Zp (a:Nat):Nat:=a % 9223372036854775808
section
variable {P:Program} {R:fA} {cx:Cx} {n:Nat} {k:List It} {E:bM} {H:Hp} {ops:Array Oper} {o:Oper} {rest:List Oper}
section
variable {d:Option Tmp} {t tx ty:TypeId} {pos:String} {af:Array Edge} {g:Option (Nat × Bool)}
theorem Qr {x y : Operand} {kd : IntKind} {a b : Int} {tys : Array TypeId} (hx : aT E x (aF kd a)) (hy : aT E y (aF kd b)) : aM P n E H ⟨d, .call ⟨.builtin .max, #[x, y], tys⟩, t, pos, af, g⟩ (aF kd (max a b)) :=
 dB fun u V w hs => by
  have ex:u.eval x = .int kd a:=hx n V u hs
  have ey:u.eval y = .int kd b:=hy n V u hs
  refine ⟨.int kd (if b > a then b else a),?_,?_⟩
  ·simp [execOp,resolve,ex,ey,invoke,builtin,Builtin.max_,Builtin.max2,Sem.run_bind,Result.andThen]
  ·show Value.int kd _ = Value.int kd _
   congr 1; split <;> omega
end
end
end
section
namespace Fl
open Ieee
@[irreducible] def Zu:Nat:=925
def mg (f:Format) (r:Nat):Nat:=if r < f.binade then r else f.binade + r % f.binade
def up (f:Format) (r:Nat):Nat:=r / f.binade - 1
def nn (f:Format) (r:Nat):Nat:=mg f r * 2 ^ up f r
def rg (f:Format) (x:Nat):Nat:=x % f.signWeight
def ng (f:Format) (x:Nat):Bool:=x / f.signWeight % 2 == 1
def fin (f:Format) (x:Nat):Bool:=decide (rg f x < f.infRung)
def av (f:Format) (x:Nat):Int:=if ng f x then -(nn f (rg f x):Int) else nn f (rg f x)
theorem bs:single.binade ≤ single.infRung:=by decide
theorem vK (a b:Int):(compare a b == .lt) = decide (a < b):=by
 simp only [compare,compareOfLessAndEq]
 by_cases k:a < b
 ·rw [if_pos k]; simp [k]
 ·rw [if_neg k]
  by_cases k2:a = b
  ·rw [if_pos k2]; simp [k]
  ·rw [if_neg k2]; simp [k]
end Fl
end
section
namespace Fl
open Ieee
@[irreducible] def Zv:Nat:=1074
def q32 (p:Nat):Qi:=Qi.mk' (av single p) 0 (2 ^ 149)
theorem Wb (p:Nat):(q32 p).im = 0:=by unfold q32; rw [Qi.mk_im]; push_cast; grind
theorem Eg (p:Nat):(q32 p).re = (av single p:Rat) / ((2 ^ 149:Nat):Rat):=rfl
def pw (p:Nat):Bool:=fin single p && decide (0 < av single p)
theorem Ra {p:Nat}:0 < (q32 p).re ↔ 0 < av single p:=by
 rw [Eg]
 have h : (0 : Rat) < ((2 ^ 149 : Nat) : Rat) := by
  have:((0:Nat):Rat) < ((2 ^ 149:Nat):Rat):=Rat.natCast_lt_natCast.2 (Nat.two_pow_pos _)
  exact this
 rw [Rat.lt_div_iff h,Rat.zero_mul]
 exact ⟨fun k=>Rat.intCast_lt_intCast.1 k,fun k=>Rat.intCast_lt_intCast.2 k⟩
theorem Mr {p q:Nat}:(q32 p).re ≤ (q32 q).re ↔ av single p ≤ av single q:=by
 rw [Eg,Eg]
 have h : (0 : Rat) < ((2 ^ 149 : Nat) : Rat) := by
  have:((0:Nat):Rat) < ((2 ^ 149:Nat):Rat):=Rat.natCast_lt_natCast.2 (Nat.two_pow_pos _)
  exact this
 generalize ((2 ^ 149:Nat):Rat) = D at *
 constructor
 ·intro k
  have e:∀ z:Int,(z:Rat) = (z:Rat) / D * D:=fun z=>by grind
  have:=Rat.mul_le_mul_of_nonneg_right k (Rat.le_of_lt h)
  rw [← e,← e] at this
  exact Rat.intCast_le_intCast.1 this
 ·intro k
  rw [Rat.div_def,Rat.div_def]
  exact Rat.mul_le_mul_of_nonneg_right (Rat.intCast_le_intCast.2 k) (Rat.le_of_lt (Rat.inv_pos.2 h))
end Fl
end
section
namespace Fl
theorem Ms {x y:Qi} (hx:x.im = 0) (hy:y.im = 0):(x / y).re = x.re / y.re ∧ (x / y).im = 0:=by
 have hn:y.nrm = y.re * y.re:=by unfold Qi.nrm; rw [hy]; grind
 have hi:Qi.inv y = ⟨y.re / y.nrm,-y.im / y.nrm⟩:=rfl
 constructor
 ·rw [Qi.div_def, Qi.mul_re, hi, hn, hx, hy]
  by_cases h:y.re = 0
  ·rw [h]; show x.re * (0 / (0 * 0)) - 0 * _ = _; grind
  ·show x.re * (y.re / (y.re * y.re)) - 0 * _ = _; grind
 ·rw [Qi.div_def,Qi.mul_im,hi,hx,hy]; show x.re * (-0 / _) + 0 * _ = _; grind
structure Re (x:Qi):Prop where
 im:x.im = 0
theorem Re.sub {x y:Qi} (h:Re x) (k:Re y):Re (x - y):=⟨by rw [Qi.sub_im,h.im,k.im]; grind⟩
theorem Re.add {x y:Qi} (h:Re x) (k:Re y):Re (x + y):=⟨by rw [Qi.add_im,h.im,k.im]; grind⟩
theorem Re.mul {x y:Qi} (h:Re x) (k:Re y):Re (x * y):=⟨by rw [Qi.mul_im,h.im,k.im]; grind⟩
theorem Re.div {x y:Qi} (h:Re x) (k:Re y):Re (x / y):=⟨(Ms h.im k.im).2⟩
theorem Re.one:Re (Qi.ofInt 1):=⟨rfl⟩
theorem Re.q32 (p:Nat):Re (q32 p):=⟨Wb p⟩
theorem Re.of {x:Qi} (h:x.b = 0):Re x:=⟨Qi.b_zero.1 h⟩
theorem Re.b {x:Qi} (h:Re x):x.b = 0:=Qi.b_zero.2 h.im
theorem Re.rdiv {x y:Qi} (h:Re x) (k:Re y):(x / y).re = x.re / y.re:=(Ms h.im k.im).1
theorem Re.rmul {x y:Qi} (h:Re x):(x * y).re = x.re * y.re:=by rw [Qi.mul_re,h.im]; grind
theorem Re.ext {x y:Qi} (h:Re x) (k:Re y) (e:x.re = y.re):x = y:=Qi.ext' e (by rw [h.im,k.im])
def tP (hot cold a b:Qi):Qi:=(hot - a / b * cold) / (a / b - Qi.ofInt 1)
def tR (hot cold a b:Qi):Qi:=(hot * b - cold * a) / (a - b)
theorem Yk {hot cold a b:Qi} (h:Re hot) (c:Re cold) (x:Re a) (y:Re b):Re (tP hot cold a b):=(h.sub ((x.div y).mul c)).div ((x.div y).sub Re.one)
theorem Yj {hot cold a b:Qi} (h:Re hot) (c:Re cold) (x:Re a) (y:Re b) (h0:b.re ≠ 0) (h1:a.re ≠ b.re):tP hot cold a b = tR hot cold a b:=by
 refine Re.ext (Yk h c x y) (((h.mul y).sub (c.mul x)).div (x.sub y)) ?_
 unfold tP tR
 rw [(h.sub ((x.div y).mul c)).rdiv ((x.div y).sub Re.one),((h.mul y).sub (c.mul x)).rdiv (x.sub y),Qi.sub_re,Qi.sub_re,Qi.sub_re,Qi.sub_re,(x.div y).rmul,x.rdiv y,h.rmul,c.rmul]
 show (hot.re - a.re / b.re * cold.re) / (a.re / b.re - ((1:Int):Rat)) = (hot.re * b.re - cold.re * a.re) / (a.re - b.re)
 generalize hot.re = H
 generalize cold.re = K
 generalize a.re = p at *
 generalize b.re = q at *
 have e:p = p / q * q:=by grind
 generalize p / q = y at *
 subst e
 have hy:y - 1 ≠ 0:=by grind
 have e1:y * q - q = (y - 1) * q:=by grind
 have e2:H * q - K * (y * q) = (H - y * K) * q:=by grind
 rw [e1,e2]
 show (H - y * K) / (y - 1) = _
 grind
theorem pos_re {x:Qi} (h:fL x = true):Re x:=Re.of (Wa h)
theorem Mq {p:Nat} (h:pw p = true):0 < (q32 p).re:=by
 unfold pw at h; simp only [Bool.and_eq_true,decide_eq_true_eq] at h; exact Ra.2 h.2
def Mt (hot cold:Qi) (p q:Nat):Int:=if !wO hot || !wO cold || !pw p || !pw q then 1 else if decide (kZ hot cold ≤ 0) || decide (av Ieee.single p ≤ av Ieee.single q) then 7 else if (tR hot cold (q32 p) (q32 q)).re < 0 then 5 else 0
def Rf (hot cold:Qi) (p q:Nat):Qi × Int:=if Mt hot cold p q = 0 then (tR hot cold (q32 p) (q32 q),0) else (Qi.zero,Mt hot cold p q)
structure xC (hot cold:Qi) (p q:Nat):Prop where
 h:Re hot
 c:Re cold
 pp:pw p = true
 pq:pw q = true
 ord:¬ av Ieee.single p ≤ av Ieee.single q
theorem xC.eq {hot cold : Qi} {p q : Nat} (h : xC hot cold p q) : tP hot cold (q32 p) (q32 q) = tR hot cold (q32 p) (q32 q) :=
 Yj h.h h.c (Re.q32 p) (Re.q32 q) (fun e=>by have:=Mq h.pq; rw [e] at this; exact Rat.lt_irrefl this) (fun e=>h.ord (Mr.1 (by rw [e]; exact Rat.le_refl)))
theorem xC.ne {hot cold:Qi} {p q:Nat} (h:xC hot cold p q):q32 q ≠ Qi.zero ∧ q32 p - q32 q ≠ Qi.zero ∧ q32 p / q32 q - Qi.ofInt 1 ≠ Qi.zero:=by
 have h0:(q32 q).re ≠ 0:=fun e=>by have:=Mq h.pq; rw [e] at this; exact Rat.lt_irrefl this
 have h1:(q32 p).re ≠ (q32 q).re:=fun e=>h.ord (Mr.1 (by rw [e]; exact Rat.le_refl))
 refine ⟨fun e=>h0 (by rw [e]; rfl),Qi.sub_ne h1,Qi.sub_ne ?_⟩
 rw [(Re.q32 p).rdiv (Re.q32 q)]
 show _ ≠ ((1:Int):Rat)
 intro e
 apply h1
 have:(q32 p).re / (q32 q).re = 1:=e
 grind
theorem xC.real {hot cold:Qi} {p q:Nat} (h:xC hot cold p q):Re (tR hot cold (q32 p) (q32 q)):=((h.h.mul (Re.q32 q)).sub (h.c.mul (Re.q32 p))).div ((Re.q32 p).sub (Re.q32 q))
theorem posQ_pos {x:Qi} (h:fL x = true):0 < x.re:=by
 simp only [fL,decide_eq_true_eq] at h; exact Qi.a_pos.1 h.2
end Fl
end
section
open Go Go.RowKit
abbrev iW (M:List (List Qi)) (i:Nat):List Qi:=M.getD i []
def Jb (M : List (List Qi)) (c n : Nat) : Nat → Nat
 | 0=>n
 | k + 1=>if gm M (n - (k + 1)) c = Qi.zero then Jb M c n k else n - (k + 1)
def pv (M:List (List Qi)) (c n:Nat):Nat:=Jb M c n (n - c)
theorem Cg {M : List (List Qi)} {c n : Nat} : ∀ {k : Nat}, k ≤ n → (∀ r, n - k ≤ r → r < Jb M c n k → gm M r c = Qi.zero) ∧ n - k ≤ Jb M c n k ∧ Jb M c n k ≤ n ∧ (Jb M c n k < n → gm M (Jb M c n k) c ≠ Qi.zero)
 | 0,_=>⟨fun r h1 h2=>by simp [Jb] at h2; omega,by simp [Jb],by simp [Jb],fun h=>by simp [Jb] at h⟩
 | k + 1, hk => by
  obtain ⟨i1,i2,i3,i4⟩:=Cg (M:=M) (c:=c) (n:=n) (k:=k) zo
  unfold Jb
  by_cases e:gm M (n - (k + 1)) c = Qi.zero
  ·rw [if_pos e]
   refine ⟨fun r h1 h2=>?_,by omega,i3,i4⟩
   by_cases e2:r = n - (k + 1)
   ·rw [e2]; exact e
   ·exact i1 r zo h2
  ·rw [if_neg e]
   exact ⟨fun r h1 h2=>by omega,Nat.le_refl _,by omega,fun _=>e⟩
theorem rV {M:List (List Qi)} {c n:Nat} (hc:c ≤ n):(∀ r,c ≤ r → r < pv M c n → gm M r c = Qi.zero) ∧ c ≤ pv M c n ∧ pv M c n ≤ n ∧ (pv M c n < n → gm M (pv M c n) c ≠ Qi.zero):=by
 have h:=Cg (M:=M) (c:=c) (n:=n) (k:=n - c) zo
 rw [show n - (n - c) = c by omega] at h
 exact h
def Ck (rr rc:List Qi) (c k:Nat):List Qi:=tab rr.length fun j=>if c < j ∧ j < k then gv rr j - gv rr c / gv rc c * gv rc j else gv rr j
def redM (M:List (List Qi)) (c r:Nat):List (List Qi):=tab M.length fun i=>if c < i ∧ i < r then Ck (iW M i) (iW M c) c (iW M i).length else iW M i
def iJ (M : List (List Qi)) : Nat → List (List Qi) × Nat × Int
 | 0=>(M,0,-1)
 | c + 1 =>
  let s:=iJ M c
  if 0 ≤ s.2.2 then s else
  if pv s.1 c M.length = M.length then (s.1,s.2.1,(c:Int)) else
  (redM (if pv s.1 c M.length = c then s.1 else swp [] s.1 (pv s.1 c M.length) c) c M.length,s.2.1 + (if pv s.1 c M.length = c then 0 else 1),-1)
theorem My (M:List (List Qi)) (c r:Nat):(redM M c r).length = M.length:=bR _ _
theorem Cj {M:List (List Qi)} {n m c r:Nat} (h:iA M n m):iA (redM M c r) n m:=by
 refine ⟨(My _ _ _).trans h.1,fun x hx=>?_⟩
 obtain ⟨i,hi,rfl⟩:=iP.1 hx
 have hr:=h.row (i:=i) (by rw [← h.1]; exact hi)
 show (if c < i ∧ i < r then Ck (iW M i) (iW M c) c (iW M i).length else iW M i).length = m
 split
 ·rw [Ck,bR]; exact hr
 ·exact hr
theorem zW {M:List (List Qi)} {n m p c:Nat} (h:iA M n m) (hp:p < n) (hc:c < n):iA (swp [] M p c) n m:=by
 refine ⟨(zV _ _ _ _).trans h.1,fun x hx=>?_⟩
 unfold swp at hx
 rcases List.mem_or_eq_of_mem_set hx with h1 | h1
 ·rcases List.mem_or_eq_of_mem_set h1 with h2 | h2
  ·exact h.2 x h2
  ·rw [h2]; exact h.row hc
 ·rw [h1]; exact h.row hp
theorem vQ {M : List (List Qi)} {n m : Nat} (h : iA M n m) : ∀ {c : Nat}, c ≤ n → iA (iJ M c).1 n m
 | 0,_=>h
 | c + 1, hc => by
  have ih:=vQ h (c:=c) zo
  obtain ⟨_,_,i3,_⟩:=rV (M:=(iJ M c).1) (c:=c) (n:=M.length) (by rw [h.1]; omega)
  simp only [iJ]
  split
  ·exact ih
  ·split
   ·exact ih
   ·rename_i e
    apply Cj
    split
    ·exact ih
    ·exact zW ih (by rw [← h.1]; omega) zo
def grow (L : Nat) : Nat → Nat
 | 0=>L
 | c + 1=>6 * grow L c + 4
theorem pO (L : Nat) : ∀ {c d : Nat}, c ≤ d → grow L c ≤ grow L d
 | c,0,h=>by rw [show c = 0 by omega]; exact Nat.le_refl _
 | c, d + 1, h => by
  by_cases e:c = d + 1
  ·rw [e]; exact Nat.le_refl _
  ·have := pO L (c := c) (d := d) zo
   simp only [grow]; omega
theorem uH (L c:Nat):L ≤ grow L c:=pO L (Nat.zero_le c)
theorem Fz {rr rc:List Qi} {L c j:Nat} (h1:fS rr L) (h2:fS rc L) (hL:1 ≤ L) (hp:gv rc c ≠ Qi.zero):aL (gv rr j - gv rr c / gv rc c * gv rc j) (6 * L + 4):=by
 haveI f1:=h1.get hL j; haveI f2:=h1.get hL c; haveI f3:=h2.get hL c; haveI f4:=h2.get hL j
 haveI g:aL (gv rr c / gv rc c) (L + 3 * L + 2):=⟨f2.fit.div f3.fit hp⟩
 have:aL (gv rr j - gv rr c / gv rc c * gv rc j) (L + (L + 3 * L + 2 + L + 1) + 1):=inferInstance
 exact this.le zo
theorem Mz {rr rc : List Qi} {L c k : Nat} (h1 : fS rr L) (h2 : fS rc L) (hL : 1 ≤ L) (hp : gv rc c ≠ Qi.zero) : fS (Ck rr rc c k) (6 * L + 4) := fS.tab fun j _ => by
 split
 ·exact Fz h1 h2 hL hp
 ·exact (h1.get hL j).le zo
theorem Ci {M : List (List Qi)} {L c r : Nat} (h : bS M L) (hL : 1 ≤ L) (hp : gm M c c ≠ Qi.zero) : bS (redM M c r) (6 * L + 4) := fun x hx => by
 obtain ⟨i,hi,rfl⟩:=iP.1 hx
 show fS (if c < i ∧ i < r then Ck (iW M i) (iW M c) c (iW M i).length else iW M i) _
 split
 ·exact Mz (h.row i) (h.row c) hL hp
 ·exact (h.row i).le zo
theorem Hj {M : List (List Qi)} {L p c : Nat} (h : bS M L) : bS (swp [] M p c) L := fun x hx => by
 unfold swp at hx
 rcases List.mem_or_eq_of_mem_set hx with h1 | h1
 ·rcases List.mem_or_eq_of_mem_set h1 with h2 | h2
  ·exact h x h2
  ·rw [h2]; exact h.row c
 ·rw [h1]; exact h.row p
theorem zU {M:List (List Qi)} {p c:Nat} (hc:c < M.length):iW (swp [] M p c) c = iW M p:=by
 simp [iW,swp,List.getD,hc]
theorem vP {M : List (List Qi)} {n m L : Nat} (hs : iA M n m) (h : bS M L) (hL : 1 ≤ L) : ∀ {c : Nat}, c ≤ n → bS (iJ M c).1 (grow L c)
 | 0,_=>h
 | c + 1, hc => by
  have ih:=vP hs h hL (c:=c) zo
  have hg:1 ≤ grow L c:=Nat.le_trans hL (uH L c)
  have sh:=vQ hs (c:=c) zo
  obtain ⟨_,i2,i3,i4⟩:=rV (M:=(iJ M c).1) (c:=c) (n:=M.length) (by rw [hs.1]; omega)
  simp only [iJ,grow]
  split
  ·exact ih.le zo
  ·split
   ·exact ih.le zo
   ·rename_i e
    split
    ·rename_i e2
     refine Ci ih hg ?_
     have:=i4 zo
     rw [e2] at this; exact this
    ·refine Ci (Hj ih) hg ?_
     show gv (iW (swp [] _ _ c) c) c ≠ _
     rw [zU (by rw [sh.1]; omega)]
     exact i4 zo
theorem Rh {M:List (List Qi)} {c r i:Nat} (hi:i < M.length) (h:¬ (c < i ∧ i < r)):iW (redM M c r) i = iW M i:=by
 simp only [iW,redM,List.getD]
 rw [fE hi,if_neg h]; rfl
end
section
open Go Go.RowKit
abbrev Xr (M bs:List (List Qi)) (i:Nat):List Qi:=iW M i ++ bs.map fun b=>gv b i
def tG (M bs:List (List Qi)) (n:Nat):List (List Qi):=tab n (Xr M bs)
theorem sI {M bs:List (List Qi)} {n m:Nat} (h:iA M n m):iA (tG M bs n) n (m + bs.length):=by
 refine ⟨bR _ _,fun r hr=>?_⟩
 obtain ⟨i,hi,rfl⟩:=iP.1 hr
 rw [List.length_append,List.length_map,h.row hi]
theorem sH {M bs : List (List Qi)} {n L : Nat} (h : bS M L) (hb : bS bs L) (hL : 1 ≤ L) : bS (tG M bs n) L := fun r hr x hx => by
 obtain ⟨i,hi,rfl⟩:=iP.1 hr
 rcases List.mem_append.1 hx with h1 | h1
 ·exact h.row i x h1
 ·obtain ⟨b, hb1, rfl⟩ := List.mem_map.1 h1
  exact fS.get (hb b hb1) hL i
def En (U : List (List Qi)) (x : List Qi) (n c : Nat) : Nat → Qi
 | 0=>gm U c n
 | k + 1=>En U x n c k - gm U c (c + 1 + k) * gv x (c + 1 + k)
def Yn (U : List (List Qi)) (n : Nat) : Nat → List Qi
 | 0=>tab n fun _=>Qi.zero
 | j + 1=>(Yn U n j).set (n - (j + 1)) (En U (Yn U n j) n (n - (j + 1)) j / gm U (n - (j + 1)) (n - (j + 1)))
def Io (M:List (List Qi)) (b:List Qi) (n:Nat):List (List Qi) × Nat × Int:=iJ (tG M [b] n) n
def Yg (M:List (List Qi)) (b:List Qi) (n:Nat):Int:=if 0 ≤ (Io M b n).2.2 then 6 else 0
def Hm (G : Nat) : Nat → Nat
 | 0=>G
 | j + 1=>j * (Hm G j + G + 2) + 4 * G + 2
theorem wP (G j:Nat):Hm G j ≤ Hm G (j + 1):=by
 cases j with
 | zero=>simp only [Hm]; omega
 | succ j =>
  have:Hm G (j + 1) + G + 2 ≤ (j + 1) * (Hm G (j + 1) + G + 2):=Nat.le_mul_of_pos_left _ zo
  rw [show Hm G (j + 1 + 1) = (j + 1) * (Hm G (j + 1) + G + 2) + 4 * G + 2 from rfl]
  omega
theorem Et (G : Nat) : ∀ j, G ≤ Hm G j
 | 0=>Nat.le_refl _
 | j + 1=>Nat.le_trans (Et G j) (wP G j)
theorem Cy (G : Nat) : ∀ {i j : Nat}, i ≤ j → Hm G i ≤ Hm G j
 | i,0,h=>by rw [show i = 0 by omega]; exact Nat.le_refl _
 | i, j + 1, h => by
  by_cases e:i = j + 1
  ·rw [e]; exact Nat.le_refl _
  ·exact Nat.le_trans (Cy G (show i ≤ j by omega)) (wP G j)
theorem xO {M : List (List Qi)} {n m : Nat} (hs : iA M n m) : ∀ {c : Nat}, c ≤ n → (iJ M c).2.2 < 0 → ∀ i, i < c → gm (iJ M c).1 i i ≠ Qi.zero
 | 0,_,_,i,hi=>by omega
 | c + 1, hc, hst, i, hi => by
  have sh:=vQ hs (c:=c) zo
  obtain ⟨_,i2,i3,i4⟩:=rV (M:=(iJ M c).1) (c:=c) (n:=M.length) (by rw [hs.1]; omega)
  simp only [iJ] at hst ⊢
  split at hst
  ·rename_i h0; omega
  ·rename_i h0
   rw [if_neg h0]
   split at hst
   ·simp at hst; omega
   ·rename_i h1
    rw [if_neg h1]
    have ih:=xO hs (c:=c) zo zo
    have hl : ∀ X : List (List Qi), X.length = n → gm (redM X c M.length) i i = gm X i i := fun X hX => by
     show gv (iW (redM X c M.length) i) i = _
     rw [Rh zo zo]
    by_cases e:pv (iJ M c).1 c M.length = c
    ·rw [if_pos e, hl _ sh.1]
     by_cases e2:i = c
     ·rw [e2]; have:=i4 (by have:=hs.1; omega); rw [e] at this; exact this
     ·exact ih i zo
    ·have hpl : pv (iJ M c).1 c M.length < n := by rw [← hs.1]; omega
     rw [if_neg e,hl _ ((zV _ _ _ _).trans sh.1)]
     by_cases e2:i = c
     ·rw [e2]
      show gv (iW (swp [] _ _ c) c) c ≠ _
      rw [zU (by rw [sh.1]; omega)]
      exact i4 (by have:=hs.1; omega)
     ·have : iW (swp [] (iJ M c).1 (pv (iJ M c).1 c M.length) c) i = iW (iJ M c).1 i := by
       simp only [iW,swp,List.getD]
       rw [List.getElem?_set_ne (Ne.symm e2),List.getElem?_set_ne zo]
      show gv (iW (swp [] _ _ c) i) i ≠ _
      rw [this]; exact ih i zo
theorem Hi {U : List (List Qi)} {x : List Qi} {n c G X : Nat} (hU : bS U G) (hx : fS x X) (hG : 1 ≤ G) (hX : 1 ≤ X) : ∀ k, aL (En U x n c k) (G + k * (G + X + 2))
 | 0=>(hU.get hG c n).le zo
 | k + 1 => by
  haveI f1:=Hi (n:=n) (c:=c) hU hx hG hX k
  haveI f2:=hU.get hG c (c + 1 + k)
  haveI f3:=hx.get hX (c + 1 + k)
  have:aL (En U x n c (k + 1)) (G + k * (G + X + 2) + (G + X + 1) + 1):=by unfold En; infer_instance
  exact this.le (by rw [Nat.add_mul]; omega)
theorem Uk {U:List (List Qi)} {x:List Qi} {n c G X j:Nat} (hU:bS U G) (hx:fS x X) (hG:1 ≤ G) (hX:1 ≤ X) (hz:gm U c c ≠ Qi.zero):aL (En U x n c j / gm U c c) (j * (X + G + 2) + 4 * G + 2):=by
 have f1:=Hi (n:=n) (c:=c) hU hx hG hX j
 have f2:=hU.get hG c c
 have:aL (En U x n c j / gm U c c) (G + j * (G + X + 2) + 3 * G + 2):=⟨f1.fit.div f2.fit hz⟩
 exact this.le (by rw [Nat.add_comm X G]; omega)
theorem Jt {U : List (List Qi)} {n G : Nat} (hU : bS U G) (hG : 1 ≤ G) (hz : ∀ i, i < n → gm U i i ≠ Qi.zero) : ∀ j, j ≤ n → fS (Yn U n j) (Hm G j)
 | 0,_=>fS.tab fun _ _=>aL.zero hG
 | j + 1, hj => fun y hy => by
  have ih:=Jt hU hG hz j zo
  rcases List.mem_or_eq_of_mem_set hy with h1 | h1
  ·exact (ih y h1).le (wP G j)
  ·rw [h1]; exact Uk hU ih hG (Nat.le_trans hG (Et G j)) (hz _ zo)
theorem Ni {M:List (List Qi)} {b:List Qi} {n L:Nat} (h:iA M n n) (hM:bS M L) (hb:fS b L) (hL:1 ≤ L):bS (Io M b n).1 (grow L n):=vP (sI h) (sH hM (fun r hr=>by simp at hr; subst hr; exact hb) hL) hL (Nat.le_refl n)
theorem Rv {M:List (List Qi)} {b:List Qi} {n:Nat} (h:¬ 0 ≤ (Io M b n).2.2):(Io M b n).2.2 < 0:=by omega
end
section
open Go Go.RowKit
namespace Qi
def npow' (x : Qi) : Nat → Qi
 | 0=>Qi.ofInt 1
 | k + 1=>npow' x k * x
theorem one_mul2 (x:Qi):Qi.ofInt 1 * x = x:=ext' (by show ((1:Int):Rat) * x.re - 0 * x.im = x.re; grind) (by show ((1:Int):Rat) * x.im + 0 * x.re = x.im; grind)
theorem mul_one2 (x:Qi):x * Qi.ofInt 1 = x:=by rw [mul_comm',one_mul2]
end Qi
instance qiField:Lean.Grind.CommRing Qi where
 natCast:=⟨fun n=>Qi.ofInt n⟩
 ofNat n:=⟨Qi.ofInt n⟩
 nsmul:=⟨fun n x=>Qi.ofInt n * x⟩
 npow:=⟨Qi.npow'⟩
 add_zero:=Qi.add_zero'
 add_comm:=Qi.add_comm'
 add_assoc:=Qi.add_assoc'
 mul_assoc:=Qi.mul_assoc'
 mul_comm:=Qi.mul_comm'
 mul_one:=Qi.mul_one2
 one_mul:=Qi.one_mul2
 left_distrib:=Qi.mul_add'
 right_distrib:=Qi.add_mul'
 zero_mul:=Qi.zero_mul'
 mul_zero:=Qi.mul_zero'
 pow_zero _:=rfl
 pow_succ _ _:=rfl
 ofNat_succ n:=Qi.ext' (by show (((n + 1:Nat):Int):Rat) = ((n:Int):Rat) + ((1:Int):Rat); rw [Int.natCast_add,Rat.intCast_add]; rfl) (by show (0:Rat) = 0 + 0; grind)
 intCast:=⟨Qi.ofInt⟩
 zsmul:=⟨fun n x=>Qi.ofInt n * x⟩
 neg_add_cancel x:=Qi.ext' (by show -x.re + x.re = ((0:Int):Rat); grind) (by show -x.im + x.im = 0; grind)
 sub_eq_add_neg:=Qi.sub_def
 neg_zsmul i x:=Qi.ext' (by show ((-i:Int):Rat) * x.re - 0 * x.im = -((i:Rat) * x.re - 0 * x.im); rw [Rat.intCast_neg]; grind) (by show ((-i:Int):Rat) * x.im + 0 * x.re = -((i:Rat) * x.im + 0 * x.re); rw [Rat.intCast_neg]; grind)
 intCast_neg i:=Qi.ext' (Rat.intCast_neg i) (by show (0:Rat) = -0; grind)
theorem q0:Qi.zero = 0:=rfl
theorem q1:Qi.ofInt 1 = 1:=rfl
theorem wD {x:Qi} (h:x ≠ 0):x * Qi.inv x = 1:=by
 have hn:x.nrm ≠ 0:=fun e=>h (Qi.nrm_zero.1 e)
 have e:x.re * x.re + x.im * x.im = x.nrm:=rfl
 refine Qi.ext' ?_ ?_
 ·show x.re * (x.re / x.nrm) - x.im * (-x.im / x.nrm) = ((1 : Int) : Rat)
  grind
 ·show x.re * (-x.im / x.nrm) + x.im * (x.re / x.nrm) = 0
  grind
theorem yZ {x y:Qi} (h:y ≠ 0):x / y * y = x:=by
 rw [Qi.div_def]
 have:=wD h
 grind
theorem Vf {x y z:Qi} (h:y ≠ 0) (e:x = z * y):x / y = z:=by
 have h1:=yZ (x:=x) h
 have h2:=wD h
 grind
theorem tI {x y:Qi} (h:x * y = 0):x = 0 ∨ y = 0:=by
 by_cases e:x = 0
 ·exact .inl e
 ·right; have:=wD e; grind
end
section
open Fl
abbrev NP:=List Qi × List (List Qi)
abbrev Zb:NP:=([],[])
abbrev nz (l:List NP) (i:Nat):List Qi:=(l.getD i Zb).1
structure Hu (f:List Qi) (l:List NP):Prop where
 len:f.length = l.length
 n1:f.length ≤ 1024
 pos:∀ i,i < f.length → fL (gv f i) = true
 up:∀ i,0 < i → i < f.length → (gv f (i - 1)).re < (gv f i).re
 zs:∀ i,i < f.length → nz l i = nz l 0
section
variable {f:List Qi} {l:List NP}
theorem Hu.nil:Hu [] []:=⟨rfl,by decide,fun i h=>by simp at h,fun i _ h=>by simp at h,fun i h=>by simp at h⟩
theorem Hu.re (h:Hu f l) {i:Nat} (hi:i < f.length):Re (gv f i):=Fl.pos_re (h.pos i hi)
theorem Hu.lt (h:Hu f l) {i j:Nat} (hij:i < j) (hj:j < f.length):(gv f i).re < (gv f j).re:=by
 induction j with
 | zero=>omega
 | succ j ih =>
  have h1:=h.up (j + 1) zo hj
  rw [Nat.add_sub_cancel] at h1
  rcases Nat.eq_or_lt_of_le (Nat.le_of_lt_succ hij) with e | e
  ·rw [e]; exact h1
  ·have h2 := ih e zo
   grind
end
end
section
open Fl
structure Pd where
 m:Int
 n:Int
 f:Qi
instance : Inhabited Pd:=⟨⟨0,0,Qi.zero⟩⟩
theorem nB {a b c:Rat} (h:a < b) (k:b < c):a < c:=by grind
def sz (n:Int):Int:=max n (-n)
def kz (x:Pd):Int:=sz x.m + sz x.n
def Nu (x y:Pd):Int:=if kZ x.f y.f ≠ 0 then kZ x.f y.f else if dH (kz x) (kz y) ≠ 0 then dH (kz x) (kz y) else dH x.m y.m
def qB (x y:Pd):Bool:=decide (Nu x y < 0)
theorem Fq {x y:Qi}:kZ x y = 0 ↔ x.re = y.re:=by
 have h1:=@Pp x y; have h2:=@Pn x y
 constructor
 ·intro h
  have a:=h1.1 zo; have b:=h2.1 zo
  exact Rat.le_antisymm a b
 ·intro h
  have a:=h1.2 (by rw [h]; exact Rat.le_refl); have b:=h2.2 (by rw [h]; exact Rat.le_refl)
  omega
theorem mT {a b:Int}:dH a b = 0 ↔ a = b:=by
 unfold dH
 split
 ·constructor <;> intro h <;> omega
 ·split
  ·constructor <;> intro h <;> omega
  ·constructor <;> intro h <;> omega
theorem nZ {a b:Int}:dH a b < 0 ↔ a < b:=by
 unfold dH
 split
 ·constructor <;> intro h <;> omega
 ·split
  ·constructor <;> intro h <;> omega
  ·constructor <;> intro h <;> omega
theorem Fb {x y:Pd}:qB x y = true ↔ x.f.re < y.f.re ∨ (x.f.re = y.f.re ∧ (kz x < kz y ∨ (kz x = kz y ∧ x.m < y.m))):=by
 unfold qB Nu
 rw [decide_eq_true_eq]
 by_cases h:kZ x.f y.f = 0
 ·have hr := Fq.1 h
  rw [if_neg (fun k=>k h)]
  by_cases h2:dH (kz x) (kz y) = 0
  ·have hk := mT.1 h2
   rw [if_neg (fun k=>k h2),nZ]
   constructor
   ·intro h3; exact .inr ⟨hr,.inr ⟨hk,h3⟩⟩
   ·rintro (h3 | ⟨_, h3 | ⟨_, h3⟩⟩)
    ·rw [hr] at h3; exact absurd h3 (Rat.lt_irrefl)
    ·omega
    ·exact h3
  ·have hk : ¬ kz x = kz y := fun k => h2 (mT.2 k)
   rw [if_pos h2,nZ]
   constructor
   ·intro h3; exact .inr ⟨hr,.inl h3⟩
   ·rintro (h3 | ⟨_, h3 | ⟨h4, _⟩⟩)
    ·rw [hr] at h3; exact absurd h3 (Rat.lt_irrefl)
    ·exact h3
    ·exact absurd h4 hk
 ·have hr : ¬ x.f.re = y.f.re := fun k => h (Fq.2 k)
  rw [if_pos h,Fr]
  constructor
  ·intro h3; exact .inl h3
  ·rintro (h3 | ⟨h4, _⟩)
   ·exact h3
   ·exact absurd h4 hr
theorem Rc (a b:Rat):a < b ∨ a = b ∨ b < a:=by
 by_cases h:a < b
 ·exact .inl h
 ·by_cases k : b < a
  ·exact .inr (.inr k)
  ·exact .inr (.inl (Rat.le_antisymm (Rat.not_lt.1 k) (Rat.not_lt.1 h)))
theorem yM {x y:Pd}:qB x y = false ↔ y.f.re < x.f.re ∨ (x.f.re = y.f.re ∧ (kz y < kz x ∨ (kz x = kz y ∧ y.m ≤ x.m))):=by
 rw [← Bool.not_eq_true,Fb]
 rcases Rc x.f.re y.f.re with h | h | h
 ·constructor
  ·intro k; exact absurd (.inl h) k
  ·rintro (k | ⟨k, _⟩)
   ·exact absurd (nB h k) Rat.lt_irrefl
   ·rw [k] at h; exact absurd h Rat.lt_irrefl
 ·constructor
  ·intro k
   refine .inr ⟨h,?_⟩
   by_cases h1:kz y < kz x
   ·exact .inl h1
   ·by_cases h2 : kz x < kz y
    ·exact absurd (.inr ⟨h,.inl h2⟩) k
    ·refine .inr ⟨by omega, ?_⟩
     by_cases h3:x.m < y.m
     ·exact absurd (.inr ⟨h,.inr ⟨by omega,h3⟩⟩) k
     ·omega
  ·rintro (k | ⟨_, k⟩) (j | ⟨_, j⟩)
   ·rw [h] at j; exact Rat.lt_irrefl j
   ·rw [h] at k; exact Rat.lt_irrefl k
   ·rw [h] at j; exact Rat.lt_irrefl j
   ·omega
 ·constructor
  ·intro _; exact .inl h
  ·rintro _ (j | ⟨j, _⟩)
   ·exact Rat.lt_irrefl (nB h j)
   ·rw [j] at h; exact Rat.lt_irrefl h
theorem Fc (x:Pd):qB x x = false:=yM.2 (.inr ⟨rfl,.inr ⟨rfl,Int.le_refl _⟩⟩)
theorem Js {x y z:Pd} (h:qB x y = true) (k:qB y z = true):qB x z = true:=by
 rw [Fb] at *
 rcases h with h | ⟨h,h'⟩
 ·rcases k with k | ⟨k, _⟩
  ·exact .inl (nB h k)
  ·exact .inl (k ▸ h)
 ·rcases k with k | ⟨k, k'⟩
  ·exact .inl (h ▸ k)
  ·exact .inr ⟨h.trans k,by omega⟩
theorem yN {x y z:Pd} (h:qB x y = false) (k:qB y z = false):qB x z = false:=by
 rw [yM] at *
 rcases h with h | ⟨h,h'⟩
 ·rcases k with k | ⟨k, _⟩
  ·exact .inl (nB k h)
  ·exact .inl (k ▸ h)
 ·rcases k with k | ⟨k, k'⟩
  ·exact .inl (h ▸ k)
  ·exact .inr ⟨h.trans k,by omega⟩
theorem Ak {x y:Pd} (h:qB x y = true):qB y x = false:=by
 cases e:qB y x with
 | false=>rfl
 | true=>have:=Js h e; rw [Fc] at this; cases this
def Sj (l:List Pd):Prop:=l.Pairwise fun a b=>qB b a = false
def Yi (l:List Pd):List Pd:=l.mergeSort fun a b=>!qB b a
theorem rY (l:List Pd):(Yi l).Perm l:=List.mergeSort_perm l _
theorem Rx (l:List Pd):Sj (Yi l):=by
 have h := List.pairwise_mergeSort (le := fun a b : Pd => !qB b a) (fun a b c h k => by
  simp only [Bool.not_eq_true'] at h k ⊢; exact yN k h) (fun a b=>by
  cases e:qB b a with
  | false=>simp
  | true=>simp [Ak e]) l
 exact h.imp fun {a b} h=>by simpa using h
theorem Nk {l L : List Pd} (ha : ∀ x y, x ∈ L → y ∈ L → qB x y = false → qB y x = false → x = y) (hp : l.Perm L) (hs : Sj l) : l = Yi L :=
 List.Perm.eq_of_pairwise (le:=fun a b=>qB b a = false) (fun a b h1 h2 h3 h4=>ha a b (hp.mem_iff.1 h1) ((rY L).mem_iff.1 h2) h4 h3) hs (Rx L) (hp.trans (rY L).symm)
theorem Rw {l : List Pd} {x : Pd} {q : Nat} (hs : Sj l) (hq : q ≤ l.length) (h1 : ∀ i y, q ≤ i → l[i]? = some y → qB x y = true) (h2 : ∀ y, 0 < q → l[q - 1]? = some y → qB x y = false) :
  Sj (l.take q ++ x :: l.drop q):=by
 unfold Sj
 rw [List.pairwise_append]
 refine ⟨hs.sublist (List.take_sublist _ _),?_,?_⟩
 ·rw [List.pairwise_cons]
  refine ⟨fun y hy=>?_,hs.sublist (List.drop_sublist _ _)⟩
  obtain ⟨i,hi⟩:=List.mem_iff_getElem?.1 hy
  rw [List.getElem?_drop] at hi
  exact Ak (h1 _ y zo hi)
 ·intro a ha b hb
  obtain ⟨i,hi⟩:=List.mem_iff_getElem?.1 ha
  rw [List.getElem?_take] at hi
  have hia : i < q := by
   by_cases h:i < q
   ·exact h
   ·rw [if_neg h] at hi; cases hi
  rw [if_pos hia] at hi
  obtain ⟨hil,rfl⟩:=List.getElem?_eq_some_iff.1 hi
  rcases List.mem_cons.1 hb with rfl | hb
  ·have h : q - 1 < l.length := by omega
   have h3:=h2 l[q - 1] zo (List.getElem?_eq_getElem h)
   by_cases e:i = q - 1
   ·subst e; exact h3
   ·exact yN h3 (List.pairwise_iff_getElem.1 hs i (q - 1) hil h zo)
  ·obtain ⟨j, hj⟩ := List.mem_iff_getElem?.1 hb
   rw [List.getElem?_drop] at hj
   obtain ⟨hjl,rfl⟩:=List.getElem?_eq_some_iff.1 hj
   exact List.pairwise_iff_getElem.1 hs i (q + j) hil hjl zo
def iF (G : Int → List Pd) (a : Int) : Nat → List Pd
 | 0=>[]
 | k + 1=>iF G a k ++ G (a + k)
theorem nY (G:Int → List Pd) (a:Int) (k:Nat):iF G a (k + 1) = iF G a k ++ G (a + k):=rfl
theorem sG {G G' : Int → List Pd} {a : Int} : ∀ {k : Nat}, (∀ j : Nat, j < k → G (a + j) = G' (a + j)) → iF G a k = iF G' a k
 | 0,_=>rfl
 | k + 1,h=>by rw [iF,iF,sG (fun j hj=>h j zo),h k zo]
theorem vI {G : Int → List Pd} {a : Int} : ∀ {k : Nat}, (∀ j : Nat, j < k → G (a + j) = []) → iF G a k = []
 | 0,_=>rfl
 | k + 1,h=>by rw [iF,vI (fun j hj=>h j zo),h k zo]; rfl
theorem yW (G : Int → List Pd) (a : Int) (p : Nat) : ∀ q : Nat, iF G a (p + q) = iF G a p ++ iF G (a + p) q
 | 0=>by simp [iF]
 | q + 1 => by
  rw [← Nat.add_assoc,iF,yW G a p q,iF,List.append_assoc]
  congr 2
  rw [show a + ((p + q:Nat):Int) = a + p + q by push_cast; omega]
theorem pH {G : Int → List Pd} {a : Int} {x : Pd} : ∀ {k : Nat}, x ∈ iF G a k → ∃ j : Nat, j < k ∧ x ∈ G (a + j)
 | 0,h=>by cases h
 | k + 1, h => by
  rcases List.mem_append.1 h with h | h
  ·obtain ⟨j,h1,h2⟩:=pH h; exact ⟨j,by omega,h2⟩
  ·exact ⟨k,by omega,h⟩
theorem lD {G : Int → List Pd} {a : Int} {c : Nat} (h : ∀ i, (G i).length ≤ c) : ∀ k : Nat, (iF G a k).length ≤ k * c
 | 0=>by simp [iF]
 | k + 1=>by rw [iF,List.length_append,Nat.add_mul]; have:=lD h (a:=a) k; have:=h (a + k); omega
section
variable (f g lo hi:Qi)
def pf (m n:Int):Qi:=f * Qi.ofInt m + g * Qi.ofInt n
def Eb (m n:Int):Bool:=(!decide (m = 0) || !decide (n = 0)) && fL (pf f g m n) && decide (0 ≤ nR (pf f g m n) lo) && decide (nR (pf f g m n) hi ≤ 0)
def Gm (m n:Int):List Pd:=if Eb f g lo hi m n = true then [⟨m,n,pf f g m n⟩] else []
def oL (o:Nat) (m n:Int):List Pd:=if sz m + sz n ≤ o then Gm f g lo hi m n else []
def qS (o:Nat) (m:Int):List Pd:=iF (Gm f g lo hi m) (sz m - o) (2 * (o - (sz m).toNat) + 1)
def xA (o:Nat) (m:Int):List Pd:=iF (oL f g lo hi o m) (-o) (2 * o + 1)
def sK (o:Nat):List Pd:=iF (qS f g lo hi o) (-o) (2 * o + 1)
def Yy (o:Nat):List Pd:=iF (xA f g lo hi o) (-o) (2 * o + 1)
end
section
variable {f g lo hi:Qi} {o:Nat}
theorem Wc {m:Int} (h:sz m ≤ o):xA f g lo hi o m = qS f g lo hi o m:=by
 unfold xA qS
 obtain ⟨s,hs⟩:∃ s:Nat,sz m = s:=⟨(sz m).toNat,by unfold sz; omega⟩
 rw [hs]
 have hso:s ≤ o:=by omega
 rw [show 2 * o + 1 = s + ((2 * (o - s) + 1) + s) by omega,yW,yW,vI (k:=s) (a:=-(o:Int)),vI (k:=s),List.nil_append,List.append_nil,Int.toNat_natCast,show (-(o:Int) + (s:Int)) = (s:Int) - o by omega]
 ·refine sG fun j hj => ?_
  unfold oL
  rw [if_pos (by rw [hs]; unfold sz; omega)]
 ·intro j hj
  unfold oL
  rw [if_neg (by rw [hs]; unfold sz; push_cast; omega)]
 ·intro j hj
  unfold oL
  rw [if_neg (by rw [hs]; unfold sz; omega)]
theorem Vh:Yy f g lo hi o = sK f g lo hi o:=sG fun j hj=>Wc (by unfold sz; omega)
theorem Gn {m n:Int} {x:Pd} (h:x ∈ Gm f g lo hi m n):x = ⟨m,n,pf f g m n⟩ ∧ Eb f g lo hi m n = true:=by
 unfold Gm at h
 split at h
 ·rename_i k; exact ⟨by simpa using h,k⟩
 ·cases h
theorem zG {x:Pd} (h:x ∈ sK f g lo hi o):x.f = pf f g x.m x.n ∧ Eb f g lo hi x.m x.n = true ∧ sz x.m + sz x.n ≤ o:=by
 obtain ⟨i,h1,h2⟩:=pH h
 obtain ⟨j,h3,h4⟩:=pH h2
 obtain ⟨rfl,h5⟩:=Gn h4
 refine ⟨rfl,h5,?_⟩
 unfold sz at *
 simp only
 omega
theorem uO {m n:Int} (hf:Re f) (hg:Re g):Re (pf f g m n):=(hf.mul ⟨rfl⟩).add (hg.mul ⟨rfl⟩)
theorem Tf {m n:Int} (hf:Re f) (hg:Re g):(pf f g m n).re = m * f.re + n * g.re:=by
 show (f * Qi.ofInt m + g * Qi.ofInt n).re = _
 rw [Qi.add_re,hf.rmul,hg.rmul]
 show f.re * (m:Rat) + g.re * (n:Rat) = _
 grind
theorem Bk (hf:Re f) (hg:Re g) (g0:0 < g.re):∀ x y,x ∈ sK f g lo hi o → y ∈ sK f g lo hi o → qB x y = false → qB y x = false → x = y:=by
 intro x y hx hy h k
 obtain ⟨x1,_,_⟩:=zG hx
 obtain ⟨y1,_,_⟩:=zG hy
 have hm : x.m = y.m ∧ x.f.re = y.f.re := by
  rw [yM] at h k
  rcases h with h | ⟨h,h'⟩
  ·rcases k with k | ⟨k, _⟩
   ·exact absurd (nB h k) Rat.lt_irrefl
   ·rw [k] at h; exact absurd h Rat.lt_irrefl
  ·rcases k with k | ⟨k, k'⟩
   ·rw [h] at k; exact absurd k Rat.lt_irrefl
   ·exact ⟨by omega,h⟩
 have e2:x.f.re = x.m * f.re + x.n * g.re:=by rw [x1,Tf hf hg]
 have e3:y.f.re = y.m * f.re + y.n * g.re:=by rw [y1,Tf hf hg]
 have e4:((x.n:Rat) - y.n) * g.re = 0:=by rw [hm.1] at e2; grind
 have e5 : (x.n : Rat) = (y.n : Rat) := by
  rcases Rat.mul_eq_zero.1 e4 with h | h
  ·grind
  ·rw [h] at g0; exact absurd g0 Rat.lt_irrefl
 have e6:x.n = y.n:=Rat.intCast_inj.1 e5
 obtain ⟨xm,xn,xf⟩:=x
 obtain ⟨ym,yn,yf⟩:=y
 simp only at *
 rw [hm.1,e6] at x1
 rw [x1,y1,hm.1,e6]
end
def qL (f g lo hi:Qi) (o:Int):Bool:=!fL f || !fL g || !decide (lo.b = 0) || !decide (hi.b = 0) || decide (o < 1) || decide (15 < o)
def kV (f g lo hi:Qi) (o:Int):Int:=if qL f g lo hi o = true then 1 else if 0 < nR lo hi then 7 else 0
def jJ (f g lo hi:Qi) (o:Int):List Pd:=if kV f g lo hi o = 0 then Yi (sK f g lo hi o.toNat) else []
section
variable {f g lo hi:Qi} {o:Int}
theorem rT (h:qL f g lo hi o = true):kV f g lo hi o = 1:=by rw [kV,if_pos h]
theorem Cf (h:qL f g lo hi o = false) (h2:0 < nR lo hi):kV f g lo hi o = 7:=by rw [kV,if_neg (by rw [h]; decide),if_pos h2]
theorem Ha (h:qL f g lo hi o = false) (h2:¬ 0 < nR lo hi):kV f g lo hi o = 0:=by rw [kV,if_neg (by rw [h]; decide),if_neg h2]
theorem rS (h:kV f g lo hi o ≠ 0):jJ f g lo hi o = []:=by rw [jJ,if_neg h]
theorem Ce {q:Nat} (h:kV f g lo hi q = 0):jJ f g lo hi q = Yi (sK f g lo hi q):=by rw [jJ,if_pos h,Int.toNat_natCast]
theorem yL (h:qL f g lo hi o = false):fL f = true ∧ fL g = true ∧ lo.b = 0 ∧ hi.b = 0 ∧ 1 ≤ o ∧ o ≤ 15:=by
 simp only [qL,Bool.or_eq_false_iff,Bool.not_eq_false',decide_eq_true_eq,decide_eq_false_iff_not] at h
 obtain ⟨⟨⟨⟨⟨h1,h2⟩,h3⟩,h4⟩,h5⟩,h6⟩:=h
 exact ⟨h1,h2,h3,h4,by omega,by omega⟩
end
structure Da (L:Nat) (x:Pd):Prop where
 fit:aL x.f L
 re:Re x.f
 m1:-15 ≤ x.m
 m2:x.m ≤ 15
 n1:-15 ≤ x.n
 n2:x.n ≤ 15
theorem xP {m : Int} (h1 : -15 ≤ m) (h2 : m ≤ 15) : aL (Qi.ofInt m) 2 := (@fitInt m).le (by
 have:(dg m.natAbs).length ≤ 1:=gH (k:=1) (by rw [Nat.pow_one]; exact Nat.lt_of_lt_of_le (show m.natAbs < 16 by omega) (by decide))
 omega)
section
variable {f g lo hi:Qi} {q L:Nat}
theorem zP {m n:Int} (hf:aL f L) (hg:aL g L) (h1:-15 ≤ m) (h2:m ≤ 15) (h3:-15 ≤ n) (h4:n ≤ 15):aL (pf f g m n) (2 * L + 8):=by
 haveI:=xP h1 h2; haveI:=xP h3 h4; haveI:=hf; haveI:=hg
 have h:aL (f * Qi.ofInt m + g * Qi.ofInt n) ((L + 2 + 1) + (L + 2 + 1) + 1):=inferInstance
 exact h.le zo
theorem Ti {m:Int} {k:Nat} (h:sz m ≤ k):-(k:Int) ≤ m ∧ m ≤ k:=by unfold sz at h; omega
theorem Cv (m:Int):0 ≤ sz m:=by unfold sz; omega
theorem Gg (hf : aL f L) (hg : aL g L) (rf : Re f) (rg : Re g) (hq : q ≤ 15) : ∀ x, x ∈ sK f g lo hi q → Da (2 * L + 8) x := fun x hx => by
 obtain ⟨h1,_,h3⟩:=zG hx
 have hm:=Cv x.m; have hn:=Cv x.n
 obtain ⟨a1,a2⟩:=Ti (m:=x.m) (k:=q) zo
 obtain ⟨b1,b2⟩:=Ti (m:=x.n) (k:=q) zo
 refine ⟨?_,?_,by omega,by omega,by omega,by omega⟩
 ·rw [h1]; exact zP hf hg zo zo zo zo
 ·rw [h1]; exact uO rf rg
theorem uJ (m n:Int):(Gm f g lo hi m n).length ≤ 1:=by
 unfold Gm; split <;> simp
theorem Hc {k i j:Nat} {m:Int} (hq:q ≤ 15) (hi1:i ≤ 2 * q + 1) (hj:j ≤ 2 * (q - k) + 1):(iF (qS f g lo hi q) (-(q:Int)) i ++ iF (Gm f g lo hi m) ((k:Int) - q) j).length ≤ 1100:=by
 have h : ∀ m, (qS f g lo hi q m).length ≤ 31 := fun m => by
  have:=lD (G:=Gm f g lo hi m) (c:=1) (uJ m) (2 * (q - (sz m).toNat) + 1) (a:=sz m - q)
  unfold qS; omega
 have h1:=lD (G:=qS f g lo hi q) (c:=31) h i (a:=-(q:Int))
 have h2:=lD (G:=Gm f g lo hi m) (c:=1) (uJ m) j (a:=(k:Int) - q)
 have h3:i * 31 ≤ 31 * 31:=Nat.mul_le_mul_right 31 zo
 rw [List.length_append]; omega
theorem Gf (hq:q ≤ 15):(sK f g lo hi q).length ≤ 961:=by
 have h : ∀ m, (qS f g lo hi q m).length ≤ 31 := fun m => by
  have:=lD (G:=Gm f g lo hi m) (c:=1) (uJ m) (2 * (q - (sz m).toNat) + 1) (a:=sz m - q)
  unfold qS; omega
 have:=lD (G:=qS f g lo hi q) (c:=31) h (2 * q + 1) (a:=-(q:Int))
 unfold sK
 have h2:(2 * q + 1) * 31 ≤ 31 * 31:=Nat.mul_le_mul_right 31 zo
 omega
end
def sh (l:List Pd) (x:Pd) (i:Nat):List Pd:=(l ++ [x]).take (i + 1) ++ l.drop i
theorem zR {l:List Pd} {x:Pd} {i:Nat} (h:i ≤ l.length):(sh l x i).length = l.length + 1:=by
 unfold sh; rw [List.length_append,List.length_take,List.length_append,List.length_drop]; simp; omega
theorem Wh (l:List Pd) (x:Pd):sh l x l.length = l ++ [x]:=by
 unfold sh; rw [List.drop_length,List.append_nil,List.take_of_length_le (by simp)]
theorem Wf {l:List Pd} {x:Pd} {i:Nat} (h0:0 < i) (h:i ≤ l.length):(sh l x i)[i - 1]? = l[i - 1]?:=by
 unfold sh
 rw [List.getElem?_append_left (by rw [List.length_take,List.length_append]; simp; omega),List.getElem?_take,if_pos zo,List.getElem?_append_left zo]
theorem Ro {l:List Pd} {x y:Pd} {i:Nat} (h0:0 < i) (h:i ≤ l.length) (hy:l[i - 1]? = some y):(sh l x i).set i y = sh l x (i - 1):=by
 apply List.ext_getElem?
 intro k
 have e1:(l ++ [x]).length = l.length + 1:=by simp
 by_cases hk:k = i
 ·subst hk
  rw [List.getElem?_set_self (by rw [zR h]; omega)]
  unfold sh
  rw [List.getElem?_append_right (by rw [List.length_take,e1]; omega),List.length_take,e1,List.getElem?_drop,show k - 1 + (k - min (k - 1 + 1) (l.length + 1)) = k - 1 by omega,hy]
 ·rw [List.getElem?_set_ne (fun e => hk e.symm)]
  unfold sh
  by_cases hlt:k < i
  ·rw [List.getElem?_append_left (by rw [List.length_take,e1]; omega),List.getElem?_append_left (by rw [List.length_take,e1]; omega),List.getElem?_take,List.getElem?_take,if_pos zo,if_pos zo]
  ·rw [List.getElem?_append_right (by rw [List.length_take, e1]; omega), List.getElem?_append_right (by rw [List.length_take, e1]; omega), List.length_take, List.length_take, e1, List.getElem?_drop, List.getElem?_drop]
   congr 1; omega
theorem We {l:List Pd} {x:Pd} {a:Nat} (h:a ≤ l.length):(sh l x a).set a x = l.take a ++ x :: l.drop a:=by
 apply List.ext_getElem?
 intro k
 have e1:(l ++ [x]).length = l.length + 1:=by simp
 have e2:(l.take a).length = a:=by rw [List.length_take]; omega
 by_cases hk:k = a
 ·subst hk
  rw [List.getElem?_set_self (by rw [zR h]; omega),List.getElem?_append_right zo,e2,Nat.sub_self]; rfl
 ·rw [List.getElem?_set_ne (fun e => hk e.symm)]
  unfold sh
  by_cases hlt:k < a
  ·rw [List.getElem?_append_left (by rw [List.length_take,e1]; omega),List.getElem?_append_left zo,List.getElem?_take,List.getElem?_take,if_pos zo,if_pos zo,List.getElem?_append_left zo]
  ·rw [List.getElem?_append_right (by rw [List.length_take, e1]; omega), List.getElem?_append_right zo, List.length_take, e1, e2, List.getElem?_drop]
   obtain ⟨d,hd⟩:∃ d,k = a + 1 + d:=⟨k - (a + 1),by omega⟩
   subst hd
   rw [show a + 1 + d - a = d + 1 by omega,List.getElem?_cons_succ,List.getElem?_drop]
   congr 1; omega
theorem Li {l L:List Pd} {x:Pd} (a:Nat) (h:l.Perm L):(l.take a ++ x :: l.drop a).Perm (L ++ [x]):=by
 refine List.perm_middle.trans ?_
 rw [List.take_append_drop]
 exact (h.cons x).trans (List.perm_append_singleton x L).symm
section
variable {f g lo hi:Qi} {q:Nat}
def Cr (f g lo hi:Qi) (q:Nat) (m n:Int):Bool:=decide (sz m + sz n < 1) || decide ((q:Int) < sz m + sz n) || decide (dH (pf f g m n).a 0 ≤ 0) || decide (Ch (pf f g m n) lo < 0) || decide (0 < Ch (pf f g m n) hi)
theorem Ru {m n:Int} (rf:Re f) (rg:Re g) (hl:lo.b = 0) (hh:hi.b = 0):oL f g lo hi q m n = if Cr f g lo hi q m n = true then [] else [⟨m,n,pf f g m n⟩]:=by
 have rp:=(uO (m:=m) (n:=n) rf rg).b
 unfold oL Gm
 have e1 : Eb f g lo hi m n = ((!decide (m = 0) || !decide (n = 0)) && decide (0 < (pf f g m n).a) && decide (0 ≤ kZ (pf f g m n) lo) && decide (kZ (pf f g m n) hi ≤ 0)) := by
  unfold Eb fL
  rw [pI rp hl,pI rp hh]
  congr 3
  rw [decide_eq_decide]
  exact ⟨fun h=>h.2,fun h=>⟨rp,h⟩⟩
 have e2 : Cr f g lo hi q m n = (decide (sz m + sz n < 1) || decide ((q : Int) < sz m + sz n) || decide ((pf f g m n).a ≤ 0) || decide (kZ (pf f g m n) lo < 0) || decide (0 < kZ (pf f g m n) hi)) := by
  unfold Cr
  rw [pW rp hl,pW rp hh]
  congr 3
  rw [decide_eq_decide]
  have h1:=@nZ 0 (pf f g m n).a
  unfold dH at *
  constructor
  ·intro h; by_cases k : (pf f g m n).a < 0
   ·omega
   ·rw [if_neg k] at h; by_cases k2 : 0 < (pf f g m n).a
    ·rw [if_pos k2] at h; omega
    ·omega
  ·intro h; by_cases k : (pf f g m n).a < 0
   ·rw [if_pos k]; omega
   ·rw [if_neg k,if_neg zo]; omega
 rw [e1,e2]
 generalize (pf f g m n).a = A
 generalize kZ (pf f g m n) lo = X
 generalize kZ (pf f g m n) hi = Y
 by_cases c1:sz m + sz n ≤ q
 ·rw [if_pos c1]
  by_cases c2:m = 0 ∧ n = 0
  ·obtain ⟨rfl, rfl⟩ := c2
   rw [if_neg (by simp),if_pos (by simp [sz])]
  ·have c3 : ¬ sz m + sz n < 1 := by unfold sz; omega
   have c4:¬ (q:Int) < sz m + sz n:=by omega
   have c5 : (!decide (m = 0) || !decide (n = 0)) = true := by
    rw [Bool.or_eq_true,Bool.not_eq_true',Bool.not_eq_true',decide_eq_false_iff_not,decide_eq_false_iff_not]
    by_cases h:m = 0
    ·exact .inr fun k=>c2 ⟨h,k⟩
    ·exact .inl h
   rw [c5,decide_eq_false c3,decide_eq_false c4]
   by_cases h1:0 < A <;> by_cases h2:0 ≤ X <;> by_cases h3:Y ≤ 0
   all_goals
    first
    | rw [if_pos (by simp [h1,h2,h3]),if_neg (by simp; omega)]
    | rw [if_neg (by simp; omega),if_pos (by simp; omega)]
 ·rw [if_neg c1,if_pos (by simp; omega)]
end
section
variable {f g lo hi:Qi} {q L:Nat}
theorem Bo (m n:Int):(oL f g lo hi q m n).length ≤ 1:=by
 unfold oL; split
 ·exact uJ m n
 ·simp
theorem Nc {i j:Nat} {m:Int} (hq:q ≤ 15) (hi1:i ≤ 2 * q + 1) (hj:j ≤ 2 * q + 1):(iF (xA f g lo hi q) (-(q:Int)) i ++ iF (oL f g lo hi q m) (-(q:Int)) j).length ≤ 1100:=by
 have h : ∀ m, (xA f g lo hi q m).length ≤ 31 := fun m => by
  have:=lD (G:=oL f g lo hi q m) (c:=1) (Bo m) (2 * q + 1) (a:=-(q:Int))
  unfold xA; omega
 have h1:=lD (G:=xA f g lo hi q) (c:=31) h i (a:=-(q:Int))
 have h2:=lD (G:=oL f g lo hi q m) (c:=1) (Bo m) j (a:=-(q:Int))
 have h3:i * 31 ≤ 31 * 31:=Nat.mul_le_mul_right 31 zo
 rw [List.length_append]; omega
theorem Bp {m n:Int} (hf:aL f L) (hg:aL g L) (rf:Re f) (rg:Re g) (hm:-15 ≤ m ∧ m ≤ 15) (hn:-15 ≤ n ∧ n ≤ 15) {y:Pd} (hy:y ∈ oL f g lo hi q m n):Da (2 * L + 8) y:=by
 unfold oL at hy
 split at hy
 ·obtain ⟨rfl, _⟩ := Gn hy
  exact ⟨zP hf hg hm.1 hm.2 hn.1 hn.2,uO rf rg,hm.1,hm.2,hn.1,hn.2⟩
 ·cases hy
theorem Na {i j : Nat} {m : Int} (hf : aL f L) (hg : aL g L) (rf : Re f) (rg : Re g) (hq : q ≤ 15) (hi1 : i ≤ 2 * q + 1) (hm : m = -(q : Int) + i) (hm1 : -15 ≤ m ∧ m ≤ 15) (hj : j ≤ 2 * q + 1) :
  ∀ y,y ∈ iF (xA f g lo hi q) (-(q:Int)) i ++ iF (oL f g lo hi q m) (-(q:Int)) j → Da (2 * L + 8) y:=fun y hy=>by
 rcases List.mem_append.1 hy with hy | hy
 ·obtain ⟨a, h1, h2⟩ := pH hy
  obtain ⟨b,h3,h4⟩:=pH h2
  exact Bp hf hg rf rg zo zo h4
 ·obtain ⟨b, h3, h4⟩ := pH hy
  exact Bp hf hg rf rg hm1 zo h4
end
end
section
open Go Go.RowKit
structure mC {γ:Type} (T:γ → Ty) (s:Nat) (V:aP) where
 x:γ
 cs:List Value
 len:cs.length = s
 plain:∀ v,v ∈ cs → iQ v
 ok:(T x).p (.agg cs.toArray) V
section
variable {γ:Type} {T:γ → Ty} {s:Nat} {V:aP}
abbrev mC.val (a:mC T s V):Value:=.agg a.cs.toArray
theorem Kw (l:List (mC T s V)):qI s (l.map fun a=>T a.x) (l.map mC.val) V:=by
 induction l with
 | nil=>exact qI.nil
 | cons a l ih =>
  have h1 : qI s [T a.x] [a.val] V := ⟨⟨a.ok, trivial⟩, fun x hx => by simp at hx; subst hx; simp [mC.val, Value.cells, a.len], fun u hu => by
   simp [bL,mC.val,Value.cells] at hu; exact a.plain u hu⟩
  exact h1.append ih
theorem Fy (hag : ∀ x v V, (T x).p v V → ∃ cs, v = .agg cs) : ∀ (l : List γ) (xs : List Value), qI s (l.map T) xs V → ∃ d : List (mC T s V), d.map mC.x = l ∧ d.map mC.val = xs
 | [],[],_=>⟨[],rfl,rfl⟩
 | x :: l, v :: xs, h => by
  obtain ⟨cs,rfl⟩:=hag x v V h.all.1
  obtain ⟨d, h1, h2⟩ := Fy hag l xs ⟨h.all.2, fun y hy => h.size y (by simp [hy]), fun u hu => h.plain u (by
   obtain ⟨y,k1,k2⟩:=fB.1 hu; exact fB.2 ⟨y,by simp [k1],k2⟩)⟩
  refine ⟨⟨x,cs.toList,by simpa [Value.cells] using h.size (.agg cs) (by simp),fun u hu=>h.plain u (fB.2 ⟨.agg cs,by simp,by simpa [Value.cells] using hu⟩),by simpa using h.all.1⟩ :: d,by simp [h1],by simp [h2,mC.val]⟩
 | [],_ :: _,h=>h.all.elim
 | _ :: _,[],h=>h.all.elim
theorem Bg [Inhabited (mC T s V)] (d:Array (mC T s V)):(Go.Sort.flatK mC.cs s d).toList = bL (d.toList.map mC.val):=by
 have hsz : ∀ x, x ∈ d.toList.map mC.val → x.cells.size = s := fun x hx => by
  obtain ⟨a,_,rfl⟩:=List.mem_map.1 hx; simp [mC.val,Value.cells,a.len]
 have hl:=iD _ hsz
 apply List.ext_getElem?
 intro j
 by_cases hj:j < d.size * s
 ·have hj2 : j < (bL (d.toList.map mC.val)).length := by rw [hl]; simpa using hj
  obtain ⟨i,x,r,h1,h2,h3⟩:=vW _ hsz j _ (List.getElem?_eq_getElem hj2)
  rw [List.getElem?_eq_getElem hj2]
  rw [List.getElem?_map] at h1
  obtain ⟨a,h4,rfl⟩:=Option.map_eq_some_iff.1 h1
  have hr : r < s := by
   have:=(Array.getElem?_eq_some_iff.1 h2).1
   simpa [mC.val,Value.cells,a.len] using this
  have e1:j / s = i:=by rw [h3,Nat.mul_comm,Nat.mul_add_div zo,Nat.div_eq_of_lt hr,Nat.add_zero]
  have e2:j % s = r:=by rw [h3,Nat.mul_comm,Nat.mul_add_mod,Nat.mod_eq_of_lt hr]
  have hi:i < d.size:=by have:=(List.getElem?_eq_some_iff.1 h4).1; simpa using this
  have e3 : d[i]! = a := by
   rw [getElem!_pos d i hi]
   have:=(List.getElem?_eq_some_iff.1 h4).2
   simpa using this
  have e4:=Go.Sort.get_flatK mC.cs s d j hj
  rw [e1,e2,e3] at e4
  have hj3:j < (Go.Sort.flatK mC.cs s d).size:=by simpa using hj
  rw [getElem!_pos _ j hj3] at e4
  rw [Array.getElem?_toList,Array.getElem?_eq_getElem hj3,e4]
  have h5:a.cs[r]? = some (bL (d.toList.map mC.val))[j]:=by simpa [mC.val,Value.cells] using h2
  have hra:r < a.cs.length:=by rw [a.len]; exact hr
  rw [getElem!_pos a.cs r hra,← List.getElem?_eq_getElem hra,h5]
 ·rw [List.getElem?_eq_none (by simpa using Nat.le_of_not_lt hj),List.getElem?_eq_none (by rw [hl]; simpa using Nat.le_of_not_lt hj)]
end
theorem wI {α : Type} [Inhabited α] (enc : α → List Value) (k : Nat) (w : World) (blk m : Nat) (dk : Array α) (os : Array Obj) {b : Nat} (hb : b < w.heap.size) (hne : b ≠ blk) :
  (sortWorldK enc k w blk 0 m dk os).heap[b]? = w.heap[b]?:=by
 have h : b < (Go.Sort.putRowK enc k (Go.Sort.ahead w m) blk 0 dk).heap.size := by
  have:(Go.Sort.putRowK enc k (Go.Sort.ahead w m) blk 0 dk).heap.size = w.heap.size:=by simp [Go.Sort.putRowK]
  omega
 unfold sortWorldK
 show (_ ++ os:Array Obj)[b]? = _
 rw [Array.getElem?_append_left h]
 simp only [Go.Sort.putRowK,Go.Sort.putRow,Go.Sort.mapBlock,Go.Sort.heap_ahead,Array.getElem?_modify]
 rw [if_neg (fun e=>hne e.symm)]
theorem Iq {α : Type} [Inhabited α] (enc : α → List Value) (k : Nat) (w : World) (blk m : Nat) (dk : Array α) (os : Array Obj) {c : Array Value} {e : TypeId} {fr : Nat × Nat} (hb : w.heap[blk]? = some (.cells c e fr)) :
  (sortWorldK enc k w blk 0 m dk os).heap[blk]? = some (.cells (Go.Sort.putCells id 0 (Go.Sort.flatK enc k dk) c) e fr):=by
 have hlt:blk < w.heap.size:=(Array.getElem?_eq_some_iff.1 hb).1
 have h : blk < (Go.Sort.putRowK enc k (Go.Sort.ahead w m) blk 0 dk).heap.size := by
  have:(Go.Sort.putRowK enc k (Go.Sort.ahead w m) blk 0 dk).heap.size = w.heap.size:=by simp [Go.Sort.putRowK]
  omega
 unfold sortWorldK
 show (_ ++ os:Array Obj)[blk]? = _
 rw [Array.getElem?_append_left h]
 simp only [Go.Sort.putRowK,Go.Sort.putRow,Go.Sort.mapBlock,Go.Sort.heap_ahead,Array.getElem?_modify,hb]
 simp [Go.Sort.onCells]
theorem wZ (F c:Array Value) (h:F.size ≤ c.size):(Go.Sort.putCells id 0 F c).size = c.size ∧ (Go.Sort.putCells id 0 F c).toList.take F.size = F.toList:=by
 refine ⟨by simp [Go.Sort.putCells],List.ext_getElem? fun j=>?_⟩
 rw [List.getElem?_take]
 by_cases hj:j < F.size
 ·rw [if_pos hj, Array.getElem?_toList, Array.getElem?_toList, Array.getElem?_eq_getElem hj]
  have hc:j < c.size:=by omega
  simp [Go.Sort.putCells,hj,hc]
 ·rw [if_neg hj,Array.getElem?_toList,Array.getElem?_eq_none zo]
section
variable {P:Program} {R:fA} {cx:Cx} {n:Nat} {k:List It} {E:bM} {H:Hp} {ops:Array Oper} {rest:List Oper}
variable {d:Option Tmp} {pos:String} {af:Array Edge}
theorem Aj {w w':World} (h:Below w.heap.size w w'):∃ q os,w' = Go.Sort.grow (w.drewN q) os:=by
 obtain ⟨p,hp⟩:=regrown_of_below h.1
 have hd:=h.2
 rw [hp] at hd
 refine ⟨p.d - w.drawn,p.os,hp.trans ?_⟩
 have:w.drawn ≤ p.d:=hd
 simp only [redrawn,World.drewN]
 rw [Nat.add_sub_cancel' this]
theorem Nj {ρ : Go.Shelf.Ren} (L : Go.Proofs.SlLaysF0.n6 P ρ) {γ : Type} {T : γ → Ty} {s e i : Nat} {v y : Value} {l : List γ} {cf : γ → γ → Int} {w : World} {V : aP}
  (hag:∀ x v V,(T x).p v V → ∃ cs,v = .agg cs) (aE:∀ w,(isAgg (ρ.t 24)).run P w = .ok true w) (zE:∀ w,(sizeOf (ρ.t 24)).run P w = .ok s w) (hO:Go.Sort.SWO (Go.Proofs.ltOf cf))
  (hinv:eS cx V H w) (hy:(zY P (γ × γ) (fun p=>[T p.1,T p.2]) (fun p=>aF .i64 (cf p.1 p.2))).p y V) (hH:H[i]? = some (bE e s v (l.map T))) (hlen:l.length < 4611686018427387904) :
  Calls P (ρ.f 6) #[v,y] w fun e' w'=>e' = .returned (.tuple #[]) ∧ ∃ l':List γ,l'.Perm l ∧ l'.Pairwise (fun a b=>Go.Proofs.ltOf cf b a = false) ∧ eS cx V (H.set i (bE e s v (l'.map T))) w':=by
 obtain ⟨F,f1,f2⟩:=hinv.hp
 obtain ⟨⟨xs,hx1,hx2⟩,hx3⟩:=f1 i _ hH
 have hil:=(List.getElem?_eq_some_iff.1 hH)
 obtain ⟨fid,caps,rfl,hen,hcl⟩:=hy
 have done : ∀ p cap, l = [] → v = .slice p 0 cap → Calls P (ρ.f 6) #[v, .func (.func fid) #[] caps.toArray] w fun e' w' => e' = .returned (.tuple #[]) ∧ ∃ l' : List γ, l'.Perm l ∧ l'.Pairwise (fun a b => Go.Proofs.ltOf cf b a = false) ∧ eS cx V (H.set i (bE e s v (l'.map T))) w' := by
  intro p cap hl hv
  rw [hv]
  refine (AnyF.slices_SortFunc_none L p cap _ w).mono fun e' w' ⟨h1,h2⟩=>⟨h1,l,List.Perm.refl l,by rw [hl]; exact List.Pairwise.nil,?_⟩
  rw [h2,← hv]
  have : H.set i (bE e s v (l.map T)) = H := by
   obtain ⟨h3,h4⟩:=hil
   rw [← h4]; exact List.set_getElem_self h3
  rw [this]; exact hinv
 rcases hx2 with ⟨rfl,hnil,hS⟩ | ⟨g,cap,cur,rfl,hS,hg,hle,hcm,hcs,htake⟩
 ·exact done none 0 (by simpa using hnil) rfl
 by_cases hl0:l = []
 ·exact done (some ⟨g,0,none⟩) cap hl0 (by rw [hl0]; rfl)
 obtain ⟨d,hd1,hd2⟩:=Fy hag l xs hx1
 have hdl:d.length = l.length:=by rw [← hd1,List.length_map]
 obtain ⟨a0, ha0⟩ : ∃ a0, a0 ∈ d := by
  cases d with
  | nil=>exact absurd hd1.symm hl0
  | cons a d=>exact ⟨a,by simp⟩
 letI:Inhabited (mC T s V):=⟨a0⟩
 have hg':w.heap[g]? = some (.cells cur e (0,0)):=hg
 have hgl:g < w.heap.size:=(Array.getElem?_eq_some_iff.1 hg').1
 have hgV:V g = none:=(hx3 g (by rw [hS]; simp)).1
 have hgb:cx.w0.heap.size ≤ g:=(hx3 g (by rw [hS]; simp)).2.1
 have hfl:(Go.Sort.flatK mC.cs s d.toArray).toList = bL xs:=by rw [Bg]; simp [hd2]
 have hfs:(Go.Sort.flatK mC.cs s d.toArray).size = (l.map T).length * s:=by simp [hdl]
 have hH0 : Go.Sort.HoldsK mC.cs s w g 0 d.toArray := by
  intro j hj
  rw [hfs] at hj
  have hjc : j < cur.size := by
   rw [hcs]; exact Nat.lt_of_lt_of_le hj (Nat.mul_le_mul_right _ hle)
  refine ⟨?_,by simp [World.frozen?,hg']⟩
  rw [dR hg',Nat.zero_add]
  have h1 : (bL xs)[j]? = cur[j]? := by
   rw [← htake,List.getElem?_take,if_pos hj,Array.getElem?_toList]
  rw [← h1,← hfl,Array.getElem?_toList]
  have hj2:j < (Go.Sort.flatK mC.cs s d.toArray).size:=by rw [hfs]; exact hj
  rw [getElem!_pos _ j hj2]; simp [hj2]
 have hon : ∀ (m : Nat) (os : Array Obj) (dk : Array (mC T s V)) (b : Nat) (o : Obj), V b = some o → (sortWorldK mC.cs s w g 0 m dk os).heap[b]? = some o := fun m os dk b o hb => by
  rw [wI _ _ _ _ _ _ _ ((Array.getElem?_eq_some_iff.1 (hinv.on b o hb)).1) (fun e=>by rw [e,hgV] at hb; cases hb)]
  exact hinv.on b o hb
 have hcmp : CmpLays P fid caps.toArray mC.cs s (fun a b : mC T s V => cf a.x b.x) g 0 d.toArray.size w := fun m os dk hdk a b => by
  have h:=hcl (a.x,b.x) [a.val,b.val] V (sortWorldK mC.cs s w g 0 m dk os) (kB.refl V) (hon m os dk) ⟨a.ok,b.ok,trivial⟩
  have e1:(#[.agg a.cs.toArray,.agg b.cs.toArray] ++ caps.toArray:Array Value) = ([a.val,b.val] ++ caps).toArray:=by simp [mC.val]
  rw [e1]
  refine h.mono ?_
  rintro e' w' ⟨u,V',rfl,_,_,_,hb,hu⟩
  exact ⟨congrArg _ hu,Aj hb⟩
 have hO':Go.Sort.SWO (Go.Proofs.ltOf fun a b:mC T s V=>cf a.x b.x):=⟨fun a=>hO.irrefl a.x,fun a b c=>hO.trans a.x b.x c.x,fun a b c=>hO.ntrans a.x b.x c.x⟩
 have hmain:=AnyQ.slices_SortFunc L s aE zE mC.cs (fun a=>a.len) (fun a u hu=>xZ (a.plain u hu)) (fun a b:mC T s V=>cf a.x b.x) hO' fid caps.toArray g 0 cap d.toArray w hen hcmp hH0 hgl (by simpa [hdl] using hlen)
 rw [show d.toArray.size = (l.map T).length by simp [hdl]] at hmain
 refine hmain.mono ?_
 rintro e' w' ⟨h1,d',m,os,hp,hso,rfl⟩
 have hsz:d'.size = d.length:=by rw [hp.1]; simp
 have hperm : d'.toList.Perm d := by
  have:=hp.2.2
  rw [Array.extract_eq_self_of_le (by rw [hsz,List.length_map]; omega),Array.extract_eq_self_of_le (by simp [hdl])] at this
  simpa using this
 refine ⟨h1,d'.toList.map mC.x,by rw [← hd1]; exact hperm.map _,?_,?_⟩
 ·rw [List.pairwise_map, List.pairwise_iff_getElem]
  intro i j hi hj hij
  have:=hso i j (Nat.zero_le _) hij (by simp at hj; rw [List.length_map,← hdl]; omega)
  rw [getElem!_pos d' j (by simpa using hj),getElem!_pos d' i (by simpa using hi)] at this
  simpa [Go.Proofs.ltOf] using this
 ·have hB := Iq mC.cs s w g m d' os hg'
  have hfl':=Bg d'
  have hfs':(Go.Sort.flatK mC.cs s d').size = (l.map T).length * s:=by simp [hsz,hdl]
  obtain ⟨k1,k2⟩:=wZ (Go.Sort.flatK mC.cs s d') cur (by rw [hfs',hcs]; exact Nat.mul_le_mul_right _ hle)
  have hlen':((d'.toList.map mC.x).map T).length = (l.map T).length:=by simp [hsz,hdl]
  refine hinv.upd' hH (by rw [show (sortWorldK mC.cs s w g 0 m d' os).heap.size = _ from rfl]; simp [sortWorldK,Go.Sort.grow,Go.Sort.putRowK]) rfl rfl ⟨rfl,Nat.le_add_right _ _⟩ (fun S hS' _=>?_)
  obtain ⟨xs',_,hx2'⟩:=hS'
  rcases hx2' with ⟨h0,_⟩ | ⟨g',cap',cur',e1,rfl,_⟩
  ·cases h0
  simp at e1; obtain ⟨rfl,rfl⟩:=e1
  refine ⟨[g],fun b hb=>.inl hb,fun b hb hlt=>wI _ _ _ _ _ _ _ hlt (by simpa using hb),d'.toList.map mC.val,?_,.inr ⟨g,cap,_,by rw [hlen'],rfl,hB,by rw [hlen']; exact hle,hcm,by rw [k1,hcs],?_⟩⟩
  ·have := Kw d'.toList
   rwa [show d'.toList.map (fun a=>T a.x) = (d'.toList.map mC.x).map T by rw [List.map_map]; rfl] at this
  ·rw [hlen',← hfs',k2,hfl']
theorem Tw {ρ : Go.Shelf.Ren} {f : FuncId} (L : Go.Proofs.SlLaysF0.n6 P ρ) (hf : ρ.f 6 = f) {γ : Type} {T : γ → Ty} {s e i dd : Nat} {v : Value} {l : List γ} {cf : γ → γ → Int} {x y : Operand} {tys : Array TypeId} {t' : TypeId}
  (hag:∀ x v V,(T x).p v V → ∃ cs,v = .agg cs) (aE:∀ w,(isAgg (ρ.t 24)).run P w = .ok true w) (zE:∀ w,(sizeOf (ρ.t 24)).run P w = .ok s w) (hO:Go.Sort.SWO (Go.Proofs.ltOf cf))
  (hc:∀ args w,(callFunc f args).run P w = .ok (.enter f args) w) (hx:aT E x (Is v)) (hy:aT E y (zY P (γ × γ) (fun p=>[T p.1,T p.2]) (fun p=>aF .i64 (cf p.1 p.2))))
  (hH:H[i]? = some (bE e s v (l.map T))) (hlen:l.length < 4611686018427387904) (hn:Nat.blt dd n = true)
  (h:∀ l':List γ,l'.Perm l → l'.Pairwise (fun a b=>Go.Proofs.ltOf cf b a = false) → Rg P R cx n ops rest k ((dd,lN) :: E) (H.set i (bE e s v (l'.map T)))) :
  Rg P R cx n ops (⟨some dd,.call ⟨.value (.func f),#[x,y],tys⟩,t',pos,af,none⟩ :: rest) k E H:=by
 intro a w ⟨V,hinv,hs⟩
 unfold wpList
 rw [if_pos (by simp [Region.wanted])]
 left
 have ex:a.eval x = v:=hx n V a hs
 have ey:=hy n V a hs
 have hrun : (execOp a.eval ⟨some dd, .call ⟨.value (.func f), #[x, y], tys⟩, t', pos, af, none⟩).run P w = .ok (.enter f #[v, a.eval y]) w := by
  simp [execOp,resolve,Deferred.ofValue,invoke,hc,ex,show a.eval (.func f) = .func (.func f) #[] #[] from rfl]
 simp only [Oper.wp,hrun,Oper.upon_enter]
 subst hf
 refine (Nj L hag aE zE hO hinv ey hH hlen).mono ?_
 rintro e' w' ⟨rfl,l',h1,h2,h3⟩
 exact h l' h1 h2 _ _ ⟨V,h3,hs.put (aK hn) trivial⟩
end
end
section
open Go Go.RowKit
def Ip:Go.Shelf.Ren:=⟨fun | 6=>173 | 15=>233 | 14=>232 | 28=>275 | 29=>276 | 20=>267 | 21=>268 | 22=>269 | 23=>270 | 24=>271 | 25=>272 | 26=>273 | 27=>274 | 46=>293 | 47=>294 | 48=>295 | 49=>296 | 50=>297 | 57=>300 | n=>n,fun | 22=>151 | 24=>158 | 25=>259 | 3=>3 | 39=>275 | 0=>0 | 53=>24 | 55=>274 | 4=>4 | 46=>330 | 45=>329 | 50=>228 | 5=>5 | 9=>9 | 66=>350 | 70=>354 | 76=>361 | 77=>326 | n=>n,fun | n=>n⟩
theorem Yh : Go.Proofs.SlLaysF0.n6 Tryz.prog Ip := {
 mixed:=by kernel_rfl
 f6:=⟨Tryz.f173.name,by decide,Tryz.func173.trans (congrArg some (by kernel_rfl))⟩
 f14:=⟨Tryz.f232.name,by decide,Tryz.func232.trans (congrArg some (by kernel_rfl))⟩
 f15:=Tryz.func233.trans (congrArg some (by kernel_rfl))
 f20:=⟨Tryz.f267.name,by decide,Tryz.func267.trans (congrArg some (by kernel_rfl))⟩
 f21:=⟨Tryz.f268.name,by decide,Tryz.func268.trans (congrArg some (by kernel_rfl))⟩
 f22:=⟨Tryz.f269.name,by decide,Tryz.func269.trans (congrArg some (by kernel_rfl))⟩
 f23:=⟨Tryz.f270.name,by decide,Tryz.func270.trans (congrArg some (by kernel_rfl))⟩
 f24:=⟨Tryz.f271.name,by decide,Tryz.func271.trans (congrArg some (by kernel_rfl))⟩
 f25:=⟨Tryz.f272.name,by decide,Tryz.func272.trans (congrArg some (by kernel_rfl))⟩
 f26:=⟨Tryz.f273.name,by decide,Tryz.func273.trans (congrArg some (by kernel_rfl))⟩
 f27:=⟨Tryz.f274.name,by decide,Tryz.func274.trans (congrArg some (by kernel_rfl))⟩
 f28:=Tryz.func275.trans (congrArg some (by kernel_rfl))
 f29:=Tryz.func276.trans (congrArg some (by kernel_rfl))
 f46:=⟨Tryz.f293.name,by decide,Tryz.func293.trans (congrArg some (by kernel_rfl))⟩
 f47:=Tryz.func294.trans (congrArg some (by kernel_rfl))
 f48:=Tryz.func295.trans (congrArg some (by kernel_rfl))
 f49:=⟨Tryz.f296.name,by decide,Tryz.func296.trans (congrArg some (by kernel_rfl))⟩
 f50:=⟨Tryz.f297.name,by decide,Tryz.func297.trans (congrArg some (by kernel_rfl))⟩
 f57:=⟨Tryz.f300.name,by decide,Tryz.func300.trans (congrArg some (by kernel_rfl))⟩
 t0:=Tryz.underlying0
 a0:=Tryz.isAgg0
 z0:=Tryz.sizeOf0
 v0:=Tryz.zeroValue0
 t3:=Tryz.underlying3
 a3:=A_3
 z3:=Z_3
 v3:=Tryz.zeroValue3
 t4:=Tryz.underlying4
 a4:=A_4
 z4:=Z_4
 v4:=Tryz.zeroValue4
 t5:=Tryz.underlying5
 a5:=A_5
 z5:=Z_5
 v5:=Tryz.zeroValue5
 t9:=Tryz.underlying9
 a9:=Tryz.isAgg9
 z9:=Tryz.sizeOf9
 v9:=Tryz.zeroValue9
 t22:=Tryz.underlying151
 a22:=Tryz.isAgg151
 z22:=Tryz.sizeOf151
 v22:=Tryz.zeroValue151
 t25:=Tryz.underlying259
 a25:=Tryz.isAgg259
 z25:=Tryz.sizeOf259
 v25:=Tryz.zeroValue259
 t39:=Tryz.underlying275
 a39:=Tryz.isAgg275
 z39:=Tryz.sizeOf275
 v39:=Tryz.zeroValue275
 t45:=Tryz.underlying329
 a45:=Tryz.isAgg329
 z45:=Tryz.sizeOf329
 v45:=Tryz.zeroValue329
 t46:=Tryz.underlying330
 a46:=Tryz.isAgg330
 z46:=Tryz.sizeOf330
 v46:=Tryz.zeroValue330
 t50:=Tryz.underlying228
 a50:=Tryz.isAgg228
 z50:=Tryz.sizeOf228
 v50:=Tryz.zeroValue228
 t53:=Tryz.underlying24
 a53:=A_24
 z53:=Z_24
 v53:=O_24
 t55:=Tryz.underlying274
 a55:=Tryz.isAgg274
 z55:=Tryz.sizeOf274
 v55:=Tryz.zeroValue274
 t66:=Tryz.underlying350
 a66:=Tryz.isAgg350
 z66:=Tryz.sizeOf350
 v66:=Tryz.zeroValue350
 t70:=Tryz.underlying354
 a70:=Tryz.isAgg354
 z70:=Tryz.sizeOf354
 v70:=Tryz.zeroValue354
 t76:=Tryz.underlying361
 a76:=Tryz.isAgg361
 z76:=Tryz.sizeOf361
 v76:=Tryz.zeroValue361
 t77:=Tryz.underlying326
 a77:=Tryz.isAgg326
 z77:=Tryz.sizeOf326
 v77:=Tryz.zeroValue326 }
end
section
open Go Go.RowKit
theorem wU {n : Nat} {E : bM} {H : Hp} {d : Option Tmp} {t : TypeId} {pos : String} {af : Array Edge} {g : Option (Nat × Bool)} {x0 x1 x2 : Operand} {T0 T1 T2 T3 T4 T5 T6 : Ty} [s0 : cA T0 1 false] (h0 : aT E x0 T0) [s1 : cA T1 1 false] (h1 : aT E x1 T1) (h2 : aT E x2 (dE [T2, T3, T4, T5, T6])) :
  aM Tryz.prog n E H ⟨d,.build 158 #[(0,x0),(1,x1),(2,x2)],t,pos,af,g⟩ (dE [T0,T1,T2,T3,T4,T5,T6]) :=
 eM (parts := [(0, x0), (1, x1), (2, x2)]) fun a V w hs => by
  have p0:=h0 n V a hs
  generalize e0:a.eval x0 = v0 at p0
  have q0:=(s0.ok v0 V p0).2.2 rfl
  have p1:=h1 n V a hs
  generalize e1:a.eval x1 = v1 at p1
  have q1:=(s1.ok v1 V p1).2.2 rfl
  obtain ⟨v2,e2,c2⟩:=h2 n V a hs
  obtain ⟨c2_0,c2_1,c2_2,c2_3,c2_4,rfl⟩:∃ c2_0 c2_1 c2_2 c2_3 c2_4,v2 = [c2_0,c2_1,c2_2,c2_3,c2_4]:=Lm (by simpa using c2.length)
  refine ⟨.agg #[v0,v1,c2_0,c2_1,c2_2,c2_3,c2_4],?_,[v0,v1,c2_0,c2_1,c2_2,c2_3,c2_4],rfl,aW (⟨p0,q0⟩) (aW (⟨p1,q1⟩) (aW (c2.at (i:=0) rfl rfl) (aW (c2.at (i:=1) rfl rfl) (aW (c2.at (i:=2) rfl rfl) (aW (c2.at (i:=3) rfl rfl) (aW (c2.at (i:=4) rfl rfl) (aG)))))))⟩
  simp [e0,e1,e2,Instr.build,Instr.fill,Sem.run_bind,Result.andThen,dI,q0.cells,q1.cells,Tryz.zeroValue158,U_158,Z_3,Z_32]
theorem oG (a:Addr) (w:World):(Instr.fieldAt 158 (.pointer (some a)) 0).run Tryz.prog w = .ok (.pointer (some (a.add 0))) w:=by
 simp [Instr.fieldAt,Instr.sureAddr,fieldPlace,Sem.run_bind,Result.andThen,U_158,Z_3]
theorem vS (a:Addr) (w:World):(Instr.fieldAt 158 (.pointer (some a)) 1).run Tryz.prog w = .ok (.pointer (some (a.add 1))) w:=by
 simp [Instr.fieldAt,Instr.sureAddr,fieldPlace,Sem.run_bind,Result.andThen,U_158,Z_3]
theorem vT (a:Addr) (w:World):(Instr.fieldAt 158 (.pointer (some a)) 2).run Tryz.prog w = .ok (.pointer (some (a.add 2))) w:=by
 simp [Instr.fieldAt,Instr.sureAddr,fieldPlace,Sem.run_bind,Result.andThen,U_158,Z_32]
theorem Le:Tryz.prog.info? 158 = some Tryz.t158:=by kernel_rfl
theorem Sb:Tryz.prog.underlying 151 = some (.slice 158):=by kernel_rfl
end
section
open Go Go.RowKit
open Fl
abbrev Jf (x:Pd):Ty:=dE [aF .i64 x.m,aF .i64 x.n,aC (decide (x.f.a < 0)),aB x.f.a.natAbs,aC (decide (x.f.b < 0)),aB x.f.b.natAbs,aB (du x.f)]
abbrev Dd (x:Pd):Ty:=dE [aF .i64 x.m,aF .i64 x.n,aC (decide (x.f.a < 0)),aB x.f.a.natAbs,aC (decide (x.f.b < 0)),aB x.f.b.natAbs,aB x.f.den]
abbrev Tt (l:List Pd):Ty:=kM 7 (l.map Jf)
abbrev Sh (l:List Pd):Ty:=kM 7 (l.map Dd)
abbrev Ys:Ty:=zY Tryz.prog {n:Int // -15 ≤ n ∧ n ≤ 15} (fun n=>[aF .i64 n.1]) (fun n=>aF .i64 (sz n.1))
def Nv : List Int → Int
 | []=>0
 | x :: r=>if x ≠ 0 then x else Nv r
theorem Mi : ∀ {l : List Int} {k : Nat} {x : Int}, l[k]? = some x → x ≠ 0 → (∀ (i : Nat) (y : Int), i < k → l[i]? = some y → y = 0) → Nv l = x
 | y :: r,0,x,h,hx,_=>by simp at h; subst h; rw [Nv,if_pos hx]
 | y :: r, k + 1, x, h, hx, hn => by
  have h0:=hn 0 y zo rfl
  rw [Nv,if_neg (fun h=>h h0)]
  exact Mi (k:=k) (by simpa using h) hx (fun i z hi hz=>hn (i + 1) z zo (by simpa using hz))
theorem Ca : ∀ {l : List Int}, (∀ (i : Nat) (y : Int), l[i]? = some y → y = 0) → Nv l = 0
 | [],_=>rfl
 | y :: r, hn => by
  have h0:=hn 0 y rfl
  rw [Nv,if_neg (fun h=>h h0)]
  exact Ca (fun i z hz=>hn (i + 1) z (by simpa using hz))
theorem Zr (a b c:Int):Nv [a,b,c] = if a ≠ 0 then a else if b ≠ 0 then b else c:=by
 by_cases ha:a = 0 <;> by_cases hb:b = 0 <;> by_cases hc:c = 0 <;> simp [Nv,ha,hb,hc]
theorem Xq {x y:Pd} (hx:Re x.f) (hy:Re y.f):Nv [nR x.f y.f,dH (sz x.m + sz x.n) (sz y.m + sz y.n),dH x.m y.m] = Nu x y:=by
 rw [pI hx.b hy.b,Zr]; rfl
theorem Zg (L : Nat) : Go.Sort.SWO (Go.Proofs.ltOf fun x y : {x : Pd // Da L x} => Nu x.1 y.1) :=
 ⟨fun x=>Fc x.1,fun x y z=>Js (x:=x.1) (y:=y.1) (z:=z.1),fun x y z=>yN (x:=x.1) (y:=y.1) (z:=z.1)⟩
theorem Fk {a:Int}:bB Tryz.prog 234 [aF .i64 a] (aC false):=by
 refine bB.intro Tryz.func234 rfl Tryz.ntmps234 rfl (fun cx=>(ts (ro rfl (cQ cV) (eX (ts (rm rfl (rm rfl (ro rfl (jH (Ht rfl) (Ht rfl)) (ra rfl (eX (fW rfl (fX (eU rfl) ?_))))))))))))
 exact (gF (by simp))
theorem vD {a b:Int}:bB Tryz.prog 176 [aF .i64 a,aF .i64 b] (aF .i64 (dH a b)):=by
 refine bB.intro Tryz.func176 rfl Tryz.ntmps176 rfl (fun cx=>(ts (ro rfl (cQ (cJ 0)) (eX (ts (rm rfl (ro rfl (cZ Tryz.call234 Fk ⟨(Ht rfl),trivial⟩) (ra rfl (eX (ts (rm rfl (ro rfl (cZ Tryz.call234 Fk ⟨(Ht rfl),trivial⟩) (ra rfl (eX (cK (ts (rm rfl (eX (mD (Ht rfl) rfl (cU (cK (ts (rm rfl (eX (mD (Ht rfl) rfl (cU (cK (ts (rm rfl (rm rfl (ro rfl (iK (Ht rfl) (Ht rfl)) (eX (dQ (Ht rfl) (fun hb=>?_) (fun hb=>?_))))))))))))))))))))))))))))))))))
 ·simp only [decide_eq_true_eq] at hb
  refine ts (ro rfl (cQ cV) (eX (fW rfl (fX (eU rfl) ?_))))
  exact (aN (by simp [dH,hb]))
 ·simp only [decide_eq_false_iff_not] at hb
  refine cU (cK (ts (rm rfl (rm rfl (ro rfl (kH (Ht rfl) (Ht rfl)) (eX (dQ (Ht rfl) (fun hc=>?_) (fun hc=>?_))))))))
  ·simp only [decide_eq_true_eq] at hc
   refine ts (ro rfl (cQ (cJ 1)) (eX (fW rfl (fX (eU rfl) ?_))))
   exact (aN (by simp [dH,hb,hc]))
  ·simp only [decide_eq_false_iff_not] at hc
   refine cU (ts (ro rfl (cQ (cJ 0)) (eX (fW rfl (fX (eU rfl) ?_)))))
   exact (aN (by simp [dH,hb,hc]))
theorem Yx {l:List Int} (hl:l.length ≤ 1000000):bB Tryz.prog 175 [kM 1 (l.map (aF .i64))] (aF .i64 (Nv l)):=by
 refine bB.intro Tryz.func175 rfl Tryz.ntmps175 rfl (fun cx=>(ts (ro rfl (cQ (cJ 0)) (eX (ts (ro rfl (cQ (cJ 0)) (eX (cK (ts (rm rfl (ro rfl (dG U_283 (Ht rfl) aA) (ro rfl (cX (cJ 0)) (eX (eG ?_))))))))))))))
 refine eP (fun (k : Nat) => k ≤ l.length ∧ ∀ (i : Nat) (y : Int), i < k → l[i]? = some y → y = 0) (fun (k : Nat) => l.length - k) (fun (k : Nat) => [(0, kM 1 (l.map (aF .i64))), (3, aF .i64 0), (6, kM 1 (l.map (aF .i64))), (7, NT .i64 l.length), (8, NT .i64 k)]) (fun (k : Nat) => []) 0 ⟨Nat.zero_le _, fun i y h => by omega⟩
  (zS rfl) aY (fun k ⟨hk,hn⟩=>?_)
 refine ts (ro rfl (gX (Ht rfl) (Ht rfl)) (eX (cK (dQ (Ht rfl) (fun hb=>?_) (fun hb=>?_)))))
 ·simp only [decide_eq_true_eq] at hb
  refine cU (cK (eG (ts (ro rfl (dZ U_283 Z_3 (Ht rfl) (Ht rfl) rfl (dY (tW hb))) (ro rfl (dJ A_3 Z_3 (Ht rfl)) (ra rfl (eX (ts (rm rfl (rm rfl (ro rfl (jH (Ht rfl) (Ht rfl)) (eX (dQ (Ht rfl) (fun hc=>?_) (fun hc=>?_))))))))))))))
  ·have hc2 : ¬ l[k] = 0 := by simpa using hc
   refine ts (rm rfl (ra rfl (eX (fW rfl (fX (eU rfl) ?_)))))
   exact (aN (Mi (tW hb) hc2 hn).symm)
  ·have hc2 : l[k] = 0 := by simpa using hc
   refine cU (bF (cY (ro rfl (dV (Ht rfl) (cJ 1) z6) (rm rfl (eX ?_)))))
   refine fU (k + 1) ⟨hb, fun i y h1 h2 => by
    by_cases e:i = k
    ·subst e; rw [tW hb] at h2; obtain rfl:=Option.some.inj h2; exact hc2
    ·exact hn i y zo h2⟩ zo (zS rfl) aY
 ·simp only [decide_eq_false_iff_not] at hb
  refine gV rfl (ts (rm rfl (ra rfl (eX (fW rfl (fX (eU rfl) ?_))))))
  exact (aN (Ca (fun i y h=>hn i y (by have:=(List.getElem?_eq_some_iff.1 h).1; omega) h)).symm)
theorem Oz {n:Int} (h:-15 ≤ n ∧ n ≤ 15):bB Tryz.prog 172 [aF .i64 n] (aF .i64 (sz n)):=by
 refine bB.intro Tryz.func172 rfl Tryz.ntmps172 rfl (fun cx=>(ts (ro rfl (cQ (cJ 0)) (eX (ts (rm rfl (rm rfl (ro rfl (qQ (Ht rfl) (nO zo)) (ro rfl (Qr (Ht rfl) (Ht rfl)) (ra rfl (eX (fW rfl (fX (eU rfl) ?_)))))))))))))
 exact (aN rfl)
theorem Oq {x y:Pd} {L:Nat} (hx:Da L x) (hy:Da L y) (hL:L ≤ 1000000):bB Tryz.prog 174 [Jf x,Jf y,PT Ys] (aF .i64 (Nu x y)):=by
 haveI:=hx.fit; haveI:=hy.fit
 have bm:∀ m:Int,-15 ≤ m → m ≤ 15 → 0 ≤ sz m ∧ sz m ≤ 15:=fun m h1 h2=>by unfold sz; omega
 obtain ⟨b1,b1'⟩:=bm _ hx.m1 hx.m2; obtain ⟨b2,b2'⟩:=bm _ hx.n1 hx.n2; obtain ⟨b3,b3'⟩:=bm _ hy.m1 hy.m2; obtain ⟨b4,b4'⟩:=bm _ hy.n1 hy.n2
 refine bB.intro Tryz.func174 rfl Tryz.ntmps174 rfl (fun cx=>(ts (rn rfl (fG (Ht rfl)) fun B3=>(rn rfl (fG (Ht rfl)) fun B4=>(ro rfl (cQ (cJ 0)) (eX (cK (fZ (m:=28) (dp 3 rfl (eZ vT (Ht rfl) rfl) (dq 6 0 rfl (eJ A_32 Z_32 (Ht rfl) (i:=0) rfl rfl rfl) (dp 4 rfl (eZ vT (Ht rfl) rfl) (dq 8 2 rfl (eJ A_32 Z_32 (Ht rfl) (i:=1) rfl rfl rfl) (cP 7 1 9 3 rfl (cZ K_30 (tE (x:=x.f) (y:=y.f) (L:=L) (M:=L) zo) ⟨(Ht rfl),(Ht rfl),trivial⟩) (dp 2 rfl (dJ A_255 Z_255 (Ht rfl)) ?_))))))))))))))
 refine dp 3 rfl (eZ oG (Ht rfl) rfl) (dq 12 6 rfl (eY A_3 Z_3 (Ht rfl) (i:=0) rfl rfl) (cP 11 5 13 7 rfl (aM.imp (U:=aF .i64 (sz x.m)) (jW (γ:={n:Int // -15 ≤ n ∧ n ≤ 15}) (Ts:=fun n=>[aF .i64 n.1]) (U:=fun n=>aF .i64 (sz n.1)) ⟨x.m,⟨hx.m1,hx.m2⟩⟩ (Ht rfl) ⟨(Ht rfl),trivial⟩) (fun v V h=>h)) (dp 2 rfl (dJ A_255 Z_255 (Ht rfl)) (dp 3 rfl (eZ vS (Ht rfl) rfl) (dq 16 10 rfl (eY A_3 Z_3 (Ht rfl) (i:=0) rfl rfl) (cP 15 9 17 11 rfl (aM.imp (U:=aF .i64 (sz x.n)) (jW (γ:={n:Int // -15 ≤ n ∧ n ≤ 15}) (Ts:=fun n=>[aF .i64 n.1]) (U:=fun n=>aF .i64 (sz n.1)) ⟨x.n,⟨hx.n1,hx.n2⟩⟩ (Ht rfl) ⟨(Ht rfl),trivial⟩) (fun v V h=>h)) ?_))))))
 refine cP 14 8 18 12 rfl (kG (Ht rfl) (Ht rfl) (nO zo)) (dp 2 rfl (dJ A_255 Z_255 (Ht rfl)) (dp 4 rfl (eZ oG (Ht rfl) rfl) (dq 21 15 rfl (eY A_3 Z_3 (Ht rfl) (i:=1) rfl rfl) (cP 20 14 22 16 rfl (aM.imp (U:=aF .i64 (sz y.m)) (jW (γ:={n:Int // -15 ≤ n ∧ n ≤ 15}) (Ts:=fun n=>[aF .i64 n.1]) (U:=fun n=>aF .i64 (sz n.1)) ⟨y.m,⟨hy.m1,hy.m2⟩⟩ (Ht rfl) ⟨(Ht rfl),trivial⟩) (fun v V h=>h)) (dp 2 rfl (dJ A_255 Z_255 (Ht rfl)) (dp 4 rfl (eZ vS (Ht rfl) rfl) (dq 25 19 rfl (eY A_3 Z_3 (Ht rfl) (i:=1) rfl rfl) ?_)))))))
 refine cP 24 18 26 20 rfl (aM.imp (U:=aF .i64 (sz y.n)) (jW (γ:={n:Int // -15 ≤ n ∧ n ≤ 15}) (Ts:=fun n=>[aF .i64 n.1]) (U:=fun n=>aF .i64 (sz n.1)) ⟨y.n,⟨hy.n1,hy.n2⟩⟩ (Ht rfl) ⟨(Ht rfl),trivial⟩) (fun v V h=>h)) (cP 23 17 27 21 rfl (kG (Ht rfl) (Ht rfl) (nO zo)) (cP 19 13 28 22 rfl (cZ Tryz.call176 (vD (a:=sz x.m + sz x.n) (b:=sz y.m + sz y.n)) ⟨(Ht rfl),(Ht rfl),trivial⟩) (dp 3 rfl (eZ oG (Ht rfl) rfl) (dq 30 24 rfl (eY A_3 Z_3 (Ht rfl) (i:=0) rfl rfl) (dp 4 rfl (eZ oG (Ht rfl) rfl) ?_)))))
 refine dq 32 26 rfl (eY A_3 Z_3 (Ht rfl) (i:=1) rfl rfl) (fV mixed rfl (by kernel_rfl) (zF (zF (zF (zF (zF (zF (zF (aV (ro rfl (cZ Tryz.call176 (vD (a:=x.m) (b:=y.m)) ⟨(Ht rfl),(Ht rfl),trivial⟩) (ro rfl (cH (xs:=[.tmp 10,.tmp 29,.tmp 34]) U_283 Z_3 Tryz.zeroValue3 (cW (Ht rfl) (cW (Ht rfl) (cW (Ht rfl) cG))) rfl rfl rfl) ?_)))))))))))
 refine ro rfl (cZ Tryz.call175 (eQ (Yx (l:=[nR x.f y.f,dH (sz x.m + sz x.n) (sz y.m + sz y.n),dH x.m y.m]) (by simp)) (aN (Xq hx.re hy.re))) ⟨(Ht rfl),trivial⟩) ?_
 refine ra rfl (eX ?_)
 exact fW rfl (eU rfl)
theorem Dn {f g lo hi:Qi} {o:Int} {L:Nat} (hf:aL f L) (hg:aL g L) (hlo:aL lo L) (hhi:aL hi L) (hL:L ≤ 100000):bB Tryz.prog 74 [bA f,bA g,bA lo,bA hi,aF .i64 o] (fT [Tt (jJ f g lo hi o),aF .i64 (kV f g lo hi o)]):=by
 haveI:=hf; haveI:=hg; haveI:=hlo; haveI:=hhi
 refine bB.intro Tryz.func74 rfl Tryz.ntmps74 rfl (fun cx=>(ts (rn rfl (fG (Ht rfl)) fun B5=>(rn rfl (fG (Ht rfl)) fun B6=>(rn rfl (fG (Ht rfl)) fun B7=>(rn rfl (fG (Ht rfl)) fun B8=>(ro rfl (cQ cV) (ro rfl (cQ (cJ 0)) (eX (cK (ts (ro rfl (eJ A_32 Z_32 (Ht rfl) (i:=0) rfl rfl rfl) (ro rfl (cZ Tryz.call94 (rA (x:=f) (L:=L) zo) ⟨(Ht rfl),trivial⟩) (ro rfl (eN (Ht rfl)) (rm rfl (fQ rfl rfl (eK rfl rfl (Ht rfl) (fun h=>eJ A_32 Z_32 (Ht rfl) (i:=1) rfl rfl rfl)) ?_))))))))))))))))
 refine fQ rfl rfl (eK rfl rfl (Ht rfl) (fun h=>cZ Tryz.call94 (rA (x:=g) (L:=L) zo) ⟨(fJ rfl h),trivial⟩)) (fQ rfl rfl (eK rfl rfl (Ht rfl) (fun h=>eN (fJ rfl h))) (ro rfl (eE (Ht rfl) (fun h=>(fJ rfl h))) (rm rfl (fQ rfl rfl (eK rfl rfl (Ht rfl) (fun h=>eJ A_32 Z_32 (Ht rfl) (i:=2) rfl rfl rfl)) (fQ rfl rfl (eK rfl rfl (Ht rfl) (fun h=>cZ K_35 (qN (x:=lo)) ⟨(fJ rfl h),trivial⟩)) (fQ rfl rfl (eK rfl rfl (Ht rfl) (fun h=>eN (fJ rfl h))) (ro rfl (eE (Ht rfl) (fun h=>(fJ rfl h))) ?_)))))))
 refine rm rfl (fQ rfl rfl (eK rfl rfl (Ht rfl) (fun h=>eJ A_32 Z_32 (Ht rfl) (i:=3) rfl rfl rfl)) (fQ rfl rfl (eK rfl rfl (Ht rfl) (fun h=>cZ K_35 (qN (x:=hi)) ⟨(fJ rfl h),trivial⟩)) (fQ rfl rfl (eK rfl rfl (Ht rfl) (fun h=>eN (fJ rfl h))) (ro rfl (eE (Ht rfl) (fun h=>(fJ rfl h))) (rm rfl (fQ rfl rfl (eK rfl rfl (Ht rfl) (fun h=>cX (Ht rfl))) (fQ rfl rfl (eK rfl rfl (Ht rfl) (fun h=>iK (fJ rfl h) cV)) (ro rfl (eE (Ht rfl) (fun h=>(fJ rfl h))) (rm rfl ?_)))))))))
 refine fQ rfl rfl (eK rfl rfl (Ht rfl) (fun h=>cX (Ht rfl))) (fQ rfl rfl (eK rfl rfl (Ht rfl) (fun h=>kH (fJ rfl h) cV)) (ro rfl (eE (Ht rfl) (fun h=>(fJ rfl h))) (eX (dQ (Ht rfl) (fun hb=>?_) (fun hb=>?_)))))
 ·have he : kV f g lo hi o = 1 := rT hb
  refine ts (ro rfl (cQ cV) (ro rfl (cQ (cJ 1)) (eX (bI rfl (fX (eU rfl) ?_) (fX (eU rfl) ?_)))))
  ·exact (fun v V h=>by rw [rS (by rw [he]; decide)]; exact kN v V h)
  ·exact (aN he.symm)
 ·have hb2 : qL f g lo hi o = false := hb
  obtain ⟨pf1,pg1,l0,h0,o1,o2⟩:=yL hb2
  refine cU (cK (ts (ro rfl (eJ A_32 Z_32 (Ht rfl) (i:=2) rfl rfl rfl) (ro rfl (eJ A_32 Z_32 (Ht rfl) (i:=3) rfl rfl rfl) (ro rfl (cZ K_30 (tE (x:=lo) (y:=hi) (L:=L) (M:=L) zo) ⟨(Ht rfl),(Ht rfl),trivial⟩) (ro rfl (kH (Ht rfl) cV) (eX (dQ (Ht rfl) (fun hgt=>?_) (fun hgt=>?_)))))))))
  ·simp only [decide_eq_true_eq] at hgt
   have he:kV f g lo hi o = 7:=Cf hb2 hgt
   refine ts (ro rfl (cQ cV) (ro rfl (cQ (cJ 7)) (eX (bI rfl (fX (eU rfl) ?_) (fX (eU rfl) ?_)))))
   ·exact (fun v V h=>by rw [rS (by rw [he]; decide)]; exact kN v V h)
   ·exact (aN he.symm)
  ·simp only [decide_eq_false_iff_not] at hgt
   have he:kV f g lo hi o = 0:=Ha hb2 hgt
   obtain ⟨q,rfl⟩:∃ q:Nat,o = q:=⟨o.toNat,by omega⟩
   have rf:=Fl.pos_re pf1
   have rg:=Fl.pos_re pg1
   have g0:0 < g.re:=Fl.posQ_pos pg1
   refine cU (ts (rn rfl (eW (Ts:=[Is (.nilFunc)]) Tryz.zeroValue255 rfl (fun V=>aW zd (aG))) fun B12=>(iX Z_255 (Ht rfl) (aT.fn Tryz.call172 (γ:={n:Int // -15 ≤ n ∧ n ≤ 15}) (Ts:=fun n=>[aF .i64 n.1]) (U:=fun n=>aF .i64 (sz n.1)) (fun n=>Oz n.2)) (i:=4) rfl (aK rfl) rfl (eX (cK (gJ (i:=4) (tt:=12) rfl rfl vX (cY (ro rfl (cQ cV) (eX (cK (cK (Af 158 7 (cY (rm rfl (ro rfl (qQ (Ht rfl) (nO zo)) (ra rfl (eX (eG ?_))))))))))))))))))
   refine eD [0,1,2,3,5] rfl (by decide) ?_
   refine dP (fun (i : Nat) (v : Value) => i ≤ 2 * q + 1) (fun (i : Nat) (v : Value) => 2 * q + 1 - i) (fun (i : Nat) (v : Value) => [(4, aF .i64 (q : Int)), (5, bT B5 0), (6, bT B6 0), (7, bT B7 0), (8, bT B8 0), (12, PT Ys), (13, Is v), (14, aF .i64 (-(q : Int) + i))]) (fun (i : Nat) (v : Value) => [box B5 32 [aC (decide (f.a < 0)), aB f.a.natAbs, aC (decide (f.b < 0)), aB f.b.natAbs, aB (du f)], box B6 32 [aC (decide (g.a < 0)), aB g.a.natAbs, aC (decide (g.b < 0)), aB g.b.natAbs, aB (du g)], box B7 32 [aC (decide (lo.a < 0)), aB lo.a.natAbs, aC (decide (lo.b < 0)), aB lo.b.natAbs, aB (du lo)], box B8 32 [aC (decide (hi.a < 0)), aB hi.a.natAbs, aC (decide (hi.b < 0)), aB hi.b.natAbs, aB (du hi)], bE 158 7 v ((iF (qS f g lo hi q) (-(q : Int)) i).map Jf)]) 0 (.slice none 0 0) (Nat.zero_le _)
    (aQ rfl (aQ rfl (aQ rfl (aQ rfl (aQ rfl (aQ rfl (aQ rfl (aZ rfl (aN (by simp)) aX)))))))) (aU (aD rfl) (aU (aD rfl) (aU (aD rfl) (aU (aD rfl) (aU (bN rfl) aY))))) (fun i v hi1=>?_)
   refine cK (ts (rm rfl (rm rfl (ro rfl (nM (Ht rfl) (Ht rfl)) (eX (dQ (Ht rfl) (fun hc=>?_) (fun hc=>?_)))))))
   ·simp only [decide_eq_true_eq] at hc
    obtain ⟨m,hm⟩:∃ m:Int,m = -(q:Int) + i:=⟨_,rfl⟩
    have hm1:-15 ≤ m ∧ m ≤ 15:=by omega
    obtain ⟨k,hk⟩:∃ k:Nat,sz m = k:=⟨(sz m).toNat,by have:=Cv m; omega⟩
    have hkq:k ≤ q:=by have h9:sz m = max m (-m):=rfl; omega
    haveI fm:=xP hm1.1 hm1.2
    refine lQ (E':=[(4,_),(5,_),(6,_),(7,_),(8,_),(12,_),(13,_),(14,_),(49,_),(50,_),(51,_)]) (aQ rfl (aQ rfl (aQ rfl (aQ rfl (aQ rfl (aQ rfl (aQ rfl (aZ rfl (aN hm.symm) (zS rfl))))))))) (cU (cK (eG (ts (ro rfl (dJ A_255 Z_255 (Ht rfl)) (rm rfl (ro rfl (aM.imp (U:=aF .i64 (sz m)) (jW (γ:={n:Int // -15 ≤ n ∧ n ≤ 15}) (Ts:=fun n=>[aF .i64 n.1]) (U:=fun n=>aF .i64 (sz n.1)) ⟨m,hm1⟩ (Ht rfl) ⟨(Ht rfl),trivial⟩) (fun v V h=>h)) ?_)))))))
    refine rm rfl (ro rfl (eR (Ht rfl) (Ht rfl) (nO (by rw [hk]; omega))) ?_)
    refine ra rfl (eX (eG ?_))
    refine dP (fun (j : Nat) (v2 : Value) => j ≤ 2 * (q - k) + 1) (fun (j : Nat) (v2 : Value) => 2 * (q - k) + 1 - j) (fun (j : Nat) (v2 : Value) => [(4, aF .i64 (q : Int)), (5, bT B5 0), (6, bT B6 0), (7, bT B7 0), (8, bT B8 0), (12, PT Ys), (13, Is v2), (14, aF .i64 m), (15, aF .i64 ((k : Int) - q + j))]) (fun (j : Nat) (v2 : Value) => [box B5 32 [aC (decide (f.a < 0)), aB f.a.natAbs, aC (decide (f.b < 0)), aB f.b.natAbs, aB (du f)], box B6 32 [aC (decide (g.a < 0)), aB g.a.natAbs, aC (decide (g.b < 0)), aB g.b.natAbs, aB (du g)], box B7 32 [aC (decide (lo.a < 0)), aB lo.a.natAbs, aC (decide (lo.b < 0)), aB lo.b.natAbs, aB (du lo)], box B8 32 [aC (decide (hi.a < 0)), aB hi.a.natAbs, aC (decide (hi.b < 0)), aB hi.b.natAbs, aB (du hi)], bE 158 7 v2 ((iF (qS f g lo hi q) (-(q : Int)) i ++ iF (Gm f g lo hi m) ((k : Int) - q) j).map Jf)]) 0 v (Nat.zero_le _)
     (aQ rfl (aQ rfl (aQ rfl (aQ rfl (aQ rfl (aQ rfl (aQ rfl (aQ rfl (aZ rfl (aN (by rw [hk]; simp)) aX))))))))) (aU (aD rfl) (aU (aD rfl) (aU (aD rfl) (aU (aD rfl) (aU (bN (by simp [iF])) aY))))) (fun j v2 hj1=>?_)
    refine cK (ts (rm rfl (rm rfl (ro rfl (dJ A_255 Z_255 (Ht rfl)) (rm rfl (ro rfl (aM.imp (U:=aF .i64 (sz m)) (jW (γ:={n:Int // -15 ≤ n ∧ n ≤ 15}) (Ts:=fun n=>[aF .i64 n.1]) (U:=fun n=>aF .i64 (sz n.1)) ⟨m,hm1⟩ (Ht rfl) ⟨(Ht rfl),trivial⟩) (fun v V h=>h)) (ro rfl (eR (Ht rfl) (Ht rfl) (nO (by rw [hk]; omega))) ?_)))))))
    refine ro rfl (nM (Ht rfl) (Ht rfl)) (eX (dQ (Ht rfl) (fun hd=>?_) (fun hd=>?_)))
    ·simp only [decide_eq_true_eq] at hd
     rw [hk] at hd
     obtain ⟨n,hn⟩:∃ n:Int,n = (k:Int) - q + j:=⟨_,rfl⟩
     have hn1:-15 ≤ n ∧ n ≤ 15:=by omega
     haveI fn:=xP hn1.1 hn1.2
     haveI fp:aL (f * Qi.ofInt m + g * Qi.ofInt n) (2 * L + 8):=zP (m:=m) (n:=n) hf hg hm1.1 hm1.2 hn1.1 hn1.2
     refine lQ (E':=[(4,_),(5,_),(6,_),(7,_),(8,_),(12,_),(13,_),(14,_),(15,_),(59,_),(60,_),(61,_),(62,_),(63,_),(64,_),(65,_)]) (aQ rfl (aQ rfl (aQ rfl (aQ rfl (aQ rfl (aQ rfl (aQ rfl (aQ rfl (aZ rfl (aN hn.symm) (zS rfl)))))))))) (cU (cK (eG (cK (fZ (m:=10) (dp 5 rfl (eJ A_32 Z_32 (Ht rfl) (i:=0) rfl rfl rfl) (dp 14 rfl (cX (Ht rfl)) (dq 69 1 rfl (cZ K_36 (qC (n:=m) zo zo) ⟨(Ht rfl),trivial⟩) ?_))))))))
     refine cP 68 0 70 2 rfl (cZ K_29 (lR (x:=f) (y:=Qi.ofInt m) (L:=L) (M:=2) zo) ⟨(Ht rfl),(Ht rfl),trivial⟩) (dp 6 rfl (eJ A_32 Z_32 (Ht rfl) (i:=1) rfl rfl rfl) (dp 15 rfl (cX (Ht rfl)) (dq 73 5 rfl (cZ K_36 (qC (n:=n) zo zo) ⟨(Ht rfl),trivial⟩) (cP 72 4 74 6 rfl (cZ K_29 (lR (x:=g) (y:=Qi.ofInt n) (L:=L) (M:=2) zo) ⟨(Ht rfl),(Ht rfl),trivial⟩) (cP 71 3 75 7 rfl (cZ Tryz.call33 (Fh (x:=f * Qi.ofInt m) (y:=g * Qi.ofInt n) (L:=L + 2 + 1) (M:=L + 2 + 1) zo) ⟨(Ht rfl),(Ht rfl),trivial⟩) ?_)))))
     refine C.D_new (Ei:=[]) rfl rfl rfl bW (eW (Ts:=[Is (.bool false),Is (.slice none 0 0),Is (.bool false),Is (.slice none 0 0),Is (.slice none 0 0)]) O_32 rfl (fun V=>aW zd (aW zd (aW zd (aW zd (aW zd (aG))))))) (fV mixed rfl (by kernel_rfl) (zF (zF (aJ (C.F_new (fun B16=>aV (gQ Z_32 (Ht rfl) (Ht rfl) rfl (i:=5) rfl (aK rfl) rfl rfl ?_)))))))
     refine eX (cK (eD [0,1,2,3,4,5] rfl (by decide) (cY (rm rfl (ro rfl (jH (Ht rfl) cV) (rm rfl (fQ rfl rfl (eK rfl rfl (Ht rfl) (fun h=>cX (Ht rfl))) (fQ rfl rfl (eK rfl rfl (Ht rfl) (fun h=>jH (fJ rfl h) cV)) (ro rfl (eE (Ht rfl) (fun h=>(fJ rfl h))) (rm rfl (fQ rfl rfl (eK rfl rfl (Ht rfl) (fun h=>eJ A_32 Z_32 (Ht rfl) (i:=5) rfl rfl rfl)) (fQ rfl rfl (eK rfl rfl (Ht rfl) (fun h=>cZ Tryz.call94 (rA (x:=(f * Qi.ofInt m + g * Qi.ofInt n)) (L:=2 * L + 8) zo) ⟨(fJ rfl h),trivial⟩)) ?_))))))))))))
     refine ro rfl (eA (Ht rfl) (fun h=>(fJ rfl h))) (rm rfl (fQ rfl rfl (eK rfl rfl (Ht rfl) (fun h=>eJ A_32 Z_32 (Ht rfl) (i:=5) rfl rfl rfl)) (fQ rfl rfl (eK rfl rfl (Ht rfl) (fun h=>eJ A_32 Z_32 (Ht rfl) (i:=2) rfl rfl rfl)) (fQ rfl rfl (eK rfl rfl (Ht rfl) (fun h=>cZ K_30 (tE (x:=(f * Qi.ofInt m + g * Qi.ofInt n)) (y:=lo) (L:=2 * L + 8) (M:=L) zo) ⟨(fJ rfl h),(fJ rfl h),trivial⟩)) (fQ rfl rfl (eK rfl rfl (Ht rfl) (fun h=>jX (fJ rfl h) cV)) (ro rfl (eA (Ht rfl) (fun h=>(fJ rfl h))) ?_))))))
     refine rm rfl (fQ rfl rfl (eK rfl rfl (Ht rfl) (fun h=>eJ A_32 Z_32 (Ht rfl) (i:=5) rfl rfl rfl)) (fQ rfl rfl (eK rfl rfl (Ht rfl) (fun h=>eJ A_32 Z_32 (Ht rfl) (i:=3) rfl rfl rfl)) (fQ rfl rfl (eK rfl rfl (Ht rfl) (fun h=>cZ K_30 (tE (x:=(f * Qi.ofInt m + g * Qi.ofInt n)) (y:=hi) (L:=2 * L + 8) (M:=L) zo) ⟨(fJ rfl h),(fJ rfl h),trivial⟩)) (fQ rfl rfl (eK rfl rfl (Ht rfl) (fun h=>nM (fJ rfl h) cV)) (ro rfl (eA (Ht rfl) (fun h=>(fJ rfl h))) (eX ?_))))))
     refine dQ (Ht rfl) (fun hh=>?_) (fun hh=>?_)
     ·have hok : Eb f g lo hi m n = true := hh
      have hqq:q ≤ 15:=by omega
      refine cY (rm rfl (rm rfl (rm rfl (ro rfl (eJ A_32 Z_32 (Ht rfl) (i:=5) rfl rfl rfl) (ro rfl (wU (Ht rfl) (Ht rfl) (Ht rfl)) (ro rfl (cH (xs:=[.tmp 103]) U_151 Z_158 Tryz.zeroValue158 (cW (Ht rfl) cG) rfl rfl rfl) (qX (inf:=Tryz.t158) Sb Le rfl rfl rfl (Ht rfl) (Ht rfl) (i:=4) rfl (by simp) (fun T hT=>by simp at hT; subst hT; exact El.ag rfl) (by show _ * 104 ≤ _; have:=Hc (f:=f) (g:=g) (lo:=lo) (hi:=hi) (k:=k) (m:=m) hqq hi1 hj1; simp only [List.length_map,List.length_cons,List.length_nil]; omega) (by have:=Hc (f:=f) (g:=g) (lo:=lo) (hi:=hi) (k:=k) (m:=m) hqq hi1 hj1; simp only [List.length_map,List.length_cons,List.length_nil]; omega) rfl (fun v3=>?_))))))))
      refine ra rfl (eX (bF (cY (rm rfl (ro rfl (kG (Ht rfl) cV (nO zo)) (ra rfl (eX (eD [0,1,2,3,4] rfl (by decide) (fU (j + 1,v3) (by dsimp only; omega) (by dsimp only; omega) (aQ rfl (aQ rfl (aQ rfl (aQ rfl (aQ rfl (aQ rfl (aQ rfl (aQ rfl (aZ rfl (aN zo) aX))))))))) (aU (aD rfl) (aU (aD rfl) (aU (aD rfl) (aU (aD rfl) (aU (bN (by rw [nY,← hn,Gm,if_pos hok,List.map_append,List.map_append,List.map_append,List.append_assoc]; rfl)) aY))))))))))))))
     ·have hok : Eb f g lo hi m n = false := hh
      refine cU (bF (cY (rm rfl (ro rfl (kG (Ht rfl) cV (nO zo)) (ra rfl (eX (eD [0,1,2,3,4] rfl (by decide) (fU (j + 1,v2) (by dsimp only; omega) (by dsimp only; omega) (aQ rfl (aQ rfl (aQ rfl (aQ rfl (aQ rfl (aQ rfl (aQ rfl (aQ rfl (aZ rfl (aN zo) aX))))))))) (aU (aD rfl) (aU (aD rfl) (aU (aD rfl) (aU (aD rfl) (aU (bN (by rw [nY,← hn,Gm,if_neg (by rw [hok]; decide),List.append_nil])) aY)))))))))))))
    ·simp only [decide_eq_false_iff_not] at hd
     rw [hk] at hd
     have hj2:j = 2 * (q - k) + 1:=by omega
     subst hj2
     refine gV rfl (bF (cY (rm rfl (ro rfl (kG (Ht rfl) cV (nO zo)) (ra rfl (eX (fU (i + 1,v2) (by dsimp only; omega) (by dsimp only; omega) (aQ rfl (aQ rfl (aQ rfl (aQ rfl (aQ rfl (aQ rfl (aQ rfl (aZ rfl (aN zo) aX)))))))) (aU (aD rfl) (aU (aD rfl) (aU (aD rfl) (aU (aD rfl) (aU (bN (by show _ = List.map Jf (iF (qS f g lo hi q) (-(q:Int)) i ++ qS f g lo hi q (-(q:Int) + i)); rw [← hm,qS,hk,Int.toNat_natCast])) aY))))))))))))
   ·simp only [decide_eq_false_iff_not] at hc
    have hi2:i = 2 * q + 1:=by omega
    subst hi2
    have hqq:q ≤ 15:=by omega
    have hgl:=Gf (f:=f) (g:=g) (lo:=lo) (hi:=hi) hqq
    obtain ⟨l,hl⟩:∃ l:List {x:Pd // Da (2 * L + 8) x},sK f g lo hi q = l.map Subtype.val:=⟨(sK f g lo hi q).attach.map fun x=>⟨x.1,Gg hf hg rf rg hqq x.1 x.2⟩,by rw [List.map_map]; exact (List.attach_map_subtype_val (sK f g lo hi q)).symm⟩
    have hll:l.length ≤ 961:=by rw [hl,List.length_map] at hgl; exact hgl
    refine qJ 4 rfl (bN (show (sK f g lo hi q).map Jf = l.map fun x=>Jf x.1 by rw [hl,List.map_map]; rfl)) (eD [4] rfl (by decide) (gV rfl (ts (rm rfl (ro rfl (zN (γ:={x:Pd // Da (2 * L + 8) x} × {x:Pd // Da (2 * L + 8) x}) (Ts:=fun p=>[Jf p.1.1,Jf p.2.1]) (U:=fun p=>aF .i64 (Nu p.1.1 p.2.1)) Tryz.call174 (fun p=>Oq p.1.2 p.2.2 zo) ⟨(Ht rfl),trivial⟩) (Tw (T:=(fun x:{x:Pd // Da (2 * L + 8) x}=>Jf x.1)) (cf:=(fun x y:{x:Pd // Da (2 * L + 8) x}=>Nu x.1 y.1)) Yh rfl (fun x v V h=>by obtain ⟨cs,rfl,_⟩:=h; exact ⟨_,rfl⟩) Tryz.isAgg158 Z_158 (Zg (2 * L + 8)) Tryz.call173 (Ht rfl) (Ht rfl) (i:=0) rfl zo rfl (fun l2 hp hs=>?_)))))))
    refine eX (cK ?_)
    have hres : jJ f g lo hi q = l2.map Subtype.val := by
     rw [Ce he]
     refine (Nk (Bk rf rg g0) ?_ ?_).symm
     ·rw [hl]; exact hp.map _
     ·unfold Sj; rw [List.pairwise_map]; exact hs
    refine gJ (i:=0) (tt:=13) rfl rfl lE (cY (rm rfl (ra rfl (ro rfl (cQ (cJ 0)) (eX (bI rfl (fX (eU rfl) ?_) (fX (eU rfl) ?_)))))))
    ·exact (oX (by rw [hres,List.map_map]; rfl))
    ·exact (aN he.symm)
def xT (f g:Qi):Qi:=if fL f = true ∧ fL g = true then f * f * f / g else Qi.zero
def Wq (f g:Qi):Int:=if fL f = true ∧ fL g = true then 0 else 1
theorem Gi {f g:Qi} (h:(!fL f || !fL g) = true):xT f g = Qi.zero ∧ Wq f g = 1:=by
 have h2:¬ (fL f = true ∧ fL g = true):=fun k=>by rw [k.1,k.2] at h; cases h
 exact ⟨by rw [xT,if_neg h2],by rw [Wq,if_neg h2]⟩
theorem Gj {f g:Qi} (h:(!fL f || !fL g) = false):xT f g = f * f * f / g ∧ Wq f g = 0:=by
 have h2:fL f = true ∧ fL g = true:=by simpa using h
 exact ⟨by rw [xT,if_pos h2],by rw [Wq,if_pos h2]⟩
theorem Am {f g:Qi} {L:Nat} (hf:aL f L) (hg:aL g L) (hL:L ≤ 100000):bB Tryz.prog 76 [bA f,bA g] (fT [bA (xT f g),aF .i64 (Wq f g)]):=by
 haveI:=hf; haveI:=hg
 refine bB.intro Tryz.func76 rfl Tryz.ntmps76 rfl (fun cx=>(ts (rn rfl (fG (Ht rfl)) fun B2=>(rn rfl (fG (Ht rfl)) fun B3=>(rn rfl (eW (Ts:=[Is (.bool false),Is (.slice none 0 0),Is (.bool false),Is (.slice none 0 0),Is (.slice none 0 0)]) O_32 rfl (fun V=>aW zd (aW zd (aW zd (aW zd (aW zd (aG))))))) fun B4=>(ro rfl (cQ (cJ 0)) (eX (cK (ts (ro rfl (eJ A_32 Z_32 (Ht rfl) (i:=0) rfl rfl rfl) ?_))))))))))
 refine ro rfl (cZ Tryz.call94 (rA (x:=f) (L:=L) zo) ⟨(Ht rfl),trivial⟩) (ro rfl (eN (Ht rfl)) (rm rfl (fQ rfl rfl (eK rfl rfl (Ht rfl) (fun h=>eJ A_32 Z_32 (Ht rfl) (i:=1) rfl rfl rfl)) (fQ rfl rfl (eK rfl rfl (Ht rfl) (fun h=>cZ Tryz.call94 (rA (x:=g) (L:=L) zo) ⟨(fJ rfl h),trivial⟩)) (fQ rfl rfl (eK rfl rfl (Ht rfl) (fun h=>eN (fJ rfl h))) (ro rfl (eE (Ht rfl) (fun h=>(fJ rfl h))) (eX (dQ (Ht rfl) (fun hb=>?_) (fun hb=>?_)))))))))
 ·refine ts (ro rfl (aM.imp (uC ) jV) (gQ Z_32 (Ht rfl) (Ht rfl) rfl (i := 2) rfl (aK rfl) rfl rfl (ro rfl (cQ (cJ 1)) (eX (bI rfl (fX (fK A_32 Z_32 rfl (i := 2) rfl rfl) ?_) (fX (eU rfl) ?_))))))
  ·exact (jF (Gi hb).1.symm)
  ·exact (aN (Gi hb).2.symm)
 ·refine cU (cK (fZ (m := 6) (dp 2 rfl (eJ A_32 Z_32 (Ht rfl) (i := 0) rfl rfl rfl) (dp 2 rfl (eJ A_32 Z_32 (Ht rfl) (i := 0) rfl rfl rfl) (cP 15 0 16 1 rfl (cZ K_29 (lR (x := f) (y := f) (L := L) (M := L) zo) ⟨(Ht rfl), (Ht rfl), trivial⟩) (dp 2 rfl (eJ A_32 Z_32 (Ht rfl) (i := 0) rfl rfl rfl) (cP 17 2 18 3 rfl (cZ K_29 (lR (x := f * f) (y := f) (L := L + L + 1) (M := L) zo) ⟨(Ht rfl), (Ht rfl), trivial⟩) (dp 3 rfl (eJ A_32 Z_32 (Ht rfl) (i := 1) rfl rfl rfl) ?_))))))))
  refine fV mixed rfl (by kernel_rfl) (zF (aJ (aJ (aV (ro rfl (cZ Tryz.call80 (Pf (x:=f * f * f) (y:=g) (L:=L + L + 1 + L + 1) (M:=L) zo) ⟨(Ht rfl),(Ht rfl),trivial⟩) (gQ Z_32 (Ht rfl) (Ht rfl) rfl (i:=2) rfl (aK rfl) rfl rfl (ro rfl (cQ (cJ 0)) (eX (bI rfl (fX (fK A_32 Z_32 rfl (i:=2) rfl rfl) ?_) (fX (eU rfl) ?_))))))))))
  ·exact (jF (Gj hb).1.symm)
  ·exact (aN (Gj hb).2.symm)
end
section
open Go Go.RowKit
theorem wV {n : Nat} {E : bM} {H : Hp} {d : Option Tmp} {t : TypeId} {pos : String} {af : Array Edge} {g : Option (Nat × Bool)} {x0 x1 x2 : Operand} {T0 T1 T2 T3 T4 T5 T6 : Ty} [s0 : cA T0 1 false] (h0 : aT E x0 T0) [s1 : cA T1 1 false] (h1 : aT E x1 T1) (h2 : aT E x2 (dE [T2, T3, T4, T5, T6])) :
  aM Tryz.prog n E H ⟨d,.build 160 #[(0,x0),(1,x1),(2,x2)],t,pos,af,g⟩ (dE [T0,T1,T2,T3,T4,T5,T6]) :=
 eM (parts := [(0, x0), (1, x1), (2, x2)]) fun a V w hs => by
  have p0:=h0 n V a hs
  generalize e0:a.eval x0 = v0 at p0
  have q0:=(s0.ok v0 V p0).2.2 rfl
  have p1:=h1 n V a hs
  generalize e1:a.eval x1 = v1 at p1
  have q1:=(s1.ok v1 V p1).2.2 rfl
  obtain ⟨v2,e2,c2⟩:=h2 n V a hs
  obtain ⟨c2_0,c2_1,c2_2,c2_3,c2_4,rfl⟩:∃ c2_0 c2_1 c2_2 c2_3 c2_4,v2 = [c2_0,c2_1,c2_2,c2_3,c2_4]:=Lm (by simpa using c2.length)
  refine ⟨.agg #[v0,v1,c2_0,c2_1,c2_2,c2_3,c2_4],?_,[v0,v1,c2_0,c2_1,c2_2,c2_3,c2_4],rfl,aW (⟨p0,q0⟩) (aW (⟨p1,q1⟩) (aW (c2.at (i:=0) rfl rfl) (aW (c2.at (i:=1) rfl rfl) (aW (c2.at (i:=2) rfl rfl) (aW (c2.at (i:=3) rfl rfl) (aW (c2.at (i:=4) rfl rfl) (aG)))))))⟩
  simp [e0,e1,e2,Instr.build,Instr.fill,Sem.run_bind,Result.andThen,dI,q0.cells,q1.cells,Tryz.zeroValue160,U_160,Z_3,Z_40]
theorem oH (a:Addr) (w:World):(Instr.fieldAt 160 (.pointer (some a)) 0).run Tryz.prog w = .ok (.pointer (some (a.add 0))) w:=by
 simp [Instr.fieldAt,Instr.sureAddr,fieldPlace,Sem.run_bind,Result.andThen,U_160,Z_3]
theorem vU (a:Addr) (w:World):(Instr.fieldAt 160 (.pointer (some a)) 1).run Tryz.prog w = .ok (.pointer (some (a.add 1))) w:=by
 simp [Instr.fieldAt,Instr.sureAddr,fieldPlace,Sem.run_bind,Result.andThen,U_160,Z_3]
theorem vV (a:Addr) (w:World):(Instr.fieldAt 160 (.pointer (some a)) 2).run Tryz.prog w = .ok (.pointer (some (a.add 2))) w:=by
 simp [Instr.fieldAt,Instr.sureAddr,fieldPlace,Sem.run_bind,Result.andThen,U_160,Z_40]
theorem Lf:Tryz.prog.info? 160 = some Tryz.t160:=by kernel_rfl
theorem Sc:Tryz.prog.underlying 154 = some (.slice 160):=by kernel_rfl
end
section
open Go Go.RowKit
theorem Ll {α β:Type _} (f:α → β) (l:List α) (x:β):((l.map f ++ [x]).length:Int) = ((l.length + 1:Nat):Int):=by simp
theorem pF {n:Int} (h1:-15 ≤ n) (h2:n ≤ 15):bB Tryz.prog 177 [aF .i64 n] (aF .i64 (sz n)):=by
 refine bB.intro Tryz.func177 rfl Tryz.ntmps177 rfl (fun cx=>(ts (ro rfl (cQ (cJ 0)) (eX (cK (ts (rm rfl (ro rfl (iK (Ht rfl) cV) (eX (dQ (Ht rfl) (fun hb=>?_) (fun hb=>?_)))))))))))
 ·simp only [decide_eq_true_eq] at hb
  refine ts (rm rfl (ro rfl (qQ (Ht rfl) (nO zo)) (ra rfl (eX (fW rfl (fX (eU rfl) ?_))))))
  exact (aN (by unfold sz; omega))
 ·simp only [decide_eq_false_iff_not] at hb
  refine cU (ts (rm rfl (ra rfl (eX (fW rfl (fX (eU rfl) ?_))))))
  exact (aN (by unfold sz; omega))
theorem Jz {x y:Pd} {L:Nat} (hx:Da L x) (hy:Da L y) (hL:L ≤ 1000000):bB Tryz.prog 178 [Dd x,Dd y] (aC (qB x y)):=by
 haveI:=hx.fit; haveI:=hy.fit
 have bm:∀ m:Int,-15 ≤ m → m ≤ 15 → 0 ≤ sz m ∧ sz m ≤ 15:=fun m h1 h2=>by unfold sz; omega
 obtain ⟨b1,b1'⟩:=bm _ hx.m1 hx.m2; obtain ⟨b2,b2'⟩:=bm _ hx.n1 hx.n2; obtain ⟨b3,b3'⟩:=bm _ hy.m1 hy.m2; obtain ⟨b4,b4'⟩:=bm _ hy.n1 hy.n2
 have hr:=pW hx.re.b hy.re.b
 refine bB.intro Tryz.func178 rfl Tryz.ntmps178 rfl (fun cx=>(ts (rn rfl (fG (Ht rfl)) fun B2=>(rn rfl (fG (Ht rfl)) fun B3=>(ro rfl (cQ cV) (eX (cK (ts (ro rfl (eZ vV (Ht rfl) rfl) (ro rfl (eJ A_40 Z_40 (Ht rfl) (i:=0) rfl rfl rfl) (ro rfl (eZ vV (Ht rfl) rfl) (ro rfl (eJ A_40 Z_40 (Ht rfl) (i:=1) rfl rfl rfl) (ro rfl (cZ Tryz.call85 (yT (x:=x.f) (y:=y.f) (L:=L) (M:=L) zo) ⟨(Ht rfl),(Ht rfl),trivial⟩) (ra rfl (eX (ts (rm rfl (ro rfl (jH (Ht rfl) cV) ?_))))))))))))))))))
 refine eX (dQ (Ht rfl) (fun hb=>?_) (fun hb=>?_))
 ·have hb2 : kZ x.f y.f ≠ 0 := by rw [← hr]; simpa using hb
  refine ts (rm rfl (ro rfl (iK (Ht rfl) cV) (ra rfl (eX (fW rfl (fX (eU rfl) ?_))))))
  exact (gF (by rw [qB,Nu,if_pos hb2,hr]))
 ·have hb2 : ¬ kZ x.f y.f ≠ 0 := by rw [← hr]; simpa using hb
  refine cU (cK (fZ (m:=15) (dp 2 rfl (eZ oH (Ht rfl) rfl) (dq 17 0 rfl (eY A_3 Z_3 (Ht rfl) (i:=0) rfl rfl) (dq 18 1 rfl (cZ K_177 (pF hx.m1 hx.m2) ⟨(Ht rfl),trivial⟩) (dp 2 rfl (eZ vU (Ht rfl) rfl) (dq 20 3 rfl (eY A_3 Z_3 (Ht rfl) (i:=0) rfl rfl) (dq 21 4 rfl (cZ K_177 (pF hx.n1 hx.n2) ⟨(Ht rfl),trivial⟩) (cP 19 2 22 5 rfl (kG (Ht rfl) (Ht rfl) (nO zo)) (dp 3 rfl (eZ oH (Ht rfl) rfl) (dq 24 7 rfl (eY A_3 Z_3 (Ht rfl) (i:=1) rfl rfl) ?_)))))))))))
  refine dq 25 8 rfl (cZ K_177 (pF hy.m1 hy.m2) ⟨(Ht rfl),trivial⟩) (dp 3 rfl (eZ vU (Ht rfl) rfl) (dq 27 10 rfl (eY A_3 Z_3 (Ht rfl) (i:=1) rfl rfl) (dq 28 11 rfl (cZ K_177 (pF hy.n1 hy.n2) ⟨(Ht rfl),trivial⟩) (cP 26 9 29 12 rfl (kG (Ht rfl) (Ht rfl) (nO zo)) (dq 23 6 rfl (cQ (Ht rfl)) (fV mixed rfl (by kernel_rfl) (zF (zF (zF (aJ (aJ (aJ (aV (ra rfl (eX (cK ?_))))))))))))))))
  refine ts (rm rfl (rm rfl (ro rfl (jH (Ht rfl) (Ht rfl)) (eX (dQ (Ht rfl) (fun hc=>?_) (fun hc=>?_))))))
  ·have hc2 : dH (kz x) (kz y) ≠ 0 := fun k => by have := mT.1 k; unfold kz at this; simp [this] at hc
   refine ts (rm rfl (rm rfl (ro rfl (iK (Ht rfl) (Ht rfl)) (ra rfl (eX (fW rfl (fX (eU rfl) ?_)))))))
   exact (gF (by rw [qB,Nu,if_neg hb2,if_pos hc2,decide_eq_decide,nZ]; rfl))
  ·have hc2 : ¬ dH (kz x) (kz y) ≠ 0 := fun k => k (mT.2 (by unfold kz; simpa using hc))
   refine cU (ts (ro rfl (eZ oH (Ht rfl) rfl) (ro rfl (eY A_3 Z_3 (Ht rfl) (i:=0) rfl rfl) (ro rfl (eZ oH (Ht rfl) rfl) (ro rfl (eY A_3 Z_3 (Ht rfl) (i:=1) rfl rfl) (ro rfl (iK (Ht rfl) (Ht rfl)) (ra rfl (eX (fW rfl (fX (eU rfl) ?_))))))))))
   exact (gF (by rw [qB,Nu,if_neg hb2,if_neg hc2,decide_eq_decide,nZ]))
theorem At {f g lo hi:Qi} {o:Int} {L:Nat} (hf:aL f L) (hg:aL g L) (hlo:aL lo L) (hhi:aL hi L) (hL:L ≤ 100000):bB Tryz.prog 75 [QT f,QT g,QT lo,QT hi,aF .i64 o] (fT [Sh (jJ f g lo hi o),aF .i64 (kV f g lo hi o)]):=by
 haveI:=hf; haveI:=hg; haveI:=hlo; haveI:=hhi
 refine bB.intro Tryz.func75 rfl Tryz.ntmps75 rfl (fun cx=>(ts (rn rfl (fG (Ht rfl)) fun B5=>(rn rfl (fG (Ht rfl)) fun B6=>(rn rfl (fG (Ht rfl)) fun B7=>(rn rfl (fG (Ht rfl)) fun B8=>(ro rfl (cQ cV) (ro rfl (cQ (cJ 0)) (eX (cK (ts (ro rfl (eJ A_40 Z_40 (Ht rfl) (i:=0) rfl rfl rfl) (ro rfl (cZ Tryz.call95 (mH (x:=f) (L:=L) zo) ⟨(Ht rfl),trivial⟩) (ro rfl (eN (Ht rfl)) (rm rfl (fQ rfl rfl (eK rfl rfl (Ht rfl) (fun h=>eJ A_40 Z_40 (Ht rfl) (i:=1) rfl rfl rfl)) ?_))))))))))))))))
 refine fQ rfl rfl (eK rfl rfl (Ht rfl) (fun h=>cZ Tryz.call95 (mH (x:=g) (L:=L) zo) ⟨(fJ rfl h),trivial⟩)) (fQ rfl rfl (eK rfl rfl (Ht rfl) (fun h=>eN (fJ rfl h))) (ro rfl (eE (Ht rfl) (fun h=>(fJ rfl h))) (rm rfl (fQ rfl rfl (eK rfl rfl (Ht rfl) (fun h=>eJ A_40 Z_40 (Ht rfl) (i:=2) rfl rfl rfl)) (fQ rfl rfl (eK rfl rfl (Ht rfl) (fun h=>cZ Tryz.call97 (yV (x:=lo) (L:=L) zo) ⟨(fJ rfl h),trivial⟩)) (fQ rfl rfl (eK rfl rfl (Ht rfl) (fun h=>jH (fJ rfl h) cV)) ?_))))))
 refine ro rfl (eE (Ht rfl) (fun h=>(fJ rfl h))) (rm rfl (fQ rfl rfl (eK rfl rfl (Ht rfl) (fun h=>eJ A_40 Z_40 (Ht rfl) (i:=3) rfl rfl rfl)) (fQ rfl rfl (eK rfl rfl (Ht rfl) (fun h=>cZ Tryz.call97 (yV (x:=hi) (L:=L) zo) ⟨(fJ rfl h),trivial⟩)) (fQ rfl rfl (eK rfl rfl (Ht rfl) (fun h=>jH (fJ rfl h) cV)) (ro rfl (eE (Ht rfl) (fun h=>(fJ rfl h))) (rm rfl (fQ rfl rfl (eK rfl rfl (Ht rfl) (fun h=>cX (Ht rfl))) (fQ rfl rfl (eK rfl rfl (Ht rfl) (fun h=>iK (fJ rfl h) cV)) ?_))))))))
 refine ro rfl (eE (Ht rfl) (fun h=>(fJ rfl h))) (rm rfl (fQ rfl rfl (eK rfl rfl (Ht rfl) (fun h=>cX (Ht rfl))) (fQ rfl rfl (eK rfl rfl (Ht rfl) (fun h=>kH (fJ rfl h) cV)) (ro rfl (eE (Ht rfl) (fun h=>(fJ rfl h))) (eX (dQ (Ht rfl) (fun hb=>?_) (fun hb=>?_)))))))
 ·have hb2 : qL f g lo hi o = true := by rw [← hb, qL]; simp only [mT]
  have he:kV f g lo hi o = 1:=rT hb2
  refine ts (ro rfl (cQ cV) (ro rfl (cQ (cJ 1)) (eX (bI rfl (fX (eU rfl) ?_) (fX (eU rfl) ?_)))))
  ·exact (fun v V h=>by rw [rS (by rw [he]; decide)]; exact kN v V h)
  ·exact (aN he.symm)
 ·have hb2 : qL f g lo hi o = false := by rw [← hb, qL]; simp only [mT]
  obtain ⟨pf1,pg1,l0,h0,o1,o2⟩:=yL hb2
  have hcr:Ch lo hi = nR lo hi:=by rw [pW l0 h0,pI l0 h0]
  refine cU (cK (ts (ro rfl (eJ A_40 Z_40 (Ht rfl) (i:=2) rfl rfl rfl) (ro rfl (eJ A_40 Z_40 (Ht rfl) (i:=3) rfl rfl rfl) (ro rfl (cZ Tryz.call85 (eQ (yT (x:=lo) (y:=hi) (L:=L) (M:=L) zo) (aN hcr)) ⟨(Ht rfl),(Ht rfl),trivial⟩) (ro rfl (kH (Ht rfl) cV) (eX (dQ (Ht rfl) (fun hgt=>?_) (fun hgt=>?_)))))))))
  ·simp only [decide_eq_true_eq] at hgt
   have he:kV f g lo hi o = 7:=Cf hb2 hgt
   refine ts (ro rfl (cQ cV) (ro rfl (cQ (cJ 7)) (eX (bI rfl (fX (eU rfl) ?_) (fX (eU rfl) ?_)))))
   ·exact (fun v V h=>by rw [rS (by rw [he]; decide)]; exact kN v V h)
   ·exact (aN he.symm)
  ·simp only [decide_eq_false_iff_not] at hgt
   have he:kV f g lo hi o = 0:=Ha hb2 hgt
   obtain ⟨q,rfl⟩:∃ q:Nat,o = q:=⟨o.toNat,by omega⟩
   have rf:=Fl.pos_re pf1
   have rg:=Fl.pos_re pg1
   have g0:0 < g.re:=Fl.posQ_pos pg1
   have hqq:q ≤ 15:=by omega
   refine cU (ts (ro rfl (cQ cV) (eX (cK (cK (Af 160 7 (cY (rm rfl (ro rfl (qQ (Ht rfl) (nO zo)) (ra rfl (eX (eG ?_))))))))))))
   refine gS (fun (i : Nat) (v : Value) (l : List Pd) => i ≤ 2 * q + 1 ∧ l.Perm (iF (xA f g lo hi q) (-(q : Int)) i) ∧ Sj l) (fun (i : Nat) (v : Value) (l : List Pd) => 2 * q + 1 - i) (fun (i : Nat) (v : Value) (l : List Pd) => [(4, aF .i64 (q : Int)), (5, bT B5 0), (6, bT B6 0), (7, bT B7 0), (8, bT B8 0), (12, Is v), (13, aF .i64 (-(q : Int) + i))]) (fun (i : Nat) (v : Value) (l : List Pd) => [box B5 40 [aC (decide (f.a < 0)), aB f.a.natAbs, aC (decide (f.b < 0)), aB f.b.natAbs, aB f.den], box B6 40 [aC (decide (g.a < 0)), aB g.a.natAbs, aC (decide (g.b < 0)), aB g.b.natAbs, aB g.den], box B7 40 [aC (decide (lo.a < 0)), aB lo.a.natAbs, aC (decide (lo.b < 0)), aB lo.b.natAbs, aB lo.den], box B8 40 [aC (decide (hi.a < 0)), aB hi.a.natAbs, aC (decide (hi.b < 0)), aB hi.b.natAbs, aB hi.den], bE 160 7 v (l.map Dd)]) 0 (.slice none 0 0) [] ⟨Nat.zero_le _, List.Perm.refl _, List.Pairwise.nil⟩
    (aQ rfl (aQ rfl (aQ rfl (aQ rfl (aQ rfl (aQ rfl (aZ rfl (aN (by simp)) aX))))))) (aU (aD rfl) (aU (aD rfl) (aU (aD rfl) (aU (aD rfl) (aU (bN rfl) aY))))) (fun i v l ⟨hi1,hp,hs⟩=>?_)
   refine cK (ts (rm rfl (rm rfl (ro rfl (nM (Ht rfl) (Ht rfl)) (eX (dQ (Ht rfl) (fun hc=>?_) (fun hc=>?_)))))))
   ·simp only [decide_eq_true_eq] at hc
    obtain ⟨m,hm⟩:∃ m:Int,m = -(q:Int) + i:=⟨_,rfl⟩
    have hm1:-15 ≤ m ∧ m ≤ 15:=by omega
    haveI fm:=xP hm1.1 hm1.2
    have hmq:sz m ≤ q:=by unfold sz; omega
    have hm0:=Cv m
    refine lQ (E':=[(4,_),(5,_),(6,_),(7,_),(8,_),(12,_),(13,_),(52,_),(53,_),(54,_)]) (aQ rfl (aQ rfl (aQ rfl (aQ rfl (aQ rfl (aQ rfl (aZ rfl (aN hm.symm) (zS rfl)))))))) (cU (cK (eG (ts (rm rfl (ro rfl (qQ (Ht rfl) (nO zo)) (ra rfl (eX (eG ?_)))))))))
    refine gS (fun (j : Nat) (v2 : Value) (l2 : List Pd) => j ≤ 2 * q + 1 ∧ l2.Perm (iF (xA f g lo hi q) (-(q : Int)) i ++ iF (oL f g lo hi q m) (-(q : Int)) j) ∧ Sj l2) (fun (j : Nat) (v2 : Value) (l2 : List Pd) => 2 * q + 1 - j) (fun (j : Nat) (v2 : Value) (l2 : List Pd) => [(4, aF .i64 (q : Int)), (5, bT B5 0), (6, bT B6 0), (7, bT B7 0), (8, bT B8 0), (12, Is v2), (13, aF .i64 m), (14, aF .i64 (-(q : Int) + j))]) (fun (j : Nat) (v2 : Value) (l2 : List Pd) => [box B5 40 [aC (decide (f.a < 0)), aB f.a.natAbs, aC (decide (f.b < 0)), aB f.b.natAbs, aB f.den], box B6 40 [aC (decide (g.a < 0)), aB g.a.natAbs, aC (decide (g.b < 0)), aB g.b.natAbs, aB g.den], box B7 40 [aC (decide (lo.a < 0)), aB lo.a.natAbs, aC (decide (lo.b < 0)), aB lo.b.natAbs, aB lo.den], box B8 40 [aC (decide (hi.a < 0)), aB hi.a.natAbs, aC (decide (hi.b < 0)), aB hi.b.natAbs, aB hi.den], bE 160 7 v2 (l2.map Dd)]) 0 v l ⟨Nat.zero_le _, by rw [iF, List.append_nil]; exact hp, hs⟩
     (aQ rfl (aQ rfl (aQ rfl (aQ rfl (aQ rfl (aQ rfl (aQ rfl (aZ rfl (aN (by simp)) aX)))))))) (aU (aD rfl) (aU (aD rfl) (aU (aD rfl) (aU (aD rfl) (aU (bN rfl) aY))))) (fun j v2 l2 ⟨hj1,hp2,hs2⟩=>?_)
    refine cK (ts (rm rfl (rm rfl (ro rfl (nM (Ht rfl) (Ht rfl)) (eX (dQ (Ht rfl) (fun hd=>?_) (fun hd=>?_)))))))
    ·simp only [decide_eq_true_eq] at hd
     obtain ⟨n,hn⟩:∃ n:Int,n = -(q:Int) + j:=⟨_,rfl⟩
     have hn1:-15 ≤ n ∧ n ≤ 15:=by omega
     have hnq:sz n ≤ q:=by unfold sz; omega
     have hn0:=Cv n
     haveI fn:=xP hn1.1 hn1.2
     have fp:aL (pf f g m n) (2 * L + 8):=zP (m:=m) (n:=n) hf hg hm1.1 hm1.2 hn1.1 hn1.2
     haveI fp2:aL (Qi.ofInt m * f + Qi.ofInt n * g) (2 * L + 8):=by rw [Qi.mul_comm' (Qi.ofInt m) f,Qi.mul_comm' (Qi.ofInt n) g]; exact fp
     have epf:Qi.ofInt m * f + Qi.ofInt n * g = pf f g m n:=by rw [Qi.mul_comm' (Qi.ofInt m) f,Qi.mul_comm' (Qi.ofInt n) g]; rfl
     have hsk:=Ru (q:=q) (m:=m) (n:=n) rf rg l0 h0
     have hok2:∀ y,y ∈ l2 → Da (2 * L + 8) y:=fun y hy=>Na hf hg rf rg hqq hi1 hm hm1 hj1 y (hp2.mem_iff.1 hy)
     have hll:l2.length ≤ 1100:=by rw [hp2.length_eq]; exact Nc hqq hi1 hj1
     refine lQ (E':=[(4,_),(5,_),(6,_),(7,_),(8,_),(12,_),(13,_),(14,_),(59,_),(60,_),(61,_)]) (aQ rfl (aQ rfl (aQ rfl (aQ rfl (aQ rfl (aQ rfl (aQ rfl (aZ rfl (aN hn.symm) (zS rfl))))))))) (cU (cK (eG (ts (rm rfl (ro rfl (cZ K_177 (pF (n:=m) hm1.1 hm1.2) ⟨(Ht rfl),trivial⟩) (rm rfl (ro rfl (cZ K_177 (pF (n:=n) hn1.1 hn1.2) ⟨(Ht rfl),trivial⟩) (ro rfl (kG (Ht rfl) (Ht rfl) (nO zo)) (ra rfl (eX (cK ?_))))))))))))
     refine fZ (m:=10) (dp 13 rfl (cX (Ht rfl)) (dq 69 0 rfl (cZ Tryz.call84 (rE (n:=m) zo zo) ⟨(Ht rfl),trivial⟩) (dp 5 rfl (eJ A_40 Z_40 (Ht rfl) (i:=0) rfl rfl rfl) (cP 70 1 71 2 rfl (cZ K_89 (sF (x:=Qi.ofInt m) (y:=f) (L:=2) (M:=L) zo) ⟨(Ht rfl),(Ht rfl),trivial⟩) (dp 14 rfl (cX (Ht rfl)) (dq 73 4 rfl (cZ Tryz.call84 (rE (n:=n) zo zo) ⟨(Ht rfl),trivial⟩) (dp 6 rfl (eJ A_40 Z_40 (Ht rfl) (i:=1) rfl rfl rfl) (cP 74 5 75 6 rfl (cZ K_89 (sF (x:=Qi.ofInt n) (y:=g) (L:=2) (M:=L) zo) ⟨(Ht rfl),(Ht rfl),trivial⟩) ?_))))))))
     refine cP 72 3 76 7 rfl (cZ Tryz.call96 (eQ (Ke (x:=Qi.ofInt m * f) (y:=Qi.ofInt n * g) (L:=2 + L + 1) (M:=2 + L + 1) zo) (rW epf)) ⟨(Ht rfl),(Ht rfl),trivial⟩) (C.D_new (Ei:=[]) rfl rfl rfl bW (eW (Ts:=[Is (.bool false),Is (.slice none 0 0),Is (.bool false),Is (.slice none 0 0),Is (.slice none 0 0)]) O_40 rfl (fun V=>aW zd (aW zd (aW zd (aW zd (aW zd (aG))))))) (fV mixed rfl (by kernel_rfl) (zF (zF (aJ (C.F_new (fun B16=>aV ?_)))))))
     refine gQ Z_40 (Ht rfl) (Ht rfl) rfl (i:=5) rfl (aK rfl) rfl rfl (eX (cK (cK (eD [0,1,2,3,4,5] rfl (by decide) (cY (rm rfl (ro rfl (iK (Ht rfl) cV) (rm rfl (fQ rfl rfl (eK rfl rfl (Ht rfl) (fun h=>cX (Ht rfl))) (fQ rfl rfl (eK rfl rfl (Ht rfl) (fun h=>cX (Ht rfl))) (fQ rfl rfl (eK rfl rfl (Ht rfl) (fun h=>kH (fJ rfl h) (fJ rfl h))) (ro rfl (eE (Ht rfl) (fun h=>(fJ rfl h))) (rm rfl (fQ rfl rfl (eK rfl rfl (Ht rfl) (fun h=>eJ A_40 Z_40 (Ht rfl) (i:=5) rfl rfl rfl)) ?_))))))))))))))
     refine fQ rfl rfl (eK rfl rfl (Ht rfl) (fun h=>cZ Tryz.call90 (rD (x:=pf f g m n)) ⟨(fJ rfl h),trivial⟩)) (fQ rfl rfl (eK rfl rfl (Ht rfl) (fun h=>nM (fJ rfl h) cV)) (ro rfl (eE (Ht rfl) (fun h=>(fJ rfl h))) (rm rfl (fQ rfl rfl (eK rfl rfl (Ht rfl) (fun h=>eJ A_40 Z_40 (Ht rfl) (i:=5) rfl rfl rfl)) (fQ rfl rfl (eK rfl rfl (Ht rfl) (fun h=>eJ A_40 Z_40 (Ht rfl) (i:=2) rfl rfl rfl)) (fQ rfl rfl (eK rfl rfl (Ht rfl) (fun h=>cZ Tryz.call85 (yT (x:=pf f g m n) (y:=lo) (L:=2 * L + 8) (M:=L) zo) ⟨(fJ rfl h),(fJ rfl h),trivial⟩)) ?_))))))
     refine fQ rfl rfl (eK rfl rfl (Ht rfl) (fun h=>iK (fJ rfl h) cV)) (ro rfl (eE (Ht rfl) (fun h=>(fJ rfl h))) (rm rfl (fQ rfl rfl (eK rfl rfl (Ht rfl) (fun h=>eJ A_40 Z_40 (Ht rfl) (i:=5) rfl rfl rfl)) (fQ rfl rfl (eK rfl rfl (Ht rfl) (fun h=>eJ A_40 Z_40 (Ht rfl) (i:=3) rfl rfl rfl)) (fQ rfl rfl (eK rfl rfl (Ht rfl) (fun h=>cZ Tryz.call85 (yT (x:=pf f g m n) (y:=hi) (L:=2 * L + 8) (M:=L) zo) ⟨(fJ rfl h),(fJ rfl h),trivial⟩)) (fQ rfl rfl (eK rfl rfl (Ht rfl) (fun h=>kH (fJ rfl h) cV)) ?_))))))
     refine ro rfl (eE (Ht rfl) (fun h=>(fJ rfl h))) (eX (dQ (Ht rfl) (fun hh=>?_) (fun hh=>?_)))
     ·have hit : oL f g lo hi q m n = [] := by rw [hsk, if_pos (show Cr f g lo hi q m n = true from hh)]
      refine gV rfl (cY (rm rfl (ro rfl (kG (Ht rfl) cV (nO zo)) (ra rfl (eX (eD [0,1,2,3,4] rfl (by decide) (fU (j + 1,v2,l2) ⟨by dsimp only; omega,by rw [nY,← hn,hit,List.append_nil]; exact hp2,hs2⟩ (by dsimp only; omega) (aQ rfl (aQ rfl (aQ rfl (aQ rfl (aQ rfl (aQ rfl (aQ rfl (aZ rfl (aN zo) aX)))))))) (aU (aD rfl) (aU (aD rfl) (aU (aD rfl) (aU (aD rfl) (aU (bN rfl) aY))))))))))))
     ·have hit : oL f g lo hi q m n = [⟨m, n, pf f g m n⟩] := by rw [hsk, if_neg (by rw [show Cr f g lo hi q m n = false from hh]; decide)]
      have hpx:Da (2 * L + 8) ⟨m,n,pf f g m n⟩:=⟨fp,uO rf rg,hm1.1,hm1.2,hn1.1,hn1.2⟩
      obtain ⟨X,hX⟩:∃ X:Pd,X = ⟨m,n,pf f g m n⟩:=⟨_,rfl⟩
      rw [← hX] at hpx hit
      refine cU (ts (rm rfl (rm rfl (ro rfl (eJ A_40 Z_40 (Ht rfl) (i:=5) rfl rfl rfl) (ro rfl (wV (Ht rfl) (Ht rfl) (Ht rfl)) (rn rfl (eW (Ts:=[Is (.int .i64 0),Is (.int .i64 0),Is (.bool false),Is (.slice none 0 0),Is (.bool false),Is (.slice none 0 0),Is (.slice none 0 0)]) Tryz.zeroValue160 rfl (fun V=>aW zd (aW zd (aW zd (aW zd (aW zd (aW zd (aW zd (aG))))))))) fun B17=>(gQ Z_160 (Ht rfl) (Ht rfl) rfl (i:=6) rfl (aK rfl) rfl rfl ?_)))))))
      refine eX (cK (qJ 6 rfl (aD (show _ = [aF .i64 X.m,aF .i64 X.n,aC (decide (X.f.a < 0)),aB X.f.a.natAbs,aC (decide (X.f.b < 0)),aB X.f.b.natAbs,aB X.f.den] by rw [hX]; rfl)) (eD [0,1,2,3,4,6] rfl (by decide) (cY (rm rfl (ro rfl (mO U_154 (Ht rfl) (i:=4) rfl aA) (ra rfl (eX (cK (eG ?_))))))))))
      refine eP (fun (a : Nat) => a ≤ l2.length ∧ ∀ (i : Nat) (y : Pd), a ≤ i → l2[i]? = some y → qB X y = true) (fun (a : Nat) => a) (fun (a : Nat) => [(4, aF .i64 (q : Int)), (5, bT B5 0), (6, bT B6 0), (7, bT B7 0), (8, bT B8 0), (12, Is v2), (13, aF .i64 m), (14, aF .i64 n), (17, bT B17 0), (18, NT .i64 a)]) (fun (a : Nat) => [box B5 40 [aC (decide (f.a < 0)), aB f.a.natAbs, aC (decide (f.b < 0)), aB f.b.natAbs, aB f.den], box B6 40 [aC (decide (g.a < 0)), aB g.a.natAbs, aC (decide (g.b < 0)), aB g.b.natAbs, aB g.den], box B7 40 [aC (decide (lo.a < 0)), aB lo.a.natAbs, aC (decide (lo.b < 0)), aB lo.b.natAbs, aB lo.den], box B8 40 [aC (decide (hi.a < 0)), aB hi.a.natAbs, aC (decide (hi.b < 0)), aB hi.b.natAbs, aB hi.den], bE 160 7 v2 (l2.map Dd), box B17 160 [aF .i64 X.m, aF .i64 X.n, aC (decide (X.f.a < 0)), aB X.f.a.natAbs, aC (decide (X.f.b < 0)), aB X.f.b.natAbs, aB X.f.den]]) l2.length ⟨Nat.le_refl _, fun i y h1 h2 => by have := (List.getElem?_eq_some_iff.1 h2).1; omega⟩
       (zS rfl) (aU (aD rfl) (aU (aD rfl) (aU (aD rfl) (aU (aD rfl) (aU (bN rfl) (aU (aD rfl) aY)))))) (fun a ⟨ha,hbf⟩=>?_)
      refine cK (cK (fZ (m:=9) (dp 18 rfl (cX (Ht rfl)) (dq 108 0 rfl (dM (Ht rfl) (cJ 0)) (dq 109 1 rfl (cX (Ht rfl)) (C.D_step (Ei:=[(17,_),(110,_)]) rfl rfl (bV (bK rfl rfl) (bV (bG 2 rfl rfl) bW)) (eK rfl rfl (Ht rfl) (fun h=>eJ A_160 Z_160 (Ht rfl) (i:=5) rfl rfl rfl)) (C.D_step (Ei:=[(12,_),(110,_)]) rfl rfl (bV (bK rfl rfl) (bV (bG 2 rfl rfl) bW)) (eK rfl rfl (Ht rfl) (fun h=>cX (Ht rfl))) (C.D_step (Ei:=[(18,_),(110,_)]) rfl rfl (bV (bK rfl rfl) (bV (bG 2 rfl rfl) bW)) (eK rfl rfl (Ht rfl) (fun h=>cX (Ht rfl))) ?_))))))))
      refine C.D_step (Ei:=[(113,_),(110,_)]) rfl rfl (bV (bG 5 rfl rfl) (bV (bG 2 rfl rfl) bW)) (eK rfl rfl (Ht rfl) (fun h=>dW (fJ rfl h) (cJ 1) (by first | omega | (simp at h; omega)) (by show _ < 9223372036854775808; first | omega | (simp at h; omega)))) (C.D_step (Ei:=[(112,_),(114,_),(110,_)]) rfl rfl (bV (bG 4 rfl rfl) (bV (bG 6 rfl rfl) (bV (bG 2 rfl rfl) bW))) (eK rfl rfl (Ht rfl) (fun h=>eI U_154 Z_160 (fJ rfl h) (fJ rfl h) rfl (i:=4) rfl (by simp at h; rw [List.length_map]; omega) rfl)) ?_)
      refine C.D_step (Ei:=[(115,_),(110,_)]) rfl rfl (bV (bG 7 rfl rfl) (bV (bG 2 rfl rfl) bW)) (eK rfl rfl (Ht rfl) (fun h=>oQ A_160 Z_160 (fJ rfl h) (i:=4) rfl rfl (dY (dU (d:=(default:Pd)) (show a - 1 < l2.length by simp at h; omega))))) (fV mixed rfl (by kernel_rfl) (zF (zF (aJ (aV (fQ rfl rfl (eK rfl rfl (Ht rfl) (fun h=>cZ Tryz.call178 (Jz (x:=X) (y:=l2.getD (a - 1) default) hpx (hok2 _ (by simp at h; rw [List.getD_eq_getElem?_getD,List.getElem?_eq_getElem (show a - 1 < l2.length by omega)]; simp)) zo) ⟨(fJ rfl h),(fJ rfl h),trivial⟩)) ?_))))))
      refine ro rfl (eA (Ht rfl) (fun h=>(fJ rfl h))) (eX (dQ (Ht rfl) (fun hx=>?_) (fun hx=>?_)))
      ·obtain ⟨ha0, hb4⟩ : 0 < a ∧ qB X (l2.getD (a - 1) default) = true := by simpa using hx
       refine cU (eG (cY (rm rfl (ro rfl (dW (Ht rfl) (cJ 1) zo z6) (ra rfl (eX (bF ?_)))))))
       refine fU (a - 1) ⟨by omega, fun i y h1 h2 => by
         by_cases e:i = a - 1
         ·subst e; rw [List.getD_eq_getElem?_getD,h2] at hb4; exact hb4
         ·exact hbf i y zo h2⟩ zo (zS rfl) (cF.refl _)
      ·have hlast : ∀ y, 0 < a → l2[a - 1]? = some y → qB X y = false := fun y h1 h2 => by
        have hx2:(decide (0 < a) && qB X (l2.getD (a - 1) default)) = false:=by simpa using hx
        rw [decide_eq_true h1,Bool.true_and,List.getD_eq_getElem?_getD,h2] at hx2; exact hx2
       refine gV rfl (ts (rm rfl (ro rfl (eJ A_160 Z_160 (Ht rfl) (i:=5) rfl rfl rfl) (ro rfl (cH (xs:=[.tmp 122]) U_154 Z_160 Tryz.zeroValue160 (cW (Ht rfl) cG) rfl rfl rfl) (qX (inf:=Tryz.t160) Sc Lf rfl rfl rfl (Ht rfl) (Ht rfl) (i:=4) rfl (by simp) (fun T hT=>by simp at hT; subst hT; exact El.ag rfl) (by show _ * 104 ≤ _; simp only [List.length_map,List.length_cons,List.length_nil]; omega) (by simp only [List.length_map,List.length_cons,List.length_nil]; omega) rfl (fun v3=>?_))))))
       refine ra rfl (eX (cK (ts (rm rfl (ro rfl (mO U_154 (Ht rfl) (i:=4) rfl (Ll _ _ _)) (ro rfl (dW (Ht rfl) (cJ 1) zo z6) (ra rfl (eX (eG ?_)))))))))
       refine eP (fun (b : Nat) => a ≤ b ∧ b ≤ l2.length) (fun (b : Nat) => b) (fun (b : Nat) => [(4, aF .i64 (q : Int)), (5, bT B5 0), (6, bT B6 0), (7, bT B7 0), (8, bT B8 0), (12, Is v3), (13, aF .i64 m), (14, aF .i64 n), (17, bT B17 0), (18, NT .i64 a), (19, NT .i64 b)]) (fun (b : Nat) => [box B5 40 [aC (decide (f.a < 0)), aB f.a.natAbs, aC (decide (f.b < 0)), aB f.b.natAbs, aB f.den], box B6 40 [aC (decide (g.a < 0)), aB g.a.natAbs, aC (decide (g.b < 0)), aB g.b.natAbs, aB g.den], box B7 40 [aC (decide (lo.a < 0)), aB lo.a.natAbs, aC (decide (lo.b < 0)), aB lo.b.natAbs, aB lo.den], box B8 40 [aC (decide (hi.a < 0)), aB hi.a.natAbs, aC (decide (hi.b < 0)), aB hi.b.natAbs, aB hi.den], bE 160 7 v3 ((sh l2 X b).map Dd), box B17 160 [aF .i64 X.m, aF .i64 X.n, aC (decide (X.f.a < 0)), aB X.f.a.natAbs, aC (decide (X.f.b < 0)), aB X.f.b.natAbs, aB X.f.den]]) l2.length ⟨ha, Nat.le_refl _⟩
        (zS rfl) (aU (aD rfl) (aU (aD rfl) (aU (aD rfl) (aU (aD rfl) (aU (bN (by rw [Wh,List.map_append]; rfl)) (aU (aD rfl) aY)))))) (fun b ⟨hab,hbl⟩=>?_)
       refine cK (ts (rm rfl (rm rfl (ro rfl (dM (Ht rfl) (Ht rfl)) (eX (dQ (Ht rfl) (fun hy=>?_) (fun hy=>?_)))))))
       ·have hy2 : a < b := by simpa using hy
        obtain ⟨Y,hY⟩:∃ Y,l2[b - 1]? = some Y:=⟨_,List.getElem?_eq_getElem (show b - 1 < l2.length by omega)⟩
        have hsl:=zR (x:=X) hbl
        have hYs:(sh l2 X b)[b - 1]? = some Y:=by rw [Wf zo hbl,hY]
        refine cU (cK (eG (cY (rm rfl (rm rfl (rm rfl (rm rfl (ro rfl (dW (Ht rfl) (cJ 1) zo z6) (ro rfl (eI U_154 Z_160 (Ht rfl) (Ht rfl) rfl (i:=4) rfl (by rw [List.length_map,hsl]; omega) rfl) ?_)))))))))
        refine ro rfl (oQ A_160 Z_160 (Ht rfl) (i:=4) rfl rfl (dY hYs)) (ro rfl (eI U_154 Z_160 (Ht rfl) (Ht rfl) rfl (i:=4) rfl (by rw [List.length_map,hsl]; omega) rfl) ?_)
        refine nV Z_160 (Ht rfl) (Ht rfl) (El.ag rfl) (i:=4) rfl rfl (by rw [List.length_map,hsl]; omega) rfl ?_
        refine eX (bF (cY (rm rfl (ro rfl (dW (Ht rfl) (cJ 1) zo z6) (ra rfl (eX (fU (b - 1) ⟨by omega,by omega⟩ zo (zS rfl) (aU (aD rfl) (aU (aD rfl) (aU (aD rfl) (aU (aD rfl) (aU (bN (by rw [← Ro zo hbl hY,List.map_set])) (aU (aD rfl) aY)))))))))))))
       ·have hy2 : b = a := (by have h9 : ¬ a < b := (by simpa using hy); omega)
        subst hy2
        have hsl:=zR (x:=X) hbl
        refine gV rfl (cY (rm rfl (rm rfl (ro rfl (eJ A_160 Z_160 (Ht rfl) (i:=5) rfl rfl rfl) (ro rfl (eI U_154 Z_160 (Ht rfl) (Ht rfl) rfl (i:=4) rfl (by rw [List.length_map,hsl]; omega) rfl) ?_)))))
        refine nV Z_160 (Ht rfl) (Ht rfl) (El.ag rfl) (i:=4) rfl rfl (by rw [List.length_map,hsl]; omega) rfl ?_
        refine eX (bF (cY (rm rfl (ro rfl (kG (Ht rfl) cV (nO zo)) (ra rfl (eX (eD [0,1,2,3,4] rfl (by decide) (fU (j + 1,v3,l2.take b ++ X :: l2.drop b) ⟨by dsimp only; omega,by rw [nY,← hn,hit,← List.append_assoc]; exact Li b hp2,Rw hs2 hbl hbf hlast⟩ (by dsimp only; omega) (aQ rfl (aQ rfl (aQ rfl (aQ rfl (aQ rfl (aQ rfl (aQ rfl (aZ rfl (aN zo) aX)))))))) (aU (aD rfl) (aU (aD rfl) (aU (aD rfl) (aU (aD rfl) (aU (bN (by rw [← We hbl,List.map_set]; rfl)) aY)))))))))))))
    ·simp only [decide_eq_false_iff_not] at hd
     have hj2:j = 2 * q + 1:=by omega
     subst hj2
     refine gV rfl (bF (cY (rm rfl (ro rfl (kG (Ht rfl) cV (nO zo)) (ra rfl (eX (fU (i + 1,v2,l2) ⟨by dsimp only; omega,by rw [nY,← hm]; exact hp2,hs2⟩ (by dsimp only; omega) (aQ rfl (aQ rfl (aQ rfl (aQ rfl (aQ rfl (aQ rfl (aZ rfl (aN zo) aX))))))) (aU (aD rfl) (aU (aD rfl) (aU (aD rfl) (aU (aD rfl) (aU (bN rfl) aY))))))))))))
   ·simp only [decide_eq_false_iff_not] at hc
    have hi2:i = 2 * q + 1:=by omega
    subst hi2
    have hres : jJ f g lo hi q = l := by
     rw [Ce he]
     refine (Nk (Bk rf rg g0) ?_ hs).symm
     rw [← Vh]; exact hp
    refine gV rfl (cK (gJ (i:=4) (tt:=12) rfl rfl lE (cY (rm rfl (ra rfl (ro rfl (cQ (cJ 0)) (eX (bI rfl (fX (eU rfl) ?_) (fX (eU rfl) ?_)))))))))
    ·exact (oX (by rw [hres]))
    ·exact (aN he.symm)
theorem yU {f g:Qi} {L:Nat} (hf:aL f L) (hg:aL g L) (hL:L ≤ 100000):bB Tryz.prog 77 [QT f,QT g] (fT [QT (xT f g),aF .i64 (Wq f g)]):=by
 haveI:=hf; haveI:=hg
 refine bB.intro Tryz.func77 rfl Tryz.ntmps77 rfl (fun cx=>(ts (rn rfl (fG (Ht rfl)) fun B2=>(rn rfl (fG (Ht rfl)) fun B3=>(rn rfl (eW (Ts:=[Is (.bool false),Is (.slice none 0 0),Is (.bool false),Is (.slice none 0 0),Is (.slice none 0 0)]) O_40 rfl (fun V=>aW zd (aW zd (aW zd (aW zd (aW zd (aG))))))) fun B4=>(ro rfl (cQ (cJ 0)) (eX (cK (ts (ro rfl (eJ A_40 Z_40 (Ht rfl) (i:=0) rfl rfl rfl) ?_))))))))))
 refine ro rfl (cZ Tryz.call95 (mH (x:=f) (L:=L) zo) ⟨(Ht rfl),trivial⟩) (ro rfl (eN (Ht rfl)) (rm rfl (fQ rfl rfl (eK rfl rfl (Ht rfl) (fun h=>eJ A_40 Z_40 (Ht rfl) (i:=1) rfl rfl rfl)) (fQ rfl rfl (eK rfl rfl (Ht rfl) (fun h=>cZ Tryz.call95 (mH (x:=g) (L:=L) zo) ⟨(fJ rfl h),trivial⟩)) (fQ rfl rfl (eK rfl rfl (Ht rfl) (fun h=>eN (fJ rfl h))) (ro rfl (eE (Ht rfl) (fun h=>(fJ rfl h))) (eX (dQ (Ht rfl) (fun hb=>?_) (fun hb=>?_)))))))))
 ·refine ts (ro rfl (cZ Tryz.call84 (rE (n := 0) (by decide) (by decide)) ⟨(cJ 0), trivial⟩) (gQ Z_40 (Ht rfl) (Ht rfl) rfl (i := 2) rfl (aK rfl) rfl rfl (ro rfl (cQ (cJ 1)) (eX (bI rfl (fX (fK A_40 Z_40 rfl (i := 2) rfl rfl) ?_) (fX (eU rfl) ?_))))))
  ·exact (rW (Gi hb).1.symm)
  ·exact (aN (Gi hb).2.symm)
 ·refine cU (cK (Y.D_start (m := 12) [] (bY (Ei := [(2, _)]) rfl rfl (bQ (bJ rfl rfl) bX) rfl rfl (dX rfl (eJ A_40 Z_40 (Ht rfl) (i := 0) rfl rfl rfl)) (bY (Ei := [(2, _)]) rfl rfl (bQ (bJ rfl rfl) bX) rfl rfl (dX rfl (eJ A_40 Z_40 (Ht rfl) (i := 0) rfl rfl rfl)) (bY (Ei := [(2, _)]) rfl rfl (bQ (bJ rfl rfl) bX) rfl rfl (dX rfl (eJ A_40 Z_40 (Ht rfl) (i := 0) rfl rfl rfl)) (bY (Ei := [(19, _), (20, _)]) rfl rfl (bQ (bZ 1 rfl rfl) (bQ (bZ 2 rfl rfl) bX)) rfl rfl (dX rfl (cZ K_89 (sF (x := f) (y := f) (L := L) (M := L) zo) ⟨(Ht rfl), (Ht rfl), trivial⟩)) ?_))))))
  refine bY (Ei:=[(18,_),(21,_)]) rfl rfl (bQ (bZ 0 rfl rfl) (bQ (bZ 3 rfl rfl) bX)) rfl rfl (dX rfl (cZ K_89 (eQ (sF (x:=f) (y:=f * f) (L:=L) (M:=L + L + 1) zo) (rW (Qi.mul_comm' f (f * f)))) ⟨(Ht rfl),(Ht rfl),trivial⟩)) (bY (Ei:=[(3,_)]) rfl rfl (bQ (bJ rfl rfl) bX) rfl rfl (dX rfl (eJ A_40 Z_40 (Ht rfl) (i:=1) rfl rfl rfl)) (bY (Ei:=[(22,_),(23,_)]) rfl rfl (bQ (bZ 4 rfl rfl) (bQ (bZ 5 rfl rfl) bX)) rfl rfl (dX rfl (cZ Tryz.call87 (Pc (x:=f * f * f) (y:=g) (L:=L + L + 1 + L + 1) (M:=L) zo) ⟨(Ht rfl),(Ht rfl),trivial⟩)) ?_))
  refine bY (Ei:=[(24,_)]) rfl rfl (bQ (bZ 6 rfl rfl) bX) rfl rfl (dX rfl (cX (Ht rfl))) (bY (Ei:=[(17,_)]) rfl rfl (bQ (bZ 7 rfl rfl) bX) rfl rfl (dX rfl (dK (Ht rfl) rfl)) (bY (Ei:=[(17,_)]) rfl rfl (bQ (bZ 7 rfl rfl) bX) rfl rfl (dX rfl (dK (Ht rfl) rfl)) (Y.D_newp (Ei:=[]) (fun bb=>box bb 40 [aC (decide ((f * f * f / g).a < 0)),aB (f * f * f / g).a.natAbs,aC (decide ((f * f * f / g).b < 0)),aB (f * f * f / g).b.natAbs,aB (f * f * f / g).den]) 11 rfl rfl rfl bX rfl rfl (by kernel_rfl) (eW (Ts:=[Is (.bool false),Is (.slice none 0 0),Is (.bool false),Is (.slice none 0 0),Is (.slice none 0 0)]) O_40 rfl (fun V=>aW zd (aW zd (aW zd (aW zd (aW zd (aG))))))) ?_)))
  refine Y.D_putN (Ei:=[(25,_)]) 10 rfl rfl rfl rfl rfl rfl (bQ (bZ 8 rfl rfl) bX) (fun bb=>uY Z_40 (Ht rfl) (Ht rfl) rfl (i:=0) rfl (aK rfl) rfl rfl) (Y.D_done mixed rfl (by kernel_rfl) rfl (by simp [Y.okP]) rfl rfl (bU (bU (bU (bU (bU (bU (bU (bU (bU (bU (Y.F_newp (fun B6=>Y.F_putN (Y.F_nil ?_))))))))))))))
  refine ra rfl (eX (ts (ro rfl (eJ A_40 Z_40 (Ht rfl) (i:=3) rfl rfl rfl) (gQ Z_40 (Ht rfl) (Ht rfl) rfl (i:=2) rfl (aK rfl) rfl rfl (ro rfl (cQ (cJ 0)) (eX (bI rfl (fX (fK A_40 Z_40 rfl (i:=2) rfl rfl) ?_) (fX (eU rfl) ?_))))))))
  ·exact (rW (Gj hb).1.symm)
  ·exact (aN (Gj hb).2.symm)
end
section
open Go Go.RowKit
theorem Cu (m:Nat) (f:Qi) (a b:Nat → Qi):eC m (fun k=>a k - f * b k) = eC m a - f * eC m b:=by
 induction m with
 | zero=>simp only [eC,q0]; grind
 | succ m ih=>simp only [eC,ih]; grind
def Wp (M:List (List Qi)) (n m:Nat) (x:Nat → Qi):Prop:=∀ i,i < n → eC m (fun k=>gm M i k * x k) = 0
def tK (rr rc:List Qi) (c k:Nat):List Qi:=tab rr.length fun j=>if c ≤ j ∧ j < k then gv rr j - gv rr c / gv rc c * gv rc j else gv rr j
def redJ (M:List (List Qi)) (c r:Nat):List (List Qi):=tab M.length fun i=>if i ≠ c ∧ i < r then tK (iW M i) (iW M c) c (iW M i).length else iW M i
def Ie (M : List (List Qi)) : Nat → Option (List (List Qi))
 | 0=>some M
 | c + 1=>(Ie M c).bind fun A=>if pv A c M.length = M.length then none else some (redJ (swp [] A (pv A c M.length) c) c M.length)
theorem Mv (M:List (List Qi)) (c r:Nat):(redJ M c r).length = M.length:=bR _ _
theorem Ik (rr rc:List Qi) (c k:Nat):(tK rr rc c k).length = rr.length:=bR _ _
theorem Mw {M:List (List Qi)} {c r i:Nat} (hi:i < M.length):iW (redJ M c r) i = if i ≠ c ∧ i < r then tK (iW M i) (iW M c) c (iW M i).length else iW M i:=by
 simp only [iW,redJ,List.getD]; rw [fE hi]; rfl
theorem Mx {M:List (List Qi)} {n m c r:Nat} (h:iA M n m):iA (redJ M c r) n m:=by
 refine ⟨(Mv _ _ _).trans h.1,fun x hx=>?_⟩
 obtain ⟨i,hi,rfl⟩:=iP.1 hx
 have hr:=h.row (i:=i) (by rw [← h.1]; exact hi)
 show (if i ≠ c ∧ i < r then tK (iW M i) (iW M c) c (iW M i).length else iW M i).length = m
 split
 ·rw [Ik]; exact hr
 ·exact hr
theorem uP {M:List (List Qi)} {n m c i j:Nat} (h:iA M n m) (hi:i < n) (hj:j < m):gm (redJ M c n) i j = if i ≠ c ∧ c ≤ j then gm M i j - gm M i c / gm M c c * gm M c j else gm M i j:=by
 have hr:(iW M i).length = m:=h.row hi
 show gv (iW (redJ M c n) i) j = _
 rw [Mw (by rw [h.1]; exact hi)]
 by_cases e:i = c
 ·rw [if_neg (fun k=>k.1 e),if_neg (fun k=>k.1 e)]
 ·rw [if_pos ⟨e, hi⟩, tK, zH zo]
  by_cases e2:c ≤ j
  ·rw [if_pos ⟨e2,by omega⟩,if_pos ⟨e,e2⟩]
  ·rw [if_neg (fun k=>e2 k.1),if_neg (fun k=>e2 k.2)]
theorem Eo {M:List (List Qi)} {p c i:Nat} (hp:p < M.length) (hc:c < M.length):iW (swp [] M p c) i = iW M (if i = c then p else if i = p then c else i):=by
 simp only [iW,swp,List.getD]
 by_cases e:i = c
 ·subst e; rw [List.getElem?_set_self (by simpa using hc),if_pos rfl]; rfl
 ·rw [List.getElem?_set_ne (Ne.symm e), if_neg e]
  by_cases e2:i = p
  ·subst e2; rw [List.getElem?_set_self hp,if_pos rfl]; rfl
  ·rw [List.getElem?_set_ne (Ne.symm e2),if_neg e2]
theorem Py {M:List (List Qi)} {n m p c:Nat} {x:Nat → Qi} (hl:M.length = n) (hp:p < n) (hc:c < n):Wp (swp [] M p c) n m x ↔ Wp M n m x:=by
 have key : ∀ i, gm (swp [] M p c) i = gm M (if i = c then p else if i = p then c else i) := fun i => by
  funext j; exact congrArg (fun r=>gv r j) (Eo zo zo)
 constructor
 ·intro h i hi
  have h1:=h (if i = c then p else if i = p then c else i) (by split <;> (try split) <;> omega)
  rw [key] at h1
  have e : (if (if i = c then p else if i = p then c else i) = c then p else if (if i = c then p else if i = p then c else i) = p then c else (if i = c then p else if i = p then c else i)) = i := by
   by_cases e1:i = c
   ·subst e1; rw [if_pos rfl]
    by_cases e2:p = i
    ·rw [if_pos e2]; exact e2
    ·rw [if_neg e2,if_pos rfl]
   ·rw [if_neg e1]
    by_cases e2:i = p
    ·subst e2; rw [if_pos rfl,if_pos rfl]
    ·rw [if_neg e2,if_neg e1,if_neg e2]
  rw [e] at h1; exact h1
 ·intro h i hi
  rw [key]; exact h _ (by split <;> (try split) <;> omega)
theorem Px {M:List (List Qi)} {n m c:Nat} {x:Nat → Qi} (hs:iA M n m) (hc:c < n) (hz:∀ j,j < c → gm M c j = 0):Wp (redJ M c n) n m x ↔ Wp M n m x:=by
 have key : ∀ i, i < n → i ≠ c → eC m (fun k => gm (redJ M c n) i k * x k) = eC m (fun k => gm M i k * x k) - gm M i c / gm M c c * eC m (fun k => gm M c k * x k) := fun i hi e => by
  rw [← Cu]
  refine kK fun k hk=>?_
  rw [uP hs hi hk]
  by_cases e2:c ≤ k
  ·rw [if_pos ⟨e,e2⟩]; grind
  ·rw [if_neg (fun h=>e2 h.2),hz k zo]; grind
 have keyc:eC m (fun k=>gm (redJ M c n) c k * x k) = eC m (fun k=>gm M c k * x k):=kK fun k hk=>by rw [uP hs hc hk,if_neg (fun h=>h.1 rfl)]
 constructor
 ·intro h i hi
  have h0:=h c hc
  rw [keyc] at h0
  by_cases e:i = c
  ·rw [e]; exact h0
  ·have h1 := h i hi
   rw [key i hi e,h0] at h1
   grind
 ·intro h i hi
  have h0:=h c hc
  by_cases e:i = c
  ·rw [e,keyc]; exact h0
  ·rw [key i hi e,h0,h i hi]; grind
structure GJ (M A:List (List Qi)) (n m c:Nat):Prop where
 sh:iA A n m
 ker:∀ x,Wp A n m x ↔ Wp M n m x
 off:∀ j,j < c → ∀ i,i < n → i ≠ j → gm A i j = 0
 dg:∀ j,j < c → gm A j j ≠ 0
theorem GJ.next {M A:List (List Qi)} {n m c p:Nat} (h:GJ M A n m c) (hc:c < n) (hnm:n ≤ m) (hcp:c ≤ p) (hp:p < n) (hz:gm A p c ≠ 0):GJ M (redJ (swp [] A p c) c n) n m (c + 1):=by
 have hs:iA (swp [] A p c) n m:=zW h.sh hp hc
 have hl:=h.sh.1
 have key : ∀ i, gm (swp [] A p c) i = gm A (if i = c then p else if i = p then c else i) := fun i => by
  funext j; exact congrArg (fun r=>gv r j) (Eo zo zo)
 have hcc:gm (swp [] A p c) c c ≠ 0:=by rw [key,if_pos rfl]; exact hz
 have hoff : ∀ j, j < c → ∀ i, i < n → i ≠ j → gm (swp [] A p c) i j = 0 := fun j hj i hi hij => by
  rw [key]
  by_cases e1:i = c
  ·rw [if_pos e1]; exact h.off j hj p hp zo
  ·rw [if_neg e1]
   by_cases e2:i = p
   ·rw [if_pos e2]; exact h.off j hj c hc zo
   ·rw [if_neg e2]; exact h.off j hj i hi hij
 refine ⟨Mx hs,fun x=>(Px hs hc (fun j hj=>hoff j hj c hc zo)).trans ((Py hl hp hc).trans (h.ker x)),fun j hj i hi hij=>?_,fun j hj=>?_⟩
 ·rw [uP hs hi zo]
  by_cases e:j = c
  ·subst e
   rw [if_pos ⟨hij,Nat.le_refl _⟩]
   have:=yZ (x:=gm (swp [] A p j) i j) hcc
   grind
  ·rw [if_neg (fun k=>by omega)]; exact hoff j zo i hi hij
 ·rw [uP hs zo zo]
  by_cases e:j = c
  ·subst e; rw [if_neg (fun k=>k.1 rfl)]; exact hcc
  ·rw [if_neg (fun k=>by omega),key,if_neg zo,if_neg zo]; exact h.dg j zo
theorem Lc {M : List (List Qi)} {n m : Nat} (hs : iA M n m) (hnm : n ≤ m) : ∀ {c : Nat} {A : List (List Qi)}, c ≤ n → Ie M c = some A → GJ M A n m c
 | 0, A, _, h => by
  obtain rfl:=Option.some.inj h
  exact ⟨hs,fun _=>Iff.rfl,fun j hj=>by omega,fun j hj=>by omega⟩
 | c + 1, A, hc, h => by
  simp only [Ie] at h
  obtain ⟨B,h1,h2⟩:=Option.bind_eq_some_iff.1 h
  split at h2
  ·cases h2
  ·rename_i e
   obtain rfl:=Option.some.inj h2
   have ih:=Lc hs hnm (c:=c) zo h1
   rw [hs.1] at e ⊢
   obtain ⟨_,i2,i3,i4⟩:=rV (M:=B) (c:=c) (n:=n) zo
   exact ih.next zo hnm i2 zo (i4 zo)
theorem Ij {rr rc : List Qi} {L c k : Nat} (h1 : fS rr L) (h2 : fS rc L) (hL : 1 ≤ L) (hp : gv rc c ≠ Qi.zero) : fS (tK rr rc c k) (6 * L + 4) := fS.tab fun j _ => by
 split
 ·exact Fz h1 h2 hL hp
 ·exact (h1.get hL j).le zo
theorem Mu {M : List (List Qi)} {L c r : Nat} (h : bS M L) (hL : 1 ≤ L) (hp : gm M c c ≠ Qi.zero) : bS (redJ M c r) (6 * L + 4) := fun x hx => by
 obtain ⟨i,hi,rfl⟩:=iP.1 hx
 show fS (if i ≠ c ∧ i < r then tK (iW M i) (iW M c) c (iW M i).length else iW M i) _
 split
 ·exact Ij (h.row i) (h.row c) hL hp
 ·exact (h.row i).le zo
theorem Lb {M : List (List Qi)} {n m L : Nat} (hs : iA M n m) (hnm : n ≤ m) (h : bS M L) (hL : 1 ≤ L) : ∀ {c : Nat} {A : List (List Qi)}, c ≤ n → Ie M c = some A → bS A (grow L c)
 | 0,A,_,e=>by obtain rfl:=Option.some.inj e; exact h
 | c + 1, A, hc, e => by
  simp only [Ie] at e
  obtain ⟨B,h1,h2⟩:=Option.bind_eq_some_iff.1 e
  split at h2
  ·cases h2
  ·rename_i e3
   obtain rfl:=Option.some.inj h2
   have ih:=Lb hs hnm h hL (c:=c) zo h1
   have hsB:=(Lc hs hnm (c:=c) zo h1).sh
   rw [hs.1] at e3 ⊢
   obtain ⟨_,i2,i3,i4⟩:=rV (M:=B) (c:=c) (n:=n) zo
   refine Mu (Hj ih) (Nat.le_trans hL (uH L c)) ?_
   show gv (iW (swp [] _ _ c) c) c ≠ _
   rw [zU (by rw [hsB.1]; omega)]
   exact i4 zo
end
section
open Go Go.RowKit
abbrev pA (ps:List (Nat × Nat)) (k:Nat):Nat:=(ps.getD k (0,0)).1
abbrev pB (ps:List (Nat × Nat)) (k:Nat):Nat:=(ps.getD k (0,0)).2
end
section
open Go Go.RowKit
def Vc (A:List (List Qi)) (c i j:Nat):Qi:=if j < c ∧ j < i then 0 else gm A i j
def wS (F:Nat → Nat → Qi) (n m:Nat) (x:Nat → Qi):Prop:=∀ i,i < n → eC m (fun k=>F i k * x k) = 0
theorem Dw {F G:Nat → Nat → Qi} {n m:Nat} {x:Nat → Qi} (h:∀ i,i < n → ∀ j,j < m → F i j = G i j):wS F n m x ↔ wS G n m x:=by
 have e:∀ i,i < n → eC m (fun k=>F i k * x k) = eC m (fun k=>G i k * x k):=fun i hi=>kK fun k hk=>by rw [h i hi k hk]
 exact ⟨fun k i hi=>by rw [← e i hi]; exact k i hi,fun k i hi=>by rw [e i hi]; exact k i hi⟩
def No (p c i:Nat):Nat:=if i = c then p else if i = p then c else i
theorem Np {p c i n:Nat} (hp:p < n) (hc:c < n) (hi:i < n):No p c i < n:=by unfold No; split <;> (try split) <;> omega
theorem Sa (p c i:Nat):No p c (No p c i) = i:=by
 unfold No
 by_cases e1:i = c
 ·subst e1
  rw [if_pos rfl]
  by_cases e2:p = i
  ·rw [if_pos e2]; exact e2
  ·rw [if_neg e2,if_pos rfl]
 ·rw [if_neg e1]
  by_cases e2:i = p
  ·subst e2; rw [if_pos rfl,if_pos rfl]
  ·rw [if_neg e2,if_neg e1,if_neg e2]
theorem Lk {F : Nat → Nat → Qi} {n m p c : Nat} {x : Nat → Qi} (hp : p < n) (hc : c < n) : wS (fun i => F (No p c i)) n m x ↔ wS F n m x :=
 ⟨fun h i hi=>by have:=h _ (Np hp hc hi); simp only [Sa] at this; exact this,fun h i hi=>h _ (Np hp hc hi)⟩
theorem Lj {F G:Nat → Nat → Qi} {n m c:Nat} {x f:Nat → Qi} (hc:c < n) (hG:∀ i,i < n → ∀ j,j < m → G i j = if c < i then F i j - f i * F c j else F i j):wS G n m x ↔ wS F n m x:=by
 have key : ∀ i, i < n → eC m (fun k => G i k * x k) = if c < i then eC m (fun k => F i k * x k) - f i * eC m (fun k => F c k * x k) else eC m (fun k => F i k * x k) := fun i hi => by
  by_cases e:c < i
  ·rw [if_pos e, ← Cu]
   exact kK fun k hk=>by rw [hG i hi k hk,if_pos e]; grind
  ·rw [if_neg e]
   exact kK fun k hk=>by rw [hG i hi k hk,if_neg e]
 have kc:=key c hc
 rw [if_neg zo] at kc
 constructor
 ·intro h i hi
  have h0:=h c hc
  rw [kc] at h0
  have h1:=h i hi
  rw [key i hi] at h1
  by_cases e:c < i
  ·rw [if_pos e,h0] at h1; grind
  ·rw [if_neg e] at h1; exact h1
 ·intro h i hi
  rw [key i hi]
  by_cases e:c < i
  ·rw [if_pos e,h i hi,h c hc]; grind
  ·rw [if_neg e]; exact h i hi
theorem Ri {M:List (List Qi)} {n m c i j:Nat} (h:iA M n m) (hi:i < n) (hj:j < m):gm (redM M c n) i j = if c < i ∧ c < j then gm M i j - gm M i c / gm M c c * gm M c j else gm M i j:=by
 have hr:(iW M i).length = m:=h.row hi
 have e0 : iW (redM M c n) i = if c < i ∧ i < n then Ck (iW M i) (iW M c) c (iW M i).length else iW M i := by
  simp only [iW,redM,List.getD]; rw [fE (by rw [h.1]; exact hi)]; rfl
 show gv (iW (redM M c n) i) j = _
 rw [e0]
 by_cases e:c < i
 ·rw [if_pos ⟨e, hi⟩, Ck, zH zo]
  by_cases e2:c < j
  ·rw [if_pos ⟨e2,by omega⟩,if_pos ⟨e,e2⟩]
  ·rw [if_neg (fun k=>e2 k.1),if_neg (fun k=>e2 k.2)]
 ·rw [if_neg (fun k=>e k.1),if_neg (fun k=>e k.1)]
theorem Pj {A:List (List Qi)} {p c i j:Nat} (hc:c < A.length) (hp:p < A.length) (hcp:c ≤ p):Vc (swp [] A p c) c i j = Vc A c (No p c i) j:=by
 have key:gm (swp [] A p c) i j = gm A (No p c i) j:=congrArg (fun r=>gv r j) (Eo zo zo)
 unfold Vc
 rw [key]
 have e:(j < c ∧ j < i) ↔ (j < c ∧ j < No p c i):=by unfold No; split <;> (try split) <;> omega
 by_cases h:j < c ∧ j < i
 ·rw [if_pos h,if_pos (e.1 h)]
 ·rw [if_neg h,if_neg (fun k=>h (e.2 k))]
structure EL (M A:List (List Qi)) (n m c:Nat):Prop where
 sh:iA A n m
 ker:∀ x,wS (Vc A c) n m x ↔ wS (gm M) n m x
theorem EL.next {M A:List (List Qi)} {n m c p:Nat} (h:EL M A n m c) (hc:c < n) (hcm:c < m) (hcp:c ≤ p) (hp:p < n) (hz:gm A p c ≠ 0):EL M (redM (if p = c then A else swp [] A p c) c n) n m (c + 1):=by
 have hl:=h.sh.1
 obtain ⟨B,hB⟩:∃ B,B = if p = c then A else swp [] A p c:=⟨_,rfl⟩
 have hs : iA B n m := by
  rw [hB]; split
  ·exact h.sh
  ·exact zW h.sh hp hc
 have hBk : ∀ x, wS (Vc B c) n m x ↔ wS (gm M) n m x := fun x => by
  rw [hB]; split
  ·exact h.ker x
  ·exact (Dw (G:=fun i=>Vc A c (No p c i)) fun i hi j hj=>Pj zo zo hcp).trans ((Lk hp hc).trans (h.ker x))
 have hBz : gm B c c ≠ 0 := by
  rw [hB]; split
  ·rename_i e; rw [← e] at hz ⊢; exact hz
  ·show gv (iW (swp [] A p c) c) c ≠ 0
   rw [zU zo]; exact hz
 rw [← hB]
 refine ⟨Cj hs,fun x=>(Lj (f:=fun i=>gm B i c / gm B c c) hc fun i hi j hj=>?_).trans (hBk x)⟩
 have hd:=yZ (x:=gm B i c) hBz
 unfold Vc
 rw [Ri hs hi hj]
 by_cases e:c < i
 ·rw [if_pos e]
  by_cases e1:j < c
  ·rw [if_pos zo,if_pos zo,if_pos zo]; grind
  ·by_cases e2 : j = c
   ·subst e2
    rw [if_pos zo,if_neg zo,if_neg zo]; grind
   ·rw [if_neg zo,if_pos zo,if_neg zo,if_neg zo]
 ·rw [if_neg e, if_neg (show ¬ (c < i ∧ c < j) from fun k => e k.1)]
  by_cases e1:j < i
  ·rw [if_pos (show j < c + 1 ∧ j < i by omega),if_pos (show j < c ∧ j < i by omega)]
  ·rw [if_neg (show ¬ (j < c + 1 ∧ j < i) by omega),if_neg (show ¬ (j < c ∧ j < i) by omega)]
end
section
open Go Go.RowKit
def Ja (G : List Nat) : Nat → List Nat
 | 0=>[]
 | k + 1=>Ja G k ++ (if k ∈ G then [] else [k])
abbrev Zd (Q:List Nat) (i:Nat):Nat:=Q.getD i 0
end
section
open Go Go.RowKit
def gq (ps:List (Nat × Nat)) (x:Nat):Nat:=if x % 2 = 0 then pA ps (x / 2) else pB ps (x / 2)
structure Jn (ps:List (Nat × Nat)) (n K:Nat):Prop where
 lt:∀ x,x < 2 * K → gq ps x < n
 inj:∀ x y,x < 2 * K → y < 2 * K → gq ps x = gq ps y → x = y
theorem Jn.le {ps:List (Nat × Nat)} {n K k:Nat} (h:Jn ps n K) (hk:k ≤ K):Jn ps n k:=⟨fun x hx=>h.lt x zo,fun x y hx hy=>h.inj x y zo zo⟩
end
section
open Go Go.RowKit
theorem Zc : ∀ {n m : Nat} {f : Nat → Nat}, (∀ x, x < m → f x < n) → (∀ x y, x < m → y < m → f x = f y → x = y) → m ≤ n
 | 0, m, f, h, _ => by
  cases m with
  | zero=>exact Nat.le_refl 0
  | succ m=>exact absurd (h 0 zo) zo
 | n + 1,0,_,_,_=>by omega
 | n + 1, k + 1, f, h, i => by
  have := Zc (n := n) (m := k) (f := fun x => if f x = n then f k else f x) (fun x hx => by
   have h1:=h x zo
   have h2:=h k zo
   by_cases c:f x = n
   ·simp only [if_pos c]
    have:f k ≠ n:=fun e=>by have:=i x k zo zo (by rw [c,e]); omega
    omega
   ·simp only [if_neg c]; omega) (fun x y hx hy e=>by
   by_cases c:f x = n <;> by_cases d:f y = n
   ·exact i x y zo zo (by rw [c,d])
   ·simp only [if_pos c, if_neg d] at e
    have:=i k y zo zo e; omega
   ·simp only [if_neg c, if_pos d] at e
    have:=i x k zo zo e; omega
   ·simp only [if_neg c, if_neg d] at e
    exact i x y zo zo e)
  omega
end
section
open Go Go.RowKit
theorem Pt {x y:Qi} {L M:Nat} (hx:aL x L) (hy:aL y M) (h:y ≠ 0):aL (x / y) (L + 3 * M + 2):=⟨hx.fit.div hy.fit h⟩
end
section
open Go Go.RowKit
structure xB (O:List Nat) (n:Nat):Prop where
 nd:O.Nodup
 all:∀ x,x ∈ O ↔ 1 ≤ x ∧ x ≤ n
theorem xB.len {O:List Nat} {n:Nat} (h:xB O n):O.length = n:=by
 refine Nat.le_antisymm ?_ ?_
 ·refine Zc (n := n) (f := fun i => O.getD i 0 - 1) (fun x hx => ?_) (fun x y hx hy e => ?_)
  ·have := (h.all (O.getD x 0)).1 (by rw [show O.getD x 0 = O[x] by simp [List.getD, hx]]; exact List.getElem_mem hx)
   show O.getD x 0 - 1 < n; omega
  ·have a := (h.all (O.getD x 0)).1 (by rw [show O.getD x 0 = O[x] by simp [List.getD, hx]]; exact List.getElem_mem hx)
   have b:=(h.all (O.getD y 0)).1 (by rw [show O.getD y 0 = O[y] by simp [List.getD,hy]]; exact List.getElem_mem hy)
   have e2:O.getD x 0 = O.getD y 0:=by have:O.getD x 0 - 1 = O.getD y 0 - 1:=e; omega
   rw [show O.getD x 0 = O[x] by simp [List.getD,hx],show O.getD y 0 = O[y] by simp [List.getD,hy]] at e2
   exact (List.getElem_inj h.nd).1 e2
 ·have key : ∀ j, j < n → ∃ i, i < O.length ∧ O.getD i 0 = j + 1 := fun j hj => by
   obtain ⟨i,hi,e⟩:=List.getElem_of_mem ((h.all (j + 1)).2 ⟨by omega,by omega⟩)
   exact ⟨i,hi,by simp [List.getD,hi,e]⟩
  refine Zc (n:=O.length) (f:=fun j=>if hj:j < n then Classical.choose (key j hj) else 0) (fun x hx=>by simp only [dif_pos hx]; exact (Classical.choose_spec (key x hx)).1) (fun x y hx hy e=>?_)
  simp only [dif_pos hx,dif_pos hy] at e
  have a:=(Classical.choose_spec (key x hx)).2
  have b:=(Classical.choose_spec (key y hy)).2
  rw [e] at a; omega
section
variable {O:List Nat} {n:Nat}
theorem xB.at (h:xB O n) {i:Nat} (hi:i < n):1 ≤ O.getD i 0 ∧ O.getD i 0 ≤ n:=by
 have hl:=h.len
 exact (h.all _).1 (by rw [show O.getD i 0 = O[i] by simp [List.getD,show i < O.length by omega]]; exact List.getElem_mem _)
theorem xB.inj (h:xB O n) {i j:Nat} (hi:i < n) (hj:j < n) (e:O.getD i 0 = O.getD j 0):i = j:=by
 have hl:=h.len
 rw [show O.getD i 0 = O[i] by simp [List.getD,show i < O.length by omega],show O.getD j 0 = O[j] by simp [List.getD,show j < O.length by omega]] at e
 exact (List.getElem_inj h.nd).1 e
end
end
section
open Go Go.RowKit
section
variable {S:List (List Qi)} {p q r t a b:Nat}
theorem Rz {x y:Qi} (h:x - y = 0):x = y:=by grind
end
section
variable {S:Nat → Nat → Qi} {p q r t a b:Nat}
def S1 (S:Nat → Nat → Qi) (p q:Nat) (V:Nat → Qi × Qi) (a b:Nat):Qi:=S a b + (S a p * (V b).1 + S a q * (V b).2)
variable {V:Nat → Qi × Qi}
end
end
section
open Go Go.RowKit
def low (c a b:Nat):Nat:=c - (if a < c then 1 else 0) - (if b < c then 1 else 0)
def okP (N p q r t : Nat) : Bool :=
 decide ((Ja [p,q] N).length = N - 2) && decide (low r p q < N - 2) && decide (low t p q < N - 2) && decide (low r p q ≠ low t p q) && decide (Zd (Ja [p,q] N) (low r p q) = r) && decide (Zd (Ja [p,q] N) (low t p q) = t)
 && decide ((Ja [low r p q,low t p q] (N - 2)).map (Zd (Ja [p,q] N)) = Ja [p,q,r,t] N) && decide ((Ja [p,q,r,t] N).length = N - 4) && decide (Ja [t,r,p,q] N = Ja [p,q,r,t] N) && decide (Ja [r,t,p,q] N = Ja [p,q,r,t] N)
section
variable {z:List Qi} {S:List (List Qi)} {N p q r t:Nat} {ζ:Qi}
end
end
section
open Go Go.RowKit
def Gb (x:Qi) (N:Nat):Prop:=∃ p q:Int,x = Qi.mk (p:Rat) (q:Rat) ∧ p.natAbs ≤ N ∧ q.natAbs ≤ N
theorem Gb.le {x:Qi} {N M:Nat} (h:Gb x N) (k:N ≤ M):Gb x M:=by
 obtain ⟨p,q,e,h1,h2⟩:=h; exact ⟨p,q,e,by omega,by omega⟩
theorem Gb.add {x y:Qi} {N M:Nat} (h:Gb x N) (k:Gb y M):Gb (x + y) (N + M):=by
 obtain ⟨p,q,rfl,h1,h2⟩:=h; obtain ⟨r,s,rfl,k1,k2⟩:=k
 refine ⟨p + r,q + s,Qi.ext' ?_ ?_,by omega,by omega⟩
 ·show (p:Rat) + (r:Rat) = ((p + r:Int):Rat); push_cast; rfl
 ·show (q:Rat) + (s:Rat) = ((q + s:Int):Rat); push_cast; rfl
theorem Gb.neg {x:Qi} {N:Nat} (h:Gb x N):Gb (-x) N:=by
 obtain ⟨p,q,rfl,h1,h2⟩:=h
 refine ⟨-p,-q,Qi.ext' ?_ ?_,by omega,by omega⟩
 ·show -(p:Rat) = ((-p:Int):Rat); push_cast; rfl
 ·show -(q:Rat) = ((-q:Int):Rat); push_cast; rfl
theorem Gb.sub {x y:Qi} {N M:Nat} (h:Gb x N) (k:Gb y M):Gb (x - y) (N + M):=by rw [Qi.sub_def]; exact h.add k.neg
theorem uM {p q:Int} {N M:Nat} (h:p.natAbs ≤ N) (k:q.natAbs ≤ M):(p * q).natAbs ≤ N * M:=by rw [Int.natAbs_mul]; exact Nat.mul_le_mul h k
theorem Gb.mul {x y:Qi} {N M:Nat} (h:Gb x N) (k:Gb y M):Gb (x * y) (2 * N * M):=by
 obtain ⟨p,q,rfl,h1,h2⟩:=h; obtain ⟨r,s,rfl,k1,k2⟩:=k
 have a1:=uM h1 k1; have a2:=uM h2 k2; have a3:=uM h1 k2; have a4:=uM h2 k1
 have e:2 * N * M = N * M + N * M:=by rw [Nat.mul_assoc,Nat.two_mul]
 refine ⟨p * r - q * s,p * s + q * r,Qi.ext' ?_ ?_,by omega,by omega⟩
 ·rw [Qi.mul_re]; show (p:Rat) * (r:Rat) - (q:Rat) * (s:Rat) = ((p * r - q * s:Int):Rat); push_cast; rfl
 ·rw [Qi.mul_im]; show (p:Rat) * (s:Rat) + (q:Rat) * (r:Rat) = ((p * s + q * r:Int):Rat); push_cast; rfl
theorem Gb.sum {f : Nat → Qi} {N : Nat} : ∀ {n : Nat}, (∀ k, k < n → Gb (f k) N) → Gb (eC n f) (n * N)
 | 0,_=>⟨0,0,Qi.ext' rfl rfl,by simp,by simp⟩
 | n + 1, h => by
  rw [eC,Nat.succ_mul]
  exact (Gb.sum fun k hk=>h k zo).add (h n zo)
theorem Gb.fit {x:Qi} {N L:Nat} (h:Gb x N) (hN:N < BB ^ L) (hL:1 ≤ L):aL x L:=by
 obtain ⟨p,q,rfl,h1,h2⟩:=h
 have e:Qi.mk (p:Rat) (q:Rat) = Qi.mk' p q 1:=Qi.ext' (by rw [Qi.mk_re]; show (p:Rat) = p / ((1:Nat):Rat); grind) (by rw [Qi.mk_im]; show (q:Rat) = q / ((1:Nat):Rat); grind)
 rw [e]
 exact ⟨Qi.Fit.mk (by decide) zo zo (Qi.one_lt hL)⟩
end
section
open Go Go.RowKit
section
variable {a b:Qi} {A B C:List (List Qi)} {d e:Nat → Qi} {n:Nat}
end
theorem q2:Qi.ofInt 2 = 2:=rfl
section
variable {z:List Qi} {s:List (List Qi)}
end
end
section
open Go Go.RowKit
def sA (r:List Qi) (w:Nat):Prop:=∃ d:Qi,d ≠ 0 ∧ Gb d (BB ^ w) ∧ ∀ j,Gb (d * gv r j) (BB ^ w)
theorem sA.le {r:List Qi} {w v:Nat} (h:sA r w) (k:w ≤ v):sA r v:=by
 obtain ⟨d,d0,dg,dj⟩:=h
 have hp:BB ^ w ≤ BB ^ v:=Nat.pow_le_pow_right dN k
 exact ⟨d,d0,dg.le hp,fun j=>(dj j).le hp⟩
theorem Er (w:Nat):2 * BB ^ w * BB ^ w + 2 * BB ^ w * BB ^ w ≤ BB ^ (2 * w + 1):=by
 have e:BB ^ (2 * w + 1) = BB ^ w * BB ^ w * BB:=by rw [Nat.pow_succ,Nat.two_mul,Nat.pow_add]
 rw [e,Nat.mul_assoc 2,← Nat.two_mul,← Nat.mul_assoc 2 2,Nat.mul_comm (2 * 2)]
 exact Nat.mul_le_mul_left _ (by decide)
theorem Vi {l:List Qi} {j:Nat} (h:l.length ≤ j):gv l j = 0:=by simp [gv,List.getD,List.getElem?_eq_none h]; rfl
theorem Pw (N:Nat):Gb 0 N:=⟨0,0,Qi.ext' rfl rfl,by simp,by simp⟩
theorem sA.red {rr rc:List Qi} {c w:Nat} {P:Nat → Prop} [DecidablePred P] (h1:sA rr w) (h2:sA rc w) (hp:gv rc c ≠ 0):sA (tab rr.length fun j=>if P j then gv rr j - gv rr c / gv rc c * gv rc j else gv rr j) (2 * w + 1):=by
 obtain ⟨d,d0,dg,dj⟩:=h1
 obtain ⟨e,e0,eg,ej⟩:=h2
 have t:=Er w
 refine ⟨d * (e * gv rc c),fun k=>?_,(dg.mul (ej c)).le zo,fun j=>?_⟩
 ·rcases tI k with k | k
  ·exact d0 k
  ·rcases tI k with k | k
   ·exact e0 k
   ·exact hp k
 ·by_cases hj : j < rr.length
  ·rw [zH hj]
   by_cases hP:P j
   ·rw [if_pos hP]
    have hd:=yZ (x:=gv rr c) hp
    have ee : d * (e * gv rc c) * (gv rr j - gv rr c / gv rc c * gv rc j) = d * gv rr j * (e * gv rc c) - d * gv rr c * (e * gv rc j) := by
     have e2:d * (e * gv rc c) * (gv rr c / gv rc c * gv rc j) = d * (gv rr c / gv rc c * gv rc c) * (e * gv rc j):=by grind
     rw [hd] at e2
     grind
    rw [ee]
    exact (((dj j).mul (ej c)).sub ((dj c).mul (ej j))).le t
   ·rw [if_neg hP]
    have ee:d * (e * gv rc c) * gv rr j = d * gv rr j * (e * gv rc c):=by grind
    rw [ee]
    exact ((dj j).mul (ej c)).le zo
  ·rw [Vi (l := tab rr.length fun j => if P j then gv rr j - gv rr c / gv rc c * gv rc j else gv rr j) (by rw [bR]; omega)]
   have ee:d * (e * gv rc c) * 0 = 0:=by grind
   rw [ee]; exact Pw _
theorem sA.fit {r : List Qi} {w : Nat} (h : sA r w) : fS r (4 * (w + 1) + 2) := fun x hx => by
 obtain ⟨d,d0,dg,dj⟩:=h
 obtain ⟨j,hj,e⟩:=List.getElem_of_mem hx
 have e2:gv r j = x:=by simp [gv,List.getD,hj,e]
 have hlt:BB ^ w < BB ^ (w + 1):=Nat.pow_lt_pow_right (by decide) zo
 have f1:aL (d * gv r j) (w + 1):=(dj j).fit hlt zo
 have f2:aL d (w + 1):=dg.fit hlt zo
 have f3:aL (d * gv r j / d) (w + 1 + 3 * (w + 1) + 2):=Pt f1 f2 d0
 rw [Vf (z:=x) d0 (by rw [e2]; grind)] at f3
 exact f3.le zo
abbrev nW (M:List (List Qi)) (w:Nat):Prop:=∀ r,r ∈ M → sA r w
theorem nW.row {M : List (List Qi)} {w i : Nat} (h : nW M w) (hi : i < M.length) : sA (iW M i) w := h _ (by
 rw [show iW M i = M[i] by simp [iW,List.getD,hi]]; exact List.getElem_mem hi)
theorem nW.swp {M : List (List Qi)} {w p c : Nat} (h : nW M w) (hp : p < M.length) (hc : c < M.length) : nW (swp [] M p c) w := fun x hx => by
 unfold Go.Proofs.YthcmlodgnfekeaaGreat.swp at hx
 rcases List.mem_or_eq_of_mem_set hx with h1 | h1
 ·rcases List.mem_or_eq_of_mem_set h1 with h2 | h2
  ·exact h x h2
  ·rw [h2]; exact h.row hc
 ·rw [h1]; exact h.row hp
theorem nW.redM {M : List (List Qi)} {w c r : Nat} (h : nW M w) (hc : c < M.length) (hp : gm M c c ≠ Qi.zero) : nW (redM M c r) (2 * w + 1) := fun x hx => by
 obtain ⟨i,hi,rfl⟩:=iP.1 hx
 show sA (if c < i ∧ i < r then Ck (iW M i) (iW M c) c (iW M i).length else iW M i) _
 split
 ·exact (h.row hi).red (h.row hc) hp
 ·exact (h.row hi).le zo
theorem nW.redJ {M : List (List Qi)} {w c r : Nat} (h : nW M w) (hc : c < M.length) (hp : gm M c c ≠ Qi.zero) : nW (redJ M c r) (2 * w + 1) := fun x hx => by
 obtain ⟨i,hi,rfl⟩:=iP.1 hx
 show sA (if i ≠ c ∧ i < r then tK (iW M i) (iW M c) c (iW M i).length else iW M i) _
 split
 ·exact (h.row hi).red (h.row hc) hp
 ·exact (h.row hi).le zo
structure Zl (M:List (List Qi)) (b:List Qi) (n G X:Nat):Prop where
 st:∀ c,c ≤ n → bS (iJ (tG M [b] n) c).1 G
 bk:Yg M b n = 0 → ∀ j,j ≤ n → fS (Yn (Io M b n).1 n j) X
 g1:1 ≤ G
 x1:1 ≤ X
 g:6 * G + 4 ≤ 17592186044415
 x:n * (X + G + 2) + 4 * G + 2 ≤ 17592186044415
theorem Zl.old {M:List (List Qi)} {b:List Qi} {n L:Nat} (hM:iA M n n) (hf:bS M L) (hfb:fS b L) (hL:1 ≤ L) (hg:6 * grow L n + 4 ≤ 17592186044415) (hx:Hm (grow L n) (n + 1) ≤ 17592186044415):Zl M b n (grow L n) (Hm (grow L n) n):=by
 have hcs:iA (tG M [b] n) n (n + 1):=sI hM
 have hcf:bS (tG M [b] n) L:=sH hf (fun r hr=>by simp at hr; subst hr; exact hfb) hL
 have hG1:1 ≤ grow L n:=Nat.le_trans hL (uH L n)
 refine ⟨fun c hc=>(vP hcs hcf hL hc).le (pO L hc),fun hE j hj=>?_,hG1,Nat.le_trans hG1 (Et _ _),hg,hx⟩
 have hst:¬ 0 ≤ (Io M b n).2.2:=fun h=>by rw [Yg,if_pos h] at hE; omega
 have hf2:=Jt (Ni hM hf hfb hL) hG1 (xO hcs (Nat.le_refl n) (Rv hst)) j hj
 exact fun y hy=>(hf2 y hy).le (Cy _ hj)
structure Zk (M:List (List Qi)) (b:List Qi) (n G:Nat):Prop where
 st:∀ c A,c ≤ n → Ie (tG M [b] n) c = some A → bS A G
 g1:1 ≤ G
 g:6 * G + 4 ≤ 17592186044415
theorem Zk.old {M : List (List Qi)} {b : List Qi} {n L : Nat} (hM : iA M n n) (hf : bS M L) (hfb : fS b L) (hL : 1 ≤ L) (hg : 6 * grow L n + 4 ≤ 17592186044415) : Zk M b n (grow L n) :=
 ⟨fun _ _ hc hA=>(Lb (show iA (tG M [b] n) n (n + 1) from sI hM) (Nat.le_succ n) (sH hf (fun r hr=>by simp at hr; subst hr; exact hfb) hL) hL hc hA).le (pO L hc),Nat.le_trans hL (uH L n),hg⟩
end
section
open Go Go.RowKit
open Fl
theorem Mo {f g lo hi : Qi} {o : Int} {L : Nat} (hf : aL f L) (hg : aL g L) : ∀ x, x ∈ jJ f g lo hi o → Da (2 * L + 8) x := fun x hx => by
 unfold jJ at hx
 split at hx
 ·rename_i he
  have hb : qL f g lo hi o = false := by
   cases h:qL f g lo hi o with
   | false=>rfl
   | true=>rw [rT h] at he; cases he
  obtain ⟨pf1,pg1,-,-,o1,o2⟩:=yL hb
  exact Gg hf hg (Fl.pos_re pf1) (Fl.pos_re pg1) zo x ((rY _).mem_iff.1 hx)
 ·cases hx
theorem Mp (f g lo hi:Qi) (o:Int):(jJ f g lo hi o).length ≤ 961:=by
 unfold jJ
 split
 ·rename_i he
  have hb : qL f g lo hi o = false := by
   cases h:qL f g lo hi o with
   | false=>rfl
   | true=>rw [rT h] at he; cases he
  obtain ⟨-,-,-,-,o1,o2⟩:=yL hb
  rw [(rY _).length_eq]; exact Gf zo
 ·exact Nat.zero_le _
theorem Vj {f g:Qi} {L:Nat} (hf:aL f L) (hg:aL g L):aL (xT f g) (6 * L + 8):=by
 unfold xT
 split
 ·haveI := hf; haveI := hg
  have h:aL (f * f * f / g) (L + L + 1 + L + 1 + 3 * L + 2):=inferInstance
  exact h.le zo
 ·exact aL.zero zo
theorem tU {f g lo hi:Rt} {o:Int}:bB Tryz.prog 10 [Ad f,Ad g,Ad lo,Ad hi,aF .i64 o] (aC true):=by
 have f1:aL f.q 2:=inferInstance
 have f2:aL g.q 2:=inferInstance
 have f3:aL lo.q 2:=inferInstance
 have f4:aL hi.q 2:=inferInstance
 have gI:=Vj f1 f2
 have gP:=Mo (lo:=lo.q) (hi:=hi.q) (o:=o) f1 f2
 have gl:=Mp f.q g.q lo.q hi.q o
 refine bB.intro Tryz.func10 rfl Tryz.ntmps10 rfl (fun cx=>(ts (rn rfl (fG (Ht rfl)) fun B5=>(rn rfl (fG (Ht rfl)) fun B6=>(rn rfl (fG (Ht rfl)) fun B7=>(rn rfl (fG (Ht rfl)) fun B8=>(ro rfl (cQ cV) (eX (cK (fZ (m:=14) (dp 5 rfl (eJ A_23 Z_23 (Ht rfl) (i:=0) rfl rfl rfl) (dq 19 0 rfl (cZ K_14 (nF (r:=f)) ⟨(Ht rfl),trivial⟩) ?_))))))))))))
 refine dp 6 rfl (eJ A_23 Z_23 (Ht rfl) (i:=1) rfl rfl rfl) (dq 21 2 rfl (cZ K_14 (nF (r:=g)) ⟨(Ht rfl),trivial⟩) ?_)
 refine dp 7 rfl (eJ A_23 Z_23 (Ht rfl) (i:=2) rfl rfl rfl) (dq 23 4 rfl (cZ K_14 (nF (r:=lo)) ⟨(Ht rfl),trivial⟩) ?_)
 refine dp 8 rfl (eJ A_23 Z_23 (Ht rfl) (i:=3) rfl rfl rfl) (dq 25 6 rfl (cZ K_14 (nF (r:=hi)) ⟨(Ht rfl),trivial⟩) ?_)
 refine dp 4 rfl (cX (Ht rfl)) (C.D_step (Ei:=[(20,_),(22,_),(24,_),(26,_),(27,_)]) rfl rfl (bV (bG 1 rfl rfl) (bV (bG 3 rfl rfl) (bV (bG 5 rfl rfl) (bV (bG 7 rfl rfl) (bV (bG 8 rfl rfl) bW))))) (dX rfl (cZ Tryz.call74 (Dn (f:=f.q) (g:=g.q) (lo:=lo.q) (hi:=hi.q) (o:=o) (L:=2) f1 f2 f3 f4 (by decide)) ⟨(Ht rfl),(Ht rfl),(Ht rfl),(Ht rfl),(Ht rfl),trivial⟩)) (dq 28 9 rfl (cX (Ht rfl)) (dq 18 10 rfl (dK (Ht rfl) rfl) (dq 18 10 rfl (dK (Ht rfl) rfl) ?_))))
 refine dq 29 11 rfl (cQ (Ht rfl)) (fV mixed rfl (by kernel_rfl) (zF (zF (zF (aJ (aJ (aV (ra rfl (eX (cK (eD [0,1,2,3] rfl (by decide) (fZ (m:=14) (dp 5 rfl (eJ A_23 Z_23 (Ht rfl) (i:=0) rfl rfl rfl) (dq 32 0 rfl (cZ K_16 (xI (r:=f)) ⟨(Ht rfl),trivial⟩) ?_))))))))))))))
 refine dp 6 rfl (eJ A_23 Z_23 (Ht rfl) (i:=1) rfl rfl rfl) (dq 34 2 rfl (cZ K_16 (xI (r:=g)) ⟨(Ht rfl),trivial⟩) ?_)
 refine dp 7 rfl (eJ A_23 Z_23 (Ht rfl) (i:=2) rfl rfl rfl) (dq 36 4 rfl (cZ K_16 (xI (r:=lo)) ⟨(Ht rfl),trivial⟩) ?_)
 refine dp 8 rfl (eJ A_23 Z_23 (Ht rfl) (i:=3) rfl rfl rfl) (dq 38 6 rfl (cZ K_16 (xI (r:=hi)) ⟨(Ht rfl),trivial⟩) ?_)
 refine dp 4 rfl (cX (Ht rfl)) (C.D_step (Ei:=[(33,_),(35,_),(37,_),(39,_),(40,_)]) rfl rfl (bV (bG 1 rfl rfl) (bV (bG 3 rfl rfl) (bV (bG 5 rfl rfl) (bV (bG 7 rfl rfl) (bV (bG 8 rfl rfl) bW))))) (dX rfl (cZ Tryz.call75 (At (f:=f.q) (g:=g.q) (lo:=lo.q) (hi:=hi.q) (o:=o) (L:=2) f1 f2 f3 f4 (by decide)) ⟨(Ht rfl),(Ht rfl),(Ht rfl),(Ht rfl),(Ht rfl),trivial⟩)) (dq 41 9 rfl (cX (Ht rfl)) (dq 31 10 rfl (dK (Ht rfl) rfl) (dq 31 10 rfl (dK (Ht rfl) rfl) ?_))))
 refine dq 42 11 rfl (cQ (Ht rfl)) (fV mixed rfl (by kernel_rfl) (zF (zF (zF (aJ (aJ (aV (ra rfl (eX (cK (cK (eD [0,1,2,3] rfl (by decide) (cY (rm rfl (rm rfl (ro rfl (jH (Ht rfl) (Ht rfl)) (rm rfl (fQ rfl rfl (eK rfl rfl (Ht rfl) (fun h=>cX (Ht rfl))) (fQ rfl rfl (eK rfl rfl (Ht rfl) (fun h=>dG U_151 (fJ rfl h) aA)) (fQ rfl rfl (eK rfl rfl (Ht rfl) (fun h=>cX (Ht rfl))) ?_))))))))))))))))))))
 refine fQ rfl rfl (eK rfl rfl (Ht rfl) (fun h=>dG U_154 (fJ rfl h) aA)) (fQ rfl rfl (eK rfl rfl (Ht rfl) (fun h=>jY (fJ rfl h) (fJ rfl h))) (ro rfl (eE (Ht rfl) (fun h=>(fJ rfl h))) (eX (mD (Ht rfl) (by simp) ?_))))
 refine cU (cK (ts (rm rfl (ro rfl (dG U_151 (Ht rfl) aA) (ro rfl (cX (cJ 0)) (eX (eG ?_)))))))
 refine eP (fun (k : Nat) => k ≤ (jJ f.q g.q lo.q hi.q o).length) (fun (k : Nat) => (jJ f.q g.q lo.q hi.q o).length - k) (fun (k : Nat) => [(4, aF .i64 o), (5, bT B5 0), (6, bT B6 0), (7, bT B7 0), (8, bT B8 0), (11, Tt (jJ f.q g.q lo.q hi.q o)), (13, Sh (jJ f.q g.q lo.q hi.q o)), (54, Tt (jJ f.q g.q lo.q hi.q o)), (55, NT .i64 (jJ f.q g.q lo.q hi.q o).length), (56, NT .i64 k)]) (fun (k : Nat) => [box B5 23 [aF .i64 f.re, aF .i64 f.im, aF .i64 f.den], box B6 23 [aF .i64 g.re, aF .i64 g.im, aF .i64 g.den], box B7 23 [aF .i64 lo.re, aF .i64 lo.im, aF .i64 lo.den], box B8 23 [aF .i64 hi.re, aF .i64 hi.im, aF .i64 hi.den]]) 0 (Nat.zero_le _)
  (zS rfl) (aU (aD rfl) (aU (aD rfl) (aU (aD rfl) (aU (aD rfl) aY)))) (fun k hk=>?_)
 refine ts (ro rfl (gX (Ht rfl) (Ht rfl)) (eX (cK (dQ (Ht rfl) (fun hc=>?_) (fun hc=>?_)))))
 ·simp only [decide_eq_true_eq] at hc
  have hel:aL ((jJ f.q g.q lo.q hi.q o).getD k default).f 12:=(gP _ (by rw [List.getD_eq_getElem?_getD,List.getElem?_eq_getElem hc]; simp)).fit
  refine cU (cK (eG (ts (rm rfl (ra rfl (eX (cK (fZ (m:=35) (dp 11 rfl (cX (Ht rfl)) (dp 15 rfl (cX (Ht rfl)) (cP 59 0 60 1 rfl (dZ U_151 Z_158 (Ht rfl) (Ht rfl) rfl (dY (dU (d:=(default:Pd)) hc))) (dq 61 2 rfl (uN oG (Ht rfl) rfl) (dq 62 3 rfl (dJ A_3 Z_3 (Ht rfl)) (dp 13 rfl (cX (Ht rfl)) (dp 15 rfl (cX (Ht rfl)) (cP 64 5 65 6 rfl (dZ U_154 Z_160 (Ht rfl) (Ht rfl) rfl (dY (dU (d:=(default:Pd)) hc))) (dq 66 7 rfl (uN oH (Ht rfl) rfl) ?_)))))))))))))))))
  refine dq 67 8 rfl (dJ A_3 Z_3 (Ht rfl)) (cP 63 4 68 9 rfl (jH (Ht rfl) (Ht rfl)) (dq 69 10 rfl (cX (Ht rfl)) (C.D_step (Ei:=[(11,_),(70,_)]) rfl rfl (bV (bK rfl rfl) (bV (bG 11 rfl rfl) bW)) (eK rfl rfl (Ht rfl) (fun h=>cX (Ht rfl))) (C.D_step (Ei:=[(15,_),(70,_)]) rfl rfl (bV (bK rfl rfl) (bV (bG 11 rfl rfl) bW)) (eK rfl rfl (Ht rfl) (fun h=>cX (Ht rfl))) (C.D_step (Ei:=[(71,_),(72,_),(70,_)]) rfl rfl (bV (bG 12 rfl rfl) (bV (bG 13 rfl rfl) (bV (bG 11 rfl rfl) bW))) (eK rfl rfl (Ht rfl) (fun h=>dZ U_151 Z_158 (fJ rfl h) (fJ rfl h) rfl (dY (dU (d:=(default:Pd)) hc)))) ?_)))))
  refine C.D_step (Ei:=[(73,_),(70,_)]) rfl rfl (bV (bG 14 rfl rfl) (bV (bG 11 rfl rfl) bW)) (eK rfl rfl (Ht rfl) (fun h=>uN vS (fJ rfl h) rfl)) (C.D_step (Ei:=[(74,_),(70,_)]) rfl rfl (bV (bG 15 rfl rfl) (bV (bG 11 rfl rfl) bW)) (eK rfl rfl (Ht rfl) (fun h=>dJ A_3 Z_3 (fJ rfl h))) (C.D_step (Ei:=[(13,_),(70,_)]) rfl rfl (bV (bK rfl rfl) (bV (bG 11 rfl rfl) bW)) (eK rfl rfl (Ht rfl) (fun h=>cX (Ht rfl))) ?_))
  refine C.D_step (Ei:=[(15,_),(70,_)]) rfl rfl (bV (bK rfl rfl) (bV (bG 11 rfl rfl) bW)) (eK rfl rfl (Ht rfl) (fun h=>cX (Ht rfl))) (C.D_step (Ei:=[(76,_),(77,_),(70,_)]) rfl rfl (bV (bG 17 rfl rfl) (bV (bG 18 rfl rfl) (bV (bG 11 rfl rfl) bW))) (eK rfl rfl (Ht rfl) (fun h=>dZ U_154 Z_160 (fJ rfl h) (fJ rfl h) rfl (dY (dU (d:=(default:Pd)) hc)))) (C.D_step (Ei:=[(78,_),(70,_)]) rfl rfl (bV (bG 19 rfl rfl) (bV (bG 11 rfl rfl) bW)) (eK rfl rfl (Ht rfl) (fun h=>uN vU (fJ rfl h) rfl)) ?_))
  refine C.D_step (Ei:=[(79,_),(70,_)]) rfl rfl (bV (bG 20 rfl rfl) (bV (bG 11 rfl rfl) bW)) (eK rfl rfl (Ht rfl) (fun h=>dJ A_3 Z_3 (fJ rfl h))) (C.D_step (Ei:=[(75,_),(80,_),(70,_)]) rfl rfl (bV (bG 16 rfl rfl) (bV (bG 21 rfl rfl) (bV (bG 11 rfl rfl) bW))) (eK rfl rfl (Ht rfl) (fun h=>jH (fJ rfl h) (fJ rfl h))) (cP 70 11 81 22 rfl (eE (Ht rfl) (fun h=>(fJ rfl h))) (dq 82 23 rfl (cX (Ht rfl)) (C.D_step (Ei:=[(11,_),(83,_)]) rfl rfl (bV (bK rfl rfl) (bV (bG 24 rfl rfl) bW)) (eK rfl rfl (Ht rfl) (fun h=>cX (Ht rfl))) ?_))))
  refine C.D_step (Ei:=[(15,_),(83,_)]) rfl rfl (bV (bK rfl rfl) (bV (bG 24 rfl rfl) bW)) (eK rfl rfl (Ht rfl) (fun h=>cX (Ht rfl))) (C.D_step (Ei:=[(84,_),(85,_),(83,_)]) rfl rfl (bV (bG 25 rfl rfl) (bV (bG 26 rfl rfl) (bV (bG 24 rfl rfl) bW))) (eK rfl rfl (Ht rfl) (fun h=>dZ U_151 Z_158 (fJ rfl h) (fJ rfl h) rfl (dY (dU (d:=(default:Pd)) hc)))) (C.D_step (Ei:=[(86,_),(83,_)]) rfl rfl (bV (bG 27 rfl rfl) (bV (bG 24 rfl rfl) bW)) (eK rfl rfl (Ht rfl) (fun h=>Mf (s:=5) vT (fJ rfl h) rfl)) ?_))
  refine C.D_step (Ei:=[(87,_),(83,_)]) rfl rfl (bV (bG 28 rfl rfl) (bV (bG 24 rfl rfl) bW)) (eK rfl rfl (Ht rfl) (fun h=>dJ A_32 Z_32 (fJ rfl h))) (C.D_step (Ei:=[(13,_),(83,_)]) rfl rfl (bV (bK rfl rfl) (bV (bG 24 rfl rfl) bW)) (eK rfl rfl (Ht rfl) (fun h=>cX (Ht rfl))) (C.D_step (Ei:=[(15,_),(83,_)]) rfl rfl (bV (bK rfl rfl) (bV (bG 24 rfl rfl) bW)) (eK rfl rfl (Ht rfl) (fun h=>cX (Ht rfl))) (C.D_step (Ei:=[(89,_),(90,_),(83,_)]) rfl rfl (bV (bG 30 rfl rfl) (bV (bG 31 rfl rfl) (bV (bG 24 rfl rfl) bW))) (eK rfl rfl (Ht rfl) (fun h=>dZ U_154 Z_160 (fJ rfl h) (fJ rfl h) rfl (dY (dU (d:=(default:Pd)) hc)))) ?_)))
  refine C.D_step (Ei:=[(91,_),(83,_)]) rfl rfl (bV (bG 32 rfl rfl) (bV (bG 24 rfl rfl) bW)) (eK rfl rfl (Ht rfl) (fun h=>Mf (s:=5) vV (fJ rfl h) rfl)) (C.D_step (Ei:=[(92,_),(83,_)]) rfl rfl (bV (bG 33 rfl rfl) (bV (bG 24 rfl rfl) bW)) (eK rfl rfl (Ht rfl) (fun h=>dJ A_40 Z_40 (fJ rfl h))) (fV mixed rfl (by kernel_rfl) (zF (zF (zF (zF (zF (zF (zF (zF (aJ (aJ (aJ (aV ?_))))))))))))))
  refine fQ rfl rfl (eK rfl rfl (Ht rfl) (fun h=>cZ Tryz.call17 (Fm (x:=((jJ f.q g.q lo.q hi.q o).getD k default).f) (y:=((jJ f.q g.q lo.q hi.q o).getD k default).f) (hx:=hel) (hy:=hel) (by decide) (by decide)) ⟨(fJ rfl h),(fJ rfl h),trivial⟩)) (fQ rfl rfl (eK rfl rfl (Ht rfl) (fun h=>eN (fJ rfl h))) (ro rfl (eE (Ht rfl) (fun h=>(fJ rfl h))) (eX (mD (Ht rfl) (by simp) ?_))))
  refine cU (bF (cY (ro rfl (dV (Ht rfl) (cJ 1) z6) (rm rfl (eX (fU (k + 1) hc zo (zS rfl) (cF.refl _)))))))
 ·refine gV rfl (cK (Y.D_start (m := 10) [] (bY (Ei := [(5, _)]) rfl rfl (bQ (bJ rfl rfl) bX) rfl rfl (dX rfl (eJ A_23 Z_23 (Ht rfl) (i := 0) rfl rfl rfl)) (bY (Ei := [(99, _)]) rfl rfl (bQ (bZ 0 rfl rfl) bX) rfl rfl (dX rfl (cZ K_14 (nF (r := f)) ⟨(Ht rfl), trivial⟩)) ?_))))
  refine bY (Ei:=[(6,_)]) rfl rfl (bQ (bJ rfl rfl) bX) rfl rfl (dX rfl (eJ A_23 Z_23 (Ht rfl) (i:=1) rfl rfl rfl)) (bY (Ei:=[(101,_)]) rfl rfl (bQ (bZ 2 rfl rfl) bX) rfl rfl (dX rfl (cZ K_14 (nF (r:=g)) ⟨(Ht rfl),trivial⟩)) ?_)
  refine bY (Ei:=[(100,_),(102,_)]) rfl rfl (bQ (bZ 1 rfl rfl) (bQ (bZ 3 rfl rfl) bX)) rfl rfl (dX rfl (cZ Tryz.call76 (Am (f:=f.q) (g:=g.q) (L:=2) f1 f2 (by decide)) ⟨(Ht rfl),(Ht rfl),trivial⟩)) (bY (Ei:=[(103,_)]) rfl rfl (bQ (bZ 4 rfl rfl) bX) rfl rfl (dX rfl (cX (Ht rfl))) (bY (Ei:=[(98,_)]) rfl rfl (bQ (bZ 5 rfl rfl) bX) rfl rfl (dX rfl (dK (Ht rfl) rfl)) (bY (Ei:=[(98,_)]) rfl rfl (bQ (bZ 5 rfl rfl) bX) rfl rfl (dX rfl (dK (Ht rfl) rfl)) ?_)))
  refine Y.D_newp (Ei:=[]) (fun bb=>box bb 32 [aC (decide ((xT f.q g.q).a < 0)),aB (xT f.q g.q).a.natAbs,aC (decide ((xT f.q g.q).b < 0)),aB (xT f.q g.q).b.natAbs,aB (du (xT f.q g.q))]) 9 rfl rfl rfl bX rfl rfl (by kernel_rfl) (eW (Ts:=[Is (.bool false),Is (.slice none 0 0),Is (.bool false),Is (.slice none 0 0),Is (.slice none 0 0)]) O_32 rfl (fun V=>aW zd (aW zd (aW zd (aW zd (aW zd (aG))))))) (Y.D_putN (Ei:=[(104,_)]) 8 rfl rfl rfl rfl rfl rfl (bQ (bZ 6 rfl rfl) bX) (fun bb=>uY Z_32 (Ht rfl) (Ht rfl) rfl (i:=0) rfl (aK rfl) rfl rfl) ?_)
  refine Y.D_done mixed rfl (by kernel_rfl) rfl (by simp [Y.okP]) rfl rfl (bU (bU (bU (bU (bU (bU (bU (bU (Y.F_newp (fun B16=>Y.F_putN (Y.F_nil ?_)))))))))))
  refine ra rfl (eX (cK (eD [0,1,2,3,4] rfl (by decide) (Y.D_start (m:=10) [] (bY (Ei:=[(5,_)]) rfl rfl (bQ (bJ rfl rfl) bX) rfl rfl (dX rfl (eJ A_23 Z_23 (Ht rfl) (i:=0) rfl rfl rfl)) (bY (Ei:=[(107,_)]) rfl rfl (bQ (bZ 0 rfl rfl) bX) rfl rfl (dX rfl (cZ K_16 (xI (r:=f)) ⟨(Ht rfl),trivial⟩)) ?_))))))
  refine bY (Ei:=[(6,_)]) rfl rfl (bQ (bJ rfl rfl) bX) rfl rfl (dX rfl (eJ A_23 Z_23 (Ht rfl) (i:=1) rfl rfl rfl)) (bY (Ei:=[(109,_)]) rfl rfl (bQ (bZ 2 rfl rfl) bX) rfl rfl (dX rfl (cZ K_16 (xI (r:=g)) ⟨(Ht rfl),trivial⟩)) ?_)
  refine bY (Ei:=[(108,_),(110,_)]) rfl rfl (bQ (bZ 1 rfl rfl) (bQ (bZ 3 rfl rfl) bX)) rfl rfl (dX rfl (cZ Tryz.call77 (yU (f:=f.q) (g:=g.q) (L:=2) f1 f2 (by decide)) ⟨(Ht rfl),(Ht rfl),trivial⟩)) (bY (Ei:=[(111,_)]) rfl rfl (bQ (bZ 4 rfl rfl) bX) rfl rfl (dX rfl (cX (Ht rfl))) (bY (Ei:=[(106,_)]) rfl rfl (bQ (bZ 5 rfl rfl) bX) rfl rfl (dX rfl (dK (Ht rfl) rfl)) (bY (Ei:=[(106,_)]) rfl rfl (bQ (bZ 5 rfl rfl) bX) rfl rfl (dX rfl (dK (Ht rfl) rfl)) ?_)))
  refine Y.D_newp (Ei:=[]) (fun bb=>box bb 40 [aC (decide ((xT f.q g.q).a < 0)),aB (xT f.q g.q).a.natAbs,aC (decide ((xT f.q g.q).b < 0)),aB (xT f.q g.q).b.natAbs,aB (xT f.q g.q).den]) 9 rfl rfl rfl bX rfl rfl (by kernel_rfl) (eW (Ts:=[Is (.bool false),Is (.slice none 0 0),Is (.bool false),Is (.slice none 0 0),Is (.slice none 0 0)]) O_40 rfl (fun V=>aW zd (aW zd (aW zd (aW zd (aW zd (aG))))))) (Y.D_putN (Ei:=[(112,_)]) 8 rfl rfl rfl rfl rfl rfl (bQ (bZ 6 rfl rfl) bX) (fun bb=>uY Z_40 (Ht rfl) (Ht rfl) rfl (i:=0) rfl (aK rfl) rfl rfl) ?_)
  refine Y.D_done mixed rfl (by kernel_rfl) rfl (by simp [Y.okP]) rfl rfl (bU (bU (bU (bU (bU (bU (bU (bU (Y.F_newp (fun B17=>Y.F_putN (Y.F_nil ?_)))))))))))
  refine ra rfl (eX (cK (eD [0,1,2,3,4,5] rfl (by decide) (cY (rm rfl (rm rfl (ro rfl (lX (Ht rfl) (Ht rfl)) (rm rfl (fQ rfl rfl (eK rfl rfl (Ht rfl) (fun h=>eJ A_32 Z_32 (Ht rfl) (i:=4) rfl rfl rfl)) (fQ rfl rfl (eK rfl rfl (Ht rfl) (fun h=>eJ A_40 Z_40 (Ht rfl) (i:=5) rfl rfl rfl)) (fQ rfl rfl (eK rfl rfl (Ht rfl) (fun h=>cZ Tryz.call17 (Fm (x:=(xT f.q g.q)) (y:=(xT f.q g.q)) (hx:=gI) (hy:=gI) (by decide) (by decide)) ⟨(fJ rfl h),(fJ rfl h),trivial⟩)) ?_)))))))))))
  refine ro rfl (eA (Ht rfl) (fun h=>(fJ rfl h))) (rm rfl (fQ rfl rfl (eK rfl rfl (Ht rfl) (fun h=>cZ Tryz.call22 Ou trivial)) (ro rfl (eA (Ht rfl) (fun h=>(fJ rfl h))) (ra rfl (eX (fW rfl (fX (eU rfl) ?_)))))))
  exact (gF (by simp))
end
end Go.Proofs.YthcmlodgnfekeaaGreat
