/- What functions of the program compute, proved by walks over their code, and the plain mathematics of it; a part of the proof in the last text. -/
import Derived.Test.YteohomnhncjcnaaGreatP05
set_option linter.unusedVariables false
set_option linter.unusedSimpArgs false
set_option maxRecDepth 100000
set_option maxHeartbeats 4000000
namespace Go.Proofs.YteohomnhncjcnaaGreat
section
open Go Go.RowKit
theorem Xt (O:List Nat):((O.map fun (q:Nat)=>(q:Int)).map (aP .i64)) = O.map (NT .i64):=by rw [List.map_map]; rfl
theorem Sf {l:List Nat} {i:Nat} (hl:l.length ≤ 1000):bE Tryz.prog 95 [dP l,NT .i64 i] (aE (decide (i ∈ l))):=by
 have h:=qK (l:=l.map fun (q:Nat)=>(q:Int)) (v:=(i:Int)) (by rw [List.length_map]; omega)
 rw [Xt] at h
 refine h.imp (eH ?_)
 rw [Bool.eq_iff_iff,List.any_map,List.any_eq_true,decide_eq_true_eq]
 constructor
 ·rintro ⟨x, hx, e⟩; simp at e; obtain rfl : i = x := by omega
  exact hx
 ·intro hx; exact ⟨i,hx,by simp⟩
theorem hgN {n:Nat} (hn:n ≤ 8):∀ k,2 * k < n → 6 * cE (2 + 2) (2 * k) + 4 ≤ 17592186044415:=fun k hk=>Nat.le_trans (Nat.add_le_add_right (Nat.mul_le_mul_left 6 (lQ _ (show 2 * k ≤ 7 by omega))) 4) (by decide)
theorem hxN {n:Nat} (hn:n ≤ 8):∀ k,2 * k < n → qO (cE (2 + 2) (2 * k)) (2 * k + 1) ≤ 100000000000:=fun k hk=>Nat.le_trans (Nat.le_trans (zA (lQ _ (show 2 * k ≤ 6 by omega)) _) (xS _ (show 2 * k + 1 ≤ 7 by omega))) (by decide)
theorem Xq (n : Nat) : xU n = tab n fun x => tab n fun y => uZ x y := qE (Ai n) dT.tab fun i hi j hj => by
 rw [sC hi hj,qL hi hj]; rfl
theorem Zl (S:List (List Qi)) (js:List (Int × Int)) (N i y:Nat):(sI S js N i y).length = N:=aC _ _
theorem Wc {z:List Qi} {s c:List (List Qi)} {js:List (Int × Int)} {L G:Nat} (hz:dA z L) (hs:bP s L) (hL1:1 ≤ L) (hLb:L ≤ 1000) (hcf:bP c G) (hG1:1 ≤ G) (hGb:G ≤ 1000000000) (hgP:rB z s js = 0 → bP (Ca s js z.length) G) (hsh:dT s z.length z.length) (hch:dT c z.length z.length) (hl:z.length ≤ 8) (hjl:js.length ≤ 100) (hg:∀ k,2 * k < z.length → 6 * cE (L + 2) (2 * k) + 4 ≤ 17592186044415) (hxr:∀ k,2 * k < z.length → qO (cE (L + 2) (2 * k)) (2 * k + 1) ≤ 100000000000):bE Tryz.prog 18 [jC z s c,Ii js] (gC [jC (rT z s js) (sX z s js) (Nj z s c js),aP .i64 (rB z s js)]):=by
 have hsl:=hsh.1
 have hJ:=a2U (z:=z) (S:=s) (js:=js) (L:=L) hsh hs hz hL1 hLb zo hjl hg hxr
 refine bE.intro Tryz.func18 rfl Tryz.ntmps18 rfl (fun cx=>(ts (rn rfl (fG (Ht rfl)) fun B2=>(rn rfl (eW (Ts:=[Is (.slice none 0 0),Is (.slice none 0 0),Is (.slice none 0 0)]) O_34 rfl (fun V=>aW zd (aW zd (aW zd (aG))))) fun B4=>(ro rfl (cQ (cJ 0)) (eX (ts (ro rfl (eZ wN (Ht rfl) rfl) (ro rfl (eJ A_32 Z_32 (Ht rfl) (i:=0) rfl rfl rfl) (rm rfl (ro rfl (cZ Tryz.call31 hJ ⟨(Ht rfl),(Ht rfl),trivial⟩) (rm rfl (ro rfl (dK (Ht rfl) rfl) ?_)))))))))))))
 refine ro rfl (dK (Ht rfl) rfl) (rn rfl (eW (Ts:=[Is (.slice none 0 0),Is (.slice none 0 0)]) O_32 rfl (fun V=>aW zd (aW zd (aG)))) fun B6=>(gQ Z_32 (Ht rfl) (Ht rfl) rfl (i:=2) rfl (aK rfl) rfl rfl (ra rfl (eX (cK (ts (rm rfl (ro rfl (kR (Ht rfl) cV) (eX (dQ (Ht rfl) (fun hb=>?_) (fun hb=>?_)))))))))))
 ·have he : rB z s js ≠ 0 := by simpa using hb
  refine ts (ro rfl (aL.imp (Gg ) yS) (rm rfl (gQ Z_34 (Ht rfl) (Ht rfl) rfl (i:=1) rfl (aK rfl) rfl rfl (ra rfl (eX (bM rfl (fX (fK A_34 Z_34 rfl (i:=1) rfl rfl) ?_) (eU rfl)))))))
  exact (fun v V h=>by rw [rT,sX,Nj,dL,dL,dL,if_neg he,if_neg he,if_neg he]; exact h)
 ·have he : rB z s js = 0 := by simpa using hb
  refine cU (cK (ts (rm rfl (ro rfl (dG U_26 (Ht rfl) aA) (ro rfl (cP (Ht rfl) (cJ 0)) (eX (dQ (Ht rfl) (fun hb2=>?_) (fun hb2=>?_))))))))
  ·obtain rfl : js = [] := List.length_eq_zero_iff.1 (by simpa using hb2)
   refine ts (ro rfl (eJ A_34 Z_34 (Ht rfl) (i:=0) rfl rfl rfl) (gQ Z_34 (Ht rfl) (Ht rfl) rfl (i:=1) rfl (aK rfl) rfl rfl (ro rfl (cQ (cJ 0)) (eX (bM rfl (fX (fK A_34 Z_34 rfl (i:=1) rfl rfl) ?_) (fX (eU rfl) ?_))))))
   ·exact (fun v V h=>by rw [rT,sX,Nj,dL,dL,dL,if_pos he,if_pos he,if_pos he,if_pos (show ([]:List (Int × Int)).length = 0 from rfl),if_pos (show ([]:List (Int × Int)).length = 0 from rfl),Qb hch]; exact h)
   ·exact (aM he.symm)
  ·have hK : js.length ≠ 0 := by simpa using hb2
   obtain ⟨hd,hj6,hk,hne⟩:=xC he hl
   have hne2:=hne hK
   have hp:=Hj hd
   have hj:=uY hd
   have hPl:(zH js).length = 2 * js.length:=aC _ _
   have hOl:(oU js).length = 2 * js.length:=aC _ _
   have hle:=Cf hd
   have hpos:=Mz hd hne2
   have hFl:(eO z js).length ≤ z.length:=qD _ _
   refine cU (ts (ro rfl (cQ cV) (ro rfl (cQ cV) (eX (cK (cK (oZ 3 1 (oZ 3 1 (cY (rm rfl (ro rfl (dG U_26 (Ht rfl) aA) (ro rfl (cX (cJ 0)) (eX (eG ?_))))))))))))))
   refine iB (fun (k : Nat) (vL : Value) (vO : Value) => k ≤ js.length) (fun (k : Nat) (vL : Value) (vO : Value) => js.length - k) (fun (k : Nat) (vL : Value) (vO : Value) => [(2, bR B2 0), (4, bR B4 0), (6, bR B6 0), (8, Is vL), (9, Is vO), (41, Ii js), (42, NT .i64 js.length), (43, NT .i64 k)]) (fun (k : Nat) (vL : Value) (vO : Value) => [box B2 34 [cD z, cM s, cM c], box B4 34 [Is (.slice none 0 0), Is (.slice none 0 0), Is (.slice none 0 0)], box B6 32 [cD (rT z s js), cM (sX z s js)], bH 3 1 vL ((tab (2 * k) (gq (cB js))).map (NT .i64)), bH 3 1 vO ((tab (2 * k) (fun x => gq (cB js) (iN x))).map (NT .i64))]) 0 _ _ (Nat.zero_le _)
    (zS rfl) (aU (aB rfl) (aU (aB rfl) (aU (aB rfl) (aU (aD rfl) (aU (aD rfl) aY))))) (fun k vL vO hk0=>?_)
   refine ts (ro rfl (gX (Ht rfl) (Ht rfl)) (eX (cK (dQ (Ht rfl) (fun hc=>?_) (fun hc=>?_)))))
   ·have hkn : k < js.length := by simp only [decide_eq_true_eq] at hc; omega
    obtain ⟨i1,i2,i3,i4,i5,i6⟩:=Ya hp hkn
    obtain ⟨o1,o2⟩:=Rk k
    have ht1:=aC (2 * k) (gq (cB js))
    have ht2:=aC (2 * k) (fun x=>gq (cB js) (iN x))
    refine cU (cK (eG (ts (ro rfl (dZ U_26 Z_71 (Ht rfl) (Ht rfl) rfl (dY (dU (d:=(0,0)) hkn))) (ro rfl (dJ Tryz.isAgg71 Z_71 (Ht rfl)) (rn rfl (eW (Ts:=[Is (.int .i64 0),Is (.int .i64 0)]) O_71 rfl (fun V=>aW zd (aW zd (aG)))) fun B11=>(gQ Z_71 (Ht rfl) (Ht rfl) rfl (i:=5) rfl (aK rfl) rfl rfl (eX (Y.D_startA (m:=17) [] 8 3 rfl rfl (bY (Ei:=[(8,_)]) rfl rfl (bQ (bJ rfl rfl) bX) rfl rfl (dX rfl (cX (Ht rfl))) ?_))))))))))
    refine bY (Ei:=[(11,_)]) rfl rfl (bQ (bJ rfl rfl) bX) rfl rfl (dX rfl (xE U_71 Z_3 (Ht rfl) (cJ 0) rfl (by decide) rfl)) (bY (Ei:=[(48,_)]) rfl rfl (bQ (bZ 1 rfl rfl) bX) rfl rfl (dX rfl (eY A_3 Z_3 (Ht rfl) (i:=5) rfl rfl)) (bY (Ei:=[(49,_)]) rfl rfl (bQ (bZ 2 rfl rfl) bX) rfl rfl (dX rfl (fA (Ht rfl) cV (r:=((gq (cB js) (2 * k):Nat):Int)) ((tQ (z:=(iH js k).1 - 1) zo).trans zo))) ?_))
    refine bY (Ei:=[(11,_)]) rfl rfl (bQ (bJ rfl rfl) bX) rfl rfl (dX rfl (xE U_71 Z_3 (Ht rfl) (cJ 1) rfl (by decide) rfl)) (bY (Ei:=[(51,_)]) rfl rfl (bQ (bZ 4 rfl rfl) bX) rfl rfl (dX rfl (eY A_3 Z_3 (Ht rfl) (i:=5) rfl rfl)) (bY (Ei:=[(52,_)]) rfl rfl (bQ (bZ 5 rfl rfl) bX) rfl rfl (dX rfl (fA (Ht rfl) cV (r:=((gq (cB js) (2 * k + 1):Nat):Int)) ((tQ (z:=(iH js k).2 - 1) zo).trans zo))) ?_))
    refine bY (Ei:=[(50,_),(53,_)]) rfl rfl (bQ (bZ 3 rfl rfl) (bQ (bZ 6 rfl rfl) bX)) rfl rfl (dX rfl (bT (xs:=[.tmp 50,.tmp 53]) U_72 Z_3 O_3 (cW (Ht rfl) (cW (Ht rfl) cG)) rfl rfl rfl)) (Y.D_app (Ei:=[(47,_),(54,_)]) rfl rfl rfl rfl (bQ (bZ 0 rfl rfl) (bQ (bZ 7 rfl rfl) bX)) rfl (qQ (inf:=Tryz.t3) sB rS rfl rfl rfl (Ht rfl) (Ht rfl) (by simp) (fun T hT=>by simp at hT; rcases hT with rfl | rfl <;> exact El.one) (by show _ * 8 ≤ _; simp only [List.length_map,List.length_append,List.length_cons,List.length_nil,aC]; omega) (by simp only [List.length_map,List.length_append,List.length_cons,List.length_nil,aC]; omega)) ?_)
    refine bY (Ei:=[(9,_)]) rfl rfl (bQ (bJ rfl rfl) bX) rfl rfl (dX rfl (cX (Ht rfl))) (bY (Ei:=[(11,_)]) rfl rfl (bQ (bJ rfl rfl) bX) rfl rfl (dX rfl (xE U_71 Z_3 (Ht rfl) (cJ 1) rfl (by decide) rfl)) (bY (Ei:=[(57,_)]) rfl rfl (bQ (bZ 10 rfl rfl) bX) rfl rfl (dX rfl (eY A_3 Z_3 (Ht rfl) (i:=5) rfl rfl)) (bY (Ei:=[(58,_)]) rfl rfl (bQ (bZ 11 rfl rfl) bX) rfl rfl (dX rfl (fA (Ht rfl) cV (r:=((gq (cB js) (2 * k + 1):Nat):Int)) ((tQ (z:=(iH js k).2 - 1) zo).trans zo))) ?_)))
    refine bY (Ei:=[(11,_)]) rfl rfl (bQ (bJ rfl rfl) bX) rfl rfl (dX rfl (xE U_71 Z_3 (Ht rfl) (cJ 0) rfl (by decide) rfl)) (bY (Ei:=[(60,_)]) rfl rfl (bQ (bZ 13 rfl rfl) bX) rfl rfl (dX rfl (eY A_3 Z_3 (Ht rfl) (i:=5) rfl rfl)) (bY (Ei:=[(61,_)]) rfl rfl (bQ (bZ 14 rfl rfl) bX) rfl rfl (dX rfl (fA (Ht rfl) cV (r:=((gq (cB js) (2 * k):Nat):Int)) ((tQ (z:=(iH js k).1 - 1) zo).trans zo))) ?_))
    refine bY (Ei:=[(59,_),(62,_)]) rfl rfl (bQ (bZ 12 rfl rfl) (bQ (bZ 15 rfl rfl) bX)) rfl rfl (dX rfl (bT (xs:=[.tmp 59,.tmp 62]) U_72 Z_3 O_3 (cW (Ht rfl) (cW (Ht rfl) cG)) rfl rfl rfl)) (Y.D_done aT rfl (by kernel_rfl) rfl (by simp [Y.okP]) rfl rfl (bU (bU (bU (bU (bU (bU (bU (bU (Y.F_app (fun v2=>bU (bU (bU (bU (bU (bU (bU (bU (Y.F_nil ?_)))))))))))))))))))
    refine iD (inf:=Tryz.t3) sB rS rfl rfl rfl (Ht rfl) (Ht rfl) (i:=4) rfl (by simp) (fun T hT=>by simp at hT; rcases hT with rfl | rfl <;> exact El.one) (by show _ * 8 ≤ _; simp only [List.length_map,List.length_append,List.length_cons,List.length_nil,aC]; omega) (by simp only [List.length_map,List.length_append,List.length_cons,List.length_nil,aC]; omega) rfl (fun v3=>?_)
    refine ra rfl (ra rfl (eX (aS (cY (ro rfl (dV (Ht rfl) (cJ 1) z6) (rm rfl (eX (cA [0,1,2,6,4] rfl (by decide) (fU (k + 1,v2,v3) hkn (by dsimp only; omega) (zS rfl) (aU (aB rfl) (aU (aB rfl) (aU (aB rfl) (aU (aD (by rw [Ay,List.map_append]; rfl)) (aU (aD (by rw [Ay,List.map_append,o1,o2]; rfl)) aY))))))))))))))
   ·obtain rfl : k = js.length := by simp only [decide_eq_false_iff_not] at hc; omega
    refine gV rfl (gJ (i:=3) (tt:=8) rfl rfl eC (gJ (i:=4) (tt:=9) rfl rfl eC (pT (E':=[(2,_),(4,_),(6,_),(8,_),(9,_),(41,_),(42,_),(43,_),(44,_)]) (aQ rfl (aQ rfl (aQ rfl (aZ rfl (kS (Us:=(zH js).map (NT .i64)) rfl) (aZ rfl (kS (Us:=(oU js).map (NT .i64)) rfl) (zS rfl)))))) (ts (ro rfl (eZ wN (Ht rfl) rfl) (ro rfl (eJ A_32 Z_32 (Ht rfl) (i:=0) rfl rfl rfl) (ro rfl (cZ Tryz.call93 (Ms hsh hl) ⟨(Ht rfl),trivial⟩) ?_)))))))
    refine ra rfl (eX (ts (rm rfl (ro rfl (dG U_72 (Ht rfl) (by rw [List.length_map,hPl])) ?_))))
    refine jU Tryz.call94 (a4l (n:=2 * js.length) zo) ⟨(Ht rfl),trivial⟩ rfl (fun B71 _=>(ra rfl (eX (cK (ts (rm rfl (ro rfl (dG U_72 (Ht rfl) (by rw [List.length_map,hPl])) ?_)))))))
    refine ro rfl (cX (cJ 0)) (eX (eG (cA [0,1,2,5] rfl (by decide) ?_)))
    refine bO (fun (x : Nat) => x ≤ (2 * js.length)) (fun (x : Nat) => (2 * js.length) - x) (fun (x : Nat) => [(2, bR B2 0), (4, bR B4 0), (6, bR B6 0), (8, dP (zH js)), (9, dP (oU js)), (12, cM s), (13, Is (.slice (some ⟨B71, 0, none⟩) (2 * js.length) (2 * js.length))), (73, NT .i64 (2 * js.length)), (74, NT .i64 x)]) (fun (x : Nat) => [box B2 34 [cD z, cM s, cM c], box B4 34 [Is (.slice none 0 0), Is (.slice none 0 0), Is (.slice none 0 0)], box B6 32 [cD (rT z s js), cM (sX z s js)], kE eL B71 29 51 5 (bN aR (kQ (fun x => tab (2 * js.length) (fun y => uZ x y - gm s (gq (cB js) (iN y)) (gq (cB js) x))) (fun x => tab (2 * js.length) (fun y => uZ x y)) (2 * js.length) x))]) 0 (Nat.zero_le _)
     (zS rfl) (aU (aB rfl) (aU (aB rfl) (aU (aB rfl) (aU (bI (by rw [← jZ,Xq])) aY)))) (fun x hx=>?_)
    refine ts (ro rfl (gX (Ht rfl) (Ht rfl)) (eX (cK (dQ (Ht rfl) (fun hc=>?_) (fun hc=>?_)))))
    ·have hxn : x < 2 * js.length := by simp only [decide_eq_true_eq] at hc; omega
     refine jV 3 (x) rfl (oT hxn) (fun v0 hv0=>(cU (cK (eG (ts (rm rfl (ra rfl (eX (ts (rm rfl (ro rfl (dG U_72 (Ht rfl) (by rw [List.length_map,hPl])) ?_)))))))))))
     refine ro rfl (cX (cJ 0)) (eX (eG ?_))
     refine bO (fun (y : Nat) => y ≤ (2 * js.length)) (fun (y : Nat) => (2 * js.length) - y) (fun (y : Nat) => [(2, bR B2 0), (4, bR B4 0), (6, bR B6 0), (8, dP (zH js)), (9, dP (oU js)), (12, cM s), (13, Is (.slice (some ⟨B71, 0, none⟩) (2 * js.length) (2 * js.length))), (14, NT .i64 x), (73, NT .i64 (2 * js.length)), (74, NT .i64 x), (78, NT .i64 (2 * js.length)), (79, NT .i64 y)]) (fun (y : Nat) => [box B2 34 [cD z, cM s, cM c], box B4 34 [Is (.slice none 0 0), Is (.slice none 0 0), Is (.slice none 0 0)], box B6 32 [cD (rT z s js), cM (sX z s js)], pO eL B71 29 51 5 (bN aR (kQ (fun x => tab (2 * js.length) (fun y => uZ x y - gm s (gq (cB js) (iN y)) (gq (cB js) x))) (fun x => tab (2 * js.length) (fun y => uZ x y)) (2 * js.length) x)) x v0, bH 51 5 v0 ((kQ (fun y => uZ x y - gm s (gq (cB js) (iN y)) (gq (cB js) x)) (fun y => uZ x y) (2 * js.length) y).map aR)]) 0 (Nat.zero_le _)
      (zS rfl) (aU (aB rfl) (aU (aB rfl) (aU (aB rfl) (aU (fun _ _ _ h=>h) (aU (aD (by rw [← jZ])) aY))))) (fun y hy=>?_)
     refine ts (ro rfl (gX (Ht rfl) (Ht rfl)) (eX (cK (dQ (Ht rfl) (fun hd2=>?_) (fun hd2=>?_)))))
     ·have hyn : y < 2 * js.length := by simp only [decide_eq_true_eq] at hd2; omega
      have hb1:=hj.lt (iN y) (nO hyn)
      have hb2:=hj.lt x hxn
      have hsr:=hsh.row hb1
      have hrl:=jL (fun y=>uZ x y - gm s (gq (cB js) (iN y)) (gq (cB js) x)) (fun y=>uZ x y) (2 * js.length) y
      haveI g1:=Ic x y
      haveI g2:aO (gm s (gq (cB js) (iN y)) (gq (cB js) x)) L:=hs.get hL1 _ _
      refine cU (cK (eG (ts (rm rfl (ra rfl (eX (fZ (m:=27) (dp 13 rfl (cX (Ht rfl)) (dp 14 rfl (cX (Ht rfl)) (cL 82 0 83 1 rfl (fY U_30 Z_29 (Ht rfl) (Ht rfl) rfl zo (by rw [Nat.mul_one,Nat.zero_add])) ?_))))))))))
      refine dq 84 2 rfl (iF A_29 Z_29 (Ht rfl) (j:=3) rfl) (dp 15 rfl (cX (Ht rfl)) (dp 13 rfl (cX (Ht rfl)) (dp 14 rfl (cX (Ht rfl)) (cL 87 5 88 6 rfl (fY U_30 Z_29 (Ht rfl) (Ht rfl) rfl zo (by rw [Nat.mul_one,Nat.zero_add])) ?_))))
      refine dq 89 7 rfl (iF A_29 Z_29 (Ht rfl) (j:=3) rfl) (dp 15 rfl (cX (Ht rfl)) (cL 90 8 91 9 rfl (cH U_29 Z_51 (Ht rfl) (Ht rfl) rfl (i:=4) rfl (by rw [List.length_map,hrl]; exact hyn) rfl) ?_))
      refine dq 92 10 rfl (nN A_51 Z_51 (Ht rfl) (i:=4) rfl rfl (dY (rD hyn))) (dq 93 11 rfl (cR eD (Ht rfl)) (dp 12 rfl (cX (Ht rfl)) (dp 9 rfl (cX (Ht rfl)) (dp 15 rfl (cX (Ht rfl)) (cL 96 14 97 15 rfl (dZ U_72 Z_3 (Ht rfl) (Ht rfl) rfl (dY (show (oU js)[y]? = some (gq (cB js) (iN y)) from bS hyn))) (dq 98 16 rfl (dJ A_3 Z_3 (Ht rfl)) (cL 95 13 99 17 rfl (dZ U_30 Z_29 (Ht rfl) (Ht rfl) rfl (dY (dU (d:=[]) zo))) (dq 100 18 rfl (dJ A_29 Z_29 (Ht rfl)) ?_))))))))
      refine dp 8 rfl (cX (Ht rfl)) (dp 14 rfl (cX (Ht rfl)) (cL 102 20 103 21 rfl (dZ U_72 Z_3 (Ht rfl) (Ht rfl) rfl (dY (show (zH js)[x]? = some (gq (cB js) x) from bS hxn))) (dq 104 22 rfl (dJ A_3 Z_3 (Ht rfl)) (cL 101 19 105 23 rfl (dZ U_29 Z_51 (Ht rfl) (Ht rfl) rfl (dY (dU (d:=Qi.zero) zo))) (dq 106 24 rfl (dJ A_51 Z_51 (Ht rfl)) (cL 94 12 107 25 rfl (cI lH K_44 (Bq (x:=uZ x y) (y:=gm s (gq (cB js) (iN y)) (gq (cB js) x)) (L:=1) (M:=L) zo) (Ht rfl) ⟨(Ht rfl),trivial⟩) ?_))))))
      refine fV aT rfl (by kernel_rfl) (zF (zF (zF (zF (zF (zF (aJ (aJ (aJ (aV (ro rfl (cH U_29 Z_51 (Ht rfl) (Ht rfl) rfl (i:=4) rfl (by rw [List.length_map,hrl]; exact hyn) rfl) ?_)))))))))))
      refine jB Z_51 (Ht rfl) (Ht rfl) (El.ag rfl) (i:=4) rfl rfl (by rw [List.length_map,hrl]; exact hyn) rfl ?_
      refine eX (aS (cY (ro rfl (dV (Ht rfl) (cJ 1) z6) (rm rfl (eX (cA [0,1,2,3,4] rfl (by decide) (fU (y + 1) hyn zo (zS rfl) (aU (aB rfl) (aU (aB rfl) (aU (aB rfl) (aU (fun _ _ _ h=>h) (aU (aD (by rw [fO]; exact congrArg _ (lJ (f:=(fun y=>uZ x y - gm s (gq (cB js) (iN y)) (gq (cB js) x)))))) aY))))))))))))
     ·have hyn : y = 2 * js.length := by simp only [decide_eq_false_iff_not] at hd2; omega
      rw [hyn,lI]
      refine gV rfl (aS (eR 3 4 rfl rfl (by decide) (by simp only [bN,List.length_map,jL]; omega) ?_))
      refine cY (ro rfl (dV (Ht rfl) (cJ 1) z6) (rm rfl (eX (cA [0,1,2,3] rfl (by decide) (fU (x + 1) hxn zo (zS rfl) (aU (aB rfl) (aU (aB rfl) (aU (aB rfl) (aU (bI (by rw [fH]; exact congrArg _ (lJ (f:=(fun x=>tab (2 * js.length) (fun y=>uZ x y - gm s (gq (cB js) (iN y)) (gq (cB js) x))))))) aY)))))))))
    ·have hxn : x = 2 * js.length := by simp only [decide_eq_false_iff_not] at hc; omega
     rw [hxn,lI,show tab (2 * js.length) (fun x=>tab (2 * js.length) (fun y=>uZ x y - gm s (gq (cB js) (iN y)) (gq (cB js) x))) = Tg s js from rfl]
     refine gV rfl (gJ (i:=3) (tt:=13) rfl rfl (kJ (s:=5) (M:=Tg s js) (wX s js).1.symm) (ts (ro rfl (cQ cV) (eX (cK (cK (cA [0,1,2] rfl (by decide) (oZ 29 1 ?_))))))))
     have hPf:=hgP he
     have hPs:=He s js z.length
     have hcar:bE Tryz.prog 99 [cM (Ca s js z.length),cM c] (cM (mI (Ca s js z.length) c)):=a2g (p:=Ca s js z.length) (c:=c) (n:=(eO z js).length) (m:=z.length) (L:=G) hPs hch hPf hcf hG1 zo hpos zo zo hl
     have hslv : ∀ i, bE Tryz.prog 96 [cM (Tg s js), cD (jnV s js i)] (gC [cD (jnQ s js i), aP .i64 0]) := fun i => by
      have hT0:=Xz hk zo (jnV s js i)
      have h := Pa (M := Tg s js) (b := jnV s js i) (n := 2 * js.length) (L := L + 2) (wX s js) (aC _ _) (bP.tab fun x y _ _ => by
       haveI:=Ic x y
       haveI:aO (gm s (gq (cB js) (iN y)) (gq (cB js) x)) L:=hs.get hL1 _ _
       exact (fitSub (x:=uZ x y) (y:=gm s (gq (cB js) (iN y)) (gq (cB js) x)):aO _ (1 + L + 1)).le zo) (dA.tab fun y _=>(hs.get hL1 i _).le zo) zo zo zo (hg js.length zo) (Nat.le_trans (hxr js.length zo) (by decide))
      rw [hT0] at h; exact h
     refine cY (rm rfl (ro rfl (dG U_30 (Ht rfl) (by rw [List.length_map,hsl])) ?_))
     refine ro rfl (cX (cJ 0)) (eX (eG ?_))
     refine eA (fun (i : Nat) (vR : Value) => i ≤ z.length) (fun (i : Nat) (vR : Value) => z.length - i) (fun (i : Nat) (vR : Value) => [(2, bR B2 0), (4, bR B4 0), (6, bR B6 0), (8, dP (zH js)), (9, dP (oU js)), (12, cM s), (13, cM (Tg s js)), (16, Is vR), (113, NT .i64 z.length), (114, NT .i64 i)]) (fun (i : Nat) (vR : Value) => [box B2 34 [cD z, cM s, cM c], box B4 34 [Is (.slice none 0 0), Is (.slice none 0 0), Is (.slice none 0 0)], box B6 32 [cD (rT z s js), cM (sX z s js)], bH 29 1 vR (((nH (nM js) i).map (fun i => tab z.length fun k => vK s js i k)).map cD)]) 0 _ (Nat.zero_le _)
      (zS rfl) (aU (aB rfl) (aU (aB rfl) (aU (aB rfl) (aU (aD rfl) aY)))) (fun i vR hi=>?_)
     refine ts (ro rfl (gX (Ht rfl) (Ht rfl)) (eX (cK (dQ (Ht rfl) (fun hc=>?_) (fun hc=>?_)))))
     ·have hin : i < z.length := by simp only [decide_eq_true_eq] at hc; omega
      have hfl:=qD (nM js) i
      have hsi:=hsh.row hin
      refine cU (cK (eG (ts (rm rfl (ra rfl (eX (cK (ts (rm rfl (rm rfl (ro rfl (cZ Tryz.call95 (Sf (l:=zH js) (i:=i) zo) ⟨(Ht rfl),(Ht rfl),trivial⟩) (eX (dQ (Ht rfl) (fun hx=>?_) (fun hx=>?_))))))))))))))
      ·have hmem : i ∈ nM js := by rw [← Qj]; simpa using hx
       have hnx:nH (nM js) (i + 1) = nH (nM js) i:=by rw [nH,if_pos hmem,List.append_nil]
       refine gV rfl (cY (ro rfl (dV (Ht rfl) (cJ 1) z6) (rm rfl (eX (fU (i + 1,vR) hin (by dsimp only; omega) (zS rfl) (aU (aB rfl) (aU (aB rfl) (aU (aB rfl) (aU (aD (by rw [hnx])) aY)))))))))
      ·have hmem : i ∉ nM js := fun h => by rw [← Qj] at h; simp [h] at hx
       have hnx:nH (nM js) (i + 1) = nH (nM js) i ++ [i]:=by rw [nH,if_neg hmem]
       refine cU (ts (ro rfl (cQ cV) (eX (cK (cK (oZ 51 5 (cY (rm rfl (ro rfl (dG U_72 (Ht rfl) (by rw [List.length_map,hPl])) ?_)))))))))
       refine ro rfl (cX (cJ 0)) (eX (eG ?_))
       refine eA (fun (y : Nat) (vV : Value) => y ≤ (2 * js.length)) (fun (y : Nat) (vV : Value) => (2 * js.length) - y) (fun (y : Nat) (vV : Value) => [(2, bR B2 0), (4, bR B4 0), (6, bR B6 0), (8, dP (zH js)), (9, dP (oU js)), (12, cM s), (13, cM (Tg s js)), (16, Is vR), (17, NT .i64 i), (18, Is vV), (113, NT .i64 z.length), (114, NT .i64 i), (120, dP (zH js)), (121, NT .i64 (2 * js.length)), (122, NT .i64 y)]) (fun (y : Nat) (vV : Value) => [box B2 34 [cD z, cM s, cM c], box B4 34 [Is (.slice none 0 0), Is (.slice none 0 0), Is (.slice none 0 0)], box B6 32 [cD (rT z s js), cM (sX z s js)], bH 29 1 vR (((nH (nM js) i).map (fun i => tab z.length fun k => vK s js i k)).map cD), bH 51 5 vV ((tab y fun y => gm s i (gq (cB js) y)).map aR)]) 0 _ (Nat.zero_le _)
        (zS rfl) (aU (aB rfl) (aU (aB rfl) (aU (aB rfl) (aU (fun _ _ _ h=>h) (aU (aD rfl) aY))))) (fun y vV hy=>?_)
       refine ts (ro rfl (gX (Ht rfl) (Ht rfl)) (eX (cK (dQ (Ht rfl) (fun hd2=>?_) (fun hd2=>?_)))))
       ·have hyn : y < 2 * js.length := by simp only [decide_eq_true_eq] at hd2; omega
        have hb2:=hj.lt y hyn
        have htl:=aC y fun y=>gm s i (gq (cB js) y)
        refine cU (cK (eG (ts (ro rfl (dZ U_72 Z_3 (Ht rfl) (Ht rfl) rfl (dY (show (zH js)[y]? = some (gq (cB js) y) from bS hyn))) (ro rfl (dJ A_3 Z_3 (Ht rfl)) (ra rfl (eX (cY (rm rfl (rm rfl (rm rfl (ro rfl (dZ U_30 Z_29 (Ht rfl) (Ht rfl) rfl (dY (dU (d:=[]) zo))) (ro rfl (dJ A_29 Z_29 (Ht rfl)) (rm rfl (ro rfl (dZ U_29 Z_51 (Ht rfl) (Ht rfl) rfl (dY (dU (d:=Qi.zero) zo))) (ro rfl (dJ A_51 Z_51 (Ht rfl)) ?_))))))))))))))))
        refine ro rfl (bT (xs:=[.tmp 133]) U_29 Z_51 O_51 (cW (Ht rfl) cG) rfl rfl rfl) (iD (inf:=Tryz.t51) nD kV rfl rfl rfl (Ht rfl) (Ht rfl) (i:=4) rfl (by simp) (fun T hT=>by simp at hT; subst hT; exact El.ag rfl) (by show _ * 88 ≤ _; simp only [List.length_map,List.length_append,List.length_cons,List.length_nil,aC]; omega) (by simp only [List.length_map,List.length_append,List.length_cons,List.length_nil,aC]; omega) rfl (fun v5=>?_))
        refine ra rfl (eX (aS (cY (ro rfl (dV (Ht rfl) (cJ 1) z6) (rm rfl (eX (cA [0,1,2,3,4] rfl (by decide) (fU (y + 1,v5) hyn (by dsimp only; omega) (zS rfl) (aU (aB rfl) (aU (aB rfl) (aU (aB rfl) (aU (fun _ _ _ h=>h) (aU (aD (by rw [oF,List.map_append]; rfl)) aY)))))))))))))
       ·have hyn : y = 2 * js.length := by simp only [decide_eq_false_iff_not] at hd2; omega
        rw [hyn]
        refine gV rfl (gJ (i:=4) (tt:=18) rfl rfl eC (pT (E':=[(2,_),(4,_),(6,_),(8,_),(9,_),(12,_),(13,_),(16,_),(17,_),(18,_),(113,_),(114,_),(120,_),(121,_),(122,_),(123,_)]) (aQ rfl (aQ rfl (aQ rfl (aQ rfl (aQ rfl (aQ rfl (aQ rfl (aQ rfl (aQ rfl (aZ rfl (kS (Us:=(jnV s js i).map aR) rfl) (zS rfl))))))))))) (ts (rm rfl (rm rfl (ro rfl (cZ Tryz.call96 (hslv i) ⟨(Ht rfl),(Ht rfl),trivial⟩) ?_))))))
        refine rm rfl (ro rfl (dK (Ht rfl) rfl) (ro rfl (dK (Ht rfl) rfl) (ra rfl (ra rfl (eX (cK (ts (rm rfl (ro rfl (kR (Ht rfl) cV) (eX (jI (Ht rfl) (by rfl) ?_)))))))))))
        refine cU (ts (rm rfl (ro rfl (dG U_30 (Ht rfl) (by rw [List.length_map,hsl])) ?_)))
        refine jU Tryz.call97 (Sq (r:=1) (n:=z.length) (by decide) zo zo) ⟨(cJ 1),(Ht rfl),trivial⟩ rfl (fun B149 _=>?_)
        refine a0b 5 0 (Ts:=(tab z.length fun _=>Qi.zero).map aR) rfl rfl (fun v0=>(ro rfl (fY U_30 Z_29 (Ht rfl) (cJ 0) rfl (by decide) (by rw [Nat.mul_one,Nat.zero_add])) ?_))
        refine ro rfl (iF A_29 Z_29 (Ht rfl) (j:=5) rfl) (ra rfl (eX (ts (rm rfl (rm rfl (ro rfl (cZ K_77 (sH (n:=1) (by decide) (by decide)) ⟨(cJ 1),trivial⟩) (ro rfl (cZ K_98 Ml ⟨(Ht rfl),trivial⟩) (ro rfl (cH U_29 Z_51 (Ht rfl) (Ht rfl) rfl (i:=6) rfl (by rw [List.length_map,aC]; omega) rfl) ?_))))))))
        refine jB Z_51 (Ht rfl) (Ht rfl) (El.ag rfl) (i:=6) rfl rfl (by rw [List.length_map,aC]; omega) rfl ?_
        refine eX (cK (cK (lE 6 rfl (aD (e:=51) (s:=5) (by rw [fO,Nz hin]:_ = (sI s js z.length i 0).map aR)) ?_)))
        refine cY (rm rfl (ro rfl (dG U_72 (Ht rfl) (by rw [List.length_map,hOl])) ?_))
        refine ro rfl (cX (cJ 0)) (eX (eG (cA [0,1,2,3,6] rfl (by decide) ?_)))
        refine bO (fun (y : Nat) => y ≤ (2 * js.length)) (fun (y : Nat) => (2 * js.length) - y) (fun (y : Nat) => [(2, bR B2 0), (4, bR B4 0), (6, bR B6 0), (8, dP (zH js)), (9, dP (oU js)), (12, cM s), (13, cM (Tg s js)), (16, Is vR), (17, NT .i64 i), (21, cD (jnQ s js i)), (23, Is v0), (113, NT .i64 z.length), (114, NT .i64 i), (157, dP (oU js)), (158, NT .i64 (2 * js.length)), (159, NT .i64 y)]) (fun (y : Nat) => [box B2 34 [cD z, cM s, cM c], box B4 34 [Is (.slice none 0 0), Is (.slice none 0 0), Is (.slice none 0 0)], box B6 32 [cD (rT z s js), cM (sX z s js)], bH 29 1 vR (((nH (nM js) i).map (fun i => tab z.length fun k => vK s js i k)).map cD), bH 51 5 v0 ((sI s js z.length i y).map aR)]) 0 (Nat.zero_le _)
         (zS rfl) (aU (aB rfl) (aU (aB rfl) (aU (aB rfl) (aU (fun _ _ _ h=>h) (aU (fun _ _ _ h=>h) aY))))) (fun y hy2=>?_)
        refine ts (ro rfl (gX (Ht rfl) (Ht rfl)) (eX (cK (dQ (Ht rfl) (fun hd3=>?_) (fun hd3=>?_)))))
        ·have hyn : y < 2 * js.length := by simp only [decide_eq_true_eq] at hd3; omega
         have hb1:=hj.lt (iN y) (nO hyn)
         have hQl:(jnQ s js i).length = 2 * js.length:=tN _ _ _
         have hrl:=Zl s js z.length i y
         have hst:=Zm (S:=s) (N:=z.length) (i:=i) hj hyn
         rw [a4F hj hk hmem hyn] at hst
         refine cU (cK (eG (ts (rm rfl (ro rfl (dZ U_72 Z_3 (Ht rfl) (Ht rfl) rfl (dY (show (oU js)[y]? = some (gq (cB js) (iN y)) from bS hyn))) (ro rfl (dJ A_3 Z_3 (Ht rfl)) (ra rfl (ra rfl (eX (cY (rm rfl (rm rfl (rm rfl (rm rfl (ro rfl (dZ U_29 Z_51 (Ht rfl) (Ht rfl) rfl (dY (dU (d:=Qi.zero) zo))) (ro rfl (dJ A_51 Z_51 (Ht rfl)) (ro rfl (cH U_29 Z_51 (Ht rfl) (Ht rfl) rfl (i:=4) rfl (by rw [List.length_map,hrl]; exact hb1) rfl) ?_)))))))))))))))))
         refine jB Z_51 (Ht rfl) (Ht rfl) (El.ag rfl) (i:=4) rfl rfl (by rw [List.length_map,hrl]; exact hb1) rfl ?_
         refine eX (aS (cY (ro rfl (dV (Ht rfl) (cJ 1) z6) (rm rfl (eX (cA [0,1,2,3,4] rfl (by decide) (fU (y + 1) hyn zo (zS rfl) (aU (aB rfl) (aU (aB rfl) (aU (aB rfl) (aU (fun _ _ _ h=>h) (aU (aD (by rw [fO]; exact congrArg _ hst)) aY))))))))))))
        ·have hyn : y = 2 * js.length := by simp only [decide_eq_false_iff_not] at hd3; omega
         rw [hyn,Zk]
         refine gV rfl (gJ (i:=4) (tt:=23) rfl rfl eC (cY (rm rfl (rm rfl (ro rfl (bT (xs:=[.tmp 173]) U_30 Z_29 O_29 (cW (Ht rfl) cG) rfl rfl rfl) (iD (inf:=Tryz.t29) Og mX rfl rfl rfl (Ht rfl) (Ht rfl) (i:=3) rfl (by simp) (fun T hT=>by simp at hT; subst hT; exact El.one) (by show _ * 24 ≤ _; simp only [List.length_map,List.length_append,List.length_cons,List.length_nil,aC]; omega) (by simp only [List.length_map,List.length_append,List.length_cons,List.length_nil,aC]; omega) rfl (fun v6=>?_)))))))
         refine ra rfl (eX (aS (cY (ro rfl (dV (Ht rfl) (cJ 1) z6) (rm rfl (eX (cA [0,1,2,3] rfl (by decide) (fU (i + 1,v6) hin (by dsimp only; omega) (zS rfl) (aU (aB rfl) (aU (aB rfl) (aU (aB rfl) (aU (aD (by rw [hnx,List.map_append,List.map_append]; rfl)) aY))))))))))))
     ·have hiz : i = z.length := by simp only [decide_eq_false_iff_not] at hc; omega
      rw [hiz]
      refine gV rfl (gJ (i:=3) (tt:=16) rfl rfl eC (cK (fZ (m:=5) (dp 6 rfl (eJ A_32 Z_32 (Ht rfl) (i:=2) rfl rfl rfl) (dp 16 rfl (cX (Ht rfl)) (dp 2 rfl (eZ qA (Ht rfl) rfl) (dq 179 2 rfl (eY A_30 Z_30 (Ht rfl) (i:=0) rfl rfl) (cL 178 1 180 3 rfl (cZ Tryz.call99 hcar ⟨(Ht rfl),(Ht rfl),trivial⟩) (fV aT rfl (by kernel_rfl) (zF (aJ (aV (ro rfl (Bn (Ht rfl) (Ht rfl)) (gQ Z_34 (Ht rfl) (Ht rfl) rfl (i:=1) rfl (aK rfl) rfl rfl ?_))))))))))))))
      refine ro rfl (cQ (cJ 0)) (eX (bM rfl (fX (fK A_34 Z_34 rfl (i:=1) rfl rfl) ?_) (fX (eU rfl) ?_)))
      ·exact (fun v V h=>by rw [Nj,dL,if_pos he]; exact h)
      ·exact (aM he.symm)
theorem a0z {z : List Qi} {s c : List (List Qi)} {js : List (Int × Int)} (hz : dA z 2) (hs : bP s 2) (hcf : bP c 60000) (hsh : dT s z.length z.length) (hch : dT c z.length z.length) (hl : z.length ≤ 8) (hjl : js.length ≤ 100) : bE Tryz.prog 18 [jC z s c, Ii js] (gC [jC (rT z s js) (sX z s js) (Nj z s c js), aP .i64 (rB z s js)]) :=
 Wc (L := 2) (G := 60000) hz hs (by decide) (by decide) hcf (by decide) (by decide) (fun he => by
  obtain ⟨hd,hj6,hk,hne⟩:=xC he hl
  exact (Hd (L:=2) (G:=7082) hs (by decide) (fun x=>Ag hs hj6 hk x) (by decide) zo).le (by decide)) hsh hch hl hjl (hgN hl) (hxN hl)
end
section
open Go Go.RowKit
theorem Jc {l:List Nat} {x:Nat} (hl:l.length ≤ 1000):bE Tryz.prog 200 [dP l,NT .i64 x] (aP .i64 (wU l x)):=by
 refine bE.intro Tryz.func200 rfl Tryz.ntmps200 rfl (fun cx=>(ts (ro rfl (cQ (cJ 0)) (eX (cK (ts (ro rfl (cQ (cJ 0)) (eX (eG ?_)))))))))
 refine bO (fun (i : Nat) => i ≤ l.length ∧ wU l x = My l x (l.length - i)) (fun (i : Nat) => l.length - i) (fun (i : Nat) => [(0, dP l), (1, NT .i64 x), (5, NT .i64 i)]) (fun (i : Nat) => []) 0 ⟨Nat.zero_le _, rfl⟩
  (zS rfl) aY (fun i ⟨hi,hx⟩=>?_)
 refine cK (ts (rm rfl (rm rfl (ro rfl (dG U_72 (Ht rfl) aA) (ro rfl (gX (Ht rfl) (Ht rfl)) (eX (dQ (Ht rfl) (fun hc=>?_) (fun hc=>?_))))))))
 ·have hin : i < l.length := by simp only [decide_eq_true_eq] at hc; omega
  have hst : My l x (l.length - i) = if l.getD i 0 = x then (i : Int) else My l x (l.length - (i + 1)) := by
   rw [show l.length - i = (l.length - (i + 1)) + 1 by omega,My,show l.length - (l.length - (i + 1) + 1) = i by omega]
  rw [hst] at hx
  refine cU (cK (eG (ts (rm rfl (rm rfl (ro rfl (dZ U_72 Z_3 (Ht rfl) (Ht rfl) rfl (dY (dU (d:=0) hin))) (ro rfl (dJ A_3 Z_3 (Ht rfl)) (rm rfl (ro rfl (cP (Ht rfl) (Ht rfl)) (eX (dQ (Ht rfl) (fun he=>?_) (fun he=>?_))))))))))))
  ·have he2 : l.getD i 0 = x := by simp only [decide_eq_true_eq] at he; omega
   rw [if_pos he2] at hx
   refine ts (rm rfl (ra rfl (eX (fW rfl (fX (eU rfl) ?_)))))
   exact (aM hx.symm)
  ·have he2 : ¬ l.getD i 0 = x := by simp only [decide_eq_false_iff_not] at he; omega
   rw [if_neg he2] at hx
   refine cU (aS (cY (rm rfl (ro rfl (dV (Ht rfl) (cJ 1) z6) (ra rfl (eX (fU (i + 1) ⟨hin,hx⟩ zo (zS rfl) aY)))))))
 ·have hin : l.length - i = 0 := by simp only [decide_eq_false_iff_not] at hc; omega
  rw [hin] at hx
  refine gV rfl (ts (ro rfl (cQ cV) (eX (fW rfl (fX (eU rfl) ?_)))))
  exact (aM hx.symm)
end
section
open Go Go.RowKit
theorem a16 (n : Nat) : xU n = tab n fun x => tab n fun y => uZ x y := qE (Ai n) dT.tab fun i hi j hj => by
 rw [sC hi hj,qL hi hj]; rfl
theorem a08 {m x:Nat} (h:x < m):((tab m fun _=>QT Qi.zero).set x (QT (Qi.ofInt 1))) = (ek m x).map QT:=by
 rw [show ek m x = mR m x by simp [ek,xU,List.getD,bS h],mR,← fO,rY]
theorem a0t {z : List Qi} {S : List (List Qi)} {js : List (Int × Int)} {L G : Nat} (hS : dT S z.length z.length) (hf : bP S L) (hL : 1 ≤ L) (hLb : L ≤ 1000) (hz : z.length ≤ 9) (hd : sV z js = 0) (hjl : 2 * js.length ≤ 8)
    (hk:∀ b,kA (mU S (cB js) (2 * js.length)) b (2 * js.length) = 0) (hv:∀ x,dA (zV S js x) G) (hG:1 ≤ G) (hGb:G ≤ 1000000) (hg:6 * cE (L + 2) (2 * js.length) + 4 ≤ 17592186044415):bE Tryz.prog 101 [oI z S,Ii js] (gC [QM (Ca S js z.length),aE true]):=by
 have hp:=Hj hd
 have hj:=uY hd
 have hPl:(zH js).length = 2 * js.length:=aC _ _
 have hOl:(oU js).length = 2 * js.length:=aC _ _
 have hSl:=hS.1
 have hms:=mZ S (cB js) (2 * js.length)
 have hmf:=wW (ps:=cB js) (m:=2 * js.length) hf hL
 refine bE.intro Tryz.func101 rfl Tryz.ntmps101 rfl (fun cx=>(ts (rn rfl (fG (Ht rfl)) fun B2=>(ro rfl (cQ cV) (ro rfl (cQ cV) (eX (ts (ro rfl (cQ cV) (ro rfl (cQ cV) (eX (cK (cK (oZ 3 1 (oZ 3 1 (cY (ro rfl (cQ (cJ 0)) (eX (eG ?_))))))))))))))))))
 refine iB (fun (k : Nat) (vL : Value) (vO : Value) => k ≤ js.length) (fun (k : Nat) (vL : Value) (vO : Value) => js.length - k) (fun (k : Nat) (vL : Value) (vO : Value) => [(1, Ii js), (2, bR B2 0), (6, Is vL), (7, Is vO), (8, NT .i64 k)]) (fun (k : Nat) (vL : Value) (vO : Value) => [box B2 38 [oQ z, QM S], bH 3 1 vL ((tab (2 * k) (gq (cB js))).map (NT .i64)), bH 3 1 vO ((tab (2 * k) (fun x => gq (cB js) (iN x))).map (NT .i64))]) 0 _ _ (Nat.zero_le _)
  (zS rfl) (aU (aB rfl) (aU (aD rfl) (aU (aD rfl) aY))) (fun k vL vO hk0=>?_)
 refine cK (ts (rm rfl (rm rfl (ro rfl (dG U_26 (Ht rfl) aA) (ro rfl (gX (Ht rfl) (Ht rfl)) (eX (dQ (Ht rfl) (fun hc=>?_) (fun hc=>?_))))))))
 ·have hkn : k < js.length := by simp only [decide_eq_true_eq] at hc; omega
  obtain ⟨i1,i2,i3,i4,i5,i6⟩:=Ya hp hkn
  obtain ⟨o1,o2⟩:=Rk k
  have ht1:=aC (2 * k) (gq (cB js))
  have ht2:=aC (2 * k) (fun x=>gq (cB js) (iN x))
  refine cU (cK (eG (cK (fZ (m:=14) (dp 6 rfl (cX (Ht rfl)) (dp 1 rfl (cX (Ht rfl)) (dp 8 rfl (cX (Ht rfl)) (cL 30 1 31 2 rfl (dZ U_26 Z_71 (Ht rfl) (Ht rfl) rfl (dY (dU (d:=(0,0)) hkn))) (dq 32 3 rfl (kW U_71 Z_3 (Ht rfl) cV rfl (by decide) rfl) (dq 33 4 rfl (dJ A_3 Z_3 (Ht rfl)) (dq 34 5 rfl (fA (Ht rfl) cV (r:=((gq (cB js) (2 * k):Nat):Int)) ((tQ (z:=(iH js k).1 - 1) zo).trans zo)) ?_)))))))))))
  refine dp 1 rfl (cX (Ht rfl)) (dp 8 rfl (cX (Ht rfl)) (cL 36 7 37 8 rfl (dZ U_26 Z_71 (Ht rfl) (Ht rfl) rfl (dY (dU (d:=(0,0)) hkn))) (dq 38 9 rfl (kW U_71 Z_3 (Ht rfl) cV rfl (by decide) rfl) (dq 39 10 rfl (dJ A_3 Z_3 (Ht rfl)) (dq 40 11 rfl (fA (Ht rfl) cV (r:=((gq (cB js) (2 * k + 1):Nat):Int)) ((tQ (z:=(iH js k).2 - 1) zo).trans zo)) ?_)))))
  refine cL 35 6 41 12 rfl (bT (xs:=[.tmp 35,.tmp 41]) U_72 Z_3 O_3 (cW (Ht rfl) (cW (Ht rfl) cG)) rfl rfl rfl) (fV aT rfl (by kernel_rfl) (zF (zF (zF (aJ (aJ (aV (iD (inf:=Tryz.t3) sB rS rfl rfl rfl (Ht rfl) (Ht rfl) (i:=1) rfl (by simp) (fun T hT=>by simp at hT; rcases hT with rfl | rfl <;> exact El.one) (by show _ * 8 ≤ _; simp only [List.length_map,List.length_append,List.length_cons,List.length_nil,aC]; omega) (by simp only [List.length_map,List.length_append,List.length_cons,List.length_nil,aC]; omega) rfl (fun v2=>?_)))))))))
  refine ra rfl (eX (lE 1 rfl (aD (e:=3) (s:=1) (by rw [Ay,List.map_append]; rfl:_ = (tab (2 * (k + 1)) (gq (cB js))).map (NT .i64))) ?_))
  refine fZ (m:=14) (dp 7 rfl (cX (Ht rfl)) (dp 1 rfl (cX (Ht rfl)) (dp 8 rfl (cX (Ht rfl)) (cL 45 1 46 2 rfl (dZ U_26 Z_71 (Ht rfl) (Ht rfl) rfl (dY (dU (d:=(0,0)) hkn))) (dq 47 3 rfl (kW U_71 Z_3 (Ht rfl) cV rfl (by decide) rfl) (dq 48 4 rfl (dJ A_3 Z_3 (Ht rfl)) (dq 49 5 rfl (fA (Ht rfl) cV (r:=((gq (cB js) (2 * k + 1):Nat):Int)) ((tQ (z:=(iH js k).2 - 1) zo).trans zo)) ?_)))))))
  refine dp 1 rfl (cX (Ht rfl)) (dp 8 rfl (cX (Ht rfl)) (cL 51 7 52 8 rfl (dZ U_26 Z_71 (Ht rfl) (Ht rfl) rfl (dY (dU (d:=(0,0)) hkn))) (dq 53 9 rfl (kW U_71 Z_3 (Ht rfl) cV rfl (by decide) rfl) (dq 54 10 rfl (dJ A_3 Z_3 (Ht rfl)) (dq 55 11 rfl (fA (Ht rfl) cV (r:=((gq (cB js) (2 * k):Nat):Int)) ((tQ (z:=(iH js k).1 - 1) zo).trans zo)) ?_)))))
  refine cL 50 6 56 12 rfl (bT (xs:=[.tmp 50,.tmp 56]) U_72 Z_3 O_3 (cW (Ht rfl) (cW (Ht rfl) cG)) rfl rfl rfl) (fV aT rfl (by kernel_rfl) (zF (zF (zF (aJ (aJ (aV (iD (inf:=Tryz.t3) sB rS rfl rfl rfl (Ht rfl) (Ht rfl) (i:=2) rfl (by simp) (fun T hT=>by simp at hT; rcases hT with rfl | rfl <;> exact El.one) (by show _ * 8 ≤ _; simp only [List.length_map,List.length_append,List.length_cons,List.length_nil,aC]; omega) (by simp only [List.length_map,List.length_append,List.length_cons,List.length_nil,aC]; omega) rfl (fun v3=>?_)))))))))
  refine ra rfl (eX (aS (cY (rm rfl (ro rfl (dV (Ht rfl) (cJ 1) z6) (ra rfl (eX (fU (k + 1,v2,v3) hkn (by dsimp only; omega) (zS rfl) (aU (aB rfl) (aU (fun _ _ _ h=>h) (aU (aD (by rw [Ay,List.map_append,o1,o2]; rfl)) aY)))))))))))
 ·obtain rfl : k = js.length := by simp only [decide_eq_false_iff_not] at hc; omega
  refine gJ (i:=1) (tt:=6) rfl rfl eC (gJ (i:=2) (tt:=7) rfl rfl eC (pT (E':=[(1,_),(2,_),(6,_),(7,_),(8,_),(23,_),(24,_),(25,_),(26,_)]) (aQ rfl (aQ rfl (aZ rfl (kS (Us:=(zH js).map (NT .i64)) rfl) (aZ rfl (kS (Us:=(oU js).map (NT .i64)) rfl) (zS rfl))))) (gV rfl (ts (rm rfl (ro rfl (dG U_72 (Ht rfl) (by rw [List.length_map,hPl])) ?_))))))
  refine jU Tryz.call199 (Wg (n:=2 * js.length) zo) ⟨(Ht rfl),trivial⟩ rfl (fun B61 _=>(ra rfl (eX (cK (ts (ro rfl (cQ (cJ 0)) (eX (eG (cA [0,3] rfl (by decide) ?_)))))))))
  refine bO (fun (x : Nat) => x ≤ (2 * js.length)) (fun (x : Nat) => (2 * js.length) - x) (fun (x : Nat) => [(2, bR B2 0), (6, dP (zH js)), (7, dP (oU js)), (9, Is (.slice (some ⟨B61, 0, none⟩) (2 * js.length) (2 * js.length))), (10, NT .i64 x)]) (fun (x : Nat) => [box B2 38 [oQ z, QM S], kE eL B61 35 131 5 (bN QT (kQ (fun x => tab (2 * js.length) (fun y => uZ x y - gm S (gq (cB js) (iN x)) (gq (cB js) y))) (fun x => tab (2 * js.length) (fun y => uZ x y)) (2 * js.length) x))]) 0 (Nat.zero_le _)
   (zS rfl) (aU (aB rfl) (aU (bI (by rw [← jZ,a16])) aY)) (fun x hx=>?_)
  refine cK (ts (rm rfl (rm rfl (ro rfl (dG U_72 (Ht rfl) (by rw [List.length_map,hPl])) ?_))))
  refine ro rfl (gX (Ht rfl) (Ht rfl)) (eX (dQ (Ht rfl) (fun hc=>?_) (fun hc=>?_)))
  ·have hxn : x < 2 * js.length := by simp only [decide_eq_true_eq] at hc; omega
   have hb1:=hj.lt (iN x) (nO hxn)
   have hsr:=hS.row hb1
   refine jV 1 (x) rfl (oT hxn) (fun v0 hv0=>(cU (cK (eG (ts (ro rfl (cQ (cJ 0)) (eX (eG ?_))))))))
   refine bO (fun (y : Nat) => y ≤ (2 * js.length)) (fun (y : Nat) => (2 * js.length) - y) (fun (y : Nat) => [(2, bR B2 0), (6, dP (zH js)), (7, dP (oU js)), (9, Is (.slice (some ⟨B61, 0, none⟩) (2 * js.length) (2 * js.length))), (10, NT .i64 x), (11, NT .i64 y)]) (fun (y : Nat) => [box B2 38 [oQ z, QM S], pO eL B61 35 131 5 (bN QT (kQ (fun x => tab (2 * js.length) (fun y => uZ x y - gm S (gq (cB js) (iN x)) (gq (cB js) y))) (fun x => tab (2 * js.length) (fun y => uZ x y)) (2 * js.length) x)) x v0, bH 131 5 v0 ((kQ (fun y => uZ x y - gm S (gq (cB js) (iN x)) (gq (cB js) y)) (fun y => uZ x y) (2 * js.length) y).map QT)]) 0 (Nat.zero_le _)
    (zS rfl) (aU (aB rfl) (aU (fun _ _ _ h=>h) (aU (aD (by rw [← jZ])) aY))) (fun y hy=>?_)
   refine cK (ts (rm rfl (rm rfl (ro rfl (dG U_72 (Ht rfl) (by rw [List.length_map,hPl])) ?_))))
   refine ro rfl (gX (Ht rfl) (Ht rfl)) (eX (dQ (Ht rfl) (fun hd2=>?_) (fun hd2=>?_)))
   ·have hyn : y < 2 * js.length := by simp only [decide_eq_true_eq] at hd2; omega
    have hb2:=hj.lt y hyn
    have hrl:=jL (fun y=>uZ x y - gm S (gq (cB js) (iN x)) (gq (cB js) y)) (fun y=>uZ x y) (2 * js.length) y
    haveI g1:=Ic x y
    haveI g2:aO (gm S (gq (cB js) (iN x)) (gq (cB js) y)) L:=hf.get hL _ _
    refine cU (cK (eG (fZ (m:=27) (dp 9 rfl (cX (Ht rfl)) (dp 10 rfl (cX (Ht rfl)) (cL 74 0 75 1 rfl (fY U_36 Z_35 (Ht rfl) (Ht rfl) rfl zo (by rw [Nat.mul_one,Nat.zero_add])) ?_))))))
    refine dq 76 2 rfl (iF A_35 Z_35 (Ht rfl) (j:=1) rfl) (dp 11 rfl (cX (Ht rfl)) (dp 9 rfl (cX (Ht rfl)) (dp 10 rfl (cX (Ht rfl)) (cL 79 5 80 6 rfl (fY U_36 Z_35 (Ht rfl) (Ht rfl) rfl zo (by rw [Nat.mul_one,Nat.zero_add])) ?_))))
    refine dq 81 7 rfl (iF A_35 Z_35 (Ht rfl) (j:=1) rfl) (dp 11 rfl (cX (Ht rfl)) (cL 82 8 83 9 rfl (cH U_35 Z_131 (Ht rfl) (Ht rfl) rfl (i:=2) rfl (by rw [List.length_map,hrl]; exact hyn) rfl) ?_))
    refine dq 84 10 rfl (nN A_131 Z_131 (Ht rfl) (i:=2) rfl rfl (dY (rD hyn))) (dp 2 rfl (eZ uE (Ht rfl) rfl) (dq 86 12 rfl (eY A_36 Z_36 (Ht rfl) (i:=0) rfl rfl) (dp 7 rfl (cX (Ht rfl)) (dp 10 rfl (cX (Ht rfl)) (cL 88 14 89 15 rfl (dZ U_72 Z_3 (Ht rfl) (Ht rfl) rfl (dY (show (oU js)[x]? = some (gq (cB js) (iN x)) from bS hxn))) (dq 90 16 rfl (dJ A_3 Z_3 (Ht rfl)) (cL 87 13 91 17 rfl (dZ U_36 Z_35 (Ht rfl) (Ht rfl) rfl (dY (dU (d:=[]) zo))) ?_)))))))
    refine dq 92 18 rfl (dJ A_35 Z_35 (Ht rfl)) (dp 6 rfl (cX (Ht rfl)) (dp 11 rfl (cX (Ht rfl)) (cL 94 20 95 21 rfl (dZ U_72 Z_3 (Ht rfl) (Ht rfl) rfl (dY (show (zH js)[y]? = some (gq (cB js) y) from bS hyn))) (dq 96 22 rfl (dJ A_3 Z_3 (Ht rfl)) (cL 93 19 97 23 rfl (dZ U_35 Z_131 (Ht rfl) (Ht rfl) rfl (dY (dU (d:=Qi.zero) zo))) (dq 98 24 rfl (dJ A_131 Z_131 (Ht rfl)) (cL 85 11 99 25 rfl (cZ Tryz.call147 (Mr (x:=uZ x y) (y:=gm S (gq (cB js) (iN x)) (gq (cB js) y)) (L:=1) (M:=L) zo) ⟨(Ht rfl),(Ht rfl),trivial⟩) ?_)))))))
    refine fV aT rfl (by kernel_rfl) (zF (zF (zF (zF (zF (zF (aJ (aJ (aJ (aV (ro rfl (cH U_35 Z_131 (Ht rfl) (Ht rfl) rfl (i:=2) rfl (by rw [List.length_map,hrl]; exact hyn) rfl) ?_)))))))))))
    refine jB Z_131 (Ht rfl) (Ht rfl) (El.ag rfl) (i:=2) rfl rfl (by rw [List.length_map,hrl]; exact hyn) rfl ?_
    refine eX (aS (cY (rm rfl (ro rfl (dV (Ht rfl) (cJ 1) z6) (ra rfl (eX (cA [0,1,2] rfl (by decide) (fU (y + 1) hyn zo (zS rfl) (aU (aB rfl) (aU (fun _ _ _ h=>h) (aU (aD (by rw [fO]; exact congrArg _ (lJ (f:=(fun y=>uZ x y - gm S (gq (cB js) (iN x)) (gq (cB js) y)))))) aY)))))))))))
   ·have hyn : y = 2 * js.length := by simp only [decide_eq_false_iff_not] at hd2; omega
    rw [hyn,lI]
    refine gV rfl (aS (eR 1 2 rfl rfl (by decide) (by simp only [bN,List.length_map,jL]; omega) ?_))
    refine cY (rm rfl (ro rfl (dV (Ht rfl) (cJ 1) z6) (ra rfl (eX (cA [0,1] rfl (by decide) (fU (x + 1) hxn zo (zS rfl) (aU (aB rfl) (aU (bI (by rw [fH]; exact congrArg _ (lJ (f:=(fun x=>tab (2 * js.length) (fun y=>uZ x y - gm S (gq (cB js) (iN x)) (gq (cB js) y))))))) aY))))))))
  ·have hxn : x = 2 * js.length := by simp only [decide_eq_false_iff_not] at hc; omega
   rw [hxn,lI,show tab (2 * js.length) (fun x=>tab (2 * js.length) (fun y=>uZ x y - gm S (gq (cB js) (iN x)) (gq (cB js) y))) = mU S (cB js) (2 * js.length) from rfl]
   refine gV rfl (gJ (i:=1) (tt:=9) rfl rfl (kJ (s:=5) (M:=mU S (cB js) (2 * js.length)) hms.1.symm) (ts (ro rfl (cQ cV) (eX (cK (cK (cA [0] rfl (by decide) (oZ 35 1 (cY (ro rfl (cQ (cJ 0)) (eX (eG ?_))))))))))))
   refine eA (fun (i : Nat) (vR : Value) => i ≤ z.length) (fun (i : Nat) (vR : Value) => z.length - i) (fun (i : Nat) (vR : Value) => [(2, bR B2 0), (6, dP (zH js)), (7, dP (oU js)), (9, QM (mU S (cB js) (2 * js.length))), (12, Is vR), (13, NT .i64 i)]) (fun (i : Nat) (vR : Value) => [box B2 38 [oQ z, QM S], bH 35 1 vR (((nH (nM js) i).map (fun i => tab z.length fun k => vK S js i k)).map oQ)]) 0 _ (Nat.zero_le _)
    (zS rfl) (aU (aB rfl) (aU (aD rfl) aY)) (fun i vR hi=>?_)
   refine cK (ts (rm rfl (ro rfl (eZ kU (Ht rfl) rfl) (ro rfl (eY A_35 Z_35 (Ht rfl) (i:=0) rfl rfl) (ro rfl (dG U_35 (Ht rfl) aA) (ro rfl (gX (Ht rfl) (Ht rfl)) (eX (dQ (Ht rfl) (fun hc=>?_) (fun hc=>?_)))))))))
   ·have hin : i < z.length := by simp only [decide_eq_true_eq] at hc; omega
    have hfl:=qD (nM js) i
    have hsi:=hS.row hin
    refine cU (cK (eG (cK (ts (rm rfl (rm rfl (ro rfl (cZ Tryz.call200 (Jc (l:=zH js) (x:=i) zo) ⟨(Ht rfl),(Ht rfl),trivial⟩) (ro rfl (kH (Ht rfl) cV) (eX (dQ (Ht rfl) (fun hx=>?_) (fun hx=>?_)))))))))))
    ·have hmem : i ∈ nM js := by rw [← Qj]; exact Hi.1 (by simpa using hx)
     have hnx:nH (nM js) (i + 1) = nH (nM js) i:=by rw [nH,if_pos hmem,List.append_nil]
     refine gV rfl (cY (rm rfl (ro rfl (dV (Ht rfl) (cJ 1) z6) (ra rfl (eX (fU (i + 1,vR) hin (by dsimp only; omega) (zS rfl) (aU (aB rfl) (aU (aD (by rw [hnx])) aY))))))))
    ·have hmem : i ∉ nM js := fun h => by
      have h2:=Hi.2 (show i ∈ zH js by rw [Qj]; exact h)
      simp at hx; omega
     have hnx:nH (nM js) (i + 1) = nH (nM js) i ++ [i]:=by rw [nH,if_neg hmem]
     refine cU (ts (rn rfl (mO U_35 Z_131 O_131) fun B113=>(ra rfl (eX (cK (ts (ro rfl (cQ (cJ 0)) (eX (eG ?_)))))))))
     refine eA (fun (k : Nat) (vQ : Value) => k ≤ z.length) (fun (k : Nat) (vQ : Value) => z.length - k) (fun (k : Nat) (vQ : Value) => [(2, bR B2 0), (6, dP (zH js)), (7, dP (oU js)), (9, QM (mU S (cB js) (2 * js.length))), (12, Is vR), (13, NT .i64 i), (14, Is vQ), (15, NT .i64 k)]) (fun (k : Nat) (vQ : Value) => [box B2 38 [oQ z, QM S], bH 35 1 vR (((nH (nM js) i).map (fun i => tab z.length fun k => vK S js i k)).map oQ), bH 131 5 vQ ((tab k fun k => vK S js i k).map QT)]) 0 _ (Nat.zero_le _)
      (zS rfl) (aU (aB rfl) (aU (fun _ _ _ h=>h) (aU (aD rfl) aY))) (fun k vQ hk2=>?_)
     refine cK (ts (rm rfl (ro rfl (eZ kU (Ht rfl) rfl) (ro rfl (eY A_35 Z_35 (Ht rfl) (i:=0) rfl rfl) (ro rfl (dG U_35 (Ht rfl) aA) (ro rfl (gX (Ht rfl) (Ht rfl)) (eX (dQ (Ht rfl) (fun hd2=>?_) (fun hd2=>?_)))))))))
     ·have hkn : k < z.length := by simp only [decide_eq_true_eq] at hd2; omega
      have htl:=aC k fun k=>vK S js i k
      refine cU (cK (eG (ts (ro rfl (cZ K_148 (pD (n:=0) (by decide) (by decide)) ⟨(cJ 0),trivial⟩) (rn rfl (eW (Ts:=[Is (.bool false),Is (.slice none 0 0),Is (.bool false),Is (.slice none 0 0),Is (.slice none 0 0)]) O_131 rfl (fun V=>aW zd (aW zd (aW zd (aW zd (aW zd (aG))))))) fun B16=>(gQ Z_131 (Ht rfl) (Ht rfl) rfl (i:=3) rfl (aK rfl) rfl rfl (eX (cK (jO (fun (q:Qi)=>q = wT i k) (fun (q:Qi)=>[(2,bR B2 0),(6,dP (zH js)),(7,dP (oU js)),(9,QM (mU S (cB js) (2 * js.length))),(12,Is vR),(13,NT .i64 i),(14,Is vQ),(15,NT .i64 k),(16,bR B16 0)]) (fun (q:Qi)=>[box B2 38 [oQ z,QM S],bH 35 1 vR (((nH (nM js) i).map (fun i=>tab z.length fun k=>vK S js i k)).map oQ),bH 131 5 vQ ((tab k fun k=>vK S js i k).map QT),box B16 131 [aE (decide (q.a < 0)),aI q.a.natAbs,aE (decide (q.b < 0)),aI q.b.natAbs,aI q.den]]) ?_ (fun q hq=>?_))))))))))
      ·refine ts (rm rfl (rm rfl (ro rfl (cP (Ht rfl) (Ht rfl)) (eX (dQ (Ht rfl) (fun hki => ?_) (fun hki => ?_))))))
       ·have hki2 : k = i := by simpa using hki
        refine cY (ro rfl (cZ K_148 (pD (n:=1) (by decide) (by decide)) ⟨(cJ 1),trivial⟩) (gQ Z_131 (Ht rfl) (Ht rfl) rfl (i:=3) rfl (aK rfl) rfl rfl (eX (bC (Qi.ofInt 1) (by rw [wT,if_pos hki2]) (zS rfl) (aU (aB rfl) (aU (fun _ _ _ h=>h) (aU (fun _ _ _ h=>h) (aU (aB rfl) aY))))))))
       ·have hki2 : ¬ k = i := by simpa using hki
        refine cU (bC (Qi.ofInt 0) (by rw [wT,if_neg hki2]) (zS rfl) (aU (aB rfl) (aU (fun _ _ _ h=>h) (aU (fun _ _ _ h=>h) (aU (aB rfl) aY)))))
      ·subst hq
       refine cK (ts (rm rfl (rm rfl (ro rfl (cZ Tryz.call200 (Jc (l:=oU js) (x:=k) zo) ⟨(Ht rfl),(Ht rfl),trivial⟩) (ra rfl (eX (jO (fun (q:Qi)=>q = vK S js i k) (fun (q:Qi)=>[(2,bR B2 0),(6,dP (zH js)),(7,dP (oU js)),(9,QM (mU S (cB js) (2 * js.length))),(12,Is vR),(13,NT .i64 i),(14,Is vQ),(15,NT .i64 k),(16,bR B16 0)]) (fun (q:Qi)=>[box B2 38 [oQ z,QM S],bH 35 1 vR (((nH (nM js) i).map (fun i=>tab z.length fun k=>vK S js i k)).map oQ),bH 131 5 vQ ((tab k fun k=>vK S js i k).map QT),box B16 131 [aE (decide (q.a < 0)),aI q.a.natAbs,aE (decide (q.b < 0)),aI q.b.natAbs,aI q.den]]) ?_ (fun q hq2=>?_))))))))
       ·refine ts (rm rfl (ro rfl (kH (Ht rfl) cV) (eX (dQ (Ht rfl) (fun hix => ?_) (fun hix => ?_)))))
        ·have h0 : 0 ≤ wU (oU js) k := by simpa using hix
         obtain ⟨x,hx2⟩:∃ x:Nat,wU (oU js) k = (x:Int):=⟨(wU (oU js) k).toNat,by omega⟩
         have hxm : x < 2 * js.length := by
          rcases Kg (oU js) k with q | ⟨_,q,_⟩
          ·omega
          ·omega
         have hgn:vK S js i k = (wT i k + aH (2 * js.length) fun y=>gm S i (gq (cB js) y) * gv (zV S js x) y):=by rw [vK,if_pos h0,hx2]; rfl
         have hekl:(ek (2 * js.length) x).length = 2 * js.length:=by rw [show ek (2 * js.length) x = mR (2 * js.length) x by simp [ek,xU,List.getD,bS hxm]]; exact Fy _ _
         have hsv : bE Tryz.prog 201 [QM (mU S (cB js) (2 * js.length)), oQ (ek (2 * js.length) x)] (gC [oQ (zV S js x), aP .i64 0]) := by
          have h:=Jb (M:=mU S (cB js) (2 * js.length)) (b:=ek (2 * js.length) x) (n:=2 * js.length) (L:=L + 2) hms hekl hmf (Xf zo) zo zo zo hg
          obtain ⟨q1,q2⟩:=a3W (b:=ek (2 * js.length) x) hms
          rw [← q1,← q2 (hk _),hk] at h
          exact h
         have hvx:=hv x
         rw [hx2]
         refine ts (rm rfl (ro rfl (dG U_72 (Ht rfl) (by rw [List.length_map,hPl])) ?_))
         refine rn rfl (jF (T:=ZQ) (i:=Tryz.t131) sA mW rfl rfl (Ht rfl) rfl a09 (El.ag rfl) (by show 88 * _ ≤ _; omega) zo) fun B133=>ra rfl (eX (cK (ts (ro rfl (cQ (cJ 0)) (eX (eG ?_))))))
         refine eA (fun (t : Nat) (out : List Ty) => lD (fun _ => QT Qi.zero) (2 * js.length) out t) (fun (t : Nat) (out : List Ty) => (2 * js.length) - t) (fun (t : Nat) (out : List Ty) => [(2, bR B2 0), (6, dP (zH js)), (7, dP (oU js)), (9, QM (mU S (cB js) (2 * js.length))), (12, Is vR), (13, NT .i64 i), (14, Is vQ), (15, NT .i64 k), (16, bR B16 0), (17, NT .i64 x), (18, Is B133), (19, NT .i64 t)]) (fun (t : Nat) (out : List Ty) => [box B2 38 [oQ z, QM S], bH 35 1 vR (((nH (nM js) i).map (fun i => tab z.length fun k => vK S js i k)).map oQ), bH 131 5 vQ ((tab k fun k => vK S js i k).map QT), box B16 131 [aE (decide ((wT i k).a < 0)), aI (wT i k).a.natAbs, aE (decide ((wT i k).b < 0)), aI (wT i k).b.natAbs, aI (wT i k).den], bH 131 5 B133 out]) 0 (List.replicate (2 * js.length) ZQ) (lD.start _ _ _)
          (zS rfl) (aU (aB rfl) (aU (fun _ _ _ h=>h) (aU (fun _ _ _ h=>h) (aU (aB rfl) (aU (fun _ _ _ h=>h) aY))))) (fun t out hT=>?_)
         refine cK (ts (rm rfl (rm rfl (ro rfl (dG U_72 (Ht rfl) (by rw [List.length_map,hPl])) ?_))))
         refine ro rfl (gX (Ht rfl) (Ht rfl)) (eX (dQ (Ht rfl) (fun ht=>?_) (fun ht=>?_)))
         ·have htm : t < 2 * js.length := by simp only [decide_eq_true_eq] at ht; omega
          have hlen2:=hT.len
          refine cU (cK (eG (cY (rm rfl (rm rfl (ro rfl (cZ K_148 (pD (n:=0) (by decide) (by decide)) ⟨(cJ 0),trivial⟩) (ro rfl (cH U_35 Z_131 (Ht rfl) (Ht rfl) rfl (i:=4) rfl zo rfl) (jB Z_131 (Ht rfl) (Ht rfl) (El.ag rfl) (i:=4) rfl rfl zo rfl (eX (aS (cY (rm rfl (ro rfl (dV (Ht rfl) (cJ 1) z6) (ra rfl (eX (fU (t + 1,_) (hT.next htm rfl) (by dsimp only; omega) (zS rfl) (aU (aB rfl) (aU (fun _ _ _ h=>h) (aU (fun _ _ _ h=>h) (aU (aB rfl) (aU (fun _ _ _ h=>h) aY)))))))))))))))))))))
         ·obtain rfl : t = 2 * js.length := by have := hT.kle; simp only [decide_eq_false_iff_not] at ht; omega
          have hfin:=hT.fin
          subst hfin
          have htl2:=aC (2 * js.length) fun _=>QT Qi.zero
          refine gV rfl (ts (rm rfl (rm rfl (ro rfl (cZ K_148 (pD (n:=1) (by decide) (by decide)) ⟨(cJ 1),trivial⟩) (ro rfl (cH U_35 Z_131 (Ht rfl) (Ht rfl) rfl (i:=4) rfl (by rw [htl2]; exact hxm) rfl) ?_)))))
          refine jB Z_131 (Ht rfl) (Ht rfl) (El.ag rfl) (i:=4) rfl rfl (by rw [htl2]; exact hxm) rfl ?_
          refine eX (cK (lE 4 rfl (aD (e:=131) (s:=5) (a08 hxm)) (gJ (i:=4) (tt:=18) rfl rfl eC (cY (rm rfl (rm rfl (ro rfl (cZ Tryz.call201 hsv ⟨(Ht rfl),(Ht rfl),trivial⟩) (rm rfl (ro rfl (dK (Ht rfl) rfl) (ro rfl (dK (Ht rfl) rfl) (ra rfl (ra rfl (eX (cK (ts (rm rfl (ro rfl (kR (Ht rfl) cV) (eX (jI (Ht rfl) (by rfl) ?_)))))))))))))))))))
          refine cU (ts (ro rfl (cQ (cJ 0)) (eX (eG (cA [0,1,2,3] rfl (by decide) ?_)))))
          refine bO (fun (t : Nat) => t ≤ (2 * js.length)) (fun (t : Nat) => (2 * js.length) - t) (fun (t : Nat) => [(2, bR B2 0), (6, dP (zH js)), (7, dP (oU js)), (9, QM (mU S (cB js) (2 * js.length))), (12, Is vR), (13, NT .i64 i), (14, Is vQ), (15, NT .i64 k), (16, bR B16 0), (20, oQ (zV S js x)), (22, NT .i64 t)]) (fun (t : Nat) => [box B2 38 [oQ z, QM S], bH 35 1 vR (((nH (nM js) i).map (fun i => tab z.length fun k => vK S js i k)).map oQ), bH 131 5 vQ ((tab k fun k => vK S js i k).map QT), box B16 131 [aE (decide ((wT i k + aH t fun y => gm S i (gq (cB js) y) * gv (zV S js x) y).a < 0)), aI (wT i k + aH t fun y => gm S i (gq (cB js) y) * gv (zV S js x) y).a.natAbs, aE (decide ((wT i k + aH t fun y => gm S i (gq (cB js) y) * gv (zV S js x) y).b < 0)), aI (wT i k + aH t fun y => gm S i (gq (cB js) y) * gv (zV S js x) y).b.natAbs, aI (wT i k + aH t fun y => gm S i (gq (cB js) y) * gv (zV S js x) y).den]]) 0 (Nat.zero_le _)
           (zS rfl) (aU (aB rfl) (aU (fun _ _ _ h=>h) (aU (fun _ _ _ h=>h) (aU (aB (by rw [aH,Qi.add_zero'])) aY)))) (fun t ht2=>?_)
          refine cK (ts (rm rfl (rm rfl (ro rfl (dG U_72 (Ht rfl) (by rw [List.length_map,hPl])) ?_))))
          refine ro rfl (gX (Ht rfl) (Ht rfl)) (eX (dQ (Ht rfl) (fun ht3=>?_) (fun ht3=>?_)))
          ·have htm : t < 2 * js.length := by simp only [decide_eq_true_eq] at ht3; omega
           have hb2:=hj.lt t htm
           have hvl:(zV S js x).length = 2 * js.length:=tN _ _ _
           haveI g1:aO (gm S i (gq (cB js) t)) L:=hf.get hL _ _
           haveI g2:aO (gv (zV S js x) t) G:=hvx.get hG t
           haveI g3:=Qa i k
           haveI g4:=Qc (i:=i) (t:=t) (js:=js) hf hL hvx hG zo
           haveI g5:aO (wT i k + aH t fun y=>gm S i (gq (cB js) y) * gv (zV S js x) y) (1 + (8 * (L + G) + 17) + 1):=fitAdd
           refine cU (cK (eG (fZ (m:=17) (dp 16 rfl (eJ A_131 Z_131 (Ht rfl) (i:=3) rfl rfl rfl) (dp 2 rfl (eZ uE (Ht rfl) rfl) (dq 163 1 rfl (eY A_36 Z_36 (Ht rfl) (i:=0) rfl rfl) (dp 13 rfl (cX (Ht rfl)) (cL 164 2 165 3 rfl (dZ U_36 Z_35 (Ht rfl) (Ht rfl) rfl (dY (dU (d:=[]) zo))) (dq 166 4 rfl (dJ A_35 Z_35 (Ht rfl)) (dp 6 rfl (cX (Ht rfl)) (dp 22 rfl (cX (Ht rfl)) (cL 168 6 169 7 rfl (dZ U_72 Z_3 (Ht rfl) (Ht rfl) rfl (dY (show (zH js)[t]? = some (gq (cB js) t) from bS htm))) ?_))))))))))))
           refine dq 170 8 rfl (dJ A_3 Z_3 (Ht rfl)) (cL 167 5 171 9 rfl (dZ U_35 Z_131 (Ht rfl) (Ht rfl) rfl (dY (dU (d:=Qi.zero) zo))) (dq 172 10 rfl (dJ A_131 Z_131 (Ht rfl)) (dp 20 rfl (cX (Ht rfl)) (dp 22 rfl (cX (Ht rfl)) (cL 174 12 175 13 rfl (dZ U_35 Z_131 (Ht rfl) (Ht rfl) rfl (dY (dU (d:=Qi.zero) zo))) (dq 176 14 rfl (dJ A_131 Z_131 (Ht rfl)) (cL 173 11 177 15 rfl (cZ K_146 (yE (x:=gm S i (gq (cB js) t)) (y:=gv (zV S js x) t) (L:=L) (M:=G) zo) ⟨(Ht rfl),(Ht rfl),trivial⟩) ?_)))))))
           refine fV aT rfl (by kernel_rfl) (zF (zF (zF (zF (aJ (aV (ro rfl (cZ Tryz.call149 (Mo (x:=(wT i k + aH t fun y=>gm S i (gq (cB js) y) * gv (zV S js x) y)) (y:=gm S i (gq (cB js) t) * gv (zV S js x) t) (L:=1 + (8 * (L + G) + 17) + 1) (M:=L + G + 1) zo) ⟨(Ht rfl),(Ht rfl),trivial⟩) (gQ Z_131 (Ht rfl) (Ht rfl) rfl (i:=3) rfl (aK rfl) rfl rfl (eX (aS (cY ?_)))))))))))
           refine rm rfl (ro rfl (dV (Ht rfl) (cJ 1) z6) (ra rfl (eX (cA [0,1,2,3] rfl (by decide) (fU (t + 1) htm zo (zS rfl) (aU (aB rfl) (aU (fun _ _ _ h=>h) (aU (fun _ _ _ h=>h) (aU (aB (by rw [Qi.add_assoc']; rfl)) aY)))))))))
          ·obtain rfl : t = 2 * js.length := by simp only [decide_eq_false_iff_not] at ht3; omega
           refine gV rfl (bC (wT i k + aH (2 * js.length) fun y=>gm S i (gq (cB js) y) * gv (zV S js x) y) (by rw [hgn]) (zS rfl) (aU (aB rfl) (aU (fun _ _ _ h=>h) (aU (fun _ _ _ h=>h) (aU (aB rfl) aY)))))
        ·have h0 : ¬ 0 ≤ wU (oU js) k := by simpa using hix
         refine cU (bC (wT i k) (by rw [vK,if_neg h0]) (zS rfl) (aU (aB rfl) (aU (fun _ _ _ h=>h) (aU (fun _ _ _ h=>h) (aU (aB rfl) aY)))))
       ·subst hq2
        refine cY (rm rfl (ro rfl (eJ A_131 Z_131 (Ht rfl) (i:=3) rfl rfl rfl) (ro rfl (bT (xs:=[.tmp 181]) U_35 Z_131 O_131 (cW (Ht rfl) cG) rfl rfl rfl) (iD (inf:=Tryz.t131) sA mW rfl rfl rfl (Ht rfl) (Ht rfl) (i:=2) rfl (by simp) (fun T hT=>by simp at hT; subst hT; exact El.ag rfl) (by show _ * 88 ≤ _; simp only [List.length_map,List.length_append,List.length_cons,List.length_nil,aC]; omega) (by simp only [List.length_map,List.length_append,List.length_cons,List.length_nil,aC]; omega) rfl (fun v5=>?_)))))
        refine ra rfl (eX (aS (cY (rm rfl (ro rfl (dV (Ht rfl) (cJ 1) z6) (ra rfl (eX (cA [0,1,2] rfl (by decide) (fU (k + 1,v5) hkn (by dsimp only; omega) (zS rfl) (aU (aB rfl) (aU (fun _ _ _ h=>h) (aU (aD (by rw [oF,List.map_append]; rfl)) aY))))))))))))
     ·have hkz : k = z.length := by simp only [decide_eq_false_iff_not] at hd2; omega
      rw [hkz]
      refine gJ (i:=2) (tt:=14) rfl rfl eC (gV rfl (cY (rm rfl (rm rfl (ro rfl (bT (xs:=[.tmp 185]) U_36 Z_35 Tryz.zeroValue35 (cW (Ht rfl) cG) rfl rfl rfl) (iD (inf:=Tryz.t35) a07 Aj rfl rfl rfl (Ht rfl) (Ht rfl) (i:=1) rfl (by simp) (fun T hT=>by simp at hT; subst hT; exact El.one) (by show _ * 24 ≤ _; simp only [List.length_map,List.length_append,List.length_cons,List.length_nil,aC]; omega) (by simp only [List.length_map,List.length_append,List.length_cons,List.length_nil,aC]; omega) rfl (fun v6=>?_)))))))
      refine ra rfl (eX (aS (cY (rm rfl (ro rfl (dV (Ht rfl) (cJ 1) z6) (ra rfl (eX (cA [0,1] rfl (by decide) (fU (i + 1,v6) hin (by dsimp only; omega) (zS rfl) (aU (aB rfl) (aU (aD (by rw [hnx,List.map_append,List.map_append]; rfl)) aY)))))))))))
   ·have hiz : i = z.length := by simp only [decide_eq_false_iff_not] at hc; omega
    rw [hiz]
    refine gV rfl (gJ (i:=1) (tt:=12) rfl rfl eC (ts (rm rfl (ra rfl (ro rfl (cQ cV) (eX (bM rfl (fX (eU rfl) ?_) (eU rfl))))))))
    exact (kS rfl)
end
section
open Go Go.RowKit
theorem Wh {z:List Qi} {S:List (List Qi)} {js:List (Int × Int)} {L:Nat} (hS:dT S z.length z.length) (hf:bP S L) (hfz:dA z L) (hL:1 ≤ L) (hLb:L ≤ 1000) (hz:z.length ≤ 9) (hj:js.length ≤ 100):bE Tryz.prog 100 [oI z S,Ii js] (gC [oI (rT z S js) (sX z S js),aP .i64 (rB z S js)]):=by
 refine bE.intro Tryz.func100 rfl Tryz.ntmps100 rfl (fun cx=>(ts (rn rfl (fG (Ht rfl)) fun B2=>(rn rfl (eW (Ts:=[Is (.slice none 0 0),Is (.slice none 0 0)]) O_38 rfl (fun V=>aW zd (aW zd (aG)))) fun B4=>(ro rfl (cQ (cJ 0)) (eX (ts (ro rfl (eJ A_38 Z_38 (Ht rfl) (i:=0) rfl rfl rfl) (rm rfl (ro rfl (cZ Tryz.call197 (Sm (z:=z) (S:=S) (js:=js) (L:=L) hfz hL zo zo hj) ⟨(Ht rfl),(Ht rfl),trivial⟩) (rm rfl (ro rfl (dK (Ht rfl) rfl) ?_))))))))))))
 refine ro rfl (dK (Ht rfl) rfl) (ra rfl (ra rfl (eX (cK (ts (rm rfl (ro rfl (kR (Ht rfl) cV) (eX (dQ (Ht rfl) (fun hc=>?_) (fun hc=>?_))))))))))
 ·have h3 : sV z js ≠ 0 := by simpa using hc
  have he:rB z S js = sV z js:=(Qk (by rw [Hk h3]; exact h3)).trans (Hk h3)
  refine ts (ro rfl (aL.imp (tT ) rH) (rm rfl (gQ Z_38 (Ht rfl) (Ht rfl) rfl (i:=1) rfl (aK rfl) rfl rfl (ra rfl (eX (bM rfl (fX (fK A_38 Z_38 rfl (i:=1) rfl rfl) ?_) (fX (eU rfl) ?_)))))))
  ·exact (fun v V h=>by rw [rT,sX,dL,dL,he,if_neg h3,if_neg h3]; exact h)
  ·exact (aM he.symm)
 ·have h3 : sV z js = 0 := by simpa using hc
  refine cU (cK (ts (rm rfl (ro rfl (dG U_26 (Ht rfl) aA) (ro rfl (cP (Ht rfl) (cJ 0)) (eX (dQ (Ht rfl) (fun hc2=>?_) (fun hc2=>?_))))))))
  ·have h4 : js.length = 0 := by simpa using hc2
   have he:rB z S js = 0:=Qn (Qe h3 zo) h4
   refine ts (ro rfl (eJ A_38 Z_38 (Ht rfl) (i:=0) rfl rfl rfl) (gQ Z_38 (Ht rfl) (Ht rfl) rfl (i:=1) rfl (aK rfl) rfl rfl (ro rfl (cQ (cJ 0)) (eX (bM rfl (fX (fK A_38 Z_38 rfl (i:=1) rfl rfl) ?_) (fX (eU rfl) ?_))))))
   ·exact (fun v V h=>by rw [rT,sX,dL,dL,he,if_pos h4,if_pos h4]; exact h)
   ·exact (aM he.symm)
  ·have h4 : js.length ≠ 0 := by simpa using hc2
   refine cU (cK (ts (rm rfl (ro rfl (dG U_26 (Ht rfl) aA) (ro rfl (kX (cJ 2) (Ht rfl) z6) (ro rfl (eZ kU (Ht rfl) rfl) (ro rfl (eY A_35 Z_35 (Ht rfl) (i:=0) rfl rfl) (ro rfl (dG U_35 (Ht rfl) aA) (ro rfl (cP (Ht rfl) (Ht rfl)) (eX (dQ (Ht rfl) (fun hc3=>?_) (fun hc3=>?_))))))))))))
   ·have h5 : 2 * js.length = z.length := by simpa using hc3
    have h6:zG z js = 4:=Qf h3 zo
    have he:rB z S js = 4:=(Qk (by rw [h6]; decide)).trans h6
    refine ts (ro rfl (aL.imp (tT ) rH) (gQ Z_38 (Ht rfl) (Ht rfl) rfl (i:=1) rfl (aK rfl) rfl rfl (ro rfl (cQ (cJ 4)) (eX (bM rfl (fX (fK A_38 Z_38 rfl (i:=1) rfl rfl) ?_) (fX (eU rfl) ?_))))))
    ·exact (fun v V h=>by rw [rT,sX,dL,dL,he]; exact h)
    ·exact (aM he.symm)
   ·have h5 : 2 * js.length ≠ z.length := by simpa using hc3
    obtain ⟨q1,q2,q3⟩:=a3A (S:=S) h3 h4 h5
    have hjn:=uY h3
    have hjl:=Cf h3
    have h1:1 ≤ z.length:=by omega
    have hcc := Sg (z := z) (S := S) (n := z.length) (L := L) (ps := cB js) hS rfl hf hL hLb h1 hz (fun j hj => by
     rw [wY] at hj
     have a1:=hjn.lt (2 * j) zo
     have a2:=hjn.lt (2 * j + 1) zo
     rw [rQ] at a1
     rw [vM] at a2
     exact ⟨a1,a2⟩) (by rw [wY]; omega)
    rw [q1,q2,q3] at hcc
    have hok:dL (sV z js) (cB js) = cB js:=by rw [dL,if_pos h3]
    rw [hok]
    refine cU (ts (ro rfl (eJ A_38 Z_38 (Ht rfl) (i:=0) rfl rfl rfl) (rm rfl (ro rfl (cZ Tryz.call198 hcc ⟨(Ht rfl),(Ht rfl),trivial⟩) (rm rfl (ro rfl (dK (Ht rfl) rfl) (ro rfl (dK (Ht rfl) rfl) (rn rfl (eW (Ts:=[Is (.slice none 0 0),Is (.slice none 0 0)]) O_38 rfl (fun V=>aW zd (aW zd (aG)))) fun B8=>(gQ Z_38 (Ht rfl) (Ht rfl) rfl (i:=2) rfl (aK rfl) rfl rfl (ra rfl (eX (cK (ts (rm rfl (ro rfl (gB (Ht rfl)) (eX ?_))))))))))))))))
    refine dQ (Ht rfl) (fun hc4=>?_) (fun hc4=>?_)
    ·have h6 : rB z S js ≠ 0 := by simpa using hc4
     have he : rB z S js = 6 := by
      have:=Cg (S:=S) (Qe h3 zo) h4
      rw [this] at h6 ⊢
      split at h6
      ·exact absurd rfl h6
      ·rename_i hh; rw [if_neg hh]
     refine ts (ro rfl (aL.imp (tT ) rH) (gQ Z_38 (Ht rfl) (Ht rfl) rfl (i:=1) rfl (aK rfl) rfl rfl (ro rfl (cQ (cJ 6)) (eX (bM rfl (fX (fK A_38 Z_38 rfl (i:=1) rfl rfl) ?_) (fX (eU rfl) ?_))))))
     ·exact (fun v V h=>by rw [rT,sX,dL,dL,he]; exact h)
     ·exact (aM he.symm)
    ·have he : rB z S js = 0 := by simpa using hc4
     refine cU (ts (ro rfl (eJ A_38 Z_38 (Ht rfl) (i:=2) rfl rfl rfl) (gQ Z_38 (Ht rfl) (Ht rfl) rfl (i:=1) rfl (aK rfl) rfl rfl (ro rfl (cQ (cJ 0)) (eX (bM rfl (fK A_38 Z_38 rfl (i:=1) rfl rfl) (fX (eU rfl) ?_)))))))
     exact (aM he.symm)
theorem Wl {z:List Qi} {s c:List (List Qi)} {js:List (Int × Int)} (hz:dA z 2) (hs:bP s 2) (hcf:bP c 60000) (hsh:dT s z.length z.length) (hch:dT c z.length z.length) (hl:z.length ≤ 8) (hjl:js.length ≤ 100):bE Tryz.prog 19 [nT z s c,Ii js] (gC [nT (rT z s js) (sX z s js) (Nj z s c js),aP .i64 (rB z s js)]):=by
 refine bE.intro Tryz.func19 rfl Tryz.ntmps19 rfl (fun cx=>(ts (rn rfl (fG (Ht rfl)) fun B2=>(rn rfl (eW (Ts:=[Is (.slice none 0 0),Is (.slice none 0 0),Is (.slice none 0 0)]) O_40 rfl (fun V=>aW zd (aW zd (aW zd (aG))))) fun B4=>(ro rfl (cQ (cJ 0)) (eX (ts (ro rfl (eZ uF (Ht rfl) rfl) (ro rfl (eJ A_38 Z_38 (Ht rfl) (i:=0) rfl rfl rfl) (rm rfl (ro rfl (cZ Tryz.call100 (Wh (z:=z) (S:=s) (js:=js) (L:=2) hsh hs hz (by decide) (by decide) zo hjl) ⟨(Ht rfl),(Ht rfl),trivial⟩) ?_)))))))))))
 refine rm rfl (ro rfl (dK (Ht rfl) rfl) (ro rfl (dK (Ht rfl) rfl) (rn rfl (eW (Ts:=[Is (.slice none 0 0),Is (.slice none 0 0)]) O_38 rfl (fun V=>aW zd (aW zd (aG)))) fun B6=>(gQ Z_38 (Ht rfl) (Ht rfl) rfl (i:=2) rfl (aK rfl) rfl rfl (ra rfl (eX (cK (ts (rm rfl (ro rfl (kR (Ht rfl) cV) (eX (dQ (Ht rfl) (fun hb=>?_) (fun hb=>?_)))))))))))))
 ·have he : rB z s js ≠ 0 := by simpa using hb
  refine ts (ro rfl (aL.imp (Gh ) vT) (rm rfl (gQ Z_40 (Ht rfl) (Ht rfl) rfl (i:=1) rfl (aK rfl) rfl rfl (ra rfl (eX (bM rfl (fX (fK A_40 Z_40 rfl (i:=1) rfl rfl) ?_) (eU rfl)))))))
  exact (fun v V h=>by rw [rT,sX,Nj,dL,dL,dL,if_neg he,if_neg he,if_neg he]; exact h)
 ·have he : rB z s js = 0 := by simpa using hb
  obtain ⟨hd,hj6,hk,hne⟩:=xC he hl
  have hPf:bP (Ca s js z.length) 60000:=(Hd (L:=2) (G:=7082) hs (by decide) (fun x=>Ag hs hj6 hk x) (by decide) zo).le (by decide)
  have hPs:=He s js z.length
  have hPl:(Ca s js z.length).length ≤ 8:=by rw [hPs.1]; exact Nat.le_trans (qD _ _) hl
  have hcl:=hch.1
  have hgain:=a0t (z:=z) (S:=s) (js:=js) (L:=2) (G:=7082) hsh hs (by decide) (by decide) zo hd zo hk (fun x=>Ag hs hj6 hk x) (by decide) (by decide) (Nat.le_trans (Nat.add_le_add_right (Nat.mul_le_mul_left 6 (lQ _ (show 2 * js.length ≤ 6 by omega))) 4) (by decide))
  have hcar:bE Tryz.prog 102 [QM (Ca s js z.length),QM c] (QM (mI (Ca s js z.length) c)):=a35 (p:=Ca s js z.length) (c:=c) (L:=60000) hPf hcf (by decide) (by decide) (by rw [hcl]; rw [← hPs.1] at hPs; exact hPs) (by rw [hcl]; exact hch) hPl zo
  refine cU (ts (ro rfl (eZ uF (Ht rfl) rfl) (ro rfl (eJ A_38 Z_38 (Ht rfl) (i:=0) rfl rfl rfl) (rm rfl (ro rfl (cZ Tryz.call101 hgain ⟨(Ht rfl),(Ht rfl),trivial⟩) (rm rfl (ro rfl (dK (Ht rfl) rfl) (ro rfl (dK (Ht rfl) rfl) (ra rfl (ra rfl (eX (cK (ts (rm rfl (ro rfl (gB (Ht rfl)) (eX (jI (Ht rfl) (by rfl) ?_)))))))))))))))))
  refine cU (cK (fZ (m:=5) (dp 6 rfl (eJ A_38 Z_38 (Ht rfl) (i:=2) rfl rfl rfl) (dp 8 rfl (cX (Ht rfl)) (dp 2 rfl (eZ wO (Ht rfl) rfl) (dq 33 2 rfl (eY A_36 Z_36 (Ht rfl) (i:=0) rfl rfl) (cL 32 1 34 3 rfl (cZ Tryz.call102 hcar ⟨(Ht rfl),(Ht rfl),trivial⟩) (fV aT rfl (by kernel_rfl) (zF (aJ (aV (ro rfl (Bp (Ht rfl) (Ht rfl)) (gQ Z_40 (Ht rfl) (Ht rfl) rfl (i:=1) rfl (aK rfl) rfl rfl (ro rfl (cQ (cJ 0)) ?_))))))))))))))
  refine eX (bM rfl (fX (fK A_40 Z_40 rfl (i:=1) rfl rfl) ?_) (fX (eU rfl) ?_))
  ·exact (fun v V h=>by rw [Nj,dL,if_pos he]; exact h)
  ·exact (aM he.symm)
section
variable {z:List Qi} {s c:List (List Qi)} {js:List (Int × Int)}
theorem a1r (hch:dT c z.length z.length):dT (Nj z s c js) (rT z s js).length (rT z s js).length:=by
 by_cases h:rB z s js = 0
 ·have hp := He s js z.length
  rw [Nj,rT,dL,dL,if_pos h,if_pos h]
  have h2:=qT (p:=Ca s js z.length) (c:=c)
  rw [hp.1] at h2
  by_cases h0:js.length = 0
  ·rw [if_pos h0]
   obtain rfl:js = []:=List.length_eq_zero_iff.1 h0
   rw [Qb hch]; exact hch
  ·rw [if_neg h0,a1d,show (zW z (eO z js)).length = (eO z js).length from aC _ _]; exact h2
 ·rw [Nj,rT,dL,dL,if_neg h,if_neg h]; exact ⟨rfl,fun r hr=>by cases hr⟩
theorem a1q (hs:bP s 2) (hcf:bP c 60000) (hl:z.length ≤ 8) (hch:dT c z.length z.length):bP (Nj z s c js) 900000000000:=by
 by_cases h:rB z s js = 0
 ·obtain ⟨hd, hj6, hk, hne⟩ := xC h hl
  have hPf:bP (Ca s js z.length) 60000:=(Hd (L:=2) (G:=7082) hs (by decide) (fun x=>Ag hs hj6 hk x) (by decide) zo).le (by decide)
  exact xD ((wI hPf hcf (by decide) (by rw [hch.1]; exact hl)).le (by decide))
 ·rw [Nj,dL,if_neg h]; exact bP.nil
theorem a1s (hs : bP s 2) (hl : z.length ≤ 8) : bP (sX z s js) 900000000000 := a1b (L := 2) (G := 400000000) hs (by decide) (fun h => by
  obtain ⟨q1,q2⟩:=wV h
  have:=Cf q1
  exact Nat.le_trans (Nat.le_trans (zA (lQ _ (show 2 * js.length ≤ 6 by omega)) _) (xS _ (show 2 * js.length ≤ 6 by omega))) (by decide)) (fun m hm h=>by
  obtain ⟨q1,q2⟩:=wV h
  have:=Cf q1
  have:m * (2 * 400000000 + 2) ≤ 6 * (2 * 400000000 + 2):=Nat.mul_le_mul_right _ zo
  omega)
end
theorem Gj {z:List Rt} {s c:List (List Rt)} {js:List (Int × Int)}:bE Tryz.prog 3 [Uw z s c,Ii js] (aE true):=by
 refine bE.intro Tryz.func3 rfl Tryz.ntmps3 rfl (fun cx=>(ts (rn rfl (fG (Ht rfl)) fun B2=>(ro rfl (cQ cV) (eX (cK (ts (ro rfl (eJ Tryz.isAgg25 Tryz.sizeOf25 (Ht rfl) (i:=0) rfl rfl rfl) (ro rfl (cZ Tryz.call15 a4r ⟨(Ht rfl),trivial⟩) (ro rfl (gB (Ht rfl)) (rm rfl (fQ rfl rfl (eK rfl rfl (Ht rfl) (fun h=>cX (Ht rfl))) (fQ rfl rfl (eK rfl rfl (Ht rfl) (fun h=>dG U_26 (fJ rfl h) aA)) (fQ rfl rfl (eK rfl rfl (Ht rfl) (fun h=>eE (fJ rfl h) (cJ 10))) (ro rfl (iU (Ht rfl) (fun h=>(fJ rfl h))) ?_)))))))))))))))
 refine eX (dQ (Ht rfl) (fun hb=>?_) (fun hb=>?_))
 ·refine ts (ro rfl (cZ Tryz.call16 Pb trivial) (ra rfl (eX ?_)))
  exact fW rfl (eU rfl)
 ·have hf : yK z s c = true := by
   apply Decidable.byContradiction; intro h
   simp [h] at hb
  have hjl : js.length ≤ 10 := by
   apply Decidable.byContradiction; intro h
   simp [hf] at hb; omega
  obtain ⟨m1,m2,m3⟩:=Yi (z:=z) (s:=s) (c:=c)
  obtain ⟨m4,m5,m6⟩:=a3F (z:=z) (s:=s) (c:=c)
  have n4:dA (rT (Dq z s c) (Kj z s c) js) 900000000000:=a1e m4 (by decide) (by decide)
  have n5:bP (sX (Dq z s c) (Kj z s c) js) 900000000000:=a1s m5 m3
  have n6:bP (Nj (Dq z s c) (Kj z s c) (Ti z s c) js) 900000000000:=a1q m5 (m6.le (by decide)) m3 m2
  obtain ⟨n1,n3⟩:=a3B (js:=js) m1
  have n2:dT (Nj (Dq z s c) (Kj z s c) (Ti z s c) js) (rT (Dq z s c) (Kj z s c) js).length (rT (Dq z s c) (Kj z s c) js).length:=a1r m2
  refine cU (ts (ro rfl (eJ Tryz.isAgg25 Tryz.sizeOf25 (Ht rfl) (i:=0) rfl rfl rfl) (ro rfl (cZ Tryz.call17 (a30 (by assumption)) ⟨(Ht rfl),trivial⟩) ?_)))
  refine rm rfl (ro rfl (dK (Ht rfl) rfl) (ro rfl (dK (Ht rfl) rfl) (ro rfl (dK (Ht rfl) rfl) (rn rfl (eW (Ts:=[Is (.slice none 0 0),Is (.slice none 0 0),Is (.slice none 0 0)]) O_34 rfl (fun V=>aW zd (aW zd (aW zd (aG))))) fun B5=>(rn rfl (eW (Ts:=[Is (.slice none 0 0),Is (.slice none 0 0),Is (.slice none 0 0)]) O_40 rfl (fun V=>aW zd (aW zd (aW zd (aG))))) fun B6=>(gQ Z_34 (Ht rfl) (Ht rfl) rfl (i:=1) rfl (aK rfl) rfl rfl ?_))))))
  refine gQ Z_40 (Ht rfl) (Ht rfl) rfl (i:=2) rfl (aK rfl) rfl rfl (ra rfl (eX (ts (ro rfl (eJ A_34 Z_34 (Ht rfl) (i:=1) rfl rfl rfl) (rm rfl (ro rfl (cZ Tryz.call18 (a0z (z:=Dq z s c) (s:=Kj z s c) (c:=Ti z s c) (js:=js) m4 m5 (m6.le (by decide)) m1 m2 m3 zo) ⟨(Ht rfl),(Ht rfl),trivial⟩) (rm rfl (ro rfl (dK (Ht rfl) rfl) (ro rfl (dK (Ht rfl) rfl) (rn rfl (eW (Ts:=[Is (.slice none 0 0),Is (.slice none 0 0),Is (.slice none 0 0)]) O_34 rfl (fun V=>aW zd (aW zd (aW zd (aG))))) fun B8=>?_))))))))))
  refine gQ Z_34 (Ht rfl) (Ht rfl) rfl (i:=3) rfl (aK rfl) rfl rfl (ra rfl (eX (ts (ro rfl (eJ A_40 Z_40 (Ht rfl) (i:=2) rfl rfl rfl) (rm rfl (ro rfl (cZ Tryz.call19 (Wl (z:=Dq z s c) (s:=Kj z s c) (c:=Ti z s c) (js:=js) m4 m5 (m6.le (by decide)) m1 m2 m3 zo) ⟨(Ht rfl),(Ht rfl),trivial⟩) (rm rfl (ro rfl (dK (Ht rfl) rfl) (ro rfl (dK (Ht rfl) rfl) (rn rfl (eW (Ts:=[Is (.slice none 0 0),Is (.slice none 0 0),Is (.slice none 0 0)]) O_40 rfl (fun V=>aW zd (aW zd (aW zd (aG))))) fun B10=>?_))))))))))
  refine gQ Z_40 (Ht rfl) (Ht rfl) rfl (i:=4) rfl (aK rfl) rfl rfl (ra rfl (eX (cK (cA [0,1,2,3,4] rfl (by decide) (cY (rm rfl (rm rfl (fQ rfl rfl (eK rfl rfl (Ht rfl) (fun h=>cX (Ht rfl))) (fQ rfl rfl (eK rfl rfl (Ht rfl) (fun h=>cX (Ht rfl))) (fQ rfl rfl (eK rfl rfl (Ht rfl) (fun h=>jR (fJ rfl h) (fJ rfl h))) (ro rfl (fF (Ht rfl) (fun h=>(fJ rfl h))) (rm rfl (fQ rfl rfl (eK rfl rfl (Ht rfl) (fun h=>eJ A_34 Z_34 (Ht rfl) (i:=3) rfl rfl rfl)) ?_)))))))))))))
  refine fQ rfl rfl (eK rfl rfl (Ht rfl) (fun h=>eJ A_40 Z_40 (Ht rfl) (i:=4) rfl rfl rfl)) (fQ rfl rfl (eK rfl rfl (Ht rfl) (fun h=>cZ Tryz.call20 (a4s n4 n5 n6 (by decide) (by decide) n1 n2 zo) ⟨(fJ rfl h),(fJ rfl h),trivial⟩)) (ro rfl (fF (Ht rfl) (fun h=>(fJ rfl h))) (rm rfl (fQ rfl rfl (eK rfl rfl (Ht rfl) (fun h=>cZ Tryz.call16 Pb trivial)) (ro rfl (fF (Ht rfl) (fun h=>(fJ rfl h))) (ra rfl (eX (fW rfl (fX (eU rfl) ?_)))))))))
  exact (eH (by simp))
end
section
open Go Go.ChangeShapes Go.WideShapes Go.ChangeAt Go.RowKit Go.Deep
section
variable {H:Type} {enc:TypeId × Value → H} {W:World} {base:Nat} {sp:Nat → Bool} {held:Bool}
theorem a1H {n:Nat} {cs:List Value} {y:DataW H × List MemPlace} (h:DataW.trod enc Tryz.prog W base sp held n 71 cs = some y):∃ (q:Int × Int) (x:Value),x.cells.toList = cs ∧ (JT q).p x (hv W):=by
 obtain ⟨xs,m,_,_,hl,hx,he⟩:=DataW.trod_array Tryz.underlying71 h
 have hc:Tryz.prog.cellsOf 71 = 2:=by kernel_rfl
 have hi:Tryz.prog.cellsOf 3 = 1:=by kernel_rfl
 rw [hc] at hl
 match cs,hl with
 | [c0, c1], _ =>
  match xs,hx with
  | [y0, y1], _ =>
   have e0:=he 0 zo
   have e1:=he 1 zo
   rw [hi] at e0 e1
   obtain ⟨i0,q0,_,_⟩:=DataW.trod_int Tryz.underlying3 (show DataW.trod enc Tryz.prog W base sp held m 3 [c0] = some y0 from e0)
   obtain ⟨i1,q1,_,_⟩:=DataW.trod_int Tryz.underlying3 (show DataW.trod enc Tryz.prog W base sp held m 3 [c1] = some y1 from e1)
   simp only [List.cons.injEq,and_true] at q0 q1
   subst q0 q1
   exact ⟨(i0,i1),.agg #[.int .i64 i0,.int .i64 i1],rfl,[.int .i64 i0,.int .i64 i1],rfl,aW zd (aW zd aG)⟩
theorem Yy {n : Nat} {cs : List Value} {y : DataW H × List MemPlace} (h : DataW.trod enc Tryz.prog W base sp held n 26 cs = some y) : ∃ (v : Value) (l : List (Int × Int)), cs = [v] ∧ (Ii l).p v (hv W) :=
 Ib (F:=JT) Tryz.underlying26 (by kernel_rfl) (by decide) (fun n cs y h=>a1H h) h
theorem Uj {b0:Nat} {v:Value} {d:DataW H} {p:List MemPlace} (ho:Value.okWide Tryz.prog W .any b0 26 v) (h:DataW.Trod enc Tryz.prog W base sp held 26 v d p):∃ l:List (Int × Int),(Ii l).p v (hv W):=by
 obtain ⟨a,n,k,rfl⟩:=okWide_slice Tryz.underlying26 ho
 obtain ⟨m,hm⟩:=h
 obtain ⟨v,l,e,hl⟩:=Yy hm
 have:[Value.slice a n k] = [v]:=e
 simp only [List.cons.injEq,and_true] at this
 subst this
 exact ⟨l,hl⟩
end
end
end Go.Proofs.YteohomnhncjcnaaGreat
