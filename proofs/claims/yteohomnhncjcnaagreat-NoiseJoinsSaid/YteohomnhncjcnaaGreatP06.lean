/- What functions of the program compute, proved by walks over their code, and the plain mathematics of it; a part of the proof in the last text. -/
import Derived.Test.YteohomnhncjcnaaGreatP05
set_option linter.unusedVariables false
set_option linter.unusedSimpArgs false
set_option maxRecDepth 100000
set_option maxHeartbeats 4000000
namespace Go.Proofs.YteohomnhncjcnaaGreat
section
open Go Go.RowKit
theorem xQ (O:List Nat):((O.map fun (q:Nat)=>(q:Int)).map (ap .i64)) = O.map (NT .i64):=by rw [List.map_map]; rfl
theorem xu {l:List Nat} {i:Nat} (hl:l.length ≤ 1000):az Tryz.prog 95 [bv l,NT .i64 i] (ab (decide (i ∈ l))):=by
 have h:=jg (l:=l.map fun (q:Nat)=>(q:Int)) (v:=(i:Int)) (by rw [List.length_map]; omega)
 rw [xQ] at h
 refine h.imp (bF ?_)
 rw [Bool.eq_iff_iff,List.any_map,List.any_eq_true,decide_eq_true_eq]
 constructor
 ·rintro ⟨x, hx, e⟩; simp at e; obtain rfl : i = x := by omega
  exact hx
 ·intro hx; exact ⟨i,hx,by simp⟩
theorem G7 {n:Nat} (hn:n ≤ 8):∀ k,2 * k < n → 6 * b5 (2 + 2) (2 * k) + 4 ≤ 17592186044415:=fun k hk=>Nat.le_trans (Nat.add_le_add_right (Nat.mul_le_mul_left 6 (fv _ (show 2 * k ≤ 7 by omega))) 4) (by decide)
theorem Gd {n:Nat} (hn:n ≤ 8):∀ k,2 * k < n → ji (b5 (2 + 2) (2 * k)) (2 * k + 1) ≤ 100000000000:=fun k hk=>Nat.le_trans (Nat.le_trans (nb (fv _ (show 2 * k ≤ 6 by omega)) _) (mi _ (show 2 * k + 1 ≤ 7 by omega))) (by decide)
theorem xV (n : Nat) : mL n = tab n fun x => tab n fun y => ln x y := j9 (ol n) bE.tab fun i hi j hj => by
 rw [jK hi hj,jd hi hj]; rfl
theorem yC (S:List (List Qi)) (js:List (Int × Int)) (N i y:Nat):(k7 S js N i y).length = N:=a9 _ _
theorem Bk {z:List Qi} {s c:List (List Qi)} {js:List (Int × Int)} (hz:bk z 2) (hs:aL s 2) (hcf:aL c 60000) (hsh:bE s z.length z.length) (hch:bE c z.length z.length) (hl:z.length ≤ 8) (hjl:js.length ≤ 100):az Tryz.prog 18 [ee z s c,te js] (cr [ee (jY z s js) (lb z s js) (wr z s c js),ap .i64 (jV z s js)]):=by
 have hsl:=hsh.1
 have hJ:=EG (z:=z) (S:=s) (js:=js) (L:=2) hsh hs hz (by decide) (by decide) zo hjl (G7 hl) (Gd hl)
 refine az.intro Tryz.func18 rfl Tryz.ntmps18 rfl (fun cx=>(ts (rn rfl (fG (Ht rfl)) fun B2=>(rn rfl (eW (Ts:=[Is (.slice none 0 0),Is (.slice none 0 0),Is (.slice none 0 0)]) O_34 rfl (fun V=>aW zd (aW zd (aW zd (aG))))) fun B4=>(ro rfl (cQ (cJ 0)) (eX (ts (ro rfl (eZ mK (Ht rfl) rfl) (ro rfl (eJ A_32 Z_32 (Ht rfl) (i:=0) rfl rfl rfl) (rm rfl (ro rfl (cZ Tryz.call31 hJ ⟨(Ht rfl),(Ht rfl),trivial⟩) (rm rfl (ro rfl (dK (Ht rfl) rfl) ?_)))))))))))))
 refine ro rfl (dK (Ht rfl) rfl) (rn rfl (eW (Ts:=[Is (.slice none 0 0),Is (.slice none 0 0)]) O_32 rfl (fun V=>aW zd (aW zd (aG)))) fun B6=>(gQ Z_32 (Ht rfl) (Ht rfl) rfl (i:=2) rfl (aK rfl) rfl rfl (ra rfl (eX (cK (ts (rm rfl (ro rfl (eP (Ht rfl) cV) (eX (dQ (Ht rfl) (fun hb=>?_) (fun hb=>?_)))))))))))
 ·have he : jV z s js ≠ 0 := by simpa using hb
  refine ts (ro rfl (al.imp (ry ) nr) (rm rfl (gQ Z_34 (Ht rfl) (Ht rfl) rfl (i:=1) rfl (aK rfl) rfl rfl (ra rfl (eX (aE rfl (fX (fK A_34 Z_34 rfl (i:=1) rfl rfl) ?_) (eU rfl)))))))
  exact (fun v V h=>by rw [jY,lb,wr,bq,bq,bq,if_neg he,if_neg he,if_neg he]; exact h)
 ·have he : jV z s js = 0 := by simpa using hb
  refine cU (cK (ts (rm rfl (ro rfl (dG U_26 (Ht rfl) a7) (ro rfl (bc (Ht rfl) (cJ 0)) (eX (dQ (Ht rfl) (fun hb2=>?_) (fun hb2=>?_))))))))
  ·obtain rfl : js = [] := List.length_eq_zero_iff.1 (by simpa using hb2)
   refine ts (ro rfl (eJ A_34 Z_34 (Ht rfl) (i:=0) rfl rfl rfl) (gQ Z_34 (Ht rfl) (Ht rfl) rfl (i:=1) rfl (aK rfl) rfl rfl (ro rfl (cQ (cJ 0)) (eX (aE rfl (fX (fK A_34 Z_34 rfl (i:=1) rfl rfl) ?_) (fX (eU rfl) ?_))))))
   ·exact (fun v V h=>by rw [jY,lb,wr,bq,bq,bq,if_pos he,if_pos he,if_pos he,if_pos (show ([]:List (Int × Int)).length = 0 from rfl),if_pos (show ([]:List (Int × Int)).length = 0 from rfl),uR hch]; exact h)
   ·exact (am he.symm)
  ·have hK : js.length ≠ 0 := by simpa using hb2
   obtain ⟨hd,hj6,hk,hne⟩:=oV he hl
   have hne2:=hne hK
   have hp:=rl hd
   have hj:=lw hd
   have hPl:(nG js).length = 2 * js.length:=a9 _ _
   have hOl:(ix js).length = 2 * js.length:=a9 _ _
   have hle:=oC hd
   have hpos:=uq hd hne2
   have hFl:(bN z js).length ≤ z.length:=j4 _ _
   refine cU (ts (ro rfl (cQ cV) (ro rfl (cQ cV) (eX (cK (cK (iF 3 1 (iF 3 1 (cY (rm rfl (ro rfl (dG U_26 (Ht rfl) a7) (ro rfl (cX (cJ 0)) (eX (eG ?_))))))))))))))
   refine cT (fun (k : Nat) (vL : Value) (vO : Value) => k ≤ js.length) (fun (k : Nat) (vL : Value) (vO : Value) => js.length - k) (fun (k : Nat) (vL : Value) (vO : Value) => [(2, aI B2 0), (4, aI B4 0), (6, aI B6 0), (8, Is vL), (9, Is vO), (41, te js), (42, NT .i64 js.length), (43, NT .i64 k)]) (fun (k : Nat) (vL : Value) (vO : Value) => [box B2 34 [aS z, b9 s, b9 c], box B4 34 [Is (.slice none 0 0), Is (.slice none 0 0), Is (.slice none 0 0)], box B6 32 [aS (jY z s js), b9 (lb z s js)], aB 3 1 vL ((tab (2 * k) (gq (aR js))).map (NT .i64)), aB 3 1 vO ((tab (2 * k) (fun x => gq (aR js) (de x))).map (NT .i64))]) 0 _ _ (Nat.zero_le _)
    (zS rfl) (aU (a8 rfl) (aU (a8 rfl) (aU (a8 rfl) (aU (aa rfl) (aU (aa rfl) aY))))) (fun k vL vO hk0=>?_)
   refine ts (ro rfl (gX (Ht rfl) (Ht rfl)) (eX (cK (dQ (Ht rfl) (fun hc=>?_) (fun hc=>?_)))))
   ·have hkn : k < js.length := by simp only [decide_eq_true_eq] at hc; omega
    obtain ⟨i1,i2,i3,i4,i5,i6⟩:=zz hp hkn
    obtain ⟨o1,o2⟩:=vM k
    have ht1:=a9 (2 * k) (gq (aR js))
    have ht2:=a9 (2 * k) (fun x=>gq (aR js) (de x))
    refine cU (cK (eG (ts (ro rfl (dZ U_26 Z_71 (Ht rfl) (Ht rfl) rfl (dY (dU (d:=(0,0)) hkn))) (ro rfl (dJ Tryz.isAgg71 Z_71 (Ht rfl)) (rn rfl (eW (Ts:=[Is (.int .i64 0),Is (.int .i64 0)]) O_71 rfl (fun V=>aW zd (aW zd (aG)))) fun B11=>(gQ Z_71 (Ht rfl) (Ht rfl) rfl (i:=5) rfl (aK rfl) rfl rfl (eX (Y.D_startA (m:=17) [] 8 3 rfl rfl (bY (Ei:=[(8,_)]) rfl rfl (bQ (bJ rfl rfl) bX) rfl rfl (dX rfl (cX (Ht rfl))) ?_))))))))))
    refine bY (Ei:=[(11,_)]) rfl rfl (bQ (bJ rfl rfl) bX) rfl rfl (dX rfl (mp U_71 Z_3 (Ht rfl) (cJ 0) rfl (by decide) rfl)) (bY (Ei:=[(48,_)]) rfl rfl (bQ (bZ 1 rfl rfl) bX) rfl rfl (dX rfl (eY A_3 Z_3 (Ht rfl) (i:=5) rfl rfl)) (bY (Ei:=[(49,_)]) rfl rfl (bQ (bZ 2 rfl rfl) bX) rfl rfl (dX rfl (bT (Ht rfl) cV (r:=((gq (aR js) (2 * k):Nat):Int)) ((kA (z:=(d6 js k).1 - 1) zo).trans zo))) ?_))
    refine bY (Ei:=[(11,_)]) rfl rfl (bQ (bJ rfl rfl) bX) rfl rfl (dX rfl (mp U_71 Z_3 (Ht rfl) (cJ 1) rfl (by decide) rfl)) (bY (Ei:=[(51,_)]) rfl rfl (bQ (bZ 4 rfl rfl) bX) rfl rfl (dX rfl (eY A_3 Z_3 (Ht rfl) (i:=5) rfl rfl)) (bY (Ei:=[(52,_)]) rfl rfl (bQ (bZ 5 rfl rfl) bX) rfl rfl (dX rfl (bT (Ht rfl) cV (r:=((gq (aR js) (2 * k + 1):Nat):Int)) ((kA (z:=(d6 js k).2 - 1) zo).trans zo))) ?_))
    refine bY (Ei:=[(50,_),(53,_)]) rfl rfl (bQ (bZ 3 rfl rfl) (bQ (bZ 6 rfl rfl) bX)) rfl rfl (dX rfl (aN (xs:=[.tmp 50,.tmp 53]) U_72 Z_3 O_3 (cW (Ht rfl) (cW (Ht rfl) cG)) rfl rfl rfl)) (Y.D_app (Ei:=[(47,_),(54,_)]) rfl rfl rfl rfl (bQ (bZ 0 rfl rfl) (bQ (bZ 7 rfl rfl) bX)) rfl (jk (inf:=Tryz.t3) jN jT rfl rfl rfl (Ht rfl) (Ht rfl) (by simp) (fun T hT=>by simp at hT; rcases hT with rfl | rfl <;> exact El.one) (by show _ * 8 ≤ _; simp only [List.length_map,List.length_append,List.length_cons,List.length_nil,a9]; omega) (by simp only [List.length_map,List.length_append,List.length_cons,List.length_nil,a9]; omega)) ?_)
    refine bY (Ei:=[(9,_)]) rfl rfl (bQ (bJ rfl rfl) bX) rfl rfl (dX rfl (cX (Ht rfl))) (bY (Ei:=[(11,_)]) rfl rfl (bQ (bJ rfl rfl) bX) rfl rfl (dX rfl (mp U_71 Z_3 (Ht rfl) (cJ 1) rfl (by decide) rfl)) (bY (Ei:=[(57,_)]) rfl rfl (bQ (bZ 10 rfl rfl) bX) rfl rfl (dX rfl (eY A_3 Z_3 (Ht rfl) (i:=5) rfl rfl)) (bY (Ei:=[(58,_)]) rfl rfl (bQ (bZ 11 rfl rfl) bX) rfl rfl (dX rfl (bT (Ht rfl) cV (r:=((gq (aR js) (2 * k + 1):Nat):Int)) ((kA (z:=(d6 js k).2 - 1) zo).trans zo))) ?_)))
    refine bY (Ei:=[(11,_)]) rfl rfl (bQ (bJ rfl rfl) bX) rfl rfl (dX rfl (mp U_71 Z_3 (Ht rfl) (cJ 0) rfl (by decide) rfl)) (bY (Ei:=[(60,_)]) rfl rfl (bQ (bZ 13 rfl rfl) bX) rfl rfl (dX rfl (eY A_3 Z_3 (Ht rfl) (i:=5) rfl rfl)) (bY (Ei:=[(61,_)]) rfl rfl (bQ (bZ 14 rfl rfl) bX) rfl rfl (dX rfl (bT (Ht rfl) cV (r:=((gq (aR js) (2 * k):Nat):Int)) ((kA (z:=(d6 js k).1 - 1) zo).trans zo))) ?_))
    refine bY (Ei:=[(59,_),(62,_)]) rfl rfl (bQ (bZ 12 rfl rfl) (bQ (bZ 15 rfl rfl) bX)) rfl rfl (dX rfl (aN (xs:=[.tmp 59,.tmp 62]) U_72 Z_3 O_3 (cW (Ht rfl) (cW (Ht rfl) cG)) rfl rfl rfl)) (Y.D_done au rfl (by kernel_rfl) rfl (by simp [Y.okP]) rfl rfl (bU (bU (bU (bU (bU (bU (bU (bU (Y.F_app (fun v2=>bU (bU (bU (bU (bU (bU (bU (bU (Y.F_nil ?_)))))))))))))))))))
    refine d5 (inf:=Tryz.t3) jN jT rfl rfl rfl (Ht rfl) (Ht rfl) (i:=4) rfl (by simp) (fun T hT=>by simp at hT; rcases hT with rfl | rfl <;> exact El.one) (by show _ * 8 ≤ _; simp only [List.length_map,List.length_append,List.length_cons,List.length_nil,a9]; omega) (by simp only [List.length_map,List.length_append,List.length_cons,List.length_nil,a9]; omega) rfl (fun v3=>?_)
    refine ra rfl (ra rfl (eX (as (cY (ro rfl (dV (Ht rfl) (cJ 1) z6) (rm rfl (eX (aO [0,1,2,6,4] rfl (by decide) (fU (k + 1,v2,v3) hkn (by dsimp only; omega) (zS rfl) (aU (a8 rfl) (aU (a8 rfl) (aU (a8 rfl) (aU (aa (by rw [nS,List.map_append]; rfl)) (aU (aa (by rw [nS,List.map_append,o1,o2]; rfl)) aY))))))))))))))
   ·obtain rfl : k = js.length := by simp only [decide_eq_false_iff_not] at hc; omega
    refine gV rfl (gJ (i:=3) (tt:=8) rfl rfl bB (gJ (i:=4) (tt:=9) rfl rfl bB (j5 (E':=[(2,_),(4,_),(6,_),(8,_),(9,_),(41,_),(42,_),(43,_),(44,_)]) (aQ rfl (aQ rfl (aQ rfl (aZ rfl (eR (Us:=(nG js).map (NT .i64)) rfl) (aZ rfl (eR (Us:=(ix js).map (NT .i64)) rfl) (zS rfl)))))) (ts (ro rfl (eZ mK (Ht rfl) rfl) (ro rfl (eJ A_32 Z_32 (Ht rfl) (i:=0) rfl rfl rfl) (ro rfl (cZ Tryz.call93 (uz hsh hl) ⟨(Ht rfl),trivial⟩) ?_)))))))
    refine ra rfl (eX (ts (rm rfl (ro rfl (dG U_72 (Ht rfl) (by rw [List.length_map,hPl])) ?_))))
    refine ec Tryz.call94 (Fr (n:=2 * js.length) zo) ⟨(Ht rfl),trivial⟩ rfl (fun B71 _=>(ra rfl (eX (cK (ts (rm rfl (ro rfl (dG U_72 (Ht rfl) (by rw [List.length_map,hPl])) ?_)))))))
    refine ro rfl (cX (cJ 0)) (eX (eG (aO [0,1,2,5] rfl (by decide) ?_)))
    refine aF (fun (x : Nat) => x ≤ (2 * js.length)) (fun (x : Nat) => (2 * js.length) - x) (fun (x : Nat) => [(2, aI B2 0), (4, aI B4 0), (6, aI B6 0), (8, bv (nG js)), (9, bv (ix js)), (12, b9 s), (13, Is (.slice (some ⟨B71, 0, none⟩) (2 * js.length) (2 * js.length))), (73, NT .i64 (2 * js.length)), (74, NT .i64 x)]) (fun (x : Nat) => [box B2 34 [aS z, b9 s, b9 c], box B4 34 [Is (.slice none 0 0), Is (.slice none 0 0), Is (.slice none 0 0)], box B6 32 [aS (jY z s js), b9 (lb z s js)], eC bL B71 29 51 5 (aH ar (eS (fun x => tab (2 * js.length) (fun y => ln x y - gm s (gq (aR js) (de y)) (gq (aR js) x))) (fun x => tab (2 * js.length) (fun y => ln x y)) (2 * js.length) x))]) 0 (Nat.zero_le _)
     (zS rfl) (aU (a8 rfl) (aU (a8 rfl) (aU (a8 rfl) (aU (aC (by rw [← eo,xV])) aY)))) (fun x hx=>?_)
    refine ts (ro rfl (gX (Ht rfl) (Ht rfl)) (eX (cK (dQ (Ht rfl) (fun hc=>?_) (fun hc=>?_)))))
    ·have hxn : x < 2 * js.length := by simp only [decide_eq_true_eq] at hc; omega
     refine eg 3 (x) rfl (iC hxn) (fun v0 hv0=>(cU (cK (eG (ts (rm rfl (ra rfl (eX (ts (rm rfl (ro rfl (dG U_72 (Ht rfl) (by rw [List.length_map,hPl])) ?_)))))))))))
     refine ro rfl (cX (cJ 0)) (eX (eG ?_))
     refine aF (fun (y : Nat) => y ≤ (2 * js.length)) (fun (y : Nat) => (2 * js.length) - y) (fun (y : Nat) => [(2, aI B2 0), (4, aI B4 0), (6, aI B6 0), (8, bv (nG js)), (9, bv (ix js)), (12, b9 s), (13, Is (.slice (some ⟨B71, 0, none⟩) (2 * js.length) (2 * js.length))), (14, NT .i64 x), (73, NT .i64 (2 * js.length)), (74, NT .i64 x), (78, NT .i64 (2 * js.length)), (79, NT .i64 y)]) (fun (y : Nat) => [box B2 34 [aS z, b9 s, b9 c], box B4 34 [Is (.slice none 0 0), Is (.slice none 0 0), Is (.slice none 0 0)], box B6 32 [aS (jY z s js), b9 (lb z s js)], iR bL B71 29 51 5 (aH ar (eS (fun x => tab (2 * js.length) (fun y => ln x y - gm s (gq (aR js) (de y)) (gq (aR js) x))) (fun x => tab (2 * js.length) (fun y => ln x y)) (2 * js.length) x)) x v0, aB 51 5 v0 ((eS (fun y => ln x y - gm s (gq (aR js) (de y)) (gq (aR js) x)) (fun y => ln x y) (2 * js.length) y).map ar)]) 0 (Nat.zero_le _)
      (zS rfl) (aU (a8 rfl) (aU (a8 rfl) (aU (a8 rfl) (aU (fun _ _ _ h=>h) (aU (aa (by rw [← eo])) aY))))) (fun y hy=>?_)
     refine ts (ro rfl (gX (Ht rfl) (Ht rfl)) (eX (cK (dQ (Ht rfl) (fun hd2=>?_) (fun hd2=>?_)))))
     ·have hyn : y < 2 * js.length := by simp only [decide_eq_true_eq] at hd2; omega
      have hb1:=hj.lt (de y) (gF hyn)
      have hb2:=hj.lt x hxn
      have hsr:=hsh.row hb1
      have hrl:=dL (fun y=>ln x y - gm s (gq (aR js) (de y)) (gq (aR js) x)) (fun y=>ln x y) (2 * js.length) y
      haveI g1:=qN x y
      haveI g2:ao (gm s (gq (aR js) (de y)) (gq (aR js) x)) 2:=hs.get (by decide) _ _
      refine cU (cK (eG (ts (rm rfl (ra rfl (eX (fZ (m:=27) (dp 13 rfl (cX (Ht rfl)) (dp 14 rfl (cX (Ht rfl)) (b8 82 0 83 1 rfl (fY U_30 Z_29 (Ht rfl) (Ht rfl) rfl zo (by rw [Nat.mul_one,Nat.zero_add])) ?_))))))))))
      refine dq 84 2 rfl (d4 A_29 Z_29 (Ht rfl) (j:=3) rfl) (dp 15 rfl (cX (Ht rfl)) (dp 13 rfl (cX (Ht rfl)) (dp 14 rfl (cX (Ht rfl)) (b8 87 5 88 6 rfl (fY U_30 Z_29 (Ht rfl) (Ht rfl) rfl zo (by rw [Nat.mul_one,Nat.zero_add])) ?_))))
      refine dq 89 7 rfl (d4 A_29 Z_29 (Ht rfl) (j:=3) rfl) (dp 15 rfl (cX (Ht rfl)) (b8 90 8 91 9 rfl (b6 U_29 Z_51 (Ht rfl) (Ht rfl) rfl (i:=4) rfl (by rw [List.length_map,hrl]; exact hyn) rfl) ?_))
      refine dq 92 10 rfl (gD A_51 Z_51 (Ht rfl) (i:=4) rfl rfl (dY (jp hyn))) (dq 93 11 rfl (bd bC (Ht rfl)) (dp 12 rfl (cX (Ht rfl)) (dp 9 rfl (cX (Ht rfl)) (dp 15 rfl (cX (Ht rfl)) (b8 96 14 97 15 rfl (dZ U_72 Z_3 (Ht rfl) (Ht rfl) rfl (dY (show (ix js)[y]? = some (gq (aR js) (de y)) from aM hyn))) (dq 98 16 rfl (dJ A_3 Z_3 (Ht rfl)) (b8 95 13 99 17 rfl (dZ U_30 Z_29 (Ht rfl) (Ht rfl) rfl (dY (dU (d:=[]) zo))) (dq 100 18 rfl (dJ A_29 Z_29 (Ht rfl)) ?_))))))))
      refine dp 8 rfl (cX (Ht rfl)) (dp 14 rfl (cX (Ht rfl)) (b8 102 20 103 21 rfl (dZ U_72 Z_3 (Ht rfl) (Ht rfl) rfl (dY (show (nG js)[x]? = some (gq (aR js) x) from aM hxn))) (dq 104 22 rfl (dJ A_3 Z_3 (Ht rfl)) (b8 101 19 105 23 rfl (dZ U_29 Z_51 (Ht rfl) (Ht rfl) rfl (dY (dU (d:=Qi.zero) zo))) (dq 106 24 rfl (dJ A_51 Z_51 (Ht rfl)) (b8 94 12 107 25 rfl (b7 fo K_44 (oL (x:=ln x y) (y:=gm s (gq (aR js) (de y)) (gq (aR js) x)) (L:=1) (M:=2) (by decide)) (Ht rfl) ⟨(Ht rfl),trivial⟩) ?_))))))
      refine fV au rfl (by kernel_rfl) (zF (zF (zF (zF (zF (zF (aJ (aJ (aJ (aV (ro rfl (b6 U_29 Z_51 (Ht rfl) (Ht rfl) rfl (i:=4) rfl (by rw [List.length_map,hrl]; exact hyn) rfl) ?_)))))))))))
      refine dB Z_51 (Ht rfl) (Ht rfl) (El.ag rfl) (i:=4) rfl rfl (by rw [List.length_map,hrl]; exact hyn) rfl ?_
      refine eX (as (cY (ro rfl (dV (Ht rfl) (cJ 1) z6) (rm rfl (eX (aO [0,1,2,3,4] rfl (by decide) (fU (y + 1) hyn zo (zS rfl) (aU (a8 rfl) (aU (a8 rfl) (aU (a8 rfl) (aU (fun _ _ _ h=>h) (aU (aa (by rw [ce]; exact congrArg _ (fl (f:=(fun y=>ln x y - gm s (gq (aR js) (de y)) (gq (aR js) x)))))) aY))))))))))))
     ·have hyn : y = 2 * js.length := by simp only [decide_eq_false_iff_not] at hd2; omega
      rw [hyn,fm]
      refine gV rfl (as (bR 3 4 rfl rfl (by decide) (by simp only [aH,List.length_map,dL]; omega) ?_))
      refine cY (ro rfl (dV (Ht rfl) (cJ 1) z6) (rm rfl (eX (aO [0,1,2,3] rfl (by decide) (fU (x + 1) hxn zo (zS rfl) (aU (a8 rfl) (aU (a8 rfl) (aU (a8 rfl) (aU (aC (by rw [c9]; exact congrArg _ (fl (f:=(fun x=>tab (2 * js.length) (fun y=>ln x y - gm s (gq (aR js) (de y)) (gq (aR js) x))))))) aY)))))))))
    ·have hxn : x = 2 * js.length := by simp only [decide_eq_false_iff_not] at hc; omega
     rw [hxn,fm,show tab (2 * js.length) (fun x=>tab (2 * js.length) (fun y=>ln x y - gm s (gq (aR js) (de y)) (gq (aR js) x))) = xy s js from rfl]
     refine gV rfl (gJ (i:=3) (tt:=13) rfl rfl (eD (s:=5) (M:=xy s js) (mn s js).1.symm) (ts (ro rfl (cQ cV) (eX (cK (cK (aO [0,1,2] rfl (by decide) (iF 29 1 ?_))))))))
     have hPf:aL (oF s js z.length) 60000:=(rH (L:=2) (G:=7082) hs (by decide) (fun x=>nO hs hj6 hk x) (by decide) zo).le (by decide)
     have hPs:=rk s js z.length
     have hcar:az Tryz.prog 99 [b9 (oF s js z.length),b9 c] (b9 (g7 (oF s js z.length) c)):=D5 (p:=oF s js z.length) (c:=c) (n:=(bN z js).length) (m:=z.length) (L:=60000) hPs hch hPf hcf (by decide) (by decide) hpos zo zo hl
     have hslv : ∀ i, az Tryz.prog 96 [b9 (xy s js), aS (E2 s js i)] (cr [aS (CL s js i), ap .i64 0]) := fun i => by
      have hT0:=zA hk zo (E2 s js i)
      have h := vk (M := xy s js) (b := E2 s js i) (n := 2 * js.length) (L := 4) (mn s js) (a9 _ _) (aL.tab fun x y _ _ => by
       haveI:=qN x y
       haveI:ao (gm s (gq (aR js) (de y)) (gq (aR js) x)) 2:=hs.get (by decide) _ _
       exact (fitSub (x:=ln x y) (y:=gm s (gq (aR js) (de y)) (gq (aR js) x)))) (bk.tab fun y _=>(hs.get (by decide) i _).le (by decide)) (by decide) zo zo (G7 hl js.length zo) (Nat.le_trans (Gd hl js.length zo) (by decide))
      rw [hT0] at h; exact h
     refine cY (rm rfl (ro rfl (dG U_30 (Ht rfl) (by rw [List.length_map,hsl])) ?_))
     refine ro rfl (cX (cJ 0)) (eX (eG ?_))
     refine bA (fun (i : Nat) (vR : Value) => i ≤ z.length) (fun (i : Nat) (vR : Value) => z.length - i) (fun (i : Nat) (vR : Value) => [(2, aI B2 0), (4, aI B4 0), (6, aI B6 0), (8, bv (nG js)), (9, bv (ix js)), (12, b9 s), (13, b9 (xy s js)), (16, Is vR), (113, NT .i64 z.length), (114, NT .i64 i)]) (fun (i : Nat) (vR : Value) => [box B2 34 [aS z, b9 s, b9 c], box B4 34 [Is (.slice none 0 0), Is (.slice none 0 0), Is (.slice none 0 0)], box B6 32 [aS (jY z s js), b9 (lb z s js)], aB 29 1 vR (((gC (gO js) i).map (fun i => tab z.length fun k => lD s js i k)).map aS)]) 0 _ (Nat.zero_le _)
      (zS rfl) (aU (a8 rfl) (aU (a8 rfl) (aU (a8 rfl) (aU (aa rfl) aY)))) (fun i vR hi=>?_)
     refine ts (ro rfl (gX (Ht rfl) (Ht rfl)) (eX (cK (dQ (Ht rfl) (fun hc=>?_) (fun hc=>?_)))))
     ·have hin : i < z.length := by simp only [decide_eq_true_eq] at hc; omega
      have hfl:=j4 (gO js) i
      have hsi:=hsh.row hin
      refine cU (cK (eG (ts (rm rfl (ra rfl (eX (cK (ts (rm rfl (rm rfl (ro rfl (cZ Tryz.call95 (xu (l:=nG js) (i:=i) zo) ⟨(Ht rfl),(Ht rfl),trivial⟩) (eX (dQ (Ht rfl) (fun hx=>?_) (fun hx=>?_))))))))))))))
      ·have hmem : i ∈ gO js := by rw [← uL]; simpa using hx
       have hnx:gC (gO js) (i + 1) = gC (gO js) i:=by rw [gC,if_pos hmem,List.append_nil]
       refine gV rfl (cY (ro rfl (dV (Ht rfl) (cJ 1) z6) (rm rfl (eX (fU (i + 1,vR) hin (by dsimp only; omega) (zS rfl) (aU (a8 rfl) (aU (a8 rfl) (aU (a8 rfl) (aU (aa (by rw [hnx])) aY)))))))))
      ·have hmem : i ∉ gO js := fun h => by rw [← uL] at h; simp [h] at hx
       have hnx:gC (gO js) (i + 1) = gC (gO js) i ++ [i]:=by rw [gC,if_neg hmem]
       refine cU (ts (ro rfl (cQ cV) (eX (cK (cK (iF 51 5 (cY (rm rfl (ro rfl (dG U_72 (Ht rfl) (by rw [List.length_map,hPl])) ?_)))))))))
       refine ro rfl (cX (cJ 0)) (eX (eG ?_))
       refine bA (fun (y : Nat) (vV : Value) => y ≤ (2 * js.length)) (fun (y : Nat) (vV : Value) => (2 * js.length) - y) (fun (y : Nat) (vV : Value) => [(2, aI B2 0), (4, aI B4 0), (6, aI B6 0), (8, bv (nG js)), (9, bv (ix js)), (12, b9 s), (13, b9 (xy s js)), (16, Is vR), (17, NT .i64 i), (18, Is vV), (113, NT .i64 z.length), (114, NT .i64 i), (120, bv (nG js)), (121, NT .i64 (2 * js.length)), (122, NT .i64 y)]) (fun (y : Nat) (vV : Value) => [box B2 34 [aS z, b9 s, b9 c], box B4 34 [Is (.slice none 0 0), Is (.slice none 0 0), Is (.slice none 0 0)], box B6 32 [aS (jY z s js), b9 (lb z s js)], aB 29 1 vR (((gC (gO js) i).map (fun i => tab z.length fun k => lD s js i k)).map aS), aB 51 5 vV ((tab y fun y => gm s i (gq (aR js) y)).map ar)]) 0 _ (Nat.zero_le _)
        (zS rfl) (aU (a8 rfl) (aU (a8 rfl) (aU (a8 rfl) (aU (fun _ _ _ h=>h) (aU (aa rfl) aY))))) (fun y vV hy=>?_)
       refine ts (ro rfl (gX (Ht rfl) (Ht rfl)) (eX (cK (dQ (Ht rfl) (fun hd2=>?_) (fun hd2=>?_)))))
       ·have hyn : y < 2 * js.length := by simp only [decide_eq_true_eq] at hd2; omega
        have hb2:=hj.lt y hyn
        have htl:=a9 y fun y=>gm s i (gq (aR js) y)
        refine cU (cK (eG (ts (ro rfl (dZ U_72 Z_3 (Ht rfl) (Ht rfl) rfl (dY (show (nG js)[y]? = some (gq (aR js) y) from aM hyn))) (ro rfl (dJ A_3 Z_3 (Ht rfl)) (ra rfl (eX (cY (rm rfl (rm rfl (rm rfl (ro rfl (dZ U_30 Z_29 (Ht rfl) (Ht rfl) rfl (dY (dU (d:=[]) zo))) (ro rfl (dJ A_29 Z_29 (Ht rfl)) (rm rfl (ro rfl (dZ U_29 Z_51 (Ht rfl) (Ht rfl) rfl (dY (dU (d:=Qi.zero) zo))) (ro rfl (dJ A_51 Z_51 (Ht rfl)) ?_))))))))))))))))
        refine ro rfl (aN (xs:=[.tmp 133]) U_29 Z_51 O_51 (cW (Ht rfl) cG) rfl rfl rfl) (d5 (inf:=Tryz.t51) gt f9 rfl rfl rfl (Ht rfl) (Ht rfl) (i:=4) rfl (by simp) (fun T hT=>by simp at hT; subst hT; exact El.ag rfl) (by show _ * 88 ≤ _; simp only [List.length_map,List.length_append,List.length_cons,List.length_nil,a9]; omega) (by simp only [List.length_map,List.length_append,List.length_cons,List.length_nil,a9]; omega) rfl (fun v5=>?_))
        refine ra rfl (eX (as (cY (ro rfl (dV (Ht rfl) (cJ 1) z6) (rm rfl (eX (aO [0,1,2,3,4] rfl (by decide) (fU (y + 1,v5) hyn (by dsimp only; omega) (zS rfl) (aU (a8 rfl) (aU (a8 rfl) (aU (a8 rfl) (aU (fun _ _ _ h=>h) (aU (aa (by rw [ie,List.map_append]; rfl)) aY)))))))))))))
       ·have hyn : y = 2 * js.length := by simp only [decide_eq_false_iff_not] at hd2; omega
        rw [hyn]
        refine gV rfl (gJ (i:=4) (tt:=18) rfl rfl bB (j5 (E':=[(2,_),(4,_),(6,_),(8,_),(9,_),(12,_),(13,_),(16,_),(17,_),(18,_),(113,_),(114,_),(120,_),(121,_),(122,_),(123,_)]) (aQ rfl (aQ rfl (aQ rfl (aQ rfl (aQ rfl (aQ rfl (aQ rfl (aQ rfl (aQ rfl (aZ rfl (eR (Us:=(E2 s js i).map ar) rfl) (zS rfl))))))))))) (ts (rm rfl (rm rfl (ro rfl (cZ Tryz.call96 (hslv i) ⟨(Ht rfl),(Ht rfl),trivial⟩) ?_))))))
        refine rm rfl (ro rfl (dK (Ht rfl) rfl) (ro rfl (dK (Ht rfl) rfl) (ra rfl (ra rfl (eX (cK (ts (rm rfl (ro rfl (eP (Ht rfl) cV) (eX (dP (Ht rfl) (by rfl) ?_)))))))))))
        refine cU (ts (rm rfl (ro rfl (dG U_30 (Ht rfl) (by rw [List.length_map,hsl])) ?_)))
        refine ec Tryz.call97 (wG (r:=1) (n:=z.length) (by decide) zo zo) ⟨(cJ 1),(Ht rfl),trivial⟩ rfl (fun B149 _=>?_)
        refine Ar 5 0 (Ts:=(tab z.length fun _=>Qi.zero).map ar) rfl rfl (fun v0=>(ro rfl (fY U_30 Z_29 (Ht rfl) (cJ 0) rfl (by decide) (by rw [Nat.mul_one,Nat.zero_add])) ?_))
        refine ro rfl (d4 A_29 Z_29 (Ht rfl) (j:=5) rfl) (ra rfl (eX (ts (rm rfl (rm rfl (ro rfl (cZ K_77 (jZ (n:=1) (by decide) (by decide)) ⟨(cJ 1),trivial⟩) (ro rfl (cZ K_98 tI ⟨(Ht rfl),trivial⟩) (ro rfl (b6 U_29 Z_51 (Ht rfl) (Ht rfl) rfl (i:=6) rfl (by rw [List.length_map,a9]; omega) rfl) ?_))))))))
        refine dB Z_51 (Ht rfl) (Ht rfl) (El.ag rfl) (i:=6) rfl rfl (by rw [List.length_map,a9]; omega) rfl ?_
        refine eX (cK (cK (fk 6 rfl (aa (e:=51) (s:=5) (by rw [ce,u5 hin]:_ = (k7 s js z.length i 0).map ar)) ?_)))
        refine cY (rm rfl (ro rfl (dG U_72 (Ht rfl) (by rw [List.length_map,hOl])) ?_))
        refine ro rfl (cX (cJ 0)) (eX (eG (aO [0,1,2,3,6] rfl (by decide) ?_)))
        refine aF (fun (y : Nat) => y ≤ (2 * js.length)) (fun (y : Nat) => (2 * js.length) - y) (fun (y : Nat) => [(2, aI B2 0), (4, aI B4 0), (6, aI B6 0), (8, bv (nG js)), (9, bv (ix js)), (12, b9 s), (13, b9 (xy s js)), (16, Is vR), (17, NT .i64 i), (21, aS (CL s js i)), (23, Is v0), (113, NT .i64 z.length), (114, NT .i64 i), (157, bv (ix js)), (158, NT .i64 (2 * js.length)), (159, NT .i64 y)]) (fun (y : Nat) => [box B2 34 [aS z, b9 s, b9 c], box B4 34 [Is (.slice none 0 0), Is (.slice none 0 0), Is (.slice none 0 0)], box B6 32 [aS (jY z s js), b9 (lb z s js)], aB 29 1 vR (((gC (gO js) i).map (fun i => tab z.length fun k => lD s js i k)).map aS), aB 51 5 v0 ((k7 s js z.length i y).map ar)]) 0 (Nat.zero_le _)
         (zS rfl) (aU (a8 rfl) (aU (a8 rfl) (aU (a8 rfl) (aU (fun _ _ _ h=>h) (aU (fun _ _ _ h=>h) aY))))) (fun y hy2=>?_)
        refine ts (ro rfl (gX (Ht rfl) (Ht rfl)) (eX (cK (dQ (Ht rfl) (fun hd3=>?_) (fun hd3=>?_)))))
        ·have hyn : y < 2 * js.length := by simp only [decide_eq_true_eq] at hd3; omega
         have hb1:=hj.lt (de y) (gF hyn)
         have hQl:(CL s js i).length = 2 * js.length:=ky _ _ _
         have hrl:=yC s js z.length i y
         have hst:=xI (S:=s) (N:=z.length) (i:=i) hj hyn
         rw [FQ hj hk hmem hyn] at hst
         refine cU (cK (eG (ts (rm rfl (ro rfl (dZ U_72 Z_3 (Ht rfl) (Ht rfl) rfl (dY (show (ix js)[y]? = some (gq (aR js) (de y)) from aM hyn))) (ro rfl (dJ A_3 Z_3 (Ht rfl)) (ra rfl (ra rfl (eX (cY (rm rfl (rm rfl (rm rfl (rm rfl (ro rfl (dZ U_29 Z_51 (Ht rfl) (Ht rfl) rfl (dY (dU (d:=Qi.zero) zo))) (ro rfl (dJ A_51 Z_51 (Ht rfl)) (ro rfl (b6 U_29 Z_51 (Ht rfl) (Ht rfl) rfl (i:=4) rfl (by rw [List.length_map,hrl]; exact hb1) rfl) ?_)))))))))))))))))
         refine dB Z_51 (Ht rfl) (Ht rfl) (El.ag rfl) (i:=4) rfl rfl (by rw [List.length_map,hrl]; exact hb1) rfl ?_
         refine eX (as (cY (ro rfl (dV (Ht rfl) (cJ 1) z6) (rm rfl (eX (aO [0,1,2,3,4] rfl (by decide) (fU (y + 1) hyn zo (zS rfl) (aU (a8 rfl) (aU (a8 rfl) (aU (a8 rfl) (aU (fun _ _ _ h=>h) (aU (aa (by rw [ce]; exact congrArg _ hst)) aY))))))))))))
        ·have hyn : y = 2 * js.length := by simp only [decide_eq_false_iff_not] at hd3; omega
         rw [hyn,zK]
         refine gV rfl (gJ (i:=4) (tt:=23) rfl rfl bB (cY (rm rfl (rm rfl (ro rfl (aN (xs:=[.tmp 173]) U_30 Z_29 O_29 (cW (Ht rfl) cG) rfl rfl rfl) (d5 (inf:=Tryz.t29) ua gr rfl rfl rfl (Ht rfl) (Ht rfl) (i:=3) rfl (by simp) (fun T hT=>by simp at hT; subst hT; exact El.one) (by show _ * 24 ≤ _; simp only [List.length_map,List.length_append,List.length_cons,List.length_nil,a9]; omega) (by simp only [List.length_map,List.length_append,List.length_cons,List.length_nil,a9]; omega) rfl (fun v6=>?_)))))))
         refine ra rfl (eX (as (cY (ro rfl (dV (Ht rfl) (cJ 1) z6) (rm rfl (eX (aO [0,1,2,3] rfl (by decide) (fU (i + 1,v6) hin (by dsimp only; omega) (zS rfl) (aU (a8 rfl) (aU (a8 rfl) (aU (a8 rfl) (aU (aa (by rw [hnx,List.map_append,List.map_append]; rfl)) aY))))))))))))
     ·have hiz : i = z.length := by simp only [decide_eq_false_iff_not] at hc; omega
      rw [hiz]
      refine gV rfl (gJ (i:=3) (tt:=16) rfl rfl bB (cK (fZ (m:=5) (dp 6 rfl (eJ A_32 Z_32 (Ht rfl) (i:=2) rfl rfl rfl) (dp 16 rfl (cX (Ht rfl)) (dp 2 rfl (eZ j8 (Ht rfl) rfl) (dq 179 2 rfl (eY A_30 Z_30 (Ht rfl) (i:=0) rfl rfl) (b8 178 1 180 3 rfl (cZ Tryz.call99 hcar ⟨(Ht rfl),(Ht rfl),trivial⟩) (fV au rfl (by kernel_rfl) (zF (aJ (aV (ro rfl (oG (Ht rfl) (Ht rfl)) (gQ Z_34 (Ht rfl) (Ht rfl) rfl (i:=1) rfl (aK rfl) rfl rfl ?_))))))))))))))
      refine ro rfl (cQ (cJ 0)) (eX (aE rfl (fX (fK A_34 Z_34 rfl (i:=1) rfl rfl) ?_) (fX (eU rfl) ?_)))
      ·exact (fun v V h=>by rw [wr,bq,if_pos he]; exact h)
      ·exact (am he.symm)
end
section
open Go Go.RowKit
theorem sg {l:List Nat} {x:Nat} (hl:l.length ≤ 1000):az Tryz.prog 200 [bv l,NT .i64 x] (ap .i64 (mF l x)):=by
 refine az.intro Tryz.func200 rfl Tryz.ntmps200 rfl (fun cx=>(ts (ro rfl (cQ (cJ 0)) (eX (cK (ts (ro rfl (cQ (cJ 0)) (eX (eG ?_)))))))))
 refine aF (fun (i : Nat) => i ≤ l.length ∧ mF l x = tZ l x (l.length - i)) (fun (i : Nat) => l.length - i) (fun (i : Nat) => [(0, bv l), (1, NT .i64 x), (5, NT .i64 i)]) (fun (i : Nat) => []) 0 ⟨Nat.zero_le _, rfl⟩
  (zS rfl) aY (fun i ⟨hi,hx⟩=>?_)
 refine cK (ts (rm rfl (rm rfl (ro rfl (dG U_72 (Ht rfl) a7) (ro rfl (gX (Ht rfl) (Ht rfl)) (eX (dQ (Ht rfl) (fun hc=>?_) (fun hc=>?_))))))))
 ·have hin : i < l.length := by simp only [decide_eq_true_eq] at hc; omega
  have hst : tZ l x (l.length - i) = if l.getD i 0 = x then (i : Int) else tZ l x (l.length - (i + 1)) := by
   rw [show l.length - i = (l.length - (i + 1)) + 1 by omega,tZ,show l.length - (l.length - (i + 1) + 1) = i by omega]
  rw [hst] at hx
  refine cU (cK (eG (ts (rm rfl (rm rfl (ro rfl (dZ U_72 Z_3 (Ht rfl) (Ht rfl) rfl (dY (dU (d:=0) hin))) (ro rfl (dJ A_3 Z_3 (Ht rfl)) (rm rfl (ro rfl (bc (Ht rfl) (Ht rfl)) (eX (dQ (Ht rfl) (fun he=>?_) (fun he=>?_))))))))))))
  ·have he2 : l.getD i 0 = x := by simp only [decide_eq_true_eq] at he; omega
   rw [if_pos he2] at hx
   refine ts (rm rfl (ra rfl (eX (fW rfl (fX (eU rfl) ?_)))))
   exact (am hx.symm)
  ·have he2 : ¬ l.getD i 0 = x := by simp only [decide_eq_false_iff_not] at he; omega
   rw [if_neg he2] at hx
   refine cU (as (cY (rm rfl (ro rfl (dV (Ht rfl) (cJ 1) z6) (ra rfl (eX (fU (i + 1) ⟨hin,hx⟩ zo (zS rfl) aY)))))))
 ·have hin : l.length - i = 0 := by simp only [decide_eq_false_iff_not] at hc; omega
  rw [hin] at hx
  refine gV rfl (ts (ro rfl (cQ cV) (eX (fW rfl (fX (eU rfl) ?_)))))
  exact (am hx.symm)
end
section
open Go Go.RowKit
theorem Bz (n : Nat) : mL n = tab n fun x => tab n fun y => ln x y := j9 (ol n) bE.tab fun i hi j hj => by
 rw [jK hi hj,jd hi hj]; rfl
theorem yD {m x:Nat} (h:x < m):((tab m fun _=>QT Qi.zero).set x (QT (Qi.ofInt 1))) = (ek m x).map QT:=by
 rw [show ek m x = ga m x by simp [ek,mL,List.getD,aM h],ga,← ce,jR]
theorem AT {z : List Qi} {S : List (List Qi)} {js : List (Int × Int)} {L G : Nat} (hS : bE S z.length z.length) (hf : aL S L) (hL : 1 ≤ L) (hLb : L ≤ 1000) (hz : z.length ≤ 9) (hd : k9 z js = 0) (hjl : 2 * js.length ≤ 8)
    (hk:∀ b,et (gk S (aR js) (2 * js.length)) b (2 * js.length) = 0) (hv:∀ x,bk (nJ S js x) G) (hG:1 ≤ G) (hGb:G ≤ 1000000) (hg:6 * b5 (L + 2) (2 * js.length) + 4 ≤ 17592186044415):az Tryz.prog 101 [ik z S,te js] (cr [QM (oF S js z.length),ab true]):=by
 have hp:=rl hd
 have hj:=lw hd
 have hPl:(nG js).length = 2 * js.length:=a9 _ _
 have hOl:(ix js).length = 2 * js.length:=a9 _ _
 have hSl:=hS.1
 have hms:=gx S (aR js) (2 * js.length)
 have hmf:=mc (ps:=aR js) (m:=2 * js.length) hf hL
 refine az.intro Tryz.func101 rfl Tryz.ntmps101 rfl (fun cx=>(ts (rn rfl (fG (Ht rfl)) fun B2=>(ro rfl (cQ cV) (ro rfl (cQ cV) (eX (ts (ro rfl (cQ cV) (ro rfl (cQ cV) (eX (cK (cK (iF 3 1 (iF 3 1 (cY (ro rfl (cQ (cJ 0)) (eX (eG ?_))))))))))))))))))
 refine cT (fun (k : Nat) (vL : Value) (vO : Value) => k ≤ js.length) (fun (k : Nat) (vL : Value) (vO : Value) => js.length - k) (fun (k : Nat) (vL : Value) (vO : Value) => [(1, te js), (2, aI B2 0), (6, Is vL), (7, Is vO), (8, NT .i64 k)]) (fun (k : Nat) (vL : Value) (vO : Value) => [box B2 38 [iv z, QM S], aB 3 1 vL ((tab (2 * k) (gq (aR js))).map (NT .i64)), aB 3 1 vO ((tab (2 * k) (fun x => gq (aR js) (de x))).map (NT .i64))]) 0 _ _ (Nat.zero_le _)
  (zS rfl) (aU (a8 rfl) (aU (aa rfl) (aU (aa rfl) aY))) (fun k vL vO hk0=>?_)
 refine cK (ts (rm rfl (rm rfl (ro rfl (dG U_26 (Ht rfl) a7) (ro rfl (gX (Ht rfl) (Ht rfl)) (eX (dQ (Ht rfl) (fun hc=>?_) (fun hc=>?_))))))))
 ·have hkn : k < js.length := by simp only [decide_eq_true_eq] at hc; omega
  obtain ⟨i1,i2,i3,i4,i5,i6⟩:=zz hp hkn
  obtain ⟨o1,o2⟩:=vM k
  have ht1:=a9 (2 * k) (gq (aR js))
  have ht2:=a9 (2 * k) (fun x=>gq (aR js) (de x))
  refine cU (cK (eG (cK (fZ (m:=14) (dp 6 rfl (cX (Ht rfl)) (dp 1 rfl (cX (Ht rfl)) (dp 8 rfl (cX (Ht rfl)) (b8 30 1 31 2 rfl (dZ U_26 Z_71 (Ht rfl) (Ht rfl) rfl (dY (dU (d:=(0,0)) hkn))) (dq 32 3 rfl (eT U_71 Z_3 (Ht rfl) cV rfl (by decide) rfl) (dq 33 4 rfl (dJ A_3 Z_3 (Ht rfl)) (dq 34 5 rfl (bT (Ht rfl) cV (r:=((gq (aR js) (2 * k):Nat):Int)) ((kA (z:=(d6 js k).1 - 1) zo).trans zo)) ?_)))))))))))
  refine dp 1 rfl (cX (Ht rfl)) (dp 8 rfl (cX (Ht rfl)) (b8 36 7 37 8 rfl (dZ U_26 Z_71 (Ht rfl) (Ht rfl) rfl (dY (dU (d:=(0,0)) hkn))) (dq 38 9 rfl (eT U_71 Z_3 (Ht rfl) cV rfl (by decide) rfl) (dq 39 10 rfl (dJ A_3 Z_3 (Ht rfl)) (dq 40 11 rfl (bT (Ht rfl) cV (r:=((gq (aR js) (2 * k + 1):Nat):Int)) ((kA (z:=(d6 js k).2 - 1) zo).trans zo)) ?_)))))
  refine b8 35 6 41 12 rfl (aN (xs:=[.tmp 35,.tmp 41]) U_72 Z_3 O_3 (cW (Ht rfl) (cW (Ht rfl) cG)) rfl rfl rfl) (fV au rfl (by kernel_rfl) (zF (zF (zF (aJ (aJ (aV (d5 (inf:=Tryz.t3) jN jT rfl rfl rfl (Ht rfl) (Ht rfl) (i:=1) rfl (by simp) (fun T hT=>by simp at hT; rcases hT with rfl | rfl <;> exact El.one) (by show _ * 8 ≤ _; simp only [List.length_map,List.length_append,List.length_cons,List.length_nil,a9]; omega) (by simp only [List.length_map,List.length_append,List.length_cons,List.length_nil,a9]; omega) rfl (fun v2=>?_)))))))))
  refine ra rfl (eX (fk 1 rfl (aa (e:=3) (s:=1) (by rw [nS,List.map_append]; rfl:_ = (tab (2 * (k + 1)) (gq (aR js))).map (NT .i64))) ?_))
  refine fZ (m:=14) (dp 7 rfl (cX (Ht rfl)) (dp 1 rfl (cX (Ht rfl)) (dp 8 rfl (cX (Ht rfl)) (b8 45 1 46 2 rfl (dZ U_26 Z_71 (Ht rfl) (Ht rfl) rfl (dY (dU (d:=(0,0)) hkn))) (dq 47 3 rfl (eT U_71 Z_3 (Ht rfl) cV rfl (by decide) rfl) (dq 48 4 rfl (dJ A_3 Z_3 (Ht rfl)) (dq 49 5 rfl (bT (Ht rfl) cV (r:=((gq (aR js) (2 * k + 1):Nat):Int)) ((kA (z:=(d6 js k).2 - 1) zo).trans zo)) ?_)))))))
  refine dp 1 rfl (cX (Ht rfl)) (dp 8 rfl (cX (Ht rfl)) (b8 51 7 52 8 rfl (dZ U_26 Z_71 (Ht rfl) (Ht rfl) rfl (dY (dU (d:=(0,0)) hkn))) (dq 53 9 rfl (eT U_71 Z_3 (Ht rfl) cV rfl (by decide) rfl) (dq 54 10 rfl (dJ A_3 Z_3 (Ht rfl)) (dq 55 11 rfl (bT (Ht rfl) cV (r:=((gq (aR js) (2 * k):Nat):Int)) ((kA (z:=(d6 js k).1 - 1) zo).trans zo)) ?_)))))
  refine b8 50 6 56 12 rfl (aN (xs:=[.tmp 50,.tmp 56]) U_72 Z_3 O_3 (cW (Ht rfl) (cW (Ht rfl) cG)) rfl rfl rfl) (fV au rfl (by kernel_rfl) (zF (zF (zF (aJ (aJ (aV (d5 (inf:=Tryz.t3) jN jT rfl rfl rfl (Ht rfl) (Ht rfl) (i:=2) rfl (by simp) (fun T hT=>by simp at hT; rcases hT with rfl | rfl <;> exact El.one) (by show _ * 8 ≤ _; simp only [List.length_map,List.length_append,List.length_cons,List.length_nil,a9]; omega) (by simp only [List.length_map,List.length_append,List.length_cons,List.length_nil,a9]; omega) rfl (fun v3=>?_)))))))))
  refine ra rfl (eX (as (cY (rm rfl (ro rfl (dV (Ht rfl) (cJ 1) z6) (ra rfl (eX (fU (k + 1,v2,v3) hkn (by dsimp only; omega) (zS rfl) (aU (a8 rfl) (aU (fun _ _ _ h=>h) (aU (aa (by rw [nS,List.map_append,o1,o2]; rfl)) aY)))))))))))
 ·obtain rfl : k = js.length := by simp only [decide_eq_false_iff_not] at hc; omega
  refine gJ (i:=1) (tt:=6) rfl rfl bB (gJ (i:=2) (tt:=7) rfl rfl bB (j5 (E':=[(1,_),(2,_),(6,_),(7,_),(8,_),(23,_),(24,_),(25,_),(26,_)]) (aQ rfl (aQ rfl (aZ rfl (eR (Us:=(nG js).map (NT .i64)) rfl) (aZ rfl (eR (Us:=(ix js).map (NT .i64)) rfl) (zS rfl))))) (gV rfl (ts (rm rfl (ro rfl (dG U_72 (Ht rfl) (by rw [List.length_map,hPl])) ?_))))))
  refine ec Tryz.call199 (za (n:=2 * js.length) zo) ⟨(Ht rfl),trivial⟩ rfl (fun B61 _=>(ra rfl (eX (cK (ts (ro rfl (cQ (cJ 0)) (eX (eG (aO [0,3] rfl (by decide) ?_)))))))))
  refine aF (fun (x : Nat) => x ≤ (2 * js.length)) (fun (x : Nat) => (2 * js.length) - x) (fun (x : Nat) => [(2, aI B2 0), (6, bv (nG js)), (7, bv (ix js)), (9, Is (.slice (some ⟨B61, 0, none⟩) (2 * js.length) (2 * js.length))), (10, NT .i64 x)]) (fun (x : Nat) => [box B2 38 [iv z, QM S], eC bL B61 35 131 5 (aH QT (eS (fun x => tab (2 * js.length) (fun y => ln x y - gm S (gq (aR js) (de x)) (gq (aR js) y))) (fun x => tab (2 * js.length) (fun y => ln x y)) (2 * js.length) x))]) 0 (Nat.zero_le _)
   (zS rfl) (aU (a8 rfl) (aU (aC (by rw [← eo,Bz])) aY)) (fun x hx=>?_)
  refine cK (ts (rm rfl (rm rfl (ro rfl (dG U_72 (Ht rfl) (by rw [List.length_map,hPl])) ?_))))
  refine ro rfl (gX (Ht rfl) (Ht rfl)) (eX (dQ (Ht rfl) (fun hc=>?_) (fun hc=>?_)))
  ·have hxn : x < 2 * js.length := by simp only [decide_eq_true_eq] at hc; omega
   have hb1:=hj.lt (de x) (gF hxn)
   have hsr:=hS.row hb1
   refine eg 1 (x) rfl (iC hxn) (fun v0 hv0=>(cU (cK (eG (ts (ro rfl (cQ (cJ 0)) (eX (eG ?_))))))))
   refine aF (fun (y : Nat) => y ≤ (2 * js.length)) (fun (y : Nat) => (2 * js.length) - y) (fun (y : Nat) => [(2, aI B2 0), (6, bv (nG js)), (7, bv (ix js)), (9, Is (.slice (some ⟨B61, 0, none⟩) (2 * js.length) (2 * js.length))), (10, NT .i64 x), (11, NT .i64 y)]) (fun (y : Nat) => [box B2 38 [iv z, QM S], iR bL B61 35 131 5 (aH QT (eS (fun x => tab (2 * js.length) (fun y => ln x y - gm S (gq (aR js) (de x)) (gq (aR js) y))) (fun x => tab (2 * js.length) (fun y => ln x y)) (2 * js.length) x)) x v0, aB 131 5 v0 ((eS (fun y => ln x y - gm S (gq (aR js) (de x)) (gq (aR js) y)) (fun y => ln x y) (2 * js.length) y).map QT)]) 0 (Nat.zero_le _)
    (zS rfl) (aU (a8 rfl) (aU (fun _ _ _ h=>h) (aU (aa (by rw [← eo])) aY))) (fun y hy=>?_)
   refine cK (ts (rm rfl (rm rfl (ro rfl (dG U_72 (Ht rfl) (by rw [List.length_map,hPl])) ?_))))
   refine ro rfl (gX (Ht rfl) (Ht rfl)) (eX (dQ (Ht rfl) (fun hd2=>?_) (fun hd2=>?_)))
   ·have hyn : y < 2 * js.length := by simp only [decide_eq_true_eq] at hd2; omega
    have hb2:=hj.lt y hyn
    have hrl:=dL (fun y=>ln x y - gm S (gq (aR js) (de x)) (gq (aR js) y)) (fun y=>ln x y) (2 * js.length) y
    haveI g1:=qN x y
    haveI g2:ao (gm S (gq (aR js) (de x)) (gq (aR js) y)) L:=hf.get hL _ _
    refine cU (cK (eG (fZ (m:=27) (dp 9 rfl (cX (Ht rfl)) (dp 10 rfl (cX (Ht rfl)) (b8 74 0 75 1 rfl (fY U_36 Z_35 (Ht rfl) (Ht rfl) rfl zo (by rw [Nat.mul_one,Nat.zero_add])) ?_))))))
    refine dq 76 2 rfl (d4 A_35 Z_35 (Ht rfl) (j:=1) rfl) (dp 11 rfl (cX (Ht rfl)) (dp 9 rfl (cX (Ht rfl)) (dp 10 rfl (cX (Ht rfl)) (b8 79 5 80 6 rfl (fY U_36 Z_35 (Ht rfl) (Ht rfl) rfl zo (by rw [Nat.mul_one,Nat.zero_add])) ?_))))
    refine dq 81 7 rfl (d4 A_35 Z_35 (Ht rfl) (j:=1) rfl) (dp 11 rfl (cX (Ht rfl)) (b8 82 8 83 9 rfl (b6 U_35 Z_131 (Ht rfl) (Ht rfl) rfl (i:=2) rfl (by rw [List.length_map,hrl]; exact hyn) rfl) ?_))
    refine dq 84 10 rfl (gD A_131 Z_131 (Ht rfl) (i:=2) rfl rfl (dY (jp hyn))) (dp 2 rfl (eZ kX (Ht rfl) rfl) (dq 86 12 rfl (eY A_36 Z_36 (Ht rfl) (i:=0) rfl rfl) (dp 7 rfl (cX (Ht rfl)) (dp 10 rfl (cX (Ht rfl)) (b8 88 14 89 15 rfl (dZ U_72 Z_3 (Ht rfl) (Ht rfl) rfl (dY (show (ix js)[x]? = some (gq (aR js) (de x)) from aM hxn))) (dq 90 16 rfl (dJ A_3 Z_3 (Ht rfl)) (b8 87 13 91 17 rfl (dZ U_36 Z_35 (Ht rfl) (Ht rfl) rfl (dY (dU (d:=[]) zo))) ?_)))))))
    refine dq 92 18 rfl (dJ A_35 Z_35 (Ht rfl)) (dp 6 rfl (cX (Ht rfl)) (dp 11 rfl (cX (Ht rfl)) (b8 94 20 95 21 rfl (dZ U_72 Z_3 (Ht rfl) (Ht rfl) rfl (dY (show (nG js)[y]? = some (gq (aR js) y) from aM hyn))) (dq 96 22 rfl (dJ A_3 Z_3 (Ht rfl)) (b8 93 19 97 23 rfl (dZ U_35 Z_131 (Ht rfl) (Ht rfl) rfl (dY (dU (d:=Qi.zero) zo))) (dq 98 24 rfl (dJ A_131 Z_131 (Ht rfl)) (b8 85 11 99 25 rfl (cZ Tryz.call147 (tE (x:=ln x y) (y:=gm S (gq (aR js) (de x)) (gq (aR js) y)) (L:=1) (M:=L) zo) ⟨(Ht rfl),(Ht rfl),trivial⟩) ?_)))))))
    refine fV au rfl (by kernel_rfl) (zF (zF (zF (zF (zF (zF (aJ (aJ (aJ (aV (ro rfl (b6 U_35 Z_131 (Ht rfl) (Ht rfl) rfl (i:=2) rfl (by rw [List.length_map,hrl]; exact hyn) rfl) ?_)))))))))))
    refine dB Z_131 (Ht rfl) (Ht rfl) (El.ag rfl) (i:=2) rfl rfl (by rw [List.length_map,hrl]; exact hyn) rfl ?_
    refine eX (as (cY (rm rfl (ro rfl (dV (Ht rfl) (cJ 1) z6) (ra rfl (eX (aO [0,1,2] rfl (by decide) (fU (y + 1) hyn zo (zS rfl) (aU (a8 rfl) (aU (fun _ _ _ h=>h) (aU (aa (by rw [ce]; exact congrArg _ (fl (f:=(fun y=>ln x y - gm S (gq (aR js) (de x)) (gq (aR js) y)))))) aY)))))))))))
   ·have hyn : y = 2 * js.length := by simp only [decide_eq_false_iff_not] at hd2; omega
    rw [hyn,fm]
    refine gV rfl (as (bR 1 2 rfl rfl (by decide) (by simp only [aH,List.length_map,dL]; omega) ?_))
    refine cY (rm rfl (ro rfl (dV (Ht rfl) (cJ 1) z6) (ra rfl (eX (aO [0,1] rfl (by decide) (fU (x + 1) hxn zo (zS rfl) (aU (a8 rfl) (aU (aC (by rw [c9]; exact congrArg _ (fl (f:=(fun x=>tab (2 * js.length) (fun y=>ln x y - gm S (gq (aR js) (de x)) (gq (aR js) y))))))) aY))))))))
  ·have hxn : x = 2 * js.length := by simp only [decide_eq_false_iff_not] at hc; omega
   rw [hxn,fm,show tab (2 * js.length) (fun x=>tab (2 * js.length) (fun y=>ln x y - gm S (gq (aR js) (de x)) (gq (aR js) y))) = gk S (aR js) (2 * js.length) from rfl]
   refine gV rfl (gJ (i:=1) (tt:=9) rfl rfl (eD (s:=5) (M:=gk S (aR js) (2 * js.length)) hms.1.symm) (ts (ro rfl (cQ cV) (eX (cK (cK (aO [0] rfl (by decide) (iF 35 1 (cY (ro rfl (cQ (cJ 0)) (eX (eG ?_))))))))))))
   refine bA (fun (i : Nat) (vR : Value) => i ≤ z.length) (fun (i : Nat) (vR : Value) => z.length - i) (fun (i : Nat) (vR : Value) => [(2, aI B2 0), (6, bv (nG js)), (7, bv (ix js)), (9, QM (gk S (aR js) (2 * js.length))), (12, Is vR), (13, NT .i64 i)]) (fun (i : Nat) (vR : Value) => [box B2 38 [iv z, QM S], aB 35 1 vR (((gC (gO js) i).map (fun i => tab z.length fun k => lD S js i k)).map iv)]) 0 _ (Nat.zero_le _)
    (zS rfl) (aU (a8 rfl) (aU (aa rfl) aY)) (fun i vR hi=>?_)
   refine cK (ts (rm rfl (ro rfl (eZ f7 (Ht rfl) rfl) (ro rfl (eY A_35 Z_35 (Ht rfl) (i:=0) rfl rfl) (ro rfl (dG U_35 (Ht rfl) a7) (ro rfl (gX (Ht rfl) (Ht rfl)) (eX (dQ (Ht rfl) (fun hc=>?_) (fun hc=>?_)))))))))
   ·have hin : i < z.length := by simp only [decide_eq_true_eq] at hc; omega
    have hfl:=j4 (gO js) i
    have hsi:=hS.row hin
    refine cU (cK (eG (cK (ts (rm rfl (rm rfl (ro rfl (cZ Tryz.call200 (sg (l:=nG js) (x:=i) zo) ⟨(Ht rfl),(Ht rfl),trivial⟩) (ro rfl (eB (Ht rfl) cV) (eX (dQ (Ht rfl) (fun hx=>?_) (fun hx=>?_)))))))))))
    ·have hmem : i ∈ gO js := by rw [← uL]; exact rP.1 (by simpa using hx)
     have hnx:gC (gO js) (i + 1) = gC (gO js) i:=by rw [gC,if_pos hmem,List.append_nil]
     refine gV rfl (cY (rm rfl (ro rfl (dV (Ht rfl) (cJ 1) z6) (ra rfl (eX (fU (i + 1,vR) hin (by dsimp only; omega) (zS rfl) (aU (a8 rfl) (aU (aa (by rw [hnx])) aY))))))))
    ·have hmem : i ∉ gO js := fun h => by
      have h2:=rP.2 (show i ∈ nG js by rw [uL]; exact h)
      simp at hx; omega
     have hnx:gC (gO js) (i + 1) = gC (gO js) i ++ [i]:=by rw [gC,if_neg hmem]
     refine cU (ts (rn rfl (gc U_35 Z_131 O_131) fun B113=>(ra rfl (eX (cK (ts (ro rfl (cQ (cJ 0)) (eX (eG ?_)))))))))
     refine bA (fun (k : Nat) (vQ : Value) => k ≤ z.length) (fun (k : Nat) (vQ : Value) => z.length - k) (fun (k : Nat) (vQ : Value) => [(2, aI B2 0), (6, bv (nG js)), (7, bv (ix js)), (9, QM (gk S (aR js) (2 * js.length))), (12, Is vR), (13, NT .i64 i), (14, Is vQ), (15, NT .i64 k)]) (fun (k : Nat) (vQ : Value) => [box B2 38 [iv z, QM S], aB 35 1 vR (((gC (gO js) i).map (fun i => tab z.length fun k => lD S js i k)).map iv), aB 131 5 vQ ((tab k fun k => lD S js i k).map QT)]) 0 _ (Nat.zero_le _)
      (zS rfl) (aU (a8 rfl) (aU (fun _ _ _ h=>h) (aU (aa rfl) aY))) (fun k vQ hk2=>?_)
     refine cK (ts (rm rfl (ro rfl (eZ f7 (Ht rfl) rfl) (ro rfl (eY A_35 Z_35 (Ht rfl) (i:=0) rfl rfl) (ro rfl (dG U_35 (Ht rfl) a7) (ro rfl (gX (Ht rfl) (Ht rfl)) (eX (dQ (Ht rfl) (fun hd2=>?_) (fun hd2=>?_)))))))))
     ·have hkn : k < z.length := by simp only [decide_eq_true_eq] at hd2; omega
      have htl:=a9 k fun k=>lD S js i k
      refine cU (cK (eG (ts (ro rfl (cZ K_148 (iJ (n:=0) (by decide) (by decide)) ⟨(cJ 0),trivial⟩) (rn rfl (eW (Ts:=[Is (.bool false),Is (.slice none 0 0),Is (.bool false),Is (.slice none 0 0),Is (.slice none 0 0)]) O_131 rfl (fun V=>aW zd (aW zd (aW zd (aW zd (aW zd (aG))))))) fun B16=>(gQ Z_131 (Ht rfl) (Ht rfl) rfl (i:=3) rfl (aK rfl) rfl rfl (eX (cK (e9 (fun (q:Qi)=>q = mz i k) (fun (q:Qi)=>[(2,aI B2 0),(6,bv (nG js)),(7,bv (ix js)),(9,QM (gk S (aR js) (2 * js.length))),(12,Is vR),(13,NT .i64 i),(14,Is vQ),(15,NT .i64 k),(16,aI B16 0)]) (fun (q:Qi)=>[box B2 38 [iv z,QM S],aB 35 1 vR (((gC (gO js) i).map (fun i=>tab z.length fun k=>lD S js i k)).map iv),aB 131 5 vQ ((tab k fun k=>lD S js i k).map QT),box B16 131 [ab (decide (q.a < 0)),ai q.a.natAbs,ab (decide (q.b < 0)),ai q.b.natAbs,ai q.den]]) ?_ (fun q hq=>?_))))))))))
      ·refine ts (rm rfl (rm rfl (ro rfl (bc (Ht rfl) (Ht rfl)) (eX (dQ (Ht rfl) (fun hki => ?_) (fun hki => ?_))))))
       ·have hki2 : k = i := by simpa using hki
        refine cY (ro rfl (cZ K_148 (iJ (n:=1) (by decide) (by decide)) ⟨(cJ 1),trivial⟩) (gQ Z_131 (Ht rfl) (Ht rfl) rfl (i:=3) rfl (aK rfl) rfl rfl (eX (ax (Qi.ofInt 1) (by rw [mz,if_pos hki2]) (zS rfl) (aU (a8 rfl) (aU (fun _ _ _ h=>h) (aU (fun _ _ _ h=>h) (aU (a8 rfl) aY))))))))
       ·have hki2 : ¬ k = i := by simpa using hki
        refine cU (ax (Qi.ofInt 0) (by rw [mz,if_neg hki2]) (zS rfl) (aU (a8 rfl) (aU (fun _ _ _ h=>h) (aU (fun _ _ _ h=>h) (aU (a8 rfl) aY)))))
      ·subst hq
       refine cK (ts (rm rfl (rm rfl (ro rfl (cZ Tryz.call200 (sg (l:=ix js) (x:=k) zo) ⟨(Ht rfl),(Ht rfl),trivial⟩) (ra rfl (eX (e9 (fun (q:Qi)=>q = lD S js i k) (fun (q:Qi)=>[(2,aI B2 0),(6,bv (nG js)),(7,bv (ix js)),(9,QM (gk S (aR js) (2 * js.length))),(12,Is vR),(13,NT .i64 i),(14,Is vQ),(15,NT .i64 k),(16,aI B16 0)]) (fun (q:Qi)=>[box B2 38 [iv z,QM S],aB 35 1 vR (((gC (gO js) i).map (fun i=>tab z.length fun k=>lD S js i k)).map iv),aB 131 5 vQ ((tab k fun k=>lD S js i k).map QT),box B16 131 [ab (decide (q.a < 0)),ai q.a.natAbs,ab (decide (q.b < 0)),ai q.b.natAbs,ai q.den]]) ?_ (fun q hq2=>?_))))))))
       ·refine ts (rm rfl (ro rfl (eB (Ht rfl) cV) (eX (dQ (Ht rfl) (fun hix => ?_) (fun hix => ?_)))))
        ·have h0 : 0 ≤ mF (ix js) k := by simpa using hix
         obtain ⟨x,hx2⟩:∃ x:Nat,mF (ix js) k = (x:Int):=⟨(mF (ix js) k).toNat,by omega⟩
         have hxm : x < 2 * js.length := by
          rcases sq (ix js) k with q | ⟨_,q,_⟩
          ·omega
          ·omega
         have hgn:lD S js i k = (mz i k + ah (2 * js.length) fun y=>gm S i (gq (aR js) y) * gv (nJ S js x) y):=by rw [lD,if_pos h0,hx2]; rfl
         have hekl:(ek (2 * js.length) x).length = 2 * js.length:=by rw [show ek (2 * js.length) x = ga (2 * js.length) x by simp [ek,mL,List.getD,aM hxm]]; exact qh _ _
         have hsv : az Tryz.prog 201 [QM (gk S (aR js) (2 * js.length)), iv (ek (2 * js.length) x)] (cr [iv (nJ S js x), ap .i64 0]) := by
          have h:=tf (M:=gk S (aR js) (2 * js.length)) (b:=ek (2 * js.length) x) (n:=2 * js.length) (L:=L + 2) hms hekl hmf (yx zo) zo zo zo hg
          obtain ⟨q1,q2⟩:=DU (b:=ek (2 * js.length) x) hms
          rw [← q1,← q2 (hk _),hk] at h
          exact h
         have hvx:=hv x
         rw [hx2]
         refine ts (rm rfl (ro rfl (dG U_72 (Ht rfl) (by rw [List.length_map,hPl])) ?_))
         refine rn rfl (dE (T:=ZQ) (i:=Tryz.t131) jF go rfl rfl (Ht rfl) rfl y3 (El.ag rfl) (by show 88 * _ ≤ _; omega) zo) fun B133=>ra rfl (eX (cK (ts (ro rfl (cQ (cJ 0)) (eX (eG ?_))))))
         refine bA (fun (t : Nat) (out : List Ty) => fq (fun _ => QT Qi.zero) (2 * js.length) out t) (fun (t : Nat) (out : List Ty) => (2 * js.length) - t) (fun (t : Nat) (out : List Ty) => [(2, aI B2 0), (6, bv (nG js)), (7, bv (ix js)), (9, QM (gk S (aR js) (2 * js.length))), (12, Is vR), (13, NT .i64 i), (14, Is vQ), (15, NT .i64 k), (16, aI B16 0), (17, NT .i64 x), (18, Is B133), (19, NT .i64 t)]) (fun (t : Nat) (out : List Ty) => [box B2 38 [iv z, QM S], aB 35 1 vR (((gC (gO js) i).map (fun i => tab z.length fun k => lD S js i k)).map iv), aB 131 5 vQ ((tab k fun k => lD S js i k).map QT), box B16 131 [ab (decide ((mz i k).a < 0)), ai (mz i k).a.natAbs, ab (decide ((mz i k).b < 0)), ai (mz i k).b.natAbs, ai (mz i k).den], aB 131 5 B133 out]) 0 (List.replicate (2 * js.length) ZQ) (fq.start _ _ _)
          (zS rfl) (aU (a8 rfl) (aU (fun _ _ _ h=>h) (aU (fun _ _ _ h=>h) (aU (a8 rfl) (aU (fun _ _ _ h=>h) aY))))) (fun t out hT=>?_)
         refine cK (ts (rm rfl (rm rfl (ro rfl (dG U_72 (Ht rfl) (by rw [List.length_map,hPl])) ?_))))
         refine ro rfl (gX (Ht rfl) (Ht rfl)) (eX (dQ (Ht rfl) (fun ht=>?_) (fun ht=>?_)))
         ·have htm : t < 2 * js.length := by simp only [decide_eq_true_eq] at ht; omega
          have hlen2:=hT.len
          refine cU (cK (eG (cY (rm rfl (rm rfl (ro rfl (cZ K_148 (iJ (n:=0) (by decide) (by decide)) ⟨(cJ 0),trivial⟩) (ro rfl (b6 U_35 Z_131 (Ht rfl) (Ht rfl) rfl (i:=4) rfl zo rfl) (dB Z_131 (Ht rfl) (Ht rfl) (El.ag rfl) (i:=4) rfl rfl zo rfl (eX (as (cY (rm rfl (ro rfl (dV (Ht rfl) (cJ 1) z6) (ra rfl (eX (fU (t + 1,_) (hT.next htm rfl) (by dsimp only; omega) (zS rfl) (aU (a8 rfl) (aU (fun _ _ _ h=>h) (aU (fun _ _ _ h=>h) (aU (a8 rfl) (aU (fun _ _ _ h=>h) aY)))))))))))))))))))))
         ·obtain rfl : t = 2 * js.length := by have := hT.kle; simp only [decide_eq_false_iff_not] at ht; omega
          have hfin:=hT.fin
          subst hfin
          have htl2:=a9 (2 * js.length) fun _=>QT Qi.zero
          refine gV rfl (ts (rm rfl (rm rfl (ro rfl (cZ K_148 (iJ (n:=1) (by decide) (by decide)) ⟨(cJ 1),trivial⟩) (ro rfl (b6 U_35 Z_131 (Ht rfl) (Ht rfl) rfl (i:=4) rfl (by rw [htl2]; exact hxm) rfl) ?_)))))
          refine dB Z_131 (Ht rfl) (Ht rfl) (El.ag rfl) (i:=4) rfl rfl (by rw [htl2]; exact hxm) rfl ?_
          refine eX (cK (fk 4 rfl (aa (e:=131) (s:=5) (yD hxm)) (gJ (i:=4) (tt:=18) rfl rfl bB (cY (rm rfl (rm rfl (ro rfl (cZ Tryz.call201 hsv ⟨(Ht rfl),(Ht rfl),trivial⟩) (rm rfl (ro rfl (dK (Ht rfl) rfl) (ro rfl (dK (Ht rfl) rfl) (ra rfl (ra rfl (eX (cK (ts (rm rfl (ro rfl (eP (Ht rfl) cV) (eX (dP (Ht rfl) (by rfl) ?_)))))))))))))))))))
          refine cU (ts (ro rfl (cQ (cJ 0)) (eX (eG (aO [0,1,2,3] rfl (by decide) ?_)))))
          refine aF (fun (t : Nat) => t ≤ (2 * js.length)) (fun (t : Nat) => (2 * js.length) - t) (fun (t : Nat) => [(2, aI B2 0), (6, bv (nG js)), (7, bv (ix js)), (9, QM (gk S (aR js) (2 * js.length))), (12, Is vR), (13, NT .i64 i), (14, Is vQ), (15, NT .i64 k), (16, aI B16 0), (20, iv (nJ S js x)), (22, NT .i64 t)]) (fun (t : Nat) => [box B2 38 [iv z, QM S], aB 35 1 vR (((gC (gO js) i).map (fun i => tab z.length fun k => lD S js i k)).map iv), aB 131 5 vQ ((tab k fun k => lD S js i k).map QT), box B16 131 [ab (decide ((mz i k + ah t fun y => gm S i (gq (aR js) y) * gv (nJ S js x) y).a < 0)), ai (mz i k + ah t fun y => gm S i (gq (aR js) y) * gv (nJ S js x) y).a.natAbs, ab (decide ((mz i k + ah t fun y => gm S i (gq (aR js) y) * gv (nJ S js x) y).b < 0)), ai (mz i k + ah t fun y => gm S i (gq (aR js) y) * gv (nJ S js x) y).b.natAbs, ai (mz i k + ah t fun y => gm S i (gq (aR js) y) * gv (nJ S js x) y).den]]) 0 (Nat.zero_le _)
           (zS rfl) (aU (a8 rfl) (aU (fun _ _ _ h=>h) (aU (fun _ _ _ h=>h) (aU (a8 (by rw [ah,Qi.add_zero'])) aY)))) (fun t ht2=>?_)
          refine cK (ts (rm rfl (rm rfl (ro rfl (dG U_72 (Ht rfl) (by rw [List.length_map,hPl])) ?_))))
          refine ro rfl (gX (Ht rfl) (Ht rfl)) (eX (dQ (Ht rfl) (fun ht3=>?_) (fun ht3=>?_)))
          ·have htm : t < 2 * js.length := by simp only [decide_eq_true_eq] at ht3; omega
           have hb2:=hj.lt t htm
           have hvl:(nJ S js x).length = 2 * js.length:=ky _ _ _
           haveI g1:ao (gm S i (gq (aR js) t)) L:=hf.get hL _ _
           haveI g2:ao (gv (nJ S js x) t) G:=hvx.get hG t
           haveI g3:=vz i k
           haveI g4:=wh (i:=i) (t:=t) (js:=js) hf hL hvx hG zo
           haveI g5:ao (mz i k + ah t fun y=>gm S i (gq (aR js) y) * gv (nJ S js x) y) (1 + (8 * (L + G) + 17) + 1):=fitAdd
           refine cU (cK (eG (fZ (m:=17) (dp 16 rfl (eJ A_131 Z_131 (Ht rfl) (i:=3) rfl rfl rfl) (dp 2 rfl (eZ kX (Ht rfl) rfl) (dq 163 1 rfl (eY A_36 Z_36 (Ht rfl) (i:=0) rfl rfl) (dp 13 rfl (cX (Ht rfl)) (b8 164 2 165 3 rfl (dZ U_36 Z_35 (Ht rfl) (Ht rfl) rfl (dY (dU (d:=[]) zo))) (dq 166 4 rfl (dJ A_35 Z_35 (Ht rfl)) (dp 6 rfl (cX (Ht rfl)) (dp 22 rfl (cX (Ht rfl)) (b8 168 6 169 7 rfl (dZ U_72 Z_3 (Ht rfl) (Ht rfl) rfl (dY (show (nG js)[t]? = some (gq (aR js) t) from aM htm))) ?_))))))))))))
           refine dq 170 8 rfl (dJ A_3 Z_3 (Ht rfl)) (b8 167 5 171 9 rfl (dZ U_35 Z_131 (Ht rfl) (Ht rfl) rfl (dY (dU (d:=Qi.zero) zo))) (dq 172 10 rfl (dJ A_131 Z_131 (Ht rfl)) (dp 20 rfl (cX (Ht rfl)) (dp 22 rfl (cX (Ht rfl)) (b8 174 12 175 13 rfl (dZ U_35 Z_131 (Ht rfl) (Ht rfl) rfl (dY (dU (d:=Qi.zero) zo))) (dq 176 14 rfl (dJ A_131 Z_131 (Ht rfl)) (b8 173 11 177 15 rfl (cZ K_146 (mZ (x:=gm S i (gq (aR js) t)) (y:=gv (nJ S js x) t) (L:=L) (M:=G) zo) ⟨(Ht rfl),(Ht rfl),trivial⟩) ?_)))))))
           refine fV au rfl (by kernel_rfl) (zF (zF (zF (zF (aJ (aV (ro rfl (cZ Tryz.call149 (ug (x:=(mz i k + ah t fun y=>gm S i (gq (aR js) y) * gv (nJ S js x) y)) (y:=gm S i (gq (aR js) t) * gv (nJ S js x) t) (L:=1 + (8 * (L + G) + 17) + 1) (M:=L + G + 1) zo) ⟨(Ht rfl),(Ht rfl),trivial⟩) (gQ Z_131 (Ht rfl) (Ht rfl) rfl (i:=3) rfl (aK rfl) rfl rfl (eX (as (cY ?_)))))))))))
           refine rm rfl (ro rfl (dV (Ht rfl) (cJ 1) z6) (ra rfl (eX (aO [0,1,2,3] rfl (by decide) (fU (t + 1) htm zo (zS rfl) (aU (a8 rfl) (aU (fun _ _ _ h=>h) (aU (fun _ _ _ h=>h) (aU (a8 (by rw [Qi.add_assoc']; rfl)) aY)))))))))
          ·obtain rfl : t = 2 * js.length := by simp only [decide_eq_false_iff_not] at ht3; omega
           refine gV rfl (ax (mz i k + ah (2 * js.length) fun y=>gm S i (gq (aR js) y) * gv (nJ S js x) y) (by rw [hgn]) (zS rfl) (aU (a8 rfl) (aU (fun _ _ _ h=>h) (aU (fun _ _ _ h=>h) (aU (a8 rfl) aY)))))
        ·have h0 : ¬ 0 ≤ mF (ix js) k := by simpa using hix
         refine cU (ax (mz i k) (by rw [lD,if_neg h0]) (zS rfl) (aU (a8 rfl) (aU (fun _ _ _ h=>h) (aU (fun _ _ _ h=>h) (aU (a8 rfl) aY)))))
       ·subst hq2
        refine cY (rm rfl (ro rfl (eJ A_131 Z_131 (Ht rfl) (i:=3) rfl rfl rfl) (ro rfl (aN (xs:=[.tmp 181]) U_35 Z_131 O_131 (cW (Ht rfl) cG) rfl rfl rfl) (d5 (inf:=Tryz.t131) jF go rfl rfl rfl (Ht rfl) (Ht rfl) (i:=2) rfl (by simp) (fun T hT=>by simp at hT; subst hT; exact El.ag rfl) (by show _ * 88 ≤ _; simp only [List.length_map,List.length_append,List.length_cons,List.length_nil,a9]; omega) (by simp only [List.length_map,List.length_append,List.length_cons,List.length_nil,a9]; omega) rfl (fun v5=>?_)))))
        refine ra rfl (eX (as (cY (rm rfl (ro rfl (dV (Ht rfl) (cJ 1) z6) (ra rfl (eX (aO [0,1,2] rfl (by decide) (fU (k + 1,v5) hkn (by dsimp only; omega) (zS rfl) (aU (a8 rfl) (aU (fun _ _ _ h=>h) (aU (aa (by rw [ie,List.map_append]; rfl)) aY))))))))))))
     ·have hkz : k = z.length := by simp only [decide_eq_false_iff_not] at hd2; omega
      rw [hkz]
      refine gJ (i:=2) (tt:=14) rfl rfl bB (gV rfl (cY (rm rfl (rm rfl (ro rfl (aN (xs:=[.tmp 185]) U_36 Z_35 Tryz.zeroValue35 (cW (Ht rfl) cG) rfl rfl rfl) (d5 (inf:=Tryz.t35) zf nR rfl rfl rfl (Ht rfl) (Ht rfl) (i:=1) rfl (by simp) (fun T hT=>by simp at hT; subst hT; exact El.one) (by show _ * 24 ≤ _; simp only [List.length_map,List.length_append,List.length_cons,List.length_nil,a9]; omega) (by simp only [List.length_map,List.length_append,List.length_cons,List.length_nil,a9]; omega) rfl (fun v6=>?_)))))))
      refine ra rfl (eX (as (cY (rm rfl (ro rfl (dV (Ht rfl) (cJ 1) z6) (ra rfl (eX (aO [0,1] rfl (by decide) (fU (i + 1,v6) hin (by dsimp only; omega) (zS rfl) (aU (a8 rfl) (aU (aa (by rw [hnx,List.map_append,List.map_append]; rfl)) aY)))))))))))
   ·have hiz : i = z.length := by simp only [decide_eq_false_iff_not] at hc; omega
    rw [hiz]
    refine gV rfl (gJ (i:=1) (tt:=12) rfl rfl bB (ts (rm rfl (ra rfl (ro rfl (cQ cV) (eX (aE rfl (fX (eU rfl) ?_) (eU rfl))))))))
    exact (eR rfl)
end
section
open Go Go.RowKit
theorem yZ {z:List Qi} {S:List (List Qi)} {js:List (Int × Int)} {L:Nat} (hS:bE S z.length z.length) (hf:aL S L) (hfz:bk z L) (hL:1 ≤ L) (hLb:L ≤ 1000) (hz:z.length ≤ 9) (hj:js.length ≤ 100):az Tryz.prog 100 [ik z S,te js] (cr [ik (jY z S js) (lb z S js),ap .i64 (jV z S js)]):=by
 refine az.intro Tryz.func100 rfl Tryz.ntmps100 rfl (fun cx=>(ts (rn rfl (fG (Ht rfl)) fun B2=>(rn rfl (eW (Ts:=[Is (.slice none 0 0),Is (.slice none 0 0)]) O_38 rfl (fun V=>aW zd (aW zd (aG)))) fun B4=>(ro rfl (cQ (cJ 0)) (eX (ts (ro rfl (eJ A_38 Z_38 (Ht rfl) (i:=0) rfl rfl rfl) (rm rfl (ro rfl (cZ Tryz.call197 (wS (z:=z) (S:=S) (js:=js) (L:=L) hfz hL zo zo hj) ⟨(Ht rfl),(Ht rfl),trivial⟩) (rm rfl (ro rfl (dK (Ht rfl) rfl) ?_))))))))))))
 refine ro rfl (dK (Ht rfl) rfl) (ra rfl (ra rfl (eX (cK (ts (rm rfl (ro rfl (eP (Ht rfl) cV) (eX (dQ (Ht rfl) (fun hc=>?_) (fun hc=>?_))))))))))
 ·have h3 : k9 z js ≠ 0 := by simpa using hc
  have he:jV z S js = k9 z js:=(wc (by rw [rE h3]; exact h3)).trans (rE h3)
  refine ts (ro rfl (al.imp (kT ) jl) (rm rfl (gQ Z_38 (Ht rfl) (Ht rfl) rfl (i:=1) rfl (aK rfl) rfl rfl (ra rfl (eX (aE rfl (fX (fK A_38 Z_38 rfl (i:=1) rfl rfl) ?_) (fX (eU rfl) ?_)))))))
  ·exact (fun v V h=>by rw [jY,lb,bq,bq,he,if_neg h3,if_neg h3]; exact h)
  ·exact (am he.symm)
 ·have h3 : k9 z js = 0 := by simpa using hc
  refine cU (cK (ts (rm rfl (ro rfl (dG U_26 (Ht rfl) a7) (ro rfl (bc (Ht rfl) (cJ 0)) (eX (dQ (Ht rfl) (fun hc2=>?_) (fun hc2=>?_))))))))
  ·have h4 : js.length = 0 := by simpa using hc2
   have he:jV z S js = 0:=vJ (vE h3 zo) h4
   refine ts (ro rfl (eJ A_38 Z_38 (Ht rfl) (i:=0) rfl rfl rfl) (gQ Z_38 (Ht rfl) (Ht rfl) rfl (i:=1) rfl (aK rfl) rfl rfl (ro rfl (cQ (cJ 0)) (eX (aE rfl (fX (fK A_38 Z_38 rfl (i:=1) rfl rfl) ?_) (fX (eU rfl) ?_))))))
   ·exact (fun v V h=>by rw [jY,lb,bq,bq,he,if_pos h4,if_pos h4]; exact h)
   ·exact (am he.symm)
  ·have h4 : js.length ≠ 0 := by simpa using hc2
   refine cU (cK (ts (rm rfl (ro rfl (dG U_26 (Ht rfl) a7) (ro rfl (f6 (cJ 2) (Ht rfl) z6) (ro rfl (eZ f7 (Ht rfl) rfl) (ro rfl (eY A_35 Z_35 (Ht rfl) (i:=0) rfl rfl) (ro rfl (dG U_35 (Ht rfl) a7) (ro rfl (bc (Ht rfl) (Ht rfl)) (eX (dQ (Ht rfl) (fun hc3=>?_) (fun hc3=>?_))))))))))))
   ·have h5 : 2 * js.length = z.length := by simpa using hc3
    have h6:nw z js = 4:=uY h3 zo
    have he:jV z S js = 4:=(wc (by rw [h6]; decide)).trans h6
    refine ts (ro rfl (al.imp (kT ) jl) (gQ Z_38 (Ht rfl) (Ht rfl) rfl (i:=1) rfl (aK rfl) rfl rfl (ro rfl (cQ (cJ 4)) (eX (aE rfl (fX (fK A_38 Z_38 rfl (i:=1) rfl rfl) ?_) (fX (eU rfl) ?_))))))
    ·exact (fun v V h=>by rw [jY,lb,bq,bq,he]; exact h)
    ·exact (am he.symm)
   ·have h5 : 2 * js.length ≠ z.length := by simpa using hc3
    obtain ⟨q1,q2,q3⟩:=DZ (S:=S) h3 h4 h5
    have hjn:=lw h3
    have hjl:=oC h3
    have h1:1 ≤ z.length:=by omega
    have hcc := x8 (z := z) (S := S) (n := z.length) (L := L) (ps := aR js) hS rfl hf hL hLb h1 hz (fun j hj => by
     rw [lT] at hj
     have a1:=hjn.lt (2 * j) zo
     have a2:=hjn.lt (2 * j + 1) zo
     rw [jJ] at a1
     rw [lE] at a2
     exact ⟨a1,a2⟩) (by rw [lT]; omega)
    rw [q1,q2,q3] at hcc
    have hok:bq (k9 z js) (aR js) = aR js:=by rw [bq,if_pos h3]
    rw [hok]
    refine cU (ts (ro rfl (eJ A_38 Z_38 (Ht rfl) (i:=0) rfl rfl rfl) (rm rfl (ro rfl (cZ Tryz.call198 hcc ⟨(Ht rfl),(Ht rfl),trivial⟩) (rm rfl (ro rfl (dK (Ht rfl) rfl) (ro rfl (dK (Ht rfl) rfl) (rn rfl (eW (Ts:=[Is (.slice none 0 0),Is (.slice none 0 0)]) O_38 rfl (fun V=>aW zd (aW zd (aG)))) fun B8=>(gQ Z_38 (Ht rfl) (Ht rfl) rfl (i:=2) rfl (aK rfl) rfl rfl (ra rfl (eX (cK (ts (rm rfl (ro rfl (co (Ht rfl)) (eX ?_))))))))))))))))
    refine dQ (Ht rfl) (fun hc4=>?_) (fun hc4=>?_)
    ·have h6 : jV z S js ≠ 0 := by simpa using hc4
     have he : jV z S js = 6 := by
      have:=oz (S:=S) (vE h3 zo) h4
      rw [this] at h6 ⊢
      split at h6
      ·exact absurd rfl h6
      ·rename_i hh; rw [if_neg hh]
     refine ts (ro rfl (al.imp (kT ) jl) (gQ Z_38 (Ht rfl) (Ht rfl) rfl (i:=1) rfl (aK rfl) rfl rfl (ro rfl (cQ (cJ 6)) (eX (aE rfl (fX (fK A_38 Z_38 rfl (i:=1) rfl rfl) ?_) (fX (eU rfl) ?_))))))
     ·exact (fun v V h=>by rw [jY,lb,bq,bq,he]; exact h)
     ·exact (am he.symm)
    ·have he : jV z S js = 0 := by simpa using hc4
     refine cU (ts (ro rfl (eJ A_38 Z_38 (Ht rfl) (i:=2) rfl rfl rfl) (gQ Z_38 (Ht rfl) (Ht rfl) rfl (i:=1) rfl (aK rfl) rfl rfl (ro rfl (cQ (cJ 0)) (eX (aE rfl (fK A_38 Z_38 rfl (i:=1) rfl rfl) (fX (eU rfl) ?_)))))))
     exact (am he.symm)
theorem yL {z:List Qi} {s c:List (List Qi)} {js:List (Int × Int)} (hz:bk z 2) (hs:aL s 2) (hcf:aL c 60000) (hsh:bE s z.length z.length) (hch:bE c z.length z.length) (hl:z.length ≤ 8) (hjl:js.length ≤ 100):az Tryz.prog 19 [gT z s c,te js] (cr [gT (jY z s js) (lb z s js) (wr z s c js),ap .i64 (jV z s js)]):=by
 refine az.intro Tryz.func19 rfl Tryz.ntmps19 rfl (fun cx=>(ts (rn rfl (fG (Ht rfl)) fun B2=>(rn rfl (eW (Ts:=[Is (.slice none 0 0),Is (.slice none 0 0),Is (.slice none 0 0)]) O_40 rfl (fun V=>aW zd (aW zd (aW zd (aG))))) fun B4=>(ro rfl (cQ (cJ 0)) (eX (ts (ro rfl (eZ kM (Ht rfl) rfl) (ro rfl (eJ A_38 Z_38 (Ht rfl) (i:=0) rfl rfl rfl) (rm rfl (ro rfl (cZ Tryz.call100 (yZ (z:=z) (S:=s) (js:=js) (L:=2) hsh hs hz (by decide) (by decide) zo hjl) ⟨(Ht rfl),(Ht rfl),trivial⟩) ?_)))))))))))
 refine rm rfl (ro rfl (dK (Ht rfl) rfl) (ro rfl (dK (Ht rfl) rfl) (rn rfl (eW (Ts:=[Is (.slice none 0 0),Is (.slice none 0 0)]) O_38 rfl (fun V=>aW zd (aW zd (aG)))) fun B6=>(gQ Z_38 (Ht rfl) (Ht rfl) rfl (i:=2) rfl (aK rfl) rfl rfl (ra rfl (eX (cK (ts (rm rfl (ro rfl (eP (Ht rfl) cV) (eX (dQ (Ht rfl) (fun hb=>?_) (fun hb=>?_)))))))))))))
 ·have he : jV z s js ≠ 0 := by simpa using hb
  refine ts (ro rfl (al.imp (qU ) lH) (rm rfl (gQ Z_40 (Ht rfl) (Ht rfl) rfl (i:=1) rfl (aK rfl) rfl rfl (ra rfl (eX (aE rfl (fX (fK A_40 Z_40 rfl (i:=1) rfl rfl) ?_) (eU rfl)))))))
  exact (fun v V h=>by rw [jY,lb,wr,bq,bq,bq,if_neg he,if_neg he,if_neg he]; exact h)
 ·have he : jV z s js = 0 := by simpa using hb
  obtain ⟨hd,hj6,hk,hne⟩:=oV he hl
  have hPf:aL (oF s js z.length) 60000:=(rH (L:=2) (G:=7082) hs (by decide) (fun x=>nO hs hj6 hk x) (by decide) zo).le (by decide)
  have hPs:=rk s js z.length
  have hPl:(oF s js z.length).length ≤ 8:=by rw [hPs.1]; exact Nat.le_trans (j4 _ _) hl
  have hcl:=hch.1
  have hgain:=AT (z:=z) (S:=s) (js:=js) (L:=2) (G:=7082) hsh hs (by decide) (by decide) zo hd zo hk (fun x=>nO hs hj6 hk x) (by decide) (by decide) (Nat.le_trans (Nat.add_le_add_right (Nat.mul_le_mul_left 6 (fv _ (show 2 * js.length ≤ 6 by omega))) 4) (by decide))
  have hcar:az Tryz.prog 102 [QM (oF s js z.length),QM c] (QM (g7 (oF s js z.length) c)):=DE (p:=oF s js z.length) (c:=c) (L:=60000) hPf hcf (by decide) (by decide) (by rw [hcl]; rw [← hPs.1] at hPs; exact hPs) (by rw [hcl]; exact hch) hPl zo
  refine cU (ts (ro rfl (eZ kM (Ht rfl) rfl) (ro rfl (eJ A_38 Z_38 (Ht rfl) (i:=0) rfl rfl rfl) (rm rfl (ro rfl (cZ Tryz.call101 hgain ⟨(Ht rfl),(Ht rfl),trivial⟩) (rm rfl (ro rfl (dK (Ht rfl) rfl) (ro rfl (dK (Ht rfl) rfl) (ra rfl (ra rfl (eX (cK (ts (rm rfl (ro rfl (co (Ht rfl)) (eX (dP (Ht rfl) (by rfl) ?_)))))))))))))))))
  refine cU (cK (fZ (m:=5) (dp 6 rfl (eJ A_38 Z_38 (Ht rfl) (i:=2) rfl rfl rfl) (dp 8 rfl (cX (Ht rfl)) (dp 2 rfl (eZ mE (Ht rfl) rfl) (dq 33 2 rfl (eY A_36 Z_36 (Ht rfl) (i:=0) rfl rfl) (b8 32 1 34 3 rfl (cZ Tryz.call102 hcar ⟨(Ht rfl),(Ht rfl),trivial⟩) (fV au rfl (by kernel_rfl) (zF (aJ (aV (ro rfl (p5 (Ht rfl) (Ht rfl)) (gQ Z_40 (Ht rfl) (Ht rfl) rfl (i:=1) rfl (aK rfl) rfl rfl (ro rfl (cQ (cJ 0)) ?_))))))))))))))
  refine eX (aE rfl (fX (fK A_40 Z_40 rfl (i:=1) rfl rfl) ?_) (fX (eU rfl) ?_))
  ·exact (fun v V h=>by rw [wr,bq,if_pos he]; exact h)
  ·exact (am he.symm)
section
variable {z:List Qi} {s c:List (List Qi)} {js:List (Int × Int)}
theorem CC (hch:bE c z.length z.length):bE (wr z s c js) (jY z s js).length (jY z s js).length:=by
 by_cases h:jV z s js = 0
 ·have hp := rk s js z.length
  rw [wr,jY,bq,bq,if_pos h,if_pos h]
  have h2:=jt (p:=oF s js z.length) (c:=c)
  rw [hp.1] at h2
  by_cases h0:js.length = 0
  ·rw [if_pos h0]
   obtain rfl:js = []:=List.length_eq_zero_iff.1 h0
   rw [uR hch]; exact hch
  ·rw [if_neg h0,Ce,show (nK z (bN z js)).length = (bN z js).length from a9 _ _]; exact h2
 ·rw [wr,jY,bq,bq,if_neg h,if_neg h]; exact ⟨rfl,fun r hr=>by cases hr⟩
theorem BQ (hs:aL s 2) (hcf:aL c 60000) (hl:z.length ≤ 8) (hch:bE c z.length z.length):aL (wr z s c js) 900000000000:=by
 by_cases h:jV z s js = 0
 ·obtain ⟨hd, hj6, hk, hne⟩ := oV h hl
  have hPf:aL (oF s js z.length) 60000:=(rH (L:=2) (G:=7082) hs (by decide) (fun x=>nO hs hj6 hk x) (by decide) zo).le (by decide)
  exact mD ((mH hPf hcf (by decide) (by rw [hch.1]; exact hl)).le (by decide))
 ·rw [wr,bq,if_neg h]; exact aL.nil
theorem BI (hs : aL s 2) (hl : z.length ≤ 8) : aL (lb z s js) 900000000000 := By (L := 2) (G := 400000000) hs (by decide) (fun h => by
  obtain ⟨q1,q2⟩:=lV h
  have:=oC q1
  exact Nat.le_trans (Nat.le_trans (nb (fv _ (show 2 * js.length ≤ 6 by omega)) _) (mi _ (show 2 * js.length ≤ 6 by omega))) (by decide)) (fun m hm h=>by
  obtain ⟨q1,q2⟩:=lV h
  have:=oC q1
  have:m * (2 * 400000000 + 2) ≤ 6 * (2 * 400000000 + 2):=Nat.mul_le_mul_right _ zo
  omega)
end
theorem qY {z:List Rt} {s c:List (List Rt)} {js:List (Int × Int)}:az Tryz.prog 3 [xO z s c,te js] (ab true):=by
 refine az.intro Tryz.func3 rfl Tryz.ntmps3 rfl (fun cx=>(ts (rn rfl (fG (Ht rfl)) fun B2=>(ro rfl (cQ cV) (eX (cK (ts (ro rfl (eJ Tryz.isAgg25 Tryz.sizeOf25 (Ht rfl) (i:=0) rfl rfl rfl) (ro rfl (cZ Tryz.call15 FG ⟨(Ht rfl),trivial⟩) (ro rfl (co (Ht rfl)) (rm rfl (fQ rfl rfl (eK rfl rfl (Ht rfl) (fun h=>cX (Ht rfl))) (fQ rfl rfl (eK rfl rfl (Ht rfl) (fun h=>dG U_26 (fJ rfl h) a7)) (fQ rfl rfl (eK rfl rfl (Ht rfl) (fun h=>bD (fJ rfl h) (cJ 10))) (ro rfl (dr (Ht rfl) (fun h=>(fJ rfl h))) ?_)))))))))))))))
 refine eX (dQ (Ht rfl) (fun hb=>?_) (fun hb=>?_))
 ·refine ts (ro rfl (cZ Tryz.call16 v7 trivial) (ra rfl (eX ?_)))
  exact fW rfl (eU rfl)
 ·have hf : nt z s c = true := by
   apply Decidable.byContradiction; intro h
   simp [h] at hb
  have hjl : js.length ≤ 10 := by
   apply Decidable.byContradiction; intro h
   simp [hf] at hb; omega
  obtain ⟨m1,m2,m3⟩:=zO (z:=z) (s:=s) (c:=c)
  obtain ⟨m4,m5,m6⟩:=Eg (z:=z) (s:=s) (c:=c)
  have n4:bk (jY (pJ z s c) (sZ z s c) js) 900000000000:=AY m4 (by decide) (by decide)
  have n5:aL (lb (pJ z s c) (sZ z s c) js) 900000000000:=BI m5 m3
  have n6:aL (wr (pJ z s c) (sZ z s c) (xc z s c) js) 900000000000:=BQ m5 (m6.le (by decide)) m3 m2
  obtain ⟨n1,n3⟩:=E8 (js:=js) m1
  have n2:bE (wr (pJ z s c) (sZ z s c) (xc z s c) js) (jY (pJ z s c) (sZ z s c) js).length (jY (pJ z s c) (sZ z s c) js).length:=CC m2
  refine cU (ts (ro rfl (eJ Tryz.isAgg25 Tryz.sizeOf25 (Ht rfl) (i:=0) rfl rfl rfl) (ro rfl (cZ Tryz.call17 (Eu (by assumption)) ⟨(Ht rfl),trivial⟩) ?_)))
  refine rm rfl (ro rfl (dK (Ht rfl) rfl) (ro rfl (dK (Ht rfl) rfl) (ro rfl (dK (Ht rfl) rfl) (rn rfl (eW (Ts:=[Is (.slice none 0 0),Is (.slice none 0 0),Is (.slice none 0 0)]) O_34 rfl (fun V=>aW zd (aW zd (aW zd (aG))))) fun B5=>(rn rfl (eW (Ts:=[Is (.slice none 0 0),Is (.slice none 0 0),Is (.slice none 0 0)]) O_40 rfl (fun V=>aW zd (aW zd (aW zd (aG))))) fun B6=>(gQ Z_34 (Ht rfl) (Ht rfl) rfl (i:=1) rfl (aK rfl) rfl rfl ?_))))))
  refine gQ Z_40 (Ht rfl) (Ht rfl) rfl (i:=2) rfl (aK rfl) rfl rfl (ra rfl (eX (ts (ro rfl (eJ A_34 Z_34 (Ht rfl) (i:=1) rfl rfl rfl) (rm rfl (ro rfl (cZ Tryz.call18 (Bk (z:=pJ z s c) (s:=sZ z s c) (c:=xc z s c) (js:=js) m4 m5 (m6.le (by decide)) m1 m2 m3 zo) ⟨(Ht rfl),(Ht rfl),trivial⟩) (rm rfl (ro rfl (dK (Ht rfl) rfl) (ro rfl (dK (Ht rfl) rfl) (rn rfl (eW (Ts:=[Is (.slice none 0 0),Is (.slice none 0 0),Is (.slice none 0 0)]) O_34 rfl (fun V=>aW zd (aW zd (aW zd (aG))))) fun B8=>?_))))))))))
  refine gQ Z_34 (Ht rfl) (Ht rfl) rfl (i:=3) rfl (aK rfl) rfl rfl (ra rfl (eX (ts (ro rfl (eJ A_40 Z_40 (Ht rfl) (i:=2) rfl rfl rfl) (rm rfl (ro rfl (cZ Tryz.call19 (yL (z:=pJ z s c) (s:=sZ z s c) (c:=xc z s c) (js:=js) m4 m5 (m6.le (by decide)) m1 m2 m3 zo) ⟨(Ht rfl),(Ht rfl),trivial⟩) (rm rfl (ro rfl (dK (Ht rfl) rfl) (ro rfl (dK (Ht rfl) rfl) (rn rfl (eW (Ts:=[Is (.slice none 0 0),Is (.slice none 0 0),Is (.slice none 0 0)]) O_40 rfl (fun V=>aW zd (aW zd (aW zd (aG))))) fun B10=>?_))))))))))
  refine gQ Z_40 (Ht rfl) (Ht rfl) rfl (i:=4) rfl (aK rfl) rfl rfl (ra rfl (eX (cK (aO [0,1,2,3,4] rfl (by decide) (cY (rm rfl (rm rfl (fQ rfl rfl (eK rfl rfl (Ht rfl) (fun h=>cX (Ht rfl))) (fQ rfl rfl (eK rfl rfl (Ht rfl) (fun h=>cX (Ht rfl))) (fQ rfl rfl (eK rfl rfl (Ht rfl) (fun h=>dR (fJ rfl h) (fJ rfl h))) (ro rfl (c7 (Ht rfl) (fun h=>(fJ rfl h))) (rm rfl (fQ rfl rfl (eK rfl rfl (Ht rfl) (fun h=>eJ A_34 Z_34 (Ht rfl) (i:=3) rfl rfl rfl)) ?_)))))))))))))
  refine fQ rfl rfl (eK rfl rfl (Ht rfl) (fun h=>eJ A_40 Z_40 (Ht rfl) (i:=4) rfl rfl rfl)) (fQ rfl rfl (eK rfl rfl (Ht rfl) (fun h=>cZ Tryz.call20 (FC n4 n5 n6 (by decide) (by decide) n1 n2 zo) ⟨(fJ rfl h),(fJ rfl h),trivial⟩)) (ro rfl (c7 (Ht rfl) (fun h=>(fJ rfl h))) (rm rfl (fQ rfl rfl (eK rfl rfl (Ht rfl) (fun h=>cZ Tryz.call16 v7 trivial)) (ro rfl (c7 (Ht rfl) (fun h=>(fJ rfl h))) (ra rfl (eX (fW rfl (fX (eU rfl) ?_)))))))))
  exact (bF (by simp))
end
section
open Go Go.ChangeShapes Go.WideShapes Go.ChangeAt Go.RowKit Go.Deep
section
variable {H:Type} {enc:TypeId × Value → H} {W:World} {base:Nat} {sp:Nat → Bool} {held:Bool}
theorem C8 {n:Nat} {cs:List Value} {y:DataW H × List MemPlace} (h:DataW.trod enc Tryz.prog W base sp held n 71 cs = some y):∃ (q:Int × Int) (x:Value),x.cells.toList = cs ∧ (JT q).p x (hv W):=by
 obtain ⟨xs,m,_,_,hl,hx,he⟩:=DataW.trod_array Tryz.underlying71 h
 have hc:Tryz.prog.cellsOf 71 = 2:=by kernel_rfl
 have hi:Tryz.prog.cellsOf 3 = 1:=by kernel_rfl
 rw [hc] at hl
 match cs,hl with
 | [c0, c1], _ =>
  match xs,hx with
  | [y0, y1], _ =>
   have e0:=he 0 zo
   have e1:=he 1 zo
   rw [hi] at e0 e1
   obtain ⟨i0,q0,_,_⟩:=DataW.trod_int Tryz.underlying3 (show DataW.trod enc Tryz.prog W base sp held m 3 [c0] = some y0 from e0)
   obtain ⟨i1,q1,_,_⟩:=DataW.trod_int Tryz.underlying3 (show DataW.trod enc Tryz.prog W base sp held m 3 [c1] = some y1 from e1)
   simp only [List.cons.injEq,and_true] at q0 q1
   subst q0 q1
   exact ⟨(i0,i1),.agg #[.int .i64 i0,.int .i64 i1],rfl,[.int .i64 i0,.int .i64 i1],rfl,aW zd (aW zd aG)⟩
theorem yu {n : Nat} {cs : List Value} {y : DataW H × List MemPlace} (h : DataW.trod enc Tryz.prog W base sp held n 26 cs = some y) : ∃ (v : Value) (l : List (Int × Int)), cs = [v] ∧ (te l).p v (hv W) :=
 rF (F:=JT) Tryz.underlying26 (by kernel_rfl) (by decide) (fun n cs y h=>C8 h) h
theorem xw {b0:Nat} {v:Value} {d:DataW H} {p:List MemPlace} (ho:Value.okWide Tryz.prog W .any b0 26 v) (h:DataW.Trod enc Tryz.prog W base sp held 26 v d p):∃ l:List (Int × Int),(te l).p v (hv W):=by
 obtain ⟨a,n,k,rfl⟩:=okWide_slice Tryz.underlying26 ho
 obtain ⟨m,hm⟩:=h
 obtain ⟨v,l,e,hl⟩:=yu hm
 have:[Value.slice a n k] = [v]:=e
 simp only [List.cons.injEq,and_true] at this
 subst this
 exact ⟨l,hl⟩
end
end
end Go.Proofs.YteohomnhncjcnaaGreat
