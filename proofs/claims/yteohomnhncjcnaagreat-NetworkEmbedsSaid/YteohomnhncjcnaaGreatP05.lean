/- What functions of the program compute, proved by walks over their code, and the plain mathematics of it; a part of the proof in the last text. -/
import Derived.Test.YteohomnhncjcnaaGreatP04
set_option linter.unusedVariables false
set_option linter.unusedSimpArgs false
set_option maxRecDepth 100000
set_option maxHeartbeats 4000000
namespace Go.Proofs.YteohomnhncjcnaaGreat
section
open Go Go.RowKit
abbrev nb (x:Qi):List Ty:=[a9 (decide (x.a < 0)),ah x.a.natAbs,a9 (decide (x.b < 0)),ah x.b.natAbs,ah (du x)]
abbrev xU:List Ty:=[Is (.bool false),Is (.slice none 0 0),Is (.bool false),Is (.slice none 0 0),Is (.slice none 0 0)]
def zx (f : List (List Qi)) : Nat → List Ty
 | 0=>xU ++ xU ++ (xU ++ xU)
 | 1=>nb (gm f 0 0) ++ nb (gm f 0 1) ++ (xU ++ xU)
 | _=>nb (gm f 0 0) ++ nb (gm f 0 1) ++ (nb (gm f 1 0) ++ nb (gm f 1 1))
theorem zP (f : List (List Qi)) : ∀ i, (zx f i).length = 20
 | 0=>rfl
 | 1=>rfl
 | _ + 2=>rfl
theorem vi (f : List (List Qi)) : ∀ {i : Nat}, i < 2 → (zx f i).take (0 + i * 10) ++ (nb (gm f i 0) ++ nb (gm f i 1)) ++ (zx f i).drop (0 + i * 10 + 10) = zx f (i + 1)
 | 0,_=>rfl
 | 1,_=>rfl
theorem DZ {f:List (List Qi)} (h:bM f 2 2) {i:Nat} (hi:i < 2):(f.getD i []).map ab = [ab (gm f i 0),ab (gm f i 1)]:=by
 have hl:=h.row hi
 show (f.getD i []).map ab = [ab (gv (f.getD i []) 0),ab (gv (f.getD i []) 1)]
 generalize f.getD i [] = l at hl
 match l,hl with
 | [a,b],_=>rfl
theorem CH {z fz:List Qi} {port:Int} {x:Nat} (h:fz.length ≠ 2):iW z fz port x = 4:=if_pos h
theorem E3 {z fz:List Qi} {port:Int} {x:Nat} (h:fz.length = 2) (h2:¬ (1 ≤ port ∧ port ≤ (z.length:Int))):iW z fz port x = 1:=by rw [iW,if_neg (fun k=>k h),if_pos h2]
theorem DW {z fz:List Qi} {port:Int} {x:Nat} (h:fz.length = 2) (h2:1 ≤ port ∧ port ≤ (z.length:Int)):iW z fz port x = if gv fz (x - 1) = gv z (port - 1).toNat then 0 else 40:=by rw [iW,if_neg (fun k=>k h),if_neg (fun k=>k h2)]
theorem rO {fz:List Qi} {f:List (List Qi)} (h2:fz.length = 2) (hf:bM f 2 2):aw Tryz.prog 202 [aM fz f] (bo [bB (zx f 2),aa .i64 0]):=by
 have hfl:=hf.1
 refine aw.intro Tryz.func202 rfl Tryz.ntmps202 rfl (fun cx=>(ts (rn rfl (fU (Ht rfl)) fun B1=>(rn rfl (eG (Ts:=[Is (.bool false),Is (.slice none 0 0),Is (.bool false),Is (.slice none 0 0),Is (.slice none 0 0),Is (.bool false),Is (.slice none 0 0),Is (.bool false),Is (.slice none 0 0),Is (.slice none 0 0),Is (.bool false),Is (.slice none 0 0),Is (.bool false),Is (.slice none 0 0),Is (.slice none 0 0),Is (.bool false),Is (.slice none 0 0),Is (.bool false),Is (.slice none 0 0),Is (.slice none 0 0)]) O_163 rfl (fun V=>aW zd (aW zd (aW zd (aW zd (aW zd (aW zd (aW zd (aW zd (aW zd (aW zd (aW zd (aW zd (aW zd (aW zd (aW zd (aW zd (aW zd (aW zd (aW zd (aW zd (aG)))))))))))))))))))))) fun B2=>?_))))
 refine ro rfl (cQ (cJ 0)) (eZ (ts (rn rfl (eG (Ts:=[Is (.bool false),Is (.slice none 0 0),Is (.bool false),Is (.slice none 0 0),Is (.slice none 0 0),Is (.bool false),Is (.slice none 0 0),Is (.bool false),Is (.slice none 0 0),Is (.slice none 0 0),Is (.bool false),Is (.slice none 0 0),Is (.bool false),Is (.slice none 0 0),Is (.slice none 0 0),Is (.bool false),Is (.slice none 0 0),Is (.bool false),Is (.slice none 0 0),Is (.slice none 0 0)]) O_163 rfl (fun V=>aW zd (aW zd (aW zd (aW zd (aW zd (aW zd (aW zd (aW zd (aW zd (aW zd (aW zd (aW zd (aW zd (aW zd (aW zd (aW zd (aW zd (aW zd (aW zd (aW zd (aG)))))))))))))))))))))) fun B4=>?_)))
 refine eZ (cK (ts (ro rfl (eJ bH (Ht rfl) rfl) (ro rfl (fQ A_29 Z_29 (Ht rfl) (i:=0) rfl rfl) (ro rfl (dK U_29 (Ht rfl) a7) (ro rfl (db (Ht rfl) (cJ 2)) (eZ (cb (Ht rfl) (by simp [h2]) ?_))))))))
 refine cU (cK (ts (ro rfl (cX (cJ 0)) (eZ (eK ?_)))))
 refine b8 (fun (i : Nat) => i ≤ 2) (fun (i : Nat) => 2 - i) (fun (i : Nat) => [(1, aH B1 0), (2, aH B2 0), (4, aH B4 0), (11, NT .i64 i)]) (fun (i : Nat) => [box B1 32 [av fz, bp f], box B2 163 (xU ++ xU ++ (xU ++ xU)), box B4 163 (zx f i)]) 0 (Nat.zero_le _)
  (zS rfl) (aU (a8 rfl) (aU (a8 rfl) (aU (a8 rfl) aY))) (fun i hi=>?_)
 refine ts (ro rfl (gV (Ht rfl) (cJ 2)) (eZ (cK (dQ (Ht rfl) (fun hd=>?_) (fun hd=>?_)))))
 ·have hi2 : i < 2 := by simp only [decide_eq_true_eq] at hd; omega
  have hxl:=zP f i
  refine cU (cK (eK (ts (rm rfl (ra rfl (eZ (cY (rm rfl (ro rfl (eJ bn (Ht rfl) rfl) (ro rfl (fQ A_30 Z_30 (Ht rfl) (i:=0) rfl rfl) (rm rfl (ro rfl (dZ U_30 Z_29 (Ht rfl) (Ht rfl) rfl (eQ (dY (d:=[]) zo))) (ro rfl (dV A_29 Z_29 (Ht rfl)) (ro rfl (za U_162 (ax.to (Ht rfl) (ee (DZ hf hi2))) rfl) (ro rfl (dV Tryz.isAgg162 Z_162 (Ht rfl)) (ro rfl (cE U_163 Z_162 (Ht rfl) (Ht rfl) rfl zo rfl) ?_))))))))))))))))
  refine gJ Z_162 (Ht rfl) (Ht rfl) rfl (i:=2) rfl (by rw [hxl]; omega) rfl rfl ?_
  refine eZ (aB (cY (ro rfl (dW (Ht rfl) (cJ 1) z6) (rm rfl (eZ (gQ (i + 1) hi2 zo (zS rfl) (aU (a8 rfl) (aU (a8 rfl) (aU (a8 (vi f hi2)) aY)))))))))
 ·obtain rfl : i = 2 := by simp only [decide_eq_false_iff_not] at hd; omega
  refine gK rfl (ts (ro rfl (eW A_163 Z_163 (Ht rfl) (i:=2) rfl rfl rfl) (gJ Z_163 (Ht rfl) (Ht rfl) rfl (i:=1) rfl (aK rfl) rfl rfl (ro rfl (cQ (cJ 0)) (eZ ?_)))))
  exact aC rfl (fY A_163 Z_163 rfl (i:=1) rfl rfl) (eY rfl)
theorem rW {fz:List Qi} {f:List (List Qi)} (h2:fz.length ≠ 2):aw Tryz.prog 202 [aM fz f] (bo [bB (zx [] 0),aa .i64 4]):=by
 refine aw.intro Tryz.func202 rfl Tryz.ntmps202 rfl (fun cx=>(ts (rn rfl (fU (Ht rfl)) fun B1=>(rn rfl (eG (Ts:=[Is (.bool false),Is (.slice none 0 0),Is (.bool false),Is (.slice none 0 0),Is (.slice none 0 0),Is (.bool false),Is (.slice none 0 0),Is (.bool false),Is (.slice none 0 0),Is (.slice none 0 0),Is (.bool false),Is (.slice none 0 0),Is (.bool false),Is (.slice none 0 0),Is (.slice none 0 0),Is (.bool false),Is (.slice none 0 0),Is (.bool false),Is (.slice none 0 0),Is (.slice none 0 0)]) O_163 rfl (fun V=>aW zd (aW zd (aW zd (aW zd (aW zd (aW zd (aW zd (aW zd (aW zd (aW zd (aW zd (aW zd (aW zd (aW zd (aW zd (aW zd (aW zd (aW zd (aW zd (aW zd (aG)))))))))))))))))))))) fun B2=>?_))))
 refine ro rfl (cQ (cJ 0)) (eZ (ts (rn rfl (eG (Ts:=[Is (.bool false),Is (.slice none 0 0),Is (.bool false),Is (.slice none 0 0),Is (.slice none 0 0),Is (.bool false),Is (.slice none 0 0),Is (.bool false),Is (.slice none 0 0),Is (.slice none 0 0),Is (.bool false),Is (.slice none 0 0),Is (.bool false),Is (.slice none 0 0),Is (.slice none 0 0),Is (.bool false),Is (.slice none 0 0),Is (.bool false),Is (.slice none 0 0),Is (.slice none 0 0)]) O_163 rfl (fun V=>aW zd (aW zd (aW zd (aW zd (aW zd (aW zd (aW zd (aW zd (aW zd (aW zd (aW zd (aW zd (aW zd (aW zd (aW zd (aW zd (aW zd (aW zd (aW zd (aW zd (aG)))))))))))))))))))))) fun B4=>?_)))
 refine eZ (cK (ts (ro rfl (eJ bH (Ht rfl) rfl) (ro rfl (fQ A_29 Z_29 (Ht rfl) (i:=0) rfl rfl) (ro rfl (dK U_29 (Ht rfl) a7) (ro rfl (db (Ht rfl) (cJ 2)) (eZ (gN (Ht rfl) (by simp; omega) ?_))))))))
 refine ts (ro rfl (eW A_163 Z_163 (Ht rfl) (i:=2) rfl rfl rfl) (gJ Z_163 (Ht rfl) (Ht rfl) rfl (i:=1) rfl (aK rfl) rfl rfl (ro rfl (cQ (cJ 4)) (eZ ?_))))
 exact aC rfl (fY A_163 Z_163 rfl (i:=1) rfl rfl) (eY rfl)
theorem oL {z fz:List Qi} {s f:List (List Qi)} {port:Int} {x L:Nat} (h2:fz.length = 2) (hf:bM f 2 2) (hx:x = 1 ∨ x = 2) (hfz:aP z L) (hff:aP fz L) (hL:1 ≤ L) (hLb:L ≤ 1000000) (hl:z.length ≤ 1000):aw Tryz.prog 107 [aM z s,aa .i64 port,aM fz f,NT .i64 x] (bo [bB (zx f 2),aa .i64 (iW z fz port x)]):=by
 refine aw.intro Tryz.func107 rfl Tryz.ntmps107 rfl (fun cx=>(ts (rn rfl (fU (Ht rfl)) fun B4=>(rn rfl (fU (Ht rfl)) fun B6=>(rn rfl (eG (Ts:=[Is (.bool false),Is (.slice none 0 0),Is (.bool false),Is (.slice none 0 0),Is (.slice none 0 0),Is (.bool false),Is (.slice none 0 0),Is (.bool false),Is (.slice none 0 0),Is (.slice none 0 0),Is (.bool false),Is (.slice none 0 0),Is (.bool false),Is (.slice none 0 0),Is (.slice none 0 0),Is (.bool false),Is (.slice none 0 0),Is (.bool false),Is (.slice none 0 0),Is (.slice none 0 0)]) O_163 rfl (fun V=>aW zd (aW zd (aW zd (aW zd (aW zd (aW zd (aW zd (aW zd (aW zd (aW zd (aW zd (aW zd (aW zd (aW zd (aW zd (aW zd (aW zd (aW zd (aW zd (aW zd (aG)))))))))))))))))))))) fun B8=>?_)))))
 refine ro rfl (cQ (cJ 0)) (eZ (ts (ro rfl (eW A_32 Z_32 (Ht rfl) (i:=1) rfl rfl rfl) (ro rfl (cZ Tryz.call202 (rO h2 hf) ⟨(Ht rfl),trivial⟩) (rm rfl (ro rfl (dU (Ht rfl) rfl) (ro rfl (dU (Ht rfl) rfl) (rn rfl (eG (Ts:=[Is (.bool false),Is (.slice none 0 0),Is (.bool false),Is (.slice none 0 0),Is (.slice none 0 0),Is (.bool false),Is (.slice none 0 0),Is (.bool false),Is (.slice none 0 0),Is (.slice none 0 0),Is (.bool false),Is (.slice none 0 0),Is (.bool false),Is (.slice none 0 0),Is (.slice none 0 0),Is (.bool false),Is (.slice none 0 0),Is (.bool false),Is (.slice none 0 0),Is (.slice none 0 0)]) O_163 rfl (fun V=>aW zd (aW zd (aW zd (aW zd (aW zd (aW zd (aW zd (aW zd (aW zd (aW zd (aW zd (aW zd (aW zd (aW zd (aW zd (aW zd (aW zd (aW zd (aW zd (aW zd (aG)))))))))))))))))))))) fun B10=>?_))))))))
 refine gJ Z_163 (Ht rfl) (Ht rfl) rfl (i:=3) rfl (aK rfl) rfl rfl (ra rfl (eZ (cK (eK (ts (rm rfl (ro rfl (bT (Ht rfl) cV) (ra rfl (eZ (cb (Ht rfl) (by rfl) ?_))))))))))
 refine ts (ro rfl (eW A_32 Z_32 (Ht rfl) (i:=0) rfl rfl rfl) (rm rfl (ro rfl (cZ K_106 og ⟨(Ht rfl),(Ht rfl),trivial⟩) (ro rfl (bD (Ht rfl)) (ra rfl (eZ (dQ (Ht rfl) (fun hb=>?_) (fun hb=>?_))))))))
 ·have he := E3 (x := x) h2 (by simpa only [Bool.not_eq_true', decide_eq_false_iff_not] using hb : ¬ (1 ≤ port ∧ port ≤ (z.length : Int)))
  refine ts (ro rfl (eW A_163 Z_163 (Ht rfl) (i:=3) rfl rfl rfl) (gJ Z_163 (Ht rfl) (Ht rfl) rfl (i:=2) rfl (aK rfl) rfl rfl (ro rfl (cQ (cJ 1)) (eZ (aC rfl (fY A_163 Z_163 rfl (i:=2) rfl rfl) (fJ (eY rfl) ?_))))))
  exact (am he.symm)
 ·have hb2 : 1 ≤ port ∧ port ≤ (z.length : Int) := by simpa using hb
  have hd:=DW (x:=x) h2 hb2
  haveI g1:an (gv fz (x - 1)) L:=hff.get hL _
  haveI g2:an (gv z (port - 1).toNat) L:=hfz.get hL _
  refine cK (fV (m:=12) (dp 6 rfl (eJ bH (Ht rfl) rfl) (dq 29 0 rfl (fQ A_29 Z_29 (Ht rfl) (i:=1) rfl rfl) (dp 3 rfl (cX (Ht rfl)) (dq 31 2 rfl (dG (Ht rfl) (cJ 1) zo z6) (bv 30 1 32 3 rfl (dZ U_29 Z_51 (Ht rfl) (Ht rfl) rfl (eQ (dY (d:=Qi.zero) zo))) (dq 33 4 rfl (dV A_51 Z_51 (Ht rfl)) (dp 4 rfl (eJ bH (Ht rfl) rfl) (dq 35 6 rfl (fQ A_29 Z_29 (Ht rfl) (i:=0) rfl rfl) ?_)))))))))
  refine dp 1 rfl (cX (Ht rfl)) (dq 37 8 rfl (cq (Ht rfl) cV (r:=(((port - 1).toNat:Nat):Int)) ((kq (z:=port - 1) zo).trans zo)) ?_)
  refine bv 36 7 38 9 rfl (dZ U_29 Z_51 (Ht rfl) (Ht rfl) rfl (eQ (dY (d:=Qi.zero) zo))) (dq 39 10 rfl (dV A_51 Z_51 (Ht rfl)) (fG aA rfl (by kernel_rfl) (zF (zF (zF (aV (ro rfl (cZ Tryz.call139 (pL (x:=gv fz (x - 1)) (y:=gv z (port - 1).toNat) (L:=L) (M:=L) zo zo) ⟨(Ht rfl),(Ht rfl),trivial⟩) (ro rfl (bD (Ht rfl)) (ra rfl (eZ (dQ (Ht rfl) (fun hc=>?_) (fun hc=>?_))))))))))))
  ·have he : iW z fz port x = 40 := by rw [hd, if_neg (by simpa using hc)]
   refine ts (ro rfl (eW A_163 Z_163 (Ht rfl) (i:=3) rfl rfl rfl) (gJ Z_163 (Ht rfl) (Ht rfl) rfl (i:=2) rfl (aK rfl) rfl rfl (ro rfl (cQ (cJ 40)) (eZ (aC rfl (fY A_163 Z_163 rfl (i:=2) rfl rfl) (fJ (eY rfl) ?_))))))
   exact (am he.symm)
  ·have he : iW z fz port x = 0 := by rw [hd, if_pos (by simpa using hc)]
   refine cU (aB (ts (ro rfl (eW A_163 Z_163 (Ht rfl) (i:=3) rfl rfl rfl) (gJ Z_163 (Ht rfl) (Ht rfl) rfl (i:=2) rfl (aK rfl) rfl rfl (ro rfl (cQ (cJ 0)) (eZ (aC rfl (fY A_163 Z_163 rfl (i:=2) rfl rfl) (fJ (eY rfl) ?_))))))))
   exact (am he.symm)
theorem ow {z fz:List Qi} {s f:List (List Qi)} {port:Int} {x:Nat} (h2:fz.length ≠ 2):aw Tryz.prog 107 [aM z s,aa .i64 port,aM fz f,NT .i64 x] (bo [bB (zx [] 0),aa .i64 4]):=by
 refine aw.intro Tryz.func107 rfl Tryz.ntmps107 rfl (fun cx=>(ts (rn rfl (fU (Ht rfl)) fun B4=>(rn rfl (fU (Ht rfl)) fun B6=>(rn rfl (eG (Ts:=[Is (.bool false),Is (.slice none 0 0),Is (.bool false),Is (.slice none 0 0),Is (.slice none 0 0),Is (.bool false),Is (.slice none 0 0),Is (.bool false),Is (.slice none 0 0),Is (.slice none 0 0),Is (.bool false),Is (.slice none 0 0),Is (.bool false),Is (.slice none 0 0),Is (.slice none 0 0),Is (.bool false),Is (.slice none 0 0),Is (.bool false),Is (.slice none 0 0),Is (.slice none 0 0)]) O_163 rfl (fun V=>aW zd (aW zd (aW zd (aW zd (aW zd (aW zd (aW zd (aW zd (aW zd (aW zd (aW zd (aW zd (aW zd (aW zd (aW zd (aW zd (aW zd (aW zd (aW zd (aW zd (aG)))))))))))))))))))))) fun B8=>?_)))))
 refine ro rfl (cQ (cJ 0)) (eZ (ts (ro rfl (eW A_32 Z_32 (Ht rfl) (i:=1) rfl rfl rfl) (ro rfl (cZ Tryz.call202 (rW h2) ⟨(Ht rfl),trivial⟩) (rm rfl (ro rfl (dU (Ht rfl) rfl) (ro rfl (dU (Ht rfl) rfl) (rn rfl (eG (Ts:=[Is (.bool false),Is (.slice none 0 0),Is (.bool false),Is (.slice none 0 0),Is (.slice none 0 0),Is (.bool false),Is (.slice none 0 0),Is (.bool false),Is (.slice none 0 0),Is (.slice none 0 0),Is (.bool false),Is (.slice none 0 0),Is (.bool false),Is (.slice none 0 0),Is (.slice none 0 0),Is (.bool false),Is (.slice none 0 0),Is (.bool false),Is (.slice none 0 0),Is (.slice none 0 0)]) O_163 rfl (fun V=>aW zd (aW zd (aW zd (aW zd (aW zd (aW zd (aW zd (aW zd (aW zd (aW zd (aW zd (aW zd (aW zd (aW zd (aW zd (aW zd (aW zd (aW zd (aW zd (aW zd (aG)))))))))))))))))))))) fun B10=>?_))))))))
 refine gJ Z_163 (Ht rfl) (Ht rfl) rfl (i:=3) rfl (aK rfl) rfl rfl (ra rfl (eZ (cK (eK (ts (rm rfl (ro rfl (bT (Ht rfl) cV) (ra rfl (eZ (gN (Ht rfl) (by rfl) ?_))))))))))
 refine ts (ro rfl (eW A_163 Z_163 (Ht rfl) (i:=3) rfl rfl rfl) (rm rfl (gJ Z_163 (Ht rfl) (Ht rfl) rfl (i:=2) rfl (aK rfl) rfl rfl (ra rfl (eZ ?_)))))
 exact aC rfl (fY A_163 Z_163 rfl (i:=2) rfl rfl) (eY rfl)
theorem o5 {z:List Qi} {s:List (List Qi)} {p:Nat} {e:Qi} {L M:Nat} (hs:bM s z.length z.length) (hp:p < z.length) (hz:z.length ≤ 1000) (hf:aL s L) (he2:an e M) (hL:1 ≤ L) (hLb:L + 3 * M + 2 ≤ 1000000) (he:e = Qi.zero):aw Tryz.prog 108 [aM z s,NT .i64 p,ab e] (bo [av [],av [],aa .i64 6]):=by
 have hsl:=hs.1
 have hspr:=hs.row hp
 haveI:=he2
 refine aw.intro Tryz.func108 rfl Tryz.ntmps108 rfl (fun cx=>(ts (rn rfl (fU (Ht rfl)) fun B3=>(rn rfl (fU (Ht rfl)) fun B5=>(ro rfl (cQ cV) (ro rfl (cQ cV) (ro rfl (cQ (cJ 0)) (eZ (cK (cK (jk 51 5 (jk 51 5 (cY (ro rfl (eJ bn (Ht rfl) rfl) (ro rfl (fQ A_30 Z_30 (Ht rfl) (i:=0) rfl rfl) (ro rfl (dK U_30 (Ht rfl) (by rw [List.length_map,hsl])) ?_))))))))))))))))
 refine ro rfl (cX (cJ 0)) (eZ (eK ?_))
 refine eB (fun (i : Nat) (vU : Value) (vV : Value) => i = 0) (fun (i : Nat) (vU : Value) (vV : Value) => z.length - i) (fun (i : Nat) (vU : Value) (vV : Value) => [(1, NT .i64 p), (3, aH B3 0), (5, aH B5 0), (6, Is vU), (7, Is vV), (8, NT .i64 0), (16, NT .i64 z.length), (17, NT .i64 i)]) (fun (i : Nat) (vU : Value) (vV : Value) => [box B3 32 [av z, bp s], box B5 51 (nb e), aE 51 5 vU ((tab i (fun i => gm s i p / e)).map ab), aE 51 5 vV ((tab i (fun i => gm s p i / e)).map ab)]) 0 _ _ rfl
  (zS rfl) (aU (a8 rfl) (aU (a8 rfl) (aU (ar rfl) (aU (ar rfl) aY)))) (fun i vU vV hi=>?_)
 refine ts (ro rfl (gV (Ht rfl) (Ht rfl)) (eZ (cK (dQ (Ht rfl) (fun hd=>?_) (fun hd=>?_)))))
 ·have hin : i < z.length := by simp only [decide_eq_true_eq] at hd; omega
  have hsr:=hs.row hin
  haveI g1:an (gm s i p) L:=hf.get hL _ _
  haveI g2:an (gm s p i) L:=hf.get hL _ _
  refine cU (cK (eK (ts (rm rfl (ra rfl (eZ (cK (Y.D_start (m:=16) [] (bY (Ei:=[(3,_)]) rfl rfl (bQ (bJ rfl rfl) bX) rfl rfl (dX rfl (eJ bn (Ht rfl) rfl)) (bY (Ei:=[(21,_)]) rfl rfl (bQ (bZ 0 rfl rfl) bX) rfl rfl (dX rfl (fQ A_30 Z_30 (Ht rfl) (i:=0) rfl rfl)) (bY (Ei:=[(9,_)]) rfl rfl (bQ (bJ rfl rfl) bX) rfl rfl (dX rfl (cX (Ht rfl))) (bY (Ei:=[(22,_),(23,_)]) rfl rfl (bQ (bZ 1 rfl rfl) (bQ (bZ 2 rfl rfl) bX)) rfl rfl (dX rfl (dZ U_30 Z_29 (Ht rfl) (Ht rfl) rfl (eQ (dY (d:=[]) zo)))) ?_))))))))))))
  refine bY (Ei:=[(24,_)]) rfl rfl (bQ (bZ 3 rfl rfl) bX) rfl rfl (dX rfl (dV A_29 Z_29 (Ht rfl))) (bY (Ei:=[(1,_)]) rfl rfl (bQ (bJ rfl rfl) bX) rfl rfl (dX rfl (cX (Ht rfl))) (bY (Ei:=[(25,_),(26,_)]) rfl rfl (bQ (bZ 4 rfl rfl) (bQ (bZ 5 rfl rfl) bX)) rfl rfl (dX rfl (dZ U_29 Z_51 (Ht rfl) (Ht rfl) rfl (eQ (dY (d:=Qi.zero) zo)))) (bY (Ei:=[(27,_)]) rfl rfl (bQ (bZ 6 rfl rfl) bX) rfl rfl (dX rfl (dV A_51 Z_51 (Ht rfl))) ?_)))
  refine bY (Ei:=[(28,_)]) rfl rfl (bQ (bZ 7 rfl rfl) bX) rfl rfl (dX rfl (ay aF (Ht rfl))) (bY (Ei:=[(5,_)]) rfl rfl (bQ (bJ rfl rfl) bX) rfl rfl (dX rfl (eW A_51 Z_51 (Ht rfl) (i:=1) rfl rfl rfl)) (bY (Ei:=[(29,_),(30,_)]) rfl rfl (bQ (bZ 8 rfl rfl) (bQ (bZ 9 rfl rfl) bX)) rfl rfl (dX rfl (ap dO K_40 (mg (x:=gm s i p) (y:=e) (L:=L) (M:=M) zo) (Ht rfl) ⟨(Ht rfl),trivial⟩)) (bY (Ei:=[(31,_)]) rfl rfl (bQ (bZ 10 rfl rfl) bX) rfl rfl (dX rfl (cX (Ht rfl))) ?_)))
  refine bY (Ei:=[(20,_)]) rfl rfl (bQ (bZ 11 rfl rfl) bX) rfl rfl (dX rfl (dU (Ht rfl) rfl)) (bY (Ei:=[(20,_)]) rfl rfl (bQ (bZ 11 rfl rfl) bX) rfl rfl (dX rfl (dU (Ht rfl) rfl)) (Y.D_newp (Ei:=[]) (fun bb=>box bb 51 (nb (gm s i p / e))) 15 rfl rfl rfl bX rfl rfl (by kernel_rfl) (eG (Ts:=[Is (.bool false),Is (.slice none 0 0),Is (.bool false),Is (.slice none 0 0),Is (.slice none 0 0)]) O_51 rfl (fun V=>aW zd (aW zd (aW zd (aW zd (aW zd (aG))))))) ?_))
  refine Y.D_putN (Ei:=[(32,_)]) 14 rfl rfl rfl rfl rfl rfl (bQ (bZ 12 rfl rfl) bX) (fun bb=>ft Z_51 (Ht rfl) (Ht rfl) rfl (i:=0) rfl (aK rfl) rfl rfl) (Y.D_done aA rfl (by kernel_rfl) rfl (by simp [Y.okP]) rfl rfl (bU (bU (bU (bU (bU (bU (bU (bU (bU (bU (bU (bU (bU (bU (Y.F_newp (fun B10=>Y.F_putN (Y.F_nil ?_))))))))))))))))))
  refine ra rfl (eZ (cK (gG (i:=4) (tt:=10) rfl rfl cf (aD [0,1,2,3] rfl (by decide) (Y.D_start (m:=16) [] (bY (Ei:=[(3,_)]) rfl rfl (bQ (bJ rfl rfl) bX) rfl rfl (dX rfl (eJ bn (Ht rfl) rfl)) (bY (Ei:=[(35,_)]) rfl rfl (bQ (bZ 0 rfl rfl) bX) rfl rfl (dX rfl (fQ A_30 Z_30 (Ht rfl) (i:=0) rfl rfl)) (bY (Ei:=[(1,_)]) rfl rfl (bQ (bJ rfl rfl) bX) rfl rfl (dX rfl (cX (Ht rfl))) (bY (Ei:=[(36,_),(37,_)]) rfl rfl (bQ (bZ 1 rfl rfl) (bQ (bZ 2 rfl rfl) bX)) rfl rfl (dX rfl (dZ U_30 Z_29 (Ht rfl) (Ht rfl) rfl (eQ (dY (d:=[]) zo)))) ?_)))))))))
  refine bY (Ei:=[(38,_)]) rfl rfl (bQ (bZ 3 rfl rfl) bX) rfl rfl (dX rfl (dV A_29 Z_29 (Ht rfl))) (bY (Ei:=[(9,_)]) rfl rfl (bQ (bJ rfl rfl) bX) rfl rfl (dX rfl (cX (Ht rfl))) (bY (Ei:=[(39,_),(40,_)]) rfl rfl (bQ (bZ 4 rfl rfl) (bQ (bZ 5 rfl rfl) bX)) rfl rfl (dX rfl (dZ U_29 Z_51 (Ht rfl) (Ht rfl) rfl (eQ (dY (d:=Qi.zero) zo)))) (bY (Ei:=[(41,_)]) rfl rfl (bQ (bZ 6 rfl rfl) bX) rfl rfl (dX rfl (dV A_51 Z_51 (Ht rfl))) ?_)))
  refine bY (Ei:=[(42,_)]) rfl rfl (bQ (bZ 7 rfl rfl) bX) rfl rfl (dX rfl (ay aF (Ht rfl))) (bY (Ei:=[(5,_)]) rfl rfl (bQ (bJ rfl rfl) bX) rfl rfl (dX rfl (eW A_51 Z_51 (Ht rfl) (i:=1) rfl rfl rfl)) (bY (Ei:=[(43,_),(44,_)]) rfl rfl (bQ (bZ 8 rfl rfl) (bQ (bZ 9 rfl rfl) bX)) rfl rfl (dX rfl (ap dO K_40 (mg (x:=gm s p i) (y:=e) (L:=L) (M:=M) zo) (Ht rfl) ⟨(Ht rfl),trivial⟩)) (bY (Ei:=[(45,_)]) rfl rfl (bQ (bZ 10 rfl rfl) bX) rfl rfl (dX rfl (cX (Ht rfl))) ?_)))
  refine bY (Ei:=[(34,_)]) rfl rfl (bQ (bZ 11 rfl rfl) bX) rfl rfl (dX rfl (dU (Ht rfl) rfl)) (bY (Ei:=[(34,_)]) rfl rfl (bQ (bZ 11 rfl rfl) bX) rfl rfl (dX rfl (dU (Ht rfl) rfl)) (Y.D_newp (Ei:=[]) (fun bb=>box bb 51 (nb (gm s p i / e))) 15 rfl rfl rfl bX rfl rfl (by kernel_rfl) (eG (Ts:=[Is (.bool false),Is (.slice none 0 0),Is (.bool false),Is (.slice none 0 0),Is (.slice none 0 0)]) O_51 rfl (fun V=>aW zd (aW zd (aW zd (aW zd (aW zd (aG))))))) ?_))
  refine Y.D_putN (Ei:=[(46,_)]) 14 rfl rfl rfl rfl rfl rfl (bQ (bZ 12 rfl rfl) bX) (fun bb=>ft Z_51 (Ht rfl) (Ht rfl) rfl (i:=0) rfl (aK rfl) rfl rfl) (Y.D_done aA rfl (by kernel_rfl) rfl (by simp [Y.okP]) rfl rfl (bU (bU (bU (bU (bU (bU (bU (bU (bU (bU (bU (bU (bU (bU (Y.F_newp (fun B12=>Y.F_putN (Y.F_nil ?_))))))))))))))))))
  refine ra rfl (eZ (cK (cK (gG (i:=4) (tt:=12) rfl rfl cf (aD [0,1,2,3] rfl (by decide) (cY (rm rfl (ro rfl (bT (Ht rfl) cV) (rm rfl (fX rfl rfl (eU rfl rfl (Ht rfl) (fun h=>cX (Ht rfl))) (fX rfl rfl (eU rfl rfl (Ht rfl) (fun h=>bT (fW rfl h) cV)) (ro rfl (eP (Ht rfl) (fun h=>(fW rfl h))) (eZ (gN (Ht rfl) (by simp [he]) ?_))))))))))))))
  refine ts (ro rfl (cQ cV) (ro rfl (cQ cV) (ro rfl (cQ (cJ 6)) (eZ (rM rfl (fJ (eY rfl) ?_) (fJ (eY rfl) ?_) (eY rfl))))))
  ·exact dc
  ·exact dc
 ·exact absurd hd (by simp; omega)
theorem oz {z:List Qi} {s:List (List Qi)} {p:Nat} {e:Qi} {L M:Nat} (hs:bM s z.length z.length) (hp:p < z.length) (hz:z.length ≤ 1000) (hf:aL s L) (he2:an e M) (hL:1 ≤ L) (hLb:L + 3 * M + 2 ≤ 1000000) (he:e ≠ Qi.zero):aw Tryz.prog 108 [aM z s,NT .i64 p,ab e] (bo [av (tab z.length (fun i=>gm s i p / e)),av (tab z.length (fun i=>gm s p i / e)),aa .i64 0]):=by
 have hsl:=hs.1
 have hspr:=hs.row hp
 haveI:=he2
 refine aw.intro Tryz.func108 rfl Tryz.ntmps108 rfl (fun cx=>(ts (rn rfl (fU (Ht rfl)) fun B3=>(rn rfl (fU (Ht rfl)) fun B5=>(ro rfl (cQ cV) (ro rfl (cQ cV) (ro rfl (cQ (cJ 0)) (eZ (cK (cK (jk 51 5 (jk 51 5 (cY (ro rfl (eJ bn (Ht rfl) rfl) (ro rfl (fQ A_30 Z_30 (Ht rfl) (i:=0) rfl rfl) (ro rfl (dK U_30 (Ht rfl) (by rw [List.length_map,hsl])) ?_))))))))))))))))
 refine ro rfl (cX (cJ 0)) (eZ (eK ?_))
 refine eB (fun (i : Nat) (vU : Value) (vV : Value) => i ≤ z.length) (fun (i : Nat) (vU : Value) (vV : Value) => z.length - i) (fun (i : Nat) (vU : Value) (vV : Value) => [(1, NT .i64 p), (3, aH B3 0), (5, aH B5 0), (6, Is vU), (7, Is vV), (8, NT .i64 0), (16, NT .i64 z.length), (17, NT .i64 i)]) (fun (i : Nat) (vU : Value) (vV : Value) => [box B3 32 [av z, bp s], box B5 51 (nb e), aE 51 5 vU ((tab i (fun i => gm s i p / e)).map ab), aE 51 5 vV ((tab i (fun i => gm s p i / e)).map ab)]) 0 _ _ (Nat.zero_le _)
  (zS rfl) (aU (a8 rfl) (aU (a8 rfl) (aU (ar rfl) (aU (ar rfl) aY)))) (fun i vU vV hi=>?_)
 refine ts (ro rfl (gV (Ht rfl) (Ht rfl)) (eZ (cK (dQ (Ht rfl) (fun hd=>?_) (fun hd=>?_)))))
 ·have hin : i < z.length := by simp only [decide_eq_true_eq] at hd; omega
  have hsr:=hs.row hin
  haveI g1:an (gm s i p) L:=hf.get hL _ _
  haveI g2:an (gm s p i) L:=hf.get hL _ _
  refine cU (cK (eK (ts (rm rfl (ra rfl (eZ (cK (Y.D_start (m:=16) [] (bY (Ei:=[(3,_)]) rfl rfl (bQ (bJ rfl rfl) bX) rfl rfl (dX rfl (eJ bn (Ht rfl) rfl)) (bY (Ei:=[(21,_)]) rfl rfl (bQ (bZ 0 rfl rfl) bX) rfl rfl (dX rfl (fQ A_30 Z_30 (Ht rfl) (i:=0) rfl rfl)) (bY (Ei:=[(9,_)]) rfl rfl (bQ (bJ rfl rfl) bX) rfl rfl (dX rfl (cX (Ht rfl))) (bY (Ei:=[(22,_),(23,_)]) rfl rfl (bQ (bZ 1 rfl rfl) (bQ (bZ 2 rfl rfl) bX)) rfl rfl (dX rfl (dZ U_30 Z_29 (Ht rfl) (Ht rfl) rfl (eQ (dY (d:=[]) zo)))) ?_))))))))))))
  refine bY (Ei:=[(24,_)]) rfl rfl (bQ (bZ 3 rfl rfl) bX) rfl rfl (dX rfl (dV A_29 Z_29 (Ht rfl))) (bY (Ei:=[(1,_)]) rfl rfl (bQ (bJ rfl rfl) bX) rfl rfl (dX rfl (cX (Ht rfl))) (bY (Ei:=[(25,_),(26,_)]) rfl rfl (bQ (bZ 4 rfl rfl) (bQ (bZ 5 rfl rfl) bX)) rfl rfl (dX rfl (dZ U_29 Z_51 (Ht rfl) (Ht rfl) rfl (eQ (dY (d:=Qi.zero) zo)))) (bY (Ei:=[(27,_)]) rfl rfl (bQ (bZ 6 rfl rfl) bX) rfl rfl (dX rfl (dV A_51 Z_51 (Ht rfl))) ?_)))
  refine bY (Ei:=[(28,_)]) rfl rfl (bQ (bZ 7 rfl rfl) bX) rfl rfl (dX rfl (ay aF (Ht rfl))) (bY (Ei:=[(5,_)]) rfl rfl (bQ (bJ rfl rfl) bX) rfl rfl (dX rfl (eW A_51 Z_51 (Ht rfl) (i:=1) rfl rfl rfl)) (bY (Ei:=[(29,_),(30,_)]) rfl rfl (bQ (bZ 8 rfl rfl) (bQ (bZ 9 rfl rfl) bX)) rfl rfl (dX rfl (ap dO K_40 (mg (x:=gm s i p) (y:=e) (L:=L) (M:=M) zo) (Ht rfl) ⟨(Ht rfl),trivial⟩)) (bY (Ei:=[(31,_)]) rfl rfl (bQ (bZ 10 rfl rfl) bX) rfl rfl (dX rfl (cX (Ht rfl))) ?_)))
  refine bY (Ei:=[(20,_)]) rfl rfl (bQ (bZ 11 rfl rfl) bX) rfl rfl (dX rfl (dU (Ht rfl) rfl)) (bY (Ei:=[(20,_)]) rfl rfl (bQ (bZ 11 rfl rfl) bX) rfl rfl (dX rfl (dU (Ht rfl) rfl)) (Y.D_newp (Ei:=[]) (fun bb=>box bb 51 (nb (gm s i p / e))) 15 rfl rfl rfl bX rfl rfl (by kernel_rfl) (eG (Ts:=[Is (.bool false),Is (.slice none 0 0),Is (.bool false),Is (.slice none 0 0),Is (.slice none 0 0)]) O_51 rfl (fun V=>aW zd (aW zd (aW zd (aW zd (aW zd (aG))))))) ?_))
  refine Y.D_putN (Ei:=[(32,_)]) 14 rfl rfl rfl rfl rfl rfl (bQ (bZ 12 rfl rfl) bX) (fun bb=>ft Z_51 (Ht rfl) (Ht rfl) rfl (i:=0) rfl (aK rfl) rfl rfl) (Y.D_done aA rfl (by kernel_rfl) rfl (by simp [Y.okP]) rfl rfl (bU (bU (bU (bU (bU (bU (bU (bU (bU (bU (bU (bU (bU (bU (Y.F_newp (fun B10=>Y.F_putN (Y.F_nil ?_))))))))))))))))))
  refine ra rfl (eZ (cK (gG (i:=4) (tt:=10) rfl rfl cf (aD [0,1,2,3] rfl (by decide) (Y.D_start (m:=16) [] (bY (Ei:=[(3,_)]) rfl rfl (bQ (bJ rfl rfl) bX) rfl rfl (dX rfl (eJ bn (Ht rfl) rfl)) (bY (Ei:=[(35,_)]) rfl rfl (bQ (bZ 0 rfl rfl) bX) rfl rfl (dX rfl (fQ A_30 Z_30 (Ht rfl) (i:=0) rfl rfl)) (bY (Ei:=[(1,_)]) rfl rfl (bQ (bJ rfl rfl) bX) rfl rfl (dX rfl (cX (Ht rfl))) (bY (Ei:=[(36,_),(37,_)]) rfl rfl (bQ (bZ 1 rfl rfl) (bQ (bZ 2 rfl rfl) bX)) rfl rfl (dX rfl (dZ U_30 Z_29 (Ht rfl) (Ht rfl) rfl (eQ (dY (d:=[]) zo)))) ?_)))))))))
  refine bY (Ei:=[(38,_)]) rfl rfl (bQ (bZ 3 rfl rfl) bX) rfl rfl (dX rfl (dV A_29 Z_29 (Ht rfl))) (bY (Ei:=[(9,_)]) rfl rfl (bQ (bJ rfl rfl) bX) rfl rfl (dX rfl (cX (Ht rfl))) (bY (Ei:=[(39,_),(40,_)]) rfl rfl (bQ (bZ 4 rfl rfl) (bQ (bZ 5 rfl rfl) bX)) rfl rfl (dX rfl (dZ U_29 Z_51 (Ht rfl) (Ht rfl) rfl (eQ (dY (d:=Qi.zero) zo)))) (bY (Ei:=[(41,_)]) rfl rfl (bQ (bZ 6 rfl rfl) bX) rfl rfl (dX rfl (dV A_51 Z_51 (Ht rfl))) ?_)))
  refine bY (Ei:=[(42,_)]) rfl rfl (bQ (bZ 7 rfl rfl) bX) rfl rfl (dX rfl (ay aF (Ht rfl))) (bY (Ei:=[(5,_)]) rfl rfl (bQ (bJ rfl rfl) bX) rfl rfl (dX rfl (eW A_51 Z_51 (Ht rfl) (i:=1) rfl rfl rfl)) (bY (Ei:=[(43,_),(44,_)]) rfl rfl (bQ (bZ 8 rfl rfl) (bQ (bZ 9 rfl rfl) bX)) rfl rfl (dX rfl (ap dO K_40 (mg (x:=gm s p i) (y:=e) (L:=L) (M:=M) zo) (Ht rfl) ⟨(Ht rfl),trivial⟩)) (bY (Ei:=[(45,_)]) rfl rfl (bQ (bZ 10 rfl rfl) bX) rfl rfl (dX rfl (cX (Ht rfl))) ?_)))
  refine bY (Ei:=[(34,_)]) rfl rfl (bQ (bZ 11 rfl rfl) bX) rfl rfl (dX rfl (dU (Ht rfl) rfl)) (bY (Ei:=[(34,_)]) rfl rfl (bQ (bZ 11 rfl rfl) bX) rfl rfl (dX rfl (dU (Ht rfl) rfl)) (Y.D_newp (Ei:=[]) (fun bb=>box bb 51 (nb (gm s p i / e))) 15 rfl rfl rfl bX rfl rfl (by kernel_rfl) (eG (Ts:=[Is (.bool false),Is (.slice none 0 0),Is (.bool false),Is (.slice none 0 0),Is (.slice none 0 0)]) O_51 rfl (fun V=>aW zd (aW zd (aW zd (aW zd (aW zd (aG))))))) ?_))
  refine Y.D_putN (Ei:=[(46,_)]) 14 rfl rfl rfl rfl rfl rfl (bQ (bZ 12 rfl rfl) bX) (fun bb=>ft Z_51 (Ht rfl) (Ht rfl) rfl (i:=0) rfl (aK rfl) rfl rfl) (Y.D_done aA rfl (by kernel_rfl) rfl (by simp [Y.okP]) rfl rfl (bU (bU (bU (bU (bU (bU (bU (bU (bU (bU (bU (bU (bU (bU (Y.F_newp (fun B12=>Y.F_putN (Y.F_nil ?_))))))))))))))))))
  refine ra rfl (eZ (cK (cK (gG (i:=4) (tt:=12) rfl rfl cf (aD [0,1,2,3] rfl (by decide) (cY (rm rfl (ro rfl (bT (Ht rfl) cV) (rm rfl (fX rfl rfl (eU rfl rfl (Ht rfl) (fun h=>cX (Ht rfl))) (fX rfl rfl (eU rfl rfl (Ht rfl) (fun h=>bT (fW rfl h) cV)) (ro rfl (eP (Ht rfl) (fun h=>(fW rfl h))) (eZ (cb (Ht rfl) (by simp [he]) ?_))))))))))))))
  refine cU (Y.D_startA (m:=7) [] 3 2 rfl rfl (bY (Ei:=[(6,_)]) rfl rfl (bQ (bJ rfl rfl) bX) rfl rfl (dX rfl (cX (Ht rfl))) (bY (Ei:=[(10,_)]) rfl rfl (bQ (bJ rfl rfl) bX) rfl rfl (dX rfl (dV A_51 Z_51 (Ht rfl))) (bY (Ei:=[(55,_)]) rfl rfl (bQ (bZ 1 rfl rfl) bX) rfl rfl (dX rfl (bm (xs:=[.tmp 55]) U_29 Z_51 O_51 (cW (Ht rfl) cG) rfl rfl rfl)) (Y.D_app (Ei:=[(54,_),(56,_)]) rfl rfl rfl rfl (bQ (bZ 0 rfl rfl) (bQ (bZ 2 rfl rfl) bX)) rfl (qi (inf:=Tryz.t51) ef de rfl rfl rfl (Ht rfl) (Ht rfl) (by simp) (fun T hT=>by simp at hT; subst hT; exact El.ag rfl) (by show _ * 88 ≤ _; simp only [List.length_map,ao,List.length_cons,List.length_nil]; omega) (by simp only [List.length_map,ao,List.length_cons,List.length_nil]; omega)) ?_)))))
  refine bY (Ei:=[(7,_)]) rfl rfl (bQ (bJ rfl rfl) bX) rfl rfl (dX rfl (cX (Ht rfl))) (bY (Ei:=[(12,_)]) rfl rfl (bQ (bJ rfl rfl) bX) rfl rfl (dX rfl (dV A_51 Z_51 (Ht rfl))) (bY (Ei:=[(59,_)]) rfl rfl (bQ (bZ 5 rfl rfl) bX) rfl rfl (dX rfl (bm (xs:=[.tmp 59]) U_29 Z_51 O_51 (cW (Ht rfl) cG) rfl rfl rfl)) (Y.D_done aA rfl (by kernel_rfl) rfl (by simp [Y.okP]) rfl rfl (bU (bU (bU (Y.F_app (fun v2=>bU (bU (bU (Y.F_nil ?_)))))))))))
  refine gd (inf:=Tryz.t51) ef de rfl rfl rfl (Ht rfl) (Ht rfl) (i:=3) rfl (by simp) (fun T hT=>by simp at hT; subst hT; exact El.ag rfl) (by show _ * 88 ≤ _; simp only [List.length_map,ao,List.length_cons,List.length_nil]; omega) (by simp only [List.length_map,ao,List.length_cons,List.length_nil]; omega) rfl (fun v3=>?_)
  refine ra rfl (ra rfl (eZ (aB (cY (ro rfl (dW (Ht rfl) (cJ 1) z6) (rm rfl (eZ ?_)))))))
  refine aD [0,1,4,3] rfl (by decide) (gQ (i + 1,v2,v3) hin (by dsimp only; omega) (zS rfl) (aU (a8 rfl) (aU (a8 rfl) (aU (ar (by rw [e9,List.map_append]; rfl)) (aU (ar (by rw [e9,List.map_append]; rfl)) aY)))))
 ·obtain rfl : i = z.length := by simp only [decide_eq_false_iff_not] at hd; omega
  refine gK rfl (cK (gG (i:=2) (tt:=6) rfl rfl cg (gG (i:=3) (tt:=7) rfl rfl cg (cY (rm rfl (rm rfl (ra rfl (ra rfl (ro rfl (cQ (cJ 0)) (eZ ?_))))))))))
  exact rM rfl (eY rfl) (eY rfl) (eY rfl)
theorem w3 {z:List Qi} {s:List (List Qi)} {p:Nat} {x:Qi} {F:Nat → Nat → Qi} (hs:bM s z.length z.length) (hp:p < z.length) (hz:z.length ≤ 1000):aw Tryz.prog 110 [aM z s,NT .i64 p,ab x,mp Tryz.prog (Fin z.length × Fin z.length) (fun x=>[NT .i64 x.1.1,NT .i64 x.2.1]) (fun x=>ab (F x.1.1 x.2.1))] (aM (z.set p x) (tab z.length fun i=>tab z.length fun j=>F i j)):=by
 refine aw.intro Tryz.func110 rfl Tryz.ntmps110 rfl (fun cx=>(ts (rn rfl (fU (Ht rfl)) fun B4=>(rn rfl (fU (Ht rfl)) fun B6=>(rn rfl (eG (Ts:=[Is (.slice none 0 0),Is (.slice none 0 0)]) O_32 rfl (fun V=>aW zd (aW zd (aG)))) fun B8=>(eZ (cK (fV (m:=5) (dp 4 rfl (eW A_32 Z_32 (Ht rfl) (i:=0) rfl rfl rfl) (dp 4 rfl (eW A_32 Z_32 (Ht rfl) (i:=0) rfl rfl rfl) (dq 11 1 rfl (cZ Tryz.call121 (A7 (z:=z) (s:=s) zo) ⟨(Ht rfl),cV,trivial⟩) ?_)))))))))))
 refine C.D_new (Ei:=[(10,_),(12,_)]) rfl rfl rfl (bV (bG 0 rfl rfl) (bV (bG 2 rfl rfl) bW)) (oc Tryz.call122 (dy.pack (yH (z:=z) (s:=s) (Q:=gx [] z.length) (m:=z.length) hs (fun x h=>pw h) (tW _) zo zo)) ⟨(Ht rfl),(Ht rfl),trivial⟩) (C.D_new (Ei:=[]) rfl rfl rfl bW (eG (Ts:=[Is (.slice none 0 0),Is (.slice none 0 0)]) O_32 rfl (fun V=>aW zd (aW zd (aG)))) (fG aA rfl (by kernel_rfl) (aJ (aJ (aJ (C.F_new (fun B13=>C.F_new (fun B9=>aV ?_))))))))
 refine gJ Z_32 (Ht rfl) (Ht rfl) rfl (i:=4) rfl (aK rfl) rfl rfl (eZ (cK (aD [3,0,1,2,4] rfl (by decide) ?_)))
 obtain ⟨⟨vZ,bS⟩,hQ⟩:=B13
 refine Cl (X:=[SA.emp,aE 51 5 (.slice (some ⟨vZ,0,none⟩) z.length z.length) ((gz z (gx [] z.length)).map ab),gt bS 29 51 5 (bq ab (kI s (gx [] z.length)))]) (Y:=[box B4 32 [av z,bp s],box B6 51 (nb x),box B8 32 [Is (.slice none 0 0),Is (.slice none 0 0)],box B9 32 [Is (.slice (some ⟨vZ,0,none⟩) z.length z.length),Is (.slice (some ⟨bS,0,none⟩) z.length z.length)]]) (aD [1,3,4,5,6] rfl (by decide) (fw 0 rfl (ar (congrArg (List.map ab) zW)) (cY (ro rfl (eJ bH (Ht rfl) rfl) (ro rfl (yk A_29 Z_29 (Ht rfl) (i:=4) rfl rfl) ?_)))))
 refine rm rfl (ro rfl (eW A_51 Z_51 (Ht rfl) (i:=2) rfl rfl rfl) (ro rfl (bi U_29 Z_51 (Ht rfl) (Ht rfl) rfl (i:=0) rfl (by rw [List.length_map]; omega) rfl) ?_))
 refine eL Z_51 (Ht rfl) (Ht rfl) (El.ag rfl) (i:=0) rfl rfl (by rw [List.length_map]; omega) rfl ?_
 refine eZ (ts (ro rfl (eJ bH (Ht rfl) rfl) (ro rfl (fQ A_29 Z_29 (Ht rfl) (i:=1) rfl rfl) (ro rfl (dK U_29 (Ht rfl) a7) (rm rfl (ro rfl (cZ K_114 (mY (n:=z.length) (f:=F) zo) ⟨(Ht rfl),(Ht rfl),trivial⟩) (ro rfl (eJ bn (Ht rfl) rfl) (dI Z_30 (Ht rfl) (Ht rfl) (i:=4) rfl (aK rfl) rfl (eZ (cK (fw 0 rfl (ar (c9 ab z p x)) (ue 4 0 0 rfl rfl rfl (by decide) (cY (ro rfl (eW A_32 Z_32 (Ht rfl) (i:=4) rfl rfl rfl) ?_))))))))))))))
 refine gJ Z_32 (Ht rfl) (Ht rfl) rfl (i:=3) rfl (aK rfl) rfl rfl (eZ ?_)
 exact fK rfl (fY A_32 Z_32 rfl (i:=3) rfl rfl)
end
section
open Go Go.RowKit
theorem pz {n i:Nat} {f:Nat → Qi} (h:i < n):(tab n f).getD i Qi.zero = f i:=iy h
theorem oP {s f:List (List Qi)} {p L:Nat} (hs:aL s L) (hf:aL f L) (hL:1 ≤ L):an (er s f p) (2 * L + 3):=by
 haveI:=hs.get hL p p; haveI:=hf.get hL 1 1; haveI:=gr
 exact (inferInstance:an (Qi.ofInt 1 - gm f 1 1 * gm s p p) (1 + (L + L + 1) + 1)).le zo
theorem oT {s f:List (List Qi)} {p L:Nat} (hs:aL s L) (hf:aL f L) (hL:1 ≤ L):an (i9 s f p) (5 * L + 5):=by
 haveI:=hs.get hL p p; haveI:=hf.get hL 1 1; haveI:=hf.get hL 0 0; haveI:=hf.get hL 0 1; haveI:=hf.get hL 1 0
 exact (inferInstance:an (gm f 0 1 * gm f 1 0 + gm f 1 1 * (gm s p p - gm f 0 0)) ((L + L + 1) + (L + (L + L + 1) + 1) + 1)).le zo
theorem vK {s f:List (List Qi)} {p i j L:Nat} (hs:aL s L) (hf:aL f L) (hL:1 ≤ L) (hd:er s f p ≠ Qi.zero):an (gI s f p i j) (20 * L + 20):=by
 haveI e:=oP (p:=p) hs hf hL
 have q:∀ a b,an (gm s a b / er s f p) (7 * L + 11):=fun a b=>(kW (hs.get hL a b) e hd).le zo
 haveI q1:=q p p; haveI q2:=q i p; haveI q3:=q p j
 haveI:=hs.get hL i j; haveI:=hs.get hL p j; haveI:=hf.get hL 1 1; haveI:=hf.get hL 0 0; haveI:=hf.get hL 0 1; haveI:=hf.get hL 1 0
 rw [gI]
 split
 ·exact (inferInstance:an (_ + _ * (_ * _)) (L + (L + (L + (7 * L + 11) + 1) + 1) + 1)).le zo
 ·split
  ·exact (inferInstance:an (_ * _) ((7 * L + 11) + L + 1)).le zo
  ·split
   ·exact (inferInstance:an (_ * _) (L + (7 * L + 11) + 1)).le zo
   ·exact (inferInstance:an (_ + _ * (_ * _)) (L + ((7 * L + 11) + (L + L + 1) + 1) + 1)).le zo
theorem zZ {s f:List (List Qi)} {p i j L:Nat} (hs:aL s L) (hf:aL f L) (hL:1 ≤ L) (hd:i9 s f p ≠ Qi.zero):an (pZ s f p i j) (40 * L + 40):=by
 haveI e:=oT (p:=p) hs hf hL
 have q:∀ a b,an (gm s a b / i9 s f p) (16 * L + 17):=fun a b=>(kW (hs.get hL a b) e hd).le zo
 haveI q2:=q i p; haveI q3:=q p j
 haveI:=hs.get hL i j; haveI:=hs.get hL p j; haveI:=hs.get hL p p; haveI:=hf.get hL 1 1; haveI:=hf.get hL 0 0; haveI:=hf.get hL 0 1; haveI:=hf.get hL 1 0
 rw [pZ]
 split
 ·exact (kW (inferInstance:an (gm s p p - gm f 0 0) (L + L + 1)) e hd).le zo
 ·split
  ·exact (inferInstance:an (_ * _) ((16 * L + 17) + L + 1)).le zo
  ·split
   ·exact (inferInstance:an (_ * _) (L + (16 * L + 17) + 1)).le zo
   ·exact (inferInstance:an (_ - _ * (_ * _)) (L + ((16 * L + 17) + (L + L + 1) + 1) + 1)).le zo
theorem qT {s f:List (List Qi)} {p n L:Nat} (hs:aL s L) (hf:aL f L) (hL:1 ≤ L) (hd:er s f p ≠ Qi.zero):aL (ja s f p n) (20 * L + 20):=aL.tab fun i j _ _=>vK hs hf hL hd
theorem wS {s f:List (List Qi)} {p n L:Nat} (hs:aL s L) (hf:aL f L) (hL:1 ≤ L) (hd:i9 s f p ≠ Qi.zero):aL (iD s f p n) (40 * L + 40):=aL.tab fun i j _ _=>zZ hs hf hL hd
theorem i5 {n i:Nat} {f:Nat → Qi} (h:i < n):((tab n f).map ab)[i]? = some (ab (f i)):=by rw [List.getElem?_map,aS h]; rfl
theorem xi {z:List Qi} {s f:List (List Qi)} {p i j L:Nat} (hs:bM s z.length z.length) (hp:p < z.length) (hi:i < z.length) (hj:j < z.length) (hz:z.length ≤ 1000) (hfs:aL s L) (hff:aL f L) (hL:1 ≤ L) (hLb:L ≤ 10000) (hd:er s f p ≠ Qi.zero):aw Tryz.prog 111 [NT .i64 i,NT .i64 j,PT (NT .i64 p),PT (ab (gm f 0 0)),PT (ab (gm f 0 1)),PT (ab (gm f 1 0)),PT (av (tab z.length fun j=>gm s p j / er s f p)),PT (av (tab z.length fun i=>gm s i p / er s f p)),PT (aM z s),PT (ab (gm f 1 1))] (ab (gI s f p i j)):=by
 have hsl:=hs.1
 have hsi:=hs.row hi
 have hsp:=hs.row hp
 haveI e:=oP (p:=p) hfs hff hL
 have q:∀ a b,an (gm s a b / er s f p) (7 * L + 11):=fun a b=>(kW (hfs.get hL a b) e hd).le zo
 have hU:∀ k,k < z.length → (tab z.length fun i=>gm s i p / er s f p).getD k Qi.zero = gm s k p / er s f p:=fun k h=>pz h
 have hV:∀ k,k < z.length → (tab z.length fun j=>gm s p j / er s f p).getD k Qi.zero = gm s p k / er s f p:=fun k h=>pz h
 haveI:=q p p; haveI:=q i p; haveI:=q p j
 haveI:=hfs.get hL i j; haveI:=hfs.get hL p j; haveI:=hff.get hL 1 1; haveI:=hff.get hL 0 0; haveI:=hff.get hL 0 1; haveI:=hff.get hL 1 0
 refine aw.intro Tryz.func111 rfl Tryz.ntmps111 rfl (fun cx=>(ts (rn rfl (eG (Ts:=[Is (.bool false),Is (.slice none 0 0),Is (.bool false),Is (.slice none 0 0),Is (.slice none 0 0)]) O_51 rfl (fun V=>aW zd (aW zd (aW zd (aW zd (aW zd (aG))))))) fun B12=>(eZ (cK (eK (ts (rm rfl (ro rfl (dV A_3 Z_3 (Ht rfl)) (ro rfl (aO (Ht rfl) (Ht rfl)) (rm rfl (fX rfl rfl (eU rfl rfl (Ht rfl) (fun h=>cX (Ht rfl))) ?_))))))))))))
 refine fX rfl rfl (eU rfl rfl (Ht rfl) (fun h=>dV A_3 Z_3 (Ht rfl))) (fX rfl rfl (eU rfl rfl (Ht rfl) (fun h=>aO (fW rfl h) (fW rfl h))) (ro rfl (bx (Ht rfl) (fun h=>(fW rfl h))) (ra rfl (eZ (dQ (Ht rfl) (fun hb1=>?_) (fun hb1=>?_))))))
 ·have h2 : i = p ∧ j = p := by simpa using hb1
  refine cK (fV (m:=12) (dp 3 rfl (dV A_51 Z_51 (Ht rfl)) (dq 22 0 rfl (ay aF (Ht rfl)) (dp 4 rfl (dV A_51 Z_51 (Ht rfl)) (dq 24 2 rfl (ay aF (Ht rfl)) (dp 5 rfl (dV A_51 Z_51 (Ht rfl)) (dq 26 4 rfl (ay aF (Ht rfl)) (dp 6 rfl (dV A_29 Z_29 (Ht rfl)) (dp 2 rfl (dV A_3 Z_3 (Ht rfl)) (bv 28 6 29 7 rfl (dZ U_29 Z_51 (Ht rfl) (Ht rfl) rfl (i5 hp)) (dq 30 8 rfl (dV A_51 Z_51 (Ht rfl)) (bv 27 5 31 9 rfl (ap b7 K_45 (eS (x:=gm f 1 0) (y:=gm s p p / er s f p) (L:=L) (M:=(7 * L + 11)) zo) (Ht rfl) ⟨(Ht rfl),trivial⟩) ?_))))))))))))
  refine bv 25 3 32 10 rfl (ap b7 K_45 (eS (x:=gm f 0 1) (y:=gm f 1 0 * (gm s p p / er s f p)) (L:=L) (M:=L + (7 * L + 11) + 1) zo) (Ht rfl) ⟨(Ht rfl),trivial⟩) (fG aA rfl (by kernel_rfl) (zF (zF (zF (aV (ro rfl (ap fd K_46 (n8 (x:=gm f 0 0) (y:=gm f 0 1 * (gm f 1 0 * (gm s p p / er s f p))) (L:=L) (M:=L + (L + (7 * L + 11) + 1) + 1) zo) (Ht rfl) ⟨(Ht rfl),trivial⟩) (gJ Z_51 (Ht rfl) (Ht rfl) rfl (i:=0) rfl (aK rfl) rfl rfl ?_)))))))
  refine eZ (fK rfl (fJ (fY A_51 Z_51 rfl (i:=0) rfl rfl) ?_))
  exact (cv (by rw [gI,if_pos h2]))
 ·have h2 : ¬ (i = p ∧ j = p) := by simpa using hb1
  refine ts (rm rfl (ro rfl (dV A_3 Z_3 (Ht rfl)) (ro rfl (aO (Ht rfl) (Ht rfl)) (ra rfl (eZ (dQ (Ht rfl) (fun hb2=>?_) (fun hb2=>?_)))))))
  ·have h3 : j = p := by simpa using hb2
   refine cK (fV (m:=6) (dp 7 rfl (dV A_29 Z_29 (Ht rfl)) (dp 0 rfl (cX (Ht rfl)) (bv 39 0 40 1 rfl (dZ U_29 Z_51 (Ht rfl) (Ht rfl) rfl (i5 hi)) (dq 41 2 rfl (dV A_51 Z_51 (Ht rfl)) (dq 42 3 rfl (ay aF (Ht rfl)) (dp 5 rfl (dV A_51 Z_51 (Ht rfl)) (fG aA rfl (by kernel_rfl) (zF (aJ (aJ (aV (ro rfl (ap b7 K_45 (eS (x:=gm s i p / er s f p) (y:=gm f 1 0) (L:=(7 * L + 11)) (M:=L) zo) (Ht rfl) ⟨(Ht rfl),trivial⟩) ?_)))))))))))))
   refine gJ Z_51 (Ht rfl) (Ht rfl) rfl (i:=0) rfl (aK rfl) rfl rfl (eZ (fK rfl (fJ (fY A_51 Z_51 rfl (i:=0) rfl rfl) ?_)))
   exact (cv (by rw [gI,if_neg h2,if_pos h3]))
  ·have h3 : ¬ j = p := by simpa using hb2
   refine ts (rm rfl (ro rfl (dV A_3 Z_3 (Ht rfl)) (ro rfl (aO (Ht rfl) (Ht rfl)) (ra rfl (eZ (dQ (Ht rfl) (fun hb3=>?_) (fun hb3=>?_)))))))
   ·have h4 : i = p := by simpa using hb3
    refine cK (fV (m:=6) (dp 4 rfl (dV A_51 Z_51 (Ht rfl)) (dq 50 0 rfl (ay aF (Ht rfl)) (dp 6 rfl (dV A_29 Z_29 (Ht rfl)) (dp 1 rfl (cX (Ht rfl)) (bv 52 2 53 3 rfl (dZ U_29 Z_51 (Ht rfl) (Ht rfl) rfl (i5 hj)) (dq 54 4 rfl (dV A_51 Z_51 (Ht rfl)) (fG aA rfl (by kernel_rfl) (zF (aJ (aJ (aV (ro rfl (ap b7 K_45 (eS (x:=gm f 0 1) (y:=gm s p j / er s f p) (L:=L) (M:=(7 * L + 11)) zo) (Ht rfl) ⟨(Ht rfl),trivial⟩) ?_)))))))))))))
    refine gJ Z_51 (Ht rfl) (Ht rfl) rfl (i:=0) rfl (aK rfl) rfl rfl (eZ (fK rfl (fJ (fY A_51 Z_51 rfl (i:=0) rfl rfl) ?_)))
    exact (cv (by rw [gI,if_neg h2,if_neg h3,if_pos h4]))
   ·have h4 : ¬ i = p := by simpa using hb3
    refine cU (aB (cK (fV (m:=26) (dp 8 rfl (dB bn (Ht rfl) rfl) (dq 57 0 rfl (dV A_30 Z_30 (Ht rfl)) (dp 0 rfl (cX (Ht rfl)) (bv 58 1 59 2 rfl (dZ U_30 Z_29 (Ht rfl) (Ht rfl) rfl (eQ (dY (d:=[]) zo))) (dq 60 3 rfl (dV A_29 Z_29 (Ht rfl)) (dp 1 rfl (cX (Ht rfl)) (bv 61 4 62 5 rfl (dZ U_29 Z_51 (Ht rfl) (Ht rfl) rfl (eQ (dY (d:=Qi.zero) zo))) (dq 63 6 rfl (dV A_51 Z_51 (Ht rfl)) (dq 64 7 rfl (ay aF (Ht rfl)) ?_))))))))))))
    refine dp 7 rfl (dV A_29 Z_29 (Ht rfl)) (dp 0 rfl (cX (Ht rfl)) (bv 66 9 67 10 rfl (dZ U_29 Z_51 (Ht rfl) (Ht rfl) rfl (i5 hi)) (dq 68 11 rfl (dV A_51 Z_51 (Ht rfl)) (dq 69 12 rfl (ay aF (Ht rfl)) (dp 9 rfl (dV A_51 Z_51 (Ht rfl)) (dq 71 14 rfl (ay aF (Ht rfl)) (dp 8 rfl (dB bn (Ht rfl) rfl) (dq 73 16 rfl (dV A_30 Z_30 (Ht rfl)) (dp 2 rfl (dV A_3 Z_3 (Ht rfl)) (bv 74 17 75 18 rfl (dZ U_30 Z_29 (Ht rfl) (Ht rfl) rfl (eQ (dY (d:=[]) zo))) ?_))))))))))
    refine dq 76 19 rfl (dV A_29 Z_29 (Ht rfl)) (dp 1 rfl (cX (Ht rfl)) (bv 77 20 78 21 rfl (dZ U_29 Z_51 (Ht rfl) (Ht rfl) rfl (eQ (dY (d:=Qi.zero) zo))) (dq 79 22 rfl (dV A_51 Z_51 (Ht rfl)) (bv 72 15 80 23 rfl (ap b7 K_45 (eS (x:=gm f 1 1) (y:=gm s p j) (L:=L) (M:=L) zo) (Ht rfl) ⟨(Ht rfl),trivial⟩) (bv 70 13 81 24 rfl (ap b7 K_45 (eS (x:=gm s i p / er s f p) (y:=gm f 1 1 * gm s p j) (L:=(7 * L + 11)) (M:=L + L + 1) zo) (Ht rfl) ⟨(Ht rfl),trivial⟩) ?_)))))
    refine fG aA rfl (by kernel_rfl) (zF (zF (zF (zF (zF (zF (aJ (aJ (aV (ro rfl (ap fd K_46 (n8 (x:=gm s i j) (y:=gm s i p / er s f p * (gm f 1 1 * gm s p j)) (L:=L) (M:=(7 * L + 11) + (L + L + 1) + 1) zo) (Ht rfl) ⟨(Ht rfl),trivial⟩) (gJ Z_51 (Ht rfl) (Ht rfl) rfl (i:=0) rfl (aK rfl) rfl rfl ?_)))))))))))
    refine eZ (fK rfl (fJ (fY A_51 Z_51 rfl (i:=0) rfl rfl) ?_))
    exact (cv (by rw [gI,if_neg h2,if_neg h3,if_neg h4]))
theorem uC {z:List Qi} {s f:List (List Qi)} {p i j L:Nat} (hs:bM s z.length z.length) (hp:p < z.length) (hi:i < z.length) (hj:j < z.length) (hz:z.length ≤ 1000) (hfs:aL s L) (hff:aL f L) (hL:1 ≤ L) (hLb:L ≤ 10000) (hd:i9 s f p ≠ Qi.zero):aw Tryz.prog 112 [NT .i64 i,NT .i64 j,PT (NT .i64 p),PT (ab ((gm s p p - gm f 0 0) / i9 s f p)),PT (av (tab z.length fun i=>gm s i p / i9 s f p)),PT (ab (gm f 0 1)),PT (ab (gm f 1 0)),PT (av (tab z.length fun j=>gm s p j / i9 s f p)),PT (aM z s),PT (ab (gm f 1 1))] (ab (pZ s f p i j)):=by
 have hsl:=hs.1
 have hsi:=hs.row hi
 have hsp:=hs.row hp
 haveI e:=oT (p:=p) hfs hff hL
 have q:∀ a b,an (gm s a b / i9 s f p) (16 * L + 17):=fun a b=>(kW (hfs.get hL a b) e hd).le zo
 have hU:∀ k,k < z.length → (tab z.length fun i=>gm s i p / i9 s f p).getD k Qi.zero = gm s k p / i9 s f p:=fun k h=>pz h
 have hV:∀ k,k < z.length → (tab z.length fun j=>gm s p j / i9 s f p).getD k Qi.zero = gm s p k / i9 s f p:=fun k h=>pz h
 haveI:=q p p; haveI:=q i p; haveI:=q p j
 haveI:=hfs.get hL i j; haveI:=hfs.get hL p j; haveI:=hff.get hL 1 1; haveI:=hff.get hL 0 0; haveI:=hff.get hL 0 1; haveI:=hff.get hL 1 0
 refine aw.intro Tryz.func112 rfl Tryz.ntmps112 rfl (fun cx=>(ts (rn rfl (eG (Ts:=[Is (.bool false),Is (.slice none 0 0),Is (.bool false),Is (.slice none 0 0),Is (.slice none 0 0)]) O_51 rfl (fun V=>aW zd (aW zd (aW zd (aW zd (aW zd (aG))))))) fun B12=>(eZ (cK (eK (ts (rm rfl (ro rfl (dV A_3 Z_3 (Ht rfl)) (ro rfl (aO (Ht rfl) (Ht rfl)) (rm rfl (fX rfl rfl (eU rfl rfl (Ht rfl) (fun h=>cX (Ht rfl))) ?_))))))))))))
 refine fX rfl rfl (eU rfl rfl (Ht rfl) (fun h=>dV A_3 Z_3 (Ht rfl))) (fX rfl rfl (eU rfl rfl (Ht rfl) (fun h=>aO (fW rfl h) (fW rfl h))) (ro rfl (bx (Ht rfl) (fun h=>(fW rfl h))) (ra rfl (eZ (dQ (Ht rfl) (fun hb1=>?_) (fun hb1=>?_))))))
 ·have h2 : i = p ∧ j = p := by simpa using hb1
  refine ts (ro rfl (dV A_51 Z_51 (Ht rfl)) (gJ Z_51 (Ht rfl) (Ht rfl) rfl (i:=0) rfl (aK rfl) rfl rfl (eZ (fK rfl (fJ (fY A_51 Z_51 rfl (i:=0) rfl rfl) ?_)))))
  exact (cv (by rw [pZ,if_pos h2]))
 ·have h2 : ¬ (i = p ∧ j = p) := by simpa using hb1
  refine ts (rm rfl (ro rfl (dV A_3 Z_3 (Ht rfl)) (ro rfl (aO (Ht rfl) (Ht rfl)) (ra rfl (eZ (dQ (Ht rfl) (fun hb2=>?_) (fun hb2=>?_)))))))
  ·have h3 : j = p := by simpa using hb2
   refine cK (fV (m:=6) (dp 4 rfl (dV A_29 Z_29 (Ht rfl)) (dp 0 rfl (cX (Ht rfl)) (bv 27 0 28 1 rfl (dZ U_29 Z_51 (Ht rfl) (Ht rfl) rfl (i5 hi)) (dq 29 2 rfl (dV A_51 Z_51 (Ht rfl)) (dq 30 3 rfl (ay aF (Ht rfl)) (dp 5 rfl (dV A_51 Z_51 (Ht rfl)) (fG aA rfl (by kernel_rfl) (zF (aJ (aJ (aV (ro rfl (ap b7 K_45 (eS (x:=gm s i p / i9 s f p) (y:=gm f 0 1) (L:=(16 * L + 17)) (M:=L) zo) (Ht rfl) ⟨(Ht rfl),trivial⟩) ?_)))))))))))))
   refine gJ Z_51 (Ht rfl) (Ht rfl) rfl (i:=0) rfl (aK rfl) rfl rfl (eZ (fK rfl (fJ (fY A_51 Z_51 rfl (i:=0) rfl rfl) ?_)))
   exact (cv (by rw [pZ,if_neg h2,if_pos h3]))
  ·have h3 : ¬ j = p := by simpa using hb2
   refine ts (rm rfl (ro rfl (dV A_3 Z_3 (Ht rfl)) (ro rfl (aO (Ht rfl) (Ht rfl)) (ra rfl (eZ (dQ (Ht rfl) (fun hb3=>?_) (fun hb3=>?_)))))))
   ·have h4 : i = p := by simpa using hb3
    refine cK (fV (m:=6) (dp 6 rfl (dV A_51 Z_51 (Ht rfl)) (dq 38 0 rfl (ay aF (Ht rfl)) (dp 7 rfl (dV A_29 Z_29 (Ht rfl)) (dp 1 rfl (cX (Ht rfl)) (bv 40 2 41 3 rfl (dZ U_29 Z_51 (Ht rfl) (Ht rfl) rfl (i5 hj)) (dq 42 4 rfl (dV A_51 Z_51 (Ht rfl)) (fG aA rfl (by kernel_rfl) (zF (aJ (aJ (aV (ro rfl (ap b7 K_45 (eS (x:=gm f 1 0) (y:=gm s p j / i9 s f p) (L:=L) (M:=(16 * L + 17)) zo) (Ht rfl) ⟨(Ht rfl),trivial⟩) ?_)))))))))))))
    refine gJ Z_51 (Ht rfl) (Ht rfl) rfl (i:=0) rfl (aK rfl) rfl rfl (eZ (fK rfl (fJ (fY A_51 Z_51 rfl (i:=0) rfl rfl) ?_)))
    exact (cv (by rw [pZ,if_neg h2,if_neg h3,if_pos h4]))
   ·have h4 : ¬ i = p := by simpa using hb3
    refine cU (aB (cK (fV (m:=26) (dp 8 rfl (dB bn (Ht rfl) rfl) (dq 45 0 rfl (dV A_30 Z_30 (Ht rfl)) (dp 0 rfl (cX (Ht rfl)) (bv 46 1 47 2 rfl (dZ U_30 Z_29 (Ht rfl) (Ht rfl) rfl (eQ (dY (d:=[]) zo))) (dq 48 3 rfl (dV A_29 Z_29 (Ht rfl)) (dp 1 rfl (cX (Ht rfl)) (bv 49 4 50 5 rfl (dZ U_29 Z_51 (Ht rfl) (Ht rfl) rfl (eQ (dY (d:=Qi.zero) zo))) (dq 51 6 rfl (dV A_51 Z_51 (Ht rfl)) (dq 52 7 rfl (ay aF (Ht rfl)) ?_))))))))))))
    refine dp 4 rfl (dV A_29 Z_29 (Ht rfl)) (dp 0 rfl (cX (Ht rfl)) (bv 54 9 55 10 rfl (dZ U_29 Z_51 (Ht rfl) (Ht rfl) rfl (i5 hi)) (dq 56 11 rfl (dV A_51 Z_51 (Ht rfl)) (dq 57 12 rfl (ay aF (Ht rfl)) (dp 9 rfl (dV A_51 Z_51 (Ht rfl)) (dq 59 14 rfl (ay aF (Ht rfl)) (dp 8 rfl (dB bn (Ht rfl) rfl) (dq 61 16 rfl (dV A_30 Z_30 (Ht rfl)) (dp 2 rfl (dV A_3 Z_3 (Ht rfl)) (bv 62 17 63 18 rfl (dZ U_30 Z_29 (Ht rfl) (Ht rfl) rfl (eQ (dY (d:=[]) zo))) ?_))))))))))
    refine dq 64 19 rfl (dV A_29 Z_29 (Ht rfl)) (dp 1 rfl (cX (Ht rfl)) (bv 65 20 66 21 rfl (dZ U_29 Z_51 (Ht rfl) (Ht rfl) rfl (eQ (dY (d:=Qi.zero) zo))) (dq 67 22 rfl (dV A_51 Z_51 (Ht rfl)) (bv 60 15 68 23 rfl (ap b7 K_45 (eS (x:=gm f 1 1) (y:=gm s p j) (L:=L) (M:=L) zo) (Ht rfl) ⟨(Ht rfl),trivial⟩) (bv 58 13 69 24 rfl (ap b7 K_45 (eS (x:=gm s i p / i9 s f p) (y:=gm f 1 1 * gm s p j) (L:=(16 * L + 17)) (M:=L + L + 1) zo) (Ht rfl) ⟨(Ht rfl),trivial⟩) ?_)))))
    refine fG aA rfl (by kernel_rfl) (zF (zF (zF (zF (zF (zF (aJ (aJ (aV (ro rfl (ap dv K_44 (kZ (x:=gm s i j) (y:=gm s i p / i9 s f p * (gm f 1 1 * gm s p j)) (L:=L) (M:=(16 * L + 17) + (L + L + 1) + 1) zo) (Ht rfl) ⟨(Ht rfl),trivial⟩) (gJ Z_51 (Ht rfl) (Ht rfl) rfl (i:=0) rfl (aK rfl) rfl rfl ?_)))))))))))
    refine eZ (fK rfl (fJ (fY A_51 Z_51 rfl (i:=0) rfl rfl) ?_))
    exact (cv (by rw [pZ,if_neg h2,if_neg h3,if_neg h4]))
theorem wV {z fz:List Qi} {s f:List (List Qi)} {port:Int} {L:Nat} (hs:bM s z.length z.length) (hz1:1 ≤ z.length) (hz:z.length ≤ 1000) (hfs:aL s L) (hff:aL f L) (hfz:aP z L) (hfg:aP fz L) (hL:1 ≤ L) (hLb:L ≤ 10000) (h2:fz.length ≠ 2):aw Tryz.prog 26 [aM z s,aa .i64 port,aM fz f] (bo [aM (xR z s fz f port) (xS z s fz f port),aa .i64 (pX z s fz f port)]):=by
 have hfx:iW z fz port 2 = 4:=CH h2
 have he:pX z s fz f port = 4:=(Aw (by rw [hfx]; decide)).trans hfx
 have hne:pX z s fz f port ≠ 0:=by rw [he]; decide
 refine aw.intro Tryz.func26 rfl Tryz.ntmps26 rfl (fun cx=>(ts (rn rfl (fU (Ht rfl)) fun B3=>(rn rfl (fU (Ht rfl)) fun B5=>(rn rfl (eG (Ts:=[Is (.slice none 0 0),Is (.slice none 0 0)]) O_32 rfl (fun V=>aW zd (aW zd (aG)))) fun B6=>(ro rfl (cQ (cJ 0)) (eZ (ts (ro rfl (eW A_32 Z_32 (Ht rfl) (i:=0) rfl rfl rfl) (rm rfl (ro rfl (eW A_32 Z_32 (Ht rfl) (i:=1) rfl rfl rfl) (ro rfl (cZ Tryz.call107 (ow (x:=2) h2) ⟨(Ht rfl),(Ht rfl),(Ht rfl),(cJ 2),trivial⟩) ?_))))))))))))
 refine rm rfl (ro rfl (dU (Ht rfl) rfl) (ro rfl (dU (Ht rfl) rfl) (rn rfl (eG (Ts:=[Is (.bool false),Is (.slice none 0 0),Is (.bool false),Is (.slice none 0 0),Is (.slice none 0 0),Is (.bool false),Is (.slice none 0 0),Is (.bool false),Is (.slice none 0 0),Is (.slice none 0 0),Is (.bool false),Is (.slice none 0 0),Is (.bool false),Is (.slice none 0 0),Is (.slice none 0 0),Is (.bool false),Is (.slice none 0 0),Is (.bool false),Is (.slice none 0 0),Is (.slice none 0 0)]) O_163 rfl (fun V=>aW zd (aW zd (aW zd (aW zd (aW zd (aW zd (aW zd (aW zd (aW zd (aW zd (aW zd (aW zd (aW zd (aW zd (aW zd (aW zd (aW zd (aW zd (aW zd (aW zd (aG)))))))))))))))))))))) fun B8=>?_)))
 refine gJ Z_163 (Ht rfl) (Ht rfl) rfl (i:=3) rfl (aK rfl) rfl rfl (ra rfl (eZ (cK (ts (rm rfl (ro rfl (bT (Ht rfl) cV) (eZ (gN (Ht rfl) (by rfl) ?_))))))))
 refine ts (ro rfl (ae.imp (d9 ) da) (rm rfl (gJ Z_32 (Ht rfl) (Ht rfl) rfl (i:=2) rfl (aK rfl) rfl rfl (ra rfl (eZ (aC rfl (fJ (fY A_32 Z_32 rfl (i:=2) rfl rfl) ?_) (fJ (eY rfl) ?_)))))))
 ·exact (fun v V h=>by rw [xR,xS,cL,cL,if_neg hne,if_neg hne]; exact h)
 ·exact (am he.symm)
theorem wq {z fz:List Qi} {s f:List (List Qi)} {port:Int} {L:Nat} (hs:bM s z.length z.length) (hz1:1 ≤ z.length) (hz:z.length ≤ 1000) (hfs:aL s L) (hff:aL f L) (hfz:aP z L) (hfg:aP fz L) (hL:1 ≤ L) (hLb:L ≤ 10000) (h2:fz.length = 2) (hf:bM f 2 2):aw Tryz.prog 26 [aM z s,aa .i64 port,aM fz f] (bo [aM (xR z s fz f port) (xS z s fz f port),aa .i64 (pX z s fz f port)]):=by
 have hsl:=hs.1
 haveI h1f:=gr
 refine aw.intro Tryz.func26 rfl Tryz.ntmps26 rfl (fun cx=>(ts (rn rfl (fU (Ht rfl)) fun B3=>(rn rfl (fU (Ht rfl)) fun B5=>(rn rfl (eG (Ts:=[Is (.slice none 0 0),Is (.slice none 0 0)]) O_32 rfl (fun V=>aW zd (aW zd (aG)))) fun B6=>(ro rfl (cQ (cJ 0)) (eZ (ts (ro rfl (eW A_32 Z_32 (Ht rfl) (i:=0) rfl rfl rfl) (rm rfl (ro rfl (eW A_32 Z_32 (Ht rfl) (i:=1) rfl rfl rfl) (ro rfl (cZ Tryz.call107 (oL (x:=2) (L:=L) h2 hf (by decide) hfz hfg hL zo hz) ⟨(Ht rfl),(Ht rfl),(Ht rfl),(cJ 2),trivial⟩) ?_))))))))))))
 refine rm rfl (ro rfl (dU (Ht rfl) rfl) (ro rfl (dU (Ht rfl) rfl) (rn rfl (eG (Ts:=[Is (.bool false),Is (.slice none 0 0),Is (.bool false),Is (.slice none 0 0),Is (.slice none 0 0),Is (.bool false),Is (.slice none 0 0),Is (.bool false),Is (.slice none 0 0),Is (.slice none 0 0),Is (.bool false),Is (.slice none 0 0),Is (.bool false),Is (.slice none 0 0),Is (.slice none 0 0),Is (.bool false),Is (.slice none 0 0),Is (.bool false),Is (.slice none 0 0),Is (.slice none 0 0)]) O_163 rfl (fun V=>aW zd (aW zd (aW zd (aW zd (aW zd (aW zd (aW zd (aW zd (aW zd (aW zd (aW zd (aW zd (aW zd (aW zd (aW zd (aW zd (aW zd (aW zd (aW zd (aW zd (aG)))))))))))))))))))))) fun B8=>?_)))
 refine gJ Z_163 (Ht rfl) (Ht rfl) rfl (i:=3) rfl (aK rfl) rfl rfl (ra rfl (eZ (cK (ts (rm rfl (ro rfl (bT (Ht rfl) cV) (eZ (dQ (Ht rfl) (fun hc=>?_) (fun hc=>?_)))))))))
 ·have hfx : iW z fz port 2 ≠ 0 := by simpa using hc
  have he:pX z s fz f port = iW z fz port 2:=Aw hfx
  have hne:pX z s fz f port ≠ 0:=by rw [he]; exact hfx
  refine ts (ro rfl (ae.imp (d9 ) da) (rm rfl (gJ Z_32 (Ht rfl) (Ht rfl) rfl (i:=2) rfl (aK rfl) rfl rfl (ra rfl (eZ (aC rfl (fJ (fY A_32 Z_32 rfl (i:=2) rfl rfl) ?_) (fJ (eY rfl) ?_)))))))
  ·exact (fun v V h=>by rw [xR,xS,cL,cL,if_neg hne,if_neg hne]; exact h)
  ·exact (am he.symm)
 ·have hfx : iW z fz port 2 = 0 := by simpa using hc
  obtain ⟨_,hb2,hzz⟩:=Ao hfx
  obtain ⟨p,hp⟩:∃ p,p = (port - 1).toNat:=⟨_,rfl⟩
  have hpe:port - 1 = (p:Int):=by omega
  have hpl:p < z.length:=by omega
  have hspr:=hs.row hpl
  haveI:=hfs.get hL p p; haveI:=hff.get hL 1 1; haveI:=hff.get hL 0 0; haveI:=hff.get hL 0 1; haveI:=hff.get hL 1 0
  refine cU (cK (Y.D_start (m:=23) [] (bY (Ei:=[(8,_)]) rfl rfl (bQ (bJ rfl rfl) bX) rfl rfl (dX rfl (cE U_163 Z_162 (Ht rfl) (cJ 0) rfl (by decide) rfl)) (bY (Ei:=[(28,_)]) rfl rfl (bQ (bZ 0 rfl rfl) bX) rfl rfl (dX rfl (cE U_162 Z_51 (Ht rfl) (cJ 0) rfl (by decide) rfl)) (bY (Ei:=[(29,_)]) rfl rfl (bQ (bZ 1 rfl rfl) bX) rfl rfl (dX rfl (eW A_51 Z_51 (Ht rfl) (i:=3) rfl rfl rfl)) ?_)))))
  refine bY (Ei:=[(8,_)]) rfl rfl (bQ (bJ rfl rfl) bX) rfl rfl (dX rfl (cE U_163 Z_162 (Ht rfl) (cJ 0) rfl (by decide) rfl)) (bY (Ei:=[(31,_)]) rfl rfl (bQ (bZ 3 rfl rfl) bX) rfl rfl (dX rfl (cE U_162 Z_51 (Ht rfl) (cJ 1) rfl (by decide) rfl)) (bY (Ei:=[(32,_)]) rfl rfl (bQ (bZ 4 rfl rfl) bX) rfl rfl (dX rfl (eW A_51 Z_51 (Ht rfl) (i:=3) rfl rfl rfl)) (bY (Ei:=[(8,_)]) rfl rfl (bQ (bJ rfl rfl) bX) rfl rfl (dX rfl (cE U_163 Z_162 (Ht rfl) (cJ 1) rfl (by decide) rfl)) ?_)))
  refine bY (Ei:=[(34,_)]) rfl rfl (bQ (bZ 6 rfl rfl) bX) rfl rfl (dX rfl (cE U_162 Z_51 (Ht rfl) (cJ 0) rfl (by decide) rfl)) (bY (Ei:=[(35,_)]) rfl rfl (bQ (bZ 7 rfl rfl) bX) rfl rfl (dX rfl (eW A_51 Z_51 (Ht rfl) (i:=3) rfl rfl rfl)) (bY (Ei:=[(8,_)]) rfl rfl (bQ (bJ rfl rfl) bX) rfl rfl (dX rfl (cE U_163 Z_162 (Ht rfl) (cJ 1) rfl (by decide) rfl)) (bY (Ei:=[(37,_)]) rfl rfl (bQ (bZ 9 rfl rfl) bX) rfl rfl (dX rfl (cE U_162 Z_51 (Ht rfl) (cJ 1) rfl (by decide) rfl)) ?_)))
  refine bY (Ei:=[(38,_)]) rfl rfl (bQ (bZ 10 rfl rfl) bX) rfl rfl (dX rfl (eW A_51 Z_51 (Ht rfl) (i:=3) rfl rfl rfl)) (bY (Ei:=[(1,_)]) rfl rfl (bQ (bJ rfl rfl) bX) rfl rfl (dX rfl (cX (Ht rfl))) (bY (Ei:=[(40,_)]) rfl rfl (bQ (bZ 12 rfl rfl) bX) rfl rfl (dX rfl (cq (Ht rfl) cV (r:=((p:Nat):Int)) ((kq (z:=port - 1) zo).trans zo))) ?_))
  refine Y.D_newp (Ei:=[]) (fun bb=>box bb 51 (nb (gm f 0 0))) 19 rfl rfl rfl bX rfl rfl (by kernel_rfl) (eG (Ts:=[Is (.bool false),Is (.slice none 0 0),Is (.bool false),Is (.slice none 0 0),Is (.slice none 0 0)]) O_51 rfl (fun V=>aW zd (aW zd (aW zd (aW zd (aW zd (aG))))))) (Y.D_newp (Ei:=[]) (fun bb=>box bb 51 (nb (gm f 0 1))) 20 rfl rfl rfl bX rfl rfl (by kernel_rfl) (eG (Ts:=[Is (.bool false),Is (.slice none 0 0),Is (.bool false),Is (.slice none 0 0),Is (.slice none 0 0)]) O_51 rfl (fun V=>aW zd (aW zd (aW zd (aW zd (aW zd (aG))))))) ?_)
  refine Y.D_newp (Ei:=[]) (fun bb=>box bb 51 (nb (gm f 1 0))) 21 rfl rfl rfl bX rfl rfl (by kernel_rfl) (eG (Ts:=[Is (.bool false),Is (.slice none 0 0),Is (.bool false),Is (.slice none 0 0),Is (.slice none 0 0)]) O_51 rfl (fun V=>aW zd (aW zd (aW zd (aW zd (aW zd (aG))))))) (Y.D_newp (Ei:=[]) (fun bb=>box bb 51 (nb (gm f 1 1))) 22 rfl rfl rfl bX rfl rfl (by kernel_rfl) (eG (Ts:=[Is (.bool false),Is (.slice none 0 0),Is (.bool false),Is (.slice none 0 0),Is (.slice none 0 0)]) O_51 rfl (fun V=>aW zd (aW zd (aW zd (aW zd (aW zd (aG))))))) ?_)
  refine Y.D_new (Ei:=[]) rfl rfl rfl bX rfl rfl (eG (Ts:=[Is (.int .i64 0)]) O_3 rfl (fun V=>aW zd (aG))) (Y.D_putN (Ei:=[(30,_)]) 14 rfl rfl rfl rfl rfl rfl (bQ (bZ 2 rfl rfl) bX) (fun bb=>ft Z_51 (Ht rfl) (Ht rfl) rfl (i:=0) rfl (aK rfl) rfl rfl) (Y.D_putN (Ei:=[(33,_)]) 15 rfl rfl rfl rfl rfl rfl (bQ (bZ 5 rfl rfl) bX) (fun bb=>ft Z_51 (Ht rfl) (Ht rfl) rfl (i:=0) rfl (aK rfl) rfl rfl) (Y.D_putN (Ei:=[(36,_)]) 16 rfl rfl rfl rfl rfl rfl (bQ (bZ 8 rfl rfl) bX) (fun bb=>ft Z_51 (Ht rfl) (Ht rfl) rfl (i:=0) rfl (aK rfl) rfl rfl) ?_)))
  refine Y.D_putN (Ei:=[(39,_)]) 17 rfl rfl rfl rfl rfl rfl (bQ (bZ 11 rfl rfl) bX) (fun bb=>ft Z_51 (Ht rfl) (Ht rfl) rfl (i:=0) rfl (aK rfl) rfl rfl) (Y.D_done aA rfl (by kernel_rfl) rfl (by simp [Y.okP]) rfl rfl (bU (bU (bU (bU (bU (bU (bU (bU (bU (bU (bU (bU (bU (bU (Y.F_newp (fun B10=>Y.F_newp (fun B11=>Y.F_newp (fun B12=>Y.F_newp (fun B13=>Y.F_new (fun B14=>Y.F_putN (Y.F_putN (Y.F_putN (Y.F_putN (Y.F_nil ?_)))))))))))))))))))))))))
  refine dI Z_3 (Ht rfl) (Ht rfl) (i:=8) rfl (aK rfl) rfl (eZ (cK (gG (i:=4) (tt:=10) rfl rfl cf (gG (i:=5) (tt:=11) rfl rfl cf (gG (i:=6) (tt:=12) rfl rfl cf (gG (i:=7) (tt:=13) rfl rfl cf (gG (i:=8) (tt:=14) rfl rfl cC (gG (i:=0) (tt:=3) rfl rfl cf (aD [1,2] rfl (by decide) ?_)))))))))
  have hDf:=oP (p:=p) hfs hff hL
  by_cases hD:er s f p = Qi.zero
  ·refine Y.D_start (m := 25) [] (bY (Ei := [(3, _)]) rfl rfl (bQ (bJ rfl rfl) bX) rfl rfl (dX rfl (dV A_32 Z_32 (Ht rfl))) (bY (Ei := [(14, _)]) rfl rfl (bQ (bJ rfl rfl) bX) rfl rfl (dX rfl (dV A_3 Z_3 (Ht rfl))) (bY (Ei := []) rfl rfl bX rfl rfl (dX rfl (cZ K_109 (jT (n := 1) (by decide) (by decide)) ⟨(cJ 1), trivial⟩)) (bY (Ei := [(45, _)]) rfl rfl (bQ (bZ 2 rfl rfl) bX) rfl rfl (dX rfl (ay aF (Ht rfl))) ?_))))
   refine bY (Ei:=[(13,_)]) rfl rfl (bQ (bJ rfl rfl) bX) rfl rfl (dX rfl (dV A_51 Z_51 (Ht rfl))) (bY (Ei:=[(47,_)]) rfl rfl (bQ (bZ 4 rfl rfl) bX) rfl rfl (dX rfl (ay aF (Ht rfl))) (bY (Ei:=[(3,_)]) rfl rfl (bQ (bJ rfl rfl) bX) rfl rfl (dX rfl (dB bn (Ht rfl) rfl)) (bY (Ei:=[(49,_)]) rfl rfl (bQ (bZ 6 rfl rfl) bX) rfl rfl (dX rfl (dV A_30 Z_30 (Ht rfl))) (bY (Ei:=[(14,_)]) rfl rfl (bQ (bJ rfl rfl) bX) rfl rfl (dX rfl (dV A_3 Z_3 (Ht rfl))) ?_))))
   refine bY (Ei:=[(50,_),(51,_)]) rfl rfl (bQ (bZ 7 rfl rfl) (bQ (bZ 8 rfl rfl) bX)) rfl rfl (dX rfl (dZ U_30 Z_29 (Ht rfl) (Ht rfl) rfl (eQ (dY (d:=[]) zo)))) (bY (Ei:=[(52,_)]) rfl rfl (bQ (bZ 9 rfl rfl) bX) rfl rfl (dX rfl (dV A_29 Z_29 (Ht rfl))) (bY (Ei:=[(14,_)]) rfl rfl (bQ (bJ rfl rfl) bX) rfl rfl (dX rfl (dV A_3 Z_3 (Ht rfl))) (bY (Ei:=[(53,_),(54,_)]) rfl rfl (bQ (bZ 10 rfl rfl) (bQ (bZ 11 rfl rfl) bX)) rfl rfl (dX rfl (dZ U_29 Z_51 (Ht rfl) (Ht rfl) rfl (eQ (dY (d:=Qi.zero) zo)))) ?_)))
   refine bY (Ei:=[(55,_)]) rfl rfl (bQ (bZ 12 rfl rfl) bX) rfl rfl (dX rfl (dV A_51 Z_51 (Ht rfl))) (bY (Ei:=[(48,_),(56,_)]) rfl rfl (bQ (bZ 5 rfl rfl) (bQ (bZ 13 rfl rfl) bX)) rfl rfl (dX rfl (ap b7 K_45 (eS (x:=gm f 1 1) (y:=gm s p p) (L:=L) (M:=L) zo) (Ht rfl) ⟨(Ht rfl),trivial⟩)) (bY (Ei:=[(46,_),(57,_)]) rfl rfl (bQ (bZ 3 rfl rfl) (bQ (bZ 14 rfl rfl) bX)) rfl rfl (dX rfl (ap dv K_44 (kZ (x:=Qi.ofInt 1) (y:=gm f 1 1 * gm s p p) (L:=1) (M:=L + L + 1) zo) (Ht rfl) ⟨(Ht rfl),trivial⟩)) ?_))
   refine bY (Ei:=[(43,_),(44,_),(58,_)]) rfl rfl (bQ (bZ 0 rfl rfl) (bQ (bZ 1 rfl rfl) (bQ (bZ 15 rfl rfl) bX))) rfl rfl (dX rfl (cZ Tryz.call108 (o5 (z:=z) (s:=s) (p:=p) (e:=er s f p) (L:=L) (M:=2 * L + 3) hs hpl hz hfs hDf hL zo hD) ⟨(Ht rfl),(Ht rfl),(Ht rfl),trivial⟩)) (bY (Ei:=[(59,_)]) rfl rfl (bQ (bZ 16 rfl rfl) bX) rfl rfl (dX rfl (cX (Ht rfl))) (bY (Ei:=[(42,_)]) rfl rfl (bQ (bZ 17 rfl rfl) bX) rfl rfl (dX rfl (dU (Ht rfl) rfl)) ?_))
   refine bY (Ei:=[(42,_)]) rfl rfl (bQ (bZ 17 rfl rfl) bX) rfl rfl (dX rfl (dU (Ht rfl) rfl)) (bY (Ei:=[(42,_)]) rfl rfl (bQ (bZ 17 rfl rfl) bX) rfl rfl (dX rfl (dU (Ht rfl) rfl)) (Y.D_newp (Ei:=[]) (fun bb=>box bb 29 [av []]) 23 rfl rfl rfl bX rfl rfl (by kernel_rfl) (eG (Ts:=[Is (.slice none 0 0)]) O_29 rfl (fun V=>aW zd (aG))) (Y.D_newp (Ei:=[]) (fun bb=>box bb 29 [av []]) 24 rfl rfl rfl bX rfl rfl (by kernel_rfl) (eG (Ts:=[Is (.slice none 0 0)]) O_29 rfl (fun V=>aW zd (aG))) ?_)))
   refine Y.D_putN (Ei:=[(60,_)]) 21 rfl rfl rfl rfl rfl rfl (bQ (bZ 18 rfl rfl) bX) (fun bb=>qe Z_29 (Ht rfl) (Ht rfl) (i:=0) rfl (aK rfl) rfl rfl) (Y.D_putN (Ei:=[(61,_)]) 22 rfl rfl rfl rfl rfl rfl (bQ (bZ 19 rfl rfl) bX) (fun bb=>qe Z_29 (Ht rfl) (Ht rfl) (i:=0) rfl (aK rfl) rfl rfl) (Y.D_done aA rfl (by kernel_rfl) rfl (by simp [Y.okP]) rfl rfl (bU (bU (bU (bU (bU (bU (bU (bU (bU (bU (bU (bU (bU (bU (bU (bU (bU (bU (bU (bU (bU (Y.F_newp (fun B15=>Y.F_newp (fun B16=>Y.F_putN (Y.F_putN (Y.F_nil ?_))))))))))))))))))))))))))))
   refine ra rfl (eZ (cK (cK ?_)))
   have he:pX z s fz f port = 6:=AF hfx (by rw [← hp]; exact hD)
   have hne:pX z s fz f port ≠ 0:=by rw [he]; decide
   refine cY (rm rfl (ro rfl (bT (Ht rfl) cV) (eZ (gN (Ht rfl) (by rfl) ?_))))
   refine ts (ro rfl (ae.imp (d9 ) da) (rm rfl (gJ Z_32 (Ht rfl) (Ht rfl) rfl (i:=1) rfl (aK rfl) rfl rfl (ra rfl (eZ (aC rfl (fJ (fY A_32 Z_32 rfl (i:=1) rfl rfl) ?_) (fJ (eY rfl) ?_)))))))
   ·exact (fun v V h=>by rw [xR,xS,cL,cL,if_neg hne,if_neg hne]; exact h)
   ·exact (am he.symm)
  ·refine Y.D_start (m := 25) [] (bY (Ei := [(3, _)]) rfl rfl (bQ (bJ rfl rfl) bX) rfl rfl (dX rfl (dV A_32 Z_32 (Ht rfl))) (bY (Ei := [(14, _)]) rfl rfl (bQ (bJ rfl rfl) bX) rfl rfl (dX rfl (dV A_3 Z_3 (Ht rfl))) (bY (Ei := []) rfl rfl bX rfl rfl (dX rfl (cZ K_109 (jT (n := 1) (by decide) (by decide)) ⟨(cJ 1), trivial⟩)) (bY (Ei := [(45, _)]) rfl rfl (bQ (bZ 2 rfl rfl) bX) rfl rfl (dX rfl (ay aF (Ht rfl))) ?_))))
   refine bY (Ei:=[(13,_)]) rfl rfl (bQ (bJ rfl rfl) bX) rfl rfl (dX rfl (dV A_51 Z_51 (Ht rfl))) (bY (Ei:=[(47,_)]) rfl rfl (bQ (bZ 4 rfl rfl) bX) rfl rfl (dX rfl (ay aF (Ht rfl))) (bY (Ei:=[(3,_)]) rfl rfl (bQ (bJ rfl rfl) bX) rfl rfl (dX rfl (dB bn (Ht rfl) rfl)) (bY (Ei:=[(49,_)]) rfl rfl (bQ (bZ 6 rfl rfl) bX) rfl rfl (dX rfl (dV A_30 Z_30 (Ht rfl))) (bY (Ei:=[(14,_)]) rfl rfl (bQ (bJ rfl rfl) bX) rfl rfl (dX rfl (dV A_3 Z_3 (Ht rfl))) ?_))))
   refine bY (Ei:=[(50,_),(51,_)]) rfl rfl (bQ (bZ 7 rfl rfl) (bQ (bZ 8 rfl rfl) bX)) rfl rfl (dX rfl (dZ U_30 Z_29 (Ht rfl) (Ht rfl) rfl (eQ (dY (d:=[]) zo)))) (bY (Ei:=[(52,_)]) rfl rfl (bQ (bZ 9 rfl rfl) bX) rfl rfl (dX rfl (dV A_29 Z_29 (Ht rfl))) (bY (Ei:=[(14,_)]) rfl rfl (bQ (bJ rfl rfl) bX) rfl rfl (dX rfl (dV A_3 Z_3 (Ht rfl))) (bY (Ei:=[(53,_),(54,_)]) rfl rfl (bQ (bZ 10 rfl rfl) (bQ (bZ 11 rfl rfl) bX)) rfl rfl (dX rfl (dZ U_29 Z_51 (Ht rfl) (Ht rfl) rfl (eQ (dY (d:=Qi.zero) zo)))) ?_)))
   refine bY (Ei:=[(55,_)]) rfl rfl (bQ (bZ 12 rfl rfl) bX) rfl rfl (dX rfl (dV A_51 Z_51 (Ht rfl))) (bY (Ei:=[(48,_),(56,_)]) rfl rfl (bQ (bZ 5 rfl rfl) (bQ (bZ 13 rfl rfl) bX)) rfl rfl (dX rfl (ap b7 K_45 (eS (x:=gm f 1 1) (y:=gm s p p) (L:=L) (M:=L) zo) (Ht rfl) ⟨(Ht rfl),trivial⟩)) (bY (Ei:=[(46,_),(57,_)]) rfl rfl (bQ (bZ 3 rfl rfl) (bQ (bZ 14 rfl rfl) bX)) rfl rfl (dX rfl (ap dv K_44 (kZ (x:=Qi.ofInt 1) (y:=gm f 1 1 * gm s p p) (L:=1) (M:=L + L + 1) zo) (Ht rfl) ⟨(Ht rfl),trivial⟩)) ?_))
   refine bY (Ei:=[(43,_),(44,_),(58,_)]) rfl rfl (bQ (bZ 0 rfl rfl) (bQ (bZ 1 rfl rfl) (bQ (bZ 15 rfl rfl) bX))) rfl rfl (dX rfl (cZ Tryz.call108 (oz (z:=z) (s:=s) (p:=p) (e:=er s f p) (L:=L) (M:=2 * L + 3) hs hpl hz hfs hDf hL zo hD) ⟨(Ht rfl),(Ht rfl),(Ht rfl),trivial⟩)) (bY (Ei:=[(59,_)]) rfl rfl (bQ (bZ 16 rfl rfl) bX) rfl rfl (dX rfl (cX (Ht rfl))) (bY (Ei:=[(42,_)]) rfl rfl (bQ (bZ 17 rfl rfl) bX) rfl rfl (dX rfl (dU (Ht rfl) rfl)) ?_))
   refine bY (Ei:=[(42,_)]) rfl rfl (bQ (bZ 17 rfl rfl) bX) rfl rfl (dX rfl (dU (Ht rfl) rfl)) (bY (Ei:=[(42,_)]) rfl rfl (bQ (bZ 17 rfl rfl) bX) rfl rfl (dX rfl (dU (Ht rfl) rfl)) (Y.D_newp (Ei:=[]) (fun bb=>box bb 29 [av (tab z.length fun i=>gm s i p / er s f p)]) 23 rfl rfl rfl bX rfl rfl (by kernel_rfl) (eG (Ts:=[Is (.slice none 0 0)]) O_29 rfl (fun V=>aW zd (aG))) (Y.D_newp (Ei:=[]) (fun bb=>box bb 29 [av (tab z.length fun j=>gm s p j / er s f p)]) 24 rfl rfl rfl bX rfl rfl (by kernel_rfl) (eG (Ts:=[Is (.slice none 0 0)]) O_29 rfl (fun V=>aW zd (aG))) ?_)))
   refine Y.D_putN (Ei:=[(60,_)]) 21 rfl rfl rfl rfl rfl rfl (bQ (bZ 18 rfl rfl) bX) (fun bb=>qe Z_29 (Ht rfl) (Ht rfl) (i:=0) rfl (aK rfl) rfl rfl) (Y.D_putN (Ei:=[(61,_)]) 22 rfl rfl rfl rfl rfl rfl (bQ (bZ 19 rfl rfl) bX) (fun bb=>qe Z_29 (Ht rfl) (Ht rfl) (i:=0) rfl (aK rfl) rfl rfl) (Y.D_done aA rfl (by kernel_rfl) rfl (by simp [Y.okP]) rfl rfl (bU (bU (bU (bU (bU (bU (bU (bU (bU (bU (bU (bU (bU (bU (bU (bU (bU (bU (bU (bU (bU (Y.F_newp (fun B15=>Y.F_newp (fun B16=>Y.F_putN (Y.F_putN (Y.F_nil ?_))))))))))))))))))))))))))))
   refine ra rfl (eZ (cK (cK ?_)))
   have he:pX z s fz f port = 0:=sk hfx (by rw [← hp]; exact hD)
   refine gG (i:=2) (tt:=15) rfl rfl cC (gG (i:=3) (tt:=16) rfl rfl cC (cY (rm rfl (ro rfl (bT (Ht rfl) cV) (eZ (cb (Ht rfl) (by rfl) ?_))))))
   refine cU (cK (fV (m:=7) (dp 3 rfl (dV A_32 Z_32 (Ht rfl)) (dp 14 rfl (dV A_3 Z_3 (Ht rfl)) (dp 5 rfl (eJ bH (Ht rfl) rfl) (dq 69 2 rfl (fQ A_29 Z_29 (Ht rfl) (i:=0) rfl rfl) (dq 70 3 rfl (dZ U_29 Z_51 (Ht rfl) (cJ 0) rfl (eQ (dY (d:=Qi.zero) zo))) (dq 71 4 rfl (dV A_51 Z_51 (Ht rfl)) (C.D_step (Ei:=[(14,_),(10,_),(11,_),(12,_),(16,_),(15,_),(3,_),(13,_)]) rfl rfl (bV (bK rfl rfl) (bV (bK rfl rfl) (bV (bK rfl rfl) (bV (bK rfl rfl) (bV (bK rfl rfl) (bV (bK rfl rfl) (bV (bK rfl rfl) (bV (bK rfl rfl) bW)))))))) (dX rfl (fm (γ:=Fin z.length × Fin z.length) (Ts:=fun x=>[NT .i64 x.1.1,NT .i64 x.2.1]) (U:=fun x=>ab (gI s f p x.1.1 x.2.1)) Tryz.call111 (fun x=>xi (z:=z) (s:=s) (f:=f) (p:=p) (L:=L) hs hpl x.1.2 x.2.2 hz hfs hff hL hLb hD) ⟨(Ht rfl),(Ht rfl),(Ht rfl),(Ht rfl),(Ht rfl),(Ht rfl),(Ht rfl),(Ht rfl),trivial⟩)) ?_)))))))))
   refine fG aA rfl (by kernel_rfl) (zF (aJ (aJ (aJ (aV (ro rfl (cZ Tryz.call110 (w3 (z:=z) (s:=s) (p:=p) (x:=gv fz 0) (F:=fun i j=>gI s f p i j) hs hpl hz) ⟨(Ht rfl),(Ht rfl),(Ht rfl),(Ht rfl),trivial⟩) (gJ Z_32 (Ht rfl) (Ht rfl) rfl (i:=1) rfl (aK rfl) rfl rfl (ro rfl (cQ (cJ 0)) (eZ (aC rfl (fJ (fY A_32 Z_32 rfl (i:=1) rfl rfl) ?_) (fJ (eY rfl) ?_)))))))))))
   ·exact (fun v V h=>by rw [xR,xS,cL,cL,if_pos he,if_pos he,← hp]; exact h)
   ·exact (am he.symm)
theorem sW {z fz:List Qi} {s f:List (List Qi)} {port:Int} {L:Nat} (hs:bM s z.length z.length) (hz1:1 ≤ z.length) (hz:z.length ≤ 1000) (hfs:aL s L) (hff:aL f L) (hfz:aP z L) (hfg:aP fz L) (hL:1 ≤ L) (hLb:L ≤ 10000) (hf:fz.length = 2 → bM f 2 2):aw Tryz.prog 26 [aM z s,aa .i64 port,aM fz f] (bo [aM (xR z s fz f port) (xS z s fz f port),aa .i64 (pX z s fz f port)]):=by
 by_cases h2:fz.length = 2
 ·exact wq hs hz1 hz hfs hff hfz hfg hL hLb h2 (hf h2)
 ·exact wV hs hz1 hz hfs hff hfz hfg hL hLb h2
theorem v6 {z fz:List Qi} {s f:List (List Qi)} {port:Int} {L:Nat} (hs:bM s z.length z.length) (hz1:1 ≤ z.length) (hz:z.length ≤ 1000) (hfs:aL s L) (hff:aL f L) (hfz:aP z L) (hfg:aP fz L) (hL:1 ≤ L) (hLb:L ≤ 10000) (h2:fz.length ≠ 2):aw Tryz.prog 28 [aM z s,aa .i64 port,aM fz f] (bo [aM (nv z s fz f port) (vD z s fz f port),aa .i64 (o9 z s fz f port)]):=by
 have hfx:iW z fz port 1 = 4:=CH h2
 have he:o9 z s fz f port = 4:=(Au (by rw [hfx]; decide)).trans hfx
 have hne:o9 z s fz f port ≠ 0:=by rw [he]; decide
 refine aw.intro Tryz.func28 rfl Tryz.ntmps28 rfl (fun cx=>(ts (rn rfl (fU (Ht rfl)) fun B3=>(rn rfl (fU (Ht rfl)) fun B5=>(rn rfl (eG (Ts:=[Is (.slice none 0 0),Is (.slice none 0 0)]) O_32 rfl (fun V=>aW zd (aW zd (aG)))) fun B6=>(ro rfl (cQ (cJ 0)) (eZ (ts (ro rfl (eW A_32 Z_32 (Ht rfl) (i:=0) rfl rfl rfl) (rm rfl (ro rfl (eW A_32 Z_32 (Ht rfl) (i:=1) rfl rfl rfl) (ro rfl (cZ Tryz.call107 (ow (x:=1) h2) ⟨(Ht rfl),(Ht rfl),(Ht rfl),(cJ 1),trivial⟩) ?_))))))))))))
 refine rm rfl (ro rfl (dU (Ht rfl) rfl) (ro rfl (dU (Ht rfl) rfl) (rn rfl (eG (Ts:=[Is (.bool false),Is (.slice none 0 0),Is (.bool false),Is (.slice none 0 0),Is (.slice none 0 0),Is (.bool false),Is (.slice none 0 0),Is (.bool false),Is (.slice none 0 0),Is (.slice none 0 0),Is (.bool false),Is (.slice none 0 0),Is (.bool false),Is (.slice none 0 0),Is (.slice none 0 0),Is (.bool false),Is (.slice none 0 0),Is (.bool false),Is (.slice none 0 0),Is (.slice none 0 0)]) O_163 rfl (fun V=>aW zd (aW zd (aW zd (aW zd (aW zd (aW zd (aW zd (aW zd (aW zd (aW zd (aW zd (aW zd (aW zd (aW zd (aW zd (aW zd (aW zd (aW zd (aW zd (aW zd (aG)))))))))))))))))))))) fun B8=>?_)))
 refine gJ Z_163 (Ht rfl) (Ht rfl) rfl (i:=3) rfl (aK rfl) rfl rfl (ra rfl (eZ (cK (ts (rm rfl (ro rfl (bT (Ht rfl) cV) (eZ (gN (Ht rfl) (by rfl) ?_))))))))
 refine ts (ro rfl (ae.imp (d9 ) da) (rm rfl (gJ Z_32 (Ht rfl) (Ht rfl) rfl (i:=2) rfl (aK rfl) rfl rfl (ra rfl (eZ (aC rfl (fJ (fY A_32 Z_32 rfl (i:=2) rfl rfl) ?_) (fJ (eY rfl) ?_)))))))
 ·exact (fun v V h=>by rw [nv,vD,cL,cL,if_neg hne,if_neg hne]; exact h)
 ·exact (am he.symm)
theorem uA {z fz:List Qi} {s f:List (List Qi)} {port:Int} {L:Nat} (hs:bM s z.length z.length) (hz1:1 ≤ z.length) (hz:z.length ≤ 1000) (hfs:aL s L) (hff:aL f L) (hfz:aP z L) (hfg:aP fz L) (hL:1 ≤ L) (hLb:L ≤ 10000) (h2:fz.length = 2) (hf:bM f 2 2):aw Tryz.prog 28 [aM z s,aa .i64 port,aM fz f] (bo [aM (nv z s fz f port) (vD z s fz f port),aa .i64 (o9 z s fz f port)]):=by
 have hsl:=hs.1
 haveI h1f:=gr
 refine aw.intro Tryz.func28 rfl Tryz.ntmps28 rfl (fun cx=>(ts (rn rfl (fU (Ht rfl)) fun B3=>(rn rfl (fU (Ht rfl)) fun B5=>(rn rfl (eG (Ts:=[Is (.slice none 0 0),Is (.slice none 0 0)]) O_32 rfl (fun V=>aW zd (aW zd (aG)))) fun B6=>(ro rfl (cQ (cJ 0)) (eZ (ts (ro rfl (eW A_32 Z_32 (Ht rfl) (i:=0) rfl rfl rfl) (rm rfl (ro rfl (eW A_32 Z_32 (Ht rfl) (i:=1) rfl rfl rfl) (ro rfl (cZ Tryz.call107 (oL (x:=1) (L:=L) h2 hf (by decide) hfz hfg hL zo hz) ⟨(Ht rfl),(Ht rfl),(Ht rfl),(cJ 1),trivial⟩) ?_))))))))))))
 refine rm rfl (ro rfl (dU (Ht rfl) rfl) (ro rfl (dU (Ht rfl) rfl) (rn rfl (eG (Ts:=[Is (.bool false),Is (.slice none 0 0),Is (.bool false),Is (.slice none 0 0),Is (.slice none 0 0),Is (.bool false),Is (.slice none 0 0),Is (.bool false),Is (.slice none 0 0),Is (.slice none 0 0),Is (.bool false),Is (.slice none 0 0),Is (.bool false),Is (.slice none 0 0),Is (.slice none 0 0),Is (.bool false),Is (.slice none 0 0),Is (.bool false),Is (.slice none 0 0),Is (.slice none 0 0)]) O_163 rfl (fun V=>aW zd (aW zd (aW zd (aW zd (aW zd (aW zd (aW zd (aW zd (aW zd (aW zd (aW zd (aW zd (aW zd (aW zd (aW zd (aW zd (aW zd (aW zd (aW zd (aW zd (aG)))))))))))))))))))))) fun B8=>?_)))
 refine gJ Z_163 (Ht rfl) (Ht rfl) rfl (i:=3) rfl (aK rfl) rfl rfl (ra rfl (eZ (cK (ts (rm rfl (ro rfl (bT (Ht rfl) cV) (eZ (dQ (Ht rfl) (fun hc=>?_) (fun hc=>?_)))))))))
 ·have hfx : iW z fz port 1 ≠ 0 := by simpa using hc
  have he:o9 z s fz f port = iW z fz port 1:=Au hfx
  have hne:o9 z s fz f port ≠ 0:=by rw [he]; exact hfx
  refine ts (ro rfl (ae.imp (d9 ) da) (rm rfl (gJ Z_32 (Ht rfl) (Ht rfl) rfl (i:=2) rfl (aK rfl) rfl rfl (ra rfl (eZ (aC rfl (fJ (fY A_32 Z_32 rfl (i:=2) rfl rfl) ?_) (fJ (eY rfl) ?_)))))))
  ·exact (fun v V h=>by rw [nv,vD,cL,cL,if_neg hne,if_neg hne]; exact h)
  ·exact (am he.symm)
 ·have hfx : iW z fz port 1 = 0 := by simpa using hc
  obtain ⟨_,hb2,hzz⟩:=Ao hfx
  obtain ⟨p,hp⟩:∃ p,p = (port - 1).toNat:=⟨_,rfl⟩
  have hpe:port - 1 = (p:Int):=by omega
  have hpl:p < z.length:=by omega
  have hspr:=hs.row hpl
  haveI:=hfs.get hL p p; haveI:=hff.get hL 1 1; haveI:=hff.get hL 0 0; haveI:=hff.get hL 0 1; haveI:=hff.get hL 1 0
  refine cU (cK (Y.D_start (m:=23) [] (bY (Ei:=[(8,_)]) rfl rfl (bQ (bJ rfl rfl) bX) rfl rfl (dX rfl (cE U_163 Z_162 (Ht rfl) (cJ 0) rfl (by decide) rfl)) (bY (Ei:=[(31,_)]) rfl rfl (bQ (bZ 0 rfl rfl) bX) rfl rfl (dX rfl (cE U_162 Z_51 (Ht rfl) (cJ 0) rfl (by decide) rfl)) (bY (Ei:=[(32,_)]) rfl rfl (bQ (bZ 1 rfl rfl) bX) rfl rfl (dX rfl (eW A_51 Z_51 (Ht rfl) (i:=3) rfl rfl rfl)) ?_)))))
  refine bY (Ei:=[(8,_)]) rfl rfl (bQ (bJ rfl rfl) bX) rfl rfl (dX rfl (cE U_163 Z_162 (Ht rfl) (cJ 0) rfl (by decide) rfl)) (bY (Ei:=[(34,_)]) rfl rfl (bQ (bZ 3 rfl rfl) bX) rfl rfl (dX rfl (cE U_162 Z_51 (Ht rfl) (cJ 1) rfl (by decide) rfl)) (bY (Ei:=[(35,_)]) rfl rfl (bQ (bZ 4 rfl rfl) bX) rfl rfl (dX rfl (eW A_51 Z_51 (Ht rfl) (i:=3) rfl rfl rfl)) (bY (Ei:=[(8,_)]) rfl rfl (bQ (bJ rfl rfl) bX) rfl rfl (dX rfl (cE U_163 Z_162 (Ht rfl) (cJ 1) rfl (by decide) rfl)) ?_)))
  refine bY (Ei:=[(37,_)]) rfl rfl (bQ (bZ 6 rfl rfl) bX) rfl rfl (dX rfl (cE U_162 Z_51 (Ht rfl) (cJ 0) rfl (by decide) rfl)) (bY (Ei:=[(38,_)]) rfl rfl (bQ (bZ 7 rfl rfl) bX) rfl rfl (dX rfl (eW A_51 Z_51 (Ht rfl) (i:=3) rfl rfl rfl)) (bY (Ei:=[(8,_)]) rfl rfl (bQ (bJ rfl rfl) bX) rfl rfl (dX rfl (cE U_163 Z_162 (Ht rfl) (cJ 1) rfl (by decide) rfl)) (bY (Ei:=[(40,_)]) rfl rfl (bQ (bZ 9 rfl rfl) bX) rfl rfl (dX rfl (cE U_162 Z_51 (Ht rfl) (cJ 1) rfl (by decide) rfl)) ?_)))
  refine bY (Ei:=[(41,_)]) rfl rfl (bQ (bZ 10 rfl rfl) bX) rfl rfl (dX rfl (eW A_51 Z_51 (Ht rfl) (i:=3) rfl rfl rfl)) (bY (Ei:=[(1,_)]) rfl rfl (bQ (bJ rfl rfl) bX) rfl rfl (dX rfl (cX (Ht rfl))) (bY (Ei:=[(43,_)]) rfl rfl (bQ (bZ 12 rfl rfl) bX) rfl rfl (dX rfl (cq (Ht rfl) cV (r:=((p:Nat):Int)) ((kq (z:=port - 1) zo).trans zo))) ?_))
  refine Y.D_newp (Ei:=[]) (fun bb=>box bb 51 (nb (gm f 0 0))) 19 rfl rfl rfl bX rfl rfl (by kernel_rfl) (eG (Ts:=[Is (.bool false),Is (.slice none 0 0),Is (.bool false),Is (.slice none 0 0),Is (.slice none 0 0)]) O_51 rfl (fun V=>aW zd (aW zd (aW zd (aW zd (aW zd (aG))))))) (Y.D_newp (Ei:=[]) (fun bb=>box bb 51 (nb (gm f 0 1))) 20 rfl rfl rfl bX rfl rfl (by kernel_rfl) (eG (Ts:=[Is (.bool false),Is (.slice none 0 0),Is (.bool false),Is (.slice none 0 0),Is (.slice none 0 0)]) O_51 rfl (fun V=>aW zd (aW zd (aW zd (aW zd (aW zd (aG))))))) ?_)
  refine Y.D_newp (Ei:=[]) (fun bb=>box bb 51 (nb (gm f 1 0))) 21 rfl rfl rfl bX rfl rfl (by kernel_rfl) (eG (Ts:=[Is (.bool false),Is (.slice none 0 0),Is (.bool false),Is (.slice none 0 0),Is (.slice none 0 0)]) O_51 rfl (fun V=>aW zd (aW zd (aW zd (aW zd (aW zd (aG))))))) (Y.D_newp (Ei:=[]) (fun bb=>box bb 51 (nb (gm f 1 1))) 22 rfl rfl rfl bX rfl rfl (by kernel_rfl) (eG (Ts:=[Is (.bool false),Is (.slice none 0 0),Is (.bool false),Is (.slice none 0 0),Is (.slice none 0 0)]) O_51 rfl (fun V=>aW zd (aW zd (aW zd (aW zd (aW zd (aG))))))) ?_)
  refine Y.D_new (Ei:=[]) rfl rfl rfl bX rfl rfl (eG (Ts:=[Is (.int .i64 0)]) O_3 rfl (fun V=>aW zd (aG))) (Y.D_putN (Ei:=[(33,_)]) 14 rfl rfl rfl rfl rfl rfl (bQ (bZ 2 rfl rfl) bX) (fun bb=>ft Z_51 (Ht rfl) (Ht rfl) rfl (i:=0) rfl (aK rfl) rfl rfl) (Y.D_putN (Ei:=[(36,_)]) 15 rfl rfl rfl rfl rfl rfl (bQ (bZ 5 rfl rfl) bX) (fun bb=>ft Z_51 (Ht rfl) (Ht rfl) rfl (i:=0) rfl (aK rfl) rfl rfl) (Y.D_putN (Ei:=[(39,_)]) 16 rfl rfl rfl rfl rfl rfl (bQ (bZ 8 rfl rfl) bX) (fun bb=>ft Z_51 (Ht rfl) (Ht rfl) rfl (i:=0) rfl (aK rfl) rfl rfl) ?_)))
  refine Y.D_putN (Ei:=[(42,_)]) 17 rfl rfl rfl rfl rfl rfl (bQ (bZ 11 rfl rfl) bX) (fun bb=>ft Z_51 (Ht rfl) (Ht rfl) rfl (i:=0) rfl (aK rfl) rfl rfl) (Y.D_done aA rfl (by kernel_rfl) rfl (by simp [Y.okP]) rfl rfl (bU (bU (bU (bU (bU (bU (bU (bU (bU (bU (bU (bU (bU (bU (Y.F_newp (fun B10=>Y.F_newp (fun B11=>Y.F_newp (fun B12=>Y.F_newp (fun B13=>Y.F_new (fun B14=>Y.F_putN (Y.F_putN (Y.F_putN (Y.F_putN (Y.F_nil ?_)))))))))))))))))))))))))
  refine dI Z_3 (Ht rfl) (Ht rfl) (i:=8) rfl (aK rfl) rfl (eZ (cK (cK (gG (i:=4) (tt:=10) rfl rfl cf (gG (i:=5) (tt:=11) rfl rfl cf (gG (i:=6) (tt:=12) rfl rfl cf (gG (i:=7) (tt:=13) rfl rfl cf (gG (i:=8) (tt:=14) rfl rfl cC (gG (i:=0) (tt:=3) rfl rfl cf (aD [1,2] rfl (by decide) (cY (ro rfl (dV A_51 Z_51 (Ht rfl)) (ro rfl (ay aF (Ht rfl)) (ro rfl (ap iz K_27 (jS (x:=gm f 0 1) (L:=L) zo) (Ht rfl) trivial) ?_))))))))))))))
  refine ro rfl (bD (Ht rfl)) (rm rfl (fX rfl rfl (eU rfl rfl (Ht rfl) (fun h=>dV A_51 Z_51 (Ht rfl))) (fX rfl rfl (eU rfl rfl (Ht rfl) (fun h=>ay aF (fW rfl h))) (fX rfl rfl (eU rfl rfl (Ht rfl) (fun h=>ap iz K_27 (jS (x:=gm f 1 0) (L:=L) zo) (fW rfl h) trivial)) (fX rfl rfl (eU rfl rfl (Ht rfl) (fun h=>bD (fW rfl h))) (ro rfl (eP (Ht rfl) (fun h=>(fW rfl h))) (eZ (dQ (Ht rfl) (fun hcl=>?_) (fun hcl=>?_)))))))))
  ·have h3 : gm f 0 1 = Qi.zero ∨ gm f 1 0 = Qi.zero := by simpa using hcl
   have he:o9 z s fz f port = 6:=xA hfx (h3.elim .inl (fun k=>.inr (.inl k)))
   have hne:o9 z s fz f port ≠ 0:=by rw [he]; decide
   refine ts (ro rfl (ae.imp (d9 ) da) (gJ Z_32 (Ht rfl) (Ht rfl) rfl (i:=1) rfl (aK rfl) rfl rfl (ro rfl (cQ (cJ 6)) (eZ (aC rfl (fJ (fY A_32 Z_32 rfl (i:=1) rfl rfl) ?_) (fJ (eY rfl) ?_))))))
   ·exact (fun v V h=>by rw [nv,vD,cL,cL,if_neg hne,if_neg hne]; exact h)
   ·exact (am he.symm)
  ·have h3 : ¬ (gm f 0 1 = Qi.zero ∨ gm f 1 0 = Qi.zero) := by simpa using hcl
   refine cU (cK (fV (m:=12) (dp 3 rfl (dB bn (Ht rfl) rfl) (dq 56 0 rfl (dV A_30 Z_30 (Ht rfl)) (dp 14 rfl (dV A_3 Z_3 (Ht rfl)) (bv 57 1 58 2 rfl (dZ U_30 Z_29 (Ht rfl) (Ht rfl) rfl (eQ (dY (d:=[]) zo))) (dq 59 3 rfl (dV A_29 Z_29 (Ht rfl)) (dp 14 rfl (dV A_3 Z_3 (Ht rfl)) (bv 60 4 61 5 rfl (dZ U_29 Z_51 (Ht rfl) (Ht rfl) rfl (eQ (dY (d:=Qi.zero) zo))) (dq 62 6 rfl (dV A_51 Z_51 (Ht rfl)) ?_))))))))))
   refine dq 63 7 rfl (ay aF (Ht rfl)) (dp 10 rfl (dV A_51 Z_51 (Ht rfl)) (bv 64 8 65 9 rfl (ap dv K_44 (kZ (x:=gm s p p) (y:=gm f 0 0) (L:=L) (M:=L) zo) (Ht rfl) ⟨(Ht rfl),trivial⟩) (C.D_new (Ei:=[]) rfl rfl rfl bW (eG (Ts:=[Is (.bool false),Is (.slice none 0 0),Is (.bool false),Is (.slice none 0 0),Is (.slice none 0 0)]) O_51 rfl (fun V=>aW zd (aW zd (aW zd (aW zd (aW zd (aG))))))) ?_)))
   refine fG aA rfl (by kernel_rfl) (zF (zF (aJ (aJ (aJ (C.F_new (fun B15=>aV (gJ Z_51 (Ht rfl) (Ht rfl) rfl (i:=2) rfl (aK rfl) rfl rfl (eZ (cK (gG (i:=2) (tt:=15) rfl rfl cf (aD [0,1] rfl (by decide) (fV (m:=11) (dp 11 rfl (dV A_51 Z_51 (Ht rfl)) (dq 67 0 rfl (ay aF (Ht rfl)) (dp 12 rfl (dV A_51 Z_51 (Ht rfl)) (bv 68 1 69 2 rfl (ap b7 K_45 (eS (x:=gm f 0 1) (y:=gm f 1 0) (L:=L) (M:=L) zo) (Ht rfl) ⟨(Ht rfl),trivial⟩) ?_)))))))))))))))))
   refine dq 70 3 rfl (ay aF (Ht rfl)) (dp 13 rfl (dV A_51 Z_51 (Ht rfl)) (dq 72 5 rfl (ay aF (Ht rfl)) (dp 15 rfl (dV A_51 Z_51 (Ht rfl)) (bv 73 6 74 7 rfl (ap b7 K_45 (eS (x:=gm f 1 1) (y:=(gm s p p - gm f 0 0)) (L:=L) (M:=L + L + 1) zo) (Ht rfl) ⟨(Ht rfl),trivial⟩) (bv 71 4 75 8 rfl (ap fd K_46 (n8 (x:=gm f 0 1 * gm f 1 0) (y:=gm f 1 1 * (gm s p p - gm f 0 0)) (L:=L + L + 1) (M:=L + (L + L + 1) + 1) zo) (Ht rfl) ⟨(Ht rfl),trivial⟩) (C.D_new (Ei:=[]) rfl rfl rfl bW (eG (Ts:=[Is (.bool false),Is (.slice none 0 0),Is (.bool false),Is (.slice none 0 0),Is (.slice none 0 0)]) O_51 rfl (fun V=>aW zd (aW zd (aW zd (aW zd (aW zd (aG))))))) ?_))))))
   refine fG aA rfl (by kernel_rfl) (zF (zF (aJ (aJ (C.F_new (fun B16=>aV (gJ Z_51 (Ht rfl) (Ht rfl) rfl (i:=2) rfl (aK rfl) rfl rfl (eZ (cK (gG (i:=2) (tt:=16) rfl rfl cf (aD [0,1] rfl (by decide) ?_)))))))))))
   have hDf:=oT (p:=p) hfs hff hL
   haveI:=hDf
   haveI:an (gm s p p - gm f 0 0) (L + L + 1):=inferInstance
   by_cases hD:i9 s f p = Qi.zero
   ·refine cY (ro rfl (dV A_32 Z_32 (Ht rfl)) (ro rfl (dV A_3 Z_3 (Ht rfl)) (ro rfl (dV A_51 Z_51 (Ht rfl)) (ro rfl (cZ Tryz.call108 (o5 (z := z) (s := s) (p := p) (e := i9 s f p) (L := L) (M := 5 * L + 5) hs hpl hz hfs hDf hL zo hD) ⟨(Ht rfl), (Ht rfl), (Ht rfl), trivial⟩) (rm rfl (ro rfl (dU (Ht rfl) rfl) (ro rfl (dU (Ht rfl) rfl) (ro rfl (dU (Ht rfl) rfl) (rn rfl (eG (Ts := [Is (.slice none 0 0)]) O_29 rfl (fun V => aW zd (aG))) fun B17 => ?_)))))))))
    refine rn rfl (eG (Ts:=[Is (.slice none 0 0)]) O_29 rfl (fun V=>aW zd (aG))) fun B18=>dI Z_29 (Ht rfl) (Ht rfl) (i:=2) rfl (aK rfl) rfl (dI Z_29 (Ht rfl) (Ht rfl) (i:=3) rfl (aK rfl) rfl (ra rfl (eZ (cK (cK ?_)))))
    have he:o9 z s fz f port = 6:=xA hfx (.inr (.inr (by rw [← hp]; exact hD)))
    have hne:o9 z s fz f port ≠ 0:=by rw [he]; decide
    refine cY (rm rfl (ro rfl (bT (Ht rfl) cV) (eZ (gN (Ht rfl) (by rfl) ?_))))
    refine ts (ro rfl (ae.imp (d9 ) da) (rm rfl (gJ Z_32 (Ht rfl) (Ht rfl) rfl (i:=1) rfl (aK rfl) rfl rfl (ra rfl (eZ (aC rfl (fJ (fY A_32 Z_32 rfl (i:=1) rfl rfl) ?_) (fJ (eY rfl) ?_)))))))
    ·exact (fun v V h=>by rw [nv,vD,cL,cL,if_neg hne,if_neg hne]; exact h)
    ·exact (am he.symm)
   ·refine cY (ro rfl (dV A_32 Z_32 (Ht rfl)) (ro rfl (dV A_3 Z_3 (Ht rfl)) (ro rfl (dV A_51 Z_51 (Ht rfl)) (ro rfl (cZ Tryz.call108 (oz (z := z) (s := s) (p := p) (e := i9 s f p) (L := L) (M := 5 * L + 5) hs hpl hz hfs hDf hL zo hD) ⟨(Ht rfl), (Ht rfl), (Ht rfl), trivial⟩) (rm rfl (ro rfl (dU (Ht rfl) rfl) (ro rfl (dU (Ht rfl) rfl) (ro rfl (dU (Ht rfl) rfl) (rn rfl (eG (Ts := [Is (.slice none 0 0)]) O_29 rfl (fun V => aW zd (aG))) fun B17 => ?_)))))))))
    refine rn rfl (eG (Ts:=[Is (.slice none 0 0)]) O_29 rfl (fun V=>aW zd (aG))) fun B18=>dI Z_29 (Ht rfl) (Ht rfl) (i:=2) rfl (aK rfl) rfl (dI Z_29 (Ht rfl) (Ht rfl) (i:=3) rfl (aK rfl) rfl (ra rfl (eZ (cK (cK ?_)))))
    have he:o9 z s fz f port = 0:=vp hfx (by rw [← hp]; exact fun k=>k.elim (fun k=>h3 (.inl k)) (fun k=>k.elim (fun k=>h3 (.inr k)) hD))
    refine gG (i:=2) (tt:=17) rfl rfl cC (gG (i:=3) (tt:=18) rfl rfl cC (cY (rm rfl (ro rfl (bT (Ht rfl) cV) (eZ (cb (Ht rfl) (by rfl) ?_))))))
    refine aD [0,1] rfl (by decide) (cU (ts (ro rfl (dV A_51 Z_51 (Ht rfl)) (ro rfl (ay aF (Ht rfl)) (ro rfl (dV A_51 Z_51 (Ht rfl)) (ro rfl (ap dO K_40 (mg (x:=gm s p p - gm f 0 0) (y:=i9 s f p) (L:=L + L + 1) (M:=5 * L + 5) zo) (Ht rfl) ⟨(Ht rfl),trivial⟩) (rm rfl (ro rfl (dU (Ht rfl) rfl) (ro rfl (dU (Ht rfl) rfl) (rn rfl (eG (Ts:=[Is (.bool false),Is (.slice none 0 0),Is (.bool false),Is (.slice none 0 0),Is (.slice none 0 0)]) O_51 rfl (fun V=>aW zd (aW zd (aW zd (aW zd (aW zd (aG))))))) fun B19=>?_))))))))))
    refine gJ Z_51 (Ht rfl) (Ht rfl) rfl (i:=2) rfl (aK rfl) rfl rfl (ra rfl (eZ (cK (cK (gG (i:=2) (tt:=19) rfl rfl cf (cY (rm rfl (ro rfl (bT (Ht rfl) cV) (eZ (cb (Ht rfl) (by simp [hD]) ?_))))))))))
    refine aD [0,1] rfl (by decide) (cU (cK (fV (m:=7) (dp 3 rfl (dV A_32 Z_32 (Ht rfl)) (dp 14 rfl (dV A_3 Z_3 (Ht rfl)) (dp 5 rfl (eJ bH (Ht rfl) rfl) (dq 101 2 rfl (fQ A_29 Z_29 (Ht rfl) (i:=0) rfl rfl) (dq 102 3 rfl (dZ U_29 Z_51 (Ht rfl) (cJ 1) rfl (eQ (dY (d:=Qi.zero) zo))) (dq 103 4 rfl (dV A_51 Z_51 (Ht rfl)) (C.D_step (Ei:=[(14,_),(19,_),(17,_),(11,_),(12,_),(18,_),(3,_),(13,_)]) rfl rfl (bV (bK rfl rfl) (bV (bK rfl rfl) (bV (bK rfl rfl) (bV (bK rfl rfl) (bV (bK rfl rfl) (bV (bK rfl rfl) (bV (bK rfl rfl) (bV (bK rfl rfl) bW)))))))) (dX rfl (fm (γ:=Fin z.length × Fin z.length) (Ts:=fun x=>[NT .i64 x.1.1,NT .i64 x.2.1]) (U:=fun x=>ab (pZ s f p x.1.1 x.2.1)) Tryz.call112 (fun x=>uC (z:=z) (s:=s) (f:=f) (p:=p) (L:=L) hs hpl x.1.2 x.2.2 hz hfs hff hL hLb hD) ⟨(Ht rfl),(Ht rfl),(Ht rfl),(Ht rfl),(Ht rfl),(Ht rfl),(Ht rfl),(Ht rfl),trivial⟩)) ?_))))))))))
    refine fG aA rfl (by kernel_rfl) (zF (aJ (aJ (aJ (aV (ro rfl (cZ Tryz.call110 (w3 (z:=z) (s:=s) (p:=p) (x:=gv fz 1) (F:=fun i j=>pZ s f p i j) hs hpl hz) ⟨(Ht rfl),(Ht rfl),(Ht rfl),(Ht rfl),trivial⟩) (gJ Z_32 (Ht rfl) (Ht rfl) rfl (i:=1) rfl (aK rfl) rfl rfl (ro rfl (cQ (cJ 0)) (eZ (aC rfl (fJ (fY A_32 Z_32 rfl (i:=1) rfl rfl) ?_) (fJ (eY rfl) ?_)))))))))))
    ·exact (fun v V h=>by rw [nv,vD,cL,cL,if_pos he,if_pos he,← hp]; exact h)
    ·exact (am he.symm)
theorem qc {z fz:List Qi} {s f:List (List Qi)} {port:Int} {L:Nat} (hs:bM s z.length z.length) (hz1:1 ≤ z.length) (hz:z.length ≤ 1000) (hfs:aL s L) (hff:aL f L) (hfz:aP z L) (hfg:aP fz L) (hL:1 ≤ L) (hLb:L ≤ 10000) (hf:fz.length = 2 → bM f 2 2):aw Tryz.prog 28 [aM z s,aa .i64 port,aM fz f] (bo [aM (nv z s fz f port) (vD z s fz f port),aa .i64 (o9 z s fz f port)]):=by
 by_cases h2:fz.length = 2
 ·exact uA hs hz1 hz hfs hff hfz hfg hL hLb h2 (hf h2)
 ·exact v6 hs hz1 hz hfs hff hfz hfg hL hLb h2
end
section
open Go Go.RowKit
theorem Cm {z:List Qi} {p:Nat} {zl:List Rt} {zz:Qi} (hp:p < z.length) (h:gv z p = zz):iW z (km zl zz) ((p + 1:Nat):Int) 2 = 0:=by
 rw [iW,if_neg (by rw [lj]; simp),if_neg (fun k=>k ⟨by omega,by omega⟩),if_pos]
 rw [show (((p + 1:Nat):Int) - 1).toNat = p by omega,h]; exact rd zl zz
end
section
open Go Go.RowKit
structure l9 (O:List Nat) (n:Nat):Prop where
 nd:O.Nodup
 all:∀ x,x ∈ O ↔ 1 ≤ x ∧ x ≤ n
theorem l9.len {O:List Nat} {n:Nat} (h:l9 O n):O.length = n:=by
 refine Nat.le_antisymm ?_ ?_
 ·refine DQ (n := n) (f := fun i => O.getD i 0 - 1) (fun x hx => ?_) (fun x y hx hy e => ?_)
  ·have := (h.all (O.getD x 0)).1 (by rw [show O.getD x 0 = O[x] by simp [List.getD, hx]]; exact List.getElem_mem hx)
   show O.getD x 0 - 1 < n; omega
  ·have a := (h.all (O.getD x 0)).1 (by rw [show O.getD x 0 = O[x] by simp [List.getD, hx]]; exact List.getElem_mem hx)
   have b:=(h.all (O.getD y 0)).1 (by rw [show O.getD y 0 = O[y] by simp [List.getD,hy]]; exact List.getElem_mem hy)
   have e2:O.getD x 0 = O.getD y 0:=by have:O.getD x 0 - 1 = O.getD y 0 - 1:=e; omega
   rw [show O.getD x 0 = O[x] by simp [List.getD,hx],show O.getD y 0 = O[y] by simp [List.getD,hy]] at e2
   exact (List.getElem_inj h.nd).1 e2
 ·have key : ∀ j, j < n → ∃ i, i < O.length ∧ O.getD i 0 = j + 1 := fun j hj => by
   obtain ⟨i,hi,e⟩:=List.getElem_of_mem ((h.all (j + 1)).2 ⟨by omega,by omega⟩)
   exact ⟨i,hi,by simp [List.getD,hi,e]⟩
  refine DQ (n:=O.length) (f:=fun j=>if hj:j < n then Classical.choose (key j hj) else 0) (fun x hx=>by simp only [dif_pos hx]; exact (Classical.choose_spec (key x hx)).1) (fun x y hx hy e=>?_)
  simp only [dif_pos hx,dif_pos hy] at e
  have a:=(Classical.choose_spec (key x hx)).2
  have b:=(Classical.choose_spec (key y hy)).2
  rw [e] at a; omega
section
variable {O:List Nat} {n:Nat}
theorem l9.at (h:l9 O n) {i:Nat} (hi:i < n):1 ≤ O.getD i 0 ∧ O.getD i 0 ≤ n:=by
 have hl:=h.len
 exact (h.all _).1 (by rw [show O.getD i 0 = O[i] by simp [List.getD,show i < O.length by omega]]; exact List.getElem_mem _)
theorem l9.inj (h:l9 O n) {i j:Nat} (hi:i < n) (hj:j < n) (e:O.getD i 0 = O.getD j 0):i = j:=by
 have hl:=h.len
 rw [show O.getD i 0 = O[i] by simp [List.getD,show i < O.length by omega],show O.getD j 0 = O[j] by simp [List.getD,show j < O.length by omega]] at e
 exact (List.getElem_inj h.nd).1 e
theorem x3 (h : l9 O n) : ka n (O.map fun (q : Nat) => (q : Int)) = 0 := d8 fun i hi => by
 have hl:=h.len
 rw [List.length_map] at hi
 have e:(O.map fun (q:Nat)=>(q:Int)).getD i 0 = ((O.getD i 0:Nat):Int):=by simp [List.getD,hi]
 have hr:=h.at (i:=i) zo
 show bu n _ _ = 0
 rw [e,bu,if_neg (fun k=>k zo),if_neg]
 intro k
 obtain ⟨x,hx,e2⟩:=List.any_eq_true.1 k
 rw [← List.map_take] at hx
 obtain ⟨y,hy,rfl⟩:=List.mem_map.1 hx
 obtain ⟨j,hj,e3⟩:=List.mem_take_iff_getElem.1 hy
 have e4:O.getD i 0 = y:=by have:=of_decide_eq_true e2; omega
 have:=h.inj (i:=i) (j:=j) zo zo (by rw [e4,← e3]; simp [List.getD,show j < O.length by omega])
 omega
end
end
section
open Go Go.RowKit
theorem wo {z z':List Qi} {s s':List (List Qi)} {e e':Int} {L:Nat} (hz:aP z L) (hz2:aP z' L) (hs:aL s L) (hs2:aL s' L) (hL:1 ≤ L) (hK:L ≤ 8796093022208) (hsh:bM s z.length z.length) (hsh2:bM s' z'.length z'.length) (hl:z.length ≤ 1000) (hl2:z'.length ≤ 1000):aw Tryz.prog 29 [aM z s,aa .i64 e,aM z' s',aa .i64 e'] (a9 (decide (e = 0) && decide (e' = 0) && tg z z' s s')):=by
 refine aw.intro Tryz.func29 rfl Tryz.ntmps29 rfl (fun cx=>(ts (rn rfl (fU (Ht rfl)) fun B4=>(rn rfl (fU (Ht rfl)) fun B6=>(ro rfl (cQ cV) (eZ (ts (rm rfl (ro rfl (di (Ht rfl) cV) (rm rfl (fX rfl rfl (eU rfl rfl (Ht rfl) (fun h=>cX (Ht rfl))) (fX rfl rfl (eU rfl rfl (Ht rfl) (fun h=>di (fW rfl h) cV)) (ro rfl (bx (Ht rfl) (fun h=>(fW rfl h))) (rm rfl (fX rfl rfl (eU rfl rfl (Ht rfl) (fun h=>eW A_32 Z_32 (Ht rfl) (i:=0) rfl rfl rfl)) (fX rfl rfl (eU rfl rfl (Ht rfl) (fun h=>eW A_32 Z_32 (Ht rfl) (i:=1) rfl rfl rfl)) ?_))))))))))))))))
 refine fX rfl rfl (eU rfl rfl (Ht rfl) (fun h=>cZ Tryz.call113 (sq (L:=L) hz hz2 hs hs2 hL hK hsh hsh2 hl hl2) ⟨(fW rfl h),(fW rfl h),trivial⟩)) (ro rfl (bx (Ht rfl) (fun h=>(fW rfl h))) (ra rfl (eZ ?_)))
 exact fK rfl (eY rfl)
end
section
open Go Go.RowKit
theorem E4 {x : Nat} (h : x < 20) : IntKind.wrap .i64 ((BitVec.ofInt (IntKind.bits .i64) (x : Int) ^^^ BitVec.ofInt (IntKind.bits .i64) ((1 : Nat) : Int)).toNat : Nat) = ((jf x : Nat) : Int) :=
 (by decide +kernel:∀ x:Nat,x < 20 → IntKind.wrap .i64 ((BitVec.ofInt (IntKind.bits .i64) (x:Int) ^^^ BitVec.ofInt (IntKind.bits .i64) ((1:Nat):Int)).toNat:Nat) = ((jf x:Nat):Int)) x h
theorem yK {z:List Qi} {S:List (List Qi)} {js:List (Int × Int)} {x:Nat} (hS:bM S z.length z.length) (hd:nX z js = 0) (hx:x < 2 * js.length) (hm:2 * js.length ≤ 18) (hz:z.length ≤ 1000):aw Tryz.prog 118 [NT .i64 x,PT (aM z S),PT (cD ((nM js).map Nat.succ))] (av (S.getD (gq (dh js) (jf x)) [])):=by
 have hpx:jf x < 2 * js.length:=sE hx
 have hgq:=(qF hd).lt (jf x) hpx
 have hSl:=hS.1
 have hJl:=pI js
 have hat:c4 (nM js) (jf x) = gq (dh js) (jf x):=sx hpx
 refine aw.intro Tryz.func118 rfl Tryz.ntmps118 rfl (fun cx=>(ts (ro rfl (cQ cV) (eZ (cK (fV (m:=8) (dp 1 rfl (dB bn (Ht rfl) rfl) (dq 5 0 rfl (dV A_30 Z_30 (Ht rfl)) (dp 2 rfl (dV A_72 Z_72 (Ht rfl)) (dp 0 rfl (cX (Ht rfl)) (dq 8 3 rfl (tI (Ht rfl) (cJ 1) (E4 zo)) (bv 7 2 9 4 rfl (dZ U_72 Z_3 (Ht rfl) (Ht rfl) rfl (eQ (gM zo))) (dq 10 5 rfl (dV A_3 Z_3 (Ht rfl)) (dq 11 6 rfl (ae.nat (dG (Ht rfl) (cJ 1) zo z6) (show c4 (nM js) (jf x) + 1 - 1 = gq (dh js) (jf x) by omega)) ?_))))))))))))))
 refine fG aA rfl (by kernel_rfl) (zF (zF (aV (ro rfl (dZ U_30 Z_29 (Ht rfl) (Ht rfl) rfl (eQ (dY (d:=[]) zo))) (ro rfl (dV A_29 Z_29 (Ht rfl)) (ra rfl (eZ ?_)))))))
 exact fK rfl (eY rfl)
theorem Bj {x y:Nat}:aw Tryz.prog 120 [NT .i64 x,NT .i64 y] (ab (if x = y then Qi.ofInt 1 else Qi.ofInt 0)):=by
 refine aw.intro Tryz.func120 rfl Tryz.ntmps120 rfl (fun cx=>(ts (rn rfl (eG (Ts:=[Is (.bool false),Is (.slice none 0 0),Is (.bool false),Is (.slice none 0 0),Is (.slice none 0 0)]) O_51 rfl (fun V=>aW zd (aW zd (aW zd (aW zd (aW zd (aG))))))) fun B4=>(eZ (cK (ts (rm rfl (rm rfl (ro rfl (aO (Ht rfl) (Ht rfl)) (eZ (dQ (Ht rfl) (fun hb=>?_) (fun hb=>?_))))))))))))
 ·have h2 : x = y := by simpa using hb
  refine ts (ro rfl (cZ K_109 (jT (n:=1) (by decide) (by decide)) ⟨(cJ 1),trivial⟩) (gJ Z_51 (Ht rfl) (Ht rfl) rfl (i:=0) rfl (aK rfl) rfl rfl (eZ (fK rfl (fJ (fY A_51 Z_51 rfl (i:=0) rfl rfl) ?_)))))
  exact (cv (if_pos h2).symm)
 ·have h2 : ¬ x = y := by simpa using hb
  refine cU (ts (ro rfl (cZ K_109 (jT (n:=0) (by decide) (by decide)) ⟨(cJ 0),trivial⟩) (gJ Z_51 (Ht rfl) (Ht rfl) rfl (i:=0) rfl (aK rfl) rfl rfl (eZ (fK rfl (fJ (fY A_51 Z_51 rfl (i:=0) rfl rfl) ?_))))))
  exact (cv (if_neg h2).symm)
theorem zi {z:List Qi} {S:List (List Qi)} {js:List (Int × Int)} {x y L:Nat} (hS:bM S z.length z.length) (hf:aL S L) (hL:1 ≤ L) (hLb:L ≤ 1000) (hd:nX z js = 0) (hx:x < 2 * js.length) (hy:y < 2 * js.length) (hm:2 * js.length ≤ 18) (hz:z.length ≤ 1000):aw Tryz.prog 119 [NT .i64 x,NT .i64 y,PT (mp Tryz.prog (Fin (2 * js.length)) (fun x=>[NT .i64 x.1]) (fun x=>av (S.getD (gq (dh js) (jf x.1)) []))),PT (cD ((nM js).map Nat.succ))] (ab ((if x = y then Qi.ofInt 1 else Qi.ofInt 0) - gm S (gq (dh js) (jf x)) (gq (dh js) y))):=by
 have hpx:jf x < 2 * js.length:=sE hx
 have hgx:=(qF hd).lt (jf x) hpx
 have hgy:=(qF hd).lt y hy
 have hSl:=hS.1
 have hSr:=hS.row hgx
 have hJl:=pI js
 have hat:c4 (nM js) y = gq (dh js) y:=sx hy
 haveI g1:an (gm S (gq (dh js) (jf x)) (gq (dh js) y)) L:=hf.get hL _ _
 haveI g2 : an (if x = y then Qi.ofInt 1 else Qi.ofInt 0) 1 := by
  split
  ·exact gr
  ·exact (an.zero (Nat.le_refl 1):an Qi.zero 1)
 refine aw.intro Tryz.func119 rfl Tryz.ntmps119 rfl (fun cx=>(ts (rn rfl (eG (Ts:=[Is (.bool false),Is (.slice none 0 0),Is (.bool false),Is (.slice none 0 0),Is (.slice none 0 0)]) O_51 rfl (fun V=>aW zd (aW zd (aW zd (aW zd (aW zd (aG))))))) fun B6=>(eZ (cK (fV (m:=14) (dp 0 rfl (cX (Ht rfl)) (dp 1 rfl (cX (Ht rfl)) (bv 7 0 8 1 rfl (cZ Tryz.call120 (Bj (x:=x) (y:=y)) ⟨(Ht rfl),(Ht rfl),trivial⟩) (dq 9 2 rfl (ay aF (Ht rfl)) ?_))))))))))
 refine dp 2 rfl (dV Tryz.isAgg175 Tryz.sizeOf175 (Ht rfl)) (dp 0 rfl (cX (Ht rfl)) (bv 11 4 12 5 rfl (i6 (Ts:=fun x:Fin (2 * js.length)=>[NT .i64 x.1]) ⟨x,hx⟩ (Ht rfl) ⟨(Ht rfl),trivial⟩) (dp 3 rfl (dV A_72 Z_72 (Ht rfl)) (dp 1 rfl (cX (Ht rfl)) (bv 14 7 15 8 rfl (dZ U_72 Z_3 (Ht rfl) (Ht rfl) rfl (eQ (gM zo))) (dq 16 9 rfl (dV A_3 Z_3 (Ht rfl)) (dq 17 10 rfl (ae.nat (dG (Ht rfl) (cJ 1) zo z6) (show c4 (nM js) y + 1 - 1 = gq (dh js) y by omega)) ?_)))))))
 refine bv 13 6 18 11 rfl (dZ U_29 Z_51 (Ht rfl) (Ht rfl) rfl (eQ (dY (d:=Qi.zero) (show gq (dh js) y < (S.getD (gq (dh js) (jf x)) []).length by omega)))) (dq 19 12 rfl (dV A_51 Z_51 (Ht rfl)) (fG aA rfl (by kernel_rfl) (zF (zF (zF (aJ (aJ (aV (ro rfl (ap dv K_44 (kZ (x:=if x = y then Qi.ofInt 1 else Qi.ofInt 0) (y:=gm S (gq (dh js) (jf x)) (gq (dh js) y)) (L:=1) (M:=L) zo) (Ht rfl) ⟨(Ht rfl),trivial⟩) ?_)))))))))
 refine gJ Z_51 (Ht rfl) (Ht rfl) rfl (i:=0) rfl (aK rfl) rfl rfl (eZ ?_)
 exact fK rfl (fY A_51 Z_51 rfl (i:=0) rfl rfl)
theorem C4 {z:List Qi} {S:List (List Qi)} {js:List (Int × Int)} {L:Nat} (hS:bM S z.length z.length) (hf:aL S L) (hfz:aP z L) (hL:1 ≤ L) (hLb:L ≤ 1000) (hz:z.length ≤ 18) (hj:js.length ≤ 100) (hg:∀ k,2 * k < z.length → 6 * bh (L + 2) (2 * k) + 4 ≤ 17592186044415) (hx:∀ k,2 * k < z.length → iB (bh (L + 2) (2 * k)) (2 * k + 1) ≤ 100000000000):aw Tryz.prog 31 [aM z S,CE js] (bo [aM (pn z S js) (sV z S js),aa .i64 (pY z S js)]):=by
 have hll:=iX js
 have hJl:=pI js
 have hSl:=hS.1
 refine aw.intro Tryz.func31 rfl Tryz.ntmps31 rfl (fun cx=>(ts (rn rfl (fU (Ht rfl)) fun B2=>(rn rfl (eG (Ts:=[Is (.slice none 0 0),Is (.slice none 0 0)]) O_32 rfl (fun V=>aW zd (aW zd (aG)))) fun B4=>(ro rfl (cQ (cJ 0)) (eZ (ts (ro rfl (eW A_32 Z_32 (Ht rfl) (i:=0) rfl rfl rfl) (rm rfl (ro rfl (cZ Tryz.call117 (wh (z:=z) (S:=S) (js:=js) (L:=L) hfz hL zo zo hj) ⟨(Ht rfl),(Ht rfl),trivial⟩) (rm rfl (ro rfl (dU (Ht rfl) rfl) ?_))))))))))))
 refine ro rfl (dU (Ht rfl) rfl) (rn rfl (eG (Ts:=[Is (.slice none 0 0)]) Tryz.zeroValue72 rfl (fun V=>aW zd (aG))) fun B6=>(dI Z_72 (Ht rfl) (Ht rfl) (i:=2) rfl (aK rfl) rfl (ra rfl (eZ (cK (ts (rm rfl (ro rfl (bT (Ht rfl) cV) (eZ (dQ (Ht rfl) (fun hc=>?_) (fun hc=>?_)))))))))))
 ·have h3 : nN z js ≠ 0 := by simpa using hc
  have he:pY z S js = nN z js:=DG h3
  refine ts (ro rfl (ae.imp (d9 ) da) (rm rfl (gJ Z_32 (Ht rfl) (Ht rfl) rfl (i:=1) rfl (aK rfl) rfl rfl (ra rfl (eZ (aC rfl (fJ (fY A_32 Z_32 rfl (i:=1) rfl rfl) ?_) (fJ (eY rfl) ?_)))))))
  ·exact (fun v V h=>by rw [pn,sV,cL,cL,he,if_neg h3,if_neg h3]; exact h)
  ·exact (am he.symm)
 ·have h3 : nN z js = 0 := by simpa using hc
  obtain ⟨hd,hne⟩:=pj h3
  have hok:By z js = gy js:=by rw [By,cL,if_pos h3]
  rw [hok]
  refine cU (cK (ts (ro rfl (fQ A_72 Z_72 (Ht rfl) (i:=2) rfl rfl) (ro rfl (dK U_72 (Ht rfl) (by rw [List.length_map,hll])) ?_))))
  refine ro rfl (aO (Ht rfl) (cJ 0)) (eZ (dQ (Ht rfl) (fun hc2=>?_) (fun hc2=>?_)))
  ·have h4 : js.length = 0 := by simp only [decide_eq_true_eq] at hc2; omega
   have he:pY z S js = 0:=yg h3 h4
   refine ts (ro rfl (eW A_32 Z_32 (Ht rfl) (i:=0) rfl rfl rfl) (gJ Z_32 (Ht rfl) (Ht rfl) rfl (i:=1) rfl (aK rfl) rfl rfl (ro rfl (cQ (cJ 0)) (eZ (aC rfl (fJ (fY A_32 Z_32 rfl (i:=1) rfl rfl) ?_) (fJ (eY rfl) ?_))))))
   ·exact (fun v V h=>by rw [pn,sV,cL,cL,he,if_pos h4,if_pos h4]; exact h)
   ·exact (am he.symm)
  ·have h4 : js.length ≠ 0 := by simp only [decide_eq_false_iff_not] at hc2; omega
   have hj:=qF hd
   have hjl:=CW hd
   have hm1:2 * js.length < z.length:=by omega
   obtain ⟨m,hm⟩:∃ m,m = 2 * js.length:=⟨_,rfl⟩
   have hg2:=hg js.length hm1
   have hx2:=hx js.length hm1
   have hxn:=Nat.le_trans (l6 (bh (L + 2) (2 * js.length)) (2 * js.length)) hx2
   have E8:=pS (z:=z) (s:=S) (G:=nM js) zo zo
   rw [wK] at E8
   have hfl:(bw z js).length ≤ z.length:=mu _ _
   have hfx:∀ x,x ∈ bw z js → x < z.length:=fun x h=>pw h
   rw [xa hd]
   refine cU (cK (gG (i:=0) (tt:=2) rfl rfl cf (gG (i:=2) (tt:=6) rfl rfl cC (cY (ro rfl (fm (γ:=Fin (2 * js.length)) (Ts:=fun x=>[NT .i64 x.1]) (U:=fun x=>av (S.getD (gq (dh js) (jf x.1)) [])) Tryz.call118 (fun x=>yK hS hd x.2 zo zo) ⟨(Ht rfl),(Ht rfl),trivial⟩) (rn rfl (eG (Ts:=[Is (.nilFunc)]) Tryz.zeroValue175 rfl (fun V=>aW zd (aG))) fun B8=>(dI Tryz.sizeOf175 (Ht rfl) (Ht rfl) (i:=3) rfl (aK rfl) rfl (eZ (cK (gG (i:=3) (tt:=8) rfl rfl cC ?_))))))))))
   refine cY (ro rfl (dV A_72 Z_72 (Ht rfl)) (ro rfl (dK U_72 (Ht rfl) (by rw [List.length_map,List.length_map,hJl])) ?_))
   refine ro rfl (fm (γ:=Fin (2 * js.length) × Fin (2 * js.length)) (Ts:=fun x=>[NT .i64 x.1.1,NT .i64 x.2.1]) (U:=fun x=>ab ((if x.1.1 = x.2.1 then Qi.ofInt 1 else Qi.ofInt 0) - gm S (gq (dh js) (jf x.1.1)) (gq (dh js) x.2.1))) Tryz.call119 (fun x=>zi hS hf hL hLb hd x.1.2 x.2.2 zo zo) ⟨(Ht rfl),(Ht rfl),trivial⟩) (ro rfl (cZ K_114 (mY (n:=2 * js.length) (f:=fun x y=>(if x = y then Qi.ofInt 1 else Qi.ofInt 0) - gm S (gq (dh js) (jf x)) (gq (dh js) y)) zo) ⟨(Ht rfl),(Ht rfl),trivial⟩) (ra rfl (eZ (ts (ro rfl (dV A_32 Z_32 (Ht rfl)) ?_)))))
   refine ro rfl (dV A_72 Z_72 (Ht rfl)) (ro rfl (cZ Tryz.call121 E8 ⟨(Ht rfl),(Ht rfl),trivial⟩) (ra rfl (eZ (ts (ro rfl (dV A_32 Z_32 (Ht rfl)) (rm rfl (gD Tryz.call122 (oV (Q:=bw z js) (m:=(bw z js).length) hS hfx rfl zo zo) ⟨(Ht rfl),(Ht rfl),trivial⟩ rfl (fun B47 _=>(rn rfl (eG (Ts:=[Is (.slice none 0 0),Is (.slice none 0 0)]) O_32 rfl (fun V=>aW zd (aW zd (aG)))) fun B11=>(gJ Z_32 (Ht rfl) (Ht rfl) rfl (i:=5) rfl (aK rfl) rfl rfl ?_))))))))))
   refine eZ (cK (ts (rm rfl (ro rfl (dK U_72 (Ht rfl) (by rw [List.length_map,List.length_map])) ?_))))
   refine ro rfl (cX (cJ 0)) (eZ (eK (aD [1,4,5] rfl (by decide) ?_)))
   refine b8 (fun (j : Nat) => j ≤ (bw z js).length ∧ ∀ y, y < j → fB (k8 S (dh js) (2 * js.length)) (nz S (dh js) (2 * js.length) ((bw z js).getD y 0)) (2 * js.length) = 0) (fun (j : Nat) => (bw z js).length - j) (fun (j : Nat) => [(2, PT (aM z S)), (4, aH B4 0), (6, PT (cD ((nM js).map Nat.succ))), (8, PT (mp Tryz.prog (Fin (2 * js.length)) (fun x => [NT .i64 x.1]) (fun x => av (S.getD (gq (dh js) (jf x.1)) [])))), (9, bp (k8 S (dh js) (2 * js.length))), (10, cD ((bw z js).map Nat.succ)), (11, aH B11 0), (48, cD ((bw z js).map Nat.succ)), (49, NT .i64 ((bw z js).length)), (50, NT .i64 j)]) (fun (j : Nat) => [box B4 32 [Is (.slice none 0 0), Is (.slice none 0 0)], gt B47 29 51 5 (bq ab (tab ((bw z js).length) fun i => (gj (fun y => oj S (dh js) (2 * js.length) (c4 (bw z js) i) (c4 (bw z js) y)) (fun y => gm S (c4 (bw z js) i) (c4 (bw z js) y)) (bw z js).length j))), box B11 32 [av (gz z (bw z js)), Is (.slice (some ⟨B47, 0, none⟩) ((bw z js).length) ((bw z js).length))]]) 0 ⟨Nat.zero_le _, fun y h => by omega⟩
    (zS rfl) (aU (a8 rfl) (aU (bO (congrArg (bq ab) (ba fun i _=>jP _ _ _))) (aU (a8 rfl) aY))) (fun j ⟨hjq,h0⟩=>?_)
   refine ts (ro rfl (gV (Ht rfl) (Ht rfl)) (eZ (cK (dQ (Ht rfl) (fun hd1=>?_) (fun hd1=>?_)))))
   ·have hjn : j < (bw z js).length := by simp only [decide_eq_true_eq] at hd1; omega
    have hFj:c4 (bw z js) j < z.length:=we hjn
    have hbf:aP (nz S (dh js) (2 * js.length) ((bw z js).getD j 0)) L:=yN hf hL
    refine cU (cK (eK (ts (rm rfl (ro rfl (dZ U_72 Z_3 (Ht rfl) (Ht rfl) rfl (eQ (gM hjn))) (ro rfl (dV A_3 Z_3 (Ht rfl)) (ra rfl (ra rfl (eZ (ts (ro rfl (dV A_72 Z_72 (Ht rfl)) (ro rfl (dK U_72 (Ht rfl) (by rw [List.length_map,List.length_map,hJl])) ?_))))))))))))
    refine rn rfl (cy (T:=ab Qi.zero) (i:=Tryz.t51) ef de rfl rfl (Ht rfl) rfl cw (El.ag rfl) (by show 88 * _ ≤ _; omega) zo) fun B57=>ra rfl (eZ (cK (ts (rm rfl (ro rfl (gH U_29 (Ht rfl) (i:=3) rfl (show ((List.replicate (2 * js.length) (ab Qi.zero)).length:Int) = ((2 * js.length:Nat):Int) from by simp)) (ro rfl (cX (cJ 0)) (eZ (eK ?_))))))))
    refine b8 (fun (x : Nat) => x ≤ 2 * js.length) (fun (x : Nat) => 2 * js.length - x) (fun (x : Nat) => [(2, PT (aM z S)), (4, aH B4 0), (6, PT (cD ((nM js).map Nat.succ))), (8, PT (mp Tryz.prog (Fin (2 * js.length)) (fun x => [NT .i64 x.1]) (fun x => av (S.getD (gq (dh js) (jf x.1)) [])))), (9, bp (k8 S (dh js) (2 * js.length))), (10, cD ((bw z js).map Nat.succ)), (11, aH B11 0), (12, NT .i64 j), (13, NT .i64 (c4 (bw z js) j + 1)), (14, Is B57), (48, cD ((bw z js).map Nat.succ)), (49, NT .i64 ((bw z js).length)), (50, NT .i64 j), (59, NT .i64 (2 * js.length)), (60, NT .i64 x)]) (fun (x : Nat) => [box B4 32 [Is (.slice none 0 0), Is (.slice none 0 0)], gt B47 29 51 5 (bq ab (tab ((bw z js).length) fun i => (gj (fun y => oj S (dh js) (2 * js.length) (c4 (bw z js) i) (c4 (bw z js) y)) (fun y => gm S (c4 (bw z js) i) (c4 (bw z js) y)) (bw z js).length j))), box B11 32 [av (gz z (bw z js)), Is (.slice (some ⟨B47, 0, none⟩) ((bw z js).length) ((bw z js).length))], aE 51 5 B57 ((dN (fun x => gm S (gq (dh js) (jf x)) (c4 (bw z js) j)) Qi.zero (2 * js.length) x).map ab)]) 0 (Nat.zero_le _)
     (zS rfl) (aU (a8 rfl) (aU (fun _ _ _ h=>h) (aU (a8 rfl) (aU (ar (by rw [← cP]; exact gL ab _)) aY)))) (fun x hx1=>?_)
    refine ts (ro rfl (gV (Ht rfl) (Ht rfl)) (eZ (cK (dQ (Ht rfl) (fun hd2=>?_) (fun hd2=>?_)))))
    ·have hxm : x < 2 * js.length := by simp only [decide_eq_true_eq] at hd2; omega
     have hgx:=hj.lt (jf x) (sE hxm)
     have hSr:=hS.row hgx
     refine cU (cK (eK (ts (rm rfl (ra rfl (eZ (cY (rm rfl (rm rfl (ro rfl (dV Tryz.isAgg175 Tryz.sizeOf175 (Ht rfl)) (rm rfl (ro rfl (i6 (Ts:=fun x:Fin (2 * js.length)=>[NT .i64 x.1]) ⟨x,hxm⟩ (Ht rfl) ⟨(Ht rfl),trivial⟩) (rm rfl (ro rfl (ae.nat (dG (Ht rfl) (cJ 1) zo z6) (show c4 (bw z js) j + 1 - 1 = c4 (bw z js) j by omega)) (ro rfl (dZ U_29 Z_51 (Ht rfl) (Ht rfl) rfl (eQ (dY (d:=Qi.zero) (show c4 (bw z js) j < (S.getD (gq (dh js) (jf x)) []).length by omega)))) ?_)))))))))))))))
     refine ro rfl (dV A_51 Z_51 (Ht rfl)) (ro rfl (bi U_29 Z_51 (Ht rfl) (Ht rfl) rfl (i:=3) rfl (by rw [List.length_map,b9]; omega) rfl) ?_)
     refine eL Z_51 (Ht rfl) (Ht rfl) (El.ag rfl) (i:=3) rfl rfl (by rw [List.length_map,b9]; omega) rfl ?_
     refine eZ (aB (cY (ro rfl (dW (Ht rfl) (cJ 1) z6) (rm rfl (eZ (gQ (x + 1) hxm zo (zS rfl) (aU (a8 rfl) (aU (fun _ _ _ h=>h) (aU (a8 rfl) (aU (ar (by rw [c9]; exact congrArg _ (dC (f:=(fun x=>gm S (gq (dh js) (jf x)) (c4 (bw z js) j)))))) aY))))))))))
    ·have hxm : x = 2 * js.length := by simp only [decide_eq_false_iff_not] at hd2; omega
     rw [hxm,dD]
     refine gK rfl (gG (i:=3) (tt:=14) rfl rfl cg (ts (rm rfl (rm rfl (ro rfl (cZ Tryz.call96 (tF (M:=k8 S (dh js) (2 * js.length)) (b:=nz S (dh js) (2 * js.length) ((bw z js).getD j 0)) (n:=2 * js.length) (L:=L + 2) (mw _ _ _) (ao _ _) (sM hf hL) (hbf.le zo) zo zo zo hg2 zo) ⟨(Ht rfl),(Ht rfl),trivial⟩) (rm rfl (ro rfl (dU (Ht rfl) rfl) (ro rfl (dU (Ht rfl) rfl) (ra rfl (ra rfl (eZ (cK (ts (rm rfl (ro rfl (bT (Ht rfl) cV) (eZ (dQ (Ht rfl) (fun hc3=>?_) (fun hc3=>?_))))))))))))))))))
     ·have h5 : fB (k8 S (dh js) (2 * js.length)) (nz S (dh js) (2 * js.length) ((bw z js).getD j 0)) (2 * js.length) ≠ 0 := by simpa using hc3
      have h6:uT z S js ≠ 0:=fun k=>h5 (dw k j hjn)
      have he:pY z S js = 6:=(rT h3 h4).trans (if_neg h6)
      refine ts (ro rfl (ae.imp (d9 ) da) (gJ Z_32 (Ht rfl) (Ht rfl) rfl (i:=0) rfl (aK rfl) rfl rfl (ro rfl (cQ (cJ 6)) (eZ (aC rfl (fJ (fY A_32 Z_32 rfl (i:=0) rfl rfl) ?_) (fJ (eY rfl) ?_))))))
      ·exact (fun v V h=>by rw [pn,sV,cL,cL,he]; exact h)
      ·exact (am he.symm)
     ·have h5 : fB (k8 S (dh js) (2 * js.length)) (nz S (dh js) (2 * js.length) ((bw z js).getD j 0)) (2 * js.length) = 0 := by simpa using hc3
      have hxf:=yn (mw S (dh js) (2 * js.length)) (sM hf hL) (hbf.le zo) zo h5
      have hxl:(fC (k8 S (dh js) (2 * js.length)) (nz S (dh js) (2 * js.length) ((bw z js).getD j 0)) (2 * js.length)).length = 2 * js.length:=vf _ _ _
      have hGe:L + 2 ≤ iB (bh (L + 2) (2 * js.length)) (2 * js.length):=Nat.le_trans (jZ (L + 2) (2 * js.length)) (pR _ _)
      obtain ⟨G,hG⟩:∃ G,G = iB (bh (L + 2) (2 * js.length)) (2 * js.length):=⟨_,rfl⟩
      rw [← hG] at hxf hGe hxn
      have hmG:2 * js.length * (2 * G + 2) ≤ 18 * (2 * G + 2):=Nat.mul_le_mul_right _ zo
      have hokx:cL (fB (k8 S (dh js) (2 * js.length)) (nz S (dh js) (2 * js.length) ((bw z js).getD j 0)) (2 * js.length)) (fC (k8 S (dh js) (2 * js.length)) (nz S (dh js) (2 * js.length) ((bw z js).getD j 0)) (2 * js.length)) = fC (k8 S (dh js) (2 * js.length)) (nz S (dh js) (2 * js.length) ((bw z js).getD j 0)) (2 * js.length):=by rw [cL,if_pos h5]
      rw [hokx]
      refine cU (ts (rm rfl (ro rfl (dK U_72 (Ht rfl) (by rw [List.length_map,List.length_map])) ?_)))
      refine ro rfl (cX (cJ 0)) (eZ (eK (aD [0,1,2] rfl (by decide) ?_)))
      refine b8 (fun (i : Nat) => i ≤ (bw z js).length) (fun (i : Nat) => (bw z js).length - i) (fun (i : Nat) => [(2, PT (aM z S)), (4, aH B4 0), (6, PT (cD ((nM js).map Nat.succ))), (8, PT (mp Tryz.prog (Fin (2 * js.length)) (fun x => [NT .i64 x.1]) (fun x => av (S.getD (gq (dh js) (jf x.1)) [])))), (9, bp (k8 S (dh js) (2 * js.length))), (10, cD ((bw z js).map Nat.succ)), (11, aH B11 0), (12, NT .i64 j), (16, av (fC (k8 S (dh js) (2 * js.length)) (nz S (dh js) (2 * js.length) ((bw z js).getD j 0)) (2 * js.length))), (48, cD ((bw z js).map Nat.succ)), (49, NT .i64 ((bw z js).length)), (50, NT .i64 j), (83, cD ((bw z js).map Nat.succ)), (84, NT .i64 ((bw z js).length)), (85, NT .i64 i)]) (fun (i : Nat) => [box B4 32 [Is (.slice none 0 0), Is (.slice none 0 0)], gt B47 29 51 5 (bq ab (gj (fun i => (gj (fun y => oj S (dh js) (2 * js.length) (c4 (bw z js) i) (c4 (bw z js) y)) (fun y => gm S (c4 (bw z js) i) (c4 (bw z js) y)) (bw z js).length (j + 1))) (fun i => (gj (fun y => oj S (dh js) (2 * js.length) (c4 (bw z js) i) (c4 (bw z js) y)) (fun y => gm S (c4 (bw z js) i) (c4 (bw z js) y)) (bw z js).length j)) ((bw z js).length) i)), box B11 32 [av (gz z (bw z js)), Is (.slice (some ⟨B47, 0, none⟩) ((bw z js).length) ((bw z js).length))]]) 0 (Nat.zero_le _)
       (zS rfl) (aU (a8 rfl) (aU (bO (congrArg (bq ab) (jP _ _ _))) (aU (a8 rfl) aY))) (fun i hi=>?_)
      refine ts (ro rfl (gV (Ht rfl) (Ht rfl)) (eZ (cK (dQ (Ht rfl) (fun hd4=>?_) (fun hd4=>?_)))))
      ·have hin : i < (bw z js).length := by simp only [decide_eq_true_eq] at hd4; omega
       have hFi:c4 (bw z js) i < z.length:=we hin
       have hSr:=hS.row hFi
       refine cU (cK (eK (ts (rm rfl (ro rfl (dZ U_72 Z_3 (Ht rfl) (Ht rfl) rfl (eQ (gM hin))) (ro rfl (dV A_3 Z_3 (Ht rfl)) (ra rfl (ra rfl (eZ (ts (ro rfl (dV A_72 Z_72 (Ht rfl)) (ro rfl (dK U_72 (Ht rfl) (by rw [List.length_map,List.length_map,hJl])) ?_))))))))))))
       refine rn rfl (cy (T:=ab Qi.zero) (i:=Tryz.t51) ef de rfl rfl (Ht rfl) rfl cw (El.ag rfl) (by show 88 * _ ≤ _; omega) zo) fun B92=>ra rfl (eZ (cK (ts (ro rfl (dV A_72 Z_72 (Ht rfl)) (ro rfl (dK U_72 (Ht rfl) (by rw [List.length_map,List.length_map,hJl])) ?_)))))
       refine ro rfl (cX (cJ 0)) (eZ (eK ?_))
       refine b8 (fun (x : Nat) => x ≤ 2 * js.length) (fun (x : Nat) => 2 * js.length - x) (fun (x : Nat) => [(2, PT (aM z S)), (4, aH B4 0), (6, PT (cD ((nM js).map Nat.succ))), (8, PT (mp Tryz.prog (Fin (2 * js.length)) (fun x => [NT .i64 x.1]) (fun x => av (S.getD (gq (dh js) (jf x.1)) [])))), (9, bp (k8 S (dh js) (2 * js.length))), (10, cD ((bw z js).map Nat.succ)), (11, aH B11 0), (12, NT .i64 j), (16, av (fC (k8 S (dh js) (2 * js.length)) (nz S (dh js) (2 * js.length) ((bw z js).getD j 0)) (2 * js.length))), (18, NT .i64 i), (19, NT .i64 (c4 (bw z js) i + 1)), (20, Is B92), (48, cD ((bw z js).map Nat.succ)), (49, NT .i64 ((bw z js).length)), (50, NT .i64 j), (83, cD ((bw z js).map Nat.succ)), (84, NT .i64 ((bw z js).length)), (85, NT .i64 i), (93, cD ((nM js).map Nat.succ)), (94, NT .i64 (2 * js.length)), (95, NT .i64 x)]) (fun (x : Nat) => [box B4 32 [Is (.slice none 0 0), Is (.slice none 0 0)], gt B47 29 51 5 (bq ab (gj (fun i => (gj (fun y => oj S (dh js) (2 * js.length) (c4 (bw z js) i) (c4 (bw z js) y)) (fun y => gm S (c4 (bw z js) i) (c4 (bw z js) y)) (bw z js).length (j + 1))) (fun i => (gj (fun y => oj S (dh js) (2 * js.length) (c4 (bw z js) i) (c4 (bw z js) y)) (fun y => gm S (c4 (bw z js) i) (c4 (bw z js) y)) (bw z js).length j)) ((bw z js).length) i)), box B11 32 [av (gz z (bw z js)), Is (.slice (some ⟨B47, 0, none⟩) ((bw z js).length) ((bw z js).length))], aE 51 5 B92 ((dN (fun x => gm S (c4 (bw z js) i) (gq (dh js) x)) Qi.zero (2 * js.length) x).map ab)]) 0 (Nat.zero_le _)
        (zS rfl) (aU (a8 rfl) (aU (fun _ _ _ h=>h) (aU (a8 rfl) (aU (ar (by rw [← cP]; exact gL ab _)) aY)))) (fun x hx1=>?_)
       refine ts (ro rfl (gV (Ht rfl) (Ht rfl)) (eZ (cK (dQ (Ht rfl) (fun hd5=>?_) (fun hd5=>?_)))))
       ·have hxm : x < 2 * js.length := by simp only [decide_eq_true_eq] at hd5; omega
        have hat:c4 (nM js) x = gq (dh js) x:=sx hxm
        have hgx:=hj.lt x hxm
        refine cU (cK (eK (ts (rm rfl (ro rfl (dZ U_72 Z_3 (Ht rfl) (Ht rfl) rfl (eQ (gM zo))) (ro rfl (dV A_3 Z_3 (Ht rfl)) (ra rfl (ra rfl (eZ (cY (rm rfl (rm rfl (ro rfl (dB bn (Ht rfl) rfl) (ro rfl (dV A_30 Z_30 (Ht rfl)) (rm rfl (ro rfl (ae.nat (dG (Ht rfl) (cJ 1) zo z6) (show c4 (bw z js) i + 1 - 1 = c4 (bw z js) i by omega)) (ro rfl (dZ U_30 Z_29 (Ht rfl) (Ht rfl) rfl (eQ (dY (d:=[]) (show c4 (bw z js) i < S.length by omega)))) ?_)))))))))))))))))
        refine ro rfl (dV A_29 Z_29 (Ht rfl)) (rm rfl (ro rfl (ae.nat (dG (Ht rfl) (cJ 1) zo z6) (show c4 (nM js) x + 1 - 1 = gq (dh js) x by omega)) (ro rfl (dZ U_29 Z_51 (Ht rfl) (Ht rfl) rfl (eQ (dY (d:=Qi.zero) (show gq (dh js) x < (S.getD (c4 (bw z js) i) []).length by omega)))) (ro rfl (dV A_51 Z_51 (Ht rfl)) (ro rfl (bi U_29 Z_51 (Ht rfl) (Ht rfl) rfl (i:=3) rfl (by rw [List.length_map,b9]; omega) rfl) ?_)))))
        refine eL Z_51 (Ht rfl) (Ht rfl) (El.ag rfl) (i:=3) rfl rfl (by rw [List.length_map,b9]; omega) rfl ?_
        refine eZ (aB (cY (ro rfl (dW (Ht rfl) (cJ 1) z6) (rm rfl (eZ (gQ (x + 1) hxm zo (zS rfl) (aU (a8 rfl) (aU (fun _ _ _ h=>h) (aU (a8 rfl) (aU (ar (by rw [c9]; exact congrArg _ (dC (f:=(fun x=>gm S (c4 (bw z js) i) (gq (dh js) x)))))) aY))))))))))
       ·have hxm : x = 2 * js.length := by simp only [decide_eq_false_iff_not] at hd5; omega
        rw [hxm,dD]
        refine gK rfl (gG (i:=3) (tt:=20) rfl rfl cg (aD [0,1,2] rfl (by decide) (ip 1 (i) rfl (o7 hin) (fun v0=>?_))))
        have hrl:=hJ (fun y=>oj S (dh js) (2 * js.length) (c4 (bw z js) i) (c4 (bw z js) y)) (fun y=>gm S (c4 (bw z js) i) (c4 (bw z js) y)) ((bw z js).length) j
        have hrf:aP (tab (2 * js.length) (fun x=>gm S (c4 (bw z js) i) (gq (dh js) x))) G:=aP.tab fun x _=>(hf.get hL _ _).le zo
        have hro : ((gj (fun y => oj S (dh js) (2 * js.length) (c4 (bw z js) i) (c4 (bw z js) y)) (fun y => gm S (c4 (bw z js) i) (c4 (bw z js) y)) (bw z js).length j)).set j (k9 (gm S (c4 (bw z js) i) (c4 (bw z js) j)) (tab (2 * js.length) (fun x => gm S (c4 (bw z js) i) (gq (dh js) x))) (fC (k8 S (dh js) (2 * js.length)) (nz S (dh js) (2 * js.length) ((bw z js).getD j 0)) (2 * js.length)) (2 * js.length)) = (gj (fun y => oj S (dh js) (2 * js.length) (c4 (bw z js) i) (c4 (bw z js) y)) (fun y => gm S (c4 (bw z js) i) (c4 (bw z js) y)) (bw z js).length (j + 1)) := by
         rw [BQ]; exact ll (f:=fun y=>oj S (dh js) (2 * js.length) (c4 (bw z js) i) (c4 (bw z js) y))
        refine fV (m:=17) (dp 11 rfl (eJ bn (Ht rfl) rfl) (dq 114 0 rfl (fQ A_30 Z_30 (Ht rfl) (i:=2) rfl rfl) (dp 18 rfl (cX (Ht rfl)) (bv 115 1 116 2 rfl (gX U_30 Z_29 (Ht rfl) (Ht rfl) rfl zo (by rw [Nat.mul_one,Nat.zero_add])) ?_))))
        refine dq 117 3 rfl (fO A_29 Z_29 (Ht rfl) (j:=1) rfl) (dp 12 rfl (cX (Ht rfl)) (dp 11 rfl (eJ bn (Ht rfl) rfl) (dq 120 6 rfl (fQ A_30 Z_30 (Ht rfl) (i:=2) rfl rfl) (dp 18 rfl (cX (Ht rfl)) (bv 121 7 122 8 rfl (gX U_30 Z_29 (Ht rfl) (Ht rfl) rfl zo (by rw [Nat.mul_one,Nat.zero_add])) ?_)))))
        refine dq 123 9 rfl (fO A_29 Z_29 (Ht rfl) (j:=1) rfl) (dp 12 rfl (cX (Ht rfl)) (bv 124 10 125 11 rfl (bi U_29 Z_51 (Ht rfl) (Ht rfl) rfl (i:=3) rfl (by simp only [List.length_map,hrl]; omega) rfl) ?_))
        refine dq 126 12 rfl (ku A_51 Z_51 (Ht rfl) (i:=3) rfl rfl (eQ (mL hjn))) (dp 20 rfl (cX (Ht rfl)) (dp 16 rfl (cX (Ht rfl)) (C.D_step (Ei:=[(127,_),(128,_),(129,_)]) rfl rfl (bV (bG 13 rfl rfl) (bV (bG 14 rfl rfl) (bV (bG 15 rfl rfl) bW))) (dX rfl (cZ Tryz.call123 (Ds (x:=gm S (c4 (bw z js) i) (c4 (bw z js) j)) (l:=tab (2 * js.length) (fun x=>gm S (c4 (bw z js) i) (gq (dh js) x))) (m:=fC (k8 S (dh js) (2 * js.length)) (nz S (dh js) (2 * js.length) ((bw z js).getD j 0)) (2 * js.length)) (L:=G) (M:=L) (n:=2 * js.length) (hf.get hL _ _) hrf hxf zo (ao _ _) hxl zo zo) ⟨(Ht rfl),(Ht rfl),(Ht rfl),trivial⟩)) ?_)))
        refine fG aA rfl (by kernel_rfl) (zF (zF (zF (zF (aJ (aV (ro rfl (bi U_29 Z_51 (Ht rfl) (Ht rfl) rfl (i:=3) rfl (by simp only [List.length_map,hrl]; omega) rfl) ?_)))))))
        refine eL Z_51 (Ht rfl) (Ht rfl) (El.ag rfl) (i:=3) rfl rfl (by simp only [List.length_map,hrl]; omega) rfl ?_
        refine eZ (eH 1 3 rfl rfl (by decide) (by simp only [bq,List.length_map,hJ]; omega) ?_)
        refine aB (cY (ro rfl (dW (Ht rfl) (cJ 1) z6) (rm rfl (eZ (aD [0,1,2] rfl (by decide) (gQ (i + 1) hin zo (zS rfl) (aU (a8 rfl) (aU (bO (by rw [c9,hro,eN]; exact congrArg _ (ll (f:=fun i=>(gj (fun y=>oj S (dh js) (2 * js.length) (c4 (bw z js) i) (c4 (bw z js) y)) (fun y=>gm S (c4 (bw z js) i) (c4 (bw z js) y)) (bw z js).length (j + 1)))))) (aU (a8 rfl) aY)))))))))
      ·have hin : i = (bw z js).length := by simp only [decide_eq_false_iff_not] at hd4; omega
       rw [hin,kS]
       refine gK rfl (aB (cY (ro rfl (dW (Ht rfl) (cJ 1) z6) (rm rfl (eZ ?_)))))
       refine gQ (j + 1) ⟨hjn, fun y h => by
         by_cases e:y = j
         ·rw [e]; exact h5
         ·exact h0 y zo⟩ zo (zS rfl) (aU (a8 rfl) (aU (fun _ _ _ h=>h) (aU (a8 rfl) aY)))
   ·have hjn : j = (bw z js).length := by simp only [decide_eq_false_iff_not] at hd1; omega
    rw [hjn] at h0
    have h6:uT z S js = 0:=d8 h0
    have he:pY z S js = 0:=(rT h3 h4).trans (if_pos h6)
    rw [hjn,show (tab ((bw z js).length) fun i=>(gj (fun y=>oj S (dh js) (2 * js.length) (c4 (bw z js) i) (c4 (bw z js) y)) (fun y=>gm S (c4 (bw z js) i) (c4 (bw z js) y)) (bw z js).length (bw z js).length)) = zf z S js from ba fun i _=>kS _ _ _]
    refine gK rfl (cK (ky 2 1 1 rfl rfl rfl (by decide) (BN (q:=fun _=>True) (M:=zf z S js) (ao _ _).symm) (cY (ro rfl (eW A_32 Z_32 (Ht rfl) (i:=2) rfl rfl rfl) (gJ Z_32 (Ht rfl) (Ht rfl) rfl (i:=0) rfl (aK rfl) rfl rfl (ro rfl (cQ (cJ 0)) (eZ (aC rfl (fJ (fY A_32 Z_32 rfl (i:=0) rfl rfl) ?_) (fJ (eY rfl) ?_)))))))))
    ·exact (fun v V h=>by rw [pn,sV,cL,cL,he,if_neg h4,if_neg h4]; exact h)
    ·exact (am he.symm)
end
section
open Go Go.RowKit
def E2 (S:Nat → Nat → Qi) (p q b:Nat) (v0 v1:Qi):Prop:=v0 = S q b + (S q p * v0 + S q q * v1) ∧ v1 = S p b + (S p p * v0 + S p q * v1)
def yW (S:Nat → Nat → Qi) (p q:Nat):Prop:=∀ v0 v1:Qi,v0 = S q p * v0 + S q q * v1 → v1 = S p p * v0 + S p q * v1 → v0 = 0 ∧ v1 = 0
theorem yM {M:List (List Qi)} {b:List Qi} {n:Nat} (h:bM M n n):fB M b n = 0 ↔ ∀ y:Nat → Qi,(∀ i,i < n → bA n (fun k=>gm M i k * y k) = 0) → ∀ k,k < n → y k = 0:=by
 constructor
 ·intro e; exact (qQ h e).2
 ·intro hk
  apply Classical.byContradiction; intro e
  obtain ⟨y,hy,k,hkn,hne⟩:=xv h e
  exact hne (hk y hy k hkn)
theorem sr (f:Nat → Qi):bA 2 f = f 0 + f 1:=by simp only [bA,q0]; grind
section
variable {S:List (List Qi)} {p q r t a b:Nat}
abbrev J1 (p q:Nat):List (Int × Int):=[(((p + 1:Nat):Int),((q + 1:Nat):Int))]
theorem DH (p:Nat):(((p + 1:Nat):Int) - 1).toNat = p:=by omega
theorem Dl:dh (J1 p q) = [(p,q)]:=by simp only [dh,J1,List.map_cons,List.map_nil,DH]
theorem E9:nM (J1 p q) = [p,q]:=by
 have e:nM (J1 p q) = [(((p + 1:Nat):Int) - 1).toNat,(((q + 1:Nat):Int) - 1).toNat]:=rfl
 rw [e,DH,DH]
theorem Bb {v:Nat → Qi}:(bA 2 (fun y=>gm (k8 S [(p,q)] 2) 0 y * v y) = v 0 - (gm S q p * v 0 + gm S q q * v 1)) ∧ (bA 2 (fun y=>gm (k8 S [(p,q)] 2) 1 y * v y) = v 1 - (gm S p p * v 0 + gm S p q * v 1)):=by
 rw [sY zo,sY zo,sr,sr]
 exact ⟨rfl,rfl⟩
theorem uO {x y:Qi} (h:x - y = 0):x = y:=by grind
theorem tp {bb:List Qi}:fB (k8 S [(p,q)] 2) bb 2 = 0 ↔ yW (gm S) p q:=by
 rw [yM (mw _ _ _)]
 constructor
 ·intro h v0 v1 h0 h1
  have hk := h (fun k => if k = 0 then v0 else v1) (fun i hi => by
   obtain ⟨r0,r1⟩:=Bb (S:=S) (p:=p) (q:=q) (v:=fun k=>if k = 0 then v0 else v1)
   have c:i = 0 ∨ i = 1:=by omega
   rcases c with rfl | rfl
   ·rw [r0]; show v0 - (gm S q p * v0 + gm S q q * v1) = 0; clear r0 r1 h; grind
   ·rw [r1]; show v1 - (gm S p p * v0 + gm S p q * v1) = 0; clear r0 r1 h; grind)
  exact ⟨hk 0 zo,hk 1 zo⟩
 ·intro h y hy
  obtain ⟨r0,r1⟩:=Bb (S:=S) (p:=p) (q:=q) (v:=y)
  obtain ⟨a0,a1⟩:=h (y 0) (y 1) (uO (by rw [← r0]; exact hy 0 zo)) (uO (by rw [← r1]; exact hy 1 zo))
  intro k hk
  have c:k = 0 ∨ k = 1:=by omega
  rcases c with rfl | rfl
  ·exact a0
  ·exact a1
theorem CO (h:yW (gm S) p q):∃ v0 v1,E2 (gm S) p q b v0 v1 ∧ ∀ a,oj S [(p,q)] 2 a b = gm S a b + (gm S a p * v0 + gm S a q * v1):=by
 have hs:=(qQ (mw S [(p,q)] 2) (tp (bb:=nz S [(p,q)] 2 b) |>.2 h)).1
 obtain ⟨r0,r1⟩:=Bb (S:=S) (p:=p) (q:=q) (v:=gv (fC (k8 S [(p,q)] 2) (nz S [(p,q)] 2 b) 2))
 have h0:=hs 0 zo
 have h1:=hs 1 zo
 rw [r0,wZ zo] at h0
 rw [r1,wZ zo] at h1
 refine ⟨gv (fC (k8 S [(p,q)] 2) (nz S [(p,q)] 2 b) 2) 0,gv (fC (k8 S [(p,q)] 2) (nz S [(p,q)] 2 b) 2) 1,⟨?_,?_⟩,fun a=>?_⟩
 ·have e : gm S (gq [(p, q)] (jf 0)) b = gm S q b := rfl
  rw [e] at h0; clear r0 r1 hs h h1; grind
 ·have e : gm S (gq [(p, q)] (jf 1)) b = gm S p b := rfl
  rw [e] at h1; clear r0 r1 hs h h0; grind
 ·rw [oj,sr]; rfl
end
section
variable {S:Nat → Nat → Qi} {p q r t a b:Nat}
def S1 (S:Nat → Nat → Qi) (p q:Nat) (V:Nat → Qi × Qi) (a b:Nat):Qi:=S a b + (S a p * (V b).1 + S a q * (V b).2)
variable {V:Nat → Qi × Qi}
end
end
section
open Go Go.RowKit
def low (c a b:Nat):Nat:=c - (if a < c then 1 else 0) - (if b < c then 1 else 0)
def okP (N p q r t : Nat) : Bool :=
 decide ((gx [p,q] N).length = N - 2) && decide (low r p q < N - 2) && decide (low t p q < N - 2) && decide (low r p q ≠ low t p q) && decide (c4 (gx [p,q] N) (low r p q) = r) && decide (c4 (gx [p,q] N) (low t p q) = t)
 && decide ((gx [low r p q,low t p q] (N - 2)).map (c4 (gx [p,q] N)) = gx [p,q,r,t] N) && decide ((gx [p,q,r,t] N).length = N - 4) && decide (gx [t,r,p,q] N = gx [p,q,r,t] N) && decide (gx [r,t,p,q] N = gx [p,q,r,t] N)
theorem om {n p:Nat} {l:List Nat} (hp:p < n) (h:p ∉ l):bu n ((p + 1:Nat):Int) (l.map fun (x:Nat)=>((x + 1:Nat):Int)) = 0:=by
 rw [bu,if_neg (fun k=>k ⟨by omega,by omega⟩),if_neg]
 simp only [List.any_map,List.any_eq_true,Function.comp,decide_eq_true_eq]
 rintro ⟨x,hx,e⟩
 exact h ((show x = p by omega) ▸ hx)
section
variable {z:List Qi} {S:List (List Qi)} {N p q r t:Nat} {ζ:Qi}
theorem Bg {js:List (Int × Int)} {k:Nat} {a b:Nat} {l:List Nat} (hk:fy js k = (((a + 1:Nat):Int),((b + 1:Nat):Int))) (hl:gy (js.take k) = l.map fun (x:Nat)=>((x + 1:Nat):Int)) (ha:a < z.length) (hb:b < z.length) (hal:a ∉ l) (hbl:b ∉ l) (hab:a ≠ b) (hz:gv z a = gv z b):kP z js k = 0:=by
 have e2:(l.map fun (x:Nat)=>((x + 1:Nat):Int)) ++ [((a + 1:Nat):Int)] = (l ++ [a]).map fun (x:Nat)=>((x + 1:Nat):Int):=by simp
 rw [kP,hk,hl]
 simp only []
 rw [e2,om ha hal,om hb (by simp only [List.mem_append,List.mem_singleton]; rintro (k | k); exact hbl k; exact hab k.symm),DH,DH,if_pos hz]; rfl
theorem uQ {f : Nat → Int} {n : Nat} {P : Prop} (hn : 1 ≤ n) (h : ∀ i, f i = 0 ↔ P) : dL f n = 0 ↔ P :=
 ⟨fun e=>(h 0).1 (dw e 0 zo),fun k=>d8 fun i _=>(h i).2 k⟩
theorem C8:bw z (J1 p q) = gx [p,q] z.length:=by rw [bw,E9]
theorem DK (h:pY z S (J1 p q) = 0):sV z S (J1 p q) = (tab (gx [p,q] z.length).length fun x=>tab (gx [p,q] z.length).length fun y=>oj S [(p,q)] 2 (c4 (gx [p,q] z.length) x) (c4 (gx [p,q] z.length) y)) ∧ pn z S (J1 p q) = gz z (gx [p,q] z.length):=by
 have e:zf z S (J1 p q) = tab (bw z (J1 p q)).length fun x=>tab (bw z (J1 p q)).length fun y=>oj S (dh (J1 p q)) 2 (c4 (bw z (J1 p q)) x) (c4 (bw z (J1 p q)) y):=rfl
 constructor
 ·rw [sV,cL,if_pos h,if_neg (by simp),e,C8,Dl]
 ·rw [pn,cL,if_pos h,if_neg (by simp),AW,C8]
end
end
section
open Go Go.RowKit
theorem kz {s f:List (List Qi)} {p n i j:Nat} (hi:i < n) (hj:j < n):gm (iD s f p n) i j = pZ s f p i j:=sc hi hj
theorem gb {s f:List (List Qi)} {p n i j:Nat} (hi:i < n) (hj:j < n):gm (ja s f p n) i j = gI s f p i j:=sc hi hj
theorem x4 {x : Qi} (h : x ≠ 0) : Qi.inv x ≠ 0 := fun e => by
 have a:=cM h
 rw [e] at a
 have b:(0:Qi) = 1:=by rw [← a]; grind
 have:=congrArg Qi.re b; revert this; decide
theorem pK {x y : Qi} (hx : x ≠ 0) (hy : y ≠ 0) : x * y ≠ 0 := fun e => by
 rcases jt e with h | h
 ·exact hx h
 ·exact hy h
section
variable {s f:List (List Qi)} {p n:Nat}
theorem yb (hp:p < n) (hD:er s f p ≠ 0) (h1:gm f 0 1 ≠ 0) (h2:gm f 1 0 ≠ 0):i9 (ja s f p n) f p = gm f 0 1 * gm f 1 0 * Qi.inv (er s f p):=by
 have u:=cM hD
 rw [i9,gb hp hp,gI,if_pos ⟨rfl,rfl⟩,Qi.div_def]
 have e:er s f p = 1 - gm f 1 1 * gm s p p:=rfl
 generalize Qi.inv (er s f p) = v at u ⊢
 rw [e] at u
 clear e hD h1 h2 hp
 grind
theorem D5 (hs:bM s n n) (hp:p < n) (hD:er s f p ≠ 0) (h1:gm f 0 1 ≠ 0) (h2:gm f 1 0 ≠ 0):i9 (ja s f p n) f p ≠ 0 ∧ iD (ja s f p n) f p n = s:=by
 have hd:=yb hp hD h1 h2
 have hi:=x4 hD
 have hne:i9 (ja s f p n) f p ≠ 0:=by rw [hd]; exact pK (pK h1 h2) hi
 refine ⟨hne,tv bM.tab hs fun i hi' j hj'=>?_⟩
 have u:=cM hD
 rw [kz hi' hj',pZ]
 by_cases a:i = p
 ·by_cases b : j = p
  ·rw [if_pos ⟨a, b⟩, a, b]
   refine kv hne ?_
   rw [hd,gb hp hp,gI,if_pos ⟨rfl,rfl⟩,Qi.div_def]; grind
  ·rw [if_neg (fun k => b k.2), if_neg b, if_pos a, a]
   have e : gm (ja s f p n) p j / i9 (ja s f p n) f p = gm s p j * Qi.inv (gm f 1 0) := by
    have w:=cM h2
    refine kv hne ?_
    rw [hd,gb hp hj',gI,if_neg (fun k=>b k.2),if_neg b,if_pos rfl,Qi.div_def]
    generalize Qi.inv (er s f p) = v
    generalize Qi.inv (gm f 1 0) = q at w ⊢
    clear u hne hi hd hD
    have e2:gm s p j * q * (gm f 0 1 * gm f 1 0 * v) = gm s p j * (gm f 1 0 * q) * gm f 0 1 * v:=by grind
    rw [e2,w]; grind
   rw [e]
   have w:=cM h2
   grind
 ·by_cases b : j = p
  ·rw [if_neg (fun k => a k.1), if_pos b, b]
   have e : gm (ja s f p n) i p / i9 (ja s f p n) f p = gm s i p * Qi.inv (gm f 0 1) := by
    have w:=cM h1
    refine kv hne ?_
    rw [hd,gb hi' hp,gI,if_neg (fun k=>a k.1),if_pos rfl,Qi.div_def]
    generalize Qi.inv (er s f p) = v
    generalize Qi.inv (gm f 0 1) = q at w ⊢
    clear u hne hi hd hD
    have e2:gm s i p * q * (gm f 0 1 * gm f 1 0 * v) = gm s i p * (gm f 0 1 * q) * gm f 1 0 * v:=by grind
    rw [e2,w]; grind
   rw [e]
   have w:=cM h1
   grind
  ·rw [if_neg (fun k => a k.1), if_neg b, if_neg a]
   have e : gm (ja s f p n) i p / i9 (ja s f p n) f p = gm s i p * Qi.inv (gm f 0 1) := by
    have w:=cM h1
    refine kv hne ?_
    rw [hd,gb hi' hp,gI,if_neg (fun k=>a k.1),if_pos rfl,Qi.div_def]
    generalize Qi.inv (er s f p) = v
    generalize Qi.inv (gm f 0 1) = q at w ⊢
    clear u hne hi hd hD
    have e2:gm s i p * q * (gm f 0 1 * gm f 1 0 * v) = gm s i p * (gm f 0 1 * q) * gm f 1 0 * v:=by grind
    rw [e2,w]; grind
   rw [e,gb hi' hj',gb hp hj',gI,gI,if_neg (fun k=>a k.1),if_neg b,if_neg a,if_neg (fun k=>b k.2),if_neg b,if_pos rfl,Qi.div_def,Qi.div_def]
   have w:=cM h1
   generalize Qi.inv (er s f p) = v
   generalize Qi.inv (gm f 0 1) = q at w ⊢
   clear u hne hi hd hD e
   have e2:gm s i p * q * (gm f 1 1 * (gm f 0 1 * (gm s p j * v))) = gm s i p * (gm f 0 1 * q) * (gm f 1 1 * gm s p j * v):=by grind
   rw [e2,w]; grind
theorem yO (hp:p < n) (hD:i9 s f p ≠ 0):er (iD s f p n) f p = gm f 0 1 * gm f 1 0 * Qi.inv (i9 s f p):=by
 have u:=cM hD
 rw [show er (iD s f p n) f p = 1 - gm f 1 1 * gm (iD s f p n) p p from rfl,kz hp hp,pZ,if_pos ⟨rfl,rfl⟩,Qi.div_def]
 have e:i9 s f p = gm f 0 1 * gm f 1 0 + gm f 1 1 * (gm s p p - gm f 0 0):=rfl
 generalize Qi.inv (i9 s f p) = v at u ⊢
 rw [e] at u
 clear e hD hp
 grind
theorem Du (hs:bM s n n) (hp:p < n) (hD:i9 s f p ≠ 0) (h1:gm f 0 1 ≠ 0) (h2:gm f 1 0 ≠ 0):er (iD s f p n) f p ≠ 0 ∧ ja (iD s f p n) f p n = s:=by
 have hd:=yO (n:=n) hp hD
 have hi:=x4 hD
 have hne:er (iD s f p n) f p ≠ 0:=by rw [hd]; exact pK (pK h1 h2) hi
 have w1:=cM h1
 have w2:=cM h2
 have hpp : gm (iD s f p n) p p / er (iD s f p n) f p = (gm s p p - gm f 0 0) * Qi.inv (gm f 0 1) * Qi.inv (gm f 1 0) := by
  refine kv hne ?_
  rw [hd,kz hp hp,pZ,if_pos ⟨rfl,rfl⟩,Qi.div_def]
  generalize Qi.inv (i9 s f p) = v
  generalize Qi.inv (gm f 0 1) = q at w1 ⊢
  generalize Qi.inv (gm f 1 0) = q' at w2 ⊢
  have e2:(gm s p p - gm f 0 0) * q * q' * (gm f 0 1 * gm f 1 0 * v) = (gm s p p - gm f 0 0) * (gm f 0 1 * q) * (gm f 1 0 * q') * v:=by clear w1 w2 hd hne; grind
  rw [e2,w1,w2]; clear w1 w2 hd hne e2; grind
 have hip : ∀ i, i < n → i ≠ p → gm (iD s f p n) i p / er (iD s f p n) f p = gm s i p * Qi.inv (gm f 1 0) := fun i hi' a => by
  refine kv hne ?_
  rw [hd,kz hi' hp,pZ,if_neg (fun k=>a k.1),if_pos rfl,Qi.div_def]
  generalize Qi.inv (i9 s f p) = v
  generalize Qi.inv (gm f 1 0) = q' at w2 ⊢
  have e2:gm s i p * q' * (gm f 0 1 * gm f 1 0 * v) = gm s i p * (gm f 1 0 * q') * gm f 0 1 * v:=by clear w1 w2 hd hne hpp; grind
  rw [e2,w2]; clear w1 w2 hd hne e2 hpp; grind
 have hpj : ∀ j, j < n → j ≠ p → gm (iD s f p n) p j / er (iD s f p n) f p = gm s p j * Qi.inv (gm f 0 1) := fun j hj' b => by
  refine kv hne ?_
  rw [hd,kz hp hj',pZ,if_neg (fun k=>b k.2),if_neg b,if_pos rfl,Qi.div_def]
  generalize Qi.inv (i9 s f p) = v
  generalize Qi.inv (gm f 0 1) = q' at w1 ⊢
  have e2:gm s p j * q' * (gm f 0 1 * gm f 1 0 * v) = gm s p j * (gm f 0 1 * q') * gm f 1 0 * v:=by clear w1 w2 hd hne hpp hip; grind
  rw [e2,w1]; clear w1 w2 hd hne e2 hpp hip; grind
 refine ⟨hne,tv bM.tab hs fun i hi' j hj'=>?_⟩
 rw [gb hi' hj',gI]
 by_cases a:i = p
 ·by_cases b : j = p
  ·rw [if_pos ⟨a, b⟩, hpp, a, b]
   generalize Qi.inv (gm f 0 1) = q at w1 ⊢
   generalize Qi.inv (gm f 1 0) = q' at w2 ⊢
   have e2:gm f 0 1 * (gm f 1 0 * ((gm s p p - gm f 0 0) * q * q')) = (gm f 0 1 * q) * (gm f 1 0 * q') * (gm s p p - gm f 0 0):=by clear w1 w2 hd hne hpp hip hpj; grind
   rw [e2,w1,w2]; clear w1 w2 hd hne hpp hip hpj e2; grind
  ·rw [if_neg (fun k => b k.2), if_neg b, if_pos a, hpj j hj' b, a]
   generalize Qi.inv (gm f 0 1) = q at w1 ⊢
   have e2:gm f 0 1 * (gm s p j * q) = gm s p j * (gm f 0 1 * q):=by clear w1 w2 hd hne hpp hip hpj; grind
   rw [e2,w1]; clear w1 w2 hd hne hpp hip hpj e2; grind
 ·by_cases b : j = p
  ·rw [if_neg (fun k => a k.1), if_pos b, hip i hi' a, b]
   generalize Qi.inv (gm f 1 0) = q at w2 ⊢
   have e2:gm s i p * q * gm f 1 0 = gm s i p * (gm f 1 0 * q):=by clear w1 w2 hd hne hpp hip hpj; grind
   rw [e2,w2]; clear w1 w2 hd hne hpp hip hpj e2; grind
  ·rw [if_neg (fun k => a k.1), if_neg b, if_neg a, hip i hi' a, kz hi' hj', kz hp hj', pZ, pZ, if_neg (fun k => a k.1), if_neg b, if_neg a, if_neg (fun k => b k.2), if_neg b, if_pos rfl, Qi.div_def, Qi.div_def]
   generalize Qi.inv (i9 s f p) = v
   generalize Qi.inv (gm f 1 0) = q at w2 ⊢
   have e2:gm s i p * q * (gm f 1 1 * (gm f 1 0 * (gm s p j * v))) = gm s i p * (gm f 1 0 * q) * (gm f 1 1 * gm s p j * v):=by clear w1 w2 hd hne hpp hip hpj; grind
   rw [e2,w2]; clear w1 w2 hd hne hpp hip hpj e2; grind
theorem Eh (hp:p < n):gm (kM s f n) (n + 1) p = 0 ∧ gm (kM s f n) (n + 1) (n + 1) = gm f 1 1 ∧ gm (kM s f n) p (n + 1) = 0 ∧ gm (kM s f n) p p = gm s p p:=by
 refine ⟨?_,?_,?_,?_⟩
 ·rw [il zo zo,if_neg zo,if_neg zo]; rfl
 ·rw [il zo zo,if_neg zo,if_pos zo,show n + 1 - n = 1 by omega]
 ·rw [il zo zo,if_pos hp,if_neg zo]; rfl
 ·rw [il zo zo,if_pos hp,if_pos hp]
theorem sa (hp:p < n):yW (gm (kM s f n)) p (n + 1) ↔ er s f p ≠ 0:=by
 obtain ⟨b1,b2,b3,b4⟩:=Eh (s:=s) (f:=f) hp
 have e:er s f p = 1 - gm f 1 1 * gm s p p:=rfl
 constructor
 ·intro h hz
  rw [e] at hz
  obtain ⟨a1,a2⟩:=h (gm f 1 1) 1 (by rw [b1,b2]; grind) (by rw [b3,b4]; grind)
  have:=congrArg Qi.re a2; revert this; decide
 ·intro hD v0 v1 h0 h1
  rw [b1,b2] at h0
  rw [b3,b4] at h1
  have e2:v1 * er s f p = 0:=by rw [e]; grind
  rcases jt e2 with k | k
  ·exact ⟨by rw [h0,k]; grind,k⟩
  ·exact absurd k hD
theorem Eb {x y:Nat} (hp:p < n) (hD:er s f p ≠ 0) (hx:x < n) (hy:y < n):oj (kM s f n) [(p,n + 1)] 2 (if x = p then n else x) (if y = p then n else y) = gI s f p x y:=by
 obtain ⟨b1,b2,b3,b4⟩:=Eh (s:=s) (f:=f) hp
 obtain ⟨v0,v1,⟨h0,h1⟩,hX⟩:=CO (b:=if y = p then n else y) ((sa (s:=s) (f:=f) hp).2 hD)
 rw [hX]
 have e:er s f p = 1 - gm f 1 1 * gm s p p:=rfl
 have u:=cM hD
 rw [b1,b2] at h0
 rw [b3,b4] at h1
 have gA : ∀ b, b < n + 2 → gm (kM s f n) (n + 1) b = if b < n then 0 else gm f 1 (b - n) := fun b hb => by
  rw [il zo hb,if_neg zo]
  by_cases c:b < n
  ·rw [if_neg zo,if_pos c]; rfl
  ·rw [if_pos zo,if_neg c,show n + 1 - n = 1 by omega]
 have gB : ∀ a b, a < n → b < n + 2 → gm (kM s f n) a b = if b < n then gm s a b else 0 := fun a b ha hb => by
  rw [il zo hb,if_pos ha]
  by_cases c:b < n
  ·rw [if_pos c,if_pos c]
  ·rw [if_neg c,if_neg c]; rfl
 have gC : ∀ b, b < n + 2 → gm (kM s f n) n b = if b < n then 0 else gm f 0 (b - n) := fun b hb => by
  rw [il zo hb,if_neg zo]
  by_cases c:b < n
  ·rw [if_neg zo,if_pos c]; rfl
  ·rw [if_pos zo,if_neg c,Nat.sub_self]
 by_cases b:y = p
 ·rw [if_pos b] at h0 h1 ⊢
  rw [gA n zo,if_neg zo,Nat.sub_self] at h0
  rw [gB p n hp zo,if_neg zo] at h1
  have v0e : v0 = gm f 1 0 * Qi.inv (er s f p) := by
   have k:v0 * er s f p = gm f 1 0:=by rw [e]; clear u hX gA gB gC; grind
   rw [← k]
   have k2:v0 * er s f p * Qi.inv (er s f p) = v0 * (er s f p * Qi.inv (er s f p)):=by grind
   rw [k2,u]; grind
  have v1e:v1 = gm s p p * (gm f 1 0 * Qi.inv (er s f p)):=by rw [h1,v0e]; grind
  by_cases a:x = p
  ·rw [if_pos a, gC n zo, gC p zo, gC (n + 1) zo, if_neg zo, if_pos hp, if_neg zo, Nat.sub_self, show n + 1 - n = 1 by omega, gI, if_pos ⟨a, b⟩, v0e, v1e, Qi.div_def]
   clear u h0 h1 hX v0e v1e; grind
  ·rw [if_neg a, gB x n hx zo, gB x p hx zo, gB x (n + 1) hx zo, if_neg zo, if_pos hp, if_neg zo, gI, if_neg (fun k => a k.1), if_pos b, v0e, Qi.div_def]
   clear u h0 h1 hX v0e v1e; grind
 ·rw [if_neg b] at h0 h1 ⊢
  rw [gA y zo,if_pos hy] at h0
  rw [gB p y hp zo,if_pos hy] at h1
  have v1e : v1 = gm s p y * Qi.inv (er s f p) := by
   have k:v1 * er s f p = gm s p y:=by rw [e]; clear u hX gA gB gC; grind
   rw [← k]
   have k2:v1 * er s f p * Qi.inv (er s f p) = v1 * (er s f p * Qi.inv (er s f p)):=by grind
   rw [k2,u]; grind
  have v0e:v0 = gm f 1 1 * (gm s p y * Qi.inv (er s f p)):=by rw [h0,v1e]; grind
  by_cases a:x = p
  ·rw [if_pos a, gC y zo, gC p zo, gC (n + 1) zo, if_pos hy, if_pos hp, if_neg zo, show n + 1 - n = 1 by omega, gI, if_neg (fun k => b k.2), if_neg b, if_pos a, v1e, Qi.div_def]
   clear u h0 h1 hX v0e v1e; grind
  ·rw [if_neg a, gB x y hx zo, gB x p hx zo, gB x (n + 1) hx zo, if_pos hy, if_pos hp, if_neg zo, gI, if_neg (fun k => a k.1), if_neg b, if_neg a, v0e, Qi.div_def]
   clear u h0 h1 hX v0e v1e; grind
end
theorem xB {n p:Nat} (hp:p < n):gx [p,n + 1] (n + 2) = tab n (fN p):=by
 rw [gx,if_pos (by simp),List.append_nil]
 have : ∀ k, k ≤ n + 1 → gx [p, n + 1] k = gx [p] k := fun k => by
  induction k with
  | zero=>intro _; rfl
  | succ k ih =>
   intro hk
   rw [gx,gx,ih zo]
   have e:(k ∈ [p,n + 1]) ↔ (k ∈ [p]):=by simp; omega
   by_cases c:k ∈ [p]
   ·rw [if_pos c,if_pos (e.2 c)]
   ·rw [if_neg c,if_neg fun h=>c (e.1 h)]
 rw [this (n + 1) (Nat.le_refl _),pk,tl zo]; rfl
section
variable {z fz:List Qi} {s f:List (List Qi)} {p n:Nat} (hz:z.length = n) (hfl:fz.length = 2) (hp:p < n) (hpz:gv fz 1 = gv z p)
theorem De (hz : z.length = n) (hfl : fz.length = 2) (hp : p < n) (hpz : gv fz 1 = gv z p) : nX (z ++ fz) (J1 p (n + 1)) = 0 := d8 fun i hi => by
 obtain rfl:i = 0:=by simp at hi; omega
 refine Bg (l:=[]) rfl rfl (by rw [List.length_append]; omega) (by rw [List.length_append]; omega) (by simp) (by simp) zo ?_
 have e1:gv (z ++ fz) p = gv z p:=by simp [gv,List.getD,List.getElem?_append_left (show p < z.length by omega)]
 have e2 : gv (z ++ fz) (n + 1) = gv fz 1 := by
  subst hz
  simp only [gv,List.getD]
  rw [List.getElem?_append_right zo,show z.length + 1 - z.length = 1 by omega]
 rw [e1,e2,hpz]
theorem CQ (hz:z.length = n) (hfl:fz.length = 2) (hp:p < n) (hpz:gv fz 1 = gv z p):pY (z ++ fz) (kM s f n) (J1 p (n + 1)) = if er s f p = 0 then 6 else 0:=by
 have hl:(z ++ fz).length = n + 2:=by rw [List.length_append]; omega
 have hj:nN (z ++ fz) (J1 p (n + 1)) = 0:=AA (De hz hfl hp hpz) (by rw [hl]; show ¬ (0 < 2 * 1 ∧ 2 * 1 = n + 2); omega)
 have hs:=rT (S:=kM s f n) hj (by simp)
 have hi : uT (z ++ fz) (kM s f n) (J1 p (n + 1)) = 0 ↔ yW (gm (kM s f n)) p (n + 1) := by
  have e:uT (z ++ fz) (kM s f n) (J1 p (n + 1)) = dL (fun y=>fB (k8 (kM s f n) (dh (J1 p (n + 1))) 2) (nz (kM s f n) (dh (J1 p (n + 1))) 2 ((bw (z ++ fz) (J1 p (n + 1))).getD y 0)) 2) (bw (z ++ fz) (J1 p (n + 1))).length:=rfl
  rw [e,C8,hl,xB hp,ao]
  exact uQ zo fun i=>by rw [Dl]; exact tp
 rw [hs]
 by_cases c:er s f p = 0
 ·rw [if_pos c,if_neg fun k=>(sa hp).1 (hi.1 k) c]
 ·rw [if_neg c,if_pos (hi.2 ((sa hp).2 c))]
theorem Ch (hz : z.length = n) (hfl : fz.length = 2) (hp : p < n) (hpz : gv fz 1 = gv z p) (hD : er s f p ≠ 0) :
  kI (sV (z ++ fz) (kM s f n) (J1 p (n + 1))) (zn n p) = ja s f p n ∧ gz (pn (z ++ fz) (kM s f n) (J1 p (n + 1))) (zn n p) = z.set p (gv fz 0) ∧ (pn (z ++ fz) (kM s f n) (J1 p (n + 1))).length = n:=by
 have hl:(z ++ fz).length = n + 2:=by rw [List.length_append]; omega
 have hE:pY (z ++ fz) (kM s f n) (J1 p (n + 1)) = 0:=by rw [CQ hz hfl hp hpz,if_neg hD]
 obtain ⟨hS,hZ⟩:=DK hE
 rw [hl,xB hp,ao] at hS
 rw [hl,xB hp] at hZ
 have hql:(zn n p).length = n:=by rw [rX hp,ao]
 have hqa:∀ x,x < n → c4 (zn n p) x = jj p x n:=fun x hx=>by rw [rX hp]; exact iJ hx
 have hsk:∀ x,x < n → c4 (tab n (fN p)) (jj p x n) = if x = p then n else x:=fun x hx=>by rw [show c4 (tab n (fN p)) (jj p x n) = fN p (jj p x n) from iJ (pT hx),yU hp hx]
 refine ⟨?_,?_,by rw [hZ,show (gz (z ++ fz) (tab n (fN p))).length = (tab n (fN p)).length from ao _ _,ao]⟩
 ·rw [kI, hql]
  refine ba fun x hx=>ba fun y hy=>?_
  rw [hqa x hx,hqa y hy,hS,sc (pT hx) (pT hy),hsk x hx,hsk y hy]
  exact Eb hp hD hx hy
 ·rw [gz, hql]
  refine List.ext_getElem (by rw [ao,List.length_set,hz]) fun x h1 h2=>?_
  rw [ao] at h1
  rw [List.getElem_set]
  have e:(tab n fun i=>gv (pn (z ++ fz) (kM s f n) (J1 p (n + 1))) (c4 (zn n p) i))[x]'(by rw [ao]; exact h1) = gv (pn (z ++ fz) (kM s f n) (J1 p (n + 1))) (c4 (zn n p) x):=by simp [tab]
  rw [e,hqa x h1,hZ,gz,iy (by rw [ao]; exact pT h1),hsk x h1]
  by_cases c:p = x
  ·rw [if_pos c,if_pos c.symm]; subst hz; simp only [gv,List.getD]; rw [List.getElem?_append_right (Nat.le_refl _),Nat.sub_self]
  ·rw [if_neg c,if_neg (Ne.symm c)]; simp [gv,List.getD,List.getElem?_append_left (show x < z.length by omega),show x < z.length by omega]
end
end
section
open Go Go.RowKit
def yL (n p:Nat):List Nat:=tab n fun k=>jj p k n + 1
theorem xO {n p:Nat} (hp:p < n) (hn:n ≤ 4):l9 (yL n p) n:=by
 have hn1:n = 1 ∨ n = 2 ∨ n = 3 ∨ n = 4:=by omega
 rcases hn1 with rfl | rfl | rfl | rfl
 ·obtain rfl : p = 0 := by omega
  exact ⟨by decide,fun x=>by simp [yL,tab,jj,List.range_succ]; omega⟩
 ·have h : p = 0 ∨ p = 1 := by omega
  rcases h with rfl | rfl <;> exact ⟨by decide,fun x=>by simp [yL,tab,jj,List.range_succ]; omega⟩
 ·have h : p = 0 ∨ p = 1 ∨ p = 2 := by omega
  rcases h with rfl | rfl | rfl <;> exact ⟨by decide,fun x=>by simp [yL,tab,jj,List.range_succ]; omega⟩
 ·have h : p = 0 ∨ p = 1 ∨ p = 2 ∨ p = 3 := by omega
  rcases h with rfl | rfl | rfl | rfl <;> exact ⟨by decide,fun x=>by simp [yL,tab,jj,List.range_succ]; omega⟩
theorem yD {n p:Nat} (hp:p < n):lb ((yL n p).map fun (q:Nat)=>(q:Int)) = zn n p:=by
 rw [lb,List.map_map,yL,g5,rX hp]
 exact ba fun k _=>by show (((jj p k n + 1:Nat):Int) - 1).toNat = jj p k n; omega
end
section
open Go Go.RowKit
theorem uS (O:List Nat):((O.map fun (q:Nat)=>(q:Int)).map (aa .i64)) = O.map (NT .i64):=by rw [List.map_map]; rfl
theorem CB {z:List Qi} {s:List (List Qi)} {O:List Nat} (hs:bM s z.length z.length) (hl:z.length ≤ 1000) (h:l9 O z.length):aw Tryz.prog 33 [aM z s,cD O] (bo [aM (gz z (lb (O.map fun (q:Nat)=>(q:Int)))) (kI s (lb (O.map fun (q:Nat)=>(q:Int)))),aa .i64 0]):=by
 have hO:=h.len
 have hr:=A4 (z:=z) (s:=s) (l:=O.map fun (q:Nat)=>(q:Int)) hs hl (by rw [List.length_map,hO]; exact hl)
 have he:rD z.length (O.map fun (q:Nat)=>(q:Int)) = 0:=(vJ (by rw [List.length_map,hO])).trans (x3 h)
 rw [w8,w4,he,uS] at hr; exact hr
theorem Ci {z:List Qi} {p:Nat} {zl:List Rt} {zz:Qi} (hp:p < z.length) (h:gv z p = zz):iW z (kA zl zz) ((p + 1:Nat):Int) 1 = 0:=by
 rw [iW,if_neg (by rw [ln]; simp),if_neg (fun k=>k ⟨by omega,by omega⟩),if_pos]
 rw [show (((p + 1:Nat):Int) - 1).toNat = p by omega,h]; exact rh zl zz
section
variable {z:List Qi} {s:List (List Qi)} {p:Nat} {zl sl:List Rt} {zz:Qi}
theorem rB {x y:Qi} (hp:p < z.length) (h:gv z p = y):(z.set p x).set p y = z:=by
 refine List.ext_getElem (by simp) fun i h1 h2=>?_
 rw [List.getElem_set]
 by_cases c:p = i
 ·subst c; rw [if_pos rfl,← h]; simp [gv,List.getD,hp]
 ·rw [if_neg c,List.getElem_set,if_neg c]
theorem tO {x:Qi} (hp:p < z.length):gv (z.set p x) p = x:=by rw [kE hp,if_pos rfl]
theorem Bz {F : List (List Qi)} {fz : List Qi} (hs : bM s z.length z.length) (hp : p < z.length) (hz : z.length ≤ 1000) (hfs : aL s 2) (hfz : aP z 2) (hfl : fz.length = 2) (hff : aL F 2) (hffz : aP fz 2) (hF : bM F 2 2) (hpz : gv fz 1 = gv z p) (hD : er s F p ≠ Qi.zero) (h1 : gm F 0 1 ≠ 0) (h2 : gm F 1 0 ≠ 0) :
  aw Tryz.prog 28 [aM (z.set p (gv fz 0)) (ja s F p z.length),NT .i64 (p + 1),aM fz F] (bo [aM z s,aa .i64 0]):=by
 have hl:(z.set p (gv fz 0)).length = z.length:=List.length_set
 obtain ⟨q1,q2⟩:=D5 hs hp hD h1 h2
 have h:=qc (z:=z.set p (gv fz 0)) (fz:=fz) (s:=ja s F p z.length) (f:=F) (port:=((p + 1:Nat):Int)) (L:=60) (by rw [hl]; exact bM.tab) zo (by rw [hl]; exact hz) ((qT hfs hff (by decide) hD).le (by decide)) (hff.le (by decide)) (fun x hx=>(List.mem_or_eq_of_mem_set hx).elim (fun k=>(hfz x k).le (by decide)) fun e=>e ▸ (hffz.get (by decide) 0).le (by decide)) (hffz.le (by decide)) (by decide) (by decide) (fun _=>hF)
 have hpp:(((p + 1:Nat):Int) - 1).toNat = p:=by omega
 have hfx : iW (z.set p (gv fz 0)) fz ((p + 1 : Nat) : Int) 1 = 0 := by
  rw [iW,if_neg (by rw [hfl]; simp),if_neg (fun k=>k ⟨by omega,by omega⟩),if_pos]
  rw [hpp,tO hp]
 have he:=vp (s:=ja s F p z.length) (f:=F) hfx (by rw [hpp]; rintro (k | k | k); exact h1 k; exact h2 k; exact q1 k)
 rw [nv,vD,he,hl,hpp,q2] at h
 rw [rB hp hpz.symm] at h
 exact h
theorem BJ {F : List (List Qi)} {fz : List Qi} (hs : bM s z.length z.length) (hp : p < z.length) (hz : z.length ≤ 1000) (hfs : aL s 2) (hfz : aP z 2) (hfl : fz.length = 2) (hff : aL F 2) (hffz : aP fz 2) (hF : bM F 2 2) (hpz : gv fz 0 = gv z p) (hD : i9 s F p ≠ Qi.zero) (h1 : gm F 0 1 ≠ 0) (h2 : gm F 1 0 ≠ 0) :
  aw Tryz.prog 26 [aM (z.set p (gv fz 1)) (iD s F p z.length),NT .i64 (p + 1),aM fz F] (bo [aM z s,aa .i64 0]):=by
 have hl:(z.set p (gv fz 1)).length = z.length:=List.length_set
 obtain ⟨q1,q2⟩:=Du hs hp hD h1 h2
 have h:=sW (z:=z.set p (gv fz 1)) (fz:=fz) (s:=iD s F p z.length) (f:=F) (port:=((p + 1:Nat):Int)) (L:=120) (by rw [hl]; exact bM.tab) zo (by rw [hl]; exact hz) ((wS hfs hff (by decide) hD).le (by decide)) (hff.le (by decide)) (fun x hx=>(List.mem_or_eq_of_mem_set hx).elim (fun k=>(hfz x k).le (by decide)) fun e=>e ▸ (hffz.get (by decide) 1).le (by decide)) (hffz.le (by decide)) (by decide) (by decide) (fun _=>hF)
 have hpp:(((p + 1:Nat):Int) - 1).toNat = p:=by omega
 have hfx : iW (z.set p (gv fz 1)) fz ((p + 1 : Nat) : Int) 2 = 0 := by
  rw [iW,if_neg (by rw [hfl]; simp),if_neg (fun k=>k ⟨by omega,by omega⟩),if_pos]
  rw [hpp,tO hp]
 have he:=sk (s:=iD s F p z.length) (f:=F) hfx (by rw [hpp]; exact q1)
 rw [xR,xS,he,hl,hpp,q2] at h
 rw [rB hp hpz.symm] at h
 exact h
end
theorem mn {a l b:Nat} {zl sl zm sm:List Rt} (ha:a < 256) (hl:l < 256):aw Tryz.prog 4 [n5 a zl sl,NT .u8 l,n5 b zm sm] (a9 true):=by
 obtain ⟨h1,h8,hsh,hpz⟩:=fI (mW a zl sl)
 have hn:fl a ≤ 4:=by unfold fl; omega
 have hzl:((iw a zl).map Rt.q).length ≤ 4:=by rw [List.length_map,iw,ao]; exact hn
 obtain ⟨z1,hz1⟩:∃ z1,z1 = ((iw a zl).map Rt.q):=⟨_,rfl⟩
 obtain ⟨s1,hs1⟩:∃ s1,s1 = (rq (kJ a sl)):=⟨_,rfl⟩
 have f1:aP z1 2:=by rw [hz1]; exact aP.rt
 have f3:aL s1 2:=by rw [hs1]; exact aL.rt
 have hB1:=p9 (a:=a) (zl:=zl) (sl:=sl) ha
 rw [← hz1] at h1 h8 hsh hzl hpz
 rw [← hs1] at hsh
 rw [← hz1,← hs1] at hB1
 have hn1:=Nat.mod_lt l (show 0 < z1.length by omega)
 have hrf : ∀ i, i < z1.length → aw Tryz.prog 23 [aM z1 s1, NT .i64 (i + 1)] (bo [ab (gv z1 i), aa .i64 0]) := fun i hi => by
  have h:=tz (z:=z1) (s:=s1) (i:=((i + 1:Nat):Int)) zo
  rw [show xT z1 ((i + 1:Nat):Int) = gv z1 i from pa zo,if_pos zo] at h; exact h
 have hpos : ∀ i, i < z1.length → ez (gv z1 i) = true := fun i hi => by
  rw [List.all_eq_true] at hpz
  exact hpz _ (by rw [show gv z1 i = z1[i] by simp [gv,List.getD,hi]]; exact List.getElem_mem hi)
 refine aw.intro Tryz.func4 rfl Tryz.ntmps4 rfl (fun cx=>(ts (rn rfl (fU (Ht rfl)) fun B3=>(rn rfl (fU (Ht rfl)) fun B5=>(ro rfl (cQ cV) (eZ (ts (ro rfl (eW A_57 Z_57 (Ht rfl) (i:=0) rfl rfl rfl) (ro rfl (cZ Tryz.call21 hB1 ⟨(Ht rfl),trivial⟩) (rm rfl (ro rfl (dU (Ht rfl) rfl) (ro rfl (dU (Ht rfl) rfl) (ro rfl (dU (Ht rfl) rfl) (rn rfl (eG (Ts:=[Is (.slice none 0 0),Is (.slice none 0 0)]) O_32 rfl (fun V=>aW zd (aW zd (aG)))) fun B7=>?_))))))))))))))
 refine rn rfl (eG (Ts:=[Is (.slice none 0 0),Is (.slice none 0 0)]) O_38 rfl (fun V=>aW zd (aW zd (aG)))) fun B8=>gJ Z_32 (Ht rfl) (Ht rfl) rfl (i:=2) rfl (aK rfl) rfl rfl (gJ Z_38 (Ht rfl) (Ht rfl) rfl (i:=3) rfl (aK rfl) rfl rfl (ra rfl (eZ (cK (cK (aD [0,1,2,3] rfl (by decide) (cY (rm rfl (ro rfl (bD (Ht rfl)) (rm rfl (fX rfl rfl (eU rfl rfl (Ht rfl) (fun h=>eW A_32 Z_32 (Ht rfl) (i:=2) rfl rfl rfl)) ?_)))))))))))
 refine fX rfl rfl (eU rfl rfl (Ht rfl) (fun h=>cZ K_22 iY ⟨(fW rfl h),trivial⟩)) (fX rfl rfl (eU rfl rfl (Ht rfl) (fun h=>aO (fW rfl h) (cJ 0))) (ro rfl (eP (Ht rfl) (fun h=>(fW rfl h))) (eZ (cb (Ht rfl) (by simp; exact List.ne_nil_of_length_pos h1) ?_))))
 refine cU (ts (rm rfl (ro rfl (gW U_5 U_3 (Ht rfl) z6) (ro rfl (eW A_32 Z_32 (Ht rfl) (i:=2) rfl rfl rfl) (ro rfl (cZ K_22 iY ⟨(Ht rfl),trivial⟩) (ro rfl (eD (Ht rfl) (Ht rfl) zo) (ro rfl (dW (Ht rfl) (cJ 1) z6) (ra rfl (eZ (cK (aD [0,1,2,3] rfl (by decide) ?_)))))))))))
 obtain ⟨p,hpd⟩:∃ p,p = l % z1.length:=⟨_,rfl⟩
 rw [← hpd] at hn1 ⊢
 obtain ⟨zp,hzp⟩:∃ zp,zp = gv z1 p:=⟨_,rfl⟩
 have fp:an zp 2:=by rw [hzp]; exact f1.get (by decide) p
 have hpp:ez zp = true:=by rw [hzp]; exact hpos p hn1
 have hr1:=hrf p hn1
 rw [← hzp] at hr1
 have hL1:=xp (a:=b) (zl:=zm) (sl:=sm) (zz:=zp) hpp fp
 have hL2:=uy (a:=b) (zl:=zm) (sl:=sm) (zz:=zp) hpp fp
 obtain ⟨fZ,hfZ⟩:∃ fZ,fZ = km zm zp:=⟨_,rfl⟩
 obtain ⟨gZ,hgZ⟩:∃ gZ,gZ = kA zm zp:=⟨_,rfl⟩
 obtain ⟨F,hF⟩:∃ F,F = pu sm:=⟨_,rfl⟩
 rw [← hfZ,← hF] at hL1
 rw [← hgZ,← hF] at hL2
 have fF:aL F 2:=by rw [hF]; exact xI sm
 have sF:bM F 2 2:=by rw [hF]; exact jC sm
 have ffZ:aP fZ 2:=by rw [hfZ]; exact qI zm fp
 have fgZ:aP gZ 2:=by rw [hgZ]; exact ru zm fp
 have lfZ:fZ.length = 2:=by rw [hfZ]; exact lj _ _
 have lgZ:gZ.length = 2:=by rw [hgZ]; exact ln _ _
 have pfZ:gv fZ 1 = gv z1 p:=by rw [hfZ,← hzp]; exact rd _ _
 have pgZ:gv gZ 0 = gv z1 p:=by rw [hgZ,← hzp]; exact rh _ _
 have hpi:(((p + 1:Nat):Int) - 1).toNat = p:=by omega
 have hat12 : aw Tryz.prog 25 [aM fZ F, NT .i64 1, NT .i64 2] (bo [ab (gm F 0 1), aa .i64 0]) := by
  have h:=ux (z:=fZ) (s:=F) (i:=((0 + 1:Nat):Int)) (j:=((1 + 1:Nat):Int)) (by rw [lfZ]; exact sF) zo
  rw [show uU fZ.length F ((0 + 1:Nat):Int) ((1 + 1:Nat):Int) = gm F 0 1 from na zo zo,if_pos zo] at h; exact h
 have hat21 : aw Tryz.prog 25 [aM fZ F, NT .i64 2, NT .i64 1] (bo [ab (gm F 1 0), aa .i64 0]) := by
  have h:=ux (z:=fZ) (s:=F) (i:=((1 + 1:Nat):Int)) (j:=((0 + 1:Nat):Int)) (by rw [lfZ]; exact sF) zo
  rw [show uU fZ.length F ((1 + 1:Nat):Int) ((0 + 1:Nat):Int) = gm F 1 0 from na zo zo,if_pos zo] at h; exact h
 haveI q01:an (gm F 0 1) 2:=fF.get (by decide) 0 1
 haveI q10:an (gm F 1 0) 2:=fF.get (by decide) 1 0
 have hfx:iW z1 fZ ((p + 1:Nat):Int) 2 = 0:=by rw [hfZ]; exact Cm hn1 hzp.symm
 have hgx:iW z1 gZ ((p + 1:Nat):Int) 1 = 0:=by rw [hgZ]; exact Ci hn1 hzp.symm
 have hem:=sW (z:=z1) (fz:=fZ) (s:=s1) (f:=F) (port:=((p + 1:Nat):Int)) (L:=2) hsh zo zo f3 fF f1 ffZ (by decide) (by decide) (fun _=>sF)
 have hrm:=qc (z:=z1) (fz:=gZ) (s:=s1) (f:=F) (port:=((p + 1:Nat):Int)) (L:=2) hsh zo zo f3 fF f1 fgZ (by decide) (by decide) (fun _=>sF)
 obtain ⟨ZA,hZA⟩:∃ ZA,ZA = xR z1 s1 fZ F ((p + 1:Nat):Int):=⟨_,rfl⟩
 obtain ⟨SA,hSA⟩:∃ SA,SA = xS z1 s1 fZ F ((p + 1:Nat):Int):=⟨_,rfl⟩
 obtain ⟨EA,hEA⟩:∃ EA,EA = pX z1 s1 fZ F ((p + 1:Nat):Int):=⟨_,rfl⟩
 obtain ⟨ZR,hZR⟩:∃ ZR,ZR = nv z1 s1 gZ F ((p + 1:Nat):Int):=⟨_,rfl⟩
 obtain ⟨SR,hSR⟩:∃ SR,SR = vD z1 s1 gZ F ((p + 1:Nat):Int):=⟨_,rfl⟩
 obtain ⟨ER,hER⟩:∃ ER,ER = o9 z1 s1 gZ F ((p + 1:Nat):Int):=⟨_,rfl⟩
 have dA : EA = if er s1 F p = 0 then 6 else 0 := by
  rw [hEA]
  by_cases k:er s1 F p = 0
  ·rw [if_pos k]; exact AF hfx (by rw [hpi]; exact k)
  ·rw [if_neg k]; exact sk hfx (by rw [hpi]; exact k)
 have vA : EA = 0 → er s1 F p ≠ 0 ∧ ZA = z1.set p (gv fZ 0) ∧ SA = ja s1 F p z1.length := fun k => by
  have hD:er s1 F p ≠ 0:=fun d=>by rw [dA,if_pos d] at k; exact absurd k (by decide)
  rw [hEA] at k
  exact ⟨hD,by rw [hZA,xR,cL,if_pos k,hpi],by rw [hSA,xS,cL,if_pos k,hpi]⟩
 have vR : ER = 0 → gm F 0 1 ≠ 0 ∧ gm F 1 0 ≠ 0 ∧ i9 s1 F p ≠ 0 ∧ ZR = z1.set p (gv gZ 1) ∧ SR = iD s1 F p z1.length := fun k => by
  rw [hER] at k
  have hno : ¬ (gm F 0 1 = Qi.zero ∨ gm F 1 0 = Qi.zero ∨ i9 s1 F p = Qi.zero) := fun d => by
   have:=xA (s:=s1) (f:=F) hgx (by rw [hpi]; exact d)
   omega
  exact ⟨fun d=>hno (.inl d),fun d=>hno (.inr (.inl d)),fun d=>hno (.inr (.inr d)),by rw [hZR,nv,cL,if_pos k,hpi],by rw [hSR,vD,cL,if_pos k,hpi]⟩
 rw [← hZA,← hSA,← hEA] at hem
 rw [← hZR,← hSR,← hER] at hrm
 have hs0 : aw Tryz.prog 29 [aM z1 s1, aa .i64 0, aM z1 s1, aa .i64 0] (a9 true) := by
  have h:=wo (z:=z1) (z':=z1) (s:=s1) (s':=s1) (e:=0) (e':=0) (L:=2) f1 f1 f3 f3 (by decide) (by decide) hsh hsh zo zo
  rw [ni] at h; exact h
 have hk:=wg (x:=z1.length) (y:=fZ.length) zo
 have hst : aw Tryz.prog 30 [aM z1 s1, aM fZ F] (bo [aM (z1 ++ fZ) (kM s1 F z1.length), aa .i64 0]) := by
  have h:=Af (z:=z1) (zb:=fZ) hsh (by rw [lfZ]; exact sF) zo zo
  rw [y9,y8,hk,lfZ] at h; exact h
 have hzf:(z1 ++ fZ).length = z1.length + 2:=by rw [List.length_append,lfZ]
 have hjn : aw Tryz.prog 31 [aM (z1 ++ fZ) (kM s1 F z1.length), dP 2 [bB [NT .i64 (p + 1), NT .i64 (z1.length + 2)]]] (bo [aM (pn (z1 ++ fZ) (kM s1 F z1.length) (J1 p (z1.length + 1))) (sV (z1 ++ fZ) (kM s1 F z1.length) (J1 p (z1.length + 1))), aa .i64 (pY (z1 ++ fZ) (kM s1 F z1.length) (J1 p (z1.length + 1)))]) :=
  C4 (z:=z1 ++ fZ) (S:=kM s1 F z1.length) (js:=J1 p (z1.length + 1)) (L:=2) (by rw [hzf]; exact mU _ _ _ _) (x9 f3 fF (by decide)) (xu f1 ffZ) (by decide) (by decide) zo (by simp) (fun k hk=>Nat.le_trans (Nat.add_le_add_right (Nat.mul_le_mul_left 6 (iU _ (show 2 * k ≤ 7 by omega))) 4) (by decide)) (fun k hk=>Nat.le_trans (Nat.le_trans (oK (iU _ (show 2 * k ≤ 6 by omega)) _) (ny _ (show 2 * k + 1 ≤ 7 by omega))) (by decide))
 have dJ:=CQ (s:=s1) (f:=F) rfl lfZ hn1 pfZ
 rw [← dA] at dJ
 obtain ⟨JZ,hJZ⟩:∃ JZ,JZ = pn (z1 ++ fZ) (kM s1 F z1.length) (J1 p (z1.length + 1)):=⟨_,rfl⟩
 obtain ⟨JS,hJS⟩:∃ JS,JS = sV (z1 ++ fZ) (kM s1 F z1.length) (J1 p (z1.length + 1)):=⟨_,rfl⟩
 have sJ:bM JS JZ.length JZ.length:=by rw [hJS,hJZ]; exact (Ck (by rw [hzf]; exact mU _ _ _ _)).1
 rw [dJ,← hJZ,← hJS] at hjn
 clear dJ hB1
 refine cY (ro rfl (eW A_32 Z_32 (Ht rfl) (i:=2) rfl rfl rfl) (rm rfl (ro rfl (cZ Tryz.call23 hr1 ⟨(Ht rfl),(Ht rfl),trivial⟩) (rm rfl (ro rfl (dU (Ht rfl) rfl) (ro rfl (dU (Ht rfl) rfl) (rn rfl (eG (Ts:=[Is (.bool false),Is (.slice none 0 0),Is (.bool false),Is (.slice none 0 0),Is (.slice none 0 0)]) O_51 rfl (fun V=>aW zd (aW zd (aW zd (aW zd (aW zd (aG))))))) fun B11=>(gJ Z_51 (Ht rfl) (Ht rfl) rfl (i:=4) rfl (aK rfl) rfl rfl ?_))))))))
 refine ra rfl (eZ (cK (aD [0,1,2,3,4] rfl (by decide) (cY (ro rfl (eW A_57 Z_57 (Ht rfl) (i:=1) rfl rfl rfl) (ro rfl (eW A_51 Z_51 (Ht rfl) (i:=4) rfl rfl rfl) (ro rfl (cZ Tryz.call24 hL1 ⟨(Ht rfl),(cJ 2),(Ht rfl),trivial⟩) (rm rfl (ro rfl (dU (Ht rfl) rfl) (ro rfl (dU (Ht rfl) rfl) (rn rfl (eG (Ts:=[Is (.slice none 0 0),Is (.slice none 0 0)]) O_32 rfl (fun V=>aW zd (aW zd (aG)))) fun B13=>(gJ Z_32 (Ht rfl) (Ht rfl) rfl (i:=5) rfl (aK rfl) rfl rfl ?_))))))))))))
 refine ra rfl (eZ (cK (aD [0,1,2,3,4,5] rfl (by decide) (cY (ro rfl (eW A_57 Z_57 (Ht rfl) (i:=1) rfl rfl rfl) (ro rfl (eW A_51 Z_51 (Ht rfl) (i:=4) rfl rfl rfl) (ro rfl (cZ Tryz.call24 hL2 ⟨(Ht rfl),(cJ 1),(Ht rfl),trivial⟩) (rm rfl (ro rfl (dU (Ht rfl) rfl) (ro rfl (dU (Ht rfl) rfl) (rn rfl (eG (Ts:=[Is (.slice none 0 0),Is (.slice none 0 0)]) O_32 rfl (fun V=>aW zd (aW zd (aG)))) fun B15=>(gJ Z_32 (Ht rfl) (Ht rfl) rfl (i:=6) rfl (aK rfl) rfl rfl ?_))))))))))))
 refine ra rfl (eZ (cK (cK (aD [0,1,2,3,4,5,6] rfl (by decide) (cY (rm rfl (ro rfl (bD (Ht rfl)) (rm rfl (fX rfl rfl (eU rfl rfl (Ht rfl) (fun h=>cX (Ht rfl))) (fX rfl rfl (eU rfl rfl (Ht rfl) (fun h=>bD (fW rfl h))) (ro rfl (eP (Ht rfl) (fun h=>(fW rfl h))) (eZ (cb (Ht rfl) (by rfl) ?_)))))))))))))
 refine cU (ts (ro rfl (eW A_32 Z_32 (Ht rfl) (i:=5) rfl rfl rfl) (ro rfl (cZ K_25 hat12 ⟨(Ht rfl),(cJ 1),(cJ 2),trivial⟩) (rm rfl (ro rfl (dU (Ht rfl) rfl) (ro rfl (dU (Ht rfl) rfl) (rn rfl (eG (Ts:=[Is (.bool false),Is (.slice none 0 0),Is (.bool false),Is (.slice none 0 0),Is (.slice none 0 0)]) O_51 rfl (fun V=>aW zd (aW zd (aW zd (aW zd (aW zd (aG))))))) fun B17=>(gJ Z_51 (Ht rfl) (Ht rfl) rfl (i:=7) rfl (aK rfl) rfl rfl ?_))))))))
 refine ra rfl (eZ (cK (aD [0,1,2,3,4,5,6,7] rfl (by decide) (cY (ro rfl (eW A_32 Z_32 (Ht rfl) (i:=5) rfl rfl rfl) (ro rfl (cZ K_25 hat21 ⟨(Ht rfl),(cJ 2),(cJ 1),trivial⟩) (rm rfl (ro rfl (dU (Ht rfl) rfl) (ro rfl (dU (Ht rfl) rfl) (rn rfl (eG (Ts:=[Is (.bool false),Is (.slice none 0 0),Is (.bool false),Is (.slice none 0 0),Is (.slice none 0 0)]) O_51 rfl (fun V=>aW zd (aW zd (aW zd (aW zd (aW zd (aG))))))) fun B19=>?_))))))))))
 refine gJ Z_51 (Ht rfl) (Ht rfl) rfl (i:=8) rfl (aK rfl) rfl rfl (ra rfl (eZ (cK (aD [0,1,2,3,4,5,6,7,8] rfl (by decide) (cY (ro rfl (eW A_32 Z_32 (Ht rfl) (i:=2) rfl rfl rfl) (rm rfl (ro rfl (eW A_32 Z_32 (Ht rfl) (i:=5) rfl rfl rfl) (ro rfl (cZ Tryz.call26 hem ⟨(Ht rfl),(Ht rfl),(Ht rfl),trivial⟩) (rm rfl (ro rfl (dU (Ht rfl) rfl) (ro rfl (dU (Ht rfl) rfl) (rn rfl (eG (Ts:=[Is (.slice none 0 0),Is (.slice none 0 0)]) O_32 rfl (fun V=>aW zd (aW zd (aG)))) fun B21=>?_)))))))))))))
 refine gJ Z_32 (Ht rfl) (Ht rfl) rfl (i:=9) rfl (aK rfl) rfl rfl (ra rfl (eZ (cK (aD [2,5,6,7,8,9] rfl (by decide) (dz (fun (uu:Unit)=>True) (fun (uu:Unit)=>[(7,aH B7 0),(10,NT .i64 (p + 1)),(13,aH B13 0),(15,aH B15 0),(17,aH B17 0),(19,aH B19 0),(21,aH B21 0),(22,aa .i64 EA)]) (fun (uu:Unit)=>[box B7 32 [av z1,bp s1],box B13 32 [av fZ,bp F],box B15 32 [av gZ,bp F],box B17 51 [a9 (decide ((gm F 0 1).a < 0)),ah (gm F 0 1).a.natAbs,a9 (decide ((gm F 0 1).b < 0)),ah (gm F 0 1).b.natAbs,ah (du (gm F 0 1))],box B19 51 [a9 (decide ((gm F 1 0).a < 0)),ah (gm F 1 0).a.natAbs,a9 (decide ((gm F 1 0).b < 0)),ah (gm F 1 0).b.natAbs,ah (du (gm F 1 0))],box B21 32 [av ZA,bp SA]]) ?_ (fun uu hT1=>?_))))))
 ·refine ts (rm rfl (ro rfl (di (Ht rfl) cV) (rm rfl (fX rfl rfl (eU rfl rfl (Ht rfl) (fun h => eW A_51 Z_51 (Ht rfl) (i := 3) rfl rfl rfl)) (fX rfl rfl (eU rfl rfl (Ht rfl) (fun h => cZ K_27 (jS zo) ⟨(fW rfl h), trivial⟩)) (ro rfl (bx (Ht rfl) (fun h => (fW rfl h))) (rm rfl (fX rfl rfl (eU rfl rfl (Ht rfl) (fun h => eW A_51 Z_51 (Ht rfl) (i := 4) rfl rfl rfl)) (fX rfl rfl (eU rfl rfl (Ht rfl) (fun h => cZ K_27 (jS zo) ⟨(fW rfl h), trivial⟩)) ?_)))))))))
  refine ro rfl (bx (Ht rfl) (fun h=>(fW rfl h))) (eZ (dQ (Ht rfl) (fun hE=>?_) (fun hE=>?_)))
  ·simp only [Bool.and_eq_true, decide_eq_true_eq] at hE
   obtain ⟨⟨hE1,hE2⟩,hE3⟩:=hE
   have hE2':gm F 0 1 ≠ 0:=by simp at hE2 ⊢; exact hE2
   have hE3':gm F 1 0 ≠ 0:=by simp at hE3 ⊢; exact hE3
   obtain ⟨hD,vZ,vS⟩:=vA hE1
   have hrme:=Bz (F:=F) (fz:=fZ) hsh hn1 zo f3 f1 lfZ fF ffZ sF pfZ hD hE2' hE3'
   rw [← vZ,← vS] at hrme
   refine ts (ro rfl (eW A_32 Z_32 (Ht rfl) (i:=5) rfl rfl rfl) (rm rfl (ro rfl (eW A_32 Z_32 (Ht rfl) (i:=1) rfl rfl rfl) (ro rfl (cZ Tryz.call28 hrme ⟨(Ht rfl),(Ht rfl),(Ht rfl),trivial⟩) (rm rfl (ro rfl (dU (Ht rfl) rfl) (ro rfl (dU (Ht rfl) rfl) (rn rfl (eG (Ts:=[Is (.slice none 0 0),Is (.slice none 0 0)]) O_32 rfl (fun V=>aW zd (aW zd (aG)))) fun B23=>(gJ Z_32 (Ht rfl) (Ht rfl) rfl (i:=6) rfl (aK rfl) rfl rfl ?_)))))))))
   refine ra rfl (eZ (cK (aD [0,1,2,3,4,5,6] rfl (by decide) (cY (ro rfl (eW A_32 Z_32 (Ht rfl) (i:=6) rfl rfl rfl) (rm rfl (ro rfl (eW A_32 Z_32 (Ht rfl) (i:=0) rfl rfl rfl) (ro rfl (cZ Tryz.call29 hs0 ⟨(Ht rfl),(Ht rfl),(Ht rfl),(cJ 0),trivial⟩) (ro rfl (bD (Ht rfl)) (eZ (cb (Ht rfl) (by rfl) ?_)))))))))))
   refine cU (aD [0,1,2,3,4,5] rfl (by decide) (au () trivial (zS rfl) (aU (a8 rfl) (aU (a8 rfl) (aU (a8 rfl) (aU (a8 rfl) (aU (a8 rfl) (aU (a8 rfl) aY))))))))
  ·refine cU (aD [0,1,2,3,4,5] rfl (by decide) (au () trivial (zS rfl) (aU (a8 rfl) (aU (a8 rfl) (aU (a8 rfl) (aU (a8 rfl) (aU (a8 rfl) (aU (a8 rfl) aY))))))))
 ·refine cK (ts (ro rfl (eW A_32 Z_32 (Ht rfl) (i := 0) rfl rfl rfl) (rm rfl (ro rfl (eW A_32 Z_32 (Ht rfl) (i := 2) rfl rfl rfl) (ro rfl (cZ Tryz.call28 hrm ⟨(Ht rfl), (Ht rfl), (Ht rfl), trivial⟩) (rm rfl (ro rfl (dU (Ht rfl) rfl) (ro rfl (dU (Ht rfl) rfl) (rn rfl (eG (Ts := [Is (.slice none 0 0), Is (.slice none 0 0)]) O_32 rfl (fun V => aW zd (aW zd (aG)))) fun B25 => (gJ Z_32 (Ht rfl) (Ht rfl) rfl (i := 6) rfl (aK rfl) rfl rfl ?_))))))))))
  refine ra rfl (eZ (aD [0,1,2,3,4,5,6] rfl (by decide) (dz (fun (uu:Unit)=>True) (fun (uu:Unit)=>[(7,aH B7 0),(10,NT .i64 (p + 1)),(13,aH B13 0),(15,aH B15 0),(17,aH B17 0),(19,aH B19 0),(21,aH B21 0),(22,aa .i64 EA)]) (fun (uu:Unit)=>[box B7 32 [av z1,bp s1],box B13 32 [av fZ,bp F],box B15 32 [av gZ,bp F],box B17 51 [a9 (decide ((gm F 0 1).a < 0)),ah (gm F 0 1).a.natAbs,a9 (decide ((gm F 0 1).b < 0)),ah (gm F 0 1).b.natAbs,ah (du (gm F 0 1))],box B19 51 [a9 (decide ((gm F 1 0).a < 0)),ah (gm F 1 0).a.natAbs,a9 (decide ((gm F 1 0).b < 0)),ah (gm F 1 0).b.natAbs,ah (du (gm F 1 0))],box B21 32 [av ZA,bp SA]]) ?_ (fun uu hT2=>?_))))
  ·refine ts (rm rfl (ro rfl (di (Ht rfl) cV) (eZ (dQ (Ht rfl) (fun hE => ?_) (fun hE => ?_)))))
   ·have hE1 : ER = 0 := of_decide_eq_true hE
    obtain ⟨h01,h10,hD,vZ,vS⟩:=vR hE1
    have herm:=BJ (F:=F) (fz:=gZ) hsh hn1 zo f3 f1 lgZ fF fgZ sF pgZ hD h01 h10
    rw [← vZ,← vS] at herm
    refine ts (ro rfl (eW A_32 Z_32 (Ht rfl) (i:=6) rfl rfl rfl) (rm rfl (ro rfl (eW A_32 Z_32 (Ht rfl) (i:=2) rfl rfl rfl) (ro rfl (cZ Tryz.call26 herm ⟨(Ht rfl),(Ht rfl),(Ht rfl),trivial⟩) (rm rfl (ro rfl (dU (Ht rfl) rfl) (ro rfl (dU (Ht rfl) rfl) (rn rfl (eG (Ts:=[Is (.slice none 0 0),Is (.slice none 0 0)]) O_32 rfl (fun V=>aW zd (aW zd (aG)))) fun B27=>(gJ Z_32 (Ht rfl) (Ht rfl) rfl (i:=7) rfl (aK rfl) rfl rfl ?_)))))))))
    refine ra rfl (eZ (cK (aD [0,1,2,3,4,5,6,7] rfl (by decide) (cY (ro rfl (eW A_32 Z_32 (Ht rfl) (i:=7) rfl rfl rfl) (rm rfl (ro rfl (eW A_32 Z_32 (Ht rfl) (i:=0) rfl rfl rfl) (ro rfl (cZ Tryz.call29 hs0 ⟨(Ht rfl),(Ht rfl),(Ht rfl),(cJ 0),trivial⟩) (ro rfl (bD (Ht rfl)) (eZ (cb (Ht rfl) (by rfl) ?_)))))))))))
    refine cU (aD [0,1,2,3,4,5] rfl (by decide) (au () trivial (zS rfl) (aU (a8 rfl) (aU (a8 rfl) (aU (a8 rfl) (aU (a8 rfl) (aU (a8 rfl) (aU (a8 rfl) aY))))))))
   ·refine cU (aD [0,1,2,3,4,5] rfl (by decide) (au () trivial (zS rfl) (aU (a8 rfl) (aU (a8 rfl) (aU (a8 rfl) (aU (a8 rfl) (aU (a8 rfl) (aU (a8 rfl) aY))))))))
  ·refine ts (ro rfl (eW A_32 Z_32 (Ht rfl) (i := 0) rfl rfl rfl) (ro rfl (eW A_32 Z_32 (Ht rfl) (i := 1) rfl rfl rfl) (ro rfl (cZ Tryz.call30 hst ⟨(Ht rfl), (Ht rfl), trivial⟩) (rm rfl (ro rfl (dU (Ht rfl) rfl) (ro rfl (dU (Ht rfl) rfl) (rn rfl (eG (Ts := [Is (.slice none 0 0), Is (.slice none 0 0)]) O_32 rfl (fun V => aW zd (aW zd (aG)))) fun B29 => (gJ Z_32 (Ht rfl) (Ht rfl) rfl (i := 6) rfl (aK rfl) rfl rfl (ra rfl (eZ ?_))))))))))
   refine cK (aD [0,1,2,3,4,5,6] rfl (by decide) (Y.D_start (m:=13) [] (bY (Ei:=[(29,_)]) rfl rfl (bQ (bJ rfl rfl) bX) rfl rfl (dX rfl (eW A_32 Z_32 (Ht rfl) (i:=6) rfl rfl rfl)) (bY (Ei:=[(10,_)]) rfl rfl (bQ (bJ rfl rfl) bX) rfl rfl (dX rfl (cX (Ht rfl))) (bY (Ei:=[(7,_)]) rfl rfl (bQ (bJ rfl rfl) bX) rfl rfl (dX rfl (eW A_32 Z_32 (Ht rfl) (i:=0) rfl rfl rfl)) (bY (Ei:=[(149,_)]) rfl rfl (bQ (bZ 2 rfl rfl) bX) rfl rfl (dX rfl (cZ K_22 iY ⟨(Ht rfl),trivial⟩)) ?_))))))
   refine bY (Ei:=[(150,_)]) rfl rfl (bQ (bZ 3 rfl rfl) bX) rfl rfl (dX rfl (dW (Ht rfl) (cJ 2) z6)) (bY (Ei:=[(148,_),(151,_)]) rfl rfl (bQ (bZ 1 rfl rfl) (bQ (bZ 4 rfl rfl) bX)) rfl rfl (dX rfl (rJ (Ht rfl) (Ht rfl))) (bY (Ei:=[(152,_)]) rfl rfl (bQ (bZ 5 rfl rfl) bX) rfl rfl (dX rfl (bm (xs:=[.tmp 152]) U_26 Z_71 Tryz.zeroValue71 (cW (Ht rfl) cG) rfl rfl rfl)) ?_))
   refine bY (Ei:=[(147,_),(153,_)]) rfl rfl (bQ (bZ 0 rfl rfl) (bQ (bZ 6 rfl rfl) bX)) rfl rfl (dX rfl (cZ Tryz.call31 hjn ⟨(Ht rfl),(Ht rfl),trivial⟩)) (bY (Ei:=[(154,_)]) rfl rfl (bQ (bZ 7 rfl rfl) bX) rfl rfl (dX rfl (cX (Ht rfl))) (bY (Ei:=[(146,_)]) rfl rfl (bQ (bZ 8 rfl rfl) bX) rfl rfl (dX rfl (dU (Ht rfl) rfl)) (bY (Ei:=[(146,_)]) rfl rfl (bQ (bZ 8 rfl rfl) bX) rfl rfl (dX rfl (dU (Ht rfl) rfl)) ?_)))
   refine Y.D_newp (Ei:=[]) (fun bb=>box bb 32 [av JZ,bp JS]) 12 rfl rfl rfl bX rfl rfl (by kernel_rfl) (eG (Ts:=[Is (.slice none 0 0),Is (.slice none 0 0)]) O_32 rfl (fun V=>aW zd (aW zd (aG)))) (Y.D_putN (Ei:=[(155,_)]) 11 rfl rfl rfl rfl rfl rfl (bQ (bZ 9 rfl rfl) bX) (fun bb=>ft Z_32 (Ht rfl) (Ht rfl) rfl (i:=0) rfl (aK rfl) rfl rfl) (Y.D_done aA rfl (by kernel_rfl) rfl (by simp [Y.okP]) rfl rfl (bU (bU (bU (bU (bU (bU (bU (bU (bU (bU (bU (Y.F_newp (fun B31=>Y.F_putN (Y.F_nil ?_))))))))))))))))
   refine ra rfl (eZ (cK (cK (aD [0,1,2,3,4,5,6,7] rfl (by decide) (cY (rm rfl (ro rfl (bT (Ht rfl) cV) (rm rfl (fX rfl rfl (eo rfl rfl (Ht rfl) (fun h=>cX (Ht rfl))) (fX rfl rfl (eo rfl rfl (Ht rfl) (fun h=>cX (Ht rfl))) (fX rfl rfl (eo rfl rfl (Ht rfl) (fun h=>bT (ax.wu rfl h) (ax.wu rfl h))) (fX rfl rfl (eo rfl rfl (Ht rfl) (fun h=>cX (ax.wu rfl h))) (fX rfl rfl (iZ rfl rfl rfl (fun h h2=>cX (Ht rfl))) (fX rfl rfl (iZ rfl rfl rfl (fun h h2=>bT (ax.wu rfl ⟨h,h2⟩) cV)) ?_))))))))))))))
   refine fX rfl rfl (eo rfl rfl (Ht rfl) (fun h=>bx (ax.wu rfl h) (fun h2=>(ax.wu rfl ⟨h,h2⟩)))) (ro rfl (eP (Ht rfl) (fun h=>(ax.wu rfl h))) (eZ (cb (Ht rfl) (by simp) ?_)))
   refine cU (cK (ts (rm rfl (ro rfl (bT (Ht rfl) cV) (eZ (dQ (Ht rfl) (fun hE5=>?_) (fun hE5=>?_)))))))
   ·have hE6 : EA = 6 := by
     have:EA ≠ 0:=by simpa using hE5
     rw [dA] at this ⊢
     split at this
     ·rename_i k; rw [if_pos k]
     ·exact absurd rfl this
    refine ts (rm rfl (ro rfl (di (Ht rfl) cV) (rm rfl (fX rfl rfl (eU rfl rfl (Ht rfl) (fun h=>cZ Tryz.call32 rv trivial)) (ro rfl (bx (Ht rfl) (fun h=>(fW rfl h))) (ra rfl (eZ (fK rfl (fJ (eY rfl) ?_)))))))))
    exact (bL (by simp [hE6]))
   ·have hE1 : EA = 0 := by simpa using hE5
    obtain ⟨hD,vZ,vS⟩:=vA hE1
    obtain ⟨g1,g2,g3⟩:=Ch (z:=z1) (fz:=fZ) (s:=s1) (f:=F) rfl lfZ hn1 pfZ hD
    rw [← hJS,← vS] at g1
    rw [← hJZ,← vZ] at g2
    rw [← hJZ] at g3
    have hren : aw Tryz.prog 33 [aM JZ JS, cD (yL z1.length p)] (bo [aM ZA SA, aa .i64 0]) := by
     have h:=CB (z:=JZ) (s:=JS) (O:=yL z1.length p) sJ zo (by rw [g3]; exact xO hn1 hzl)
     rw [yD hn1,g1,g2] at h; exact h
    have lA:ZA.length = z1.length:=by rw [vZ,List.length_set]
    have hsame : aw Tryz.prog 29 [aM ZA SA, aa .i64 0, aM ZA SA, aa .i64 EA] (a9 true) := by
     have fZA:aP ZA 60:=by rw [vZ]; exact fun x hx=>(List.mem_or_eq_of_mem_set hx).elim (fun k=>(f1 x k).le (by decide)) fun e=>e ▸ (ffZ.get (by decide) 0).le (by decide)
     have fSA:aL SA 60:=by rw [vS]; exact qT f3 fF (by decide) hD
     have sSA:bM SA ZA.length ZA.length:=by rw [lA,vS]; exact bM.tab
     have h:=wo (z:=ZA) (z':=ZA) (s:=SA) (s':=SA) (e:=0) (e':=EA) (L:=60) fZA fZA fSA fSA (by decide) (by decide) sSA sSA zo zo
     rw [ni,hE1] at h; rw [hE1]; exact h
    refine cU (ts (ro rfl (cQ cV) (eZ (cK (cK (aD [0,5,7] rfl (by decide) (jk 3 1 (cY (ro rfl (cQ (cJ 1)) (eZ (eK ?_)))))))))))
    refine ci (fun (k : Nat) (vO : Value) => k ≤ z1.length) (fun (k : Nat) (vO : Value) => z1.length - k) (fun (k : Nat) (vO : Value) => [(7, aH B7 0), (10, NT .i64 (p + 1)), (21, aH B21 0), (22, aa .i64 EA), (31, aH B31 0), (33, Is vO), (34, NT .i64 (k + 1))]) (fun (k : Nat) (vO : Value) => [box B7 32 [av z1, bp s1], box B21 32 [av ZA, bp SA], box B31 32 [av JZ, bp JS], aE 3 1 vO ((tab k fun k => jj p k z1.length + 1).map (NT .i64))]) 0 _ (Nat.zero_le _)
     (zS rfl) (aU (a8 rfl) (aU (a8 rfl) (aU (a8 rfl) (aU (ar rfl) aY)))) (fun k vO hk2=>?_)
    refine cK (ts (rm rfl (ro rfl (eW A_32 Z_32 (Ht rfl) (i:=0) rfl rfl rfl) (ro rfl (cZ K_22 iY ⟨(Ht rfl),trivial⟩) (ro rfl (kR (Ht rfl) (Ht rfl)) (eZ (dQ (Ht rfl) (fun hc=>?_) (fun hc=>?_))))))))
    ·have hkn : k < z1.length := by simp only [decide_eq_true_eq] at hc; omega
     have htl:=ao k fun k=>jj p k z1.length + 1
     refine cU (cK (eK (eK (ts (rm rfl (rm rfl (ro rfl (gV (Ht rfl) (Ht rfl)) (ra rfl (eZ (dQ (Ht rfl) (fun h1c=>?_) (fun h1c=>?_)))))))))))
     ·have hkp : k < p := by simp only [decide_eq_true_eq] at h1c; omega
      refine cY (rm rfl (rm rfl (ro rfl (bm (xs:=[.tmp 191]) U_72 Z_3 O_3 (cW (Ht rfl) cG) rfl rfl rfl) (gd (inf:=Tryz.t3) nE nm rfl rfl rfl (Ht rfl) (Ht rfl) (i:=3) rfl (by simp) (fun T hT=>by simp at hT; subst hT; exact El.one) (by show _ * 8 ≤ _; simp only [List.length_map,List.length_cons,List.length_nil]; omega) (by simp only [List.length_map,List.length_cons,List.length_nil]; omega) rfl (fun v2=>?_)))))
      refine ra rfl (eZ (aB (aB (cY (rm rfl (ro rfl (dW (Ht rfl) (cJ 1) z6) (ra rfl (eZ (gQ (k + 1,v2) hkn (by dsimp only; omega) (zS rfl) (aU (a8 rfl) (aU (a8 rfl) (aU (a8 rfl) (aU (ar (by rw [e9,List.map_append,show jj p k z1.length + 1 = k + 1 from by unfold jj; rw [if_pos hkp]]; rfl)) aY)))))))))))))
     ·have hkp : ¬ k < p := by simp only [decide_eq_false_iff_not] at h1c; omega
      refine ts (rm rfl (rm rfl (ro rfl (aO (Ht rfl) (Ht rfl)) (ra rfl (eZ (dQ (Ht rfl) (fun h2c=>?_) (fun h2c=>?_)))))))
      ·have hke : k = p := by simp only [decide_eq_true_eq] at h2c; omega
       refine cY (rm rfl (ro rfl (eW A_32 Z_32 (Ht rfl) (i:=0) rfl rfl rfl) (ro rfl (cZ K_22 iY ⟨(Ht rfl),trivial⟩) (ro rfl (bm (xs:=[.tmp 200]) U_72 Z_3 O_3 (cW (Ht rfl) cG) rfl rfl rfl) (gd (inf:=Tryz.t3) nE nm rfl rfl rfl (Ht rfl) (Ht rfl) (i:=3) rfl (by simp) (fun T hT=>by simp at hT; subst hT; exact El.one) (by show _ * 8 ≤ _; simp only [List.length_map,List.length_cons,List.length_nil]; omega) (by simp only [List.length_map,List.length_cons,List.length_nil]; omega) rfl (fun v2=>?_))))))
       refine ra rfl (eZ (aB (aB (cY (rm rfl (ro rfl (dW (Ht rfl) (cJ 1) z6) (ra rfl (eZ (gQ (k + 1,v2) hkn (by dsimp only; omega) (zS rfl) (aU (a8 rfl) (aU (a8 rfl) (aU (a8 rfl) (aU (ar (by rw [e9,List.map_append,show jj p k z1.length + 1 = z1.length from by unfold jj; rw [if_neg hkp,if_pos hke]; omega]; rfl)) aY)))))))))))))
      ·have hke : ¬ k = p := by simp only [decide_eq_false_iff_not] at h2c; omega
       refine cY (rm rfl (rm rfl (ro rfl (dG (Ht rfl) (cJ 1) zo z6) (ro rfl (bm (xs:=[.tmp 183]) U_72 Z_3 O_3 (cW (Ht rfl) cG) rfl rfl rfl) (gd (inf:=Tryz.t3) nE nm rfl rfl rfl (Ht rfl) (Ht rfl) (i:=3) rfl (by simp) (fun T hT=>by simp at hT; subst hT; exact El.one) (by show _ * 8 ≤ _; simp only [List.length_map,List.length_cons,List.length_nil]; omega) (by simp only [List.length_map,List.length_cons,List.length_nil]; omega) rfl (fun v2=>?_))))))
       refine ra rfl (eZ (aB (aB (cY (rm rfl (ro rfl (dW (Ht rfl) (cJ 1) z6) (ra rfl (eZ (gQ (k + 1,v2) hkn (by dsimp only; omega) (zS rfl) (aU (a8 rfl) (aU (a8 rfl) (aU (a8 rfl) (aU (ar (by rw [e9,List.map_append,show jj p k z1.length + 1 = k + 1 - 1 from by unfold jj; rw [if_neg hkp,if_neg hke]; omega]; rfl)) aY)))))))))))))
    ·have hkn : k = z1.length := by simp only [decide_eq_false_iff_not] at hc; omega
     rw [hkn]
     refine gK rfl (gG (i:=3) (tt:=33) rfl rfl cg (ts (ro rfl (eW A_32 Z_32 (Ht rfl) (i:=2) rfl rfl rfl) (rm rfl (ro rfl (cZ Tryz.call33 hren ⟨(Ht rfl),(Ht rfl),trivial⟩) (rm rfl (ro rfl (dU (Ht rfl) rfl) (ro rfl (dU (Ht rfl) rfl) (rn rfl (eG (Ts:=[Is (.slice none 0 0),Is (.slice none 0 0)]) O_32 rfl (fun V=>aW zd (aW zd (aG)))) fun B35=>(gJ Z_32 (Ht rfl) (Ht rfl) rfl (i:=4) rfl (aK rfl) rfl rfl (ra rfl (eZ (ts ?_)))))))))))))
     refine ro rfl (eW A_32 Z_32 (Ht rfl) (i:=4) rfl rfl rfl) (rm rfl (ro rfl (eW A_32 Z_32 (Ht rfl) (i:=1) rfl rfl rfl) (rm rfl (ro rfl (cZ Tryz.call29 hsame ⟨(Ht rfl),(Ht rfl),(Ht rfl),(Ht rfl),trivial⟩) (rm rfl (fX rfl rfl (eU rfl rfl (Ht rfl) (fun h=>cZ Tryz.call32 rv trivial)) (ro rfl (bx (Ht rfl) (fun h=>(fW rfl h))) (ra rfl (eZ ?_)))))))))
     exact fK rfl (eY rfl)
end
section
open Go Go.ChangeShapes Go.WideShapes Go.ChangeAt Go.RowKit Go.Deep
section
variable {H:Type} {enc:TypeId × Value → H} {W:World} {base:Nat} {sp:Nat → Bool} {held:Bool}
theorem DT:S3 Tryz.prog 57 5 22 22:=⟨⟨_,_,_,Tryz.underlying57,rfl,rfl,rfl,rfl,rfl,rfl⟩,by kernel_rfl,by kernel_rfl,by kernel_rfl,by kernel_rfl⟩
theorem mX {b0:Nat} {v:Value} {d:DataW H} {p:List MemPlace} (ho:Value.okWide Tryz.prog W .any b0 57 v) (h:DataW.Trod enc Tryz.prog W base sp held 57 v d p):∃ (a:Nat) (zl sl:List Rt),(bB [NT .u8 a,fq zl,fq sl]).p v (hv W) ∧ a < 256:=by
 obtain ⟨cs,rfl,_⟩:=okWide_struct Tryz.underlying57 ho
 obtain ⟨n,hn⟩:=h
 obtain ⟨x0,x1,x2,m,y0,y1,y2,hcs,h0,h1,h2⟩:=DT.open hn
 obtain ⟨i,e0,_,w⟩:=DataW.trod_int Tryz.underlying5 h0
 obtain ⟨v1,z,e1,k1⟩:=oe h1
 obtain ⟨v2,s,e2,k2⟩:=oe h2
 simp only [List.cons.injEq,and_true] at e0 e1 e2
 subst e0 e1 e2
 have hw:=Av w
 have e:((i.toNat:Nat):Int) = i:=by omega
 have hi:∀ V,(NT .u8 i.toNat).p (.int .u8 i) V:=fun V=>by rw [show NT .u8 i.toNat = aa .u8 i from congrArg (aa .u8) e]; rfl
 have hcs2:cs.toList = [.int .u8 i,x1,x2]:=hcs
 exact ⟨i.toNat,z,s,⟨cs.toList,rfl,by rw [hcs2]; exact aW ⟨hi _,trivial⟩ (aW ⟨k1,(ri k1).2⟩ (aW ⟨k2,(ri k2).2⟩ aG))⟩,by omega⟩
end
end
end Go.Proofs.YteohomnhncjcnaaGreat
