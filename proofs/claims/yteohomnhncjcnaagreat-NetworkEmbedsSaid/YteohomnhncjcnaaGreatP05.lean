/- What functions of the program compute, proved by walks over their code, and the plain mathematics of it; a part of the proof in the last text. -/
import Derived.Test.YteohomnhncjcnaaGreatP04
set_option linter.unusedVariables false
set_option linter.unusedSimpArgs false
set_option maxRecDepth 100000
set_option maxHeartbeats 4000000
namespace Go.Proofs.YteohomnhncjcnaaGreat
section
open Go Go.RowKit
abbrev nb (x:Qi):List Ty:=[aC (decide (x.a < 0)),aH x.a.natAbs,aC (decide (x.b < 0)),aH x.b.natAbs,aH (du x)]
abbrev Vr:List Ty:=[Is (.bool false),Is (.slice none 0 0),Is (.bool false),Is (.slice none 0 0),Is (.slice none 0 0)]
def Xm (f : List (List Qi)) : Nat → List Ty
 | 0=>Vr ++ Vr ++ (Vr ++ Vr)
 | 1=>nb (gm f 0 0) ++ nb (gm f 0 1) ++ (Vr ++ Vr)
 | _=>nb (gm f 0 0) ++ nb (gm f 0 1) ++ (nb (gm f 1 0) ++ nb (gm f 1 1))
theorem Zv (f : List (List Qi)) : ∀ i, (Xm f i).length = 20
 | 0=>rfl
 | 1=>rfl
 | _ + 2=>rfl
theorem Pw (f : List (List Qi)) : ∀ {i : Nat}, i < 2 → (Xm f i).take (0 + i * 10) ++ (nb (gm f i 0) ++ nb (gm f i 1)) ++ (Xm f i).drop (0 + i * 10 + 10) = Xm f (i + 1)
 | 0,_=>rfl
 | 1,_=>rfl
theorem a3l {f:List (List Qi)} (h:eR f 2 2) {i:Nat} (hi:i < 2):(f.getD i []).map aE = [aE (gm f i 0),aE (gm f i 1)]:=by
 have hl:=h.row hi
 show (f.getD i []).map aE = [aE (gv (f.getD i []) 0),aE (gv (f.getD i []) 1)]
 generalize f.getD i [] = l at hl
 match l,hl with
 | [a,b],_=>rfl
theorem a2S {z fz:List Qi} {port:Int} {x:Nat} (h:fz.length ≠ 2):pZ z fz port x = 4:=if_pos h
theorem a3j {z fz:List Qi} {port:Int} {x:Nat} (h:fz.length = 2) (h2:¬ (1 ≤ port ∧ port ≤ (z.length:Int))):pZ z fz port x = 1:=by rw [pZ,if_neg (fun k=>k h),if_pos h2]
theorem a3i {z fz:List Qi} {port:Int} {x:Nat} (h:fz.length = 2) (h2:1 ≤ port ∧ port ≤ (z.length:Int)):pZ z fz port x = if gv fz (x - 1) = gv z (port - 1).toNat then 0 else 40:=by rw [pZ,if_neg (fun k=>k h),if_neg (fun k=>k h2)]
theorem Kp {fz:List Qi} {f:List (List Qi)} (h2:fz.length = 2) (hf:eR f 2 2):bB Tryz.prog 202 [bR fz f] (dN [eD (Xm f 2),aD .i64 0]):=by
 have hfl:=hf.1
 refine bB.intro Tryz.func202 rfl Tryz.ntmps202 rfl (fun cx=>(ts (rn rfl (fU (Ht rfl)) fun B1=>(rn rfl (eG (Ts:=[Is (.bool false),Is (.slice none 0 0),Is (.bool false),Is (.slice none 0 0),Is (.slice none 0 0),Is (.bool false),Is (.slice none 0 0),Is (.bool false),Is (.slice none 0 0),Is (.slice none 0 0),Is (.bool false),Is (.slice none 0 0),Is (.bool false),Is (.slice none 0 0),Is (.slice none 0 0),Is (.bool false),Is (.slice none 0 0),Is (.bool false),Is (.slice none 0 0),Is (.slice none 0 0)]) O_163 rfl (fun V=>aW zd (aW zd (aW zd (aW zd (aW zd (aW zd (aW zd (aW zd (aW zd (aW zd (aW zd (aW zd (aW zd (aW zd (aW zd (aW zd (aW zd (aW zd (aW zd (aW zd (aG)))))))))))))))))))))) fun B2=>?_))))
 refine ro rfl (cQ (cJ 0)) (eZ (ts (rn rfl (eG (Ts:=[Is (.bool false),Is (.slice none 0 0),Is (.bool false),Is (.slice none 0 0),Is (.slice none 0 0),Is (.bool false),Is (.slice none 0 0),Is (.bool false),Is (.slice none 0 0),Is (.slice none 0 0),Is (.bool false),Is (.slice none 0 0),Is (.bool false),Is (.slice none 0 0),Is (.slice none 0 0),Is (.bool false),Is (.slice none 0 0),Is (.bool false),Is (.slice none 0 0),Is (.slice none 0 0)]) O_163 rfl (fun V=>aW zd (aW zd (aW zd (aW zd (aW zd (aW zd (aW zd (aW zd (aW zd (aW zd (aW zd (aW zd (aW zd (aW zd (aW zd (aW zd (aW zd (aW zd (aW zd (aW zd (aG)))))))))))))))))))))) fun B4=>?_)))
 refine eZ (cK (ts (ro rfl (eJ eO (Ht rfl) rfl) (ro rfl (fQ A_29 Z_29 (Ht rfl) (i:=0) rfl rfl) (ro rfl (dK U_29 (Ht rfl) aA) (ro rfl (iV (Ht rfl) (cJ 2)) (eZ (fN (Ht rfl) (by simp [h2]) ?_))))))))
 refine cU (cK (ts (ro rfl (cX (cJ 0)) (eZ (eK ?_)))))
 refine cM (fun (i : Nat) => i ≤ 2) (fun (i : Nat) => 2 - i) (fun (i : Nat) => [(1, bO B1 0), (2, bO B2 0), (4, bO B4 0), (11, NT .i64 i)]) (fun (i : Nat) => [box B1 32 [bA fz, dM f], box B2 163 (Vr ++ Vr ++ (Vr ++ Vr)), box B4 163 (Xm f i)]) 0 (Nat.zero_le _)
  (zS rfl) (aU (aB rfl) (aU (aB rfl) (aU (aB rfl) aY))) (fun i hi=>?_)
 refine ts (ro rfl (gV (Ht rfl) (cJ 2)) (eZ (cK (dQ (Ht rfl) (fun hd=>?_) (fun hd=>?_)))))
 ·have hi2 : i < 2 := by simp only [decide_eq_true_eq] at hd; omega
  have hxl:=Zv f i
  refine cU (cK (eK (ts (rm rfl (ra rfl (eZ (cY (rm rfl (ro rfl (eJ dI (Ht rfl) rfl) (ro rfl (fQ A_30 Z_30 (Ht rfl) (i:=0) rfl rfl) (rm rfl (ro rfl (dZ U_30 Z_29 (Ht rfl) (Ht rfl) rfl (eQ (dY (d:=[]) zo))) (ro rfl (dV A_29 Z_29 (Ht rfl)) (ro rfl (Zi U_162 (bC.to (Ht rfl) (kB (a3l hf hi2))) rfl) (ro rfl (dV Tryz.isAgg162 Z_162 (Ht rfl)) (ro rfl (iB U_163 Z_162 (Ht rfl) (Ht rfl) rfl zo rfl) ?_))))))))))))))))
  refine gJ Z_162 (Ht rfl) (Ht rfl) rfl (i:=2) rfl (by rw [hxl]; omega) rfl rfl ?_
  refine eZ (bH (cY (ro rfl (dW (Ht rfl) (cJ 1) z6) (rm rfl (eZ (gQ (i + 1) hi2 zo (zS rfl) (aU (aB rfl) (aU (aB rfl) (aU (aB (Pw f hi2)) aY)))))))))
 ·obtain rfl : i = 2 := by simp only [decide_eq_false_iff_not] at hd; omega
  refine gK rfl (ts (ro rfl (eW A_163 Z_163 (Ht rfl) (i:=2) rfl rfl rfl) (gJ Z_163 (Ht rfl) (Ht rfl) rfl (i:=1) rfl (aK rfl) rfl rfl (ro rfl (cQ (cJ 0)) (eZ ?_)))))
  exact bI rfl (fY A_163 Z_163 rfl (i:=1) rfl rfl) (eY rfl)
theorem Iq {fz:List Qi} {f:List (List Qi)} (h2:fz.length ≠ 2):bB Tryz.prog 202 [bR fz f] (dN [eD (Xm [] 0),aD .i64 4]):=by
 refine bB.intro Tryz.func202 rfl Tryz.ntmps202 rfl (fun cx=>(ts (rn rfl (fU (Ht rfl)) fun B1=>(rn rfl (eG (Ts:=[Is (.bool false),Is (.slice none 0 0),Is (.bool false),Is (.slice none 0 0),Is (.slice none 0 0),Is (.bool false),Is (.slice none 0 0),Is (.bool false),Is (.slice none 0 0),Is (.slice none 0 0),Is (.bool false),Is (.slice none 0 0),Is (.bool false),Is (.slice none 0 0),Is (.slice none 0 0),Is (.bool false),Is (.slice none 0 0),Is (.bool false),Is (.slice none 0 0),Is (.slice none 0 0)]) O_163 rfl (fun V=>aW zd (aW zd (aW zd (aW zd (aW zd (aW zd (aW zd (aW zd (aW zd (aW zd (aW zd (aW zd (aW zd (aW zd (aW zd (aW zd (aW zd (aW zd (aW zd (aW zd (aG)))))))))))))))))))))) fun B2=>?_))))
 refine ro rfl (cQ (cJ 0)) (eZ (ts (rn rfl (eG (Ts:=[Is (.bool false),Is (.slice none 0 0),Is (.bool false),Is (.slice none 0 0),Is (.slice none 0 0),Is (.bool false),Is (.slice none 0 0),Is (.bool false),Is (.slice none 0 0),Is (.slice none 0 0),Is (.bool false),Is (.slice none 0 0),Is (.bool false),Is (.slice none 0 0),Is (.slice none 0 0),Is (.bool false),Is (.slice none 0 0),Is (.bool false),Is (.slice none 0 0),Is (.slice none 0 0)]) O_163 rfl (fun V=>aW zd (aW zd (aW zd (aW zd (aW zd (aW zd (aW zd (aW zd (aW zd (aW zd (aW zd (aW zd (aW zd (aW zd (aW zd (aW zd (aW zd (aW zd (aW zd (aW zd (aG)))))))))))))))))))))) fun B4=>?_)))
 refine eZ (cK (ts (ro rfl (eJ eO (Ht rfl) rfl) (ro rfl (fQ A_29 Z_29 (Ht rfl) (i:=0) rfl rfl) (ro rfl (dK U_29 (Ht rfl) aA) (ro rfl (iV (Ht rfl) (cJ 2)) (eZ (nU (Ht rfl) (by simp; omega) ?_))))))))
 refine ts (ro rfl (eW A_163 Z_163 (Ht rfl) (i:=2) rfl rfl rfl) (gJ Z_163 (Ht rfl) (Ht rfl) rfl (i:=1) rfl (aK rfl) rfl rfl (ro rfl (cQ (cJ 4)) (eZ ?_))))
 exact bI rfl (fY A_163 Z_163 rfl (i:=1) rfl rfl) (eY rfl)
theorem Bd {z fz:List Qi} {s f:List (List Qi)} {port:Int} {x L:Nat} (h2:fz.length = 2) (hf:eR f 2 2) (hx:x = 1 ∨ x = 2) (hfz:cC z L) (hff:cC fz L) (hL:1 ≤ L) (hLb:L ≤ 1000000) (hl:z.length ≤ 1000):bB Tryz.prog 107 [bR z s,aD .i64 port,bR fz f,NT .i64 x] (dN [eD (Xm f 2),aD .i64 (pZ z fz port x)]):=by
 refine bB.intro Tryz.func107 rfl Tryz.ntmps107 rfl (fun cx=>(ts (rn rfl (fU (Ht rfl)) fun B4=>(rn rfl (fU (Ht rfl)) fun B6=>(rn rfl (eG (Ts:=[Is (.bool false),Is (.slice none 0 0),Is (.bool false),Is (.slice none 0 0),Is (.slice none 0 0),Is (.bool false),Is (.slice none 0 0),Is (.bool false),Is (.slice none 0 0),Is (.slice none 0 0),Is (.bool false),Is (.slice none 0 0),Is (.bool false),Is (.slice none 0 0),Is (.slice none 0 0),Is (.bool false),Is (.slice none 0 0),Is (.bool false),Is (.slice none 0 0),Is (.slice none 0 0)]) O_163 rfl (fun V=>aW zd (aW zd (aW zd (aW zd (aW zd (aW zd (aW zd (aW zd (aW zd (aW zd (aW zd (aW zd (aW zd (aW zd (aW zd (aW zd (aW zd (aW zd (aW zd (aW zd (aG)))))))))))))))))))))) fun B8=>?_)))))
 refine ro rfl (cQ (cJ 0)) (eZ (ts (ro rfl (eW A_32 Z_32 (Ht rfl) (i:=1) rfl rfl rfl) (ro rfl (cZ Tryz.call202 (Kp h2 hf) ⟨(Ht rfl),trivial⟩) (rm rfl (ro rfl (dU (Ht rfl) rfl) (ro rfl (dU (Ht rfl) rfl) (rn rfl (eG (Ts:=[Is (.bool false),Is (.slice none 0 0),Is (.bool false),Is (.slice none 0 0),Is (.slice none 0 0),Is (.bool false),Is (.slice none 0 0),Is (.bool false),Is (.slice none 0 0),Is (.slice none 0 0),Is (.bool false),Is (.slice none 0 0),Is (.bool false),Is (.slice none 0 0),Is (.slice none 0 0),Is (.bool false),Is (.slice none 0 0),Is (.bool false),Is (.slice none 0 0),Is (.slice none 0 0)]) O_163 rfl (fun V=>aW zd (aW zd (aW zd (aW zd (aW zd (aW zd (aW zd (aW zd (aW zd (aW zd (aW zd (aW zd (aW zd (aW zd (aW zd (aW zd (aW zd (aW zd (aW zd (aW zd (aG)))))))))))))))))))))) fun B10=>?_))))))))
 refine gJ Z_163 (Ht rfl) (Ht rfl) rfl (i:=3) rfl (aK rfl) rfl rfl (ra rfl (eZ (cK (eK (ts (rm rfl (ro rfl (fB (Ht rfl) cV) (ra rfl (eZ (fN (Ht rfl) (by rfl) ?_))))))))))
 refine ts (ro rfl (eW A_32 Z_32 (Ht rfl) (i:=0) rfl rfl rfl) (rm rfl (ro rfl (cZ K_106 Ch ⟨(Ht rfl),(Ht rfl),trivial⟩) (ro rfl (eH (Ht rfl)) (ra rfl (eZ (dQ (Ht rfl) (fun hb=>?_) (fun hb=>?_))))))))
 ·have he := a3j (x := x) h2 (by simpa only [Bool.not_eq_true', decide_eq_false_iff_not] using hb : ¬ (1 ≤ port ∧ port ≤ (z.length : Int)))
  refine ts (ro rfl (eW A_163 Z_163 (Ht rfl) (i:=3) rfl rfl rfl) (gJ Z_163 (Ht rfl) (Ht rfl) rfl (i:=2) rfl (aK rfl) rfl rfl (ro rfl (cQ (cJ 1)) (eZ (bI rfl (fY A_163 Z_163 rfl (i:=2) rfl rfl) (fJ (eY rfl) ?_))))))
  exact (aM he.symm)
 ·have hb2 : 1 ≤ port ∧ port ≤ (z.length : Int) := by simpa using hb
  have hd:=a3i (x:=x) h2 hb2
  haveI g1:aN (gv fz (x - 1)) L:=hff.get hL _
  haveI g2:aN (gv z (port - 1).toNat) L:=hfz.get hL _
  refine cK (fV (m:=12) (dp 6 rfl (eJ eO (Ht rfl) rfl) (dq 29 0 rfl (fQ A_29 Z_29 (Ht rfl) (i:=1) rfl rfl) (dp 3 rfl (cX (Ht rfl)) (dq 31 2 rfl (dG (Ht rfl) (cJ 1) zo z6) (dS 30 1 32 3 rfl (dZ U_29 Z_51 (Ht rfl) (Ht rfl) rfl (eQ (dY (d:=Qi.zero) zo))) (dq 33 4 rfl (dV A_51 Z_51 (Ht rfl)) (dp 4 rfl (eJ eO (Ht rfl) rfl) (dq 35 6 rfl (fQ A_29 Z_29 (Ht rfl) (i:=0) rfl rfl) ?_)))))))))
  refine dp 1 rfl (cX (Ht rfl)) (dq 37 8 rfl (gM (Ht rfl) cV (r:=(((port - 1).toNat:Nat):Int)) ((tD (z:=port - 1) zo).trans zo)) ?_)
  refine dS 36 7 38 9 rfl (dZ U_29 Z_51 (Ht rfl) (Ht rfl) rfl (eQ (dY (d:=Qi.zero) zo))) (dq 39 10 rfl (dV A_51 Z_51 (Ht rfl)) (fG bF rfl (by kernel_rfl) (zF (zF (zF (aV (ro rfl (cZ Tryz.call139 (Du (x:=gv fz (x - 1)) (y:=gv z (port - 1).toNat) (L:=L) (M:=L) zo zo) ⟨(Ht rfl),(Ht rfl),trivial⟩) (ro rfl (eH (Ht rfl)) (ra rfl (eZ (dQ (Ht rfl) (fun hc=>?_) (fun hc=>?_))))))))))))
  ·have he : pZ z fz port x = 40 := by rw [hd, if_neg (by simpa using hc)]
   refine ts (ro rfl (eW A_163 Z_163 (Ht rfl) (i:=3) rfl rfl rfl) (gJ Z_163 (Ht rfl) (Ht rfl) rfl (i:=2) rfl (aK rfl) rfl rfl (ro rfl (cQ (cJ 40)) (eZ (bI rfl (fY A_163 Z_163 rfl (i:=2) rfl rfl) (fJ (eY rfl) ?_))))))
   exact (aM he.symm)
  ·have he : pZ z fz port x = 0 := by rw [hd, if_pos (by simpa using hc)]
   refine cU (bH (ts (ro rfl (eW A_163 Z_163 (Ht rfl) (i:=3) rfl rfl rfl) (gJ Z_163 (Ht rfl) (Ht rfl) rfl (i:=2) rfl (aK rfl) rfl rfl (ro rfl (cQ (cJ 0)) (eZ (bI rfl (fY A_163 Z_163 rfl (i:=2) rfl rfl) (fJ (eY rfl) ?_))))))))
   exact (aM he.symm)
theorem Ck {z fz:List Qi} {s f:List (List Qi)} {port:Int} {x:Nat} (h2:fz.length ≠ 2):bB Tryz.prog 107 [bR z s,aD .i64 port,bR fz f,NT .i64 x] (dN [eD (Xm [] 0),aD .i64 4]):=by
 refine bB.intro Tryz.func107 rfl Tryz.ntmps107 rfl (fun cx=>(ts (rn rfl (fU (Ht rfl)) fun B4=>(rn rfl (fU (Ht rfl)) fun B6=>(rn rfl (eG (Ts:=[Is (.bool false),Is (.slice none 0 0),Is (.bool false),Is (.slice none 0 0),Is (.slice none 0 0),Is (.bool false),Is (.slice none 0 0),Is (.bool false),Is (.slice none 0 0),Is (.slice none 0 0),Is (.bool false),Is (.slice none 0 0),Is (.bool false),Is (.slice none 0 0),Is (.slice none 0 0),Is (.bool false),Is (.slice none 0 0),Is (.bool false),Is (.slice none 0 0),Is (.slice none 0 0)]) O_163 rfl (fun V=>aW zd (aW zd (aW zd (aW zd (aW zd (aW zd (aW zd (aW zd (aW zd (aW zd (aW zd (aW zd (aW zd (aW zd (aW zd (aW zd (aW zd (aW zd (aW zd (aW zd (aG)))))))))))))))))))))) fun B8=>?_)))))
 refine ro rfl (cQ (cJ 0)) (eZ (ts (ro rfl (eW A_32 Z_32 (Ht rfl) (i:=1) rfl rfl rfl) (ro rfl (cZ Tryz.call202 (Iq h2) ⟨(Ht rfl),trivial⟩) (rm rfl (ro rfl (dU (Ht rfl) rfl) (ro rfl (dU (Ht rfl) rfl) (rn rfl (eG (Ts:=[Is (.bool false),Is (.slice none 0 0),Is (.bool false),Is (.slice none 0 0),Is (.slice none 0 0),Is (.bool false),Is (.slice none 0 0),Is (.bool false),Is (.slice none 0 0),Is (.slice none 0 0),Is (.bool false),Is (.slice none 0 0),Is (.bool false),Is (.slice none 0 0),Is (.slice none 0 0),Is (.bool false),Is (.slice none 0 0),Is (.bool false),Is (.slice none 0 0),Is (.slice none 0 0)]) O_163 rfl (fun V=>aW zd (aW zd (aW zd (aW zd (aW zd (aW zd (aW zd (aW zd (aW zd (aW zd (aW zd (aW zd (aW zd (aW zd (aW zd (aW zd (aW zd (aW zd (aW zd (aW zd (aG)))))))))))))))))))))) fun B10=>?_))))))))
 refine gJ Z_163 (Ht rfl) (Ht rfl) rfl (i:=3) rfl (aK rfl) rfl rfl (ra rfl (eZ (cK (eK (ts (rm rfl (ro rfl (fB (Ht rfl) cV) (ra rfl (eZ (nU (Ht rfl) (by rfl) ?_))))))))))
 refine ts (ro rfl (eW A_163 Z_163 (Ht rfl) (i:=3) rfl rfl rfl) (rm rfl (gJ Z_163 (Ht rfl) (Ht rfl) rfl (i:=2) rfl (aK rfl) rfl rfl (ra rfl (eZ ?_)))))
 exact bI rfl (fY A_163 Z_163 rfl (i:=2) rfl rfl) (eY rfl)
theorem Cl {z:List Qi} {s:List (List Qi)} {p:Nat} {e:Qi} {L M:Nat} (hs:eR s z.length z.length) (hp:p < z.length) (hz:z.length ≤ 1000) (hf:bT s L) (he2:aN e M) (hL:1 ≤ L) (hLb:L + 3 * M + 2 ≤ 1000000) (he:e = Qi.zero):bB Tryz.prog 108 [bR z s,NT .i64 p,aE e] (dN [bA [],bA [],aD .i64 6]):=by
 have hsl:=hs.1
 have hspr:=hs.row hp
 haveI:=he2
 refine bB.intro Tryz.func108 rfl Tryz.ntmps108 rfl (fun cx=>(ts (rn rfl (fU (Ht rfl)) fun B3=>(rn rfl (fU (Ht rfl)) fun B5=>(ro rfl (cQ cV) (ro rfl (cQ cV) (ro rfl (cQ (cJ 0)) (eZ (cK (cK (rQ 51 5 (rQ 51 5 (cY (ro rfl (eJ dI (Ht rfl) rfl) (ro rfl (fQ A_30 Z_30 (Ht rfl) (i:=0) rfl rfl) (ro rfl (dK U_30 (Ht rfl) (by rw [List.length_map,hsl])) ?_))))))))))))))))
 refine ro rfl (cX (cJ 0)) (eZ (eK ?_))
 refine kP (fun (i : Nat) (vU : Value) (vV : Value) => i = 0) (fun (i : Nat) (vU : Value) (vV : Value) => z.length - i) (fun (i : Nat) (vU : Value) (vV : Value) => [(1, NT .i64 p), (3, bO B3 0), (5, bO B5 0), (6, Is vU), (7, Is vV), (8, NT .i64 0), (16, NT .i64 z.length), (17, NT .i64 i)]) (fun (i : Nat) (vU : Value) (vV : Value) => [box B3 32 [bA z, dM s], box B5 51 (nb e), bM 51 5 vU ((tab i (fun i => gm s i p / e)).map aE), bM 51 5 vV ((tab i (fun i => gm s p i / e)).map aE)]) 0 _ _ rfl
  (zS rfl) (aU (aB rfl) (aU (aB rfl) (aU (aR rfl) (aU (aR rfl) aY)))) (fun i vU vV hi=>?_)
 refine ts (ro rfl (gV (Ht rfl) (Ht rfl)) (eZ (cK (dQ (Ht rfl) (fun hd=>?_) (fun hd=>?_)))))
 ·have hin : i < z.length := by simp only [decide_eq_true_eq] at hd; omega
  have hsr:=hs.row hin
  haveI g1:aN (gm s i p) L:=hf.get hL _ _
  haveI g2:aN (gm s p i) L:=hf.get hL _ _
  refine cU (cK (eK (ts (rm rfl (ra rfl (eZ (cK (Y.D_start (m:=16) [] (bY (Ei:=[(3,_)]) rfl rfl (bQ (bJ rfl rfl) bX) rfl rfl (dX rfl (eJ dI (Ht rfl) rfl)) (bY (Ei:=[(21,_)]) rfl rfl (bQ (bZ 0 rfl rfl) bX) rfl rfl (dX rfl (fQ A_30 Z_30 (Ht rfl) (i:=0) rfl rfl)) (bY (Ei:=[(9,_)]) rfl rfl (bQ (bJ rfl rfl) bX) rfl rfl (dX rfl (cX (Ht rfl))) (bY (Ei:=[(22,_),(23,_)]) rfl rfl (bQ (bZ 1 rfl rfl) (bQ (bZ 2 rfl rfl) bX)) rfl rfl (dX rfl (dZ U_30 Z_29 (Ht rfl) (Ht rfl) rfl (eQ (dY (d:=[]) zo)))) ?_))))))))))))
  refine bY (Ei:=[(24,_)]) rfl rfl (bQ (bZ 3 rfl rfl) bX) rfl rfl (dX rfl (dV A_29 Z_29 (Ht rfl))) (bY (Ei:=[(1,_)]) rfl rfl (bQ (bJ rfl rfl) bX) rfl rfl (dX rfl (cX (Ht rfl))) (bY (Ei:=[(25,_),(26,_)]) rfl rfl (bQ (bZ 4 rfl rfl) (bQ (bZ 5 rfl rfl) bX)) rfl rfl (dX rfl (dZ U_29 Z_51 (Ht rfl) (Ht rfl) rfl (eQ (dY (d:=Qi.zero) zo)))) (bY (Ei:=[(27,_)]) rfl rfl (bQ (bZ 6 rfl rfl) bX) rfl rfl (dX rfl (dV A_51 Z_51 (Ht rfl))) ?_)))
  refine bY (Ei:=[(28,_)]) rfl rfl (bQ (bZ 7 rfl rfl) bX) rfl rfl (dX rfl (bD bN (Ht rfl))) (bY (Ei:=[(5,_)]) rfl rfl (bQ (bJ rfl rfl) bX) rfl rfl (dX rfl (eW A_51 Z_51 (Ht rfl) (i:=1) rfl rfl rfl)) (bY (Ei:=[(29,_),(30,_)]) rfl rfl (bQ (bZ 8 rfl rfl) (bQ (bZ 9 rfl rfl) bX)) rfl rfl (dX rfl (aP jT K_40 (xE (x:=gm s i p) (y:=e) (L:=L) (M:=M) zo) (Ht rfl) ⟨(Ht rfl),trivial⟩)) (bY (Ei:=[(31,_)]) rfl rfl (bQ (bZ 10 rfl rfl) bX) rfl rfl (dX rfl (cX (Ht rfl))) ?_)))
  refine bY (Ei:=[(20,_)]) rfl rfl (bQ (bZ 11 rfl rfl) bX) rfl rfl (dX rfl (dU (Ht rfl) rfl)) (bY (Ei:=[(20,_)]) rfl rfl (bQ (bZ 11 rfl rfl) bX) rfl rfl (dX rfl (dU (Ht rfl) rfl)) (Y.D_newp (Ei:=[]) (fun bb=>box bb 51 (nb (gm s i p / e))) 15 rfl rfl rfl bX rfl rfl (by kernel_rfl) (eG (Ts:=[Is (.bool false),Is (.slice none 0 0),Is (.bool false),Is (.slice none 0 0),Is (.slice none 0 0)]) O_51 rfl (fun V=>aW zd (aW zd (aW zd (aW zd (aW zd (aG))))))) ?_))
  refine Y.D_putN (Ei:=[(32,_)]) 14 rfl rfl rfl rfl rfl rfl (bQ (bZ 12 rfl rfl) bX) (fun bb=>lQ Z_51 (Ht rfl) (Ht rfl) rfl (i:=0) rfl (aK rfl) rfl rfl) (Y.D_done bF rfl (by kernel_rfl) rfl (by simp [Y.okP]) rfl rfl (bU (bU (bU (bU (bU (bU (bU (bU (bU (bU (bU (bU (bU (bU (Y.F_newp (fun B10=>Y.F_putN (Y.F_nil ?_))))))))))))))))))
  refine ra rfl (eZ (cK (gG (i:=4) (tt:=10) rfl rfl gE (bL [0,1,2,3] rfl (by decide) (Y.D_start (m:=16) [] (bY (Ei:=[(3,_)]) rfl rfl (bQ (bJ rfl rfl) bX) rfl rfl (dX rfl (eJ dI (Ht rfl) rfl)) (bY (Ei:=[(35,_)]) rfl rfl (bQ (bZ 0 rfl rfl) bX) rfl rfl (dX rfl (fQ A_30 Z_30 (Ht rfl) (i:=0) rfl rfl)) (bY (Ei:=[(1,_)]) rfl rfl (bQ (bJ rfl rfl) bX) rfl rfl (dX rfl (cX (Ht rfl))) (bY (Ei:=[(36,_),(37,_)]) rfl rfl (bQ (bZ 1 rfl rfl) (bQ (bZ 2 rfl rfl) bX)) rfl rfl (dX rfl (dZ U_30 Z_29 (Ht rfl) (Ht rfl) rfl (eQ (dY (d:=[]) zo)))) ?_)))))))))
  refine bY (Ei:=[(38,_)]) rfl rfl (bQ (bZ 3 rfl rfl) bX) rfl rfl (dX rfl (dV A_29 Z_29 (Ht rfl))) (bY (Ei:=[(9,_)]) rfl rfl (bQ (bJ rfl rfl) bX) rfl rfl (dX rfl (cX (Ht rfl))) (bY (Ei:=[(39,_),(40,_)]) rfl rfl (bQ (bZ 4 rfl rfl) (bQ (bZ 5 rfl rfl) bX)) rfl rfl (dX rfl (dZ U_29 Z_51 (Ht rfl) (Ht rfl) rfl (eQ (dY (d:=Qi.zero) zo)))) (bY (Ei:=[(41,_)]) rfl rfl (bQ (bZ 6 rfl rfl) bX) rfl rfl (dX rfl (dV A_51 Z_51 (Ht rfl))) ?_)))
  refine bY (Ei:=[(42,_)]) rfl rfl (bQ (bZ 7 rfl rfl) bX) rfl rfl (dX rfl (bD bN (Ht rfl))) (bY (Ei:=[(5,_)]) rfl rfl (bQ (bJ rfl rfl) bX) rfl rfl (dX rfl (eW A_51 Z_51 (Ht rfl) (i:=1) rfl rfl rfl)) (bY (Ei:=[(43,_),(44,_)]) rfl rfl (bQ (bZ 8 rfl rfl) (bQ (bZ 9 rfl rfl) bX)) rfl rfl (dX rfl (aP jT K_40 (xE (x:=gm s p i) (y:=e) (L:=L) (M:=M) zo) (Ht rfl) ⟨(Ht rfl),trivial⟩)) (bY (Ei:=[(45,_)]) rfl rfl (bQ (bZ 10 rfl rfl) bX) rfl rfl (dX rfl (cX (Ht rfl))) ?_)))
  refine bY (Ei:=[(34,_)]) rfl rfl (bQ (bZ 11 rfl rfl) bX) rfl rfl (dX rfl (dU (Ht rfl) rfl)) (bY (Ei:=[(34,_)]) rfl rfl (bQ (bZ 11 rfl rfl) bX) rfl rfl (dX rfl (dU (Ht rfl) rfl)) (Y.D_newp (Ei:=[]) (fun bb=>box bb 51 (nb (gm s p i / e))) 15 rfl rfl rfl bX rfl rfl (by kernel_rfl) (eG (Ts:=[Is (.bool false),Is (.slice none 0 0),Is (.bool false),Is (.slice none 0 0),Is (.slice none 0 0)]) O_51 rfl (fun V=>aW zd (aW zd (aW zd (aW zd (aW zd (aG))))))) ?_))
  refine Y.D_putN (Ei:=[(46,_)]) 14 rfl rfl rfl rfl rfl rfl (bQ (bZ 12 rfl rfl) bX) (fun bb=>lQ Z_51 (Ht rfl) (Ht rfl) rfl (i:=0) rfl (aK rfl) rfl rfl) (Y.D_done bF rfl (by kernel_rfl) rfl (by simp [Y.okP]) rfl rfl (bU (bU (bU (bU (bU (bU (bU (bU (bU (bU (bU (bU (bU (bU (Y.F_newp (fun B12=>Y.F_putN (Y.F_nil ?_))))))))))))))))))
  refine ra rfl (eZ (cK (cK (gG (i:=4) (tt:=12) rfl rfl gE (bL [0,1,2,3] rfl (by decide) (cY (rm rfl (ro rfl (fB (Ht rfl) cV) (rm rfl (fX rfl rfl (eU rfl rfl (Ht rfl) (fun h=>cX (Ht rfl))) (fX rfl rfl (eU rfl rfl (Ht rfl) (fun h=>fB (fW rfl h) cV)) (ro rfl (kX (Ht rfl) (fun h=>(fW rfl h))) (eZ (nU (Ht rfl) (by simp [he]) ?_))))))))))))))
  refine ts (ro rfl (cQ cV) (ro rfl (cQ cV) (ro rfl (cQ (cJ 6)) (eZ (Kh rfl (fJ (eY rfl) ?_) (fJ (eY rfl) ?_) (eY rfl))))))
  ·exact iT
  ·exact iT
 ·exact absurd hd (by simp; omega)
theorem Bl {z:List Qi} {s:List (List Qi)} {p:Nat} {e:Qi} {L M:Nat} (hs:eR s z.length z.length) (hp:p < z.length) (hz:z.length ≤ 1000) (hf:bT s L) (he2:aN e M) (hL:1 ≤ L) (hLb:L + 3 * M + 2 ≤ 1000000) (he:e ≠ Qi.zero):bB Tryz.prog 108 [bR z s,NT .i64 p,aE e] (dN [bA (tab z.length (fun i=>gm s i p / e)),bA (tab z.length (fun i=>gm s p i / e)),aD .i64 0]):=by
 have hsl:=hs.1
 have hspr:=hs.row hp
 haveI:=he2
 refine bB.intro Tryz.func108 rfl Tryz.ntmps108 rfl (fun cx=>(ts (rn rfl (fU (Ht rfl)) fun B3=>(rn rfl (fU (Ht rfl)) fun B5=>(ro rfl (cQ cV) (ro rfl (cQ cV) (ro rfl (cQ (cJ 0)) (eZ (cK (cK (rQ 51 5 (rQ 51 5 (cY (ro rfl (eJ dI (Ht rfl) rfl) (ro rfl (fQ A_30 Z_30 (Ht rfl) (i:=0) rfl rfl) (ro rfl (dK U_30 (Ht rfl) (by rw [List.length_map,hsl])) ?_))))))))))))))))
 refine ro rfl (cX (cJ 0)) (eZ (eK ?_))
 refine kP (fun (i : Nat) (vU : Value) (vV : Value) => i ≤ z.length) (fun (i : Nat) (vU : Value) (vV : Value) => z.length - i) (fun (i : Nat) (vU : Value) (vV : Value) => [(1, NT .i64 p), (3, bO B3 0), (5, bO B5 0), (6, Is vU), (7, Is vV), (8, NT .i64 0), (16, NT .i64 z.length), (17, NT .i64 i)]) (fun (i : Nat) (vU : Value) (vV : Value) => [box B3 32 [bA z, dM s], box B5 51 (nb e), bM 51 5 vU ((tab i (fun i => gm s i p / e)).map aE), bM 51 5 vV ((tab i (fun i => gm s p i / e)).map aE)]) 0 _ _ (Nat.zero_le _)
  (zS rfl) (aU (aB rfl) (aU (aB rfl) (aU (aR rfl) (aU (aR rfl) aY)))) (fun i vU vV hi=>?_)
 refine ts (ro rfl (gV (Ht rfl) (Ht rfl)) (eZ (cK (dQ (Ht rfl) (fun hd=>?_) (fun hd=>?_)))))
 ·have hin : i < z.length := by simp only [decide_eq_true_eq] at hd; omega
  have hsr:=hs.row hin
  haveI g1:aN (gm s i p) L:=hf.get hL _ _
  haveI g2:aN (gm s p i) L:=hf.get hL _ _
  refine cU (cK (eK (ts (rm rfl (ra rfl (eZ (cK (Y.D_start (m:=16) [] (bY (Ei:=[(3,_)]) rfl rfl (bQ (bJ rfl rfl) bX) rfl rfl (dX rfl (eJ dI (Ht rfl) rfl)) (bY (Ei:=[(21,_)]) rfl rfl (bQ (bZ 0 rfl rfl) bX) rfl rfl (dX rfl (fQ A_30 Z_30 (Ht rfl) (i:=0) rfl rfl)) (bY (Ei:=[(9,_)]) rfl rfl (bQ (bJ rfl rfl) bX) rfl rfl (dX rfl (cX (Ht rfl))) (bY (Ei:=[(22,_),(23,_)]) rfl rfl (bQ (bZ 1 rfl rfl) (bQ (bZ 2 rfl rfl) bX)) rfl rfl (dX rfl (dZ U_30 Z_29 (Ht rfl) (Ht rfl) rfl (eQ (dY (d:=[]) zo)))) ?_))))))))))))
  refine bY (Ei:=[(24,_)]) rfl rfl (bQ (bZ 3 rfl rfl) bX) rfl rfl (dX rfl (dV A_29 Z_29 (Ht rfl))) (bY (Ei:=[(1,_)]) rfl rfl (bQ (bJ rfl rfl) bX) rfl rfl (dX rfl (cX (Ht rfl))) (bY (Ei:=[(25,_),(26,_)]) rfl rfl (bQ (bZ 4 rfl rfl) (bQ (bZ 5 rfl rfl) bX)) rfl rfl (dX rfl (dZ U_29 Z_51 (Ht rfl) (Ht rfl) rfl (eQ (dY (d:=Qi.zero) zo)))) (bY (Ei:=[(27,_)]) rfl rfl (bQ (bZ 6 rfl rfl) bX) rfl rfl (dX rfl (dV A_51 Z_51 (Ht rfl))) ?_)))
  refine bY (Ei:=[(28,_)]) rfl rfl (bQ (bZ 7 rfl rfl) bX) rfl rfl (dX rfl (bD bN (Ht rfl))) (bY (Ei:=[(5,_)]) rfl rfl (bQ (bJ rfl rfl) bX) rfl rfl (dX rfl (eW A_51 Z_51 (Ht rfl) (i:=1) rfl rfl rfl)) (bY (Ei:=[(29,_),(30,_)]) rfl rfl (bQ (bZ 8 rfl rfl) (bQ (bZ 9 rfl rfl) bX)) rfl rfl (dX rfl (aP jT K_40 (xE (x:=gm s i p) (y:=e) (L:=L) (M:=M) zo) (Ht rfl) ⟨(Ht rfl),trivial⟩)) (bY (Ei:=[(31,_)]) rfl rfl (bQ (bZ 10 rfl rfl) bX) rfl rfl (dX rfl (cX (Ht rfl))) ?_)))
  refine bY (Ei:=[(20,_)]) rfl rfl (bQ (bZ 11 rfl rfl) bX) rfl rfl (dX rfl (dU (Ht rfl) rfl)) (bY (Ei:=[(20,_)]) rfl rfl (bQ (bZ 11 rfl rfl) bX) rfl rfl (dX rfl (dU (Ht rfl) rfl)) (Y.D_newp (Ei:=[]) (fun bb=>box bb 51 (nb (gm s i p / e))) 15 rfl rfl rfl bX rfl rfl (by kernel_rfl) (eG (Ts:=[Is (.bool false),Is (.slice none 0 0),Is (.bool false),Is (.slice none 0 0),Is (.slice none 0 0)]) O_51 rfl (fun V=>aW zd (aW zd (aW zd (aW zd (aW zd (aG))))))) ?_))
  refine Y.D_putN (Ei:=[(32,_)]) 14 rfl rfl rfl rfl rfl rfl (bQ (bZ 12 rfl rfl) bX) (fun bb=>lQ Z_51 (Ht rfl) (Ht rfl) rfl (i:=0) rfl (aK rfl) rfl rfl) (Y.D_done bF rfl (by kernel_rfl) rfl (by simp [Y.okP]) rfl rfl (bU (bU (bU (bU (bU (bU (bU (bU (bU (bU (bU (bU (bU (bU (Y.F_newp (fun B10=>Y.F_putN (Y.F_nil ?_))))))))))))))))))
  refine ra rfl (eZ (cK (gG (i:=4) (tt:=10) rfl rfl gE (bL [0,1,2,3] rfl (by decide) (Y.D_start (m:=16) [] (bY (Ei:=[(3,_)]) rfl rfl (bQ (bJ rfl rfl) bX) rfl rfl (dX rfl (eJ dI (Ht rfl) rfl)) (bY (Ei:=[(35,_)]) rfl rfl (bQ (bZ 0 rfl rfl) bX) rfl rfl (dX rfl (fQ A_30 Z_30 (Ht rfl) (i:=0) rfl rfl)) (bY (Ei:=[(1,_)]) rfl rfl (bQ (bJ rfl rfl) bX) rfl rfl (dX rfl (cX (Ht rfl))) (bY (Ei:=[(36,_),(37,_)]) rfl rfl (bQ (bZ 1 rfl rfl) (bQ (bZ 2 rfl rfl) bX)) rfl rfl (dX rfl (dZ U_30 Z_29 (Ht rfl) (Ht rfl) rfl (eQ (dY (d:=[]) zo)))) ?_)))))))))
  refine bY (Ei:=[(38,_)]) rfl rfl (bQ (bZ 3 rfl rfl) bX) rfl rfl (dX rfl (dV A_29 Z_29 (Ht rfl))) (bY (Ei:=[(9,_)]) rfl rfl (bQ (bJ rfl rfl) bX) rfl rfl (dX rfl (cX (Ht rfl))) (bY (Ei:=[(39,_),(40,_)]) rfl rfl (bQ (bZ 4 rfl rfl) (bQ (bZ 5 rfl rfl) bX)) rfl rfl (dX rfl (dZ U_29 Z_51 (Ht rfl) (Ht rfl) rfl (eQ (dY (d:=Qi.zero) zo)))) (bY (Ei:=[(41,_)]) rfl rfl (bQ (bZ 6 rfl rfl) bX) rfl rfl (dX rfl (dV A_51 Z_51 (Ht rfl))) ?_)))
  refine bY (Ei:=[(42,_)]) rfl rfl (bQ (bZ 7 rfl rfl) bX) rfl rfl (dX rfl (bD bN (Ht rfl))) (bY (Ei:=[(5,_)]) rfl rfl (bQ (bJ rfl rfl) bX) rfl rfl (dX rfl (eW A_51 Z_51 (Ht rfl) (i:=1) rfl rfl rfl)) (bY (Ei:=[(43,_),(44,_)]) rfl rfl (bQ (bZ 8 rfl rfl) (bQ (bZ 9 rfl rfl) bX)) rfl rfl (dX rfl (aP jT K_40 (xE (x:=gm s p i) (y:=e) (L:=L) (M:=M) zo) (Ht rfl) ⟨(Ht rfl),trivial⟩)) (bY (Ei:=[(45,_)]) rfl rfl (bQ (bZ 10 rfl rfl) bX) rfl rfl (dX rfl (cX (Ht rfl))) ?_)))
  refine bY (Ei:=[(34,_)]) rfl rfl (bQ (bZ 11 rfl rfl) bX) rfl rfl (dX rfl (dU (Ht rfl) rfl)) (bY (Ei:=[(34,_)]) rfl rfl (bQ (bZ 11 rfl rfl) bX) rfl rfl (dX rfl (dU (Ht rfl) rfl)) (Y.D_newp (Ei:=[]) (fun bb=>box bb 51 (nb (gm s p i / e))) 15 rfl rfl rfl bX rfl rfl (by kernel_rfl) (eG (Ts:=[Is (.bool false),Is (.slice none 0 0),Is (.bool false),Is (.slice none 0 0),Is (.slice none 0 0)]) O_51 rfl (fun V=>aW zd (aW zd (aW zd (aW zd (aW zd (aG))))))) ?_))
  refine Y.D_putN (Ei:=[(46,_)]) 14 rfl rfl rfl rfl rfl rfl (bQ (bZ 12 rfl rfl) bX) (fun bb=>lQ Z_51 (Ht rfl) (Ht rfl) rfl (i:=0) rfl (aK rfl) rfl rfl) (Y.D_done bF rfl (by kernel_rfl) rfl (by simp [Y.okP]) rfl rfl (bU (bU (bU (bU (bU (bU (bU (bU (bU (bU (bU (bU (bU (bU (Y.F_newp (fun B12=>Y.F_putN (Y.F_nil ?_))))))))))))))))))
  refine ra rfl (eZ (cK (cK (gG (i:=4) (tt:=12) rfl rfl gE (bL [0,1,2,3] rfl (by decide) (cY (rm rfl (ro rfl (fB (Ht rfl) cV) (rm rfl (fX rfl rfl (eU rfl rfl (Ht rfl) (fun h=>cX (Ht rfl))) (fX rfl rfl (eU rfl rfl (Ht rfl) (fun h=>fB (fW rfl h) cV)) (ro rfl (kX (Ht rfl) (fun h=>(fW rfl h))) (eZ (fN (Ht rfl) (by simp [he]) ?_))))))))))))))
  refine cU (Y.D_startA (m:=7) [] 3 2 rfl rfl (bY (Ei:=[(6,_)]) rfl rfl (bQ (bJ rfl rfl) bX) rfl rfl (dX rfl (cX (Ht rfl))) (bY (Ei:=[(10,_)]) rfl rfl (bQ (bJ rfl rfl) bX) rfl rfl (dX rfl (dV A_51 Z_51 (Ht rfl))) (bY (Ei:=[(55,_)]) rfl rfl (bQ (bZ 1 rfl rfl) bX) rfl rfl (dX rfl (dH (xs:=[.tmp 55]) U_29 Z_51 O_51 (cW (Ht rfl) cG) rfl rfl rfl)) (Y.D_app (Ei:=[(54,_),(56,_)]) rfl rfl rfl rfl (bQ (bZ 0 rfl rfl) (bQ (bZ 2 rfl rfl) bX)) rfl (Gr (inf:=Tryz.t51) kD iS rfl rfl rfl (Ht rfl) (Ht rfl) (by simp) (fun T hT=>by simp at hT; subst hT; exact El.ag rfl) (by show _ * 88 ≤ _; simp only [List.length_map,aO,List.length_cons,List.length_nil]; omega) (by simp only [List.length_map,aO,List.length_cons,List.length_nil]; omega)) ?_)))))
  refine bY (Ei:=[(7,_)]) rfl rfl (bQ (bJ rfl rfl) bX) rfl rfl (dX rfl (cX (Ht rfl))) (bY (Ei:=[(12,_)]) rfl rfl (bQ (bJ rfl rfl) bX) rfl rfl (dX rfl (dV A_51 Z_51 (Ht rfl))) (bY (Ei:=[(59,_)]) rfl rfl (bQ (bZ 5 rfl rfl) bX) rfl rfl (dX rfl (dH (xs:=[.tmp 59]) U_29 Z_51 O_51 (cW (Ht rfl) cG) rfl rfl rfl)) (Y.D_done bF rfl (by kernel_rfl) rfl (by simp [Y.okP]) rfl rfl (bU (bU (bU (Y.F_app (fun v2=>bU (bU (bU (Y.F_nil ?_)))))))))))
  refine mW (inf:=Tryz.t51) kD iS rfl rfl rfl (Ht rfl) (Ht rfl) (i:=3) rfl (by simp) (fun T hT=>by simp at hT; subst hT; exact El.ag rfl) (by show _ * 88 ≤ _; simp only [List.length_map,aO,List.length_cons,List.length_nil]; omega) (by simp only [List.length_map,aO,List.length_cons,List.length_nil]; omega) rfl (fun v3=>?_)
  refine ra rfl (ra rfl (eZ (bH (cY (ro rfl (dW (Ht rfl) (cJ 1) z6) (rm rfl (eZ ?_)))))))
  refine bL [0,1,4,3] rfl (by decide) (gQ (i + 1,v2,v3) hin (by dsimp only; omega) (zS rfl) (aU (aB rfl) (aU (aB rfl) (aU (aR (by rw [jZ,List.map_append]; rfl)) (aU (aR (by rw [jZ,List.map_append]; rfl)) aY)))))
 ·obtain rfl : i = z.length := by simp only [decide_eq_false_iff_not] at hd; omega
  refine gK rfl (cK (gG (i:=2) (tt:=6) rfl rfl fP (gG (i:=3) (tt:=7) rfl rfl fP (cY (rm rfl (rm rfl (ra rfl (ra rfl (ro rfl (cQ (cJ 0)) (eZ ?_))))))))))
  exact Kh rfl (eY rfl) (eY rfl) (eY rfl)
theorem Rh {z:List Qi} {s:List (List Qi)} {p:Nat} {x:Qi} {F:Nat → Nat → Qi} (hs:eR s z.length z.length) (hp:p < z.length) (hz:z.length ≤ 1000):bB Tryz.prog 110 [bR z s,NT .i64 p,aE x,xJ Tryz.prog (Fin z.length × Fin z.length) (fun x=>[NT .i64 x.1.1,NT .i64 x.2.1]) (fun x=>aE (F x.1.1 x.2.1))] (bR (z.set p x) (tab z.length fun i=>tab z.length fun j=>F i j)):=by
 refine bB.intro Tryz.func110 rfl Tryz.ntmps110 rfl (fun cx=>(ts (rn rfl (fU (Ht rfl)) fun B4=>(rn rfl (fU (Ht rfl)) fun B6=>(rn rfl (eG (Ts:=[Is (.slice none 0 0),Is (.slice none 0 0)]) O_32 rfl (fun V=>aW zd (aW zd (aG)))) fun B8=>(eZ (cK (fV (m:=5) (dp 4 rfl (eW A_32 Z_32 (Ht rfl) (i:=0) rfl rfl rfl) (dp 4 rfl (eW A_32 Z_32 (Ht rfl) (i:=0) rfl rfl rfl) (dq 11 1 rfl (cZ Tryz.call121 (Wt (z:=z) (s:=s) zo) ⟨(Ht rfl),cV,trivial⟩) ?_)))))))))))
 refine C.D_new (Ei:=[(10,_),(12,_)]) rfl rfl rfl (bV (bG 0 rfl rfl) (bV (bG 2 rfl rfl) bW)) (Bi Tryz.call122 (jH.pack (Xw (z:=z) (s:=s) (Q:=nR [] z.length) (m:=z.length) hs (fun x h=>Co h) (Mu _) zo zo)) ⟨(Ht rfl),(Ht rfl),trivial⟩) (C.D_new (Ei:=[]) rfl rfl rfl bW (eG (Ts:=[Is (.slice none 0 0),Is (.slice none 0 0)]) O_32 rfl (fun V=>aW zd (aW zd (aG)))) (fG bF rfl (by kernel_rfl) (aJ (aJ (aJ (C.F_new (fun B13=>C.F_new (fun B9=>aV ?_))))))))
 refine gJ Z_32 (Ht rfl) (Ht rfl) rfl (i:=4) rfl (aK rfl) rfl rfl (eZ (cK (bL [3,0,1,2,4] rfl (by decide) ?_)))
 obtain ⟨⟨vZ,bS⟩,hQ⟩:=B13
 refine a1l (X:=[SA.emp,bM 51 5 (.slice (some ⟨vZ,0,none⟩) z.length z.length) ((nO z (nR [] z.length)).map aE),nJ bS 29 51 5 (dO aE (tH s (nR [] z.length)))]) (Y:=[box B4 32 [bA z,dM s],box B6 51 (nb x),box B8 32 [Is (.slice none 0 0),Is (.slice none 0 0)],box B9 32 [Is (.slice (some ⟨vZ,0,none⟩) z.length z.length),Is (.slice (some ⟨bS,0,none⟩) z.length z.length)]]) (bL [1,3,4,5,6] rfl (by decide) (lT 0 rfl (aR (congrArg (List.map aE) Zq)) (cY (ro rfl (eJ eO (Ht rfl) rfl) (ro rfl (Za A_29 Z_29 (Ht rfl) (i:=4) rfl rfl) ?_)))))
 refine rm rfl (ro rfl (eW A_51 Z_51 (Ht rfl) (i:=2) rfl rfl rfl) (ro rfl (dE U_29 Z_51 (Ht rfl) (Ht rfl) rfl (i:=0) rfl (by rw [List.length_map]; omega) rfl) ?_))
 refine kS Z_51 (Ht rfl) (Ht rfl) (El.ag rfl) (i:=0) rfl rfl (by rw [List.length_map]; omega) rfl ?_
 refine eZ (ts (ro rfl (eJ eO (Ht rfl) rfl) (ro rfl (fQ A_29 Z_29 (Ht rfl) (i:=1) rfl rfl) (ro rfl (dK U_29 (Ht rfl) aA) (rm rfl (ro rfl (cZ K_114 (Ad (n:=z.length) (f:=F) zo) ⟨(Ht rfl),(Ht rfl),trivial⟩) (ro rfl (eJ dI (Ht rfl) rfl) (jL Z_30 (Ht rfl) (Ht rfl) (i:=4) rfl (aK rfl) rfl (eZ (cK (lT 0 rfl (aR (fM aE z p x)) (Ns 4 0 0 rfl rfl rfl (by decide) (cY (ro rfl (eW A_32 Z_32 (Ht rfl) (i:=4) rfl rfl rfl) ?_))))))))))))))
 refine gJ Z_32 (Ht rfl) (Ht rfl) rfl (i:=3) rfl (aK rfl) rfl rfl (eZ ?_)
 exact fK rfl (fY A_32 Z_32 rfl (i:=3) rfl rfl)
end
section
open Go Go.RowKit
theorem Et {n i:Nat} {f:Nat → Qi} (h:i < n):(tab n f).getD i Qi.zero = f i:=pD h
theorem Dm {s f:List (List Qi)} {p L:Nat} (hs:bT s L) (hf:bT f L) (hL:1 ≤ L):aN (kF s f p) (2 * L + 3):=by
 haveI:=hs.get hL p p; haveI:=hf.get hL 1 1; haveI:=nT
 exact (inferInstance:aN (Qi.ofInt 1 - gm f 1 1 * gm s p p) (1 + (L + L + 1) + 1)).le zo
theorem Ct {s f:List (List Qi)} {p L:Nat} (hs:bT s L) (hf:bT f L) (hL:1 ≤ L):aN (oM s f p) (5 * L + 5):=by
 haveI:=hs.get hL p p; haveI:=hf.get hL 1 1; haveI:=hf.get hL 0 0; haveI:=hf.get hL 0 1; haveI:=hf.get hL 1 0
 exact (inferInstance:aN (gm f 0 1 * gm f 1 0 + gm f 1 1 * (gm s p p - gm f 0 0)) ((L + L + 1) + (L + (L + L + 1) + 1) + 1)).le zo
theorem Qx {s f:List (List Qi)} {p i j L:Nat} (hs:bT s L) (hf:bT f L) (hL:1 ≤ L) (hd:kF s f p ≠ Qi.zero):aN (nI s f p i j) (20 * L + 20):=by
 haveI e:=Dm (p:=p) hs hf hL
 have q:∀ a b,aN (gm s a b / kF s f p) (7 * L + 11):=fun a b=>(uR (hs.get hL a b) e hd).le zo
 haveI q1:=q p p; haveI q2:=q i p; haveI q3:=q p j
 haveI:=hs.get hL i j; haveI:=hs.get hL p j; haveI:=hf.get hL 1 1; haveI:=hf.get hL 0 0; haveI:=hf.get hL 0 1; haveI:=hf.get hL 1 0
 rw [nI]
 split
 ·exact (inferInstance:aN (_ + _ * (_ * _)) (L + (L + (L + (7 * L + 11) + 1) + 1) + 1)).le zo
 ·split
  ·exact (inferInstance:aN (_ * _) ((7 * L + 11) + L + 1)).le zo
  ·split
   ·exact (inferInstance:aN (_ * _) (L + (7 * L + 11) + 1)).le zo
   ·exact (inferInstance:aN (_ + _ * (_ * _)) (L + ((7 * L + 11) + (L + L + 1) + 1) + 1)).le zo
theorem Wc {s f:List (List Qi)} {p i j L:Nat} (hs:bT s L) (hf:bT f L) (hL:1 ≤ L) (hd:oM s f p ≠ Qi.zero):aN (Fc s f p i j) (40 * L + 40):=by
 haveI e:=Ct (p:=p) hs hf hL
 have q:∀ a b,aN (gm s a b / oM s f p) (16 * L + 17):=fun a b=>(uR (hs.get hL a b) e hd).le zo
 haveI q2:=q i p; haveI q3:=q p j
 haveI:=hs.get hL i j; haveI:=hs.get hL p j; haveI:=hs.get hL p p; haveI:=hf.get hL 1 1; haveI:=hf.get hL 0 0; haveI:=hf.get hL 0 1; haveI:=hf.get hL 1 0
 rw [Fc]
 split
 ·exact (uR (inferInstance:aN (gm s p p - gm f 0 0) (L + L + 1)) e hd).le zo
 ·split
  ·exact (inferInstance:aN (_ * _) ((16 * L + 17) + L + 1)).le zo
  ·split
   ·exact (inferInstance:aN (_ * _) (L + (16 * L + 17) + 1)).le zo
   ·exact (inferInstance:aN (_ - _ * (_ * _)) (L + ((16 * L + 17) + (L + L + 1) + 1) + 1)).le zo
theorem Fw {s f:List (List Qi)} {p n L:Nat} (hs:bT s L) (hf:bT f L) (hL:1 ≤ L) (hd:kF s f p ≠ Qi.zero):bT (qB s f p n) (20 * L + 20):=bT.tab fun i j _ _=>Qx hs hf hL hd
theorem Qn {s f:List (List Qi)} {p n L:Nat} (hs:bT s L) (hf:bT f L) (hL:1 ≤ L) (hd:oM s f p ≠ Qi.zero):bT (pP s f p n) (40 * L + 40):=bT.tab fun i j _ _=>Wc hs hf hL hd
theorem oL {n i:Nat} {f:Nat → Qi} (h:i < n):((tab n f).map aE)[i]? = some (aE (f i)):=by rw [List.getElem?_map,cE h]; rfl
theorem Ry {z:List Qi} {s f:List (List Qi)} {p i j L:Nat} (hs:eR s z.length z.length) (hp:p < z.length) (hi:i < z.length) (hj:j < z.length) (hz:z.length ≤ 1000) (hfs:bT s L) (hff:bT f L) (hL:1 ≤ L) (hLb:L ≤ 10000) (hd:kF s f p ≠ Qi.zero):bB Tryz.prog 111 [NT .i64 i,NT .i64 j,PT (NT .i64 p),PT (aE (gm f 0 0)),PT (aE (gm f 0 1)),PT (aE (gm f 1 0)),PT (bA (tab z.length fun j=>gm s p j / kF s f p)),PT (bA (tab z.length fun i=>gm s i p / kF s f p)),PT (bR z s),PT (aE (gm f 1 1))] (aE (nI s f p i j)):=by
 have hsl:=hs.1
 have hsi:=hs.row hi
 have hsp:=hs.row hp
 haveI e:=Dm (p:=p) hfs hff hL
 have q:∀ a b,aN (gm s a b / kF s f p) (7 * L + 11):=fun a b=>(uR (hfs.get hL a b) e hd).le zo
 have hU:∀ k,k < z.length → (tab z.length fun i=>gm s i p / kF s f p).getD k Qi.zero = gm s k p / kF s f p:=fun k h=>Et h
 have hV:∀ k,k < z.length → (tab z.length fun j=>gm s p j / kF s f p).getD k Qi.zero = gm s p k / kF s f p:=fun k h=>Et h
 haveI:=q p p; haveI:=q i p; haveI:=q p j
 haveI:=hfs.get hL i j; haveI:=hfs.get hL p j; haveI:=hff.get hL 1 1; haveI:=hff.get hL 0 0; haveI:=hff.get hL 0 1; haveI:=hff.get hL 1 0
 refine bB.intro Tryz.func111 rfl Tryz.ntmps111 rfl (fun cx=>(ts (rn rfl (eG (Ts:=[Is (.bool false),Is (.slice none 0 0),Is (.bool false),Is (.slice none 0 0),Is (.slice none 0 0)]) O_51 rfl (fun V=>aW zd (aW zd (aW zd (aW zd (aW zd (aG))))))) fun B12=>(eZ (cK (eK (ts (rm rfl (ro rfl (dV A_3 Z_3 (Ht rfl)) (ro rfl (cB (Ht rfl) (Ht rfl)) (rm rfl (fX rfl rfl (eU rfl rfl (Ht rfl) (fun h=>cX (Ht rfl))) ?_))))))))))))
 refine fX rfl rfl (eU rfl rfl (Ht rfl) (fun h=>dV A_3 Z_3 (Ht rfl))) (fX rfl rfl (eU rfl rfl (Ht rfl) (fun h=>cB (fW rfl h) (fW rfl h))) (ro rfl (eA (Ht rfl) (fun h=>(fW rfl h))) (ra rfl (eZ (dQ (Ht rfl) (fun hb1=>?_) (fun hb1=>?_))))))
 ·have h2 : i = p ∧ j = p := by simpa using hb1
  refine cK (fV (m:=12) (dp 3 rfl (dV A_51 Z_51 (Ht rfl)) (dq 22 0 rfl (bD bN (Ht rfl)) (dp 4 rfl (dV A_51 Z_51 (Ht rfl)) (dq 24 2 rfl (bD bN (Ht rfl)) (dp 5 rfl (dV A_51 Z_51 (Ht rfl)) (dq 26 4 rfl (bD bN (Ht rfl)) (dp 6 rfl (dV A_29 Z_29 (Ht rfl)) (dp 2 rfl (dV A_3 Z_3 (Ht rfl)) (dS 28 6 29 7 rfl (dZ U_29 Z_51 (Ht rfl) (Ht rfl) rfl (oL hp)) (dq 30 8 rfl (dV A_51 Z_51 (Ht rfl)) (dS 27 5 31 9 rfl (aP cI K_45 (kW (x:=gm f 1 0) (y:=gm s p p / kF s f p) (L:=L) (M:=(7 * L + 11)) zo) (Ht rfl) ⟨(Ht rfl),trivial⟩) ?_))))))))))))
  refine dS 25 3 32 10 rfl (aP cI K_45 (kW (x:=gm f 0 1) (y:=gm f 1 0 * (gm s p p / kF s f p)) (L:=L) (M:=L + (7 * L + 11) + 1) zo) (Ht rfl) ⟨(Ht rfl),trivial⟩) (fG bF rfl (by kernel_rfl) (zF (zF (zF (aV (ro rfl (aP lG K_46 (yB (x:=gm f 0 0) (y:=gm f 0 1 * (gm f 1 0 * (gm s p p / kF s f p))) (L:=L) (M:=L + (L + (7 * L + 11) + 1) + 1) zo) (Ht rfl) ⟨(Ht rfl),trivial⟩) (gJ Z_51 (Ht rfl) (Ht rfl) rfl (i:=0) rfl (aK rfl) rfl rfl ?_)))))))
  refine eZ (fK rfl (fJ (fY A_51 Z_51 rfl (i:=0) rfl rfl) ?_))
  exact (gP (by rw [nI,if_pos h2]))
 ·have h2 : ¬ (i = p ∧ j = p) := by simpa using hb1
  refine ts (rm rfl (ro rfl (dV A_3 Z_3 (Ht rfl)) (ro rfl (cB (Ht rfl) (Ht rfl)) (ra rfl (eZ (dQ (Ht rfl) (fun hb2=>?_) (fun hb2=>?_)))))))
  ·have h3 : j = p := by simpa using hb2
   refine cK (fV (m:=6) (dp 7 rfl (dV A_29 Z_29 (Ht rfl)) (dp 0 rfl (cX (Ht rfl)) (dS 39 0 40 1 rfl (dZ U_29 Z_51 (Ht rfl) (Ht rfl) rfl (oL hi)) (dq 41 2 rfl (dV A_51 Z_51 (Ht rfl)) (dq 42 3 rfl (bD bN (Ht rfl)) (dp 5 rfl (dV A_51 Z_51 (Ht rfl)) (fG bF rfl (by kernel_rfl) (zF (aJ (aJ (aV (ro rfl (aP cI K_45 (kW (x:=gm s i p / kF s f p) (y:=gm f 1 0) (L:=(7 * L + 11)) (M:=L) zo) (Ht rfl) ⟨(Ht rfl),trivial⟩) ?_)))))))))))))
   refine gJ Z_51 (Ht rfl) (Ht rfl) rfl (i:=0) rfl (aK rfl) rfl rfl (eZ (fK rfl (fJ (fY A_51 Z_51 rfl (i:=0) rfl rfl) ?_)))
   exact (gP (by rw [nI,if_neg h2,if_pos h3]))
  ·have h3 : ¬ j = p := by simpa using hb2
   refine ts (rm rfl (ro rfl (dV A_3 Z_3 (Ht rfl)) (ro rfl (cB (Ht rfl) (Ht rfl)) (ra rfl (eZ (dQ (Ht rfl) (fun hb3=>?_) (fun hb3=>?_)))))))
   ·have h4 : i = p := by simpa using hb3
    refine cK (fV (m:=6) (dp 4 rfl (dV A_51 Z_51 (Ht rfl)) (dq 50 0 rfl (bD bN (Ht rfl)) (dp 6 rfl (dV A_29 Z_29 (Ht rfl)) (dp 1 rfl (cX (Ht rfl)) (dS 52 2 53 3 rfl (dZ U_29 Z_51 (Ht rfl) (Ht rfl) rfl (oL hj)) (dq 54 4 rfl (dV A_51 Z_51 (Ht rfl)) (fG bF rfl (by kernel_rfl) (zF (aJ (aJ (aV (ro rfl (aP cI K_45 (kW (x:=gm f 0 1) (y:=gm s p j / kF s f p) (L:=L) (M:=(7 * L + 11)) zo) (Ht rfl) ⟨(Ht rfl),trivial⟩) ?_)))))))))))))
    refine gJ Z_51 (Ht rfl) (Ht rfl) rfl (i:=0) rfl (aK rfl) rfl rfl (eZ (fK rfl (fJ (fY A_51 Z_51 rfl (i:=0) rfl rfl) ?_)))
    exact (gP (by rw [nI,if_neg h2,if_neg h3,if_pos h4]))
   ·have h4 : ¬ i = p := by simpa using hb3
    refine cU (bH (cK (fV (m:=26) (dp 8 rfl (jK dI (Ht rfl) rfl) (dq 57 0 rfl (dV A_30 Z_30 (Ht rfl)) (dp 0 rfl (cX (Ht rfl)) (dS 58 1 59 2 rfl (dZ U_30 Z_29 (Ht rfl) (Ht rfl) rfl (eQ (dY (d:=[]) zo))) (dq 60 3 rfl (dV A_29 Z_29 (Ht rfl)) (dp 1 rfl (cX (Ht rfl)) (dS 61 4 62 5 rfl (dZ U_29 Z_51 (Ht rfl) (Ht rfl) rfl (eQ (dY (d:=Qi.zero) zo))) (dq 63 6 rfl (dV A_51 Z_51 (Ht rfl)) (dq 64 7 rfl (bD bN (Ht rfl)) ?_))))))))))))
    refine dp 7 rfl (dV A_29 Z_29 (Ht rfl)) (dp 0 rfl (cX (Ht rfl)) (dS 66 9 67 10 rfl (dZ U_29 Z_51 (Ht rfl) (Ht rfl) rfl (oL hi)) (dq 68 11 rfl (dV A_51 Z_51 (Ht rfl)) (dq 69 12 rfl (bD bN (Ht rfl)) (dp 9 rfl (dV A_51 Z_51 (Ht rfl)) (dq 71 14 rfl (bD bN (Ht rfl)) (dp 8 rfl (jK dI (Ht rfl) rfl) (dq 73 16 rfl (dV A_30 Z_30 (Ht rfl)) (dp 2 rfl (dV A_3 Z_3 (Ht rfl)) (dS 74 17 75 18 rfl (dZ U_30 Z_29 (Ht rfl) (Ht rfl) rfl (eQ (dY (d:=[]) zo))) ?_))))))))))
    refine dq 76 19 rfl (dV A_29 Z_29 (Ht rfl)) (dp 1 rfl (cX (Ht rfl)) (dS 77 20 78 21 rfl (dZ U_29 Z_51 (Ht rfl) (Ht rfl) rfl (eQ (dY (d:=Qi.zero) zo))) (dq 79 22 rfl (dV A_51 Z_51 (Ht rfl)) (dS 72 15 80 23 rfl (aP cI K_45 (kW (x:=gm f 1 1) (y:=gm s p j) (L:=L) (M:=L) zo) (Ht rfl) ⟨(Ht rfl),trivial⟩) (dS 70 13 81 24 rfl (aP cI K_45 (kW (x:=gm s i p / kF s f p) (y:=gm f 1 1 * gm s p j) (L:=(7 * L + 11)) (M:=L + L + 1) zo) (Ht rfl) ⟨(Ht rfl),trivial⟩) ?_)))))
    refine fG bF rfl (by kernel_rfl) (zF (zF (zF (zF (zF (zF (aJ (aJ (aV (ro rfl (aP lG K_46 (yB (x:=gm s i j) (y:=gm s i p / kF s f p * (gm f 1 1 * gm s p j)) (L:=L) (M:=(7 * L + 11) + (L + L + 1) + 1) zo) (Ht rfl) ⟨(Ht rfl),trivial⟩) (gJ Z_51 (Ht rfl) (Ht rfl) rfl (i:=0) rfl (aK rfl) rfl rfl ?_)))))))))))
    refine eZ (fK rfl (fJ (fY A_51 Z_51 rfl (i:=0) rfl rfl) ?_))
    exact (gP (by rw [nI,if_neg h2,if_neg h3,if_neg h4]))
theorem Pc {z:List Qi} {s f:List (List Qi)} {p i j L:Nat} (hs:eR s z.length z.length) (hp:p < z.length) (hi:i < z.length) (hj:j < z.length) (hz:z.length ≤ 1000) (hfs:bT s L) (hff:bT f L) (hL:1 ≤ L) (hLb:L ≤ 10000) (hd:oM s f p ≠ Qi.zero):bB Tryz.prog 112 [NT .i64 i,NT .i64 j,PT (NT .i64 p),PT (aE ((gm s p p - gm f 0 0) / oM s f p)),PT (bA (tab z.length fun i=>gm s i p / oM s f p)),PT (aE (gm f 0 1)),PT (aE (gm f 1 0)),PT (bA (tab z.length fun j=>gm s p j / oM s f p)),PT (bR z s),PT (aE (gm f 1 1))] (aE (Fc s f p i j)):=by
 have hsl:=hs.1
 have hsi:=hs.row hi
 have hsp:=hs.row hp
 haveI e:=Ct (p:=p) hfs hff hL
 have q:∀ a b,aN (gm s a b / oM s f p) (16 * L + 17):=fun a b=>(uR (hfs.get hL a b) e hd).le zo
 have hU:∀ k,k < z.length → (tab z.length fun i=>gm s i p / oM s f p).getD k Qi.zero = gm s k p / oM s f p:=fun k h=>Et h
 have hV:∀ k,k < z.length → (tab z.length fun j=>gm s p j / oM s f p).getD k Qi.zero = gm s p k / oM s f p:=fun k h=>Et h
 haveI:=q p p; haveI:=q i p; haveI:=q p j
 haveI:=hfs.get hL i j; haveI:=hfs.get hL p j; haveI:=hff.get hL 1 1; haveI:=hff.get hL 0 0; haveI:=hff.get hL 0 1; haveI:=hff.get hL 1 0
 refine bB.intro Tryz.func112 rfl Tryz.ntmps112 rfl (fun cx=>(ts (rn rfl (eG (Ts:=[Is (.bool false),Is (.slice none 0 0),Is (.bool false),Is (.slice none 0 0),Is (.slice none 0 0)]) O_51 rfl (fun V=>aW zd (aW zd (aW zd (aW zd (aW zd (aG))))))) fun B12=>(eZ (cK (eK (ts (rm rfl (ro rfl (dV A_3 Z_3 (Ht rfl)) (ro rfl (cB (Ht rfl) (Ht rfl)) (rm rfl (fX rfl rfl (eU rfl rfl (Ht rfl) (fun h=>cX (Ht rfl))) ?_))))))))))))
 refine fX rfl rfl (eU rfl rfl (Ht rfl) (fun h=>dV A_3 Z_3 (Ht rfl))) (fX rfl rfl (eU rfl rfl (Ht rfl) (fun h=>cB (fW rfl h) (fW rfl h))) (ro rfl (eA (Ht rfl) (fun h=>(fW rfl h))) (ra rfl (eZ (dQ (Ht rfl) (fun hb1=>?_) (fun hb1=>?_))))))
 ·have h2 : i = p ∧ j = p := by simpa using hb1
  refine ts (ro rfl (dV A_51 Z_51 (Ht rfl)) (gJ Z_51 (Ht rfl) (Ht rfl) rfl (i:=0) rfl (aK rfl) rfl rfl (eZ (fK rfl (fJ (fY A_51 Z_51 rfl (i:=0) rfl rfl) ?_)))))
  exact (gP (by rw [Fc,if_pos h2]))
 ·have h2 : ¬ (i = p ∧ j = p) := by simpa using hb1
  refine ts (rm rfl (ro rfl (dV A_3 Z_3 (Ht rfl)) (ro rfl (cB (Ht rfl) (Ht rfl)) (ra rfl (eZ (dQ (Ht rfl) (fun hb2=>?_) (fun hb2=>?_)))))))
  ·have h3 : j = p := by simpa using hb2
   refine cK (fV (m:=6) (dp 4 rfl (dV A_29 Z_29 (Ht rfl)) (dp 0 rfl (cX (Ht rfl)) (dS 27 0 28 1 rfl (dZ U_29 Z_51 (Ht rfl) (Ht rfl) rfl (oL hi)) (dq 29 2 rfl (dV A_51 Z_51 (Ht rfl)) (dq 30 3 rfl (bD bN (Ht rfl)) (dp 5 rfl (dV A_51 Z_51 (Ht rfl)) (fG bF rfl (by kernel_rfl) (zF (aJ (aJ (aV (ro rfl (aP cI K_45 (kW (x:=gm s i p / oM s f p) (y:=gm f 0 1) (L:=(16 * L + 17)) (M:=L) zo) (Ht rfl) ⟨(Ht rfl),trivial⟩) ?_)))))))))))))
   refine gJ Z_51 (Ht rfl) (Ht rfl) rfl (i:=0) rfl (aK rfl) rfl rfl (eZ (fK rfl (fJ (fY A_51 Z_51 rfl (i:=0) rfl rfl) ?_)))
   exact (gP (by rw [Fc,if_neg h2,if_pos h3]))
  ·have h3 : ¬ j = p := by simpa using hb2
   refine ts (rm rfl (ro rfl (dV A_3 Z_3 (Ht rfl)) (ro rfl (cB (Ht rfl) (Ht rfl)) (ra rfl (eZ (dQ (Ht rfl) (fun hb3=>?_) (fun hb3=>?_)))))))
   ·have h4 : i = p := by simpa using hb3
    refine cK (fV (m:=6) (dp 6 rfl (dV A_51 Z_51 (Ht rfl)) (dq 38 0 rfl (bD bN (Ht rfl)) (dp 7 rfl (dV A_29 Z_29 (Ht rfl)) (dp 1 rfl (cX (Ht rfl)) (dS 40 2 41 3 rfl (dZ U_29 Z_51 (Ht rfl) (Ht rfl) rfl (oL hj)) (dq 42 4 rfl (dV A_51 Z_51 (Ht rfl)) (fG bF rfl (by kernel_rfl) (zF (aJ (aJ (aV (ro rfl (aP cI K_45 (kW (x:=gm f 1 0) (y:=gm s p j / oM s f p) (L:=L) (M:=(16 * L + 17)) zo) (Ht rfl) ⟨(Ht rfl),trivial⟩) ?_)))))))))))))
    refine gJ Z_51 (Ht rfl) (Ht rfl) rfl (i:=0) rfl (aK rfl) rfl rfl (eZ (fK rfl (fJ (fY A_51 Z_51 rfl (i:=0) rfl rfl) ?_)))
    exact (gP (by rw [Fc,if_neg h2,if_neg h3,if_pos h4]))
   ·have h4 : ¬ i = p := by simpa using hb3
    refine cU (bH (cK (fV (m:=26) (dp 8 rfl (jK dI (Ht rfl) rfl) (dq 45 0 rfl (dV A_30 Z_30 (Ht rfl)) (dp 0 rfl (cX (Ht rfl)) (dS 46 1 47 2 rfl (dZ U_30 Z_29 (Ht rfl) (Ht rfl) rfl (eQ (dY (d:=[]) zo))) (dq 48 3 rfl (dV A_29 Z_29 (Ht rfl)) (dp 1 rfl (cX (Ht rfl)) (dS 49 4 50 5 rfl (dZ U_29 Z_51 (Ht rfl) (Ht rfl) rfl (eQ (dY (d:=Qi.zero) zo))) (dq 51 6 rfl (dV A_51 Z_51 (Ht rfl)) (dq 52 7 rfl (bD bN (Ht rfl)) ?_))))))))))))
    refine dp 4 rfl (dV A_29 Z_29 (Ht rfl)) (dp 0 rfl (cX (Ht rfl)) (dS 54 9 55 10 rfl (dZ U_29 Z_51 (Ht rfl) (Ht rfl) rfl (oL hi)) (dq 56 11 rfl (dV A_51 Z_51 (Ht rfl)) (dq 57 12 rfl (bD bN (Ht rfl)) (dp 9 rfl (dV A_51 Z_51 (Ht rfl)) (dq 59 14 rfl (bD bN (Ht rfl)) (dp 8 rfl (jK dI (Ht rfl) rfl) (dq 61 16 rfl (dV A_30 Z_30 (Ht rfl)) (dp 2 rfl (dV A_3 Z_3 (Ht rfl)) (dS 62 17 63 18 rfl (dZ U_30 Z_29 (Ht rfl) (Ht rfl) rfl (eQ (dY (d:=[]) zo))) ?_))))))))))
    refine dq 64 19 rfl (dV A_29 Z_29 (Ht rfl)) (dp 1 rfl (cX (Ht rfl)) (dS 65 20 66 21 rfl (dZ U_29 Z_51 (Ht rfl) (Ht rfl) rfl (eQ (dY (d:=Qi.zero) zo))) (dq 67 22 rfl (dV A_51 Z_51 (Ht rfl)) (dS 60 15 68 23 rfl (aP cI K_45 (kW (x:=gm f 1 1) (y:=gm s p j) (L:=L) (M:=L) zo) (Ht rfl) ⟨(Ht rfl),trivial⟩) (dS 58 13 69 24 rfl (aP cI K_45 (kW (x:=gm s i p / oM s f p) (y:=gm f 1 1 * gm s p j) (L:=(16 * L + 17)) (M:=L + L + 1) zo) (Ht rfl) ⟨(Ht rfl),trivial⟩) ?_)))))
    refine fG bF rfl (by kernel_rfl) (zF (zF (zF (zF (zF (zF (aJ (aJ (aV (ro rfl (aP jE K_44 (uO (x:=gm s i j) (y:=gm s i p / oM s f p * (gm f 1 1 * gm s p j)) (L:=L) (M:=(16 * L + 17) + (L + L + 1) + 1) zo) (Ht rfl) ⟨(Ht rfl),trivial⟩) (gJ Z_51 (Ht rfl) (Ht rfl) rfl (i:=0) rfl (aK rfl) rfl rfl ?_)))))))))))
    refine eZ (fK rfl (fJ (fY A_51 Z_51 rfl (i:=0) rfl rfl) ?_))
    exact (gP (by rw [Fc,if_neg h2,if_neg h3,if_neg h4]))
theorem Qf {z fz:List Qi} {s f:List (List Qi)} {port:Int} {L:Nat} (hs:eR s z.length z.length) (hz1:1 ≤ z.length) (hz:z.length ≤ 1000) (hfs:bT s L) (hff:bT f L) (hfz:cC z L) (hfg:cC fz L) (hL:1 ≤ L) (hLb:L ≤ 10000) (h2:fz.length ≠ 2):bB Tryz.prog 26 [bR z s,aD .i64 port,bR fz f] (dN [bR (Vs z s fz f port) (Vp z s fz f port),aD .i64 (Fd z s fz f port)]):=by
 have hfx:pZ z fz port 2 = 4:=a2S h2
 have he:Fd z s fz f port = 4:=(a0y (by rw [hfx]; decide)).trans hfx
 have hne:Fd z s fz f port ≠ 0:=by rw [he]; decide
 refine bB.intro Tryz.func26 rfl Tryz.ntmps26 rfl (fun cx=>(ts (rn rfl (fU (Ht rfl)) fun B3=>(rn rfl (fU (Ht rfl)) fun B5=>(rn rfl (eG (Ts:=[Is (.slice none 0 0),Is (.slice none 0 0)]) O_32 rfl (fun V=>aW zd (aW zd (aG)))) fun B6=>(ro rfl (cQ (cJ 0)) (eZ (ts (ro rfl (eW A_32 Z_32 (Ht rfl) (i:=0) rfl rfl rfl) (rm rfl (ro rfl (eW A_32 Z_32 (Ht rfl) (i:=1) rfl rfl rfl) (ro rfl (cZ Tryz.call107 (Ck (x:=2) h2) ⟨(Ht rfl),(Ht rfl),(Ht rfl),(cJ 2),trivial⟩) ?_))))))))))))
 refine rm rfl (ro rfl (dU (Ht rfl) rfl) (ro rfl (dU (Ht rfl) rfl) (rn rfl (eG (Ts:=[Is (.bool false),Is (.slice none 0 0),Is (.bool false),Is (.slice none 0 0),Is (.slice none 0 0),Is (.bool false),Is (.slice none 0 0),Is (.bool false),Is (.slice none 0 0),Is (.slice none 0 0),Is (.bool false),Is (.slice none 0 0),Is (.bool false),Is (.slice none 0 0),Is (.slice none 0 0),Is (.bool false),Is (.slice none 0 0),Is (.bool false),Is (.slice none 0 0),Is (.slice none 0 0)]) O_163 rfl (fun V=>aW zd (aW zd (aW zd (aW zd (aW zd (aW zd (aW zd (aW zd (aW zd (aW zd (aW zd (aW zd (aW zd (aW zd (aW zd (aW zd (aW zd (aW zd (aW zd (aW zd (aG)))))))))))))))))))))) fun B8=>?_)))
 refine gJ Z_163 (Ht rfl) (Ht rfl) rfl (i:=3) rfl (aK rfl) rfl rfl (ra rfl (eZ (cK (ts (rm rfl (ro rfl (fB (Ht rfl) cV) (eZ (nU (Ht rfl) (by rfl) ?_))))))))
 refine ts (ro rfl (aF.imp (iU ) iR) (rm rfl (gJ Z_32 (Ht rfl) (Ht rfl) rfl (i:=2) rfl (aK rfl) rfl rfl (ra rfl (eZ (bI rfl (fJ (fY A_32 Z_32 rfl (i:=2) rfl rfl) ?_) (fJ (eY rfl) ?_)))))))
 ·exact (fun v V h=>by rw [Vs,Vp,iI,iI,if_neg hne,if_neg hne]; exact h)
 ·exact (aM he.symm)
theorem Tg {z fz:List Qi} {s f:List (List Qi)} {port:Int} {L:Nat} (hs:eR s z.length z.length) (hz1:1 ≤ z.length) (hz:z.length ≤ 1000) (hfs:bT s L) (hff:bT f L) (hfz:cC z L) (hfg:cC fz L) (hL:1 ≤ L) (hLb:L ≤ 10000) (h2:fz.length = 2) (hf:eR f 2 2):bB Tryz.prog 26 [bR z s,aD .i64 port,bR fz f] (dN [bR (Vs z s fz f port) (Vp z s fz f port),aD .i64 (Fd z s fz f port)]):=by
 have hsl:=hs.1
 haveI h1f:=nT
 refine bB.intro Tryz.func26 rfl Tryz.ntmps26 rfl (fun cx=>(ts (rn rfl (fU (Ht rfl)) fun B3=>(rn rfl (fU (Ht rfl)) fun B5=>(rn rfl (eG (Ts:=[Is (.slice none 0 0),Is (.slice none 0 0)]) O_32 rfl (fun V=>aW zd (aW zd (aG)))) fun B6=>(ro rfl (cQ (cJ 0)) (eZ (ts (ro rfl (eW A_32 Z_32 (Ht rfl) (i:=0) rfl rfl rfl) (rm rfl (ro rfl (eW A_32 Z_32 (Ht rfl) (i:=1) rfl rfl rfl) (ro rfl (cZ Tryz.call107 (Bd (x:=2) (L:=L) h2 hf (by decide) hfz hfg hL zo hz) ⟨(Ht rfl),(Ht rfl),(Ht rfl),(cJ 2),trivial⟩) ?_))))))))))))
 refine rm rfl (ro rfl (dU (Ht rfl) rfl) (ro rfl (dU (Ht rfl) rfl) (rn rfl (eG (Ts:=[Is (.bool false),Is (.slice none 0 0),Is (.bool false),Is (.slice none 0 0),Is (.slice none 0 0),Is (.bool false),Is (.slice none 0 0),Is (.bool false),Is (.slice none 0 0),Is (.slice none 0 0),Is (.bool false),Is (.slice none 0 0),Is (.bool false),Is (.slice none 0 0),Is (.slice none 0 0),Is (.bool false),Is (.slice none 0 0),Is (.bool false),Is (.slice none 0 0),Is (.slice none 0 0)]) O_163 rfl (fun V=>aW zd (aW zd (aW zd (aW zd (aW zd (aW zd (aW zd (aW zd (aW zd (aW zd (aW zd (aW zd (aW zd (aW zd (aW zd (aW zd (aW zd (aW zd (aW zd (aW zd (aG)))))))))))))))))))))) fun B8=>?_)))
 refine gJ Z_163 (Ht rfl) (Ht rfl) rfl (i:=3) rfl (aK rfl) rfl rfl (ra rfl (eZ (cK (ts (rm rfl (ro rfl (fB (Ht rfl) cV) (eZ (dQ (Ht rfl) (fun hc=>?_) (fun hc=>?_)))))))))
 ·have hfx : pZ z fz port 2 ≠ 0 := by simpa using hc
  have he:Fd z s fz f port = pZ z fz port 2:=a0y hfx
  have hne:Fd z s fz f port ≠ 0:=by rw [he]; exact hfx
  refine ts (ro rfl (aF.imp (iU ) iR) (rm rfl (gJ Z_32 (Ht rfl) (Ht rfl) rfl (i:=2) rfl (aK rfl) rfl rfl (ra rfl (eZ (bI rfl (fJ (fY A_32 Z_32 rfl (i:=2) rfl rfl) ?_) (fJ (eY rfl) ?_)))))))
  ·exact (fun v V h=>by rw [Vs,Vp,iI,iI,if_neg hne,if_neg hne]; exact h)
  ·exact (aM he.symm)
 ·have hfx : pZ z fz port 2 = 0 := by simpa using hc
  obtain ⟨_,hb2,hzz⟩:=a0l hfx
  obtain ⟨p,hp⟩:∃ p,p = (port - 1).toNat:=⟨_,rfl⟩
  have hpe:port - 1 = (p:Int):=by omega
  have hpl:p < z.length:=by omega
  have hspr:=hs.row hpl
  haveI:=hfs.get hL p p; haveI:=hff.get hL 1 1; haveI:=hff.get hL 0 0; haveI:=hff.get hL 0 1; haveI:=hff.get hL 1 0
  refine cU (cK (Y.D_start (m:=23) [] (bY (Ei:=[(8,_)]) rfl rfl (bQ (bJ rfl rfl) bX) rfl rfl (dX rfl (iB U_163 Z_162 (Ht rfl) (cJ 0) rfl (by decide) rfl)) (bY (Ei:=[(28,_)]) rfl rfl (bQ (bZ 0 rfl rfl) bX) rfl rfl (dX rfl (iB U_162 Z_51 (Ht rfl) (cJ 0) rfl (by decide) rfl)) (bY (Ei:=[(29,_)]) rfl rfl (bQ (bZ 1 rfl rfl) bX) rfl rfl (dX rfl (eW A_51 Z_51 (Ht rfl) (i:=3) rfl rfl rfl)) ?_)))))
  refine bY (Ei:=[(8,_)]) rfl rfl (bQ (bJ rfl rfl) bX) rfl rfl (dX rfl (iB U_163 Z_162 (Ht rfl) (cJ 0) rfl (by decide) rfl)) (bY (Ei:=[(31,_)]) rfl rfl (bQ (bZ 3 rfl rfl) bX) rfl rfl (dX rfl (iB U_162 Z_51 (Ht rfl) (cJ 1) rfl (by decide) rfl)) (bY (Ei:=[(32,_)]) rfl rfl (bQ (bZ 4 rfl rfl) bX) rfl rfl (dX rfl (eW A_51 Z_51 (Ht rfl) (i:=3) rfl rfl rfl)) (bY (Ei:=[(8,_)]) rfl rfl (bQ (bJ rfl rfl) bX) rfl rfl (dX rfl (iB U_163 Z_162 (Ht rfl) (cJ 1) rfl (by decide) rfl)) ?_)))
  refine bY (Ei:=[(34,_)]) rfl rfl (bQ (bZ 6 rfl rfl) bX) rfl rfl (dX rfl (iB U_162 Z_51 (Ht rfl) (cJ 0) rfl (by decide) rfl)) (bY (Ei:=[(35,_)]) rfl rfl (bQ (bZ 7 rfl rfl) bX) rfl rfl (dX rfl (eW A_51 Z_51 (Ht rfl) (i:=3) rfl rfl rfl)) (bY (Ei:=[(8,_)]) rfl rfl (bQ (bJ rfl rfl) bX) rfl rfl (dX rfl (iB U_163 Z_162 (Ht rfl) (cJ 1) rfl (by decide) rfl)) (bY (Ei:=[(37,_)]) rfl rfl (bQ (bZ 9 rfl rfl) bX) rfl rfl (dX rfl (iB U_162 Z_51 (Ht rfl) (cJ 1) rfl (by decide) rfl)) ?_)))
  refine bY (Ei:=[(38,_)]) rfl rfl (bQ (bZ 10 rfl rfl) bX) rfl rfl (dX rfl (eW A_51 Z_51 (Ht rfl) (i:=3) rfl rfl rfl)) (bY (Ei:=[(1,_)]) rfl rfl (bQ (bJ rfl rfl) bX) rfl rfl (dX rfl (cX (Ht rfl))) (bY (Ei:=[(40,_)]) rfl rfl (bQ (bZ 12 rfl rfl) bX) rfl rfl (dX rfl (gM (Ht rfl) cV (r:=((p:Nat):Int)) ((tD (z:=port - 1) zo).trans zo))) ?_))
  refine Y.D_newp (Ei:=[]) (fun bb=>box bb 51 (nb (gm f 0 0))) 19 rfl rfl rfl bX rfl rfl (by kernel_rfl) (eG (Ts:=[Is (.bool false),Is (.slice none 0 0),Is (.bool false),Is (.slice none 0 0),Is (.slice none 0 0)]) O_51 rfl (fun V=>aW zd (aW zd (aW zd (aW zd (aW zd (aG))))))) (Y.D_newp (Ei:=[]) (fun bb=>box bb 51 (nb (gm f 0 1))) 20 rfl rfl rfl bX rfl rfl (by kernel_rfl) (eG (Ts:=[Is (.bool false),Is (.slice none 0 0),Is (.bool false),Is (.slice none 0 0),Is (.slice none 0 0)]) O_51 rfl (fun V=>aW zd (aW zd (aW zd (aW zd (aW zd (aG))))))) ?_)
  refine Y.D_newp (Ei:=[]) (fun bb=>box bb 51 (nb (gm f 1 0))) 21 rfl rfl rfl bX rfl rfl (by kernel_rfl) (eG (Ts:=[Is (.bool false),Is (.slice none 0 0),Is (.bool false),Is (.slice none 0 0),Is (.slice none 0 0)]) O_51 rfl (fun V=>aW zd (aW zd (aW zd (aW zd (aW zd (aG))))))) (Y.D_newp (Ei:=[]) (fun bb=>box bb 51 (nb (gm f 1 1))) 22 rfl rfl rfl bX rfl rfl (by kernel_rfl) (eG (Ts:=[Is (.bool false),Is (.slice none 0 0),Is (.bool false),Is (.slice none 0 0),Is (.slice none 0 0)]) O_51 rfl (fun V=>aW zd (aW zd (aW zd (aW zd (aW zd (aG))))))) ?_)
  refine Y.D_new (Ei:=[]) rfl rfl rfl bX rfl rfl (eG (Ts:=[Is (.int .i64 0)]) O_3 rfl (fun V=>aW zd (aG))) (Y.D_putN (Ei:=[(30,_)]) 14 rfl rfl rfl rfl rfl rfl (bQ (bZ 2 rfl rfl) bX) (fun bb=>lQ Z_51 (Ht rfl) (Ht rfl) rfl (i:=0) rfl (aK rfl) rfl rfl) (Y.D_putN (Ei:=[(33,_)]) 15 rfl rfl rfl rfl rfl rfl (bQ (bZ 5 rfl rfl) bX) (fun bb=>lQ Z_51 (Ht rfl) (Ht rfl) rfl (i:=0) rfl (aK rfl) rfl rfl) (Y.D_putN (Ei:=[(36,_)]) 16 rfl rfl rfl rfl rfl rfl (bQ (bZ 8 rfl rfl) bX) (fun bb=>lQ Z_51 (Ht rfl) (Ht rfl) rfl (i:=0) rfl (aK rfl) rfl rfl) ?_)))
  refine Y.D_putN (Ei:=[(39,_)]) 17 rfl rfl rfl rfl rfl rfl (bQ (bZ 11 rfl rfl) bX) (fun bb=>lQ Z_51 (Ht rfl) (Ht rfl) rfl (i:=0) rfl (aK rfl) rfl rfl) (Y.D_done bF rfl (by kernel_rfl) rfl (by simp [Y.okP]) rfl rfl (bU (bU (bU (bU (bU (bU (bU (bU (bU (bU (bU (bU (bU (bU (Y.F_newp (fun B10=>Y.F_newp (fun B11=>Y.F_newp (fun B12=>Y.F_newp (fun B13=>Y.F_new (fun B14=>Y.F_putN (Y.F_putN (Y.F_putN (Y.F_putN (Y.F_nil ?_)))))))))))))))))))))))))
  refine jL Z_3 (Ht rfl) (Ht rfl) (i:=8) rfl (aK rfl) rfl (eZ (cK (gG (i:=4) (tt:=10) rfl rfl gE (gG (i:=5) (tt:=11) rfl rfl gE (gG (i:=6) (tt:=12) rfl rfl gE (gG (i:=7) (tt:=13) rfl rfl gE (gG (i:=8) (tt:=14) rfl rfl gY (gG (i:=0) (tt:=3) rfl rfl gE (bL [1,2] rfl (by decide) ?_)))))))))
  have hDf:=Dm (p:=p) hfs hff hL
  by_cases hD:kF s f p = Qi.zero
  ·refine Y.D_start (m := 25) [] (bY (Ei := [(3, _)]) rfl rfl (bQ (bJ rfl rfl) bX) rfl rfl (dX rfl (dV A_32 Z_32 (Ht rfl))) (bY (Ei := [(14, _)]) rfl rfl (bQ (bJ rfl rfl) bX) rfl rfl (dX rfl (dV A_3 Z_3 (Ht rfl))) (bY (Ei := []) rfl rfl bX rfl rfl (dX rfl (cZ K_109 (sM (n := 1) (by decide) (by decide)) ⟨(cJ 1), trivial⟩)) (bY (Ei := [(45, _)]) rfl rfl (bQ (bZ 2 rfl rfl) bX) rfl rfl (dX rfl (bD bN (Ht rfl))) ?_))))
   refine bY (Ei:=[(13,_)]) rfl rfl (bQ (bJ rfl rfl) bX) rfl rfl (dX rfl (dV A_51 Z_51 (Ht rfl))) (bY (Ei:=[(47,_)]) rfl rfl (bQ (bZ 4 rfl rfl) bX) rfl rfl (dX rfl (bD bN (Ht rfl))) (bY (Ei:=[(3,_)]) rfl rfl (bQ (bJ rfl rfl) bX) rfl rfl (dX rfl (jK dI (Ht rfl) rfl)) (bY (Ei:=[(49,_)]) rfl rfl (bQ (bZ 6 rfl rfl) bX) rfl rfl (dX rfl (dV A_30 Z_30 (Ht rfl))) (bY (Ei:=[(14,_)]) rfl rfl (bQ (bJ rfl rfl) bX) rfl rfl (dX rfl (dV A_3 Z_3 (Ht rfl))) ?_))))
   refine bY (Ei:=[(50,_),(51,_)]) rfl rfl (bQ (bZ 7 rfl rfl) (bQ (bZ 8 rfl rfl) bX)) rfl rfl (dX rfl (dZ U_30 Z_29 (Ht rfl) (Ht rfl) rfl (eQ (dY (d:=[]) zo)))) (bY (Ei:=[(52,_)]) rfl rfl (bQ (bZ 9 rfl rfl) bX) rfl rfl (dX rfl (dV A_29 Z_29 (Ht rfl))) (bY (Ei:=[(14,_)]) rfl rfl (bQ (bJ rfl rfl) bX) rfl rfl (dX rfl (dV A_3 Z_3 (Ht rfl))) (bY (Ei:=[(53,_),(54,_)]) rfl rfl (bQ (bZ 10 rfl rfl) (bQ (bZ 11 rfl rfl) bX)) rfl rfl (dX rfl (dZ U_29 Z_51 (Ht rfl) (Ht rfl) rfl (eQ (dY (d:=Qi.zero) zo)))) ?_)))
   refine bY (Ei:=[(55,_)]) rfl rfl (bQ (bZ 12 rfl rfl) bX) rfl rfl (dX rfl (dV A_51 Z_51 (Ht rfl))) (bY (Ei:=[(48,_),(56,_)]) rfl rfl (bQ (bZ 5 rfl rfl) (bQ (bZ 13 rfl rfl) bX)) rfl rfl (dX rfl (aP cI K_45 (kW (x:=gm f 1 1) (y:=gm s p p) (L:=L) (M:=L) zo) (Ht rfl) ⟨(Ht rfl),trivial⟩)) (bY (Ei:=[(46,_),(57,_)]) rfl rfl (bQ (bZ 3 rfl rfl) (bQ (bZ 14 rfl rfl) bX)) rfl rfl (dX rfl (aP jE K_44 (uO (x:=Qi.ofInt 1) (y:=gm f 1 1 * gm s p p) (L:=1) (M:=L + L + 1) zo) (Ht rfl) ⟨(Ht rfl),trivial⟩)) ?_))
   refine bY (Ei:=[(43,_),(44,_),(58,_)]) rfl rfl (bQ (bZ 0 rfl rfl) (bQ (bZ 1 rfl rfl) (bQ (bZ 15 rfl rfl) bX))) rfl rfl (dX rfl (cZ Tryz.call108 (Cl (z:=z) (s:=s) (p:=p) (e:=kF s f p) (L:=L) (M:=2 * L + 3) hs hpl hz hfs hDf hL zo hD) ⟨(Ht rfl),(Ht rfl),(Ht rfl),trivial⟩)) (bY (Ei:=[(59,_)]) rfl rfl (bQ (bZ 16 rfl rfl) bX) rfl rfl (dX rfl (cX (Ht rfl))) (bY (Ei:=[(42,_)]) rfl rfl (bQ (bZ 17 rfl rfl) bX) rfl rfl (dX rfl (dU (Ht rfl) rfl)) ?_))
   refine bY (Ei:=[(42,_)]) rfl rfl (bQ (bZ 17 rfl rfl) bX) rfl rfl (dX rfl (dU (Ht rfl) rfl)) (bY (Ei:=[(42,_)]) rfl rfl (bQ (bZ 17 rfl rfl) bX) rfl rfl (dX rfl (dU (Ht rfl) rfl)) (Y.D_newp (Ei:=[]) (fun bb=>box bb 29 [bA []]) 23 rfl rfl rfl bX rfl rfl (by kernel_rfl) (eG (Ts:=[Is (.slice none 0 0)]) O_29 rfl (fun V=>aW zd (aG))) (Y.D_newp (Ei:=[]) (fun bb=>box bb 29 [bA []]) 24 rfl rfl rfl bX rfl rfl (by kernel_rfl) (eG (Ts:=[Is (.slice none 0 0)]) O_29 rfl (fun V=>aW zd (aG))) ?_)))
   refine Y.D_putN (Ei:=[(60,_)]) 21 rfl rfl rfl rfl rfl rfl (bQ (bZ 18 rfl rfl) bX) (fun bb=>Gf Z_29 (Ht rfl) (Ht rfl) (i:=0) rfl (aK rfl) rfl rfl) (Y.D_putN (Ei:=[(61,_)]) 22 rfl rfl rfl rfl rfl rfl (bQ (bZ 19 rfl rfl) bX) (fun bb=>Gf Z_29 (Ht rfl) (Ht rfl) (i:=0) rfl (aK rfl) rfl rfl) (Y.D_done bF rfl (by kernel_rfl) rfl (by simp [Y.okP]) rfl rfl (bU (bU (bU (bU (bU (bU (bU (bU (bU (bU (bU (bU (bU (bU (bU (bU (bU (bU (bU (bU (bU (Y.F_newp (fun B15=>Y.F_newp (fun B16=>Y.F_putN (Y.F_putN (Y.F_nil ?_))))))))))))))))))))))))))))
   refine ra rfl (eZ (cK (cK ?_)))
   have he:Fd z s fz f port = 6:=a0A hfx (by rw [← hp]; exact hD)
   have hne:Fd z s fz f port ≠ 0:=by rw [he]; decide
   refine cY (rm rfl (ro rfl (fB (Ht rfl) cV) (eZ (nU (Ht rfl) (by rfl) ?_))))
   refine ts (ro rfl (aF.imp (iU ) iR) (rm rfl (gJ Z_32 (Ht rfl) (Ht rfl) rfl (i:=1) rfl (aK rfl) rfl rfl (ra rfl (eZ (bI rfl (fJ (fY A_32 Z_32 rfl (i:=1) rfl rfl) ?_) (fJ (eY rfl) ?_)))))))
   ·exact (fun v V h=>by rw [Vs,Vp,iI,iI,if_neg hne,if_neg hne]; exact h)
   ·exact (aM he.symm)
  ·refine Y.D_start (m := 25) [] (bY (Ei := [(3, _)]) rfl rfl (bQ (bJ rfl rfl) bX) rfl rfl (dX rfl (dV A_32 Z_32 (Ht rfl))) (bY (Ei := [(14, _)]) rfl rfl (bQ (bJ rfl rfl) bX) rfl rfl (dX rfl (dV A_3 Z_3 (Ht rfl))) (bY (Ei := []) rfl rfl bX rfl rfl (dX rfl (cZ K_109 (sM (n := 1) (by decide) (by decide)) ⟨(cJ 1), trivial⟩)) (bY (Ei := [(45, _)]) rfl rfl (bQ (bZ 2 rfl rfl) bX) rfl rfl (dX rfl (bD bN (Ht rfl))) ?_))))
   refine bY (Ei:=[(13,_)]) rfl rfl (bQ (bJ rfl rfl) bX) rfl rfl (dX rfl (dV A_51 Z_51 (Ht rfl))) (bY (Ei:=[(47,_)]) rfl rfl (bQ (bZ 4 rfl rfl) bX) rfl rfl (dX rfl (bD bN (Ht rfl))) (bY (Ei:=[(3,_)]) rfl rfl (bQ (bJ rfl rfl) bX) rfl rfl (dX rfl (jK dI (Ht rfl) rfl)) (bY (Ei:=[(49,_)]) rfl rfl (bQ (bZ 6 rfl rfl) bX) rfl rfl (dX rfl (dV A_30 Z_30 (Ht rfl))) (bY (Ei:=[(14,_)]) rfl rfl (bQ (bJ rfl rfl) bX) rfl rfl (dX rfl (dV A_3 Z_3 (Ht rfl))) ?_))))
   refine bY (Ei:=[(50,_),(51,_)]) rfl rfl (bQ (bZ 7 rfl rfl) (bQ (bZ 8 rfl rfl) bX)) rfl rfl (dX rfl (dZ U_30 Z_29 (Ht rfl) (Ht rfl) rfl (eQ (dY (d:=[]) zo)))) (bY (Ei:=[(52,_)]) rfl rfl (bQ (bZ 9 rfl rfl) bX) rfl rfl (dX rfl (dV A_29 Z_29 (Ht rfl))) (bY (Ei:=[(14,_)]) rfl rfl (bQ (bJ rfl rfl) bX) rfl rfl (dX rfl (dV A_3 Z_3 (Ht rfl))) (bY (Ei:=[(53,_),(54,_)]) rfl rfl (bQ (bZ 10 rfl rfl) (bQ (bZ 11 rfl rfl) bX)) rfl rfl (dX rfl (dZ U_29 Z_51 (Ht rfl) (Ht rfl) rfl (eQ (dY (d:=Qi.zero) zo)))) ?_)))
   refine bY (Ei:=[(55,_)]) rfl rfl (bQ (bZ 12 rfl rfl) bX) rfl rfl (dX rfl (dV A_51 Z_51 (Ht rfl))) (bY (Ei:=[(48,_),(56,_)]) rfl rfl (bQ (bZ 5 rfl rfl) (bQ (bZ 13 rfl rfl) bX)) rfl rfl (dX rfl (aP cI K_45 (kW (x:=gm f 1 1) (y:=gm s p p) (L:=L) (M:=L) zo) (Ht rfl) ⟨(Ht rfl),trivial⟩)) (bY (Ei:=[(46,_),(57,_)]) rfl rfl (bQ (bZ 3 rfl rfl) (bQ (bZ 14 rfl rfl) bX)) rfl rfl (dX rfl (aP jE K_44 (uO (x:=Qi.ofInt 1) (y:=gm f 1 1 * gm s p p) (L:=1) (M:=L + L + 1) zo) (Ht rfl) ⟨(Ht rfl),trivial⟩)) ?_))
   refine bY (Ei:=[(43,_),(44,_),(58,_)]) rfl rfl (bQ (bZ 0 rfl rfl) (bQ (bZ 1 rfl rfl) (bQ (bZ 15 rfl rfl) bX))) rfl rfl (dX rfl (cZ Tryz.call108 (Bl (z:=z) (s:=s) (p:=p) (e:=kF s f p) (L:=L) (M:=2 * L + 3) hs hpl hz hfs hDf hL zo hD) ⟨(Ht rfl),(Ht rfl),(Ht rfl),trivial⟩)) (bY (Ei:=[(59,_)]) rfl rfl (bQ (bZ 16 rfl rfl) bX) rfl rfl (dX rfl (cX (Ht rfl))) (bY (Ei:=[(42,_)]) rfl rfl (bQ (bZ 17 rfl rfl) bX) rfl rfl (dX rfl (dU (Ht rfl) rfl)) ?_))
   refine bY (Ei:=[(42,_)]) rfl rfl (bQ (bZ 17 rfl rfl) bX) rfl rfl (dX rfl (dU (Ht rfl) rfl)) (bY (Ei:=[(42,_)]) rfl rfl (bQ (bZ 17 rfl rfl) bX) rfl rfl (dX rfl (dU (Ht rfl) rfl)) (Y.D_newp (Ei:=[]) (fun bb=>box bb 29 [bA (tab z.length fun i=>gm s i p / kF s f p)]) 23 rfl rfl rfl bX rfl rfl (by kernel_rfl) (eG (Ts:=[Is (.slice none 0 0)]) O_29 rfl (fun V=>aW zd (aG))) (Y.D_newp (Ei:=[]) (fun bb=>box bb 29 [bA (tab z.length fun j=>gm s p j / kF s f p)]) 24 rfl rfl rfl bX rfl rfl (by kernel_rfl) (eG (Ts:=[Is (.slice none 0 0)]) O_29 rfl (fun V=>aW zd (aG))) ?_)))
   refine Y.D_putN (Ei:=[(60,_)]) 21 rfl rfl rfl rfl rfl rfl (bQ (bZ 18 rfl rfl) bX) (fun bb=>Gf Z_29 (Ht rfl) (Ht rfl) (i:=0) rfl (aK rfl) rfl rfl) (Y.D_putN (Ei:=[(61,_)]) 22 rfl rfl rfl rfl rfl rfl (bQ (bZ 19 rfl rfl) bX) (fun bb=>Gf Z_29 (Ht rfl) (Ht rfl) (i:=0) rfl (aK rfl) rfl rfl) (Y.D_done bF rfl (by kernel_rfl) rfl (by simp [Y.okP]) rfl rfl (bU (bU (bU (bU (bU (bU (bU (bU (bU (bU (bU (bU (bU (bU (bU (bU (bU (bU (bU (bU (bU (Y.F_newp (fun B15=>Y.F_newp (fun B16=>Y.F_putN (Y.F_putN (Y.F_nil ?_))))))))))))))))))))))))))))
   refine ra rfl (eZ (cK (cK ?_)))
   have he:Fd z s fz f port = 0:=Jp hfx (by rw [← hp]; exact hD)
   refine gG (i:=2) (tt:=15) rfl rfl gY (gG (i:=3) (tt:=16) rfl rfl gY (cY (rm rfl (ro rfl (fB (Ht rfl) cV) (eZ (fN (Ht rfl) (by rfl) ?_))))))
   refine cU (cK (fV (m:=7) (dp 3 rfl (dV A_32 Z_32 (Ht rfl)) (dp 14 rfl (dV A_3 Z_3 (Ht rfl)) (dp 5 rfl (eJ eO (Ht rfl) rfl) (dq 69 2 rfl (fQ A_29 Z_29 (Ht rfl) (i:=0) rfl rfl) (dq 70 3 rfl (dZ U_29 Z_51 (Ht rfl) (cJ 0) rfl (eQ (dY (d:=Qi.zero) zo))) (dq 71 4 rfl (dV A_51 Z_51 (Ht rfl)) (C.D_step (Ei:=[(14,_),(10,_),(11,_),(12,_),(16,_),(15,_),(3,_),(13,_)]) rfl rfl (bV (bK rfl rfl) (bV (bK rfl rfl) (bV (bK rfl rfl) (bV (bK rfl rfl) (bV (bK rfl rfl) (bV (bK rfl rfl) (bV (bK rfl rfl) (bV (bK rfl rfl) bW)))))))) (dX rfl (lW (γ:=Fin z.length × Fin z.length) (Ts:=fun x=>[NT .i64 x.1.1,NT .i64 x.2.1]) (U:=fun x=>aE (nI s f p x.1.1 x.2.1)) Tryz.call111 (fun x=>Ry (z:=z) (s:=s) (f:=f) (p:=p) (L:=L) hs hpl x.1.2 x.2.2 hz hfs hff hL hLb hD) ⟨(Ht rfl),(Ht rfl),(Ht rfl),(Ht rfl),(Ht rfl),(Ht rfl),(Ht rfl),(Ht rfl),trivial⟩)) ?_)))))))))
   refine fG bF rfl (by kernel_rfl) (zF (aJ (aJ (aJ (aV (ro rfl (cZ Tryz.call110 (Rh (z:=z) (s:=s) (p:=p) (x:=gv fz 0) (F:=fun i j=>nI s f p i j) hs hpl hz) ⟨(Ht rfl),(Ht rfl),(Ht rfl),(Ht rfl),trivial⟩) (gJ Z_32 (Ht rfl) (Ht rfl) rfl (i:=1) rfl (aK rfl) rfl rfl (ro rfl (cQ (cJ 0)) (eZ (bI rfl (fJ (fY A_32 Z_32 rfl (i:=1) rfl rfl) ?_) (fJ (eY rfl) ?_)))))))))))
   ·exact (fun v V h=>by rw [Vs,Vp,iI,iI,if_pos he,if_pos he,← hp]; exact h)
   ·exact (aM he.symm)
theorem Ms {z fz:List Qi} {s f:List (List Qi)} {port:Int} {L:Nat} (hs:eR s z.length z.length) (hz1:1 ≤ z.length) (hz:z.length ≤ 1000) (hfs:bT s L) (hff:bT f L) (hfz:cC z L) (hfg:cC fz L) (hL:1 ≤ L) (hLb:L ≤ 10000) (hf:fz.length = 2 → eR f 2 2):bB Tryz.prog 26 [bR z s,aD .i64 port,bR fz f] (dN [bR (Vs z s fz f port) (Vp z s fz f port),aD .i64 (Fd z s fz f port)]):=by
 by_cases h2:fz.length = 2
 ·exact Tg hs hz1 hz hfs hff hfz hfg hL hLb h2 (hf h2)
 ·exact Qf hs hz1 hz hfs hff hfz hfg hL hLb h2
theorem Pa {z fz:List Qi} {s f:List (List Qi)} {port:Int} {L:Nat} (hs:eR s z.length z.length) (hz1:1 ≤ z.length) (hz:z.length ≤ 1000) (hfs:bT s L) (hff:bT f L) (hfz:cC z L) (hfg:cC fz L) (hL:1 ≤ L) (hLb:L ≤ 10000) (h2:fz.length ≠ 2):bB Tryz.prog 28 [bR z s,aD .i64 port,bR fz f] (dN [bR (zB z s fz f port) (Qw z s fz f port),aD .i64 (Bz z s fz f port)]):=by
 have hfx:pZ z fz port 1 = 4:=a2S h2
 have he:Bz z s fz f port = 4:=(a0w (by rw [hfx]; decide)).trans hfx
 have hne:Bz z s fz f port ≠ 0:=by rw [he]; decide
 refine bB.intro Tryz.func28 rfl Tryz.ntmps28 rfl (fun cx=>(ts (rn rfl (fU (Ht rfl)) fun B3=>(rn rfl (fU (Ht rfl)) fun B5=>(rn rfl (eG (Ts:=[Is (.slice none 0 0),Is (.slice none 0 0)]) O_32 rfl (fun V=>aW zd (aW zd (aG)))) fun B6=>(ro rfl (cQ (cJ 0)) (eZ (ts (ro rfl (eW A_32 Z_32 (Ht rfl) (i:=0) rfl rfl rfl) (rm rfl (ro rfl (eW A_32 Z_32 (Ht rfl) (i:=1) rfl rfl rfl) (ro rfl (cZ Tryz.call107 (Ck (x:=1) h2) ⟨(Ht rfl),(Ht rfl),(Ht rfl),(cJ 1),trivial⟩) ?_))))))))))))
 refine rm rfl (ro rfl (dU (Ht rfl) rfl) (ro rfl (dU (Ht rfl) rfl) (rn rfl (eG (Ts:=[Is (.bool false),Is (.slice none 0 0),Is (.bool false),Is (.slice none 0 0),Is (.slice none 0 0),Is (.bool false),Is (.slice none 0 0),Is (.bool false),Is (.slice none 0 0),Is (.slice none 0 0),Is (.bool false),Is (.slice none 0 0),Is (.bool false),Is (.slice none 0 0),Is (.slice none 0 0),Is (.bool false),Is (.slice none 0 0),Is (.bool false),Is (.slice none 0 0),Is (.slice none 0 0)]) O_163 rfl (fun V=>aW zd (aW zd (aW zd (aW zd (aW zd (aW zd (aW zd (aW zd (aW zd (aW zd (aW zd (aW zd (aW zd (aW zd (aW zd (aW zd (aW zd (aW zd (aW zd (aW zd (aG)))))))))))))))))))))) fun B8=>?_)))
 refine gJ Z_163 (Ht rfl) (Ht rfl) rfl (i:=3) rfl (aK rfl) rfl rfl (ra rfl (eZ (cK (ts (rm rfl (ro rfl (fB (Ht rfl) cV) (eZ (nU (Ht rfl) (by rfl) ?_))))))))
 refine ts (ro rfl (aF.imp (iU ) iR) (rm rfl (gJ Z_32 (Ht rfl) (Ht rfl) rfl (i:=2) rfl (aK rfl) rfl rfl (ra rfl (eZ (bI rfl (fJ (fY A_32 Z_32 rfl (i:=2) rfl rfl) ?_) (fJ (eY rfl) ?_)))))))
 ·exact (fun v V h=>by rw [zB,Qw,iI,iI,if_neg hne,if_neg hne]; exact h)
 ·exact (aM he.symm)
theorem Ni {z fz:List Qi} {s f:List (List Qi)} {port:Int} {L:Nat} (hs:eR s z.length z.length) (hz1:1 ≤ z.length) (hz:z.length ≤ 1000) (hfs:bT s L) (hff:bT f L) (hfz:cC z L) (hfg:cC fz L) (hL:1 ≤ L) (hLb:L ≤ 10000) (h2:fz.length = 2) (hf:eR f 2 2):bB Tryz.prog 28 [bR z s,aD .i64 port,bR fz f] (dN [bR (zB z s fz f port) (Qw z s fz f port),aD .i64 (Bz z s fz f port)]):=by
 have hsl:=hs.1
 haveI h1f:=nT
 refine bB.intro Tryz.func28 rfl Tryz.ntmps28 rfl (fun cx=>(ts (rn rfl (fU (Ht rfl)) fun B3=>(rn rfl (fU (Ht rfl)) fun B5=>(rn rfl (eG (Ts:=[Is (.slice none 0 0),Is (.slice none 0 0)]) O_32 rfl (fun V=>aW zd (aW zd (aG)))) fun B6=>(ro rfl (cQ (cJ 0)) (eZ (ts (ro rfl (eW A_32 Z_32 (Ht rfl) (i:=0) rfl rfl rfl) (rm rfl (ro rfl (eW A_32 Z_32 (Ht rfl) (i:=1) rfl rfl rfl) (ro rfl (cZ Tryz.call107 (Bd (x:=1) (L:=L) h2 hf (by decide) hfz hfg hL zo hz) ⟨(Ht rfl),(Ht rfl),(Ht rfl),(cJ 1),trivial⟩) ?_))))))))))))
 refine rm rfl (ro rfl (dU (Ht rfl) rfl) (ro rfl (dU (Ht rfl) rfl) (rn rfl (eG (Ts:=[Is (.bool false),Is (.slice none 0 0),Is (.bool false),Is (.slice none 0 0),Is (.slice none 0 0),Is (.bool false),Is (.slice none 0 0),Is (.bool false),Is (.slice none 0 0),Is (.slice none 0 0),Is (.bool false),Is (.slice none 0 0),Is (.bool false),Is (.slice none 0 0),Is (.slice none 0 0),Is (.bool false),Is (.slice none 0 0),Is (.bool false),Is (.slice none 0 0),Is (.slice none 0 0)]) O_163 rfl (fun V=>aW zd (aW zd (aW zd (aW zd (aW zd (aW zd (aW zd (aW zd (aW zd (aW zd (aW zd (aW zd (aW zd (aW zd (aW zd (aW zd (aW zd (aW zd (aW zd (aW zd (aG)))))))))))))))))))))) fun B8=>?_)))
 refine gJ Z_163 (Ht rfl) (Ht rfl) rfl (i:=3) rfl (aK rfl) rfl rfl (ra rfl (eZ (cK (ts (rm rfl (ro rfl (fB (Ht rfl) cV) (eZ (dQ (Ht rfl) (fun hc=>?_) (fun hc=>?_)))))))))
 ·have hfx : pZ z fz port 1 ≠ 0 := by simpa using hc
  have he:Bz z s fz f port = pZ z fz port 1:=a0w hfx
  have hne:Bz z s fz f port ≠ 0:=by rw [he]; exact hfx
  refine ts (ro rfl (aF.imp (iU ) iR) (rm rfl (gJ Z_32 (Ht rfl) (Ht rfl) rfl (i:=2) rfl (aK rfl) rfl rfl (ra rfl (eZ (bI rfl (fJ (fY A_32 Z_32 rfl (i:=2) rfl rfl) ?_) (fJ (eY rfl) ?_)))))))
  ·exact (fun v V h=>by rw [zB,Qw,iI,iI,if_neg hne,if_neg hne]; exact h)
  ·exact (aM he.symm)
 ·have hfx : pZ z fz port 1 = 0 := by simpa using hc
  obtain ⟨_,hb2,hzz⟩:=a0l hfx
  obtain ⟨p,hp⟩:∃ p,p = (port - 1).toNat:=⟨_,rfl⟩
  have hpe:port - 1 = (p:Int):=by omega
  have hpl:p < z.length:=by omega
  have hspr:=hs.row hpl
  haveI:=hfs.get hL p p; haveI:=hff.get hL 1 1; haveI:=hff.get hL 0 0; haveI:=hff.get hL 0 1; haveI:=hff.get hL 1 0
  refine cU (cK (Y.D_start (m:=23) [] (bY (Ei:=[(8,_)]) rfl rfl (bQ (bJ rfl rfl) bX) rfl rfl (dX rfl (iB U_163 Z_162 (Ht rfl) (cJ 0) rfl (by decide) rfl)) (bY (Ei:=[(31,_)]) rfl rfl (bQ (bZ 0 rfl rfl) bX) rfl rfl (dX rfl (iB U_162 Z_51 (Ht rfl) (cJ 0) rfl (by decide) rfl)) (bY (Ei:=[(32,_)]) rfl rfl (bQ (bZ 1 rfl rfl) bX) rfl rfl (dX rfl (eW A_51 Z_51 (Ht rfl) (i:=3) rfl rfl rfl)) ?_)))))
  refine bY (Ei:=[(8,_)]) rfl rfl (bQ (bJ rfl rfl) bX) rfl rfl (dX rfl (iB U_163 Z_162 (Ht rfl) (cJ 0) rfl (by decide) rfl)) (bY (Ei:=[(34,_)]) rfl rfl (bQ (bZ 3 rfl rfl) bX) rfl rfl (dX rfl (iB U_162 Z_51 (Ht rfl) (cJ 1) rfl (by decide) rfl)) (bY (Ei:=[(35,_)]) rfl rfl (bQ (bZ 4 rfl rfl) bX) rfl rfl (dX rfl (eW A_51 Z_51 (Ht rfl) (i:=3) rfl rfl rfl)) (bY (Ei:=[(8,_)]) rfl rfl (bQ (bJ rfl rfl) bX) rfl rfl (dX rfl (iB U_163 Z_162 (Ht rfl) (cJ 1) rfl (by decide) rfl)) ?_)))
  refine bY (Ei:=[(37,_)]) rfl rfl (bQ (bZ 6 rfl rfl) bX) rfl rfl (dX rfl (iB U_162 Z_51 (Ht rfl) (cJ 0) rfl (by decide) rfl)) (bY (Ei:=[(38,_)]) rfl rfl (bQ (bZ 7 rfl rfl) bX) rfl rfl (dX rfl (eW A_51 Z_51 (Ht rfl) (i:=3) rfl rfl rfl)) (bY (Ei:=[(8,_)]) rfl rfl (bQ (bJ rfl rfl) bX) rfl rfl (dX rfl (iB U_163 Z_162 (Ht rfl) (cJ 1) rfl (by decide) rfl)) (bY (Ei:=[(40,_)]) rfl rfl (bQ (bZ 9 rfl rfl) bX) rfl rfl (dX rfl (iB U_162 Z_51 (Ht rfl) (cJ 1) rfl (by decide) rfl)) ?_)))
  refine bY (Ei:=[(41,_)]) rfl rfl (bQ (bZ 10 rfl rfl) bX) rfl rfl (dX rfl (eW A_51 Z_51 (Ht rfl) (i:=3) rfl rfl rfl)) (bY (Ei:=[(1,_)]) rfl rfl (bQ (bJ rfl rfl) bX) rfl rfl (dX rfl (cX (Ht rfl))) (bY (Ei:=[(43,_)]) rfl rfl (bQ (bZ 12 rfl rfl) bX) rfl rfl (dX rfl (gM (Ht rfl) cV (r:=((p:Nat):Int)) ((tD (z:=port - 1) zo).trans zo))) ?_))
  refine Y.D_newp (Ei:=[]) (fun bb=>box bb 51 (nb (gm f 0 0))) 19 rfl rfl rfl bX rfl rfl (by kernel_rfl) (eG (Ts:=[Is (.bool false),Is (.slice none 0 0),Is (.bool false),Is (.slice none 0 0),Is (.slice none 0 0)]) O_51 rfl (fun V=>aW zd (aW zd (aW zd (aW zd (aW zd (aG))))))) (Y.D_newp (Ei:=[]) (fun bb=>box bb 51 (nb (gm f 0 1))) 20 rfl rfl rfl bX rfl rfl (by kernel_rfl) (eG (Ts:=[Is (.bool false),Is (.slice none 0 0),Is (.bool false),Is (.slice none 0 0),Is (.slice none 0 0)]) O_51 rfl (fun V=>aW zd (aW zd (aW zd (aW zd (aW zd (aG))))))) ?_)
  refine Y.D_newp (Ei:=[]) (fun bb=>box bb 51 (nb (gm f 1 0))) 21 rfl rfl rfl bX rfl rfl (by kernel_rfl) (eG (Ts:=[Is (.bool false),Is (.slice none 0 0),Is (.bool false),Is (.slice none 0 0),Is (.slice none 0 0)]) O_51 rfl (fun V=>aW zd (aW zd (aW zd (aW zd (aW zd (aG))))))) (Y.D_newp (Ei:=[]) (fun bb=>box bb 51 (nb (gm f 1 1))) 22 rfl rfl rfl bX rfl rfl (by kernel_rfl) (eG (Ts:=[Is (.bool false),Is (.slice none 0 0),Is (.bool false),Is (.slice none 0 0),Is (.slice none 0 0)]) O_51 rfl (fun V=>aW zd (aW zd (aW zd (aW zd (aW zd (aG))))))) ?_)
  refine Y.D_new (Ei:=[]) rfl rfl rfl bX rfl rfl (eG (Ts:=[Is (.int .i64 0)]) O_3 rfl (fun V=>aW zd (aG))) (Y.D_putN (Ei:=[(33,_)]) 14 rfl rfl rfl rfl rfl rfl (bQ (bZ 2 rfl rfl) bX) (fun bb=>lQ Z_51 (Ht rfl) (Ht rfl) rfl (i:=0) rfl (aK rfl) rfl rfl) (Y.D_putN (Ei:=[(36,_)]) 15 rfl rfl rfl rfl rfl rfl (bQ (bZ 5 rfl rfl) bX) (fun bb=>lQ Z_51 (Ht rfl) (Ht rfl) rfl (i:=0) rfl (aK rfl) rfl rfl) (Y.D_putN (Ei:=[(39,_)]) 16 rfl rfl rfl rfl rfl rfl (bQ (bZ 8 rfl rfl) bX) (fun bb=>lQ Z_51 (Ht rfl) (Ht rfl) rfl (i:=0) rfl (aK rfl) rfl rfl) ?_)))
  refine Y.D_putN (Ei:=[(42,_)]) 17 rfl rfl rfl rfl rfl rfl (bQ (bZ 11 rfl rfl) bX) (fun bb=>lQ Z_51 (Ht rfl) (Ht rfl) rfl (i:=0) rfl (aK rfl) rfl rfl) (Y.D_done bF rfl (by kernel_rfl) rfl (by simp [Y.okP]) rfl rfl (bU (bU (bU (bU (bU (bU (bU (bU (bU (bU (bU (bU (bU (bU (Y.F_newp (fun B10=>Y.F_newp (fun B11=>Y.F_newp (fun B12=>Y.F_newp (fun B13=>Y.F_new (fun B14=>Y.F_putN (Y.F_putN (Y.F_putN (Y.F_putN (Y.F_nil ?_)))))))))))))))))))))))))
  refine jL Z_3 (Ht rfl) (Ht rfl) (i:=8) rfl (aK rfl) rfl (eZ (cK (cK (gG (i:=4) (tt:=10) rfl rfl gE (gG (i:=5) (tt:=11) rfl rfl gE (gG (i:=6) (tt:=12) rfl rfl gE (gG (i:=7) (tt:=13) rfl rfl gE (gG (i:=8) (tt:=14) rfl rfl gY (gG (i:=0) (tt:=3) rfl rfl gE (bL [1,2] rfl (by decide) (cY (ro rfl (dV A_51 Z_51 (Ht rfl)) (ro rfl (bD bN (Ht rfl)) (ro rfl (aP oY K_27 (sE (x:=gm f 0 1) (L:=L) zo) (Ht rfl) trivial) ?_))))))))))))))
  refine ro rfl (eH (Ht rfl)) (rm rfl (fX rfl rfl (eU rfl rfl (Ht rfl) (fun h=>dV A_51 Z_51 (Ht rfl))) (fX rfl rfl (eU rfl rfl (Ht rfl) (fun h=>bD bN (fW rfl h))) (fX rfl rfl (eU rfl rfl (Ht rfl) (fun h=>aP oY K_27 (sE (x:=gm f 1 0) (L:=L) zo) (fW rfl h) trivial)) (fX rfl rfl (eU rfl rfl (Ht rfl) (fun h=>eH (fW rfl h))) (ro rfl (kX (Ht rfl) (fun h=>(fW rfl h))) (eZ (dQ (Ht rfl) (fun hcl=>?_) (fun hcl=>?_)))))))))
  ·have h3 : gm f 0 1 = Qi.zero ∨ gm f 1 0 = Qi.zero := by simpa using hcl
   have he:Bz z s fz f port = 6:=Uw hfx (h3.elim .inl (fun k=>.inr (.inl k)))
   have hne:Bz z s fz f port ≠ 0:=by rw [he]; decide
   refine ts (ro rfl (aF.imp (iU ) iR) (gJ Z_32 (Ht rfl) (Ht rfl) rfl (i:=1) rfl (aK rfl) rfl rfl (ro rfl (cQ (cJ 6)) (eZ (bI rfl (fJ (fY A_32 Z_32 rfl (i:=1) rfl rfl) ?_) (fJ (eY rfl) ?_))))))
   ·exact (fun v V h=>by rw [zB,Qw,iI,iI,if_neg hne,if_neg hne]; exact h)
   ·exact (aM he.symm)
  ·have h3 : ¬ (gm f 0 1 = Qi.zero ∨ gm f 1 0 = Qi.zero) := by simpa using hcl
   refine cU (cK (fV (m:=12) (dp 3 rfl (jK dI (Ht rfl) rfl) (dq 56 0 rfl (dV A_30 Z_30 (Ht rfl)) (dp 14 rfl (dV A_3 Z_3 (Ht rfl)) (dS 57 1 58 2 rfl (dZ U_30 Z_29 (Ht rfl) (Ht rfl) rfl (eQ (dY (d:=[]) zo))) (dq 59 3 rfl (dV A_29 Z_29 (Ht rfl)) (dp 14 rfl (dV A_3 Z_3 (Ht rfl)) (dS 60 4 61 5 rfl (dZ U_29 Z_51 (Ht rfl) (Ht rfl) rfl (eQ (dY (d:=Qi.zero) zo))) (dq 62 6 rfl (dV A_51 Z_51 (Ht rfl)) ?_))))))))))
   refine dq 63 7 rfl (bD bN (Ht rfl)) (dp 10 rfl (dV A_51 Z_51 (Ht rfl)) (dS 64 8 65 9 rfl (aP jE K_44 (uO (x:=gm s p p) (y:=gm f 0 0) (L:=L) (M:=L) zo) (Ht rfl) ⟨(Ht rfl),trivial⟩) (C.D_new (Ei:=[]) rfl rfl rfl bW (eG (Ts:=[Is (.bool false),Is (.slice none 0 0),Is (.bool false),Is (.slice none 0 0),Is (.slice none 0 0)]) O_51 rfl (fun V=>aW zd (aW zd (aW zd (aW zd (aW zd (aG))))))) ?_)))
   refine fG bF rfl (by kernel_rfl) (zF (zF (aJ (aJ (aJ (C.F_new (fun B15=>aV (gJ Z_51 (Ht rfl) (Ht rfl) rfl (i:=2) rfl (aK rfl) rfl rfl (eZ (cK (gG (i:=2) (tt:=15) rfl rfl gE (bL [0,1] rfl (by decide) (fV (m:=11) (dp 11 rfl (dV A_51 Z_51 (Ht rfl)) (dq 67 0 rfl (bD bN (Ht rfl)) (dp 12 rfl (dV A_51 Z_51 (Ht rfl)) (dS 68 1 69 2 rfl (aP cI K_45 (kW (x:=gm f 0 1) (y:=gm f 1 0) (L:=L) (M:=L) zo) (Ht rfl) ⟨(Ht rfl),trivial⟩) ?_)))))))))))))))))
   refine dq 70 3 rfl (bD bN (Ht rfl)) (dp 13 rfl (dV A_51 Z_51 (Ht rfl)) (dq 72 5 rfl (bD bN (Ht rfl)) (dp 15 rfl (dV A_51 Z_51 (Ht rfl)) (dS 73 6 74 7 rfl (aP cI K_45 (kW (x:=gm f 1 1) (y:=(gm s p p - gm f 0 0)) (L:=L) (M:=L + L + 1) zo) (Ht rfl) ⟨(Ht rfl),trivial⟩) (dS 71 4 75 8 rfl (aP lG K_46 (yB (x:=gm f 0 1 * gm f 1 0) (y:=gm f 1 1 * (gm s p p - gm f 0 0)) (L:=L + L + 1) (M:=L + (L + L + 1) + 1) zo) (Ht rfl) ⟨(Ht rfl),trivial⟩) (C.D_new (Ei:=[]) rfl rfl rfl bW (eG (Ts:=[Is (.bool false),Is (.slice none 0 0),Is (.bool false),Is (.slice none 0 0),Is (.slice none 0 0)]) O_51 rfl (fun V=>aW zd (aW zd (aW zd (aW zd (aW zd (aG))))))) ?_))))))
   refine fG bF rfl (by kernel_rfl) (zF (zF (aJ (aJ (C.F_new (fun B16=>aV (gJ Z_51 (Ht rfl) (Ht rfl) rfl (i:=2) rfl (aK rfl) rfl rfl (eZ (cK (gG (i:=2) (tt:=16) rfl rfl gE (bL [0,1] rfl (by decide) ?_)))))))))))
   have hDf:=Ct (p:=p) hfs hff hL
   haveI:=hDf
   haveI:aN (gm s p p - gm f 0 0) (L + L + 1):=inferInstance
   by_cases hD:oM s f p = Qi.zero
   ·refine cY (ro rfl (dV A_32 Z_32 (Ht rfl)) (ro rfl (dV A_3 Z_3 (Ht rfl)) (ro rfl (dV A_51 Z_51 (Ht rfl)) (ro rfl (cZ Tryz.call108 (Cl (z := z) (s := s) (p := p) (e := oM s f p) (L := L) (M := 5 * L + 5) hs hpl hz hfs hDf hL zo hD) ⟨(Ht rfl), (Ht rfl), (Ht rfl), trivial⟩) (rm rfl (ro rfl (dU (Ht rfl) rfl) (ro rfl (dU (Ht rfl) rfl) (ro rfl (dU (Ht rfl) rfl) (rn rfl (eG (Ts := [Is (.slice none 0 0)]) O_29 rfl (fun V => aW zd (aG))) fun B17 => ?_)))))))))
    refine rn rfl (eG (Ts:=[Is (.slice none 0 0)]) O_29 rfl (fun V=>aW zd (aG))) fun B18=>jL Z_29 (Ht rfl) (Ht rfl) (i:=2) rfl (aK rfl) rfl (jL Z_29 (Ht rfl) (Ht rfl) (i:=3) rfl (aK rfl) rfl (ra rfl (eZ (cK (cK ?_)))))
    have he:Bz z s fz f port = 6:=Uw hfx (.inr (.inr (by rw [← hp]; exact hD)))
    have hne:Bz z s fz f port ≠ 0:=by rw [he]; decide
    refine cY (rm rfl (ro rfl (fB (Ht rfl) cV) (eZ (nU (Ht rfl) (by rfl) ?_))))
    refine ts (ro rfl (aF.imp (iU ) iR) (rm rfl (gJ Z_32 (Ht rfl) (Ht rfl) rfl (i:=1) rfl (aK rfl) rfl rfl (ra rfl (eZ (bI rfl (fJ (fY A_32 Z_32 rfl (i:=1) rfl rfl) ?_) (fJ (eY rfl) ?_)))))))
    ·exact (fun v V h=>by rw [zB,Qw,iI,iI,if_neg hne,if_neg hne]; exact h)
    ·exact (aM he.symm)
   ·refine cY (ro rfl (dV A_32 Z_32 (Ht rfl)) (ro rfl (dV A_3 Z_3 (Ht rfl)) (ro rfl (dV A_51 Z_51 (Ht rfl)) (ro rfl (cZ Tryz.call108 (Bl (z := z) (s := s) (p := p) (e := oM s f p) (L := L) (M := 5 * L + 5) hs hpl hz hfs hDf hL zo hD) ⟨(Ht rfl), (Ht rfl), (Ht rfl), trivial⟩) (rm rfl (ro rfl (dU (Ht rfl) rfl) (ro rfl (dU (Ht rfl) rfl) (ro rfl (dU (Ht rfl) rfl) (rn rfl (eG (Ts := [Is (.slice none 0 0)]) O_29 rfl (fun V => aW zd (aG))) fun B17 => ?_)))))))))
    refine rn rfl (eG (Ts:=[Is (.slice none 0 0)]) O_29 rfl (fun V=>aW zd (aG))) fun B18=>jL Z_29 (Ht rfl) (Ht rfl) (i:=2) rfl (aK rfl) rfl (jL Z_29 (Ht rfl) (Ht rfl) (i:=3) rfl (aK rfl) rfl (ra rfl (eZ (cK (cK ?_)))))
    have he:Bz z s fz f port = 0:=Sa hfx (by rw [← hp]; exact fun k=>k.elim (fun k=>h3 (.inl k)) (fun k=>k.elim (fun k=>h3 (.inr k)) hD))
    refine gG (i:=2) (tt:=17) rfl rfl gY (gG (i:=3) (tt:=18) rfl rfl gY (cY (rm rfl (ro rfl (fB (Ht rfl) cV) (eZ (fN (Ht rfl) (by rfl) ?_))))))
    refine bL [0,1] rfl (by decide) (cU (ts (ro rfl (dV A_51 Z_51 (Ht rfl)) (ro rfl (bD bN (Ht rfl)) (ro rfl (dV A_51 Z_51 (Ht rfl)) (ro rfl (aP jT K_40 (xE (x:=gm s p p - gm f 0 0) (y:=oM s f p) (L:=L + L + 1) (M:=5 * L + 5) zo) (Ht rfl) ⟨(Ht rfl),trivial⟩) (rm rfl (ro rfl (dU (Ht rfl) rfl) (ro rfl (dU (Ht rfl) rfl) (rn rfl (eG (Ts:=[Is (.bool false),Is (.slice none 0 0),Is (.bool false),Is (.slice none 0 0),Is (.slice none 0 0)]) O_51 rfl (fun V=>aW zd (aW zd (aW zd (aW zd (aW zd (aG))))))) fun B19=>?_))))))))))
    refine gJ Z_51 (Ht rfl) (Ht rfl) rfl (i:=2) rfl (aK rfl) rfl rfl (ra rfl (eZ (cK (cK (gG (i:=2) (tt:=19) rfl rfl gE (cY (rm rfl (ro rfl (fB (Ht rfl) cV) (eZ (fN (Ht rfl) (by simp [hD]) ?_))))))))))
    refine bL [0,1] rfl (by decide) (cU (cK (fV (m:=7) (dp 3 rfl (dV A_32 Z_32 (Ht rfl)) (dp 14 rfl (dV A_3 Z_3 (Ht rfl)) (dp 5 rfl (eJ eO (Ht rfl) rfl) (dq 101 2 rfl (fQ A_29 Z_29 (Ht rfl) (i:=0) rfl rfl) (dq 102 3 rfl (dZ U_29 Z_51 (Ht rfl) (cJ 1) rfl (eQ (dY (d:=Qi.zero) zo))) (dq 103 4 rfl (dV A_51 Z_51 (Ht rfl)) (C.D_step (Ei:=[(14,_),(19,_),(17,_),(11,_),(12,_),(18,_),(3,_),(13,_)]) rfl rfl (bV (bK rfl rfl) (bV (bK rfl rfl) (bV (bK rfl rfl) (bV (bK rfl rfl) (bV (bK rfl rfl) (bV (bK rfl rfl) (bV (bK rfl rfl) (bV (bK rfl rfl) bW)))))))) (dX rfl (lW (γ:=Fin z.length × Fin z.length) (Ts:=fun x=>[NT .i64 x.1.1,NT .i64 x.2.1]) (U:=fun x=>aE (Fc s f p x.1.1 x.2.1)) Tryz.call112 (fun x=>Pc (z:=z) (s:=s) (f:=f) (p:=p) (L:=L) hs hpl x.1.2 x.2.2 hz hfs hff hL hLb hD) ⟨(Ht rfl),(Ht rfl),(Ht rfl),(Ht rfl),(Ht rfl),(Ht rfl),(Ht rfl),(Ht rfl),trivial⟩)) ?_))))))))))
    refine fG bF rfl (by kernel_rfl) (zF (aJ (aJ (aJ (aV (ro rfl (cZ Tryz.call110 (Rh (z:=z) (s:=s) (p:=p) (x:=gv fz 1) (F:=fun i j=>Fc s f p i j) hs hpl hz) ⟨(Ht rfl),(Ht rfl),(Ht rfl),(Ht rfl),trivial⟩) (gJ Z_32 (Ht rfl) (Ht rfl) rfl (i:=1) rfl (aK rfl) rfl rfl (ro rfl (cQ (cJ 0)) (eZ (bI rfl (fJ (fY A_32 Z_32 rfl (i:=1) rfl rfl) ?_) (fJ (eY rfl) ?_)))))))))))
    ·exact (fun v V h=>by rw [zB,Qw,iI,iI,if_pos he,if_pos he,← hp]; exact h)
    ·exact (aM he.symm)
theorem Gb {z fz:List Qi} {s f:List (List Qi)} {port:Int} {L:Nat} (hs:eR s z.length z.length) (hz1:1 ≤ z.length) (hz:z.length ≤ 1000) (hfs:bT s L) (hff:bT f L) (hfz:cC z L) (hfg:cC fz L) (hL:1 ≤ L) (hLb:L ≤ 10000) (hf:fz.length = 2 → eR f 2 2):bB Tryz.prog 28 [bR z s,aD .i64 port,bR fz f] (dN [bR (zB z s fz f port) (Qw z s fz f port),aD .i64 (Bz z s fz f port)]):=by
 by_cases h2:fz.length = 2
 ·exact Ni hs hz1 hz hfs hff hfz hfg hL hLb h2 (hf h2)
 ·exact Pa hs hz1 hz hfs hff hfz hfg hL hLb h2
end
section
open Go Go.RowKit
theorem a0H {z:List Qi} {p:Nat} {zl:List Rt} {zz:Qi} (hp:p < z.length) (h:gv z p = zz):pZ z (tM zl zz) ((p + 1:Nat):Int) 2 = 0:=by
 rw [pZ,if_neg (by rw [vE]; simp),if_neg (fun k=>k ⟨by omega,by omega⟩),if_pos]
 rw [show (((p + 1:Nat):Int) - 1).toNat = p by omega,h]; exact Hg zl zz
end
section
open Go Go.RowKit
structure uX (O:List Nat) (n:Nat):Prop where
 nd:O.Nodup
 all:∀ x,x ∈ O ↔ 1 ≤ x ∧ x ≤ n
theorem uX.len {O:List Nat} {n:Nat} (h:uX O n):O.length = n:=by
 refine Nat.le_antisymm ?_ ?_
 ·refine pig (n := n) (f := fun i => O.getD i 0 - 1) (fun x hx => ?_) (fun x y hx hy e => ?_)
  ·have := (h.all (O.getD x 0)).1 (by rw [show O.getD x 0 = O[x] by simp [List.getD, hx]]; exact List.getElem_mem hx)
   show O.getD x 0 - 1 < n; omega
  ·have a := (h.all (O.getD x 0)).1 (by rw [show O.getD x 0 = O[x] by simp [List.getD, hx]]; exact List.getElem_mem hx)
   have b:=(h.all (O.getD y 0)).1 (by rw [show O.getD y 0 = O[y] by simp [List.getD,hy]]; exact List.getElem_mem hy)
   have e2:O.getD x 0 = O.getD y 0:=by have:O.getD x 0 - 1 = O.getD y 0 - 1:=e; omega
   rw [show O.getD x 0 = O[x] by simp [List.getD,hx],show O.getD y 0 = O[y] by simp [List.getD,hy]] at e2
   exact (List.getElem_inj h.nd).1 e2
 ·have key : ∀ j, j < n → ∃ i, i < O.length ∧ O.getD i 0 = j + 1 := fun j hj => by
   obtain ⟨i,hi,e⟩:=List.getElem_of_mem ((h.all (j + 1)).2 ⟨by omega,by omega⟩)
   exact ⟨i,hi,by simp [List.getD,hi,e]⟩
  refine pig (n:=O.length) (f:=fun j=>if hj:j < n then Classical.choose (key j hj) else 0) (fun x hx=>by simp only [dif_pos hx]; exact (Classical.choose_spec (key x hx)).1) (fun x y hx hy e=>?_)
  simp only [dif_pos hx,dif_pos hy] at e
  have a:=(Classical.choose_spec (key x hx)).2
  have b:=(Classical.choose_spec (key y hy)).2
  rw [e] at a; omega
section
variable {O:List Nat} {n:Nat}
theorem uX.at (h:uX O n) {i:Nat} (hi:i < n):1 ≤ O.getD i 0 ∧ O.getD i 0 ≤ n:=by
 have hl:=h.len
 exact (h.all _).1 (by rw [show O.getD i 0 = O[i] by simp [List.getD,show i < O.length by omega]]; exact List.getElem_mem _)
theorem uX.inj (h:uX O n) {i j:Nat} (hi:i < n) (hj:j < n) (e:O.getD i 0 = O.getD j 0):i = j:=by
 have hl:=h.len
 rw [show O.getD i 0 = O[i] by simp [List.getD,show i < O.length by omega],show O.getD j 0 = O[j] by simp [List.getD,show j < O.length by omega]] at e
 exact (List.getElem_inj h.nd).1 e
theorem Rm (h : uX O n) : sU n (O.map fun (q : Nat) => (q : Int)) = 0 := iP fun i hi => by
 have hl:=h.len
 rw [List.length_map] at hi
 have e:(O.map fun (q:Nat)=>(q:Int)).getD i 0 = ((O.getD i 0:Nat):Int):=by simp [List.getD,hi]
 have hr:=h.at (i:=i) zo
 show dR n _ _ = 0
 rw [e,dR,if_neg (fun k=>k zo),if_neg]
 intro k
 obtain ⟨x,hx,e2⟩:=List.any_eq_true.1 k
 rw [← List.map_take] at hx
 obtain ⟨y,hy,rfl⟩:=List.mem_map.1 hx
 obtain ⟨j,hj,e3⟩:=List.mem_take_iff_getElem.1 hy
 have e4:O.getD i 0 = y:=by have:=of_decide_eq_true e2; omega
 have:=h.inj (i:=i) (j:=j) zo zo (by rw [e4,← e3]; simp [List.getD,show j < O.length by omega])
 omega
end
end
section
open Go Go.RowKit
theorem Ta {z z':List Qi} {s s':List (List Qi)} {e e':Int} {L:Nat} (hz:cC z L) (hz2:cC z' L) (hs:bT s L) (hs2:bT s' L) (hL:1 ≤ L) (hK:L ≤ 8796093022208) (hsh:eR s z.length z.length) (hsh2:eR s' z'.length z'.length) (hl:z.length ≤ 1000) (hl2:z'.length ≤ 1000):bB Tryz.prog 29 [bR z s,aD .i64 e,bR z' s',aD .i64 e'] (aC (decide (e = 0) && decide (e' = 0) && Kx z z' s s')):=by
 refine bB.intro Tryz.func29 rfl Tryz.ntmps29 rfl (fun cx=>(ts (rn rfl (fU (Ht rfl)) fun B4=>(rn rfl (fU (Ht rfl)) fun B6=>(ro rfl (cQ cV) (eZ (ts (rm rfl (ro rfl (iW (Ht rfl) cV) (rm rfl (fX rfl rfl (eU rfl rfl (Ht rfl) (fun h=>cX (Ht rfl))) (fX rfl rfl (eU rfl rfl (Ht rfl) (fun h=>iW (fW rfl h) cV)) (ro rfl (eA (Ht rfl) (fun h=>(fW rfl h))) (rm rfl (fX rfl rfl (eU rfl rfl (Ht rfl) (fun h=>eW A_32 Z_32 (Ht rfl) (i:=0) rfl rfl rfl)) (fX rfl rfl (eU rfl rfl (Ht rfl) (fun h=>eW A_32 Z_32 (Ht rfl) (i:=1) rfl rfl rfl)) ?_))))))))))))))))
 refine fX rfl rfl (eU rfl rfl (Ht rfl) (fun h=>cZ Tryz.call113 (Iu (L:=L) hz hz2 hs hs2 hL hK hsh hsh2 hl hl2) ⟨(fW rfl h),(fW rfl h),trivial⟩)) (ro rfl (eA (Ht rfl) (fun h=>(fW rfl h))) (ra rfl (eZ ?_)))
 exact fK rfl (eY rfl)
end
section
open Go Go.RowKit
theorem a3m {x : Nat} (h : x < 20) : IntKind.wrap .i64 ((BitVec.ofInt (IntKind.bits .i64) (x : Int) ^^^ BitVec.ofInt (IntKind.bits .i64) ((1 : Nat) : Int)).toNat : Nat) = ((qT x : Nat) : Int) :=
 (by decide +kernel:∀ x:Nat,x < 20 → IntKind.wrap .i64 ((BitVec.ofInt (IntKind.bits .i64) (x:Int) ^^^ BitVec.ofInt (IntKind.bits .i64) ((1:Nat):Int)).toNat:Nat) = ((qT x:Nat):Int)) x h
theorem Yr {z:List Qi} {S:List (List Qi)} {js:List (Int × Int)} {x:Nat} (hS:eR S z.length z.length) (hd:Av z js = 0) (hx:x < 2 * js.length) (hm:2 * js.length ≤ 18) (hz:z.length ≤ 1000):bB Tryz.prog 118 [NT .i64 x,PT (bR z S),PT (hJ ((Am js).map Nat.succ))] (bA (S.getD (gq (iZ js) (qT x)) [])):=by
 have hpx:qT x < 2 * js.length:=Iz hx
 have hgq:=(Gh hd).lt (qT x) hpx
 have hSl:=hS.1
 have hJl:=Fb js
 have hat:fC (Am js) (qT x) = gq (iZ js) (qT x):=Jl hpx
 refine bB.intro Tryz.func118 rfl Tryz.ntmps118 rfl (fun cx=>(ts (ro rfl (cQ cV) (eZ (cK (fV (m:=8) (dp 1 rfl (jK dI (Ht rfl) rfl) (dq 5 0 rfl (dV A_30 Z_30 (Ht rfl)) (dp 2 rfl (dV A_72 Z_72 (Ht rfl)) (dp 0 rfl (cX (Ht rfl)) (dq 8 3 rfl (Kv (Ht rfl) (cJ 1) (a3m zo)) (dS 7 2 9 4 rfl (dZ U_72 Z_3 (Ht rfl) (Ht rfl) rfl (eQ (nM zo))) (dq 10 5 rfl (dV A_3 Z_3 (Ht rfl)) (dq 11 6 rfl (aF.nat (dG (Ht rfl) (cJ 1) zo z6) (show fC (Am js) (qT x) + 1 - 1 = gq (iZ js) (qT x) by omega)) ?_))))))))))))))
 refine fG bF rfl (by kernel_rfl) (zF (zF (aV (ro rfl (dZ U_30 Z_29 (Ht rfl) (Ht rfl) rfl (eQ (dY (d:=[]) zo))) (ro rfl (dV A_29 Z_29 (Ht rfl)) (ra rfl (eZ ?_)))))))
 exact fK rfl (eY rfl)
theorem a0N {x y:Nat}:bB Tryz.prog 120 [NT .i64 x,NT .i64 y] (aE (if x = y then Qi.ofInt 1 else Qi.ofInt 0)):=by
 refine bB.intro Tryz.func120 rfl Tryz.ntmps120 rfl (fun cx=>(ts (rn rfl (eG (Ts:=[Is (.bool false),Is (.slice none 0 0),Is (.bool false),Is (.slice none 0 0),Is (.slice none 0 0)]) O_51 rfl (fun V=>aW zd (aW zd (aW zd (aW zd (aW zd (aG))))))) fun B4=>(eZ (cK (ts (rm rfl (rm rfl (ro rfl (cB (Ht rfl) (Ht rfl)) (eZ (dQ (Ht rfl) (fun hb=>?_) (fun hb=>?_))))))))))))
 ·have h2 : x = y := by simpa using hb
  refine ts (ro rfl (cZ K_109 (sM (n:=1) (by decide) (by decide)) ⟨(cJ 1),trivial⟩) (gJ Z_51 (Ht rfl) (Ht rfl) rfl (i:=0) rfl (aK rfl) rfl rfl (eZ (fK rfl (fJ (fY A_51 Z_51 rfl (i:=0) rfl rfl) ?_)))))
  exact (gP (if_pos h2).symm)
 ·have h2 : ¬ x = y := by simpa using hb
  refine cU (ts (ro rfl (cZ K_109 (sM (n:=0) (by decide) (by decide)) ⟨(cJ 0),trivial⟩) (gJ Z_51 (Ht rfl) (Ht rfl) rfl (i:=0) rfl (aK rfl) rfl rfl (eZ (fK rfl (fJ (fY A_51 Z_51 rfl (i:=0) rfl rfl) ?_))))))
  exact (gP (if_neg h2).symm)
theorem We {z:List Qi} {S:List (List Qi)} {js:List (Int × Int)} {x y L:Nat} (hS:eR S z.length z.length) (hf:bT S L) (hL:1 ≤ L) (hLb:L ≤ 1000) (hd:Av z js = 0) (hx:x < 2 * js.length) (hy:y < 2 * js.length) (hm:2 * js.length ≤ 18) (hz:z.length ≤ 1000):bB Tryz.prog 119 [NT .i64 x,NT .i64 y,PT (xJ Tryz.prog (Fin (2 * js.length)) (fun x=>[NT .i64 x.1]) (fun x=>bA (S.getD (gq (iZ js) (qT x.1)) []))),PT (hJ ((Am js).map Nat.succ))] (aE ((if x = y then Qi.ofInt 1 else Qi.ofInt 0) - gm S (gq (iZ js) (qT x)) (gq (iZ js) y))):=by
 have hpx:qT x < 2 * js.length:=Iz hx
 have hgx:=(Gh hd).lt (qT x) hpx
 have hgy:=(Gh hd).lt y hy
 have hSl:=hS.1
 have hSr:=hS.row hgx
 have hJl:=Fb js
 have hat:fC (Am js) y = gq (iZ js) y:=Jl hy
 haveI g1:aN (gm S (gq (iZ js) (qT x)) (gq (iZ js) y)) L:=hf.get hL _ _
 haveI g2 : aN (if x = y then Qi.ofInt 1 else Qi.ofInt 0) 1 := by
  split
  ·exact nT
  ·exact (aN.zero (Nat.le_refl 1):aN Qi.zero 1)
 refine bB.intro Tryz.func119 rfl Tryz.ntmps119 rfl (fun cx=>(ts (rn rfl (eG (Ts:=[Is (.bool false),Is (.slice none 0 0),Is (.bool false),Is (.slice none 0 0),Is (.slice none 0 0)]) O_51 rfl (fun V=>aW zd (aW zd (aW zd (aW zd (aW zd (aG))))))) fun B6=>(eZ (cK (fV (m:=14) (dp 0 rfl (cX (Ht rfl)) (dp 1 rfl (cX (Ht rfl)) (dS 7 0 8 1 rfl (cZ Tryz.call120 (a0N (x:=x) (y:=y)) ⟨(Ht rfl),(Ht rfl),trivial⟩) (dq 9 2 rfl (bD bN (Ht rfl)) ?_))))))))))
 refine dp 2 rfl (dV Tryz.isAgg175 Tryz.sizeOf175 (Ht rfl)) (dp 0 rfl (cX (Ht rfl)) (dS 11 4 12 5 rfl (oC (Ts:=fun x:Fin (2 * js.length)=>[NT .i64 x.1]) ⟨x,hx⟩ (Ht rfl) ⟨(Ht rfl),trivial⟩) (dp 3 rfl (dV A_72 Z_72 (Ht rfl)) (dp 1 rfl (cX (Ht rfl)) (dS 14 7 15 8 rfl (dZ U_72 Z_3 (Ht rfl) (Ht rfl) rfl (eQ (nM zo))) (dq 16 9 rfl (dV A_3 Z_3 (Ht rfl)) (dq 17 10 rfl (aF.nat (dG (Ht rfl) (cJ 1) zo z6) (show fC (Am js) y + 1 - 1 = gq (iZ js) y by omega)) ?_)))))))
 refine dS 13 6 18 11 rfl (dZ U_29 Z_51 (Ht rfl) (Ht rfl) rfl (eQ (dY (d:=Qi.zero) (show gq (iZ js) y < (S.getD (gq (iZ js) (qT x)) []).length by omega)))) (dq 19 12 rfl (dV A_51 Z_51 (Ht rfl)) (fG bF rfl (by kernel_rfl) (zF (zF (zF (aJ (aJ (aV (ro rfl (aP jE K_44 (uO (x:=if x = y then Qi.ofInt 1 else Qi.ofInt 0) (y:=gm S (gq (iZ js) (qT x)) (gq (iZ js) y)) (L:=1) (M:=L) zo) (Ht rfl) ⟨(Ht rfl),trivial⟩) ?_)))))))))
 refine gJ Z_51 (Ht rfl) (Ht rfl) rfl (i:=0) rfl (aK rfl) rfl rfl (eZ ?_)
 exact fK rfl (fY A_51 Z_51 rfl (i:=0) rfl rfl)
theorem a21 {z:List Qi} {S:List (List Qi)} {js:List (Int × Int)} {L:Nat} (hS:eR S z.length z.length) (hf:bT S L) (hfz:cC z L) (hL:1 ≤ L) (hLb:L ≤ 1000) (hz:z.length ≤ 18) (hj:js.length ≤ 100) (hg:∀ k,2 * k < z.length → 6 * dD (L + 2) (2 * k) + 4 ≤ 17592186044415) (hx:∀ k,2 * k < z.length → pE (dD (L + 2) (2 * k)) (2 * k + 1) ≤ 100000000000):bB Tryz.prog 31 [bR z S,JsT js] (dN [bR (Db z S js) (Lm z S js),aD .i64 (Fe z S js)]):=by
 have hll:=qE js
 have hJl:=Fb js
 have hSl:=hS.1
 refine bB.intro Tryz.func31 rfl Tryz.ntmps31 rfl (fun cx=>(ts (rn rfl (fU (Ht rfl)) fun B2=>(rn rfl (eG (Ts:=[Is (.slice none 0 0),Is (.slice none 0 0)]) O_32 rfl (fun V=>aW zd (aW zd (aG)))) fun B4=>(ro rfl (cQ (cJ 0)) (eZ (ts (ro rfl (eW A_32 Z_32 (Ht rfl) (i:=0) rfl rfl rfl) (rm rfl (ro rfl (cZ Tryz.call117 (Re (z:=z) (S:=S) (js:=js) (L:=L) hfz hL zo zo hj) ⟨(Ht rfl),(Ht rfl),trivial⟩) (rm rfl (ro rfl (dU (Ht rfl) rfl) ?_))))))))))))
 refine ro rfl (dU (Ht rfl) rfl) (rn rfl (eG (Ts:=[Is (.slice none 0 0)]) Tryz.zeroValue72 rfl (fun V=>aW zd (aG))) fun B6=>(jL Z_72 (Ht rfl) (Ht rfl) (i:=2) rfl (aK rfl) rfl (ra rfl (eZ (cK (ts (rm rfl (ro rfl (fB (Ht rfl) cV) (eZ (dQ (Ht rfl) (fun hc=>?_) (fun hc=>?_)))))))))))
 ·have h3 : Ak z js ≠ 0 := by simpa using hc
  have he:Fe z S js = Ak z js:=a2N h3
  refine ts (ro rfl (aF.imp (iU ) iR) (rm rfl (gJ Z_32 (Ht rfl) (Ht rfl) rfl (i:=1) rfl (aK rfl) rfl rfl (ra rfl (eZ (bI rfl (fJ (fY A_32 Z_32 rfl (i:=1) rfl rfl) ?_) (fJ (eY rfl) ?_)))))))
  ·exact (fun v V h=>by rw [Db,Lm,iI,iI,he,if_neg h3,if_neg h3]; exact h)
  ·exact (aM he.symm)
 ·have h3 : Ak z js = 0 := by simpa using hc
  obtain ⟨hd,hne⟩:=Dq h3
  have hok:jeL z js = nP js:=by rw [jeL,iI,if_pos h3]
  rw [hok]
  refine cU (cK (ts (ro rfl (fQ A_72 Z_72 (Ht rfl) (i:=2) rfl rfl) (ro rfl (dK U_72 (Ht rfl) (by rw [List.length_map,hll])) ?_))))
  refine ro rfl (cB (Ht rfl) (cJ 0)) (eZ (dQ (Ht rfl) (fun hc2=>?_) (fun hc2=>?_)))
  ·have h4 : js.length = 0 := by simp only [decide_eq_true_eq] at hc2; omega
   have he:Fe z S js = 0:=Yu h3 h4
   refine ts (ro rfl (eW A_32 Z_32 (Ht rfl) (i:=0) rfl rfl rfl) (gJ Z_32 (Ht rfl) (Ht rfl) rfl (i:=1) rfl (aK rfl) rfl rfl (ro rfl (cQ (cJ 0)) (eZ (bI rfl (fJ (fY A_32 Z_32 rfl (i:=1) rfl rfl) ?_) (fJ (eY rfl) ?_))))))
   ·exact (fun v V h=>by rw [Db,Lm,iI,iI,he,if_pos h4,if_pos h4]; exact h)
   ·exact (aM he.symm)
  ·have h4 : js.length ≠ 0 := by simp only [decide_eq_false_iff_not] at hc2; omega
   have hj:=Gh hd
   have hjl:=a2G hd
   have hm1:2 * js.length < z.length:=by omega
   obtain ⟨m,hm⟩:∃ m,m = 2 * js.length:=⟨_,rfl⟩
   have hg2:=hg js.length hm1
   have hx2:=hx js.length hm1
   have hxn:=Nat.le_trans (uC (dD (L + 2) (2 * js.length)) (2 * js.length)) hx2
   have hlf:=Do (z:=z) (s:=S) (G:=Am js) zo zo
   rw [Tw] at hlf
   have hfl:(dT z js).length ≤ z.length:=yA _ _
   have hfx:∀ x,x ∈ dT z js → x < z.length:=fun x h=>Co h
   rw [Qu hd]
   refine cU (cK (gG (i:=0) (tt:=2) rfl rfl gE (gG (i:=2) (tt:=6) rfl rfl gY (cY (ro rfl (lW (γ:=Fin (2 * js.length)) (Ts:=fun x=>[NT .i64 x.1]) (U:=fun x=>bA (S.getD (gq (iZ js) (qT x.1)) [])) Tryz.call118 (fun x=>Yr hS hd x.2 zo zo) ⟨(Ht rfl),(Ht rfl),trivial⟩) (rn rfl (eG (Ts:=[Is (.nilFunc)]) Tryz.zeroValue175 rfl (fun V=>aW zd (aG))) fun B8=>(jL Tryz.sizeOf175 (Ht rfl) (Ht rfl) (i:=3) rfl (aK rfl) rfl (eZ (cK (gG (i:=3) (tt:=8) rfl rfl gY ?_))))))))))
   refine cY (ro rfl (dV A_72 Z_72 (Ht rfl)) (ro rfl (dK U_72 (Ht rfl) (by rw [List.length_map,List.length_map,hJl])) ?_))
   refine ro rfl (lW (γ:=Fin (2 * js.length) × Fin (2 * js.length)) (Ts:=fun x=>[NT .i64 x.1.1,NT .i64 x.2.1]) (U:=fun x=>aE ((if x.1.1 = x.2.1 then Qi.ofInt 1 else Qi.ofInt 0) - gm S (gq (iZ js) (qT x.1.1)) (gq (iZ js) x.2.1))) Tryz.call119 (fun x=>We hS hf hL hLb hd x.1.2 x.2.2 zo zo) ⟨(Ht rfl),(Ht rfl),trivial⟩) (ro rfl (cZ K_114 (Ad (n:=2 * js.length) (f:=fun x y=>(if x = y then Qi.ofInt 1 else Qi.ofInt 0) - gm S (gq (iZ js) (qT x)) (gq (iZ js) y)) zo) ⟨(Ht rfl),(Ht rfl),trivial⟩) (ra rfl (eZ (ts (ro rfl (dV A_32 Z_32 (Ht rfl)) ?_)))))
   refine ro rfl (dV A_72 Z_72 (Ht rfl)) (ro rfl (cZ Tryz.call121 hlf ⟨(Ht rfl),(Ht rfl),trivial⟩) (ra rfl (eZ (ts (ro rfl (dV A_32 Z_32 (Ht rfl)) (rm rfl (nN Tryz.call122 (Ee (Q:=dT z js) (m:=(dT z js).length) hS hfx rfl zo zo) ⟨(Ht rfl),(Ht rfl),trivial⟩ rfl (fun B47 _=>(rn rfl (eG (Ts:=[Is (.slice none 0 0),Is (.slice none 0 0)]) O_32 rfl (fun V=>aW zd (aW zd (aG)))) fun B11=>(gJ Z_32 (Ht rfl) (Ht rfl) rfl (i:=5) rfl (aK rfl) rfl rfl ?_))))))))))
   refine eZ (cK (ts (rm rfl (ro rfl (dK U_72 (Ht rfl) (by rw [List.length_map,List.length_map])) ?_))))
   refine ro rfl (cX (cJ 0)) (eZ (eK (bL [1,4,5] rfl (by decide) ?_)))
   refine cM (fun (j : Nat) => j ≤ (dT z js).length ∧ ∀ y, y < j → mB (sT S (iZ js) (2 * js.length)) (yM S (iZ js) (2 * js.length) ((dT z js).getD y 0)) (2 * js.length) = 0) (fun (j : Nat) => (dT z js).length - j) (fun (j : Nat) => [(2, PT (bR z S)), (4, bO B4 0), (6, PT (hJ ((Am js).map Nat.succ))), (8, PT (xJ Tryz.prog (Fin (2 * js.length)) (fun x => [NT .i64 x.1]) (fun x => bA (S.getD (gq (iZ js) (qT x.1)) [])))), (9, dM (sT S (iZ js) (2 * js.length))), (10, hJ ((dT z js).map Nat.succ)), (11, bO B11 0), (48, hJ ((dT z js).map Nat.succ)), (49, NT .i64 ((dT z js).length)), (50, NT .i64 j)]) (fun (j : Nat) => [box B4 32 [Is (.slice none 0 0), Is (.slice none 0 0)], nJ B47 29 51 5 (dO aE (tab ((dT z js).length) fun i => (nC (fun y => Bu S (iZ js) (2 * js.length) (fC (dT z js) i) (fC (dT z js) y)) (fun y => gm S (fC (dT z js) i) (fC (dT z js) y)) (dT z js).length j))), box B11 32 [bA (nO z (dT z js)), Is (.slice (some ⟨B47, 0, none⟩) ((dT z js).length) ((dT z js).length))]]) 0 ⟨Nat.zero_le _, fun y h => by omega⟩
    (zS rfl) (aU (aB rfl) (aU (fA (congrArg (dO aE) (cP fun i _=>sG _ _ _))) (aU (aB rfl) aY))) (fun j ⟨hjq,h0⟩=>?_)
   refine ts (ro rfl (gV (Ht rfl) (Ht rfl)) (eZ (cK (dQ (Ht rfl) (fun hd1=>?_) (fun hd1=>?_)))))
   ·have hjn : j < (dT z js).length := by simp only [decide_eq_true_eq] at hd1; omega
    have hFj:fC (dT z js) j < z.length:=Qj hjn
    have hbf:cC (yM S (iZ js) (2 * js.length) ((dT z js).getD j 0)) L:=Yp hf hL
    refine cU (cK (eK (ts (rm rfl (ro rfl (dZ U_72 Z_3 (Ht rfl) (Ht rfl) rfl (eQ (nM hjn))) (ro rfl (dV A_3 Z_3 (Ht rfl)) (ra rfl (ra rfl (eZ (ts (ro rfl (dV A_72 Z_72 (Ht rfl)) (ro rfl (dK U_72 (Ht rfl) (by rw [List.length_map,List.length_map,hJl])) ?_))))))))))))
    refine rn rfl (gR (T:=aE Qi.zero) (i:=Tryz.t51) kD iS rfl rfl (Ht rfl) rfl gS (El.ag rfl) (by show 88 * _ ≤ _; omega) zo) fun B57=>ra rfl (eZ (cK (ts (rm rfl (ro rfl (nS U_29 (Ht rfl) (i:=3) rfl (show ((List.replicate (2 * js.length) (aE Qi.zero)).length:Int) = ((2 * js.length:Nat):Int) from by simp)) (ro rfl (cX (cJ 0)) (eZ (eK ?_))))))))
    refine cM (fun (x : Nat) => x ≤ 2 * js.length) (fun (x : Nat) => 2 * js.length - x) (fun (x : Nat) => [(2, PT (bR z S)), (4, bO B4 0), (6, PT (hJ ((Am js).map Nat.succ))), (8, PT (xJ Tryz.prog (Fin (2 * js.length)) (fun x => [NT .i64 x.1]) (fun x => bA (S.getD (gq (iZ js) (qT x.1)) [])))), (9, dM (sT S (iZ js) (2 * js.length))), (10, hJ ((dT z js).map Nat.succ)), (11, bO B11 0), (12, NT .i64 j), (13, NT .i64 (fC (dT z js) j + 1)), (14, Is B57), (48, hJ ((dT z js).map Nat.succ)), (49, NT .i64 ((dT z js).length)), (50, NT .i64 j), (59, NT .i64 (2 * js.length)), (60, NT .i64 x)]) (fun (x : Nat) => [box B4 32 [Is (.slice none 0 0), Is (.slice none 0 0)], nJ B47 29 51 5 (dO aE (tab ((dT z js).length) fun i => (nC (fun y => Bu S (iZ js) (2 * js.length) (fC (dT z js) i) (fC (dT z js) y)) (fun y => gm S (fC (dT z js) i) (fC (dT z js) y)) (dT z js).length j))), box B11 32 [bA (nO z (dT z js)), Is (.slice (some ⟨B47, 0, none⟩) ((dT z js).length) ((dT z js).length))], bM 51 5 B57 ((jR (fun x => gm S (gq (iZ js) (qT x)) (fC (dT z js) j)) Qi.zero (2 * js.length) x).map aE)]) 0 (Nat.zero_le _)
     (zS rfl) (aU (aB rfl) (aU (fun _ _ _ h=>h) (aU (aB rfl) (aU (aR (by rw [← iH]; exact nG aE _)) aY)))) (fun x hx1=>?_)
    refine ts (ro rfl (gV (Ht rfl) (Ht rfl)) (eZ (cK (dQ (Ht rfl) (fun hd2=>?_) (fun hd2=>?_)))))
    ·have hxm : x < 2 * js.length := by simp only [decide_eq_true_eq] at hd2; omega
     have hgx:=hj.lt (qT x) (Iz hxm)
     have hSr:=hS.row hgx
     refine cU (cK (eK (ts (rm rfl (ra rfl (eZ (cY (rm rfl (rm rfl (ro rfl (dV Tryz.isAgg175 Tryz.sizeOf175 (Ht rfl)) (rm rfl (ro rfl (oC (Ts:=fun x:Fin (2 * js.length)=>[NT .i64 x.1]) ⟨x,hxm⟩ (Ht rfl) ⟨(Ht rfl),trivial⟩) (rm rfl (ro rfl (aF.nat (dG (Ht rfl) (cJ 1) zo z6) (show fC (dT z js) j + 1 - 1 = fC (dT z js) j by omega)) (ro rfl (dZ U_29 Z_51 (Ht rfl) (Ht rfl) rfl (eQ (dY (d:=Qi.zero) (show fC (dT z js) j < (S.getD (gq (iZ js) (qT x)) []).length by omega)))) ?_)))))))))))))))
     refine ro rfl (dV A_51 Z_51 (Ht rfl)) (ro rfl (dE U_29 Z_51 (Ht rfl) (Ht rfl) rfl (i:=3) rfl (by rw [List.length_map,cO]; omega) rfl) ?_)
     refine kS Z_51 (Ht rfl) (Ht rfl) (El.ag rfl) (i:=3) rfl rfl (by rw [List.length_map,cO]; omega) rfl ?_
     refine eZ (bH (cY (ro rfl (dW (Ht rfl) (cJ 1) z6) (rm rfl (eZ (gQ (x + 1) hxm zo (zS rfl) (aU (aB rfl) (aU (fun _ _ _ h=>h) (aU (aB rfl) (aU (aR (by rw [fM]; exact congrArg _ (jI (f:=(fun x=>gm S (gq (iZ js) (qT x)) (fC (dT z js) j)))))) aY))))))))))
    ·have hxm : x = 2 * js.length := by simp only [decide_eq_false_iff_not] at hd2; omega
     rw [hxm,jJ]
     refine gK rfl (gG (i:=3) (tt:=14) rfl rfl fP (ts (rm rfl (rm rfl (ro rfl (cZ Tryz.call96 (Mj (M:=sT S (iZ js) (2 * js.length)) (b:=yM S (iZ js) (2 * js.length) ((dT z js).getD j 0)) (n:=2 * js.length) (L:=L + 2) (xV _ _ _) (aO _ _) (Lv hf hL) (hbf.le zo) zo zo zo hg2 zo) ⟨(Ht rfl),(Ht rfl),trivial⟩) (rm rfl (ro rfl (dU (Ht rfl) rfl) (ro rfl (dU (Ht rfl) rfl) (ra rfl (ra rfl (eZ (cK (ts (rm rfl (ro rfl (fB (Ht rfl) cV) (eZ (dQ (Ht rfl) (fun hc3=>?_) (fun hc3=>?_))))))))))))))))))
     ·have h5 : mB (sT S (iZ js) (2 * js.length)) (yM S (iZ js) (2 * js.length) ((dT z js).getD j 0)) (2 * js.length) ≠ 0 := by simpa using hc3
      have h6:Oy z S js ≠ 0:=fun k=>h5 (jD k j hjn)
      have he:Fe z S js = 6:=(Ka h3 h4).trans (if_neg h6)
      refine ts (ro rfl (aF.imp (iU ) iR) (gJ Z_32 (Ht rfl) (Ht rfl) rfl (i:=0) rfl (aK rfl) rfl rfl (ro rfl (cQ (cJ 6)) (eZ (bI rfl (fJ (fY A_32 Z_32 rfl (i:=0) rfl rfl) ?_) (fJ (eY rfl) ?_))))))
      ·exact (fun v V h=>by rw [Db,Lm,iI,iI,he]; exact h)
      ·exact (aM he.symm)
     ·have h5 : mB (sT S (iZ js) (2 * js.length)) (yM S (iZ js) (2 * js.length) ((dT z js).getD j 0)) (2 * js.length) = 0 := by simpa using hc3
      have hxf:=Yi (xV S (iZ js) (2 * js.length)) (Lv hf hL) (hbf.le zo) zo h5
      have hxl:(mA (sT S (iZ js) (2 * js.length)) (yM S (iZ js) (2 * js.length) ((dT z js).getD j 0)) (2 * js.length)).length = 2 * js.length:=Qt _ _ _
      have hGe:L + 2 ≤ pE (dD (L + 2) (2 * js.length)) (2 * js.length):=Nat.le_trans (sL (L + 2) (2 * js.length)) (Ep _ _)
      obtain ⟨G,hG⟩:∃ G,G = pE (dD (L + 2) (2 * js.length)) (2 * js.length):=⟨_,rfl⟩
      rw [← hG] at hxf hGe hxn
      have hmG:2 * js.length * (2 * G + 2) ≤ 18 * (2 * G + 2):=Nat.mul_le_mul_right _ zo
      have hokx:iI (mB (sT S (iZ js) (2 * js.length)) (yM S (iZ js) (2 * js.length) ((dT z js).getD j 0)) (2 * js.length)) (mA (sT S (iZ js) (2 * js.length)) (yM S (iZ js) (2 * js.length) ((dT z js).getD j 0)) (2 * js.length)) = mA (sT S (iZ js) (2 * js.length)) (yM S (iZ js) (2 * js.length) ((dT z js).getD j 0)) (2 * js.length):=by rw [iI,if_pos h5]
      rw [hokx]
      refine cU (ts (rm rfl (ro rfl (dK U_72 (Ht rfl) (by rw [List.length_map,List.length_map])) ?_)))
      refine ro rfl (cX (cJ 0)) (eZ (eK (bL [0,1,2] rfl (by decide) ?_)))
      refine cM (fun (i : Nat) => i ≤ (dT z js).length) (fun (i : Nat) => (dT z js).length - i) (fun (i : Nat) => [(2, PT (bR z S)), (4, bO B4 0), (6, PT (hJ ((Am js).map Nat.succ))), (8, PT (xJ Tryz.prog (Fin (2 * js.length)) (fun x => [NT .i64 x.1]) (fun x => bA (S.getD (gq (iZ js) (qT x.1)) [])))), (9, dM (sT S (iZ js) (2 * js.length))), (10, hJ ((dT z js).map Nat.succ)), (11, bO B11 0), (12, NT .i64 j), (16, bA (mA (sT S (iZ js) (2 * js.length)) (yM S (iZ js) (2 * js.length) ((dT z js).getD j 0)) (2 * js.length))), (48, hJ ((dT z js).map Nat.succ)), (49, NT .i64 ((dT z js).length)), (50, NT .i64 j), (83, hJ ((dT z js).map Nat.succ)), (84, NT .i64 ((dT z js).length)), (85, NT .i64 i)]) (fun (i : Nat) => [box B4 32 [Is (.slice none 0 0), Is (.slice none 0 0)], nJ B47 29 51 5 (dO aE (nC (fun i => (nC (fun y => Bu S (iZ js) (2 * js.length) (fC (dT z js) i) (fC (dT z js) y)) (fun y => gm S (fC (dT z js) i) (fC (dT z js) y)) (dT z js).length (j + 1))) (fun i => (nC (fun y => Bu S (iZ js) (2 * js.length) (fC (dT z js) i) (fC (dT z js) y)) (fun y => gm S (fC (dT z js) i) (fC (dT z js) y)) (dT z js).length j)) ((dT z js).length) i)), box B11 32 [bA (nO z (dT z js)), Is (.slice (some ⟨B47, 0, none⟩) ((dT z js).length) ((dT z js).length))]]) 0 (Nat.zero_le _)
       (zS rfl) (aU (aB rfl) (aU (fA (congrArg (dO aE) (sG _ _ _))) (aU (aB rfl) aY))) (fun i hi=>?_)
      refine ts (ro rfl (gV (Ht rfl) (Ht rfl)) (eZ (cK (dQ (Ht rfl) (fun hd4=>?_) (fun hd4=>?_)))))
      ·have hin : i < (dT z js).length := by simp only [decide_eq_true_eq] at hd4; omega
       have hFi:fC (dT z js) i < z.length:=Qj hin
       have hSr:=hS.row hFi
       refine cU (cK (eK (ts (rm rfl (ro rfl (dZ U_72 Z_3 (Ht rfl) (Ht rfl) rfl (eQ (nM hin))) (ro rfl (dV A_3 Z_3 (Ht rfl)) (ra rfl (ra rfl (eZ (ts (ro rfl (dV A_72 Z_72 (Ht rfl)) (ro rfl (dK U_72 (Ht rfl) (by rw [List.length_map,List.length_map,hJl])) ?_))))))))))))
       refine rn rfl (gR (T:=aE Qi.zero) (i:=Tryz.t51) kD iS rfl rfl (Ht rfl) rfl gS (El.ag rfl) (by show 88 * _ ≤ _; omega) zo) fun B92=>ra rfl (eZ (cK (ts (ro rfl (dV A_72 Z_72 (Ht rfl)) (ro rfl (dK U_72 (Ht rfl) (by rw [List.length_map,List.length_map,hJl])) ?_)))))
       refine ro rfl (cX (cJ 0)) (eZ (eK ?_))
       refine cM (fun (x : Nat) => x ≤ 2 * js.length) (fun (x : Nat) => 2 * js.length - x) (fun (x : Nat) => [(2, PT (bR z S)), (4, bO B4 0), (6, PT (hJ ((Am js).map Nat.succ))), (8, PT (xJ Tryz.prog (Fin (2 * js.length)) (fun x => [NT .i64 x.1]) (fun x => bA (S.getD (gq (iZ js) (qT x.1)) [])))), (9, dM (sT S (iZ js) (2 * js.length))), (10, hJ ((dT z js).map Nat.succ)), (11, bO B11 0), (12, NT .i64 j), (16, bA (mA (sT S (iZ js) (2 * js.length)) (yM S (iZ js) (2 * js.length) ((dT z js).getD j 0)) (2 * js.length))), (18, NT .i64 i), (19, NT .i64 (fC (dT z js) i + 1)), (20, Is B92), (48, hJ ((dT z js).map Nat.succ)), (49, NT .i64 ((dT z js).length)), (50, NT .i64 j), (83, hJ ((dT z js).map Nat.succ)), (84, NT .i64 ((dT z js).length)), (85, NT .i64 i), (93, hJ ((Am js).map Nat.succ)), (94, NT .i64 (2 * js.length)), (95, NT .i64 x)]) (fun (x : Nat) => [box B4 32 [Is (.slice none 0 0), Is (.slice none 0 0)], nJ B47 29 51 5 (dO aE (nC (fun i => (nC (fun y => Bu S (iZ js) (2 * js.length) (fC (dT z js) i) (fC (dT z js) y)) (fun y => gm S (fC (dT z js) i) (fC (dT z js) y)) (dT z js).length (j + 1))) (fun i => (nC (fun y => Bu S (iZ js) (2 * js.length) (fC (dT z js) i) (fC (dT z js) y)) (fun y => gm S (fC (dT z js) i) (fC (dT z js) y)) (dT z js).length j)) ((dT z js).length) i)), box B11 32 [bA (nO z (dT z js)), Is (.slice (some ⟨B47, 0, none⟩) ((dT z js).length) ((dT z js).length))], bM 51 5 B92 ((jR (fun x => gm S (fC (dT z js) i) (gq (iZ js) x)) Qi.zero (2 * js.length) x).map aE)]) 0 (Nat.zero_le _)
        (zS rfl) (aU (aB rfl) (aU (fun _ _ _ h=>h) (aU (aB rfl) (aU (aR (by rw [← iH]; exact nG aE _)) aY)))) (fun x hx1=>?_)
       refine ts (ro rfl (gV (Ht rfl) (Ht rfl)) (eZ (cK (dQ (Ht rfl) (fun hd5=>?_) (fun hd5=>?_)))))
       ·have hxm : x < 2 * js.length := by simp only [decide_eq_true_eq] at hd5; omega
        have hat:fC (Am js) x = gq (iZ js) x:=Jl hxm
        have hgx:=hj.lt x hxm
        refine cU (cK (eK (ts (rm rfl (ro rfl (dZ U_72 Z_3 (Ht rfl) (Ht rfl) rfl (eQ (nM zo))) (ro rfl (dV A_3 Z_3 (Ht rfl)) (ra rfl (ra rfl (eZ (cY (rm rfl (rm rfl (ro rfl (jK dI (Ht rfl) rfl) (ro rfl (dV A_30 Z_30 (Ht rfl)) (rm rfl (ro rfl (aF.nat (dG (Ht rfl) (cJ 1) zo z6) (show fC (dT z js) i + 1 - 1 = fC (dT z js) i by omega)) (ro rfl (dZ U_30 Z_29 (Ht rfl) (Ht rfl) rfl (eQ (dY (d:=[]) (show fC (dT z js) i < S.length by omega)))) ?_)))))))))))))))))
        refine ro rfl (dV A_29 Z_29 (Ht rfl)) (rm rfl (ro rfl (aF.nat (dG (Ht rfl) (cJ 1) zo z6) (show fC (Am js) x + 1 - 1 = gq (iZ js) x by omega)) (ro rfl (dZ U_29 Z_51 (Ht rfl) (Ht rfl) rfl (eQ (dY (d:=Qi.zero) (show gq (iZ js) x < (S.getD (fC (dT z js) i) []).length by omega)))) (ro rfl (dV A_51 Z_51 (Ht rfl)) (ro rfl (dE U_29 Z_51 (Ht rfl) (Ht rfl) rfl (i:=3) rfl (by rw [List.length_map,cO]; omega) rfl) ?_)))))
        refine kS Z_51 (Ht rfl) (Ht rfl) (El.ag rfl) (i:=3) rfl rfl (by rw [List.length_map,cO]; omega) rfl ?_
        refine eZ (bH (cY (ro rfl (dW (Ht rfl) (cJ 1) z6) (rm rfl (eZ (gQ (x + 1) hxm zo (zS rfl) (aU (aB rfl) (aU (fun _ _ _ h=>h) (aU (aB rfl) (aU (aR (by rw [fM]; exact congrArg _ (jI (f:=(fun x=>gm S (fC (dT z js) i) (gq (iZ js) x)))))) aY))))))))))
       ·have hxm : x = 2 * js.length := by simp only [decide_eq_false_iff_not] at hd5; omega
        rw [hxm,jJ]
        refine gK rfl (gG (i:=3) (tt:=20) rfl rfl fP (bL [0,1,2] rfl (by decide) (oS 1 (i) rfl (Ci hin) (fun v0=>?_))))
        have hrl:=oF (fun y=>Bu S (iZ js) (2 * js.length) (fC (dT z js) i) (fC (dT z js) y)) (fun y=>gm S (fC (dT z js) i) (fC (dT z js) y)) ((dT z js).length) j
        have hrf:cC (tab (2 * js.length) (fun x=>gm S (fC (dT z js) i) (gq (iZ js) x))) G:=cC.tab fun x _=>(hf.get hL _ _).le zo
        have hro : ((nC (fun y => Bu S (iZ js) (2 * js.length) (fC (dT z js) i) (fC (dT z js) y)) (fun y => gm S (fC (dT z js) i) (fC (dT z js) y)) (dT z js).length j)).set j (sV (gm S (fC (dT z js) i) (fC (dT z js) j)) (tab (2 * js.length) (fun x => gm S (fC (dT z js) i) (gq (iZ js) x))) (mA (sT S (iZ js) (2 * js.length)) (yM S (iZ js) (2 * js.length) ((dT z js).getD j 0)) (2 * js.length)) (2 * js.length)) = (nC (fun y => Bu S (iZ js) (2 * js.length) (fC (dT z js) i) (fC (dT z js) y)) (fun y => gm S (fC (dT z js) i) (fC (dT z js) y)) (dT z js).length (j + 1)) := by
         rw [a1b]; exact uQ (f:=fun y=>Bu S (iZ js) (2 * js.length) (fC (dT z js) i) (fC (dT z js) y))
        refine fV (m:=17) (dp 11 rfl (eJ dI (Ht rfl) rfl) (dq 114 0 rfl (fQ A_30 Z_30 (Ht rfl) (i:=2) rfl rfl) (dp 18 rfl (cX (Ht rfl)) (dS 115 1 116 2 rfl (gX U_30 Z_29 (Ht rfl) (Ht rfl) rfl zo (by rw [Nat.mul_one,Nat.zero_add])) ?_))))
        refine dq 117 3 rfl (mH A_29 Z_29 (Ht rfl) (j:=1) rfl) (dp 12 rfl (cX (Ht rfl)) (dp 11 rfl (eJ dI (Ht rfl) rfl) (dq 120 6 rfl (fQ A_30 Z_30 (Ht rfl) (i:=2) rfl rfl) (dp 18 rfl (cX (Ht rfl)) (dS 121 7 122 8 rfl (gX U_30 Z_29 (Ht rfl) (Ht rfl) rfl zo (by rw [Nat.mul_one,Nat.zero_add])) ?_)))))
        refine dq 123 9 rfl (mH A_29 Z_29 (Ht rfl) (j:=1) rfl) (dp 12 rfl (cX (Ht rfl)) (dS 124 10 125 11 rfl (dE U_29 Z_51 (Ht rfl) (Ht rfl) rfl (i:=3) rfl (by simp only [List.length_map,hrl]; omega) rfl) ?_))
        refine dq 126 12 rfl (tG A_51 Z_51 (Ht rfl) (i:=3) rfl rfl (eQ (zL hjn))) (dp 20 rfl (cX (Ht rfl)) (dp 16 rfl (cX (Ht rfl)) (C.D_step (Ei:=[(127,_),(128,_),(129,_)]) rfl rfl (bV (bG 13 rfl rfl) (bV (bG 14 rfl rfl) (bV (bG 15 rfl rfl) bW))) (dX rfl (cZ Tryz.call123 (a2I (x:=gm S (fC (dT z js) i) (fC (dT z js) j)) (l:=tab (2 * js.length) (fun x=>gm S (fC (dT z js) i) (gq (iZ js) x))) (m:=mA (sT S (iZ js) (2 * js.length)) (yM S (iZ js) (2 * js.length) ((dT z js).getD j 0)) (2 * js.length)) (L:=G) (M:=L) (n:=2 * js.length) (hf.get hL _ _) hrf hxf zo (aO _ _) hxl zo zo) ⟨(Ht rfl),(Ht rfl),(Ht rfl),trivial⟩)) ?_)))
        refine fG bF rfl (by kernel_rfl) (zF (zF (zF (zF (aJ (aV (ro rfl (dE U_29 Z_51 (Ht rfl) (Ht rfl) rfl (i:=3) rfl (by simp only [List.length_map,hrl]; omega) rfl) ?_)))))))
        refine kS Z_51 (Ht rfl) (Ht rfl) (El.ag rfl) (i:=3) rfl rfl (by simp only [List.length_map,hrl]; omega) rfl ?_
        refine eZ (kR 1 3 rfl rfl (by decide) (by simp only [dO,List.length_map,oF]; omega) ?_)
        refine bH (cY (ro rfl (dW (Ht rfl) (cJ 1) z6) (rm rfl (eZ (bL [0,1,2] rfl (by decide) (gQ (i + 1) hin zo (zS rfl) (aU (aB rfl) (aU (fA (by rw [fM,hro,kZ]; exact congrArg _ (uQ (f:=fun i=>(nC (fun y=>Bu S (iZ js) (2 * js.length) (fC (dT z js) i) (fC (dT z js) y)) (fun y=>gm S (fC (dT z js) i) (fC (dT z js) y)) (dT z js).length (j + 1)))))) (aU (aB rfl) aY)))))))))
      ·have hin : i = (dT z js).length := by simp only [decide_eq_false_iff_not] at hd4; omega
       rw [hin,uT]
       refine gK rfl (bH (cY (ro rfl (dW (Ht rfl) (cJ 1) z6) (rm rfl (eZ ?_)))))
       refine gQ (j + 1) ⟨hjn, fun y h => by
         by_cases e:y = j
         ·rw [e]; exact h5
         ·exact h0 y zo⟩ zo (zS rfl) (aU (aB rfl) (aU (fun _ _ _ h=>h) (aU (aB rfl) aY)))
   ·have hjn : j = (dT z js).length := by simp only [decide_eq_false_iff_not] at hd1; omega
    rw [hjn] at h0
    have h6:Oy z S js = 0:=iP h0
    have he:Fe z S js = 0:=(Ka h3 h4).trans (if_pos h6)
    rw [hjn,show (tab ((dT z js).length) fun i=>(nC (fun y=>Bu S (iZ js) (2 * js.length) (fC (dT z js) i) (fC (dT z js) y)) (fun y=>gm S (fC (dT z js) i) (fC (dT z js) y)) (dT z js).length (dT z js).length)) = Xk z S js from cP fun i _=>uT _ _ _]
    refine gK rfl (cK (tE 2 1 1 rfl rfl rfl (by decide) (a1j (q:=fun _=>True) (M:=Xk z S js) (aO _ _).symm) (cY (ro rfl (eW A_32 Z_32 (Ht rfl) (i:=2) rfl rfl rfl) (gJ Z_32 (Ht rfl) (Ht rfl) rfl (i:=0) rfl (aK rfl) rfl rfl (ro rfl (cQ (cJ 0)) (eZ (bI rfl (fJ (fY A_32 Z_32 rfl (i:=0) rfl rfl) ?_) (fJ (eY rfl) ?_)))))))))
    ·exact (fun v V h=>by rw [Db,Lm,iI,iI,he,if_neg h4,if_neg h4]; exact h)
    ·exact (aM he.symm)
end
section
open Go Go.RowKit
def a3n (S:Nat → Nat → Qi) (p q b:Nat) (v0 v1:Qi):Prop:=v0 = S q b + (S q p * v0 + S q q * v1) ∧ v1 = S p b + (S p p * v0 + S p q * v1)
def Wm (S:Nat → Nat → Qi) (p q:Nat):Prop:=∀ v0 v1:Qi,v0 = S q p * v0 + S q q * v1 → v1 = S p p * v0 + S p q * v1 → v0 = 0 ∧ v1 = 0
theorem Zn {M:List (List Qi)} {b:List Qi} {n:Nat} (h:eR M n n):mB M b n = 0 ↔ ∀ y:Nat → Qi,(∀ i,i < n → eC n (fun k=>gm M i k * y k) = 0) → ∀ k,k < n → y k = 0:=by
 constructor
 ·intro e; exact (Hu h e).2
 ·intro hk
  apply Classical.byContradiction; intro e
  obtain ⟨y,hy,k,hkn,hne⟩:=Uh h e
  exact hne (hk y hy k hkn)
theorem Jv (f:Nat → Qi):eC 2 f = f 0 + f 1:=by simp only [eC,q0]; grind
section
variable {S:List (List Qi)} {p q r t a b:Nat}
abbrev J1 (p q:Nat):List (Int × Int):=[(((p + 1:Nat):Int),((q + 1:Nat):Int))]
theorem p1n (p:Nat):(((p + 1:Nat):Int) - 1).toNat = p:=by omega
theorem a2j:iZ (J1 p q) = [(p,q)]:=by simp only [iZ,J1,List.map_cons,List.map_nil,p1n]
theorem a3g:Am (J1 p q) = [p,q]:=by
 have e:Am (J1 p q) = [(((p + 1:Nat):Int) - 1).toNat,(((q + 1:Nat):Int) - 1).toNat]:=rfl
 rw [e,p1n,p1n]
theorem a1h {v:Nat → Qi}:(eC 2 (fun y=>gm (sT S [(p,q)] 2) 0 y * v y) = v 0 - (gm S q p * v 0 + gm S q q * v 1)) ∧ (eC 2 (fun y=>gm (sT S [(p,q)] 2) 1 y * v y) = v 1 - (gm S p p * v 0 + gm S p q * v 1)):=by
 rw [Mz zo,Mz zo,Jv,Jv]
 exact ⟨rfl,rfl⟩
theorem Oq {x y:Qi} (h:x - y = 0):x = y:=by grind
theorem Ma {bb:List Qi}:mB (sT S [(p,q)] 2) bb 2 = 0 ↔ Wm (gm S) p q:=by
 rw [Zn (xV _ _ _)]
 constructor
 ·intro h v0 v1 h0 h1
  have hk := h (fun k => if k = 0 then v0 else v1) (fun i hi => by
   obtain ⟨r0,r1⟩:=a1h (S:=S) (p:=p) (q:=q) (v:=fun k=>if k = 0 then v0 else v1)
   have c:i = 0 ∨ i = 1:=by omega
   rcases c with rfl | rfl
   ·rw [r0]; show v0 - (gm S q p * v0 + gm S q q * v1) = 0; clear r0 r1 h; grind
   ·rw [r1]; show v1 - (gm S p p * v0 + gm S p q * v1) = 0; clear r0 r1 h; grind)
  exact ⟨hk 0 zo,hk 1 zo⟩
 ·intro h y hy
  obtain ⟨r0,r1⟩:=a1h (S:=S) (p:=p) (q:=q) (v:=y)
  obtain ⟨a0,a1⟩:=h (y 0) (y 1) (Oq (by rw [← r0]; exact hy 0 zo)) (Oq (by rw [← r1]; exact hy 1 zo))
  intro k hk
  have c:k = 0 ∨ k = 1:=by omega
  rcases c with rfl | rfl
  ·exact a0
  ·exact a1
theorem a2O (h:Wm (gm S) p q):∃ v0 v1,a3n (gm S) p q b v0 v1 ∧ ∀ a,Bu S [(p,q)] 2 a b = gm S a b + (gm S a p * v0 + gm S a q * v1):=by
 have hs:=(Hu (xV S [(p,q)] 2) (Ma (bb:=yM S [(p,q)] 2 b) |>.2 h)).1
 obtain ⟨r0,r1⟩:=a1h (S:=S) (p:=p) (q:=q) (v:=gv (mA (sT S [(p,q)] 2) (yM S [(p,q)] 2 b) 2))
 have h0:=hs 0 zo
 have h1:=hs 1 zo
 rw [r0,Vm zo] at h0
 rw [r1,Vm zo] at h1
 refine ⟨gv (mA (sT S [(p,q)] 2) (yM S [(p,q)] 2 b) 2) 0,gv (mA (sT S [(p,q)] 2) (yM S [(p,q)] 2 b) 2) 1,⟨?_,?_⟩,fun a=>?_⟩
 ·have e : gm S (gq [(p, q)] (qT 0)) b = gm S q b := rfl
  rw [e] at h0; clear r0 r1 hs h h1; grind
 ·have e : gm S (gq [(p, q)] (qT 1)) b = gm S p b := rfl
  rw [e] at h1; clear r0 r1 hs h h0; grind
 ·rw [Bu,Jv]; rfl
end
section
variable {S:Nat → Nat → Qi} {p q r t a b:Nat}
def S1 (S:Nat → Nat → Qi) (p q:Nat) (V:Nat → Qi × Qi) (a b:Nat):Qi:=S a b + (S a p * (V b).1 + S a q * (V b).2)
variable {V:Nat → Qi × Qi}
end
end
section
open Go Go.RowKit
def low (c a b:Nat):Nat:=c - (if a < c then 1 else 0) - (if b < c then 1 else 0)
def okP (N p q r t : Nat) : Bool :=
 decide ((nR [p,q] N).length = N - 2) && decide (low r p q < N - 2) && decide (low t p q < N - 2) && decide (low r p q ≠ low t p q) && decide (fC (nR [p,q] N) (low r p q) = r) && decide (fC (nR [p,q] N) (low t p q) = t)
 && decide ((nR [low r p q,low t p q] (N - 2)).map (fC (nR [p,q] N)) = nR [p,q,r,t] N) && decide ((nR [p,q,r,t] N).length = N - 4) && decide (nR [t,r,p,q] N = nR [p,q,r,t] N) && decide (nR [r,t,p,q] N = nR [p,q,r,t] N)
theorem Cb {n p:Nat} {l:List Nat} (hp:p < n) (h:p ∉ l):dR n ((p + 1:Nat):Int) (l.map fun (x:Nat)=>((x + 1:Nat):Int)) = 0:=by
 rw [dR,if_neg (fun k=>k ⟨by omega,by omega⟩),if_neg]
 simp only [List.any_map,List.any_eq_true,Function.comp,decide_eq_true_eq]
 rintro ⟨x,hx,e⟩
 exact h ((show x = p by omega) ▸ hx)
section
variable {z:List Qi} {S:List (List Qi)} {N p q r t:Nat} {ζ:Qi}
theorem a1X {js:List (Int × Int)} {k:Nat} {a b:Nat} {l:List Nat} (hk:lY js k = (((a + 1:Nat):Int),((b + 1:Nat):Int))) (hl:nP (js.take k) = l.map fun (x:Nat)=>((x + 1:Nat):Int)) (ha:a < z.length) (hb:b < z.length) (hal:a ∉ l) (hbl:b ∉ l) (hab:a ≠ b) (hz:gv z a = gv z b):uA z js k = 0:=by
 have e2:(l.map fun (x:Nat)=>((x + 1:Nat):Int)) ++ [((a + 1:Nat):Int)] = (l ++ [a]).map fun (x:Nat)=>((x + 1:Nat):Int):=by simp
 rw [uA,hk,hl]
 simp only []
 rw [e2,Cb ha hal,Cb hb (by simp only [List.mem_append,List.mem_singleton]; rintro (k | k); exact hbl k; exact hab k.symm),p1n,p1n,if_pos hz]; rfl
theorem Nv {f : Nat → Int} {n : Nat} {P : Prop} (hn : 1 ≤ n) (h : ∀ i, f i = 0 ↔ P) : jM f n = 0 ↔ P :=
 ⟨fun e=>(h 0).1 (jD e 0 zo),fun k=>iP fun i _=>(h i).2 k⟩
theorem a1B:dT z (J1 p q) = nR [p,q] z.length:=by rw [dT,a3g]
theorem a2X (h:Fe z S (J1 p q) = 0):Lm z S (J1 p q) = (tab (nR [p,q] z.length).length fun x=>tab (nR [p,q] z.length).length fun y=>Bu S [(p,q)] 2 (fC (nR [p,q] z.length) x) (fC (nR [p,q] z.length) y)) ∧ Db z S (J1 p q) = nO z (nR [p,q] z.length):=by
 have e:Xk z S (J1 p q) = tab (dT z (J1 p q)).length fun x=>tab (dT z (J1 p q)).length fun y=>Bu S (iZ (J1 p q)) 2 (fC (dT z (J1 p q)) x) (fC (dT z (J1 p q)) y):=rfl
 constructor
 ·rw [Lm,iI,if_pos h,if_neg (by simp),e,a1B,a2j]
 ·rw [Db,iI,if_pos h,if_neg (by simp),a1H,a1B]
end
end
section
open Go Go.RowKit
theorem tT {s f:List (List Qi)} {p n i j:Nat} (hi:i < n) (hj:j < n):gm (pP s f p n) i j = Fc s f p i j:=Km hi hj
theorem nA {s f:List (List Qi)} {p n i j:Nat} (hi:i < n) (hj:j < n):gm (qB s f p n) i j = nI s f p i j:=Km hi hj
theorem Th {x : Qi} (h : x ≠ 0) : Qi.inv x ≠ 0 := fun e => by
 have a:=iG h
 rw [e] at a
 have b:(0:Qi) = 1:=by rw [← a]; grind
 have:=congrArg Qi.re b; revert this; decide
theorem Ek {x y : Qi} (hx : x ≠ 0) (hy : y ≠ 0) : x * y ≠ 0 := fun e => by
 rcases rP e with h | h
 ·exact hx h
 ·exact hy h
section
variable {s f:List (List Qi)} {p n:Nat}
theorem Xa (hp:p < n) (hD:kF s f p ≠ 0) (h1:gm f 0 1 ≠ 0) (h2:gm f 1 0 ≠ 0):oM (qB s f p n) f p = gm f 0 1 * gm f 1 0 * Qi.inv (kF s f p):=by
 have u:=iG hD
 rw [oM,nA hp hp,nI,if_pos ⟨rfl,rfl⟩,Qi.div_def]
 have e:kF s f p = 1 - gm f 1 1 * gm s p p:=rfl
 generalize Qi.inv (kF s f p) = v at u ⊢
 rw [e] at u
 clear e hD h1 h2 hp
 grind
theorem a2o (hs:eR s n n) (hp:p < n) (hD:kF s f p ≠ 0) (h1:gm f 0 1 ≠ 0) (h2:gm f 1 0 ≠ 0):oM (qB s f p n) f p ≠ 0 ∧ pP (qB s f p n) f p n = s:=by
 have hd:=Xa hp hD h1 h2
 have hi:=Th hD
 have hne:oM (qB s f p n) f p ≠ 0:=by rw [hd]; exact Ek (Ek h1 h2) hi
 refine ⟨hne,Mv eR.tab hs fun i hi' j hj'=>?_⟩
 have u:=iG hD
 rw [tT hi' hj',Fc]
 by_cases a:i = p
 ·by_cases b : j = p
  ·rw [if_pos ⟨a, b⟩, a, b]
   refine tL hne ?_
   rw [hd,nA hp hp,nI,if_pos ⟨rfl,rfl⟩,Qi.div_def]; grind
  ·rw [if_neg (fun k => b k.2), if_neg b, if_pos a, a]
   have e : gm (qB s f p n) p j / oM (qB s f p n) f p = gm s p j * Qi.inv (gm f 1 0) := by
    have w:=iG h2
    refine tL hne ?_
    rw [hd,nA hp hj',nI,if_neg (fun k=>b k.2),if_neg b,if_pos rfl,Qi.div_def]
    generalize Qi.inv (kF s f p) = v
    generalize Qi.inv (gm f 1 0) = q at w ⊢
    clear u hne hi hd hD
    have e2:gm s p j * q * (gm f 0 1 * gm f 1 0 * v) = gm s p j * (gm f 1 0 * q) * gm f 0 1 * v:=by grind
    rw [e2,w]; grind
   rw [e]
   have w:=iG h2
   grind
 ·by_cases b : j = p
  ·rw [if_neg (fun k => a k.1), if_pos b, b]
   have e : gm (qB s f p n) i p / oM (qB s f p n) f p = gm s i p * Qi.inv (gm f 0 1) := by
    have w:=iG h1
    refine tL hne ?_
    rw [hd,nA hi' hp,nI,if_neg (fun k=>a k.1),if_pos rfl,Qi.div_def]
    generalize Qi.inv (kF s f p) = v
    generalize Qi.inv (gm f 0 1) = q at w ⊢
    clear u hne hi hd hD
    have e2:gm s i p * q * (gm f 0 1 * gm f 1 0 * v) = gm s i p * (gm f 0 1 * q) * gm f 1 0 * v:=by grind
    rw [e2,w]; grind
   rw [e]
   have w:=iG h1
   grind
  ·rw [if_neg (fun k => a k.1), if_neg b, if_neg a]
   have e : gm (qB s f p n) i p / oM (qB s f p n) f p = gm s i p * Qi.inv (gm f 0 1) := by
    have w:=iG h1
    refine tL hne ?_
    rw [hd,nA hi' hp,nI,if_neg (fun k=>a k.1),if_pos rfl,Qi.div_def]
    generalize Qi.inv (kF s f p) = v
    generalize Qi.inv (gm f 0 1) = q at w ⊢
    clear u hne hi hd hD
    have e2:gm s i p * q * (gm f 0 1 * gm f 1 0 * v) = gm s i p * (gm f 0 1 * q) * gm f 1 0 * v:=by grind
    rw [e2,w]; grind
   rw [e,nA hi' hj',nA hp hj',nI,nI,if_neg (fun k=>a k.1),if_neg b,if_neg a,if_neg (fun k=>b k.2),if_neg b,if_pos rfl,Qi.div_def,Qi.div_def]
   have w:=iG h1
   generalize Qi.inv (kF s f p) = v
   generalize Qi.inv (gm f 0 1) = q at w ⊢
   clear u hne hi hd hD e
   have e2:gm s i p * q * (gm f 1 1 * (gm f 0 1 * (gm s p j * v))) = gm s i p * (gm f 0 1 * q) * (gm f 1 1 * gm s p j * v):=by grind
   rw [e2,w]; grind
theorem Wz (hp:p < n) (hD:oM s f p ≠ 0):kF (pP s f p n) f p = gm f 0 1 * gm f 1 0 * Qi.inv (oM s f p):=by
 have u:=iG hD
 rw [show kF (pP s f p n) f p = 1 - gm f 1 1 * gm (pP s f p n) p p from rfl,tT hp hp,Fc,if_pos ⟨rfl,rfl⟩,Qi.div_def]
 have e:oM s f p = gm f 0 1 * gm f 1 0 + gm f 1 1 * (gm s p p - gm f 0 0):=rfl
 generalize Qi.inv (oM s f p) = v at u ⊢
 rw [e] at u
 clear e hD hp
 grind
theorem a2F (hs:eR s n n) (hp:p < n) (hD:oM s f p ≠ 0) (h1:gm f 0 1 ≠ 0) (h2:gm f 1 0 ≠ 0):kF (pP s f p n) f p ≠ 0 ∧ qB (pP s f p n) f p n = s:=by
 have hd:=Wz (n:=n) hp hD
 have hi:=Th hD
 have hne:kF (pP s f p n) f p ≠ 0:=by rw [hd]; exact Ek (Ek h1 h2) hi
 have w1:=iG h1
 have w2:=iG h2
 have hpp : gm (pP s f p n) p p / kF (pP s f p n) f p = (gm s p p - gm f 0 0) * Qi.inv (gm f 0 1) * Qi.inv (gm f 1 0) := by
  refine tL hne ?_
  rw [hd,tT hp hp,Fc,if_pos ⟨rfl,rfl⟩,Qi.div_def]
  generalize Qi.inv (oM s f p) = v
  generalize Qi.inv (gm f 0 1) = q at w1 ⊢
  generalize Qi.inv (gm f 1 0) = q' at w2 ⊢
  have e2:(gm s p p - gm f 0 0) * q * q' * (gm f 0 1 * gm f 1 0 * v) = (gm s p p - gm f 0 0) * (gm f 0 1 * q) * (gm f 1 0 * q') * v:=by clear w1 w2 hd hne; grind
  rw [e2,w1,w2]; clear w1 w2 hd hne e2; grind
 have hip : ∀ i, i < n → i ≠ p → gm (pP s f p n) i p / kF (pP s f p n) f p = gm s i p * Qi.inv (gm f 1 0) := fun i hi' a => by
  refine tL hne ?_
  rw [hd,tT hi' hp,Fc,if_neg (fun k=>a k.1),if_pos rfl,Qi.div_def]
  generalize Qi.inv (oM s f p) = v
  generalize Qi.inv (gm f 1 0) = q' at w2 ⊢
  have e2:gm s i p * q' * (gm f 0 1 * gm f 1 0 * v) = gm s i p * (gm f 1 0 * q') * gm f 0 1 * v:=by clear w1 w2 hd hne hpp; grind
  rw [e2,w2]; clear w1 w2 hd hne e2 hpp; grind
 have hpj : ∀ j, j < n → j ≠ p → gm (pP s f p n) p j / kF (pP s f p n) f p = gm s p j * Qi.inv (gm f 0 1) := fun j hj' b => by
  refine tL hne ?_
  rw [hd,tT hp hj',Fc,if_neg (fun k=>b k.2),if_neg b,if_pos rfl,Qi.div_def]
  generalize Qi.inv (oM s f p) = v
  generalize Qi.inv (gm f 0 1) = q' at w1 ⊢
  have e2:gm s p j * q' * (gm f 0 1 * gm f 1 0 * v) = gm s p j * (gm f 0 1 * q') * gm f 1 0 * v:=by clear w1 w2 hd hne hpp hip; grind
  rw [e2,w1]; clear w1 w2 hd hne e2 hpp hip; grind
 refine ⟨hne,Mv eR.tab hs fun i hi' j hj'=>?_⟩
 rw [nA hi' hj',nI]
 by_cases a:i = p
 ·by_cases b : j = p
  ·rw [if_pos ⟨a, b⟩, hpp, a, b]
   generalize Qi.inv (gm f 0 1) = q at w1 ⊢
   generalize Qi.inv (gm f 1 0) = q' at w2 ⊢
   have e2:gm f 0 1 * (gm f 1 0 * ((gm s p p - gm f 0 0) * q * q')) = (gm f 0 1 * q) * (gm f 1 0 * q') * (gm s p p - gm f 0 0):=by clear w1 w2 hd hne hpp hip hpj; grind
   rw [e2,w1,w2]; clear w1 w2 hd hne hpp hip hpj e2; grind
  ·rw [if_neg (fun k => b k.2), if_neg b, if_pos a, hpj j hj' b, a]
   generalize Qi.inv (gm f 0 1) = q at w1 ⊢
   have e2:gm f 0 1 * (gm s p j * q) = gm s p j * (gm f 0 1 * q):=by clear w1 w2 hd hne hpp hip hpj; grind
   rw [e2,w1]; clear w1 w2 hd hne hpp hip hpj e2; grind
 ·by_cases b : j = p
  ·rw [if_neg (fun k => a k.1), if_pos b, hip i hi' a, b]
   generalize Qi.inv (gm f 1 0) = q at w2 ⊢
   have e2:gm s i p * q * gm f 1 0 = gm s i p * (gm f 1 0 * q):=by clear w1 w2 hd hne hpp hip hpj; grind
   rw [e2,w2]; clear w1 w2 hd hne hpp hip hpj e2; grind
  ·rw [if_neg (fun k => a k.1), if_neg b, if_neg a, hip i hi' a, tT hi' hj', tT hp hj', Fc, Fc, if_neg (fun k => a k.1), if_neg b, if_neg a, if_neg (fun k => b k.2), if_neg b, if_pos rfl, Qi.div_def, Qi.div_def]
   generalize Qi.inv (oM s f p) = v
   generalize Qi.inv (gm f 1 0) = q at w2 ⊢
   have e2:gm s i p * q * (gm f 1 1 * (gm f 1 0 * (gm s p j * v))) = gm s i p * (gm f 1 0 * q) * (gm f 1 1 * gm s p j * v):=by clear w1 w2 hd hne hpp hip hpj; grind
   rw [e2,w2]; clear w1 w2 hd hne hpp hip hpj e2; grind
theorem sd4 (hp:p < n):gm (tY s f n) (n + 1) p = 0 ∧ gm (tY s f n) (n + 1) (n + 1) = gm f 1 1 ∧ gm (tY s f n) p (n + 1) = 0 ∧ gm (tY s f n) p p = gm s p p:=by
 refine ⟨?_,?_,?_,?_⟩
 ·rw [oU zo zo,if_neg zo,if_neg zo]; rfl
 ·rw [oU zo zo,if_neg zo,if_pos zo,show n + 1 - n = 1 by omega]
 ·rw [oU zo zo,if_pos hp,if_neg zo]; rfl
 ·rw [oU zo zo,if_pos hp,if_pos hp]
theorem Ja (hp:p < n):Wm (gm (tY s f n)) p (n + 1) ↔ kF s f p ≠ 0:=by
 obtain ⟨b1,b2,b3,b4⟩:=sd4 (s:=s) (f:=f) hp
 have e:kF s f p = 1 - gm f 1 1 * gm s p p:=rfl
 constructor
 ·intro h hz
  rw [e] at hz
  obtain ⟨a1,a2⟩:=h (gm f 1 1) 1 (by rw [b1,b2]; grind) (by rw [b3,b4]; grind)
  have:=congrArg Qi.re a2; revert this; decide
 ·intro hD v0 v1 h0 h1
  rw [b1,b2] at h0
  rw [b3,b4] at h1
  have e2:v1 * kF s f p = 0:=by rw [e]; grind
  rcases rP e2 with k | k
  ·exact ⟨by rw [h0,k]; grind,k⟩
  ·exact absurd k hD
theorem a3c {x y:Nat} (hp:p < n) (hD:kF s f p ≠ 0) (hx:x < n) (hy:y < n):Bu (tY s f n) [(p,n + 1)] 2 (if x = p then n else x) (if y = p then n else y) = nI s f p x y:=by
 obtain ⟨b1,b2,b3,b4⟩:=sd4 (s:=s) (f:=f) hp
 obtain ⟨v0,v1,⟨h0,h1⟩,hX⟩:=a2O (b:=if y = p then n else y) ((Ja (s:=s) (f:=f) hp).2 hD)
 rw [hX]
 have e:kF s f p = 1 - gm f 1 1 * gm s p p:=rfl
 have u:=iG hD
 rw [b1,b2] at h0
 rw [b3,b4] at h1
 have gA : ∀ b, b < n + 2 → gm (tY s f n) (n + 1) b = if b < n then 0 else gm f 1 (b - n) := fun b hb => by
  rw [oU zo hb,if_neg zo]
  by_cases c:b < n
  ·rw [if_neg zo,if_pos c]; rfl
  ·rw [if_pos zo,if_neg c,show n + 1 - n = 1 by omega]
 have gB : ∀ a b, a < n → b < n + 2 → gm (tY s f n) a b = if b < n then gm s a b else 0 := fun a b ha hb => by
  rw [oU zo hb,if_pos ha]
  by_cases c:b < n
  ·rw [if_pos c,if_pos c]
  ·rw [if_neg c,if_neg c]; rfl
 have gC : ∀ b, b < n + 2 → gm (tY s f n) n b = if b < n then 0 else gm f 0 (b - n) := fun b hb => by
  rw [oU zo hb,if_neg zo]
  by_cases c:b < n
  ·rw [if_neg zo,if_pos c]; rfl
  ·rw [if_pos zo,if_neg c,Nat.sub_self]
 by_cases b:y = p
 ·rw [if_pos b] at h0 h1 ⊢
  rw [gA n zo,if_neg zo,Nat.sub_self] at h0
  rw [gB p n hp zo,if_neg zo] at h1
  have v0e : v0 = gm f 1 0 * Qi.inv (kF s f p) := by
   have k:v0 * kF s f p = gm f 1 0:=by rw [e]; clear u hX gA gB gC; grind
   rw [← k]
   have k2:v0 * kF s f p * Qi.inv (kF s f p) = v0 * (kF s f p * Qi.inv (kF s f p)):=by grind
   rw [k2,u]; grind
  have v1e:v1 = gm s p p * (gm f 1 0 * Qi.inv (kF s f p)):=by rw [h1,v0e]; grind
  by_cases a:x = p
  ·rw [if_pos a, gC n zo, gC p zo, gC (n + 1) zo, if_neg zo, if_pos hp, if_neg zo, Nat.sub_self, show n + 1 - n = 1 by omega, nI, if_pos ⟨a, b⟩, v0e, v1e, Qi.div_def]
   clear u h0 h1 hX v0e v1e; grind
  ·rw [if_neg a, gB x n hx zo, gB x p hx zo, gB x (n + 1) hx zo, if_neg zo, if_pos hp, if_neg zo, nI, if_neg (fun k => a k.1), if_pos b, v0e, Qi.div_def]
   clear u h0 h1 hX v0e v1e; grind
 ·rw [if_neg b] at h0 h1 ⊢
  rw [gA y zo,if_pos hy] at h0
  rw [gB p y hp zo,if_pos hy] at h1
  have v1e : v1 = gm s p y * Qi.inv (kF s f p) := by
   have k:v1 * kF s f p = gm s p y:=by rw [e]; clear u hX gA gB gC; grind
   rw [← k]
   have k2:v1 * kF s f p * Qi.inv (kF s f p) = v1 * (kF s f p * Qi.inv (kF s f p)):=by grind
   rw [k2,u]; grind
  have v0e:v0 = gm f 1 1 * (gm s p y * Qi.inv (kF s f p)):=by rw [h0,v1e]; grind
  by_cases a:x = p
  ·rw [if_pos a, gC y zo, gC p zo, gC (n + 1) zo, if_pos hy, if_pos hp, if_neg zo, show n + 1 - n = 1 by omega, nI, if_neg (fun k => b k.2), if_neg b, if_pos a, v1e, Qi.div_def]
   clear u h0 h1 hX v0e v1e; grind
  ·rw [if_neg a, gB x y hx zo, gB x p hx zo, gB x (n + 1) hx zo, if_pos hy, if_pos hp, if_neg zo, nI, if_neg (fun k => a k.1), if_neg b, if_neg a, v0e, Qi.div_def]
   clear u h0 h1 hX v0e v1e; grind
end
theorem Sg {n p:Nat} (hp:p < n):nR [p,n + 1] (n + 2) = tab n (mJ p):=by
 rw [nR,if_pos (by simp),List.append_nil]
 have : ∀ k, k ≤ n + 1 → nR [p, n + 1] k = nR [p] k := fun k => by
  induction k with
  | zero=>intro _; rfl
  | succ k ih =>
   intro hk
   rw [nR,nR,ih zo]
   have e:(k ∈ [p,n + 1]) ↔ (k ∈ [p]):=by simp; omega
   by_cases c:k ∈ [p]
   ·rw [if_pos c,if_pos (e.2 c)]
   ·rw [if_neg c,if_neg fun h=>c (e.1 h)]
 rw [this (n + 1) (Nat.le_refl _),Ed,Lp zo]; rfl
section
variable {z fz:List Qi} {s f:List (List Qi)} {p n:Nat} (hz:z.length = n) (hfl:fz.length = 2) (hp:p < n) (hpz:gv fz 1 = gv z p)
theorem a2w (hz : z.length = n) (hfl : fz.length = 2) (hp : p < n) (hpz : gv fz 1 = gv z p) : Av (z ++ fz) (J1 p (n + 1)) = 0 := iP fun i hi => by
 obtain rfl:i = 0:=by simp at hi; omega
 refine a1X (l:=[]) rfl rfl (by rw [List.length_append]; omega) (by rw [List.length_append]; omega) (by simp) (by simp) zo ?_
 have e1:gv (z ++ fz) p = gv z p:=by simp [gv,List.getD,List.getElem?_append_left (show p < z.length by omega)]
 have e2 : gv (z ++ fz) (n + 1) = gv fz 1 := by
  subst hz
  simp only [gv,List.getD]
  rw [List.getElem?_append_right zo,show z.length + 1 - z.length = 1 by omega]
 rw [e1,e2,hpz]
theorem a2i (hz:z.length = n) (hfl:fz.length = 2) (hp:p < n) (hpz:gv fz 1 = gv z p):Fe (z ++ fz) (tY s f n) (J1 p (n + 1)) = if kF s f p = 0 then 6 else 0:=by
 have hl:(z ++ fz).length = n + 2:=by rw [List.length_append]; omega
 have hj:Ak (z ++ fz) (J1 p (n + 1)) = 0:=a0j (a2w hz hfl hp hpz) (by rw [hl]; show ¬ (0 < 2 * 1 ∧ 2 * 1 = n + 2); omega)
 have hs:=Ka (S:=tY s f n) hj (by simp)
 have hi : Oy (z ++ fz) (tY s f n) (J1 p (n + 1)) = 0 ↔ Wm (gm (tY s f n)) p (n + 1) := by
  have e:Oy (z ++ fz) (tY s f n) (J1 p (n + 1)) = jM (fun y=>mB (sT (tY s f n) (iZ (J1 p (n + 1))) 2) (yM (tY s f n) (iZ (J1 p (n + 1))) 2 ((dT (z ++ fz) (J1 p (n + 1))).getD y 0)) 2) (dT (z ++ fz) (J1 p (n + 1))).length:=rfl
  rw [e,a1B,hl,Sg hp,aO]
  exact Nv zo fun i=>by rw [a2j]; exact Ma
 rw [hs]
 by_cases c:kF s f p = 0
 ·rw [if_pos c,if_neg fun k=>(Ja hp).1 (hi.1 k) c]
 ·rw [if_neg c,if_pos (hi.2 ((Ja hp).2 c))]
theorem a1g (hz : z.length = n) (hfl : fz.length = 2) (hp : p < n) (hpz : gv fz 1 = gv z p) (hD : kF s f p ≠ 0) :
  tH (Lm (z ++ fz) (tY s f n) (J1 p (n + 1))) (Vw n p) = qB s f p n ∧ nO (Db (z ++ fz) (tY s f n) (J1 p (n + 1))) (Vw n p) = z.set p (gv fz 0) ∧ (Db (z ++ fz) (tY s f n) (J1 p (n + 1))).length = n:=by
 have hl:(z ++ fz).length = n + 2:=by rw [List.length_append]; omega
 have hE:Fe (z ++ fz) (tY s f n) (J1 p (n + 1)) = 0:=by rw [a2i hz hfl hp hpz,if_neg hD]
 obtain ⟨hS,hZ⟩:=a2X hE
 rw [hl,Sg hp,aO] at hS
 rw [hl,Sg hp] at hZ
 have hql:(Vw n p).length = n:=by rw [Iy hp,aO]
 have hqa:∀ x,x < n → fC (Vw n p) x = qW p x n:=fun x hx=>by rw [Iy hp]; exact pX hx
 have hsk:∀ x,x < n → fC (tab n (mJ p)) (qW p x n) = if x = p then n else x:=fun x hx=>by rw [show fC (tab n (mJ p)) (qW p x n) = mJ p (qW p x n) from pX (Cz hx),Yv hp hx]
 refine ⟨?_,?_,by rw [hZ,show (nO (z ++ fz) (tab n (mJ p))).length = (tab n (mJ p)).length from aO _ _,aO]⟩
 ·rw [tH, hql]
  refine cP fun x hx=>cP fun y hy=>?_
  rw [hqa x hx,hqa y hy,hS,Km (Cz hx) (Cz hy),hsk x hx,hsk y hy]
  exact a3c hp hD hx hy
 ·rw [nO, hql]
  refine List.ext_getElem (by rw [aO,List.length_set,hz]) fun x h1 h2=>?_
  rw [aO] at h1
  rw [List.getElem_set]
  have e:(tab n fun i=>gv (Db (z ++ fz) (tY s f n) (J1 p (n + 1))) (fC (Vw n p) i))[x]'(by rw [aO]; exact h1) = gv (Db (z ++ fz) (tY s f n) (J1 p (n + 1))) (fC (Vw n p) x):=by simp [tab]
  rw [e,hqa x h1,hZ,nO,pD (by rw [aO]; exact Cz h1),hsk x h1]
  by_cases c:p = x
  ·rw [if_pos c,if_pos c.symm]; subst hz; simp only [gv,List.getD]; rw [List.getElem?_append_right (Nat.le_refl _),Nat.sub_self]
  ·rw [if_neg c,if_neg (Ne.symm c)]; simp [gv,List.getD,List.getElem?_append_left (show x < z.length by omega),show x < z.length by omega]
end
end
section
open Go Go.RowKit
def Wl (n p:Nat):List Nat:=tab n fun k=>qW p k n + 1
theorem Rk {n p:Nat} (hp:p < n) (hn:n ≤ 4):uX (Wl n p) n:=by
 have hn1:n = 1 ∨ n = 2 ∨ n = 3 ∨ n = 4:=by omega
 rcases hn1 with rfl | rfl | rfl | rfl
 ·obtain rfl : p = 0 := by omega
  exact ⟨by decide,fun x=>by simp [Wl,tab,qW,List.range_succ]; omega⟩
 ·have h : p = 0 ∨ p = 1 := by omega
  rcases h with rfl | rfl <;> exact ⟨by decide,fun x=>by simp [Wl,tab,qW,List.range_succ]; omega⟩
 ·have h : p = 0 ∨ p = 1 ∨ p = 2 := by omega
  rcases h with rfl | rfl | rfl <;> exact ⟨by decide,fun x=>by simp [Wl,tab,qW,List.range_succ]; omega⟩
 ·have h : p = 0 ∨ p = 1 ∨ p = 2 ∨ p = 3 := by omega
  rcases h with rfl | rfl | rfl | rfl <;> exact ⟨by decide,fun x=>by simp [Wl,tab,qW,List.range_succ]; omega⟩
theorem Wh {n p:Nat} (hp:p < n):uZ ((Wl n p).map fun (q:Nat)=>(q:Int)) = Vw n p:=by
 rw [uZ,List.map_map,Wl,mN,Iy hp]
 exact cP fun k _=>by show (((qW p k n + 1:Nat):Int) - 1).toNat = qW p k n; omega
end
section
open Go Go.RowKit
theorem Oz (O:List Nat):((O.map fun (q:Nat)=>(q:Int)).map (aD .i64)) = O.map (NT .i64):=by rw [List.map_map]; rfl
theorem a1E {z:List Qi} {s:List (List Qi)} {O:List Nat} (hs:eR s z.length z.length) (hl:z.length ≤ 1000) (h:uX O z.length):bB Tryz.prog 33 [bR z s,hJ O] (dN [bR (nO z (uZ (O.map fun (q:Nat)=>(q:Int)))) (tH s (uZ (O.map fun (q:Nat)=>(q:Int)))),aD .i64 0]):=by
 have hO:=h.len
 have hr:=Xv (z:=z) (s:=s) (l:=O.map fun (q:Nat)=>(q:Int)) hs hl (by rw [List.length_map,hO]; exact hl)
 have he:Gw z.length (O.map fun (q:Nat)=>(q:Int)) = 0:=(Ti (by rw [List.length_map,hO])).trans (Rm h)
 rw [Vj,To,he,Oz] at hr; exact hr
theorem a1q {z:List Qi} {p:Nat} {zl:List Rt} {zz:Qi} (hp:p < z.length) (h:gv z p = zz):pZ z (tQ zl zz) ((p + 1:Nat):Int) 1 = 0:=by
 rw [pZ,if_neg (by rw [uH]; simp),if_neg (fun k=>k ⟨by omega,by omega⟩),if_pos]
 rw [show (((p + 1:Nat):Int) - 1).toNat = p by omega,h]; exact Gq zl zz
section
variable {z:List Qi} {s:List (List Qi)} {p:Nat} {zl sl:List Rt} {zz:Qi}
theorem Fs {x y:Qi} (hp:p < z.length) (h:gv z p = y):(z.set p x).set p y = z:=by
 refine List.ext_getElem (by simp) fun i h1 h2=>?_
 rw [List.getElem_set]
 by_cases c:p = i
 ·subst c; rw [if_pos rfl,← h]; simp [gv,List.getD,hp]
 ·rw [if_neg c,List.getElem_set,if_neg c]
theorem Mi {x:Qi} (hp:p < z.length):gv (z.set p x) p = x:=by rw [tC hp,if_pos rfl]
theorem a0S {F : List (List Qi)} {fz : List Qi} (hs : eR s z.length z.length) (hp : p < z.length) (hz : z.length ≤ 1000) (hfs : bT s 2) (hfz : cC z 2) (hfl : fz.length = 2) (hff : bT F 2) (hffz : cC fz 2) (hF : eR F 2 2) (hpz : gv fz 1 = gv z p) (hD : kF s F p ≠ Qi.zero) (h1 : gm F 0 1 ≠ 0) (h2 : gm F 1 0 ≠ 0) :
  bB Tryz.prog 28 [bR (z.set p (gv fz 0)) (qB s F p z.length),NT .i64 (p + 1),bR fz F] (dN [bR z s,aD .i64 0]):=by
 have hl:(z.set p (gv fz 0)).length = z.length:=List.length_set
 obtain ⟨q1,q2⟩:=a2o hs hp hD h1 h2
 have h:=Gb (z:=z.set p (gv fz 0)) (fz:=fz) (s:=qB s F p z.length) (f:=F) (port:=((p + 1:Nat):Int)) (L:=60) (by rw [hl]; exact eR.tab) zo (by rw [hl]; exact hz) ((Fw hfs hff (by decide) hD).le (by decide)) (hff.le (by decide)) (fun x hx=>(List.mem_or_eq_of_mem_set hx).elim (fun k=>(hfz x k).le (by decide)) fun e=>e ▸ (hffz.get (by decide) 0).le (by decide)) (hffz.le (by decide)) (by decide) (by decide) (fun _=>hF)
 have hpp:(((p + 1:Nat):Int) - 1).toNat = p:=by omega
 have hfx : pZ (z.set p (gv fz 0)) fz ((p + 1 : Nat) : Int) 1 = 0 := by
  rw [pZ,if_neg (by rw [hfl]; simp),if_neg (fun k=>k ⟨by omega,by omega⟩),if_pos]
  rw [hpp,Mi hp]
 have he:=Sa (s:=qB s F p z.length) (f:=F) hfx (by rw [hpp]; rintro (k | k | k); exact h1 k; exact h2 k; exact q1 k)
 rw [zB,Qw,he,hl,hpp,q2] at h
 rw [Fs hp hpz.symm] at h
 exact h
theorem a1Y {F : List (List Qi)} {fz : List Qi} (hs : eR s z.length z.length) (hp : p < z.length) (hz : z.length ≤ 1000) (hfs : bT s 2) (hfz : cC z 2) (hfl : fz.length = 2) (hff : bT F 2) (hffz : cC fz 2) (hF : eR F 2 2) (hpz : gv fz 0 = gv z p) (hD : oM s F p ≠ Qi.zero) (h1 : gm F 0 1 ≠ 0) (h2 : gm F 1 0 ≠ 0) :
  bB Tryz.prog 26 [bR (z.set p (gv fz 1)) (pP s F p z.length),NT .i64 (p + 1),bR fz F] (dN [bR z s,aD .i64 0]):=by
 have hl:(z.set p (gv fz 1)).length = z.length:=List.length_set
 obtain ⟨q1,q2⟩:=a2F hs hp hD h1 h2
 have h:=Ms (z:=z.set p (gv fz 1)) (fz:=fz) (s:=pP s F p z.length) (f:=F) (port:=((p + 1:Nat):Int)) (L:=120) (by rw [hl]; exact eR.tab) zo (by rw [hl]; exact hz) ((Qn hfs hff (by decide) hD).le (by decide)) (hff.le (by decide)) (fun x hx=>(List.mem_or_eq_of_mem_set hx).elim (fun k=>(hfz x k).le (by decide)) fun e=>e ▸ (hffz.get (by decide) 1).le (by decide)) (hffz.le (by decide)) (by decide) (by decide) (fun _=>hF)
 have hpp:(((p + 1:Nat):Int) - 1).toNat = p:=by omega
 have hfx : pZ (z.set p (gv fz 1)) fz ((p + 1 : Nat) : Int) 2 = 0 := by
  rw [pZ,if_neg (by rw [hfl]; simp),if_neg (fun k=>k ⟨by omega,by omega⟩),if_pos]
  rw [hpp,Mi hp]
 have he:=Jp (s:=pP s F p z.length) (f:=F) hfx (by rw [hpp]; exact q1)
 rw [Vs,Vp,he,hl,hpp,q2] at h
 rw [Fs hp hpz.symm] at h
 exact h
end
theorem xI {a l b:Nat} {zl sl zm sm:List Rt} (ha:a < 256) (hl:l < 256):bB Tryz.prog 4 [zZ a zl sl,NT .u8 l,zZ b zm sm] (aC true):=by
 obtain ⟨h1,h8,hsh,hpz⟩:=mK (yW a zl sl)
 have hn:lO a ≤ 4:=by unfold lO; omega
 have hzl:((oW a zl).map Rt.q).length ≤ 4:=by rw [List.length_map,oW,aO]; exact hn
 obtain ⟨z1,hz1⟩:∃ z1,z1 = ((oW a zl).map Rt.q):=⟨_,rfl⟩
 obtain ⟨s1,hs1⟩:∃ s1,s1 = (rq (tV a sl)):=⟨_,rfl⟩
 have f1:cC z1 2:=by rw [hz1]; exact cC.rt
 have f3:bT s1 2:=by rw [hs1]; exact bT.rt
 have hB1:=Dw (a:=a) (zl:=zl) (sl:=sl) ha
 rw [← hz1] at h1 h8 hsh hzl hpz
 rw [← hs1] at hsh
 rw [← hz1,← hs1] at hB1
 have hn1:=Nat.mod_lt l (show 0 < z1.length by omega)
 have hrf : ∀ i, i < z1.length → bB Tryz.prog 23 [bR z1 s1, NT .i64 (i + 1)] (dN [aE (gv z1 i), aD .i64 0]) := fun i hi => by
  have h:=Mh (z:=z1) (s:=s1) (i:=((i + 1:Nat):Int)) zo
  rw [show Vt z1 ((i + 1:Nat):Int) = gv z1 i from Ej zo,if_pos zo] at h; exact h
 have hpos : ∀ i, i < z1.length → kA (gv z1 i) = true := fun i hi => by
  rw [List.all_eq_true] at hpz
  exact hpz _ (by rw [show gv z1 i = z1[i] by simp [gv,List.getD,hi]]; exact List.getElem_mem hi)
 refine bB.intro Tryz.func4 rfl Tryz.ntmps4 rfl (fun cx=>(ts (rn rfl (fU (Ht rfl)) fun B3=>(rn rfl (fU (Ht rfl)) fun B5=>(ro rfl (cQ cV) (eZ (ts (ro rfl (eW A_57 Z_57 (Ht rfl) (i:=0) rfl rfl rfl) (ro rfl (cZ Tryz.call21 hB1 ⟨(Ht rfl),trivial⟩) (rm rfl (ro rfl (dU (Ht rfl) rfl) (ro rfl (dU (Ht rfl) rfl) (ro rfl (dU (Ht rfl) rfl) (rn rfl (eG (Ts:=[Is (.slice none 0 0),Is (.slice none 0 0)]) O_32 rfl (fun V=>aW zd (aW zd (aG)))) fun B7=>?_))))))))))))))
 refine rn rfl (eG (Ts:=[Is (.slice none 0 0),Is (.slice none 0 0)]) O_38 rfl (fun V=>aW zd (aW zd (aG)))) fun B8=>gJ Z_32 (Ht rfl) (Ht rfl) rfl (i:=2) rfl (aK rfl) rfl rfl (gJ Z_38 (Ht rfl) (Ht rfl) rfl (i:=3) rfl (aK rfl) rfl rfl (ra rfl (eZ (cK (cK (bL [0,1,2,3] rfl (by decide) (cY (rm rfl (ro rfl (eH (Ht rfl)) (rm rfl (fX rfl rfl (eU rfl rfl (Ht rfl) (fun h=>eW A_32 Z_32 (Ht rfl) (i:=2) rfl rfl rfl)) ?_)))))))))))
 refine fX rfl rfl (eU rfl rfl (Ht rfl) (fun h=>cZ K_22 qJ ⟨(fW rfl h),trivial⟩)) (fX rfl rfl (eU rfl rfl (Ht rfl) (fun h=>cB (fW rfl h) (cJ 0))) (ro rfl (kX (Ht rfl) (fun h=>(fW rfl h))) (eZ (fN (Ht rfl) (by simp; exact List.ne_nil_of_length_pos h1) ?_))))
 refine cU (ts (rm rfl (ro rfl (gW U_5 U_3 (Ht rfl) z6) (ro rfl (eW A_32 Z_32 (Ht rfl) (i:=2) rfl rfl rfl) (ro rfl (cZ K_22 qJ ⟨(Ht rfl),trivial⟩) (ro rfl (kN (Ht rfl) (Ht rfl) zo) (ro rfl (dW (Ht rfl) (cJ 1) z6) (ra rfl (eZ (cK (bL [0,1,2,3] rfl (by decide) ?_)))))))))))
 obtain ⟨p,hpd⟩:∃ p,p = l % z1.length:=⟨_,rfl⟩
 rw [← hpd] at hn1 ⊢
 obtain ⟨zp,hzp⟩:∃ zp,zp = gv z1 p:=⟨_,rfl⟩
 have fp:aN zp 2:=by rw [hzp]; exact f1.get (by decide) p
 have hpp:kA zp = true:=by rw [hzp]; exact hpos p hn1
 have hr1:=hrf p hn1
 rw [← hzp] at hr1
 have hL1:=Vg (a:=b) (zl:=zm) (sl:=sm) (zz:=zp) hpp fp
 have hL2:=Nu (a:=b) (zl:=zm) (sl:=sm) (zz:=zp) hpp fp
 obtain ⟨fZ,hfZ⟩:∃ fZ,fZ = tM zm zp:=⟨_,rfl⟩
 obtain ⟨gZ,hgZ⟩:∃ gZ,gZ = tQ zm zp:=⟨_,rfl⟩
 obtain ⟨F,hF⟩:∃ F,F = Dl sm:=⟨_,rfl⟩
 rw [← hfZ,← hF] at hL1
 rw [← hgZ,← hF] at hL2
 have fF:bT F 2:=by rw [hF]; exact Qq sm
 have sF:eR F 2 2:=by rw [hF]; exact rJ sm
 have ffZ:cC fZ 2:=by rw [hfZ]; exact Hd zm fp
 have fgZ:cC gZ 2:=by rw [hgZ]; exact Hh zm fp
 have lfZ:fZ.length = 2:=by rw [hfZ]; exact vE _ _
 have lgZ:gZ.length = 2:=by rw [hgZ]; exact uH _ _
 have pfZ:gv fZ 1 = gv z1 p:=by rw [hfZ,← hzp]; exact Hg _ _
 have pgZ:gv gZ 0 = gv z1 p:=by rw [hgZ,← hzp]; exact Gq _ _
 have hpi:(((p + 1:Nat):Int) - 1).toNat = p:=by omega
 have hat12 : bB Tryz.prog 25 [bR fZ F, NT .i64 1, NT .i64 2] (dN [aE (gm F 0 1), aD .i64 0]) := by
  have h:=Ol (z:=fZ) (s:=F) (i:=((0 + 1:Nat):Int)) (j:=((1 + 1:Nat):Int)) (by rw [lfZ]; exact sF) zo
  rw [show Ot fZ.length F ((0 + 1:Nat):Int) ((1 + 1:Nat):Int) = gm F 0 1 from yC zo zo,if_pos zo] at h; exact h
 have hat21 : bB Tryz.prog 25 [bR fZ F, NT .i64 2, NT .i64 1] (dN [aE (gm F 1 0), aD .i64 0]) := by
  have h:=Ol (z:=fZ) (s:=F) (i:=((1 + 1:Nat):Int)) (j:=((0 + 1:Nat):Int)) (by rw [lfZ]; exact sF) zo
  rw [show Ot fZ.length F ((1 + 1:Nat):Int) ((0 + 1:Nat):Int) = gm F 1 0 from yC zo zo,if_pos zo] at h; exact h
 haveI q01:aN (gm F 0 1) 2:=fF.get (by decide) 0 1
 haveI q10:aN (gm F 1 0) 2:=fF.get (by decide) 1 0
 have hfx:pZ z1 fZ ((p + 1:Nat):Int) 2 = 0:=by rw [hfZ]; exact a0H hn1 hzp.symm
 have hgx:pZ z1 gZ ((p + 1:Nat):Int) 1 = 0:=by rw [hgZ]; exact a1q hn1 hzp.symm
 have hem:=Ms (z:=z1) (fz:=fZ) (s:=s1) (f:=F) (port:=((p + 1:Nat):Int)) (L:=2) hsh zo zo f3 fF f1 ffZ (by decide) (by decide) (fun _=>sF)
 have hrm:=Gb (z:=z1) (fz:=gZ) (s:=s1) (f:=F) (port:=((p + 1:Nat):Int)) (L:=2) hsh zo zo f3 fF f1 fgZ (by decide) (by decide) (fun _=>sF)
 obtain ⟨ZA,hZA⟩:∃ ZA,ZA = Vs z1 s1 fZ F ((p + 1:Nat):Int):=⟨_,rfl⟩
 obtain ⟨SA,hSA⟩:∃ SA,SA = Vp z1 s1 fZ F ((p + 1:Nat):Int):=⟨_,rfl⟩
 obtain ⟨EA,hEA⟩:∃ EA,EA = Fd z1 s1 fZ F ((p + 1:Nat):Int):=⟨_,rfl⟩
 obtain ⟨ZR,hZR⟩:∃ ZR,ZR = zB z1 s1 gZ F ((p + 1:Nat):Int):=⟨_,rfl⟩
 obtain ⟨SR,hSR⟩:∃ SR,SR = Qw z1 s1 gZ F ((p + 1:Nat):Int):=⟨_,rfl⟩
 obtain ⟨ER,hER⟩:∃ ER,ER = Bz z1 s1 gZ F ((p + 1:Nat):Int):=⟨_,rfl⟩
 have dA : EA = if kF s1 F p = 0 then 6 else 0 := by
  rw [hEA]
  by_cases k:kF s1 F p = 0
  ·rw [if_pos k]; exact a0A hfx (by rw [hpi]; exact k)
  ·rw [if_neg k]; exact Jp hfx (by rw [hpi]; exact k)
 have vA : EA = 0 → kF s1 F p ≠ 0 ∧ ZA = z1.set p (gv fZ 0) ∧ SA = qB s1 F p z1.length := fun k => by
  have hD:kF s1 F p ≠ 0:=fun d=>by rw [dA,if_pos d] at k; exact absurd k (by decide)
  rw [hEA] at k
  exact ⟨hD,by rw [hZA,Vs,iI,if_pos k,hpi],by rw [hSA,Vp,iI,if_pos k,hpi]⟩
 have vR : ER = 0 → gm F 0 1 ≠ 0 ∧ gm F 1 0 ≠ 0 ∧ oM s1 F p ≠ 0 ∧ ZR = z1.set p (gv gZ 1) ∧ SR = pP s1 F p z1.length := fun k => by
  rw [hER] at k
  have hno : ¬ (gm F 0 1 = Qi.zero ∨ gm F 1 0 = Qi.zero ∨ oM s1 F p = Qi.zero) := fun d => by
   have:=Uw (s:=s1) (f:=F) hgx (by rw [hpi]; exact d)
   omega
  exact ⟨fun d=>hno (.inl d),fun d=>hno (.inr (.inl d)),fun d=>hno (.inr (.inr d)),by rw [hZR,zB,iI,if_pos k,hpi],by rw [hSR,Qw,iI,if_pos k,hpi]⟩
 rw [← hZA,← hSA,← hEA] at hem
 rw [← hZR,← hSR,← hER] at hrm
 have hs0 : bB Tryz.prog 29 [bR z1 s1, aD .i64 0, bR z1 s1, aD .i64 0] (aC true) := by
  have h:=Ta (z:=z1) (z':=z1) (s:=s1) (s':=s1) (e:=0) (e':=0) (L:=2) f1 f1 f3 f3 (by decide) (by decide) hsh hsh zo zo
  rw [zE] at h; exact h
 have hk:=Tu (x:=z1.length) (y:=fZ.length) zo
 have hst : bB Tryz.prog 30 [bR z1 s1, bR fZ F] (dN [bR (z1 ++ fZ) (tY s1 F z1.length), aD .i64 0]) := by
  have h:=Xt (z:=z1) (zb:=fZ) hsh (by rw [lfZ]; exact sF) zo zo
  rw [a04,Ys,hk,lfZ] at h; exact h
 have hzf:(z1 ++ fZ).length = z1.length + 2:=by rw [List.length_append,lfZ]
 have hjn : bB Tryz.prog 31 [bR (z1 ++ fZ) (tY s1 F z1.length), jS 2 [eD [NT .i64 (p + 1), NT .i64 (z1.length + 2)]]] (dN [bR (Db (z1 ++ fZ) (tY s1 F z1.length) (J1 p (z1.length + 1))) (Lm (z1 ++ fZ) (tY s1 F z1.length) (J1 p (z1.length + 1))), aD .i64 (Fe (z1 ++ fZ) (tY s1 F z1.length) (J1 p (z1.length + 1)))]) :=
  a21 (z:=z1 ++ fZ) (S:=tY s1 F z1.length) (js:=J1 p (z1.length + 1)) (L:=2) (by rw [hzf]; exact zQ _ _ _ _) (Uc f3 fF (by decide)) (Up f1 ffZ) (by decide) (by decide) zo (by simp) (fun k hk=>Nat.le_trans (Nat.add_le_add_right (Nat.mul_le_mul_left 6 (pQ _ (show 2 * k ≤ 7 by omega))) 4) (by decide)) (fun k hk=>Nat.le_trans (Nat.le_trans (Cm (pQ _ (show 2 * k ≤ 6 by omega)) _) (yV _ (show 2 * k + 1 ≤ 7 by omega))) (by decide))
 have dJ:=a2i (s:=s1) (f:=F) rfl lfZ hn1 pfZ
 rw [← dA] at dJ
 obtain ⟨JZ,hJZ⟩:∃ JZ,JZ = Db (z1 ++ fZ) (tY s1 F z1.length) (J1 p (z1.length + 1)):=⟨_,rfl⟩
 obtain ⟨JS,hJS⟩:∃ JS,JS = Lm (z1 ++ fZ) (tY s1 F z1.length) (J1 p (z1.length + 1)):=⟨_,rfl⟩
 have sJ:eR JS JZ.length JZ.length:=by rw [hJS,hJZ]; exact (a1c (by rw [hzf]; exact zQ _ _ _ _)).1
 rw [dJ,← hJZ,← hJS] at hjn
 clear dJ hB1
 refine cY (ro rfl (eW A_32 Z_32 (Ht rfl) (i:=2) rfl rfl rfl) (rm rfl (ro rfl (cZ Tryz.call23 hr1 ⟨(Ht rfl),(Ht rfl),trivial⟩) (rm rfl (ro rfl (dU (Ht rfl) rfl) (ro rfl (dU (Ht rfl) rfl) (rn rfl (eG (Ts:=[Is (.bool false),Is (.slice none 0 0),Is (.bool false),Is (.slice none 0 0),Is (.slice none 0 0)]) O_51 rfl (fun V=>aW zd (aW zd (aW zd (aW zd (aW zd (aG))))))) fun B11=>(gJ Z_51 (Ht rfl) (Ht rfl) rfl (i:=4) rfl (aK rfl) rfl rfl ?_))))))))
 refine ra rfl (eZ (cK (bL [0,1,2,3,4] rfl (by decide) (cY (ro rfl (eW A_57 Z_57 (Ht rfl) (i:=1) rfl rfl rfl) (ro rfl (eW A_51 Z_51 (Ht rfl) (i:=4) rfl rfl rfl) (ro rfl (cZ Tryz.call24 hL1 ⟨(Ht rfl),(cJ 2),(Ht rfl),trivial⟩) (rm rfl (ro rfl (dU (Ht rfl) rfl) (ro rfl (dU (Ht rfl) rfl) (rn rfl (eG (Ts:=[Is (.slice none 0 0),Is (.slice none 0 0)]) O_32 rfl (fun V=>aW zd (aW zd (aG)))) fun B13=>(gJ Z_32 (Ht rfl) (Ht rfl) rfl (i:=5) rfl (aK rfl) rfl rfl ?_))))))))))))
 refine ra rfl (eZ (cK (bL [0,1,2,3,4,5] rfl (by decide) (cY (ro rfl (eW A_57 Z_57 (Ht rfl) (i:=1) rfl rfl rfl) (ro rfl (eW A_51 Z_51 (Ht rfl) (i:=4) rfl rfl rfl) (ro rfl (cZ Tryz.call24 hL2 ⟨(Ht rfl),(cJ 1),(Ht rfl),trivial⟩) (rm rfl (ro rfl (dU (Ht rfl) rfl) (ro rfl (dU (Ht rfl) rfl) (rn rfl (eG (Ts:=[Is (.slice none 0 0),Is (.slice none 0 0)]) O_32 rfl (fun V=>aW zd (aW zd (aG)))) fun B15=>(gJ Z_32 (Ht rfl) (Ht rfl) rfl (i:=6) rfl (aK rfl) rfl rfl ?_))))))))))))
 refine ra rfl (eZ (cK (cK (bL [0,1,2,3,4,5,6] rfl (by decide) (cY (rm rfl (ro rfl (eH (Ht rfl)) (rm rfl (fX rfl rfl (eU rfl rfl (Ht rfl) (fun h=>cX (Ht rfl))) (fX rfl rfl (eU rfl rfl (Ht rfl) (fun h=>eH (fW rfl h))) (ro rfl (kX (Ht rfl) (fun h=>(fW rfl h))) (eZ (fN (Ht rfl) (by rfl) ?_)))))))))))))
 refine cU (ts (ro rfl (eW A_32 Z_32 (Ht rfl) (i:=5) rfl rfl rfl) (ro rfl (cZ K_25 hat12 ⟨(Ht rfl),(cJ 1),(cJ 2),trivial⟩) (rm rfl (ro rfl (dU (Ht rfl) rfl) (ro rfl (dU (Ht rfl) rfl) (rn rfl (eG (Ts:=[Is (.bool false),Is (.slice none 0 0),Is (.bool false),Is (.slice none 0 0),Is (.slice none 0 0)]) O_51 rfl (fun V=>aW zd (aW zd (aW zd (aW zd (aW zd (aG))))))) fun B17=>(gJ Z_51 (Ht rfl) (Ht rfl) rfl (i:=7) rfl (aK rfl) rfl rfl ?_))))))))
 refine ra rfl (eZ (cK (bL [0,1,2,3,4,5,6,7] rfl (by decide) (cY (ro rfl (eW A_32 Z_32 (Ht rfl) (i:=5) rfl rfl rfl) (ro rfl (cZ K_25 hat21 ⟨(Ht rfl),(cJ 2),(cJ 1),trivial⟩) (rm rfl (ro rfl (dU (Ht rfl) rfl) (ro rfl (dU (Ht rfl) rfl) (rn rfl (eG (Ts:=[Is (.bool false),Is (.slice none 0 0),Is (.bool false),Is (.slice none 0 0),Is (.slice none 0 0)]) O_51 rfl (fun V=>aW zd (aW zd (aW zd (aW zd (aW zd (aG))))))) fun B19=>?_))))))))))
 refine gJ Z_51 (Ht rfl) (Ht rfl) rfl (i:=8) rfl (aK rfl) rfl rfl (ra rfl (eZ (cK (bL [0,1,2,3,4,5,6,7,8] rfl (by decide) (cY (ro rfl (eW A_32 Z_32 (Ht rfl) (i:=2) rfl rfl rfl) (rm rfl (ro rfl (eW A_32 Z_32 (Ht rfl) (i:=5) rfl rfl rfl) (ro rfl (cZ Tryz.call26 hem ⟨(Ht rfl),(Ht rfl),(Ht rfl),trivial⟩) (rm rfl (ro rfl (dU (Ht rfl) rfl) (ro rfl (dU (Ht rfl) rfl) (rn rfl (eG (Ts:=[Is (.slice none 0 0),Is (.slice none 0 0)]) O_32 rfl (fun V=>aW zd (aW zd (aG)))) fun B21=>?_)))))))))))))
 refine gJ Z_32 (Ht rfl) (Ht rfl) rfl (i:=9) rfl (aK rfl) rfl rfl (ra rfl (eZ (cK (bL [2,5,6,7,8,9] rfl (by decide) (jG (fun (uu:Unit)=>True) (fun (uu:Unit)=>[(7,bO B7 0),(10,NT .i64 (p + 1)),(13,bO B13 0),(15,bO B15 0),(17,bO B17 0),(19,bO B19 0),(21,bO B21 0),(22,aD .i64 EA)]) (fun (uu:Unit)=>[box B7 32 [bA z1,dM s1],box B13 32 [bA fZ,dM F],box B15 32 [bA gZ,dM F],box B17 51 [aC (decide ((gm F 0 1).a < 0)),aH (gm F 0 1).a.natAbs,aC (decide ((gm F 0 1).b < 0)),aH (gm F 0 1).b.natAbs,aH (du (gm F 0 1))],box B19 51 [aC (decide ((gm F 1 0).a < 0)),aH (gm F 1 0).a.natAbs,aC (decide ((gm F 1 0).b < 0)),aH (gm F 1 0).b.natAbs,aH (du (gm F 1 0))],box B21 32 [bA ZA,dM SA]]) ?_ (fun uu hT1=>?_))))))
 ·refine ts (rm rfl (ro rfl (iW (Ht rfl) cV) (rm rfl (fX rfl rfl (eU rfl rfl (Ht rfl) (fun h => eW A_51 Z_51 (Ht rfl) (i := 3) rfl rfl rfl)) (fX rfl rfl (eU rfl rfl (Ht rfl) (fun h => cZ K_27 (sE zo) ⟨(fW rfl h), trivial⟩)) (ro rfl (eA (Ht rfl) (fun h => (fW rfl h))) (rm rfl (fX rfl rfl (eU rfl rfl (Ht rfl) (fun h => eW A_51 Z_51 (Ht rfl) (i := 4) rfl rfl rfl)) (fX rfl rfl (eU rfl rfl (Ht rfl) (fun h => cZ K_27 (sE zo) ⟨(fW rfl h), trivial⟩)) ?_)))))))))
  refine ro rfl (eA (Ht rfl) (fun h=>(fW rfl h))) (eZ (dQ (Ht rfl) (fun hE=>?_) (fun hE=>?_)))
  ·simp only [Bool.and_eq_true, decide_eq_true_eq] at hE
   obtain ⟨⟨hE1,hE2⟩,hE3⟩:=hE
   have hE2':gm F 0 1 ≠ 0:=by simp at hE2 ⊢; exact hE2
   have hE3':gm F 1 0 ≠ 0:=by simp at hE3 ⊢; exact hE3
   obtain ⟨hD,vZ,vS⟩:=vA hE1
   have hrme:=a0S (F:=F) (fz:=fZ) hsh hn1 zo f3 f1 lfZ fF ffZ sF pfZ hD hE2' hE3'
   rw [← vZ,← vS] at hrme
   refine ts (ro rfl (eW A_32 Z_32 (Ht rfl) (i:=5) rfl rfl rfl) (rm rfl (ro rfl (eW A_32 Z_32 (Ht rfl) (i:=1) rfl rfl rfl) (ro rfl (cZ Tryz.call28 hrme ⟨(Ht rfl),(Ht rfl),(Ht rfl),trivial⟩) (rm rfl (ro rfl (dU (Ht rfl) rfl) (ro rfl (dU (Ht rfl) rfl) (rn rfl (eG (Ts:=[Is (.slice none 0 0),Is (.slice none 0 0)]) O_32 rfl (fun V=>aW zd (aW zd (aG)))) fun B23=>(gJ Z_32 (Ht rfl) (Ht rfl) rfl (i:=6) rfl (aK rfl) rfl rfl ?_)))))))))
   refine ra rfl (eZ (cK (bL [0,1,2,3,4,5,6] rfl (by decide) (cY (ro rfl (eW A_32 Z_32 (Ht rfl) (i:=6) rfl rfl rfl) (rm rfl (ro rfl (eW A_32 Z_32 (Ht rfl) (i:=0) rfl rfl rfl) (ro rfl (cZ Tryz.call29 hs0 ⟨(Ht rfl),(Ht rfl),(Ht rfl),(cJ 0),trivial⟩) (ro rfl (eH (Ht rfl)) (eZ (fN (Ht rfl) (by rfl) ?_)))))))))))
   refine cU (bL [0,1,2,3,4,5] rfl (by decide) (aT () trivial (zS rfl) (aU (aB rfl) (aU (aB rfl) (aU (aB rfl) (aU (aB rfl) (aU (aB rfl) (aU (aB rfl) aY))))))))
  ·refine cU (bL [0,1,2,3,4,5] rfl (by decide) (aT () trivial (zS rfl) (aU (aB rfl) (aU (aB rfl) (aU (aB rfl) (aU (aB rfl) (aU (aB rfl) (aU (aB rfl) aY))))))))
 ·refine cK (ts (ro rfl (eW A_32 Z_32 (Ht rfl) (i := 0) rfl rfl rfl) (rm rfl (ro rfl (eW A_32 Z_32 (Ht rfl) (i := 2) rfl rfl rfl) (ro rfl (cZ Tryz.call28 hrm ⟨(Ht rfl), (Ht rfl), (Ht rfl), trivial⟩) (rm rfl (ro rfl (dU (Ht rfl) rfl) (ro rfl (dU (Ht rfl) rfl) (rn rfl (eG (Ts := [Is (.slice none 0 0), Is (.slice none 0 0)]) O_32 rfl (fun V => aW zd (aW zd (aG)))) fun B25 => (gJ Z_32 (Ht rfl) (Ht rfl) rfl (i := 6) rfl (aK rfl) rfl rfl ?_))))))))))
  refine ra rfl (eZ (bL [0,1,2,3,4,5,6] rfl (by decide) (jG (fun (uu:Unit)=>True) (fun (uu:Unit)=>[(7,bO B7 0),(10,NT .i64 (p + 1)),(13,bO B13 0),(15,bO B15 0),(17,bO B17 0),(19,bO B19 0),(21,bO B21 0),(22,aD .i64 EA)]) (fun (uu:Unit)=>[box B7 32 [bA z1,dM s1],box B13 32 [bA fZ,dM F],box B15 32 [bA gZ,dM F],box B17 51 [aC (decide ((gm F 0 1).a < 0)),aH (gm F 0 1).a.natAbs,aC (decide ((gm F 0 1).b < 0)),aH (gm F 0 1).b.natAbs,aH (du (gm F 0 1))],box B19 51 [aC (decide ((gm F 1 0).a < 0)),aH (gm F 1 0).a.natAbs,aC (decide ((gm F 1 0).b < 0)),aH (gm F 1 0).b.natAbs,aH (du (gm F 1 0))],box B21 32 [bA ZA,dM SA]]) ?_ (fun uu hT2=>?_))))
  ·refine ts (rm rfl (ro rfl (iW (Ht rfl) cV) (eZ (dQ (Ht rfl) (fun hE => ?_) (fun hE => ?_)))))
   ·have hE1 : ER = 0 := of_decide_eq_true hE
    obtain ⟨h01,h10,hD,vZ,vS⟩:=vR hE1
    have herm:=a1Y (F:=F) (fz:=gZ) hsh hn1 zo f3 f1 lgZ fF fgZ sF pgZ hD h01 h10
    rw [← vZ,← vS] at herm
    refine ts (ro rfl (eW A_32 Z_32 (Ht rfl) (i:=6) rfl rfl rfl) (rm rfl (ro rfl (eW A_32 Z_32 (Ht rfl) (i:=2) rfl rfl rfl) (ro rfl (cZ Tryz.call26 herm ⟨(Ht rfl),(Ht rfl),(Ht rfl),trivial⟩) (rm rfl (ro rfl (dU (Ht rfl) rfl) (ro rfl (dU (Ht rfl) rfl) (rn rfl (eG (Ts:=[Is (.slice none 0 0),Is (.slice none 0 0)]) O_32 rfl (fun V=>aW zd (aW zd (aG)))) fun B27=>(gJ Z_32 (Ht rfl) (Ht rfl) rfl (i:=7) rfl (aK rfl) rfl rfl ?_)))))))))
    refine ra rfl (eZ (cK (bL [0,1,2,3,4,5,6,7] rfl (by decide) (cY (ro rfl (eW A_32 Z_32 (Ht rfl) (i:=7) rfl rfl rfl) (rm rfl (ro rfl (eW A_32 Z_32 (Ht rfl) (i:=0) rfl rfl rfl) (ro rfl (cZ Tryz.call29 hs0 ⟨(Ht rfl),(Ht rfl),(Ht rfl),(cJ 0),trivial⟩) (ro rfl (eH (Ht rfl)) (eZ (fN (Ht rfl) (by rfl) ?_)))))))))))
    refine cU (bL [0,1,2,3,4,5] rfl (by decide) (aT () trivial (zS rfl) (aU (aB rfl) (aU (aB rfl) (aU (aB rfl) (aU (aB rfl) (aU (aB rfl) (aU (aB rfl) aY))))))))
   ·refine cU (bL [0,1,2,3,4,5] rfl (by decide) (aT () trivial (zS rfl) (aU (aB rfl) (aU (aB rfl) (aU (aB rfl) (aU (aB rfl) (aU (aB rfl) (aU (aB rfl) aY))))))))
  ·refine ts (ro rfl (eW A_32 Z_32 (Ht rfl) (i := 0) rfl rfl rfl) (ro rfl (eW A_32 Z_32 (Ht rfl) (i := 1) rfl rfl rfl) (ro rfl (cZ Tryz.call30 hst ⟨(Ht rfl), (Ht rfl), trivial⟩) (rm rfl (ro rfl (dU (Ht rfl) rfl) (ro rfl (dU (Ht rfl) rfl) (rn rfl (eG (Ts := [Is (.slice none 0 0), Is (.slice none 0 0)]) O_32 rfl (fun V => aW zd (aW zd (aG)))) fun B29 => (gJ Z_32 (Ht rfl) (Ht rfl) rfl (i := 6) rfl (aK rfl) rfl rfl (ra rfl (eZ ?_))))))))))
   refine cK (bL [0,1,2,3,4,5,6] rfl (by decide) (Y.D_start (m:=13) [] (bY (Ei:=[(29,_)]) rfl rfl (bQ (bJ rfl rfl) bX) rfl rfl (dX rfl (eW A_32 Z_32 (Ht rfl) (i:=6) rfl rfl rfl)) (bY (Ei:=[(10,_)]) rfl rfl (bQ (bJ rfl rfl) bX) rfl rfl (dX rfl (cX (Ht rfl))) (bY (Ei:=[(7,_)]) rfl rfl (bQ (bJ rfl rfl) bX) rfl rfl (dX rfl (eW A_32 Z_32 (Ht rfl) (i:=0) rfl rfl rfl)) (bY (Ei:=[(149,_)]) rfl rfl (bQ (bZ 2 rfl rfl) bX) rfl rfl (dX rfl (cZ K_22 qJ ⟨(Ht rfl),trivial⟩)) ?_))))))
   refine bY (Ei:=[(150,_)]) rfl rfl (bQ (bZ 3 rfl rfl) bX) rfl rfl (dX rfl (dW (Ht rfl) (cJ 2) z6)) (bY (Ei:=[(148,_),(151,_)]) rfl rfl (bQ (bZ 1 rfl rfl) (bQ (bZ 4 rfl rfl) bX)) rfl rfl (dX rfl (Kd (Ht rfl) (Ht rfl))) (bY (Ei:=[(152,_)]) rfl rfl (bQ (bZ 5 rfl rfl) bX) rfl rfl (dX rfl (dH (xs:=[.tmp 152]) U_26 Z_71 Tryz.zeroValue71 (cW (Ht rfl) cG) rfl rfl rfl)) ?_))
   refine bY (Ei:=[(147,_),(153,_)]) rfl rfl (bQ (bZ 0 rfl rfl) (bQ (bZ 6 rfl rfl) bX)) rfl rfl (dX rfl (cZ Tryz.call31 hjn ⟨(Ht rfl),(Ht rfl),trivial⟩)) (bY (Ei:=[(154,_)]) rfl rfl (bQ (bZ 7 rfl rfl) bX) rfl rfl (dX rfl (cX (Ht rfl))) (bY (Ei:=[(146,_)]) rfl rfl (bQ (bZ 8 rfl rfl) bX) rfl rfl (dX rfl (dU (Ht rfl) rfl)) (bY (Ei:=[(146,_)]) rfl rfl (bQ (bZ 8 rfl rfl) bX) rfl rfl (dX rfl (dU (Ht rfl) rfl)) ?_)))
   refine Y.D_newp (Ei:=[]) (fun bb=>box bb 32 [bA JZ,dM JS]) 12 rfl rfl rfl bX rfl rfl (by kernel_rfl) (eG (Ts:=[Is (.slice none 0 0),Is (.slice none 0 0)]) O_32 rfl (fun V=>aW zd (aW zd (aG)))) (Y.D_putN (Ei:=[(155,_)]) 11 rfl rfl rfl rfl rfl rfl (bQ (bZ 9 rfl rfl) bX) (fun bb=>lQ Z_32 (Ht rfl) (Ht rfl) rfl (i:=0) rfl (aK rfl) rfl rfl) (Y.D_done bF rfl (by kernel_rfl) rfl (by simp [Y.okP]) rfl rfl (bU (bU (bU (bU (bU (bU (bU (bU (bU (bU (bU (Y.F_newp (fun B31=>Y.F_putN (Y.F_nil ?_))))))))))))))))
   refine ra rfl (eZ (cK (cK (bL [0,1,2,3,4,5,6,7] rfl (by decide) (cY (rm rfl (ro rfl (fB (Ht rfl) cV) (rm rfl (fX rfl rfl (kG rfl rfl (Ht rfl) (fun h=>cX (Ht rfl))) (fX rfl rfl (kG rfl rfl (Ht rfl) (fun h=>cX (Ht rfl))) (fX rfl rfl (kG rfl rfl (Ht rfl) (fun h=>fB (bC.wu rfl h) (bC.wu rfl h))) (fX rfl rfl (kG rfl rfl (Ht rfl) (fun h=>cX (bC.wu rfl h))) (fX rfl rfl (qC rfl rfl rfl (fun h h2=>cX (Ht rfl))) (fX rfl rfl (qC rfl rfl rfl (fun h h2=>fB (bC.wu rfl ⟨h,h2⟩) cV)) ?_))))))))))))))
   refine fX rfl rfl (kG rfl rfl (Ht rfl) (fun h=>eA (bC.wu rfl h) (fun h2=>(bC.wu rfl ⟨h,h2⟩)))) (ro rfl (kX (Ht rfl) (fun h=>(bC.wu rfl h))) (eZ (fN (Ht rfl) (by simp) ?_)))
   refine cU (cK (ts (rm rfl (ro rfl (fB (Ht rfl) cV) (eZ (dQ (Ht rfl) (fun hE5=>?_) (fun hE5=>?_)))))))
   ·have hE6 : EA = 6 := by
     have:EA ≠ 0:=by simpa using hE5
     rw [dA] at this ⊢
     split at this
     ·rename_i k; rw [if_pos k]
     ·exact absurd rfl this
    refine ts (rm rfl (ro rfl (iW (Ht rfl) cV) (rm rfl (fX rfl rfl (eU rfl rfl (Ht rfl) (fun h=>cZ Tryz.call32 He trivial)) (ro rfl (eA (Ht rfl) (fun h=>(fW rfl h))) (ra rfl (eZ (fK rfl (fJ (eY rfl) ?_)))))))))
    exact (eN (by simp [hE6]))
   ·have hE1 : EA = 0 := by simpa using hE5
    obtain ⟨hD,vZ,vS⟩:=vA hE1
    obtain ⟨g1,g2,g3⟩:=a1g (z:=z1) (fz:=fZ) (s:=s1) (f:=F) rfl lfZ hn1 pfZ hD
    rw [← hJS,← vS] at g1
    rw [← hJZ,← vZ] at g2
    rw [← hJZ] at g3
    have hren : bB Tryz.prog 33 [bR JZ JS, hJ (Wl z1.length p)] (dN [bR ZA SA, aD .i64 0]) := by
     have h:=a1E (z:=JZ) (s:=JS) (O:=Wl z1.length p) sJ zo (by rw [g3]; exact Rk hn1 hzl)
     rw [Wh hn1,g1,g2] at h; exact h
    have lA:ZA.length = z1.length:=by rw [vZ,List.length_set]
    have hsame : bB Tryz.prog 29 [bR ZA SA, aD .i64 0, bR ZA SA, aD .i64 EA] (aC true) := by
     have fZA:cC ZA 60:=by rw [vZ]; exact fun x hx=>(List.mem_or_eq_of_mem_set hx).elim (fun k=>(f1 x k).le (by decide)) fun e=>e ▸ (ffZ.get (by decide) 0).le (by decide)
     have fSA:bT SA 60:=by rw [vS]; exact Fw f3 fF (by decide) hD
     have sSA:eR SA ZA.length ZA.length:=by rw [lA,vS]; exact eR.tab
     have h:=Ta (z:=ZA) (z':=ZA) (s:=SA) (s':=SA) (e:=0) (e':=EA) (L:=60) fZA fZA fSA fSA (by decide) (by decide) sSA sSA zo zo
     rw [zE,hE1] at h; rw [hE1]; exact h
    refine cU (ts (ro rfl (cQ cV) (eZ (cK (cK (bL [0,5,7] rfl (by decide) (rQ 3 1 (cY (ro rfl (cQ (cJ 1)) (eZ (eK ?_)))))))))))
    refine fT (fun (k : Nat) (vO : Value) => k ≤ z1.length) (fun (k : Nat) (vO : Value) => z1.length - k) (fun (k : Nat) (vO : Value) => [(7, bO B7 0), (10, NT .i64 (p + 1)), (21, bO B21 0), (22, aD .i64 EA), (31, bO B31 0), (33, Is vO), (34, NT .i64 (k + 1))]) (fun (k : Nat) (vO : Value) => [box B7 32 [bA z1, dM s1], box B21 32 [bA ZA, dM SA], box B31 32 [bA JZ, dM JS], bM 3 1 vO ((tab k fun k => qW p k z1.length + 1).map (NT .i64))]) 0 _ (Nat.zero_le _)
     (zS rfl) (aU (aB rfl) (aU (aB rfl) (aU (aB rfl) (aU (aR rfl) aY)))) (fun k vO hk2=>?_)
    refine cK (ts (rm rfl (ro rfl (eW A_32 Z_32 (Ht rfl) (i:=0) rfl rfl rfl) (ro rfl (cZ K_22 qJ ⟨(Ht rfl),trivial⟩) (ro rfl (uF (Ht rfl) (Ht rfl)) (eZ (dQ (Ht rfl) (fun hc=>?_) (fun hc=>?_))))))))
    ·have hkn : k < z1.length := by simp only [decide_eq_true_eq] at hc; omega
     have htl:=aO k fun k=>qW p k z1.length + 1
     refine cU (cK (eK (eK (ts (rm rfl (rm rfl (ro rfl (gV (Ht rfl) (Ht rfl)) (ra rfl (eZ (dQ (Ht rfl) (fun h1c=>?_) (fun h1c=>?_)))))))))))
     ·have hkp : k < p := by simp only [decide_eq_true_eq] at h1c; omega
      refine cY (rm rfl (rm rfl (ro rfl (dH (xs:=[.tmp 191]) U_72 Z_3 O_3 (cW (Ht rfl) cG) rfl rfl rfl) (mW (inf:=Tryz.t3) zH yN rfl rfl rfl (Ht rfl) (Ht rfl) (i:=3) rfl (by simp) (fun T hT=>by simp at hT; subst hT; exact El.one) (by show _ * 8 ≤ _; simp only [List.length_map,List.length_cons,List.length_nil]; omega) (by simp only [List.length_map,List.length_cons,List.length_nil]; omega) rfl (fun v2=>?_)))))
      refine ra rfl (eZ (bH (bH (cY (rm rfl (ro rfl (dW (Ht rfl) (cJ 1) z6) (ra rfl (eZ (gQ (k + 1,v2) hkn (by dsimp only; omega) (zS rfl) (aU (aB rfl) (aU (aB rfl) (aU (aB rfl) (aU (aR (by rw [jZ,List.map_append,show qW p k z1.length + 1 = k + 1 from by unfold qW; rw [if_pos hkp]]; rfl)) aY)))))))))))))
     ·have hkp : ¬ k < p := by simp only [decide_eq_false_iff_not] at h1c; omega
      refine ts (rm rfl (rm rfl (ro rfl (cB (Ht rfl) (Ht rfl)) (ra rfl (eZ (dQ (Ht rfl) (fun h2c=>?_) (fun h2c=>?_)))))))
      ·have hke : k = p := by simp only [decide_eq_true_eq] at h2c; omega
       refine cY (rm rfl (ro rfl (eW A_32 Z_32 (Ht rfl) (i:=0) rfl rfl rfl) (ro rfl (cZ K_22 qJ ⟨(Ht rfl),trivial⟩) (ro rfl (dH (xs:=[.tmp 200]) U_72 Z_3 O_3 (cW (Ht rfl) cG) rfl rfl rfl) (mW (inf:=Tryz.t3) zH yN rfl rfl rfl (Ht rfl) (Ht rfl) (i:=3) rfl (by simp) (fun T hT=>by simp at hT; subst hT; exact El.one) (by show _ * 8 ≤ _; simp only [List.length_map,List.length_cons,List.length_nil]; omega) (by simp only [List.length_map,List.length_cons,List.length_nil]; omega) rfl (fun v2=>?_))))))
       refine ra rfl (eZ (bH (bH (cY (rm rfl (ro rfl (dW (Ht rfl) (cJ 1) z6) (ra rfl (eZ (gQ (k + 1,v2) hkn (by dsimp only; omega) (zS rfl) (aU (aB rfl) (aU (aB rfl) (aU (aB rfl) (aU (aR (by rw [jZ,List.map_append,show qW p k z1.length + 1 = z1.length from by unfold qW; rw [if_neg hkp,if_pos hke]; omega]; rfl)) aY)))))))))))))
      ·have hke : ¬ k = p := by simp only [decide_eq_false_iff_not] at h2c; omega
       refine cY (rm rfl (rm rfl (ro rfl (dG (Ht rfl) (cJ 1) zo z6) (ro rfl (dH (xs:=[.tmp 183]) U_72 Z_3 O_3 (cW (Ht rfl) cG) rfl rfl rfl) (mW (inf:=Tryz.t3) zH yN rfl rfl rfl (Ht rfl) (Ht rfl) (i:=3) rfl (by simp) (fun T hT=>by simp at hT; subst hT; exact El.one) (by show _ * 8 ≤ _; simp only [List.length_map,List.length_cons,List.length_nil]; omega) (by simp only [List.length_map,List.length_cons,List.length_nil]; omega) rfl (fun v2=>?_))))))
       refine ra rfl (eZ (bH (bH (cY (rm rfl (ro rfl (dW (Ht rfl) (cJ 1) z6) (ra rfl (eZ (gQ (k + 1,v2) hkn (by dsimp only; omega) (zS rfl) (aU (aB rfl) (aU (aB rfl) (aU (aB rfl) (aU (aR (by rw [jZ,List.map_append,show qW p k z1.length + 1 = k + 1 - 1 from by unfold qW; rw [if_neg hkp,if_neg hke]; omega]; rfl)) aY)))))))))))))
    ·have hkn : k = z1.length := by simp only [decide_eq_false_iff_not] at hc; omega
     rw [hkn]
     refine gK rfl (gG (i:=3) (tt:=33) rfl rfl fP (ts (ro rfl (eW A_32 Z_32 (Ht rfl) (i:=2) rfl rfl rfl) (rm rfl (ro rfl (cZ Tryz.call33 hren ⟨(Ht rfl),(Ht rfl),trivial⟩) (rm rfl (ro rfl (dU (Ht rfl) rfl) (ro rfl (dU (Ht rfl) rfl) (rn rfl (eG (Ts:=[Is (.slice none 0 0),Is (.slice none 0 0)]) O_32 rfl (fun V=>aW zd (aW zd (aG)))) fun B35=>(gJ Z_32 (Ht rfl) (Ht rfl) rfl (i:=4) rfl (aK rfl) rfl rfl (ra rfl (eZ (ts ?_)))))))))))))
     refine ro rfl (eW A_32 Z_32 (Ht rfl) (i:=4) rfl rfl rfl) (rm rfl (ro rfl (eW A_32 Z_32 (Ht rfl) (i:=1) rfl rfl rfl) (rm rfl (ro rfl (cZ Tryz.call29 hsame ⟨(Ht rfl),(Ht rfl),(Ht rfl),(Ht rfl),trivial⟩) (rm rfl (fX rfl rfl (eU rfl rfl (Ht rfl) (fun h=>cZ Tryz.call32 He trivial)) (ro rfl (eA (Ht rfl) (fun h=>(fW rfl h))) (ra rfl (eZ ?_)))))))))
     exact fK rfl (eY rfl)
end
section
open Go Go.ChangeShapes Go.WideShapes Go.ChangeAt Go.RowKit Go.Deep
section
variable {H:Type} {enc:TypeId × Value → H} {W:World} {base:Nat} {sp:Nat → Bool} {held:Bool}
theorem a3o:S3 Tryz.prog 57 5 22 22:=⟨⟨_,_,_,Tryz.underlying57,rfl,rfl,rfl,rfl,rfl,rfl⟩,by kernel_rfl,by kernel_rfl,by kernel_rfl,by kernel_rfl⟩
theorem Aj {b0:Nat} {v:Value} {d:DataW H} {p:List MemPlace} (ho:Value.okWide Tryz.prog W .any b0 57 v) (h:DataW.Trod enc Tryz.prog W base sp held 57 v d p):∃ (a:Nat) (zl sl:List Rt),(eD [NT .u8 a,lV zl,lV sl]).p v (hv W) ∧ a < 256:=by
 obtain ⟨cs,rfl,_⟩:=okWide_struct Tryz.underlying57 ho
 obtain ⟨n,hn⟩:=h
 obtain ⟨x0,x1,x2,m,y0,y1,y2,hcs,h0,h1,h2⟩:=a3o.open hn
 obtain ⟨i,e0,_,w⟩:=DataW.trod_int Tryz.underlying5 h0
 obtain ⟨v1,z,e1,k1⟩:=Bn h1
 obtain ⟨v2,s,e2,k2⟩:=Bn h2
 simp only [List.cons.injEq,and_true] at e0 e1 e2
 subst e0 e1 e2
 have hw:=a0s w
 have e:((i.toNat:Nat):Int) = i:=by omega
 have hi:∀ V,(NT .u8 i.toNat).p (.int .u8 i) V:=fun V=>by rw [show NT .u8 i.toNat = aD .u8 i from congrArg (aD .u8) e]; rfl
 have hcs2:cs.toList = [.int .u8 i,x1,x2]:=hcs
 exact ⟨i.toNat,z,s,⟨cs.toList,rfl,by rw [hcs2]; exact aW ⟨hi _,trivial⟩ (aW ⟨k1,(Gz k1).2⟩ (aW ⟨k2,(Gz k2).2⟩ aG))⟩,by omega⟩
end
end
end Go.Proofs.YteohomnhncjcnaaGreat
