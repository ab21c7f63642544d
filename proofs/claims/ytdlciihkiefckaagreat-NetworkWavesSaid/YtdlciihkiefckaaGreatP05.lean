/- What functions of the program compute, proved by walks over their code, and the plain mathematics of it; a part of the proof in the last text. -/
import Derived.Test.YtdlciihkiefckaaGreatP04
set_option linter.unusedVariables false
set_option linter.unusedSimpArgs false
set_option maxRecDepth 100000
set_option maxHeartbeats 4000000
namespace Go.Proofs.YtdlciihkiefckaaGreat
section
open Go Go.RowKit
def wvL (n:Nat) (l:List Rt):List Qi:=tab n fun i=>(tY (zC l i)).q
theorem Vw (n:Nat) (l:List Rt):(wvL n l).length = n:=aO _ _
theorem Vv (n:Nat) (l:List Rt):cH (wvL n l) 2:=cH.tab fun _ _=>fitRt
theorem No {z:List Qi} {s:List (List Qi)} {l:List Rt} (h8:z.length ≤ 8):gP Tryz.prog 62 [dT z s,jD l] [] (Value) (fun v=>Is v) (fun v=>[bE 60 5 v ((wvL z.length l).map aD)]) (fun v=>oX v):=by
 refine gP.intro Tryz.func62 rfl Tryz.ntmps62 rfl (fun cx Z=>(ts (rn rfl (gQ (Ht rfl)) fun B2=>(ro rfl (cQ cV) (eX (ts (ro rfl (eW A_28 Z_28 (Ht rfl) (i:=1) rfl rfl rfl) (ro rfl (cZ Tryz.call31 Au ⟨(Ht rfl),trivial⟩) (Ak (T:=aD Qi.zero) (i:=Tryz.t60) jP iM rfl rfl (Ht rfl) rfl gH (El.ag rfl) (by show 88 * _ ≤ _; omega) zo rfl (fun B9 hB9=>(ra rfl (eX (cK (ts (rm rfl (ro rfl (kL U_25 (Ht rfl) (i:=2) rfl (show ((List.replicate z.length (aD Qi.zero)).length:Int) = ((z.length:Nat):Int) from by simp)) ?_))))))))))))))))
 refine ro rfl (cX (cJ 0)) (eX (eK ?_))
 refine dB (fun (i : Nat) => i ≤ z.length) (fun (i : Nat) => z.length - i) (fun (i : Nat) => [(1, jD l), (2, cE B2 0), (5, Is B9), (11, NT .i64 z.length), (12, NT .i64 i)]) (fun (i : Nat) => [Z, box B2 28 [bL z, eE s], bE 60 5 B9 ((kA (fun i => (tY (zC l i)).q) Qi.zero z.length i).map aD)]) 0 (Nat.zero_le _)
  (zS rfl) (aU (fun _ _ _ h=>h) (aU (aB rfl) (aU (bA (by rw [← iN]; exact nT aD _)) aY))) (fun i hi=>?_)
 refine ts (ro rfl (gW (Ht rfl) (Ht rfl)) (eX (cK (dQ (Ht rfl) (fun hc=>?_) (fun hc=>?_)))))
 ·have hin : i < z.length := by simp only [decide_eq_true_eq] at hc; omega
  refine cU (cK (eK (ts (rm rfl (ra rfl (eX (cY (rm rfl (rm rfl (rm rfl (rm rfl (ro rfl (cZ Tryz.call166 (Gi (l:=l) (i:=i)) ⟨(Ht rfl),(Ht rfl),trivial⟩) (ro rfl (cZ Tryz.call128 (Az (r:=zC l i)) ⟨(Ht rfl),trivial⟩) ?_)))))))))))))
  refine ro rfl (cZ Tryz.call33 (Ic (r:=tY (zC l i))) ⟨(Ht rfl),trivial⟩) ?_
  refine ro rfl (cC U_25 Z_60 (Ht rfl) (Ht rfl) rfl (i:=2) rfl (by rw [List.length_map,cR]; omega) rfl) ?_
  refine jY Z_60 (Ht rfl) (Ht rfl) (El.ag rfl) (i:=2) rfl rfl (by rw [List.length_map,cR]; omega) rfl ?_
  refine eX (bI (cY (ro rfl (dV (Ht rfl) (cJ 1) z6) (rm rfl (eX (gZ (i + 1) hin zo (zS rfl) (aU (fun _ _ _ h=>h) (aU (aB rfl) (aU (bA (by rw [fB]; exact congrArg _ (jJ (f:=(fun i=>(tY (zC l i)).q))))) aY)))))))))
 ·have hin : i = z.length := by simp only [decide_eq_false_iff_not] at hc; omega
  rw [hin,jI,show tab z.length (fun i=>(tY (zC l i)).q) = wvL z.length l from rfl]
  refine gU rfl (ts (rm rfl (ra rfl (eX ?_))))
  exact kO B9 hB9 [0,2] ⟨⟨_,rfl,fun _ _ _ h=>h⟩,⟨_,rfl,fun _ _ _ h=>h⟩,trivial⟩ (by decide) (yB rfl (eY rfl))
theorem Mw {z a:List Qi} {s:List (List Qi)} {L:Nat} (hs:iF s z.length z.length) (hf:cF s L) (ha:cH a L) (hL:1 ≤ L) (hLb:L ≤ 3000000000) (h1:1 ≤ z.length) (hl:z.length ≤ 1000) (hn:a.length = z.length):gP Tryz.prog 63 [dT z s,bL a] [] (Value) (fun v=>dM [Is v,aF .i64 0]) (fun v=>[bE 60 5 v ((jZ s a z.length).map aD)]) (fun v=>oX v):=by
 have hsl:=hs.1
 refine gP.intro Tryz.func63 rfl Tryz.ntmps63 rfl (fun cx Z=>(ts (rn rfl (gQ (Ht rfl)) fun B2=>(ro rfl (cQ cV) (ro rfl (cQ (cJ 0)) (eX (cK (ts (rm rfl (ro rfl (dG U_25 (Ht rfl) aA) (ro rfl (eJ iG (Ht rfl) rfl) (ro rfl (fQ A_25 Z_25 (Ht rfl) (i:=1) rfl rfl) (ro rfl (dG U_25 (Ht rfl) aA) (ro rfl (gD (Ht rfl) (Ht rfl)) (eX (fR (Ht rfl) (by simp [hn]) ?_))))))))))))))))
 refine cU (ts (rm rfl (ro rfl (dG U_25 (Ht rfl) (by rw [List.length_map,hn])) ?_)))
 refine Ak (T:=aD Qi.zero) (i:=Tryz.t60) jP iM rfl rfl (Ht rfl) rfl gH (El.ag rfl) (by show 88 * _ ≤ _; omega) zo rfl (fun B17 hB17=>(ra rfl (eX (cK (ts (ro rfl (eJ eT (Ht rfl) rfl) (ro rfl (fQ A_26 Z_26 (Ht rfl) (i:=1) rfl rfl) (ro rfl (dG U_26 (Ht rfl) (by rw [List.length_map,hsl])) ?_))))))))
 refine ro rfl (cX (cJ 0)) (eX (eK ?_))
 refine dB (fun (i : Nat) => i ≤ z.length) (fun (i : Nat) => z.length - i) (fun (i : Nat) => [(1, bL a), (2, cE B2 0), (6, Is B17), (19, eE s), (20, NT .i64 z.length), (21, NT .i64 i)]) (fun (i : Nat) => [Z, box B2 28 [bL z, eE s], bE 60 5 B17 ((kA (fun i => Lz (s.getD i []) a z.length) Qi.zero z.length i).map aD)]) 0 (Nat.zero_le _)
  (zS rfl) (aU (fun _ _ _ h=>h) (aU (aB rfl) (aU (bA (by rw [← iN]; exact nT aD z.length)) aY))) (fun i hi=>?_)
 refine ts (ro rfl (gW (Ht rfl) (Ht rfl)) (eX (cK (dQ (Ht rfl) (fun hd=>?_) (fun hd=>?_)))))
 ·simp only [decide_eq_true_eq] at hd
  have hsr:=hs.row hd
  haveI f1:aM (gm s i 0) L:=hf.get hL i 0
  haveI f2:aM (gv a 0) L:=ha.get hL 0
  have hnl:(z.length - 1) * (2 * L + 2) ≤ 1000 * (2 * L + 2):=Nat.mul_le_mul_right _ zo
  have hda:=Gn (s.getD i []) a (z.length - 1)
  rw [show z.length - 1 + 1 = z.length by omega] at hda
  refine cU (cK (eK (ts (rm rfl (ro rfl (dZ U_26 Z_25 (Ht rfl) (Ht rfl) rfl (dY (dU (d:=[]) zo))) (ro rfl (dJ A_25 Z_25 (Ht rfl)) (ra rfl (ra rfl (eX (fW (m:=15) (dp 6 rfl (cX (Ht rfl)) (dp 7 rfl (cX (Ht rfl)) (dp 8 rfl (cX (Ht rfl)) (dq 28 2 rfl (dZ U_25 Z_60 (Ht rfl) (cJ 0) rfl (dY (dU (d:=Qi.zero) zo))) (dq 29 3 rfl (dJ A_60 Z_60 (Ht rfl)) (dq 30 4 rfl (bH bR (Ht rfl)) (dp 1 rfl (cX (Ht rfl)) ?_)))))))))))))))))
  refine dq 32 6 rfl (dZ U_25 Z_60 (Ht rfl) (cJ 0) rfl (dY (dU (d:=Qi.zero) zo))) (dq 33 7 rfl (dJ A_60 Z_60 (Ht rfl)) (dP 31 5 34 8 rfl (bD dC K_70 (kQ (x:=gm s i 0) (y:=gv a 0) (L:=L) (M:=L) zo) (Ht rfl) ⟨(Ht rfl),trivial⟩) (dp 8 rfl (cX (Ht rfl)) (dq 36 10 rfl (aE.imp (nF U_25 Z_60 (Ht rfl) (cJ 1) rfl (by rw [List.length_map]; omega)) (iQ (Us:=((s.getD i []).drop 1).map aD) (by rw [List.map_drop]))) ?_))))
  refine dp 1 rfl (cX (Ht rfl)) (dq 38 12 rfl (aE.imp (nF U_25 Z_60 (Ht rfl) (cJ 1) rfl (by rw [List.length_map]; omega)) (iQ (Us:=(a.drop 1).map aD) (by rw [List.map_drop]))) ?_)
  refine C.D_step (Ei:=[(35,_),(37,_),(39,_)]) rfl rfl (bV (bG 9 rfl rfl) (bV (bG 11 rfl rfl) (bV (bG 13 rfl rfl) bW))) (dX rfl (cZ Tryz.call127 (eQ (Wg (x:=gm s i 0 * gv a 0) (l:=(s.getD i []).drop 1) (m:=a.drop 1) (L:=L) (M:=L + L + 1) (n:=z.length - 1) inferInstance (sG (hf.row i)) (sG ha) hL (by rw [List.length_drop]; omega) (by rw [List.length_drop]; omega) zo zo) (iX hda)) ⟨(Ht rfl),(Ht rfl),(Ht rfl),trivial⟩)) ?_
  refine fK bC rfl (by kernel_rfl) (zF (zF (zF (aJ (aJ (aJ (aV (ro rfl (cC U_25 Z_60 (Ht rfl) (Ht rfl) rfl (i:=2) rfl (by rw [List.length_map,cR]; omega) rfl) ?_))))))))
  refine jY Z_60 (Ht rfl) (Ht rfl) (El.ag rfl) (i:=2) rfl rfl (by rw [List.length_map,cR]; omega) rfl ?_
  refine eX (bI (cY (ro rfl (dV (Ht rfl) (cJ 1) z6) (rm rfl (eX (gZ (i + 1) hd zo (zS rfl) (aU (fun _ _ _ h=>h) (aU (aB rfl) (aU (bA (by rw [fB,← jJ (f:=(fun i=>Lz (s.getD i []) a z.length))])) aY)))))))))
 ·simp only [decide_eq_false_iff_not] at hd
  have hiz:i = z.length:=Nat.le_antisymm hi zo
  rw [hiz,jI]
  refine gU rfl (ts (rm rfl (ra rfl (ro rfl (cQ (cJ 0)) (eX ?_)))))
  exact kO B17 hB17 [0,2] ⟨⟨_,rfl,fun _ _ _ h=>h⟩,⟨_,rfl,(bA (by rfl))⟩,trivial⟩ (by decide) (Vf rfl (eY rfl) (eY rfl))
def pM (x:List Qi) (i:Nat):List Qi:=x.take i ++ x.drop (i + 1)
theorem yP {x:List Qi} {i:Nat} (hi:i < x.length):(pM x i).length = x.length - 1:=by rw [pM,List.length_append,List.length_take,List.length_drop]; omega
theorem Fg {x:List Qi} {i L:Nat} (h:cH x L):cH (pM x i) L:=fun y hy=>(List.mem_append.1 hy).elim (fun k=>h y (List.mem_of_mem_take k)) fun k=>h y (List.mem_of_mem_drop k)
theorem Jx {x:List Qi} {i k:Nat} (hi:i < x.length):gv (pM x i) k = gv x (iE i k):=by
 unfold iE pM gv
 by_cases c:k < i
 ·rw [if_pos c,List.getD,List.getD,List.getElem?_append_left (by rw [List.length_take]; omega),List.getElem?_take,if_pos c]
 ·rw [if_neg c, List.getD, List.getD, List.getElem?_append_right (by rw [List.length_take]; omega), List.length_take, List.getElem?_drop]
  congr 2; omega
theorem xE {x:List Qi} {i:Nat} (hi:i < x.length) (hl:x.length ≤ 1000):gP Tryz.prog 65 [bL x,NT .i64 i] [] (Value) (fun v=>Is v) (fun v=>[bE 60 5 v ((pM x i).map aD)]) (fun _=>True):=by
 refine gP.intro Tryz.func65 rfl Tryz.ntmps65 rfl (fun cx Z=>(ts (ro rfl (cQ cV) (eX (ts (rn rfl (uJ U_25 Z_60 O_60) fun B6=>(rm rfl (rm rfl (ro rfl (aE.imp (oO U_25 Z_60 (Ht rfl) (Ht rfl) (fun m h=>by cases h) zo (by rw [List.length_map]; omega) rfl) (iQ (Us:=(x.take i).map aD) (by rw [List.map_take,Int.toNat_natCast]))) ?_)))))))))
 refine tC (inf:=Tryz.t60) jP iM rfl rfl rfl (Ht rfl) (Ht rfl) (i:=1) rfl (fun T hT=>by obtain ⟨x,_,rfl⟩:=List.mem_map.1 hT; exact El.ag rfl) (by show _ * 88 ≤ _; simp only [List.length_map,List.length_nil,List.nil_append,List.length_take,List.length_drop,List.length_append]; omega) (by simp only [List.length_map,List.length_nil,List.nil_append,List.length_take,List.length_drop,List.length_append]; omega) rfl (fun v10=>?_)
 refine ra rfl (eX (ts (rm rfl (rm rfl (rm rfl (ro rfl (dV (Ht rfl) (cJ 1) z6) (ro rfl (aE.imp (nF U_25 Z_60 (Ht rfl) (Ht rfl) rfl (by rw [List.length_map]; omega)) (iQ (Us:=(x.drop (i + 1)).map aD) (by rw [List.map_drop]))) ?_)))))))
 refine tC (inf:=Tryz.t60) jP iM rfl rfl rfl (Ht rfl) (Ht rfl) (i:=1) rfl (fun T hT=>by obtain ⟨x,_,rfl⟩:=List.mem_map.1 hT; exact El.ag rfl) (by show _ * 88 ≤ _; simp only [List.length_map,List.length_nil,List.nil_append,List.length_take,List.length_drop,List.length_append]; omega) (by simp only [List.length_map,List.length_nil,List.nil_append,List.length_take,List.length_drop,List.length_append]; omega) rfl (fun v16=>?_)
 refine ra rfl (eX ?_)
 exact kO v16 trivial [0,1] ⟨⟨_,rfl,fun _ _ _ h=>h⟩,⟨_,rfl,(bA (by rw [pM,List.map_append]; rfl))⟩,trivial⟩ (by decide) (yB rfl (eY rfl))
theorem Fx {a:List Qi} (h:a.length ≠ 0):bB Tryz.prog 63 [dT [] [],bL a] (dM [bL [],aF .i64 4]):=by
 refine bB.intro Tryz.func63 rfl Tryz.ntmps63 rfl (fun cx=>(ts (rn rfl (gQ (Ht rfl)) fun B2=>(ro rfl (cQ cV) (ro rfl (cQ (cJ 0)) (eX (cK (ts (rm rfl (ro rfl (dG U_25 (Ht rfl) aA) (ro rfl (eJ iG (Ht rfl) rfl) (ro rfl (fQ A_25 Z_25 (Ht rfl) (i:=0) rfl rfl) (ro rfl (dG U_25 (Ht rfl) aA) (ro rfl (gD (Ht rfl) (Ht rfl)) (eX (mI (Ht rfl) (by simp; exact fun e=>h (by rw [e]; rfl)) ?_))))))))))))))))
 refine ts (ro rfl (cQ cV) (ro rfl (cQ (cJ 4)) (eX (bN rfl (fV (eY rfl) ?_) (eY rfl)))))
 exact (fun v V h=>iO _ _ h)
section
variable {z:List Qi} {s:List (List Qi)} {x:List Qi} {g:Qi} {p:Nat}
theorem Rd (hs : iF s z.length z.length) (hfs : cF s 2) (hx : x.length = z.length) (hfx : cH x 2) (hn : z.length ≤ 4) (h1 : z.length ≠ 1) (hp : p < z.length) (hg : aM g 80) (hgx : gv x p = g * gv (jZ s x z.length) p) :
  ∃ (ZT OT : List Qi) (ST : List (List Qi)) (TE ET : Int), bB Tryz.prog 40 [dT z s, NT .i64 (p + 1), aD g] (dM [dT ZT ST, aF .i64 TE]) ∧ bB Tryz.prog 63 [dT ZT ST, bL (pM x p)] (dM [bL OT, aF .i64 ET])
   ∧ (TE = 6 ∨ TE = 0 ∧ ET = 0 ∧ OT = pM (jZ s x z.length) p):=by
 have hyl:(jZ s x z.length).length = z.length:=aO _ _
 have hT:=Nh (z:=z) (s:=s) (port:=((p + 1:Nat):Int)) (g:=g) (L:=80) hs (hfs.le (by decide)) hg (by decide) (by decide) zo
 have hE:=Qw (z:=z) (s:=s) (g:=g) hp h1
 rw [show (p:Int) + 1 = ((p + 1:Nat):Int) by omega] at hE
 have hwl:=yP (x:=x) (i:=p) zo
 by_cases hd:Qi.ofInt 1 - gm s p p * g = Qi.zero
 ·rw [if_pos hd] at hE
  rw [nI,nH,hE] at hT
  exact ⟨_,[],_,6,4,hT,Fx zo,.inl rfl⟩
 ·rw [if_neg hd] at hE
  obtain ⟨q1,q2⟩:=Vq z s ((p + 1:Nat):Int) g
  have fS:=Qx (z:=z) (port:=((p + 1:Nat):Int)) (hfs.le (show 2 ≤ 80 by decide)) hg (by decide)
  have eZ:nI z s ((p + 1:Nat):Int) g = xX z p (z.length - 1):=by rw [nI,kX,if_pos hE,show (((p + 1:Nat):Int) - 1).toNat = p by omega]
  have eS:nH z s ((p + 1:Nat):Int) g = Ff s p (z.length - 1) (iS s p g):=by rw [nH,kX,if_pos hE,show (((p + 1:Nat):Int) - 1).toNat = p by omega]
  have el:(xX z p (z.length - 1)).length = z.length - 1:=aO _ _
  rw [eZ,eS,el] at q1
  rw [eS] at fS
  rw [hE,eZ,eS] at hT
  have hD:=Hy (z:=xX z p (z.length - 1)) (s:=Ff s p (z.length - 1) (iS s p g)) (a:=pM x p) (L:=1000) (by rw [el]; exact q1) (fS.le (by decide)) ((Fg hfx).le (by decide)) (by decide) (by decide) zo zo
  have he:yZ (xX z p (z.length - 1)).length (pM x p).length = 0:=by rw [yZ,if_pos (by rw [el,hwl,hx])]
  rw [he,el,kX,if_pos rfl] at hD
  refine ⟨_,_,_,0,0,hT,hD,.inr ⟨rfl,rfl,?_⟩⟩
  have lw:=yP (x:=jZ s x z.length) (i:=p) zo
  refine List.ext_getElem (by rw [jZ,aO,lw,hyl]) fun a h2 h3=>?_
  have ha:a < z.length - 1:=by rw [jZ,aO] at h2; exact h2
  have g1:(jZ (Ff s p (z.length - 1) (iS s p g)) (pM x p) (z.length - 1))[a] = gv (jZ (Ff s p (z.length - 1) (iS s p g)) (pM x p) (z.length - 1)) a:=by simp [gv,List.getD,h2]
  have g2:(pM (jZ s x z.length) p)[a] = gv (pM (jZ s x z.length) p) a:=by simp [gv,List.getD,h3]
  rw [g1,g2,Jx zo,vN ha]
  rw [← Vu (s:=s) (x:=gv x) (y:=gv (jZ s x z.length)) (g:=g) hp (fun i hi=>vN hi) hgx hd ha]
  exact gL fun b hb=>by rw [Jx zo,show gm (Ff s p (z.length - 1) (iS s p g)) a b = vJ s p (iS s p g) a b from Oq ha hb]
theorem Vt {f : List (List Qi)} {u v : Qi} {n : Nat} (hx : x.length = n) (hp : p < n) (hu : gm f 1 0 * u = gv x p - gm f 1 1 * gv (jZ s x n) p) (hv : v = gm f 0 0 * u + gm f 0 1 * gv (jZ s x n) p) (hD : oB s f p ≠ 0) :
  jZ (Gp s f p n) (x.set p u) n = (jZ s x n).set p v:=by
 have hyl:(jZ s x n).length = n:=aO _ _
 refine List.ext_getElem (by rw [List.length_set,jZ,aO,jZ,aO]) fun a h2 h3=>?_
 have ha:a < n:=by rw [jZ,aO] at h2; exact h2
 have g1:(jZ (Gp s f p n) (x.set p u) n)[a] = gv (jZ (Gp s f p n) (x.set p u) n) a:=by simp [gv,List.getD,h2]
 have g2:((jZ s x n).set p v)[a] = gv ((jZ s x n).set p v) a:=by simp only [gv,List.getD,List.getElem?_eq_getElem h3]; rfl
 rw [g1,g2,Gq zo,vN ha]
 have:=a00 (s:=s) (f:=f) (x:=gv x) (y:=gv (jZ s x n)) hp (fun i hi=>vN hi) hu hv hD ha
 rw [this.symm]
 exact gL fun b hb=>by rw [Gq zo,show gm (Gp s f p n) a b = nW s f p a b from Oq ha hb]
end
theorem wX {a q m:Nat} {zl sl l zm sm:List Rt} (ha:a < 256) (hq:q < 256) (hm:m < 256):bB Tryz.prog 8 [zD a zl sl,NT .u8 q,jD l,zD m zm sm] (aC true):=by
 obtain ⟨h1,h8,hsh,hpz⟩:=mT (Bv a zl sl)
 have hn:kY a ≤ 4:=by unfold kY; omega
 have hzl:((pL a zl).map Rt.q).length ≤ 4:=by rw [List.length_map,pL,aO]; exact hn
 obtain ⟨z1,hz1⟩:∃ z1,z1 = ((pL a zl).map Rt.q):=⟨_,rfl⟩
 obtain ⟨s1,hs1⟩:∃ s1,s1 = (rq (sR a sl)):=⟨_,rfl⟩
 have f1:cH z1 2:=by rw [hz1]; exact cH.rt
 have f3:cF s1 2:=by rw [hs1]; exact cF.rt
 have hB1:=Hw (a:=a) (zl:=zl) (sl:=sl) ha
 rw [← hz1] at h1 h8 hsh hzl hpz
 rw [← hs1] at hsh
 rw [← hz1,← hs1] at hB1
 have hWv:=No (z:=z1) (s:=s1) (l:=l) zo
 have hxl:=Vw z1.length l
 have hxf:=Vv z1.length l
 generalize wvL z1.length l = X at *
 have hDo:=Mw (z:=z1) (s:=s1) (a:=X) (L:=2) hsh f3 hxf (by decide) (by decide) h1 zo hxl
 have hyl:(jZ s1 X z1.length).length = z1.length:=aO _ _
 have hyf:cH (jZ s1 X z1.length) 25:=(Ny f3 hxf (by decide)).le zo
 have hm1:=Nat.mod_lt q (show 0 < z1.length by omega)
 obtain ⟨p,hpd⟩:∃ p,p = q % z1.length:=⟨_,rfl⟩
 rw [← hpd] at hm1
 obtain ⟨Yv,hYd⟩:∃ Yv,Yv = jZ s1 X z1.length:=⟨_,rfl⟩
 have hpp:kC (gv z1 p) = true:=List.all_eq_true.1 hpz _ (by rw [show gv z1 p = z1[p] by simp [gv,List.getD,hm1]]; exact List.getElem_mem hm1)
 have hr1 : bB Tryz.prog 67 [dT z1 s1, NT .i64 (p + 1)] (dM [aD (gv z1 p), aF .i64 0]) := by
  have h:=Nd (z:=z1) (s:=s1) (i:=((p + 1:Nat):Int)) zo
  rw [show Ux z1 ((p + 1:Nat):Int) = gv z1 p from Gz zo,if_pos zo] at h; exact h
 have fp:aM (gv z1 p) 2:=f1.get (by decide) p
 have hL1:=Nl (a:=m) (zl:=zm) (sl:=sm) (zz:=gv z1 p) hpp fp
 have fF:=Oe sm
 have sF:=xL sm
 have ffZ:=Dn zm fp
 have lfZ:=xM zm (gv z1 p)
 have pfZ:=Og zm (gv z1 p)
 have hfx : yS z1 (rS zm (gv z1 p)) ((p + 1 : Nat) : Int) 2 = 0 := by
  rw [yS,if_neg (by rw [lfZ]; simp),if_neg (fun k=>k ⟨by omega,by omega⟩),if_pos]
  rw [show (((p + 1:Nat):Int) - 1).toNat = p by omega]; exact pfZ
 generalize rS zm (gv z1 p) = fZ at *
 generalize Kv sm = F at *
 have hat : ∀ i j, i < 2 → j < 2 → bB Tryz.prog 39 [dT fZ F, NT .i64 (i + 1), NT .i64 (j + 1)] (dM [aD (gm F i j), aF .i64 0]) := fun i j hi hj => by
  have h:=Rz (z:=fZ) (s:=F) (i:=((i + 1:Nat):Int)) (j:=((j + 1:Nat):Int)) (by rw [lfZ]; exact sF) zo
  rw [show Pw fZ.length F ((i + 1:Nat):Int) ((j + 1:Nat):Int) = gm F i j from Gy zo zo,if_pos zo] at h; exact h
 have hem:=Sb (z:=z1) (fz:=fZ) (s:=s1) (f:=F) (port:=((p + 1:Nat):Int)) (L:=2) hsh zo zo f3 fF f1 ffZ (by decide) (by decide) (fun _=>sF)
 have hpi:(((p + 1:Nat):Int) - 1).toNat = p:=by omega
 have dA : zP z1 s1 fZ F ((p + 1 : Nat) : Int) = if oB s1 F p = 0 then 6 else 0 := by
  by_cases k:oB s1 F p = 0
  ·rw [if_pos k]; exact Wq hfx (by rw [hpi]; exact k)
  ·rw [if_neg k]; exact Oa hfx (by rw [hpi]; exact k)
 have vA : zP z1 s1 fZ F ((p + 1 : Nat) : Int) = 0 → oB s1 F p ≠ 0 ∧ Rf z1 s1 fZ F ((p + 1 : Nat) : Int) = z1.set p (gv fZ 0) ∧ Re z1 s1 fZ F ((p + 1 : Nat) : Int) = Gp s1 F p z1.length := fun k => by
  have hD:oB s1 F p ≠ 0:=fun d=>by rw [dA,if_pos d] at k; exact absurd k (by decide)
  exact ⟨hD,by rw [Rf,kX,if_pos k,hpi],by rw [Re,kX,if_pos k,hpi]⟩
 generalize Rf z1 s1 fZ F ((p + 1:Nat):Int) = ZE at *
 generalize Re z1 s1 fZ F ((p + 1:Nat):Int) = SE at *
 generalize zP z1 s1 fZ F ((p + 1:Nat):Int) = EE at *
 haveI gx:aM (gv X p) 2:=hxf.get (by decide) p
 haveI gy:aM (gv (jZ s1 X z1.length) p) 25:=hyf.get (by decide) p
 rw [← hYd] at gy hyl hyf hDo
 haveI q00:aM (gm F 0 0) 2:=fF.get (by decide) 0 0
 haveI q01:aM (gm F 0 1) 2:=fF.get (by decide) 0 1
 haveI q10:aM (gm F 1 0) 2:=fF.get (by decide) 1 0
 haveI q11:aM (gm F 1 1) 2:=fF.get (by decide) 1 1
 refine bB.intro Tryz.func8 rfl Tryz.ntmps8 rfl (fun cx=>(ts (rn rfl (gQ (Ht rfl)) fun B4=>(rn rfl (gQ (Ht rfl)) fun B7=>(ro rfl (cQ cV) (eX (ts (ro rfl (eW Tryz.isAgg24 Tryz.sizeOf24 (Ht rfl) (i:=0) rfl rfl rfl) (ro rfl (cZ Tryz.call15 hB1 ⟨(Ht rfl),trivial⟩) (rm rfl (ro rfl (dK (Ht rfl) rfl) (ro rfl (dK (Ht rfl) rfl) (ro rfl (dK (Ht rfl) rfl) (rn rfl (eG (Ts:=[Is (.slice none 0 0),Is (.slice none 0 0)]) O_28 rfl (fun V=>aW zd (aW zd (aG)))) fun B9=>?_))))))))))))))
 refine rn rfl (eG (Ts:=[Is (.slice none 0 0),Is (.slice none 0 0)]) O_32 rfl (fun V=>aW zd (aW zd (aG)))) fun B10=>gV Z_28 (Ht rfl) (Ht rfl) rfl (i:=2) rfl (aK rfl) rfl rfl (gV Z_32 (Ht rfl) (Ht rfl) rfl (i:=3) rfl (aK rfl) rfl rfl (ra rfl (eX (cK (cK (bO [0,1,2,3] rfl (by decide) (cY (rm rfl (ro rfl (fO (Ht rfl)) (eX (fR (Ht rfl) (by rfl) ?_)))))))))))
 refine cU (cK (bO [0,1,2,3] rfl (by decide) (cY (ro rfl (eW A_28 Z_28 (Ht rfl) (i:=2) rfl rfl rfl) (rm rfl (oR Tryz.call62 hWv ⟨(Ht rfl),(Ht rfl),trivial⟩ rfl (fun vX hX=>(ra rfl (eX (ts (ro rfl (eW A_28 Z_28 (Ht rfl) (i:=2) rfl rfl rfl) (rm rfl (Xf Tryz.call63 hDo (j:=4) (tt:=54) rfl rfl eN (Gu hX) (fun _=>Ox (.cons (insIs _) (.cons (insIs _) .nil))) (fun _ B hB=>by simp only [List.mem_singleton] at hB; subst hB; exact yE) ⟨(Ht rfl),(Ht rfl),trivial⟩ rfl (fun vY hY=>?_))))))))))))))
 refine rm rfl (ro rfl (dK (Ht rfl) rfl) (ro rfl (dK (Ht rfl) rfl) (ra rfl (ra rfl (eX (cK (ts (rm rfl (ro rfl (gY (Ht rfl) cV) (rm rfl (fJ rfl rfl (eU rfl rfl (Ht rfl) (fun h=>cX (Ht rfl))) (fJ rfl rfl (eU rfl rfl (Ht rfl) (fun h=>kL U_25 (fG rfl h) (i:=5) rfl (by rw [List.length_map,hyl]))) ?_))))))))))))
 refine fJ rfl rfl (eU rfl rfl (Ht rfl) (fun h=>cX (Ht rfl))) (fJ rfl rfl (eU rfl rfl (Ht rfl) (fun h=>kL U_25 (fG rfl h) (i:=4) rfl (by rw [List.length_map,hxl]))) ?_)
 refine fJ rfl rfl (eU rfl rfl (Ht rfl) (fun h=>gD (fG rfl h) (fG rfl h))) (ro rfl (kH (Ht rfl) (fun h=>(fG rfl h))) (rm rfl (fJ rfl rfl (eU rfl rfl (Ht rfl) (fun h=>cX (Ht rfl))) (fJ rfl rfl (eU rfl rfl (Ht rfl) (fun h=>kL U_25 (fG rfl h) (i:=4) rfl (by rw [List.length_map,hxl]))) ?_))))
 refine fJ rfl rfl (eU rfl rfl (Ht rfl) (fun h=>cB (fG rfl h) (cJ 0))) (ro rfl (kH (Ht rfl) (fun h=>(fG rfl h))) (eX (fR (Ht rfl) (by simp; exact List.ne_nil_of_length_pos h1) ?_)))
 refine cU (ts (rm rfl (ro rfl (gG U_5 U_3 (Ht rfl) z6) (rm rfl (ro rfl (kL U_25 (Ht rfl) (i:=4) rfl (by rw [List.length_map,hxl])) ?_)))))
 refine ro rfl (jW (Ht rfl) (Ht rfl) zo) (ra rfl (eX (cK (cK ?_))))
 rw [← hpd]
 refine bO [1,2,4,5] rfl (by decide) (Y.D_start (m:=14) [] (bY (Ei:=[(12,_)]) rfl rfl (bQ (bJ rfl rfl) bX) rfl rfl (dX rfl (cX (Ht rfl))) (bY (Ei:=[(15,_)]) rfl rfl (bQ (bJ rfl rfl) bX) rfl rfl (dX rfl (cX (Ht rfl))) (bY (Ei:=[(78,_),(79,_)]) rfl rfl (bQ (bZ 0 rfl rfl) (bQ (bZ 1 rfl rfl) bX)) rfl rfl (dX rfl (cC U_25 Z_60 (Ht rfl) (Ht rfl) rfl (i:=2) rfl (by rw [List.length_map]; omega) rfl)) ?_))))
 refine bY (Ei:=[(80,_)]) rfl rfl (bQ (bZ 2 rfl rfl) bX) rfl rfl (dX rfl (nD A_60 Z_60 (Ht rfl) (i:=2) rfl rfl (dY (dU (d:=Qi.zero) zo)))) (bY (Ei:=[(13,_)]) rfl rfl (bQ (bJ rfl rfl) bX) rfl rfl (dX rfl (cX (Ht rfl))) (bY (Ei:=[(15,_)]) rfl rfl (bQ (bJ rfl rfl) bX) rfl rfl (dX rfl (cX (Ht rfl))) (bY (Ei:=[(82,_),(83,_)]) rfl rfl (bQ (bZ 4 rfl rfl) (bQ (bZ 5 rfl rfl) bX)) rfl rfl (dX rfl (cC U_25 Z_60 (Ht rfl) (Ht rfl) rfl (i:=3) rfl (by rw [List.length_map]; omega) rfl)) ?_)))
 refine bY (Ei:=[(84,_)]) rfl rfl (bQ (bZ 6 rfl rfl) bX) rfl rfl (dX rfl (nD A_60 Z_60 (Ht rfl) (i:=3) rfl rfl (dY (dU (d:=Qi.zero) zo)))) (bY (Ei:=[(81,_),(85,_)]) rfl rfl (bQ (bZ 3 rfl rfl) (bQ (bZ 7 rfl rfl) bX)) rfl rfl (dX rfl (cZ K_64 (sC (x:=gv X p) (y:=gv Yv p) (L:=2) (M:=25) zo) ⟨(Ht rfl),(Ht rfl),trivial⟩)) (bY (Ei:=[(86,_)]) rfl rfl (bQ (bZ 8 rfl rfl) bX) rfl rfl (dX rfl (cX (Ht rfl))) ?_))
 refine bY (Ei:=[(77,_)]) rfl rfl (bQ (bZ 9 rfl rfl) bX) rfl rfl (dX rfl (dK (Ht rfl) rfl)) (bY (Ei:=[(77,_)]) rfl rfl (bQ (bZ 9 rfl rfl) bX) rfl rfl (dX rfl (dK (Ht rfl) rfl)) (Y.D_newp (Ei:=[]) (fun bb=>box bb 60 [aC (decide ((gv X p / gv Yv p).a < 0)),aL (gv X p / gv Yv p).a.natAbs,aC (decide ((gv X p / gv Yv p).b < 0)),aL (gv X p / gv Yv p).b.natAbs,aL (du (gv X p / gv Yv p))]) 13 rfl rfl rfl bX rfl rfl (by kernel_rfl) (eG (Ts:=[Is (.bool false),Is (.slice none 0 0),Is (.bool false),Is (.slice none 0 0),Is (.slice none 0 0)]) O_60 rfl (fun V=>aW zd (aW zd (aW zd (aW zd (aW zd (aG))))))) ?_))
 refine Y.D_putN (Ei:=[(87,_)]) 12 rfl rfl rfl rfl rfl rfl (bQ (bZ 10 rfl rfl) bX) (fun bb=>mH Z_60 (Ht rfl) (Ht rfl) rfl (i:=0) rfl (aK rfl) rfl rfl) (Y.D_done bC rfl (by kernel_rfl) rfl (by simp [Y.okP]) rfl rfl (bU (bU (bU (bU (bU (bU (bU (bU (bU (bU (bU (bU (Y.F_newp (fun B16=>Y.F_putN (Y.F_nil ?_))))))))))))))))
 refine ra rfl (eX (iT (fun (uu:Unit)=>True) (fun (uu:Unit)=>[(7,cE B7 0),(9,cE B9 0),(12,Is vX),(13,Is vY),(15,NT .i64 p)]) (fun (uu:Unit)=>[box B7 24 [NT .u8 m,jD zm,jD sm],box B9 28 [bL z1,eE s1],bE 60 5 vX (X.map aD),bE 60 5 vY (Yv.map aD)]) ?_ (fun uu hT=>?_)))
 ·refine ts (rm rfl (ro rfl (iY (Ht rfl) cV) (rm rfl (fJ rfl rfl (eU rfl rfl (Ht rfl) (fun h => cX (Ht rfl))) (fJ rfl rfl (eU rfl rfl (Ht rfl) (fun h => kL U_25 (fG rfl h) (i := 2) rfl (by rw [List.length_map, hxl]))) ?_)))))
  refine fJ rfl rfl (eU rfl rfl (Ht rfl) (fun h=>eO (fG rfl h) (cJ 1))) (ro rfl (eC (Ht rfl) (fun h=>(fG rfl h))) (eX (dQ (Ht rfl) (fun hE=>?_) (fun hE=>?_))))
  ·simp only [Bool.and_eq_true, decide_eq_true_eq] at hE
   obtain ⟨hE1,hE2⟩:=hE
   have hy0 : gv Yv p ≠ 0 := fun e => by
    rw [e] at hE1; exact absurd hE1 (by decide +kernel)
   haveI hg80:aM (gv X p / gv Yv p) (2 + 3 * 25 + 2):=sI gx gy hy0
   have hgx:gv X p = gv X p / gv Yv p * gv Yv p:=(tN hy0).symm
   obtain ⟨ZT,OT,ST,TE,ET,hTe,hDr,hTE⟩:=Rd (z:=z1) (s:=s1) (x:=X) (g:=gv X p / gv Yv p) hsh f3 hxl hxf hzl zo hm1 (hg80.le (by decide)) (by rw [← hYd]; exact hgx)
   rw [← hYd] at hTE
   have hwY:=xE (x:=Yv) (i:=p) zo zo
   have hwX:=xE (x:=X) (i:=p) zo zo
   have hYw:cH (pM Yv p) 25:=Fg hyf
   have hYl:(pM Yv p).length ≤ 1000:=by rw [yP zo]; omega
   have hAr : TE = 0 → bB Tryz.prog 66 [bL OT, bL (pM Yv p)] (aC true) := fun k => by
    rcases hTE with e | ⟨_,_,e⟩
    ·rw [e] at k; exact absurd k (by decide)
    ·rw [e]; exact Nj hYw (by decide) (by decide) hYl
   refine ts (ro rfl (eW A_28 Z_28 (Ht rfl) (i:=1) rfl rfl rfl) (rm rfl (ro rfl (dV (Ht rfl) (cJ 1) z6) (ro rfl (eW A_60 Z_60 (Ht rfl) (i:=4) rfl rfl rfl) (ro rfl (cZ Tryz.call40 hTe ⟨(Ht rfl),(Ht rfl),(Ht rfl),trivial⟩) (rm rfl (ro rfl (dK (Ht rfl) rfl) (ro rfl (dK (Ht rfl) rfl) (rn rfl (eG (Ts:=[Is (.slice none 0 0),Is (.slice none 0 0)]) O_28 rfl (fun V=>aW zd (aW zd (aG)))) fun B18=>?_)))))))))
   refine gV Z_28 (Ht rfl) (Ht rfl) rfl (i:=5) rfl (aK rfl) rfl rfl (ra rfl (eX (cK (bO [0,1,2,3,4,5] rfl (by decide) (fW (m:=9) (dp 18 rfl (eW A_28 Z_28 (Ht rfl) (i:=5) rfl rfl rfl) (dp 12 rfl (cX (Ht rfl)) (dp 15 rfl (cX (Ht rfl)) (dP 106 1 107 2 rfl (Eh Tryz.call65 hwX (j:=2) (tt:=106) rfl rfl eN (Gu hX) (fun _=>insIs _) (fun _=>yE) (fun _=>eN) ⟨(Ht rfl),(Ht rfl),trivial⟩) (dP 105 0 108 3 rfl (cZ Tryz.call63 hDr ⟨(Ht rfl),(Ht rfl),trivial⟩) (dq 109 4 rfl (cX (Ht rfl)) ?_)))))))))))
   refine dq 104 5 rfl (dK (Ht rfl) rfl) (dq 104 5 rfl (dK (Ht rfl) rfl) (dq 110 6 rfl (cQ (Ht rfl)) (fK bC rfl (by kernel_rfl) (zF (zF (aJ (aV (ra rfl (eX (cK (bO [0,1,2,3,4,5] rfl (by decide) (cY (rm rfl (ro rfl (gY (Ht rfl) cV) (rm rfl (fJ rfl rfl (iZ rfl rfl (Ht rfl) (fun h=>cX (Ht rfl))) (fJ rfl rfl (iZ rfl rfl (Ht rfl) (fun h=>gY (aR.wu rfl h) cV)) (fJ rfl rfl (iZ rfl rfl (Ht rfl) (fun h=>cX (aR.wu rfl h))) ?_))))))))))))))))))
   refine fJ rfl rfl (jR rfl rfl rfl (fun h h2=>cX (Ht rfl))) (fJ rfl rfl (jR rfl rfl rfl (fun h h2=>gY (aR.wu rfl ⟨h,h2⟩) cV)) (fJ rfl rfl (iZ rfl rfl (Ht rfl) (fun h=>kH (aR.wu rfl h) (fun h2=>(aR.wu rfl ⟨h,h2⟩)))) (fJ rfl rfl (iZ rfl rfl (Ht rfl) (fun h=>cX (aR.wu rfl h))) (fJ rfl rfl (jR rfl rfl rfl (fun h h2=>cX (Ht rfl))) (fJ rfl rfl (jR rfl rfl rfl (fun h h2=>cX (Ht rfl))) (fJ rfl rfl (jR rfl rfl rfl (fun h h2=>cX (Ht rfl))) (fJ rfl rfl (jR rfl rfl rfl (fun h h2=>Eh Tryz.call65 hwY (j:=3) (tt:=123) rfl rfl Oi (Gu hY) (fun _=>insIs _) (fun _=>yE) (fun _=>eN) ⟨(aR.wu rfl ⟨h,h2⟩),(aR.wu rfl ⟨h,h2⟩),trivial⟩)) ?_)))))))
   refine fJ rfl rfl (jR rfl rfl rfl (fun h h2=>cZ Tryz.call66 (hAr (by have h3:=h2; simp at h3; exact h3.1)) ⟨(aR.wu rfl ⟨h,h2⟩),(aR.wu rfl ⟨h,h2⟩),trivial⟩)) ?_
   refine fJ rfl rfl (jR rfl rfl rfl (fun h h2=>fO (aR.wu rfl ⟨h,h2⟩))) (fJ rfl rfl (iZ rfl rfl (Ht rfl) (fun h=>kH (aR.wu rfl h) (fun h2=>(aR.wu rfl ⟨h,h2⟩)))) (ro rfl (eC (Ht rfl) (fun h=>(aR.wu rfl h))) (eX (fR (Ht rfl) (by rcases hTE with e | ⟨e,e2,_⟩ <;> simp [e] <;> simp [e2]) ?_))))
   refine cU (bO [0,1,2,3] rfl (by decide) (aP () trivial (zS rfl) (aU (aB rfl) (aU (aB rfl) (aU (fun _ _ _ h=>h) (aU (fun _ _ _ h=>h) aY))))))
  ·refine cU (bO [0,1,2,3] rfl (by decide) (aP () trivial (zS rfl) (aU (aB rfl) (aU (aB rfl) (aU (fun _ _ _ h=>h) (aU (fun _ _ _ h=>h) aY))))))
 ·refine ts (ro rfl (eW A_28 Z_28 (Ht rfl) (i := 1) rfl rfl rfl) (rm rfl (ro rfl (dV (Ht rfl) (cJ 1) z6) (ro rfl (cZ Tryz.call67 hr1 ⟨(Ht rfl), (Ht rfl), trivial⟩) (rm rfl (ro rfl (dK (Ht rfl) rfl) (ro rfl (dK (Ht rfl) rfl) (rn rfl (eG (Ts := [Is (.bool false), Is (.slice none 0 0), Is (.bool false), Is (.slice none 0 0), Is (.slice none 0 0)]) O_60 rfl (fun V => aW zd (aW zd (aW zd (aW zd (aW zd (aG))))))) fun B22 => ?_))))))))
  refine gV Z_60 (Ht rfl) (Ht rfl) rfl (i:=4) rfl (aK rfl) rfl rfl (ra rfl (eX (cK (bO [0,1,2,3,4] rfl (by decide) (cY (ro rfl (eW Tryz.isAgg24 Tryz.sizeOf24 (Ht rfl) (i:=0) rfl rfl rfl) (ro rfl (eW A_60 Z_60 (Ht rfl) (i:=4) rfl rfl rfl) (ro rfl (cZ Tryz.call68 hL1 ⟨(Ht rfl),(cJ 2),(Ht rfl),trivial⟩) (rm rfl (ro rfl (dK (Ht rfl) rfl) (ro rfl (dK (Ht rfl) rfl) (rn rfl (eG (Ts:=[Is (.slice none 0 0),Is (.slice none 0 0)]) O_28 rfl (fun V=>aW zd (aW zd (aG)))) fun B24=>?_))))))))))))
  refine gV Z_28 (Ht rfl) (Ht rfl) rfl (i:=5) rfl (aK rfl) rfl rfl (ra rfl (eX (cK (cK (bO [0,1,2,3,4,5] rfl (by decide) (cY (rm rfl (ro rfl (fO (Ht rfl)) (eX (fR (Ht rfl) (by rfl) ?_))))))))))
  refine cU (ts (ro rfl (eW A_28 Z_28 (Ht rfl) (i:=5) rfl rfl rfl) (ro rfl (cZ K_39 (hat 0 0 (by decide) (by decide)) ⟨(Ht rfl),(cJ 1),(cJ 1),trivial⟩) (rm rfl (ro rfl (dK (Ht rfl) rfl) (ro rfl (dK (Ht rfl) rfl) (rn rfl (eG (Ts:=[Is (.bool false),Is (.slice none 0 0),Is (.bool false),Is (.slice none 0 0),Is (.slice none 0 0)]) O_60 rfl (fun V=>aW zd (aW zd (aW zd (aW zd (aW zd (aG))))))) fun B26=>?_)))))))
  refine gV Z_60 (Ht rfl) (Ht rfl) rfl (i:=6) rfl (aK rfl) rfl rfl (ra rfl (eX (cK (bO [0,1,2,3,4,5,6] rfl (by decide) (cY (ro rfl (eW A_28 Z_28 (Ht rfl) (i:=5) rfl rfl rfl) (ro rfl (cZ K_39 (hat 0 1 (by decide) (by decide)) ⟨(Ht rfl),(cJ 1),(cJ 2),trivial⟩) (rm rfl (ro rfl (dK (Ht rfl) rfl) (ro rfl (dK (Ht rfl) rfl) (rn rfl (eG (Ts:=[Is (.bool false),Is (.slice none 0 0),Is (.bool false),Is (.slice none 0 0),Is (.slice none 0 0)]) O_60 rfl (fun V=>aW zd (aW zd (aW zd (aW zd (aW zd (aG))))))) fun B28=>?_)))))))))))
  refine gV Z_60 (Ht rfl) (Ht rfl) rfl (i:=7) rfl (aK rfl) rfl rfl (ra rfl (eX (cK (bO [0,1,2,3,4,5,6,7] rfl (by decide) (cY (ro rfl (eW A_28 Z_28 (Ht rfl) (i:=5) rfl rfl rfl) (ro rfl (cZ K_39 (hat 1 0 (by decide) (by decide)) ⟨(Ht rfl),(cJ 2),(cJ 1),trivial⟩) (rm rfl (ro rfl (dK (Ht rfl) rfl) (ro rfl (dK (Ht rfl) rfl) (rn rfl (eG (Ts:=[Is (.bool false),Is (.slice none 0 0),Is (.bool false),Is (.slice none 0 0),Is (.slice none 0 0)]) O_60 rfl (fun V=>aW zd (aW zd (aW zd (aW zd (aW zd (aG))))))) fun B30=>?_)))))))))))
  refine gV Z_60 (Ht rfl) (Ht rfl) rfl (i:=8) rfl (aK rfl) rfl rfl (ra rfl (eX (cK (bO [0,1,2,3,4,5,6,7,8] rfl (by decide) (cY (ro rfl (eW A_28 Z_28 (Ht rfl) (i:=5) rfl rfl rfl) (ro rfl (cZ K_39 (hat 1 1 (by decide) (by decide)) ⟨(Ht rfl),(cJ 2),(cJ 2),trivial⟩) (rm rfl (ro rfl (dK (Ht rfl) rfl) (ro rfl (dK (Ht rfl) rfl) (rn rfl (eG (Ts:=[Is (.bool false),Is (.slice none 0 0),Is (.bool false),Is (.slice none 0 0),Is (.slice none 0 0)]) O_60 rfl (fun V=>aW zd (aW zd (aW zd (aW zd (aW zd (aG))))))) fun B32=>?_)))))))))))
  refine gV Z_60 (Ht rfl) (Ht rfl) rfl (i:=9) rfl (aK rfl) rfl rfl (ra rfl (eX (cK (bO [0,1,2,3,4,5,6,7,8,9] rfl (by decide) ?_))))
  haveI u1:aM (gm F 1 1 * gv Yv p) (2 + 25 + 1):=fitMul
  haveI u2:aM (gv X p - gm F 1 1 * gv Yv p) (2 + (2 + 25 + 1) + 1):=fitSub
  refine Y.D_start (m:=18) [] (bY (Ei:=[(12,_)]) rfl rfl (bQ (bJ rfl rfl) bX) rfl rfl (dX rfl (cX (Ht rfl))) (bY (Ei:=[(15,_)]) rfl rfl (bQ (bJ rfl rfl) bX) rfl rfl (dX rfl (cX (Ht rfl))) (bY (Ei:=[(166,_),(167,_)]) rfl rfl (bQ (bZ 0 rfl rfl) (bQ (bZ 1 rfl rfl) bX)) rfl rfl (dX rfl (cC U_25 Z_60 (Ht rfl) (Ht rfl) rfl (i:=2) rfl (by rw [List.length_map]; omega) rfl)) ?_)))
  refine bY (Ei:=[(168,_)]) rfl rfl (bQ (bZ 2 rfl rfl) bX) rfl rfl (dX rfl (nD A_60 Z_60 (Ht rfl) (i:=2) rfl rfl (dY (dU (d:=Qi.zero) zo)))) (bY (Ei:=[(32,_)]) rfl rfl (bQ (bJ rfl rfl) bX) rfl rfl (dX rfl (eW A_60 Z_60 (Ht rfl) (i:=9) rfl rfl rfl)) (bY (Ei:=[(13,_)]) rfl rfl (bQ (bJ rfl rfl) bX) rfl rfl (dX rfl (cX (Ht rfl))) (bY (Ei:=[(15,_)]) rfl rfl (bQ (bJ rfl rfl) bX) rfl rfl (dX rfl (cX (Ht rfl))) ?_)))
  refine bY (Ei:=[(171,_),(172,_)]) rfl rfl (bQ (bZ 5 rfl rfl) (bQ (bZ 6 rfl rfl) bX)) rfl rfl (dX rfl (cC U_25 Z_60 (Ht rfl) (Ht rfl) rfl (i:=3) rfl (by rw [List.length_map]; omega) rfl)) ?_
  refine bY (Ei:=[(173,_)]) rfl rfl (bQ (bZ 7 rfl rfl) bX) rfl rfl (dX rfl (nD A_60 Z_60 (Ht rfl) (i:=3) rfl rfl (dY (dU (d:=Qi.zero) zo)))) (bY (Ei:=[(170,_),(174,_)]) rfl rfl (bQ (bZ 4 rfl rfl) (bQ (bZ 8 rfl rfl) bX)) rfl rfl (dX rfl (cZ K_70 (kQ (x:=gm F 1 1) (y:=gv Yv p) (L:=2) (M:=25) zo) ⟨(Ht rfl),(Ht rfl),trivial⟩)) (bY (Ei:=[(169,_),(175,_)]) rfl rfl (bQ (bZ 3 rfl rfl) (bQ (bZ 9 rfl rfl) bX)) rfl rfl (dX rfl (cZ K_69 (wY (x:=gv X p) (y:=gm F 1 1 * gv Yv p) (L:=2) (M:=2 + 25 + 1) zo) ⟨(Ht rfl),(Ht rfl),trivial⟩)) ?_))
  refine bY (Ei:=[(30,_)]) rfl rfl (bQ (bJ rfl rfl) bX) rfl rfl (dX rfl (eW A_60 Z_60 (Ht rfl) (i:=8) rfl rfl rfl)) (bY (Ei:=[(176,_),(177,_)]) rfl rfl (bQ (bZ 10 rfl rfl) (bQ (bZ 11 rfl rfl) bX)) rfl rfl (dX rfl (cZ K_64 (sC (x:=gv X p - gm F 1 1 * gv Yv p) (y:=gm F 1 0) (L:=2 + (2 + 25 + 1) + 1) (M:=2) zo) ⟨(Ht rfl),(Ht rfl),trivial⟩)) (bY (Ei:=[(178,_)]) rfl rfl (bQ (bZ 12 rfl rfl) bX) rfl rfl (dX rfl (cX (Ht rfl))) ?_))
  refine bY (Ei:=[(165,_)]) rfl rfl (bQ (bZ 13 rfl rfl) bX) rfl rfl (dX rfl (dK (Ht rfl) rfl)) (bY (Ei:=[(165,_)]) rfl rfl (bQ (bZ 13 rfl rfl) bX) rfl rfl (dX rfl (dK (Ht rfl) rfl)) (Y.D_newp (Ei:=[]) (fun bb=>box bb 60 [aC (decide (((gv X p - gm F 1 1 * gv Yv p) / gm F 1 0).a < 0)),aL ((gv X p - gm F 1 1 * gv Yv p) / gm F 1 0).a.natAbs,aC (decide (((gv X p - gm F 1 1 * gv Yv p) / gm F 1 0).b < 0)),aL ((gv X p - gm F 1 1 * gv Yv p) / gm F 1 0).b.natAbs,aL (du ((gv X p - gm F 1 1 * gv Yv p) / gm F 1 0))]) 17 rfl rfl rfl bX rfl rfl (by kernel_rfl) (eG (Ts:=[Is (.bool false),Is (.slice none 0 0),Is (.bool false),Is (.slice none 0 0),Is (.slice none 0 0)]) O_60 rfl (fun V=>aW zd (aW zd (aW zd (aW zd (aW zd (aG))))))) ?_))
  refine Y.D_putN (Ei:=[(179,_)]) 16 rfl rfl rfl rfl rfl rfl (bQ (bZ 14 rfl rfl) bX) (fun bb=>mH Z_60 (Ht rfl) (Ht rfl) rfl (i:=0) rfl (aK rfl) rfl rfl) (Y.D_done bC rfl (by kernel_rfl) rfl (by simp [Y.okP]) rfl rfl (bU (bU (bU (bU (bU (bU (bU (bU (bU (bU (bU (bU (bU (bU (bU (bU (Y.F_newp (fun B34=>Y.F_putN (Y.F_nil ?_))))))))))))))))))))
  refine ra rfl (eX (cK (cK (bO [0,1,2,3,4,5,6,7,8,9,10] rfl (by decide) (cY (rm rfl (ro rfl (gY (Ht rfl) cV) (eX (dQ (Ht rfl) (fun hd=>?_) (fun hd=>?_))))))))))
  ·refine ts (ro rfl (cZ Tryz.call27 wZ trivial) (ra rfl (eX ?_)))
   exact fU rfl (eY rfl)
  ·have h10 : gm F 1 0 ≠ 0 := fun e => by
    rw [e] at hd; exact absurd hd (by decide +kernel)
   haveI u3:aM ((gv X p - gm F 1 1 * gv Yv p) / gm F 1 0) (2 + (2 + 25 + 1) + 1 + 3 * 2 + 2):=sI u2 q10 h10
   have hU:=tN (x:=gv X p - gm F 1 1 * gv Yv p) h10
   generalize ((gv X p - gm F 1 1 * gv Yv p) / gm F 1 0) = U at *
   refine cU (ts (ro rfl (eW A_28 Z_28 (Ht rfl) (i:=1) rfl rfl rfl) (rm rfl (ro rfl (dV (Ht rfl) (cJ 1) z6) (ro rfl (eW A_28 Z_28 (Ht rfl) (i:=5) rfl rfl rfl) (ro rfl (cZ Tryz.call36 hem ⟨(Ht rfl),(Ht rfl),(Ht rfl),trivial⟩) (rm rfl (ro rfl (dK (Ht rfl) rfl) (ro rfl (dK (Ht rfl) rfl) (rn rfl (eG (Ts:=[Is (.slice none 0 0),Is (.slice none 0 0)]) O_28 rfl (fun V=>aW zd (aW zd (aG)))) fun B36=>?_))))))))))
   refine gV Z_28 (Ht rfl) (Ht rfl) rfl (i:=11) rfl (aK rfl) rfl rfl (ra rfl (eX (cK (cK (bO [0,1,2,3,4,5,6,7,8,9,10,11] rfl (by decide) (cY (rm rfl (ro rfl (iY (Ht rfl) cV) (eX (dQ (Ht rfl) (fun he6=>?_) (fun he6=>?_)))))))))))
   ·refine ts (ro rfl (cZ Tryz.call27 wZ trivial) (ra rfl (eX ?_)))
    exact fU rfl (eY rfl)
   ·have hE0 : EE = 0 := by
     have h6:¬ EE = 6:=by simpa using he6
     rw [dA] at h6 ⊢
     split
     ·rename_i k; rw [if_pos k] at h6; exact absurd rfl h6
     ·rfl
    obtain ⟨hD,vZ,vS⟩:=vA hE0
    haveI u4:aM (gm F 0 0 * U) (2 + (2 + (2 + 25 + 1) + 1 + 3 * 2 + 2) + 1):=fitMul
    haveI u5:aM (gm F 0 1 * gv Yv p) (2 + 25 + 1):=fitMul
    haveI u6:aM (gm F 0 0 * U + gm F 0 1 * gv Yv p) (2 + (2 + (2 + 25 + 1) + 1 + 3 * 2 + 2) + 1 + (2 + 25 + 1) + 1):=fitAdd (x:=gm F 0 0 * U) (y:=gm F 0 1 * gv Yv p) (L:=2 + (2 + (2 + 25 + 1) + 1 + 3 * 2 + 2) + 1) (M:=2 + 25 + 1)
    obtain ⟨V,hV⟩:∃ V,V = gm F 0 0 * U + gm F 0 1 * gv Yv p:=⟨_,rfl⟩
    have hfix:=Vt (s:=s1) (f:=F) (x:=X) (u:=U) (v:=V) hxl hm1 (by rw [← hYd,← hU]; exact Qi.mul_comm' _ _) (by rw [← hYd]; exact hV) hD
    rw [← hYd] at hfix
    have lX:(X.set p U).length = z1.length:=by rw [List.length_set,hxl]
    have lY:(Yv.set p V).length = z1.length:=by rw [List.length_set,hyl]
    have fX:cH (X.set p U) 100:=fun y hy=>(List.mem_or_eq_of_mem_set hy).elim (fun k=>(hxf y k).le (by decide)) fun e=>e ▸ u3.le (by decide)
    have fY:cH (Yv.set p V) 100:=fun y hy=>(List.mem_or_eq_of_mem_set hy).elim (fun k=>(hyf y k).le (by decide)) fun e=>by rw [e,hV]; exact u6.le (by decide)
    have lE:ZE.length = z1.length:=by rw [vZ,List.length_set]
    have hDm:=Hy (z:=ZE) (s:=SE) (a:=X.set p U) (L:=100) (by rw [lE,vS]; exact iF.tab) (by rw [vS]; exact (Oc f3 fF (by decide) hD).le (by decide)) fX (by decide) (by decide) zo zo
    rw [show yZ ZE.length (X.set p U).length = 0 by rw [yZ,if_pos zo],kX,if_pos rfl,lE,vS,hfix,← vS] at hDm
    have hAr:=Nj (l:=Yv.set p V) fY (by decide) (by decide) zo
    refine bO [2,3,6,7,10,11] rfl (by decide) (cU (cK (fW (m:=11) (dp 26 rfl (eW A_60 Z_60 (Ht rfl) (i:=2) rfl rfl rfl) (dp 34 rfl (eW A_60 Z_60 (Ht rfl) (i:=4) rfl rfl rfl) (dP 195 0 196 1 rfl (cZ K_70 (kQ (x:=gm F 0 0) (y:=U) (L:=2) (M:=2 + (2 + 25 + 1) + 1 + 3 * 2 + 2) zo) ⟨(Ht rfl),(Ht rfl),trivial⟩) (dp 28 rfl (eW A_60 Z_60 (Ht rfl) (i:=3) rfl rfl rfl) (dp 13 rfl (cX (Ht rfl)) (dp 15 rfl (cX (Ht rfl)) (dP 199 4 200 5 rfl (cC U_25 Z_60 (Ht rfl) (Ht rfl) rfl (i:=1) rfl (by rw [List.length_map]; omega) rfl) ?_))))))))))
    refine dq 201 6 rfl (nD A_60 Z_60 (Ht rfl) (i:=1) rfl rfl (dY (dU (d:=Qi.zero) zo))) (dP 198 3 202 7 rfl (cZ K_70 (kQ (x:=gm F 0 1) (y:=gv Yv p) (L:=2) (M:=25) zo) ⟨(Ht rfl),(Ht rfl),trivial⟩) (dP 197 2 203 8 rfl (cZ K_71 (wW (x:=gm F 0 0 * U) (y:=gm F 0 1 * gv Yv p) (L:=2 + (2 + (2 + 25 + 1) + 1 + 3 * 2 + 2) + 1) (M:=2 + 25 + 1) zo) ⟨(Ht rfl),(Ht rfl),trivial⟩) (C.D_new (Ei:=[]) rfl rfl rfl bW (eG (Ts:=[Is (.bool false),Is (.slice none 0 0),Is (.bool false),Is (.slice none 0 0),Is (.slice none 0 0)]) O_60 rfl (fun V=>aW zd (aW zd (aW zd (aW zd (aW zd (aG))))))) ?_)))
    refine fK bC rfl (by kernel_rfl) (zF (zF (aJ (aJ (C.F_new (fun B38=>aV (gV Z_60 (Ht rfl) (Ht rfl) rfl (i:=6) rfl (aK rfl) rfl rfl (eX (cK (bO [0,1,2,3,4,5,6] rfl (by decide) ?_))))))))))
    rw [← hV]
    refine cY (rm rfl (rm rfl (ro rfl (eW A_60 Z_60 (Ht rfl) (i:=4) rfl rfl rfl) (ro rfl (cC U_25 Z_60 (Ht rfl) (Ht rfl) rfl (i:=0) rfl (by rw [List.length_map]; omega) rfl) ?_))))
    refine jY Z_60 (Ht rfl) (Ht rfl) (El.ag rfl) (i:=0) rfl rfl (by rw [List.length_map]; omega) rfl ?_
    refine eX (cK (bO [0,1,2,3,4,5,6] rfl (by decide) (cY (rm rfl (rm rfl (ro rfl (eW A_60 Z_60 (Ht rfl) (i:=6) rfl rfl rfl) (ro rfl (cC U_25 Z_60 (Ht rfl) (Ht rfl) rfl (i:=1) rfl (by rw [List.length_map]; omega) rfl) ?_)))))))
    refine jY Z_60 (Ht rfl) (Ht rfl) (El.ag rfl) (i:=1) rfl rfl (by rw [List.length_map]; omega) rfl ?_
    refine eX (cK (bO [0,1,2,3,4,5,6] rfl (by decide) (lI 0 rfl (bA (fB aD X p U)) (lI 1 rfl (bA (fB aD Yv p V)) (gK (i:=0) (tt:=12) rfl rfl eN (gK (i:=1) (tt:=13) rfl rfl eN (cY (ro rfl (eW A_28 Z_28 (Ht rfl) (i:=5) rfl rfl rfl) (rm rfl (ro rfl (cZ Tryz.call63 hDm ⟨(Ht rfl),(Ht rfl),trivial⟩) (rm rfl (ro rfl (dK (Ht rfl) rfl) (ro rfl (dK (Ht rfl) rfl) (ra rfl (ra rfl (eX (ts (rm rfl (ro rfl (iY (Ht rfl) cV) (rm rfl (fJ rfl rfl (eU rfl rfl (Ht rfl) (fun h=>cX (Ht rfl))) ?_)))))))))))))))))))))
    refine fJ rfl rfl (eU rfl rfl (Ht rfl) (fun h=>iY (fG rfl h) cV)) (ro rfl (eC (Ht rfl) (fun h=>(fG rfl h))) (rm rfl (fJ rfl rfl (eU rfl rfl (Ht rfl) (fun h=>cX (Ht rfl))) (fJ rfl rfl (eU rfl rfl (Ht rfl) (fun h=>cX (Ht rfl))) (fJ rfl rfl (eU rfl rfl (Ht rfl) (fun h=>cZ Tryz.call66 hAr ⟨(fG rfl h),(fG rfl h),trivial⟩)) (ro rfl (eC (Ht rfl) (fun h=>(fG rfl h))) (rm rfl (fJ rfl rfl (eU rfl rfl (Ht rfl) (fun h=>cZ Tryz.call27 wZ trivial)) (ro rfl (eC (Ht rfl) (fun h=>(fG rfl h))) ?_)))))))))
    refine ra rfl (eX (fU rfl (fV (eY rfl) ?_)))
    exact (fT (by simp [hE0]))
end
section
open Go Go.ChangeShapes Go.WideShapes Go.ChangeAt Go.RowKit Go.Deep
section
variable {H:Type} {enc:TypeId × Value → H} {W:World} {base:Nat} {sp:Nat → Bool} {held:Bool}
theorem a0U:S3 Tryz.prog 24 5 22 22:=⟨⟨_,_,_,Tryz.underlying24,rfl,rfl,rfl,rfl,rfl,rfl⟩,by kernel_rfl,by kernel_rfl,by kernel_rfl,by kernel_rfl⟩
theorem yN {b0:Nat} {v:Value} {d:DataW H} {p:List MemPlace} (ho:Value.okWide Tryz.prog W .any b0 24 v) (h:DataW.Trod enc Tryz.prog W base sp held 24 v d p):∃ (a:Nat) (zl sl:List Rt),(dR [NT .u8 a,jD zl,jD sl]).p v (hv W) ∧ a < 256:=by
 obtain ⟨cs,rfl,_⟩:=okWide_struct Tryz.underlying24 ho
 obtain ⟨n,hn⟩:=h
 obtain ⟨x0,x1,x2,m,y0,y1,y2,hcs,h0,h1,h2⟩:=a0U.open hn
 obtain ⟨i,e0,_,w⟩:=DataW.trod_int Tryz.underlying5 h0
 obtain ⟨v1,z,e1,k1⟩:=tV h1
 obtain ⟨v2,s,e2,k2⟩:=tV h2
 simp only [List.cons.injEq,and_true] at e0 e1 e2
 subst e0 e1 e2
 have hw:=Xb w
 have e:((i.toNat:Nat):Int) = i:=by omega
 have hi:∀ V,(NT .u8 i.toNat).p (.int .u8 i) V:=fun V=>by rw [show NT .u8 i.toNat = aF .u8 i from congrArg (aF .u8) e]; rfl
 have hcs2:cs.toList = [.int .u8 i,x1,x2]:=hcs
 exact ⟨i.toNat,z,s,⟨cs.toList,rfl,by rw [hcs2]; exact aW ⟨hi _,trivial⟩ (aW ⟨k1,(Ez k1).2⟩ (aW ⟨k2,(Ez k2).2⟩ aG))⟩,by omega⟩
end
end
end Go.Proofs.YtdlciihkiefckaaGreat
