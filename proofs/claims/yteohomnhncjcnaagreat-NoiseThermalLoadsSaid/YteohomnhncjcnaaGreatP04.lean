/- What functions of the program compute, proved by walks over their code, and the plain mathematics of it; a part of the proof in the last text. -/
import Derived.Test.YteohomnhncjcnaaGreatP03
set_option linter.unusedVariables false
set_option linter.unusedSimpArgs false
set_option maxRecDepth 100000
set_option maxHeartbeats 4000000
namespace Go.Proofs.YteohomnhncjcnaaGreat
section
open Go Go.RowKit
theorem rH {n : Nat} {E : cT} {H : Hp} {d : Option Tmp} {t : TypeId} {pos : String} {af : Array Edge} {g : Option (Nat × Bool)}  :
  aM Tryz.prog n E H ⟨d,.build 34 #[],t,pos,af,g⟩ (eH [Is (.slice none 0 0),Is (.slice none 0 0),Is (.slice none 0 0)]) :=
 fH (parts := []) fun a V w hs => by
  refine ⟨.agg #[(.slice none 0 0),(.slice none 0 0),(.slice none 0 0)],?_,[(.slice none 0 0),(.slice none 0 0),(.slice none 0 0)],rfl,aW (⟨rfl,trivial⟩) (aW (⟨rfl,trivial⟩) (aW (⟨rfl,trivial⟩) (aG)))⟩
  simp [Instr.build,Instr.fill,Sem.run_bind,Result.andThen,dS,O_34,U_34,Z_30,Z_32]
theorem Vb {n : Nat} {E : cT} {H : Hp} {d : Option Tmp} {t : TypeId} {pos : String} {af : Array Edge} {g : Option (Nat × Bool)} {x0 : Operand} {T0 T1 : Ty} (h0 : bM E x0 (eH [T0, T1])) :
  aM Tryz.prog n E H ⟨d,.build 34 #[(0,x0)],t,pos,af,g⟩ (eH [T0,T1,Is (.slice none 0 0)]) :=
 fH (parts := [(0, x0)]) fun a V w hs => by
  obtain ⟨v0,e0,c0⟩:=h0 n V a hs
  obtain ⟨c0_0,c0_1,rfl⟩:∃ c0_0 c0_1,v0 = [c0_0,c0_1]:=yO (by simpa using c0.length)
  refine ⟨.agg #[c0_0,c0_1,(.slice none 0 0)],?_,[c0_0,c0_1,(.slice none 0 0)],rfl,aW (c0.at (i:=0) rfl rfl) (aW (c0.at (i:=1) rfl rfl) (aW (⟨rfl,trivial⟩) (aG)))⟩
  simp [e0,Instr.build,Instr.fill,Sem.run_bind,Result.andThen,dS,O_34,U_34,Z_30,Z_32]
end
section
open Go Go.RowKit
theorem Ru {r:List Qi} {c:List (List Qi)}:bH Tryz.prog 157 [aR r,PT (bB c)] (aD (!decide (r.length = c.length))):=by
 refine bH.intro Tryz.func157 rfl Tryz.ntmps157 rfl (fun cx=>(ts (ro rfl (cX cW) (eZ (ts (rm rfl (ro rfl (dK U_29 (Ht rfl) aA) (ro rfl (dV A_30 Z_30 (Ht rfl)) (ro rfl (dK U_30 (Ht rfl) aA) (ro rfl (gB (Ht rfl) (Ht rfl)) (ra rfl (eZ ?_))))))))))))
 exact fG rfl (eY rfl)
theorem Vq {z:List Qi} {s c:List (List Qi)} (hz:z.length ≤ 1000) (hc:c.length ≤ 1000):bH Tryz.prog 55 [gT z s,bB c] (fI [fD (dA (cP z c) z) (dA (cP z c) s) (dA (cP z c) c),aO .i64 (cP z c)]):=by
 refine bH.intro Tryz.func55 rfl Tryz.ntmps55 rfl (fun cx=>(ts (rn rfl (fK (Ht rfl)) fun B2=>(rn rfl (qW (Ht rfl)) fun B3=>(rn rfl (eG (Ts:=[Is (.slice none 0 0),Is (.slice none 0 0),Is (.slice none 0 0)]) O_34 rfl (fun V=>aW zd (aW zd (aW zd (aG))))) fun B4=>(ro rfl (cX (cV 0)) (eZ (cU (cU (gV (i:=1) (tt:=3) rfl rfl mF (fJ (m:=8) (dp 3 rfl (dV A_30 Z_30 (Ht rfl)) (dq 9 0 rfl (dK U_30 (Ht rfl) aA) ?_)))))))))))))
 refine dp 2 rfl (eW A_32 Z_32 (Ht rfl) (i:=0) rfl rfl rfl) (dq 11 2 rfl (cJ K_22 oK ⟨(Ht rfl),trivial⟩) (dR 10 1 12 3 rfl (gB (Ht rfl) (Ht rfl)) (dq 13 4 rfl (cZ (Ht rfl)) (C.D_step (Ei:=[(3,_),(14,_)]) rfl rfl (bV (bK rfl rfl) (bV (bG 5 rfl rfl) bW)) (eU rfl rfl (Ht rfl) (fun h=>dV A_30 Z_30 (Ht rfl))) (C.D_step (Ei:=[(3,_),(14,_)]) rfl rfl (bV (bK rfl rfl) (bV (bG 5 rfl rfl) bW)) (eU rfl rfl (Ht rfl) (fun h=>oN (γ:=List Qi) (Ts:=fun r=>[aR r]) (U:=fun r=>aD (!decide (r.length = c.length))) Tryz.call157 (fun r=>Ru) ⟨(Ht rfl),trivial⟩)) ?_)))))
 refine fW bE rfl (by kernel_rfl) (zF (zF (aV (fX rfl rfl (eU rfl rfl (Ht rfl) (fun h=>cJ Tryz.call156 (uZ (l:=c) (T:=aR) (p:=fun r=>!decide (r.length = c.length)) zo) ⟨(fV rfl h),(fV rfl h),trivial⟩)) (ro rfl (jI (Ht rfl) (fun h=>(fV rfl h))) (eZ (dX (Ht rfl) (fun hb=>?_) (fun hb=>?_))))))))
 ·have he := Mw hb
  refine ts (ro rfl (aM.imp (rH ) mY) (gX Z_34 (Ht rfl) (Ht rfl) rfl (i:=2) rfl (aK rfl) rfl rfl (ro rfl (cX (cV 4)) (eZ (bN rfl (fZ (fU A_34 Z_34 rfl (i:=2) rfl rfl) ?_) (fZ (eY rfl) ?_))))))
  ·exact (Sz he)
  ·exact (aS he.symm)
 ·have he := Ju hb
  obtain ⟨hcl,hsh⟩:=xY he
  refine cY (ts (ro rfl (eW A_32 Z_32 (Ht rfl) (i:=0) rfl rfl rfl) (ro rfl (Vb (Ht rfl)) (rn rfl (eG (Ts:=[Is (.slice none 0 0),Is (.slice none 0 0),Is (.slice none 0 0)]) O_34 rfl (fun V=>aW zd (aW zd (aW zd (aG))))) fun B6=>(gX Z_34 (Ht rfl) (Ht rfl) rfl (i:=3) rfl (aK rfl) rfl rfl (eZ (cU (ts (ro rfl (dV A_30 Z_30 (Ht rfl)) (ro rfl (dK U_30 (Ht rfl) aA) (ro rfl (cZ (cV 0)) ?_)))))))))))
  refine eZ (eK (cD [2,3] rfl (by decide) (yK 29 1 ?_)))
  refine kD (fun (k : Nat) (out : List (List Qi)) (v : Value) => k ≤ c.length ∧ out = c.take k) (fun (k : Nat) (out : List (List Qi)) (v : Value) => c.length - k) (fun (k : Nat) (out : List (List Qi)) (v : Value) => [(4, bT B4 0), (6, bT B6 0), (22, bB c), (23, NT .i64 c.length), (24, NT .i64 k)]) (fun (k : Nat) (out : List (List Qi)) (v : Value) => [box B4 34 [Is (.slice none 0 0), Is (.slice none 0 0), Is (.slice none 0 0)], box B6 34 [aR z, bB s, Is v], cC 29 1 v (out.map aR)]) 0 [] (.slice none 0 0) ⟨Nat.zero_le _, rfl⟩
   (zS rfl) (dM.refl _) (fun k out v ⟨hk,ho⟩=>?_)
  refine ts (ro rfl (gZ (Ht rfl) (Ht rfl)) (eZ (cU (dX (Ht rfl) (fun hd=>?_) (fun hd=>?_)))))
  ·simp only [decide_eq_true_eq] at hd
   have hol:out.length ≤ 1000:=by rw [ho,List.length_take]; omega
   have hrk : (c.getD k default).length ≤ 1000 := by
    have e:c.getD k default = c.getD k []:=rfl
    rw [e,hsh.row zo]; omega
   refine cY (cU (eK (ts (ro rfl (dJ U_30 Z_29 (Ht rfl) (Ht rfl) rfl (eQ (dY (d:=default) hd))) (ro rfl (dV A_29 Z_29 (Ht rfl)) (ra rfl (eZ (fJ (m:=5) (dp 6 rfl (eJ lG (Ht rfl) rfl) (dq 28 0 rfl (a1y A_30 Z_30 (Ht rfl) (i:=1) rfl rfl) (dp 8 rfl (cZ (Ht rfl)) (dq 30 2 rfl (cJ Tryz.call158 (Fl zo) ⟨(Ht rfl),trivial⟩) (dq 31 3 rfl (cR (xs:=[.tmp 31]) U_30 Z_29 O_29 (cG (Ht rfl) cK) rfl rfl rfl) ?_)))))))))))))
   refine fW bE rfl (by kernel_rfl) (zF (aJ (aV (qH (inf:=Tryz.t29) Nt lH rfl rfl rfl (Ht rfl) (Ht rfl) (i:=2) rfl (by simp) (fun T hT=>by simp at hT; subst hT; exact El.one) (by show _ * 24 ≤ _; simp only [List.length_map,List.length_cons,List.length_nil]; omega) (by simp only [List.length_map,List.length_cons,List.length_nil]; omega) rfl (fun v2=>?_)))))
   refine ro rfl (eJ lG (Ht rfl) rfl) (a4M (l:=2) Z_30 (Ht rfl) (Ht rfl) (i:=1) rfl rfl (aK rfl) rfl (eZ (bO (dQ (ro rfl (dW (Ht rfl) (cV 1) z6) (rm rfl (eZ (fY (k + 1,_,v2) ⟨by omega,No hd ho⟩ (by dsimp only; omega) (zS rfl) (aU (aB rfl) (aU (aB rfl) (aU (bR (qK aR _ _)) aY)))))))))))
  ·simp only [decide_eq_false_iff_not] at hd
   have hfin:=Cp ho zo
   subst hfin
   refine gW rfl (cU (Rm 1 2 2 rfl rfl rfl (by decide) (dQ (ro rfl (eW A_34 Z_34 (Ht rfl) (i:=1) rfl rfl rfl) (gX Z_34 (Ht rfl) (Ht rfl) rfl (i:=0) rfl (aK rfl) rfl rfl (ro rfl (cX (cV 0)) (eZ (bN rfl (fZ (fU A_34 Z_34 rfl (i:=0) rfl rfl) ?_) (fZ (eY rfl) ?_)))))))))
   ·exact (Mx he)
   ·exact (aS he.symm)
end
section
open Go Go.RowKit
theorem Oj {n : Nat} {E : cT} {H : Hp} {d : Option Tmp} {t : TypeId} {pos : String} {af : Array Edge} {g : Option (Nat × Bool)}  :
  aM Tryz.prog n E H ⟨d,.build 38 #[],t,pos,af,g⟩ (eH [Is (.slice none 0 0),Is (.slice none 0 0)]) :=
 fH (parts := []) fun a V w hs => by
  refine ⟨.agg #[(.slice none 0 0),(.slice none 0 0)],?_,[(.slice none 0 0),(.slice none 0 0)],rfl,aW (⟨rfl,trivial⟩) (aW (⟨rfl,trivial⟩) (aG))⟩
  simp [Instr.build,Instr.fill,Sem.run_bind,Result.andThen,dS,O_38,U_38,Z_35,Tryz.sizeOf36]
theorem Lt {n : Nat} {E : cT} {H : Hp} {d : Option Tmp} {t : TypeId} {pos : String} {af : Array Edge} {g : Option (Nat × Bool)} {x0 x1 : Operand} {T0 T1 : Ty} [s0 : dI T0 1 false] (h0 : bM E x0 T0) [s1 : dI T1 1 false] (h1 : bM E x1 T1) :
  aM Tryz.prog n E H ⟨d,.build 38 #[(0,x0),(1,x1)],t,pos,af,g⟩ (eH [T0,T1]) :=
 fH (parts := [(0, x0), (1, x1)]) fun a V w hs => by
  have p0:=h0 n V a hs
  generalize e0:a.eval x0 = v0 at p0
  have q0:=(s0.ok v0 V p0).2.2 rfl
  have p1:=h1 n V a hs
  generalize e1:a.eval x1 = v1 at p1
  have q1:=(s1.ok v1 V p1).2.2 rfl
  refine ⟨.agg #[v0,v1],?_,[v0,v1],rfl,aW (⟨p0,q0⟩) (aW (⟨p1,q1⟩) (aG))⟩
  simp [e0,e1,Instr.build,Instr.fill,Sem.run_bind,Result.andThen,dS,q0.cells,q1.cells,O_38,U_38,Z_35,Tryz.sizeOf36]
theorem Ok {n : Nat} {E : cT} {H : Hp} {d : Option Tmp} {t : TypeId} {pos : String} {af : Array Edge} {g : Option (Nat × Bool)}  :
  aM Tryz.prog n E H ⟨d,.build 40 #[],t,pos,af,g⟩ (eH [Is (.slice none 0 0),Is (.slice none 0 0),Is (.slice none 0 0)]) :=
 fH (parts := []) fun a V w hs => by
  refine ⟨.agg #[(.slice none 0 0),(.slice none 0 0),(.slice none 0 0)],?_,[(.slice none 0 0),(.slice none 0 0),(.slice none 0 0)],rfl,aW (⟨rfl,trivial⟩) (aW (⟨rfl,trivial⟩) (aW (⟨rfl,trivial⟩) (aG)))⟩
  simp [Instr.build,Instr.fill,Sem.run_bind,Result.andThen,dS,O_40,Tryz.runUnderlying40,Tryz.sizeOf36,Z_38]
theorem Lu {n : Nat} {E : cT} {H : Hp} {d : Option Tmp} {t : TypeId} {pos : String} {af : Array Edge} {g : Option (Nat × Bool)} {x0 x1 : Operand} {T0 T1 T2 : Ty} (h0 : bM E x0 (eH [T0, T1])) [s1 : dI T2 1 false] (h1 : bM E x1 T2) :
  aM Tryz.prog n E H ⟨d,.build 40 #[(0,x0),(1,x1)],t,pos,af,g⟩ (eH [T0,T1,T2]) :=
 fH (parts := [(0, x0), (1, x1)]) fun a V w hs => by
  obtain ⟨v0,e0,c0⟩:=h0 n V a hs
  obtain ⟨c0_0,c0_1,rfl⟩:∃ c0_0 c0_1,v0 = [c0_0,c0_1]:=yO (by simpa using c0.length)
  have p1:=h1 n V a hs
  generalize e1:a.eval x1 = v1 at p1
  have q1:=(s1.ok v1 V p1).2.2 rfl
  refine ⟨.agg #[c0_0,c0_1,v1],?_,[c0_0,c0_1,v1],rfl,aW (c0.at (i:=0) rfl rfl) (aW (c0.at (i:=1) rfl rfl) (aW (⟨p1,q1⟩) (aG)))⟩
  simp [e0,e1,Instr.build,Instr.fill,Sem.run_bind,Result.andThen,dS,q1.cells,O_40,Tryz.runUnderlying40,Tryz.sizeOf36,Z_38]
theorem Pi (a:Addr) (w:World):(Instr.fieldAt 38 (.pointer (some a)) 0).run Tryz.prog w = .ok (.pointer (some (a.add 0))) w:=by
 simp [Instr.fieldAt,Instr.sureAddr,fieldPlace,Sem.run_bind,Result.andThen,U_38,Z_35]
end
section
open Go Go.RowKit
theorem Ic {x:Qi} {L:Nat} [hx:aE x L] (h:L ≤ 17592186044415):bH Tryz.prog 250 [QT x] (aD (fB x)):=by
 refine bH.intro Tryz.func250 rfl Tryz.ntmps250 rfl (fun cx=>(ts (rn rfl (fK (Ht rfl)) fun B1=>(ro rfl (cX cW) (eZ (ts (ro rfl (eW A_131 Z_131 (Ht rfl) (i:=0) rfl rfl rfl) (ro rfl (cJ Tryz.call242 (a0x zo) ⟨(Ht rfl),trivial⟩) (ro rfl (jH (Ht rfl) cW) (rm rfl (fX rfl rfl (eU rfl rfl (Ht rfl) (fun h=>eW A_131 Z_131 (Ht rfl) (i:=0) rfl rfl rfl)) (fX rfl rfl (eU rfl rfl (Ht rfl) (fun h=>cJ Tryz.call239 Ov ⟨(fV rfl h),trivial⟩)) (fX rfl rfl (eU rfl rfl (Ht rfl) (fun h=>Bz (fV rfl h) cW)) ?_)))))))))))))
 refine ro rfl (fM (Ht rfl) (fun h=>(fV rfl h))) (ra rfl (eZ (fG rfl (fZ (eY rfl) ?_))))
 exact (dH (a1T x))
theorem Vu {z:List Qi} {s:List (List Qi)} (hz:z.length ≤ 100000) (hs:s.length ≤ 100000):bH Tryz.prog 189 [Lo z,QM s] (aD (Cl z s)):=by
 refine bH.intro Tryz.func189 rfl Tryz.ntmps189 rfl (fun cx=>(ts (ro rfl (cX cW) (eZ (cU (ts (rm rfl (ro rfl (dK U_35 (Ht rfl) aA) (ro rfl (gZ (Ht rfl) (cV 1)) (rm rfl (fX rfl rfl (eU rfl rfl (Ht rfl) (fun h=>cZ (Ht rfl))) (fX rfl rfl (eU rfl rfl (Ht rfl) (fun h=>dK U_35 (fV rfl h) aA)) (fX rfl rfl (eU rfl rfl (Ht rfl) (fun h=>eL (fV rfl h) (cV 8))) (ro rfl (jI (Ht rfl) (fun h=>(fV rfl h))) (rm rfl (fX rfl rfl (eU rfl rfl (Ht rfl) (fun h=>cZ (Ht rfl))) ?_))))))))))))))))
 refine fX rfl rfl (eU rfl rfl (Ht rfl) (fun h=>dK U_36 (fV rfl h) aA)) (fX rfl rfl (eU rfl rfl (Ht rfl) (fun h=>cZ (Ht rfl))) (fX rfl rfl (eU rfl rfl (Ht rfl) (fun h=>dK U_35 (fV rfl h) aA)) (fX rfl rfl (eU rfl rfl (Ht rfl) (fun h=>gB (fV rfl h) (fV rfl h))) (ro rfl (jI (Ht rfl) (fun h=>(fV rfl h))) (eZ (dX (Ht rfl) (fun hb=>?_) (fun hb=>?_)))))))
 ·refine ts (ro rfl (cX cW) (eZ (fG rfl (fZ (eY rfl) ?_))))
  exact (dH (by rw [Cl,hb]; rfl))
 ·refine cY (cU (ts (ro rfl (cX (cV 0)) (eZ (eK ?_)))))
  refine cF (fun (k : Nat) => k ≤ s.length ∧ ∀ (i : Nat) (r : List Qi), i < k → s[i]? = some r → r.length = z.length) (fun (k : Nat) => s.length - k) (fun (k : Nat) => [(0, Lo z), (1, QM s), (5, NT .i64 k)]) (fun (k : Nat) => []) 0 ⟨Nat.zero_le _, fun i r h => by omega⟩
   (zS rfl) aY (fun k ⟨hk,hr⟩=>?_)
  refine cU (ts (rm rfl (rm rfl (ro rfl (dK U_36 (Ht rfl) aA) (ro rfl (gZ (Ht rfl) (Ht rfl)) (eZ (dX (Ht rfl) (fun hc=>?_) (fun hc=>?_))))))))
  ·simp only [decide_eq_true_eq] at hc
   refine cY (cU (eK (ts (rm rfl (rm rfl (ro rfl (dJ U_36 Z_35 (Ht rfl) (Ht rfl) rfl (eQ (mV hc))) (ro rfl (dV Tryz.isAgg35 Z_35 (Ht rfl)) (ro rfl (dK U_35 (Ht rfl) aA) (rm rfl (ro rfl (dK U_35 (Ht rfl) aA) (ro rfl (gB (Ht rfl) (Ht rfl)) (eZ (dX (Ht rfl) (fun hd=>?_) (fun hd=>?_))))))))))))))
   ·have hd2 : ¬ (s[k]).length = z.length := by simpa using hd
    refine ts (ro rfl (cX cW) (eZ (fG rfl (fZ (eY rfl) ?_))))
    exact (dH (by rw [Cl,Oa (mV hc) hd2,Bool.or_true]; rfl))
   ·have hd2 : (s[k]).length = z.length := by simpa using hd
    refine cY (bO (dQ (rm rfl (ro rfl (dW (Ht rfl) (cV 1) z6) (ra rfl (eZ ?_))))))
    refine fY (k + 1) ⟨hc, fun i r h1 h2 => by
     by_cases e:i = k
     ·subst e; rw [mV hc] at h2; obtain rfl:=Option.some.inj h2; exact hd2
     ·exact hr i r zo h2⟩ zo (zS rfl) aY
  ·simp only [decide_eq_false_iff_not] at hc
   have hall:∀ (i:Nat) (r:List Qi),s[i]? = some r → r.length = z.length:=fun i r h=>hr i r (by have:=(List.getElem?_eq_some_iff.1 h).1; omega) h
   refine gW rfl (ts (ro rfl (cX cW) (eZ (fG rfl (fZ (eY rfl) ?_)))))
   exact (dH (by rw [Cl,Hr hall,hb]; rfl))
theorem Df {z:List Qi} {L:Nat} (hz:bP z L) (h:L ≤ 17592186044415) (hl:z.length ≤ 100000):bH Tryz.prog 190 [Lo z] (aD (z.all fB)):=by
 refine bH.intro Tryz.func190 rfl Tryz.ntmps190 rfl (fun cx=>(ts (ro rfl (cX cW) (eZ (cU (ts (ro rfl (cX (cV 0)) (eZ (eK ?_)))))))))
 refine cF (fun (k : Nat) => k ≤ z.length ∧ ∀ (i : Nat) (r : Qi), i < k → z[i]? = some r → fB r = true) (fun (k : Nat) => z.length - k) (fun (k : Nat) => [(0, Lo z), (3, NT .i64 k)]) (fun (k : Nat) => []) 0 ⟨Nat.zero_le _, fun i r h => by omega⟩
  (zS rfl) aY (fun k ⟨hk,hr⟩=>?_)
 refine cU (ts (rm rfl (rm rfl (ro rfl (dK U_35 (Ht rfl) aA) (ro rfl (gZ (Ht rfl) (Ht rfl)) (eZ (dX (Ht rfl) (fun hc=>?_) (fun hc=>?_))))))))
 ·simp only [decide_eq_true_eq] at hc
  haveI hf:aE z[k] L:=hz _ (List.getElem_mem hc)
  refine cY (cU (eK (ts (rm rfl (rm rfl (ro rfl (dJ U_35 Z_131 (Ht rfl) (Ht rfl) rfl (eQ (mV hc))) (ro rfl (dV A_131 Z_131 (Ht rfl)) (ro rfl (cJ Tryz.call250 (Ic (L:=L) h) ⟨(Ht rfl),trivial⟩) (ro rfl (eN (Ht rfl)) (eZ (dX (Ht rfl) (fun hd=>?_) (fun hd=>?_))))))))))))
  ·have hd2 : fB z[k] = false := by simpa using hd
   refine ts (ro rfl (cX cW) (eZ (fG rfl (fZ (eY rfl) ?_))))
   exact (dH (a2W (mV hc) hd2).symm)
  ·have hd2 : fB z[k] = true := by simpa using hd
   refine cY (bO (dQ (rm rfl (ro rfl (dW (Ht rfl) (cV 1) z6) (ra rfl (eZ ?_))))))
   refine fY (k + 1) ⟨hc, fun i r h1 h2 => by
    by_cases e:i = k
    ·subst e; rw [mV hc] at h2; obtain rfl:=Option.some.inj h2; exact hd2
    ·exact hr i r zo h2⟩ zo (zS rfl) aY
 ·simp only [decide_eq_false_iff_not] at hc
  have hall:∀ (i:Nat) (r:Qi),z[i]? = some r → fB r = true:=fun i r h=>hr i r (by have:=(List.getElem?_eq_some_iff.1 h).1; omega) h
  refine gW rfl (ts (ro rfl (cX cW) (eZ (fG rfl (fZ (eY rfl) ?_)))))
  exact (dH (a0b hall).symm)
theorem Rw {z:List Qi} {s:List (List Qi)} {L:Nat} (hz:bP z L) (h:L ≤ 17592186044415) (hl:z.length ≤ 1000) (hl2:s.length ≤ 1000):bH Tryz.prog 90 [Lo z,QM s] (fI [Al (dA (bS z s) z) (dA (bS z s) s),aO .i64 (bS z s)]):=by
 refine bH.intro Tryz.func90 rfl Tryz.ntmps90 rfl (fun cx=>(ts (rn rfl (eG (Ts:=[Is (.slice none 0 0),Is (.slice none 0 0)]) O_38 rfl (fun V=>aW zd (aW zd (aG)))) fun B4=>(ro rfl (cX (cV 0)) (eZ (cU (ts (rm rfl (rm rfl (ro rfl (cJ Tryz.call189 (Vu zo zo) ⟨(Ht rfl),(Ht rfl),trivial⟩) (ro rfl (eN (Ht rfl)) (eZ (dX (Ht rfl) (fun hb=>?_) (fun hb=>?_))))))))))))))
 ·have hb2 : ¬ Cl z s = true := by simpa using hb
  have he:bS z s = 4:=by rw [xX,if_neg hb2]
  refine ts (ro rfl (aM.imp (Oj ) Kl) (gX Z_38 (Ht rfl) (Ht rfl) rfl (i:=0) rfl (aK rfl) rfl rfl (ro rfl (cX (cV 4)) (eZ (bN rfl (fZ (fU A_38 Z_38 rfl (i:=0) rfl rfl) ?_) (fZ (eY rfl) ?_))))))
  ·exact (Kk he (by decide))
  ·exact (aS he.symm)
 ·have hb2 : Cl z s = true := by simpa using hb
  refine cY (cU (ts (rm rfl (ro rfl (cJ Tryz.call190 (Df (by assumption) (by assumption) zo) ⟨(Ht rfl),trivial⟩) ?_))))
  refine ro rfl (eN (Ht rfl)) (eZ (dX (Ht rfl) (fun hc=>?_) (fun hc=>?_)))
  ·have hc2 : ¬ z.all fB = true := by simp only [Bool.not_eq_true'] at hc; rw [hc]; exact Bool.noConfusion
   have he:bS z s = 1:=by rw [xX,if_pos hb2,if_neg hc2]
   refine ts (ro rfl (aM.imp (Oj ) Kl) (gX Z_38 (Ht rfl) (Ht rfl) rfl (i:=0) rfl (aK rfl) rfl rfl (ro rfl (cX (cV 1)) (eZ (bN rfl (fZ (fU A_38 Z_38 rfl (i:=0) rfl rfl) ?_) (fZ (eY rfl) ?_))))))
   ·exact (Kk he (by decide))
   ·exact (aS he.symm)
  ·have hc2 : z.all fB = true := by simp only [Bool.not_eq_false'] at hc; exact hc
   have he:bS z s = 0:=by rw [xX,if_pos hb2,if_pos hc2]
   refine cY (ts (rm rfl (rm rfl (ro rfl (Lt (Ht rfl) (Ht rfl)) (gX Z_38 (Ht rfl) (Ht rfl) rfl (i:=0) rfl (aK rfl) rfl rfl (ro rfl (cX (cV 0)) (eZ (bN rfl (fZ (fU A_38 Z_38 rfl (i:=0) rfl rfl) ?_) (fZ (eY rfl) ?_)))))))))
   ·exact (Tl he)
   ·exact (aS he.symm)
theorem Rx {z:List Qi} {s c:List (List Qi)} (hz:z.length ≤ 1000) (hc:c.length ≤ 1000):bH Tryz.prog 92 [Al z s,QM c] (fI [rF (dA (cP z c) z) (dA (cP z c) s) (dA (cP z c) c),aO .i64 (cP z c)]):=by
 refine bH.intro Tryz.func92 rfl Tryz.ntmps92 rfl (fun cx=>(ts (rn rfl (fK (Ht rfl)) fun B2=>(rn rfl (eG (Ts:=[Is (.slice none 0 0),Is (.slice none 0 0),Is (.slice none 0 0)]) O_40 rfl (fun V=>aW zd (aW zd (aW zd (aG))))) fun B4=>(ro rfl (cX (cV 0)) (eZ (cU (ts (rm rfl (ro rfl (dK U_36 (Ht rfl) aA) (ro rfl (eJ Pi (Ht rfl) rfl) (ro rfl (fQ Tryz.isAgg35 Z_35 (Ht rfl) (i:=0) rfl rfl) (ro rfl (dK U_35 (Ht rfl) aA) ?_)))))))))))))
 refine ro rfl (gB (Ht rfl) (Ht rfl)) (eZ (dX (Ht rfl) (fun hb=>?_) (fun hb=>?_)))
 ·have hb2 : ¬ c.length = z.length := by simpa using hb
  have he:cP z c = 4:=by rw [← vP,wZ,if_pos (.inl hb2)]
  refine ts (ro rfl (aM.imp (Ok ) Cg) (gX Z_40 (Ht rfl) (Ht rfl) rfl (i:=1) rfl (aK rfl) rfl rfl (ro rfl (cX (cV 4)) (eZ (bN rfl (fZ (fU A_40 Z_40 rfl (i:=1) rfl rfl) ?_) (fZ (eY rfl) ?_))))))
  ·exact (Cf he)
  ·exact (aS he.symm)
 ·have hb2 : c.length = z.length := by simpa using hb
  refine cY (cU (ts (ro rfl (cX (cV 0)) (eZ (eK ?_)))))
  refine cF (fun (k : Nat) => k ≤ c.length ∧ ∀ (i : Nat) (r : List Qi), i < k → c[i]? = some r → r.length = z.length) (fun (k : Nat) => c.length - k) (fun (k : Nat) => [(1, QM c), (2, bT B2 0), (4, bT B4 0), (6, NT .i64 k)]) (fun (k : Nat) => [box B2 38 [Lo z, QM s], box B4 40 [Is (.slice none 0 0), Is (.slice none 0 0), Is (.slice none 0 0)]]) 0 ⟨Nat.zero_le _, fun i r h => by omega⟩
   (zS rfl) (dM.refl _) (fun k ⟨hk,hr⟩=>?_)
  refine cU (ts (rm rfl (rm rfl (ro rfl (dK U_36 (Ht rfl) aA) (ro rfl (gZ (Ht rfl) (Ht rfl)) (eZ (dX (Ht rfl) (fun hd=>?_) (fun hd=>?_))))))))
  ·simp only [decide_eq_true_eq] at hd
   refine cY (cU (eK (cU (fJ (m:=8) (dp 1 rfl (cZ (Ht rfl)) (dp 6 rfl (cZ (Ht rfl)) (dR 20 0 21 1 rfl (dJ U_36 Z_35 (Ht rfl) (Ht rfl) rfl (eQ (mV hd))) (dq 22 2 rfl (dV Tryz.isAgg35 Z_35 (Ht rfl)) (dq 23 3 rfl (dK U_35 (Ht rfl) aA) (dp 2 rfl (eJ Pi (Ht rfl) rfl) (dq 25 5 rfl (fQ Tryz.isAgg35 Z_35 (Ht rfl) (i:=0) rfl rfl) (dq 26 6 rfl (dK U_35 (Ht rfl) aA) (fW bE rfl (by kernel_rfl) (zF (zF (aV ?_))))))))))))))))
   refine ro rfl (gB (Ht rfl) (Ht rfl)) (eZ (dX (Ht rfl) (fun he=>?_) (fun he=>?_)))
   ·have hd2 : ¬ (c[k]).length = z.length := by simpa using he
    have he:cP z c = 4:=by rw [← vP,wZ,if_pos (.inr (Oa (mV hd) hd2))]
    refine ts (ro rfl (aM.imp (Ok ) Cg) (gX Z_40 (Ht rfl) (Ht rfl) rfl (i:=1) rfl (aK rfl) rfl rfl (ro rfl (cX (cV 4)) (eZ (bN rfl (fZ (fU A_40 Z_40 rfl (i:=1) rfl rfl) ?_) (fZ (eY rfl) ?_))))))
    ·exact (Cf he)
    ·exact (aS he.symm)
   ·have hd2 : (c[k]).length = z.length := by simpa using he
    refine cY (bO (dQ (rm rfl (ro rfl (dW (Ht rfl) (cV 1) z6) (ra rfl (eZ ?_))))))
    refine fY (k + 1) ⟨hd, fun i r h1 h2 => by
      by_cases e:i = k
      ·subst e; rw [mV hd] at h2; obtain rfl:=Option.some.inj h2; exact hd2
      ·exact hr i r zo h2⟩ zo (zS rfl) (dM.refl _)
  ·simp only [decide_eq_false_iff_not] at hd
   have hall:∀ (i:Nat) (r:List Qi),c[i]? = some r → r.length = z.length:=fun i r h=>hr i r (by have:=(List.getElem?_eq_some_iff.1 h).1; omega) h
   have he:cP z c = 0:=by rw [← vP,wZ,if_neg (by rintro (h | h); exact h hb2; rw [Hr hall] at h; cases h)]
   refine gW rfl (ts (ro rfl (eW A_38 Z_38 (Ht rfl) (i:=0) rfl rfl rfl) (rm rfl (ro rfl (Lu (Ht rfl) (Ht rfl)) (gX Z_40 (Ht rfl) (Ht rfl) rfl (i:=1) rfl (aK rfl) rfl rfl (ro rfl (cX (cV 0)) (eZ (bN rfl (fZ (fU A_40 Z_40 rfl (i:=1) rfl rfl) ?_) (fZ (eY rfl) ?_)))))))))
   ·exact (Kn he)
   ·exact (aS he.symm)
end
section
open Go Go.RowKit
theorem a3f {z:List Rt} {s c:List (List Rt)} (hf:xS z s c = true):bH Tryz.prog 17 [Ug z s c] (fI [fD (Li z s c) (mdS z s c) (mdC z s c),rF (Li z s c) (mdS z s c) (mdC z s c),aD true]):=by
 obtain ⟨hz,hs,hc,hsr,hcr⟩:=zL hf
 have hsr2:∀ r,r ∈ s → r.length ≤ 1000:=fun r h=>Nat.le_trans (hsr r h) (by decide)
 have hcr2:∀ r,r ∈ c → r.length ≤ 1000:=fun r h=>Nat.le_trans (hcr r h) (by decide)
 have hz1:(z.map Rt.q).length ≤ 1000:=by simp; omega
 have hs1:(rq s).length ≤ 1000:=by simp; omega
 have hc1:(rq c).length ≤ 1000:=by simp; omega
 have hz2:(dA (bS (z.map Rt.q) (rq s)) (z.map Rt.q)).length ≤ 1000:=Nat.le_trans (a1q _ _) hz1
 have hfit:bP (z.map Rt.q) 2:=bP.rt
 refine bH.intro Tryz.func17 rfl Tryz.ntmps17 rfl (fun cx=>(ts (rn rfl (fK (Ht rfl)) fun B1=>(rn rfl (eG (Ts:=[Is (.slice none 0 0),Is (.slice none 0 0),Is (.slice none 0 0)]) O_34 rfl (fun V=>aW zd (aW zd (aW zd (aG))))) fun B2=>(rn rfl (eG (Ts:=[Is (.slice none 0 0),Is (.slice none 0 0),Is (.slice none 0 0)]) O_40 rfl (fun V=>aW zd (aW zd (aW zd (aG))))) fun B3=>(ro rfl (cX cW) ?_))))))
 refine eZ (cU (Y.D_start (m:=12) [] (cQ (Ei:=[(1,_)]) rfl rfl (bQ (bJ rfl rfl) bX) rfl rfl (dZ rfl (eJ Fz (Ht rfl) rfl)) (cQ (Ei:=[(14,_)]) rfl rfl (bQ (bZ 0 rfl rfl) bX) rfl rfl (dZ rfl (fQ A_22 Z_22 (Ht rfl) (i:=0) rfl rfl)) (cQ (Ei:=[(15,_)]) rfl rfl (bQ (bZ 1 rfl rfl) bX) rfl rfl (dZ rfl (cJ Tryz.call48 (tW zo) ⟨(Ht rfl),trivial⟩)) (cQ (Ei:=[(1,_)]) rfl rfl (bQ (bJ rfl rfl) bX) rfl rfl (dZ rfl (eJ zJ (Ht rfl) rfl)) ?_))))))
 refine cQ (Ei:=[(17,_)]) rfl rfl (bQ (bZ 3 rfl rfl) bX) rfl rfl (dZ rfl (fQ A_23 Z_23 (Ht rfl) (i:=0) rfl rfl)) (cQ (Ei:=[(18,_)]) rfl rfl (bQ (bZ 4 rfl rfl) bX) rfl rfl (dZ rfl (cJ Tryz.call86 (xL zo (by assumption)) ⟨(Ht rfl),trivial⟩)) ?_)
 refine cQ (Ei:=[(16,_),(19,_)]) rfl rfl (bQ (bZ 2 rfl rfl) (bQ (bZ 5 rfl rfl) bX)) rfl rfl (dZ rfl (cJ Tryz.call85 (Ib (L:=2) (by assumption) zo zo zo) ⟨(Ht rfl),(Ht rfl),trivial⟩)) ?_
 refine cQ (Ei:=[(20,_)]) rfl rfl (bQ (bZ 6 rfl rfl) bX) rfl rfl (dZ rfl (cZ (Ht rfl))) (cQ (Ei:=[(13,_)]) rfl rfl (bQ (bZ 7 rfl rfl) bX) rfl rfl (dZ rfl (dU (Ht rfl) rfl)) (cQ (Ei:=[(13,_)]) rfl rfl (bQ (bZ 7 rfl rfl) bX) rfl rfl (dZ rfl (dU (Ht rfl) rfl)) (Y.D_newp (Ei:=[]) (fun bb=>box bb 32 [aR (dA (bS (z.map Rt.q) (rq s)) (z.map Rt.q)),bB (dA (bS (z.map Rt.q) (rq s)) (rq s))]) 11 rfl rfl rfl bX rfl rfl (by kernel_rfl) (eG (Ts:=[Is (.slice none 0 0),Is (.slice none 0 0)]) O_32 rfl (fun V=>aW zd (aW zd (aG)))) ?_)))
 refine Y.D_putN (Ei:=[(21,_)]) 10 rfl rfl rfl rfl rfl rfl (bQ (bZ 8 rfl rfl) bX) (fun bb=>lA Z_32 (Ht rfl) (Ht rfl) rfl (i:=0) rfl (aK rfl) rfl rfl) (Y.D_done bE rfl (by kernel_rfl) rfl (by simp [Y.okP]) rfl rfl (bU (bU (bU (bU (bU (bU (bU (bU (bU (bU (Y.F_newp (fun B5=>Y.F_putN (Y.F_nil ?_))))))))))))))
 refine ra rfl (eZ (cU (Y.D_start (m:=10) [] (cQ (Ei:=[(5,_)]) rfl rfl (bQ (bJ rfl rfl) bX) rfl rfl (dZ rfl (eW A_32 Z_32 (Ht rfl) (i:=3) rfl rfl rfl)) (cQ (Ei:=[(1,_)]) rfl rfl (bQ (bJ rfl rfl) bX) rfl rfl (dZ rfl (eJ zK (Ht rfl) rfl)) (cQ (Ei:=[(25,_)]) rfl rfl (bQ (bZ 1 rfl rfl) bX) rfl rfl (dZ rfl (fQ A_23 Z_23 (Ht rfl) (i:=0) rfl rfl)) (cQ (Ei:=[(26,_)]) rfl rfl (bQ (bZ 2 rfl rfl) bX) rfl rfl (dZ rfl (cJ Tryz.call86 (xL zo (by assumption)) ⟨(Ht rfl),trivial⟩)) ?_)))))))
 refine cQ (Ei:=[(24,_),(27,_)]) rfl rfl (bQ (bZ 0 rfl rfl) (bQ (bZ 3 rfl rfl) bX)) rfl rfl (dZ rfl (cJ Tryz.call55 (Vq zo zo) ⟨(Ht rfl),(Ht rfl),trivial⟩)) (cQ (Ei:=[(28,_)]) rfl rfl (bQ (bZ 4 rfl rfl) bX) rfl rfl (dZ rfl (cZ (Ht rfl))) (cQ (Ei:=[(23,_)]) rfl rfl (bQ (bZ 5 rfl rfl) bX) rfl rfl (dZ rfl (dU (Ht rfl) rfl)) (cQ (Ei:=[(23,_)]) rfl rfl (bQ (bZ 5 rfl rfl) bX) rfl rfl (dZ rfl (dU (Ht rfl) rfl)) ?_)))
 refine Y.D_newp (Ei:=[]) (fun bb=>box bb 34 [aR (dA (cP (dA (bS (z.map Rt.q) (rq s)) (z.map Rt.q)) (rq c)) (dA (bS (z.map Rt.q) (rq s)) (z.map Rt.q))),bB (dA (cP (dA (bS (z.map Rt.q) (rq s)) (z.map Rt.q)) (rq c)) (dA (bS (z.map Rt.q) (rq s)) (rq s))),bB (dA (cP (dA (bS (z.map Rt.q) (rq s)) (z.map Rt.q)) (rq c)) (rq c))]) 9 rfl rfl rfl bX rfl rfl (by kernel_rfl) (eG (Ts:=[Is (.slice none 0 0),Is (.slice none 0 0),Is (.slice none 0 0)]) O_34 rfl (fun V=>aW zd (aW zd (aW zd (aG))))) ?_
 refine Y.D_putN (Ei:=[(29,_)]) 8 rfl rfl rfl rfl rfl rfl (bQ (bZ 6 rfl rfl) bX) (fun bb=>lA Z_34 (Ht rfl) (Ht rfl) rfl (i:=0) rfl (aK rfl) rfl rfl) (Y.D_done bE rfl (by kernel_rfl) rfl (by simp [Y.okP]) rfl rfl (bU (bU (bU (bU (bU (bU (bU (bU (Y.F_newp (fun B7=>Y.F_putN (Y.F_nil ?_))))))))))))
 refine ra rfl (eZ (cU (Y.D_start (m:=12) [] (cQ (Ei:=[(1,_)]) rfl rfl (bQ (bJ rfl rfl) bX) rfl rfl (dZ rfl (eJ Fz (Ht rfl) rfl)) (cQ (Ei:=[(32,_)]) rfl rfl (bQ (bZ 0 rfl rfl) bX) rfl rfl (dZ rfl (fQ A_22 Z_22 (Ht rfl) (i:=0) rfl rfl)) (cQ (Ei:=[(33,_)]) rfl rfl (bQ (bZ 1 rfl rfl) bX) rfl rfl (dZ rfl (cJ Tryz.call50 (Dt zo) ⟨(Ht rfl),trivial⟩)) (cQ (Ei:=[(1,_)]) rfl rfl (bQ (bJ rfl rfl) bX) rfl rfl (dZ rfl (eJ zJ (Ht rfl) rfl)) ?_)))))))
 refine cQ (Ei:=[(35,_)]) rfl rfl (bQ (bZ 3 rfl rfl) bX) rfl rfl (dZ rfl (fQ A_23 Z_23 (Ht rfl) (i:=0) rfl rfl)) (cQ (Ei:=[(36,_)]) rfl rfl (bQ (bZ 4 rfl rfl) bX) rfl rfl (dZ rfl (cJ Tryz.call91 (Du zo (by assumption)) ⟨(Ht rfl),trivial⟩)) ?_)
 refine cQ (Ei:=[(34,_),(37,_)]) rfl rfl (bQ (bZ 2 rfl rfl) (bQ (bZ 5 rfl rfl) bX)) rfl rfl (dZ rfl (cJ Tryz.call90 (Rw (L:=2) (by assumption) zo zo zo) ⟨(Ht rfl),(Ht rfl),trivial⟩)) ?_
 refine cQ (Ei:=[(38,_)]) rfl rfl (bQ (bZ 6 rfl rfl) bX) rfl rfl (dZ rfl (cZ (Ht rfl))) (cQ (Ei:=[(31,_)]) rfl rfl (bQ (bZ 7 rfl rfl) bX) rfl rfl (dZ rfl (dU (Ht rfl) rfl)) (cQ (Ei:=[(31,_)]) rfl rfl (bQ (bZ 7 rfl rfl) bX) rfl rfl (dZ rfl (dU (Ht rfl) rfl)) (Y.D_newp (Ei:=[]) (fun bb=>box bb 38 [Lo (dA (bS (z.map Rt.q) (rq s)) (z.map Rt.q)),QM (dA (bS (z.map Rt.q) (rq s)) (rq s))]) 11 rfl rfl rfl bX rfl rfl (by kernel_rfl) (eG (Ts:=[Is (.slice none 0 0),Is (.slice none 0 0)]) O_38 rfl (fun V=>aW zd (aW zd (aG)))) ?_)))
 refine Y.D_putN (Ei:=[(39,_)]) 10 rfl rfl rfl rfl rfl rfl (bQ (bZ 8 rfl rfl) bX) (fun bb=>lA Z_38 (Ht rfl) (Ht rfl) rfl (i:=0) rfl (aK rfl) rfl rfl) (Y.D_done bE rfl (by kernel_rfl) rfl (by simp [Y.okP]) rfl rfl (bU (bU (bU (bU (bU (bU (bU (bU (bU (bU (Y.F_newp (fun B9=>Y.F_putN (Y.F_nil ?_))))))))))))))
 refine ra rfl (eZ (cU (Y.D_start (m:=10) [] (cQ (Ei:=[(9,_)]) rfl rfl (bQ (bJ rfl rfl) bX) rfl rfl (dZ rfl (eW A_38 Z_38 (Ht rfl) (i:=5) rfl rfl rfl)) (cQ (Ei:=[(1,_)]) rfl rfl (bQ (bJ rfl rfl) bX) rfl rfl (dZ rfl (eJ zK (Ht rfl) rfl)) (cQ (Ei:=[(43,_)]) rfl rfl (bQ (bZ 1 rfl rfl) bX) rfl rfl (dZ rfl (fQ A_23 Z_23 (Ht rfl) (i:=0) rfl rfl)) (cQ (Ei:=[(44,_)]) rfl rfl (bQ (bZ 2 rfl rfl) bX) rfl rfl (dZ rfl (cJ Tryz.call91 (Du zo (by assumption)) ⟨(Ht rfl),trivial⟩)) ?_)))))))
 refine cQ (Ei:=[(42,_),(45,_)]) rfl rfl (bQ (bZ 0 rfl rfl) (bQ (bZ 3 rfl rfl) bX)) rfl rfl (dZ rfl (cJ Tryz.call92 (Rx zo zo) ⟨(Ht rfl),(Ht rfl),trivial⟩)) (cQ (Ei:=[(46,_)]) rfl rfl (bQ (bZ 4 rfl rfl) bX) rfl rfl (dZ rfl (cZ (Ht rfl))) (cQ (Ei:=[(41,_)]) rfl rfl (bQ (bZ 5 rfl rfl) bX) rfl rfl (dZ rfl (dU (Ht rfl) rfl)) (cQ (Ei:=[(41,_)]) rfl rfl (bQ (bZ 5 rfl rfl) bX) rfl rfl (dZ rfl (dU (Ht rfl) rfl)) ?_)))
 refine Y.D_newp (Ei:=[]) (fun bb=>box bb 40 [Lo (dA (cP (dA (bS (z.map Rt.q) (rq s)) (z.map Rt.q)) (rq c)) (dA (bS (z.map Rt.q) (rq s)) (z.map Rt.q))),QM (dA (cP (dA (bS (z.map Rt.q) (rq s)) (z.map Rt.q)) (rq c)) (dA (bS (z.map Rt.q) (rq s)) (rq s))),QM (dA (cP (dA (bS (z.map Rt.q) (rq s)) (z.map Rt.q)) (rq c)) (rq c))]) 9 rfl rfl rfl bX rfl rfl (by kernel_rfl) (eG (Ts:=[Is (.slice none 0 0),Is (.slice none 0 0),Is (.slice none 0 0)]) O_40 rfl (fun V=>aW zd (aW zd (aW zd (aG))))) ?_
 refine Y.D_putN (Ei:=[(47,_)]) 8 rfl rfl rfl rfl rfl rfl (bQ (bZ 6 rfl rfl) bX) (fun bb=>lA Z_40 (Ht rfl) (Ht rfl) rfl (i:=0) rfl (aK rfl) rfl rfl) (Y.D_done bE rfl (by kernel_rfl) rfl (by simp [Y.okP]) rfl rfl (bU (bU (bU (bU (bU (bU (bU (bU (Y.F_newp (fun B11=>Y.F_putN (Y.F_nil ?_))))))))))))
 refine ra rfl (eZ (cU (Y.D_start (m:=16) [(14,1,box B2 34 [aR (dA (cP (dA (bS (z.map Rt.q) (rq s)) (z.map Rt.q)) (rq c)) (dA (bS (z.map Rt.q) (rq s)) (z.map Rt.q))),bB (dA (cP (dA (bS (z.map Rt.q) (rq s)) (z.map Rt.q)) (rq c)) (dA (bS (z.map Rt.q) (rq s)) (rq s))),bB (dA (cP (dA (bS (z.map Rt.q) (rq s)) (z.map Rt.q)) (rq c)) (rq c))]),(15,2,box B3 40 [Lo (dA (cP (dA (bS (z.map Rt.q) (rq s)) (z.map Rt.q)) (rq c)) (dA (bS (z.map Rt.q) (rq s)) (z.map Rt.q))),QM (dA (cP (dA (bS (z.map Rt.q) (rq s)) (z.map Rt.q)) (rq c)) (dA (bS (z.map Rt.q) (rq s)) (rq s))),QM (dA (cP (dA (bS (z.map Rt.q) (rq s)) (z.map Rt.q)) (rq c)) (rq c))])] ?_)))
 refine Y.D_step (Ei:=[(7,_)]) rfl rfl (bQ (bJ rfl rfl) bX) rfl rfl (by kernel_rfl) (dZ rfl (eW A_34 Z_34 (Ht rfl) (i:=4) rfl rfl rfl)) (cQ (Ei:=[(11,_)]) rfl rfl (bQ (bJ rfl rfl) bX) rfl rfl (dZ rfl (eW A_40 Z_40 (Ht rfl) (i:=6) rfl rfl rfl)) (Y.D_step (Ei:=[(6,_)]) rfl rfl (bQ (bJ rfl rfl) bX) rfl rfl (by kernel_rfl) (dZ rfl (cZ (Ht rfl))) (Y.D_step (Ei:=[(10,_)]) rfl rfl (bQ (bJ rfl rfl) bX) rfl rfl (by kernel_rfl) (dZ rfl (cZ (Ht rfl))) ?_)))
 refine Y.D_step (Ei:=[(51,_),(52,_)]) rfl rfl (bQ (bZ 2 rfl rfl) (bQ (bZ 3 rfl rfl) bX)) rfl rfl (by kernel_rfl) (dZ rfl (jH (Ht rfl) (Ht rfl))) (Y.D_step (Ei:=[(53,_)]) rfl rfl (bQ (bZ 4 rfl rfl) bX) rfl rfl (by kernel_rfl) (dZ rfl (cZ (Ht rfl))) (Y.D_step (Ei:=[(6,_),(54,_)]) rfl rfl (bQ (bJ rfl rfl) (bQ (bZ 5 rfl rfl) bX)) rfl rfl (by kernel_rfl) (oJ rfl rfl (Ht rfl) (fun h=>cZ (Ht rfl))) (Y.D_step (Ei:=[(55,_),(54,_)]) rfl rfl (bQ (bZ 6 rfl rfl) (bQ (bZ 5 rfl rfl) bX)) rfl rfl (by kernel_rfl) (oJ rfl rfl (Ht rfl) (fun h=>kA (bM.wu rfl h) cW)) ?_)))
 refine Y.D_step (Ei:=[(56,_),(54,_)]) rfl rfl (bQ (bZ 7 rfl rfl) (bQ (bZ 5 rfl rfl) bX)) rfl rfl (by kernel_rfl) (oJ rfl rfl (Ht rfl) (fun h=>cZ (bM.wu rfl h))) (cQ (Ei:=[(8,_),(57,_)]) rfl rfl (bQ (bJ rfl rfl) (bQ (bZ 8 rfl rfl) bX)) rfl rfl (vY rfl rfl rfl (fun h h2=>cZ (Ht rfl))) (cQ (Ei:=[(12,_),(57,_)]) rfl rfl (bQ (bJ rfl rfl) (bQ (bZ 8 rfl rfl) bX)) rfl rfl (vY rfl rfl rfl (fun h h2=>cZ (Ht rfl))) (cQ (Ei:=[(58,_),(59,_),(57,_)]) rfl rfl (bQ (bZ 9 rfl rfl) (bQ (bZ 10 rfl rfl) (bQ (bZ 8 rfl rfl) bX))) rfl rfl (vY rfl rfl rfl (fun h h2=>jH (bM.wu rfl ⟨h,h2⟩) (bM.wu rfl ⟨h,h2⟩))) ?_)))
 refine cQ (Ei:=[(57,_),(60,_),(54,_)]) rfl rfl (bQ (bZ 8 rfl rfl) (bQ (bZ 11 rfl rfl) (bQ (bZ 5 rfl rfl) bX))) rfl rfl (oJ rfl rfl (Ht rfl) (fun h=>jI (bM.wu rfl h) (fun h2=>(bM.wu rfl ⟨h,h2⟩)))) (cQ (Ei:=[(54,_),(61,_)]) rfl rfl (bQ (bZ 5 rfl rfl) (bQ (bZ 12 rfl rfl) bX)) rfl rfl (dZ rfl (fM (Ht rfl) (fun h=>(bM.wu rfl h)))) (Y.D_putI (Ei:=[(2,_),(49,_)]) 1 rfl rfl rfl (bQ (bJ rfl rfl) (bQ (bZ 0 rfl rfl) bX)) (.head _) rfl (lA Z_34 (Ht rfl) (Ht rfl) rfl (i:=0) rfl (aK rfl) rfl rfl) ?_))
 refine Y.D_putI (Ei:=[(3,_),(50,_)]) 2 rfl rfl rfl (bQ (bJ rfl rfl) (bQ (bZ 1 rfl rfl) bX)) (.tail _ (.head _)) rfl (lA Z_40 (Ht rfl) (Ht rfl) rfl (i:=0) rfl (aK rfl) rfl rfl) (Y.D_done bE rfl (by kernel_rfl) rfl (by simp [Y.okP]) rfl rfl (bU (bU (bU (bU (bU (bU (bU (bU (bU (bU (bU (bU (bU (bU (Y.F_putI (Y.F_putI (Y.F_nil ?_))))))))))))))))))
 refine ra rfl (eZ (a2U rfl (fU A_34 Z_34 rfl (i:=1) rfl rfl) (fU A_40 Z_40 rfl (i:=2) rfl rfl) (fZ (eY rfl) ?_)))
 exact (dH (by simp))
end
section
open Go Go.RowKit
theorem mX (v : Value) (w : World) : (method (Tryz.prog.types.size + Made.depth) 51 v "Of").run Tryz.prog w = .ok (302, v) w := by kernel_rfl
theorem bL (v:Value) (w:World):(Instr.makeInterface 51 v).run Tryz.prog w = .ok (.iface 51 v) w:=by
 simp [Instr.makeInterface,Sem.run_bind,Result.andThen,U_51]
end
section
open Go Go.RowKit
theorem Mj {x:Qi} {L:Nat} [hx:aE x L] (h:L ≤ 8796093022208):bH Tryz.prog 159 [aH x] (aD (Lf x)):=by
 haveI hz:aE Qi.zero 1:=aE.zero (Nat.le_refl 1)
 rw [← a2a]
 refine bH.intro Tryz.func159 rfl Tryz.ntmps159 rfl (fun cx=>(ts (rn rfl (fK (Ht rfl)) fun B1=>(ro rfl (cX cW) (eZ (cU (fJ (m:=5) (dp 1 rfl (eW A_51 Z_51 (Ht rfl) (i:=0) rfl rfl rfl) (dq 3 0 rfl (cJ Tryz.call169 Fn ⟨(Ht rfl),trivial⟩) (dq 4 1 rfl (cZ (Ht rfl)) (C.D_step (Ei:=[(1,_),(5,_)]) rfl rfl (bV (bK rfl rfl) (bV (bG 2 rfl rfl) bW)) (eU rfl rfl (Ht rfl) (fun h=>eW A_51 Z_51 (Ht rfl) (i:=0) rfl rfl rfl)) (C.D_step (Ei:=[(5,_)]) rfl rfl (bV (bG 2 rfl rfl) bW) (eU rfl rfl (Ht rfl) (fun h=>cJ K_77 (oI (n:=0) (by decide) (by decide)) ⟨(cV 0),trivial⟩)) ?_))))))))))))
 refine fW bE rfl (by kernel_rfl) (zF (aJ (aV (fX rfl rfl (eU rfl rfl (Ht rfl) (fun h=>cJ Tryz.call76 (Ve (x:=x) (y:=Qi.zero) (M:=1) zo) ⟨(fV rfl h),(fV rfl h),trivial⟩)) (fX rfl rfl (eU rfl rfl (Ht rfl) (fun h=>lQ (fV rfl h) cW)) (ro rfl (fM (Ht rfl) (fun h=>(fV rfl h))) (ra rfl (eZ ?_))))))))
 exact fG rfl (eY rfl)
theorem Dp {y:Qi}:bH Tryz.prog 302 [eH [Is (.bool false),Is (.slice none 0 0),Is (.bool false),Is (.slice none 0 0),Is (.slice none 0 0)],aH y] (aH y):=by
 refine bH.intro Tryz.func302 rfl Tryz.ntmps302 rfl (fun cx=>(ts (rn rfl (fK (Ht rfl)) fun B2=>(rn rfl (fK (Ht rfl)) fun B3=>(rn rfl (eG (Ts:=[Is (.bool false),Is (.slice none 0 0),Is (.bool false),Is (.slice none 0 0),Is (.slice none 0 0)]) O_51 rfl (fun V=>aW zd (aW zd (aW zd (aW zd (aW zd (aG))))))) fun B4=>(eZ (ts (ro rfl (eW A_51 Z_51 (Ht rfl) (i:=1) rfl rfl rfl) (gX Z_51 (Ht rfl) (Ht rfl) rfl (i:=2) rfl (aK rfl) rfl rfl ?_)))))))))
 refine eZ ?_
 exact fG rfl (fU A_51 Z_51 rfl (i:=2) rfl rfl)
theorem Dg {x:Qi}:bH Tryz.prog 98 [aH x] (aH x):=by
 refine bH.intro Tryz.func98 rfl Tryz.ntmps98 rfl (fun cx=>(ts (rn rfl (fK (Ht rfl)) fun B1=>(rn rfl (eG (Ts:=[Is (.bool false),Is (.slice none 0 0),Is (.bool false),Is (.slice none 0 0),Is (.slice none 0 0)]) O_51 rfl (fun V=>aW zd (aW zd (aW zd (aW zd (aW zd (aG))))))) fun B2=>(eZ (ts (rn rfl (eG (Ts:=[Is (.bool false),Is (.slice none 0 0),Is (.bool false),Is (.slice none 0 0),Is (.slice none 0 0)]) O_51 rfl (fun V=>aW zd (aW zd (aW zd (aW zd (aW zd (aG))))))) fun B3=>?_)))))))
 refine eZ (ts (ro rfl (eW A_51 Z_51 (Ht rfl) (i:=2) rfl rfl rfl) (ro rfl (aT bL (Ht rfl)) (ro rfl (eW A_51 Z_51 (Ht rfl) (i:=0) rfl rfl rfl) (ro rfl (aL mX K_302 Dp (Ht rfl) ⟨(Ht rfl),trivial⟩) (gX Z_51 (Ht rfl) (Ht rfl) rfl (i:=1) rfl (aK rfl) rfl rfl (eZ ?_)))))))
 exact fG rfl (fU A_51 Z_51 rfl (i:=1) rfl rfl)
theorem Mc {r:List Qi} {k:Nat}:bH Tryz.prog 273 [aR r,PT (NT .i64 k)] (aD (!decide (r.length = k))):=by
 refine bH.intro Tryz.func273 rfl Tryz.ntmps273 rfl (fun cx=>(ts (ro rfl (cX cW) (eZ (ts (rm rfl (ro rfl (dK U_29 (Ht rfl) aA) (ro rfl (dV A_3 Z_3 (Ht rfl)) (ro rfl (gB (Ht rfl) (Ht rfl)) (ra rfl (eZ ?_)))))))))))
 exact fG rfl (eY rfl)
theorem Ar  : bH Tryz.prog 240 [bB []] (fI [NT .i64 0,aD true]):=by
 refine bH.intro Tryz.func240 rfl Tryz.ntmps240 rfl (fun cx=>(ts (ro rfl (cX (cV 0)) (ro rfl (cX cW) (eZ (cU (ts (rm rfl (ro rfl (dK U_30 (Ht rfl) aA) (ro rfl (dO (Ht rfl) (cV 0)) (eZ (Ff (Ht rfl) (by rfl) ?_))))))))))))
 refine ts (ro rfl (cX (cV 0)) (ro rfl (cX cW) (eZ ?_)))
 exact bN rfl (eY rfl) (eY rfl)
theorem xK {a:List (List Qi)} {n k:Nat} (h:cM a n k) (h1:1 ≤ n) (hn:n ≤ 32) (hk:k ≤ 32):bH Tryz.prog 240 [bB a] (fI [NT .i64 k,aD true]):=by
 obtain ⟨rfl,h2⟩:=h
 have hr0:(a.getD 0 []).length = k:=cM.row ⟨rfl,h2⟩ zo
 refine bH.intro Tryz.func240 rfl Tryz.ntmps240 rfl (fun cx=>(ts (ro rfl (cX (cV 0)) (ro rfl (cX cW) (eZ (cU (ts (rm rfl (ro rfl (dK U_30 (Ht rfl) aA) (ro rfl (dO (Ht rfl) (cV 0)) (eZ (dX (Ht rfl) (fun hb=>?_) (fun hb=>?_)))))))))))))
 ·simp only [decide_eq_true_eq] at hb
  omega
 ·refine cY (ts (rm rfl (ro rfl (dJ U_30 Z_29 (Ht rfl) (cV 0) rfl (eQ (dY (d := []) zo))) (ro rfl (dV A_29 Z_29 (Ht rfl)) (ro rfl (dK U_29 (Ht rfl) aA) (rn rfl (eG (Ts := [Is (.int .i64 0)]) Tryz.zeroValue3 rfl (fun V => aW zd (aG))) fun B4 => (lO Z_3 (Ht rfl) (Ht rfl) (i := 0) rfl (aK rfl) rfl (eZ (cU (gV (i := 0) (tt := 4) rfl rfl mF (fJ (m := 15) (dp 4 rfl (dV A_3 Z_3 (Ht rfl)) ?_))))))))))))
  refine dp 0 rfl (cZ (Ht rfl)) (dq 13 1 rfl (dK U_30 (Ht rfl) aA) (dq 14 2 rfl (zX (Ht rfl) (cV 32)) (dq 15 3 rfl (cZ (Ht rfl)) (C.D_step (Ei:=[(4,_),(16,_)]) rfl rfl (bV (bK rfl rfl) (bV (bG 4 rfl rfl) bW)) (eU rfl rfl (Ht rfl) (fun h=>dV A_3 Z_3 (Ht rfl))) (C.D_step (Ei:=[(17,_),(16,_)]) rfl rfl (bV (bG 5 rfl rfl) (bV (bG 4 rfl rfl) bW)) (eU rfl rfl (Ht rfl) (fun h=>zX (fV rfl h) (cV 32))) (dR 16 4 18 6 rfl (fM (Ht rfl) (fun h=>(fV rfl h))) ?_))))))
  refine dq 19 7 rfl (cZ (Ht rfl)) (C.D_step (Ei:=[(0,_),(20,_)]) rfl rfl (bV (bK rfl rfl) (bV (bG 8 rfl rfl) bW)) (eU rfl rfl (Ht rfl) (fun h=>cZ (Ht rfl))) (C.D_step (Ei:=[(4,_),(20,_)]) rfl rfl (bV (bK rfl rfl) (bV (bG 8 rfl rfl) bW)) (eU rfl rfl (Ht rfl) (fun h=>oN (γ:=List Qi) (Ts:=fun r=>[aR r]) (U:=fun r=>aD (!decide (r.length = (a.getD 0 []).length))) Tryz.call273 (fun r=>Mc) ⟨(Ht rfl),trivial⟩)) (C.D_step (Ei:=[(21,_),(22,_),(20,_)]) rfl rfl (bV (bG 9 rfl rfl) (bV (bG 10 rfl rfl) (bV (bG 8 rfl rfl) bW))) (eU rfl rfl (Ht rfl) (fun h=>cJ Tryz.call156 (uZ (l:=a) (T:=aR) (p:=fun r=>!decide (r.length = (a.getD 0 []).length)) zo) ⟨(fV rfl h),(fV rfl h),trivial⟩)) ?_)))
  refine C.D_step (Ei:=[(23,_),(20,_)]) rfl rfl (bV (bG 11 rfl rfl) (bV (bG 8 rfl rfl) bW)) (eU rfl rfl (Ht rfl) (fun h=>eN (fV rfl h))) (dR 20 8 24 12 rfl (fM (Ht rfl) (fun h=>(fV rfl h))) (dq 12 0 rfl (cX (Ht rfl)) (fW bE rfl (by kernel_rfl) (zF (zF (zF (aJ (aJ (aJ (aV (ra rfl (eZ (bN rfl (fZ (eY rfl) ?_) (fZ (eY rfl) ?_))))))))))))))
  ·exact (kU hr0)
  ·exact (dH (by rw [hr0,a0I ⟨rfl,h2⟩]; simp; omega))
theorem At {a:List (List Qi)} {n k:Nat} (h:cM a n k) (h1:1 ≤ n ∨ k = 0) (hn:n ≤ 32) (hk:k ≤ 32):bH Tryz.prog 240 [bB a] (fI [NT .i64 k,aD true]):=by
 by_cases e:n = 0
 ·subst e
  obtain rfl:=List.length_eq_zero_iff.1 h.1
  rw [show k = 0 by omega]; exact Ar
 ·exact xK h zo hn hk
end
section
open Go Go.RowKit
theorem nS (v : Value) (w : World) : (method (Tryz.prog.types.size + Made.depth) 51 v "Add").run Tryz.prog w = .ok (46, v) w := by kernel_rfl
theorem mG (v : Value) (w : World) : (method (Tryz.prog.types.size + Made.depth) 51 v "Conj").run Tryz.prog w = .ok (175, v) w := by kernel_rfl
theorem cL (v : Value) (w : World) : (method (Tryz.prog.types.size + Made.depth) 51 v "Mul").run Tryz.prog w = .ok (45, v) w := by kernel_rfl
end
section
open Go Go.RowKit
theorem Hx {a b:List (List Qi)} {n k m L M:Nat} (ha:cM a n k) (hb:cM b k m) (hfa:bC a L) (hfb:bC b M) (hL1:1 ≤ L) (hM1:1 ≤ M) (hL:L ≤ 900000000000) (hM:M ≤ 900000000000) (hn1:1 ≤ n ∨ k = 0) (hk1:1 ≤ k ∨ m = 0) (hn:n ≤ 8) (hk:k ≤ 8) (hm:m ≤ 8):gO Tryz.prog 195 [bB a,bB b] [] (Nat) (fun B=>fI [Is (.slice (some ⟨B,0,none⟩) n n),aO .i64 0]) (fun B=>[nR B 29 51 5 (cE aH (jY a b n k m))]) (fun _=>True):=by
 have hal:=ha.1
 have hbl:=hb.1
 refine gO.intro Tryz.func195 rfl Tryz.ntmps195 rfl (fun cx Z=>(ts (ro rfl (cX cW) (ro rfl (cX (cV 0)) (eZ (ts (rm rfl (ro rfl (cJ Tryz.call240 (At ha hn1 zo zo) ⟨(Ht rfl),trivial⟩) (rm rfl (ro rfl (dU (Ht rfl) rfl) (ro rfl (dU (Ht rfl) rfl) (ra rfl (ra rfl (eZ (ts (rm rfl (ro rfl (cJ Tryz.call240 (At hb hk1 zo zo) ⟨(Ht rfl),trivial⟩) (rm rfl (ro rfl (dU (Ht rfl) rfl) (ro rfl (dU (Ht rfl) rfl) (ra rfl (ra rfl (eZ (cU (ts (rm rfl (ro rfl (eN (Ht rfl)) ?_)))))))))))))))))))))))))))
 refine rm rfl (fX rfl rfl (eU rfl rfl (Ht rfl) (fun h=>cZ (Ht rfl))) (fX rfl rfl (eU rfl rfl (Ht rfl) (fun h=>eN (fV rfl h))) (ro rfl (jI (Ht rfl) (fun h=>(fV rfl h))) (rm rfl (fX rfl rfl (eU rfl rfl (Ht rfl) (fun h=>cZ (Ht rfl))) (fX rfl rfl (eU rfl rfl (Ht rfl) (fun h=>cZ (Ht rfl))) (fX rfl rfl (eU rfl rfl (Ht rfl) (fun h=>dK U_30 (fV rfl h) aA)) (fX rfl rfl (eU rfl rfl (Ht rfl) (fun h=>gB (fV rfl h) (fV rfl h))) (ro rfl (jI (Ht rfl) (fun h=>(fV rfl h))) ?_)))))))))
 refine eZ (dX (Ht rfl) (fun h0=>?_) (fun h0=>?_))
 ·exact absurd h0 (by simp [hbl])
 ·refine cY (ts (rm rfl (ro rfl (dK U_30 (Ht rfl) aA) (rn rfl (eM (T := Is (.slice none 0 0)) (i := Tryz.t29) V_30 lH rfl rfl (Ht rfl) rfl (fun _ => rfl) trivial (by show 24 * _ ≤ _; omega) zo) fun B39 => (ra rfl (eZ (cU (ts (rm rfl (ro rfl (gA U_30 (Ht rfl)) (ro rfl (cZ (cV 0)) (eZ (eK (nZ 1 rfl (uI (e := 51) (s := 5)) ?_))))))))))))))
  refine cF (fun (i : Nat) => i ≤ n) (fun (i : Nat) => n - i) (fun (i : Nat) => [(0, bB a), (1, bB b), (6, NT .i64 k), (8, NT .i64 m), (10, Is (.slice (some ⟨B39, 0, none⟩) n n)), (41, NT .i64 n), (42, NT .i64 i)]) (fun (i : Nat) => [Z, nR B39 29 51 5 (cE aH (mA (fun i => tab m fun c => yX a b k i c) [] n i))]) 0 (Nat.zero_le _)
   (aQ rfl (aQ rfl (aQ rfl (aQ rfl (aZ rfl (fun v V h=>by rw [← hal]; exact h) (aZ rfl (kU hal) (zS rfl))))))) (aU (fun _ _ _ h=>h) (aU (cB (by rw [← jS,kS,hal]; exact mL aH n)) aY)) (fun i hi=>?_)
  refine ts (ro rfl (gZ (Ht rfl) (Ht rfl)) (eZ (cU (dX (Ht rfl) (fun hd=>?_) (fun hd=>?_)))))
  ·simp only [decide_eq_true_eq] at hd
   have har:=ha.row hd
   refine nG 1 (i) rfl (mE hd) (fun v=>(cY (cU (eK (ts (rm rfl (ra rfl (eZ (ts (rm rfl (ro rfl (cZ (cV 0)) (eZ (eK ?_)))))))))))))
   refine fS (fun (c : Nat) (v : Value) => c ≤ m) (fun (c : Nat) (v : Value) => m - c) (fun (c : Nat) (v : Value) => [(0, bB a), (1, bB b), (6, NT .i64 k), (8, NT .i64 m), (10, Is (.slice (some ⟨B39, 0, none⟩) n n)), (11, NT .i64 i), (41, NT .i64 n), (42, NT .i64 i), (45, NT .i64 m), (46, NT .i64 c)]) (fun (c : Nat) (v : Value) => [Z, Di B39 29 51 5 (cE aH (mA (fun i => tab m fun c => yX a b k i c) [] n i)) i v, cC 51 5 v ((tab c fun c => yX a b k i c).map aH)]) 0 v (Nat.zero_le _)
    (zS rfl) (dM.refl _) (fun c v hc=>?_)
   refine ts (ro rfl (gZ (Ht rfl) (Ht rfl)) (eZ (cU (dX (Ht rfl) (fun he=>?_) (fun he=>?_)))))
   ·simp only [decide_eq_true_eq] at he
    have hk1:1 ≤ k:=by omega
    have hb0:=hb.row (i:=0) zo
    haveI f1:aE (gm a i 0) L:=hfa.get hL1 i 0
    haveI f2:aE (gm b 0 c) M:=hfb.get hM1 0 c
    refine cY (cU (eK (ts (rm rfl (ra rfl (eZ (cU (fJ (m:=15) (dp 0 rfl (cZ (Ht rfl)) (dp 11 rfl (cZ (Ht rfl)) (dR 49 0 50 1 rfl (dJ U_30 Z_29 (Ht rfl) (Ht rfl) rfl (eQ (dY (d:=[]) zo))) (dq 51 2 rfl (dV A_29 Z_29 (Ht rfl)) (dq 52 3 rfl (dJ U_29 Z_51 (Ht rfl) (cV 0) rfl (eQ (dY (d:=Qi.zero) (by rw [har]; omega)))) ?_)))))))))))))
    refine dq 53 4 rfl (dV A_51 Z_51 (Ht rfl)) (dq 54 5 rfl (aT bL (Ht rfl)) (dp 1 rfl (cZ (Ht rfl)) (dq 56 7 rfl (dJ U_30 Z_29 (Ht rfl) (cV 0) rfl (eQ (dY (d:=[]) zo))) (dq 57 8 rfl (dV A_29 Z_29 (Ht rfl)) (dp 12 rfl (cZ (Ht rfl)) (dR 58 9 59 10 rfl (dJ U_29 Z_51 (Ht rfl) (Ht rfl) rfl (eQ (dY (d:=Qi.zero) (by rw [hb0]; omega)))) ?_))))))
    refine dq 60 11 rfl (dV A_51 Z_51 (Ht rfl)) (dR 55 6 61 12 rfl (aL cL K_45 (iT zo) (Ht rfl) ⟨(Ht rfl),trivial⟩) (C.D_new (Ei:=[]) rfl rfl rfl bW (eG (Ts:=[Is (.bool false),Is (.slice none 0 0),Is (.bool false),Is (.slice none 0 0),Is (.slice none 0 0)]) O_51 rfl (fun V=>aW zd (aW zd (aW zd (aW zd (aW zd (aG))))))) (fW bE rfl (by kernel_rfl) (zF (zF (zF (aJ (aJ (C.F_new (fun B13=>aV ?_))))))))))
    refine gX Z_51 (Ht rfl) (Ht rfl) rfl (i:=3) rfl (aK rfl) rfl rfl (eZ (cU (ts (ro rfl (cX (cV 1)) (eZ (eK ?_))))))
    refine cF (fun (j : Nat) => 1 ≤ j ∧ j ≤ k) (fun (j : Nat) => k - j) (fun (j : Nat) => [(0, bB a), (1, bB b), (6, NT .i64 k), (8, NT .i64 m), (10, Is (.slice (some ⟨B39, 0, none⟩) n n)), (11, NT .i64 i), (12, NT .i64 c), (13, bT B13 0), (14, NT .i64 j), (41, NT .i64 n), (42, NT .i64 i), (45, NT .i64 m), (46, NT .i64 c)]) (fun (j : Nat) => [Z, Di B39 29 51 5 (cE aH (mA (fun i => tab m fun c => yX a b k i c) [] n i)) i v, cC 51 5 v ((tab c fun c => yX a b k i c).map aH), box B13 51 [aD (decide ((aF j fun j => gm a i j * gm b j c).a < 0)), aI (aF j fun j => gm a i j * gm b j c).a.natAbs, aD (decide ((aF j fun j => gm a i j * gm b j c).b < 0)), aI (aF j fun j => gm a i j * gm b j c).b.natAbs, aI (du (aF j fun j => gm a i j * gm b j c))]]) 1 ⟨Nat.le_refl _, hk1⟩
     (zS rfl) (aU (fun _ _ _ h=>h) (aU (fun _ _ _ h=>h) (aU (fun _ _ _ h=>h) (aU (aB (by rw [Cm]; rfl)) aY)))) (fun j ⟨hj1,hj⟩=>?_)
    refine cU (ts (rm rfl (rm rfl (ro rfl (gZ (Ht rfl) (Ht rfl)) (eZ (dX (Ht rfl) (fun hf=>?_) (fun hf=>?_)))))))
    ·simp only [decide_eq_true_eq] at hf
     haveI f3:aE (gm a i j) L:=hfa.get hL1 i j
     haveI f4:aE (gm b j c) M:=hfb.get hM1 j c
     haveI f5:aE (aF j fun j=>gm a i j * gm b j c) (8 * (L + M) + 17):=Pf hfa hfb hL1 hM1 zo i c
     have hbj:=hb.row (i:=j) zo
     refine cY (cU (eK (fJ (m:=18) (dp 13 rfl (eW A_51 Z_51 (Ht rfl) (i:=3) rfl rfl rfl) (dq 68 0 rfl (aT bL (Ht rfl)) (dp 0 rfl (cZ (Ht rfl)) (dp 11 rfl (cZ (Ht rfl)) (dR 70 2 71 3 rfl (dJ U_30 Z_29 (Ht rfl) (Ht rfl) rfl (eQ (dY (d:=[]) zo))) (dq 72 4 rfl (dV A_29 Z_29 (Ht rfl)) (dp 14 rfl (cZ (Ht rfl)) (dR 73 5 74 6 rfl (dJ U_29 Z_51 (Ht rfl) (Ht rfl) rfl (eQ (dY (d:=Qi.zero) (by rw [har]; omega)))) ?_)))))))))))
     refine dq 75 7 rfl (dV A_51 Z_51 (Ht rfl)) (dq 76 8 rfl (aT bL (Ht rfl)) (dp 1 rfl (cZ (Ht rfl)) (dp 14 rfl (cZ (Ht rfl)) (dR 78 10 79 11 rfl (dJ U_30 Z_29 (Ht rfl) (Ht rfl) rfl (eQ (dY (d:=[]) zo))) (dq 80 12 rfl (dV A_29 Z_29 (Ht rfl)) (dp 12 rfl (cZ (Ht rfl)) (dR 81 13 82 14 rfl (dJ U_29 Z_51 (Ht rfl) (Ht rfl) rfl (eQ (dY (d:=Qi.zero) (by rw [hbj]; omega)))) ?_)))))))
     refine dq 83 15 rfl (dV A_51 Z_51 (Ht rfl)) (dR 77 9 84 16 rfl (aL cL K_45 (iT zo) (Ht rfl) ⟨(Ht rfl),trivial⟩) (fW bE rfl (by kernel_rfl) (zF (zF (zF (zF (aJ (aJ (aV (ro rfl (aL nS K_46 (yL zo) (Ht rfl) ⟨(Ht rfl),trivial⟩) (gX Z_51 (Ht rfl) (Ht rfl) rfl (i:=3) rfl (aK rfl) rfl rfl (eZ (bO ?_)))))))))))))
     refine dQ (rm rfl (ro rfl (dW (Ht rfl) (cV 1) z6) (ra rfl (eZ (fY (j + 1) ⟨by omega,hf⟩ zo (zS rfl) (aU (fun _ _ _ h=>h) (aU (fun _ _ _ h=>h) (aU (fun _ _ _ h=>h) (aU (aB rfl) aY)))))))))
    ·simp only [decide_eq_false_iff_not] at hf
     obtain rfl:k = j:=Nat.le_antisymm zo hj
     refine gW rfl (Y.D_startA (m:=9) [] 8 2 rfl rfl (cQ (Ei:=[(10,_)]) rfl rfl (bQ (bJ rfl rfl) bX) rfl rfl (dZ rfl (cZ (Ht rfl))) (cQ (Ei:=[(11,_)]) rfl rfl (bQ (bJ rfl rfl) bX) rfl rfl (dZ rfl (cZ (Ht rfl))) (cQ (Ei:=[(10,_)]) rfl rfl (bQ (bJ rfl rfl) bX) rfl rfl (dZ rfl (cZ (Ht rfl))) (cQ (Ei:=[(11,_)]) rfl rfl (bQ (bJ rfl rfl) bX) rfl rfl (dZ rfl (cZ (Ht rfl))) (cQ (Ei:=[(89,_),(90,_)]) rfl rfl (bQ (bZ 2 rfl rfl) (bQ (bZ 3 rfl rfl) bX)) rfl rfl (dZ rfl (gQ U_30 Z_29 (Ht rfl) (Ht rfl) rfl zo (by rw [Nat.mul_one,Nat.zero_add]))) ?_))))))
     refine cQ (Ei:=[(91,_)]) rfl rfl (bQ (bZ 4 rfl rfl) bX) rfl rfl (dZ rfl (jZ A_29 Z_29 (Ht rfl) (j:=1) rfl)) (cQ (Ei:=[(13,_)]) rfl rfl (bQ (bJ rfl rfl) bX) rfl rfl (dZ rfl (eW A_51 Z_51 (Ht rfl) (i:=3) rfl rfl rfl)) (cQ (Ei:=[(93,_)]) rfl rfl (bQ (bZ 6 rfl rfl) bX) rfl rfl (dZ rfl (cR (xs:=[.tmp 93]) U_29 Z_51 O_51 (cG (Ht rfl) cK) rfl rfl rfl)) (Y.D_app (Ei:=[(92,_),(94,_)]) rfl rfl rfl rfl (bQ (bZ 5 rfl rfl) (bQ (bZ 7 rfl rfl) bX)) rfl (qF (inf:=Tryz.t51) lR jO rfl rfl rfl (Ht rfl) (Ht rfl) (by simp) (fun T hT=>by simp at hT; subst hT; exact El.ag rfl) (by show _ * 88 ≤ _; simp only [List.length_map,aN,List.length_cons,List.length_nil]; omega) (by simp only [List.length_map,aN,List.length_cons,List.length_nil]; omega)) ?_)))
     refine Y.D_done bE rfl (by kernel_rfl) rfl (by simp [Y.okP]) rfl rfl (bU (bU (bU (bU (bU (bU (bU (bU (Y.F_app (fun v2=>Y.F_nil ?_))))))))))
     refine ro rfl (gQ U_30 Z_29 (Ht rfl) (Ht rfl) rfl zo (by rw [Nat.mul_one,Nat.zero_add])) ?_
     refine uV Z_29 (Ht rfl) (Ht rfl) (by simp only [cE,List.length_map,eS]; omega) (j:=1) (l:=4) rfl rfl rfl ?_
     refine eZ (bO (dQ (ro rfl (dW (Ht rfl) (cV 1) z6) (rm rfl (eZ (cD [0,1,4] rfl (by decide) (fY (c + 1,v2) he (by dsimp only; omega) (zS rfl) (aU (fun _ _ _ h=>h) (aU (fun _ _ _ h=>h) (aU (bR ((qK aH _ (yX a b k i c)).trans (congrArg _ (tS c (fun c=>yX a b k i c)).symm))) aY))))))))))
   ·simp only [decide_eq_false_iff_not] at he
    obtain rfl:m = c:=Nat.le_antisymm zo hc
    refine gW rfl (bO (fP 1 2 rfl rfl (by decide) (by simp only [cE,List.length_map,eS]; omega) ?_))
    refine dQ (ro rfl (dW (Ht rfl) (cV 1) z6) (rm rfl (eZ (cD [0,1] rfl (by decide) (fY (i + 1) hd zo (zS rfl) (aU (fun _ _ _ h=>h) (aU (cB (by rw [gH,← lJ (f:=(fun i=>tab m fun c=>yX a b k i c))])) aY)))))))
  ·simp only [decide_eq_false_iff_not] at hd
   obtain rfl:n = i:=Nat.le_antisymm zo hi
   refine gW rfl (ts (rm rfl (ra rfl (ro rfl (cX (cV 0)) (eZ ?_)))))
   exact kH B39 trivial [0,1] ⟨⟨_,rfl,fun _ _ _ h=>h⟩,⟨_,rfl,(cB (by rw [lI]; rfl))⟩,trivial⟩ (by decide) (a1V rfl (eY rfl) (eY rfl))
theorem On {a b:List (List Qi)} {n k m L M:Nat} (ha:cM a n k) (hb:cM b k m) (hfa:bC a L) (hfb:bC b M) (hL1:1 ≤ L) (hM1:1 ≤ M) (hL:L ≤ 900000000000) (hM:M ≤ 900000000000) (hn1:1 ≤ n) (hk1:1 ≤ k) (hn:n ≤ 8) (hk:k ≤ 8) (hm:m ≤ 8):gO Tryz.prog 195 [bB a,bB b] [] Nat (fun B=>fI [Is (.slice (some ⟨B,0,none⟩) n n),aO .i64 0]) (fun B=>[nR B 29 51 5 (cE aH (jY a b n k m))]) (fun _=>True):=Hx ha hb hfa hfb hL1 hM1 hL hM (.inl hn1) (.inl hk1) hn hk hm
theorem a0j {a b:List (List Qi)} {n k m L M:Nat} (ha:cM a n k) (hb:cM b k m) (hfa:bC a L) (hfb:bC b M) (hL1:1 ≤ L) (hM1:1 ≤ M) (hL:L ≤ 900000000000) (hM:M ≤ 900000000000) (hn1:1 ≤ n ∨ k = 0) (hk1:1 ≤ k ∨ m = 0) (hn:n ≤ 8) (hk:k ≤ 8) (hm:m ≤ 8):bH Tryz.prog 195 [bB a,bB b] (fI [bB (jY a b n k m),aO .i64 0]):=(Hx ha hb hfa hfb hL1 hM1 hL hM hn1 hk1 hn hk hm).fun fun B _ v S V h1 h2=>a4z h1 fun u hu=>iB (s:=5) (M:=jY a b n k m) (aN _ _).symm u S V hu h2
theorem a37 {a b:List (List Qi)} {n k m L M:Nat} (ha:cM a n k) (hb:cM b k m) (hfa:bC a L) (hfb:bC b M) (hL1:1 ≤ L) (hM1:1 ≤ M) (hL:L ≤ 900000000000) (hM:M ≤ 900000000000) (hn1:1 ≤ n) (hk1:1 ≤ k) (hn:n ≤ 8) (hk:k ≤ 8) (hm:m ≤ 8):bH Tryz.prog 195 [bB a,bB b] (fI [bB (jY a b n k m),aO .i64 0]):=(On ha hb hfa hfb hL1 hM1 hL hM hn1 hk1 hn hk hm).fun fun B _ v S V h1 h2=>a4z h1 fun u hu=>iB (s:=5) (M:=jY a b n k m) (aN _ _).symm u S V hu h2
theorem a33 {a:List (List Qi)} {n m:Nat} (ha:cM a n m) (hn1:1 ≤ n) (hn:n ≤ 8) (hm:m ≤ 8):gO Tryz.prog 196 [bB a] [] (Nat) (fun B=>fI [Is (.slice (some ⟨B,0,none⟩) m m),aO .i64 0]) (fun B=>[nR B 29 51 5 (cE aH (Fh a n m))]) (fun _=>True):=by
 have hal:=ha.1
 refine gO.intro Tryz.func196 rfl Tryz.ntmps196 rfl (fun cx Z=>(ts (ro rfl (cX cW) (ro rfl (cX (cV 0)) (eZ (ts (rm rfl (ro rfl (cJ Tryz.call240 (xK ha hn1 zo zo) ⟨(Ht rfl),trivial⟩) (rm rfl (ro rfl (dU (Ht rfl) rfl) (ro rfl (dU (Ht rfl) rfl) (ra rfl (ra rfl (eZ (cU (ts (rm rfl (ro rfl (eN (Ht rfl)) (eZ (dX (Ht rfl) (fun h0=>?_) (fun h0=>?_)))))))))))))))))))))
 ·exact absurd h0 (by simp)
 ·refine cY (ts (rm rfl (rn rfl (eM (T := Is (.slice none 0 0)) (i := Tryz.t29) V_30 lH rfl rfl (Ht rfl) rfl (fun _ => rfl) trivial (by show 24 * _ ≤ _; omega) zo) fun B17 => (ra rfl (eZ (cU (ts (rm rfl (ro rfl (gA U_30 (Ht rfl)) (ro rfl (cZ (cV 0)) (eZ (eK (nZ 1 rfl (uI (e := 51) (s := 5)) ?_)))))))))))))
  refine cF (fun (k : Nat) => k ≤ m) (fun (k : Nat) => m - k) (fun (k : Nat) => [(0, bB a), (6, Is (.slice (some ⟨B17, 0, none⟩) m m)), (19, NT .i64 m), (20, NT .i64 k)]) (fun (k : Nat) => [Z, nR B17 29 51 5 (cE aH (mA (fun k => tab n fun i => (gm a i k).conj) [] m k))]) 0 (Nat.zero_le _)
   (zS rfl) (aU (fun _ _ _ h=>h) (aU (cB (by rw [← jS,kS]; exact mL aH m)) aY)) (fun k hk=>?_)
  refine ts (ro rfl (gZ (Ht rfl) (Ht rfl)) (eZ (cU (dX (Ht rfl) (fun hd=>?_) (fun hd=>?_)))))
  ·simp only [decide_eq_true_eq] at hd
   refine nG 1 (k) rfl (mE hd) (fun v=>(cY (cU (eK (ts (rm rfl (ra rfl (eZ (ts (rm rfl (ro rfl (dK U_30 (Ht rfl) aA) (ro rfl (cZ (cV 0)) (eZ (eK ?_))))))))))))))
   refine fS (fun (i : Nat) (v : Value) => i ≤ n) (fun (i : Nat) (v : Value) => n - i) (fun (i : Nat) (v : Value) => [(0, bB a), (6, Is (.slice (some ⟨B17, 0, none⟩) m m)), (7, NT .i64 k), (19, NT .i64 m), (20, NT .i64 k), (24, NT .i64 n), (25, NT .i64 i)]) (fun (i : Nat) (v : Value) => [Z, Di B17 29 51 5 (cE aH (mA (fun k => tab n fun i => (gm a i k).conj) [] m k)) k v, cC 51 5 v ((tab i fun i => (gm a i k).conj).map aH)]) 0 v (Nat.zero_le _)
    (aQ rfl (aQ rfl (aQ rfl (aQ rfl (aQ rfl (aZ rfl (kU hal) (zS rfl))))))) (dM.refl _) (fun i v hi=>?_)
   refine ts (ro rfl (gZ (Ht rfl) (Ht rfl)) (eZ (cU (dX (Ht rfl) (fun he=>?_) (fun he=>?_)))))
   ·simp only [decide_eq_true_eq] at he
    have har:=ha.row he
    refine cY (cU (eK (ts (rm rfl (ra rfl (eZ (Y.D_startA (m:=17) [] 16 2 rfl rfl (cQ (Ei:=[(6,_)]) rfl rfl (bQ (bJ rfl rfl) bX) rfl rfl (dZ rfl (cZ (Ht rfl))) (cQ (Ei:=[(7,_)]) rfl rfl (bQ (bJ rfl rfl) bX) rfl rfl (dZ rfl (cZ (Ht rfl))) (cQ (Ei:=[(6,_)]) rfl rfl (bQ (bJ rfl rfl) bX) rfl rfl (dZ rfl (cZ (Ht rfl))) (cQ (Ei:=[(7,_)]) rfl rfl (bQ (bJ rfl rfl) bX) rfl rfl (dZ rfl (cZ (Ht rfl))) (cQ (Ei:=[(30,_),(31,_)]) rfl rfl (bQ (bZ 2 rfl rfl) (bQ (bZ 3 rfl rfl) bX)) rfl rfl (dZ rfl (gQ U_30 Z_29 (Ht rfl) (Ht rfl) rfl zo (by rw [Nat.mul_one,Nat.zero_add]))) ?_))))))))))))
    refine cQ (Ei:=[(32,_)]) rfl rfl (bQ (bZ 4 rfl rfl) bX) rfl rfl (dZ rfl (jZ A_29 Z_29 (Ht rfl) (j:=1) rfl)) (cQ (Ei:=[(0,_)]) rfl rfl (bQ (bJ rfl rfl) bX) rfl rfl (dZ rfl (cZ (Ht rfl))) (cQ (Ei:=[(8,_)]) rfl rfl (bQ (bJ rfl rfl) bX) rfl rfl (dZ rfl (cZ (Ht rfl))) (cQ (Ei:=[(34,_),(35,_)]) rfl rfl (bQ (bZ 6 rfl rfl) (bQ (bZ 7 rfl rfl) bX)) rfl rfl (dZ rfl (dJ U_30 Z_29 (Ht rfl) (Ht rfl) rfl (eQ (dY (d:=[]) zo)))) ?_)))
    refine cQ (Ei:=[(36,_)]) rfl rfl (bQ (bZ 8 rfl rfl) bX) rfl rfl (dZ rfl (dV A_29 Z_29 (Ht rfl))) (cQ (Ei:=[(7,_)]) rfl rfl (bQ (bJ rfl rfl) bX) rfl rfl (dZ rfl (cZ (Ht rfl))) (cQ (Ei:=[(37,_),(38,_)]) rfl rfl (bQ (bZ 9 rfl rfl) (bQ (bZ 10 rfl rfl) bX)) rfl rfl (dZ rfl (dJ U_29 Z_51 (Ht rfl) (Ht rfl) rfl (eQ (dY (d:=Qi.zero) (by rw [har]; omega))))) ?_))
    refine cQ (Ei:=[(39,_)]) rfl rfl (bQ (bZ 11 rfl rfl) bX) rfl rfl (dZ rfl (dV A_51 Z_51 (Ht rfl))) (cQ (Ei:=[(40,_)]) rfl rfl (bQ (bZ 12 rfl rfl) bX) rfl rfl (dZ rfl (aT bL (Ht rfl))) (cQ (Ei:=[(41,_)]) rfl rfl (bQ (bZ 13 rfl rfl) bX) rfl rfl (dZ rfl (aL mG K_175 xJ (Ht rfl) trivial)) (cQ (Ei:=[(42,_)]) rfl rfl (bQ (bZ 14 rfl rfl) bX) rfl rfl (dZ rfl (cR (xs:=[.tmp 42]) U_29 Z_51 O_51 (cG (Ht rfl) cK) rfl rfl rfl)) ?_)))
    refine Y.D_app (Ei:=[(33,_),(43,_)]) rfl rfl rfl rfl (bQ (bZ 5 rfl rfl) (bQ (bZ 15 rfl rfl) bX)) rfl (qF (inf:=Tryz.t51) lR jO rfl rfl rfl (Ht rfl) (Ht rfl) (by simp) (fun T hT=>by simp at hT; subst hT; exact El.ag rfl) (by show _ * 88 ≤ _; simp only [List.length_map,aN,List.length_cons,List.length_nil]; omega) (by simp only [List.length_map,aN,List.length_cons,List.length_nil]; omega)) ?_
    refine Y.D_done bE rfl (by kernel_rfl) rfl (by simp [Y.okP]) rfl rfl (bU (bU (bU (bU (bU (bU (bU (bU (bU (bU (bU (bU (bU (bU (bU (bU (Y.F_app (fun v2=>Y.F_nil ?_))))))))))))))))))
    refine ro rfl (gQ U_30 Z_29 (Ht rfl) (Ht rfl) rfl zo (by rw [Nat.mul_one,Nat.zero_add])) ?_
    refine uV Z_29 (Ht rfl) (Ht rfl) (by simp only [cE,List.length_map,eS]; omega) (j:=1) (l:=3) rfl rfl rfl ?_
    refine eZ (bO (dQ (ro rfl (dW (Ht rfl) (cV 1) z6) (rm rfl (eZ (cD [0,1,3] rfl (by decide) (fY (i + 1,v2) he (by dsimp only; omega) (zS rfl) (aU (fun _ _ _ h=>h) (aU (fun _ _ _ h=>h) (aU (bR ((qK aH _ (gm a i k).conj).trans (congrArg _ (tS i (fun i=>(gm a i k).conj)).symm))) aY))))))))))
   ·simp only [decide_eq_false_iff_not] at he
    obtain rfl:n = i:=Nat.le_antisymm zo hi
    refine gW rfl (bO (fP 1 2 rfl rfl (by decide) (by simp only [cE,List.length_map,eS]; omega) ?_))
    refine dQ (ro rfl (dW (Ht rfl) (cV 1) z6) (rm rfl (eZ (cD [0,1] rfl (by decide) (fY (k + 1) hd zo (zS rfl) (aU (fun _ _ _ h=>h) (aU (cB (by rw [gH,← lJ (f:=(fun k=>tab n fun i=>(gm a i k).conj))])) aY)))))))
  ·simp only [decide_eq_false_iff_not] at hd
   obtain rfl:m = k:=Nat.le_antisymm zo hk
   refine gW rfl (ts (rm rfl (ra rfl (ro rfl (cX (cV 0)) (eZ ?_)))))
   exact kH B17 trivial [0,1] ⟨⟨_,rfl,fun _ _ _ h=>h⟩,⟨_,rfl,(cB (by rw [lI]; rfl))⟩,trivial⟩ (by decide) (a1V rfl (eY rfl) (eY rfl))
theorem a4W {a:List (List Qi)} {n m:Nat} (ha:cM a n m) (hn1:1 ≤ n) (hn:n ≤ 8) (hm:m ≤ 8):bH Tryz.prog 196 [bB a] (fI [bB (Fh a n m),aO .i64 0]):=(a33 ha hn1 hn hm).fun fun B _ v S V h1 h2=>a4z h1 fun u hu=>iB (s:=5) (M:=Fh a n m) (aN _ _).symm u S V hu h2
theorem Ow {z:List Qi} {s:List (List Qi)} (hsh:cM s z.length z.length) (hl:z.length ≤ 8):gO Tryz.prog 93 [gT z s] [] (Nat) (fun B=>Is (.slice (some ⟨B,0,none⟩) z.length z.length)) (fun B=>[nR B 29 51 5 (cE aH (tab z.length fun i=>tab z.length fun k=>gm s i k))]) (fun _=>True):=by
 refine gO.intro Tryz.func93 rfl Tryz.ntmps93 rfl (fun cx Z=>(ts (rn rfl (fK (Ht rfl)) fun B1=>(ro rfl (cX cW) (eZ (ts (ro rfl (eW A_32 Z_32 (Ht rfl) (i:=1) rfl rfl rfl) (ro rfl (cJ K_22 oK ⟨(Ht rfl),trivial⟩) (rn rfl (eM (T:=Is (.slice none 0 0)) (i:=Tryz.t29) V_30 lH rfl rfl (Ht rfl) rfl (fun _=>rfl) trivial (by show 24 * _ ≤ _; omega) zo) fun B10=>(ra rfl (eZ (cU (ts (rm rfl (ro rfl (gA U_30 (Ht rfl)) (ro rfl (cZ (cV 0)) (eZ (eK ?_))))))))))))))))))
 refine nZ 2 rfl (uI (e:=51) (s:=5)) ?_
 refine cF (fun (i : Nat) => i ≤ z.length) (fun (i : Nat) => z.length - i) (fun (i : Nat) => [(1, bT B1 0), (3, Is (.slice (some ⟨B10, 0, none⟩) z.length z.length)), (12, NT .i64 z.length), (13, NT .i64 i)]) (fun (i : Nat) => [Z, box B1 32 [aR z, bB s], nR B10 29 51 5 (cE aH (mA (fun i => tab z.length fun k => gm s i k) [] z.length i))]) 0 (Nat.zero_le _)
  (zS rfl) (aU (fun _ _ _ h=>h) (aU (fun _ _ _ h=>h) (aU (cB (by rw [← jS,kS]; exact mL aH z.length)) aY))) (fun i hi=>?_)
 refine ts (ro rfl (gZ (Ht rfl) (Ht rfl)) (eZ (cU (dX (Ht rfl) (fun hd=>?_) (fun hd=>?_)))))
 ·simp only [decide_eq_true_eq] at hd
  refine nG 2 (i) rfl (mE hd) (fun v=>(cY (cU (eK (ts (rm rfl (ra rfl (eZ (ts (rm rfl (ro rfl (gA U_30 (Ht rfl)) (ro rfl (cZ (cV 0)) (eZ (eK ?_))))))))))))))
  refine fS (fun (k : Nat) (v : Value) => k ≤ z.length) (fun (k : Nat) (v : Value) => z.length - k) (fun (k : Nat) (v : Value) => [(1, bT B1 0), (3, Is (.slice (some ⟨B10, 0, none⟩) z.length z.length)), (4, NT .i64 i), (12, NT .i64 z.length), (13, NT .i64 i), (17, NT .i64 z.length), (18, NT .i64 k)]) (fun (k : Nat) (v : Value) => [Z, box B1 32 [aR z, bB s], Di B10 29 51 5 (cE aH (mA (fun i => tab z.length fun k => gm s i k) [] z.length i)) i v, cC 51 5 v ((tab k fun k => gm s i k).map aH)]) 0 v (Nat.zero_le _)
   (zS rfl) (dM.refl _) (fun k v hk=>?_)
  refine ts (ro rfl (gZ (Ht rfl) (Ht rfl)) (eZ (cU (dX (Ht rfl) (fun he=>?_) (fun he=>?_)))))
  ·simp only [decide_eq_true_eq] at he
   refine cY (cU (eK (ts (rm rfl (ra rfl (eZ (ts (ro rfl (eW A_32 Z_32 (Ht rfl) (i:=1) rfl rfl rfl) (rm rfl (ro rfl (dW (Ht rfl) (cV 1) z6) (rm rfl (ro rfl (dW (Ht rfl) (cV 1) z6) (ro rfl (cJ Tryz.call25 (a5z (i:=(i:Int) + 1) (j:=(k:Int) + 1) hsh zo) ⟨(Ht rfl),(Ht rfl),(Ht rfl),trivial⟩) (rm rfl (ro rfl (dU (Ht rfl) rfl) (ro rfl (dU (Ht rfl) rfl) ?_))))))))))))))))
   refine rn rfl (eG (Ts:=[Is (.bool false),Is (.slice none 0 0),Is (.bool false),Is (.slice none 0 0),Is (.slice none 0 0)]) O_51 rfl (fun V=>aW zd (aW zd (aW zd (aW zd (aW zd (aG))))))) fun B6=>gX Z_51 (Ht rfl) (Ht rfl) rfl (i:=4) rfl (aK rfl) rfl rfl (ra rfl (eZ (Y.D_startA (m:=9) [] 8 3 rfl rfl (cQ (Ei:=[(3,_)]) rfl rfl (bQ (bJ rfl rfl) bX) rfl rfl (dZ rfl (cZ (Ht rfl))) ?_))))
   refine cQ (Ei:=[(4,_)]) rfl rfl (bQ (bJ rfl rfl) bX) rfl rfl (dZ rfl (cZ (Ht rfl))) (cQ (Ei:=[(3,_)]) rfl rfl (bQ (bJ rfl rfl) bX) rfl rfl (dZ rfl (cZ (Ht rfl))) (cQ (Ei:=[(4,_)]) rfl rfl (bQ (bJ rfl rfl) bX) rfl rfl (dZ rfl (cZ (Ht rfl))) (cQ (Ei:=[(32,_),(33,_)]) rfl rfl (bQ (bZ 2 rfl rfl) (bQ (bZ 3 rfl rfl) bX)) rfl rfl (dZ rfl (gQ U_30 Z_29 (Ht rfl) (Ht rfl) rfl zo (by rw [Nat.mul_one,Nat.zero_add]))) ?_)))
   refine cQ (Ei:=[(34,_)]) rfl rfl (bQ (bZ 4 rfl rfl) bX) rfl rfl (dZ rfl (jZ A_29 Z_29 (Ht rfl) (j:=2) rfl)) (cQ (Ei:=[(6,_)]) rfl rfl (bQ (bJ rfl rfl) bX) rfl rfl (dZ rfl (eW A_51 Z_51 (Ht rfl) (i:=4) rfl rfl rfl)) (cQ (Ei:=[(36,_)]) rfl rfl (bQ (bZ 6 rfl rfl) bX) rfl rfl (dZ rfl (cR (xs:=[.tmp 36]) U_29 Z_51 O_51 (cG (Ht rfl) cK) rfl rfl rfl)) (Y.D_app (Ei:=[(35,_),(37,_)]) rfl rfl rfl rfl (bQ (bZ 5 rfl rfl) (bQ (bZ 7 rfl rfl) bX)) rfl (qF (inf:=Tryz.t51) lR jO rfl rfl rfl (Ht rfl) (Ht rfl) (by simp) (fun T hT=>by simp at hT; subst hT; exact El.ag rfl) (by show _ * 88 ≤ _; simp only [List.length_map,aN,List.length_cons,List.length_nil]; omega) (by simp only [List.length_map,aN,List.length_cons,List.length_nil]; omega)) ?_)))
   refine Y.D_done bE rfl (by kernel_rfl) rfl (by simp [Y.okP]) rfl rfl (bU (bU (bU (bU (bU (bU (bU (bU (Y.F_app (fun v2=>Y.F_nil ?_))))))))))
   refine ro rfl (gQ U_30 Z_29 (Ht rfl) (Ht rfl) rfl zo (by rw [Nat.mul_one,Nat.zero_add])) ?_
   refine uV Z_29 (Ht rfl) (Ht rfl) (by simp only [cE,List.length_map,eS]; omega) (j:=2) (l:=5) rfl rfl rfl ?_
   refine eZ (bO (dQ (ro rfl (dW (Ht rfl) (cV 1) z6) (rm rfl (eZ (cD [0,1,2,5] rfl (by decide) (fY (k + 1,v2) he (by dsimp only; omega) (zS rfl) (aU (fun _ _ _ h=>h) (aU (fun _ _ _ h=>h) (aU (fun _ _ _ h=>h) (aU (bR (by rw [tS,List.map_append,a47 hd he]; rfl)) aY)))))))))))
  ·simp only [decide_eq_false_iff_not] at he
   obtain rfl:k = z.length:=Nat.le_antisymm hk zo
   refine gW rfl (bO (fP 2 3 rfl rfl (by decide) (by simp only [cE,List.length_map,eS]; omega) ?_))
   refine dQ (ro rfl (dW (Ht rfl) (cV 1) z6) (rm rfl (eZ (cD [0,1,2] rfl (by decide) (fY (i + 1) hd zo (zS rfl) (aU (fun _ _ _ h=>h) (aU (fun _ _ _ h=>h) (aU (cB (by rw [gH,← lJ (f:=(fun i=>tab z.length fun k=>gm s i k))])) aY))))))))
 ·simp only [decide_eq_false_iff_not] at hd
  obtain rfl:i = z.length:=Nat.le_antisymm hi zo
  refine gW rfl (ts (rm rfl (ra rfl (eZ ?_))))
  exact kH B10 trivial [0,2] ⟨⟨_,rfl,fun _ _ _ h=>h⟩,⟨_,rfl,(cB (by rw [lI]))⟩,trivial⟩ (by decide) (yB rfl (eY rfl))
theorem Ft {z : List Qi} {s : List (List Qi)} (hsh : cM s z.length z.length) (hl : z.length ≤ 8) : bH Tryz.prog 93 [gT z s] (bB s) := (Ow hsh hl).fun fun B _ v S V h1 h2 => by
 have h3:=iB (s:=5) (M:=tab z.length fun i=>tab z.length fun k=>gm s i k) (aN _ _).symm v S V h1 h2
 rw [← pV hsh] at h3; exact h3
theorem Mi {z:List Qi} {s:List (List Qi)} (hl:z.length ≤ 8):bH Tryz.prog 142 [gT z s] (aR z):=by
 refine bH.intro Tryz.func142 rfl Tryz.ntmps142 rfl (fun cx=>(ts (rn rfl (fK (Ht rfl)) fun B1=>(ro rfl (cX cW) (eZ (ts (ro rfl (eW A_32 Z_32 (Ht rfl) (i:=0) rfl rfl rfl) (ro rfl (cJ K_22 oK ⟨(Ht rfl),trivial⟩) (rn rfl (lV (T:=aH Qi.zero) (i:=Tryz.t51) lR jO rfl rfl (Ht rfl) rfl jQ (El.ag rfl) (by show 88 * _ ≤ _; omega) zo) fun B7=>(ra rfl (eZ (cU (ts (rm rfl (ro rfl (rO U_29 (Ht rfl) (i:=1) rfl (show ((List.replicate z.length (aH Qi.zero)).length:Int) = ((z.length:Nat):Int) by simp)) ?_)))))))))))))))
 refine ro rfl (cZ (cV 0)) (eZ (eK ?_))
 refine fS (fun (k : Nat) (out : List Qi) => nM (fun i => gv z i) z.length out k) (fun (k : Nat) (out : List Qi) => z.length - k) (fun (k : Nat) (out : List Qi) => [(1, bT B1 0), (3, Is B7), (9, NT .i64 z.length), (10, NT .i64 k)]) (fun (k : Nat) (out : List Qi) => [box B1 32 [aR z, bB s], cC 51 5 B7 (out.map aH)]) 0 (List.replicate z.length Qi.zero) (nM.start _ _ _)
  (zS rfl) (aU (fun _ _ _ h=>h) (aU (bR (tM aH _ _)) aY)) (fun k out hS=>?_)
 refine ts (ro rfl (gZ (Ht rfl) (Ht rfl)) (eZ (cU (dX (Ht rfl) (fun hk=>?_) (fun hk=>?_)))))
 ·simp only [decide_eq_true_eq] at hk
  have hlen:=hS.len
  refine cY (cU (eK (ts (rm rfl (ra rfl (eZ (dQ (rm rfl (rm rfl (ro rfl (eW A_32 Z_32 (Ht rfl) (i:=0) rfl rfl rfl) (rm rfl (ro rfl (dW (Ht rfl) (cV 1) z6) (ro rfl (cJ Tryz.call23 (Vh (i:=(k:Int) + 1) zo) ⟨(Ht rfl),(Ht rfl),trivial⟩) (rm rfl (ro rfl (dU (Ht rfl) rfl) (ro rfl (dU (Ht rfl) rfl) (ro rfl (dP U_29 Z_51 (Ht rfl) (Ht rfl) rfl (i:=1) rfl (by first | omega | (simp; omega)) rfl) ?_)))))))))))))))))
  refine nO Z_51 (Ht rfl) (Ht rfl) (El.ag rfl) (i:=1) rfl rfl (by first | omega | (simp; omega)) rfl (eZ (bO (dQ (ro rfl (dW (Ht rfl) (cV 1) z6) (rm rfl (eZ (fY (k + 1,_) (hS.next hk (Nc hk)) (by dsimp only; omega) (zS rfl) (aU (fun _ _ _ h=>h) (aU (bR (fO aH _ _ _)) aY)))))))))
 ·simp only [decide_eq_false_iff_not] at hk
  obtain rfl:k = z.length:=Nat.le_antisymm hS.kle zo
  have hfin:=hS.fin.trans (Bq (l:=z) rfl).symm
  refine gW rfl (gV (i:=1) (tt:=3) rfl rfl iW (ts (rm rfl (ra rfl (eZ (fG rfl (fZ (eY rfl) ?_)))))))
  exact (kY (by rw [hfin]))
end
section
open Go Go.RowKit
theorem lU (v : Value) (w : World) : (method (Tryz.prog.types.size + Made.depth) 51 v "Div").run Tryz.prog w = .ok (40, v) w := by kernel_rfl
theorem iX (v : Value) (w : World) : (method (Tryz.prog.types.size + Made.depth) 51 v "Sub").run Tryz.prog w = .ok (44, v) w := by kernel_rfl
end
section
open Go Go.RowKit
theorem a3c {c:List (List Qi)}:bH Tryz.prog 99 [bB [],bB c] (bB []):=by
 refine bH.intro Tryz.func99 rfl Tryz.ntmps99 rfl (fun cx=>(ts (ro rfl (cX cW) (eZ (cU (ts (rm rfl (ro rfl (dK U_30 (Ht rfl) aA) (ro rfl (dO (Ht rfl) (cV 0)) (eZ (Ff (Ht rfl) (by rfl) ?_)))))))))))
 refine ts (ro rfl (cX cW) (eZ (fG rfl (fZ (eY rfl) ?_))))
 exact (fun v V h=>iM v V h)
theorem Mb {p c:List (List Qi)} {n m L:Nat} (hp:cM p n m) (hc:cM c m m) (hfp:bC p L) (hfc:bC c L) (hL1:1 ≤ L) (hL:L ≤ 1000000000) (hn1:1 ≤ n) (hm1:1 ≤ m) (hn:n ≤ 8) (hm:m ≤ 8):gO Tryz.prog 99 [bB p,bB c] [] (Nat) (fun B=>Is (.slice (some ⟨B,0,none⟩) n n)) (fun B=>[nR B 29 51 5 (cE aH (jD p c))]) (fun _=>True):=by
 have hpl:=hp.1
 have hf1:=Jr (n:=n) (m:=m) hfp hfc hL1 hL1 hm
 have hf2:=Uo (n:=n) (m:=m) hfp hL1
 have hs1:cM (jY p c n m m) n m:=kM
 have hs2:cM (Fh p n m) m n:=Up
 refine gO.intro Tryz.func99 rfl Tryz.ntmps99 rfl (fun cx Z=>(ts (ro rfl (cX cW) (eZ (cU (ts (rm rfl (ro rfl (dK U_30 (Ht rfl) aA) (ro rfl (dO (Ht rfl) (cV 0)) (eZ (dX (Ht rfl) (fun h0=>?_) (fun h0=>?_))))))))))))
 ·simp only [decide_eq_true_eq] at h0
  omega
 ·refine cY (ts (rm rfl (rm rfl (ro rfl (cJ Tryz.call195 (a37 hp hc hfp hfc hL1 hL1 zo zo hn1 hm1 hn hm hm) ⟨(Ht rfl), (Ht rfl), trivial⟩) (rm rfl (ro rfl (dU (Ht rfl) rfl) (ro rfl (dU (Ht rfl) rfl) (ra rfl (ra rfl (eZ (ts (rm rfl (ro rfl (cJ Tryz.call196 (a4W hp hn1 hn hm) ⟨(Ht rfl), trivial⟩) (rm rfl (ro rfl (dU (Ht rfl) rfl) (ro rfl (dU (Ht rfl) rfl) (ra rfl (ra rfl (eZ (ts (rm rfl (rm rfl (kC Tryz.call195 (On (a := jY p c n m m) (b := Fh p n m) hs1 hs2 hf1 hf2 zo hL1 zo zo hn1 hm1 hn hm hn) ⟨(Ht rfl), (Ht rfl), trivial⟩ rfl (fun B28 _ => ?_))))))))))))))))))))))))
  refine rm rfl (ro rfl (dU (Ht rfl) rfl) (ro rfl (dU (Ht rfl) rfl) (ra rfl (ra rfl (eZ (ts (rm rfl (ra rfl (eZ ?_)))))))))
  exact kH B28 trivial [0,1] ⟨⟨_,rfl,fun _ _ _ h=>h⟩,⟨_,rfl,(cB (by rw [a3m hp hc]))⟩,trivial⟩ (by decide) (yB rfl (eY rfl))
theorem a2m {p c:List (List Qi)} {n m L:Nat} (hp:cM p n m) (hc:cM c m m) (hfp:bC p L) (hfc:bC c L) (hL1:1 ≤ L) (hL:L ≤ 1000000000) (hn1:1 ≤ n) (hm1:1 ≤ m) (hn:n ≤ 8) (hm:m ≤ 8):bH Tryz.prog 99 [bB p,bB c] (bB (jD p c)):=(Mb hp hc hfp hfc hL1 hL hn1 hm1 hn hm).fun fun B _ v S V h1 h2=>iB (s:=5) (M:=jD p c) (by rw [oY.1,hp.1]) v S V h1 h2
theorem a3b {p c:List (List Qi)} {n m L:Nat} (hp:cM p n m) (hc:cM c m m) (hfp:bC p L) (hfc:bC c L) (hL1:1 ≤ L) (hL:L ≤ 1000000000) (hn1:n = m) (hn:n ≤ 8) (hm:m ≤ 8):bH Tryz.prog 99 [bB p,bB c] (bB (jD p c)):=by
 by_cases e:n = 0
 ·subst e
  obtain rfl:=List.length_eq_zero_iff.1 hp.1
  exact a3c
 ·exact a2m hp hc hfp hfc hL1 hL zo zo hn hm
theorem Vf {z:List Qi} {s c:List (List Qi)} {g t0:Qi} {L:Nat} (hz:bP z L) (hs:bC s L) (hc:bC c L) (hg:aE g L) (ht:aE t0 L) (hL1:1 ≤ L) (hL:L ≤ 4000) (hsh:cM s z.length z.length) (hch:cM c z.length z.length) (hl:z.length ≤ 8):bH Tryz.prog 88 [fD z s c,aH g,aH t0] (fI [aH (wF z s c g t0).1,aO .i64 (wF z s c g t0).2]):=by
 haveI:=hg; haveI:=ht
 haveI hz0:aE Qi.zero 1:=aE.zero (Nat.le_refl 1)
 have d1:(dg (((1:Nat):Int)).natAbs).length = 1:=by decide
 have d2:(dg (Int.natAbs 1)).length = 1:=by decide
 have hcl:=hch.1
 refine bH.intro Tryz.func88 rfl Tryz.ntmps88 rfl (fun cx=>(ts (rn rfl (fK (Ht rfl)) fun B3=>(rn rfl (fK (Ht rfl)) fun B4=>(rn rfl (fK (Ht rfl)) fun B5=>(rn rfl (eG (Ts:=[Is (.bool false),Is (.slice none 0 0),Is (.bool false),Is (.slice none 0 0),Is (.slice none 0 0)]) O_51 rfl (fun V=>aW zd (aW zd (aW zd (aW zd (aW zd (aG))))))) fun B6=>(ro rfl (cX (cV 0)) (eZ (ts (rn rfl (eG (Ts:=[Is (.bool false),Is (.slice none 0 0),Is (.bool false),Is (.slice none 0 0),Is (.slice none 0 0)]) O_51 rfl (fun V=>aW zd (aW zd (aW zd (aW zd (aW zd (aG))))))) fun B8=>?_))))))))))
 refine eZ (cU (cU (fJ (m:=6) (dp 5 rfl (eW A_51 Z_51 (Ht rfl) (i:=2) rfl rfl rfl) (dq 18 0 rfl (cJ Tryz.call169 Fn ⟨(Ht rfl),trivial⟩) (dq 19 1 rfl (eN (Ht rfl)) (dq 20 2 rfl (cZ (Ht rfl)) (C.D_step (Ei:=[(5,_),(21,_)]) rfl rfl (bV (bK rfl rfl) (bV (bG 3 rfl rfl) bW)) (eU rfl rfl (Ht rfl) (fun h=>eW A_51 Z_51 (Ht rfl) (i:=2) rfl rfl rfl)) (C.D_step (Ei:=[(21,_)]) rfl rfl (bV (bG 3 rfl rfl) bW) (eU rfl rfl (Ht rfl) (fun h=>cJ K_77 (oI (n:=0) (by decide) (by decide)) ⟨(cV 0),trivial⟩)) ?_)))))))))
 refine fW bE rfl (by kernel_rfl) (zF (aJ (aJ (aV (fX rfl rfl (eU rfl rfl (Ht rfl) (fun h=>cJ Tryz.call76 (Ve (x:=t0) (y:=Qi.zero) (M:=1) zo) ⟨(fV rfl h),(fV rfl h),trivial⟩)) (fX rfl rfl (eU rfl rfl (Ht rfl) (fun h=>Nb (fV rfl h) cW)) (ro rfl (jI (Ht rfl) (fun h=>(fV rfl h))) (eZ (dX (Ht rfl) (fun hb=>?_) (fun hb=>?_))))))))))
 ·rw [Qd] at hb
  simp only [Bool.not_eq_true'] at hb
  have he:wF z s c g t0 = (Qi.zero,1):=by rw [wF,if_pos hb]
  refine ts (ro rfl (eW A_51 Z_51 (Ht rfl) (i:=4) rfl rfl rfl) (gX Z_51 (Ht rfl) (Ht rfl) rfl (i:=3) rfl (aK rfl) rfl rfl (ro rfl (cX (cV 1)) (eZ (bN rfl (fZ (fU A_51 Z_51 rfl (i:=3) rfl rfl) ?_) (fZ (eY rfl) ?_))))))
  ·exact (fun v V k=>by rw [he]; exact mJ v V k)
  ·exact (fun v V k=>by rw [he]; exact k)
 ·rw [Qd] at hb
  simp only [Bool.not_eq_false'] at hb
  have hb2:¬ fB t0 = false:=by rw [hb]; decide
  refine cY (cU (ts (ro rfl (eJ lG (Ht rfl) rfl) (ro rfl (fQ A_30 Z_30 (Ht rfl) (i:=0) rfl rfl) (ro rfl (dK U_30 (Ht rfl) aA) (ro rfl (gB (Ht rfl) (cV 2)) (eZ (dX (Ht rfl) (fun hd=>?_) (fun hd=>?_)))))))))
  ·have hd2 : z.length ≠ 2 := by rw [← hcl]; simpa using hd
   have he:wF z s c g t0 = (Qi.zero,4):=by rw [wF,if_neg hb2,if_pos hd2]
   refine ts (ro rfl (eW A_51 Z_51 (Ht rfl) (i:=4) rfl rfl rfl) (gX Z_51 (Ht rfl) (Ht rfl) rfl (i:=3) rfl (aK rfl) rfl rfl (ro rfl (cX (cV 4)) (eZ (bN rfl (fZ (fU A_51 Z_51 rfl (i:=3) rfl rfl) ?_) (fZ (eY rfl) ?_))))))
   ·exact (fun v V k=>by rw [he]; exact mJ v V k)
   ·exact (fun v V k=>by rw [he]; exact k)
  ·have hd2 : z.length = 2 := by rw [← hcl]; simpa using hd
   have hd3:¬ z.length ≠ 2:=fun h=>h hd2
   have hsh2:=hsh
   rw [hd2] at hsh hch
   have hs1:=hsh.1
   have hc1:=hch.1
   have hr0:=hsh.row (i:=0) (by decide)
   have hr1:=hsh.row (i:=1) (by decide)
   have hWf:=Iy hs hg hL1
   have hW:cM (Wp s g) 1 2:=⟨rfl,fun r hr=>by have:=List.mem_singleton.1 hr; subst this; rfl⟩
   have hXs:cM (jD (Wp s g) c) 1 1:=oY
   have hX0:=hXs.row (i:=0) (by decide)
   have hp1:=pk1 (z:=z) zo
   haveI f1:aE (gm s 1 0) L:=hs.get hL1 1 0
   haveI f2:aE (gm s 0 0) L:=hs.get hL1 0 0
   haveI f3:aE (Yu z ((1:Nat):Int)) L:=by rw [hp1]; exact hz.get hL1 0
   haveI f4:=Wr hs hc hg hL1 zo
   have hpd:gm s 1 0 * (gm s 1 0).conj * (t0 * Yu z ((1:Nat):Int)) * (Gp - g * g.conj) = Ix z s g t0:=by rw [hp1,Qi.mul_conj_norm,Qi.mul_conj_norm,Ix,Qi.mul_assoc']
   refine cY (ts (ro rfl (eJ mD (Ht rfl) rfl) (ro rfl (eW A_32 Z_32 (Ht rfl) (i:=0) rfl rfl rfl) (ro rfl (cJ Tryz.call93 (Ft hsh2 zo) ⟨(Ht rfl),trivial⟩) (ro rfl (cJ K_77 (oI (n:=1) (by decide) (by decide)) ⟨(cV 1),trivial⟩) (ro rfl (cJ K_98 Dg ⟨(Ht rfl),trivial⟩) (rn rfl (eG (Ts:=[Is (.bool false),Is (.slice none 0 0),Is (.bool false),Is (.slice none 0 0),Is (.slice none 0 0)]) O_51 rfl (fun V=>aW zd (aW zd (aW zd (aW zd (aW zd (aG))))))) fun B10=>?_)))))))
   refine ra rfl (gX Z_51 (Ht rfl) (Ht rfl) rfl (i:=5) rfl (aK rfl) rfl rfl (eZ (ts (ro rfl (eJ mD (Ht rfl) rfl) (ro rfl (eW A_32 Z_32 (Ht rfl) (i:=0) rfl rfl rfl) (ro rfl (cJ Tryz.call23 (Vh (i:=((1:Nat):Int)) zo) ⟨(Ht rfl),(cV 1),trivial⟩) (rm rfl (ro rfl (dU (Ht rfl) rfl) (ro rfl (dU (Ht rfl) rfl) (rn rfl (eG (Ts:=[Is (.bool false),Is (.slice none 0 0),Is (.bool false),Is (.slice none 0 0),Is (.slice none 0 0)]) O_51 rfl (fun V=>aW zd (aW zd (aW zd (aW zd (aW zd (aG))))))) fun B11=>?_))))))))))
   refine gX Z_51 (Ht rfl) (Ht rfl) rfl (i:=6) rfl (aK rfl) rfl rfl (ra rfl (eZ (cU (qJ (E':=[(3,_),(4,_),(5,_),(6,_),(7,_),(8,_),(9,_),(10,_),(11,_)]) (zS rfl) (fJ (m:=18) (dp 9 rfl (cZ (Ht rfl)) (dq 44 0 rfl (dJ U_30 Z_29 (Ht rfl) (cV 1) rfl (eQ (dY (d:=[]) zo))) (dq 45 1 rfl (dV A_29 Z_29 (Ht rfl)) (dq 46 2 rfl (dJ U_29 Z_51 (Ht rfl) (cV 0) rfl (eQ (dY (d:=Qi.zero) (by rw [hr1]; decide)))) ?_)))))))))
   refine dq 47 3 rfl (dV A_51 Z_51 (Ht rfl)) (dq 48 4 rfl (aT bL (Ht rfl)) (dp 4 rfl (eW A_51 Z_51 (Ht rfl) (i:=1) rfl rfl rfl) (dR 49 5 50 6 rfl (aL cL K_45 (iT zo) (Ht rfl) ⟨(Ht rfl),trivial⟩) (dp 10 rfl (eW A_51 Z_51 (Ht rfl) (i:=5) rfl rfl rfl) (dq 52 8 rfl (aT bL (Ht rfl)) (dp 4 rfl (eW A_51 Z_51 (Ht rfl) (i:=1) rfl rfl rfl) (dq 54 10 rfl (aT bL (Ht rfl)) (dp 9 rfl (cZ (Ht rfl)) (dq 56 12 rfl (dJ U_30 Z_29 (Ht rfl) (cV 0) rfl (eQ (dY (d:=[]) zo))) ?_)))))))))
   refine dq 57 13 rfl (dV A_29 Z_29 (Ht rfl)) (dq 58 14 rfl (dJ U_29 Z_51 (Ht rfl) (cV 0) rfl (eQ (dY (d:=Qi.zero) (by rw [hr0]; decide)))) ?_)
   refine dq 59 15 rfl (dV A_51 Z_51 (Ht rfl)) (dR 55 11 60 16 rfl (aL cL K_45 (iT zo) (Ht rfl) ⟨(Ht rfl),trivial⟩) (fW bE rfl (by kernel_rfl) (zF (zF (zF (zF (aJ (aJ (aV (ro rfl (aL iX K_44 (rV zo) (Ht rfl) ⟨(Ht rfl),trivial⟩) (ro rfl (cR (xs:=[.tmp 51,.tmp 62]) U_29 Z_51 O_51 (cG (Ht rfl) (cG (Ht rfl) cK)) rfl rfl rfl) ?_)))))))))))
   refine ro rfl (cR (xs:=[.tmp 63]) U_30 Z_29 O_29 (cG (Ht rfl) cK) rfl rfl rfl) (ra rfl (eZ (cU (qJ (E':=[(3,_),(4,_),(5,_),(6,_),(7,_),(8,_),(9,_),(10,_),(11,_),(13,_)]) (zS rfl) (dQ (rm rfl (ro rfl (eJ lG (Ht rfl) rfl) (ro rfl (fQ A_30 Z_30 (Ht rfl) (i:=0) rfl rfl) (ro rfl (cJ Tryz.call99 (a2m (p:=Wp s g) (c:=c) (n:=1) (m:=2) (L:=2 * L + 4) hW hch hWf (hc.le zo) zo zo (by decide) (by decide) (by decide) (by decide)) ⟨(Ht rfl),(Ht rfl),trivial⟩) ?_)))))))))
   refine ro rfl (dJ U_30 Z_29 (Ht rfl) (cV 0) rfl (eQ (dY (d:=[]) (by rw [hXs.1]; decide)))) ?_
   refine ro rfl (dV A_29 Z_29 (Ht rfl)) (ro rfl (dJ U_29 Z_51 (Ht rfl) (cV 0) rfl (eQ (dY (d:=Qi.zero) (by rw [hX0]; decide)))) ?_)
   refine ro rfl (dV A_51 Z_51 (Ht rfl)) (rn rfl (eG (Ts:=[Is (.bool false),Is (.slice none 0 0),Is (.bool false),Is (.slice none 0 0),Is (.slice none 0 0)]) O_51 rfl (fun V=>aW zd (aW zd (aW zd (aW zd (aW zd (aG))))))) fun B14=>(gX Z_51 (Ht rfl) (Ht rfl) rfl (i:=7) rfl (aK rfl) rfl rfl (eZ (cU (qJ (E':=[(3,_),(4,_),(5,_),(6,_),(7,_),(8,_),(9,_),(10,_),(11,_),(14,_)]) (zS rfl) ?_)))))
   refine fJ (m:=32) (dp 9 rfl (cZ (Ht rfl)) (dq 73 0 rfl (dJ U_30 Z_29 (Ht rfl) (cV 1) rfl (eQ (dY (d:=[]) zo))) (dq 74 1 rfl (dV A_29 Z_29 (Ht rfl)) (dq 75 2 rfl (dJ U_29 Z_51 (Ht rfl) (cV 0) rfl (eQ (dY (d:=Qi.zero) (by rw [hr1]; decide)))) ?_))))
   refine dq 76 3 rfl (dV A_51 Z_51 (Ht rfl)) (dq 77 4 rfl (aT bL (Ht rfl)) (dp 9 rfl (cZ (Ht rfl)) (dq 79 6 rfl (dJ U_30 Z_29 (Ht rfl) (cV 1) rfl (eQ (dY (d:=[]) zo))) (dq 80 7 rfl (dV A_29 Z_29 (Ht rfl)) (dq 81 8 rfl (dJ U_29 Z_51 (Ht rfl) (cV 0) rfl (eQ (dY (d:=Qi.zero) (by rw [hr1]; decide)))) ?_)))))
   refine dq 82 9 rfl (dV A_51 Z_51 (Ht rfl)) (dq 83 10 rfl (aT bL (Ht rfl)) (dq 84 11 rfl (aL mG K_175 xJ (Ht rfl) trivial) (dR 78 5 85 12 rfl (aL cL K_45 (iT zo) (Ht rfl) ⟨(Ht rfl),trivial⟩) (dq 86 13 rfl (aT bL (Ht rfl)) (dp 5 rfl (eW A_51 Z_51 (Ht rfl) (i:=2) rfl rfl rfl) (dp 11 rfl (eW A_51 Z_51 (Ht rfl) (i:=6) rfl rfl rfl) (dR 88 15 89 16 rfl (cJ K_45 (iT zo) ⟨(Ht rfl),(Ht rfl),trivial⟩) (dq 90 17 rfl (cJ K_98 Dg ⟨(Ht rfl),trivial⟩) ?_))))))))
   refine dR 87 14 91 18 rfl (aL cL K_45 (iT zo) (Ht rfl) ⟨(Ht rfl),trivial⟩) (dq 92 19 rfl (aT bL (Ht rfl)) (dp 10 rfl (eW A_51 Z_51 (Ht rfl) (i:=5) rfl rfl rfl) (dq 94 21 rfl (aT bL (Ht rfl)) (dp 4 rfl (eW A_51 Z_51 (Ht rfl) (i:=1) rfl rfl rfl) (dq 96 23 rfl (aT bL (Ht rfl)) (dp 4 rfl (eW A_51 Z_51 (Ht rfl) (i:=1) rfl rfl rfl) (dq 98 25 rfl (aT bL (Ht rfl)) (dq 99 26 rfl (aL mG K_175 xJ (Ht rfl) trivial) (dR 97 24 100 27 rfl (aL cL K_45 (iT zo) (Ht rfl) ⟨(Ht rfl),trivial⟩) ?_)))))))))
   refine dR 95 22 101 28 rfl (aL iX K_44 (rV zo) (Ht rfl) ⟨(Ht rfl),trivial⟩) (dR 93 20 102 29 rfl (aL cL K_45 (iT zo) (Ht rfl) ⟨(Ht rfl),trivial⟩) (C.D_new (Ei:=[]) rfl rfl rfl bW (eG (Ts:=[Is (.bool false),Is (.slice none 0 0),Is (.bool false),Is (.slice none 0 0),Is (.slice none 0 0)]) O_51 rfl (fun V=>aW zd (aW zd (aW zd (aW zd (aW zd (aG))))))) (fW bE rfl (by kernel_rfl) (zF (zF (zF (zF (zF (zF (zF (aJ (aJ (aJ (C.F_new (fun B15=>aV ?_)))))))))))))))
   refine gX Z_51 (Ht rfl) (Ht rfl) rfl (i:=8) rfl (aK rfl) rfl rfl (eZ (cU (qJ (E':=[(6,_),(7,_),(8,_),(10,_),(14,_),(15,_)]) (zS rfl) (dQ (ro rfl (eW A_51 Z_51 (Ht rfl) (i:=7) rfl rfl rfl) (ro rfl (aT bL (Ht rfl)) (ro rfl (eW A_51 Z_51 (Ht rfl) (i:=8) rfl rfl rfl) (ro rfl (aL lU K_40 (vB (x:=Wq s c g) (y:=gm s 1 0 * (gm s 1 0).conj * (t0 * Yu z ((1:Nat):Int)) * (Gp - g * g.conj)) zo) (Ht rfl) ⟨(Ht rfl),trivial⟩) ?_))))))))
   refine rm rfl (ro rfl (dU (Ht rfl) rfl) (ro rfl (dU (Ht rfl) rfl) (rn rfl (eG (Ts:=[Is (.bool false),Is (.slice none 0 0),Is (.bool false),Is (.slice none 0 0),Is (.slice none 0 0)]) O_51 rfl (fun V=>aW zd (aW zd (aW zd (aW zd (aW zd (aG))))))) fun B16=>(gX Z_51 (Ht rfl) (Ht rfl) rfl (i:=9) rfl (aK rfl) rfl rfl (ra rfl (eZ (cU (cU (qJ (E':=[(6,_),(7,_),(8,_),(10,_),(16,_),(17,_)]) (zS rfl) ?_)))))))))
   refine dQ (rm rfl (ro rfl (kA (Ht rfl) cW) (eZ (dX (Ht rfl) (fun hk=>?_) (fun hk=>?_)))))
   ·rw [hpd] at hk
    have hk2 : Ix z s g t0 = Qi.zero := by
     by_cases h:Ix z s g t0 = Qi.zero
     ·exact h
     ·rw [if_neg h] at hk; exact absurd hk (by decide)
    have he:wF z s c g t0 = (Qi.zero,3):=by rw [wF,if_neg hb2,if_neg hd3,if_pos hk2]
    refine ts (ro rfl (eW A_51 Z_51 (Ht rfl) (i:=4) rfl rfl rfl) (gX Z_51 (Ht rfl) (Ht rfl) rfl (i:=3) rfl (aK rfl) rfl rfl (ro rfl (cX (cV 3)) (eZ (bN rfl (fZ (fU A_51 Z_51 rfl (i:=3) rfl rfl) ?_) (fZ (eY rfl) ?_))))))
    ·exact (fun v V k=>by rw [he]; exact mJ v V k)
    ·exact (fun v V k=>by rw [he]; exact k)
   ·have hk2 : ¬ Ix z s g t0 = Qi.zero := fun h => by rw [hpd, if_pos h] at hk; exact absurd hk (by decide)
    have he:wF z s c g t0 = (Gp + Wq s c g / Ix z s g t0,0):=by rw [wF,if_neg hb2,if_neg hd3,if_neg hk2]
    have hv:Gp + Wq s c g / (gm s 1 0 * (gm s 1 0).conj * (t0 * Yu z ((1:Nat):Int)) * (Gp - g * g.conj)) = (wF z s c g t0).1:=by rw [he,hpd]
    refine cY (ts (ro rfl (eW A_51 Z_51 (Ht rfl) (i:=5) rfl rfl rfl) (ro rfl (aT bL (Ht rfl)) (ro rfl (eW A_51 Z_51 (Ht rfl) (i:=9) rfl rfl rfl) (ro rfl (aL nS K_46 (yL zo) (Ht rfl) ⟨(Ht rfl),trivial⟩) (gX Z_51 (Ht rfl) (Ht rfl) rfl (i:=3) rfl (aK rfl) rfl rfl (ro rfl (cX (cV 0)) (eZ (bN rfl (fZ (fU A_51 Z_51 rfl (i:=3) rfl rfl) ?_) (fZ (eY rfl) ?_))))))))))
    ·exact (lP hv)
    ·exact (fun v V k=>by rw [he]; exact k)
end
section
open Go Go.RowKit
theorem a0i {n:Nat} (h:n < 4294967296):bH Tryz.prog 278 [NT .u64 1,NT .u64 n] (fI [NT .u64 0,NT .u64 n]):=by
 refine bH.intro Tryz.func278 rfl Tryz.ntmps278 rfl (fun cx=>(ts (ro rfl (cX (cV 0)) (ro rfl (cX (cV 0)) (eZ (ts (rm rfl (ro rfl (aM.nat (uL rfl (Ht rfl) (cV 4294967295) z7 z7) (show (1:Nat) &&& 4294967295 = 1 by decide)) (ra rfl (eZ (ts (rm rfl (ro rfl (aM.nat (fA (Ht rfl) (cV 32) (by decide)) (show (1:Nat) / 2 ^ 32 = 0 by decide)) (ra rfl (eZ (ts (rm rfl (ro rfl (aM.nat (uL rfl (Ht rfl) (cV 4294967295) z7 z7) (show n &&& 4294967295 = n from (Nat.and_two_pow_sub_one_eq_mod n 32).trans (Nat.mod_eq_of_lt h))) ?_))))))))))))))))))
 refine ra rfl (eZ (ts (rm rfl (ro rfl (aM.nat (fA (Ht rfl) (cV 32) (by decide)) (show n / 2 ^ 32 = 0 from Nat.div_eq_of_lt h)) (ra rfl (eZ (ts (rm rfl (rm rfl (ro rfl (aM.nat (lL (Ht rfl) (Ht rfl) z7) (Nat.one_mul n)) (ra rfl (eZ (ts (rm rfl (rm rfl (ro rfl (aM.nat (lL (Ht rfl) (Ht rfl) z7) (Nat.zero_mul n)) (rm rfl (ro rfl (aM.nat (fA (Ht rfl) (cV 32) (by decide)) (show n / 2 ^ 32 = 0 from Nat.div_eq_of_lt h)) ?_))))))))))))))))))
 refine ro rfl (dW (Ht rfl) (Ht rfl) z7) (ra rfl (eZ (ts (rm rfl (ro rfl (aM.nat (uL rfl (Ht rfl) (cV 4294967295) z7 z7) (show (0 + 0:Nat) &&& 4294967295 = 0 by decide)) (ra rfl (eZ (ts (rm rfl (ro rfl (aM.nat (fA (Ht rfl) (cV 32) (by decide)) (show (0 + 0:Nat) / 2 ^ 32 = 0 by decide)) (ra rfl (eZ (ts (rm rfl (rm rfl (rm rfl ?_))))))))))))))))
 refine ro rfl (aM.nat (lL (Ht rfl) (Ht rfl) z7) (show (1 * 0:Nat) = 0 by decide)) (ro rfl (dW (Ht rfl) (Ht rfl) z7) (ra rfl (eZ (ts (rm rfl (rm rfl (ro rfl (aM.nat (lL (Ht rfl) (Ht rfl) z7) (show (0 * 0:Nat) = 0 by decide)) (rm rfl (ro rfl (dW (Ht rfl) (Ht rfl) z7) ?_)))))))))
 refine rm rfl (ro rfl (aM.nat (fA (Ht rfl) (cV 32) (by decide)) (show (0 + 0:Nat) / 2 ^ 32 = 0 by decide)) (ro rfl (dW (Ht rfl) (Ht rfl) z7) (ra rfl (eZ (ts (rm rfl (rm rfl (ro rfl (aM.nat (lL (Ht rfl) (Ht rfl) z7) (Nat.one_mul n)) (ra rfl (eZ (bN rfl (fZ (eY rfl) ?_) (eY rfl))))))))))))
 exact (kU (by decide))
theorem a39 {n:Nat} (h:n < 4294967296):bH Tryz.prog 251 [NT .u64 1,NT .u64 n] (fI [NT .u64 0,NT .u64 n]):=by
 refine bH.intro Tryz.func251 rfl Tryz.ntmps251 rfl (fun cx=>(ts (ro rfl (cX (cV 0)) (ro rfl (cX (cV 0)) (eZ (cU (dX cW (fun hf=>?_) (fun hf=>?_))))))))
 ·exact absurd hf (by decide)
 ·refine cY (ts (rm rfl (rm rfl (ro rfl (cJ Tryz.call278 (a0i h) ⟨(Ht rfl), (Ht rfl), trivial⟩) (rm rfl (ro rfl (dU (Ht rfl) rfl) (ro rfl (dU (Ht rfl) rfl) (ra rfl (ra rfl (eZ (ts (rm rfl (rm rfl (ra rfl (ra rfl (eZ ?_))))))))))))))))
  exact bN rfl (eY rfl) (eY rfl)
theorem Lz {m:Nat} (h1:1 ≤ m) (hm:m ≤ 1000):gO Tryz.prog 191 [aR [Qi.zero],NT .i64 m] [] ({v:Value // jN v}) (fun v=>Is v.1) (fun v=>[cC 51 5 v.1 ((tab m fun _=>Qi.zero).map aH)]) (fun _=>True):=by
 refine gO.intro Tryz.func191 rfl Tryz.ntmps191 rfl (fun cx Z=>(ts (ro rfl (cX cW) (eZ (cU (ts (rm rfl (ro rfl (gZ (Ht rfl) (cV 0)) (eZ (dX (Ht rfl) (fun h0=>?_) (fun h0=>?_)))))))))))
 ·simp only [decide_eq_true_eq] at h0
  omega
 ·refine cY (ts (rm rfl (ro rfl (dK U_29 (Ht rfl) (show (([Qi.zero].map aH).length : Int) = ((1 : Nat) : Int) from rfl)) (ro rfl (gJ U_3 U_255 (Ht rfl) z7) (rm rfl (ro rfl (gJ U_3 U_255 (Ht rfl) z7) (ro rfl (cJ Tryz.call251 (a39 zo) ⟨(Ht rfl), (Ht rfl), trivial⟩) (rm rfl (ro rfl (dU (Ht rfl) rfl) (ro rfl (dU (Ht rfl) rfl) ?_))))))))))
  refine ra rfl (ra rfl (eZ (cU (ts (rm rfl (ro rfl (eL (Ht rfl) (cV 0)) (rm rfl (fX rfl rfl (eU rfl rfl (Ht rfl) (fun h=>cZ (Ht rfl))) (fX rfl rfl (eU rfl rfl (Ht rfl) (fun h=>eL (fV rfl h) (cV 9223372036854775807))) (ro rfl (jI (Ht rfl) (fun h=>(fV rfl h))) (eZ (dX (Ht rfl) (fun h2=>?_) (fun h2=>?_)))))))))))))
  ·simp only [Bool.or_eq_true, decide_eq_true_eq] at h2
   omega
  ·refine cY (ts (rm rfl (ro rfl (gJ U_255 U_3 (Ht rfl) z6) (a06 (T := aH Qi.zero) (i := Tryz.t51) lR jO rfl rfl (Ht rfl) rfl jQ (El.ag rfl) (by show 88 * _ ≤ _; omega) zo rfl (fun B30 hB30 => (ra rfl (eZ (ts (rm rfl (rm rfl (ro rfl (Yh (q := 1) (T := aH Qi.zero) U_29 Z_51 (i := 1) rfl (Ht rfl) (Ht rfl) (by decide) (El.ag rfl) zo) (ra rfl (eZ (cU (eK ?_)))))))))))))))
   refine cF (fun (k : Nat) => 1 ≤ k ∧ k ≤ m) (fun (k : Nat) => m - k) (fun (k : Nat) => [(7, Is B30), (8, NT .i64 k)]) (fun (k : Nat) => [Z, cC 51 5 B30 (List.replicate m (aH Qi.zero))]) (Nat.min 1 m) ⟨by show 1 ≤ min 1 m; omega, by show min 1 m ≤ m; omega⟩
    (zS rfl) (dM.refl _) (fun k ⟨hk1,hk⟩=>?_)
   refine cU (ts (rm rfl (rm rfl (ro rfl (rO U_29 (Ht rfl) (i:=1) rfl (show ((List.replicate m (aH Qi.zero)).length:Int) = ((m:Nat):Int) by simp)) (ro rfl (gZ (Ht rfl) (Ht rfl)) (eZ (dX (Ht rfl) (fun hd=>?_) (fun hd=>?_))))))))
   ·simp only [decide_eq_true_eq] at hd
    have hlen:(List.replicate m (aH Qi.zero)).length = m:=by simp
    have h5:Nat.min k ((List.replicate m (aH Qi.zero)).length - k) = min k (m - k):=by rw [hlen]
    refine cY (eK (fJ (m:=8) (dp 8 rfl (cZ (Ht rfl)) (dp 7 rfl (cZ (Ht rfl)) (dp 8 rfl (cZ (Ht rfl)) (dR 39 1 40 2 rfl (Ym U_29 Z_51 (Ht rfl) (Ht rfl) rfl (i:=1) rfl (by rw [hlen]; exact hd)) ?_))))))
    refine dp 7 rfl (cZ (Ht rfl)) (dp 8 rfl (cZ (Ht rfl)) (dR 42 4 43 5 rfl (Yl U_29 Z_51 (Ht rfl) (Ht rfl) rfl (i:=1) rfl (by rw [hlen]; omega) (by rw [hlen]; omega)) ?_))
    refine dR 41 3 44 6 rfl (Mz (T:=aH Qi.zero) U_29 Z_51 (i:=1) rfl (Ht rfl) (Ht rfl)) (fW bE rfl (by kernel_rfl) (zF (zF (aV (ro rfl (dW (Ht rfl) (Ht rfl) (by show _ < 9223372036854775808; omega)) (ra rfl (eZ (bO (fY (k + Nat.min k ((List.replicate m (aH Qi.zero)).length - k)) ⟨by omega,by omega⟩ zo (zS rfl) (dM.refl _))))))))))
   ·refine gW rfl (ts (rm rfl (ra rfl (eZ ?_))))
    exact kH ⟨B30,hB30⟩ trivial [0,1] ⟨⟨_,rfl,fun _ _ _ h=>h⟩,⟨_,rfl,(bR (by rw [kS,tM]))⟩,trivial⟩ (by decide) (yB rfl (eY rfl))
end
section
open Go Go.RowKit
theorem mS {n : Nat} {E : cT} {H : Hp} {d : Option Tmp} {t : TypeId} {pos : String} {af : Array Edge} {g : Option (Nat × Bool)} {x0 x1 : Operand} {T0 T1 T2 : Ty} (h0 : bM E x0 (eH [T0, T1])) [s1 : dI T2 1 false] (h1 : bM E x1 T2) :
  aM Tryz.prog n E H ⟨d,.build 34 #[(0,x0),(1,x1)],t,pos,af,g⟩ (eH [T0,T1,T2]) :=
 fH (parts := [(0, x0), (1, x1)]) fun a V w hs => by
  obtain ⟨v0,e0,c0⟩:=h0 n V a hs
  obtain ⟨c0_0,c0_1,rfl⟩:∃ c0_0 c0_1,v0 = [c0_0,c0_1]:=yO (by simpa using c0.length)
  have p1:=h1 n V a hs
  generalize e1:a.eval x1 = v1 at p1
  have q1:=(s1.ok v1 V p1).2.2 rfl
  refine ⟨.agg #[c0_0,c0_1,v1],?_,[c0_0,c0_1,v1],rfl,aW (c0.at (i:=0) rfl rfl) (aW (c0.at (i:=1) rfl rfl) (aW (⟨p1,q1⟩) (aG)))⟩
  simp [e0,e1,Instr.build,Instr.fill,Sem.run_bind,Result.andThen,dS,q1.cells,O_34,U_34,Z_30,Z_32]
end
section
open Go Go.RowKit
theorem Ax {n:Nat} (hn:n ≤ 1000):gO Tryz.prog 97 [NT .i64 n,NT .i64 n] [] (Nat) (fun B=>Is (.slice (some ⟨B,0,none⟩) n n)) (fun B=>[mW jN B 29 51 5 (cE aH (qA n n))]) (fun _=>True):=by
 refine gO.intro Tryz.func97 rfl Tryz.ntmps97 rfl (fun cx Z=>(ts (ro rfl (cX cW) (eZ (ts (rm rfl (rn rfl (eM (T:=Is (.slice none 0 0)) (i:=Tryz.t29) V_30 lH rfl rfl (Ht rfl) rfl (fun _=>rfl) trivial (by show 24 * _ ≤ _; omega) zo) fun B8=>(ra rfl (eZ (cU (ts (rm rfl (ro rfl (gA U_30 (Ht rfl)) (ro rfl (cZ (cV 0)) (eZ (eK (nZ 1 rfl (wQ jN ⟨none,0,rfl⟩ (e:=51) (s:=5)) ?_)))))))))))))))))
 refine cF (fun (k : Nat) => k ≤ n) (fun (k : Nat) => n - k) (fun (k : Nat) => [(1, NT .i64 n), (5, Is (.slice (some ⟨B8, 0, none⟩) n n)), (10, NT .i64 n), (11, NT .i64 k)]) (fun (k : Nat) => [Z, mW jN B8 29 51 5 (cE aH (mA (fun _ => (tab n fun _ => Qi.zero)) [] n k))]) 0 (Nat.zero_le _)
  (zS rfl) (aU (fun _ _ _ h=>h) (aU (cB (by rw [← jS,kS]; exact mL aH n)) aY)) (fun k hk=>?_)
 refine ts (ro rfl (gZ (Ht rfl) (Ht rfl)) (eZ (cU (dX (Ht rfl) (fun hd=>?_) (fun hd=>?_)))))
 ·simp only [decide_eq_true_eq] at hd
  refine qI 1 (k) rfl (mE hd) (fun v hv=>(cY (cU (eK (ts (rm rfl (ra rfl (eZ (dQ (rm rfl (rm rfl (ro rfl (cJ K_77 (oI (n:=0) (by decide) (by decide)) ⟨(cV 0),trivial⟩) (ro rfl (cJ K_98 Dg ⟨(Ht rfl),trivial⟩) (ro rfl (cR (xs:=[.tmp 17]) U_29 Z_51 O_51 (cG (Ht rfl) cK) rfl rfl rfl) (rm rfl (kC Tryz.call191 (Lz (m:=n) zo hn) ⟨(Ht rfl),(Ht rfl),trivial⟩ rfl (fun B20 _=>?_)))))))))))))))))
  have hB20:=B20.2
  refine ro rfl (gQ U_30 Z_29 (Ht rfl) (Ht rfl) rfl zo (by rw [Nat.mul_one,Nat.zero_add])) ?_
  refine uV Z_29 (Ht rfl) (Ht rfl) (by simp only [cE,List.length_map,eS]; omega) (j:=1) (l:=3) rfl rfl rfl ?_
  refine eZ (bO (fP 1 3 rfl rfl (by decide) (by simp only [cE,List.length_map,eS]; omega) ?_))
  refine dQ (ro rfl (dW (Ht rfl) (cV 1) z6) (rm rfl (eZ (cD [0,1] rfl (by decide) (fY (k + 1) hd zo (zS rfl) (aU (fun _ _ _ h=>h) (aU (cB (by rw [gH,← lJ (f:=fun _=>(tab n fun _=>Qi.zero))])) aY)))))))
 ·simp only [decide_eq_false_iff_not] at hd
  obtain rfl:n = k:=Nat.le_antisymm zo hk
  refine gW rfl (ts (rm rfl (ra rfl (eZ ?_))))
  exact kH B8 trivial [0,1] ⟨⟨_,rfl,fun _ _ _ h=>h⟩,⟨_,rfl,(cB (by rw [lI]; rfl))⟩,trivial⟩ (by decide) (yB rfl (eY rfl))
theorem Vw {z:List Qi} {s:List (List Qi)} {L:Nat} (hz:bP z L) (hs:bC s L) (hL1:1 ≤ L) (hL:L ≤ 10000000) (hsh:cM s z.length z.length) (hl1:1 ≤ z.length) (hl:z.length ≤ 8):gO Tryz.prog 160 [gT z s] [] (Nat) (fun B=>Is (.slice (some ⟨B,0,none⟩) z.length z.length)) (fun B=>[mW jN B 29 51 5 (cE aH (gG z s))]) (fun _=>True):=by
 have hs1:=hs.le (Nat.le_refl L)
 have hsl:=hsh.1
 have hD:=Be z
 have hDf:=Bd hz hL1
 have hXf:=wA hs hDf hL1 (by rw [hD.1]; exact hl)
 have hX:cM (jD s (gP z)) s.length s.length:=oY
 refine gO.intro Tryz.func160 rfl Tryz.ntmps160 rfl (fun cx Z=>(ts (rn rfl (fK (Ht rfl)) fun B1=>(ro rfl (cX cW) (eZ (cU (fJ (m:=3) (dp 1 rfl (eW A_32 Z_32 (Ht rfl) (i:=1) rfl rfl rfl) (dq 10 0 rfl (cJ K_22 oK ⟨(Ht rfl),trivial⟩) (dp 1 rfl (eW A_32 Z_32 (Ht rfl) (i:=1) rfl rfl rfl) (fW bE rfl (by kernel_rfl) (aJ (aJ (aJ (aV (ro rfl (cJ K_22 oK ⟨(Ht rfl),trivial⟩) (kC Tryz.call97 (Ax (n:=z.length) zo) ⟨(Ht rfl),(Ht rfl),trivial⟩ rfl (fun B14 _=>?_))))))))))))))))))
 refine ra rfl (eZ (cU (ts (ro rfl (eW A_32 Z_32 (Ht rfl) (i:=1) rfl rfl rfl) (ro rfl (cJ Tryz.call142 (Mi zo) ⟨(Ht rfl),trivial⟩) (ro rfl (dK U_29 (Ht rfl) aA) (ro rfl (cZ (cV 0)) (eZ (eK ?_)))))))))
 refine cF (fun (i : Nat) => i ≤ z.length) (fun (i : Nat) => z.length - i) (fun (i : Nat) => [(1, bT B1 0), (3, Is (.slice (some ⟨B14, 0, none⟩) z.length z.length)), (16, aR z), (17, NT .i64 z.length), (18, NT .i64 i)]) (fun (i : Nat) => [Z, box B1 32 [aR z, bB s], mW jN B14 29 51 5 (cE aH (mA (fun i => (tab z.length fun _ => Qi.zero).set i (gv z i)) (tab z.length fun _ => Qi.zero) z.length i))]) 0 (Nat.zero_le _)
  (zS rfl) (aU (fun _ _ _ h=>h) (aU (fun _ _ _ h=>h) (aU (cB (by rw [qA,jS])) aY))) (fun i hi=>?_)
 refine ts (ro rfl (gZ (Ht rfl) (Ht rfl)) (eZ (cU (dX (Ht rfl) (fun hd=>?_) (fun hd=>?_)))))
 ·simp only [decide_eq_true_eq] at hd
  have hzl:=aN z.length fun _=>Qi.zero
  refine qI 2 (i) rfl (mE hd) (fun v hv=>(cY (cU (eK (ts (rm rfl (ro rfl (dJ U_29 Z_51 (Ht rfl) (Ht rfl) rfl (eQ (dY (d:=Qi.zero) hd))) (ro rfl (dV A_51 Z_51 (Ht rfl)) (rn rfl (eG (Ts:=[Is (.bool false),Is (.slice none 0 0),Is (.bool false),Is (.slice none 0 0),Is (.slice none 0 0)]) O_51 rfl (fun V=>aW zd (aW zd (aW zd (aW zd (aW zd (aG))))))) fun B5=>(ra rfl ?_))))))))))
  refine gX Z_51 (Ht rfl) (Ht rfl) rfl (i:=4) rfl (aK rfl) rfl rfl (eZ (fJ (m:=7) (dp 3 rfl (cZ (Ht rfl)) (dp 4 rfl (cZ (Ht rfl)) (dR 23 0 24 1 rfl (gQ U_30 Z_29 (Ht rfl) (Ht rfl) rfl zo (by rw [Nat.mul_one,Nat.zero_add])) ?_)))))
  refine dq 25 2 rfl (jZ A_29 Z_29 (Ht rfl) (j:=2) rfl) (dp 4 rfl (cZ (Ht rfl)) (dp 5 rfl (eW A_51 Z_51 (Ht rfl) (i:=4) rfl rfl rfl) (dq 28 5 rfl (cJ K_98 Dg ⟨(Ht rfl),trivial⟩) (fW bE rfl (by kernel_rfl) (zF (aJ (aJ (aJ (aV (ro rfl (dP U_29 Z_51 (Ht rfl) (Ht rfl) rfl (i:=3) rfl (by simp only [List.length_map,aN]; omega) rfl) ?_))))))))))
  refine nO Z_51 (Ht rfl) (Ht rfl) (El.ag rfl) (i:=3) rfl rfl (by simp only [List.length_map,aN]; omega) rfl ?_
  refine eZ (bO (fP 2 3 rfl rfl (by decide) (by simp only [cE,List.length_map,eS]; omega) ?_))
  refine dQ (ro rfl (dW (Ht rfl) (cV 1) z6) (rm rfl (eZ (cD [0,1,2] rfl (by decide) (fY (i + 1) hd zo (zS rfl) (aU (fun _ _ _ h=>h) (aU (fun _ _ _ h=>h) (aU (cB (by rw [← lJ (f:=(fun i=>(tab z.length fun _=>Qi.zero).set i (gv z i))),← gH,← fO])) aY))))))))
 ·simp only [decide_eq_false_iff_not] at hd
  obtain rfl:i = z.length:=Nat.le_antisymm hi zo
  rw [lI]
  refine gW rfl (ts (ro rfl (eW A_32 Z_32 (Ht rfl) (i:=1) rfl rfl rfl) (ro rfl (cJ Tryz.call93 (Ft hsh hl) ⟨(Ht rfl),trivial⟩) (rm rfl (a2L Tryz.call99 (Mb (p:=s) (c:=gP z) (n:=z.length) (m:=z.length) (L:=L) hsh hD hs hDf hL1 zo hl1 hl1 hl hl) (j:=2) (tt:=34) rfl rfl (iB (s:=5) (M:=gP z) hD.1.symm) a3S (fun _=>inferInstance) (fun _ B hB=>by simp only [List.mem_singleton] at hB; subst hB; exact Zn) ⟨(Ht rfl),(Ht rfl),trivial⟩ rfl (fun B35 _=>(ra rfl (eZ (cU (cU (gV (i:=3) (tt:=6) rfl rfl (iB (s:=5) (M:=jD s (gP z)) (hX.1.trans hsl).symm) ?_)))))))))))
  refine dQ (rm rfl (ro rfl (dK U_30 (Ht rfl) aA) (ro rfl (cZ (cV 0)) (eZ (eK (cD [0,2] rfl (by decide) ?_))))))
  refine cF (fun (i : Nat) => i ≤ z.length) (fun (i : Nat) => z.length - i) (fun (i : Nat) => [(3, Is (.slice (some ⟨B14, 0, none⟩) z.length z.length)), (36, bB (jD s (gP z))), (37, NT .i64 z.length), (38, NT .i64 i)]) (fun (i : Nat) => [Z, mW jN B14 29 51 5 (cE aH (nT (fun i => tab z.length fun j => gm (gP z) i j - gm (jD s (gP z)) i j) (fun i => tab z.length fun j => gm (gP z) i j) z.length i))]) 0 (Nat.zero_le _)
   (aQ rfl (aQ rfl (aZ rfl (kU (hX.1.trans hsl)) (zS rfl)))) (aU (fun _ _ _ h=>h) (aU (cB (by rw [← jU]; exact congrArg _ (pV hD))) aY)) (fun i hi=>?_)
  refine ts (ro rfl (gZ (Ht rfl) (Ht rfl)) (eZ (cU (dX (Ht rfl) (fun he=>?_) (fun he=>?_)))))
  ·simp only [decide_eq_true_eq] at he
   have hxr:=hX.row (i:=i) zo
   refine qI 1 (i) rfl (qR he) (fun v hv=>(cY (cU (eK (ts (rm rfl (ro rfl (dJ U_30 Z_29 (Ht rfl) (Ht rfl) rfl (eQ (dY (d:=[]) (by rw [hX.1]; omega)))) ?_)))))))
   refine ro rfl (dV A_29 Z_29 (Ht rfl)) (ra rfl (ra rfl (eZ (ts (rm rfl (ro rfl (dK U_29 (Ht rfl) aA) (ro rfl (cZ (cV 0)) (eZ (eK ?_)))))))))
   refine cF (fun (j : Nat) => j ≤ z.length) (fun (j : Nat) => z.length - j) (fun (j : Nat) => [(3, Is (.slice (some ⟨B14, 0, none⟩) z.length z.length)), (7, NT .i64 i), (8, aR ((jD s (gP z)).getD i [])), (36, bB (jD s (gP z))), (37, NT .i64 z.length), (38, NT .i64 i), (44, NT .i64 z.length), (45, NT .i64 j)]) (fun (j : Nat) => [Z, vM jN B14 29 51 5 (cE aH (nT (fun i => tab z.length fun j => gm (gP z) i j - gm (jD s (gP z)) i j) (fun i => tab z.length fun j => gm (gP z) i j) z.length i)) i v, cC 51 5 v ((nT (fun j => gm (gP z) i j - gm (jD s (gP z)) i j) (fun j => gm (gP z) i j) z.length j).map aH)]) 0 (Nat.zero_le _)
    (aQ rfl (aQ rfl (aQ rfl (aQ rfl (aQ rfl (aQ rfl (aZ rfl (kU (hxr.trans hsl)) (zS rfl)))))))) (aU (fun _ _ _ h=>h) (aU (fun _ _ _ h=>h) (aU (bR (by rw [← jU])) aY))) (fun j hj=>?_)
   refine ts (ro rfl (gZ (Ht rfl) (Ht rfl)) (eZ (cU (dX (Ht rfl) (fun hf=>?_) (fun hf=>?_)))))
   ·simp only [decide_eq_true_eq] at hf
    have hrl:=jG (fun j=>gm (gP z) i j - gm (jD s (gP z)) i j) (fun j=>gm (gP z) i j) z.length j
    haveI f1:aE (gm (gP z) i j) L:=hDf.get hL1 i j
    haveI f2:aE (gm (jD s (gP z)) i j) (200 * L + 300):=hXf.get zo i j
    refine cY (cU (eK (ts (rm rfl (ra rfl (eZ (fJ (m:=18) (dp 3 rfl (cZ (Ht rfl)) (dp 7 rfl (cZ (Ht rfl)) (dR 48 0 49 1 rfl (gQ U_30 Z_29 (Ht rfl) (Ht rfl) rfl zo (by rw [Nat.mul_one,Nat.zero_add])) ?_))))))))))
    refine dq 50 2 rfl (jZ A_29 Z_29 (Ht rfl) (j:=1) rfl) (dp 9 rfl (cZ (Ht rfl)) (dp 3 rfl (cZ (Ht rfl)) (dp 7 rfl (cZ (Ht rfl)) (dR 53 5 54 6 rfl (gQ U_30 Z_29 (Ht rfl) (Ht rfl) rfl zo (by rw [Nat.mul_one,Nat.zero_add])) ?_))))
    refine dq 55 7 rfl (jZ A_29 Z_29 (Ht rfl) (j:=1) rfl) (dp 9 rfl (cZ (Ht rfl)) (dR 56 8 57 9 rfl (dP U_29 Z_51 (Ht rfl) (Ht rfl) rfl (i:=2) rfl (by simp only [List.length_map,hrl]; omega) rfl) ?_))
    refine dq 58 10 rfl (tG A_51 Z_51 (Ht rfl) (i:=2) rfl rfl (eQ (qV hf))) (dq 59 11 rfl (aT bL (Ht rfl)) (dp 8 rfl (cZ (Ht rfl)) (dp 9 rfl (cZ (Ht rfl)) (dR 61 13 62 14 rfl (dJ U_29 Z_51 (Ht rfl) (Ht rfl) rfl (eQ (dY (d:=Qi.zero) (by rw [hxr]; omega)))) ?_))))
    refine dq 63 15 rfl (dV A_51 Z_51 (Ht rfl)) (dR 60 12 64 16 rfl (aL iX K_44 (rV zo) (Ht rfl) ⟨(Ht rfl),trivial⟩) (fW bE rfl (by kernel_rfl) (zF (zF (zF (zF (aJ (aJ (aV (ro rfl (dP U_29 Z_51 (Ht rfl) (Ht rfl) rfl (i:=2) rfl (by simp only [List.length_map,hrl]; omega) rfl) ?_))))))))))
    refine nO Z_51 (Ht rfl) (Ht rfl) (El.ag rfl) (i:=2) rfl rfl (by simp only [List.length_map,hrl]; omega) rfl ?_
    refine eZ (bO (dQ (ro rfl (dW (Ht rfl) (cV 1) z6) (rm rfl (eZ (fY (j + 1) hf zo (zS rfl) (aU (fun _ _ _ h=>h) (aU (fun _ _ _ h=>h) (aU (bR (by rw [fO,← kL (f:=fun j=>gm (gP z) i j - gm (jD s (gP z)) i j)])) aY)))))))))
   ·simp only [decide_eq_false_iff_not] at hf
    obtain rfl:j = z.length:=Nat.le_antisymm hj zo
    refine gW rfl (bO (fP 1 2 rfl rfl (by decide) (by simp only [cE,List.length_map,jG]; omega) ?_))
    refine dQ (ro rfl (dW (Ht rfl) (cV 1) z6) (rm rfl (eZ (cD [0,1] rfl (by decide) (fY (i + 1) he zo (zS rfl) (aU (fun _ _ _ h=>h) (aU (cB (by rw [gH,lC,← kL (f:=(fun i=>tab z.length fun j=>gm (gP z) i j - gm (jD s (gP z)) i j))])) aY)))))))
  ·simp only [decide_eq_false_iff_not] at he
   obtain rfl:i = z.length:=Nat.le_antisymm hi zo
   refine gW rfl (ts (rm rfl (ra rfl (eZ ?_))))
   exact kH B14 trivial [0,1] ⟨⟨_,rfl,fun _ _ _ h=>h⟩,⟨_,rfl,(cB (by rw [lC]; rfl))⟩,trivial⟩ (by decide) (yB rfl (eY rfl))
theorem a2l {z:List Qi} {s:List (List Qi)} {t:Qi} {L:Nat} (hz:bP z L) (hs:bC s L) (ht:aE t L) (hL1:1 ≤ L) (hL:L ≤ 10000000) (hsh:cM s z.length z.length) (hl1:1 ≤ z.length) (hl:z.length ≤ 8):bH Tryz.prog 57 [gT z s,aH t] (fI [fD (dA (jJ t) z) (dA (jJ t) s) (dA (jJ t) (jA t (gG z s) z.length)),aO .i64 (jJ t)]):=by
 haveI:=ht
 have hOs:=lE z s
 have hOf:=tJ hz hs hL1 hl
 refine bH.intro Tryz.func57 rfl Tryz.ntmps57 rfl (fun cx=>(ts (rn rfl (fK (Ht rfl)) fun B2=>(rn rfl (fK (Ht rfl)) fun B3=>(rn rfl (eG (Ts:=[Is (.slice none 0 0),Is (.slice none 0 0),Is (.slice none 0 0)]) O_34 rfl (fun V=>aW zd (aW zd (aW zd (aG))))) fun B4=>(ro rfl (cX (cV 0)) (eZ (cU (ts (ro rfl (eW A_51 Z_51 (Ht rfl) (i:=1) rfl rfl rfl) (ro rfl (cJ Tryz.call159 (Mj zo) ⟨(Ht rfl),trivial⟩) (ro rfl (eN (Ht rfl)) ?_))))))))))))
 refine eZ (dX (Ht rfl) (fun hb=>?_) (fun hb=>?_))
 ·have he : jJ t ≠ 0 := by simp only [Bool.not_eq_true'] at hb; rw [jJ, hb]; decide
  have he1:jJ t = 1:=by simp only [Bool.not_eq_true'] at hb; rw [jJ,hb]; rfl
  refine ts (ro rfl (aM.imp (rH ) mY) (gX Z_34 (Ht rfl) (Ht rfl) rfl (i:=2) rfl (aK rfl) rfl rfl (ro rfl (cX (cV 1)) (eZ (bN rfl (fZ (fU A_34 Z_34 rfl (i:=2) rfl rfl) ?_) (fZ (eY rfl) ?_))))))
  ·exact (a1G he)
  ·exact (aS he1.symm)
 ·have he : jJ t = 0 := by simp only [Bool.not_eq_false'] at hb; rw [jJ, hb]; rfl
  refine cY (ts (ro rfl (eW A_32 Z_32 (Ht rfl) (i:=0) rfl rfl rfl) (kC Tryz.call160 (Vw hz hs hL1 hL hsh hl1 hl) ⟨(Ht rfl),trivial⟩ rfl (fun B15 _=>(ra rfl (eZ (cU (ts (rm rfl (ro rfl (gA U_30 (Ht rfl)) (ro rfl (cZ (cV 0)) (eZ (eK ?_)))))))))))))
  refine cF (fun (i : Nat) => i ≤ z.length) (fun (i : Nat) => z.length - i) (fun (i : Nat) => [(2, bT B2 0), (3, bT B3 0), (4, bT B4 0), (6, Is (.slice (some ⟨B15, 0, none⟩) z.length z.length)), (16, Is (.slice (some ⟨B15, 0, none⟩) z.length z.length)), (17, NT .i64 z.length), (18, NT .i64 i)]) (fun (i : Nat) => [box B2 32 [aR z, bB s], box B3 51 [aD (decide (t.a < 0)), aI t.a.natAbs, aD (decide (t.b < 0)), aI t.b.natAbs, aI (du t)], box B4 34 [Is (.slice none 0 0), Is (.slice none 0 0), Is (.slice none 0 0)], mW jN B15 29 51 5 (cE aH (nT (fun i => tab z.length fun j => t * gm (gG z s) i j) (fun i => tab z.length fun j => gm (gG z s) i j) z.length i))]) 0 (Nat.zero_le _)
   (zS rfl) (aU (fun _ _ _ h=>h) (aU (fun _ _ _ h=>h) (aU (fun _ _ _ h=>h) (aU (cB (by rw [← jU]; exact congrArg _ (pV hOs))) aY)))) (fun i hi=>?_)
  refine ts (ro rfl (gZ (Ht rfl) (Ht rfl)) (eZ (cU (dX (Ht rfl) (fun he2=>?_) (fun he2=>?_)))))
  ·simp only [decide_eq_true_eq] at he2
   refine qI 3 (i) rfl (qR he2) (fun v hv=>(cY (cU (eK (ts (ro rfl (gQ U_30 Z_29 (Ht rfl) (Ht rfl) rfl zo (by rw [Nat.mul_one,Nat.zero_add])) ?_))))))
   refine ro rfl (jZ A_29 Z_29 (Ht rfl) (j:=3) rfl) (ra rfl (eZ (ts (rm rfl (ro rfl (rO U_29 (Ht rfl) (i:=4) rfl (show (((tab z.length fun j=>gm (gG z s) i j).map aH).length:Int) = ((z.length:Nat):Int) by rw [List.length_map,aN])) (ro rfl (cZ (cV 0)) (eZ (eK ?_))))))))
   refine cF (fun (j : Nat) => j ≤ z.length) (fun (j : Nat) => z.length - j) (fun (j : Nat) => [(2, bT B2 0), (3, bT B3 0), (4, bT B4 0), (6, Is (.slice (some ⟨B15, 0, none⟩) z.length z.length)), (8, Is v), (16, Is (.slice (some ⟨B15, 0, none⟩) z.length z.length)), (17, NT .i64 z.length), (18, NT .i64 i), (23, NT .i64 z.length), (24, NT .i64 j)]) (fun (j : Nat) => [box B2 32 [aR z, bB s], box B3 51 [aD (decide (t.a < 0)), aI t.a.natAbs, aD (decide (t.b < 0)), aI t.b.natAbs, aI (du t)], box B4 34 [Is (.slice none 0 0), Is (.slice none 0 0), Is (.slice none 0 0)], vM jN B15 29 51 5 (cE aH (nT (fun i => tab z.length fun j => t * gm (gG z s) i j) (fun i => tab z.length fun j => gm (gG z s) i j) z.length i)) i v, cC 51 5 v ((nT (fun j => t * gm (gG z s) i j) (fun j => gm (gG z s) i j) z.length j).map aH)]) 0 (Nat.zero_le _)
    (zS rfl) (aU (fun _ _ _ h=>h) (aU (fun _ _ _ h=>h) (aU (fun _ _ _ h=>h) (aU (fun _ _ _ h=>h) (aU (bR (by rw [← jU])) aY))))) (fun j hj=>?_)
   refine ts (ro rfl (gZ (Ht rfl) (Ht rfl)) (eZ (cU (dX (Ht rfl) (fun hf=>?_) (fun hf=>?_)))))
   ·simp only [decide_eq_true_eq] at hf
    have hrl:=jG (fun j=>t * gm (gG z s) i j) (fun j=>gm (gG z s) i j) z.length j
    haveI f1:aE (gm (gG z s) i j) (201 * L + 301):=hOf.get zo i j
    refine cY (cU (eK (ts (rm rfl (ra rfl (eZ (fJ (m:=10) (dp 8 rfl (cZ (Ht rfl)) (dp 9 rfl (cZ (Ht rfl)) (dp 3 rfl (eW A_51 Z_51 (Ht rfl) (i:=1) rfl rfl rfl) (dq 29 2 rfl (cJ K_98 Dg ⟨(Ht rfl),trivial⟩) (dq 30 3 rfl (aT bL (Ht rfl)) (dp 8 rfl (cZ (Ht rfl)) (dp 9 rfl (cZ (Ht rfl)) (dR 32 5 33 6 rfl (dP U_29 Z_51 (Ht rfl) (Ht rfl) rfl (i:=4) rfl (by simp only [List.length_map,hrl]; omega) rfl) ?_)))))))))))))))
    refine dq 34 7 rfl (tG A_51 Z_51 (Ht rfl) (i:=4) rfl rfl (eQ (qV hf))) (dR 31 4 35 8 rfl (aL cL K_45 (iT zo) (Ht rfl) ⟨(Ht rfl),trivial⟩) (fW bE rfl (by kernel_rfl) (zF (zF (aJ (aJ (aV (ro rfl (dP U_29 Z_51 (Ht rfl) (Ht rfl) rfl (i:=4) rfl (by simp only [List.length_map,hrl]; omega) rfl) ?_))))))))
    refine nO Z_51 (Ht rfl) (Ht rfl) (El.ag rfl) (i:=4) rfl rfl (by simp only [List.length_map,hrl]; omega) rfl ?_
    refine eZ (bO (dQ (ro rfl (dW (Ht rfl) (cV 1) z6) (rm rfl (eZ (fY (j + 1) hf zo (zS rfl) (aU (fun _ _ _ h=>h) (aU (fun _ _ _ h=>h) (aU (fun _ _ _ h=>h) (aU (fun _ _ _ h=>h) (aU (bR (by rw [fO,← kL (f:=fun j=>t * gm (gG z s) i j)])) aY)))))))))))
   ·simp only [decide_eq_false_iff_not] at hf
    obtain rfl:j = z.length:=Nat.le_antisymm hj zo
    refine gW rfl (bO (fP 3 4 rfl rfl (by decide) (by simp only [cE,List.length_map,jG]; omega) ?_))
    refine dQ (ro rfl (dW (Ht rfl) (cV 1) z6) (rm rfl (eZ (cD [0,1,2,3] rfl (by decide) (fY (i + 1) he2 zo (zS rfl) (aU (fun _ _ _ h=>h) (aU (fun _ _ _ h=>h) (aU (fun _ _ _ h=>h) (aU (cB (by rw [gH,lC,← kL (f:=(fun i=>tab z.length fun j=>t * gm (gG z s) i j))])) aY)))))))))
  ·simp only [decide_eq_false_iff_not] at he2
   obtain rfl:i = z.length:=Nat.le_antisymm hi zo
   rw [lC]
   refine gW rfl (cU (gV (i:=3) (tt:=6) rfl rfl (iB (s:=5) (M:=(jA t (gG z s) z.length)) mN.1.symm) (dQ (ro rfl (eW A_32 Z_32 (Ht rfl) (i:=0) rfl rfl rfl) (rm rfl (ro rfl (mS (Ht rfl) (Ht rfl)) (gX Z_34 (Ht rfl) (Ht rfl) rfl (i:=2) rfl (aK rfl) rfl rfl (ro rfl (cX (cV 0)) (eZ (bN rfl (fZ (fU A_34 Z_34 rfl (i:=2) rfl rfl) ?_) (fZ (eY rfl) ?_)))))))))))
   ·exact (Yp he)
   ·exact (aS he.symm)
end
section
open Go Go.RowKit
theorem Hu {n : Nat} {E : cT} {H : Hp} {d : Option Tmp} {t : TypeId} {pos : String} {af : Array Edge} {g : Option (Nat × Bool)}  :
  aM Tryz.prog n E H ⟨d,.build 102 #[],t,pos,af,g⟩ (eH [Is (.int .i64 0),Is (.int .i64 0),Is (.int .i64 0)]) :=
 fH (parts := []) fun a V w hs => by
  refine ⟨.agg #[(.int .i64 0),(.int .i64 0),(.int .i64 0)],?_,[(.int .i64 0),(.int .i64 0),(.int .i64 0)],rfl,aW (⟨rfl,trivial⟩) (aW (⟨rfl,trivial⟩) (aW (⟨rfl,trivial⟩) (aG)))⟩
  simp [Instr.build,Instr.fill,Sem.run_bind,Result.andThen,dS,O_102,U_102,Z_2]
theorem Do {n : Nat} {E : cT} {H : Hp} {d : Option Tmp} {t : TypeId} {pos : String} {af : Array Edge} {g : Option (Nat × Bool)} {x0 : Operand} {T0 : Ty} [s0 : dI T0 1 false] (h0 : bM E x0 T0) :
  aM Tryz.prog n E H ⟨d,.build 102 #[(0,x0)],t,pos,af,g⟩ (eH [T0,Is (.int .i64 0),Is (.int .i64 0)]) :=
 fH (parts := [(0, x0)]) fun a V w hs => by
  have p0:=h0 n V a hs
  generalize e0:a.eval x0 = v0 at p0
  have q0:=(s0.ok v0 V p0).2.2 rfl
  refine ⟨.agg #[v0,(.int .i64 0),(.int .i64 0)],?_,[v0,(.int .i64 0),(.int .i64 0)],rfl,aW (⟨p0,q0⟩) (aW (⟨rfl,trivial⟩) (aW (⟨rfl,trivial⟩) (aG)))⟩
  simp [e0,Instr.build,Instr.fill,Sem.run_bind,Result.andThen,dS,q0.cells,O_102,U_102,Z_2]
theorem Hv {n : Nat} {E : cT} {H : Hp} {d : Option Tmp} {t : TypeId} {pos : String} {af : Array Edge} {g : Option (Nat × Bool)} {x0 x2 : Operand} {T0 T2 : Ty} [s0 : dI T0 1 false] (h0 : bM E x0 T0) [s2 : dI T2 1 false] (h2 : bM E x2 T2) :
  aM Tryz.prog n E H ⟨d,.build 102 #[(0,x0),(2,x2)],t,pos,af,g⟩ (eH [T0,Is (.int .i64 0),T2]) :=
 fH (parts := [(0, x0), (2, x2)]) fun a V w hs => by
  have p0:=h0 n V a hs
  generalize e0:a.eval x0 = v0 at p0
  have q0:=(s0.ok v0 V p0).2.2 rfl
  have p2:=h2 n V a hs
  generalize e2:a.eval x2 = v2 at p2
  have q2:=(s2.ok v2 V p2).2.2 rfl
  refine ⟨.agg #[v0,(.int .i64 0),v2],?_,[v0,(.int .i64 0),v2],rfl,aW (⟨p0,q0⟩) (aW (⟨rfl,trivial⟩) (aW (⟨p2,q2⟩) (aG)))⟩
  simp [e0,e2,Instr.build,Instr.fill,Sem.run_bind,Result.andThen,dS,q0.cells,q2.cells,O_102,U_102,Z_2]
end
section
open Go Go.RowKit
theorem zC  : bH Tryz.prog 16 [] (aD true):=by
 refine bH.intro Tryz.func16 rfl Tryz.ntmps16 rfl (fun cx=>(ts (ro rfl (cX cW) (eZ (ts (ro rfl (Hv cW cW) (rn rfl (eG (Ts:=[Is (.int .i64 0),Is (.int .i64 0),Is (.int .i64 0)]) O_102 rfl (fun V=>aW zd (aW zd (aW zd (aG))))) fun B1=>(gX Z_102 (Ht rfl) (Ht rfl) rfl (i:=0) rfl (aK rfl) rfl rfl (eZ (cU (Y.D_start (m:=18) [] (cQ (Ei:=[]) rfl rfl bX rfl rfl (dZ rfl (Do cW)) (cQ (Ei:=[]) rfl rfl bX rfl rfl (dZ rfl (Do cW)) ?_)))))))))))))
 refine cQ (Ei:=[(12,_),(13,_)]) rfl rfl (bQ (bZ 0 rfl rfl) (bQ (bZ 1 rfl rfl) bX)) rfl rfl (dZ rfl (cR (xs:=[.tmp 12,.tmp 13]) U_22 Z_102 O_102 (cG (Ht rfl) (cG (Ht rfl) cK)) rfl rfl rfl)) (cQ (Ei:=[(14,_)]) rfl rfl (bQ (bZ 2 rfl rfl) bX) rfl rfl (dZ rfl (cJ Tryz.call48 (tW (l:=[r50,r50]) (by decide)) ⟨(Ht rfl),trivial⟩)) (cQ (Ei:=[]) rfl rfl bX rfl rfl (dZ rfl (Hu )) (cQ (Ei:=[(1,_)]) rfl rfl (bQ (bJ rfl rfl) bX) rfl rfl (dZ rfl (eW A_102 Z_102 (Ht rfl) (i:=0) rfl rfl rfl)) ?_)))
 refine cQ (Ei:=[(16,_),(17,_)]) rfl rfl (bQ (bZ 4 rfl rfl) (bQ (bZ 5 rfl rfl) bX)) rfl rfl (dZ rfl (cR (xs:=[.tmp 16,.tmp 17]) U_22 Z_102 O_102 (cG (Ht rfl) (cG (Ht rfl) cK)) rfl rfl rfl)) (cQ (Ei:=[(1,_)]) rfl rfl (bQ (bJ rfl rfl) bX) rfl rfl (dZ rfl (eW A_102 Z_102 (Ht rfl) (i:=0) rfl rfl rfl)) (cQ (Ei:=[]) rfl rfl bX rfl rfl (dZ rfl (Hu )) (cQ (Ei:=[(19,_),(20,_)]) rfl rfl (bQ (bZ 7 rfl rfl) (bQ (bZ 8 rfl rfl) bX)) rfl rfl (dZ rfl (cR (xs:=[.tmp 19,.tmp 20]) U_22 Z_102 O_102 (cG (Ht rfl) (cG (Ht rfl) cK)) rfl rfl rfl)) ?_)))
 refine cQ (Ei:=[(18,_),(21,_)]) rfl rfl (bQ (bZ 6 rfl rfl) (bQ (bZ 9 rfl rfl) bX)) rfl rfl (dZ rfl (cR (xs:=[.tmp 18,.tmp 21]) U_23 Z_22 Tryz.zeroValue22 (cG (Ht rfl) (cG (Ht rfl) cK)) rfl rfl rfl)) (cQ (Ei:=[(22,_)]) rfl rfl (bQ (bZ 10 rfl rfl) bX) rfl rfl (dZ rfl (cJ Tryz.call86 (xL (m:=[[a1J,Qv],[Qv,a1J]]) (by decide) (by intro r hr; simp at hr; rcases hr with rfl | rfl <;> decide)) ⟨(Ht rfl),trivial⟩)) ?_)
 refine cQ (Ei:=[(15,_),(23,_)]) rfl rfl (bQ (bZ 3 rfl rfl) (bQ (bZ 11 rfl rfl) bX)) rfl rfl (dZ rfl (cJ Tryz.call85 (eX (Ib (z:=xI) (s:=Da) (L:=2) Od (by decide) (by decide) (by decide)) a2Z) ⟨(Ht rfl),(Ht rfl),trivial⟩)) (cQ (Ei:=[(24,_)]) rfl rfl (bQ (bZ 12 rfl rfl) bX) rfl rfl (dZ rfl (cZ (Ht rfl))) (cQ (Ei:=[(11,_)]) rfl rfl (bQ (bZ 13 rfl rfl) bX) rfl rfl (dZ rfl (dU (Ht rfl) rfl)) (cQ (Ei:=[(11,_)]) rfl rfl (bQ (bZ 13 rfl rfl) bX) rfl rfl (dZ rfl (dU (Ht rfl) rfl)) ?_)))
 refine Y.D_newp (Ei:=[]) (fun bb=>box bb 32 [aR xI,bB Da]) 17 rfl rfl rfl bX rfl rfl (by kernel_rfl) (eG (Ts:=[Is (.slice none 0 0),Is (.slice none 0 0)]) O_32 rfl (fun V=>aW zd (aW zd (aG)))) (Y.D_putN (Ei:=[(25,_)]) 16 rfl rfl rfl rfl rfl rfl (bQ (bZ 14 rfl rfl) bX) (fun bb=>lA Z_32 (Ht rfl) (Ht rfl) rfl (i:=0) rfl (aK rfl) rfl rfl) (Y.D_done bE rfl (by kernel_rfl) rfl (by simp [Y.okP]) rfl rfl (bU (bU (bU (bU (bU (bU (bU (bU (bU (bU (bU (bU (bU (bU (bU (bU (Y.F_newp (fun B2=>Y.F_putN (Y.F_nil ?_)))))))))))))))))))))
 refine ra rfl (eZ (cU (Y.D_start (m:=8) [] (cQ (Ei:=[(2,_)]) rfl rfl (bQ (bJ rfl rfl) bX) rfl rfl (dZ rfl (eW A_32 Z_32 (Ht rfl) (i:=1) rfl rfl rfl)) (cQ (Ei:=[]) rfl rfl bX rfl rfl (dZ rfl (cJ K_77 (oI (n:=290) (by decide) (by decide)) ⟨(cV 290),trivial⟩)) (cQ (Ei:=[(28,_),(29,_)]) rfl rfl (bQ (bZ 0 rfl rfl) (bQ (bZ 1 rfl rfl) bX)) rfl rfl (dZ rfl (cJ Tryz.call57 (eX (a2l (z:=xI) (s:=Da) (t:=Qi.ofInt 290) (L:=2) Od Uu Uv (by decide) (by decide) Uw (by decide) (by decide)) a30) ⟨(Ht rfl),(Ht rfl),trivial⟩)) ?_))))))
 refine cQ (Ei:=[(30,_)]) rfl rfl (bQ (bZ 2 rfl rfl) bX) rfl rfl (dZ rfl (cZ (Ht rfl))) (cQ (Ei:=[(27,_)]) rfl rfl (bQ (bZ 3 rfl rfl) bX) rfl rfl (dZ rfl (dU (Ht rfl) rfl)) (cQ (Ei:=[(27,_)]) rfl rfl (bQ (bZ 3 rfl rfl) bX) rfl rfl (dZ rfl (dU (Ht rfl) rfl)) (Y.D_newp (Ei:=[]) (fun bb=>box bb 34 [aR xI,bB Da,bB Dn]) 7 rfl rfl rfl bX rfl rfl (by kernel_rfl) (eG (Ts:=[Is (.slice none 0 0),Is (.slice none 0 0),Is (.slice none 0 0)]) O_34 rfl (fun V=>aW zd (aW zd (aW zd (aG))))) ?_)))
 refine Y.D_putN (Ei:=[(31,_)]) 6 rfl rfl rfl rfl rfl rfl (bQ (bZ 4 rfl rfl) bX) (fun bb=>lA Z_34 (Ht rfl) (Ht rfl) rfl (i:=0) rfl (aK rfl) rfl rfl) (Y.D_done bE rfl (by kernel_rfl) rfl (by simp [Y.okP]) rfl rfl (bU (bU (bU (bU (bU (bU (Y.F_newp (fun B4=>Y.F_putN (Y.F_nil ?_))))))))))
 refine ra rfl (eZ (ts (ro rfl (eW A_34 Z_34 (Ht rfl) (i:=2) rfl rfl rfl) (ro rfl (cJ Tryz.call87 (eX (a0s (z:=xI) (s:=Da) (c:=Dn) (i:=((2:Nat):Int)) (j:=((2:Nat):Int)) a2X (by rw [Oc.1]; decide)) a4P) ⟨(Ht rfl),(cV 2),(cV 2),trivial⟩) ?_))))
 refine rm rfl (ro rfl (dU (Ht rfl) rfl) (ro rfl (dU (Ht rfl) rfl) (rn rfl (eG (Ts:=[Is (.bool false),Is (.slice none 0 0),Is (.bool false),Is (.slice none 0 0),Is (.slice none 0 0)]) O_51 rfl (fun V=>aW zd (aW zd (aW zd (aW zd (aW zd (aG))))))) fun B6=>(gX Z_51 (Ht rfl) (Ht rfl) rfl (i:=3) rfl (aK rfl) rfl rfl (ra rfl (eZ (cU (Y.D_start (m:=9) [] (cQ (Ei:=[(4,_)]) rfl rfl (bQ (bJ rfl rfl) bX) rfl rfl (dZ rfl (eW A_34 Z_34 (Ht rfl) (i:=2) rfl rfl rfl)) ?_)))))))))
 refine cQ (Ei:=[]) rfl rfl bX rfl rfl (dZ rfl (cJ K_77 (oI (n:=0) (by decide) (by decide)) ⟨(cV 0),trivial⟩)) (cQ (Ei:=[]) rfl rfl bX rfl rfl (dZ rfl (cJ K_77 (oI (n:=290) (by decide) (by decide)) ⟨(cV 290),trivial⟩)) (cQ (Ei:=[(39,_),(40,_),(41,_)]) rfl rfl (bQ (bZ 0 rfl rfl) (bQ (bZ 1 rfl rfl) (bQ (bZ 2 rfl rfl) bX))) rfl rfl (dZ rfl (cJ Tryz.call88 (eX (Vf (z:=xI) (s:=Da) (c:=Dn) (g:=Qi.ofInt 0) (t0:=Qi.ofInt 290) (L:=1000) (Od.le (by decide)) (Uu.le (by decide)) a4R (a4Q.le (by decide)) (Uv.le (by decide)) (by decide) (by decide) Uw Oc (by decide)) a2Y) ⟨(Ht rfl),(Ht rfl),(Ht rfl),trivial⟩)) ?_))
 refine cQ (Ei:=[(42,_)]) rfl rfl (bQ (bZ 3 rfl rfl) bX) rfl rfl (dZ rfl (cZ (Ht rfl))) (cQ (Ei:=[(38,_)]) rfl rfl (bQ (bZ 4 rfl rfl) bX) rfl rfl (dZ rfl (dU (Ht rfl) rfl)) (cQ (Ei:=[(38,_)]) rfl rfl (bQ (bZ 4 rfl rfl) bX) rfl rfl (dZ rfl (dU (Ht rfl) rfl)) (Y.D_newp (Ei:=[]) (fun bb=>box bb 51 [aD (decide ((Qi.ofInt 4).a < 0)),aI (Qi.ofInt 4).a.natAbs,aD (decide ((Qi.ofInt 4).b < 0)),aI (Qi.ofInt 4).b.natAbs,aI (du (Qi.ofInt 4))]) 8 rfl rfl rfl bX rfl rfl (by kernel_rfl) (eG (Ts:=[Is (.bool false),Is (.slice none 0 0),Is (.bool false),Is (.slice none 0 0),Is (.slice none 0 0)]) O_51 rfl (fun V=>aW zd (aW zd (aW zd (aW zd (aW zd (aG))))))) ?_)))
 refine Y.D_putN (Ei:=[(43,_)]) 7 rfl rfl rfl rfl rfl rfl (bQ (bZ 5 rfl rfl) bX) (fun bb=>lA Z_51 (Ht rfl) (Ht rfl) rfl (i:=0) rfl (aK rfl) rfl rfl) (Y.D_done bE rfl (by kernel_rfl) rfl (by simp [Y.okP]) rfl rfl (bU (bU (bU (bU (bU (bU (bU (Y.F_newp (fun B8=>Y.F_putN (Y.F_nil ?_)))))))))))
 refine ra rfl (eZ (ts (rm rfl (ro rfl (jH (Ht rfl) cW) (rm rfl (fX rfl rfl (eU rfl rfl (Ht rfl) (fun h=>cZ (Ht rfl))) (fX rfl rfl (eU rfl rfl (Ht rfl) (fun h=>jH (fV rfl h) cW)) (ro rfl (fM (Ht rfl) (fun h=>(fV rfl h))) (rm rfl (fX rfl rfl (eU rfl rfl (Ht rfl) (fun h=>cZ (Ht rfl))) (fX rfl rfl (eU rfl rfl (Ht rfl) (fun h=>jH (fV rfl h) cW)) (ro rfl (fM (Ht rfl) (fun h=>(fV rfl h))) (rm rfl (fX rfl rfl (eU rfl rfl (Ht rfl) (fun h=>cZ (Ht rfl))) (fX rfl rfl (eU rfl rfl (Ht rfl) (fun h=>jH (fV rfl h) cW)) ?_)))))))))))))))
 refine ro rfl (fM (Ht rfl) (fun h=>(fV rfl h))) (rm rfl (fX rfl rfl (eU rfl rfl (Ht rfl) (fun h=>eW A_51 Z_51 (Ht rfl) (i:=3) rfl rfl rfl)) (fX rfl rfl (eU rfl rfl (Ht rfl) (fun h=>cJ Tryz.call89 (Vj (x:=Qi.ofInt 10875) (L:=2) (hx:=(@fitInt 10875).le (by decide)) (by decide)) ⟨(fV rfl h),trivial⟩)) (fX rfl rfl (eU rfl rfl (Ht rfl) (fun h=>Yi (fV rfl h) (bM.cS (l:=[49,48,56,55,53]) rfl))) (ro rfl (fM (Ht rfl) (fun h=>(fV rfl h))) (rm rfl (fX rfl rfl (eU rfl rfl (Ht rfl) (fun h=>eW A_51 Z_51 (Ht rfl) (i:=4) rfl rfl rfl)) ?_)))))))
 refine fX rfl rfl (eU rfl rfl (Ht rfl) (fun h=>cJ Tryz.call89 (Vj (x:=Qi.ofInt 4) (L:=2) (hx:=(@fitInt 4).le (by decide)) (by decide)) ⟨(fV rfl h),trivial⟩)) (fX rfl rfl (eU rfl rfl (Ht rfl) (fun h=>Yi (fV rfl h) (bM.cS (l:=[52]) rfl))) (ro rfl (fM (Ht rfl) (fun h=>(fV rfl h))) (ra rfl (eZ (fG rfl (fZ (eY rfl) ?_))))))
 exact (dH (by rw [a4S,a4T]; rfl))
end
section
open Go Go.RowKit
theorem Vx:bH Tryz.prog 97 [NT .i64 ([]:List Qi).length,NT .i64 ([]:List Qi).length] (bB []):=(Ax (n:=0) (by decide)).fun fun B _ v S V h1 h2=>iB (s:=5) (M:=[]) rfl v S V h1 h2
theorem a3a {c:List (List Qi)}:bH Tryz.prog 99 [bB [],bB c] (bB []):=by
 refine bH.intro Tryz.func99 rfl Tryz.ntmps99 rfl (fun cx=>(ts (ro rfl (cX cW) (eZ (cU (ts (rm rfl (ro rfl (dK U_30 (Ht rfl) aA) (ro rfl (dO (Ht rfl) (cV 0)) (eZ (Ff (Ht rfl) (by rfl) ?_)))))))))))
 refine ts (ro rfl (cX cW) (eZ (fG rfl (fZ (eY rfl) ?_))))
 exact (fun v V h=>iM _ _ h)
theorem Vv  : bH Tryz.prog 160 [gT [] []] (bB []):=by
 refine bH.intro Tryz.func160 rfl Tryz.ntmps160 rfl (fun cx=>(ts (rn rfl (fK (Ht rfl)) fun B1=>(ro rfl (cX cW) (eZ (cU (fJ (m:=3) (dp 1 rfl (eW A_32 Z_32 (Ht rfl) (i:=0) rfl rfl rfl) (dq 10 0 rfl (cJ K_22 oK ⟨(Ht rfl),trivial⟩) (dp 1 rfl (eW A_32 Z_32 (Ht rfl) (i:=0) rfl rfl rfl) (fW bE rfl (by kernel_rfl) (aJ (aJ (aJ (aV (ro rfl (cJ K_22 oK ⟨(Ht rfl),trivial⟩) (ro rfl (cJ Tryz.call97 Vx ⟨(Ht rfl),(Ht rfl),trivial⟩) (ra rfl ?_))))))))))))))))))
 refine eZ (cU (ts (ro rfl (eW A_32 Z_32 (Ht rfl) (i:=0) rfl rfl rfl) (ro rfl (cJ Tryz.call142 (Mi (z:=[]) (s:=[]) (by decide)) ⟨(Ht rfl),trivial⟩) (ro rfl (dK U_29 (Ht rfl) aA) (ro rfl (cZ (cV 0)) (eZ (eK ?_))))))))
 refine cF (fun (i : Nat) => i ≤ 0) (fun (i : Nat) => 0 - i) (fun (i : Nat) => [(1, bT B1 0), (3, bB []), (17, NT .i64 0), (18, NT .i64 i)]) (fun (i : Nat) => [box B1 32 [aR [], bB []]]) 0 (Nat.zero_le _)
  (zS rfl) (dM.refl _) (fun i hi=>?_)
 refine ts (ro rfl (gZ (Ht rfl) (Ht rfl)) (eZ (cU (dX (Ht rfl) (fun hd=>?_) (fun hd=>?_)))))
 ·simp only [decide_eq_true_eq] at hd
  omega
 ·refine gW rfl (ts (ro rfl (eW A_32 Z_32 (Ht rfl) (i := 0) rfl rfl rfl) (ro rfl (cJ Tryz.call93 (Ft (z := []) (s := []) ⟨rfl, fun r hr => by cases hr⟩ (by decide)) ⟨(Ht rfl), trivial⟩) (rm rfl (ro rfl (cJ Tryz.call99 (a3a (c := [])) ⟨(Ht rfl), (Ht rfl), trivial⟩) (ra rfl (eZ (cU (ts (rm rfl (ro rfl (dK U_30 (Ht rfl) aA) (ro rfl (cZ (cV 0)) (eZ (eK ?_))))))))))))))
  refine cF (fun (i : Nat) => i ≤ 0) (fun (i : Nat) => 0 - i) (fun (i : Nat) => [(1, bT B1 0), (3, bB []), (37, NT .i64 0), (38, NT .i64 i)]) (fun (i : Nat) => [box B1 32 [aR [], bB []]]) 0 (Nat.zero_le _)
   (zS rfl) (dM.refl _) (fun i hi=>?_)
  refine ts (ro rfl (gZ (Ht rfl) (Ht rfl)) (eZ (cU (dX (Ht rfl) (fun hd=>?_) (fun hd=>?_)))))
  ·simp only [decide_eq_true_eq] at hd
   omega
  ·refine gW rfl (ts (rm rfl (ra rfl (eZ ?_))))
   exact fG rfl (eY rfl)
theorem a36 {t:Qi} {L:Nat} (ht:aE t L) (hL:L ≤ 10000000):bH Tryz.prog 57 [gT [] [],aH t] (fI [fD [] [] [],aO .i64 (jJ t)]):=by
 haveI:=ht
 refine bH.intro Tryz.func57 rfl Tryz.ntmps57 rfl (fun cx=>(ts (rn rfl (fK (Ht rfl)) fun B2=>(rn rfl (fK (Ht rfl)) fun B3=>(rn rfl (eG (Ts:=[Is (.slice none 0 0),Is (.slice none 0 0),Is (.slice none 0 0)]) O_34 rfl (fun V=>aW zd (aW zd (aW zd (aG))))) fun B4=>(ro rfl (cX (cV 0)) (eZ (cU (ts (ro rfl (eW A_51 Z_51 (Ht rfl) (i:=1) rfl rfl rfl) (ro rfl (cJ Tryz.call159 (Mj zo) ⟨(Ht rfl),trivial⟩) (ro rfl (eN (Ht rfl)) ?_))))))))))))
 refine eZ (dX (Ht rfl) (fun hb=>?_) (fun hb=>?_))
 ·have he : jJ t ≠ 0 := by simp only [Bool.not_eq_true'] at hb; rw [jJ, hb]; decide
  have he1:jJ t = 1:=by simp only [Bool.not_eq_true'] at hb; rw [jJ,hb]; rfl
  refine ts (ro rfl (aM.imp (rH ) mY) (gX Z_34 (Ht rfl) (Ht rfl) rfl (i:=2) rfl (aK rfl) rfl rfl (ro rfl (cX (cV 1)) (eZ (bN rfl (fU A_34 Z_34 rfl (i:=2) rfl rfl) (fZ (eY rfl) ?_))))))
  exact (aS he1.symm)
 ·have he : jJ t = 0 := by simp only [Bool.not_eq_false'] at hb; rw [jJ, hb]; rfl
  refine cY (ts (ro rfl (eW A_32 Z_32 (Ht rfl) (i:=0) rfl rfl rfl) (ro rfl (cJ Tryz.call160 Vv ⟨(Ht rfl),trivial⟩) (ra rfl (eZ (cU (ts (rm rfl (ro rfl (dK U_30 (Ht rfl) aA) (ro rfl (cZ (cV 0)) (eZ (eK ?_))))))))))))
  refine cF (fun (i : Nat) => i ≤ 0) (fun (i : Nat) => 0 - i) (fun (i : Nat) => [(2, bT B2 0), (3, bT B3 0), (4, bT B4 0), (6, bB []), (17, NT .i64 0), (18, NT .i64 i)]) (fun (i : Nat) => [box B2 32 [aR [], bB []], box B3 51 [aD (decide (t.a < 0)), aI t.a.natAbs, aD (decide (t.b < 0)), aI t.b.natAbs, aI (du t)], box B4 34 [Is (.slice none 0 0), Is (.slice none 0 0), Is (.slice none 0 0)]]) 0 (Nat.zero_le _)
   (zS rfl) (dM.refl _) (fun i hi=>?_)
  refine ts (ro rfl (gZ (Ht rfl) (Ht rfl)) (eZ (cU (dX (Ht rfl) (fun hd=>?_) (fun hd=>?_)))))
  ·simp only [decide_eq_true_eq] at hd
   omega
  ·refine gW rfl (ts (ro rfl (eW A_32 Z_32 (Ht rfl) (i := 0) rfl rfl rfl) (rm rfl (ro rfl (mS (Ht rfl) (Ht rfl)) (gX Z_34 (Ht rfl) (Ht rfl) rfl (i := 2) rfl (aK rfl) rfl rfl (ro rfl (cX (cV 0)) (eZ (bN rfl (fU A_34 Z_34 rfl (i := 2) rfl rfl) (fZ (eY rfl) ?_)))))))))
   exact (aS he.symm)
end
section
open Go Go.RowKit
theorem Gn {α:Type} (e:Int):dA e ([]:List α) = []:=by unfold dA; split <;> rfl
theorem Cj {t : Qi} {c : List (List Qi)} {n L M : Nat} (ht : aE t L) (hc : bC c M) (hM : 1 ≤ M) : bC (jA t c n) (L + M + 1) := bC.tab fun i j _ _ => by
 haveI:=ht; haveI:=hc.get hM i j
 infer_instance
theorem Vg {z:List Qi} {s:List (List Qi)} {t:Qi} {L:Nat} (hz:bP z L) (hs:bC s L) (ht:aE t L) (hL1:1 ≤ L) (hL:L ≤ 10000000) (hsh:cM s z.length z.length) (hl:z.length ≤ 8):bH Tryz.prog 57 [gT z s,aH t] (fI [fD (dA (jJ t) z) (dA (jJ t) s) (dA (jJ t) (jA t (gG z s) z.length)),aO .i64 (jJ t)]):=by
 cases z with
 | nil =>
  have e:s = []:=List.length_eq_zero_iff.1 hsh.1
  subst e
  rw [Gn,Gn,show jA t (gG [] []) ([]:List Qi).length = [] from rfl,Gn]
  exact a36 ht hL
 | cons x z=>exact a2l hz hs ht hL1 hL hsh (by simp) hl
end
section
open Go Go.RowKit
theorem uP (n m:Nat):cM (qA n m) n m:=cM.tab
theorem Qi.zero_div (y:Qi):Qi.zero / y = Qi.zero:=by rw [Qi.div_def,Qi.zero_mul']
theorem a4a {x:Qi} (h:fB x = true):x.im = 0 ∧ x.re ≠ 0:=by
 simp only [fB,decide_eq_true_eq] at h
 exact ⟨Qi.b_zero.1 h.1,fun e=>by have:=Qi.a_zero.2 e; omega⟩
end
section
open Go Go.RowKit
theorem a0z {n:Nat} (hn:n ≤ 1000):bH Tryz.prog 97 [NT .i64 n,NT .i64 n] (bB (qA n n)):=(Ax hn).fun fun B _ v S V h1 h2=>iB (s:=5) (M:=qA n n) (uP n n).1.symm v S V h1 h2
theorem a0k {z:List Qi} {s:List (List Qi)} (hl:z.length ≤ 1000):bH Tryz.prog 60 [gT z s] (fD z s (qA z.length z.length)):=by
 refine bH.intro Tryz.func60 rfl Tryz.ntmps60 rfl (fun cx=>(ts (rn rfl (fK (Ht rfl)) fun B1=>(rn rfl (eG (Ts:=[Is (.slice none 0 0),Is (.slice none 0 0),Is (.slice none 0 0)]) O_34 rfl (fun V=>aW zd (aW zd (aW zd (aG))))) fun B2=>(eZ (cU (fJ (m:=6) (dp 1 rfl (eW A_32 Z_32 (Ht rfl) (i:=0) rfl rfl rfl) (dp 1 rfl (eW A_32 Z_32 (Ht rfl) (i:=0) rfl rfl rfl) (dq 4 1 rfl (cJ K_22 oK ⟨(Ht rfl),trivial⟩) (dp 1 rfl (eW A_32 Z_32 (Ht rfl) (i:=0) rfl rfl rfl) ?_)))))))))))
 refine dq 6 3 rfl (cJ K_22 oK ⟨(Ht rfl),trivial⟩) (dR 5 2 7 4 rfl (cJ Tryz.call97 (a0z hl) ⟨(Ht rfl),(Ht rfl),trivial⟩) (fW bE rfl (by kernel_rfl) (zF (aJ (aJ (aV (ro rfl (mS (Ht rfl) (Ht rfl)) (gX Z_34 (Ht rfl) (Ht rfl) rfl (i:=1) rfl (aK rfl) rfl rfl (eZ ?_)))))))))
 exact fG rfl (fU A_34 Z_34 rfl (i:=1) rfl rfl)
end
section
open Go Go.RowKit
theorem Gc {α:Type} {l:List α} {d:α} {k:Nat} (h:k < l.length):l.getD k d = l[k]:=by simp [List.getD,h]
theorem a59 {l m:List Qi} (h:l.length = m.length) (k:∀ i,i < l.length → gv l i = gv m i):l = m:=by
 apply List.ext_getElem h
 intro i h1 h2
 have:=k i h1
 simpa [gv,List.getD,h1,h2] using this
theorem a0N {l m:List (List Qi)} (h:l.length = m.length) (k:∀ i,i < l.length → l.getD i [] = m.getD i []):l = m:=by
 apply List.ext_getElem h
 intro i h1 h2
 have:=k i h1
 simpa [List.getD,h1,h2] using this
theorem a5h {l m:List Qi} {i:Nat} (h:gv l i ≠ gv m i):l ≠ m:=fun e=>h (by rw [e])
theorem a1h {l m:List (List Qi)} {i:Nat} (h:l.getD i [] ≠ m.getD i []):l ≠ m:=fun e=>h (by rw [e])
def Qb (z z':List Qi) (s s':List (List Qi)):Bool:=decide (z = z') && decide (s = s')
theorem Bw (z:List Qi) (s:List (List Qi)):Qb z z s s = true:=by simp [Qb]
end
section
open Go Go.RowKit
theorem wR (v : Value) (w : World) : (method (Tryz.prog.types.size + Made.depth) 51 v "Same").run Tryz.prog w = .ok (139, v) w := by kernel_rfl
end
section
open Go Go.RowKit
theorem Fm {l m:List Qi} {L:Nat} (hl:bP l L) (hm:bP m L) (hL:1 ≤ L) (h1:l.length ≤ 1000) (h2:m.length ≤ 1000):bH Tryz.prog 155 [aR l,aR m,Dk Tryz.prog {x:Qi × Qi // aE x.1 L ∧ aE x.2 L} (fun x=>[aH x.1.1,aH x.1.2]) (fun x=>aD (decide (x.1.1 = x.1.2)))] (aD (decide (l = m))):=by
 refine bH.intro Tryz.func155 rfl Tryz.ntmps155 rfl (fun cx=>(ts (ro rfl (cX cW) (eZ (cU (ts (rm rfl (ro rfl (dK U_29 (Ht rfl) aA) (rm rfl (ro rfl (dK U_29 (Ht rfl) aA) (ro rfl (gB (Ht rfl) (Ht rfl)) (eZ (dX (Ht rfl) (fun hb=>?_) (fun hb=>?_))))))))))))))
 ·have hn : ¬ l = m := fun e => by rw [e] at hb; simp at hb
  refine ts (ro rfl (cX cW) (eZ (fG rfl (fZ (eY rfl) ?_))))
  exact (dH (decide_eq_false hn).symm)
 ·have he : l.length = m.length := by simpa using hb
  refine cY (cU (ts (rm rfl (ro rfl (dK U_29 (Ht rfl) aA) (ro rfl (cZ (cV 0)) (eZ (eK ?_)))))))
  refine cF (fun (k : Nat) => k ≤ l.length ∧ ∀ i, i < k → gv l i = gv m i) (fun (k : Nat) => l.length - k) (fun (k : Nat) => [(0, aR l), (1, aR m), (2, Dk Tryz.prog {x : Qi × Qi // aE x.1 L ∧ aE x.2 L} (fun x => [aH x.1.1, aH x.1.2]) (fun x => aD (decide (x.1.1 = x.1.2)))), (15, aR l), (16, NT .i64 l.length), (17, NT .i64 k)]) (fun (k : Nat) => []) 0 ⟨Nat.zero_le _, fun i h => by omega⟩
   (zS rfl) aY (fun k ⟨hk,hr⟩=>?_)
  refine ts (ro rfl (gZ (Ht rfl) (Ht rfl)) (eZ (cU (dX (Ht rfl) (fun hc=>?_) (fun hc=>?_)))))
  ·simp only [decide_eq_true_eq] at hc
   refine cY (cU (eK (ts (rm rfl (ro rfl (dJ U_29 Z_51 (Ht rfl) (Ht rfl) rfl (eQ (dY (d:=Qi.zero) zo))) (ro rfl (dV A_51 Z_51 (Ht rfl)) (rn rfl (eG (Ts:=[Is (.bool false),Is (.slice none 0 0),Is (.bool false),Is (.slice none 0 0),Is (.slice none 0 0)]) O_51 rfl (fun V=>aW zd (aW zd (aW zd (aW zd (aW zd (aG))))))) fun B8=>(ra rfl (gX Z_51 (Ht rfl) (Ht rfl) rfl (i:=0) rfl (aK rfl) rfl rfl ?_)))))))))
   refine eZ (ts (rm rfl (rm rfl (ro rfl (dJ U_29 Z_51 (Ht rfl) (Ht rfl) rfl (eQ (dY (d:=Qi.zero) zo))) (ro rfl (dV A_51 Z_51 (Ht rfl)) (rn rfl (eG (Ts:=[Is (.bool false),Is (.slice none 0 0),Is (.bool false),Is (.slice none 0 0),Is (.slice none 0 0)]) O_51 rfl (fun V=>aW zd (aW zd (aW zd (aW zd (aW zd (aG))))))) fun B9=>(gX Z_51 (Ht rfl) (Ht rfl) rfl (i:=1) rfl (aK rfl) rfl rfl ?_)))))))
   refine eZ (ts (rm rfl (ro rfl (eW A_51 Z_51 (Ht rfl) (i:=0) rfl rfl rfl) (ro rfl (eW A_51 Z_51 (Ht rfl) (i:=1) rfl rfl rfl) (ro rfl (pF (⟨(gv l k,gv m k),hl.get hL k,hm.get hL k⟩:{x:Qi × Qi // aE x.1 L ∧ aE x.2 L}) (Ht rfl) ⟨(Ht rfl),(Ht rfl),trivial⟩) (ro rfl (eN (Ht rfl)) (eZ (dX (Ht rfl) (fun hd=>?_) (fun hd=>?_)))))))))
   ·have hn : ¬ l = m := a5h (i := k) (by simpa using hd)
    refine ts (ro rfl (cX cW) (eZ (fG rfl (fZ (eY rfl) ?_))))
    exact (dH (decide_eq_false hn).symm)
   ·have hq : gv l k = gv m k := by simpa using hd
    refine cY (bO (dQ (ro rfl (dW (Ht rfl) (cV 1) z6) (rm rfl (eZ (cD [] rfl (by decide) ?_))))))
    refine fY (k + 1) ⟨hc, fun i h => by
     by_cases e:i = k
     ·rw [e]; exact hq
     ·exact hr i zo⟩ zo (zS rfl) aY
  ·simp only [decide_eq_false_iff_not] at hc
   refine gW rfl (ts (ro rfl (cX cW) (eZ (fG rfl (fZ (eY rfl) ?_)))))
   exact (dH (decide_eq_true (a59 he (fun i h=>hr i zo))).symm)
theorem Om {l m:List (List Qi)} {L:Nat} (hl:bC l L) (hm:bC m L) (h3:∀ r,r ∈ l → r.length ≤ 1000) (h4:∀ r,r ∈ m → r.length ≤ 1000) (h1:l.length ≤ 1000) (h2:m.length ≤ 1000):bH Tryz.prog 153 [bB l,bB m,Dk Tryz.prog {x:List Qi × List Qi // (bP x.1 L ∧ x.1.length ≤ 1000) ∧ bP x.2 L ∧ x.2.length ≤ 1000} (fun x=>[aR x.1.1,aR x.1.2]) (fun x=>aD (decide (x.1.1 = x.1.2)))] (aD (decide (l = m))):=by
 refine bH.intro Tryz.func153 rfl Tryz.ntmps153 rfl (fun cx=>(ts (ro rfl (cX cW) (eZ (cU (ts (rm rfl (ro rfl (dK U_30 (Ht rfl) aA) (rm rfl (ro rfl (dK U_30 (Ht rfl) aA) (ro rfl (gB (Ht rfl) (Ht rfl)) (eZ (dX (Ht rfl) (fun hb=>?_) (fun hb=>?_))))))))))))))
 ·have hn : ¬ l = m := fun e => by rw [e] at hb; simp at hb
  refine ts (ro rfl (cX cW) (eZ (fG rfl (fZ (eY rfl) ?_))))
  exact (dH (decide_eq_false hn).symm)
 ·have he : l.length = m.length := by simpa using hb
  refine cY (cU (ts (rm rfl (ro rfl (dK U_30 (Ht rfl) aA) (ro rfl (cZ (cV 0)) (eZ (eK ?_)))))))
  refine cF (fun (k : Nat) => k ≤ l.length ∧ ∀ i, i < k → l.getD i [] = m.getD i []) (fun (k : Nat) => l.length - k) (fun (k : Nat) => [(0, bB l), (1, bB m), (2, Dk Tryz.prog {x : List Qi × List Qi // (bP x.1 L ∧ x.1.length ≤ 1000) ∧ bP x.2 L ∧ x.2.length ≤ 1000} (fun x => [aR x.1.1, aR x.1.2]) (fun x => aD (decide (x.1.1 = x.1.2)))), (15, bB l), (16, NT .i64 l.length), (17, NT .i64 k)]) (fun (k : Nat) => []) 0 ⟨Nat.zero_le _, fun i h => by omega⟩
   (zS rfl) aY (fun k ⟨hk,hr⟩=>?_)
  refine ts (ro rfl (gZ (Ht rfl) (Ht rfl)) (eZ (cU (dX (Ht rfl) (fun hc=>?_) (fun hc=>?_)))))
  ·simp only [decide_eq_true_eq] at hc
   refine cY (cU (eK (ts (rm rfl (ro rfl (dJ U_30 Z_29 (Ht rfl) (Ht rfl) rfl (eQ (dY (d:=[]) hc))) (ro rfl (dV A_29 Z_29 (Ht rfl)) (ra rfl (ra rfl (eZ (ts (rm rfl (rm rfl (ro rfl (dJ U_30 Z_29 (Ht rfl) (Ht rfl) rfl (eQ (dY (d:=[]) zo))) (ro rfl (dV A_29 Z_29 (Ht rfl)) (ra rfl (eZ (ts (rm rfl (rm rfl (rm rfl (ro rfl (pF (⟨(l.getD k [],m.getD k []),⟨hl.row k,by rw [Gc hc]; exact h3 _ (List.getElem_mem hc)⟩,hm.row k,by rw [Gc (by omega:k < m.length)]; exact h4 _ (List.getElem_mem _)⟩:{x:List Qi × List Qi // (bP x.1 L ∧ x.1.length ≤ 1000) ∧ bP x.2 L ∧ x.2.length ≤ 1000}) (Ht rfl) ⟨(Ht rfl),(Ht rfl),trivial⟩) ?_)))))))))))))))))))))
   refine ro rfl (eN (Ht rfl)) (eZ (dX (Ht rfl) (fun hd=>?_) (fun hd=>?_)))
   ·have hn : ¬ l = m := a1h (i := k) (by simpa using hd)
    refine ts (ro rfl (cX cW) (eZ (fG rfl (fZ (eY rfl) ?_))))
    exact (dH (decide_eq_false hn).symm)
   ·have hq : l.getD k [] = m.getD k [] := by simpa using hd
    refine cY (bO (dQ (ro rfl (dW (Ht rfl) (cV 1) z6) (rm rfl (eZ ?_)))))
    refine fY (k + 1) ⟨hc, fun i h => by
     by_cases e:i = k
     ·rw [e]; exact hq
     ·exact hr i zo⟩ zo (zS rfl) aY
  ·simp only [decide_eq_false_iff_not] at hc
   refine gW rfl (ts (ro rfl (cX cW) (eZ (fG rfl (fZ (eY rfl) ?_)))))
   exact (dH (decide_eq_true (a0N he (fun i h=>hr i zo))).symm)
theorem Vm {x y:Qi} {L:Nat} [hx:aE x L] [hy:aE y L] (h:L ≤ 8796093022208):bH Tryz.prog 203 [aH x,aH y] (aD (decide (x = y))):=by
 refine bH.intro Tryz.func203 rfl Tryz.ntmps203 rfl (fun cx=>(ts (rn rfl (fK (Ht rfl)) fun B2=>(rn rfl (fK (Ht rfl)) fun B3=>(ro rfl (cX cW) (eZ (ts (ro rfl (eW A_51 Z_51 (Ht rfl) (i:=0) rfl rfl rfl) (ro rfl (aT bL (Ht rfl)) (ro rfl (eW A_51 Z_51 (Ht rfl) (i:=1) rfl rfl rfl) (ro rfl (aL wR Tryz.call139 (Ma zo zo) (Ht rfl) ⟨(Ht rfl),trivial⟩) (ra rfl (eZ ?_)))))))))))))
 exact fG rfl (eY rfl)
theorem Vn {l m:List Qi} {L:Nat} (hl:bP l L) (hm:bP m L) (hL:1 ≤ L) (h1:l.length ≤ 1000) (h2:m.length ≤ 1000):bH Tryz.prog 204 [aR l,aR m,PT (Dk Tryz.prog {x:Qi × Qi // aE x.1 L ∧ aE x.2 L} (fun x=>[aH x.1.1,aH x.1.2]) (fun x=>aD (decide (x.1.1 = x.1.2))))] (aD (decide (l = m))):=by
 refine bH.intro Tryz.func204 rfl Tryz.ntmps204 rfl (fun cx=>(ts (ro rfl (cX cW) (eZ (ts (rm rfl (rm rfl (ro rfl (dV Tryz.isAgg205 Tryz.sizeOf205 (Ht rfl)) (ro rfl (cJ Tryz.call155 (Fm hl hm hL h1 h2) ⟨(Ht rfl),(Ht rfl),(Ht rfl),trivial⟩) (ra rfl (eZ ?_)))))))))))
 exact fG rfl (eY rfl)
theorem Vo {x y:Qi} {L:Nat} [hx:aE x L] [hy:aE y L] (h:L ≤ 8796093022208):bH Tryz.prog 152 [aH x,aH y] (aD (decide (x = y))):=by
 refine bH.intro Tryz.func152 rfl Tryz.ntmps152 rfl (fun cx=>(ts (rn rfl (fK (Ht rfl)) fun B2=>(rn rfl (fK (Ht rfl)) fun B3=>(ro rfl (cX cW) (eZ (ts (ro rfl (eW A_51 Z_51 (Ht rfl) (i:=0) rfl rfl rfl) (ro rfl (aT bL (Ht rfl)) (ro rfl (eW A_51 Z_51 (Ht rfl) (i:=1) rfl rfl rfl) (ro rfl (aL wR Tryz.call139 (Ma zo zo) (Ht rfl) ⟨(Ht rfl),trivial⟩) (ra rfl (eZ ?_)))))))))))))
 exact fG rfl (eY rfl)
theorem Vp {l m:List Qi} {L:Nat} (hl:bP l L) (hm:bP m L) (hL:1 ≤ L) (h1:l.length ≤ 1000) (h2:m.length ≤ 1000):bH Tryz.prog 154 [aR l,aR m,PT (Dk Tryz.prog {x:Qi × Qi // aE x.1 L ∧ aE x.2 L} (fun x=>[aH x.1.1,aH x.1.2]) (fun x=>aD (decide (x.1.1 = x.1.2))))] (aD (decide (l = m))):=by
 refine bH.intro Tryz.func154 rfl Tryz.ntmps154 rfl (fun cx=>(ts (ro rfl (cX cW) (eZ (ts (rm rfl (rm rfl (ro rfl (dV Tryz.isAgg205 Tryz.sizeOf205 (Ht rfl)) (ro rfl (cJ Tryz.call155 (Fm hl hm hL h1 h2) ⟨(Ht rfl),(Ht rfl),(Ht rfl),trivial⟩) (ra rfl (eZ ?_)))))))))))
 exact fG rfl (eY rfl)
theorem Me {z z':List Qi} {s s':List (List Qi)} {L:Nat} (hz:bP z L) (hz2:bP z' L) (hs:bC s L) (hs2:bC s' L) (hL:1 ≤ L) (h:L ≤ 8796093022208) (hsh:cM s z.length z.length) (hsh2:cM s' z'.length z'.length) (hl:z.length ≤ 1000) (hl2:z'.length ≤ 1000):bH Tryz.prog 113 [gT z s,gT z' s'] (aD (Qb z z' s s')):=by
 have e1:∀ r,r ∈ s → r.length ≤ 1000:=fun r hr=>by rw [hsh.2 r hr]; exact hl
 have e2:∀ r,r ∈ s' → r.length ≤ 1000:=fun r hr=>by rw [hsh2.2 r hr]; exact hl2
 have e3:s.length ≤ 1000:=by rw [hsh.1]; exact hl
 have e4:s'.length ≤ 1000:=by rw [hsh2.1]; exact hl2
 refine bH.intro Tryz.func113 rfl Tryz.ntmps113 rfl (fun cx=>(ts (rn rfl (fK (Ht rfl)) fun B2=>(rn rfl (fK (Ht rfl)) fun B3=>(ro rfl (cX cW) (eZ (ts (rn rfl (eG (Ts:=[Is (.nilFunc)]) Tryz.zeroValue205 rfl (fun V=>aW zd (aG))) fun B5=>(lO Tryz.sizeOf205 (Ht rfl) (bM.fn Tryz.call203 (γ:={x:Qi × Qi // aE x.1 L ∧ aE x.2 L}) (Ts:=fun x=>[aH x.1.1,aH x.1.2]) (U:=fun x=>aD (decide (x.1.1 = x.1.2))) (fun x=>haveI:=x.2.1; haveI:=x.2.2; Vm (L:=L) h)) (i:=2) rfl (aK rfl) rfl ?_)))))))))
 refine eZ (cU (gV (i:=2) (tt:=5) rfl rfl mF (dQ (ro rfl (oN (γ:={x:List Qi × List Qi // (bP x.1 L ∧ x.1.length ≤ 1000) ∧ bP x.2 L ∧ x.2.length ≤ 1000}) (Ts:=fun x=>[aR x.1.1,aR x.1.2]) (U:=fun x=>aD (decide (x.1.1 = x.1.2))) Tryz.call204 (fun x=>Vn x.2.1.1 x.2.2.1 hL x.2.1.2 x.2.2.2) ⟨(Ht rfl),trivial⟩) (ra rfl (eZ (ts (ro rfl (eJ kF (Ht rfl) rfl) (ro rfl (fQ A_29 Z_29 (Ht rfl) (i:=0) rfl rfl) (ro rfl (eJ kF (Ht rfl) rfl) (ro rfl (fQ A_29 Z_29 (Ht rfl) (i:=1) rfl rfl) ?_)))))))))))
 refine ro rfl (cJ Tryz.call155 (Fm hz hz2 hL hl hl2) ⟨(Ht rfl),(Ht rfl),(bM.fn Tryz.call139 (γ:={x:Qi × Qi // aE x.1 L ∧ aE x.2 L}) (Ts:=fun x=>[aH x.1.1,aH x.1.2]) (U:=fun x=>aD (decide (x.1.1 = x.1.2))) (fun x=>haveI:=x.2.1; haveI:=x.2.2; Ma (L:=L) (M:=L) zo zo)),trivial⟩) (rm rfl (fX rfl rfl (eU rfl rfl (Ht rfl) (fun h=>eJ kP (Ht rfl) rfl)) (fX rfl rfl (eU rfl rfl (Ht rfl) (fun h=>fQ A_30 Z_30 (fV rfl h) (i:=0) rfl rfl)) (fX rfl rfl (eU rfl rfl (Ht rfl) (fun h=>eJ kP (Ht rfl) rfl)) ?_))))
 refine fX rfl rfl (eU rfl rfl (Ht rfl) (fun h=>fQ A_30 Z_30 (fV rfl h) (i:=1) rfl rfl)) (fX rfl rfl (eU rfl rfl (Ht rfl) (fun h=>cZ (Ht rfl))) (fX rfl rfl (eU rfl rfl (Ht rfl) (fun h=>cJ Tryz.call153 (Om hs hs2 e1 e2 e3 e4) ⟨(fV rfl h),(fV rfl h),(fV rfl h),trivial⟩)) (ro rfl (fM (Ht rfl) (fun h=>(fV rfl h))) (ra rfl (eZ (fG rfl (fZ (eY rfl) ?_)))))))
 exact (dH rfl)
theorem Au {z z':List Qi} {s s' c c':List (List Qi)} {L:Nat} (hz:bP z L) (hz2:bP z' L) (hs:bC s L) (hs2:bC s' L) (hL:1 ≤ L) (h:L ≤ 8796093022208) (hsh:cM s z.length z.length) (hsh2:cM s' z'.length z'.length) (hl:z.length ≤ 1000) (hl2:z'.length ≤ 1000) (hc:bC c L) (hc2:bC c' L) (hch:cM c z.length z.length) (hch2:cM c' z'.length z'.length):bH Tryz.prog 52 [fD z s c,fD z' s' c'] (aD (Qb z z' s s' && decide (c = c'))):=by
 have e1:∀ r,r ∈ c → r.length ≤ 1000:=fun r hr=>by rw [hch.2 r hr]; exact hl
 have e2:∀ r,r ∈ c' → r.length ≤ 1000:=fun r hr=>by rw [hch2.2 r hr]; exact hl2
 have e3:c.length ≤ 1000:=by rw [hch.1]; exact hl
 have e4:c'.length ≤ 1000:=by rw [hch2.1]; exact hl2
 refine bH.intro Tryz.func52 rfl Tryz.ntmps52 rfl (fun cx=>(ts (rn rfl (fK (Ht rfl)) fun B2=>(rn rfl (fK (Ht rfl)) fun B3=>(ro rfl (cX cW) (eZ (ts (rn rfl (eG (Ts:=[Is (.nilFunc)]) Tryz.zeroValue205 rfl (fun V=>aW zd (aG))) fun B5=>(lO Tryz.sizeOf205 (Ht rfl) (bM.fn Tryz.call152 (γ:={x:Qi × Qi // aE x.1 L ∧ aE x.2 L}) (Ts:=fun x=>[aH x.1.1,aH x.1.2]) (U:=fun x=>aD (decide (x.1.1 = x.1.2))) (fun x=>haveI:=x.2.1; haveI:=x.2.2; Vo (L:=L) h)) (i:=2) rfl (aK rfl) rfl ?_)))))))))
 refine eZ (cU (gV (i:=2) (tt:=5) rfl rfl mF (dQ (ro rfl (eJ mD (Ht rfl) rfl) (ro rfl (eW A_32 Z_32 (Ht rfl) (i:=0) rfl rfl rfl) (ro rfl (eJ mD (Ht rfl) rfl) (ro rfl (eW A_32 Z_32 (Ht rfl) (i:=1) rfl rfl rfl) (ro rfl (cJ Tryz.call113 (Me hz hz2 hs hs2 hL h hsh hsh2 hl hl2) ⟨(Ht rfl),(Ht rfl),trivial⟩) (rm rfl (fX rfl rfl (eU rfl rfl (Ht rfl) (fun h=>eJ lG (Ht rfl) rfl)) (fX rfl rfl (eU rfl rfl (Ht rfl) (fun h=>fQ A_30 Z_30 (fV rfl h) (i:=0) rfl rfl)) ?_)))))))))))
 refine fX rfl rfl (eU rfl rfl (Ht rfl) (fun h=>eJ lG (Ht rfl) rfl)) (fX rfl rfl (eU rfl rfl (Ht rfl) (fun h=>fQ A_30 Z_30 (fV rfl h) (i:=1) rfl rfl)) (fX rfl rfl (eU rfl rfl (Ht rfl) (fun h=>oN (γ:={x:List Qi × List Qi // (bP x.1 L ∧ x.1.length ≤ 1000) ∧ bP x.2 L ∧ x.2.length ≤ 1000}) (Ts:=fun x=>[aR x.1.1,aR x.1.2]) (U:=fun x=>aD (decide (x.1.1 = x.1.2))) Tryz.call154 (fun x=>Vp x.2.1.1 x.2.2.1 hL x.2.1.2 x.2.2.2) ⟨(Ht rfl),trivial⟩)) (fX rfl rfl (eU rfl rfl (Ht rfl) (fun h=>cJ Tryz.call153 (Om hc hc2 e1 e2 e3 e4) ⟨(fV rfl h),(fV rfl h),(fV rfl h),trivial⟩)) ?_)))
 refine ro rfl (fM (Ht rfl) (fun h=>(fV rfl h))) (ra rfl (eZ ?_))
 exact fG rfl (eY rfl)
end
section
open Go Go.RowKit
namespace Qi
end Qi
def kJ (f : Nat → Int) : Nat → Int
 | 0=>0
 | n + 1=>if kJ f n ≠ 0 then kJ f n else f n
theorem xT {f:Nat → Int} {k:Nat} (h:∀ i,i < k → f i = 0) (hk:f k ≠ 0):∀ {n:Nat},k < n → kJ f n = f k:=by
 have hz : kJ f k = 0 := by
  clear hk
  induction k with
  | zero=>rfl
  | succ k ih=>rw [kJ,ih (fun i hi=>h i zo),if_neg (by simp),h k zo]
 intro n
 induction n with
 | zero=>intro h; omega
 | succ n ih =>
  intro hn
  by_cases e:n = k
  ·rw [e,kJ,hz,if_neg (by simp)]
  ·rw [kJ,ih zo,if_pos hk]
theorem jL {f : Nat → Int} : ∀ {n : Nat}, (∀ i, i < n → f i = 0) → kJ f n = 0
 | 0,_=>rfl
 | n + 1,h=>by rw [kJ,jL (fun i hi=>h i zo),if_neg (by simp),h n zo]
theorem iV {f : Nat → Int} : ∀ {n : Nat}, kJ f n = 0 → ∀ i, i < n → f i = 0
 | 0,_,i,hi=>by omega
 | n + 1, h, i, hi => by
  rw [kJ] at h
  split at h
  ·rename_i c; exact absurd h c
  ·rename_i c
   by_cases e:i = n
   ·rw [e]; exact h
   ·exact iV (Decidable.not_not.1 c) i zo
abbrev eF (l:List (Qi × Qi)) (i:Nat):Qi:=(l.getD i (Qi.zero,Qi.zero)).1
abbrev eV (l:List (Qi × Qi)) (i:Nat):Qi:=(l.getD i (Qi.zero,Qi.zero)).2
structure a2g (l:List (Qi × Qi)) (f:Qi):Prop where
 real:∀ i,i < l.length → (eF l i).b = 0 ∧ (eV l i).b = 0
 up:∀ i,0 < i → i < l.length → (eF l (i - 1)).re < (eF l i).re
 fr:f.b = 0
theorem a48 {x:Qi} (h:fB x = true):x.b = 0:=by simp only [fB,decide_eq_true_eq] at h; exact h.1
theorem a2g.mono {l : List (Qi × Qi)} {f : Qi} (h : a2g l f) {i : Nat} : ∀ {j : Nat}, i < j → j < l.length → (eF l i).re < (eF l j).re
 | 0,h1,_=>by omega
 | j + 1, h1, h2 => by
  have h3:=h.up (j + 1) zo h2
  rw [Nat.add_sub_cancel] at h3
  by_cases e:i = j
  ·rw [e]; exact h3
  ·have := h.mono (i := i) (j := j) zo zo
   grind
def a4H (l:List (Qi × Qi)) (L:Nat):Prop:=∀ e,e ∈ l → aE e.1 L ∧ aE e.2 L
theorem a4H.get {l:List (Qi × Qi)} {L:Nat} (h:a4H l L) (hL:1 ≤ L) (i:Nat):aE (eF l i) L ∧ aE (eV l i) L:=by
 by_cases hi:i < l.length
 ·have e : l.getD i (Qi.zero, Qi.zero) = l[i] := by simp [List.getD, hi]
  show aE (l.getD i _).1 L ∧ aE (l.getD i _).2 L
  rw [e]; exact h _ (List.getElem_mem hi)
 ·have e : l.getD i (Qi.zero, Qi.zero) = (Qi.zero, Qi.zero) := by simp [List.getD, List.getElem?_eq_none (Nat.le_of_not_lt hi)]
  show aE (l.getD i _).1 L ∧ aE (l.getD i _).2 L
  rw [e]; exact ⟨aE.zero hL,aE.zero hL⟩
end
section
open Go Go.RowKit
abbrev dT (M:List (List Qi)) (i:Nat):List Qi:=M.getD i []
def Uc (M : List (List Qi)) (c n : Nat) : Nat → Nat
 | 0=>n
 | k + 1=>if gm M (n - (k + 1)) c = Qi.zero then Uc M c n k else n - (k + 1)
def pv (M:List (List Qi)) (c n:Nat):Nat:=Uc M c n (n - c)
theorem Kd {M : List (List Qi)} {c n : Nat} : ∀ {k : Nat}, k ≤ n → (∀ r, n - k ≤ r → r < Uc M c n k → gm M r c = Qi.zero) ∧ n - k ≤ Uc M c n k ∧ Uc M c n k ≤ n ∧ (Uc M c n k < n → gm M (Uc M c n k) c ≠ Qi.zero)
 | 0,_=>⟨fun r h1 h2=>by simp [Uc] at h2; omega,by simp [Uc],by simp [Uc],fun h=>by simp [Uc] at h⟩
 | k + 1, hk => by
  obtain ⟨i1,i2,i3,i4⟩:=Kd (M:=M) (c:=c) (n:=n) (k:=k) zo
  unfold Uc
  by_cases e:gm M (n - (k + 1)) c = Qi.zero
  ·rw [if_pos e]
   refine ⟨fun r h1 h2=>?_,by omega,i3,i4⟩
   by_cases e2:r = n - (k + 1)
   ·rw [e2]; exact e
   ·exact i1 r zo h2
  ·rw [if_neg e]
   exact ⟨fun r h1 h2=>by omega,Nat.le_refl _,by omega,fun _=>e⟩
theorem nK {M:List (List Qi)} {c n:Nat} (hc:c ≤ n):(∀ r,c ≤ r → r < pv M c n → gm M r c = Qi.zero) ∧ c ≤ pv M c n ∧ pv M c n ≤ n ∧ (pv M c n < n → gm M (pv M c n) c ≠ Qi.zero):=by
 have h:=Kd (M:=M) (c:=c) (n:=n) (k:=n - c) zo
 rw [show n - (n - c) = c by omega] at h
 exact h
theorem a5m {M:List (List Qi)} {c n p:Nat} (hc:c ≤ p) (hp:p ≤ n) (h1:∀ r,c ≤ r → r < p → gm M r c = Qi.zero) (h2:p < n → gm M p c ≠ Qi.zero):pv M c n = p:=by
 obtain ⟨i1,i2,i3,i4⟩:=nK (M:=M) (n:=n) (show c ≤ n by omega)
 rcases Nat.lt_trichotomy (pv M c n) p with h | h | h
 ·exact absurd (h1 _ i2 h) (i4 zo)
 ·exact h
 ·exact absurd (i1 p hc h) (h2 zo)
def kX (rr rc:List Qi) (c k:Nat):List Qi:=tab rr.length fun j=>if c < j ∧ j < k then gv rr j - gv rr c / gv rc c * gv rc j else gv rr j
def redM (M:List (List Qi)) (c r:Nat):List (List Qi):=tab M.length fun i=>if c < i ∧ i < r then kX (dT M i) (dT M c) c (dT M i).length else dT M i
def cI (M : List (List Qi)) : Nat → List (List Qi) × Nat × Int
 | 0=>(M,0,-1)
 | c + 1 =>
  let s:=cI M c
  if 0 ≤ s.2.2 then s else
  if pv s.1 c M.length = M.length then (s.1,s.2.1,(c:Int)) else
  (redM (if pv s.1 c M.length = c then s.1 else swp [] s.1 (pv s.1 c M.length) c) c M.length,s.2.1 + (if pv s.1 c M.length = c then 0 else 1),-1)
theorem Eb {M : List (List Qi)} {c : Nat} (h : 0 ≤ (cI M c).2.2) : ∀ {d : Nat}, c ≤ d → cI M d = cI M c
 | 0,hd=>by rw [show c = 0 by omega]
 | d + 1, hd => by
  by_cases e:c = d + 1
  ·rw [e]
  ·have := Eb h (d := d) zo
   simp only [cI,this]
   rw [if_pos h]
theorem tL (M:List (List Qi)) (c r:Nat):(redM M c r).length = M.length:=aN _ _
theorem Ki {M:List (List Qi)} {n m c r:Nat} (h:cM M n m):cM (redM M c r) n m:=by
 refine ⟨(tL _ _ _).trans h.1,fun x hx=>?_⟩
 obtain ⟨i,hi,rfl⟩:=eA.1 hx
 have hr:=h.row (i:=i) (by rw [← h.1]; exact hi)
 show (if c < i ∧ i < r then kX (dT M i) (dT M c) c (dT M i).length else dT M i).length = m
 split
 ·rw [kX,aN]; exact hr
 ·exact hr
theorem Ae {M:List (List Qi)} {n m p c:Nat} (h:cM M n m) (hp:p < n) (hc:c < n):cM (swp [] M p c) n m:=by
 refine ⟨(Ad _ _ _ _).trans h.1,fun x hx=>?_⟩
 unfold swp at hx
 rcases List.mem_or_eq_of_mem_set hx with h1 | h1
 ·rcases List.mem_or_eq_of_mem_set h1 with h2 | h2
  ·exact h.2 x h2
  ·rw [h2]; exact h.row hc
 ·rw [h1]; exact h.row hp
theorem pC {M : List (List Qi)} {n m : Nat} (h : cM M n m) : ∀ {c : Nat}, c ≤ n → cM (cI M c).1 n m
 | 0,_=>h
 | c + 1, hc => by
  have ih:=pC h (c:=c) zo
  obtain ⟨_,_,i3,_⟩:=nK (M:=(cI M c).1) (c:=c) (n:=M.length) (by rw [h.1]; omega)
  simp only [cI]
  split
  ·exact ih
  ·split
   ·exact ih
   ·rename_i e
    apply Ki
    split
    ·exact ih
    ·exact Ae ih (by rw [← h.1]; omega) zo
def sM (L : Nat) : Nat → Nat
 | 0=>L
 | c + 1=>6 * sM L c + 4
theorem uE (L : Nat) : ∀ {c d : Nat}, c ≤ d → sM L c ≤ sM L d
 | c,0,h=>by rw [show c = 0 by omega]; exact Nat.le_refl _
 | c, d + 1, h => by
  by_cases e:c = d + 1
  ·rw [e]; exact Nat.le_refl _
  ·have := uE L (c := c) (d := d) zo
   simp only [sM]; omega
theorem zQ (L c:Nat):L ≤ sM L c:=uE L (Nat.zero_le c)
theorem Ph {rr rc:List Qi} {L c j:Nat} (h1:bP rr L) (h2:bP rc L) (hL:1 ≤ L) (hp:gv rc c ≠ Qi.zero):aE (gv rr j - gv rr c / gv rc c * gv rc j) (6 * L + 4):=by
 haveI f1:=h1.get hL j; haveI f2:=h1.get hL c; haveI f3:=h2.get hL c; haveI f4:=h2.get hL j
 haveI g:aE (gv rr c / gv rc c) (L + 3 * L + 2):=⟨f2.fit.div f3.fit hp⟩
 have:aE (gv rr j - gv rr c / gv rc c * gv rc j) (L + (L + 3 * L + 2 + L + 1) + 1):=inferInstance
 exact this.le zo
theorem Zc {rr rc : List Qi} {L c k : Nat} (h1 : bP rr L) (h2 : bP rc L) (hL : 1 ≤ L) (hp : gv rc c ≠ Qi.zero) : bP (kX rr rc c k) (6 * L + 4) := bP.tab fun j _ => by
 split
 ·exact Ph h1 h2 hL hp
 ·exact (h1.get hL j).le zo
theorem Kh {M : List (List Qi)} {L c r : Nat} (h : bC M L) (hL : 1 ≤ L) (hp : gm M c c ≠ Qi.zero) : bC (redM M c r) (6 * L + 4) := fun x hx => by
 obtain ⟨i,hi,rfl⟩:=eA.1 hx
 show bP (if c < i ∧ i < r then kX (dT M i) (dT M c) c (dT M i).length else dT M i) _
 split
 ·exact Zc (h.row i) (h.row c) hL hp
 ·exact (h.row i).le zo
theorem Hd {M : List (List Qi)} {L p c : Nat} (h : bC M L) : bC (swp [] M p c) L := fun x hx => by
 unfold swp at hx
 rcases List.mem_or_eq_of_mem_set hx with h1 | h1
 ·rcases List.mem_or_eq_of_mem_set h1 with h2 | h2
  ·exact h x h2
  ·rw [h2]; exact h.row c
 ·rw [h1]; exact h.row p
theorem yG {M:List (List Qi)} {p c:Nat} (hc:c < M.length):dT (swp [] M p c) c = dT M p:=by
 simp [dT,swp,List.getD,hc]
theorem Bg {M : List (List Qi)} {n m L : Nat} (hs : cM M n m) (h : bC M L) (hL : 1 ≤ L) : ∀ {c : Nat}, c ≤ n → bC (cI M c).1 (sM L c)
 | 0,_=>h
 | c + 1, hc => by
  have ih:=Bg hs h hL (c:=c) zo
  have hg:1 ≤ sM L c:=Nat.le_trans hL (zQ L c)
  have sh:=pC hs (c:=c) zo
  obtain ⟨_,i2,i3,i4⟩:=nK (M:=(cI M c).1) (c:=c) (n:=M.length) (by rw [hs.1]; omega)
  simp only [cI,sM]
  split
  ·exact ih.le zo
  ·split
   ·exact ih.le zo
   ·rename_i e
    split
    ·rename_i e2
     refine Kh ih hg ?_
     have:=i4 zo
     rw [e2] at this; exact this
    ·refine Kh (Hd ih) hg ?_
     show gv (dT (swp [] _ _ c) c) c ≠ _
     rw [yG (by rw [sh.1]; omega)]
     exact i4 zo
theorem Ng {rr rc:List Qi} {c:Nat}:rr = kX rr rc c (c + 1):=by
 unfold kX
 have:(tab rr.length fun j=>if c < j ∧ j < c + 1 then gv rr j - gv rr c / gv rc c * gv rc j else gv rr j) = tab rr.length (gv rr):=dD fun j _=>by rw [if_neg zo]
 rw [this]; exact Bq rfl
theorem wW (rr rc:List Qi) (c k:Nat):(kX rr rc c k).length = rr.length:=aN _ _
theorem Kj {rr rc:List Qi} {c k:Nat} (hk:k < rr.length) (h:c < k):gv (kX rr rc c k) k = gv rr k:=by
 rw [kX,iJ hk,if_neg zo]
theorem Tj {rr rc:List Qi} {c k:Nat} (hk:k < rr.length) (h:c < k):(kX rr rc c k).set k (gv (kX rr rc c k) k - gv rr c / gv rc c * gv rc k) = kX rr rc c (k + 1):=by
 rw [Kj hk h]
 apply List.ext_getElem?
 intro j
 by_cases hj:j < rr.length
 ·by_cases e : j = k
  ·subst e
   rw [List.getElem?_set_self (by rw [wW]; exact hj),kX,dB hj,if_pos zo]
  ·rw [List.getElem?_set_ne (Ne.symm e), kX, kX, dB hj, dB hj]
   by_cases e2:c < j ∧ j < k
   ·rw [if_pos e2,if_pos zo]
   ·rw [if_neg e2,if_neg zo]
 ·rw [List.getElem?_eq_none (by rw [List.length_set,wW]; omega),List.getElem?_eq_none (by rw [wW]; omega)]
theorem Nf {M:List (List Qi)} {c:Nat}:M = redM M c (c + 1):=by
 unfold redM
 have:(tab M.length fun i=>if c < i ∧ i < c + 1 then kX (dT M i) (dT M c) c (dT M i).length else dT M i) = tab M.length (dT M):=dD fun i _=>by rw [if_neg zo]
 rw [this]; exact Nn (h:=rfl)
theorem wV {M:List (List Qi)} {c r i:Nat} (hi:i < M.length) (h:¬ (c < i ∧ i < r)):dT (redM M c r) i = dT M i:=by
 simp only [dT,redM,List.getD]
 rw [dB hi,if_neg h]; rfl
theorem Ti {M:List (List Qi)} {c r:Nat} (hr:r < M.length) (h:c < r):(redM M c r).set r (kX (dT M r) (dT M c) c (dT M r).length) = redM M c (r + 1):=by
 apply List.ext_getElem?
 intro j
 by_cases hj:j < M.length
 ·by_cases e : j = r
  ·subst e
   rw [List.getElem?_set_self (by rw [tL]; exact hj),redM,dB hj,if_pos zo]
  ·rw [List.getElem?_set_ne (Ne.symm e), redM, redM, dB hj, dB hj]
   by_cases e2:c < j ∧ j < r
   ·rw [if_pos e2,if_pos zo]
   ·rw [if_neg e2,if_neg zo]
 ·rw [List.getElem?_eq_none (by rw [List.length_set,tL]; omega),List.getElem?_eq_none (by rw [tL]; omega)]
theorem Zk {M:List (List Qi)} {r:Nat} {x y:List Qi}:(M.set r x).set r y = M.set r y:=List.set_set ..
theorem Gz {M:List (List Qi)} {r:Nat} {x:List Qi} (h:r < M.length):dT (M.set r x) r = x:=by simp [dT,List.getD,h]
theorem yC {M:List (List Qi)} {r i:Nat} {x:List Qi} (h:r ≠ i):dT (M.set r x) i = dT M i:=by simp [dT,List.getD,List.getElem?_set_ne h]
theorem a4i {M:List (List Qi)} {r:Nat} (h:r < M.length):M.set r (dT M r) = M:=by
 apply List.ext_getElem?
 intro j
 by_cases e:j = r
 ·subst e; rw [List.getElem?_set_self h]; simp [dT,List.getD,h]
 ·rw [List.getElem?_set_ne (Ne.symm e)]
theorem Zt {X : List (List Qi)} {r c k : Nat} (hr : r < X.length) (hne : r ≠ c) (hk : k < (dT X r).length) (hck : c < k) :
  (X.set r (kX (dT X r) (dT X c) c k)).set r ((dT (X.set r (kX (dT X r) (dT X c) c k)) r).set k (gm (X.set r (kX (dT X r) (dT X c) c k)) r k - gm X r c / gm X c c * gm (X.set r (kX (dT X r) (dT X c) c k)) c k)) = X.set r (kX (dT X r) (dT X c) c (k + 1)):=by
 rw [Zk,Gz hr]
 have e1:gm (X.set r (kX (dT X r) (dT X c) c k)) r k = gv (kX (dT X r) (dT X c) c k) k:=by show gv (dT (X.set r _) r) k = _; rw [Gz hr]
 have e2:gm (X.set r (kX (dT X r) (dT X c) c k)) c k = gv (dT X c) k:=by show gv (dT (X.set r _) c) k = _; rw [yC hne]
 rw [e1,e2]
 exact congrArg _ (Tj hk hck)
theorem Zu {D:List (List Qi)} {r c:Nat} (hr:r < D.length) (hc:c < r):(redM D c r).set r (kX (dT (redM D c r) r) (dT (redM D c r) c) c (dT D r).length) = redM D c (r + 1):=by
 rw [wV hr zo,wV zo zo]
 exact Ti hr hc
theorem a58 {X:List (List Qi)} {r c k:Nat} (hr:r < X.length) (hk:k < (dT X r).length) (hck:c < k):gm (X.set r (kX (dT X r) (dT X c) c k)) r k = gv (dT X r) k:=by
 show gv (dT (X.set r _) r) k = _; rw [Gz hr,Kj hk hck]
theorem a57 {X:List (List Qi)} {r c k:Nat} {y:List Qi} (hne:r ≠ c):gm (X.set r y) c k = gv (dT X c) k:=by show gv (dT (X.set r _) c) k = _; rw [yC hne]
theorem Sg {M A:List (List Qi)} {n c sw p:Nat} (hl:M.length = n) (h:cI M c = (A,sw,-1)) (hp:pv A c n = p) (hpn:p < n):cI M (c + 1) = (redM (if p = c then A else swp [] A p c) c n,sw + (if p = c then 0 else 1),-1):=by
 simp only [cI,h,hl,hp]
 rw [if_neg (by decide),if_neg zo]
theorem Wm {M A:List (List Qi)} {n c sw:Nat} (hl:M.length = n) (h:cI M c = (A,sw,-1)) (hp:pv A c n = n) (hc:c < n):cI M n = (A,sw,(c:Int)):=by
 have e : cI M (c + 1) = (A, sw, (c : Int)) := by
  simp only [cI,h,hl,hp]
  rw [if_neg (by decide)]; simp
 rw [Eb (c:=c + 1) (by rw [e]; show (0:Int) ≤ (c:Int); omega) hc,e]
end
section
open Go Go.RowKit
theorem Dj (v : Value) (w : World) : (method (Tryz.prog.types.size + Made.depth) 51 v "Clear").run Tryz.prog w = .ok (27, v) w := by kernel_rfl
end
section
open Go Go.RowKit
theorem a0o {M:List (List Qi)} {n m G B:Nat} (hs:cM M n m) (hstg:∀ c,c ≤ n → bC (cI M c).1 G) (hG1:1 ≤ G) (hg:6 * G + 4 ≤ 17592186044415) (hnm:n ≤ m) (hm:m ≤ 1000):gO Tryz.prog 194 [Is (.slice (some ⟨B,0,none⟩) n n)] [nR B 29 51 5 (cE aH M)] (Unit) (fun _=>fI [NT .i64 (cI M n).2.1,aO .i64 (cI M n).2.2]) (fun _=>[nR B 29 51 5 (cE aH (cI M n).1)]) (fun _=>True):=by
 have hs1:=hs.1
 refine gO.intro Tryz.func194 rfl Tryz.ntmps194 rfl (fun cx Z=>(ts (ro rfl (cX (cV 0)) (ro rfl (cX (cV 0)) (eZ (ts (ro rfl (cX (cV 0)) (eZ (cU (ts (rm rfl (ro rfl (gA U_30 (Ht rfl)) (ro rfl (cZ (cV 0)) (eZ (eK (Ny 1 rfl (fun vs hvs=>?_)))))))))))))))))
 have hvs2:Hds vs n:=by have h:=hvs; rw [List.length_map,hs1] at h; exact h
 refine zA (fun (c : Nat) (sw : Nat) (vs : List Value) (A : List (List Qi)) => (c ≤ n ∧ sw ≤ c) ∧ cI M c = (A, sw, -1) ∧ Hds vs n) (fun (c : Nat) (sw : Nat) (vs : List Value) (A : List (List Qi)) => n - c) (fun (c : Nat) (sw : Nat) (vs : List Value) (A : List (List Qi)) => [(0, Is (.slice (some ⟨B, 0, none⟩) n n)), (4, NT .i64 sw), (12, NT .i64 n), (13, NT .i64 c)]) (fun (c : Nat) (sw : Nat) (vs : List Value) (A : List (List Qi)) => [Z, jX B 29 51 5 vs vs (cE aH A)]) 0 0 vs M ⟨⟨Nat.zero_le _, Nat.le_refl _⟩, rfl, hvs2⟩
  (zS rfl) (dM.refl _) (fun c sw vs A ⟨⟨hc,hsw⟩,hA,hvs⟩=>?_)
 refine ts (ro rfl (gZ (Ht rfl) (Ht rfl)) (eZ (cU (dX (Ht rfl) (fun hcn=>?_) (fun hcn=>?_)))))
 ·simp only [decide_eq_true_eq] at hcn
  have hvl:=hvs.len
  have hAs:cM A n m:=by have h:=pC hs hc; rw [hA] at h; exact h
  have hAf:bC A G:=by have h:=hstg c hc; rw [hA] at h; exact h
  have hAl:=hAs.1
  refine cY (cU (eK (ts (rm rfl (ra rfl (eZ (ts (rm rfl (ra rfl (eZ (cU (eK ?_))))))))))))
  refine cF (fun (p : Nat) => (c ≤ p ∧ p ≤ n) ∧ ∀ r, c ≤ r → r < p → gm A r c = Qi.zero) (fun (p : Nat) => n - p) (fun (p : Nat) => [(0, Is (.slice (some ⟨B, 0, none⟩) n n)), (4, NT .i64 sw), (5, NT .i64 c), (6, NT .i64 p), (12, NT .i64 n), (13, NT .i64 c)]) (fun (p : Nat) => [Z, jX B 29 51 5 vs vs (cE aH A)]) c ⟨⟨Nat.le_refl _, hc⟩, fun r h1 h2 => by omega⟩
   (zS rfl) (dM.refl _) (fun p ⟨⟨hcp,hpn⟩,hz⟩=>?_)
  haveI fp:aE (gm A p c) G:=hAf.get hG1 p c
  refine cU (ts (rm rfl (rm rfl (ro rfl (gA U_30 (Ht rfl)) (ro rfl (gZ (Ht rfl) (Ht rfl)) (rm rfl (fX rfl rfl (eU rfl rfl (Ht rfl) (fun h=>cZ (Ht rfl))) (fX rfl rfl (eU rfl rfl (Ht rfl) (fun h=>cZ (Ht rfl))) (fX rfl rfl (eU rfl rfl (Ht rfl) (fun h=>gQ U_30 Z_29 (fV rfl h) (fV rfl h) rfl (by first | omega | (simp at h; omega)) (by rw [Nat.mul_one,Nat.zero_add]))) ?_)))))))))
  refine fX rfl rfl (eU rfl rfl (Ht rfl) (fun h=>lK A_29 Z_29 (fV rfl h) (j:=1) rfl (by simp at h; omega))) ?_
  refine fX rfl rfl (eU rfl rfl (Ht rfl) (fun h=>cZ (Ht rfl))) (fX rfl rfl (eU rfl rfl (Ht rfl) (fun h=>oP U_29 Z_51 (fV rfl h) (fV rfl h) rfl (j:=1) rfl zo (by simp at h; omega) (by simp at h; rw [hAs.row h]; omega))) ?_)
  refine fX rfl rfl (eU rfl rfl (Ht rfl) (fun h=>tH A_51 Z_51 (fV rfl h) (j:=1) rfl zo (by simp at h; omega) (by simp at h; rw [hAs.row h]; omega))) ?_
  refine fX rfl rfl (eU rfl rfl (Ht rfl) (fun h=>aT bL (fV rfl h))) (fX rfl rfl (eU rfl rfl (Ht rfl) (fun h=>aL Dj Tryz.call27 (Fk (x:=gm A p c) (L:=G) zo) (fV rfl h) trivial)) (fX rfl rfl (eU rfl rfl (Ht rfl) (fun h=>eN (fV rfl h))) (ro rfl (fM (Ht rfl) (fun h=>(fV rfl h))) (eZ (dX (Ht rfl) (fun he=>?_) (fun he=>?_))))))
  ·have he2 : p < n ∧ gm A p c = Qi.zero := by simpa using he
   refine cY (eK (dQ (rm rfl (ro rfl (dW (Ht rfl) (cV 1) z6) (ra rfl (eZ (bO ?_)))))))
   refine fY (p + 1) ⟨⟨by omega, by omega⟩, fun r h1 h2 => by
     by_cases e:r = p
     ·rw [e]; exact he2.2
     ·exact hz r h1 zo⟩ zo (zS rfl) (dM.refl _)
  ·have hpv : pv A c n = p := a5m hcp hpn hz (fun h => by simp at he; exact he h)
   refine gW rfl (cU (ts (rm rfl (rm rfl (ro rfl (gA U_30 (Ht rfl)) (ro rfl (dO (Ht rfl) (Ht rfl)) (eZ (dX (Ht rfl) (fun hp=>?_) (fun hp=>?_)))))))))
   ·have hp2 : p = n := by simpa using hp
    have hend:=Wm hs1 hA (by rw [hpv]; exact hp2) hcn
    refine ts (rm rfl (rm rfl (ra rfl (ra rfl (eZ ?_)))))
    exact kH () trivial [0,1] ⟨⟨_,rfl,fun _ _ _ h=>h⟩,⟨_,rfl,(fun S w V h=>cB (by rw [hend]) S w V (Bu (by rw [List.length_map]; omega) S w V h))⟩,trivial⟩ (by decide) (a1V rfl (fZ (eY rfl) (kU (by rw [hend]))) (fZ (eY rfl) (aS (by rw [hend]))))
   ·have hp2 : p < n := by simp at hp; omega
    have hpz:=(nK (M:=A) (c:=c) (n:=n) hc).2.2.2 (by rw [hpv]; exact hp2)
    rw [hpv] at hpz
    have hnx:=Sg hs1 hA hpv hp2
    refine cY (cU (Fg (fun (q:Nat) (us:List Value) (D:List (List Qi))=>(q = sw + (if p = c then 0 else 1) ∧ D = (if p = c then A else swp [] A p c)) ∧ Hds us n) (fun (q:Nat) (us:List Value) (D:List (List Qi))=>[(0,Is (.slice (some ⟨B,0,none⟩) n n)),(4,NT .i64 q),(5,NT .i64 c),(12,NT .i64 n),(13,NT .i64 c)]) (fun (q:Nat) (us:List Value) (D:List (List Qi))=>[Z,jX B 29 51 5 us us (cE aH D)]) ?_ (fun q us D ⟨⟨hq,hD⟩,hus⟩=>?_)))
    ·refine ts (rm rfl (rm rfl (ro rfl (gB (Ht rfl) (Ht rfl)) (eZ (dX (Ht rfl) (fun hpc => ?_) (fun hpc => ?_))))))
     ·have hpc2 : ¬ p = c := by simpa using hpc
      refine cU (Y.D_start (m:=14) [(13,1,jX B 29 51 5 (vs.set p (hd vs c)) vs (cE aH A))] (Y.D_step (Ei:=[(0,_)]) rfl rfl (bQ (bJ rfl rfl) bX) rfl rfl (by kernel_rfl) (dZ rfl (cZ (Ht rfl))) (Y.D_step (Ei:=[(6,_)]) rfl rfl (bQ (bJ rfl rfl) bX) rfl rfl (by kernel_rfl) (dZ rfl (cZ (Ht rfl))) (cQ (Ei:=[(0,_)]) rfl rfl (bQ (bJ rfl rfl) bX) rfl rfl (dZ rfl (cZ (Ht rfl))) (cQ (Ei:=[(5,_)]) rfl rfl (bQ (bJ rfl rfl) bX) rfl rfl (dZ rfl (cZ (Ht rfl))) ?_)))))
      refine Y.D_step (Ei:=[(0,_)]) rfl rfl (bQ (bJ rfl rfl) bX) rfl rfl (by kernel_rfl) (dZ rfl (cZ (Ht rfl))) (Y.D_step (Ei:=[(5,_)]) rfl rfl (bQ (bJ rfl rfl) bX) rfl rfl (by kernel_rfl) (dZ rfl (cZ (Ht rfl))) (Y.D_step (Ei:=[(48,_),(49,_)]) rfl rfl (bQ (bZ 4 rfl rfl) (bQ (bZ 5 rfl rfl) bX)) rfl rfl (by kernel_rfl) (dZ rfl (gQ U_30 Z_29 (Ht rfl) (Ht rfl) rfl zo (by rw [Nat.mul_one,Nat.zero_add]))) ?_))
      refine Y.D_step (Ei:=[(50,_)]) rfl rfl (bQ (bZ 6 rfl rfl) bX) rfl rfl (by kernel_rfl) (dZ rfl (lK A_29 Z_29 (Ht rfl) (j:=1) rfl zo)) (Y.D_step (Ei:=[(0,_)]) rfl rfl (bQ (bJ rfl rfl) bX) rfl rfl (by kernel_rfl) (dZ rfl (cZ (Ht rfl))) (Y.D_step (Ei:=[(6,_)]) rfl rfl (bQ (bJ rfl rfl) bX) rfl rfl (by kernel_rfl) (dZ rfl (cZ (Ht rfl))) (Y.D_step (Ei:=[(52,_),(53,_)]) rfl rfl (bQ (bZ 8 rfl rfl) (bQ (bZ 9 rfl rfl) bX)) rfl rfl (by kernel_rfl) (dZ rfl (gQ U_30 Z_29 (Ht rfl) (Ht rfl) rfl zo (by rw [Nat.mul_one,Nat.zero_add]))) ?_)))
      refine Y.D_step (Ei:=[(54,_)]) rfl rfl (bQ (bZ 10 rfl rfl) bX) rfl rfl (by kernel_rfl) (dZ rfl (lK A_29 Z_29 (Ht rfl) (j:=1) rfl zo)) (Y.D_step (Ei:=[(44,_),(45,_)]) rfl rfl (bQ (bZ 0 rfl rfl) (bQ (bZ 1 rfl rfl) bX)) rfl rfl (by kernel_rfl) (dZ rfl (gQ U_30 Z_29 (Ht rfl) (Ht rfl) rfl zo (by rw [Nat.mul_one,Nat.zero_add]))) ?_)
      refine Y.D_putI (Ei:=[(56,_),(51,_)]) 1 rfl rfl rfl (bQ (bZ 12 rfl rfl) (bQ (bZ 7 rfl rfl) bX)) (.head _) rfl (Ui Z_29 (Ht rfl) (Ht rfl) (hvs.pl c zo) (i:=p) (hs:=vs) zo) (Y.D_done bE rfl (by kernel_rfl) rfl (by simp [Y.okP]) rfl rfl (bU (bU (bU (bU (bU (bU (bU (bU (bU (bU (bU (bU (bU (Y.F_putI (Y.F_nil ?_))))))))))))))))
      refine ro rfl (gQ U_30 Z_29 (Ht rfl) (Ht rfl) rfl zo (by rw [Nat.mul_one,Nat.zero_add])) ?_
      refine a2N Z_29 (Ht rfl) (Ht rfl) (j:=1) rfl (hvs.pl p zo) (by rw [List.length_set]; omega) rfl ?_
      refine eZ (nZ 1 rfl (Sv (hs:=swp Gl vs p c) (p:=p) (c:=c) zo zo zo) (dQ (rm rfl (ro rfl (dW (Ht rfl) (cV 1) z6) (ra rfl (eZ (bD (sw + 1,swp Gl vs p c,swp [] A p c) ⟨⟨by rw [if_neg hpc2],by rw [if_neg hpc2]⟩,hvs.swp hp2 hcn⟩ (zS rfl) (dM.refl _))))))))
     ·have hpc2 : p = c := by simpa using hpc
      refine cY (bD (sw,vs,A) ⟨⟨by rw [if_pos hpc2]; rfl,by rw [if_pos hpc2]⟩,hvs⟩ (zS rfl) (dM.refl _))
    ·have hul := hus.len
     rw [← hq,← hD] at hnx
     have hDs:cM D n m:=by rw [hD]; split; exact hAs; exact Ae hAs hp2 hcn
     have hDf:bC D G:=by rw [hD]; split; exact hAf; exact Hd hAf
     have hDl:=hDs.1
     have hDz : gm D c c ≠ Qi.zero := by
      rw [hD]; split
      ·rename_i e; rw [e] at hpz; exact hpz
      ·show gv (dT (swp [] A p c) c) c ≠ _
       rw [yG zo]; exact hpz
     refine ts (rm rfl (ro rfl (dW (Ht rfl) (cV 1) z6) (ra rfl (eZ (eK ?_)))))
     refine cF (fun (r : Nat) => c < r ∧ r ≤ n) (fun (r : Nat) => n - r) (fun (r : Nat) => [(0, Is (.slice (some ⟨B, 0, none⟩) n n)), (4, NT .i64 q), (5, NT .i64 c), (7, NT .i64 r), (12, NT .i64 n), (13, NT .i64 c)]) (fun (r : Nat) => [Z, jX B 29 51 5 us us (cE aH (redM D c r))]) (c + 1) ⟨Nat.lt_succ_self _, hcn⟩
      (zS rfl) (aU (fun _ _ _ h=>h) (aU (zU (congrArg _ Nf)) aY)) (fun r ⟨hcr,hrn⟩=>?_)
     refine cU (ts (rm rfl (rm rfl (ro rfl (gA U_30 (Ht rfl)) (ro rfl (gZ (Ht rfl) (Ht rfl)) (eZ (dX (Ht rfl) (fun hr=>?_) (fun hr=>?_))))))))
     ·simp only [decide_eq_true_eq] at hr
      obtain ⟨X,hX⟩:∃ X,X = redM D c r:=⟨_,rfl⟩
      have hXr:dT X r = dT D r:=by rw [hX]; exact wV zo zo
      have hXc:dT X c = dT D c:=by rw [hX]; exact wV zo zo
      have hXl:X.length = n:=by rw [hX,tL]; exact hDl
      have hXrl:(dT X r).length = m:=by rw [hXr]; exact hDs.row hr
      have hXcl:(dT X c).length = m:=by rw [hXc]; exact hDs.row hcn
      have hXrg:(X.getD r []).length = m:=hXrl
      have hXcg:(X.getD c []).length = m:=hXcl
      have hXfr:bP (dT X r) G:=by rw [hXr]; exact hDf.row r
      have hXfc:bP (dT X c) G:=by rw [hXc]; exact hDf.row c
      haveI g1:aE (gm X r c) G:=hXfr.get hG1 c
      haveI g2:aE (gm X c c) G:=hXfc.get hG1 c
      have hXz:gm X c c ≠ Qi.zero:=by show gv (dT X c) c ≠ _; rw [hXc]; exact hDz
      haveI g3:aE (gm X r c / gm X c c) (G + 3 * G + 2):=⟨g1.fit.div g2.fit hXz⟩
      have hend:=Zu (D:=D) (r:=r) (c:=c) zo hcr
      rw [← hX] at hend ⊢
      refine cY (cU (eK (cU (Y.D_start (m:=21) [] (cQ (Ei:=[(0,_)]) rfl rfl (bQ (bJ rfl rfl) bX) rfl rfl (dZ rfl (cZ (Ht rfl))) (cQ (Ei:=[(7,_)]) rfl rfl (bQ (bJ rfl rfl) bX) rfl rfl (dZ rfl (cZ (Ht rfl))) (cQ (Ei:=[(69,_),(70,_)]) rfl rfl (bQ (bZ 0 rfl rfl) (bQ (bZ 1 rfl rfl) bX)) rfl rfl (dZ rfl (gQ U_30 Z_29 (Ht rfl) (Ht rfl) rfl zo (by rw [Nat.mul_one,Nat.zero_add]))) ?_)))))))
      refine cQ (Ei:=[(71,_)]) rfl rfl (bQ (bZ 2 rfl rfl) bX) rfl rfl (dZ rfl (lK A_29 Z_29 (Ht rfl) (j:=1) rfl zo)) (cQ (Ei:=[(5,_)]) rfl rfl (bQ (bJ rfl rfl) bX) rfl rfl (dZ rfl (cZ (Ht rfl))) (cQ (Ei:=[(72,_),(73,_)]) rfl rfl (bQ (bZ 3 rfl rfl) (bQ (bZ 4 rfl rfl) bX)) rfl rfl (dZ rfl (oP U_29 Z_51 (Ht rfl) (Ht rfl) rfl (j:=1) rfl zo zo zo)) (cQ (Ei:=[(74,_)]) rfl rfl (bQ (bZ 5 rfl rfl) bX) rfl rfl (dZ rfl (tH A_51 Z_51 (Ht rfl) (j:=1) rfl zo zo zo)) ?_)))
      refine cQ (Ei:=[(75,_)]) rfl rfl (bQ (bZ 6 rfl rfl) bX) rfl rfl (dZ rfl (aT bL (Ht rfl))) (cQ (Ei:=[(0,_)]) rfl rfl (bQ (bJ rfl rfl) bX) rfl rfl (dZ rfl (cZ (Ht rfl))) (cQ (Ei:=[(5,_)]) rfl rfl (bQ (bJ rfl rfl) bX) rfl rfl (dZ rfl (cZ (Ht rfl))) (cQ (Ei:=[(77,_),(78,_)]) rfl rfl (bQ (bZ 8 rfl rfl) (bQ (bZ 9 rfl rfl) bX)) rfl rfl (dZ rfl (gQ U_30 Z_29 (Ht rfl) (Ht rfl) rfl zo (by rw [Nat.mul_one,Nat.zero_add]))) ?_)))
      refine cQ (Ei:=[(79,_)]) rfl rfl (bQ (bZ 10 rfl rfl) bX) rfl rfl (dZ rfl (lK A_29 Z_29 (Ht rfl) (j:=1) rfl zo)) (cQ (Ei:=[(5,_)]) rfl rfl (bQ (bJ rfl rfl) bX) rfl rfl (dZ rfl (cZ (Ht rfl))) (cQ (Ei:=[(80,_),(81,_)]) rfl rfl (bQ (bZ 11 rfl rfl) (bQ (bZ 12 rfl rfl) bX)) rfl rfl (dZ rfl (oP U_29 Z_51 (Ht rfl) (Ht rfl) rfl (j:=1) rfl zo zo zo)) (cQ (Ei:=[(82,_)]) rfl rfl (bQ (bZ 13 rfl rfl) bX) rfl rfl (dZ rfl (tH A_51 Z_51 (Ht rfl) (j:=1) rfl zo zo zo)) ?_)))
      refine cQ (Ei:=[(76,_),(83,_)]) rfl rfl (bQ (bZ 7 rfl rfl) (bQ (bZ 14 rfl rfl) bX)) rfl rfl (dZ rfl (aL lU K_40 (vB (x:=gm X r c) (y:=gm X c c) (L:=G) (M:=G) zo) (Ht rfl) ⟨(Ht rfl),trivial⟩)) (cQ (Ei:=[(84,_)]) rfl rfl (bQ (bZ 15 rfl rfl) bX) rfl rfl (dZ rfl (cZ (Ht rfl))) (cQ (Ei:=[(68,_)]) rfl rfl (bQ (bZ 16 rfl rfl) bX) rfl rfl (dZ rfl (dU (Ht rfl) rfl)) (cQ (Ei:=[(68,_)]) rfl rfl (bQ (bZ 16 rfl rfl) bX) rfl rfl (dZ rfl (dU (Ht rfl) rfl)) ?_)))
      refine Y.D_newp (Ei:=[]) (fun bb=>box bb 51 [aD (decide ((gm X r c / gm X c c).a < 0)),aI (gm X r c / gm X c c).a.natAbs,aD (decide ((gm X r c / gm X c c).b < 0)),aI (gm X r c / gm X c c).b.natAbs,aI (du (gm X r c / gm X c c))]) 20 rfl rfl rfl bX rfl rfl (by kernel_rfl) (eG (Ts:=[Is (.bool false),Is (.slice none 0 0),Is (.bool false),Is (.slice none 0 0),Is (.slice none 0 0)]) O_51 rfl (fun V=>aW zd (aW zd (aW zd (aW zd (aW zd (aG))))))) ?_
      refine Y.D_putN (Ei:=[(85,_)]) 19 rfl rfl rfl rfl rfl rfl (bQ (bZ 17 rfl rfl) bX) (fun bb=>lA Z_51 (Ht rfl) (Ht rfl) rfl (i:=0) rfl (aK rfl) rfl rfl) (Y.D_done bE rfl (by kernel_rfl) rfl (by simp [Y.okP]) rfl rfl (bU (bU (bU (bU (bU (bU (bU (bU (bU (bU (bU (bU (bU (bU (bU (bU (bU (bU (bU (Y.F_newp (fun B8=>Y.F_putN (Y.F_nil ?_)))))))))))))))))))))))
      refine ra rfl (eZ (ts (rm rfl (ro rfl (dW (Ht rfl) (cV 1) z6) (ra rfl (eZ (eK ?_)))))))
      refine cF (fun (k : Nat) => c < k ∧ k ≤ m) (fun (k : Nat) => m - k) (fun (k : Nat) => [(0, Is (.slice (some ⟨B, 0, none⟩) n n)), (4, NT .i64 q), (5, NT .i64 c), (7, NT .i64 r), (8, bT B8 0), (10, NT .i64 k), (12, NT .i64 n), (13, NT .i64 c)]) (fun (k : Nat) => [Z, jX B 29 51 5 us us (cE aH (X.set r (kX (dT X r) (dT X c) c k))), box B8 51 [aD (decide ((gm X r c / gm X c c).a < 0)), aI (gm X r c / gm X c c).a.natAbs, aD (decide ((gm X r c / gm X c c).b < 0)), aI (gm X r c / gm X c c).b.natAbs, aI (du (gm X r c / gm X c c))]]) (c + 1) ⟨Nat.lt_succ_self _, by omega⟩
       (zS rfl) (aU (fun _ _ _ h=>h) (aU (zU (by rw [← Ng,a4i zo])) (aU (aB rfl) aY))) (fun k ⟨hck,hkm⟩=>?_)
      obtain ⟨Y,hY⟩:∃ Y,Y = (X.set r (kX (dT X r) (dT X c) c k)):=⟨_,rfl⟩
      have hYl:Y.length = n:=by rw [hY,List.length_set]; exact hXl
      have hYrl:(dT Y r).length = m:=by rw [hY,Gz zo,wW]; exact hXrl
      have hYcl:(dT Y c).length = m:=by rw [hY,yC zo]; exact hXcl
      have hYrg:(Y.getD r []).length = m:=hYrl
      have hYcg:(Y.getD c []).length = m:=hYcl
      rw [← hY]
      refine cU (ts (rm rfl (rm rfl (rm rfl (ro rfl (gQ U_30 Z_29 (Ht rfl) (Ht rfl) rfl zo (by rw [Nat.mul_one,Nat.zero_add])) ?_)))))
      refine ro rfl (lK A_29 Z_29 (Ht rfl) (j:=1) rfl zo) (ro rfl (a1z U_29 (Ht rfl) (j:=1) rfl zo zo) (ro rfl (gZ (Ht rfl) (Ht rfl)) (eZ (dX (Ht rfl) (fun hk=>?_) (fun hk=>?_)))))
      ·have hk2 : k < m := by simp only [decide_eq_true_eq] at hk; omega
       have e1:gm Y r k = gv (dT X r) k:=by rw [hY]; exact a58 zo zo hck
       have e2:gm Y c k = gv (dT X c) k:=by rw [hY]; exact a57 zo
       haveI y1:aE (gm Y r k) G:=by rw [e1]; exact hXfr.get hG1 k
       haveI y2:aE (gm Y c k) G:=by rw [e2]; exact hXfc.get hG1 k
       have hst:=Zt (X:=X) (r:=r) (c:=c) (k:=k) zo zo zo hck
       rw [← hY] at hst
       refine cY (cU (eK (fJ (m:=24) (dp 0 rfl (cZ (Ht rfl)) (dp 7 rfl (cZ (Ht rfl)) (dR 98 0 99 1 rfl (gQ U_30 Z_29 (Ht rfl) (Ht rfl) rfl zo (by rw [Nat.mul_one,Nat.zero_add])) ?_))))))
       refine dq 100 2 rfl (lK A_29 Z_29 (Ht rfl) (j:=1) rfl zo) (dp 10 rfl (cZ (Ht rfl)) (dp 0 rfl (cZ (Ht rfl)) (dp 7 rfl (cZ (Ht rfl)) (dR 103 5 104 6 rfl (gQ U_30 Z_29 (Ht rfl) (Ht rfl) rfl zo (by rw [Nat.mul_one,Nat.zero_add])) ?_))))
       refine dq 105 7 rfl (lK A_29 Z_29 (Ht rfl) (j:=1) rfl zo) (dp 10 rfl (cZ (Ht rfl)) (dR 106 8 107 9 rfl (oP U_29 Z_51 (Ht rfl) (Ht rfl) rfl (j:=1) rfl zo zo zo) (dq 108 10 rfl (tH A_51 Z_51 (Ht rfl) (j:=1) rfl zo zo zo) (dq 109 11 rfl (aT bL (Ht rfl)) (dp 8 rfl (eW A_51 Z_51 (Ht rfl) (i:=2) rfl rfl rfl) (dq 111 13 rfl (aT bL (Ht rfl)) (dp 0 rfl (cZ (Ht rfl)) (dp 5 rfl (cZ (Ht rfl)) (dR 113 15 114 16 rfl (gQ U_30 Z_29 (Ht rfl) (Ht rfl) rfl zo (by rw [Nat.mul_one,Nat.zero_add])) ?_)))))))))
       refine dq 115 17 rfl (lK A_29 Z_29 (Ht rfl) (j:=1) rfl zo) (dp 10 rfl (cZ (Ht rfl)) (dR 116 18 117 19 rfl (oP U_29 Z_51 (Ht rfl) (Ht rfl) rfl (j:=1) rfl zo zo zo) (dq 118 20 rfl (tH A_51 Z_51 (Ht rfl) (j:=1) rfl zo zo zo) (dR 112 14 119 21 rfl (aL cL K_45 (iT (x:=gm X r c / gm X c c) (y:=gm Y c k) (L:=G + 3 * G + 2) (M:=G) zo) (Ht rfl) ⟨(Ht rfl),trivial⟩) (dR 110 12 120 22 rfl (aL iX K_44 (rV (x:=gm Y r k) (y:=gm X r c / gm X c c * gm Y c k) (L:=G) (M:=G + 3 * G + 2 + G + 1) zo) (Ht rfl) ⟨(Ht rfl),trivial⟩) ?_)))))
       refine fW bE rfl (by kernel_rfl) (zF (zF (zF (zF (zF (zF (aV (ro rfl (oP U_29 Z_51 (Ht rfl) (Ht rfl) rfl (j:=1) rfl zo zo zo) (a4L Z_51 (Ht rfl) (Ht rfl) (j:=1) rfl (El.ag rfl) (F:=aH) (z:=gm Y r k - gm X r c / gm X c c * gm Y c k) zo zo zo rfl (eZ (bO (dQ ?_))))))))))))
       refine rm rfl (ro rfl (dW (Ht rfl) (cV 1) z6) (ra rfl (eZ (fY (k + 1) ⟨by omega,hk2⟩ zo (zS rfl) (aU (fun _ _ _ h=>h) (aU (zU (congrArg _ hst)) (aU (aB rfl) aY)))))))
      ·have hk3 : k = m := by simp only [decide_eq_false_iff_not] at hk; omega
       subst hk3
       refine gW rfl (bO (dQ (rm rfl (ro rfl (dW (Ht rfl) (cV 1) z6) (ra rfl (eZ (cD [0,1] rfl (by decide) (fY (r + 1) ⟨by omega,hr⟩ zo (zS rfl) (aU (fun _ _ _ h=>h) (aU (zU (by rw [hY,← hend,hDs.row hr])) aY))))))))))
     ·simp only [decide_eq_false_iff_not] at hr
      obtain rfl:r = n:=Nat.le_antisymm hrn zo
      refine gW rfl (bO (dQ (ro rfl (dW (Ht rfl) (cV 1) z6) (rm rfl (eZ (fY (c + 1,q,us,redM D c r) ⟨⟨hcn,by show q ≤ c + 1; rw [hq]; split <;> omega⟩,hnx,hus⟩ (by dsimp only; omega) (zS rfl) (dM.refl _)))))))
 ·simp only [decide_eq_false_iff_not] at hcn
  obtain rfl:c = n:=Nat.le_antisymm hc zo
  have hvl:=hvs.len
  have hAs:cM A c m:=by have h:=pC hs hc; rw [hA] at h; exact h
  refine gW rfl (ts (rm rfl (ra rfl (ro rfl (cX cW) (eZ ?_)))))
  exact kH () trivial [0,1] ⟨⟨_,rfl,fun _ _ _ h=>h⟩,⟨_,rfl,(fun S w V h=>cB (by rw [hA]) S w V (Bu (by rw [List.length_map,hAs.1]; exact hvl) S w V h))⟩,trivial⟩ (by decide) (a1V rfl (fZ (eY rfl) (kU (by rw [hA]))) (fZ (eY rfl) (aS (by rw [hA]))))
end
section
open Go Go.RowKit
abbrev Im (M bs:List (List Qi)) (i:Nat):List Qi:=dT M i ++ bs.map fun b=>gv b i
def jK (M bs:List (List Qi)) (n:Nat):List (List Qi):=tab n (Im M bs)
theorem a0J {r:List Qi} {bs:List (List Qi)} {i j:Nat} (h:j < bs.length):(r ++ (bs.take j).map fun b=>gv b i) ++ [gv (bs.getD j []) i] = r ++ (bs.take (j + 1)).map fun b=>gv b i:=by
 rw [List.append_assoc,List.take_add_one,List.map_append]
 simp [List.getD,h]
theorem lS {M bs:List (List Qi)} {n m:Nat} (h:cM M n m):cM (jK M bs n) n (m + bs.length):=by
 refine ⟨aN _ _,fun r hr=>?_⟩
 obtain ⟨i,hi,rfl⟩:=eA.1 hr
 rw [List.length_append,List.length_map,h.row hi]
theorem uA {M bs : List (List Qi)} {n L : Nat} (h : bC M L) (hb : bC bs L) (hL : 1 ≤ L) : bC (jK M bs n) L := fun r hr x hx => by
 obtain ⟨i,hi,rfl⟩:=eA.1 hr
 rcases List.mem_append.1 hx with h1 | h1
 ·exact h.row i x h1
 ·obtain ⟨b, hb1, rfl⟩ := List.mem_map.1 h1
  exact bP.get (hb b hb1) hL i
theorem Sd {M:List (List Qi)} {n m:Nat} (h:cM M n m):jK M [] n = M:=by
 have:jK M [] n = tab n (dT M):=dD fun i _=>by simp [Im]
 rw [this]; exact (Nn (h:=h.1)).symm
def oD (U : List (List Qi)) (x : List Qi) (n c : Nat) : Nat → Qi
 | 0=>gm U c n
 | k + 1=>oD U x n c k - gm U c (c + 1 + k) * gv x (c + 1 + k)
def nH (U : List (List Qi)) (n : Nat) : Nat → List Qi
 | 0=>tab n fun _=>Qi.zero
 | j + 1=>(nH U n j).set (n - (j + 1)) (oD U (nH U n j) n (n - (j + 1)) j / gm U (n - (j + 1)) (n - (j + 1)))
theorem tV (U : List (List Qi)) (n : Nat) : ∀ j, (nH U n j).length = n
 | 0=>aN _ _
 | j + 1=>by rw [nH,List.length_set,tV U n j]
def rR (M:List (List Qi)) (b:List Qi) (n:Nat):List (List Qi) × Nat × Int:=cI (jK M [b] n) n
def kZ (M:List (List Qi)) (b:List Qi) (n:Nat):Int:=if 0 ≤ (rR M b n).2.2 then 6 else 0
def kR (M:List (List Qi)) (b:List Qi) (n:Nat):List Qi:=nH (rR M b n).1 n n
def Rj (G : Nat) : Nat → Nat
 | 0=>G
 | j + 1=>j * (Rj G j + G + 2) + 4 * G + 2
theorem Cy (G j:Nat):Rj G j ≤ Rj G (j + 1):=by
 cases j with
 | zero=>simp only [Rj]; omega
 | succ j =>
  have:Rj G (j + 1) + G + 2 ≤ (j + 1) * (Rj G (j + 1) + G + 2):=Nat.le_mul_of_pos_left _ zo
  rw [show Rj G (j + 1 + 1) = (j + 1) * (Rj G (j + 1) + G + 2) + 4 * G + 2 from rfl]
  omega
theorem Nu (G : Nat) : ∀ j, G ≤ Rj G j
 | 0=>Nat.le_refl _
 | j + 1=>Nat.le_trans (Nu G j) (Cy G j)
theorem Lg (G : Nat) : ∀ {i j : Nat}, i ≤ j → Rj G i ≤ Rj G j
 | i,0,h=>by rw [show i = 0 by omega]; exact Nat.le_refl _
 | i, j + 1, h => by
  by_cases e:i = j + 1
  ·rw [e]; exact Nat.le_refl _
  ·exact Nat.le_trans (Lg G (show i ≤ j by omega)) (Cy G j)
theorem qO {M : List (List Qi)} {n m : Nat} (hs : cM M n m) : ∀ {c : Nat}, c ≤ n → (cI M c).2.2 < 0 → ∀ i, i < c → gm (cI M c).1 i i ≠ Qi.zero
 | 0,_,_,i,hi=>by omega
 | c + 1, hc, hst, i, hi => by
  have sh:=pC hs (c:=c) zo
  obtain ⟨_,i2,i3,i4⟩:=nK (M:=(cI M c).1) (c:=c) (n:=M.length) (by rw [hs.1]; omega)
  simp only [cI] at hst ⊢
  split at hst
  ·rename_i h0; omega
  ·rename_i h0
   rw [if_neg h0]
   split at hst
   ·simp at hst; omega
   ·rename_i h1
    rw [if_neg h1]
    have ih:=qO hs (c:=c) zo zo
    have hl : ∀ X : List (List Qi), X.length = n → gm (redM X c M.length) i i = gm X i i := fun X hX => by
     show gv (dT (redM X c M.length) i) i = _
     rw [wV zo zo]
    by_cases e:pv (cI M c).1 c M.length = c
    ·rw [if_pos e, hl _ sh.1]
     by_cases e2:i = c
     ·rw [e2]; have:=i4 (by have:=hs.1; omega); rw [e] at this; exact this
     ·exact ih i zo
    ·have hpl : pv (cI M c).1 c M.length < n := by rw [← hs.1]; omega
     rw [if_neg e,hl _ ((Ad _ _ _ _).trans sh.1)]
     by_cases e2:i = c
     ·rw [e2]
      show gv (dT (swp [] _ _ c) c) c ≠ _
      rw [yG (by rw [sh.1]; omega)]
      exact i4 (by have:=hs.1; omega)
     ·have : dT (swp [] (cI M c).1 (pv (cI M c).1 c M.length) c) i = dT (cI M c).1 i := by
       simp only [dT,swp,List.getD]
       rw [List.getElem?_set_ne (Ne.symm e2),List.getElem?_set_ne zo]
      show gv (dT (swp [] _ _ c) i) i ≠ _
      rw [this]; exact ih i zo
theorem Ac {U : List (List Qi)} {x : List Qi} {n c G X : Nat} (hU : bC U G) (hx : bP x X) (hG : 1 ≤ G) (hX : 1 ≤ X) : ∀ k, aE (oD U x n c k) (G + k * (G + X + 2))
 | 0=>(hU.get hG c n).le zo
 | k + 1 => by
  haveI f1:=Ac (n:=n) (c:=c) hU hx hG hX k
  haveI f2:=hU.get hG c (c + 1 + k)
  haveI f3:=hx.get hX (c + 1 + k)
  have:aE (oD U x n c (k + 1)) (G + k * (G + X + 2) + (G + X + 1) + 1):=by unfold oD; infer_instance
  exact this.le (by rw [Nat.add_mul]; omega)
theorem a32 {U:List (List Qi)} {x:List Qi} {n c G X j:Nat} (hU:bC U G) (hx:bP x X) (hG:1 ≤ G) (hX:1 ≤ X) (hz:gm U c c ≠ Qi.zero):aE (oD U x n c j / gm U c c) (j * (X + G + 2) + 4 * G + 2):=by
 have f1:=Ac (n:=n) (c:=c) hU hx hG hX j
 have f2:=hU.get hG c c
 have:aE (oD U x n c j / gm U c c) (G + j * (G + X + 2) + 3 * G + 2):=⟨f1.fit.div f2.fit hz⟩
 exact this.le (by rw [Nat.add_comm X G]; omega)
theorem Uz {U : List (List Qi)} {n G : Nat} (hU : bC U G) (hG : 1 ≤ G) (hz : ∀ i, i < n → gm U i i ≠ Qi.zero) : ∀ j, j ≤ n → bP (nH U n j) (Rj G j)
 | 0,_=>bP.tab fun _ _=>aE.zero hG
 | j + 1, hj => fun y hy => by
  have ih:=Uz hU hG hz j zo
  rcases List.mem_or_eq_of_mem_set hy with h1 | h1
  ·exact (ih y h1).le (Cy G j)
  ·rw [h1]; exact a32 hU ih hG (Nat.le_trans hG (Nu G j)) (hz _ zo)
theorem Zq {M:List (List Qi)} {b:List Qi} {n:Nat} (h:cM M n n):cM (rR M b n).1 n (n + 1):=pC (lS h) (Nat.le_refl n)
theorem Zp {M:List (List Qi)} {b:List Qi} {n L:Nat} (h:cM M n n) (hM:bC M L) (hb:bP b L) (hL:1 ≤ L):bC (rR M b n).1 (sM L n):=Bg (lS h) (uA hM (fun r hr=>by simp at hr; subst hr; exact hb) hL) hL (Nat.le_refl n)
def Cu (n i:Nat):List Qi:=(tab n fun _=>Qi.zero).set i (Qi.ofInt 1)
def wK (n:Nat):List (List Qi):=tab n (Cu n)
theorem rL (n:Nat):cM (wK n) n n:=⟨aN _ _,fun r hr=>by obtain ⟨i,_,rfl⟩:=eA.1 hr; rw [Cu,List.length_set,aN]⟩
theorem kG:aE (Qi.ofInt 1) 1:=⟨Qi.Fit.int (L:=1) (by decide) (by decide)⟩
theorem Tx {n i L : Nat} (h : 1 ≤ L) : bP (Cu n i) L := fun x hx => by
 rcases List.mem_or_eq_of_mem_set hx with h1 | h1
 ·obtain ⟨_,_,rfl⟩:=eA.1 h1; exact aE.zero h
 ·rw [h1]; exact kG.le h
theorem a0U {n L:Nat} (h:1 ≤ L):bC (wK n) L:=fun r hr=>by obtain ⟨i,_,rfl⟩:=eA.1 hr; exact Tx h
theorem Ra {M:List (List Qi)} {b:List Qi} {n:Nat} (h:¬ 0 ≤ (rR M b n).2.2):(rR M b n).2.2 < 0:=by omega
theorem Ag (F:Qi → Ty) (n:Nat):List.replicate n (F Qi.zero) = (tab n fun _=>Qi.zero).map F:=by rw [Af,a1N]
theorem a4U {n j:Nat} (h:(0:Int) ≤ (n:Int) - 1 - (j:Int)):j < n:=by omega
theorem a4V {n j:Nat} (h:(n:Int) - 1 - (j:Int) < 0):n ≤ j:=by omega
end
section
open Go Go.RowKit
theorem Ry  : bH Tryz.prog 174 [bB []] (aD true):=by
 refine bH.intro Tryz.func174 rfl Tryz.ntmps174 rfl (fun cx=>(ts (ro rfl (cX cW) (eZ (ts (rm rfl (ro rfl (cJ Tryz.call240 Ar ⟨(Ht rfl),trivial⟩) (rm rfl (ro rfl (dU (Ht rfl) rfl) (ro rfl (dU (Ht rfl) rfl) (ra rfl (ra rfl (eZ (ts (rm rfl (rm rfl (fX rfl rfl (eU rfl rfl (Ht rfl) (fun h=>cZ (Ht rfl))) (fX rfl rfl (eU rfl rfl (Ht rfl) (fun h=>cZ (Ht rfl))) (fX rfl rfl (eU rfl rfl (Ht rfl) (fun h=>dK U_30 (fV rfl h) aA)) (fX rfl rfl (eU rfl rfl (Ht rfl) (fun h=>dO (fV rfl h) (fV rfl h))) ?_))))))))))))))))))))
 refine ro rfl (fM (Ht rfl) (fun h=>(fV rfl h))) (ra rfl (eZ (fG rfl (fZ (eY rfl) ?_))))
 exact (dH (by simp))
theorem Ie {M:List (List Qi)} {n:Nat} (h:cM M n n) (h1:1 ≤ n) (hn:n ≤ 32):bH Tryz.prog 174 [bB M] (aD true):=by
 have hl:=h.1
 refine bH.intro Tryz.func174 rfl Tryz.ntmps174 rfl (fun cx=>(ts (ro rfl (cX cW) (eZ (ts (rm rfl (ro rfl (cJ Tryz.call240 (xK h h1 hn hn) ⟨(Ht rfl),trivial⟩) (rm rfl (ro rfl (dU (Ht rfl) rfl) (ro rfl (dU (Ht rfl) rfl) (ra rfl (ra rfl (eZ (ts (rm rfl (rm rfl (fX rfl rfl (eU rfl rfl (Ht rfl) (fun h=>cZ (Ht rfl))) (fX rfl rfl (eU rfl rfl (Ht rfl) (fun h=>cZ (Ht rfl))) (fX rfl rfl (eU rfl rfl (Ht rfl) (fun h=>dK U_30 (fV rfl h) aA)) (fX rfl rfl (eU rfl rfl (Ht rfl) (fun h=>dO (fV rfl h) (fV rfl h))) ?_))))))))))))))))))))
 refine ro rfl (fM (Ht rfl) (fun h=>(fV rfl h))) (ra rfl (eZ (fG rfl (fZ (eY rfl) ?_))))
 exact (dH (by simp [hl]))
theorem Rz {M:List (List Qi)} {n:Nat} (h:cM M n n) (hn:n ≤ 32):bH Tryz.prog 174 [bB M] (aD true):=by
 by_cases e:n = 0
 ·subst e
  obtain rfl:=List.length_eq_zero_iff.1 h.1
  exact Ry
 ·exact Ie h zo hn
theorem Dq {M bs:List (List Qi)} {n m:Nat} (hM:cM M n m) (hb:∀ b,b ∈ bs → n ≤ b.length) (hn:n ≤ 1000) (hm:m ≤ 1000) (hbl:bs.length ≤ 1000):gO Tryz.prog 193 [bB M,bB bs] [] (Nat) (fun B=>Is (.slice (some ⟨B,0,none⟩) n n)) (fun B=>[nR B 29 51 5 (cE aH (jK M bs n))]) (fun _=>True):=by
 have hMl:=hM.1
 refine gO.intro Tryz.func193 rfl Tryz.ntmps193 rfl (fun cx Z=>(ts (ro rfl (cX cW) (eZ (ts (rm rfl (ro rfl (dK U_30 (Ht rfl) aA) (rn rfl (eM (T:=Is (.slice none 0 0)) (i:=Tryz.t29) V_30 lH rfl rfl (Ht rfl) rfl (fun _=>rfl) trivial (by show 24 * _ ≤ _; omega) zo) fun B12=>(ra rfl (eZ (cU (ts (rm rfl (ro rfl (dK U_30 (Ht rfl) aA) (ro rfl (cZ (cV 0)) (eZ (eK (nZ 1 rfl (uI (e:=51) (s:=5)) ?_))))))))))))))))))
 refine cF (fun (i : Nat) => i ≤ M.length) (fun (i : Nat) => M.length - i) (fun (i : Nat) => [(0, bB M), (1, bB bs), (5, Is (.slice (some ⟨B12, 0, none⟩) M.length M.length)), (13, bB M), (14, NT .i64 M.length), (15, NT .i64 i)]) (fun (i : Nat) => [Z, nR B12 29 51 5 (cE aH (mA (Im M bs) [] M.length i))]) 0 (Nat.zero_le _)
  (zS rfl) (aU (fun _ _ _ h=>h) (aU (cB (by rw [← jS,kS]; exact mL aH M.length)) aY)) (fun i hi=>?_)
 refine ts (ro rfl (gZ (Ht rfl) (Ht rfl)) (eZ (cU (dX (Ht rfl) (fun hd0=>?_) (fun hd0=>?_)))))
 ·simp only [decide_eq_true_eq] at hd0
  have hrl:(dT M i).length = m:=hM.row zo
  have hrl2:(M.getD i []).length = m:=hrl
  refine nG 1 (i) rfl (mE hd0) (fun v0=>(cY (cU (eK (ts (rm rfl (ro rfl (dJ U_30 Z_29 (Ht rfl) (Ht rfl) rfl (eQ (dY (d:=[]) hd0))) (ro rfl (dV A_29 Z_29 (Ht rfl)) (ra rfl (ra rfl (eZ (ts (rm rfl (rm rfl (rm rfl (kC Tryz.call158 (Hw (l:=M.getD i []) zo) ⟨(Ht rfl),trivial⟩ rfl (fun v1 _=>(ro rfl (gQ U_30 Z_29 (Ht rfl) (Ht rfl) rfl zo (by rw [Nat.mul_one,Nat.zero_add])) ?_))))))))))))))))))
  refine uV Z_29 (Ht rfl) (Ht rfl) (by simp only [cE,List.length_map,eS]; omega) (j:=1) (l:=3) rfl rfl rfl ?_
  refine eZ (ts (rm rfl (ro rfl (dK U_30 (Ht rfl) aA) (ro rfl (cZ (cV 0)) (eZ (eK (cD [0,1,3] rfl (by decide) ?_)))))))
  refine fS (fun (j : Nat) (v : Value) => j ≤ bs.length) (fun (j : Nat) (v : Value) => bs.length - j) (fun (j : Nat) (v : Value) => [(0, bB M), (1, bB bs), (5, Is (.slice (some ⟨B12, 0, none⟩) M.length M.length)), (6, NT .i64 i), (13, bB M), (14, NT .i64 M.length), (15, NT .i64 i), (25, bB bs), (26, NT .i64 bs.length), (27, NT .i64 j)]) (fun (j : Nat) (v : Value) => [Z, Di B12 29 51 5 (cE aH (mA (Im M bs) [] M.length i)) i v, cC 51 5 v ((dT M i ++ (bs.take j).map fun b => gv b i).map aH)]) 0 v1 (Nat.zero_le _)
   (zS rfl) (aU (fun _ _ _ h=>h) (aU (fun _ _ _ h=>h) (aU (bR (by simp)) aY))) (fun j v hj=>?_)
  refine ts (ro rfl (gZ (Ht rfl) (Ht rfl)) (eZ (cU (dX (Ht rfl) (fun he=>?_) (fun he=>?_)))))
  ·simp only [decide_eq_true_eq] at he
   have hbj:i < (bs.getD j []).length:=by have h1:=hb (bs.getD j []) (by rw [Gc he]; exact List.getElem_mem _); omega
   refine cY (cU (eK (ts (ro rfl (dJ U_30 Z_29 (Ht rfl) (Ht rfl) rfl (eQ (dY (d:=[]) he))) (ro rfl (dV A_29 Z_29 (Ht rfl)) (ra rfl (eZ (Y.D_startA (m:=12) [] 11 2 rfl rfl (cQ (Ei:=[(5,_)]) rfl rfl (bQ (bJ rfl rfl) bX) rfl rfl (dZ rfl (cZ (Ht rfl))) (cQ (Ei:=[(6,_)]) rfl rfl (bQ (bJ rfl rfl) bX) rfl rfl (dZ rfl (cZ (Ht rfl))) (cQ (Ei:=[(5,_)]) rfl rfl (bQ (bJ rfl rfl) bX) rfl rfl (dZ rfl (cZ (Ht rfl))) ?_)))))))))))
   refine cQ (Ei:=[(6,_)]) rfl rfl (bQ (bJ rfl rfl) bX) rfl rfl (dZ rfl (cZ (Ht rfl))) (cQ (Ei:=[(33,_),(34,_)]) rfl rfl (bQ (bZ 2 rfl rfl) (bQ (bZ 3 rfl rfl) bX)) rfl rfl (dZ rfl (gQ U_30 Z_29 (Ht rfl) (Ht rfl) rfl zo (by rw [Nat.mul_one,Nat.zero_add]))) ?_)
   refine cQ (Ei:=[(35,_)]) rfl rfl (bQ (bZ 4 rfl rfl) bX) rfl rfl (dZ rfl (jZ A_29 Z_29 (Ht rfl) (j:=1) rfl)) (cQ (Ei:=[(9,_)]) rfl rfl (bQ (bJ rfl rfl) bX) rfl rfl (dZ rfl (cZ (Ht rfl))) (cQ (Ei:=[(6,_)]) rfl rfl (bQ (bJ rfl rfl) bX) rfl rfl (dZ rfl (cZ (Ht rfl))) (cQ (Ei:=[(37,_),(38,_)]) rfl rfl (bQ (bZ 6 rfl rfl) (bQ (bZ 7 rfl rfl) bX)) rfl rfl (dZ rfl (dJ U_29 Z_51 (Ht rfl) (Ht rfl) rfl (eQ (dY (d:=Qi.zero) hbj)))) ?_)))
   refine cQ (Ei:=[(39,_)]) rfl rfl (bQ (bZ 8 rfl rfl) bX) rfl rfl (dZ rfl (dV A_51 Z_51 (Ht rfl))) (cQ (Ei:=[(40,_)]) rfl rfl (bQ (bZ 9 rfl rfl) bX) rfl rfl (dZ rfl (cR (xs:=[.tmp 40]) U_29 Z_51 O_51 (cG (Ht rfl) cK) rfl rfl rfl)) (Y.D_app (Ei:=[(36,_),(41,_)]) rfl rfl rfl rfl (bQ (bZ 5 rfl rfl) (bQ (bZ 10 rfl rfl) bX)) rfl (qF (inf:=Tryz.t51) lR jO rfl rfl rfl (Ht rfl) (Ht rfl) (by simp) (fun T hT=>by simp at hT; subst hT; exact El.ag rfl) (by show _ * 88 ≤ _; simp only [List.length_map,List.length_append,List.length_take,List.length_cons,List.length_nil]; omega) (by simp only [List.length_map,List.length_append,List.length_take,List.length_cons,List.length_nil]; omega)) ?_))
   refine Y.D_done bE rfl (by kernel_rfl) rfl (by simp [Y.okP]) rfl rfl (bU (bU (bU (bU (bU (bU (bU (bU (bU (bU (bU (Y.F_app (fun v2=>Y.F_nil ?_)))))))))))))
   refine ro rfl (gQ U_30 Z_29 (Ht rfl) (Ht rfl) rfl zo (by rw [Nat.mul_one,Nat.zero_add])) ?_
   refine uV Z_29 (Ht rfl) (Ht rfl) (by simp only [cE,List.length_map,eS]; omega) (j:=1) (l:=3) rfl rfl rfl ?_
   refine eZ (bO (dQ (ro rfl (dW (Ht rfl) (cV 1) z6) (rm rfl (eZ (cD [0,1,3] rfl (by decide) (fY (j + 1,v2) he (by dsimp only; omega) (zS rfl) (aU (fun _ _ _ h=>h) (aU (fun _ _ _ h=>h) (aU (bR ((qK aH _ (gv (bs.getD j []) i)).trans (congrArg _ (a0J he)))) aY))))))))))
  ·simp only [decide_eq_false_iff_not] at he
   obtain rfl:bs.length = j:=Nat.le_antisymm zo hj
   refine gW rfl (bO (fP 1 2 rfl rfl (by decide) (by simp only [cE,List.length_map,eS]; omega) ?_))
   refine dQ (ro rfl (dW (Ht rfl) (cV 1) z6) (rm rfl (eZ (cD [0,1] rfl (by decide) (fY (i + 1) hd0 zo (zS rfl) (aU (fun _ _ _ h=>h) (aU (cB (by rw [List.take_length,gH,← lJ (f:=Im M bs)])) aY)))))))
 ·simp only [decide_eq_false_iff_not] at hd0
  obtain rfl:i = M.length:=Nat.le_antisymm hi zo
  subst hMl
  refine gW rfl (ts (rm rfl (ra rfl (eZ ?_))))
  exact kH B12 trivial [0,1] ⟨⟨_,rfl,fun _ _ _ h=>h⟩,⟨_,rfl,(cB (by rw [lI]; rfl))⟩,trivial⟩ (by decide) (yB rfl (eY rfl))
end
section
open Go Go.RowKit
abbrev ek (n k:Nat):List Qi:=(wK n).getD k []
theorem a3t {n k:Nat} (h:k < n):(ek n k).length = n:=(rL n).row h
theorem a3s {n k L:Nat} (h:1 ≤ L):bP (ek n k) L:=(a0U h).row k
def sO (M:List (List Qi)) (n:Nat):Int:=kJ (fun k=>kZ M (ek n k) n) n
def qU (M:List (List Qi)) (n:Nat):List (List Qi):=tab n fun r=>tab n fun j=>gv (kR M (ek n j) n) r
theorem rD {α:Type} {n i:Nat} {f:Nat → α} {d:α} (h:i < n):(tab n f).getD i d = f i:=by simp [List.getD,dB h]
def sP (M:List (List Qi)) (n k i:Nat):List (List Qi):=tab n fun r=>tab n fun j=>if j < k ∨ j = k ∧ r < i then gv (kR M (ek n j) n) r else gm M r j
theorem qT (M:List (List Qi)) (n k i:Nat):cM (sP M n k i) n n:=cM.tab
theorem Sr {M:List (List Qi)} {n:Nat} (h:cM M n n):M = sP M n 0 0:=by
 rw [sP]
 conv=>lhs; rw [pV h]
 exact dD fun r _=>dD fun j _=>by rw [if_neg zo]
theorem Xf (M : List (List Qi)) (n k : Nat) : sP M n k n = sP M n (k + 1) 0 := dD fun r hr => dD fun j _ => by
 by_cases h:j < k ∨ j = k ∧ r < n
 ·rw [if_pos h,if_pos zo]
 ·rw [if_neg h,if_neg zo]
theorem Xg (M:List (List Qi)) (n:Nat):sP M n n 0 = qU M n:=dD fun r _=>dD fun j hj=>by rw [if_pos zo]
theorem Sq {M:List (List Qi)} {n k i:Nat} (hi:i < n) (hk:k < n):(sP M n k i).set i (((sP M n k i).getD i []).set k (gv (kR M (ek n k) n) i)) = sP M n k (i + 1):=by
 apply List.ext_getElem?
 intro r
 by_cases hr:r < n
 ·by_cases e : r = i
  ·subst e
   rw [List.getElem?_set_self (by rw [(qT _ _ _ _).1]; exact hr),sP,sP,dB (f:=fun r=>tab n fun j=>if j < k ∨ j = k ∧ r < _ + 1 then gv (kR M (ek n j) n) r else gm M r j) hr]
   congr 1
   have:(tab n fun x=>tab n fun j=>if j < k ∨ j = k ∧ x < r then gv (kR M (ek n j) n) x else gm M x j).getD r [] = tab n fun j=>if j < k ∨ j = k ∧ r < r then gv (kR M (ek n j) n) r else gm M r j:=rD hr
   rw [this]
   apply List.ext_getElem?
   intro j
   by_cases hj:j < n
   ·by_cases e2 : j = k
    ·subst e2
     rw [List.getElem?_set_self (by rw [aN]; exact hj),dB hj,if_pos zo]
    ·rw [List.getElem?_set_ne (Ne.symm e2), dB hj, dB hj]
     by_cases e3:j < k
     ·rw [if_pos (.inl e3),if_pos (.inl e3)]
     ·rw [if_neg zo,if_neg zo]
   ·rw [List.getElem?_eq_none (by rw [List.length_set,aN]; omega),List.getElem?_eq_none (by rw [aN]; omega)]
  ·rw [List.getElem?_set_ne (Ne.symm e), sP, sP, dB hr, dB hr]
   congr 1
   refine dD fun j _=>?_
   by_cases e3:j < k ∨ j = k ∧ r < i
   ·rw [if_pos e3,if_pos zo]
   ·rw [if_neg e3,if_neg zo]
 ·rw [List.getElem?_eq_none (by rw [List.length_set,(qT _ _ _ _).1]; omega),List.getElem?_eq_none (by rw [(qT _ _ _ _).1]; omega)]
theorem a0W {M:List (List Qi)} {n k:Nat} (h:∀ i,i < k → kZ M (ek n i) n = 0) (hk:k < n) (hx:kZ M (ek n k) n ≠ 0):sO M n = kZ M (ek n k) n:=xT h hx hk
theorem So {M:List (List Qi)} {n:Nat} (h:∀ i,i < n → kZ M (ek n i) n = 0):sO M n = 0:=jL h
theorem Uq {T : Ty} {s : Nat} : ∀ vs V, gE [T, Is (.slice none 0 0)] vs V → gE [T, jT s []] vs V
 | [_,_],_,⟨h1,h2,h3⟩=>⟨h1,iM _ _ h2,h3⟩
 | [],_,h=>h.elim
 | [_],_,h=>h.2.elim
 | _ :: _ :: _ :: _,_,h=>h.2.2.elim
theorem gO.arg {P : Program} {f : FuncId} {Ts Ts' : List Ty} {As : Hp} {γ : Type} {U : γ → Ty} {As' : γ → Hp} {Q : γ → Prop} (h : gO P f Ts As γ U As' Q) (i : ∀ vs V, gE Ts' vs V → gE Ts vs V) : gO P f Ts' As γ U As' Q :=
 fun cx Z vs V w h1 h2=>h cx Z vs V w h1 (i _ _ h2)
end
section
open Go Go.RowKit
section
variable {P:Program} {R:hJ} {cx:Cx} {n:Nat} {k:List It} {E:cT} {H:Hp}
theorem Ao (i l off : Nat) {B : Nat} {BT : TypeId} {Us : List Ty} {v : Value} {A : SA} {T : Ty} (hB : H[i]? = some (box B BT Us)) (hU : Us[off]? = some (Is v)) (hL : H[l]? = some A) (hne : i ≠ l) (hT : ∀ S V, A.h S V V → T.p v V)
  (h:Tr P R cx n k E ((H.set l SA.emp).set i (box B BT (Us.set off T)))):Tr P R cx n k E H:=fun a w ⟨V,hi,hs⟩=>by
 obtain ⟨V',S,hle,hi',hA⟩:=hi.freeze hL
 have hT:=hT S V' hA
 refine h a w ⟨V',hi'.withHH ?_,hs.mono hle⟩
 obtain ⟨F,h1,h2⟩:=hi'.hp
 have hB':(H.set l SA.emp)[i]? = some (box B BT Us):=by rw [List.getElem?_set_ne (Ne.symm hne)]; exact hB
 have hil:=(List.getElem?_eq_some_iff.1 hB').1
 refine ⟨F,fun q A hq=>?_,fun q r b hq hr=>h2 q r b (by simpa using hq) (by simpa using hr)⟩
 by_cases c:i = q
 ·subst c
  rw [List.getElem?_set_self hil] at hq
  obtain rfl:=Option.some.inj hq
  obtain ⟨⟨k1,cs,k2,k3⟩,k4⟩:=h1 i _ hB'
  obtain ⟨u,u1,u2⟩:=k3.get hU
  obtain rfl:u = v:=u2
  have hset : cs.set off u = cs := by
   apply List.ext_getElem?
   intro j
   by_cases cj:off = j
   ·subst cj; rw [List.getElem?_set_self (List.getElem?_eq_some_iff.1 u1).1,u1]
   ·rw [List.getElem?_set_ne cj]
  refine ⟨⟨k1,cs,k2,?_⟩,k4⟩
  have:=k3.set off (v:=u) hT (k3.pl u (List.mem_of_getElem? u1))
  rwa [hset] at this
 ·rw [List.getElem?_set_ne c] at hq
  exact h1 q A hq
theorem a5a {B e l : Nat} {BT : TypeId} {F : Qi → Ty} {q : Value → Prop} {M : List (List Qi)} (hl : l = M.length) : ∀ S V, (mW q B BT e 5 (cE F M)).h S V V → (jT 1 (M.map fun r => jT 5 (r.map F))).p (.slice (some ⟨B, 0, none⟩) l l) V := fun S V h =>
 iB (s:=5) (M:=M) hl _ S V rfl h
end
def kV (p i:Nat):Nat:=if i < p then i else i + 1
abbrev nN (l:List Nat):Ty:=jT 1 (l.map (NT .i64))
def Bp (p n:Nat):List Nat:=tab n fun j=>kV p j + 1
def Sc (p i:Nat):Nat:=if i ≤ p then i else i - 1
theorem tZ {p n:Nat} (h:p < n):Sc p n = n - 1:=by unfold Sc; split <;> omega
theorem yD {p i n:Nat} (h:i < n - 1) (hp:p < n):kV p i < n:=by unfold kV; split <;> omega
theorem Px {p n j:Nat} (h:j < n):(Bp p n)[j]? = some (kV p j + 1):=dB h
def uT (z:List Qi) (p m:Nat):List Qi:=tab m fun i=>gv z (kV p i)
def a5l (s:List (List Qi)) (p m:Nat):List (List Qi):=tab m fun i=>tab m fun j=>gm s (kV p i) (kV p j)
def Hg (s:List (List Qi)) (p:Nat) (f:Qi) (i j:Nat):Qi:=gm s (kV p i) (kV p j) + gm s (kV p i) p * (f * gm s p (kV p j))
def yI (s:List (List Qi)) (p m:Nat) (f:Qi):List (List Qi):=tab m fun i=>tab m fun j=>Hg s p f i j
def iO (s:List (List Qi)) (p:Nat) (g:Qi):Qi:=g / (Qi.ofInt 1 - gm s p p * g)
def pM (z : List Qi) (s : List (List Qi)) (port : Int) (g : Qi) : Int :=
 if ¬ (1 ≤ port ∧ port ≤ z.length) then 1 else if z.length = 1 then 4 else if Qi.ofInt 1 - gm s (port - 1).toNat (port - 1).toNat * g = Qi.zero then 6 else 0
def Ct (z:List Qi) (s:List (List Qi)) (port:Int) (g:Qi):List Qi:=dA (pM z s port g) (uT z (port - 1).toNat (z.length - 1))
def tT (z:List Qi) (s:List (List Qi)) (port:Int) (g:Qi):List (List Qi):=dA (pM z s port g) (yI s (port - 1).toNat (z.length - 1) (iO s (port - 1).toNat g))
theorem Hh {z:List Qi} {s:List (List Qi)} {port:Int} {g:Qi} {e:Int} (h:pM z s port g = e) (he:e ≠ 0):∀ v V,(gT [] []).p v V → (gT (Ct z s port g) (tT z s port g)).p v V:=by
 rw [Ct,tT,dA,dA,h,if_neg he,if_neg he]; exact fun _ _ k=>k
theorem a2G (p:Nat):((p:Int) + 1 - 1).toNat = p:=by omega
theorem Zz {z:List Qi} {s:List (List Qi)} {p:Nat} {g:Qi} (h:pM z s ((p:Int) + 1) g = 0):∀ v V,(gT (uT z p (z.length - 1)) (yI s p (z.length - 1) (iO s p g))).p v V → (gT (Ct z s ((p:Int) + 1) g) (tT z s ((p:Int) + 1) g)).p v V:=by
 rw [Ct,tT,dA,dA,h,if_pos rfl,if_pos rfl,a2G]; exact fun _ _ k=>k
theorem a4w {z:List Qi} {s:List (List Qi)} {port:Int} {g:Qi} (h:¬ (1 ≤ port ∧ port ≤ z.length)):pM z s port g = 1:=by rw [pM,if_pos h]
theorem a4x {z:List Qi} {s:List (List Qi)} {port:Int} {g:Qi} (h:1 ≤ port ∧ port ≤ z.length) (h1:z.length = 1):pM z s port g = 4:=by rw [pM,if_neg (fun k=>k h),if_pos h1]
theorem a4y {z:List Qi} {s:List (List Qi)} {p:Nat} {g:Qi} (h:p < z.length) (h1:¬ z.length = 1):pM z s ((p:Int) + 1) g = if Qi.ofInt 1 - gm s p p * g = Qi.zero then 6 else 0:=by
 rw [pM,if_neg (fun k=>k zo),if_neg h1,a2G]
theorem Ld {s:List (List Qi)} {p L:Nat} {g:Qi} (hs:bC s L) (hg:aE g L) (hL:1 ≤ L) (hd:Qi.ofInt 1 - gm s p p * g ≠ Qi.zero):aE (iO s p g) (7 * L + 11):=by
 haveI f0:=kG
 haveI f1:=hs.get hL p p
 haveI f2:=hg
 have f3:aE (Qi.ofInt 1 - gm s p p * g) (1 + (L + L + 1) + 1):=@fitSub _ _ _ _ f0 inferInstance
 have:aE (iO s p g) (L + 3 * (1 + (L + L + 1) + 1) + 2):=⟨f2.fit.div f3.fit hd⟩
 exact this.le zo
end
section
open Go Go.RowKit
namespace Qi
def npow' (x : Qi) : Nat → Qi
 | 0=>Qi.ofInt 1
 | k + 1=>npow' x k * x
theorem one_mul2 (x:Qi):Qi.ofInt 1 * x = x:=ext' (by show ((1:Int):Rat) * x.re - 0 * x.im = x.re; grind) (by show ((1:Int):Rat) * x.im + 0 * x.re = x.im; grind)
theorem mul_one2 (x:Qi):x * Qi.ofInt 1 = x:=by rw [mul_comm',one_mul2]
end Qi
instance qiField:Lean.Grind.CommRing Qi where
 natCast:=⟨fun n=>Qi.ofInt n⟩
 ofNat n:=⟨Qi.ofInt n⟩
 nsmul:=⟨fun n x=>Qi.ofInt n * x⟩
 npow:=⟨Qi.npow'⟩
 add_zero:=Qi.add_zero'
 add_comm:=Qi.add_comm'
 add_assoc:=Qi.add_assoc'
 mul_assoc:=Qi.mul_assoc'
 mul_comm:=Qi.mul_comm'
 mul_one:=Qi.mul_one2
 one_mul:=Qi.one_mul2
 left_distrib:=Qi.mul_add'
 right_distrib:=Qi.add_mul'
 zero_mul:=Qi.zero_mul'
 mul_zero:=Qi.mul_zero'
 pow_zero _:=rfl
 pow_succ _ _:=rfl
 ofNat_succ n:=Qi.ext' (by show (((n + 1:Nat):Int):Rat) = ((n:Int):Rat) + ((1:Int):Rat); rw [Int.natCast_add,Rat.intCast_add]; rfl) (by show (0:Rat) = 0 + 0; grind)
 intCast:=⟨Qi.ofInt⟩
 zsmul:=⟨fun n x=>Qi.ofInt n * x⟩
 neg_add_cancel x:=Qi.ext' (by show -x.re + x.re = ((0:Int):Rat); grind) (by show -x.im + x.im = 0; grind)
 sub_eq_add_neg:=Qi.sub_def
 neg_zsmul i x:=Qi.ext' (by show ((-i:Int):Rat) * x.re - 0 * x.im = -((i:Rat) * x.re - 0 * x.im); rw [Rat.intCast_neg]; grind) (by show ((-i:Int):Rat) * x.im + 0 * x.re = -((i:Rat) * x.im + 0 * x.re); rw [Rat.intCast_neg]; grind)
 intCast_neg i:=Qi.ext' (Rat.intCast_neg i) (by show (0:Rat) = -0; grind)
theorem q0:Qi.zero = 0:=rfl
theorem q1:Qi.ofInt 1 = 1:=rfl
theorem sR {x:Qi} (h:x ≠ 0):x * Qi.inv x = 1:=by
 have hn:x.nrm ≠ 0:=fun e=>h (Qi.nrm_zero.1 e)
 have e:x.re * x.re + x.im * x.im = x.nrm:=rfl
 refine Qi.ext' ?_ ?_
 ·show x.re * (x.re / x.nrm) - x.im * (-x.im / x.nrm) = ((1 : Int) : Rat)
  grind
 ·show x.re * (-x.im / x.nrm) + x.im * (x.re / x.nrm) = 0
  grind
theorem xQ {x y:Qi} (h:y ≠ 0):x / y * y = x:=by
 rw [Qi.div_def]
 have:=sR h
 grind
theorem Fy {x y z:Qi} (h:y ≠ 0) (e:x = z * y):x / y = z:=by
 have h1:=xQ (x:=x) h
 have h2:=sR h
 grind
theorem iY {x y:Qi} (h:x * y = 0):x = 0 ∨ y = 0:=by
 by_cases e:x = 0
 ·exact .inl e
 ·right; have:=sR e; grind
end
section
open Go Go.RowKit
theorem pL (m:Nat) (f:Qi) (a b:Nat → Qi):aF m (fun k=>a k - f * b k) = aF m a - f * aF m b:=by
 induction m with
 | zero=>simp only [aF,q0]; grind
 | succ m ih=>simp only [aF,ih]; grind
theorem cO {m i:Nat} (hi:i < m) {f:Nat → Qi} (h:∀ k,k < m → k ≠ i → f k = 0):aF m f = f i:=by
 induction m with
 | zero=>omega
 | succ m ih =>
  by_cases e:i = m
  ·subst e
   have : aF i f = 0 := by
    rw [← q0,← yF i]
    exact aC fun k hk=>h k zo zo
   simp only [aF,this]; grind
  ·have h1 := ih zo (fun k hk => h k zo)
   have h2:=h m zo zo
   simp only [aF,h1,h2]; grind
theorem gM {m:Nat} {f:Nat → Qi} (h:∀ k,k < m → f k = 0):aF m f = 0:=by
 rw [← q0,← yF m]; exact aC h
def Ker (M:List (List Qi)) (n m:Nat) (x:Nat → Qi):Prop:=∀ i,i < n → aF m (fun k=>gm M i k * x k) = 0
def yQ (rr rc:List Qi) (c k:Nat):List Qi:=tab rr.length fun j=>if c ≤ j ∧ j < k then gv rr j - gv rr c / gv rc c * gv rc j else gv rr j
def redJ (M:List (List Qi)) (c r:Nat):List (List Qi):=tab M.length fun i=>if i ≠ c ∧ i < r then yQ (dT M i) (dT M c) c (dT M i).length else dT M i
def Sm (M : List (List Qi)) : Nat → Option (List (List Qi))
 | 0=>some M
 | c + 1=>(Sm M c).bind fun A=>if pv A c M.length = M.length then none else some (redJ (swp [] A (pv A c M.length) c) c M.length)
theorem Yz (M:List (List Qi)) (c r:Nat):(redJ M c r).length = M.length:=aN _ _
theorem Th (rr rc:List Qi) (c k:Nat):(yQ rr rc c k).length = rr.length:=aN _ _
theorem Za {M:List (List Qi)} {c r i:Nat} (hi:i < M.length):dT (redJ M c r) i = if i ≠ c ∧ i < r then yQ (dT M i) (dT M c) c (dT M i).length else dT M i:=by
 simp only [dT,redJ,List.getD]; rw [dB hi]; rfl
theorem Zb {M:List (List Qi)} {n m c r:Nat} (h:cM M n m):cM (redJ M c r) n m:=by
 refine ⟨(Yz _ _ _).trans h.1,fun x hx=>?_⟩
 obtain ⟨i,hi,rfl⟩:=eA.1 hx
 have hr:=h.row (i:=i) (by rw [← h.1]; exact hi)
 show (if i ≠ c ∧ i < r then yQ (dT M i) (dT M c) c (dT M i).length else dT M i).length = m
 split
 ·rw [Th]; exact hr
 ·exact hr
theorem zY {M:List (List Qi)} {n m c i j:Nat} (h:cM M n m) (hi:i < n) (hj:j < m):gm (redJ M c n) i j = if i ≠ c ∧ c ≤ j then gm M i j - gm M i c / gm M c c * gm M c j else gm M i j:=by
 have hr:(dT M i).length = m:=h.row hi
 show gv (dT (redJ M c n) i) j = _
 rw [Za (by rw [h.1]; exact hi)]
 by_cases e:i = c
 ·rw [if_neg (fun k=>k.1 e),if_neg (fun k=>k.1 e)]
 ·rw [if_pos ⟨e, hi⟩, yQ, iJ zo]
  by_cases e2:c ≤ j
  ·rw [if_pos ⟨e2,by omega⟩,if_pos ⟨e,e2⟩]
  ·rw [if_neg (fun k=>e2 k.1),if_neg (fun k=>e2 k.2)]
theorem Nl {M:List (List Qi)} {p c i:Nat} (hp:p < M.length) (hc:c < M.length):dT (swp [] M p c) i = dT M (if i = c then p else if i = p then c else i):=by
 simp only [dT,swp,List.getD]
 by_cases e:i = c
 ·subst e; rw [List.getElem?_set_self (by simpa using hc),if_pos rfl]; rfl
 ·rw [List.getElem?_set_ne (Ne.symm e), if_neg e]
  by_cases e2:i = p
  ·subst e2; rw [List.getElem?_set_self hp,if_pos rfl]; rfl
  ·rw [List.getElem?_set_ne (Ne.symm e2),if_neg e2]
theorem a14 {M:List (List Qi)} {n m p c:Nat} {x:Nat → Qi} (hl:M.length = n) (hp:p < n) (hc:c < n):Ker (swp [] M p c) n m x ↔ Ker M n m x:=by
 have key : ∀ i, gm (swp [] M p c) i = gm M (if i = c then p else if i = p then c else i) := fun i => by
  funext j; exact congrArg (fun r=>gv r j) (Nl zo zo)
 constructor
 ·intro h i hi
  have h1:=h (if i = c then p else if i = p then c else i) (by split <;> (try split) <;> omega)
  rw [key] at h1
  have e : (if (if i = c then p else if i = p then c else i) = c then p else if (if i = c then p else if i = p then c else i) = p then c else (if i = c then p else if i = p then c else i)) = i := by
   by_cases e1:i = c
   ·subst e1; rw [if_pos rfl]
    by_cases e2:p = i
    ·rw [if_pos e2]; exact e2
    ·rw [if_neg e2,if_pos rfl]
   ·rw [if_neg e1]
    by_cases e2:i = p
    ·subst e2; rw [if_pos rfl,if_pos rfl]
    ·rw [if_neg e2,if_neg e1,if_neg e2]
  rw [e] at h1; exact h1
 ·intro h i hi
  rw [key]; exact h _ (by split <;> (try split) <;> omega)
theorem a13 {M:List (List Qi)} {n m c:Nat} {x:Nat → Qi} (hs:cM M n m) (hc:c < n) (hz:∀ j,j < c → gm M c j = 0):Ker (redJ M c n) n m x ↔ Ker M n m x:=by
 have key : ∀ i, i < n → i ≠ c → aF m (fun k => gm (redJ M c n) i k * x k) = aF m (fun k => gm M i k * x k) - gm M i c / gm M c c * aF m (fun k => gm M c k * x k) := fun i hi e => by
  rw [← pL]
  refine aC fun k hk=>?_
  rw [zY hs hi hk]
  by_cases e2:c ≤ k
  ·rw [if_pos ⟨e,e2⟩]; grind
  ·rw [if_neg (fun h=>e2 h.2),hz k zo]; grind
 have keyc:aF m (fun k=>gm (redJ M c n) c k * x k) = aF m (fun k=>gm M c k * x k):=aC fun k hk=>by rw [zY hs hc hk,if_neg (fun h=>h.1 rfl)]
 constructor
 ·intro h i hi
  have h0:=h c hc
  rw [keyc] at h0
  by_cases e:i = c
  ·rw [e]; exact h0
  ·have h1 := h i hi
   rw [key i hi e,h0] at h1
   grind
 ·intro h i hi
  have h0:=h c hc
  by_cases e:i = c
  ·rw [e,keyc]; exact h0
  ·rw [key i hi e,h0,h i hi]; grind
structure GJ (M A:List (List Qi)) (n m c:Nat):Prop where
 sh:cM A n m
 ker:∀ x,Ker A n m x ↔ Ker M n m x
 off:∀ j,j < c → ∀ i,i < n → i ≠ j → gm A i j = 0
 dg:∀ j,j < c → gm A j j ≠ 0
theorem GJ.next {M A:List (List Qi)} {n m c p:Nat} (h:GJ M A n m c) (hc:c < n) (hnm:n ≤ m) (hcp:c ≤ p) (hp:p < n) (hz:gm A p c ≠ 0):GJ M (redJ (swp [] A p c) c n) n m (c + 1):=by
 have hs:cM (swp [] A p c) n m:=Ae h.sh hp hc
 have hl:=h.sh.1
 have key : ∀ i, gm (swp [] A p c) i = gm A (if i = c then p else if i = p then c else i) := fun i => by
  funext j; exact congrArg (fun r=>gv r j) (Nl zo zo)
 have hcc:gm (swp [] A p c) c c ≠ 0:=by rw [key,if_pos rfl]; exact hz
 have hoff : ∀ j, j < c → ∀ i, i < n → i ≠ j → gm (swp [] A p c) i j = 0 := fun j hj i hi hij => by
  rw [key]
  by_cases e1:i = c
  ·rw [if_pos e1]; exact h.off j hj p hp zo
  ·rw [if_neg e1]
   by_cases e2:i = p
   ·rw [if_pos e2]; exact h.off j hj c hc zo
   ·rw [if_neg e2]; exact h.off j hj i hi hij
 refine ⟨Zb hs,fun x=>(a13 hs hc (fun j hj=>hoff j hj c hc zo)).trans ((a14 hl hp hc).trans (h.ker x)),fun j hj i hi hij=>?_,fun j hj=>?_⟩
 ·rw [zY hs hi zo]
  by_cases e:j = c
  ·subst e
   rw [if_pos ⟨hij,Nat.le_refl _⟩]
   have:=xQ (x:=gm (swp [] A p j) i j) hcc
   grind
  ·rw [if_neg (fun k=>by omega)]; exact hoff j zo i hi hij
 ·rw [zY hs zo zo]
  by_cases e:j = c
  ·subst e; rw [if_neg (fun k=>k.1 rfl)]; exact hcc
  ·rw [if_neg (fun k=>by omega),key,if_neg zo,if_neg zo]; exact h.dg j zo
theorem Wy {M : List (List Qi)} {n m : Nat} (hs : cM M n m) (hnm : n ≤ m) : ∀ {c : Nat} {A : List (List Qi)}, c ≤ n → Sm M c = some A → GJ M A n m c
 | 0, A, _, h => by
  obtain rfl:=Option.some.inj h
  exact ⟨hs,fun _=>Iff.rfl,fun j hj=>by omega,fun j hj=>by omega⟩
 | c + 1, A, hc, h => by
  simp only [Sm] at h
  obtain ⟨B,h1,h2⟩:=Option.bind_eq_some_iff.1 h
  split at h2
  ·cases h2
  ·rename_i e
   obtain rfl:=Option.some.inj h2
   have ih:=Wy hs hnm (c:=c) zo h1
   rw [hs.1] at e ⊢
   obtain ⟨_,i2,i3,i4⟩:=nK (M:=B) (c:=c) (n:=n) zo
   exact ih.next zo hnm i2 zo (i4 zo)
theorem a3x {l:List Qi} {z:Qi} {k:Nat} (h:k < l.length):gv (l ++ [z]) k = gv l k:=by
 simp only [gv,List.getD]; rw [List.getElem?_append_left h]
theorem a3y {l:List Qi} {z:Qi}:gv (l ++ [z]) l.length = z:=by
 simp [gv,List.getD]
theorem a54 {M:List (List Qi)} {b:List Qi} {n i:Nat} (h:cM M n n) (hi:i < n):(∀ k,k < n → gm (jK M [b] n) i k = gm M i k) ∧ gm (jK M [b] n) i n = gv b i:=by
 obtain ⟨r,hr⟩:∃ r,r = dT M i:=⟨_,rfl⟩
 have hl:r.length = n:=by rw [hr]; exact h.row hi
 have e : dT (jK M [b] n) i = r ++ [gv b i] := by
  rw [hr]; simp only [dT,jK,List.getD]; rw [dB hi]; rfl
 refine ⟨fun k hk=>?_,?_⟩
 ·show gv (dT (jK M [b] n) i) k = gv (dT M i) k
  rw [e,← hr,a3x zo]
 ·show gv (dT (jK M [b] n) i) n = gv b i
  rw [e,← hl,a3y]
theorem Mk {M:List (List Qi)} {b:List Qi} {n i:Nat} (h:cM M n n) (hi:i < n) (x:Nat → Qi):aF (n + 1) (fun k=>gm (jK M [b] n) i k * x k) = aF n (fun k=>gm M i k * x k) + gv b i * x n:=by
 obtain ⟨h1,h2⟩:=a54 (b:=b) h hi
 simp only [aF,h2]
 rw [aC (fun k hk=>by rw [h1 k hk])]
theorem Tg {rr rc : List Qi} {L c k : Nat} (h1 : bP rr L) (h2 : bP rc L) (hL : 1 ≤ L) (hp : gv rc c ≠ Qi.zero) : bP (yQ rr rc c k) (6 * L + 4) := bP.tab fun j _ => by
 split
 ·exact Ph h1 h2 hL hp
 ·exact (h1.get hL j).le zo
theorem Yy {M : List (List Qi)} {L c r : Nat} (h : bC M L) (hL : 1 ≤ L) (hp : gm M c c ≠ Qi.zero) : bC (redJ M c r) (6 * L + 4) := fun x hx => by
 obtain ⟨i,hi,rfl⟩:=eA.1 hx
 show bP (if i ≠ c ∧ i < r then yQ (dT M i) (dT M c) c (dT M i).length else dT M i) _
 split
 ·exact Tg (h.row i) (h.row c) hL hp
 ·exact (h.row i).le zo
theorem Wx {M : List (List Qi)} {n m L : Nat} (hs : cM M n m) (hnm : n ≤ m) (h : bC M L) (hL : 1 ≤ L) : ∀ {c : Nat} {A : List (List Qi)}, c ≤ n → Sm M c = some A → bC A (sM L c)
 | 0,A,_,e=>by obtain rfl:=Option.some.inj e; exact h
 | c + 1, A, hc, e => by
  simp only [Sm] at e
  obtain ⟨B,h1,h2⟩:=Option.bind_eq_some_iff.1 e
  split at h2
  ·cases h2
  ·rename_i e3
   obtain rfl:=Option.some.inj h2
   have ih:=Wx hs hnm h hL (c:=c) zo h1
   have hsB:=(Wy hs hnm (c:=c) zo h1).sh
   rw [hs.1] at e3 ⊢
   obtain ⟨_,i2,i3,i4⟩:=nK (M:=B) (c:=c) (n:=n) zo
   refine Yy (Hd ih) (Nat.le_trans hL (zQ L c)) ?_
   show gv (dT (swp [] _ _ c) c) c ≠ _
   rw [yG (by rw [hsB.1]; omega)]
   exact i4 zo
end
section
open Go Go.RowKit
def a4m (a b:List (List Qi)) (x y i:Nat):List Qi:=tab (x + y) fun j=>if i < x then (if j < x then gm a i j else Qi.zero) else (if x ≤ j then gm b (i - x) (j - x) else Qi.zero)
def rA (a b:List (List Qi)) (x y:Nat):List (List Qi):=tab (x + y) (a4m a b x y)
theorem tQ (a b:List (List Qi)) (x y:Nat):cM (rA a b x y) (x + y) (x + y):=⟨aN _ _,fun r hr=>by obtain ⟨i,_,rfl⟩:=eA.1 hr; exact aN _ _⟩
theorem gD {a b:List (List Qi)} {x y i j:Nat} (hi:i < x + y) (hj:j < x + y):gm (rA a b x y) i j = if i < x then (if j < x then gm a i j else Qi.zero) else (if x ≤ j then gm b (i - x) (j - x) else Qi.zero):=by
 have e:(rA a b x y).getD i [] = a4m a b x y i:=by rw [rA,List.getD,dB hi]; rfl
 show gv ((rA a b x y).getD i []) j = _
 rw [e,a4m,iJ hj]
end
section
open Go Go.RowKit
abbrev pA (ps:List (Nat × Nat)) (k:Nat):Nat:=(ps.getD k (0,0)).1
abbrev pB (ps:List (Nat × Nat)) (k:Nat):Nat:=(ps.getD k (0,0)).2
end
section
open Go Go.RowKit
theorem sN {l:List Qi} {t k:Nat} {v:Qi} (ht:t < l.length):gv (l.set t v) k = if k = t then v else gv l k:=by
 simp only [gv,List.getD]
 by_cases e:k = t
 ·subst e; rw [if_pos rfl,List.getElem?_set_self ht]; rfl
 ·rw [if_neg e,List.getElem?_set_ne (Ne.symm e)]
end
section
open Go Go.RowKit
def vV (A:List (List Qi)) (c i j:Nat):Qi:=if j < c ∧ j < i then 0 else gm A i j
def vW (F:Nat → Nat → Qi) (n m:Nat) (x:Nat → Qi):Prop:=∀ i,i < n → aF m (fun k=>F i k * x k) = 0
theorem Bn {F G:Nat → Nat → Qi} {n m:Nat} {x:Nat → Qi} (h:∀ i,i < n → ∀ j,j < m → F i j = G i j):vW F n m x ↔ vW G n m x:=by
 have e:∀ i,i < n → aF m (fun k=>F i k * x k) = aF m (fun k=>G i k * x k):=fun i hi=>aC fun k hk=>by rw [h i hi k hk]
 exact ⟨fun k i hi=>by rw [← e i hi]; exact k i hi,fun k i hi=>by rw [e i hi]; exact k i hi⟩
def Rc (p c i:Nat):Nat:=if i = c then p else if i = p then c else i
theorem He {p c i n:Nat} (hp:p < n) (hc:c < n) (hi:i < n):Rc p c i < n:=by unfold Rc; split <;> (try split) <;> omega
theorem Rd (p c i:Nat):Rc p c (Rc p c i) = i:=by
 unfold Rc
 by_cases e1:i = c
 ·subst e1
  rw [if_pos rfl]
  by_cases e2:p = i
  ·rw [if_pos e2]; exact e2
  ·rw [if_neg e2,if_pos rfl]
 ·rw [if_neg e1]
  by_cases e2:i = p
  ·subst e2; rw [if_pos rfl,if_pos rfl]
  ·rw [if_neg e2,if_neg e1,if_neg e2]
theorem Jk {F : Nat → Nat → Qi} {n m p c : Nat} {x : Nat → Qi} (hp : p < n) (hc : c < n) : vW (fun i => F (Rc p c i)) n m x ↔ vW F n m x :=
 ⟨fun h i hi=>by have:=h _ (He hp hc hi); simp only [Rd] at this; exact this,fun h i hi=>h _ (He hp hc hi)⟩
theorem Xl {F G:Nat → Nat → Qi} {n m c:Nat} {x f:Nat → Qi} (hc:c < n) (hG:∀ i,i < n → ∀ j,j < m → G i j = if c < i then F i j - f i * F c j else F i j):vW G n m x ↔ vW F n m x:=by
 have key : ∀ i, i < n → aF m (fun k => G i k * x k) = if c < i then aF m (fun k => F i k * x k) - f i * aF m (fun k => F c k * x k) else aF m (fun k => F i k * x k) := fun i hi => by
  by_cases e:c < i
  ·rw [if_pos e, ← pL]
   exact aC fun k hk=>by rw [hG i hi k hk,if_pos e]; grind
  ·rw [if_neg e]
   exact aC fun k hk=>by rw [hG i hi k hk,if_neg e]
 have kc:=key c hc
 rw [if_neg zo] at kc
 constructor
 ·intro h i hi
  have h0:=h c hc
  rw [kc] at h0
  have h1:=h i hi
  rw [key i hi] at h1
  by_cases e:c < i
  ·rw [if_pos e,h0] at h1; grind
  ·rw [if_neg e] at h1; exact h1
 ·intro h i hi
  rw [key i hi]
  by_cases e:c < i
  ·rw [if_pos e,h i hi,h c hc]; grind
  ·rw [if_neg e]; exact h i hi
theorem a1L {M:List (List Qi)} {n m c i j:Nat} (h:cM M n m) (hi:i < n) (hj:j < m):gm (redM M c n) i j = if c < i ∧ c < j then gm M i j - gm M i c / gm M c c * gm M c j else gm M i j:=by
 have hr:(dT M i).length = m:=h.row hi
 have e0 : dT (redM M c n) i = if c < i ∧ i < n then kX (dT M i) (dT M c) c (dT M i).length else dT M i := by
  simp only [dT,redM,List.getD]; rw [dB (by rw [h.1]; exact hi)]; rfl
 show gv (dT (redM M c n) i) j = _
 rw [e0]
 by_cases e:c < i
 ·rw [if_pos ⟨e, hi⟩, kX, iJ zo]
  by_cases e2:c < j
  ·rw [if_pos ⟨e2,by omega⟩,if_pos ⟨e,e2⟩]
  ·rw [if_neg (fun k=>e2 k.1),if_neg (fun k=>e2 k.2)]
 ·rw [if_neg (fun k=>e k.1),if_neg (fun k=>e k.1)]
theorem a0D {A:List (List Qi)} {p c i j:Nat} (hc:c < A.length) (hp:p < A.length) (hcp:c ≤ p):vV (swp [] A p c) c i j = vV A c (Rc p c i) j:=by
 have key:gm (swp [] A p c) i j = gm A (Rc p c i) j:=congrArg (fun r=>gv r j) (Nl zo zo)
 unfold vV
 rw [key]
 have e:(j < c ∧ j < i) ↔ (j < c ∧ j < Rc p c i):=by unfold Rc; split <;> (try split) <;> omega
 by_cases h:j < c ∧ j < i
 ·rw [if_pos h,if_pos (e.1 h)]
 ·rw [if_neg h,if_neg (fun k=>h (e.2 k))]
structure EL (M A:List (List Qi)) (n m c:Nat):Prop where
 sh:cM A n m
 ker:∀ x,vW (vV A c) n m x ↔ vW (gm M) n m x
theorem EL.next {M A:List (List Qi)} {n m c p:Nat} (h:EL M A n m c) (hc:c < n) (hcm:c < m) (hcp:c ≤ p) (hp:p < n) (hz:gm A p c ≠ 0):EL M (redM (if p = c then A else swp [] A p c) c n) n m (c + 1):=by
 have hl:=h.sh.1
 obtain ⟨B,hB⟩:∃ B,B = if p = c then A else swp [] A p c:=⟨_,rfl⟩
 have hs : cM B n m := by
  rw [hB]; split
  ·exact h.sh
  ·exact Ae h.sh hp hc
 have hBk : ∀ x, vW (vV B c) n m x ↔ vW (gm M) n m x := fun x => by
  rw [hB]; split
  ·exact h.ker x
  ·exact (Bn (G:=fun i=>vV A c (Rc p c i)) fun i hi j hj=>a0D zo zo hcp).trans ((Jk hp hc).trans (h.ker x))
 have hBz : gm B c c ≠ 0 := by
  rw [hB]; split
  ·rename_i e; rw [← e] at hz ⊢; exact hz
  ·show gv (dT (swp [] A p c) c) c ≠ 0
   rw [yG zo]; exact hz
 rw [← hB]
 refine ⟨Ki hs,fun x=>(Xl (f:=fun i=>gm B i c / gm B c c) hc fun i hi j hj=>?_).trans (hBk x)⟩
 have hd:=xQ (x:=gm B i c) hBz
 unfold vV
 rw [a1L hs hi hj]
 by_cases e:c < i
 ·rw [if_pos e]
  by_cases e1:j < c
  ·rw [if_pos zo,if_pos zo,if_pos zo]; grind
  ·by_cases e2 : j = c
   ·subst e2
    rw [if_pos zo,if_neg zo,if_neg zo]; grind
   ·rw [if_neg zo,if_pos zo,if_neg zo,if_neg zo]
 ·rw [if_neg e, if_neg (show ¬ (c < i ∧ c < j) from fun k => e k.1)]
  by_cases e1:j < i
  ·rw [if_pos (show j < c + 1 ∧ j < i by omega),if_pos (show j < c ∧ j < i by omega)]
  ·rw [if_neg (show ¬ (j < c + 1 ∧ j < i) by omega),if_neg (show ¬ (j < c ∧ j < i) by omega)]
theorem Fx {M : List (List Qi)} {n m : Nat} (hs : cM M n m) (hnm : n ≤ m) : ∀ {c : Nat}, c ≤ n → (cI M c).2.2 < 0 → EL M (cI M c).1 n m c
 | 0,_,_=>⟨hs,fun x=>Bn fun i _ j _=>by unfold vV; rw [if_neg zo]; rfl⟩
 | c + 1, hc, h => by
  obtain ⟨i1,i2,i3,i4⟩:=nK (M:=(cI M c).1) (c:=c) (n:=M.length) (by rw [hs.1]; omega)
  simp only [cI] at h ⊢
  by_cases e:0 ≤ (cI M c).2.2
  ·rw [if_pos e] at h; omega
  ·rw [if_neg e] at h ⊢
   have ih:=Fx hs hnm (c:=c) zo zo
   by_cases e2:pv (cI M c).1 c M.length = M.length
   ·rw [if_pos e2] at h; simp only at h; omega
   ·rw [if_neg e2]
    rw [hs.1] at i3 i4 e2 ⊢
    exact ih.next zo zo (by rw [hs.1] at i2; exact i2) zo (i4 zo)
theorem Dz {M : List (List Qi)} : ∀ {n : Nat}, 0 ≤ (cI M n).2.2 → ∃ c, c < n ∧ (cI M c).2.2 < 0 ∧ pv (cI M c).1 c M.length = M.length
 | 0,h=>absurd h (by show ¬ (0:Int) ≤ -1; omega)
 | c + 1, h => by
  by_cases e:0 ≤ (cI M c).2.2
  ·obtain ⟨d, h1, h2⟩ := Dz e
   exact ⟨d,by omega,h2⟩
  ·simp only [cI] at h
   rw [if_neg e] at h
   by_cases e2:pv (cI M c).1 c M.length = M.length
   ·exact ⟨c,by omega,by omega,e2⟩
   ·rw [if_neg e2] at h; simp only at h; omega
theorem vS {U : List (List Qi)} {x y : List Qi} {n c : Nat} : ∀ {K : Nat}, (∀ k, k < K → gv x (c + 1 + k) = gv y (c + 1 + k)) → oD U x n c K = oD U y n c K
 | 0,_=>rfl
 | K + 1,h=>by rw [oD,oD,vS (fun k hk=>h k zo),h K zo]
theorem Ky (U : List (List Qi)) (x : List Qi) (n c : Nat) : ∀ K, oD U x n c K = gm U c n - aF K (fun k => gm U c (c + 1 + k) * gv x (c + 1 + k))
 | 0=>by simp only [oD,aF,q0]; grind
 | K + 1=>by simp only [oD,aF,Ky U x n c K]; grind
theorem Uy {U : List (List Qi)} {n : Nat} : ∀ {j : Nat}, j ≤ n → ∀ c, n - j ≤ c → c < n → gv (nH U n j) c = oD U (nH U n j) n c (n - 1 - c) / gm U c c
 | 0,_,c,h1,h2=>by omega
 | j + 1, hj, c, h1, h2 => by
  have hl:=tV U n j
  rw [nH]
  by_cases e:c = n - (j + 1)
  ·subst e
   rw [sN zo,if_pos rfl,show n - 1 - (n - (j + 1)) = j by omega]
   rw [vS (x:=(nH U n j).set _ _) (y:=nH U n j) fun k hk=>by rw [sN zo,if_neg zo]]
  ·rw [sN zo, if_neg e, Uy (j := j) zo c zo h2]
   rw [vS (x:=(nH U n j).set _ _) (y:=nH U n j) fun k hk=>by rw [sN zo,if_neg zo]]
theorem rB (a : Nat) (f : Nat → Qi) : ∀ b, aF (a + b) f = aF a f + aF b fun k => f (a + k)
 | 0=>by simp only [aF,q0,Nat.add_zero]; grind
 | b + 1=>by rw [← Nat.add_assoc]; simp only [aF,rB a f b]; grind
theorem Rf {U:List (List Qi)} {n i:Nat} (hi:i < n) (y:Nat → Qi):aF n (fun k=>vV U n i k * y k) = gm U i i * y i + aF (n - 1 - i) fun k=>gm U i (i + 1 + k) * y (i + 1 + k):=by
 have e:n = i + 1 + (n - 1 - i):=by omega
 have h1:aF i (fun k=>vV U n i k * y k) = 0:=gM fun k hk=>by unfold vV; rw [if_pos zo]; grind
 have h2:vV U n i i = gm U i i:=by unfold vV; rw [if_neg zo]
 have h3:aF (n - 1 - i) (fun k=>vV U n i (i + 1 + k) * y (i + 1 + k)) = aF (n - 1 - i) fun k=>gm U i (i + 1 + k) * y (i + 1 + k):=aC fun k hk=>by unfold vV; rw [if_neg zo]
 have h4:=rB (i + 1) (fun k=>vV U n i k * y k) (n - 1 - i)
 rw [← e] at h4
 rw [h4,h3]
 simp only [aF,h1,h2]; grind
theorem Re {U:List (List Qi)} {n i:Nat} (hd:∀ j,j < n → gm U j j ≠ 0) (hi:i < n):aF n (fun k=>vV U n i k * gv (nH U n n) k) = gm U i n:=by
 rw [Rf hi,Uy (Nat.le_refl n) i zo hi,Ky]
 have:=xQ (x:=gm U i n - aF (n - 1 - i) (fun k=>gm U i (i + 1 + k) * gv (nH U n n) (i + 1 + k))) (hd i hi)
 grind
theorem Lc {U : List (List Qi)} {n : Nat} (hd : ∀ j, j < n → gm U j j ≠ 0) {y : Nat → Qi} (h : ∀ i, i < n → aF n (fun k => vV U n i k * y k) = 0) : ∀ t k, n - t ≤ k → k < n → y k = 0
 | 0,k,h1,h2=>by omega
 | t + 1, k, h1, h2 => by
  have h3:=h k h2
  rw [Rf h2,gM (fun j hj=>by rw [Lc hd h t (k + 1 + j) zo zo]; grind)] at h3
  rcases iY (x:=gm U k k) (y:=y k) (by grind) with h4 | h4
  ·exact absurd h4 (hd k h2)
  ·exact h4
theorem mO {M:List (List Qi)} {b:List Qi} {n:Nat} (h:cM M n n) (hE:kZ M b n = 0):(∀ i,i < n → aF n (fun k=>gm M i k * gv (kR M b n) k) = gv b i) ∧ ∀ y:Nat → Qi,(∀ i,i < n → aF n (fun k=>gm M i k * y k) = 0) → ∀ k,k < n → y k = 0:=by
 have hcs:cM (jK M [b] n) n (n + 1):=lS h
 have hst : (rR M b n).2.2 < 0 := by
  unfold kZ at hE
  by_cases e:0 ≤ (rR M b n).2.2
  ·rw [if_pos e] at hE; omega
  ·omega
 have hg:=Fx hcs (Nat.le_succ n) (Nat.le_refl n) hst
 have hd:=qO hcs (Nat.le_refl n) hst
 obtain ⟨U,hU⟩:∃ U,U = (rR M b n).1:=⟨_,rfl⟩
 have hX:kR M b n = nH U n n:=by rw [hU]; rfl
 have hU2:(cI (jK M [b] n) n).1 = U:=hU.symm
 rw [hU2] at hg hd
 rw [hX]
 refine ⟨fun i hi=>?_,fun y hy k hk=>?_⟩
 ·have h1 := (hg.ker fun k => if k < n then gv (nH U n n) k else -1).1 (fun i hi => by
   simp only [aF]
   rw [aC (g:=fun k=>vV U n i k * gv (nH U n n) k) (fun k hk=>by rw [if_pos hk]),Re hd hi,if_neg zo,show vV U n i n = gm U i n by unfold vV; rw [if_neg zo]]
   grind) i hi
  rw [Mk h hi,aC (g:=fun k=>gm M i k * gv (nH U n n) k) (fun k hk=>by rw [if_pos hk]),if_neg zo] at h1
  grind
 ·have h1 := (hg.ker fun k => if k < n then y k else 0).2 (fun i hi => by
   rw [Mk h hi,aC (g:=fun k=>gm M i k * y k) (fun k hk=>by rw [if_pos hk]),if_neg zo,hy i hi]; grind)
  refine Lc (y:=y) hd (fun i hi=>?_) n k zo hk
  have h2:=h1 i hi
  simp only [aF] at h2
  rw [aC (g:=fun k=>vV U n i k * y k) (fun k hk=>by rw [if_pos hk]),if_neg zo] at h2
  grind
theorem Kw {M:List (List Qi)} {b:List Qi} {n:Nat} (h:cM M n n) (hE:kZ M b n ≠ 0):∃ y:Nat → Qi,(∀ i,i < n → aF n (fun k=>gm M i k * y k) = 0) ∧ ∃ k,k < n ∧ y k ≠ 0:=by
 have hcs:cM (jK M [b] n) n (n + 1):=lS h
 have hst : 0 ≤ (rR M b n).2.2 := by
  unfold kZ at hE
  by_cases e:0 ≤ (rR M b n).2.2
  ·exact e
  ·rw [if_neg e] at hE; exact absurd rfl hE
 obtain ⟨c,hc,hA,hp⟩:=Dz hst
 have hg:=Fx hcs (Nat.le_succ n) zo hA
 have hd:=qO hcs zo hA
 obtain ⟨U,hU⟩:∃ U,U = (cI (jK M [b] n) c).1:=⟨_,rfl⟩
 rw [← hU] at hg hd hp
 rw [hcs.1] at hp
 have hz:=(nK (M:=U) (c:=c) (n:=n) zo).1
 rw [hp] at hz
 have key := (hg.ker fun k => if k < c then gv (nH U c c) k else if k = c then -1 else 0).1 (fun i hi => by
  have e:n + 1 = c + (1 + (n - c)):=by omega
  rw [e,rB,rB]
  have z3:aF (n - c) (fun k=>vV U c i (c + (1 + k)) * (if c + (1 + k) < c then gv (nH U c c) (c + (1 + k)) else if c + (1 + k) = c then -1 else 0)) = 0:=gM fun k hk=>by rw [if_neg zo,if_neg zo]; grind
  have z2 : aF 1 (fun k => vV U c i (c + k) * (if c + k < c then gv (nH U c c) (c + k) else if c + k = c then -1 else 0)) = vV U c i c * -1 := by
   rw [Cm,if_neg zo,if_pos zo]; rfl
  have z1:aF c (fun k=>vV U c i k * (if k < c then gv (nH U c c) k else if k = c then -1 else 0)) = aF c (fun k=>vV U c i k * gv (nH U c c) k):=aC fun k hk=>by rw [if_pos hk]
  rw [z1,z2,z3]
  have zc:vV U c i c = gm U i c:=by unfold vV; rw [if_neg zo]
  rw [zc]
  by_cases e2:i < c
  ·rw [Re hd e2]; grind
  ·rw [hz i zo hi,gM (fun k hk=>by unfold vV; rw [if_pos zo]; grind),q0]; grind)
 refine ⟨fun k=>if k < c then gv (nH U c c) k else if k = c then -1 else 0,fun i hi=>?_,c,hc,?_⟩
 ·have h1 := key i hi
  rw [Mk h hi,if_neg zo,if_neg zo] at h1
  grind
 ·show (if c < c then gv (nH U c c) c else if c = c then (-1 : Qi) else 0) ≠ 0
  rw [if_neg zo,if_pos rfl]
  intro e
  exact absurd (congrArg Qi.re e) (by decide)
end
section
open Go Go.RowKit
abbrev gnI (G:List Nat):List Int:=G.map fun (q:Nat)=>(q:Int) + 1
def gR (G : List Nat) : Nat → List Nat
 | 0=>[]
 | k + 1=>gR G k ++ (if k ∈ G then [] else [k])
theorem Gg (G : List Nat) : ∀ k, (gR G k).length ≤ k
 | 0=>Nat.le_refl _
 | k + 1 => by
  have:=Gg G k
  simp only [gR,List.length_append]
  split
  ·simp; omega
  ·simp; omega
theorem Gh {G : List Nat} : ∀ {k x : Nat}, x ∈ gR G k → x < k
 | 0,x,h=>by cases h
 | k + 1, x, h => by
  rcases List.mem_append.1 h with h1 | h1
  ·have:=Gh h1; omega
  ·split at h1
   ·cases h1
   ·have:=List.mem_singleton.1 h1; omega
theorem rM {p : Nat} : ∀ {k : Nat}, gR [p] k = tab (Sc p k) (kV p)
 | 0=>by rw [gR,show Sc p 0 = 0 by unfold Sc; split <;> omega]; rfl
 | k + 1 => by
  rw [gR,rM]
  by_cases c:k = p
  ·subst c
   rw [if_pos (by simp),List.append_nil,show Sc k (k + 1) = Sc k k by unfold Sc; split <;> split <;> omega]
  ·rw [if_neg (by simpa using c)]
   have e1:kV p (Sc p k) = k:=by unfold kV Sc; split <;> split <;> omega
   have e2:Sc p (k + 1) = Sc p k + 1:=by unfold Sc; split <;> split <;> omega
   rw [e2,tS,e1]
theorem a15 {p n:Nat} (h:p < n):(gR [p] n).map Nat.succ = Bp p (n - 1):=by rw [rM,tZ h,Af]; rfl
theorem Xa {G:List Nat} {i:Nat}:((gnI G).any fun x=>decide (((i + 1:Nat):Int) = x)) = decide (i ∈ G):=by
 rw [Bool.eq_iff_iff]
 simp only [gnI,List.any_map,List.any_eq_true,Function.comp,decide_eq_true_eq]
 constructor
 ·rintro ⟨q, h1, h2⟩
  obtain rfl:i = q:=by omega
  exact h1
 ·intro h; exact ⟨i,h,by omega⟩
abbrev fR (Q:List Nat) (i:Nat):Nat:=Q.getD i 0
def uU (z:List Qi) (Q:List Nat):List Qi:=tab Q.length fun i=>gv z (fR Q i)
def nD (s:List (List Qi)) (Q:List Nat):List (List Qi):=tab Q.length fun i=>tab Q.length fun j=>gm s (fR Q i) (fR Q j)
theorem pH {Q:List Nat} {n i:Nat} (h:∀ x,x ∈ Q → x < n) (hi:i < Q.length):fR Q i < n:=h _ (by rw [show fR Q i = Q[i] by simp [fR,List.getD,hi]]; exact List.getElem_mem hi)
theorem xB {Q:List Nat} {i:Nat} (h:i < Q.length):(Q.map Nat.succ)[i]? = some (fR Q i + 1):=by simp [fR,List.getD,h]
theorem rC {m i:Nat} {p:Nat} (h:i < m):fR (tab m (kV p)) i = kV p i:=rD h
theorem Kz (z:List Qi) (p m:Nat):uU z (tab m (kV p)) = uT z p m:=by
 rw [uU,aN]; exact dD fun i hi=>by rw [rC hi]
theorem Zv (s:List (List Qi)) (p m:Nat):nD s (tab m (kV p)) = a5l s p m:=by
 rw [nD,aN]; exact dD fun i hi=>dD fun j hj=>by rw [rC hi,rC hj]
theorem a24 {p m n : Nat} (hp : p < n) (hm : m = n - 1) : ∀ x, x ∈ tab m (kV p) → x < n := fun x hx => by
 obtain ⟨i,hi,rfl⟩:=eA.1 hx; exact yD zo hp
theorem a17 (p m:Nat):(tab m (kV p)).map Nat.succ = Bp p m:=by rw [Af]; rfl
end
section
open Go Go.RowKit
def gq (ps:List (Nat × Nat)) (x:Nat):Nat:=if x % 2 = 0 then pA ps (x / 2) else pB ps (x / 2)
def oC (x:Nat):Nat:=if x % 2 = 0 then x + 1 else x - 1
theorem uN (x:Nat):oC (oC x) = x:=by unfold oC; split <;> split <;> omega
theorem rP {x k:Nat} (h:x < 2 * k):oC x < 2 * k:=by unfold oC; split <;> omega
theorem a0S (ps:List (Nat × Nat)) (k:Nat):gq ps (2 * k) = pA ps k:=by unfold gq; rw [if_pos zo,show 2 * k / 2 = k by omega]
theorem a3w (ps:List (Nat × Nat)) (k:Nat):gq ps (2 * k + 1) = pB ps k:=by unfold gq; rw [if_neg zo,show (2 * k + 1) / 2 = k by omega]
structure Jn (ps:List (Nat × Nat)) (n K:Nat):Prop where
 lt:∀ x,x < 2 * K → gq ps x < n
 inj:∀ x y,x < 2 * K → y < 2 * K → gq ps x = gq ps y → x = y
theorem Jn.le {ps:List (Nat × Nat)} {n K k:Nat} (h:Jn ps n K) (hk:k ≤ K):Jn ps n k:=⟨fun x hx=>h.lt x zo,fun x y hx hy=>h.inj x y zo zo⟩
def uG (S:List (List Qi)) (ps:List (Nat × Nat)) (m:Nat):List (List Qi):=tab m fun x=>tab m fun y=>(if x = y then Qi.ofInt 1 else Qi.ofInt 0) - gm S (gq ps (oC x)) (gq ps y)
def jnB (S:List (List Qi)) (ps:List (Nat × Nat)) (m b:Nat):List Qi:=tab m fun x=>gm S (gq ps (oC x)) b
theorem wM (S:List (List Qi)) (ps:List (Nat × Nat)) (m:Nat):cM (uG S ps m) m m:=cM.tab
theorem Pt {S:List (List Qi)} {ps:List (Nat × Nat)} {m x:Nat} (hx:x < m) (v:Nat → Qi):aF m (fun y=>gm (uG S ps m) x y * v y) = v x - aF m fun y=>gm S (gq ps (oC x)) (gq ps y) * v y:=by
 have e : ∀ y, y < m → gm (uG S ps m) x y * v y = (if y = x then v x else 0) - 1 * (gm S (gq ps (oC x)) (gq ps y) * v y) := fun y hy => by
  have : gm (uG S ps m) x y = (if x = y then Qi.ofInt 1 else Qi.ofInt 0) - gm S (gq ps (oC x)) (gq ps y) := by
   show gv ((uG S ps m).getD x []) y = _
   rw [uG,rD hx,iJ hy]
  rw [this]
  by_cases c:y = x
  ·subst c; rw [if_pos rfl,if_pos rfl,q1]; grind
  ·rw [if_neg c,if_neg (Ne.symm c),show Qi.ofInt 0 = (0:Qi) from rfl]; grind
 rw [aC e,pL,cO hx (fun k _ hk=>if_neg hk),if_pos rfl]; grind
theorem a3G {S:List (List Qi)} {ps:List (Nat × Nat)} {m b x:Nat} (hx:x < m):gv (jnB S ps m b) x = gm S (gq ps (oC x)) b:=iJ hx
def jnX (S:List (List Qi)) (ps:List (Nat × Nat)) (m a b:Nat):Qi:=gm S a b + aF m fun y=>gm S a (gq ps y) * gv (kR (uG S ps m) (jnB S ps m b) m) y
end
section
open Go Go.RowKit
def fE (n:Nat) (p:Int) (o:List Int):Int:=if ¬ (1 ≤ p ∧ p ≤ n) then 1 else if (o.any fun x=>decide (p = x)) = true then 8 else 0
def rY (n:Nat) (l:List Int):Int:=kJ (fun i=>fE n (l.getD i 0) (l.take i)) l.length
def iN (l:List Int):List Nat:=l.map fun p=>(p - 1).toNat
theorem tK (l:List Int):(iN l).length = l.length:=by rw [iN,List.length_map]
theorem Jd {n:Nat} {p:Int} {o:List Int} (h:fE n p o = 0):1 ≤ p ∧ p ≤ n:=by
 unfold fE at h
 split at h
 ·omega
 ·rename_i c; exact Decidable.not_not.1 c
theorem Gt {n : Nat} {l : List Int} (h : rY n l = 0) : ∀ x, x ∈ l → 1 ≤ x ∧ x ≤ n := fun x hx => by
 obtain ⟨i,hi,e⟩:=List.getElem_of_mem hx
 have:=Jd (iV h i hi)
 rw [show l.getD i 0 = x by rw [List.getD,List.getElem?_eq_getElem hi,e]; rfl] at this
 exact this
theorem Gs {n : Nat} {l : List Int} (h : rY n l = 0) : ∀ x, x ∈ iN l → x < n := fun x hx => by
 obtain ⟨p,hp,rfl⟩:=List.mem_map.1 hx
 have:=Gt h p hp; omega
theorem Ka {n:Nat} {l:List Int} (h:rY n l = 0):l.map (aO .i64) = ((iN l).map Nat.succ).map (NT .i64):=by
 rw [iN,List.map_map,List.map_map]
 refine List.map_congr_left fun p hp=>?_
 have:=Gt h p hp
 show aO .i64 p = aO .i64 (((p - 1).toNat + 1:Nat):Int)
 congr 1; omega
theorem Qr {n:Nat} {l:List Int} (h:rY n l = 0) {i:Nat} (hi:i < l.length):fR (iN l) i = (l.getD i 0 - 1).toNat ∧ 1 ≤ l.getD i 0:=by
 have h1:=Gt h (l.getD i 0) (by rw [show l.getD i 0 = l[i] by simp [List.getD,hi]]; exact List.getElem_mem hi)
 refine ⟨?_,h1.1⟩
 simp [fR,iN,List.getD,hi]
def vO (n:Nat) (l:List Int):Int:=if l.length ≠ n then 4 else rY n l
def yZ (z:List Qi) (l:List Int):List Qi:=dA (vO z.length l) (uU z (iN l))
def qZ (z:List Qi) (s:List (List Qi)) (l:List Int):List (List Qi):=dA (vO z.length l) (nD s (iN l))
theorem Ce {n:Nat} {l:List Int} (h:l.length ≠ n):vO n l = 4:=if_pos h
theorem Nh {n:Nat} {l:List Int} (h:l.length = n):vO n l = rY n l:=if_neg (fun k=>k h)
theorem nW (z:List Qi) (Q:List Nat):(uU z Q).length = Q.length:=aN _ _
theorem tR (s:List (List Qi)) (Q:List Nat):cM (nD s Q) Q.length Q.length:=cM.tab
end
section
open Go Go.RowKit
def rW (js:List (Int × Int)):List Int:=js.flatMap fun q=>[q.1,q.2]
def gS (js:List (Int × Int)):List (Nat × Nat):=js.map fun q=>((q.1 - 1).toNat,(q.2 - 1).toNat)
abbrev wL (js:List (Int × Int)) (k:Nat):Int × Int:=js.getD k (0,0)
theorem a0Y (a b:List (Int × Int)):rW (a ++ b) = rW a ++ rW b:=by simp [rW]
theorem Xj {js:List (Int × Int)} {k:Nat} (h:k < js.length):rW (js.take (k + 1)) = rW (js.take k) ++ [(wL js k).1,(wL js k).2]:=by
 rw [List.take_succ_eq_append_getElem h,a0Y]
 simp [rW,wL,List.getD,h]
theorem zT : ∀ (js : List (Int × Int)), (rW js).length = 2 * js.length
 | []=>rfl
 | q :: r => by
  have:=zT r
  have e:rW (q :: r) = q.1 :: q.2 :: rW r:=rfl
  rw [e,List.length_cons,List.length_cons,List.length_cons,this]; omega
theorem Ps : ∀ (js : List (Int × Int)) {x : Nat}, x < 2 * js.length → (rW js).getD x 0 = if x % 2 = 0 then (wL js (x / 2)).1 else (wL js (x / 2)).2
 | [],x,h=>by simp at h
 | q :: r,0,_=>rfl
 | q :: r,1,_=>rfl
 | q :: r, x + 2, h => by
  have ih:=Ps r (x:=x) (by simp only [List.length_cons] at h; omega)
  have e:rW (q :: r) = q.1 :: q.2 :: rW r:=rfl
  rw [e]
  show (rW r).getD x 0 = _
  rw [ih,show (x + 2) % 2 = x % 2 by omega,show (x + 2) / 2 = x / 2 + 1 by omega]
  rfl
theorem Mq {js:List (Int × Int)} {k:Nat} (h:k < js.length):pA (gS js) k = ((wL js k).1 - 1).toNat ∧ pB (gS js) k = ((wL js k).2 - 1).toNat:=by
 simp [pA,pB,gS,wL,List.getD,h]
theorem jgq {js:List (Int × Int)} {x:Nat} (h:x < 2 * js.length):gq (gS js) x = ((rW js).getD x 0 - 1).toNat:=by
 have h2:x / 2 < js.length:=by omega
 rw [Ps js h,gq,(Mq h2).1,(Mq h2).2]
 split <;> rfl
theorem Kb {n:Nat} {A:List Int} (h:rY n A = 0) (a:Int):rY n (A ++ [a]) = fE n a A:=by
 rw [rY,List.length_append,List.length_singleton]
 have e : kJ (fun i => fE n ((A ++ [a]).getD i 0) ((A ++ [a]).take i)) A.length = 0 := jL fun i hi => by
  have:=iV h i hi
  rw [List.take_append_of_le_length zo]
  have e2:(A ++ [a]).getD i 0 = A.getD i 0:=by simp [List.getD,List.getElem?_append_left hi]
  rw [e2]; exact this
 rw [kJ,e,if_neg (by simp),List.take_append_of_le_length (Nat.le_refl _),List.take_length]
 congr 1
 simp [List.getD]
theorem Tf {n:Nat} {A:List Int} (h:rY n A = 0) (a b:Int):rY n (A ++ [a,b]) = if fE n a A ≠ 0 then fE n a A else fE n b (A ++ [a]):=by
 have e:A ++ [a,b] = (A ++ [a]) ++ [b]:=by simp
 by_cases c:fE n a A = 0
 ·rw [if_neg (fun k=>k c),e,Kb (by rw [Kb h]; exact c)]
 ·rw [if_pos c]
  have h1 : kJ (fun i => fE n ((A ++ [a, b]).getD i 0) ((A ++ [a, b]).take i)) A.length = 0 := jL fun i hi => by
   have:=iV h i hi
   rw [List.take_append_of_le_length zo]
   have e2:(A ++ [a,b]).getD i 0 = A.getD i 0:=by simp [List.getD,List.getElem?_append_left hi]
   rw [e2]; exact this
  have h2 : fE n ((A ++ [a, b]).getD A.length 0) ((A ++ [a, b]).take A.length) = fE n a A := by
   rw [List.take_append_of_le_length (Nat.le_refl _),List.take_length]
   congr 1
   simp [List.getD]
  rw [rY,xT (k:=A.length) (fun i hi=>iV h1 i hi) (by rw [h2]; exact c) (by simp)]
  exact h2
def Su (z : List Qi) (js : List (Int × Int)) (k : Nat) : Int :=
 if fE z.length (wL js k).1 (rW (js.take k)) ≠ 0 then fE z.length (wL js k).1 (rW (js.take k))
 else if fE z.length (wL js k).2 (rW (js.take k) ++ [(wL js k).1]) ≠ 0 then fE z.length (wL js k).2 (rW (js.take k) ++ [(wL js k).1])
 else if gv z ((wL js k).1 - 1).toNat = gv z ((wL js k).2 - 1).toNat then 0 else 40
def jdE (z:List Qi) (js:List (Int × Int)):Int:=kJ (Su z js) js.length
theorem Jj {z:List Qi} {js:List (Int × Int)} {k:Nat} (h:Su z js k = 0):fE z.length (wL js k).1 (rW (js.take k)) = 0 ∧ fE z.length (wL js k).2 (rW (js.take k) ++ [(wL js k).1]) = 0 ∧ gv z ((wL js k).1 - 1).toNat = gv z ((wL js k).2 - 1).toNat:=by
 unfold Su at h
 by_cases c1:fE z.length (wL js k).1 (rW (js.take k)) = 0
 ·rw [if_neg (fun k => k c1)] at h
  by_cases c2:fE z.length (wL js k).2 (rW (js.take k) ++ [(wL js k).1]) = 0
  ·rw [if_neg (fun k => k c2)] at h
   by_cases c3:gv z ((wL js k).1 - 1).toNat = gv z ((wL js k).2 - 1).toNat
   ·exact ⟨c1,c2,c3⟩
   ·rw [if_neg c3] at h; omega
  ·rw [if_pos c2] at h; exact absurd h c2
 ·rw [if_pos c1] at h; exact absurd h c1
theorem jpr {z : List Qi} {js : List (Int × Int)} : ∀ {k : Nat}, k ≤ js.length → (∀ j, j < k → Su z js j = 0) → rY z.length (rW (js.take k)) = 0
 | 0,_,_=>rfl
 | k + 1, hk, h => by
  have ih:=jpr (z:=z) (js:=js) (k:=k) zo fun j hj=>h j zo
  obtain ⟨h1,h2,_⟩:=Jj (h k zo)
  rw [Xj zo,Tf ih,if_neg (fun k=>k h1)]; exact h2
theorem a3F {z:List Qi} {js:List (Int × Int)} (h:jdE z js = 0):rY z.length (rW js) = 0:=by
 have:=jpr (z:=z) (Nat.le_refl js.length) (iV h)
 rwa [List.take_length] at this
theorem Sk {n : Nat} {p : Int} {o : List Int} (h : fE n p o = 0) : p ∉ o := fun hm => by
 have h1:=Jd h
 unfold fE at h
 rw [if_neg (fun k=>k h1),if_pos (List.any_eq_true.2 ⟨p,hm,by simp⟩)] at h
 omega
theorem Qs {n:Nat} {l:List Int} (h:rY n l = 0) {x y:Nat} (hx:x < l.length) (hy:y < l.length) (e:l.getD x 0 = l.getD y 0):x = y:=by
 have key : ∀ x y, x < y → y < l.length → l.getD x 0 ≠ l.getD y 0 := fun x y hxy hy e => by
  refine Sk (iV h y hy) ?_
  rw [← e]
  have e2:l.getD x 0 = l[x]'zo:=by simp [List.getD,show x < l.length by omega]
  rw [e2]
  exact List.mem_take_iff_getElem.2 ⟨x,by omega,rfl⟩
 rcases Nat.lt_trichotomy x y with c | c | c
 ·exact absurd e (key x y c hy)
 ·exact c
 ·exact absurd e.symm (key y x c hx)
theorem a5e {z:List Qi} {js:List (Int × Int)} (h:jdE z js = 0):Jn (gS js) z.length js.length:=by
 have hp:=a3F h
 have hl:=zT js
 have hr : ∀ x, x < 2 * js.length → 1 ≤ (rW js).getD x 0 ∧ (rW js).getD x 0 ≤ z.length := fun x hx => Gt hp _ (by
  rw [show (rW js).getD x 0 = (rW js)[x]'zo by simp [List.getD,show x < (rW js).length by omega]]; exact List.getElem_mem _)
 refine ⟨fun x hx=>?_,fun x y hx hy e=>?_⟩
 ·rw [jgq hx]; have:=hr x hx; omega
 ·rw [jgq hx, jgq hy] at e
  have h1:=hr x hx; have h2:=hr y hy
  exact Qs hp zo zo zo
def oA (js:List (Int × Int)):List Nat:=(rW js).map fun p=>(p - 1).toNat
def jnF (z:List Qi) (js:List (Int × Int)):List Nat:=gR (oA js) z.length
def Ss (z:List Qi) (js:List (Int × Int)):List Qi:=uU z (jnF z js)
def Jh (z:List Qi) (S:List (List Qi)) (js:List (Int × Int)):List (List Qi):=tab (jnF z js).length fun x=>tab (jnF z js).length fun y=>jnX S (gS js) (2 * js.length) (fR (jnF z js) x) (fR (jnF z js) y)
theorem uF {js:List (Int × Int)} {j:Nat}:j ∈ oA js ↔ ∃ x,x < 2 * js.length ∧ gq (gS js) x = j:=by
 constructor
 ·intro h
  obtain ⟨p,hp,rfl⟩:=List.mem_map.1 h
  obtain ⟨x,hx,e⟩:=List.getElem_of_mem hp
  have hl:=zT js
  refine ⟨x,by omega,?_⟩
  rw [jgq zo,show (rW js).getD x 0 = p by rw [← e]; simp [List.getD,hx]]
 ·rintro ⟨x, hx, rfl⟩
  have hl:=zT js
  rw [jgq hx]
  refine List.mem_map.2 ⟨(rW js).getD x 0,?_,rfl⟩
  rw [show (rW js).getD x 0 = (rW js)[x]'zo by simp [List.getD,show x < (rW js).length by omega]]; exact List.getElem_mem _
end
section
open Go Go.RowKit
theorem Bl (M:List (List Qi)) (n:Nat):cM (qU M n) n n:=cM.tab
theorem Kv (M:List (List Qi)) (b:List Qi) (n:Nat):(kR M b n).length = n:=tV _ _ _
theorem Bm {M:List (List Qi)} {n:Nat} (h:sO M n = 0):∀ k,k < n → kZ M (ek n k) n = 0:=iV h
def ovE (M:List (List Qi)) (n:Nat):Int:=if sO M n = 0 then 0 else 5
def ovX (Y M:List (List Qi)) (n:Nat):List (List Qi):=dA (ovE M n) (jY Y (qU M n) n n n)
theorem Yo {M:List (List Qi)} {n:Nat} (h:ovE M n = 0):sO M n = 0:=by
 unfold ovE at h; split at h
 ·assumption
 ·omega
theorem xD {n i j:Nat} (hi:i < n) (hj:j < n):gm (wK n) i j = if i = j then 1 else 0:=by
 show gv ((wK n).getD i []) j = _
 rw [wK,rD hi,Cu,sN (by rw [aN]; exact hi)]
 by_cases e:j = i
 ·subst e; rw [if_pos rfl,if_pos rfl]; rfl
 ·rw [if_neg e,if_neg (Ne.symm e),iJ hj]; rfl
theorem jP {a b:List (List Qi)} {n m:Nat} (ha:cM a n m) (hb:cM b n m) (h:∀ i,i < n → ∀ j,j < m → gm a i j = gm b i j):a = b:=by
 rw [pV ha,pV hb]
 exact dD fun i hi=>dD fun j hj=>h i hi j hj
end
section
open Go Go.RowKit
theorem pig : ∀ {n m : Nat} {f : Nat → Nat}, (∀ x, x < m → f x < n) → (∀ x y, x < m → y < m → f x = f y → x = y) → m ≤ n
 | 0, m, f, h, _ => by
  cases m with
  | zero=>exact Nat.le_refl 0
  | succ m=>exact absurd (h 0 zo) zo
 | n + 1,0,_,_,_=>by omega
 | n + 1, k + 1, f, h, i => by
  have := pig (n := n) (m := k) (f := fun x => if f x = n then f k else f x) (fun x hx => by
   have h1:=h x zo
   have h2:=h k zo
   by_cases c:f x = n
   ·simp only [if_pos c]
    have:f k ≠ n:=fun e=>by have:=i x k zo zo (by rw [c,e]); omega
    omega
   ·simp only [if_neg c]; omega) (fun x y hx hy e=>by
   by_cases c:f x = n <;> by_cases d:f y = n
   ·exact i x y zo zo (by rw [c,d])
   ·simp only [if_pos c, if_neg d] at e
    have:=i k y zo zo e; omega
   ·simp only [if_neg c, if_pos d] at e
    have:=i x k zo zo e; omega
   ·simp only [if_neg c, if_neg d] at e
    exact i x y zo zo e)
  omega
end
section
open Go Go.RowKit
theorem a49 {x:Qi} (h:fB x = true):x ≠ 0:=fun e=>(a4a h).2 (by rw [e]; rfl)
theorem sB {z:List Qi} (h:z.all fB = true) {i:Nat} (hi:i < z.length):gv z i ≠ 0:=a49 (List.all_eq_true.1 h _ (by rw [show gv z i = z[i] by simp [gv,List.getD,hi]]; exact List.getElem_mem hi))
theorem wG {x y:Qi} {L M:Nat} (hx:aE x L) (hy:aE y M) (h:y ≠ 0):aE (x / y) (L + 3 * M + 2):=⟨hx.fit.div hy.fit h⟩
def jV (z w:List Qi) (i:Nat):Qi:=gv w i / gv z i
def rnP (z w:List Qi):List Qi:=tab w.length fun i=>Qi.ofInt 1 + jV z w i
def rnM (z w:List Qi):List Qi:=tab w.length fun i=>Qi.ofInt 1 - jV z w i
def mxE (st fa:List Qi) (s:List (List Qi)) (i j:Nat):Qi:=(if i = j then gv st i else Qi.ofInt 0) + gv fa i * gm s i j
def mxM (st fa:List Qi) (s:List (List Qi)) (n:Nat):List (List Qi):=tab n fun i=>tab n fun j=>mxE st fa s i j
theorem zW (st fa:List Qi) (s:List (List Qi)) (n:Nat):cM (mxM st fa s n) n n:=cM.tab
theorem a1g {st fa:List Qi} {s:List (List Qi)} {K L:Nat} (hs:bP st K) (hf:bP fa K) (hS:bC s L) (hK:1 ≤ K) (hL:1 ≤ L) (i j:Nat):aE (mxE st fa s i j) (2 * K + L + 2):=by
 haveI f1:=hf.get hK i
 haveI f2:=hS.get hL i j
 haveI f3 : aE (if i = j then gv st i else Qi.ofInt 0) K := by
  split
  ·exact hs.get hK i
  ·exact aE.zero hK
 have:aE (mxE st fa s i j) (K + (K + L + 1) + 1):=inferInstanceAs (aE (_ + _ * _) _)
 exact this.le zo
theorem Gj {st fa:List Qi} {s:List (List Qi)} {n K L:Nat} (hs:bP st K) (hf:bP fa K) (hS:bC s L) (hK:1 ≤ K) (hL:1 ≤ L):bC (mxM st fa s n) (2 * K + L + 2):=bC.tab fun i j _ _=>a1g hs hf hS hK hL i j
theorem wX {z w:List Qi} {L M i:Nat} (hz:bP z L) (hw:bP w M) (hL:1 ≤ L) (hM:1 ≤ M) (hp:z.all fB = true) (hi:i < z.length):aE (jV z w i) (M + 3 * L + 2):=wG (hw.get hM i) (hz.get hL i) (sB hp hi)
theorem Gx {z w : List Qi} {L M : Nat} (hz : bP z L) (hw : bP w M) (hL : 1 ≤ L) (hM : 1 ≤ M) (hp : z.all fB = true) (hl : w.length = z.length) : bP (rnP z w) (M + 3 * L + 4) := bP.tab fun i hi => by
 haveI f1:=wX (i:=i) hz hw hL hM hp zo
 haveI:=kG
 have:aE (Qi.ofInt 1 + jV z w i) (1 + (M + 3 * L + 2) + 1):=fitAdd
 exact this.le zo
theorem Gw {z w : List Qi} {L M : Nat} (hz : bP z L) (hw : bP w M) (hL : 1 ≤ L) (hM : 1 ≤ M) (hp : z.all fB = true) (hl : w.length = z.length) : bP (rnM z w) (M + 3 * L + 4) := bP.tab fun i hi => by
 haveI f1:=wX (i:=i) hz hw hL hM hp zo
 haveI:=kG
 have:aE (Qi.ofInt 1 - jV z w i) (1 + (M + 3 * L + 2) + 1):=fitSub
 exact this.le zo
abbrev Ud (z w:List Qi) (s:List (List Qi)):List (List Qi):=mxM (rnM z w) (rnP z w) s w.length
abbrev yR (z w:List Qi) (s:List (List Qi)):List (List Qi):=mxM (rnP z w) (rnM z w) s w.length
def Aa (z w:List Qi) (s:List (List Qi)):Int:=if w.length ≠ z.length then 4 else if w.all fB = true then ovE (yR z w s) w.length else 1
def Zf (z w:List Qi) (s:List (List Qi)):List Qi:=dA (Aa z w s) w
def nX (z w:List Qi) (s:List (List Qi)):List (List Qi):=dA (Aa z w s) (jY (Ud z w s) (qU (yR z w s) w.length) w.length w.length w.length)
theorem Qx {z w:List Qi} {s:List (List Qi)} (h:w.length ≠ z.length):Aa z w s = 4:=if_pos h
theorem a4d {z w:List Qi} {s:List (List Qi)} (h:w.length = z.length) (hp:w.all fB ≠ true):Aa z w s = 1:=by rw [Aa,if_neg (fun k=>k h),if_neg hp]
theorem a2D {z w:List Qi} {s:List (List Qi)} (h:w.length = z.length) (hp:w.all fB = true):Aa z w s = ovE (yR z w s) w.length:=by rw [Aa,if_neg (fun k=>k h),if_pos hp]
theorem a4e {z w:List Qi} {s:List (List Qi)} (h:w.length = z.length) (hp:w.all fB = true):nX z w s = ovX (Ud z w s) (yR z w s) w.length:=by rw [nX,a2D h hp]; rfl
def rdl (i j:Nat):Qi:=if i = j then Qi.ofInt 1 else Qi.ofInt 0
end
section
open Go Go.RowKit
section
variable {φ:Qi → Qi → Bool} {z:List Qi} {js:List (Int × Int)}
end
theorem mH {a b:List (List Qi)} {n k m i j:Nat} (hi:i < n) (hj:j < m):gm (jY a b n k m) i j = aF k fun t=>gm a i t * gm b t j:=eR hi hj
theorem a1e {A : List (List Qi)} {n : Nat} (h : cM A n n) : jY (wK n) A n n n = A := jP kM h fun i hi j hj => by
 rw [mH hi hj,cO hi (f:=fun t=>gm (wK n) i t * gm A t j) fun k hk hne=>by rw [xD hi hk,if_neg (Ne.symm hne)]; grind,xD hi hi,if_pos rfl]; grind
theorem a1f {A : List (List Qi)} {n : Nat} (h : cM A n n) : jY A (wK n) n n n = A := jP kM h fun i hi j hj => by
 rw [mH hi hj,cO hj (f:=fun t=>gm A i t * gm (wK n) t j) fun k hk hne=>by rw [xD hk hj,if_neg hne]; grind,xD hj hj,if_pos rfl]; grind
abbrev jp1 (js:List (Int × Int)) (k:Nat):Nat:=((wL js k).1 - 1).toNat
abbrev jp2 (js:List (Int × Int)) (k:Nat):Nat:=((wL js k).2 - 1).toNat
theorem a2A {js:List (Int × Int)} {k:Nat} (h:k < js.length):gq (gS js) (2 * k) = jp1 js k ∧ gq (gS js) (2 * k + 1) = jp2 js k:=by
 obtain ⟨h1,h2⟩:=Mq h
 rw [a0S,a3w]; exact ⟨h1,h2⟩
def pU:Qi:=Qi.frac 1 0 2
theorem Po:aE pU 2:=⟨Qi.Fit.frac (by decide) (by decide) (by decide) (by decide) (by decide) (by decide) (by decide)⟩
theorem a0T:pU * Qi.ofInt 2 = Qi.ofInt 1:=by decide +kernel
section
variable {js:List (Int × Int)} {n:Nat}
end
end
section
open Go Go.RowKit
structure Dm (O:List Nat) (n:Nat):Prop where
 nd:O.Nodup
 all:∀ x,x ∈ O ↔ 1 ≤ x ∧ x ≤ n
theorem Dm.len {O:List Nat} {n:Nat} (h:Dm O n):O.length = n:=by
 refine Nat.le_antisymm ?_ ?_
 ·refine pig (n := n) (f := fun i => O.getD i 0 - 1) (fun x hx => ?_) (fun x y hx hy e => ?_)
  ·have := (h.all (O.getD x 0)).1 (by rw [show O.getD x 0 = O[x] by simp [List.getD, hx]]; exact List.getElem_mem hx)
   show O.getD x 0 - 1 < n; omega
  ·have a := (h.all (O.getD x 0)).1 (by rw [show O.getD x 0 = O[x] by simp [List.getD, hx]]; exact List.getElem_mem hx)
   have b:=(h.all (O.getD y 0)).1 (by rw [show O.getD y 0 = O[y] by simp [List.getD,hy]]; exact List.getElem_mem hy)
   have e2:O.getD x 0 = O.getD y 0:=by have:O.getD x 0 - 1 = O.getD y 0 - 1:=e; omega
   rw [show O.getD x 0 = O[x] by simp [List.getD,hx],show O.getD y 0 = O[y] by simp [List.getD,hy]] at e2
   exact (List.getElem_inj h.nd).1 e2
 ·have key : ∀ j, j < n → ∃ i, i < O.length ∧ O.getD i 0 = j + 1 := fun j hj => by
   obtain ⟨i,hi,e⟩:=List.getElem_of_mem ((h.all (j + 1)).2 ⟨by omega,by omega⟩)
   exact ⟨i,hi,by simp [List.getD,hi,e]⟩
  refine pig (n:=O.length) (f:=fun j=>if hj:j < n then Classical.choose (key j hj) else 0) (fun x hx=>by simp only [dif_pos hx]; exact (Classical.choose_spec (key x hx)).1) (fun x y hx hy e=>?_)
  simp only [dif_pos hx,dif_pos hy] at e
  have a:=(Classical.choose_spec (key x hx)).2
  have b:=(Classical.choose_spec (key y hy)).2
  rw [e] at a; omega
section
variable {O:List Nat} {n:Nat}
theorem Dm.at (h:Dm O n) {i:Nat} (hi:i < n):1 ≤ O.getD i 0 ∧ O.getD i 0 ≤ n:=by
 have hl:=h.len
 exact (h.all _).1 (by rw [show O.getD i 0 = O[i] by simp [List.getD,show i < O.length by omega]]; exact List.getElem_mem _)
theorem Dm.inj (h:Dm O n) {i j:Nat} (hi:i < n) (hj:j < n) (e:O.getD i 0 = O.getD j 0):i = j:=by
 have hl:=h.len
 rw [show O.getD i 0 = O[i] by simp [List.getD,show i < O.length by omega],show O.getD j 0 = O[j] by simp [List.getD,show j < O.length by omega]] at e
 exact (List.getElem_inj h.nd).1 e
end
end
section
open Go Go.RowKit
def a2K (S:Nat → Nat → Qi) (p q:Nat):Prop:=∀ v0 v1:Qi,v0 = S q p * v0 + S q q * v1 → v1 = S p p * v0 + S p q * v1 → v0 = 0 ∧ v1 = 0
theorem Hb {M:List (List Qi)} {b:List Qi} {n:Nat} (h:cM M n n):kZ M b n = 0 ↔ ∀ y:Nat → Qi,(∀ i,i < n → aF n (fun k=>gm M i k * y k) = 0) → ∀ k,k < n → y k = 0:=by
 constructor
 ·intro e; exact (mO h e).2
 ·intro hk
  apply Classical.byContradiction; intro e
  obtain ⟨y,hy,k,hkn,hne⟩:=Kw h e
  exact hne (hk y hy k hkn)
theorem Nk (f:Nat → Qi):aF 2 f = f 0 + f 1:=by simp only [aF,q0]; grind
section
variable {S:List (List Qi)} {p q r t a b:Nat}
abbrev J1 (p q:Nat):List (Int × Int):=[(((p + 1:Nat):Int),((q + 1:Nat):Int))]
theorem p1n (p:Nat):(((p + 1:Nat):Int) - 1).toNat = p:=by omega
theorem a12:gS (J1 p q) = [(p,q)]:=by simp only [gS,J1,List.map_cons,List.map_nil,p1n]
theorem a5c:oA (J1 p q) = [p,q]:=by
 have e:oA (J1 p q) = [(((p + 1:Nat):Int) - 1).toNat,(((q + 1:Nat):Int) - 1).toNat]:=rfl
 rw [e,p1n,p1n]
theorem a4g {v:Nat → Qi}:(aF 2 (fun y=>gm (uG S [(p,q)] 2) 0 y * v y) = v 0 - (gm S q p * v 0 + gm S q q * v 1)) ∧ (aF 2 (fun y=>gm (uG S [(p,q)] 2) 1 y * v y) = v 1 - (gm S p p * v 0 + gm S p q * v 1)):=by
 rw [Pt zo,Pt zo,Nk,Nk]
 exact ⟨rfl,rfl⟩
theorem Tu {x y:Qi} (h:x - y = 0):x = y:=by grind
theorem Qh {bb:List Qi}:kZ (uG S [(p,q)] 2) bb 2 = 0 ↔ a2K (gm S) p q:=by
 rw [Hb (wM _ _ _)]
 constructor
 ·intro h v0 v1 h0 h1
  have hk := h (fun k => if k = 0 then v0 else v1) (fun i hi => by
   obtain ⟨r0,r1⟩:=a4g (S:=S) (p:=p) (q:=q) (v:=fun k=>if k = 0 then v0 else v1)
   have c:i = 0 ∨ i = 1:=by omega
   rcases c with rfl | rfl
   ·rw [r0]; show v0 - (gm S q p * v0 + gm S q q * v1) = 0; clear r0 r1 h; grind
   ·rw [r1]; show v1 - (gm S p p * v0 + gm S p q * v1) = 0; clear r0 r1 h; grind)
  exact ⟨hk 0 zo,hk 1 zo⟩
 ·intro h y hy
  obtain ⟨r0,r1⟩:=a4g (S:=S) (p:=p) (q:=q) (v:=y)
  obtain ⟨a0,a1⟩:=h (y 0) (y 1) (Tu (by rw [← r0]; exact hy 0 zo)) (Tu (by rw [← r1]; exact hy 1 zo))
  intro k hk
  have c:k = 0 ∨ k = 1:=by omega
  rcases c with rfl | rfl
  ·exact a0
  ·exact a1
end
section
variable {S:Nat → Nat → Qi} {p q r t a b:Nat}
def S1 (S:Nat → Nat → Qi) (p q:Nat) (V:Nat → Qi × Qi) (a b:Nat):Qi:=S a b + (S a p * (V b).1 + S a q * (V b).2)
variable {V:Nat → Qi × Qi}
end
end
section
open Go Go.RowKit
def low (c a b:Nat):Nat:=c - (if a < c then 1 else 0) - (if b < c then 1 else 0)
def okP (N p q r t : Nat) : Bool :=
 decide ((gR [p,q] N).length = N - 2) && decide (low r p q < N - 2) && decide (low t p q < N - 2) && decide (low r p q ≠ low t p q) && decide (fR (gR [p,q] N) (low r p q) = r) && decide (fR (gR [p,q] N) (low t p q) = t)
 && decide ((gR [low r p q,low t p q] (N - 2)).map (fR (gR [p,q] N)) = gR [p,q,r,t] N) && decide ((gR [p,q,r,t] N).length = N - 4) && decide (gR [t,r,p,q] N = gR [p,q,r,t] N) && decide (gR [r,t,p,q] N = gR [p,q,r,t] N)
theorem Ed {n p:Nat} {l:List Nat} (hp:p < n) (h:p ∉ l):fE n ((p + 1:Nat):Int) (l.map fun (x:Nat)=>((x + 1:Nat):Int)) = 0:=by
 rw [fE,if_neg (fun k=>k ⟨by omega,by omega⟩),if_neg]
 simp only [List.any_map,List.any_eq_true,Function.comp,decide_eq_true_eq]
 rintro ⟨x,hx,e⟩
 exact h ((show x = p by omega) ▸ hx)
section
variable {z:List Qi} {S:List (List Qi)} {N p q r t:Nat} {ζ:Qi}
theorem a3J {js:List (Int × Int)} {k:Nat} {a b:Nat} {l:List Nat} (hk:wL js k = (((a + 1:Nat):Int),((b + 1:Nat):Int))) (hl:rW (js.take k) = l.map fun (x:Nat)=>((x + 1:Nat):Int)) (ha:a < z.length) (hb:b < z.length) (hal:a ∉ l) (hbl:b ∉ l) (hab:a ≠ b) (hz:gv z a = gv z b):Su z js k = 0:=by
 have e2:(l.map fun (x:Nat)=>((x + 1:Nat):Int)) ++ [((a + 1:Nat):Int)] = (l ++ [a]).map fun (x:Nat)=>((x + 1:Nat):Int):=by simp
 rw [Su,hk,hl]
 simp only []
 rw [e2,Ed ha hal,Ed hb (by simp only [List.mem_append,List.mem_singleton]; rintro (k | k); exact hbl k; exact hab k.symm),p1n,p1n,if_pos hz]; rfl
end
end
section
open Go Go.RowKit
def Gb (x:Qi) (N:Nat):Prop:=∃ p q:Int,x = Qi.mk (p:Rat) (q:Rat) ∧ p.natAbs ≤ N ∧ q.natAbs ≤ N
theorem Gb.le {x:Qi} {N M:Nat} (h:Gb x N) (k:N ≤ M):Gb x M:=by
 obtain ⟨p,q,e,h1,h2⟩:=h; exact ⟨p,q,e,by omega,by omega⟩
theorem Gb.add {x y:Qi} {N M:Nat} (h:Gb x N) (k:Gb y M):Gb (x + y) (N + M):=by
 obtain ⟨p,q,rfl,h1,h2⟩:=h; obtain ⟨r,s,rfl,k1,k2⟩:=k
 refine ⟨p + r,q + s,Qi.ext' ?_ ?_,by omega,by omega⟩
 ·show (p:Rat) + (r:Rat) = ((p + r:Int):Rat); push_cast; rfl
 ·show (q:Rat) + (s:Rat) = ((q + s:Int):Rat); push_cast; rfl
theorem Gb.neg {x:Qi} {N:Nat} (h:Gb x N):Gb (-x) N:=by
 obtain ⟨p,q,rfl,h1,h2⟩:=h
 refine ⟨-p,-q,Qi.ext' ?_ ?_,by omega,by omega⟩
 ·show -(p:Rat) = ((-p:Int):Rat); push_cast; rfl
 ·show -(q:Rat) = ((-q:Int):Rat); push_cast; rfl
theorem Gb.sub {x y:Qi} {N M:Nat} (h:Gb x N) (k:Gb y M):Gb (x - y) (N + M):=by rw [Qi.sub_def]; exact h.add k.neg
theorem pX {p q:Int} {N M:Nat} (h:p.natAbs ≤ N) (k:q.natAbs ≤ M):(p * q).natAbs ≤ N * M:=by rw [Int.natAbs_mul]; exact Nat.mul_le_mul h k
theorem Gb.mul {x y:Qi} {N M:Nat} (h:Gb x N) (k:Gb y M):Gb (x * y) (2 * N * M):=by
 obtain ⟨p,q,rfl,h1,h2⟩:=h; obtain ⟨r,s,rfl,k1,k2⟩:=k
 have a1:=pX h1 k1; have a2:=pX h2 k2; have a3:=pX h1 k2; have a4:=pX h2 k1
 have e:2 * N * M = N * M + N * M:=by rw [Nat.mul_assoc,Nat.two_mul]
 refine ⟨p * r - q * s,p * s + q * r,Qi.ext' ?_ ?_,by omega,by omega⟩
 ·rw [Qi.mul_re]; show (p:Rat) * (r:Rat) - (q:Rat) * (s:Rat) = ((p * r - q * s:Int):Rat); push_cast; rfl
 ·rw [Qi.mul_im]; show (p:Rat) * (s:Rat) + (q:Rat) * (r:Rat) = ((p * s + q * r:Int):Rat); push_cast; rfl
theorem Gb.sum {f : Nat → Qi} {N : Nat} : ∀ {n : Nat}, (∀ k, k < n → Gb (f k) N) → Gb (aF n f) (n * N)
 | 0,_=>⟨0,0,Qi.ext' rfl rfl,by simp,by simp⟩
 | n + 1, h => by
  rw [aF,Nat.succ_mul]
  exact (Gb.sum fun k hk=>h k zo).add (h n zo)
theorem Gb.fit {x:Qi} {N L:Nat} (h:Gb x N) (hN:N < BB ^ L) (hL:1 ≤ L):aE x L:=by
 obtain ⟨p,q,rfl,h1,h2⟩:=h
 have e:Qi.mk (p:Rat) (q:Rat) = Qi.mk' p q 1:=Qi.ext' (by rw [Qi.mk_re]; show (p:Rat) = p / ((1:Nat):Rat); grind) (by rw [Qi.mk_im]; show (q:Rat) = q / ((1:Nat):Rat); grind)
 rw [e]
 exact ⟨Qi.Fit.mk (by decide) zo zo (Qi.one_lt hL)⟩
theorem rS (n:Nat) (f:Nat → Qi):aF (n + 1) f = f 0 + aF n fun k=>f (k + 1):=by
 rw [Nat.add_comm n 1,rB,Cm]
 exact congrArg _ (aC fun k _=>by rw [Nat.add_comm])
def fs : Nat → Nat → Nat
 | 0,_=>1
 | n + 1,N=>2 * (n + 1) * N * fs n (4 * N * N)
theorem Mr {F:Nat → Nat → Qi} {n:Nat} {x:Nat → Qi}:vW F (n + 1) (n + 1) x ↔ (F 0 0 * x 0 + aF n (fun k=>F 0 (k + 1) * x (k + 1)) = 0) ∧ ∀ i,i < n → F (i + 1) 0 * x 0 + aF n (fun k=>F (i + 1) (k + 1) * x (k + 1)) = 0:=by
 constructor
 ·intro h
  exact ⟨by have:=h 0 zo; rwa [rS] at this,fun i hi=>by have:=h (i + 1) zo; rwa [rS] at this⟩
 ·rintro ⟨h1, h2⟩ i hi
  rw [rS]
  cases i with
  | zero=>exact h1
  | succ i=>exact h2 i zo
theorem La (n:Nat) (a b:Qi) (f g x:Nat → Qi):aF n (fun k=>(a * f k - b * g k) * x k) = a * aF n (fun k=>f k * x k) - b * aF n (fun k=>g k * x k):=by
 induction n with
 | zero=>simp only [aF,q0]; grind
 | succ n ih=>simp only [aF,ih]; grind
theorem yE (n:Nat) (a:Qi) (f x:Nat → Qi):aF n (fun k=>f k * (x k * a)) = a * aF n (fun k=>f k * x k):=by
 induction n with
 | zero=>simp only [aF,q0]; grind
 | succ n ih=>simp only [aF,ih]; grind
theorem a0O {F : Nat → Nat → Qi} {n N : Nat} (hp : F 0 0 ≠ 0) (hN : 1 ≤ N) (hF : ∀ i, i < n + 1 → ∀ j, j ≤ n + 1 → Gb (F i j) N) (hk : ∀ v, vW F (n + 1) (n + 1) v → ∀ k, k < n + 1 → v k = 0)
  (ih:∀ G:Nat → Nat → Qi,(∀ i,i < n → ∀ j,j ≤ n → Gb (G i j) (4 * N * N)) → (∀ v,vW G n n v → ∀ k,k < n → v k = 0) → ∃ (y:Nat → Qi) (e:Qi),e ≠ 0 ∧ Gb e (fs n (4 * N * N)) ∧ (∀ k,k < n → Gb (y k) (fs n (4 * N * N))) ∧ ∀ i,i < n → aF n (fun k=>G i k * y k) = e * G i n) :
  ∃ (y:Nat → Qi) (e:Qi),e ≠ 0 ∧ Gb e (fs (n + 1) N) ∧ (∀ k,k < n + 1 → Gb (y k) (fs (n + 1) N)) ∧ ∀ i,i < n + 1 → aF (n + 1) (fun k=>F i k * y k) = e * F i (n + 1):=by
 obtain ⟨y, e, he, ge, gy, hy⟩ := ih (fun i j => F 0 0 * F (i + 1) (j + 1) - F (i + 1) 0 * F 0 (j + 1)) (fun i hi j hj => by
   have h1:=(hF 0 zo 0 zo).mul (hF (i + 1) zo (j + 1) zo)
   have h2:=(hF (i + 1) zo 0 zo).mul (hF 0 zo (j + 1) zo)
   exact (h1.sub h2).le (by rw [show 4 * N * N = 2 * N * N + 2 * N * N by rw [← Nat.add_mul]; congr 1; omega]; exact Nat.le_refl _)) (fun v hv k hkn=>by
   have hz := hk (fun k => if k = 0 then -(aF n fun k => F 0 (k + 1) * v k) else F 0 0 * v (k - 1)) (Mr.2 ⟨by
    simp only [if_true,Nat.add_sub_cancel,if_neg (Nat.succ_ne_zero _)]
    have:=yE n (F 0 0) (fun k=>F 0 (k + 1)) v
    simp only [Qi.mul_comm' _ (F 0 0)] at this ⊢
    rw [this]; grind,fun i hi=>by
    simp only [if_true,Nat.add_sub_cancel,if_neg (Nat.succ_ne_zero _)]
    have:=yE n (F 0 0) (fun k=>F (i + 1) (k + 1)) v
    simp only [Qi.mul_comm' _ (F 0 0)] at this ⊢
    rw [this]
    have h:=hv i hi
    have h2:=La n (F 0 0) (F (i + 1) 0) (fun k=>F (i + 1) (k + 1)) (fun k=>F 0 (k + 1)) v
    simp only [] at h
    rw [h2] at h
    grind⟩) (k + 1) zo
   simp only [Nat.add_sub_cancel,if_neg (Nat.succ_ne_zero _)] at hz
   rcases iY hz with h | h
   ·exact absurd h hp
   ·exact h)
 have hf1 : 1 ≤ fs n (4 * N * N) := by
  apply Decidable.byContradiction; intro h
  have h0:fs n (4 * N * N) = 0:=by omega
  rw [h0] at ge
  obtain ⟨p,q,e1,p1,p2⟩:=ge
  have hp0:p = 0:=by omega
  have hq0:q = 0:=by omega
  exact he (by rw [e1,hp0,hq0]; exact Qi.ext' rfl rfl)
 have hG : fs (n + 1) N = (n + 1) * (2 * fs n (4 * N * N) * N) := by
  rw [fs]; simp only [Nat.mul_comm,Nat.mul_left_comm,Nat.mul_assoc]
 have hG1:2 * fs n (4 * N * N) * N ≤ fs (n + 1) N:=by rw [hG]; exact Nat.le_mul_of_pos_left _ zo
 refine ⟨fun k=>if k = 0 then e * F 0 (n + 1) - aF n (fun k=>F 0 (k + 1) * y k) else y (k - 1) * F 0 0,e * F 0 0,fun h=>?_,?_,fun k hkn=>?_,fun i hi=>?_⟩
 ·rcases iY h with h | h
  ·exact he h
  ·exact hp h
 ·exact (ge.mul (hF 0 zo 0 zo)).le hG1
 ·cases k with
  | zero =>
   simp only [if_true]
   have h1:=ge.mul (hF 0 zo (n + 1) zo)
   have h2:Gb (aF n fun k=>F 0 (k + 1) * y k) (n * (2 * N * fs n (4 * N * N))):=Gb.sum fun k hk=>(hF 0 zo (k + 1) zo).mul (gy k hk)
   refine (h1.sub h2).le ?_
   have e3:n * (2 * N * fs n (4 * N * N)) = n * (2 * fs n (4 * N * N) * N):=by simp only [Nat.mul_comm,Nat.mul_left_comm,Nat.mul_assoc]
   have e4:(n + 1) * (2 * fs n (4 * N * N) * N) = n * (2 * fs n (4 * N * N) * N) + 2 * fs n (4 * N * N) * N:=Nat.succ_mul _ _
   rw [hG,e3,e4,Nat.add_comm]; exact Nat.le_refl _
  | succ k =>
   simp only [Nat.add_sub_cancel,if_neg (Nat.succ_ne_zero _)]
   exact ((gy k zo).mul (hF 0 zo 0 zo)).le hG1
 ·rw [rS]
  simp only [if_true,Nat.add_sub_cancel,if_neg (Nat.succ_ne_zero _)]
  rw [yE n (F 0 0) (fun k=>F i (k + 1)) y]
  cases i with
  | zero=>grind
  | succ i =>
   have h:=hy i zo
   have h2:=La n (F 0 0) (F (i + 1) 0) (fun k=>F (i + 1) (k + 1)) (fun k=>F 0 (k + 1)) y
   rw [h2] at h
   grind
theorem Wu : ∀ (n N : Nat) (F : Nat → Nat → Qi), 1 ≤ N → (∀ i, i < n → ∀ j, j ≤ n → Gb (F i j) N) → (∀ v, vW F n n v → ∀ k, k < n → v k = 0) →
  ∃ (y:Nat → Qi) (e:Qi),e ≠ 0 ∧ Gb e (fs n N) ∧ (∀ k,k < n → Gb (y k) (fs n N)) ∧ ∀ i,i < n → aF n (fun k=>F i k * y k) = e * F i n
 | 0,N,F,_,_,_=>⟨fun _=>0,1,fun h=>by have:=congrArg Qi.re h; revert this; decide,⟨1,0,Qi.ext' rfl rfl,by simp [fs],by simp [fs]⟩,fun k hk=>by omega,fun i hi=>by omega⟩
 | n + 1, N, F, hN, hF, hk => by
  have hpz : ∃ p, p < n + 1 ∧ F p 0 ≠ 0 := by
   apply Classical.byContradiction; intro hno
   have hz : ∀ p, p < n + 1 → F p 0 = 0 := fun p hp => by
    apply Classical.byContradiction; intro h; exact hno ⟨p,hp,h⟩
   have := hk (fun k => if k = 0 then 1 else 0) (fun i hi => by
    rw [gM]
    intro k hk
    by_cases e:k = 0
    ·subst e; rw [hz i hi]; grind
    ·simp only [if_neg e]; grind) 0 zo
   simp only [if_true] at this
   have:=congrArg Qi.re this; revert this; decide
  obtain ⟨p,hp,hpz⟩:=hpz
  have hN4:1 ≤ 4 * N * N:=Nat.mul_pos zo zo
  obtain ⟨y, e, he, ge, gy, hy⟩ := a0O (F := fun i => F (Rc p 0 i)) (n := n) (N := N) (by simpa [Rc] using hpz) hN (fun i hi j hj => hF _ (He hp zo hi) j hj)
   (fun v hv=>hk v ((Jk hp zo).1 hv)) (fun G hG hGk=>Wu n (4 * N * N) G hN4 hG hGk)
  refine ⟨y,e,he,ge,gy,fun i hi=>?_⟩
  have:=hy (Rc p 0 i) (He hp zo hi)
  simp only [Rd] at this
  exact this
theorem a0Q {N:Nat}:∀ {n:Nat},n ≤ 4 → 1 ≤ N → fs n N ≤ 1610612736 * N ^ 15:=by
 intro n hn hN
 have hp:∀ k,k ≤ 15 → N ^ k ≤ N ^ 15:=fun k hk=>Nat.pow_le_pow_right hN hk
 have h0:=hp 0 zo; have h1:=hp 1 zo; have h3:=hp 3 zo; have h7:=hp 7 zo
 match n,hn with
 | 0,_=>rw [fs]; rw [Nat.pow_zero] at h0; omega
 | 1,_=>simp only [fs]; rw [show 2 * (0 + 1) * N * 1 = 2 * N ^ 1 by grind]; omega
 | 2,_=>simp only [fs]; rw [show 2 * (1 + 1) * N * (2 * (0 + 1) * (4 * N * N) * 1) = 32 * N ^ 3 by grind]; omega
 | 3,_=>simp only [fs]; rw [show 2 * (2 + 1) * N * (2 * (1 + 1) * (4 * N * N) * (2 * (0 + 1) * (4 * (4 * N * N) * (4 * N * N)) * 1)) = 12288 * N ^ 7 by grind]; omega
 | 4,_=>simp only [fs]; rw [show 2 * (3 + 1) * N * (2 * (2 + 1) * (4 * N * N) * (2 * (1 + 1) * (4 * (4 * N * N) * (4 * N * N)) * (2 * (0 + 1) * (4 * (4 * (4 * N * N) * (4 * N * N)) * (4 * (4 * N * N) * (4 * N * N))) * 1))) = 1610612736 * N ^ 15 by grind]; omega
theorem Pb (x:Qi):((x.den:Int):Rat) * x.re = (x.a:Rat) ∧ ((x.den:Int):Rat) * x.im = (x.b:Rat):=by
 have h:=Qi.nc x.den_pos
 have h2:((x.den:Int):Rat) = (x.den:Rat):=by push_cast; rfl
 rw [h2]
 exact ⟨by rw [Qi.re_eq x]; grind,by rw [Qi.im_eq x]; grind⟩
theorem Gy {L : Nat} {x : Nat → Qi} : ∀ k, (∀ j, j < k → aE (x j) L) → ∃ d : Nat, 0 < d ∧ d ≤ BB ^ (k * L) ∧ ∀ j, j < k → Gb (Qi.ofInt d * x j) (BB ^ (k * L))
 | 0,_=>⟨1,by decide,Nat.pow_pos eB,fun j hj=>by omega⟩
 | k + 1, h => by
  obtain ⟨d,d0,dl,hd⟩:=Gy k fun j hj=>h j zo
  have hx:=(h k zo).fit
  have hm:=Pb (x k)
  have hpow:BB ^ ((k + 1) * L) = BB ^ (k * L) * BB ^ L:=by rw [Nat.succ_mul,Nat.pow_add]
  refine ⟨d * (x k).den,Nat.mul_pos d0 (x k).den_pos,?_,fun j hj=>?_⟩
  ·rw [hpow]; exact Nat.mul_le_mul dl (Nat.le_of_lt hx.2.2)
  ·by_cases e : j = k
   ·subst e
    refine ⟨d * (x j).a,d * (x j).b,Qi.ext' ?_ ?_,?_,?_⟩
    ·rw [Qi.mul_re]
     show (((d * (x j).den:Nat):Int):Rat) * (x j).re - 0 * (x j).im = ((d * (x j).a:Int):Rat)
     have:=hm.1; push_cast at *; grind
    ·rw [Qi.mul_im]
     show (((d * (x j).den:Nat):Int):Rat) * (x j).im + 0 * (x j).re = ((d * (x j).b:Int):Rat)
     have:=hm.2; push_cast at *; grind
    ·rw [hpow]; exact pX (by simpa using dl) (Nat.le_of_lt hx.1)
    ·rw [hpow]; exact pX (by simpa using dl) (Nat.le_of_lt hx.2.1)
   ·obtain ⟨p, q, e1, h1, h2⟩ := hd j zo
    have er:=congrArg Qi.re e1; have ei:=congrArg Qi.im e1
    rw [Qi.mul_re] at er; rw [Qi.mul_im] at ei
    refine ⟨p * (x k).den,q * (x k).den,Qi.ext' ?_ ?_,?_,?_⟩
    ·rw [Qi.mul_re]
     have er:((d:Int):Rat) * (x j).re - 0 * (x j).im = (p:Rat):=er
     show (((d * (x k).den:Nat):Int):Rat) * (x j).re - 0 * (x j).im = ((p * (x k).den:Int):Rat)
     push_cast at *; grind
    ·rw [Qi.mul_im]
     have ei:((d:Int):Rat) * (x j).im + 0 * (x j).re = (q:Rat):=ei
     show (((d * (x k).den:Nat):Int):Rat) * (x j).im + 0 * (x j).re = ((q * (x k).den:Int):Rat)
     push_cast at *; grind
    ·rw [hpow]; exact pX h1 (by simpa using Nat.le_of_lt hx.2.2)
    ·rw [hpow]; exact pX h2 (by simpa using Nat.le_of_lt hx.2.2)
theorem Jx {d : Nat} (h : 0 < d) : Qi.ofInt d ≠ 0 := fun e => by
 have:=congrArg Qi.re e
 have h2:((d:Int):Rat) = ((0:Int):Rat):=this
 rw [Rat.intCast_inj] at h2; omega
end
section
open Go Go.RowKit
theorem Zr {M:List (List Qi)} {b:List Qi} {n m L K:Nat} (h:cM M n n) (hM:bC M L) (hb:bP b L) (hL:1 ≤ L) (hn:n ≤ m) (hbig:fs n (BB ^ ((m + 1) * L)) < BB ^ K) (hK:1 ≤ K) (hE:kZ M b n = 0):bP (kR M b n) (4 * K + 2):=by
 obtain ⟨s1,s2⟩:=mO h hE
 have hrow : ∀ i, ∃ d : Nat, 0 < d ∧ ∀ j, j < n + 1 → Gb (Qi.ofInt d * (if j < n then gm M i j else gv b i)) (BB ^ ((m + 1) * L)) := fun i => by
  obtain ⟨d, d0, _, hd⟩ := Gy (L := L) (x := fun j => if j < n then gm M i j else gv b i) (n + 1) fun j _ => by
   show aE (if j < n then gm M i j else gv b i) L
   split
   ·exact hM.get hL i j
   ·exact hb.get hL i
  exact ⟨d,d0,fun j hj=>(hd j hj).le (Nat.pow_le_pow_right eB (Nat.mul_le_mul_right _ zo))⟩
 have hd:∃ d:Nat → Nat,∀ i,0 < d i ∧ ∀ j,j < n + 1 → Gb (Qi.ofInt (d i) * (if j < n then gm M i j else gv b i)) (BB ^ ((m + 1) * L)):=⟨fun i=>Classical.choose (hrow i),fun i=>Classical.choose_spec (hrow i)⟩
 obtain ⟨d,hd⟩:=hd
 have cancel : ∀ {i : Nat} {u : Qi}, Qi.ofInt (d i) * u = 0 → u = 0 := fun {i u} hu => by
  rcases iY hu with k | k
  ·exact absurd k (Jx (hd i).1)
  ·exact k
 have hsum : ∀ (i : Nat) (v : Nat → Qi), aF n (fun k => Qi.ofInt (d i) * (if k < n then gm M i k else gv b i) * v k) = Qi.ofInt (d i) * aF n (fun k => gm M i k * v k) := fun i v => by
  rw [Qi.mul_comm',← iL]
  exact aC fun k hk=>by rw [if_pos hk]; grind
 have hN:1 ≤ BB ^ ((m + 1) * L):=Nat.pow_pos eB
 obtain ⟨y, e, he, ge, gy, hy⟩ := Wu n (BB ^ ((m + 1) * L)) (fun i j => Qi.ofInt (d i) * (if j < n then gm M i j else gv b i)) hN (fun i _ j hj => (hd i).2 j zo) (fun v hv => s2 v fun i hi => by
  have:=hv i hi
  simp only [] at this
  rw [hsum] at this
  exact cancel this)
 have hsol : ∀ k, k < n → y k - e * gv (kR M b n) k = 0 := s2 (fun k => y k - e * gv (kR M b n) k) fun i hi => by
  have h1:=hy i hi
  rw [hsum,if_neg zo] at h1
  have h2:=s1 i hi
  have h3 : aF n (fun k => gm M i k * (y k - e * gv (kR M b n) k)) = aF n (fun k => gm M i k * y k) - e * aF n (fun k => gm M i k * gv (kR M b n) k) := by
   rw [← pL]; exact aC fun k _=>by grind
  rw [h3,h2]
  exact cancel (i:=i) (by grind)
 intro x hx
 obtain ⟨k,hk,rfl⟩:=List.mem_iff_getElem.1 hx
 rw [Kv] at hk
 have hg:(kR M b n)[k] = gv (kR M b n) k:=by simp [gv,List.getD,Kv,hk]
 rw [hg]
 have e1:gv (kR M b n) k = y k / e:=(Fy he (by have:=hsol k hk; grind)).symm
 haveI f1:aE (y k) K:=(gy k hk).fit hbig hK
 haveI f2:aE e K:=ge.fit hbig hK
 rw [e1]
 exact (fitDiv (x:=y k) (y:=e)).le zo
end
section
open Go Go.RowKit
def Xh (l : List Nat) (p : Nat) : Nat → Int
 | 0=>-1
 | k + 1=>if l.getD (l.length - (k + 1)) 0 = p then ((l.length - (k + 1):Nat):Int) else Xh l p k
def Pq (l:List Nat) (p:Nat):Int:=Xh l p l.length
theorem a2z (l : List Nat) (p : Nat) : ∀ k, Xh l p k = -1 ∨ (0 ≤ Xh l p k ∧ (Xh l p k).toNat < l.length ∧ l.getD (Xh l p k).toNat 0 = p) ∨ l.length < k
 | 0=>.inl rfl
 | k + 1 => by
  rw [Xh]
  by_cases c:l.length < k + 1
  ·exact .inr (.inr c)
  ·by_cases e : l.getD (l.length - (k + 1)) 0 = p
   ·rw [if_pos e]; exact .inr (.inl ⟨by omega,by rw [Int.toNat_natCast]; omega,by rw [Int.toNat_natCast]; exact e⟩)
   ·rw [if_neg e]
    rcases a2z l p k with h | h | h
    ·exact .inl h
    ·exact .inr (.inl h)
    ·omega
theorem a2y (l:List Nat) (p:Nat):Pq l p = -1 ∨ (0 ≤ Pq l p ∧ (Pq l p).toNat < l.length ∧ l.getD (Pq l p).toNat 0 = p):=by
 rcases a2z l p l.length with h | h | h
 ·exact .inl h
 ·exact .inr h
 ·omega
theorem Xi {l : List Nat} {p : Nat} : ∀ {k : Nat}, k ≤ l.length → Xh l p k < 0 → ∀ x, l.length - k ≤ x → x < l.length → l.getD x 0 ≠ p
 | 0,_,_,x,h1,h2=>by omega
 | k + 1, hk, h, x, h1, h2 => by
  rw [Xh] at h
  by_cases e:l.getD (l.length - (k + 1)) 0 = p
  ·rw [if_pos e] at h; omega
  ·rw [if_neg e] at h
   by_cases c:x = l.length - (k + 1)
   ·rw [c]; exact e
   ·exact Xi (k:=k) zo h x zo h2
theorem Pr {l:List Nat} {p:Nat}:0 ≤ Pq l p ↔ p ∈ l:=by
 constructor
 ·intro h
  rcases a2y l p with k | ⟨_,k1,k2⟩
  ·omega
  ·rw [← k2,show l.getD (Pq l p).toNat 0 = l[(Pq l p).toNat] by simp [List.getD,k1]]; exact List.getElem_mem k1
 ·intro h
  apply Classical.byContradiction; intro hn
  obtain ⟨x,hx,e⟩:=List.getElem_of_mem h
  exact Xi (l:=l) (p:=p) (Nat.le_refl _) (show Xh l p l.length < 0 by have:¬ 0 ≤ Xh l p l.length:=hn; omega) x zo hx (by rw [show l.getD x 0 = l[x] by simp [List.getD,hx]]; exact e)
def Xk (js:List (Int × Int)):List Nat:=tab (2 * js.length) fun x=>gq (gS js) (oC x)
def gnV (S:List (List Qi)) (js:List (Int × Int)) (x:Nat):List Qi:=kR (uG S (gS js) (2 * js.length)) (ek (2 * js.length) x) (2 * js.length)
def gnB (i k:Nat):Qi:=if k = i then Qi.ofInt 1 else Qi.ofInt 0
def xU (S:List (List Qi)) (js:List (Int × Int)) (i k:Nat):Qi:=if 0 ≤ Pq (Xk js) k then gnB i k + aF (2 * js.length) (fun y=>gm S i (gq (gS js) y) * gv (gnV S js (Pq (Xk js) k).toNat) y) else gnB i k
def Hj (S:List (List Qi)) (js:List (Int × Int)) (N:Nat):List (List Qi):=(gR (oA js) N).map fun i=>tab N fun k=>xU S js i k
end
section
open Go Go.RowKit
def Ub (s:List (List Qi)) (g:Qi) (p:Nat):Qi:=Qi.ofInt 1 - gm s p p * g
def ntH (s:List (List Qi)) (g:Qi) (p:Nat):Qi:=Qi.ofInt 1 / Ub s g p
def By (s:List (List Qi)) (g:Qi) (p n i:Nat):List Qi:=((tab n fun _=>Qi.zero).set i (Qi.ofInt 1)).set p (gm s i p * iO s p g)
def yY (s:List (List Qi)) (g:Qi) (p n k:Nat):List (List Qi):=(gR [p] k).map (By s g p n)
def Ej (s:List (List Qi)) (g:Qi) (p k:Nat):List Qi:=(gR [p] k).map fun i=>gm s i p * ntH s g p
def ntR (z:List Qi) (g t:Qi) (p:Nat):Qi:=t * gv z p * (Qi.ofInt 1 - g * g.conj)
def ntX (z:List Qi) (s c:List (List Qi)) (g t:Qi) (p a b:Nat):Qi:=gm (jD (yY s g p z.length z.length) c) a b + ntR z g t p * (gv (Ej s g p z.length) a * (gv (Ej s g p z.length) b).conj)
def ntC (z:List Qi) (s c:List (List Qi)) (g t:Qi) (p:Nat):List (List Qi):=tab (z.length - 1) fun a=>tab (z.length - 1) fun b=>ntX z s c g t p a b
def Lj (z:List Qi) (s:List (List Qi)) (port:Int) (g t:Qi):Int:=if jJ t = 0 then pM z s port g else jJ t
def ntZ (z:List Qi) (s:List (List Qi)) (port:Int) (g t:Qi):List Qi:=dA (Lj z s port g t) (uT z (port - 1).toNat (z.length - 1))
def ntS (z:List Qi) (s:List (List Qi)) (port:Int) (g t:Qi):List (List Qi):=dA (Lj z s port g t) (yI s (port - 1).toNat (z.length - 1) (iO s (port - 1).toNat g))
def ntQ (z:List Qi) (s c:List (List Qi)) (port:Int) (g t:Qi):List (List Qi):=dA (Lj z s port g t) (ntC z s c g t (port - 1).toNat)
theorem wO {p n:Nat} (h:p < n):(gR [p] n).length = n - 1:=by rw [rM,aN,tZ h]
theorem Le {z:List Qi} {s:List (List Qi)} {port:Int} {g:Qi} (h:pM z s port g = 0):(1 ≤ port ∧ port ≤ z.length) ∧ z.length ≠ 1 ∧ Ub s g (port - 1).toNat ≠ 0:=by
 rw [pM] at h
 by_cases c1:1 ≤ port ∧ port ≤ z.length
 ·rw [if_neg (fun k => k c1)] at h
  by_cases c2:z.length = 1
  ·rw [if_pos c2] at h; omega
  ·rw [if_neg c2] at h
   by_cases c3:Qi.ofInt 1 - gm s (port - 1).toNat (port - 1).toNat * g = Qi.zero
   ·rw [if_pos c3] at h; omega
   ·exact ⟨c1,c2,c3⟩
 ·rw [if_pos c1] at h; omega
theorem a3z {f:Nat → Qi} {l:List Nat} {a:Nat} (h:a < l.length):gv (l.map f) a = f (fR l a):=by simp [gv,fR,List.getD,h]
theorem Mm {f:Nat → List Qi} {l:List Nat} {a k:Nat} (h:a < l.length):gm (l.map f) a k = gv (f (fR l a)) k:=by simp [gm,fR,List.getD,h]
section
variable {z:List Qi} {s c:List (List Qi)} {g t:Qi} {p:Nat}
theorem Jv {n i k:Nat} (hi:i < n) (hp:p < n) (hk:k < n):gv (By s g p n i) k = if k = p then gm s i p * iO s p g else if k = i then Qi.ofInt 1 else Qi.zero:=by
 rw [By,sN (by rw [List.length_set,aN]; exact hp)]
 by_cases e:k = p
 ·rw [if_pos e,if_pos e]
 ·rw [if_neg e, if_neg e, sN (by rw [aN]; exact hi)]
  by_cases e2:k = i
  ·rw [if_pos e2,if_pos e2]
  ·rw [if_neg e2,if_neg e2,iJ hk]
theorem Qe (s:List (List Qi)) (g:Qi) {n:Nat} (h:p < n):cM (yY s g p n n) (n - 1) n:=by
 refine ⟨by rw [yY,List.length_map,wO h],fun r hr=>?_⟩
 obtain ⟨i,_,rfl⟩:=List.mem_map.1 hr
 rw [By,List.length_set,List.length_set,aN]
theorem a27 {S : List (List Qi)} {n x : Nat} {d sp : Qi} (hnp : gm S n p = 0) (hnn : gm S n n = g) (hpn : gm S p n = 0) (hpp : gm S p p = sp) (hd : d = 1 - sp * g) (hd0 : d ≠ 0) (hx : x < 2) :
  gv (gnV S (J1 p n) x) 0 = (if x = 0 then 1 / d else g / d):=by
 have hk : a2K (gm S) p n := fun v0 v1 h0 h1 => by
  rw [hnp,hnn] at h0
  rw [hpp,hpn] at h1
  have e:v1 * d = 0:=by rw [hd]; grind
  rcases iY e with k | k
  ·exact ⟨by rw [h0,k]; grind,k⟩
  ·exact absurd k hd0
 have hE:kZ (uG S [(p,n)] 2) (ek 2 x) 2 = 0:=Qh.2 hk
 have hs:=(mO (wM S [(p,n)] 2) hE).1
 have hgn:gnV S (J1 p n) x = kR (uG S [(p,n)] 2) (ek 2 x) 2:=by rw [gnV,a12]; rfl
 rw [hgn]
 obtain ⟨r0,r1⟩:=a4g (S:=S) (p:=p) (q:=n) (v:=gv (kR (uG S [(p,n)] 2) (ek 2 x) 2))
 have h0:=hs 0 zo
 have h1:=hs 1 zo
 rw [r0,hnp,hnn] at h0
 rw [r1,hpp,hpn] at h1
 generalize gv (kR (uG S [(p,n)] 2) (ek 2 x) 2) 0 = v0 at *
 generalize gv (kR (uG S [(p,n)] 2) (ek 2 x) 2) 1 = v1 at *
 have c:x = 0 ∨ x = 1:=by omega
 rcases c with rfl | rfl
 ·rw [if_pos rfl]
  rw [show gv (ek 2 0) 0 = 1 from rfl] at h0
  rw [show gv (ek 2 0) 1 = 0 from rfl] at h1
  exact (Fy hd0 (by rw [hd]; grind)).symm
 ·rw [if_neg (by decide)]
  rw [show gv (ek 2 1) 0 = 0 from rfl] at h0
  rw [show gv (ek 2 1) 1 = 1 from rfl] at h1
  exact (Fy hd0 (by rw [hd]; grind)).symm
abbrev iI (s:List (List Qi)) (g:Qi) (n:Nat):List (List Qi):=rA s [[g]] n 1
theorem Ol {n:Nat} (hp:p < n):gm (iI s g n) n p = 0 ∧ gm (iI s g n) n n = g ∧ gm (iI s g n) p n = 0 ∧ gm (iI s g n) p p = gm s p p:=by
 refine ⟨?_,?_,?_,?_⟩
 ·rw [gD zo zo,if_neg zo,if_neg zo]; rfl
 ·rw [gD zo zo,if_neg zo,if_pos zo,Nat.sub_self]; rfl
 ·rw [gD zo zo,if_pos hp,if_neg zo]; rfl
 ·rw [gD zo zo,if_pos hp,if_pos hp]
theorem a5D {n:Nat}:Xk (J1 p n) = [n,p]:=by
 have e:Xk (J1 p n) = [gq (gS (J1 p n)) (oC 0),gq (gS (J1 p n)) (oC 1)]:=rfl
 rw [e,a12]; rfl
theorem a3E {n k:Nat} (hpn:p ≠ n):Pq [n,p] k = if k = n then 0 else if k = p then 1 else -1:=by
 have e:Pq [n,p] k = if n = k then ((0:Nat):Int) else if p = k then ((1:Nat):Int) else -1:=rfl
 rw [e]
 by_cases c:k = n
 ·rw [if_pos c.symm,if_pos c]; rfl
 ·rw [if_neg (Ne.symm c), if_neg c]
  by_cases c2:k = p
  ·rw [if_pos c2.symm,if_pos c2]; rfl
  ·rw [if_neg (Ne.symm c2),if_neg c2]
theorem Pl {n i k:Nat} (hp:p < n) (hi:i < n) (hip:i ≠ p) (hk:k < n + 1) (hd:Ub s g p ≠ 0):xU (iI s g n) (J1 p n) i k = if k < n then gv (By s g p n i) k else gm s i p * ntH s g p:=by
 obtain ⟨b1,b2,b3,b4⟩:=Ol (s:=s) (g:=g) hp
 have hin:gm (iI s g n) i n = 0:=by rw [gD zo zo,if_pos hi,if_neg zo]; rfl
 have hip2:gm (iI s g n) i p = gm s i p:=by rw [gD zo zo,if_pos hi,if_pos hp]
 have hdd:Ub s g p = 1 - gm s p p * g:=rfl
 have sol:=fun x (hx:x < 2)=>a27 (S:=iI s g n) (x:=x) b1 b2 b3 b4 hdd hd hx
 have hsum : ∀ v : List Qi, aF (2 * (J1 p n).length) (fun y => gm (iI s g n) i (gq (gS (J1 p n)) y) * gv v y) = gm s i p * gv v 0 := fun v => by
  show aF 2 (fun y=>gm (iI s g n) i (gq (gS (J1 p n)) y) * gv v y) = _
  rw [Nk,a12,show gq [(p,n)] 0 = p from rfl,show gq [(p,n)] 1 = n from rfl,hin,hip2]; grind
 rw [xU,a5D,a3E zo]
 by_cases c:k = n
 ·rw [if_pos c, if_pos (by decide), hsum, gnB, if_neg zo, if_neg zo]
  rw [show (0:Int).toNat = 0 from rfl,sol 0 zo,if_pos rfl]
  show Qi.ofInt 0 + gm s i p * (1 / Ub s g p) = gm s i p * ntH s g p
  rw [show ntH s g p = 1 / Ub s g p from rfl,show Qi.ofInt 0 = (0:Qi) from rfl]; grind
 ·rw [if_neg c, if_pos (show k < n by omega), Jv hi hp zo]
  by_cases c2:k = p
  ·rw [if_pos c2, if_pos (by decide), hsum, gnB, if_neg zo, if_pos c2]
   rw [show (1:Int).toNat = 1 from rfl,sol 1 zo,if_neg (by decide)]
   rw [show iO s p g = g / Ub s g p from rfl,show Qi.ofInt 0 = (0:Qi) from rfl]; grind
  ·rw [if_neg c2,if_neg (by decide),gnB,if_neg c2]; rfl
theorem Gi {n:Nat} (hp:p < n):gR (oA (J1 p n)) (n + 1) = gR [p] n:=by
 rw [a5c,gR,if_pos (by simp),List.append_nil]
 have : ∀ k, k ≤ n → gR [p, n] k = gR [p] k := fun k => by
  induction k with
  | zero=>intro _; rfl
  | succ k ih =>
   intro hk
   rw [gR,gR,ih zo]
   have e:(k ∈ [p,n]) ↔ (k ∈ [p]):=by simp; omega
   by_cases c:k ∈ [p]
   ·rw [if_pos c,if_pos (e.2 c)]
   ·rw [if_neg c,if_neg fun h=>c (e.1 h)]
 exact this n (Nat.le_refl n)
theorem iR (n:Nat) (f:Nat → Qi):aF (n + 1) f = aF n f + f n:=rfl
theorem a3V {n:Nat} {r:Qi} (hn:z.length = n) (hp:p < n) (hc:cM c n n) (hd:Ub s g p ≠ 0) (hr:r = ntR z g t p):jD (Hj (iI s g n) (J1 p n) (n + 1)) (rA c [[r]] n 1) = ntC z s c g t p:=by
 have hl:(Hj (iI s g n) (J1 p n) (n + 1)).length = n - 1:=by rw [Hj,List.length_map,Gi hp,wO hp]
 have pU:=wO hp
 have hq : ∀ a, a < n - 1 → fR (gR [p] n) a < n ∧ fR (gR [p] n) a ≠ p := fun a ha => by
  refine ⟨pH (fun x hx=>Gh hx) zo,?_⟩
  rw [rM,rC (by rw [tZ hp]; exact ha)]
  unfold kV; split <;> omega
 have hP : ∀ a k, a < n - 1 → k < n + 1 → gm (Hj (iI s g n) (J1 p n) (n + 1)) a k = if k < n then gm (yY s g p n n) a k else gv (Ej s g p n) a := fun a k ha hk => by
  rw [Hj,Gi hp,Mm zo,iJ hk,Pl hp (hq a ha).1 (hq a ha).2 hk hd,yY,Mm zo,Ej,a3z zo]
 have hcl:=hc.1
 have hsl:=(tQ c [[r]] n 1).1
 unfold jD ntC
 rw [hl,hn,hsl]
 refine dD fun a ha=>dD fun b hb=>?_
 have e1 : a0A (Hj (iI s g n) (J1 p n) (n + 1)) (rA c [[r]] n 1) (n + 1) a b = aF n (fun x => aF n fun y => sD (yY s g p n n) c a b x y) + gv (Ej s g p n) a * r * (gv (Ej s g p n) b).conj := by
  rw [a0A,iR]
  congr 1
  ·refine aC fun x hx => ?_
   rw [iR]
   have z0 : sD (Hj (iI s g n) (J1 p n) (n + 1)) (rA c [[r]] n 1) a b x n = 0 := by
    rw [sD,gD zo zo,if_pos hx,if_neg zo,q0]; grind
   rw [z0]
   have e2 : aF n (fun y => sD (Hj (iI s g n) (J1 p n) (n + 1)) (rA c [[r]] n 1) a b x y) = aF n fun y => sD (yY s g p n n) c a b x y := aC fun y hy => by
    rw [sD,sD,gD zo zo,if_pos hx,if_pos hy,hP a x ha zo,hP b y hb zo,if_pos hx,if_pos hy]
   rw [e2]; grind
  ·rw [iR]
   have e2 : aF n (fun y => sD (Hj (iI s g n) (J1 p n) (n + 1)) (rA c [[r]] n 1) a b n y) = 0 := gM fun y hy => by
    rw [sD,gD zo zo,if_neg zo,if_neg zo,q0]; grind
   rw [e2,sD,hP a n ha zo,hP b n hb zo,if_neg zo,if_neg zo,gD zo zo,if_neg zo,if_pos (Nat.le_refl n),Nat.sub_self,show gm [[r]] 0 0 = r from rfl]
   grind
 rw [e1,ntX,hn]
 have hA:=Qe s g hp
 have e3 : gm (jD (yY s g p n n) c) a b = aF n (fun x => aF n fun y => sD (yY s g p n n) c a b x y) := by
  rw [jD,eR (by rw [hA.1]; exact ha) (by rw [hA.1]; exact hb),hcl]; rfl
 rw [e3,hr]; grind
theorem Xn {zp:Qi}:jA t (gG [zp] [[g]]) 1 = [[t * (zp * (Qi.ofInt 1 - g * g.conj))]]:=by
 have e:jA t (gG [zp] [[g]]) 1 = [[t * (zp - (Qi.zero + (Qi.zero + g * zp * g.conj)))]]:=rfl
 rw [e,q0,q1]
 have e2:t * (zp - (0 + (0 + g * zp * g.conj))) = t * (zp * (1 - g * g.conj)):=by grind
 rw [e2]
theorem a3L:t * (gv z p * (Qi.ofInt 1 - g * g.conj)) = ntR z g t p:=by rw [ntR]; grind
theorem Vd {n:Nat} (hp:p < n) (hd:Ub s g p ≠ 0):a2K (gm (iI s g n)) p n:=by
 obtain ⟨b1,b2,b3,b4⟩:=Ol (s:=s) (g:=g) hp
 intro v0 v1 h0 h1
 rw [b1,b2] at h0
 rw [b3,b4] at h1
 have e:v1 * Ub s g p = 0:=by rw [show Ub s g p = 1 - gm s p p * g from rfl]; grind
 rcases iY e with k | k
 ·exact ⟨by rw [h0,k]; grind,k⟩
 ·exact absurd k hd
theorem a0h {n : Nat} (hn : z.length = n) (hp : p < n) : jdE (z ++ [gv z p]) (J1 p n) = 0 := jL fun i hi => by
 obtain rfl:i = 0:=by simp at hi; omega
 refine a3J (l:=[]) rfl rfl (by rw [List.length_append]; omega) (by rw [List.length_append]; simp; omega) (by simp) (by simp) zo ?_
 have e1:gv (z ++ [gv z p]) p = gv z p:=by simp [gv,List.getD,List.getElem?_append_left (show p < z.length by omega)]
 have e2:gv (z ++ [gv z p]) n = gv z p:=by subst hn; simp [gv,List.getD]
 rw [e1,e2]
theorem Ta {n i : Nat} (hs : bC s 2) (hg : aE g 2) : bP (By s g p n i) 28 := fun x hx => by
 haveI:=hg
 haveI f0:=kG
 haveI f1:aE (gm s p p) 2:=hs.get (by decide) p p
 haveI f2:aE (gm s i p) 2:=hs.get (by decide) i p
 haveI f3:aE (Qi.ofInt 1 - gm s p p * g) 7:=(fitSub (x:=Qi.ofInt 1) (y:=gm s p p * g))
 rcases List.mem_or_eq_of_mem_set hx with h | h
 ·rcases List.mem_or_eq_of_mem_set h with k | k
  ·obtain ⟨_,_,rfl⟩:=eA.1 k; exact aE.zero (by decide)
  ·rw [k]; exact f0.le (by decide)
 ·rw [h]; exact (fitMul (x:=gm s i p) (y:=g / (Qi.ofInt 1 - gm s p p * g)):aE _ (2 + 25 + 1))
theorem a1n {n k : Nat} (hs : bC s 2) (hg : aE g 2) : bC (yY s g p n k) 28 := fun r hr => by
 obtain ⟨i,_,rfl⟩:=List.mem_map.1 hr; exact Ta hs hg
theorem a1p {k : Nat} (hs : bC s 2) (hg : aE g 2) : bP (Ej s g p k) 27 := fun x hx => by
 obtain ⟨i,_,rfl⟩:=List.mem_map.1 hx
 haveI:=hg
 haveI f0:=kG
 haveI f1:aE (gm s p p) 2:=hs.get (by decide) p p
 haveI f2:aE (gm s i p) 2:=hs.get (by decide) i p
 haveI f3:aE (Qi.ofInt 1 - gm s p p * g) 7:=(fitSub (x:=Qi.ofInt 1) (y:=gm s p p * g))
 exact (fitMul (x:=gm s i p) (y:=Qi.ofInt 1 / (Qi.ofInt 1 - gm s p p * g)):aE _ (2 + 24 + 1))
theorem a1o (hz:bP z 2) (hg:aE g 2) (ht:aE t 2):aE (ntR z g t p) 13:=by
 haveI:=hg; haveI:=ht
 haveI f0:=kG
 haveI f1:aE (gv z p) 2:=hz.get (by decide) p
 exact (fitMul (x:=t * gv z p) (y:=Qi.ofInt 1 - g * g.conj))
end
end
section
open Go Go.RowKit
theorem Ms {A B C : List (List Qi)} {n : Nat} : jY (jY A B n n n) C n n n = jY A (jY B C n n n) n n n := jP kM kM fun i hi j hj => by
 rw [mH hi hj,mH hi hj]
 have e1 : aF n (fun t => gm (jY A B n n n) i t * gm C t j) = aF n fun t => aF n fun u => gm A i u * gm B u t * gm C t j := aC fun t ht => by
  rw [mH hi ht,← iL]
 have e2 : aF n (fun u => gm A i u * gm (jY B C n n n) u j) = aF n fun u => aF n fun t => gm A i u * gm B u t * gm C t j := aC fun u hu => by
  rw [mH hu hj,Qi.mul_comm',← iL]
  exact aC fun t _=>by grind
 rw [e1,e2,iH]
theorem wI {n i j:Nat} (hi:i < n) (hj:j < n):gm (wK n) i j = if i = j then 1 else 0:=xD hi hj
theorem Wl {n j i:Nat} (hi:i < n) (hj:j < n):gv (ek n j) i = if i = j then 1 else 0:=by
 have h:gv (ek n j) i = if j = i then 1 else 0:=wI (n:=n) hj hi
 rw [h]
 by_cases c:i = j
 ·rw [if_pos c,if_pos c.symm]
 ·rw [if_neg c,if_neg (Ne.symm c)]
theorem a2x {M : List (List Qi)} {n : Nat} (h : cM M n n) (hE : sO M n = 0) : jY M (qU M n) n n n = wK n := jP kM (rL n) fun i hi j hj => by
 have hs:=(mO h (Bm hE j hj)).1 i hi
 rw [mH hi hj,wI hi hj,← Wl hi hj,← hs]
 exact aC fun t ht=>by rw [show gm (qU M n) t j = gv (kR M (ek n j) n) t from eR ht hj]
theorem a16 {M X : List (List Qi)} {n : Nat} (h : jY X M n n n = wK n) {y : Nat → Qi} (hy : ∀ i, i < n → aF n (fun k => gm M i k * y k) = 0) : ∀ k, k < n → y k = 0 := fun k hk => by
 have e1:aF n (fun i=>gm X k i * aF n (fun t=>gm M i t * y t)) = 0:=gM fun i hi=>by rw [hy i hi]; grind
 have e2 : aF n (fun i => gm X k i * aF n (fun t => gm M i t * y t)) = aF n fun i => aF n fun t => gm X k i * gm M i t * y t := aC fun i _ => by
  rw [Qi.mul_comm',← iL]; exact aC fun t _=>by grind
 have e3 : aF n (fun t => aF n fun i => gm X k i * gm M i t * y t) = aF n fun t => gm (wK n) k t * y t := aC fun t ht => by
  rw [← h,mH hk ht,← iL]
 rw [e2,iH,e3] at e1
 rw [cO (i:=k) hk (fun t ht hne=>by rw [wI hk ht,if_neg (Ne.symm hne)]; grind),wI hk hk,if_pos rfl] at e1
 grind
theorem Py {M X : List (List Qi)} {n : Nat} (hM : cM M n n) (h : jY X M n n n = wK n) : sO M n = 0 := jL fun k hk => by
 apply Classical.byContradiction; intro e
 obtain ⟨y,hy,k,hk,hne⟩:=Kw hM e
 exact hne (a16 h hy k hk)
theorem a3K {M X Y:List (List Qi)} {n:Nat} (hX:cM X n n) (hY:cM Y n n) (h:jY X M n n n = wK n) (k:jY M Y n n n = wK n):X = Y:=by
 rw [← a1f hX,← k,← Ms,h,a1e hY]
theorem Gv {M Y:List (List Qi)} {n:Nat} (hM:cM M n n) (hY:cM Y n n) (h:jY M Y n n n = wK n):jY Y M n n n = wK n:=by
 have e:=Py hY h
 have r:=a2x hY e
 rw [a3K hM (Bl Y n) h r]; exact r
theorem a2w {M:List (List Qi)} {n:Nat} (h:cM M n n) (hE:sO M n = 0):jY (qU M n) M n n n = wK n:=Gv h (Bl M n) (a2x h hE)
theorem a1O {M Y:List (List Qi)} {n:Nat} (hM:cM M n n) (hY:cM Y n n) (h:jY M Y n n n = wK n):sO M n = 0:=Py hM (Gv hM hY h)
section
variable {a b:Qi} {A B C:List (List Qi)} {d e:Nat → Qi} {n:Nat}
end
theorem q2:Qi.ofInt 2 = 2:=rfl
theorem a5B:pU * 2 = 1:=a0T
section
variable {z:List Qi} {s:List (List Qi)}
end
end
section
open Go Go.RowKit
theorem zO {n C k : Nat} (h : ∀ N, 1 ≤ N → fs n N ≤ C * N ^ k) : ∀ N, 1 ≤ N → fs (n + 1) N ≤ 2 * (n + 1) * C * 4 ^ k * N ^ (2 * k + 1) := fun N hN => by
 have h4:1 ≤ 4 * N * N:=Nat.mul_pos zo zo
 have a:=h (4 * N * N) h4
 have e:(4 * N * N) ^ k = 4 ^ k * (N ^ k * N ^ k):=by rw [Nat.mul_pow,Nat.mul_pow,Nat.mul_assoc]
 have e2:N ^ (2 * k + 1) = N ^ k * N ^ k * N:=by rw [Nat.pow_succ,Nat.two_mul,Nat.pow_add]
 rw [fs,e2]
 refine Nat.le_trans (Nat.mul_le_mul_left _ a) ?_
 rw [e]
 refine Nat.le_of_eq ?_
 simp only [Nat.mul_comm,Nat.mul_left_comm,Nat.mul_assoc]
theorem zN {n C k C' k' : Nat} (h : ∀ N, 1 ≤ N → fs n N ≤ C * N ^ k) (hC : C ≤ C') (hk : k ≤ k') : ∀ N, 1 ≤ N → fs n N ≤ C' * N ^ k' := fun N hN =>
 Nat.le_trans (h N hN) (Nat.mul_le_mul hC (Nat.pow_le_pow_right hN hk))
theorem Ww {n:Nat} (hn:n ≤ 6):∀ N,1 ≤ N → fs n N ≤ (2 * 6 * (2 * 5 * 1610612736 * 4 ^ 15) * 4 ^ 31) * N ^ 63:=by
 have h4:∀ m,m ≤ 4 → ∀ N,1 ≤ N → fs m N ≤ 1610612736 * N ^ 15:=fun m hm N hN=>a0Q hm hN
 have h5:∀ N,1 ≤ N → fs 5 N ≤ (2 * 5 * 1610612736 * 4 ^ 15) * N ^ 31:=zO (h4 4 (Nat.le_refl 4))
 have h6:∀ N,1 ≤ N → fs 6 N ≤ (2 * 6 * (2 * 5 * 1610612736 * 4 ^ 15) * 4 ^ 31) * N ^ 63:=zO h5
 by_cases a:n ≤ 4
 ·exact zN (h4 n a) (by decide) (by decide)
 ·by_cases b : n = 5
  ·subst b; exact zN h5 (by decide) (by decide)
  ·obtain rfl : n = 6 := by omega
   exact h6
theorem Nd {C m k M:Nat} (h:m + k = M) (hC:C < BB ^ k):C * BB ^ m < BB ^ M:=by
 subst h
 rw [Nat.pow_add,Nat.mul_comm (BB ^ m)]
 exact Nat.mul_lt_mul_of_pos_right hC (Nat.pow_pos eB)
section
variable {z:List Qi} {S c:List (List Qi)} {js:List (Int × Int)} {N:Nat}
def jnT (S:List (List Qi)) (js:List (Int × Int)):List (List Qi):=tab (2 * js.length) fun x=>tab (2 * js.length) fun y=>rdl x y - gm S (gq (gS js) (oC y)) (gq (gS js) x)
def jnV (S:List (List Qi)) (js:List (Int × Int)) (i:Nat):List Qi:=tab (2 * js.length) fun y=>gm S i (gq (gS js) y)
def Pu (S:List (List Qi)) (js:List (Int × Int)) (i:Nat):List Qi:=kR (jnT S js) (jnV S js i) (2 * js.length)
theorem wN (S:List (List Qi)) (js:List (Int × Int)):cM (jnT S js) (2 * js.length) (2 * js.length):=cM.tab
theorem Mo {x y:Nat} (hx:x < 2 * js.length) (hy:y < 2 * js.length):gm (jnT S js) x y = gm (uG S (gS js) (2 * js.length)) y x:=by
 have e1:gm (jnT S js) x y = rdl x y - gm S (gq (gS js) (oC y)) (gq (gS js) x):=eR hx hy
 have e2:gm (uG S (gS js) (2 * js.length)) y x = (if y = x then Qi.ofInt 1 else Qi.ofInt 0) - gm S (gq (gS js) (oC y)) (gq (gS js) x):=eR hy hx
 rw [e1,e2,rdl]
 by_cases c:x = y
 ·rw [if_pos c,if_pos c.symm]
 ·rw [if_neg c,if_neg (Ne.symm c)]
theorem a0X {M:List (List Qi)} {n:Nat} (h:cM M n n) (hk:∀ b,kZ M b n = 0):sO M n = 0:=jL fun k _=>hk _
theorem a0c {M : List (List Qi)} {n : Nat} (h : cM M n n) (hE : sO M n = 0) (hn : 1 ≤ n) : ∀ b, kZ M b n = 0 := fun b => by
 have h0:=(Hb h).1 (Bm hE 0 zo)
 exact (Hb h).2 h0
theorem Mp (hk:∀ b,kZ (uG S (gS js) (2 * js.length)) b (2 * js.length) = 0) (hn:1 ≤ 2 * js.length):∀ b,kZ (jnT S js) b (2 * js.length) = 0:=by
 have hM:=wM S (gS js) (2 * js.length)
 have hE:=a0X hM hk
 have l:=a2w hM hE
 refine a0c (wN S js) (a1O (Y:=tab (2 * js.length) fun x=>tab (2 * js.length) fun y=>gm (qU (uG S (gS js) (2 * js.length)) (2 * js.length)) y x) (wN S js) cM.tab ?_) hn
 refine jP kM (rL _) fun i hi j hj=>?_
 have e:gm (jY (qU (uG S (gS js) (2 * js.length)) (2 * js.length)) (uG S (gS js) (2 * js.length)) (2 * js.length) (2 * js.length) (2 * js.length)) j i = gm (wK (2 * js.length)) j i:=by rw [l]
 rw [mH hj hi,wI hj hi] at e
 rw [mH hi hj,wI hi hj]
 have e2 : aF (2 * js.length) (fun t => gm (jnT S js) i t * gm (tab (2 * js.length) fun x => tab (2 * js.length) fun y => gm (qU (uG S (gS js) (2 * js.length)) (2 * js.length)) y x) t j) = aF (2 * js.length) fun t => gm (qU (uG S (gS js) (2 * js.length)) (2 * js.length)) j t * gm (uG S (gS js) (2 * js.length)) t i := aC fun t ht => by
  rw [Mo hi ht,eR ht hj,Qi.mul_comm']
 rw [e2,e]
 by_cases c:i = j
 ·rw [if_pos c,if_pos c.symm]
 ·rw [if_neg c,if_neg (Ne.symm c)]
theorem a3I (hk:∀ b,kZ (uG S (gS js) (2 * js.length)) b (2 * js.length) = 0) {i x:Nat} (hx:x < 2 * js.length):gv (Pu S js i) x = aF (2 * js.length) fun y=>gm S i (gq (gS js) y) * gv (gnV S js x) y:=by
 have hM:=wM S (gS js) (2 * js.length)
 have hT:=(mO (wN S js) (Mp hk zo (jnV S js i))).1
 have hV:=(mO hM (hk (ek (2 * js.length) x))).1
 have e1 : aF (2 * js.length) (fun y => gm S i (gq (gS js) y) * gv (gnV S js x) y) = aF (2 * js.length) fun y => aF (2 * js.length) fun w => gm (uG S (gS js) (2 * js.length)) w y * gv (Pu S js i) w * gv (gnV S js x) y := aC fun y hy => by
  have h:=hT y hy
  rw [show gv (jnV S js i) y = gm S i (gq (gS js) y) from iJ hy] at h
  rw [← h,← iL]
  exact aC fun w hw=>by rw [Mo hy hw]; rfl
 have e2 : aF (2 * js.length) (fun w => aF (2 * js.length) fun y => gm (uG S (gS js) (2 * js.length)) w y * gv (Pu S js i) w * gv (gnV S js x) y) = aF (2 * js.length) fun w => gv (Pu S js i) w * gv (ek (2 * js.length) x) w := aC fun w hw => by
  have h:=hV w hw
  rw [show gv (ek (2 * js.length) x) w = aF (2 * js.length) (fun k=>gm (uG S (gS js) (2 * js.length)) w k * gv (gnV S js x) k) from h.symm,Qi.mul_comm',← iL]
  exact aC fun y _=>by grind
 rw [e1,iH,e2,cO hx (fun k hkk hne=>by rw [Wl hkk hx,if_neg hne]; grind),Wl hx hx,if_pos rfl]; grind
theorem a3D {l:List Nat} {x:Nat} (hx:x < l.length) (hinj:∀ a b,a < l.length → b < l.length → l.getD a 0 = l.getD b 0 → a = b):Pq l (l.getD x 0) = (x:Int):=by
 have hm:0 ≤ Pq l (l.getD x 0):=Pr.2 (by rw [show l.getD x 0 = l[x] by simp [List.getD,hx]]; exact List.getElem_mem hx)
 rcases a2y l (l.getD x 0) with h | ⟨h1,h2,h3⟩
 ·omega
 ·have:=hinj _ _ h2 hx h3; omega
theorem Mn {x:Nat} (hx:x < 2 * js.length):(Xk js).getD x 0 = gq (gS js) (oC x):=by rw [Xk,rD hx]
theorem a3H (hj:Jn (gS js) N js.length) {x:Nat} (hx:x < 2 * js.length):Pq (Xk js) (gq (gS js) (oC x)) = (x:Int):=by
 have hl:(Xk js).length = 2 * js.length:=aN _ _
 rw [← Mn hx]
 refine a3D zo fun a b ha hb e=>?_
 rw [Mn zo,Mn zo] at e
 have:=hj.inj _ _ (rP (show a < 2 * js.length by omega)) (rP (show b < 2 * js.length by omega)) e
 have e2:=congrArg oC this
 rwa [uN,uN] at e2
theorem a2v (hj:Jn (gS js) N js.length) (hk:∀ b,kZ (uG S (gS js) (2 * js.length)) b (2 * js.length) = 0) {i y:Nat} (hi:i ∉ oA js) (hy:y < 2 * js.length):xU S js i (gq (gS js) (oC y)) = gv (Pu S js i) y:=by
 have hne:gq (gS js) (oC y) ≠ i:=fun e=>hi (uF.2 ⟨oC y,rP hy,e⟩)
 rw [xU,a3H hj hy,if_pos zo,Int.toNat_natCast,gnB,if_neg hne,a3I hk hy]
 rw [show Qi.ofInt 0 = (0:Qi) from rfl]; grind
end
end
end Go.Proofs.YteohomnhncjcnaaGreat
