/- What functions of the program compute, proved by walks over their code, and the plain mathematics of it; a part of the proof in the last text. -/
import Derived.Test.YteohomnhncjcnaaGreatP02
set_option linter.unusedVariables false
set_option linter.unusedSimpArgs false
set_option maxRecDepth 100000
set_option maxHeartbeats 4000000
namespace Go.Proofs.YteohomnhncjcnaaGreat
section
open Go Go.RowKit
section
variable {P:Program} {R:gK} {cx:Cx} {n:Nat} {k:List It} {E:cD} {H:Hp} {ops:Array Oper} {rest:List Oper} {o:Oper}
theorem Ht {t:Nat} {T:Ty} (h:fM E t = some T):bD E (.tmp t) T:=bD.t h
theorem ro {T:Ty} {d:Nat} (h0:(o.guard,o.dst,Nat.blt d n) = (none,some d,true)) (hs:aI P n E H o T) (h:Rg P R cx n ops rest k ((d,T) :: E) H):Rg P R cx n ops (o :: rest) k E H:=by
 simp only [Prod.mk.injEq] at h0
 exact a02 h0.1 h0.2.1 h0.2.2 hs h
theorem rm {T:Ty} {d x:Nat} {t:TypeId} {pos:String} {af:Array Edge} (h0:(Nat.blt d n,fM E x) = (true,some T)) (h:Rg P R cx n ops rest k ((d,T) :: E) H):Rg P R cx n ops (⟨some d,.move (.tmp x),t,pos,af,none⟩ :: rest) k E H:=by
 simp only [Prod.mk.injEq] at h0
 exact a02 rfl rfl h0.1 (Lr (bD.t h0.2)) h
theorem ra {T:Ty} {d x:Nat} {t:TypeId} {pos:String} {af:Array Edge} (h0:(Nat.blt d n,fM E x) = (true,some T)) (h:Rg P R cx n ops rest k ((d,T) :: E) H):Rg P R cx n ops (⟨some d,.assign (.tmp x),t,pos,af,none⟩ :: rest) k E H:=by
 simp only [Prod.mk.injEq] at h0
 exact a02 rfl rfl h0.1 (Am (bD.t h0.2)) h
theorem rn {γ:Type} {T:γ → Ty} {A:γ → SA} {d:Nat} (h0:(o.guard,o.dst,Nat.blt d n) = (none,some d,true)) (hop:iG P n E H o γ T A) (h:∀ x,Rg P R cx n ops rest k ((d,T x) :: E) (H ++ [A x])):Rg P R cx n ops (o :: rest) k E H:=by
 simp only [Prod.mk.injEq] at h0
 exact Zc h0.1 h0.2.1 h0.2.2 hop h
theorem ts {y:Code} {id:Nat} {l:List Oper} (h:Rg P R cx n l.toArray l (.code y :: k) E H):Tr P R cx n (.code (.seq (.region id l.toArray false) y) :: k) E H:=Zf (Cz h)
end
section
variable {P:Program} {R:gK} {cx:Cx} {n:Nat} {k:List It} {E:cD} {H:Hp} {ops l:List Oper} {m:Nat} {o:Oper} {acc:List (Nat × C.Ob)} {d:Nat} {T U V:Ty}
theorem d0 (h0:(o.dst,Nat.blt d n,o.guard) = (some d,true,none)) (hs:aI P n [] H o T) (h:C.Dr P R cx n ops m k E H l ((d,.val T) :: acc)):C.Dr P R cx n ops m k E H (o :: l) acc:=by
 simp only [Prod.mk.injEq] at h0
 exact C.D_step h0.1 h0.2.1 C.Srcs.nil (qP h0.2.2 hs) h
theorem dp (t : Nat) (h0 : (o.dst, Nat.blt d n, fM E t, ((List.range m).all fun j => !(fA ops j == some t)), o.guard) = (some d, true, some U, true, none)) (hs : aI P n [(t, U)] H o T)
  (h:C.Dr P R cx n ops m k E H l ((d,.val T) :: acc)):C.Dr P R cx n ops m k E H (o :: l) acc:=by
 simp only [Prod.mk.injEq] at h0
 exact C.D_step h0.1 h0.2.1 (C.Srcs.cons (C.Src.pre h0.2.2.1 h0.2.2.2.1) C.Srcs.nil) (qP h0.2.2.2.2 hs) h
theorem dq (t j : Nat) (h0 : (o.dst, Nat.blt d n, acc.reverse[j]?, (o.after.toList.any fun e => Nat.beq e.on j && Region.binds .any e), o.guard) = (some d, true, some (t, C.Ob.val U), true, none)) (hs : aI P n [(t, U)] H o T)
  (h:C.Dr P R cx n ops m k E H l ((d,.val T) :: acc)):C.Dr P R cx n ops m k E H (o :: l) acc:=by
 simp only [Prod.mk.injEq] at h0
 exact C.D_step h0.1 h0.2.1 (C.Srcs.cons (C.Src.op j h0.2.2.1 h0.2.2.2.1) C.Srcs.nil) (qP h0.2.2.2.2 hs) h
theorem cH (t i u j : Nat) (h0 : (o.dst, Nat.blt d n, acc.reverse[i]?, (o.after.toList.any fun e => Nat.beq e.on i && Region.binds .any e), acc.reverse[j]?, (o.after.toList.any fun e => Nat.beq e.on j && Region.binds .any e), o.guard) = (some d, true, some (t, C.Ob.val U), true, some (u, C.Ob.val V), true, none)) (hs : aI P n [(t, U), (u, V)] H o T)
  (h:C.Dr P R cx n ops m k E H l ((d,.val T) :: acc)):C.Dr P R cx n ops m k E H (o :: l) acc:=by
 simp only [Prod.mk.injEq] at h0
 obtain ⟨a,b,c,e,f,g,q⟩:=h0
 exact C.D_step a b (C.Srcs.cons (C.Src.op i c e) (C.Srcs.cons (C.Src.op j f g) C.Srcs.nil)) (qP q hs) h
end
end
section
open Go Go.RowKit
section
variable {P:Program} {n:Nat} {E:cD} {H:Hp}
variable {d:Option Tmp} {t:TypeId} {pos:String} {af:Array Edge} {g:Option (Nat × Bool)}
end
end
section
open Go Go.RowKit
def zlk (E : cD) : cD → List (Option Ty)
 | []=>[]
 | x :: r=>fM E x.1 :: zlk E r
def zsm : cD → List (Option Ty)
 | []=>[]
 | x :: r=>some x.2 :: zsm r
theorem zS {E : cD} : ∀ {E' : cD}, zlk E E' = zsm E' → Sub E E'
 | [],_=>Sub.nil
 | _ :: _,h=>Sub.cons (List.cons.inj h).1 (zS (List.cons.inj h).2)
theorem z6 {a:Nat} (h:a < 9223372036854775808:=by first|omega|simp only[kF];omega):a < 9223372036854775808:=h
theorem z7 {a:Nat} (h:a < 18446744073709551616:=by first|omega|simp only[kF];omega):a < 18446744073709551616:=h
theorem zd {α:Type} {a:α}:a = a ∧ True:=⟨rfl,trivial⟩
theorem zF {P : Program} {R : gK} {cx : Cx} {n : Nat} {k : List It} {E : cD} {H : Hp} {ops : Array Oper} {l : List Oper} {a b c d : Nat} {T U V W : Ty} {r : List (Nat × C.Ob)}
  (h:C.Fin' P R cx n ops l k r ((d,W) :: (c,V) :: (b,U) :: (a,T) :: E) H):C.Fin' P R cx n ops l k ((a,.val T) :: (b,.val U) :: (c,.val V) :: (d,.val W) :: r) E H:=C.F_val (C.F_val (C.F_val (C.F_val h)))
end
section
open Go Go.RowKit
abbrev aQ:=@Sub.cons
abbrev aX:=@Sub.nil
abbrev aZ:=@Sub.to
abbrev aJ:=@C.F_val
abbrev aV:=@C.F_nil
abbrev aW:=@cO.cons'
abbrev aG:=@cO.nil
abbrev aK:=@Nat.le_of_ble_eq_true
abbrev aU:=@cL.cons
abbrev aY:=@cL.nil
abbrev bQ:=@Y.Srcs.cons
abbrev bX:=@Y.Srcs.nil
abbrev bZ:=@Y.Src.op
abbrev bJ:=@Y.Src.pre
abbrev bV:=@C.Srcs.cons
abbrev bW:=@C.Srcs.nil
abbrev bG:=@C.Src.op
abbrev bK:=@C.Src.pre
abbrev bU:=@Y.F_val
abbrev bY:=@Y.D_hide
abbrev cQ:=@Am
abbrev cX:=@Lr
abbrev cZ:=@Xf
abbrev cJ:=@bD.cN
abbrev cV:=@bD.c
abbrev cW:=@pJ.cons
abbrev cG:=@pJ.nil
abbrev cK:=@Zf
abbrev cU:=@a09
abbrev cY:=@Cz
abbrev dQ:=@Gy
abbrev dX:=@qP
abbrev dZ:=@a0M
abbrev dJ:=@a1B
abbrev dW:=@Xe
abbrev dK:=@Xp
abbrev dU:=@a0P
abbrev dY:=@Iq
abbrev eQ:=@getD_some
abbrev eX:=@Le
abbrev eZ:=@aS.imp
abbrev eJ:=@a17
abbrev eW:=@Xg
abbrev eG:=@Xk
abbrev eK:=@No
abbrev eU:=@Ut
abbrev eY:=@a04
abbrev fQ:=@a0V
abbrev fX:=@a0O
abbrev fZ:=@Oy
abbrev fJ:=@a1E
abbrev fV:=@C.D_start
abbrev fW:=@bD.w
abbrev fG:=@C.D_done
abbrev fK:=@a08
abbrev fU:=@Xa
abbrev fY:=@Yd
abbrev gQ:=@Ur
abbrev gX:=@Xi
abbrev gZ:=@a18
abbrev gJ:=@Xm
abbrev gV:=@Sr
abbrev gW:=@Pb
abbrev gG:=@a06
end
section
open Go Go.RowKit
theorem zo {p:Prop} (h:p:=by omega):p:=h
end
section
open Go Go.RowKit
theorem oT (ds:List Nat) (hd:jM ds) (hl:ds.length ≤ 1152921504606846976):aS Tryz.prog 221 [rT ds] (aE (val ds)):=by
 refine aS.intro Tryz.func221 rfl Tryz.ntmps221 rfl (fun cx=>(ts (ro rfl (cQ cV) (eJ (ts (rm rfl (ro rfl (dU U_47 (Ht rfl) aA) (ra rfl (eJ (cK (eU ?_)))))))))))
 refine bF (fun (k : Nat) => k ≤ ds.length ∧ ∀ i, k ≤ i → i < ds.length → ds.getD i 0 = 0) (fun (k : Nat) => k) (fun (k : Nat) => [(0, rT ds), (3, NT .i64 k)]) (fun (k : Nat) => []) ds.length ⟨Nat.le_refl _, fun i h1 h2 => by omega⟩
  (zS rfl) aY (fun k ⟨hk,hz⟩=>?_)
 refine cK (ts (rm rfl (ro rfl (dL (Ht rfl) (cJ 0)) (rm rfl (fZ rfl rfl (eY rfl rfl (Ht rfl) (fun h=>cX (Ht rfl))) (fZ rfl rfl (eY rfl rfl (Ht rfl) (fun h=>cX (Ht rfl))) (fZ rfl rfl (eY rfl rfl (Ht rfl) (fun h=>dK (fW rfl h) (cJ 1) (by first | omega | (simp at h; omega)) (by show _ < 9223372036854775808; first | omega | (simp at h; omega)))) (fZ rfl rfl (eY rfl rfl (Ht rfl) (fun h=>dZ U_47 Z_189 (fW rfl h) (fW rfl h) rfl (eX (aF (by first | omega | (simp at h; omega)))))) ?_))))))))
 refine fZ rfl rfl (eY rfl rfl (Ht rfl) (fun h=>dJ A_189 Z_189 (fW rfl h))) (fZ rfl rfl (eY rfl rfl (Ht rfl) (fun h=>cT (fW rfl h) (cJ 0))) (ro rfl (dP (Ht rfl) (fun h=>(fW rfl h))) (eJ (dQ (Ht rfl) (fun hb=>?_) (fun hb=>?_)))))
 ·simp at hb
  refine cU (eU (cY (rm rfl (ro rfl (dK (Ht rfl) (cJ 1) zo z6) (ra rfl (eJ (aR (gQ (k - 1) ⟨by omega,fun i h1 h2=>?_⟩ zo (zS rfl) aY))))))))
  by_cases e2:i = k - 1
  ·subst e2; simpa using hb.2
  ·exact hz i zo h2
 ·have hn : k = 0 ∨ ds.getD (k - 1) 0 ≠ 0 := by
   simp only [Bool.and_eq_false_iff,decide_eq_false_iff_not] at hb
   rcases hb with h1 | h1
   ·left; omega
   ·right; exact h1
  have hfin:=Ks hd hk hz hn
  refine gG rfl (ts (rm rfl (rm rfl (rm rfl (ro rfl (rI U_47 Z_189 (Ht rfl) (Ht rfl) (fun m e=>by cases e; exact (Ht rfl)) zo (by simp; omega) rfl) ?_)))))
  refine ra rfl (eJ (fK rfl (fJ (fQ rfl) ?_)))
  exact (Em (by rw [hfin]; simp))
theorem Bj {m:Nat} (hm:m < 18446744073709551616):aS Tryz.prog 241 [NT .u64 m] (aE m):=by
 refine aS.intro Tryz.func241 rfl Tryz.ntmps241 rfl (fun cx=>(ts (ro rfl (cQ cV) (eJ (ts (rm rfl (ro rfl (eO rfl U_254 U_189 (Ht rfl)) (rm rfl (ro rfl (dT (Ht rfl) (cJ 32) (by decide)) (ro rfl (eO rfl U_254 U_189 (Ht rfl)) (ro rfl (dA (xs:=[.tmp 4,.tmp 7]) U_47 Z_189 O_189 (cW (Ht rfl) (cW (Ht rfl) cG)) rfl rfl rfl) (ro rfl (cZ K_221 (oT [m % 4294967296,m / 2 ^ 32 % 4294967296] (a1v _ _) (by simp)) ⟨(Ht rfl),trivial⟩) ?_))))))))))))
 refine ra rfl (eJ (fK rfl (fJ (fQ rfl) ?_)))
 exact (cF (Aj hm))
theorem Zm {m:Nat}:aS Tryz.prog 219 [aE m] (aC (decide (m = 1))):=by
 refine aS.intro Tryz.func219 rfl Tryz.ntmps219 rfl (fun cx=>(ts (ro rfl (cQ cV) (eJ (ts (rm rfl (ro rfl (dU U_47 (Ht rfl) aA) (ro rfl (cT (Ht rfl) (cJ 1)) (rm rfl (fZ rfl rfl (eY rfl rfl (Ht rfl) (fun h=>cX (Ht rfl))) (fZ rfl rfl (eY rfl rfl (Ht rfl) (fun h=>dZ U_47 Z_189 (fW rfl h) (cJ 0) rfl (eX (aF (by first | omega | (simp at h; omega)))))) (fZ rfl rfl (eY rfl rfl (Ht rfl) (fun h=>dJ A_189 Z_189 (fW rfl h))) (fZ rfl rfl (eY rfl rfl (Ht rfl) (fun h=>cT (fW rfl h) (cJ 1))) ?_)))))))))))))
 refine ro rfl (dP (Ht rfl) (fun h=>(fW rfl h))) (ra rfl (eJ (fK rfl (fJ (fQ rfl) ?_))))
 exact (bI (Cg m))
theorem Uz {a b c:Nat} (ha:a < 4294967296) (hb:b < 4294967296) (hc:c < 4294967296):aS Tryz.prog 255 [bM a,bM b,bM c] (gE [bM ((a + b + c) % 4294967296),bM ((a + b + c) / 4294967296)]):=by
 refine aS.intro Tryz.func255 rfl Tryz.ntmps255 rfl (fun cx=>(ts (ro rfl (cQ (cJ 0)) (ro rfl (cQ (cJ 0)) (eJ (ts (rm rfl (ro rfl (gV U_189 U_254 (Ht rfl) z7) (rm rfl (ro rfl (gV U_189 U_254 (Ht rfl) z7) (ro rfl (dW (Ht rfl) (Ht rfl) z7) (rm rfl (ro rfl (gV U_189 U_254 (Ht rfl) z7) ?_)))))))))))))
 refine ro rfl (dW (Ht rfl) (Ht rfl) z7) (ra rfl (eJ (ts (rm rfl (ro rfl (eO rfl U_254 U_189 (Ht rfl)) (ra rfl (eJ (ts (rm rfl (ro rfl (dT (Ht rfl) (cJ 32) (by decide)) (ro rfl (eO rfl U_254 U_189 (Ht rfl)) (ra rfl (eJ (bN rfl (fQ rfl) (fJ (fQ rfl) ?_)))))))))))))))
 exact (lL (by simp only [kF]; omega))
theorem Vn {a b c:Nat} (ha:a < 4294967296) (hb:b < 4294967296) (hc:c ≤ 1):aS Tryz.prog 256 [bM a,bM b,bM c] (gE [bM ((a + 8589934592 - b - c) % 4294967296),bM (if a < b + c then 1 else 0)]):=by
 refine aS.intro Tryz.func256 rfl Tryz.ntmps256 rfl (fun cx=>(ts (ro rfl (cQ (cJ 0)) (ro rfl (cQ (cJ 0)) (eJ (ts (rm rfl (rm rfl (ro rfl (kQ rfl (Ht rfl) (Ht rfl) (by show _ ≤ 4294967296; first | omega | (simp only [kF]; omega))) (rm rfl (ro rfl (kQ rfl (Ht rfl) (Ht rfl) (by show _ ≤ 4294967296; first | omega | (simp only [kF]; omega))) (ra rfl (eJ (ts (rm rfl (ro rfl (Lp rfl (Ht rfl) (by show _ < 4294967296; first | omega | (simp only [kF]; omega))) (rm rfl (ro rfl (rF rfl (Ht rfl) (Ht rfl) (by show _ < 4294967296; simp only [kF]; omega) (by show _ < 4294967296; omega)) ?_))))))))))))))))))
 refine rm rfl (rm rfl (ro rfl (Xq rfl (Ht rfl) (Ht rfl) (by show _ < 4294967296; omega) (by show _ < 4294967296; omega)) (ro rfl (Lp rfl (Ht rfl) (Nat.xor_lt_two_pow (n:=32) ha hb)) (rm rfl (ro rfl (rF rfl (Ht rfl) (Ht rfl) (by show _ < 4294967296; simp only [kF]; omega) (by show _ < 4294967296; simp only [kF]; omega)) (ro rfl (nE rfl (Ht rfl) (Ht rfl) (Nat.and_lt_two_pow (n:=32) _ hb) (Nat.and_lt_two_pow (n:=32) _ (by simp only [kF]; omega))) (ro rfl (dT (Ht rfl) (cJ 31) (by decide)) (ra rfl (eJ (bN rfl (fJ (fQ rfl) ?_) (fJ (fQ rfl) ?_)))))))))))
 ·exact (lL (by simp only [kF]; omega))
 ·exact (lL (Cm ha hb hc (by simp only [kF]; omega)))
theorem Pz {m n:Nat} (hm:(dg m).length ≤ 1152921504606846976) (hn:(dg n).length ≤ 1152921504606846976):aS Tryz.prog 216 [aE m,aE n] (bC .i64 (mG m n)):=by
 refine aS.intro Tryz.func216 rfl Tryz.ntmps216 rfl (fun cx=>(ts (ro rfl (cQ (cJ 0)) (eJ (cK (ts (rm rfl (ro rfl (dU U_47 (Ht rfl) aA) (rm rfl (ro rfl (dU U_47 (Ht rfl) aA) (ro rfl (gY (Ht rfl) (Ht rfl)) (eJ (dQ (Ht rfl) (fun hb=>?_) (fun hb=>?_))))))))))))))
 ·simp at hb
  refine cK (ts (rm rfl (ro rfl (dU U_47 (Ht rfl) aA) (rm rfl (ro rfl (dU U_47 (Ht rfl) aA) (ro rfl (gJ (Ht rfl) (Ht rfl)) (eJ (dQ (Ht rfl) (fun hb2=>?_) (fun hb2=>?_)))))))))
  ·simp at hb2
   have hlt:=Bq hb2
   refine ts (ro rfl (cQ cV) (eJ (fK rfl (fJ (fQ rfl) ?_))))
   exact (bB (by simp [mG,hlt]))
  ·simp at hb2
   have hlt:=Bq (a:=n) (b:=m) zo
   refine cU (ts (ro rfl (cQ (cJ 1)) (eJ (fK rfl (fJ (fQ rfl) ?_)))))
   exact (bB (by simp [mG,hlt,Nat.lt_asymm hlt]))
 ·simp at hb
  refine cU (cK (ts (rm rfl (ro rfl (dU U_47 (Ht rfl) aA) (ro rfl (iD (Ht rfl) cV (zL zo)) (ra rfl (eJ (eU ?_))))))))
  refine bF (fun (k : Nat) => k ≤ (dg m).length ∧ ∀ i, k ≤ i → i < (dg m).length → (dg m).getD i 0 = (dg n).getD i 0) (fun (k : Nat) => k) (fun (k : Nat) => [(0, aE m), (1, aE n), (5, bC .i64 ((k : Int) - 1))]) (fun (k : Nat) => []) (dg m).length ⟨Nat.le_refl _, fun i h1 h2 => by omega⟩
   (zS rfl) aY (fun k ⟨hk,he⟩=>?_)
  refine cK (ts (rm rfl (ro rfl (kV (Ht rfl) cV) (eJ (dQ (Ht rfl) (fun hk1=>?_) (fun hk1=>?_))))))
  ·simp at hk1
   refine cU (cK (eU (cK (cK (fV (m:=8) (dp 0 rfl (cX (Ht rfl)) (dp 5 rfl (cX (Ht rfl)) (cH 23 0 24 1 rfl (dZ U_47 Z_189 (Ht rfl) (Ht rfl) (show ((k:Int) - 1) = ((k - 1:Nat):Int) by omega) (eX (aF zo))) (dq 25 2 rfl (dJ A_189 Z_189 (Ht rfl)) (dp 1 rfl (cX (Ht rfl)) (dp 5 rfl (cX (Ht rfl)) (cH 27 4 28 5 rfl (dZ U_47 Z_189 (Ht rfl) (Ht rfl) (show ((k:Int) - 1) = ((k - 1:Nat):Int) by omega) (eX (aF zo))) (dq 29 6 rfl (dJ A_189 Z_189 (Ht rfl)) ?_)))))))))))))
   refine fG aM rfl (by kernel_rfl) (zF (zF (aV (ro rfl (gJ (Ht rfl) (Ht rfl)) (eJ (dQ (Ht rfl) (fun h1=>?_) (fun h1=>?_)))))))
   ·simp only [decide_eq_true_eq] at h1
    have hlt:=wB (bA m) (bA n) hb (k:=k - 1) zo (fun i h2 h3=>he i zo h3) h1
    rw [cA,cA] at hlt
    refine ts (ro rfl (cQ cV) (eJ (fK rfl (fJ (fQ rfl) ?_))))
    exact (bB (by simp [mG,hlt]))
   ·simp only [decide_eq_false_iff_not] at h1
    refine cU (cK (fV (m:=8) (dp 0 rfl (cX (Ht rfl)) (dp 5 rfl (cX (Ht rfl)) (cH 32 0 33 1 rfl (dZ U_47 Z_189 (Ht rfl) (Ht rfl) (show ((k:Int) - 1) = ((k - 1:Nat):Int) by omega) (eX (aF zo))) (dq 34 2 rfl (dJ A_189 Z_189 (Ht rfl)) (dp 1 rfl (cX (Ht rfl)) (dp 5 rfl (cX (Ht rfl)) (cH 36 4 37 5 rfl (dZ U_47 Z_189 (Ht rfl) (Ht rfl) (show ((k:Int) - 1) = ((k - 1:Nat):Int) by omega) (eX (aF zo))) (dq 38 6 rfl (dJ A_189 Z_189 (Ht rfl)) ?_))))))))))
    refine fG aM rfl (by kernel_rfl) (zF (zF (aV (ro rfl (dL (Ht rfl) (Ht rfl)) (eJ (dQ (Ht rfl) (fun h2=>?_) (fun h2=>?_)))))))
    ·simp only [decide_eq_true_eq] at h2
     have hlt:=wB (bA n) (bA m) hb.symm (k:=k - 1) zo (fun i h2 h3=>(he i zo zo).symm) h2
     rw [cA,cA] at hlt
     refine ts (ro rfl (cQ (cJ 1)) (eJ (fK rfl (fJ (fQ rfl) ?_))))
     exact (bB (by simp [mG,hlt,Nat.lt_asymm hlt]))
    ·simp only [decide_eq_false_iff_not] at h2
     refine cU (aR (cY (rm rfl (ro rfl (iD (Ht rfl) cV (zL zo)) (ra rfl (eJ (gQ (k - 1) ⟨by omega,fun i h3 h4=>(by by_cases e:i = k - 1; (· subst e; omega); exact he i zo h4)⟩ zo (aQ rfl (aQ rfl (aZ rfl (bB zo) aX))) aY)))))))
  ·simp at hk1
   have hk0:k = 0:=by omega
   have heq : m = n := by
    have : dg m = dg n := by
     apply List.ext_getElem?
     intro i
     by_cases hi:i < (dg m).length
     ·have h5 := he i zo hi
      have h6:i < (dg n).length:=by omega
      simp [List.getD,hi,h6] at h5
      simp [hi,h6,h5]
     ·rw [List.getElem?_eq_none zo,List.getElem?_eq_none zo]
    rw [← cA m,this,cA]
   refine gG rfl (ts (ro rfl (cQ (cJ 0)) (eJ (fK rfl (fJ (fQ rfl) ?_)))))
   exact (bB (by simp [mG,heq]))
end
section
open Go Go.RowKit
theorem gS:Tryz.prog.info? 189 = some Tryz.t189:=by kernel_rfl
end
section
open Go Go.RowKit
theorem a1l {m n:Nat} (hm:(dg m).length ≤ 17592186044416) (hn:(dg n).length ≤ 17592186044416):aS Tryz.prog 215 [aE m,aE n] (aE (m + n)):=by
 refine aS.intro Tryz.func215 rfl Tryz.ntmps215 rfl (fun cx=>(ts (ro rfl (cQ cV) (eJ (cK (nL (fun (p:Nat) (q:Nat)=>p + q = m + n ∧ (dg q).length ≤ (dg p).length ∧ (dg p).length ≤ 17592186044416) (fun (p:Nat) (q:Nat)=>[(0,aE p),(1,aE q)]) (fun (p:Nat) (q:Nat)=>[]) ?_ (fun p q ⟨hpq,hle,hlp⟩=>?_)))))))
 ·refine ts (rm rfl (ro rfl (dU U_47 (Ht rfl) aA) (rm rfl (ro rfl (dU U_47 (Ht rfl) aA) (ro rfl (gJ (Ht rfl) (Ht rfl)) (eJ (dQ (Ht rfl) (fun hb => ?_) (fun hb => ?_))))))))
  ·simp at hb
   refine cY (rm rfl (rm rfl (ra rfl (ra rfl (eJ (aO (n,m) ⟨Nat.add_comm _ _,Nat.le_of_lt hb,hn⟩ (zS rfl) aY))))))
  ·simp at hb
   refine cU (aO (m,n) ⟨rfl,hb,hm⟩ (zS rfl) aY)
 ·refine ts (rm rfl (ro rfl (dU U_47 (Ht rfl) aA) (ro rfl (dW (Ht rfl) (cJ 1) z6) (rn rfl (dH (T := bM 0) (i := Tryz.t189) V_47 gS rfl rfl (Ht rfl) rfl (fun _ => rfl) trivial (by show 4 * _ ≤ _; omega) zo) fun B19 => (ra rfl (eJ (ts (ro rfl (cQ (cJ 0)) (eJ (cK (ts (rm rfl (ro rfl (dU U_47 (Ht rfl) aA) (ro rfl (cX (cJ 0)) (eJ (eU ?_))))))))))))))))
  refine iM (fun (k : Nat) (out : List Nat) (c : Nat) => vP (dg p) (dg q) out k c) (fun (k : Nat) (out : List Nat) (c : Nat) => (dg p).length - k) (fun (k : Nat) (out : List Nat) (c : Nat) => [(0, aE p), (1, aE q), (5, Is (.slice (some ⟨B19, 0, none⟩) ((dg p).length + 1) ((dg p).length + 1))), (6, bM c), (21, NT .i64 (dg p).length), (22, NT .i64 k)]) (fun (k : Nat) (out : List Nat) (c : Nat) => [box B19 189 (out.map bM)]) 0 (List.replicate ((dg p).length + 1) 0) 0 (vP.start _ _)
   (zS rfl) (aU (aB (jN _)) aY) (fun k out c hS=>?_)
  refine ts (ro rfl (gJ (Ht rfl) (Ht rfl)) (eJ (cK (dQ (Ht rfl) (fun hb=>?_) (fun hb=>?_)))))
  ·simp at hb
   have hlen:=hS.len; have hcl:=hS.cle; have hxk:=aL (bA p) k; have hyk:=aL (bA q) k
   simp only [BB] at hxk hyk
   refine cU (cK (eU (ts (rm rfl (ra rfl (eJ (ts (ro rfl (cQ (cJ 0)) (eJ (cK (iY (fun (uu:Unit)=>True) (fun (uu:Unit)=>[(0,aE p),(1,aE q),(5,Is (.slice (some ⟨B19,0,none⟩) ((dg p).length + 1) ((dg p).length + 1))),(6,bM c),(7,NT .i64 k),(8,bM ((dg q).getD k 0)),(21,NT .i64 (dg p).length),(22,NT .i64 k)]) (fun (uu:Unit)=>[box B19 189 (out.map bM)]) ?_ (fun uu _=>?_))))))))))))
   ·refine ts (rm rfl (rm rfl (ro rfl (dU U_47 (Ht rfl) aA) (ro rfl (gJ (Ht rfl) (Ht rfl)) (eJ (dQ (Ht rfl) (fun hk2 => ?_) (fun hk2 => ?_)))))))
    ·simp at hk2
     refine cY (rm rfl (rm rfl (ro rfl (dZ U_47 Z_189 (Ht rfl) (Ht rfl) rfl (eX (aF zo))) (ro rfl (dJ A_189 Z_189 (Ht rfl)) (ra rfl (eJ (aO () trivial (zS rfl) (cL.refl _))))))))
    ·simp at hk2
     refine cU (aO () trivial (aQ rfl (aQ rfl (aQ rfl (aQ rfl (aQ rfl (aZ rfl (lL (by simp [List.getD,List.getElem?_eq_none hk2])) (zS rfl))))))) (cL.refl _))
   ·refine cY (rm rfl (rm rfl (rm rfl (rm rfl (ro rfl (dZ U_47 Z_189 (Ht rfl) (Ht rfl) rfl (eX (aF zo))) (ro rfl (dJ A_189 Z_189 (Ht rfl)) (rm rfl (rm rfl (ro rfl (cZ Tryz.call255 (Uz hxk hyk zo) ⟨(Ht rfl), (Ht rfl), (Ht rfl), trivial⟩) (rm rfl (ro rfl (dY (Ht rfl) rfl) (ro rfl (dY (Ht rfl) rfl) (ro rfl (gX U_47 Z_189 (Ht rfl) (Ht rfl) rfl zo (by rw [Nat.mul_one, Nat.zero_add])) ?_)))))))))))))
    refine jX Z_189 (Ht rfl) (Ht rfl) (i:=0) rfl (by first | omega | (simp; omega)) rfl (ra rfl (eJ (aR (cY (ro rfl (dW (Ht rfl) (cJ 1) z6) (rm rfl (eJ (gQ (k + 1,_,_) (hS.next (bA p) (bA q) hb) (by dsimp only; omega) (zS rfl) (aU (aB (eL _ _ _)) aY)))))))))
  ·simp at hb
   have hkl:k = (dg p).length:=Nat.le_antisymm hS.kle hb
   subst hkl
   have hlen:=hS.len; have hcl:=hS.cle
   refine gG rfl (ts (rm rfl (rm rfl (ro rfl (dU U_47 (Ht rfl) aA) (rm rfl (ro rfl (gX U_47 Z_189 (Ht rfl) (Ht rfl) rfl zo (by rw [Nat.mul_one,Nat.zero_add])) ?_))))))
   refine jX Z_189 (Ht rfl) (Ht rfl) (i:=0) rfl (by first | omega | (simp; omega)) rfl (eJ (cK ?_))
   have hfin:=hS.fin hle
   refine gW (i:=0) (tt:=5) rfl rfl (kE (eL _ _ _) (by simp [hlen]) (Nat.le_refl _)) ?_
   refine cY (rm rfl (ro rfl (cZ K_221 (oT _ (jD hS.dig (by simp only [BB]; omega)) (by simp [hlen]; omega)) ⟨(Ht rfl),trivial⟩) ?_))
   refine ra rfl (eJ (fK rfl (fJ (fQ rfl) ?_)))
   exact (cF (by rw [hfin,cA,cA]; exact hpq))
theorem Zo {m n:Nat} (hm:(dg m).length ≤ 17592186044416) (hnm:n ≤ m):aS Tryz.prog 217 [aE m,aE n] (aE (m - n)):=by
 have hle:=gH hnm
 refine aS.intro Tryz.func217 rfl Tryz.ntmps217 rfl (fun cx=>(ts (ro rfl (cQ cV) (eJ (ts (rm rfl (ro rfl (dU U_47 (Ht rfl) aA) (rn rfl (dH (T:=bM 0) (i:=Tryz.t189) V_47 gS rfl rfl (Ht rfl) rfl (fun _=>rfl) trivial (by show 4 * _ ≤ _; omega) zo) fun B11=>(ra rfl (eJ (ts (ro rfl (cQ (cJ 0)) (eJ (cK (ts (rm rfl (ro rfl (dU U_47 (Ht rfl) aA) (ro rfl (cX (cJ 0)) (eJ (eU ?_))))))))))))))))))))
 refine iM (fun (k : Nat) (out : List Nat) (c : Nat) => vS (dg m) (dg n) out k c) (fun (k : Nat) (out : List Nat) (c : Nat) => (dg m).length - k) (fun (k : Nat) (out : List Nat) (c : Nat) => [(0, aE m), (1, aE n), (5, Is (.slice (some ⟨B11, 0, none⟩) (dg m).length (dg m).length)), (6, bM c), (13, NT .i64 (dg m).length), (14, NT .i64 k)]) (fun (k : Nat) (out : List Nat) (c : Nat) => [box B11 189 (out.map bM)]) 0 (List.replicate (dg m).length 0) 0 (vS.start _ _)
  (zS rfl) (aU (aB (jN _)) aY) (fun k out c hS=>?_)
 refine ts (ro rfl (gJ (Ht rfl) (Ht rfl)) (eJ (cK (dQ (Ht rfl) (fun hb=>?_) (fun hb=>?_)))))
 ·simp at hb
  have hlen:=hS.len; have hcl:=hS.cle; have hxk:=aL (bA m) k; have hyk:=aL (bA n) k
  simp only [BB] at hxk hyk
  refine cU (cK (eU (ts (rm rfl (ra rfl (eJ (ts (ro rfl (cQ (cJ 0)) (eJ (cK (iY (fun (uu:Unit)=>True) (fun (uu:Unit)=>[(0,aE m),(1,aE n),(5,Is (.slice (some ⟨B11,0,none⟩) (dg m).length (dg m).length)),(6,bM c),(7,NT .i64 k),(8,bM ((dg n).getD k 0)),(13,NT .i64 (dg m).length),(14,NT .i64 k)]) (fun (uu:Unit)=>[box B11 189 (out.map bM)]) ?_ (fun uu _=>?_))))))))))))
  ·refine ts (rm rfl (rm rfl (ro rfl (dU U_47 (Ht rfl) aA) (ro rfl (gJ (Ht rfl) (Ht rfl)) (eJ (dQ (Ht rfl) (fun hk2 => ?_) (fun hk2 => ?_)))))))
   ·simp at hk2
    refine cY (rm rfl (rm rfl (ro rfl (dZ U_47 Z_189 (Ht rfl) (Ht rfl) rfl (eX (aF zo))) (ro rfl (dJ A_189 Z_189 (Ht rfl)) (ra rfl (eJ (aO () trivial (zS rfl) (cL.refl _))))))))
   ·simp at hk2
    refine cU (aO () trivial (aQ rfl (aQ rfl (aQ rfl (aQ rfl (aQ rfl (aZ rfl (lL (by simp [List.getD,List.getElem?_eq_none hk2])) (zS rfl))))))) (cL.refl _))
  ·refine cY (rm rfl (rm rfl (rm rfl (rm rfl (ro rfl (dZ U_47 Z_189 (Ht rfl) (Ht rfl) rfl (eX (aF zo))) (ro rfl (dJ A_189 Z_189 (Ht rfl)) (rm rfl (rm rfl (ro rfl (cZ Tryz.call256 (Vn hxk hyk zo) ⟨(Ht rfl), (Ht rfl), (Ht rfl), trivial⟩) (rm rfl (ro rfl (dY (Ht rfl) rfl) (ro rfl (dY (Ht rfl) rfl) (ro rfl (gX U_47 Z_189 (Ht rfl) (Ht rfl) rfl zo (by rw [Nat.mul_one, Nat.zero_add])) ?_)))))))))))))
   refine jX Z_189 (Ht rfl) (Ht rfl) (i:=0) rfl (by first | omega | (simp; omega)) rfl (ra rfl (eJ (aR (cY (ro rfl (dW (Ht rfl) (cJ 1) z6) (rm rfl (eJ (gQ (k + 1,_,_) (hS.next (bA m) (bA n) hb) (by dsimp only; omega) (zS rfl) (aU (aB (eL _ _ _)) aY)))))))))
 ·simp at hb
  have hkl:k = (dg m).length:=Nat.le_antisymm hS.kle hb
  subst hkl
  have hlen:=hS.len
  have hfin:=hS.fin (bA m) hle (by rw [cA,cA]; exact hnm)
  rw [cA,cA] at hfin
  refine gG rfl (gW (i:=0) (tt:=5) rfl rfl (kE rfl hlen.symm (Nat.le_refl _)) (ts (rm rfl (ro rfl (cZ K_221 (oT _ hS.dig zo) ⟨(Ht rfl),trivial⟩) (ra rfl (eJ (fK rfl (fJ (fQ rfl) ?_))))))))
  exact (cF hfin)
theorem zT {m n:Nat} (hm:(dg m).length ≤ 17592186044416) (hn:(dg n).length ≤ 17592186044416):aS Tryz.prog 138 [aE m,aE n] (aE (m * n)):=by
 refine aS.intro Tryz.func138 rfl Tryz.ntmps138 rfl (fun cx=>(ts (ro rfl (cQ cV) (eJ (cK (ts (rm rfl (ro rfl (dU U_47 (Ht rfl) aA) (ro rfl (cT (Ht rfl) (cJ 0)) (rm rfl (fZ rfl rfl (eY rfl rfl (Ht rfl) (fun h=>cX (Ht rfl))) (fZ rfl rfl (eY rfl rfl (Ht rfl) (fun h=>dU U_47 (fW rfl h) aA)) (fZ rfl rfl (eY rfl rfl (Ht rfl) (fun h=>cT (fW rfl h) (cJ 0))) (ro rfl (iW (Ht rfl) (fun h=>(fW rfl h))) (eJ (dQ (Ht rfl) (fun hb=>?_) (fun hb=>?_)))))))))))))))))
 ·simp [aH] at hb
  have h0 : m * n = 0 := by
   rcases hb with h | h <;> simp_all [oI]
  refine ts (ro rfl (cQ cV) (eJ (fK rfl (fJ (fQ rfl) ?_))))
  exact (fun v V h=>by rw [h0]; exact jG v V h)
 ·clear hb
  refine cU (ts (rm rfl (ro rfl (dU U_47 (Ht rfl) aA) (rm rfl (ro rfl (dU U_47 (Ht rfl) aA) (ro rfl (dW (Ht rfl) (Ht rfl) z6) (rn rfl (dH (T:=bM 0) (i:=Tryz.t189) V_47 gS rfl rfl (Ht rfl) rfl (fun _=>rfl) trivial (by show 4 * _ ≤ _; omega) zo) fun B24=>(ra rfl (eJ (cK (ts (rm rfl (ro rfl (dU U_47 (Ht rfl) aA) (ro rfl (cX (cJ 0)) (eJ (eU ?_))))))))))))))))
  refine eH (fun (i : Nat) (out : List Nat) => wZ (dg m) (dg n) out i) (fun (i : Nat) (out : List Nat) => (dg m).length - i) (fun (i : Nat) (out : List Nat) => [(0, aE m), (1, aE n), (5, Is (.slice (some ⟨B24, 0, none⟩) ((dg m).length + (dg n).length) ((dg m).length + (dg n).length))), (25, aE m), (26, NT .i64 (dg m).length), (27, NT .i64 i)]) (fun (i : Nat) (out : List Nat) => [box B24 189 (out.map bM)]) 0 (List.replicate ((dg m).length + (dg n).length) 0) (wZ.start _ _)
   (zS rfl) (aU (aB (jN _)) aY) (fun i out hS=>?_)
  refine ts (ro rfl (gJ (Ht rfl) (Ht rfl)) (eJ (cK (dQ (Ht rfl) (fun hb=>?_) (fun hb=>?_)))))
  ·simp at hb
   have hxi:=aL (bA m) i
   simp only [BB] at hxi
   refine cU (cK (eU (ts (rm rfl (ro rfl (dZ U_47 Z_189 (Ht rfl) (Ht rfl) rfl (eX (aF zo))) (ro rfl (dJ A_189 Z_189 (Ht rfl)) (ra rfl (ra rfl (eJ (ts (ro rfl (cQ (cJ 0)) (eJ (cK (ts (rm rfl (ro rfl (dU U_47 (Ht rfl) aA) (ro rfl (cX (cJ 0)) (eJ (eU ?_)))))))))))))))))))
   refine iM (fun (k : Nat) (out2 : List Nat) (c : Nat) => Cy (dg m) (dg n) out2 i k c) (fun (k : Nat) (out2 : List Nat) (c : Nat) => (dg n).length - k) (fun (k : Nat) (out2 : List Nat) (c : Nat) => [(0, aE m), (1, aE n), (5, Is (.slice (some ⟨B24, 0, none⟩) ((dg m).length + (dg n).length) ((dg m).length + (dg n).length))), (6, NT .i64 i), (7, bM ((dg m).getD i 0)), (8, NT .u64 c), (25, aE m), (26, NT .i64 (dg m).length), (27, NT .i64 i), (32, aE n), (33, NT .i64 (dg n).length), (34, NT .i64 k)]) (fun (k : Nat) (out2 : List Nat) (c : Nat) => [box B24 189 (out2.map bM)]) 0 out 0 (hS.row hb)
    (zS rfl) (cL.refl _) (fun k out2 c hR=>?_)
   refine ts (ro rfl (gJ (Ht rfl) (Ht rfl)) (eJ (cK (dQ (Ht rfl) (fun hk=>?_) (fun hk=>?_)))))
   ·simp at hk
    have hlen:=hR.len; have hcl:=hR.clt; have hyk:=aL (bA n) k; have hok:=aL hR.dig (i + k)
    have hbnd:=rD (aL (bA m) i) (aL (bA n) k) (aL hR.dig (i + k)) hR.clt
    simp only [BB] at hcl hyk hok hbnd
    refine cU (cK (eU (ts (rm rfl (ro rfl (dZ U_47 Z_189 (Ht rfl) (Ht rfl) rfl (eX (aF zo))) (ro rfl (dJ A_189 Z_189 (Ht rfl)) (ra rfl (ra rfl (eJ (ts (rm rfl (rm rfl (ro rfl (gV U_189 U_254 (Ht rfl) z7) (rm rfl (ro rfl (gV U_189 U_254 (Ht rfl) z7) (ro rfl (kB (Ht rfl) (Ht rfl) (by show _ < 18446744073709551616; omega)) ?_))))))))))))))))
    refine rm rfl (rm rfl (rm rfl (ro rfl (dW (Ht rfl) (Ht rfl) z6) (ro rfl (gX U_47 Z_189 (Ht rfl) (Ht rfl) rfl zo (by rw [Nat.mul_one,Nat.zero_add])) ?_))))
    refine ro rfl (fX A_189 Z_189 (Ht rfl) (i:=0) rfl (eX (aF zo))) (ro rfl (gV U_189 U_254 (Ht rfl) z7) (ro rfl (dW (Ht rfl) (Ht rfl) z7) (ro rfl (dW (Ht rfl) (Ht rfl) z7) (ra rfl (eJ (ts (rm rfl (rm rfl (rm rfl (ro rfl (dW (Ht rfl) (Ht rfl) z6) ?_))))))))))
    refine rm rfl (ro rfl (eO rfl U_254 U_189 (Ht rfl)) (ro rfl (gX U_47 Z_189 (Ht rfl) (Ht rfl) rfl zo (by rw [Nat.mul_one,Nat.zero_add])) ?_))
    refine jX Z_189 (Ht rfl) (Ht rfl) (i:=0) rfl (by first | omega | (simp; omega)) rfl (eJ (cY (rm rfl (ro rfl (dT (Ht rfl) (cJ 32) (by decide)) (ra rfl (eJ (aR (cY (ro rfl (dW (Ht rfl) (cJ 1) z6) (rm rfl (eJ (gQ (k + 1,_,_) (hR.next (bA m) (bA n) hk rfl) (by dsimp only; omega) (zS rfl) (aU (aB (eL _ _ _)) aY)))))))))))))
   ·simp at hk
    have hkl:k = (dg n).length:=Nat.le_antisymm hR.kle hk
    subst hkl
    have hlen:=hR.len; have hcl:=hR.clt
    simp only [BB] at hcl
    refine gG rfl (cY (rm rfl (rm rfl (rm rfl (ro rfl (dU U_47 (Ht rfl) aA) (ro rfl (dW (Ht rfl) (Ht rfl) z6) (rm rfl (ro rfl (gV U_254 U_189 (Ht rfl) (by show _ < 4294967296; first | omega | (simp only [kF]; omega))) (ro rfl (gX U_47 Z_189 (Ht rfl) (Ht rfl) rfl zo (by rw [Nat.mul_one,Nat.zero_add])) ?_)))))))))
    refine jX Z_189 (Ht rfl) (Ht rfl) (i:=0) rfl (by first | omega | (simp; omega)) rfl (eJ (aR (cY (ro rfl (dW (Ht rfl) (cJ 1) z6) (rm rfl (eJ (gQ (i + 1,_) (hR.fin) (by dsimp only; omega) (zS rfl) (aU (aB (eL _ _ _)) aY))))))))
  ·simp at hb
   have hkl:i = (dg m).length:=Nat.le_antisymm hS.ile hb
   subst hkl
   have hlen:=hS.len
   have hfin:=hS.fin
   rw [cA,cA] at hfin
   refine gG rfl (gW (i:=0) (tt:=5) rfl rfl (kE rfl hlen.symm (Nat.le_refl _)) (ts (rm rfl (ro rfl (cZ K_221 (oT _ hS.dig zo) ⟨(Ht rfl),trivial⟩) (ra rfl (eJ (fK rfl (fJ (fQ rfl) ?_))))))))
   exact (cF hfin)
end
section
open Go Go.RowKit
theorem Ve {v:Nat} (hv:v < 4294967296):aS Tryz.prog 280 [bM v] (NT .i64 (bl v)):=by
 refine aS.intro Tryz.func280 rfl Tryz.ntmps280 rfl (fun cx=>(ts (ro rfl (cQ (cJ 0)) (eJ (cK (nL (fun (q:Nat) (x:Nat)=>bl v = q + bl x ∧ x < 65536 ∧ q ≤ 16) (fun (q:Nat) (x:Nat)=>[(0,bM x),(2,NT .i64 q)]) (fun (q:Nat) (x:Nat)=>[]) ?_ (fun q x ⟨hq1,hq2,hq3⟩=>?_)))))))
 ·refine ts (rm rfl (ro rfl (nX (Ht rfl) (cJ 65536)) (eJ (dQ (Ht rfl) (fun hb => ?_) (fun hb => ?_)))))
  ·simp at hb
   refine ts (rm rfl (ro rfl (dT (Ht rfl) (cJ 16) (by decide)) (ra rfl (eJ (cY (ro rfl (cQ (cJ 16)) (eJ (aO (16,v / 2 ^ 16) ⟨a1N hb,by dsimp only; omega,Nat.le_refl _⟩ (zS rfl) aY))))))))
  ·simp at hb
   refine cU (aO (0,v) ⟨(Nat.zero_add _).symm,hb,by dsimp only; omega⟩ (zS rfl) aY)
 ·refine cK (nL (fun (r : Nat) (z : Nat) => bl v = r + bl z ∧ z < 256 ∧ r ≤ 24) (fun (r : Nat) (z : Nat) => [(0, bM z), (2, NT .i64 r)]) (fun (r : Nat) (z : Nat) => []) ?_ (fun r z ⟨hr1, hr2, hr3⟩ => ?_))
  ·refine ts (rm rfl (ro rfl (nX (Ht rfl) (cJ 256)) (eJ (dQ (Ht rfl) (fun hb => ?_) (fun hb => ?_)))))
   ·simp at hb
    refine ts (rm rfl (ro rfl (dT (Ht rfl) (cJ 8) (by decide)) (ra rfl (eJ (cY (rm rfl (ro rfl (dW (Ht rfl) (cJ 8) z6) (ra rfl (eJ (aO (q + 8,x / 2 ^ 8) ⟨by have:=bl8 hb; dsimp only; omega,by dsimp only; omega,by dsimp only; omega⟩ (zS rfl) aY))))))))))
   ·simp at hb
    refine cU (aO (q,x) ⟨hq1,hb,by dsimp only; omega⟩ (zS rfl) aY)
  ·have hbl := mE (k := 8) hr2
   refine ts (rm rfl (rm rfl (ro rfl (gV U_189 U_5 (Ht rfl) (by show _ < 256; first | omega | (simp only [kF]; omega))) (ro rfl (Xo Tryz.runUnderlying9 cV (Ht rfl) (a1Q hr2 (by kernel_rfl))) (ro rfl (gV U_5 U_3 (Ht rfl) z6) (ro rfl (dW (Ht rfl) (Ht rfl) z6) (ra rfl (eJ (fK rfl (fJ (fQ rfl) ?_))))))))))
   exact (lL zo)
theorem a0p {v:Nat} (hv:v < 4294967296):aS Tryz.prog 258 [bM v] (NT .i64 (32 - bl v)):=by
 refine aS.intro Tryz.func258 rfl Tryz.ntmps258 rfl (fun cx=>(ts (ro rfl (cQ (cJ 0)) (eJ (ts (rm rfl (ro rfl (cZ Tryz.call280 (Ve hv) ⟨(Ht rfl),trivial⟩) (ro rfl (dK (cJ 32) (Ht rfl) (mE hv) z6) (ra rfl (eJ ?_))))))))))
 exact fK rfl (fQ rfl)
theorem Va {hi lo y:Nat} (hy:hi < y) (hl:lo < BB) (hyb:y < BB):aS Tryz.prog 279 [bM hi,bM lo,bM y] (gE [bM ((hi * BB + lo) / y),bM ((hi * BB + lo) % y)]):=by
 have hq:=Ay hy hl; have hm:=Nat.mod_lt (hi * BB + lo) (by omega:y > 0); have hz:hi * BB + lo < 18446744073709551616:=by simp only [BB] at *; omega
 have hsh : hi * 2 ^ 32 < 18446744073709551616 := by
  have h1:hi < BB:=by omega
  show hi * BB < _
  simp only [BB] at h1 ⊢; omega
 refine aS.intro Tryz.func279 rfl Tryz.ntmps279 rfl (fun cx=>(ts (ro rfl (cQ (cJ 0)) (ro rfl (cQ (cJ 0)) (eJ (cK (ts (rm rfl (ro rfl (gY (Ht rfl) (cJ 0)) (rm rfl (fZ rfl rfl (eY rfl rfl (Ht rfl) (fun h=>cX (Ht rfl))) (fZ rfl rfl (eY rfl rfl (Ht rfl) (fun h=>cX (Ht rfl))) (fZ rfl rfl (eY rfl rfl (Ht rfl) (fun h=>wO (fW rfl h) (fW rfl h))) (ro rfl (dP (Ht rfl) (fun h=>(fW rfl h))) (eJ (jZ (Ht rfl) (by simp; omega) ?_))))))))))))))))
 have hl2:lo < 18446744073709551616:=by simp only [BB] at hl; omega
 have hy2:y < 18446744073709551616:=by simp only [BB] at hyb; omega
 refine cU (ts (rm rfl (ro rfl (gV U_189 U_254 (Ht rfl) (by show _ < 18446744073709551616; simp only [BB] at *; omega)) (ro rfl (mB (Ht rfl) (cJ 32) (by decide) hsh) (rm rfl (ro rfl (gV U_189 U_254 (Ht rfl) (by show _ < 18446744073709551616; simp only [BB] at *; omega)) (ro rfl (aI.nat (nE rfl (Ht rfl) (Ht rfl) z7 z7) (sE hl)) (ra rfl (eJ ?_)))))))))
 refine cK (fV (m:=11) (dp 8 rfl (cX (Ht rfl)) (dp 2 rfl (cX (Ht rfl)) (dq 24 1 rfl (gV U_189 U_254 (Ht rfl) (by show _ < 18446744073709551616; simp only [BB] at *; omega)) (cH 23 0 25 2 rfl (iR (Ht rfl) (Ht rfl) zo (by show _ < 18446744073709551616; exact hz)) (dq 26 3 rfl (gV U_254 U_189 (Ht rfl) (by show _ < 4294967296; exact hq)) (dp 8 rfl (cX (Ht rfl)) (dp 2 rfl (cX (Ht rfl)) (dq 29 6 rfl (gV U_189 U_254 (Ht rfl) (by show _ < 18446744073709551616; simp only [BB] at *; omega)) ?_)))))))))
 refine cH 28 5 30 7 rfl (mA (Ht rfl) (Ht rfl) zo) (dq 31 8 rfl (gV U_254 U_189 (Ht rfl) (by show _ < 4294967296; simp only [BB] at *; omega)) (dq 27 4 rfl (cQ (Ht rfl)) (fG aM rfl (by kernel_rfl) (zF (zF (aJ (aJ (aJ (aV (ra rfl (eJ ?_)))))))))))
 exact bN rfl (fQ rfl) (fQ rfl)
theorem Zn {m k:Nat} (hm:(dg m).length ≤ 17592186044416) (hk:k ≤ 562949953421312):aS Tryz.prog 259 [aE m,NT .i64 k] (aE (m * 2 ^ k)):=by
 refine aS.intro Tryz.func259 rfl Tryz.ntmps259 rfl (fun cx=>(ts (ro rfl (cQ cV) (eJ (cK (ts (rm rfl (ro rfl (dU U_47 (Ht rfl) aA) (ro rfl (cT (Ht rfl) (cJ 0)) (rm rfl (fZ rfl rfl (eY rfl rfl (Ht rfl) (fun h=>cX (Ht rfl))) (fZ rfl rfl (eY rfl rfl (Ht rfl) (fun h=>cT (fW rfl h) (cJ 0))) (ro rfl (iW (Ht rfl) (fun h=>(fW rfl h))) (eJ (dQ (Ht rfl) (fun hb=>?_) (fun hb=>?_))))))))))))))))
 ·simp [aH] at hb
  have h0 : m * 2 ^ k = m := by
   rcases hb with h | h
   ·simp_all [oI]
   ·rw [h,Nat.pow_zero,Nat.mul_one]
  refine ts (rm rfl (ra rfl (eJ (fK rfl (fJ (fQ rfl) ?_)))))
  exact (cF h0.symm)
 ·clear hb
  have hr:=Nat.mod_lt k (by decide:32 > 0)
  refine cU (ts (rm rfl (ro rfl (iR (Ht rfl) (cJ 32) zo z6) (rm rfl (ro rfl (mA (Ht rfl) (cJ 32) zo) (ro rfl (gV U_3 U_255 (Ht rfl) z7) (ra rfl (ra rfl (eJ (ts (rm rfl (ro rfl (dU U_47 (Ht rfl) aA) (rm rfl (ro rfl (dW (Ht rfl) (Ht rfl) z6) (ro rfl (dW (Ht rfl) (cJ 1) z6) ?_)))))))))))))))
  refine rn rfl (dH (T:=bM 0) (i:=Tryz.t189) V_47 gS rfl rfl (Ht rfl) rfl (fun _=>rfl) trivial (by show 4 * _ ≤ _; omega) zo) fun B29=>ra rfl (eJ (cK (ts (rm rfl (ro rfl (dU U_47 (Ht rfl) aA) (ro rfl (cX (cJ 0)) (eJ (eU ?_))))))))
  refine eH (fun (i : Nat) (out : List Nat) => xD (dg m) (k / 32) (k % 32) out i) (fun (i : Nat) (out : List Nat) => (dg m).length - i) (fun (i : Nat) (out : List Nat) => [(5, NT .i64 (k / 32)), (6, NT .u64 (k % 32)), (7, Is (.slice (some ⟨B29, 0, none⟩) ((dg m).length + k / 32 + 1) ((dg m).length + k / 32 + 1))), (30, aE m), (31, NT .i64 (dg m).length), (32, NT .i64 i)]) (fun (i : Nat) (out : List Nat) => [box B29 189 (out.map bM)]) 0 (List.replicate ((dg m).length + k / 32 + 1) 0) (xD.start _ _ _)
   (zS rfl) (aU (aB (jN _)) aY) (fun i out hS=>?_)
  refine ts (ro rfl (gJ (Ht rfl) (Ht rfl)) (eJ (cK (dQ (Ht rfl) (fun hb=>?_) (fun hb=>?_)))))
  ·simp at hb
   have hlen:=hS.len; have hxi:=aL (bA m) i; have hok:=aL hS.dig (i + k / 32)
   have hv:=Ax hxi hr
   have hd:(dg m).getD i 0 * 2 ^ (k % 32) / 2 ^ 32 < 4294967296:=Nat.div_lt_of_lt_mul hv
   simp only [BB] at hxi hok
   refine cU (cK (eU (ts (rm rfl (ro rfl (dZ U_47 Z_189 (Ht rfl) (Ht rfl) rfl (eX (aF zo))) (ro rfl (dJ A_189 Z_189 (Ht rfl)) (ra rfl (ra rfl (eJ (ts (rm rfl (ro rfl (gV U_189 U_254 (Ht rfl) z7) (rm rfl (ro rfl (mB (Ht rfl) (Ht rfl) (by show _ ≤ _; simp [IntKind.bits]; omega) (by show _ < 18446744073709551616; exact hv)) (ra rfl (eJ (ts (rm rfl (rm rfl (rm rfl (ro rfl (dW (Ht rfl) (Ht rfl) z6) ?_)))))))))))))))))))))
   refine ro rfl (gX U_47 Z_189 (Ht rfl) (Ht rfl) rfl zo (by rw [Nat.mul_one,Nat.zero_add])) ?_
   refine ro rfl (fX A_189 Z_189 (Ht rfl) (i:=0) rfl (eX (aF zo))) (rm rfl (ro rfl (eO rfl U_254 U_189 (Ht rfl)) (ro rfl (nE rfl (Ht rfl) (Ht rfl) (by show _ < 4294967296; omega) (by show _ % 4294967296 < 4294967296; omega)) (ro rfl (gX U_47 Z_189 (Ht rfl) (Ht rfl) rfl zo (by rw [Nat.mul_one,Nat.zero_add])) ?_))))
   refine jX Z_189 (Ht rfl) (Ht rfl) (i:=0) rfl (by first | omega | (simp; omega)) rfl (eJ (cY (rm rfl (rm rfl (rm rfl (ro rfl (dW (Ht rfl) (Ht rfl) z6) (ro rfl (dW (Ht rfl) (cJ 1) z6) (rm rfl (ro rfl (dT (Ht rfl) (cJ 32) (by decide)) (ro rfl (gV U_254 U_189 (Ht rfl) (by show _ < 4294967296; exact hd)) (ro rfl (gX U_47 Z_189 (Ht rfl) (Ht rfl) rfl zo (by rw [Nat.mul_one,Nat.zero_add])) ?_)))))))))))
   refine jX Z_189 (Ht rfl) (Ht rfl) (i:=0) rfl (by first | omega | (simp; omega)) rfl (eJ (aR (cY (ro rfl (dW (Ht rfl) (cJ 1) z6) (rm rfl (eJ (gQ (i + 1,_) (hS.next (bA m) hr hb rfl rfl) (by dsimp only; omega) (zS rfl) (aU (aB (Fv _ _ _ _ _)) aY))))))))
  ·simp at hb
   have hkl:i = (dg m).length:=Nat.le_antisymm hS.kle hb
   subst hkl
   have hlen:=hS.len
   have hfin:=hS.fin
   rw [cA,lA] at hfin
   refine gG rfl (gW (i:=0) (tt:=7) rfl rfl (kE rfl hlen.symm (Nat.le_refl _)) (ts (rm rfl (ro rfl (cZ K_221 (oT _ hS.dig zo) ⟨(Ht rfl),trivial⟩) (ra rfl (eJ (fK rfl (fJ (fQ rfl) ?_))))))))
   exact (cF hfin)
theorem a1r {m k:Nat} (hm:(dg m).length ≤ 17592186044416) (hk:k ≤ 562949953421312):aS Tryz.prog 261 [aE m,NT .i64 k] (aE (m / 2 ^ k)):=by
 refine aS.intro Tryz.func261 rfl Tryz.ntmps261 rfl (fun cx=>?_)
 have hr:=Nat.mod_lt k (by decide:32 > 0)
 refine ts (ro rfl (cQ cV) (eJ (ts (rm rfl (ro rfl (iR (Ht rfl) (cJ 32) zo z6) (rm rfl (ro rfl (mA (Ht rfl) (cJ 32) zo) (ro rfl (gV U_3 U_255 (Ht rfl) z7) (ra rfl (ra rfl (eJ (cK (ts (rm rfl (rm rfl (ro rfl (dU U_47 (Ht rfl) aA) (ro rfl (nX (Ht rfl) (Ht rfl)) (eJ (dQ (Ht rfl) (fun hb=>?_) (fun hb=>?_))))))))))))))))))))
 ·simp at hb
  have h0:=Fz (bA m) hb (r:=k % 32)
  rw [cA,lA] at h0
  refine ts (ro rfl (cQ cV) (eJ (fK rfl (fJ (fQ rfl) ?_))))
  exact (fun v V h=>cF h0.symm v V (jG v V h))
 ·simp at hb
  refine cU (ts (rm rfl (ro rfl (dU U_47 (Ht rfl) aA) (rm rfl (ro rfl (dK (Ht rfl) (Ht rfl) zo z6) (rn rfl (dH (T:=bM 0) (i:=Tryz.t189) V_47 gS rfl rfl (Ht rfl) rfl (fun _=>rfl) trivial (by show 4 * _ ≤ _; omega) zo) fun B23=>(ra rfl (eJ (cK (ts (rm rfl (ro rfl (fN U_47 (Ht rfl)) (ro rfl (cX (cJ 0)) (eJ (eU ?_)))))))))))))))
  refine eH (fun (i : Nat) (out : List Nat) => xE (dg m) (k / 32) (k % 32) out i) (fun (i : Nat) (out : List Nat) => (dg m).length - i) (fun (i : Nat) (out : List Nat) => [(0, aE m), (5, NT .i64 (k / 32)), (6, NT .u64 (k % 32)), (7, Is (.slice (some ⟨B23, 0, none⟩) ((dg m).length - k / 32) ((dg m).length - k / 32))), (25, NT .i64 ((dg m).length - k / 32 : Nat)), (26, NT .i64 i)]) (fun (i : Nat) (out : List Nat) => [box B23 189 (out.map bM)]) 0 (List.replicate ((dg m).length - k / 32) 0) (xE.start _ _ _)
   (zS rfl) (aU (aB (jN _)) aY) (fun i out hS=>?_)
  refine ts (ro rfl (gJ (Ht rfl) (Ht rfl)) (eJ (cK (dQ (Ht rfl) (fun hb=>?_) (fun hb=>?_)))))
  ·simp at hb
   have hlen:=hS.len; have hx0:=aL (bA m) (i + k / 32); have hx1:=aL (bA m) (i + k / 32 + 1)
   have hio:i < out.length:=by omega
   simp only [BB] at hx0 hx1
   refine cU (cK (eU (ts (rm rfl (ra rfl (eJ (ts (rm rfl (rm rfl (rm rfl (ro rfl (dW (Ht rfl) (Ht rfl) z6) (ro rfl (dZ U_47 Z_189 (Ht rfl) (Ht rfl) rfl (eX (aF zo))) (ro rfl (dJ A_189 Z_189 (Ht rfl)) (ro rfl (gV U_189 U_254 (Ht rfl) z7) (ra rfl (eJ (cK (iY (fun (v:Nat)=>v = (dg m).getD (i + k / 32) 0 + BB * (dg m).getD (i + k / 32 + 1) 0) (fun (v:Nat)=>[(0,aE m),(5,NT .i64 (k / 32)),(6,NT .u64 (k % 32)),(7,Is (.slice (some ⟨B23,0,none⟩) ((dg m).length - k / 32) ((dg m).length - k / 32))),(8,NT .i64 i),(9,NT .u64 v),(25,NT .i64 ((dg m).length - k / 32:Nat)),(26,NT .i64 i)]) (fun (v:Nat)=>[box B23 189 (out.map bM)]) ?_ (fun v hv=>?_)))))))))))))))))))
   ·refine ts (rm rfl (rm rfl (ro rfl (dW (Ht rfl) (Ht rfl) z6) (ro rfl (dW (Ht rfl) (cJ 1) z6) (rm rfl (ro rfl (dU U_47 (Ht rfl) aA) (ro rfl (gJ (Ht rfl) (Ht rfl)) (eJ (dQ (Ht rfl) (fun hk2 => ?_) (fun hk2 => ?_))))))))))
    ·simp at hk2
     refine cY (rm rfl (rm rfl (rm rfl (rm rfl (ro rfl (dW (Ht rfl) (Ht rfl) z6) (ro rfl (dW (Ht rfl) (cJ 1) z6) (ro rfl (dZ U_47 Z_189 (Ht rfl) (Ht rfl) rfl (eX (aF zo))) (ro rfl (dJ A_189 Z_189 (Ht rfl)) (ro rfl (gV U_189 U_254 (Ht rfl) z7) (ro rfl (mB (Ht rfl) (cJ 32) (by decide) (by show _ < 18446744073709551616; omega)) ?_))))))))))
     refine ro rfl (aI.nat (nE rfl (Ht rfl) (Ht rfl) z7 z7) (Lv hx0)) (ra rfl (eJ (aO ((dg m).getD (i + k / 32) 0 + BB * (dg m).getD (i + k / 32 + 1) 0) rfl (zS rfl) (cL.refl _))))
    ·simp at hk2
     refine cU (aO ((dg m).getD (i + k / 32) 0) (by simp [List.getD,List.getElem?_eq_none hk2]) (zS rfl) (cL.refl _))
   ·refine cY (rm rfl (rm rfl (rm rfl (rm rfl (ro rfl (dT (Ht rfl) (Ht rfl) (by show _ ≤ 64; omega)) (ro rfl (eO rfl U_254 U_189 (Ht rfl)) (ro rfl (gX U_47 Z_189 (Ht rfl) (Ht rfl) rfl zo (by rw [Nat.mul_one, Nat.zero_add])) ?_)))))))
    refine jX Z_189 (Ht rfl) (Ht rfl) (i:=0) rfl (by first | omega | (simp; omega)) rfl (eJ (aR (cY (ro rfl (dW (Ht rfl) (cJ 1) z6) (rm rfl (eJ (gQ (i + 1,_) (hS.next (bA m) hr hio (by rw [hv]; rfl)) (by dsimp only; omega) (zS rfl) (aU (aB (eL _ _ _)) aY))))))))
  ·simp at hb
   have hlen:=hS.len
   have hkl:i = out.length:=Nat.le_antisymm hS.kle zo
   subst hkl
   have hfin:=hS.fin (bA m) zo
   rw [cA,lA] at hfin
   refine gG rfl (gW (i:=0) (tt:=7) rfl rfl (kE rfl hlen.symm (Nat.le_refl _)) (ts (rm rfl (ro rfl (cZ K_221 (oT _ hS.dig zo) ⟨(Ht rfl),trivial⟩) (ra rfl (eJ (fK rfl (fJ (fQ rfl) ?_))))))))
   exact (cF hfin)
theorem Ki {m y:Nat} (hm:(dg m).length ≤ 17592186044416) (hy:0 < y) (hyb:y < BB):aS Tryz.prog 257 [aE m,bM y] (gE [aE (m / y),bM (m % y)]):=by
 refine aS.intro Tryz.func257 rfl Tryz.ntmps257 rfl (fun cx=>(ts (ro rfl (cQ cV) (ro rfl (cQ (cJ 0)) (eJ (ts (rm rfl (ro rfl (dU U_47 (Ht rfl) aA) (rn rfl (dH (T:=bM 0) (i:=Tryz.t189) V_47 gS rfl rfl (Ht rfl) rfl (fun _=>rfl) trivial (by show 4 * _ ≤ _; omega) zo) fun B11=>(ra rfl (eJ (ts (ro rfl (cQ (cJ 0)) (eJ (cK (ts (rm rfl (ro rfl (dU U_47 (Ht rfl) aA) (ro rfl (iD (Ht rfl) cV (zL zo)) (ra rfl (eJ (eU ?_))))))))))))))))))))))
 refine iM (fun (k : Nat) (out : List Nat) (r : Nat) => mZ (dg m) y out k r) (fun (k : Nat) (out : List Nat) (r : Nat) => k) (fun (k : Nat) (out : List Nat) (r : Nat) => [(0, aE m), (1, bM y), (6, Is (.slice (some ⟨B11, 0, none⟩) (dg m).length (dg m).length)), (7, bM r), (8, bC .i64 ((k : Int) - 1))]) (fun (k : Nat) (out : List Nat) (r : Nat) => [box B11 189 (out.map bM)]) (dg m).length (List.replicate (dg m).length 0) 0 (mZ.start _ hy)
  (zS rfl) (aU (aB (jN _)) aY) (fun k out r hS=>?_)
 refine cK (ts (rm rfl (ro rfl (kV (Ht rfl) cV) (eJ (dQ (Ht rfl) (fun hb=>?_) (fun hb=>?_))))))
 ·simp at hb
  have hlen:=hS.len; have hkl:=hS.kle
  refine cU (cK (eU (cY (rm rfl (rm rfl (rm rfl (rm rfl (rm rfl (ro rfl (dZ U_47 Z_189 (Ht rfl) (Ht rfl) (show ((k:Int) - 1) = ((k - 1:Nat):Int) by omega) (eX (aF zo))) (ro rfl (dJ A_189 Z_189 (Ht rfl)) (rm rfl (ro rfl (cZ Tryz.call279 (Va hS.rlt (aL (bA m) (k - 1)) hyb) ⟨(Ht rfl),(Ht rfl),(Ht rfl),trivial⟩) (rm rfl (ro rfl (dY (Ht rfl) rfl) (ro rfl (dY (Ht rfl) rfl) (ro rfl (gX U_47 Z_189 (Ht rfl) (Ht rfl) (show ((k:Int) - 1) = ((k - 1:Nat):Int) by omega) zo (by rw [Nat.mul_one,Nat.zero_add])) ?_))))))))))))))))
  refine jX Z_189 (Ht rfl) (Ht rfl) (i:=0) rfl (by first | omega | (simp; omega)) rfl (ra rfl (eJ (aR (cY (rm rfl (ro rfl (iD (Ht rfl) cV (zL zo)) (ra rfl (eJ (gQ (k - 1,_,_) (hS.next (bA m) zo rfl) (by dsimp only; omega) (aQ rfl (aQ rfl (aQ rfl (aQ rfl (aZ rfl (bB zo) aX))))) (aU (aB (eL _ _ _)) aY))))))))))
 ·simp at hb
  have hk0:k = 0:=by omega
  subst hk0
  have hlen:=hS.len
  have hfin:=hS.fin
  rw [cA] at hfin
  refine gG rfl (gW (i:=0) (tt:=6) rfl rfl (kE rfl hlen.symm (Nat.le_refl _)) (ts (rm rfl (ro rfl (cZ K_221 (oT _ hS.dig zo) ⟨(Ht rfl),trivial⟩) (rm rfl (ra rfl (ra rfl (eJ (bN rfl (fJ (fQ rfl) ?_) (fJ (fQ rfl) ?_))))))))))
  ·exact (cF hfin.1)
  ·exact (lL hfin.2)
end
section
open Go Go.RowKit
theorem a0w {us vs : List Nat} {q j B l : Nat} (hul : us.length = l) (hu : jM us) (hv : jM vs) (hq : q < BB) (hl : j + vs.length < us.length) (hL : us.length ≤ 1152921504606846976) :
    fT Tryz.prog 260 [Is (.slice (some ⟨B,0,none⟩) l l),rT vs,NT .u64 q,NT .i64 j] [box B 189 (us.map bM)] (List Nat × Bool) (fun x=>aC x.2) (fun x=>[box B 189 (x.1.map bM)]) (fun x=>Da us vs q j x.1 x.2):=by
 refine fT.intro Tryz.func260 rfl Tryz.ntmps260 rfl (fun cx Z=>(ts (ro rfl (cQ cV) (eJ (ts (ro rfl (cQ (cJ 0)) (ro rfl (cQ (cJ 0)) (eJ (cK (ts (rm rfl (ro rfl (dU U_47 (Ht rfl) aA) (ro rfl (cX (cJ 0)) (eJ (eU ?_)))))))))))))))
 refine vY (fun (i : Nat) (out : List Nat) (c : Nat) (b : Nat) => pQ us vs q j out i c b) (fun (i : Nat) (out : List Nat) (c : Nat) (b : Nat) => vs.length - i) (fun (i : Nat) (out : List Nat) (c : Nat) (b : Nat) => [(0, Is (.slice (some ⟨B, 0, none⟩) l l)), (1, rT vs), (2, NT .u64 q), (3, NT .i64 j), (9, NT .u64 c), (10, NT .u64 b), (16, rT vs), (17, NT .i64 vs.length), (18, NT .i64 i)]) (fun (i : Nat) (out : List Nat) (c : Nat) (b : Nat) => [Z, box B 189 (out.map bM)]) 0 us 0 0 (pQ.start hu vs q j)
  (zS rfl) (cL.refl _) (fun i out c b hS=>?_)
 refine ts (ro rfl (gJ (Ht rfl) (Ht rfl)) (eJ (cK (dQ (Ht rfl) (fun hb=>?_) (fun hb=>?_)))))
 ·simp at hb
  have hlen:=hS.len; have hcl:=hS.clt; have hbl:=hS.ble; have hvi:=aL hv i; have hok:=aL hS.dig (i + j)
  have hp:=Iz hq hvi hS.clt
  simp only [BB] at hp hcl hvi hok
  obtain ⟨p,hp1⟩:∃ p,p = q * vs.getD i 0 + c:=⟨_,rfl⟩
  obtain ⟨x,hx1⟩:∃ x,x = ((out.getD (i + j) 0 + 18446744073709551616 - p % 4294967296) % 18446744073709551616 + 18446744073709551616 - b) % 18446744073709551616:=⟨_,rfl⟩
  refine cU (cK (eU (ts (rm rfl (ro rfl (dZ U_47 Z_189 (Ht rfl) (Ht rfl) rfl (eX (aF zo))) (ro rfl (dJ A_189 Z_189 (Ht rfl)) (ra rfl (ra rfl (eJ (ts (rm rfl (rm rfl (ro rfl (gV U_189 U_254 (Ht rfl) z7) (ro rfl (kB (Ht rfl) (Ht rfl) z7) (rm rfl (ro rfl (aI.nat (dW (Ht rfl) (Ht rfl) z7) hp1.symm) ?_))))))))))))))))
  refine ra rfl (eJ (ts (rm rfl (ro rfl (dT (Ht rfl) (cJ 32) (by decide)) (ra rfl (eJ (ts (rm rfl (rm rfl (rm rfl (ro rfl (dW (Ht rfl) (Ht rfl) z6) (ro rfl (gX U_47 Z_189 (Ht rfl) (Ht rfl) rfl zo (by rw [Nat.mul_one,Nat.zero_add])) ?_))))))))))))
  refine ro rfl (fX A_189 Z_189 (Ht rfl) (i:=1) rfl (eX (aF zo))) (ro rfl (gV U_189 U_254 (Ht rfl) z7) (rm rfl (ro rfl (eO rfl U_254 U_189 (Ht rfl)) (ro rfl (gV U_189 U_254 (Ht rfl) z7) (ro rfl (kQ rfl (Ht rfl) (Ht rfl) (by show _ ≤ 18446744073709551616; first | omega | (simp only [kF]; omega))) ?_)))))
  refine rm rfl (ro rfl (aI.nat (kQ rfl (Ht rfl) (Ht rfl) (by show _ ≤ 18446744073709551616; first | omega | (simp only [kF]; omega))) hx1.symm) (ra rfl (eJ (ts (rm rfl (rm rfl (rm rfl (ro rfl (dW (Ht rfl) (Ht rfl) z6) (rm rfl (ro rfl (eO rfl U_254 U_189 (Ht rfl)) (ro rfl (gX U_47 Z_189 (Ht rfl) (Ht rfl) rfl zo (by rw [Nat.mul_one,Nat.zero_add])) ?_)))))))))))
  refine jX Z_189 (Ht rfl) (Ht rfl) (i:=1) rfl (by first | omega | (simp; omega)) rfl (eJ (cY (rm rfl (ro rfl (dT (Ht rfl) (cJ 63) (by decide)) (ra rfl (eJ (aR (cY (ro rfl (dW (Ht rfl) (cJ 1) z6) (rm rfl (eJ (gQ (i + 1,_,_,_) (hS.next hu hv hq hb hl hp1 (yS hok hbl hx1) rfl) (by dsimp only; omega) (zS rfl) (aU (fun _ _ _ h=>h) (aU (aB (eL _ _ _)) aY))))))))))))))
 ·simp at hb
  have hkl:i = vs.length:=Nat.le_antisymm hS.ile hb
  subst hkl
  have hlen:=hS.len; have hcl:=hS.clt; have hbl:=hS.ble; have hok:=aL hS.dig (j + vs.length)
  obtain ⟨x,hx1⟩:∃ x,x = ((out.getD (j + vs.length) 0 + 18446744073709551616 - c) % 18446744073709551616 + 18446744073709551616 - b) % 18446744073709551616:=⟨_,rfl⟩
  have hfin:=hS.fin hl (yX hok hcl hbl hx1) rfl
  simp only [BB] at hcl hok
  refine gG rfl (ts (rm rfl (rm rfl (rm rfl (ro rfl (dU U_47 (Ht rfl) aA) (ro rfl (dW (Ht rfl) (Ht rfl) z6) (ro rfl (gX U_47 Z_189 (Ht rfl) (Ht rfl) rfl zo (by rw [Nat.mul_one,Nat.zero_add])) ?_)))))))
  refine ro rfl (fX A_189 Z_189 (Ht rfl) (i:=1) rfl (eX (aF zo))) (ro rfl (gV U_189 U_254 (Ht rfl) z7) (rm rfl (ro rfl (kQ rfl (Ht rfl) (Ht rfl) (by show _ ≤ 18446744073709551616; first | omega | (simp only [kF]; omega))) (rm rfl (ro rfl (aI.nat (kQ rfl (Ht rfl) (Ht rfl) (by show _ ≤ 18446744073709551616; first | omega | (simp only [kF]; omega))) hx1.symm) (ra rfl (eJ (ts (rm rfl (rm rfl (rm rfl (ro rfl (dU U_47 (Ht rfl) aA) ?_))))))))))))
  refine ro rfl (dW (Ht rfl) (Ht rfl) z6) (rm rfl (ro rfl (eO rfl U_254 U_189 (Ht rfl)) (ro rfl (gX U_47 Z_189 (Ht rfl) (Ht rfl) rfl zo (by rw [Nat.mul_one,Nat.zero_add])) ?_)))
  refine jX Z_189 (Ht rfl) (Ht rfl) (i:=1) rfl (by first | omega | (simp; omega)) rfl (eJ (ts (rm rfl (ro rfl (dT (Ht rfl) (cJ 63) (by decide)) (ro rfl (gY (Ht rfl) (cJ 0)) (ra rfl (eJ ?_)))))))
  exact iT (_,_) hfin [0,1] ⟨⟨_,rfl,fun _ _ _ h=>h⟩,⟨_,rfl,(aB (eL _ _ _))⟩,trivial⟩ (by decide) (pH rfl (fQ rfl))
theorem Kb {m n:Nat} (hm:(dg m).length ≤ 17592186044415) (hn1:(dg n).length ≤ 17592186044416) (hn:n ≠ 0):aS Tryz.prog 220 [aE m,aE n] (gE [aE (m / n),aE (m % n)]):=by
 refine aS.intro Tryz.func220 rfl Tryz.ntmps220 rfl (fun cx=>(ts (ro rfl (cQ cV) (ro rfl (cQ cV) (eJ (cK (ts (rm rfl (rm rfl (ro rfl (cZ Tryz.call216 (Pz zo zo) ⟨(Ht rfl),(Ht rfl),trivial⟩) (ro rfl (mK (Ht rfl) cV) (eJ (dQ (Ht rfl) (fun hb=>?_) (fun hb=>?_))))))))))))))
 ·simp only [decide_eq_true_eq] at hb
  have hlt : m < n := by
   unfold mG at hb
   split at hb
   ·assumption
   ·split at hb <;> simp at hb
  refine ts (rm rfl (ro rfl (cQ cV) (ra rfl (eJ (bN rfl (fJ (fQ rfl) ?_) (fJ (fQ rfl) ?_))))))
  ·exact (fun v V h=>cF (Nat.div_eq_of_lt hlt).symm v V (jG v V h))
  ·exact (cF (Nat.mod_eq_of_lt hlt).symm)
 ·simp only [decide_eq_false_iff_not] at hb
  have hle : n ≤ m := by
   unfold mG at hb
   split at hb
   ·simp at hb
   ·omega
  clear hb
  refine cU (cK (ts (rm rfl (ro rfl (dU U_47 (Ht rfl) aA) (ro rfl (cT (Ht rfl) (cJ 1)) (eJ (dQ (Ht rfl) (fun h1=>?_) (fun h1=>?_))))))))
  ·simp at h1
   have hy0:=Rf h1
   have hyb:=aL (bA n) 0
   have hmod:=Nat.mod_lt m (show (dg n).getD 0 0 > 0 by omega)
   simp only [BB] at hyb
   refine ts (rm rfl (rm rfl (ro rfl (dZ U_47 Z_189 (Ht rfl) (cJ 0) rfl (eX (aF zo))) (ro rfl (dJ A_189 Z_189 (Ht rfl)) (ro rfl (cZ Tryz.call257 (Ki zo zo hyb) ⟨(Ht rfl),(Ht rfl),trivial⟩) (rm rfl (ro rfl (dY (Ht rfl) rfl) (ro rfl (dY (Ht rfl) rfl) (ra rfl (ra rfl (eJ (ts (rm rfl (rm rfl (ro rfl (gV U_189 U_254 (Ht rfl) z7) (ro rfl (cZ Tryz.call241 (Bj zo) ⟨(Ht rfl),trivial⟩) ?_))))))))))))))))
   refine ra rfl (ra rfl (eJ (bN rfl (fJ (fQ rfl) ?_) (fJ (fQ rfl) ?_))))
   ·exact (cF (by rw [hy0]))
   ·exact (cF (by rw [hy0]))
  ·simp at h1
   have hl0:(dg n).length ≠ 0:=fun e=>hn (aH.1 e)
   have hyb:=aL (bA n) ((dg n).length - 1)
   obtain ⟨s,hs⟩:∃ s,s = 32 - bl ((dg n).getD ((dg n).length - 1) 0):=⟨_,rfl⟩
   obtain ⟨hs1,hvl,hvb⟩:=Ej hn hs
   obtain ⟨hc1,hc2,hc3,hc4⟩:=Ea (m:=m) hs1
   simp only [BB] at hyb
   have hp2:0 < 2 ^ s:=Nat.pow_pos (by decide)
   have hX0:(dg (m * 2 ^ s)).length ≠ 0:=fun e=>(Nat.ne_of_gt (Nat.mul_pos (show 0 < m by omega) hp2)) (aH.1 e)
   have hmono:=gH hle
   refine cU (ts (rm rfl (ro rfl (dU U_47 (Ht rfl) aA) (rm rfl (rm rfl (ro rfl (dU U_47 (Ht rfl) aA) (ro rfl (dK (Ht rfl) (cJ 1) zo z6) (ro rfl (dZ U_47 Z_189 (Ht rfl) (Ht rfl) rfl (eX (aF zo))) (ro rfl (dJ A_189 Z_189 (Ht rfl)) (ro rfl (aI.nat (cZ Tryz.call258 (a0p zo) ⟨(Ht rfl),trivial⟩) hs.symm) (ra rfl (ra rfl (eJ (ts (rm rfl (rm rfl (ro rfl (cZ Tryz.call259 (Zn zo zo) ⟨(Ht rfl),(Ht rfl),trivial⟩) ?_)))))))))))))))))
   refine ra rfl (eJ (ts (rm rfl (ro rfl (dU U_47 (Ht rfl) aA) (ro rfl (dW (Ht rfl) (cJ 1) z6) (rn rfl (dH (T:=bM 0) (i:=Tryz.t189) V_47 gS rfl rfl (Ht rfl) rfl (fun _=>rfl) trivial (by show 4 * _ ≤ _; omega) zo) fun B55=>(ra rfl (eJ (ts (rm rfl (rm rfl (rm rfl (ro rfl (cZ Tryz.call259 (Zn zo zo) ⟨(Ht rfl),(Ht rfl),trivial⟩) (Jh U_47 Z_189 (Ht rfl) (Ht rfl) (Sb hX0) Zu (i:=0) rfl (by simp) (by simp; omega) (Eb _ _) rfl rfl ?_))))))))))))))
   refine eJ (ts (rm rfl (ro rfl (fN U_47 (Ht rfl)) (rm rfl (ro rfl (dK (Ht rfl) (Ht rfl) zo z6) (rn rfl (dH (T:=bM 0) (i:=Tryz.t189) V_47 gS rfl rfl (Ht rfl) rfl (fun _=>rfl) trivial (by show 4 * _ ≤ _; omega) zo) fun B65=>(ra rfl (eJ (cK (ts (rm rfl (ro rfl (fN U_47 (Ht rfl)) (ro rfl (iD (Ht rfl) cV (zL zo)) (ra rfl (eJ (eU ?_))))))))))))))))
   obtain ⟨vs,hvs⟩:∃ vs,vs = dg (n * 2 ^ s):=⟨_,rfl⟩
   rw [← hvs] at hvl hvb
   have hv:jM vs:=hvs ▸ bA _
   have hvv:val vs = n * 2 ^ s:=by rw [hvs,cA]
   have hV0:0 < val vs:=by rw [hvv]; exact Nat.mul_pos zo hp2
   have hnr:=Lk hv zo hvb
   have hv1:=hnr.v1lt; have hv2:=hnr.v2lt; have hbig:=hnr.big
   simp only [BB] at hv1 hv2 hbig
   refine iM (fun (k : Nat) (us : List Nat) (qs : List Nat) => mJ (m * 2 ^ s) vs us qs k ∧ us.length = (dg m).length + 1) (fun (k : Nat) (us : List Nat) (qs : List Nat) => k) (fun (k : Nat) (us : List Nat) (qs : List Nat) => [(8, NT .i64 vs.length), (9, NT .i64 s), (10, rT vs), (11, Is (.slice (some ⟨B55, 0, none⟩) ((dg m).length + 1) ((dg m).length + 1))), (12, Is (.slice (some ⟨B65, 0, none⟩) ((dg m).length + 1 - (dg n).length) ((dg m).length + 1 - (dg n).length))), (13, bC .i64 ((k : Int) - 1))]) (fun (k : Nat) (us : List Nat) (qs : List Nat) => [box B55 189 (us.map bM), box B65 189 (qs.map bM)]) ((dg m).length + 1 - (dg n).length) (xO m s) (List.replicate ((dg m).length + 1 - (dg n).length) 0) ⟨mJ.start hv zo hvb hs1 (by have := iI (bA m); rwa [cA] at this) hc3 hc2 hc4 zo, hc2⟩
    (aZ rfl (lL hvl.symm) (aQ rfl (aZ rfl (fun v V h=>by rw [hvs]; exact h) (aQ rfl (aQ rfl (aZ rfl (bB zo) aX)))))) (aU (fun _ _ _ h=>h) (aU (aB (jN _)) aY)) (fun k us qs ⟨hS,hus⟩=>?_)
   refine cK (ts (rm rfl (ro rfl (kV (Ht rfl) cV) (eJ (dQ (Ht rfl) (fun hk=>?_) (fun hk=>?_))))))
   ·simp at hk
    obtain ⟨j,rfl⟩:∃ j,k = j + 1:=⟨k - 1,by omega⟩
    have htp:=hS.top hv zo (Nat.succ_pos j) rfl
    have hkq:=hS.kle; have hlq:=hS.lenq
    rw [Nat.add_sub_cancel] at htp
    have hu0:=aL hS.dig (j + vs.length); have hu1:=aL hS.dig (j + vs.length - 1); have hu2:=aL hS.dig (j + vs.length - 2)
    have ht64:=Ud hu0 hu1; have hsh:=Fx hu0
    obtain ⟨top,htop⟩:∃ top,top = us.getD (j + vs.length) 0 * BB + us.getD (j + vs.length - 1) 0:=⟨_,rfl⟩
    have hor:=(sE (a:=us.getD (j + vs.length) 0) hu1).trans htop.symm
    rw [← htop] at htp ht64
    have hu2b:=hu2
    simp only [BB] at hu0 hu1 hu2
    refine pP (E':=[(8,_),(9,_),(10,_),(11,_),(12,_),(13,_),(69,_),(70,_)]) (aQ rfl (aQ rfl (aQ rfl (aQ rfl (aQ rfl (aZ rfl (bB (show ((j + 1:Nat):Int) - 1 = (j:Int) by omega)) (zS rfl))))))) (cU (cK (eU (cK (fV (m:=16) (dp 11 rfl (cX (Ht rfl)) (dp 13 rfl (cX (Ht rfl)) (dp 8 rfl (cX (Ht rfl)) (cH 74 1 75 2 rfl (dW (Ht rfl) (Ht rfl) z6) (cH 73 0 76 3 rfl (gX U_47 Z_189 (Ht rfl) (Ht rfl) rfl zo (by rw [Nat.mul_one,Nat.zero_add])) ?_))))))))))
    refine dq 77 4 rfl (fX A_189 Z_189 (Ht rfl) (i:=0) rfl (eX (aF zo))) (dq 78 5 rfl (gV U_189 U_254 (Ht rfl) z7) (dq 79 6 rfl (mB (Ht rfl) (cJ 32) (by decide) hsh) (dp 11 rfl (cX (Ht rfl)) (dp 13 rfl (cX (Ht rfl)) (dp 8 rfl (cX (Ht rfl)) (cH 82 9 83 10 rfl (dW (Ht rfl) (Ht rfl) z6) (dq 84 11 rfl (dK (Ht rfl) (cJ 1) zo z6) ?_)))))))
    refine cH 81 8 85 12 rfl (gX U_47 Z_189 (Ht rfl) (Ht rfl) rfl zo (by rw [Nat.mul_one,Nat.zero_add])) ?_
    refine dq 86 13 rfl (fX A_189 Z_189 (Ht rfl) (i:=0) rfl (eX (aF zo))) (dq 87 14 rfl (gV U_189 U_254 (Ht rfl) z7) (fG aM rfl (by kernel_rfl) (zF (zF (zF (zF (aV (ro rfl (aI.nat (nE rfl (Ht rfl) (Ht rfl) z7 z7) hor) ?_))))))))
    refine ra rfl (eJ (cK (fV (m:=17) (dp 14 rfl (cX (Ht rfl)) (dp 10 rfl (cX (Ht rfl)) (dp 8 rfl (cX (Ht rfl)) (dq 92 2 rfl (dK (Ht rfl) (cJ 1) zo z6) (cH 91 1 93 3 rfl (dZ U_47 Z_189 (Ht rfl) (Ht rfl) rfl (eX (aF zo))) (dq 94 4 rfl (dJ A_189 Z_189 (Ht rfl)) (dq 95 5 rfl (gV U_189 U_254 (Ht rfl) z7) ?_))))))))))
    refine cH 90 0 96 6 rfl (iR (Ht rfl) (Ht rfl) zo (by show _ < 18446744073709551616; exact ht64)) (dp 14 rfl (cX (Ht rfl)) (dp 10 rfl (cX (Ht rfl)) (dp 8 rfl (cX (Ht rfl)) (dq 100 10 rfl (dK (Ht rfl) (cJ 1) zo z6) (cH 99 9 101 11 rfl (dZ U_47 Z_189 (Ht rfl) (Ht rfl) rfl (eX (aF zo))) (dq 102 12 rfl (dJ A_189 Z_189 (Ht rfl)) (dq 103 13 rfl (gV U_189 U_254 (Ht rfl) z7) ?_)))))))
    refine cH 98 8 104 14 rfl (mA (Ht rfl) (Ht rfl) zo) (dq 97 7 rfl (cQ (Ht rfl)) (fG aM rfl (by kernel_rfl) (zF (zF (zF (zF (aJ (aV (ra rfl (eJ (cK (iY (fun (g:Nat)=>Gw (val (us.drop j)) (val vs) g) (fun (g:Nat)=>[(8,NT .i64 vs.length),(9,NT .i64 s),(10,rT vs),(11,Is (.slice (some ⟨B55,0,none⟩) ((dg m).length + 1) ((dg m).length + 1))),(12,Is (.slice (some ⟨B65,0,none⟩) ((dg m).length + 1 - (dg n).length) ((dg m).length + 1 - (dg n).length))),(13,NT .i64 j),(15,NT .u64 g)]) (fun (g:Nat)=>[box B55 189 (us.map bM),box B65 189 (qs.map bM)]) ?_ (fun g hg=>?_)))))))))))))
    ·refine eU ?_
     refine eH (fun (g : Nat) (r : Nat) => kS (val (us.drop j)) (val vs) (vs.getD (vs.length - 1) 0) top g r ∧ r < 4294967296) (fun (g : Nat) (r : Nat) => g) (fun (g : Nat) (r : Nat) => [(8, NT .i64 vs.length), (9, NT .i64 s), (10, rT vs), (11, Is (.slice (some ⟨B55, 0, none⟩) ((dg m).length + 1) ((dg m).length + 1))), (12, Is (.slice (some ⟨B65, 0, none⟩) ((dg m).length + 1 - (dg n).length) ((dg m).length + 1 - (dg n).length))), (13, NT .i64 j), (15, NT .u64 g), (16, NT .u64 r)]) (fun (g : Nat) (r : Nat) => [box B55 189 (us.map bM), box B65 189 (qs.map bM)]) (top / vs.getD (vs.length - 1) 0) (top % vs.getD (vs.length - 1) 0) ⟨kS.start hnr htp, Nat.lt_trans (Nat.mod_lt _ zo) hv1⟩
      (zS rfl) (cL.refl _) (fun g r ⟨hG,hr⟩=>?_)
     have hgl:=(hG.glt hnr htp).1
     have hrs:=Fx (a:=r) hr
     have horr:=sE (a:=r) hu2b
     simp only [BB] at hgl
     refine cK (cK (fV (m:=22) (dp 15 rfl (cX (Ht rfl)) (dq 106 0 rfl (nX (Ht rfl) (cJ 4294967296)) (dq 107 1 rfl (cX (Ht rfl)) (C.D_step (Ei:=[(15,_),(108,_)]) rfl rfl (bV (bK rfl rfl) (bV (bG 2 rfl rfl) bW)) (eY rfl rfl (Ht rfl) (fun h=>cX (Ht rfl))) (C.D_step (Ei:=[(10,_),(108,_)]) rfl rfl (bV (bK rfl rfl) (bV (bG 2 rfl rfl) bW)) (eY rfl rfl (Ht rfl) (fun h=>cX (Ht rfl))) (C.D_step (Ei:=[(8,_),(108,_)]) rfl rfl (bV (bK rfl rfl) (bV (bG 2 rfl rfl) bW)) (eY rfl rfl (Ht rfl) (fun h=>cX (Ht rfl))) ?_))))))))
     refine C.D_step (Ei:=[(111,_),(108,_)]) rfl rfl (bV (bG 5 rfl rfl) (bV (bG 2 rfl rfl) bW)) (eY rfl rfl (Ht rfl) (fun h=>dK (fW rfl h) (cJ 2) (by first | omega | (simp at h; omega)) (by show _ < 9223372036854775808; first | omega | (simp at h; omega)))) (C.D_step (Ei:=[(110,_),(112,_),(108,_)]) rfl rfl (bV (bG 4 rfl rfl) (bV (bG 6 rfl rfl) (bV (bG 2 rfl rfl) bW))) (eY rfl rfl (Ht rfl) (fun h=>dZ U_47 Z_189 (fW rfl h) (fW rfl h) rfl (eX (aF (by first | omega | (simp at h; omega)))))) ?_)
     refine C.D_step (Ei:=[(113,_),(108,_)]) rfl rfl (bV (bG 7 rfl rfl) (bV (bG 2 rfl rfl) bW)) (eY rfl rfl (Ht rfl) (fun h=>dJ A_189 Z_189 (fW rfl h))) (C.D_step (Ei:=[(114,_),(108,_)]) rfl rfl (bV (bG 8 rfl rfl) (bV (bG 2 rfl rfl) bW)) (eY rfl rfl (Ht rfl) (fun h=>gV U_189 U_254 (fW rfl h) (by show _ < 18446744073709551616; first | omega | (simp at h; omega)))) (C.D_step (Ei:=[(109,_),(115,_),(108,_)]) rfl rfl (bV (bG 3 rfl rfl) (bV (bG 9 rfl rfl) (bV (bG 2 rfl rfl) bW))) (eY rfl rfl (Ht rfl) (fun h=>kB (fW rfl h) (fW rfl h) (by show _ < 18446744073709551616; simp at h; exact Zt h hv2))) ?_))
     refine C.D_step (Ei:=[(16,_),(108,_)]) rfl rfl (bV (bK rfl rfl) (bV (bG 2 rfl rfl) bW)) (eY rfl rfl (Ht rfl) (fun h=>cX (Ht rfl))) (C.D_step (Ei:=[(117,_),(108,_)]) rfl rfl (bV (bG 11 rfl rfl) (bV (bG 2 rfl rfl) bW)) (eY rfl rfl (Ht rfl) (fun h=>mB (fW rfl h) (cJ 32) (by decide) hrs)) (C.D_step (Ei:=[(11,_),(108,_)]) rfl rfl (bV (bK rfl rfl) (bV (bG 2 rfl rfl) bW)) (eY rfl rfl (Ht rfl) (fun h=>cX (Ht rfl))) (C.D_step (Ei:=[(13,_),(108,_)]) rfl rfl (bV (bK rfl rfl) (bV (bG 2 rfl rfl) bW)) (eY rfl rfl (Ht rfl) (fun h=>cX (Ht rfl))) ?_)))
     refine C.D_step (Ei:=[(8,_),(108,_)]) rfl rfl (bV (bK rfl rfl) (bV (bG 2 rfl rfl) bW)) (eY rfl rfl (Ht rfl) (fun h=>cX (Ht rfl))) (C.D_step (Ei:=[(120,_),(121,_),(108,_)]) rfl rfl (bV (bG 14 rfl rfl) (bV (bG 15 rfl rfl) (bV (bG 2 rfl rfl) bW))) (eY rfl rfl (Ht rfl) (fun h=>dW (fW rfl h) (fW rfl h) (by show _ < 9223372036854775808; first | omega | (simp at h; omega)))) (C.D_step (Ei:=[(122,_),(108,_)]) rfl rfl (bV (bG 16 rfl rfl) (bV (bG 2 rfl rfl) bW)) (eY rfl rfl (Ht rfl) (fun h=>dK (fW rfl h) (cJ 2) (by first | omega | (simp at h; omega)) (by show _ < 9223372036854775808; first | omega | (simp at h; omega)))) ?_))
     refine C.D_step (Ei:=[(119,_),(123,_),(108,_)]) rfl rfl (bV (bG 13 rfl rfl) (bV (bG 17 rfl rfl) (bV (bG 2 rfl rfl) bW))) (eY rfl rfl (Ht rfl) (fun h=>gX U_47 Z_189 (fW rfl h) (fW rfl h) rfl (by first | omega | (simp at h; omega)) (by rw [Nat.mul_one,Nat.zero_add]))) ?_
     refine C.D_step (Ei:=[(124,_),(108,_)]) rfl rfl (bV (bG 18 rfl rfl) (bV (bG 2 rfl rfl) bW)) (eY rfl rfl (Ht rfl) (fun h=>fX A_189 Z_189 (fW rfl h) (i:=0) rfl (eX (aF zo)))) (C.D_step (Ei:=[(125,_),(108,_)]) rfl rfl (bV (bG 19 rfl rfl) (bV (bG 2 rfl rfl) bW)) (eY rfl rfl (Ht rfl) (fun h=>gV U_189 U_254 (fW rfl h) (by show _ < 18446744073709551616; first | omega | (simp at h; omega)))) (C.D_step (Ei:=[(118,_),(126,_),(108,_)]) rfl rfl (bV (bG 12 rfl rfl) (bV (bG 20 rfl rfl) (bV (bG 2 rfl rfl) bW))) (eY rfl rfl (Ht rfl) (fun h=>aI.nat (nE rfl (fW rfl h) (fW rfl h) (by show _ < 18446744073709551616; first | omega | (simp at h; omega)) (by show _ < 18446744073709551616; first | omega | (simp at h; omega))) horr)) ?_))
     refine fG aM rfl (by kernel_rfl) (zF (zF (zF (zF (zF (aJ (aJ (aV (fZ rfl rfl (eY rfl rfl (Ht rfl) (fun h=>dL (fW rfl h) (fW rfl h))) (ro rfl (iW (Ht rfl) (fun h=>(fW rfl h))) (eJ (dQ (Ht rfl) (fun hc=>?_) (fun hc=>?_)))))))))))))
     ·have hn2 := hG.next hnr htp (by simpa [BB] using hc)
      have hg1:=hn2.2
      refine cU (eU (ts (rm rfl (ro rfl (dK (Ht rfl) (cJ 1) zo z7) (ra rfl (eJ (ts (rm rfl (rm rfl (rm rfl (ro rfl (dK (Ht rfl) (cJ 1) zo z6) (ro rfl (dZ U_47 Z_189 (Ht rfl) (Ht rfl) rfl (eX (aF zo))) (ro rfl (dJ A_189 Z_189 (Ht rfl)) (ro rfl (gV U_189 U_254 (Ht rfl) z7) ?_))))))))))))))
      refine ro rfl (dW (Ht rfl) (Ht rfl) z7) (ra rfl (eJ (ts (rm rfl (ro rfl (nX (Ht rfl) (cJ 4294967296)) (eJ (dQ (Ht rfl) (fun hr2=>?_) (fun hr2=>?_))))))))
      ·simp at hr2
       refine gG rfl (aO (g - 1) (hn2.1.stop hnr htp hr2) (zS rfl) (cL.refl _))
      ·simp at hr2
       refine cU (aR (gQ (g - 1,_) ⟨hn2.1,hr2⟩ (by dsimp only; omega) (zS rfl) (cL.refl _)))
     ·simp at hc
      refine gG rfl (aO g (hG.done hnr htp hc.1 hc.2) (zS rfl) (cL.refl _))
    ·have hglt := hg.lt
     simp only [BB] at hglt
     refine cK (nL (fun (us2:List Nat) (g2:Nat)=>mJ (m * 2 ^ s) vs us2 (qs.set j g2) j ∧ g2 < 4294967296 ∧ us2.length = (dg m).length + 1) (fun (us2:List Nat) (g2:Nat)=>[(8,NT .i64 vs.length),(9,NT .i64 s),(10,rT vs),(11,Is (.slice (some ⟨B55,0,none⟩) ((dg m).length + 1) ((dg m).length + 1))),(12,Is (.slice (some ⟨B65,0,none⟩) ((dg m).length + 1 - (dg n).length) ((dg m).length + 1 - (dg n).length))),(13,NT .i64 j),(15,NT .u64 g2)]) (fun (us2:List Nat) (g2:Nat)=>[box B55 189 (us2.map bM),box B65 189 (qs.map bM)]) ?_ (fun us2 g2 ⟨hD,hg2,hus2⟩=>?_))
     ·refine ts (rm rfl (rm rfl (rm rfl (rm rfl (Jg Tryz.call260 (a0w hus hS.dig hv hg.lt zo zo) (i := 0) rfl ⟨(Ht rfl), (Ht rfl), (Ht rfl), (Ht rfl), trivial⟩ rfl (fun ⟨out, b⟩ hT => ?_))))))
      dsimp only at hT
      refine eJ (dQ (Ht rfl) (fun hbb=>?_) (fun hbb=>?_))
      ·have hbb : b = true := hbb
       subst hbb
       have hg0:=hS.gpos hv rfl zo hT
       have hol:=hT.len
       refine ts (rm rfl (ro rfl (dK (Ht rfl) (cJ 1) zo z7) (ra rfl (eJ (ts (ro rfl (cQ (cJ 0)) (eJ (cK (ts (rm rfl (ro rfl (dU U_47 (Ht rfl) aA) (ro rfl (cX (cJ 0)) (eJ (eU ?_))))))))))))))
       refine iM (fun (i : Nat) (out2 : List Nat) (c : Nat) => pN out vs j out2 i c) (fun (i : Nat) (out2 : List Nat) (c : Nat) => vs.length - i) (fun (i : Nat) (out2 : List Nat) (c : Nat) => [(8, NT .i64 vs.length), (9, NT .i64 s), (10, rT vs), (11, Is (.slice (some ⟨B55, 0, none⟩) ((dg m).length + 1) ((dg m).length + 1))), (12, Is (.slice (some ⟨B65, 0, none⟩) ((dg m).length + 1 - (dg n).length) ((dg m).length + 1 - (dg n).length))), (13, NT .i64 j), (15, NT .u64 (g - 1 : Nat)), (17, NT .u64 c), (149, rT vs), (150, NT .i64 vs.length), (151, NT .i64 i)]) (fun (i : Nat) (out2 : List Nat) (c : Nat) => [box B55 189 (out2.map bM), box B65 189 (qs.map bM)]) 0 out 0 (pN.start hT.dig vs j)
        (zS rfl) (cL.refl _) (fun i out2 c hB=>?_)
       refine ts (ro rfl (gJ (Ht rfl) (Ht rfl)) (eJ (cK (dQ (Ht rfl) (fun hi=>?_) (fun hi=>?_)))))
       ·simp at hi
        have hlen:=hB.len; have hcl:=hB.cle; have hvi:=aL hv i; have hok:=aL hB.dig (i + j)
        simp only [BB] at hvi hok
        refine cU (cK (eU (ts (rm rfl (ro rfl (dZ U_47 Z_189 (Ht rfl) (Ht rfl) rfl (eX (aF zo))) (ro rfl (dJ A_189 Z_189 (Ht rfl)) (ra rfl (ra rfl (eJ (ts (rm rfl (rm rfl (rm rfl (rm rfl (ro rfl (dW (Ht rfl) (Ht rfl) z6) (ro rfl (gX U_47 Z_189 (Ht rfl) (Ht rfl) rfl zo (by rw [Nat.mul_one,Nat.zero_add])) ?_))))))))))))))))
        refine ro rfl (fX A_189 Z_189 (Ht rfl) (i:=0) rfl (eX (aF zo))) (ro rfl (gV U_189 U_254 (Ht rfl) z7) (rm rfl (ro rfl (gV U_189 U_254 (Ht rfl) z7) (ro rfl (dW (Ht rfl) (Ht rfl) z7) (ro rfl (dW (Ht rfl) (Ht rfl) z7) ?_)))))
        refine ra rfl (eJ (ts (rm rfl (rm rfl (rm rfl (ro rfl (dW (Ht rfl) (Ht rfl) z6) (rm rfl (ro rfl (eO rfl U_254 U_189 (Ht rfl)) (ro rfl (gX U_47 Z_189 (Ht rfl) (Ht rfl) rfl zo (by rw [Nat.mul_one,Nat.zero_add])) ?_)))))))))
        refine jX Z_189 (Ht rfl) (Ht rfl) (i:=0) rfl (by first | omega | (simp; omega)) rfl (eJ (cY (rm rfl (ro rfl (dT (Ht rfl) (cJ 32) (by decide)) (ra rfl (eJ (aR (cY (ro rfl (dW (Ht rfl) (cJ 1) z6) (rm rfl (eJ (gQ (i + 1,_,_) (hB.next hv hi zo rfl) (by dsimp only; omega) (zS rfl) (aU (aB (eL _ _ _)) (aU (fun _ _ _ h=>h) aY))))))))))))))
       ·simp at hi
        have hil:i = vs.length:=Nat.le_antisymm hB.ile hi
        subst hil
        have hlen:=hB.len; have hcl:=hB.cle; have hok:=aL hB.dig (j + vs.length)
        have hBk:=hB.fin zo rfl
        obtain ⟨_,hDn⟩:=hS.wrong hv hV0 (Nat.succ_pos j) rfl hg hT hBk
        simp only [BB] at hok
        refine gG rfl (cY (rm rfl (rm rfl (rm rfl (ro rfl (dW (Ht rfl) (Ht rfl) z6) (ro rfl (gX U_47 Z_189 (Ht rfl) (Ht rfl) rfl zo (by rw [Nat.mul_one,Nat.zero_add])) ?_))))))
        refine ro rfl (fX A_189 Z_189 (Ht rfl) (i:=0) rfl (eX (aF zo))) (rm rfl (ro rfl (gV U_254 U_189 (Ht rfl) (by show _ < 4294967296; first | omega | (simp only [kF]; omega))) (ro rfl (Lo rfl (Ht rfl) (Ht rfl)) (ro rfl (gX U_47 Z_189 (Ht rfl) (Ht rfl) rfl zo (by rw [Nat.mul_one,Nat.zero_add])) ?_))))
        refine jX Z_189 (Ht rfl) (Ht rfl) (i:=0) rfl (by first | omega | (simp; omega)) rfl (eJ (aO (_,g - 1) ⟨hDn,by dsimp only; omega,by simp; omega⟩ (zS rfl) (aU (aB (eL _ _ _)) (aU (fun _ _ _ h=>h) aY))))
      ·have hbb : b = false := hbb
       subst hbb
       have hol:=hT.len
       refine cU (aO (out,g) ⟨hS.right hv hV0 (Nat.succ_pos j) rfl hg hT,hglt,by dsimp only; omega⟩ (zS rfl) (cL.refl _))
     ·refine cY (rm rfl (rm rfl (rm rfl (ro rfl (gV U_254 U_189 (Ht rfl) (by show _ < 4294967296; first | omega | (simp only [kF]; omega))) (ro rfl (gX U_47 Z_189 (Ht rfl) (Ht rfl) rfl zo (by rw [Nat.mul_one, Nat.zero_add])) ?_)))))
      refine jX Z_189 (Ht rfl) (Ht rfl) (i:=1) rfl (by first | omega | (simp; omega)) rfl (eJ (aR (cY (rm rfl (ro rfl (iD (Ht rfl) cV (zL zo)) (ra rfl (eJ (gQ (j,us2,_) ⟨hD,hus2⟩ (by dsimp only; omega) (zS rfl) (aU (fun _ _ _ h=>h) (aU (aB (eL _ _ _)) aY))))))))))
   ·simp at hk
    have hk0:k = 0:=by omega
    subst hk0
    have hfin:=hS.fin hV0
    have hlq:=hS.lenq
    rw [hvv] at hfin
    have hdiv:val qs = m / n:=by rw [hfin.1]; exact Nat.mul_div_mul_right _ _ hp2
    have hsm:val us < BB ^ vs.length:=by have h1:=hS.small; rw [List.drop_zero] at h1; exact Nat.lt_trans h1 (iI hv)
    have hmod : val (us.take vs.length) / 2 ^ s = m % n := by
     rw [mR hsm zo,hfin.2,Nat.mul_mod_mul_right,Nat.mul_div_cancel _ hp2]
    have hru : (dg (val (us.take vs.length))).length ≤ 17592186044416 := by
     refine Nat.le_trans (jC (k:=vs.length) ?_) zo
     rw [mR hsm zo]; exact hsm
    refine gG rfl (gW (i:=1) (tt:=12) rfl rfl (kE rfl zo (Nat.le_refl _)) (gW (i:=0) (tt:=11) rfl rfl (kE rfl zo (Nat.le_refl _)) (cK (fV (m:=7) (dp 12 rfl (cX (Ht rfl)) (dq 193 0 rfl (cZ K_221 (oT _ hS.digq zo) ⟨(Ht rfl),trivial⟩) (dp 11 rfl (cX (Ht rfl)) (dp 8 rfl (cX (Ht rfl)) (cH 195 2 196 3 rfl (aI.imp (rI U_47 Z_189 (Ht rfl) (Ht rfl) (fun m e=>by cases e) zo (by simp; omega) rfl) (Kv _ _)) ?_)))))))))
    refine dq 197 4 rfl (cZ K_221 (oT _ (hS.dig.take' vs.length) (by simp; omega)) ⟨(Ht rfl),trivial⟩) ?_
    refine dp 9 rfl (cX (Ht rfl)) (fG aM rfl (by kernel_rfl) (zF (aJ (aJ (aJ (aV (ro rfl (cZ Tryz.call261 (a1r hru zo) ⟨(Ht rfl),(Ht rfl),trivial⟩) (ra rfl (ra rfl (eJ (bN rfl (fJ (fQ rfl) ?_) (fJ (fQ rfl) ?_))))))))))))
    ·exact (cF hdiv)
    ·exact (cF hmod)
end
section
open Go Go.RowKit
theorem Rv:Tryz.prog.info? 5 = some Tryz.t5:=by kernel_rfl
theorem wT:Tryz.prog.underlying 293 = some (.slice 5):=by kernel_rfl
theorem Zv:Tryz.prog.underlying 5 = some (.int .u8):=by kernel_rfl
theorem Zw:Tryz.prog.underlying 9 = some (.string):=by kernel_rfl
end
section
open Go Go.RowKit
theorem Zl {m n:Nat} (hm:(dg m).length ≤ 17592186044415) (hn:(dg n).length ≤ 17592186044415):aS Tryz.prog 218 [aE m,aE n] (aE (Nat.gcd m n)):=by
 refine aS.intro Tryz.func218 rfl Tryz.ntmps218 rfl (fun cx=>(ts (ro rfl (cQ cV) (eJ (cK (eU ?_))))))
 refine eH (fun (x : Nat) (y : Nat) => Nat.gcd x y = Nat.gcd m n ∧ (dg x).length ≤ 17592186044415 ∧ (dg y).length ≤ 17592186044415) (fun (x : Nat) (y : Nat) => y) (fun (x : Nat) (y : Nat) => [(0, aE x), (1, aE y)]) (fun (x : Nat) (y : Nat) => []) m n ⟨rfl, hm, hn⟩
  (zS rfl) aY (fun x y ⟨hg,hx,hy⟩=>?_)
 refine cK (ts (rm rfl (ro rfl (dU U_47 (Ht rfl) aA) (ro rfl (dL (Ht rfl) (cJ 0)) (eJ (dQ (Ht rfl) (fun hb=>?_) (fun hb=>?_)))))))
 ·simp at hb
  have hy0:y ≠ 0:=fun e=>by rw [e,dI] at hb; simp at hb
  have hlt:=Nat.mod_lt x (Nat.pos_of_ne_zero hy0)
  refine cU (eU (ts (rm rfl (rm rfl (ro rfl (cZ Tryz.call220 (Kb hx zo hy0) ⟨(Ht rfl),(Ht rfl),trivial⟩) (rm rfl (ro rfl (dY (Ht rfl) rfl) (ro rfl (dY (Ht rfl) rfl) (ra rfl (ra rfl (eJ (cY (rm rfl (rm rfl (ra rfl (ra rfl (eJ (aR (gQ (y,x % y) ⟨by rw [← hg,Nat.gcd_comm x y,Nat.gcd_rec y x,Nat.gcd_comm],hy,Nat.le_trans (gH (Nat.le_of_lt hlt)) hy⟩ hlt (zS rfl) aY)))))))))))))))))))
 ·simp at hb
  have hy0:y = 0:=aH.1 (by simpa using hb)
  subst hy0
  rw [Nat.gcd_zero_right] at hg
  refine gG rfl (ts (rm rfl (ra rfl (eJ (fK rfl (fJ (fQ rfl) ?_))))))
  exact (cF hg)
theorem a1q {l:List Nat} {v:Value} (hl:l.length ≤ 1152921504606846976):fT Tryz.prog 276 [Is v] [bO 5 1 v (l.map vD)] Unit (fun _=>nH) (fun _=>[bO 5 1 v (l.reverse.map vD)]) (fun _=>True):=by
 refine fT.intro Tryz.func276 rfl Tryz.ntmps276 rfl (fun cx Z=>(ts (rm rfl (ro rfl (rH U_293 (Ht rfl) (i:=1) rfl aA) (ro rfl (iD (Ht rfl) cV (zL zo)) (ro rfl (cQ (cJ 0)) (ra rfl (eJ (eU ?_)))))))))
 refine eH (fun (k : Nat) (o : List Nat) => xC l o k) (fun (k : Nat) (o : List Nat) => l.length - k) (fun (k : Nat) (o : List Nat) => [(0, Is v), (2, NT .i64 k), (3, bC .i64 ((l.length : Int) - 1 - (k : Int)))]) (fun (k : Nat) (o : List Nat) => [Z, bO 5 1 v (o.map vD)]) 0 l (xC.start l)
  (aQ rfl (aQ rfl (aZ rfl (bB zo) aX))) (cL.refl _) (fun k o hS=>?_)
 refine cK (ts (rm rfl (rm rfl (ro rfl (mK (Ht rfl) (Ht rfl)) (eJ (dQ (Ht rfl) (fun hb=>?_) (fun hb=>?_)))))))
 ·simp only [decide_eq_true_eq] at hb
  have hk:2 * k + 1 < l.length:=by omega
  obtain ⟨j,hj⟩:∃ j,j = l.length - 1 - k:=⟨_,rfl⟩
  have hlen:=hS.len
  refine pP (E':=[(0,_),(2,_),(3,_),(7,_),(8,_),(9,_)]) (aQ rfl (aQ rfl (aZ rfl (bB (show (l.length:Int) - 1 - (k:Int) = (j:Int) by omega)) (zS rfl)))) (cU (cK (eU (W.D_start (m:=14) (fun b=>cond b ([Z,bO 5 1 v ((o.map vD).set k (vD (o.getD j 0)))]) _) 13 (W.D_step (Ei:=[(0,_)]) rfl rfl (W.Srcs.cons (W.Src.pre rfl rfl) W.Srcs.nil) rfl (by kernel_rfl) (dX rfl (cX (Ht rfl))) (W.D_step (Ei:=[(2,_)]) rfl rfl (W.Srcs.cons (W.Src.pre rfl rfl) W.Srcs.nil) rfl (by kernel_rfl) (dX rfl (cX (Ht rfl))) ?_))))))
  refine W.D_pure (Ei:=[(0,_)]) rfl rfl (W.Srcs.cons (W.Src.pre rfl rfl) W.Srcs.nil) rfl (fun _=>dX rfl (cX (Ht rfl))) (W.D_pure (Ei:=[(3,_)]) rfl rfl (W.Srcs.cons (W.Src.pre rfl rfl) W.Srcs.nil) rfl (fun _=>dX rfl (cX (Ht rfl))) (W.D_step (Ei:=[(0,_)]) rfl rfl (W.Srcs.cons (W.Src.pre rfl rfl) W.Srcs.nil) rfl (by kernel_rfl) (dX rfl (cX (Ht rfl))) (W.D_step (Ei:=[(3,_)]) rfl rfl (W.Srcs.cons (W.Src.pre rfl rfl) W.Srcs.nil) rfl (by kernel_rfl) (dX rfl (cX (Ht rfl))) (W.D_step (Ei:=[(18,_),(19,_)]) rfl rfl (W.Srcs.cons (W.Src.op 4 rfl rfl) (W.Srcs.cons (W.Src.op 5 rfl rfl) W.Srcs.nil)) rfl (by kernel_rfl) (dX rfl (dM U_293 Z_5 (Ht rfl) (Ht rfl) rfl (i:=1) rfl (by first | omega | (simp; omega)) rfl)) ?_))))
  refine W.D_step (Ei:=[(20,_)]) rfl rfl (W.Srcs.cons (W.Src.op 6 rfl rfl) W.Srcs.nil) rfl (by kernel_rfl) (dX rfl (lR Tryz.isAgg5 Z_5 (Ht rfl) (i:=1) rfl rfl (eX (aF zo)))) (W.D_step (Ei:=[(0,_)]) rfl rfl (W.Srcs.cons (W.Src.pre rfl rfl) W.Srcs.nil) rfl (by kernel_rfl) (dX rfl (cX (Ht rfl))) (W.D_step (Ei:=[(2,_)]) rfl rfl (W.Srcs.cons (W.Src.pre rfl rfl) W.Srcs.nil) rfl (by kernel_rfl) (dX rfl (cX (Ht rfl))) (W.D_step (Ei:=[(22,_),(23,_)]) rfl rfl (W.Srcs.cons (W.Src.op 8 rfl rfl) (W.Srcs.cons (W.Src.op 9 rfl rfl) W.Srcs.nil)) rfl (by kernel_rfl) (dX rfl (dM U_293 Z_5 (Ht rfl) (Ht rfl) rfl (i:=1) rfl (by first | omega | (simp; omega)) rfl)) ?_)))
  refine W.D_step (Ei:=[(24,_)]) rfl rfl (W.Srcs.cons (W.Src.op 10 rfl rfl) W.Srcs.nil) rfl (by kernel_rfl) (dX rfl (lR Tryz.isAgg5 Z_5 (Ht rfl) (i:=1) rfl rfl (eX (aF zo)))) (W.D_step (Ei:=[(14,_),(15,_)]) rfl rfl (W.Srcs.cons (W.Src.op 0 rfl rfl) (W.Srcs.cons (W.Src.op 1 rfl rfl) W.Srcs.nil)) rfl (by kernel_rfl) (dX rfl (dM U_293 Z_5 (Ht rfl) (Ht rfl) rfl (i:=1) rfl (by first | omega | (simp; omega)) rfl)) (W.D_put (Ei:=[(26,_),(21,_)]) rfl rfl (W.Srcs.cons (W.Src.op 12 rfl rfl) (W.Srcs.cons (W.Src.op 7 rfl rfl) W.Srcs.nil)) rfl (Ow Z_5 (Ht rfl) (Ht rfl) El.one (i:=1) rfl rfl (by first | omega | (simp; omega))) ?_))
  refine W.D_done aM rfl (by kernel_rfl) rfl (W.F_val (W.F_val (W.F_val (W.F_val (W.F_val (W.F_val (W.F_val (W.F_val (W.F_val (W.F_val (W.F_val (W.F_val (W.F_val (W.F_put (W.F_nil (ro rfl (dM U_293 Z_5 (Ht rfl) (Ht rfl) rfl (i:=1) rfl (by first | omega | (simp; omega)) rfl) (mY Z_5 (Ht rfl) (Ht rfl) El.one (i:=1) rfl rfl (by first | omega | (simp; omega)) rfl (eJ (aR (cY (rm rfl (ro rfl (dW (Ht rfl) (cJ 1) z6) (rm rfl (ro rfl (iD (Ht rfl) cV (zL zo)) ?_))))))))))))))))))))))))
  refine ra rfl (ra rfl (eJ (gQ (k + 1,_) (hS.next hk hj) (by dsimp only; omega) (aQ rfl (aQ rfl (aZ rfl (bB zo) aX))) (aU (fun _ _ _ h=>h) (aU (bT (Mg _ _ _ _ _)) aY)))))
 ·simp only [decide_eq_false_iff_not] at hb
  have hfin:=hS.fin (by have:=hS.kle; omega)
  refine gG rfl ?_
  exact a05 () trivial [0,1] ⟨⟨_,rfl,fun _ _ _ h=>h⟩,⟨_,rfl,(bT (by rw [hfin]))⟩,trivial⟩ (by decide) (a1S rfl (fun _=>trivial))
theorem Di {m:Nat} (hm:(dg m).length ≤ 8796093022208):aS Tryz.prog 249 [aE m] (oE (rP m)):=by
 refine aS.intro Tryz.func249 rfl Tryz.ntmps249 rfl (fun cx=>(ts (ro rfl (cQ (bD.cS (l:=[]) rfl)) (eJ (cK (ts (rm rfl (ro rfl (dU U_47 (Ht rfl) aA) (ro rfl (cT (Ht rfl) (cJ 0)) (eJ (dQ (Ht rfl) (fun hb=>?_) (fun hb=>?_))))))))))))
 ·simp at hb
  have h0:m = 0:=aH.1 (by simpa using hb)
  subst h0
  refine ts (ro rfl (cQ (bD.cS (l:=[48]) rfl)) (eJ (fK rfl (fJ (fQ rfl) ?_))))
  exact (iU rfl)
 ·simp at hb
  have h0:m ≠ 0:=fun e=>hb (by rw [e,dI])
  refine cU (ts (ro rfl (cQ cV) (eJ (cK (eU (xG 5 1 ?_))))))
  refine iM (fun (x : Nat) (out : List Nat) (v : Value) => wY m out x ∧ x ≤ m) (fun (x : Nat) (out : List Nat) (v : Value) => x) (fun (x : Nat) (out : List Nat) (v : Value) => [(0, aE x), (3, Is v)]) (fun (x : Nat) (out : List Nat) (v : Value) => [bO 5 1 v (out.map vD)]) m [] (.slice none 0 0) ⟨wY.start m, Nat.le_refl m⟩
   (zS rfl) (cL.refl _) (fun x out v ⟨hO,hle⟩=>?_)
  refine cK (ts (rm rfl (ro rfl (dU U_47 (Ht rfl) aA) (ro rfl (dL (Ht rfl) (cJ 0)) (eJ (dQ (Ht rfl) (fun hc=>?_) (fun hc=>?_)))))))
  ·simp at hc
   have hx0:x ≠ 0:=fun e=>by rw [e,dI] at hc; simp at hc
   have hxm:=gH hle
   refine cU (eU (ts (ro rfl (cQ (cJ 0)) (eJ (ts (rm rfl (ro rfl (cZ Tryz.call257 (Ki zo (by decide) (by decide)) ⟨(Ht rfl),(cJ 1000000000),trivial⟩) (rm rfl (ro rfl (dY (Ht rfl) rfl) (ro rfl (dY (Ht rfl) rfl) (ra rfl (ra rfl (eJ (ts (ro rfl (cQ (cJ 0)) (eJ (eU ?_)))))))))))))))))
   refine vY (fun (r : Nat) (k : Nat) (out : List Nat) (v : Value) => vQ m out (x / 1000000000) r k) (fun (r : Nat) (k : Nat) (out : List Nat) (v : Value) => 9 - k) (fun (r : Nat) (k : Nat) (out : List Nat) (v : Value) => [(0, aE (x / 1000000000)), (3, Is v), (4, bM r), (5, NT .i64 k)]) (fun (r : Nat) (k : Nat) (out : List Nat) (v : Value) => [bO 5 1 v (out.map vD)]) (x % 1000000000) 0 out v (hO.inner)
    (zS rfl) (cL.refl _) (fun r k out v hI=>?_)
   refine cK (ts (rm rfl (ro rfl (gJ (Ht rfl) (cJ 9)) (rm rfl (fZ rfl rfl (jY rfl rfl (Ht rfl) (fun h=>cX (Ht rfl))) (fZ rfl rfl (jY rfl rfl (Ht rfl) (fun h=>dU U_47 (bD.wu rfl h) aA)) (fZ rfl rfl (jY rfl rfl (Ht rfl) (fun h=>dL (bD.wu rfl h) (cJ 0))) (fZ rfl rfl (jY rfl rfl (Ht rfl) (fun h=>cX (bD.wu rfl h))) (fZ rfl rfl (nK rfl rfl rfl (fun h h2=>cX (Ht rfl))) (fZ rfl rfl (nK rfl rfl rfl (fun h h2=>dL (bD.wu rfl ⟨h,h2⟩) (cJ 0))) (fZ rfl rfl (jY rfl rfl (Ht rfl) (fun h=>iW (bD.wu rfl h) (fun h2=>(bD.wu rfl ⟨h,h2⟩)))) ?_)))))))))))
   refine ro rfl (dP (Ht rfl) (fun h=>(bD.wu rfl h))) (eJ (dQ (Ht rfl) (fun hd=>?_) (fun hd=>?_)))
   ·simp at hd
    have hxr:0 < x / 1000000000 ∨ 0 < r:=hd.2.imp (fun h=>Nat.pos_of_ne_zero (fun e=>by rw [e,dI] at h; simp at h)) id
    have hln:=hI.len hxr
    have hr32:=hI.r32
    refine cU (cK (eU (ts (rm rfl (rm rfl (ro rfl (mA (Ht rfl) (cJ 10) zo) (ro rfl (dW (cJ 48) (Ht rfl) (by show _ < 4294967296; first | omega | (simp only [kF]; omega))) (ro rfl (gV U_189 U_5 (Ht rfl) (by show _ < 256; first | omega | (simp only [kF]; omega))) (ro rfl (dA (xs:=[.tmp 34]) U_293 Z_5 Tryz.zeroValue5 (cW (Ht rfl) cG) rfl rfl rfl) (oD (inf:=Tryz.t5) wT Rv rfl rfl rfl (Ht rfl) (Ht rfl) (i:=0) rfl (by simp) (fun T hT=>by simp at hT; subst hT; exact El.one) (by show _ * 1 ≤ _; simp only [List.length_map,List.length_cons,List.length_nil]; omega) (by simp only [List.length_map,List.length_cons,List.length_nil]; omega) rfl (fun v2=>?_)))))))))))
    refine ra rfl (eJ (cY (rm rfl (ro rfl (iR (Ht rfl) (cJ 10) zo (by show _ < 4294967296; first | omega | (simp only [kF]; omega))) (ra rfl (eJ (aR (cY (rm rfl (ro rfl (dW (Ht rfl) (cJ 1) z6) (ra rfl (eJ (gQ (r / 10,k + 1,_,v2) (hI.next hd.1 hxr) (by dsimp only; omega) (zS rfl) (aU (bT (Uf _ _)) aY))))))))))))))
   ·simp at hd
    have hO2 := hI.fin (fun ⟨h1, h2⟩ => by
     have h3:=hd h1
     rcases h2 with h2 | h2
     ·have:=oI.1 h3.1; omega
     ·omega)
    refine gG rfl (aR (gQ (x / 1000000000,_,_) ⟨hO2,Nat.le_trans (Nat.div_le_self _ _) hle⟩ (Nat.div_lt_self (Nat.pos_of_ne_zero hx0) (by decide)) (zS rfl) (cL.refl _)))
  ·simp at hc
   have hx0:x = 0:=aH.1 (by simpa using hc)
   subst hx0
   have hfin:=hO.fin
   have hdl:=nQ m
   rw [hfin] at hdl
   refine gG rfl (ts (rm rfl (Jg Tryz.call276 (a1q zo) (i:=0) rfl ⟨(Ht rfl),trivial⟩ rfl (fun _ _=>(eJ (cK (gW (i:=0) (tt:=3) rfl rfl kN (cY (rm rfl (ro rfl (Fk wT Zv Zw (Ht rfl) (by rw [← hfin]; simpa using Kt h0) (fun b hb=>Qv (n:=m) b (by rw [qX h0,hfin]; exact hb))) ?_))))))))))
   refine ra rfl (eJ (fK rfl (fJ (fQ rfl) ?_)))
   exact (iU (by rw [qX h0,hfin]))
end
section
open Go Go.RowKit
theorem rW {n : Nat} {E : cD} {H : Hp} {d : Option Tmp} {t : TypeId} {pos : String} {af : Array Edge} {g : Option (Nat × Bool)} {x0 x1 : Operand} {T0 T1 : Ty} [s0 : dE T0 1 false] (h0 : bD E x0 T0) [s1 : dE T1 1 false] (h1 : bD E x1 T1) :
  aI Tryz.prog n E H ⟨d,.build 49 #[(0,x0),(1,x1)],t,pos,af,g⟩ (eM [T0,T1]) :=
 fC (parts := [(0, x0), (1, x1)]) fun a V w hs => by
  have p0:=h0 n V a hs
  generalize e0:a.eval x0 = v0 at p0
  have q0:=(s0.ok v0 V p0).2.2 rfl
  have p1:=h1 n V a hs
  generalize e1:a.eval x1 = v1 at p1
  have q1:=(s1.ok v1 V p1).2.2 rfl
  refine ⟨.agg #[v0,v1],?_,[v0,v1],rfl,aW (⟨p0,q0⟩) (aW (⟨p1,q1⟩) (aG))⟩
  simp [e0,e1,Instr.build,Instr.fill,Sem.run_bind,Result.andThen,dS,q0.cells,q1.cells,O_49,U_49,Z_4,Z_47]
theorem kA (a:Addr) (w:World):(Instr.fieldAt 49 (.pointer (some a)) 0).run Tryz.prog w = .ok (.pointer (some (a.add 0))) w:=by
 simp [Instr.fieldAt,Instr.sureAddr,fieldPlace,Sem.run_bind,Result.andThen,U_49,Z_4]
theorem eN (a:Addr) (w:World):(Instr.fieldAt 49 (.pointer (some a)) 1).run Tryz.prog w = .ok (.pointer (some (a.add 1))) w:=by
 simp [Instr.fieldAt,Instr.sureAddr,fieldPlace,Sem.run_bind,Result.andThen,U_49,Z_47]
end
section
open Go Go.RowKit
theorem Bk {n:Int} (h1:-9223372036854775808 ≤ n) (h2:n ≤ 9223372036854775807):aS Tryz.prog 177 [bC .i64 n] (dF n):=by
 refine aS.intro Tryz.func177 rfl Tryz.ntmps177 rfl (fun cx=>(ts (rn rfl (eK (Ts:=[Is (.bool false),Is (.slice none 0 0)]) O_49 rfl (fun V=>aW zd (aW zd (aG)))) fun B2=>(eJ (cK (ts (rm rfl (ro rfl (mK (Ht rfl) cV) (eJ (dQ (Ht rfl) (fun hb=>?_) (fun hb=>?_)))))))))))
 ·have hn : n < 0 := by simpa using hb
  refine ts (rm rfl (ro rfl (rG U_2 U_254 (Ht rfl) (r:=((18446744073709551616 - n.natAbs:Nat):Int)) (by rw [IntKind.wrap_u64]; omega)) ?_))
  refine ro rfl (Sv (Ht rfl) (r:=((n.natAbs:Nat):Int)) (by rw [IntKind.wrap_u64]; omega)) ?_
  refine ro rfl (cZ Tryz.call241 (Bj zo) ⟨(Ht rfl),trivial⟩) (ro rfl (rW cV (Ht rfl)) (gZ Z_49 (Ht rfl) (Ht rfl) rfl (i:=0) rfl (aK rfl) rfl rfl (eJ (fK rfl (fJ (fY A_49 Z_49 rfl (i:=0) rfl rfl) ?_)))))
  exact (lP (by rw [hb]; rfl))
 ·have hn : ¬ n < 0 := by simpa using hb
  refine cU (ts (rm rfl (ro rfl (rG U_2 U_254 (Ht rfl) (r:=((n.natAbs:Nat):Int)) (by rw [IntKind.wrap_u64]; omega)) ?_)))
  refine ro rfl (cZ Tryz.call241 (Bj zo) ⟨(Ht rfl),trivial⟩) (ro rfl (rW cV (Ht rfl)) (gZ Z_49 (Ht rfl) (Ht rfl) rfl (i:=0) rfl (aK rfl) rfl rfl (eJ (fK rfl (fJ (fY A_49 Z_49 rfl (i:=0) rfl rfl) ?_)))))
  exact (lP (by rw [hb]; rfl))
theorem mT {b:Bool} {m:Nat}:aS Tryz.prog 214 [aC b,aE m] (dF (vM b m)):=by
 refine aS.intro Tryz.func214 rfl Tryz.ntmps214 rfl (fun cx=>(ts (rn rfl (eK (Ts:=[Is (.bool false),Is (.slice none 0 0)]) O_49 rfl (fun V=>aW zd (aW zd (aG)))) fun B4=>(eJ (ts (rm rfl (rm rfl (fZ rfl rfl (eY rfl rfl (Ht rfl) (fun h=>cX (Ht rfl))) (fZ rfl rfl (eY rfl rfl (Ht rfl) (fun h=>dU U_47 (fW rfl h) aA)) (fZ rfl rfl (eY rfl rfl (Ht rfl) (fun h=>dL (fW rfl h) (cJ 0))) (ro rfl (dP (Ht rfl) (fun h=>(fW rfl h))) (rm rfl ?_))))))))))))
 refine ro rfl (rW (Ht rfl) (Ht rfl)) (gZ Z_49 (Ht rfl) (Ht rfl) rfl (i:=0) rfl (aK rfl) rfl rfl (eJ (fK rfl (fJ (fY A_49 Z_49 rfl (i:=0) rfl rfl) ?_))))
 exact Tu
theorem nO {x:Int}:aS Tryz.prog 135 [dF x] (dF (-x)):=by
 refine aS.intro Tryz.func135 rfl Tryz.ntmps135 rfl (fun cx=>(ts (rn rfl (fU (Ht rfl)) fun B1=>(rn rfl (eK (Ts:=[Is (.bool false),Is (.slice none 0 0)]) O_49 rfl (fun V=>aW zd (aW zd (aG)))) fun B2=>(eJ (ts (ro rfl (eW kA (Ht rfl) rfl) (ro rfl (fX A_4 Z_4 (Ht rfl) (i:=0) rfl rfl) (ro rfl (dR (Ht rfl)) (ro rfl (eW eN (Ht rfl) rfl) (ro rfl (fX A_47 Z_47 (Ht rfl) (i:=0) rfl rfl) (ro rfl (cZ K_214 mT ⟨(Ht rfl),(Ht rfl),trivial⟩) ?_))))))))))))
 refine gZ Z_49 (Ht rfl) (Ht rfl) rfl (i:=1) rfl (aK rfl) rfl rfl (eJ (fK rfl (fJ (fY A_49 Z_49 rfl (i:=1) rfl rfl) ?_)))
 exact (jW (Av x))
theorem rY {x y:Int} (hx:(dg x.natAbs).length ≤ 17592186044416) (hy:(dg y.natAbs).length ≤ 17592186044416):aS Tryz.prog 133 [dF x,dF y] (dF (x + y)):=by
 refine aS.intro Tryz.func133 rfl Tryz.ntmps133 rfl (fun cx=>(ts (rn rfl (fU (Ht rfl)) fun B2=>(rn rfl (fU (Ht rfl)) fun B3=>(rn rfl (eK (Ts:=[Is (.bool false),Is (.slice none 0 0)]) O_49 rfl (fun V=>aW zd (aW zd (aG)))) fun B4=>(eJ (cK (ts (ro rfl (eW kA (Ht rfl) rfl) (ro rfl (fX A_4 Z_4 (Ht rfl) (i:=0) rfl rfl) (ro rfl (eW kA (Ht rfl) rfl) (ro rfl (fX A_4 Z_4 (Ht rfl) (i:=1) rfl rfl) (ro rfl (In U_4 (Ht rfl) (Ht rfl)) ?_)))))))))))))
 refine eJ (dQ (Ht rfl) (fun hb=>?_) (fun hb=>?_))
 ·have he : decide (x < 0) = decide (y < 0) := by simpa using hb
  refine cK (fV (m:=7) (dp 2 rfl (eW kA (Ht rfl) rfl) (dq 10 0 rfl (fX A_4 Z_4 (Ht rfl) (i:=0) rfl rfl) (dp 2 rfl (eW eN (Ht rfl) rfl) (dq 12 2 rfl (fX A_47 Z_47 (Ht rfl) (i:=0) rfl rfl) (dp 3 rfl (eW eN (Ht rfl) rfl) (dq 14 4 rfl (fX A_47 Z_47 (Ht rfl) (i:=1) rfl rfl) (cH 13 3 15 5 rfl (cZ Tryz.call215 (a1l zo zo) ⟨(Ht rfl),(Ht rfl),trivial⟩) (fG aM rfl (by kernel_rfl) (zF (aJ (aJ (aJ (aV ?_))))))))))))))
  refine ro rfl (cZ K_214 mT ⟨(Ht rfl),(Ht rfl),trivial⟩) (gZ Z_49 (Ht rfl) (Ht rfl) rfl (i:=2) rfl (aK rfl) rfl rfl (eJ (fK rfl (fJ (fY A_49 Z_49 rfl (i:=2) rfl rfl) ?_))))
  exact (jW (Fw he))
 ·have he : decide (x < 0) ≠ decide (y < 0) := by simpa using hb
  refine cU (cK (ts (ro rfl (eW eN (Ht rfl) rfl) (ro rfl (fX A_47 Z_47 (Ht rfl) (i:=0) rfl rfl) (ro rfl (eW eN (Ht rfl) rfl) (ro rfl (fX A_47 Z_47 (Ht rfl) (i:=1) rfl rfl) (ro rfl (cZ Tryz.call216 (Pz zo zo) ⟨(Ht rfl),(Ht rfl),trivial⟩) (ro rfl (kV (Ht rfl) cV) (eJ (dQ (Ht rfl) (fun hc=>?_) (fun hc=>?_)))))))))))
  ·have hle : y.natAbs ≤ x.natAbs := Bo (by simpa using hc)
   refine cK (fV (m:=7) (dp 2 rfl (eW kA (Ht rfl) rfl) (dq 24 0 rfl (fX A_4 Z_4 (Ht rfl) (i:=0) rfl rfl) (dp 2 rfl (eW eN (Ht rfl) rfl) (dq 26 2 rfl (fX A_47 Z_47 (Ht rfl) (i:=0) rfl rfl) (dp 3 rfl (eW eN (Ht rfl) rfl) (dq 28 4 rfl (fX A_47 Z_47 (Ht rfl) (i:=1) rfl rfl) (cH 27 3 29 5 rfl (cZ Tryz.call217 (Zo zo zo) ⟨(Ht rfl),(Ht rfl),trivial⟩) (fG aM rfl (by kernel_rfl) (zF (aJ (aJ (aJ (aV ?_))))))))))))))
   refine ro rfl (cZ K_214 mT ⟨(Ht rfl),(Ht rfl),trivial⟩) (gZ Z_49 (Ht rfl) (Ht rfl) rfl (i:=2) rfl (aK rfl) rfl rfl (eJ (fK rfl (fJ (fY A_49 Z_49 rfl (i:=2) rfl rfl) ?_))))
   exact (jW (tJ he hle))
  ·have hle : x.natAbs ≤ y.natAbs := Nat.le_of_lt (Bp (by simpa using hc))
   refine cU (cK (fV (m:=7) (dp 3 rfl (eW kA (Ht rfl) rfl) (dq 32 0 rfl (fX A_4 Z_4 (Ht rfl) (i:=1) rfl rfl) (dp 3 rfl (eW eN (Ht rfl) rfl) (dq 34 2 rfl (fX A_47 Z_47 (Ht rfl) (i:=1) rfl rfl) (dp 2 rfl (eW eN (Ht rfl) rfl) (dq 36 4 rfl (fX A_47 Z_47 (Ht rfl) (i:=0) rfl rfl) (cH 35 3 37 5 rfl (cZ Tryz.call217 (Zo zo zo) ⟨(Ht rfl),(Ht rfl),trivial⟩) (fG aM rfl (by kernel_rfl) (zF (aJ (aJ (aJ (aV ?_)))))))))))))))
   refine ro rfl (cZ K_214 mT ⟨(Ht rfl),(Ht rfl),trivial⟩) (gZ Z_49 (Ht rfl) (Ht rfl) rfl (i:=2) rfl (aK rfl) rfl rfl (eJ (fK rfl (fJ (fY A_49 Z_49 rfl (i:=2) rfl rfl) ?_))))
   exact (jW (by rw [tJ (Ne.symm he) hle,Int.add_comm]))
theorem nP {x y:Int} (hx:(dg x.natAbs).length ≤ 17592186044416) (hy:(dg y.natAbs).length ≤ 17592186044416):aS Tryz.prog 132 [dF x,dF y] (dF (x * y)):=by
 refine aS.intro Tryz.func132 rfl Tryz.ntmps132 rfl (fun cx=>(ts (rn rfl (fU (Ht rfl)) fun B2=>(rn rfl (fU (Ht rfl)) fun B3=>(rn rfl (eK (Ts:=[Is (.bool false),Is (.slice none 0 0)]) O_49 rfl (fun V=>aW zd (aW zd (aG)))) fun B4=>(eJ (cK (fV (m:=10) (dp 2 rfl (eW kA (Ht rfl) rfl) (dq 5 0 rfl (fX A_4 Z_4 (Ht rfl) (i:=0) rfl rfl) (dp 3 rfl (eW kA (Ht rfl) rfl) (dq 7 2 rfl (fX A_4 Z_4 (Ht rfl) (i:=1) rfl rfl) (cH 6 1 8 3 rfl (Ci U_4 (Ht rfl) (Ht rfl)) ?_)))))))))))))
 refine dp 2 rfl (eW eN (Ht rfl) rfl) (dq 10 5 rfl (fX A_47 Z_47 (Ht rfl) (i:=0) rfl rfl) (dp 3 rfl (eW eN (Ht rfl) rfl) (dq 12 7 rfl (fX A_47 Z_47 (Ht rfl) (i:=1) rfl rfl) (cH 11 6 13 8 rfl (cZ K_138 (zT zo zo) ⟨(Ht rfl),(Ht rfl),trivial⟩) (fG aM rfl (by kernel_rfl) (zF (zF (aJ (aJ (aV (ro rfl (cZ K_214 mT ⟨(Ht rfl),(Ht rfl),trivial⟩) (gZ Z_49 (Ht rfl) (Ht rfl) rfl (i:=2) rfl (aK rfl) rfl rfl ?_))))))))))))
 refine eJ (fK rfl (fJ (fY A_49 Z_49 rfl (i:=2) rfl rfl) ?_))
 exact (jW (Aw x y))
theorem kK {x:Int} {n:Nat} (hx:(dg x.natAbs).length ≤ 17592186044416) (hn:(dg n).length ≤ 17592186044416):aS Tryz.prog 136 [dF x,aE n] (dF (x * n)):=by
 refine aS.intro Tryz.func136 rfl Tryz.ntmps136 rfl (fun cx=>(ts (rn rfl (fU (Ht rfl)) fun B2=>(rn rfl (eK (Ts:=[Is (.bool false),Is (.slice none 0 0)]) O_49 rfl (fun V=>aW zd (aW zd (aG)))) fun B4=>(eJ (cK (fV (m:=6) (dp 2 rfl (eW kA (Ht rfl) rfl) (dq 5 0 rfl (fX A_4 Z_4 (Ht rfl) (i:=0) rfl rfl) (dp 2 rfl (eW eN (Ht rfl) rfl) (dq 7 2 rfl (fX A_47 Z_47 (Ht rfl) (i:=0) rfl rfl) (dp 1 rfl (cX (Ht rfl)) (cH 8 3 9 4 rfl (cZ K_138 (zT zo zo) ⟨(Ht rfl),(Ht rfl),trivial⟩) ?_)))))))))))))
 refine fG aM rfl (by kernel_rfl) (zF (aJ (aJ (aV (ro rfl (cZ K_214 mT ⟨(Ht rfl),(Ht rfl),trivial⟩) (gZ Z_49 (Ht rfl) (Ht rfl) rfl (i:=1) rfl (aK rfl) rfl rfl (eJ (fK rfl (fJ (fY A_49 Z_49 rfl (i:=1) rfl rfl) ?_)))))))))
 exact (jW (Iu x n))
theorem Bn {x y:Int} (hx:(dg x.natAbs).length ≤ 17592186044415) (hy:(dg y.natAbs).length ≤ 17592186044415):aS Tryz.prog 176 [dF x,dF y] (bC .i64 (gL x y)):=by
 have hny:=oX y
 have hs:=jA (x:=x) (y:=-y) hx zo
 refine aS.intro Tryz.func176 rfl Tryz.ntmps176 rfl (fun cx=>(ts (rn rfl (fU (Ht rfl)) fun B2=>(rn rfl (fU (Ht rfl)) fun B3=>(ro rfl (cQ (cJ 0)) (eJ (cK (fV (m:=5) (dp 2 rfl (eG A_49 Z_49 (Ht rfl) (i:=0) rfl rfl rfl) (dp 3 rfl (eG A_49 Z_49 (Ht rfl) (i:=1) rfl rfl rfl) (dq 7 1 rfl (cZ K_135 nO ⟨(Ht rfl),trivial⟩) (cH 6 0 8 2 rfl (cZ K_133 (rY zo zo) ⟨(Ht rfl),(Ht rfl),trivial⟩) (C.D_new (Ei:=[]) rfl rfl rfl bW (eK (Ts:=[Is (.bool false),Is (.slice none 0 0)]) O_49 rfl (fun V=>aW zd (aW zd (aG)))) ?_)))))))))))))
 refine fG aM rfl (by kernel_rfl) (zF (C.F_new (fun B5=>aV (gZ Z_49 (Ht rfl) (Ht rfl) rfl (i:=2) rfl (aK rfl) rfl rfl (eJ (cK (ts (ro rfl (eW kA (Ht rfl) rfl) (ro rfl (fX A_4 Z_4 (Ht rfl) (i:=2) rfl rfl) (eJ (dQ (Ht rfl) (fun hb=>?_) (fun hb=>?_))))))))))))
 ·have hn : x + -y < 0 := by simpa using hb
  refine ts (ro rfl (cQ cV) (eJ (fK rfl (fJ (fQ rfl) ?_))))
  exact (bB (Vq hn))
 ·have hn : ¬ x + -y < 0 := by simpa using hb
  refine cU (ts (ro rfl (eW eN (Ht rfl) rfl) (ro rfl (fX A_47 Z_47 (Ht rfl) (i:=2) rfl rfl) (ro rfl (dU U_47 (Ht rfl) aA) (ro rfl (Lq (Ht rfl) (cJ 1)) (ra rfl (eJ (fK rfl (fJ (fQ rfl) ?_)))))))))
  exact (bB (Vp hn))
end
section
open Go Go.RowKit
theorem Pr {n : Nat} {E : cD} {H : Hp} {d : Option Tmp} {t : TypeId} {pos : String} {af : Array Edge} {g : Option (Nat × Bool)} {x0 : Operand} {T0 T1 : Ty} (h0 : bD E x0 (eM [T0, T1])) :
  aI Tryz.prog n E H ⟨d,.build 51 #[(0,x0)],t,pos,af,g⟩ (eM [T0,T1,Is (.bool false),Is (.slice none 0 0),Is (.slice none 0 0)]) :=
 fC (parts := [(0, x0)]) fun a V w hs => by
  obtain ⟨v0,e0,c0⟩:=h0 n V a hs
  obtain ⟨c0_0,c0_1,rfl⟩:∃ c0_0 c0_1,v0 = [c0_0,c0_1]:=vG (by simpa using c0.length)
  refine ⟨.agg #[c0_0,c0_1,(.bool false),(.slice none 0 0),(.slice none 0 0)],?_,[c0_0,c0_1,(.bool false),(.slice none 0 0),(.slice none 0 0)],rfl,aW (c0.at (i:=0) rfl rfl) (aW (c0.at (i:=1) rfl rfl) (aW (⟨rfl,trivial⟩) (aW (⟨rfl,trivial⟩) (aW (⟨rfl,trivial⟩) (aG)))))⟩
  simp [e0,Instr.build,Instr.fill,Sem.run_bind,Result.andThen,dS,O_51,U_51,Z_47,Z_49]
theorem oS {n : Nat} {E : cD} {H : Hp} {d : Option Tmp} {t : TypeId} {pos : String} {af : Array Edge} {g : Option (Nat × Bool)} {x0 x1 x2 : Operand} {T0 T1 T2 T3 T4 : Ty} (h0 : bD E x0 (eM [T0, T1])) (h1 : bD E x1 (eM [T2, T3])) [s2 : dE T4 1 false] (h2 : bD E x2 T4) :
  aI Tryz.prog n E H ⟨d,.build 51 #[(0,x0),(1,x1),(2,x2)],t,pos,af,g⟩ (eM [T0,T1,T2,T3,T4]) :=
 fC (parts := [(0, x0), (1, x1), (2, x2)]) fun a V w hs => by
  obtain ⟨v0,e0,c0⟩:=h0 n V a hs
  obtain ⟨c0_0,c0_1,rfl⟩:∃ c0_0 c0_1,v0 = [c0_0,c0_1]:=vG (by simpa using c0.length)
  obtain ⟨v1,e1,c1⟩:=h1 n V a hs
  obtain ⟨c1_0,c1_1,rfl⟩:∃ c1_0 c1_1,v1 = [c1_0,c1_1]:=vG (by simpa using c1.length)
  have p2:=h2 n V a hs
  generalize e2:a.eval x2 = v2 at p2
  have q2:=(s2.ok v2 V p2).2.2 rfl
  refine ⟨.agg #[c0_0,c0_1,c1_0,c1_1,v2],?_,[c0_0,c0_1,c1_0,c1_1,v2],rfl,aW (c0.at (i:=0) rfl rfl) (aW (c0.at (i:=1) rfl rfl) (aW (c1.at (i:=0) rfl rfl) (aW (c1.at (i:=1) rfl rfl) (aW (⟨p2,q2⟩) (aG)))))⟩
  simp [e0,e1,e2,Instr.build,Instr.fill,Sem.run_bind,Result.andThen,dS,q2.cells,O_51,U_51,Z_47,Z_49]
theorem fD (a:Addr) (w:World):(Instr.fieldAt 51 (.pointer (some a)) 0).run Tryz.prog w = .ok (.pointer (some (a.add 0))) w:=by
 simp [Instr.fieldAt,Instr.sureAddr,fieldPlace,Sem.run_bind,Result.andThen,U_51,Z_49]
theorem gA (a:Addr) (w:World):(Instr.fieldAt 51 (.pointer (some a)) 1).run Tryz.prog w = .ok (.pointer (some (a.add 2))) w:=by
 simp [Instr.fieldAt,Instr.sureAddr,fieldPlace,Sem.run_bind,Result.andThen,U_51,Z_49]
theorem nR (a:Addr) (w:World):(Instr.fieldAt 51 (.pointer (some a)) 2).run Tryz.prog w = .ok (.pointer (some (a.add 4))) w:=by
 simp [Instr.fieldAt,Instr.sureAddr,fieldPlace,Sem.run_bind,Result.andThen,U_51,Z_47]
end
section
open Go Go.RowKit
theorem rX {A B:Int} {D:Nat} (hD:0 < D) (hA:(dg A.natAbs).length ≤ 17592186044415) (hB:(dg B.natAbs).length ≤ 17592186044415) (hD2:(dg D).length ≤ 17592186044415):aS Tryz.prog 134 [dF A,dF B,aE D] (aP (Qi.mk' A B D)):=by
 have hg1:=xT hA hB
 have hg2:=xT hg1 hD2
 have hgp:Nat.gcd (Nat.gcd A.natAbs B.natAbs) D ≠ 0:=fun e=>by have:=Nat.gcd_eq_zero_iff.1 e; omega
 refine aS.intro Tryz.func134 rfl Tryz.ntmps134 rfl (fun cx=>(ts (rn rfl (fU (Ht rfl)) fun B3=>(rn rfl (fU (Ht rfl)) fun B4=>(rn rfl (eK (Ts:=[Is (.bool false),Is (.slice none 0 0),Is (.bool false),Is (.slice none 0 0),Is (.slice none 0 0)]) O_51 rfl (fun V=>aW zd (aW zd (aW zd (aW zd (aW zd (aG))))))) fun B6=>(eJ (ts (ro rfl (eW eN (Ht rfl) rfl) (ro rfl (fX A_47 Z_47 (Ht rfl) (i:=0) rfl rfl) ?_)))))))))
 refine ro rfl (eW eN (Ht rfl) rfl) (ro rfl (fX A_47 Z_47 (Ht rfl) (i:=1) rfl rfl) (ro rfl (cZ Tryz.call218 (Zl zo zo) ⟨(Ht rfl),(Ht rfl),trivial⟩) (rm rfl (ro rfl (cZ Tryz.call218 (Zl zo zo) ⟨(Ht rfl),(Ht rfl),trivial⟩) (ra rfl (eJ (cK (iY (fun (uu:Unit)=>True) (fun (uu:Unit)=>[(2,aE (D / (Nat.gcd (Nat.gcd A.natAbs B.natAbs) D))),(3,cC B3 0),(4,cC B4 0),(6,cC B6 0)]) (fun (uu:Unit)=>[box B3 49 [aC (decide (A < 0)),aE (A.natAbs / (Nat.gcd (Nat.gcd A.natAbs B.natAbs) D))],box B4 49 [aC (decide (B < 0)),aE (B.natAbs / (Nat.gcd (Nat.gcd A.natAbs B.natAbs) D))],box B6 51 [Is (.bool false),Is (.slice none 0 0),Is (.bool false),Is (.slice none 0 0),Is (.slice none 0 0)]]) ?_ (fun uu _=>?_)))))))))
 ·refine ts (rm rfl (ro rfl (cZ Tryz.call219 Zm ⟨(Ht rfl), trivial⟩) (ro rfl (dR (Ht rfl)) (eJ (dQ (Ht rfl) (fun hb => ?_) (fun hb => ?_))))))
  ·simp at hb
   refine ts (ro rfl (eW eN (Ht rfl) rfl) (ro rfl (fX A_47 Z_47 (Ht rfl) (i:=0) rfl rfl) (rm rfl (ro rfl (cZ Tryz.call220 (Kb zo zo zo) ⟨(Ht rfl),(Ht rfl),trivial⟩) (rm rfl (ro rfl (dY (Ht rfl) rfl) (ro rfl (dY (Ht rfl) rfl) (ro rfl (eW eN (Ht rfl) rfl) (jX Z_47 (Ht rfl) (Ht rfl) (i:=0) rfl (aK rfl) rfl (eJ (ts (ro rfl (eW eN (Ht rfl) rfl) (ro rfl (fX A_47 Z_47 (Ht rfl) (i:=1) rfl rfl) (rm rfl (ro rfl (cZ Tryz.call220 (Kb zo zo zo) ⟨(Ht rfl),(Ht rfl),trivial⟩) ?_)))))))))))))))
   refine rm rfl (ro rfl (dY (Ht rfl) rfl) (ro rfl (dY (Ht rfl) rfl) (ro rfl (eW eN (Ht rfl) rfl) (jX Z_47 (Ht rfl) (Ht rfl) (i:=1) rfl (aK rfl) rfl (eJ (cY (rm rfl (rm rfl (ro rfl (cZ Tryz.call220 (Kb zo zo zo) ⟨(Ht rfl),(Ht rfl),trivial⟩) (rm rfl (ro rfl (dY (Ht rfl) rfl) (ro rfl (dY (Ht rfl) rfl) (ra rfl (eJ (aO () trivial (zS rfl) (aU (aB (by first | rfl | simp)) (aU (aB (by first | rfl | simp)) (aU (aB rfl) aY))))))))))))))))))
  ·simp at hb
   refine cU (aO () trivial (aZ rfl (cF (by rw [hb,Nat.div_one])) (zS rfl)) (aU (aB (by rw [hb,Nat.div_one])) (aU (aB (by rw [hb,Nat.div_one])) (aU (aB rfl) aY))))
 ·refine cK (iY (fun (uu : Unit) => True) (fun (uu : Unit) => [(2, aE (if D / (Nat.gcd (Nat.gcd A.natAbs B.natAbs) D) = 1 then 0 else D / (Nat.gcd (Nat.gcd A.natAbs B.natAbs) D))), (3, cC B3 0), (4, cC B4 0), (6, cC B6 0)]) (fun (uu : Unit) => [box B3 49 [aC (decide (A < 0)), aE (A.natAbs / (Nat.gcd (Nat.gcd A.natAbs B.natAbs) D))], box B4 49 [aC (decide (B < 0)), aE (B.natAbs / (Nat.gcd (Nat.gcd A.natAbs B.natAbs) D))], box B6 51 [Is (.bool false), Is (.slice none 0 0), Is (.bool false), Is (.slice none 0 0), Is (.slice none 0 0)]]) ?_ (fun uu _ => ?_))
  ·refine ts (rm rfl (ro rfl (cZ Tryz.call219 Zm ⟨(Ht rfl), trivial⟩) (eJ (dQ (Ht rfl) (fun hb => ?_) (fun hb => ?_)))))
   ·simp only [decide_eq_true_eq] at hb
    refine cY (ro rfl (cQ cV) (eJ (aO () trivial (aZ rfl (fun v V h=>cF (by rw [if_pos hb]) v V (jG v V h)) (zS rfl)) (cL.refl _))))
   ·simp only [decide_eq_false_iff_not] at hb
    refine cU (aO () trivial (aZ rfl (cF (by rw [if_neg hb])) (zS rfl)) (cL.refl _))
  ·refine ts (ro rfl (eG A_49 Z_49 (Ht rfl) (i := 0) rfl rfl rfl) (ro rfl (eG A_49 Z_49 (Ht rfl) (i := 1) rfl rfl rfl) (rm rfl (ro rfl (oS (Ht rfl) (Ht rfl) (Ht rfl)) (gZ Z_51 (Ht rfl) (Ht rfl) rfl (i := 2) rfl (aK rfl) rfl rfl (eJ (fK rfl (fJ (fY A_51 Z_51 rfl (i := 2) rfl rfl) ?_))))))))
   exact (Xs hD)
theorem mL {x:Qi}:aS Tryz.prog 137 [aP x] (aE x.den):=by
 refine aS.intro Tryz.func137 rfl Tryz.ntmps137 rfl (fun cx=>(ts (rn rfl (fU (Ht rfl)) fun B1=>(ro rfl (cQ cV) (eJ (cK (ts (ro rfl (eW nR (Ht rfl) rfl) (ro rfl (fX A_47 Z_47 (Ht rfl) (i:=0) rfl rfl) (ro rfl (dU U_47 (Ht rfl) aA) (ro rfl (cT (Ht rfl) (cJ 0)) (eJ (dQ (Ht rfl) (fun hb=>?_) (fun hb=>?_))))))))))))))
 ·simp at hb
  have h1:x.den = 1:=wF (aH.1 (by simpa using hb))
  refine ts (ro rfl (dA (xs:=[_]) U_47 Z_189 O_189 (cW (cJ 1) cG) rfl rfl rfl) (ra rfl (eJ (fK rfl (fJ (fQ rfl) ?_)))))
  exact (fun v V h=>cF h1.symm v V (yH v V h))
 ·simp at hb
  have h1:du x = x.den:=sY (fun e=>hb (by simp [e,dI]))
  refine cU (ts (ro rfl (eW nR (Ht rfl) rfl) (ro rfl (fX A_47 Z_47 (Ht rfl) (i:=0) rfl rfl) (ra rfl (eJ (fK rfl (fJ (fQ rfl) ?_)))))))
  exact (cF h1)
theorem pR {n:Int} (h1:-9223372036854775808 ≤ n) (h2:n ≤ 9223372036854775807):aS Tryz.prog 77 [bC .i64 n] (aP (Qi.ofInt n)):=by
 refine aS.intro Tryz.func77 rfl Tryz.ntmps77 rfl (fun cx=>(ts (rn rfl (eK (Ts:=[Is (.bool false),Is (.slice none 0 0),Is (.bool false),Is (.slice none 0 0),Is (.slice none 0 0)]) O_51 rfl (fun V=>aW zd (aW zd (aW zd (aW zd (aW zd (aG))))))) fun B2=>(eJ (ts (rm rfl (ro rfl (cZ Tryz.call177 (Bk h1 h2) ⟨(Ht rfl),trivial⟩) (ro rfl (Pr (Ht rfl)) (gZ Z_51 (Ht rfl) (Ht rfl) rfl (i:=0) rfl (aK rfl) rfl rfl ?_)))))))))
 refine eJ (fK rfl (fJ (fY A_51 Z_51 rfl (i:=0) rfl rfl) ?_))
 exact Lm
theorem a1j {p q d:Int} (p1:-9223372036854775808 ≤ p) (p2:p ≤ 9223372036854775807) (q1:-9223372036854775808 ≤ q) (q2:q ≤ 9223372036854775807) (d1:-9223372036854775808 ≤ d) (d2:d ≤ 9223372036854775807) (hd:d ≠ 0):aS Tryz.prog 141 [bC .i64 p,bC .i64 q,bC .i64 d] (gE [aP (Qi.frac p q d),bC .i64 0]):=by
 have lp:=Ng p1 p2; have lq:=Ng q1 q2; have ld:=Ng d1 d2; have np:=oX p; have nq:=oX q
 refine aS.intro Tryz.func141 rfl Tryz.ntmps141 rfl (fun cx=>(ts (rn rfl (eK (Ts:=[Is (.bool false),Is (.slice none 0 0),Is (.bool false),Is (.slice none 0 0),Is (.slice none 0 0)]) O_51 rfl (fun V=>aW zd (aW zd (aW zd (aW zd (aW zd (aG))))))) fun B6=>(ro rfl (cQ (cJ 0)) (eJ (cK (ts (rm rfl (ro rfl (iH (Ht rfl) cV) (eJ (jZ (Ht rfl) (by simp [hd]) ?_)))))))))))
 refine cU (ts (rm rfl (ro rfl (cZ Tryz.call177 (Bk p1 p2) ⟨(Ht rfl),trivial⟩) (rm rfl (ro rfl (cZ Tryz.call177 (Bk q1 q2) ⟨(Ht rfl),trivial⟩) (rm rfl (ro rfl (cZ Tryz.call177 (Bk d1 d2) ⟨(Ht rfl),trivial⟩) (rn rfl (eK (Ts:=[Is (.bool false),Is (.slice none 0 0)]) O_49 rfl (fun V=>aW zd (aW zd (aG)))) fun B8=>(rn rfl (eK (Ts:=[Is (.bool false),Is (.slice none 0 0)]) O_49 rfl (fun V=>aW zd (aW zd (aG)))) fun B9=>?_)))))))))
 refine rn rfl (eK (Ts:=[Is (.bool false),Is (.slice none 0 0)]) O_49 rfl (fun V=>aW zd (aW zd (aG)))) fun B10=>gZ Z_49 (Ht rfl) (Ht rfl) rfl (i:=1) rfl (aK rfl) rfl rfl (gZ Z_49 (Ht rfl) (Ht rfl) rfl (i:=2) rfl (aK rfl) rfl rfl (gZ Z_49 (Ht rfl) (Ht rfl) rfl (i:=3) rfl (aK rfl) rfl rfl (eJ (cK (nL (fun (a:Int) (b:Int)=>Qi.mk' a b d.natAbs = Qi.frac p q d ∧ (dg a.natAbs).length ≤ 2 ∧ (dg b.natAbs).length ≤ 2) (fun (a:Int) (b:Int)=>[(6,cC B6 0),(8,cC B8 0),(9,cC B9 0),(10,cC B10 0)]) (fun (a:Int) (b:Int)=>[box B6 51 [Is (.bool false),Is (.slice none 0 0),Is (.bool false),Is (.slice none 0 0),Is (.slice none 0 0)],box B8 49 [aC (decide (a < 0)),aE (a).natAbs],box B9 49 [aC (decide (b < 0)),aE (b).natAbs],box B10 49 [aC (decide (d < 0)),aE (d).natAbs]]) ?_ (fun a b ⟨hab,ha,hb⟩=>?_))))))
 ·refine ts (ro rfl (eW kA (Ht rfl) rfl) (ro rfl (fX A_4 Z_4 (Ht rfl) (i := 3) rfl rfl) (eJ (dQ (Ht rfl) (fun hn => ?_) (fun hn => ?_)))))
  ·simp only [decide_eq_true_eq] at hn
   refine fV (m:=3) (dp 8 rfl (eG A_49 Z_49 (Ht rfl) (i:=1) rfl rfl rfl) (dq 22 0 rfl (cZ K_135 nO ⟨(Ht rfl),trivial⟩) (dp 9 rfl (eG A_49 Z_49 (Ht rfl) (i:=2) rfl rfl rfl) (fG aM rfl (by kernel_rfl) (aJ (aJ (aJ (aV (ro rfl (cZ K_135 nO ⟨(Ht rfl),trivial⟩) (gZ Z_49 (Ht rfl) (Ht rfl) rfl (i:=1) rfl (aK rfl) rfl rfl (gZ Z_49 (Ht rfl) (Ht rfl) rfl (i:=2) rfl (aK rfl) rfl rfl (eJ (aO (-p,-q) ⟨Qi.frac_neg hn,by dsimp only; omega,by dsimp only; omega⟩ (zS rfl) (aU (aB rfl) (aU (aB rfl) (aU (aB rfl) (aU (aB rfl) aY)))))))))))))))))
  ·simp only [decide_eq_false_iff_not] at hn
   refine cU (aO (p,q) ⟨Qi.frac_pos hn hd,by omega,by omega⟩ (zS rfl) (cL.refl _))
 ·refine ts (ro rfl (eG A_49 Z_49 (Ht rfl) (i := 1) rfl rfl rfl) (ro rfl (eG A_49 Z_49 (Ht rfl) (i := 2) rfl rfl rfl) (ro rfl (eW eN (Ht rfl) rfl) (ro rfl (fX A_47 Z_47 (Ht rfl) (i := 3) rfl rfl) (ro rfl (cZ K_134 (rX zo zo zo zo) ⟨(Ht rfl), (Ht rfl), (Ht rfl), trivial⟩) (gZ Z_51 (Ht rfl) (Ht rfl) rfl (i := 0) rfl (aK rfl) rfl rfl (ro rfl (cQ (cJ 0)) (eJ (bN rfl (fJ (fY A_51 Z_51 rfl (i := 0) rfl rfl) ?_) (fQ rfl))))))))))
  exact (kU hab)
theorem xI {x y:Qi} {L M:Nat} [hx:aD x L] [hy:aD y M] (h:L + M + 1 ≤ 17592186044415):aS Tryz.prog 46 [aP x,aP y] (aP (x + y)):=by
 have hxa:=iE hx.fit; have hxb:=iL hx.fit; have hxd:=iF hx.fit
 have hya:=iE hy.fit; have hyb:=iL hy.fit; have hyd:=iF hy.fit
 have hxp:=x.den_pos; have hyp:=y.den_pos; have hdp:=Nat.mul_pos hxp hyp
 have e1:=dC x.a y.den; have e2:=dC y.a x.den; have e3:=dC x.b y.den; have e4:=dC y.b x.den; have e5:=oW x.den y.den
 have e6:=jA (x:=x.a * y.den) (y:=y.a * x.den) (L:=L + M) zo zo; have e7:=jA (x:=x.b * y.den) (y:=y.b * x.den) (L:=L + M) zo zo
 refine aS.intro Tryz.func46 rfl Tryz.ntmps46 rfl (fun cx=>(ts (rn rfl (fU (Ht rfl)) fun B2=>(rn rfl (fU (Ht rfl)) fun B3=>(rn rfl (eK (Ts:=[Is (.bool false),Is (.slice none 0 0),Is (.bool false),Is (.slice none 0 0),Is (.slice none 0 0)]) O_51 rfl (fun V=>aW zd (aW zd (aW zd (aW zd (aW zd (aG))))))) fun B4=>(eJ (cK (fV (m:=3) (dp 2 rfl (eG A_51 Z_51 (Ht rfl) (i:=0) rfl rfl rfl) (dq 7 0 rfl (cZ K_137 mL ⟨(Ht rfl),trivial⟩) ?_))))))))))
 refine dp 3 rfl (eG A_51 Z_51 (Ht rfl) (i:=1) rfl rfl rfl) (fG aM rfl (by kernel_rfl) (aJ (aJ (aJ (aV (ro rfl (cZ K_137 mL ⟨(Ht rfl),trivial⟩) (ra rfl (ra rfl (eJ (cK (fV (m:=20) (dp 2 rfl (eW fD (Ht rfl) rfl) (dq 11 0 rfl (eG A_49 Z_49 (Ht rfl) (i:=0) rfl rfl rfl) (dp 6 rfl (cX (Ht rfl)) (cH 12 1 13 2 rfl (cZ K_136 (kK zo zo) ⟨(Ht rfl),(Ht rfl),trivial⟩) (dp 3 rfl (eW fD (Ht rfl) rfl) (dq 15 4 rfl (eG A_49 Z_49 (Ht rfl) (i:=1) rfl rfl rfl) ?_)))))))))))))))))
 refine dp 5 rfl (cX (Ht rfl)) (cH 16 5 17 6 rfl (cZ K_136 (kK zo zo) ⟨(Ht rfl),(Ht rfl),trivial⟩) (cH 14 3 18 7 rfl (cZ K_133 (rY zo zo) ⟨(Ht rfl),(Ht rfl),trivial⟩) (dp 2 rfl (eW gA (Ht rfl) rfl) (dq 20 9 rfl (eG A_49 Z_49 (Ht rfl) (i:=0) rfl rfl rfl) (dp 6 rfl (cX (Ht rfl)) (cH 21 10 22 11 rfl (cZ K_136 (kK zo zo) ⟨(Ht rfl),(Ht rfl),trivial⟩) (dp 3 rfl (eW gA (Ht rfl) rfl) (dq 24 13 rfl (eG A_49 Z_49 (Ht rfl) (i:=1) rfl rfl rfl) ?_))))))))
 refine dp 5 rfl (cX (Ht rfl)) (cH 25 14 26 15 rfl (cZ K_136 (kK zo zo) ⟨(Ht rfl),(Ht rfl),trivial⟩) (cH 23 12 27 16 rfl (cZ K_133 (rY zo zo) ⟨(Ht rfl),(Ht rfl),trivial⟩) (dp 5 rfl (cX (Ht rfl)) (dp 6 rfl (cX (Ht rfl)) (fG aM rfl (by kernel_rfl) (zF (zF (zF (zF (zF (aV (ro rfl (cZ K_138 (zT zo zo) ⟨(Ht rfl),(Ht rfl),trivial⟩) ?_))))))))))))
 refine ro rfl (cZ K_134 (rX (by first | assumption | omega) zo zo zo) ⟨(Ht rfl),(Ht rfl),(Ht rfl),trivial⟩) (gZ Z_51 (Ht rfl) (Ht rfl) rfl (i:=2) rfl (aK rfl) rfl rfl (eJ (fK rfl (fJ (fY A_51 Z_51 rfl (i:=2) rfl rfl) ?_))))
 exact (kU (Qi.mk_add x y))
theorem Jx {x:Qi}:aS Tryz.prog 140 [aP x] (aP (-x)):=by
 refine aS.intro Tryz.func140 rfl Tryz.ntmps140 rfl (fun cx=>(ts (rn rfl (fU (Ht rfl)) fun B1=>(rn rfl (eK (Ts:=[Is (.bool false),Is (.slice none 0 0),Is (.bool false),Is (.slice none 0 0),Is (.slice none 0 0)]) O_51 rfl (fun V=>aW zd (aW zd (aW zd (aW zd (aW zd (aG))))))) fun B2=>(eJ (cK (fV (m:=8) (dp 1 rfl (eW fD (Ht rfl) rfl) (dq 3 0 rfl (eG A_49 Z_49 (Ht rfl) (i:=0) rfl rfl rfl) (dq 4 1 rfl (cZ K_135 nO ⟨(Ht rfl),trivial⟩) ?_))))))))))
 refine dp 1 rfl (eW gA (Ht rfl) rfl) (dq 6 3 rfl (eG A_49 Z_49 (Ht rfl) (i:=0) rfl rfl rfl) (dq 7 4 rfl (cZ K_135 nO ⟨(Ht rfl),trivial⟩) (dp 1 rfl (eW nR (Ht rfl) rfl) (dq 9 6 rfl (fX A_47 Z_47 (Ht rfl) (i:=0) rfl rfl) (fG aM rfl (by kernel_rfl) (zF (zF (aV (ro rfl (oS (Ht rfl) (Ht rfl) (Ht rfl)) (gZ Z_51 (Ht rfl) (Ht rfl) rfl (i:=1) rfl (aK rfl) rfl rfl (eJ (fK rfl (fJ (fY A_51 Z_51 rfl (i:=1) rfl rfl) ?_)))))))))))))
 exact (lP (by obtain ⟨e1,e2,e3⟩:=Qi.neg_a x; rw [e1,e2,Zs e3]; rfl))
theorem xJ {x:Qi}:aS Tryz.prog 175 [aP x] (aP x.conj):=by
 refine aS.intro Tryz.func175 rfl Tryz.ntmps175 rfl (fun cx=>(ts (rn rfl (fU (Ht rfl)) fun B1=>(rn rfl (eK (Ts:=[Is (.bool false),Is (.slice none 0 0),Is (.bool false),Is (.slice none 0 0),Is (.slice none 0 0)]) O_51 rfl (fun V=>aW zd (aW zd (aW zd (aW zd (aW zd (aG))))))) fun B2=>(eJ (cK (fV (m:=7) (dp 1 rfl (eW fD (Ht rfl) rfl) (dq 3 0 rfl (eG A_49 Z_49 (Ht rfl) (i:=0) rfl rfl rfl) (dp 1 rfl (eW gA (Ht rfl) rfl) ?_))))))))))
 refine dq 5 2 rfl (eG A_49 Z_49 (Ht rfl) (i:=0) rfl rfl rfl) (dq 6 3 rfl (cZ K_135 nO ⟨(Ht rfl),trivial⟩) (dp 1 rfl (eW nR (Ht rfl) rfl) (dq 8 5 rfl (fX A_47 Z_47 (Ht rfl) (i:=0) rfl rfl) (fG aM rfl (by kernel_rfl) (zF (aJ (aJ (aJ (aV (ro rfl (oS (Ht rfl) (Ht rfl) (Ht rfl)) (gZ Z_51 (Ht rfl) (Ht rfl) rfl (i:=1) rfl (aK rfl) rfl rfl (eJ (fK rfl (fJ (fY A_51 Z_51 rfl (i:=1) rfl rfl) ?_))))))))))))))
 exact (lP (by obtain ⟨e1,e2,e3⟩:=Qi.conj_a x; rw [e1,e2,Zs e3]; rfl))
theorem Jz {x y:Qi} {L M:Nat} [hx:aD x L] [hy:aD y M] (h:L + M + 1 ≤ 17592186044415):aS Tryz.prog 44 [aP x,aP y] (aP (x - y)):=by
 have hxa:=iE hx.fit; have hxb:=iL hx.fit; have hxd:=iF hx.fit
 have hya:=iE hy.fit; have hyb:=iL hy.fit; have hyd:=iF hy.fit
 have hxp:=x.den_pos; have hyp:=y.den_pos; have hdp:=Nat.mul_pos hxp hyp
 refine aS.intro Tryz.func44 rfl Tryz.ntmps44 rfl (fun cx=>(ts (rn rfl (fU (Ht rfl)) fun B2=>(rn rfl (fU (Ht rfl)) fun B3=>(rn rfl (eK (Ts:=[Is (.bool false),Is (.slice none 0 0),Is (.bool false),Is (.slice none 0 0),Is (.slice none 0 0)]) O_51 rfl (fun V=>aW zd (aW zd (aW zd (aW zd (aW zd (aG))))))) fun B4=>(eJ (cK (fV (m:=3) (dp 2 rfl (eG A_51 Z_51 (Ht rfl) (i:=0) rfl rfl rfl) (dp 3 rfl (eG A_51 Z_51 (Ht rfl) (i:=1) rfl rfl rfl) ?_))))))))))
 refine dq 6 1 rfl (cZ Tryz.call140 Jx ⟨(Ht rfl),trivial⟩) (fG aM rfl (by kernel_rfl) (aJ (aJ (aJ (aV (ro rfl (cZ K_46 (xI zo) ⟨(Ht rfl),(Ht rfl),trivial⟩) (gZ Z_51 (Ht rfl) (Ht rfl) rfl (i:=2) rfl (aK rfl) rfl rfl (eJ (fK rfl (fJ (fY A_51 Z_51 rfl (i:=2) rfl rfl) ?_))))))))))
 exact (kU (Qi.sub_def x y).symm)
theorem mF {x y:Qi} {L M:Nat} [hx:aD x L] [hy:aD y M] (h:L + M + 1 ≤ 17592186044415):aS Tryz.prog 45 [aP x,aP y] (aP (x * y)):=by
 have hxa:=iE hx.fit; have hxb:=iL hx.fit; have hxd:=iF hx.fit
 have hya:=iE hy.fit; have hyb:=iL hy.fit; have hyd:=iF hy.fit
 have hxp:=x.den_pos; have hyp:=y.den_pos; have hdp:=Nat.mul_pos hxp hyp
 have e1:=iK x.a y.a; have e2:=iK x.b y.b; have e3:=iK x.a y.b; have e4:=iK x.b y.a; have e5:=oW x.den y.den; have e8:=oX (x.b * y.b)
 have e6:=jA (x:=x.a * y.a) (y:=-(x.b * y.b)) (L:=L + M) zo zo; have e7:=jA (x:=x.a * y.b) (y:=x.b * y.a) (L:=L + M) zo zo
 refine aS.intro Tryz.func45 rfl Tryz.ntmps45 rfl (fun cx=>(ts (rn rfl (fU (Ht rfl)) fun B2=>(rn rfl (fU (Ht rfl)) fun B3=>(rn rfl (eK (Ts:=[Is (.bool false),Is (.slice none 0 0),Is (.bool false),Is (.slice none 0 0),Is (.slice none 0 0)]) O_51 rfl (fun V=>aW zd (aW zd (aW zd (aW zd (aW zd (aG))))))) fun B4=>(eJ (cK (fV (m:=13) (dp 2 rfl (eW fD (Ht rfl) rfl) (dq 7 0 rfl (eG A_49 Z_49 (Ht rfl) (i:=0) rfl rfl rfl) ?_))))))))))
 refine dp 3 rfl (eW fD (Ht rfl) rfl) (dq 9 2 rfl (eG A_49 Z_49 (Ht rfl) (i:=1) rfl rfl rfl) (cH 8 1 10 3 rfl (cZ K_132 (nP zo zo) ⟨(Ht rfl),(Ht rfl),trivial⟩) (dp 2 rfl (eW gA (Ht rfl) rfl) (dq 12 5 rfl (eG A_49 Z_49 (Ht rfl) (i:=0) rfl rfl rfl) (dp 3 rfl (eW gA (Ht rfl) rfl) (dq 14 7 rfl (eG A_49 Z_49 (Ht rfl) (i:=1) rfl rfl rfl) (cH 13 6 15 8 rfl (cZ K_132 (nP zo zo) ⟨(Ht rfl),(Ht rfl),trivial⟩) (dq 16 9 rfl (cZ K_135 nO ⟨(Ht rfl),trivial⟩) ?_))))))))
 refine cH 11 4 17 10 rfl (cZ K_133 (rY zo zo) ⟨(Ht rfl),(Ht rfl),trivial⟩) (C.D_new (Ei:=[]) rfl rfl rfl bW (eK (Ts:=[Is (.bool false),Is (.slice none 0 0)]) O_49 rfl (fun V=>aW zd (aW zd (aG)))) (fG aM rfl (by kernel_rfl) (zF (zF (zF (C.F_new (fun B5=>aV (gZ Z_49 (Ht rfl) (Ht rfl) rfl (i:=3) rfl (aK rfl) rfl rfl (eJ ?_)))))))))
 refine cK (fV (m:=12) (dp 2 rfl (eW fD (Ht rfl) rfl) (dq 19 0 rfl (eG A_49 Z_49 (Ht rfl) (i:=0) rfl rfl rfl) (dp 3 rfl (eW gA (Ht rfl) rfl) (dq 21 2 rfl (eG A_49 Z_49 (Ht rfl) (i:=1) rfl rfl rfl) (cH 20 1 22 3 rfl (cZ K_132 (nP zo zo) ⟨(Ht rfl),(Ht rfl),trivial⟩) (dp 2 rfl (eW gA (Ht rfl) rfl) (dq 24 5 rfl (eG A_49 Z_49 (Ht rfl) (i:=0) rfl rfl rfl) (dp 3 rfl (eW fD (Ht rfl) rfl) (dq 26 7 rfl (eG A_49 Z_49 (Ht rfl) (i:=1) rfl rfl rfl) ?_))))))))))
 refine cH 25 6 27 8 rfl (cZ K_132 (nP zo zo) ⟨(Ht rfl),(Ht rfl),trivial⟩) (cH 23 4 28 9 rfl (cZ K_133 (rY zo zo) ⟨(Ht rfl),(Ht rfl),trivial⟩) (C.D_new (Ei:=[]) rfl rfl rfl bW (eK (Ts:=[Is (.bool false),Is (.slice none 0 0)]) O_49 rfl (fun V=>aW zd (aW zd (aG)))) (fG aM rfl (by kernel_rfl) (zF (zF (aJ (aJ (aJ (C.F_new (fun B6=>aV (gZ Z_49 (Ht rfl) (Ht rfl) rfl (i:=4) rfl (aK rfl) rfl rfl ?_)))))))))))
 refine eJ (cK (fV (m:=7) (dp 5 rfl (eG A_49 Z_49 (Ht rfl) (i:=3) rfl rfl rfl) (dp 6 rfl (eG A_49 Z_49 (Ht rfl) (i:=4) rfl rfl rfl) (dp 2 rfl (eG A_51 Z_51 (Ht rfl) (i:=0) rfl rfl rfl) (dq 32 2 rfl (cZ K_137 mL ⟨(Ht rfl),trivial⟩) (dp 3 rfl (eG A_51 Z_51 (Ht rfl) (i:=1) rfl rfl rfl) (dq 34 4 rfl (cZ K_137 mL ⟨(Ht rfl),trivial⟩) (cH 33 3 35 5 rfl (cZ K_138 (zT zo zo) ⟨(Ht rfl),(Ht rfl),trivial⟩) (fG aM rfl (by kernel_rfl) (zF (aJ (aJ (aJ (aV ?_)))))))))))))))
 refine ro rfl (cZ K_134 (rX (by first | assumption | omega) zo zo zo) ⟨(Ht rfl),(Ht rfl),(Ht rfl),trivial⟩) (gZ Z_51 (Ht rfl) (Ht rfl) rfl (i:=2) rfl (aK rfl) rfl rfl (eJ (fK rfl (fJ (fY A_51 Z_51 rfl (i:=2) rfl rfl) ?_))))
 exact (kU (Qi.mk_mul x y))
theorem qR {x:Qi} {L:Nat} [hx:aD x L] (h:L ≤ 17592186044415):aS Tryz.prog 27 [aP x] (aC (!decide (x = Qi.zero))):=by
 have hxa:=iE hx.fit; have hxb:=iL hx.fit; have hxd:=iF hx.fit
 refine aS.intro Tryz.func27 rfl Tryz.ntmps27 rfl (fun cx=>(ts (rn rfl (fU (Ht rfl)) fun B1=>(ro rfl (cQ cV) (eJ (ts (ro rfl (eW fD (Ht rfl) rfl) (ro rfl (eW eN (Ht rfl) rfl) (ro rfl (fX A_47 Z_47 (Ht rfl) (i:=0) rfl rfl) (ro rfl (dU U_47 (Ht rfl) aA) (ro rfl (eW gA (Ht rfl) rfl) (ro rfl (eW eN (Ht rfl) rfl) (ro rfl (fX A_47 Z_47 (Ht rfl) (i:=0) rfl rfl) (ro rfl (dU U_47 (Ht rfl) aA) (ro rfl (dW (Ht rfl) (Ht rfl) z6) ?_)))))))))))))))
 refine ro rfl (dL (Ht rfl) (cJ 0)) (ra rfl (eJ (fK rfl (fJ (fQ rfl) ?_))))
 exact (bI (Qu x))
theorem Bi {x:Qi}:aS Tryz.prog 169 [aP x] (aC (decide (x.b = 0))):=by
 refine aS.intro Tryz.func169 rfl Tryz.ntmps169 rfl (fun cx=>(ts (rn rfl (fU (Ht rfl)) fun B1=>(ro rfl (cQ cV) (eJ (ts (ro rfl (eW gA (Ht rfl) rfl) (ro rfl (eW eN (Ht rfl) rfl) (ro rfl (fX A_47 Z_47 (Ht rfl) (i:=0) rfl rfl) (ro rfl (dU U_47 (Ht rfl) aA) (ro rfl (cT (Ht rfl) (cJ 0)) (ra rfl (eJ (fK rfl (fJ (fQ rfl) ?_)))))))))))))))
 exact (bI (Xx x))
theorem Px {x y:Qi} {L M:Nat} [hx:aD x L] [hy:aD y M] (h:L ≤ 17592186044415) (h2:M ≤ 17592186044415):aS Tryz.prog 139 [aP x,aP y] (aC (decide (x = y))):=by
 have hxa:=iE hx.fit; have hxb:=iL hx.fit; have hxd:=iF hx.fit
 have hya:=iE hy.fit; have hyb:=iL hy.fit; have hyd:=iF hy.fit
 have hxu:=Rk x; have hyu:=Rk y
 refine aS.intro Tryz.func139 rfl Tryz.ntmps139 rfl (fun cx=>(ts (rn rfl (fU (Ht rfl)) fun B2=>(rn rfl (fU (Ht rfl)) fun B3=>(ro rfl (cQ cV) (eJ (ts (ro rfl (eW fD (Ht rfl) rfl) (ro rfl (eG A_49 Z_49 (Ht rfl) (i:=0) rfl rfl rfl) (ro rfl (eW fD (Ht rfl) rfl) (ro rfl (eG A_49 Z_49 (Ht rfl) (i:=1) rfl rfl rfl) (ro rfl (cZ Tryz.call176 (Bn zo zo) ⟨(Ht rfl),(Ht rfl),trivial⟩) (ro rfl (iH (Ht rfl) cV) (rm rfl (fZ rfl rfl (eY rfl rfl (Ht rfl) (fun h=>eW gA (Ht rfl) rfl)) ?_)))))))))))))))
 refine fZ rfl rfl (eY rfl rfl (Ht rfl) (fun h=>eG A_49 Z_49 (fW rfl h) (i:=0) rfl rfl rfl)) (fZ rfl rfl (eY rfl rfl (Ht rfl) (fun h=>eW gA (Ht rfl) rfl)) (fZ rfl rfl (eY rfl rfl (Ht rfl) (fun h=>eG A_49 Z_49 (fW rfl h) (i:=1) rfl rfl rfl)) (fZ rfl rfl (eY rfl rfl (Ht rfl) (fun h=>cZ Tryz.call176 (Bn zo zo) ⟨(fW rfl h),(fW rfl h),trivial⟩)) (fZ rfl rfl (eY rfl rfl (Ht rfl) (fun h=>iH (fW rfl h) cV)) (ro rfl (dP (Ht rfl) (fun h=>(fW rfl h))) ?_)))))
 refine rm rfl (fZ rfl rfl (eY rfl rfl (Ht rfl) (fun h=>eW nR (Ht rfl) rfl)) (fZ rfl rfl (eY rfl rfl (Ht rfl) (fun h=>fX A_47 Z_47 (fW rfl h) (i:=0) rfl rfl)) (fZ rfl rfl (eY rfl rfl (Ht rfl) (fun h=>eW nR (Ht rfl) rfl)) (fZ rfl rfl (eY rfl rfl (Ht rfl) (fun h=>fX A_47 Z_47 (fW rfl h) (i:=1) rfl rfl)) (fZ rfl rfl (eY rfl rfl (Ht rfl) (fun h=>cZ Tryz.call216 (Pz zo zo) ⟨(fW rfl h),(fW rfl h),trivial⟩)) (fZ rfl rfl (eY rfl rfl (Ht rfl) (fun h=>iH (fW rfl h) cV)) ?_))))))
 refine ro rfl (dP (Ht rfl) (fun h=>(fW rfl h))) (ra rfl (eJ (fK rfl (fJ (fQ rfl) ?_))))
 exact (bI (Ye x y))
theorem zR {x y:Qi} {L M:Nat} [hx:aD x L] [hy:aD y M] (h:L + M ≤ 17592186044415):aS Tryz.prog 76 [aP x,aP y] (bC .i64 (vV x y)):=by
 have hxa:=iE hx.fit; have hxb:=iL hx.fit; have hxd:=iF hx.fit
 have hya:=iE hy.fit; have hyb:=iL hy.fit; have hyd:=iF hy.fit
 have e1:=dC x.a y.den; have e2:=dC y.a x.den; have e3:=dC x.b y.den; have e4:=dC y.b x.den
 refine aS.intro Tryz.func76 rfl Tryz.ntmps76 rfl (fun cx=>(ts (rn rfl (fU (Ht rfl)) fun B2=>(rn rfl (fU (Ht rfl)) fun B3=>(ro rfl (cQ (cJ 0)) (eJ (cK (cK (fV (m:=9) (dp 2 rfl (eW fD (Ht rfl) rfl) (dq 6 0 rfl (eG A_49 Z_49 (Ht rfl) (i:=0) rfl rfl rfl) (dp 3 rfl (eG A_51 Z_51 (Ht rfl) (i:=1) rfl rfl rfl) (dq 8 2 rfl (cZ K_137 mL ⟨(Ht rfl),trivial⟩) (cH 7 1 9 3 rfl (cZ K_136 (kK zo zo) ⟨(Ht rfl),(Ht rfl),trivial⟩) (dp 3 rfl (eW fD (Ht rfl) rfl) ?_)))))))))))))))
 refine dq 11 5 rfl (eG A_49 Z_49 (Ht rfl) (i:=1) rfl rfl rfl) (dp 2 rfl (eG A_51 Z_51 (Ht rfl) (i:=0) rfl rfl rfl) (dq 13 7 rfl (cZ K_137 mL ⟨(Ht rfl),trivial⟩) (fG aM rfl (by kernel_rfl) (zF (zF (aJ (aV (ro rfl (cZ K_136 (kK zo zo) ⟨(Ht rfl),(Ht rfl),trivial⟩) (ro rfl (cZ Tryz.call176 (Bn zo zo) ⟨(Ht rfl),(Ht rfl),trivial⟩) (ra rfl (eJ (ts (rm rfl (ro rfl (uY (Ht rfl) cV) ?_))))))))))))))
 refine eJ (dQ (Ht rfl) (fun hb=>?_) (fun hb=>?_))
 ·simp only [Bool.not_eq_true', decide_eq_false_iff_not] at hb
  refine ts (rm rfl (ra rfl (eJ (fK rfl (fJ (fQ rfl) ?_)))))
  exact (bB (by rw [vV,if_pos hb]))
 ·simp only [Bool.not_eq_false', decide_eq_true_eq] at hb
  refine cU (cK (fV (m:=9) (dp 2 rfl (eW gA (Ht rfl) rfl) (dq 20 0 rfl (eG A_49 Z_49 (Ht rfl) (i:=0) rfl rfl rfl) (dp 3 rfl (eG A_51 Z_51 (Ht rfl) (i:=1) rfl rfl rfl) (dq 22 2 rfl (cZ K_137 mL ⟨(Ht rfl),trivial⟩) (cH 21 1 23 3 rfl (cZ K_136 (kK zo zo) ⟨(Ht rfl),(Ht rfl),trivial⟩) (dp 3 rfl (eW gA (Ht rfl) rfl) (dq 25 5 rfl (eG A_49 Z_49 (Ht rfl) (i:=1) rfl rfl rfl) (dp 2 rfl (eG A_51 Z_51 (Ht rfl) (i:=0) rfl rfl rfl) ?_))))))))))
  refine dq 27 7 rfl (cZ K_137 mL ⟨(Ht rfl),trivial⟩) (fG aM rfl (by kernel_rfl) (zF (zF (aJ (aV (ro rfl (cZ K_136 (kK zo zo) ⟨(Ht rfl),(Ht rfl),trivial⟩) (ro rfl (cZ Tryz.call176 (Bn zo zo) ⟨(Ht rfl),(Ht rfl),trivial⟩) (ra rfl (eJ (fK rfl (fJ (fQ rfl) ?_)))))))))))
  exact (bB (by rw [vV,if_neg (by simpa using hb)]))
end
section
open Go Go.RowKit
theorem Ju {n : Nat} {E : cD} {H : Hp} {d : Option Tmp} {t : TypeId} {pos : String} {af : Array Edge} {g : Option (Nat × Bool)}  :
  aI Tryz.prog n E H ⟨d,.build 49 #[],t,pos,af,g⟩ (eM [Is (.bool false),Is (.slice none 0 0)]) :=
 fC (parts := []) fun a V w hs => by
  refine ⟨.agg #[(.bool false),(.slice none 0 0)],?_,[(.bool false),(.slice none 0 0)],rfl,aW (⟨rfl,trivial⟩) (aW (⟨rfl,trivial⟩) (aG))⟩
  simp [Instr.build,Instr.fill,Sem.run_bind,Result.andThen,dS,O_49,U_49,Z_4,Z_47]
theorem En (a:Addr) (w:World):(Instr.fieldAt 102 (.pointer (some a)) 0).run Tryz.prog w = .ok (.pointer (some (a.add 0))) w:=by
 simp [Instr.fieldAt,Instr.sureAddr,fieldPlace,Sem.run_bind,Result.andThen,U_102,Z_2]
theorem Eo (a:Addr) (w:World):(Instr.fieldAt 102 (.pointer (some a)) 1).run Tryz.prog w = .ok (.pointer (some (a.add 1))) w:=by
 simp [Instr.fieldAt,Instr.sureAddr,fieldPlace,Sem.run_bind,Result.andThen,U_102,Z_2]
theorem oJ (a:Addr) (w:World):(Instr.fieldAt 102 (.pointer (some a)) 2).run Tryz.prog w = .ok (.pointer (some (a.add 2))) w:=by
 simp [Instr.fieldAt,Instr.sureAddr,fieldPlace,Sem.run_bind,Result.andThen,U_102,Z_2]
theorem lE:Tryz.prog.info? 51 = some Tryz.t51:=by kernel_rfl
theorem nG:Tryz.prog.underlying 29 = some (.slice 51):=by kernel_rfl
end
section
open Go Go.RowKit
theorem Hr {a:Int} {d:Nat} (hd:0 < d) (ha:(dg a.natAbs).length ≤ 8796093022208) (hd2:(dg d).length ≤ 8796093022208):aS Tryz.prog 188 [dF a,aE d] (oE (qI a d)):=by
 have h1:=Fe a hd; have h2:=Ff a hd
 obtain ⟨x,hx⟩:∃ x,x = Qi.mk' a 0 d:=⟨_,rfl⟩
 rw [qI,← hx]
 rw [← hx] at h1 h2
 have h3:=oU x.a.natAbs; have h4:=oU x.den
 have h5:(dg (0:Int).natAbs).length ≤ 0:=by rw [show (0:Int).natAbs = 0 from rfl,dI]; exact Nat.le_refl _
 refine aS.intro Tryz.func188 rfl Tryz.ntmps188 rfl (fun cx=>(ts (rn rfl (fU (Ht rfl)) fun B2=>(ro rfl (cQ (bD.cS (l:=[]) rfl)) (eJ (ts (ro rfl (eG A_49 Z_49 (Ht rfl) (i:=0) rfl rfl rfl) (ro rfl (aI.imp (Ju ) sJ) (rm rfl (ro rfl (aI.imp (cZ K_134 (rX (by first | assumption | omega) zo zo zo) ⟨(Ht rfl),(Ht rfl),(Ht rfl),trivial⟩) (kU hx.symm)) (rn rfl (eK (Ts:=[Is (.bool false),Is (.slice none 0 0),Is (.bool false),Is (.slice none 0 0),Is (.slice none 0 0)]) O_51 rfl (fun V=>aW zd (aW zd (aW zd (aW zd (aW zd (aG))))))) fun B5=>?_)))))))))))
 refine gZ Z_51 (Ht rfl) (Ht rfl) rfl (i:=1) rfl (aK rfl) rfl rfl (eJ (ts (ro rfl (eW fD (Ht rfl) rfl) (ro rfl (eW eN (Ht rfl) rfl) (ro rfl (fX A_47 Z_47 (Ht rfl) (i:=1) rfl rfl) (ro rfl (cZ Tryz.call249 (Di zo) ⟨(Ht rfl),trivial⟩) (ra rfl (eJ (cK (iY (fun (uu:Unit)=>True) (fun (uu:Unit)=>[(5,cC B5 0),(6,oE (if x.a < 0 then 45 :: rP x.a.natAbs else rP x.a.natAbs))]) (fun (uu:Unit)=>[box B2 49 [aC (decide (a < 0)),aE (a).natAbs],box B5 51 [aC (decide ((x).a < 0)),aE (x).a.natAbs,aC (decide ((x).b < 0)),aE (x).b.natAbs,aE (du (x))]]) ?_ (fun uu _=>?_)))))))))))
 ·refine ts (ro rfl (eW fD (Ht rfl) rfl) (ro rfl (eW kA (Ht rfl) rfl) (ro rfl (fX A_4 Z_4 (Ht rfl) (i := 1) rfl rfl) (eJ (dQ (Ht rfl) (fun hb => ?_) (fun hb => ?_))))))
  ·simp only [decide_eq_true_eq] at hb
   refine cY (rm rfl (ro rfl (jE (bD.cS (l:=[45]) rfl) (Ht rfl) (by first | omega | (simp; omega))) (ra rfl (eJ (aO () trivial (aQ rfl (aZ rfl (iU (by rw [if_pos hb]; rfl)) aX)) (aU (aB rfl) (aU (aB rfl) aY)))))))
  ·simp only [decide_eq_false_iff_not] at hb
   refine cU (aO () trivial (aQ rfl (aZ rfl (iU (by rw [if_neg hb])) aX)) (aU (aB rfl) (aU (aB rfl) aY)))
 ·have h6 : (if x.a < 0 then 45 :: rP x.a.natAbs else rP x.a.natAbs).length ≤ (rP x.a.natAbs).length + 1 := by split <;> simp
  have h7:=Rk x
  refine cK (iY (fun (uu:Unit)=>True) (fun (uu:Unit)=>[(6,oE ((if x.a < 0 then 45 :: rP x.a.natAbs else rP x.a.natAbs) ++ (if x.den = 1 then [] else 47 :: rP x.den)))]) (fun (uu:Unit)=>[box B2 49 [aC (decide (a < 0)),aE (a).natAbs],box B5 51 [aC (decide ((x).a < 0)),aE (x).a.natAbs,aC (decide ((x).b < 0)),aE (x).b.natAbs,aE (du (x))]]) ?_ (fun uu _=>?_))
  ·refine ts (ro rfl (eW nR (Ht rfl) rfl) (ro rfl (fX A_47 Z_47 (Ht rfl) (i := 1) rfl rfl) (ro rfl (dU U_47 (Ht rfl) aA) (ro rfl (dL (Ht rfl) (cJ 0)) (eJ (dQ (Ht rfl) (fun hb => ?_) (fun hb => ?_)))))))
   ·simp only [decide_eq_true_eq] at hb
    have h8:du x = x.den:=sY (fun e=>by rw [e,dI] at hb; simp at hb)
    have h9:x.den ≠ 1:=fun e=>by rw [du,if_pos e,dI] at hb; simp at hb
    have h10:=oU (du x)
    refine cY (rm rfl (ro rfl (eW nR (Ht rfl) rfl) (ro rfl (fX A_47 Z_47 (Ht rfl) (i:=1) rfl rfl) (ro rfl (cZ Tryz.call249 (Di zo) ⟨(Ht rfl),trivial⟩) (ro rfl (jE (bD.cS (l:=[47]) rfl) (Ht rfl) (by simp only [List.length_cons,List.length_nil]; omega)) ?_)))))
    refine ro rfl (jE (Ht rfl) (Ht rfl) (by simp only [List.length_append,List.length_cons,List.length_nil]; omega)) ?_
    refine ra rfl (eJ (aO () trivial (aZ rfl (iU (by rw [if_neg h9,h8]; rfl)) aX) (cL.refl _)))
   ·simp only [decide_eq_false_iff_not] at hb
    have h9:x.den = 1:=wF (aH.1 zo)
    refine cU (aO () trivial (aZ rfl (iU (by rw [if_pos h9,List.append_nil])) aX) (cL.refl _))
  ·refine ts (rm rfl (ra rfl (eJ ?_)))
   exact fK rfl (fQ rfl)
theorem Hm {x:Qi} {L:Nat} [hx:aD x L] (h:L ≤ 8796093022208):aS Tryz.prog 89 [aP x] (oE (Oi x)):=by
 have hxa:=iE hx.fit; have hxb:=iL hx.fit; have hxd:=iF hx.fit; have hdp:=x.den_pos
 have l1:=tG x.a hdp; have l2:=tG x.b hdp
 refine aS.intro Tryz.func89 rfl Tryz.ntmps89 rfl (fun cx=>(ts (rn rfl (fU (Ht rfl)) fun B1=>(ro rfl (cQ (bD.cS (l:=[]) rfl)) (eJ (cK (ts (ro rfl (eG A_51 Z_51 (Ht rfl) (i:=0) rfl rfl rfl) (ro rfl (cZ Tryz.call169 Bi ⟨(Ht rfl),trivial⟩) (eJ (dQ (Ht rfl) (fun hb=>?_) (fun hb=>?_))))))))))))
 ·simp only [decide_eq_true_eq] at hb
  refine cK (fV (m:=4) (dp 1 rfl (eW fD (Ht rfl) rfl) (dq 6 0 rfl (eG A_49 Z_49 (Ht rfl) (i:=0) rfl rfl rfl) (dp 1 rfl (eG A_51 Z_51 (Ht rfl) (i:=0) rfl rfl rfl) (dq 8 2 rfl (cZ K_137 mL ⟨(Ht rfl),trivial⟩) (fG aM rfl (by kernel_rfl) (zF (aV (ro rfl (cZ Tryz.call188 (Hr (by assumption) zo zo) ⟨(Ht rfl),(Ht rfl),trivial⟩) ?_)))))))))
  refine ra rfl (eJ (fK rfl (fJ (fQ rfl) ?_)))
  exact (iU (by rw [Oi,if_pos hb]))
 ·simp only [decide_eq_false_iff_not] at hb
  refine cU (cK (fV (m:=4) (dp 1 rfl (eW gA (Ht rfl) rfl) (dq 11 0 rfl (eG A_49 Z_49 (Ht rfl) (i:=0) rfl rfl rfl) (dp 1 rfl (eG A_51 Z_51 (Ht rfl) (i:=0) rfl rfl rfl) (dq 13 2 rfl (cZ K_137 mL ⟨(Ht rfl),trivial⟩) (fG aM rfl (by kernel_rfl) (zF (aV (ro rfl (cZ Tryz.call188 (Hr (by assumption) zo zo) ⟨(Ht rfl),(Ht rfl),trivial⟩) ?_))))))))))
  refine ro rfl (jE (Ht rfl) (bD.cS (l:=[105]) rfl) (by simp only [List.length_append,List.length_cons,List.length_nil]; omega)) ?_
  refine ra rfl (eJ (cK (ts (ro rfl (eW fD (Ht rfl) rfl) (ro rfl (eW eN (Ht rfl) rfl) (ro rfl (fX A_47 Z_47 (Ht rfl) (i:=0) rfl rfl) (ro rfl (dU U_47 (Ht rfl) aA) (ro rfl (cT (Ht rfl) (cJ 0)) (eJ (dQ (Ht rfl) (fun hc=>?_) (fun hc=>?_)))))))))))
  ·simp only [decide_eq_true_eq] at hc
   have ha:x.a = 0:=by have:=aH.1 hc; omega
   refine ts (rm rfl (ra rfl (eJ (fK rfl (fJ (fQ rfl) ?_)))))
   exact (iU (by rw [Oi,if_neg hb,if_pos ha]))
  ·simp only [decide_eq_false_iff_not] at hc
   have ha:x.a ≠ 0:=fun e=>hc (by rw [e]; exact aH.2 rfl)
   refine cU (cK (iY (fun (uu:Unit)=>True) (fun (uu:Unit)=>[(1,cC B1 0),(3,oE ((if x.b < 0 then qI x.b x.den else 43 :: qI x.b x.den) ++ [105]))]) (fun (uu:Unit)=>[box B1 51 [aC (decide ((x).a < 0)),aE (x).a.natAbs,aC (decide ((x).b < 0)),aE (x).b.natAbs,aE (du (x))]]) ?_ (fun uu _=>?_)))
   ·refine ts (ro rfl (eW gA (Ht rfl) rfl) (ro rfl (eW kA (Ht rfl) rfl) (ro rfl (fX A_4 Z_4 (Ht rfl) (i := 0) rfl rfl) (ro rfl (dR (Ht rfl)) (eJ (dQ (Ht rfl) (fun hd => ?_) (fun hd => ?_)))))))
    ·have hn : ¬ x.b < 0 := by simpa using hd
     refine cY (rm rfl (ro rfl (jE (bD.cS (l:=[43]) rfl) (Ht rfl) (by simp only [List.length_append,List.length_cons,List.length_nil]; omega)) ?_))
     refine ra rfl (eJ (aO () trivial (aQ rfl (aZ rfl (iU (by rw [if_neg hn]; rfl)) aX)) (aU (aB rfl) aY)))
    ·have hn : x.b < 0 := by simpa using hd
     refine cU (aO () trivial (aQ rfl (aZ rfl (iU (by rw [if_pos hn])) aX)) (aU (aB rfl) aY))
   ·have l3 : ((if x.b < 0 then qI x.b x.den else 43 :: qI x.b x.den) ++ [105]).length ≤ (qI x.b x.den).length + 2 := by split <;> simp
    refine cK (fV (m:=6) (dp 1 rfl (eW fD (Ht rfl) rfl) (dq 29 0 rfl (eG A_49 Z_49 (Ht rfl) (i:=0) rfl rfl rfl) (dp 1 rfl (eG A_51 Z_51 (Ht rfl) (i:=0) rfl rfl rfl) (dq 31 2 rfl (cZ K_137 mL ⟨(Ht rfl),trivial⟩) (cH 30 1 32 3 rfl (cZ Tryz.call188 (Hr (by assumption) zo zo) ⟨(Ht rfl),(Ht rfl),trivial⟩) ?_))))))
    refine dp 3 rfl (cX (Ht rfl)) (fG aM rfl (by kernel_rfl) (zF (aJ (aJ (aV (ro rfl (jE (Ht rfl) (Ht rfl) zo) (ra rfl (eJ (fK rfl (fJ (fQ rfl) ?_))))))))))
    exact (iU (by rw [Oi,if_neg hb,if_neg ha]))
theorem Vd {r:Rt}:aS Tryz.prog 58 [Oz r] (aP r.q):=by
 have hr1:=r.h1; have hr2:=r.h2; have hr3:=r.h3; have hr4:=r.h4; have hr5:=r.d1; have hr6:=r.d2; have hr0:=r.d0
 refine aS.intro Tryz.func58 rfl Tryz.ntmps58 rfl (fun cx=>(ts (rn rfl (fU (Ht rfl)) fun B1=>(rn rfl (eK (Ts:=[Is (.bool false),Is (.slice none 0 0),Is (.bool false),Is (.slice none 0 0),Is (.slice none 0 0)]) O_51 rfl (fun V=>aW zd (aW zd (aW zd (aW zd (aW zd (aG))))))) fun B2=>(eJ (cK (iY (fun (uu:Unit)=>True) (fun (uu:Unit)=>[(1,cC B1 0),(2,cC B2 0)]) (fun (uu:Unit)=>[box B1 102 [bC .i64 r.re,bC .i64 r.im,bC .i64 r.d],box B2 51 [Is (.bool false),Is (.slice none 0 0),Is (.bool false),Is (.slice none 0 0),Is (.slice none 0 0)]]) ?_ (fun uu _=>?_))))))))
 ·refine ts (ro rfl (eW oJ (Ht rfl) rfl) (ro rfl (fX A_2 Z_2 (Ht rfl) (i := 0) rfl rfl) (ro rfl (iH (Ht rfl) cV) (eJ (dQ (Ht rfl) (fun hb => ?_) (fun hb => ?_))))))
  ·simp only [decide_eq_true_eq] at hb
   refine cY (ro rfl (eW oJ (Ht rfl) rfl) (jX Z_2 (Ht rfl) (cJ 1) (i:=0) rfl (aK rfl) rfl (eJ (aO () trivial (zS rfl) (aU (aB (by rw [Rt.d,if_pos hb]; rfl)) (aU (aB rfl) aY))))))
  ·simp only [decide_eq_false_iff_not] at hb
   refine cU (aO () trivial (zS rfl) (aU (aB (by rw [Rt.d,if_neg hb])) (aU (aB rfl) aY)))
 ·refine ts (ro rfl (eW En (Ht rfl) rfl) (ro rfl (fX A_2 Z_2 (Ht rfl) (i := 0) rfl rfl) (ro rfl (eW Eo (Ht rfl) rfl) (ro rfl (fX A_2 Z_2 (Ht rfl) (i := 0) rfl rfl) (ro rfl (eW oJ (Ht rfl) rfl) (ro rfl (fX A_2 Z_2 (Ht rfl) (i := 0) rfl rfl) (ro rfl (cZ Tryz.call141 (a1j hr1 hr2 hr3 hr4 hr5 hr6 hr0) ⟨(Ht rfl), (Ht rfl), (Ht rfl), trivial⟩) (rm rfl (ro rfl (dY (Ht rfl) rfl) (ro rfl (dY (Ht rfl) rfl) (rn rfl (eK (Ts := [Is (.bool false), Is (.slice none 0 0), Is (.bool false), Is (.slice none 0 0), Is (.slice none 0 0)]) O_51 rfl (fun V => aW zd (aW zd (aW zd (aW zd (aW zd (aG))))))) fun B3 => ?_)))))))))))
  refine gZ Z_51 (Ht rfl) (Ht rfl) rfl (i:=2) rfl (aK rfl) rfl rfl (ra rfl (eJ (ts (ro rfl (eG A_51 Z_51 (Ht rfl) (i:=2) rfl rfl rfl) (gZ Z_51 (Ht rfl) (Ht rfl) rfl (i:=1) rfl (aK rfl) rfl rfl (eJ ?_))))))
  exact fK rfl (fY A_51 Z_51 rfl (i:=1) rfl rfl)
theorem tU {l:List Rt} (hl:l.length ≤ 1000000):aS Tryz.prog 48 [rN l] (cB (l.map Rt.q)):=by
 refine aS.intro Tryz.func48 rfl Tryz.ntmps48 rfl (fun cx=>(ts (ro rfl (cQ cV) (eJ (ts (rm rfl (ro rfl (dU U_22 (Ht rfl) aA) (rn rfl (rE (T:=aP Qi.zero) (i:=Tryz.t51) nG lE rfl rfl (Ht rfl) rfl nD (El.ag rfl) (by show 88 * _ ≤ _; omega) zo) fun B8=>(ra rfl (eJ (cK (ts (rm rfl (ro rfl (dU U_22 (Ht rfl) aA) (ro rfl (cX (cJ 0)) (eJ (eU ?_)))))))))))))))))
 refine eH (fun (k : Nat) (out : List Qi) => kI (fun i => (l.getD i default).q) l.length out k) (fun (k : Nat) (out : List Qi) => l.length - k) (fun (k : Nat) (out : List Qi) => [(3, Is B8), (9, rN l), (10, NT .i64 l.length), (11, NT .i64 k)]) (fun (k : Nat) (out : List Qi) => [bO 51 5 B8 (out.map aP)]) 0 (List.replicate l.length Qi.zero) (kI.start _ _ _)
  (zS rfl) (aU (bT (qJ aP _ _)) aY) (fun k out hS=>?_)
 refine ts (ro rfl (gJ (Ht rfl) (Ht rfl)) (eJ (cK (dQ (Ht rfl) (fun hk=>?_) (fun hk=>?_)))))
 ·simp only [decide_eq_true_eq] at hk
  have hlen:=hS.len
  refine cU (cK (eU (ts (rm rfl (ro rfl (dZ U_22 Z_102 (Ht rfl) (Ht rfl) rfl (eX (eQ (d:=default) hk))) (ro rfl (dJ A_102 Z_102 (Ht rfl)) (rn rfl (eK (Ts:=[Is (.int .i64 0),Is (.int .i64 0),Is (.int .i64 0)]) O_102 rfl (fun V=>aW zd (aW zd (aW zd (aG))))) fun B5=>(ra rfl (gZ Z_102 (Ht rfl) (Ht rfl) rfl (i:=1) rfl (aK rfl) rfl rfl (eJ (cY (rm rfl (rm rfl (ro rfl (eG A_102 Z_102 (Ht rfl) (i:=1) rfl rfl rfl) ?_))))))))))))))
  refine ro rfl (cZ Tryz.call58 Vd ⟨(Ht rfl),trivial⟩) (ro rfl (dM U_29 Z_51 (Ht rfl) (Ht rfl) rfl (i:=0) rfl (by first | omega | (simp; omega)) rfl) (mY Z_51 (Ht rfl) (Ht rfl) (El.ag rfl) (i:=0) rfl rfl (by first | omega | (simp; omega)) rfl (eJ (aR (cY (ro rfl (dW (Ht rfl) (cJ 1) z6) (rm rfl (eJ (cM [0] rfl (by decide) (gQ (k + 1,_) (hS.next hk rfl) (by dsimp only; omega) (zS rfl) (aU (bT (jU aP _ _ _)) aY)))))))))))
 ·simp only [decide_eq_false_iff_not] at hk
  obtain rfl:k = l.length:=Nat.le_antisymm hS.kle zo
  have hfin:=hS.fin
  rw [yR l Rt.q] at hfin
  refine gG rfl (gW (i:=0) (tt:=3) rfl rfl kN (ts (rm rfl (ra rfl (eJ (fK rfl (fJ (fQ rfl) ?_)))))))
  exact (oC (by rw [hfin]))
end
section
open Go Go.RowKit
theorem mN (ds:List Nat) (hd:jM ds) (hl:ds.length ≤ 1152921504606846976):aS Tryz.prog 267 [rT ds] (aE (val ds)):=by
 refine aS.intro Tryz.func267 rfl Tryz.ntmps267 rfl (fun cx=>(ts (ro rfl (cQ cV) (eJ (ts (rm rfl (ro rfl (dU U_46 (Ht rfl) aA) (ra rfl (eJ (cK (eU ?_)))))))))))
 refine bF (fun (k : Nat) => k ≤ ds.length ∧ ∀ i, k ≤ i → i < ds.length → ds.getD i 0 = 0) (fun (k : Nat) => k) (fun (k : Nat) => [(0, rT ds), (3, NT .i64 k)]) (fun (k : Nat) => []) ds.length ⟨Nat.le_refl _, fun i h1 h2 => by omega⟩
  (zS rfl) aY (fun k ⟨hk,hz⟩=>?_)
 refine cK (ts (rm rfl (ro rfl (dL (Ht rfl) (cJ 0)) (rm rfl (fZ rfl rfl (eY rfl rfl (Ht rfl) (fun h=>cX (Ht rfl))) (fZ rfl rfl (eY rfl rfl (Ht rfl) (fun h=>cX (Ht rfl))) (fZ rfl rfl (eY rfl rfl (Ht rfl) (fun h=>dK (fW rfl h) (cJ 1) (by first | omega | (simp at h; omega)) (by show _ < 9223372036854775808; first | omega | (simp at h; omega)))) (fZ rfl rfl (eY rfl rfl (Ht rfl) (fun h=>dZ U_46 Z_189 (fW rfl h) (fW rfl h) rfl (eX (aF (by first | omega | (simp at h; omega)))))) ?_))))))))
 refine fZ rfl rfl (eY rfl rfl (Ht rfl) (fun h=>dJ A_189 Z_189 (fW rfl h))) (fZ rfl rfl (eY rfl rfl (Ht rfl) (fun h=>cT (fW rfl h) (cJ 0))) (ro rfl (dP (Ht rfl) (fun h=>(fW rfl h))) (eJ (dQ (Ht rfl) (fun hb=>?_) (fun hb=>?_)))))
 ·simp at hb
  refine cU (eU (cY (rm rfl (ro rfl (dK (Ht rfl) (cJ 1) zo z6) (ra rfl (eJ (aR (gQ (k - 1) ⟨by omega,fun i h1 h2=>?_⟩ zo (zS rfl) aY))))))))
  by_cases e2:i = k - 1
  ·subst e2; simpa using hb.2
  ·exact hz i zo h2
 ·have hn : k = 0 ∨ ds.getD (k - 1) 0 ≠ 0 := by
   simp only [Bool.and_eq_false_iff,decide_eq_false_iff_not] at hb
   rcases hb with h1 | h1
   ·left; omega
   ·right; exact h1
  have hfin:=Ks hd hk hz hn
  refine gG rfl (ts (rm rfl (rm rfl (ro rfl (rI U_46 Z_189 (Ht rfl) (Ht rfl) (fun m e=>by cases e) zo (by simp; omega) rfl) ?_))))
  refine ra rfl (eJ (fK rfl (fJ (fQ rfl) ?_)))
  exact (Em (by rw [hfin]; simp))
theorem xM {m:Nat} (hm:m < 18446744073709551616):aS Tryz.prog 268 [NT .u64 m] (aE m):=by
 refine aS.intro Tryz.func268 rfl Tryz.ntmps268 rfl (fun cx=>(ts (ro rfl (cQ cV) (eJ (ts (rm rfl (ro rfl (eO rfl U_254 U_189 (Ht rfl)) (rm rfl (ro rfl (dT (Ht rfl) (cJ 32) (by decide)) (ro rfl (eO rfl U_254 U_189 (Ht rfl)) (ro rfl (dA (xs:=[.tmp 4,.tmp 7]) U_46 Z_189 O_189 (cW (Ht rfl) (cW (Ht rfl) cG)) rfl rfl rfl) (ro rfl (cZ K_267 (mN [m % 4294967296,m / 2 ^ 32 % 4294967296] (a1v _ _) (by simp)) ⟨(Ht rfl),trivial⟩) ?_))))))))))))
 refine ra rfl (eJ (fK rfl (fJ (fQ rfl) ?_)))
 exact (cF (Aj hm))
theorem oG {m n:Nat} (hm:(dg m).length ≤ 1152921504606846976) (hn:(dg n).length ≤ 1152921504606846976):aS Tryz.prog 237 [aE m,aE n] (bC .i64 (mG m n)):=by
 refine aS.intro Tryz.func237 rfl Tryz.ntmps237 rfl (fun cx=>(ts (ro rfl (cQ (cJ 0)) (eJ (cK (ts (rm rfl (ro rfl (dU U_46 (Ht rfl) aA) (rm rfl (ro rfl (dU U_46 (Ht rfl) aA) (ro rfl (gY (Ht rfl) (Ht rfl)) (eJ (dQ (Ht rfl) (fun hb=>?_) (fun hb=>?_))))))))))))))
 ·simp at hb
  refine cK (ts (rm rfl (ro rfl (dU U_46 (Ht rfl) aA) (rm rfl (ro rfl (dU U_46 (Ht rfl) aA) (ro rfl (gJ (Ht rfl) (Ht rfl)) (eJ (dQ (Ht rfl) (fun hb2=>?_) (fun hb2=>?_)))))))))
  ·simp at hb2
   have hlt:=Bq hb2
   refine ts (ro rfl (cQ cV) (eJ (fK rfl (fJ (fQ rfl) ?_))))
   exact (bB (by simp [mG,hlt]))
  ·simp at hb2
   have hlt:=Bq (a:=n) (b:=m) zo
   refine cU (ts (ro rfl (cQ (cJ 1)) (eJ (fK rfl (fJ (fQ rfl) ?_)))))
   exact (bB (by simp [mG,hlt,Nat.lt_asymm hlt]))
 ·simp at hb
  refine cU (cK (ts (rm rfl (ro rfl (dU U_46 (Ht rfl) aA) (ro rfl (iD (Ht rfl) cV (zL zo)) (ra rfl (eJ (eU ?_))))))))
  refine bF (fun (k : Nat) => k ≤ (dg m).length ∧ ∀ i, k ≤ i → i < (dg m).length → (dg m).getD i 0 = (dg n).getD i 0) (fun (k : Nat) => k) (fun (k : Nat) => [(0, aE m), (1, aE n), (5, bC .i64 ((k : Int) - 1))]) (fun (k : Nat) => []) (dg m).length ⟨Nat.le_refl _, fun i h1 h2 => by omega⟩
   (zS rfl) aY (fun k ⟨hk,he⟩=>?_)
  refine cK (ts (rm rfl (ro rfl (kV (Ht rfl) cV) (eJ (dQ (Ht rfl) (fun hk1=>?_) (fun hk1=>?_))))))
  ·simp at hk1
   refine cU (cK (eU (cK (fV (m:=8) (dp 0 rfl (cX (Ht rfl)) (dp 5 rfl (cX (Ht rfl)) (cH 23 0 24 1 rfl (dZ U_46 Z_189 (Ht rfl) (Ht rfl) (show ((k:Int) - 1) = ((k - 1:Nat):Int) by omega) (eX (aF zo))) (dq 25 2 rfl (dJ A_189 Z_189 (Ht rfl)) (dp 1 rfl (cX (Ht rfl)) (dp 5 rfl (cX (Ht rfl)) (cH 27 4 28 5 rfl (dZ U_46 Z_189 (Ht rfl) (Ht rfl) (show ((k:Int) - 1) = ((k - 1:Nat):Int) by omega) (eX (aF zo))) (dq 29 6 rfl (dJ A_189 Z_189 (Ht rfl)) ?_))))))))))))
   refine fG aM rfl (by kernel_rfl) (zF (zF (aV (ro rfl (gY (Ht rfl) (Ht rfl)) (eJ (dQ (Ht rfl) (fun h1=>?_) (fun h1=>?_)))))))
   ·simp only [Bool.not_eq_true', decide_eq_false_iff_not] at h1
    refine cK (cK (fV (m:=8) (dp 0 rfl (cX (Ht rfl)) (dp 5 rfl (cX (Ht rfl)) (cH 32 0 33 1 rfl (dZ U_46 Z_189 (Ht rfl) (Ht rfl) (show ((k:Int) - 1) = ((k - 1:Nat):Int) by omega) (eX (aF zo))) (dq 34 2 rfl (dJ A_189 Z_189 (Ht rfl)) (dp 1 rfl (cX (Ht rfl)) (dp 5 rfl (cX (Ht rfl)) (cH 36 4 37 5 rfl (dZ U_46 Z_189 (Ht rfl) (Ht rfl) (show ((k:Int) - 1) = ((k - 1:Nat):Int) by omega) (eX (aF zo))) (dq 38 6 rfl (dJ A_189 Z_189 (Ht rfl)) ?_))))))))))
    refine fG aM rfl (by kernel_rfl) (zF (zF (aV (ro rfl (gJ (Ht rfl) (Ht rfl)) (eJ (dQ (Ht rfl) (fun h2=>?_) (fun h2=>?_)))))))
    ·simp only [decide_eq_true_eq] at h2
     have hlt:=wB (bA m) (bA n) hb (k:=k - 1) zo (fun i h2 h3=>he i zo h3) h2
     rw [cA,cA] at hlt
     refine ts (ro rfl (cQ cV) (eJ (fK rfl (fJ (fQ rfl) ?_))))
     exact (bB (by simp [mG,hlt]))
    ·simp only [decide_eq_false_iff_not] at h2
     have hlt:=wB (bA n) (bA m) hb.symm (k:=k - 1) zo (fun i h2 h3=>(he i zo zo).symm) zo
     rw [cA,cA] at hlt
     refine cU (ts (ro rfl (cQ (cJ 1)) (eJ (fK rfl (fJ (fQ rfl) ?_)))))
     exact (bB (by simp [mG,hlt,Nat.lt_asymm hlt]))
   ·simp only [Bool.not_eq_false', decide_eq_true_eq] at h1
    refine cU (aR (cY (rm rfl (ro rfl (iD (Ht rfl) cV (zL zo)) (ra rfl (eJ (gQ (k - 1) ⟨by omega,fun i h3 h4=>(by by_cases e:i = k - 1; (· subst e; omega); exact he i zo h4)⟩ zo (aQ rfl (aQ rfl (aZ rfl (bB zo) aX))) aY)))))))
  ·simp at hk1
   have hk0:k = 0:=by omega
   have heq : m = n := by
    have : dg m = dg n := by
     apply List.ext_getElem?
     intro i
     by_cases hi:i < (dg m).length
     ·have h5 := he i zo hi
      have h6:i < (dg n).length:=by omega
      simp [List.getD,hi,h6] at h5
      simp [hi,h6,h5]
     ·rw [List.getElem?_eq_none zo,List.getElem?_eq_none zo]
    rw [← cA m,this,cA]
   refine gG rfl (ts (ro rfl (cQ (cJ 0)) (eJ (fK rfl (fJ (fQ rfl) ?_)))))
   exact (bB (by simp [mG,heq]))
theorem Mv {m n:Nat} (hm:(dg m).length ≤ 17592186044416) (hn:(dg n).length ≤ 17592186044416):aS Tryz.prog 269 [aE m,aE n] (aE (m + n)):=by
 refine aS.intro Tryz.func269 rfl Tryz.ntmps269 rfl (fun cx=>(ts (ro rfl (cQ cV) (eJ (cK (nL (fun (p:Nat) (q:Nat)=>p + q = m + n ∧ (dg q).length ≤ (dg p).length ∧ (dg p).length ≤ 17592186044416) (fun (p:Nat) (q:Nat)=>[(0,aE p),(1,aE q)]) (fun (p:Nat) (q:Nat)=>[]) ?_ (fun p q ⟨hpq,hle,hlp⟩=>?_)))))))
 ·refine ts (rm rfl (ro rfl (dU U_46 (Ht rfl) aA) (rm rfl (ro rfl (dU U_46 (Ht rfl) aA) (ro rfl (gJ (Ht rfl) (Ht rfl)) (eJ (dQ (Ht rfl) (fun hb => ?_) (fun hb => ?_))))))))
  ·simp at hb
   refine cY (rm rfl (rm rfl (ra rfl (ra rfl (eJ (aO (n,m) ⟨Nat.add_comm _ _,Nat.le_of_lt hb,hn⟩ (zS rfl) aY))))))
  ·simp at hb
   refine cU (aO (m,n) ⟨rfl,hb,hm⟩ (zS rfl) aY)
 ·refine ts (rm rfl (ro rfl (dU U_46 (Ht rfl) aA) (ro rfl (dW (Ht rfl) (cJ 1) z6) (rn rfl (dH (T := bM 0) (i := Tryz.t189) V_46 gS rfl rfl (Ht rfl) rfl (fun _ => rfl) trivial (by show 4 * _ ≤ _; omega) zo) fun B19 => (ra rfl (eJ (ts (ro rfl (cQ (cJ 0)) (eJ (cK (ts (ro rfl (cQ (cJ 0)) (eJ (eU ?_))))))))))))))
  refine iM (fun (k : Nat) (out : List Nat) (c : Nat) => vP (dg p) (dg q) out k c) (fun (k : Nat) (out : List Nat) (c : Nat) => (dg p).length - k) (fun (k : Nat) (out : List Nat) (c : Nat) => [(0, aE p), (1, aE q), (5, Is (.slice (some ⟨B19, 0, none⟩) ((dg p).length + 1) ((dg p).length + 1))), (6, NT .u64 c), (7, NT .i64 k)]) (fun (k : Nat) (out : List Nat) (c : Nat) => [box B19 189 (out.map bM)]) 0 (List.replicate ((dg p).length + 1) 0) 0 (vP.start _ _)
   (zS rfl) (aU (aB (jN _)) aY) (fun k out c hS=>?_)
  refine cK (ts (rm rfl (rm rfl (ro rfl (dU U_46 (Ht rfl) aA) (ro rfl (gJ (Ht rfl) (Ht rfl)) (eJ (dQ (Ht rfl) (fun hb=>?_) (fun hb=>?_))))))))
  ·simp at hb
   have hlen:=hS.len; have hcl:=hS.cle; have hxk:=aL (bA p) k; have hyk:=aL (bA q) k
   simp only [BB] at hxk hyk
   refine cU (cK (eU (ts (rm rfl (rm rfl (ro rfl (dZ U_46 Z_189 (Ht rfl) (Ht rfl) rfl (eX (aF zo))) (ro rfl (dJ A_189 Z_189 (Ht rfl)) (ro rfl (gV U_189 U_254 (Ht rfl) z7) (rm rfl (ro rfl (dW (Ht rfl) (Ht rfl) z7) (ra rfl (eJ (cK (iY (fun (s:Nat)=>s = (dg p).getD k 0 + (dg q).getD k 0 + c) (fun (s:Nat)=>[(0,aE p),(1,aE q),(5,Is (.slice (some ⟨B19,0,none⟩) ((dg p).length + 1) ((dg p).length + 1))),(7,NT .i64 k),(8,NT .u64 s)]) (fun (s:Nat)=>[box B19 189 (out.map bM)]) ?_ (fun s hs=>?_)))))))))))))))
   ·refine ts (rm rfl (rm rfl (ro rfl (dU U_46 (Ht rfl) aA) (ro rfl (gJ (Ht rfl) (Ht rfl)) (eJ (dQ (Ht rfl) (fun hk2 => ?_) (fun hk2 => ?_)))))))
    ·simp at hk2
     refine cY (rm rfl (rm rfl (rm rfl (ro rfl (dZ U_46 Z_189 (Ht rfl) (Ht rfl) rfl (eX (aF zo))) (ro rfl (dJ A_189 Z_189 (Ht rfl)) (ro rfl (gV U_189 U_254 (Ht rfl) z7) (ro rfl (dW (Ht rfl) (Ht rfl) z7) (ra rfl (eJ (aO ((dg p).getD k 0 + c + (dg q).getD k 0) zo (zS rfl) (cL.refl _)))))))))))
    ·simp at hk2
     have hq0:(dg q).getD k 0 = 0:=by simp [List.getD,List.getElem?_eq_none hk2]
     refine cU (aO ((dg p).getD k 0 + c) zo (zS rfl) (cL.refl _))
   ·refine ts (rm rfl (rm rfl (rm rfl (ro rfl (eO rfl U_254 U_189 (Ht rfl)) (ro rfl (gX U_46 Z_189 (Ht rfl) (Ht rfl) rfl zo (by rw [Nat.mul_one, Nat.zero_add])) ?_)))))
    refine jX Z_189 (Ht rfl) (Ht rfl) (i:=0) rfl (by first | omega | (simp; omega)) rfl (eJ (cY (rm rfl (ro rfl (dT (Ht rfl) (cJ 32) (by decide)) (ra rfl (eJ (aR (cY (rm rfl (ro rfl (dW (Ht rfl) (cJ 1) z6) (ra rfl (eJ (gQ (k + 1,out.set k (s % 4294967296),s / 4294967296) (by show vP _ _ (out.set k (s % 4294967296)) (k + 1) (s / 4294967296); rw [hs]; exact hS.next (bA p) (bA q) hb) (by dsimp only; omega) (zS rfl) (aU (aB (eL _ _ _)) aY))))))))))))))
  ·simp at hb
   have hkl:k = (dg p).length:=Nat.le_antisymm hS.kle hb
   subst hkl
   have hlen:=hS.len; have hcl:=hS.cle
   refine gG rfl (ts (rm rfl (rm rfl (ro rfl (dU U_46 (Ht rfl) aA) (rm rfl (ro rfl (gV U_254 U_189 (Ht rfl) (by show _ < 4294967296; first | omega | (simp only [kF]; omega))) (ro rfl (gX U_46 Z_189 (Ht rfl) (Ht rfl) rfl zo (by rw [Nat.mul_one,Nat.zero_add])) ?_)))))))
   refine jX Z_189 (Ht rfl) (Ht rfl) (i:=0) rfl (by first | omega | (simp; omega)) rfl (eJ (cK ?_))
   have hfin:=hS.fin hle
   refine gW (i:=0) (tt:=5) rfl rfl (kE (eL _ _ _) (by simp [hlen]) (Nat.le_refl _)) ?_
   refine cY (rm rfl (ro rfl (cZ K_267 (mN _ (jD hS.dig (by simp only [BB]; omega)) (by simp [hlen]; omega)) ⟨(Ht rfl),trivial⟩) ?_))
   refine ra rfl (eJ (fK rfl (fJ (fQ rfl) ?_)))
   exact (cF (by rw [hfin,cA,cA]; exact hpq))
theorem zV {m n:Nat} (hm:(dg m).length ≤ 17592186044416) (hnm:n ≤ m):aS Tryz.prog 270 [aE m,aE n] (aE (m - n)):=by
 have hle:=gH hnm
 refine aS.intro Tryz.func270 rfl Tryz.ntmps270 rfl (fun cx=>(ts (ro rfl (cQ cV) (eJ (ts (rm rfl (ro rfl (dU U_46 (Ht rfl) aA) (rn rfl (dH (T:=bM 0) (i:=Tryz.t189) V_46 gS rfl rfl (Ht rfl) rfl (fun _=>rfl) trivial (by show 4 * _ ≤ _; omega) zo) fun B11=>(ra rfl (eJ (ts (ro rfl (cQ (cJ 0)) (eJ (cK (ts (ro rfl (cQ (cJ 0)) (eJ (eU ?_))))))))))))))))))
 refine iM (fun (k : Nat) (out : List Nat) (c : Nat) => vS (dg m) (dg n) out k c) (fun (k : Nat) (out : List Nat) (c : Nat) => (dg m).length - k) (fun (k : Nat) (out : List Nat) (c : Nat) => [(0, aE m), (1, aE n), (5, Is (.slice (some ⟨B11, 0, none⟩) (dg m).length (dg m).length)), (6, NT .u64 c), (7, NT .i64 k)]) (fun (k : Nat) (out : List Nat) (c : Nat) => [box B11 189 (out.map bM)]) 0 (List.replicate (dg m).length 0) 0 (vS.start _ _)
  (zS rfl) (aU (aB (jN _)) aY) (fun k out c hS=>?_)
 refine cK (ts (rm rfl (rm rfl (ro rfl (dU U_46 (Ht rfl) aA) (ro rfl (gJ (Ht rfl) (Ht rfl)) (eJ (dQ (Ht rfl) (fun hb=>?_) (fun hb=>?_))))))))
 ·simp at hb
  have hlen:=hS.len; have hcl:=hS.cle; have hxk:=aL (bA m) k; have hyk:=aL (bA n) k
  simp only [BB] at hxk hyk
  refine cU (cK (eU (ts (rm rfl (rm rfl (ro rfl (dZ U_46 Z_189 (Ht rfl) (Ht rfl) rfl (eX (aF zo))) (ro rfl (dJ A_189 Z_189 (Ht rfl)) (ro rfl (gV U_189 U_254 (Ht rfl) z7) (rm rfl (ro rfl (kQ rfl (Ht rfl) (Ht rfl) (by show _ ≤ 18446744073709551616; first | omega | (simp only [kF]; omega))) (ra rfl (eJ (cK (iY (fun (s:Nat)=>s = (((dg m).getD k 0 + 18446744073709551616 - c) % 18446744073709551616 + 18446744073709551616 - (dg n).getD k 0) % 18446744073709551616) (fun (s:Nat)=>[(0,aE m),(1,aE n),(5,Is (.slice (some ⟨B11,0,none⟩) (dg m).length (dg m).length)),(7,NT .i64 k),(8,NT .u64 s)]) (fun (s:Nat)=>[box B11 189 (out.map bM)]) ?_ (fun s hs=>?_)))))))))))))))
  ·refine ts (rm rfl (rm rfl (ro rfl (dU U_46 (Ht rfl) aA) (ro rfl (gJ (Ht rfl) (Ht rfl)) (eJ (dQ (Ht rfl) (fun hk2 => ?_) (fun hk2 => ?_)))))))
   ·simp at hk2
    refine cY (rm rfl (rm rfl (rm rfl (ro rfl (dZ U_46 Z_189 (Ht rfl) (Ht rfl) rfl (eX (aF zo))) (ro rfl (dJ A_189 Z_189 (Ht rfl)) (ro rfl (gV U_189 U_254 (Ht rfl) z7) (ro rfl (kQ rfl (Ht rfl) (Ht rfl) (by show _ ≤ 18446744073709551616; first | omega | (simp only [kF]; omega))) (ra rfl (eJ (aO _ rfl (zS rfl) (cL.refl _)))))))))))
   ·simp at hk2
    have hq0:(dg n).getD k 0 = 0:=by simp [List.getD,List.getElem?_eq_none hk2]
    refine cU (aO (((dg m).getD k 0 + 18446744073709551616 - c) % 18446744073709551616) zo (zS rfl) (cL.refl _))
  ·refine ts (rm rfl (rm rfl (rm rfl (ro rfl (eO rfl U_254 U_189 (Ht rfl)) (ro rfl (gX U_46 Z_189 (Ht rfl) (Ht rfl) rfl zo (by rw [Nat.mul_one, Nat.zero_add])) ?_)))))
   refine jX Z_189 (Ht rfl) (Ht rfl) (i:=0) rfl (by first | omega | (simp; omega)) rfl (eJ (cY (rm rfl (ro rfl (dT (Ht rfl) (cJ 63) (by decide)) (ra rfl (eJ (aR (cY (rm rfl (ro rfl (dW (Ht rfl) (cJ 1) z6) (ra rfl (eJ ?_))))))))))))
   refine gQ (k + 1, out.set k (s % 4294967296), s / 9223372036854775808) (by
     show vS _ _ (out.set k (s % 4294967296)) (k + 1) (s / 9223372036854775808)
     have h1:=hS.next (bA m) (bA n) hb
     rw [← show s % 4294967296 = ((dg m).getD k 0 + 8589934592 - (dg n).getD k 0 - c) % 4294967296 by omega,← show s / 9223372036854775808 = (if (dg m).getD k 0 < (dg n).getD k 0 + c then 1 else 0) by (split <;> omega)] at h1
     exact h1) (by dsimp only; omega) (zS rfl) (aU (aB (eL _ _ _)) aY)
 ·simp at hb
  have hkl:k = (dg m).length:=Nat.le_antisymm hS.kle hb
  subst hkl
  have hlen:=hS.len
  have hfin:=hS.fin (bA m) hle (by rw [cA,cA]; exact hnm)
  rw [cA,cA] at hfin
  refine gG rfl (gW (i:=0) (tt:=5) rfl rfl (kE rfl hlen.symm (Nat.le_refl _)) (ts (rm rfl (ro rfl (cZ K_267 (mN _ hS.dig zo) ⟨(Ht rfl),trivial⟩) (ra rfl (eJ (fK rfl (fJ (fQ rfl) ?_))))))))
  exact (cF hfin)
theorem qT {m n:Nat} (hm:(dg m).length ≤ 17592186044416) (hn:(dg n).length ≤ 17592186044416):aS Tryz.prog 226 [aE m,aE n] (aE (m * n)):=by
 refine aS.intro Tryz.func226 rfl Tryz.ntmps226 rfl (fun cx=>(ts (ro rfl (cQ cV) (eJ (ts (rm rfl (ro rfl (dU U_46 (Ht rfl) aA) (rm rfl (ro rfl (dU U_46 (Ht rfl) aA) (ro rfl (dW (Ht rfl) (Ht rfl) z6) (rn rfl (dH (T:=bM 0) (i:=Tryz.t189) V_46 gS rfl rfl (Ht rfl) rfl (fun _=>rfl) trivial (by show 4 * _ ≤ _; omega) zo) fun B15=>(ra rfl (eJ (cK (ts (ro rfl (cQ (cJ 0)) (eJ (eU ?_))))))))))))))))))
 refine eH (fun (i : Nat) (out : List Nat) => wZ (dg m) (dg n) out i) (fun (i : Nat) (out : List Nat) => (dg m).length - i) (fun (i : Nat) (out : List Nat) => [(0, aE m), (1, aE n), (5, Is (.slice (some ⟨B15, 0, none⟩) ((dg m).length + (dg n).length) ((dg m).length + (dg n).length))), (6, NT .i64 i)]) (fun (i : Nat) (out : List Nat) => [box B15 189 (out.map bM)]) 0 (List.replicate ((dg m).length + (dg n).length) 0) (wZ.start _ _)
  (zS rfl) (aU (aB (jN _)) aY) (fun i out hS=>?_)
 refine cK (ts (rm rfl (rm rfl (ro rfl (dU U_46 (Ht rfl) aA) (ro rfl (gJ (Ht rfl) (Ht rfl)) (eJ (dQ (Ht rfl) (fun hb=>?_) (fun hb=>?_))))))))
 ·simp at hb
  have hxi:=aL (bA m) i
  simp only [BB] at hxi
  refine cU (cK (eU (ts (ro rfl (cQ (cJ 0)) (eJ (cK (ts (ro rfl (cQ (cJ 0)) (eJ (eU ?_))))))))))
  refine iM (fun (k : Nat) (out2 : List Nat) (c : Nat) => Cy (dg m) (dg n) out2 i k c) (fun (k : Nat) (out2 : List Nat) (c : Nat) => (dg n).length - k) (fun (k : Nat) (out2 : List Nat) (c : Nat) => [(0, aE m), (1, aE n), (5, Is (.slice (some ⟨B15, 0, none⟩) ((dg m).length + (dg n).length) ((dg m).length + (dg n).length))), (6, NT .i64 i), (7, NT .u64 c), (8, NT .i64 k)]) (fun (k : Nat) (out2 : List Nat) (c : Nat) => [box B15 189 (out2.map bM)]) 0 out 0 (hS.row hb)
   (zS rfl) (cL.refl _) (fun k out2 c hR=>?_)
  refine cK (ts (rm rfl (rm rfl (ro rfl (dU U_46 (Ht rfl) aA) (ro rfl (gJ (Ht rfl) (Ht rfl)) (eJ (dQ (Ht rfl) (fun hk=>?_) (fun hk=>?_))))))))
  ·simp at hk
   have hlen:=hR.len; have hcl:=hR.clt; have hyk:=aL (bA n) k; have hok:=aL hR.dig (i + k)
   have hbnd:=rD (aL (bA m) i) (aL (bA n) k) (aL hR.dig (i + k)) hR.clt
   simp only [BB] at hcl hyk hok hbnd
   refine cU (cK (eU (cK (fV (m:=20) (dp 0 rfl (cX (Ht rfl)) (dp 6 rfl (cX (Ht rfl)) (cH 28 0 29 1 rfl (dZ U_46 Z_189 (Ht rfl) (Ht rfl) rfl (eX (aF zo))) (dq 30 2 rfl (dJ A_189 Z_189 (Ht rfl)) (dq 31 3 rfl (gV U_189 U_254 (Ht rfl) z7) (dp 1 rfl (cX (Ht rfl)) (dp 8 rfl (cX (Ht rfl)) (cH 33 5 34 6 rfl (dZ U_46 Z_189 (Ht rfl) (Ht rfl) rfl (eX (aF zo))) ?_))))))))))))
   refine dq 35 7 rfl (dJ A_189 Z_189 (Ht rfl)) (dq 36 8 rfl (gV U_189 U_254 (Ht rfl) z7) (cH 32 4 37 9 rfl (kB (Ht rfl) (Ht rfl) z7) (dp 5 rfl (cX (Ht rfl)) (dp 6 rfl (cX (Ht rfl)) (dp 8 rfl (cX (Ht rfl)) (cH 40 12 41 13 rfl (dW (Ht rfl) (Ht rfl) z6) (cH 39 11 42 14 rfl (gX U_46 Z_189 (Ht rfl) (Ht rfl) rfl zo (by rw [Nat.mul_one,Nat.zero_add])) ?_)))))))
   refine dq 43 15 rfl (fX A_189 Z_189 (Ht rfl) (i:=0) rfl (eX (aF zo))) (dq 44 16 rfl (gV U_189 U_254 (Ht rfl) z7) (cH 38 10 45 17 rfl (dW (Ht rfl) (Ht rfl) z7) (dp 7 rfl (cX (Ht rfl)) (fG aM rfl (by kernel_rfl) (zF (zF (zF (zF (zF (aV ?_))))))))))
   refine ro rfl (dW (Ht rfl) (Ht rfl) z7) (ra rfl (eJ (ts (rm rfl (rm rfl (rm rfl (ro rfl (dW (Ht rfl) (Ht rfl) z6) (rm rfl (ro rfl (eO rfl U_254 U_189 (Ht rfl)) (ro rfl (gX U_46 Z_189 (Ht rfl) (Ht rfl) rfl zo (by rw [Nat.mul_one,Nat.zero_add])) ?_))))))))))
   refine jX Z_189 (Ht rfl) (Ht rfl) (i:=0) rfl (by first | omega | (simp; omega)) rfl (eJ (cY (rm rfl (ro rfl (dT (Ht rfl) (cJ 32) (by decide)) (ra rfl (eJ (aR (cY (rm rfl (ro rfl (dW (Ht rfl) (cJ 1) z6) (ra rfl (eJ (gQ (k + 1,_,_) (hR.next (bA m) (bA n) hk (Nat.add_comm _ _)) (by dsimp only; omega) (zS rfl) (aU (aB (eL _ _ _)) aY))))))))))))))
  ·simp at hk
   have hkl:k = (dg n).length:=Nat.le_antisymm hR.kle hk
   subst hkl
   have hlen:=hR.len; have hcl:=hR.clt
   simp only [BB] at hcl
   refine gG rfl (cY (rm rfl (rm rfl (rm rfl (ro rfl (dU U_46 (Ht rfl) aA) (ro rfl (dW (Ht rfl) (Ht rfl) z6) (rm rfl (ro rfl (gV U_254 U_189 (Ht rfl) (by show _ < 4294967296; first | omega | (simp only [kF]; omega))) (ro rfl (gX U_46 Z_189 (Ht rfl) (Ht rfl) rfl zo (by rw [Nat.mul_one,Nat.zero_add])) ?_)))))))))
   refine jX Z_189 (Ht rfl) (Ht rfl) (i:=0) rfl (by first | omega | (simp; omega)) rfl (eJ (aR (cY (rm rfl (ro rfl (dW (Ht rfl) (cJ 1) z6) (ra rfl (eJ (gQ (i + 1,_) (hR.fin) (by dsimp only; omega) (zS rfl) (aU (aB (eL _ _ _)) aY)))))))))
 ·simp at hb
  have hkl:i = (dg m).length:=Nat.le_antisymm hS.ile hb
  subst hkl
  have hlen:=hS.len
  have hfin:=hS.fin
  rw [cA,cA] at hfin
  refine gG rfl (gW (i:=0) (tt:=5) rfl rfl (kE rfl hlen.symm (Nat.le_refl _)) (ts (rm rfl (ro rfl (cZ K_267 (mN _ hS.dig zo) ⟨(Ht rfl),trivial⟩) (ra rfl (eJ (fK rfl (fJ (fQ rfl) ?_))))))))
  exact (cF hfin)
theorem Do {m y:Nat} (hm:(dg m).length ≤ 17592186044416) (hy:0 < y) (hyb:y < BB):aS Tryz.prog 281 [aE m,bM y] (gE [aE (m / y),bM (m % y)]):=by
 refine aS.intro Tryz.func281 rfl Tryz.ntmps281 rfl (fun cx=>?_)
 have hyb2:=hyb
 simp only [BB] at hyb2
 refine ts (ro rfl (cQ cV) (ro rfl (cQ (cJ 0)) (eJ (ts (rm rfl (ro rfl (dU U_46 (Ht rfl) aA) (rn rfl (dH (T:=bM 0) (i:=Tryz.t189) V_46 gS rfl rfl (Ht rfl) rfl (fun _=>rfl) trivial (by show 4 * _ ≤ _; omega) zo) fun B12=>(ra rfl (eJ (ts (ro rfl (cQ (cJ 0)) (eJ (cK (ts (rm rfl (ro rfl (dU U_46 (Ht rfl) aA) (ro rfl (iD (Ht rfl) cV (zL zo)) (ra rfl (eJ (eU ?_))))))))))))))))))))
 refine iM (fun (k : Nat) (out : List Nat) (r : Nat) => mZ (dg m) y out k r) (fun (k : Nat) (out : List Nat) (r : Nat) => k) (fun (k : Nat) (out : List Nat) (r : Nat) => [(0, aE m), (1, bM y), (6, Is (.slice (some ⟨B12, 0, none⟩) (dg m).length (dg m).length)), (7, NT .u64 r), (8, bC .i64 ((k : Int) - 1))]) (fun (k : Nat) (out : List Nat) (r : Nat) => [box B12 189 (out.map bM)]) (dg m).length (List.replicate (dg m).length 0) 0 (mZ.start _ hy)
  (zS rfl) (aU (aB (jN _)) aY) (fun k out r hS=>?_)
 refine cK (ts (rm rfl (ro rfl (kV (Ht rfl) cV) (eJ (dQ (Ht rfl) (fun hb=>?_) (fun hb=>?_))))))
 ·simp at hb
  have hlen:=hS.len; have hkl:=hS.kle; have hrl:=hS.rlt; have hxk:=aL (bA m) (k - 1)
  have hz2:=Ud (Nat.lt_trans hrl hyb) hxk; have hsh:=Fx (Nat.lt_trans hrl hyb); have hq:=Ay hrl hxk; have hor:=sE (a:=r) hxk; have hmod:=Nat.mod_lt (r * BB + (dg m).getD (k - 1) 0) hy
  have hxk2:=hxk
  simp only [BB] at hxk2
  refine cU (cK (eU (ts (rm rfl (ro rfl (mB (Ht rfl) (cJ 32) (by decide) hsh) (rm rfl (rm rfl (ro rfl (dZ U_46 Z_189 (Ht rfl) (Ht rfl) (show ((k:Int) - 1) = ((k - 1:Nat):Int) by omega) (eX (aF zo))) (ro rfl (dJ A_189 Z_189 (Ht rfl)) (ro rfl (gV U_189 U_254 (Ht rfl) z7) (ro rfl (aI.nat (nE rfl (Ht rfl) (Ht rfl) z7 z7) hor) ?_)))))))))))
  refine ra rfl (eJ (ts (rm rfl (rm rfl (rm rfl (rm rfl (ro rfl (gV U_189 U_254 (Ht rfl) z7) (ro rfl (iR (Ht rfl) (Ht rfl) zo (by show _ < 18446744073709551616; exact hz2)) (ro rfl (gV U_254 U_189 (Ht rfl) (by show _ < 4294967296; exact hq)) (ro rfl (gX U_46 Z_189 (Ht rfl) (Ht rfl) (show ((k:Int) - 1) = ((k - 1:Nat):Int) by omega) zo (by rw [Nat.mul_one,Nat.zero_add])) ?_))))))))))
  refine jX Z_189 (Ht rfl) (Ht rfl) (i:=0) rfl (by first | omega | (simp; omega)) rfl (eJ (cY (rm rfl (rm rfl (ro rfl (gV U_189 U_254 (Ht rfl) z7) (ro rfl (mA (Ht rfl) (Ht rfl) zo) (ra rfl (eJ (aR (cY (rm rfl (ro rfl (iD (Ht rfl) cV (zL zo)) (ra rfl (eJ (gQ (k - 1,_,_) (hS.next (bA m) zo rfl) (by dsimp only; omega) (aQ rfl (aQ rfl (aQ rfl (aQ rfl (aZ rfl (bB zo) aX))))) (aU (aB (eL _ _ _)) aY))))))))))))))))
 ·simp at hb
  have hk0:k = 0:=by omega
  subst hk0
  have hlen:=hS.len; have hrl:=hS.rlt
  have hfin:=hS.fin
  rw [cA] at hfin
  refine gG rfl (gW (i:=0) (tt:=6) rfl rfl (kE rfl hlen.symm (Nat.le_refl _)) (ts (rm rfl (ro rfl (cZ K_267 (mN _ hS.dig zo) ⟨(Ht rfl),trivial⟩) (rm rfl (ro rfl (gV U_254 U_189 (Ht rfl) (by show _ < 4294967296; first | omega | (simp only [kF]; omega))) (ra rfl (ra rfl (eJ (bN rfl (fJ (fQ rfl) ?_) (fJ (fQ rfl) ?_)))))))))))
  ·exact (cF hfin.1)
  ·exact (lL hfin.2)
end
section
open Go Go.RowKit
theorem Vf {m:Nat} (hm:(dg m).length ≤ 17592186044416) (h0:m ≠ 0):aS Tryz.prog 282 [aE m] (NT .i64 (32 * ((dg m).length - 1) + bl ((dg m).getD ((dg m).length - 1) 0))):=by
 have hl:(dg m).length ≠ 0:=fun e=>h0 (aH.1 e)
 have htl:=aL (bA m) ((dg m).length - 1)
 obtain ⟨v,hv⟩:∃ v,v = (dg m).getD ((dg m).length - 1) 0:=⟨_,rfl⟩
 rw [← hv] at htl ⊢
 simp only [BB] at htl
 have hb32:=mE (k:=32) htl
 refine aS.intro Tryz.func282 rfl Tryz.ntmps282 rfl (fun cx=>(ts (ro rfl (cQ (cJ 0)) (eJ (cK (ts (rm rfl (ro rfl (dU U_46 (Ht rfl) aA) (ro rfl (cT (Ht rfl) (cJ 0)) (eJ (jZ (Ht rfl) (by simpa using hl) ?_)))))))))))
 refine cU (ts (ro rfl (cQ (cJ 0)) (eJ (cK (ts (rm rfl (rm rfl (ro rfl (dU U_46 (Ht rfl) aA) (ro rfl (dK (Ht rfl) (cJ 1) zo z6) (ro rfl (dZ U_46 Z_189 (Ht rfl) (Ht rfl) rfl (eX (aF zo))) (ro rfl (dJ A_189 Z_189 (Ht rfl)) (ra rfl (eJ (eU ?_))))))))))))))
 refine eH (fun (x : Nat) (q : Nat) => bl v = q + bl x ∧ x < 4294967296) (fun (x : Nat) (q : Nat) => x) (fun (x : Nat) (q : Nat) => [(0, aE m), (3, NT .i64 q), (4, bM x)]) (fun (x : Nat) (q : Nat) => []) v 0 ⟨(Nat.zero_add _).symm, htl⟩
  (aQ rfl (aQ rfl (aZ rfl (lL hv.symm) aX))) aY (fun x q ⟨hq,hx⟩=>?_)
 refine cK (ts (rm rfl (ro rfl (dL (Ht rfl) (cJ 0)) (eJ (dQ (Ht rfl) (fun hb=>?_) (fun hb=>?_))))))
 ·simp at hb
  have hsh:=Uw (v:=x) zo
  refine cU (cK (eU (cY (rm rfl (ro rfl (dW (Ht rfl) (cJ 1) z6) (ra rfl (eJ (aR (cY (rm rfl (ro rfl (dT (Ht rfl) (cJ 1) (by decide)) (ra rfl (eJ (gQ (x / 2 ^ 1,q + 1) ⟨by dsimp only; omega,by dsimp only; omega⟩ (by dsimp only; omega) (zS rfl) aY))))))))))))))
 ·simp at hb
  subst hb
  rw [Ux] at hq
  refine gG rfl (ts (rm rfl (ro rfl (dU U_46 (Ht rfl) aA) (ro rfl (dK (Ht rfl) (cJ 1) zo z6) (ro rfl (kB (cJ 32) (Ht rfl) z6) (rm rfl (ro rfl (dW (Ht rfl) (Ht rfl) z6) (ra rfl (eJ (fK rfl (fJ (fQ rfl) ?_)))))))))))
  exact (lL zo)
theorem Qh {m k:Nat} (hm:(dg m).length ≤ 17592186044416) (hk:k ≤ 562949953421312):aS Tryz.prog 283 [aE m,NT .i64 k] (aE (m * 2 ^ k)):=by
 refine aS.intro Tryz.func283 rfl Tryz.ntmps283 rfl (fun cx=>(ts (ro rfl (cQ cV) (eJ (cK (ts (rm rfl (ro rfl (dU U_46 (Ht rfl) aA) (ro rfl (cT (Ht rfl) (cJ 0)) (eJ (dQ (Ht rfl) (fun hb=>?_) (fun hb=>?_))))))))))))
 ·simp [aH] at hb
  have h0:m * 2 ^ k = 0:=by simp_all [oI]
  refine ts (ro rfl (cQ cV) (eJ (fK rfl (fJ (fQ rfl) ?_))))
  exact (fun v V h=>by rw [h0]; exact jG v V h)
 ·clear hb
  have hr:=Nat.mod_lt k (by decide:32 > 0)
  refine cU (ts (rm rfl (ro rfl (dU U_46 (Ht rfl) aA) (rm rfl (ro rfl (iR (Ht rfl) (cJ 32) zo z6) (ro rfl (dW (Ht rfl) (Ht rfl) z6) (ro rfl (dW (Ht rfl) (cJ 1) z6) (rn rfl (dH (T:=bM 0) (i:=Tryz.t189) V_46 gS rfl rfl (Ht rfl) rfl (fun _=>rfl) trivial (by show 4 * _ ≤ _; omega) zo) fun B17=>?_))))))))
  refine ra rfl (eJ (cK (ts (ro rfl (cQ (cJ 0)) (eJ (eU ?_))))))
  refine eH (fun (i : Nat) (out : List Nat) => xD (dg m) (k / 32) (k % 32) out i) (fun (i : Nat) (out : List Nat) => (dg m).length - i) (fun (i : Nat) (out : List Nat) => [(0, aE m), (1, NT .i64 k), (5, Is (.slice (some ⟨B17, 0, none⟩) ((dg m).length + k / 32 + 1) ((dg m).length + k / 32 + 1))), (6, NT .i64 i)]) (fun (i : Nat) (out : List Nat) => [box B17 189 (out.map bM)]) 0 (List.replicate ((dg m).length + k / 32 + 1) 0) (xD.start _ _ _)
   (zS rfl) (aU (aB (jN _)) aY) (fun i out hS=>?_)
  refine cK (ts (rm rfl (rm rfl (ro rfl (dU U_46 (Ht rfl) aA) (ro rfl (gJ (Ht rfl) (Ht rfl)) (eJ (dQ (Ht rfl) (fun hb=>?_) (fun hb=>?_))))))))
  ·simp at hb
   have hlen:=hS.len; have hxi:=aL (bA m) i; have hok:=aL hS.dig (i + k / 32)
   have hv:=Ax hxi hr
   have hd:(dg m).getD i 0 * 2 ^ (k % 32) / 2 ^ 32 < 4294967296:=Nat.div_lt_of_lt_mul hv
   simp only [BB] at hxi hok
   refine cU (cK (eU (ts (rm rfl (rm rfl (ro rfl (dZ U_46 Z_189 (Ht rfl) (Ht rfl) rfl (eX (aF zo))) (ro rfl (dJ A_189 Z_189 (Ht rfl)) (ro rfl (gV U_189 U_254 (Ht rfl) z7) (rm rfl (ro rfl (mA (Ht rfl) (cJ 32) zo) (ro rfl (gV U_3 U_255 (Ht rfl) z7) (ro rfl (mB (Ht rfl) (Ht rfl) (by show _ ≤ _; simp [IntKind.bits]; omega) (by show _ < 18446744073709551616; exact hv)) ?_))))))))))))
   refine ra rfl (eJ (ts (rm rfl (rm rfl (rm rfl (ro rfl (iR (Ht rfl) (cJ 32) zo z6) (ro rfl (dW (Ht rfl) (Ht rfl) z6) (rm rfl (rm rfl (rm rfl (ro rfl (iR (Ht rfl) (cJ 32) zo z6) (ro rfl (dW (Ht rfl) (Ht rfl) z6) (ro rfl (gX U_46 Z_189 (Ht rfl) (Ht rfl) rfl zo (by rw [Nat.mul_one,Nat.zero_add])) ?_)))))))))))))
   refine ro rfl (fX A_189 Z_189 (Ht rfl) (i:=0) rfl (eX (aF zo))) (rm rfl (ro rfl (eO rfl U_254 U_189 (Ht rfl)) (ro rfl (nE rfl (Ht rfl) (Ht rfl) (by show _ < 4294967296; omega) (by show _ % 4294967296 < 4294967296; omega)) (ro rfl (gX U_46 Z_189 (Ht rfl) (Ht rfl) rfl zo (by rw [Nat.mul_one,Nat.zero_add])) ?_))))
   refine jX Z_189 (Ht rfl) (Ht rfl) (i:=0) rfl (by first | omega | (simp; omega)) rfl (eJ (cY (rm rfl (rm rfl (rm rfl (ro rfl (iR (Ht rfl) (cJ 32) zo z6) (ro rfl (dW (Ht rfl) (Ht rfl) z6) (ro rfl (dW (Ht rfl) (cJ 1) z6) (rm rfl (ro rfl (dT (Ht rfl) (cJ 32) (by decide)) (ro rfl (gV U_254 U_189 (Ht rfl) (by show _ < 4294967296; exact hd)) ?_)))))))))))
   refine ro rfl (gX U_46 Z_189 (Ht rfl) (Ht rfl) rfl zo (by rw [Nat.mul_one,Nat.zero_add])) ?_
   refine jX Z_189 (Ht rfl) (Ht rfl) (i:=0) rfl (by first | omega | (simp; omega)) rfl (eJ (aR (cY (rm rfl (ro rfl (dW (Ht rfl) (cJ 1) z6) (ra rfl (eJ (gQ (i + 1,_) (hS.next (bA m) hr hb rfl rfl) (by dsimp only; omega) (zS rfl) (aU (aB (Fv _ _ _ _ _)) aY)))))))))
  ·simp at hb
   have hkl:i = (dg m).length:=Nat.le_antisymm hS.kle hb
   subst hkl
   have hlen:=hS.len
   have hfin:=hS.fin
   rw [cA,lA] at hfin
   refine gG rfl (gW (i:=0) (tt:=5) rfl rfl (kE rfl hlen.symm (Nat.le_refl _)) (ts (rm rfl (ro rfl (cZ K_267 (mN _ hS.dig zo) ⟨(Ht rfl),trivial⟩) (ra rfl (eJ (fK rfl (fJ (fQ rfl) ?_))))))))
   exact (cF hfin)
theorem a0t {m k:Nat} (hm:(dg m).length ≤ 17592186044416) (hk:k ≤ 562949953421312):aS Tryz.prog 284 [aE m,NT .i64 k] (aE (m / 2 ^ k)):=by
 refine aS.intro Tryz.func284 rfl Tryz.ntmps284 rfl (fun cx=>?_)
 have hr:=Nat.mod_lt k (by decide:32 > 0)
 refine ts (ro rfl (cQ cV) (eJ (cK (ts (rm rfl (ro rfl (iR (Ht rfl) (cJ 32) zo z6) (rm rfl (ro rfl (dU U_46 (Ht rfl) aA) (ro rfl (nX (Ht rfl) (Ht rfl)) (eJ (dQ (Ht rfl) (fun hb=>?_) (fun hb=>?_))))))))))))
 ·simp at hb
  have h0:=Fz (bA m) hb (r:=k % 32)
  rw [cA,lA] at h0
  refine ts (ro rfl (cQ cV) (eJ (fK rfl (fJ (fQ rfl) ?_))))
  exact (fun v V h=>cF h0.symm v V (jG v V h))
 ·simp at hb
  refine cU (ts (rm rfl (ro rfl (dU U_46 (Ht rfl) aA) (rm rfl (ro rfl (iR (Ht rfl) (cJ 32) zo z6) (ro rfl (dK (Ht rfl) (Ht rfl) zo z6) (rn rfl (dH (T:=bM 0) (i:=Tryz.t189) V_46 gS rfl rfl (Ht rfl) rfl (fun _=>rfl) trivial (by show 4 * _ ≤ _; omega) zo) fun B18=>(ra rfl (eJ (cK (ts (ro rfl (cQ (cJ 0)) (eJ (eU ?_))))))))))))))
  refine eH (fun (i : Nat) (out : List Nat) => xE (dg m) (k / 32) (k % 32) out i) (fun (i : Nat) (out : List Nat) => (dg m).length - i) (fun (i : Nat) (out : List Nat) => [(0, aE m), (1, NT .i64 k), (5, Is (.slice (some ⟨B18, 0, none⟩) ((dg m).length - k / 32) ((dg m).length - k / 32))), (6, NT .i64 i)]) (fun (i : Nat) (out : List Nat) => [box B18 189 (out.map bM)]) 0 (List.replicate ((dg m).length - k / 32) 0) (xE.start _ _ _)
   (zS rfl) (aU (aB (jN _)) aY) (fun i out hS=>?_)
  refine cK (ts (rm rfl (rm rfl (ro rfl (fN U_46 (Ht rfl)) (ro rfl (gJ (Ht rfl) (Ht rfl)) (eJ (dQ (Ht rfl) (fun hb=>?_) (fun hb=>?_))))))))
  ·simp at hb
   have hlen:=hS.len; have hx0:=aL (bA m) (i + k / 32); have hx1:=aL (bA m) (i + k / 32 + 1)
   have hio:i < out.length:=by omega
   simp only [BB] at hx0 hx1
   refine cU (cK (eU (ts (rm rfl (rm rfl (rm rfl (ro rfl (iR (Ht rfl) (cJ 32) zo z6) (ro rfl (dW (Ht rfl) (Ht rfl) z6) (ro rfl (dZ U_46 Z_189 (Ht rfl) (Ht rfl) rfl (eX (aF zo))) (ro rfl (dJ A_189 Z_189 (Ht rfl)) (ro rfl (gV U_189 U_254 (Ht rfl) z7) ?_)))))))))))
   refine ra rfl (eJ (cK (iY (fun (v:Nat)=>v = (dg m).getD (i + k / 32) 0 + BB * (dg m).getD (i + k / 32 + 1) 0) (fun (v:Nat)=>[(0,aE m),(1,NT .i64 k),(5,Is (.slice (some ⟨B18,0,none⟩) ((dg m).length - k / 32) ((dg m).length - k / 32))),(6,NT .i64 i),(7,NT .u64 v)]) (fun (v:Nat)=>[box B18 189 (out.map bM)]) ?_ (fun v hv=>?_))))
   ·refine ts (rm rfl (rm rfl (ro rfl (iR (Ht rfl) (cJ 32) zo z6) (ro rfl (dW (Ht rfl) (Ht rfl) z6) (ro rfl (dW (Ht rfl) (cJ 1) z6) (rm rfl (ro rfl (dU U_46 (Ht rfl) aA) (ro rfl (gJ (Ht rfl) (Ht rfl)) (eJ (dQ (Ht rfl) (fun hk2 => ?_) (fun hk2 => ?_)))))))))))
    ·simp at hk2
     refine cY (rm rfl (rm rfl (rm rfl (rm rfl (ro rfl (iR (Ht rfl) (cJ 32) zo z6) (ro rfl (dW (Ht rfl) (Ht rfl) z6) (ro rfl (dW (Ht rfl) (cJ 1) z6) (ro rfl (dZ U_46 Z_189 (Ht rfl) (Ht rfl) rfl (eX (aF zo))) (ro rfl (dJ A_189 Z_189 (Ht rfl)) (ro rfl (gV U_189 U_254 (Ht rfl) z7) ?_))))))))))
     refine ro rfl (mB (Ht rfl) (cJ 32) (by decide) (by show _ < 18446744073709551616; omega)) (ro rfl (aI.nat (nE rfl (Ht rfl) (Ht rfl) z7 z7) (Lv hx0)) (ra rfl (eJ (aO ((dg m).getD (i + k / 32) 0 + BB * (dg m).getD (i + k / 32 + 1) 0) rfl (zS rfl) (cL.refl _)))))
    ·simp at hk2
     refine cU (aO ((dg m).getD (i + k / 32) 0) (by simp [List.getD,List.getElem?_eq_none hk2]) (zS rfl) (cL.refl _))
   ·refine cY (rm rfl (rm rfl (rm rfl (rm rfl (ro rfl (mA (Ht rfl) (cJ 32) zo) (ro rfl (gV U_3 U_255 (Ht rfl) z7) (ro rfl (dT (Ht rfl) (Ht rfl) (by show _ ≤ 64; omega)) (ro rfl (eO rfl U_254 U_189 (Ht rfl)) (ro rfl (gX U_46 Z_189 (Ht rfl) (Ht rfl) rfl zo (by rw [Nat.mul_one, Nat.zero_add])) ?_)))))))))
    refine jX Z_189 (Ht rfl) (Ht rfl) (i:=0) rfl (by first | omega | (simp; omega)) rfl (eJ (aR (cY (rm rfl (ro rfl (dW (Ht rfl) (cJ 1) z6) (ra rfl (eJ (gQ (i + 1,_) (hS.next (bA m) hr hio (by rw [hv]; rfl)) (by dsimp only; omega) (zS rfl) (aU (aB (eL _ _ _)) aY)))))))))
  ·simp at hb
   have hlen:=hS.len
   have hkl:i = out.length:=Nat.le_antisymm hS.kle zo
   subst hkl
   have hfin:=hS.fin (bA m) zo
   rw [cA,lA] at hfin
   refine gG rfl (gW (i:=0) (tt:=5) rfl rfl (kE rfl hlen.symm (Nat.le_refl _)) (ts (rm rfl (ro rfl (cZ K_267 (mN _ hS.dig zo) ⟨(Ht rfl),trivial⟩) (ra rfl (eJ (fK rfl (fJ (fQ rfl) ?_))))))))
   exact (cF hfin)
theorem tW {m n:Nat} (hm:(dg m).length ≤ 17592186044415) (hn1:(dg n).length ≤ 17592186044416) (hn:n ≠ 0):aS Tryz.prog 265 [aE m,aE n] (gE [aE (m / n),aE (m % n)]):=by
 refine aS.intro Tryz.func265 rfl Tryz.ntmps265 rfl (fun cx=>(ts (ro rfl (cQ cV) (ro rfl (cQ cV) (eJ (cK (ts (rm rfl (rm rfl (ro rfl (cZ Tryz.call237 (oG zo zo) ⟨(Ht rfl),(Ht rfl),trivial⟩) (ro rfl (mK (Ht rfl) cV) (eJ (dQ (Ht rfl) (fun hb=>?_) (fun hb=>?_))))))))))))))
 ·simp only [decide_eq_true_eq] at hb
  have hlt:m < n:=Bp hb
  refine ts (rm rfl (ro rfl (cQ cV) (ra rfl (eJ (bN rfl (fJ (fQ rfl) ?_) (fJ (fQ rfl) ?_))))))
  ·exact (fun v V h=>cF (Nat.div_eq_of_lt hlt).symm v V (jG v V h))
  ·exact (cF (Nat.mod_eq_of_lt hlt).symm)
 ·simp only [decide_eq_false_iff_not] at hb
  have hle:n ≤ m:=Bo zo
  clear hb
  refine cU (cK (ts (rm rfl (ro rfl (dU U_46 (Ht rfl) aA) (ro rfl (cT (Ht rfl) (cJ 1)) (eJ (dQ (Ht rfl) (fun h1=>?_) (fun h1=>?_))))))))
  ·simp at h1
   have hy0:=Rf h1
   have hyb:=aL (bA n) 0
   have hmod:=Nat.mod_lt m (show (dg n).getD 0 0 > 0 by omega)
   have hyb2:=hyb
   simp only [BB] at hyb
   refine ts (rm rfl (rm rfl (ro rfl (dZ U_46 Z_189 (Ht rfl) (cJ 0) rfl (eX (aF zo))) (ro rfl (dJ A_189 Z_189 (Ht rfl)) (ro rfl (cZ Tryz.call281 (Do zo zo hyb2) ⟨(Ht rfl),(Ht rfl),trivial⟩) (rm rfl (ro rfl (dY (Ht rfl) rfl) (ro rfl (dY (Ht rfl) rfl) (ra rfl (ra rfl (eJ (ts (rm rfl (rm rfl (ro rfl (gV U_189 U_254 (Ht rfl) z7) (ro rfl (cZ Tryz.call268 (xM zo) ⟨(Ht rfl),trivial⟩) ?_))))))))))))))))
   refine ra rfl (ra rfl (eJ (bN rfl (fJ (fQ rfl) ?_) (fJ (fQ rfl) ?_))))
   ·exact (cF (by rw [hy0]))
   ·exact (cF (by rw [hy0]))
  ·simp at h1
   have hl0:(dg n).length ≠ 0:=fun e=>hn (aH.1 e)
   have hyb:=aL (bA n) ((dg n).length - 1)
   obtain ⟨s,hs⟩:∃ s,s = 32 - bl ((dg n).getD ((dg n).length - 1) 0):=⟨_,rfl⟩
   obtain ⟨hs1,hvl,hvb⟩:=Ej hn hs
   obtain ⟨hc1,hc2,hc3,hc4⟩:=Ea (m:=m) hs1
   have hbl:=mE (k:=32) hyb
   simp only [BB] at hyb
   have hp2:0 < 2 ^ s:=Nat.pow_pos (by decide)
   have hX0:(dg (m * 2 ^ s)).length ≠ 0:=fun e=>(Nat.ne_of_gt (Nat.mul_pos (show 0 < m by omega) hp2)) (aH.1 e)
   have hmono:=gH hle
   refine cU (ts (rm rfl (ro rfl (dU U_46 (Ht rfl) aA) (ro rfl (kB (cJ 32) (Ht rfl) z6) (rm rfl (ro rfl (cZ Tryz.call282 (Vf zo hn) ⟨(Ht rfl),trivial⟩) (ro rfl (aI.nat (dK (Ht rfl) (Ht rfl) zo z6) (show 32 * (dg n).length - (32 * ((dg n).length - 1) + bl ((dg n).getD ((dg n).length - 1) 0)) = s by omega)) (ra rfl (eJ (ts (rm rfl (rm rfl (ro rfl (cZ Tryz.call283 (Qh zo zo) ⟨(Ht rfl),(Ht rfl),trivial⟩) ?_)))))))))))))
   refine ra rfl (eJ (ts (rm rfl (ro rfl (dU U_46 (Ht rfl) aA) (ro rfl (dW (Ht rfl) (cJ 1) z6) (rn rfl (dH (T:=bM 0) (i:=Tryz.t189) V_46 gS rfl rfl (Ht rfl) rfl (fun _=>rfl) trivial (by show 4 * _ ≤ _; omega) zo) fun B57=>(ra rfl (eJ (ts (rm rfl (rm rfl (rm rfl (ro rfl (cZ Tryz.call283 (Qh zo zo) ⟨(Ht rfl),(Ht rfl),trivial⟩) (Jh U_46 Z_189 (Ht rfl) (Ht rfl) (Sb hX0) Zu (i:=0) rfl (by simp) (by simp; omega) (Eb _ _) rfl rfl ?_))))))))))))))
   refine eJ (cK ?_)
   obtain ⟨vs,hvs⟩:∃ vs,vs = dg (n * 2 ^ s):=⟨_,rfl⟩
   rw [← hvs] at hvl hvb
   have hv:jM vs:=hvs ▸ bA _
   have hvv:val vs = n * 2 ^ s:=by rw [hvs,cA]
   have hV0:0 < val vs:=by rw [hvv]; exact Nat.mul_pos zo hp2
   have hnr:=Lk hv zo hvb
   have hv1:=hnr.v1lt; have hv2:=hnr.v2lt; have hbig:=hnr.big
   simp only [BB] at hv1 hv2 hbig
   refine pP (E':=[(8,_),(9,_),(10,_)]) (aQ rfl (aZ rfl (a0D hvs.symm) (zS rfl))) (cY (rm rfl (ro rfl (dU U_46 (Ht rfl) aA) (ra rfl (eJ (ts (rm rfl (ro rfl (fN U_46 (Ht rfl)) (rm rfl (ro rfl (dK (Ht rfl) (Ht rfl) zo z6) (rn rfl (dH (T:=bM 0) (i:=Tryz.t189) V_46 gS rfl rfl (Ht rfl) rfl (fun _=>rfl) trivial (by show 4 * _ ≤ _; omega) zo) fun B69=>(ra rfl (eJ (cK ?_))))))))))))))
   refine ts (rm rfl (ro rfl (fN U_46 (Ht rfl)) (ro rfl (iD (Ht rfl) cV (zL zo)) (ra rfl (eJ (eU ?_))))))
   refine iM (fun (k : Nat) (us : List Nat) (qs : List Nat) => mJ (m * 2 ^ s) vs us qs k ∧ us.length = (dg m).length + 1) (fun (k : Nat) (us : List Nat) (qs : List Nat) => k) (fun (k : Nat) (us : List Nat) (qs : List Nat) => [(8, NT .i64 s), (9, rT vs), (10, Is (.slice (some ⟨B57, 0, none⟩) ((dg m).length + 1) ((dg m).length + 1))), (11, NT .i64 vs.length), (12, Is (.slice (some ⟨B69, 0, none⟩) ((dg m).length + 1 - vs.length) ((dg m).length + 1 - vs.length))), (13, bC .i64 ((k : Int) - 1))]) (fun (k : Nat) (us : List Nat) (qs : List Nat) => [box B57 189 (us.map bM), box B69 189 (qs.map bM)]) ((dg m).length + 1 - vs.length) (xO m s) (List.replicate ((dg m).length + 1 - vs.length) 0) ⟨mJ.start hv zo hvb hs1 (by have := iI (bA m); rwa [cA] at this) hc3 hc2 hc4 zo, hc2⟩
    (aQ rfl (aQ rfl (aQ rfl (aQ rfl (aQ rfl (aZ rfl (bB zo) aX)))))) (aU (fun _ _ _ h=>h) (aU (aB (jN _)) aY)) (fun k us qs ⟨hS,hus⟩=>?_)
   refine cK (ts (rm rfl (ro rfl (kV (Ht rfl) cV) (eJ (dQ (Ht rfl) (fun hk=>?_) (fun hk=>?_))))))
   ·simp at hk
    obtain ⟨j,rfl⟩:∃ j,k = j + 1:=⟨k - 1,by omega⟩
    have htp:=hS.top hv zo (Nat.succ_pos j) rfl
    have hkq:=hS.kle; have hlq:=hS.lenq
    rw [Nat.add_sub_cancel] at htp
    have hu0:=aL hS.dig (j + vs.length); have hu1:=aL hS.dig (j + vs.length - 1); have hu2:=aL hS.dig (j + vs.length - 2)
    have ht64:=Ud hu0 hu1; have hsh:=Fx hu0
    obtain ⟨top,htop⟩:∃ top,top = us.getD (j + vs.length) 0 * BB + us.getD (j + vs.length - 1) 0:=⟨_,rfl⟩
    have hor:=(sE (a:=us.getD (j + vs.length) 0) hu1).trans htop.symm
    rw [← htop] at htp ht64
    have hu2b:=hu2
    simp only [BB] at hu0 hu1 hu2
    refine pP (E':=[(8,_),(9,_),(10,_),(11,_),(12,_),(13,_),(73,_),(74,_)]) (aQ rfl (aQ rfl (aQ rfl (aQ rfl (aQ rfl (aZ rfl (bB (show ((j + 1:Nat):Int) - 1 = (j:Int) by omega)) (zS rfl))))))) (cU (cK (eU (cK (fV (m:=16) (dp 10 rfl (cX (Ht rfl)) (dp 13 rfl (cX (Ht rfl)) (dp 11 rfl (cX (Ht rfl)) (cH 78 1 79 2 rfl (dW (Ht rfl) (Ht rfl) z6) (cH 77 0 80 3 rfl (gX U_46 Z_189 (Ht rfl) (Ht rfl) rfl zo (by rw [Nat.mul_one,Nat.zero_add])) ?_))))))))))
    refine dq 81 4 rfl (fX A_189 Z_189 (Ht rfl) (i:=0) rfl (eX (aF zo))) (dq 82 5 rfl (gV U_189 U_254 (Ht rfl) z7) (dq 83 6 rfl (mB (Ht rfl) (cJ 32) (by decide) hsh) (dp 10 rfl (cX (Ht rfl)) (dp 13 rfl (cX (Ht rfl)) (dp 11 rfl (cX (Ht rfl)) (cH 86 9 87 10 rfl (dW (Ht rfl) (Ht rfl) z6) (dq 88 11 rfl (dK (Ht rfl) (cJ 1) zo z6) ?_)))))))
    refine cH 85 8 89 12 rfl (gX U_46 Z_189 (Ht rfl) (Ht rfl) rfl zo (by rw [Nat.mul_one,Nat.zero_add])) ?_
    refine dq 90 13 rfl (fX A_189 Z_189 (Ht rfl) (i:=0) rfl (eX (aF zo))) (dq 91 14 rfl (gV U_189 U_254 (Ht rfl) z7) (fG aM rfl (by kernel_rfl) (zF (zF (zF (zF (aV (ro rfl (aI.nat (nE rfl (Ht rfl) (Ht rfl) z7 z7) hor) ?_))))))))
    refine ra rfl (eJ (ts (rm rfl (rm rfl (rm rfl (ro rfl (dK (Ht rfl) (cJ 1) zo z6) (ro rfl (dZ U_46 Z_189 (Ht rfl) (Ht rfl) rfl (eX (aF zo))) (ro rfl (dJ A_189 Z_189 (Ht rfl)) (ro rfl (gV U_189 U_254 (Ht rfl) z7) (ro rfl (iR (Ht rfl) (Ht rfl) zo (by show _ < 18446744073709551616; exact ht64)) (ra rfl (eJ ?_))))))))))))
    refine ts (rm rfl (rm rfl (rm rfl (ro rfl (dK (Ht rfl) (cJ 1) zo z6) (ro rfl (dZ U_46 Z_189 (Ht rfl) (Ht rfl) rfl (eX (aF zo))) (ro rfl (dJ A_189 Z_189 (Ht rfl)) (ro rfl (gV U_189 U_254 (Ht rfl) z7) (ro rfl (mA (Ht rfl) (Ht rfl) zo) (ra rfl (eJ (cK (iY (fun (g:Nat)=>Gw (val (us.drop j)) (val vs) g) (fun (g:Nat)=>[(8,NT .i64 s),(9,rT vs),(10,Is (.slice (some ⟨B57,0,none⟩) ((dg m).length + 1) ((dg m).length + 1))),(11,NT .i64 vs.length),(12,Is (.slice (some ⟨B69,0,none⟩) ((dg m).length + 1 - vs.length) ((dg m).length + 1 - vs.length))),(13,NT .i64 j),(15,NT .u64 g)]) (fun (g:Nat)=>[box B57 189 (us.map bM),box B69 189 (qs.map bM)]) ?_ (fun g hg=>?_)))))))))))))
    ·refine eU ?_
     refine eH (fun (g : Nat) (r : Nat) => kS (val (us.drop j)) (val vs) (vs.getD (vs.length - 1) 0) top g r ∧ r < 4294967296) (fun (g : Nat) (r : Nat) => g) (fun (g : Nat) (r : Nat) => [(8, NT .i64 s), (9, rT vs), (10, Is (.slice (some ⟨B57, 0, none⟩) ((dg m).length + 1) ((dg m).length + 1))), (11, NT .i64 vs.length), (12, Is (.slice (some ⟨B69, 0, none⟩) ((dg m).length + 1 - vs.length) ((dg m).length + 1 - vs.length))), (13, NT .i64 j), (15, NT .u64 g), (16, NT .u64 r)]) (fun (g : Nat) (r : Nat) => [box B57 189 (us.map bM), box B69 189 (qs.map bM)]) (top / vs.getD (vs.length - 1) 0) (top % vs.getD (vs.length - 1) 0) ⟨kS.start hnr htp, Nat.lt_trans (Nat.mod_lt _ zo) hv1⟩
      (zS rfl) (cL.refl _) (fun g r ⟨hG,hr⟩=>?_)
     have hgl:=(hG.glt hnr htp).1
     have hrs:=Fx (a:=r) hr
     have horr:=sE (a:=r) hu2b
     simp only [BB] at hgl
     refine cK (cK (fV (m:=22) (dp 15 rfl (cX (Ht rfl)) (dq 110 0 rfl (nX (Ht rfl) (cJ 4294967296)) (dq 111 1 rfl (cX (Ht rfl)) (C.D_step (Ei:=[(15,_),(112,_)]) rfl rfl (bV (bK rfl rfl) (bV (bG 2 rfl rfl) bW)) (eY rfl rfl (Ht rfl) (fun h=>cX (Ht rfl))) (C.D_step (Ei:=[(9,_),(112,_)]) rfl rfl (bV (bK rfl rfl) (bV (bG 2 rfl rfl) bW)) (eY rfl rfl (Ht rfl) (fun h=>cX (Ht rfl))) (C.D_step (Ei:=[(11,_),(112,_)]) rfl rfl (bV (bK rfl rfl) (bV (bG 2 rfl rfl) bW)) (eY rfl rfl (Ht rfl) (fun h=>cX (Ht rfl))) ?_))))))))
     refine C.D_step (Ei:=[(115,_),(112,_)]) rfl rfl (bV (bG 5 rfl rfl) (bV (bG 2 rfl rfl) bW)) (eY rfl rfl (Ht rfl) (fun h=>dK (fW rfl h) (cJ 2) (by first | omega | (simp at h; omega)) (by show _ < 9223372036854775808; first | omega | (simp at h; omega)))) (C.D_step (Ei:=[(114,_),(116,_),(112,_)]) rfl rfl (bV (bG 4 rfl rfl) (bV (bG 6 rfl rfl) (bV (bG 2 rfl rfl) bW))) (eY rfl rfl (Ht rfl) (fun h=>dZ U_46 Z_189 (fW rfl h) (fW rfl h) rfl (eX (aF (by first | omega | (simp at h; omega)))))) ?_)
     refine C.D_step (Ei:=[(117,_),(112,_)]) rfl rfl (bV (bG 7 rfl rfl) (bV (bG 2 rfl rfl) bW)) (eY rfl rfl (Ht rfl) (fun h=>dJ A_189 Z_189 (fW rfl h))) (C.D_step (Ei:=[(118,_),(112,_)]) rfl rfl (bV (bG 8 rfl rfl) (bV (bG 2 rfl rfl) bW)) (eY rfl rfl (Ht rfl) (fun h=>gV U_189 U_254 (fW rfl h) (by show _ < 18446744073709551616; first | omega | (simp at h; omega)))) (C.D_step (Ei:=[(113,_),(119,_),(112,_)]) rfl rfl (bV (bG 3 rfl rfl) (bV (bG 9 rfl rfl) (bV (bG 2 rfl rfl) bW))) (eY rfl rfl (Ht rfl) (fun h=>kB (fW rfl h) (fW rfl h) (by show _ < 18446744073709551616; simp at h; exact Zt h hv2))) ?_))
     refine C.D_step (Ei:=[(16,_),(112,_)]) rfl rfl (bV (bK rfl rfl) (bV (bG 2 rfl rfl) bW)) (eY rfl rfl (Ht rfl) (fun h=>cX (Ht rfl))) (C.D_step (Ei:=[(121,_),(112,_)]) rfl rfl (bV (bG 11 rfl rfl) (bV (bG 2 rfl rfl) bW)) (eY rfl rfl (Ht rfl) (fun h=>mB (fW rfl h) (cJ 32) (by decide) hrs)) (C.D_step (Ei:=[(10,_),(112,_)]) rfl rfl (bV (bK rfl rfl) (bV (bG 2 rfl rfl) bW)) (eY rfl rfl (Ht rfl) (fun h=>cX (Ht rfl))) (C.D_step (Ei:=[(13,_),(112,_)]) rfl rfl (bV (bK rfl rfl) (bV (bG 2 rfl rfl) bW)) (eY rfl rfl (Ht rfl) (fun h=>cX (Ht rfl))) ?_)))
     refine C.D_step (Ei:=[(11,_),(112,_)]) rfl rfl (bV (bK rfl rfl) (bV (bG 2 rfl rfl) bW)) (eY rfl rfl (Ht rfl) (fun h=>cX (Ht rfl))) (C.D_step (Ei:=[(124,_),(125,_),(112,_)]) rfl rfl (bV (bG 14 rfl rfl) (bV (bG 15 rfl rfl) (bV (bG 2 rfl rfl) bW))) (eY rfl rfl (Ht rfl) (fun h=>dW (fW rfl h) (fW rfl h) (by show _ < 9223372036854775808; first | omega | (simp at h; omega)))) (C.D_step (Ei:=[(126,_),(112,_)]) rfl rfl (bV (bG 16 rfl rfl) (bV (bG 2 rfl rfl) bW)) (eY rfl rfl (Ht rfl) (fun h=>dK (fW rfl h) (cJ 2) (by first | omega | (simp at h; omega)) (by show _ < 9223372036854775808; first | omega | (simp at h; omega)))) ?_))
     refine C.D_step (Ei:=[(123,_),(127,_),(112,_)]) rfl rfl (bV (bG 13 rfl rfl) (bV (bG 17 rfl rfl) (bV (bG 2 rfl rfl) bW))) (eY rfl rfl (Ht rfl) (fun h=>gX U_46 Z_189 (fW rfl h) (fW rfl h) rfl (by first | omega | (simp at h; omega)) (by rw [Nat.mul_one,Nat.zero_add]))) ?_
     refine C.D_step (Ei:=[(128,_),(112,_)]) rfl rfl (bV (bG 18 rfl rfl) (bV (bG 2 rfl rfl) bW)) (eY rfl rfl (Ht rfl) (fun h=>fX A_189 Z_189 (fW rfl h) (i:=0) rfl (eX (aF zo)))) (C.D_step (Ei:=[(129,_),(112,_)]) rfl rfl (bV (bG 19 rfl rfl) (bV (bG 2 rfl rfl) bW)) (eY rfl rfl (Ht rfl) (fun h=>gV U_189 U_254 (fW rfl h) (by show _ < 18446744073709551616; first | omega | (simp at h; omega)))) (C.D_step (Ei:=[(122,_),(130,_),(112,_)]) rfl rfl (bV (bG 12 rfl rfl) (bV (bG 20 rfl rfl) (bV (bG 2 rfl rfl) bW))) (eY rfl rfl (Ht rfl) (fun h=>aI.nat (nE rfl (fW rfl h) (fW rfl h) (by show _ < 18446744073709551616; first | omega | (simp at h; omega)) (by show _ < 18446744073709551616; first | omega | (simp at h; omega))) horr)) ?_))
     refine fG aM rfl (by kernel_rfl) (zF (zF (zF (zF (zF (aJ (aJ (aV (fZ rfl rfl (eY rfl rfl (Ht rfl) (fun h=>dL (fW rfl h) (fW rfl h))) (ro rfl (iW (Ht rfl) (fun h=>(fW rfl h))) (eJ (dQ (Ht rfl) (fun hc=>?_) (fun hc=>?_)))))))))))))
     ·have hn2 := hG.next hnr htp (by simpa [BB] using hc)
      have hg1:=hn2.2
      refine cU (eU (ts (rm rfl (ro rfl (dK (Ht rfl) (cJ 1) zo z7) (ra rfl (eJ (ts (rm rfl (rm rfl (rm rfl (ro rfl (dK (Ht rfl) (cJ 1) zo z6) (ro rfl (dZ U_46 Z_189 (Ht rfl) (Ht rfl) rfl (eX (aF zo))) (ro rfl (dJ A_189 Z_189 (Ht rfl)) (ro rfl (gV U_189 U_254 (Ht rfl) z7) ?_))))))))))))))
      refine ro rfl (dW (Ht rfl) (Ht rfl) z7) (ra rfl (eJ (ts (rm rfl (ro rfl (nX (Ht rfl) (cJ 4294967296)) (eJ (dQ (Ht rfl) (fun hr2=>?_) (fun hr2=>?_))))))))
      ·simp at hr2
       refine gG rfl (aO (g - 1) (hn2.1.stop hnr htp hr2) (zS rfl) (cL.refl _))
      ·simp at hr2
       refine cU (aR (gQ (g - 1,_) ⟨hn2.1,hr2⟩ (by dsimp only; omega) (zS rfl) (cL.refl _)))
     ·simp at hc
      refine gG rfl (aO g (hG.done hnr htp hc.1 hc.2) (zS rfl) (cL.refl _))
    ·have hglt := hg.lt
     have hglt2:=hg.lt
     simp only [BB] at hglt
     have hjl:j + vs.length < us.length:=by omega
     refine ts (ro rfl (cQ (cJ 0)) (eJ (ts (ro rfl (cQ (cJ 0)) (eJ (cK (ts (ro rfl (cQ (cJ 0)) (eJ (eU ?_))))))))))
     refine vY (fun (i : Nat) (out : List Nat) (c : Nat) (b : Nat) => pQ us vs g j out i c b) (fun (i : Nat) (out : List Nat) (c : Nat) (b : Nat) => vs.length - i) (fun (i : Nat) (out : List Nat) (c : Nat) (b : Nat) => [(8, NT .i64 s), (9, rT vs), (10, Is (.slice (some ⟨B57, 0, none⟩) ((dg m).length + 1) ((dg m).length + 1))), (11, NT .i64 vs.length), (12, Is (.slice (some ⟨B69, 0, none⟩) ((dg m).length + 1 - vs.length) ((dg m).length + 1 - vs.length))), (13, NT .i64 j), (15, NT .u64 g), (17, NT .u64 b), (18, NT .u64 c), (19, NT .i64 i)]) (fun (i : Nat) (out : List Nat) (c : Nat) (b : Nat) => [box B57 189 (out.map bM), box B69 189 (qs.map bM)]) 0 us 0 0 (pQ.start hS.dig vs g j)
      (zS rfl) (cL.refl _) (fun i out c b hT=>?_)
     refine cK (ts (rm rfl (rm rfl (ro rfl (gJ (Ht rfl) (Ht rfl)) (eJ (dQ (Ht rfl) (fun hi=>?_) (fun hi=>?_)))))))
     ·simp at hi
      have hlen:=hT.len; have hcl:=hT.clt; have hbl:=hT.ble; have hvi:=aL hv i; have hok:=aL hT.dig (i + j)
      have hp:=Iz hglt2 hvi hT.clt
      simp only [BB] at hp hcl hvi hok
      obtain ⟨p,hp1⟩:∃ p,p = g * vs.getD i 0 + c:=⟨_,rfl⟩
      obtain ⟨x,hx1⟩:∃ x,x = ((out.getD (i + j) 0 + 18446744073709551616 - p % 4294967296) % 18446744073709551616 + 18446744073709551616 - b) % 18446744073709551616:=⟨_,rfl⟩
      refine cU (cK (eU (ts (rm rfl (rm rfl (rm rfl (ro rfl (dZ U_46 Z_189 (Ht rfl) (Ht rfl) rfl (eX (aF zo))) (ro rfl (dJ A_189 Z_189 (Ht rfl)) (ro rfl (gV U_189 U_254 (Ht rfl) z7) (ro rfl (kB (Ht rfl) (Ht rfl) z7) (rm rfl (ro rfl (aI.nat (dW (Ht rfl) (Ht rfl) z7) hp1.symm) ?_))))))))))))
      refine ra rfl (eJ (ts (rm rfl (ro rfl (dT (Ht rfl) (cJ 32) (by decide)) (ra rfl (eJ (ts (rm rfl (rm rfl (rm rfl (ro rfl (dW (Ht rfl) (Ht rfl) z6) (ro rfl (gX U_46 Z_189 (Ht rfl) (Ht rfl) rfl zo (by rw [Nat.mul_one,Nat.zero_add])) ?_))))))))))))
      refine ro rfl (fX A_189 Z_189 (Ht rfl) (i:=0) rfl (eX (aF zo))) (ro rfl (gV U_189 U_254 (Ht rfl) z7) (rm rfl (ro rfl (aI.nat (rF rfl (Ht rfl) (cJ 4294967295) z7 z7) (a1b p)) (ro rfl (kQ rfl (Ht rfl) (Ht rfl) (by show _ ≤ 18446744073709551616; first | omega | (simp only [kF]; omega))) ?_))))
      refine rm rfl (ro rfl (aI.nat (kQ rfl (Ht rfl) (Ht rfl) (by show _ ≤ 18446744073709551616; first | omega | (simp only [kF]; omega))) hx1.symm) (ra rfl (eJ (ts (rm rfl (rm rfl (rm rfl (ro rfl (dW (Ht rfl) (Ht rfl) z6) (rm rfl (ro rfl (eO rfl U_254 U_189 (Ht rfl)) (ro rfl (gX U_46 Z_189 (Ht rfl) (Ht rfl) rfl zo (by rw [Nat.mul_one,Nat.zero_add])) ?_)))))))))))
      refine jX Z_189 (Ht rfl) (Ht rfl) (i:=0) rfl (by first | omega | (simp; omega)) rfl (eJ (cY (rm rfl (ro rfl (dT (Ht rfl) (cJ 63) (by decide)) (ra rfl (eJ (aR (cY (rm rfl (ro rfl (dW (Ht rfl) (cJ 1) z6) (ra rfl (eJ (gQ (i + 1,_,_,_) (hT.next hS.dig hv hglt2 hi hjl hp1 (yS hok hbl hx1) rfl) (by dsimp only; omega) (zS rfl) (aU (aB (eL _ _ _)) (aU (fun _ _ _ h=>h) aY)))))))))))))))
     ·simp at hi
      have hkl:i = vs.length:=Nat.le_antisymm hT.ile hi
      subst hkl
      have hlen:=hT.len; have hcl:=hT.clt; have hbl:=hT.ble; have hok:=aL hT.dig (j + vs.length)
      obtain ⟨x,hx1⟩:∃ x,x = ((out.getD (j + vs.length) 0 + 18446744073709551616 - c) % 18446744073709551616 + 18446744073709551616 - b) % 18446744073709551616:=⟨_,rfl⟩
      have htd:=yX hok hcl hbl hx1
      have hTk:=hT.fin hjl htd rfl
      have hx2:=htd.2
      simp only [BB] at hcl hok
      refine gG rfl (ts (rm rfl (rm rfl (rm rfl (ro rfl (dW (Ht rfl) (Ht rfl) z6) (ro rfl (gX U_46 Z_189 (Ht rfl) (Ht rfl) rfl zo (by rw [Nat.mul_one,Nat.zero_add])) ?_))))))
      refine ro rfl (fX A_189 Z_189 (Ht rfl) (i:=0) rfl (eX (aF zo))) (ro rfl (gV U_189 U_254 (Ht rfl) z7) (rm rfl (ro rfl (kQ rfl (Ht rfl) (Ht rfl) (by show _ ≤ 18446744073709551616; first | omega | (simp only [kF]; omega))) (rm rfl (ro rfl (aI.nat (kQ rfl (Ht rfl) (Ht rfl) (by show _ ≤ 18446744073709551616; first | omega | (simp only [kF]; omega))) hx1.symm) (ra rfl (eJ (ts (rm rfl (rm rfl (rm rfl (ro rfl (dW (Ht rfl) (Ht rfl) z6) ?_))))))))))))
      refine rm rfl (ro rfl (eO rfl U_254 U_189 (Ht rfl)) (ro rfl (gX U_46 Z_189 (Ht rfl) (Ht rfl) rfl zo (by rw [Nat.mul_one,Nat.zero_add])) ?_))
      refine jX Z_189 (Ht rfl) (Ht rfl) (i:=0) rfl (by first | omega | (simp; omega)) rfl (eJ (cK (nL (fun (us2:List Nat) (g2:Nat)=>mJ (m * 2 ^ s) vs us2 (qs.set j g2) j ∧ g2 < 4294967296 ∧ us2.length = (dg m).length + 1) (fun (us2:List Nat) (g2:Nat)=>[(8,NT .i64 s),(9,rT vs),(10,Is (.slice (some ⟨B57,0,none⟩) ((dg m).length + 1) ((dg m).length + 1))),(11,NT .i64 vs.length),(12,Is (.slice (some ⟨B69,0,none⟩) ((dg m).length + 1 - vs.length) ((dg m).length + 1 - vs.length))),(13,NT .i64 j),(15,NT .u64 g2)]) (fun (us2:List Nat) (g2:Nat)=>[box B57 189 (us2.map bM),box B69 189 (qs.map bM)]) ?_ (fun us2 g2 ⟨hD,hg2,hus2⟩=>?_))))
      ·refine ts (rm rfl (ro rfl (dT (Ht rfl) (cJ 63) (by decide)) (ro rfl (cT (Ht rfl) (cJ 1)) (eJ (dQ (Ht rfl) (fun hbb => ?_) (fun hbb => ?_))))))
       ·simp only [decide_eq_true_eq] at hbb
        have hdec:(!decide (x / 2 ^ 63 = 0)) = true:=by rw [hbb]; rfl
        rw [hdec] at hTk
        obtain ⟨o1,ho1⟩:∃ o1,o1 = out.set (j + vs.length) (x % BB):=⟨_,rfl⟩
        rw [← ho1] at hTk
        have hg0:=hS.gpos hv rfl zo hTk
        have hol:=hTk.len
        refine ts (rm rfl (ro rfl (dK (Ht rfl) (cJ 1) zo z7) (ra rfl (eJ (ts (ro rfl (cQ (cJ 0)) (eJ (cK (ts (ro rfl (cQ (cJ 0)) (eJ (eU ?_))))))))))))
        refine iM (fun (i : Nat) (out2 : List Nat) (c : Nat) => pN o1 vs j out2 i c) (fun (i : Nat) (out2 : List Nat) (c : Nat) => vs.length - i) (fun (i : Nat) (out2 : List Nat) (c : Nat) => [(8, NT .i64 s), (9, rT vs), (10, Is (.slice (some ⟨B57, 0, none⟩) ((dg m).length + 1) ((dg m).length + 1))), (11, NT .i64 vs.length), (12, Is (.slice (some ⟨B69, 0, none⟩) ((dg m).length + 1 - vs.length) ((dg m).length + 1 - vs.length))), (13, NT .i64 j), (15, NT .u64 (g - 1 : Nat)), (18, NT .u64 c), (23, NT .i64 i)]) (fun (i : Nat) (out2 : List Nat) (c : Nat) => [box B57 189 (out2.map bM), box B69 189 (qs.map bM)]) 0 o1 0 (pN.start hTk.dig vs j)
         (zS rfl) (aU (aB (by rw [ho1]; exact eL _ _ _)) (aU (fun _ _ _ h=>h) aY)) (fun i out2 c hB=>?_)
        refine cK (ts (rm rfl (rm rfl (ro rfl (gJ (Ht rfl) (Ht rfl)) (eJ (dQ (Ht rfl) (fun hi=>?_) (fun hi=>?_)))))))
        ·simp at hi
         have hlen:=hB.len; have hcl:=hB.cle; have hvi:=aL hv i; have hok:=aL hB.dig (i + j)
         simp only [BB] at hvi hok
         refine cU (cK (eU (cK (fV (m:=14) (dp 10 rfl (cX (Ht rfl)) (dp 23 rfl (cX (Ht rfl)) (dp 13 rfl (cX (Ht rfl)) (cH 212 1 213 2 rfl (dW (Ht rfl) (Ht rfl) z6) (cH 211 0 214 3 rfl (gX U_46 Z_189 (Ht rfl) (Ht rfl) rfl zo (by rw [Nat.mul_one,Nat.zero_add])) ?_)))))))))
         refine dq 215 4 rfl (fX A_189 Z_189 (Ht rfl) (i:=0) rfl (eX (aF zo))) (dq 216 5 rfl (gV U_189 U_254 (Ht rfl) z7) (dp 9 rfl (cX (Ht rfl)) (dp 23 rfl (cX (Ht rfl)) (cH 218 7 219 8 rfl (dZ U_46 Z_189 (Ht rfl) (Ht rfl) rfl (eX (aF zo))) (dq 220 9 rfl (dJ A_189 Z_189 (Ht rfl)) (dq 221 10 rfl (gV U_189 U_254 (Ht rfl) z7) ?_))))))
         refine cH 217 6 222 11 rfl (dW (Ht rfl) (Ht rfl) z7) (dp 18 rfl (cX (Ht rfl)) (fG aM rfl (by kernel_rfl) (zF (zF (zF (aJ (aJ (aV (ro rfl (dW (Ht rfl) (Ht rfl) z7) (ra rfl (eJ (ts (rm rfl (rm rfl (rm rfl (ro rfl (dW (Ht rfl) (Ht rfl) z6) ?_))))))))))))))))
         refine rm rfl (ro rfl (eO rfl U_254 U_189 (Ht rfl)) (ro rfl (gX U_46 Z_189 (Ht rfl) (Ht rfl) rfl zo (by rw [Nat.mul_one,Nat.zero_add])) ?_))
         refine jX Z_189 (Ht rfl) (Ht rfl) (i:=0) rfl (by first | omega | (simp; omega)) rfl (eJ (cY (rm rfl (ro rfl (dT (Ht rfl) (cJ 32) (by decide)) (ra rfl (eJ (aR (cY (rm rfl (ro rfl (dW (Ht rfl) (cJ 1) z6) (ra rfl (eJ (gQ (i + 1,_,_) (hB.next hv hi zo (Nat.add_comm _ _)) (by dsimp only; omega) (zS rfl) (aU (aB (eL _ _ _)) (aU (fun _ _ _ h=>h) aY)))))))))))))))
        ·simp at hi
         have hil:i = vs.length:=Nat.le_antisymm hB.ile hi
         subst hil
         have hlen:=hB.len; have hcl:=hB.cle; have hok:=aL hB.dig (j + vs.length)
         have hBk:=hB.fin zo rfl
         obtain ⟨_,hDn⟩:=hS.wrong hv hV0 (Nat.succ_pos j) rfl hg hTk hBk
         simp only [BB] at hok
         refine gG rfl (cY (rm rfl (rm rfl (rm rfl (ro rfl (dW (Ht rfl) (Ht rfl) z6) (rm rfl (rm rfl (rm rfl (ro rfl (dW (Ht rfl) (Ht rfl) z6) (ro rfl (gX U_46 Z_189 (Ht rfl) (Ht rfl) rfl zo (by rw [Nat.mul_one,Nat.zero_add])) ?_))))))))))
         refine ro rfl (fX A_189 Z_189 (Ht rfl) (i:=0) rfl (eX (aF zo))) (rm rfl (ro rfl (gV U_254 U_189 (Ht rfl) (by show _ < 4294967296; first | omega | (simp only [kF]; omega))) (ro rfl (Lo rfl (Ht rfl) (Ht rfl)) (ro rfl (gX U_46 Z_189 (Ht rfl) (Ht rfl) rfl zo (by rw [Nat.mul_one,Nat.zero_add])) ?_))))
         refine jX Z_189 (Ht rfl) (Ht rfl) (i:=0) rfl (by first | omega | (simp; omega)) rfl (eJ (aO (_,g - 1) ⟨hDn,by dsimp only; omega,by simp; omega⟩ (zS rfl) (aU (aB (eL _ _ _)) (aU (fun _ _ _ h=>h) aY))))
       ·simp only [decide_eq_false_iff_not] at hbb
        have hdec:(!decide (x / 2 ^ 63 = 0)) = false:=by rw [show x / 2 ^ 63 = 0 by omega]; rfl
        rw [hdec] at hTk
        have hol:=hTk.len
        refine cU (aO (_,g) ⟨hS.right hv hV0 (Nat.succ_pos j) rfl hg hTk,hglt,by dsimp only; omega⟩ (zS rfl) (aU (aB (eL _ _ _)) (aU (fun _ _ _ h=>h) aY)))
      ·refine cY (rm rfl (rm rfl (rm rfl (ro rfl (gV U_254 U_189 (Ht rfl) (by show _ < 4294967296; first | omega | (simp only [kF]; omega))) (ro rfl (gX U_46 Z_189 (Ht rfl) (Ht rfl) rfl zo (by rw [Nat.mul_one, Nat.zero_add])) ?_)))))
       refine jX Z_189 (Ht rfl) (Ht rfl) (i:=1) rfl (by first | omega | (simp; omega)) rfl (eJ (aR (cY (rm rfl (ro rfl (iD (Ht rfl) cV (zL zo)) (ra rfl (eJ (gQ (j,us2,_) ⟨hD,hus2⟩ (by dsimp only; omega) (zS rfl) (aU (fun _ _ _ h=>h) (aU (aB (eL _ _ _)) aY))))))))))
   ·simp at hk
    have hk0:k = 0:=by omega
    subst hk0
    have hfin:=hS.fin hV0
    have hlq:=hS.lenq
    rw [hvv] at hfin
    have hdiv:val qs = m / n:=by rw [hfin.1]; exact Nat.mul_div_mul_right _ _ hp2
    have hsm:val us < BB ^ vs.length:=by have h1:=hS.small; rw [List.drop_zero] at h1; exact Nat.lt_trans h1 (iI hv)
    have hmod : val (us.take vs.length) / 2 ^ s = m % n := by
     rw [mR hsm zo,hfin.2,Nat.mul_mod_mul_right,Nat.mul_div_cancel _ hp2]
    have hru : (dg (val (us.take vs.length))).length ≤ 17592186044416 := by
     refine Nat.le_trans (jC (k:=vs.length) ?_) zo
     rw [mR hsm zo]; exact hsm
    refine gG rfl (gW (i:=1) (tt:=12) rfl rfl (kE rfl zo (Nat.le_refl _)) (gW (i:=0) (tt:=10) rfl rfl (kE rfl zo (Nat.le_refl _)) (cK (fV (m:=7) (dp 12 rfl (cX (Ht rfl)) (dq 254 0 rfl (cZ K_267 (mN _ hS.digq zo) ⟨(Ht rfl),trivial⟩) (dp 10 rfl (cX (Ht rfl)) (dp 11 rfl (cX (Ht rfl)) (cH 256 2 257 3 rfl (aI.imp (rI U_46 Z_189 (Ht rfl) (Ht rfl) (fun m e=>by cases e) zo (by simp; omega) rfl) (Kv _ _)) ?_)))))))))
    refine dq 258 4 rfl (cZ K_267 (mN _ (hS.dig.take' vs.length) (by simp; omega)) ⟨(Ht rfl),trivial⟩) ?_
    refine dp 8 rfl (cX (Ht rfl)) (fG aM rfl (by kernel_rfl) (zF (aJ (aJ (aJ (aV (ro rfl (cZ Tryz.call284 (a0t hru zo) ⟨(Ht rfl),(Ht rfl),trivial⟩) (ra rfl (ra rfl (eJ (bN rfl (fJ (fQ rfl) ?_) (fJ (fQ rfl) ?_))))))))))))
    ·exact (cF hdiv)
    ·exact (cF hmod)
theorem Hw {m n:Nat} (hm:(dg m).length ≤ 17592186044415) (hn:(dg n).length ≤ 17592186044415):aS Tryz.prog 264 [aE m,aE n] (aE (Nat.gcd m n)):=by
 refine aS.intro Tryz.func264 rfl Tryz.ntmps264 rfl (fun cx=>(ts (ro rfl (cQ cV) (eJ (cK (eU ?_))))))
 refine eH (fun (x : Nat) (y : Nat) => Nat.gcd x y = Nat.gcd m n ∧ (dg x).length ≤ 17592186044415 ∧ (dg y).length ≤ 17592186044415) (fun (x : Nat) (y : Nat) => y) (fun (x : Nat) (y : Nat) => [(0, aE x), (1, aE y)]) (fun (x : Nat) (y : Nat) => []) m n ⟨rfl, hm, hn⟩
  (zS rfl) aY (fun x y ⟨hg,hx,hy⟩=>?_)
 refine cK (ts (rm rfl (ro rfl (dU U_46 (Ht rfl) aA) (ro rfl (dL (Ht rfl) (cJ 0)) (eJ (dQ (Ht rfl) (fun hb=>?_) (fun hb=>?_)))))))
 ·simp at hb
  have hy0:y ≠ 0:=fun e=>by rw [e,dI] at hb; simp at hb
  have hlt:=Nat.mod_lt x (Nat.pos_of_ne_zero hy0)
  refine cU (eU (ts (rm rfl (rm rfl (ro rfl (cZ K_265 (tW hx zo hy0) ⟨(Ht rfl),(Ht rfl),trivial⟩) (rm rfl (ro rfl (dY (Ht rfl) rfl) (ro rfl (dY (Ht rfl) rfl) (ra rfl (ra rfl (eJ (cY (rm rfl (rm rfl (ra rfl (ra rfl (eJ (aR (gQ (y,x % y) ⟨by rw [← hg,Nat.gcd_comm x y,Nat.gcd_rec y x,Nat.gcd_comm],hy,Nat.le_trans (gH (Nat.le_of_lt hlt)) hy⟩ hlt (zS rfl) aY)))))))))))))))))))
 ·simp at hb
  have hy0:y = 0:=aH.1 (by simpa using hb)
  subst hy0
  rw [Nat.gcd_zero_right] at hg
  refine gG rfl (ts (rm rfl (ra rfl (eJ (fK rfl (fJ (fQ rfl) ?_))))))
  exact (cF hg)
theorem Kh {m:Nat} (hm:(dg m).length ≤ 8796093022208):aS Tryz.prog 275 [aE m] (oE (rP m)):=by
 refine aS.intro Tryz.func275 rfl Tryz.ntmps275 rfl (fun cx=>(ts (ro rfl (cQ (bD.cS (l:=[]) rfl)) (eJ (cK (ts (rm rfl (ro rfl (dU U_46 (Ht rfl) aA) (ro rfl (cT (Ht rfl) (cJ 0)) (eJ (dQ (Ht rfl) (fun hb=>?_) (fun hb=>?_))))))))))))
 ·simp at hb
  have h0:m = 0:=aH.1 (by simpa using hb)
  subst h0
  refine ts (ro rfl (cQ (bD.cS (l:=[48]) rfl)) (eJ (fK rfl (fJ (fQ rfl) ?_))))
  exact (iU rfl)
 ·simp at hb
  have h0:m ≠ 0:=fun e=>hb (by rw [e,dI])
  refine cU (ts (ro rfl (cQ cV) (eJ (cK (eU (xG 5 1 ?_))))))
  refine iM (fun (x : Nat) (out : List Nat) (v : Value) => wY m out x ∧ x ≤ m) (fun (x : Nat) (out : List Nat) (v : Value) => x) (fun (x : Nat) (out : List Nat) (v : Value) => [(0, aE x), (3, Is v)]) (fun (x : Nat) (out : List Nat) (v : Value) => [bO 5 1 v (out.map vD)]) m [] (.slice none 0 0) ⟨wY.start m, Nat.le_refl m⟩
   (zS rfl) (cL.refl _) (fun x out v ⟨hO,hle⟩=>?_)
  refine cK (ts (rm rfl (ro rfl (dU U_46 (Ht rfl) aA) (ro rfl (dL (Ht rfl) (cJ 0)) (eJ (dQ (Ht rfl) (fun hc=>?_) (fun hc=>?_)))))))
  ·simp at hc
   have hx0:x ≠ 0:=fun e=>by rw [e,dI] at hc; simp at hc
   have hxm:=gH hle
   refine cU (eU (ts (rm rfl (ro rfl (cZ Tryz.call281 (Do zo (by decide) (by decide)) ⟨(Ht rfl),(cJ 1000000000),trivial⟩) (rm rfl (ro rfl (dY (Ht rfl) rfl) (ro rfl (dY (Ht rfl) rfl) (ra rfl (ra rfl (eJ (cK (ts (ro rfl (cQ (cJ 0)) (eJ (eU ?_)))))))))))))))
   refine vY (fun (r : Nat) (k : Nat) (out : List Nat) (v : Value) => vQ m out (x / 1000000000) r k) (fun (r : Nat) (k : Nat) (out : List Nat) (v : Value) => 9 - k) (fun (r : Nat) (k : Nat) (out : List Nat) (v : Value) => [(3, Is v), (4, aE (x / 1000000000)), (5, bM r), (6, NT .i64 k)]) (fun (r : Nat) (k : Nat) (out : List Nat) (v : Value) => [bO 5 1 v (out.map vD)]) (x % 1000000000) 0 out v (hO.inner)
    (zS rfl) (cL.refl _) (fun r k out v hI=>?_)
   refine cK (ts (rm rfl (ro rfl (gJ (Ht rfl) (cJ 9)) (rm rfl (fZ rfl rfl (jY rfl rfl (Ht rfl) (fun h=>cX (Ht rfl))) (fZ rfl rfl (jY rfl rfl (Ht rfl) (fun h=>dL (bD.wu rfl h) (cJ 0))) (fZ rfl rfl (jY rfl rfl (Ht rfl) (fun h=>cX (bD.wu rfl h))) (fZ rfl rfl (nK rfl rfl rfl (fun h h2=>cX (Ht rfl))) (fZ rfl rfl (nK rfl rfl rfl (fun h h2=>dU U_46 (bD.wu rfl ⟨h,h2⟩) aA)) (fZ rfl rfl (nK rfl rfl rfl (fun h h2=>dL (bD.wu rfl ⟨h,h2⟩) (cJ 0))) (fZ rfl rfl (jY rfl rfl (Ht rfl) (fun h=>iW (bD.wu rfl h) (fun h2=>(bD.wu rfl ⟨h,h2⟩)))) ?_)))))))))))
   refine ro rfl (dP (Ht rfl) (fun h=>(bD.wu rfl h))) (eJ (dQ (Ht rfl) (fun hd=>?_) (fun hd=>?_)))
   ·simp at hd
    have hxr:0 < x / 1000000000 ∨ 0 < r:=hd.2.elim (fun h=>.inr h) (fun h=>.inl (Nat.pos_of_ne_zero (fun e=>by rw [e,dI] at h; simp at h)))
    have hln:=hI.len hxr
    have hr32:=hI.r32
    refine cU (cK (eU (ts (rm rfl (rm rfl (ro rfl (mA (Ht rfl) (cJ 10) zo) (ro rfl (dW (cJ 48) (Ht rfl) (by show _ < 4294967296; first | omega | (simp only [kF]; omega))) (ro rfl (gV U_189 U_5 (Ht rfl) (by show _ < 256; first | omega | (simp only [kF]; omega))) (ro rfl (dA (xs:=[.tmp 37]) U_293 Z_5 Tryz.zeroValue5 (cW (Ht rfl) cG) rfl rfl rfl) (oD (inf:=Tryz.t5) wT Rv rfl rfl rfl (Ht rfl) (Ht rfl) (i:=0) rfl (by simp) (fun T hT=>by simp at hT; subst hT; exact El.one) (by show _ * 1 ≤ _; simp only [List.length_map,List.length_cons,List.length_nil]; omega) (by simp only [List.length_map,List.length_cons,List.length_nil]; omega) rfl (fun v2=>?_)))))))))))
    refine ra rfl (eJ (cY (rm rfl (ro rfl (iR (Ht rfl) (cJ 10) zo (by show _ < 4294967296; first | omega | (simp only [kF]; omega))) (ra rfl (eJ (aR (cY (rm rfl (ro rfl (dW (Ht rfl) (cJ 1) z6) (ra rfl (eJ (gQ (r / 10,k + 1,_,v2) (hI.next hd.1 hxr) (by dsimp only; omega) (zS rfl) (aU (bT (Uf _ _)) aY))))))))))))))
   ·simp at hd
    have hO2 := hI.fin (fun ⟨h1, h2⟩ => by
     have h3:=hd h1
     rcases h2 with h2 | h2
     ·have:=oI.1 h3.2; omega
     ·omega)
    refine gG rfl (cY (rm rfl (ra rfl (eJ (aR (gQ (x / 1000000000,_,_) ⟨hO2,Nat.le_trans (Nat.div_le_self _ _) hle⟩ (Nat.div_lt_self (Nat.pos_of_ne_zero hx0) (by decide)) (zS rfl) (cL.refl _)))))))
  ·simp at hc
   have hx0:x = 0:=aH.1 (by simpa using hc)
   subst hx0
   have hfin:=hO.fin
   have hdl:=nQ m
   rw [hfin] at hdl
   refine gG rfl (cK (ts (rm rfl (ro rfl (rH U_293 (Ht rfl) (i:=0) rfl aA) (ro rfl (iD (Ht rfl) cV (zL zo)) (ro rfl (cQ (cJ 0)) (ra rfl (eJ (eU ?_)))))))))
   refine eH (fun (k : Nat) (o : List Nat) => xC out o k) (fun (k : Nat) (o : List Nat) => out.length - k) (fun (k : Nat) (o : List Nat) => [(3, Is v), (7, NT .i64 k), (8, bC .i64 ((out.length : Int) - 1 - (k : Int)))]) (fun (k : Nat) (o : List Nat) => [bO 5 1 v (o.map vD)]) 0 out (xC.start out)
    (aQ rfl (aQ rfl (aZ rfl (bB zo) aX))) (cL.refl _) (fun k o hR=>?_)
   refine cK (ts (rm rfl (rm rfl (ro rfl (mK (Ht rfl) (Ht rfl)) (eJ (dQ (Ht rfl) (fun hk=>?_) (fun hk=>?_)))))))
   ·simp only [decide_eq_true_eq] at hk
    have hk2:2 * k + 1 < out.length:=by omega
    obtain ⟨j,hj⟩:∃ j,j = out.length - 1 - k:=⟨_,rfl⟩
    have hlen:=hR.len
    refine pP (E':=[(3,_),(7,_),(8,_),(46,_),(47,_),(48,_)]) (aQ rfl (aQ rfl (aZ rfl (bB (show (out.length:Int) - 1 - (k:Int) = (j:Int) by omega)) (zS rfl)))) (cU (cK (eU (W.D_start (m:=14) (fun b=>cond b ([bO 5 1 v ((o.map vD).set k (vD (o.getD j 0)))]) _) 13 (W.D_step (Ei:=[(3,_)]) rfl rfl (W.Srcs.cons (W.Src.pre rfl rfl) W.Srcs.nil) rfl (by kernel_rfl) (dX rfl (cX (Ht rfl))) (W.D_step (Ei:=[(7,_)]) rfl rfl (W.Srcs.cons (W.Src.pre rfl rfl) W.Srcs.nil) rfl (by kernel_rfl) (dX rfl (cX (Ht rfl))) ?_))))))
    refine W.D_pure (Ei:=[(3,_)]) rfl rfl (W.Srcs.cons (W.Src.pre rfl rfl) W.Srcs.nil) rfl (fun _=>dX rfl (cX (Ht rfl))) (W.D_pure (Ei:=[(8,_)]) rfl rfl (W.Srcs.cons (W.Src.pre rfl rfl) W.Srcs.nil) rfl (fun _=>dX rfl (cX (Ht rfl))) (W.D_step (Ei:=[(3,_)]) rfl rfl (W.Srcs.cons (W.Src.pre rfl rfl) W.Srcs.nil) rfl (by kernel_rfl) (dX rfl (cX (Ht rfl))) (W.D_step (Ei:=[(8,_)]) rfl rfl (W.Srcs.cons (W.Src.pre rfl rfl) W.Srcs.nil) rfl (by kernel_rfl) (dX rfl (cX (Ht rfl))) (W.D_step (Ei:=[(57,_),(58,_)]) rfl rfl (W.Srcs.cons (W.Src.op 4 rfl rfl) (W.Srcs.cons (W.Src.op 5 rfl rfl) W.Srcs.nil)) rfl (by kernel_rfl) (dX rfl (dM U_293 Z_5 (Ht rfl) (Ht rfl) rfl (i:=0) rfl (by first | omega | (simp; omega)) rfl)) ?_))))
    refine W.D_step (Ei:=[(59,_)]) rfl rfl (W.Srcs.cons (W.Src.op 6 rfl rfl) W.Srcs.nil) rfl (by kernel_rfl) (dX rfl (lR Tryz.isAgg5 Z_5 (Ht rfl) (i:=0) rfl rfl (eX (aF zo)))) (W.D_step (Ei:=[(3,_)]) rfl rfl (W.Srcs.cons (W.Src.pre rfl rfl) W.Srcs.nil) rfl (by kernel_rfl) (dX rfl (cX (Ht rfl))) (W.D_step (Ei:=[(7,_)]) rfl rfl (W.Srcs.cons (W.Src.pre rfl rfl) W.Srcs.nil) rfl (by kernel_rfl) (dX rfl (cX (Ht rfl))) (W.D_step (Ei:=[(61,_),(62,_)]) rfl rfl (W.Srcs.cons (W.Src.op 8 rfl rfl) (W.Srcs.cons (W.Src.op 9 rfl rfl) W.Srcs.nil)) rfl (by kernel_rfl) (dX rfl (dM U_293 Z_5 (Ht rfl) (Ht rfl) rfl (i:=0) rfl (by first | omega | (simp; omega)) rfl)) ?_)))
    refine W.D_step (Ei:=[(63,_)]) rfl rfl (W.Srcs.cons (W.Src.op 10 rfl rfl) W.Srcs.nil) rfl (by kernel_rfl) (dX rfl (lR Tryz.isAgg5 Z_5 (Ht rfl) (i:=0) rfl rfl (eX (aF zo)))) (W.D_step (Ei:=[(53,_),(54,_)]) rfl rfl (W.Srcs.cons (W.Src.op 0 rfl rfl) (W.Srcs.cons (W.Src.op 1 rfl rfl) W.Srcs.nil)) rfl (by kernel_rfl) (dX rfl (dM U_293 Z_5 (Ht rfl) (Ht rfl) rfl (i:=0) rfl (by first | omega | (simp; omega)) rfl)) (W.D_put (Ei:=[(65,_),(60,_)]) rfl rfl (W.Srcs.cons (W.Src.op 12 rfl rfl) (W.Srcs.cons (W.Src.op 7 rfl rfl) W.Srcs.nil)) rfl (Ow Z_5 (Ht rfl) (Ht rfl) El.one (i:=0) rfl rfl (by first | omega | (simp; omega))) ?_))
    refine W.D_done aM rfl (by kernel_rfl) rfl (W.F_val (W.F_val (W.F_val (W.F_val (W.F_val (W.F_val (W.F_val (W.F_val (W.F_val (W.F_val (W.F_val (W.F_val (W.F_val (W.F_put (W.F_nil (ro rfl (dM U_293 Z_5 (Ht rfl) (Ht rfl) rfl (i:=0) rfl (by first | omega | (simp; omega)) rfl) (mY Z_5 (Ht rfl) (Ht rfl) El.one (i:=0) rfl rfl (by first | omega | (simp; omega)) rfl (eJ (aR (cY (rm rfl (ro rfl (dW (Ht rfl) (cJ 1) z6) (rm rfl (ro rfl (iD (Ht rfl) cV (zL zo)) ?_))))))))))))))))))))))))
    refine ra rfl (ra rfl (eJ (gQ (k + 1,_) (hR.next hk2 hj) (by dsimp only; omega) (aQ rfl (aQ rfl (aZ rfl (bB zo) aX))) (aU (bT (Mg _ _ _ _ _)) aY))))
   ·simp only [decide_eq_false_iff_not] at hk
    have hrev:=hR.fin zo
    subst hrev
    refine gG rfl (gW (i:=0) (tt:=3) rfl rfl kN (ts (rm rfl (ro rfl (Fk wT Zv Zw (Ht rfl) (by rw [← hfin]; simpa using Kt h0) (fun b hb=>Qv (n:=m) b (by rw [qX h0,hfin]; exact hb))) ?_))))
    refine ra rfl (eJ (fK rfl (fJ (fQ rfl) ?_)))
    exact (iU (by rw [qX h0,hfin]))
end
section
open Go Go.RowKit
theorem De {n : Nat} {E : cD} {H : Hp} {d : Option Tmp} {t : TypeId} {pos : String} {af : Array Edge} {g : Option (Nat × Bool)}  :
  aI Tryz.prog n E H ⟨d,.build 129 #[],t,pos,af,g⟩ (eM [Is (.bool false),Is (.slice none 0 0)]) :=
 fC (parts := []) fun a V w hs => by
  refine ⟨.agg #[(.bool false),(.slice none 0 0)],?_,[(.bool false),(.slice none 0 0)],rfl,aW (⟨rfl,trivial⟩) (aW (⟨rfl,trivial⟩) (aG))⟩
  simp [Instr.build,Instr.fill,Sem.run_bind,Result.andThen,dS,O_129,U_129,Z_4,Z_46]
theorem kX {n : Nat} {E : cD} {H : Hp} {d : Option Tmp} {t : TypeId} {pos : String} {af : Array Edge} {g : Option (Nat × Bool)} {x0 x1 : Operand} {T0 T1 : Ty} [s0 : dE T0 1 false] (h0 : bD E x0 T0) [s1 : dE T1 1 false] (h1 : bD E x1 T1) :
  aI Tryz.prog n E H ⟨d,.build 129 #[(0,x0),(1,x1)],t,pos,af,g⟩ (eM [T0,T1]) :=
 fC (parts := [(0, x0), (1, x1)]) fun a V w hs => by
  have p0:=h0 n V a hs
  generalize e0:a.eval x0 = v0 at p0
  have q0:=(s0.ok v0 V p0).2.2 rfl
  have p1:=h1 n V a hs
  generalize e1:a.eval x1 = v1 at p1
  have q1:=(s1.ok v1 V p1).2.2 rfl
  refine ⟨.agg #[v0,v1],?_,[v0,v1],rfl,aW (⟨p0,q0⟩) (aW (⟨p1,q1⟩) (aG))⟩
  simp [e0,e1,Instr.build,Instr.fill,Sem.run_bind,Result.andThen,dS,q0.cells,q1.cells,O_129,U_129,Z_4,Z_46]
theorem kJ {n : Nat} {E : cD} {H : Hp} {d : Option Tmp} {t : TypeId} {pos : String} {af : Array Edge} {g : Option (Nat × Bool)} {x0 x1 x2 : Operand} {T0 T1 T2 T3 T4 : Ty} (h0 : bD E x0 (eM [T0, T1])) (h1 : bD E x1 (eM [T2, T3])) [s2 : dE T4 1 false] (h2 : bD E x2 T4) :
  aI Tryz.prog n E H ⟨d,.build 131 #[(0,x0),(1,x1),(2,x2)],t,pos,af,g⟩ (eM [T0,T1,T2,T3,T4]) :=
 fC (parts := [(0, x0), (1, x1), (2, x2)]) fun a V w hs => by
  obtain ⟨v0,e0,c0⟩:=h0 n V a hs
  obtain ⟨c0_0,c0_1,rfl⟩:∃ c0_0 c0_1,v0 = [c0_0,c0_1]:=vG (by simpa using c0.length)
  obtain ⟨v1,e1,c1⟩:=h1 n V a hs
  obtain ⟨c1_0,c1_1,rfl⟩:∃ c1_0 c1_1,v1 = [c1_0,c1_1]:=vG (by simpa using c1.length)
  have p2:=h2 n V a hs
  generalize e2:a.eval x2 = v2 at p2
  have q2:=(s2.ok v2 V p2).2.2 rfl
  refine ⟨.agg #[c0_0,c0_1,c1_0,c1_1,v2],?_,[c0_0,c0_1,c1_0,c1_1,v2],rfl,aW (c0.at (i:=0) rfl rfl) (aW (c0.at (i:=1) rfl rfl) (aW (c1.at (i:=0) rfl rfl) (aW (c1.at (i:=1) rfl rfl) (aW (⟨p2,q2⟩) (aG)))))⟩
  simp [e0,e1,e2,Instr.build,Instr.fill,Sem.run_bind,Result.andThen,dS,q2.cells,O_131,U_131,Z_46,Z_129]
theorem nM {n : Nat} {E : cD} {H : Hp} {d : Option Tmp} {t : TypeId} {pos : String} {af : Array Edge} {g : Option (Nat × Bool)}  :
  aI Tryz.prog n E H ⟨d,.build 51 #[],t,pos,af,g⟩ (eM [Is (.bool false),Is (.slice none 0 0),Is (.bool false),Is (.slice none 0 0),Is (.slice none 0 0)]) :=
 fC (parts := []) fun a V w hs => by
  refine ⟨.agg #[(.bool false),(.slice none 0 0),(.bool false),(.slice none 0 0),(.slice none 0 0)],?_,[(.bool false),(.slice none 0 0),(.bool false),(.slice none 0 0),(.slice none 0 0)],rfl,aW (⟨rfl,trivial⟩) (aW (⟨rfl,trivial⟩) (aW (⟨rfl,trivial⟩) (aW (⟨rfl,trivial⟩) (aW (⟨rfl,trivial⟩) (aG)))))⟩
  simp [Instr.build,Instr.fill,Sem.run_bind,Result.andThen,dS,O_51,U_51,Z_47,Z_49]
theorem gC (a:Addr) (w:World):(Instr.fieldAt 129 (.pointer (some a)) 0).run Tryz.prog w = .ok (.pointer (some (a.add 0))) w:=by
 simp [Instr.fieldAt,Instr.sureAddr,fieldPlace,Sem.run_bind,Result.andThen,U_129,Z_4]
theorem dB (a:Addr) (w:World):(Instr.fieldAt 129 (.pointer (some a)) 1).run Tryz.prog w = .ok (.pointer (some (a.add 1))) w:=by
 simp [Instr.fieldAt,Instr.sureAddr,fieldPlace,Sem.run_bind,Result.andThen,U_129,Z_46]
theorem fI (a:Addr) (w:World):(Instr.fieldAt 131 (.pointer (some a)) 0).run Tryz.prog w = .ok (.pointer (some (a.add 0))) w:=by
 simp [Instr.fieldAt,Instr.sureAddr,fieldPlace,Sem.run_bind,Result.andThen,U_131,Z_129]
theorem gD (a:Addr) (w:World):(Instr.fieldAt 131 (.pointer (some a)) 1).run Tryz.prog w = .ok (.pointer (some (a.add 2))) w:=by
 simp [Instr.fieldAt,Instr.sureAddr,fieldPlace,Sem.run_bind,Result.andThen,U_131,Z_129]
theorem fL (a:Addr) (w:World):(Instr.fieldAt 131 (.pointer (some a)) 2).run Tryz.prog w = .ok (.pointer (some (a.add 4))) w:=by
 simp [Instr.fieldAt,Instr.sureAddr,fieldPlace,Sem.run_bind,Result.andThen,U_131,Z_46]
end
section
open Go Go.RowKit
theorem lQ {b:Bool} {m:Nat}:aS Tryz.prog 266 [aC b,aE m] (dF (vM b m)):=by
 refine aS.intro Tryz.func266 rfl Tryz.ntmps266 rfl (fun cx=>(ts (rn rfl (eK (Ts:=[Is (.bool false),Is (.slice none 0 0)]) O_129 rfl (fun V=>aW zd (aW zd (aG)))) fun B4=>(eJ (ts (rm rfl (rm rfl (fZ rfl rfl (eY rfl rfl (Ht rfl) (fun h=>cX (Ht rfl))) (fZ rfl rfl (eY rfl rfl (Ht rfl) (fun h=>dU U_46 (fW rfl h) aA)) (fZ rfl rfl (eY rfl rfl (Ht rfl) (fun h=>dL (fW rfl h) (cJ 0))) (ro rfl (dP (Ht rfl) (fun h=>(fW rfl h))) (rm rfl ?_))))))))))))
 refine ro rfl (kX (Ht rfl) (Ht rfl)) (gZ Z_129 (Ht rfl) (Ht rfl) rfl (i:=0) rfl (aK rfl) rfl rfl (eJ (fK rfl (fJ (fY A_129 Z_129 rfl (i:=0) rfl rfl) ?_))))
 exact Tu
theorem sN {n:Int} (h1:-9223372036854775808 ≤ n) (h2:n ≤ 9223372036854775807):aS Tryz.prog 227 [bC .i64 n] (dF n):=by
 refine aS.intro Tryz.func227 rfl Tryz.ntmps227 rfl (fun cx=>(ts (rn rfl (eK (Ts:=[Is (.bool false),Is (.slice none 0 0)]) O_129 rfl (fun V=>aW zd (aW zd (aG)))) fun B2=>(eJ (cK (ts (rm rfl (ro rfl (mK (Ht rfl) cV) (eJ (dQ (Ht rfl) (fun hb=>?_) (fun hb=>?_)))))))))))
 ·have hn : n < 0 := by simpa using hb
  refine ts (rm rfl (ro rfl (Sv (Ht rfl) (r:=IntKind.i64.wrap (-n)) rfl) ?_))
  refine ro rfl (rG U_2 U_254 (Ht rfl) (r:=((n.natAbs:Nat):Int)) (by rw [IntKind.wrap_u64,IntKind.wrap_i64]; omega)) ?_
  refine ro rfl (cZ Tryz.call268 (xM zo) ⟨(Ht rfl),trivial⟩) (ro rfl (kX cV (Ht rfl)) (gZ Z_129 (Ht rfl) (Ht rfl) rfl (i:=0) rfl (aK rfl) rfl rfl (eJ (fK rfl (fJ (fY A_129 Z_129 rfl (i:=0) rfl rfl) ?_)))))
  exact (lP (by rw [hb]; rfl))
 ·have hn : ¬ n < 0 := by simpa using hb
  refine cU (ts (rm rfl (ro rfl (rG U_2 U_254 (Ht rfl) (r:=((n.natAbs:Nat):Int)) (by rw [IntKind.wrap_u64]; omega)) ?_)))
  refine ro rfl (cZ Tryz.call268 (xM zo) ⟨(Ht rfl),trivial⟩) (ro rfl (kX cV (Ht rfl)) (gZ Z_129 (Ht rfl) (Ht rfl) rfl (i:=0) rfl (aK rfl) rfl rfl (eJ (fK rfl (fJ (fY A_129 Z_129 rfl (i:=0) rfl rfl) ?_)))))
  exact (lP (by rw [hb]; rfl))
theorem mS {x:Int}:aS Tryz.prog 228 [dF x] (dF (-x)):=by
 refine aS.intro Tryz.func228 rfl Tryz.ntmps228 rfl (fun cx=>(ts (rn rfl (fU (Ht rfl)) fun B1=>(rn rfl (eK (Ts:=[Is (.bool false),Is (.slice none 0 0)]) O_129 rfl (fun V=>aW zd (aW zd (aG)))) fun B2=>(eJ (ts (ro rfl (eW gC (Ht rfl) rfl) (ro rfl (fX A_4 Z_4 (Ht rfl) (i:=0) rfl rfl) (ro rfl (dR (Ht rfl)) (ro rfl (eW dB (Ht rfl) rfl) (ro rfl (fX A_46 Z_46 (Ht rfl) (i:=0) rfl rfl) (ro rfl (cZ K_266 lQ ⟨(Ht rfl),(Ht rfl),trivial⟩) ?_))))))))))))
 refine gZ Z_129 (Ht rfl) (Ht rfl) rfl (i:=1) rfl (aK rfl) rfl rfl (eJ (fK rfl (fJ (fY A_129 Z_129 rfl (i:=1) rfl rfl) ?_)))
 exact (jW (Av x))
theorem qS {x y:Int} (hx:(dg x.natAbs).length ≤ 17592186044416) (hy:(dg y.natAbs).length ≤ 17592186044416):aS Tryz.prog 230 [dF x,dF y] (dF (x + y)):=by
 refine aS.intro Tryz.func230 rfl Tryz.ntmps230 rfl (fun cx=>(ts (rn rfl (fU (Ht rfl)) fun B2=>(rn rfl (fU (Ht rfl)) fun B3=>(rn rfl (eK (Ts:=[Is (.bool false),Is (.slice none 0 0)]) O_129 rfl (fun V=>aW zd (aW zd (aG)))) fun B4=>(eJ (cK (ts (ro rfl (eW gC (Ht rfl) rfl) (ro rfl (fX A_4 Z_4 (Ht rfl) (i:=0) rfl rfl) (ro rfl (eW gC (Ht rfl) rfl) (ro rfl (fX A_4 Z_4 (Ht rfl) (i:=1) rfl rfl) (ro rfl (In U_4 (Ht rfl) (Ht rfl)) ?_)))))))))))))
 refine eJ (dQ (Ht rfl) (fun hb=>?_) (fun hb=>?_))
 ·have he : decide (x < 0) = decide (y < 0) := by simpa using hb
  refine cK (fV (m:=7) (dp 2 rfl (eW gC (Ht rfl) rfl) (dq 10 0 rfl (fX A_4 Z_4 (Ht rfl) (i:=0) rfl rfl) (dp 2 rfl (eW dB (Ht rfl) rfl) (dq 12 2 rfl (fX A_46 Z_46 (Ht rfl) (i:=0) rfl rfl) (dp 3 rfl (eW dB (Ht rfl) rfl) (dq 14 4 rfl (fX A_46 Z_46 (Ht rfl) (i:=1) rfl rfl) (cH 13 3 15 5 rfl (cZ Tryz.call269 (Mv zo zo) ⟨(Ht rfl),(Ht rfl),trivial⟩) (fG aM rfl (by kernel_rfl) (zF (aJ (aJ (aJ (aV ?_))))))))))))))
  refine ro rfl (cZ K_266 lQ ⟨(Ht rfl),(Ht rfl),trivial⟩) (gZ Z_129 (Ht rfl) (Ht rfl) rfl (i:=2) rfl (aK rfl) rfl rfl (eJ (fK rfl (fJ (fY A_129 Z_129 rfl (i:=2) rfl rfl) ?_))))
  exact (jW (Fw he))
 ·have he : decide (x < 0) ≠ decide (y < 0) := by simpa using hb
  refine cU (cK (ts (ro rfl (eW dB (Ht rfl) rfl) (ro rfl (fX A_46 Z_46 (Ht rfl) (i:=0) rfl rfl) (ro rfl (eW dB (Ht rfl) rfl) (ro rfl (fX A_46 Z_46 (Ht rfl) (i:=1) rfl rfl) (ro rfl (cZ Tryz.call237 (oG zo zo) ⟨(Ht rfl),(Ht rfl),trivial⟩) (ro rfl (kV (Ht rfl) cV) (eJ (dQ (Ht rfl) (fun hc=>?_) (fun hc=>?_)))))))))))
  ·have hle : y.natAbs ≤ x.natAbs := Bo (by simpa using hc)
   refine cK (fV (m:=7) (dp 2 rfl (eW gC (Ht rfl) rfl) (dq 24 0 rfl (fX A_4 Z_4 (Ht rfl) (i:=0) rfl rfl) (dp 2 rfl (eW dB (Ht rfl) rfl) (dq 26 2 rfl (fX A_46 Z_46 (Ht rfl) (i:=0) rfl rfl) (dp 3 rfl (eW dB (Ht rfl) rfl) (dq 28 4 rfl (fX A_46 Z_46 (Ht rfl) (i:=1) rfl rfl) (cH 27 3 29 5 rfl (cZ Tryz.call270 (zV zo zo) ⟨(Ht rfl),(Ht rfl),trivial⟩) (fG aM rfl (by kernel_rfl) (zF (aJ (aJ (aJ (aV ?_))))))))))))))
   refine ro rfl (cZ K_266 lQ ⟨(Ht rfl),(Ht rfl),trivial⟩) (gZ Z_129 (Ht rfl) (Ht rfl) rfl (i:=2) rfl (aK rfl) rfl rfl (eJ (fK rfl (fJ (fY A_129 Z_129 rfl (i:=2) rfl rfl) ?_))))
   exact (jW (tJ he hle))
  ·have hle : x.natAbs ≤ y.natAbs := Nat.le_of_lt (Bp (by simpa using hc))
   refine cU (cK (fV (m:=7) (dp 3 rfl (eW gC (Ht rfl) rfl) (dq 32 0 rfl (fX A_4 Z_4 (Ht rfl) (i:=1) rfl rfl) (dp 3 rfl (eW dB (Ht rfl) rfl) (dq 34 2 rfl (fX A_46 Z_46 (Ht rfl) (i:=1) rfl rfl) (dp 2 rfl (eW dB (Ht rfl) rfl) (dq 36 4 rfl (fX A_46 Z_46 (Ht rfl) (i:=0) rfl rfl) (cH 35 3 37 5 rfl (cZ Tryz.call270 (zV zo zo) ⟨(Ht rfl),(Ht rfl),trivial⟩) (fG aM rfl (by kernel_rfl) (zF (aJ (aJ (aJ (aV ?_)))))))))))))))
   refine ro rfl (cZ K_266 lQ ⟨(Ht rfl),(Ht rfl),trivial⟩) (gZ Z_129 (Ht rfl) (Ht rfl) rfl (i:=2) rfl (aK rfl) rfl rfl (eJ (fK rfl (fJ (fY A_129 Z_129 rfl (i:=2) rfl rfl) ?_))))
   exact (jW (by rw [tJ (Ne.symm he) hle,Int.add_comm]))
theorem Mu {x y:Int} (hx:(dg x.natAbs).length ≤ 17592186044416) (hy:(dg y.natAbs).length ≤ 17592186044416):aS Tryz.prog 229 [dF x,dF y] (dF (x + -y)):=by
 have hny:=oX y
 refine aS.intro Tryz.func229 rfl Tryz.ntmps229 rfl (fun cx=>(ts (rn rfl (fU (Ht rfl)) fun B2=>(rn rfl (fU (Ht rfl)) fun B3=>(rn rfl (eK (Ts:=[Is (.bool false),Is (.slice none 0 0)]) O_129 rfl (fun V=>aW zd (aW zd (aG)))) fun B4=>(eJ (cK (fV (m:=3) (dp 2 rfl (eG A_129 Z_129 (Ht rfl) (i:=0) rfl rfl rfl) (dp 3 rfl (eG A_129 Z_129 (Ht rfl) (i:=1) rfl rfl rfl) (dq 6 1 rfl (cZ K_228 mS ⟨(Ht rfl),trivial⟩) (fG aM rfl (by kernel_rfl) (aJ (aJ (aJ (aV ?_))))))))))))))))
 refine ro rfl (cZ Tryz.call230 (qS zo zo) ⟨(Ht rfl),(Ht rfl),trivial⟩) (gZ Z_129 (Ht rfl) (Ht rfl) rfl (i:=2) rfl (aK rfl) rfl rfl (eJ ?_))
 exact fK rfl (fY A_129 Z_129 rfl (i:=2) rfl rfl)
theorem jH {x y:Int} (hx:(dg x.natAbs).length ≤ 17592186044416) (hy:(dg y.natAbs).length ≤ 17592186044416):aS Tryz.prog 225 [dF x,dF y] (dF (x * y)):=by
 refine aS.intro Tryz.func225 rfl Tryz.ntmps225 rfl (fun cx=>(ts (rn rfl (fU (Ht rfl)) fun B2=>(rn rfl (fU (Ht rfl)) fun B3=>(rn rfl (eK (Ts:=[Is (.bool false),Is (.slice none 0 0)]) O_129 rfl (fun V=>aW zd (aW zd (aG)))) fun B4=>(eJ (cK (fV (m:=10) (dp 2 rfl (eW gC (Ht rfl) rfl) (dq 5 0 rfl (fX A_4 Z_4 (Ht rfl) (i:=0) rfl rfl) (dp 3 rfl (eW gC (Ht rfl) rfl) (dq 7 2 rfl (fX A_4 Z_4 (Ht rfl) (i:=1) rfl rfl) (cH 6 1 8 3 rfl (Ci U_4 (Ht rfl) (Ht rfl)) ?_)))))))))))))
 refine dp 2 rfl (eW dB (Ht rfl) rfl) (dq 10 5 rfl (fX A_46 Z_46 (Ht rfl) (i:=0) rfl rfl) (dp 3 rfl (eW dB (Ht rfl) rfl) (dq 12 7 rfl (fX A_46 Z_46 (Ht rfl) (i:=1) rfl rfl) (cH 11 6 13 8 rfl (cZ Tryz.call226 (qT zo zo) ⟨(Ht rfl),(Ht rfl),trivial⟩) (fG aM rfl (by kernel_rfl) (zF (zF (aJ (aJ (aV (ro rfl (cZ K_266 lQ ⟨(Ht rfl),(Ht rfl),trivial⟩) (gZ Z_129 (Ht rfl) (Ht rfl) rfl (i:=2) rfl (aK rfl) rfl rfl ?_))))))))))))
 refine eJ (fK rfl (fJ (fY A_129 Z_129 rfl (i:=2) rfl rfl) ?_))
 exact (jW (Aw x y))
theorem zU {x y:Int} (hx:(dg x.natAbs).length ≤ 17592186044416) (hy:(dg y.natAbs).length ≤ 17592186044416):aS Tryz.prog 236 [dF x,dF y] (bC .i64 (gL x y)):=by
 refine aS.intro Tryz.func236 rfl Tryz.ntmps236 rfl (fun cx=>(ts (rn rfl (fU (Ht rfl)) fun B2=>(rn rfl (fU (Ht rfl)) fun B3=>(ro rfl (cQ (cJ 0)) (eJ (cK (ts (ro rfl (eW gC (Ht rfl) rfl) (ro rfl (fX A_4 Z_4 (Ht rfl) (i:=0) rfl rfl) (ro rfl (eW gC (Ht rfl) rfl) (ro rfl (fX A_4 Z_4 (Ht rfl) (i:=1) rfl rfl) (ro rfl (Ci U_4 (Ht rfl) (Ht rfl)) (eJ (dQ (Ht rfl) (fun hb=>?_) (fun hb=>?_))))))))))))))))
 ·have he : decide (x < 0) ≠ decide (y < 0) := by simpa using hb
  refine cK (ts (ro rfl (eW gC (Ht rfl) rfl) (ro rfl (fX A_4 Z_4 (Ht rfl) (i:=0) rfl rfl) (eJ (dQ (Ht rfl) (fun hc=>?_) (fun hc=>?_))))))
  ·have hn : x < 0 := by simpa using hc
   have hm:¬ y < 0:=by simpa [hn] using he
   refine ts (ro rfl (cQ cV) (eJ (fK rfl (fJ (fQ rfl) ?_))))
   exact (bB (by rw [gL,if_pos zo]))
  ·have hn : ¬ x < 0 := by simpa using hc
   have hm:y < 0:=by simpa [hn] using he
   refine cU (ts (ro rfl (cQ (cJ 1)) (eJ (fK rfl (fJ (fQ rfl) ?_)))))
   exact (bB (by rw [gL,if_neg zo,if_pos zo]; rfl))
 ·have he : decide (x < 0) = decide (y < 0) := by simpa using hb
  refine cU (cK (ts (ro rfl (eW gC (Ht rfl) rfl) (ro rfl (fX A_4 Z_4 (Ht rfl) (i:=0) rfl rfl) (eJ (dQ (Ht rfl) (fun hc=>?_) (fun hc=>?_)))))))
  ·refine ts (ro rfl (eW dB (Ht rfl) rfl) (ro rfl (fX A_46 Z_46 (Ht rfl) (i := 1) rfl rfl) (ro rfl (eW dB (Ht rfl) rfl) (ro rfl (fX A_46 Z_46 (Ht rfl) (i := 0) rfl rfl) (ro rfl (cZ Tryz.call237 (oG zo zo) ⟨(Ht rfl), (Ht rfl), trivial⟩) (ra rfl (eJ (fK rfl (fJ (fQ rfl) ?_)))))))))
   exact (bB (Dw he (by simpa using hc)))
  ·refine cU (ts (ro rfl (eW dB (Ht rfl) rfl) (ro rfl (fX A_46 Z_46 (Ht rfl) (i := 0) rfl rfl) (ro rfl (eW dB (Ht rfl) rfl) (ro rfl (fX A_46 Z_46 (Ht rfl) (i := 1) rfl rfl) (ro rfl (cZ Tryz.call237 (oG zo zo) ⟨(Ht rfl), (Ht rfl), trivial⟩) (ra rfl (eJ (fK rfl (fJ (fQ rfl) ?_))))))))))
   exact (bB (Ia he (by simpa using hc)))
theorem sO {A B:Int} {D:Nat} (hD:0 < D) (hA:(dg A.natAbs).length ≤ 17592186044415) (hB:(dg B.natAbs).length ≤ 17592186044415) (hD2:(dg D).length ≤ 17592186044415):aS Tryz.prog 224 [dF A,dF B,aE D] (QT (Qi.mk' A B D)):=by
 have hg1:=xT hA hB
 have hg2:=xT hg1 hD2
 have hgp:Nat.gcd (Nat.gcd A.natAbs B.natAbs) D ≠ 0:=fun e=>by have:=Nat.gcd_eq_zero_iff.1 e; omega
 refine aS.intro Tryz.func224 rfl Tryz.ntmps224 rfl (fun cx=>(ts (rn rfl (fU (Ht rfl)) fun B3=>(rn rfl (fU (Ht rfl)) fun B4=>(rn rfl (eK (Ts:=[Is (.bool false),Is (.slice none 0 0),Is (.bool false),Is (.slice none 0 0),Is (.slice none 0 0)]) O_131 rfl (fun V=>aW zd (aW zd (aW zd (aW zd (aW zd (aG))))))) fun B6=>(eJ (ts (ro rfl (eW dB (Ht rfl) rfl) (ro rfl (fX A_46 Z_46 (Ht rfl) (i:=0) rfl rfl) ?_)))))))))
 refine ro rfl (eW dB (Ht rfl) rfl) (ro rfl (fX A_46 Z_46 (Ht rfl) (i:=1) rfl rfl) (ro rfl (cZ Tryz.call264 (Hw zo zo) ⟨(Ht rfl),(Ht rfl),trivial⟩) (rm rfl (ro rfl (cZ Tryz.call264 (Hw zo zo) ⟨(Ht rfl),(Ht rfl),trivial⟩) (ra rfl (eJ (cK (ts (rm rfl (ro rfl (dU U_46 (Ht rfl) aA) (ro rfl (cT (Ht rfl) (cJ 1)) (rm rfl (fZ rfl rfl (eY rfl rfl (Ht rfl) (fun h=>cX (Ht rfl))) (fZ rfl rfl (eY rfl rfl (Ht rfl) (fun h=>dZ U_46 Z_189 (fW rfl h) (cJ 0) rfl (eX (aF (by first | omega | (simp at h; omega)))))) ?_))))))))))))))
 refine fZ rfl rfl (eY rfl rfl (Ht rfl) (fun h=>dJ A_189 Z_189 (fW rfl h))) (fZ rfl rfl (eY rfl rfl (Ht rfl) (fun h=>cT (fW rfl h) (cJ 1))) (ro rfl (dP (Ht rfl) (fun h=>(fW rfl h))) (eJ (dQ (Ht rfl) (fun hb=>?_) (fun hb=>?_)))))
 ·rw [Cg] at hb
  have hg:Qi.g3 A B D = 1:=by simpa [Qi.g3] using hb
  refine ts (ro rfl (eG A_129 Z_129 (Ht rfl) (i:=0) rfl rfl rfl) (ro rfl (eG A_129 Z_129 (Ht rfl) (i:=1) rfl rfl rfl) (rm rfl (ro rfl (kJ (Ht rfl) (Ht rfl) (Ht rfl)) (gZ Z_131 (Ht rfl) (Ht rfl) rfl (i:=2) rfl (aK rfl) rfl rfl (eJ (fK rfl (fJ (fY A_131 Z_131 rfl (i:=2) rfl rfl) ?_))))))))
  exact (Rz hD hg)
 ·refine cU (ts (ro rfl (eW dB (Ht rfl) rfl) (ro rfl (fX A_46 Z_46 (Ht rfl) (i := 0) rfl rfl) (rm rfl (ro rfl (cZ K_265 (tW zo zo zo) ⟨(Ht rfl), (Ht rfl), trivial⟩) (rm rfl (ro rfl (dY (Ht rfl) rfl) (ro rfl (dY (Ht rfl) rfl) (ra rfl (ra rfl (eJ (ts (ro rfl (eW dB (Ht rfl) rfl) (ro rfl (fX A_46 Z_46 (Ht rfl) (i := 1) rfl rfl) (rm rfl (ro rfl (cZ K_265 (tW zo zo zo) ⟨(Ht rfl), (Ht rfl), trivial⟩) (rm rfl (ro rfl (dY (Ht rfl) rfl) ?_))))))))))))))))))
  refine ro rfl (dY (Ht rfl) rfl) (ra rfl (ra rfl (eJ (ts (rm rfl (rm rfl (ro rfl (cZ K_265 (tW zo zo zo) ⟨(Ht rfl),(Ht rfl),trivial⟩) (rm rfl (ro rfl (dY (Ht rfl) rfl) (ro rfl (dY (Ht rfl) rfl) (ra rfl (ra rfl (eJ (cK (fV (m:=9) (dp 3 rfl (eW gC (Ht rfl) rfl) (dq 54 0 rfl (fX A_4 Z_4 (Ht rfl) (i:=0) rfl rfl) (dp 8 rfl (cX (Ht rfl)) (cH 55 1 56 2 rfl (cZ K_266 lQ ⟨(Ht rfl),(Ht rfl),trivial⟩) (dp 4 rfl (eW gC (Ht rfl) rfl) ?_))))))))))))))))))))
  refine dq 58 4 rfl (fX A_4 Z_4 (Ht rfl) (i:=1) rfl rfl) (dp 10 rfl (cX (Ht rfl)) (cH 59 5 60 6 rfl (cZ K_266 lQ ⟨(Ht rfl),(Ht rfl),trivial⟩) (dp 12 rfl (cX (Ht rfl)) (fG aM rfl (by kernel_rfl) (zF (zF (aJ (aV (ro rfl (kJ (Ht rfl) (Ht rfl) (Ht rfl)) (gZ Z_131 (Ht rfl) (Ht rfl) rfl (i:=2) rfl (aK rfl) rfl rfl (eJ (fK rfl (fJ (fY A_131 Z_131 rfl (i:=2) rfl rfl) ?_)))))))))))))
  exact (Sa hD rfl)
theorem nA {n:Int} (h1:-9223372036854775808 ≤ n) (h2:n ≤ 9223372036854775807):aS Tryz.prog 148 [bC .i64 n] (QT (Qi.ofInt n)):=by
 refine aS.intro Tryz.func148 rfl Tryz.ntmps148 rfl (fun cx=>(ts (rn rfl (eK (Ts:=[Is (.bool false),Is (.slice none 0 0),Is (.bool false),Is (.slice none 0 0),Is (.slice none 0 0)]) O_131 rfl (fun V=>aW zd (aW zd (aW zd (aW zd (aW zd (aG))))))) fun B2=>(eJ (ts (rm rfl (ro rfl (cZ Tryz.call227 (sN h1 h2) ⟨(Ht rfl),trivial⟩) (ro rfl (De ) (ro rfl (dA (xs:=[_]) U_46 Z_189 O_189 (cW (cJ 1) cG) rfl rfl rfl) ?_)))))))))
 refine ro rfl (kJ (Ht rfl) (Ht rfl) (Ht rfl)) (gZ Z_131 (Ht rfl) (Ht rfl) rfl (i:=0) rfl (aK rfl) rfl rfl (eJ (fK rfl (fJ (fY A_131 Z_131 rfl (i:=0) rfl rfl) ?_))))
 exact a1D
theorem a0s {p q d:Int} (p1:-9223372036854775808 ≤ p) (p2:p ≤ 9223372036854775807) (q1:-9223372036854775808 ≤ q) (q2:q ≤ 9223372036854775807) (d1:-9223372036854775808 ≤ d) (d2:d ≤ 9223372036854775807) (hd:d ≠ 0):aS Tryz.prog 145 [bC .i64 p,bC .i64 q,bC .i64 d] (gE [QT (Qi.frac p q d),bC .i64 0]):=by
 have lp:=Ng p1 p2; have lq:=Ng q1 q2; have ld:=Ng d1 d2; have np:=oX p; have nq:=oX q
 refine aS.intro Tryz.func145 rfl Tryz.ntmps145 rfl (fun cx=>(ts (rn rfl (eK (Ts:=[Is (.bool false),Is (.slice none 0 0),Is (.bool false),Is (.slice none 0 0),Is (.slice none 0 0)]) O_131 rfl (fun V=>aW zd (aW zd (aW zd (aW zd (aW zd (aG))))))) fun B6=>(ro rfl (cQ (cJ 0)) (eJ (cK (ts (rm rfl (ro rfl (iH (Ht rfl) cV) (eJ (jZ (Ht rfl) (by simp [hd]) ?_)))))))))))
 refine cU (ts (rm rfl (ro rfl (cZ Tryz.call227 (sN d1 d2) ⟨(Ht rfl),trivial⟩) (rn rfl (eK (Ts:=[Is (.bool false),Is (.slice none 0 0)]) O_129 rfl (fun V=>aW zd (aW zd (aG)))) fun B8=>(gZ Z_129 (Ht rfl) (Ht rfl) rfl (i:=1) rfl (aK rfl) rfl rfl (eJ (ts (rm rfl (ro rfl (cZ Tryz.call227 (sN p1 p2) ⟨(Ht rfl),trivial⟩) (rm rfl (ro rfl (cZ Tryz.call227 (sN q1 q2) ⟨(Ht rfl),trivial⟩) (rn rfl (eK (Ts:=[Is (.bool false),Is (.slice none 0 0)]) O_129 rfl (fun V=>aW zd (aW zd (aG)))) fun B9=>?_))))))))))))
 refine rn rfl (eK (Ts:=[Is (.bool false),Is (.slice none 0 0)]) O_129 rfl (fun V=>aW zd (aW zd (aG)))) fun B10=>gZ Z_129 (Ht rfl) (Ht rfl) rfl (i:=2) rfl (aK rfl) rfl rfl (gZ Z_129 (Ht rfl) (Ht rfl) rfl (i:=3) rfl (aK rfl) rfl rfl (eJ (cK (nL (fun (a:Int) (b:Int)=>Qi.mk' a b d.natAbs = Qi.frac p q d ∧ (dg a.natAbs).length ≤ 2 ∧ (dg b.natAbs).length ≤ 2) (fun (a:Int) (b:Int)=>[(6,cC B6 0),(8,cC B8 0),(9,cC B9 0),(10,cC B10 0)]) (fun (a:Int) (b:Int)=>[box B6 131 [Is (.bool false),Is (.slice none 0 0),Is (.bool false),Is (.slice none 0 0),Is (.slice none 0 0)],box B8 129 [aC (decide (d < 0)),aE (d).natAbs],box B9 129 [aC (decide (a < 0)),aE (a).natAbs],box B10 129 [aC (decide (b < 0)),aE (b).natAbs]]) ?_ (fun a b ⟨hab,ha,hb⟩=>?_)))))
 ·refine ts (ro rfl (eW gC (Ht rfl) rfl) (ro rfl (fX A_4 Z_4 (Ht rfl) (i := 1) rfl rfl) (eJ (dQ (Ht rfl) (fun hn => ?_) (fun hn => ?_)))))
  ·simp only [decide_eq_true_eq] at hn
   refine fV (m:=3) (dp 9 rfl (eG A_129 Z_129 (Ht rfl) (i:=2) rfl rfl rfl) (dq 22 0 rfl (cZ K_228 mS ⟨(Ht rfl),trivial⟩) (dp 10 rfl (eG A_129 Z_129 (Ht rfl) (i:=3) rfl rfl rfl) (fG aM rfl (by kernel_rfl) (aJ (aJ (aJ (aV (ro rfl (cZ K_228 mS ⟨(Ht rfl),trivial⟩) (gZ Z_129 (Ht rfl) (Ht rfl) rfl (i:=2) rfl (aK rfl) rfl rfl (gZ Z_129 (Ht rfl) (Ht rfl) rfl (i:=3) rfl (aK rfl) rfl rfl (eJ (aO (-p,-q) ⟨Qi.frac_neg hn,by dsimp only; omega,by dsimp only; omega⟩ (zS rfl) (aU (aB rfl) (aU (aB rfl) (aU (aB rfl) (aU (aB rfl) aY)))))))))))))))))
  ·simp only [decide_eq_false_iff_not] at hn
   refine cU (aO (p,q) ⟨Qi.frac_pos hn hd,by omega,by omega⟩ (zS rfl) (cL.refl _))
 ·refine ts (ro rfl (eG A_129 Z_129 (Ht rfl) (i := 2) rfl rfl rfl) (ro rfl (eG A_129 Z_129 (Ht rfl) (i := 3) rfl rfl rfl) (ro rfl (eW dB (Ht rfl) rfl) (ro rfl (fX A_46 Z_46 (Ht rfl) (i := 1) rfl rfl) (ro rfl (cZ Tryz.call224 (sO zo zo zo zo) ⟨(Ht rfl), (Ht rfl), (Ht rfl), trivial⟩) (gZ Z_131 (Ht rfl) (Ht rfl) rfl (i := 0) rfl (aK rfl) rfl rfl (ro rfl (cQ (cJ 0)) (eJ (bN rfl (fJ (fY A_131 Z_131 rfl (i := 0) rfl rfl) ?_) (fQ rfl))))))))))
  exact (zK hab)
theorem a1p {r:Rt}:aS Tryz.prog 151 [Oz r] (QT r.q):=by
 have hr1:=r.h1; have hr2:=r.h2; have hr3:=r.h3; have hr4:=r.h4; have hr5:=r.d1; have hr6:=r.d2; have hr0:=r.d0
 refine aS.intro Tryz.func151 rfl Tryz.ntmps151 rfl (fun cx=>(ts (rn rfl (fU (Ht rfl)) fun B1=>(rn rfl (eK (Ts:=[Is (.bool false),Is (.slice none 0 0),Is (.bool false),Is (.slice none 0 0),Is (.slice none 0 0)]) O_131 rfl (fun V=>aW zd (aW zd (aW zd (aW zd (aW zd (aG))))))) fun B2=>(eJ (cK (iY (fun (uu:Unit)=>True) (fun (uu:Unit)=>[(1,cC B1 0),(2,cC B2 0)]) (fun (uu:Unit)=>[box B1 102 [bC .i64 r.re,bC .i64 r.im,bC .i64 r.d],box B2 131 [Is (.bool false),Is (.slice none 0 0),Is (.bool false),Is (.slice none 0 0),Is (.slice none 0 0)]]) ?_ (fun uu _=>?_))))))))
 ·refine ts (ro rfl (eW oJ (Ht rfl) rfl) (ro rfl (fX A_2 Z_2 (Ht rfl) (i := 0) rfl rfl) (ro rfl (iH (Ht rfl) cV) (eJ (dQ (Ht rfl) (fun hb => ?_) (fun hb => ?_))))))
  ·simp only [decide_eq_true_eq] at hb
   refine cY (ro rfl (eW oJ (Ht rfl) rfl) (jX Z_2 (Ht rfl) (cJ 1) (i:=0) rfl (aK rfl) rfl (eJ (aO () trivial (zS rfl) (aU (aB (by rw [Rt.d,if_pos hb]; rfl)) (aU (aB rfl) aY))))))
  ·simp only [decide_eq_false_iff_not] at hb
   refine cU (aO () trivial (zS rfl) (aU (aB (by rw [Rt.d,if_neg hb])) (aU (aB rfl) aY)))
 ·refine ts (ro rfl (eW En (Ht rfl) rfl) (ro rfl (fX A_2 Z_2 (Ht rfl) (i := 0) rfl rfl) (ro rfl (eW Eo (Ht rfl) rfl) (ro rfl (fX A_2 Z_2 (Ht rfl) (i := 0) rfl rfl) (ro rfl (eW oJ (Ht rfl) rfl) (ro rfl (fX A_2 Z_2 (Ht rfl) (i := 0) rfl rfl) (ro rfl (cZ Tryz.call145 (a0s hr1 hr2 hr3 hr4 hr5 hr6 hr0) ⟨(Ht rfl), (Ht rfl), (Ht rfl), trivial⟩) (rm rfl (ro rfl (dY (Ht rfl) rfl) (ro rfl (dY (Ht rfl) rfl) (rn rfl (eK (Ts := [Is (.bool false), Is (.slice none 0 0), Is (.bool false), Is (.slice none 0 0), Is (.slice none 0 0)]) O_131 rfl (fun V => aW zd (aW zd (aW zd (aW zd (aW zd (aG))))))) fun B3 => ?_)))))))))))
  refine gZ Z_131 (Ht rfl) (Ht rfl) rfl (i:=2) rfl (aK rfl) rfl rfl (ra rfl (eJ (ts (ro rfl (eG A_131 Z_131 (Ht rfl) (i:=2) rfl rfl rfl) (gZ Z_131 (Ht rfl) (Ht rfl) rfl (i:=1) rfl (aK rfl) rfl rfl (eJ ?_))))))
  exact fK rfl (fY A_131 Z_131 rfl (i:=1) rfl rfl)
theorem Qf {x y:Qi} {L M:Nat} [hx:aD x L] [hy:aD y M] (h:L + M + 1 ≤ 17592186044415):aS Tryz.prog 149 [QT x,QT y] (QT (x + y)):=by
 have hxa:=iE hx.fit; have hxb:=iL hx.fit; have hxd:=iF hx.fit
 have hya:=iE hy.fit; have hyb:=iL hy.fit; have hyd:=iF hy.fit
 have hxp:=x.den_pos; have hyp:=y.den_pos; have hdp:=Nat.mul_pos hxp hyp
 have e1:=dC x.a y.den; have e2:=dC y.a x.den; have e3:=dC x.b y.den; have e4:=dC y.b x.den; have e5:=oW x.den y.den
 have e6:=jA (x:=x.a * y.den) (y:=y.a * x.den) (L:=L + M) zo zo; have e7:=jA (x:=x.b * y.den) (y:=y.b * x.den) (L:=L + M) zo zo
 refine aS.intro Tryz.func149 rfl Tryz.ntmps149 rfl (fun cx=>?_)
 have n1:(dg ((x.den:Nat):Int).natAbs).length ≤ L:=by rw [Int.natAbs_natCast]; exact hxd
 have n2:(dg ((y.den:Nat):Int).natAbs).length ≤ M:=by rw [Int.natAbs_natCast]; exact hyd
 refine ts (rn rfl (fU (Ht rfl)) fun B2=>(rn rfl (fU (Ht rfl)) fun B3=>(rn rfl (eK (Ts:=[Is (.bool false),Is (.slice none 0 0),Is (.bool false),Is (.slice none 0 0),Is (.slice none 0 0)]) O_131 rfl (fun V=>aW zd (aW zd (aW zd (aW zd (aW zd (aG))))))) fun B4=>(eJ (cK (Y.D_start (m:=9) [] (bY (Ei:=[(2,_)]) rfl rfl (bQ (bJ rfl rfl) bX) rfl rfl (dX rfl (eW fL (Ht rfl) rfl)) (bY (Ei:=[(7,_)]) rfl rfl (bQ (bZ 0 rfl rfl) bX) rfl rfl (dX rfl (fX A_46 Z_46 (Ht rfl) (i:=0) rfl rfl)) ?_))))))))
 refine bY (Ei:=[(8,_)]) rfl rfl (bQ (bZ 1 rfl rfl) bX) rfl rfl (dX rfl (aI.imp (kX cV (Ht rfl)) uG)) (bY (Ei:=[(3,_)]) rfl rfl (bQ (bJ rfl rfl) bX) rfl rfl (dX rfl (eW fL (Ht rfl) rfl)) (bY (Ei:=[(10,_)]) rfl rfl (bQ (bZ 3 rfl rfl) bX) rfl rfl (dX rfl (fX A_46 Z_46 (Ht rfl) (i:=1) rfl rfl)) (bY (Ei:=[(11,_)]) rfl rfl (bQ (bZ 4 rfl rfl) bX) rfl rfl (dX rfl (aI.imp (kX cV (Ht rfl)) uG)) ?_)))
 refine Y.D_newp (Ei:=[]) (fun bb=>box bb 129 [aC (decide (((x.den:Nat):Int) < 0)),aE (((x.den:Nat):Int)).natAbs]) 8 rfl rfl rfl bX rfl rfl (by kernel_rfl) (eK (Ts:=[Is (.bool false),Is (.slice none 0 0)]) O_129 rfl (fun V=>aW zd (aW zd (aG)))) (Y.D_new (Ei:=[]) rfl rfl rfl bX rfl rfl (eK (Ts:=[Is (.bool false),Is (.slice none 0 0)]) O_129 rfl (fun V=>aW zd (aW zd (aG)))) (Y.D_putN (Ei:=[(9,_)]) 6 rfl rfl rfl rfl rfl rfl (bQ (bZ 2 rfl rfl) bX) (fun bb=>mX Z_129 (Ht rfl) (Ht rfl) rfl (i:=0) rfl (aK rfl) rfl rfl) ?_))
 refine Y.D_done aM rfl (by kernel_rfl) rfl (by simp [Y.okP]) rfl rfl (bU (bU (bU (bU (bU (bU (Y.F_newp (fun B5=>Y.F_new (fun B6=>Y.F_putN (Y.F_nil ?_))))))))))
 refine gZ Z_129 (Ht rfl) (Ht rfl) rfl (i:=4) rfl (aK rfl) rfl rfl (eJ (cK (fV (m:=22) (dp 2 rfl (eW fI (Ht rfl) rfl) (dq 13 0 rfl (eG A_129 Z_129 (Ht rfl) (i:=0) rfl rfl rfl) (dp 6 rfl (eG A_129 Z_129 (Ht rfl) (i:=4) rfl rfl rfl) (cH 14 1 15 2 rfl (cZ K_225 (jH zo zo) ⟨(Ht rfl),(Ht rfl),trivial⟩) (dp 3 rfl (eW fI (Ht rfl) rfl) (dq 17 4 rfl (eG A_129 Z_129 (Ht rfl) (i:=1) rfl rfl rfl) (dp 5 rfl (eG A_129 Z_129 (Ht rfl) (i:=3) rfl rfl rfl) ?_))))))))))
 refine cH 18 5 19 6 rfl (cZ K_225 (jH zo zo) ⟨(Ht rfl),(Ht rfl),trivial⟩) (cH 16 3 20 7 rfl (cZ Tryz.call230 (qS zo zo) ⟨(Ht rfl),(Ht rfl),trivial⟩) (dp 2 rfl (eW gD (Ht rfl) rfl) (dq 22 9 rfl (eG A_129 Z_129 (Ht rfl) (i:=0) rfl rfl rfl) (dp 6 rfl (eG A_129 Z_129 (Ht rfl) (i:=4) rfl rfl rfl) (cH 23 10 24 11 rfl (cZ K_225 (jH zo zo) ⟨(Ht rfl),(Ht rfl),trivial⟩) (dp 3 rfl (eW gD (Ht rfl) rfl) (dq 26 13 rfl (eG A_129 Z_129 (Ht rfl) (i:=1) rfl rfl rfl) ?_)))))))
 refine dp 5 rfl (eG A_129 Z_129 (Ht rfl) (i:=3) rfl rfl rfl) (cH 27 14 28 15 rfl (cZ K_225 (jH zo zo) ⟨(Ht rfl),(Ht rfl),trivial⟩) (cH 25 12 29 16 rfl (cZ Tryz.call230 (qS zo zo) ⟨(Ht rfl),(Ht rfl),trivial⟩) (dp 2 rfl (eW fL (Ht rfl) rfl) (dq 31 18 rfl (fX A_46 Z_46 (Ht rfl) (i:=0) rfl rfl) (dp 3 rfl (eW fL (Ht rfl) rfl) (dq 33 20 rfl (fX A_46 Z_46 (Ht rfl) (i:=1) rfl rfl) (fG aM rfl (by kernel_rfl) (zF (zF (zF (zF (zF (aJ (aJ (aV ?_)))))))))))))))
 refine ro rfl (cZ Tryz.call226 (qT zo zo) ⟨(Ht rfl),(Ht rfl),trivial⟩) (ro rfl (cZ Tryz.call224 (sO (by first | assumption | omega) zo zo zo) ⟨(Ht rfl),(Ht rfl),(Ht rfl),trivial⟩) (gZ Z_131 (Ht rfl) (Ht rfl) rfl (i:=2) rfl (aK rfl) rfl rfl (eJ (fK rfl (fJ (fY A_131 Z_131 rfl (i:=2) rfl rfl) ?_)))))
 exact (zK (Qi.mk_add x y))
theorem a0r {x:Qi}:aS Tryz.prog 150 [QT x] (QT (-x)):=by
 refine aS.intro Tryz.func150 rfl Tryz.ntmps150 rfl (fun cx=>(ts (rn rfl (fU (Ht rfl)) fun B1=>(rn rfl (eK (Ts:=[Is (.bool false),Is (.slice none 0 0),Is (.bool false),Is (.slice none 0 0),Is (.slice none 0 0)]) O_131 rfl (fun V=>aW zd (aW zd (aW zd (aW zd (aW zd (aG))))))) fun B2=>(eJ (cK (fV (m:=8) (dp 1 rfl (eW fI (Ht rfl) rfl) (dq 3 0 rfl (eG A_129 Z_129 (Ht rfl) (i:=0) rfl rfl rfl) ?_)))))))))
 refine dq 4 1 rfl (cZ K_228 mS ⟨(Ht rfl),trivial⟩) (dp 1 rfl (eW gD (Ht rfl) rfl) (dq 6 3 rfl (eG A_129 Z_129 (Ht rfl) (i:=0) rfl rfl rfl) (dq 7 4 rfl (cZ K_228 mS ⟨(Ht rfl),trivial⟩) (dp 1 rfl (eW fL (Ht rfl) rfl) (dq 9 6 rfl (fX A_46 Z_46 (Ht rfl) (i:=0) rfl rfl) (fG aM rfl (by kernel_rfl) (zF (zF (aV (ro rfl (kJ (Ht rfl) (Ht rfl) (Ht rfl)) (gZ Z_131 (Ht rfl) (Ht rfl) rfl (i:=1) rfl (aK rfl) rfl rfl ?_)))))))))))
 refine eJ (fK rfl (fJ (fY A_131 Z_131 rfl (i:=1) rfl rfl) ?_))
 exact (lP (by obtain ⟨e1,e2,e3⟩:=Qi.neg_a x; rw [e1,e2,e3]; rfl))
theorem vZ {x:Qi}:aS Tryz.prog 173 [QT x] (QT x.conj):=by
 refine aS.intro Tryz.func173 rfl Tryz.ntmps173 rfl (fun cx=>(ts (rn rfl (fU (Ht rfl)) fun B1=>(rn rfl (eK (Ts:=[Is (.bool false),Is (.slice none 0 0),Is (.bool false),Is (.slice none 0 0),Is (.slice none 0 0)]) O_131 rfl (fun V=>aW zd (aW zd (aW zd (aW zd (aW zd (aG))))))) fun B2=>(eJ (cK (fV (m:=7) (dp 1 rfl (eW fI (Ht rfl) rfl) (dq 3 0 rfl (eG A_129 Z_129 (Ht rfl) (i:=0) rfl rfl rfl) ?_)))))))))
 refine dp 1 rfl (eW gD (Ht rfl) rfl) (dq 5 2 rfl (eG A_129 Z_129 (Ht rfl) (i:=0) rfl rfl rfl) (dq 6 3 rfl (cZ K_228 mS ⟨(Ht rfl),trivial⟩) (dp 1 rfl (eW fL (Ht rfl) rfl) (dq 8 5 rfl (fX A_46 Z_46 (Ht rfl) (i:=0) rfl rfl) (fG aM rfl (by kernel_rfl) (zF (aJ (aJ (aJ (aV (ro rfl (kJ (Ht rfl) (Ht rfl) (Ht rfl)) (gZ Z_131 (Ht rfl) (Ht rfl) rfl (i:=1) rfl (aK rfl) rfl rfl (eJ (fK rfl (fJ (fY A_131 Z_131 rfl (i:=1) rfl rfl) ?_)))))))))))))))
 exact (lP (by obtain ⟨e1,e2,e3⟩:=Qi.conj_a x; rw [e1,e2,e3]; rfl))
theorem Qj {x y:Qi} {L M:Nat} [hx:aD x L] [hy:aD y M] (h:L + M + 1 ≤ 17592186044415):aS Tryz.prog 147 [QT x,QT y] (QT (x - y)):=by
 have hxa:=iE hx.fit; have hxb:=iL hx.fit; have hxd:=iF hx.fit
 have hya:=iE hy.fit; have hyb:=iL hy.fit; have hyd:=iF hy.fit
 have hxp:=x.den_pos; have hyp:=y.den_pos; have hdp:=Nat.mul_pos hxp hyp
 refine aS.intro Tryz.func147 rfl Tryz.ntmps147 rfl (fun cx=>(ts (rn rfl (fU (Ht rfl)) fun B2=>(rn rfl (fU (Ht rfl)) fun B3=>(rn rfl (eK (Ts:=[Is (.bool false),Is (.slice none 0 0),Is (.bool false),Is (.slice none 0 0),Is (.slice none 0 0)]) O_131 rfl (fun V=>aW zd (aW zd (aW zd (aW zd (aW zd (aG))))))) fun B4=>(eJ (cK (fV (m:=3) (dp 2 rfl (eG A_131 Z_131 (Ht rfl) (i:=0) rfl rfl rfl) (dp 3 rfl (eG A_131 Z_131 (Ht rfl) (i:=1) rfl rfl rfl) ?_))))))))))
 refine dq 6 1 rfl (cZ Tryz.call150 a0r ⟨(Ht rfl),trivial⟩) (fG aM rfl (by kernel_rfl) (aJ (aJ (aJ (aV (ro rfl (cZ Tryz.call149 (Qf zo) ⟨(Ht rfl),(Ht rfl),trivial⟩) (gZ Z_131 (Ht rfl) (Ht rfl) rfl (i:=2) rfl (aK rfl) rfl rfl (eJ (fK rfl (fJ (fY A_131 Z_131 rfl (i:=2) rfl rfl) ?_))))))))))
 exact (zK (Qi.sub_def x y).symm)
theorem tX {x y:Qi} {L M:Nat} [hx:aD x L] [hy:aD y M] (h:L + M + 1 ≤ 17592186044415):aS Tryz.prog 146 [QT x,QT y] (QT (x * y)):=by
 have hxa:=iE hx.fit; have hxb:=iL hx.fit; have hxd:=iF hx.fit
 have hya:=iE hy.fit; have hyb:=iL hy.fit; have hyd:=iF hy.fit
 have hxp:=x.den_pos; have hyp:=y.den_pos; have hdp:=Nat.mul_pos hxp hyp
 have e1:=iK x.a y.a; have e2:=iK x.b y.b; have e3:=iK x.a y.b; have e4:=iK x.b y.a; have e5:=oW x.den y.den; have e8:=oX (x.b * y.b)
 have e6:=jA (x:=x.a * y.a) (y:=-(x.b * y.b)) (L:=L + M) zo zo; have e7:=jA (x:=x.a * y.b) (y:=x.b * y.a) (L:=L + M) zo zo
 refine aS.intro Tryz.func146 rfl Tryz.ntmps146 rfl (fun cx=>(ts (rn rfl (fU (Ht rfl)) fun B2=>(rn rfl (fU (Ht rfl)) fun B3=>(rn rfl (eK (Ts:=[Is (.bool false),Is (.slice none 0 0),Is (.bool false),Is (.slice none 0 0),Is (.slice none 0 0)]) O_131 rfl (fun V=>aW zd (aW zd (aW zd (aW zd (aW zd (aG))))))) fun B4=>(eJ (cK (fV (m:=26) (dp 2 rfl (eW fI (Ht rfl) rfl) (dq 5 0 rfl (eG A_129 Z_129 (Ht rfl) (i:=0) rfl rfl rfl) ?_))))))))))
 refine dp 3 rfl (eW fI (Ht rfl) rfl) (dq 7 2 rfl (eG A_129 Z_129 (Ht rfl) (i:=1) rfl rfl rfl) (cH 6 1 8 3 rfl (cZ K_225 (jH zo zo) ⟨(Ht rfl),(Ht rfl),trivial⟩) (dp 2 rfl (eW gD (Ht rfl) rfl) (dq 10 5 rfl (eG A_129 Z_129 (Ht rfl) (i:=0) rfl rfl rfl) (dp 3 rfl (eW gD (Ht rfl) rfl) (dq 12 7 rfl (eG A_129 Z_129 (Ht rfl) (i:=1) rfl rfl rfl) (cH 11 6 13 8 rfl (cZ K_225 (jH zo zo) ⟨(Ht rfl),(Ht rfl),trivial⟩) (cH 9 4 14 9 rfl (cZ Tryz.call229 (Mu zo zo) ⟨(Ht rfl),(Ht rfl),trivial⟩) ?_))))))))
 refine dp 2 rfl (eW fI (Ht rfl) rfl) (dq 16 11 rfl (eG A_129 Z_129 (Ht rfl) (i:=0) rfl rfl rfl) (dp 3 rfl (eW gD (Ht rfl) rfl) (dq 18 13 rfl (eG A_129 Z_129 (Ht rfl) (i:=1) rfl rfl rfl) (cH 17 12 19 14 rfl (cZ K_225 (jH zo zo) ⟨(Ht rfl),(Ht rfl),trivial⟩) (dp 2 rfl (eW gD (Ht rfl) rfl) (dq 21 16 rfl (eG A_129 Z_129 (Ht rfl) (i:=0) rfl rfl rfl) (dp 3 rfl (eW fI (Ht rfl) rfl) (dq 23 18 rfl (eG A_129 Z_129 (Ht rfl) (i:=1) rfl rfl rfl) ?_))))))))
 refine cH 22 17 24 19 rfl (cZ K_225 (jH zo zo) ⟨(Ht rfl),(Ht rfl),trivial⟩) (cH 20 15 25 20 rfl (cZ Tryz.call230 (qS zo zo) ⟨(Ht rfl),(Ht rfl),trivial⟩) (dp 2 rfl (eW fL (Ht rfl) rfl) (dq 27 22 rfl (fX A_46 Z_46 (Ht rfl) (i:=0) rfl rfl) (dp 3 rfl (eW fL (Ht rfl) rfl) (dq 29 24 rfl (fX A_46 Z_46 (Ht rfl) (i:=1) rfl rfl) (fG aM rfl (by kernel_rfl) (zF (zF (zF (zF (zF (zF (aJ (aJ (aV ?_)))))))))))))))
 refine ro rfl (cZ Tryz.call226 (qT zo zo) ⟨(Ht rfl),(Ht rfl),trivial⟩) (ro rfl (cZ Tryz.call224 (sO (by first | assumption | omega) zo zo zo) ⟨(Ht rfl),(Ht rfl),(Ht rfl),trivial⟩) (gZ Z_131 (Ht rfl) (Ht rfl) rfl (i:=2) rfl (aK rfl) rfl rfl (eJ (fK rfl (fJ (fY A_131 Z_131 rfl (i:=2) rfl rfl) ?_)))))
 exact (zK (Qi.mk_mul x y))
theorem Bm {x:Qi}:aS Tryz.prog 166 [QT x] (aC (decide (x = Qi.zero))):=by
 refine aS.intro Tryz.func166 rfl Tryz.ntmps166 rfl (fun cx=>(ts (rn rfl (fU (Ht rfl)) fun B1=>(ro rfl (cQ cV) (eJ (ts (ro rfl (eW fI (Ht rfl) rfl) (ro rfl (eW dB (Ht rfl) rfl) (ro rfl (fX A_46 Z_46 (Ht rfl) (i:=0) rfl rfl) (ro rfl (dU U_46 (Ht rfl) aA) (ro rfl (cT (Ht rfl) (cJ 0)) (rm rfl (fZ rfl rfl (eY rfl rfl (Ht rfl) (fun h=>eW gD (Ht rfl) rfl)) (fZ rfl rfl (eY rfl rfl (Ht rfl) (fun h=>eW dB (fW rfl h) rfl)) (fZ rfl rfl (eY rfl rfl (Ht rfl) (fun h=>fX A_46 Z_46 (fW rfl h) (i:=0) rfl rfl)) ?_)))))))))))))))
 refine fZ rfl rfl (eY rfl rfl (Ht rfl) (fun h=>dU U_46 (fW rfl h) aA)) (fZ rfl rfl (eY rfl rfl (Ht rfl) (fun h=>cT (fW rfl h) (cJ 0))) (ro rfl (dP (Ht rfl) (fun h=>(fW rfl h))) (ra rfl (eJ (fK rfl (fJ (fQ rfl) ?_))))))
 exact (bI (Tp x))
theorem Kf {x y:Qi} {L M:Nat} [hx:aD x L] [hy:aD y M] (h:L ≤ 17592186044415) (h2:M ≤ 17592186044415):aS Tryz.prog 164 [QT x,QT y] (aC (decide (x = y))):=by
 have hxa:=iE hx.fit; have hxb:=iL hx.fit; have hxd:=iF hx.fit
 have hya:=iE hy.fit; have hyb:=iL hy.fit; have hyd:=iF hy.fit
 refine aS.intro Tryz.func164 rfl Tryz.ntmps164 rfl (fun cx=>(ts (rn rfl (fU (Ht rfl)) fun B2=>(rn rfl (fU (Ht rfl)) fun B3=>(ro rfl (cQ cV) (eJ (ts (ro rfl (eW fI (Ht rfl) rfl) (ro rfl (eG A_129 Z_129 (Ht rfl) (i:=0) rfl rfl rfl) (ro rfl (eW fI (Ht rfl) rfl) (ro rfl (eG A_129 Z_129 (Ht rfl) (i:=1) rfl rfl rfl) (ro rfl (cZ Tryz.call236 (zU zo zo) ⟨(Ht rfl),(Ht rfl),trivial⟩) (ro rfl (iH (Ht rfl) cV) (rm rfl (fZ rfl rfl (eY rfl rfl (Ht rfl) (fun h=>eW gD (Ht rfl) rfl)) ?_)))))))))))))))
 refine fZ rfl rfl (eY rfl rfl (Ht rfl) (fun h=>eG A_129 Z_129 (fW rfl h) (i:=0) rfl rfl rfl)) (fZ rfl rfl (eY rfl rfl (Ht rfl) (fun h=>eW gD (Ht rfl) rfl)) (fZ rfl rfl (eY rfl rfl (Ht rfl) (fun h=>eG A_129 Z_129 (fW rfl h) (i:=1) rfl rfl rfl)) (fZ rfl rfl (eY rfl rfl (Ht rfl) (fun h=>cZ Tryz.call236 (zU zo zo) ⟨(fW rfl h),(fW rfl h),trivial⟩)) (fZ rfl rfl (eY rfl rfl (Ht rfl) (fun h=>iH (fW rfl h) cV)) (ro rfl (dP (Ht rfl) (fun h=>(fW rfl h))) ?_)))))
 refine rm rfl (fZ rfl rfl (eY rfl rfl (Ht rfl) (fun h=>eW fL (Ht rfl) rfl)) (fZ rfl rfl (eY rfl rfl (Ht rfl) (fun h=>fX A_46 Z_46 (fW rfl h) (i:=0) rfl rfl)) (fZ rfl rfl (eY rfl rfl (Ht rfl) (fun h=>eW fL (Ht rfl) rfl)) (fZ rfl rfl (eY rfl rfl (Ht rfl) (fun h=>fX A_46 Z_46 (fW rfl h) (i:=1) rfl rfl)) (fZ rfl rfl (eY rfl rfl (Ht rfl) (fun h=>cZ Tryz.call237 (oG zo zo) ⟨(fW rfl h),(fW rfl h),trivial⟩)) (fZ rfl rfl (eY rfl rfl (Ht rfl) (fun h=>iH (fW rfl h) cV)) ?_))))))
 refine ro rfl (dP (Ht rfl) (fun h=>(fW rfl h))) (ra rfl (eJ (fK rfl (fJ (fQ rfl) ?_))))
 exact (bI (Tm x y))
theorem a1o {x:Qi} {L:Nat} [hx:aD x L] (h:L ≤ 17592186044415):aS Tryz.prog 274 [QT x] (QT x.imp):=by
 have hxa:=iE hx.fit; have hxb:=iL hx.fit; have hxd:=iF hx.fit
 have hxp:=x.den_pos
 have h5:(dg (0:Int).natAbs).length ≤ 0:=by rw [show (0:Int).natAbs = 0 from rfl,dI]; exact Nat.le_refl _
 refine aS.intro Tryz.func274 rfl Tryz.ntmps274 rfl (fun cx=>(ts (rn rfl (fU (Ht rfl)) fun B1=>(rn rfl (eK (Ts:=[Is (.bool false),Is (.slice none 0 0),Is (.bool false),Is (.slice none 0 0),Is (.slice none 0 0)]) O_131 rfl (fun V=>aW zd (aW zd (aW zd (aW zd (aW zd (aG))))))) fun B2=>(eJ (ts (ro rfl (eW gD (Ht rfl) rfl) (ro rfl (eG A_129 Z_129 (Ht rfl) (i:=0) rfl rfl rfl) (ro rfl (aI.imp (De ) sJ) ?_)))))))))
 refine ro rfl (eW fL (Ht rfl) rfl) (ro rfl (fX A_46 Z_46 (Ht rfl) (i:=0) rfl rfl) (ro rfl (cZ Tryz.call224 (sO (by first | assumption | omega) zo zo zo) ⟨(Ht rfl),(Ht rfl),(Ht rfl),trivial⟩) (gZ Z_131 (Ht rfl) (Ht rfl) rfl (i:=1) rfl (aK rfl) rfl rfl (eJ (fK rfl (fJ (fY A_131 Z_131 rfl (i:=1) rfl rfl) ?_))))))
 exact (zK (Qi.mk_im0 x))
theorem Vg {x:Qi} {L:Nat} [hx:aD x L] (h:L + L + 1 ≤ 17592186044415):aS Tryz.prog 223 [QT x] (QT x.norm):=by
 refine aS.intro Tryz.func223 rfl Tryz.ntmps223 rfl (fun cx=>(ts (rn rfl (fU (Ht rfl)) fun B1=>(rn rfl (eK (Ts:=[Is (.bool false),Is (.slice none 0 0),Is (.bool false),Is (.slice none 0 0),Is (.slice none 0 0)]) O_131 rfl (fun V=>aW zd (aW zd (aW zd (aW zd (aW zd (aG))))))) fun B2=>(eJ (cK (fV (m:=3) (dp 1 rfl (eG A_131 Z_131 (Ht rfl) (i:=0) rfl rfl rfl) (dp 1 rfl (eG A_131 Z_131 (Ht rfl) (i:=0) rfl rfl rfl) ?_)))))))))
 refine dq 4 1 rfl (cZ Tryz.call173 vZ ⟨(Ht rfl),trivial⟩) (fG aM rfl (by kernel_rfl) (aJ (aJ (aJ (aV (ro rfl (cZ K_146 (tX zo) ⟨(Ht rfl),(Ht rfl),trivial⟩) (gZ Z_131 (Ht rfl) (Ht rfl) rfl (i:=1) rfl (aK rfl) rfl rfl (eJ (fK rfl (fJ (fY A_131 Z_131 rfl (i:=1) rfl rfl) ?_))))))))))
 exact (zK (Qi.mul_conj x))
theorem wA {x:Qi}:aS Tryz.prog 239 [QT x] (bC .i64 (gL x.a 0)):=by
 refine aS.intro Tryz.func239 rfl Tryz.ntmps239 rfl (fun cx=>(ts (rn rfl (fU (Ht rfl)) fun B1=>(ro rfl (cQ (cJ 0)) (eJ (cK (ts (ro rfl (eW fI (Ht rfl) rfl) (ro rfl (eW gC (Ht rfl) rfl) (ro rfl (fX A_4 Z_4 (Ht rfl) (i:=0) rfl rfl) (eJ (dQ (Ht rfl) (fun hb=>?_) (fun hb=>?_)))))))))))))
 ·simp only [decide_eq_true_eq] at hb
  refine ts (ro rfl (cQ cV) (eJ (fK rfl (fJ (fQ rfl) ?_))))
  exact (bB (by rw [gL,if_pos hb]))
 ·simp only [decide_eq_false_iff_not] at hb
  refine cU (cK (ts (ro rfl (eW fI (Ht rfl) rfl) (ro rfl (eW dB (Ht rfl) rfl) (ro rfl (fX A_46 Z_46 (Ht rfl) (i:=0) rfl rfl) (ro rfl (dU U_46 (Ht rfl) aA) (ro rfl (dL (Ht rfl) (cJ 0)) (eJ (dQ (Ht rfl) (fun hc=>?_) (fun hc=>?_))))))))))
  ·simp only [decide_eq_true_eq] at hc
   have h0:x.a ≠ 0:=fun e=>by rw [e] at hc; simp [dI] at hc
   refine ts (ro rfl (cQ (cJ 1)) (eJ (fK rfl (fJ (fQ rfl) ?_))))
   exact (bB (by rw [gL,if_neg hb,if_pos zo]; rfl))
  ·simp only [decide_eq_false_iff_not] at hc
   have h0:x.a = 0:=by have:=aH.1 (Nat.eq_zero_of_not_pos hc); omega
   refine cU (ts (ro rfl (cQ (cJ 0)) (eJ (fK rfl (fJ (fQ rfl) ?_)))))
   exact (bB (by rw [gL,if_neg hb,if_neg zo]; rfl))
theorem Kg {x:Qi} {L:Nat} [hx:aD x L] (h:L ≤ 17592186044415):aS Tryz.prog 242 [QT x] (bC .i64 (gL x.b 0)):=by
 refine aS.intro Tryz.func242 rfl Tryz.ntmps242 rfl (fun cx=>(ts (rn rfl (fU (Ht rfl)) fun B1=>(ro rfl (cQ (cJ 0)) (eJ (ts (ro rfl (eG A_131 Z_131 (Ht rfl) (i:=0) rfl rfl rfl) (ro rfl (cZ Tryz.call274 (a1o zo) ⟨(Ht rfl),trivial⟩) (ro rfl (cZ Tryz.call239 wA ⟨(Ht rfl),trivial⟩) (ra rfl (eJ (fK rfl (fJ (fQ rfl) ?_)))))))))))))
 exact (bB (Yh x))
theorem Ke {x y:Qi} {L M:Nat} [hx:aD x L] [hy:aD y M] (h:L + 3 * M + 2 ≤ 17592186044415):aS Tryz.prog 144 [QT x,QT y] (gE [QT (x / y),bC .i64 (if y = Qi.zero then 3 else 0)]):=by
 have hxa:=iE hx.fit; have hxb:=iL hx.fit; have hxd:=iF hx.fit
 have hya:=iE hy.fit; have hyb:=iL hy.fit; have hyd:=iF hy.fit
 have hxp:=x.den_pos; have hyp:=y.den_pos; have hdp:=Nat.mul_pos hxp hyp
 refine aS.intro Tryz.func144 rfl Tryz.ntmps144 rfl (fun cx=>(ts (rn rfl (fU (Ht rfl)) fun B2=>(rn rfl (fU (Ht rfl)) fun B3=>(rn rfl (eK (Ts:=[Is (.bool false),Is (.slice none 0 0),Is (.bool false),Is (.slice none 0 0),Is (.slice none 0 0)]) O_131 rfl (fun V=>aW zd (aW zd (aW zd (aW zd (aW zd (aG))))))) fun B4=>(ro rfl (cQ (cJ 0)) (eJ (cK (ts (ro rfl (eG A_131 Z_131 (Ht rfl) (i:=1) rfl rfl rfl) ?_))))))))))
 refine ro rfl (cZ Tryz.call166 Bm ⟨(Ht rfl),trivial⟩) (eJ (dQ (Ht rfl) (fun hb=>?_) (fun hb=>?_)))
 ·simp only [decide_eq_true_eq] at hb
  refine ts (ro rfl (cZ K_148 (nA (by decide) (by decide)) ⟨(cJ 0),trivial⟩) (gZ Z_131 (Ht rfl) (Ht rfl) rfl (i:=2) rfl (aK rfl) rfl rfl (ro rfl (cQ (cJ 3)) (eJ (bN rfl (fJ (fY A_131 Z_131 rfl (i:=2) rfl rfl) ?_) (fJ (fQ rfl) ?_))))))
  ·exact (zK (by rw [hb,Qi.div_zero]; rfl))
  ·exact (bB (by rw [if_pos hb]; rfl))
 ·simp only [decide_eq_false_iff_not] at hb
  obtain ⟨n,hn⟩:∃ n,n = y.norm:=⟨_,rfl⟩
  obtain ⟨z,hz⟩:∃ z,z = x * y.conj:=⟨_,rfl⟩
  haveI fn:aD n (M + M + 1):=hn ▸ fitNorm
  haveI fz:aD z (L + M + 1):=hz ▸ fitMul
  have hna:=iE fn.fit; have hnd:=iF fn.fit; have hza:=iE fz.fit; have hzb:=iL fz.fit; have hzd:=iF fz.fit
  have hnp:0 < n.a:=hn ▸ Qi.norm_pos hb
  have hm:((n.a.natAbs:Nat):Int) = n.a:=Int.natAbs_of_nonneg zo
  have hdp2:=Nat.mul_pos z.den_pos (show 0 < n.a.natAbs by omega)
  have n1:(dg ((n.den:Nat):Int).natAbs).length ≤ M + M + 1:=by rw [Int.natAbs_natCast]; exact hnd
  have e1:=dC z.a n.den; have e2:=dC z.b n.den; have e3:=oW z.den n.a.natAbs
  refine cU (ts (ro rfl (eG A_131 Z_131 (Ht rfl) (i:=1) rfl rfl rfl) (ro rfl (aI.imp (cZ Tryz.call223 (Vg zo) ⟨(Ht rfl),trivial⟩) (zK hn.symm)) (rn rfl (eK (Ts:=[Is (.bool false),Is (.slice none 0 0),Is (.bool false),Is (.slice none 0 0),Is (.slice none 0 0)]) O_131 rfl (fun V=>aW zd (aW zd (aW zd (aW zd (aW zd (aG))))))) fun B6=>(gZ Z_131 (Ht rfl) (Ht rfl) rfl (i:=3) rfl (aK rfl) rfl rfl ?_)))))
  refine eJ (cK (fV (m:=5) (dp 2 rfl (eG A_131 Z_131 (Ht rfl) (i:=0) rfl rfl rfl) (dp 3 rfl (eG A_131 Z_131 (Ht rfl) (i:=1) rfl rfl rfl) (dq 15 1 rfl (cZ Tryz.call173 vZ ⟨(Ht rfl),trivial⟩) (cH 14 0 16 2 rfl (aI.imp (cZ K_146 (tX zo) ⟨(Ht rfl),(Ht rfl),trivial⟩) (zK hz.symm)) (C.D_new (Ei:=[]) rfl rfl rfl bW (eK (Ts:=[Is (.bool false),Is (.slice none 0 0),Is (.bool false),Is (.slice none 0 0),Is (.slice none 0 0)]) O_131 rfl (fun V=>aW zd (aW zd (aW zd (aW zd (aW zd (aG))))))) ?_)))))))
  refine fG aM rfl (by kernel_rfl) (zF (C.F_new (fun B7=>aV (gZ Z_131 (Ht rfl) (Ht rfl) rfl (i:=4) rfl (aK rfl) rfl rfl (eJ (ts (ro rfl (eW fL (Ht rfl) rfl) (ro rfl (fX A_46 Z_46 (Ht rfl) (i:=3) rfl rfl) (ro rfl (aI.imp (kX cV (Ht rfl)) uG) (rn rfl (eK (Ts:=[Is (.bool false),Is (.slice none 0 0)]) O_129 rfl (fun V=>aW zd (aW zd (aG)))) fun B8=>(gZ Z_129 (Ht rfl) (Ht rfl) rfl (i:=5) rfl (aK rfl) rfl rfl ?_)))))))))))
  refine eJ (cK (fV (m:=13) (dp 7 rfl (eW fI (Ht rfl) rfl) (dq 21 0 rfl (eG A_129 Z_129 (Ht rfl) (i:=4) rfl rfl rfl) (dp 8 rfl (eG A_129 Z_129 (Ht rfl) (i:=5) rfl rfl rfl) (cH 22 1 23 2 rfl (cZ K_225 (jH zo zo) ⟨(Ht rfl),(Ht rfl),trivial⟩) (dp 7 rfl (eW gD (Ht rfl) rfl) (dq 25 4 rfl (eG A_129 Z_129 (Ht rfl) (i:=4) rfl rfl rfl) (dp 8 rfl (eG A_129 Z_129 (Ht rfl) (i:=5) rfl rfl rfl) (cH 26 5 27 6 rfl (cZ K_225 (jH zo zo) ⟨(Ht rfl),(Ht rfl),trivial⟩) ?_))))))))))
  refine dp 7 rfl (eW fL (Ht rfl) rfl) (dq 29 8 rfl (fX A_46 Z_46 (Ht rfl) (i:=4) rfl rfl) (dp 6 rfl (eW fI (Ht rfl) rfl) (dq 31 10 rfl (eW dB (Ht rfl) rfl) (dq 32 11 rfl (fX A_46 Z_46 (Ht rfl) (i:=3) rfl rfl) (fG aM rfl (by kernel_rfl) (zF (zF (zF (aJ (aV (ro rfl (cZ Tryz.call226 (qT zo zo) ⟨(Ht rfl),(Ht rfl),trivial⟩) (ro rfl (cZ Tryz.call224 (sO (by first | assumption | omega) zo zo zo) ⟨(Ht rfl),(Ht rfl),(Ht rfl),trivial⟩) ?_))))))))))))
  refine gZ Z_131 (Ht rfl) (Ht rfl) rfl (i:=2) rfl (aK rfl) rfl rfl (ro rfl (cQ (cJ 0)) (eJ (bN rfl (fJ (fY A_131 Z_131 rfl (i:=2) rfl rfl) ?_) (fJ (fQ rfl) ?_))))
  ·exact (zK (Qi.mk_divR x hb hz hn hm))
  ·exact (bB (by rw [if_neg hb]; rfl))
theorem Jw {x y:Qi} {L M:Nat} [hx:aD x L] [hy:aD y M] (h:L + 3 * M + 2 ≤ 17592186044415):aS Tryz.prog 40 [aP x,aP y] (gE [aP (x / y),bC .i64 (if y = Qi.zero then 3 else 0)]):=by
 have hxa:=iE hx.fit; have hxb:=iL hx.fit; have hxd:=iF hx.fit
 have hya:=iE hy.fit; have hyb:=iL hy.fit; have hyd:=iF hy.fit
 have hxp:=x.den_pos; have hyp:=y.den_pos; have hMp:=hy.pos
 refine aS.intro Tryz.func40 rfl Tryz.ntmps40 rfl (fun cx=>(ts (rn rfl (fU (Ht rfl)) fun B2=>(rn rfl (fU (Ht rfl)) fun B3=>(rn rfl (eK (Ts:=[Is (.bool false),Is (.slice none 0 0),Is (.bool false),Is (.slice none 0 0),Is (.slice none 0 0)]) O_51 rfl (fun V=>aW zd (aW zd (aW zd (aW zd (aW zd (aG))))))) fun B4=>(ro rfl (cQ (cJ 0)) (eJ (cK (ts (ro rfl (eG A_51 Z_51 (Ht rfl) (i:=1) rfl rfl rfl) ?_))))))))))
 refine ro rfl (cZ K_27 (qR zo) ⟨(Ht rfl),trivial⟩) (ro rfl (dR (Ht rfl)) (eJ (dQ (Ht rfl) (fun hb=>?_) (fun hb=>?_))))
 ·have h0 : y = Qi.zero := by simpa using hb
  refine ts (ro rfl (aI.imp (nM ) iQ) (gZ Z_51 (Ht rfl) (Ht rfl) rfl (i:=2) rfl (aK rfl) rfl rfl (ro rfl (cQ (cJ 3)) (eJ (bN rfl (fJ (fY A_51 Z_51 rfl (i:=2) rfl rfl) ?_) (fJ (fQ rfl) ?_))))))
  ·exact (kU (by rw [h0,Qi.div_zero]))
  ·exact (bB (by rw [if_pos h0]; rfl))
 ·have h0 : y ≠ Qi.zero := by simpa using hb
  have g1:=iK y.a y.a; have g2:=iK y.b y.b; have g3:=oX y.b
  have g4:=jA (x:=y.a * y.a) (y:=y.b * y.b) (L:=M + M) zo zo
  obtain ⟨c,hc⟩:∃ c,c = Qi.mk' y.a (-y.b) 1:=⟨_,rfl⟩
  obtain ⟨z,hz⟩:∃ z,z = x * c:=⟨_,rfl⟩
  have l1:(dg 1).length ≤ 1:=by rw [Re (by decide) (by decide)]; exact Nat.le_refl _
  haveI fc:aD c M:=hc ▸ ⟨Qi.Fit.mk (by decide) hy.fit.1 (by rw [Int.natAbs_neg]; exact hy.fit.2.1) (Qi.one_lt hMp)⟩
  haveI fz:aD z (L + M + 1):=hz ▸ fitMul
  have hza:=iE fz.fit; have hzb:=iL fz.fit; have hzd:=iF fz.fit
  have hnp:=Qi.nrm_int_pos h0
  have hm:(((y.a * y.a + y.b * y.b).natAbs:Nat):Int) = y.a * y.a + y.b * y.b:=Int.natAbs_of_nonneg zo
  have hdp2:=Nat.mul_pos z.den_pos (show 0 < (y.a * y.a + y.b * y.b).natAbs by omega)
  have e1:=dC z.a y.den; have e2:=dC z.b y.den; have e3:=oW z.den (y.a * y.a + y.b * y.b).natAbs
  refine cU (cK (fV (m:=12) (dp 3 rfl (eW fD (Ht rfl) rfl) (dq 12 0 rfl (eG A_49 Z_49 (Ht rfl) (i:=1) rfl rfl rfl) (dp 3 rfl (eW fD (Ht rfl) rfl) (dq 14 2 rfl (eG A_49 Z_49 (Ht rfl) (i:=1) rfl rfl rfl) (cH 13 1 15 3 rfl (cZ K_132 (nP zo zo) ⟨(Ht rfl),(Ht rfl),trivial⟩) (dp 3 rfl (eW gA (Ht rfl) rfl) (dq 17 5 rfl (eG A_49 Z_49 (Ht rfl) (i:=1) rfl rfl rfl) (dp 3 rfl (eW gA (Ht rfl) rfl) (dq 19 7 rfl (eG A_49 Z_49 (Ht rfl) (i:=1) rfl rfl rfl) ?_)))))))))))
  refine cH 18 6 20 8 rfl (cZ K_132 (nP zo zo) ⟨(Ht rfl),(Ht rfl),trivial⟩) (cH 16 4 21 9 rfl (cZ K_133 (rY zo zo) ⟨(Ht rfl),(Ht rfl),trivial⟩) (C.D_new (Ei:=[]) rfl rfl rfl bW (eK (Ts:=[Is (.bool false),Is (.slice none 0 0)]) O_49 rfl (fun V=>aW zd (aW zd (aG)))) (fG aM rfl (by kernel_rfl) (zF (zF (aJ (aJ (aJ (C.F_new (fun B6=>aV (gZ Z_49 (Ht rfl) (Ht rfl) rfl (i:=3) rfl (aK rfl) rfl rfl ?_)))))))))))
  refine eJ (cK (fV (m:=10) (dp 2 rfl (eG A_51 Z_51 (Ht rfl) (i:=0) rfl rfl rfl) (dp 3 rfl (eW fD (Ht rfl) rfl) (dq 24 1 rfl (eG A_49 Z_49 (Ht rfl) (i:=1) rfl rfl rfl) (dp 3 rfl (eW gA (Ht rfl) rfl) (dq 26 3 rfl (eG A_49 Z_49 (Ht rfl) (i:=1) rfl rfl rfl) (dq 27 4 rfl (cZ K_135 nO ⟨(Ht rfl),trivial⟩) (d0 rfl (aI.imp (dA (xs:=[_]) U_47 Z_189 O_189 (cW (cJ 1) cG) rfl rfl rfl) yH) (C.D_step (Ei:=[(25,_),(28,_),(29,_)]) rfl rfl (bV (bG 2 rfl rfl) (bV (bG 5 rfl rfl) (bV (bG 6 rfl rfl) bW))) (dX rfl (aI.imp (cZ K_134 (rX (by first | assumption | omega) zo zo zo) ⟨(Ht rfl),(Ht rfl),(Ht rfl),trivial⟩) (kU hc.symm))) ?_))))))))))
  refine cH 23 0 30 7 rfl (aI.imp (cZ K_45 (mF zo) ⟨(Ht rfl),(Ht rfl),trivial⟩) (kU hz.symm)) (C.D_new (Ei:=[]) rfl rfl rfl bW (eK (Ts:=[Is (.bool false),Is (.slice none 0 0),Is (.bool false),Is (.slice none 0 0),Is (.slice none 0 0)]) O_51 rfl (fun V=>aW zd (aW zd (aW zd (aW zd (aW zd (aG))))))) (fG aM rfl (by kernel_rfl) (zF (zF (aJ (C.F_new (fun B7=>aV ?_)))))))
  refine gZ Z_51 (Ht rfl) (Ht rfl) rfl (i:=4) rfl (aK rfl) rfl rfl (eJ (cK (fV (m:=14) (dp 7 rfl (eW fD (Ht rfl) rfl) (dq 32 0 rfl (eG A_49 Z_49 (Ht rfl) (i:=4) rfl rfl rfl) (dp 3 rfl (eG A_51 Z_51 (Ht rfl) (i:=1) rfl rfl rfl) (dq 34 2 rfl (cZ K_137 mL ⟨(Ht rfl),trivial⟩) (cH 33 1 35 3 rfl (cZ K_136 (kK zo zo) ⟨(Ht rfl),(Ht rfl),trivial⟩) (dp 7 rfl (eW gA (Ht rfl) rfl) (dq 37 5 rfl (eG A_49 Z_49 (Ht rfl) (i:=4) rfl rfl rfl) ?_))))))))))
  refine dp 3 rfl (eG A_51 Z_51 (Ht rfl) (i:=1) rfl rfl rfl) (dq 39 7 rfl (cZ K_137 mL ⟨(Ht rfl),trivial⟩) (cH 38 6 40 8 rfl (cZ K_136 (kK zo zo) ⟨(Ht rfl),(Ht rfl),trivial⟩) (dp 7 rfl (eG A_51 Z_51 (Ht rfl) (i:=4) rfl rfl rfl) (dq 42 10 rfl (cZ K_137 mL ⟨(Ht rfl),trivial⟩) (dp 6 rfl (eW eN (Ht rfl) rfl) (dq 44 12 rfl (fX A_47 Z_47 (Ht rfl) (i:=3) rfl rfl) (fG aM rfl (by kernel_rfl) (zF (zF (zF (aJ (aJ (aV ?_)))))))))))))
  refine ro rfl (cZ K_138 (zT zo zo) ⟨(Ht rfl),(Ht rfl),trivial⟩) (ro rfl (cZ K_134 (rX (by first | assumption | omega) zo zo zo) ⟨(Ht rfl),(Ht rfl),(Ht rfl),trivial⟩) (gZ Z_51 (Ht rfl) (Ht rfl) rfl (i:=2) rfl (aK rfl) rfl rfl (ro rfl (cQ (cJ 0)) (eJ (bN rfl (fJ (fY A_51 Z_51 rfl (i:=2) rfl rfl) ?_) (fJ (fQ rfl) ?_))))))
  ·exact (kU (Qi.mk_divP x h0 (hc ▸ hz) hm))
  ·exact (bB (by rw [if_neg h0]; rfl))
theorem qU {a:Int} {d:Nat} (hd:0 < d) (ha:(dg a.natAbs).length ≤ 8796093022208) (hd2:(dg d).length ≤ 8796093022208):aS Tryz.prog 243 [dF a,aE d] (oE (qI a d)):=by
 have hg:=xT ha hd2
 have hg0:Nat.gcd a.natAbs d ≠ 0:=fun e=>by have:=Nat.gcd_eq_zero_iff.1 e; omega
 have h1:=Bu a.natAbs (Nat.gcd a.natAbs d); have h2:=Bu d (Nat.gcd a.natAbs d)
 rw [Xu a hd]
 obtain ⟨u,hu⟩:∃ u,u = a.natAbs / Nat.gcd a.natAbs d:=⟨_,rfl⟩
 obtain ⟨v,hv⟩:∃ v,v = d / Nat.gcd a.natAbs d:=⟨_,rfl⟩
 rw [← hu,← hv]
 rw [← hu] at h1
 rw [← hv] at h2
 have h3:=oU u; have h4:=oU v
 refine aS.intro Tryz.func243 rfl Tryz.ntmps243 rfl (fun cx=>(ts (rn rfl (fU (Ht rfl)) fun B2=>(ro rfl (cQ (bD.cS (l:=[]) rfl)) (eJ (ts (ro rfl (eW dB (Ht rfl) rfl) (ro rfl (fX A_46 Z_46 (Ht rfl) (i:=0) rfl rfl) (rm rfl (ro rfl (cZ Tryz.call264 (Hw zo zo) ⟨(Ht rfl),(Ht rfl),trivial⟩) (ra rfl (eJ (ts (ro rfl (eW dB (Ht rfl) rfl) (ro rfl (fX A_46 Z_46 (Ht rfl) (i:=0) rfl rfl) (rm rfl (ro rfl (cZ K_265 (tW zo zo zo) ⟨(Ht rfl),(Ht rfl),trivial⟩) ?_)))))))))))))))))
 refine rm rfl (ro rfl (aI.imp (dY (Ht rfl) rfl) (cF hu.symm)) (ro rfl (dY (Ht rfl) rfl) (ra rfl (ra rfl (eJ (ts (rm rfl (rm rfl (ro rfl (cZ K_265 (tW zo zo zo) ⟨(Ht rfl),(Ht rfl),trivial⟩) (rm rfl (ro rfl (aI.imp (dY (Ht rfl) rfl) (cF hv.symm)) (ro rfl (dY (Ht rfl) rfl) (ra rfl (ra rfl (eJ (ts (rm rfl (ro rfl (cZ Tryz.call275 (Kh zo) ⟨(Ht rfl),trivial⟩) (ra rfl (eJ (cK (iY (fun (uu:Unit)=>True) (fun (uu:Unit)=>[(8,aE v),(10,oE (if a < 0 then 45 :: rP u else rP u))]) (fun (uu:Unit)=>[box B2 129 [aC (decide (a < 0)),aE (a).natAbs]]) ?_ (fun uu _=>?_)))))))))))))))))))))))
 ·refine ts (ro rfl (eW gC (Ht rfl) rfl) (ro rfl (fX A_4 Z_4 (Ht rfl) (i := 0) rfl rfl) (eJ (dQ (Ht rfl) (fun hb => ?_) (fun hb => ?_)))))
  ·simp only [decide_eq_true_eq] at hb
   refine cY (rm rfl (ro rfl (jE (bD.cS (l:=[45]) rfl) (Ht rfl) (by first | omega | (simp; omega))) (ra rfl (eJ (aO () trivial (aQ rfl (aZ rfl (iU (by rw [if_pos hb]; rfl)) aX)) (cL.refl _))))))
  ·simp only [decide_eq_false_iff_not] at hb
   refine cU (aO () trivial (aQ rfl (aZ rfl (iU (by rw [if_neg hb])) aX)) (cL.refl _))
 ·have h6 : (if a < 0 then 45 :: rP u else rP u).length ≤ (rP u).length + 1 := by split <;> simp
  refine cK (ts (rm rfl (ro rfl (dU U_46 (Ht rfl) aA) (ro rfl (cT (Ht rfl) (cJ 1)) (rm rfl (fZ rfl rfl (eY rfl rfl (Ht rfl) (fun h=>cX (Ht rfl))) (fZ rfl rfl (eY rfl rfl (Ht rfl) (fun h=>dZ U_46 Z_189 (fW rfl h) (cJ 0) rfl (eX (aF (by first | omega | (simp at h; omega)))))) (fZ rfl rfl (eY rfl rfl (Ht rfl) (fun h=>dJ A_189 Z_189 (fW rfl h))) (fZ rfl rfl (eY rfl rfl (Ht rfl) (fun h=>cT (fW rfl h) (cJ 1))) (ro rfl (dP (Ht rfl) (fun h=>(fW rfl h))) ?_))))))))))
  refine eJ (dQ (Ht rfl) (fun hc=>?_) (fun hc=>?_))
  ·rw [Cg] at hc
   have hv1:v = 1:=by simpa using hc
   refine ts (rm rfl (ra rfl (eJ (fK rfl (fJ (fQ rfl) ?_)))))
   exact (iU (by rw [if_pos hv1,List.append_nil]))
  ·rw [Cg] at hc
   have hv1:v ≠ 1:=by simpa using hc
   refine cU (ts (rm rfl (ro rfl (jE (Ht rfl) (bD.cS (l:=[47]) rfl) (by simp only [List.length_cons,List.length_nil]; omega)) ?_)))
   refine rm rfl (ro rfl (cZ Tryz.call275 (Kh zo) ⟨(Ht rfl),trivial⟩) (ro rfl (jE (Ht rfl) (Ht rfl) (by simp only [List.length_append,List.length_cons,List.length_nil]; omega)) ?_))
   refine ra rfl (eJ (fK rfl (fJ (fQ rfl) ?_)))
   exact (iU (by rw [if_neg hv1,List.append_assoc]; rfl))
theorem a0u {x:Qi} {L:Nat} [hx:aD x L] (h:L ≤ 8796093022208):aS Tryz.prog 181 [QT x] (oE (Oi x)):=by
 have hxa:=iE hx.fit; have hxb:=iL hx.fit; have hxd:=iF hx.fit
 have hdp:=x.den_pos
 have l1:=tG x.a hdp; have l2:=tG x.b hdp
 refine aS.intro Tryz.func181 rfl Tryz.ntmps181 rfl (fun cx=>(ts (rn rfl (fU (Ht rfl)) fun B1=>(ro rfl (cQ (bD.cS (l:=[]) rfl)) (eJ (cK (ts (ro rfl (eW gD (Ht rfl) rfl) (ro rfl (eW dB (Ht rfl) rfl) (ro rfl (fX A_46 Z_46 (Ht rfl) (i:=0) rfl rfl) (ro rfl (dU U_46 (Ht rfl) aA) (ro rfl (cT (Ht rfl) (cJ 0)) (eJ (dQ (Ht rfl) (fun hb=>?_) (fun hb=>?_)))))))))))))))
 ·simp only [decide_eq_true_eq] at hb
  have h0:x.b = 0:=by have:=aH.1 hb; omega
  refine ts (ro rfl (eW fI (Ht rfl) rfl) (ro rfl (eG A_129 Z_129 (Ht rfl) (i:=0) rfl rfl rfl) (ro rfl (eW fL (Ht rfl) rfl) (ro rfl (fX A_46 Z_46 (Ht rfl) (i:=0) rfl rfl) (ro rfl (cZ K_243 (qU (by assumption) zo zo) ⟨(Ht rfl),(Ht rfl),trivial⟩) ?_)))))
  refine ra rfl (eJ (fK rfl (fJ (fQ rfl) ?_)))
  exact (iU (by rw [Oi,if_pos h0]))
 ·simp only [decide_eq_false_iff_not] at hb
  have h0:x.b ≠ 0:=fun e=>hb (by rw [e]; exact aH.2 rfl)
  refine cU (cK (ts (ro rfl (eW fI (Ht rfl) rfl) (ro rfl (eW dB (Ht rfl) rfl) (ro rfl (fX A_46 Z_46 (Ht rfl) (i:=0) rfl rfl) (ro rfl (dU U_46 (Ht rfl) aA) (ro rfl (cT (Ht rfl) (cJ 0)) (eJ (dQ (Ht rfl) (fun hc=>?_) (fun hc=>?_))))))))))
  ·simp only [decide_eq_true_eq] at hc
   have h1:x.a = 0:=by have:=aH.1 hc; omega
   refine ts (ro rfl (eW gD (Ht rfl) rfl) (ro rfl (eG A_129 Z_129 (Ht rfl) (i:=0) rfl rfl rfl) (ro rfl (eW fL (Ht rfl) rfl) (ro rfl (fX A_46 Z_46 (Ht rfl) (i:=0) rfl rfl) (ro rfl (cZ K_243 (qU (by assumption) zo zo) ⟨(Ht rfl),(Ht rfl),trivial⟩) ?_)))))
   refine ro rfl (jE (Ht rfl) (bD.cS (l:=[105]) rfl) (by first | omega | (simp only [List.length_append,List.length_cons,List.length_nil]; omega))) (ra rfl (eJ (fK rfl (fJ (fQ rfl) ?_))))
   exact (iU (by rw [Oi,if_neg h0,if_pos h1]))
  ·simp only [decide_eq_false_iff_not] at hc
   have h1:x.a ≠ 0:=fun e=>hc (by rw [e]; exact aH.2 rfl)
   refine cU (cK (ts (ro rfl (eW gD (Ht rfl) rfl) (ro rfl (eW gC (Ht rfl) rfl) (ro rfl (fX A_4 Z_4 (Ht rfl) (i:=0) rfl rfl) (eJ (dQ (Ht rfl) (fun hd=>?_) (fun hd=>?_))))))))
   ·simp only [decide_eq_true_eq] at hd
    refine cK (fV (m:=9) (dp 1 rfl (eW fI (Ht rfl) rfl) (dq 27 0 rfl (eG A_129 Z_129 (Ht rfl) (i:=0) rfl rfl rfl) (dp 1 rfl (eW fL (Ht rfl) rfl) (dq 29 2 rfl (fX A_46 Z_46 (Ht rfl) (i:=0) rfl rfl) (cH 28 1 30 3 rfl (cZ K_243 (qU (by assumption) zo zo) ⟨(Ht rfl),(Ht rfl),trivial⟩) ?_))))))
    refine dp 1 rfl (eW gD (Ht rfl) rfl) (dq 32 5 rfl (eG A_129 Z_129 (Ht rfl) (i:=0) rfl rfl rfl) (dp 1 rfl (eW fL (Ht rfl) rfl) (dq 34 7 rfl (fX A_46 Z_46 (Ht rfl) (i:=0) rfl rfl) (fG aM rfl (by kernel_rfl) (zF (zF (aJ (aV (ro rfl (cZ K_243 (qU (by assumption) zo zo) ⟨(Ht rfl),(Ht rfl),trivial⟩) ?_)))))))))
    refine ro rfl (jE (Ht rfl) (Ht rfl) (by first | omega | (simp only [List.length_append,List.length_cons,List.length_nil]; omega))) (ro rfl (jE (Ht rfl) (bD.cS (l:=[105]) rfl) (by first | omega | (simp only [List.length_append,List.length_cons,List.length_nil]; omega))) (ra rfl (eJ (fK rfl (fJ (fQ rfl) ?_)))))
    exact (iU (by rw [Oi,if_neg h0,if_neg h1,if_pos hd,List.append_assoc]))
   ·simp only [decide_eq_false_iff_not] at hd
    refine cU (cK (fV (m:=11) (dp 1 rfl (eW fI (Ht rfl) rfl) (dq 39 0 rfl (eG A_129 Z_129 (Ht rfl) (i:=0) rfl rfl rfl) (dp 1 rfl (eW fL (Ht rfl) rfl) (dq 41 2 rfl (fX A_46 Z_46 (Ht rfl) (i:=0) rfl rfl) (cH 40 1 42 3 rfl (cZ K_243 (qU (by assumption) zo zo) ⟨(Ht rfl),(Ht rfl),trivial⟩) ?_)))))))
    refine dq 43 4 rfl (jE (Ht rfl) (bD.cS (l:=[43]) rfl) (by first | omega | (simp only [List.length_append,List.length_cons,List.length_nil]; omega))) (dp 1 rfl (eW gD (Ht rfl) rfl) (dq 45 6 rfl (eG A_129 Z_129 (Ht rfl) (i:=0) rfl rfl rfl) (dp 1 rfl (eW fL (Ht rfl) rfl) (dq 47 8 rfl (fX A_46 Z_46 (Ht rfl) (i:=0) rfl rfl) (cH 46 7 48 9 rfl (cZ K_243 (qU (by assumption) zo zo) ⟨(Ht rfl),(Ht rfl),trivial⟩) ?_)))))
    refine fG aM rfl (by kernel_rfl) (zF (zF (aJ (aJ (aJ (aV (ro rfl (jE (Ht rfl) (Ht rfl) (by first | omega | (simp only [List.length_append,List.length_cons,List.length_nil]; omega))) (ro rfl (jE (Ht rfl) (bD.cS (l:=[105]) rfl) (by first | omega | (simp only [List.length_append,List.length_cons,List.length_nil]; omega))) (ra rfl (eJ (fK rfl (fJ (fQ rfl) ?_))))))))))))
    exact (iU (by rw [Oi,if_neg h0,if_neg h1,if_neg hd,List.append_assoc,List.append_assoc]; rfl))
theorem Vc {x y:Qi} {L M:Nat} [hx:aD x L] [hy:aD y M] (h:L ≤ 8796093022208) (h2:M ≤ 8796093022208):aS Tryz.prog 80 [aP x,QT y] (aC (decide (Oi x = Oi y))):=by
 refine aS.intro Tryz.func80 rfl Tryz.ntmps80 rfl (fun cx=>(ts (rn rfl (fU (Ht rfl)) fun B2=>(rn rfl (fU (Ht rfl)) fun B3=>(ro rfl (cQ cV) (eJ (cK (fV (m:=3) (dp 2 rfl (eG A_51 Z_51 (Ht rfl) (i:=0) rfl rfl rfl) (dq 5 0 rfl (cZ Tryz.call89 (Hm zo) ⟨(Ht rfl),trivial⟩) (dp 3 rfl (eG A_131 Z_131 (Ht rfl) (i:=1) rfl rfl rfl) (fG aM rfl (by kernel_rfl) (aJ (aJ (aJ (aV (ro rfl (cZ Tryz.call181 (a0u zo) ⟨(Ht rfl),trivial⟩) (ro rfl (Ip (Ht rfl) (Ht rfl)) ?_))))))))))))))))))
 refine ra rfl (eJ ?_)
 exact fK rfl (fQ rfl)
end
section
open Go Go.RowKit
theorem lX:Tryz.prog.info? 29 = some Tryz.t29:=by kernel_rfl
end
section
open Go Go.RowKit
theorem Hj {γ:Type} {l:List γ} {T:γ → Ty} {p:γ → Bool} [sh:∀ x,dE (T x) 5 true] (hl:l.length ≤ 1000000):aS Tryz.prog 233 [kW 5 (l.map T),Je Tryz.prog γ (fun x=>[T x]) (fun x=>aC (p x))] (bC .i64 (Ez p l)):=by
 refine aS.intro Tryz.func233 rfl Tryz.ntmps233 rfl (fun cx=>(ts (ro rfl (cQ (cJ 0)) (eJ (cK (ts (rm rfl (ro rfl (dU U_29 (Ht rfl) aA) (ro rfl (cX (cJ 0)) (eJ (eU ?_)))))))))))
 refine bF (fun (k : Nat) => k ≤ l.length ∧ ∀ (i : Nat) (x : γ), i < k → l[i]? = some x → p x = false) (fun (k : Nat) => l.length - k) (fun (k : Nat) => [(0, kW 5 (l.map T)), (1, Je Tryz.prog γ (fun x => [T x]) (fun x => aC (p x))), (7, NT .i64 l.length), (8, NT .i64 k)]) (fun (k : Nat) => []) 0 ⟨Nat.zero_le _, fun i x h => by omega⟩
  (zS rfl) aY (fun k ⟨hk,hn⟩=>?_)
 refine ts (ro rfl (gJ (Ht rfl) (Ht rfl)) (eJ (cK (dQ (Ht rfl) (fun hb=>?_) (fun hb=>?_)))))
 ·simp only [decide_eq_true_eq] at hb
  refine cU (cK (eU (ts (rm rfl (ra rfl (eJ (ts (rm rfl (rm rfl (rm rfl (ro rfl (dZ U_29 Z_51 (Ht rfl) (Ht rfl) rfl (eX (mO hb))) (ro rfl (dJ A_51 Z_51 (Ht rfl)) (ro rfl (yI (l[k]) (Ht rfl) ⟨(Ht rfl),trivial⟩) (eJ (dQ (Ht rfl) (fun hc=>?_) (fun hc=>?_))))))))))))))))
  ·have hp : p l[k] = true := hc
   refine ts (rm rfl (ra rfl (eJ (fK rfl (fJ (fQ rfl) ?_)))))
   exact (bB (Lb (mO hb) hp hn).symm)
  ·have hp : p l[k] = false := hc
   refine cU (aR (cY (ro rfl (dW (Ht rfl) (cJ 1) z6) (rm rfl (eJ ?_)))))
   refine gQ (k + 1) ⟨hb, fun i x h1 h2 => by
    by_cases e:i = k
    ·subst e; rw [mO hb] at h2; obtain rfl:=Option.some.inj h2; exact hp
    ·exact hn i x zo h2⟩ zo (zS rfl) aY
 ·simp only [decide_eq_false_iff_not] at hb
  refine gG rfl (ts (ro rfl (cQ cV) (eJ (fK rfl (fJ (fQ rfl) ?_)))))
  exact (bB (Ai (fun i x h=>hn i x (by have:=(List.getElem?_eq_some_iff.1 h).1; omega) h)).symm)
theorem zG {γ:Type} {l:List γ} {T:γ → Ty} {p:γ → Bool} [sh:∀ x,dE (T x) 5 true] (hl:l.length ≤ 1000000):aS Tryz.prog 162 [kW 5 (l.map T),Je Tryz.prog γ (fun x=>[T x]) (fun x=>aC (p x))] (aC (l.any p)):=by
 refine aS.intro Tryz.func162 rfl Tryz.ntmps162 rfl (fun cx=>(ts (ro rfl (cQ cV) (eJ (ts (rm rfl (rm rfl (ro rfl (cZ Tryz.call233 (Hj zo) ⟨(Ht rfl),(Ht rfl),trivial⟩) (ro rfl (kV (Ht rfl) cV) (ra rfl (eJ (fK rfl (fJ (fQ rfl) ?_)))))))))))))
 exact (bI (Fa p l))
theorem Hk {γ:Type} {l:List γ} {T:γ → Ty} {p:γ → Bool} [sh:∀ x,dE (T x) 1 false] (hl:l.length ≤ 1000000):aS Tryz.prog 231 [kW 1 (l.map T),Je Tryz.prog γ (fun x=>[T x]) (fun x=>aC (p x))] (bC .i64 (Ez p l)):=by
 refine aS.intro Tryz.func231 rfl Tryz.ntmps231 rfl (fun cx=>(ts (ro rfl (cQ (cJ 0)) (eJ (cK (ts (rm rfl (ro rfl (dU U_30 (Ht rfl) aA) (ro rfl (cX (cJ 0)) (eJ (eU ?_)))))))))))
 refine bF (fun (k : Nat) => k ≤ l.length ∧ ∀ (i : Nat) (x : γ), i < k → l[i]? = some x → p x = false) (fun (k : Nat) => l.length - k) (fun (k : Nat) => [(0, kW 1 (l.map T)), (1, Je Tryz.prog γ (fun x => [T x]) (fun x => aC (p x))), (7, NT .i64 l.length), (8, NT .i64 k)]) (fun (k : Nat) => []) 0 ⟨Nat.zero_le _, fun i x h => by omega⟩
  (zS rfl) aY (fun k ⟨hk,hn⟩=>?_)
 refine ts (ro rfl (gJ (Ht rfl) (Ht rfl)) (eJ (cK (dQ (Ht rfl) (fun hb=>?_) (fun hb=>?_)))))
 ·simp only [decide_eq_true_eq] at hb
  refine cU (cK (eU (ts (rm rfl (ra rfl (eJ (ts (rm rfl (rm rfl (rm rfl (ro rfl (dZ U_30 Z_29 (Ht rfl) (Ht rfl) rfl (eX (mO hb))) (ro rfl (dJ A_29 Z_29 (Ht rfl)) (ro rfl (yI (l[k]) (Ht rfl) ⟨(Ht rfl),trivial⟩) (eJ (dQ (Ht rfl) (fun hc=>?_) (fun hc=>?_))))))))))))))))
  ·have hp : p l[k] = true := hc
   refine ts (rm rfl (ra rfl (eJ (fK rfl (fJ (fQ rfl) ?_)))))
   exact (bB (Lb (mO hb) hp hn).symm)
  ·have hp : p l[k] = false := hc
   refine cU (aR (cY (ro rfl (dW (Ht rfl) (cJ 1) z6) (rm rfl (eJ ?_)))))
   refine gQ (k + 1) ⟨hb, fun i x h1 h2 => by
    by_cases e:i = k
    ·subst e; rw [mO hb] at h2; obtain rfl:=Option.some.inj h2; exact hp
    ·exact hn i x zo h2⟩ zo (zS rfl) aY
 ·simp only [decide_eq_false_iff_not] at hb
  refine gG rfl (ts (ro rfl (cQ cV) (eJ (fK rfl (fJ (fQ rfl) ?_)))))
  exact (bB (Ai (fun i x h=>hn i x (by have:=(List.getElem?_eq_some_iff.1 h).1; omega) h)).symm)
theorem rO {γ:Type} {l:List γ} {T:γ → Ty} {p:γ → Bool} [sh:∀ x,dE (T x) 1 false] (hl:l.length ≤ 1000000):aS Tryz.prog 156 [kW 1 (l.map T),Je Tryz.prog γ (fun x=>[T x]) (fun x=>aC (p x))] (aC (l.any p)):=by
 refine aS.intro Tryz.func156 rfl Tryz.ntmps156 rfl (fun cx=>(ts (ro rfl (cQ cV) (eJ (ts (rm rfl (rm rfl (ro rfl (cZ Tryz.call231 (Hk zo) ⟨(Ht rfl),(Ht rfl),trivial⟩) (ro rfl (kV (Ht rfl) cV) (ra rfl (eJ (fK rfl (fJ (fQ rfl) ?_)))))))))))))
 exact (bI (Fa p l))
theorem Hu {x:Qi} {L:Nat} [hx:aD x L] (h:L ≤ 8796093022208):aS Tryz.prog 247 [aP x] (aC (lJ x)):=by
 haveI hz:aD Qi.zero 1:=aD.zero (Nat.le_refl 1)
 refine aS.intro Tryz.func247 rfl Tryz.ntmps247 rfl (fun cx=>(ts (rn rfl (fU (Ht rfl)) fun B1=>(ro rfl (cQ cV) (eJ (ts (ro rfl (eG A_51 Z_51 (Ht rfl) (i:=0) rfl rfl rfl) (ro rfl (cZ Tryz.call169 Bi ⟨(Ht rfl),trivial⟩) (rm rfl (fZ rfl rfl (eY rfl rfl (Ht rfl) (fun h=>eG A_51 Z_51 (Ht rfl) (i:=0) rfl rfl rfl)) (fZ rfl rfl (eY rfl rfl (Ht rfl) (fun h=>aI.imp (nM ) iQ)) (fZ rfl rfl (eY rfl rfl (Ht rfl) (fun h=>cZ K_76 (zR zo) ⟨(fW rfl h),(fW rfl h),trivial⟩)) ?_))))))))))))
 refine fZ rfl rfl (eY rfl rfl (Ht rfl) (fun h=>yJ (fW rfl h) cV)) (ro rfl (dP (Ht rfl) (fun h=>(fW rfl h))) (ra rfl (eJ (fK rfl (fJ (fQ rfl) ?_)))))
 exact (bI (Td x))
theorem Bl {x:Qi} {L:Nat} [hx:aD x L] (h:L ≤ 8796093022208):aS Tryz.prog 246 [aP x] (aC (!lJ x)):=by
 refine aS.intro Tryz.func246 rfl Tryz.ntmps246 rfl (fun cx=>(ts (rn rfl (fU (Ht rfl)) fun B1=>(ro rfl (cQ cV) (eJ (ts (ro rfl (eG A_51 Z_51 (Ht rfl) (i:=0) rfl rfl rfl) (ro rfl (cZ Tryz.call247 (Hu zo) ⟨(Ht rfl),trivial⟩) (ro rfl (dR (Ht rfl)) (ra rfl (eJ ?_)))))))))))
 exact fK rfl (fQ rfl)
theorem Dk {z:List Qi} {L:Nat} (hz:dN z L) (h:L ≤ 8796093022208) (hl:z.length ≤ 1000):aS Tryz.prog 183 [cB z] (bC .i64 (if z.all lJ then 0 else 1)):=by
 obtain ⟨l,hzl⟩:∃ l:List {x:Qi // aD x L},z = l.map Subtype.val:=⟨z.attach.map fun x=>⟨x.1,hz x.1 x.2⟩,by simp⟩
 subst hzl
 have hll:l.length ≤ 1000:=by simpa using hl
 refine aS.intro Tryz.func183 rfl Tryz.ntmps183 rfl (fun cx=>(pP (E':=[(0,_)]) (aZ rfl (oC (Us:=l.map fun x=>aP x.1) (by simp [List.map_map,Function.comp_def])) aX) ?_))
 refine ts (ro rfl (cQ (cJ 0)) (eJ (cK (ts (rm rfl (ro rfl (cZ Tryz.call162 (zG (l:=l) (T:=fun x=>aP x.1) (p:=fun x=>!lJ x.1) zo) ⟨(Ht rfl),(bD.fn Tryz.call246 (γ:={x:Qi // aD x L}) (Ts:=fun x=>[aP x.1]) (U:=fun x=>aC (!lJ x.1)) (fun x=>haveI:=x.2; Bl h)),trivial⟩) (eJ (dQ (Ht rfl) (fun hb=>?_) (fun hb=>?_)))))))))
 ·have hn : ¬ (l.map Subtype.val).all lJ = true := by simp at hb ⊢; exact hb
  refine ts (ro rfl (cQ (cJ 1)) (eJ (fK rfl (fJ (fQ rfl) ?_))))
  exact (bB (by rw [if_neg hn]; rfl))
 ·have hn : (l.map Subtype.val).all lJ = true := by simp at hb ⊢; exact hb
  refine cU (ts (ro rfl (cQ (cJ 0)) (eJ (fK rfl (fJ (fQ rfl) ?_)))))
  exact (bB (by rw [if_pos hn]; rfl))
theorem Dg {l:List Qi} (hl:l.length ≤ 1000):fT Tryz.prog 158 [cB l] [] (Value) (fun v=>Is v) (fun v=>[bO 51 5 v (l.map aP)]) (fun _=>True):=by
 refine fT.intro Tryz.func158 rfl Tryz.ntmps158 rfl (fun cx Z=>(ts (ro rfl (cQ cV) (eJ (cK (ts (rm rfl (ro rfl (Su U_29 (Ht rfl)) (eJ (Uu (Ht rfl) (fun hb=>?_) (fun hb=>?_)))))))))))
 ·have hT : l.map aP = [] := hb rfl
  refine ts (ro rfl (cQ cV) (eJ (xG 51 5 ?_)))
  exact iT (.slice none 0 0) trivial [0,1] ⟨⟨_,rfl,fun _ _ _ h=>h⟩,⟨_,rfl,(bT hT.symm)⟩,trivial⟩ (by decide) (pH rfl (fQ rfl))
 ·refine cU (ts (rn rfl (vI U_29 Z_51 O_51) fun B5 => (rm rfl (zO (inf := Tryz.t51) nG lE rfl rfl rfl (Ht rfl) (Ht rfl) (i := 1) rfl (fun T hT => by obtain ⟨x, _, rfl⟩ := List.mem_map.1 hT; exact El.ag rfl) (by show _ * 88 ≤ _; simp only [List.length_map, List.length_nil]; omega) (by simp only [List.length_map, List.length_nil]; omega) rfl (fun v2 => ?_)))))
  refine ra rfl (eJ ?_)
  exact iT v2 trivial [0,1] ⟨⟨_,rfl,fun _ _ _ h=>h⟩,⟨_,rfl,fun _ _ _ h=>h⟩,trivial⟩ (by decide) (pH rfl (fQ rfl))
theorem Jv {l:List Qi} (hl:l.length ≤ 1000):aS Tryz.prog 158 [cB l] (cB l):=(Dg hl).fun fun v _=>kN
theorem Vb {n:Nat} {f:Nat → Nat → Qi} (hn:n ≤ 1000):fT Tryz.prog 114 [NT .i64 n,Je Tryz.prog (Fin n × Fin n) (fun x=>[NT .i64 x.1.1,NT .i64 x.2.1]) (fun x=>aP (f x.1.1 x.2.1))] [] (Nat) (fun B=>Is (.slice (some ⟨B,0,none⟩) n n)) (fun B=>[pL B 29 51 5 (bR aP (tab n fun i=>tab n (f i)))]) (fun _=>True):=by
 refine fT.intro Tryz.func114 rfl Tryz.ntmps114 rfl (fun cx Z=>(ts (ro rfl (cQ cV) (eJ (ts (rm rfl (rn rfl (dH (T:=Is (.slice none 0 0)) (i:=Tryz.t29) V_30 lX rfl rfl (Ht rfl) rfl (fun _=>rfl) trivial (by show 24 * _ ≤ _; omega) zo) fun B9=>(ra rfl (eJ (cK (ts (rm rfl (ro rfl (fN U_30 (Ht rfl)) (ro rfl (cX (cJ 0)) (eJ (eU (oA 1 rfl (pD (e:=51) (s:=5)) ?_)))))))))))))))))
 refine eH (fun (k : Nat) (m : List (List Qi)) => kI (fun i => tab n (f i)) n m k) (fun (k : Nat) (m : List (List Qi)) => n - k) (fun (k : Nat) (m : List (List Qi)) => [(0, NT .i64 n), (1, Je Tryz.prog (Fin n × Fin n) (fun x => [NT .i64 x.1.1, NT .i64 x.2.1]) (fun x => aP (f x.1.1 x.2.1))), (5, Is (.slice (some ⟨B9, 0, none⟩) n n)), (11, NT .i64 n), (12, NT .i64 k)]) (fun (k : Nat) (m : List (List Qi)) => [Z, pL B9 29 51 5 (bR aP m)]) 0 (List.replicate n []) (kI.start _ _ _)
  (zS rfl) (aU (fun _ _ _ h=>h) (aU (bP (kL aP n)) aY)) (fun k m hS=>?_)
 refine ts (ro rfl (gJ (Ht rfl) (Ht rfl)) (eJ (cK (dQ (Ht rfl) (fun hk=>?_) (fun hk=>?_)))))
 ·simp only [decide_eq_true_eq] at hk
  have hlen:=hS.len
  refine oR 1 (k) rfl (qC (m:=m) (i:=k) zo) (fun v=>(cU (cK (eU (ts (rm rfl (ra rfl (eJ (ts (rm rfl (rm rfl (rm rfl (rn rfl (rE (T:=aP Qi.zero) (i:=Tryz.t51) nG lE rfl rfl (Ht rfl) rfl nD (El.ag rfl) (by show 88 * _ ≤ _; omega) zo) fun B18=>(ro rfl (gX U_30 Z_29 (Ht rfl) (Ht rfl) rfl zo (by rw [Nat.mul_one,Nat.zero_add])) ?_))))))))))))))
  refine pO Z_29 (Ht rfl) (Ht rfl) (by simp; omega) (j:=1) (l:=3) rfl rfl rfl ?_
  refine eJ (cK (cM [0,1,3] rfl (by decide) (cY (rm rfl (rm rfl (ro rfl (gX U_30 Z_29 (Ht rfl) (Ht rfl) rfl zo (by rw [Nat.mul_one,Nat.zero_add])) ?_))))))
  refine ro rfl (jK A_29 Z_29 (Ht rfl) (j:=1) rfl) (ro rfl (rH U_29 (Ht rfl) (i:=2) rfl (show ((List.replicate n (aP Qi.zero)).length:Int) = ((n:Nat):Int) by simp)) (ro rfl (cX (cJ 0)) (eJ (eU ?_))))
  refine eH (fun (j : Nat) (out : List Qi) => kI (f k) n out j) (fun (j : Nat) (out : List Qi) => n - j) (fun (j : Nat) (out : List Qi) => [(0, NT .i64 n), (1, Je Tryz.prog (Fin n × Fin n) (fun x => [NT .i64 x.1.1, NT .i64 x.2.1]) (fun x => aP (f x.1.1 x.2.1))), (5, Is (.slice (some ⟨B9, 0, none⟩) n n)), (6, NT .i64 k), (11, NT .i64 n), (12, NT .i64 k), (24, NT .i64 n), (25, NT .i64 j)]) (fun (j : Nat) (out : List Qi) => [Z, Ig B9 29 51 5 (bR aP m) k B18, bO 51 5 B18 (out.map aP)]) 0 (List.replicate n Qi.zero) (kI.start _ _ _)
   (zS rfl) (aU (fun _ _ _ h=>h) (aU (fun _ _ _ h=>h) (aU (bT (qJ aP _ _)) aY))) (fun j out hT=>?_)
  refine ts (ro rfl (gJ (Ht rfl) (Ht rfl)) (eJ (cK (dQ (Ht rfl) (fun hj=>?_) (fun hj=>?_)))))
  ·simp only [decide_eq_true_eq] at hj
   have hlen2:=hT.len
   refine cU (cK (eU (ts (rm rfl (ra rfl (eJ (fV (m:=9) (dp 5 rfl (cX (Ht rfl)) (dp 6 rfl (cX (Ht rfl)) (cH 28 0 29 1 rfl (gX U_30 Z_29 (Ht rfl) (Ht rfl) rfl zo (by rw [Nat.mul_one,Nat.zero_add])) ?_))))))))))
   refine dq 30 2 rfl (jK A_29 Z_29 (Ht rfl) (j:=1) rfl) (dp 7 rfl (cX (Ht rfl)) (dp 1 rfl (cX (Ht rfl)) (dp 6 rfl (cX (Ht rfl)) (dp 7 rfl (cX (Ht rfl)) (C.D_step (Ei:=[(33,_),(34,_),(35,_)]) rfl rfl (bV (bG 5 rfl rfl) (bV (bG 6 rfl rfl) (bV (bG 7 rfl rfl) bW))) (dX rfl (yI ((⟨k,hk⟩,⟨j,hj⟩):Fin n × Fin n) (Ht rfl) ⟨(Ht rfl),(Ht rfl),trivial⟩)) (fG aM rfl (by kernel_rfl) (zF (zF (aJ (aV ?_))))))))))
   refine ro rfl (dM U_29 Z_51 (Ht rfl) (Ht rfl) rfl (i:=2) rfl (by first | omega | (simp; omega)) rfl) (mY Z_51 (Ht rfl) (Ht rfl) (El.ag rfl) (i:=2) rfl rfl (by first | omega | (simp; omega)) rfl (eJ (aR (cY (ro rfl (dW (Ht rfl) (cJ 1) z6) (rm rfl (eJ (gQ (j + 1,_) (hT.next hj rfl) (by dsimp only; omega) (zS rfl) (aU (fun _ _ _ h=>h) (aU (fun _ _ _ h=>h) (aU (bT (jU aP _ _ _)) aY)))))))))))
  ·simp only [decide_eq_false_iff_not] at hj
   obtain rfl:j = n:=Nat.le_antisymm hT.kle zo
   have hfin:=hT.fin
   refine gG rfl (aR (fR 1 2 rfl rfl (by decide) (by simp; omega) ?_))
   refine cY (ro rfl (dW (Ht rfl) (cJ 1) z6) (rm rfl (eJ (cM [0,1] rfl (by decide) (gQ (k + 1,_) (hS.next hk hfin) (by dsimp only; omega) (zS rfl) (aU (fun _ _ _ h=>h) (aU (bP (gI aP _ _ _)) aY)))))))
 ·simp only [decide_eq_false_iff_not] at hk
  obtain rfl:k = n:=Nat.le_antisymm hS.kle zo
  have hfin:=hS.fin
  refine gG rfl (ts (rm rfl (ra rfl (eJ ?_))))
  exact iT B9 trivial [0,1] ⟨⟨_,rfl,fun _ _ _ h=>h⟩,⟨_,rfl,(bP (by rw [hfin]))⟩,trivial⟩ (by decide) (pH rfl (fQ rfl))
theorem a0o {n:Nat} {f:Nat → Nat → Qi} (hn:n ≤ 1000):aS Tryz.prog 114 [NT .i64 n,Je Tryz.prog (Fin n × Fin n) (fun x=>[NT .i64 x.1.1,NT .i64 x.2.1]) (fun x=>aP (f x.1.1 x.2.1))] (bS (tab n fun i=>tab n (f i))):=(Vb hn).fun fun B _ v S V h1 h2=>oC (by simp [bR,List.map_map,Function.comp_def]) v V (Kx (by simp [bR,aT]) (Nat.le_refl _) v S V h1 h2)
end
section
open Go Go.RowKit
theorem Bh {n : Nat} {E : cD} {H : Hp} {d : Option Tmp} {t : TypeId} {pos : String} {af : Array Edge} {g : Option (Nat × Bool)}  :
  aI Tryz.prog n E H ⟨d,.build 32 #[],t,pos,af,g⟩ (eM [Is (.slice none 0 0),Is (.slice none 0 0)]) :=
 fC (parts := []) fun a V w hs => by
  refine ⟨.agg #[(.slice none 0 0),(.slice none 0 0)],?_,[(.slice none 0 0),(.slice none 0 0)],rfl,aW (⟨rfl,trivial⟩) (aW (⟨rfl,trivial⟩) (aG))⟩
  simp [Instr.build,Instr.fill,Sem.run_bind,Result.andThen,dS,O_32,U_32,Z_29,Z_30]
theorem Hd {n : Nat} {E : cD} {H : Hp} {d : Option Tmp} {t : TypeId} {pos : String} {af : Array Edge} {g : Option (Nat × Bool)} {x0 x1 : Operand} {T0 T1 : Ty} [s0 : dE T0 1 false] (h0 : bD E x0 T0) [s1 : dE T1 1 false] (h1 : bD E x1 T1) :
  aI Tryz.prog n E H ⟨d,.build 32 #[(0,x0),(1,x1)],t,pos,af,g⟩ (eM [T0,T1]) :=
 fC (parts := [(0, x0), (1, x1)]) fun a V w hs => by
  have p0:=h0 n V a hs
  generalize e0:a.eval x0 = v0 at p0
  have q0:=(s0.ok v0 V p0).2.2 rfl
  have p1:=h1 n V a hs
  generalize e1:a.eval x1 = v1 at p1
  have q1:=(s1.ok v1 V p1).2.2 rfl
  refine ⟨.agg #[v0,v1],?_,[v0,v1],rfl,aW (⟨p0,q0⟩) (aW (⟨p1,q1⟩) (aG))⟩
  simp [e0,e1,Instr.build,Instr.fill,Sem.run_bind,Result.andThen,dS,q0.cells,q1.cells,O_32,U_32,Z_29,Z_30]
theorem Bw (a:Addr) (w:World):(Instr.fieldAt 32 (.pointer (some a)) 0).run Tryz.prog w = .ok (.pointer (some (a.add 0))) w:=by
 simp [Instr.fieldAt,Instr.sureAddr,fieldPlace,Sem.run_bind,Result.andThen,U_32,Z_29]
end
section
open Go Go.RowKit
theorem a0k {s:List (List Qi)} {n i j:Nat} (hs:eD s n n) (hi:i < n) (hj:j < n):aS Tryz.prog 187 [NT .i64 i,NT .i64 j,PT (bS s)] (aP (gm s i j)):=by
 have h1:=hs.1; have h2:=hs.row hi
 refine aS.intro Tryz.func187 rfl Tryz.ntmps187 rfl (fun cx=>(ts (rn rfl (eK (Ts:=[Is (.bool false),Is (.slice none 0 0),Is (.bool false),Is (.slice none 0 0),Is (.slice none 0 0)]) O_51 rfl (fun V=>aW zd (aW zd (aW zd (aW zd (aW zd (aG))))))) fun B5=>(eJ (ts (ro rfl (dJ A_30 Z_30 (Ht rfl)) (rm rfl (ro rfl (dZ U_30 Z_29 (Ht rfl) (Ht rfl) rfl (eX (eQ (d:=[]) zo))) (ro rfl (dJ A_29 Z_29 (Ht rfl)) ?_)))))))))
 refine rm rfl (ro rfl (dZ U_29 Z_51 (Ht rfl) (Ht rfl) rfl (eX (eQ (d:=Qi.zero) zo))) (ro rfl (dJ A_51 Z_51 (Ht rfl)) (gZ Z_51 (Ht rfl) (Ht rfl) rfl (i:=0) rfl (aK rfl) rfl rfl (eJ ?_))))
 exact fK rfl (fY A_51 Z_51 rfl (i:=0) rfl rfl)
theorem Dj {z:List Qi} {s:List (List Qi)} {L:Nat} (hz:dN z L) (h:L ≤ 8796093022208) (hl:z.length ≤ 1000) (hl2:s.length ≤ 1000):aS Tryz.prog 85 [cB z,bS s] (gE [nZ (fS (bH z s) z) (fS (bH z s) s),bC .i64 (bH z s)]):=by
 refine aS.intro Tryz.func85 rfl Tryz.ntmps85 rfl (fun cx=>(ts (rn rfl (Fh (Ht rfl)) fun B3=>(rn rfl (eK (Ts:=[Is (.slice none 0 0),Is (.slice none 0 0)]) O_32 rfl (fun V=>aW zd (aW zd (aG)))) fun B4=>(ro rfl (cQ (cJ 0)) (eJ (cK (cK (gW (i:=0) (tt:=3) rfl rfl xW (cY (rm rfl (ro rfl (dU U_29 (Ht rfl) aA) (ro rfl (gJ (Ht rfl) (cJ 1)) (rm rfl (fZ rfl rfl (eY rfl rfl (Ht rfl) (fun h=>cX (Ht rfl))) (fZ rfl rfl (eY rfl rfl (Ht rfl) (fun h=>dU U_29 (fW rfl h) aA)) ?_))))))))))))))))
 refine fZ rfl rfl (eY rfl rfl (Ht rfl) (fun h=>dL (fW rfl h) (cJ 8))) (ro rfl (iW (Ht rfl) (fun h=>(fW rfl h))) (rm rfl (fZ rfl rfl (eY rfl rfl (Ht rfl) (fun h=>dJ A_30 Z_30 (Ht rfl))) (fZ rfl rfl (eY rfl rfl (Ht rfl) (fun h=>dU U_30 (fW rfl h) aA)) (fZ rfl rfl (eY rfl rfl (Ht rfl) (fun h=>cX (Ht rfl))) (fZ rfl rfl (eY rfl rfl (Ht rfl) (fun h=>dU U_29 (fW rfl h) aA)) (fZ rfl rfl (eY rfl rfl (Ht rfl) (fun h=>gY (fW rfl h) (fW rfl h))) ?_)))))))
 refine ro rfl (iW (Ht rfl) (fun h=>(fW rfl h))) (eJ (dQ (Ht rfl) (fun hb=>?_) (fun hb=>?_)))
 ·have he := Fg hb
  refine ts (ro rfl (aI.imp (Bh ) Ce) (gZ Z_32 (Ht rfl) (Ht rfl) rfl (i:=1) rfl (aK rfl) rfl rfl (ro rfl (cQ (cJ 4)) (eJ (bN rfl (fJ (fY A_32 Z_32 rfl (i:=1) rfl rfl) ?_) (fJ (fQ rfl) ?_))))))
  ·exact (Cd he (by decide))
  ·exact (bB he.symm)
 ·refine cU (cK (ts (ro rfl (dJ A_30 Z_30 (Ht rfl)) (ro rfl (dU U_30 (Ht rfl) aA) (ro rfl (cX (cJ 0)) (eJ (eU ?_)))))))
  refine bF (fun (k : Nat) => k ≤ s.length ∧ ∀ (i : Nat) (r : List Qi), i < k → s[i]? = some r → r.length = z.length) (fun (k : Nat) => s.length - k) (fun (k : Nat) => [(0, cB z), (3, PT (bS s)), (4, cC B4 0), (25, bS s), (26, NT .i64 s.length), (27, NT .i64 k)]) (fun (k : Nat) => [SA.emp, box B4 32 [Is (.slice none 0 0), Is (.slice none 0 0)]]) 0 ⟨Nat.zero_le _, fun i r h => by omega⟩
   (zS rfl) (cL.refl _) (fun k ⟨hk,hr⟩=>?_)
  refine ts (ro rfl (gJ (Ht rfl) (Ht rfl)) (eJ (cK (dQ (Ht rfl) (fun hc=>?_) (fun hc=>?_)))))
  ·simp only [decide_eq_true_eq] at hc
   refine cU (cK (eU (ts (ro rfl (dZ U_30 Z_29 (Ht rfl) (Ht rfl) rfl (eX (mO hc))) (ro rfl (dJ A_29 Z_29 (Ht rfl)) (ra rfl (eJ (ts (rm rfl (ro rfl (dU U_29 (Ht rfl) aA) (rm rfl (ro rfl (dU U_29 (Ht rfl) aA) (ro rfl (gY (Ht rfl) (Ht rfl)) (eJ (dQ (Ht rfl) (fun hd=>?_) (fun hd=>?_))))))))))))))))
   ·have hd2 : ¬ (s[k]).length = z.length := by simpa using hd
    have he:=Ij (mO hc) hd2
    refine ts (ro rfl (aI.imp (Bh ) Ce) (gZ Z_32 (Ht rfl) (Ht rfl) rfl (i:=1) rfl (aK rfl) rfl rfl (ro rfl (cQ (cJ 4)) (eJ (bN rfl (fJ (fY A_32 Z_32 rfl (i:=1) rfl rfl) ?_) (fJ (fQ rfl) ?_))))))
    ·exact (Cd he (by decide))
    ·exact (bB he.symm)
   ·have hd2 : (s[k]).length = z.length := by simpa using hd
    refine cU (aR (cY (ro rfl (dW (Ht rfl) (cJ 1) z6) (rm rfl (eJ ?_)))))
    refine gQ (k + 1) ⟨hc, fun i r h1 h2 => by
      by_cases e:i = k
      ·subst e; rw [mO hc] at h2; obtain rfl:=Option.some.inj h2; exact hd2
      ·exact hr i r zo h2⟩ zo (zS rfl) (cL.refl _)
  ·simp only [decide_eq_false_iff_not] at hc
   have hall:∀ (i:Nat) (r:List Qi),s[i]? = some r → r.length = z.length:=fun i r h=>hr i r (by have:=(List.getElem?_eq_some_iff.1 h).1; omega) h
   have hpos:=Ii hb hall
   refine gG rfl (cK (ts (rm rfl (ro rfl (cZ Tryz.call183 (Dk hz h zo) ⟨(Ht rfl),trivial⟩) (ra rfl (eJ (ts (rm rfl (ro rfl (uY (Ht rfl) cV) (eJ (dQ (Ht rfl) (fun hd=>?_) (fun hd=>?_))))))))))))
   ·have hd2 : ¬ (if z.all lJ = true then (0 : Int) else 1) = 0 := by simpa using hd
    refine ts (ro rfl (aI.imp (Bh ) Ce) (rm rfl (gZ Z_32 (Ht rfl) (Ht rfl) rfl (i:=1) rfl (aK rfl) rfl rfl (ra rfl (eJ (bN rfl (fJ (fY A_32 Z_32 rfl (i:=1) rfl rfl) ?_) (fJ (fQ rfl) ?_)))))))
    ·exact (Cd hpos hd2)
    ·exact (bB hpos.symm)
   ·have hd2 : (if z.all lJ = true then (0 : Int) else 1) = 0 := by simpa using hd
    have he:=hpos.trans hd2
    obtain ⟨h1,h2,hsh,_⟩:=uI he
    refine cU (ts (rm rfl (ro rfl (cZ Tryz.call158 (Jv zo) ⟨(Ht rfl),trivial⟩) (rm rfl (ro rfl (dU U_29 (Ht rfl) aA) (ro rfl (Cj (γ:=Fin z.length × Fin z.length) (Ts:=fun x=>[NT .i64 x.1.1,NT .i64 x.2.1]) (U:=fun x=>aP (gm s x.1.1 x.2.1)) Tryz.call187 (fun x=>a0k hsh x.1.2 x.2.2) ⟨(Ht rfl),trivial⟩) (ro rfl (cZ Tryz.call114 (eZ (a0o (n:=z.length) (f:=gm s) zo) (oC (by rw [← lZ hsh]))) ⟨(Ht rfl),(Ht rfl),trivial⟩) ?_)))))))
    refine ro rfl (Hd (Ht rfl) (Ht rfl)) (gZ Z_32 (Ht rfl) (Ht rfl) rfl (i:=1) rfl (aK rfl) rfl rfl (ro rfl (cQ (cJ 0)) (eJ (bN rfl (fJ (fY A_32 Z_32 rfl (i:=1) rfl rfl) ?_) (fJ (fQ rfl) ?_)))))
    ·exact (Si he)
    ·exact (bB he.symm)
theorem nN {z:List Qi} {s:List (List Qi)}:aS Tryz.prog 22 [nZ z s] (NT .i64 z.length):=by
 refine aS.intro Tryz.func22 rfl Tryz.ntmps22 rfl (fun cx=>(ts (rn rfl (fU (Ht rfl)) fun B1=>(ro rfl (cQ (cJ 0)) (eJ (ts (ro rfl (eW Bw (Ht rfl) rfl) (ro rfl (fX A_29 Z_29 (Ht rfl) (i:=0) rfl rfl) (ro rfl (dU U_29 (Ht rfl) aA) (ra rfl (eJ ?_)))))))))))
 exact fK rfl (fQ rfl)
theorem Qa {z:List Qi} {s:List (List Qi)} {i:Int}:aS Tryz.prog 106 [nZ z s,bC .i64 i] (aC (decide (1 ≤ i ∧ i ≤ z.length))):=by
 refine aS.intro Tryz.func106 rfl Tryz.ntmps106 rfl (fun cx=>(ts (rn rfl (fU (Ht rfl)) fun B2=>(ro rfl (cQ cV) (eJ (ts (rm rfl (ro rfl (kV (Ht rfl) cV) (rm rfl (fZ rfl rfl (eY rfl rfl (Ht rfl) (fun h=>cX (Ht rfl))) (fZ rfl rfl (eY rfl rfl (Ht rfl) (fun h=>eW Bw (Ht rfl) rfl)) (fZ rfl rfl (eY rfl rfl (Ht rfl) (fun h=>fX A_29 Z_29 (fW rfl h) (i:=0) rfl rfl)) (fZ rfl rfl (eY rfl rfl (Ht rfl) (fun h=>dU U_29 (fW rfl h) aA)) (fZ rfl rfl (eY rfl rfl (Ht rfl) (fun h=>Ir (fW rfl h) (fW rfl h))) ?_))))))))))))))
 refine ro rfl (dP (Ht rfl) (fun h=>(fW rfl h))) (ra rfl (eJ (fK rfl (fJ (fQ rfl) ?_))))
 exact (bI (by rw [Bool.eq_iff_iff]; simp))
end
section
open Go Go.RowKit
theorem Wh (a:Addr) (w:World):(Instr.fieldAt 32 (.pointer (some a)) 1).run Tryz.prog w = .ok (.pointer (some (a.add 1))) w:=by
 simp [Instr.fieldAt,Instr.sureAddr,fieldPlace,Sem.run_bind,Result.andThen,U_32,Z_30]
theorem wI (a:Addr) (w:World):(Instr.fieldAt 34 (.pointer (some a)) 0).run Tryz.prog w = .ok (.pointer (some (a.add 0))) w:=by
 simp [Instr.fieldAt,Instr.sureAddr,fieldPlace,Sem.run_bind,Result.andThen,U_34,Z_32]
theorem lD (a:Addr) (w:World):(Instr.fieldAt 34 (.pointer (some a)) 1).run Tryz.prog w = .ok (.pointer (some (a.add 2))) w:=by
 simp [Instr.fieldAt,Instr.sureAddr,fieldPlace,Sem.run_bind,Result.andThen,U_34,Z_30]
end
end Go.Proofs.YteohomnhncjcnaaGreat
