/- What functions of the program compute, proved by walks over their code, and the plain mathematics of it; a part of the proof in the last text. -/
import Derived.Test.YtdlciihkiefckaaGreatP02
set_option linter.unusedVariables false
set_option linter.unusedSimpArgs false
set_option maxRecDepth 100000
set_option maxHeartbeats 4000000
namespace Go.Proofs.YtdlciihkiefckaaGreat
section
open Go Go.RowKit
section
variable {P:Program} {R:iE} {cx:Cx} {n:Nat} {k:List It} {E:dA} {H:Hp} {ops:Array Oper} {rest:List Oper} {o:Oper}
theorem Ht {t:Nat} {T:Ty} (h:fL E t = some T):bH E (.tmp t) T:=bH.t h
theorem ro {T:Ty} {d:Nat} (h0:(o.guard,o.dst,Nat.blt d n) = (none,some d,true)) (hs:aS P n E H o T) (h:Rg P R cx n ops rest k ((d,T) :: E) H):Rg P R cx n ops (o :: rest) k E H:=by
 simp only [Prod.mk.injEq] at h0
 exact a3K h0.1 h0.2.1 h0.2.2 hs h
theorem rm {T:Ty} {d x:Nat} {t:TypeId} {pos:String} {af:Array Edge} (h0:(Nat.blt d n,fL E x) = (true,some T)) (h:Rg P R cx n ops rest k ((d,T) :: E) H):Rg P R cx n ops (⟨some d,.move (.tmp x),t,pos,af,none⟩ :: rest) k E H:=by
 simp only [Prod.mk.injEq] at h0
 exact a3K rfl rfl h0.1 (Ru (bH.t h0.2)) h
theorem ra {T:Ty} {d x:Nat} {t:TypeId} {pos:String} {af:Array Edge} (h0:(Nat.blt d n,fL E x) = (true,some T)) (h:Rg P R cx n ops rest k ((d,T) :: E) H):Rg P R cx n ops (⟨some d,.assign (.tmp x),t,pos,af,none⟩ :: rest) k E H:=by
 simp only [Prod.mk.injEq] at h0
 exact a3K rfl rfl h0.1 (Fk (bH.t h0.2)) h
theorem rn {γ:Type} {T:γ → Ty} {A:γ → SA} {d:Nat} (h0:(o.guard,o.dst,Nat.blt d n) = (none,some d,true)) (hop:iZ P n E H o γ T A) (h:∀ x,Rg P R cx n ops rest k ((d,T x) :: E) (H ++ [A x])):Rg P R cx n ops (o :: rest) k E H:=by
 simp only [Prod.mk.injEq] at h0
 exact a3j h0.1 h0.2.1 h0.2.2 hop h
theorem ts {y:Code} {id:Nat} {l:List Oper} (h:Rg P R cx n l.toArray l (.code y :: k) E H):Tr P R cx n (.code (.seq (.region id l.toArray false) y) :: k) E H:=a3m (Jb h)
end
section
variable {P:Program} {R:iE} {cx:Cx} {n:Nat} {k:List It} {E:dA} {H:Hp} {ops l:List Oper} {m:Nat} {o:Oper} {acc:List (Nat × C.Ob)} {d:Nat} {T U V:Ty}
theorem d0 (h0:(o.dst,Nat.blt d n,o.guard) = (some d,true,none)) (hs:aS P n [] H o T) (h:C.Dr P R cx n ops m k E H l ((d,.val T) :: acc)):C.Dr P R cx n ops m k E H (o :: l) acc:=by
 simp only [Prod.mk.injEq] at h0
 exact C.D_step h0.1 h0.2.1 C.Srcs.nil (uM h0.2.2 hs) h
theorem dp (t : Nat) (h0 : (o.dst, Nat.blt d n, fL E t, ((List.range m).all fun j => !(fH ops j == some t)), o.guard) = (some d, true, some U, true, none)) (hs : aS P n [(t, U)] H o T)
  (h:C.Dr P R cx n ops m k E H l ((d,.val T) :: acc)):C.Dr P R cx n ops m k E H (o :: l) acc:=by
 simp only [Prod.mk.injEq] at h0
 exact C.D_step h0.1 h0.2.1 (C.Srcs.cons (C.Src.pre h0.2.2.1 h0.2.2.2.1) C.Srcs.nil) (uM h0.2.2.2.2 hs) h
theorem dq (t j : Nat) (h0 : (o.dst, Nat.blt d n, acc.reverse[j]?, (o.after.toList.any fun e => Nat.beq e.on j && Region.binds .any e), o.guard) = (some d, true, some (t, C.Ob.val U), true, none)) (hs : aS P n [(t, U)] H o T)
  (h:C.Dr P R cx n ops m k E H l ((d,.val T) :: acc)):C.Dr P R cx n ops m k E H (o :: l) acc:=by
 simp only [Prod.mk.injEq] at h0
 exact C.D_step h0.1 h0.2.1 (C.Srcs.cons (C.Src.op j h0.2.2.1 h0.2.2.2.1) C.Srcs.nil) (uM h0.2.2.2.2 hs) h
theorem cP (t i u j : Nat) (h0 : (o.dst, Nat.blt d n, acc.reverse[i]?, (o.after.toList.any fun e => Nat.beq e.on i && Region.binds .any e), acc.reverse[j]?, (o.after.toList.any fun e => Nat.beq e.on j && Region.binds .any e), o.guard) = (some d, true, some (t, C.Ob.val U), true, some (u, C.Ob.val V), true, none)) (hs : aS P n [(t, U), (u, V)] H o T)
  (h:C.Dr P R cx n ops m k E H l ((d,.val T) :: acc)):C.Dr P R cx n ops m k E H (o :: l) acc:=by
 simp only [Prod.mk.injEq] at h0
 obtain ⟨a,b,c,e,f,g,q⟩:=h0
 exact C.D_step a b (C.Srcs.cons (C.Src.op i c e) (C.Srcs.cons (C.Src.op j f g) C.Srcs.nil)) (uM q hs) h
end
end
section
open Go Go.RowKit
section
variable {P:Program} {n:Nat} {E:dA} {H:Hp}
variable {d:Option Tmp} {t:TypeId} {pos:String} {af:Array Edge} {g:Option (Nat × Bool)}
end
end
section
open Go Go.RowKit
def zlk (E : dA) : dA → List (Option Ty)
 | []=>[]
 | x :: r=>fL E x.1 :: zlk E r
def zsm : dA → List (Option Ty)
 | []=>[]
 | x :: r=>some x.2 :: zsm r
theorem zS {E : dA} : ∀ {E' : dA}, zlk E E' = zsm E' → Sub E E'
 | [],_=>Sub.nil
 | _ :: _,h=>Sub.cons (List.cons.inj h).1 (zS (List.cons.inj h).2)
theorem z6 {a:Nat} (h:a < 9223372036854775808:=by first|omega|simp only[oA];omega):a < 9223372036854775808:=h
theorem z7 {a:Nat} (h:a < 18446744073709551616:=by first|omega|simp only[oA];omega):a < 18446744073709551616:=h
theorem zd {α:Type} {a:α}:a = a ∧ True:=⟨rfl,trivial⟩
theorem zF {P : Program} {R : iE} {cx : Cx} {n : Nat} {k : List It} {E : dA} {H : Hp} {ops : Array Oper} {l : List Oper} {a b c d : Nat} {T U V W : Ty} {r : List (Nat × C.Ob)}
  (h:C.Fin' P R cx n ops l k r ((d,W) :: (c,V) :: (b,U) :: (a,T) :: E) H):C.Fin' P R cx n ops l k ((a,.val T) :: (b,.val U) :: (c,.val V) :: (d,.val W) :: r) E H:=C.F_val (C.F_val (C.F_val (C.F_val h)))
end
section
open Go Go.RowKit
abbrev aQ:=@Sub.cons
abbrev aX:=@Sub.nil
abbrev aZ:=@Sub.to
abbrev aJ:=@C.F_val
abbrev aV:=@C.F_nil
abbrev aW:=@dF.cons'
abbrev aG:=@dF.nil
abbrev aK:=@Nat.le_of_ble_eq_true
abbrev aU:=@dR.cons
abbrev aY:=@dR.nil
abbrev bQ:=@Y.Srcs.cons
abbrev bX:=@Y.Srcs.nil
abbrev bZ:=@Y.Src.op
abbrev bJ:=@Y.Src.pre
abbrev bV:=@C.Srcs.cons
abbrev bW:=@C.Srcs.nil
abbrev bG:=@C.Src.op
abbrev bK:=@C.Src.pre
abbrev bU:=@Y.F_val
abbrev bY:=@Y.D_hide
abbrev cQ:=@Fk
abbrev cX:=@Ru
abbrev cZ:=@a2B
abbrev cJ:=@bH.cN
abbrev cV:=@bH.c
abbrev cW:=@sM.cons
abbrev cG:=@sM.nil
abbrev cK:=@a3m
abbrev cU:=@a3S
abbrev cY:=@Jb
abbrev dQ:=@Mi
abbrev dX:=@uM
abbrev dZ:=@a4S
abbrev dJ:=@a6d
abbrev dV:=@a2z
abbrev dW:=@a2L
abbrev dG:=@a4V
abbrev dK:=@Od
abbrev dU:=@getD_some
abbrev dY:=@Rd
abbrev eQ:=@bR.imp
abbrev eX:=@a5D
abbrev eZ:=@a2C
abbrev eJ:=@a2F
abbrev eW:=@Ul
abbrev eG:=@a14
abbrev eK:=@a3N
abbrev eU:=@a5b
abbrev eY:=@a4U
abbrev fQ:=@We
abbrev fX:=@a6j
abbrev fZ:=@C.D_start
abbrev fJ:=@bH.w
abbrev fV:=@C.D_done
abbrev fW:=@a3R
abbrev fG:=@a2s
abbrev fK:=@a33
abbrev fU:=@a13
abbrev fY:=@a2E
abbrev gQ:=@a5E
abbrev gX:=@a2I
abbrev gZ:=@a06
abbrev gV:=@Wh
abbrev gW:=@a3P
end
section
open Go Go.RowKit
theorem zo {p:Prop} (h:p:=by omega):p:=h
end
section
open Go Go.RowKit
theorem rU (ds:List Nat) (hd:lC ds) (hl:ds.length ≤ 1152921504606846976):bR Tryz.prog 237 [Dv ds] (bA (val ds)):=by
 refine bR.intro Tryz.func237 rfl Tryz.ntmps237 rfl (fun cx=>(ts (ro rfl (cQ cV) (eX (ts (rm rfl (ro rfl (dG U_56 (Ht rfl) aC) (ra rfl (eX (cK (eG ?_)))))))))))
 refine cA (fun (k : Nat) => k ≤ ds.length ∧ ∀ i, k ≤ i → i < ds.length → ds.getD i 0 = 0) (fun (k : Nat) => k) (fun (k : Nat) => [(0, Dv ds), (3, NT .i64 k)]) (fun (k : Nat) => []) ds.length ⟨Nat.le_refl _, fun i h1 h2 => by omega⟩
  (zS rfl) aY (fun k ⟨hk,hz⟩=>?_)
 refine cK (ts (rm rfl (ro rfl (gA (Ht rfl) (cJ 0)) (rm rfl (fQ rfl rfl (eK rfl rfl (Ht rfl) (fun h=>cX (Ht rfl))) (fQ rfl rfl (eK rfl rfl (Ht rfl) (fun h=>cX (Ht rfl))) (fQ rfl rfl (eK rfl rfl (Ht rfl) (fun h=>dW (fJ rfl h) (cJ 1) (by first | omega | (simp at h; omega)) (by show _ < 9223372036854775808; first | omega | (simp at h; omega)))) (fQ rfl rfl (eK rfl rfl (Ht rfl) (fun h=>dZ U_56 Z_218 (fJ rfl h) (fJ rfl h) rfl (dY (cO (by first | omega | (simp at h; omega)))))) ?_))))))))
 refine fQ rfl rfl (eK rfl rfl (Ht rfl) (fun h=>dJ A_218 Z_218 (fJ rfl h))) (fQ rfl rfl (eK rfl rfl (Ht rfl) (fun h=>eB (fJ rfl h) (cJ 0))) (ro rfl (fC (Ht rfl) (fun h=>(fJ rfl h))) (eX (dQ (Ht rfl) (fun hb=>?_) (fun hb=>?_)))))
 ·simp at hb
  refine cU (eG (cY (rm rfl (ro rfl (dW (Ht rfl) (cJ 1) zo z6) (ra rfl (eX (bL (fU (k - 1) ⟨by omega,fun i h1 h2=>?_⟩ zo (zS rfl) aY))))))))
  by_cases e2:i = k - 1
  ·subst e2; simpa using hb.2
  ·exact hz i zo h2
 ·have hn : k = 0 ∨ ds.getD (k - 1) 0 ≠ 0 := by
   simp only [Bool.and_eq_false_iff,decide_eq_false_iff_not] at hb
   rcases hb with h1 | h1
   ·left; omega
   ·right; exact h1
  have hfin:=a1J hd hk hz hn
  refine gW rfl (ts (rm rfl (rm rfl (rm rfl (ro rfl (Fl U_56 Z_218 (Ht rfl) (Ht rfl) (fun m e=>by cases e; exact (Ht rfl)) zo (by simp; omega) rfl) ?_)))))
  refine ra rfl (eX (fW rfl (fX (eU rfl) ?_)))
  exact (Ym (by rw [hfin]; simp))
theorem Gq {m:Nat} (hm:m < 18446744073709551616):bR Tryz.prog 238 [NT .u64 m] (bA m):=by
 refine bR.intro Tryz.func238 rfl Tryz.ntmps238 rfl (fun cx=>(ts (ro rfl (cQ cV) (eX (ts (rm rfl (ro rfl (lG rfl U_263 U_218 (Ht rfl)) (rm rfl (ro rfl (jR (Ht rfl) (cJ 32) (by decide)) (ro rfl (lG rfl U_263 U_218 (Ht rfl)) (ro rfl (cE (xs:=[.tmp 4,.tmp 7]) U_56 Z_218 Tryz.zeroValue218 (cW (Ht rfl) (cW (Ht rfl) cG)) rfl rfl rfl) (ro rfl (cZ K_237 (rU [m % 4294967296,m / 2 ^ 32 % 4294967296] (a6x _ _) (by simp)) ⟨(Ht rfl),trivial⟩) ?_))))))))))))
 refine ra rfl (eX (fW rfl (fX (eU rfl) ?_)))
 exact (gP (Uk hm))
theorem a3s {m:Nat}:bR Tryz.prog 232 [bA m] (aH (decide (m = 1))):=by
 refine bR.intro Tryz.func232 rfl Tryz.ntmps232 rfl (fun cx=>(ts (ro rfl (cQ cV) (eX (ts (rm rfl (ro rfl (dG U_56 (Ht rfl) aC) (ro rfl (eB (Ht rfl) (cJ 1)) (rm rfl (fQ rfl rfl (eK rfl rfl (Ht rfl) (fun h=>cX (Ht rfl))) (fQ rfl rfl (eK rfl rfl (Ht rfl) (fun h=>dZ U_56 Z_218 (fJ rfl h) (cJ 0) rfl (dY (cO (by first | omega | (simp at h; omega)))))) (fQ rfl rfl (eK rfl rfl (Ht rfl) (fun h=>dJ A_218 Z_218 (fJ rfl h))) (fQ rfl rfl (eK rfl rfl (Ht rfl) (fun h=>eB (fJ rfl h) (cJ 1))) ?_)))))))))))))
 refine ro rfl (fC (Ht rfl) (fun h=>(fJ rfl h))) (ra rfl (eX (fW rfl (fX (eU rfl) ?_))))
 exact (fA (a4P m))
theorem a1g {a b c:Nat} (ha:a < 4294967296) (hb:b < 4294967296) (hc:c < 4294967296):bR Tryz.prog 269 [dD a,dD b,dD c] (eD [dD ((a + b + c) % 4294967296),dD ((a + b + c) / 4294967296)]):=by
 refine bR.intro Tryz.func269 rfl Tryz.ntmps269 rfl (fun cx=>(ts (ro rfl (cQ (cJ 0)) (ro rfl (cQ (cJ 0)) (eX (ts (rm rfl (ro rfl (gZ U_218 U_263 (Ht rfl) z7) (rm rfl (ro rfl (gZ U_218 U_263 (Ht rfl) z7) (ro rfl (dV (Ht rfl) (Ht rfl) z7) (rm rfl (ro rfl (gZ U_218 U_263 (Ht rfl) z7) ?_)))))))))))))
 refine ro rfl (dV (Ht rfl) (Ht rfl) z7) (ra rfl (eX (ts (rm rfl (ro rfl (lG rfl U_263 U_218 (Ht rfl)) (ra rfl (eX (ts (rm rfl (ro rfl (jR (Ht rfl) (cJ 32) (by decide)) (ro rfl (lG rfl U_263 U_218 (Ht rfl)) (ra rfl (eX (bN rfl (eU rfl) (fX (eU rfl) ?_)))))))))))))))
 exact (lX (by simp only [oA]; omega))
theorem a1s {a b c:Nat} (ha:a < 4294967296) (hb:b < 4294967296) (hc:c ≤ 1):bR Tryz.prog 270 [dD a,dD b,dD c] (eD [dD ((a + 8589934592 - b - c) % 4294967296),dD (if a < b + c then 1 else 0)]):=by
 refine bR.intro Tryz.func270 rfl Tryz.ntmps270 rfl (fun cx=>(ts (ro rfl (cQ (cJ 0)) (ro rfl (cQ (cJ 0)) (eX (ts (rm rfl (rm rfl (ro rfl (vB rfl (Ht rfl) (Ht rfl) (by show _ ≤ 4294967296; first | omega | (simp only [oA]; omega))) (rm rfl (ro rfl (vB rfl (Ht rfl) (Ht rfl) (by show _ ≤ 4294967296; first | omega | (simp only [oA]; omega))) (ra rfl (eX (ts (rm rfl (ro rfl (Ro rfl (Ht rfl) (by show _ < 4294967296; first | omega | (simp only [oA]; omega))) (rm rfl (ro rfl (xN rfl (Ht rfl) (Ht rfl) (by show _ < 4294967296; simp only [oA]; omega) (by show _ < 4294967296; omega)) ?_))))))))))))))))))
 refine rm rfl (rm rfl (ro rfl (a2M rfl (Ht rfl) (Ht rfl) (by show _ < 4294967296; omega) (by show _ < 4294967296; omega)) (ro rfl (Ro rfl (Ht rfl) (Nat.xor_lt_two_pow (n:=32) ha hb)) (rm rfl (ro rfl (xN rfl (Ht rfl) (Ht rfl) (by show _ < 4294967296; simp only [oA]; omega) (by show _ < 4294967296; simp only [oA]; omega)) (ro rfl (zB rfl (Ht rfl) (Ht rfl) (Nat.and_lt_two_pow (n:=32) _ hb) (Nat.and_lt_two_pow (n:=32) _ (by simp only [oA]; omega))) (ro rfl (jR (Ht rfl) (cJ 31) (by decide)) (ra rfl (eX (bN rfl (fX (eU rfl) ?_) (fX (eU rfl) ?_)))))))))))
 ·exact (lX (by simp only [oA]; omega))
 ·exact (lX (Io ha hb hc (by simp only [oA]; omega)))
theorem Xh {m n:Nat} (hm:(dg m).length ≤ 1152921504606846976) (hn:(dg n).length ≤ 1152921504606846976):bR Tryz.prog 199 [bA m,bA n] (aP .i64 (wH m n)):=by
 refine bR.intro Tryz.func199 rfl Tryz.ntmps199 rfl (fun cx=>(ts (ro rfl (cQ (cJ 0)) (eX (cK (ts (rm rfl (ro rfl (dG U_56 (Ht rfl) aC) (rm rfl (ro rfl (dG U_56 (Ht rfl) aC) (ro rfl (kN (Ht rfl) (Ht rfl)) (eX (dQ (Ht rfl) (fun hb=>?_) (fun hb=>?_))))))))))))))
 ·simp at hb
  refine cK (ts (rm rfl (ro rfl (dG U_56 (Ht rfl) aC) (rm rfl (ro rfl (dG U_56 (Ht rfl) aC) (ro rfl (gX (Ht rfl) (Ht rfl)) (eX (dQ (Ht rfl) (fun hb2=>?_) (fun hb2=>?_)))))))))
  ·simp at hb2
   have hlt:=Xv hb2
   refine ts (ro rfl (cQ cV) (eX (fW rfl (fX (eU rfl) ?_))))
   exact (bE (by simp [wH,hlt]))
  ·simp at hb2
   have hlt:=Xv (a:=n) (b:=m) zo
   refine cU (ts (ro rfl (cQ (cJ 1)) (eX (fW rfl (fX (eU rfl) ?_)))))
   exact (bE (by simp [wH,hlt,Nat.lt_asymm hlt]))
 ·simp at hb
  refine cU (cK (ts (rm rfl (ro rfl (dG U_56 (Ht rfl) aC) (ro rfl (jE (Ht rfl) cV (Du zo)) (ra rfl (eX (eG ?_))))))))
  refine cA (fun (k : Nat) => k ≤ (dg m).length ∧ ∀ i, k ≤ i → i < (dg m).length → (dg m).getD i 0 = (dg n).getD i 0) (fun (k : Nat) => k) (fun (k : Nat) => [(0, bA m), (1, bA n), (5, aP .i64 ((k : Int) - 1))]) (fun (k : Nat) => []) (dg m).length ⟨Nat.le_refl _, fun i h1 h2 => by omega⟩
   (zS rfl) aY (fun k ⟨hk,he⟩=>?_)
  refine cK (ts (rm rfl (ro rfl (nA (Ht rfl) cV) (eX (dQ (Ht rfl) (fun hk1=>?_) (fun hk1=>?_))))))
  ·simp at hk1
   refine cU (cK (eG (cK (cK (fZ (m:=8) (dp 0 rfl (cX (Ht rfl)) (dp 5 rfl (cX (Ht rfl)) (cP 23 0 24 1 rfl (dZ U_56 Z_218 (Ht rfl) (Ht rfl) (show ((k:Int) - 1) = ((k - 1:Nat):Int) by omega) (dY (cO zo))) (dq 25 2 rfl (dJ A_218 Z_218 (Ht rfl)) (dp 1 rfl (cX (Ht rfl)) (dp 5 rfl (cX (Ht rfl)) (cP 27 4 28 5 rfl (dZ U_56 Z_218 (Ht rfl) (Ht rfl) (show ((k:Int) - 1) = ((k - 1:Nat):Int) by omega) (dY (cO zo))) (dq 29 6 rfl (dJ A_218 Z_218 (Ht rfl)) ?_)))))))))))))
   refine fV bC rfl (by kernel_rfl) (zF (zF (aV (ro rfl (gX (Ht rfl) (Ht rfl)) (eX (dQ (Ht rfl) (fun h1=>?_) (fun h1=>?_)))))))
   ·simp only [decide_eq_true_eq] at h1
    have hlt:=Pz (dC m) (dC n) hb (k:=k - 1) zo (fun i h2 h3=>he i zo h3) h1
    rw [fD,fD] at hlt
    refine ts (ro rfl (cQ cV) (eX (fW rfl (fX (eU rfl) ?_))))
    exact (bE (by simp [wH,hlt]))
   ·simp only [decide_eq_false_iff_not] at h1
    refine cU (cK (fZ (m:=8) (dp 0 rfl (cX (Ht rfl)) (dp 5 rfl (cX (Ht rfl)) (cP 32 0 33 1 rfl (dZ U_56 Z_218 (Ht rfl) (Ht rfl) (show ((k:Int) - 1) = ((k - 1:Nat):Int) by omega) (dY (cO zo))) (dq 34 2 rfl (dJ A_218 Z_218 (Ht rfl)) (dp 1 rfl (cX (Ht rfl)) (dp 5 rfl (cX (Ht rfl)) (cP 36 4 37 5 rfl (dZ U_56 Z_218 (Ht rfl) (Ht rfl) (show ((k:Int) - 1) = ((k - 1:Nat):Int) by omega) (dY (cO zo))) (dq 38 6 rfl (dJ A_218 Z_218 (Ht rfl)) ?_))))))))))
    refine fV bC rfl (by kernel_rfl) (zF (zF (aV (ro rfl (gA (Ht rfl) (Ht rfl)) (eX (dQ (Ht rfl) (fun h2=>?_) (fun h2=>?_)))))))
    ·simp only [decide_eq_true_eq] at h2
     have hlt:=Pz (dC n) (dC m) hb.symm (k:=k - 1) zo (fun i h2 h3=>(he i zo zo).symm) h2
     rw [fD,fD] at hlt
     refine ts (ro rfl (cQ (cJ 1)) (eX (fW rfl (fX (eU rfl) ?_))))
     exact (bE (by simp [wH,hlt,Nat.lt_asymm hlt]))
    ·simp only [decide_eq_false_iff_not] at h2
     refine cU (bL (cY (rm rfl (ro rfl (jE (Ht rfl) cV (Du zo)) (ra rfl (eX (fU (k - 1) ⟨by omega,fun i h3 h4=>(by by_cases e:i = k - 1; (· subst e; omega); exact he i zo h4)⟩ zo (aQ rfl (aQ rfl (aZ rfl (bE zo) aX))) aY)))))))
  ·simp at hk1
   have hk0:k = 0:=by omega
   have heq : m = n := by
    have : dg m = dg n := by
     apply List.ext_getElem?
     intro i
     by_cases hi:i < (dg m).length
     ·have h5 := he i zo hi
      have h6:i < (dg n).length:=by omega
      simp [List.getD,hi,h6] at h5
      simp [hi,h6,h5]
     ·rw [List.getElem?_eq_none zo,List.getElem?_eq_none zo]
    rw [← fD m,this,fD]
   refine gW rfl (ts (ro rfl (cQ (cJ 0)) (eX (fW rfl (fX (eU rfl) ?_)))))
   exact (bE (by simp [wH,heq]))
end
section
open Go Go.RowKit
theorem nZ:Tryz.prog.info? 218 = some Tryz.t218:=by kernel_rfl
end
section
open Go Go.RowKit
theorem a5Q {m n:Nat} (hm:(dg m).length ≤ 17592186044416) (hn:(dg n).length ≤ 17592186044416):bR Tryz.prog 235 [bA m,bA n] (bA (m + n)):=by
 refine bR.intro Tryz.func235 rfl Tryz.ntmps235 rfl (fun cx=>(ts (ro rfl (cQ cV) (eX (cK (wR (fun (p:Nat) (q:Nat)=>p + q = m + n ∧ (dg q).length ≤ (dg p).length ∧ (dg p).length ≤ 17592186044416) (fun (p:Nat) (q:Nat)=>[(0,bA p),(1,bA q)]) (fun (p:Nat) (q:Nat)=>[]) ?_ (fun p q ⟨hpq,hle,hlp⟩=>?_)))))))
 ·refine ts (rm rfl (ro rfl (dG U_56 (Ht rfl) aC) (rm rfl (ro rfl (dG U_56 (Ht rfl) aC) (ro rfl (gX (Ht rfl) (Ht rfl)) (eX (dQ (Ht rfl) (fun hb => ?_) (fun hb => ?_))))))))
  ·simp at hb
   refine cY (rm rfl (rm rfl (ra rfl (ra rfl (eX (cD (n,m) ⟨Nat.add_comm _ _,Nat.le_of_lt hb,hn⟩ (zS rfl) aY))))))
  ·simp at hb
   refine cU (cD (m,n) ⟨rfl,hb,hm⟩ (zS rfl) aY)
 ·refine ts (rm rfl (ro rfl (dG U_56 (Ht rfl) aC) (ro rfl (dV (Ht rfl) (cJ 1) z6) (rn rfl (gK (T := dD 0) (i := Tryz.t218) V_56 nZ rfl rfl (Ht rfl) rfl (fun _ => rfl) trivial (by show 4 * _ ≤ _; omega) zo) fun B19 => (ra rfl (eX (ts (ro rfl (cQ (cJ 0)) (eX (cK (ts (rm rfl (ro rfl (dG U_56 (Ht rfl) aC) (ro rfl (cX (cJ 0)) (eX (eG ?_))))))))))))))))
  refine nP (fun (k : Nat) (out : List Nat) (c : Nat) => Fw (dg p) (dg q) out k c) (fun (k : Nat) (out : List Nat) (c : Nat) => (dg p).length - k) (fun (k : Nat) (out : List Nat) (c : Nat) => [(0, bA p), (1, bA q), (5, Is (.slice (some ⟨B19, 0, none⟩) ((dg p).length + 1) ((dg p).length + 1))), (6, dD c), (21, NT .i64 (dg p).length), (22, NT .i64 k)]) (fun (k : Nat) (out : List Nat) (c : Nat) => [box B19 218 (out.map dD)]) 0 (List.replicate ((dg p).length + 1) 0) 0 (Fw.start _ _)
   (zS rfl) (aU (aA (sJ _)) aY) (fun k out c hS=>?_)
  refine ts (ro rfl (gX (Ht rfl) (Ht rfl)) (eX (cK (dQ (Ht rfl) (fun hb=>?_) (fun hb=>?_)))))
  ·simp at hb
   have hlen:=hS.len; have hcl:=hS.cle; have hxk:=cI (dC p) k; have hyk:=cI (dC q) k
   simp only [BB] at hxk hyk
   refine cU (cK (eG (ts (rm rfl (ra rfl (eX (ts (ro rfl (cQ (cJ 0)) (eX (cK (mG (fun (uu:Unit)=>True) (fun (uu:Unit)=>[(0,bA p),(1,bA q),(5,Is (.slice (some ⟨B19,0,none⟩) ((dg p).length + 1) ((dg p).length + 1))),(6,dD c),(7,NT .i64 k),(8,dD ((dg q).getD k 0)),(21,NT .i64 (dg p).length),(22,NT .i64 k)]) (fun (uu:Unit)=>[box B19 218 (out.map dD)]) ?_ (fun uu _=>?_))))))))))))
   ·refine ts (rm rfl (rm rfl (ro rfl (dG U_56 (Ht rfl) aC) (ro rfl (gX (Ht rfl) (Ht rfl)) (eX (dQ (Ht rfl) (fun hk2 => ?_) (fun hk2 => ?_)))))))
    ·simp at hk2
     refine cY (rm rfl (rm rfl (ro rfl (dZ U_56 Z_218 (Ht rfl) (Ht rfl) rfl (dY (cO zo))) (ro rfl (dJ A_218 Z_218 (Ht rfl)) (ra rfl (eX (cD () trivial (zS rfl) (dR.refl _))))))))
    ·simp at hk2
     refine cU (cD () trivial (aQ rfl (aQ rfl (aQ rfl (aQ rfl (aQ rfl (aZ rfl (lX (by simp [List.getD,List.getElem?_eq_none hk2])) (zS rfl))))))) (dR.refl _))
   ·refine cY (rm rfl (rm rfl (rm rfl (rm rfl (ro rfl (dZ U_56 Z_218 (Ht rfl) (Ht rfl) rfl (dY (cO zo))) (ro rfl (dJ A_218 Z_218 (Ht rfl)) (rm rfl (rm rfl (ro rfl (cZ Tryz.call269 (a1g hxk hyk zo) ⟨(Ht rfl), (Ht rfl), (Ht rfl), trivial⟩) (rm rfl (ro rfl (dK (Ht rfl) rfl) (ro rfl (dK (Ht rfl) rfl) (ro rfl (fY U_56 Z_218 (Ht rfl) (Ht rfl) rfl zo (by rw [Nat.mul_one, Nat.zero_add])) ?_)))))))))))))
    refine pX Z_218 (Ht rfl) (Ht rfl) (i:=0) rfl (by first | omega | (simp; omega)) rfl (ra rfl (eX (bL (cY (ro rfl (dV (Ht rfl) (cJ 1) z6) (rm rfl (eX (fU (k + 1,_,_) (hS.next (dC p) (dC q) hb) (by dsimp only; omega) (zS rfl) (aU (aA (lB _ _ _)) aY)))))))))
  ·simp at hb
   have hkl:k = (dg p).length:=Nat.le_antisymm hS.kle hb
   subst hkl
   have hlen:=hS.len; have hcl:=hS.cle
   refine gW rfl (ts (rm rfl (rm rfl (ro rfl (dG U_56 (Ht rfl) aC) (rm rfl (ro rfl (fY U_56 Z_218 (Ht rfl) (Ht rfl) rfl zo (by rw [Nat.mul_one,Nat.zero_add])) ?_))))))
   refine pX Z_218 (Ht rfl) (Ht rfl) (i:=0) rfl (by first | omega | (simp; omega)) rfl (eX (cK ?_))
   have hfin:=hS.fin hle
   refine gV (i:=0) (tt:=5) rfl rfl (tW (lB _ _ _) (by simp [hlen]) (Nat.le_refl _)) ?_
   refine cY (rm rfl (ro rfl (cZ K_237 (rU _ (kY hS.dig (by simp only [BB]; omega)) (by simp [hlen]; omega)) ⟨(Ht rfl),trivial⟩) ?_))
   refine ra rfl (eX (fW rfl (fX (eU rfl) ?_)))
   exact (gP (by rw [hfin,fD,fD]; exact hpq))
theorem a3v {m n:Nat} (hm:(dg m).length ≤ 17592186044416) (hnm:n ≤ m):bR Tryz.prog 236 [bA m,bA n] (bA (m - n)):=by
 have hle:=lN hnm
 refine bR.intro Tryz.func236 rfl Tryz.ntmps236 rfl (fun cx=>(ts (ro rfl (cQ cV) (eX (ts (rm rfl (ro rfl (dG U_56 (Ht rfl) aC) (rn rfl (gK (T:=dD 0) (i:=Tryz.t218) V_56 nZ rfl rfl (Ht rfl) rfl (fun _=>rfl) trivial (by show 4 * _ ≤ _; omega) zo) fun B11=>(ra rfl (eX (ts (ro rfl (cQ (cJ 0)) (eX (cK (ts (rm rfl (ro rfl (dG U_56 (Ht rfl) aC) (ro rfl (cX (cJ 0)) (eX (eG ?_))))))))))))))))))))
 refine nP (fun (k : Nat) (out : List Nat) (c : Nat) => Gf (dg m) (dg n) out k c) (fun (k : Nat) (out : List Nat) (c : Nat) => (dg m).length - k) (fun (k : Nat) (out : List Nat) (c : Nat) => [(0, bA m), (1, bA n), (5, Is (.slice (some ⟨B11, 0, none⟩) (dg m).length (dg m).length)), (6, dD c), (13, NT .i64 (dg m).length), (14, NT .i64 k)]) (fun (k : Nat) (out : List Nat) (c : Nat) => [box B11 218 (out.map dD)]) 0 (List.replicate (dg m).length 0) 0 (Gf.start _ _)
  (zS rfl) (aU (aA (sJ _)) aY) (fun k out c hS=>?_)
 refine ts (ro rfl (gX (Ht rfl) (Ht rfl)) (eX (cK (dQ (Ht rfl) (fun hb=>?_) (fun hb=>?_)))))
 ·simp at hb
  have hlen:=hS.len; have hcl:=hS.cle; have hxk:=cI (dC m) k; have hyk:=cI (dC n) k
  simp only [BB] at hxk hyk
  refine cU (cK (eG (ts (rm rfl (ra rfl (eX (ts (ro rfl (cQ (cJ 0)) (eX (cK (mG (fun (uu:Unit)=>True) (fun (uu:Unit)=>[(0,bA m),(1,bA n),(5,Is (.slice (some ⟨B11,0,none⟩) (dg m).length (dg m).length)),(6,dD c),(7,NT .i64 k),(8,dD ((dg n).getD k 0)),(13,NT .i64 (dg m).length),(14,NT .i64 k)]) (fun (uu:Unit)=>[box B11 218 (out.map dD)]) ?_ (fun uu _=>?_))))))))))))
  ·refine ts (rm rfl (rm rfl (ro rfl (dG U_56 (Ht rfl) aC) (ro rfl (gX (Ht rfl) (Ht rfl)) (eX (dQ (Ht rfl) (fun hk2 => ?_) (fun hk2 => ?_)))))))
   ·simp at hk2
    refine cY (rm rfl (rm rfl (ro rfl (dZ U_56 Z_218 (Ht rfl) (Ht rfl) rfl (dY (cO zo))) (ro rfl (dJ A_218 Z_218 (Ht rfl)) (ra rfl (eX (cD () trivial (zS rfl) (dR.refl _))))))))
   ·simp at hk2
    refine cU (cD () trivial (aQ rfl (aQ rfl (aQ rfl (aQ rfl (aQ rfl (aZ rfl (lX (by simp [List.getD,List.getElem?_eq_none hk2])) (zS rfl))))))) (dR.refl _))
  ·refine cY (rm rfl (rm rfl (rm rfl (rm rfl (ro rfl (dZ U_56 Z_218 (Ht rfl) (Ht rfl) rfl (dY (cO zo))) (ro rfl (dJ A_218 Z_218 (Ht rfl)) (rm rfl (rm rfl (ro rfl (cZ Tryz.call270 (a1s hxk hyk zo) ⟨(Ht rfl), (Ht rfl), (Ht rfl), trivial⟩) (rm rfl (ro rfl (dK (Ht rfl) rfl) (ro rfl (dK (Ht rfl) rfl) (ro rfl (fY U_56 Z_218 (Ht rfl) (Ht rfl) rfl zo (by rw [Nat.mul_one, Nat.zero_add])) ?_)))))))))))))
   refine pX Z_218 (Ht rfl) (Ht rfl) (i:=0) rfl (by first | omega | (simp; omega)) rfl (ra rfl (eX (bL (cY (ro rfl (dV (Ht rfl) (cJ 1) z6) (rm rfl (eX (fU (k + 1,_,_) (hS.next (dC m) (dC n) hb) (by dsimp only; omega) (zS rfl) (aU (aA (lB _ _ _)) aY)))))))))
 ·simp at hb
  have hkl:k = (dg m).length:=Nat.le_antisymm hS.kle hb
  subst hkl
  have hlen:=hS.len
  have hfin:=hS.fin (dC m) hle (by rw [fD,fD]; exact hnm)
  rw [fD,fD] at hfin
  refine gW rfl (gV (i:=0) (tt:=5) rfl rfl (tW rfl hlen.symm (Nat.le_refl _)) (ts (rm rfl (ro rfl (cZ K_237 (rU _ hS.dig zo) ⟨(Ht rfl),trivial⟩) (ra rfl (eX (fW rfl (fX (eU rfl) ?_))))))))
  exact (gP hfin)
theorem Ep {m n:Nat} (hm:(dg m).length ≤ 17592186044416) (hn:(dg n).length ≤ 17592186044416):bR Tryz.prog 154 [bA m,bA n] (bA (m * n)):=by
 refine bR.intro Tryz.func154 rfl Tryz.ntmps154 rfl (fun cx=>(ts (ro rfl (cQ cV) (eX (cK (ts (rm rfl (ro rfl (dG U_56 (Ht rfl) aC) (ro rfl (eB (Ht rfl) (cJ 0)) (rm rfl (fQ rfl rfl (eK rfl rfl (Ht rfl) (fun h=>cX (Ht rfl))) (fQ rfl rfl (eK rfl rfl (Ht rfl) (fun h=>dG U_56 (fJ rfl h) aC)) (fQ rfl rfl (eK rfl rfl (Ht rfl) (fun h=>eB (fJ rfl h) (cJ 0))) (ro rfl (jQ (Ht rfl) (fun h=>(fJ rfl h))) (eX (dQ (Ht rfl) (fun hb=>?_) (fun hb=>?_)))))))))))))))))
 ·simp [cC] at hb
  have h0 : m * n = 0 := by
   rcases hb with h | h <;> simp_all [yR]
  refine ts (ro rfl (cQ cV) (eX (fW rfl (fX (eU rfl) ?_))))
  exact (fun v V h=>by rw [h0]; exact oC v V h)
 ·clear hb
  refine cU (ts (rm rfl (ro rfl (dG U_56 (Ht rfl) aC) (rm rfl (ro rfl (dG U_56 (Ht rfl) aC) (ro rfl (dV (Ht rfl) (Ht rfl) z6) (rn rfl (gK (T:=dD 0) (i:=Tryz.t218) V_56 nZ rfl rfl (Ht rfl) rfl (fun _=>rfl) trivial (by show 4 * _ ≤ _; omega) zo) fun B24=>(ra rfl (eX (cK (ts (rm rfl (ro rfl (dG U_56 (Ht rfl) aC) (ro rfl (cX (cJ 0)) (eX (eG ?_))))))))))))))))
  refine fO (fun (i : Nat) (out : List Nat) => Fz (dg m) (dg n) out i) (fun (i : Nat) (out : List Nat) => (dg m).length - i) (fun (i : Nat) (out : List Nat) => [(0, bA m), (1, bA n), (5, Is (.slice (some ⟨B24, 0, none⟩) ((dg m).length + (dg n).length) ((dg m).length + (dg n).length))), (25, bA m), (26, NT .i64 (dg m).length), (27, NT .i64 i)]) (fun (i : Nat) (out : List Nat) => [box B24 218 (out.map dD)]) 0 (List.replicate ((dg m).length + (dg n).length) 0) (Fz.start _ _)
   (zS rfl) (aU (aA (sJ _)) aY) (fun i out hS=>?_)
  refine ts (ro rfl (gX (Ht rfl) (Ht rfl)) (eX (cK (dQ (Ht rfl) (fun hb=>?_) (fun hb=>?_)))))
  ·simp at hb
   have hxi:=cI (dC m) i
   simp only [BB] at hxi
   refine cU (cK (eG (ts (rm rfl (ro rfl (dZ U_56 Z_218 (Ht rfl) (Ht rfl) rfl (dY (cO zo))) (ro rfl (dJ A_218 Z_218 (Ht rfl)) (ra rfl (ra rfl (eX (ts (ro rfl (cQ (cJ 0)) (eX (cK (ts (rm rfl (ro rfl (dG U_56 (Ht rfl) aC) (ro rfl (cX (cJ 0)) (eX (eG ?_)))))))))))))))))))
   refine nP (fun (k : Nat) (out2 : List Nat) (c : Nat) => Mg (dg m) (dg n) out2 i k c) (fun (k : Nat) (out2 : List Nat) (c : Nat) => (dg n).length - k) (fun (k : Nat) (out2 : List Nat) (c : Nat) => [(0, bA m), (1, bA n), (5, Is (.slice (some ⟨B24, 0, none⟩) ((dg m).length + (dg n).length) ((dg m).length + (dg n).length))), (6, NT .i64 i), (7, dD ((dg m).getD i 0)), (8, NT .u64 c), (25, bA m), (26, NT .i64 (dg m).length), (27, NT .i64 i), (32, bA n), (33, NT .i64 (dg n).length), (34, NT .i64 k)]) (fun (k : Nat) (out2 : List Nat) (c : Nat) => [box B24 218 (out2.map dD)]) 0 out 0 (hS.row hb)
    (zS rfl) (dR.refl _) (fun k out2 c hR=>?_)
   refine ts (ro rfl (gX (Ht rfl) (Ht rfl)) (eX (cK (dQ (Ht rfl) (fun hk=>?_) (fun hk=>?_)))))
   ·simp at hk
    have hlen:=hR.len; have hcl:=hR.clt; have hyk:=cI (dC n) k; have hok:=cI hR.dig (i + k)
    have hbnd:=yY (cI (dC m) i) (cI (dC n) k) (cI hR.dig (i + k)) hR.clt
    simp only [BB] at hcl hyk hok hbnd
    refine cU (cK (eG (ts (rm rfl (ro rfl (dZ U_56 Z_218 (Ht rfl) (Ht rfl) rfl (dY (cO zo))) (ro rfl (dJ A_218 Z_218 (Ht rfl)) (ra rfl (ra rfl (eX (ts (rm rfl (rm rfl (ro rfl (gZ U_218 U_263 (Ht rfl) z7) (rm rfl (ro rfl (gZ U_218 U_263 (Ht rfl) z7) (ro rfl (qN (Ht rfl) (Ht rfl) (by show _ < 18446744073709551616; omega)) ?_))))))))))))))))
    refine rm rfl (rm rfl (rm rfl (ro rfl (dV (Ht rfl) (Ht rfl) z6) (ro rfl (fY U_56 Z_218 (Ht rfl) (Ht rfl) rfl zo (by rw [Nat.mul_one,Nat.zero_add])) ?_))))
    refine ro rfl (eY A_218 Z_218 (Ht rfl) (i:=0) rfl (dY (cO zo))) (ro rfl (gZ U_218 U_263 (Ht rfl) z7) (ro rfl (dV (Ht rfl) (Ht rfl) z7) (ro rfl (dV (Ht rfl) (Ht rfl) z7) (ra rfl (eX (ts (rm rfl (rm rfl (rm rfl (ro rfl (dV (Ht rfl) (Ht rfl) z6) ?_))))))))))
    refine rm rfl (ro rfl (lG rfl U_263 U_218 (Ht rfl)) (ro rfl (fY U_56 Z_218 (Ht rfl) (Ht rfl) rfl zo (by rw [Nat.mul_one,Nat.zero_add])) ?_))
    refine pX Z_218 (Ht rfl) (Ht rfl) (i:=0) rfl (by first | omega | (simp; omega)) rfl (eX (cY (rm rfl (ro rfl (jR (Ht rfl) (cJ 32) (by decide)) (ra rfl (eX (bL (cY (ro rfl (dV (Ht rfl) (cJ 1) z6) (rm rfl (eX (fU (k + 1,_,_) (hR.next (dC m) (dC n) hk rfl) (by dsimp only; omega) (zS rfl) (aU (aA (lB _ _ _)) aY)))))))))))))
   ·simp at hk
    have hkl:k = (dg n).length:=Nat.le_antisymm hR.kle hk
    subst hkl
    have hlen:=hR.len; have hcl:=hR.clt
    simp only [BB] at hcl
    refine gW rfl (cY (rm rfl (rm rfl (rm rfl (ro rfl (dG U_56 (Ht rfl) aC) (ro rfl (dV (Ht rfl) (Ht rfl) z6) (rm rfl (ro rfl (gZ U_263 U_218 (Ht rfl) (by show _ < 4294967296; first | omega | (simp only [oA]; omega))) (ro rfl (fY U_56 Z_218 (Ht rfl) (Ht rfl) rfl zo (by rw [Nat.mul_one,Nat.zero_add])) ?_)))))))))
    refine pX Z_218 (Ht rfl) (Ht rfl) (i:=0) rfl (by first | omega | (simp; omega)) rfl (eX (bL (cY (ro rfl (dV (Ht rfl) (cJ 1) z6) (rm rfl (eX (fU (i + 1,_) (hR.fin) (by dsimp only; omega) (zS rfl) (aU (aA (lB _ _ _)) aY))))))))
  ·simp at hb
   have hkl:i = (dg m).length:=Nat.le_antisymm hS.ile hb
   subst hkl
   have hlen:=hS.len
   have hfin:=hS.fin
   rw [fD,fD] at hfin
   refine gW rfl (gV (i:=0) (tt:=5) rfl rfl (tW rfl hlen.symm (Nat.le_refl _)) (ts (rm rfl (ro rfl (cZ K_237 (rU _ hS.dig zo) ⟨(Ht rfl),trivial⟩) (ra rfl (eX (fW rfl (fX (eU rfl) ?_))))))))
   exact (gP hfin)
end
section
open Go Go.RowKit
theorem a1m {v:Nat} (hv:v < 4294967296):bR Tryz.prog 284 [dD v] (NT .i64 (bl v)):=by
 refine bR.intro Tryz.func284 rfl Tryz.ntmps284 rfl (fun cx=>(ts (ro rfl (cQ (cJ 0)) (eX (cK (wR (fun (q:Nat) (x:Nat)=>bl v = q + bl x ∧ x < 65536 ∧ q ≤ 16) (fun (q:Nat) (x:Nat)=>[(0,dD x),(2,NT .i64 q)]) (fun (q:Nat) (x:Nat)=>[]) ?_ (fun q x ⟨hq1,hq2,hq3⟩=>?_)))))))
 ·refine ts (rm rfl (ro rfl (sH (Ht rfl) (cJ 65536)) (eX (dQ (Ht rfl) (fun hb => ?_) (fun hb => ?_)))))
  ·simp at hb
   refine ts (rm rfl (ro rfl (jR (Ht rfl) (cJ 16) (by decide)) (ra rfl (eX (cY (ro rfl (cQ (cJ 16)) (eX (cD (16,v / 2 ^ 16) ⟨a6u hb,by dsimp only; omega,Nat.le_refl _⟩ (zS rfl) aY))))))))
  ·simp at hb
   refine cU (cD (0,v) ⟨(Nat.zero_add _).symm,hb,by dsimp only; omega⟩ (zS rfl) aY)
 ·refine cK (wR (fun (r : Nat) (z : Nat) => bl v = r + bl z ∧ z < 256 ∧ r ≤ 24) (fun (r : Nat) (z : Nat) => [(0, dD z), (2, NT .i64 r)]) (fun (r : Nat) (z : Nat) => []) ?_ (fun r z ⟨hr1, hr2, hr3⟩ => ?_))
  ·refine ts (rm rfl (ro rfl (sH (Ht rfl) (cJ 256)) (eX (dQ (Ht rfl) (fun hb => ?_) (fun hb => ?_)))))
   ·simp at hb
    refine ts (rm rfl (ro rfl (jR (Ht rfl) (cJ 8) (by decide)) (ra rfl (eX (cY (rm rfl (ro rfl (dV (Ht rfl) (cJ 8) z6) (ra rfl (eX (cD (q + 8,x / 2 ^ 8) ⟨by have:=bl8 hb; dsimp only; omega,by dsimp only; omega,by dsimp only; omega⟩ (zS rfl) aY))))))))))
   ·simp at hb
    refine cU (cD (q,x) ⟨hq1,hb,by dsimp only; omega⟩ (zS rfl) aY)
  ·have hbl := tL (k := 8) hr2
   refine ts (rm rfl (rm rfl (ro rfl (gZ U_218 U_5 (Ht rfl) (by show _ < 256; first | omega | (simp only [oA]; omega))) (ro rfl (a2K Tryz.runUnderlying9 cV (Ht rfl) (a6A hr2 (by kernel_rfl))) (ro rfl (gZ U_5 U_3 (Ht rfl) z6) (ro rfl (dV (Ht rfl) (Ht rfl) z6) (ra rfl (eX (fW rfl (fX (eU rfl) ?_))))))))))
   exact (lX zo)
theorem a4a {v:Nat} (hv:v < 4294967296):bR Tryz.prog 265 [dD v] (NT .i64 (32 - bl v)):=by
 refine bR.intro Tryz.func265 rfl Tryz.ntmps265 rfl (fun cx=>(ts (ro rfl (cQ (cJ 0)) (eX (ts (rm rfl (ro rfl (cZ Tryz.call284 (a1m hv) ⟨(Ht rfl),trivial⟩) (ro rfl (dW (cJ 32) (Ht rfl) (tL hv) z6) (ra rfl (eX ?_))))))))))
 exact fW rfl (eU rfl)
theorem a1h {hi lo y:Nat} (hy:hi < y) (hl:lo < BB) (hyb:y < BB):bR Tryz.prog 283 [dD hi,dD lo,dD y] (eD [dD ((hi * BB + lo) / y),dD ((hi * BB + lo) % y)]):=by
 have hq:=Vi hy hl; have hm:=Nat.mod_lt (hi * BB + lo) (by omega:y > 0); have hz:hi * BB + lo < 18446744073709551616:=by simp only [BB] at *; omega
 have hsh : hi * 2 ^ 32 < 18446744073709551616 := by
  have h1:hi < BB:=by omega
  show hi * BB < _
  simp only [BB] at h1 ⊢; omega
 refine bR.intro Tryz.func283 rfl Tryz.ntmps283 rfl (fun cx=>(ts (ro rfl (cQ (cJ 0)) (ro rfl (cQ (cJ 0)) (eX (cK (ts (rm rfl (ro rfl (kN (Ht rfl) (cJ 0)) (rm rfl (fQ rfl rfl (eK rfl rfl (Ht rfl) (fun h=>cX (Ht rfl))) (fQ rfl rfl (eK rfl rfl (Ht rfl) (fun h=>cX (Ht rfl))) (fQ rfl rfl (eK rfl rfl (Ht rfl) (fun h=>uZ (fJ rfl h) (fJ rfl h))) (ro rfl (fC (Ht rfl) (fun h=>(fJ rfl h))) (eX (nO (Ht rfl) (by simp; omega) ?_))))))))))))))))
 have hl2:lo < 18446744073709551616:=by simp only [BB] at hl; omega
 have hy2:y < 18446744073709551616:=by simp only [BB] at hyb; omega
 refine cU (ts (rm rfl (ro rfl (gZ U_218 U_263 (Ht rfl) (by show _ < 18446744073709551616; simp only [BB] at *; omega)) (ro rfl (xR (Ht rfl) (cJ 32) (by decide) hsh) (rm rfl (ro rfl (gZ U_218 U_263 (Ht rfl) (by show _ < 18446744073709551616; simp only [BB] at *; omega)) (ro rfl (aS.nat (zB rfl (Ht rfl) (Ht rfl) z7 z7) (Ih hl)) (ra rfl (eX ?_)))))))))
 refine cK (fZ (m:=11) (dp 8 rfl (cX (Ht rfl)) (dp 2 rfl (cX (Ht rfl)) (dq 24 1 rfl (gZ U_218 U_263 (Ht rfl) (by show _ < 18446744073709551616; simp only [BB] at *; omega)) (cP 23 0 25 2 rfl (xP (Ht rfl) (Ht rfl) zo (by show _ < 18446744073709551616; exact hz)) (dq 26 3 rfl (gZ U_263 U_218 (Ht rfl) (by show _ < 4294967296; exact hq)) (dp 8 rfl (cX (Ht rfl)) (dp 2 rfl (cX (Ht rfl)) (dq 29 6 rfl (gZ U_218 U_263 (Ht rfl) (by show _ < 18446744073709551616; simp only [BB] at *; omega)) ?_)))))))))
 refine cP 28 5 30 7 rfl (xQ (Ht rfl) (Ht rfl) zo) (dq 31 8 rfl (gZ U_263 U_218 (Ht rfl) (by show _ < 4294967296; simp only [BB] at *; omega)) (dq 27 4 rfl (cQ (Ht rfl)) (fV bC rfl (by kernel_rfl) (zF (zF (aJ (aJ (aJ (aV (ra rfl (eX ?_)))))))))))
 exact bN rfl (eU rfl) (eU rfl)
theorem a3u {m k:Nat} (hm:(dg m).length ≤ 17592186044416) (hk:k ≤ 562949953421312):bR Tryz.prog 266 [bA m,NT .i64 k] (bA (m * 2 ^ k)):=by
 refine bR.intro Tryz.func266 rfl Tryz.ntmps266 rfl (fun cx=>(ts (ro rfl (cQ cV) (eX (cK (ts (rm rfl (ro rfl (dG U_56 (Ht rfl) aC) (ro rfl (eB (Ht rfl) (cJ 0)) (rm rfl (fQ rfl rfl (eK rfl rfl (Ht rfl) (fun h=>cX (Ht rfl))) (fQ rfl rfl (eK rfl rfl (Ht rfl) (fun h=>eB (fJ rfl h) (cJ 0))) (ro rfl (jQ (Ht rfl) (fun h=>(fJ rfl h))) (eX (dQ (Ht rfl) (fun hb=>?_) (fun hb=>?_))))))))))))))))
 ·simp [cC] at hb
  have h0 : m * 2 ^ k = m := by
   rcases hb with h | h
   ·simp_all [yR]
   ·rw [h,Nat.pow_zero,Nat.mul_one]
  refine ts (rm rfl (ra rfl (eX (fW rfl (fX (eU rfl) ?_)))))
  exact (gP h0.symm)
 ·clear hb
  have hr:=Nat.mod_lt k (by decide:32 > 0)
  refine cU (ts (rm rfl (ro rfl (xP (Ht rfl) (cJ 32) zo z6) (rm rfl (ro rfl (xQ (Ht rfl) (cJ 32) zo) (ro rfl (gZ U_3 U_264 (Ht rfl) z7) (ra rfl (ra rfl (eX (ts (rm rfl (ro rfl (dG U_56 (Ht rfl) aC) (rm rfl (ro rfl (dV (Ht rfl) (Ht rfl) z6) (ro rfl (dV (Ht rfl) (cJ 1) z6) ?_)))))))))))))))
  refine rn rfl (gK (T:=dD 0) (i:=Tryz.t218) V_56 nZ rfl rfl (Ht rfl) rfl (fun _=>rfl) trivial (by show 4 * _ ≤ _; omega) zo) fun B29=>ra rfl (eX (cK (ts (rm rfl (ro rfl (dG U_56 (Ht rfl) aC) (ro rfl (cX (cJ 0)) (eX (eG ?_))))))))
  refine fO (fun (i : Nat) (out : List Nat) => Gd (dg m) (k / 32) (k % 32) out i) (fun (i : Nat) (out : List Nat) => (dg m).length - i) (fun (i : Nat) (out : List Nat) => [(5, NT .i64 (k / 32)), (6, NT .u64 (k % 32)), (7, Is (.slice (some ⟨B29, 0, none⟩) ((dg m).length + k / 32 + 1) ((dg m).length + k / 32 + 1))), (30, bA m), (31, NT .i64 (dg m).length), (32, NT .i64 i)]) (fun (i : Nat) (out : List Nat) => [box B29 218 (out.map dD)]) 0 (List.replicate ((dg m).length + k / 32 + 1) 0) (Gd.start _ _ _)
   (zS rfl) (aU (aA (sJ _)) aY) (fun i out hS=>?_)
  refine ts (ro rfl (gX (Ht rfl) (Ht rfl)) (eX (cK (dQ (Ht rfl) (fun hb=>?_) (fun hb=>?_)))))
  ·simp at hb
   have hlen:=hS.len; have hxi:=cI (dC m) i; have hok:=cI hS.dig (i + k / 32)
   have hv:=Vh hxi hr
   have hd:(dg m).getD i 0 * 2 ^ (k % 32) / 2 ^ 32 < 4294967296:=Nat.div_lt_of_lt_mul hv
   simp only [BB] at hxi hok
   refine cU (cK (eG (ts (rm rfl (ro rfl (dZ U_56 Z_218 (Ht rfl) (Ht rfl) rfl (dY (cO zo))) (ro rfl (dJ A_218 Z_218 (Ht rfl)) (ra rfl (ra rfl (eX (ts (rm rfl (ro rfl (gZ U_218 U_263 (Ht rfl) z7) (rm rfl (ro rfl (xR (Ht rfl) (Ht rfl) (by show _ ≤ _; simp [IntKind.bits]; omega) (by show _ < 18446744073709551616; exact hv)) (ra rfl (eX (ts (rm rfl (rm rfl (rm rfl (ro rfl (dV (Ht rfl) (Ht rfl) z6) ?_)))))))))))))))))))))
   refine ro rfl (fY U_56 Z_218 (Ht rfl) (Ht rfl) rfl zo (by rw [Nat.mul_one,Nat.zero_add])) ?_
   refine ro rfl (eY A_218 Z_218 (Ht rfl) (i:=0) rfl (dY (cO zo))) (rm rfl (ro rfl (lG rfl U_263 U_218 (Ht rfl)) (ro rfl (zB rfl (Ht rfl) (Ht rfl) (by show _ < 4294967296; omega) (by show _ % 4294967296 < 4294967296; omega)) (ro rfl (fY U_56 Z_218 (Ht rfl) (Ht rfl) rfl zo (by rw [Nat.mul_one,Nat.zero_add])) ?_))))
   refine pX Z_218 (Ht rfl) (Ht rfl) (i:=0) rfl (by first | omega | (simp; omega)) rfl (eX (cY (rm rfl (rm rfl (rm rfl (ro rfl (dV (Ht rfl) (Ht rfl) z6) (ro rfl (dV (Ht rfl) (cJ 1) z6) (rm rfl (ro rfl (jR (Ht rfl) (cJ 32) (by decide)) (ro rfl (gZ U_263 U_218 (Ht rfl) (by show _ < 4294967296; exact hd)) (ro rfl (fY U_56 Z_218 (Ht rfl) (Ht rfl) rfl zo (by rw [Nat.mul_one,Nat.zero_add])) ?_)))))))))))
   refine pX Z_218 (Ht rfl) (Ht rfl) (i:=0) rfl (by first | omega | (simp; omega)) rfl (eX (bL (cY (ro rfl (dV (Ht rfl) (cJ 1) z6) (rm rfl (eX (fU (i + 1,_) (hS.next (dC m) hr hb rfl rfl) (by dsimp only; omega) (zS rfl) (aU (aA (a0z _ _ _ _ _)) aY))))))))
  ·simp at hb
   have hkl:i = (dg m).length:=Nat.le_antisymm hS.kle hb
   subst hkl
   have hlen:=hS.len
   have hfin:=hS.fin
   rw [fD,uI] at hfin
   refine gW rfl (gV (i:=0) (tt:=7) rfl rfl (tW rfl hlen.symm (Nat.le_refl _)) (ts (rm rfl (ro rfl (cZ K_237 (rU _ hS.dig zo) ⟨(Ht rfl),trivial⟩) (ra rfl (eX (fW rfl (fX (eU rfl) ?_))))))))
   exact (gP hfin)
theorem a5U {m k:Nat} (hm:(dg m).length ≤ 17592186044416) (hk:k ≤ 562949953421312):bR Tryz.prog 268 [bA m,NT .i64 k] (bA (m / 2 ^ k)):=by
 refine bR.intro Tryz.func268 rfl Tryz.ntmps268 rfl (fun cx=>?_)
 have hr:=Nat.mod_lt k (by decide:32 > 0)
 refine ts (ro rfl (cQ cV) (eX (ts (rm rfl (ro rfl (xP (Ht rfl) (cJ 32) zo z6) (rm rfl (ro rfl (xQ (Ht rfl) (cJ 32) zo) (ro rfl (gZ U_3 U_264 (Ht rfl) z7) (ra rfl (ra rfl (eX (cK (ts (rm rfl (rm rfl (ro rfl (dG U_56 (Ht rfl) aC) (ro rfl (sH (Ht rfl) (Ht rfl)) (eX (dQ (Ht rfl) (fun hb=>?_) (fun hb=>?_))))))))))))))))))))
 ·simp at hb
  have h0:=a0C (dC m) hb (r:=k % 32)
  rw [fD,uI] at h0
  refine ts (ro rfl (cQ cV) (eX (fW rfl (fX (eU rfl) ?_))))
  exact (fun v V h=>gP h0.symm v V (oC v V h))
 ·simp at hb
  refine cU (ts (rm rfl (ro rfl (dG U_56 (Ht rfl) aC) (rm rfl (ro rfl (dW (Ht rfl) (Ht rfl) zo z6) (rn rfl (gK (T:=dD 0) (i:=Tryz.t218) V_56 nZ rfl rfl (Ht rfl) rfl (fun _=>rfl) trivial (by show 4 * _ ≤ _; omega) zo) fun B23=>(ra rfl (eX (cK (ts (rm rfl (ro rfl (eT U_56 (Ht rfl)) (ro rfl (cX (cJ 0)) (eX (eG ?_)))))))))))))))
  refine fO (fun (i : Nat) (out : List Nat) => Ge (dg m) (k / 32) (k % 32) out i) (fun (i : Nat) (out : List Nat) => (dg m).length - i) (fun (i : Nat) (out : List Nat) => [(0, bA m), (5, NT .i64 (k / 32)), (6, NT .u64 (k % 32)), (7, Is (.slice (some ⟨B23, 0, none⟩) ((dg m).length - k / 32) ((dg m).length - k / 32))), (25, NT .i64 ((dg m).length - k / 32 : Nat)), (26, NT .i64 i)]) (fun (i : Nat) (out : List Nat) => [box B23 218 (out.map dD)]) 0 (List.replicate ((dg m).length - k / 32) 0) (Ge.start _ _ _)
   (zS rfl) (aU (aA (sJ _)) aY) (fun i out hS=>?_)
  refine ts (ro rfl (gX (Ht rfl) (Ht rfl)) (eX (cK (dQ (Ht rfl) (fun hb=>?_) (fun hb=>?_)))))
  ·simp at hb
   have hlen:=hS.len; have hx0:=cI (dC m) (i + k / 32); have hx1:=cI (dC m) (i + k / 32 + 1)
   have hio:i < out.length:=by omega
   simp only [BB] at hx0 hx1
   refine cU (cK (eG (ts (rm rfl (ra rfl (eX (ts (rm rfl (rm rfl (rm rfl (ro rfl (dV (Ht rfl) (Ht rfl) z6) (ro rfl (dZ U_56 Z_218 (Ht rfl) (Ht rfl) rfl (dY (cO zo))) (ro rfl (dJ A_218 Z_218 (Ht rfl)) (ro rfl (gZ U_218 U_263 (Ht rfl) z7) (ra rfl (eX (cK (mG (fun (v:Nat)=>v = (dg m).getD (i + k / 32) 0 + BB * (dg m).getD (i + k / 32 + 1) 0) (fun (v:Nat)=>[(0,bA m),(5,NT .i64 (k / 32)),(6,NT .u64 (k % 32)),(7,Is (.slice (some ⟨B23,0,none⟩) ((dg m).length - k / 32) ((dg m).length - k / 32))),(8,NT .i64 i),(9,NT .u64 v),(25,NT .i64 ((dg m).length - k / 32:Nat)),(26,NT .i64 i)]) (fun (v:Nat)=>[box B23 218 (out.map dD)]) ?_ (fun v hv=>?_)))))))))))))))))))
   ·refine ts (rm rfl (rm rfl (ro rfl (dV (Ht rfl) (Ht rfl) z6) (ro rfl (dV (Ht rfl) (cJ 1) z6) (rm rfl (ro rfl (dG U_56 (Ht rfl) aC) (ro rfl (gX (Ht rfl) (Ht rfl)) (eX (dQ (Ht rfl) (fun hk2 => ?_) (fun hk2 => ?_))))))))))
    ·simp at hk2
     refine cY (rm rfl (rm rfl (rm rfl (rm rfl (ro rfl (dV (Ht rfl) (Ht rfl) z6) (ro rfl (dV (Ht rfl) (cJ 1) z6) (ro rfl (dZ U_56 Z_218 (Ht rfl) (Ht rfl) rfl (dY (cO zo))) (ro rfl (dJ A_218 Z_218 (Ht rfl)) (ro rfl (gZ U_218 U_263 (Ht rfl) z7) (ro rfl (xR (Ht rfl) (cJ 32) (by decide) (by show _ < 18446744073709551616; omega)) ?_))))))))))
     refine ro rfl (aS.nat (zB rfl (Ht rfl) (Ht rfl) z7 z7) (a2O hx0)) (ra rfl (eX (cD ((dg m).getD (i + k / 32) 0 + BB * (dg m).getD (i + k / 32 + 1) 0) rfl (zS rfl) (dR.refl _))))
    ·simp at hk2
     refine cU (cD ((dg m).getD (i + k / 32) 0) (by simp [List.getD,List.getElem?_eq_none hk2]) (zS rfl) (dR.refl _))
   ·refine cY (rm rfl (rm rfl (rm rfl (rm rfl (ro rfl (jR (Ht rfl) (Ht rfl) (by show _ ≤ 64; omega)) (ro rfl (lG rfl U_263 U_218 (Ht rfl)) (ro rfl (fY U_56 Z_218 (Ht rfl) (Ht rfl) rfl zo (by rw [Nat.mul_one, Nat.zero_add])) ?_)))))))
    refine pX Z_218 (Ht rfl) (Ht rfl) (i:=0) rfl (by first | omega | (simp; omega)) rfl (eX (bL (cY (ro rfl (dV (Ht rfl) (cJ 1) z6) (rm rfl (eX (fU (i + 1,_) (hS.next (dC m) hr hio (by rw [hv]; rfl)) (by dsimp only; omega) (zS rfl) (aU (aA (lB _ _ _)) aY))))))))
  ·simp at hb
   have hlen:=hS.len
   have hkl:i = out.length:=Nat.le_antisymm hS.kle zo
   subst hkl
   have hfin:=hS.fin (dC m) zo
   rw [fD,uI] at hfin
   refine gW rfl (gV (i:=0) (tt:=7) rfl rfl (tW rfl hlen.symm (Nat.le_refl _)) (ts (rm rfl (ro rfl (cZ K_237 (rU _ hS.dig zo) ⟨(Ht rfl),trivial⟩) (ra rfl (eX (fW rfl (fX (eU rfl) ?_))))))))
   exact (gP hfin)
theorem Px {m y:Nat} (hm:(dg m).length ≤ 17592186044416) (hy:0 < y) (hyb:y < BB):bR Tryz.prog 264 [bA m,dD y] (eD [bA (m / y),dD (m % y)]):=by
 refine bR.intro Tryz.func264 rfl Tryz.ntmps264 rfl (fun cx=>(ts (ro rfl (cQ cV) (ro rfl (cQ (cJ 0)) (eX (ts (rm rfl (ro rfl (dG U_56 (Ht rfl) aC) (rn rfl (gK (T:=dD 0) (i:=Tryz.t218) V_56 nZ rfl rfl (Ht rfl) rfl (fun _=>rfl) trivial (by show 4 * _ ≤ _; omega) zo) fun B11=>(ra rfl (eX (ts (ro rfl (cQ (cJ 0)) (eX (cK (ts (rm rfl (ro rfl (dG U_56 (Ht rfl) aC) (ro rfl (jE (Ht rfl) cV (Du zo)) (ra rfl (eX (eG ?_))))))))))))))))))))))
 refine nP (fun (k : Nat) (out : List Nat) (r : Nat) => rP (dg m) y out k r) (fun (k : Nat) (out : List Nat) (r : Nat) => k) (fun (k : Nat) (out : List Nat) (r : Nat) => [(0, bA m), (1, dD y), (6, Is (.slice (some ⟨B11, 0, none⟩) (dg m).length (dg m).length)), (7, dD r), (8, aP .i64 ((k : Int) - 1))]) (fun (k : Nat) (out : List Nat) (r : Nat) => [box B11 218 (out.map dD)]) (dg m).length (List.replicate (dg m).length 0) 0 (rP.start _ hy)
  (zS rfl) (aU (aA (sJ _)) aY) (fun k out r hS=>?_)
 refine cK (ts (rm rfl (ro rfl (nA (Ht rfl) cV) (eX (dQ (Ht rfl) (fun hb=>?_) (fun hb=>?_))))))
 ·simp at hb
  have hlen:=hS.len; have hkl:=hS.kle
  refine cU (cK (eG (cY (rm rfl (rm rfl (rm rfl (rm rfl (rm rfl (ro rfl (dZ U_56 Z_218 (Ht rfl) (Ht rfl) (show ((k:Int) - 1) = ((k - 1:Nat):Int) by omega) (dY (cO zo))) (ro rfl (dJ A_218 Z_218 (Ht rfl)) (rm rfl (ro rfl (cZ Tryz.call283 (a1h hS.rlt (cI (dC m) (k - 1)) hyb) ⟨(Ht rfl),(Ht rfl),(Ht rfl),trivial⟩) (rm rfl (ro rfl (dK (Ht rfl) rfl) (ro rfl (dK (Ht rfl) rfl) (ro rfl (fY U_56 Z_218 (Ht rfl) (Ht rfl) (show ((k:Int) - 1) = ((k - 1:Nat):Int) by omega) zo (by rw [Nat.mul_one,Nat.zero_add])) ?_))))))))))))))))
  refine pX Z_218 (Ht rfl) (Ht rfl) (i:=0) rfl (by first | omega | (simp; omega)) rfl (ra rfl (eX (bL (cY (rm rfl (ro rfl (jE (Ht rfl) cV (Du zo)) (ra rfl (eX (fU (k - 1,_,_) (hS.next (dC m) zo rfl) (by dsimp only; omega) (aQ rfl (aQ rfl (aQ rfl (aQ rfl (aZ rfl (bE zo) aX))))) (aU (aA (lB _ _ _)) aY))))))))))
 ·simp at hb
  have hk0:k = 0:=by omega
  subst hk0
  have hlen:=hS.len
  have hfin:=hS.fin
  rw [fD] at hfin
  refine gW rfl (gV (i:=0) (tt:=6) rfl rfl (tW rfl hlen.symm (Nat.le_refl _)) (ts (rm rfl (ro rfl (cZ K_237 (rU _ hS.dig zo) ⟨(Ht rfl),trivial⟩) (rm rfl (ra rfl (ra rfl (eX (bN rfl (fX (eU rfl) ?_) (fX (eU rfl) ?_))))))))))
  ·exact (gP hfin.1)
  ·exact (lX hfin.2)
end
section
open Go Go.RowKit
theorem a4c {us vs : List Nat} {q j B l : Nat} (hul : us.length = l) (hu : lC us) (hv : lC vs) (hq : q < BB) (hl : j + vs.length < us.length) (hL : us.length ≤ 1152921504606846976) :
    fN Tryz.prog 267 [Is (.slice (some ⟨B,0,none⟩) l l),Dv vs,NT .u64 q,NT .i64 j] [box B 218 (us.map dD)] (List Nat × Bool) (fun x=>aH x.2) (fun x=>[box B 218 (x.1.map dD)]) (fun x=>Jc us vs q j x.1 x.2):=by
 refine fN.intro Tryz.func267 rfl Tryz.ntmps267 rfl (fun cx Z=>(ts (ro rfl (cQ cV) (eX (ts (ro rfl (cQ (cJ 0)) (ro rfl (cQ (cJ 0)) (eX (cK (ts (rm rfl (ro rfl (dG U_56 (Ht rfl) aC) (ro rfl (cX (cJ 0)) (eX (eG ?_)))))))))))))))
 refine Gg (fun (i : Nat) (out : List Nat) (c : Nat) (b : Nat) => wS us vs q j out i c b) (fun (i : Nat) (out : List Nat) (c : Nat) (b : Nat) => vs.length - i) (fun (i : Nat) (out : List Nat) (c : Nat) (b : Nat) => [(0, Is (.slice (some ⟨B, 0, none⟩) l l)), (1, Dv vs), (2, NT .u64 q), (3, NT .i64 j), (9, NT .u64 c), (10, NT .u64 b), (16, Dv vs), (17, NT .i64 vs.length), (18, NT .i64 i)]) (fun (i : Nat) (out : List Nat) (c : Nat) (b : Nat) => [Z, box B 218 (out.map dD)]) 0 us 0 0 (wS.start hu vs q j)
  (zS rfl) (dR.refl _) (fun i out c b hS=>?_)
 refine ts (ro rfl (gX (Ht rfl) (Ht rfl)) (eX (cK (dQ (Ht rfl) (fun hb=>?_) (fun hb=>?_)))))
 ·simp at hb
  have hlen:=hS.len; have hcl:=hS.clt; have hbl:=hS.ble; have hvi:=cI hv i; have hok:=cI hS.dig (i + j)
  have hp:=a0P hq hvi hS.clt
  simp only [BB] at hp hcl hvi hok
  obtain ⟨p,hp1⟩:∃ p,p = q * vs.getD i 0 + c:=⟨_,rfl⟩
  obtain ⟨x,hx1⟩:∃ x,x = ((out.getD (i + j) 0 + 18446744073709551616 - p % 4294967296) % 18446744073709551616 + 18446744073709551616 - b) % 18446744073709551616:=⟨_,rfl⟩
  refine cU (cK (eG (ts (rm rfl (ro rfl (dZ U_56 Z_218 (Ht rfl) (Ht rfl) rfl (dY (cO zo))) (ro rfl (dJ A_218 Z_218 (Ht rfl)) (ra rfl (ra rfl (eX (ts (rm rfl (rm rfl (ro rfl (gZ U_218 U_263 (Ht rfl) z7) (ro rfl (qN (Ht rfl) (Ht rfl) z7) (rm rfl (ro rfl (aS.nat (dV (Ht rfl) (Ht rfl) z7) hp1.symm) ?_))))))))))))))))
  refine ra rfl (eX (ts (rm rfl (ro rfl (jR (Ht rfl) (cJ 32) (by decide)) (ra rfl (eX (ts (rm rfl (rm rfl (rm rfl (ro rfl (dV (Ht rfl) (Ht rfl) z6) (ro rfl (fY U_56 Z_218 (Ht rfl) (Ht rfl) rfl zo (by rw [Nat.mul_one,Nat.zero_add])) ?_))))))))))))
  refine ro rfl (eY A_218 Z_218 (Ht rfl) (i:=1) rfl (dY (cO zo))) (ro rfl (gZ U_218 U_263 (Ht rfl) z7) (rm rfl (ro rfl (lG rfl U_263 U_218 (Ht rfl)) (ro rfl (gZ U_218 U_263 (Ht rfl) z7) (ro rfl (vB rfl (Ht rfl) (Ht rfl) (by show _ ≤ 18446744073709551616; first | omega | (simp only [oA]; omega))) ?_)))))
  refine rm rfl (ro rfl (aS.nat (vB rfl (Ht rfl) (Ht rfl) (by show _ ≤ 18446744073709551616; first | omega | (simp only [oA]; omega))) hx1.symm) (ra rfl (eX (ts (rm rfl (rm rfl (rm rfl (ro rfl (dV (Ht rfl) (Ht rfl) z6) (rm rfl (ro rfl (lG rfl U_263 U_218 (Ht rfl)) (ro rfl (fY U_56 Z_218 (Ht rfl) (Ht rfl) rfl zo (by rw [Nat.mul_one,Nat.zero_add])) ?_)))))))))))
  refine pX Z_218 (Ht rfl) (Ht rfl) (i:=1) rfl (by first | omega | (simp; omega)) rfl (eX (cY (rm rfl (ro rfl (jR (Ht rfl) (cJ 63) (by decide)) (ra rfl (eX (bL (cY (ro rfl (dV (Ht rfl) (cJ 1) z6) (rm rfl (eX (fU (i + 1,_,_,_) (hS.next hu hv hq hb hl hp1 (Ou hok hbl hx1) rfl) (by dsimp only; omega) (zS rfl) (aU (fun _ _ _ h=>h) (aU (aA (lB _ _ _)) aY))))))))))))))
 ·simp at hb
  have hkl:i = vs.length:=Nat.le_antisymm hS.ile hb
  subst hkl
  have hlen:=hS.len; have hcl:=hS.clt; have hbl:=hS.ble; have hok:=cI hS.dig (j + vs.length)
  obtain ⟨x,hx1⟩:∃ x,x = ((out.getD (j + vs.length) 0 + 18446744073709551616 - c) % 18446744073709551616 + 18446744073709551616 - b) % 18446744073709551616:=⟨_,rfl⟩
  have hfin:=hS.fin hl (Ow hok hcl hbl hx1) rfl
  simp only [BB] at hcl hok
  refine gW rfl (ts (rm rfl (rm rfl (rm rfl (ro rfl (dG U_56 (Ht rfl) aC) (ro rfl (dV (Ht rfl) (Ht rfl) z6) (ro rfl (fY U_56 Z_218 (Ht rfl) (Ht rfl) rfl zo (by rw [Nat.mul_one,Nat.zero_add])) ?_)))))))
  refine ro rfl (eY A_218 Z_218 (Ht rfl) (i:=1) rfl (dY (cO zo))) (ro rfl (gZ U_218 U_263 (Ht rfl) z7) (rm rfl (ro rfl (vB rfl (Ht rfl) (Ht rfl) (by show _ ≤ 18446744073709551616; first | omega | (simp only [oA]; omega))) (rm rfl (ro rfl (aS.nat (vB rfl (Ht rfl) (Ht rfl) (by show _ ≤ 18446744073709551616; first | omega | (simp only [oA]; omega))) hx1.symm) (ra rfl (eX (ts (rm rfl (rm rfl (rm rfl (ro rfl (dG U_56 (Ht rfl) aC) ?_))))))))))))
  refine ro rfl (dV (Ht rfl) (Ht rfl) z6) (rm rfl (ro rfl (lG rfl U_263 U_218 (Ht rfl)) (ro rfl (fY U_56 Z_218 (Ht rfl) (Ht rfl) rfl zo (by rw [Nat.mul_one,Nat.zero_add])) ?_)))
  refine pX Z_218 (Ht rfl) (Ht rfl) (i:=1) rfl (by first | omega | (simp; omega)) rfl (eX (ts (rm rfl (ro rfl (jR (Ht rfl) (cJ 63) (by decide)) (ro rfl (kN (Ht rfl) (cJ 0)) (ra rfl (eX ?_)))))))
  exact iO (_,_) hfin [0,1] ⟨⟨_,rfl,fun _ _ _ h=>h⟩,⟨_,rfl,(aA (lB _ _ _))⟩,trivial⟩ (by decide) (tG rfl (eU rfl))
theorem Pr {m n:Nat} (hm:(dg m).length ≤ 17592186044415) (hn1:(dg n).length ≤ 17592186044416) (hn:n ≠ 0):bR Tryz.prog 233 [bA m,bA n] (eD [bA (m / n),bA (m % n)]):=by
 refine bR.intro Tryz.func233 rfl Tryz.ntmps233 rfl (fun cx=>(ts (ro rfl (cQ cV) (ro rfl (cQ cV) (eX (cK (ts (rm rfl (rm rfl (ro rfl (cZ Tryz.call199 (Xh zo zo) ⟨(Ht rfl),(Ht rfl),trivial⟩) (ro rfl (uB (Ht rfl) cV) (eX (dQ (Ht rfl) (fun hb=>?_) (fun hb=>?_))))))))))))))
 ·simp only [decide_eq_true_eq] at hb
  have hlt : m < n := by
   unfold wH at hb
   split at hb
   ·assumption
   ·split at hb <;> simp at hb
  refine ts (rm rfl (ro rfl (cQ cV) (ra rfl (eX (bN rfl (fX (eU rfl) ?_) (fX (eU rfl) ?_))))))
  ·exact (fun v V h=>gP (Nat.div_eq_of_lt hlt).symm v V (oC v V h))
  ·exact (gP (Nat.mod_eq_of_lt hlt).symm)
 ·simp only [decide_eq_false_iff_not] at hb
  have hle : n ≤ m := by
   unfold wH at hb
   split at hb
   ·simp at hb
   ·omega
  clear hb
  refine cU (cK (ts (rm rfl (ro rfl (dG U_56 (Ht rfl) aC) (ro rfl (eB (Ht rfl) (cJ 1)) (eX (dQ (Ht rfl) (fun h1=>?_) (fun h1=>?_))))))))
  ·simp at h1
   have hy0:=a4k h1
   have hyb:=cI (dC n) 0
   have hmod:=Nat.mod_lt m (show (dg n).getD 0 0 > 0 by omega)
   simp only [BB] at hyb
   refine ts (rm rfl (rm rfl (ro rfl (dZ U_56 Z_218 (Ht rfl) (cJ 0) rfl (dY (cO zo))) (ro rfl (dJ A_218 Z_218 (Ht rfl)) (ro rfl (cZ Tryz.call264 (Px zo zo hyb) ⟨(Ht rfl),(Ht rfl),trivial⟩) (rm rfl (ro rfl (dK (Ht rfl) rfl) (ro rfl (dK (Ht rfl) rfl) (ra rfl (ra rfl (eX (ts (rm rfl (rm rfl (ro rfl (gZ U_218 U_263 (Ht rfl) z7) (ro rfl (cZ Tryz.call238 (Gq zo) ⟨(Ht rfl),trivial⟩) ?_))))))))))))))))
   refine ra rfl (ra rfl (eX (bN rfl (fX (eU rfl) ?_) (fX (eU rfl) ?_))))
   ·exact (gP (by rw [hy0]))
   ·exact (gP (by rw [hy0]))
  ·simp at h1
   have hl0:(dg n).length ≠ 0:=fun e=>hn (cC.1 e)
   have hyb:=cI (dC n) ((dg n).length - 1)
   obtain ⟨s,hs⟩:∃ s,s = 32 - bl ((dg n).getD ((dg n).length - 1) 0):=⟨_,rfl⟩
   obtain ⟨hs1,hvl,hvb⟩:=Yh hn hs
   obtain ⟨hc1,hc2,hc3,hc4⟩:=Xx (m:=m) hs1
   simp only [BB] at hyb
   have hp2:0 < 2 ^ s:=Nat.pow_pos (by decide)
   have hX0:(dg (m * 2 ^ s)).length ≠ 0:=fun e=>(Nat.ne_of_gt (Nat.mul_pos (show 0 < m by omega) hp2)) (cC.1 e)
   have hmono:=lN hle
   refine cU (ts (rm rfl (ro rfl (dG U_56 (Ht rfl) aC) (rm rfl (rm rfl (ro rfl (dG U_56 (Ht rfl) aC) (ro rfl (dW (Ht rfl) (cJ 1) zo z6) (ro rfl (dZ U_56 Z_218 (Ht rfl) (Ht rfl) rfl (dY (cO zo))) (ro rfl (dJ A_218 Z_218 (Ht rfl)) (ro rfl (aS.nat (cZ Tryz.call265 (a4a zo) ⟨(Ht rfl),trivial⟩) hs.symm) (ra rfl (ra rfl (eX (ts (rm rfl (rm rfl (ro rfl (cZ Tryz.call266 (a3u zo zo) ⟨(Ht rfl),(Ht rfl),trivial⟩) ?_)))))))))))))))))
   refine ra rfl (eX (ts (rm rfl (ro rfl (dG U_56 (Ht rfl) aC) (ro rfl (dV (Ht rfl) (cJ 1) z6) (rn rfl (gK (T:=dD 0) (i:=Tryz.t218) V_56 nZ rfl rfl (Ht rfl) rfl (fun _=>rfl) trivial (by show 4 * _ ≤ _; omega) zo) fun B55=>(ra rfl (eX (ts (rm rfl (rm rfl (rm rfl (ro rfl (cZ Tryz.call266 (a3u zo zo) ⟨(Ht rfl),(Ht rfl),trivial⟩) (a0Y U_56 Z_218 (Ht rfl) (Ht rfl) (a4I hX0) a6k (i:=0) rfl (by simp) (by simp; omega) (Xy _ _) rfl rfl ?_))))))))))))))
   refine eX (ts (rm rfl (ro rfl (eT U_56 (Ht rfl)) (rm rfl (ro rfl (dW (Ht rfl) (Ht rfl) zo z6) (rn rfl (gK (T:=dD 0) (i:=Tryz.t218) V_56 nZ rfl rfl (Ht rfl) rfl (fun _=>rfl) trivial (by show 4 * _ ≤ _; omega) zo) fun B65=>(ra rfl (eX (cK (ts (rm rfl (ro rfl (eT U_56 (Ht rfl)) (ro rfl (jE (Ht rfl) cV (Du zo)) (ra rfl (eX (eG ?_))))))))))))))))
   obtain ⟨vs,hvs⟩:∃ vs,vs = dg (n * 2 ^ s):=⟨_,rfl⟩
   rw [← hvs] at hvl hvb
   have hv:lC vs:=hvs ▸ dC _
   have hvv:val vs = n * 2 ^ s:=by rw [hvs,fD]
   have hV0:0 < val vs:=by rw [hvv]; exact Nat.mul_pos zo hp2
   have hnr:=a2w hv zo hvb
   have hv1:=hnr.v1lt; have hv2:=hnr.v2lt; have hbig:=hnr.big
   simp only [BB] at hv1 hv2 hbig
   refine nP (fun (k : Nat) (us : List Nat) (qs : List Nat) => pW (m * 2 ^ s) vs us qs k ∧ us.length = (dg m).length + 1) (fun (k : Nat) (us : List Nat) (qs : List Nat) => k) (fun (k : Nat) (us : List Nat) (qs : List Nat) => [(8, NT .i64 vs.length), (9, NT .i64 s), (10, Dv vs), (11, Is (.slice (some ⟨B55, 0, none⟩) ((dg m).length + 1) ((dg m).length + 1))), (12, Is (.slice (some ⟨B65, 0, none⟩) ((dg m).length + 1 - (dg n).length) ((dg m).length + 1 - (dg n).length))), (13, aP .i64 ((k : Int) - 1))]) (fun (k : Nat) (us : List Nat) (qs : List Nat) => [box B55 218 (us.map dD), box B65 218 (qs.map dD)]) ((dg m).length + 1 - (dg n).length) (Ew m s) (List.replicate ((dg m).length + 1 - (dg n).length) 0) ⟨pW.start hv zo hvb hs1 (by have := kD (dC m); rwa [fD] at this) hc3 hc2 hc4 zo, hc2⟩
    (aZ rfl (lX hvl.symm) (aQ rfl (aZ rfl (fun v V h=>by rw [hvs]; exact h) (aQ rfl (aQ rfl (aZ rfl (bE zo) aX)))))) (aU (fun _ _ _ h=>h) (aU (aA (sJ _)) aY)) (fun k us qs ⟨hS,hus⟩=>?_)
   refine cK (ts (rm rfl (ro rfl (nA (Ht rfl) cV) (eX (dQ (Ht rfl) (fun hk=>?_) (fun hk=>?_))))))
   ·simp at hk
    obtain ⟨j,rfl⟩:∃ j,k = j + 1:=⟨k - 1,by omega⟩
    have htp:=hS.top hv zo (Nat.succ_pos j) rfl
    have hkq:=hS.kle; have hlq:=hS.lenq
    rw [Nat.add_sub_cancel] at htp
    have hu0:=cI hS.dig (j + vs.length); have hu1:=cI hS.dig (j + vs.length - 1); have hu2:=cI hS.dig (j + vs.length - 2)
    have ht64:=a6o hu0 hu1; have hsh:=a3E hu0
    obtain ⟨top,htop⟩:∃ top,top = us.getD (j + vs.length) 0 * BB + us.getD (j + vs.length - 1) 0:=⟨_,rfl⟩
    have hor:=(Ih (a:=us.getD (j + vs.length) 0) hu1).trans htop.symm
    rw [← htop] at htp ht64
    have hu2b:=hu2
    simp only [BB] at hu0 hu1 hu2
    refine sN (E':=[(8,_),(9,_),(10,_),(11,_),(12,_),(13,_),(69,_),(70,_)]) (aQ rfl (aQ rfl (aQ rfl (aQ rfl (aQ rfl (aZ rfl (bE (show ((j + 1:Nat):Int) - 1 = (j:Int) by omega)) (zS rfl))))))) (cU (cK (eG (cK (fZ (m:=16) (dp 11 rfl (cX (Ht rfl)) (dp 13 rfl (cX (Ht rfl)) (dp 8 rfl (cX (Ht rfl)) (cP 74 1 75 2 rfl (dV (Ht rfl) (Ht rfl) z6) (cP 73 0 76 3 rfl (fY U_56 Z_218 (Ht rfl) (Ht rfl) rfl zo (by rw [Nat.mul_one,Nat.zero_add])) ?_))))))))))
    refine dq 77 4 rfl (eY A_218 Z_218 (Ht rfl) (i:=0) rfl (dY (cO zo))) (dq 78 5 rfl (gZ U_218 U_263 (Ht rfl) z7) (dq 79 6 rfl (xR (Ht rfl) (cJ 32) (by decide) hsh) (dp 11 rfl (cX (Ht rfl)) (dp 13 rfl (cX (Ht rfl)) (dp 8 rfl (cX (Ht rfl)) (cP 82 9 83 10 rfl (dV (Ht rfl) (Ht rfl) z6) (dq 84 11 rfl (dW (Ht rfl) (cJ 1) zo z6) ?_)))))))
    refine cP 81 8 85 12 rfl (fY U_56 Z_218 (Ht rfl) (Ht rfl) rfl zo (by rw [Nat.mul_one,Nat.zero_add])) ?_
    refine dq 86 13 rfl (eY A_218 Z_218 (Ht rfl) (i:=0) rfl (dY (cO zo))) (dq 87 14 rfl (gZ U_218 U_263 (Ht rfl) z7) (fV bC rfl (by kernel_rfl) (zF (zF (zF (zF (aV (ro rfl (aS.nat (zB rfl (Ht rfl) (Ht rfl) z7 z7) hor) ?_))))))))
    refine ra rfl (eX (cK (fZ (m:=17) (dp 14 rfl (cX (Ht rfl)) (dp 10 rfl (cX (Ht rfl)) (dp 8 rfl (cX (Ht rfl)) (dq 92 2 rfl (dW (Ht rfl) (cJ 1) zo z6) (cP 91 1 93 3 rfl (dZ U_56 Z_218 (Ht rfl) (Ht rfl) rfl (dY (cO zo))) (dq 94 4 rfl (dJ A_218 Z_218 (Ht rfl)) (dq 95 5 rfl (gZ U_218 U_263 (Ht rfl) z7) ?_))))))))))
    refine cP 90 0 96 6 rfl (xP (Ht rfl) (Ht rfl) zo (by show _ < 18446744073709551616; exact ht64)) (dp 14 rfl (cX (Ht rfl)) (dp 10 rfl (cX (Ht rfl)) (dp 8 rfl (cX (Ht rfl)) (dq 100 10 rfl (dW (Ht rfl) (cJ 1) zo z6) (cP 99 9 101 11 rfl (dZ U_56 Z_218 (Ht rfl) (Ht rfl) rfl (dY (cO zo))) (dq 102 12 rfl (dJ A_218 Z_218 (Ht rfl)) (dq 103 13 rfl (gZ U_218 U_263 (Ht rfl) z7) ?_)))))))
    refine cP 98 8 104 14 rfl (xQ (Ht rfl) (Ht rfl) zo) (dq 97 7 rfl (cQ (Ht rfl)) (fV bC rfl (by kernel_rfl) (zF (zF (zF (zF (aJ (aV (ra rfl (eX (cK (mG (fun (g:Nat)=>Sx (val (us.drop j)) (val vs) g) (fun (g:Nat)=>[(8,NT .i64 vs.length),(9,NT .i64 s),(10,Dv vs),(11,Is (.slice (some ⟨B55,0,none⟩) ((dg m).length + 1) ((dg m).length + 1))),(12,Is (.slice (some ⟨B65,0,none⟩) ((dg m).length + 1 - (dg n).length) ((dg m).length + 1 - (dg n).length))),(13,NT .i64 j),(15,NT .u64 g)]) (fun (g:Nat)=>[box B55 218 (us.map dD),box B65 218 (qs.map dD)]) ?_ (fun g hg=>?_)))))))))))))
    ·refine eG ?_
     refine fO (fun (g : Nat) (r : Nat) => nG (val (us.drop j)) (val vs) (vs.getD (vs.length - 1) 0) top g r ∧ r < 4294967296) (fun (g : Nat) (r : Nat) => g) (fun (g : Nat) (r : Nat) => [(8, NT .i64 vs.length), (9, NT .i64 s), (10, Dv vs), (11, Is (.slice (some ⟨B55, 0, none⟩) ((dg m).length + 1) ((dg m).length + 1))), (12, Is (.slice (some ⟨B65, 0, none⟩) ((dg m).length + 1 - (dg n).length) ((dg m).length + 1 - (dg n).length))), (13, NT .i64 j), (15, NT .u64 g), (16, NT .u64 r)]) (fun (g : Nat) (r : Nat) => [box B55 218 (us.map dD), box B65 218 (qs.map dD)]) (top / vs.getD (vs.length - 1) 0) (top % vs.getD (vs.length - 1) 0) ⟨nG.start hnr htp, Nat.lt_trans (Nat.mod_lt _ zo) hv1⟩
      (zS rfl) (dR.refl _) (fun g r ⟨hG,hr⟩=>?_)
     have hgl:=(hG.glt hnr htp).1
     have hrs:=a3E (a:=r) hr
     have horr:=Ih (a:=r) hu2b
     simp only [BB] at hgl
     refine cK (cK (fZ (m:=22) (dp 15 rfl (cX (Ht rfl)) (dq 106 0 rfl (sH (Ht rfl) (cJ 4294967296)) (dq 107 1 rfl (cX (Ht rfl)) (C.D_step (Ei:=[(15,_),(108,_)]) rfl rfl (bV (bK rfl rfl) (bV (bG 2 rfl rfl) bW)) (eK rfl rfl (Ht rfl) (fun h=>cX (Ht rfl))) (C.D_step (Ei:=[(10,_),(108,_)]) rfl rfl (bV (bK rfl rfl) (bV (bG 2 rfl rfl) bW)) (eK rfl rfl (Ht rfl) (fun h=>cX (Ht rfl))) (C.D_step (Ei:=[(8,_),(108,_)]) rfl rfl (bV (bK rfl rfl) (bV (bG 2 rfl rfl) bW)) (eK rfl rfl (Ht rfl) (fun h=>cX (Ht rfl))) ?_))))))))
     refine C.D_step (Ei:=[(111,_),(108,_)]) rfl rfl (bV (bG 5 rfl rfl) (bV (bG 2 rfl rfl) bW)) (eK rfl rfl (Ht rfl) (fun h=>dW (fJ rfl h) (cJ 2) (by first | omega | (simp at h; omega)) (by show _ < 9223372036854775808; first | omega | (simp at h; omega)))) (C.D_step (Ei:=[(110,_),(112,_),(108,_)]) rfl rfl (bV (bG 4 rfl rfl) (bV (bG 6 rfl rfl) (bV (bG 2 rfl rfl) bW))) (eK rfl rfl (Ht rfl) (fun h=>dZ U_56 Z_218 (fJ rfl h) (fJ rfl h) rfl (dY (cO (by first | omega | (simp at h; omega)))))) ?_)
     refine C.D_step (Ei:=[(113,_),(108,_)]) rfl rfl (bV (bG 7 rfl rfl) (bV (bG 2 rfl rfl) bW)) (eK rfl rfl (Ht rfl) (fun h=>dJ A_218 Z_218 (fJ rfl h))) (C.D_step (Ei:=[(114,_),(108,_)]) rfl rfl (bV (bG 8 rfl rfl) (bV (bG 2 rfl rfl) bW)) (eK rfl rfl (Ht rfl) (fun h=>gZ U_218 U_263 (fJ rfl h) (by show _ < 18446744073709551616; first | omega | (simp at h; omega)))) (C.D_step (Ei:=[(109,_),(115,_),(108,_)]) rfl rfl (bV (bG 3 rfl rfl) (bV (bG 9 rfl rfl) (bV (bG 2 rfl rfl) bW))) (eK rfl rfl (Ht rfl) (fun h=>qN (fJ rfl h) (fJ rfl h) (by show _ < 18446744073709551616; simp at h; exact a6b h hv2))) ?_))
     refine C.D_step (Ei:=[(16,_),(108,_)]) rfl rfl (bV (bK rfl rfl) (bV (bG 2 rfl rfl) bW)) (eK rfl rfl (Ht rfl) (fun h=>cX (Ht rfl))) (C.D_step (Ei:=[(117,_),(108,_)]) rfl rfl (bV (bG 11 rfl rfl) (bV (bG 2 rfl rfl) bW)) (eK rfl rfl (Ht rfl) (fun h=>xR (fJ rfl h) (cJ 32) (by decide) hrs)) (C.D_step (Ei:=[(11,_),(108,_)]) rfl rfl (bV (bK rfl rfl) (bV (bG 2 rfl rfl) bW)) (eK rfl rfl (Ht rfl) (fun h=>cX (Ht rfl))) (C.D_step (Ei:=[(13,_),(108,_)]) rfl rfl (bV (bK rfl rfl) (bV (bG 2 rfl rfl) bW)) (eK rfl rfl (Ht rfl) (fun h=>cX (Ht rfl))) ?_)))
     refine C.D_step (Ei:=[(8,_),(108,_)]) rfl rfl (bV (bK rfl rfl) (bV (bG 2 rfl rfl) bW)) (eK rfl rfl (Ht rfl) (fun h=>cX (Ht rfl))) (C.D_step (Ei:=[(120,_),(121,_),(108,_)]) rfl rfl (bV (bG 14 rfl rfl) (bV (bG 15 rfl rfl) (bV (bG 2 rfl rfl) bW))) (eK rfl rfl (Ht rfl) (fun h=>dV (fJ rfl h) (fJ rfl h) (by show _ < 9223372036854775808; first | omega | (simp at h; omega)))) (C.D_step (Ei:=[(122,_),(108,_)]) rfl rfl (bV (bG 16 rfl rfl) (bV (bG 2 rfl rfl) bW)) (eK rfl rfl (Ht rfl) (fun h=>dW (fJ rfl h) (cJ 2) (by first | omega | (simp at h; omega)) (by show _ < 9223372036854775808; first | omega | (simp at h; omega)))) ?_))
     refine C.D_step (Ei:=[(119,_),(123,_),(108,_)]) rfl rfl (bV (bG 13 rfl rfl) (bV (bG 17 rfl rfl) (bV (bG 2 rfl rfl) bW))) (eK rfl rfl (Ht rfl) (fun h=>fY U_56 Z_218 (fJ rfl h) (fJ rfl h) rfl (by first | omega | (simp at h; omega)) (by rw [Nat.mul_one,Nat.zero_add]))) ?_
     refine C.D_step (Ei:=[(124,_),(108,_)]) rfl rfl (bV (bG 18 rfl rfl) (bV (bG 2 rfl rfl) bW)) (eK rfl rfl (Ht rfl) (fun h=>eY A_218 Z_218 (fJ rfl h) (i:=0) rfl (dY (cO zo)))) (C.D_step (Ei:=[(125,_),(108,_)]) rfl rfl (bV (bG 19 rfl rfl) (bV (bG 2 rfl rfl) bW)) (eK rfl rfl (Ht rfl) (fun h=>gZ U_218 U_263 (fJ rfl h) (by show _ < 18446744073709551616; first | omega | (simp at h; omega)))) (C.D_step (Ei:=[(118,_),(126,_),(108,_)]) rfl rfl (bV (bG 12 rfl rfl) (bV (bG 20 rfl rfl) (bV (bG 2 rfl rfl) bW))) (eK rfl rfl (Ht rfl) (fun h=>aS.nat (zB rfl (fJ rfl h) (fJ rfl h) (by show _ < 18446744073709551616; first | omega | (simp at h; omega)) (by show _ < 18446744073709551616; first | omega | (simp at h; omega))) horr)) ?_))
     refine fV bC rfl (by kernel_rfl) (zF (zF (zF (zF (zF (aJ (aJ (aV (fQ rfl rfl (eK rfl rfl (Ht rfl) (fun h=>gA (fJ rfl h) (fJ rfl h))) (ro rfl (jQ (Ht rfl) (fun h=>(fJ rfl h))) (eX (dQ (Ht rfl) (fun hc=>?_) (fun hc=>?_)))))))))))))
     ·have hn2 := hG.next hnr htp (by simpa [BB] using hc)
      have hg1:=hn2.2
      refine cU (eG (ts (rm rfl (ro rfl (dW (Ht rfl) (cJ 1) zo z7) (ra rfl (eX (ts (rm rfl (rm rfl (rm rfl (ro rfl (dW (Ht rfl) (cJ 1) zo z6) (ro rfl (dZ U_56 Z_218 (Ht rfl) (Ht rfl) rfl (dY (cO zo))) (ro rfl (dJ A_218 Z_218 (Ht rfl)) (ro rfl (gZ U_218 U_263 (Ht rfl) z7) ?_))))))))))))))
      refine ro rfl (dV (Ht rfl) (Ht rfl) z7) (ra rfl (eX (ts (rm rfl (ro rfl (sH (Ht rfl) (cJ 4294967296)) (eX (dQ (Ht rfl) (fun hr2=>?_) (fun hr2=>?_))))))))
      ·simp at hr2
       refine gW rfl (cD (g - 1) (hn2.1.stop hnr htp hr2) (zS rfl) (dR.refl _))
      ·simp at hr2
       refine cU (bL (fU (g - 1,_) ⟨hn2.1,hr2⟩ (by dsimp only; omega) (zS rfl) (dR.refl _)))
     ·simp at hc
      refine gW rfl (cD g (hG.done hnr htp hc.1 hc.2) (zS rfl) (dR.refl _))
    ·have hglt := hg.lt
     simp only [BB] at hglt
     refine cK (wR (fun (us2:List Nat) (g2:Nat)=>pW (m * 2 ^ s) vs us2 (qs.set j g2) j ∧ g2 < 4294967296 ∧ us2.length = (dg m).length + 1) (fun (us2:List Nat) (g2:Nat)=>[(8,NT .i64 vs.length),(9,NT .i64 s),(10,Dv vs),(11,Is (.slice (some ⟨B55,0,none⟩) ((dg m).length + 1) ((dg m).length + 1))),(12,Is (.slice (some ⟨B65,0,none⟩) ((dg m).length + 1 - (dg n).length) ((dg m).length + 1 - (dg n).length))),(13,NT .i64 j),(15,NT .u64 g2)]) (fun (us2:List Nat) (g2:Nat)=>[box B55 218 (us2.map dD),box B65 218 (qs.map dD)]) ?_ (fun us2 g2 ⟨hD,hg2,hus2⟩=>?_))
     ·refine ts (rm rfl (rm rfl (rm rfl (rm rfl (Ga Tryz.call267 (a4c hus hS.dig hv hg.lt zo zo) (i := 0) rfl ⟨(Ht rfl), (Ht rfl), (Ht rfl), (Ht rfl), trivial⟩ rfl (fun ⟨out, b⟩ hT => ?_))))))
      dsimp only at hT
      refine eX (dQ (Ht rfl) (fun hbb=>?_) (fun hbb=>?_))
      ·have hbb : b = true := hbb
       subst hbb
       have hg0:=hS.gpos hv rfl zo hT
       have hol:=hT.len
       refine ts (rm rfl (ro rfl (dW (Ht rfl) (cJ 1) zo z7) (ra rfl (eX (ts (ro rfl (cQ (cJ 0)) (eX (cK (ts (rm rfl (ro rfl (dG U_56 (Ht rfl) aC) (ro rfl (cX (cJ 0)) (eX (eG ?_))))))))))))))
       refine nP (fun (i : Nat) (out2 : List Nat) (c : Nat) => wP out vs j out2 i c) (fun (i : Nat) (out2 : List Nat) (c : Nat) => vs.length - i) (fun (i : Nat) (out2 : List Nat) (c : Nat) => [(8, NT .i64 vs.length), (9, NT .i64 s), (10, Dv vs), (11, Is (.slice (some ⟨B55, 0, none⟩) ((dg m).length + 1) ((dg m).length + 1))), (12, Is (.slice (some ⟨B65, 0, none⟩) ((dg m).length + 1 - (dg n).length) ((dg m).length + 1 - (dg n).length))), (13, NT .i64 j), (15, NT .u64 (g - 1 : Nat)), (17, NT .u64 c), (149, Dv vs), (150, NT .i64 vs.length), (151, NT .i64 i)]) (fun (i : Nat) (out2 : List Nat) (c : Nat) => [box B55 218 (out2.map dD), box B65 218 (qs.map dD)]) 0 out 0 (wP.start hT.dig vs j)
        (zS rfl) (dR.refl _) (fun i out2 c hB=>?_)
       refine ts (ro rfl (gX (Ht rfl) (Ht rfl)) (eX (cK (dQ (Ht rfl) (fun hi=>?_) (fun hi=>?_)))))
       ·simp at hi
        have hlen:=hB.len; have hcl:=hB.cle; have hvi:=cI hv i; have hok:=cI hB.dig (i + j)
        simp only [BB] at hvi hok
        refine cU (cK (eG (ts (rm rfl (ro rfl (dZ U_56 Z_218 (Ht rfl) (Ht rfl) rfl (dY (cO zo))) (ro rfl (dJ A_218 Z_218 (Ht rfl)) (ra rfl (ra rfl (eX (ts (rm rfl (rm rfl (rm rfl (rm rfl (ro rfl (dV (Ht rfl) (Ht rfl) z6) (ro rfl (fY U_56 Z_218 (Ht rfl) (Ht rfl) rfl zo (by rw [Nat.mul_one,Nat.zero_add])) ?_))))))))))))))))
        refine ro rfl (eY A_218 Z_218 (Ht rfl) (i:=0) rfl (dY (cO zo))) (ro rfl (gZ U_218 U_263 (Ht rfl) z7) (rm rfl (ro rfl (gZ U_218 U_263 (Ht rfl) z7) (ro rfl (dV (Ht rfl) (Ht rfl) z7) (ro rfl (dV (Ht rfl) (Ht rfl) z7) ?_)))))
        refine ra rfl (eX (ts (rm rfl (rm rfl (rm rfl (ro rfl (dV (Ht rfl) (Ht rfl) z6) (rm rfl (ro rfl (lG rfl U_263 U_218 (Ht rfl)) (ro rfl (fY U_56 Z_218 (Ht rfl) (Ht rfl) rfl zo (by rw [Nat.mul_one,Nat.zero_add])) ?_)))))))))
        refine pX Z_218 (Ht rfl) (Ht rfl) (i:=0) rfl (by first | omega | (simp; omega)) rfl (eX (cY (rm rfl (ro rfl (jR (Ht rfl) (cJ 32) (by decide)) (ra rfl (eX (bL (cY (ro rfl (dV (Ht rfl) (cJ 1) z6) (rm rfl (eX (fU (i + 1,_,_) (hB.next hv hi zo rfl) (by dsimp only; omega) (zS rfl) (aU (aA (lB _ _ _)) (aU (fun _ _ _ h=>h) aY))))))))))))))
       ·simp at hi
        have hil:i = vs.length:=Nat.le_antisymm hB.ile hi
        subst hil
        have hlen:=hB.len; have hcl:=hB.cle; have hok:=cI hB.dig (j + vs.length)
        have hBk:=hB.fin zo rfl
        obtain ⟨_,hDn⟩:=hS.wrong hv hV0 (Nat.succ_pos j) rfl hg hT hBk
        simp only [BB] at hok
        refine gW rfl (cY (rm rfl (rm rfl (rm rfl (ro rfl (dV (Ht rfl) (Ht rfl) z6) (ro rfl (fY U_56 Z_218 (Ht rfl) (Ht rfl) rfl zo (by rw [Nat.mul_one,Nat.zero_add])) ?_))))))
        refine ro rfl (eY A_218 Z_218 (Ht rfl) (i:=0) rfl (dY (cO zo))) (rm rfl (ro rfl (gZ U_263 U_218 (Ht rfl) (by show _ < 4294967296; first | omega | (simp only [oA]; omega))) (ro rfl (a2A rfl (Ht rfl) (Ht rfl)) (ro rfl (fY U_56 Z_218 (Ht rfl) (Ht rfl) rfl zo (by rw [Nat.mul_one,Nat.zero_add])) ?_))))
        refine pX Z_218 (Ht rfl) (Ht rfl) (i:=0) rfl (by first | omega | (simp; omega)) rfl (eX (cD (_,g - 1) ⟨hDn,by dsimp only; omega,by simp; omega⟩ (zS rfl) (aU (aA (lB _ _ _)) (aU (fun _ _ _ h=>h) aY))))
      ·have hbb : b = false := hbb
       subst hbb
       have hol:=hT.len
       refine cU (cD (out,g) ⟨hS.right hv hV0 (Nat.succ_pos j) rfl hg hT,hglt,by dsimp only; omega⟩ (zS rfl) (dR.refl _))
     ·refine cY (rm rfl (rm rfl (rm rfl (ro rfl (gZ U_263 U_218 (Ht rfl) (by show _ < 4294967296; first | omega | (simp only [oA]; omega))) (ro rfl (fY U_56 Z_218 (Ht rfl) (Ht rfl) rfl zo (by rw [Nat.mul_one, Nat.zero_add])) ?_)))))
      refine pX Z_218 (Ht rfl) (Ht rfl) (i:=1) rfl (by first | omega | (simp; omega)) rfl (eX (bL (cY (rm rfl (ro rfl (jE (Ht rfl) cV (Du zo)) (ra rfl (eX (fU (j,us2,_) ⟨hD,hus2⟩ (by dsimp only; omega) (zS rfl) (aU (fun _ _ _ h=>h) (aU (aA (lB _ _ _)) aY))))))))))
   ·simp at hk
    have hk0:k = 0:=by omega
    subst hk0
    have hfin:=hS.fin hV0
    have hlq:=hS.lenq
    rw [hvv] at hfin
    have hdiv:val qs = m / n:=by rw [hfin.1]; exact Nat.mul_div_mul_right _ _ hp2
    have hsm:val us < BB ^ vs.length:=by have h1:=hS.small; rw [List.drop_zero] at h1; exact Nat.lt_trans h1 (kD hv)
    have hmod : val (us.take vs.length) / 2 ^ s = m % n := by
     rw [yG hsm zo,hfin.2,Nat.mul_mod_mul_right,Nat.mul_div_cancel _ hp2]
    have hru : (dg (val (us.take vs.length))).length ≤ 17592186044416 := by
     refine Nat.le_trans (lK (k:=vs.length) ?_) zo
     rw [yG hsm zo]; exact hsm
    refine gW rfl (gV (i:=1) (tt:=12) rfl rfl (tW rfl zo (Nat.le_refl _)) (gV (i:=0) (tt:=11) rfl rfl (tW rfl zo (Nat.le_refl _)) (cK (fZ (m:=7) (dp 12 rfl (cX (Ht rfl)) (dq 193 0 rfl (cZ K_237 (rU _ hS.digq zo) ⟨(Ht rfl),trivial⟩) (dp 11 rfl (cX (Ht rfl)) (dp 8 rfl (cX (Ht rfl)) (cP 195 2 196 3 rfl (aS.imp (Fl U_56 Z_218 (Ht rfl) (Ht rfl) (fun m e=>by cases e) zo (by simp; omega) rfl) (a1L _ _)) ?_)))))))))
    refine dq 197 4 rfl (cZ K_237 (rU _ (hS.dig.take' vs.length) (by simp; omega)) ⟨(Ht rfl),trivial⟩) ?_
    refine dp 9 rfl (cX (Ht rfl)) (fV bC rfl (by kernel_rfl) (zF (aJ (aJ (aJ (aV (ro rfl (cZ Tryz.call268 (a5U hru zo) ⟨(Ht rfl),(Ht rfl),trivial⟩) (ra rfl (ra rfl (eX (bN rfl (fX (eU rfl) ?_) (fX (eU rfl) ?_))))))))))))
    ·exact (gP hdiv)
    ·exact (gP hmod)
end
section
open Go Go.RowKit
theorem a4x:Tryz.prog.info? 5 = some Tryz.t5:=by kernel_rfl
theorem Ss:Tryz.prog.underlying 296 = some (.slice 5):=by kernel_rfl
theorem a6q:Tryz.prog.underlying 5 = some (.int .u8):=by kernel_rfl
theorem a6r:Tryz.prog.underlying 9 = some (.string):=by kernel_rfl
end
section
open Go Go.RowKit
theorem a3r {m n:Nat} (hm:(dg m).length ≤ 17592186044415) (hn:(dg n).length ≤ 17592186044415):bR Tryz.prog 231 [bA m,bA n] (bA (Nat.gcd m n)):=by
 refine bR.intro Tryz.func231 rfl Tryz.ntmps231 rfl (fun cx=>(ts (ro rfl (cQ cV) (eX (cK (eG ?_))))))
 refine fO (fun (x : Nat) (y : Nat) => Nat.gcd x y = Nat.gcd m n ∧ (dg x).length ≤ 17592186044415 ∧ (dg y).length ≤ 17592186044415) (fun (x : Nat) (y : Nat) => y) (fun (x : Nat) (y : Nat) => [(0, bA x), (1, bA y)]) (fun (x : Nat) (y : Nat) => []) m n ⟨rfl, hm, hn⟩
  (zS rfl) aY (fun x y ⟨hg,hx,hy⟩=>?_)
 refine cK (ts (rm rfl (ro rfl (dG U_56 (Ht rfl) aC) (ro rfl (gA (Ht rfl) (cJ 0)) (eX (dQ (Ht rfl) (fun hb=>?_) (fun hb=>?_)))))))
 ·simp at hb
  have hy0:y ≠ 0:=fun e=>by rw [e,fP] at hb; simp at hb
  have hlt:=Nat.mod_lt x (Nat.pos_of_ne_zero hy0)
  refine cU (eG (ts (rm rfl (rm rfl (ro rfl (cZ Tryz.call233 (Pr hx zo hy0) ⟨(Ht rfl),(Ht rfl),trivial⟩) (rm rfl (ro rfl (dK (Ht rfl) rfl) (ro rfl (dK (Ht rfl) rfl) (ra rfl (ra rfl (eX (cY (rm rfl (rm rfl (ra rfl (ra rfl (eX (bL (fU (y,x % y) ⟨by rw [← hg,Nat.gcd_comm x y,Nat.gcd_rec y x,Nat.gcd_comm],hy,Nat.le_trans (lN (Nat.le_of_lt hlt)) hy⟩ hlt (zS rfl) aY)))))))))))))))))))
 ·simp at hb
  have hy0:y = 0:=cC.1 (by simpa using hb)
  subst hy0
  rw [Nat.gcd_zero_right] at hg
  refine gW rfl (ts (rm rfl (ra rfl (eX (fW rfl (fX (eU rfl) ?_))))))
  exact (gP hg)
theorem a5T {l:List Nat} {v:Value} (hl:l.length ≤ 1152921504606846976):fN Tryz.prog 280 [Is v] [bF 5 1 v (l.map Dz)] Unit (fun _=>pV) (fun _=>[bF 5 1 v (l.reverse.map Dz)]) (fun _=>True):=by
 refine fN.intro Tryz.func280 rfl Tryz.ntmps280 rfl (fun cx Z=>(ts (rm rfl (ro rfl (nT U_296 (Ht rfl) (i:=1) rfl aC) (ro rfl (jE (Ht rfl) cV (Du zo)) (ro rfl (cQ (cJ 0)) (ra rfl (eX (eG ?_)))))))))
 refine fO (fun (k : Nat) (o : List Nat) => Gc l o k) (fun (k : Nat) (o : List Nat) => l.length - k) (fun (k : Nat) (o : List Nat) => [(0, Is v), (2, NT .i64 k), (3, aP .i64 ((l.length : Int) - 1 - (k : Int)))]) (fun (k : Nat) (o : List Nat) => [Z, bF 5 1 v (o.map Dz)]) 0 l (Gc.start l)
  (aQ rfl (aQ rfl (aZ rfl (bE zo) aX))) (dR.refl _) (fun k o hS=>?_)
 refine cK (ts (rm rfl (rm rfl (ro rfl (uB (Ht rfl) (Ht rfl)) (eX (dQ (Ht rfl) (fun hb=>?_) (fun hb=>?_)))))))
 ·simp only [decide_eq_true_eq] at hb
  have hk:2 * k + 1 < l.length:=by omega
  obtain ⟨j,hj⟩:∃ j,j = l.length - 1 - k:=⟨_,rfl⟩
  have hlen:=hS.len
  refine sN (E':=[(0,_),(2,_),(3,_),(7,_),(8,_),(9,_)]) (aQ rfl (aQ rfl (aZ rfl (bE (show (l.length:Int) - 1 - (k:Int) = (j:Int) by omega)) (zS rfl)))) (cU (cK (eG (W.D_start (m:=14) (fun b=>cond b ([Z,bF 5 1 v ((o.map Dz).set k (Dz (o.getD j 0)))]) _) 13 (W.D_step (Ei:=[(0,_)]) rfl rfl (W.Srcs.cons (W.Src.pre rfl rfl) W.Srcs.nil) rfl (by kernel_rfl) (dX rfl (cX (Ht rfl))) (W.D_step (Ei:=[(2,_)]) rfl rfl (W.Srcs.cons (W.Src.pre rfl rfl) W.Srcs.nil) rfl (by kernel_rfl) (dX rfl (cX (Ht rfl))) ?_))))))
  refine W.D_pure (Ei:=[(0,_)]) rfl rfl (W.Srcs.cons (W.Src.pre rfl rfl) W.Srcs.nil) rfl (fun _=>dX rfl (cX (Ht rfl))) (W.D_pure (Ei:=[(3,_)]) rfl rfl (W.Srcs.cons (W.Src.pre rfl rfl) W.Srcs.nil) rfl (fun _=>dX rfl (cX (Ht rfl))) (W.D_step (Ei:=[(0,_)]) rfl rfl (W.Srcs.cons (W.Src.pre rfl rfl) W.Srcs.nil) rfl (by kernel_rfl) (dX rfl (cX (Ht rfl))) (W.D_step (Ei:=[(3,_)]) rfl rfl (W.Srcs.cons (W.Src.pre rfl rfl) W.Srcs.nil) rfl (by kernel_rfl) (dX rfl (cX (Ht rfl))) (W.D_step (Ei:=[(18,_),(19,_)]) rfl rfl (W.Srcs.cons (W.Src.op 4 rfl rfl) (W.Srcs.cons (W.Src.op 5 rfl rfl) W.Srcs.nil)) rfl (by kernel_rfl) (dX rfl (cL U_296 Z_5 (Ht rfl) (Ht rfl) rfl (i:=1) rfl (by first | omega | (simp; omega)) rfl)) ?_))))
  refine W.D_step (Ei:=[(20,_)]) rfl rfl (W.Srcs.cons (W.Src.op 6 rfl rfl) W.Srcs.nil) rfl (by kernel_rfl) (dX rfl (mI Tryz.isAgg5 Z_5 (Ht rfl) (i:=1) rfl rfl (dY (cO zo)))) (W.D_step (Ei:=[(0,_)]) rfl rfl (W.Srcs.cons (W.Src.pre rfl rfl) W.Srcs.nil) rfl (by kernel_rfl) (dX rfl (cX (Ht rfl))) (W.D_step (Ei:=[(2,_)]) rfl rfl (W.Srcs.cons (W.Src.pre rfl rfl) W.Srcs.nil) rfl (by kernel_rfl) (dX rfl (cX (Ht rfl))) (W.D_step (Ei:=[(22,_),(23,_)]) rfl rfl (W.Srcs.cons (W.Src.op 8 rfl rfl) (W.Srcs.cons (W.Src.op 9 rfl rfl) W.Srcs.nil)) rfl (by kernel_rfl) (dX rfl (cL U_296 Z_5 (Ht rfl) (Ht rfl) rfl (i:=1) rfl (by first | omega | (simp; omega)) rfl)) ?_)))
  refine W.D_step (Ei:=[(24,_)]) rfl rfl (W.Srcs.cons (W.Src.op 10 rfl rfl) W.Srcs.nil) rfl (by kernel_rfl) (dX rfl (mI Tryz.isAgg5 Z_5 (Ht rfl) (i:=1) rfl rfl (dY (cO zo)))) (W.D_step (Ei:=[(14,_),(15,_)]) rfl rfl (W.Srcs.cons (W.Src.op 0 rfl rfl) (W.Srcs.cons (W.Src.op 1 rfl rfl) W.Srcs.nil)) rfl (by kernel_rfl) (dX rfl (cL U_296 Z_5 (Ht rfl) (Ht rfl) rfl (i:=1) rfl (by first | omega | (simp; omega)) rfl)) (W.D_put (Ei:=[(26,_),(21,_)]) rfl rfl (W.Srcs.cons (W.Src.op 12 rfl rfl) (W.Srcs.cons (W.Src.op 7 rfl rfl) W.Srcs.nil)) rfl (Ja Z_5 (Ht rfl) (Ht rfl) El.one (i:=1) rfl rfl (by first | omega | (simp; omega))) ?_))
  refine W.D_done bC rfl (by kernel_rfl) rfl (W.F_val (W.F_val (W.F_val (W.F_val (W.F_val (W.F_val (W.F_val (W.F_val (W.F_val (W.F_val (W.F_val (W.F_val (W.F_val (W.F_put (W.F_nil (ro rfl (cL U_296 Z_5 (Ht rfl) (Ht rfl) rfl (i:=1) rfl (by first | omega | (simp; omega)) rfl) (kX Z_5 (Ht rfl) (Ht rfl) El.one (i:=1) rfl rfl (by first | omega | (simp; omega)) rfl (eX (bL (cY (rm rfl (ro rfl (dV (Ht rfl) (cJ 1) z6) (rm rfl (ro rfl (jE (Ht rfl) cV (Du zo)) ?_))))))))))))))))))))))))
  refine ra rfl (ra rfl (eX (fU (k + 1,_) (hS.next hk hj) (by dsimp only; omega) (aQ rfl (aQ rfl (aZ rfl (bE zo) aX))) (aU (fun _ _ _ h=>h) (aU (aO (a3e _ _ _ _ _)) aY)))))
 ·simp only [decide_eq_false_iff_not] at hb
  have hfin:=hS.fin (by have:=hS.kle; omega)
  refine gW rfl ?_
  exact a3O () trivial [0,1] ⟨⟨_,rfl,fun _ _ _ h=>h⟩,⟨_,rfl,(aO (by rw [hfin]))⟩,trivial⟩ (by decide) (a6B rfl (fun _=>trivial))
theorem Jl {m:Nat} (hm:(dg m).length ≤ 8796093022208):bR Tryz.prog 260 [bA m] (vM (Ca m)):=by
 refine bR.intro Tryz.func260 rfl Tryz.ntmps260 rfl (fun cx=>(ts (ro rfl (cQ (bH.cS (l:=[]) rfl)) (eX (cK (ts (rm rfl (ro rfl (dG U_56 (Ht rfl) aC) (ro rfl (eB (Ht rfl) (cJ 0)) (eX (dQ (Ht rfl) (fun hb=>?_) (fun hb=>?_))))))))))))
 ·simp at hb
  have h0:m = 0:=cC.1 (by simpa using hb)
  subst h0
  refine ts (ro rfl (cQ (bH.cS (l:=[48]) rfl)) (eX (fW rfl (fX (eU rfl) ?_))))
  exact (pT rfl)
 ·simp at hb
  have h0:m ≠ 0:=fun e=>hb (by rw [e,fP])
  refine cU (ts (ro rfl (cQ cV) (eX (cK (eG (qZ 5 1 ?_))))))
  refine nP (fun (x : Nat) (out : List Nat) (v : Value) => Fy m out x ∧ x ≤ m) (fun (x : Nat) (out : List Nat) (v : Value) => x) (fun (x : Nat) (out : List Nat) (v : Value) => [(0, bA x), (3, Is v)]) (fun (x : Nat) (out : List Nat) (v : Value) => [bF 5 1 v (out.map Dz)]) m [] (.slice none 0 0) ⟨Fy.start m, Nat.le_refl m⟩
   (zS rfl) (dR.refl _) (fun x out v ⟨hO,hle⟩=>?_)
  refine cK (ts (rm rfl (ro rfl (dG U_56 (Ht rfl) aC) (ro rfl (gA (Ht rfl) (cJ 0)) (eX (dQ (Ht rfl) (fun hc=>?_) (fun hc=>?_)))))))
  ·simp at hc
   have hx0:x ≠ 0:=fun e=>by rw [e,fP] at hc; simp at hc
   have hxm:=lN hle
   refine cU (eG (ts (ro rfl (cQ (cJ 0)) (eX (ts (rm rfl (ro rfl (cZ Tryz.call264 (Px zo (by decide) (by decide)) ⟨(Ht rfl),(cJ 1000000000),trivial⟩) (rm rfl (ro rfl (dK (Ht rfl) rfl) (ro rfl (dK (Ht rfl) rfl) (ra rfl (ra rfl (eX (ts (ro rfl (cQ (cJ 0)) (eX (eG ?_)))))))))))))))))
   refine Gg (fun (r : Nat) (k : Nat) (out : List Nat) (v : Value) => Bo m out (x / 1000000000) r k) (fun (r : Nat) (k : Nat) (out : List Nat) (v : Value) => 9 - k) (fun (r : Nat) (k : Nat) (out : List Nat) (v : Value) => [(0, bA (x / 1000000000)), (3, Is v), (4, dD r), (5, NT .i64 k)]) (fun (r : Nat) (k : Nat) (out : List Nat) (v : Value) => [bF 5 1 v (out.map Dz)]) (x % 1000000000) 0 out v (hO.inner)
    (zS rfl) (dR.refl _) (fun r k out v hI=>?_)
   refine cK (ts (rm rfl (ro rfl (gX (Ht rfl) (cJ 9)) (rm rfl (fQ rfl rfl (kH rfl rfl (Ht rfl) (fun h=>cX (Ht rfl))) (fQ rfl rfl (kH rfl rfl (Ht rfl) (fun h=>dG U_56 (bH.wu rfl h) aC)) (fQ rfl rfl (kH rfl rfl (Ht rfl) (fun h=>gA (bH.wu rfl h) (cJ 0))) (fQ rfl rfl (kH rfl rfl (Ht rfl) (fun h=>cX (bH.wu rfl h))) (fQ rfl rfl (uN rfl rfl rfl (fun h h2=>cX (Ht rfl))) (fQ rfl rfl (uN rfl rfl rfl (fun h h2=>gA (bH.wu rfl ⟨h,h2⟩) (cJ 0))) (fQ rfl rfl (kH rfl rfl (Ht rfl) (fun h=>jQ (bH.wu rfl h) (fun h2=>(bH.wu rfl ⟨h,h2⟩)))) ?_)))))))))))
   refine ro rfl (fC (Ht rfl) (fun h=>(bH.wu rfl h))) (eX (dQ (Ht rfl) (fun hd=>?_) (fun hd=>?_)))
   ·simp at hd
    have hxr:0 < x / 1000000000 ∨ 0 < r:=hd.2.imp (fun h=>Nat.pos_of_ne_zero (fun e=>by rw [e,fP] at h; simp at h)) id
    have hln:=hI.len hxr
    have hr32:=hI.r32
    refine cU (cK (eG (ts (rm rfl (rm rfl (ro rfl (xQ (Ht rfl) (cJ 10) zo) (ro rfl (dV (cJ 48) (Ht rfl) (by show _ < 4294967296; first | omega | (simp only [oA]; omega))) (ro rfl (gZ U_218 U_5 (Ht rfl) (by show _ < 256; first | omega | (simp only [oA]; omega))) (ro rfl (cE (xs:=[.tmp 34]) U_296 Z_5 Tryz.zeroValue5 (cW (Ht rfl) cG) rfl rfl rfl) (mT (inf:=Tryz.t5) Ss a4x rfl rfl rfl (Ht rfl) (Ht rfl) (i:=0) rfl (by simp) (fun T hT=>by simp at hT; subst hT; exact El.one) (by show _ * 1 ≤ _; simp only [List.length_map,List.length_cons,List.length_nil]; omega) (by simp only [List.length_map,List.length_cons,List.length_nil]; omega) rfl (fun v2=>?_)))))))))))
    refine ra rfl (eX (cY (rm rfl (ro rfl (xP (Ht rfl) (cJ 10) zo (by show _ < 4294967296; first | omega | (simp only [oA]; omega))) (ra rfl (eX (bL (cY (rm rfl (ro rfl (dV (Ht rfl) (cJ 1) z6) (ra rfl (eX (fU (r / 10,k + 1,_,v2) (hI.next hd.1 hxr) (by dsimp only; omega) (zS rfl) (aU (aO (a5u _ _)) aY))))))))))))))
   ·simp at hd
    have hO2 := hI.fin (fun ⟨h1, h2⟩ => by
     have h3:=hd h1
     rcases h2 with h2 | h2
     ·have:=yR.1 h3.1; omega
     ·omega)
    refine gW rfl (bL (fU (x / 1000000000,_,_) ⟨hO2,Nat.le_trans (Nat.div_le_self _ _) hle⟩ (Nat.div_lt_self (Nat.pos_of_ne_zero hx0) (by decide)) (zS rfl) (dR.refl _)))
  ·simp at hc
   have hx0:x = 0:=cC.1 (by simpa using hc)
   subst hx0
   have hfin:=hO.fin
   have hdl:=tT m
   rw [hfin] at hdl
   refine gW rfl (ts (rm rfl (Ga Tryz.call280 (a5T zo) (i:=0) rfl ⟨(Ht rfl),trivial⟩ rfl (fun _ _=>(eX (cK (gV (i:=0) (tt:=3) rfl rfl eR (cY (rm rfl (ro rfl (a07 Ss a6q a6r (Ht rfl) (by rw [← hfin]; simpa using a1K h0) (fun b hb=>a4i (n:=m) b (by rw [Ai h0,hfin]; exact hb))) ?_))))))))))
   refine ra rfl (eX (fW rfl (fX (eU rfl) ?_)))
   exact (pT (by rw [Ai h0,hfin]))
end
section
open Go Go.RowKit
theorem wC {n : Nat} {E : dA} {H : Hp} {d : Option Tmp} {t : TypeId} {pos : String} {af : Array Edge} {g : Option (Nat × Bool)} {x0 x1 : Operand} {T0 T1 : Ty} [s0 : dI T0 1 false] (h0 : bH E x0 T0) [s1 : dI T1 1 false] (h1 : bH E x1 T1) :
  aS Tryz.prog n E H ⟨d,.build 58 #[(0,x0),(1,x1)],t,pos,af,g⟩ (gN [T0,T1]) :=
 jZ (parts := [(0, x0), (1, x1)]) fun a V w hs => by
  have p0:=h0 n V a hs
  generalize e0:a.eval x0 = v0 at p0
  have q0:=(s0.ok v0 V p0).2.2 rfl
  have p1:=h1 n V a hs
  generalize e1:a.eval x1 = v1 at p1
  have q1:=(s1.ok v1 V p1).2.2 rfl
  refine ⟨.agg #[v0,v1],?_,[v0,v1],rfl,aW (⟨p0,q0⟩) (aW (⟨p1,q1⟩) (aG))⟩
  simp [e0,e1,Instr.build,Instr.fill,Sem.run_bind,Result.andThen,iW,q0.cells,q1.cells,O_58,U_58,Z_4,Z_56]
theorem lL (a:Addr) (w:World):(Instr.fieldAt 58 (.pointer (some a)) 0).run Tryz.prog w = .ok (.pointer (some (a.add 0))) w:=by
 simp [Instr.fieldAt,Instr.sureAddr,fieldPlace,Sem.run_bind,Result.andThen,U_58,Z_4]
theorem fB (a:Addr) (w:World):(Instr.fieldAt 58 (.pointer (some a)) 1).run Tryz.prog w = .ok (.pointer (some (a.add 1))) w:=by
 simp [Instr.fieldAt,Instr.sureAddr,fieldPlace,Sem.run_bind,Result.andThen,U_58,Z_56]
end
section
open Go Go.RowKit
theorem Gr {n:Int} (h1:-9223372036854775808 ≤ n) (h2:n ≤ 9223372036854775807):bR Tryz.prog 157 [aP .i64 n] (jT n):=by
 refine bR.intro Tryz.func157 rfl Tryz.ntmps157 rfl (fun cx=>(ts (rn rfl (eW (Ts:=[Is (.bool false),Is (.slice none 0 0)]) O_58 rfl (fun V=>aW zd (aW zd (aG)))) fun B2=>(eX (cK (ts (rm rfl (ro rfl (uB (Ht rfl) cV) (eX (dQ (Ht rfl) (fun hb=>?_) (fun hb=>?_)))))))))))
 ·have hn : n < 0 := by simpa using hb
  refine ts (rm rfl (ro rfl (Bb Tryz.runUnderlying2 U_263 (Ht rfl) (r:=((18446744073709551616 - n.natAbs:Nat):Int)) (by rw [IntKind.wrap_u64]; omega)) ?_))
  refine ro rfl (a4X (Ht rfl) (r:=((n.natAbs:Nat):Int)) (by rw [IntKind.wrap_u64]; omega)) ?_
  refine ro rfl (cZ Tryz.call238 (Gq zo) ⟨(Ht rfl),trivial⟩) (ro rfl (wC cV (Ht rfl)) (gQ Z_58 (Ht rfl) (Ht rfl) rfl (i:=0) rfl (aK rfl) rfl rfl (eX (fW rfl (fX (fK A_58 Z_58 rfl (i:=0) rfl rfl) ?_)))))
  exact (yK (by rw [hb]; rfl))
 ·have hn : ¬ n < 0 := by simpa using hb
  refine cU (ts (rm rfl (ro rfl (Bb Tryz.runUnderlying2 U_263 (Ht rfl) (r:=((n.natAbs:Nat):Int)) (by rw [IntKind.wrap_u64]; omega)) ?_)))
  refine ro rfl (cZ Tryz.call238 (Gq zo) ⟨(Ht rfl),trivial⟩) (ro rfl (wC cV (Ht rfl)) (gQ Z_58 (Ht rfl) (Ht rfl) rfl (i:=0) rfl (aK rfl) rfl rfl (eX (fW rfl (fX (fK A_58 Z_58 rfl (i:=0) rfl rfl) ?_)))))
  exact (yK (by rw [hb]; rfl))
theorem pD {b:Bool} {m:Nat}:bR Tryz.prog 234 [aH b,bA m] (jT (In b m)):=by
 refine bR.intro Tryz.func234 rfl Tryz.ntmps234 rfl (fun cx=>(ts (rn rfl (eW (Ts:=[Is (.bool false),Is (.slice none 0 0)]) O_58 rfl (fun V=>aW zd (aW zd (aG)))) fun B4=>(eX (ts (rm rfl (rm rfl (fQ rfl rfl (eK rfl rfl (Ht rfl) (fun h=>cX (Ht rfl))) (fQ rfl rfl (eK rfl rfl (Ht rfl) (fun h=>dG U_56 (fJ rfl h) aC)) (fQ rfl rfl (eK rfl rfl (Ht rfl) (fun h=>gA (fJ rfl h) (cJ 0))) (ro rfl (fC (Ht rfl) (fun h=>(fJ rfl h))) (rm rfl ?_))))))))))))
 refine ro rfl (wC (Ht rfl) (Ht rfl)) (gQ Z_58 (Ht rfl) (Ht rfl) rfl (i:=0) rfl (aK rfl) rfl rfl (eX (fW rfl (fX (fK A_58 Z_58 rfl (i:=0) rfl rfl) ?_))))
 exact a5d
theorem qD {x:Int}:bR Tryz.prog 167 [jT x] (jT (-x)):=by
 refine bR.intro Tryz.func167 rfl Tryz.ntmps167 rfl (fun cx=>(ts (rn rfl (fG (Ht rfl)) fun B1=>(rn rfl (eW (Ts:=[Is (.bool false),Is (.slice none 0 0)]) O_58 rfl (fun V=>aW zd (aW zd (aG)))) fun B2=>(eX (ts (ro rfl (eZ lL (Ht rfl) rfl) (ro rfl (eY A_4 Z_4 (Ht rfl) (i:=0) rfl rfl) (ro rfl (dH (Ht rfl)) (ro rfl (eZ fB (Ht rfl) rfl) (ro rfl (eY A_56 Z_56 (Ht rfl) (i:=0) rfl rfl) (ro rfl (cZ K_234 pD ⟨(Ht rfl),(Ht rfl),trivial⟩) ?_))))))))))))
 refine gQ Z_58 (Ht rfl) (Ht rfl) rfl (i:=1) rfl (aK rfl) rfl rfl (eX (fW rfl (fX (fK A_58 Z_58 rfl (i:=1) rfl rfl) ?_)))
 exact (rM (Vf x))
theorem wG {x y:Int} (hx:(dg x.natAbs).length ≤ 17592186044416) (hy:(dg y.natAbs).length ≤ 17592186044416):bR Tryz.prog 152 [jT x,jT y] (jT (x + y)):=by
 refine bR.intro Tryz.func152 rfl Tryz.ntmps152 rfl (fun cx=>(ts (rn rfl (fG (Ht rfl)) fun B2=>(rn rfl (fG (Ht rfl)) fun B3=>(rn rfl (eW (Ts:=[Is (.bool false),Is (.slice none 0 0)]) O_58 rfl (fun V=>aW zd (aW zd (aG)))) fun B4=>(eX (cK (ts (ro rfl (eZ lL (Ht rfl) rfl) (ro rfl (eY A_4 Z_4 (Ht rfl) (i:=0) rfl rfl) (ro rfl (eZ lL (Ht rfl) rfl) (ro rfl (eY A_4 Z_4 (Ht rfl) (i:=1) rfl rfl) (ro rfl (a4Q Tryz.runUnderlying4 (Ht rfl) (Ht rfl)) ?_)))))))))))))
 refine eX (dQ (Ht rfl) (fun hb=>?_) (fun hb=>?_))
 ·have he : decide (x < 0) = decide (y < 0) := by simpa using hb
  refine cK (fZ (m:=7) (dp 2 rfl (eZ lL (Ht rfl) rfl) (dq 10 0 rfl (eY A_4 Z_4 (Ht rfl) (i:=0) rfl rfl) (dp 2 rfl (eZ fB (Ht rfl) rfl) (dq 12 2 rfl (eY A_56 Z_56 (Ht rfl) (i:=0) rfl rfl) (dp 3 rfl (eZ fB (Ht rfl) rfl) (dq 14 4 rfl (eY A_56 Z_56 (Ht rfl) (i:=1) rfl rfl) (cP 13 3 15 5 rfl (cZ Tryz.call235 (a5Q zo zo) ⟨(Ht rfl),(Ht rfl),trivial⟩) (fV bC rfl (by kernel_rfl) (zF (aJ (aJ (aJ (aV ?_))))))))))))))
  refine ro rfl (cZ K_234 pD ⟨(Ht rfl),(Ht rfl),trivial⟩) (gQ Z_58 (Ht rfl) (Ht rfl) rfl (i:=2) rfl (aK rfl) rfl rfl (eX (fW rfl (fX (fK A_58 Z_58 rfl (i:=2) rfl rfl) ?_))))
  exact (rM (a0B he))
 ·have he : decide (x < 0) ≠ decide (y < 0) := by simpa using hb
  refine cU (cK (ts (ro rfl (eZ fB (Ht rfl) rfl) (ro rfl (eY A_56 Z_56 (Ht rfl) (i:=0) rfl rfl) (ro rfl (eZ fB (Ht rfl) rfl) (ro rfl (eY A_56 Z_56 (Ht rfl) (i:=1) rfl rfl) (ro rfl (cZ Tryz.call199 (Xh zo zo) ⟨(Ht rfl),(Ht rfl),trivial⟩) (ro rfl (nA (Ht rfl) cV) (eX (dQ (Ht rfl) (fun hc=>?_) (fun hc=>?_)))))))))))
  ·have hle : y.natAbs ≤ x.natAbs := a1y (by simpa using hc)
   refine cK (fZ (m:=7) (dp 2 rfl (eZ lL (Ht rfl) rfl) (dq 24 0 rfl (eY A_4 Z_4 (Ht rfl) (i:=0) rfl rfl) (dp 2 rfl (eZ fB (Ht rfl) rfl) (dq 26 2 rfl (eY A_56 Z_56 (Ht rfl) (i:=0) rfl rfl) (dp 3 rfl (eZ fB (Ht rfl) rfl) (dq 28 4 rfl (eY A_56 Z_56 (Ht rfl) (i:=1) rfl rfl) (cP 27 3 29 5 rfl (cZ Tryz.call236 (a3v zo zo) ⟨(Ht rfl),(Ht rfl),trivial⟩) (fV bC rfl (by kernel_rfl) (zF (aJ (aJ (aJ (aV ?_))))))))))))))
   refine ro rfl (cZ K_234 pD ⟨(Ht rfl),(Ht rfl),trivial⟩) (gQ Z_58 (Ht rfl) (Ht rfl) rfl (i:=2) rfl (aK rfl) rfl rfl (eX (fW rfl (fX (fK A_58 Z_58 rfl (i:=2) rfl rfl) ?_))))
   exact (rM (Lr he hle))
  ·have hle : x.natAbs ≤ y.natAbs := Nat.le_of_lt (a1z (by simpa using hc))
   refine cU (cK (fZ (m:=7) (dp 3 rfl (eZ lL (Ht rfl) rfl) (dq 32 0 rfl (eY A_4 Z_4 (Ht rfl) (i:=1) rfl rfl) (dp 3 rfl (eZ fB (Ht rfl) rfl) (dq 34 2 rfl (eY A_56 Z_56 (Ht rfl) (i:=1) rfl rfl) (dp 2 rfl (eZ fB (Ht rfl) rfl) (dq 36 4 rfl (eY A_56 Z_56 (Ht rfl) (i:=0) rfl rfl) (cP 35 3 37 5 rfl (cZ Tryz.call236 (a3v zo zo) ⟨(Ht rfl),(Ht rfl),trivial⟩) (fV bC rfl (by kernel_rfl) (zF (aJ (aJ (aJ (aV ?_)))))))))))))))
   refine ro rfl (cZ K_234 pD ⟨(Ht rfl),(Ht rfl),trivial⟩) (gQ Z_58 (Ht rfl) (Ht rfl) rfl (i:=2) rfl (aK rfl) rfl rfl (eX (fW rfl (fX (fK A_58 Z_58 rfl (i:=2) rfl rfl) ?_))))
   exact (rM (by rw [Lr (Ne.symm he) hle,Int.add_comm]))
theorem qE {x y:Int} (hx:(dg x.natAbs).length ≤ 17592186044416) (hy:(dg y.natAbs).length ≤ 17592186044416):bR Tryz.prog 151 [jT x,jT y] (jT (x * y)):=by
 refine bR.intro Tryz.func151 rfl Tryz.ntmps151 rfl (fun cx=>(ts (rn rfl (fG (Ht rfl)) fun B2=>(rn rfl (fG (Ht rfl)) fun B3=>(rn rfl (eW (Ts:=[Is (.bool false),Is (.slice none 0 0)]) O_58 rfl (fun V=>aW zd (aW zd (aG)))) fun B4=>(eX (cK (fZ (m:=10) (dp 2 rfl (eZ lL (Ht rfl) rfl) (dq 5 0 rfl (eY A_4 Z_4 (Ht rfl) (i:=0) rfl rfl) (dp 3 rfl (eZ lL (Ht rfl) rfl) (dq 7 2 rfl (eY A_4 Z_4 (Ht rfl) (i:=1) rfl rfl) (cP 6 1 8 3 rfl (a4R Tryz.runUnderlying4 (Ht rfl) (Ht rfl)) ?_)))))))))))))
 refine dp 2 rfl (eZ fB (Ht rfl) rfl) (dq 10 5 rfl (eY A_56 Z_56 (Ht rfl) (i:=0) rfl rfl) (dp 3 rfl (eZ fB (Ht rfl) rfl) (dq 12 7 rfl (eY A_56 Z_56 (Ht rfl) (i:=1) rfl rfl) (cP 11 6 13 8 rfl (cZ K_154 (Ep zo zo) ⟨(Ht rfl),(Ht rfl),trivial⟩) (fV bC rfl (by kernel_rfl) (zF (zF (aJ (aJ (aV (ro rfl (cZ K_234 pD ⟨(Ht rfl),(Ht rfl),trivial⟩) (gQ Z_58 (Ht rfl) (Ht rfl) rfl (i:=2) rfl (aK rfl) rfl rfl ?_))))))))))))
 refine eX (fW rfl (fX (fK A_58 Z_58 rfl (i:=2) rfl rfl) ?_))
 exact (rM (Vg x y))
theorem lW {x:Int} {n:Nat} (hx:(dg x.natAbs).length ≤ 17592186044416) (hn:(dg n).length ≤ 17592186044416):bR Tryz.prog 155 [jT x,bA n] (jT (x * n)):=by
 refine bR.intro Tryz.func155 rfl Tryz.ntmps155 rfl (fun cx=>(ts (rn rfl (fG (Ht rfl)) fun B2=>(rn rfl (eW (Ts:=[Is (.bool false),Is (.slice none 0 0)]) O_58 rfl (fun V=>aW zd (aW zd (aG)))) fun B4=>(eX (cK (fZ (m:=6) (dp 2 rfl (eZ lL (Ht rfl) rfl) (dq 5 0 rfl (eY A_4 Z_4 (Ht rfl) (i:=0) rfl rfl) (dp 2 rfl (eZ fB (Ht rfl) rfl) (dq 7 2 rfl (eY A_56 Z_56 (Ht rfl) (i:=0) rfl rfl) (dp 1 rfl (cX (Ht rfl)) (cP 8 3 9 4 rfl (cZ K_154 (Ep zo zo) ⟨(Ht rfl),(Ht rfl),trivial⟩) ?_)))))))))))))
 refine fV bC rfl (by kernel_rfl) (zF (aJ (aJ (aV (ro rfl (cZ K_234 pD ⟨(Ht rfl),(Ht rfl),trivial⟩) (gQ Z_58 (Ht rfl) (Ht rfl) rfl (i:=1) rfl (aK rfl) rfl rfl (eX (fW rfl (fX (fK A_58 Z_58 rfl (i:=1) rfl rfl) ?_)))))))))
 exact (rM (Ol x n))
theorem Gu {x y:Int} (hx:(dg x.natAbs).length ≤ 17592186044415) (hy:(dg y.natAbs).length ≤ 17592186044415):bR Tryz.prog 156 [jT x,jT y] (aP .i64 (oT x y)):=by
 have hny:=Cd y
 have hs:=nH (x:=x) (y:=-y) hx zo
 refine bR.intro Tryz.func156 rfl Tryz.ntmps156 rfl (fun cx=>(ts (rn rfl (fG (Ht rfl)) fun B2=>(rn rfl (fG (Ht rfl)) fun B3=>(ro rfl (cQ (cJ 0)) (eX (cK (fZ (m:=5) (dp 2 rfl (eJ A_58 Z_58 (Ht rfl) (i:=0) rfl rfl rfl) (dp 3 rfl (eJ A_58 Z_58 (Ht rfl) (i:=1) rfl rfl rfl) (dq 7 1 rfl (cZ K_167 qD ⟨(Ht rfl),trivial⟩) (cP 6 0 8 2 rfl (cZ K_152 (wG zo zo) ⟨(Ht rfl),(Ht rfl),trivial⟩) (C.D_new (Ei:=[]) rfl rfl rfl bW (eW (Ts:=[Is (.bool false),Is (.slice none 0 0)]) O_58 rfl (fun V=>aW zd (aW zd (aG)))) ?_)))))))))))))
 refine fV bC rfl (by kernel_rfl) (zF (C.F_new (fun B5=>aV (gQ Z_58 (Ht rfl) (Ht rfl) rfl (i:=2) rfl (aK rfl) rfl rfl (eX (cK (ts (ro rfl (eZ lL (Ht rfl) rfl) (ro rfl (eY A_4 Z_4 (Ht rfl) (i:=2) rfl rfl) (eX (dQ (Ht rfl) (fun hb=>?_) (fun hb=>?_))))))))))))
 ·have hn : x + -y < 0 := by simpa using hb
  refine ts (ro rfl (cQ cV) (eX (fW rfl (fX (eU rfl) ?_))))
  exact (bE (a1w hn))
 ·have hn : ¬ x + -y < 0 := by simpa using hb
  refine cU (ts (ro rfl (eZ fB (Ht rfl) rfl) (ro rfl (eY A_56 Z_56 (Ht rfl) (i:=2) rfl rfl) (ro rfl (dG U_56 (Ht rfl) aC) (ro rfl (Rr (Ht rfl) (cJ 1)) (ra rfl (eX (fW rfl (fX (eU rfl) ?_)))))))))
  exact (bE (a1v hn))
end
section
open Go Go.RowKit
theorem Wv {n : Nat} {E : dA} {H : Hp} {d : Option Tmp} {t : TypeId} {pos : String} {af : Array Edge} {g : Option (Nat × Bool)} {x0 : Operand} {T0 T1 : Ty} (h0 : bH E x0 (gN [T0, T1])) :
  aS Tryz.prog n E H ⟨d,.build 60 #[(0,x0)],t,pos,af,g⟩ (gN [T0,T1,Is (.bool false),Is (.slice none 0 0),Is (.slice none 0 0)]) :=
 jZ (parts := [(0, x0)]) fun a V w hs => by
  obtain ⟨v0,e0,c0⟩:=h0 n V a hs
  obtain ⟨c0_0,c0_1,rfl⟩:∃ c0_0 c0_1,v0 = [c0_0,c0_1]:=Kq (by simpa using c0.length)
  refine ⟨.agg #[c0_0,c0_1,(.bool false),(.slice none 0 0),(.slice none 0 0)],?_,[c0_0,c0_1,(.bool false),(.slice none 0 0),(.slice none 0 0)],rfl,aW (c0.at (i:=0) rfl rfl) (aW (c0.at (i:=1) rfl rfl) (aW (⟨rfl,trivial⟩) (aW (⟨rfl,trivial⟩) (aW (⟨rfl,trivial⟩) (aG)))))⟩
  simp [e0,Instr.build,Instr.fill,Sem.run_bind,Result.andThen,iW,O_60,U_60,Z_56,Z_58]
theorem rR {n : Nat} {E : dA} {H : Hp} {d : Option Tmp} {t : TypeId} {pos : String} {af : Array Edge} {g : Option (Nat × Bool)} {x0 x1 x2 : Operand} {T0 T1 T2 T3 T4 : Ty} (h0 : bH E x0 (gN [T0, T1])) (h1 : bH E x1 (gN [T2, T3])) [s2 : dI T4 1 false] (h2 : bH E x2 T4) :
  aS Tryz.prog n E H ⟨d,.build 60 #[(0,x0),(1,x1),(2,x2)],t,pos,af,g⟩ (gN [T0,T1,T2,T3,T4]) :=
 jZ (parts := [(0, x0), (1, x1), (2, x2)]) fun a V w hs => by
  obtain ⟨v0,e0,c0⟩:=h0 n V a hs
  obtain ⟨c0_0,c0_1,rfl⟩:∃ c0_0 c0_1,v0 = [c0_0,c0_1]:=Kq (by simpa using c0.length)
  obtain ⟨v1,e1,c1⟩:=h1 n V a hs
  obtain ⟨c1_0,c1_1,rfl⟩:∃ c1_0 c1_1,v1 = [c1_0,c1_1]:=Kq (by simpa using c1.length)
  have p2:=h2 n V a hs
  generalize e2:a.eval x2 = v2 at p2
  have q2:=(s2.ok v2 V p2).2.2 rfl
  refine ⟨.agg #[c0_0,c0_1,c1_0,c1_1,v2],?_,[c0_0,c0_1,c1_0,c1_1,v2],rfl,aW (c0.at (i:=0) rfl rfl) (aW (c0.at (i:=1) rfl rfl) (aW (c1.at (i:=0) rfl rfl) (aW (c1.at (i:=1) rfl rfl) (aW (⟨p2,q2⟩) (aG)))))⟩
  simp [e0,e1,e2,Instr.build,Instr.fill,Sem.run_bind,Result.andThen,iW,q2.cells,O_60,U_60,Z_56,Z_58]
theorem fR (a:Addr) (w:World):(Instr.fieldAt 60 (.pointer (some a)) 0).run Tryz.prog w = .ok (.pointer (some (a.add 0))) w:=by
 simp [Instr.fieldAt,Instr.sureAddr,fieldPlace,Sem.run_bind,Result.andThen,U_60,Z_58]
theorem gF (a:Addr) (w:World):(Instr.fieldAt 60 (.pointer (some a)) 1).run Tryz.prog w = .ok (.pointer (some (a.add 2))) w:=by
 simp [Instr.fieldAt,Instr.sureAddr,fieldPlace,Sem.run_bind,Result.andThen,U_60,Z_58]
theorem qI (a:Addr) (w:World):(Instr.fieldAt 60 (.pointer (some a)) 2).run Tryz.prog w = .ok (.pointer (some (a.add 4))) w:=by
 simp [Instr.fieldAt,Instr.sureAddr,fieldPlace,Sem.run_bind,Result.andThen,U_60,Z_56]
end
section
open Go Go.RowKit
theorem wF {A B:Int} {D:Nat} (hD:0 < D) (hA:(dg A.natAbs).length ≤ 17592186044415) (hB:(dg B.natAbs).length ≤ 17592186044415) (hD2:(dg D).length ≤ 17592186044415):bR Tryz.prog 150 [jT A,jT B,bA D] (aF (Qi.mk' A B D)):=by
 have hg1:=Yl hA hB
 have hg2:=Yl hg1 hD2
 have hgp:Nat.gcd (Nat.gcd A.natAbs B.natAbs) D ≠ 0:=fun e=>by have:=Nat.gcd_eq_zero_iff.1 e; omega
 refine bR.intro Tryz.func150 rfl Tryz.ntmps150 rfl (fun cx=>(ts (rn rfl (fG (Ht rfl)) fun B3=>(rn rfl (fG (Ht rfl)) fun B4=>(rn rfl (eW (Ts:=[Is (.bool false),Is (.slice none 0 0),Is (.bool false),Is (.slice none 0 0),Is (.slice none 0 0)]) O_60 rfl (fun V=>aW zd (aW zd (aW zd (aW zd (aW zd (aG))))))) fun B6=>(eX (ts (ro rfl (eZ fB (Ht rfl) rfl) (ro rfl (eY A_56 Z_56 (Ht rfl) (i:=0) rfl rfl) ?_)))))))))
 refine ro rfl (eZ fB (Ht rfl) rfl) (ro rfl (eY A_56 Z_56 (Ht rfl) (i:=1) rfl rfl) (ro rfl (cZ Tryz.call231 (a3r zo zo) ⟨(Ht rfl),(Ht rfl),trivial⟩) (rm rfl (ro rfl (cZ Tryz.call231 (a3r zo zo) ⟨(Ht rfl),(Ht rfl),trivial⟩) (ra rfl (eX (cK (mG (fun (uu:Unit)=>True) (fun (uu:Unit)=>[(2,bA (D / (Nat.gcd (Nat.gcd A.natAbs B.natAbs) D))),(3,bO B3 0),(4,bO B4 0),(6,bO B6 0)]) (fun (uu:Unit)=>[box B3 58 [aH (decide (A < 0)),bA (A.natAbs / (Nat.gcd (Nat.gcd A.natAbs B.natAbs) D))],box B4 58 [aH (decide (B < 0)),bA (B.natAbs / (Nat.gcd (Nat.gcd A.natAbs B.natAbs) D))],box B6 60 [Is (.bool false),Is (.slice none 0 0),Is (.bool false),Is (.slice none 0 0),Is (.slice none 0 0)]]) ?_ (fun uu _=>?_)))))))))
 ·refine ts (rm rfl (ro rfl (cZ Tryz.call232 a3s ⟨(Ht rfl), trivial⟩) (ro rfl (dH (Ht rfl)) (eX (dQ (Ht rfl) (fun hb => ?_) (fun hb => ?_))))))
  ·simp at hb
   refine ts (ro rfl (eZ fB (Ht rfl) rfl) (ro rfl (eY A_56 Z_56 (Ht rfl) (i:=0) rfl rfl) (rm rfl (ro rfl (cZ Tryz.call233 (Pr zo zo zo) ⟨(Ht rfl),(Ht rfl),trivial⟩) (rm rfl (ro rfl (dK (Ht rfl) rfl) (ro rfl (dK (Ht rfl) rfl) (ro rfl (eZ fB (Ht rfl) rfl) (pX Z_56 (Ht rfl) (Ht rfl) (i:=0) rfl (aK rfl) rfl (eX (ts (ro rfl (eZ fB (Ht rfl) rfl) (ro rfl (eY A_56 Z_56 (Ht rfl) (i:=1) rfl rfl) (rm rfl (ro rfl (cZ Tryz.call233 (Pr zo zo zo) ⟨(Ht rfl),(Ht rfl),trivial⟩) ?_)))))))))))))))
   refine rm rfl (ro rfl (dK (Ht rfl) rfl) (ro rfl (dK (Ht rfl) rfl) (ro rfl (eZ fB (Ht rfl) rfl) (pX Z_56 (Ht rfl) (Ht rfl) (i:=1) rfl (aK rfl) rfl (eX (cY (rm rfl (rm rfl (ro rfl (cZ Tryz.call233 (Pr zo zo zo) ⟨(Ht rfl),(Ht rfl),trivial⟩) (rm rfl (ro rfl (dK (Ht rfl) rfl) (ro rfl (dK (Ht rfl) rfl) (ra rfl (eX (cD () trivial (zS rfl) (aU (aA (by first | rfl | simp)) (aU (aA (by first | rfl | simp)) (aU (aA rfl) aY))))))))))))))))))
  ·simp at hb
   refine cU (cD () trivial (aZ rfl (gP (by rw [hb,Nat.div_one])) (zS rfl)) (aU (aA (by rw [hb,Nat.div_one])) (aU (aA (by rw [hb,Nat.div_one])) (aU (aA rfl) aY))))
 ·refine cK (mG (fun (uu : Unit) => True) (fun (uu : Unit) => [(2, bA (if D / (Nat.gcd (Nat.gcd A.natAbs B.natAbs) D) = 1 then 0 else D / (Nat.gcd (Nat.gcd A.natAbs B.natAbs) D))), (3, bO B3 0), (4, bO B4 0), (6, bO B6 0)]) (fun (uu : Unit) => [box B3 58 [aH (decide (A < 0)), bA (A.natAbs / (Nat.gcd (Nat.gcd A.natAbs B.natAbs) D))], box B4 58 [aH (decide (B < 0)), bA (B.natAbs / (Nat.gcd (Nat.gcd A.natAbs B.natAbs) D))], box B6 60 [Is (.bool false), Is (.slice none 0 0), Is (.bool false), Is (.slice none 0 0), Is (.slice none 0 0)]]) ?_ (fun uu _ => ?_))
  ·refine ts (rm rfl (ro rfl (cZ Tryz.call232 a3s ⟨(Ht rfl), trivial⟩) (eX (dQ (Ht rfl) (fun hb => ?_) (fun hb => ?_)))))
   ·simp only [decide_eq_true_eq] at hb
    refine cY (ro rfl (cQ cV) (eX (cD () trivial (aZ rfl (fun v V h=>gP (by rw [if_pos hb]) v V (oC v V h)) (zS rfl)) (dR.refl _))))
   ·simp only [decide_eq_false_iff_not] at hb
    refine cU (cD () trivial (aZ rfl (gP (by rw [if_neg hb])) (zS rfl)) (dR.refl _))
  ·refine ts (ro rfl (eJ A_58 Z_58 (Ht rfl) (i := 0) rfl rfl rfl) (ro rfl (eJ A_58 Z_58 (Ht rfl) (i := 1) rfl rfl rfl) (rm rfl (ro rfl (rR (Ht rfl) (Ht rfl) (Ht rfl)) (gQ Z_60 (Ht rfl) (Ht rfl) rfl (i := 2) rfl (aK rfl) rfl rfl (eX (fW rfl (fX (fK A_60 Z_60 rfl (i := 2) rfl rfl) ?_))))))))
   exact (a2P hD)
theorem oQ {x:Qi}:bR Tryz.prog 153 [aF x] (bA x.den):=by
 refine bR.intro Tryz.func153 rfl Tryz.ntmps153 rfl (fun cx=>(ts (rn rfl (fG (Ht rfl)) fun B1=>(ro rfl (cQ cV) (eX (cK (ts (ro rfl (eZ qI (Ht rfl) rfl) (ro rfl (eY A_56 Z_56 (Ht rfl) (i:=0) rfl rfl) (ro rfl (dG U_56 (Ht rfl) aC) (ro rfl (eB (Ht rfl) (cJ 0)) (eX (dQ (Ht rfl) (fun hb=>?_) (fun hb=>?_))))))))))))))
 ·simp at hb
  have h1:x.den = 1:=Ak (cC.1 (by simpa using hb))
  refine ts (ro rfl (cE (xs:=[_]) U_56 Z_218 Tryz.zeroValue218 (cW (cJ 1) cG) rfl rfl rfl) (ra rfl (eX (fW rfl (fX (eU rfl) ?_)))))
  exact (fun v V h=>gP h1.symm v V (Lc v V h))
 ·simp at hb
  have h1:du x = x.den:=xD (fun e=>hb (by simp [e,fP]))
  refine cU (ts (ro rfl (eZ qI (Ht rfl) rfl) (ro rfl (eY A_56 Z_56 (Ht rfl) (i:=0) rfl rfl) (ra rfl (eX (fW rfl (fX (eU rfl) ?_)))))))
  exact (gP h1)
theorem mK {n:Int} (h1:-9223372036854775808 ≤ n) (h2:n ≤ 9223372036854775807):bR Tryz.prog 52 [aP .i64 n] (aF (Qi.ofInt n)):=by
 refine bR.intro Tryz.func52 rfl Tryz.ntmps52 rfl (fun cx=>(ts (rn rfl (eW (Ts:=[Is (.bool false),Is (.slice none 0 0),Is (.bool false),Is (.slice none 0 0),Is (.slice none 0 0)]) O_60 rfl (fun V=>aW zd (aW zd (aW zd (aW zd (aW zd (aG))))))) fun B2=>(eX (ts (rm rfl (ro rfl (cZ Tryz.call157 (Gr h1 h2) ⟨(Ht rfl),trivial⟩) (ro rfl (Wv (Ht rfl)) (gQ Z_60 (Ht rfl) (Ht rfl) rfl (i:=0) rfl (aK rfl) rfl rfl ?_)))))))))
 refine eX (fW rfl (fX (fK A_60 Z_60 rfl (i:=0) rfl rfl) ?_))
 exact Rm
theorem a3q {p q d:Int} (p1:-9223372036854775808 ≤ p) (p2:p ≤ 9223372036854775807) (q1:-9223372036854775808 ≤ q) (q2:q ≤ 9223372036854775807) (d1:-9223372036854775808 ≤ d) (d2:d ≤ 9223372036854775807) (hd:d ≠ 0):bR Tryz.prog 108 [aP .i64 p,aP .i64 q,aP .i64 d] (eD [aF (Qi.frac p q d),aP .i64 0]):=by
 have lp:=a4m p1 p2; have lq:=a4m q1 q2; have ld:=a4m d1 d2; have np:=Cd p; have nq:=Cd q
 refine bR.intro Tryz.func108 rfl Tryz.ntmps108 rfl (fun cx=>(ts (rn rfl (eW (Ts:=[Is (.bool false),Is (.slice none 0 0),Is (.bool false),Is (.slice none 0 0),Is (.slice none 0 0)]) O_60 rfl (fun V=>aW zd (aW zd (aW zd (aW zd (aW zd (aG))))))) fun B6=>(ro rfl (cQ (cJ 0)) (eX (cK (ts (rm rfl (ro rfl (mH (Ht rfl) cV) (eX (nO (Ht rfl) (by simp [hd]) ?_)))))))))))
 refine cU (ts (rm rfl (ro rfl (cZ Tryz.call157 (Gr p1 p2) ⟨(Ht rfl),trivial⟩) (rm rfl (ro rfl (cZ Tryz.call157 (Gr q1 q2) ⟨(Ht rfl),trivial⟩) (rm rfl (ro rfl (cZ Tryz.call157 (Gr d1 d2) ⟨(Ht rfl),trivial⟩) (rn rfl (eW (Ts:=[Is (.bool false),Is (.slice none 0 0)]) O_58 rfl (fun V=>aW zd (aW zd (aG)))) fun B8=>(rn rfl (eW (Ts:=[Is (.bool false),Is (.slice none 0 0)]) O_58 rfl (fun V=>aW zd (aW zd (aG)))) fun B9=>?_)))))))))
 refine rn rfl (eW (Ts:=[Is (.bool false),Is (.slice none 0 0)]) O_58 rfl (fun V=>aW zd (aW zd (aG)))) fun B10=>gQ Z_58 (Ht rfl) (Ht rfl) rfl (i:=1) rfl (aK rfl) rfl rfl (gQ Z_58 (Ht rfl) (Ht rfl) rfl (i:=2) rfl (aK rfl) rfl rfl (gQ Z_58 (Ht rfl) (Ht rfl) rfl (i:=3) rfl (aK rfl) rfl rfl (eX (cK (wR (fun (a:Int) (b:Int)=>Qi.mk' a b d.natAbs = Qi.frac p q d ∧ (dg a.natAbs).length ≤ 2 ∧ (dg b.natAbs).length ≤ 2) (fun (a:Int) (b:Int)=>[(6,bO B6 0),(8,bO B8 0),(9,bO B9 0),(10,bO B10 0)]) (fun (a:Int) (b:Int)=>[box B6 60 [Is (.bool false),Is (.slice none 0 0),Is (.bool false),Is (.slice none 0 0),Is (.slice none 0 0)],box B8 58 [aH (decide (a < 0)),bA (a).natAbs],box B9 58 [aH (decide (b < 0)),bA (b).natAbs],box B10 58 [aH (decide (d < 0)),bA (d).natAbs]]) ?_ (fun a b ⟨hab,ha,hb⟩=>?_))))))
 ·refine ts (ro rfl (eZ lL (Ht rfl) rfl) (ro rfl (eY A_4 Z_4 (Ht rfl) (i := 3) rfl rfl) (eX (dQ (Ht rfl) (fun hn => ?_) (fun hn => ?_)))))
  ·simp only [decide_eq_true_eq] at hn
   refine fZ (m:=3) (dp 8 rfl (eJ A_58 Z_58 (Ht rfl) (i:=1) rfl rfl rfl) (dq 22 0 rfl (cZ K_167 qD ⟨(Ht rfl),trivial⟩) (dp 9 rfl (eJ A_58 Z_58 (Ht rfl) (i:=2) rfl rfl rfl) (fV bC rfl (by kernel_rfl) (aJ (aJ (aJ (aV (ro rfl (cZ K_167 qD ⟨(Ht rfl),trivial⟩) (gQ Z_58 (Ht rfl) (Ht rfl) rfl (i:=1) rfl (aK rfl) rfl rfl (gQ Z_58 (Ht rfl) (Ht rfl) rfl (i:=2) rfl (aK rfl) rfl rfl (eX (cD (-p,-q) ⟨Qi.frac_neg hn,by dsimp only; omega,by dsimp only; omega⟩ (zS rfl) (aU (aA rfl) (aU (aA rfl) (aU (aA rfl) (aU (aA rfl) aY)))))))))))))))))
  ·simp only [decide_eq_false_iff_not] at hn
   refine cU (cD (p,q) ⟨Qi.frac_pos hn hd,by omega,by omega⟩ (zS rfl) (dR.refl _))
 ·refine ts (ro rfl (eJ A_58 Z_58 (Ht rfl) (i := 1) rfl rfl rfl) (ro rfl (eJ A_58 Z_58 (Ht rfl) (i := 2) rfl rfl rfl) (ro rfl (eZ fB (Ht rfl) rfl) (ro rfl (eY A_56 Z_56 (Ht rfl) (i := 3) rfl rfl) (ro rfl (cZ K_150 (wF zo zo zo zo) ⟨(Ht rfl), (Ht rfl), (Ht rfl), trivial⟩) (gQ Z_60 (Ht rfl) (Ht rfl) rfl (i := 0) rfl (aK rfl) rfl rfl (ro rfl (cQ (cJ 0)) (eX (bN rfl (fX (fK A_60 Z_60 rfl (i := 0) rfl rfl) ?_) (eU rfl))))))))))
  exact (jU hab)
theorem rB {x y:Qi} {L M:Nat} [hx:aE x L] [hy:aE y M] (h:L + M + 1 ≤ 17592186044415):bR Tryz.prog 71 [aF x,aF y] (aF (x + y)):=by
 have hxa:=oM hx.fit; have hxb:=oN hx.fit; have hxd:=oO hx.fit
 have hya:=oM hy.fit; have hyb:=oN hy.fit; have hyd:=oO hy.fit
 have hxp:=x.den_pos; have hyp:=y.den_pos; have hdp:=Nat.mul_pos hxp hyp
 have e1:=gO x.a y.den; have e2:=gO y.a x.den; have e3:=gO x.b y.den; have e4:=gO y.b x.den; have e5:=yS x.den y.den
 have e6:=nH (x:=x.a * y.den) (y:=y.a * x.den) (L:=L + M) zo zo; have e7:=nH (x:=x.b * y.den) (y:=y.b * x.den) (L:=L + M) zo zo
 refine bR.intro Tryz.func71 rfl Tryz.ntmps71 rfl (fun cx=>(ts (rn rfl (fG (Ht rfl)) fun B2=>(rn rfl (fG (Ht rfl)) fun B3=>(rn rfl (eW (Ts:=[Is (.bool false),Is (.slice none 0 0),Is (.bool false),Is (.slice none 0 0),Is (.slice none 0 0)]) O_60 rfl (fun V=>aW zd (aW zd (aW zd (aW zd (aW zd (aG))))))) fun B4=>(eX (cK (fZ (m:=3) (dp 2 rfl (eJ A_60 Z_60 (Ht rfl) (i:=0) rfl rfl rfl) (dq 7 0 rfl (cZ K_153 oQ ⟨(Ht rfl),trivial⟩) ?_))))))))))
 refine dp 3 rfl (eJ A_60 Z_60 (Ht rfl) (i:=1) rfl rfl rfl) (fV bC rfl (by kernel_rfl) (aJ (aJ (aJ (aV (ro rfl (cZ K_153 oQ ⟨(Ht rfl),trivial⟩) (ra rfl (ra rfl (eX (cK (fZ (m:=20) (dp 2 rfl (eZ fR (Ht rfl) rfl) (dq 11 0 rfl (eJ A_58 Z_58 (Ht rfl) (i:=0) rfl rfl rfl) (dp 6 rfl (cX (Ht rfl)) (cP 12 1 13 2 rfl (cZ K_155 (lW zo zo) ⟨(Ht rfl),(Ht rfl),trivial⟩) (dp 3 rfl (eZ fR (Ht rfl) rfl) (dq 15 4 rfl (eJ A_58 Z_58 (Ht rfl) (i:=1) rfl rfl rfl) ?_)))))))))))))))))
 refine dp 5 rfl (cX (Ht rfl)) (cP 16 5 17 6 rfl (cZ K_155 (lW zo zo) ⟨(Ht rfl),(Ht rfl),trivial⟩) (cP 14 3 18 7 rfl (cZ K_152 (wG zo zo) ⟨(Ht rfl),(Ht rfl),trivial⟩) (dp 2 rfl (eZ gF (Ht rfl) rfl) (dq 20 9 rfl (eJ A_58 Z_58 (Ht rfl) (i:=0) rfl rfl rfl) (dp 6 rfl (cX (Ht rfl)) (cP 21 10 22 11 rfl (cZ K_155 (lW zo zo) ⟨(Ht rfl),(Ht rfl),trivial⟩) (dp 3 rfl (eZ gF (Ht rfl) rfl) (dq 24 13 rfl (eJ A_58 Z_58 (Ht rfl) (i:=1) rfl rfl rfl) ?_))))))))
 refine dp 5 rfl (cX (Ht rfl)) (cP 25 14 26 15 rfl (cZ K_155 (lW zo zo) ⟨(Ht rfl),(Ht rfl),trivial⟩) (cP 23 12 27 16 rfl (cZ K_152 (wG zo zo) ⟨(Ht rfl),(Ht rfl),trivial⟩) (dp 5 rfl (cX (Ht rfl)) (dp 6 rfl (cX (Ht rfl)) (fV bC rfl (by kernel_rfl) (zF (zF (zF (zF (zF (aV (ro rfl (cZ K_154 (Ep zo zo) ⟨(Ht rfl),(Ht rfl),trivial⟩) ?_))))))))))))
 refine ro rfl (cZ K_150 (wF (by first | assumption | omega) zo zo zo) ⟨(Ht rfl),(Ht rfl),(Ht rfl),trivial⟩) (gQ Z_60 (Ht rfl) (Ht rfl) rfl (i:=2) rfl (aK rfl) rfl rfl (eX (fW rfl (fX (fK A_60 Z_60 rfl (i:=2) rfl rfl) ?_))))
 exact (jU (Qi.mk_add x y))
theorem Ji {x:Qi}:bR Tryz.prog 168 [aF x] (aF (-x)):=by
 refine bR.intro Tryz.func168 rfl Tryz.ntmps168 rfl (fun cx=>(ts (rn rfl (fG (Ht rfl)) fun B1=>(rn rfl (eW (Ts:=[Is (.bool false),Is (.slice none 0 0),Is (.bool false),Is (.slice none 0 0),Is (.slice none 0 0)]) O_60 rfl (fun V=>aW zd (aW zd (aW zd (aW zd (aW zd (aG))))))) fun B2=>(eX (cK (fZ (m:=8) (dp 1 rfl (eZ fR (Ht rfl) rfl) (dq 3 0 rfl (eJ A_58 Z_58 (Ht rfl) (i:=0) rfl rfl rfl) (dq 4 1 rfl (cZ K_167 qD ⟨(Ht rfl),trivial⟩) ?_))))))))))
 refine dp 1 rfl (eZ gF (Ht rfl) rfl) (dq 6 3 rfl (eJ A_58 Z_58 (Ht rfl) (i:=0) rfl rfl rfl) (dq 7 4 rfl (cZ K_167 qD ⟨(Ht rfl),trivial⟩) (dp 1 rfl (eZ qI (Ht rfl) rfl) (dq 9 6 rfl (eY A_56 Z_56 (Ht rfl) (i:=0) rfl rfl) (fV bC rfl (by kernel_rfl) (zF (zF (aV (ro rfl (rR (Ht rfl) (Ht rfl) (Ht rfl)) (gQ Z_60 (Ht rfl) (Ht rfl) rfl (i:=1) rfl (aK rfl) rfl rfl (eX (fW rfl (fX (fK A_60 Z_60 rfl (i:=1) rfl rfl) ?_)))))))))))))
 exact (yK (by obtain ⟨e1,e2,e3⟩:=Qi.neg_a x; rw [e1,e2,a3y e3]; rfl))
theorem wD {x:Qi}:bR Tryz.prog 173 [aF x] (aF x.conj):=by
 refine bR.intro Tryz.func173 rfl Tryz.ntmps173 rfl (fun cx=>(ts (rn rfl (fG (Ht rfl)) fun B1=>(rn rfl (eW (Ts:=[Is (.bool false),Is (.slice none 0 0),Is (.bool false),Is (.slice none 0 0),Is (.slice none 0 0)]) O_60 rfl (fun V=>aW zd (aW zd (aW zd (aW zd (aW zd (aG))))))) fun B2=>(eX (cK (fZ (m:=7) (dp 1 rfl (eZ fR (Ht rfl) rfl) (dq 3 0 rfl (eJ A_58 Z_58 (Ht rfl) (i:=0) rfl rfl rfl) (dp 1 rfl (eZ gF (Ht rfl) rfl) ?_))))))))))
 refine dq 5 2 rfl (eJ A_58 Z_58 (Ht rfl) (i:=0) rfl rfl rfl) (dq 6 3 rfl (cZ K_167 qD ⟨(Ht rfl),trivial⟩) (dp 1 rfl (eZ qI (Ht rfl) rfl) (dq 8 5 rfl (eY A_56 Z_56 (Ht rfl) (i:=0) rfl rfl) (fV bC rfl (by kernel_rfl) (zF (aJ (aJ (aJ (aV (ro rfl (rR (Ht rfl) (Ht rfl) (Ht rfl)) (gQ Z_60 (Ht rfl) (Ht rfl) rfl (i:=1) rfl (aK rfl) rfl rfl (eX (fW rfl (fX (fK A_60 Z_60 rfl (i:=1) rfl rfl) ?_))))))))))))))
 exact (yK (by obtain ⟨e1,e2,e3⟩:=Qi.conj_a x; rw [e1,e2,a3y e3]; rfl))
theorem qC {x y:Qi} {L M:Nat} [hx:aE x L] [hy:aE y M] (h:L + M + 1 ≤ 17592186044415):bR Tryz.prog 69 [aF x,aF y] (aF (x - y)):=by
 have hxa:=oM hx.fit; have hxb:=oN hx.fit; have hxd:=oO hx.fit
 have hya:=oM hy.fit; have hyb:=oN hy.fit; have hyd:=oO hy.fit
 have hxp:=x.den_pos; have hyp:=y.den_pos; have hdp:=Nat.mul_pos hxp hyp
 refine bR.intro Tryz.func69 rfl Tryz.ntmps69 rfl (fun cx=>(ts (rn rfl (fG (Ht rfl)) fun B2=>(rn rfl (fG (Ht rfl)) fun B3=>(rn rfl (eW (Ts:=[Is (.bool false),Is (.slice none 0 0),Is (.bool false),Is (.slice none 0 0),Is (.slice none 0 0)]) O_60 rfl (fun V=>aW zd (aW zd (aW zd (aW zd (aW zd (aG))))))) fun B4=>(eX (cK (fZ (m:=3) (dp 2 rfl (eJ A_60 Z_60 (Ht rfl) (i:=0) rfl rfl rfl) (dp 3 rfl (eJ A_60 Z_60 (Ht rfl) (i:=1) rfl rfl rfl) ?_))))))))))
 refine dq 6 1 rfl (cZ Tryz.call168 Ji ⟨(Ht rfl),trivial⟩) (fV bC rfl (by kernel_rfl) (aJ (aJ (aJ (aV (ro rfl (cZ K_71 (rB zo) ⟨(Ht rfl),(Ht rfl),trivial⟩) (gQ Z_60 (Ht rfl) (Ht rfl) rfl (i:=2) rfl (aK rfl) rfl rfl (eX (fW rfl (fX (fK A_60 Z_60 rfl (i:=2) rfl rfl) ?_))))))))))
 exact (jU (Qi.sub_def x y).symm)
theorem iF {x y:Qi} {L M:Nat} [hx:aE x L] [hy:aE y M] (h:L + M + 1 ≤ 17592186044415):bR Tryz.prog 70 [aF x,aF y] (aF (x * y)):=by
 have hxa:=oM hx.fit; have hxb:=oN hx.fit; have hxd:=oO hx.fit
 have hya:=oM hy.fit; have hyb:=oN hy.fit; have hyd:=oO hy.fit
 have hxp:=x.den_pos; have hyp:=y.den_pos; have hdp:=Nat.mul_pos hxp hyp
 have e1:=mN x.a y.a; have e2:=mN x.b y.b; have e3:=mN x.a y.b; have e4:=mN x.b y.a; have e5:=yS x.den y.den; have e8:=Cd (x.b * y.b)
 have e6:=nH (x:=x.a * y.a) (y:=-(x.b * y.b)) (L:=L + M) zo zo; have e7:=nH (x:=x.a * y.b) (y:=x.b * y.a) (L:=L + M) zo zo
 refine bR.intro Tryz.func70 rfl Tryz.ntmps70 rfl (fun cx=>(ts (rn rfl (fG (Ht rfl)) fun B2=>(rn rfl (fG (Ht rfl)) fun B3=>(rn rfl (eW (Ts:=[Is (.bool false),Is (.slice none 0 0),Is (.bool false),Is (.slice none 0 0),Is (.slice none 0 0)]) O_60 rfl (fun V=>aW zd (aW zd (aW zd (aW zd (aW zd (aG))))))) fun B4=>(eX (cK (fZ (m:=13) (dp 2 rfl (eZ fR (Ht rfl) rfl) (dq 7 0 rfl (eJ A_58 Z_58 (Ht rfl) (i:=0) rfl rfl rfl) ?_))))))))))
 refine dp 3 rfl (eZ fR (Ht rfl) rfl) (dq 9 2 rfl (eJ A_58 Z_58 (Ht rfl) (i:=1) rfl rfl rfl) (cP 8 1 10 3 rfl (cZ K_151 (qE zo zo) ⟨(Ht rfl),(Ht rfl),trivial⟩) (dp 2 rfl (eZ gF (Ht rfl) rfl) (dq 12 5 rfl (eJ A_58 Z_58 (Ht rfl) (i:=0) rfl rfl rfl) (dp 3 rfl (eZ gF (Ht rfl) rfl) (dq 14 7 rfl (eJ A_58 Z_58 (Ht rfl) (i:=1) rfl rfl rfl) (cP 13 6 15 8 rfl (cZ K_151 (qE zo zo) ⟨(Ht rfl),(Ht rfl),trivial⟩) (dq 16 9 rfl (cZ K_167 qD ⟨(Ht rfl),trivial⟩) ?_))))))))
 refine cP 11 4 17 10 rfl (cZ K_152 (wG zo zo) ⟨(Ht rfl),(Ht rfl),trivial⟩) (C.D_new (Ei:=[]) rfl rfl rfl bW (eW (Ts:=[Is (.bool false),Is (.slice none 0 0)]) O_58 rfl (fun V=>aW zd (aW zd (aG)))) (fV bC rfl (by kernel_rfl) (zF (zF (zF (C.F_new (fun B5=>aV (gQ Z_58 (Ht rfl) (Ht rfl) rfl (i:=3) rfl (aK rfl) rfl rfl (eX ?_)))))))))
 refine cK (fZ (m:=12) (dp 2 rfl (eZ fR (Ht rfl) rfl) (dq 19 0 rfl (eJ A_58 Z_58 (Ht rfl) (i:=0) rfl rfl rfl) (dp 3 rfl (eZ gF (Ht rfl) rfl) (dq 21 2 rfl (eJ A_58 Z_58 (Ht rfl) (i:=1) rfl rfl rfl) (cP 20 1 22 3 rfl (cZ K_151 (qE zo zo) ⟨(Ht rfl),(Ht rfl),trivial⟩) (dp 2 rfl (eZ gF (Ht rfl) rfl) (dq 24 5 rfl (eJ A_58 Z_58 (Ht rfl) (i:=0) rfl rfl rfl) (dp 3 rfl (eZ fR (Ht rfl) rfl) (dq 26 7 rfl (eJ A_58 Z_58 (Ht rfl) (i:=1) rfl rfl rfl) ?_))))))))))
 refine cP 25 6 27 8 rfl (cZ K_151 (qE zo zo) ⟨(Ht rfl),(Ht rfl),trivial⟩) (cP 23 4 28 9 rfl (cZ K_152 (wG zo zo) ⟨(Ht rfl),(Ht rfl),trivial⟩) (C.D_new (Ei:=[]) rfl rfl rfl bW (eW (Ts:=[Is (.bool false),Is (.slice none 0 0)]) O_58 rfl (fun V=>aW zd (aW zd (aG)))) (fV bC rfl (by kernel_rfl) (zF (zF (aJ (aJ (aJ (C.F_new (fun B6=>aV (gQ Z_58 (Ht rfl) (Ht rfl) rfl (i:=4) rfl (aK rfl) rfl rfl ?_)))))))))))
 refine eX (cK (fZ (m:=7) (dp 5 rfl (eJ A_58 Z_58 (Ht rfl) (i:=3) rfl rfl rfl) (dp 6 rfl (eJ A_58 Z_58 (Ht rfl) (i:=4) rfl rfl rfl) (dp 2 rfl (eJ A_60 Z_60 (Ht rfl) (i:=0) rfl rfl rfl) (dq 32 2 rfl (cZ K_153 oQ ⟨(Ht rfl),trivial⟩) (dp 3 rfl (eJ A_60 Z_60 (Ht rfl) (i:=1) rfl rfl rfl) (dq 34 4 rfl (cZ K_153 oQ ⟨(Ht rfl),trivial⟩) (cP 33 3 35 5 rfl (cZ K_154 (Ep zo zo) ⟨(Ht rfl),(Ht rfl),trivial⟩) (fV bC rfl (by kernel_rfl) (zF (aJ (aJ (aJ (aV ?_)))))))))))))))
 refine ro rfl (cZ K_150 (wF (by first | assumption | omega) zo zo zo) ⟨(Ht rfl),(Ht rfl),(Ht rfl),trivial⟩) (gQ Z_60 (Ht rfl) (Ht rfl) rfl (i:=2) rfl (aK rfl) rfl rfl (eX (fW rfl (fX (fK A_60 Z_60 rfl (i:=2) rfl rfl) ?_))))
 exact (jU (Qi.mk_mul x y))
theorem wU {x:Qi} {L:Nat} [hx:aE x L] (h:L ≤ 17592186044415):bR Tryz.prog 82 [aF x] (aH (!decide (x = Qi.zero))):=by
 have hxa:=oM hx.fit; have hxb:=oN hx.fit; have hxd:=oO hx.fit
 refine bR.intro Tryz.func82 rfl Tryz.ntmps82 rfl (fun cx=>(ts (rn rfl (fG (Ht rfl)) fun B1=>(ro rfl (cQ cV) (eX (ts (ro rfl (eZ fR (Ht rfl) rfl) (ro rfl (eZ fB (Ht rfl) rfl) (ro rfl (eY A_56 Z_56 (Ht rfl) (i:=0) rfl rfl) (ro rfl (dG U_56 (Ht rfl) aC) (ro rfl (eZ gF (Ht rfl) rfl) (ro rfl (eZ fB (Ht rfl) rfl) (ro rfl (eY A_56 Z_56 (Ht rfl) (i:=0) rfl rfl) (ro rfl (dG U_56 (Ht rfl) aC) (ro rfl (dV (Ht rfl) (Ht rfl) z6) ?_)))))))))))))))
 refine ro rfl (gA (Ht rfl) (cJ 0)) (ra rfl (eX (fW rfl (fX (eU rfl) ?_))))
 exact (fA (Xt x))
theorem Bv {x:Qi}:bR Tryz.prog 55 [aF x] (aH (decide (x.b = 0))):=by
 refine bR.intro Tryz.func55 rfl Tryz.ntmps55 rfl (fun cx=>(ts (rn rfl (fG (Ht rfl)) fun B1=>(ro rfl (cQ cV) (eX (ts (ro rfl (eZ gF (Ht rfl) rfl) (ro rfl (eZ fB (Ht rfl) rfl) (ro rfl (eY A_56 Z_56 (Ht rfl) (i:=0) rfl rfl) (ro rfl (dG U_56 (Ht rfl) aC) (ro rfl (eB (Ht rfl) (cJ 0)) (ra rfl (eX (fW rfl (fX (eU rfl) ?_)))))))))))))))
 exact (fA (a2W x))
theorem Xd {x y:Qi} {L M:Nat} [hx:aE x L] [hy:aE y M] (h:L ≤ 17592186044415) (h2:M ≤ 17592186044415):bR Tryz.prog 100 [aF x,aF y] (aH (decide (x = y))):=by
 have hxa:=oM hx.fit; have hxb:=oN hx.fit; have hxd:=oO hx.fit
 have hya:=oM hy.fit; have hyb:=oN hy.fit; have hyd:=oO hy.fit
 have hxu:=Yj x; have hyu:=Yj y
 refine bR.intro Tryz.func100 rfl Tryz.ntmps100 rfl (fun cx=>(ts (rn rfl (fG (Ht rfl)) fun B2=>(rn rfl (fG (Ht rfl)) fun B3=>(ro rfl (cQ cV) (eX (ts (ro rfl (eZ fR (Ht rfl) rfl) (ro rfl (eJ A_58 Z_58 (Ht rfl) (i:=0) rfl rfl rfl) (ro rfl (eZ fR (Ht rfl) rfl) (ro rfl (eJ A_58 Z_58 (Ht rfl) (i:=1) rfl rfl rfl) (ro rfl (cZ Tryz.call156 (Gu zo zo) ⟨(Ht rfl),(Ht rfl),trivial⟩) (ro rfl (mH (Ht rfl) cV) (rm rfl (fQ rfl rfl (eK rfl rfl (Ht rfl) (fun h=>eZ gF (Ht rfl) rfl)) ?_)))))))))))))))
 refine fQ rfl rfl (eK rfl rfl (Ht rfl) (fun h=>eJ A_58 Z_58 (fJ rfl h) (i:=0) rfl rfl rfl)) (fQ rfl rfl (eK rfl rfl (Ht rfl) (fun h=>eZ gF (Ht rfl) rfl)) (fQ rfl rfl (eK rfl rfl (Ht rfl) (fun h=>eJ A_58 Z_58 (fJ rfl h) (i:=1) rfl rfl rfl)) (fQ rfl rfl (eK rfl rfl (Ht rfl) (fun h=>cZ Tryz.call156 (Gu zo zo) ⟨(fJ rfl h),(fJ rfl h),trivial⟩)) (fQ rfl rfl (eK rfl rfl (Ht rfl) (fun h=>mH (fJ rfl h) cV)) (ro rfl (fC (Ht rfl) (fun h=>(fJ rfl h))) ?_)))))
 refine rm rfl (fQ rfl rfl (eK rfl rfl (Ht rfl) (fun h=>eZ qI (Ht rfl) rfl)) (fQ rfl rfl (eK rfl rfl (Ht rfl) (fun h=>eY A_56 Z_56 (fJ rfl h) (i:=0) rfl rfl)) (fQ rfl rfl (eK rfl rfl (Ht rfl) (fun h=>eZ qI (Ht rfl) rfl)) (fQ rfl rfl (eK rfl rfl (Ht rfl) (fun h=>eY A_56 Z_56 (fJ rfl h) (i:=1) rfl rfl)) (fQ rfl rfl (eK rfl rfl (Ht rfl) (fun h=>cZ Tryz.call199 (Xh zo zo) ⟨(fJ rfl h),(fJ rfl h),trivial⟩)) (fQ rfl rfl (eK rfl rfl (Ht rfl) (fun h=>mH (fJ rfl h) cV)) ?_))))))
 refine ro rfl (fC (Ht rfl) (fun h=>(fJ rfl h))) (ra rfl (eX (fW rfl (fX (eU rfl) ?_))))
 exact (fA (a34 x y))
theorem Bu {x y:Qi} {L M:Nat} [hx:aE x L] [hy:aE y M] (h:L + M ≤ 17592186044415):bR Tryz.prog 51 [aF x,aF y] (aP .i64 (rV x y)):=by
 have hxa:=oM hx.fit; have hxb:=oN hx.fit; have hxd:=oO hx.fit
 have hya:=oM hy.fit; have hyb:=oN hy.fit; have hyd:=oO hy.fit
 have e1:=gO x.a y.den; have e2:=gO y.a x.den; have e3:=gO x.b y.den; have e4:=gO y.b x.den
 refine bR.intro Tryz.func51 rfl Tryz.ntmps51 rfl (fun cx=>(ts (rn rfl (fG (Ht rfl)) fun B2=>(rn rfl (fG (Ht rfl)) fun B3=>(ro rfl (cQ (cJ 0)) (eX (cK (cK (fZ (m:=9) (dp 2 rfl (eZ fR (Ht rfl) rfl) (dq 6 0 rfl (eJ A_58 Z_58 (Ht rfl) (i:=0) rfl rfl rfl) (dp 3 rfl (eJ A_60 Z_60 (Ht rfl) (i:=1) rfl rfl rfl) (dq 8 2 rfl (cZ K_153 oQ ⟨(Ht rfl),trivial⟩) (cP 7 1 9 3 rfl (cZ K_155 (lW zo zo) ⟨(Ht rfl),(Ht rfl),trivial⟩) (dp 3 rfl (eZ fR (Ht rfl) rfl) ?_)))))))))))))))
 refine dq 11 5 rfl (eJ A_58 Z_58 (Ht rfl) (i:=1) rfl rfl rfl) (dp 2 rfl (eJ A_60 Z_60 (Ht rfl) (i:=0) rfl rfl rfl) (dq 13 7 rfl (cZ K_153 oQ ⟨(Ht rfl),trivial⟩) (fV bC rfl (by kernel_rfl) (zF (zF (aJ (aV (ro rfl (cZ K_155 (lW zo zo) ⟨(Ht rfl),(Ht rfl),trivial⟩) (ro rfl (cZ Tryz.call156 (Gu zo zo) ⟨(Ht rfl),(Ht rfl),trivial⟩) (ra rfl (eX (ts (rm rfl (ro rfl (kM (Ht rfl) cV) ?_))))))))))))))
 refine eX (dQ (Ht rfl) (fun hb=>?_) (fun hb=>?_))
 ·simp only [Bool.not_eq_true', decide_eq_false_iff_not] at hb
  refine ts (rm rfl (ra rfl (eX (fW rfl (fX (eU rfl) ?_)))))
  exact (bE (by rw [rV,if_pos hb]))
 ·simp only [Bool.not_eq_false', decide_eq_true_eq] at hb
  refine cU (cK (fZ (m:=9) (dp 2 rfl (eZ gF (Ht rfl) rfl) (dq 20 0 rfl (eJ A_58 Z_58 (Ht rfl) (i:=0) rfl rfl rfl) (dp 3 rfl (eJ A_60 Z_60 (Ht rfl) (i:=1) rfl rfl rfl) (dq 22 2 rfl (cZ K_153 oQ ⟨(Ht rfl),trivial⟩) (cP 21 1 23 3 rfl (cZ K_155 (lW zo zo) ⟨(Ht rfl),(Ht rfl),trivial⟩) (dp 3 rfl (eZ gF (Ht rfl) rfl) (dq 25 5 rfl (eJ A_58 Z_58 (Ht rfl) (i:=1) rfl rfl rfl) (dp 2 rfl (eJ A_60 Z_60 (Ht rfl) (i:=0) rfl rfl rfl) ?_))))))))))
  refine dq 27 7 rfl (cZ K_153 oQ ⟨(Ht rfl),trivial⟩) (fV bC rfl (by kernel_rfl) (zF (zF (aJ (aV (ro rfl (cZ K_155 (lW zo zo) ⟨(Ht rfl),(Ht rfl),trivial⟩) (ro rfl (cZ Tryz.call156 (Gu zo zo) ⟨(Ht rfl),(Ht rfl),trivial⟩) (ra rfl (eX (fW rfl (fX (eU rfl) ?_)))))))))))
  exact (bE (by rw [rV,if_neg (by simpa using hb)]))
end
section
open Go Go.RowKit
theorem Pn {n : Nat} {E : dA} {H : Hp} {d : Option Tmp} {t : TypeId} {pos : String} {af : Array Edge} {g : Option (Nat × Bool)}  :
  aS Tryz.prog n E H ⟨d,.build 58 #[],t,pos,af,g⟩ (gN [Is (.bool false),Is (.slice none 0 0)]) :=
 jZ (parts := []) fun a V w hs => by
  refine ⟨.agg #[(.bool false),(.slice none 0 0)],?_,[(.bool false),(.slice none 0 0)],rfl,aW (⟨rfl,trivial⟩) (aW (⟨rfl,trivial⟩) (aG))⟩
  simp [Instr.build,Instr.fill,Sem.run_bind,Result.andThen,iW,O_58,U_58,Z_4,Z_56]
theorem a1N (a:Addr) (w:World):(Instr.fieldAt 48 (.pointer (some a)) 0).run Tryz.prog w = .ok (.pointer (some (a.add 0))) w:=by
 simp [Instr.fieldAt,Instr.sureAddr,fieldPlace,Sem.run_bind,Result.andThen,U_48,Z_2]
theorem a1O (a:Addr) (w:World):(Instr.fieldAt 48 (.pointer (some a)) 1).run Tryz.prog w = .ok (.pointer (some (a.add 1))) w:=by
 simp [Instr.fieldAt,Instr.sureAddr,fieldPlace,Sem.run_bind,Result.andThen,U_48,Z_2]
theorem Hb (a:Addr) (w:World):(Instr.fieldAt 48 (.pointer (some a)) 2).run Tryz.prog w = .ok (.pointer (some (a.add 2))) w:=by
 simp [Instr.fieldAt,Instr.sureAddr,fieldPlace,Sem.run_bind,Result.andThen,U_48,Z_2]
theorem gG:Tryz.prog.info? 60 = some Tryz.t60:=by kernel_rfl
theorem jH:Tryz.prog.underlying 25 = some (.slice 60):=by kernel_rfl
end
section
open Go Go.RowKit
theorem Mz {a:Int} {d:Nat} (hd:0 < d) (ha:(dg a.natAbs).length ≤ 8796093022208) (hd2:(dg d).length ≤ 8796093022208):bR Tryz.prog 216 [jT a,bA d] (vM (xS a d)):=by
 have h1:=Kt a hd; have h2:=Ku a hd
 obtain ⟨x,hx⟩:∃ x,x = Qi.mk' a 0 d:=⟨_,rfl⟩
 rw [xS,← hx]
 rw [← hx] at h1 h2
 have h3:=wX x.a.natAbs; have h4:=wX x.den
 have h5:(dg (0:Int).natAbs).length ≤ 0:=by rw [show (0:Int).natAbs = 0 from rfl,fP]; exact Nat.le_refl _
 refine bR.intro Tryz.func216 rfl Tryz.ntmps216 rfl (fun cx=>(ts (rn rfl (fG (Ht rfl)) fun B2=>(ro rfl (cQ (bH.cS (l:=[]) rfl)) (eX (ts (ro rfl (eJ A_58 Z_58 (Ht rfl) (i:=0) rfl rfl rfl) (ro rfl (aS.imp (Pn ) Ds) (rm rfl (ro rfl (aS.imp (cZ K_150 (wF (by first | assumption | omega) zo zo zo) ⟨(Ht rfl),(Ht rfl),(Ht rfl),trivial⟩) (jU hx.symm)) (rn rfl (eW (Ts:=[Is (.bool false),Is (.slice none 0 0),Is (.bool false),Is (.slice none 0 0),Is (.slice none 0 0)]) O_60 rfl (fun V=>aW zd (aW zd (aW zd (aW zd (aW zd (aG))))))) fun B5=>?_)))))))))))
 refine gQ Z_60 (Ht rfl) (Ht rfl) rfl (i:=1) rfl (aK rfl) rfl rfl (eX (ts (ro rfl (eZ fR (Ht rfl) rfl) (ro rfl (eZ fB (Ht rfl) rfl) (ro rfl (eY A_56 Z_56 (Ht rfl) (i:=1) rfl rfl) (ro rfl (cZ Tryz.call260 (Jl zo) ⟨(Ht rfl),trivial⟩) (ra rfl (eX (cK (mG (fun (uu:Unit)=>True) (fun (uu:Unit)=>[(5,bO B5 0),(6,vM (if x.a < 0 then 45 :: Ca x.a.natAbs else Ca x.a.natAbs))]) (fun (uu:Unit)=>[box B2 58 [aH (decide (a < 0)),bA (a).natAbs],box B5 60 [aH (decide ((x).a < 0)),bA (x).a.natAbs,aH (decide ((x).b < 0)),bA (x).b.natAbs,bA (du (x))]]) ?_ (fun uu _=>?_)))))))))))
 ·refine ts (ro rfl (eZ fR (Ht rfl) rfl) (ro rfl (eZ lL (Ht rfl) rfl) (ro rfl (eY A_4 Z_4 (Ht rfl) (i := 1) rfl rfl) (eX (dQ (Ht rfl) (fun hb => ?_) (fun hb => ?_))))))
  ·simp only [decide_eq_true_eq] at hb
   refine cY (rm rfl (ro rfl (uY (bH.cS (l:=[45]) rfl) (Ht rfl) (by first | omega | (simp; omega))) (ra rfl (eX (cD () trivial (aQ rfl (aZ rfl (pT (by rw [if_pos hb]; rfl)) aX)) (aU (aA rfl) (aU (aA rfl) aY)))))))
  ·simp only [decide_eq_false_iff_not] at hb
   refine cU (cD () trivial (aQ rfl (aZ rfl (pT (by rw [if_neg hb])) aX)) (aU (aA rfl) (aU (aA rfl) aY)))
 ·have h6 : (if x.a < 0 then 45 :: Ca x.a.natAbs else Ca x.a.natAbs).length ≤ (Ca x.a.natAbs).length + 1 := by split <;> simp
  have h7:=Yj x
  refine cK (mG (fun (uu:Unit)=>True) (fun (uu:Unit)=>[(6,vM ((if x.a < 0 then 45 :: Ca x.a.natAbs else Ca x.a.natAbs) ++ (if x.den = 1 then [] else 47 :: Ca x.den)))]) (fun (uu:Unit)=>[box B2 58 [aH (decide (a < 0)),bA (a).natAbs],box B5 60 [aH (decide ((x).a < 0)),bA (x).a.natAbs,aH (decide ((x).b < 0)),bA (x).b.natAbs,bA (du (x))]]) ?_ (fun uu _=>?_))
  ·refine ts (ro rfl (eZ qI (Ht rfl) rfl) (ro rfl (eY A_56 Z_56 (Ht rfl) (i := 1) rfl rfl) (ro rfl (dG U_56 (Ht rfl) aC) (ro rfl (gA (Ht rfl) (cJ 0)) (eX (dQ (Ht rfl) (fun hb => ?_) (fun hb => ?_)))))))
   ·simp only [decide_eq_true_eq] at hb
    have h8:du x = x.den:=xD (fun e=>by rw [e,fP] at hb; simp at hb)
    have h9:x.den ≠ 1:=fun e=>by rw [du,if_pos e,fP] at hb; simp at hb
    have h10:=wX (du x)
    refine cY (rm rfl (ro rfl (eZ qI (Ht rfl) rfl) (ro rfl (eY A_56 Z_56 (Ht rfl) (i:=1) rfl rfl) (ro rfl (cZ Tryz.call260 (Jl zo) ⟨(Ht rfl),trivial⟩) (ro rfl (uY (bH.cS (l:=[47]) rfl) (Ht rfl) (by simp only [List.length_cons,List.length_nil]; omega)) ?_)))))
    refine ro rfl (uY (Ht rfl) (Ht rfl) (by simp only [List.length_append,List.length_cons,List.length_nil]; omega)) ?_
    refine ra rfl (eX (cD () trivial (aZ rfl (pT (by rw [if_neg h9,h8]; rfl)) aX) (dR.refl _)))
   ·simp only [decide_eq_false_iff_not] at hb
    have h9:x.den = 1:=Ak (cC.1 zo)
    refine cU (cD () trivial (aZ rfl (pT (by rw [if_pos h9,List.append_nil])) aX) (dR.refl _))
  ·refine ts (rm rfl (ra rfl (eX ?_)))
   exact fW rfl (eU rfl)
theorem Xf {x:Qi} {L:Nat} [hx:aE x L] (h:L ≤ 8796093022208):bR Tryz.prog 115 [aF x] (vM (txt x)):=by
 have hxa:=oM hx.fit; have hxb:=oN hx.fit; have hxd:=oO hx.fit; have hdp:=x.den_pos
 have l1:=Lj x.a hdp; have l2:=Lj x.b hdp
 refine bR.intro Tryz.func115 rfl Tryz.ntmps115 rfl (fun cx=>(ts (rn rfl (fG (Ht rfl)) fun B1=>(ro rfl (cQ (bH.cS (l:=[]) rfl)) (eX (cK (ts (ro rfl (eJ A_60 Z_60 (Ht rfl) (i:=0) rfl rfl rfl) (ro rfl (cZ Tryz.call55 Bv ⟨(Ht rfl),trivial⟩) (eX (dQ (Ht rfl) (fun hb=>?_) (fun hb=>?_))))))))))))
 ·simp only [decide_eq_true_eq] at hb
  refine cK (fZ (m:=4) (dp 1 rfl (eZ fR (Ht rfl) rfl) (dq 6 0 rfl (eJ A_58 Z_58 (Ht rfl) (i:=0) rfl rfl rfl) (dp 1 rfl (eJ A_60 Z_60 (Ht rfl) (i:=0) rfl rfl rfl) (dq 8 2 rfl (cZ K_153 oQ ⟨(Ht rfl),trivial⟩) (fV bC rfl (by kernel_rfl) (zF (aV (ro rfl (cZ Tryz.call216 (Mz (by assumption) zo zo) ⟨(Ht rfl),(Ht rfl),trivial⟩) ?_)))))))))
  refine ra rfl (eX (fW rfl (fX (eU rfl) ?_)))
  exact (pT (by rw [txt,if_pos hb]))
 ·simp only [decide_eq_false_iff_not] at hb
  refine cU (cK (fZ (m:=4) (dp 1 rfl (eZ gF (Ht rfl) rfl) (dq 11 0 rfl (eJ A_58 Z_58 (Ht rfl) (i:=0) rfl rfl rfl) (dp 1 rfl (eJ A_60 Z_60 (Ht rfl) (i:=0) rfl rfl rfl) (dq 13 2 rfl (cZ K_153 oQ ⟨(Ht rfl),trivial⟩) (fV bC rfl (by kernel_rfl) (zF (aV (ro rfl (cZ Tryz.call216 (Mz (by assumption) zo zo) ⟨(Ht rfl),(Ht rfl),trivial⟩) ?_))))))))))
  refine ro rfl (uY (Ht rfl) (bH.cS (l:=[105]) rfl) (by simp only [List.length_append,List.length_cons,List.length_nil]; omega)) ?_
  refine ra rfl (eX (cK (ts (ro rfl (eZ fR (Ht rfl) rfl) (ro rfl (eZ fB (Ht rfl) rfl) (ro rfl (eY A_56 Z_56 (Ht rfl) (i:=0) rfl rfl) (ro rfl (dG U_56 (Ht rfl) aC) (ro rfl (eB (Ht rfl) (cJ 0)) (eX (dQ (Ht rfl) (fun hc=>?_) (fun hc=>?_)))))))))))
  ·simp only [decide_eq_true_eq] at hc
   have ha:x.a = 0:=by have:=cC.1 hc; omega
   refine ts (rm rfl (ra rfl (eX (fW rfl (fX (eU rfl) ?_)))))
   exact (pT (by rw [txt,if_neg hb,if_pos ha]))
  ·simp only [decide_eq_false_iff_not] at hc
   have ha:x.a ≠ 0:=fun e=>hc (by rw [e]; exact cC.2 rfl)
   refine cU (cK (mG (fun (uu:Unit)=>True) (fun (uu:Unit)=>[(1,bO B1 0),(3,vM ((if x.b < 0 then xS x.b x.den else 43 :: xS x.b x.den) ++ [105]))]) (fun (uu:Unit)=>[box B1 60 [aH (decide ((x).a < 0)),bA (x).a.natAbs,aH (decide ((x).b < 0)),bA (x).b.natAbs,bA (du (x))]]) ?_ (fun uu _=>?_)))
   ·refine ts (ro rfl (eZ gF (Ht rfl) rfl) (ro rfl (eZ lL (Ht rfl) rfl) (ro rfl (eY A_4 Z_4 (Ht rfl) (i := 0) rfl rfl) (ro rfl (dH (Ht rfl)) (eX (dQ (Ht rfl) (fun hd => ?_) (fun hd => ?_)))))))
    ·have hn : ¬ x.b < 0 := by simpa using hd
     refine cY (rm rfl (ro rfl (uY (bH.cS (l:=[43]) rfl) (Ht rfl) (by simp only [List.length_append,List.length_cons,List.length_nil]; omega)) ?_))
     refine ra rfl (eX (cD () trivial (aQ rfl (aZ rfl (pT (by rw [if_neg hn]; rfl)) aX)) (aU (aA rfl) aY)))
    ·have hn : x.b < 0 := by simpa using hd
     refine cU (cD () trivial (aQ rfl (aZ rfl (pT (by rw [if_pos hn])) aX)) (aU (aA rfl) aY))
   ·have l3 : ((if x.b < 0 then xS x.b x.den else 43 :: xS x.b x.den) ++ [105]).length ≤ (xS x.b x.den).length + 2 := by split <;> simp
    refine cK (fZ (m:=6) (dp 1 rfl (eZ fR (Ht rfl) rfl) (dq 29 0 rfl (eJ A_58 Z_58 (Ht rfl) (i:=0) rfl rfl rfl) (dp 1 rfl (eJ A_60 Z_60 (Ht rfl) (i:=0) rfl rfl rfl) (dq 31 2 rfl (cZ K_153 oQ ⟨(Ht rfl),trivial⟩) (cP 30 1 32 3 rfl (cZ Tryz.call216 (Mz (by assumption) zo zo) ⟨(Ht rfl),(Ht rfl),trivial⟩) ?_))))))
    refine dp 3 rfl (cX (Ht rfl)) (fV bC rfl (by kernel_rfl) (zF (aJ (aJ (aV (ro rfl (uY (Ht rfl) (Ht rfl) zo) (ra rfl (eX (fW rfl (fX (eU rfl) ?_))))))))))
    exact (pT (by rw [txt,if_neg hb,if_neg ha]))
theorem Ag {r:Rt}:bR Tryz.prog 33 [Mh r] (aF r.q):=by
 have hr1:=r.h1; have hr2:=r.h2; have hr3:=r.h3; have hr4:=r.h4; have hr5:=r.d1; have hr6:=r.d2; have hr0:=r.d0
 refine bR.intro Tryz.func33 rfl Tryz.ntmps33 rfl (fun cx=>(ts (rn rfl (fG (Ht rfl)) fun B1=>(rn rfl (eW (Ts:=[Is (.bool false),Is (.slice none 0 0),Is (.bool false),Is (.slice none 0 0),Is (.slice none 0 0)]) O_60 rfl (fun V=>aW zd (aW zd (aW zd (aW zd (aW zd (aG))))))) fun B2=>(eX (cK (mG (fun (uu:Unit)=>True) (fun (uu:Unit)=>[(1,bO B1 0),(2,bO B2 0)]) (fun (uu:Unit)=>[box B1 48 [aP .i64 r.re,aP .i64 r.im,aP .i64 r.d],box B2 60 [Is (.bool false),Is (.slice none 0 0),Is (.bool false),Is (.slice none 0 0),Is (.slice none 0 0)]]) ?_ (fun uu _=>?_))))))))
 ·refine ts (ro rfl (eZ Hb (Ht rfl) rfl) (ro rfl (eY Tryz.isAgg2 Z_2 (Ht rfl) (i := 0) rfl rfl) (ro rfl (mH (Ht rfl) cV) (eX (dQ (Ht rfl) (fun hb => ?_) (fun hb => ?_))))))
  ·simp only [decide_eq_true_eq] at hb
   refine cY (ro rfl (eZ Hb (Ht rfl) rfl) (pX Z_2 (Ht rfl) (cJ 1) (i:=0) rfl (aK rfl) rfl (eX (cD () trivial (zS rfl) (aU (aA (by rw [Rt.d,if_pos hb]; rfl)) (aU (aA rfl) aY))))))
  ·simp only [decide_eq_false_iff_not] at hb
   refine cU (cD () trivial (zS rfl) (aU (aA (by rw [Rt.d,if_neg hb])) (aU (aA rfl) aY)))
 ·refine ts (ro rfl (eZ a1N (Ht rfl) rfl) (ro rfl (eY Tryz.isAgg2 Z_2 (Ht rfl) (i := 0) rfl rfl) (ro rfl (eZ a1O (Ht rfl) rfl) (ro rfl (eY Tryz.isAgg2 Z_2 (Ht rfl) (i := 0) rfl rfl) (ro rfl (eZ Hb (Ht rfl) rfl) (ro rfl (eY Tryz.isAgg2 Z_2 (Ht rfl) (i := 0) rfl rfl) (ro rfl (cZ Tryz.call108 (a3q hr1 hr2 hr3 hr4 hr5 hr6 hr0) ⟨(Ht rfl), (Ht rfl), (Ht rfl), trivial⟩) (rm rfl (ro rfl (dK (Ht rfl) rfl) (ro rfl (dK (Ht rfl) rfl) (rn rfl (eW (Ts := [Is (.bool false), Is (.slice none 0 0), Is (.bool false), Is (.slice none 0 0), Is (.slice none 0 0)]) O_60 rfl (fun V => aW zd (aW zd (aW zd (aW zd (aW zd (aG))))))) fun B3 => ?_)))))))))))
  refine gQ Z_60 (Ht rfl) (Ht rfl) rfl (i:=2) rfl (aK rfl) rfl rfl (ra rfl (eX (ts (ro rfl (eJ A_60 Z_60 (Ht rfl) (i:=2) rfl rfl rfl) (gQ Z_60 (Ht rfl) (Ht rfl) rfl (i:=1) rfl (aK rfl) rfl rfl (eX ?_))))))
  exact fW rfl (fK A_60 Z_60 rfl (i:=1) rfl rfl)
theorem uP {l:List Rt} (hl:l.length ≤ 1000000):bR Tryz.prog 48 [vS l] (aM (l.map Rt.q)):=by
 refine bR.intro Tryz.func48 rfl Tryz.ntmps48 rfl (fun cx=>(ts (ro rfl (cQ cV) (eX (ts (rm rfl (ro rfl (dG U_22 (Ht rfl) aC) (rn rfl (kS (T:=aF Qi.zero) (i:=Tryz.t60) jH gG rfl rfl (Ht rfl) rfl jD (El.ag rfl) (by show 88 * _ ≤ _; omega) zo) fun B8=>(ra rfl (eX (cK (ts (rm rfl (ro rfl (dG U_22 (Ht rfl) aC) (ro rfl (cX (cJ 0)) (eX (eG ?_)))))))))))))))))
 refine fO (fun (k : Nat) (out : List Qi) => nX (fun i => (l.getD i default).q) l.length out k) (fun (k : Nat) (out : List Qi) => l.length - k) (fun (k : Nat) (out : List Qi) => [(3, Is B8), (9, vS l), (10, NT .i64 l.length), (11, NT .i64 k)]) (fun (k : Nat) (out : List Qi) => [bF 60 5 B8 (out.map aF)]) 0 (List.replicate l.length Qi.zero) (nX.start _ _ _)
  (zS rfl) (aU (aO (uD aF _ _)) aY) (fun k out hS=>?_)
 refine ts (ro rfl (gX (Ht rfl) (Ht rfl)) (eX (cK (dQ (Ht rfl) (fun hk=>?_) (fun hk=>?_)))))
 ·simp only [decide_eq_true_eq] at hk
  have hlen:=hS.len
  refine cU (cK (eG (ts (rm rfl (ro rfl (dZ U_22 Z_48 (Ht rfl) (Ht rfl) rfl (dY (dU (d:=default) hk))) (ro rfl (dJ A_48 Z_48 (Ht rfl)) (rn rfl (eW (Ts:=[Is (.int .i64 0),Is (.int .i64 0),Is (.int .i64 0)]) O_48 rfl (fun V=>aW zd (aW zd (aW zd (aG))))) fun B5=>(ra rfl (gQ Z_48 (Ht rfl) (Ht rfl) rfl (i:=1) rfl (aK rfl) rfl rfl (eX (cY (rm rfl (rm rfl (ro rfl (eJ A_48 Z_48 (Ht rfl) (i:=1) rfl rfl rfl) ?_))))))))))))))
  refine ro rfl (cZ Tryz.call33 Ag ⟨(Ht rfl),trivial⟩) (ro rfl (cL U_25 Z_60 (Ht rfl) (Ht rfl) rfl (i:=0) rfl (by first | omega | (simp; omega)) rfl) (kX Z_60 (Ht rfl) (Ht rfl) (El.ag rfl) (i:=0) rfl rfl (by first | omega | (simp; omega)) rfl (eX (bL (cY (ro rfl (dV (Ht rfl) (cJ 1) z6) (rm rfl (eX (bS [0] rfl (by decide) (fU (k + 1,_) (hS.next hk rfl) (by dsimp only; omega) (zS rfl) (aU (aO (dO aF _ _ _)) aY)))))))))))
 ·simp only [decide_eq_false_iff_not] at hk
  obtain rfl:k = l.length:=Nat.le_antisymm hS.kle zo
  have hfin:=hS.fin
  rw [Dj l Rt.q] at hfin
  refine gW rfl (gV (i:=0) (tt:=3) rfl rfl eR (ts (rm rfl (ra rfl (eX (fW rfl (fX (eU rfl) ?_)))))))
  exact (kB (by rw [hfin]))
end
section
open Go Go.RowKit
theorem wT {n : Nat} {E : dA} {H : Hp} {d : Option Tmp} {t : TypeId} {pos : String} {af : Array Edge} {g : Option (Nat × Bool)}  :
  aS Tryz.prog n E H ⟨d,.build 60 #[],t,pos,af,g⟩ (gN [Is (.bool false),Is (.slice none 0 0),Is (.bool false),Is (.slice none 0 0),Is (.slice none 0 0)]) :=
 jZ (parts := []) fun a V w hs => by
  refine ⟨.agg #[(.bool false),(.slice none 0 0),(.bool false),(.slice none 0 0),(.slice none 0 0)],?_,[(.bool false),(.slice none 0 0),(.bool false),(.slice none 0 0),(.slice none 0 0)],rfl,aW (⟨rfl,trivial⟩) (aW (⟨rfl,trivial⟩) (aW (⟨rfl,trivial⟩) (aW (⟨rfl,trivial⟩) (aW (⟨rfl,trivial⟩) (aG)))))⟩
  simp [Instr.build,Instr.fill,Sem.run_bind,Result.andThen,iW,O_60,U_60,Z_56,Z_58]
end
section
open Go Go.RowKit
theorem vW {x y:Qi} {L M:Nat} [hx:aE x L] [hy:aE y M] (h:L + 3 * M + 2 ≤ 17592186044415):bR Tryz.prog 64 [aF x,aF y] (eD [aF (x / y),aP .i64 (if y = Qi.zero then 3 else 0)]):=by
 have hxa:=oM hx.fit; have hxb:=oN hx.fit; have hxd:=oO hx.fit
 have hya:=oM hy.fit; have hyb:=oN hy.fit; have hyd:=oO hy.fit
 have hxp:=x.den_pos; have hyp:=y.den_pos; have hMp:=hy.pos
 refine bR.intro Tryz.func64 rfl Tryz.ntmps64 rfl (fun cx=>(ts (rn rfl (fG (Ht rfl)) fun B2=>(rn rfl (fG (Ht rfl)) fun B3=>(rn rfl (eW (Ts:=[Is (.bool false),Is (.slice none 0 0),Is (.bool false),Is (.slice none 0 0),Is (.slice none 0 0)]) O_60 rfl (fun V=>aW zd (aW zd (aW zd (aW zd (aW zd (aG))))))) fun B4=>(ro rfl (cQ (cJ 0)) (eX (cK (ts (ro rfl (eJ A_60 Z_60 (Ht rfl) (i:=1) rfl rfl rfl) ?_))))))))))
 refine ro rfl (cZ Tryz.call82 (wU zo) ⟨(Ht rfl),trivial⟩) (ro rfl (dH (Ht rfl)) (eX (dQ (Ht rfl) (fun hb=>?_) (fun hb=>?_))))
 ·have h0 : y = Qi.zero := by simpa using hb
  refine ts (ro rfl (aS.imp (wT ) lY) (gQ Z_60 (Ht rfl) (Ht rfl) rfl (i:=2) rfl (aK rfl) rfl rfl (ro rfl (cQ (cJ 3)) (eX (bN rfl (fX (fK A_60 Z_60 rfl (i:=2) rfl rfl) ?_) (fX (eU rfl) ?_))))))
  ·exact (jU (by rw [h0,Qi.div_zero]))
  ·exact (bE (by rw [if_pos h0]; rfl))
 ·have h0 : y ≠ Qi.zero := by simpa using hb
  have g1:=mN y.a y.a; have g2:=mN y.b y.b; have g3:=Cd y.b
  have g4:=nH (x:=y.a * y.a) (y:=y.b * y.b) (L:=M + M) zo zo
  obtain ⟨c,hc⟩:∃ c,c = Qi.mk' y.a (-y.b) 1:=⟨_,rfl⟩
  obtain ⟨z,hz⟩:∃ z,z = x * c:=⟨_,rfl⟩
  have l1:(dg 1).length ≤ 1:=by rw [Yd (by decide) (by decide)]; exact Nat.le_refl _
  haveI fc:aE c M:=hc ▸ ⟨Qi.Fit.mk (by decide) hy.fit.1 (by rw [Int.natAbs_neg]; exact hy.fit.2.1) (Qi.one_lt hMp)⟩
  haveI fz:aE z (L + M + 1):=hz ▸ fitMul
  have hza:=oM fz.fit; have hzb:=oN fz.fit; have hzd:=oO fz.fit
  have hnp:=Qi.nrm_int_pos h0
  have hm:(((y.a * y.a + y.b * y.b).natAbs:Nat):Int) = y.a * y.a + y.b * y.b:=Int.natAbs_of_nonneg zo
  have hdp2:=Nat.mul_pos z.den_pos (show 0 < (y.a * y.a + y.b * y.b).natAbs by omega)
  have e1:=gO z.a y.den; have e2:=gO z.b y.den; have e3:=yS z.den (y.a * y.a + y.b * y.b).natAbs
  refine cU (cK (fZ (m:=12) (dp 3 rfl (eZ fR (Ht rfl) rfl) (dq 12 0 rfl (eJ A_58 Z_58 (Ht rfl) (i:=1) rfl rfl rfl) (dp 3 rfl (eZ fR (Ht rfl) rfl) (dq 14 2 rfl (eJ A_58 Z_58 (Ht rfl) (i:=1) rfl rfl rfl) (cP 13 1 15 3 rfl (cZ K_151 (qE zo zo) ⟨(Ht rfl),(Ht rfl),trivial⟩) (dp 3 rfl (eZ gF (Ht rfl) rfl) (dq 17 5 rfl (eJ A_58 Z_58 (Ht rfl) (i:=1) rfl rfl rfl) (dp 3 rfl (eZ gF (Ht rfl) rfl) (dq 19 7 rfl (eJ A_58 Z_58 (Ht rfl) (i:=1) rfl rfl rfl) ?_)))))))))))
  refine cP 18 6 20 8 rfl (cZ K_151 (qE zo zo) ⟨(Ht rfl),(Ht rfl),trivial⟩) (cP 16 4 21 9 rfl (cZ K_152 (wG zo zo) ⟨(Ht rfl),(Ht rfl),trivial⟩) (C.D_new (Ei:=[]) rfl rfl rfl bW (eW (Ts:=[Is (.bool false),Is (.slice none 0 0)]) O_58 rfl (fun V=>aW zd (aW zd (aG)))) (fV bC rfl (by kernel_rfl) (zF (zF (aJ (aJ (aJ (C.F_new (fun B6=>aV (gQ Z_58 (Ht rfl) (Ht rfl) rfl (i:=3) rfl (aK rfl) rfl rfl ?_)))))))))))
  refine eX (cK (fZ (m:=10) (dp 2 rfl (eJ A_60 Z_60 (Ht rfl) (i:=0) rfl rfl rfl) (dp 3 rfl (eZ fR (Ht rfl) rfl) (dq 24 1 rfl (eJ A_58 Z_58 (Ht rfl) (i:=1) rfl rfl rfl) (dp 3 rfl (eZ gF (Ht rfl) rfl) (dq 26 3 rfl (eJ A_58 Z_58 (Ht rfl) (i:=1) rfl rfl rfl) (dq 27 4 rfl (cZ K_167 qD ⟨(Ht rfl),trivial⟩) (d0 rfl (aS.imp (cE (xs:=[_]) U_56 Z_218 Tryz.zeroValue218 (cW (cJ 1) cG) rfl rfl rfl) Lc) (C.D_step (Ei:=[(25,_),(28,_),(29,_)]) rfl rfl (bV (bG 2 rfl rfl) (bV (bG 5 rfl rfl) (bV (bG 6 rfl rfl) bW))) (dX rfl (aS.imp (cZ K_150 (wF (by first | assumption | omega) zo zo zo) ⟨(Ht rfl),(Ht rfl),(Ht rfl),trivial⟩) (jU hc.symm))) ?_))))))))))
  refine cP 23 0 30 7 rfl (aS.imp (cZ K_70 (iF zo) ⟨(Ht rfl),(Ht rfl),trivial⟩) (jU hz.symm)) (C.D_new (Ei:=[]) rfl rfl rfl bW (eW (Ts:=[Is (.bool false),Is (.slice none 0 0),Is (.bool false),Is (.slice none 0 0),Is (.slice none 0 0)]) O_60 rfl (fun V=>aW zd (aW zd (aW zd (aW zd (aW zd (aG))))))) (fV bC rfl (by kernel_rfl) (zF (zF (aJ (C.F_new (fun B7=>aV ?_)))))))
  refine gQ Z_60 (Ht rfl) (Ht rfl) rfl (i:=4) rfl (aK rfl) rfl rfl (eX (cK (fZ (m:=14) (dp 7 rfl (eZ fR (Ht rfl) rfl) (dq 32 0 rfl (eJ A_58 Z_58 (Ht rfl) (i:=4) rfl rfl rfl) (dp 3 rfl (eJ A_60 Z_60 (Ht rfl) (i:=1) rfl rfl rfl) (dq 34 2 rfl (cZ K_153 oQ ⟨(Ht rfl),trivial⟩) (cP 33 1 35 3 rfl (cZ K_155 (lW zo zo) ⟨(Ht rfl),(Ht rfl),trivial⟩) (dp 7 rfl (eZ gF (Ht rfl) rfl) (dq 37 5 rfl (eJ A_58 Z_58 (Ht rfl) (i:=4) rfl rfl rfl) ?_))))))))))
  refine dp 3 rfl (eJ A_60 Z_60 (Ht rfl) (i:=1) rfl rfl rfl) (dq 39 7 rfl (cZ K_153 oQ ⟨(Ht rfl),trivial⟩) (cP 38 6 40 8 rfl (cZ K_155 (lW zo zo) ⟨(Ht rfl),(Ht rfl),trivial⟩) (dp 7 rfl (eJ A_60 Z_60 (Ht rfl) (i:=4) rfl rfl rfl) (dq 42 10 rfl (cZ K_153 oQ ⟨(Ht rfl),trivial⟩) (dp 6 rfl (eZ fB (Ht rfl) rfl) (dq 44 12 rfl (eY A_56 Z_56 (Ht rfl) (i:=3) rfl rfl) (fV bC rfl (by kernel_rfl) (zF (zF (zF (aJ (aJ (aV ?_)))))))))))))
  refine ro rfl (cZ K_154 (Ep zo zo) ⟨(Ht rfl),(Ht rfl),trivial⟩) (ro rfl (cZ K_150 (wF (by first | assumption | omega) zo zo zo) ⟨(Ht rfl),(Ht rfl),(Ht rfl),trivial⟩) (gQ Z_60 (Ht rfl) (Ht rfl) rfl (i:=2) rfl (aK rfl) rfl rfl (ro rfl (cQ (cJ 0)) (eX (bN rfl (fX (fK A_60 Z_60 rfl (i:=2) rfl rfl) ?_) (fX (eU rfl) ?_))))))
  ·exact (jU (Qi.mk_divP x h0 (hc ▸ hz) hm))
  ·exact (bE (by rw [if_neg h0]; rfl))
end
section
open Go Go.RowKit
theorem lA:Tryz.prog.info? 25 = some Tryz.t25:=by kernel_rfl
end
section
open Go Go.RowKit
theorem Mr {γ:Type} {l:List γ} {T:γ → Ty} {p:γ → Bool} [sh:∀ x,dI (T x) 5 true] (hl:l.length ≤ 1000000):bR Tryz.prog 207 [kI 5 (l.map T),Fx Tryz.prog γ (fun x=>[T x]) (fun x=>aH (p x))] (aP .i64 (Hi p l)):=by
 refine bR.intro Tryz.func207 rfl Tryz.ntmps207 rfl (fun cx=>(ts (ro rfl (cQ (cJ 0)) (eX (cK (ts (rm rfl (ro rfl (dG U_25 (Ht rfl) aC) (ro rfl (cX (cJ 0)) (eX (eG ?_)))))))))))
 refine cA (fun (k : Nat) => k ≤ l.length ∧ ∀ (i : Nat) (x : γ), i < k → l[i]? = some x → p x = false) (fun (k : Nat) => l.length - k) (fun (k : Nat) => [(0, kI 5 (l.map T)), (1, Fx Tryz.prog γ (fun x => [T x]) (fun x => aH (p x))), (7, NT .i64 l.length), (8, NT .i64 k)]) (fun (k : Nat) => []) 0 ⟨Nat.zero_le _, fun i x h => by omega⟩
  (zS rfl) aY (fun k ⟨hk,hn⟩=>?_)
 refine ts (ro rfl (gX (Ht rfl) (Ht rfl)) (eX (cK (dQ (Ht rfl) (fun hb=>?_) (fun hb=>?_)))))
 ·simp only [decide_eq_true_eq] at hb
  refine cU (cK (eG (ts (rm rfl (ra rfl (eX (ts (rm rfl (rm rfl (rm rfl (ro rfl (dZ U_25 Z_60 (Ht rfl) (Ht rfl) rfl (dY (sO hb))) (ro rfl (dJ A_60 Z_60 (Ht rfl)) (ro rfl (kR (l[k]) (Ht rfl) ⟨(Ht rfl),trivial⟩) (eX (dQ (Ht rfl) (fun hc=>?_) (fun hc=>?_))))))))))))))))
  ·have hp : p l[k] = true := hc
   refine ts (rm rfl (ra rfl (eX (fW rfl (fX (eU rfl) ?_)))))
   exact (bE (Hj (sO hb) hp hn).symm)
  ·have hp : p l[k] = false := hc
   refine cU (bL (cY (ro rfl (dV (Ht rfl) (cJ 1) z6) (rm rfl (eX ?_)))))
   refine fU (k + 1) ⟨hb, fun i x h1 h2 => by
    by_cases e:i = k
    ·subst e; rw [sO hb] at h2; obtain rfl:=Option.some.inj h2; exact hp
    ·exact hn i x zo h2⟩ zo (zS rfl) aY
 ·simp only [decide_eq_false_iff_not] at hb
  refine gW rfl (ts (ro rfl (cQ cV) (eX (fW rfl (fX (eU rfl) ?_)))))
  exact (bE (yW (fun i x h=>hn i x (by have:=(List.getElem?_eq_some_iff.1 h).1; omega) h)).symm)
theorem Ea {γ:Type} {l:List γ} {T:γ → Ty} {p:γ → Bool} [sh:∀ x,dI (T x) 5 true] (hl:l.length ≤ 1000000):bR Tryz.prog 103 [kI 5 (l.map T),Fx Tryz.prog γ (fun x=>[T x]) (fun x=>aH (p x))] (aH (l.any p)):=by
 refine bR.intro Tryz.func103 rfl Tryz.ntmps103 rfl (fun cx=>(ts (ro rfl (cQ cV) (eX (ts (rm rfl (rm rfl (ro rfl (cZ Tryz.call207 (Mr zo) ⟨(Ht rfl),(Ht rfl),trivial⟩) (ro rfl (nA (Ht rfl) cV) (ra rfl (eX (fW rfl (fX (eU rfl) ?_)))))))))))))
 exact (fA (Ch p l))
theorem Ms {γ:Type} {l:List γ} {T:γ → Ty} {p:γ → Bool} [sh:∀ x,dI (T x) 1 false] (hl:l.length ≤ 1000000):bR Tryz.prog 262 [kI 1 (l.map T),Fx Tryz.prog γ (fun x=>[T x]) (fun x=>aH (p x))] (aP .i64 (Hi p l)):=by
 refine bR.intro Tryz.func262 rfl Tryz.ntmps262 rfl (fun cx=>(ts (ro rfl (cQ (cJ 0)) (eX (cK (ts (rm rfl (ro rfl (dG U_26 (Ht rfl) aC) (ro rfl (cX (cJ 0)) (eX (eG ?_)))))))))))
 refine cA (fun (k : Nat) => k ≤ l.length ∧ ∀ (i : Nat) (x : γ), i < k → l[i]? = some x → p x = false) (fun (k : Nat) => l.length - k) (fun (k : Nat) => [(0, kI 1 (l.map T)), (1, Fx Tryz.prog γ (fun x => [T x]) (fun x => aH (p x))), (7, NT .i64 l.length), (8, NT .i64 k)]) (fun (k : Nat) => []) 0 ⟨Nat.zero_le _, fun i x h => by omega⟩
  (zS rfl) aY (fun k ⟨hk,hn⟩=>?_)
 refine ts (ro rfl (gX (Ht rfl) (Ht rfl)) (eX (cK (dQ (Ht rfl) (fun hb=>?_) (fun hb=>?_)))))
 ·simp only [decide_eq_true_eq] at hb
  refine cU (cK (eG (ts (rm rfl (ra rfl (eX (ts (rm rfl (rm rfl (rm rfl (ro rfl (dZ U_26 Z_25 (Ht rfl) (Ht rfl) rfl (dY (sO hb))) (ro rfl (dJ A_25 Z_25 (Ht rfl)) (ro rfl (kR (l[k]) (Ht rfl) ⟨(Ht rfl),trivial⟩) (eX (dQ (Ht rfl) (fun hc=>?_) (fun hc=>?_))))))))))))))))
  ·have hp : p l[k] = true := hc
   refine ts (rm rfl (ra rfl (eX (fW rfl (fX (eU rfl) ?_)))))
   exact (bE (Hj (sO hb) hp hn).symm)
  ·have hp : p l[k] = false := hc
   refine cU (bL (cY (ro rfl (dV (Ht rfl) (cJ 1) z6) (rm rfl (eX ?_)))))
   refine fU (k + 1) ⟨hb, fun i x h1 h2 => by
    by_cases e:i = k
    ·subst e; rw [sO hb] at h2; obtain rfl:=Option.some.inj h2; exact hp
    ·exact hn i x zo h2⟩ zo (zS rfl) aY
 ·simp only [decide_eq_false_iff_not] at hb
  refine gW rfl (ts (ro rfl (cQ cV) (eX (fW rfl (fX (eU rfl) ?_)))))
  exact (bE (yW (fun i x h=>hn i x (by have:=(List.getElem?_eq_some_iff.1 h).1; omega) h)).symm)
theorem qS {γ:Type} {l:List γ} {T:γ → Ty} {p:γ → Bool} [sh:∀ x,dI (T x) 1 false] (hl:l.length ≤ 1000000):bR Tryz.prog 227 [kI 1 (l.map T),Fx Tryz.prog γ (fun x=>[T x]) (fun x=>aH (p x))] (aH (l.any p)):=by
 refine bR.intro Tryz.func227 rfl Tryz.ntmps227 rfl (fun cx=>(ts (ro rfl (cQ cV) (eX (ts (rm rfl (rm rfl (ro rfl (cZ Tryz.call262 (Ms zo) ⟨(Ht rfl),(Ht rfl),trivial⟩) (ro rfl (nA (Ht rfl) cV) (ra rfl (eX (fW rfl (fX (eU rfl) ?_)))))))))))))
 exact (fA (Ch p l))
theorem Na {x:Qi} {L:Nat} [hx:aE x L] (h:L ≤ 8796093022208):bR Tryz.prog 223 [aF x] (aH (gU x)):=by
 haveI hz:aE Qi.zero 1:=aE.zero (Nat.le_refl 1)
 refine bR.intro Tryz.func223 rfl Tryz.ntmps223 rfl (fun cx=>(ts (rn rfl (fG (Ht rfl)) fun B1=>(ro rfl (cQ cV) (eX (ts (ro rfl (eJ A_60 Z_60 (Ht rfl) (i:=0) rfl rfl rfl) (ro rfl (cZ Tryz.call55 Bv ⟨(Ht rfl),trivial⟩) (rm rfl (fQ rfl rfl (eK rfl rfl (Ht rfl) (fun h=>eJ A_60 Z_60 (Ht rfl) (i:=0) rfl rfl rfl)) (fQ rfl rfl (eK rfl rfl (Ht rfl) (fun h=>aS.imp (wT ) lY)) (fQ rfl rfl (eK rfl rfl (Ht rfl) (fun h=>cZ K_51 (Bu zo) ⟨(fJ rfl h),(fJ rfl h),trivial⟩)) ?_))))))))))))
 refine fQ rfl rfl (eK rfl rfl (Ht rfl) (fun h=>Ie (fJ rfl h) cV)) (ro rfl (fC (Ht rfl) (fun h=>(fJ rfl h))) (ra rfl (eX (fW rfl (fX (eU rfl) ?_)))))
 exact (fA (a0k x))
theorem Gs {x:Qi} {L:Nat} [hx:aE x L] (h:L ≤ 8796093022208):bR Tryz.prog 222 [aF x] (aH (!gU x)):=by
 refine bR.intro Tryz.func222 rfl Tryz.ntmps222 rfl (fun cx=>(ts (rn rfl (fG (Ht rfl)) fun B1=>(ro rfl (cQ cV) (eX (ts (ro rfl (eJ A_60 Z_60 (Ht rfl) (i:=0) rfl rfl rfl) (ro rfl (cZ Tryz.call223 (Na zo) ⟨(Ht rfl),trivial⟩) (ro rfl (dH (Ht rfl)) (ra rfl (eX ?_)))))))))))
 exact fW rfl (eU rfl)
theorem zO {z:List Qi} {L:Nat} (hz:bP z L) (h:L ≤ 8796093022208) (hl:z.length ≤ 1000):bR Tryz.prog 129 [aM z] (aP .i64 (if z.all gU then 0 else 1)):=by
 obtain ⟨l,hzl⟩:∃ l:List {x:Qi // aE x L},z = l.map Subtype.val:=⟨z.attach.map fun x=>⟨x.1,hz x.1 x.2⟩,by simp⟩
 subst hzl
 have hll:l.length ≤ 1000:=by simpa using hl
 refine bR.intro Tryz.func129 rfl Tryz.ntmps129 rfl (fun cx=>(sN (E':=[(0,_)]) (aZ rfl (kB (Us:=l.map fun x=>aF x.1) (by simp [List.map_map,Function.comp_def])) aX) ?_))
 refine ts (ro rfl (cQ (cJ 0)) (eX (cK (ts (rm rfl (ro rfl (cZ Tryz.call103 (Ea (l:=l) (T:=fun x=>aF x.1) (p:=fun x=>!gU x.1) zo) ⟨(Ht rfl),(bH.fn Tryz.call222 (γ:={x:Qi // aE x L}) (Ts:=fun x=>[aF x.1]) (U:=fun x=>aH (!gU x.1)) (fun x=>haveI:=x.2; Gs h)),trivial⟩) (eX (dQ (Ht rfl) (fun hb=>?_) (fun hb=>?_)))))))))
 ·have hn : ¬ (l.map Subtype.val).all gU = true := by simp at hb ⊢; exact hb
  refine ts (ro rfl (cQ (cJ 1)) (eX (fW rfl (fX (eU rfl) ?_))))
  exact (bE (by rw [if_neg hn]; rfl))
 ·have hn : (l.map Subtype.val).all gU = true := by simp at hb ⊢; exact hb
  refine cU (ts (ro rfl (cQ (cJ 0)) (eX (fW rfl (fX (eU rfl) ?_)))))
  exact (bE (by rw [if_pos hn]; rfl))
theorem Jg {l:List Qi} (hl:l.length ≤ 1000):fN Tryz.prog 109 [aM l] [] (Value) (fun v=>Is v) (fun v=>[bF 60 5 v (l.map aF)]) (fun _=>True):=by
 refine fN.intro Tryz.func109 rfl Tryz.ntmps109 rfl (fun cx Z=>(ts (ro rfl (cQ cV) (eX (cK (ts (rm rfl (ro rfl (a0a U_25 (Ht rfl)) (eX (a15 (Ht rfl) (fun hb=>?_) (fun hb=>?_)))))))))))
 ·have hT : l.map aF = [] := hb rfl
  refine ts (ro rfl (cQ cV) (eX (qZ 60 5 ?_)))
  exact iO (.slice none 0 0) trivial [0,1] ⟨⟨_,rfl,fun _ _ _ h=>h⟩,⟨_,rfl,(aO hT.symm)⟩,trivial⟩ (by decide) (tG rfl (eU rfl))
 ·refine cU (ts (rn rfl (Kx U_25 Z_60 O_60) fun B5 => (rm rfl (Ej (inf := Tryz.t60) jH gG rfl rfl rfl (Ht rfl) (Ht rfl) (i := 1) rfl (fun T hT => by obtain ⟨x, _, rfl⟩ := List.mem_map.1 hT; exact El.ag rfl) (by show _ * 88 ≤ _; simp only [List.length_map, List.length_nil]; omega) (by simp only [List.length_map, List.length_nil]; omega) rfl (fun v2 => ?_)))))
  refine ra rfl (eX ?_)
  exact iO v2 trivial [0,1] ⟨⟨_,rfl,fun _ _ _ h=>h⟩,⟨_,rfl,fun _ _ _ h=>h⟩,trivial⟩ (by decide) (tG rfl (eU rfl))
theorem Gm {l:List Qi} (hl:l.length ≤ 1000):bR Tryz.prog 109 [aM l] (aM l):=(Jg hl).fun fun v _=>eR
theorem Ps {n:Nat} {f:Nat → Nat → Qi} (hn:n ≤ 1000):fN Tryz.prog 110 [NT .i64 n,Fx Tryz.prog (Fin n × Fin n) (fun x=>[NT .i64 x.1.1,NT .i64 x.2.1]) (fun x=>aF (f x.1.1 x.2.1))] [] (Nat) (fun B=>Is (.slice (some ⟨B,0,none⟩) n n)) (fun B=>[lQ B 25 60 5 (bM aF (tab n fun i=>tab n (f i)))]) (fun _=>True):=by
 refine fN.intro Tryz.func110 rfl Tryz.ntmps110 rfl (fun cx Z=>(ts (ro rfl (cQ cV) (eX (ts (rm rfl (rn rfl (gK (T:=Is (.slice none 0 0)) (i:=Tryz.t25) V_26 lA rfl rfl (Ht rfl) rfl (fun _=>rfl) trivial (by show 24 * _ ≤ _; omega) zo) fun B9=>(ra rfl (eX (cK (ts (rm rfl (ro rfl (eT U_26 (Ht rfl)) (ro rfl (cX (cJ 0)) (eX (eG (mU 1 rfl (sC (e:=60) (s:=5)) ?_)))))))))))))))))
 refine fO (fun (k : Nat) (m : List (List Qi)) => nX (fun i => tab n (f i)) n m k) (fun (k : Nat) (m : List (List Qi)) => n - k) (fun (k : Nat) (m : List (List Qi)) => [(0, NT .i64 n), (1, Fx Tryz.prog (Fin n × Fin n) (fun x => [NT .i64 x.1.1, NT .i64 x.2.1]) (fun x => aF (f x.1.1 x.2.1))), (5, Is (.slice (some ⟨B9, 0, none⟩) n n)), (11, NT .i64 n), (12, NT .i64 k)]) (fun (k : Nat) (m : List (List Qi)) => [Z, lQ B9 25 60 5 (bM aF m)]) 0 (List.replicate n []) (nX.start _ _ _)
  (zS rfl) (aU (fun _ _ _ h=>h) (aU (bI (mA aF n)) aY)) (fun k m hS=>?_)
 refine ts (ro rfl (gX (Ht rfl) (Ht rfl)) (eX (cK (dQ (Ht rfl) (fun hk=>?_) (fun hk=>?_)))))
 ·simp only [decide_eq_true_eq] at hk
  have hlen:=hS.len
  refine mB 1 (k) rfl (nY (m:=m) (i:=k) zo) (fun v=>(cU (cK (eG (ts (rm rfl (ra rfl (eX (ts (rm rfl (rm rfl (rm rfl (rn rfl (kS (T:=aF Qi.zero) (i:=Tryz.t60) jH gG rfl rfl (Ht rfl) rfl jD (El.ag rfl) (by show 88 * _ ≤ _; omega) zo) fun B18=>(ro rfl (fY U_26 Z_25 (Ht rfl) (Ht rfl) rfl zo (by rw [Nat.mul_one,Nat.zero_add])) ?_))))))))))))))
  refine tK Z_25 (Ht rfl) (Ht rfl) (by simp; omega) (j:=1) (l:=3) rfl rfl rfl ?_
  refine eX (cK (bS [0,1,3] rfl (by decide) (cY (rm rfl (rm rfl (ro rfl (fY U_26 Z_25 (Ht rfl) (Ht rfl) rfl zo (by rw [Nat.mul_one,Nat.zero_add])) ?_))))))
  refine ro rfl (iC A_25 Z_25 (Ht rfl) (j:=1) rfl) (ro rfl (nT U_25 (Ht rfl) (i:=2) rfl (show ((List.replicate n (aF Qi.zero)).length:Int) = ((n:Nat):Int) by simp)) (ro rfl (cX (cJ 0)) (eX (eG ?_))))
  refine fO (fun (j : Nat) (out : List Qi) => nX (f k) n out j) (fun (j : Nat) (out : List Qi) => n - j) (fun (j : Nat) (out : List Qi) => [(0, NT .i64 n), (1, Fx Tryz.prog (Fin n × Fin n) (fun x => [NT .i64 x.1.1, NT .i64 x.2.1]) (fun x => aF (f x.1.1 x.2.1))), (5, Is (.slice (some ⟨B9, 0, none⟩) n n)), (6, NT .i64 k), (11, NT .i64 n), (12, NT .i64 k), (24, NT .i64 n), (25, NT .i64 j)]) (fun (j : Nat) (out : List Qi) => [Z, Ac B9 25 60 5 (bM aF m) k B18, bF 60 5 B18 (out.map aF)]) 0 (List.replicate n Qi.zero) (nX.start _ _ _)
   (zS rfl) (aU (fun _ _ _ h=>h) (aU (fun _ _ _ h=>h) (aU (aO (uD aF _ _)) aY))) (fun j out hT=>?_)
  refine ts (ro rfl (gX (Ht rfl) (Ht rfl)) (eX (cK (dQ (Ht rfl) (fun hj=>?_) (fun hj=>?_)))))
  ·simp only [decide_eq_true_eq] at hj
   have hlen2:=hT.len
   refine cU (cK (eG (ts (rm rfl (ra rfl (eX (fZ (m:=9) (dp 5 rfl (cX (Ht rfl)) (dp 6 rfl (cX (Ht rfl)) (cP 28 0 29 1 rfl (fY U_26 Z_25 (Ht rfl) (Ht rfl) rfl zo (by rw [Nat.mul_one,Nat.zero_add])) ?_))))))))))
   refine dq 30 2 rfl (iC A_25 Z_25 (Ht rfl) (j:=1) rfl) (dp 7 rfl (cX (Ht rfl)) (dp 1 rfl (cX (Ht rfl)) (dp 6 rfl (cX (Ht rfl)) (dp 7 rfl (cX (Ht rfl)) (C.D_step (Ei:=[(33,_),(34,_),(35,_)]) rfl rfl (bV (bG 5 rfl rfl) (bV (bG 6 rfl rfl) (bV (bG 7 rfl rfl) bW))) (dX rfl (kR ((⟨k,hk⟩,⟨j,hj⟩):Fin n × Fin n) (Ht rfl) ⟨(Ht rfl),(Ht rfl),trivial⟩)) (fV bC rfl (by kernel_rfl) (zF (zF (aJ (aV ?_))))))))))
   refine ro rfl (cL U_25 Z_60 (Ht rfl) (Ht rfl) rfl (i:=2) rfl (by first | omega | (simp; omega)) rfl) (kX Z_60 (Ht rfl) (Ht rfl) (El.ag rfl) (i:=2) rfl rfl (by first | omega | (simp; omega)) rfl (eX (bL (cY (ro rfl (dV (Ht rfl) (cJ 1) z6) (rm rfl (eX (fU (j + 1,_) (hT.next hj rfl) (by dsimp only; omega) (zS rfl) (aU (fun _ _ _ h=>h) (aU (fun _ _ _ h=>h) (aU (aO (dO aF _ _ _)) aY)))))))))))
  ·simp only [decide_eq_false_iff_not] at hj
   obtain rfl:j = n:=Nat.le_antisymm hT.kle zo
   have hfin:=hT.fin
   refine gW rfl (bL (dS 1 2 rfl rfl (by decide) (by simp; omega) ?_))
   refine cY (ro rfl (dV (Ht rfl) (cJ 1) z6) (rm rfl (eX (bS [0,1] rfl (by decide) (fU (k + 1,_) (hS.next hk hfin) (by dsimp only; omega) (zS rfl) (aU (fun _ _ _ h=>h) (aU (bI (eN aF _ _ _)) aY)))))))
 ·simp only [decide_eq_false_iff_not] at hk
  obtain rfl:k = n:=Nat.le_antisymm hS.kle zo
  have hfin:=hS.fin
  refine gW rfl (ts (rm rfl (ra rfl (eX ?_))))
  exact iO B9 trivial [0,1] ⟨⟨_,rfl,fun _ _ _ h=>h⟩,⟨_,rfl,(bI (by rw [hfin]))⟩,trivial⟩ (by decide) (tG rfl (eU rfl))
theorem Gp {n:Nat} {f:Nat → Nat → Qi} (hn:n ≤ 1000):bR Tryz.prog 110 [NT .i64 n,Fx Tryz.prog (Fin n × Fin n) (fun x=>[NT .i64 x.1.1,NT .i64 x.2.1]) (fun x=>aF (f x.1.1 x.2.1))] (aR (tab n fun i=>tab n (f i))):=(Ps hn).fun fun B _ v S V h1 h2=>kB (by simp [bM,List.map_map,Function.comp_def]) v V (Qk (by simp [bM,aD]) (Nat.le_refl _) v S V h1 h2)
end
section
open Go Go.RowKit
theorem mD {n : Nat} {E : dA} {H : Hp} {d : Option Tmp} {t : TypeId} {pos : String} {af : Array Edge} {g : Option (Nat × Bool)}  :
  aS Tryz.prog n E H ⟨d,.build 28 #[],t,pos,af,g⟩ (gN [Is (.slice none 0 0),Is (.slice none 0 0)]) :=
 jZ (parts := []) fun a V w hs => by
  refine ⟨.agg #[(.slice none 0 0),(.slice none 0 0)],?_,[(.slice none 0 0),(.slice none 0 0)],rfl,aW (⟨rfl,trivial⟩) (aW (⟨rfl,trivial⟩) (aG))⟩
  simp [Instr.build,Instr.fill,Sem.run_bind,Result.andThen,iW,O_28,U_28,Z_25,Z_26]
theorem rQ {n : Nat} {E : dA} {H : Hp} {d : Option Tmp} {t : TypeId} {pos : String} {af : Array Edge} {g : Option (Nat × Bool)} {x0 x1 : Operand} {T0 T1 : Ty} [s0 : dI T0 1 false] (h0 : bH E x0 T0) [s1 : dI T1 1 false] (h1 : bH E x1 T1) :
  aS Tryz.prog n E H ⟨d,.build 28 #[(0,x0),(1,x1)],t,pos,af,g⟩ (gN [T0,T1]) :=
 jZ (parts := [(0, x0), (1, x1)]) fun a V w hs => by
  have p0:=h0 n V a hs
  generalize e0:a.eval x0 = v0 at p0
  have q0:=(s0.ok v0 V p0).2.2 rfl
  have p1:=h1 n V a hs
  generalize e1:a.eval x1 = v1 at p1
  have q1:=(s1.ok v1 V p1).2.2 rfl
  refine ⟨.agg #[v0,v1],?_,[v0,v1],rfl,aW (⟨p0,q0⟩) (aW (⟨p1,q1⟩) (aG))⟩
  simp [e0,e1,Instr.build,Instr.fill,Sem.run_bind,Result.andThen,iW,q0.cells,q1.cells,O_28,U_28,Z_25,Z_26]
theorem jV (a:Addr) (w:World):(Instr.fieldAt 28 (.pointer (some a)) 0).run Tryz.prog w = .ok (.pointer (some (a.add 0))) w:=by
 simp [Instr.fieldAt,Instr.sureAddr,fieldPlace,Sem.run_bind,Result.andThen,U_28,Z_25]
end
section
open Go Go.RowKit
theorem a42 {s:List (List Qi)} {n i j:Nat} (hs:cF s n n) (hi:i < n) (hj:j < n):bR Tryz.prog 192 [NT .i64 i,NT .i64 j,PT (aR s)] (aF (gm s i j)):=by
 have h1:=hs.1; have h2:=hs.row hi
 refine bR.intro Tryz.func192 rfl Tryz.ntmps192 rfl (fun cx=>(ts (rn rfl (eW (Ts:=[Is (.bool false),Is (.slice none 0 0),Is (.bool false),Is (.slice none 0 0),Is (.slice none 0 0)]) O_60 rfl (fun V=>aW zd (aW zd (aW zd (aW zd (aW zd (aG))))))) fun B5=>(eX (ts (ro rfl (dJ A_26 Z_26 (Ht rfl)) (rm rfl (ro rfl (dZ U_26 Z_25 (Ht rfl) (Ht rfl) rfl (dY (dU (d:=[]) zo))) (ro rfl (dJ A_25 Z_25 (Ht rfl)) ?_)))))))))
 refine rm rfl (ro rfl (dZ U_25 Z_60 (Ht rfl) (Ht rfl) rfl (dY (dU (d:=Qi.zero) zo))) (ro rfl (dJ A_60 Z_60 (Ht rfl)) (gQ Z_60 (Ht rfl) (Ht rfl) rfl (i:=0) rfl (aK rfl) rfl rfl (eX ?_))))
 exact fW rfl (fK A_60 Z_60 rfl (i:=0) rfl rfl)
theorem Jo {z:List Qi} {s:List (List Qi)} {L:Nat} (hz:bP z L) (h:L ≤ 8796093022208) (hl:z.length ≤ 1000) (hl2:s.length ≤ 1000):bR Tryz.prog 93 [aM z,aR s] (eD [iK (dM (eS z s) z) (dM (eS z s) s),aP .i64 (eS z s)]):=by
 refine bR.intro Tryz.func93 rfl Tryz.ntmps93 rfl (fun cx=>(ts (rn rfl (rI (Ht rfl)) fun B3=>(rn rfl (eW (Ts:=[Is (.slice none 0 0),Is (.slice none 0 0)]) O_28 rfl (fun V=>aW zd (aW zd (aG)))) fun B4=>(ro rfl (cQ (cJ 0)) (eX (cK (cK (gV (i:=0) (tt:=3) rfl rfl lE (cY (rm rfl (ro rfl (dG U_25 (Ht rfl) aC) (ro rfl (gX (Ht rfl) (cJ 1)) (rm rfl (fQ rfl rfl (eK rfl rfl (Ht rfl) (fun h=>cX (Ht rfl))) (fQ rfl rfl (eK rfl rfl (Ht rfl) (fun h=>dG U_25 (fJ rfl h) aC)) ?_))))))))))))))))
 refine fQ rfl rfl (eK rfl rfl (Ht rfl) (fun h=>gA (fJ rfl h) (cJ 8))) (ro rfl (jQ (Ht rfl) (fun h=>(fJ rfl h))) (rm rfl (fQ rfl rfl (eK rfl rfl (Ht rfl) (fun h=>dJ A_26 Z_26 (Ht rfl))) (fQ rfl rfl (eK rfl rfl (Ht rfl) (fun h=>dG U_26 (fJ rfl h) aC)) (fQ rfl rfl (eK rfl rfl (Ht rfl) (fun h=>cX (Ht rfl))) (fQ rfl rfl (eK rfl rfl (Ht rfl) (fun h=>dG U_25 (fJ rfl h) aC)) (fQ rfl rfl (eK rfl rfl (Ht rfl) (fun h=>kN (fJ rfl h) (fJ rfl h))) ?_)))))))
 refine ro rfl (jQ (Ht rfl) (fun h=>(fJ rfl h))) (eX (dQ (Ht rfl) (fun hb=>?_) (fun hb=>?_)))
 ·have he := Kw hb
  refine ts (ro rfl (aS.imp (mD ) mE) (gQ Z_28 (Ht rfl) (Ht rfl) rfl (i:=1) rfl (aK rfl) rfl rfl (ro rfl (cQ (cJ 4)) (eX (bN rfl (fX (fK A_28 Z_28 rfl (i:=1) rfl rfl) ?_) (fX (eU rfl) ?_))))))
  ·exact (Hx he (by decide))
  ·exact (bE he.symm)
 ·refine cU (cK (ts (ro rfl (dJ A_26 Z_26 (Ht rfl)) (ro rfl (dG U_26 (Ht rfl) aC) (ro rfl (cX (cJ 0)) (eX (eG ?_)))))))
  refine cA (fun (k : Nat) => k ≤ s.length ∧ ∀ (i : Nat) (r : List Qi), i < k → s[i]? = some r → r.length = z.length) (fun (k : Nat) => s.length - k) (fun (k : Nat) => [(0, aM z), (3, PT (aR s)), (4, bO B4 0), (25, aR s), (26, NT .i64 s.length), (27, NT .i64 k)]) (fun (k : Nat) => [SA.emp, box B4 28 [Is (.slice none 0 0), Is (.slice none 0 0)]]) 0 ⟨Nat.zero_le _, fun i r h => by omega⟩
   (zS rfl) (dR.refl _) (fun k ⟨hk,hr⟩=>?_)
  refine ts (ro rfl (gX (Ht rfl) (Ht rfl)) (eX (cK (dQ (Ht rfl) (fun hc=>?_) (fun hc=>?_)))))
  ·simp only [decide_eq_true_eq] at hc
   refine cU (cK (eG (ts (ro rfl (dZ U_26 Z_25 (Ht rfl) (Ht rfl) rfl (dY (sO hc))) (ro rfl (dJ A_25 Z_25 (Ht rfl)) (ra rfl (eX (ts (rm rfl (ro rfl (dG U_25 (Ht rfl) aC) (rm rfl (ro rfl (dG U_25 (Ht rfl) aC) (ro rfl (kN (Ht rfl) (Ht rfl)) (eX (dQ (Ht rfl) (fun hd=>?_) (fun hd=>?_))))))))))))))))
   ·have hd2 : ¬ (s[k]).length = z.length := by simpa using hd
    have he:=Nt (sO hc) hd2
    refine ts (ro rfl (aS.imp (mD ) mE) (gQ Z_28 (Ht rfl) (Ht rfl) rfl (i:=1) rfl (aK rfl) rfl rfl (ro rfl (cQ (cJ 4)) (eX (bN rfl (fX (fK A_28 Z_28 rfl (i:=1) rfl rfl) ?_) (fX (eU rfl) ?_))))))
    ·exact (Hx he (by decide))
    ·exact (bE he.symm)
   ·have hd2 : (s[k]).length = z.length := by simpa using hd
    refine cU (bL (cY (ro rfl (dV (Ht rfl) (cJ 1) z6) (rm rfl (eX ?_)))))
    refine fU (k + 1) ⟨hc, fun i r h1 h2 => by
      by_cases e:i = k
      ·subst e; rw [sO hc] at h2; obtain rfl:=Option.some.inj h2; exact hd2
      ·exact hr i r zo h2⟩ zo (zS rfl) (dR.refl _)
  ·simp only [decide_eq_false_iff_not] at hc
   have hall:∀ (i:Nat) (r:List Qi),s[i]? = some r → r.length = z.length:=fun i r h=>hr i r (by have:=(List.getElem?_eq_some_iff.1 h).1; omega) h
   have hpos:=Ns hb hall
   refine gW rfl (cK (ts (rm rfl (ro rfl (cZ Tryz.call129 (zO hz h zo) ⟨(Ht rfl),trivial⟩) (ra rfl (eX (ts (rm rfl (ro rfl (kM (Ht rfl) cV) (eX (dQ (Ht rfl) (fun hd=>?_) (fun hd=>?_))))))))))))
   ·have hd2 : ¬ (if z.all gU = true then (0 : Int) else 1) = 0 := by simpa using hd
    refine ts (ro rfl (aS.imp (mD ) mE) (rm rfl (gQ Z_28 (Ht rfl) (Ht rfl) rfl (i:=1) rfl (aK rfl) rfl rfl (ra rfl (eX (bN rfl (fX (fK A_28 Z_28 rfl (i:=1) rfl rfl) ?_) (fX (eU rfl) ?_)))))))
    ·exact (Hx hpos hd2)
    ·exact (bE hpos.symm)
   ·have hd2 : (if z.all gU = true then (0 : Int) else 1) = 0 := by simpa using hd
    have he:=hpos.trans hd2
    obtain ⟨h1,h2,hsh,_⟩:=uX he
    refine cU (ts (rm rfl (ro rfl (cZ Tryz.call109 (Gm zo) ⟨(Ht rfl),trivial⟩) (rm rfl (ro rfl (dG U_25 (Ht rfl) aC) (ro rfl (nS (γ:=Fin z.length × Fin z.length) (Ts:=fun x=>[NT .i64 x.1.1,NT .i64 x.2.1]) (U:=fun x=>aF (gm s x.1.1 x.2.1)) Tryz.call192 (fun x=>a42 hsh x.1.2 x.2.2) ⟨(Ht rfl),trivial⟩) (ro rfl (cZ Tryz.call110 (eQ (Gp (n:=z.length) (f:=gm s) zo) (kB (by rw [← mY hsh]))) ⟨(Ht rfl),(Ht rfl),trivial⟩) ?_)))))))
    refine ro rfl (rQ (Ht rfl) (Ht rfl)) (gQ Z_28 (Ht rfl) (Ht rfl) rfl (i:=1) rfl (aK rfl) rfl rfl (ro rfl (cQ (cJ 0)) (eX (bN rfl (fX (fK A_28 Z_28 rfl (i:=1) rfl rfl) ?_) (fX (eU rfl) ?_)))))
    ·exact (Zx he)
    ·exact (bE he.symm)
theorem rT {z:List Qi} {s:List (List Qi)}:bR Tryz.prog 31 [iK z s] (NT .i64 z.length):=by
 refine bR.intro Tryz.func31 rfl Tryz.ntmps31 rfl (fun cx=>(ts (rn rfl (fG (Ht rfl)) fun B1=>(ro rfl (cQ (cJ 0)) (eX (ts (ro rfl (eZ jV (Ht rfl) rfl) (ro rfl (eY A_25 Z_25 (Ht rfl) (i:=0) rfl rfl) (ro rfl (dG U_25 (Ht rfl) aC) (ra rfl (eX ?_)))))))))))
 exact fW rfl (eU rfl)
theorem Jm {z:List Qi} {s:List (List Qi)} {i:Int}:bR Tryz.prog 138 [iK z s,aP .i64 i] (aH (decide (1 ≤ i ∧ i ≤ z.length))):=by
 refine bR.intro Tryz.func138 rfl Tryz.ntmps138 rfl (fun cx=>(ts (rn rfl (fG (Ht rfl)) fun B2=>(ro rfl (cQ cV) (eX (ts (rm rfl (ro rfl (nA (Ht rfl) cV) (rm rfl (fQ rfl rfl (eK rfl rfl (Ht rfl) (fun h=>cX (Ht rfl))) (fQ rfl rfl (eK rfl rfl (Ht rfl) (fun h=>eZ jV (Ht rfl) rfl)) (fQ rfl rfl (eK rfl rfl (Ht rfl) (fun h=>eY A_25 Z_25 (fJ rfl h) (i:=0) rfl rfl)) (fQ rfl rfl (eK rfl rfl (Ht rfl) (fun h=>dG U_25 (fJ rfl h) aC)) (fQ rfl rfl (eK rfl rfl (Ht rfl) (fun h=>If (fJ rfl h) (fJ rfl h))) ?_))))))))))))))
 refine ro rfl (fC (Ht rfl) (fun h=>(fJ rfl h))) (ra rfl (eX (fW rfl (fX (eU rfl) ?_))))
 exact (fA (by rw [Bool.eq_iff_iff]; simp))
end
section
open Go Go.RowKit
theorem kZ (a:Addr) (w:World):(Instr.fieldAt 28 (.pointer (some a)) 1).run Tryz.prog w = .ok (.pointer (some (a.add 1))) w:=by
 simp [Instr.fieldAt,Instr.sureAddr,fieldPlace,Sem.run_bind,Result.andThen,U_28,Z_26]
theorem mX (a:Addr) (w:World):(Instr.fieldAt 80 (.pointer (some a)) 0).run Tryz.prog w = .ok (.pointer (some (a.add 0))) w:=by
 simp [Instr.fieldAt,Instr.sureAddr,fieldPlace,Sem.run_bind,Result.andThen,U_80,Z_28]
theorem kJ (a:Addr) (w:World):(Instr.fieldAt 80 (.pointer (some a)) 1).run Tryz.prog w = .ok (.pointer (some (a.add 2))) w:=by
 simp [Instr.fieldAt,Instr.sureAddr,fieldPlace,Sem.run_bind,Result.andThen,U_80,Z_26]
end
section
open Go Go.RowKit
theorem Xc {z:List Qi} {s:List (List Qi)} {i:Int} (hl:z.length ≤ 1000):bR Tryz.prog 67 [iK z s,aP .i64 i] (eD [aF (pkv z i),aP .i64 (if 1 ≤ i ∧ i ≤ z.length then 0 else 1)]):=by
 refine bR.intro Tryz.func67 rfl Tryz.ntmps67 rfl (fun cx=>(ts (rn rfl (fG (Ht rfl)) fun B2=>(rn rfl (eW (Ts:=[Is (.bool false),Is (.slice none 0 0),Is (.bool false),Is (.slice none 0 0),Is (.slice none 0 0)]) O_60 rfl (fun V=>aW zd (aW zd (aW zd (aW zd (aW zd (aG))))))) fun B4=>(ro rfl (cQ (cJ 0)) (eX (cK (ts (ro rfl (eJ A_28 Z_28 (Ht rfl) (i:=0) rfl rfl rfl) (rm rfl (ro rfl (cZ Tryz.call138 Jm ⟨(Ht rfl),(Ht rfl),trivial⟩) ?_)))))))))))
 refine ro rfl (dH (Ht rfl)) (eX (dQ (Ht rfl) (fun hb=>?_) (fun hb=>?_)))
 ·have hn : ¬ (1 ≤ i ∧ i ≤ (z.length : Int)) := by simpa only [Bool.not_eq_true', decide_eq_false_iff_not] using hb
  refine ts (ro rfl (aS.imp (wT ) lY) (gQ Z_60 (Ht rfl) (Ht rfl) rfl (i:=1) rfl (aK rfl) rfl rfl (ro rfl (cQ (cJ 1)) (eX (bN rfl (fX (fK A_60 Z_60 rfl (i:=1) rfl rfl) ?_) (fX (eU rfl) ?_))))))
  ·exact (jU (by rw [pkv,if_neg hn]))
  ·exact (bE (by rw [if_neg hn]; rfl))
 ·have hp : 1 ≤ i ∧ i ≤ (z.length : Int) := by simpa only [Bool.not_eq_false', decide_eq_true_eq] using hb
  have hq:(i - 1).toNat < z.length:=by omega
  refine cU (ts (ro rfl (eZ jV (Ht rfl) rfl) (ro rfl (eY A_25 Z_25 (Ht rfl) (i:=0) rfl rfl) (rm rfl (ro rfl (jE (Ht rfl) cV (Du zo)) (ro rfl (dZ U_25 Z_60 (Ht rfl) (Ht rfl) (by omega:i - 1 = (((i - 1).toNat:Nat):Int)) (dY (dU (d:=Qi.zero) hq))) (ro rfl (dJ A_60 Z_60 (Ht rfl)) (gQ Z_60 (Ht rfl) (Ht rfl) rfl (i:=1) rfl (aK rfl) rfl rfl (ro rfl (cQ (cJ 0)) (eX (bN rfl (fX (fK A_60 Z_60 rfl (i:=1) rfl rfl) ?_) (fX (eU rfl) ?_))))))))))))
  ·exact (jU (by rw [pkv,if_pos hp]))
  ·exact (bE (by rw [if_pos hp]; rfl))
theorem a6v {z:List Qi} {s:List (List Qi)} {i j:Int} (hs:cF s z.length z.length) (hl:z.length ≤ 1000):bR Tryz.prog 39 [iK z s,aP .i64 i,aP .i64 j] (eD [aF (pkm z.length s i j),aP .i64 (if (1 ≤ i ∧ i ≤ z.length) ∧ 1 ≤ j ∧ j ≤ z.length then 0 else 1)]):=by
 have hs1:=hs.1
 refine bR.intro Tryz.func39 rfl Tryz.ntmps39 rfl (fun cx=>(ts (rn rfl (fG (Ht rfl)) fun B3=>(rn rfl (eW (Ts:=[Is (.bool false),Is (.slice none 0 0),Is (.bool false),Is (.slice none 0 0),Is (.slice none 0 0)]) O_60 rfl (fun V=>aW zd (aW zd (aW zd (aW zd (aW zd (aG))))))) fun B6=>(ro rfl (cQ (cJ 0)) (eX (cK (ts (ro rfl (eJ A_28 Z_28 (Ht rfl) (i:=0) rfl rfl rfl) (rm rfl (ro rfl (cZ Tryz.call138 Jm ⟨(Ht rfl),(Ht rfl),trivial⟩) ?_)))))))))))
 refine ro rfl (dH (Ht rfl)) (rm rfl (fQ rfl rfl (eK rfl rfl (Ht rfl) (fun h=>eJ A_28 Z_28 (Ht rfl) (i:=0) rfl rfl rfl)) (fQ rfl rfl (eK rfl rfl (Ht rfl) (fun h=>cX (Ht rfl))) (fQ rfl rfl (eK rfl rfl (Ht rfl) (fun h=>cZ Tryz.call138 Jm ⟨(fJ rfl h),(fJ rfl h),trivial⟩)) (fQ rfl rfl (eK rfl rfl (Ht rfl) (fun h=>dH (fJ rfl h))) (ro rfl (jQ (Ht rfl) (fun h=>(fJ rfl h))) (eX (dQ (Ht rfl) (fun hb=>?_) (fun hb=>?_)))))))))
 ·have hn : ¬ ((1 ≤ i ∧ i ≤ (z.length : Int)) ∧ 1 ≤ j ∧ j ≤ (z.length : Int)) := by simp only [Bool.or_eq_true, Bool.not_eq_true', decide_eq_false_iff_not] at hb; exact fun k => hb.elim (fun h => h k.1) (fun h => h k.2)
  refine ts (rn rfl (eW (Ts:=[Is (.bool false),Is (.slice none 0 0),Is (.bool false),Is (.slice none 0 0),Is (.slice none 0 0)]) O_60 rfl (fun V=>aW zd (aW zd (aW zd (aW zd (aW zd (aG))))))) fun B8=>(eX (ts (ro rfl (eJ A_60 Z_60 (Ht rfl) (i:=2) rfl rfl rfl) (gQ Z_60 (Ht rfl) (Ht rfl) rfl (i:=1) rfl (aK rfl) rfl rfl (ro rfl (cQ (cJ 1)) (eX (bN rfl (fX (fK A_60 Z_60 rfl (i:=1) rfl rfl) ?_) (fX (eU rfl) ?_)))))))))
  ·exact (fun v V k=>by rw [pkm,if_neg hn]; exact lY v V k)
  ·exact (bE (by rw [if_neg hn]; rfl))
 ·have hp : (1 ≤ i ∧ i ≤ (z.length : Int)) ∧ 1 ≤ j ∧ j ≤ (z.length : Int) := by simpa only [Bool.or_eq_false_iff, Bool.not_eq_false', decide_eq_true_eq] using hb
  have hq:(i - 1).toNat < s.length:=by omega
  have hq2:(j - 1).toNat < (s.getD (i - 1).toNat []).length:=by rw [hs.row zo]; omega
  refine cU (ts (ro rfl (eZ kZ (Ht rfl) rfl) (ro rfl (eY A_26 Z_26 (Ht rfl) (i:=0) rfl rfl) (rm rfl (ro rfl (jE (Ht rfl) cV (Du zo)) (ro rfl (dZ U_26 Z_25 (Ht rfl) (Ht rfl) (by omega:i - 1 = (((i - 1).toNat:Nat):Int)) (dY (dU (d:=[]) hq))) (ro rfl (dJ A_25 Z_25 (Ht rfl)) (rm rfl (ro rfl (jE (Ht rfl) cV (Du zo)) (ro rfl (dZ U_25 Z_60 (Ht rfl) (Ht rfl) (by omega:j - 1 = (((j - 1).toNat:Nat):Int)) (dY (dU (d:=Qi.zero) hq2))) ?_))))))))))
  refine ro rfl (dJ A_60 Z_60 (Ht rfl)) (gQ Z_60 (Ht rfl) (Ht rfl) rfl (i:=1) rfl (aK rfl) rfl rfl (ro rfl (cQ (cJ 0)) (eX (bN rfl (fX (fK A_60 Z_60 rfl (i:=1) rfl rfl) ?_) (fX (eU rfl) ?_)))))
  ·exact (jU (by rw [pkm,if_pos hp]))
  ·exact (bE (by rw [if_pos hp]; rfl))
theorem a1o {z:List Qi} {s c:List (List Qi)} {i j:Int} (hs:cF c c.length c.length) (hl:c.length ≤ 1000):bR Tryz.prog 139 [eH z s c,aP .i64 i,aP .i64 j] (eD [aF (pkm c.length c i j),aP .i64 (if (1 ≤ i ∧ i ≤ c.length) ∧ 1 ≤ j ∧ j ≤ c.length then 0 else 1)]):=by
 refine bR.intro Tryz.func139 rfl Tryz.ntmps139 rfl (fun cx=>(ts (rn rfl (fG (Ht rfl)) fun B3=>(rn rfl (eW (Ts:=[Is (.bool false),Is (.slice none 0 0),Is (.bool false),Is (.slice none 0 0),Is (.slice none 0 0)]) O_60 rfl (fun V=>aW zd (aW zd (aW zd (aW zd (aW zd (aG))))))) fun B6=>(ro rfl (cQ (cJ 0)) (eX (cK (ts (rm rfl (ro rfl (uB (Ht rfl) cV) (rm rfl (fQ rfl rfl (eK rfl rfl (Ht rfl) (fun h=>cX (Ht rfl))) ?_))))))))))))
 refine fQ rfl rfl (eK rfl rfl (Ht rfl) (fun h=>eZ kJ (Ht rfl) rfl)) (fQ rfl rfl (eK rfl rfl (Ht rfl) (fun h=>eY A_26 Z_26 (fJ rfl h) (i:=0) rfl rfl)) (fQ rfl rfl (eK rfl rfl (Ht rfl) (fun h=>dG U_26 (fJ rfl h) aC)) (fQ rfl rfl (eK rfl rfl (Ht rfl) (fun h=>Ie (fJ rfl h) (fJ rfl h))) (ro rfl (jQ (Ht rfl) (fun h=>(fJ rfl h))) (rm rfl (fQ rfl rfl (eK rfl rfl (Ht rfl) (fun h=>cX (Ht rfl))) (fQ rfl rfl (eK rfl rfl (Ht rfl) (fun h=>uB (fJ rfl h) cV)) ?_)))))))
 refine ro rfl (jQ (Ht rfl) (fun h=>(fJ rfl h))) (rm rfl (fQ rfl rfl (eK rfl rfl (Ht rfl) (fun h=>cX (Ht rfl))) (fQ rfl rfl (eK rfl rfl (Ht rfl) (fun h=>eZ kJ (Ht rfl) rfl)) (fQ rfl rfl (eK rfl rfl (Ht rfl) (fun h=>eY A_26 Z_26 (fJ rfl h) (i:=0) rfl rfl)) (fQ rfl rfl (eK rfl rfl (Ht rfl) (fun h=>dG U_26 (fJ rfl h) aC)) (fQ rfl rfl (eK rfl rfl (Ht rfl) (fun h=>Ie (fJ rfl h) (fJ rfl h))) (ro rfl (jQ (Ht rfl) (fun h=>(fJ rfl h))) (eX (dQ (Ht rfl) (fun hb=>?_) (fun hb=>?_))))))))))
 ·have hn : ¬ ((1 ≤ i ∧ i ≤ (c.length : Int)) ∧ 1 ≤ j ∧ j ≤ (c.length : Int)) := by simp only [Bool.or_eq_true, decide_eq_true_eq] at hb; omega
  refine ts (rn rfl (eW (Ts:=[Is (.bool false),Is (.slice none 0 0),Is (.bool false),Is (.slice none 0 0),Is (.slice none 0 0)]) O_60 rfl (fun V=>aW zd (aW zd (aW zd (aW zd (aW zd (aG))))))) fun B8=>(eX (ts (ro rfl (eJ A_60 Z_60 (Ht rfl) (i:=2) rfl rfl rfl) (gQ Z_60 (Ht rfl) (Ht rfl) rfl (i:=1) rfl (aK rfl) rfl rfl (ro rfl (cQ (cJ 1)) (eX (bN rfl (fX (fK A_60 Z_60 rfl (i:=1) rfl rfl) ?_) (fX (eU rfl) ?_)))))))))
  ·exact (fun v V k=>by rw [pkm,if_neg hn]; exact lY v V k)
  ·exact (bE (by rw [if_neg hn]; rfl))
 ·have hp : (1 ≤ i ∧ i ≤ (c.length : Int)) ∧ 1 ≤ j ∧ j ≤ (c.length : Int) := by simp only [Bool.or_eq_false_iff, decide_eq_false_iff_not] at hb; omega
  have hq:(i - 1).toNat < c.length:=by omega
  have hq2:(j - 1).toNat < (c.getD (i - 1).toNat []).length:=by rw [hs.row zo]; omega
  refine cU (ts (ro rfl (eZ kJ (Ht rfl) rfl) (ro rfl (eY A_26 Z_26 (Ht rfl) (i:=0) rfl rfl) (rm rfl (ro rfl (jE (Ht rfl) cV (Du zo)) (ro rfl (dZ U_26 Z_25 (Ht rfl) (Ht rfl) (by omega:i - 1 = (((i - 1).toNat:Nat):Int)) (dY (dU (d:=[]) hq))) (ro rfl (dJ A_25 Z_25 (Ht rfl)) (rm rfl (ro rfl (jE (Ht rfl) cV (Du zo)) (ro rfl (dZ U_25 Z_60 (Ht rfl) (Ht rfl) (by omega:j - 1 = (((j - 1).toNat:Nat):Int)) (dY (dU (d:=Qi.zero) hq2))) ?_))))))))))
  refine ro rfl (dJ A_60 Z_60 (Ht rfl)) (gQ Z_60 (Ht rfl) (Ht rfl) rfl (i:=1) rfl (aK rfl) rfl rfl (ro rfl (cQ (cJ 0)) (eX (bN rfl (fX (fK A_60 Z_60 rfl (i:=1) rfl rfl) ?_) (fX (eU rfl) ?_)))))
  ·exact (jU (by rw [pkm,if_pos hp]))
  ·exact (bE (by rw [if_pos hp]; rfl))
end
section
open Go Go.RowKit
theorem Qh (a:Addr) (w:World):(Instr.fieldAt 77 (.pointer (some a)) 0).run Tryz.prog w = .ok (.pointer (some (a.add 0))) w:=by
 simp [Instr.fieldAt,Instr.sureAddr,fieldPlace,Sem.run_bind,Result.andThen,U_77,Z_22]
theorem Hc (a:Addr) (w:World):(Instr.fieldAt 77 (.pointer (some a)) 1).run Tryz.prog w = .ok (.pointer (some (a.add 1))) w:=by
 simp [Instr.fieldAt,Instr.sureAddr,fieldPlace,Sem.run_bind,Result.andThen,U_77,Z_75]
theorem Hd (a:Addr) (w:World):(Instr.fieldAt 77 (.pointer (some a)) 2).run Tryz.prog w = .ok (.pointer (some (a.add 2))) w:=by
 simp [Instr.fieldAt,Instr.sureAddr,fieldPlace,Sem.run_bind,Result.andThen,U_77,Z_75]
theorem Iw:Tryz.prog.underlying 26 = some (.slice 25):=by kernel_rfl
end
section
open Go Go.RowKit
theorem yN {m:List (List Rt)} (hm:m.length ≤ 1000) (hr:∀ r,r ∈ m → r.length ≤ 1000):bR Tryz.prog 94 [Bq m] (aR (rq m)):=by
 refine bR.intro Tryz.func94 rfl Tryz.ntmps94 rfl (fun cx=>(ts (ro rfl (cQ cV) (eX (ts (rm rfl (ro rfl (dG U_75 (Ht rfl) aC) (rn rfl (kS (T:=aM []) (i:=Tryz.t25) Iw lA rfl rfl (Ht rfl) rfl La El.one (by show 24 * _ ≤ _; omega) zo) fun B8=>(ra rfl (eX (cK (ts (rm rfl (ro rfl (dG U_75 (Ht rfl) aC) (ro rfl (cX (cJ 0)) (eX (eG ?_)))))))))))))))))
 refine fO (fun (k : Nat) (out : List (List Qi)) => nX (fun i => (m.getD i default).map Rt.q) m.length out k) (fun (k : Nat) (out : List (List Qi)) => m.length - k) (fun (k : Nat) (out : List (List Qi)) => [(3, Is B8), (9, Bq m), (10, NT .i64 m.length), (11, NT .i64 k)]) (fun (k : Nat) (out : List (List Qi)) => [bF 25 1 B8 (out.map aM)]) 0 (List.replicate m.length []) (nX.start _ _ _)
  (zS rfl) (aU (aO (uD aM _ _)) aY) (fun k out hS=>?_)
 refine ts (ro rfl (gX (Ht rfl) (Ht rfl)) (eX (cK (dQ (Ht rfl) (fun hk=>?_) (fun hk=>?_)))))
 ·simp only [decide_eq_true_eq] at hk
  have hlen:=hS.len
  have hrk : (m.getD k default).length ≤ 1000 := by
   have e:m.getD k default = m[k]:=by simp [List.getD,hk]
   rw [e]; exact hr _ (List.getElem_mem hk)
  refine cU (cK (eG (ts (rm rfl (ro rfl (dZ U_75 Z_22 (Ht rfl) (Ht rfl) rfl (dY (dU (d:=default) hk))) (ro rfl (dJ A_22 Z_22 (Ht rfl)) (ra rfl (ra rfl (eX (cY (rm rfl (rm rfl (rm rfl (ro rfl (cZ Tryz.call48 (uP zo) ⟨(Ht rfl),trivial⟩) (ro rfl (cL U_26 Z_25 (Ht rfl) (Ht rfl) rfl (i:=0) rfl (by first | omega | (simp; omega)) rfl) (kX Z_25 (Ht rfl) (Ht rfl) El.one (i:=0) rfl rfl (by first | omega | (simp; omega)) rfl (eX (bL ?_))))))))))))))))))
  refine cY (ro rfl (dV (Ht rfl) (cJ 1) z6) (rm rfl (eX (fU (k + 1,_) (hS.next hk rfl) (by dsimp only; omega) (zS rfl) (aU (aO (dO aM _ _ _)) aY)))))
 ·simp only [decide_eq_false_iff_not] at hk
  obtain rfl:k = m.length:=Nat.le_antisymm hS.kle zo
  have hfin:=hS.fin
  rw [Dj m (fun r=>r.map Rt.q)] at hfin
  refine gW rfl (gV (i:=0) (tt:=3) rfl rfl eR (ts (rm rfl (ra rfl (eX (fW rfl (fX (eU rfl) ?_)))))))
  exact (kB (by rw [hfin]))
theorem a5S {z:List Rt} {s c:List (List Rt)}:bR Tryz.prog 41 [Wb z s c] (aH (yU z s c)):=by
 refine bR.intro Tryz.func41 rfl Tryz.ntmps41 rfl (fun cx=>(ts (rn rfl (fG (Ht rfl)) fun B1=>(ro rfl (cQ cV) (eX (cK (ts (ro rfl (eZ Qh (Ht rfl) rfl) (ro rfl (eY A_22 Z_22 (Ht rfl) (i:=0) rfl rfl) (ro rfl (dG U_22 (Ht rfl) aC) (ro rfl (gA (Ht rfl) (cJ 9)) (rm rfl (fQ rfl rfl (eK rfl rfl (Ht rfl) (fun h=>eZ Hc (Ht rfl) rfl)) (fQ rfl rfl (eK rfl rfl (Ht rfl) (fun h=>eY A_75 Z_75 (fJ rfl h) (i:=0) rfl rfl)) (fQ rfl rfl (eK rfl rfl (Ht rfl) (fun h=>dG U_75 (fJ rfl h) aC)) ?_)))))))))))))))
 refine fQ rfl rfl (eK rfl rfl (Ht rfl) (fun h=>gA (fJ rfl h) (cJ 9))) (ro rfl (jQ (Ht rfl) (fun h=>(fJ rfl h))) (rm rfl (fQ rfl rfl (eK rfl rfl (Ht rfl) (fun h=>eZ Hd (Ht rfl) rfl)) (fQ rfl rfl (eK rfl rfl (Ht rfl) (fun h=>eY A_75 Z_75 (fJ rfl h) (i:=0) rfl rfl)) (fQ rfl rfl (eK rfl rfl (Ht rfl) (fun h=>dG U_75 (fJ rfl h) aC)) (fQ rfl rfl (eK rfl rfl (Ht rfl) (fun h=>gA (fJ rfl h) (cJ 9))) (ro rfl (jQ (Ht rfl) (fun h=>(fJ rfl h))) (eX ?_))))))))
 refine dQ (Ht rfl) (fun hb=>?_) (fun hb=>?_)
 ·refine ts (ro rfl (cQ cV) (eX (fW rfl (fX (eU rfl) ?_))))
  exact (fA (Tz hb).symm)
 ·have hbl : z.length ≤ 9 ∧ s.length ≤ 9 ∧ c.length ≤ 9 := by have hb2 := hb; simp only [Bool.or_eq_false_iff, decide_eq_false_iff_not] at hb2; omega
  refine cU (cK (ts (ro rfl (eZ Hc (Ht rfl) rfl) (ro rfl (eY A_75 Z_75 (Ht rfl) (i:=0) rfl rfl) (ro rfl (dG U_75 (Ht rfl) aC) (ro rfl (cX (cJ 0)) (eX (eG ?_))))))))
  refine cA (fun (k : Nat) => k ≤ s.length ∧ ∀ (i : Nat) (r : List Rt), i < k → s[i]? = some r → r.length ≤ 9) (fun (k : Nat) => s.length - k) (fun (k : Nat) => [(1, bO B1 0), (24, Bq s), (25, NT .i64 s.length), (26, NT .i64 k)]) (fun (k : Nat) => [box B1 77 [vS z, Bq s, Bq c]]) 0 ⟨Nat.zero_le _, fun i r h => by omega⟩
   (zS rfl) (dR.refl _) (fun k ⟨hk,hr⟩=>?_)
  refine ts (ro rfl (gX (Ht rfl) (Ht rfl)) (eX (cK (dQ (Ht rfl) (fun hd=>?_) (fun hd=>?_)))))
  ·simp only [decide_eq_true_eq] at hd
   refine cU (cK (eG (ts (ro rfl (dZ U_75 Z_22 (Ht rfl) (Ht rfl) rfl (dY (sO hd))) (ro rfl (dJ A_22 Z_22 (Ht rfl)) (ra rfl (eX (ts (rm rfl (ro rfl (dG U_22 (Ht rfl) aC) (ro rfl (gA (Ht rfl) (cJ 9)) (eX (dQ (Ht rfl) (fun he=>?_) (fun he=>?_))))))))))))))
   ·simp only [decide_eq_true_eq] at he
    refine ts (ro rfl (cQ cV) (eX (fW rfl (fX (eU rfl) ?_))))
    exact (fA (Tx (sO hd) he).symm)
   ·simp only [decide_eq_false_iff_not] at he
    refine cU (bL (cY (ro rfl (dV (Ht rfl) (cJ 1) z6) (rm rfl (eX ?_)))))
    refine fU (k + 1) ⟨hd, fun i r h1 h2 => by
      by_cases e:i = k
      ·subst e; rw [sO hd] at h2; obtain rfl:=Option.some.inj h2; omega
      ·exact hr i r zo h2⟩ zo (zS rfl) (dR.refl _)
  ·simp only [decide_eq_false_iff_not] at hd
   have hall:∀ (i:Nat) (r:List Rt),s[i]? = some r → r.length ≤ 9:=fun i r h=>hr i r (by have:=(List.getElem?_eq_some_iff.1 h).1; omega) h
   refine gW rfl (cK (ts (ro rfl (eZ Hd (Ht rfl) rfl) (ro rfl (eY A_75 Z_75 (Ht rfl) (i:=0) rfl rfl) (ro rfl (dG U_75 (Ht rfl) aC) (ro rfl (cX (cJ 0)) (eX (eG ?_))))))))
   refine cA (fun (k : Nat) => k ≤ c.length ∧ ∀ (i : Nat) (r : List Rt), i < k → c[i]? = some r → r.length ≤ 9) (fun (k : Nat) => c.length - k) (fun (k : Nat) => [(1, bO B1 0), (35, Bq c), (36, NT .i64 c.length), (37, NT .i64 k)]) (fun (k : Nat) => [box B1 77 [vS z, Bq s, Bq c]]) 0 ⟨Nat.zero_le _, fun i r h => by omega⟩
    (zS rfl) (dR.refl _) (fun k ⟨hk2,hr2⟩=>?_)
   refine ts (ro rfl (gX (Ht rfl) (Ht rfl)) (eX (cK (dQ (Ht rfl) (fun hd2=>?_) (fun hd2=>?_)))))
   ·simp only [decide_eq_true_eq] at hd2
    refine cU (cK (eG (ts (ro rfl (dZ U_75 Z_22 (Ht rfl) (Ht rfl) rfl (dY (sO hd2))) (ro rfl (dJ A_22 Z_22 (Ht rfl)) (ra rfl (eX (ts (rm rfl (ro rfl (dG U_22 (Ht rfl) aC) (ro rfl (gA (Ht rfl) (cJ 9)) (eX (dQ (Ht rfl) (fun he=>?_) (fun he=>?_))))))))))))))
    ·simp only [decide_eq_true_eq] at he
     refine ts (ro rfl (cQ cV) (eX (fW rfl (fX (eU rfl) ?_))))
     exact (fA (Tw (sO hd2) he).symm)
    ·simp only [decide_eq_false_iff_not] at he
     refine cU (bL (cY (ro rfl (dV (Ht rfl) (cJ 1) z6) (rm rfl (eX ?_)))))
     refine fU (k + 1) ⟨hd2, fun i r h1 h2 => by
       by_cases e:i = k
       ·subst e; rw [sO hd2] at h2; obtain rfl:=Option.some.inj h2; omega
       ·exact hr2 i r zo h2⟩ zo (zS rfl) (dR.refl _)
   ·simp only [decide_eq_false_iff_not] at hd2
    have hall2:∀ (i:Nat) (r:List Rt),c[i]? = some r → r.length ≤ 9:=fun i r h=>hr2 i r (by have:=(List.getElem?_eq_some_iff.1 h).1; omega) h
    refine gW rfl (ts (ro rfl (cQ cV) (eX (fW rfl (fX (eU rfl) ?_)))))
    exact (fA (Ys hb hall hall2).symm)
end
section
open Go Go.RowKit
theorem rS {n : Nat} {E : dA} {H : Hp} {d : Option Tmp} {t : TypeId} {pos : String} {af : Array Edge} {g : Option (Nat × Bool)}  :
  aS Tryz.prog n E H ⟨d,.build 80 #[],t,pos,af,g⟩ (gN [Is (.slice none 0 0),Is (.slice none 0 0),Is (.slice none 0 0)]) :=
 jZ (parts := []) fun a V w hs => by
  refine ⟨.agg #[(.slice none 0 0),(.slice none 0 0),(.slice none 0 0)],?_,[(.slice none 0 0),(.slice none 0 0),(.slice none 0 0)],rfl,aW (⟨rfl,trivial⟩) (aW (⟨rfl,trivial⟩) (aW (⟨rfl,trivial⟩) (aG)))⟩
  simp [Instr.build,Instr.fill,Sem.run_bind,Result.andThen,iW,O_80,U_80,Z_26,Z_28]
theorem Ww {n : Nat} {E : dA} {H : Hp} {d : Option Tmp} {t : TypeId} {pos : String} {af : Array Edge} {g : Option (Nat × Bool)} {x0 : Operand} {T0 T1 : Ty} (h0 : bH E x0 (gN [T0, T1])) :
  aS Tryz.prog n E H ⟨d,.build 80 #[(0,x0)],t,pos,af,g⟩ (gN [T0,T1,Is (.slice none 0 0)]) :=
 jZ (parts := [(0, x0)]) fun a V w hs => by
  obtain ⟨v0,e0,c0⟩:=h0 n V a hs
  obtain ⟨c0_0,c0_1,rfl⟩:∃ c0_0 c0_1,v0 = [c0_0,c0_1]:=Kq (by simpa using c0.length)
  refine ⟨.agg #[c0_0,c0_1,(.slice none 0 0)],?_,[c0_0,c0_1,(.slice none 0 0)],rfl,aW (c0.at (i:=0) rfl rfl) (aW (c0.at (i:=1) rfl rfl) (aW (⟨rfl,trivial⟩) (aG)))⟩
  simp [e0,Instr.build,Instr.fill,Sem.run_bind,Result.andThen,iW,O_80,U_80,Z_26,Z_28]
end
section
open Go Go.RowKit
theorem Tg {r:List Qi} {c:List (List Qi)}:bR Tryz.prog 228 [aM r,PT (aR c)] (aH (!decide (r.length = c.length))):=by
 refine bR.intro Tryz.func228 rfl Tryz.ntmps228 rfl (fun cx=>(ts (ro rfl (cQ cV) (eX (ts (rm rfl (ro rfl (dG U_25 (Ht rfl) aC) (ro rfl (dJ A_26 Z_26 (Ht rfl)) (ro rfl (dG U_26 (Ht rfl) aC) (ro rfl (kN (Ht rfl) (Ht rfl)) (ra rfl (eX ?_))))))))))))
 exact fW rfl (eU rfl)
theorem Xm {z:List Qi} {s c:List (List Qi)} (hz:z.length ≤ 1000) (hc:c.length ≤ 1000):bR Tryz.prog 142 [iK z s,aR c] (eD [eH (dM (fS z c) z) (dM (fS z c) s) (dM (fS z c) c),aP .i64 (fS z c)]):=by
 refine bR.intro Tryz.func142 rfl Tryz.ntmps142 rfl (fun cx=>(ts (rn rfl (fG (Ht rfl)) fun B2=>(rn rfl (rI (Ht rfl)) fun B3=>(rn rfl (eW (Ts:=[Is (.slice none 0 0),Is (.slice none 0 0),Is (.slice none 0 0)]) O_80 rfl (fun V=>aW zd (aW zd (aW zd (aG))))) fun B4=>(ro rfl (cQ (cJ 0)) (eX (cK (cK (gV (i:=1) (tt:=3) rfl rfl lE (fZ (m:=8) (dp 3 rfl (dJ A_26 Z_26 (Ht rfl)) (dq 9 0 rfl (dG U_26 (Ht rfl) aC) ?_)))))))))))))
 refine dp 2 rfl (eJ A_28 Z_28 (Ht rfl) (i:=0) rfl rfl rfl) (dq 11 2 rfl (cZ K_31 rT ⟨(Ht rfl),trivial⟩) (cP 10 1 12 3 rfl (kN (Ht rfl) (Ht rfl)) (dq 13 4 rfl (cX (Ht rfl)) (C.D_step (Ei:=[(3,_),(14,_)]) rfl rfl (bV (bK rfl rfl) (bV (bG 5 rfl rfl) bW)) (eK rfl rfl (Ht rfl) (fun h=>dJ A_26 Z_26 (Ht rfl))) (C.D_step (Ei:=[(3,_),(14,_)]) rfl rfl (bV (bK rfl rfl) (bV (bG 5 rfl rfl) bW)) (eK rfl rfl (Ht rfl) (fun h=>nS (γ:=List Qi) (Ts:=fun r=>[aM r]) (U:=fun r=>aH (!decide (r.length = c.length))) Tryz.call228 (fun r=>Tg) ⟨(Ht rfl),trivial⟩)) ?_)))))
 refine fV bC rfl (by kernel_rfl) (zF (zF (aV (fQ rfl rfl (eK rfl rfl (Ht rfl) (fun h=>cZ Tryz.call227 (qS (l:=c) (T:=aM) (p:=fun r=>!decide (r.length = c.length)) zo) ⟨(fJ rfl h),(fJ rfl h),trivial⟩)) (ro rfl (jQ (Ht rfl) (fun h=>(fJ rfl h))) (eX (dQ (Ht rfl) (fun hb=>?_) (fun hb=>?_))))))))
 ·have he := Nu hb
  refine ts (ro rfl (aS.imp (rS ) nK) (gQ Z_80 (Ht rfl) (Ht rfl) rfl (i:=2) rfl (aK rfl) rfl rfl (ro rfl (cQ (cJ 4)) (eX (bN rfl (fX (fK A_80 Z_80 rfl (i:=2) rfl rfl) ?_) (fX (eU rfl) ?_))))))
  ·exact (Up he)
  ·exact (bE he.symm)
 ·have he := Ky hb
  obtain ⟨hcl,hsh⟩:=Uo he
  refine cU (ts (ro rfl (eJ A_28 Z_28 (Ht rfl) (i:=0) rfl rfl rfl) (ro rfl (Ww (Ht rfl)) (rn rfl (eW (Ts:=[Is (.slice none 0 0),Is (.slice none 0 0),Is (.slice none 0 0)]) O_80 rfl (fun V=>aW zd (aW zd (aW zd (aG))))) fun B6=>(gQ Z_80 (Ht rfl) (Ht rfl) rfl (i:=3) rfl (aK rfl) rfl rfl (eX (cK (ts (ro rfl (dJ A_26 Z_26 (Ht rfl)) (ro rfl (dG U_26 (Ht rfl) aC) (ro rfl (cX (cJ 0)) ?_)))))))))))
  refine eX (eG (bS [2,3] rfl (by decide) (qZ 25 1 ?_)))
  refine nP (fun (k : Nat) (out : List (List Qi)) (v : Value) => k ≤ c.length ∧ out = c.take k) (fun (k : Nat) (out : List (List Qi)) (v : Value) => c.length - k) (fun (k : Nat) (out : List (List Qi)) (v : Value) => [(4, bO B4 0), (6, bO B6 0), (22, aR c), (23, NT .i64 c.length), (24, NT .i64 k)]) (fun (k : Nat) (out : List (List Qi)) (v : Value) => [box B4 80 [Is (.slice none 0 0), Is (.slice none 0 0), Is (.slice none 0 0)], box B6 80 [aM z, aR s, Is v], bF 25 1 v (out.map aM)]) 0 [] (.slice none 0 0) ⟨Nat.zero_le _, rfl⟩
   (zS rfl) (dR.refl _) (fun k out v ⟨hk,ho⟩=>?_)
  refine ts (ro rfl (gX (Ht rfl) (Ht rfl)) (eX (cK (dQ (Ht rfl) (fun hd=>?_) (fun hd=>?_)))))
  ·simp only [decide_eq_true_eq] at hd
   have hol:out.length ≤ 1000:=by rw [ho,List.length_take]; omega
   have hrk : (c.getD k default).length ≤ 1000 := by
    have e:c.getD k default = c.getD k []:=rfl
    rw [e,hsh.row zo]; omega
   refine cU (cK (eG (ts (ro rfl (dZ U_26 Z_25 (Ht rfl) (Ht rfl) rfl (dY (dU (d:=default) hd))) (ro rfl (dJ A_25 Z_25 (Ht rfl)) (ra rfl (eX (fZ (m:=5) (dp 6 rfl (eZ kJ (Ht rfl) rfl) (dq 28 0 rfl (a2G A_26 Z_26 (Ht rfl) (i:=1) rfl rfl) (dp 8 rfl (cX (Ht rfl)) (dq 30 2 rfl (cZ Tryz.call109 (Gm zo) ⟨(Ht rfl),trivial⟩) (dq 31 3 rfl (cE (xs:=[.tmp 31]) U_26 Z_25 O_25 (cW (Ht rfl) cG) rfl rfl rfl) ?_)))))))))))))
   refine fV bC rfl (by kernel_rfl) (zF (aJ (aV (mT (inf:=Tryz.t25) Iw lA rfl rfl rfl (Ht rfl) (Ht rfl) (i:=2) rfl (by simp) (fun T hT=>by simp at hT; subst hT; exact El.one) (by show _ * 24 ≤ _; simp only [List.length_map,List.length_cons,List.length_nil]; omega) (by simp only [List.length_map,List.length_cons,List.length_nil]; omega) rfl (fun v2=>?_)))))
   refine ro rfl (eZ kJ (Ht rfl) rfl) (a5F (l:=2) Z_26 (Ht rfl) (Ht rfl) (i:=1) rfl rfl (aK rfl) rfl (eX (bL (cY (ro rfl (dV (Ht rfl) (cJ 1) z6) (rm rfl (eX (fU (k + 1,_,v2) ⟨by omega,Ov hd ho⟩ (by dsimp only; omega) (zS rfl) (aU (aA rfl) (aU (aA rfl) (aU (aO (rA aM _ _)) aY)))))))))))
  ·simp only [decide_eq_false_iff_not] at hd
   have hfin:=a0O ho zo
   subst hfin
   refine gW rfl (cK (Sz 1 2 2 rfl rfl rfl (by decide) (cY (ro rfl (eJ A_80 Z_80 (Ht rfl) (i:=1) rfl rfl rfl) (gQ Z_80 (Ht rfl) (Ht rfl) rfl (i:=0) rfl (aK rfl) rfl rfl (ro rfl (cQ (cJ 0)) (eX (bN rfl (fX (fK A_80 Z_80 rfl (i:=0) rfl rfl) ?_) (fX (eU rfl) ?_)))))))))
   ·exact (Nv he)
   ·exact (bE he.symm)
end
section
open Go Go.RowKit
theorem nJ (v : Value) (w : World) : (method (Tryz.prog.types.size + Made.depth) 60 v "Of").run Tryz.prog w = .ok (304, v) w := by kernel_rfl
theorem bD (v:Value) (w:World):(Instr.makeInterface 60 v).run Tryz.prog w = .ok (.iface 60 v) w:=by
 simp [Instr.makeInterface,Sem.run_bind,Result.andThen,U_60]
end
section
open Go Go.RowKit
theorem Xp {x:Qi} {L:Nat} [hx:aE x L] (h:L ≤ 8796093022208):bR Tryz.prog 158 [aF x] (aH (Dp x)):=by
 haveI hz:aE Qi.zero 1:=aE.zero (Nat.le_refl 1)
 rw [← a3g]
 refine bR.intro Tryz.func158 rfl Tryz.ntmps158 rfl (fun cx=>(ts (rn rfl (fG (Ht rfl)) fun B1=>(ro rfl (cQ cV) (eX (cK (fZ (m:=5) (dp 1 rfl (eJ A_60 Z_60 (Ht rfl) (i:=0) rfl rfl rfl) (dq 3 0 rfl (cZ Tryz.call55 Bv ⟨(Ht rfl),trivial⟩) (dq 4 1 rfl (cX (Ht rfl)) (C.D_step (Ei:=[(1,_),(5,_)]) rfl rfl (bV (bK rfl rfl) (bV (bG 2 rfl rfl) bW)) (eK rfl rfl (Ht rfl) (fun h=>eJ A_60 Z_60 (Ht rfl) (i:=0) rfl rfl rfl)) (C.D_step (Ei:=[(5,_)]) rfl rfl (bV (bG 2 rfl rfl) bW) (eK rfl rfl (Ht rfl) (fun h=>cZ K_52 (mK (n:=0) (by decide) (by decide)) ⟨(cJ 0),trivial⟩)) ?_))))))))))))
 refine fV bC rfl (by kernel_rfl) (zF (aJ (aV (fQ rfl rfl (eK rfl rfl (Ht rfl) (fun h=>cZ K_51 (Bu (x:=x) (y:=Qi.zero) (M:=1) zo) ⟨(fJ rfl h),(fJ rfl h),trivial⟩)) (fQ rfl rfl (eK rfl rfl (Ht rfl) (fun h=>nA (fJ rfl h) cV)) (ro rfl (fC (Ht rfl) (fun h=>(fJ rfl h))) (ra rfl (eX ?_))))))))
 exact fW rfl (eU rfl)
theorem Em {y:Qi}:bR Tryz.prog 304 [gN [Is (.bool false),Is (.slice none 0 0),Is (.bool false),Is (.slice none 0 0),Is (.slice none 0 0)],aF y] (aF y):=by
 refine bR.intro Tryz.func304 rfl Tryz.ntmps304 rfl (fun cx=>(ts (rn rfl (fG (Ht rfl)) fun B2=>(rn rfl (fG (Ht rfl)) fun B3=>(rn rfl (eW (Ts:=[Is (.bool false),Is (.slice none 0 0),Is (.bool false),Is (.slice none 0 0),Is (.slice none 0 0)]) O_60 rfl (fun V=>aW zd (aW zd (aW zd (aW zd (aW zd (aG))))))) fun B4=>(eX (ts (ro rfl (eJ A_60 Z_60 (Ht rfl) (i:=1) rfl rfl rfl) (gQ Z_60 (Ht rfl) (Ht rfl) rfl (i:=2) rfl (aK rfl) rfl rfl ?_)))))))))
 refine eX ?_
 exact fW rfl (fK A_60 Z_60 rfl (i:=2) rfl rfl)
theorem Bx {x:Qi}:bR Tryz.prog 147 [aF x] (aF x):=by
 refine bR.intro Tryz.func147 rfl Tryz.ntmps147 rfl (fun cx=>(ts (rn rfl (fG (Ht rfl)) fun B1=>(rn rfl (eW (Ts:=[Is (.bool false),Is (.slice none 0 0),Is (.bool false),Is (.slice none 0 0),Is (.slice none 0 0)]) O_60 rfl (fun V=>aW zd (aW zd (aW zd (aW zd (aW zd (aG))))))) fun B2=>(eX (ts (rn rfl (eW (Ts:=[Is (.bool false),Is (.slice none 0 0),Is (.bool false),Is (.slice none 0 0),Is (.slice none 0 0)]) O_60 rfl (fun V=>aW zd (aW zd (aW zd (aW zd (aW zd (aG))))))) fun B3=>?_)))))))
 refine eX (ts (ro rfl (eJ A_60 Z_60 (Ht rfl) (i:=2) rfl rfl rfl) (ro rfl (aT bD (Ht rfl)) (ro rfl (eJ A_60 Z_60 (Ht rfl) (i:=0) rfl rfl rfl) (ro rfl (aL nJ K_304 Em (Ht rfl) ⟨(Ht rfl),trivial⟩) (gQ Z_60 (Ht rfl) (Ht rfl) rfl (i:=1) rfl (aK rfl) rfl rfl (eX ?_)))))))
 exact fW rfl (fK A_60 Z_60 rfl (i:=1) rfl rfl)
theorem Bw {r:List Qi} {k:Nat}:bR Tryz.prog 261 [aM r,PT (NT .i64 k)] (aH (!decide (r.length = k))):=by
 refine bR.intro Tryz.func261 rfl Tryz.ntmps261 rfl (fun cx=>(ts (ro rfl (cQ cV) (eX (ts (rm rfl (ro rfl (dG U_25 (Ht rfl) aC) (ro rfl (dJ A_3 Z_3 (Ht rfl)) (ro rfl (kN (Ht rfl) (Ht rfl)) (ra rfl (eX ?_)))))))))))
 exact fW rfl (eU rfl)
theorem wE  : bR Tryz.prog 226 [aR []] (eD [NT .i64 0,aH true]):=by
 refine bR.intro Tryz.func226 rfl Tryz.ntmps226 rfl (fun cx=>(ts (ro rfl (cQ (cJ 0)) (ro rfl (cQ cV) (eX (cK (ts (rm rfl (ro rfl (dG U_26 (Ht rfl) aC) (ro rfl (eB (Ht rfl) (cJ 0)) (eX (Af (Ht rfl) (by rfl) ?_))))))))))))
 refine ts (ro rfl (cQ (cJ 0)) (ro rfl (cQ cV) (eX ?_)))
 exact bN rfl (eU rfl) (eU rfl)
theorem yM {a:List (List Qi)} {n k:Nat} (h:cF a n k) (h1:1 ≤ n) (hn:n ≤ 32) (hk:k ≤ 32):bR Tryz.prog 226 [aR a] (eD [NT .i64 k,aH true]):=by
 obtain ⟨rfl,h2⟩:=h
 have hr0:(a.getD 0 []).length = k:=cF.row ⟨rfl,h2⟩ zo
 refine bR.intro Tryz.func226 rfl Tryz.ntmps226 rfl (fun cx=>(ts (ro rfl (cQ (cJ 0)) (ro rfl (cQ cV) (eX (cK (ts (rm rfl (ro rfl (dG U_26 (Ht rfl) aC) (ro rfl (eB (Ht rfl) (cJ 0)) (eX (dQ (Ht rfl) (fun hb=>?_) (fun hb=>?_)))))))))))))
 ·simp only [decide_eq_true_eq] at hb
  omega
 ·refine cU (ts (rm rfl (ro rfl (dZ U_26 Z_25 (Ht rfl) (cJ 0) rfl (dY (dU (d := []) zo))) (ro rfl (dJ A_25 Z_25 (Ht rfl)) (ro rfl (dG U_25 (Ht rfl) aC) (rn rfl (eW (Ts := [Is (.int .i64 0)]) O_3 rfl (fun V => aW zd (aG))) fun B4 => (pX Z_3 (Ht rfl) (Ht rfl) (i := 0) rfl (aK rfl) rfl (eX (cK (gV (i := 0) (tt := 4) rfl rfl lE (fZ (m := 15) (dp 4 rfl (dJ A_3 Z_3 (Ht rfl)) ?_))))))))))))
  refine dp 0 rfl (cX (Ht rfl)) (dq 13 1 rfl (dG U_26 (Ht rfl) aC) (dq 14 2 rfl (uZ (Ht rfl) (cJ 32)) (dq 15 3 rfl (cX (Ht rfl)) (C.D_step (Ei:=[(4,_),(16,_)]) rfl rfl (bV (bK rfl rfl) (bV (bG 4 rfl rfl) bW)) (eK rfl rfl (Ht rfl) (fun h=>dJ A_3 Z_3 (Ht rfl))) (C.D_step (Ei:=[(17,_),(16,_)]) rfl rfl (bV (bG 5 rfl rfl) (bV (bG 4 rfl rfl) bW)) (eK rfl rfl (Ht rfl) (fun h=>uZ (fJ rfl h) (cJ 32))) (cP 16 4 18 6 rfl (fC (Ht rfl) (fun h=>(fJ rfl h))) ?_))))))
  refine dq 19 7 rfl (cX (Ht rfl)) (C.D_step (Ei:=[(0,_),(20,_)]) rfl rfl (bV (bK rfl rfl) (bV (bG 8 rfl rfl) bW)) (eK rfl rfl (Ht rfl) (fun h=>cX (Ht rfl))) (C.D_step (Ei:=[(4,_),(20,_)]) rfl rfl (bV (bK rfl rfl) (bV (bG 8 rfl rfl) bW)) (eK rfl rfl (Ht rfl) (fun h=>nS (γ:=List Qi) (Ts:=fun r=>[aM r]) (U:=fun r=>aH (!decide (r.length = (a.getD 0 []).length))) Tryz.call261 (fun r=>Bw) ⟨(Ht rfl),trivial⟩)) (C.D_step (Ei:=[(21,_),(22,_),(20,_)]) rfl rfl (bV (bG 9 rfl rfl) (bV (bG 10 rfl rfl) (bV (bG 8 rfl rfl) bW))) (eK rfl rfl (Ht rfl) (fun h=>cZ Tryz.call227 (qS (l:=a) (T:=aM) (p:=fun r=>!decide (r.length = (a.getD 0 []).length)) zo) ⟨(fJ rfl h),(fJ rfl h),trivial⟩)) ?_)))
  refine C.D_step (Ei:=[(23,_),(20,_)]) rfl rfl (bV (bG 11 rfl rfl) (bV (bG 8 rfl rfl) bW)) (eK rfl rfl (Ht rfl) (fun h=>dH (fJ rfl h))) (cP 20 8 24 12 rfl (fC (Ht rfl) (fun h=>(fJ rfl h))) (dq 12 0 rfl (cQ (Ht rfl)) (fV bC rfl (by kernel_rfl) (zF (zF (zF (aJ (aJ (aJ (aV (ra rfl (eX (bN rfl (fX (eU rfl) ?_) (fX (eU rfl) ?_))))))))))))))
  ·exact (lX hr0)
  ·exact (fA (by rw [hr0,a1B ⟨rfl,h2⟩]; simp; omega))
theorem pM {a:List (List Qi)} {n k:Nat} (h:cF a n k) (h1:1 ≤ n ∨ k = 0) (hn:n ≤ 32) (hk:k ≤ 32):bR Tryz.prog 226 [aR a] (eD [NT .i64 k,aH true]):=by
 by_cases e:n = 0
 ·subst e
  obtain rfl:=List.length_eq_zero_iff.1 h.1
  rw [show k = 0 by omega]; exact wE
 ·exact yM h zo hn hk
end
section
open Go Go.RowKit
theorem lF (v : Value) (w : World) : (method (Tryz.prog.types.size + Made.depth) 60 v "Add").run Tryz.prog w = .ok (71, v) w := by kernel_rfl
theorem lM (v : Value) (w : World) : (method (Tryz.prog.types.size + Made.depth) 60 v "Conj").run Tryz.prog w = .ok (173, v) w := by kernel_rfl
theorem cB (v : Value) (w : World) : (method (Tryz.prog.types.size + Made.depth) 60 v "Mul").run Tryz.prog w = .ok (70, v) w := by kernel_rfl
end
section
open Go Go.RowKit
theorem Jj {a b:List (List Qi)} {n k m L M:Nat} (ha:cF a n k) (hb:cF b k m) (hfa:aN a L) (hfb:aN b M) (hL1:1 ≤ L) (hM1:1 ≤ M) (hL:L ≤ 900000000000) (hM:M ≤ 900000000000) (hn1:1 ≤ n ∨ k = 0) (hk1:1 ≤ k ∨ m = 0) (hn:n ≤ 8) (hk:k ≤ 8) (hm:m ≤ 8):fN Tryz.prog 141 [aR a,aR b] [] (Nat) (fun B=>eD [Is (.slice (some ⟨B,0,none⟩) n n),aP .i64 0]) (fun B=>[lQ B 25 60 5 (bM aF (iJ a b n k m))]) (fun _=>True):=by
 have hal:=ha.1
 have hbl:=hb.1
 refine fN.intro Tryz.func141 rfl Tryz.ntmps141 rfl (fun cx Z=>(ts (ro rfl (cQ cV) (ro rfl (cQ (cJ 0)) (eX (ts (rm rfl (ro rfl (cZ K_226 (pM ha hn1 zo zo) ⟨(Ht rfl),trivial⟩) (rm rfl (ro rfl (dK (Ht rfl) rfl) (ro rfl (dK (Ht rfl) rfl) (ra rfl (ra rfl (eX (ts (rm rfl (ro rfl (cZ K_226 (pM hb hk1 zo zo) ⟨(Ht rfl),trivial⟩) (rm rfl (ro rfl (dK (Ht rfl) rfl) (ro rfl (dK (Ht rfl) rfl) (ra rfl (ra rfl (eX (cK (ts (rm rfl (ro rfl (dH (Ht rfl)) ?_)))))))))))))))))))))))))))
 refine rm rfl (fQ rfl rfl (eK rfl rfl (Ht rfl) (fun h=>cX (Ht rfl))) (fQ rfl rfl (eK rfl rfl (Ht rfl) (fun h=>dH (fJ rfl h))) (ro rfl (jQ (Ht rfl) (fun h=>(fJ rfl h))) (rm rfl (fQ rfl rfl (eK rfl rfl (Ht rfl) (fun h=>cX (Ht rfl))) (fQ rfl rfl (eK rfl rfl (Ht rfl) (fun h=>cX (Ht rfl))) (fQ rfl rfl (eK rfl rfl (Ht rfl) (fun h=>dG U_26 (fJ rfl h) aC)) (fQ rfl rfl (eK rfl rfl (Ht rfl) (fun h=>kN (fJ rfl h) (fJ rfl h))) (ro rfl (jQ (Ht rfl) (fun h=>(fJ rfl h))) ?_)))))))))
 refine eX (dQ (Ht rfl) (fun h0=>?_) (fun h0=>?_))
 ·exact absurd h0 (by simp [hbl])
 ·refine cU (ts (rm rfl (ro rfl (dG U_26 (Ht rfl) aC) (rn rfl (gK (T := Is (.slice none 0 0)) (i := Tryz.t25) V_26 lA rfl rfl (Ht rfl) rfl (fun _ => rfl) trivial (by show 24 * _ ≤ _; omega) zo) fun B39 => (ra rfl (eX (cK (ts (rm rfl (ro rfl (eT U_26 (Ht rfl)) (ro rfl (cX (cJ 0)) (eX (eG (mU 1 rfl (sC (e := 60) (s := 5)) ?_))))))))))))))
  refine cA (fun (i : Nat) => i ≤ n) (fun (i : Nat) => n - i) (fun (i : Nat) => [(0, aR a), (1, aR b), (6, NT .i64 k), (8, NT .i64 m), (10, Is (.slice (some ⟨B39, 0, none⟩) n n)), (41, NT .i64 n), (42, NT .i64 i)]) (fun (i : Nat) => [Z, lQ B39 25 60 5 (bM aF (kV (fun i => tab m fun c => qU a b k i c) [] n i))]) 0 (Nat.zero_le _)
   (aQ rfl (aQ rfl (aQ rfl (aQ rfl (aZ rfl (fun v V h=>by rw [← hal]; exact h) (aZ rfl (lX hal) (zS rfl))))))) (aU (fun _ _ _ h=>h) (aU (bI (by rw [← iL,kT,hal]; exact mA aF n)) aY)) (fun i hi=>?_)
  refine ts (ro rfl (gX (Ht rfl) (Ht rfl)) (eX (cK (dQ (Ht rfl) (fun hd=>?_) (fun hd=>?_)))))
  ·simp only [decide_eq_true_eq] at hd
   have har:=ha.row hd
   refine mB 1 (i) rfl (kQ hd) (fun v=>(cU (cK (eG (ts (rm rfl (ra rfl (eX (ts (rm rfl (ro rfl (cX (cJ 0)) (eX (eG ?_)))))))))))))
   refine fO (fun (c : Nat) (v : Value) => c ≤ m) (fun (c : Nat) (v : Value) => m - c) (fun (c : Nat) (v : Value) => [(0, aR a), (1, aR b), (6, NT .i64 k), (8, NT .i64 m), (10, Is (.slice (some ⟨B39, 0, none⟩) n n)), (11, NT .i64 i), (41, NT .i64 n), (42, NT .i64 i), (45, NT .i64 m), (46, NT .i64 c)]) (fun (c : Nat) (v : Value) => [Z, Ac B39 25 60 5 (bM aF (kV (fun i => tab m fun c => qU a b k i c) [] n i)) i v, bF 60 5 v ((tab c fun c => qU a b k i c).map aF)]) 0 v (Nat.zero_le _)
    (zS rfl) (dR.refl _) (fun c v hc=>?_)
   refine ts (ro rfl (gX (Ht rfl) (Ht rfl)) (eX (cK (dQ (Ht rfl) (fun he=>?_) (fun he=>?_)))))
   ·simp only [decide_eq_true_eq] at he
    have hk1:1 ≤ k:=by omega
    have hb0:=hb.row (i:=0) zo
    haveI f1:aE (gm a i 0) L:=hfa.get hL1 i 0
    haveI f2:aE (gm b 0 c) M:=hfb.get hM1 0 c
    refine cU (cK (eG (ts (rm rfl (ra rfl (eX (cK (fZ (m:=15) (dp 0 rfl (cX (Ht rfl)) (dp 11 rfl (cX (Ht rfl)) (cP 49 0 50 1 rfl (dZ U_26 Z_25 (Ht rfl) (Ht rfl) rfl (dY (dU (d:=[]) zo))) (dq 51 2 rfl (dJ A_25 Z_25 (Ht rfl)) (dq 52 3 rfl (dZ U_25 Z_60 (Ht rfl) (cJ 0) rfl (dY (dU (d:=Qi.zero) (by rw [har]; omega)))) ?_)))))))))))))
    refine dq 53 4 rfl (dJ A_60 Z_60 (Ht rfl)) (dq 54 5 rfl (aT bD (Ht rfl)) (dp 1 rfl (cX (Ht rfl)) (dq 56 7 rfl (dZ U_26 Z_25 (Ht rfl) (cJ 0) rfl (dY (dU (d:=[]) zo))) (dq 57 8 rfl (dJ A_25 Z_25 (Ht rfl)) (dp 12 rfl (cX (Ht rfl)) (cP 58 9 59 10 rfl (dZ U_25 Z_60 (Ht rfl) (Ht rfl) rfl (dY (dU (d:=Qi.zero) (by rw [hb0]; omega)))) ?_))))))
    refine dq 60 11 rfl (dJ A_60 Z_60 (Ht rfl)) (cP 55 6 61 12 rfl (aL cB K_70 (iF zo) (Ht rfl) ⟨(Ht rfl),trivial⟩) (C.D_new (Ei:=[]) rfl rfl rfl bW (eW (Ts:=[Is (.bool false),Is (.slice none 0 0),Is (.bool false),Is (.slice none 0 0),Is (.slice none 0 0)]) O_60 rfl (fun V=>aW zd (aW zd (aW zd (aW zd (aW zd (aG))))))) (fV bC rfl (by kernel_rfl) (zF (zF (zF (aJ (aJ (C.F_new (fun B13=>aV ?_))))))))))
    refine gQ Z_60 (Ht rfl) (Ht rfl) rfl (i:=3) rfl (aK rfl) rfl rfl (eX (cK (ts (ro rfl (cQ (cJ 1)) (eX (eG ?_))))))
    refine cA (fun (j : Nat) => 1 ≤ j ∧ j ≤ k) (fun (j : Nat) => k - j) (fun (j : Nat) => [(0, aR a), (1, aR b), (6, NT .i64 k), (8, NT .i64 m), (10, Is (.slice (some ⟨B39, 0, none⟩) n n)), (11, NT .i64 i), (12, NT .i64 c), (13, bO B13 0), (14, NT .i64 j), (41, NT .i64 n), (42, NT .i64 i), (45, NT .i64 m), (46, NT .i64 c)]) (fun (j : Nat) => [Z, Ac B39 25 60 5 (bM aF (kV (fun i => tab m fun c => qU a b k i c) [] n i)) i v, bF 60 5 v ((tab c fun c => qU a b k i c).map aF), box B13 60 [aH (decide ((aI j fun j => gm a i j * gm b j c).a < 0)), bA (aI j fun j => gm a i j * gm b j c).a.natAbs, aH (decide ((aI j fun j => gm a i j * gm b j c).b < 0)), bA (aI j fun j => gm a i j * gm b j c).b.natAbs, bA (du (aI j fun j => gm a i j * gm b j c))]]) 1 ⟨Nat.le_refl _, hk1⟩
     (zS rfl) (aU (fun _ _ _ h=>h) (aU (fun _ _ _ h=>h) (aU (fun _ _ _ h=>h) (aU (aA (by rw [yD]; rfl)) aY)))) (fun j ⟨hj1,hj⟩=>?_)
    refine cK (ts (rm rfl (rm rfl (ro rfl (gX (Ht rfl) (Ht rfl)) (eX (dQ (Ht rfl) (fun hf=>?_) (fun hf=>?_)))))))
    ·simp only [decide_eq_true_eq] at hf
     haveI f3:aE (gm a i j) L:=hfa.get hL1 i j
     haveI f4:aE (gm b j c) M:=hfb.get hM1 j c
     haveI f5:aE (aI j fun j=>gm a i j * gm b j c) (8 * (L + M) + 17):=Gy hfa hfb hL1 hM1 zo i c
     have hbj:=hb.row (i:=j) zo
     refine cU (cK (eG (fZ (m:=18) (dp 13 rfl (eJ A_60 Z_60 (Ht rfl) (i:=3) rfl rfl rfl) (dq 68 0 rfl (aT bD (Ht rfl)) (dp 0 rfl (cX (Ht rfl)) (dp 11 rfl (cX (Ht rfl)) (cP 70 2 71 3 rfl (dZ U_26 Z_25 (Ht rfl) (Ht rfl) rfl (dY (dU (d:=[]) zo))) (dq 72 4 rfl (dJ A_25 Z_25 (Ht rfl)) (dp 14 rfl (cX (Ht rfl)) (cP 73 5 74 6 rfl (dZ U_25 Z_60 (Ht rfl) (Ht rfl) rfl (dY (dU (d:=Qi.zero) (by rw [har]; omega)))) ?_)))))))))))
     refine dq 75 7 rfl (dJ A_60 Z_60 (Ht rfl)) (dq 76 8 rfl (aT bD (Ht rfl)) (dp 1 rfl (cX (Ht rfl)) (dp 14 rfl (cX (Ht rfl)) (cP 78 10 79 11 rfl (dZ U_26 Z_25 (Ht rfl) (Ht rfl) rfl (dY (dU (d:=[]) zo))) (dq 80 12 rfl (dJ A_25 Z_25 (Ht rfl)) (dp 12 rfl (cX (Ht rfl)) (cP 81 13 82 14 rfl (dZ U_25 Z_60 (Ht rfl) (Ht rfl) rfl (dY (dU (d:=Qi.zero) (by rw [hbj]; omega)))) ?_)))))))
     refine dq 83 15 rfl (dJ A_60 Z_60 (Ht rfl)) (cP 77 9 84 16 rfl (aL cB K_70 (iF zo) (Ht rfl) ⟨(Ht rfl),trivial⟩) (fV bC rfl (by kernel_rfl) (zF (zF (zF (zF (aJ (aJ (aV (ro rfl (aL lF K_71 (rB zo) (Ht rfl) ⟨(Ht rfl),trivial⟩) (gQ Z_60 (Ht rfl) (Ht rfl) rfl (i:=3) rfl (aK rfl) rfl rfl (eX (bL ?_)))))))))))))
     refine cY (rm rfl (ro rfl (dV (Ht rfl) (cJ 1) z6) (ra rfl (eX (fU (j + 1) ⟨by omega,hf⟩ zo (zS rfl) (aU (fun _ _ _ h=>h) (aU (fun _ _ _ h=>h) (aU (fun _ _ _ h=>h) (aU (aA rfl) aY)))))))))
    ·simp only [decide_eq_false_iff_not] at hf
     obtain rfl:k = j:=Nat.le_antisymm zo hj
     refine gW rfl (Y.D_startA (m:=9) [] 8 2 rfl rfl (bY (Ei:=[(10,_)]) rfl rfl (bQ (bJ rfl rfl) bX) rfl rfl (dX rfl (cX (Ht rfl))) (bY (Ei:=[(11,_)]) rfl rfl (bQ (bJ rfl rfl) bX) rfl rfl (dX rfl (cX (Ht rfl))) (bY (Ei:=[(10,_)]) rfl rfl (bQ (bJ rfl rfl) bX) rfl rfl (dX rfl (cX (Ht rfl))) (bY (Ei:=[(11,_)]) rfl rfl (bQ (bJ rfl rfl) bX) rfl rfl (dX rfl (cX (Ht rfl))) (bY (Ei:=[(89,_),(90,_)]) rfl rfl (bQ (bZ 2 rfl rfl) (bQ (bZ 3 rfl rfl) bX)) rfl rfl (dX rfl (fY U_26 Z_25 (Ht rfl) (Ht rfl) rfl zo (by rw [Nat.mul_one,Nat.zero_add]))) ?_))))))
     refine bY (Ei:=[(91,_)]) rfl rfl (bQ (bZ 4 rfl rfl) bX) rfl rfl (dX rfl (iC A_25 Z_25 (Ht rfl) (j:=1) rfl)) (bY (Ei:=[(13,_)]) rfl rfl (bQ (bJ rfl rfl) bX) rfl rfl (dX rfl (eJ A_60 Z_60 (Ht rfl) (i:=3) rfl rfl rfl)) (bY (Ei:=[(93,_)]) rfl rfl (bQ (bZ 6 rfl rfl) bX) rfl rfl (dX rfl (cE (xs:=[.tmp 93]) U_25 Z_60 O_60 (cW (Ht rfl) cG) rfl rfl rfl)) (Y.D_app (Ei:=[(92,_),(94,_)]) rfl rfl rfl rfl (bQ (bZ 5 rfl rfl) (bQ (bZ 7 rfl rfl) bX)) rfl (nW (inf:=Tryz.t60) jH gG rfl rfl rfl (Ht rfl) (Ht rfl) (by simp) (fun T hT=>by simp at hT; subst hT; exact El.ag rfl) (by show _ * 88 ≤ _; simp only [List.length_map,aD,List.length_cons,List.length_nil]; omega) (by simp only [List.length_map,aD,List.length_cons,List.length_nil]; omega)) ?_)))
     refine Y.D_done bC rfl (by kernel_rfl) rfl (by simp [Y.okP]) rfl rfl (bU (bU (bU (bU (bU (bU (bU (bU (Y.F_app (fun v2=>Y.F_nil ?_))))))))))
     refine ro rfl (fY U_26 Z_25 (Ht rfl) (Ht rfl) rfl zo (by rw [Nat.mul_one,Nat.zero_add])) ?_
     refine tK Z_25 (Ht rfl) (Ht rfl) (by simp only [bM,List.length_map,dE]; omega) (j:=1) (l:=4) rfl rfl rfl ?_
     refine eX (bL (cY (ro rfl (dV (Ht rfl) (cJ 1) z6) (rm rfl (eX (bS [0,1,4] rfl (by decide) (fU (c + 1,v2) he (by dsimp only; omega) (zS rfl) (aU (fun _ _ _ h=>h) (aU (fun _ _ _ h=>h) (aU (aO ((rA aF _ (qU a b k i c)).trans (congrArg _ (lH c (fun c=>qU a b k i c)).symm))) aY))))))))))
   ·simp only [decide_eq_false_iff_not] at he
    obtain rfl:m = c:=Nat.le_antisymm zo hc
    refine gW rfl (bL (dS 1 2 rfl rfl (by decide) (by simp only [bM,List.length_map,dE]; omega) ?_))
    refine cY (ro rfl (dV (Ht rfl) (cJ 1) z6) (rm rfl (eX (bS [0,1] rfl (by decide) (fU (i + 1) hd zo (zS rfl) (aU (fun _ _ _ h=>h) (aU (bI (by rw [eN,← jN (f:=(fun i=>tab m fun c=>qU a b k i c))])) aY)))))))
  ·simp only [decide_eq_false_iff_not] at hd
   obtain rfl:n = i:=Nat.le_antisymm zo hi
   refine gW rfl (ts (rm rfl (ra rfl (ro rfl (cQ (cJ 0)) (eX ?_)))))
   exact iO B39 trivial [0,1] ⟨⟨_,rfl,fun _ _ _ h=>h⟩,⟨_,rfl,(bI (by rw [jW]; rfl))⟩,trivial⟩ (by decide) (Vd rfl (eU rfl) (eU rfl))
theorem Pp {a b:List (List Qi)} {n k m L M:Nat} (ha:cF a n k) (hb:cF b k m) (hfa:aN a L) (hfb:aN b M) (hL1:1 ≤ L) (hM1:1 ≤ M) (hL:L ≤ 900000000000) (hM:M ≤ 900000000000) (hn1:1 ≤ n) (hk1:1 ≤ k) (hn:n ≤ 8) (hk:k ≤ 8) (hm:m ≤ 8):fN Tryz.prog 141 [aR a,aR b] [] Nat (fun B=>eD [Is (.slice (some ⟨B,0,none⟩) n n),aP .i64 0]) (fun B=>[lQ B 25 60 5 (bM aF (iJ a b n k m))]) (fun _=>True):=Jj ha hb hfa hfb hL1 hM1 hL hM (.inl hn1) (.inl hk1) hn hk hm
theorem a1e {a b:List (List Qi)} {n k m L M:Nat} (ha:cF a n k) (hb:cF b k m) (hfa:aN a L) (hfb:aN b M) (hL1:1 ≤ L) (hM1:1 ≤ M) (hL:L ≤ 900000000000) (hM:M ≤ 900000000000) (hn1:1 ≤ n ∨ k = 0) (hk1:1 ≤ k ∨ m = 0) (hn:n ≤ 8) (hk:k ≤ 8) (hm:m ≤ 8):bR Tryz.prog 141 [aR a,aR b] (eD [aR (iJ a b n k m),aP .i64 0]):=(Jj ha hb hfa hfb hL1 hM1 hL hM hn1 hk1 hn hk hm).fun fun B _ v S V h1 h2=>a0T h1 fun u hu=>gY (s:=5) (M:=iJ a b n k m) (aD _ _).symm u S V hu h2
theorem a43 {a b:List (List Qi)} {n k m L M:Nat} (ha:cF a n k) (hb:cF b k m) (hfa:aN a L) (hfb:aN b M) (hL1:1 ≤ L) (hM1:1 ≤ M) (hL:L ≤ 900000000000) (hM:M ≤ 900000000000) (hn1:1 ≤ n) (hk1:1 ≤ k) (hn:n ≤ 8) (hk:k ≤ 8) (hm:m ≤ 8):bR Tryz.prog 141 [aR a,aR b] (eD [aR (iJ a b n k m),aP .i64 0]):=(Pp ha hb hfa hfb hL1 hM1 hL hM hn1 hk1 hn hk hm).fun fun B _ v S V h1 h2=>a0T h1 fun u hu=>gY (s:=5) (M:=iJ a b n k m) (aD _ _).symm u S V hu h2
theorem a3Z {a:List (List Qi)} {n m:Nat} (ha:cF a n m) (hn1:1 ≤ n) (hn:n ≤ 8) (hm:m ≤ 8):fN Tryz.prog 140 [aR a] [] (Nat) (fun B=>eD [Is (.slice (some ⟨B,0,none⟩) m m),aP .i64 0]) (fun B=>[lQ B 25 60 5 (bM aF (mR a n m))]) (fun _=>True):=by
 have hal:=ha.1
 refine fN.intro Tryz.func140 rfl Tryz.ntmps140 rfl (fun cx Z=>(ts (ro rfl (cQ cV) (ro rfl (cQ (cJ 0)) (eX (ts (rm rfl (ro rfl (cZ K_226 (yM ha hn1 zo zo) ⟨(Ht rfl),trivial⟩) (rm rfl (ro rfl (dK (Ht rfl) rfl) (ro rfl (dK (Ht rfl) rfl) (ra rfl (ra rfl (eX (cK (ts (rm rfl (ro rfl (dH (Ht rfl)) (eX (dQ (Ht rfl) (fun h0=>?_) (fun h0=>?_)))))))))))))))))))))
 ·exact absurd h0 (by simp)
 ·refine cU (ts (rm rfl (rn rfl (gK (T := Is (.slice none 0 0)) (i := Tryz.t25) V_26 lA rfl rfl (Ht rfl) rfl (fun _ => rfl) trivial (by show 24 * _ ≤ _; omega) zo) fun B17 => (ra rfl (eX (cK (ts (rm rfl (ro rfl (eT U_26 (Ht rfl)) (ro rfl (cX (cJ 0)) (eX (eG (mU 1 rfl (sC (e := 60) (s := 5)) ?_)))))))))))))
  refine cA (fun (k : Nat) => k ≤ m) (fun (k : Nat) => m - k) (fun (k : Nat) => [(0, aR a), (6, Is (.slice (some ⟨B17, 0, none⟩) m m)), (19, NT .i64 m), (20, NT .i64 k)]) (fun (k : Nat) => [Z, lQ B17 25 60 5 (bM aF (kV (fun k => tab n fun i => (gm a i k).conj) [] m k))]) 0 (Nat.zero_le _)
   (zS rfl) (aU (fun _ _ _ h=>h) (aU (bI (by rw [← iL,kT]; exact mA aF m)) aY)) (fun k hk=>?_)
  refine ts (ro rfl (gX (Ht rfl) (Ht rfl)) (eX (cK (dQ (Ht rfl) (fun hd=>?_) (fun hd=>?_)))))
  ·simp only [decide_eq_true_eq] at hd
   refine mB 1 (k) rfl (kQ hd) (fun v=>(cU (cK (eG (ts (rm rfl (ra rfl (eX (ts (rm rfl (ro rfl (dG U_26 (Ht rfl) aC) (ro rfl (cX (cJ 0)) (eX (eG ?_))))))))))))))
   refine fO (fun (i : Nat) (v : Value) => i ≤ n) (fun (i : Nat) (v : Value) => n - i) (fun (i : Nat) (v : Value) => [(0, aR a), (6, Is (.slice (some ⟨B17, 0, none⟩) m m)), (7, NT .i64 k), (19, NT .i64 m), (20, NT .i64 k), (24, NT .i64 n), (25, NT .i64 i)]) (fun (i : Nat) (v : Value) => [Z, Ac B17 25 60 5 (bM aF (kV (fun k => tab n fun i => (gm a i k).conj) [] m k)) k v, bF 60 5 v ((tab i fun i => (gm a i k).conj).map aF)]) 0 v (Nat.zero_le _)
    (aQ rfl (aQ rfl (aQ rfl (aQ rfl (aQ rfl (aZ rfl (lX hal) (zS rfl))))))) (dR.refl _) (fun i v hi=>?_)
   refine ts (ro rfl (gX (Ht rfl) (Ht rfl)) (eX (cK (dQ (Ht rfl) (fun he=>?_) (fun he=>?_)))))
   ·simp only [decide_eq_true_eq] at he
    have har:=ha.row he
    refine cU (cK (eG (ts (rm rfl (ra rfl (eX (Y.D_startA (m:=17) [] 16 2 rfl rfl (bY (Ei:=[(6,_)]) rfl rfl (bQ (bJ rfl rfl) bX) rfl rfl (dX rfl (cX (Ht rfl))) (bY (Ei:=[(7,_)]) rfl rfl (bQ (bJ rfl rfl) bX) rfl rfl (dX rfl (cX (Ht rfl))) (bY (Ei:=[(6,_)]) rfl rfl (bQ (bJ rfl rfl) bX) rfl rfl (dX rfl (cX (Ht rfl))) (bY (Ei:=[(7,_)]) rfl rfl (bQ (bJ rfl rfl) bX) rfl rfl (dX rfl (cX (Ht rfl))) (bY (Ei:=[(30,_),(31,_)]) rfl rfl (bQ (bZ 2 rfl rfl) (bQ (bZ 3 rfl rfl) bX)) rfl rfl (dX rfl (fY U_26 Z_25 (Ht rfl) (Ht rfl) rfl zo (by rw [Nat.mul_one,Nat.zero_add]))) ?_))))))))))))
    refine bY (Ei:=[(32,_)]) rfl rfl (bQ (bZ 4 rfl rfl) bX) rfl rfl (dX rfl (iC A_25 Z_25 (Ht rfl) (j:=1) rfl)) (bY (Ei:=[(0,_)]) rfl rfl (bQ (bJ rfl rfl) bX) rfl rfl (dX rfl (cX (Ht rfl))) (bY (Ei:=[(8,_)]) rfl rfl (bQ (bJ rfl rfl) bX) rfl rfl (dX rfl (cX (Ht rfl))) (bY (Ei:=[(34,_),(35,_)]) rfl rfl (bQ (bZ 6 rfl rfl) (bQ (bZ 7 rfl rfl) bX)) rfl rfl (dX rfl (dZ U_26 Z_25 (Ht rfl) (Ht rfl) rfl (dY (dU (d:=[]) zo)))) ?_)))
    refine bY (Ei:=[(36,_)]) rfl rfl (bQ (bZ 8 rfl rfl) bX) rfl rfl (dX rfl (dJ A_25 Z_25 (Ht rfl))) (bY (Ei:=[(7,_)]) rfl rfl (bQ (bJ rfl rfl) bX) rfl rfl (dX rfl (cX (Ht rfl))) (bY (Ei:=[(37,_),(38,_)]) rfl rfl (bQ (bZ 9 rfl rfl) (bQ (bZ 10 rfl rfl) bX)) rfl rfl (dX rfl (dZ U_25 Z_60 (Ht rfl) (Ht rfl) rfl (dY (dU (d:=Qi.zero) (by rw [har]; omega))))) ?_))
    refine bY (Ei:=[(39,_)]) rfl rfl (bQ (bZ 11 rfl rfl) bX) rfl rfl (dX rfl (dJ A_60 Z_60 (Ht rfl))) (bY (Ei:=[(40,_)]) rfl rfl (bQ (bZ 12 rfl rfl) bX) rfl rfl (dX rfl (aT bD (Ht rfl))) (bY (Ei:=[(41,_)]) rfl rfl (bQ (bZ 13 rfl rfl) bX) rfl rfl (dX rfl (aL lM K_173 wD (Ht rfl) trivial)) (bY (Ei:=[(42,_)]) rfl rfl (bQ (bZ 14 rfl rfl) bX) rfl rfl (dX rfl (cE (xs:=[.tmp 42]) U_25 Z_60 O_60 (cW (Ht rfl) cG) rfl rfl rfl)) ?_)))
    refine Y.D_app (Ei:=[(33,_),(43,_)]) rfl rfl rfl rfl (bQ (bZ 5 rfl rfl) (bQ (bZ 15 rfl rfl) bX)) rfl (nW (inf:=Tryz.t60) jH gG rfl rfl rfl (Ht rfl) (Ht rfl) (by simp) (fun T hT=>by simp at hT; subst hT; exact El.ag rfl) (by show _ * 88 ≤ _; simp only [List.length_map,aD,List.length_cons,List.length_nil]; omega) (by simp only [List.length_map,aD,List.length_cons,List.length_nil]; omega)) ?_
    refine Y.D_done bC rfl (by kernel_rfl) rfl (by simp [Y.okP]) rfl rfl (bU (bU (bU (bU (bU (bU (bU (bU (bU (bU (bU (bU (bU (bU (bU (bU (Y.F_app (fun v2=>Y.F_nil ?_))))))))))))))))))
    refine ro rfl (fY U_26 Z_25 (Ht rfl) (Ht rfl) rfl zo (by rw [Nat.mul_one,Nat.zero_add])) ?_
    refine tK Z_25 (Ht rfl) (Ht rfl) (by simp only [bM,List.length_map,dE]; omega) (j:=1) (l:=3) rfl rfl rfl ?_
    refine eX (bL (cY (ro rfl (dV (Ht rfl) (cJ 1) z6) (rm rfl (eX (bS [0,1,3] rfl (by decide) (fU (i + 1,v2) he (by dsimp only; omega) (zS rfl) (aU (fun _ _ _ h=>h) (aU (fun _ _ _ h=>h) (aU (aO ((rA aF _ (gm a i k).conj).trans (congrArg _ (lH i (fun i=>(gm a i k).conj)).symm))) aY))))))))))
   ·simp only [decide_eq_false_iff_not] at he
    obtain rfl:n = i:=Nat.le_antisymm zo hi
    refine gW rfl (bL (dS 1 2 rfl rfl (by decide) (by simp only [bM,List.length_map,dE]; omega) ?_))
    refine cY (ro rfl (dV (Ht rfl) (cJ 1) z6) (rm rfl (eX (bS [0,1] rfl (by decide) (fU (k + 1) hd zo (zS rfl) (aU (fun _ _ _ h=>h) (aU (bI (by rw [eN,← jN (f:=(fun k=>tab n fun i=>(gm a i k).conj))])) aY)))))))
  ·simp only [decide_eq_false_iff_not] at hd
   obtain rfl:m = k:=Nat.le_antisymm zo hk
   refine gW rfl (ts (rm rfl (ra rfl (ro rfl (cQ (cJ 0)) (eX ?_)))))
   exact iO B17 trivial [0,1] ⟨⟨_,rfl,fun _ _ _ h=>h⟩,⟨_,rfl,(bI (by rw [jW]; rfl))⟩,trivial⟩ (by decide) (Vd rfl (eU rfl) (eU rfl))
theorem a5O {a:List (List Qi)} {n m:Nat} (ha:cF a n m) (hn1:1 ≤ n) (hn:n ≤ 8) (hm:m ≤ 8):bR Tryz.prog 140 [aR a] (eD [aR (mR a n m),aP .i64 0]):=(a3Z ha hn1 hn hm).fun fun B _ v S V h1 h2=>a0T h1 fun u hu=>gY (s:=5) (M:=mR a n m) (aD _ _).symm u S V hu h2
theorem Pw {z:List Qi} {s:List (List Qi)} (hsh:cF s z.length z.length) (hl:z.length ≤ 8):fN Tryz.prog 143 [iK z s] [] (Nat) (fun B=>Is (.slice (some ⟨B,0,none⟩) z.length z.length)) (fun B=>[lQ B 25 60 5 (bM aF (tab z.length fun i=>tab z.length fun k=>gm s i k))]) (fun _=>True):=by
 refine fN.intro Tryz.func143 rfl Tryz.ntmps143 rfl (fun cx Z=>(ts (rn rfl (fG (Ht rfl)) fun B1=>(ro rfl (cQ cV) (eX (ts (ro rfl (eJ A_28 Z_28 (Ht rfl) (i:=1) rfl rfl rfl) (ro rfl (cZ K_31 rT ⟨(Ht rfl),trivial⟩) (rn rfl (gK (T:=Is (.slice none 0 0)) (i:=Tryz.t25) V_26 lA rfl rfl (Ht rfl) rfl (fun _=>rfl) trivial (by show 24 * _ ≤ _; omega) zo) fun B10=>(ra rfl (eX (cK (ts (rm rfl (ro rfl (eT U_26 (Ht rfl)) (ro rfl (cX (cJ 0)) (eX (eG ?_))))))))))))))))))
 refine mU 2 rfl (sC (e:=60) (s:=5)) ?_
 refine cA (fun (i : Nat) => i ≤ z.length) (fun (i : Nat) => z.length - i) (fun (i : Nat) => [(1, bO B1 0), (3, Is (.slice (some ⟨B10, 0, none⟩) z.length z.length)), (12, NT .i64 z.length), (13, NT .i64 i)]) (fun (i : Nat) => [Z, box B1 28 [aM z, aR s], lQ B10 25 60 5 (bM aF (kV (fun i => tab z.length fun k => gm s i k) [] z.length i))]) 0 (Nat.zero_le _)
  (zS rfl) (aU (fun _ _ _ h=>h) (aU (fun _ _ _ h=>h) (aU (bI (by rw [← iL,kT]; exact mA aF z.length)) aY))) (fun i hi=>?_)
 refine ts (ro rfl (gX (Ht rfl) (Ht rfl)) (eX (cK (dQ (Ht rfl) (fun hd=>?_) (fun hd=>?_)))))
 ·simp only [decide_eq_true_eq] at hd
  refine mB 2 (i) rfl (kQ hd) (fun v=>(cU (cK (eG (ts (rm rfl (ra rfl (eX (ts (rm rfl (ro rfl (eT U_26 (Ht rfl)) (ro rfl (cX (cJ 0)) (eX (eG ?_))))))))))))))
  refine fO (fun (k : Nat) (v : Value) => k ≤ z.length) (fun (k : Nat) (v : Value) => z.length - k) (fun (k : Nat) (v : Value) => [(1, bO B1 0), (3, Is (.slice (some ⟨B10, 0, none⟩) z.length z.length)), (4, NT .i64 i), (12, NT .i64 z.length), (13, NT .i64 i), (17, NT .i64 z.length), (18, NT .i64 k)]) (fun (k : Nat) (v : Value) => [Z, box B1 28 [aM z, aR s], Ac B10 25 60 5 (bM aF (kV (fun i => tab z.length fun k => gm s i k) [] z.length i)) i v, bF 60 5 v ((tab k fun k => gm s i k).map aF)]) 0 v (Nat.zero_le _)
   (zS rfl) (dR.refl _) (fun k v hk=>?_)
  refine ts (ro rfl (gX (Ht rfl) (Ht rfl)) (eX (cK (dQ (Ht rfl) (fun he=>?_) (fun he=>?_)))))
  ·simp only [decide_eq_true_eq] at he
   refine cU (cK (eG (ts (rm rfl (ra rfl (eX (ts (ro rfl (eJ A_28 Z_28 (Ht rfl) (i:=1) rfl rfl rfl) (rm rfl (ro rfl (dV (Ht rfl) (cJ 1) z6) (rm rfl (ro rfl (dV (Ht rfl) (cJ 1) z6) (ro rfl (cZ Tryz.call39 (a6v (i:=(i:Int) + 1) (j:=(k:Int) + 1) hsh zo) ⟨(Ht rfl),(Ht rfl),(Ht rfl),trivial⟩) (rm rfl (ro rfl (dK (Ht rfl) rfl) (ro rfl (dK (Ht rfl) rfl) ?_))))))))))))))))
   refine rn rfl (eW (Ts:=[Is (.bool false),Is (.slice none 0 0),Is (.bool false),Is (.slice none 0 0),Is (.slice none 0 0)]) O_60 rfl (fun V=>aW zd (aW zd (aW zd (aW zd (aW zd (aG))))))) fun B6=>gQ Z_60 (Ht rfl) (Ht rfl) rfl (i:=4) rfl (aK rfl) rfl rfl (ra rfl (eX (Y.D_startA (m:=9) [] 8 3 rfl rfl (bY (Ei:=[(3,_)]) rfl rfl (bQ (bJ rfl rfl) bX) rfl rfl (dX rfl (cX (Ht rfl))) ?_))))
   refine bY (Ei:=[(4,_)]) rfl rfl (bQ (bJ rfl rfl) bX) rfl rfl (dX rfl (cX (Ht rfl))) (bY (Ei:=[(3,_)]) rfl rfl (bQ (bJ rfl rfl) bX) rfl rfl (dX rfl (cX (Ht rfl))) (bY (Ei:=[(4,_)]) rfl rfl (bQ (bJ rfl rfl) bX) rfl rfl (dX rfl (cX (Ht rfl))) (bY (Ei:=[(32,_),(33,_)]) rfl rfl (bQ (bZ 2 rfl rfl) (bQ (bZ 3 rfl rfl) bX)) rfl rfl (dX rfl (fY U_26 Z_25 (Ht rfl) (Ht rfl) rfl zo (by rw [Nat.mul_one,Nat.zero_add]))) ?_)))
   refine bY (Ei:=[(34,_)]) rfl rfl (bQ (bZ 4 rfl rfl) bX) rfl rfl (dX rfl (iC A_25 Z_25 (Ht rfl) (j:=2) rfl)) (bY (Ei:=[(6,_)]) rfl rfl (bQ (bJ rfl rfl) bX) rfl rfl (dX rfl (eJ A_60 Z_60 (Ht rfl) (i:=4) rfl rfl rfl)) (bY (Ei:=[(36,_)]) rfl rfl (bQ (bZ 6 rfl rfl) bX) rfl rfl (dX rfl (cE (xs:=[.tmp 36]) U_25 Z_60 O_60 (cW (Ht rfl) cG) rfl rfl rfl)) (Y.D_app (Ei:=[(35,_),(37,_)]) rfl rfl rfl rfl (bQ (bZ 5 rfl rfl) (bQ (bZ 7 rfl rfl) bX)) rfl (nW (inf:=Tryz.t60) jH gG rfl rfl rfl (Ht rfl) (Ht rfl) (by simp) (fun T hT=>by simp at hT; subst hT; exact El.ag rfl) (by show _ * 88 ≤ _; simp only [List.length_map,aD,List.length_cons,List.length_nil]; omega) (by simp only [List.length_map,aD,List.length_cons,List.length_nil]; omega)) ?_)))
   refine Y.D_done bC rfl (by kernel_rfl) rfl (by simp [Y.okP]) rfl rfl (bU (bU (bU (bU (bU (bU (bU (bU (Y.F_app (fun v2=>Y.F_nil ?_))))))))))
   refine ro rfl (fY U_26 Z_25 (Ht rfl) (Ht rfl) rfl zo (by rw [Nat.mul_one,Nat.zero_add])) ?_
   refine tK Z_25 (Ht rfl) (Ht rfl) (by simp only [bM,List.length_map,dE]; omega) (j:=2) (l:=5) rfl rfl rfl ?_
   refine eX (bL (cY (ro rfl (dV (Ht rfl) (cJ 1) z6) (rm rfl (eX (bS [0,1,2,5] rfl (by decide) (fU (k + 1,v2) he (by dsimp only; omega) (zS rfl) (aU (fun _ _ _ h=>h) (aU (fun _ _ _ h=>h) (aU (fun _ _ _ h=>h) (aU (aO (by rw [lH,List.map_append,a52 hd he]; rfl)) aY)))))))))))
  ·simp only [decide_eq_false_iff_not] at he
   obtain rfl:k = z.length:=Nat.le_antisymm hk zo
   refine gW rfl (bL (dS 2 3 rfl rfl (by decide) (by simp only [bM,List.length_map,dE]; omega) ?_))
   refine cY (ro rfl (dV (Ht rfl) (cJ 1) z6) (rm rfl (eX (bS [0,1,2] rfl (by decide) (fU (i + 1) hd zo (zS rfl) (aU (fun _ _ _ h=>h) (aU (fun _ _ _ h=>h) (aU (bI (by rw [eN,← jN (f:=(fun i=>tab z.length fun k=>gm s i k))])) aY))))))))
 ·simp only [decide_eq_false_iff_not] at hd
  obtain rfl:i = z.length:=Nat.le_antisymm hi zo
  refine gW rfl (ts (rm rfl (ra rfl (eX ?_))))
  exact iO B10 trivial [0,2] ⟨⟨_,rfl,fun _ _ _ h=>h⟩,⟨_,rfl,(bI (by rw [jW]))⟩,trivial⟩ (by decide) (tG rfl (eU rfl))
theorem Gt {z : List Qi} {s : List (List Qi)} (hsh : cF s z.length z.length) (hl : z.length ≤ 8) : bR Tryz.prog 143 [iK z s] (aR s) := (Pw hsh hl).fun fun B _ v S V h1 h2 => by
 have h3:=gY (s:=5) (M:=tab z.length fun i=>tab z.length fun k=>gm s i k) (aD _ _).symm v S V h1 h2
 rw [← mY hsh] at h3; exact h3
theorem Xn {z:List Qi} {s:List (List Qi)} (hl:z.length ≤ 8):bR Tryz.prog 149 [iK z s] (aM z):=by
 refine bR.intro Tryz.func149 rfl Tryz.ntmps149 rfl (fun cx=>(ts (rn rfl (fG (Ht rfl)) fun B1=>(ro rfl (cQ cV) (eX (ts (ro rfl (eJ A_28 Z_28 (Ht rfl) (i:=0) rfl rfl rfl) (ro rfl (cZ K_31 rT ⟨(Ht rfl),trivial⟩) (rn rfl (kS (T:=aF Qi.zero) (i:=Tryz.t60) jH gG rfl rfl (Ht rfl) rfl jD (El.ag rfl) (by show 88 * _ ≤ _; omega) zo) fun B7=>(ra rfl (eX (cK (ts (rm rfl (ro rfl (nT U_25 (Ht rfl) (i:=1) rfl (show ((List.replicate z.length (aF Qi.zero)).length:Int) = ((z.length:Nat):Int) by simp)) ?_)))))))))))))))
 refine ro rfl (cX (cJ 0)) (eX (eG ?_))
 refine fO (fun (k : Nat) (out : List Qi) => nX (fun i => gv z i) z.length out k) (fun (k : Nat) (out : List Qi) => z.length - k) (fun (k : Nat) (out : List Qi) => [(1, bO B1 0), (3, Is B7), (9, NT .i64 z.length), (10, NT .i64 k)]) (fun (k : Nat) (out : List Qi) => [box B1 28 [aM z, aR s], bF 60 5 B7 (out.map aF)]) 0 (List.replicate z.length Qi.zero) (nX.start _ _ _)
  (zS rfl) (aU (fun _ _ _ h=>h) (aU (aO (uD aF _ _)) aY)) (fun k out hS=>?_)
 refine ts (ro rfl (gX (Ht rfl) (Ht rfl)) (eX (cK (dQ (Ht rfl) (fun hk=>?_) (fun hk=>?_)))))
 ·simp only [decide_eq_true_eq] at hk
  have hlen:=hS.len
  refine cU (cK (eG (ts (rm rfl (ra rfl (eX (cY (rm rfl (rm rfl (ro rfl (eJ A_28 Z_28 (Ht rfl) (i:=0) rfl rfl rfl) (rm rfl (ro rfl (dV (Ht rfl) (cJ 1) z6) (ro rfl (cZ Tryz.call67 (Xc (i:=(k:Int) + 1) zo) ⟨(Ht rfl),(Ht rfl),trivial⟩) (rm rfl (ro rfl (dK (Ht rfl) rfl) (ro rfl (dK (Ht rfl) rfl) (ro rfl (cL U_25 Z_60 (Ht rfl) (Ht rfl) rfl (i:=1) rfl (by first | omega | (simp; omega)) rfl) ?_)))))))))))))))))
  refine kX Z_60 (Ht rfl) (Ht rfl) (El.ag rfl) (i:=1) rfl rfl (by first | omega | (simp; omega)) rfl (eX (bL (cY (ro rfl (dV (Ht rfl) (cJ 1) z6) (rm rfl (eX (fU (k + 1,_) (hS.next hk (Og hk)) (by dsimp only; omega) (zS rfl) (aU (fun _ _ _ h=>h) (aU (aO (dO aF _ _ _)) aY)))))))))
 ·simp only [decide_eq_false_iff_not] at hk
  obtain rfl:k = z.length:=Nat.le_antisymm hS.kle zo
  have hfin:=hS.fin.trans (Cn (l:=z) rfl).symm
  refine gW rfl (gV (i:=1) (tt:=3) rfl rfl eR (ts (rm rfl (ra rfl (eX (fW rfl (fX (eU rfl) ?_)))))))
  exact (kB (by rw [hfin]))
end
section
open Go Go.RowKit
theorem mO (v : Value) (w : World) : (method (Tryz.prog.types.size + Made.depth) 60 v "Div").run Tryz.prog w = .ok (64, v) w := by kernel_rfl
theorem iA (v : Value) (w : World) : (method (Tryz.prog.types.size + Made.depth) 60 v "Sub").run Tryz.prog w = .ok (69, v) w := by kernel_rfl
end
section
open Go Go.RowKit
theorem a47 {c:List (List Qi)}:bR Tryz.prog 148 [aR [],aR c] (aR []):=by
 refine bR.intro Tryz.func148 rfl Tryz.ntmps148 rfl (fun cx=>(ts (ro rfl (cQ cV) (eX (cK (ts (rm rfl (ro rfl (dG U_26 (Ht rfl) aC) (ro rfl (eB (Ht rfl) (cJ 0)) (eX (Af (Ht rfl) (by rfl) ?_)))))))))))
 refine ts (ro rfl (cQ cV) (eX (fW rfl (fX (eU rfl) ?_))))
 exact (fun v V h=>iR v V h)
theorem Mw {p c:List (List Qi)} {n m L:Nat} (hp:cF p n m) (hc:cF c m m) (hfp:aN p L) (hfc:aN c L) (hL1:1 ≤ L) (hL:L ≤ 1000000000) (hn1:1 ≤ n) (hm1:1 ≤ m) (hn:n ≤ 8) (hm:m ≤ 8):fN Tryz.prog 148 [aR p,aR c] [] (Nat) (fun B=>Is (.slice (some ⟨B,0,none⟩) n n)) (fun B=>[lQ B 25 60 5 (bM aF (iI p c))]) (fun _=>True):=by
 have hpl:=hp.1
 have hf1:=Kv (n:=n) (m:=m) hfp hfc hL1 hL1 hm
 have hf2:=Bs (n:=n) (m:=m) hfp hL1
 have hs1:cF (iJ p c n m m) n m:=jO
 have hs2:cF (mR p n m) m n:=Bt
 refine fN.intro Tryz.func148 rfl Tryz.ntmps148 rfl (fun cx Z=>(ts (ro rfl (cQ cV) (eX (cK (ts (rm rfl (ro rfl (dG U_26 (Ht rfl) aC) (ro rfl (eB (Ht rfl) (cJ 0)) (eX (dQ (Ht rfl) (fun h0=>?_) (fun h0=>?_))))))))))))
 ·simp only [decide_eq_true_eq] at h0
  omega
 ·refine cU (ts (rm rfl (rm rfl (ro rfl (cZ Tryz.call141 (a43 hp hc hfp hfc hL1 hL1 zo zo hn1 hm1 hn hm hm) ⟨(Ht rfl), (Ht rfl), trivial⟩) (rm rfl (ro rfl (dK (Ht rfl) rfl) (ro rfl (dK (Ht rfl) rfl) (ra rfl (ra rfl (eX (ts (rm rfl (ro rfl (cZ Tryz.call140 (a5O hp hn1 hn hm) ⟨(Ht rfl), trivial⟩) (rm rfl (ro rfl (dK (Ht rfl) rfl) (ro rfl (dK (Ht rfl) rfl) (ra rfl (ra rfl (eX (ts (rm rfl (rm rfl (iN Tryz.call141 (Pp (a := iJ p c n m m) (b := mR p n m) hs1 hs2 hf1 hf2 zo hL1 zo zo hn1 hm1 hn hm hn) ⟨(Ht rfl), (Ht rfl), trivial⟩ rfl (fun B28 _ => ?_))))))))))))))))))))))))
  refine rm rfl (ro rfl (dK (Ht rfl) rfl) (ro rfl (dK (Ht rfl) rfl) (ra rfl (ra rfl (eX (ts (rm rfl (ra rfl (eX ?_)))))))))
  exact iO B28 trivial [0,1] ⟨⟨_,rfl,fun _ _ _ h=>h⟩,⟨_,rfl,(bI (by rw [a4e hp hc]))⟩,trivial⟩ (by decide) (tG rfl (eU rfl))
theorem Xg {p c:List (List Qi)} {n m L:Nat} (hp:cF p n m) (hc:cF c m m) (hfp:aN p L) (hfc:aN c L) (hL1:1 ≤ L) (hL:L ≤ 1000000000) (hn1:1 ≤ n) (hm1:1 ≤ m) (hn:n ≤ 8) (hm:m ≤ 8):bR Tryz.prog 148 [aR p,aR c] (aR (iI p c)):=(Mw hp hc hfp hfc hL1 hL hn1 hm1 hn hm).fun fun B _ v S V h1 h2=>gY (s:=5) (M:=iI p c) (by rw [rC.1,hp.1]) v S V h1 h2
theorem a46 {p c:List (List Qi)} {n m L:Nat} (hp:cF p n m) (hc:cF c m m) (hfp:aN p L) (hfc:aN c L) (hL1:1 ≤ L) (hL:L ≤ 1000000000) (hn1:n = m) (hn:n ≤ 8) (hm:m ≤ 8):bR Tryz.prog 148 [aR p,aR c] (aR (iI p c)):=by
 by_cases e:n = 0
 ·subst e
  obtain rfl:=List.length_eq_zero_iff.1 hp.1
  exact a47
 ·exact Xg hp hc hfp hfc hL1 hL zo zo hn hm
theorem Jh {z:List Qi} {s c:List (List Qi)} {g t0:Qi} {L:Nat} (hz:bP z L) (hs:aN s L) (hc:aN c L) (hg:aE g L) (ht:aE t0 L) (hL1:1 ≤ L) (hL:L ≤ 4000) (hsh:cF s z.length z.length) (hch:cF c z.length z.length) (hl:z.length ≤ 8):bR Tryz.prog 54 [eH z s c,aF g,aF t0] (eD [aF (pZ z s c g t0).1,aP .i64 (pZ z s c g t0).2]):=by
 haveI:=hg; haveI:=ht
 haveI hz0:aE Qi.zero 1:=aE.zero (Nat.le_refl 1)
 have d1:(dg (((1:Nat):Int)).natAbs).length = 1:=by decide
 have d2:(dg (Int.natAbs 1)).length = 1:=by decide
 have hcl:=hch.1
 refine bR.intro Tryz.func54 rfl Tryz.ntmps54 rfl (fun cx=>(ts (rn rfl (fG (Ht rfl)) fun B3=>(rn rfl (fG (Ht rfl)) fun B4=>(rn rfl (fG (Ht rfl)) fun B5=>(rn rfl (eW (Ts:=[Is (.bool false),Is (.slice none 0 0),Is (.bool false),Is (.slice none 0 0),Is (.slice none 0 0)]) O_60 rfl (fun V=>aW zd (aW zd (aW zd (aW zd (aW zd (aG))))))) fun B6=>(ro rfl (cQ (cJ 0)) (eX (ts (rn rfl (eW (Ts:=[Is (.bool false),Is (.slice none 0 0),Is (.bool false),Is (.slice none 0 0),Is (.slice none 0 0)]) O_60 rfl (fun V=>aW zd (aW zd (aW zd (aW zd (aW zd (aG))))))) fun B8=>?_))))))))))
 refine eX (cK (cK (fZ (m:=6) (dp 5 rfl (eJ A_60 Z_60 (Ht rfl) (i:=2) rfl rfl rfl) (dq 18 0 rfl (cZ Tryz.call55 Bv ⟨(Ht rfl),trivial⟩) (dq 19 1 rfl (dH (Ht rfl)) (dq 20 2 rfl (cX (Ht rfl)) (C.D_step (Ei:=[(5,_),(21,_)]) rfl rfl (bV (bK rfl rfl) (bV (bG 3 rfl rfl) bW)) (eK rfl rfl (Ht rfl) (fun h=>eJ A_60 Z_60 (Ht rfl) (i:=2) rfl rfl rfl)) (C.D_step (Ei:=[(21,_)]) rfl rfl (bV (bG 3 rfl rfl) bW) (eK rfl rfl (Ht rfl) (fun h=>cZ K_52 (mK (n:=0) (by decide) (by decide)) ⟨(cJ 0),trivial⟩)) ?_)))))))))
 refine fV bC rfl (by kernel_rfl) (zF (aJ (aJ (aV (fQ rfl rfl (eK rfl rfl (Ht rfl) (fun h=>cZ K_51 (Bu (x:=t0) (y:=Qi.zero) (M:=1) zo) ⟨(fJ rfl h),(fJ rfl h),trivial⟩)) (fQ rfl rfl (eK rfl rfl (Ht rfl) (fun h=>If (fJ rfl h) cV)) (ro rfl (jQ (Ht rfl) (fun h=>(fJ rfl h))) (eX (dQ (Ht rfl) (fun hb=>?_) (fun hb=>?_))))))))))
 ·rw [Rf] at hb
  simp only [Bool.not_eq_true'] at hb
  have he:pZ z s c g t0 = (Qi.zero,1):=by rw [pZ,if_pos hb]
  refine ts (ro rfl (eJ A_60 Z_60 (Ht rfl) (i:=4) rfl rfl rfl) (gQ Z_60 (Ht rfl) (Ht rfl) rfl (i:=3) rfl (aK rfl) rfl rfl (ro rfl (cQ (cJ 1)) (eX (bN rfl (fX (fK A_60 Z_60 rfl (i:=3) rfl rfl) ?_) (fX (eU rfl) ?_))))))
  ·exact (fun v V k=>by rw [he]; exact lY v V k)
  ·exact (fun v V k=>by rw [he]; exact k)
 ·rw [Rf] at hb
  simp only [Bool.not_eq_false'] at hb
  have hb2:¬ gU t0 = false:=by rw [hb]; decide
  refine cU (cK (ts (ro rfl (eZ kJ (Ht rfl) rfl) (ro rfl (eY A_26 Z_26 (Ht rfl) (i:=0) rfl rfl) (ro rfl (dG U_26 (Ht rfl) aC) (ro rfl (kN (Ht rfl) (cJ 2)) (eX (dQ (Ht rfl) (fun hd=>?_) (fun hd=>?_)))))))))
  ·have hd2 : z.length ≠ 2 := by rw [← hcl]; simpa using hd
   have he:pZ z s c g t0 = (Qi.zero,4):=by rw [pZ,if_neg hb2,if_pos hd2]
   refine ts (ro rfl (eJ A_60 Z_60 (Ht rfl) (i:=4) rfl rfl rfl) (gQ Z_60 (Ht rfl) (Ht rfl) rfl (i:=3) rfl (aK rfl) rfl rfl (ro rfl (cQ (cJ 4)) (eX (bN rfl (fX (fK A_60 Z_60 rfl (i:=3) rfl rfl) ?_) (fX (eU rfl) ?_))))))
   ·exact (fun v V k=>by rw [he]; exact lY v V k)
   ·exact (fun v V k=>by rw [he]; exact k)
  ·have hd2 : z.length = 2 := by rw [← hcl]; simpa using hd
   have hd3:¬ z.length ≠ 2:=fun h=>h hd2
   have hsh2:=hsh
   rw [hd2] at hsh hch
   have hs1:=hsh.1
   have hc1:=hch.1
   have hr0:=hsh.row (i:=0) (by decide)
   have hr1:=hsh.row (i:=1) (by decide)
   have hWf:=Kd hs hg hL1
   have hW:cF (zY s g) 1 2:=⟨rfl,fun r hr=>by have:=List.mem_singleton.1 hr; subst this; rfl⟩
   have hXs:cF (iI (zY s g) c) 1 1:=rC
   have hX0:=hXs.row (i:=0) (by decide)
   have hp1:=pk1 (z:=z) zo
   haveI f1:aE (gm s 1 0) L:=hs.get hL1 1 0
   haveI f2:aE (gm s 0 0) L:=hs.get hL1 0 0
   haveI f3:aE (pkv z ((1:Nat):Int)) L:=by rw [hp1]; exact hz.get hL1 0
   haveI f4:=Ke hs hc hg hL1 zo
   have hpd:gm s 1 0 * (gm s 1 0).conj * (t0 * pkv z ((1:Nat):Int)) * (rJ - g * g.conj) = qV z s g t0:=by rw [hp1,Qi.mul_conj_norm,Qi.mul_conj_norm,qV,Qi.mul_assoc']
   refine cU (ts (ro rfl (eZ mX (Ht rfl) rfl) (ro rfl (eJ A_28 Z_28 (Ht rfl) (i:=0) rfl rfl rfl) (ro rfl (cZ Tryz.call143 (Gt hsh2 zo) ⟨(Ht rfl),trivial⟩) (ro rfl (cZ K_52 (mK (n:=1) (by decide) (by decide)) ⟨(cJ 1),trivial⟩) (ro rfl (cZ K_147 Bx ⟨(Ht rfl),trivial⟩) (rn rfl (eW (Ts:=[Is (.bool false),Is (.slice none 0 0),Is (.bool false),Is (.slice none 0 0),Is (.slice none 0 0)]) O_60 rfl (fun V=>aW zd (aW zd (aW zd (aW zd (aW zd (aG))))))) fun B10=>?_)))))))
   refine ra rfl (gQ Z_60 (Ht rfl) (Ht rfl) rfl (i:=5) rfl (aK rfl) rfl rfl (eX (ts (ro rfl (eZ mX (Ht rfl) rfl) (ro rfl (eJ A_28 Z_28 (Ht rfl) (i:=0) rfl rfl rfl) (ro rfl (cZ Tryz.call67 (Xc (i:=((1:Nat):Int)) zo) ⟨(Ht rfl),(cJ 1),trivial⟩) (rm rfl (ro rfl (dK (Ht rfl) rfl) (ro rfl (dK (Ht rfl) rfl) (rn rfl (eW (Ts:=[Is (.bool false),Is (.slice none 0 0),Is (.bool false),Is (.slice none 0 0),Is (.slice none 0 0)]) O_60 rfl (fun V=>aW zd (aW zd (aW zd (aW zd (aW zd (aG))))))) fun B11=>?_))))))))))
   refine gQ Z_60 (Ht rfl) (Ht rfl) rfl (i:=6) rfl (aK rfl) rfl rfl (ra rfl (eX (cK (sN (E':=[(3,_),(4,_),(5,_),(6,_),(7,_),(8,_),(9,_),(10,_),(11,_)]) (zS rfl) (fZ (m:=18) (dp 9 rfl (cX (Ht rfl)) (dq 44 0 rfl (dZ U_26 Z_25 (Ht rfl) (cJ 1) rfl (dY (dU (d:=[]) zo))) (dq 45 1 rfl (dJ A_25 Z_25 (Ht rfl)) (dq 46 2 rfl (dZ U_25 Z_60 (Ht rfl) (cJ 0) rfl (dY (dU (d:=Qi.zero) (by rw [hr1]; decide)))) ?_)))))))))
   refine dq 47 3 rfl (dJ A_60 Z_60 (Ht rfl)) (dq 48 4 rfl (aT bD (Ht rfl)) (dp 4 rfl (eJ A_60 Z_60 (Ht rfl) (i:=1) rfl rfl rfl) (cP 49 5 50 6 rfl (aL cB K_70 (iF zo) (Ht rfl) ⟨(Ht rfl),trivial⟩) (dp 10 rfl (eJ A_60 Z_60 (Ht rfl) (i:=5) rfl rfl rfl) (dq 52 8 rfl (aT bD (Ht rfl)) (dp 4 rfl (eJ A_60 Z_60 (Ht rfl) (i:=1) rfl rfl rfl) (dq 54 10 rfl (aT bD (Ht rfl)) (dp 9 rfl (cX (Ht rfl)) (dq 56 12 rfl (dZ U_26 Z_25 (Ht rfl) (cJ 0) rfl (dY (dU (d:=[]) zo))) ?_)))))))))
   refine dq 57 13 rfl (dJ A_25 Z_25 (Ht rfl)) (dq 58 14 rfl (dZ U_25 Z_60 (Ht rfl) (cJ 0) rfl (dY (dU (d:=Qi.zero) (by rw [hr0]; decide)))) ?_)
   refine dq 59 15 rfl (dJ A_60 Z_60 (Ht rfl)) (cP 55 11 60 16 rfl (aL cB K_70 (iF zo) (Ht rfl) ⟨(Ht rfl),trivial⟩) (fV bC rfl (by kernel_rfl) (zF (zF (zF (zF (aJ (aJ (aV (ro rfl (aL iA K_69 (qC zo) (Ht rfl) ⟨(Ht rfl),trivial⟩) (ro rfl (cE (xs:=[.tmp 51,.tmp 62]) U_25 Z_60 O_60 (cW (Ht rfl) (cW (Ht rfl) cG)) rfl rfl rfl) ?_)))))))))))
   refine ro rfl (cE (xs:=[.tmp 63]) U_26 Z_25 O_25 (cW (Ht rfl) cG) rfl rfl rfl) (ra rfl (eX (cK (sN (E':=[(3,_),(4,_),(5,_),(6,_),(7,_),(8,_),(9,_),(10,_),(11,_),(13,_)]) (zS rfl) (cY (rm rfl (ro rfl (eZ kJ (Ht rfl) rfl) (ro rfl (eY A_26 Z_26 (Ht rfl) (i:=0) rfl rfl) (ro rfl (cZ Tryz.call148 (Xg (p:=zY s g) (c:=c) (n:=1) (m:=2) (L:=2 * L + 4) hW hch hWf (hc.le zo) zo zo (by decide) (by decide) (by decide) (by decide)) ⟨(Ht rfl),(Ht rfl),trivial⟩) ?_)))))))))
   refine ro rfl (dZ U_26 Z_25 (Ht rfl) (cJ 0) rfl (dY (dU (d:=[]) (by rw [hXs.1]; decide)))) ?_
   refine ro rfl (dJ A_25 Z_25 (Ht rfl)) (ro rfl (dZ U_25 Z_60 (Ht rfl) (cJ 0) rfl (dY (dU (d:=Qi.zero) (by rw [hX0]; decide)))) ?_)
   refine ro rfl (dJ A_60 Z_60 (Ht rfl)) (rn rfl (eW (Ts:=[Is (.bool false),Is (.slice none 0 0),Is (.bool false),Is (.slice none 0 0),Is (.slice none 0 0)]) O_60 rfl (fun V=>aW zd (aW zd (aW zd (aW zd (aW zd (aG))))))) fun B14=>(gQ Z_60 (Ht rfl) (Ht rfl) rfl (i:=7) rfl (aK rfl) rfl rfl (eX (cK (sN (E':=[(3,_),(4,_),(5,_),(6,_),(7,_),(8,_),(9,_),(10,_),(11,_),(14,_)]) (zS rfl) ?_)))))
   refine fZ (m:=32) (dp 9 rfl (cX (Ht rfl)) (dq 73 0 rfl (dZ U_26 Z_25 (Ht rfl) (cJ 1) rfl (dY (dU (d:=[]) zo))) (dq 74 1 rfl (dJ A_25 Z_25 (Ht rfl)) (dq 75 2 rfl (dZ U_25 Z_60 (Ht rfl) (cJ 0) rfl (dY (dU (d:=Qi.zero) (by rw [hr1]; decide)))) ?_))))
   refine dq 76 3 rfl (dJ A_60 Z_60 (Ht rfl)) (dq 77 4 rfl (aT bD (Ht rfl)) (dp 9 rfl (cX (Ht rfl)) (dq 79 6 rfl (dZ U_26 Z_25 (Ht rfl) (cJ 1) rfl (dY (dU (d:=[]) zo))) (dq 80 7 rfl (dJ A_25 Z_25 (Ht rfl)) (dq 81 8 rfl (dZ U_25 Z_60 (Ht rfl) (cJ 0) rfl (dY (dU (d:=Qi.zero) (by rw [hr1]; decide)))) ?_)))))
   refine dq 82 9 rfl (dJ A_60 Z_60 (Ht rfl)) (dq 83 10 rfl (aT bD (Ht rfl)) (dq 84 11 rfl (aL lM K_173 wD (Ht rfl) trivial) (cP 78 5 85 12 rfl (aL cB K_70 (iF zo) (Ht rfl) ⟨(Ht rfl),trivial⟩) (dq 86 13 rfl (aT bD (Ht rfl)) (dp 5 rfl (eJ A_60 Z_60 (Ht rfl) (i:=2) rfl rfl rfl) (dp 11 rfl (eJ A_60 Z_60 (Ht rfl) (i:=6) rfl rfl rfl) (cP 88 15 89 16 rfl (cZ K_70 (iF zo) ⟨(Ht rfl),(Ht rfl),trivial⟩) (dq 90 17 rfl (cZ K_147 Bx ⟨(Ht rfl),trivial⟩) ?_))))))))
   refine cP 87 14 91 18 rfl (aL cB K_70 (iF zo) (Ht rfl) ⟨(Ht rfl),trivial⟩) (dq 92 19 rfl (aT bD (Ht rfl)) (dp 10 rfl (eJ A_60 Z_60 (Ht rfl) (i:=5) rfl rfl rfl) (dq 94 21 rfl (aT bD (Ht rfl)) (dp 4 rfl (eJ A_60 Z_60 (Ht rfl) (i:=1) rfl rfl rfl) (dq 96 23 rfl (aT bD (Ht rfl)) (dp 4 rfl (eJ A_60 Z_60 (Ht rfl) (i:=1) rfl rfl rfl) (dq 98 25 rfl (aT bD (Ht rfl)) (dq 99 26 rfl (aL lM K_173 wD (Ht rfl) trivial) (cP 97 24 100 27 rfl (aL cB K_70 (iF zo) (Ht rfl) ⟨(Ht rfl),trivial⟩) ?_)))))))))
   refine cP 95 22 101 28 rfl (aL iA K_69 (qC zo) (Ht rfl) ⟨(Ht rfl),trivial⟩) (cP 93 20 102 29 rfl (aL cB K_70 (iF zo) (Ht rfl) ⟨(Ht rfl),trivial⟩) (C.D_new (Ei:=[]) rfl rfl rfl bW (eW (Ts:=[Is (.bool false),Is (.slice none 0 0),Is (.bool false),Is (.slice none 0 0),Is (.slice none 0 0)]) O_60 rfl (fun V=>aW zd (aW zd (aW zd (aW zd (aW zd (aG))))))) (fV bC rfl (by kernel_rfl) (zF (zF (zF (zF (zF (zF (zF (aJ (aJ (aJ (C.F_new (fun B15=>aV ?_)))))))))))))))
   refine gQ Z_60 (Ht rfl) (Ht rfl) rfl (i:=8) rfl (aK rfl) rfl rfl (eX (cK (sN (E':=[(6,_),(7,_),(8,_),(10,_),(14,_),(15,_)]) (zS rfl) (cY (ro rfl (eJ A_60 Z_60 (Ht rfl) (i:=7) rfl rfl rfl) (ro rfl (aT bD (Ht rfl)) (ro rfl (eJ A_60 Z_60 (Ht rfl) (i:=8) rfl rfl rfl) (ro rfl (aL mO K_64 (vW (x:=xE s c g) (y:=gm s 1 0 * (gm s 1 0).conj * (t0 * pkv z ((1:Nat):Int)) * (rJ - g * g.conj)) zo) (Ht rfl) ⟨(Ht rfl),trivial⟩) ?_))))))))
   refine rm rfl (ro rfl (dK (Ht rfl) rfl) (ro rfl (dK (Ht rfl) rfl) (rn rfl (eW (Ts:=[Is (.bool false),Is (.slice none 0 0),Is (.bool false),Is (.slice none 0 0),Is (.slice none 0 0)]) O_60 rfl (fun V=>aW zd (aW zd (aW zd (aW zd (aW zd (aG))))))) fun B16=>(gQ Z_60 (Ht rfl) (Ht rfl) rfl (i:=9) rfl (aK rfl) rfl rfl (ra rfl (eX (cK (cK (sN (E':=[(6,_),(7,_),(8,_),(10,_),(16,_),(17,_)]) (zS rfl) ?_)))))))))
   refine cY (rm rfl (ro rfl (kM (Ht rfl) cV) (eX (dQ (Ht rfl) (fun hk=>?_) (fun hk=>?_)))))
   ·rw [hpd] at hk
    have hk2 : qV z s g t0 = Qi.zero := by
     by_cases h:qV z s g t0 = Qi.zero
     ·exact h
     ·rw [if_neg h] at hk; exact absurd hk (by decide)
    have he:pZ z s c g t0 = (Qi.zero,3):=by rw [pZ,if_neg hb2,if_neg hd3,if_pos hk2]
    refine ts (ro rfl (eJ A_60 Z_60 (Ht rfl) (i:=4) rfl rfl rfl) (gQ Z_60 (Ht rfl) (Ht rfl) rfl (i:=3) rfl (aK rfl) rfl rfl (ro rfl (cQ (cJ 3)) (eX (bN rfl (fX (fK A_60 Z_60 rfl (i:=3) rfl rfl) ?_) (fX (eU rfl) ?_))))))
    ·exact (fun v V k=>by rw [he]; exact lY v V k)
    ·exact (fun v V k=>by rw [he]; exact k)
   ·have hk2 : ¬ qV z s g t0 = Qi.zero := fun h => by rw [hpd, if_pos h] at hk; exact absurd hk (by decide)
    have he:pZ z s c g t0 = (rJ + xE s c g / qV z s g t0,0):=by rw [pZ,if_neg hb2,if_neg hd3,if_neg hk2]
    have hv:rJ + xE s c g / (gm s 1 0 * (gm s 1 0).conj * (t0 * pkv z ((1:Nat):Int)) * (rJ - g * g.conj)) = (pZ z s c g t0).1:=by rw [he,hpd]
    refine cU (ts (ro rfl (eJ A_60 Z_60 (Ht rfl) (i:=5) rfl rfl rfl) (ro rfl (aT bD (Ht rfl)) (ro rfl (eJ A_60 Z_60 (Ht rfl) (i:=9) rfl rfl rfl) (ro rfl (aL lF K_71 (rB zo) (Ht rfl) ⟨(Ht rfl),trivial⟩) (gQ Z_60 (Ht rfl) (Ht rfl) rfl (i:=3) rfl (aK rfl) rfl rfl (ro rfl (cQ (cJ 0)) (eX (bN rfl (fX (fK A_60 Z_60 rfl (i:=3) rfl rfl) ?_) (fX (eU rfl) ?_))))))))))
    ·exact (jU hv)
    ·exact (fun v V k=>by rw [he]; exact k)
end
section
open Go Go.RowKit
theorem a1d {n:Nat} (h:n < 4294967296):bR Tryz.prog 282 [NT .u64 1,NT .u64 n] (eD [NT .u64 0,NT .u64 n]):=by
 refine bR.intro Tryz.func282 rfl Tryz.ntmps282 rfl (fun cx=>(ts (ro rfl (cQ (cJ 0)) (ro rfl (cQ (cJ 0)) (eX (ts (rm rfl (ro rfl (aS.nat (xN rfl (Ht rfl) (cJ 4294967295) z7 z7) (show (1:Nat) &&& 4294967295 = 1 by decide)) (ra rfl (eX (ts (rm rfl (ro rfl (aS.nat (jR (Ht rfl) (cJ 32) (by decide)) (show (1:Nat) / 2 ^ 32 = 0 by decide)) (ra rfl (eX (ts (rm rfl (ro rfl (aS.nat (xN rfl (Ht rfl) (cJ 4294967295) z7 z7) (show n &&& 4294967295 = n from (Nat.and_two_pow_sub_one_eq_mod n 32).trans (Nat.mod_eq_of_lt h))) ?_))))))))))))))))))
 refine ra rfl (eX (ts (rm rfl (ro rfl (aS.nat (jR (Ht rfl) (cJ 32) (by decide)) (show n / 2 ^ 32 = 0 from Nat.div_eq_of_lt h)) (ra rfl (eX (ts (rm rfl (rm rfl (ro rfl (aS.nat (qN (Ht rfl) (Ht rfl) z7) (Nat.one_mul n)) (ra rfl (eX (ts (rm rfl (rm rfl (ro rfl (aS.nat (qN (Ht rfl) (Ht rfl) z7) (Nat.zero_mul n)) (rm rfl (ro rfl (aS.nat (jR (Ht rfl) (cJ 32) (by decide)) (show n / 2 ^ 32 = 0 from Nat.div_eq_of_lt h)) ?_))))))))))))))))))
 refine ro rfl (dV (Ht rfl) (Ht rfl) z7) (ra rfl (eX (ts (rm rfl (ro rfl (aS.nat (xN rfl (Ht rfl) (cJ 4294967295) z7 z7) (show (0 + 0:Nat) &&& 4294967295 = 0 by decide)) (ra rfl (eX (ts (rm rfl (ro rfl (aS.nat (jR (Ht rfl) (cJ 32) (by decide)) (show (0 + 0:Nat) / 2 ^ 32 = 0 by decide)) (ra rfl (eX (ts (rm rfl (rm rfl (rm rfl ?_))))))))))))))))
 refine ro rfl (aS.nat (qN (Ht rfl) (Ht rfl) z7) (show (1 * 0:Nat) = 0 by decide)) (ro rfl (dV (Ht rfl) (Ht rfl) z7) (ra rfl (eX (ts (rm rfl (rm rfl (ro rfl (aS.nat (qN (Ht rfl) (Ht rfl) z7) (show (0 * 0:Nat) = 0 by decide)) (rm rfl (ro rfl (dV (Ht rfl) (Ht rfl) z7) ?_)))))))))
 refine rm rfl (ro rfl (aS.nat (jR (Ht rfl) (cJ 32) (by decide)) (show (0 + 0:Nat) / 2 ^ 32 = 0 by decide)) (ro rfl (dV (Ht rfl) (Ht rfl) z7) (ra rfl (eX (ts (rm rfl (rm rfl (ro rfl (aS.nat (qN (Ht rfl) (Ht rfl) z7) (Nat.one_mul n)) (ra rfl (eX (bN rfl (fX (eU rfl) ?_) (eU rfl))))))))))))
 exact (lX (by decide))
theorem a45 {n:Nat} (h:n < 4294967296):bR Tryz.prog 263 [NT .u64 1,NT .u64 n] (eD [NT .u64 0,NT .u64 n]):=by
 refine bR.intro Tryz.func263 rfl Tryz.ntmps263 rfl (fun cx=>(ts (ro rfl (cQ (cJ 0)) (ro rfl (cQ (cJ 0)) (eX (cK (dQ cV (fun hf=>?_) (fun hf=>?_))))))))
 ·exact absurd hf (by decide)
 ·refine cU (ts (rm rfl (rm rfl (ro rfl (cZ Tryz.call282 (a1d h) ⟨(Ht rfl), (Ht rfl), trivial⟩) (rm rfl (ro rfl (dK (Ht rfl) rfl) (ro rfl (dK (Ht rfl) rfl) (ra rfl (ra rfl (eX (ts (rm rfl (rm rfl (ra rfl (ra rfl (eX ?_))))))))))))))))
  exact bN rfl (eU rfl) (eU rfl)
theorem Mv {m:Nat} (h1:1 ≤ m) (hm:m ≤ 1000):fN Tryz.prog 229 [aM [Qi.zero],NT .i64 m] [] ({v:Value // jB v}) (fun v=>Is v.1) (fun v=>[bF 60 5 v.1 ((tab m fun _=>Qi.zero).map aF)]) (fun _=>True):=by
 refine fN.intro Tryz.func229 rfl Tryz.ntmps229 rfl (fun cx Z=>(ts (ro rfl (cQ cV) (eX (cK (ts (rm rfl (ro rfl (gX (Ht rfl) (cJ 0)) (eX (dQ (Ht rfl) (fun h0=>?_) (fun h0=>?_)))))))))))
 ·simp only [decide_eq_true_eq] at h0
  omega
 ·refine cU (ts (rm rfl (ro rfl (dG U_25 (Ht rfl) (show (([Qi.zero].map aF).length : Int) = ((1 : Nat) : Int) from rfl)) (ro rfl (gZ U_3 U_264 (Ht rfl) z7) (rm rfl (ro rfl (gZ U_3 U_264 (Ht rfl) z7) (ro rfl (cZ Tryz.call263 (a45 zo) ⟨(Ht rfl), (Ht rfl), trivial⟩) (rm rfl (ro rfl (dK (Ht rfl) rfl) (ro rfl (dK (Ht rfl) rfl) ?_))))))))))
  refine ra rfl (ra rfl (eX (cK (ts (rm rfl (ro rfl (gA (Ht rfl) (cJ 0)) (rm rfl (fQ rfl rfl (eK rfl rfl (Ht rfl) (fun h=>cX (Ht rfl))) (fQ rfl rfl (eK rfl rfl (Ht rfl) (fun h=>gA (fJ rfl h) (cJ 9223372036854775807))) (ro rfl (jQ (Ht rfl) (fun h=>(fJ rfl h))) (eX (dQ (Ht rfl) (fun h2=>?_) (fun h2=>?_)))))))))))))
  ·simp only [Bool.or_eq_true, decide_eq_true_eq] at h2
   omega
  ·refine cU (ts (rm rfl (ro rfl (gZ U_264 U_3 (Ht rfl) z6) (a11 (T := aF Qi.zero) (i := Tryz.t60) jH gG rfl rfl (Ht rfl) rfl jD (El.ag rfl) (by show 88 * _ ≤ _; omega) zo rfl (fun B30 hB30 => (ra rfl (eX (ts (rm rfl (rm rfl (ro rfl (a08 (q := 1) (T := aF Qi.zero) U_25 Z_60 (i := 1) rfl (Ht rfl) (Ht rfl) (by decide) (El.ag rfl) zo) (ra rfl (eX (cK (eG ?_)))))))))))))))
   refine cA (fun (k : Nat) => 1 ≤ k ∧ k ≤ m) (fun (k : Nat) => m - k) (fun (k : Nat) => [(7, Is B30), (8, NT .i64 k)]) (fun (k : Nat) => [Z, bF 60 5 B30 (List.replicate m (aF Qi.zero))]) (Nat.min 1 m) ⟨by show 1 ≤ min 1 m; omega, by show min 1 m ≤ m; omega⟩
    (zS rfl) (dR.refl _) (fun k ⟨hk1,hk⟩=>?_)
   refine cK (ts (rm rfl (rm rfl (ro rfl (nT U_25 (Ht rfl) (i:=1) rfl (show ((List.replicate m (aF Qi.zero)).length:Int) = ((m:Nat):Int) by simp)) (ro rfl (gX (Ht rfl) (Ht rfl)) (eX (dQ (Ht rfl) (fun hd=>?_) (fun hd=>?_))))))))
   ·simp only [decide_eq_true_eq] at hd
    have hlen:(List.replicate m (aF Qi.zero)).length = m:=by simp
    have h5:Nat.min k ((List.replicate m (aF Qi.zero)).length - k) = min k (m - k):=by rw [hlen]
    refine cU (eG (fZ (m:=8) (dp 8 rfl (cX (Ht rfl)) (dp 7 rfl (cX (Ht rfl)) (dp 8 rfl (cX (Ht rfl)) (cP 39 1 40 2 rfl (Ld U_25 Z_60 (Ht rfl) (Ht rfl) rfl (i:=1) rfl (by rw [hlen]; exact hd)) ?_))))))
    refine dp 7 rfl (cX (Ht rfl)) (dp 8 rfl (cX (Ht rfl)) (cP 42 4 43 5 rfl (a0c U_25 Z_60 (Ht rfl) (Ht rfl) rfl (i:=1) rfl (by rw [hlen]; omega) (by rw [hlen]; omega)) ?_))
    refine cP 41 3 44 6 rfl (Oc (T:=aF Qi.zero) U_25 Z_60 (i:=1) rfl (Ht rfl) (Ht rfl)) (fV bC rfl (by kernel_rfl) (zF (zF (aV (ro rfl (dV (Ht rfl) (Ht rfl) (by show _ < 9223372036854775808; omega)) (ra rfl (eX (bL (fU (k + Nat.min k ((List.replicate m (aF Qi.zero)).length - k)) ⟨by omega,by omega⟩ zo (zS rfl) (dR.refl _))))))))))
   ·refine gW rfl (ts (rm rfl (ra rfl (eX ?_))))
    exact iO ⟨B30,hB30⟩ trivial [0,1] ⟨⟨_,rfl,fun _ _ _ h=>h⟩,⟨_,rfl,(aO (by rw [kT,uD]))⟩,trivial⟩ (by decide) (tG rfl (eU rfl))
end
section
open Go Go.RowKit
theorem pL {n : Nat} {E : dA} {H : Hp} {d : Option Tmp} {t : TypeId} {pos : String} {af : Array Edge} {g : Option (Nat × Bool)} {x0 x1 : Operand} {T0 T1 T2 : Ty} (h0 : bH E x0 (gN [T0, T1])) [s1 : dI T2 1 false] (h1 : bH E x1 T2) :
  aS Tryz.prog n E H ⟨d,.build 80 #[(0,x0),(1,x1)],t,pos,af,g⟩ (gN [T0,T1,T2]) :=
 jZ (parts := [(0, x0), (1, x1)]) fun a V w hs => by
  obtain ⟨v0,e0,c0⟩:=h0 n V a hs
  obtain ⟨c0_0,c0_1,rfl⟩:∃ c0_0 c0_1,v0 = [c0_0,c0_1]:=Kq (by simpa using c0.length)
  have p1:=h1 n V a hs
  generalize e1:a.eval x1 = v1 at p1
  have q1:=(s1.ok v1 V p1).2.2 rfl
  refine ⟨.agg #[c0_0,c0_1,v1],?_,[c0_0,c0_1,v1],rfl,aW (c0.at (i:=0) rfl rfl) (aW (c0.at (i:=1) rfl rfl) (aW (⟨p1,q1⟩) (aG)))⟩
  simp [e0,e1,Instr.build,Instr.fill,Sem.run_bind,Result.andThen,iW,q1.cells,O_80,U_80,Z_26,Z_28]
end
section
open Go Go.RowKit
theorem Jq {n:Nat} (hn:n ≤ 1000):fN Tryz.prog 146 [NT .i64 n,NT .i64 n] [] (Nat) (fun B=>Is (.slice (some ⟨B,0,none⟩) n n)) (fun B=>[lR jB B 25 60 5 (bM aF (Sv n n))]) (fun _=>True):=by
 refine fN.intro Tryz.func146 rfl Tryz.ntmps146 rfl (fun cx Z=>(ts (ro rfl (cQ cV) (eX (ts (rm rfl (rn rfl (gK (T:=Is (.slice none 0 0)) (i:=Tryz.t25) V_26 lA rfl rfl (Ht rfl) rfl (fun _=>rfl) trivial (by show 24 * _ ≤ _; omega) zo) fun B8=>(ra rfl (eX (cK (ts (rm rfl (ro rfl (eT U_26 (Ht rfl)) (ro rfl (cX (cJ 0)) (eX (eG (mU 1 rfl (xK jB ⟨none,0,rfl⟩ (e:=60) (s:=5)) ?_)))))))))))))))))
 refine cA (fun (k : Nat) => k ≤ n) (fun (k : Nat) => n - k) (fun (k : Nat) => [(1, NT .i64 n), (5, Is (.slice (some ⟨B8, 0, none⟩) n n)), (10, NT .i64 n), (11, NT .i64 k)]) (fun (k : Nat) => [Z, lR jB B8 25 60 5 (bM aF (kV (fun _ => (tab n fun _ => Qi.zero)) [] n k))]) 0 (Nat.zero_le _)
  (zS rfl) (aU (fun _ _ _ h=>h) (aU (bI (by rw [← iL,kT]; exact mA aF n)) aY)) (fun k hk=>?_)
 refine ts (ro rfl (gX (Ht rfl) (Ht rfl)) (eX (cK (dQ (Ht rfl) (fun hd=>?_) (fun hd=>?_)))))
 ·simp only [decide_eq_true_eq] at hd
  refine mV 1 (k) rfl (kQ hd) (fun v hv=>(cU (cK (eG (ts (rm rfl (ra rfl (eX (cY (rm rfl (rm rfl (ro rfl (cZ K_52 (mK (n:=0) (by decide) (by decide)) ⟨(cJ 0),trivial⟩) (ro rfl (cZ K_147 Bx ⟨(Ht rfl),trivial⟩) (ro rfl (cE (xs:=[.tmp 17]) U_25 Z_60 O_60 (cW (Ht rfl) cG) rfl rfl rfl) (rm rfl (iN Tryz.call229 (Mv (m:=n) zo hn) ⟨(Ht rfl),(Ht rfl),trivial⟩ rfl (fun B20 _=>?_)))))))))))))))))
  have hB20:=B20.2
  refine ro rfl (fY U_26 Z_25 (Ht rfl) (Ht rfl) rfl zo (by rw [Nat.mul_one,Nat.zero_add])) ?_
  refine tK Z_25 (Ht rfl) (Ht rfl) (by simp only [bM,List.length_map,dE]; omega) (j:=1) (l:=3) rfl rfl rfl ?_
  refine eX (bL (dS 1 3 rfl rfl (by decide) (by simp only [bM,List.length_map,dE]; omega) ?_))
  refine cY (ro rfl (dV (Ht rfl) (cJ 1) z6) (rm rfl (eX (bS [0,1] rfl (by decide) (fU (k + 1) hd zo (zS rfl) (aU (fun _ _ _ h=>h) (aU (bI (by rw [eN,← jN (f:=fun _=>(tab n fun _=>Qi.zero))])) aY)))))))
 ·simp only [decide_eq_false_iff_not] at hd
  obtain rfl:n = k:=Nat.le_antisymm zo hk
  refine gW rfl (ts (rm rfl (ra rfl (eX ?_))))
  exact iO B8 trivial [0,1] ⟨⟨_,rfl,fun _ _ _ h=>h⟩,⟨_,rfl,(bI (by rw [jW]; rfl))⟩,trivial⟩ (by decide) (tG rfl (eU rfl))
theorem Xo {z:List Qi} {s:List (List Qi)} {L:Nat} (hz:bP z L) (hs:aN s L) (hL1:1 ≤ L) (hL:L ≤ 10000000) (hsh:cF s z.length z.length) (hl1:1 ≤ z.length) (hl:z.length ≤ 8):fN Tryz.prog 160 [iK z s] [] (Nat) (fun B=>Is (.slice (some ⟨B,0,none⟩) z.length z.length)) (fun B=>[lR jB B 25 60 5 (bM aF (rK z s))]) (fun _=>True):=by
 have hs1:=hs.le (Nat.le_refl L)
 have hsl:=hsh.1
 have hD:=Ka z
 have hDf:=Cb hz hL1
 have hXf:=tN hs hDf hL1 (by rw [hD.1]; exact hl)
 have hX:cF (iI s (jA z)) s.length s.length:=rC
 refine fN.intro Tryz.func160 rfl Tryz.ntmps160 rfl (fun cx Z=>(ts (rn rfl (fG (Ht rfl)) fun B1=>(ro rfl (cQ cV) (eX (cK (fZ (m:=3) (dp 1 rfl (eJ A_28 Z_28 (Ht rfl) (i:=1) rfl rfl rfl) (dq 10 0 rfl (cZ K_31 rT ⟨(Ht rfl),trivial⟩) (dp 1 rfl (eJ A_28 Z_28 (Ht rfl) (i:=1) rfl rfl rfl) (fV bC rfl (by kernel_rfl) (aJ (aJ (aJ (aV (ro rfl (cZ K_31 rT ⟨(Ht rfl),trivial⟩) (iN Tryz.call146 (Jq (n:=z.length) zo) ⟨(Ht rfl),(Ht rfl),trivial⟩ rfl (fun B14 _=>?_))))))))))))))))))
 refine ra rfl (eX (cK (ts (ro rfl (eJ A_28 Z_28 (Ht rfl) (i:=1) rfl rfl rfl) (ro rfl (cZ Tryz.call149 (Xn zo) ⟨(Ht rfl),trivial⟩) (ro rfl (dG U_25 (Ht rfl) aC) (ro rfl (cX (cJ 0)) (eX (eG ?_)))))))))
 refine cA (fun (i : Nat) => i ≤ z.length) (fun (i : Nat) => z.length - i) (fun (i : Nat) => [(1, bO B1 0), (3, Is (.slice (some ⟨B14, 0, none⟩) z.length z.length)), (16, aM z), (17, NT .i64 z.length), (18, NT .i64 i)]) (fun (i : Nat) => [Z, box B1 28 [aM z, aR s], lR jB B14 25 60 5 (bM aF (kV (fun i => (tab z.length fun _ => Qi.zero).set i (gv z i)) (tab z.length fun _ => Qi.zero) z.length i))]) 0 (Nat.zero_le _)
  (zS rfl) (aU (fun _ _ _ h=>h) (aU (fun _ _ _ h=>h) (aU (bI (by rw [Sv,iL])) aY))) (fun i hi=>?_)
 refine ts (ro rfl (gX (Ht rfl) (Ht rfl)) (eX (cK (dQ (Ht rfl) (fun hd=>?_) (fun hd=>?_)))))
 ·simp only [decide_eq_true_eq] at hd
  have hzl:=aD z.length fun _=>Qi.zero
  refine mV 2 (i) rfl (kQ hd) (fun v hv=>(cU (cK (eG (ts (rm rfl (ro rfl (dZ U_25 Z_60 (Ht rfl) (Ht rfl) rfl (dY (dU (d:=Qi.zero) hd))) (ro rfl (dJ A_60 Z_60 (Ht rfl)) (rn rfl (eW (Ts:=[Is (.bool false),Is (.slice none 0 0),Is (.bool false),Is (.slice none 0 0),Is (.slice none 0 0)]) O_60 rfl (fun V=>aW zd (aW zd (aW zd (aW zd (aW zd (aG))))))) fun B5=>(ra rfl ?_))))))))))
  refine gQ Z_60 (Ht rfl) (Ht rfl) rfl (i:=4) rfl (aK rfl) rfl rfl (eX (fZ (m:=7) (dp 3 rfl (cX (Ht rfl)) (dp 4 rfl (cX (Ht rfl)) (cP 23 0 24 1 rfl (fY U_26 Z_25 (Ht rfl) (Ht rfl) rfl zo (by rw [Nat.mul_one,Nat.zero_add])) ?_)))))
  refine dq 25 2 rfl (iC A_25 Z_25 (Ht rfl) (j:=2) rfl) (dp 4 rfl (cX (Ht rfl)) (dp 5 rfl (eJ A_60 Z_60 (Ht rfl) (i:=4) rfl rfl rfl) (dq 28 5 rfl (cZ K_147 Bx ⟨(Ht rfl),trivial⟩) (fV bC rfl (by kernel_rfl) (zF (aJ (aJ (aJ (aV (ro rfl (cL U_25 Z_60 (Ht rfl) (Ht rfl) rfl (i:=3) rfl (by simp only [List.length_map,aD]; omega) rfl) ?_))))))))))
  refine kX Z_60 (Ht rfl) (Ht rfl) (El.ag rfl) (i:=3) rfl rfl (by simp only [List.length_map,aD]; omega) rfl ?_
  refine eX (bL (dS 2 3 rfl rfl (by decide) (by simp only [bM,List.length_map,dE]; omega) ?_))
  refine cY (ro rfl (dV (Ht rfl) (cJ 1) z6) (rm rfl (eX (bS [0,1,2] rfl (by decide) (fU (i + 1) hd zo (zS rfl) (aU (fun _ _ _ h=>h) (aU (fun _ _ _ h=>h) (aU (bI (by rw [← jN (f:=(fun i=>(tab z.length fun _=>Qi.zero).set i (gv z i))),← eN,← dO])) aY))))))))
 ·simp only [decide_eq_false_iff_not] at hd
  obtain rfl:i = z.length:=Nat.le_antisymm hi zo
  rw [jW]
  refine gW rfl (ts (ro rfl (eJ A_28 Z_28 (Ht rfl) (i:=1) rfl rfl rfl) (ro rfl (cZ Tryz.call143 (Gt hsh hl) ⟨(Ht rfl),trivial⟩) (rm rfl (a3J Tryz.call148 (Mw (p:=s) (c:=jA z) (n:=z.length) (m:=z.length) (L:=L) hsh hD hs hDf hL1 zo hl1 hl1 hl hl) (j:=2) (tt:=34) rfl rfl (gY (s:=5) (M:=jA z) hD.1.symm) a4O (fun _=>inferInstance) (fun _ B hB=>by simp only [List.mem_singleton] at hB; subst hB; exact a0E) ⟨(Ht rfl),(Ht rfl),trivial⟩ rfl (fun B35 _=>(ra rfl (eX (cK (cK (gV (i:=3) (tt:=6) rfl rfl (gY (s:=5) (M:=iI s (jA z)) (hX.1.trans hsl).symm) ?_)))))))))))
  refine cY (rm rfl (ro rfl (dG U_26 (Ht rfl) aC) (ro rfl (cX (cJ 0)) (eX (eG (bS [0,2] rfl (by decide) ?_))))))
  refine cA (fun (i : Nat) => i ≤ z.length) (fun (i : Nat) => z.length - i) (fun (i : Nat) => [(3, Is (.slice (some ⟨B14, 0, none⟩) z.length z.length)), (36, aR (iI s (jA z))), (37, NT .i64 z.length), (38, NT .i64 i)]) (fun (i : Nat) => [Z, lR jB B14 25 60 5 (bM aF (jY (fun i => tab z.length fun j => gm (jA z) i j - gm (iI s (jA z)) i j) (fun i => tab z.length fun j => gm (jA z) i j) z.length i))]) 0 (Nat.zero_le _)
   (aQ rfl (aQ rfl (aZ rfl (lX (hX.1.trans hsl)) (zS rfl)))) (aU (fun _ _ _ h=>h) (aU (bI (by rw [← iG]; exact congrArg _ (mY hD))) aY)) (fun i hi=>?_)
  refine ts (ro rfl (gX (Ht rfl) (Ht rfl)) (eX (cK (dQ (Ht rfl) (fun he=>?_) (fun he=>?_)))))
  ·simp only [decide_eq_true_eq] at he
   have hxr:=hX.row (i:=i) zo
   refine mV 1 (i) rfl (nI he) (fun v hv=>(cU (cK (eG (ts (rm rfl (ro rfl (dZ U_26 Z_25 (Ht rfl) (Ht rfl) rfl (dY (dU (d:=[]) (by rw [hX.1]; omega)))) ?_)))))))
   refine ro rfl (dJ A_25 Z_25 (Ht rfl)) (ra rfl (ra rfl (eX (ts (rm rfl (ro rfl (dG U_25 (Ht rfl) aC) (ro rfl (cX (cJ 0)) (eX (eG ?_)))))))))
   refine cA (fun (j : Nat) => j ≤ z.length) (fun (j : Nat) => z.length - j) (fun (j : Nat) => [(3, Is (.slice (some ⟨B14, 0, none⟩) z.length z.length)), (7, NT .i64 i), (8, aM ((iI s (jA z)).getD i [])), (36, aR (iI s (jA z))), (37, NT .i64 z.length), (38, NT .i64 i), (44, NT .i64 z.length), (45, NT .i64 j)]) (fun (j : Nat) => [Z, vQ jB B14 25 60 5 (bM aF (jY (fun i => tab z.length fun j => gm (jA z) i j - gm (iI s (jA z)) i j) (fun i => tab z.length fun j => gm (jA z) i j) z.length i)) i v, bF 60 5 v ((jY (fun j => gm (jA z) i j - gm (iI s (jA z)) i j) (fun j => gm (jA z) i j) z.length j).map aF)]) 0 (Nat.zero_le _)
    (aQ rfl (aQ rfl (aQ rfl (aQ rfl (aQ rfl (aQ rfl (aZ rfl (lX (hxr.trans hsl)) (zS rfl)))))))) (aU (fun _ _ _ h=>h) (aU (fun _ _ _ h=>h) (aU (aO (by rw [← iG])) aY))) (fun j hj=>?_)
   refine ts (ro rfl (gX (Ht rfl) (Ht rfl)) (eX (cK (dQ (Ht rfl) (fun hf=>?_) (fun hf=>?_)))))
   ·simp only [decide_eq_true_eq] at hf
    have hrl:=iB (fun j=>gm (jA z) i j - gm (iI s (jA z)) i j) (fun j=>gm (jA z) i j) z.length j
    haveI f1:aE (gm (jA z) i j) L:=hDf.get hL1 i j
    haveI f2:aE (gm (iI s (jA z)) i j) (200 * L + 300):=hXf.get zo i j
    refine cU (cK (eG (ts (rm rfl (ra rfl (eX (fZ (m:=18) (dp 3 rfl (cX (Ht rfl)) (dp 7 rfl (cX (Ht rfl)) (cP 48 0 49 1 rfl (fY U_26 Z_25 (Ht rfl) (Ht rfl) rfl zo (by rw [Nat.mul_one,Nat.zero_add])) ?_))))))))))
    refine dq 50 2 rfl (iC A_25 Z_25 (Ht rfl) (j:=1) rfl) (dp 9 rfl (cX (Ht rfl)) (dp 3 rfl (cX (Ht rfl)) (dp 7 rfl (cX (Ht rfl)) (cP 53 5 54 6 rfl (fY U_26 Z_25 (Ht rfl) (Ht rfl) rfl zo (by rw [Nat.mul_one,Nat.zero_add])) ?_))))
    refine dq 55 7 rfl (iC A_25 Z_25 (Ht rfl) (j:=1) rfl) (dp 9 rfl (cX (Ht rfl)) (cP 56 8 57 9 rfl (cL U_25 Z_60 (Ht rfl) (Ht rfl) rfl (i:=2) rfl (by simp only [List.length_map,hrl]; omega) rfl) ?_))
    refine dq 58 10 rfl (mI A_60 Z_60 (Ht rfl) (i:=2) rfl rfl (dY (oB hf))) (dq 59 11 rfl (aT bD (Ht rfl)) (dp 8 rfl (cX (Ht rfl)) (dp 9 rfl (cX (Ht rfl)) (cP 61 13 62 14 rfl (dZ U_25 Z_60 (Ht rfl) (Ht rfl) rfl (dY (dU (d:=Qi.zero) (by rw [hxr]; omega)))) ?_))))
    refine dq 63 15 rfl (dJ A_60 Z_60 (Ht rfl)) (cP 60 12 64 16 rfl (aL iA K_69 (qC zo) (Ht rfl) ⟨(Ht rfl),trivial⟩) (fV bC rfl (by kernel_rfl) (zF (zF (zF (zF (aJ (aJ (aV (ro rfl (cL U_25 Z_60 (Ht rfl) (Ht rfl) rfl (i:=2) rfl (by simp only [List.length_map,hrl]; omega) rfl) ?_))))))))))
    refine kX Z_60 (Ht rfl) (Ht rfl) (El.ag rfl) (i:=2) rfl rfl (by simp only [List.length_map,hrl]; omega) rfl ?_
    refine eX (bL (cY (ro rfl (dV (Ht rfl) (cJ 1) z6) (rm rfl (eX (fU (j + 1) hf zo (zS rfl) (aU (fun _ _ _ h=>h) (aU (fun _ _ _ h=>h) (aU (aO (by rw [dO,← jC (f:=fun j=>gm (jA z) i j - gm (iI s (jA z)) i j)])) aY)))))))))
   ·simp only [decide_eq_false_iff_not] at hf
    obtain rfl:j = z.length:=Nat.le_antisymm hj zo
    refine gW rfl (bL (dS 1 2 rfl rfl (by decide) (by simp only [bM,List.length_map,iB]; omega) ?_))
    refine cY (ro rfl (dV (Ht rfl) (cJ 1) z6) (rm rfl (eX (bS [0,1] rfl (by decide) (fU (i + 1) he zo (zS rfl) (aU (fun _ _ _ h=>h) (aU (bI (by rw [eN,jM,← jC (f:=(fun i=>tab z.length fun j=>gm (jA z) i j - gm (iI s (jA z)) i j))])) aY)))))))
  ·simp only [decide_eq_false_iff_not] at he
   obtain rfl:i = z.length:=Nat.le_antisymm hi zo
   refine gW rfl (ts (rm rfl (ra rfl (eX ?_))))
   exact iO B14 trivial [0,1] ⟨⟨_,rfl,fun _ _ _ h=>h⟩,⟨_,rfl,(bI (by rw [jM]; rfl))⟩,trivial⟩ (by decide) (tG rfl (eU rfl))
theorem a5P {z:List Qi} {s:List (List Qi)} {t:Qi} {L:Nat} (hz:bP z L) (hs:aN s L) (ht:aE t L) (hL1:1 ≤ L) (hL:L ≤ 10000000) (hsh:cF s z.length z.length) (hl1:1 ≤ z.length) (hl:z.length ≤ 8):bR Tryz.prog 59 [iK z s,aF t] (eD [eH (dM (oL t) z) (dM (oL t) s) (dM (oL t) (a0y t (rK z s) z.length)),aP .i64 (oL t)]):=by
 haveI:=ht
 have hOs:=a0g z s
 have hOf:=Le hz hs hL1 hl
 refine bR.intro Tryz.func59 rfl Tryz.ntmps59 rfl (fun cx=>(ts (rn rfl (fG (Ht rfl)) fun B2=>(rn rfl (fG (Ht rfl)) fun B3=>(rn rfl (eW (Ts:=[Is (.slice none 0 0),Is (.slice none 0 0),Is (.slice none 0 0)]) O_80 rfl (fun V=>aW zd (aW zd (aW zd (aG))))) fun B4=>(ro rfl (cQ (cJ 0)) (eX (cK (ts (ro rfl (eJ A_60 Z_60 (Ht rfl) (i:=1) rfl rfl rfl) (ro rfl (cZ Tryz.call158 (Xp zo) ⟨(Ht rfl),trivial⟩) (ro rfl (dH (Ht rfl)) ?_))))))))))))
 refine eX (dQ (Ht rfl) (fun hb=>?_) (fun hb=>?_))
 ·have he : oL t ≠ 0 := by simp only [Bool.not_eq_true'] at hb; rw [oL, hb]; decide
  have he1:oL t = 1:=by simp only [Bool.not_eq_true'] at hb; rw [oL,hb]; rfl
  refine ts (ro rfl (aS.imp (rS ) nK) (gQ Z_80 (Ht rfl) (Ht rfl) rfl (i:=2) rfl (aK rfl) rfl rfl (ro rfl (cQ (cJ 1)) (eX (bN rfl (fX (fK A_80 Z_80 rfl (i:=2) rfl rfl) ?_) (fX (eU rfl) ?_))))))
  ·exact (a2Q he)
  ·exact (bE he1.symm)
 ·have he : oL t = 0 := by simp only [Bool.not_eq_false'] at hb; rw [oL, hb]; rfl
  refine cU (ts (ro rfl (eJ A_28 Z_28 (Ht rfl) (i:=0) rfl rfl rfl) (iN Tryz.call160 (Xo hz hs hL1 hL hsh hl1 hl) ⟨(Ht rfl),trivial⟩ rfl (fun B15 _=>(ra rfl (eX (cK (ts (rm rfl (ro rfl (eT U_26 (Ht rfl)) (ro rfl (cX (cJ 0)) (eX (eG ?_)))))))))))))
  refine cA (fun (i : Nat) => i ≤ z.length) (fun (i : Nat) => z.length - i) (fun (i : Nat) => [(2, bO B2 0), (3, bO B3 0), (4, bO B4 0), (6, Is (.slice (some ⟨B15, 0, none⟩) z.length z.length)), (16, Is (.slice (some ⟨B15, 0, none⟩) z.length z.length)), (17, NT .i64 z.length), (18, NT .i64 i)]) (fun (i : Nat) => [box B2 28 [aM z, aR s], box B3 60 [aH (decide (t.a < 0)), bA t.a.natAbs, aH (decide (t.b < 0)), bA t.b.natAbs, bA (du t)], box B4 80 [Is (.slice none 0 0), Is (.slice none 0 0), Is (.slice none 0 0)], lR jB B15 25 60 5 (bM aF (jY (fun i => tab z.length fun j => t * gm (rK z s) i j) (fun i => tab z.length fun j => gm (rK z s) i j) z.length i))]) 0 (Nat.zero_le _)
   (zS rfl) (aU (fun _ _ _ h=>h) (aU (fun _ _ _ h=>h) (aU (fun _ _ _ h=>h) (aU (bI (by rw [← iG]; exact congrArg _ (mY hOs))) aY)))) (fun i hi=>?_)
  refine ts (ro rfl (gX (Ht rfl) (Ht rfl)) (eX (cK (dQ (Ht rfl) (fun he2=>?_) (fun he2=>?_)))))
  ·simp only [decide_eq_true_eq] at he2
   refine mV 3 (i) rfl (nI he2) (fun v hv=>(cU (cK (eG (ts (ro rfl (fY U_26 Z_25 (Ht rfl) (Ht rfl) rfl zo (by rw [Nat.mul_one,Nat.zero_add])) ?_))))))
   refine ro rfl (iC A_25 Z_25 (Ht rfl) (j:=3) rfl) (ra rfl (eX (ts (rm rfl (ro rfl (nT U_25 (Ht rfl) (i:=4) rfl (show (((tab z.length fun j=>gm (rK z s) i j).map aF).length:Int) = ((z.length:Nat):Int) by rw [List.length_map,aD])) (ro rfl (cX (cJ 0)) (eX (eG ?_))))))))
   refine cA (fun (j : Nat) => j ≤ z.length) (fun (j : Nat) => z.length - j) (fun (j : Nat) => [(2, bO B2 0), (3, bO B3 0), (4, bO B4 0), (6, Is (.slice (some ⟨B15, 0, none⟩) z.length z.length)), (8, Is v), (16, Is (.slice (some ⟨B15, 0, none⟩) z.length z.length)), (17, NT .i64 z.length), (18, NT .i64 i), (23, NT .i64 z.length), (24, NT .i64 j)]) (fun (j : Nat) => [box B2 28 [aM z, aR s], box B3 60 [aH (decide (t.a < 0)), bA t.a.natAbs, aH (decide (t.b < 0)), bA t.b.natAbs, bA (du t)], box B4 80 [Is (.slice none 0 0), Is (.slice none 0 0), Is (.slice none 0 0)], vQ jB B15 25 60 5 (bM aF (jY (fun i => tab z.length fun j => t * gm (rK z s) i j) (fun i => tab z.length fun j => gm (rK z s) i j) z.length i)) i v, bF 60 5 v ((jY (fun j => t * gm (rK z s) i j) (fun j => gm (rK z s) i j) z.length j).map aF)]) 0 (Nat.zero_le _)
    (zS rfl) (aU (fun _ _ _ h=>h) (aU (fun _ _ _ h=>h) (aU (fun _ _ _ h=>h) (aU (fun _ _ _ h=>h) (aU (aO (by rw [← iG])) aY))))) (fun j hj=>?_)
   refine ts (ro rfl (gX (Ht rfl) (Ht rfl)) (eX (cK (dQ (Ht rfl) (fun hf=>?_) (fun hf=>?_)))))
   ·simp only [decide_eq_true_eq] at hf
    have hrl:=iB (fun j=>t * gm (rK z s) i j) (fun j=>gm (rK z s) i j) z.length j
    haveI f1:aE (gm (rK z s) i j) (201 * L + 301):=hOf.get zo i j
    refine cU (cK (eG (ts (rm rfl (ra rfl (eX (fZ (m:=10) (dp 8 rfl (cX (Ht rfl)) (dp 9 rfl (cX (Ht rfl)) (dp 3 rfl (eJ A_60 Z_60 (Ht rfl) (i:=1) rfl rfl rfl) (dq 29 2 rfl (cZ K_147 Bx ⟨(Ht rfl),trivial⟩) (dq 30 3 rfl (aT bD (Ht rfl)) (dp 8 rfl (cX (Ht rfl)) (dp 9 rfl (cX (Ht rfl)) (cP 32 5 33 6 rfl (cL U_25 Z_60 (Ht rfl) (Ht rfl) rfl (i:=4) rfl (by simp only [List.length_map,hrl]; omega) rfl) ?_)))))))))))))))
    refine dq 34 7 rfl (mI A_60 Z_60 (Ht rfl) (i:=4) rfl rfl (dY (oB hf))) (cP 31 4 35 8 rfl (aL cB K_70 (iF zo) (Ht rfl) ⟨(Ht rfl),trivial⟩) (fV bC rfl (by kernel_rfl) (zF (zF (aJ (aJ (aV (ro rfl (cL U_25 Z_60 (Ht rfl) (Ht rfl) rfl (i:=4) rfl (by simp only [List.length_map,hrl]; omega) rfl) ?_))))))))
    refine kX Z_60 (Ht rfl) (Ht rfl) (El.ag rfl) (i:=4) rfl rfl (by simp only [List.length_map,hrl]; omega) rfl ?_
    refine eX (bL (cY (ro rfl (dV (Ht rfl) (cJ 1) z6) (rm rfl (eX (fU (j + 1) hf zo (zS rfl) (aU (fun _ _ _ h=>h) (aU (fun _ _ _ h=>h) (aU (fun _ _ _ h=>h) (aU (fun _ _ _ h=>h) (aU (aO (by rw [dO,← jC (f:=fun j=>t * gm (rK z s) i j)])) aY)))))))))))
   ·simp only [decide_eq_false_iff_not] at hf
    obtain rfl:j = z.length:=Nat.le_antisymm hj zo
    refine gW rfl (bL (dS 3 4 rfl rfl (by decide) (by simp only [bM,List.length_map,iB]; omega) ?_))
    refine cY (ro rfl (dV (Ht rfl) (cJ 1) z6) (rm rfl (eX (bS [0,1,2,3] rfl (by decide) (fU (i + 1) he2 zo (zS rfl) (aU (fun _ _ _ h=>h) (aU (fun _ _ _ h=>h) (aU (fun _ _ _ h=>h) (aU (bI (by rw [eN,jM,← jC (f:=(fun i=>tab z.length fun j=>t * gm (rK z s) i j))])) aY)))))))))
  ·simp only [decide_eq_false_iff_not] at he2
   obtain rfl:i = z.length:=Nat.le_antisymm hi zo
   rw [jM]
   refine gW rfl (cK (gV (i:=3) (tt:=6) rfl rfl (gY (s:=5) (M:=(a0y t (rK z s) z.length)) Lq.1.symm) (cY (ro rfl (eJ A_28 Z_28 (Ht rfl) (i:=0) rfl rfl rfl) (rm rfl (ro rfl (pL (Ht rfl) (Ht rfl)) (gQ Z_80 (Ht rfl) (Ht rfl) rfl (i:=2) rfl (aK rfl) rfl rfl (ro rfl (cQ (cJ 0)) (eX (bN rfl (fX (fK A_80 Z_80 rfl (i:=2) rfl rfl) ?_) (fX (eU rfl) ?_)))))))))))
   ·exact (a0h he)
   ·exact (bE he.symm)
end
section
open Go Go.RowKit
theorem Pm {n : Nat} {E : dA} {H : Hp} {d : Option Tmp} {t : TypeId} {pos : String} {af : Array Edge} {g : Option (Nat × Bool)}  :
  aS Tryz.prog n E H ⟨d,.build 48 #[],t,pos,af,g⟩ (gN [Is (.int .i64 0),Is (.int .i64 0),Is (.int .i64 0)]) :=
 jZ (parts := []) fun a V w hs => by
  refine ⟨.agg #[(.int .i64 0),(.int .i64 0),(.int .i64 0)],?_,[(.int .i64 0),(.int .i64 0),(.int .i64 0)],rfl,aW (⟨rfl,trivial⟩) (aW (⟨rfl,trivial⟩) (aW (⟨rfl,trivial⟩) (aG)))⟩
  simp [Instr.build,Instr.fill,Sem.run_bind,Result.andThen,iW,O_48,U_48,Z_2]
theorem Jf {n : Nat} {E : dA} {H : Hp} {d : Option Tmp} {t : TypeId} {pos : String} {af : Array Edge} {g : Option (Nat × Bool)} {x0 : Operand} {T0 : Ty} [s0 : dI T0 1 false] (h0 : bH E x0 T0) :
  aS Tryz.prog n E H ⟨d,.build 48 #[(0,x0)],t,pos,af,g⟩ (gN [T0,Is (.int .i64 0),Is (.int .i64 0)]) :=
 jZ (parts := [(0, x0)]) fun a V w hs => by
  have p0:=h0 n V a hs
  generalize e0:a.eval x0 = v0 at p0
  have q0:=(s0.ok v0 V p0).2.2 rfl
  refine ⟨.agg #[v0,(.int .i64 0),(.int .i64 0)],?_,[v0,(.int .i64 0),(.int .i64 0)],rfl,aW (⟨p0,q0⟩) (aW (⟨rfl,trivial⟩) (aW (⟨rfl,trivial⟩) (aG)))⟩
  simp [e0,Instr.build,Instr.fill,Sem.run_bind,Result.andThen,iW,q0.cells,O_48,U_48,Z_2]
theorem Mo {n : Nat} {E : dA} {H : Hp} {d : Option Tmp} {t : TypeId} {pos : String} {af : Array Edge} {g : Option (Nat × Bool)} {x0 x2 : Operand} {T0 T2 : Ty} [s0 : dI T0 1 false] (h0 : bH E x0 T0) [s2 : dI T2 1 false] (h2 : bH E x2 T2) :
  aS Tryz.prog n E H ⟨d,.build 48 #[(0,x0),(2,x2)],t,pos,af,g⟩ (gN [T0,Is (.int .i64 0),T2]) :=
 jZ (parts := [(0, x0), (2, x2)]) fun a V w hs => by
  have p0:=h0 n V a hs
  generalize e0:a.eval x0 = v0 at p0
  have q0:=(s0.ok v0 V p0).2.2 rfl
  have p2:=h2 n V a hs
  generalize e2:a.eval x2 = v2 at p2
  have q2:=(s2.ok v2 V p2).2.2 rfl
  refine ⟨.agg #[v0,(.int .i64 0),v2],?_,[v0,(.int .i64 0),v2],rfl,aW (⟨p0,q0⟩) (aW (⟨rfl,trivial⟩) (aW (⟨p2,q2⟩) (aG)))⟩
  simp [e0,e2,Instr.build,Instr.fill,Sem.run_bind,Result.andThen,iW,q0.cells,q2.cells,O_48,U_48,Z_2]
end
section
open Go Go.RowKit
theorem Gn  : bR Tryz.prog 42 [] (aH true):=by
 refine bR.intro Tryz.func42 rfl Tryz.ntmps42 rfl (fun cx=>(ts (ro rfl (cQ cV) (eX (ts (ro rfl (Mo cV cV) (rn rfl (eW (Ts:=[Is (.int .i64 0),Is (.int .i64 0),Is (.int .i64 0)]) O_48 rfl (fun V=>aW zd (aW zd (aW zd (aG))))) fun B1=>(gQ Z_48 (Ht rfl) (Ht rfl) rfl (i:=0) rfl (aK rfl) rfl rfl (eX (cK (Y.D_start (m:=18) [] (bY (Ei:=[]) rfl rfl bX rfl rfl (dX rfl (Jf cV)) (bY (Ei:=[]) rfl rfl bX rfl rfl (dX rfl (Jf cV)) ?_)))))))))))))
 refine bY (Ei:=[(12,_),(13,_)]) rfl rfl (bQ (bZ 0 rfl rfl) (bQ (bZ 1 rfl rfl) bX)) rfl rfl (dX rfl (cE (xs:=[.tmp 12,.tmp 13]) U_22 Z_48 O_48 (cW (Ht rfl) (cW (Ht rfl) cG)) rfl rfl rfl)) (bY (Ei:=[(14,_)]) rfl rfl (bQ (bZ 2 rfl rfl) bX) rfl rfl (dX rfl (cZ Tryz.call48 (uP (l:=[r50,r50]) (by decide)) ⟨(Ht rfl),trivial⟩)) (bY (Ei:=[]) rfl rfl bX rfl rfl (dX rfl (Pm )) (bY (Ei:=[(1,_)]) rfl rfl (bQ (bJ rfl rfl) bX) rfl rfl (dX rfl (eJ A_48 Z_48 (Ht rfl) (i:=0) rfl rfl rfl)) ?_)))
 refine bY (Ei:=[(16,_),(17,_)]) rfl rfl (bQ (bZ 4 rfl rfl) (bQ (bZ 5 rfl rfl) bX)) rfl rfl (dX rfl (cE (xs:=[.tmp 16,.tmp 17]) U_22 Z_48 O_48 (cW (Ht rfl) (cW (Ht rfl) cG)) rfl rfl rfl)) (bY (Ei:=[(1,_)]) rfl rfl (bQ (bJ rfl rfl) bX) rfl rfl (dX rfl (eJ A_48 Z_48 (Ht rfl) (i:=0) rfl rfl rfl)) (bY (Ei:=[]) rfl rfl bX rfl rfl (dX rfl (Pm )) (bY (Ei:=[(19,_),(20,_)]) rfl rfl (bQ (bZ 7 rfl rfl) (bQ (bZ 8 rfl rfl) bX)) rfl rfl (dX rfl (cE (xs:=[.tmp 19,.tmp 20]) U_22 Z_48 O_48 (cW (Ht rfl) (cW (Ht rfl) cG)) rfl rfl rfl)) ?_)))
 refine bY (Ei:=[(18,_),(21,_)]) rfl rfl (bQ (bZ 6 rfl rfl) (bQ (bZ 9 rfl rfl) bX)) rfl rfl (dX rfl (cE (xs:=[.tmp 18,.tmp 21]) U_75 Z_22 Tryz.zeroValue22 (cW (Ht rfl) (cW (Ht rfl) cG)) rfl rfl rfl)) (bY (Ei:=[(22,_)]) rfl rfl (bQ (bZ 10 rfl rfl) bX) rfl rfl (dX rfl (cZ Tryz.call94 (yN (m:=[[a2V,Sb],[Sb,a2V]]) (by decide) (by intro r hr; simp at hr; rcases hr with rfl | rfl <;> decide)) ⟨(Ht rfl),trivial⟩)) ?_)
 refine bY (Ei:=[(15,_),(23,_)]) rfl rfl (bQ (bZ 3 rfl rfl) (bQ (bZ 11 rfl rfl) bX)) rfl rfl (dX rfl (cZ Tryz.call93 (eQ (Jo (z:=yL) (s:=Dt) (L:=2) Ph (by decide) (by decide) (by decide)) a3V) ⟨(Ht rfl),(Ht rfl),trivial⟩)) (bY (Ei:=[(24,_)]) rfl rfl (bQ (bZ 12 rfl rfl) bX) rfl rfl (dX rfl (cX (Ht rfl))) (bY (Ei:=[(11,_)]) rfl rfl (bQ (bZ 13 rfl rfl) bX) rfl rfl (dX rfl (dK (Ht rfl) rfl)) (bY (Ei:=[(11,_)]) rfl rfl (bQ (bZ 13 rfl rfl) bX) rfl rfl (dX rfl (dK (Ht rfl) rfl)) ?_)))
 refine Y.D_newp (Ei:=[]) (fun bb=>box bb 28 [aM yL,aR Dt]) 17 rfl rfl rfl bX rfl rfl (by kernel_rfl) (eW (Ts:=[Is (.slice none 0 0),Is (.slice none 0 0)]) O_28 rfl (fun V=>aW zd (aW zd (aG)))) (Y.D_putN (Ei:=[(25,_)]) 16 rfl rfl rfl rfl rfl rfl (bQ (bZ 14 rfl rfl) bX) (fun bb=>tJ Z_28 (Ht rfl) (Ht rfl) rfl (i:=0) rfl (aK rfl) rfl rfl) (Y.D_done bC rfl (by kernel_rfl) rfl (by simp [Y.okP]) rfl rfl (bU (bU (bU (bU (bU (bU (bU (bU (bU (bU (bU (bU (bU (bU (bU (bU (Y.F_newp (fun B2=>Y.F_putN (Y.F_nil ?_)))))))))))))))))))))
 refine ra rfl (eX (cK (Y.D_start (m:=8) [] (bY (Ei:=[(2,_)]) rfl rfl (bQ (bJ rfl rfl) bX) rfl rfl (dX rfl (eJ A_28 Z_28 (Ht rfl) (i:=1) rfl rfl rfl)) (bY (Ei:=[]) rfl rfl bX rfl rfl (dX rfl (cZ K_52 (mK (n:=290) (by decide) (by decide)) ⟨(cJ 290),trivial⟩)) (bY (Ei:=[(28,_),(29,_)]) rfl rfl (bQ (bZ 0 rfl rfl) (bQ (bZ 1 rfl rfl) bX)) rfl rfl (dX rfl (cZ Tryz.call59 (eQ (a5P (z:=yL) (s:=Dt) (t:=Qi.ofInt 290) (L:=2) Ph Wo Wp (by decide) (by decide) Wq (by decide) (by decide)) a3W) ⟨(Ht rfl),(Ht rfl),trivial⟩)) ?_))))))
 refine bY (Ei:=[(30,_)]) rfl rfl (bQ (bZ 2 rfl rfl) bX) rfl rfl (dX rfl (cX (Ht rfl))) (bY (Ei:=[(27,_)]) rfl rfl (bQ (bZ 3 rfl rfl) bX) rfl rfl (dX rfl (dK (Ht rfl) rfl)) (bY (Ei:=[(27,_)]) rfl rfl (bQ (bZ 3 rfl rfl) bX) rfl rfl (dX rfl (dK (Ht rfl) rfl)) (Y.D_newp (Ei:=[]) (fun bb=>box bb 80 [aM yL,aR Dt,aR Ek]) 7 rfl rfl rfl bX rfl rfl (by kernel_rfl) (eW (Ts:=[Is (.slice none 0 0),Is (.slice none 0 0),Is (.slice none 0 0)]) O_80 rfl (fun V=>aW zd (aW zd (aW zd (aG))))) ?_)))
 refine Y.D_putN (Ei:=[(31,_)]) 6 rfl rfl rfl rfl rfl rfl (bQ (bZ 4 rfl rfl) bX) (fun bb=>tJ Z_80 (Ht rfl) (Ht rfl) rfl (i:=0) rfl (aK rfl) rfl rfl) (Y.D_done bC rfl (by kernel_rfl) rfl (by simp [Y.okP]) rfl rfl (bU (bU (bU (bU (bU (bU (Y.F_newp (fun B4=>Y.F_putN (Y.F_nil ?_))))))))))
 refine ra rfl (eX (ts (ro rfl (eJ A_80 Z_80 (Ht rfl) (i:=2) rfl rfl rfl) (ro rfl (cZ Tryz.call139 (eQ (a1o (z:=yL) (s:=Dt) (c:=Ek) (i:=((2:Nat):Int)) (j:=((2:Nat):Int)) a3T (by rw [Pg.1]; decide)) a5H) ⟨(Ht rfl),(cJ 2),(cJ 2),trivial⟩) ?_))))
 refine rm rfl (ro rfl (dK (Ht rfl) rfl) (ro rfl (dK (Ht rfl) rfl) (rn rfl (eW (Ts:=[Is (.bool false),Is (.slice none 0 0),Is (.bool false),Is (.slice none 0 0),Is (.slice none 0 0)]) O_60 rfl (fun V=>aW zd (aW zd (aW zd (aW zd (aW zd (aG))))))) fun B6=>(gQ Z_60 (Ht rfl) (Ht rfl) rfl (i:=3) rfl (aK rfl) rfl rfl (ra rfl (eX (cK (Y.D_start (m:=9) [] (bY (Ei:=[(4,_)]) rfl rfl (bQ (bJ rfl rfl) bX) rfl rfl (dX rfl (eJ A_80 Z_80 (Ht rfl) (i:=2) rfl rfl rfl)) ?_)))))))))
 refine bY (Ei:=[]) rfl rfl bX rfl rfl (dX rfl (cZ K_52 (mK (n:=0) (by decide) (by decide)) ⟨(cJ 0),trivial⟩)) (bY (Ei:=[]) rfl rfl bX rfl rfl (dX rfl (cZ K_52 (mK (n:=290) (by decide) (by decide)) ⟨(cJ 290),trivial⟩)) (bY (Ei:=[(39,_),(40,_),(41,_)]) rfl rfl (bQ (bZ 0 rfl rfl) (bQ (bZ 1 rfl rfl) (bQ (bZ 2 rfl rfl) bX))) rfl rfl (dX rfl (cZ Tryz.call54 (eQ (Jh (z:=yL) (s:=Dt) (c:=Ek) (g:=Qi.ofInt 0) (t0:=Qi.ofInt 290) (L:=1000) (Ph.le (by decide)) (Wo.le (by decide)) a5J (a5I.le (by decide)) (Wp.le (by decide)) (by decide) (by decide) Wq Pg (by decide)) a3U) ⟨(Ht rfl),(Ht rfl),(Ht rfl),trivial⟩)) ?_))
 refine bY (Ei:=[(42,_)]) rfl rfl (bQ (bZ 3 rfl rfl) bX) rfl rfl (dX rfl (cX (Ht rfl))) (bY (Ei:=[(38,_)]) rfl rfl (bQ (bZ 4 rfl rfl) bX) rfl rfl (dX rfl (dK (Ht rfl) rfl)) (bY (Ei:=[(38,_)]) rfl rfl (bQ (bZ 4 rfl rfl) bX) rfl rfl (dX rfl (dK (Ht rfl) rfl)) (Y.D_newp (Ei:=[]) (fun bb=>box bb 60 [aH (decide ((Qi.ofInt 4).a < 0)),bA (Qi.ofInt 4).a.natAbs,aH (decide ((Qi.ofInt 4).b < 0)),bA (Qi.ofInt 4).b.natAbs,bA (du (Qi.ofInt 4))]) 8 rfl rfl rfl bX rfl rfl (by kernel_rfl) (eW (Ts:=[Is (.bool false),Is (.slice none 0 0),Is (.bool false),Is (.slice none 0 0),Is (.slice none 0 0)]) O_60 rfl (fun V=>aW zd (aW zd (aW zd (aW zd (aW zd (aG))))))) ?_)))
 refine Y.D_putN (Ei:=[(43,_)]) 7 rfl rfl rfl rfl rfl rfl (bQ (bZ 5 rfl rfl) bX) (fun bb=>tJ Z_60 (Ht rfl) (Ht rfl) rfl (i:=0) rfl (aK rfl) rfl rfl) (Y.D_done bC rfl (by kernel_rfl) rfl (by simp [Y.okP]) rfl rfl (bU (bU (bU (bU (bU (bU (bU (Y.F_newp (fun B8=>Y.F_putN (Y.F_nil ?_)))))))))))
 refine ra rfl (eX (ts (rm rfl (ro rfl (mH (Ht rfl) cV) (rm rfl (fQ rfl rfl (eK rfl rfl (Ht rfl) (fun h=>cX (Ht rfl))) (fQ rfl rfl (eK rfl rfl (Ht rfl) (fun h=>mH (fJ rfl h) cV)) (ro rfl (fC (Ht rfl) (fun h=>(fJ rfl h))) (rm rfl (fQ rfl rfl (eK rfl rfl (Ht rfl) (fun h=>cX (Ht rfl))) (fQ rfl rfl (eK rfl rfl (Ht rfl) (fun h=>mH (fJ rfl h) cV)) (ro rfl (fC (Ht rfl) (fun h=>(fJ rfl h))) (rm rfl (fQ rfl rfl (eK rfl rfl (Ht rfl) (fun h=>cX (Ht rfl))) (fQ rfl rfl (eK rfl rfl (Ht rfl) (fun h=>mH (fJ rfl h) cV)) ?_)))))))))))))))
 refine ro rfl (fC (Ht rfl) (fun h=>(fJ rfl h))) (rm rfl (fQ rfl rfl (eK rfl rfl (Ht rfl) (fun h=>eJ A_60 Z_60 (Ht rfl) (i:=3) rfl rfl rfl)) (fQ rfl rfl (eK rfl rfl (Ht rfl) (fun h=>cZ Tryz.call115 (Xf (x:=Qi.ofInt 10875) (L:=2) (hx:=(@fitInt 10875).le (by decide)) (by decide)) ⟨(fJ rfl h),trivial⟩)) (fQ rfl rfl (eK rfl rfl (Ht rfl) (fun h=>a09 (fJ rfl h) (bH.cS (l:=[49,48,56,55,53]) rfl))) (ro rfl (fC (Ht rfl) (fun h=>(fJ rfl h))) (rm rfl (fQ rfl rfl (eK rfl rfl (Ht rfl) (fun h=>eJ A_60 Z_60 (Ht rfl) (i:=4) rfl rfl rfl)) ?_)))))))
 refine fQ rfl rfl (eK rfl rfl (Ht rfl) (fun h=>cZ Tryz.call115 (Xf (x:=Qi.ofInt 4) (L:=2) (hx:=(@fitInt 4).le (by decide)) (by decide)) ⟨(fJ rfl h),trivial⟩)) (fQ rfl rfl (eK rfl rfl (Ht rfl) (fun h=>a09 (fJ rfl h) (bH.cS (l:=[52]) rfl))) (ro rfl (fC (Ht rfl) (fun h=>(fJ rfl h))) (ra rfl (eX (fW rfl (fX (eU rfl) ?_))))))
 exact (fA (by rw [a5K,a5L]; rfl))
end
section
open Go Go.RowKit
theorem Qi.zero_div (y:Qi):Qi.zero / y = Qi.zero:=by rw [Qi.div_def,Qi.zero_mul']
theorem a55 {x:Qi} (h:gU x = true):x.im = 0 ∧ x.re ≠ 0:=by
 simp only [gU,decide_eq_true_eq] at h
 exact ⟨Qi.b_zero.1 h.1,fun e=>by have:=Qi.a_zero.2 e; omega⟩
end
section
open Go Go.RowKit
theorem a1V {α:Type} {l:List α} {d:α} {k:Nat} (h:k < l.length):l.getD k d = l[k]:=by simp [List.getD,h]
end
end Go.Proofs.YtdlciihkiefckaaGreat
