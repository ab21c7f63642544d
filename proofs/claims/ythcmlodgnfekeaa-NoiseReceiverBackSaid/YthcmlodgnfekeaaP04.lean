/- What functions of the program compute, proved by walks over their code, and the plain mathematics of it; a part of the proof in the last text. -/
import Derived.Test.YthcmlodgnfekeaaP03
set_option linter.unusedVariables false
set_option linter.unusedSimpArgs false
set_option maxRecDepth 100000
set_option maxHeartbeats 4000000
namespace Go.Proofs.Ythcmlodgnfekeaa
section
open Go Go.RowKit
open Fl
abbrev Tp (k:FloatKind) (a b:Nat):Ty:=Ea k (fun x y=>x = a ∧ y = b)
theorem Kx {P : Program} {f : FuncId} {k : FloatKind} {Q : Nat → Nat → Prop} {U : Ty} (h : ∀ a b, Q a b → aT P f [Tp k a b] U) : aT P f [Ea k Q] U := fun vs V w hi ha => by
 match vs,ha with
 | [v],⟨⟨a,b,e,q⟩,_⟩=>exact h a b q [v] V w hi ⟨⟨a,b,e,rfl,rfl⟩,trivial⟩
theorem Rl (a:Nat):a &&& 4503599627370495 = a % 4503599627370496:=Nat.and_two_pow_sub_one_eq_mod a 52
theorem Rk (a:Nat):a &&& 2047 = a % 2048:=Nat.and_two_pow_sub_one_eq_mod a 11
theorem Ug {m:Nat} (h:m < 4503599627370496):m ||| 4503599627370496 = 4503599627370496 + m:=by
 rw [Nat.or_comm]; exact (Nat.two_pow_add_eq_or_of_lt (i:=52) h 1).symm ▸ rfl
theorem Sw {a:Nat} (h:kZ a ≠ 0):a % 4503599627370496 ||| 4503599627370496 = qL a:=(Ug (Nat.mod_lt _ (by decide))).trans (by rw [qL,if_neg h])
theorem Sj (a:Nat):a / 2 ^ 52 % 2048 = kZ a:=by unfold kZ; rw [show (2:Nat) ^ 52 = 4503599627370496 by decide]
theorem Kz {a:Nat} (ha:a < 18446744073709551616):Ks .gtr .f64 (Ej a) 9218868437227405311 = some (decide (rg Ieee.double a = Ieee.double.infRung)):=by
 rw [Aj]
 have h:=Ph (f:=Ieee.double) (x:=a % 9223372036854775808) (m:=9218868437227405311) bd (by decide) (by decide)
 have e1:rg Ieee.double (a % 9223372036854775808) = rg Ieee.double a:=by unfold rg; rw [pA,Nat.mod_mod]
 have e2:ng Ieee.double (a % 9223372036854775808) = false:=by unfold ng; rw [pA,Nat.div_eq_of_lt (Nat.mod_lt _ (by decide))]; rfl
 rw [e1,e2] at h
 show some (Ieee.double.order _ _ == some .gt) = _
 rw [h]; simp
theorem Gw {a:Nat}:Ks .neq .f64 a a = some (decide (Ieee.double.infRung < rg Ieee.double a)):=congrArg some (zM bd)
theorem Dc (a:Nat):(!decide (Ieee.double.infRung < rg Ieee.double a) && !decide (rg Ieee.double a = Ieee.double.infRung)) = fin Ieee.double a:=by
 unfold fin; rw [Bool.eq_iff_iff]; simp; omega
def vF (p:Nat):Qi:=if fin Ieee.single p then q32 p else Qi.zero
theorem zX (p:Nat):aH (vF p) 9:=by
 unfold vF; split
 ·rename_i h; exact ⟨Sl h⟩
 ·exact aH.zero (by decide)
theorem Tn (p:Nat):Re (vF p):=by
 unfold vF; split
 ·exact Re.q32 p
 ·exact ⟨rfl⟩
theorem Tl (p:Nat):(decide ((if fin Ieee.single p then (0:Int) else 1) = 0) && decide (0 < lO (vF p) (Qi.ofInt 0))) = pw p:=by
 have e:0 < lO (vF p) (Qi.ofInt 0) ↔ 0 < (vF p).re:=by rw [jP (Tn p).b (Qi.int_a 0).2.1,Az]; exact Iff.rfl
 unfold pw
 cases h:fin Ieee.single p with
 | false=>simp
 | true =>
  have:vF p = q32 p:=by unfold vF; rw [if_pos h]
  rw [this] at e
  rw [Bool.eq_iff_iff]; simp [this,e,Cb]
def vD (a:Nat):Qi:=if fin Ieee.double a then Sy a else Qi.zero
def Tv (p a:Nat):Prop:=a < 18446744073709551616 ∧ fin Ieee.double a = fin Ieee.single p ∧ vD a = vF p
theorem Qx {p a:Nat} (h:oJ .f32 .f64 p a):Tv p a:=by
 obtain ⟨h1,h2,_⟩:=Np h
 refine ⟨h1,h2,?_⟩
 unfold vD vF; rw [h2]
 split
 ·rename_i k; exact Ie h k
 ·rfl
theorem Sf {b:Nat} (h:oJ .f32 .f64 0 b):b = 0:=by
 unfold oJ at h
 rw [if_neg (by decide)] at h
 have e:FloatKind.f32.decode 0 = .number false 0 (-149):=by decide
 rw [e] at h; simp only at h
 have e2:FloatKind.f64.encode (.number false 0 (-149)) = 0:=by decide
 rw [e2] at h
 have e3:(FloatKind.f64.decode 0).isInfinity = false:=by decide
 rw [e3] at h; simpa using h
theorem Nl (a:Nat):kZ a < 2048:=Nat.mod_lt _ (by decide)
theorem Gr (a:Nat):qL a < 9007199254740992:=by unfold qL; split <;> omega
abbrev yH (a:Nat):Int:=oZ (decide (9223372036854775808 ≤ a)) (qL a)
theorem Ef (a:Nat):(dg (yH a).natAbs).length ≤ 2:=by
 rw [wB]; exact qY (by have:=Gr a; show _ < 4294967296 ^ 2; omega)
theorem wI:yH 0 = 0:=by decide
theorem Fv {a k : Nat} (ha : a < 18446744073709551616) (hk : k = max (kZ a) 1 - 1) (hf : fin Ieee.double a = true) :
  Qi.mk' (oZ (decide (yH a < 0)) ((yH a).natAbs * 2 ^ k)) (oZ (decide (yH 0 < 0)) ((yH 0).natAbs * 2 ^ 0)) (1 * 2 ^ Jc) = vD a:=by
 have h:=Ic ha hk
 have e1:=tA (yH a) (2 ^ k)
 rw [e1,wI,Nat.one_mul,← Ci]
 have e2:oZ (decide ((0:Int) < 0)) ((0:Int).natAbs * 2 ^ 0) = 0:=by decide
 rw [e2,h]; unfold vD; rw [hf]; rfl
@[irreducible] def wF:Nat:=2050
theorem Ge (m k:Nat) (h:m < BB ^ 2):(dg (m * 2 ^ k)).length ≤ k + 2:=by
 refine qY ?_
 have:2 ^ k ≤ BB ^ k:=Nat.pow_le_pow_left (by decide) k
 rw [Nat.add_comm,Nat.pow_add]
 exact Nat.mul_lt_mul_of_lt_of_le h this (Nat.pow_pos (by decide))
theorem Js {a:Nat}:aT Try.prog 86 [yE .f64 a] (aC (decide (Ieee.double.infRung < rg Ieee.double a))):=by
 refine aT.intro Try.func86 rfl Try.ntmps86 rfl (fun cx=>(ts (ro rfl (cQ cV) (eX (ts (rm rfl (rm rfl (ro rfl (Bt (Ht rfl) (Ht rfl) (fun x y hx hy=>by subst hx hy; exact Gw)) (ra rfl (eX ?_))))))))))
 exact fW rfl (eU rfl)
section
attribute [local irreducible] callFunc
theorem Ol {a:Nat} (ha:a < 18446744073709551616):aT Try.prog 92 [yE .f64 a] (yE .f64 (Ej a)):=by
 refine aT.intro Try.func92 rfl Try.ntmps92 rfl (fun cx=>(ts (ro rfl (cQ aI.cF) (eX (ts (rm rfl (ro rfl (uG Gg (Ht rfl)) (ro rfl (Hh (Ht rfl) ha) (ro rfl (tM Pe (Ht rfl)) (ra rfl (eX ?_)))))))))))
 exact fW rfl (eU rfl)
end
theorem Jr {a:Nat} (ha:a < 18446744073709551616):aT Try.prog 87 [yE .f64 a,NT .i64 0] (aC (decide (rg Ieee.double a = Ieee.double.infRung))):=by
 refine aT.intro Try.func87 rfl Try.ntmps87 rfl (fun cx=>(ts (ro rfl (cQ cV) (eX (cK (ts (rm rfl (ro rfl (fE (Ht rfl) (cJ 0)) (eX (Ag (Ht rfl) (by decide) (cY (rm rfl (ro rfl (cZ Try.call92 (Ol (by assumption)) ⟨(Ht rfl),trivial⟩) ?_)))))))))))))
 refine ra rfl (eX (ts (rm rfl (ro rfl (Bt (Ht rfl) aI.cF (fun x y hx hy=>by subst hx hy; exact Kz ha)) (ra rfl (eX ?_))))))
 exact fW rfl (eU rfl)
theorem Av {a:Nat} (ha:a < 18446744073709551616):aT Try.prog 78 [yE .f64 a] (aC (fin Ieee.double a)):=by
 refine aT.intro Try.func78 rfl Try.ntmps78 rfl (fun cx=>(ts (ro rfl (cQ cV) (eX (ts (rm rfl (ro rfl (cZ Try.call86 Js ⟨(Ht rfl),trivial⟩) (ro rfl (dL (Ht rfl)) (rm rfl (fQ rfl rfl (eK rfl rfl (Ht rfl) (fun h=>cX (Ht rfl))) (fQ rfl rfl (eK rfl rfl (Ht rfl) (fun h=>cZ Try.call87 (Jr (by assumption)) ⟨(fJ rfl h),(cJ 0),trivial⟩)) ?_)))))))))))
 refine fQ rfl rfl (eK rfl rfl (Ht rfl) (fun h=>dL (fJ rfl h))) (ro rfl (eO (Ht rfl) (fun h=>(fJ rfl h))) (ra rfl (eX (fW rfl (fX (eU rfl) ?_)))))
 exact (fL (Dc a))
section
attribute [local irreducible] callFunc
theorem Ay {a:Nat} (ha:a < 18446744073709551616):aT Try.prog 79 [yE .f64 a] (eM [eP (yH a),aE .i64 (max (kZ a:Int) 1 - 1075)]):=by
 have hex:=Nl a; have hma:=Gr a
 refine aT.intro Try.func79 rfl Try.ntmps79 rfl (fun cx=>(ts (rn rfl (eW (Ts:=[Is (.bool false),Is (.slice none 0 0)]) O_28 rfl (fun V=>aW zd (aW zd (aG)))) fun B2=>(ro rfl (cQ (cJ 0)) (eX (ts (rm rfl (ro rfl (uG Gg (Ht rfl)) (ra rfl (eX (ts (rm rfl (ro rfl (aB.nat (lT rfl (Ht rfl) (cJ 4503599627370495) z7 z7) (Rl a)) ?_)))))))))))))
 refine rm rfl (ro rfl (eA (Ht rfl) (cJ 52) (by decide)) (ro rfl (aB.nat (lT rfl (Ht rfl) (cJ 2047) z7 z7) ((Rk _).trans (Sj a))) (ro rfl (gZ U_79 U_3 (Ht rfl) z6) (ra rfl (ra rfl (eX (cK (iT (fun (uu:Unit)=>True) (fun (uu:Unit)=>[(2,eI B2 0),(4,NT .u64 a),(5,NT .u64 (qL a)),(6,NT .i64 (kZ a))]) (fun (uu:Unit)=>[box B2 28 [Is (.bool false),Is (.slice none 0 0)]]) ?_ (fun uu _=>?_)))))))))
 ·refine ts (rm rfl (ro rfl (gC (Ht rfl) (cJ 0)) (eX (dQ (Ht rfl) (fun hb => ?_) (fun hb => ?_)))))
  ·have hb2 : kZ a ≠ 0 := by simp only [decide_eq_true_eq] at hb; omega
   refine cY (rm rfl (ro rfl (aB.nat (oV rfl (Ht rfl) (cJ 4503599627370496) z7 z7) (Sw hb2)) (ra rfl (eX (aP () trivial (zS rfl) (aU (bD rfl) aY))))))
  ·have hb2 : kZ a = 0 := by simp only [decide_eq_false_iff_not] at hb; omega
   refine cU (aP () trivial (aQ rfl (aQ rfl (aZ rfl (kD (by rw [qL,if_pos hb2])) (zS rfl)))) (aU (bD rfl) aY))
 ·refine ts (rm rfl (ro rfl (eA (Ht rfl) (cJ 63) (by decide)) (ro rfl (aB.imp (fE (Ht rfl) (cJ 1)) (fL (b := decide (9223372036854775808 ≤ a)) (by rw [Bool.eq_iff_iff]; simp only [decide_eq_true_eq]; omega))) ?_)))
  refine rm rfl (ro rfl (cZ Try.call41 (rL (m:=qL a) zo) ⟨(Ht rfl),trivial⟩) (ro rfl (cZ K_42 gY ⟨(Ht rfl),(Ht rfl),trivial⟩) (rm rfl (ro rfl (Lv (Ht rfl) cV) (ro rfl (iE (Ht rfl) cV (wD zo)) (gQ Z_28 (Ht rfl) (Ht rfl) rfl (i:=0) rfl (aK rfl) rfl rfl (ra rfl (eX ?_))))))))
  exact bE rfl (fK A_28 Z_28 rfl (i:=0) rfl rfl) (eU rfl)
end
theorem Cv {a:Nat} (ha:a < 18446744073709551616):aT Try.prog 59 [Tp .f64 a 0] (eM [aF (vD a),aE .i64 (if fin Ieee.double a then 0 else 1)]):=by
 have hex:=Nl a; have hma:=Gr a
 have e0:kZ 0 = 0:=by decide
 have m0:qL 0 = 0:=by decide
 obtain ⟨k,hk⟩:∃ k,k = max (kZ a) 1 - 1:=⟨_,rfl⟩
 have hw:=Iy
 refine aT.intro Try.func59 rfl Try.ntmps59 rfl (fun cx=>(ts (rn rfl (eW (Ts:=[Is (.bool false),Is (.slice none 0 0),Is (.bool false),Is (.slice none 0 0),Is (.slice none 0 0)]) O_30 rfl (fun V=>aW zd (aW zd (aW zd (aW zd (aW zd (aG))))))) fun B2=>(ro rfl (cQ (cJ 0)) (eX (cK (ts (rm rfl (ro rfl (aB.imp (By (Ht rfl)) (pP (Q:=_) (fun _ h=>by obtain ⟨_,h1,h2⟩:=h; exact h1))) (ro rfl (cZ Try.call78 (Av (by assumption)) ⟨(Ht rfl),trivial⟩) ?_))))))))))
 refine ro rfl (dL (Ht rfl)) (rm rfl (fQ rfl rfl (eK rfl rfl (Ht rfl) (fun h=>cX (Ht rfl))) (fQ rfl rfl (eK rfl rfl (Ht rfl) (fun h=>aB.imp (Bu (fJ rfl h)) (pP (Q:=_) (fun _ h=>by obtain ⟨_,h1,h2⟩:=h; exact h2)))) (fQ rfl rfl (eK rfl rfl (Ht rfl) (fun h=>cZ Try.call78 (Av (a:=0) (by decide)) ⟨(fJ rfl h),trivial⟩)) (fQ rfl rfl (eK rfl rfl (Ht rfl) (fun h=>dL (fJ rfl h))) (ro rfl (gG (Ht rfl) (fun h=>(fJ rfl h))) (eX (dQ (Ht rfl) (fun hb=>?_) (fun hb=>?_)))))))))
 ·have hb2 : fin Ieee.double a = false := by
   have z:fin Ieee.double 0 = true:=by decide
   rw [z] at hb; simpa using hb
  refine ts (ro rfl (aB.imp (jL ) fD) (gQ Z_30 (Ht rfl) (Ht rfl) rfl (i:=0) rfl (aK rfl) rfl rfl (ro rfl (cQ (cJ 1)) (eX (bE rfl (fX (fK A_30 Z_30 rfl (i:=0) rfl rfl) ?_) (fX (eU rfl) ?_))))))
  ·exact (dP (by unfold vD; rw [hb2]; rfl))
  ·exact (aR (by rw [hb2]; rfl))
 ·have hb2 : fin Ieee.double a = true := by
   simp only [Bool.or_eq_false_iff,Bool.not_eq_false'] at hb; exact hb.1
  refine cU (ts (rm rfl (ro rfl (aB.imp (By (Ht rfl)) (pP (Q:=_) (fun _ h=>by obtain ⟨_,h1,h2⟩:=h; exact h1))) (ro rfl (cZ Try.call79 (Ay (a:=a) ha) ⟨(Ht rfl),trivial⟩) (rm rfl (ro rfl (dK (Ht rfl) rfl) (ro rfl (dK (Ht rfl) rfl) (rn rfl (eW (Ts:=[Is (.bool false),Is (.slice none 0 0)]) O_28 rfl (fun V=>aW zd (aW zd (aG)))) fun B4=>(gQ Z_28 (Ht rfl) (Ht rfl) rfl (i:=1) rfl (aK rfl) rfl rfl (ra rfl (eX (ts (rm rfl (ro rfl (aB.imp (Bu (Ht rfl)) (pP (Q:=_) (fun _ h=>by obtain ⟨_,h1,h2⟩:=h; exact h2))) ?_))))))))))))))
  refine ro rfl (cZ Try.call79 (Ay (a:=0) (by decide)) ⟨(Ht rfl),trivial⟩) (rm rfl (ro rfl (dK (Ht rfl) rfl) (ro rfl (dK (Ht rfl) rfl) (rn rfl (eW (Ts:=[Is (.bool false),Is (.slice none 0 0)]) O_28 rfl (fun V=>aW zd (aW zd (aG)))) fun B6=>(gQ Z_28 (Ht rfl) (Ht rfl) rfl (i:=2) rfl (aK rfl) rfl rfl (ra rfl (eX (ts (rm rfl (ro rfl (zL (Ht rfl) (wD zo)) (rm rfl (ro rfl (zL (Ht rfl) (wD zo)) (ro rfl (aB.imp (Lw cV (Ht rfl) (Ht rfl)) (aR (b:=((Jc:Nat):Int)) (by rw [e0,hw]; omega))) ?_)))))))))))))
  refine ra rfl (eX (cK ?_))
  have d1:=Ef a
  have d2:=Ef 0
  have d3:(dg ((yH a).natAbs * 2 ^ k)).length ≤ 2050:=Nat.le_trans (Ge _ _ (Nat.lt_of_lt_of_le (uC _) (Nat.pow_le_pow_right cD d1))) zo
  have d4:(dg (1 * 2 ^ Jc)).length ≤ 2050:=Nat.le_trans (Ge _ _ (by decide)) zo
  have hval:=Fv ha hk hb2
  refine fZ (m:=20) (dp 4 rfl (eZ gB (Ht rfl) rfl) (dq 37 0 rfl (eY A_4 Z_4 (Ht rfl) (i:=1) rfl rfl) (dp 4 rfl (eZ bR (Ht rfl) rfl) (dq 39 2 rfl (eY A_26 Z_26 (Ht rfl) (i:=1) rfl rfl) (dp 5 rfl (cX (Ht rfl)) (dp 8 rfl (cX (Ht rfl)) (fF 41 4 42 5 rfl (aB.imp (vT (Ht rfl) (Ht rfl) (wD zo)) (aR (b:=((k:Nat):Int)) zo)) (fF 40 3 43 6 rfl (cZ Try.call64 (wT (m:=(yH a).natAbs) (k:=k) zo zo) ⟨(Ht rfl),(Ht rfl),trivial⟩) (fF 38 1 44 7 rfl (cZ K_42 gY ⟨(Ht rfl),(Ht rfl),trivial⟩) ?_)))))))))
  refine dp 6 rfl (eZ gB (Ht rfl) rfl) (dq 46 9 rfl (eY A_4 Z_4 (Ht rfl) (i:=2) rfl rfl) (dp 6 rfl (eZ bR (Ht rfl) rfl) (dq 48 11 rfl (eY A_26 Z_26 (Ht rfl) (i:=2) rfl rfl) (dp 7 rfl (cX (Ht rfl)) (dp 8 rfl (cX (Ht rfl)) (fF 50 13 51 14 rfl (aB.imp (vT (Ht rfl) (Ht rfl) (wD zo)) (aR (b:=((0:Nat):Int)) (by rw [e0,hw]; omega))) ?_))))))
  refine fF 49 12 52 15 rfl (cZ Try.call64 (wT (m:=(yH 0).natAbs) (k:=0) zo zo) ⟨(Ht rfl),(Ht rfl),trivial⟩) (fF 47 10 53 16 rfl (cZ K_42 gY ⟨(Ht rfl),(Ht rfl),trivial⟩) (d0 rfl (aB.imp (dB (xs:=[_]) U_26 Z_55 O_55 (cW (cJ 1) cG) rfl rfl rfl) sV) (dp 8 rfl (cX (Ht rfl)) (fV bA rfl (by kernel_rfl) (zF (zF (zF (zF (zF (aV ?_))))))))))
  refine ro rfl (cZ Try.call64 (wT (m:=1) (k:=Jc) (by decide) zo) ⟨(Ht rfl),(Ht rfl),trivial⟩) (ro rfl (cZ K_26 (eQ (oP (A:=oZ (decide (yH a < 0)) ((yH a).natAbs * 2 ^ k)) (B:=oZ (decide (yH 0 < 0)) ((yH 0).natAbs * 2 ^ 0)) (D:=1 * 2 ^ Jc) (by rw [Nat.one_mul]; exact Nat.two_pow_pos _) (by rw [wB]; omega) (by rw [wI]; decide) zo) (dP hval)) ⟨(Ht rfl),(Ht rfl),(Ht rfl),trivial⟩) ?_)
  refine gQ Z_30 (Ht rfl) (Ht rfl) rfl (i:=0) rfl (aK rfl) rfl rfl (ro rfl (cQ (cJ 0)) (eX (bE rfl (fK A_30 Z_30 rfl (i:=0) rfl rfl) (fX (eU rfl) ?_))))
  exact (aR (by rw [hb2]; rfl))
theorem yP {p : Nat} : aT Try.prog 59 [Ea .f64 (fun a b => Tv p a ∧ b = 0)] (eM [aF (vF p), aE .i64 (if fin Ieee.single p then 0 else 1)]) := Kx fun a b h => by
 obtain ⟨h,hb⟩:=h
 subst hb
 have k:=Cv h.1
 rw [h.2.1,h.2.2] at k
 exact k
theorem wP {p:Nat}:aT Try.prog 40 [Tp .f32 p 0] (eM [aF (vF p),aE .i64 (if fin Ieee.single p then 0 else 1)]):=by
 refine aT.intro Try.func40 rfl Try.ntmps40 rfl (fun cx=>(ts (rn rfl (eW (Ts:=[Is (.bool false),Is (.slice none 0 0),Is (.bool false),Is (.slice none 0 0),Is (.slice none 0 0)]) O_30 rfl (fun V=>aW zd (aW zd (aW zd (aW zd (aW zd (aG))))))) fun B2=>(ro rfl (cQ (cJ 0)) (eX (ts (rm rfl (ro rfl (aB.imp (Hi Try.runUnderlying77 Try.runUnderlying93 (Ht rfl)) (Kl (R:=fun a b=>Tv p a ∧ b = 0) (fun a b h=>by obtain ⟨_,_,⟨rfl,rfl⟩,h1,h2⟩:=h; exact ⟨Qx h1,Sf h2⟩))) ?_))))))))
 refine ro rfl (cZ Try.call59 yP ⟨(Ht rfl),trivial⟩) (ro rfl (dK (Ht rfl) rfl) (ro rfl (dK (Ht rfl) rfl) (gQ Z_30 (Ht rfl) (Ht rfl) rfl (i:=0) rfl (aK rfl) rfl rfl (ra rfl (eX ?_)))))
 exact bE rfl (fK A_30 Z_30 rfl (i:=0) rfl rfl) (eU rfl)
theorem Aw {p:Nat}:aT Try.prog 13 [yE .f32 p] (eM [aF (vF p),aC (pw p)]):=by
 refine aT.intro Try.func13 rfl Try.ntmps13 rfl (fun cx=>(ts (rn rfl (eW (Ts:=[Is (.bool false),Is (.slice none 0 0),Is (.bool false),Is (.slice none 0 0),Is (.slice none 0 0)]) O_30 rfl (fun V=>aW zd (aW zd (aW zd (aW zd (aW zd (aG))))))) fun B2=>(ro rfl (cQ cV) (eX (ts (rm rfl (ro rfl (zI (Ht rfl) aI.cF) (ro rfl (cZ Try.call40 wP ⟨(Ht rfl),trivial⟩) (rm rfl (ro rfl (dK (Ht rfl) rfl) (ro rfl (dK (Ht rfl) rfl) ?_))))))))))))
 refine rn rfl (eW (Ts:=[Is (.bool false),Is (.slice none 0 0),Is (.bool false),Is (.slice none 0 0),Is (.slice none 0 0)]) O_30 rfl (fun V=>aW zd (aW zd (aW zd (aW zd (aW zd (aG))))))) fun B4=>gQ Z_30 (Ht rfl) (Ht rfl) rfl (i:=1) rfl (aK rfl) rfl rfl (ra rfl (eX (cK (W.D_start (m:=10) (fun b=>cond b ([box B2 30 [aC (decide ((vF p).a < 0)),aL (vF p).a.natAbs,aC (decide ((vF p).b < 0)),aL (vF p).b.natAbs,aL (du (vF p))],box B4 30 [aC (decide ((vF p).a < 0)),aL (vF p).a.natAbs,aC (decide ((vF p).b < 0)),aL (vF p).b.natAbs,aL (du (vF p))]]) _) 9 ?_))))
 refine W.D_step (Ei:=[(4,_)]) rfl rfl (W.Srcs.cons (W.Src.pre rfl rfl) W.Srcs.nil) rfl (by kernel_rfl) (dX rfl (eJ A_30 Z_30 (Ht rfl) (i:=1) rfl rfl rfl)) (W.D_step (Ei:=[(5,_)]) rfl rfl (W.Srcs.cons (W.Src.pre rfl rfl) W.Srcs.nil) rfl (by kernel_rfl) (dX rfl (cX (Ht rfl))) (W.D_step (Ei:=[(13,_)]) rfl rfl (W.Srcs.cons (W.Src.op 1 rfl rfl) W.Srcs.nil) rfl (by kernel_rfl) (dX rfl (iV (Ht rfl) cV)) (W.D_step (Ei:=[(14,_)]) rfl rfl (W.Srcs.cons (W.Src.op 2 rfl rfl) W.Srcs.nil) rfl (by kernel_rfl) (dX rfl (cX (Ht rfl))) (W.D_step (Ei:=[(4,_),(15,_)]) rfl rfl (W.Srcs.cons (W.Src.pre rfl rfl) (W.Srcs.cons (W.Src.op 3 rfl rfl) W.Srcs.nil)) rfl (by kernel_rfl) (eK rfl rfl (Ht rfl) (fun h=>eJ A_30 Z_30 (Ht rfl) (i:=1) rfl rfl rfl)) ?_))))
 refine W.D_step (Ei:=[(15,_)]) rfl rfl (W.Srcs.cons (W.Src.op 3 rfl rfl) W.Srcs.nil) rfl (by kernel_rfl) (eK rfl rfl (Ht rfl) (fun h=>cZ K_5 (jJ (n:=0) (by decide) (by decide)) ⟨(cJ 0),trivial⟩)) (W.D_step (Ei:=[(16,_),(17,_),(15,_)]) rfl rfl (W.Srcs.cons (W.Src.op 4 rfl rfl) (W.Srcs.cons (W.Src.op 5 rfl rfl) (W.Srcs.cons (W.Src.op 3 rfl rfl) W.Srcs.nil))) rfl (by kernel_rfl) (eK rfl rfl (Ht rfl) (fun h=>cZ K_15 (mG (x:=vF p) (y:=Qi.ofInt 0) (L:=9) (M:=1) (hx:=zX p) (hy:=(aH.zero (Nat.le_refl 1):aH (Qi.ofInt 0) 1)) zo) ⟨(fJ rfl h),(fJ rfl h),trivial⟩)) ?_)
 refine W.D_pure (Ei:=[(18,_),(15,_)]) rfl rfl (W.Srcs.cons (W.Src.op 6 rfl rfl) (W.Srcs.cons (W.Src.op 3 rfl rfl) W.Srcs.nil)) rfl (fun _=>eK rfl rfl (Ht rfl) (fun h=>qO (fJ rfl h) cV)) (W.D_pure (Ei:=[(15,_),(19,_)]) rfl rfl (W.Srcs.cons (W.Src.op 3 rfl rfl) (W.Srcs.cons (W.Src.op 7 rfl rfl) W.Srcs.nil)) rfl (fun _=>dX rfl (eO (Ht rfl) (fun h=>(fJ rfl h)))) (W.D_put (Ei:=[(2,_),(12,_)]) rfl rfl (W.Srcs.cons (W.Src.pre rfl rfl) (W.Srcs.cons (W.Src.op 0 rfl rfl) W.Srcs.nil)) rfl (tN Z_30 (Ht rfl) (Ht rfl) rfl (i:=0) rfl (aK rfl) rfl rfl) ?_))
 refine W.D_done bA rfl (by kernel_rfl) rfl (W.F_val (W.F_val (W.F_val (W.F_val (W.F_val (W.F_val (W.F_val (W.F_val (W.F_val (W.F_put (W.F_nil (ra rfl (eX (bE rfl (fK A_30 Z_30 rfl (i:=0) rfl rfl) (fX (eU rfl) ?_)))))))))))))))
 exact (fL (Tl p))
section
attribute [local irreducible] callFunc
end
end
section
open Go Go.RowKit
open Fl
theorem vL:aH (Qi.ofInt 1) 1:=⟨Qi.Fit.int (by decide) (by decide)⟩
theorem Uc:aH (Qi.ofInt 0) 1:=aH.zero (Nat.le_refl 1)
theorem Tm {p:Nat} (h:pw p = true):vF p = q32 p:=by unfold vF; rw [if_pos (Qh h)]
theorem tK {hot cold:Qi} {p q L:Nat} (hh:aH hot L) (hc:aH cold L) (hL1:1 ≤ L) (hL:L ≤ 1000000):aT Try.prog 4 [aF hot,aF cold,yE .f32 p,yE .f32 q] (eM [aF (oX hot cold p q).1,aE .i64 (oX hot cold p q).2]):=by
 haveI:=hh; haveI:=hc; haveI fp:=zX p; haveI fq:=zX q; haveI f1:=vL; haveI f0:=Uc
 refine aT.intro Try.func4 rfl Try.ntmps4 rfl (fun cx=>(ts (rn rfl (fG (Ht rfl)) fun B4=>(rn rfl (fG (Ht rfl)) fun B5=>(rn rfl (eW (Ts:=[Is (.bool false),Is (.slice none 0 0),Is (.bool false),Is (.slice none 0 0),Is (.slice none 0 0)]) O_30 rfl (fun V=>aW zd (aW zd (aW zd (aW zd (aW zd (aG))))))) fun B8=>(ro rfl (cQ (cJ 0)) (eX (ts (rm rfl (ro rfl (cZ Try.call13 Aw ⟨(Ht rfl),trivial⟩) (rm rfl (ro rfl (dK (Ht rfl) rfl) ?_))))))))))))
 refine ro rfl (dK (Ht rfl) rfl) (rn rfl (eW (Ts:=[Is (.bool false),Is (.slice none 0 0),Is (.bool false),Is (.slice none 0 0),Is (.slice none 0 0)]) O_30 rfl (fun V=>aW zd (aW zd (aW zd (aW zd (aW zd (aG))))))) fun B10=>(gQ Z_30 (Ht rfl) (Ht rfl) rfl (i:=3) rfl (aK rfl) rfl rfl (ra rfl (eX (ts (rm rfl (ro rfl (cZ Try.call13 Aw ⟨(Ht rfl),trivial⟩) (rm rfl (ro rfl (dK (Ht rfl) rfl) (ro rfl (dK (Ht rfl) rfl) ?_))))))))))
 refine rn rfl (eW (Ts:=[Is (.bool false),Is (.slice none 0 0),Is (.bool false),Is (.slice none 0 0),Is (.slice none 0 0)]) O_30 rfl (fun V=>aW zd (aW zd (aW zd (aW zd (aW zd (aG))))))) fun B12=>gQ Z_30 (Ht rfl) (Ht rfl) rfl (i:=4) rfl (aK rfl) rfl rfl (ra rfl (eX (cK (ts (ro rfl (eJ A_30 Z_30 (Ht rfl) (i:=0) rfl rfl rfl) (ro rfl (cZ Try.call14 (yX (x:=hot) (L:=L) zo) ⟨(Ht rfl),trivial⟩) ?_))))))
 refine ro rfl (dL (Ht rfl)) (rm rfl (fQ rfl rfl (eK rfl rfl (Ht rfl) (fun h=>eJ A_30 Z_30 (Ht rfl) (i:=1) rfl rfl rfl)) (fQ rfl rfl (eK rfl rfl (Ht rfl) (fun h=>cZ Try.call14 (yX (x:=cold) (L:=L) zo) ⟨(fJ rfl h),trivial⟩)) (fQ rfl rfl (eK rfl rfl (Ht rfl) (fun h=>dL (fJ rfl h))) (ro rfl (gG (Ht rfl) (fun h=>(fJ rfl h))) (rm rfl (fQ rfl rfl (eK rfl rfl (Ht rfl) (fun h=>cX (Ht rfl))) (fQ rfl rfl (eK rfl rfl (Ht rfl) (fun h=>dL (fJ rfl h))) (ro rfl (gG (Ht rfl) (fun h=>(fJ rfl h))) ?_)))))))))
 refine rm rfl (fQ rfl rfl (eK rfl rfl (Ht rfl) (fun h=>cX (Ht rfl))) (fQ rfl rfl (eK rfl rfl (Ht rfl) (fun h=>dL (fJ rfl h))) (ro rfl (gG (Ht rfl) (fun h=>(fJ rfl h))) (eX (dQ (Ht rfl) (fun hb=>?_) (fun hb=>?_))))))
 ·have he := Ih (hot := hot) (cold := cold) (p := p) (q := q) hb
  refine ts (ro rfl (aB.imp (jL ) fD) (gQ Z_30 (Ht rfl) (Ht rfl) rfl (i:=2) rfl (aK rfl) rfl rfl (ro rfl (cQ (cJ 1)) (eX (bE rfl (fX (fK A_30 Z_30 rfl (i:=2) rfl rfl) ?_) (fX (eU rfl) ?_))))))
  ·exact (dP (by first | (rw [he]; done) | (rw [he]; rfl)))
  ·exact (aR (by rw [he]; rfl))
 ·have hbn : ¬ (!fT hot || !fT cold || !pw p || !pw q) = true := by rw [hb]; decide
  have hb2:((fT hot = true ∧ fT cold = true) ∧ pw p = true) ∧ pw q = true:=by simpa only [Bool.or_eq_false_iff,Bool.not_eq_false'] using hb
  have vp:=Tm hb2.1.2
  have vq:=Tm hb2.2
  have rh:=rW hb2.1.1.1
  have rc:=rW hb2.1.1.2
  refine cU (cK (ts (ro rfl (eJ A_30 Z_30 (Ht rfl) (i:=0) rfl rfl rfl) (ro rfl (eJ A_30 Z_30 (Ht rfl) (i:=1) rfl rfl rfl) (ro rfl (cZ K_15 (mG (x:=hot) (y:=cold) (L:=L) (M:=L) zo) ⟨(Ht rfl),(Ht rfl),trivial⟩) (ro rfl (sX (Ht rfl) cV) (rm rfl (fQ rfl rfl (eK rfl rfl (Ht rfl) (fun h=>eJ A_30 Z_30 (Ht rfl) (i:=3) rfl rfl rfl)) (fQ rfl rfl (eK rfl rfl (Ht rfl) (fun h=>eJ A_30 Z_30 (Ht rfl) (i:=4) rfl rfl rfl)) (fQ rfl rfl (eK rfl rfl (Ht rfl) (fun h=>cZ K_15 (mG (x:=vF p) (y:=vF q) (L:=9) (M:=9) zo) ⟨(fJ rfl h),(fJ rfl h),trivial⟩)) ?_))))))))))
  refine fQ rfl rfl (eK rfl rfl (Ht rfl) (fun h=>sX (fJ rfl h) cV)) (ro rfl (gG (Ht rfl) (fun h=>(fJ rfl h))) (eX (dQ (Ht rfl) (fun hg=>?_) (fun hg=>?_))))
  ·have hg2 : (decide (lP hot cold ≤ 0) || decide (av Ieee.single p ≤ av Ieee.single q)) = true := by
    rw [jP rh.b rc.b,vp,vq] at hg
    rw [← hg]; congr 1; rw [decide_eq_decide]; exact Ca.symm
   have he:=Ii hbn hg2
   refine ts (ro rfl (aB.imp (jL ) fD) (gQ Z_30 (Ht rfl) (Ht rfl) rfl (i:=2) rfl (aK rfl) rfl rfl (ro rfl (cQ (cJ 7)) (eX (bE rfl (fX (fK A_30 Z_30 rfl (i:=2) rfl rfl) ?_) (fX (eU rfl) ?_))))))
   ·exact (dP (by first | (rw [he]; done) | (rw [he]; rfl)))
   ·exact (aR (by rw [he]; rfl))
  ·have hg2 : (decide (lP hot cold ≤ 0) || decide (av Ieee.single p ≤ av Ieee.single q)) = false := by
    rw [jP rh.b rc.b,vp,vq] at hg
    rw [← hg]; congr 1; rw [decide_eq_decide]; exact Ca.symm
   have hgn:¬ (decide (lP hot cold ≤ 0) || decide (av Ieee.single p ≤ av Ieee.single q)) = true:=by rw [hg2]; decide
   have ok:=Qk hbn hgn
   have htp:(hot - vF p / vF q * cold) / (vF p / vF q - Qi.ofInt 1) = (tR hot cold (q32 p) (q32 q)):=by rw [vp,vq]; exact ok.eq
   have gT:aH ((hot - vF p / vF q * cold) / (vF p / vF q - Qi.ofInt 1)) ((L + ((9 + 3 * 9 + 2) + L + 1) + 1) + 3 * ((9 + 3 * 9 + 2) + 1 + 1) + 2):=inferInstance
   rw [htp] at gT
   haveI:=gT
   refine cU (ts (ro rfl (eJ A_30 Z_30 (Ht rfl) (i:=3) rfl rfl rfl) (ro rfl (eJ A_30 Z_30 (Ht rfl) (i:=4) rfl rfl rfl) (ro rfl (cZ Try.call16 (vH (x:=vF p) (y:=vF q) (L:=9) (M:=9) zo) ⟨(Ht rfl),(Ht rfl),trivial⟩) (rn rfl (eW (Ts:=[Is (.bool false),Is (.slice none 0 0),Is (.bool false),Is (.slice none 0 0),Is (.slice none 0 0)]) O_30 rfl (fun V=>aW zd (aW zd (aW zd (aW zd (aW zd (aG))))))) fun B14=>?_)))))
   refine gQ Z_30 (Ht rfl) (Ht rfl) rfl (i:=5) rfl (aK rfl) rfl rfl (eX (cK (fZ (m:=10) (dp 4 rfl (eJ A_30 Z_30 (Ht rfl) (i:=0) rfl rfl rfl) (dp 14 rfl (eJ A_30 Z_30 (Ht rfl) (i:=5) rfl rfl rfl) (dp 5 rfl (eJ A_30 Z_30 (Ht rfl) (i:=1) rfl rfl rfl) (fF 58 1 59 2 rfl (cZ K_17 (mA (x:=vF p / vF q) (y:=cold) zo) ⟨(Ht rfl),(Ht rfl),trivial⟩) (fF 57 0 60 3 rfl (cZ K_8 (qW (x:=hot) (y:=vF p / vF q * cold) zo) ⟨(Ht rfl),(Ht rfl),trivial⟩) ?_))))))))
   refine dp 14 rfl (eJ A_30 Z_30 (Ht rfl) (i:=5) rfl rfl rfl) (d0 rfl (cZ K_5 (jJ (n:=1) (by decide) (by decide)) ⟨(cJ 1),trivial⟩) (fF 62 5 63 6 rfl (cZ K_8 (qW (x:=vF p / vF q) (y:=Qi.ofInt 1) zo) ⟨(Ht rfl),(Ht rfl),trivial⟩) (fF 61 4 64 7 rfl (cZ Try.call16 (eQ (vH (x:=hot - vF p / vF q * cold) (y:=vF p / vF q - Qi.ofInt 1) zo) (dP htp)) ⟨(Ht rfl),(Ht rfl),trivial⟩) (C.D_new (Ei:=[]) rfl rfl rfl bW (eW (Ts:=[Is (.bool false),Is (.slice none 0 0),Is (.bool false),Is (.slice none 0 0),Is (.slice none 0 0)]) O_30 rfl (fun V=>aW zd (aW zd (aW zd (aW zd (aW zd (aG))))))) ?_))))
   refine fV bA rfl (by kernel_rfl) (zF (zF (aJ (C.F_new (fun B15=>aV (gQ Z_30 (Ht rfl) (Ht rfl) rfl (i:=6) rfl (aK rfl) rfl rfl (eX (cK (cK (fZ (m:=2) (dp 15 rfl (eJ A_30 Z_30 (Ht rfl) (i:=6) rfl rfl rfl) (d0 rfl (cZ K_5 (jJ (n:=0) (by decide) (by decide)) ⟨(cJ 0),trivial⟩) (fV bA rfl (by kernel_rfl) (aJ (aJ (aV (ro rfl (cZ K_15 (mG (x:=(tR hot cold (q32 p) (q32 q))) (y:=Qi.ofInt 0) zo) ⟨(Ht rfl),(Ht rfl),trivial⟩) ?_)))))))))))))))))
   refine ro rfl (kW (Ht rfl) cV) (eX (dQ (Ht rfl) (fun hs=>?_) (fun hs=>?_)))
   ·have hs2 : (tR hot cold (q32 p) (q32 q)).re < 0 := (Se ok.real).1 (by simpa using hs)
    have he:=Dk hbn hgn hs2
    refine ts (ro rfl (aB.imp (jL ) fD) (gQ Z_30 (Ht rfl) (Ht rfl) rfl (i:=2) rfl (aK rfl) rfl rfl (ro rfl (cQ (cJ 5)) (eX (bE rfl (fX (fK A_30 Z_30 rfl (i:=2) rfl rfl) ?_) (fX (eU rfl) ?_))))))
    ·exact (dP (by first | (rw [he]; done) | (rw [he]; rfl)))
    ·exact (aR (by rw [he]; rfl))
   ·have hs2 : ¬ (tR hot cold (q32 p) (q32 q)).re < 0 := fun k => by have := (Se ok.real).2 k; simp [this] at hs
    have he:=Ce hbn hgn hs2
    refine cU (ts (ro rfl (eJ A_30 Z_30 (Ht rfl) (i:=6) rfl rfl rfl) (gQ Z_30 (Ht rfl) (Ht rfl) rfl (i:=2) rfl (aK rfl) rfl rfl (ro rfl (cQ (cJ 0)) (eX (bE rfl (fX (fK A_30 Z_30 rfl (i:=2) rfl rfl) ?_) (fX (eU rfl) ?_)))))))
    ·exact (dP (by rw [he]))
    ·exact (aR (by rw [he]; rfl))
theorem Jq {t r g:Qi} {L:Nat} (ht:aH t L) (hr:aH r L) (hg:aH g L) (hL1:1 ≤ L) (hL:L ≤ 1000000):aT Try.prog 11 [aF t,aF r,aF g] (eM [aF (rF t r g).1,aE .i64 (rF t r g).2]):=by
 haveI:=ht; haveI:=hr; haveI:=hg; haveI f1:=vL
 haveI gV:aH (oS t r g) (L + ((L + 1 + 1) + 3 * L + 2) + 1):=by unfold oS; infer_instance
 refine aT.intro Try.func11 rfl Try.ntmps11 rfl (fun cx=>(ts (rn rfl (fG (Ht rfl)) fun B3=>(rn rfl (fG (Ht rfl)) fun B4=>(rn rfl (fG (Ht rfl)) fun B5=>(rn rfl (eW (Ts:=[Is (.bool false),Is (.slice none 0 0),Is (.bool false),Is (.slice none 0 0),Is (.slice none 0 0)]) O_30 rfl (fun V=>aW zd (aW zd (aW zd (aW zd (aW zd (aG))))))) fun B6=>(ro rfl (cQ (cJ 0)) (eX (ts (ro rfl (cZ K_5 (jJ (n:=1) (by decide) (by decide)) ⟨(cJ 1),trivial⟩) ?_))))))))))
 refine rn rfl (eW (Ts:=[Is (.bool false),Is (.slice none 0 0),Is (.bool false),Is (.slice none 0 0),Is (.slice none 0 0)]) O_30 rfl (fun V=>aW zd (aW zd (aW zd (aW zd (aW zd (aG))))))) fun B8=>gQ Z_30 (Ht rfl) (Ht rfl) rfl (i:=4) rfl (aK rfl) rfl rfl (eX (cK (ts (ro rfl (eJ A_30 Z_30 (Ht rfl) (i:=0) rfl rfl rfl) (ro rfl (cZ K_38 oO ⟨(Ht rfl),trivial⟩) (ro rfl (dL (Ht rfl)) ?_))))))
 refine rm rfl (fQ rfl rfl (eK rfl rfl (Ht rfl) (fun h=>eJ A_30 Z_30 (Ht rfl) (i:=1) rfl rfl rfl)) (fQ rfl rfl (eK rfl rfl (Ht rfl) (fun h=>cZ K_38 oO ⟨(fJ rfl h),trivial⟩)) (fQ rfl rfl (eK rfl rfl (Ht rfl) (fun h=>dL (fJ rfl h))) (ro rfl (gG (Ht rfl) (fun h=>(fJ rfl h))) (rm rfl (fQ rfl rfl (eK rfl rfl (Ht rfl) (fun h=>eJ A_30 Z_30 (Ht rfl) (i:=2) rfl rfl rfl)) (fQ rfl rfl (eK rfl rfl (Ht rfl) (fun h=>cZ Try.call39 (Ju (x:=g) (L:=L) zo) ⟨(fJ rfl h),trivial⟩)) ?_)))))))
 refine fQ rfl rfl (eK rfl rfl (Ht rfl) (fun h=>dL (fJ rfl h))) (ro rfl (gG (Ht rfl) (fun h=>(fJ rfl h))) (rm rfl (fQ rfl rfl (eK rfl rfl (Ht rfl) (fun h=>eJ A_30 Z_30 (Ht rfl) (i:=0) rfl rfl rfl)) (fQ rfl rfl (eK rfl rfl (Ht rfl) (fun h=>eJ A_30 Z_30 (Ht rfl) (i:=4) rfl rfl rfl)) (fQ rfl rfl (eK rfl rfl (Ht rfl) (fun h=>cZ K_15 (mG (x:=t) (y:=Qi.ofInt 1) (L:=L) (M:=1) zo) ⟨(fJ rfl h),(fJ rfl h),trivial⟩)) (fQ rfl rfl (eK rfl rfl (Ht rfl) (fun h=>kW (fJ rfl h) cV)) ?_))))))
 refine ro rfl (gG (Ht rfl) (fun h=>(fJ rfl h))) (rm rfl (fQ rfl rfl (eK rfl rfl (Ht rfl) (fun h=>eJ A_30 Z_30 (Ht rfl) (i:=1) rfl rfl rfl)) (fQ rfl rfl (eK rfl rfl (Ht rfl) (fun h=>eJ A_30 Z_30 (Ht rfl) (i:=4) rfl rfl rfl)) (fQ rfl rfl (eK rfl rfl (Ht rfl) (fun h=>cZ K_15 (mG (x:=r) (y:=Qi.ofInt 1) (L:=L) (M:=1) zo) ⟨(fJ rfl h),(fJ rfl h),trivial⟩)) (fQ rfl rfl (eK rfl rfl (Ht rfl) (fun h=>kW (fJ rfl h) cV)) (ro rfl (gG (Ht rfl) (fun h=>(fJ rfl h))) ?_))))))
 refine eX (dQ (Ht rfl) (fun hb=>?_) (fun hb=>?_))
 ·have hb2 : sM t r g = false := by rw [Gk] at hb; simpa using hb
  have he:=Kv hb2
  refine ts (ro rfl (aB.imp (jL ) fD) (gQ Z_30 (Ht rfl) (Ht rfl) rfl (i:=3) rfl (aK rfl) rfl rfl (ro rfl (cQ (cJ 1)) (eX (bE rfl (fX (fK A_30 Z_30 rfl (i:=3) rfl rfl) ?_) (fX (eU rfl) ?_))))))
  ·exact (dP (by first | (rw [he]; done) | (rw [he]; rfl)))
  ·exact (aR (by rw [he]; rfl))
 ·have hb2 : sM t r g = true := by rw [Gk] at hb; simpa using hb
  have rv:=Ku hb2
  refine cU (cK (fZ (m:=8) (dp 3 rfl (eJ A_30 Z_30 (Ht rfl) (i:=0) rfl rfl rfl) (dp 4 rfl (eJ A_30 Z_30 (Ht rfl) (i:=1) rfl rfl rfl) (dp 8 rfl (eJ A_30 Z_30 (Ht rfl) (i:=4) rfl rfl rfl) (fF 38 1 39 2 rfl (cZ K_8 (qW (x:=r) (y:=Qi.ofInt 1) (L:=L) (M:=1) zo) ⟨(Ht rfl),(Ht rfl),trivial⟩) (dp 5 rfl (eJ A_30 Z_30 (Ht rfl) (i:=2) rfl rfl rfl) (fF 40 3 41 4 rfl (cZ Try.call16 (vH (x:=r - Qi.ofInt 1) (y:=g) zo) ⟨(Ht rfl),(Ht rfl),trivial⟩) ?_))))))))
  refine fF 37 0 42 5 rfl (cZ K_8 (qW (x:=t) (y:=(r - Qi.ofInt 1) / g) zo) ⟨(Ht rfl),(Ht rfl),trivial⟩) (C.D_new (Ei:=[]) rfl rfl rfl bW (eW (Ts:=[Is (.bool false),Is (.slice none 0 0),Is (.bool false),Is (.slice none 0 0),Is (.slice none 0 0)]) O_30 rfl (fun V=>aW zd (aW zd (aW zd (aW zd (aW zd (aG))))))) (fV bA rfl (by kernel_rfl) (zF (aJ (aJ (aJ (C.F_new (fun B9=>aV ?_))))))))
  refine gQ Z_30 (Ht rfl) (Ht rfl) rfl (i:=5) rfl (aK rfl) rfl rfl (eX (cK (ts (ro rfl (eJ A_30 Z_30 (Ht rfl) (i:=5) rfl rfl rfl) (ro rfl (eJ A_30 Z_30 (Ht rfl) (i:=4) rfl rfl rfl) (ro rfl (cZ K_15 (mG (x:=oS t r g) (y:=Qi.ofInt 1) zo) ⟨(Ht rfl),(Ht rfl),trivial⟩) (ro rfl (kW (Ht rfl) cV) (eX (dQ (Ht rfl) (fun hs=>?_) (fun hs=>?_))))))))))
  ·have hs2 : (oS t r g).re < 1 := (Kd rv).1 (by simpa using hs)
   have he:=Gn hb2 hs2
   refine ts (ro rfl (aB.imp (jL ) fD) (gQ Z_30 (Ht rfl) (Ht rfl) rfl (i:=3) rfl (aK rfl) rfl rfl (ro rfl (cQ (cJ 5)) (eX (bE rfl (fX (fK A_30 Z_30 rfl (i:=3) rfl rfl) ?_) (fX (eU rfl) ?_))))))
   ·exact (dP (by first | (rw [he]; done) | (rw [he]; rfl)))
   ·exact (aR (by rw [he]; rfl))
  ·have hs2 : ¬ (oS t r g).re < 1 := fun k => by have := (Kd rv).2 k; simp [this] at hs
   have he:=Pf hb2 hs2
   refine cU (ts (ro rfl (eJ A_30 Z_30 (Ht rfl) (i:=5) rfl rfl rfl) (gQ Z_30 (Ht rfl) (Ht rfl) rfl (i:=3) rfl (aK rfl) rfl rfl (ro rfl (cQ (cJ 0)) (eX (bE rfl (fX (fK A_30 Z_30 rfl (i:=3) rfl rfl) ?_) (fX (eU rfl) ?_)))))))
   ·exact (dP (by rw [he]; rfl))
   ·exact (aR (by rw [he]; rfl))
end
section
open Go Go.RowKit
open Fl
theorem Mp {Ts Us:List Ty} (h:Ts = Us):∀ v V,(eM Ts).p v V → (eM Us).p v V:=fun v V k=>h ▸ k
theorem Gx (n:Nat):FloatKind.f32.nearest ((n:Nat):Int) = Ieee.single.nearest false n 0:=by
 show Ieee.single.nearest (decide ((n:Int) < 0)) (n:Int).natAbs 0 = _
 rw [decide_eq_false zo,Int.natAbs_natCast]
theorem Bg {n m:Nat} (h:n = m):∀ v V,(yE .f32 (FloatKind.f32.nearest ((n:Nat):Int))).p v V → (yE .f32 (Ieee.single.nearest false m 0)).p v V:=pP fun _ e=>by rw [e,Gx,h]
theorem vM {n:Nat} (h:n < 4294967296):aH (Qi.ofInt (n:Int)) 1:=⟨Qi.Fit.int (by decide) (by show (n:Int).natAbs < _; rw [Int.natAbs_natCast]; exact h)⟩
theorem Sk (t r g:Qi):(rF t r g).2 = 0 ∨ (rF t r g).2 = 1 ∨ (rF t r g).2 = 5:=by
 unfold rF; split
 ·split
  ·exact .inr (.inr rfl)
  ·exact .inl rfl
 ·exact .inr (.inl rfl)
theorem Gl {t r g x:Qi} (ht:t = x + (r - Qi.ofInt 1) / g) (h:(rF t r g).2 = 0):(rF t r g).1 = x:=by
 unfold rF at h ⊢; split
 ·rename_i k; rw [if_pos k] at h
  split
  ·rename_i k2; rw [if_pos k2] at h; exact absurd h (by decide)
  ·show oS t r g = x
   unfold oS; rw [ht]; exact Qi.ext' (by rw [Qi.sub_re,Qi.add_re]; grind) (by rw [Qi.sub_im,Qi.add_im]; grind)
 ·rename_i k; rw [if_neg k] at h; exact absurd h (by decide)
theorem Gm {t r g:Qi} {L:Nat} (h:aH t L) (k:aH r L) (m:aH g L) (hL:1 ≤ L):aH (rF t r g).1 (5 * L + 10):=by
 haveI:=vL
 unfold rF; split
 ·split
  ·exact aH.zero zo
  ·have gV : aH (oS t r g) (L + ((L + 1 + 1) + 3 * L + 2) + 1) := by unfold oS; infer_instance
   exact gV.le zo
 ·exact aH.zero zo
theorem oI {hot c tin mul:Nat} {f r g:Rt} (h1:hot < 65536) (h2:c < 65536) (h3:tin < 65536) (h4:mul < 65536):aT Try.prog 3 [NT .u16 hot,NT .u16 c,NT .u16 tin,NT .u16 mul,Cr f,Cr r,Cr g] (aC true):=by
 have f1:aH f.q 2:=inferInstance
 have f2:aH r.q 2:=inferInstance
 have f3:aH g.q 2:=inferInstance
 haveI fo:=vL
 obtain ⟨h,hh⟩:∃ h,h = hot + c + 1:=⟨_,rfl⟩
 obtain ⟨q,hq⟩:∃ q,q = 1 + mul % 64:=⟨_,rfl⟩
 obtain ⟨o,ho⟩:∃ o,o = tin % 1024:=⟨_,rfl⟩
 have b1:(h + o) * q ≤ 200000 * 64:=Nat.mul_le_mul zo zo
 have b2:(c + o) * q ≤ 200000 * 64:=Nat.mul_le_mul zo zo
 refine aT.intro Try.func3 rfl Try.ntmps3 rfl (fun cx=>(ts (rn rfl (fG (Ht rfl)) fun B11=>(rn rfl (fG (Ht rfl)) fun B12=>(rn rfl (fG (Ht rfl)) fun B13=>(ro rfl (cQ cV) (eX (ts (rm rfl (ro rfl (gZ U_22 U_2 (Ht rfl) z6) (rm rfl (ro rfl (gZ U_22 U_2 (Ht rfl) z6) (ro rfl (dV (Ht rfl) (Ht rfl) z6) ?_)))))))))))))
 refine ro rfl (aB.nat (dV (Ht rfl) (cJ 1) z6) hh.symm) (rm rfl (ro rfl (gZ U_22 U_2 (Ht rfl) z6) (rm rfl (ro rfl (gZ U_22 U_2 (Ht rfl) z6) (ro rfl (lW (Ht rfl) (cJ 64) zo) (ro rfl (aB.nat (dV (cJ 1) (Ht rfl) z6) hq.symm) ?_))))))
 refine ra rfl (ra rfl (ra rfl (eX (ts (rm rfl (ro rfl (gZ U_22 U_2 (Ht rfl) z6) (ro rfl (aB.nat (lW (Ht rfl) (cJ 1024) zo) ho.symm) (ra rfl (eX (cK (iT (fun (uu:Unit)=>True) (fun (uu:Unit)=>[(11,eI B11 0),(12,eI B12 0),(13,eI B13 0)]) (fun (uu:Unit)=>[box B11 24 [aE .i64 f.re,aE .i64 f.im,aE .i64 f.den],box B12 24 [aE .i64 r.re,aE .i64 r.im,aE .i64 r.den],box B13 24 [aE .i64 g.re,aE .i64 g.im,aE .i64 g.den]]) ?_ (fun uu _=>?_))))))))))))
 ·refine ts (rm rfl (rm rfl (ro rfl (dV (Ht rfl) (Ht rfl) z6) (rm rfl (ro rfl (iO (Ht rfl) (Ht rfl) z6) (ro rfl (gX (Ht rfl) (cJ 16777216)) (rm rfl (fQ rfl rfl (eK rfl rfl (Ht rfl) (fun h => cX (Ht rfl))) (fQ rfl rfl (eK rfl rfl (Ht rfl) (fun h => cX (Ht rfl))) (fQ rfl rfl (eK rfl rfl (Ht rfl) (fun h => dV (fJ rfl h) (fJ rfl h) (by show _ < 9223372036854775808; first | omega | (simp at h; omega)))) ?_))))))))))
  refine fQ rfl rfl (eK rfl rfl (Ht rfl) (fun h=>gC (fJ rfl h) (cJ 0))) (ro rfl (eO (Ht rfl) (fun h=>(fJ rfl h))) (eX (dQ (Ht rfl) (fun hb=>?_) (fun hb=>?_))))
  ·have hb2 : (h + o) * q < 16777216 ∧ 0 < c + o := by simpa only [Bool.and_eq_true, decide_eq_true_eq] using hb
   have hrb:=Ig (h:=h) (c:=c) (o:=o) (g:=q) zo zo hb2.2 hb2.1
   haveI i1:=vM (n:=h) zo
   haveI i2:=vM (n:=c) zo
   haveI i3:=vM (n:=o) zo
   refine ts (rm rfl (ro rfl (cZ K_5 (jJ (n:=((h:Nat):Int)) zo zo) ⟨(Ht rfl),trivial⟩) (rm rfl (ro rfl (cZ K_5 (jJ (n:=((c:Nat):Int)) zo zo) ⟨(Ht rfl),trivial⟩) (rm rfl (rm rfl (ro rfl (dV (Ht rfl) (Ht rfl) z6) (rm rfl (ro rfl (iO (Ht rfl) (Ht rfl) z6) (ro rfl (aB.imp (uH U_2 Try.runUnderlying35 (Ht rfl)) (Bg rfl)) (rm rfl (rm rfl ?_))))))))))))
   refine ro rfl (dV (Ht rfl) (Ht rfl) z6) (rm rfl (ro rfl (iO (Ht rfl) (Ht rfl) z6) (ro rfl (aB.imp (uH U_2 Try.runUnderlying35 (Ht rfl)) (Bg rfl)) (ro rfl (cZ Try.call4 (eQ (tK (hot:=Qi.ofInt (h:Int)) (cold:=Qi.ofInt (c:Int)) (p:=Ieee.single.nearest false ((h + o) * q) 0) (q:=Ieee.single.nearest false ((c + o) * q) 0) (L:=1) i1 i2 (by decide) (by decide)) (Mp (Us:=[aF (Qi.ofInt (o:Int)),aE .i64 0]) (by rw [hrb]))) ⟨(Ht rfl),(Ht rfl),(Ht rfl),(Ht rfl),trivial⟩) ?_))))
   refine rm rfl (ro rfl (dK (Ht rfl) rfl) (ro rfl (dK (Ht rfl) rfl) (rn rfl (eW (Ts:=[Is (.bool false),Is (.slice none 0 0),Is (.bool false),Is (.slice none 0 0),Is (.slice none 0 0)]) O_30 rfl (fun V=>aW zd (aW zd (aW zd (aW zd (aW zd (aG))))))) fun B19=>(gQ Z_30 (Ht rfl) (Ht rfl) rfl (i:=3) rfl (aK rfl) rfl rfl (ra rfl (eX (cK (fZ (m:=6) (dp 20 rfl (cX (Ht rfl)) (dq 74 0 rfl (oU (Ht rfl) cV) ?_))))))))))
   refine dq 75 1 rfl (cX (Ht rfl)) (C.D_step (Ei:=[(19,_),(76,_)]) rfl rfl (bV (bK rfl rfl) (bV (bG 2 rfl rfl) bW)) (eK rfl rfl (Ht rfl) (fun h=>eJ A_30 Z_30 (Ht rfl) (i:=3) rfl rfl rfl)) (C.D_step (Ei:=[(18,_),(76,_)]) rfl rfl (bV (bK rfl rfl) (bV (bG 2 rfl rfl) bW)) (eK rfl rfl (Ht rfl) (fun h=>cX (Ht rfl))) (C.D_step (Ei:=[(78,_),(76,_)]) rfl rfl (bV (bG 4 rfl rfl) (bV (bG 2 rfl rfl) bW)) (eK rfl rfl (Ht rfl) (fun h=>cZ K_5 (jJ (n:=((o:Nat):Int)) zo zo) ⟨(fJ rfl h),trivial⟩)) ?_)))
   refine fV bA rfl (by kernel_rfl) (zF (aJ (aJ (aV (fQ rfl rfl (eK rfl rfl (Ht rfl) (fun h=>cZ Try.call6 (Fb (x:=Qi.ofInt (o:Int)) (y:=Qi.ofInt (o:Int)) (L:=1) (M:=1) (by decide) (by decide)) ⟨(fJ rfl h),(fJ rfl h),trivial⟩)) (fQ rfl rfl (eK rfl rfl (Ht rfl) (fun h=>dL (fJ rfl h))) (ro rfl (gG (Ht rfl) (fun h=>(fJ rfl h))) (eX (uW (Ht rfl) (by simp) ?_)))))))))
   refine cU (iD [0,1,2] rfl (by decide) (aP () trivial (zS rfl) (dE.refl _)))
  ·refine cU (iD [0,1,2] rfl (by decide) (aP () trivial (zS rfl) (dE.refl _)))
 ·refine cK (fZ (m := 9) (dp 11 rfl (eJ A_24 Z_24 (Ht rfl) (i := 0) rfl rfl rfl) (dq 83 0 rfl (cZ Try.call7 (rK (r := f)) ⟨(Ht rfl), trivial⟩) ?_)))
  refine dp 12 rfl (eJ A_24 Z_24 (Ht rfl) (i:=1) rfl rfl rfl) (dq 85 2 rfl (cZ Try.call7 (rK (r:=r)) ⟨(Ht rfl),trivial⟩) ?_)
  refine dp 13 rfl (eJ A_24 Z_24 (Ht rfl) (i:=2) rfl rfl rfl) (dq 87 4 rfl (cZ Try.call7 (rK (r:=g)) ⟨(Ht rfl),trivial⟩) ?_)
  refine C.D_new (Ei:=[]) rfl rfl rfl bW (eW (Ts:=[Is (.bool false),Is (.slice none 0 0),Is (.bool false),Is (.slice none 0 0),Is (.slice none 0 0)]) O_30 rfl (fun V=>aW zd (aW zd (aW zd (aW zd (aW zd (aG))))))) (C.D_new (Ei:=[]) rfl rfl rfl bW (eW (Ts:=[Is (.bool false),Is (.slice none 0 0),Is (.bool false),Is (.slice none 0 0),Is (.slice none 0 0)]) O_30 rfl (fun V=>aW zd (aW zd (aW zd (aW zd (aW zd (aG))))))) ?_)
  refine C.D_new (Ei:=[]) rfl rfl rfl bW (eW (Ts:=[Is (.bool false),Is (.slice none 0 0),Is (.bool false),Is (.slice none 0 0),Is (.slice none 0 0)]) O_30 rfl (fun V=>aW zd (aW zd (aW zd (aW zd (aW zd (aG))))))) (fV bA rfl (by kernel_rfl) (zF (aJ (aJ (C.F_new (fun B21=>C.F_new (fun B22=>C.F_new (fun B23=>aV (gQ Z_30 (Ht rfl) (Ht rfl) rfl (i:=3) rfl (aK rfl) rfl rfl ?_)))))))))
  refine gQ Z_30 (Ht rfl) (Ht rfl) rfl (i:=4) rfl (aK rfl) rfl rfl (gQ Z_30 (Ht rfl) (Ht rfl) rfl (i:=5) rfl (aK rfl) rfl rfl (eX (cK (Y.D_start (m:=10) [] (bY (Ei:=[(22,_)]) rfl rfl (bQ (bJ rfl rfl) bX) rfl rfl (dX rfl (eJ A_30 Z_30 (Ht rfl) (i:=4) rfl rfl rfl)) (bY (Ei:=[]) rfl rfl bX rfl rfl (dX rfl (cZ K_5 (jJ (n:=1) (by decide) (by decide)) ⟨(cJ 1),trivial⟩)) (bY (Ei:=[(90,_),(91,_)]) rfl rfl (bQ (bZ 0 rfl rfl) (bQ (bZ 1 rfl rfl) bX)) rfl rfl (dX rfl (cZ K_8 (qW (x:=r.q) (y:=Qi.ofInt 1) (L:=2) (M:=1) (by decide)) ⟨(Ht rfl),(Ht rfl),trivial⟩)) ?_)))))))
  refine bY (Ei:=[(23,_)]) rfl rfl (bQ (bJ rfl rfl) bX) rfl rfl (dX rfl (eJ A_30 Z_30 (Ht rfl) (i:=5) rfl rfl rfl)) (bY (Ei:=[(92,_),(93,_)]) rfl rfl (bQ (bZ 2 rfl rfl) (bQ (bZ 3 rfl rfl) bX)) rfl rfl (dX rfl (cZ Try.call9 (Ey (x:=r.q - Qi.ofInt 1) (y:=g.q) (L:=2 + 1 + 1) (M:=2) (by decide)) ⟨(Ht rfl),(Ht rfl),trivial⟩)) (bY (Ei:=[(94,_)]) rfl rfl (bQ (bZ 4 rfl rfl) bX) rfl rfl (dX rfl (cX (Ht rfl))) (bY (Ei:=[(89,_)]) rfl rfl (bQ (bZ 5 rfl rfl) bX) rfl rfl (dX rfl (dK (Ht rfl) rfl)) ?_)))
  refine bY (Ei:=[(89,_)]) rfl rfl (bQ (bZ 5 rfl rfl) bX) rfl rfl (dX rfl (dK (Ht rfl) rfl)) (Y.D_newp (Ei:=[]) (fun bb=>box bb 30 [aC (decide (((r.q - Qi.ofInt 1) / g.q).a < 0)),aL ((r.q - Qi.ofInt 1) / g.q).a.natAbs,aC (decide (((r.q - Qi.ofInt 1) / g.q).b < 0)),aL ((r.q - Qi.ofInt 1) / g.q).b.natAbs,aL (du ((r.q - Qi.ofInt 1) / g.q))]) 9 rfl rfl rfl bX rfl rfl (by kernel_rfl) (eW (Ts:=[Is (.bool false),Is (.slice none 0 0),Is (.bool false),Is (.slice none 0 0),Is (.slice none 0 0)]) O_30 rfl (fun V=>aW zd (aW zd (aW zd (aW zd (aW zd (aG))))))) ?_)
  refine Y.D_putN (Ei:=[(95,_)]) 8 rfl rfl rfl rfl rfl rfl (bQ (bZ 6 rfl rfl) bX) (fun bb=>tN Z_30 (Ht rfl) (Ht rfl) rfl (i:=0) rfl (aK rfl) rfl rfl) (Y.D_done bA rfl (by kernel_rfl) rfl (by simp [Y.okP]) rfl rfl (bU (bU (bU (bU (bU (bU (bU (bU (Y.F_newp (fun B24=>Y.F_putN (Y.F_nil ?_))))))))))))
  refine ra rfl (eX (cK (ts (rm rfl (ro rfl (oU (Ht rfl) cV) (eX (dQ (Ht rfl) (fun hc=>?_) (fun hc=>?_))))))))
  ·refine ts (ro rfl (cZ Try.call10 vC trivial) (ra rfl (eX ?_)))
   exact fW rfl (eU rfl)
  ·obtain ⟨x, hx⟩ : ∃ x, x = f.q + (r.q - Qi.ofInt 1) / g.q := ⟨_, rfl⟩
   have gx:aH (f.q + (r.q - Qi.ofInt 1) / g.q) (2 + ((2 + 1 + 1) + 3 * 2 + 2) + 1):=inferInstance
   rw [← hx] at gx
   have gF:=Gm (t:=x) gx (f2.le (by decide)) (f3.le (by decide)) (by decide)
   have hfe:=Sk x r.q g.q
   refine cU (cK (Y.D_start (m:=11) [] (bY (Ei:=[(21,_)]) rfl rfl (bQ (bJ rfl rfl) bX) rfl rfl (dX rfl (eJ A_30 Z_30 (Ht rfl) (i:=3) rfl rfl rfl)) (bY (Ei:=[(24,_)]) rfl rfl (bQ (bJ rfl rfl) bX) rfl rfl (dX rfl (eJ A_30 Z_30 (Ht rfl) (i:=6) rfl rfl rfl)) (bY (Ei:=[(101,_),(102,_)]) rfl rfl (bQ (bZ 0 rfl rfl) (bQ (bZ 1 rfl rfl) bX)) rfl rfl (dX rfl (cZ Try.call12 (eQ (Ar (x:=f.q) (y:=(r.q - Qi.ofInt 1) / g.q) (L:=2) (M:=(2 + 1 + 1) + 3 * 2 + 2) (by decide)) (dP hx.symm)) ⟨(Ht rfl),(Ht rfl),trivial⟩)) ?_)))))
   refine bY (Ei:=[(22,_)]) rfl rfl (bQ (bJ rfl rfl) bX) rfl rfl (dX rfl (eJ A_30 Z_30 (Ht rfl) (i:=4) rfl rfl rfl)) (bY (Ei:=[(23,_)]) rfl rfl (bQ (bJ rfl rfl) bX) rfl rfl (dX rfl (eJ A_30 Z_30 (Ht rfl) (i:=5) rfl rfl rfl)) (bY (Ei:=[(103,_),(104,_),(105,_)]) rfl rfl (bQ (bZ 2 rfl rfl) (bQ (bZ 3 rfl rfl) (bQ (bZ 4 rfl rfl) bX))) rfl rfl (dX rfl (cZ Try.call11 (Jq (t:=x) (r:=r.q) (g:=g.q) (L:=2 + ((2 + 1 + 1) + 3 * 2 + 2) + 1) gx (f2.le (by decide)) (f3.le (by decide)) (by decide) (by decide)) ⟨(Ht rfl),(Ht rfl),(Ht rfl),trivial⟩)) ?_))
   refine bY (Ei:=[(106,_)]) rfl rfl (bQ (bZ 5 rfl rfl) bX) rfl rfl (dX rfl (cX (Ht rfl))) (bY (Ei:=[(100,_)]) rfl rfl (bQ (bZ 6 rfl rfl) bX) rfl rfl (dX rfl (dK (Ht rfl) rfl)) (bY (Ei:=[(100,_)]) rfl rfl (bQ (bZ 6 rfl rfl) bX) rfl rfl (dX rfl (dK (Ht rfl) rfl)) (Y.D_newp (Ei:=[]) (fun bb=>box bb 30 [aC (decide ((rF x r.q g.q).1.a < 0)),aL (rF x r.q g.q).1.a.natAbs,aC (decide ((rF x r.q g.q).1.b < 0)),aL (rF x r.q g.q).1.b.natAbs,aL (du (rF x r.q g.q).1)]) 10 rfl rfl rfl bX rfl rfl (by kernel_rfl) (eW (Ts:=[Is (.bool false),Is (.slice none 0 0),Is (.bool false),Is (.slice none 0 0),Is (.slice none 0 0)]) O_30 rfl (fun V=>aW zd (aW zd (aW zd (aW zd (aW zd (aG))))))) ?_)))
   refine Y.D_putN (Ei:=[(107,_)]) 9 rfl rfl rfl rfl rfl rfl (bQ (bZ 7 rfl rfl) bX) (fun bb=>tN Z_30 (Ht rfl) (Ht rfl) rfl (i:=0) rfl (aK rfl) rfl rfl) (Y.D_done bA rfl (by kernel_rfl) rfl (by simp [Y.okP]) rfl rfl (bU (bU (bU (bU (bU (bU (bU (bU (bU (Y.F_newp (fun B26=>Y.F_putN (Y.F_nil ?_)))))))))))))
   refine ra rfl (eX (cK (ts (rm rfl (ro rfl (oU (Ht rfl) cV) (eX (dQ (Ht rfl) (fun hd=>?_) (fun hd=>?_))))))))
   ·have hd2 : (rF x r.q g.q).2 ≠ 0 := by simpa using hd
    refine ts (rm rfl (ro rfl (iV (Ht rfl) cV) (rm rfl (fQ rfl rfl (eK rfl rfl (Ht rfl) (fun h=>cX (Ht rfl))) (fQ rfl rfl (eK rfl rfl (Ht rfl) (fun h=>iV (fJ rfl h) cV)) (ro rfl (gG (Ht rfl) (fun h=>(fJ rfl h))) (rm rfl (fQ rfl rfl (eK rfl rfl (Ht rfl) (fun h=>cZ Try.call10 vC trivial)) (ro rfl (eO (Ht rfl) (fun h=>(fJ rfl h))) (ra rfl (eX (fW rfl (fX (eU rfl) ?_)))))))))))))
    exact (fL (by rcases hfe with k | k | k; exact absurd k hd2; rw [k]; rfl; rw [k]; rfl))
   ·have hd2 : (rF x r.q g.q).2 = 0 := by simpa using hd
    have hbk:=Gl hx hd2
    refine cU (ts (ro rfl (eJ A_30 Z_30 (Ht rfl) (i:=7) rfl rfl rfl) (ro rfl (eJ A_30 Z_30 (Ht rfl) (i:=3) rfl rfl rfl) (ro rfl (cZ Try.call6 (Fb (x:=(rF x r.q g.q).1) (y:=f.q) (hx:=gF) (by decide) (by decide)) ⟨(Ht rfl),(Ht rfl),trivial⟩) (rm rfl (fQ rfl rfl (eK rfl rfl (Ht rfl) (fun h=>cZ Try.call10 vC trivial)) (ro rfl (eO (Ht rfl) (fun h=>(fJ rfl h))) (ra rfl (eX (fW rfl (fX (eU rfl) ?_)))))))))))
    exact (fL (by rw [hbk]; simp))
end
end Go.Proofs.Ythcmlodgnfekeaa
