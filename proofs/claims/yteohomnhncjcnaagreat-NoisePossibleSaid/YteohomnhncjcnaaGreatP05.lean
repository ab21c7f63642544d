/- What functions of the program compute, proved by walks over their code, and the plain mathematics of it; a part of the proof in the last text. -/
import Derived.Test.YteohomnhncjcnaaGreatP04
set_option linter.unusedVariables false
set_option linter.unusedSimpArgs false
set_option maxRecDepth 100000
set_option maxHeartbeats 4000000
namespace Go.Proofs.YteohomnhncjcnaaGreat
section
open Go Go.RowKit
def sq (n:Nat) (x y:Nat → Qi) (C:Nat → Nat → Qi):Qi:=bE n fun a=>bE n fun b=>(x a).conj * C a b * y b
section
variable {n:Nat} {x y z x' y':Nat → Qi} {C C':Nat → Nat → Qi}
theorem Gc (hx : ∀ a, a < n → x a = x' a) (hy : ∀ a, a < n → y a = y' a) (hC : ∀ a b, a < n → b < n → C a b = C' a b) : sq n x y C = sq n x' y' C' :=
 eB fun a ha=>eB fun b hb=>by rw [hx a ha,hy b hb,hC a b ha hb]
theorem Tw (f:Qi):sq n x (fun b=>y b + f * z b) C = sq n x y C + f * sq n x z C:=by
 have e : ∀ a, a < n → (bE n fun b => (x a).conj * C a b * (y b + f * z b)) = (bE n fun b => (x a).conj * C a b * y b) + f * bE n fun b => (x a).conj * C a b * z b := fun a _ => by
  rw [← rL,← qN]; exact eB fun b _=>by grind
 rw [sq,eB e,qN,rL]; rfl
theorem Cl (f:Qi):sq n (fun a=>x a + f * z a) y C = sq n x y C + f.conj * sq n z y C:=by
 have e : ∀ a, a < n → (bE n fun b => (x a + f * z a).conj * C a b * y b) = (bE n fun b => (x a).conj * C a b * y b) + f.conj * bE n fun b => (z a).conj * C a b * y b := fun a _ => by
  rw [← rL,← qN]; exact eB fun b _=>by rw [sS,pU]; grind
 rw [sq,eB e,qN,rL]; rfl
theorem Yp (hC:∀ a b,a < n → b < n → C a b = (C b a).conj):sq n y x C = (sq n x y C).conj:=by
 rw [sq,sq,Dz,Bb]
 exact eB fun a ha => by
  rw [Dz]
  exact eB fun b hb=>by rw [pU,pU,tZ,hC b a hb ha]; grind
end
theorem Xy {x:Qi} (h:x = x.conj):x.im = 0:=by
 have:x.im = -x.im:=congrArg Qi.im h
 grind
theorem Ab {x:Qi} (h:x.im = 0):x.conj = x:=Qi.ext' rfl (by show -x.im = x.im; grind)
theorem pX (x:Qi):(0:Rat) < ((x.den:Int):Rat):=by
 have:=x.den_pos
 have h:(0:Int) < (x.den:Int):=by omega
 exact_mod_cast h
theorem Ik {x:Qi} (h:x.im = 0):Ak x = true ↔ x.re < 0:=by
 obtain ⟨d1,d2⟩:=wD x
 have dp:=pX x
 have hb : x.b = 0 := by
  rw [h] at d2
  have:((x.b:Int):Rat) = 0:=by grind
  exact_mod_cast this
 have e : vV x Qi.zero = gL x.a 0 := by
  have z1:Qi.zero.den = 1:=by decide +kernel
  have z2:Qi.zero.a = 0:=by decide +kernel
  have z3:Qi.zero.b = 0:=by decide +kernel
  rw [vV,z1,z2,z3,hb]
  simp only [Int.natCast_one,Int.mul_one,Int.zero_mul]
  by_cases c:gL x.a 0 = 0
  ·rw [if_neg (fun k=>k c),c]; decide
  ·rw [if_pos c]
 rw [Ak,decide_eq_true_iff,e]
 have e2 : gL x.a 0 < 0 ↔ x.a < 0 := by
  unfold gL
  constructor
  ·intro k; revert k; split
   ·intro _; assumption
   ·split <;> intro k <;> omega
  ·intro k; rw [if_pos k]; decide
 rw [e2]
 constructor
 ·intro k
  have k2:((x.a:Int):Rat) < 0:=by exact_mod_cast k
  rw [← d1] at k2
  apply Decidable.byContradiction
  intro c
  have:=Rat.mul_nonneg (Rat.le_of_lt dp) (Rat.not_lt.1 c)
  grind
 ·intro k
  have k2 : ((x.den : Int) : Rat) * x.re < 0 := by
   have:=Rat.mul_pos dp (show 0 < -x.re by grind)
   grind
  rw [d1] at k2
  exact_mod_cast k2
abbrev vv (V:List (List Qi)) (r:Nat):Nat → Qi:=gv (V.getD r [])
section
variable {h:List (List Qi)} {n:Nat}
theorem Wo (hh:iV h n = true) {a b:Nat} (ha:a < n) (hb:b < n):gm h a b = (gm h b a).conj:=of_decide_eq_true hh a ha b hb
theorem a0B {G:List (List Qi)} {i r c:Nat} (hr:r < n) (hc:c < n) (h1:i < r) (h2:i < c):gm (dfE G n i) r c = gm G r c - gm G r i * (gm G i c / gm G i i):=by
 rw [dfE,tP,kT hr hc,if_pos ⟨⟨h1,h2⟩,.inl hc⟩]
theorem Rc {G V:List (List Qi)} {i r a:Nat} (hr:r < n) (h1:i < r) (hl:(V.getD r []).length = n) (ha:a < n):vv (nJ G V n i n) r a = vv V r a + -(gm G i r / gm G i i) * vv V i a:=by
 show gv ((nJ G V n i n).getD r []) a = _
 rw [nJ,yQ hr,if_pos ⟨h1,hr⟩,Wy,sC zo]
theorem sW (hs : eD h n n) (hh : iV h n = true) : ∀ i, i ≤ n → ∀ r c, i ≤ r → r < n → i ≤ c → c < n → gm (gN h n i).1 r c = sq n (vv (gN h n i).2 r) (vv (gN h n i).2 c) (gm h)
 | 0, _, r, c, _, hr, _, hc => by
  have e:∀ r,r < n → ∀ a,a < n → vv (Kz n) r a = if r = a then 1 else 0:=fun r hr a ha=>a1w hr ha
  have e1 : ∀ a, a < n → (bE n fun b => (vv (Kz n) r a).conj * gm h a b * vv (Kz n) c b) = if a = r then gm h a c else 0 := fun a ha => by
   rw [vN hc (fun b hb hne=>by rw [e c hc b hb,if_neg (Ne.symm hne)]; grind),e c hc c hc,if_pos rfl,e r hr a ha]
   by_cases k:r = a
   ·rw [if_pos k,if_pos k.symm,Dy]; grind
   ·rw [if_neg k,if_neg (Ne.symm k),qV]; grind
  show gm h r c = sq n (vv (Kz n) r) (vv (Kz n) c) (gm h)
  rw [sq,eB e1,vN hr (fun a _ hne=>if_neg hne),if_pos rfl]
 | i + 1, hi, r, c, h1, hr, h2, hc => by
  have ih:=sW hs hh i zo
  obtain ⟨hG,hV⟩:=qY hs i zo
  by_cases k:gm (gN h n i).1 i i = 0
  ·rw [pY k]; exact ih r c zo hr zo hc
  ·rw [xP k]
   dsimp only
   generalize hD:gN h n i = D at *
   obtain ⟨G,V⟩:=D
   dsimp only at *
   rw [a0B hr hc zo zo]
   have s1 : sq n (vv (nJ G V n i n) r) (vv (nJ G V n i n) c) (gm h) = sq n (fun a => vv V r a + -(gm G i r / gm G i i) * vv V i a) (fun a => vv V c a + -(gm G i c / gm G i i) * vv V i a) (gm h) :=
    Gc (fun a ha=>Rc hr zo (hV.row hr) ha) (fun a ha=>Rc hc zo (hV.row hc) ha) fun _ _ _ _=>rfl
   rw [s1,Tw,Cl,Cl,← ih r c zo hr zo hc,← ih i c zo zo zo hc,← ih r i zo hr zo zo,← ih i i zo zo zo zo]
   have d:=sA (x:=gm G i c) k
   generalize gm G i c / gm G i i = f at *
   generalize (-(gm G i r / gm G i i)).conj = g at *
   grind
theorem xQ (hs:eD h n n) (hh:iV h n = true) {i r c:Nat} (hi:i ≤ n) (h1:i ≤ r) (hr:r < n) (h2:i ≤ c) (hc:c < n):gm (gN h n i).1 r c = (gm (gN h n i).1 c r).conj:=by
 rw [sW hs hh i hi r c h1 hr h2 hc,sW hs hh i hi c r h2 hc h1 hr]
 exact Yp fun a b ha hb=>Wo hh ha hb
theorem Ef (hs:eD h n n) (hh:iV h n = true) {i r:Nat} (hi:i ≤ n) (h1:i ≤ r) (hr:r < n):(gm (gN h n i).1 r r).im = 0:=Xy (xQ hs hh hi h1 hr h1 hr)
theorem Kp (hs : eD h n n) (hh : iV h n = true) : ∀ f i, i + f = n → (tN h n f i).1 = false → Ak (sq n (gv (tN h n f i).2) (gv (tN h n f i).2) (gm h)) = true ∧ (tN h n f i).2.length = n
 | 0,i,_,k=>by cases k
 | f + 1, i, hf, k => by
  have hin:i < n:=by omega
  obtain ⟨hG,hV⟩:=qY hs i zo
  have form:=sW hs hh i zo
  have herm:∀ {r c},i ≤ r → r < n → i ≤ c → c < n → gm (gN h n i).1 r c = (gm (gN h n i).1 c r).conj:=fun a b c d=>xQ hs hh zo a b c d
  have real:∀ {r},i ≤ r → r < n → (gm (gN h n i).1 r r).im = 0:=fun a b=>Ef hs hh zo a b
  rw [tN] at k ⊢
  by_cases c1:Ak (gm (gN h n i).1 i i) = true
  ·rw [if_pos c1]
   have e:=form i i (Nat.le_refl _) hin (Nat.le_refl _) hin
   rw [e] at c1
   exact ⟨c1,hV.row hin⟩
  ·rw [if_neg c1] at k ⊢
   by_cases c2:vF (gN h n i).1 (gN h n i).2 n i ≠ []
   ·rw [if_pos c2]
    dsimp only
    rw [vF] at c2 ⊢
    by_cases c3:gm (gN h n i).1 i i = 0
    ·rw [if_pos c3] at c2 ⊢
     by_cases c4:Na (gN h n i).1 n i < n
     ·rw [if_pos c4]
      obtain ⟨⟨p1,p2⟩,p3,p4⟩:=rA (p:=fun k=>!decide (gm (gN h n i).1 i k = 0)) (f:=n - (i + 1)) (k:=i + 1)
      have q:=p4 (by show Na (gN h n i).1 n i < _; omega)
      have p1':i + 1 ≤ Na (gN h n i).1 n i:=p1
      have hgne : ¬ gm (gN h n i).1 i (Na (gN h n i).1 n i) = 0 := by
       have:(!decide (gm (gN h n i).1 i (Na (gN h n i).1 n i) = 0)) = true:=q
       simpa using this
      generalize hkk:Na (gN h n i).1 n i = kk at *
      generalize hD:gN h n i = D at *
      obtain ⟨G,V⟩:=D
      dsimp only at *
      refine ⟨?_,by rw [Uj,Cb]; exact hV.row c4⟩
      have s1 : sq n (gv (Uj G V i kk)) (gv (Uj G V i kk)) (gm h) = sq n (fun a => vv V kk a + (-(qW G i kk) * gm G i kk) * vv V i a) (fun a => vv V kk a + (-(qW G i kk) * gm G i kk) * vv V i a) (gm h) := by
       have:∀ a,a < n → gv (Uj G V i kk) a = vv V kk a + (-(qW G i kk) * gm G i kk) * vv V i a:=fun a ha=>by rw [Uj,Wy,sC (by rw [hV.row c4]; exact ha)]
       exact Gc this this fun _ _ _ _=>rfl
      rw [s1,Tw,Cl,Cl,← form kk kk zo c4 zo c4,← form i kk zo hin zo c4,← form kk i zo c4 zo hin,← form i i zo hin zo hin,c3]
      have hN:=yF hgne
      have sd:qW G i kk * ((gm G i kk).norm + (gm G i kk).norm) = Gt (gm G kk kk) + 1:=sA hN
      have zr : (Gt (gm G kk kk)).im = 0 := by
       unfold Gt; split
       ·show -(gm G kk kk).im = 0; rw [real zo c4]; grind
       ·exact real zo c4
      have cN:((gm G i kk).norm).conj = (gm G i kk).norm:=Ab rfl
      have sc : (qW G i kk).conj = qW G i kk := by
       have:=congrArg Qi.conj sd
       rw [pU,sS,sS,cN,Ab zr,Dy,← sd] at this
       have e2:((qW G i kk).conj - qW G i kk) * ((gm G i kk).norm + (gm G i kk).norm) = 0:=by grind
       rcases nV e2 with k | k
       ·grind
       ·exact absurd k hN
      have hki:gm G kk i = (gm G i kk).conj:=herm zo c4 zo hin
      have gg:=Qi.mul_conj_norm (gm G i kk)
      have cneg : (-(qW G i kk) * gm G i kk).conj = -(qW G i kk) * (gm G i kk).conj := by
       rw [pU,show (-(qW G i kk)).conj = -(qW G i kk).conj from Qi.ext' rfl rfl,sc]
      have tot : gm G kk kk + (-(qW G i kk) * gm G i kk).conj * gm G i kk + -(qW G i kk) * gm G i kk * (gm G kk i + (-(qW G i kk) * gm G i kk).conj * 0) = gm G kk kk - (Gt (gm G kk kk) + 1) := by
       rw [cneg,hki,← sd,← gg]; grind
      rw [tot]
      have im0 : (gm G kk kk - (Gt (gm G kk kk) + 1)).im = 0 := by
       show (gm G kk kk).im - ((Gt (gm G kk kk)).im + 0) = 0
       rw [real zo c4,zr]; grind
      rw [Ik im0]
      show (gm G kk kk).re - ((Gt (gm G kk kk)).re + 1) < 0
      have rr:=Ik (real (r:=kk) zo c4)
      unfold Gt
      by_cases c5:Ak (gm G kk kk) = true
      ·rw [if_pos c5]
       have:=rr.1 c5
       show (gm G kk kk).re - (-(gm G kk kk).re + 1) < 0
       grind
      ·rw [if_neg c5]; grind
     ·rw [if_neg c4] at c2; exact absurd rfl c2
    ·rw [if_neg c3] at c2; exact absurd rfl c2
   ·rw [if_neg c2] at k ⊢
    exact Kp hs hh f (i + 1) zo k
def ei (i:Nat) (v:Qi) (a:Nat):Qi:=if a = i then v else 0
def mk (i:Nat) (y:Nat → Qi) (r:Nat):Qi:=if i ≤ r then y r else 0
end
end
section
open Go Go.RowKit
theorem Vw {G : List (List Qi)} {n i r : Nat} (hG : eD G n n) (hr : r < n) (hin : i < n) : (tab n fun c => if (i < r ∧ i < c) ∧ (c < n ∨ c = n ∧ r < 0) then gm G r c - gm G r i * (gm G i c / gm G i i) else gm G r c) =
  if i < r then (tab (hZ G r).length fun c=>if i < c then gv (hZ G r) c - gv (hZ G r) i / gv (hZ G i) i * gv (hZ G i) c else gv (hZ G r) c) else hZ G r:=by
 have hl:(hZ G r).length = n:=hG.row hr
 by_cases e:i < r
 ·rw [if_pos e, hl]
  exact cI fun c hc => by
   by_cases e2:i < c
   ·rw [if_pos ⟨⟨e, e2⟩, .inl hc⟩, if_pos e2]
    show gm G r c - gm G r i * (gm G i c / gm G i i) = gm G r c - gm G r i / gm G i i * gm G i c
    rw [Qi.div_def,Qi.div_def]; grind
   ·rw [if_neg zo,if_neg e2]
 ·rw [if_neg e]
  have:(tab n fun c=>if (i < r ∧ i < c) ∧ (c < n ∨ c = n ∧ r < 0) then gm G r c - gm G r i * (gm G i c / gm G i i) else gm G r c) = tab n fun c=>gv (hZ G r) c:=cI fun c _=>by rw [if_neg zo]
  rw [this]
  apply List.ext_getElem?
  intro c
  by_cases hc:c < n
  ·have hc2 : c < (hZ G r).length := by omega
   rw [eT hc,List.getElem?_eq_getElem hc2]
   congr 1
   show (hZ G r).getD c Qi.zero = _
   rw [List.getD,List.getElem?_eq_getElem hc2]; rfl
  ·rw [List.getElem?_eq_none (by rw [aT]; omega),List.getElem?_eq_none zo]
theorem Qw {G : List (List Qi)} {n i w : Nat} (hG : eD G n n) (h : mD G w) (hin : i < n) (hp : gm G i i ≠ 0) : mD (dfE G n i) (2 * w + 1) := fun x hx => by
 obtain ⟨r,hr,rfl⟩:=gB.1 hx
 have hl:=hG.1
 show rU (tab n fun c=>if (i < r ∧ i < c) ∧ (c < n ∨ c = n ∧ r < 0) then gm G r c - gm G r i * (gm G i c / gm G i i) else gm G r c) _
 rw [Vw hG hr hin]
 by_cases e:i < r
 ·rw [if_pos e]; exact (h.row zo).red (h.row zo) hp
 ·rw [if_neg e]; exact (h.row zo).le zo
theorem Eg {h : List (List Qi)} {n w : Nat} (hs : eD h n n) (hb : mD h w) : ∀ i, i ≤ n → mD (gN h n i).1 (Zy w i)
 | 0,_=>hb
 | i + 1, hi => by
  have ih:=Eg hs hb i zo
  by_cases k:gm (gN h n i).1 i i = 0
  ·rw [pY k]; exact fun r hr=>(ih r hr).le (by simp only [Zy]; omega)
  ·rw [xP k]; exact Qw (qY hs i zo).1 ih zo k
def Gm (G : Nat) : Nat → Nat
 | 0=>1
 | i + 1=>2 * Gm G i + 4 * G + 4
theorem Gn (G : Nat) : ∀ {c d : Nat}, c ≤ d → Gm G c ≤ Gm G d
 | c,0,h=>by rw [show c = 0 by omega]; exact Nat.le_refl _
 | c, d + 1, h => by
  by_cases e:c = d + 1
  ·rw [e]; exact Nat.le_refl _
  ·have := Gn G (c := c) (d := d) zo
   simp only [Gm]; omega
theorem Yy (G : Nat) : ∀ i, 1 ≤ Gm G i
 | 0=>Nat.le_refl _
 | i + 1=>by simp only [Gm]; omega
theorem Kq {h : List (List Qi)} {n G : Nat} (hs : eD h n n) (hG : ∀ i, i ≤ n → bL (gN h n i).1 G) (h1 : 1 ≤ G) : ∀ i, i ≤ n → bL (gN h n i).2 (Gm G i)
 | 0,_=>Wq (Nat.le_refl 1)
 | i + 1, hi => by
  have ih:=Kq hs hG h1 i zo
  have hv:=Yy G i
  by_cases k:gm (gN h n i).1 i i = 0
  ·rw [pY k]; exact fun r hr=>(ih r hr).le (by simp only [Gm]; omega)
  ·rw [xP k]
   intro r hr
   obtain ⟨j,hj,rfl⟩:=gB.1 hr
   by_cases c:i < j ∧ j < n
   ·rw [if_pos c]
    intro x hx
    obtain ⟨a,ha,rfl⟩:=gB.1 hx
    haveI f1:aD (gv ((gN h n i).2.getD j []) a) (Gm G i):=(ih.row j).get hv a
    haveI f2:aD (gv ((gN h n i).2.getD i []) a) (Gm G i):=(ih.row i).get hv a
    have g0:aD (gm (gN h n i).1 i j / gm (gN h n i).1 i i) (G + 3 * G + 2):=nS ((hG i zo).get h1 i j) ((hG i zo).get h1 i i) k
    haveI f3:aD (-(gm (gN h n i).1 i j / gm (gN h n i).1 i i)) (G + 3 * G + 2):=by haveI:=g0; exact fitNeg
    haveI f4:aD (-(gm (gN h n i).1 i j / gm (gN h n i).1 i i) * gv ((gN h n i).2.getD i []) a) (G + 3 * G + 2 + Gm G i + 1):=fitMul
    exact (fitAdd (x:=gv ((gN h n i).2.getD j []) a) (y:=-(gm (gN h n i).1 i j / gm (gN h n i).1 i i) * gv ((gN h n i).2.getD i []) a) (L:=Gm G i) (M:=G + 3 * G + 2 + Gm G i + 1)).le (by simp only [Gm]; omega)
   ·rw [if_neg c]
    exact (ih.row j).le (by simp only [Gm]; omega)
def dG (L:Nat):Nat:=8192 * L + 1026
def dV (L:Nat):Nat:=1020 * dG L + 1276
theorem a1s (L:Nat):4 * (Zy (8 * L) 8 + 1) + 2 = dG L:=by simp only [Zy,dG]; omega
theorem a1t (L:Nat):Gm (dG L) 8 = dV L:=by simp only [Gm,dV]; omega
theorem a1P (L:Nat) (h:L ≤ 100000):10 * dG L + 2 * dV L + 40 ≤ 8796093022208:=by unfold dV dG; omega
theorem a1T {h:List (List Qi)} {n L:Nat} (hs:eD h n n) (hf:bL h L) (hL:1 ≤ L) (hLb:L ≤ 100000) (hn:n ≤ 8):SzD h n (dG L) (dV L):=by
 have hb:mD h (8 * L):=fun r hr=>(Tl hs hf hL r hr).le (Nat.mul_le_mul_right _ hn)
 have hg : ∀ i, i ≤ n → bL (gN h n i).1 (dG L) := fun i hi r hr => by
  rw [← a1s]
  exact ((Eg hs hb i hi r hr).le (Gp _ (Nat.le_trans hi hn))).fit
 have h1:1 ≤ dG L:=by unfold dG; omega
 refine ⟨hg,fun i hi r hr=>?_,h1,by unfold dV; omega,a1P L hLb⟩
 rw [← a1t]
 exact (Kq hs hg h1 i hi r hr).le (Gn _ (Nat.le_trans hi hn))
def tO (G:List (List Qi)) (n i r k:Nat):List (List Qi):=tab n fun a=>tab n fun b=>if (i < a ∧ i < b) ∧ (a < r ∨ a = r ∧ b < k) then gm G a b - gm G a i * (gm G i b / gm G i i) else gm G a b
theorem sV (G:List (List Qi)) (n i r k:Nat):eD (tO G n i r k) n n:=eD.tab
theorem Nc {G:List (List Qi)} {n i:Nat} (h:eD G n n):tO G n i (i + 1) 0 = G:=by
 have:tO G n i (i + 1) 0 = tab n fun r=>tab n fun c=>gm G r c:=cI fun r _=>cI fun c _=>by rw [if_neg zo]
 rw [this]; exact (lZ h).symm
theorem Wb {G : List (List Qi)} {n i r : Nat} : tO G n i r 0 = tO G n i r (i + 1) := cI fun a _ => cI fun b _ => by
 by_cases e:(i < a ∧ i < b) ∧ (a < r ∨ a = r ∧ b < 0)
 ·rw [if_pos e,if_pos zo]
 ·rw [if_neg e,if_neg zo]
theorem Wa {G : List (List Qi)} {n i r : Nat} : tO G n i r n = tO G n i (r + 1) 0 := cI fun a _ => cI fun b hb => by
 by_cases e:(i < a ∧ i < b) ∧ (a < r ∨ a = r ∧ b < n)
 ·rw [if_pos e,if_pos zo]
 ·rw [if_neg e,if_neg zo]
theorem Vz {G : List (List Qi)} {n i : Nat} : tO G n i n 0 = dfE G n i := cI fun a ha => cI fun b hb => by
 by_cases e:i < a ∧ i < b
 ·rw [if_pos ⟨e,.inl ha⟩,if_pos ⟨e,.inl hb⟩]
 ·rw [if_neg (fun k=>e k.1),if_neg (fun k=>e k.1)]
theorem Br {G:List (List Qi)} {n i r k a b:Nat} (ha:a < n) (hb:b < n) (h:¬ ((i < a ∧ i < b) ∧ (a < r ∨ a = r ∧ b < k))):gm (tO G n i r k) a b = gm G a b:=by rw [tO,kT ha hb,if_neg h]
theorem Ra {G:List (List Qi)} {n i r k:Nat} (hr:r < n) (hk:k < n) (hir:i < r) (hik:i < k):(tO G n i r k).set r ((hZ (tO G n i r k) r).set k (gm G r k - gm G r i / gm G i i * gm G i k)) = tO G n i r (k + 1):=by
 have ev:gm G r k - gm G r i / gm G i i * gm G i k = gm G r k - gm G r i * (gm G i k / gm G i i):=by rw [Qi.div_def,Qi.div_def]; grind
 rw [ev]
 have hrl:(hZ (tO G n i r k) r).length = n:=(sV G n i r k).row hr
 have hlen:(tO G n i r k).length = n:=aT _ _
 refine Lf (n:=n) (m:=n) ⟨by rw [List.length_set]; exact aT _ _,fun x hx=>?_⟩ (sV _ _ _ _ _) fun a ha b hb=>?_
 ·rcases List.mem_or_eq_of_mem_set hx with h1 | h1
  ·exact (sV G n i r k).2 x h1
  ·rw [h1,List.length_set]; exact hrl
 ·show gv (hZ ((tO G n i r k).set r _) a) b = _
  by_cases e:a = r
  ·subst e
   rw [Tn zo,Ie zo]
   by_cases e2:b = k
   ·subst e2
    rw [if_pos rfl,tO,kT ha hb,if_pos zo]
   ·rw [if_neg e2]
    show gm (tO G n i a k) a b = _
    rw [tO,kT ha hb,tO,kT ha hb]
    by_cases c:(i < a ∧ i < b) ∧ (a < a ∨ a = a ∧ b < k)
    ·rw [if_pos c,if_pos zo]
    ·rw [if_neg c,if_neg zo]
  ·rw [Ar (fun x => e x.symm)]
   show gm (tO G n i r k) a b = _
   rw [tO,kT ha hb,tO,kT ha hb]
   by_cases c:(i < a ∧ i < b) ∧ (a < r ∨ a = r ∧ b < k)
   ·rw [if_pos c,if_pos zo]
   ·rw [if_neg c,if_neg zo]
theorem Vx {h:List (List Qi)} {n i:Nat} (hi:i < n) (k:Ak (gm (gN h n i).1 i i) = true ∨ vF (gN h n i).1 (gN h n i).2 n i ≠ []):(tN h n (n - i) i).1 = false:=by
 by_cases c:Ak (gm (gN h n i).1 i i) = true
 ·rw [Kn hi c]
 ·rw [Kl hi c (k.resolve_left c)]
theorem a0z {G V:List (List Qi)} {n i k:Nat} (hV:eD V n n) (h0:gm G i i = 0) (hik:i < k) (hk:k < n) (hne:¬ gm G i k = 0):vF G V n i ≠ []:=by
 obtain ⟨⟨p1,p2⟩,p3,p4⟩:=rA (p:=fun k=>!decide (gm G i k = 0)) (f:=n - (i + 1)) (k:=i + 1)
 have c : Na G n i < n := by
  apply Decidable.byContradiction; intro c
  have c2:¬ sB (fun k=>!decide (gm G i k = 0)) (n - (i + 1)) (i + 1) < n:=c
  have:=p3 k zo zo
  exact hne (by simpa using this)
 rw [vF,if_pos h0,if_pos c]
 intro e
 have:=congrArg List.length e
 rw [Uj,Cb,hV.row c] at this
 simp at this; omega
theorem a0A {G V:List (List Qi)} {n i:Nat} (h:gm G i i ≠ 0 ∨ ∀ k,i < k → k < n → gm G i k = 0):vF G V n i = []:=by
 rw [vF]
 by_cases c:gm G i i = 0
 ·rw [if_pos c]
  have h2:=h.resolve_left (fun k=>k c)
  by_cases c2:Na G n i < n
  ·obtain ⟨⟨p1, p2⟩, p3, p4⟩ := rA (p := fun k => !decide (gm G i k = 0)) (f := n - (i + 1)) (k := i + 1)
   have c3:sB (fun k=>!decide (gm G i k = 0)) (n - (i + 1)) (i + 1) < n:=c2
   have:=p4 zo
   rw [h2 _ zo c3] at this
   simp at this
  ·rw [if_neg c2]
 ·rw [if_neg c]
theorem Sj {x:Qi} (h:x.im = 0):Ak x = true ↔ gL x.a 0 < 0:=by
 obtain ⟨d1,_⟩:=wD x
 have dp:=pX x
 rw [Ik h]
 have e2 : gL x.a 0 < 0 ↔ x.a < 0 := by
  unfold gL
  constructor
  ·intro k; revert k; split
   ·intro _; assumption
   ·split <;> intro k <;> omega
  ·intro k; rw [if_pos k]; decide
 rw [e2]
 constructor
 ·intro k
  have k2 : ((x.den : Int) : Rat) * x.re < 0 := by
   have:=Rat.mul_pos dp (show 0 < -x.re by grind)
   grind
  rw [d1] at k2
  exact_mod_cast k2
 ·intro k
  have k2:((x.a:Int):Rat) < 0:=by exact_mod_cast k
  rw [← d1] at k2
  apply Decidable.byContradiction
  intro c
  have:=Rat.mul_nonneg (Rat.le_of_lt dp) (Rat.not_lt.1 c)
  grind
theorem Yj {x:Qi} (h:x.im = 0):gL x.a 0 = 0 ↔ x = Qi.zero:=by
 obtain ⟨d1,_⟩:=wD x
 have dp:=pX x
 have e2 : gL x.a 0 = 0 ↔ x.a = 0 := by
  unfold gL
  constructor
  ·intro k; revert k; split
   ·intro k; cases k
   ·split
    ·intro k; cases k
    ·intro _; omega
  ·intro k; rw [k]; decide
 rw [e2]
 constructor
 ·intro k
  rw [k] at d1
  have d3:((x.den:Int):Rat) * x.re = 0:=by rw [d1]; rfl
  rcases Rat.mul_eq_zero.1 d3 with k2 | k2
  ·rw [k2] at dp; exact absurd dp (by decide)
  ·exact Qi.ext' k2 h
 ·intro k; rw [k]; decide +kernel
theorem Vt {x:Qi} (h:¬ x = Qi.zero):¬ x.conj = Qi.zero:=fun e=>h (by rw [← tZ x,e]; exact qV)
theorem Wp {h : List (List Qi)} {n : Nat} (k : ∀ a, a < n → ∀ b, b ≤ a → gm h a b = (gm h b a).conj) : iV h n = true := decide_eq_true fun a ha b hb => by
 by_cases c:b ≤ a
 ·exact k a ha b c
 ·rw [k b hb a zo,tZ]
def dfM (X:List (List Qi)) (n i r:Nat):List (List Qi):=if gm X i i = 0 then X else tO X n i r 0
theorem Qz {X:List (List Qi)} {n i r:Nat} (h:gm X i i = Qi.zero):dfM X n i r = X:=if_pos h
theorem Qy {X:List (List Qi)} {n i r:Nat} (h:¬ gm X i i = Qi.zero):dfM X n i r = tO X n i r 0:=if_neg h
theorem Nb {X:List (List Qi)} {n i:Nat} (h:eD X n n):dfM X n i (i + 1) = X:=by
 unfold dfM; split
 ·rfl
 ·exact Nc h
theorem Vy {h:List (List Qi)} {n i:Nat}:dfM (gN h n i).1 n i n = (gN h n (i + 1)).1:=by
 by_cases c:gm (gN h n i).1 i i = 0
 ·rw [pY c,Qz c]
 ·rw [xP c,Qy c,Vz]
end
section
open Go Go.RowKit
theorem sM {h:List (List Qi)} {n L:Nat} (hs:eD h n n) (hf:bL h L) (hL:1 ≤ L) (hLb:L ≤ 4000000000000) (hn:n ≤ 32):aS Tryz.prog 74 [QM h] (aC (iV h n)):=by
 have hsl:=hs.1
 refine aS.intro Tryz.func74 rfl Tryz.ntmps74 rfl (fun cx=>(ts (ro rfl (cQ cV) (eJ (cK (ts (ro rfl (cQ (cJ 0)) (eJ (eU ?_)))))))))
 refine bF (fun (i : Nat) => i ≤ n ∧ ∀ a, a < i → ∀ b, b ≤ a → gm h a b = (gm h b a).conj) (fun (i : Nat) => n - i) (fun (i : Nat) => [(0, QM h), (3, NT .i64 i)]) (fun (i : Nat) => []) 0 ⟨Nat.zero_le _, fun a h => by omega⟩
  (zS rfl) aY (fun i ⟨hi,hh⟩=>?_)
 refine cK (ts (rm rfl (rm rfl (ro rfl (dU U_36 (Ht rfl) (by rw [List.length_map,hsl])) ?_))))
 refine ro rfl (gJ (Ht rfl) (Ht rfl)) (eJ (dQ (Ht rfl) (fun hc=>?_) (fun hc=>?_)))
 ·have hin : i < n := by simp only [decide_eq_true_eq] at hc; omega
  have hri:=hs.row hin
  refine cU (cK (eU (ts (ro rfl (cQ (cJ 0)) (eJ (eU ?_))))))
  refine bF (fun (k : Nat) => k ≤ i + 1 ∧ ∀ b, b < k → gm h i b = (gm h b i).conj) (fun (k : Nat) => i + 1 - k) (fun (k : Nat) => [(0, QM h), (3, NT .i64 i), (4, NT .i64 k)]) (fun (k : Nat) => []) 0 ⟨Nat.zero_le _, fun b h => by omega⟩
   (zS rfl) aY (fun k ⟨hk,hk0⟩=>?_)
  refine cK (ts (rm rfl (rm rfl (ro rfl (wO (Ht rfl) (Ht rfl)) (eJ (dQ (Ht rfl) (fun hd=>?_) (fun hd=>?_)))))))
  ·have hki : k ≤ i := by simp only [decide_eq_true_eq] at hd; omega
   have hrk:=hs.row (i:=k) zo
   haveI f1:aD (gm h i k) L:=hf.get hL i k
   haveI f2:aD (gm h k i) L:=hf.get hL k i
   haveI f3:aD (gm h k i).conj L:=fitConj
   refine cU (cK (eU (cK (fV (m:=15) (dp 0 rfl (cX (Ht rfl)) (dp 3 rfl (cX (Ht rfl)) (cH 16 0 17 1 rfl (dZ U_36 Z_35 (Ht rfl) (Ht rfl) rfl (eX (eQ (d:=[]) zo))) (dq 18 2 rfl (dJ A_35 Z_35 (Ht rfl)) (dp 4 rfl (cX (Ht rfl)) (cH 19 3 20 4 rfl (dZ U_35 Z_131 (Ht rfl) (Ht rfl) rfl (eX (eQ (d:=Qi.zero) zo))) (dq 21 5 rfl (dJ A_131 Z_131 (Ht rfl)) (dp 0 rfl (cX (Ht rfl)) (dp 4 rfl (cX (Ht rfl)) (cH 23 7 24 8 rfl (dZ U_36 Z_35 (Ht rfl) (Ht rfl) rfl (eX (eQ (d:=[]) zo))) ?_))))))))))))))
   refine dq 25 9 rfl (dJ A_35 Z_35 (Ht rfl)) (dp 3 rfl (cX (Ht rfl)) (cH 26 10 27 11 rfl (dZ U_35 Z_131 (Ht rfl) (Ht rfl) rfl (eX (eQ (d:=Qi.zero) zo))) (dq 28 12 rfl (dJ A_131 Z_131 (Ht rfl)) (dq 29 13 rfl (cZ Tryz.call173 vZ ⟨(Ht rfl),trivial⟩) (fG aM rfl (by kernel_rfl) (zF (zF (zF (aJ (aJ (aJ (aV (ro rfl (cZ Tryz.call164 (Kf (x:=gm h i k) (y:=(gm h k i).conj) (L:=L) (M:=L) zo zo) ⟨(Ht rfl),(Ht rfl),trivial⟩) ?_)))))))))))))
   refine ro rfl (dR (Ht rfl)) (eJ (dQ (Ht rfl) (fun he=>?_) (fun he=>?_)))
   ·have hne : ¬ gm h i k = (gm h k i).conj := by simpa using he
    have hf0 : iV h n = false := by
     have:¬ iV h n = true:=fun e=>hne (of_decide_eq_true e i hin k zo)
     simpa using this
    refine ts (ro rfl (cQ cV) (eJ (fK rfl (fJ (fQ rfl) ?_))))
    exact (bI hf0.symm)
   ·have heq : gm h i k = (gm h k i).conj := by simpa using he
    refine cU (aR (cY (rm rfl (ro rfl (dW (Ht rfl) (cJ 1) z6) (ra rfl (eJ ?_))))))
    refine gQ (k + 1) ⟨by omega, fun b h1 => by
      by_cases e:b = k
      ·rw [e]; exact heq
      ·exact hk0 b zo⟩ zo (zS rfl) aY
  ·have hki : k = i + 1 := by simp only [decide_eq_false_iff_not] at hd; omega
   refine gG rfl (aR (cY (rm rfl (ro rfl (dW (Ht rfl) (cJ 1) z6) (ra rfl (eJ ?_))))))
   refine gQ (i + 1) ⟨hin, fun a h1 b h2 => by
     by_cases e:a = i
     ·subst e; exact hk0 b zo
     ·exact hh a zo b h2⟩ zo (zS rfl) aY
 ·have hin : i = n := by simp only [decide_eq_false_iff_not] at hc; omega
  have hf0:iV h n = true:=Wp (fun a h1 b h2=>hh a zo b h2)
  refine gG rfl (ts (ro rfl (cQ cV) (eJ (fK rfl (fJ (fQ rfl) ?_)))))
  exact (bI hf0.symm)
theorem Dn {h:List (List Qi)} {n L G0 V0:Nat} (hs:eD h n n) (hf:bL h L) (hL:1 ≤ L) (hLb:L ≤ 4000000000000) (hz:iV h n = true → SzD h n G0 V0) (hn:n ≤ 32):aS Tryz.prog 167 [QM h] (gE [aC (zI h n),bC .i64 (Rd h n)]):=by
 have hsl:=hs.1
 have hs1:eD h n (max n 1):=⟨hsl,fun r hr=>by have a:=hs.2 r hr; have b:0 < h.length:=List.length_pos_of_mem hr; omega⟩
 refine aS.intro Tryz.func167 rfl Tryz.ntmps167 rfl (fun cx=>(ts (ro rfl (cQ cV) (ro rfl (cQ (cJ 0)) (eJ (cK (ts (rm rfl (ro rfl (cZ Tryz.call238 (Hx hs hn) ⟨(Ht rfl),trivial⟩) (ro rfl (dR (Ht rfl)) (eJ (jZ (Ht rfl) (by rfl) ?_))))))))))))
 refine cU (cK (ts (rm rfl (ro rfl (cZ Tryz.call74 (sM hs hf hL hLb hn) ⟨(Ht rfl),trivial⟩) (ro rfl (dR (Ht rfl)) (eJ (dQ (Ht rfl) (fun hh=>?_) (fun hh=>?_))))))))
 ·have hf0 : ¬ iV h n = true := by simpa using hh
  refine ts (ro rfl (cQ cV) (ro rfl (cQ (cJ 1)) (eJ (bN rfl (fJ (fQ rfl) ?_) (fJ (fQ rfl) ?_)))))
  ·exact (bI (by rw [zI,if_neg hf0]))
  ·exact (bB (by rw [Rd,if_neg hf0]; rfl))
 ·have hh0 : iV h n = true := by simpa using hh
  have hz:=hz hh0
  have hg1:=hz.g1
  have hzb:=hz.b
  refine cU (ts (rm rfl (lW Tryz.call172 (Qg (n:=n) (m:=max n 1) hs1 zo zo zo) ⟨(Ht rfl),trivial⟩ rfl (fun B18 _=>(ra rfl (eJ (cK (ts (ro rfl (cQ (cJ 0)) (eJ (eU (Jj 0 rfl (fun vs hvs=>?_)))))))))))))
  have hvs2:Za vs n:=by have h:=hvs; rw [bR,List.length_map,hsl] at h; exact h
  refine bF (fun (i : Nat) => i ≤ n ∧ (tN h n (n - i) i).1 = (tN h n n 0).1) (fun (i : Nat) => n - i) (fun (i : Nat) => [(4, Is (.slice (some ⟨B18, 0, none⟩) n n)), (5, NT .i64 i)]) (fun (i : Nat) => [lF B18 35 131 5 vs vs (bR QT (gN h n i).1)]) 0 ⟨Nat.zero_le _, rfl⟩
   (zS rfl) (cL.refl _) (fun i ⟨hi,hR⟩=>?_)
  refine cK (ts (rm rfl (rm rfl (ro rfl (fN U_36 (Ht rfl)) (ro rfl (gJ (Ht rfl) (Ht rfl)) (eJ (dQ (Ht rfl) (fun hc=>?_) (fun hc=>?_))))))))
  ·have hin : i < n := by simp only [decide_eq_true_eq] at hc; omega
   have hvl:=hvs2.len
   obtain ⟨hXs,hVs⟩:=qY hs i hi
   have hXf:=hz.g i hi
   have herm:∀ r,i ≤ r → r < n → gm (gN h n i).1 i r = (gm (gN h n i).1 r i).conj:=fun r h1 h2=>xQ hs hh0 hi (Nat.le_refl _) hin h1 h2
   have real:=Ef hs hh0 hi (Nat.le_refl _) hin
   have sg:=Sj real
   have sz:=Yj real
   have r1:=Vx (h:=h) hin
   have r3:=Qx (h:=h) hin
   have cn:∀ k,gm (gN h n i).1 i i = 0 → i < k → k < n → ¬ gm (gN h n i).1 i k = 0 → vF (gN h n i).1 (gN h n i).2 n i ≠ []:=fun k a b d e=>a0z hVs a b d e
   have cz:=a0A (G:=(gN h n i).1) (V:=(gN h n i).2) (n:=n) (i:=i)
   have fin:=Vy (h:=h) (n:=n) (i:=i)
   rw [hR] at r1
   obtain ⟨X,hX⟩:∃ X,X = (gN h n i).1:=⟨_,rfl⟩
   rw [← hX] at hXs hXf herm real sg sz r1 r3 cn cz fin ⊢
   have hXl:=hXs.1
   have hri:=hXs.row hin
   haveI g1:aD (gm X i i) G0:=hXf.get hg1 i i
   refine cU (cK (eU (ts (rm rfl (rm rfl (ro rfl (gX U_36 Z_35 (Ht rfl) (Ht rfl) rfl zo (by rw [Nat.mul_one,Nat.zero_add])) ?_))))))
   refine ro rfl (gP A_35 Z_35 (Ht rfl) (j:=0) rfl zo) (rm rfl (ro rfl (gO U_35 Z_131 (Ht rfl) (Ht rfl) rfl (j:=0) rfl zo zo zo) (ro rfl (jL A_131 Z_131 (Ht rfl) (j:=0) rfl zo zo zo) (ro rfl (cZ Tryz.call239 (wA (x:=gm X i i)) ⟨(Ht rfl),trivial⟩) (ra rfl (eJ (cK (ts (rm rfl (ro rfl (mK (Ht rfl) cV) (eJ (dQ (Ht rfl) (fun hng=>?_) (fun hng=>?_)))))))))))))
   ·have hq := r1 (.inl (sg.2 (by simpa using hng)))
    refine ts (ro rfl (cQ cV) (ro rfl (cQ (cJ 0)) (eJ (bN rfl (fJ (fQ rfl) ?_) (fJ (fQ rfl) ?_)))))
    ·exact (bI (by rw [zI,if_pos hh0,hq]))
    ·exact (bB (by rw [Rd,if_pos hh0]; rfl))
   ·have hng2 : ¬ Ak (gm X i i) = true := fun e => by have h1 := sg.1 e; rw [decide_eq_true h1] at hng; cases hng
    refine cU (ts (rm rfl (ro rfl (dW (Ht rfl) (cJ 1) z6) (ra rfl (eJ (eU ?_))))))
    refine bF (fun (r : Nat) => (i + 1 ≤ r ∧ r ≤ n) ∧ (gm X i i = Qi.zero → ∀ a, i < a → a < r → gm X a i = Qi.zero)) (fun (r : Nat) => n - r) (fun (r : Nat) => [(4, Is (.slice (some ⟨B18, 0, none⟩) n n)), (5, NT .i64 i), (6, bC .i64 (gL (gm X i i).a 0)), (7, NT .i64 r)]) (fun (r : Nat) => [lF B18 35 131 5 vs vs (bR QT (dfM X n i r))]) (i + 1) ⟨⟨Nat.le_refl _, hin⟩, fun _ a h1 h2 => by omega⟩
     (zS rfl) (aU (lY (by rw [Nb hXs])) aY) (fun r ⟨⟨hr1,hr2⟩,hcol⟩=>?_)
    refine cK (ts (rm rfl (rm rfl (ro rfl (fN U_36 (Ht rfl)) (ro rfl (gJ (Ht rfl) (Ht rfl)) (eJ (dQ (Ht rfl) (fun hd=>?_) (fun hd=>?_))))))))
    ·have hrn : r < n := by simp only [decide_eq_true_eq] at hd; omega
     have hrr:=hXs.row hrn
     haveI g2:aD (gm X r i) G0:=hXf.get hg1 r i
     refine cU (cK (eU (cK (ts (rm rfl (ro rfl (iH (Ht rfl) cV) (eJ (dQ (Ht rfl) (fun hs0=>?_) (fun hs0=>?_)))))))))
     ·have hx0 : gm X i i = Qi.zero := sz.1 (by simpa using hs0)
      rw [Qz hx0]
      refine cK (ts (rm rfl (rm rfl (ro rfl (gX U_36 Z_35 (Ht rfl) (Ht rfl) rfl zo (by rw [Nat.mul_one,Nat.zero_add])) ?_))))
      refine ro rfl (gP A_35 Z_35 (Ht rfl) (j:=0) rfl zo) (rm rfl (ro rfl (gO U_35 Z_131 (Ht rfl) (Ht rfl) rfl (j:=0) rfl zo zo zo) (ro rfl (jL A_131 Z_131 (Ht rfl) (j:=0) rfl zo zo zo) (ro rfl (cZ Tryz.call166 (Bm (x:=gm X r i)) ⟨(Ht rfl),trivial⟩) (ro rfl (dR (Ht rfl)) (eJ (dQ (Ht rfl) (fun hzr=>?_) (fun hzr=>?_))))))))
      ·have hne : ¬ gm X r i = Qi.zero := by simpa using hzr
       have hq:=r1 (.inr (cn r hx0 zo hrn (by rw [herm r zo hrn]; exact Vt hne)))
       refine ts (ro rfl (cQ cV) (ro rfl (cQ (cJ 0)) (eJ (bN rfl (fJ (fQ rfl) ?_) (fJ (fQ rfl) ?_)))))
       ·exact (bI (by rw [zI,if_pos hh0,hq]))
       ·exact (bB (by rw [Rd,if_pos hh0]; rfl))
      ·have hze : gm X r i = Qi.zero := by simpa using hzr
       refine cU (gG rfl (cY (rm rfl (ro rfl (dW (Ht rfl) (cJ 1) z6) (ra rfl (eJ ?_))))))
       refine gQ (r + 1) ⟨⟨by omega, hrn⟩, fun e a h1 h2 => by
         by_cases c:a = r
         ·rw [c]; exact hze
         ·exact hcol e a h1 zo⟩ zo (zS rfl) (aU (lY (by rw [Qz hx0])) aY)
     ·have hx0 : ¬ gm X i i = Qi.zero := fun e => by have h1 := sz.2 e; rw [decide_eq_true h1] at hs0; cases hs0
      rw [Qy hx0]
      have hTs:=sV X n i r 0
      obtain ⟨T,hT⟩:∃ T,T = tO X n i r 0:=⟨_,rfl⟩
      have t1:gm T r i = gm X r i:=by rw [hT]; exact Br hrn hin zo
      have t2:gm T i i = gm X i i:=by rw [hT]; exact Br hin hin zo
      rw [← hT] at hTs ⊢
      have hTl:=hTs.1
      have hTi:=hTs.row hin
      have hTr:=hTs.row hrn
      haveI g3:aD (gm T r i) G0:=by rw [t1]; exact g2
      haveI g4:aD (gm T i i) G0:=by rw [t2]; exact g1
      have g5:aD (gm X r i / gm X i i) (G0 + 3 * G0 + 2):=nS g2 g1 hx0
      obtain ⟨F,hF⟩:∃ F,F = gm X r i / gm X i i:=⟨_,rfl⟩
      rw [← hF] at g5
      haveI g6:aD F (G0 + 3 * G0 + 2):=g5
      have hfd:gm T r i / gm T i i = F:=by rw [t1,t2,hF]
      refine cU (cK (Y.D_start (m:=20) [] (bY (Ei:=[(4,_)]) rfl rfl (bQ (bJ rfl rfl) bX) rfl rfl (dX rfl (cX (Ht rfl))) (bY (Ei:=[(7,_)]) rfl rfl (bQ (bJ rfl rfl) bX) rfl rfl (dX rfl (cX (Ht rfl))) (bY (Ei:=[(55,_),(56,_)]) rfl rfl (bQ (bZ 0 rfl rfl) (bQ (bZ 1 rfl rfl) bX)) rfl rfl (dX rfl (gX U_36 Z_35 (Ht rfl) (Ht rfl) rfl zo (by rw [Nat.mul_one,Nat.zero_add]))) ?_)))))
      refine bY (Ei:=[(57,_)]) rfl rfl (bQ (bZ 2 rfl rfl) bX) rfl rfl (dX rfl (gP A_35 Z_35 (Ht rfl) (j:=0) rfl zo)) (bY (Ei:=[(5,_)]) rfl rfl (bQ (bJ rfl rfl) bX) rfl rfl (dX rfl (cX (Ht rfl))) (bY (Ei:=[(58,_),(59,_)]) rfl rfl (bQ (bZ 3 rfl rfl) (bQ (bZ 4 rfl rfl) bX)) rfl rfl (dX rfl (gO U_35 Z_131 (Ht rfl) (Ht rfl) rfl (j:=0) rfl zo zo zo)) (bY (Ei:=[(60,_)]) rfl rfl (bQ (bZ 5 rfl rfl) bX) rfl rfl (dX rfl (jL A_131 Z_131 (Ht rfl) (j:=0) rfl zo zo zo)) ?_)))
      refine bY (Ei:=[(4,_)]) rfl rfl (bQ (bJ rfl rfl) bX) rfl rfl (dX rfl (cX (Ht rfl))) (bY (Ei:=[(5,_)]) rfl rfl (bQ (bJ rfl rfl) bX) rfl rfl (dX rfl (cX (Ht rfl))) (bY (Ei:=[(62,_),(63,_)]) rfl rfl (bQ (bZ 7 rfl rfl) (bQ (bZ 8 rfl rfl) bX)) rfl rfl (dX rfl (gX U_36 Z_35 (Ht rfl) (Ht rfl) rfl zo (by rw [Nat.mul_one,Nat.zero_add]))) ?_))
      refine bY (Ei:=[(64,_)]) rfl rfl (bQ (bZ 9 rfl rfl) bX) rfl rfl (dX rfl (gP A_35 Z_35 (Ht rfl) (j:=0) rfl zo)) (bY (Ei:=[(5,_)]) rfl rfl (bQ (bJ rfl rfl) bX) rfl rfl (dX rfl (cX (Ht rfl))) (bY (Ei:=[(65,_),(66,_)]) rfl rfl (bQ (bZ 10 rfl rfl) (bQ (bZ 11 rfl rfl) bX)) rfl rfl (dX rfl (gO U_35 Z_131 (Ht rfl) (Ht rfl) rfl (j:=0) rfl zo zo zo)) (bY (Ei:=[(67,_)]) rfl rfl (bQ (bZ 12 rfl rfl) bX) rfl rfl (dX rfl (jL A_131 Z_131 (Ht rfl) (j:=0) rfl zo zo zo)) ?_)))
      refine bY (Ei:=[(61,_),(68,_)]) rfl rfl (bQ (bZ 6 rfl rfl) (bQ (bZ 13 rfl rfl) bX)) rfl rfl (dX rfl (cZ Tryz.call144 (eZ (Ke (x:=gm T r i) (y:=gm T i i) (L:=G0) (M:=G0) zo) (by rw [hfd]; exact fun _ _ k=>k)) ⟨(Ht rfl),(Ht rfl),trivial⟩)) ?_
      refine bY (Ei:=[(69,_)]) rfl rfl (bQ (bZ 14 rfl rfl) bX) rfl rfl (dX rfl (cX (Ht rfl))) (bY (Ei:=[(54,_)]) rfl rfl (bQ (bZ 15 rfl rfl) bX) rfl rfl (dX rfl (dY (Ht rfl) rfl)) (bY (Ei:=[(54,_)]) rfl rfl (bQ (bZ 15 rfl rfl) bX) rfl rfl (dX rfl (dY (Ht rfl) rfl)) (Y.D_newp (Ei:=[]) (fun bb=>box bb 131 [aC (decide (F.a < 0)),aE F.a.natAbs,aC (decide (F.b < 0)),aE F.b.natAbs,aE F.den]) 19 rfl rfl rfl bX rfl rfl (by kernel_rfl) (eK (Ts:=[Is (.bool false),Is (.slice none 0 0),Is (.bool false),Is (.slice none 0 0),Is (.slice none 0 0)]) O_131 rfl (fun V=>aW zd (aW zd (aW zd (aW zd (aW zd (aG))))))) ?_)))
      refine Y.D_putN (Ei:=[(70,_)]) 18 rfl rfl rfl rfl rfl rfl (bQ (bZ 16 rfl rfl) bX) (fun bb=>mX Z_131 (Ht rfl) (Ht rfl) rfl (i:=0) rfl (aK rfl) rfl rfl) (Y.D_done aM rfl (by kernel_rfl) rfl (by simp [Y.okP]) rfl rfl (bU (bU (bU (bU (bU (bU (bU (bU (bU (bU (bU (bU (bU (bU (bU (bU (bU (bU (Y.F_newp (fun B8=>Y.F_putN (Y.F_nil ?_))))))))))))))))))))))
      refine ra rfl (eJ (ts (rm rfl (ro rfl (dW (Ht rfl) (cJ 1) z6) (ra rfl (eJ (eU ?_)))))))
      refine bF (fun (k : Nat) => i + 1 ≤ k ∧ k ≤ n) (fun (k : Nat) => n - k) (fun (k : Nat) => [(4, Is (.slice (some ⟨B18, 0, none⟩) n n)), (5, NT .i64 i), (6, bC .i64 (gL (gm X i i).a 0)), (7, NT .i64 r), (8, cC B8 0), (10, NT .i64 k)]) (fun (k : Nat) => [lF B18 35 131 5 vs vs (bR QT (tO X n i r k)), box B8 131 [aC (decide (F.a < 0)), aE F.a.natAbs, aC (decide (F.b < 0)), aE F.b.natAbs, aE F.den]]) (i + 1) ⟨Nat.le_refl _, hin⟩
       (zS rfl) (aU (lY (by rw [hT,Wb])) (aU (aB rfl) aY)) (fun k ⟨hk1,hk2⟩=>?_)
      refine cK (ts (rm rfl (rm rfl (ro rfl (fN U_36 (Ht rfl)) (ro rfl (gJ (Ht rfl) (Ht rfl)) (eJ (dQ (Ht rfl) (fun he=>?_) (fun he=>?_))))))))
      ·have hkn : k < n := by simp only [decide_eq_true_eq] at he; omega
       have hSs:=sV X n i r k
       have hst:=Ra (G:=X) (n:=n) (i:=i) (r:=r) (k:=k) hrn hkn zo zo
       obtain ⟨S,hS⟩:∃ S,S = tO X n i r k:=⟨_,rfl⟩
       have p1:gm S r k = gm X r k:=by rw [hS]; exact Br hrn hkn zo
       have p2:gm S i k = gm X i k:=by rw [hS]; exact Br hin hkn zo
       rw [← hF,← p1,← p2,← hS] at hst
       rw [← hS] at hSs ⊢
       have hSl:=hSs.1
       have hSr:=hSs.row hrn
       have hSi:=hSs.row hin
       haveI p3:aD (gm S r k) G0:=by rw [p1]; exact hXf.get hg1 r k
       haveI p4:aD (gm S i k) G0:=by rw [p2]; exact hXf.get hg1 i k
       haveI p5:aD (F * gm S i k) (G0 + 3 * G0 + 2 + G0 + 1):=fitMul
       refine cU (cK (eU (fV (m:=22) (dp 4 rfl (cX (Ht rfl)) (dp 7 rfl (cX (Ht rfl)) (cH 80 0 81 1 rfl (gX U_36 Z_35 (Ht rfl) (Ht rfl) rfl zo (by rw [Nat.mul_one,Nat.zero_add])) ?_))))))
       refine dq 82 2 rfl (gP A_35 Z_35 (Ht rfl) (j:=0) rfl zo) (dp 10 rfl (cX (Ht rfl)) (dp 4 rfl (cX (Ht rfl)) (dp 7 rfl (cX (Ht rfl)) (cH 85 5 86 6 rfl (gX U_36 Z_35 (Ht rfl) (Ht rfl) rfl zo (by rw [Nat.mul_one,Nat.zero_add])) ?_))))
       refine dq 87 7 rfl (gP A_35 Z_35 (Ht rfl) (j:=0) rfl zo) (dp 10 rfl (cX (Ht rfl)) (cH 88 8 89 9 rfl (gO U_35 Z_131 (Ht rfl) (Ht rfl) rfl (j:=0) rfl zo zo zo) (dq 90 10 rfl (jL A_131 Z_131 (Ht rfl) (j:=0) rfl zo zo zo) (dp 8 rfl (eG A_131 Z_131 (Ht rfl) (i:=1) rfl rfl rfl) (dp 4 rfl (cX (Ht rfl)) (dp 5 rfl (cX (Ht rfl)) (cH 93 13 94 14 rfl (gX U_36 Z_35 (Ht rfl) (Ht rfl) rfl zo (by rw [Nat.mul_one,Nat.zero_add])) ?_)))))))
       refine dq 95 15 rfl (gP A_35 Z_35 (Ht rfl) (j:=0) rfl zo) (dp 10 rfl (cX (Ht rfl)) (cH 96 16 97 17 rfl (gO U_35 Z_131 (Ht rfl) (Ht rfl) rfl (j:=0) rfl zo zo zo) (dq 98 18 rfl (jL A_131 Z_131 (Ht rfl) (j:=0) rfl zo zo zo) (cH 92 12 99 19 rfl (cZ K_146 (tX (x:=F) (y:=gm S i k) (L:=G0 + 3 * G0 + 2) (M:=G0) zo) ⟨(Ht rfl),(Ht rfl),trivial⟩) (cH 91 11 100 20 rfl (cZ Tryz.call147 (Qj (x:=gm S r k) (y:=F * gm S i k) (L:=G0) (M:=G0 + 3 * G0 + 2 + G0 + 1) zo) ⟨(Ht rfl),(Ht rfl),trivial⟩) ?_)))))
       refine fG aM rfl (by kernel_rfl) (zF (zF (zF (zF (zF (aJ (aJ (aV (ro rfl (gO U_35 Z_131 (Ht rfl) (Ht rfl) rfl (j:=0) rfl zo zo zo) (Zd Z_131 (Ht rfl) (Ht rfl) (j:=0) rfl (El.ag rfl) (F:=QT) (z:=gm S r k - F * gm S i k) zo zo zo rfl (eJ (aR (cY (rm rfl (ro rfl (dW (Ht rfl) (cJ 1) z6) ?_)))))))))))))))
       refine ra rfl (eJ (gQ (k + 1) ⟨by omega,hkn⟩ zo (zS rfl) (aU (lY (congrArg _ hst)) (aU (aB rfl) aY))))
      ·have hkn : k = n := by simp only [decide_eq_false_iff_not] at he; omega
       rw [hkn,Wa]
       refine gG rfl (aR (cY (rm rfl (ro rfl (dW (Ht rfl) (cJ 1) z6) (ra rfl (eJ (cM [0] rfl (by decide) (gQ (r + 1) ⟨⟨by omega,hrn⟩,fun e=>absurd e hx0⟩ zo (zS rfl) (aU (lY (by rw [Qy hx0])) aY)))))))))
    ·have hrn : r = n := by simp only [decide_eq_false_iff_not] at hd; omega
     have hcr := cz (by
      by_cases e:gm X i i = Qi.zero
      ·exact .inr fun k h1 h2=>by rw [herm k zo h2,hcol e k h1 zo]; exact qV
      ·exact .inl e)
     have hq:=r3 hng2 hcr
     rw [hrn,fin]
     refine gG rfl (aR (cY (rm rfl (ro rfl (dW (Ht rfl) (cJ 1) z6) (ra rfl (eJ (gQ (i + 1) ⟨hin,by rw [← hq]; exact hR⟩ zo (zS rfl) (aU (fun _ _ _ h=>h) aY))))))))
  ·have hin : i = n := by simp only [decide_eq_false_iff_not] at hc; omega
   have hq:(tN h n n 0).1 = true:=by rw [← hR,hin,Nat.sub_self]; rfl
   refine gG rfl (ts (ro rfl (cQ cV) (ro rfl (cQ (cJ 0)) (eJ (bN rfl (fJ (fQ rfl) ?_) (fJ (fQ rfl) ?_))))))
   ·exact (bI (by rw [zI,if_pos hh0,hq]))
   ·exact (bB (by rw [Rd,if_pos hh0]; rfl))
end
section
open Go Go.RowKit
theorem Df {B BT : Nat} : ∀ S m V, (box B BT [Is (.bool false), Is (.slice none 0 0), Is (.bool false), Is (.slice none 0 0), Is (.slice none 0 0)]).h S m V → (box B BT [aC (decide (Qi.zero.a < 0)), aE Qi.zero.a.natAbs, aC (decide (Qi.zero.b < 0)), aE Qi.zero.b.natAbs, aE (du Qi.zero)]).h S m V := fun S m V ⟨h0, cs, h1, h2⟩ => by
 obtain ⟨vs,e,k⟩:=iQ (.agg cs.toArray) V ⟨cs,rfl,h2⟩
 have e2 : cs = vs := by
  have:=congrArg Array.toList (Value.agg.inj e)
  simpa using this
 subst e2
 exact ⟨h0,cs,h1,k⟩
theorem Iv {h : List (List Qi)} {w : List Qi} {L M k : Nat} (hf : bL h L) (hw : dN w M) (hL : 1 ≤ L) (hM : 1 ≤ M) (a : Nat) : aD (bE k fun b => (gv w a).conj * gm h a b * gv w b) (1 + k * (M + L + 1 + M + 1 + 1)) := aD.sum (L := M + L + 1 + M + 1) fun b _ => by
 haveI:=hw.get hM a; haveI:=hf.get hL a b; haveI:=hw.get hM b
 haveI f1:aD (gv w a).conj M:=fitConj
 haveI f2:aD ((gv w a).conj * gm h a b) (M + L + 1):=fitMul
 exact fitMul
theorem a0j {h:List (List Qi)} {w:List Qi} {n L M:Nat} (hs:eD h n n) (hw:w.length = n) (hf:bL h L) (hfw:dN w M) (hL:1 ≤ L) (hM:1 ≤ M) (hb:L + 2 * M ≤ 1000000000) (hn:n ≤ 32):aS Tryz.prog 75 [bS h,cB w] (gE [aP (sq n (gv w) (gv w) (gm h)),bC .i64 0]):=by
 have hsl:=hs.1
 refine aS.intro Tryz.func75 rfl Tryz.ntmps75 rfl (fun cx=>(ts (rn rfl (eK (Ts:=[Is (.bool false),Is (.slice none 0 0),Is (.bool false),Is (.slice none 0 0),Is (.slice none 0 0)]) O_51 rfl (fun V=>aW zd (aW zd (aW zd (aW zd (aW zd (aG))))))) fun B4=>(ro rfl (cQ (cJ 0)) (eJ (cK (ts (rm rfl (ro rfl (cZ Tryz.call174 (zY hs hn) ⟨(Ht rfl),trivial⟩) (ro rfl (dR (Ht rfl)) (rm rfl (fZ rfl rfl (eY rfl rfl (Ht rfl) (fun h=>cX (Ht rfl))) ?_))))))))))))
 refine fZ rfl rfl (eY rfl rfl (Ht rfl) (fun h=>dU U_29 (fW rfl h) (by rw [List.length_map,hw]))) ?_
 refine fZ rfl rfl (eY rfl rfl (Ht rfl) (fun h=>cX (Ht rfl))) (fZ rfl rfl (eY rfl rfl (Ht rfl) (fun h=>dU U_30 (fW rfl h) (by rw [List.length_map,hsl]))) ?_)
 refine fZ rfl rfl (eY rfl rfl (Ht rfl) (fun h=>gY (fW rfl h) (fW rfl h))) (ro rfl (iW (Ht rfl) (fun h=>(fW rfl h))) (eJ (jZ (Ht rfl) (by simp) ?_)))
 refine cU (ts (rn rfl (eK (Ts:=[Is (.bool false),Is (.slice none 0 0),Is (.bool false),Is (.slice none 0 0),Is (.slice none 0 0)]) O_51 rfl (fun V=>aW zd (aW zd (aW zd (aW zd (aW zd (aG))))))) fun B6=>(eJ (cK (ts (rm rfl (ro rfl (dU U_30 (Ht rfl) (by rw [List.length_map,hsl])) ?_)))))))
 refine ro rfl (cX (cJ 0)) (eJ (eU ?_))
 refine bF (fun (i : Nat) => i ≤ n) (fun (i : Nat) => n - i) (fun (i : Nat) => [(1, cB w), (4, cC B4 0), (6, cC B6 0), (22, bS h), (23, NT .i64 n), (24, NT .i64 i)]) (fun (i : Nat) => [box B4 51 [Is (.bool false), Is (.slice none 0 0), Is (.bool false), Is (.slice none 0 0), Is (.slice none 0 0)], box B6 51 [aC (decide ((bE i (fun a => bE n fun b => (gv w a).conj * gm h a b * gv w b)).a < 0)), aE (bE i (fun a => bE n fun b => (gv w a).conj * gm h a b * gv w b)).a.natAbs, aC (decide ((bE i (fun a => bE n fun b => (gv w a).conj * gm h a b * gv w b)).b < 0)), aE (bE i (fun a => bE n fun b => (gv w a).conj * gm h a b * gv w b)).b.natAbs, aE (du (bE i (fun a => bE n fun b => (gv w a).conj * gm h a b * gv w b)))]]) 0 (Nat.zero_le _)
  (zS rfl) (aU (aB rfl) (aU Df aY)) (fun i hi=>?_)
 refine ts (ro rfl (gJ (Ht rfl) (Ht rfl)) (eJ (cK (dQ (Ht rfl) (fun hc=>?_) (fun hc=>?_)))))
 ·have hin : i < n := by simp only [decide_eq_true_eq] at hc; omega
  have hri:=hs.row hin
  refine cU (cK (eU (ts (rm rfl (ro rfl (dZ U_30 Z_29 (Ht rfl) (Ht rfl) rfl (eX (eQ (d:=[]) zo))) (ro rfl (dJ A_29 Z_29 (Ht rfl)) (ra rfl (ra rfl (eJ (ts (rm rfl (ro rfl (dU U_29 (Ht rfl) (by rw [List.length_map,hri])) ?_))))))))))))
  refine ro rfl (cX (cJ 0)) (eJ (eU ?_))
  refine bF (fun (k : Nat) => k ≤ n) (fun (k : Nat) => n - k) (fun (k : Nat) => [(1, cB w), (4, cC B4 0), (6, cC B6 0), (7, NT .i64 i), (22, bS h), (23, NT .i64 n), (24, NT .i64 i), (29, cB (h.getD i [])), (30, NT .i64 n), (31, NT .i64 k)]) (fun (k : Nat) => [box B4 51 [Is (.bool false), Is (.slice none 0 0), Is (.bool false), Is (.slice none 0 0), Is (.slice none 0 0)], box B6 51 [aC (decide ((bE i (fun a => bE n fun b => (gv w a).conj * gm h a b * gv w b) + bE k (fun b => (gv w i).conj * gm h i b * gv w b)).a < 0)), aE (bE i (fun a => bE n fun b => (gv w a).conj * gm h a b * gv w b) + bE k (fun b => (gv w i).conj * gm h i b * gv w b)).a.natAbs, aC (decide ((bE i (fun a => bE n fun b => (gv w a).conj * gm h a b * gv w b) + bE k (fun b => (gv w i).conj * gm h i b * gv w b)).b < 0)), aE (bE i (fun a => bE n fun b => (gv w a).conj * gm h a b * gv w b) + bE k (fun b => (gv w i).conj * gm h i b * gv w b)).b.natAbs, aE (du (bE i (fun a => bE n fun b => (gv w a).conj * gm h a b * gv w b) + bE k (fun b => (gv w i).conj * gm h i b * gv w b)))]]) 0 (Nat.zero_le _)
   (zS rfl) (aU (aB rfl) (aU (aB (by rw [show bE 0 (fun b=>(gv w i).conj * gm h i b * gv w b) = 0 from rfl,show bE i (fun a=>bE n fun b=>(gv w a).conj * gm h a b * gv w b) + 0 = bE i (fun a=>bE n fun b=>(gv w a).conj * gm h a b * gv w b) by grind])) aY)) (fun k hk=>?_)
  refine ts (ro rfl (gJ (Ht rfl) (Ht rfl)) (eJ (cK (dQ (Ht rfl) (fun hd=>?_) (fun hd=>?_)))))
  ·have hkn : k < n := by simp only [decide_eq_true_eq] at hd; omega
   haveI f1:aD (gv w i) M:=hfw.get hM i
   haveI f2:aD (gv w k) M:=hfw.get hM k
   haveI f3:aD (gm h i k) L:=hf.get hL i k
   haveI f4:aD (gv w i).conj M:=fitConj
   haveI f5:aD ((gv w i).conj * gm h i k) (M + L + 1):=fitMul
   haveI f6:aD ((gv w i).conj * gm h i k * gv w k) (M + L + 1 + M + 1):=fitMul
   have hb1:n * (M + L + 1 + M + 1 + 1) ≤ 32 * (M + L + 1 + M + 1 + 1):=Nat.mul_le_mul_right _ hn
   have hb2:i * (1 + n * (M + L + 1 + M + 1 + 1) + 1) ≤ 32 * (1 + n * (M + L + 1 + M + 1 + 1) + 1):=Nat.mul_le_mul_right _ zo
   have hb3:k * (M + L + 1 + M + 1 + 1) ≤ 32 * (M + L + 1 + M + 1 + 1):=Nat.mul_le_mul_right _ zo
   haveI f7:aD (bE i (fun a=>bE n fun b=>(gv w a).conj * gm h a b * gv w b)) (1 + i * (1 + n * (M + L + 1 + M + 1 + 1) + 1)):=aD.sum fun a _=>Iv hf hfw hL hM a
   haveI f8:aD (bE k (fun b=>(gv w i).conj * gm h i b * gv w b)) (1 + k * (M + L + 1 + M + 1 + 1)):=Iv hf hfw hL hM i
   haveI f9:aD (bE i (fun a=>bE n fun b=>(gv w a).conj * gm h a b * gv w b) + bE k (fun b=>(gv w i).conj * gm h i b * gv w b)) (1 + i * (1 + n * (M + L + 1 + M + 1 + 1) + 1) + (1 + k * (M + L + 1 + M + 1 + 1)) + 1):=fitAdd (L:=1 + i * (1 + n * (M + L + 1 + M + 1 + 1) + 1)) (M:=1 + k * (M + L + 1 + M + 1 + 1))
   obtain ⟨N1,hN1⟩:∃ N1,N1 = 1 + i * (1 + n * (M + L + 1 + M + 1 + 1) + 1) + (1 + k * (M + L + 1 + M + 1 + 1)) + 1:=⟨_,rfl⟩
   have hN2:N1 ≤ 3000000000000:=by omega
   rw [← hN1] at f9
   refine cU (cK (eU (ts (rm rfl (ro rfl (dZ U_29 Z_51 (Ht rfl) (Ht rfl) rfl (eX (eQ (d:=Qi.zero) zo))) (ro rfl (dJ A_51 Z_51 (Ht rfl)) (rn rfl (eK (Ts:=[Is (.bool false),Is (.slice none 0 0),Is (.bool false),Is (.slice none 0 0),Is (.slice none 0 0)]) O_51 rfl (fun V=>aW zd (aW zd (aW zd (aW zd (aW zd (aG))))))) fun B10=>(ra rfl (gZ Z_51 (Ht rfl) (Ht rfl) rfl (i:=2) rfl (aK rfl) rfl rfl ?_)))))))))
   refine eJ (fV (m:=13) (dp 6 rfl (eG A_51 Z_51 (Ht rfl) (i:=1) rfl rfl rfl) (dp 1 rfl (cX (Ht rfl)) (dp 7 rfl (cX (Ht rfl)) (cH 37 1 38 2 rfl (dZ U_29 Z_51 (Ht rfl) (Ht rfl) rfl (eX (eQ (d:=Qi.zero) zo))) (dq 39 3 rfl (dJ A_51 Z_51 (Ht rfl)) (dq 40 4 rfl (cZ Tryz.call175 xJ ⟨(Ht rfl),trivial⟩) (dp 10 rfl (eG A_51 Z_51 (Ht rfl) (i:=2) rfl rfl rfl) (cH 41 5 42 6 rfl (cZ K_45 (mF (x:=(gv w i).conj) (y:=gm h i k) (L:=M) (M:=L) zo) ⟨(Ht rfl),(Ht rfl),trivial⟩) ?_)))))))))
   refine dp 1 rfl (cX (Ht rfl)) (dp 9 rfl (cX (Ht rfl)) (cH 44 8 45 9 rfl (dZ U_29 Z_51 (Ht rfl) (Ht rfl) rfl (eX (eQ (d:=Qi.zero) zo))) (dq 46 10 rfl (dJ A_51 Z_51 (Ht rfl)) (cH 43 7 47 11 rfl (cZ K_45 (mF (x:=(gv w i).conj * gm h i k) (y:=gv w k) (L:=M + L + 1) (M:=M) zo) ⟨(Ht rfl),(Ht rfl),trivial⟩) (fG aM rfl (by kernel_rfl) (zF (zF (zF (aJ (aV ?_))))))))))
   refine ro rfl (cZ K_46 (xI (x:=(bE i (fun a=>bE n fun b=>(gv w a).conj * gm h a b * gv w b) + bE k (fun b=>(gv w i).conj * gm h i b * gv w b))) (y:=(gv w i).conj * gm h i k * gv w k) (L:=N1) (M:=M + L + 1 + M + 1) zo) ⟨(Ht rfl),(Ht rfl),trivial⟩) (gZ Z_51 (Ht rfl) (Ht rfl) rfl (i:=1) rfl (aK rfl) rfl rfl (eJ (aR (cY (ro rfl (dW (Ht rfl) (cJ 1) z6) (rm rfl (eJ (cM [0,1] rfl (by decide) (gQ (k + 1) hkn zo (zS rfl) (aU (aB rfl) (aU (aB (by rw [show bE i (fun a=>bE n fun b=>(gv w a).conj * gm h a b * gv w b) + bE (k + 1) (fun b=>(gv w i).conj * gm h i b * gv w b) = ((bE i (fun a=>bE n fun b=>(gv w a).conj * gm h a b * gv w b) + bE k (fun b=>(gv w i).conj * gm h i b * gv w b)) + (gv w i).conj * gm h i k * gv w k) from (by rw [show bE (k + 1) (fun b=>(gv w i).conj * gm h i b * gv w b) = bE k (fun b=>(gv w i).conj * gm h i b * gv w b) + (gv w i).conj * gm h i k * gv w k from rfl]; grind)]; rfl)) aY)))))))))))
  ·have hkn : k = n := by simp only [decide_eq_false_iff_not] at hd; omega
   rw [hkn]
   refine gG rfl (aR (cY (ro rfl (dW (Ht rfl) (cJ 1) z6) (rm rfl (eJ (gQ (i + 1) hin zo (zS rfl) (aU (aB rfl) (aU (aB rfl) aY))))))))
 ·have hin : i = n := by simp only [decide_eq_false_iff_not] at hc; omega
  rw [hin]
  refine gG rfl (ts (ro rfl (eG A_51 Z_51 (Ht rfl) (i:=1) rfl rfl rfl) (gZ Z_51 (Ht rfl) (Ht rfl) rfl (i:=0) rfl (aK rfl) rfl rfl (ro rfl (cQ (cJ 0)) (eJ ?_)))))
  exact bN rfl (fY A_51 Z_51 rfl (i:=0) rfl rfl) (fQ rfl)
theorem Hl {z:List Qi} {s c:List (List Qi)} {L G0 V0:Nat} (hch:eD c z.length z.length) (hfc:bL c L) (hL:1 ≤ L) (hLb:L ≤ 4000000000000) (hz:iV c z.length = true → SzD c z.length G0 V0) (hl:z.length ≤ 32):aS Tryz.prog 72 [iS z s c] (gE [aC (zI c z.length),cB (Bt c z.length)]):=by
 refine aS.intro Tryz.func72 rfl Tryz.ntmps72 rfl (fun cx=>(ts (rn rfl (fU (Ht rfl)) fun B1=>(ro rfl (cQ cV) (ro rfl (cQ cV) (eJ (ts (ro rfl (eW lD (Ht rfl) rfl) (ro rfl (fX A_30 Z_30 (Ht rfl) (i:=0) rfl rfl) (ro rfl (cZ Tryz.call163 (Hi (n:=z.length) hch hfc hL hLb hz hl) ⟨(Ht rfl),trivial⟩) (rm rfl (ro rfl (dY (Ht rfl) rfl) (ro rfl (dY (Ht rfl) rfl) (ro rfl (dY (Ht rfl) rfl) (ra rfl (ra rfl (eJ (ts (rm rfl (rm rfl (ra rfl (ra rfl (eJ ?_)))))))))))))))))))))))
 exact bN rfl (fQ rfl) (fQ rfl)
theorem Dq {z:List Qi} {s c:List (List Qi)} {L G0 V0:Nat} (hch:eD c z.length z.length) (hfc:bL c L) (hL:1 ≤ L) (hLb:L ≤ 4000000000000) (hz:iV c z.length = true → SzD c z.length G0 V0) (hl:z.length ≤ 32):aS Tryz.prog 73 [mM z s c] (aC (zI c z.length)):=by
 refine aS.intro Tryz.func73 rfl Tryz.ntmps73 rfl (fun cx=>(ts (rn rfl (fU (Ht rfl)) fun B1=>(ro rfl (cQ cV) (eJ (ts (ro rfl (eW sZ (Ht rfl) rfl) (ro rfl (fX A_36 Z_36 (Ht rfl) (i:=0) rfl rfl) (ro rfl (cZ Tryz.call167 (Dn (n:=z.length) hch hfc hL hLb hz hl) ⟨(Ht rfl),trivial⟩) (rm rfl (ro rfl (dY (Ht rfl) rfl) (ro rfl (dY (Ht rfl) rfl) (ra rfl (ra rfl (eJ (ts (rm rfl (rm rfl (fZ rfl rfl (eY rfl rfl (Ht rfl) (fun h=>cX (Ht rfl))) (fZ rfl rfl (eY rfl rfl (Ht rfl) (fun h=>iH (fW rfl h) cV)) ?_))))))))))))))))))))
 refine ro rfl (dP (Ht rfl) (fun h=>(fW rfl h))) (ra rfl (eJ (fK rfl (fJ (fQ rfl) ?_))))
 exact (bI (by unfold zI Rd; by_cases e:iV c z.length = true <;> simp [e]))
end
section
open Go Go.RowKit
theorem Ms {z:List Qi} {s c:List (List Qi)} (hch:eD c z.length z.length) (hl:z.length ≤ 8):fT Tryz.prog 54 [iS z s c] [] (Nat) (fun B=>Is (.slice (some ⟨B,0,none⟩) z.length z.length)) (fun B=>[pL B 29 51 5 (bR aP (tab z.length fun i=>tab z.length fun k=>gm c i k))]) (fun _=>True):=by
 have hcl:=hch.1
 have hch2:eD c c.length c.length:=by rw [hcl]; exact hch
 refine fT.intro Tryz.func54 rfl Tryz.ntmps54 rfl (fun cx Z=>(ts (rn rfl (fU (Ht rfl)) fun B1=>(ro rfl (cQ cV) (eJ (ts (ro rfl (eG A_34 Z_34 (Ht rfl) (i:=1) rfl rfl rfl) (ro rfl (cZ Tryz.call51 Qc ⟨(Ht rfl),trivial⟩) (ro rfl (cZ K_22 nN ⟨(Ht rfl),trivial⟩) (ra rfl (eJ (ts (rm rfl (rn rfl (dH (T:=Is (.slice none 0 0)) (i:=Tryz.t29) V_30 lX rfl rfl (Ht rfl) rfl (fun _=>rfl) trivial (by show 24 * _ ≤ _; omega) zo) fun B13=>(ra rfl (eJ (cK (ts (rm rfl (ro rfl (fN U_30 (Ht rfl)) ?_))))))))))))))))))))
 refine ro rfl (cX (cJ 0)) (eJ (eU (oA 2 rfl (pD (e:=51) (s:=5)) ?_)))
 refine bF (fun (i : Nat) => i ≤ z.length) (fun (i : Nat) => z.length - i) (fun (i : Nat) => [(1, cC B1 0), (3, NT .i64 z.length), (4, Is (.slice (some ⟨B13, 0, none⟩) z.length z.length)), (15, NT .i64 z.length), (16, NT .i64 i)]) (fun (i : Nat) => [Z, box B1 34 [cB z, bS s, bS c], pL B13 29 51 5 (bR aP (jJ (fun i => tab z.length fun k => gm c i k) [] z.length i))]) 0 (Nat.zero_le _)
  (zS rfl) (aU (fun _ _ _ h=>h) (aU (aB rfl) (aU (bP (by rw [← jF,kC]; exact kL aP z.length)) aY))) (fun i hi=>?_)
 refine ts (ro rfl (gJ (Ht rfl) (Ht rfl)) (eJ (cK (dQ (Ht rfl) (fun hd=>?_) (fun hd=>?_)))))
 ·simp only [decide_eq_true_eq] at hd
  refine oR 2 (i) rfl (jS hd) (fun v=>(cU (cK (eU (ts (rm rfl (ra rfl (eJ (ts (rm rfl (ro rfl (cX (cJ 0)) (eJ (eU ?_)))))))))))))
  refine eH (fun (k : Nat) (v : Value) => k ≤ z.length) (fun (k : Nat) (v : Value) => z.length - k) (fun (k : Nat) (v : Value) => [(1, cC B1 0), (3, NT .i64 z.length), (4, Is (.slice (some ⟨B13, 0, none⟩) z.length z.length)), (5, NT .i64 i), (15, NT .i64 z.length), (16, NT .i64 i), (19, NT .i64 z.length), (20, NT .i64 k)]) (fun (k : Nat) (v : Value) => [Z, box B1 34 [cB z, bS s, bS c], Ig B13 29 51 5 (bR aP (jJ (fun i => tab z.length fun k => gm c i k) [] z.length i)) i v, bO 51 5 v ((tab k fun k => gm c i k).map aP)]) 0 v (Nat.zero_le _)
   (zS rfl) (cL.refl _) (fun k v hk=>?_)
  refine ts (ro rfl (gJ (Ht rfl) (Ht rfl)) (eJ (cK (dQ (Ht rfl) (fun he=>?_) (fun he=>?_)))))
  ·simp only [decide_eq_true_eq] at he
   refine cU (cK (eU (ts (rm rfl (ra rfl (eJ (ts (ro rfl (eG A_34 Z_34 (Ht rfl) (i:=1) rfl rfl rfl) (rm rfl (ro rfl (dW (Ht rfl) (cJ 1) z6) (rm rfl (ro rfl (dW (Ht rfl) (cJ 1) z6) (ro rfl (cZ Tryz.call87 (eZ (Kd (z:=z) (s:=s) (c:=c) (i:=((i + 1:Nat):Int)) (j:=((k + 1:Nat):Int)) hch2 zo) (a1x zo zo)) ⟨(Ht rfl),(Ht rfl),(Ht rfl),trivial⟩) ?_)))))))))))))
   refine rm rfl (ro rfl (dY (Ht rfl) rfl) (ro rfl (dY (Ht rfl) rfl) (rn rfl (eK (Ts:=[Is (.bool false),Is (.slice none 0 0),Is (.bool false),Is (.slice none 0 0),Is (.slice none 0 0)]) O_51 rfl (fun V=>aW zd (aW zd (aW zd (aW zd (aW zd (aG))))))) fun B7=>(gZ Z_51 (Ht rfl) (Ht rfl) rfl (i:=4) rfl (aK rfl) rfl rfl (ra rfl (eJ (Y.D_startA (m:=9) [] 8 3 rfl rfl (bY (Ei:=[(4,_)]) rfl rfl (bQ (bJ rfl rfl) bX) rfl rfl (dX rfl (cX (Ht rfl))) ?_))))))))
   refine bY (Ei:=[(5,_)]) rfl rfl (bQ (bJ rfl rfl) bX) rfl rfl (dX rfl (cX (Ht rfl))) (bY (Ei:=[(4,_)]) rfl rfl (bQ (bJ rfl rfl) bX) rfl rfl (dX rfl (cX (Ht rfl))) (bY (Ei:=[(5,_)]) rfl rfl (bQ (bJ rfl rfl) bX) rfl rfl (dX rfl (cX (Ht rfl))) (bY (Ei:=[(34,_),(35,_)]) rfl rfl (bQ (bZ 2 rfl rfl) (bQ (bZ 3 rfl rfl) bX)) rfl rfl (dX rfl (gX U_30 Z_29 (Ht rfl) (Ht rfl) rfl zo (by rw [Nat.mul_one,Nat.zero_add]))) ?_)))
   refine bY (Ei:=[(36,_)]) rfl rfl (bQ (bZ 4 rfl rfl) bX) rfl rfl (dX rfl (jK A_29 Z_29 (Ht rfl) (j:=2) rfl)) (bY (Ei:=[(7,_)]) rfl rfl (bQ (bJ rfl rfl) bX) rfl rfl (dX rfl (eG A_51 Z_51 (Ht rfl) (i:=4) rfl rfl rfl)) (bY (Ei:=[(38,_)]) rfl rfl (bQ (bZ 6 rfl rfl) bX) rfl rfl (dX rfl (dA (xs:=[.tmp 38]) U_29 Z_51 O_51 (cW (Ht rfl) cG) rfl rfl rfl)) (Y.D_app (Ei:=[(37,_),(39,_)]) rfl rfl rfl rfl (bQ (bZ 5 rfl rfl) (bQ (bZ 7 rfl rfl) bX)) rfl (pM (inf:=Tryz.t51) nG lE rfl rfl rfl (Ht rfl) (Ht rfl) (by simp) (fun T hT=>by simp at hT; subst hT; exact El.ag rfl) (by show _ * 88 ≤ _; simp only [List.length_map,aT,List.length_cons,List.length_nil]; omega) (by simp only [List.length_map,aT,List.length_cons,List.length_nil]; omega)) ?_)))
   refine Y.D_done aM rfl (by kernel_rfl) rfl (by simp [Y.okP]) rfl rfl (bU (bU (bU (bU (bU (bU (bU (bU (Y.F_app (fun v2=>Y.F_nil ?_))))))))))
   refine ro rfl (gX U_30 Z_29 (Ht rfl) (Ht rfl) rfl zo (by rw [Nat.mul_one,Nat.zero_add])) ?_
   refine pO Z_29 (Ht rfl) (Ht rfl) (by simp only [bR,List.length_map,eR]; omega) (j:=2) (l:=5) rfl rfl rfl ?_
   refine eJ (aR (cY (ro rfl (dW (Ht rfl) (cJ 1) z6) (rm rfl (eJ (cM [0,1,2,5] rfl (by decide) (gQ (k + 1,v2) he (by dsimp only; omega) (zS rfl) (aU (fun _ _ _ h=>h) (aU (aB rfl) (aU (fun _ _ _ h=>h) (aU (bT (by rw [qO,List.map_append]; rfl)) aY)))))))))))
  ·simp only [decide_eq_false_iff_not] at he
   obtain rfl:k = z.length:=Nat.le_antisymm hk zo
   refine gG rfl (aR (fR 2 3 rfl rfl (by decide) (by simp only [bR,List.length_map,eR]; omega) ?_))
   refine cY (ro rfl (dW (Ht rfl) (cJ 1) z6) (rm rfl (eJ (cM [0,1,2] rfl (by decide) (gQ (i + 1) hd zo (zS rfl) (aU (fun _ _ _ h=>h) (aU (aB rfl) (aU (bP (by rw [gI,← kP (f:=(fun i=>tab z.length fun k=>gm c i k))])) aY))))))))
 ·simp only [decide_eq_false_iff_not] at hd
  obtain rfl:i = z.length:=Nat.le_antisymm hi zo
  refine gG rfl (ts (rm rfl (ra rfl (eJ ?_))))
  exact iT B13 trivial [0,2] ⟨⟨_,rfl,fun _ _ _ h=>h⟩,⟨_,rfl,(bP (by rw [kO]))⟩,trivial⟩ (by decide) (pH rfl (fQ rfl))
theorem Qb {z : List Qi} {s c : List (List Qi)} (hch : eD c z.length z.length) (hl : z.length ≤ 8) : aS Tryz.prog 54 [iS z s c] (bS c) := (Ms hch hl).fun fun B _ v S V h1 h2 => by
 have h3:=jB (s:=5) (M:=(tab z.length fun i=>tab z.length fun k=>gm c i k)) (aT _ _).symm v S V h1 h2
 rw [← lZ hch] at h3; exact h3
def Ui (h:List (List Qi)) (n:Nat):Bool:=decide (∀ i,i < n → ∀ k,k < n → gm h i k = Qi.zero)
theorem Vl {h:List (List Qi)} {n:Nat} (hs:eD h n n) (hn:n ≤ 32):aS Tryz.prog 180 [QM h] (aC (Ui h n)):=by
 have hsl:=hs.1
 refine aS.intro Tryz.func180 rfl Tryz.ntmps180 rfl (fun cx=>(ts (ro rfl (cQ cV) (eJ (cK (ts (ro rfl (cQ (cJ 0)) (eJ (eU ?_)))))))))
 refine bF (fun (i : Nat) => i ≤ n ∧ ∀ a, a < i → ∀ b, b < n → gm h a b = Qi.zero) (fun (i : Nat) => n - i) (fun (i : Nat) => [(0, QM h), (3, NT .i64 i)]) (fun (i : Nat) => []) 0 ⟨Nat.zero_le _, fun a h => by omega⟩
  (zS rfl) aY (fun i ⟨hi,hh⟩=>?_)
 refine cK (ts (rm rfl (rm rfl (ro rfl (dU U_36 (Ht rfl) (by rw [List.length_map,hsl])) ?_))))
 refine ro rfl (gJ (Ht rfl) (Ht rfl)) (eJ (dQ (Ht rfl) (fun hc=>?_) (fun hc=>?_)))
 ·have hin : i < n := by simp only [decide_eq_true_eq] at hc; omega
  have hri:=hs.row hin
  refine cU (cK (eU (ts (ro rfl (cQ (cJ 0)) (eJ (eU ?_))))))
  refine bF (fun (k : Nat) => k ≤ n ∧ ∀ b, b < k → gm h i b = Qi.zero) (fun (k : Nat) => n - k) (fun (k : Nat) => [(0, QM h), (3, NT .i64 i), (4, NT .i64 k)]) (fun (k : Nat) => []) 0 ⟨Nat.zero_le _, fun b h => by omega⟩
   (zS rfl) aY (fun k ⟨hk,hk0⟩=>?_)
  refine cK (ts (rm rfl (rm rfl (rm rfl (ro rfl (dZ U_36 Z_35 (Ht rfl) (Ht rfl) rfl (eX (eQ (d:=[]) zo))) (ro rfl (dJ A_35 Z_35 (Ht rfl)) (ro rfl (dU U_35 (Ht rfl) (by rw [List.length_map,hri])) ?_)))))))
  refine ro rfl (gJ (Ht rfl) (Ht rfl)) (eJ (dQ (Ht rfl) (fun hd=>?_) (fun hd=>?_)))
  ·have hkn : k < n := by simp only [decide_eq_true_eq] at hd; omega
   refine cU (cK (eU (ts (rm rfl (rm rfl (ro rfl (dZ U_36 Z_35 (Ht rfl) (Ht rfl) rfl (eX (eQ (d:=[]) zo))) (ro rfl (dJ A_35 Z_35 (Ht rfl)) (rm rfl (ro rfl (dZ U_35 Z_131 (Ht rfl) (Ht rfl) rfl (eX (eQ (d:=Qi.zero) zo))) (ro rfl (dJ A_131 Z_131 (Ht rfl)) (ro rfl (cZ Tryz.call166 (Bm (x:=gm h i k)) ⟨(Ht rfl),trivial⟩) (ro rfl (dR (Ht rfl)) (eJ (dQ (Ht rfl) (fun he=>?_) (fun he=>?_)))))))))))))))
   ·have hne : ¬ gm h i k = Qi.zero := by simpa using he
    have hf0 : Ui h n = false := by
     have:¬ Ui h n = true:=fun e=>hne (of_decide_eq_true e i hin k hkn)
     simpa using this
    refine ts (ro rfl (cQ cV) (eJ (fK rfl (fJ (fQ rfl) ?_))))
    exact (bI hf0.symm)
   ·have heq : gm h i k = Qi.zero := by simpa using he
    refine cU (aR (cY (rm rfl (ro rfl (dW (Ht rfl) (cJ 1) z6) (ra rfl (eJ ?_))))))
    refine gQ (k + 1) ⟨hkn, fun b h1 => by
      by_cases e:b = k
      ·rw [e]; exact heq
      ·exact hk0 b zo⟩ zo (zS rfl) aY
  ·have hkn : k = n := by simp only [decide_eq_false_iff_not] at hd; omega
   refine gG rfl (aR (cY (rm rfl (ro rfl (dW (Ht rfl) (cJ 1) z6) (ra rfl (eJ ?_))))))
   refine gQ (i + 1) ⟨hin, fun a h1 b h2 => by
     by_cases e:a = i
     ·rw [e]; exact hk0 b zo
     ·exact hh a zo b h2⟩ zo (zS rfl) aY
 ·have hin : i = n := by simp only [decide_eq_false_iff_not] at hc; omega
  have hf0:Ui h n = true:=decide_eq_true (fun a h1 b h2=>hh a zo b h2)
  refine gG rfl (ts (ro rfl (cQ cV) (eJ (fK rfl (fJ (fQ rfl) ?_)))))
  exact (bI hf0.symm)
end
section
open Go Go.RowKit
theorem xS {t y z:Qi} (h:t * y = z) (hy:¬ y = Qi.zero):z / y = t:=by
 have e:=sA (x:=z) (y:=y) hy
 have e2:(z / y - t) * y = 0:=by grind
 rcases nV e2 with k | k
 ·grind
 ·exact absurd k hy
section
variable (c x:List (List Qi)) (n:Nat)
def Gu (i k:Nat):Bool:=decide (∀ a,a < i + 1 → ∀ b,b < n → a < i ∨ b < k → gm c a b = Qi.zero)
def yV (i : Nat) : Nat → Bool × Qi → Bool × Qi
 | 0,st=>st
 | k + 1,st=>if (yV i k st).1 = false ∧ ¬ gm x i k = Qi.zero then (true,gm c i k / gm x i k) else yV i k st
def pK : Nat → Bool × Qi
 | 0=>(false,Qi.zero)
 | i + 1=>yV c x i n (pK i)
def Cr (t:Qi):Bool:=decide (∀ i,i < n → ∀ k,k < n → t * gm x i k = gm c i k)
def Oo:Qi × Bool:=if Gu c n n 0 = true then (Qi.zero,true) else if (pK c x n n).1 = false ∨ lM (pK c x n n).2 = false then (Qi.zero,false) else if Cr c x n (pK c x n n).2 = true then ((pK c x n n).2,true) else (Qi.zero,false)
def Cu (i : Nat) : Nat → Qi → Qi
 | 0,t=>t
 | k + 1,t=>if gm x i k = Qi.zero then Cu i k t else gm c i k / gm x i k
def vB : Nat → Qi
 | 0=>Qi.zero
 | i + 1=>Cu c x i n (vB i)
end
section
variable {c x:List (List Qi)} {n:Nat}
theorem Yu {i:Nat}:Gu c n i n = Gu c n (i + 1) 0:=by
 unfold Gu
 apply decide_eq_decide.2
 constructor
 ·intro h a ha b hb k
  by_cases e:a < i + 1
  ·exact h a e b hb zo
  ·omega
 ·intro h a ha b hb k
  exact h a zo b hb zo
theorem Og:Gu c n 0 0 = true:=decide_eq_true fun a ha b hb k=>by omega
theorem Gi {i k:Nat} (hk:k < n):Gu c n i (k + 1) = (Gu c n i k && decide (gm c i k = Qi.zero)):=by
 rw [Bool.eq_iff_iff,Bool.and_eq_true]
 unfold Gu
 simp only [decide_eq_true_eq]
 constructor
 ·intro h
  exact ⟨fun a ha b hb k2=>h a ha b hb zo,h i zo k hk zo⟩
 ·rintro ⟨h1, h2⟩ a ha b hb k2
  by_cases e:a < i ∨ b < k
  ·exact h1 a ha b hb e
  ·rw [show a = i by omega,show b = k by omega]; exact h2
theorem Md {L M i : Nat} (hc : bL c L) (hx : bL x M) (hL : 1 ≤ L) (hM : 1 ≤ M) {st : Bool × Qi} (h : aD st.2 (L + 3 * M + 2)) : ∀ k, aD (yV c x i k st).2 (L + 3 * M + 2)
 | 0=>h
 | k + 1 => by
  rw [yV]; split
  ·rename_i e; exact nS (hc.get hL i k) (hx.get hM i k) e.2
  ·exact Md hc hx hL hM h k
theorem Ct {L M : Nat} (hc : bL c L) (hx : bL x M) (hL : 1 ≤ L) (hM : 1 ≤ M) : ∀ i, aD (pK c x n i).2 (L + 3 * M + 2)
 | 0=>aD.zero zo
 | i + 1=>Md hc hx hL hM (Ct hc hx hL hM i) n
end
def vT (p:Nat → Nat → Bool) (n i k:Nat):Bool:=decide (∀ a,a < i + 1 → ∀ b,b < n → a < i ∨ b < k → p a b = true)
theorem Pj {p:Nat → Nat → Bool} {n i:Nat}:vT p n i n = vT p n (i + 1) 0:=by
 unfold vT
 apply decide_eq_decide.2
 constructor
 ·intro h a ha b hb k
  by_cases e:a < i + 1
  ·exact h a e b hb zo
  ·omega
 ·intro h a ha b hb k
  exact h a zo b hb zo
theorem Hb {p:Nat → Nat → Bool} {n:Nat}:vT p n 0 0 = true:=decide_eq_true fun a ha b hb k=>by omega
theorem Mm {p:Nat → Nat → Bool} {n i k:Nat} (hk:k < n):vT p n i (k + 1) = (vT p n i k && p i k):=by
 rw [Bool.eq_iff_iff,Bool.and_eq_true]
 unfold vT
 simp only [decide_eq_true_eq]
 constructor
 ·intro h
  exact ⟨fun a ha b hb k2=>h a ha b hb zo,h i zo k hk zo⟩
 ·rintro ⟨h1, h2⟩ a ha b hb k2
  by_cases e:a < i ∨ b < k
  ·exact h1 a ha b hb e
  ·rw [show a = i by omega,show b = k by omega]; exact h2
theorem Pi {p:Nat → Nat → Bool} {n:Nat}:vT p n n 0 = true ↔ ∀ a,a < n → ∀ b,b < n → p a b = true:=by
 unfold vT
 simp only [decide_eq_true_eq]
 exact ⟨fun h a ha b hb=>h a zo b hb (.inl ha),fun h a ha b hb k=>h a zo b hb⟩
def Rp (c x:List (List Qi)) (t:Qi) (a b:Nat):Bool:=decide (gm c a b = t * gm x a b)
theorem Wk {c x:List (List Qi)} {n:Nat} {t:Qi}:vT (Rp c x t) n n 0 = Cr c x n t:=by
 rw [Bool.eq_iff_iff,Pi]
 unfold Cr Rp
 simp only [decide_eq_true_eq]
 exact ⟨fun h a ha b hb=>(h a ha b hb).symm,fun h a ha b hb=>(h a ha b hb).symm⟩
section
variable (c x:List (List Qi)) (n:Nat)
def wS:Qi:=if lM (vB c x n n) = true then vB c x n n else Qi.zero
def zM:Bool:=decide (∀ i,i < n → ∀ k,k < n → gm c i k = Qi.zero)
def tlP:Qi × Bool:=if Cr c x n (wS c x n) = true then (if zM c n = true then Qi.zero else wS c x n,true) else if Cr c x n Qi.zero = true then (Qi.zero,true) else (Qi.zero,false)
end
section
variable {c x:List (List Qi)} {n:Nat}
theorem Mf {L M i : Nat} (hc : bL c L) (hx : bL x M) (hL : 1 ≤ L) (hM : 1 ≤ M) {t : Qi} (h : aD t (L + 3 * M + 2)) : ∀ k, aD (Cu c x i k t) (L + 3 * M + 2)
 | 0=>h
 | k + 1 => by
  rw [Cu]; split
  ·exact Mf hc hx hL hM h k
  ·rename_i e; exact nS (hc.get hL i k) (hx.get hM i k) e
theorem Me {L M : Nat} (hc : bL c L) (hx : bL x M) (hL : 1 ≤ L) (hM : 1 ≤ M) : ∀ i, aD (vB c x n i) (L + 3 * M + 2)
 | 0=>aD.zero zo
 | i + 1=>Mf hc hx hL hM (Me hc hx hL hM i) n
theorem Yv {D:Nat} (h:aD (vB c x n n) D) (hD:1 ≤ D):aD (wS c x n) D:=by
 unfold wS; split
 ·exact h
 ·exact aD.zero hD
theorem Gj {i : Nat} {st : Bool × Qi} {t : Qi} (ht : ∀ k, k < n → t * gm x i k = gm c i k) (hs : st.1 = true → st.2 = t) : ∀ k, k ≤ n → (yV c x i k st).1 = true → (yV c x i k st).2 = t
 | 0,_=>hs
 | k + 1, hk => by
  rw [yV]; split
  ·rename_i e
   intro _
   exact xS (ht k zo) e.2
  ·exact Gj ht hs k zo
theorem Gh {t : Qi} (ht : ∀ i, i < n → ∀ k, k < n → t * gm x i k = gm c i k) : ∀ i, i ≤ n → (pK c x n i).1 = true → (pK c x n i).2 = t
 | 0,_,h=>by cases h
 | i + 1,hi,h=>Gj (ht i zo) (fun h=>Gh ht i zo h) n (Nat.le_refl n) h
theorem Uc {i : Nat} {st : Bool × Qi} : ∀ k, (yV c x i k st).1 = false → st.1 = false ∧ ∀ j, j < k → gm x i j = Qi.zero
 | 0,h=>⟨h,fun j hj=>by omega⟩
 | k + 1, h => by
  rw [yV] at h
  split at h
  ·cases h
  ·rename_i e
   obtain ⟨a,b⟩:=Uc k h
   refine ⟨a,fun j hj=>?_⟩
   by_cases c2:j = k
   ·subst c2; exact Decidable.byContradiction fun k2=>e ⟨h,k2⟩
   ·exact b j zo
theorem Ub : ∀ i, (pK c x n i).1 = false → ∀ a, a < i → ∀ k, k < n → gm x a k = Qi.zero
 | 0,_,a,ha=>by omega
 | i + 1, h, a, ha => by
  obtain ⟨p,q⟩:=Uc n h
  intro k hk
  by_cases e:a = i
  ·subst e; exact q k hk
  ·exact Ub i p a zo k hk
theorem Gl {i : Nat} {u : Qi} : ∀ k, (∀ j, j < k → gm x i j = Qi.zero) → Cu c x i k u = u
 | 0,_=>rfl
 | k + 1,h=>by rw [Cu,if_pos (h k zo)]; exact Gl k fun j hj=>h j zo
theorem Gk {i : Nat} {t : Qi} (ht : ∀ k, k < n → t * gm x i k = gm c i k) : ∀ k, k ≤ n → (∃ j, j < k ∧ ¬ gm x i j = Qi.zero) → ∀ u, Cu c x i k u = t
 | 0,_,h,_=>by obtain ⟨j,hj,_⟩:=h; omega
 | k + 1, hk, h, u => by
  rw [Cu]; split
  ·rename_i e
   obtain ⟨j,hj,hne⟩:=h
   exact Gk ht k zo ⟨j, by
    by_cases c2:j = k
    ·subst c2; exact absurd e hne
    ·omega,hne⟩ u
  ·rename_i e; exact xS (ht k zo) e
theorem yW {t : Qi} (ht : ∀ i, i < n → ∀ k, k < n → t * gm x i k = gm c i k) : ∀ i, i ≤ n → (∃ a, a < i ∧ ∃ j, j < n ∧ ¬ gm x a j = Qi.zero) → vB c x n i = t
 | 0,_,h=>by obtain ⟨a,ha,_⟩:=h; omega
 | i + 1, hi, h => by
  show Cu c x i n (vB c x n i) = t
  by_cases e:∃ j,j < n ∧ ¬ gm x i j = Qi.zero
  ·exact Gk (ht i zo) n (Nat.le_refl n) e _
  ·have z : ∀ j, j < n → gm x i j = Qi.zero := fun j hj => Decidable.byContradiction fun k => e ⟨j, hj, k⟩
   rw [Gl n z]
   obtain ⟨a,ha,j,hj,hne⟩:=h
   refine yW ht i zo ⟨a,?_,j,hj,hne⟩
   by_cases c2:a = i
   ·subst c2; exact absurd (z j hj) hne
   ·omega
theorem Yt:Gu c n n 0 = true ↔ zM c n = true:=by
 unfold Gu zM
 simp only [decide_eq_true_eq]
 exact ⟨fun h a ha b hb=>h a zo b hb (.inl ha),fun h a ha b hb k=>h a zo b hb⟩
theorem tM {t:Qi}:Cr c x n t = true ↔ ∀ i,i < n → ∀ k,k < n → t * gm x i k = gm c i k:=decide_eq_true_iff
theorem a1I:Oo c x n = tlP c x n:=by
 have zq:=Yt (c:=c) (n:=n)
 by_cases q:zM c n = true
 ·have hc : ∀ i, i < n → ∀ k, k < n → gm c i k = Qi.zero := of_decide_eq_true q
  have hA : Cr c x n (wS c x n) = true := by
   rw [tM]
   by_cases e:∃ a,a < n ∧ ∃ j,j < n ∧ ¬ gm x a j = Qi.zero
   ·have z : vB c x n n = 0 := yW (t := 0) (fun i hi k hk => by rw [hc i hi k hk]; show 0 * gm x i k = 0; grind) n (Nat.le_refl n) e
    have z2 : wS c x n = 0 := by
     unfold wS; rw [z]; split
     ·rfl
     ·rfl
    intro i hi k hk
    rw [z2,hc i hi k hk]; show 0 * gm x i k = 0; grind
   ·intro i hi k hk
    have hx:gm x i k = Qi.zero:=Decidable.byContradiction fun k2=>e ⟨i,hi,k,hk,k2⟩
    rw [hx,hc i hi k hk]; show wS c x n * 0 = 0; grind
  rw [Oo,if_pos (zq.2 q),tlP,if_pos hA,if_pos q]
 ·have n0 : ¬ Cr c x n Qi.zero = true := fun e => q (decide_eq_true fun i hi k hk => by
   have:=tM.1 e i hi k hk
   rw [← this]; show 0 * gm x i k = 0; grind)
  have nx : (∀ a, a < n → ∀ k, k < n → gm x a k = Qi.zero) → ∀ t, ¬ Cr c x n t = true := fun h t e => q (decide_eq_true fun i hi k hk => by
   have:=tM.1 e i hi k hk
   rw [← this,h i hi k hk]; show t * 0 = 0; grind)
  rw [Oo,if_neg (fun e=>q (zq.1 e)),tlP]
  by_cases f:(pK c x n n).1 = false
  ·rw [if_pos (.inl f),if_neg (nx (Ub n f) _),if_neg n0]
  ·have f1 : (pK c x n n).1 = true := by simpa using f
   have key : Cr c x n (wS c x n) = true → (pK c x n n).2 = wS c x n ∧ lM (wS c x n) = true := fun e => by
    have a:=Gh (tM.1 e) n (Nat.le_refl n) f1
    refine ⟨a,?_⟩
    by_cases w:lM (vB c x n n) = true
    ·rw [wS,if_pos w]; exact w
    ·exfalso
     have z:wS c x n = Qi.zero:=by rw [wS,if_neg w]
     rw [z] at e; exact n0 e
   by_cases w:lM (pK c x n n).2 = true
   ·rw [if_neg (by rw [w, f1]; decide)]
    by_cases t:Cr c x n (pK c x n n).2 = true
    ·have e : ∃ a, a < n ∧ ∃ j, j < n ∧ ¬ gm x a j = Qi.zero := Decidable.byContradiction fun k => nx (fun a ha j hj => Decidable.byContradiction fun k2 => k ⟨a, ha, j, hj, k2⟩) _ t
     have l:=yW (tM.1 t) n (Nat.le_refl n) e
     have l2:wS c x n = (pK c x n n).2:=by rw [wS,l,if_pos w]
     rw [if_pos t,l2,if_pos t,if_neg q]
    ·rw [if_neg t,if_neg (fun e=>by have:=key e; rw [this.1] at t; exact t e),if_neg n0]
   ·rw [if_pos (.inr (by simpa using w)),if_neg (fun e=>by have:=key e; rw [this.1] at w; exact w this.2),if_neg n0]
end
section
variable {h:List (List Qi)} {n G V:Nat}
theorem Ko : ∀ f i, (tN h n f i).1 = true → (tN h n f i).2 = []
 | 0,_,_=>rfl
 | f + 1, i, k => by
  rw [tN] at k ⊢
  by_cases c1:Ak (gm (gN h n i).1 i i) = true
  ·rw [if_pos c1] at k; cases k
  ·rw [if_neg c1] at k ⊢
   by_cases c2:vF (gN h n i).1 (gN h n i).2 n i ≠ []
   ·rw [if_pos c2] at k; cases k
   ·rw [if_neg c2] at k ⊢; exact Ko f (i + 1) k
theorem Wf (k:zI h n = true ∨ ¬ iV h n = true):Bt h n = []:=by
 unfold Bt
 by_cases c:iV h n = true
 ·rw [if_pos c]
  have:=k.resolve_right (fun e=>e c)
  rw [zI,if_pos c] at this
  exact Ko n 0 this
 ·rw [if_neg c]
theorem Vv {A U:List (List Qi)} {i:Nat} (hA:bL A G) (hU:bL U V) (h1:1 ≤ G) (h2:1 ≤ V):dN (vF A U n i) (2 * V + 20 * G + 40):=by
 unfold vF
 split
 ·split
  ·intro x hx
   obtain ⟨a,ha,rfl⟩:=gB.1 hx
   generalize Na A n i = k
   have g1:=hA.get h1 i k
   have g2:=hA.get h1 k k
   haveI f1:=g1
   haveI f2:=g2
   haveI f3 : aD (Gt (gm A k k)) G := by
    unfold Gt; split
    ·exact fitNeg
    ·exact g2
   haveI f0:=wL
   have fs : aD (qW A i k) (14 * G + 30) := by
    by_cases e:gm A i k = 0
    ·have z : (gm A i k).norm + (gm A i k).norm = 0 := by rw [e]; decide +kernel
     have z2 : qW A i k = 0 := by
      unfold qW; rw [z]; rw [Qi.div_def]; show _ * Qi.inv 0 = 0; rw [show Qi.inv 0 = 0 by decide +kernel]; grind
     rw [z2]; exact aD.zero zo
    ·haveI g4 : aD (gm A i k).norm (G + G + 1) := fitNorm
     haveI g5:aD ((gm A i k).norm + (gm A i k).norm) (G + G + 1 + (G + G + 1) + 1):=fitAdd (L:=G + G + 1) (M:=G + G + 1)
     haveI g6:aD (Gt (gm A k k) + Qi.ofInt 1) (G + 1 + 1):=fitAdd (L:=G) (M:=1)
     exact (nS g6 g5 (yF e)).le zo
   haveI f4:=fs
   haveI f5:aD (-(qW A i k)) (14 * G + 30):=fitNeg
   haveI f6:aD (-(qW A i k) * gm A i k) (14 * G + 30 + G + 1):=fitMul
   haveI f7:aD (gv (U.getD i []) a) V:=(hU.row i).get h2 a
   haveI f8:aD (gv (U.getD k []) a) V:=(hU.row k).get h2 a
   haveI f9:aD (-(qW A i k) * gm A i k * gv (U.getD i []) a) (14 * G + 30 + G + 1 + V + 1):=fitMul
   exact (fitAdd (x:=gv (U.getD k []) a) (y:=-(qW A i k) * gm A i k * gv (U.getD i []) a) (L:=V) (M:=14 * G + 30 + G + 1 + V + 1)).le zo
  ·exact dN.nil
 ·exact dN.nil
theorem Km (hz : SzD h n G V) : ∀ f i, i + f = n → dN (tN h n f i).2 (2 * V + 20 * G + 40)
 | 0,_,_=>dN.nil
 | f + 1, i, hf => by
  rw [tN]
  split
  ·exact fun x hx=>((hz.v i zo).row i x hx).le zo
  ·split
   ·exact Vv (hz.g i zo) (hz.v i zo) hz.g1 hz.v1
   ·exact Km hz f (i + 1) zo
theorem We (hz:SzD h n G V):dN (Bt h n) (2 * V + 20 * G + 40):=by
 unfold Bt; split
 ·exact Km hz n 0 zo
 ·exact dN.nil
theorem Wg (hs:eD h n n) (c:iV h n = true) (k:¬ zI h n = true):Ak (sq n (gv (Bt h n)) (gv (Bt h n)) (gm h)) = true ∧ (Bt h n).length = n:=by
 have k2 : (tN h n n 0).1 = false := by
  rw [zI,if_pos c] at k; simpa using k
 have:=Kp hs c n 0 zo k2
 rw [Bt,if_pos c]; exact this
end
end
section
open Go Go.RowKit
theorem Qp {z:List Qi} {s:List (List Qi)} {L:Nat} (hz:dN z L) (hs:bL s L) (hL1:1 ≤ L) (hL:L ≤ 10000000) (hsh:eD s z.length z.length) (hl:z.length ≤ 8):aS Tryz.prog 160 [nZ z s] (bS (jT z s)):=by
 cases z with
 | nil =>
  have e:s = []:=List.length_eq_zero_iff.1 hsh.1
  subst e
  exact Qo
 | cons x z=>exact (Ds hz hs hL1 hL hsh (by simp) hl).fun fun B _ v S V h1 h2=>jB (s:=5) (M:=jT (x :: z) s) (qH _ _).1.symm v S V h1 h2
theorem Lj {q r:Bool}:(if q = true then r else false) = (q && r):=by cases q <;> rfl
theorem Mp {z:List Qi} {s c:List (List Qi)} {L:Nat} (hz:dN z L) (hs:bL s L) (hc:bL c L) (hL:1 ≤ L) (hLb:L ≤ 1000000) (hsh:eD s z.length z.length) (hch:eD c z.length z.length) (hl:z.length ≤ 8):aS Tryz.prog 78 [iS z s c] (gE [aP (Oo c (jT z s) z.length).1,aC (Oo c (jT z s) z.length).2]):=by
 have hT:=Qp hz hs hL zo hsh hl
 have hxs:=qH z s
 have hxf:=qG hz hs hL hl
 generalize jT z s = x at *
 have hcl:=hch.1
 have hxl:=hxs.1
 obtain ⟨n,hn⟩:∃ n,n = z.length:=⟨_,rfl⟩
 rw [← hn] at hch hxs hcl hxl ⊢
 obtain ⟨M,hM⟩:∃ M,M = 201 * L + 301:=⟨_,rfl⟩
 rw [← hM] at hxf
 have hM1:1 ≤ M:=by omega
 obtain ⟨D,hD⟩:∃ D,D = L + 3 * M + 2:=⟨_,rfl⟩
 have hDb:D ≤ 1000000000:=by omega
 refine aS.intro Tryz.func78 rfl Tryz.ntmps78 rfl (fun cx=>(ts (rn rfl (fU (Ht rfl)) fun B1=>(rn rfl (eK (Ts:=[Is (.bool false),Is (.slice none 0 0),Is (.bool false),Is (.slice none 0 0),Is (.slice none 0 0)]) O_51 rfl (fun V=>aW zd (aW zd (aW zd (aW zd (aW zd (aG))))))) fun B2=>(ro rfl (cQ cV) (eJ (ts (ro rfl (eW wI (Ht rfl) rfl) (ro rfl (eG A_32 Z_32 (Ht rfl) (i:=0) rfl rfl rfl) (ro rfl (cZ Tryz.call160 hT ⟨(Ht rfl),trivial⟩) ?_))))))))))
 refine ra rfl (eJ (ts (ro rfl (cQ cV) (ro rfl (cQ cV) (eJ (ts (rn rfl (eK (Ts:=[Is (.bool false),Is (.slice none 0 0),Is (.bool false),Is (.slice none 0 0),Is (.slice none 0 0)]) O_51 rfl (fun V=>aW zd (aW zd (aW zd (aW zd (aW zd (aG))))))) fun B7=>(eJ (cK (ts (rm rfl (ro rfl (dU U_30 (Ht rfl) (by rw [List.length_map,hxl])) ?_))))))))))))
 refine ro rfl (cX (cJ 0)) (eJ (eU ?_))
 refine bF (fun (i : Nat) => i ≤ n) (fun (i : Nat) => n - i) (fun (i : Nat) => [(1, cC B1 0), (2, cC B2 0), (4, bS x), (5, aC (Gu c n i 0)), (6, aC (pK c x n i).1), (7, cC B7 0), (19, bS x), (20, NT .i64 n), (21, NT .i64 i)]) (fun (i : Nat) => [box B1 34 [cB z, bS s, bS c], box B2 51 [Is (.bool false), Is (.slice none 0 0), Is (.bool false), Is (.slice none 0 0), Is (.slice none 0 0)], box B7 51 [aC (decide ((pK c x n i).2.a < 0)), aE (pK c x n i).2.a.natAbs, aC (decide ((pK c x n i).2.b < 0)), aE (pK c x n i).2.b.natAbs, aE (du (pK c x n i).2)]]) 0 (Nat.zero_le _)
  (aQ rfl (aQ rfl (aQ rfl (aZ rfl (bI Og.symm) (zS rfl))))) (aU (aB rfl) (aU (aB rfl) (aU Df aY))) (fun i hi=>?_)
 refine ts (ro rfl (gJ (Ht rfl) (Ht rfl)) (eJ (cK (dQ (Ht rfl) (fun hcc=>?_) (fun hcc=>?_)))))
 ·have hin : i < n := by simp only [decide_eq_true_eq] at hcc; omega
  have hri:=hxs.row hin
  have hrc:=hch.row hin
  refine cU (cK (eU (ts (rm rfl (ro rfl (dZ U_30 Z_29 (Ht rfl) (Ht rfl) rfl (eX (eQ (d:=[]) zo))) (ro rfl (dJ A_29 Z_29 (Ht rfl)) (ra rfl (ra rfl (eJ (ts (rm rfl (ro rfl (dU U_29 (Ht rfl) (by rw [List.length_map,hri])) ?_))))))))))))
  refine ro rfl (cX (cJ 0)) (eJ (eU ?_))
  refine bF (fun (k : Nat) => k ≤ n) (fun (k : Nat) => n - k) (fun (k : Nat) => [(1, cC B1 0), (2, cC B2 0), (4, bS x), (5, aC (Gu c n i k)), (6, aC (yV c x i k (pK c x n i)).1), (7, cC B7 0), (8, NT .i64 i), (19, bS x), (20, NT .i64 n), (21, NT .i64 i), (26, cB (x.getD i [])), (27, NT .i64 n), (28, NT .i64 k)]) (fun (k : Nat) => [box B1 34 [cB z, bS s, bS c], box B2 51 [Is (.bool false), Is (.slice none 0 0), Is (.bool false), Is (.slice none 0 0), Is (.slice none 0 0)], box B7 51 [aC (decide ((yV c x i k (pK c x n i)).2.a < 0)), aE (yV c x i k (pK c x n i)).2.a.natAbs, aC (decide ((yV c x i k (pK c x n i)).2.b < 0)), aE (yV c x i k (pK c x n i)).2.b.natAbs, aE (du (yV c x i k (pK c x n i)).2)]]) 0 (Nat.zero_le _)
   (zS rfl) (aU (aB rfl) (aU (aB rfl) (aU (aB rfl) aY))) (fun k hk=>?_)
  refine ts (ro rfl (gJ (Ht rfl) (Ht rfl)) (eJ (cK (dQ (Ht rfl) (fun hd=>?_) (fun hd=>?_)))))
  ·have hkn : k < n := by simp only [decide_eq_true_eq] at hd; omega
   haveI f1:aD (gm x i k) M:=hxf.get hM1 i k
   haveI f2:aD (gm c i k) L:=hc.get hL i k
   refine cU (cK (eU (ts (rm rfl (ro rfl (dZ U_29 Z_51 (Ht rfl) (Ht rfl) rfl (eX (eQ (d:=Qi.zero) zo))) (ro rfl (dJ A_51 Z_51 (Ht rfl)) (rn rfl (eK (Ts:=[Is (.bool false),Is (.slice none 0 0),Is (.bool false),Is (.slice none 0 0),Is (.slice none 0 0)]) O_51 rfl (fun V=>aW zd (aW zd (aW zd (aW zd (aW zd (aG))))))) fun B11=>(ra rfl (gZ Z_51 (Ht rfl) (Ht rfl) rfl (i:=3) rfl (aK rfl) rfl rfl ?_)))))))))
   refine eJ (ts (rm rfl (rm rfl (fZ rfl rfl (eY rfl rfl (Ht rfl) (fun h=>eW lD (Ht rfl) rfl)) (fZ rfl rfl (eY rfl rfl (Ht rfl) (fun h=>fX A_30 Z_30 (fW rfl h) (i:=0) rfl rfl)) (fZ rfl rfl (eY rfl rfl (Ht rfl) (fun h=>cX (Ht rfl))) (fZ rfl rfl (eY rfl rfl (Ht rfl) (fun h=>dZ U_30 Z_29 (fW rfl h) (fW rfl h) rfl (eX (eQ (d:=[]) zo)))) (fZ rfl rfl (eY rfl rfl (Ht rfl) (fun h=>dJ A_29 Z_29 (fW rfl h))) (fZ rfl rfl (eY rfl rfl (Ht rfl) (fun h=>cX (Ht rfl))) ?_)))))))))
   refine fZ rfl rfl (eY rfl rfl (Ht rfl) (fun h=>dZ U_29 Z_51 (fW rfl h) (fW rfl h) rfl (eX (eQ (d:=Qi.zero) zo)))) (fZ rfl rfl (eY rfl rfl (Ht rfl) (fun h=>dJ A_51 Z_51 (fW rfl h))) (fZ rfl rfl (eY rfl rfl (Ht rfl) (fun h=>cZ K_27 (qR (x:=gm c i k) (L:=L) zo) ⟨(fW rfl h),trivial⟩)) (fZ rfl rfl (eY rfl rfl (Ht rfl) (fun h=>dR (fW rfl h))) (ro rfl (dP (Ht rfl) (fun h=>(fW rfl h))) (ra rfl (eJ (ts (rm rfl (ro rfl (dR (Ht rfl)) ?_)))))))))
   refine rm rfl (fZ rfl rfl (eY rfl rfl (Ht rfl) (fun h=>eG A_51 Z_51 (Ht rfl) (i:=3) rfl rfl rfl)) (fZ rfl rfl (eY rfl rfl (Ht rfl) (fun h=>cZ K_27 (qR (x:=gm x i k) (L:=M) zo) ⟨(fW rfl h),trivial⟩)) (ro rfl (dP (Ht rfl) (fun h=>(fW rfl h))) (eJ (dQ (Ht rfl) (fun hf=>?_) (fun hf=>?_))))))
   ·have hst : (yV c x i k (pK c x n i)).1 = false ∧ ¬ gm x i k = Qi.zero := by simpa [Lj] using hf
    have hnx:yV c x i (k + 1) (pK c x n i) = (true,gm c i k / gm x i k):=by rw [yV,if_pos hst]
    refine cK (Y.D_start (m:=14) [(13,2,box B7 51 [aC (decide ((gm c i k / gm x i k).a < 0)),aE (gm c i k / gm x i k).a.natAbs,aC (decide ((gm c i k / gm x i k).b < 0)),aE (gm c i k / gm x i k).b.natAbs,aE (du (gm c i k / gm x i k))])] (Y.D_step (Ei:=[(1,_)]) rfl rfl (bQ (bJ rfl rfl) bX) rfl rfl (by kernel_rfl) (dX rfl (eW lD (Ht rfl) rfl)) (Y.D_step (Ei:=[(53,_)]) rfl rfl (bQ (bZ 0 rfl rfl) bX) rfl rfl (by kernel_rfl) (dX rfl (fX A_30 Z_30 (Ht rfl) (i:=0) rfl rfl)) (Y.D_step (Ei:=[(8,_)]) rfl rfl (bQ (bJ rfl rfl) bX) rfl rfl (by kernel_rfl) (dX rfl (cX (Ht rfl))) ?_))))
    refine Y.D_step (Ei:=[(54,_),(55,_)]) rfl rfl (bQ (bZ 1 rfl rfl) (bQ (bZ 2 rfl rfl) bX)) rfl rfl (by kernel_rfl) (dX rfl (dZ U_30 Z_29 (Ht rfl) (Ht rfl) rfl (eX (eQ (d:=[]) zo)))) (Y.D_step (Ei:=[(56,_)]) rfl rfl (bQ (bZ 3 rfl rfl) bX) rfl rfl (by kernel_rfl) (dX rfl (dJ A_29 Z_29 (Ht rfl))) (Y.D_step (Ei:=[(10,_)]) rfl rfl (bQ (bJ rfl rfl) bX) rfl rfl (by kernel_rfl) (dX rfl (cX (Ht rfl))) (Y.D_step (Ei:=[(57,_),(58,_)]) rfl rfl (bQ (bZ 4 rfl rfl) (bQ (bZ 5 rfl rfl) bX)) rfl rfl (by kernel_rfl) (dX rfl (dZ U_29 Z_51 (Ht rfl) (Ht rfl) rfl (eX (eQ (d:=Qi.zero) zo)))) ?_)))
    refine Y.D_step (Ei:=[(59,_)]) rfl rfl (bQ (bZ 6 rfl rfl) bX) rfl rfl (by kernel_rfl) (dX rfl (dJ A_51 Z_51 (Ht rfl))) (Y.D_step (Ei:=[(11,_)]) rfl rfl (bQ (bJ rfl rfl) bX) rfl rfl (by kernel_rfl) (dX rfl (eG A_51 Z_51 (Ht rfl) (i:=3) rfl rfl rfl)) (Y.D_step (Ei:=[(60,_),(61,_)]) rfl rfl (bQ (bZ 7 rfl rfl) (bQ (bZ 8 rfl rfl) bX)) rfl rfl (by kernel_rfl) (dX rfl (cZ Tryz.call40 (Jw (x:=gm c i k) (y:=gm x i k) (L:=L) (M:=M) zo) ⟨(Ht rfl),(Ht rfl),trivial⟩)) ?_))
    refine Y.D_step (Ei:=[(62,_)]) rfl rfl (bQ (bZ 9 rfl rfl) bX) rfl rfl (by kernel_rfl) (dX rfl (cX (Ht rfl))) (Y.D_step (Ei:=[(52,_)]) rfl rfl (bQ (bZ 10 rfl rfl) bX) rfl rfl (by kernel_rfl) (dX rfl (dY (Ht rfl) rfl)) (bY (Ei:=[(52,_)]) rfl rfl (bQ (bZ 10 rfl rfl) bX) rfl rfl (dX rfl (dY (Ht rfl) rfl)) (Y.D_putI (Ei:=[(7,_),(63,_)]) 2 rfl rfl rfl (bQ (bJ rfl rfl) (bQ (bZ 11 rfl rfl) bX)) (.head _) rfl (mX Z_51 (Ht rfl) (Ht rfl) rfl (i:=0) rfl (aK rfl) rfl rfl) ?_)))
    refine Y.D_done aM rfl (by kernel_rfl) rfl (by simp [Y.okP]) rfl rfl (bU (bU (bU (bU (bU (bU (bU (bU (bU (bU (bU (bU (bU (Y.F_putI (Y.F_nil ?_)))))))))))))))
    refine eJ (cY (ro rfl (cQ cV) (eJ (aR (cY (ro rfl (dW (Ht rfl) (cJ 1) z6) (rm rfl (eJ (cM [0,1,2] rfl (by decide) (gQ (k + 1) hkn zo (aQ rfl (aQ rfl (aQ rfl (aZ rfl (bI (by rw [Gi hkn]; cases Gu c n i k <;> simp)) (aZ rfl (bI (by rw [hnx])) (zS rfl)))))) (aU (aB rfl) (aU (aB rfl) (aU (aB (by rw [hnx])) aY)))))))))))))
   ·have hst : ¬ ((yV c x i k (pK c x n i)).1 = false ∧ ¬ gm x i k = Qi.zero) := by simpa [Lj] using hf
    have hnx:yV c x i (k + 1) (pK c x n i) = (yV c x i k (pK c x n i)):=by rw [yV,if_neg hst]
    refine cU (aR (cY (ro rfl (dW (Ht rfl) (cJ 1) z6) (rm rfl (eJ (cM [0,1,2] rfl (by decide) (gQ (k + 1) hkn zo (aQ rfl (aQ rfl (aQ rfl (aZ rfl (bI (by rw [Gi hkn]; cases Gu c n i k <;> simp)) (aZ rfl (bI (by rw [hnx])) (zS rfl)))))) (aU (aB rfl) (aU (aB rfl) (aU (aB (by rw [hnx])) aY))))))))))
  ·have hkn : k = n := by simp only [decide_eq_false_iff_not] at hd; omega
   refine gG rfl (aR (cY (ro rfl (dW (Ht rfl) (cJ 1) z6) (rm rfl (eJ (gQ (i + 1) hin zo (aQ rfl (aQ rfl (aQ rfl (aZ rfl (bI (by rw [hkn,Yu])) (aZ rfl (bI (by rw [hkn]; rfl)) (zS rfl)))))) (aU (aB rfl) (aU (aB rfl) (aU (aB (by rw [hkn]; rfl)) aY)))))))))
 ·have hin : i = n := by simp only [decide_eq_false_iff_not] at hcc; omega
  rw [hin]
  have hPd:Oo c x n = if Gu c n n 0 = true then (Qi.zero,true) else if (pK c x n n).1 = false ∨ lM (pK c x n n).2 = false then (Qi.zero,false) else if Cr c x n (pK c x n n).2 = true then ((pK c x n n).2,true) else (Qi.zero,false):=rfl
  haveI g1:aD (pK c x n n).2 D:=by rw [hD]; exact Ct hc hxf hL hM1 n
  obtain ⟨R,hR⟩:∃ R,R = Oo c x n:=⟨_,rfl⟩
  rw [← hR] at hPd ⊢
  obtain ⟨q,hq⟩:∃ q,q = Gu c n n 0:=⟨_,rfl⟩
  obtain ⟨S,hS⟩:∃ S,S = pK c x n n:=⟨_,rfl⟩
  rw [← hq,← hS] at hPd ⊢
  rw [← hS] at g1
  refine gG rfl (cK (ts (rm rfl (eJ (dQ (Ht rfl) (fun hqq=>?_) (fun hqq=>?_))))))
  ·have hr : R = (Qi.zero, true) := by rw [hPd, if_pos hqq]
   subst hr
   refine ts (ro rfl (aI.imp (nM ) iQ) (gZ Z_51 (Ht rfl) (Ht rfl) rfl (i:=1) rfl (aK rfl) rfl rfl (ro rfl (cQ cV) (eJ ?_))))
   exact bN rfl (fY A_51 Z_51 rfl (i:=1) rfl rfl) (fQ rfl)
  ·refine cU (cK (ts (rm rfl (ro rfl (dR (Ht rfl)) (rm rfl (fZ rfl rfl (eY rfl rfl (Ht rfl) (fun h => eG A_51 Z_51 (Ht rfl) (i := 2) rfl rfl rfl)) (fZ rfl rfl (eY rfl rfl (Ht rfl) (fun h => cZ Tryz.call159 (Qq (x := S.2) (L := D) zo) ⟨(fW rfl h), trivial⟩)) (fZ rfl rfl (eY rfl rfl (Ht rfl) (fun h => dR (fW rfl h))) (ro rfl (iW (Ht rfl) (fun h => (fW rfl h))) (eJ (dQ (Ht rfl) (fun hw => ?_) (fun hw => ?_))))))))))))
   ·have hr : R = (Qi.zero, false) := by
     rw [hPd,if_neg (by rw [hqq]; decide),if_pos (by revert hw; cases S.1 <;> cases lM S.2 <;> simp)]
    subst hr
    refine ts (ro rfl (aI.imp (nM ) iQ) (gZ Z_51 (Ht rfl) (Ht rfl) rfl (i:=1) rfl (aK rfl) rfl rfl (ro rfl (cQ cV) (eJ ?_))))
    exact bN rfl (fY A_51 Z_51 rfl (i:=1) rfl rfl) (fQ rfl)
   ·have hr : R = if Cr c x n S.2 = true then (S.2, true) else (Qi.zero, false) := by
     rw [hPd,if_neg (by rw [hqq]; decide),if_neg (by revert hw; cases S.1 <;> cases lM S.2 <;> simp)]
    refine cU (cK (ts (rm rfl (ro rfl (dU U_30 (Ht rfl) (by rw [List.length_map,hxl])) ?_))))
    refine ro rfl (cX (cJ 0)) (eJ (eU ?_))
    refine bF (fun (i : Nat) => i ≤ n ∧ ∀ a, a < i → ∀ b, b < n → S.2 * gm x a b = gm c a b) (fun (i : Nat) => n - i) (fun (i : Nat) => [(1, cC B1 0), (2, cC B2 0), (7, cC B7 0), (77, bS x), (78, NT .i64 n), (79, NT .i64 i)]) (fun (i : Nat) => [box B1 34 [cB z, bS s, bS c], box B2 51 [Is (.bool false), Is (.slice none 0 0), Is (.bool false), Is (.slice none 0 0), Is (.slice none 0 0)], box B7 51 [aC (decide (S.2.a < 0)), aE S.2.a.natAbs, aC (decide (S.2.b < 0)), aE S.2.b.natAbs, aE (du S.2)]]) 0 ⟨Nat.zero_le _, fun a h => by omega⟩
     (zS rfl) (aU (aB rfl) (aU (aB rfl) (aU (aB rfl) aY))) (fun i ⟨hi,hh⟩=>?_)
    refine ts (ro rfl (gJ (Ht rfl) (Ht rfl)) (eJ (cK (dQ (Ht rfl) (fun hc2=>?_) (fun hc2=>?_)))))
    ·have hin : i < n := by simp only [decide_eq_true_eq] at hc2; omega
     have hri:=hxs.row hin
     have hrc:=hch.row hin
     refine cU (cK (eU (ts (rm rfl (ro rfl (dZ U_30 Z_29 (Ht rfl) (Ht rfl) rfl (eX (eQ (d:=[]) zo))) (ro rfl (dJ A_29 Z_29 (Ht rfl)) (ra rfl (ra rfl (eJ (ts (rm rfl (ro rfl (dU U_29 (Ht rfl) (by rw [List.length_map,hri])) ?_))))))))))))
     refine ro rfl (cX (cJ 0)) (eJ (eU ?_))
     refine bF (fun (k : Nat) => k ≤ n ∧ ∀ b, b < k → S.2 * gm x i b = gm c i b) (fun (k : Nat) => n - k) (fun (k : Nat) => [(1, cC B1 0), (2, cC B2 0), (7, cC B7 0), (12, NT .i64 i), (77, bS x), (78, NT .i64 n), (79, NT .i64 i), (84, cB (x.getD i [])), (85, NT .i64 n), (86, NT .i64 k)]) (fun (k : Nat) => [box B1 34 [cB z, bS s, bS c], box B2 51 [Is (.bool false), Is (.slice none 0 0), Is (.bool false), Is (.slice none 0 0), Is (.slice none 0 0)], box B7 51 [aC (decide (S.2.a < 0)), aE S.2.a.natAbs, aC (decide (S.2.b < 0)), aE S.2.b.natAbs, aE (du S.2)]]) 0 ⟨Nat.zero_le _, fun b h => by omega⟩
      (zS rfl) (aU (aB rfl) (aU (aB rfl) (aU (aB rfl) aY))) (fun k ⟨hk,hk0⟩=>?_)
     refine ts (ro rfl (gJ (Ht rfl) (Ht rfl)) (eJ (cK (dQ (Ht rfl) (fun hd=>?_) (fun hd=>?_)))))
     ·have hkn : k < n := by simp only [decide_eq_true_eq] at hd; omega
      haveI f1:aD (gm x i k) M:=hxf.get hM1 i k
      haveI f2:aD (gm c i k) L:=hc.get hL i k
      haveI f3:aD (S.2 * gm x i k) (D + M + 1):=fitMul
      refine cU (cK (eU (ts (rm rfl (ro rfl (dZ U_29 Z_51 (Ht rfl) (Ht rfl) rfl (eX (eQ (d:=Qi.zero) zo))) (ro rfl (dJ A_51 Z_51 (Ht rfl)) (rn rfl (eK (Ts:=[Is (.bool false),Is (.slice none 0 0),Is (.bool false),Is (.slice none 0 0),Is (.slice none 0 0)]) O_51 rfl (fun V=>aW zd (aW zd (aW zd (aW zd (aW zd (aG))))))) fun B15=>(ra rfl (gZ Z_51 (Ht rfl) (Ht rfl) rfl (i:=3) rfl (aK rfl) rfl rfl ?_)))))))))
      refine eJ (cK (fV (m:=11) (dp 7 rfl (eG A_51 Z_51 (Ht rfl) (i:=2) rfl rfl rfl) (dp 15 rfl (eG A_51 Z_51 (Ht rfl) (i:=3) rfl rfl rfl) (cH 91 0 92 1 rfl (cZ K_45 (mF (x:=S.2) (y:=gm x i k) (L:=D) (M:=M) zo) ⟨(Ht rfl),(Ht rfl),trivial⟩) (dp 1 rfl (eW lD (Ht rfl) rfl) (dq 94 3 rfl (fX A_30 Z_30 (Ht rfl) (i:=0) rfl rfl) (dp 12 rfl (cX (Ht rfl)) (cH 95 4 96 5 rfl (dZ U_30 Z_29 (Ht rfl) (Ht rfl) rfl (eX (eQ (d:=[]) zo))) ?_)))))))))
      refine dq 97 6 rfl (dJ A_29 Z_29 (Ht rfl)) (dp 14 rfl (cX (Ht rfl)) (cH 98 7 99 8 rfl (dZ U_29 Z_51 (Ht rfl) (Ht rfl) rfl (eX (eQ (d:=Qi.zero) zo))) (dq 100 9 rfl (dJ A_51 Z_51 (Ht rfl)) (fG aM rfl (by kernel_rfl) (zF (zF (aJ (aJ (aJ (aV (ro rfl (cZ Tryz.call139 (Px (x:=S.2 * gm x i k) (y:=gm c i k) (L:=D + M + 1) (M:=L) zo zo) ⟨(Ht rfl),(Ht rfl),trivial⟩) ?_)))))))))))
      refine ro rfl (dR (Ht rfl)) (eJ (dQ (Ht rfl) (fun he=>?_) (fun he=>?_)))
      ·have hne : ¬ S.2 * gm x i k = gm c i k := by simpa using he
       have hr2 : R = (Qi.zero, false) := by rw [hr, if_neg (fun e => by
         have e2:∀ i,i < n → ∀ k,k < n → S.2 * gm x i k = gm c i k:=of_decide_eq_true e
         exact hne (e2 i hin k hkn))]
       subst hr2
       refine ts (ro rfl (aI.imp (nM ) iQ) (gZ Z_51 (Ht rfl) (Ht rfl) rfl (i:=1) rfl (aK rfl) rfl rfl (ro rfl (cQ cV) (eJ ?_))))
       exact bN rfl (fY A_51 Z_51 rfl (i:=1) rfl rfl) (fQ rfl)
      ·have heq : S.2 * gm x i k = gm c i k := by simpa using he
       refine cU (aR (cY (ro rfl (dW (Ht rfl) (cJ 1) z6) (rm rfl (eJ (cM [0,1,2] rfl (by decide) ?_))))))
       refine gQ (k + 1) ⟨hkn, fun b h1 => by
         by_cases e:b = k
         ·rw [e]; exact heq
         ·exact hk0 b zo⟩ zo (zS rfl) (aU (aB rfl) (aU (aB rfl) (aU (aB rfl) aY)))
     ·have hkn : k = n := by simp only [decide_eq_false_iff_not] at hd; omega
      refine gG rfl (aR (cY (ro rfl (dW (Ht rfl) (cJ 1) z6) (rm rfl (eJ ?_)))))
      refine gQ (i + 1) ⟨hin, fun a h1 b h2 => by
        by_cases e:a = i
        ·rw [e]; exact hk0 b zo
        ·exact hh a zo b h2⟩ zo (zS rfl) (aU (aB rfl) (aU (aB rfl) (aU (aB rfl) aY)))
    ·have hin : i = n := by simp only [decide_eq_false_iff_not] at hc2; omega
     have hr2:R = (S.2,true):=by rw [hr,if_pos (show Cr c x n S.2 = true from decide_eq_true fun a h1 b h2=>hh a zo b h2)]
     subst hr2
     refine gG rfl (ts (ro rfl (eG A_51 Z_51 (Ht rfl) (i:=2) rfl rfl rfl) (gZ Z_51 (Ht rfl) (Ht rfl) rfl (i:=1) rfl (aK rfl) rfl rfl (ro rfl (cQ cV) (eJ ?_)))))
     exact bN rfl (fY A_51 Z_51 rfl (i:=1) rfl rfl) (fQ rfl)
end
section
open Go Go.RowKit
theorem a0v {z : List Qi} {s : List (List Qi)} {L : Nat} (hz : dN z L) (hs : bL s L) (hL1 : 1 ≤ L) (hL : L ≤ 4000) (hsh : eD s z.length z.length) (hl : z.length ≤ 8) : aS Tryz.prog 178 [sL z s] (QM (jT z s)) :=
 (Vk hz hs hL1 hL hsh hl).fun fun B _ v S V h1 h2=>jB (s:=5) (M:=jT z s) (qH _ _).1.symm v S V h1 h2
theorem pG:Qi.ofInt 0 = Qi.zero:=by decide +kernel
theorem Hy {z:List Qi} {s c:List (List Qi)} {L:Nat} (hz:dN z L) (hs:bL s L) (hc:bL c L) (hL:1 ≤ L) (hLb:L ≤ 4000) (hsh:eD s z.length z.length) (hch:eD c z.length z.length) (hl:z.length ≤ 8):aS Tryz.prog 79 [mM z s c] (gE [QT (tlP c (jT z s) z.length).1,aC (tlP c (jT z s) z.length).2]):=by
 have hT:=a0v hz hs hL hLb hsh hl
 have hxs:=qH z s
 have hxf:=qG hz hs hL hl
 generalize jT z s = x at *
 have hcl:=hch.1
 have hxl:=hxs.1
 obtain ⟨n,hn⟩:∃ n,n = z.length:=⟨_,rfl⟩
 have hzer:=Vl hch zo
 rw [← hn] at hch hxs hcl hxl hzer ⊢
 obtain ⟨M,hM⟩:∃ M,M = 201 * L + 301:=⟨_,rfl⟩
 rw [← hM] at hxf
 have hM1:1 ≤ M:=by omega
 obtain ⟨D,hD⟩:∃ D,D = L + 3 * M + 2:=⟨_,rfl⟩
 have hDb:D ≤ 1000000000:=by omega
 rw [show c = c from rfl] at hzer
 refine aS.intro Tryz.func79 rfl Tryz.ntmps79 rfl (fun cx=>(ts (rn rfl (fU (Ht rfl)) fun B1=>(rn rfl (eK (Ts:=[Is (.bool false),Is (.slice none 0 0),Is (.bool false),Is (.slice none 0 0),Is (.slice none 0 0)]) O_131 rfl (fun V=>aW zd (aW zd (aW zd (aW zd (aW zd (aG))))))) fun B2=>(ro rfl (cQ cV) (eJ (ts (ro rfl (eW Wj (Ht rfl) rfl) (ro rfl (eG A_38 Z_38 (Ht rfl) (i:=0) rfl rfl rfl) (ro rfl (cZ Tryz.call178 hT ⟨(Ht rfl),trivial⟩) ?_))))))))))
 refine ra rfl (eJ (ts (ro rfl (cZ K_148 (nA (n:=0) (by decide) (by decide)) ⟨(cJ 0),trivial⟩) (rn rfl (eK (Ts:=[Is (.bool false),Is (.slice none 0 0),Is (.bool false),Is (.slice none 0 0),Is (.slice none 0 0)]) O_131 rfl (fun V=>aW zd (aW zd (aW zd (aW zd (aW zd (aG))))))) fun B5=>(gZ Z_131 (Ht rfl) (Ht rfl) rfl (i:=2) rfl (aK rfl) rfl rfl (eJ (cK (ts (ro rfl (cQ (cJ 0)) ?_)))))))))
 refine eJ (eU ?_)
 refine bF (fun (i : Nat) => i ≤ n) (fun (i : Nat) => n - i) (fun (i : Nat) => [(1, cC B1 0), (2, cC B2 0), (4, QM x), (5, cC B5 0), (6, NT .i64 i)]) (fun (i : Nat) => [box B1 40 [xA z, QM s, QM c], box B2 131 [Is (.bool false), Is (.slice none 0 0), Is (.bool false), Is (.slice none 0 0), Is (.slice none 0 0)], box B5 131 [aC (decide ((vB c x n i).a < 0)), aE (vB c x n i).a.natAbs, aC (decide ((vB c x n i).b < 0)), aE (vB c x n i).b.natAbs, aE (vB c x n i).den]]) 0 (Nat.zero_le _)
  (zS rfl) (aU (aB rfl) (aU (aB rfl) (aU (aB (by rw [pG]; rfl)) aY))) (fun i hi=>?_)
 refine cK (ts (rm rfl (rm rfl (ro rfl (dU U_36 (Ht rfl) (by rw [List.length_map,hxl])) ?_))))
 refine ro rfl (gJ (Ht rfl) (Ht rfl)) (eJ (dQ (Ht rfl) (fun hcc=>?_) (fun hcc=>?_)))
 ·have hin : i < n := by simp only [decide_eq_true_eq] at hcc; omega
  have hri:=hxs.row hin
  have hrc:=hch.row hin
  refine cU (cK (eU (ts (ro rfl (cQ (cJ 0)) (eJ (eU ?_))))))
  refine bF (fun (k : Nat) => k ≤ n) (fun (k : Nat) => n - k) (fun (k : Nat) => [(1, cC B1 0), (2, cC B2 0), (4, QM x), (5, cC B5 0), (6, NT .i64 i), (7, NT .i64 k)]) (fun (k : Nat) => [box B1 40 [xA z, QM s, QM c], box B2 131 [Is (.bool false), Is (.slice none 0 0), Is (.bool false), Is (.slice none 0 0), Is (.slice none 0 0)], box B5 131 [aC (decide ((Cu c x i k (vB c x n i)).a < 0)), aE (Cu c x i k (vB c x n i)).a.natAbs, aC (decide ((Cu c x i k (vB c x n i)).b < 0)), aE (Cu c x i k (vB c x n i)).b.natAbs, aE (Cu c x i k (vB c x n i)).den]]) 0 (Nat.zero_le _)
   (zS rfl) (aU (aB rfl) (aU (aB rfl) (aU (aB rfl) aY))) (fun k hk=>?_)
  refine cK (ts (rm rfl (rm rfl (ro rfl (dU U_36 (Ht rfl) (by rw [List.length_map,hxl])) ?_))))
  refine ro rfl (gJ (Ht rfl) (Ht rfl)) (eJ (dQ (Ht rfl) (fun hd=>?_) (fun hd=>?_)))
  ·have hkn : k < n := by simp only [decide_eq_true_eq] at hd; omega
   haveI f1:aD (gm x i k) M:=hxf.get hM1 i k
   haveI f2:aD (gm c i k) L:=hc.get hL i k
   refine cU (cK (eU (cK (Y.D_start (m:=21) [] (bY (Ei:=[(1,_)]) rfl rfl (bQ (bJ rfl rfl) bX) rfl rfl (dX rfl (eW sZ (Ht rfl) rfl)) (bY (Ei:=[(31,_)]) rfl rfl (bQ (bZ 0 rfl rfl) bX) rfl rfl (dX rfl (fX A_36 Z_36 (Ht rfl) (i:=0) rfl rfl)) (bY (Ei:=[(6,_)]) rfl rfl (bQ (bJ rfl rfl) bX) rfl rfl (dX rfl (cX (Ht rfl))) (bY (Ei:=[(32,_),(33,_)]) rfl rfl (bQ (bZ 1 rfl rfl) (bQ (bZ 2 rfl rfl) bX)) rfl rfl (dX rfl (dZ U_36 Z_35 (Ht rfl) (Ht rfl) rfl (eX (eQ (d:=[]) zo)))) ?_))))))))
   refine bY (Ei:=[(34,_)]) rfl rfl (bQ (bZ 3 rfl rfl) bX) rfl rfl (dX rfl (dJ A_35 Z_35 (Ht rfl))) (bY (Ei:=[(7,_)]) rfl rfl (bQ (bJ rfl rfl) bX) rfl rfl (dX rfl (cX (Ht rfl))) (bY (Ei:=[(35,_),(36,_)]) rfl rfl (bQ (bZ 4 rfl rfl) (bQ (bZ 5 rfl rfl) bX)) rfl rfl (dX rfl (dZ U_35 Z_131 (Ht rfl) (Ht rfl) rfl (eX (eQ (d:=Qi.zero) zo)))) (bY (Ei:=[(37,_)]) rfl rfl (bQ (bZ 6 rfl rfl) bX) rfl rfl (dX rfl (dJ A_131 Z_131 (Ht rfl))) ?_)))
   refine bY (Ei:=[(4,_)]) rfl rfl (bQ (bJ rfl rfl) bX) rfl rfl (dX rfl (cX (Ht rfl))) (bY (Ei:=[(6,_)]) rfl rfl (bQ (bJ rfl rfl) bX) rfl rfl (dX rfl (cX (Ht rfl))) (bY (Ei:=[(39,_),(40,_)]) rfl rfl (bQ (bZ 8 rfl rfl) (bQ (bZ 9 rfl rfl) bX)) rfl rfl (dX rfl (dZ U_36 Z_35 (Ht rfl) (Ht rfl) rfl (eX (eQ (d:=[]) zo)))) (bY (Ei:=[(41,_)]) rfl rfl (bQ (bZ 10 rfl rfl) bX) rfl rfl (dX rfl (dJ A_35 Z_35 (Ht rfl))) ?_)))
   refine bY (Ei:=[(7,_)]) rfl rfl (bQ (bJ rfl rfl) bX) rfl rfl (dX rfl (cX (Ht rfl))) (bY (Ei:=[(42,_),(43,_)]) rfl rfl (bQ (bZ 11 rfl rfl) (bQ (bZ 12 rfl rfl) bX)) rfl rfl (dX rfl (dZ U_35 Z_131 (Ht rfl) (Ht rfl) rfl (eX (eQ (d:=Qi.zero) zo)))) (bY (Ei:=[(44,_)]) rfl rfl (bQ (bZ 13 rfl rfl) bX) rfl rfl (dX rfl (dJ A_131 Z_131 (Ht rfl))) (bY (Ei:=[(38,_),(45,_)]) rfl rfl (bQ (bZ 7 rfl rfl) (bQ (bZ 14 rfl rfl) bX)) rfl rfl (dX rfl (cZ Tryz.call144 (Ke (x:=gm c i k) (y:=gm x i k) (L:=L) (M:=M) zo) ⟨(Ht rfl),(Ht rfl),trivial⟩)) ?_)))
   refine bY (Ei:=[(46,_)]) rfl rfl (bQ (bZ 15 rfl rfl) bX) rfl rfl (dX rfl (cX (Ht rfl))) (bY (Ei:=[(30,_)]) rfl rfl (bQ (bZ 16 rfl rfl) bX) rfl rfl (dX rfl (dY (Ht rfl) rfl)) (bY (Ei:=[(30,_)]) rfl rfl (bQ (bZ 16 rfl rfl) bX) rfl rfl (dX rfl (dY (Ht rfl) rfl)) (Y.D_newp (Ei:=[]) (fun bb=>box bb 131 [aC (decide ((gm c i k / gm x i k).a < 0)),aE (gm c i k / gm x i k).a.natAbs,aC (decide ((gm c i k / gm x i k).b < 0)),aE (gm c i k / gm x i k).b.natAbs,aE (gm c i k / gm x i k).den]) 20 rfl rfl rfl bX rfl rfl (by kernel_rfl) (eK (Ts:=[Is (.bool false),Is (.slice none 0 0),Is (.bool false),Is (.slice none 0 0),Is (.slice none 0 0)]) O_131 rfl (fun V=>aW zd (aW zd (aW zd (aW zd (aW zd (aG))))))) ?_)))
   refine Y.D_putN (Ei:=[(47,_)]) 19 rfl rfl rfl rfl rfl rfl (bQ (bZ 17 rfl rfl) bX) (fun bb=>mX Z_131 (Ht rfl) (Ht rfl) rfl (i:=0) rfl (aK rfl) rfl rfl) (Y.D_done aM rfl (by kernel_rfl) rfl (by simp [Y.okP]) rfl rfl (bU (bU (bU (bU (bU (bU (bU (bU (bU (bU (bU (bU (bU (bU (bU (bU (bU (bU (bU (Y.F_newp (fun B8=>Y.F_putN (Y.F_nil ?_)))))))))))))))))))))))
   refine ra rfl (eJ (ts (rm rfl (ro rfl (iH (Ht rfl) cV) (eJ (dQ (Ht rfl) (fun hf=>?_) (fun hf=>?_)))))))
   ·have hx0 : ¬ gm x i k = Qi.zero := fun e => by rw [if_pos e] at hf; simp at hf
    have hnx:Cu c x i (k + 1) (vB c x n i) = gm c i k / gm x i k:=by rw [Cu,if_neg hx0]
    refine cY (ro rfl (eG A_131 Z_131 (Ht rfl) (i:=3) rfl rfl rfl) (gZ Z_131 (Ht rfl) (Ht rfl) rfl (i:=2) rfl (aK rfl) rfl rfl (eJ (aR (cY (rm rfl (ro rfl (dW (Ht rfl) (cJ 1) z6) (ra rfl (eJ (cM [0,1,2] rfl (by decide) (gQ (k + 1) hkn zo (zS rfl) (aU (aB rfl) (aU (aB rfl) (aU (aB (by rw [hnx]; rfl)) aY))))))))))))))
   ·have hx0 : gm x i k = Qi.zero := Decidable.byContradiction fun e => by rw [if_neg e] at hf; simp at hf
    have hnx:Cu c x i (k + 1) (vB c x n i) = (Cu c x i k (vB c x n i)):=by rw [Cu,if_pos hx0]
    refine cU (aR (cY (rm rfl (ro rfl (dW (Ht rfl) (cJ 1) z6) (ra rfl (eJ (cM [0,1,2] rfl (by decide) (gQ (k + 1) hkn zo (zS rfl) (aU (aB rfl) (aU (aB rfl) (aU (aB (by rw [hnx])) aY)))))))))))
  ·have hkn : k = n := by simp only [decide_eq_false_iff_not] at hd; omega
   refine gG rfl (aR (cY (rm rfl (ro rfl (dW (Ht rfl) (cJ 1) z6) (ra rfl (eJ (gQ (i + 1) hin zo (zS rfl) (aU (aB rfl) (aU (aB rfl) (aU (aB (by rw [hkn]; rfl)) aY))))))))))
 ·have hin : i = n := by simp only [decide_eq_false_iff_not] at hcc; omega
  rw [hin]
  haveI g1:aD (vB c x n n) D:=by rw [hD]; exact Me hc hxf hL hM1 n
  haveI g2:aD (wS c x n) D:=Yv g1 zo
  have hPd:tlP c x n = if Cr c x n (wS c x n) = true then (if zM c n = true then Qi.zero else wS c x n,true) else if Cr c x n Qi.zero = true then (Qi.zero,true) else (Qi.zero,false):=rfl
  obtain ⟨R,hR⟩:∃ R,R = tlP c x n:=⟨_,rfl⟩
  rw [← hR] at hPd ⊢
  refine gG rfl (cK (cM [0,1,2] rfl (by decide) (iY (fun (t:Qi)=>t = wS c x n) (fun (t:Qi)=>[(1,cC B1 0),(2,cC B2 0),(4,QM x),(5,cC B5 0)]) (fun (t:Qi)=>[box B1 40 [xA z,QM s,QM c],box B2 131 [Is (.bool false),Is (.slice none 0 0),Is (.bool false),Is (.slice none 0 0),Is (.slice none 0 0)],box B5 131 [aC (decide (t.a < 0)),aE t.a.natAbs,aC (decide (t.b < 0)),aE t.b.natAbs,aE t.den]]) ?_ (fun t ht=>?_))))
  ·refine ts (ro rfl (eG A_131 Z_131 (Ht rfl) (i := 2) rfl rfl rfl) (ro rfl (cZ Tryz.call179 (Vi (x := vB c x n n) (L := D) zo) ⟨(Ht rfl), trivial⟩) (ro rfl (dR (Ht rfl)) (eJ (dQ (Ht rfl) (fun hw => ?_) (fun hw => ?_))))))
   ·have hw2 : ¬ lM (vB c x n n) = true := by simpa using hw
    refine cY (ro rfl (cZ K_148 (nA (n:=0) (by decide) (by decide)) ⟨(cJ 0),trivial⟩) (gZ Z_131 (Ht rfl) (Ht rfl) rfl (i:=2) rfl (aK rfl) rfl rfl (eJ (aO Qi.zero (by rw [wS,if_neg hw2]) (zS rfl) (aU (aB rfl) (aU (aB rfl) (aU (aB (by rw [pG]; rfl)) aY)))))))
   ·have hw2 : lM (vB c x n n) = true := by simpa using hw
    refine cU (aO (vB c x n n) (by rw [wS,if_pos hw2]) (zS rfl) (aU (aB rfl) (aU (aB rfl) (aU (aB rfl) aY))))
  ·subst ht
   refine cK (ts (ro rfl (cQ (cJ 0)) (eJ (eU ?_))))
   refine eH (fun (j : Nat) (t : Qi) => j ≤ 2 ∧ (j = 0 → t = wS c x n) ∧ (1 ≤ j → t = Qi.zero ∧ ¬ Cr c x n (wS c x n) = true) ∧ (2 ≤ j → ¬ Cr c x n Qi.zero = true)) (fun (j : Nat) (t : Qi) => 2 - j) (fun (j : Nat) (t : Qi) => [(1, cC B1 0), (2, cC B2 0), (4, QM x), (5, cC B5 0), (10, NT .i64 j)]) (fun (j : Nat) (t : Qi) => [box B1 40 [xA z, QM s, QM c], box B2 131 [Is (.bool false), Is (.slice none 0 0), Is (.bool false), Is (.slice none 0 0), Is (.slice none 0 0)], box B5 131 [aC (decide (t.a < 0)), aE t.a.natAbs, aC (decide (t.b < 0)), aE t.b.natAbs, aE t.den]]) 0 _ ⟨by decide, fun _ => rfl, fun h => by omega, fun h => by omega⟩
    (zS rfl) (aU (aB rfl) (aU (aB rfl) (aU (aB rfl) aY))) (fun j t ⟨hj,h0,h1,h2⟩=>?_)
   refine cK (ts (rm rfl (ro rfl (gJ (Ht rfl) (cJ 2)) (eJ (dQ (Ht rfl) (fun hjj=>?_) (fun hjj=>?_))))))
   ·have hjl : j < 2 := by simp only [decide_eq_true_eq] at hjj; omega
    haveI g3 : aD t D := by
     by_cases e:j = 0
     ·rw [h0 e]; exact g2
     ·rw [(h1 zo).1]; exact aD.zero zo
    refine cU (cK (eU (ts (ro rfl (cQ cV) (eJ (cK (ts (ro rfl (cQ (cJ 0)) (eJ (eU ?_))))))))))
    refine bF (fun (i : Nat) => i ≤ n) (fun (i : Nat) => n - i) (fun (i : Nat) => [(1, cC B1 0), (2, cC B2 0), (4, QM x), (5, cC B5 0), (10, NT .i64 j), (11, aC (vT (Rp c x t) n i 0)), (12, NT .i64 i)]) (fun (i : Nat) => [box B1 40 [xA z, QM s, QM c], box B2 131 [Is (.bool false), Is (.slice none 0 0), Is (.bool false), Is (.slice none 0 0), Is (.slice none 0 0)], box B5 131 [aC (decide (t.a < 0)), aE t.a.natAbs, aC (decide (t.b < 0)), aE t.b.natAbs, aE t.den]]) 0 (Nat.zero_le _)
     (aQ rfl (aQ rfl (aQ rfl (aQ rfl (aQ rfl (aZ rfl (bI Hb.symm) (zS rfl))))))) (aU (aB rfl) (aU (aB rfl) (aU (aB rfl) aY))) (fun i hi=>?_)
    refine cK (ts (rm rfl (rm rfl (ro rfl (dU U_36 (Ht rfl) (by rw [List.length_map,hxl])) ?_))))
    refine ro rfl (gJ (Ht rfl) (Ht rfl)) (eJ (dQ (Ht rfl) (fun hcc=>?_) (fun hcc=>?_)))
    ·have hin : i < n := by simp only [decide_eq_true_eq] at hcc; omega
     have hri:=hxs.row hin
     have hrc:=hch.row hin
     refine cU (cK (eU (ts (ro rfl (cQ (cJ 0)) (eJ (eU ?_))))))
     refine bF (fun (k : Nat) => k ≤ n) (fun (k : Nat) => n - k) (fun (k : Nat) => [(1, cC B1 0), (2, cC B2 0), (4, QM x), (5, cC B5 0), (10, NT .i64 j), (11, aC (vT (Rp c x t) n i k)), (12, NT .i64 i), (13, NT .i64 k)]) (fun (k : Nat) => [box B1 40 [xA z, QM s, QM c], box B2 131 [Is (.bool false), Is (.slice none 0 0), Is (.bool false), Is (.slice none 0 0), Is (.slice none 0 0)], box B5 131 [aC (decide (t.a < 0)), aE t.a.natAbs, aC (decide (t.b < 0)), aE t.b.natAbs, aE t.den]]) 0 (Nat.zero_le _)
      (zS rfl) (aU (aB rfl) (aU (aB rfl) (aU (aB rfl) aY))) (fun k hk=>?_)
     refine cK (ts (rm rfl (rm rfl (ro rfl (dU U_36 (Ht rfl) (by rw [List.length_map,hxl])) ?_))))
     refine ro rfl (gJ (Ht rfl) (Ht rfl)) (eJ (dQ (Ht rfl) (fun hd=>?_) (fun hd=>?_)))
     ·have hkn : k < n := by simp only [decide_eq_true_eq] at hd; omega
      haveI f1:aD (gm x i k) M:=hxf.get hM1 i k
      haveI f2:aD (gm c i k) L:=hc.get hL i k
      haveI f3:aD (t * gm x i k) (D + M + 1):=fitMul
      refine cU (cK (eU (fV (m:=19) (dp 11 rfl (cX (Ht rfl)) (dq 72 0 rfl (cX (Ht rfl)) (C.D_step (Ei:=[(1,_),(73,_)]) rfl rfl (bV (bK rfl rfl) (bV (bG 1 rfl rfl) bW)) (eY rfl rfl (Ht rfl) (fun h=>eW sZ (Ht rfl) rfl)) (C.D_step (Ei:=[(74,_),(73,_)]) rfl rfl (bV (bG 2 rfl rfl) (bV (bG 1 rfl rfl) bW)) (eY rfl rfl (Ht rfl) (fun h=>fX A_36 Z_36 (fW rfl h) (i:=0) rfl rfl)) (C.D_step (Ei:=[(12,_),(73,_)]) rfl rfl (bV (bK rfl rfl) (bV (bG 1 rfl rfl) bW)) (eY rfl rfl (Ht rfl) (fun h=>cX (Ht rfl))) ?_))))))))
      refine C.D_step (Ei:=[(75,_),(76,_),(73,_)]) rfl rfl (bV (bG 3 rfl rfl) (bV (bG 4 rfl rfl) (bV (bG 1 rfl rfl) bW))) (eY rfl rfl (Ht rfl) (fun h=>dZ U_36 Z_35 (fW rfl h) (fW rfl h) rfl (eX (eQ (d:=[]) zo)))) (C.D_step (Ei:=[(77,_),(73,_)]) rfl rfl (bV (bG 5 rfl rfl) (bV (bG 1 rfl rfl) bW)) (eY rfl rfl (Ht rfl) (fun h=>dJ A_35 Z_35 (fW rfl h))) (C.D_step (Ei:=[(13,_),(73,_)]) rfl rfl (bV (bK rfl rfl) (bV (bG 1 rfl rfl) bW)) (eY rfl rfl (Ht rfl) (fun h=>cX (Ht rfl))) ?_))
      refine C.D_step (Ei:=[(78,_),(79,_),(73,_)]) rfl rfl (bV (bG 6 rfl rfl) (bV (bG 7 rfl rfl) (bV (bG 1 rfl rfl) bW))) (eY rfl rfl (Ht rfl) (fun h=>dZ U_35 Z_131 (fW rfl h) (fW rfl h) rfl (eX (eQ (d:=Qi.zero) zo)))) (C.D_step (Ei:=[(80,_),(73,_)]) rfl rfl (bV (bG 8 rfl rfl) (bV (bG 1 rfl rfl) bW)) (eY rfl rfl (Ht rfl) (fun h=>dJ A_131 Z_131 (fW rfl h))) (C.D_step (Ei:=[(5,_),(73,_)]) rfl rfl (bV (bK rfl rfl) (bV (bG 1 rfl rfl) bW)) (eY rfl rfl (Ht rfl) (fun h=>eG A_131 Z_131 (Ht rfl) (i:=2) rfl rfl rfl)) ?_))
      refine C.D_step (Ei:=[(4,_),(73,_)]) rfl rfl (bV (bK rfl rfl) (bV (bG 1 rfl rfl) bW)) (eY rfl rfl (Ht rfl) (fun h=>cX (Ht rfl))) (C.D_step (Ei:=[(12,_),(73,_)]) rfl rfl (bV (bK rfl rfl) (bV (bG 1 rfl rfl) bW)) (eY rfl rfl (Ht rfl) (fun h=>cX (Ht rfl))) (C.D_step (Ei:=[(83,_),(84,_),(73,_)]) rfl rfl (bV (bG 11 rfl rfl) (bV (bG 12 rfl rfl) (bV (bG 1 rfl rfl) bW))) (eY rfl rfl (Ht rfl) (fun h=>dZ U_36 Z_35 (fW rfl h) (fW rfl h) rfl (eX (eQ (d:=[]) zo)))) ?_))
      refine C.D_step (Ei:=[(85,_),(73,_)]) rfl rfl (bV (bG 13 rfl rfl) (bV (bG 1 rfl rfl) bW)) (eY rfl rfl (Ht rfl) (fun h=>dJ A_35 Z_35 (fW rfl h))) (C.D_step (Ei:=[(13,_),(73,_)]) rfl rfl (bV (bK rfl rfl) (bV (bG 1 rfl rfl) bW)) (eY rfl rfl (Ht rfl) (fun h=>cX (Ht rfl))) (C.D_step (Ei:=[(86,_),(87,_),(73,_)]) rfl rfl (bV (bG 14 rfl rfl) (bV (bG 15 rfl rfl) (bV (bG 1 rfl rfl) bW))) (eY rfl rfl (Ht rfl) (fun h=>dZ U_35 Z_131 (fW rfl h) (fW rfl h) rfl (eX (eQ (d:=Qi.zero) zo)))) ?_))
      refine C.D_step (Ei:=[(88,_),(73,_)]) rfl rfl (bV (bG 16 rfl rfl) (bV (bG 1 rfl rfl) bW)) (eY rfl rfl (Ht rfl) (fun h=>dJ A_131 Z_131 (fW rfl h))) (C.D_step (Ei:=[(82,_),(89,_),(73,_)]) rfl rfl (bV (bG 10 rfl rfl) (bV (bG 17 rfl rfl) (bV (bG 1 rfl rfl) bW))) (eY rfl rfl (Ht rfl) (fun h=>cZ K_146 (tX (x:=t) (y:=gm x i k) (L:=D) (M:=M) zo) ⟨(fW rfl h),(fW rfl h),trivial⟩)) (fG aM rfl (by kernel_rfl) (zF (zF (zF (zF (aJ (aJ (aJ (aV ?_))))))))))
      refine fZ rfl rfl (eY rfl rfl (Ht rfl) (fun h=>cZ Tryz.call164 (Kf (x:=gm c i k) (y:=t * gm x i k) (L:=L) (M:=D + M + 1) zo zo) ⟨(fW rfl h),(fW rfl h),trivial⟩)) (ro rfl (dP (Ht rfl) (fun h=>(fW rfl h))) (ra rfl (eJ (aR (cY (rm rfl (ro rfl (dW (Ht rfl) (cJ 1) z6) (ra rfl (eJ (gQ (k + 1) hkn zo (aQ rfl (aQ rfl (aQ rfl (aQ rfl (aQ rfl (aZ rfl (bI (by rw [Mm hkn,Rp])) (zS rfl))))))) (aU (aB rfl) (aU (aB rfl) (aU (aB rfl) aY)))))))))))))
     ·have hkn : k = n := by simp only [decide_eq_false_iff_not] at hd; omega
      refine gG rfl (aR (cY (rm rfl (ro rfl (dW (Ht rfl) (cJ 1) z6) (ra rfl (eJ (gQ (i + 1) hin zo (aQ rfl (aQ rfl (aQ rfl (aQ rfl (aQ rfl (aZ rfl (bI (by rw [hkn,Pj])) (zS rfl))))))) (aU (aB rfl) (aU (aB rfl) (aU (aB rfl) aY))))))))))
    ·have hin : i = n := by simp only [decide_eq_false_iff_not] at hcc; omega
     rw [hin,Wk]
     refine gG rfl (cK (ts (rm rfl (eJ (dQ (Ht rfl) (fun hfit=>?_) (fun hfit=>?_))))))
     ·refine cK (ts (ro rfl (eW sZ (Ht rfl) rfl) (ro rfl (fX A_36 Z_36 (Ht rfl) (i := 0) rfl rfl) (ro rfl (cZ Tryz.call180 hzer ⟨(Ht rfl), trivial⟩) (eJ (dQ (Ht rfl) (fun hzz => ?_) (fun hzz => ?_)))))))
      ·have hans : R = (if zM c n = true then Qi.zero else t, true) := by
        rw [hPd]
        by_cases e:j = 0
        ·rw [h0 e] at hfit ⊢; rw [if_pos hfit]
        ·obtain ⟨a, b⟩ := h1 zo
         rw [a] at hfit ⊢; rw [if_neg b,if_pos hfit]; split <;> rfl
       have hr:R = (Qi.zero,true):=by rw [hans,if_pos (show zM c n = true from hzz)]
       subst hr
       refine cY (ro rfl (cZ K_148 (nA (n:=0) (by decide) (by decide)) ⟨(cJ 0),trivial⟩) (gZ Z_131 (Ht rfl) (Ht rfl) rfl (i:=2) rfl (aK rfl) rfl rfl (eJ (ts (ro rfl (eG A_131 Z_131 (Ht rfl) (i:=2) rfl rfl rfl) (gZ Z_131 (Ht rfl) (Ht rfl) rfl (i:=1) rfl (aK rfl) rfl rfl (ro rfl (cQ cV) (eJ (bN rfl (fJ (fY A_131 Z_131 rfl (i:=1) rfl rfl) ?_) (fQ rfl))))))))))
       exact (fun v V h=>by rw [← pG]; exact h)
      ·have hans : R = (if zM c n = true then Qi.zero else t, true) := by
        rw [hPd]
        by_cases e:j = 0
        ·rw [h0 e] at hfit ⊢; rw [if_pos hfit]
        ·obtain ⟨a, b⟩ := h1 zo
         rw [a] at hfit ⊢; rw [if_neg b,if_pos hfit]; split <;> rfl
       have hr:R = (t,true):=by rw [hans,if_neg (show ¬ zM c n = true from fun e=>by rw [show Ui c n = zM c n from rfl,e] at hzz; cases hzz)]
       subst hr
       refine cU (ts (ro rfl (eG A_131 Z_131 (Ht rfl) (i:=2) rfl rfl rfl) (gZ Z_131 (Ht rfl) (Ht rfl) rfl (i:=1) rfl (aK rfl) rfl rfl (ro rfl (cQ cV) (eJ ?_)))))
       exact bN rfl (fY A_131 Z_131 rfl (i:=1) rfl rfl) (fQ rfl)
     ·have hno : ¬ Cr c x n t = true := fun e => by rw [e] at hfit; cases hfit
      refine cU (cY (ro rfl (cZ K_148 (nA (n:=0) (by decide) (by decide)) ⟨(cJ 0),trivial⟩) (gZ Z_131 (Ht rfl) (Ht rfl) rfl (i:=2) rfl (aK rfl) rfl rfl (eJ (aR (cY (rm rfl (ro rfl (dW (Ht rfl) (cJ 1) z6) (ra rfl (eJ (cM [0,1,2] rfl (by decide) ?_)))))))))))
      refine gQ (j + 1, Qi.zero) ⟨hjl, fun e => by omega, fun _ => ⟨rfl, by
        by_cases e:j = 0
        ·rw [← h0 e]; exact hno
        ·exact (h1 zo).2⟩,fun e=>by
        have:=(h1 zo).1
        rw [← this]; exact hno⟩ (by dsimp only; omega) (zS rfl) (aU (aB rfl) (aU (aB rfl) (aU (aB (by rw [pG]; rfl)) aY)))
   ·have hj2 : 2 ≤ j := by simp only [decide_eq_false_iff_not] at hjj; omega
    have hr:R = (Qi.zero,false):=by rw [hPd,if_neg (h1 zo).2,if_neg (h2 hj2)]
    subst hr
    refine gG rfl (ts (ro rfl (cZ K_148 (nA (n:=0) (by decide) (by decide)) ⟨(cJ 0),trivial⟩) (gZ Z_131 (Ht rfl) (Ht rfl) rfl (i:=1) rfl (aK rfl) rfl rfl (ro rfl (cQ cV) (eJ (bN rfl (fJ (fY A_131 Z_131 rfl (i:=1) rfl rfl) ?_) (fQ rfl)))))))
    exact (fun v V h=>by rw [← pG]; exact h)
end
section
open Go Go.RowKit
section
variable {z w:List Qi} {s c:List (List Qi)} {n:Nat}
abbrev dl (i k:Nat):Qi:=if i = k then 1 else 0
end
section
variable {z:List Qi} {s:List (List Qi)} {n:Nat}
end
section
variable {z:List Qi} {s:List (List Qi)} {l:List Int}
end
section
variable {z:List Qi} {s:List (List Qi)} {g t:Qi} {p n:Nat}
end
end
section
open Go Go.RowKit
theorem vU {z:List Rt} {s c:List (List Rt)}:aS Tryz.prog 13 [Ou z s c] (aC true):=by
 refine aS.intro Tryz.func13 rfl Tryz.ntmps13 rfl (fun cx=>(ts (rn rfl (fU (Ht rfl)) fun B1=>(ro rfl (cQ cV) (eJ (cK (ts (ro rfl (eG Tryz.isAgg25 Tryz.sizeOf25 (Ht rfl) (i:=0) rfl rfl rfl) (ro rfl (cZ Tryz.call15 a1n ⟨(Ht rfl),trivial⟩) (ro rfl (dR (Ht rfl)) (eJ (dQ (Ht rfl) (fun hb=>?_) (fun hb=>?_)))))))))))))
 ·refine ts (ro rfl (cZ Tryz.call16 Ka trivial) (ra rfl (eJ ?_)))
  exact fK rfl (fQ rfl)
 ·have hf1 : uD z s c = true := by
   apply Decidable.byContradiction; intro h
   simp [h] at hb
  have hm1:=a0q hf1
  obtain ⟨m1,m2,m3⟩:=Sc (z:=z) (s:=s) (c:=c)
  obtain ⟨m4,m5,m6⟩:=a0J (z:=z) (s:=s) (c:=c)
  obtain ⟨X0,hX0⟩:∃ X0,X0 = Lg z s c:=⟨_,rfl⟩
  obtain ⟨X1,hX1⟩:∃ X1,X1 = Ul z s c:=⟨_,rfl⟩
  obtain ⟨XC,hXC⟩:∃ XC,XC = Uk z s c:=⟨_,rfl⟩
  rw [← hX0,← hX1,← hXC] at hm1
  rw [← hX0] at m1 m2 m3 m4
  rw [← hX1] at m1 m5
  rw [← hXC] at m2 m6
  have hsz:=a1T m2 m6 (by decide) (by decide) m3
  have hP:=Hl (z:=X0) (s:=X1) m2 m6 (by decide) (by decide) (fun _=>hsz) zo
  have hQ:=Dq (z:=X0) (s:=X1) m2 m6 (by decide) (by decide) (fun _=>hsz) zo
  have hH:=sM m2 m6 (by decide) (by decide) zo
  have hMx:=Qb (z:=X0) (s:=X1) m2 m3
  have hT:=Mp (z:=X0) (s:=X1) (L:=2) m4 m5 m6 (by decide) (by decide) m1 m2 m3
  have hU:=Hy (z:=X0) (s:=X1) (L:=2) m4 m5 m6 (by decide) (by decide) m1 m2 m3
  rw [← a1I] at hU
  have hwf:=We hsz
  have hwn:=Wf (h:=XC) (n:=X0.length)
  have hww:=Wg m2
  have hw1:dN (Bt XC X0.length) 100000000:=fun x hx=>(hwf x hx).le (by decide)
  haveI hR : aD (Oo XC (jT X0 X1) X0.length).1 10000 := by
   have h1:=Ct (n:=X0.length) m6 (qG m4 m5 (by decide) m3) (by decide) (by decide) X0.length
   unfold Oo
   split
   ·exact aD.zero (by decide)
   ·split
    ·exact aD.zero (by decide)
    ·split
     ·exact h1.le (by decide)
     ·exact aD.zero (by decide)
  have hIs:=Vc (x:=(Oo XC (jT X0 X1) X0.length).1) (y:=(Oo XC (jT X0 X1) X0.length).1) (L:=10000) (M:=10000) (by decide) (by decide)
  rw [decide_eq_true rfl] at hIs
  obtain ⟨R,hRd⟩:∃ R,R = Oo XC (jT X0 X1) X0.length:=⟨_,rfl⟩
  rw [← hRd] at hT hU hR hIs
  obtain ⟨n,hn⟩:∃ n,n = X0.length:=⟨_,rfl⟩
  rw [← hn] at hP hQ hH hwn hww hw1
  have hch:eD XC n n:=by rw [hn]; exact m2
  refine cU (ts (ro rfl (eG Tryz.isAgg25 Tryz.sizeOf25 (Ht rfl) (i:=0) rfl rfl rfl) (ro rfl (cZ Tryz.call17 hm1 ⟨(Ht rfl),trivial⟩) (rm rfl (ro rfl (dY (Ht rfl) rfl) (ro rfl (dY (Ht rfl) rfl) (ro rfl (dY (Ht rfl) rfl) (rn rfl (eK (Ts:=[Is (.slice none 0 0),Is (.slice none 0 0),Is (.slice none 0 0)]) O_34 rfl (fun V=>aW zd (aW zd (aW zd (aG))))) fun B3=>(rn rfl (eK (Ts:=[Is (.slice none 0 0),Is (.slice none 0 0),Is (.slice none 0 0)]) O_40 rfl (fun V=>aW zd (aW zd (aW zd (aG))))) fun B4=>?_)))))))))
  refine gZ Z_34 (Ht rfl) (Ht rfl) rfl (i:=1) rfl (aK rfl) rfl rfl (gZ Z_40 (Ht rfl) (Ht rfl) rfl (i:=2) rfl (aK rfl) rfl rfl (ra rfl (eJ (cK (cM [0,1,2] rfl (by decide) (cY (ro rfl (eG A_34 Z_34 (Ht rfl) (i:=1) rfl rfl rfl) (ro rfl (cZ Tryz.call72 hP ⟨(Ht rfl),trivial⟩) (rm rfl (ro rfl (dY (Ht rfl) rfl) (ro rfl (dY (Ht rfl) rfl) (ra rfl (ra rfl (eJ (cK (ts (rm rfl (ro rfl (dR (Ht rfl)) (rm rfl (fZ rfl rfl (eY rfl rfl (Ht rfl) (fun h=>cX (Ht rfl))) ?_))))))))))))))))))))
  refine fZ rfl rfl (eY rfl rfl (Ht rfl) (fun h=>eG A_40 Z_40 (Ht rfl) (i:=2) rfl rfl rfl)) (fZ rfl rfl (eY rfl rfl (Ht rfl) (fun h=>cZ Tryz.call73 hQ ⟨(fW rfl h),trivial⟩)) (fZ rfl rfl (eY rfl rfl (Ht rfl) (fun h=>Ci U_4 (fW rfl h) (fW rfl h))) (ro rfl (iW (Ht rfl) (fun h=>(fW rfl h))) (eJ (jZ (Ht rfl) (by simp) ?_)))))
  refine cU (cK (cM [1,2] rfl (by decide) (iY (fun (q:Nat)=>True) (fun (q:Nat)=>[(3,cC B3 0),(4,cC B4 0)]) (fun (q:Nat)=>[box B3 34 [cB X0,bS X1,bS XC],box B4 40 [xA X0,QM X1,QM XC]]) ?_ (fun q _=>?_))))
  ·refine ts (rm rfl (rm rfl (fZ rfl rfl (eY rfl rfl (Ht rfl) (fun h => eW sZ (Ht rfl) rfl)) (fZ rfl rfl (eY rfl rfl (Ht rfl) (fun h => fX A_36 Z_36 (fW rfl h) (i := 1) rfl rfl)) (fZ rfl rfl (eY rfl rfl (Ht rfl) (fun h => cZ Tryz.call74 hH ⟨(fW rfl h), trivial⟩)) (fZ rfl rfl (eY rfl rfl (Ht rfl) (fun h => dR (fW rfl h))) (ro rfl (iW (Ht rfl) (fun h => (fW rfl h))) (eJ (dQ (Ht rfl) (fun hg => ?_) (fun hg => ?_))))))))))
   ·have hnil := hwn (by revert hg; cases zI XC n <;> cases iV XC n <;> simp)
    rw [hnil]
    refine ts (rm rfl (ro rfl (dU U_29 (Ht rfl) aA) (ro rfl (gY (Ht rfl) (cJ 0)) (eJ (jZ (Ht rfl) (by simp) ?_)))))
    refine cU (cM [0,1] rfl (by decide) (aO 0 trivial (zS rfl) (aU (aB rfl) (aU (aB rfl) aY))))
   ·have hg1 : ¬ zI XC n = true := by revert hg; cases zI XC n <;> simp
    have hg2:iV XC n = true:=by revert hg; cases iV XC n <;> cases zI XC n <;> simp
    obtain ⟨w1,w2⟩:=hww hg2 hg1
    have hFo:=a0j (L:=2) (M:=100000000) hch w2 m6 hw1 (by decide) (by decide) (by decide) zo
    have sqf : aD (sq n (gv (Bt XC n)) (gv (Bt XC n)) (gm XC)) 1000000000000 := (aD.sum fun a _ => Iv m6 hw1 (by decide) (by decide) a).le (by
     have h1:n * (100000000 + 2 + 1 + 100000000 + 1 + 1) ≤ 8 * (100000000 + 2 + 1 + 100000000 + 1 + 1):=Nat.mul_le_mul_right _ zo
     have h2:n * (1 + n * (100000000 + 2 + 1 + 100000000 + 1 + 1) + 1) ≤ 8 * (1 + n * (100000000 + 2 + 1 + 100000000 + 1 + 1) + 1):=Nat.mul_le_mul_right _ zo
     omega)
    obtain ⟨g,hgd⟩:∃ g,g = sq n (gv (Bt XC n)) (gv (Bt XC n)) (gm XC):=⟨_,rfl⟩
    rw [← hgd] at w1 hFo sqf
    haveI:=sqf
    have w3:vV g (Qi.ofInt 0) < 0:=by rw [pG]; exact of_decide_eq_true w1
    refine ts (ro rfl (eG A_34 Z_34 (Ht rfl) (i:=0) rfl rfl rfl) (ro rfl (cZ Tryz.call54 hMx ⟨(Ht rfl),trivial⟩) (rm rfl (ro rfl (cZ Tryz.call75 hFo ⟨(Ht rfl),(Ht rfl),trivial⟩) (rm rfl (ro rfl (dY (Ht rfl) rfl) (ro rfl (dY (Ht rfl) rfl) (rn rfl (eK (Ts:=[Is (.bool false),Is (.slice none 0 0),Is (.bool false),Is (.slice none 0 0),Is (.slice none 0 0)]) O_51 rfl (fun V=>aW zd (aW zd (aW zd (aW zd (aW zd (aG))))))) fun B8=>?_))))))))
    refine gZ Z_51 (Ht rfl) (Ht rfl) rfl (i:=2) rfl (aK rfl) rfl rfl (ra rfl (eJ (cK (fV (m:=5) (dp 9 rfl (cX (Ht rfl)) (dq 54 0 rfl (uY (Ht rfl) cV) (dq 55 1 rfl (cX (Ht rfl)) (C.D_step (Ei:=[(8,_),(56,_)]) rfl rfl (bV (bK rfl rfl) (bV (bG 2 rfl rfl) bW)) (eY rfl rfl (Ht rfl) (fun h=>eG A_51 Z_51 (Ht rfl) (i:=2) rfl rfl rfl)) (C.D_step (Ei:=[(56,_)]) rfl rfl (bV (bG 2 rfl rfl) bW) (eY rfl rfl (Ht rfl) (fun h=>cZ K_77 (pR (n:=0) (by decide) (by decide)) ⟨(cJ 0),trivial⟩)) ?_)))))))))
    refine fG aM rfl (by kernel_rfl) (zF (aJ (aV (fZ rfl rfl (eY rfl rfl (Ht rfl) (fun h=>cZ K_76 (zR (x:=g) (y:=Qi.ofInt 0) (L:=1000000000000) (M:=1) (hy:=by rw [pG]; exact aD.zero (by decide)) (by decide)) ⟨(fW rfl h),(fW rfl h),trivial⟩)) (fZ rfl rfl (eY rfl rfl (Ht rfl) (fun h=>kV (fW rfl h) cV)) (ro rfl (iW (Ht rfl) (fun h=>(fW rfl h))) (eJ (jZ (Ht rfl) (by simp; omega) ?_))))))))
    refine cU (cM [0,1] rfl (by decide) (aO 0 trivial (zS rfl) (aU (aB rfl) (aU (aB rfl) aY))))
  ·refine ts (ro rfl (eG A_34 Z_34 (Ht rfl) (i := 0) rfl rfl rfl) (ro rfl (cZ Tryz.call78 hT ⟨(Ht rfl), trivial⟩) (rm rfl (ro rfl (dY (Ht rfl) rfl) (ro rfl (dY (Ht rfl) rfl) (rn rfl (eK (Ts := [Is (.bool false), Is (.slice none 0 0), Is (.bool false), Is (.slice none 0 0), Is (.slice none 0 0)]) O_51 rfl (fun V => aW zd (aW zd (aW zd (aW zd (aW zd (aG))))))) fun B10 => (gZ Z_51 (Ht rfl) (Ht rfl) rfl (i := 2) rfl (aK rfl) rfl rfl ?_)))))))
   refine ra rfl (eJ (ts (ro rfl (eG A_40 Z_40 (Ht rfl) (i:=1) rfl rfl rfl) (ro rfl (cZ Tryz.call79 hU ⟨(Ht rfl),trivial⟩) (rm rfl (ro rfl (dY (Ht rfl) rfl) (ro rfl (dY (Ht rfl) rfl) (rn rfl (eK (Ts:=[Is (.bool false),Is (.slice none 0 0),Is (.bool false),Is (.slice none 0 0),Is (.slice none 0 0)]) O_131 rfl (fun V=>aW zd (aW zd (aW zd (aW zd (aW zd (aG))))))) fun B12=>(gZ Z_131 (Ht rfl) (Ht rfl) rfl (i:=3) rfl (aK rfl) rfl rfl ?_)))))))))
   refine ra rfl (eJ (ts (rm rfl (rm rfl (ro rfl (In U_4 (Ht rfl) (Ht rfl)) (rm rfl (fZ rfl rfl (eY rfl rfl (Ht rfl) (fun h=>eG A_51 Z_51 (Ht rfl) (i:=2) rfl rfl rfl)) (fZ rfl rfl (eY rfl rfl (Ht rfl) (fun h=>eG A_131 Z_131 (Ht rfl) (i:=3) rfl rfl rfl)) (fZ rfl rfl (eY rfl rfl (Ht rfl) (fun h=>cZ Tryz.call80 hIs ⟨(fW rfl h),(fW rfl h),trivial⟩)) (ro rfl (dP (Ht rfl) (fun h=>(fW rfl h))) (rm rfl (fZ rfl rfl (eY rfl rfl (Ht rfl) (fun h=>cZ Tryz.call16 Ka trivial)) ?_))))))))))))
   refine ro rfl (dP (Ht rfl) (fun h=>(fW rfl h))) (ra rfl (eJ (fK rfl (fJ (fQ rfl) ?_))))
   exact (bI (by simp))
end
end Go.Proofs.YteohomnhncjcnaaGreat
