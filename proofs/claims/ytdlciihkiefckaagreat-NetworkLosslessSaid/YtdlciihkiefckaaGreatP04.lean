/- What functions of the program compute, proved by walks over their code, and the plain mathematics of it; a part of the proof in the last text. -/
import Derived.Test.YtdlciihkiefckaaGreatP03
set_option linter.unusedVariables false
set_option linter.unusedSimpArgs false
set_option maxRecDepth 100000
set_option maxHeartbeats 4000000
namespace Go.Proofs.YtdlciihkiefckaaGreat
section
open Go Go.RowKit
theorem a06 {x:Qi} (h:eS x = true):x ≠ 0:=fun e=>(a5e h).2 (by rw [e]; rfl)
theorem oL {z:List Qi} (h:z.all eS = true) {i:Nat} (hi:i < z.length):gv z i ≠ 0:=a06 (List.all_eq_true.1 h _ (by rw [show gv z i = z[i] by simp [gv,List.getD,hi]]; exact List.getElem_mem hi))
theorem nS {x y:Qi} {L M:Nat} (hx:aH x L) (hy:aH y M) (h:y ≠ 0):aH (x / y) (L + 3 * M + 2):=⟨hx.fit.div hy.fit h⟩
def lJ (z w:List Qi) (i:Nat):Qi:=gv w i / gv z i
def Ve (z w:List Qi):List Qi:=tab w.length fun i=>Qi.ofInt 1 + lJ z w i
def Vd (z w:List Qi):List Qi:=tab w.length fun i=>Qi.ofInt 1 - lJ z w i
def mxE (st fa:List Qi) (s:List (List Qi)) (i j:Nat):Qi:=(if i = j then gv st i else Qi.ofInt 0) + gv fa i * gm s i j
def mxM (st fa:List Qi) (s:List (List Qi)) (n:Nat):List (List Qi):=tab n fun i=>tab n fun j=>mxE st fa s i j
theorem xF (st fa:List Qi) (s:List (List Qi)) (n:Nat):cB (mxM st fa s n) n n:=cB.tab
theorem a2h {st fa:List Qi} {s:List (List Qi)} {K L:Nat} (hs:bH st K) (hf:bH fa K) (hS:bA s L) (hK:1 ≤ K) (hL:1 ≤ L) (i j:Nat):aH (mxE st fa s i j) (2 * K + L + 2):=by
 haveI f1:=hf.get hK i
 haveI f2:=hS.get hL i j
 haveI f3 : aH (if i = j then gv st i else Qi.ofInt 0) K := by
  split
  ·exact hs.get hK i
  ·exact aH.zero hK
 have:aH (mxE st fa s i j) (K + (K + L + 1) + 1):=inferInstanceAs (aH (_ + _ * _) _)
 exact this.le zo
theorem Hi {st fa:List Qi} {s:List (List Qi)} {n K L:Nat} (hs:bH st K) (hf:bH fa K) (hS:bA s L) (hK:1 ≤ K) (hL:1 ≤ L):bA (mxM st fa s n) (2 * K + L + 2):=bA.tab fun i j _ _=>a2h hs hf hS hK hL i j
theorem Ig {z w:List Qi} {L M i:Nat} (hz:bH z L) (hw:bH w M) (hL:1 ≤ L) (hM:1 ≤ M) (hp:z.all eS = true) (hi:i < z.length):aH (lJ z w i) (M + 3 * L + 2):=nS (hw.get hM i) (hz.get hL i) (oL hp hi)
theorem If {z w : List Qi} {L M : Nat} (hz : bH z L) (hw : bH w M) (hL : 1 ≤ L) (hM : 1 ≤ M) (hp : z.all eS = true) (hl : w.length = z.length) : bH (Ve z w) (M + 3 * L + 4) := bH.tab fun i hi => by
 haveI f1:=Ig (i:=i) hz hw hL hM hp zo
 haveI:=jH
 have:aH (Qi.ofInt 1 + lJ z w i) (1 + (M + 3 * L + 2) + 1):=fitAdd
 exact this.le zo
theorem Ie {z w : List Qi} {L M : Nat} (hz : bH z L) (hw : bH w M) (hL : 1 ≤ L) (hM : 1 ≤ M) (hp : z.all eS = true) (hl : w.length = z.length) : bH (Vd z w) (M + 3 * L + 4) := bH.tab fun i hi => by
 haveI f1:=Ig (i:=i) hz hw hL hM hp zo
 haveI:=jH
 have:aH (Qi.ofInt 1 - lJ z w i) (1 + (M + 3 * L + 2) + 1):=fitSub
 exact this.le zo
abbrev Uj (z w:List Qi) (s:List (List Qi)):List (List Qi):=mxM (Vd z w) (Ve z w) s w.length
abbrev yN (z w:List Qi) (s:List (List Qi)):List (List Qi):=mxM (Ve z w) (Vd z w) s w.length
def Ic (z w:List Qi) (s:List (List Qi)):Int:=if w.length ≠ z.length then 4 else if w.all eS = true then Fj (yN z w s) w.length else 1
def rnZ (z w:List Qi) (s:List (List Qi)):List Qi:=iC (Ic z w s) w
def mV (z w:List Qi) (s:List (List Qi)):List (List Qi):=iC (Ic z w s) (gR (Uj z w s) (jK (yN z w s) w.length) w.length w.length w.length)
theorem a31 {z w:List Qi} {s:List (List Qi)} (h:w.length ≠ z.length):Ic z w s = 4:=if_pos h
theorem a5i {z w:List Qi} {s:List (List Qi)} (h:w.length = z.length) (hp:w.all eS ≠ true):Ic z w s = 1:=by rw [Ic,if_neg (fun k=>k h),if_neg hp]
theorem a0q {z w:List Qi} {s:List (List Qi)} (h:w.length = z.length) (hp:w.all eS = true):Ic z w s = Fj (yN z w s) w.length:=by rw [Ic,if_neg (fun k=>k h),if_pos hp]
theorem a5j {z w:List Qi} {s:List (List Qi)} (h:w.length = z.length) (hp:w.all eS = true):mV z w s = ovX (Uj z w s) (yN z w s) w.length:=by rw [mV,a0q h hp]; rfl
def rdl (i j:Nat):Qi:=if i = j then Qi.ofInt 1 else Qi.ofInt 0
end
section
open Go Go.RowKit
def Gs (z:List Qi) (m:List (List Qi)):List (List Qi):=tab z.length fun i=>tab z.length fun j=>gm m i j / gv z j
def frE (z:List Qi) (m q:List (List Qi)):Int:=if fD z m = 0 then Fj (kL 1 1 q z.length) z.length else fD z m
def frM (z:List Qi) (q r:List (List Qi)):List (List Qi):=gR (jK (kL 1 1 q z.length) z.length) r z.length z.length z.length
def frZ (z:List Qi) (m q:List (List Qi)):List Qi:=iC (frE z m q) z
def frS (z:List Qi) (m q r:List (List Qi)):List (List Qi):=iC (frE z m q) (frM z q r)
theorem a4q {z:List Qi} {m q:List (List Qi)} (h:fD z m ≠ 0):frE z m q = fD z m:=if_neg h
theorem a3A {z:List Qi} {m q:List (List Qi)} (h:fD z m = 0):frE z m q = Fj (kL 1 1 q z.length) z.length:=if_pos h
theorem yF:aH (Qi.ofInt 1) 1:=jH
theorem Xu:aH (Qi.ofInt (-1)) 1:=by haveI:=jH; exact (fitNeg:aH (-(Qi.ofInt 1)) 1)
theorem Pw {z:List Qi} {m:List (List Qi)} {L M:Nat} (hz:bH z M) (hm:bA m L) (hL:1 ≤ L) (hM:1 ≤ M) (hp:z.all eS = true):bA (Gs z m) (L + 3 * M + 2):=bA.tab fun i j _ hj=>nS (hm.get hL i j) (hz.get hM j) (oL hp hj)
end
section
open Go Go.RowKit
section
variable {φ:Qi → Qi → Bool} {z:List Qi} {js:List (Int × Int)}
end
theorem jR {a b:List (List Qi)} {n k m i j:Nat} (hi:i < n) (hj:j < m):gm (gR a b n k m) i j = aB k fun t=>gm a i t * gm b t j:=dD hi hj
theorem Hg {A : List (List Qi)} {n : Nat} (h : cB A n n) : gR (qP n) A n n n = A := fH iA h fun i hi j hj => by
 rw [jR hi hj,bM hi (f:=fun t=>gm (qP n) i t * gm A t j) fun k hk hne=>by rw [sD hi hk,if_neg (Ne.symm hne)]; grind,sD hi hi,if_pos rfl]; grind
theorem Hh {A : List (List Qi)} {n : Nat} (h : cB A n n) : gR A (qP n) n n n = A := fH iA h fun i hi j hj => by
 rw [jR hi hj,bM hj (f:=fun t=>gm A i t * gm (qP n) t j) fun k hk hne=>by rw [sD hk hj,if_neg hne]; grind,sD hj hj,if_pos rfl]; grind
abbrev jp1 (js:List (Int × Int)) (k:Nat):Nat:=((mU js k).1 - 1).toNat
abbrev jp2 (js:List (Int × Int)) (k:Nat):Nat:=((mU js k).2 - 1).toNat
theorem a3I {js:List (Int × Int)} {k:Nat} (h:k < js.length):gq (cL js) (2 * k) = jp1 js k ∧ gq (cL js) (2 * k + 1) = jp2 js k:=by
 obtain ⟨h1,h2⟩:=Nh h
 rw [a1V,a4z]; exact ⟨h1,h2⟩
def Ab:Qi:=Qi.frac 1 0 2
theorem a1W:Ab * Qi.ofInt 2 = Qi.ofInt 1:=by decide +kernel
section
variable {js:List (Int × Int)} {n:Nat}
end
theorem tW : ∀ n, eO [] n = tab n fun i => i
 | 0=>rfl
 | n + 1=>by rw [eO,tW n,lM]; rfl
theorem Ot (n:Nat):(eO [] n).length = n:=by rw [tW,aF]
theorem a18 {z:List Qi}:mF z (eO [] z.length) = z:=by
 rw [mF,Ot,tW]
 apply List.ext_getElem?
 intro i
 by_cases hi:i < z.length
 ·rw [bR hi,cD,kJ hi]; simp [gv,List.getD,hi]
 ·rw [List.getElem?_eq_none (by rw [aF]; omega),List.getElem?_eq_none zo]
end
section
open Go Go.RowKit
structure Ec (O:List Nat) (n:Nat):Prop where
 nd:O.Nodup
 all:∀ x,x ∈ O ↔ 1 ≤ x ∧ x ≤ n
theorem Ec.len {O:List Nat} {n:Nat} (h:Ec O n):O.length = n:=by
 refine Nat.le_antisymm ?_ ?_
 ·refine pig (n := n) (f := fun i => O.getD i 0 - 1) (fun x hx => ?_) (fun x y hx hy e => ?_)
  ·have := (h.all (O.getD x 0)).1 (by rw [show O.getD x 0 = O[x] by simp [List.getD, hx]]; exact List.getElem_mem hx)
   show O.getD x 0 - 1 < n; omega
  ·have a := (h.all (O.getD x 0)).1 (by rw [show O.getD x 0 = O[x] by simp [List.getD, hx]]; exact List.getElem_mem hx)
   have b:=(h.all (O.getD y 0)).1 (by rw [show O.getD y 0 = O[y] by simp [List.getD,hy]]; exact List.getElem_mem hy)
   have e2:O.getD x 0 = O.getD y 0:=by have:O.getD x 0 - 1 = O.getD y 0 - 1:=e; omega
   rw [show O.getD x 0 = O[x] by simp [List.getD,hx],show O.getD y 0 = O[y] by simp [List.getD,hy]] at e2
   exact (List.getElem_inj h.nd).1 e2
 ·have key : ∀ j, j < n → ∃ i, i < O.length ∧ O.getD i 0 = j + 1 := fun j hj => by
   obtain ⟨i,hi,e⟩:=List.getElem_of_mem ((h.all (j + 1)).2 ⟨by omega,by omega⟩)
   exact ⟨i,hi,by simp [List.getD,hi,e]⟩
  refine pig (n:=O.length) (f:=fun j=>if hj:j < n then Classical.choose (key j hj) else 0) (fun x hx=>by simp only [dif_pos hx]; exact (Classical.choose_spec (key x hx)).1) (fun x y hx hy e=>?_)
  simp only [dif_pos hx,dif_pos hy] at e
  have a:=(Classical.choose_spec (key x hx)).2
  have b:=(Classical.choose_spec (key y hy)).2
  rw [e] at a; omega
section
variable {O:List Nat} {n:Nat}
theorem Ec.at (h:Ec O n) {i:Nat} (hi:i < n):1 ≤ O.getD i 0 ∧ O.getD i 0 ≤ n:=by
 have hl:=h.len
 exact (h.all _).1 (by rw [show O.getD i 0 = O[i] by simp [List.getD,show i < O.length by omega]]; exact List.getElem_mem _)
theorem Ec.inj (h:Ec O n) {i j:Nat} (hi:i < n) (hj:j < n) (e:O.getD i 0 = O.getD j 0):i = j:=by
 have hl:=h.len
 rw [show O.getD i 0 = O[i] by simp [List.getD,show i < O.length by omega],show O.getD j 0 = O[j] by simp [List.getD,show j < O.length by omega]] at e
 exact (List.getElem_inj h.nd).1 e
end
end
section
open Go Go.RowKit
def a6F (S:Nat → Nat → Qi) (p q b:Nat) (v0 v1:Qi):Prop:=v0 = S q b + (S q p * v0 + S q q * v1) ∧ v1 = S p b + (S p p * v0 + S p q * v1)
def a0X (S:Nat → Nat → Qi) (p q:Nat):Prop:=∀ v0 v1:Qi,v0 = S q p * v0 + S q q * v1 → v1 = S p p * v0 + S p q * v1 → v0 = 0 ∧ v1 = 0
theorem uE {M:List (List Qi)} {b:List Qi} {n:Nat} (h:cB M n n):jA M b n = 0 ↔ ∀ y:Nat → Qi,(∀ i,i < n → aB n (fun k=>gm M i k * y k) = 0) → ∀ k,k < n → y k = 0:=by
 constructor
 ·intro e; exact (mE h e).2
 ·intro hk
  apply Classical.byContradiction; intro e
  obtain ⟨y,hy,k,hkn,hne⟩:=xQ h e
  exact hne (hk y hy k hkn)
theorem Od (f:Nat → Qi):aB 2 f = f 0 + f 1:=by simp only [aB,q0]; grind
section
variable {S:List (List Qi)} {p q r t a b:Nat}
abbrev J1 (p q:Nat):List (Int × Int):=[(((p + 1:Nat):Int),((q + 1:Nat):Int))]
theorem p1n (p:Nat):(((p + 1:Nat):Int) - 1).toNat = p:=by omega
theorem a6e:cL (J1 p q) = [(p,q)]:=by simp only [cL,J1,List.map_cons,List.map_nil,p1n]
theorem a6Q:iL (J1 p q) = [p,q]:=by
 have e:iL (J1 p q) = [(((p + 1:Nat):Int) - 1).toNat,(((q + 1:Nat):Int) - 1).toNat]:=rfl
 rw [e,p1n,p1n]
theorem a5l {v:Nat → Qi}:(aB 2 (fun y=>gm (nU S [(p,q)] 2) 0 y * v y) = v 0 - (gm S q p * v 0 + gm S q q * v 1)) ∧ (aB 2 (fun y=>gm (nU S [(p,q)] 2) 1 y * v y) = v 1 - (gm S p p * v 0 + gm S p q * v 1)):=by
 rw [Qf zo,Qf zo,Od,Od]
 exact ⟨rfl,rfl⟩
theorem Ut {x y:Qi} (h:x - y = 0):x = y:=by grind
theorem Qs {bb:List Qi}:jA (nU S [(p,q)] 2) bb 2 = 0 ↔ a0X (gm S) p q:=by
 rw [uE (nV _ _ _)]
 constructor
 ·intro h v0 v1 h0 h1
  have hk := h (fun k => if k = 0 then v0 else v1) (fun i hi => by
   obtain ⟨r0,r1⟩:=a5l (S:=S) (p:=p) (q:=q) (v:=fun k=>if k = 0 then v0 else v1)
   have c:i = 0 ∨ i = 1:=by omega
   rcases c with rfl | rfl
   ·rw [r0]; show v0 - (gm S q p * v0 + gm S q q * v1) = 0; clear r0 r1 h; grind
   ·rw [r1]; show v1 - (gm S p p * v0 + gm S p q * v1) = 0; clear r0 r1 h; grind)
  exact ⟨hk 0 zo,hk 1 zo⟩
 ·intro h y hy
  obtain ⟨r0,r1⟩:=a5l (S:=S) (p:=p) (q:=q) (v:=y)
  obtain ⟨a0,a1⟩:=h (y 0) (y 1) (Ut (by rw [← r0]; exact hy 0 zo)) (Ut (by rw [← r1]; exact hy 1 zo))
  intro k hk
  have c:k = 0 ∨ k = 1:=by omega
  rcases c with rfl | rfl
  ·exact a0
  ·exact a1
theorem a6l (h:a0X (gm S) p q):∃ v0 v1,a6F (gm S) p q b v0 v1 ∧ ∀ a,xA S [(p,q)] 2 a b = gm S a b + (gm S a p * v0 + gm S a q * v1):=by
 have hs:=(mE (nV S [(p,q)] 2) (Qs (bb:=zA S [(p,q)] 2 b) |>.2 h)).1
 obtain ⟨r0,r1⟩:=a5l (S:=S) (p:=p) (q:=q) (v:=gv (iE (nU S [(p,q)] 2) (zA S [(p,q)] 2 b) 2))
 have h0:=hs 0 zo
 have h1:=hs 1 zo
 rw [r0,Mz zo] at h0
 rw [r1,Mz zo] at h1
 refine ⟨gv (iE (nU S [(p,q)] 2) (zA S [(p,q)] 2 b) 2) 0,gv (iE (nU S [(p,q)] 2) (zA S [(p,q)] 2 b) 2) 1,⟨?_,?_⟩,fun a=>?_⟩
 ·have e : gm S (gq [(p, q)] (jW 0)) b = gm S q b := rfl
  rw [e] at h0; clear r0 r1 hs h h1; grind
 ·have e : gm S (gq [(p, q)] (jW 1)) b = gm S p b := rfl
  rw [e] at h1; clear r0 r1 hs h h0; grind
 ·rw [xA,Od]; rfl
end
section
variable {S:Nat → Nat → Qi} {p q r t a b:Nat}
def S1 (S:Nat → Nat → Qi) (p q:Nat) (V:Nat → Qi × Qi) (a b:Nat):Qi:=S a b + (S a p * (V b).1 + S a q * (V b).2)
variable {V:Nat → Qi × Qi}
end
end
section
open Go Go.RowKit
def low (c a b:Nat):Nat:=c - (if a < c then 1 else 0) - (if b < c then 1 else 0)
def okP (N p q r t : Nat) : Bool :=
 decide ((eO [p,q] N).length = N - 2) && decide (low r p q < N - 2) && decide (low t p q < N - 2) && decide (low r p q ≠ low t p q) && decide (cD (eO [p,q] N) (low r p q) = r) && decide (cD (eO [p,q] N) (low t p q) = t)
 && decide ((eO [low r p q,low t p q] (N - 2)).map (cD (eO [p,q] N)) = eO [p,q,r,t] N) && decide ((eO [p,q,r,t] N).length = N - 4) && decide (eO [t,r,p,q] N = eO [p,q,r,t] N) && decide (eO [r,t,p,q] N = eO [p,q,r,t] N)
theorem Ex {n p:Nat} {l:List Nat} (hp:p < n) (h:p ∉ l):eR n ((p + 1:Nat):Int) (l.map fun (x:Nat)=>((x + 1:Nat):Int)) = 0:=by
 rw [eR,if_neg (fun k=>k ⟨by omega,by omega⟩),if_neg]
 simp only [List.any_map,List.any_eq_true,Function.comp,decide_eq_true_eq]
 rintro ⟨x,hx,e⟩
 exact h ((show x = p by omega) ▸ hx)
section
variable {z:List Qi} {S:List (List Qi)} {N p q r t:Nat} {ζ:Qi}
theorem a4K {js:List (Int × Int)} {k:Nat} {a b:Nat} {l:List Nat} (hk:mU js k = (((a + 1:Nat):Int),((b + 1:Nat):Int))) (hl:nT (js.take k) = l.map fun (x:Nat)=>((x + 1:Nat):Int)) (ha:a < z.length) (hb:b < z.length) (hal:a ∉ l) (hbl:b ∉ l) (hab:a ≠ b) (hz:gv z a = gv z b):xB z js k = 0:=by
 have e2:(l.map fun (x:Nat)=>((x + 1:Nat):Int)) ++ [((a + 1:Nat):Int)] = (l ++ [a]).map fun (x:Nat)=>((x + 1:Nat):Int):=by simp
 rw [xB,hk,hl]
 simp only []
 rw [e2,Ex ha hal,Ex hb (by simp only [List.mem_append,List.mem_singleton]; rintro (k | k); exact hbl k; exact hab k.symm),p1n,p1n,if_pos hz]; rfl
theorem Tb {f : Nat → Int} {n : Nat} {P : Prop} (hn : 1 ≤ n) (h : ∀ i, f i = 0 ↔ P) : jZ f n = 0 ↔ P :=
 ⟨fun e=>(h 0).1 (gM e 0 zo),fun k=>gL fun i _=>(h i).2 k⟩
theorem a4H:dO z (J1 p q) = eO [p,q] z.length:=by rw [dO,a6Q]
theorem a6v (h:vF z S (J1 p q) = 0):Cd z S (J1 p q) = (tab (eO [p,q] z.length).length fun x=>tab (eO [p,q] z.length).length fun y=>xA S [(p,q)] 2 (cD (eO [p,q] z.length) x) (cD (eO [p,q] z.length) y)) ∧ tV z S (J1 p q) = mF z (eO [p,q] z.length):=by
 have e:zL z S (J1 p q) = tab (dO z (J1 p q)).length fun x=>tab (dO z (J1 p q)).length fun y=>xA S (cL (J1 p q)) 2 (cD (dO z (J1 p q)) x) (cD (dO z (J1 p q)) y):=rfl
 constructor
 ·rw [Cd,iC,if_pos h,if_neg (by simp),e,a4H,a6e]
 ·rw [tV,iC,if_pos h,if_neg (by simp),rW,a4H]
end
end
section
open Go Go.RowKit
abbrev wR (s f:List (List Qi)) (n:Nat):List (List Qi):=rG s f n 2
abbrev nF (s f:List (List Qi)) (p:Nat):Qi:=Qi.ofInt 1 - gm f 1 1 * gm s p p
def Bs (p i:Nat) (n:Nat):Nat:=if i < p then i else if i = p then n - 1 else i - 1
theorem Gq {p i n:Nat} (hp:p < n) (hi:i < n):nP p (Bs p i n) = if i = p then n else i:=by
 unfold Bs nP
 by_cases c:i < p
 ·rw [if_pos c,if_pos c,if_neg zo]
 ·rw [if_neg c]
  by_cases d:i = p
  ·rw [if_pos d,if_pos d,if_neg zo]; omega
  ·rw [if_neg d,if_neg d,if_neg zo]; omega
theorem Bt {p i n:Nat} (hi:i < n):Bs p i n < n:=by unfold Bs; split <;> (try split) <;> omega
def emL (n p : Nat) : Nat → List Nat
 | 0=>[]
 | k + 1=>emL n p k ++ (if k = p then [n - 1,k] else [k])
theorem Xo {n p : Nat} : ∀ k, emL n p k = tab (if p < k then k + 1 else k) fun i => Bs p i n
 | 0=>rfl
 | k + 1 => by
  rw [emL,Xo k]
  by_cases c:k = p
  ·subst c
   rw [if_neg (Nat.lt_irrefl k),if_pos rfl,if_pos (Nat.lt_succ_self k),lM,lM,List.append_assoc]
   have e1:Bs k k n = n - 1:=by unfold Bs; rw [if_neg (Nat.lt_irrefl k),if_pos rfl]
   have e2:Bs k (k + 1) n = k:=by unfold Bs; rw [if_neg zo,if_neg zo]; omega
   rw [e1,e2]; rfl
  ·rw [if_neg c]
   by_cases d:p < k
   ·rw [if_pos d,if_pos zo,lM (m:=k + 1),show Bs p (k + 1) n = k by unfold Bs; rw [if_neg zo,if_neg zo]; omega]
   ·rw [if_neg d,if_neg zo,lM,show Bs p k n = k by unfold Bs; rw [if_pos zo]]
def Gr (n p:Nat):List Nat:=emL n p (n - 1) ++ (if p + 1 = n then [n - 1] else [])
theorem Bu {n p:Nat} (hp:p < n):Gr n p = tab n fun i=>Bs p i n:=by
 rw [Gr,Xo]
 by_cases c:p + 1 = n
 ·rw [if_pos c, if_neg zo]
  have e:tab n (fun i=>Bs p i n) = tab (n - 1 + 1) fun i=>Bs p i n:=by rw [show n - 1 + 1 = n by omega]
  rw [e,lM,show Bs p (n - 1) n = n - 1 by unfold Bs; rw [if_neg zo,if_pos zo]]
 ·rw [if_neg c,if_pos zo,List.append_nil,show n - 1 + 1 = n by omega]
def vE (s f : List (List Qi)) (p i j : Nat) : Qi :=
 if i = p ∧ j = p then gm f 0 0 + gm f 0 1 * (gm f 1 0 * (gm s p p / nF s f p))
 else if j = p then gm s i p / nF s f p * gm f 1 0
 else if i = p then gm f 0 1 * (gm s p j / nF s f p)
 else gm s i j + gm s i p / nF s f p * (gm f 1 1 * gm s p j)
def Ta (s f:List (List Qi)) (p n:Nat):List (List Qi):=tab n fun i=>tab n fun j=>vE s f p i j
def Dp (z fz:List Qi) (port:Int) (x:Nat):Int:=if fz.length ≠ 2 then 4 else if ¬ (1 ≤ port ∧ port ≤ z.length) then 1 else if gv fz (x - 1) = gv z (port - 1).toNat then 0 else 40
theorem a6a {z fz:List Qi} {port:Int} {x:Nat} (h:Dp z fz port x = 0):fz.length = 2 ∧ (1 ≤ port ∧ port ≤ z.length) ∧ gv fz (x - 1) = gv z (port - 1).toNat:=by
 unfold Dp at h
 by_cases c1:fz.length = 2
 ·rw [if_neg (fun k => k c1)] at h
  by_cases c2:1 ≤ port ∧ port ≤ z.length
  ·rw [if_neg (fun k => k c2)] at h
   by_cases c3:gv fz (x - 1) = gv z (port - 1).toNat
   ·exact ⟨c1,c2,c3⟩
   ·rw [if_neg c3] at h; omega
  ·rw [if_pos c2] at h; omega
 ·rw [if_pos c1] at h; omega
def Dx (z:List Qi) (s:List (List Qi)) (fz:List Qi) (f:List (List Qi)) (port:Int):Int:=if Dp z fz port 2 ≠ 0 then Dp z fz port 2 else if nF s f (port - 1).toNat = Qi.zero then 6 else 0
theorem a3y {z fz:List Qi} {s f:List (List Qi)} {port:Int} (h:Dp z fz port 2 ≠ 0):Dx z s fz f port = Dp z fz port 2:=if_pos h
theorem a3z {z fz:List Qi} {s f:List (List Qi)} {port:Int} (h:Dp z fz port 2 = 0) (h2:nF s f (port - 1).toNat = Qi.zero):Dx z s fz f port = 6:=by rw [Dx,if_neg (fun k=>k h),if_pos h2]
theorem a4p {z fz:List Qi} {s f:List (List Qi)} {port:Int} (h:Dp z fz port 2 = 0) (h2:nF s f (port - 1).toNat ≠ Qi.zero):Dx z s fz f port = 0:=by rw [Dx,if_neg (fun k=>k h),if_neg h2]
def Xq (z:List Qi) (s:List (List Qi)) (fz:List Qi) (f:List (List Qi)) (port:Int):List Qi:=iC (Dx z s fz f port) (z.set (port - 1).toNat (gv fz 0))
def Xp (z:List Qi) (s:List (List Qi)) (fz:List Qi) (f:List (List Qi)) (port:Int):List (List Qi):=iC (Dx z s fz f port) (Ta s f (port - 1).toNat z.length)
end
section
open Go Go.RowKit
def Gb (x:Qi) (N:Nat):Prop:=∃ p q:Int,x = Qi.mk (p:Rat) (q:Rat) ∧ p.natAbs ≤ N ∧ q.natAbs ≤ N
theorem Gb.le {x:Qi} {N M:Nat} (h:Gb x N) (k:N ≤ M):Gb x M:=by
 obtain ⟨p,q,e,h1,h2⟩:=h; exact ⟨p,q,e,by omega,by omega⟩
theorem Gb.add {x y:Qi} {N M:Nat} (h:Gb x N) (k:Gb y M):Gb (x + y) (N + M):=by
 obtain ⟨p,q,rfl,h1,h2⟩:=h; obtain ⟨r,s,rfl,k1,k2⟩:=k
 refine ⟨p + r,q + s,Qi.ext' ?_ ?_,by omega,by omega⟩
 ·show (p:Rat) + (r:Rat) = ((p + r:Int):Rat); push_cast; rfl
 ·show (q:Rat) + (s:Rat) = ((q + s:Int):Rat); push_cast; rfl
theorem Gb.neg {x:Qi} {N:Nat} (h:Gb x N):Gb (-x) N:=by
 obtain ⟨p,q,rfl,h1,h2⟩:=h
 refine ⟨-p,-q,Qi.ext' ?_ ?_,by omega,by omega⟩
 ·show -(p:Rat) = ((-p:Int):Rat); push_cast; rfl
 ·show -(q:Rat) = ((-q:Int):Rat); push_cast; rfl
theorem Gb.sub {x y:Qi} {N M:Nat} (h:Gb x N) (k:Gb y M):Gb (x - y) (N + M):=by rw [Qi.sub_def]; exact h.add k.neg
theorem qJ {p q:Int} {N M:Nat} (h:p.natAbs ≤ N) (k:q.natAbs ≤ M):(p * q).natAbs ≤ N * M:=by rw [Int.natAbs_mul]; exact Nat.mul_le_mul h k
theorem Gb.mul {x y:Qi} {N M:Nat} (h:Gb x N) (k:Gb y M):Gb (x * y) (2 * N * M):=by
 obtain ⟨p,q,rfl,h1,h2⟩:=h; obtain ⟨r,s,rfl,k1,k2⟩:=k
 have a1:=qJ h1 k1; have a2:=qJ h2 k2; have a3:=qJ h1 k2; have a4:=qJ h2 k1
 have e:2 * N * M = N * M + N * M:=by rw [Nat.mul_assoc,Nat.two_mul]
 refine ⟨p * r - q * s,p * s + q * r,Qi.ext' ?_ ?_,by omega,by omega⟩
 ·rw [Qi.mul_re]; show (p:Rat) * (r:Rat) - (q:Rat) * (s:Rat) = ((p * r - q * s:Int):Rat); push_cast; rfl
 ·rw [Qi.mul_im]; show (p:Rat) * (s:Rat) + (q:Rat) * (r:Rat) = ((p * s + q * r:Int):Rat); push_cast; rfl
theorem Gb.sum {f : Nat → Qi} {N : Nat} : ∀ {n : Nat}, (∀ k, k < n → Gb (f k) N) → Gb (aB n f) (n * N)
 | 0,_=>⟨0,0,Qi.ext' rfl rfl,by simp,by simp⟩
 | n + 1, h => by
  rw [aB,Nat.succ_mul]
  exact (Gb.sum fun k hk=>h k zo).add (h n zo)
theorem Gb.fit {x:Qi} {N L:Nat} (h:Gb x N) (hN:N < BB ^ L) (hL:1 ≤ L):aH x L:=by
 obtain ⟨p,q,rfl,h1,h2⟩:=h
 have e:Qi.mk (p:Rat) (q:Rat) = Qi.mk' p q 1:=Qi.ext' (by rw [Qi.mk_re]; show (p:Rat) = p / ((1:Nat):Rat); grind) (by rw [Qi.mk_im]; show (q:Rat) = q / ((1:Nat):Rat); grind)
 rw [e]
 exact ⟨Qi.Fit.mk (by decide) zo zo (Qi.one_lt hL)⟩
theorem sC (n:Nat) (f:Nat → Qi):aB (n + 1) f = f 0 + aB n fun k=>f (k + 1):=by
 rw [Nat.add_comm n 1,rI,De]
 exact congrArg _ (aA fun k _=>by rw [Nat.add_comm])
def fs : Nat → Nat → Nat
 | 0,_=>1
 | n + 1,N=>2 * (n + 1) * N * fs n (4 * N * N)
theorem Nj {F:Nat → Nat → Qi} {n:Nat} {x:Nat → Qi}:wE F (n + 1) (n + 1) x ↔ (F 0 0 * x 0 + aB n (fun k=>F 0 (k + 1) * x (k + 1)) = 0) ∧ ∀ i,i < n → F (i + 1) 0 * x 0 + aB n (fun k=>F (i + 1) (k + 1) * x (k + 1)) = 0:=by
 constructor
 ·intro h
  exact ⟨by have:=h 0 zo; rwa [sC] at this,fun i hi=>by have:=h (i + 1) zo; rwa [sC] at this⟩
 ·rintro ⟨h1, h2⟩ i hi
  rw [sC]
  cases i with
  | zero=>exact h1
  | succ i=>exact h2 i zo
theorem Ll (n:Nat) (a b:Qi) (f g x:Nat → Qi):aB n (fun k=>(a * f k - b * g k) * x k) = a * aB n (fun k=>f k * x k) - b * aB n (fun k=>g k * x k):=by
 induction n with
 | zero=>simp only [aB,q0]; grind
 | succ n ih=>simp only [aB,ih]; grind
theorem yP (n:Nat) (a:Qi) (f x:Nat → Qi):aB n (fun k=>f k * (x k * a)) = a * aB n (fun k=>f k * x k):=by
 induction n with
 | zero=>simp only [aB,q0]; grind
 | succ n ih=>simp only [aB,ih]; grind
theorem a1P {F : Nat → Nat → Qi} {n N : Nat} (hp : F 0 0 ≠ 0) (hN : 1 ≤ N) (hF : ∀ i, i < n + 1 → ∀ j, j ≤ n + 1 → Gb (F i j) N) (hk : ∀ v, wE F (n + 1) (n + 1) v → ∀ k, k < n + 1 → v k = 0)
  (ih:∀ G:Nat → Nat → Qi,(∀ i,i < n → ∀ j,j ≤ n → Gb (G i j) (4 * N * N)) → (∀ v,wE G n n v → ∀ k,k < n → v k = 0) → ∃ (y:Nat → Qi) (e:Qi),e ≠ 0 ∧ Gb e (fs n (4 * N * N)) ∧ (∀ k,k < n → Gb (y k) (fs n (4 * N * N))) ∧ ∀ i,i < n → aB n (fun k=>G i k * y k) = e * G i n) :
  ∃ (y:Nat → Qi) (e:Qi),e ≠ 0 ∧ Gb e (fs (n + 1) N) ∧ (∀ k,k < n + 1 → Gb (y k) (fs (n + 1) N)) ∧ ∀ i,i < n + 1 → aB (n + 1) (fun k=>F i k * y k) = e * F i (n + 1):=by
 obtain ⟨y, e, he, ge, gy, hy⟩ := ih (fun i j => F 0 0 * F (i + 1) (j + 1) - F (i + 1) 0 * F 0 (j + 1)) (fun i hi j hj => by
   have h1:=(hF 0 zo 0 zo).mul (hF (i + 1) zo (j + 1) zo)
   have h2:=(hF (i + 1) zo 0 zo).mul (hF 0 zo (j + 1) zo)
   exact (h1.sub h2).le (by rw [show 4 * N * N = 2 * N * N + 2 * N * N by rw [← Nat.add_mul]; congr 1; omega]; exact Nat.le_refl _)) (fun v hv k hkn=>by
   have hz := hk (fun k => if k = 0 then -(aB n fun k => F 0 (k + 1) * v k) else F 0 0 * v (k - 1)) (Nj.2 ⟨by
    simp only [if_true,Nat.add_sub_cancel,if_neg (Nat.succ_ne_zero _)]
    have:=yP n (F 0 0) (fun k=>F 0 (k + 1)) v
    simp only [Qi.mul_comm' _ (F 0 0)] at this ⊢
    rw [this]; grind,fun i hi=>by
    simp only [if_true,Nat.add_sub_cancel,if_neg (Nat.succ_ne_zero _)]
    have:=yP n (F 0 0) (fun k=>F (i + 1) (k + 1)) v
    simp only [Qi.mul_comm' _ (F 0 0)] at this ⊢
    rw [this]
    have h:=hv i hi
    have h2:=Ll n (F 0 0) (F (i + 1) 0) (fun k=>F (i + 1) (k + 1)) (fun k=>F 0 (k + 1)) v
    simp only [] at h
    rw [h2] at h
    grind⟩) (k + 1) zo
   simp only [Nat.add_sub_cancel,if_neg (Nat.succ_ne_zero _)] at hz
   rcases iS hz with h | h
   ·exact absurd h hp
   ·exact h)
 have hf1 : 1 ≤ fs n (4 * N * N) := by
  apply Decidable.byContradiction; intro h
  have h0:fs n (4 * N * N) = 0:=by omega
  rw [h0] at ge
  obtain ⟨p,q,e1,p1,p2⟩:=ge
  have hp0:p = 0:=by omega
  have hq0:q = 0:=by omega
  exact he (by rw [e1,hp0,hq0]; exact Qi.ext' rfl rfl)
 have hG : fs (n + 1) N = (n + 1) * (2 * fs n (4 * N * N) * N) := by
  rw [fs]; simp only [Nat.mul_comm,Nat.mul_left_comm,Nat.mul_assoc]
 have hG1:2 * fs n (4 * N * N) * N ≤ fs (n + 1) N:=by rw [hG]; exact Nat.le_mul_of_pos_left _ zo
 refine ⟨fun k=>if k = 0 then e * F 0 (n + 1) - aB n (fun k=>F 0 (k + 1) * y k) else y (k - 1) * F 0 0,e * F 0 0,fun h=>?_,?_,fun k hkn=>?_,fun i hi=>?_⟩
 ·rcases iS h with h | h
  ·exact he h
  ·exact hp h
 ·exact (ge.mul (hF 0 zo 0 zo)).le hG1
 ·cases k with
  | zero =>
   simp only [if_true]
   have h1:=ge.mul (hF 0 zo (n + 1) zo)
   have h2:Gb (aB n fun k=>F 0 (k + 1) * y k) (n * (2 * N * fs n (4 * N * N))):=Gb.sum fun k hk=>(hF 0 zo (k + 1) zo).mul (gy k hk)
   refine (h1.sub h2).le ?_
   have e3:n * (2 * N * fs n (4 * N * N)) = n * (2 * fs n (4 * N * N) * N):=by simp only [Nat.mul_comm,Nat.mul_left_comm,Nat.mul_assoc]
   have e4:(n + 1) * (2 * fs n (4 * N * N) * N) = n * (2 * fs n (4 * N * N) * N) + 2 * fs n (4 * N * N) * N:=Nat.succ_mul _ _
   rw [hG,e3,e4,Nat.add_comm]; exact Nat.le_refl _
  | succ k =>
   simp only [Nat.add_sub_cancel,if_neg (Nat.succ_ne_zero _)]
   exact ((gy k zo).mul (hF 0 zo 0 zo)).le hG1
 ·rw [sC]
  simp only [if_true,Nat.add_sub_cancel,if_neg (Nat.succ_ne_zero _)]
  rw [yP n (F 0 0) (fun k=>F i (k + 1)) y]
  cases i with
  | zero=>grind
  | succ i =>
   have h:=hy i zo
   have h2:=Ll n (F 0 0) (F (i + 1) 0) (fun k=>F (i + 1) (k + 1)) (fun k=>F 0 (k + 1)) y
   rw [h2] at h
   grind
theorem My : ∀ (n N : Nat) (F : Nat → Nat → Qi), 1 ≤ N → (∀ i, i < n → ∀ j, j ≤ n → Gb (F i j) N) → (∀ v, wE F n n v → ∀ k, k < n → v k = 0) →
  ∃ (y:Nat → Qi) (e:Qi),e ≠ 0 ∧ Gb e (fs n N) ∧ (∀ k,k < n → Gb (y k) (fs n N)) ∧ ∀ i,i < n → aB n (fun k=>F i k * y k) = e * F i n
 | 0,N,F,_,_,_=>⟨fun _=>0,1,fun h=>by have:=congrArg Qi.re h; revert this; decide,⟨1,0,Qi.ext' rfl rfl,by simp [fs],by simp [fs]⟩,fun k hk=>by omega,fun i hi=>by omega⟩
 | n + 1, N, F, hN, hF, hk => by
  have hpz : ∃ p, p < n + 1 ∧ F p 0 ≠ 0 := by
   apply Classical.byContradiction; intro hno
   have hz : ∀ p, p < n + 1 → F p 0 = 0 := fun p hp => by
    apply Classical.byContradiction; intro h; exact hno ⟨p,hp,h⟩
   have := hk (fun k => if k = 0 then 1 else 0) (fun i hi => by
    rw [dT]
    intro k hk
    by_cases e:k = 0
    ·subst e; rw [hz i hi]; grind
    ·simp only [if_neg e]; grind) 0 zo
   simp only [if_true] at this
   have:=congrArg Qi.re this; revert this; decide
  obtain ⟨p,hp,hpz⟩:=hpz
  have hN4:1 ≤ 4 * N * N:=Nat.mul_pos zo zo
  obtain ⟨y, e, he, ge, gy, hy⟩ := a1P (F := fun i => F (Rm p 0 i)) (n := n) (N := N) (by simpa [Rm] using hpz) hN (fun i hi j hj => hF _ (In hp zo hi) j hj)
   (fun v hv=>hk v ((Kg hp zo).1 hv)) (fun G hG hGk=>My n (4 * N * N) G hN4 hG hGk)
  refine ⟨y,e,he,ge,gy,fun i hi=>?_⟩
  have:=hy (Rm p 0 i) (In hp zo hi)
  simp only [Rn] at this
  exact this
theorem Px {N:Nat}:∀ {n:Nat},n ≤ 4 → 1 ≤ N → fs n N ≤ 1610612736 * N ^ 15:=by
 intro n hn hN
 have hp:∀ k,k ≤ 15 → N ^ k ≤ N ^ 15:=fun k hk=>Nat.pow_le_pow_right hN hk
 have h0:=hp 0 zo; have h1:=hp 1 zo; have h3:=hp 3 zo; have h7:=hp 7 zo
 match n,hn with
 | 0,_=>rw [fs]; rw [Nat.pow_zero] at h0; omega
 | 1,_=>simp only [fs]; rw [show 2 * (0 + 1) * N * 1 = 2 * N ^ 1 by grind]; omega
 | 2,_=>simp only [fs]; rw [show 2 * (1 + 1) * N * (2 * (0 + 1) * (4 * N * N) * 1) = 32 * N ^ 3 by grind]; omega
 | 3,_=>simp only [fs]; rw [show 2 * (2 + 1) * N * (2 * (1 + 1) * (4 * N * N) * (2 * (0 + 1) * (4 * (4 * N * N) * (4 * N * N)) * 1)) = 12288 * N ^ 7 by grind]; omega
 | 4,_=>simp only [fs]; rw [show 2 * (3 + 1) * N * (2 * (2 + 1) * (4 * N * N) * (2 * (1 + 1) * (4 * (4 * N * N) * (4 * N * N)) * (2 * (0 + 1) * (4 * (4 * (4 * N * N) * (4 * N * N)) * (4 * (4 * N * N) * (4 * N * N))) * 1))) = 1610612736 * N ^ 15 by grind]; omega
theorem Gk (x:Qi):((x.den:Int):Rat) * x.re = (x.a:Rat) ∧ ((x.den:Int):Rat) * x.im = (x.b:Rat):=by
 have h:=Qi.nc x.den_pos
 have h2:((x.den:Int):Rat) = (x.den:Rat):=by push_cast; rfl
 rw [h2]
 exact ⟨by rw [Qi.re_eq x]; grind,by rw [Qi.im_eq x]; grind⟩
theorem Ap {L : Nat} {x : Nat → Qi} : ∀ k, (∀ j, j < k → aH (x j) L) → ∃ d : Nat, 0 < d ∧ d ≤ BB ^ (k * L) ∧ ∀ j, j < k → Gb (Qi.ofInt d * x j) (BB ^ (k * L))
 | 0,_=>⟨1,by decide,Nat.pow_pos dR,fun j hj=>by omega⟩
 | k + 1, h => by
  obtain ⟨d,d0,dl,hd⟩:=Ap k fun j hj=>h j zo
  have hx:=(h k zo).fit
  have hm:=Gk (x k)
  have hpow:BB ^ ((k + 1) * L) = BB ^ (k * L) * BB ^ L:=by rw [Nat.succ_mul,Nat.pow_add]
  refine ⟨d * (x k).den,Nat.mul_pos d0 (x k).den_pos,?_,fun j hj=>?_⟩
  ·rw [hpow]; exact Nat.mul_le_mul dl (Nat.le_of_lt hx.2.2)
  ·by_cases e : j = k
   ·subst e
    refine ⟨d * (x j).a,d * (x j).b,Qi.ext' ?_ ?_,?_,?_⟩
    ·rw [Qi.mul_re]
     show (((d * (x j).den:Nat):Int):Rat) * (x j).re - 0 * (x j).im = ((d * (x j).a:Int):Rat)
     have:=hm.1; push_cast at *; grind
    ·rw [Qi.mul_im]
     show (((d * (x j).den:Nat):Int):Rat) * (x j).im + 0 * (x j).re = ((d * (x j).b:Int):Rat)
     have:=hm.2; push_cast at *; grind
    ·rw [hpow]; exact qJ (by simpa using dl) (Nat.le_of_lt hx.1)
    ·rw [hpow]; exact qJ (by simpa using dl) (Nat.le_of_lt hx.2.1)
   ·obtain ⟨p, q, e1, h1, h2⟩ := hd j zo
    have er:=congrArg Qi.re e1; have ei:=congrArg Qi.im e1
    rw [Qi.mul_re] at er; rw [Qi.mul_im] at ei
    refine ⟨p * (x k).den,q * (x k).den,Qi.ext' ?_ ?_,?_,?_⟩
    ·rw [Qi.mul_re]
     have er:((d:Int):Rat) * (x j).re - 0 * (x j).im = (p:Rat):=er
     show (((d * (x k).den:Nat):Int):Rat) * (x j).re - 0 * (x j).im = ((p * (x k).den:Int):Rat)
     push_cast at *; grind
    ·rw [Qi.mul_im]
     have ei:((d:Int):Rat) * (x j).im + 0 * (x j).re = (q:Rat):=ei
     show (((d * (x k).den:Nat):Int):Rat) * (x j).im + 0 * (x j).re = ((q * (x k).den:Int):Rat)
     push_cast at *; grind
    ·rw [hpow]; exact qJ h1 (by simpa using Nat.le_of_lt hx.2.2)
    ·rw [hpow]; exact qJ h2 (by simpa using Nat.le_of_lt hx.2.2)
theorem Co {d : Nat} (h : 0 < d) : Qi.ofInt d ≠ 0 := fun e => by
 have:=congrArg Qi.re e
 have h2:((d:Int):Rat) = ((0:Int):Rat):=this
 rw [Rat.intCast_inj] at h2; omega
def a0y (L:Nat):Nat:=4 * (75 * L + 1) + 2
theorem a0B {M:List (List Qi)} {b:List Qi} {n L:Nat} (h:cB M n n) (hM:bA M L) (hb:bH b L) (hL:1 ≤ L) (hn:n ≤ 4) (hE:jA M b n = 0):bH (iE M b n) (a0y L):=by
 obtain ⟨s1,s2⟩:=mE h hE
 have hrow : ∀ i, ∃ d : Nat, 0 < d ∧ ∀ j, j < n + 1 → Gb (Qi.ofInt d * (if j < n then gm M i j else gv b i)) (BB ^ (5 * L)) := fun i => by
  obtain ⟨d, d0, _, hd⟩ := Ap (L := L) (x := fun j => if j < n then gm M i j else gv b i) (n + 1) fun j _ => by
   show aH (if j < n then gm M i j else gv b i) L
   split
   ·exact hM.get hL i j
   ·exact hb.get hL i
  exact ⟨d,d0,fun j hj=>(hd j hj).le (Nat.pow_le_pow_right dR (Nat.mul_le_mul_right _ zo))⟩
 have hd:∃ d:Nat → Nat,∀ i,0 < d i ∧ ∀ j,j < n + 1 → Gb (Qi.ofInt (d i) * (if j < n then gm M i j else gv b i)) (BB ^ (5 * L)):=⟨fun i=>Classical.choose (hrow i),fun i=>Classical.choose_spec (hrow i)⟩
 obtain ⟨d,hd⟩:=hd
 have cancel : ∀ {i : Nat} {u : Qi}, Qi.ofInt (d i) * u = 0 → u = 0 := fun {i u} hu => by
  rcases iS hu with k | k
  ·exact absurd k (Co (hd i).1)
  ·exact k
 have hsum : ∀ (i : Nat) (v : Nat → Qi), aB n (fun k => Qi.ofInt (d i) * (if k < n then gm M i k else gv b i) * v k) = Qi.ofInt (d i) * aB n (fun k => gm M i k * v k) := fun i v => by
  rw [Qi.mul_comm',← iB]
  exact aA fun k hk=>by rw [if_pos hk]; grind
 have hN:1 ≤ BB ^ (5 * L):=Nat.pow_pos dR
 obtain ⟨y, e, he, ge, gy, hy⟩ := My n (BB ^ (5 * L)) (fun i j => Qi.ofInt (d i) * (if j < n then gm M i j else gv b i)) hN (fun i _ j hj => (hd i).2 j zo) (fun v hv => s2 v fun i hi => by
  have:=hv i hi
  simp only [] at this
  rw [hsum] at this
  exact cancel this)
 have hbig : fs n (BB ^ (5 * L)) < BB ^ (75 * L + 1) := by
  refine Nat.lt_of_le_of_lt (Px hn hN) ?_
  rw [← Nat.pow_mul,show 5 * L * 15 = 75 * L by omega,Nat.pow_succ,Nat.mul_comm]
  exact Nat.mul_lt_mul_of_pos_left (by decide) (Nat.pow_pos dR)
 have hsol : ∀ k, k < n → y k - e * gv (iE M b n) k = 0 := s2 (fun k => y k - e * gv (iE M b n) k) fun i hi => by
  have h1:=hy i hi
  rw [hsum,if_neg zo] at h1
  have h2:=s1 i hi
  have h3 : aB n (fun k => gm M i k * (y k - e * gv (iE M b n) k)) = aB n (fun k => gm M i k * y k) - e * aB n (fun k => gm M i k * gv (iE M b n) k) := by
   rw [← lL]; exact aA fun k _=>by grind
  rw [h3,h2]
  exact cancel (i:=i) (by grind)
 intro x hx
 obtain ⟨k,hk,rfl⟩:=List.mem_iff_getElem.1 hx
 rw [tL] at hk
 have hg:(iE M b n)[k] = gv (iE M b n) k:=by simp [gv,List.getD,tL,hk]
 rw [hg]
 have e1:gv (iE M b n) k = y k / e:=(Mx he (by have:=hsol k hk; grind)).symm
 haveI f1:aH (y k) (75 * L + 1):=(gy k hk).fit hbig zo
 haveI f2:aH e (75 * L + 1):=ge.fit hbig zo
 rw [e1]
 exact (fitDiv (x:=y k) (y:=e)).le (by unfold a0y; omega)
theorem Tl {M : List (List Qi)} {n L : Nat} (h : cB M n n) (hM : bA M L) (hL : 1 ≤ L) (hn : n ≤ 4) (hE : nK M n = 0) : bA (jK M n) (a0y L) := fun r hr => by
 obtain ⟨i,_,rfl⟩:=dN.1 hr
 exact bH.tab fun j hj=>(a0B h hM (Gm hL) hL hn (wY hE j hj)).get (by unfold a0y; omega) i
end
section
open Go Go.RowKit
theorem a0C {M:List (List Qi)} {b:List Qi} {n m L K:Nat} (h:cB M n n) (hM:bA M L) (hb:bH b L) (hL:1 ≤ L) (hn:n ≤ m) (hbig:fs n (BB ^ ((m + 1) * L)) < BB ^ K) (hK:1 ≤ K) (hE:jA M b n = 0):bH (iE M b n) (4 * K + 2):=by
 obtain ⟨s1,s2⟩:=mE h hE
 have hrow : ∀ i, ∃ d : Nat, 0 < d ∧ ∀ j, j < n + 1 → Gb (Qi.ofInt d * (if j < n then gm M i j else gv b i)) (BB ^ ((m + 1) * L)) := fun i => by
  obtain ⟨d, d0, _, hd⟩ := Ap (L := L) (x := fun j => if j < n then gm M i j else gv b i) (n + 1) fun j _ => by
   show aH (if j < n then gm M i j else gv b i) L
   split
   ·exact hM.get hL i j
   ·exact hb.get hL i
  exact ⟨d,d0,fun j hj=>(hd j hj).le (Nat.pow_le_pow_right dR (Nat.mul_le_mul_right _ zo))⟩
 have hd:∃ d:Nat → Nat,∀ i,0 < d i ∧ ∀ j,j < n + 1 → Gb (Qi.ofInt (d i) * (if j < n then gm M i j else gv b i)) (BB ^ ((m + 1) * L)):=⟨fun i=>Classical.choose (hrow i),fun i=>Classical.choose_spec (hrow i)⟩
 obtain ⟨d,hd⟩:=hd
 have cancel : ∀ {i : Nat} {u : Qi}, Qi.ofInt (d i) * u = 0 → u = 0 := fun {i u} hu => by
  rcases iS hu with k | k
  ·exact absurd k (Co (hd i).1)
  ·exact k
 have hsum : ∀ (i : Nat) (v : Nat → Qi), aB n (fun k => Qi.ofInt (d i) * (if k < n then gm M i k else gv b i) * v k) = Qi.ofInt (d i) * aB n (fun k => gm M i k * v k) := fun i v => by
  rw [Qi.mul_comm',← iB]
  exact aA fun k hk=>by rw [if_pos hk]; grind
 have hN:1 ≤ BB ^ ((m + 1) * L):=Nat.pow_pos dR
 obtain ⟨y, e, he, ge, gy, hy⟩ := My n (BB ^ ((m + 1) * L)) (fun i j => Qi.ofInt (d i) * (if j < n then gm M i j else gv b i)) hN (fun i _ j hj => (hd i).2 j zo) (fun v hv => s2 v fun i hi => by
  have:=hv i hi
  simp only [] at this
  rw [hsum] at this
  exact cancel this)
 have hsol : ∀ k, k < n → y k - e * gv (iE M b n) k = 0 := s2 (fun k => y k - e * gv (iE M b n) k) fun i hi => by
  have h1:=hy i hi
  rw [hsum,if_neg zo] at h1
  have h2:=s1 i hi
  have h3 : aB n (fun k => gm M i k * (y k - e * gv (iE M b n) k)) = aB n (fun k => gm M i k * y k) - e * aB n (fun k => gm M i k * gv (iE M b n) k) := by
   rw [← lL]; exact aA fun k _=>by grind
  rw [h3,h2]
  exact cancel (i:=i) (by grind)
 intro x hx
 obtain ⟨k,hk,rfl⟩:=List.mem_iff_getElem.1 hx
 rw [tL] at hk
 have hg:(iE M b n)[k] = gv (iE M b n) k:=by simp [gv,List.getD,tL,hk]
 rw [hg]
 have e1:gv (iE M b n) k = y k / e:=(Mx he (by have:=hsol k hk; grind)).symm
 haveI f1:aH (y k) K:=(gy k hk).fit hbig hK
 haveI f2:aH e K:=ge.fit hbig hK
 rw [e1]
 exact (fitDiv (x:=y k) (y:=e)).le zo
end
section
open Go Go.RowKit
def Yp (l : List Nat) (p : Nat) : Nat → Int
 | 0=>-1
 | k + 1=>if l.getD (l.length - (k + 1)) 0 = p then ((l.length - (k + 1):Nat):Int) else Yp l p k
def Tm (l:List Nat) (p:Nat):Int:=Yp l p l.length
theorem a3G (l : List Nat) (p : Nat) : ∀ k, Yp l p k = -1 ∨ (0 ≤ Yp l p k ∧ (Yp l p k).toNat < l.length ∧ l.getD (Yp l p k).toNat 0 = p) ∨ l.length < k
 | 0=>.inl rfl
 | k + 1 => by
  rw [Yp]
  by_cases c:l.length < k + 1
  ·exact .inr (.inr c)
  ·by_cases e : l.getD (l.length - (k + 1)) 0 = p
   ·rw [if_pos e]; exact .inr (.inl ⟨by omega,by rw [Int.toNat_natCast]; omega,by rw [Int.toNat_natCast]; exact e⟩)
   ·rw [if_neg e]
    rcases a3G l p k with h | h | h
    ·exact .inl h
    ·exact .inr (.inl h)
    ·omega
theorem a3F (l:List Nat) (p:Nat):Tm l p = -1 ∨ (0 ≤ Tm l p ∧ (Tm l p).toNat < l.length ∧ l.getD (Tm l p).toNat 0 = p):=by
 rcases a3G l p l.length with h | h | h
 ·exact .inl h
 ·exact .inr h
 ·omega
theorem Yq {l : List Nat} {p : Nat} : ∀ {k : Nat}, k ≤ l.length → Yp l p k < 0 → ∀ x, l.length - k ≤ x → x < l.length → l.getD x 0 ≠ p
 | 0,_,_,x,h1,h2=>by omega
 | k + 1, hk, h, x, h1, h2 => by
  rw [Yp] at h
  by_cases e:l.getD (l.length - (k + 1)) 0 = p
  ·rw [if_pos e] at h; omega
  ·rw [if_neg e] at h
   by_cases c:x = l.length - (k + 1)
   ·rw [c]; exact e
   ·exact Yq (k:=k) zo h x zo h2
theorem Qc {l:List Nat} {p:Nat}:0 ≤ Tm l p ↔ p ∈ l:=by
 constructor
 ·intro h
  rcases a3F l p with k | ⟨_,k1,k2⟩
  ·omega
  ·rw [← k2,show l.getD (Tm l p).toNat 0 = l[(Tm l p).toNat] by simp [List.getD,k1]]; exact List.getElem_mem k1
 ·intro h
  apply Classical.byContradiction; intro hn
  obtain ⟨x,hx,e⟩:=List.getElem_of_mem h
  exact Yq (l:=l) (p:=p) (Nat.le_refl _) (show Yp l p l.length < 0 by have:¬ 0 ≤ Yp l p l.length:=hn; omega) x zo hx (by rw [show l.getD x 0 = l[x] by simp [List.getD,hx]]; exact e)
def jnO (js:List (Int × Int)):List Nat:=tab (2 * js.length) fun x=>gq (cL js) (jW x)
def gnV (S:List (List Qi)) (js:List (Int × Int)) (x:Nat):List Qi:=iE (nU S (cL js) (2 * js.length)) (ek (2 * js.length) x) (2 * js.length)
def gnB (i k:Nat):Qi:=if k = i then Qi.ofInt 1 else Qi.ofInt 0
def sH (S:List (List Qi)) (js:List (Int × Int)) (i k:Nat):Qi:=if 0 ≤ Tm (jnO js) k then gnB i k + aB (2 * js.length) (fun y=>gm S i (gq (cL js) y) * gv (gnV S js (Tm (jnO js) k).toNat) y) else gnB i k
def Bx (S:List (List Qi)) (js:List (Int × Int)) (N:Nat):List (List Qi):=(eO (iL js) N).map fun i=>tab N fun k=>sH S js i k
end
section
open Go Go.RowKit
theorem Yd {f:Nat → List Qi} {l:List Nat} {a k:Nat} (h:a < l.length):gm (l.map f) a k = gv (f (cD l a)) k:=by simp [gm,cD,List.getD,h]
section
variable {z:List Qi} {s c:List (List Qi)} {g t:Qi} {p:Nat}
theorem iX (n:Nat) (f:Nat → Qi):aB (n + 1) f = aB n f + f n:=rfl
end
end
section
open Go Go.RowKit
theorem mJ {A B C : List (List Qi)} {n : Nat} : gR (gR A B n n n) C n n n = gR A (gR B C n n n) n n n := fH iA iA fun i hi j hj => by
 rw [jR hi hj,jR hi hj]
 have e1 : aB n (fun t => gm (gR A B n n n) i t * gm C t j) = aB n fun t => aB n fun u => gm A i u * gm B u t * gm C t j := aA fun t ht => by
  rw [jR hi ht,← iB]
 have e2 : aB n (fun u => gm A i u * gm (gR B C n n n) u j) = aB n fun u => aB n fun t => gm A i u * gm B u t * gm C t j := aA fun u hu => by
  rw [jR hu hj,Qi.mul_comm',← iB]
  exact aA fun t _=>by grind
 rw [e1,e2,iI]
theorem uP {n i j:Nat} (hi:i < n) (hj:j < n):gm (qP n) i j = if i = j then 1 else 0:=sD hi hj
theorem Xm {n j i:Nat} (hi:i < n) (hj:j < n):gv (ek n j) i = if i = j then 1 else 0:=by
 have h:gv (ek n j) i = if j = i then 1 else 0:=uP (n:=n) hj hi
 rw [h]
 by_cases c:i = j
 ·rw [if_pos c,if_pos c.symm]
 ·rw [if_neg c,if_neg (Ne.symm c)]
theorem Yo {M : List (List Qi)} {n : Nat} (h : cB M n n) (hE : nK M n = 0) : gR M (jK M n) n n n = qP n := fH iA (mY n) fun i hi j hj => by
 have hs:=(mE h (wY hE j hj)).1 i hi
 rw [jR hi hj,uP hi hj,← Xm hi hj,← hs]
 exact aA fun t ht=>by rw [show gm (jK M n) t j = gv (iE M (ek n j) n) t from dD ht hj]
theorem a2b {M X : List (List Qi)} {n : Nat} (h : gR X M n n n = qP n) {y : Nat → Qi} (hy : ∀ i, i < n → aB n (fun k => gm M i k * y k) = 0) : ∀ k, k < n → y k = 0 := fun k hk => by
 have e1:aB n (fun i=>gm X k i * aB n (fun t=>gm M i t * y t)) = 0:=dT fun i hi=>by rw [hy i hi]; grind
 have e2 : aB n (fun i => gm X k i * aB n (fun t => gm M i t * y t)) = aB n fun i => aB n fun t => gm X k i * gm M i t * y t := aA fun i _ => by
  rw [Qi.mul_comm',← iB]; exact aA fun t _=>by grind
 have e3 : aB n (fun t => aB n fun i => gm X k i * gm M i t * y t) = aB n fun t => gm (qP n) k t * y t := aA fun t ht => by
  rw [← h,jR hk ht,← iB]
 rw [e2,iI,e3] at e1
 rw [bM (i:=k) hk (fun t ht hne=>by rw [uP hk ht,if_neg (Ne.symm hne)]; grind),uP hk hk,if_pos rfl] at e1
 grind
theorem Ql {M X : List (List Qi)} {n : Nat} (hM : cB M n n) (h : gR X M n n n = qP n) : nK M n = 0 := gL fun k hk => by
 apply Classical.byContradiction; intro e
 obtain ⟨y,hy,k,hk,hne⟩:=xQ hM e
 exact hne (a2b h hy k hk)
theorem a4L {M X Y:List (List Qi)} {n:Nat} (hX:cB X n n) (hY:cB Y n n) (h:gR X M n n n = qP n) (k:gR M Y n n n = qP n):X = Y:=by
 rw [← Hh hX,← k,← mJ,h,Hg hY]
theorem Ib {M Y:List (List Qi)} {n:Nat} (hM:cB M n n) (hY:cB Y n n) (h:gR M Y n n n = qP n):gR Y M n n n = qP n:=by
 have e:=Ql hY h
 have r:=Yo hY e
 rw [a4L hM (sZ Y n) h r]; exact r
theorem Yn {M:List (List Qi)} {n:Nat} (h:cB M n n) (hE:nK M n = 0):gR (jK M n) M n n n = qP n:=Ib h (sZ M n) (Yo h hE)
theorem a2Y {M Y:List (List Qi)} {n:Nat} (hM:cB M n n) (hY:cB Y n n) (h:gR M Y n n n = qP n):nK M n = 0:=Ql hM (Ib hM hY h)
section
variable {a b:Qi} {A B C:List (List Qi)} {d e:Nat → Qi} {n:Nat}
end
theorem q2:Qi.ofInt 2 = 2:=rfl
theorem a6P:Ab * 2 = 1:=a1W
theorem Zx {M:List (List Qi)} {n:Nat} (h:nK M n = 0):Fj M n = 0:=if_pos h
section
variable {z:List Qi} {s:List (List Qi)}
end
end
section
open Go Go.RowKit
theorem zW {n C k : Nat} (h : ∀ N, 1 ≤ N → fs n N ≤ C * N ^ k) : ∀ N, 1 ≤ N → fs (n + 1) N ≤ 2 * (n + 1) * C * 4 ^ k * N ^ (2 * k + 1) := fun N hN => by
 have h4:1 ≤ 4 * N * N:=Nat.mul_pos zo zo
 have a:=h (4 * N * N) h4
 have e:(4 * N * N) ^ k = 4 ^ k * (N ^ k * N ^ k):=by rw [Nat.mul_pow,Nat.mul_pow,Nat.mul_assoc]
 have e2:N ^ (2 * k + 1) = N ^ k * N ^ k * N:=by rw [Nat.pow_succ,Nat.two_mul,Nat.pow_add]
 rw [fs,e2]
 refine Nat.le_trans (Nat.mul_le_mul_left _ a) ?_
 rw [e]
 refine Nat.le_of_eq ?_
 simp only [Nat.mul_comm,Nat.mul_left_comm,Nat.mul_assoc]
theorem zV {n C k C' k' : Nat} (h : ∀ N, 1 ≤ N → fs n N ≤ C * N ^ k) (hC : C ≤ C') (hk : k ≤ k') : ∀ N, 1 ≤ N → fs n N ≤ C' * N ^ k' := fun N hN =>
 Nat.le_trans (h N hN) (Nat.mul_le_mul hC (Nat.pow_le_pow_right hN hk))
theorem Xw {n:Nat} (hn:n ≤ 6):∀ N,1 ≤ N → fs n N ≤ (2 * 6 * (2 * 5 * 1610612736 * 4 ^ 15) * 4 ^ 31) * N ^ 63:=by
 have h4:∀ m,m ≤ 4 → ∀ N,1 ≤ N → fs m N ≤ 1610612736 * N ^ 15:=fun m hm N hN=>Px hm hN
 have h5:∀ N,1 ≤ N → fs 5 N ≤ (2 * 5 * 1610612736 * 4 ^ 15) * N ^ 31:=zW (h4 4 (Nat.le_refl 4))
 have h6:∀ N,1 ≤ N → fs 6 N ≤ (2 * 6 * (2 * 5 * 1610612736 * 4 ^ 15) * 4 ^ 31) * N ^ 63:=zW h5
 by_cases a:n ≤ 4
 ·exact zV (h4 n a) (by decide) (by decide)
 ·by_cases b : n = 5
  ·subst b; exact zV h5 (by decide) (by decide)
  ·obtain rfl : n = 6 := by omega
   exact h6
theorem Nr {C m k M:Nat} (h:m + k = M) (hC:C < BB ^ k):C * BB ^ m < BB ^ M:=by
 subst h
 rw [Nat.pow_add,Nat.mul_comm (BB ^ m)]
 exact Nat.mul_lt_mul_of_pos_right hC (Nat.pow_pos dR)
section
variable {z:List Qi} {S c:List (List Qi)} {js:List (Int × Int)} {N:Nat}
def jnT (S:List (List Qi)) (js:List (Int × Int)):List (List Qi):=tab (2 * js.length) fun x=>tab (2 * js.length) fun y=>rdl x y - gm S (gq (cL js) (jW y)) (gq (cL js) x)
def jnV (S:List (List Qi)) (js:List (Int × Int)) (i:Nat):List Qi:=tab (2 * js.length) fun y=>gm S i (gq (cL js) y)
def Qg (S:List (List Qi)) (js:List (Int × Int)) (i:Nat):List Qi:=iE (jnT S js) (jnV S js i) (2 * js.length)
theorem wZ (S:List (List Qi)) (js:List (Int × Int)):cB (jnT S js) (2 * js.length) (2 * js.length):=cB.tab
theorem Nd {x y:Nat} (hx:x < 2 * js.length) (hy:y < 2 * js.length):gm (jnT S js) x y = gm (nU S (cL js) (2 * js.length)) y x:=by
 have e1:gm (jnT S js) x y = rdl x y - gm S (gq (cL js) (jW y)) (gq (cL js) x):=dD hx hy
 have e2:gm (nU S (cL js) (2 * js.length)) y x = (if y = x then Qi.ofInt 1 else Qi.ofInt 0) - gm S (gq (cL js) (jW y)) (gq (cL js) x):=dD hy hx
 rw [e1,e2,rdl]
 by_cases c:x = y
 ·rw [if_pos c,if_pos c.symm]
 ·rw [if_neg c,if_neg (Ne.symm c)]
theorem a1Z {M:List (List Qi)} {n:Nat} (h:cB M n n) (hk:∀ b,jA M b n = 0):nK M n = 0:=gL fun k _=>hk _
theorem a16 {M : List (List Qi)} {n : Nat} (h : cB M n n) (hE : nK M n = 0) (hn : 1 ≤ n) : ∀ b, jA M b n = 0 := fun b => by
 have h0:=(uE h).1 (wY hE 0 zo)
 exact (uE h).2 h0
theorem a17 {M:List (List Qi)} {n:Nat} {b:List Qi} (h:cB M n n) (hb:jA M b n = 0):∀ b,jA M b n = 0:=fun _=>(uE h).2 ((uE h).1 hb)
theorem Nf (hk:∀ b,jA (nU S (cL js) (2 * js.length)) b (2 * js.length) = 0) (hn:1 ≤ 2 * js.length):∀ b,jA (jnT S js) b (2 * js.length) = 0:=by
 have hM:=nV S (cL js) (2 * js.length)
 have hE:=a1Z hM hk
 have l:=Yn hM hE
 refine a16 (wZ S js) (a2Y (Y:=tab (2 * js.length) fun x=>tab (2 * js.length) fun y=>gm (jK (nU S (cL js) (2 * js.length)) (2 * js.length)) y x) (wZ S js) cB.tab ?_) hn
 refine fH iA (mY _) fun i hi j hj=>?_
 have e:gm (gR (jK (nU S (cL js) (2 * js.length)) (2 * js.length)) (nU S (cL js) (2 * js.length)) (2 * js.length) (2 * js.length) (2 * js.length)) j i = gm (qP (2 * js.length)) j i:=by rw [l]
 rw [jR hj hi,uP hj hi] at e
 rw [jR hi hj,uP hi hj]
 have e2 : aB (2 * js.length) (fun t => gm (jnT S js) i t * gm (tab (2 * js.length) fun x => tab (2 * js.length) fun y => gm (jK (nU S (cL js) (2 * js.length)) (2 * js.length)) y x) t j) = aB (2 * js.length) fun t => gm (jK (nU S (cL js) (2 * js.length)) (2 * js.length)) j t * gm (nU S (cL js) (2 * js.length)) t i := aA fun t ht => by
  rw [Nd hi ht,dD ht hj,Qi.mul_comm']
 rw [e2,e]
 by_cases c:i = j
 ·rw [if_pos c,if_pos c.symm]
 ·rw [if_neg c,if_neg (Ne.symm c)]
theorem a4J (hk:∀ b,jA (nU S (cL js) (2 * js.length)) b (2 * js.length) = 0) {i x:Nat} (hx:x < 2 * js.length):gv (Qg S js i) x = aB (2 * js.length) fun y=>gm S i (gq (cL js) y) * gv (gnV S js x) y:=by
 have hM:=nV S (cL js) (2 * js.length)
 have hT:=(mE (wZ S js) (Nf hk zo (jnV S js i))).1
 have hV:=(mE hM (hk (ek (2 * js.length) x))).1
 have e1 : aB (2 * js.length) (fun y => gm S i (gq (cL js) y) * gv (gnV S js x) y) = aB (2 * js.length) fun y => aB (2 * js.length) fun w => gm (nU S (cL js) (2 * js.length)) w y * gv (Qg S js i) w * gv (gnV S js x) y := aA fun y hy => by
  have h:=hT y hy
  rw [show gv (jnV S js i) y = gm S i (gq (cL js) y) from fC hy] at h
  rw [← h,← iB]
  exact aA fun w hw=>by rw [Nd hy hw]; rfl
 have e2 : aB (2 * js.length) (fun w => aB (2 * js.length) fun y => gm (nU S (cL js) (2 * js.length)) w y * gv (Qg S js i) w * gv (gnV S js x) y) = aB (2 * js.length) fun w => gv (Qg S js i) w * gv (ek (2 * js.length) x) w := aA fun w hw => by
  have h:=hV w hw
  rw [show gv (ek (2 * js.length) x) w = aB (2 * js.length) (fun k=>gm (nU S (cL js) (2 * js.length)) w k * gv (gnV S js x) k) from h.symm,Qi.mul_comm',← iB]
  exact aA fun y _=>by grind
 rw [e1,iI,e2,bM hx (fun k hkk hne=>by rw [Xm hkk hx,if_neg hne]; grind),Xm hx hx,if_pos rfl]; grind
theorem a4F {l:List Nat} {x:Nat} (hx:x < l.length) (hinj:∀ a b,a < l.length → b < l.length → l.getD a 0 = l.getD b 0 → a = b):Tm l (l.getD x 0) = (x:Int):=by
 have hm:0 ≤ Tm l (l.getD x 0):=Qc.2 (by rw [show l.getD x 0 = l[x] by simp [List.getD,hx]]; exact List.getElem_mem hx)
 rcases a3F l (l.getD x 0) with h | ⟨h1,h2,h3⟩
 ·omega
 ·have:=hinj _ _ h2 hx h3; omega
theorem Nc {x:Nat} (hx:x < 2 * js.length):(jnO js).getD x 0 = gq (cL js) (jW x):=by rw [jnO,kJ hx]
theorem a4I (hj:Jn (cL js) N js.length) {x:Nat} (hx:x < 2 * js.length):Tm (jnO js) (gq (cL js) (jW x)) = (x:Int):=by
 have hl:(jnO js).length = 2 * js.length:=aF _ _
 rw [← Nc hx]
 refine a4F zo fun a b ha hb e=>?_
 rw [Nc zo,Nc zo] at e
 have:=hj.inj _ _ (oO (show a < 2 * js.length by omega)) (oO (show b < 2 * js.length by omega)) e
 have e2:=congrArg jW this
 rwa [sA,sA] at e2
theorem a3E (hj:Jn (cL js) N js.length) (hk:∀ b,jA (nU S (cL js) (2 * js.length)) b (2 * js.length) = 0) {i y:Nat} (hi:i ∉ iL js) (hy:y < 2 * js.length):sH S js i (gq (cL js) (jW y)) = gv (Qg S js i) y:=by
 have hne:gq (cL js) (jW y) ≠ i:=fun e=>hi (rV.2 ⟨jW y,oO hy,e⟩)
 rw [sH,a4I hj hy,if_pos zo,Int.toNat_natCast,gnB,if_neg hne,a4J hk hy]
 rw [show Qi.ofInt 0 = (0:Qi) from rfl]; grind
def njC (z:List Qi) (S c:List (List Qi)) (js:List (Int × Int)):List (List Qi):=iC (vF z S js) (xZ (Bx S js z.length) c)
theorem Cn (hE:vF z S js = 0) (hl:z.length ≤ 8):zK z js = 0 ∧ 2 * js.length ≤ 6 ∧ (∀ b,jA (nU S (cL js) (2 * js.length)) b (2 * js.length) = 0) ∧ (js.length ≠ 0 → 2 * js.length ≠ z.length):=by
 have hd : zK z js = 0 := by
  apply Classical.byContradiction; intro h
  rw [vF,if_pos h] at hE; exact h hE
 have hle:=Yu hd
 have h2 : js.length ≠ 0 → 2 * js.length ≠ z.length := fun h0 h2 => by
  rw [vF,if_neg (fun k=>k hd),if_neg h0,if_pos h2] at hE; omega
 refine ⟨hd,by omega,?_,h2⟩
 by_cases h0:js.length = 0
 ·intro b
  exact (uE (nV _ _ _)).2 fun y _ k hk=>by omega
 ·have h3 := h2 h0
  rw [vF,if_neg (fun k=>k hd),if_neg h0,if_neg h3] at hE
  have hs : Ni z S js = 0 := by
   apply Classical.byContradiction; intro h
   rw [if_neg h] at hE; omega
  have hp:=a4G hd h3
  exact a17 (nV _ _ _) (gM hs 0 zo)
theorem a1U (hc:cB c N N):xZ (Bx S [] N) c = c:=by
 have hl:(Bx S [] N).length = N:=by rw [Bx,List.length_map,show iL [] = [] from rfl,tW,aF]
 have hcl:=hc.1
 have hg : ∀ a k, a < N → k < N → gm (Bx S [] N) a k = if k = a then 1 else 0 := fun a k ha hk => by
  have hq:cD (eO (iL []) N) a = a:=by rw [show iL [] = [] from rfl,tW]; exact kJ ha
  rw [Bx,Yd (by rw [show iL [] = [] from rfl,tW,aF]; exact ha),fC hk,hq,sH,show jnO [] = [] from rfl,show Tm [] k = -1 from rfl,if_neg (by decide),gnB]; rfl
 refine fH (by have h:=qS (p:=Bx S [] N) (c:=c); rw [hl] at h; exact h) hc fun a ha b hb=>?_
 rw [xZ,dD zo zo,a62,hcl]
 have e : aB N (fun x => aB N fun y => a1v (Bx S [] N) c a b x y) = aB N fun x => (if x = a then 1 else 0) * gm c x b := aA fun x hx => by
  rw [bM hb (fun y hy hne=>by rw [a1v,hg b y hb hy,if_neg hne]; show _ * Qi.conj 0 = 0; rw [show Qi.conj 0 = 0 from rfl]; grind),a1v,hg a x ha hx,hg b b hb hb,if_pos rfl,show Qi.conj 1 = 1 from rfl]; grind
 rw [e,bM ha (fun x _ hne=>by rw [if_neg hne]; grind),if_pos rfl]; grind
end
end
section
open Go Go.RowKit
def wst (w : Nat) : Nat → Nat
 | 0=>w
 | c + 1=>2 * wst w c + 1
theorem Dm (w : Nat) : ∀ {c d : Nat}, c ≤ d → wst w c ≤ wst w d
 | c,0,h=>by rw [show c = 0 by omega]; exact Nat.le_refl _
 | c, d + 1, h => by
  by_cases e:c = d + 1
  ·rw [e]; exact Nat.le_refl _
  ·have := Dm w (c := c) (d := d) zo
   simp only [wst]; omega
theorem a0V {w v : Nat} (h : w ≤ v) : ∀ c, wst w c ≤ wst v c
 | 0=>h
 | c + 1=>by have:=a0V h c; simp only [wst]; omega
def wF (r:List Qi) (w:Nat):Prop:=∃ d:Qi,d ≠ 0 ∧ Gb d (BB ^ w) ∧ ∀ j,Gb (d * gv r j) (BB ^ w)
theorem wF.le {r:List Qi} {w v:Nat} (h:wF r w) (k:w ≤ v):wF r v:=by
 obtain ⟨d,d0,dg,dj⟩:=h
 have hp:BB ^ w ≤ BB ^ v:=Nat.pow_le_pow_right dR k
 exact ⟨d,d0,dg.le hp,fun j=>(dj j).le hp⟩
theorem Ok (w:Nat):2 * BB ^ w * BB ^ w + 2 * BB ^ w * BB ^ w ≤ BB ^ (2 * w + 1):=by
 have e:BB ^ (2 * w + 1) = BB ^ w * BB ^ w * BB:=by rw [Nat.pow_succ,Nat.two_mul,Nat.pow_add]
 rw [e,Nat.mul_assoc 2,← Nat.two_mul,← Nat.mul_assoc 2 2,Nat.mul_comm (2 * 2)]
 exact Nat.mul_le_mul_left _ (by decide)
theorem Yh {l:List Qi} {j:Nat} (h:l.length ≤ j):gv l j = 0:=by simp [gv,List.getD,List.getElem?_eq_none h]; rfl
theorem Py (N:Nat):Gb 0 N:=⟨0,0,Qi.ext' rfl rfl,by simp,by simp⟩
theorem wF.red {rr rc:List Qi} {c w:Nat} {P:Nat → Prop} [DecidablePred P] (h1:wF rr w) (h2:wF rc w) (hp:gv rc c ≠ 0):wF (tab rr.length fun j=>if P j then gv rr j - gv rr c / gv rc c * gv rc j else gv rr j) (2 * w + 1):=by
 obtain ⟨d,d0,dg,dj⟩:=h1
 obtain ⟨e,e0,eg,ej⟩:=h2
 have t:=Ok w
 refine ⟨d * (e * gv rc c),fun k=>?_,(dg.mul (ej c)).le zo,fun j=>?_⟩
 ·rcases iS k with k | k
  ·exact d0 k
  ·rcases iS k with k | k
   ·exact e0 k
   ·exact hp k
 ·by_cases hj : j < rr.length
  ·rw [fC hj]
   by_cases hP:P j
   ·rw [if_pos hP]
    have hd:=sU (x:=gv rr c) hp
    have ee : d * (e * gv rc c) * (gv rr j - gv rr c / gv rc c * gv rc j) = d * gv rr j * (e * gv rc c) - d * gv rr c * (e * gv rc j) := by
     have e2:d * (e * gv rc c) * (gv rr c / gv rc c * gv rc j) = d * (gv rr c / gv rc c * gv rc c) * (e * gv rc j):=by grind
     rw [hd] at e2
     grind
    rw [ee]
    exact (((dj j).mul (ej c)).sub ((dj c).mul (ej j))).le t
   ·rw [if_neg hP]
    have ee:d * (e * gv rc c) * gv rr j = d * gv rr j * (e * gv rc c):=by grind
    rw [ee]
    exact ((dj j).mul (ej c)).le zo
  ·rw [Yh (l := tab rr.length fun j => if P j then gv rr j - gv rr c / gv rc c * gv rc j else gv rr j) (by rw [aF]; omega)]
   have ee:d * (e * gv rc c) * 0 = 0:=by grind
   rw [ee]; exact Py _
theorem wF.fit {r : List Qi} {w : Nat} (h : wF r w) : bH r (4 * (w + 1) + 2) := fun x hx => by
 obtain ⟨d,d0,dg,dj⟩:=h
 obtain ⟨j,hj,e⟩:=List.getElem_of_mem hx
 have e2:gv r j = x:=by simp [gv,List.getD,hj,e]
 have hlt:BB ^ w < BB ^ (w + 1):=Nat.pow_lt_pow_right (by decide) zo
 have f1:aH (d * gv r j) (w + 1):=(dj j).fit hlt zo
 have f2:aH d (w + 1):=dg.fit hlt zo
 have f3:aH (d * gv r j / d) (w + 1 + 3 * (w + 1) + 2):=nS f1 f2 d0
 rw [Mx (z:=x) d0 (by rw [e2]; grind)] at f3
 exact f3.le zo
theorem a32 {r:List Qi} {m L:Nat} (hl:r.length = m) (h:bH r L) (hL:1 ≤ L):wF r (m * L):=by
 obtain ⟨d,d0,dl,dj⟩:=Ap (L:=L) (x:=gv r) m fun j _=>h.get hL j
 refine ⟨Qi.ofInt d,Co d0,⟨d,0,Qi.ext' rfl (by show (0:Rat) = ((0:Int):Rat); rfl),by simpa using dl,by simp⟩,fun j=>?_⟩
 by_cases hj:j < m
 ·exact dj j hj
 ·rw [Yh zo]
  have ee:Qi.ofInt d * 0 = 0:=by grind
  rw [ee]; exact Py _
abbrev oT (M:List (List Qi)) (w:Nat):Prop:=∀ r,r ∈ M → wF r w
theorem oT.row {M : List (List Qi)} {w i : Nat} (h : oT M w) (hi : i < M.length) : wF (eE M i) w := h _ (by
 rw [show eE M i = M[i] by simp [eE,List.getD,hi]]; exact List.getElem_mem hi)
theorem a0r {M:List (List Qi)} {n m L:Nat} (hs:cB M n m) (h:bA M L) (hL:1 ≤ L):oT M (m * L):=fun r hr=>a32 (hs.2 r hr) (h r hr) hL
theorem oT.swp {M : List (List Qi)} {w p c : Nat} (h : oT M w) (hp : p < M.length) (hc : c < M.length) : oT (swp [] M p c) w := fun x hx => by
 unfold Go.Proofs.YtdlciihkiefckaaGreat.swp at hx
 rcases List.mem_or_eq_of_mem_set hx with h1 | h1
 ·rcases List.mem_or_eq_of_mem_set h1 with h2 | h2
  ·exact h x h2
  ·rw [h2]; exact h.row hc
 ·rw [h1]; exact h.row hp
theorem oT.redM {M : List (List Qi)} {w c r : Nat} (h : oT M w) (hc : c < M.length) (hp : gm M c c ≠ Qi.zero) : oT (redM M c r) (2 * w + 1) := fun x hx => by
 obtain ⟨i,hi,rfl⟩:=dN.1 hx
 show wF (if c < i ∧ i < r then lY (eE M i) (eE M c) c (eE M i).length else eE M i) _
 split
 ·exact (h.row hi).red (h.row hc) hp
 ·exact (h.row hi).le zo
theorem oT.redJ {M : List (List Qi)} {w c r : Nat} (h : oT M w) (hc : c < M.length) (hp : gm M c c ≠ Qi.zero) : oT (redJ M c r) (2 * w + 1) := fun x hx => by
 obtain ⟨i,hi,rfl⟩:=dN.1 hx
 show wF (if i ≠ c ∧ i < r then zD (eE M i) (eE M c) c (eE M i).length else eE M i) _
 split
 ·exact (h.row hi).red (h.row hc) hp
 ·exact (h.row hi).le zo
theorem Eu {M : List (List Qi)} {n m w : Nat} (hs : cB M n m) (h : oT M w) : ∀ {c : Nat}, c ≤ n → oT (cE M c).1 (wst w c)
 | 0,_=>h
 | c + 1, hc => by
  have ih:=Eu hs h (c:=c) zo
  have sh:=pQ hs (c:=c) zo
  obtain ⟨_,i2,i3,i4⟩:=nX (M:=(cE M c).1) (c:=c) (n:=M.length) (by rw [hs.1]; omega)
  have hml:=hs.1
  have hel:=sh.1
  simp only [cE,wst]
  split
  ·exact fun r hr=>(ih r hr).le zo
  ·split
   ·exact fun r hr=>(ih r hr).le zo
   ·rename_i e
    split
    ·rename_i e2
     refine oT.redM ih zo ?_
     have:=i4 zo
     rw [e2] at this; exact this
    ·refine oT.redM (ih.swp zo zo) (by rw [Av]; omega) ?_
     show gv (eE (swp [] _ _ c) c) c ≠ _
     rw [yR (by rw [sh.1]; omega)]
     exact i4 zo
def stG (w n:Nat):Nat:=4 * (wst w n + 1) + 2
theorem a1M {M : List (List Qi)} {n m L c : Nat} (hs : cB M n m) (hM : bA M L) (hL : 1 ≤ L) (hc : c ≤ n) : bA (cE M c).1 (stG (m * L) n) := fun r hr =>
 ((Eu hs (a0r hs hM hL) hc r hr).le (Dm _ hc)).fit
theorem Ov {U : List (List Qi)} {n i : Nat} : ∀ {k j : Nat}, j + k ≤ n → n - j ≤ i → gv (nR U n (j + k)) i = gv (nR U n j) i
 | 0,_,_,_=>rfl
 | k + 1, j, h, hi => by
  rw [show j + (k + 1) = (j + k) + 1 by omega,nR,gv,List.getD,List.getElem?_set_ne zo]
  exact Ov (k:=k) zo hi
theorem Ow {U : List (List Qi)} {n i : Nat} : ∀ {j : Nat}, j ≤ n → i < n - j → gv (nR U n j) i = 0
 | 0,_,h=>by rw [nR,fC zo]; rfl
 | j + 1, hj, h => by
  rw [nR,gv,List.getD,List.getElem?_set_ne zo]
  exact Ow (j:=j) zo zo
theorem a19 {M : List (List Qi)} {b : List Qi} {n j X : Nat} (hX : 1 ≤ X) (h : bH (iE M b n) X) (hj : j ≤ n) : bH (nR (qO M b n).1 n j) X := fun x hx => by
 obtain ⟨i,hi,e⟩:=List.getElem_of_mem hx
 have e2:gv (nR (qO M b n).1 n j) i = x:=by simp [gv,List.getD,hi,e]
 rw [tO] at hi
 rw [← e2]
 by_cases c:n - j ≤ i
 ·have k := Ov (U := (qO M b n).1) (n := n) (k := n - j) (j := j) zo c
  rw [show j + (n - j) = n by omega] at k
  rw [← k]; exact h.get hX i
 ·rw [Ow hj zo]; exact aH.zero hX
structure Rz (M:List (List Qi)) (b:List Qi) (n G X:Nat):Prop where
 st:∀ c,c ≤ n → bA (cE (kN M [b] n) c).1 G
 bk:jA M b n = 0 → ∀ j,j ≤ n → bH (nR (qO M b n).1 n j) X
 g1:1 ≤ G
 x1:1 ≤ X
 g:6 * G + 4 ≤ 17592186044415
 x:n * (X + G + 2) + 4 * G + 2 ≤ 17592186044415
theorem Rz.old {M:List (List Qi)} {b:List Qi} {n L:Nat} (hM:cB M n n) (hf:bA M L) (hfb:bH b L) (hL:1 ≤ L) (hg:6 * jQ L n + 4 ≤ 17592186044415) (hx:uG (jQ L n) (n + 1) ≤ 17592186044415):Rz M b n (jQ L n) (uG (jQ L n) n):=by
 have hcs:cB (kN M [b] n) n (n + 1):=lO hM
 have hcf:bA (kN M [b] n) L:=tQ hf (fun r hr=>by simp at hr; subst hr; exact hfb) hL
 have hG1:1 ≤ jQ L n:=Nat.le_trans hL (qH L n)
 refine ⟨fun c hc=>(Br hcs hcf hL hc).le (mO L hc),fun hE j hj=>?_,hG1,Nat.le_trans hG1 (Dn _ _),hg,hx⟩
 have hst:¬ 0 ≤ (qO M b n).2.2:=fun h=>by rw [jA,if_pos h] at hE; omega
 have hf2:=Mc (Li hM hf hfb hL) hG1 (pI hcs (Nat.le_refl n) (Rj hst)) j hj
 exact fun y hy=>(hf2 y hy).le (xU _ hj)
theorem yI {M : List (List Qi)} {n G X : Nat} (hz : ∀ i, i < n → Rz M (ek n i) n G X) (hE : nK M n = 0) : bA (jK M n) X := fun r hr => by
 obtain ⟨i,_,rfl⟩:=dN.1 hr
 exact bH.tab fun j hj=>((hz j hj).bk (wY hE j hj) n (Nat.le_refl n)).get (hz j hj).x1 i
structure SzJ (M:List (List Qi)) (b:List Qi) (n G:Nat):Prop where
 st:∀ c A,c ≤ n → Tf (kN M [b] n) c = some A → bA A G
 g1:1 ≤ G
 g:6 * G + 4 ≤ 17592186044415
theorem SzJ.old {M : List (List Qi)} {b : List Qi} {n L : Nat} (hM : cB M n n) (hf : bA M L) (hfb : bH b L) (hL : 1 ≤ L) (hg : 6 * jQ L n + 4 ≤ 17592186044415) : SzJ M b n (jQ L n) :=
 ⟨fun _ _ hc hA=>(Yb (show cB (kN M [b] n) n (n + 1) from lO hM) (Nat.le_succ n) (tQ hf (fun r hr=>by simp at hr; subst hr; exact hfb) hL) hL hc hA).le (mO L hc),Nat.le_trans hL (qH L n),hg⟩
theorem Xv {n:Nat} (hn:n ≤ 8):∀ N,1 ≤ N → fs n N ≤ (2 * 8 * (2 * 7 * (2 * 6 * (2 * 5 * 1610612736 * 4 ^ 15) * 4 ^ 31) * 4 ^ 63) * 4 ^ 127) * N ^ 255:=by
 have h6:∀ N,1 ≤ N → fs 6 N ≤ (2 * 6 * (2 * 5 * 1610612736 * 4 ^ 15) * 4 ^ 31) * N ^ 63:=fun N hN=>Xw (Nat.le_refl 6) N hN
 have h7:∀ N,1 ≤ N → fs 7 N ≤ (2 * 7 * (2 * 6 * (2 * 5 * 1610612736 * 4 ^ 15) * 4 ^ 31) * 4 ^ 63) * N ^ 127:=zW h6
 have h8:∀ N,1 ≤ N → fs 8 N ≤ (2 * 8 * (2 * 7 * (2 * 6 * (2 * 5 * 1610612736 * 4 ^ 15) * 4 ^ 31) * 4 ^ 63) * 4 ^ 127) * N ^ 255:=zW h7
 by_cases a:n ≤ 6
 ·exact zV (Xw a) (by decide) (by decide)
 ·by_cases b : n = 7
  ·subst b; exact zV h7 (by decide) (by decide)
  ·obtain rfl : n = 8 := by omega
   exact h8
theorem Ka {n e K:Nat} (hn:n ≤ 8) (he:e * 255 + 17 = K):fs n (BB ^ e) < BB ^ K:=by
 refine Nat.lt_of_le_of_lt (Xv hn _ (Nat.pow_pos dR)) ?_
 rw [← Nat.pow_mul]
 exact Nr he (by show _ < 4294967296 ^ 17; decide)
def Lh (L:Nat):Nat:=4 * (9 * L * 255 + 17) + 2
def st8 (L:Nat):Nat:=stG (9 * L) 8
theorem a0x {M : List (List Qi)} {b : List Qi} {n L : Nat} (h : cB M n n) (hM : bA M L) (hb : bH b L) (hL : 1 ≤ L) (hn : n ≤ 8) (hE : jA M b n = 0) : bH (iE M b n) (Lh L) :=
 a0C (m:=8) (K:=9 * L * 255 + 17) h hM hb hL hn (Ka (e:=(8 + 1) * L) (K:=9 * L * 255 + 17) hn zo) zo hE
theorem Oc (L:Nat):st8 L = 9216 * L + 1026:=by simp only [st8,stG,wst]; omega
theorem a5v (L:Nat) (h:L ≤ 10000000):4 * (9 * L * 255 + 17) + 2 + (9216 * L + 1026) + 2 ≤ 200000000000:=by omega
theorem a5w (L:Nat) (h:L ≤ 10000000):4 * (9216 * L + 1026) + 2 ≤ 400000000000:=by omega
theorem a5x (n A B:Nat) (hn:n ≤ 8) (hA:A ≤ 200000000000) (hB:B + 2 ≤ 400000000000):n * A + B + 2 ≤ 17592186044415:=by
 have:n * A ≤ 8 * A:=Nat.mul_le_mul_right _ hn
 omega
theorem a5y (n L:Nat) (hn:n ≤ 8) (h:L ≤ 10000000):n * (Lh L + st8 L + 2) + 4 * st8 L + 2 ≤ 17592186044415:=by
 rw [Oc,Lh]
 exact a5x n _ _ hn (a5v L h) (a5w L h)
theorem a5z (L:Nat) (h:L ≤ 10000000):6 * st8 L + 4 ≤ 17592186044415:=by rw [Oc]; omega
theorem a5A (L:Nat):1 ≤ st8 L:=by rw [Oc]; omega
theorem Og (L:Nat):1 ≤ Lh L:=by unfold Lh; omega
theorem a6X {M:List (List Qi)} {b:List Qi} {n L:Nat} (h:cB M n n) (hM:bA M L) (hb:bH b L) (hL:1 ≤ L) (hLb:L ≤ 10000000) (hn:n ≤ 8):Rz M b n (st8 L) (Lh L):=by
 have hcs:cB (kN M [b] n) n (n + 1):=lO h
 have hcf:bA (kN M [b] n) L:=tQ hM (fun r hr=>by simp at hr; subst hr; exact hb) hL
 have hle : stG ((n + 1) * L) n ≤ st8 L := by
  have hw:(n + 1) * L ≤ 9 * L:=Nat.mul_le_mul_right _ zo
  have h1:=a0V hw n
  have h2:=Dm (9 * L) hn
  simp only [stG,st8]; omega
 exact ⟨fun c hc=>(a1M hcs hcf hL hc).le hle,fun hE j hj=>a19 (Og L) (a0x h hM hb hL hn hE) hj,a5A L,Og L,a5z L hLb,a5y n L hn hLb⟩
end
section
open Go Go.RowKit
theorem a3p {n:Nat} (hn:n ≤ 32):iV Tryz.prog 144 [NT .i64 n] [] (Nat) (fun B=>Is (.slice (some ⟨B,0,none⟩) n n)) (fun B=>[rX yE B 25 60 5 (cO aE (qP n))]) (fun _=>True):=by
 refine iV.intro Tryz.func144 rfl Tryz.ntmps144 rfl (fun cx Z=>(ts (ro rfl (cQ cV) (eX (ts (rn rfl (eW (Ts:=[Is (.bool false),Is (.slice none 0 0),Is (.bool false),Is (.slice none 0 0),Is (.slice none 0 0)]) O_60 rfl (fun V=>aW zd (aW zd (aW zd (aW zd (aW zd (aG))))))) fun B3=>(eX (ts (rm rfl (ro rfl (aM.nat (a2A (Ht rfl) (cJ 0)) (show max n 0 = n by omega)) (ro rfl (aM.nat (Qx (Ht rfl) (cJ 32)) (show min n 32 = n by omega)) ?_)))))))))))
 refine rn rfl (jN (T:=Is (.slice none 0 0)) (i:=Tryz.t25) V_26 tU rfl rfl (Ht rfl) rfl (fun _=>rfl) trivial (by show 24 * _ ≤ _; omega) zo) fun B9=>ra rfl (eX (cK (ts (rm rfl (ro rfl (jB U_26 (Ht rfl)) (ro rfl (cX (cJ 0)) (eX (eG (pN 2 rfl (Kj yE ⟨none,0,rfl⟩ (e:=60) (s:=5)) ?_)))))))))
 refine cI (fun (k : Nat) => k ≤ n) (fun (k : Nat) => n - k) (fun (k : Nat) => [(3, cA B3 0), (4, Is (.slice (some ⟨B9, 0, none⟩) n n)), (11, NT .i64 n), (12, NT .i64 k)]) (fun (k : Nat) => [Z, box B3 60 [Is (.bool false), Is (.slice none 0 0), Is (.bool false), Is (.slice none 0 0), Is (.slice none 0 0)], rX yE B9 25 60 5 (cO aE (kS (Dk n) [] n k))]) 0 (Nat.zero_le _)
  (zS rfl) (aU (fun _ _ _ h=>h) (aU (fun _ _ _ h=>h) (aU (eB (by rw [← iN,rJ]; exact tF aE n)) aY))) (fun k hk=>?_)
 refine ts (ro rfl (gX (Ht rfl) (Ht rfl)) (eX (cK (dQ (Ht rfl) (fun hd=>?_) (fun hd=>?_)))))
 ·simp only [decide_eq_true_eq] at hd
  refine Vk 2 (k) rfl (wW hd) (fun v hv=>(cU (cK (eG (ts (rm rfl (ra rfl (eX (cK (fZ (m:=10) (dp 4 rfl (cX (Ht rfl)) (dp 5 rfl (cX (Ht rfl)) (dp 3 rfl (eJ A_60 Z_60 (Ht rfl) (i:=1) rfl rfl rfl) (dq 17 2 rfl (bE bP (Ht rfl)) (d0 rfl (cZ K_52 (Bg (n:=0) (by decide) (by decide)) ⟨(cJ 0),trivial⟩) (dH 18 3 19 4 rfl (aR nL K_304 Jd (Ht rfl) ⟨(Ht rfl),trivial⟩) (dq 20 5 rfl (eH (xs:=[.tmp 20]) U_25 Z_60 O_60 (cW (Ht rfl) cG) rfl rfl rfl) ?_)))))))))))))))))
  refine dp 4 rfl (cX (Ht rfl)) (dq 22 7 rfl (jB U_26 (Ht rfl)) (C.D_new (Ei:=[(21,_),(23,_)]) rfl rfl rfl (bV (bG 6 rfl rfl) (bV (bG 8 rfl rfl) bW)) (Fd Tryz.call229 (a43 (m:=n) zo zo) ⟨(Ht rfl),(Ht rfl),trivial⟩) (fV bB rfl (by kernel_rfl) (zF (zF (aJ (C.F_new (fun B24=>aV (ro rfl (fY U_26 Z_25 (Ht rfl) (Ht rfl) rfl zo (by rw [Nat.mul_one,Nat.zero_add])) ?_)))))))))
  refine Bd Z_25 (Ht rfl) (Ht rfl) (by simp only [cO,List.length_map,dE]; omega) (j:=2) (l:=4) rfl rfl rfl ?_
  refine eX ?_
  have hB24:=B24.1.2
  refine fZ (m:=9) (dp 4 rfl (cX (Ht rfl)) (dp 5 rfl (cX (Ht rfl)) (dH 26 0 27 1 rfl (fY U_26 Z_25 (Ht rfl) (Ht rfl) rfl zo (by rw [Nat.mul_one,Nat.zero_add])) ?_)))
  refine dq 28 2 rfl (lI A_25 Z_25 (Ht rfl) (j:=2) rfl) (dp 5 rfl (cX (Ht rfl)) (dp 3 rfl (eJ A_60 Z_60 (Ht rfl) (i:=1) rfl rfl rfl) (dq 31 5 rfl (bE bP (Ht rfl)) (d0 rfl (cZ K_52 (Bg (n:=1) (by decide) (by decide)) ⟨(cJ 1),trivial⟩) (dH 32 6 33 7 rfl (aR nL K_304 Jd (Ht rfl) ⟨(Ht rfl),trivial⟩) (fV bB rfl (by kernel_rfl) (zF (zF (aJ (aV (ro rfl (dA U_25 Z_60 (Ht rfl) (Ht rfl) rfl (i:=4) rfl (by simp only [List.length_map,aF]; omega) rfl) ?_)))))))))))
  refine lZ Z_60 (Ht rfl) (Ht rfl) (El.ag rfl) (i:=4) rfl rfl (by simp only [List.length_map,aF]; omega) rfl ?_
  refine eX (bN (kU 2 4 rfl rfl (by decide) (by simp only [cO,List.length_map,dE]; omega) ?_))
  refine cY (ro rfl (dV (Ht rfl) (cJ 1) z6) (rm rfl (eX (cM [0,1,2] rfl (by decide) (fU (k + 1) hd zo (zS rfl) (aU (fun _ _ _ h=>h) (aU (fun _ _ _ h=>h) (aU (eB (by rw [← jU (f:=Dk n),← lK,Dk,← gI])) aY))))))))
 ·simp only [decide_eq_false_iff_not] at hd
  obtain rfl:n = k:=Nat.le_antisymm zo hk
  refine gV rfl (ts (rm rfl (ra rfl (eX ?_))))
  exact kW B9 trivial [0,2] ⟨⟨_,rfl,fun _ _ _ h=>h⟩,⟨_,rfl,(eB (by rw [jT]; rfl))⟩,trivial⟩ (by decide) (xP rfl (eU rfl))
theorem a3Z {n:Nat} (hn:n ≤ 32):bF Tryz.prog 144 [NT .i64 n] (cH (qP n)):=(a3p hn).fun fun B _ v S V h1 h2=>qY (s:=5) (M:=qP n) (mY n).1.symm v S V h1 h2
theorem Je {M:List (List Qi)} {b:List Qi} {n G X:Nat} (hM:cB M n n) (hb:b.length = n) (hz:Rz M b n G X) (h1:1 ≤ n) (hn:n ≤ 32):bF Tryz.prog 126 [cH M,aN b] (eD [aN (iC (jA M b n) (iE M b n)),aL .i64 (jA M b n)]):=by
 have hMl:=hM.1
 have hcs:cB (kN M [b] n) n (n + 1):=lO hM
 have hg:=hz.g
 have hx:n * (G + X + 2) + 4 * G + 2 ≤ 17592186044415:=by rw [Nat.add_comm G X]; exact hz.x
 obtain ⟨U,hU⟩:∃ U,U = (qO M b n).1:=⟨_,rfl⟩
 have hUs:cB U n (n + 1):=by rw [hU]; exact a0z hM
 have hUl:=hUs.1
 have hUf:bA U G:=by rw [hU]; exact hz.st n (Nat.le_refl n)
 have hG1:=hz.g1
 have hX1:=hz.x1
 refine bF.intro Tryz.func126 rfl Tryz.ntmps126 rfl (fun cx=>(ts (ro rfl (cQ cV) (ro rfl (cQ (cJ 0)) (eX (cK (ts (rm rfl (ro rfl (cZ Tryz.call172 (Jl hM h1 hn) ⟨(Ht rfl),trivial⟩) (ro rfl (gG (Ht rfl)) (rm rfl (fQ rfl rfl (eK rfl rfl (Ht rfl) (fun h=>cX (Ht rfl))) (fQ rfl rfl (eK rfl rfl (Ht rfl) (fun h=>dG U_25 (fJ rfl h) aC)) (fQ rfl rfl (eK rfl rfl (Ht rfl) (fun h=>cX (Ht rfl))) (fQ rfl rfl (eK rfl rfl (Ht rfl) (fun h=>dG U_26 (fJ rfl h) aC)) ?_)))))))))))))))
 refine fQ rfl rfl (eK rfl rfl (Ht rfl) (fun h=>lS (fJ rfl h) (fJ rfl h))) (ro rfl (nD (Ht rfl) (fun h=>(fJ rfl h))) (eX (kP (Ht rfl) (by simp [hMl,hb]) ?_)))
 refine cU (ts (rm rfl (ro rfl (dG U_26 (Ht rfl) (by rw [List.length_map,hMl])) ?_)))
 refine ra rfl (eX (ts (rm rfl (rm rfl (ro rfl (eH (xs:=[.tmp 26]) U_26 Z_25 O_25 (cW (Ht rfl) cG) rfl rfl rfl) (mW Tryz.call195 (Eg (M:=M) (bs:=[b]) (n:=n) (m:=n) hM (fun r hr=>by simp at hr; subst hr; omega) zo zo (by simp)) ⟨(Ht rfl),(Ht rfl),trivial⟩ rfl (fun B28 _=>?_)))))))
 refine ra rfl (eX (cK (ts (rm rfl (Fs Tryz.call221 (a1k (n:=n) (m:=n + 1) (G:=G) hcs hz.st hG1 hg zo zo) (i:=0) rfl ⟨(Ht rfl),trivial⟩ rfl (fun uu _=>(rm rfl (ro rfl (dK (Ht rfl) rfl) (ro rfl (dK (Ht rfl) rfl) (ra rfl (ra rfl (eX (ts (rm rfl (ro rfl (pS (Ht rfl) cV) (eX (dQ (Ht rfl) (fun hs=>?_) (fun hs=>?_))))))))))))))))))
 ·have he : jA M b n = 6 := by rw [jA, if_pos (show 0 ≤ (qO M b n).2.2 from of_decide_eq_true hs)]
  refine ts (ro rfl (cQ cV) (ro rfl (cQ (cJ 6)) (eX (bL rfl (fX (eU rfl) ?_) (fX (eU rfl) ?_)))))
  ·exact (fun v V k=>by rw [he]; exact iP v V k)
  ·exact (aT he.symm)
 ·have hst : ¬ 0 ≤ (qO M b n).2.2 := of_decide_eq_false hs
  have he:jA M b n = 0:=by rw [jA,if_neg hst]
  have hdz:∀ i,i < n → gm U i i ≠ Qi.zero:=by rw [hU]; exact pI hcs (Nat.le_refl n) (Rj hst)
  refine cU (ts (rm rfl (rn rfl (iG (T:=aE Qi.zero) (i:=Tryz.t60) jS gU rfl rfl (Ht rfl) rfl gF (El.ag rfl) (by show 88 * _ ≤ _; omega) zo) fun B37=>(ra rfl (eX (cK (ts (rm rfl (ro rfl (dW (Ht rfl) (cJ 1) zo z6) (ra rfl (eX (eG (pN 0 rfl (eB (show cO aE (cE (kN M [b] n) n).1 = cO aE U by rw [hU]; rfl)) (Fy 0 rfl (fun vs hvs=>?_)))))))))))))))
  have hvl:vs.length = n:=by have h:=hvs.len; rw [List.length_map,hUl] at h; exact h
  refine cI (fun (j : Nat) => j ≤ n) (fun (j : Nat) => n - j) (fun (j : Nat) => [(0, Is (.slice (some ⟨B28, 0, none⟩) n n)), (6, NT .i64 n), (9, Is B37), (10, aL .i64 ((n : Int) - 1 - (j : Int)))]) (fun (j : Nat) => [jL B28 25 60 5 vs vs (cO aE U), bI 60 5 B37 ((nR U n j).map aE)]) 0 (Nat.zero_le _)
   (aQ rfl (aQ rfl (aQ rfl (aZ rfl (aT zo) aX)))) (aU (fun _ _ _ h=>h) (aU (aP (by rw [nR]; exact nY aE n)) aY)) (fun j hj=>?_)
  refine cK (ts (rm rfl (ro rfl (pS (Ht rfl) cV) (eX (dQ (Ht rfl) (fun hc=>?_) (fun hc=>?_))))))
  ·have hjn : j < n := a5U (of_decide_eq_true hc)
   obtain ⟨q,hq⟩:∃ q,q = n - (j + 1):=⟨_,rfl⟩
   have hqi:(n:Int) - 1 - (j:Int) = (q:Int):=by omega
   have hqr:(U.getD q []).length = n + 1:=hUs.row zo
   have hXf:bH (nR U n j) X:=by rw [hU]; exact hz.bk he j hj
   have hXl:=tO U n j
   refine cU (cK (eG (ts (rm rfl (rm rfl (ro rfl (fY U_26 Z_25 (Ht rfl) (Ht rfl) hqi zo (by rw [Nat.mul_one,Nat.zero_add])) ?_))))))
   refine ro rfl (fI A_25 Z_25 (Ht rfl) (j:=0) rfl zo) (rm rfl (ro rfl (gP U_25 Z_60 (Ht rfl) (Ht rfl) rfl (j:=0) rfl zo zo zo) (ro rfl (kG A_60 Z_60 (Ht rfl) (j:=0) rfl zo zo zo) (rn rfl (eW (Ts:=[Is (.bool false),Is (.slice none 0 0),Is (.bool false),Is (.slice none 0 0),Is (.slice none 0 0)]) O_60 rfl (fun V=>aW zd (aW zd (aW zd (aW zd (aW zd (aG))))))) fun B11=>?_))))
   refine gQ Z_60 (Ht rfl) (Ht rfl) rfl (i:=2) rfl (aK rfl) rfl rfl (eX (cK (ts (rm rfl (ro rfl (Cp (Ht rfl) cV (r:=((q + 1:Nat):Int)) ((Ea (z:=(n:Int) - 1 - (j:Int) + 1) zo).trans zo)) ?_)))))
   refine ra rfl (eX (eG ?_))
   refine cI (fun (k : Nat) => k ≤ j) (fun (k : Nat) => j - k) (fun (k : Nat) => [(0, Is (.slice (some ⟨B28, 0, none⟩) n n)), (6, NT .i64 n), (9, Is B37), (10, aL .i64 ((n : Int) - 1 - (j : Int))), (11, cA B11 0), (12, NT .i64 (q + 1 + k))]) (fun (k : Nat) => [jL B28 25 60 5 vs vs (cO aE U), bI 60 5 B37 ((nR U n j).map aE), box B11 60 [aI (decide ((oP U (nR U n j) n q k).a < 0)), aS (oP U (nR U n j) n q k).a.natAbs, aI (decide ((oP U (nR U n j) n q k).b < 0)), aS (oP U (nR U n j) n q k).b.natAbs, aS (du (oP U (nR U n j) n q k))]]) 0 (Nat.zero_le _)
    (zS rfl) (aU (fun _ _ _ h=>h) (aU (fun _ _ _ h=>h) (aU (aD rfl) aY))) (fun k hk=>?_)
   refine cK (ts (rm rfl (rm rfl (ro rfl (gX (Ht rfl) (Ht rfl)) (eX (dQ (Ht rfl) (fun hf=>?_) (fun hf=>?_)))))))
   ·have hkj : k < j := by simp only [decide_eq_true_eq] at hf; omega
    haveI f1:aH (oP U (nR U n j) n q k) (G + k * (G + X + 2)):=Au hUf hXf hG1 hX1 k
    haveI f2:aH (gm U q (q + 1 + k)) G:=hUf.get hG1 _ _
    haveI f3:aH (gv (nR U n j) (q + 1 + k)) X:=hXf.get hX1 _
    have hb1:k * (G + X + 2) + (G + X + 2) ≤ n * (G + X + 2):=by rw [← Nat.succ_mul]; exact Nat.mul_le_mul_right _ zo
    refine cU (cK (eG (fZ (m:=15) (dp 11 rfl (eJ A_60 Z_60 (Ht rfl) (i:=2) rfl rfl rfl) (dq 58 0 rfl (bE bP (Ht rfl)) (dp 0 rfl (cX (Ht rfl)) (dp 10 rfl (cX (Ht rfl)) (dH 60 2 61 3 rfl (fY U_26 Z_25 (Ht rfl) (Ht rfl) hqi zo (by rw [Nat.mul_one,Nat.zero_add])) ?_))))))))
    refine dq 62 4 rfl (fI A_25 Z_25 (Ht rfl) (j:=0) rfl zo) (dp 12 rfl (cX (Ht rfl)) (dH 63 5 64 6 rfl (gP U_25 Z_60 (Ht rfl) (Ht rfl) rfl (j:=0) rfl zo zo zo) (dq 65 7 rfl (kG A_60 Z_60 (Ht rfl) (j:=0) rfl zo zo zo) (dq 66 8 rfl (bE bP (Ht rfl)) (dp 9 rfl (cX (Ht rfl)) (dp 12 rfl (cX (Ht rfl)) (dH 68 10 69 11 rfl (dA U_25 Z_60 (Ht rfl) (Ht rfl) rfl (i:=1) rfl (by rw [List.length_map]; omega) rfl) ?_)))))))
    refine dq 70 12 rfl (oN A_60 Z_60 (Ht rfl) (i:=1) rfl rfl (dY (dU (d:=Qi.zero) zo))) (dH 67 9 71 13 rfl (aR dP K_70 (kY (x:=gm U q (q + 1 + k)) (y:=gv (nR U n j) (q + 1 + k)) (L:=G) (M:=X) zo) (Ht rfl) ⟨(Ht rfl),trivial⟩) (fV bB rfl (by kernel_rfl) (zF (zF (zF (aJ (aJ (aJ (aV (ro rfl (aR lG K_69 (uO (x:=(oP U (nR U n j) n q k)) (y:=gm U q (q + 1 + k) * gv (nR U n j) (q + 1 + k)) (L:=G + k * (G + X + 2)) (M:=G + X + 1) zo) (Ht rfl) ⟨(Ht rfl),trivial⟩) ?_))))))))))
    refine gQ Z_60 (Ht rfl) (Ht rfl) rfl (i:=2) rfl (aK rfl) rfl rfl (eX (bN (cY (rm rfl (ro rfl (dV (Ht rfl) (cJ 1) z6) (ra rfl (eX (fU (k + 1) hkj zo (zS rfl) (aU (fun _ _ _ h=>h) (aU (fun _ _ _ h=>h) (aU (aD rfl) aY)))))))))))
   ·obtain rfl : k = j := Nat.le_antisymm hk (by simp only [decide_eq_false_iff_not] at hf; omega)
    haveI f1:aH (oP U (nR U n k) n q k) (G + k * (G + X + 2)):=Au hUf hXf hG1 hX1 k
    haveI f2:aH (gm U q q) G:=hUf.get hG1 _ _
    have hb3:k * (G + X + 2) ≤ n * (G + X + 2):=Nat.mul_le_mul_right _ zo
    refine gV rfl (Y.D_start (m:=17) [(16,1,bI 60 5 B37 (((nR U n k).map aE).set q (aE ((oP U (nR U n k) n q k) / gm U q q))))] (Y.D_step (Ei:=[(9,_)]) rfl rfl (bQ (bJ rfl rfl) bX) rfl rfl (by kernel_rfl) (dX rfl (cX (Ht rfl))) (Y.D_step (Ei:=[(10,_)]) rfl rfl (bQ (bJ rfl rfl) bX) rfl rfl (by kernel_rfl) (dX rfl (cX (Ht rfl))) (Y.D_step (Ei:=[(11,_)]) rfl rfl (bQ (bJ rfl rfl) bX) rfl rfl (by kernel_rfl) (dX rfl (eJ A_60 Z_60 (Ht rfl) (i:=2) rfl rfl rfl)) ?_))))
    refine Y.D_step (Ei:=[(77,_)]) rfl rfl (bQ (bZ 2 rfl rfl) bX) rfl rfl (by kernel_rfl) (dX rfl (bE bP (Ht rfl))) (Y.D_step (Ei:=[(0,_)]) rfl rfl (bQ (bJ rfl rfl) bX) rfl rfl (by kernel_rfl) (dX rfl (cX (Ht rfl))) (Y.D_step (Ei:=[(10,_)]) rfl rfl (bQ (bJ rfl rfl) bX) rfl rfl (by kernel_rfl) (dX rfl (cX (Ht rfl))) (Y.D_step (Ei:=[(79,_),(80,_)]) rfl rfl (bQ (bZ 4 rfl rfl) (bQ (bZ 5 rfl rfl) bX)) rfl rfl (by kernel_rfl) (dX rfl (fY U_26 Z_25 (Ht rfl) (Ht rfl) hqi zo (by rw [Nat.mul_one,Nat.zero_add]))) ?_)))
    refine Y.D_step (Ei:=[(81,_)]) rfl rfl (bQ (bZ 6 rfl rfl) bX) rfl rfl (by kernel_rfl) (dX rfl (fI A_25 Z_25 (Ht rfl) (j:=0) rfl zo)) (Y.D_step (Ei:=[(10,_)]) rfl rfl (bQ (bJ rfl rfl) bX) rfl rfl (by kernel_rfl) (dX rfl (cX (Ht rfl))) (Y.D_step (Ei:=[(82,_),(83,_)]) rfl rfl (bQ (bZ 7 rfl rfl) (bQ (bZ 8 rfl rfl) bX)) rfl rfl (by kernel_rfl) (dX rfl (gP U_25 Z_60 (Ht rfl) (Ht rfl) hqi (j:=0) rfl zo zo zo)) ?_))
    refine Y.D_step (Ei:=[(84,_)]) rfl rfl (bQ (bZ 9 rfl rfl) bX) rfl rfl (by kernel_rfl) (dX rfl (kG A_60 Z_60 (Ht rfl) (j:=0) rfl zo zo zo)) (Y.D_step (Ei:=[(78,_),(85,_)]) rfl rfl (bQ (bZ 3 rfl rfl) (bQ (bZ 10 rfl rfl) bX)) rfl rfl (by kernel_rfl) (dX rfl (aR kO K_64 (qR (x:=(oP U (nR U n k) n q k)) (y:=gm U q q) (L:=G + k * (G + X + 2)) (M:=G) zo) (Ht rfl) ⟨(Ht rfl),trivial⟩)) (Y.D_step (Ei:=[(86,_)]) rfl rfl (bQ (bZ 11 rfl rfl) bX) rfl rfl (by kernel_rfl) (dX rfl (cX (Ht rfl))) ?_))
    refine Y.D_step (Ei:=[(74,_)]) rfl rfl (bQ (bZ 12 rfl rfl) bX) rfl rfl (by kernel_rfl) (dX rfl (dK (Ht rfl) rfl)) (bY (Ei:=[(74,_)]) rfl rfl (bQ (bZ 12 rfl rfl) bX) rfl rfl (dX rfl (dK (Ht rfl) rfl)) (Y.D_step (Ei:=[(75,_),(76,_)]) rfl rfl (bQ (bZ 0 rfl rfl) (bQ (bZ 1 rfl rfl) bX)) rfl rfl (by kernel_rfl) (dX rfl (dA U_25 Z_60 (Ht rfl) (Ht rfl) hqi (i:=1) rfl (by rw [List.length_map]; omega) rfl)) ?_))
    refine Y.D_putI (Ei:=[(89,_),(87,_)]) 1 rfl rfl rfl (bQ (bZ 15 rfl rfl) (bQ (bZ 13 rfl rfl) bX)) (.head _) rfl (Om Z_60 (Ht rfl) (Ht rfl) (El.ag rfl) (i:=0) rfl rfl (by rw [List.length_map]; omega)) ?_
    refine Y.D_done bB rfl (by kernel_rfl) rfl (by simp [Y.okP]) rfl rfl (bU (bU (bU (bU (bU (bU (bU (bU (bU (bU (bU (bU (bU (bU (bU (bU (Y.F_putI (Y.F_nil ?_))))))))))))))))))
    refine eX (bN (cY (rm rfl (ro rfl (kX (Ht rfl) cV (Ea zo)) (ra rfl (eX (cM [0,1] rfl (by decide) (fU (k + 1) hjn zo (aQ rfl (aQ rfl (aQ rfl (aZ rfl (aT zo) aX)))) (aU (fun _ _ _ h=>h) (aU (aP (by rw [gI,nR,← hq])) aY))))))))))
  ·obtain rfl : j = n := Nat.le_antisymm hj (a5V (by have h := of_decide_eq_false hc; omega))
   refine gJ (i:=1) (tt:=9) rfl rfl gE (gV rfl (ts (rm rfl (ra rfl (ro rfl (cQ (cJ 0)) (eX (bL rfl (fX (eU rfl) ?_) (fX (eU rfl) ?_))))))))
   ·exact (jC (by rw [he,iE,← hU]; rfl))
   ·exact (aT he.symm)
theorem a1g {M:List (List Qi)} {b:List Qi} {n L:Nat} (hM:cB M n n) (hb:b.length = n) (hf:bA M L) (hfb:bH b L) (hL:1 ≤ L) (h1:1 ≤ n) (hn:n ≤ 32) (hg:6 * jQ L n + 4 ≤ 17592186044415) (hx:uG (jQ L n) (n + 1) ≤ 17592186044415):bF Tryz.prog 126 [cH M,aN b] (eD [aN (iC (jA M b n) (iE M b n)),aL .i64 (jA M b n)]):=Je hM hb (Rz.old hM hf hfb hL hg hx) h1 hn
end
section
open Go Go.RowKit
theorem Ef {M:List (List Qi)} {n m:Nat} (hM:cB M n m) (hn:n ≤ 1000) (hm:m ≤ 1000):iV Tryz.prog 195 [cH M,Is (.slice none 0 0)] [] Nat (fun B=>Is (.slice (some ⟨B,0,none⟩) n n)) (fun B=>[oE B 25 60 5 (cO aE M)]) (fun _=>True):=by
 have h:=Eg (M:=M) (bs:=[]) hM (fun b hb=>by cases hb) hn hm (by simp)
 rw [Sv hM] at h
 exact h.arg Vp
theorem Mi {M:List (List Qi)} {n G X:Nat} (hM:cB M n n) (hz:∀ i,i < n → Rz M (ek n i) n G X) (hn:n ≤ 32):bF Tryz.prog 224 [cH M] (eD [cH (iC (nK M n) (jK M n)),aL .i64 (nK M n)]):=by
 have hMl:=hM.1
 refine bF.intro Tryz.func224 rfl Tryz.ntmps224 rfl (fun cx=>(ts (ro rfl (cQ cV) (ro rfl (cQ (cJ 0)) (eX (cK (ts (rm rfl (ro rfl (cZ Tryz.call172 (Ek hM hn) ⟨(Ht rfl),trivial⟩) (ro rfl (gG (Ht rfl)) (eX (kP (Ht rfl) (by rfl) ?_))))))))))))
 refine cU (ts (rm rfl (mW Tryz.call195 (Ef hM zo zo) ⟨(Ht rfl),cV,trivial⟩ rfl (fun B14 _=>(ra rfl (eX (cK (ts (rm rfl (ro rfl (dG U_26 (Ht rfl) (by rw [List.length_map,hMl])) ?_))))))))))
 refine ro rfl (cZ Tryz.call144 (a3Z (n:=n) hn) ⟨(Ht rfl),trivial⟩) (ro rfl (dG U_26 (Ht rfl) aC) (ro rfl (cX (cJ 0)) (eX (eG ?_))))
 refine cI (fun (k : Nat) => k ≤ n ∧ ∀ i, i < k → jA M (ek n i) n = 0) (fun (k : Nat) => n - k) (fun (k : Nat) => [(0, cH M), (4, Is (.slice (some ⟨B14, 0, none⟩) n n)), (17, cH (qP n)), (18, NT .i64 n), (19, NT .i64 k)]) (fun (k : Nat) => [oE B14 25 60 5 (cO aE (sY M n k 0))]) 0 ⟨Nat.zero_le _, fun i h => by omega⟩
  (aQ rfl (aQ rfl (aQ rfl (aZ rfl (nB (mY n).1) (zS rfl))))) (aU (eB (congrArg _ (Tk hM))) aY) (fun k ⟨hk,h0⟩=>?_)
 refine ts (ro rfl (gX (Ht rfl) (Ht rfl)) (eX (cK (dQ (Ht rfl) (fun hd0=>?_) (fun hd0=>?_)))))
 ·simp only [decide_eq_true_eq] at hd0
  have hel:=a4o hd0
  refine cU (cK (eG (ts (rm rfl (ro rfl (dZ U_26 Z_25 (Ht rfl) (Ht rfl) rfl (dY (dU (d:=[]) (by rw [(mY n).1]; exact hd0)))) ?_)))))
  refine ro rfl (dJ A_25 Z_25 (Ht rfl)) (ra rfl (ra rfl (eX (ts (rm rfl (rm rfl (ro rfl (cZ Tryz.call126 (Je (M:=M) (b:=ek n k) (n:=n) (G:=G) (X:=X) hM hel (hz k hd0) zo hn) ⟨(Ht rfl),(Ht rfl),trivial⟩) (rm rfl (ro rfl (dK (Ht rfl) rfl) (ro rfl (dK (Ht rfl) rfl) (ra rfl (ra rfl (eX (cK (ts (rm rfl (ro rfl (fM (Ht rfl) cV) (eX (dQ (Ht rfl) (fun he=>?_) (fun he=>?_))))))))))))))))))))
  ·have he2 : ¬ jA M (ek n k) n = 0 := by simpa using he
   have hi:=a1Y h0 hd0 he2
   refine ts (rm rfl (ro rfl (cQ cV) (ra rfl (eX (bL rfl (fX (eU rfl) ?_) (fX (eU rfl) ?_))))))
   ·exact (fun v V h=>by rw [hi,iC,if_neg he2]; exact iP v V h)
   ·exact (aT hi.symm)
  ·have he2 : jA M (ek n k) n = 0 := by simpa using he
   have hxl:(iE M (ek n k) n).length = n:=tO _ _ _
   refine Bf (E':=[(0,_),(4,_),(5,_),(7,_),(17,_),(18,_),(19,_)]) (aQ rfl (aQ rfl (aQ rfl (aZ rfl (jC (Us:=(iE M (ek n k) n).map aE) (by rw [he2]; rfl)) (zS rfl))))) ?_
   refine cU (ts (rm rfl (ro rfl (dG U_25 (Ht rfl) aC) (ro rfl (cX (cJ 0)) (eX (eG ?_))))))
   refine cI (fun (i : Nat) => i ≤ n) (fun (i : Nat) => n - i) (fun (i : Nat) => [(0, cH M), (4, Is (.slice (some ⟨B14, 0, none⟩) n n)), (5, NT .i64 k), (7, aN (iE M (ek n k) n)), (17, cH (qP n)), (18, NT .i64 n), (19, NT .i64 k), (34, NT .i64 n), (35, NT .i64 i)]) (fun (i : Nat) => [oE B14 25 60 5 (cO aE (sY M n k i))]) 0 (Nat.zero_le _)
    (aQ rfl (aQ rfl (aQ rfl (aQ rfl (aQ rfl (aQ rfl (aQ rfl (aZ rfl (nB hxl) (zS rfl))))))))) (eI.refl _) (fun i hi=>?_)
   refine ts (ro rfl (gX (Ht rfl) (Ht rfl)) (eX (cK (dQ (Ht rfl) (fun hf2=>?_) (fun hf2=>?_)))))
   ·simp only [decide_eq_true_eq] at hf2
    have hpl:=(rB M n k i).1
    have hpr:((sY M n k i).getD i []).length = n:=(rB M n k i).row hf2
    refine oV 0 (i) rfl (oA zo) (fun v=>(cU (cK (eG (ts (rm rfl (ra rfl (eX (fZ (m:=9) (dp 4 rfl (cX (Ht rfl)) (dp 9 rfl (cX (Ht rfl)) (dH 38 0 39 1 rfl (fY U_26 Z_25 (Ht rfl) (Ht rfl) rfl zo (by rw [Nat.mul_one,Nat.zero_add])) ?_))))))))))))
    refine dq 40 2 rfl (lI A_25 Z_25 (Ht rfl) (j:=0) rfl) (dp 5 rfl (cX (Ht rfl)) (dp 7 rfl (cX (Ht rfl)) (dp 9 rfl (cX (Ht rfl)) (dH 43 5 44 6 rfl (dZ U_25 Z_60 (Ht rfl) (Ht rfl) rfl (dY (dU (d:=Qi.zero) zo))) (dq 45 7 rfl (dJ A_60 Z_60 (Ht rfl)) (fV bB rfl (by kernel_rfl) (zF (zF (aJ (aV (ro rfl (dA U_25 Z_60 (Ht rfl) (Ht rfl) rfl (i:=1) rfl (by rw [List.length_map]; omega) rfl) ?_)))))))))))
    refine lZ Z_60 (Ht rfl) (Ht rfl) (El.ag rfl) (i:=1) rfl rfl (by rw [List.length_map]; omega) rfl ?_
    refine eX (bN (kU 0 1 rfl rfl (by decide) (by simp only [cO,List.length_map]; omega) ?_))
    refine cY (ro rfl (dV (Ht rfl) (cJ 1) z6) (rm rfl (eX (cM [0] rfl (by decide) (fU (i + 1) hf2 zo (zS rfl) (aU (eB (by rw [gI,lK,Tj hf2 hd0])) aY))))))
   ·simp only [decide_eq_false_iff_not] at hf2
    obtain rfl:n = i:=Nat.le_antisymm zo hi
    refine gV rfl (bN (cY (ro rfl (dV (Ht rfl) (cJ 1) z6) (rm rfl (eX ?_)))))
    refine fU (k + 1) ⟨hd0, fun j h => by
     by_cases e:j = k
     ·rw [e]; exact he2
     ·exact h0 j zo⟩ zo (zS rfl) (aU (eB (by rw [Yl])) aY)
 ·simp only [decide_eq_false_iff_not] at hd0
  obtain rfl:n = k:=Nat.le_antisymm zo hk
  have hi:=Ti h0
  refine gJ (i:=0) (tt:=4) rfl rfl (qY (s:=5) (M:=sY M n n 0) (rB M n n 0).1.symm) (gV rfl (ts (rm rfl (ra rfl (ro rfl (cQ (cJ 0)) (eX (bL rfl (fX (eU rfl) ?_) (fX (eU rfl) ?_))))))))
  ·exact (jC (by rw [hi,Ym]; rfl))
  ·exact (aT hi.symm)
theorem a5W {M:List (List Qi)} {n L:Nat} (hM:cB M n n) (hf:bA M L) (hL:1 ≤ L) (h1:1 ≤ n) (hn:n ≤ 32) (hg:6 * jQ L n + 4 ≤ 17592186044415) (hx:uG (jQ L n) (n + 1) ≤ 17592186044415):bF Tryz.prog 224 [cH M] (eD [cH (iC (nK M n) (jK M n)),aL .i64 (nK M n)]):=Mi hM (fun i _=>Rz.old hM hf (Gm hL) hL hg hx) hn
theorem a4b {m:Bool} {a b:List (List Qi)} {n i j L M:Nat} (ha:cB a n n) (hb:cB b n n) (hfa:bA a L) (hfb:bA b M) (h1:1 ≤ L) (h2:1 ≤ M) (hg:L + M + 1 ≤ 17592186044415) (hi:i < n) (hj:j < n):bF Tryz.prog 258 [NT .i64 i,NT .i64 j,PT (aI m),PT (cH a),PT (cH b)] (aE (if m = true then gm a i j - gm b i j else gm a i j + gm b i j)):=by
 have hal:=ha.1
 have hbl:=hb.1
 have har:=ha.row hi
 have hbr:=hb.row hi
 haveI f1:aH (gm a i j) L:=hfa.get h1 i j
 haveI f2:aH (gm b i j) M:=hfb.get h2 i j
 refine bF.intro Tryz.func258 rfl Tryz.ntmps258 rfl (fun cx=>(ts (rn rfl (eW (Ts:=[Is (.bool false),Is (.slice none 0 0),Is (.bool false),Is (.slice none 0 0),Is (.slice none 0 0)]) O_60 rfl (fun V=>aW zd (aW zd (aW zd (aW zd (aW zd (aG))))))) fun B7=>(eX (cK (ts (ro rfl (dJ A_4 Z_4 (Ht rfl)) (eX (dQ (Ht rfl) (fun hm=>?_) (fun hm=>?_))))))))))
 ·refine cK (fZ (m := 15) (dp 3 rfl (dJ A_26 Z_26 (Ht rfl)) (dp 0 rfl (cX (Ht rfl)) (dH 9 0 10 1 rfl (dZ U_26 Z_25 (Ht rfl) (Ht rfl) rfl (dY (dU (d := []) zo))) (dq 11 2 rfl (dJ A_25 Z_25 (Ht rfl)) (dp 1 rfl (cX (Ht rfl)) (dH 12 3 13 4 rfl (dZ U_25 Z_60 (Ht rfl) (Ht rfl) rfl (dY (dU (d := Qi.zero) zo))) (dq 14 5 rfl (dJ A_60 Z_60 (Ht rfl)) (dq 15 6 rfl (bE bP (Ht rfl)) (dp 4 rfl (dJ A_26 Z_26 (Ht rfl)) ?_))))))))))
  refine dp 0 rfl (cX (Ht rfl)) (dH 17 8 18 9 rfl (dZ U_26 Z_25 (Ht rfl) (Ht rfl) rfl (dY (dU (d:=[]) zo))) (dq 19 10 rfl (dJ A_25 Z_25 (Ht rfl)) (dp 1 rfl (cX (Ht rfl)) (dH 20 11 21 12 rfl (dZ U_25 Z_60 (Ht rfl) (Ht rfl) rfl (dY (dU (d:=Qi.zero) zo))) (dq 22 13 rfl (dJ A_60 Z_60 (Ht rfl)) (fV bB rfl (by kernel_rfl) (zF (zF (zF (aJ (aJ (aJ (aV ?_)))))))))))))
  refine ro rfl (aR lG K_69 (uO (x:=gm a i j) (y:=gm b i j) (L:=L) (M:=M) hg) (Ht rfl) ⟨(Ht rfl),trivial⟩) (gQ Z_60 (Ht rfl) (Ht rfl) rfl (i:=0) rfl (aK rfl) rfl rfl (eX (fW rfl (fX (fK A_60 Z_60 rfl (i:=0) rfl rfl) ?_))))
  exact (iZ (by rw [if_pos hm]))
 ·refine cU (cK (fZ (m := 15) (dp 3 rfl (dJ A_26 Z_26 (Ht rfl)) (dp 0 rfl (cX (Ht rfl)) (dH 25 0 26 1 rfl (dZ U_26 Z_25 (Ht rfl) (Ht rfl) rfl (dY (dU (d := []) zo))) (dq 27 2 rfl (dJ A_25 Z_25 (Ht rfl)) (dp 1 rfl (cX (Ht rfl)) (dH 28 3 29 4 rfl (dZ U_25 Z_60 (Ht rfl) (Ht rfl) rfl (dY (dU (d := Qi.zero) zo))) (dq 30 5 rfl (dJ A_60 Z_60 (Ht rfl)) (dq 31 6 rfl (bE bP (Ht rfl)) (dp 4 rfl (dJ A_26 Z_26 (Ht rfl)) ?_)))))))))))
  refine dp 0 rfl (cX (Ht rfl)) (dH 33 8 34 9 rfl (dZ U_26 Z_25 (Ht rfl) (Ht rfl) rfl (dY (dU (d:=[]) zo))) (dq 35 10 rfl (dJ A_25 Z_25 (Ht rfl)) (dp 1 rfl (cX (Ht rfl)) (dH 36 11 37 12 rfl (dZ U_25 Z_60 (Ht rfl) (Ht rfl) rfl (dY (dU (d:=Qi.zero) zo))) (dq 38 13 rfl (dJ A_60 Z_60 (Ht rfl)) (fV bB rfl (by kernel_rfl) (zF (zF (zF (aJ (aJ (aJ (aV ?_)))))))))))))
  refine ro rfl (aR lF K_71 (sG (x:=gm a i j) (y:=gm b i j) (L:=L) (M:=M) hg) (Ht rfl) ⟨(Ht rfl),trivial⟩) (gQ Z_60 (Ht rfl) (Ht rfl) rfl (i:=0) rfl (aK rfl) rfl rfl (eX (fW rfl (fX (fK A_60 Z_60 rfl (i:=0) rfl rfl) ?_))))
  exact (iZ (by rw [if_neg (by rw [hm]; decide)]))
theorem Pk {m:Bool} {a b:List (List Qi)} {n L M:Nat} (ha:cB a n n) (hb:cB b n n) (hfa:bA a L) (hfb:bA b M) (h1:1 ≤ L) (h2:1 ≤ M) (hg:L + M + 1 ≤ 17592186044415) (hn:n ≤ 1000):bF Tryz.prog 212 [cH a,cH b,aI m] (cH (pmM m a b n)):=by
 have hal:=ha.1
 refine bF.intro Tryz.func212 rfl Tryz.ntmps212 rfl (fun cx=>(ts (rn rfl (mB (Ht rfl)) fun B3=>(rn rfl (mB (Ht rfl)) fun B4=>(rn rfl (mB (Ht rfl)) fun B5=>(ro rfl (cQ cV) (eX (cK (gJ (i:=0) (tt:=3) rfl rfl gY (gJ (i:=1) (tt:=4) rfl rfl gY (gJ (i:=2) (tt:=5) rfl rfl gY (cY (ro rfl (dJ A_26 Z_26 (Ht rfl)) (ro rfl (dG U_26 (Ht rfl) (by rw [List.length_map,hal])) ?_))))))))))))))
 refine ro rfl (lR (γ:=Fin n × Fin n) (Ts:=fun x=>[NT .i64 x.1.1,NT .i64 x.2.1]) (U:=fun x=>aE (if m = true then gm a x.1.1 x.2.1 - gm b x.1.1 x.2.1 else gm a x.1.1 x.2.1 + gm b x.1.1 x.2.1)) Tryz.call258 (fun x=>a4b ha hb hfa hfb h1 h2 hg x.1.2 x.2.2) ⟨(Ht rfl),(Ht rfl),(Ht rfl),trivial⟩) (ro rfl (cZ K_110 (uY (n:=n) (f:=fun i j=>if m = true then gm a i j - gm b i j else gm a i j + gm b i j) hn) ⟨(Ht rfl),(Ht rfl),trivial⟩) (ra rfl (eX ?_)))
 exact fW rfl (eU rfl)
theorem a1q {Y M:List (List Qi)} {n L:Nat} (hM:cB M n n) (hf:bA M L) (hL:1 ≤ L) (h1:1 ≤ n) (hn:n ≤ 32) (hg:6 * jQ L n + 4 ≤ 17592186044415) (hx:uG (jQ L n) (n + 1) ≤ 17592186044415) (hE:nK M n ≠ 0):bF Tryz.prog 132 [cH Y,cH M] (eD [cH [],aL .i64 5]):=by
 refine bF.intro Tryz.func132 rfl Tryz.ntmps132 rfl (fun cx=>(ts (ro rfl (cQ cV) (ro rfl (cQ (cJ 0)) (eX (ts (rm rfl (ro rfl (cZ Tryz.call224 (a5W hM hf hL h1 hn hg hx) ⟨(Ht rfl),trivial⟩) (rm rfl (ro rfl (dK (Ht rfl) rfl) (ro rfl (dK (Ht rfl) rfl) (ra rfl (ra rfl (eX (cK (ts (rm rfl (ro rfl (fM (Ht rfl) cV) (eX (qA (Ht rfl) (by simp [hE]) ?_))))))))))))))))))))
 refine ts (ro rfl (cQ cV) (ro rfl (cQ (cJ 5)) (eX (bL rfl (fX (eU rfl) ?_) (eU rfl)))))
 exact (fun v V h=>iP v V h)
theorem a40 {z:List Qi} {s:List (List Qi)} {L:Nat} (hs:cB s z.length z.length) (hf:bA s L) (hL:1 ≤ L) (h1:1 ≤ z.length) (hn:z.length ≤ 8) (hg:6 * jQ (L + 2) z.length + 4 ≤ 17592186044415) (hx:uG (jQ (L + 2) z.length) (z.length + 1) ≤ 17592186044415) (hE:nK (pmM true (qP z.length) s z.length) z.length ≠ 0):bF Tryz.prog 114 [dC z s] (eD [cH [],aL .i64 5]):=by
 have hgl:=qH (L + 2) z.length
 have hid:=mY z.length
 have hif:bA (qP z.length) 1:=Ac (Nat.le_refl 1)
 have hpf:bA (pmM true (qP z.length) s z.length) (L + 2):=by have h:=a2N (m:=true) (n:=z.length) hif hf (Nat.le_refl 1) hL; rw [show L + 2 = 1 + L + 1 by omega]; exact h
 refine bF.intro Tryz.func114 rfl Tryz.ntmps114 rfl (fun cx=>(ts (rn rfl (fG (Ht rfl)) fun B1=>(ro rfl (cQ cV) (ro rfl (cQ (cJ 0)) (eX (ts (ro rfl (eZ dS (Ht rfl) rfl) (ro rfl (eY A_25 Z_25 (Ht rfl) (i:=0) rfl rfl) (ro rfl (dG U_25 (Ht rfl) aC) (ro rfl (cZ Tryz.call144 (a3Z (n:=z.length) zo) ⟨(Ht rfl),trivial⟩) (ra rfl (eX (cK (fZ (m:=13) (dp 4 rfl (cX (Ht rfl)) (dp 1 rfl (eZ cT (Ht rfl) rfl) (dq 13 1 rfl (eY A_26 Z_26 (Ht rfl) (i:=0) rfl rfl) ?_))))))))))))))))))
 refine dH 12 0 14 2 rfl (cZ Tryz.call212 (Pk (m:=false) (n:=z.length) (L:=1) (M:=L) hid hs hif hf (Nat.le_refl 1) hL zo zo) ⟨(Ht rfl),(Ht rfl),cV,trivial⟩) (dp 4 rfl (cX (Ht rfl)) (dp 1 rfl (eZ cT (Ht rfl) rfl) (dq 17 5 rfl (eY A_26 Z_26 (Ht rfl) (i:=0) rfl rfl) (dH 16 4 18 6 rfl (cZ Tryz.call212 (Pk (m:=true) (n:=z.length) (L:=1) (M:=L) hid hs hif hf (Nat.le_refl 1) hL zo zo) ⟨(Ht rfl),(Ht rfl),cV,trivial⟩) (dH 15 3 19 7 rfl (cZ Tryz.call132 (a1q (n:=z.length) (L:=L + 2) Hv hpf zo h1 zo hg hx hE) ⟨(Ht rfl),(Ht rfl),trivial⟩) ?_)))))
 refine dq 20 8 rfl (cX (Ht rfl)) (dq 11 9 rfl (dK (Ht rfl) rfl) (dq 11 9 rfl (dK (Ht rfl) rfl) (dq 21 10 rfl (cQ (Ht rfl)) (fV bB rfl (by kernel_rfl) (zF (zF (zF (aJ (aV (ra rfl (eX (cK (ts (rm rfl (ro rfl (fM (Ht rfl) cV) (eX (qA (Ht rfl) (by rfl) ?_)))))))))))))))))
 refine ts (rm rfl (ro rfl (cQ cV) (ra rfl (eX (bL rfl (fX (eU rfl) ?_) (eU rfl))))))
 exact (fun v V h=>iP v V h)
end
section
open Go Go.RowKit
theorem qT (x y:Qi):(x + y).conj = x.conj + y.conj:=Qi.ext' rfl (by show -(x.im + y.im) = -x.im + -y.im; grind)
theorem wL (x y:Qi):(x - y).conj = x.conj - y.conj:=Qi.ext' rfl (by show -(x.im - y.im) = -x.im - -y.im; grind)
theorem jY (x y:Qi):(x * y).conj = x.conj * y.conj:=Qi.ext' (by show x.re * y.re - x.im * y.im = x.re * y.re - -x.im * -y.im; grind) (by show -(x.re * y.im + x.im * y.re) = x.re * -y.im + -x.im * y.re; grind)
theorem mL:(0:Qi).conj = 0:=Qi.ext' rfl (by show -(0:Rat) = 0; grind)
theorem sO:(1:Qi).conj = 1:=Qi.ext' rfl (by show -(0:Rat) = 0; grind)
theorem qU (x:Qi):x.conj.conj = x:=Qi.ext' rfl (by show - -x.im = x.im; grind)
theorem qV (n:Nat) (f:Nat → Qi):(aB n f).conj = aB n fun i=>(f i).conj:=by
 induction n with
 | zero=>exact mL
 | succ n ih=>rw [iX,iX,qT,ih]
theorem iY (n:Nat) (a:Qi) (f:Nat → Qi):aB n (fun k=>a * f k) = a * aB n f:=by
 rw [show a * aB n f = aB n f * a by grind,← iB]; exact aA fun _ _=>by grind
def lC (N:Nat) (p q:Nat → Qi) (C:Nat → Nat → Qi):Qi:=aB N fun a=>aB N fun b=>p a * C a b * (q b).conj
theorem pV {N : Nat} {p q p' q' : Nat → Qi} {C C' : Nat → Nat → Qi} (hp : ∀ a, a < N → p a = p' a) (hq : ∀ a, a < N → q a = q' a) (hC : ∀ a b, a < N → b < N → C a b = C' a b) : lC N p q C = lC N p' q' C' :=
 aA fun a ha=>aA fun b hb=>by rw [hp a ha,hq b hb,hC a b ha hb]
theorem a09 {N:Nat} {p q:Nat → Qi} {C D:Nat → Nat → Qi}:lC N p q (fun a b=>C a b + D a b) = lC N p q C + lC N p q D:=by
 rw [lC,lC,lC,← kI]
 refine aA fun a _=>?_
 rw [← kI]
 exact aA fun b _=>by grind
theorem Cv {N:Nat} {p q:Nat → Qi} {C D:Nat → Nat → Qi}:lC N p q (fun a b=>C a b - D a b) = lC N p q C - lC N p q D:=by
 have h:=a09 (N:=N) (p:=p) (q:=q) (C:=fun a b=>C a b - D a b) (D:=D)
 rw [show (fun a b=>C a b - D a b + D a b) = C from funext fun a=>funext fun b=>by grind] at h
 grind
theorem a0a {N:Nat} {p q:Nat → Qi} {C:Nat → Nat → Qi} {t:Qi}:lC N p q (fun a b=>t * C a b) = t * lC N p q C:=by
 rw [lC,lC,← iY]
 refine aA fun a _=>?_
 rw [← iY]
 exact aA fun b _=>by grind
theorem Cu {N M : Nat} {p q : Nat → Qi} {r : Nat → Nat → Qi} {C : Nat → Nat → Qi} :
  lC N p q (fun a b=>lC M (r a) (r b) C) = lC M (fun u=>aB N fun a=>p a * r a u) (fun u=>aB N fun a=>q a * r a u) C:=by
 have e : ∀ u v, (aB N fun a => p a * r a u) * C u v * (aB N fun b => q b * r b v).conj = aB N fun a => aB N fun b => p a * (r a u * C u v * (r b v).conj) * (q b).conj := fun u v => by
  rw [qV,Qi.mul_assoc',← iB]
  refine aA fun a _=>?_
  rw [show p a * r a u * (C u v * aB N fun i=>(q i * r i v).conj) = (p a * r a u * C u v) * aB N fun i=>(q i * r i v).conj by grind,← iY]
  exact aA fun b _=>by rw [jY]; grind
 have r1 : lC M (fun u => aB N fun a => p a * r a u) (fun u => aB N fun a => q a * r a u) C = aB M fun u => aB M fun v => aB N fun a => aB N fun b => p a * (r a u * C u v * (r b v).conj) * (q b).conj :=
  aA fun u _=>aA fun v _=>e u v
 have l1 : lC N p q (fun a b => lC M (r a) (r b) C) = aB N fun a => aB N fun b => aB M fun u => aB M fun v => p a * (r a u * C u v * (r b v).conj) * (q b).conj := by
  refine aA fun a _=>aA fun b _=>?_
  show p a * (aB M fun u=>aB M fun v=>r a u * C u v * (r b v).conj) * (q b).conj = _
  rw [← iY,← iB]
  refine aA fun u _=>?_
  rw [← iY,← iB]
 rw [r1,l1]
 have s1 : ∀ a, (aB N fun b => aB M fun u => aB M fun v => p a * (r a u * C u v * (r b v).conj) * (q b).conj) = aB M fun u => aB M fun v => aB N fun b => p a * (r a u * C u v * (r b v).conj) * (q b).conj := fun a => by
  rw [iI]
  exact aA fun u _=>iI _ _ _
 rw [aA fun a _=>s1 a,iI]
 refine aA fun u _=>?_
 rw [iI]
theorem kV {N : Nat} {p q : Nat → Qi} {d : Nat → Qi} : lC N p q (fun a b => if a = b then d a else 0) = aB N fun k => p k * d k * (q k).conj := aA fun a ha => by
 rw [bM ha (fun b _ hb=>by show p a * (if a = b then d a else 0) * (q b).conj = 0; rw [if_neg (Ne.symm hb)]; grind)]
 show p a * (if a = a then d a else 0) * (q a).conj = _
 rw [if_pos rfl]
theorem nI {p c:List (List Qi)} {N a b:Nat} (hc:c.length = N) (ha:a < p.length) (hb:b < p.length):gm (xZ p c) a b = lC N (gm p a) (gm p b) (gm c):=by
 rw [xZ,dD ha hb,hc]; rfl
theorem Wl {p c : List (List Qi)} {t : Qi} {N : Nat} (hc : c.length = N) : xZ p (Ii t c N) = Ii t (xZ p c) p.length :=
 fH qS cB.tab fun i hi j hj => by
  rw [nI (c:=Ii t c N) (N:=N) (aF _ _) hi hj,show gm (Ii t (xZ p c) p.length) i j = t * gm (xZ p c) i j from dD hi hj,nI hc hi hj,← a0a]
  exact pV (fun _ _=>rfl) (fun _ _=>rfl) fun a b ha hb=>dD ha hb
theorem Pq {z:List Qi} {i j:Nat} (hi:i < z.length) (hj:j < z.length):gm (Bo z) i j = if i = j then gv z i else 0:=by
 have e : gm (Bo z) i j = gv ((tab z.length fun _ => Qi.zero).set i (gv z i)) j := by
  show gv ((Bo z).getD i []) j = _
  rw [Bo,kJ hi]
 rw [e,sX (by rw [aF]; exact hi)]
 by_cases c:i = j
 ·rw [if_pos c.symm,if_pos c]
 ·rw [if_neg (Ne.symm c),if_neg c,fC hj]; rfl
theorem pT {z:List Qi} {s:List (List Qi)} {i j:Nat} (hs:s.length = z.length) (hi:i < z.length) (hj:j < z.length):gm (lB z s) i j = (if i = j then gv z i else 0) - aB z.length fun k=>gm s i k * gv z k * (gm s j k).conj:=by
 rw [lB,dD hi hj,Pq hi hj,nI (Xd z).1 zo zo,← kV]
 congr 1
 exact pV (fun _ _=>rfl) (fun _ _=>rfl) fun a b ha hb=>Pq ha hb
section
variable {z:List Qi} {S c:List (List Qi)} {js:List (Int × Int)} {N:Nat}
theorem a22 {k:Nat}:k ∈ jnO js ↔ ∃ y,y < 2 * js.length ∧ gq (cL js) (jW y) = k:=by
 rw [jnO]
 constructor
 ·intro h; obtain ⟨y,hy,e⟩:=dN.1 h; exact ⟨y,hy,e⟩
 ·rintro ⟨y,hy,e⟩; exact dN.2 ⟨y,hy,e⟩
theorem a6c {k:Nat}:k ∈ jnO js ↔ k ∈ iL js:=by
 rw [a22,rV]
 constructor
 ·rintro ⟨y,hy,e⟩; exact ⟨jW y,oO hy,e⟩
 ·rintro ⟨y,hy,e⟩; exact ⟨jW y,oO hy,by rw [sA]; exact e⟩
theorem rA {i k:Nat} (hk:k ∉ iL js):sH S js i k = if k = i then 1 else 0:=by
 rw [sH,if_neg fun h=>hk (a6c.1 (Qc.1 h)),gnB]; rfl
theorem a33 (hj : Jn (cL js) N js.length) {i : Nat} (hi : i < N) (hil : i ∉ iL js) {r v : Nat → Qi} (h1 : ∀ k, k < N → k ∉ iL js → r k = if k = i then 1 else 0) (h2 : ∀ y, y < 2 * js.length → r (gq (cL js) (jW y)) = v y) (F : Nat → Qi) :
  aB N (fun k=>r k * F k) = F i + aB (2 * js.length) fun y=>v y * F (gq (cL js) (jW y)):=by
 have e : ∀ k, k < N → r k * F k = (if k = i then F k else 0) + aB (2 * js.length) fun y => if gq (cL js) (jW y) = k then v y * F k else 0 := fun k hk => by
  by_cases c:k ∈ iL js
  ·obtain ⟨x, hx, e⟩ := rV.1 c
   have hne:¬ k = i:=fun e=>hil (e ▸ c)
   have hp:=oO hx
   rw [if_neg hne, bM (i := jW x) hp (fun y hy hne => if_neg fun e2 => hne (by
    have:=hj.inj _ _ (oO hy) hx (e2.trans e.symm)
    rw [← this,sA])),sA,if_pos e,← h2 (jW x) hp,sA,e]; grind
  ·rw [h1 k hk c, dT fun y hy => if_neg fun e2 => c (rV.2 ⟨jW y, oO hy, e2⟩)]
   by_cases d:k = i
   ·rw [if_pos d,if_pos d]; grind
   ·rw [if_neg d,if_neg d]; grind
 rw [aA e,kI,bM hi (fun k _ hk=>if_neg hk),if_pos rfl,iI]
 congr 1
 exact aA fun y hy => by
  rw [bM (hj.lt (jW y) (oO hy)) (fun k _ hk=>if_neg (Ne.symm hk)),if_pos rfl]
theorem a24 {x:Nat} (hx:x < 2 * js.length) (v:Nat → Qi):aB (2 * js.length) (fun y=>gm (jnT S js) x y * v y) = v x - aB (2 * js.length) fun y=>v y * gm S (gq (cL js) (jW y)) (gq (cL js) x):=by
 have e : ∀ y, y < 2 * js.length → gm (jnT S js) x y * v y = (if y = x then v x else 0) - 1 * (v y * gm S (gq (cL js) (jW y)) (gq (cL js) x)) := fun y hy => by
  have:gm (jnT S js) x y = rdl x y - gm S (gq (cL js) (jW y)) (gq (cL js) x):=dD hx hy
  rw [this,rdl]
  by_cases c:y = x
  ·subst c; rw [if_pos rfl,if_pos rfl,q1]; grind
  ·rw [if_neg c,if_neg (Ne.symm c),show Qi.ofInt 0 = (0:Qi) from rfl]; grind
 rw [aA e,lL,bM hx (fun k _ hk=>if_neg hk),if_pos rfl]; grind
abbrev JK (S:List (List Qi)) (js:List (Int × Int)):Prop:=∀ b,jA (nU S (cL js) (2 * js.length)) b (2 * js.length) = 0
theorem a23 (hk:JK S js) {i x:Nat} (hx:x < 2 * js.length):gv (Qg S js i) x = gm S i (gq (cL js) x) + aB (2 * js.length) fun y=>gv (Qg S js i) y * gm S (gq (cL js) (jW y)) (gq (cL js) x):=by
 have h:=(mE (wZ S js) (Nf hk zo (jnV S js i))).1 x hx
 rw [show gv (jnV S js i) x = gm S i (gq (cL js) x) from fC hx] at h
 have h2:=a24 (S:=S) hx (gv (Qg S js i))
 rw [show iE (jnT S js) (jnV S js i) (2 * js.length) = Qg S js i from rfl] at h
 rw [h] at h2
 grind
theorem Pz (hj : Jn (cL js) N js.length) (hk : JK S js) {i : Nat} (hi : i < N) (hil : i ∉ iL js) (F : Nat → Qi) : aB N (fun k => sH S js i k * F k) = F i + aB (2 * js.length) fun y => gv (Qg S js i) y * F (gq (cL js) (jW y)) :=
 a33 hj hi hil (fun _ _ h=>rA h) (fun _ hy=>a3E hj hk hil hy) F
theorem a4x (hj:Jn (cL js) N js.length) (hk:JK S js) {i:Nat} (hi:i < N) (hil:i ∉ iL js) {x:Nat} (hx:x < 2 * js.length):aB N (fun k=>sH S js i k * gm S k (gq (cL js) x)) = sH S js i (gq (cL js) (jW x)):=by
 rw [Pz hj hk hi hil,a3E hj hk hil hx,a23 hk hx]
theorem a4y (hj:Jn (cL js) N js.length) (hk:JK S js) {i:Nat} (hi:i < N) (hil:i ∉ iL js) (b:Nat):aB N (fun k=>sH S js i k * gm S k b) = xA S (cL js) (2 * js.length) i b:=by
 rw [Pz hj hk hi hil,xA]
 congr 1
 have hM:=nV S (cL js) (2 * js.length)
 have hw:=(mE hM (hk (zA S (cL js) (2 * js.length) b))).1
 have hq : ∀ y, y < 2 * js.length → aB (2 * js.length) (fun x => gv (Qg S js i) x * gm (nU S (cL js) (2 * js.length)) x y) = gm S i (gq (cL js) y) := fun y hy => by
  have h:=(mE (wZ S js) (Nf hk zo (jnV S js i))).1 y hy
  rw [show gv (jnV S js i) y = gm S i (gq (cL js) y) from fC hy] at h
  rw [← h]
  exact aA fun x hx=>by rw [Nd hy hx]; show _ = _ * gv (Qg S js i) x; grind
 have e1 : aB (2 * js.length) (fun y => gv (Qg S js i) y * gm S (gq (cL js) (jW y)) b) = aB (2 * js.length) fun y => aB (2 * js.length) fun k => gv (Qg S js i) y * gm (nU S (cL js) (2 * js.length)) y k * gv (iE (nU S (cL js) (2 * js.length)) (zA S (cL js) (2 * js.length) b) (2 * js.length)) k := aA fun y hy => by
  have h:=hw y hy
  rw [Mz hy] at h
  rw [← h,← iY]
  exact aA fun _ _=>by grind
 rw [e1,iI]
 exact aA fun k hkk=>by rw [iB,hq k hkk]
theorem Yy (G : List Nat) (f : Nat → Qi) : ∀ n, aB n (fun k => if k ∈ G then 0 else f k) = aB (eO G n).length fun a => f (cD (eO G n) a)
 | 0=>rfl
 | n + 1 => by
  rw [iX,Yy G f n,eO]
  by_cases c:n ∈ G
  ·rw [if_pos c,if_pos c,List.append_nil]; grind
  ·rw [if_neg c, if_neg c, List.length_append, show [n].length = 1 from rfl, iX]
   congr 1
   ·exact aA fun a ha=>by simp only [cD,List.getD,List.getElem?_append_left ha]
   ·simp [cD,List.getD]
theorem Cf (hj:Jn (cL js) N js.length) (f:Nat → Qi):aB N f = (aB (eO (iL js) N).length fun a=>f (cD (eO (iL js) N) a)) + aB (2 * js.length) fun y=>f (gq (cL js) y):=by
 rw [← Yy]
 have e : ∀ k, k < N → f k = (if k ∈ iL js then 0 else f k) + aB (2 * js.length) fun y => if gq (cL js) y = k then f k else 0 := fun k hk => by
  by_cases c:k ∈ iL js
  ·obtain ⟨x, hx, e⟩ := rV.1 c
   rw [if_pos c,bM hx (fun y hy hne=>if_neg fun e2=>hne (hj.inj _ _ hy hx (e2.trans e.symm))),if_pos e]; grind
  ·rw [if_neg c,dT fun y hy=>if_neg fun e2=>c (rV.2 ⟨y,hy,e2⟩)]; grind
 rw [aA e,kI]
 congr 1
 rw [iI]
 exact aA fun y hy=>by rw [bM (hj.lt y hy) (fun k _ hk=>if_neg (Ne.symm hk)),if_pos rfl]
theorem Hw (f : Nat → Qi) : ∀ m, aB (2 * m) (fun y => f (jW y)) = aB (2 * m) f
 | 0=>rfl
 | m + 1 => by
  rw [show 2 * (m + 1) = 2 * m + 1 + 1 by omega,iX,iX,iX,iX,Hw f m,show jW (2 * m) = 2 * m + 1 by unfold jW; split <;> omega,show jW (2 * m + 1) = 2 * m by unfold jW; split <;> omega]; grind
theorem oC {G:List Nat} {n a:Nat} (h:a < (eO G n).length):cD (eO G n) a ∉ G:=by
 have : ∀ n x, x ∈ eO G n → x ∉ G := fun n => by
  induction n with
  | zero=>intro x h; cases h
  | succ n ih =>
   intro x h
   rcases List.mem_append.1 h with h1 | h1
   ·exact ih x h1
   ·by_cases c : n ∈ G
    ·rw [if_pos c] at h1; cases h1
    ·rw [if_neg c] at h1; rw [List.mem_singleton.1 h1]; exact c
 refine this n _ ?_
 rw [show cD (eO G n) a = (eO G n)[a] by simp [cD,List.getD,h]]; exact List.getElem_mem h
theorem xC {G:List Nat} {n a:Nat} (h:a < (eO G n).length):cD (eO G n) a < n:=pU (fun _ k=>yJ k) h
theorem Fc (G : List Nat) : ∀ n, (eO G n).Pairwise (· < ·)
 | 0=>List.Pairwise.nil
 | n + 1 => by
  rw [eO,List.pairwise_append]
  refine ⟨Fc G n,?_,fun a ha b hb=>?_⟩
  ·split
   ·exact List.Pairwise.nil
   ·exact List.pairwise_singleton _ _
  ·have := yJ ha
   split at hb
   ·cases hb
   ·rw [List.mem_singleton.1 hb]; exact this
theorem Ch {G:List Nat} {n a b:Nat} (ha:a < (eO G n).length) (hb:b < (eO G n).length) (e:cD (eO G n) a = cD (eO G n) b):a = b:=by
 have hs:=List.pairwise_iff_getElem.1 (Fc G n)
 have e1:∀ i (h:i < (eO G n).length),cD (eO G n) i = (eO G n)[i]:=fun i h=>by simp [cD,List.getD,h]
 rw [e1 a ha,e1 b hb] at e
 rcases Nat.lt_trichotomy a b with c | c | c
 ·have:=hs a b ha hb c; omega
 ·exact c
 ·have:=hs b a hb ha c; omega
theorem Yf {a k:Nat} (ha:a < (eO (iL js) N).length) (hk:k < N):gm (Bx S js N) a k = sH S js (cD (eO (iL js) N) a) k:=by
 rw [Bx,Yd ha,fC hk]
theorem a1w (hS : cB S z.length z.length) (hj : Jn (cL js) z.length js.length) (hk : JK S js) (hz : ∀ y, y < 2 * js.length → gv z (gq (cL js) y) = gv z (gq (cL js) (jW y))) :
  xZ (Bx S js z.length) (lB z S) = lB (rW z js) (zL z S js):=by
 have hl:(Bx S js z.length).length = (eO (iL js) z.length).length:=by rw [Bx,List.length_map]
 have hzl:(rW z js).length = (eO (iL js) z.length).length:=aF _ _
 have hsl:(zL z S js).length = (rW z js).length:=by rw [zL,aF,hzl]; rfl
 refine fH (n:=(eO (iL js) z.length).length) (m:=(eO (iL js) z.length).length) (by rw [← hl]; exact qS) (by rw [← hzl]; exact mD _ _) fun a ha b hb=>?_
 have fa:=oC ha
 have fb:=oC hb
 have la:=xC ha
 have lb:=xC hb
 have hab:a = b ↔ cD (eO (iL js) z.length) a = cD (eO (iL js) z.length) b:=⟨fun e=>e ▸ rfl,Ch ha hb⟩
 rw [nI (N:=z.length) (mD z S).1 zo zo,pT hsl zo zo,hzl]
 have e1:∀ k,k < (eO (iL js) z.length).length → gm (zL z S js) a k = xA S (cL js) (2 * js.length) (cD (eO (iL js) z.length) a) (cD (eO (iL js) z.length) k):=fun k hk=>dD ha hk
 have e2:∀ k,k < (eO (iL js) z.length).length → gm (zL z S js) b k = xA S (cL js) (2 * js.length) (cD (eO (iL js) z.length) b) (cD (eO (iL js) z.length) k):=fun k hk=>dD hb hk
 have e3:∀ k,k < (eO (iL js) z.length).length → gv (rW z js) k = gv z (cD (eO (iL js) z.length) k):=fun k hk=>fC hk
 rw [e3 a ha,aA fun k hk=>by rw [e1 k hk,e2 k hk,e3 k hk]]
 have q0 : lC z.length (gm (Bx S js z.length) a) (gm (Bx S js z.length) b) (gm (lB z S)) = lC z.length (sH S js (cD (eO (iL js) z.length) a)) (sH S js (cD (eO (iL js) z.length) b)) (fun u v => (if u = v then gv z u else 0) - lC z.length (gm S u) (gm S v) (fun x y => if x = y then gv z x else 0)) :=
  pV (fun k hk=>Yf ha hk) (fun k hk=>Yf hb hk) fun u v hu hv=>by rw [pT hS.1 hu hv,kV]
 rw [q0,Cv,kV,Cu,kV]
 generalize hA:cD (eO (iL js) z.length) a = A at *
 generalize hB:cD (eO (iL js) z.length) b = B at *
 rw [Cf hj,Cf hj (fun k=>(aB z.length fun a_1=>sH S js A a_1 * gm S a_1 k) * gv z k * (aB z.length fun a_1=>sH S js B a_1 * gm S a_1 k).conj)]
 have p1 : aB (eO (iL js) z.length).length (fun k => sH S js A (cD (eO (iL js) z.length) k) * gv z (cD (eO (iL js) z.length) k) * (sH S js B (cD (eO (iL js) z.length) k)).conj) = if a = b then gv z A else 0 := by
  rw [bM ha (fun k hk hne => by
   rw [rA (oC hk),if_neg fun e=>hne (Ch hk ha (e.trans hA.symm))]; grind),hA,rA fa,if_pos rfl,rA fa]
  by_cases c:a = b
  ·rw [if_pos c,if_pos (hab.1 c),sO]; grind
  ·rw [if_neg c,if_neg fun e=>c (hab.2 e),mL]; grind
 have p2 : aB (2 * js.length) (fun y => (aB z.length fun k => sH S js A k * gm S k (gq (cL js) y)) * gv z (gq (cL js) y) * (aB z.length fun k => sH S js B k * gm S k (gq (cL js) y)).conj) = aB (2 * js.length) fun y => sH S js A (gq (cL js) y) * gv z (gq (cL js) y) * (sH S js B (gq (cL js) y)).conj := by
  rw [← Hw (fun y=>sH S js A (gq (cL js) y) * gv z (gq (cL js) y) * (sH S js B (gq (cL js) y)).conj)]
  exact aA fun y hy=>by rw [a4x hj hk la fa hy,a4x hj hk lb fb hy,hz y hy]
 have p3 : aB (eO (iL js) z.length).length (fun k => (aB z.length fun u => sH S js A u * gm S u (cD (eO (iL js) z.length) k)) * gv z (cD (eO (iL js) z.length) k) * (aB z.length fun u => sH S js B u * gm S u (cD (eO (iL js) z.length) k)).conj) = aB (eO (iL js) z.length).length fun k => xA S (cL js) (2 * js.length) A (cD (eO (iL js) z.length) k) * gv z (cD (eO (iL js) z.length) k) * (xA S (cL js) (2 * js.length) B (cD (eO (iL js) z.length) k)).conj :=
  aA fun k _=>by rw [a4y hj hk la fa,a4y hj hk lb fb]
 rw [p1,p2,p3]
 grind
theorem a6b (hd:zK z js = 0) {y:Nat} (hy:y < 2 * js.length):gv z (gq (cL js) y) = gv z (gq (cL js) (jW y)):=by
 have key : ∀ k, k < js.length → gv z (gq (cL js) (2 * k)) = gv z (gq (cL js) (2 * k + 1)) := fun k hk => by
  obtain ⟨_,_,e⟩:=Kf (gM hd k hk)
  rw [(a3I hk).1,(a3I hk).2]; exact e
 have h:=key (y / 2) zo
 by_cases c:y % 2 = 0
 ·rw [show jW y = 2 * (y / 2) + 1 by unfold jW; rw [if_pos c]; omega,← h]; congr 2; omega
 ·rw [show jW y = 2 * (y / 2) by unfold jW; rw [if_neg c]; omega,h]; congr 2; omega
theorem a4T (hS:cB S z.length z.length) (hE:vF z S js = 0) (hl:z.length ≤ 8) {t:Qi}:njC z S (Ii t (lB z S) z.length) js = Ii t (lB (tV z S js) (Cd z S js)) (tV z S js).length:=by
 obtain ⟨hd,hj6,hk,hne⟩:=Cn hE hl
 rw [njC,tV,Cd,iC,iC,iC,if_pos hE,if_pos hE,if_pos hE]
 by_cases h0:js.length = 0
 ·obtain rfl : js = [] := List.length_eq_zero_iff.1 h0
  rw [if_pos h0,if_pos h0,a1U Ld]
 ·rw [if_neg h0, if_neg h0, Wl (mD z S).1, a1w hS (Ce hd) hk fun y hy => a6b hd hy]
  congr 1
  rw [Bx,List.length_map,rW,mF,aF]; rfl
theorem zY {z zb:List Qi} {k:Nat} (h:k < z.length):gv (z ++ zb) k = gv z k:=by simp only [gv,List.getD,List.getElem?_append_left h]
theorem zZ {z zb:List Qi} {k:Nat}:gv (z ++ zb) (z.length + k) = gv zb k:=by simp only [gv,List.getD,List.getElem?_append_right (Nat.le_add_right _ _),Nat.add_sub_cancel_left]
theorem Zz {z zb:List Qi} {a b:List (List Qi)} (ha:a.length = z.length) (hb:b.length = zb.length):lB (z ++ zb) (rG a b z.length zb.length) = rG (lB z a) (lB zb b) z.length zb.length:=by
 have hl:(z ++ zb).length = z.length + zb.length:=List.length_append
 refine fH (n:=z.length + zb.length) (m:=z.length + zb.length) (by rw [← hl]; exact mD _ _) (oJ _ _ _ _) fun i hi j hj=>?_
 have g1:∀ i k,i < z.length → k < z.length → gm (rG a b z.length zb.length) i k = gm a i k:=fun i k h1 h2=>by rw [iQ zo zo,if_pos h1,if_pos h2]
 have g2:∀ i k,i < z.length → k < zb.length → gm (rG a b z.length zb.length) i (z.length + k) = 0:=fun i k h1 h2=>by rw [iQ zo zo,if_pos h1,if_neg zo]; rfl
 have g3:∀ i k,i < zb.length → k < z.length → gm (rG a b z.length zb.length) (z.length + i) k = 0:=fun i k h1 h2=>by rw [iQ zo zo,if_neg zo,if_neg zo]; rfl
 have g4:∀ i k,i < zb.length → k < zb.length → gm (rG a b z.length zb.length) (z.length + i) (z.length + k) = gm b i k:=fun i k h1 h2=>by rw [iQ zo zo,if_neg zo,if_pos zo,Nat.add_sub_cancel_left,Nat.add_sub_cancel_left]
 rw [pT (by rw [(oJ _ _ _ _).1,hl]) zo zo,hl,rI]
 by_cases ci:i < z.length
 ·by_cases cj : j < z.length
  ·rw [iQ hi hj, if_pos ci, if_pos cj, pT ha ci cj, zY ci, dT (m := zb.length) fun k hk => by rw [g2 i k ci hk]; grind]
   rw [aA fun k hk=>by rw [g1 i k ci hk,g1 j k cj hk,zY hk]]; grind
  ·obtain ⟨j', rfl⟩ : ∃ j', j = z.length + j' := ⟨j - z.length, by omega⟩
   rw [iQ hi hj,if_pos ci,if_neg cj,if_neg zo,dT (m:=zb.length) (fun k hk=>by rw [g2 i k ci hk]; grind),dT fun k hk=>by rw [g3 j' k zo hk,mL]; grind]
   show _ = (0:Qi); grind
 ·obtain ⟨i', rfl⟩ : ∃ i', i = z.length + i' := ⟨i - z.length, by omega⟩
  by_cases cj:j < z.length
  ·rw [iQ hi hj, if_neg ci, if_neg zo, if_neg zo, dT (m := z.length) (fun k hk => by rw [g3 i' k zo hk]; grind), dT fun k hk => by rw [g2 j k cj hk, mL]; grind]
   show _ = (0:Qi); grind
  ·obtain ⟨j', rfl⟩ : ∃ j', j = z.length + j' := ⟨j - z.length, by omega⟩
   rw [iQ hi hj,if_neg ci,if_pos (show z.length ≤ z.length + j' by omega),Nat.add_sub_cancel_left,Nat.add_sub_cancel_left,pT hb zo zo,zZ,dT (m:=z.length) fun k hk=>by rw [g3 i' k zo hk]; grind]
   rw [aA fun k hk=>by rw [g4 i' k zo hk,g4 j' k zo hk,zZ]]
   by_cases c:i' = j'
   ·rw [if_pos c,if_pos (show z.length + i' = z.length + j' by omega)]; grind
   ·rw [if_neg c,if_neg (show ¬ z.length + i' = z.length + j' by omega)]; grind
end
end
section
open Go Go.RowKit
section
variable {z w:List Qi} {s:List (List Qi)} {n:Nat}
theorem a5h (hw:w.length = n) {i j:Nat} (hi:i < n) (hj:j < n):gm (Uj z w s) i j = (if i = j then 1 - lJ z w i else 0) + (1 + lJ z w i) * gm s i j:=by
 subst hw
 have e:gm (Uj z w s) i j = mxE (Vd z w) (Ve z w) s i j:=dD hi hj
 rw [e,mxE,Vd,Ve,fC hi,fC hi]; rfl
theorem a0p (hw:w.length = n) {i j:Nat} (hi:i < n) (hj:j < n):gm (yN z w s) i j = (if i = j then 1 + lJ z w i else 0) + (1 - lJ z w i) * gm s i j:=by
 subst hw
 have e:gm (yN z w s) i j = mxE (Ve z w) (Vd z w) s i j:=dD hi hj
 rw [e,mxE,Vd,Ve,fC hi,fC hi]; rfl
theorem Ao (hz:z.length = n) (hw:w.length = n) (h:Ic z w s = 0):w.all eS = true ∧ nK (yN z w s) n = 0 ∧ mV z w s = gR (Uj z w s) (jK (yN z w s) n) n n n ∧ rnZ z w s = w:=by
 have e:=h
 rw [Ic,if_neg zo] at e
 by_cases c:w.all eS = true
 ·rw [if_pos c] at e
  subst hw
  exact ⟨c,Zw e,by rw [mV,iC,if_pos h],by rw [rnZ,iC,if_pos h]⟩
 ·rw [if_neg c] at e; omega
end
end
section
open Go Go.RowKit
section
variable {z w:List Qi} {s c:List (List Qi)} {n:Nat}
def Fe (z w:List Qi) (S:List (List Qi)) (i k:Nat):Qi:=if i = k then (1 + lJ z w k) * Ab - gm S i k * ((1 - lJ z w k) * Ab) else -(gm S i k * ((1 - lJ z w k) * Ab))
def nrM (z w:List Qi) (S:List (List Qi)) (n:Nat):List (List Qi):=tab n fun i=>tab n fun k=>Fe z w S i k
theorem Zj {S:List (List Qi)} {i k:Nat}:Fe z w S i k = (if i = k then (1 + lJ z w k) * Ab else 0) - gm S i k * ((1 - lJ z w k) * Ab):=by
 unfold Fe
 by_cases e:i = k
 ·rw [if_pos e,if_pos e]
 ·rw [if_neg e,if_neg e]; grind
theorem Qp (z w:List Qi) (S:List (List Qi)) (n:Nat):cB (nrM z w S n) n n:=cB.tab
theorem Zk {S:List (List Qi)} {i k:Nat} (hi:i < n) (hk:k < n):gm (nrM z w S n) i k = Fe z w S i k:=dD hi hk
theorem a5k (hz:z.length = n) (hw:w.length = n) (h:Ic z w s = 0) {i j:Nat} (hi:i < n) (hj:j < n):(aB n fun u=>gm (mV z w s) i u * gm (yN z w s) u j) = gm (Uj z w s) i j:=by
 obtain ⟨hq,hiB,hS,-⟩:=Ao hz hw h
 have hBs:cB (yN z w s) n n:=by rw [← hw]; exact xF _ _ _ _
 have l:=Yn hBs hiB
 have e1:∀ u,u < n → gm (mV z w s) i u = aB n fun v=>gm (Uj z w s) i v * gm (jK (yN z w s) n) v u:=fun u hu=>by rw [hS,jR hi hu]
 have e2:∀ v,v < n → (aB n fun u=>gm (jK (yN z w s) n) v u * gm (yN z w s) u j) = if v = j then 1 else 0:=fun v hv=>by rw [← jR hv hj,l,uP hv hj]
 have e3 : ∀ u, u < n → gm (mV z w s) i u * gm (yN z w s) u j = aB n fun v => gm (Uj z w s) i v * (gm (jK (yN z w s) n) v u * gm (yN z w s) u j) := fun u hu => by
  rw [e1 u hu,← iB]; exact aA fun v _=>by grind
 rw [aA e3,iI]
 have e4:∀ v,v < n → (aB n fun u=>gm (Uj z w s) i v * (gm (jK (yN z w s) n) v u * gm (yN z w s) u j)) = gm (Uj z w s) i v * (if v = j then 1 else 0):=fun v hv=>by rw [iY,e2 v hv]
 rw [aA e4,bM hj (fun v _ hne=>by rw [if_neg hne]; grind),if_pos rfl]; grind
theorem a6t (hz : z.length = n) (hw : w.length = n) (h : Ic z w s = 0) {i j : Nat} (hi : i < n) (hj : j < n) :
  (aB n fun u=>gm (mV z w s) i u * ((1 - lJ z w u) * gm s u j)) = (if i = j then 1 - lJ z w i else 0) + (1 + lJ z w i) * gm s i j - gm (mV z w s) i j * (1 + lJ z w j):=by
 have a:=a5k hz hw h hi hj
 rw [a5h hw hi hj] at a
 have e : ∀ u, u < n → gm (mV z w s) i u * gm (yN z w s) u j = (if u = j then gm (mV z w s) i u * (1 + lJ z w u) else 0) + gm (mV z w s) i u * ((1 - lJ z w u) * gm s u j) := fun u hu => by
  rw [a0p hw hu hj]
  by_cases k:u = j
  ·rw [if_pos k,if_pos k]; grind
  ·rw [if_neg k,if_neg k]; grind
 rw [aA e,kI,bM hj (fun u _ hne=>if_neg hne),if_pos rfl] at a
 grind
theorem a6S (hz : z.length = n) (hw : w.length = n) (h : Ic z w s = 0) {i j : Nat} (hi : i < n) (hj : j < n) :
  (aB n fun u=>Fe z w (mV z w s) i u * gm s u j) = Ab * (gm (mV z w s) i j * (1 + lJ z w j) - if i = j then 1 - lJ z w i else 0):=by
 have e : ∀ u, u < n → Fe z w (mV z w s) i u * gm s u j = (if u = i then (1 + lJ z w i) * Ab * gm s i j else 0) - Ab * (gm (mV z w s) i u * ((1 - lJ z w u) * gm s u j)) := fun u hu => by
  rw [Zj]
  by_cases k:u = i
  ·subst k; rw [if_pos rfl,if_pos rfl]; grind
  ·rw [if_neg k,if_neg (Ne.symm k)]; grind
 rw [aA e,lL,bM hi (fun u _ hne=>if_neg hne),if_pos rfl,a6t hz hw h hi hj]
 grind
abbrev dl (i k:Nat):Qi:=if i = k then 1 else 0
theorem uF {n:Nat} (f g:Nat → Qi):aB n f - aB n g = aB n fun k=>f k - g k:=by
 rw [aA (f:=fun k=>f k - g k) (g:=fun k=>f k - 1 * g k) (fun k _=>by grind),lL]; grind
theorem a4n {i k:Nat} (e:i = k):dl i k = 1:=if_pos e
theorem a4m {i k:Nat} (e:¬ i = k):dl i k = 0:=if_neg e
theorem o11 (x:Qi):1 * 1 * x = x:=by grind
theorem o10 (x:Qi):1 * 0 * x = 0:=by grind
theorem Pr (i k:Nat):(dl i k).conj = dl i k:=by
 unfold dl
 by_cases e:i = k
 ·rw [if_pos e]; exact sO
 ·rw [if_neg e]; exact mL
theorem Hm {S:List (List Qi)} {i k:Nat}:Fe z w S i k = dl i k * ((1 + lJ z w k) * Ab) - gm S i k * ((1 - lJ z w k) * Ab):=by
 rw [Zj]
 by_cases e:i = k
 ·rw [if_pos e,a4n e]; grind
 ·rw [if_neg e,a4m e]; grind
theorem Qq (hz : z.length = n) (hw : w.length = n) (h : Ic z w s = 0) {i j : Nat} (hi : i < n) (hj : j < n) :
  (aB n fun u=>Fe z w (mV z w s) i u * gm s u j) = Ab * (gm (mV z w s) i j * (1 + lJ z w j) - dl i j * (1 - lJ z w j)):=by
 rw [a6S hz hw h hi hj]
 by_cases e:i = j
 ·rw [if_pos e,a4n e,e]; grind
 ·rw [if_neg e,a4m e]; grind
theorem a4U {a b r x x' y h:Qi} (h4:h * h * 4 = 1):(a * ((1 + r) * h) - x * ((1 - r) * h)) * y * (b * ((1 + r) * h) - x' * ((1 - r) * h)) - (h * (x * (1 + r) - a * (1 - r))) * y * (h * (x' * (1 + r) - b * (1 - r))) = a * b * (r * y) - x * (r * y) * x':=by grind
theorem Kd:Ab * Ab * 4 = 1:=by rw [show Ab * Ab * 4 = (Ab * 2) * (Ab * 2) by grind,a6P]; grind
theorem Wu:Ab.conj = Ab:=by decide +kernel
theorem uA {x:Qi} (h:eS x = true):x.conj = x:=by
 have hb:=a5c h
 have e : x.im = 0 := by
  have h2:=(Gk x).2
  rw [hb] at h2
  have hd : ((x.den : Int) : Rat) ≠ 0 := by
   have:=x.den_pos
   intro k
   have:(x.den:Int) = 0:=by exact_mod_cast k
   omega
  have h3:((x.den:Int):Rat) * x.im = 0:=by rw [h2]; rfl
  rcases Rat.mul_eq_zero.1 h3 with k | k
  ·exact absurd k hd
  ·exact k
 exact Qi.ext' rfl (by show -x.im = x.im; rw [e]; rfl)
theorem Cw (hz:z.length = n) (hw:w.length = n) (hp:z.all eS = true) (hq:w.all eS = true) {k:Nat} (hk:k < n):(lJ z w k).conj = lJ z w k ∧ lJ z w k * gv z k = gv w k:=by
 have hne:=oL hp (show k < z.length by omega)
 have e:=sU (x:=gv w k) hne
 have e2:lJ z w k * gv z k = gv w k:=e
 have pz : eS (gv z k) = true := by
  rw [List.all_eq_true] at hp
  exact hp _ (by rw [show gv z k = z[k]'zo by simp [gv,List.getD,show k < z.length by omega]]; exact List.getElem_mem _)
 have pw : eS (gv w k) = true := by
  rw [List.all_eq_true] at hq
  exact hq _ (by rw [show gv w k = w[k]'zo by simp [gv,List.getD,show k < w.length by omega]]; exact List.getElem_mem _)
 refine ⟨?_,e2⟩
 have c:=congrArg Qi.conj e2
 rw [jY,uA pz,uA pw] at c
 have d:((lJ z w k).conj - lJ z w k) * gv z k = 0:=by grind
 rcases iS d with k1 | k1
 ·grind
 ·exact absurd k1 hne
theorem a4V (hz:z.length = n) (hw:w.length = n) (hs:cB s n n) (hp:z.all eS = true) (h:Ic z w s = 0):xZ (nrM z w (mV z w s) n) (lB z s) = lB w (mV z w s):=by
 obtain ⟨hq,-,hS,-⟩:=Ao hz hw h
 have hS2:cB (mV z w s) n n:=by rw [hS]; exact iA
 have hl:=(Qp z w (mV z w s) n).1
 refine fH (n:=n) (m:=n) (by have:=qS (p:=nrM z w (mV z w s) n) (c:=lB z s); rwa [hl] at this) (by have:=mD w (mV z w s); rwa [hw] at this) fun i hi j hj=>?_
 rw [nI (N:=n) (by rw [(mD z s).1,hz]) zo zo,pT (by rw [hS2.1,hw]) zo zo,hw]
 have q0 : lC n (gm (nrM z w (mV z w s) n) i) (gm (nrM z w (mV z w s) n) j) (gm (lB z s)) = lC n (Fe z w (mV z w s) i) (Fe z w (mV z w s) j) (fun u v => (if u = v then gv z u else 0) - lC n (gm s u) (gm s v) (fun x y => if x = y then gv z x else 0)) :=
  pV (fun k hk=>Zk hi hk) (fun k hk=>Zk hj hk) fun u v hu hv=>by rw [pT (by rw [hs.1,hz]) zo zo,hz,kV]
 rw [q0,Cv,kV,Cu,kV]
 have t : ∀ k, k < n → Fe z w (mV z w s) i k * gv z k * (Fe z w (mV z w s) j k).conj - (aB n fun a => Fe z w (mV z w s) i a * gm s a k) * gv z k * (aB n fun a => Fe z w (mV z w s) j a * gm s a k).conj
   = dl i k * dl j k * gv w k - gm (mV z w s) i k * gv w k * (gm (mV z w s) j k).conj:=fun k hk=>by
  obtain ⟨rc,re⟩:=Cw hz hw hp hq hk
  rw [Qq hz hw h hi hk,Qq hz hw h hj hk,Hm,Hm]
  simp only [wL,jY,qT,sO,Pr,rc,Wu]
  rw [a4U Kd,re]
 rw [uF,aA t,← uF,bM hi (fun k _ hne=>by rw [show dl i k = 0 from if_neg (Ne.symm hne)]; grind),show dl i i = 1 from if_pos rfl]
 congr 1
 by_cases k:i = j
 ·rw [if_pos k,a4n k.symm,o11]
 ·rw [if_neg k,a4m (Ne.symm k),o10]
end
section
variable {z:List Qi} {s:List (List Qi)} {n:Nat}
def Cr (z:List Qi) (s:List (List Qi)) (i k m:Nat):Qi:=(if i = k then 1 / gv z i else 0) - aB m fun m=>(gm s m i).conj * gm s m k / gv z m
def Lt (z:List Qi) (s:List (List Qi)):List (List Qi):=tab z.length fun i=>tab z.length fun k=>Cr z s i k z.length
def Qm (z:List Qi) (s:List (List Qi)):Bool:=(Lt z s).all fun r=>!r.any fun x=>!decide (x = 0)
end
section
variable {z:List Qi} {s:List (List Qi)} {l:List Int}
theorem Cb : ∀ (n : Nat) (q : Nat → Nat), (∀ i, i < n → q i < n) → (∀ i j, i < n → j < n → q i = q j → i = j) → ∀ k, k < n → ∃ i, i < n ∧ q i = k
 | 0,_,_,_,k,hk=>by omega
 | n + 1, q, hq, hi, k, hk => by
  have hqn:=hq n zo
  obtain ⟨hlt, hinj⟩ : (∀ i, i < n → (if q i = n then q n else q i) < n) ∧ ∀ i j, i < n → j < n → (if q i = n then q n else q i) = (if q j = n then q n else q j) → i = j := by
   constructor
   ·intro i h
    have a:=hq i zo
    by_cases c:q i = n
    ·rw [if_pos c]
     have:q n ≠ n:=fun e=>by have:=hi i n zo zo (c.trans e.symm); omega
     omega
    ·rw [if_neg c]; omega
   ·intro i j h1 h2 e
    by_cases c:q i = n
    ·by_cases d : q j = n
     ·exact hi i j zo zo (c.trans d.symm)
     ·rw [if_pos c, if_neg d] at e
      have:=hi n j zo zo e; omega
    ·by_cases d : q j = n
     ·rw [if_neg c, if_pos d] at e
      have:=hi i n zo zo e; omega
     ·rw [if_neg c,if_neg d] at e; exact hi i j zo zo e
  by_cases c:k = q n
  ·exact ⟨n,by omega,c.symm⟩
  ·by_cases d : k = n
   ·subst d
    obtain ⟨i,h1,h2⟩:=Cb k _ hlt hinj (q k) zo
    by_cases e:q i = k
    ·exact ⟨i,by omega,e⟩
    ·rw [if_neg e] at h2
     have:=hi i k zo zo h2; omega
   ·obtain ⟨i, h1, h2⟩ := Cb n _ hlt hinj k zo
    by_cases e:q i = n
    ·rw [if_pos e] at h2; exact absurd h2.symm c
    ·rw [if_neg e] at h2; exact ⟨i,by omega,h2⟩
theorem a00 {Q:List Nat} {n:Nat} (hl:Q.length = n) (hlt:∀ x,x ∈ Q → x < n) (hinj:∀ i j,i < n → j < n → cD Q i = cD Q j → i = j) (f:Nat → Qi):(aB n fun i=>f (cD Q i)) = aB n f:=by
 have hq:∀ i,i < n → cD Q i < n:=fun i hi=>pU hlt zo
 have e1 : (aB n fun i => f (cD Q i)) = aB n fun i => aB n fun k => if cD Q i = k then f k else 0 := aA fun i hi => by
  rw [bM (hq i hi) (fun k _ hne=>if_neg (Ne.symm hne)),if_pos rfl]
 rw [e1,iI]
 exact aA fun k hk => by
  obtain ⟨i,hi,e2⟩:=Cb n (cD Q) hq hinj k hk
  rw [bM hi (fun j hj hne=>if_neg fun e3=>hne (hinj j i hj hi (e3.trans e2.symm))),if_pos e2]
end
section
variable {z:List Qi} {s:List (List Qi)} {g t:Qi} {p n:Nat}
end
end
section
open Go Go.RowKit
theorem Ct {z:List Qi} {s:List (List Qi)} {i k:Nat}:Cr z s i k 0 = if i = k then Qi.ofInt 1 / gv z i else Qi.zero:=by
 have e:Cr z s i k 0 = (if i = k then 1 / gv z i else 0) - 0:=rfl
 rw [e,show (if i = k then 1 / gv z i else (0:Qi)) - 0 = if i = k then 1 / gv z i else 0 by grind]; rfl
theorem Kw {z:List Qi} {s:List (List Qi)} {i k m:Nat}:Cr z s i k (m + 1) = Cr z s i k m - (gm s m i).conj * gm s m k / gv z m:=by
 unfold Cr
 rw [show (aB (m + 1) fun m=>(gm s m i).conj * gm s m k / gv z m) = (aB m fun m=>(gm s m i).conj * gm s m k / gv z m) + (gm s m i).conj * gm s m k / gv z m from rfl]
 grind
theorem Hx {z : List Qi} {s : List (List Qi)} {i k L : Nat} (hz : bH z L) (hs : bA s L) (hL : 1 ≤ L) (hp : z.all eS = true) (hi : i < z.length) : ∀ {m : Nat}, m ≤ z.length → aH (Cr z s i k m) (1 + 3 * L + 2 + m * (6 * L + 5))
 | 0, _ => by
  rw [Ct]
  split
  ·exact (nS jH (hz.get hL i) (oL hp hi)).le zo
  ·exact aH.zero zo
 | m + 1, hm => by
  rw [Kw]
  haveI f1:=Hx (k:=k) hz hs hL hp hi (m:=m) zo
  haveI f2:aH (gm s m i) L:=hs.get hL m i
  haveI f3:aH (gm s m k) L:=hs.get hL m k
  haveI f4:aH (gm s m i).conj L:=fitConj
  haveI f5:aH ((gm s m i).conj * gm s m k) (L + L + 1):=fitMul
  haveI f6:aH ((gm s m i).conj * gm s m k / gv z m) (L + L + 1 + 3 * L + 2):=nS f5 (hz.get hL m) (oL hp zo)
  exact (fitSub (x:=Cr z s i k m) (y:=(gm s m i).conj * gm s m k / gv z m) (L:=1 + 3 * L + 2 + m * (6 * L + 5)) (M:=L + L + 1 + 3 * L + 2)).le (by rw [Nat.succ_mul m]; omega)
theorem Rd {z : List Qi} {s : List (List Qi)} {L : Nat} (hz : bH z L) (hs : bA s L) (hL : 1 ≤ L) (hp : z.all eS = true) (h8 : z.length ≤ 8) : bA (Lt z s) (51 * L + 43) := bA.tab fun i k hi _ => (Hx hz hs hL hp hi (Nat.le_refl _)).le (by
 have:z.length * (6 * L + 5) ≤ 8 * (6 * L + 5):=Nat.mul_le_mul_right _ h8
 omega)
theorem Re (z:List Qi) (s:List (List Qi)):cB (Lt z s) z.length z.length:=cB.tab
theorem Vq {M:List (List Qi)} {n:Nat} (h:M.length = n) (k:∀ j,j < n → ((M.getD j []).any fun x=>!decide (x = 0)) = false):(M.all fun r=>!r.any fun x=>!decide (x = 0)) = true:=by
 rw [List.all_eq_true]; intro r hr
 obtain ⟨j,hj,e⟩:=List.getElem_of_mem hr
 have:=k j zo
 rw [show M.getD j [] = r by simp [List.getD,hj,e]] at this
 rw [this]; rfl
theorem Zi {M:List (List Qi)} {j:Nat} (h:j < M.length) (k:((M.getD j []).any fun x=>!decide (x = 0)) = true):(M.all fun r=>!r.any fun x=>!decide (x = 0)) = false:=by
 rw [List.all_eq_false]
 refine ⟨M[j],List.getElem_mem h,?_⟩
 rw [show M.getD j [] = M[j] by simp [List.getD,h]] at k
 rw [k]; simp
theorem a49 {z:List Qi} {s:List (List Qi)} {n i k L:Nat} (hz:bH z L) (hs:bA s L) (hL:1 ≤ L) (hLb:L ≤ 100000000000) (hp:z.all eS = true) (hsh:cB s z.length z.length) (hn:n = z.length) (h8:n ≤ 8) (hi:i < n) (hk:k < n):bF Tryz.prog 198 [NT .i64 i,NT .i64 k,PT (dC z s)] (aE (Cr z s i k n)):=by
 have hsl:=hsh.1
 haveI f0:=jH
 haveI f1:aH (gv z i) L:=hz.get hL i
 refine bF.intro Tryz.func198 rfl Tryz.ntmps198 rfl (fun cx=>(ts (rn rfl (eW (Ts:=[Is (.bool false),Is (.slice none 0 0),Is (.bool false),Is (.slice none 0 0),Is (.slice none 0 0)]) O_60 rfl (fun V=>aW zd (aW zd (aW zd (aW zd (aW zd (aG))))))) fun B5=>(eX (ts (ro rfl (aM.imp (wJ ) rE) (rn rfl (eW (Ts:=[Is (.bool false),Is (.slice none 0 0),Is (.bool false),Is (.slice none 0 0),Is (.slice none 0 0)]) O_60 rfl (fun V=>aW zd (aW zd (aW zd (aW zd (aW zd (aG))))))) fun B6=>?_)))))))
 refine gQ Z_60 (Ht rfl) (Ht rfl) rfl (i:=1) rfl (aK rfl) rfl rfl (eX (cK (cM [0,1] rfl (by decide) (kQ (fun (x:Qi)=>x = Cr z s i k 0) (fun (x:Qi)=>[(0,NT .i64 i),(1,NT .i64 k),(2,PT (dC z s)),(5,cA B5 0),(6,cA B6 0)]) (fun (x:Qi)=>[box B5 60 [Is (.bool false),Is (.slice none 0 0),Is (.bool false),Is (.slice none 0 0),Is (.slice none 0 0)],box B6 60 [aI (decide (x.a < 0)),aS x.a.natAbs,aI (decide (x.b < 0)),aS x.b.natAbs,aS (du x)]]) ?_ (fun x hx=>?_)))))
 ·refine ts (rm rfl (rm rfl (ro rfl (eC (Ht rfl) (Ht rfl)) (eX (dQ (Ht rfl) (fun hb => ?_) (fun hb => ?_))))))
  ·have hij : i = k := by simpa using hb
   refine Y.D_start (m:=11) [(10,1,box B6 60 [aI (decide ((Qi.ofInt 1 / gv z i).a < 0)),aS (Qi.ofInt 1 / gv z i).a.natAbs,aI (decide ((Qi.ofInt 1 / gv z i).b < 0)),aS (Qi.ofInt 1 / gv z i).b.natAbs,aS (du (Qi.ofInt 1 / gv z i))])] (Y.D_step (Ei:=[]) rfl rfl bX rfl rfl (by kernel_rfl) (dX rfl (cZ K_52 (Bg (n:=1) (by decide) (by decide)) ⟨(cJ 1),trivial⟩)) (Y.D_step (Ei:=[(2,_)]) rfl rfl (bQ (bJ rfl rfl) bX) rfl rfl (by kernel_rfl) (dX rfl (gO dS (Ht rfl) rfl)) (Y.D_step (Ei:=[(16,_)]) rfl rfl (bQ (bZ 1 rfl rfl) bX) rfl rfl (by kernel_rfl) (dX rfl (dJ A_25 Z_25 (Ht rfl))) ?_)))
   refine Y.D_step (Ei:=[(0,_)]) rfl rfl (bQ (bJ rfl rfl) bX) rfl rfl (by kernel_rfl) (dX rfl (cX (Ht rfl))) (Y.D_step (Ei:=[(17,_),(18,_)]) rfl rfl (bQ (bZ 2 rfl rfl) (bQ (bZ 3 rfl rfl) bX)) rfl rfl (by kernel_rfl) (dX rfl (dZ U_25 Z_60 (Ht rfl) (Ht rfl) rfl (dY (dU (d:=Qi.zero) zo)))) (Y.D_step (Ei:=[(19,_)]) rfl rfl (bQ (bZ 4 rfl rfl) bX) rfl rfl (by kernel_rfl) (dX rfl (dJ A_60 Z_60 (Ht rfl))) (Y.D_step (Ei:=[(15,_),(20,_)]) rfl rfl (bQ (bZ 0 rfl rfl) (bQ (bZ 5 rfl rfl) bX)) rfl rfl (by kernel_rfl) (dX rfl (cZ K_64 (qR (x:=Qi.ofInt 1) (y:=gv z i) (L:=1) (M:=L) zo) ⟨(Ht rfl),(Ht rfl),trivial⟩)) ?_)))
   refine Y.D_step (Ei:=[(21,_)]) rfl rfl (bQ (bZ 6 rfl rfl) bX) rfl rfl (by kernel_rfl) (dX rfl (cX (Ht rfl))) (Y.D_step (Ei:=[(14,_)]) rfl rfl (bQ (bZ 7 rfl rfl) bX) rfl rfl (by kernel_rfl) (dX rfl (dK (Ht rfl) rfl)) (bY (Ei:=[(14,_)]) rfl rfl (bQ (bZ 7 rfl rfl) bX) rfl rfl (dX rfl (dK (Ht rfl) rfl)) (Y.D_putI (Ei:=[(6,_),(22,_)]) 1 rfl rfl rfl (bQ (bJ rfl rfl) (bQ (bZ 8 rfl rfl) bX)) (.head _) rfl (mK Z_60 (Ht rfl) (Ht rfl) rfl (i:=0) rfl (aK rfl) rfl rfl) ?_)))
   refine Y.D_done bB rfl (by kernel_rfl) rfl (by simp [Y.okP]) rfl rfl (bU (bU (bU (bU (bU (bU (bU (bU (bU (bU (Y.F_putI (Y.F_nil ?_))))))))))))
   refine eX (bD (Qi.ofInt 1 / gv z i) (by rw [Ct,if_pos hij]) (zS rfl) (aU (aD rfl) (aU (aD rfl) aY)))
  ·have hij : ¬ i = k := by simpa using hb
   refine cU (bD Qi.zero (by rw [Ct,if_neg hij]) (zS rfl) (aU (aD rfl) (aU (aD rfl) aY)))
 ·subst hx
  refine cK (ts (ro rfl (gO cT (Ht rfl) rfl) (ro rfl (dJ A_26 Z_26 (Ht rfl)) (ro rfl (dG U_26 (Ht rfl) (by rw [List.length_map,hsl])) ?_))))
  refine ro rfl (cX (cJ 0)) (eX (eG ?_))
  refine cI (fun (m : Nat) => m ≤ n) (fun (m : Nat) => n - m) (fun (m : Nat) => [(0, NT .i64 i), (1, NT .i64 k), (2, PT (dC z s)), (5, cA B5 0), (6, cA B6 0), (26, NT .i64 n), (27, NT .i64 m)]) (fun (m : Nat) => [box B5 60 [Is (.bool false), Is (.slice none 0 0), Is (.bool false), Is (.slice none 0 0), Is (.slice none 0 0)], box B6 60 [aI (decide ((Cr z s i k m).a < 0)), aS (Cr z s i k m).a.natAbs, aI (decide ((Cr z s i k m).b < 0)), aS (Cr z s i k m).b.natAbs, aS (du (Cr z s i k m))]]) 0 (Nat.zero_le _)
   (aQ rfl (aQ rfl (aQ rfl (aQ rfl (aQ rfl (aZ rfl (nB hn.symm) (zS rfl))))))) (aU (aD rfl) (aU (aD rfl) aY)) (fun m hm=>?_)
  refine ts (ro rfl (gX (Ht rfl) (Ht rfl)) (eX (cK (dQ (Ht rfl) (fun hd=>?_) (fun hd=>?_)))))
  ·have hmn : m < n := by simp only [decide_eq_true_eq] at hd; omega
   have hsr:=hsh.row (i:=m) zo
   haveI f2:aH (gm s m i) L:=hs.get hL m i
   haveI f3:aH (gm s m k) L:=hs.get hL m k
   haveI f4:aH (gv z m) L:=hz.get hL m
   haveI f5:aH (gm s m i).conj L:=fitConj
   haveI f6:aH ((gm s m i).conj * gm s m k) (L + L + 1):=fitMul
   haveI f7:aH ((gm s m i).conj * gm s m k / gv z m) (L + L + 1 + 3 * L + 2):=nS f6 f4 (oL hp zo)
   have f8:=Hx (k:=k) hz hs hL hp (show i < z.length by omega) (m:=m) zo
   haveI f9 : aH (Cr z s i k m) (100 * L + 100) := f8.le (by
    have:m * (6 * L + 5) ≤ 8 * (6 * L + 5):=Nat.mul_le_mul_right _ zo
    omega)
   refine cU (cK (eG (ts (rm rfl (ra rfl (eX (cK (Y.D_start (m:=29) [] (bY (Ei:=[(2,_)]) rfl rfl (bQ (bJ rfl rfl) bX) rfl rfl (dX rfl (gO cT (Ht rfl) rfl)) (bY (Ei:=[(31,_)]) rfl rfl (bQ (bZ 0 rfl rfl) bX) rfl rfl (dX rfl (dJ A_26 Z_26 (Ht rfl))) (bY (Ei:=[(7,_)]) rfl rfl (bQ (bJ rfl rfl) bX) rfl rfl (dX rfl (cX (Ht rfl))) (bY (Ei:=[(32,_),(33,_)]) rfl rfl (bQ (bZ 1 rfl rfl) (bQ (bZ 2 rfl rfl) bX)) rfl rfl (dX rfl (dZ U_26 Z_25 (Ht rfl) (Ht rfl) rfl (dY (dU (d:=[]) zo)))) ?_))))))))))))
   refine bY (Ei:=[(34,_)]) rfl rfl (bQ (bZ 3 rfl rfl) bX) rfl rfl (dX rfl (dJ A_25 Z_25 (Ht rfl))) (bY (Ei:=[(0,_)]) rfl rfl (bQ (bJ rfl rfl) bX) rfl rfl (dX rfl (cX (Ht rfl))) (bY (Ei:=[(35,_),(36,_)]) rfl rfl (bQ (bZ 4 rfl rfl) (bQ (bZ 5 rfl rfl) bX)) rfl rfl (dX rfl (dZ U_25 Z_60 (Ht rfl) (Ht rfl) rfl (dY (dU (d:=Qi.zero) zo)))) (bY (Ei:=[(37,_)]) rfl rfl (bQ (bZ 6 rfl rfl) bX) rfl rfl (dX rfl (dJ A_60 Z_60 (Ht rfl))) ?_)))
   refine bY (Ei:=[(38,_)]) rfl rfl (bQ (bZ 7 rfl rfl) bX) rfl rfl (dX rfl (cZ Tryz.call173 Vx ⟨(Ht rfl),trivial⟩)) (bY (Ei:=[(2,_)]) rfl rfl (bQ (bJ rfl rfl) bX) rfl rfl (dX rfl (gO cT (Ht rfl) rfl)) (bY (Ei:=[(40,_)]) rfl rfl (bQ (bZ 9 rfl rfl) bX) rfl rfl (dX rfl (dJ A_26 Z_26 (Ht rfl))) (bY (Ei:=[(7,_)]) rfl rfl (bQ (bJ rfl rfl) bX) rfl rfl (dX rfl (cX (Ht rfl))) (bY (Ei:=[(41,_),(42,_)]) rfl rfl (bQ (bZ 10 rfl rfl) (bQ (bZ 11 rfl rfl) bX)) rfl rfl (dX rfl (dZ U_26 Z_25 (Ht rfl) (Ht rfl) rfl (dY (dU (d:=[]) zo)))) ?_))))
   refine bY (Ei:=[(43,_)]) rfl rfl (bQ (bZ 12 rfl rfl) bX) rfl rfl (dX rfl (dJ A_25 Z_25 (Ht rfl))) (bY (Ei:=[(1,_)]) rfl rfl (bQ (bJ rfl rfl) bX) rfl rfl (dX rfl (cX (Ht rfl))) (bY (Ei:=[(44,_),(45,_)]) rfl rfl (bQ (bZ 13 rfl rfl) (bQ (bZ 14 rfl rfl) bX)) rfl rfl (dX rfl (dZ U_25 Z_60 (Ht rfl) (Ht rfl) rfl (dY (dU (d:=Qi.zero) zo)))) (bY (Ei:=[(46,_)]) rfl rfl (bQ (bZ 15 rfl rfl) bX) rfl rfl (dX rfl (dJ A_60 Z_60 (Ht rfl))) ?_)))
   refine bY (Ei:=[(39,_),(47,_)]) rfl rfl (bQ (bZ 8 rfl rfl) (bQ (bZ 16 rfl rfl) bX)) rfl rfl (dX rfl (cZ K_70 (kY (x:=(gm s m i).conj) (y:=gm s m k) (L:=L) (M:=L) zo) ⟨(Ht rfl),(Ht rfl),trivial⟩)) (bY (Ei:=[(2,_)]) rfl rfl (bQ (bJ rfl rfl) bX) rfl rfl (dX rfl (gO dS (Ht rfl) rfl)) (bY (Ei:=[(49,_)]) rfl rfl (bQ (bZ 18 rfl rfl) bX) rfl rfl (dX rfl (dJ A_25 Z_25 (Ht rfl))) (bY (Ei:=[(7,_)]) rfl rfl (bQ (bJ rfl rfl) bX) rfl rfl (dX rfl (cX (Ht rfl))) ?_)))
   refine bY (Ei:=[(50,_),(51,_)]) rfl rfl (bQ (bZ 19 rfl rfl) (bQ (bZ 20 rfl rfl) bX)) rfl rfl (dX rfl (dZ U_25 Z_60 (Ht rfl) (Ht rfl) rfl (dY (dU (d:=Qi.zero) zo)))) (bY (Ei:=[(52,_)]) rfl rfl (bQ (bZ 21 rfl rfl) bX) rfl rfl (dX rfl (dJ A_60 Z_60 (Ht rfl))) (bY (Ei:=[(48,_),(53,_)]) rfl rfl (bQ (bZ 17 rfl rfl) (bQ (bZ 22 rfl rfl) bX)) rfl rfl (dX rfl (cZ K_64 (qR (x:=(gm s m i).conj * gm s m k) (y:=gv z m) (L:=L + L + 1) (M:=L) zo) ⟨(Ht rfl),(Ht rfl),trivial⟩)) ?_))
   refine bY (Ei:=[(54,_)]) rfl rfl (bQ (bZ 23 rfl rfl) bX) rfl rfl (dX rfl (cX (Ht rfl))) (bY (Ei:=[(30,_)]) rfl rfl (bQ (bZ 24 rfl rfl) bX) rfl rfl (dX rfl (dK (Ht rfl) rfl)) (bY (Ei:=[(30,_)]) rfl rfl (bQ (bZ 24 rfl rfl) bX) rfl rfl (dX rfl (dK (Ht rfl) rfl)) (Y.D_newp (Ei:=[]) (fun bb=>box bb 60 [aI (decide (((gm s m i).conj * gm s m k / gv z m).a < 0)),aS ((gm s m i).conj * gm s m k / gv z m).a.natAbs,aI (decide (((gm s m i).conj * gm s m k / gv z m).b < 0)),aS ((gm s m i).conj * gm s m k / gv z m).b.natAbs,aS (du ((gm s m i).conj * gm s m k / gv z m))]) 28 rfl rfl rfl bX rfl rfl (by kernel_rfl) (eW (Ts:=[Is (.bool false),Is (.slice none 0 0),Is (.bool false),Is (.slice none 0 0),Is (.slice none 0 0)]) O_60 rfl (fun V=>aW zd (aW zd (aW zd (aW zd (aW zd (aG))))))) ?_)))
   refine Y.D_putN (Ei:=[(55,_)]) 27 rfl rfl rfl rfl rfl rfl (bQ (bZ 25 rfl rfl) bX) (fun bb=>mK Z_60 (Ht rfl) (Ht rfl) rfl (i:=0) rfl (aK rfl) rfl rfl) (Y.D_done bB rfl (by kernel_rfl) rfl (by simp [Y.okP]) rfl rfl (bU (bU (bU (bU (bU (bU (bU (bU (bU (bU (bU (bU (bU (bU (bU (bU (bU (bU (bU (bU (bU (bU (bU (bU (bU (bU (bU (Y.F_newp (fun B8=>Y.F_putN (Y.F_nil ?_)))))))))))))))))))))))))))))))
   refine ra rfl (eX (cY (ro rfl (eJ A_60 Z_60 (Ht rfl) (i:=1) rfl rfl rfl) (ro rfl (eJ A_60 Z_60 (Ht rfl) (i:=2) rfl rfl rfl) (ro rfl (cZ K_69 (uO (x:=Cr z s i k m) (y:=((gm s m i).conj * gm s m k / gv z m)) (L:=100 * L + 100) (M:=L + L + 1 + 3 * L + 2) zo) ⟨(Ht rfl),(Ht rfl),trivial⟩) (gQ Z_60 (Ht rfl) (Ht rfl) rfl (i:=1) rfl (aK rfl) rfl rfl (eX (bN (cY (ro rfl (dV (Ht rfl) (cJ 1) z6) ?_))))))))))
   refine rm rfl (eX (cM [0,1] rfl (by decide) (fU (m + 1) hmn zo (zS rfl) (aU (aD rfl) (aU (aD (by rw [Kw]; rfl)) aY)))))
  ·have hmn : m = n := by simp only [decide_eq_false_iff_not] at hd; omega
   rw [hmn]
   refine gV rfl (ts (ro rfl (eJ A_60 Z_60 (Ht rfl) (i:=1) rfl rfl rfl) (gQ Z_60 (Ht rfl) (Ht rfl) rfl (i:=0) rfl (aK rfl) rfl rfl (eX ?_))))
   exact fW rfl (fK A_60 Z_60 rfl (i:=0) rfl rfl)
theorem Ph {z:List Qi} {s:List (List Qi)} {L:Nat} (hz:bH z L) (hs:bA s L) (hL:1 ≤ L) (hLb:L ≤ 100000000000) (hp:z.all eS = true) (hsh:cB s z.length z.length) (h8:z.length ≤ 8):bF Tryz.prog 99 [dC z s] (cH (Lt z s)):=by
 refine bF.intro Tryz.func99 rfl Tryz.ntmps99 rfl (fun cx=>(ts (rn rfl (fG (Ht rfl)) fun B1=>(ro rfl (cQ cV) (eX (cK (gJ (i:=0) (tt:=1) rfl rfl jJ (cY (ro rfl (gO dS (Ht rfl) rfl) (ro rfl (dJ A_25 Z_25 (Ht rfl)) (ro rfl (dG U_25 (Ht rfl) aC) (ro rfl (lR (γ:=Fin z.length × Fin z.length) (Ts:=fun x=>[NT .i64 x.1.1,NT .i64 x.2.1]) (U:=fun x=>aE (Cr z s x.1.1 x.2.1 z.length)) Tryz.call198 (fun x=>a49 hz hs hL hLb hp hsh rfl h8 x.1.2 x.2.2) ⟨(Ht rfl),trivial⟩) ?_))))))))))))
 refine ro rfl (cZ K_110 (uY (n:=z.length) (f:=fun i k=>Cr z s i k z.length) zo) ⟨(Ht rfl),(Ht rfl),trivial⟩) (ra rfl (eX ?_))
 exact fW rfl (eU rfl)
theorem Mj {z:List Qi} {s:List (List Qi)} {L:Nat} (hz:bH z L) (hs:bA s L) (hL:1 ≤ L) (hLb:L ≤ 100000000000) (hp:z.all eS = true) (hsh:cB s z.length z.length) (h8:z.length ≤ 8):bF Tryz.prog 19 [dC z s] (aI (Qm z s)):=by
 have hPf:=Rd hz hs hL hp h8
 have hPs:=Re z s
 have hPw:=Ph hz hs hL hLb hp hsh h8
 rw [Qm]
 generalize Lt z s = M at *
 obtain ⟨n,hn⟩:∃ n,n = z.length:=⟨_,rfl⟩
 rw [← hn] at hPs
 have hMl:=hPs.1
 refine bF.intro Tryz.func19 rfl Tryz.ntmps19 rfl (fun cx=>(ts (rn rfl (fG (Ht rfl)) fun B1=>(ro rfl (cQ cV) (eX (cK (ts (ro rfl (eJ A_28 Z_28 (Ht rfl) (i:=0) rfl rfl rfl) (ro rfl (cZ Tryz.call99 hPw ⟨(Ht rfl),trivial⟩) (ro rfl (dG U_26 (Ht rfl) (by rw [List.length_map,hMl])) ?_))))))))))
 refine ro rfl (cX (cJ 0)) (eX (eG ?_))
 refine cI (fun (k : Nat) => k ≤ n ∧ ∀ j, j < k → ((M.getD j []).any fun x => !decide (x = 0)) = false) (fun (k : Nat) => n - k) (fun (k : Nat) => [(6, cH M), (7, NT .i64 n), (8, NT .i64 k)]) (fun (k : Nat) => [box B1 28 [aN z, cH s]]) 0 ⟨Nat.zero_le _, fun j h => by omega⟩
  (zS rfl) (aU (aD rfl) aY) (fun k ⟨hk,hz0⟩=>?_)
 refine ts (ro rfl (gX (Ht rfl) (Ht rfl)) (eX (cK (dQ (Ht rfl) (fun hd=>?_) (fun hd=>?_)))))
 ·have hkn : k < n := by simp only [decide_eq_true_eq] at hd; omega
  refine cU (cK (eG (ts (ro rfl (dZ U_26 Z_25 (Ht rfl) (Ht rfl) rfl (dY (dU (d:=[]) zo))) (ro rfl (dJ A_25 Z_25 (Ht rfl)) (ra rfl (eX (cK ?_))))))))
  obtain ⟨r,hr⟩:∃ r,r = M.getD k []:=⟨_,rfl⟩
  have hrf:bH r (51 * L + 43):=by rw [hr]; exact hPf.row k
  have hrl:r.length ≤ 1000:=by rw [hr,hPs.row hkn]; omega
  obtain ⟨l,hl⟩:∃ l:List {x:Qi // aH x (51 * L + 43)},r = l.map Subtype.val:=⟨r.attach.map fun x=>⟨x.1,hrf x.1 x.2⟩,by simp⟩
  have hll:l.length ≤ 1000:=by rw [hl,List.length_map] at hrl; exact hrl
  have hany:(r.any fun x=>!decide (x = 0)) = l.any fun x=>!decide (x.1 = Qi.zero):=by rw [hl,List.any_map]; rfl
  refine Bf (E':=[(4,_),(6,_),(7,_),(8,_)]) (aZ rfl (jC (Us:=l.map fun x=>aE x.1) (by rw [← hr,hl,List.map_map]; rfl)) (zS rfl)) ?_
  refine cY (rm rfl (ro rfl (cZ Tryz.call103 (uN (l:=l) (T:=fun x=>aE x.1) (p:=fun x=>!decide (x.1 = Qi.zero)) zo) ⟨(Ht rfl),(bC.fn K_82 (γ:={x:Qi // aH x (51 * L + 43)}) (Ts:=fun x=>[aE x.1]) (U:=fun x=>aI (!decide (x.1 = Qi.zero))) (fun x=>haveI:=x.2; tP zo)),trivial⟩) (eX (dQ (Ht rfl) (fun hc=>?_) (fun hc=>?_)))))
  ·have hf := Zi (M := M) (j := k) zo (by rw [← hr, hany]; exact hc)
   refine ts (ro rfl (cQ cV) (eX (fW rfl (fX (eU rfl) ?_))))
   exact (fO hf.symm)
  ·have hf : ((M.getD k []).any fun x => !decide (x = 0)) = false := by rw [← hr, hany]; exact hc
   refine cU (bN (cY (ro rfl (dV (Ht rfl) (cJ 1) z6) (rm rfl (eX ?_)))))
   refine fU (k + 1) ⟨hkn, fun j h => by
    by_cases e:j = k
    ·rw [e]; exact hf
    ·exact hz0 j zo⟩ zo (zS rfl) (aU (aD rfl) aY)
 ·have hkn : k = n := by simp only [decide_eq_false_iff_not] at hd; omega
  have hf:=Vq hMl (fun j h=>hz0 j zo)
  refine gV rfl (ts (ro rfl (cQ cV) (eX (fW rfl (fX (eU rfl) ?_)))))
  exact (fO hf.symm)
end
section
open Go Go.RowKit
def wX (p : Nat → Bool) : Nat → Nat → Nat
 | 0,k=>k
 | f + 1,k=>if p k = true then k else wX p f (k + 1)
theorem Gv {p : Nat → Bool} : ∀ {f k r : Nat}, k ≤ r → r ≤ k + f → (∀ j, k ≤ j → j < r → p j = false) → (r < k + f → p r = true) → wX p f k = r
 | 0,k,r,h1,h2,_,_=>by simp only [wX]; omega
 | f + 1, k, r, h1, h2, h3, h4 => by
  unfold wX
  by_cases e:r = k
  ·subst e; rw [if_pos (h4 zo)]
  ·rw [if_neg (by rw [h3 k (Nat.le_refl _) zo]; simp)]
   exact Gv zo zo (fun j a b=>h3 j zo b) (fun h=>h4 zo)
theorem Ey {p : Nat → Bool} : ∀ {f k : Nat}, (k ≤ wX p f k ∧ wX p f k ≤ k + f) ∧ (∀ j, k ≤ j → j < wX p f k → p j = false) ∧ (wX p f k < k + f → p (wX p f k) = true)
 | 0,k=>⟨⟨Nat.le_refl _,Nat.le_refl _⟩,fun j a b=>by simp only [wX] at b; omega,fun h=>by simp only [wX] at h; omega⟩
 | f + 1, k => by
  unfold wX
  by_cases e:p k = true
  ·rw [if_pos e]; exact ⟨⟨Nat.le_refl _,by omega⟩,fun j a b=>by omega,fun _=>e⟩
  ·rw [if_neg e]
   obtain ⟨⟨a1,a2⟩,a3,a4⟩:=Ey (p:=p) (f:=f) (k:=k + 1)
   refine ⟨⟨by omega,by omega⟩,fun j a b=>?_,fun h=>a4 zo⟩
   by_cases c:j = k
   ·subst c; simpa using e
   ·exact a3 j zo b
def mxV (x:List Qi) (f:Qi) (y:List Qi):List Qi:=tab x.length fun i=>gv x i + f * gv y i
def Ze (x:Qi):Bool:=decide (Ms x Qi.zero < 0)
def crZ (x:Qi):Qi:=if Ze x = true then -x else x
def crK (G:List (List Qi)) (n i:Nat):Nat:=wX (fun k=>!decide (gm G i k = 0)) (n - (i + 1)) (i + 1)
def Uz (G:List (List Qi)) (i k:Nat):Qi:=(crZ (gm G k k) + Qi.ofInt 1) / ((gm G i k).norm + (gm G i k).norm)
def crV (G V:List (List Qi)) (i k:Nat):List Qi:=mxV (V.getD k []) (-(Uz G i k) * gm G i k) (V.getD i [])
def Iu (G V:List (List Qi)) (n i:Nat):List Qi:=if gm G i i = 0 then (if crK G n i < n then crV G V i (crK G n i) else []) else []
def yA (G:List (List Qi)) (n i k l:Nat):List (List Qi):=tab n fun r=>tab n fun c=>if (i < r ∧ i < c) ∧ (c < k ∨ c = k ∧ r < l) then gm G r c - gm G r i * (gm G i c / gm G i i) else gm G r c
def dfE (G:List (List Qi)) (n i:Nat):List (List Qi):=yA G n i n 0
def sQ (G V:List (List Qi)) (n i k:Nat):List (List Qi):=tab n fun r=>if i < r ∧ r < k then mxV (V.getD r []) (-(gm G i r / gm G i i)) (V.getD i []) else V.getD r []
def qW (h : List (List Qi)) (n : Nat) : Nat → List (List Qi) × List (List Qi)
 | 0=>(h,qP n)
 | i + 1=>if gm (qW h n i).1 i i = 0 then qW h n i else (dfE (qW h n i).1 n i,sQ (qW h n i).1 (qW h n i).2 n i n)
def Ls (h : List (List Qi)) (n : Nat) : Nat → Nat → Bool × List Qi
 | 0,_=>(true,[])
 | f + 1,i=>if Ze (gm (qW h n i).1 i i) = true then (false,(qW h n i).2.getD i []) else if Iu (qW h n i).1 (qW h n i).2 n i ≠ [] then (false,Iu (qW h n i).1 (qW h n i).2 n i) else Ls h n f (i + 1)
theorem a4f {G V : List (List Qi)} {i k : Nat} (h : 0 < (V.getD k []).length) : (crV G V i k).map aE ≠ [] := fun e => by
 have:=congrArg List.length e
 rw [List.length_map,crV,mxV,aF] at this
 rw [List.length_nil] at this; omega
theorem Zg {x : Qi} (h : ¬ x = 0) : x.norm + x.norm ≠ 0 := fun e => by
 have e2:x.nrm + x.nrm = 0:=congrArg Qi.re e
 exact h (Qi.nrm_zero.1 (by grind))
theorem rR (G:List (List Qi)) (n i k l:Nat):cB (yA G n i k l) n n:=cB.tab
theorem Sw {G:List (List Qi)} {n i:Nat} (h:cB G n n):yA G n i (i + 1) 0 = G:=by
 have:yA G n i (i + 1) 0 = tab n fun r=>tab n fun c=>gm G r c:=bT fun r _=>bT fun c _=>by rw [if_neg zo]
 rw [this]; exact (tX h).symm
theorem a1I {G : List (List Qi)} {n i k : Nat} : yA G n i k 0 = yA G n i k (i + 1) := bT fun r _ => bT fun c _ => by
 by_cases a:(i < r ∧ i < c) ∧ (c < k ∨ c = k ∧ r < 0)
 ·rw [if_pos a,if_pos zo]
 ·rw [if_neg a,if_neg zo]
theorem a1H {G : List (List Qi)} {n i k : Nat} : yA G n i k n = yA G n i (k + 1) 0 := bT fun r hr => bT fun c _ => by
 by_cases a:(i < r ∧ i < c) ∧ (c < k ∨ c = k ∧ r < n)
 ·rw [if_pos a,if_pos zo]
 ·rw [if_neg a,if_neg zo]
theorem Gl {G:List (List Qi)} {n i k l r c:Nat} (hr:r < n) (hc:c < n) (h:¬ ((i < r ∧ i < c) ∧ (c < k ∨ c = k ∧ r < l))):gm (yA G n i k l) r c = gm G r c:=by rw [yA,dD hr hc,if_neg h]
theorem Wz {G:List (List Qi)} {n i k l:Nat} (hl:l < n) (hk:k < n) (hil:i < l) (hik:i < k):(yA G n i k l).set l ((eE (yA G n i k l) l).set k (gm G l k - gm G l i * (gm G i k / gm G i i))) = yA G n i k (l + 1):=by
 refine fH (n:=n) (m:=n) ⟨by rw [List.length_set]; exact aF _ _,fun r hr=>?_⟩ (rR _ _ _ _ _) fun r hr c hc=>?_
 ·rcases List.mem_or_eq_of_mem_set hr with h1 | h1
  ·exact (rR G n i k l).2 r h1
  ·rw [h1,List.length_set]; exact (rR G n i k l).row hl
 ·have hrl : (eE (yA G n i k l) l).length = n := (rR G n i k l).row hl
  have hlen:(yA G n i k l).length = n:=aF _ _
  show gv (eE ((yA G n i k l).set l _) r) c = _
  by_cases e:r = l
  ·subst e
   rw [Db zo,sX zo]
   by_cases e2:c = k
   ·subst e2
    rw [if_pos rfl,yA,dD hr hc,if_pos zo]
   ·rw [if_neg e2]
    show gm (yA G n i k r) r c = _
    rw [yA,dD hr hc,yA,dD hr hc]
    by_cases a:(i < r ∧ i < c) ∧ (c < k ∨ c = k ∧ r < r)
    ·rw [if_pos a,if_pos zo]
    ·rw [if_neg a,if_neg zo]
  ·rw [uC (fun x => e x.symm)]
   show gm (yA G n i k l) r c = _
   rw [yA,dD hr hc,yA,dD hr hc]
   by_cases a:(i < r ∧ i < c) ∧ (c < k ∨ c = k ∧ r < l)
   ·rw [if_pos a,if_pos zo]
   ·rw [if_neg a,if_neg zo]
theorem Mu {G V:List (List Qi)} {n i:Nat} (h:V.length = n):sQ G V n i (i + 1) = V:=by
 have:sQ G V n i (i + 1) = tab n fun r=>V.getD r []:=bT fun r _=>by rw [if_neg zo]
 rw [this]; exact (Im (h:=h)).symm
theorem Sx {G V:List (List Qi)} {n i k:Nat} (hk:k < n) (hik:i < k):(sQ G V n i k).set k (mxV (V.getD k []) (-(gm G i k / gm G i i)) (V.getD i [])) = sQ G V n i (k + 1):=by
 apply List.ext_getElem?
 intro r
 by_cases hr:r < n
 ·by_cases e : r = k
  ·subst e
   rw [List.getElem?_set_self (by rw [sQ,aF]; exact hr),sQ,bR hr,if_pos zo]
  ·rw [List.getElem?_set_ne (Ne.symm e), sQ, sQ, bR hr, bR hr]
   by_cases a:i < r ∧ r < k
   ·rw [if_pos a,if_pos zo]
   ·rw [if_neg a,if_neg zo]
 ·rw [List.getElem?_eq_none (by rw [List.length_set,sQ,aF]; omega),List.getElem?_eq_none (by rw [sQ,aF]; omega)]
theorem Ju {G V:List (List Qi)} {n i k r:Nat} (hr:r < n) (h:¬ (i < r ∧ r < k)):(sQ G V n i k).getD r [] = V.getD r []:=by rw [sQ,kJ hr,if_neg h]
theorem a2i (x y:List Qi) (f:Qi):(mxV x f y).length = x.length:=aF _ _
theorem Po {h : List (List Qi)} {n : Nat} (hs : cB h n n) : ∀ i, i ≤ n → cB (qW h n i).1 n n ∧ cB (qW h n i).2 n n
 | 0,_=>⟨hs,mY n⟩
 | i + 1, hi => by
  obtain ⟨a,b⟩:=Po hs i zo
  simp only [qW]
  split
  ·exact ⟨a,b⟩
  ·refine ⟨rR _ _ _ _ _, ⟨aF _ _, fun r hr => ?_⟩⟩
   obtain ⟨j,hj,rfl⟩:=dN.1 hr
   by_cases c:i < j ∧ j < n
   ·rw [if_pos c,a2i]; exact b.row hj
   ·rw [if_neg c]; exact b.row hj
def yY (h:List (List Qi)) (n:Nat):Bool:=decide (∀ i,i < n → ∀ k,k < n → gm h i k = (gm h k i).conj)
def dfB (h:List (List Qi)) (n:Nat):Bool:=if yY h n = true then (Ls h n n 0).1 else false
def dfW (h:List (List Qi)) (n:Nat):List Qi:=if yY h n = true then (Ls h n n 0).2 else []
def dfX (h:List (List Qi)) (n:Nat):Int:=if yY h n = true then 0 else 1
theorem a1G {h:List (List Qi)} {n i:Nat} (hi:i < n) (k:Ze (gm (qW h n i).1 i i) = true):Ls h n (n - i) i = (false,(qW h n i).2.getD i []):=by
 rw [show n - i = (n - (i + 1)) + 1 by omega,Ls,if_pos k]
theorem a1F {h:List (List Qi)} {n i:Nat} (hi:i < n) (k:Ze (gm (qW h n i).1 i i) ≠ true) (w:Iu (qW h n i).1 (qW h n i).2 n i ≠ []):Ls h n (n - i) i = (false,Iu (qW h n i).1 (qW h n i).2 n i):=by
 rw [show n - i = (n - (i + 1)) + 1 by omega,Ls,if_neg k,if_pos w]
theorem a4h {h:List (List Qi)} {n i:Nat} (hi:i < n) (k:Ze (gm (qW h n i).1 i i) ≠ true) (w:Iu (qW h n i).1 (qW h n i).2 n i = []):Ls h n (n - i) i = Ls h n (n - (i + 1)) (i + 1):=by
 rw [show n - i = (n - (i + 1)) + 1 by omega,Ls,if_neg k,if_neg (fun e=>e w)]
theorem Jt {h:List (List Qi)} {n i:Nat} (k:gm (qW h n i).1 i i = 0):qW h n (i + 1) = qW h n i:=by rw [qW,if_pos k]
theorem a4i {h:List (List Qi)} {n i:Nat} (k:¬ gm (qW h n i).1 i i = 0):qW h n (i + 1) = (dfE (qW h n i).1 n i,sQ (qW h n i).1 (qW h n i).2 n i n):=by rw [qW,if_neg k]
structure SzD (h:List (List Qi)) (n G V:Nat):Prop where
 g:∀ i,i ≤ n → bA (qW h n i).1 G
 v:∀ i,i ≤ n → bA (qW h n i).2 V
 g1:1 ≤ G
 v1:1 ≤ V
 b:10 * G + 2 * V + 40 ≤ 8796093022208
end
section
open Go Go.RowKit
section
variable {P:Program} {n:Nat} {E:cP} {H:Hp}
variable {d:Option Tmp} {t:TypeId} {pos:String} {af:Array Edge} {g:Option (Nat × Bool)}
theorem Eb {x y : Operand} {i B o' : Nat} {BT : TypeId} {Ts Ws : List Ty} {T : Ty} [hsh : dF T 1 false] (hS : ∀ w, (sizeOf t).run P w = .ok 1 w) (hx : bC E x (cA B o')) (hy : bC E y T)
  (hH:H[i]? = some (box B BT Ts)) (hlt:o' < Ts.length) (hW:Ts.set o' T = Ws) {t':TypeId} {H':Hp} (hH':H.set i (box B BT Ws) = H') :
  W.PutTy P n E H H' ⟨none,.store t x y,t',pos,af,none⟩:=by subst hW; subst hH'; exact a5P hS hx hy hH hlt
theorem Tt {x y : Operand} {m e s : Nat} {tn : TypeId} {i : TypeInfo} {z : Value} {kd kn : IntKind} (ht : P.underlying t = some (.slice e)) (htn : P.underlying tn = some (.int kn)) (hi : P.info? e = some i) (hz : i.zero = some z) (hs : i.size = s) (hzs : z.cells.size = s) (hs0 : 0 < s)
  (hx:bC E x (Is (.slice none 0 0))) (hy:bC E y (aL kd (m:Int))) (h0:0 < m) (hb:m * i.bytes ≤ 281474976710656) (hm:m ≤ 9223372036854775807) {t':TypeId} :
  iF P n E H ⟨d,.call ⟨.builtin .append,#[x,y],#[t,tn]⟩,t',pos,af,g⟩ (Nat × Nat) (fun q=>Is (.slice (some ⟨q.1,0,none⟩) m q.2)) (fun q=>bI e s (.slice (some ⟨q.1,0,none⟩) 0 q.2) []):=iF.of fun cx X a w V hi' hsl=>by
 have ex:a.eval x = .slice none 0 0:=hx n V a hsl
 have ey:a.eval y = .int kd (m:Int):=hy n V a hsl
 have hr:=Lib.run_append_nil_zeros (P:=P) w t tn t' e i z kd kn ht htn hi hz m h0 zo zo hb
 have hge:=grownCap_ge w m 0 e
 have hcm:grownCap w m 0 e ≤ maxLen:=grownCap_le_maxLen w m 0 e (by simp only [maxLen]; omega)
 subst hs
 refine ⟨(w.heap.size,grownCap w m 0 e),_,_,?_,rfl,(hi'.drew).alloc (ob:=.cells (Builtin.zeroCells z.cells m ++ Builtin.zeroCells z.cells (grownCap w m 0 e - m)) e) (fun mm hm'=>⟨[],⟨trivial,by simp,by simp [dB]⟩,.inr ⟨w.heap.size,grownCap w m 0 e,_,rfl,rfl,hm',Nat.zero_le _,hcm,?_,by simp [dB]⟩⟩)⟩
 ·simp [execOp,resolve,invoke,builtin,ex,ey,hr,Sem.run_bind,Result.andThen]
 ·simp only [Array.size_append, size_zeroCells, hzs, ← Nat.add_mul]
  congr 1; omega
theorem Qt {x : Operand} {ad : Option Addr} {l cap : Nat} {e : TypeId} {ta : TypeId} (hU : ∀ w, (underlying ta).run P w = .ok (.slice e) w) (hx : bC E x (Is (.slice ad l cap))) :
  aM P n E H ⟨d,.call ⟨.builtin .cap,#[x],#[ta]⟩,t,pos,af,g⟩ (aL .i64 cap) :=
 dM fun a V w hs => by
  have e1:a.eval x = .slice ad l cap:=hx n V a hs
  exact ⟨.int .i64 cap,by simp [execOp,resolve,e1,invoke,builtin,Builtin.cap_,Sem.run_bind,hU,Result.andThen,goInt],rfl⟩
theorem Fh {x hiO : Operand} {ad : Option Addr} {l cap m s : Nat} {kd : IntKind} {e : TypeId} (hU : ∀ w, (underlying t).run P w = .ok (.slice e) w) (hS : ∀ w, (sizeOf e).run P w = .ok s w) (hx : bC E x (Is (.slice ad l cap))) (hh : bC E hiO (aL kd (m : Int))) (h1 : m ≤ cap) {t' : TypeId} :
  aM P n E H ⟨d,.slice t x none (some hiO) none,t',pos,af,g⟩ (Is (.slice ad m cap)) :=
 dM fun a V w hs => by
  have e1:a.eval x = .slice ad l cap:=hx n V a hs
  have eh:a.eval hiO = .int kd (m:Int):=hh n V a hs
  have had:(ad.map fun x:Addr=>x.add 0) = ad:=by cases ad <;> simp [Addr.add]
  refine ⟨.slice ad m cap,?_,rfl⟩
  simp [execOp,e1,eh,Instr.sliceAt,Instr.slice,Instr.sliceBounds,Instr.sliceBound,asIntOf,Sem.run_bind,hU,hS,Result.andThen,h1,had]
end
end
section
open Go Go.RowKit
section
variable {P:Program} {n:Nat} {E:cP} {H:Hp}
variable {d:Option Tmp} {t:TypeId} {pos:String} {af:Array Edge} {g:Option (Nat × Bool)}
theorem Zr {f : FuncId} {xs : List Operand} {tys : Array TypeId} {Ts : List Ty} {U T0 T1 : Ty} {A : SA} {j tt : Nat} (hc : ∀ args w, (callFunc f args).run P w = .ok (.enter f args) w) (hF : bF P f Ts U)
  (hA:H[j]? = some A) (hl:fN E tt = some T0) (hz:∀ v S V,T0.p v V → A.h S V V → T1.p v V) (hU:∀ v V V',U.p v V → U.p v V') (ha:pY ((tt,T1) :: E) xs Ts) :
  aM P n E H ⟨d,.call ⟨.value (.func f),xs.toArray,tys⟩,t,pos,af,g⟩ U:=fun cx X a w V hi hs K Q hK=>by
 have hrun : (execOp a.eval ⟨d, .call ⟨.value (.func f), xs.toArray, tys⟩, t, pos, af, g⟩).run P w = .ok (.enter f (xs.map a.eval).toArray) w := by
  simp [execOp,resolve,Act.eval,Deferred.ofValue,invoke,hc]
 simp only [Oper.wp,hrun,Oper.upon_enter]
 obtain ⟨F,h1,h2⟩:=hi.hp
 have hjl:=(List.getElem?_eq_some_iff.1 hA).1
 obtain ⟨k1,k2⟩:=h1 j A (by rw [List.getElem?_append_left hjl]; exact hA)
 let V1:aO:=fun b=>if b ∈ F j then w.heap[b]? else V b
 have hle : nG V V1 := fun b o hb => by
  have:b ∉ F j:=fun hf=>by have:=(k2 b hf).1; rw [hb] at this; cases this
  simp only [V1,if_neg this]; exact hb
 have hon : ∀ b o, V1 b = some o → w.heap[b]? = some o := fun b o hb => by
  by_cases hf:b ∈ F j
  ·simp only [V1,if_pos hf] at hb; exact hb
  ·simp only [V1,if_neg hf] at hb; exact hi.on b o hb
 have hA1:A.h (F j) V1 V1:=A.mono (A.loc k1 fun b hb=>by simp only [V1,if_pos hb]; rfl) hle
 have hsl : eN n ((tt, T1) :: E) V1 a := by
  have hs':=hs.mono hle
  refine ⟨hs'.1,hs'.2.1,fun t' T hT=>?_⟩
  rw [cR] at hT
  by_cases e:tt = t'
  ·subst e
   rw [if_pos rfl] at hT; obtain rfl:=Option.some.inj hT
   obtain ⟨v,q1,q2⟩:=hs'.2.2 _ _ hl
   exact ⟨v,q1,hz v (F j) V1 q2 hA1⟩
  ·rw [if_neg e] at hT; exact hs'.2.2 t' T hT
 refine (hF _ V1 w hon (pY.all hsl ha)).mono ?_
 rintro e w' ⟨v,V',rfl,m1,m2,m3,m4,m5⟩
 exact hK v w' V (hi.after (nG.refl V) (fun b o hb=>m2 b o (m1 b o (hle b o hb))) (fun b o hb h0=>by rw [hb] at h0; cases h0) m4) (nG.refl V) (hU v V' V m5)
theorem Tw {x i : Operand} {q : Nat} {Ts : List Ty} {T : Ty} {kd : IntKind} {e : TypeId} {len : Nat} (hU : ∀ w, (underlying t).run P w = .ok (.array len e) w) (hS : ∀ w, (sizeOf e).run P w = .ok 1 w) (hg : ∀ w, (isAgg e).run P w = .ok false w)
  (hx:bC E x (fS Ts)) (hi:bC E i (NT kd q)) (hl:q < len) (hT:Ts[q]? = some T) {t':TypeId}:aM P n E H ⟨d,.index t x i,t',pos,af,g⟩ T :=
 dM fun a V w hs => by
  obtain ⟨vs,e1,e4⟩:=hx n V a hs
  have ei:a.eval i = .int kd (q:Int):=hi n V a hs
  obtain ⟨u,e5,e6⟩:=e4.all.get hT
  exact ⟨u,by simp [execOp,e1,ei,Instr.index,asIntOf,Sem.run_bind,hU,hS,hg,part,Result.andThen,hl,e5],e6⟩
end
end
section
open Go Go.RowKit
section
variable {P:Program} {R:iD} {cx:Cx} {n:Nat} {k:List It} {E:cP} {H:Hp}
theorem HH.two {base:Nat} {w:World} {V:aO} {Z:SA} {X:Hp} (h:HH base w V (Z :: X)):HH base w V [Z,fE (SA.emp :: X)]:=by
 have h1:HH base w V ((Z :: X).set 0 SA.emp ++ [Z]):=h.last rfl
 have h2:HH base w V (fE (SA.emp :: X) :: [Z]):=HH.repack h1
 exact h2.pick (is:=[1,0]) ⟨⟨_,rfl,fun _ _ _ h=>h⟩,⟨_,rfl,fun _ _ _ h=>h⟩,trivial⟩ (by decide)
theorem iV.pack {f : FuncId} {Ts : List Ty} {γ : Type} {U : γ → Ty} {X : γ → Hp} {Q : γ → Prop} (h : iV P f Ts [] γ U X Q) : iV P f Ts [] γ U (fun x => [fE (SA.emp :: X x)]) Q :=
 fun cx Z vs V w h1 h2=>(h cx Z vs V w h1 h2).mono fun e w' ⟨v,V',x,a,b,c,d,e'⟩=>⟨v,V',x,a,b,c.withHH c.hp.two,d,e'⟩
theorem a3X {X Y:Hp} (h:Tr P R cx n k E (X ++ Y)):Tr P R cx n k E (fE X :: Y):=fun a w ⟨V,hin,hs⟩=>h a w ⟨V,hin.withHH hin.hp.unpack,hs⟩
end
namespace W
variable {P:Program} {R:iD} {cx:Cx} {n:Nat} {k:List It} {E:cP} {H:Hp} {Hf:Bool → Hp} {p:Nat}
end W
end
section
open Go Go.RowKit
section
variable {P:Program} {n:Nat} {E:cP} {H:Hp}
variable {d:Option Tmp} {t:TypeId} {pos:String} {af:Array Edge} {g:Option (Nat × Bool)}
theorem kF {x i : Operand} {B o q r s : Nat} {kd : IntKind} {j : Int} {e : TypeId} {len : Nat} (hU : ∀ w, (underlying t).run P w = .ok (.array len e) w) (hS : ∀ w, (sizeOf e).run P w = .ok s w)
  (hx:bC E x (cA B o)) (hi:bC E i (aL kd j)) (hj:j = (q:Int)) (hl:q < len) (hr:o + q * s = r) {t':TypeId}:aM P n E H ⟨d,.indexAddr t x i,t',pos,af,g⟩ (cA B r) :=
 dM fun a V w hs => by
  have e1:a.eval x = .pointer (some ⟨B,o,none⟩):=hx n V a hs
  have ei:a.eval i = .int kd j:=hi n V a hs
  subst hj hr
  exact ⟨.pointer (some ⟨B,o + q * s,none⟩),by simp [execOp,e1,ei,Instr.indexAt,Instr.sureAddr,asIntOf,Sem.run_bind,hU,hS,Result.andThen,hl,gK],rfl⟩
theorem a2B {x : Operand} {arr e : TypeId} {s : Nat} {Us Ws : List Ty} (hU : ∀ w, (underlying arr).run P w = .ok (.array 2 e) w) (hx : bC E x (kM s [fS Us, fS Ws])) (hl : Us.length = s) {t' : TypeId} :
  aM P n E H ⟨d,.sliceToArrayPointer arr x,t',pos,af,g⟩ (PT (fS (Us ++ Ws))) :=
 dM fun a V w hs => by
  obtain ⟨a0,cap,e1,hcap,h3⟩:=hx n V a hs
  obtain ⟨b,o,x0,ea,⟨c,BT,fr,l2,l3⟩,c0,us,rfl,hu⟩:=h3 0 _ rfl
  obtain ⟨b',o',x1,ea',⟨c',BT',fr',l2',l3'⟩,c1,ws,rfl,hw⟩:=h3 1 _ rfl
  subst ea
  obtain ⟨rfl,rfl⟩:b = b' ∧ o = o':=by simpa using ea'
  obtain ⟨rfl,rfl,rfl⟩:c = c' ∧ BT = BT' ∧ fr = fr':=by rw [l2] at l2'; simpa using l2'
  have hlu:us.length = s:=hu.length.trans hl
  refine ⟨.pointer (some ⟨b,o,none⟩),by simp [execOp,e1,Instr.arrayAt,Sem.run_bind,hU,Result.andThen,pure,Sem.run],b,o,.agg (us ++ ws).toArray,rfl,⟨c,BT,fr,l2,fun j u hj=>?_⟩,us ++ ws,rfl,hu.append hw⟩
  simp only [Value.cells,List.getElem?_toArray] at hj
  by_cases c2:j < us.length
  ·rw [List.getElem?_append_left c2] at hj
   have:=l3 j u (by simpa [Value.cells] using hj)
   rw [show o + j = o + 0 * s + j by omega]; exact this
  ·rw [List.getElem?_append_right zo] at hj
   have:=l3' (j - us.length) u (by simpa [Value.cells] using hj)
   rw [show o + j = o + 1 * s + (j - us.length) by omega]; exact this
end
end
section
open Go Go.RowKit
section
variable {P:Program} {R:iD} {cx:Cx} {n:Nat} {k:List It} {E:cP} {H:Hp} {ops:Array Oper} {o:Oper} {rest:List Oper}
variable {d:Option Tmp} {t:TypeId} {pos:String} {af:Array Edge} {g:Option (Nat × Bool)}
def hdr : Option (Nat × Nat) → Nat → Value
 | none,_=>.slice none 0 0
 | some (b,cp),l=>.slice (some ⟨b,0,none⟩) l cp
instance shHdr (x:Option (Nat × Nat)) (l:Nat):dF (Is (hdr x l)) 1 false:=by
 match x with
 | none=>exact inferInstanceAs (dF (Is (.slice none 0 0)) 1 false)
 | some (b,cp)=>exact inferInstanceAs (dF (Is (.slice (some ⟨b,0,none⟩) l cp)) 1 false)
end
end
section
open Go Go.RowKit
theorem fT.mk' {V : aO} : ∀ {Ts : List Ty} {vs : List Value}, vs.length = Ts.length → (∀ (q : Nat) (T : Ty), Ts[q]? = some T → ∃ u, vs[q]? = some u ∧ T.p u V) → fT Ts vs V
 | [],[],_,_=>trivial
 | T :: Ts, v :: vs, h, k => by
  obtain ⟨u,h1,h2⟩:=k 0 T rfl
  simp at h1; subst h1
  exact ⟨h2,fT.mk' (by simpa using h) fun q T hT=>k (q + 1) T (by simpa using hT)⟩
 | [],_ :: _,h,_=>by simp at h
 | _ :: _,[],h,_=>by simp at h
section
variable {P:Program} {R:iD} {cx:Cx} {n:Nat} {k:List It} {E:cP} {H:Hp} {ops:Array Oper} {o:Oper} {rest:List Oper}
variable {d:Option Tmp} {t:TypeId} {pos:String} {af:Array Edge} {g:Option (Nat × Bool)}
theorem iJ.frzRows {V : aO} {w : World} {j B e s : Nat} {q : Value → Prop} {BT : TypeId} {Rs : List (List Ty)} (h : iJ cx V H w) (hH : H[j]? = some (rX q B BT e s Rs)) (hm : Rs.length ≤ maxLen) :
  ∃ V',nG V V' ∧ iJ cx V' (H.set j (bI BT 1 (.slice (some ⟨B,0,none⟩) Rs.length Rs.length) (Rs.map (kM s)))) w:=by
 have hjl:=(List.getElem?_eq_some_iff.1 hH).1
 obtain ⟨vs, hv⟩ := h.hp.split (γ := {vs : List Value // vs.length = Rs.length}) (A1 := fun vs => box B BT (vs.1.map Is)) (A2 := fun vs => fE (SA.emp :: List.zipWith (bI e s) vs.1 Rs)) hH (fun S ⟨vs, ⟨h1, h1q⟩, h2⟩ => by
  obtain ⟨S1,S2,k1,k2,k3,k4⟩:=fE.split (q:=0) h2 (A:=box B BT (vs.map Is)) (by simp [mx])
  exact ⟨⟨vs,h1⟩,S2,S1,k2,k1,fun b p r=>k3 b r p,fun b=>by rw [k4 b]; exact Or.comm⟩)
 have h3:iJ cx V (H.set j (box B BT (vs.1.map Is)) ++ [fE (SA.emp :: List.zipWith (bI e s) vs.1 Rs)]) w:=h.withHH hv
 obtain ⟨V',S,hle,hi',hA⟩:=h3.freeze (i:=H.length) (A:=fE (SA.emp :: List.zipWith (bI e s) vs.1 Rs)) (by rw [List.getElem?_append_right (by simp)]; simp)
 refine ⟨V',hle,?_⟩
 obtain ⟨F,f1,f2⟩:=hi'.hp
 obtain ⟨G,g1,g2,g3⟩:=hA
 refine hi'.withHH ⟨F,fun i A hA=>?_,fun i l b hi hl=>?_⟩
 ·by_cases c : i = j
  ·subst c
   simp [hjl] at hA; subst hA
   obtain ⟨⟨e0,cs,e1,e2⟩,k2⟩:=f1 i (box B BT (vs.1.map Is)) (by rw [List.getElem?_set_ne zo,List.getElem?_append_left (by simpa using hjl)]; simp [hjl])
   refine ⟨⟨cs,⟨?_,fun x hx=>by rw [(e2.pl x hx).cells]; rfl,fun u hu=>?_⟩,.inr ⟨B,Rs.length,cs.toArray,by rw [List.length_map],e0,e1,by rw [List.length_map]; exact Nat.le_refl _,hm,?_,?_⟩⟩,k2⟩
   ·refine fT.mk' (by rw [e2.length, List.length_map, List.length_map, vs.2]) fun q T hT => ?_
    rw [List.getElem?_map] at hT
    obtain ⟨Ts,hR,rfl⟩:=Option.map_eq_some_iff.1 hT
    have hql:=(List.getElem?_eq_some_iff.1 hR).1
    have hvq:vs.1[q]? = some (vs.1[q]'(by rw [vs.2]; exact hql)):=by simp [vs.2,hql]
    obtain ⟨u,u1,u2⟩:=e2.get (i:=q) (T:=Is (vs.1[q]'(by rw [vs.2]; exact hql))) (by simp [vs.2,hql])
    have hrow:=g1 (q + 1) (bI e s (vs.1[q]'(by rw [vs.2]; exact hql)) Ts) (by simp [List.getElem?_zipWith,hvq,hR])
    exact ⟨u,u1,gE u _ V' u2 hrow⟩
   ·obtain ⟨x, hx, hu⟩ := jI.1 hu
    have:=e2.pl x hx
    rw [this.cells] at hu; simp at hu; subst hu; exact this
   ·have := e2.length
    rw [List.length_map,vs.2] at this
    simp [this]
   ·have := e2.length
    rw [List.length_map,vs.2] at this
    have hf:dB cs = cs:=rT cs fun x hx=>e2.pl x hx
    rw [hf,List.length_map,Nat.mul_one]
    simp [← this]
  ·rw [List.getElem?_set_ne (fun x => c x.symm)] at hA
   have hil:=(List.getElem?_eq_some_iff.1 hA).1
   refine f1 i A ?_
   rw [List.getElem?_set_ne zo,List.getElem?_append_left (by simpa using hil),List.getElem?_set_ne (fun x=>c x.symm)]
   exact hA
 ·simp at hi hl
  exact f2 i l b (by simp; omega) (by simp; omega)
theorem Sa (j : Nat) {B e s : Nat} {q : Value → Prop} {BT : TypeId} {Rs : List (List Ty)} (hH : H[j]? = some (rX q B BT e s Rs)) (hm : Rs.length ≤ maxLen)
  (h:Tr P R cx n k E (H.set j (bI BT 1 (.slice (some ⟨B,0,none⟩) Rs.length Rs.length) (Rs.map (kM s))))):Tr P R cx n k E H:=fun a w ⟨V,hi,hs⟩=>by
 obtain ⟨V',hle,hi'⟩:=hi.frzRows hH hm
 exact h a w ⟨V',hi',hs.mono hle⟩
theorem Lz (j : Nat) {B e s m : Nat} {q : Value → Prop} {BT : TypeId} {Rs : List (List Ty)} {Us : List Ty} (hH : H[j]? = some (rX q B BT e s Rs)) (hm : m ≤ maxLen) (hl : Rs.length = m) (hU : Rs.map (kM s) = Us)
  (h:Tr P R cx n k E (H.set j (bI BT 1 (.slice (some ⟨B,0,none⟩) m m) Us))):Tr P R cx n k E H:=by
 subst hl hU; exact Sa j hH hm h
def NlT (s:Nat) (Ts:List Ty):Ty where
 p v V:=(Ts = [] ∧ v = .slice none 0 0) ∨ (Ts ≠ [] ∧ (kM s Ts).p v V)
 mono h k:=h.imp id fun ⟨a,b⟩=>⟨a,(kM s Ts).mono b k⟩
theorem By (tx:TypeId) (x y:Operand) (a b:Option Addr) (l c l' c':Nat):eqGuard .neq tx x y (.slice a l c) (.slice b l' c') = pure ():=rfl
theorem Tx {tx ty : TypeId} {x : Operand} {s : Nat} {Ts : List Ty} {e : TypeId} {q : Bool} (hq : q = true ↔ Ts ≠ []) (hU : ∀ w, (underlying tx).run P w = .ok (.slice e) w) (hx : bC E x (NlT s Ts)) :
  aM P n E H ⟨d,.binOp .neq tx x (.const (.slice none 0 0)) ty,t,pos,af,g⟩ (aI q) :=
 dM fun a V w hs => by
  rcases hx n V a hs with ⟨hT,e1⟩ | ⟨hT,ad,cap,e1,_,e3⟩
  ·have hf : q = false := by cases q; rfl; exact absurd hT (hq.1 rfl)
   subst hf
   refine ⟨.bool false,?_,rfl⟩
   have h:=Ar (P:=P) (tx:=tx) (e:=e) none 0 0 hU
   simp [execOp,e1,rS,By,binOp,h,Sem.run_bind,Result.andThen] at h ⊢
  ·have ht : q = true := hq.2 hT
   subst ht
   cases ad with
   | none =>
    cases Ts with
    | nil=>exact absurd rfl hT
    | cons T Ts=>obtain ⟨b,o,x,h,_⟩:=e3 0 T rfl; cases h
   | some ad =>
    refine ⟨.bool true,?_,rfl⟩
    have h:=Ar (P:=P) (tx:=tx) (e:=e) (some ad) Ts.length cap hU
    simp [execOp,e1,rS,By,binOp,h,Sem.run_bind,Result.andThen] at h ⊢
theorem a0Y {f : FuncId} {xs : List Operand} {tys : Array TypeId} {Ts : List Ty} {γ : Type} {U : γ → Ty} {i j : Nat} {A B : SA} {A' B' : γ → SA} {Q : γ → Prop} {dd : Nat} (hc : ∀ args w, (callFunc f args).run P w = .ok (.enter f args) w)
  (hF:iV P f Ts [A,B] γ U (fun x=>[A' x,B' x]) Q) (hA:H[i]? = some A) (hB:H[j]? = some B) (hij:i ≠ j) (ha:pY E xs Ts) (hn:Nat.blt dd n = true) (h:∀ x,Q x → Rg P R cx n ops rest k ((dd,U x) :: E) ((H.set j (B' x)).set i (A' x))) :
  Rg P R cx n ops (⟨some dd,.call ⟨.value (.func f),xs.toArray,tys⟩,t,pos,af,none⟩ :: rest) k E H:=by
 intro a w ⟨V,hi,hs⟩
 unfold wpList
 rw [if_pos (by simp [Region.wanted])]
 left
 have hrun : (execOp a.eval ⟨some dd, .call ⟨.value (.func f), xs.toArray, tys⟩, t, pos, af, none⟩).run P w = .ok (.enter f (xs.map a.eval).toArray) w := by
  simp [execOp,resolve,Act.eval,Deferred.ofValue,invoke,hc]
 simp only [Oper.wp,hrun,Oper.upon_enter]
 have hil:=(List.getElem?_eq_some_iff.1 hA).1
 have hjl:=(List.getElem?_eq_some_iff.1 hB).1
 have h1:=hi.hp.last hA
 have h2:=h1.last (i:=j) (A:=B) (by rw [List.getElem?_append_left (by simpa using hjl),List.getElem?_set_ne hij]; exact hB)
 rw [List.set_append_left _ _ (by simpa using hjl),List.append_assoc] at h2
 have h3:=HH.repack h2
 refine (hF cx _ _ V w (hi.withHH h3) (pY.all hs ha)).mono ?_
 rintro e w' ⟨v,V',x,rfl,m1,m2,m3,m4⟩
 refine h x m4 _ _ ⟨V',m2.withHH ?_,(hs.mono m1).put (aK hn) m3⟩
 have g1:=m2.hp.unpack
 have e1 : (H.set i SA.emp).set j SA.emp ++ [A' x, B' x] = (H.set i SA.emp ++ [A' x]).set j SA.emp ++ [B' x] := by
  rw [List.set_append_left _ _ (by simpa using hjl),List.append_assoc]; rfl
 rw [e1] at g1
 have g2:=g1.unlast (by simp; omega)
 rw [List.set_append_left _ _ (by simpa using hjl),List.set_comm _ _ hij] at g2
 exact g2.unlast (by simpa using hil)
end
end
section
open Go Go.RowKit
theorem Wb {x:Qi} {L:Nat} [hx:aH x L] (h:L + L + 1 ≤ 17592186044415):bF Tryz.prog 50 [aE x] (aE x.norm):=by
 have hxa:=oQ hx.fit; have hxb:=oR hx.fit; have hxd:=oS hx.fit
 have hxp:=x.den_pos; have hdp:=Nat.mul_pos hxp hxp
 have e1:=mN x.a x.a; have e2:=mN x.b x.b; have e5:=yC x.den x.den
 have e6:=nJ (x:=x.a * x.a) (y:=x.b * x.b) (L:=L + L) zo zo
 have hz:(dg (0:Int).natAbs).length ≤ 0:=by rw [show (0:Int).natAbs = 0 from rfl,fP]; exact Nat.le_refl _
 refine bF.intro Tryz.func50 rfl Tryz.ntmps50 rfl (fun cx=>(ts (rn rfl (fG (Ht rfl)) fun B1=>(rn rfl (eW (Ts:=[Is (.bool false),Is (.slice none 0 0),Is (.bool false),Is (.slice none 0 0),Is (.slice none 0 0)]) O_60 rfl (fun V=>aW zd (aW zd (aW zd (aW zd (aW zd (aG))))))) fun B2=>(eX (cK (fZ (m:=17) (dp 1 rfl (eZ fR (Ht rfl) rfl) (dq 3 0 rfl (eJ A_58 Z_58 (Ht rfl) (i:=0) rfl rfl rfl) (dp 1 rfl (eZ fR (Ht rfl) rfl) ?_))))))))))
 refine dq 5 2 rfl (eJ A_58 Z_58 (Ht rfl) (i:=0) rfl rfl rfl) (dH 4 1 6 3 rfl (cZ K_151 (qD zo zo) ⟨(Ht rfl),(Ht rfl),trivial⟩) (dp 1 rfl (eZ gN (Ht rfl) rfl) (dq 8 5 rfl (eJ A_58 Z_58 (Ht rfl) (i:=0) rfl rfl rfl) (dp 1 rfl (eZ gN (Ht rfl) rfl) (dq 10 7 rfl (eJ A_58 Z_58 (Ht rfl) (i:=0) rfl rfl rfl) (dH 9 6 11 8 rfl (cZ K_151 (qD zo zo) ⟨(Ht rfl),(Ht rfl),trivial⟩) (dH 7 4 12 9 rfl (cZ K_152 (vA zo zo) ⟨(Ht rfl),(Ht rfl),trivial⟩) ?_)))))))
 refine d0 rfl (aM.imp (Oz ) Do) (dp 1 rfl (eJ A_60 Z_60 (Ht rfl) (i:=0) rfl rfl rfl) (dq 15 12 rfl (cZ K_153 oU ⟨(Ht rfl),trivial⟩) (dp 1 rfl (eJ A_60 Z_60 (Ht rfl) (i:=0) rfl rfl rfl) (dq 17 14 rfl (cZ K_153 oU ⟨(Ht rfl),trivial⟩) (dH 16 13 18 15 rfl (cZ K_154 (Ej zo zo) ⟨(Ht rfl),(Ht rfl),trivial⟩) (fV bB rfl (by kernel_rfl) (zF (zF (zF (zF (aJ (aV ?_))))))))))))
 refine ro rfl (cZ K_150 (uZ (A:=x.a * x.a + x.b * x.b) (B:=0) (D:=x.den * x.den) hdp zo zo zo) ⟨(Ht rfl),(Ht rfl),(Ht rfl),trivial⟩) (gQ Z_60 (Ht rfl) (Ht rfl) rfl (i:=1) rfl (aK rfl) rfl rfl (eX (fW rfl (fX (fK A_60 Z_60 rfl (i:=1) rfl rfl) ?_))))
 exact (iZ (Qi.mk_norm x))
theorem Pe {x y:List Qi} {f:Qi} {n L M N:Nat} (hx:bH x L) (hf:aH f M) (hy:bH y N) (hL:1 ≤ L) (hN:1 ≤ N) (hb:L + M + N + 4 ≤ 17592186044415) (hxl:x.length = n) (hyl:y.length = n) (hn:n ≤ 1000):bF Tryz.prog 197 [aN x,aE f,aN y] (aN (mxV x f y)):=by
 haveI:=hf
 refine bF.intro Tryz.func197 rfl Tryz.ntmps197 rfl (fun cx=>(ts (rn rfl (fG (Ht rfl)) fun B4=>(ro rfl (cQ cV) (eX (ts (ro rfl (cQ cV) (eX (cK (cK (uL 60 5 (cY (rm rfl (ro rfl (dG U_25 (Ht rfl) (by rw [List.length_map,hxl])) ?_))))))))))))))
 refine ro rfl (cX (cJ 0)) (eX (eG ?_))
 refine jE (fun (i : Nat) (v : Value) => i ≤ n) (fun (i : Nat) (v : Value) => n - i) (fun (i : Nat) (v : Value) => [(0, aN x), (2, aN y), (4, cA B4 0), (7, Is v), (10, NT .i64 n), (11, NT .i64 i)]) (fun (i : Nat) (v : Value) => [box B4 60 [aI (decide (f.a < 0)), aS f.a.natAbs, aI (decide (f.b < 0)), aS f.b.natAbs, aS (du f)], bI 60 5 v ((tab i (fun i => gv x i + f * gv y i)).map aE)]) 0 _ (Nat.zero_le _)
  (zS rfl) (aU (aD rfl) (aU (aP rfl) aY)) (fun i v hi=>?_)
 refine ts (ro rfl (gX (Ht rfl) (Ht rfl)) (eX (cK (dQ (Ht rfl) (fun hd=>?_) (fun hd=>?_)))))
 ·have hin : i < n := by simp only [decide_eq_true_eq] at hd; omega
  haveI f1:aH (gv x i) L:=hx.get hL i
  haveI f2:aH (gv y i) N:=hy.get hN i
  haveI f3:aH (f * gv y i) (M + N + 1):=fitMul
  refine cU (cK (eG (ts (rm rfl (ra rfl (eX (fZ (m:=13) (dp 7 rfl (cX (Ht rfl)) (dp 0 rfl (cX (Ht rfl)) (dp 8 rfl (cX (Ht rfl)) (dH 15 1 16 2 rfl (dZ U_25 Z_60 (Ht rfl) (Ht rfl) rfl (dY (dU (d:=Qi.zero) zo))) (dq 17 3 rfl (dJ A_60 Z_60 (Ht rfl)) (dp 4 rfl (eJ A_60 Z_60 (Ht rfl) (i:=0) rfl rfl rfl) (dp 2 rfl (cX (Ht rfl)) (dp 8 rfl (cX (Ht rfl)) (dH 20 6 21 7 rfl (dZ U_25 Z_60 (Ht rfl) (Ht rfl) rfl (dY (dU (d:=Qi.zero) zo))) ?_))))))))))))))))
  refine dq 22 8 rfl (dJ A_60 Z_60 (Ht rfl)) (dH 19 5 23 9 rfl (cZ K_70 (kY (x:=f) (y:=gv y i) (L:=M) (M:=N) zo) ⟨(Ht rfl),(Ht rfl),trivial⟩) (dH 18 4 24 10 rfl (cZ K_71 (sG (x:=gv x i) (y:=f * gv y i) (L:=L) (M:=M + N + 1) zo) ⟨(Ht rfl),(Ht rfl),trivial⟩) (dq 25 11 rfl (eH (xs:=[.tmp 25]) U_25 Z_60 O_60 (cW (Ht rfl) cG) rfl rfl rfl) (fV bB rfl (by kernel_rfl) (zF (zF (zF (aJ (aV ?_)))))))))
  refine sJ (inf:=Tryz.t60) jS gU rfl rfl rfl (Ht rfl) (Ht rfl) (i:=1) rfl (by simp) (fun T hT=>by simp at hT; subst hT; exact El.ag rfl) (by show _ * 88 ≤ _; simp only [List.length_map,aF,List.length_cons,List.length_nil]; omega) (by simp only [List.length_map,aF,List.length_cons,List.length_nil]; omega) rfl (fun v2=>?_)
  refine ra rfl (eX (bN (cY (ro rfl (dV (Ht rfl) (cJ 1) z6) (rm rfl (eX (fU (i + 1,v2) hin (by dsimp only; omega) (zS rfl) (aU (aD rfl) (aU (aP (by rw [lM,List.map_append]; rfl)) aY)))))))))
 ·have hin : i = n := by simp only [decide_eq_false_iff_not] at hd; omega
  rw [hin]
  refine gV rfl (gJ (i:=1) (tt:=7) rfl rfl gE (ts (rm rfl (ra rfl (eX (fW rfl (fX (eU rfl) ?_)))))))
  exact (jC (by rw [mxV,hxl]))
theorem Ml {G V:List (List Qi)} {vs:List Value} {n i L M B BV:Nat} (hG:cB G n n) (hV:cB V n n) (hvs:Hds vs n) (hfG:bA G L) (hfV:bA V M) (hL:1 ≤ L) (hM:1 ≤ M) (hb:10 * L + 2 * M + 40 ≤ 8796093022208) (hi:i < n) (hn:n ≤ 32):iV Tryz.prog 196 [Is (.slice (some ⟨B,0,none⟩) n n),Is (.slice (some ⟨BV,0,none⟩) n n),NT .i64 i] [jL B 25 60 5 vs vs (cO aE G),bI 25 1 (.slice (some ⟨BV,0,none⟩) n n) (V.map aN)] (Unit) (fun _=>NlT 5 ((Iu G V n i).map aE)) (fun _=>[jL B 25 60 5 vs vs (cO aE G),bI 25 1 (.slice (some ⟨BV,0,none⟩) n n) (V.map aN)]) (fun _=>True):=by
 have hGl:=hG.1
 have hvl:=hvs.len
 haveI h0:=jH
 have hVl:=hV.1
 refine iV.intro Tryz.func196 rfl Tryz.ntmps196 rfl (fun cx Z=>?_)
 haveI g0:aH (gm G i i) L:=hfG.get hL i i
 refine ts (ro rfl (cQ cV) (eX (cK (ts (rm rfl (rm rfl (ro rfl (fY U_26 Z_25 (Ht rfl) (Ht rfl) rfl zo (by rw [Nat.mul_one,Nat.zero_add])) ?_)))))))
 refine ro rfl (fI A_25 Z_25 (Ht rfl) (j:=1) rfl zo) (rm rfl (ro rfl (gP U_25 Z_60 (Ht rfl) (Ht rfl) rfl (j:=1) rfl zo zo (by rw [hG.row zo]; omega)) ?_))
 refine ro rfl (kG A_60 Z_60 (Ht rfl) (j:=1) rfl zo zo (by rw [hG.row zo]; omega)) ?_
 refine ro rfl (cZ K_82 (tP (x:=gm G i i) (L:=L) zo) ⟨(Ht rfl),trivial⟩) (eX (dQ (Ht rfl) (fun h0=>?_) (fun h0=>?_)))
 ·have hne : ¬ gm G i i = Qi.zero := by simpa using h0
  have hz:Iu G V n i = []:=by rw [Iu,if_neg (show ¬ gm G i i = 0 from hne)]
  refine ts (ro rfl (cQ cV) (eX ?_))
  exact kW () trivial [0,1,2] ⟨⟨_,rfl,fun _ _ _ h=>h⟩,⟨_,rfl,fun _ _ _ h=>h⟩,⟨_,rfl,fun _ _ _ h=>h⟩,trivial⟩ (by decide) (xP rfl (fX (eU rfl) (fun v V h=>by rw [hz]; exact .inl ⟨rfl,h⟩)))
 ·have hze0 : gm G i i = Qi.zero := by simpa using h0
  have hze:gm G i i = 0:=hze0
  refine cU (cK (ts (rm rfl (ro rfl (dV (Ht rfl) (cJ 1) z6) (ra rfl (eX (eG ?_)))))))
  refine cI (fun (k : Nat) => (i + 1 ≤ k ∧ k ≤ n) ∧ ∀ j, i + 1 ≤ j → j < k → gm G i j = Qi.zero) (fun (k : Nat) => n - k) (fun (k : Nat) => [(0, Is (.slice (some ⟨B, 0, none⟩) n n)), (1, Is (.slice (some ⟨BV, 0, none⟩) n n)), (2, NT .i64 i), (7, NT .i64 k)]) (fun (k : Nat) => [Z, jL B 25 60 5 vs vs (cO aE G), bI 25 1 (.slice (some ⟨BV, 0, none⟩) n n) (V.map aN)]) (i + 1) ⟨⟨Nat.le_refl _, hi⟩, fun j h1 h2 => by omega⟩
   (zS rfl) (eI.refl _) (fun k ⟨⟨hk1,hk2⟩,hz0⟩=>?_)
  refine cK (ts (rm rfl (rm rfl (ro rfl (jB U_26 (Ht rfl)) (ro rfl (gX (Ht rfl) (Ht rfl)) (eX (dQ (Ht rfl) (fun hc=>?_) (fun hc=>?_))))))))
  ·have hkn : k < n := by simp only [decide_eq_true_eq] at hc; omega
   haveI g1:aH (gm G i k) L:=hfG.get hL i k
   haveI g2:aH (gm G k k) L:=hfG.get hL k k
   have hri:=hG.row hi
   have hrk:=hG.row hkn
   refine cU (cK (eG (cK (ts (rm rfl (rm rfl (ro rfl (fY U_26 Z_25 (Ht rfl) (Ht rfl) rfl zo (by rw [Nat.mul_one,Nat.zero_add])) ?_)))))))
   refine ro rfl (fI A_25 Z_25 (Ht rfl) (j:=1) rfl zo) (rm rfl (ro rfl (gP U_25 Z_60 (Ht rfl) (Ht rfl) rfl (j:=1) rfl zo zo zo) (ro rfl (kG A_60 Z_60 (Ht rfl) (j:=1) rfl zo zo zo) (ro rfl (cZ K_82 (tP (x:=gm G i k) (L:=L) zo) ⟨(Ht rfl),trivial⟩) (ro rfl (gG (Ht rfl)) (eX (dQ (Ht rfl) (fun hd=>?_) (fun hd=>?_))))))))
   ·have hik : gm G i k = Qi.zero := by simpa using hd
    refine gV rfl (cY (rm rfl (ro rfl (dV (Ht rfl) (cJ 1) z6) (ra rfl (eX ?_)))))
    refine fU (k + 1) ⟨⟨by omega, hkn⟩, fun j h1 h2 => by
      by_cases e:j = k
      ·rw [e]; exact hik
      ·exact hz0 j h1 zo⟩ zo (zS rfl) (eI.refl _)
   ·have hik : ¬ gm G i k = Qi.zero := by simpa using hd
    have hK:crK G n i = k:=Gv hk1 zo (fun j h1 h2=>by rw [show decide (gm G i j = 0) = true from decide_eq_true (hz0 j h1 h2)]; rfl) (fun _=>by rw [show decide (gm G i k = 0) = false from decide_eq_false hik]; rfl)
    have hw:Iu G V n i = crV G V i k:=by rw [Iu,if_pos hze,hK,if_pos hkn]
    refine cU (ts (rm rfl (rm rfl (ro rfl (fY U_26 Z_25 (Ht rfl) (Ht rfl) rfl zo (by rw [Nat.mul_one,Nat.zero_add])) ?_))))
    refine ro rfl (fI A_25 Z_25 (Ht rfl) (j:=1) rfl zo) (rm rfl (ro rfl (gP U_25 Z_60 (Ht rfl) (Ht rfl) rfl (j:=1) rfl zo zo zo) (ro rfl (kG A_60 Z_60 (Ht rfl) (j:=1) rfl zo zo zo) (rn rfl (eW (Ts:=[Is (.bool false),Is (.slice none 0 0),Is (.bool false),Is (.slice none 0 0),Is (.slice none 0 0)]) O_60 rfl (fun V=>aW zd (aW zd (aW zd (aW zd (aW zd (aG))))))) fun B8=>?_))))
    refine gQ Z_60 (Ht rfl) (Ht rfl) rfl (i:=3) rfl (aK rfl) rfl rfl (eX (cK (kQ (fun (x:Qi)=>x = crZ (gm G k k)) (fun (x:Qi)=>[(0,Is (.slice (some ⟨B,0,none⟩) n n)),(1,Is (.slice (some ⟨BV,0,none⟩) n n)),(2,NT .i64 i),(7,NT .i64 k),(8,cA B8 0)]) (fun (x:Qi)=>[Z,jL B 25 60 5 vs vs (cO aE G),bI 25 1 (.slice (some ⟨BV,0,none⟩) n n) (V.map aN),box B8 60 [aI (decide (x.a < 0)),aS x.a.natAbs,aI (decide (x.b < 0)),aS x.b.natAbs,aS (du x)]]) ?_ (fun x hx=>?_))))
    ·refine ts (ro rfl (eJ A_60 Z_60 (Ht rfl) (i := 3) rfl rfl rfl) (ro rfl (aM.imp (wJ ) rE) (ro rfl (cZ Tryz.call51 (Vv (x := gm G k k) (y := Qi.zero) (L := L) (M := 1) (hy := aH.zero (Nat.le_refl 1)) zo) ⟨(Ht rfl), (Ht rfl), trivial⟩) (ro rfl (tD (Ht rfl) cV) (eX (dQ (Ht rfl) (fun hn2 => ?_) (fun hn2 => ?_)))))))
     ·refine cY (ro rfl (eJ A_60 Z_60 (Ht rfl) (i:=3) rfl rfl rfl) (ro rfl (cZ Tryz.call168 Pb ⟨(Ht rfl),trivial⟩) (gQ Z_60 (Ht rfl) (Ht rfl) rfl (i:=3) rfl (aK rfl) rfl rfl (eX (bD (-(gm G k k)) (by rw [crZ,Ze,if_pos hn2]) (zS rfl) (eI.refl _))))))
     ·refine cU (bD (gm G k k) (by rw [crZ,Ze,hn2]; rfl) (zS rfl) (eI.refl _))
    ·haveI g3 : aH x L := by
      rw [hx]; unfold crZ; split
      ·exact fitNeg
      ·exact g2
     haveI g4:aH (gm G i k).norm (L + L + 1):=fitNorm
     have hnz:(gm G i k).norm + (gm G i k).norm ≠ 0:=Zg hik
     haveI g5:aH ((gm G i k).norm + (gm G i k).norm) (L + L + 1 + (L + L + 1) + 1):=fitAdd (L:=L + L + 1) (M:=L + L + 1)
     haveI g6:aH (x + Qi.ofInt 1) (L + 1 + 1):=fitAdd (L:=L) (M:=1)
     haveI g7:aH (Uz G i k) (L + 1 + 1 + 3 * (L + L + 1 + (L + L + 1) + 1) + 2):=by rw [Uz,← hx]; exact nS g6 g5 hnz
     refine cK (Y.D_start (m:=26) [] (bY (Ei:=[(8,_)]) rfl rfl (bQ (bJ rfl rfl) bX) rfl rfl (dX rfl (eJ A_60 Z_60 (Ht rfl) (i:=3) rfl rfl rfl)) (bY (Ei:=[]) rfl rfl bX rfl rfl (dX rfl (cZ K_52 (Bg (n:=1) (by decide) (by decide)) ⟨(cJ 1),trivial⟩)) (bY (Ei:=[(50,_),(51,_)]) rfl rfl (bQ (bZ 0 rfl rfl) (bQ (bZ 1 rfl rfl) bX)) rfl rfl (dX rfl (cZ K_71 (sG (x:=x) (y:=Qi.ofInt 1) (L:=L) (M:=1) zo) ⟨(Ht rfl),(Ht rfl),trivial⟩)) ?_))))
     refine bY (Ei:=[(0,_)]) rfl rfl (bQ (bJ rfl rfl) bX) rfl rfl (dX rfl (cX (Ht rfl))) (bY (Ei:=[(2,_)]) rfl rfl (bQ (bJ rfl rfl) bX) rfl rfl (dX rfl (cX (Ht rfl))) (bY (Ei:=[(53,_),(54,_)]) rfl rfl (bQ (bZ 3 rfl rfl) (bQ (bZ 4 rfl rfl) bX)) rfl rfl (dX rfl (fY U_26 Z_25 (Ht rfl) (Ht rfl) rfl zo (by rw [Nat.mul_one,Nat.zero_add]))) ?_))
     refine bY (Ei:=[(55,_)]) rfl rfl (bQ (bZ 5 rfl rfl) bX) rfl rfl (dX rfl (fI A_25 Z_25 (Ht rfl) (j:=1) rfl zo)) (bY (Ei:=[(7,_)]) rfl rfl (bQ (bJ rfl rfl) bX) rfl rfl (dX rfl (cX (Ht rfl))) (bY (Ei:=[(56,_),(57,_)]) rfl rfl (bQ (bZ 6 rfl rfl) (bQ (bZ 7 rfl rfl) bX)) rfl rfl (dX rfl (gP U_25 Z_60 (Ht rfl) (Ht rfl) rfl (j:=1) rfl zo zo zo)) (bY (Ei:=[(58,_)]) rfl rfl (bQ (bZ 8 rfl rfl) bX) rfl rfl (dX rfl (kG A_60 Z_60 (Ht rfl) (j:=1) rfl zo zo zo)) ?_)))
     refine bY (Ei:=[(59,_)]) rfl rfl (bQ (bZ 9 rfl rfl) bX) rfl rfl (dX rfl (cZ Tryz.call50 (Wb (x:=gm G i k) (L:=L) zo) ⟨(Ht rfl),trivial⟩)) (bY (Ei:=[(0,_)]) rfl rfl (bQ (bJ rfl rfl) bX) rfl rfl (dX rfl (cX (Ht rfl))) (bY (Ei:=[(2,_)]) rfl rfl (bQ (bJ rfl rfl) bX) rfl rfl (dX rfl (cX (Ht rfl))) (bY (Ei:=[(61,_),(62,_)]) rfl rfl (bQ (bZ 11 rfl rfl) (bQ (bZ 12 rfl rfl) bX)) rfl rfl (dX rfl (fY U_26 Z_25 (Ht rfl) (Ht rfl) rfl zo (by rw [Nat.mul_one,Nat.zero_add]))) ?_)))
     refine bY (Ei:=[(63,_)]) rfl rfl (bQ (bZ 13 rfl rfl) bX) rfl rfl (dX rfl (fI A_25 Z_25 (Ht rfl) (j:=1) rfl zo)) (bY (Ei:=[(7,_)]) rfl rfl (bQ (bJ rfl rfl) bX) rfl rfl (dX rfl (cX (Ht rfl))) (bY (Ei:=[(64,_),(65,_)]) rfl rfl (bQ (bZ 14 rfl rfl) (bQ (bZ 15 rfl rfl) bX)) rfl rfl (dX rfl (gP U_25 Z_60 (Ht rfl) (Ht rfl) rfl (j:=1) rfl zo zo zo)) (bY (Ei:=[(66,_)]) rfl rfl (bQ (bZ 16 rfl rfl) bX) rfl rfl (dX rfl (kG A_60 Z_60 (Ht rfl) (j:=1) rfl zo zo zo)) ?_)))
     refine bY (Ei:=[(67,_)]) rfl rfl (bQ (bZ 17 rfl rfl) bX) rfl rfl (dX rfl (cZ Tryz.call50 (Wb (x:=gm G i k) (L:=L) zo) ⟨(Ht rfl),trivial⟩)) (bY (Ei:=[(60,_),(68,_)]) rfl rfl (bQ (bZ 10 rfl rfl) (bQ (bZ 18 rfl rfl) bX)) rfl rfl (dX rfl (cZ K_71 (sG (x:=(gm G i k).norm) (y:=(gm G i k).norm) (L:=L + L + 1) (M:=L + L + 1) zo) ⟨(Ht rfl),(Ht rfl),trivial⟩)) (bY (Ei:=[(52,_),(69,_)]) rfl rfl (bQ (bZ 2 rfl rfl) (bQ (bZ 19 rfl rfl) bX)) rfl rfl (dX rfl (cZ K_64 (eQ (qR (x:=x + Qi.ofInt 1) (y:=(gm G i k).norm + (gm G i k).norm) (L:=L + 1 + 1) (M:=L + L + 1 + (L + L + 1) + 1) zo) (by rw [hx]; exact fun _ _ k=>k)) ⟨(Ht rfl),(Ht rfl),trivial⟩)) ?_))
     refine bY (Ei:=[(70,_)]) rfl rfl (bQ (bZ 20 rfl rfl) bX) rfl rfl (dX rfl (cX (Ht rfl))) (bY (Ei:=[(49,_)]) rfl rfl (bQ (bZ 21 rfl rfl) bX) rfl rfl (dX rfl (dK (Ht rfl) rfl)) (bY (Ei:=[(49,_)]) rfl rfl (bQ (bZ 21 rfl rfl) bX) rfl rfl (dX rfl (dK (Ht rfl) rfl)) (Y.D_newp (Ei:=[]) (fun bb=>box bb 60 [aI (decide ((Uz G i k).a < 0)),aS (Uz G i k).a.natAbs,aI (decide ((Uz G i k).b < 0)),aS (Uz G i k).b.natAbs,aS (du (Uz G i k))]) 25 rfl rfl rfl bX rfl rfl (by kernel_rfl) (eW (Ts:=[Is (.bool false),Is (.slice none 0 0),Is (.bool false),Is (.slice none 0 0),Is (.slice none 0 0)]) O_60 rfl (fun V=>aW zd (aW zd (aW zd (aW zd (aW zd (aG))))))) ?_)))
     refine Y.D_putN (Ei:=[(71,_)]) 24 rfl rfl rfl rfl rfl rfl (bQ (bZ 22 rfl rfl) bX) (fun bb=>mK Z_60 (Ht rfl) (Ht rfl) rfl (i:=0) rfl (aK rfl) rfl rfl) (Y.D_done bB rfl (by kernel_rfl) rfl (by simp [Y.okP]) rfl rfl (bU (bU (bU (bU (bU (bU (bU (bU (bU (bU (bU (bU (bU (bU (bU (bU (bU (bU (bU (bU (bU (bU (bU (bU (Y.F_newp (fun B9=>Y.F_putN (Y.F_nil ?_))))))))))))))))))))))))))))
     refine ra rfl (eX (cK ?_))
     haveI g8:aH (-(Uz G i k)) (L + 1 + 1 + 3 * (L + L + 1 + (L + L + 1) + 1) + 2):=fitNeg
     haveI g9:aH (-(Uz G i k) * gm G i k) (L + 1 + 1 + 3 * (L + L + 1 + (L + L + 1) + 1) + 2 + L + 1):=fitMul
     refine fZ (m:=18) (dp 1 rfl (cX (Ht rfl)) (dp 7 rfl (cX (Ht rfl)) (dH 73 0 74 1 rfl (dA U_26 Z_25 (Ht rfl) (Ht rfl) rfl (i:=2) rfl (by rw [List.length_map]; omega) rfl) ?_)))
     refine dq 75 2 rfl (oN A_25 Z_25 (Ht rfl) (i:=2) rfl rfl (dY (dU (d:=[]) zo))) (dp 9 rfl (eJ A_60 Z_60 (Ht rfl) (i:=4) rfl rfl rfl) (dq 77 4 rfl (cZ Tryz.call168 Pb ⟨(Ht rfl),trivial⟩) (dp 0 rfl (cX (Ht rfl)) (dp 2 rfl (cX (Ht rfl)) (dH 79 6 80 7 rfl (fY U_26 Z_25 (Ht rfl) (Ht rfl) rfl zo (by rw [Nat.mul_one,Nat.zero_add])) ?_)))))
     refine dq 81 8 rfl (fI A_25 Z_25 (Ht rfl) (j:=1) rfl zo) (dp 7 rfl (cX (Ht rfl)) (dH 82 9 83 10 rfl (gP U_25 Z_60 (Ht rfl) (Ht rfl) rfl (j:=1) rfl zo zo zo) (dq 84 11 rfl (kG A_60 Z_60 (Ht rfl) (j:=1) rfl zo zo zo) (dH 78 5 85 12 rfl (cZ K_70 (kY (x:=-(Uz G i k)) (y:=gm G i k) (L:=L + 1 + 1 + 3 * (L + L + 1 + (L + L + 1) + 1) + 2) (M:=L) zo) ⟨(Ht rfl),(Ht rfl),trivial⟩) (dp 1 rfl (cX (Ht rfl)) (dp 2 rfl (cX (Ht rfl)) ?_))))))
     refine dH 87 14 88 15 rfl (dA U_26 Z_25 (Ht rfl) (Ht rfl) rfl (i:=2) rfl (by rw [List.length_map]; omega) rfl) ?_
     refine dq 89 16 rfl (oN A_25 Z_25 (Ht rfl) (i:=2) rfl rfl (dY (dU (d:=[]) zo))) (fV bB rfl (by kernel_rfl) (zF (zF (zF (zF (aJ (aJ (aV (ro rfl (cZ Tryz.call197 (Pe (x:=V.getD k []) (f:=-(Uz G i k) * gm G i k) (y:=V.getD i []) (n:=n) (L:=M) (N:=M) (hfV.row k) g9 (hfV.row i) hM hM zo (hV.row hkn) (hV.row hi) zo) ⟨(Ht rfl),(Ht rfl),(Ht rfl),trivial⟩) ?_)))))))))
     refine ra rfl (eX ?_)
     exact kW () trivial [0,1,2] ⟨⟨_,rfl,fun _ _ _ h=>h⟩,⟨_,rfl,fun _ _ _ h=>h⟩,⟨_,rfl,fun _ _ _ h=>h⟩,trivial⟩ (by decide) (xP rfl (fX (eU rfl) (fun v V h=>by rw [hw]; exact .inr ⟨a4f (by rw [hV.row hkn]; omega),h⟩)))
  ·have hkn : k = n := by simp only [decide_eq_false_iff_not] at hc; omega
   have hK:crK G n i = n:=Gv zo zo (fun j h1 h2=>by rw [show decide (gm G i j = 0) = true from decide_eq_true (hz0 j h1 zo)]; rfl) (fun h=>by omega)
   have hw:Iu G V n i = []:=by rw [Iu,if_pos hze,hK,if_neg zo]
   refine gV rfl (ts (ro rfl (cQ cV) (eX ?_)))
   exact kW () trivial [0,1,2] ⟨⟨_,rfl,fun _ _ _ h=>h⟩,⟨_,rfl,fun _ _ _ h=>h⟩,⟨_,rfl,fun _ _ _ h=>h⟩,trivial⟩ (by decide) (xP rfl (fX (eU rfl) (fun v V h=>by rw [hw]; exact .inl ⟨rfl,h⟩)))
end
section
open Go Go.RowKit
theorem Me {h:List (List Qi)} {n L G0 V0:Nat} (hs:cB h n n) (hf:bA h L) (hL:1 ≤ L) (hLb:L ≤ 4000000000000) (hz:yY h n = true → SzD h n G0 V0) (hn:n ≤ 32):bF Tryz.prog 98 [cH h] (eD [aI (dfB h n),aN (dfW h n),aL .i64 (dfX h n)]):=by
 have hsl:=hs.1
 haveI h0:=jH
 refine bF.intro Tryz.func98 rfl Tryz.ntmps98 rfl (fun cx=>(ts (ro rfl (cQ cV) (ro rfl (cQ cV) (ro rfl (cQ (cJ 0)) (eX (cK (ts (rm rfl (ro rfl (cZ Tryz.call172 (Ek hs hn) ⟨(Ht rfl),trivial⟩) (ro rfl (gG (Ht rfl)) (eX (kP (Ht rfl) (by rfl) ?_)))))))))))))
 refine cU (cK (ts (rm rfl (ro rfl (dG U_26 (Ht rfl) (by rw [List.length_map,hsl])) ?_))))
 refine ro rfl (cX (cJ 0)) (eX (eG ?_))
 refine cI (fun (i : Nat) => i ≤ n ∧ ∀ a, a < i → ∀ b, b < n → gm h a b = (gm h b a).conj) (fun (i : Nat) => n - i) (fun (i : Nat) => [(0, cH h), (19, cH h), (20, NT .i64 n), (21, NT .i64 i)]) (fun (i : Nat) => []) 0 ⟨Nat.zero_le _, fun a h => by omega⟩
  (zS rfl) aY (fun i ⟨hi,hh⟩=>?_)
 refine ts (ro rfl (gX (Ht rfl) (Ht rfl)) (eX (cK (dQ (Ht rfl) (fun hc=>?_) (fun hc=>?_)))))
 ·have hin : i < n := by simp only [decide_eq_true_eq] at hc; omega
  have hri:=hs.row hin
  refine cU (cK (eG (ts (rm rfl (ro rfl (dZ U_26 Z_25 (Ht rfl) (Ht rfl) rfl (dY (dU (d:=[]) zo))) (ro rfl (dJ A_25 Z_25 (Ht rfl)) (ra rfl (ra rfl (eX (ts (rm rfl (ro rfl (dG U_25 (Ht rfl) (by rw [List.length_map,hri])) ?_))))))))))))
  refine ro rfl (cX (cJ 0)) (eX (eG ?_))
  refine cI (fun (k : Nat) => k ≤ n ∧ ∀ b, b < k → gm h i b = (gm h b i).conj) (fun (k : Nat) => n - k) (fun (k : Nat) => [(0, cH h), (5, NT .i64 i), (6, aN (h.getD i [])), (19, cH h), (20, NT .i64 n), (21, NT .i64 i), (27, NT .i64 n), (28, NT .i64 k)]) (fun (k : Nat) => []) 0 ⟨Nat.zero_le _, fun b h => by omega⟩
   (zS rfl) aY (fun k ⟨hk,hk0⟩=>?_)
  refine ts (ro rfl (gX (Ht rfl) (Ht rfl)) (eX (cK (dQ (Ht rfl) (fun hd=>?_) (fun hd=>?_)))))
  ·have hkn : k < n := by simp only [decide_eq_true_eq] at hd; omega
   have hrk:=hs.row hkn
   haveI f1:aH (gm h i k) L:=hf.get hL i k
   haveI f2:aH (gm h k i) L:=hf.get hL k i
   haveI f3:aH (gm h k i).conj L:=fitConj
   refine cU (cK (eG (ts (rm rfl (ra rfl (eX (cK (fZ (m:=12) (dp 6 rfl (cX (Ht rfl)) (dp 7 rfl (cX (Ht rfl)) (dH 31 0 32 1 rfl (dZ U_25 Z_60 (Ht rfl) (Ht rfl) rfl (dY (dU (d:=Qi.zero) zo))) (dq 33 2 rfl (dJ A_60 Z_60 (Ht rfl)) (dp 0 rfl (cX (Ht rfl)) (dp 7 rfl (cX (Ht rfl)) (dH 35 4 36 5 rfl (dZ U_26 Z_25 (Ht rfl) (Ht rfl) rfl (dY (dU (d:=[]) zo))) (dq 37 6 rfl (dJ A_25 Z_25 (Ht rfl)) (dp 5 rfl (cX (Ht rfl)) ?_)))))))))))))))))
   refine dH 38 7 39 8 rfl (dZ U_25 Z_60 (Ht rfl) (Ht rfl) rfl (dY (dU (d:=Qi.zero) zo))) (dq 40 9 rfl (dJ A_60 Z_60 (Ht rfl)) (dq 41 10 rfl (cZ Tryz.call173 Vx ⟨(Ht rfl),trivial⟩) (fV bB rfl (by kernel_rfl) (zF (zF (zF (aV (ro rfl (cZ Tryz.call100 (Gd (x:=gm h i k) (y:=(gm h k i).conj) (L:=L) (M:=L) zo zo) ⟨(Ht rfl),(Ht rfl),trivial⟩) (ro rfl (gG (Ht rfl)) ?_)))))))))
   refine eX (dQ (Ht rfl) (fun he=>?_) (fun he=>?_))
   ·have hne : ¬ gm h i k = (gm h k i).conj := by simpa using he
    have hf0:¬ yY h n = true:=fun e=>hne (of_decide_eq_true e i hin k hkn)
    refine ts (ro rfl (cQ cV) (ro rfl (cQ cV) (ro rfl (cQ (cJ 1)) (eX (xX rfl (fX (eU rfl) ?_) (fX (eU rfl) ?_) (fX (eU rfl) ?_))))))
    ·exact (fO (by rw [dfB,if_neg hf0]))
    ·exact (fun v V k=>by rw [dfW,if_neg hf0]; exact iP v V k)
    ·exact (aT (by rw [dfX,if_neg hf0]; rfl))
   ·have heq : gm h i k = (gm h k i).conj := by simpa using he
    refine cU (bN (cY (ro rfl (dV (Ht rfl) (cJ 1) z6) (rm rfl (eX ?_)))))
    refine fU (k + 1) ⟨hkn, fun b h1 => by
      by_cases e:b = k
      ·rw [e]; exact heq
      ·exact hk0 b zo⟩ zo (zS rfl) aY
  ·have hkn : k = n := by simp only [decide_eq_false_iff_not] at hd; omega
   refine gV rfl (bN (cY (ro rfl (dV (Ht rfl) (cJ 1) z6) (rm rfl (eX ?_)))))
   refine fU (i + 1) ⟨hin, fun a h1 b h2 => by
     by_cases e:a = i
     ·rw [e]; exact hk0 b zo
     ·exact hh a zo b h2⟩ zo (zS rfl) aY
 ·have hin : i = n := by simp only [decide_eq_false_iff_not] at hc; omega
  have hh0:yY h n = true:=decide_eq_true (fun a h1 b h2=>hh a zo b h2)
  have hz:=hz hh0
  have hg1:=hz.g1
  have hv1:=hz.v1
  have hzb:=hz.b
  clear hin hi hh hc
  refine gV rfl (ts (rm rfl (mW Tryz.call195 (Ef hs zo zo) ⟨(Ht rfl),cV,trivial⟩ rfl (fun B48 _=>(rm rfl (ro rfl (dG U_26 (Ht rfl) (by rw [List.length_map,hsl])) ?_))))))
  refine mW Tryz.call144 (a3p (n:=n) hn) ⟨(Ht rfl),trivial⟩ rfl (fun B51 _=>(ra rfl (ra rfl (eX (cK (ts (rm rfl (ro rfl (jB U_26 (Ht rfl)) (ro rfl (cX (cJ 0)) (eX (eG (Lz 1 (m:=n) (Us:=(qP n).map aN) rfl (Nat.le_trans hn (by decide)) (by rw [cO,List.length_map,(mY n).1]) (by rw [cO,List.map_map]; rfl) ?_))))))))))))
  refine Fy 0 rfl (fun vs hvs=>?_)
  have hvs2:Hds vs n:=by have h:=hvs; rw [cO,List.length_map,hsl] at h; exact h
  refine cI (fun (i : Nat) => i ≤ n ∧ Ls h n (n - i) i = Ls h n n 0) (fun (i : Nat) => n - i) (fun (i : Nat) => [(8, Is (.slice (some ⟨B48, 0, none⟩) n n)), (9, Is (.slice (some ⟨B51, 0, none⟩) n n)), (53, NT .i64 n), (54, NT .i64 i)]) (fun (i : Nat) => [jL B48 25 60 5 vs vs (cO aE (qW h n i).1), bI 25 1 (.slice (some ⟨B51, 0, none⟩) n n) ((qW h n i).2.map aN)]) 0 ⟨Nat.zero_le _, rfl⟩
   (zS rfl) (eI.refl _) (fun i ⟨hi,hR⟩=>?_)
  refine ts (ro rfl (gX (Ht rfl) (Ht rfl)) (eX (cK (dQ (Ht rfl) (fun hc=>?_) (fun hc=>?_)))))
  ·have hin : i < n := by simp only [decide_eq_true_eq] at hc; omega
   have hvl:=hvs2.len
   obtain ⟨hGs,hVs⟩:=Po hs i hi
   have hGf:=hz.g i hi
   have hVf:=hz.v i hi
   have r1:=a1G (h:=h) hin
   have r2:=a1F (h:=h) hin
   have r3:=a4h (h:=h) hin
   have r4:=Jt (h:=h) (n:=n) (i:=i)
   have r5:=a4i (h:=h) (n:=n) (i:=i)
   rw [hR] at r1 r2 r3
   obtain ⟨S,hS⟩:∃ S,S = qW h n (i + 1):=⟨_,rfl⟩
   rw [← hS] at r4 r5
   obtain ⟨D,hD⟩:∃ D,D = qW h n i:=⟨_,rfl⟩
   rw [← hD] at hGs hVs hGf hVf r1 r2 r3 r4 r5 ⊢
   obtain ⟨X,U⟩:=D
   dsimp only at hGs hVs hGf hVf r1 r2 r3 r4 r5 ⊢
   have hXl:=hGs.1
   have hUl:=hVs.1
   have hri:=hGs.row hin
   haveI g1:aH (gm X i i) G0:=hGf.get hg1 i i
   refine cU (cK (eG (ts (rm rfl (ra rfl (eX (cK (ts (rm rfl (rm rfl (ro rfl (fY U_26 Z_25 (Ht rfl) (Ht rfl) rfl zo (by rw [Nat.mul_one,Nat.zero_add])) ?_)))))))))))
   refine ro rfl (fI A_25 Z_25 (Ht rfl) (j:=0) rfl zo) (rm rfl (ro rfl (gP U_25 Z_60 (Ht rfl) (Ht rfl) rfl (j:=0) rfl zo zo zo) (ro rfl (kG A_60 Z_60 (Ht rfl) (j:=0) rfl zo zo zo) (ro rfl (aM.imp (wJ ) rE) (ro rfl (cZ Tryz.call51 (Vv (x:=gm X i i) (y:=Qi.zero) (L:=G0) (M:=1) (hy:=aH.zero (Nat.le_refl 1)) zo) ⟨(Ht rfl),(Ht rfl),trivial⟩) (ro rfl (tD (Ht rfl) cV) (eX (dQ (Ht rfl) (fun hng=>?_) (fun hng=>?_)))))))))
   ·have hq := r1 hng
    refine cK (fZ (m:=5) (dp 9 rfl (cX (Ht rfl)) (dp 10 rfl (cX (Ht rfl)) (dH 67 0 68 1 rfl (dA U_26 Z_25 (Ht rfl) (Ht rfl) rfl (i:=1) rfl (by rw [List.length_map]; omega) rfl) ?_))))
    refine dq 69 2 rfl (oN A_25 Z_25 (Ht rfl) (i:=1) rfl rfl (dY (dU (d:=[]) zo))) (d0 rfl (cQ cV) (fV bB rfl (by kernel_rfl) (zF (aJ (aV (ra rfl (ro rfl (cQ (cJ 0)) (eX (xX rfl (fX (eU rfl) ?_) (fX (eU rfl) ?_) (fX (eU rfl) ?_))))))))))
    ·exact (fO (by rw [dfB,if_pos hh0,hq]))
    ·exact (jC (by rw [dfW,if_pos hh0,hq]))
    ·exact (aT (by rw [dfX,if_pos hh0]; rfl))
   ·have hng2 : Ze (gm X i i) ≠ true := by rw [Ze, hng]; simp
    refine cU (cK (ts (rm rfl (rm rfl (rm rfl (a0Y Tryz.call196 (Ml (i:=i) (L:=G0) (M:=V0) hGs hVs hvs2 hGf hVf hg1 hv1 zo hin hn) (i:=0) (j:=1) rfl rfl (by decide) ⟨(Ht rfl),(Ht rfl),(Ht rfl),trivial⟩ rfl (fun uu _=>(ra rfl (eX (ts (rm rfl (ro rfl (Tx (q:=decide (Iu X U n i ≠ [])) (by simp) U_25 (Ht rfl)) ?_))))))))))))
    refine eX (dQ (Ht rfl) (fun hw=>?_) (fun hw=>?_))
    ·have hw2 : Iu X U n i ≠ [] := by simpa using hw
     have hq:=r2 hng2 hw2
     refine ts (rm rfl (ro rfl (cQ cV) (ra rfl (ro rfl (cQ (cJ 0)) (eX (xX rfl (fX (eU rfl) ?_) (fX (eU rfl) ?_) (fX (eU rfl) ?_)))))))
     ·exact (fO (by rw [dfB,if_pos hh0,hq]))
     ·exact (fun v V k=>by rw [dfW,if_pos hh0,hq]; exact k.elim (fun k=>absurd k.1 (by simpa using hw2)) (fun k=>k.2))
     ·exact (aT (by rw [dfX,if_pos hh0]; rfl))
    ·have hw2 : Iu X U n i = [] := by simpa using hw
     have hq:=r3 hng2 hw2
     refine cU (cK (ts (rm rfl (rm rfl (ro rfl (fY U_26 Z_25 (Ht rfl) (Ht rfl) rfl zo (by rw [Nat.mul_one,Nat.zero_add])) ?_)))))
     refine ro rfl (fI A_25 Z_25 (Ht rfl) (j:=0) rfl zo) (rm rfl (ro rfl (gP U_25 Z_60 (Ht rfl) (Ht rfl) rfl (j:=0) rfl zo zo zo) (ro rfl (kG A_60 Z_60 (Ht rfl) (j:=0) rfl zo zo zo) (ro rfl (cZ K_82 (tP (x:=gm X i i) (L:=G0) zo) ⟨(Ht rfl),trivial⟩) (ro rfl (gG (Ht rfl)) (eX (dQ (Ht rfl) (fun hcl=>?_) (fun hcl=>?_))))))))
     ·have hx0 : gm X i i = Qi.zero := by simpa using hcl
      have e4:=r4 hx0
      refine gV rfl (cY (ro rfl (dV (Ht rfl) (cJ 1) z6) (rm rfl (eX (fU (i + 1) ⟨hin,hq.symm⟩ zo (zS rfl) (aU (pC (by rw [← hS,e4])) (aU (aP (by rw [← hS,e4])) aY)))))))
     ·have hx0 : ¬ gm X i i = Qi.zero := by simpa using hcl
      have e5:=r5 hx0
      refine cU (ts (rm rfl (ro rfl (dV (Ht rfl) (cJ 1) z6) (ra rfl (eX (eG ?_))))))
      refine cI (fun (k : Nat) => i + 1 ≤ k ∧ k ≤ n) (fun (k : Nat) => n - k) (fun (k : Nat) => [(8, Is (.slice (some ⟨B48, 0, none⟩) n n)), (9, Is (.slice (some ⟨B51, 0, none⟩) n n)), (10, NT .i64 i), (12, NT .i64 k), (53, NT .i64 n), (54, NT .i64 i)]) (fun (k : Nat) => [jL B48 25 60 5 vs vs (cO aE (yA X n i k 0)), bI 25 1 (.slice (some ⟨B51, 0, none⟩) n n) ((sQ X U n i k).map aN)]) (i + 1) ⟨Nat.le_refl _, hin⟩
       (zS rfl) (aU (pC (by rw [Sw hGs])) (aU (aP (by rw [Mu hUl])) aY)) (fun k ⟨hk1,hk2⟩=>?_)
      refine cK (ts (rm rfl (rm rfl (ro rfl (jB U_26 (Ht rfl)) (ro rfl (gX (Ht rfl) (Ht rfl)) (eX (dQ (Ht rfl) (fun hd=>?_) (fun hd=>?_))))))))
      ·have hkn : k < n := by simp only [decide_eq_true_eq] at hd; omega
       have hYs:=rR X n i k 0
       obtain ⟨Yk,hY⟩:∃ Yk,Yk = yA X n i k 0:=⟨_,rfl⟩
       have y1:gm Yk i k = gm X i k:=by rw [hY]; exact Gl hin hkn zo
       have y2:gm Yk i i = gm X i i:=by rw [hY]; exact Gl hin hin zo
       rw [← hY] at hYs ⊢
       have hYl:=hYs.1
       have hYi:=hYs.row hin
       haveI g2:aH (gm X i k) G0:=hGf.get hg1 i k
       haveI g3:aH (gm Yk i k) G0:=by rw [y1]; exact g2
       haveI g4:aH (gm Yk i i) G0:=by rw [y2]; exact g1
       have g5:aH (gm X i k / gm X i i) (G0 + 3 * G0 + 2):=nS g2 g1 hx0
       obtain ⟨Q,hQ⟩:∃ Q,Q = sQ X U n i k:=⟨_,rfl⟩
       have q1:Q.getD k [] = U.getD k []:=by rw [hQ]; exact Ju hkn zo
       have q2:Q.getD i [] = U.getD i []:=by rw [hQ]; exact Ju hin zo
       have hQl:Q.length = n:=by rw [hQ]; exact aF _ _
       have q3:bH (Q.getD k []) V0:=by rw [q1]; exact hVf.row k
       have q4:bH (Q.getD i []) V0:=by rw [q2]; exact hVf.row i
       have q5:(Q.getD k []).length = n:=by rw [q1]; exact hVs.row hkn
       have q6:(Q.getD i []).length = n:=by rw [q2]; exact hVs.row hin
       rw [← hQ]
       obtain ⟨F,hF⟩:∃ F,F = gm X i k / gm X i i:=⟨_,rfl⟩
       rw [← hF] at g5
       haveI g6:aH F (G0 + 3 * G0 + 2):=g5
       have g7:aH (-F) (G0 + 3 * G0 + 2):=fitNeg
       have hfd:gm Yk i k / gm Yk i i = F:=by rw [y1,y2,hF]
       refine cU (cK (eG (cK (Y.D_start (m:=20) [] (bY (Ei:=[(8,_)]) rfl rfl (bQ (bJ rfl rfl) bX) rfl rfl (dX rfl (cX (Ht rfl))) (bY (Ei:=[(10,_)]) rfl rfl (bQ (bJ rfl rfl) bX) rfl rfl (dX rfl (cX (Ht rfl))) (bY (Ei:=[(96,_),(97,_)]) rfl rfl (bQ (bZ 0 rfl rfl) (bQ (bZ 1 rfl rfl) bX)) rfl rfl (dX rfl (fY U_26 Z_25 (Ht rfl) (Ht rfl) rfl zo (by rw [Nat.mul_one,Nat.zero_add]))) ?_)))))))
       refine bY (Ei:=[(98,_)]) rfl rfl (bQ (bZ 2 rfl rfl) bX) rfl rfl (dX rfl (fI A_25 Z_25 (Ht rfl) (j:=0) rfl zo)) (bY (Ei:=[(12,_)]) rfl rfl (bQ (bJ rfl rfl) bX) rfl rfl (dX rfl (cX (Ht rfl))) (bY (Ei:=[(99,_),(100,_)]) rfl rfl (bQ (bZ 3 rfl rfl) (bQ (bZ 4 rfl rfl) bX)) rfl rfl (dX rfl (gP U_25 Z_60 (Ht rfl) (Ht rfl) rfl (j:=0) rfl zo zo zo)) (bY (Ei:=[(101,_)]) rfl rfl (bQ (bZ 5 rfl rfl) bX) rfl rfl (dX rfl (kG A_60 Z_60 (Ht rfl) (j:=0) rfl zo zo zo)) ?_)))
       refine bY (Ei:=[(8,_)]) rfl rfl (bQ (bJ rfl rfl) bX) rfl rfl (dX rfl (cX (Ht rfl))) (bY (Ei:=[(10,_)]) rfl rfl (bQ (bJ rfl rfl) bX) rfl rfl (dX rfl (cX (Ht rfl))) (bY (Ei:=[(103,_),(104,_)]) rfl rfl (bQ (bZ 7 rfl rfl) (bQ (bZ 8 rfl rfl) bX)) rfl rfl (dX rfl (fY U_26 Z_25 (Ht rfl) (Ht rfl) rfl zo (by rw [Nat.mul_one,Nat.zero_add]))) ?_))
       refine bY (Ei:=[(105,_)]) rfl rfl (bQ (bZ 9 rfl rfl) bX) rfl rfl (dX rfl (fI A_25 Z_25 (Ht rfl) (j:=0) rfl zo)) (bY (Ei:=[(10,_)]) rfl rfl (bQ (bJ rfl rfl) bX) rfl rfl (dX rfl (cX (Ht rfl))) (bY (Ei:=[(106,_),(107,_)]) rfl rfl (bQ (bZ 10 rfl rfl) (bQ (bZ 11 rfl rfl) bX)) rfl rfl (dX rfl (gP U_25 Z_60 (Ht rfl) (Ht rfl) rfl (j:=0) rfl zo zo zo)) (bY (Ei:=[(108,_)]) rfl rfl (bQ (bZ 12 rfl rfl) bX) rfl rfl (dX rfl (kG A_60 Z_60 (Ht rfl) (j:=0) rfl zo zo zo)) ?_)))
       refine bY (Ei:=[(102,_),(109,_)]) rfl rfl (bQ (bZ 6 rfl rfl) (bQ (bZ 13 rfl rfl) bX)) rfl rfl (dX rfl (cZ K_64 (eQ (qR (x:=gm Yk i k) (y:=gm Yk i i) (L:=G0) (M:=G0) zo) (by rw [hfd]; exact fun _ _ k=>k)) ⟨(Ht rfl),(Ht rfl),trivial⟩)) ?_
       refine bY (Ei:=[(110,_)]) rfl rfl (bQ (bZ 14 rfl rfl) bX) rfl rfl (dX rfl (cX (Ht rfl))) (bY (Ei:=[(95,_)]) rfl rfl (bQ (bZ 15 rfl rfl) bX) rfl rfl (dX rfl (dK (Ht rfl) rfl)) (bY (Ei:=[(95,_)]) rfl rfl (bQ (bZ 15 rfl rfl) bX) rfl rfl (dX rfl (dK (Ht rfl) rfl)) (Y.D_newp (Ei:=[]) (fun bb=>box bb 60 [aI (decide (F.a < 0)),aS F.a.natAbs,aI (decide (F.b < 0)),aS F.b.natAbs,aS (du F)]) 19 rfl rfl rfl bX rfl rfl (by kernel_rfl) (eW (Ts:=[Is (.bool false),Is (.slice none 0 0),Is (.bool false),Is (.slice none 0 0),Is (.slice none 0 0)]) O_60 rfl (fun V=>aW zd (aW zd (aW zd (aW zd (aW zd (aG))))))) ?_)))
       refine Y.D_putN (Ei:=[(111,_)]) 18 rfl rfl rfl rfl rfl rfl (bQ (bZ 16 rfl rfl) bX) (fun bb=>mK Z_60 (Ht rfl) (Ht rfl) rfl (i:=0) rfl (aK rfl) rfl rfl) (Y.D_done bB rfl (by kernel_rfl) rfl (by simp [Y.okP]) rfl rfl (bU (bU (bU (bU (bU (bU (bU (bU (bU (bU (bU (bU (bU (bU (bU (bU (bU (bU (Y.F_newp (fun B13=>Y.F_putN (Y.F_nil ?_))))))))))))))))))))))
       refine ra rfl (eX (cK (fZ (m:=13) (dp 9 rfl (cX (Ht rfl)) (dp 12 rfl (cX (Ht rfl)) (dp 9 rfl (cX (Ht rfl)) (dp 12 rfl (cX (Ht rfl)) (dH 115 2 116 3 rfl (dA U_26 Z_25 (Ht rfl) (Ht rfl) rfl (i:=1) rfl (by rw [List.length_map]; omega) rfl) ?_))))))))
       refine dq 117 4 rfl (oN A_25 Z_25 (Ht rfl) (i:=1) rfl rfl (dY (dU (d:=[]) zo))) (dp 13 rfl (eJ A_60 Z_60 (Ht rfl) (i:=2) rfl rfl rfl) (dq 119 6 rfl (cZ Tryz.call168 Pb ⟨(Ht rfl),trivial⟩) (dp 9 rfl (cX (Ht rfl)) (dp 10 rfl (cX (Ht rfl)) (dH 121 8 122 9 rfl (dA U_26 Z_25 (Ht rfl) (Ht rfl) rfl (i:=1) rfl (by rw [List.length_map]; omega) rfl) ?_)))))
       refine dq 123 10 rfl (oN A_25 Z_25 (Ht rfl) (i:=1) rfl rfl (dY (dU (d:=[]) zo))) (C.D_step (Ei:=[(118,_),(120,_),(124,_)]) rfl rfl (bV (bG 5 rfl rfl) (bV (bG 7 rfl rfl) (bV (bG 11 rfl rfl) bW))) (dX rfl (cZ Tryz.call197 (Pe (n:=n) (L:=V0) (N:=V0) q3 g7 q4 hv1 hv1 zo q5 q6 zo) ⟨(Ht rfl),(Ht rfl),(Ht rfl),trivial⟩)) (fV bB rfl (by kernel_rfl) (zF (zF (zF (aJ (aV ?_)))))))
       refine ro rfl (dA U_26 Z_25 (Ht rfl) (Ht rfl) rfl (i:=1) rfl (by rw [List.length_map]; omega) rfl) ?_
       refine lZ Z_25 (Ht rfl) (Ht rfl) El.one (i:=1) rfl rfl (by rw [List.length_map]; omega) rfl ?_
       refine eX (ts (rm rfl (ro rfl (dV (Ht rfl) (cJ 1) z6) (ra rfl (eX (eG ?_))))))
       refine cI (fun (l : Nat) => i + 1 ≤ l ∧ l ≤ n) (fun (l : Nat) => n - l) (fun (l : Nat) => [(8, Is (.slice (some ⟨B48, 0, none⟩) n n)), (9, Is (.slice (some ⟨B51, 0, none⟩) n n)), (10, NT .i64 i), (12, NT .i64 k), (13, cA B13 0), (15, NT .i64 l), (53, NT .i64 n), (54, NT .i64 i)]) (fun (l : Nat) => [jL B48 25 60 5 vs vs (cO aE (yA X n i k l)), bI 25 1 (.slice (some ⟨B51, 0, none⟩) n n) ((sQ X U n i (k + 1)).map aN), box B13 60 [aI (decide (F.a < 0)), aS F.a.natAbs, aI (decide (F.b < 0)), aS F.b.natAbs, aS (du F)]]) (i + 1) ⟨Nat.le_refl _, hin⟩
        (zS rfl) (aU (pC (by rw [hY,a1I])) (aU (aP (by rw [← List.map_set,q1,q2,hF,hQ]; exact congrArg _ (Sx hkn zo))) (aU (aD rfl) aY))) (fun l ⟨hl1,hl2⟩=>?_)
       refine cK (ts (rm rfl (rm rfl (ro rfl (jB U_26 (Ht rfl)) (ro rfl (gX (Ht rfl) (Ht rfl)) (eX (dQ (Ht rfl) (fun he=>?_) (fun he=>?_))))))))
       ·have hln : l < n := by simp only [decide_eq_true_eq] at he; omega
        have hTs:=rR X n i k l
        have hst:=Wz (G:=X) (n:=n) (i:=i) (k:=k) (l:=l) hln hkn zo zo
        obtain ⟨T,hT⟩:∃ T,T = yA X n i k l:=⟨_,rfl⟩
        have t1:gm T l k = gm X l k:=by rw [hT]; exact Gl hln hkn zo
        have t2:gm T l i = gm X l i:=by rw [hT]; exact Gl hln hin zo
        rw [← hF,← t1,← t2,← hT] at hst
        rw [← hT] at hTs ⊢
        have hTl:=hTs.1
        have hTr:=hTs.row hln
        have hTg:(T.getD l []).length = n:=hTr
        haveI p1:aH (gm T l k) G0:=by rw [t1]; exact hGf.get hg1 l k
        haveI p2:aH (gm T l i) G0:=by rw [t2]; exact hGf.get hg1 l i
        haveI p3:aH (gm T l i * F) (G0 + (G0 + 3 * G0 + 2) + 1):=fitMul
        refine cU (cK (eG (fZ (m:=22) (dp 8 rfl (cX (Ht rfl)) (dp 15 rfl (cX (Ht rfl)) (dH 135 0 136 1 rfl (fY U_26 Z_25 (Ht rfl) (Ht rfl) rfl zo (by rw [Nat.mul_one,Nat.zero_add])) ?_))))))
        refine dq 137 2 rfl (fI A_25 Z_25 (Ht rfl) (j:=0) rfl zo) (dp 12 rfl (cX (Ht rfl)) (dp 8 rfl (cX (Ht rfl)) (dp 15 rfl (cX (Ht rfl)) (dH 140 5 141 6 rfl (fY U_26 Z_25 (Ht rfl) (Ht rfl) rfl zo (by rw [Nat.mul_one,Nat.zero_add])) ?_))))
        refine dq 142 7 rfl (fI A_25 Z_25 (Ht rfl) (j:=0) rfl zo) (dp 12 rfl (cX (Ht rfl)) (dH 143 8 144 9 rfl (gP U_25 Z_60 (Ht rfl) (Ht rfl) rfl (j:=0) rfl zo zo zo) (dq 145 10 rfl (kG A_60 Z_60 (Ht rfl) (j:=0) rfl zo zo zo) (dp 8 rfl (cX (Ht rfl)) (dp 15 rfl (cX (Ht rfl)) (dH 147 12 148 13 rfl (fY U_26 Z_25 (Ht rfl) (Ht rfl) rfl zo (by rw [Nat.mul_one,Nat.zero_add])) ?_))))))
        refine dq 149 14 rfl (fI A_25 Z_25 (Ht rfl) (j:=0) rfl zo) (dp 10 rfl (cX (Ht rfl)) (dH 150 15 151 16 rfl (gP U_25 Z_60 (Ht rfl) (Ht rfl) rfl (j:=0) rfl zo zo zo) (dq 152 17 rfl (kG A_60 Z_60 (Ht rfl) (j:=0) rfl zo zo zo) (dp 13 rfl (eJ A_60 Z_60 (Ht rfl) (i:=2) rfl rfl rfl) (dH 153 18 154 19 rfl (cZ K_70 (kY (x:=gm T l i) (y:=F) (L:=G0) (M:=G0 + 3 * G0 + 2) zo) ⟨(Ht rfl),(Ht rfl),trivial⟩) ?_)))))
        refine dH 146 11 155 20 rfl (cZ K_69 (uO (x:=gm T l k) (y:=gm T l i * F) (L:=G0) (M:=G0 + (G0 + 3 * G0 + 2) + 1) zo) ⟨(Ht rfl),(Ht rfl),trivial⟩) (fV bB rfl (by kernel_rfl) (zF (zF (zF (zF (zF (aJ (aJ (aV (ro rfl (gP U_25 Z_60 (Ht rfl) (Ht rfl) rfl (j:=0) rfl zo zo zo) (a3j Z_60 (Ht rfl) (Ht rfl) (j:=0) rfl (El.ag rfl) (F:=aE) (z:=gm T l k - gm T l i * F) zo zo zo rfl ?_)))))))))))
        refine eX (bN (cY (rm rfl (ro rfl (dV (Ht rfl) (cJ 1) z6) (ra rfl (eX (fU (l + 1) ⟨by omega,hln⟩ zo (zS rfl) (aU (pC (congrArg _ hst)) (aU (fun _ _ _ h=>h) (aU (aD rfl) aY))))))))))
       ·have hln : l = n := by simp only [decide_eq_false_iff_not] at he; omega
        rw [hln,a1H]
        refine gV rfl (bN (cY (rm rfl (ro rfl (dV (Ht rfl) (cJ 1) z6) (ra rfl (eX (cM [0,1] rfl (by decide) (fU (k + 1) ⟨by omega,hkn⟩ zo (zS rfl) (aU (fun _ _ _ h=>h) (aU (fun _ _ _ h=>h) aY))))))))))
      ·have hkn : k = n := by simp only [decide_eq_false_iff_not] at hd; omega
       rw [hkn]
       refine gV rfl (bN (cY (ro rfl (dV (Ht rfl) (cJ 1) z6) (rm rfl (eX (fU (i + 1) ⟨hin,hq.symm⟩ zo (zS rfl) (aU (pC (by rw [← hS,e5]; rfl)) (aU (aP (by rw [← hS,e5])) aY))))))))
  ·have hin : i = n := by simp only [decide_eq_false_iff_not] at hc; omega
   have hq:Ls h n n 0 = (true,[]):=by rw [← hR,hin,Nat.sub_self]; rfl
   refine gV rfl (ts (ro rfl (cQ cV) (ro rfl (cQ cV) (ro rfl (cQ (cJ 0)) (eX (xX rfl (fX (eU rfl) ?_) (fX (eU rfl) ?_) (fX (eU rfl) ?_)))))))
   ·exact (fO (by rw [dfB,if_pos hh0,hq]))
   ·exact (fun v V k=>by rw [dfW,if_pos hh0,hq]; exact iP v V k)
   ·exact (aT (by rw [dfX,if_pos hh0]; rfl))
end
section
open Go Go.RowKit
theorem Yj:Tryz.prog.info? 3 = some Tryz.t3:=by kernel_rfl
theorem Rr:Tryz.prog.underlying 103 = some (.slice 3):=by kernel_rfl
end
section
open Go Go.RowKit
theorem Mf {l:List Int} {v:Int} (hl:l.length ≤ 1000000):bF Tryz.prog 230 [kM 1 (l.map (aL .i64)),aL .i64 v] (aL .i64 (Gx (fun x=>decide (v = x)) l)):=by
 refine bF.intro Tryz.func230 rfl Tryz.ntmps230 rfl (fun cx=>(ts (ro rfl (cQ (cJ 0)) (eX (cK (ts (rm rfl (ro rfl (dG U_103 (Ht rfl) aC) (ro rfl (cX (cJ 0)) (eX (eG ?_)))))))))))
 refine cI (fun (k : Nat) => k ≤ l.length ∧ ∀ (i : Nat) (x : Int), i < k → l[i]? = some x → decide (v = x) = false) (fun (k : Nat) => l.length - k) (fun (k : Nat) => [(0, kM 1 (l.map (aL .i64))), (1, aL .i64 v), (7, NT .i64 l.length), (8, NT .i64 k)]) (fun (k : Nat) => []) 0 ⟨Nat.zero_le _, fun i x h => by omega⟩
  (zS rfl) aY (fun k ⟨hk,hn⟩=>?_)
 refine ts (ro rfl (gX (Ht rfl) (Ht rfl)) (eX (cK (dQ (Ht rfl) (fun hb=>?_) (fun hb=>?_)))))
 ·simp only [decide_eq_true_eq] at hb
  refine cU (cK (eG (ts (rm rfl (ra rfl (eX (ts (rm rfl (rm rfl (rm rfl (ro rfl (dZ U_103 Z_3 (Ht rfl) (Ht rfl) rfl (dY (zJ hb))) (ro rfl (dJ A_3 Z_3 (Ht rfl)) (ro rfl (oM (Ht rfl) (Ht rfl)) (eX (dQ (Ht rfl) (fun hc=>?_) (fun hc=>?_))))))))))))))))
  ·refine ts (rm rfl (ra rfl (eX (fW rfl (fX (eU rfl) ?_)))))
   exact (aT (Gy (p:=fun x=>decide (v = x)) (zJ hb) hc hn).symm)
  ·refine cU (bN (cY (ro rfl (dV (Ht rfl) (cJ 1) z6) (rm rfl (eX ?_)))))
   refine fU (k + 1) ⟨hb, fun i x h1 h2 => by
    by_cases e:i = k
    ·subst e; rw [zJ hb] at h2; obtain rfl:=Option.some.inj h2; exact hc
    ·exact hn i x zo h2⟩ zo (zS rfl) aY
 ·simp only [decide_eq_false_iff_not] at hb
  refine gV rfl (ts (ro rfl (cQ cV) (eX (fW rfl (fX (eU rfl) ?_)))))
  exact (aT (yH (p:=fun x=>decide (v = x)) (fun i x h=>hn i x (by have:=(List.getElem?_eq_some_iff.1 h).1; omega) h)).symm)
theorem uM {l:List Int} {v:Int} (hl:l.length ≤ 1000000):bF Tryz.prog 145 [kM 1 (l.map (aL .i64)),aL .i64 v] (aI (l.any fun x=>decide (v = x))):=by
 refine bF.intro Tryz.func145 rfl Tryz.ntmps145 rfl (fun cx=>(ts (ro rfl (cQ cV) (eX (ts (rm rfl (rm rfl (ro rfl (cZ Tryz.call230 (Mf zo) ⟨(Ht rfl),(Ht rfl),trivial⟩) (ro rfl (pS (Ht rfl) cV) (ra rfl (eX (fW rfl (fX (eU rfl) ?_)))))))))))))
 exact (fO (Ca _ l))
theorem Gf {z:List Qi} {s:List (List Qi)} {G:List Nat} (hl:z.length ≤ 1000) (hG:G.length ≤ 1000):bF Tryz.prog 124 [dC z s,kM 1 ((gnI G).map (aL .i64))] (iM ((eO G z.length).map Nat.succ)):=by
 refine bF.intro Tryz.func124 rfl Tryz.ntmps124 rfl (fun cx=>(ts (rn rfl (fG (Ht rfl)) fun B2=>(ro rfl (cQ cV) (eX (ts (ro rfl (cQ cV) (eX (cK (ts (ro rfl (cQ (cJ 1)) (eX (eG (uL 3 1 ?_))))))))))))))
 refine jE (fun (i : Nat) (v : Value) => i ≤ z.length) (fun (i : Nat) (v : Value) => z.length - i) (fun (i : Nat) (v : Value) => [(1, kM 1 ((gnI G).map (aL .i64))), (2, cA B2 0), (5, Is v), (6, NT .i64 (i + 1))]) (fun (i : Nat) (v : Value) => [box B2 28 [aN z, cH s], bI 3 1 v (((eO G i).map Nat.succ).map (NT .i64))]) 0 (.slice none 0 0) (Nat.zero_le _)
  (zS rfl) (aU (aD rfl) (aU (aP rfl) aY)) (fun i v hi=>?_)
 refine cK (ts (rm rfl (ro rfl (eZ dS (Ht rfl) rfl) (ro rfl (eY A_25 Z_25 (Ht rfl) (i:=0) rfl rfl) (ro rfl (dG U_25 (Ht rfl) aC) (ro rfl (Ai (Ht rfl) (Ht rfl)) (eX (dQ (Ht rfl) (fun hd=>?_) (fun hd=>?_)))))))))
 ·simp only [decide_eq_true_eq] at hd
  have hcl:=Af G i
  refine cU (cK (eG (kQ (fun (v2:Value)=>True) (fun (v2:Value)=>[(1,kM 1 ((gnI G).map (aL .i64))),(2,cA B2 0),(5,Is v2),(6,NT .i64 (i + 1))]) (fun (v2:Value)=>[box B2 28 [aN z,cH s],bI 3 1 v2 (((eO G (i + 1)).map Nat.succ).map (NT .i64))]) ?_ (fun v2 _=>?_))))
  ·refine ts (rm rfl (rm rfl (ro rfl (cZ Tryz.call145 (uM (l := gnI G) (v := ((i + 1 : Nat) : Int)) (by rw [List.length_map]; omega)) ⟨(Ht rfl), (Ht rfl), trivial⟩) ?_)))
   refine ro rfl (gG (Ht rfl)) (eX (dQ (Ht rfl) (fun he=>?_) (fun he=>?_)))
   ·rw [Yg] at he
    have he2:i ∉ G:=by simpa using he
    have hnx:eO G (i + 1) = eO G i ++ [i]:=by rw [eO,if_neg he2]
    refine cY (rm rfl (rm rfl (ro rfl (eH (xs:=[.tmp 19]) U_103 Z_3 O_3 (cW (Ht rfl) cG) rfl rfl rfl) (sJ (inf:=Tryz.t3) Rr Yj rfl rfl rfl (Ht rfl) (Ht rfl) (i:=1) rfl (by simp) (fun T hT=>by simp at hT; subst hT; exact El.one) (by show _ * 8 ≤ _; simp only [List.length_map,List.length_cons,List.length_nil]; omega) (by simp only [List.length_map,List.length_cons,List.length_nil]; omega) rfl (fun v3=>?_)))))
    refine ra rfl (eX (bD v3 trivial (zS rfl) (aU (aD rfl) (aU (aP (by rw [hnx,List.map_append,List.map_append]; rfl)) aY))))
   ·rw [Yg] at he
    have he2:i ∈ G:=by simpa using he
    have hnx:eO G (i + 1) = eO G i:=by rw [eO,if_pos he2,List.append_nil]
    refine cU (bD v trivial (zS rfl) (aU (aD rfl) (aU (aP (by rw [hnx])) aY)))
  ·refine bN (cY (rm rfl (ro rfl (dV (Ht rfl) (cJ 1) z6) (ra rfl (eX (fU (i + 1,v2) hd (by dsimp only; omega) (zS rfl) (eI.refl _)))))))
 ·simp only [decide_eq_false_iff_not] at hd
  obtain rfl:z.length = i:=Nat.le_antisymm zo hi
  refine gV rfl (gJ (i:=1) (tt:=5) rfl rfl gE (ts (rm rfl (ra rfl (eX ?_)))))
  exact fW rfl (eU rfl)
theorem a47 {z:List Qi} {s:List (List Qi)} {p:Nat} (hp:p < z.length) (hl:z.length ≤ 1000):bF Tryz.prog 124 [dC z s,kM 1 [aL .i64 ((p:Int) + 1)]] (iM (Ci p (z.length - 1))):=by
 rw [← a2a hp]; exact Gf (G:=[p]) hl (by simp)
theorem Pf {z:List Qi} {s:List (List Qi)} {Q:List Nat} {m:Nat} (hs:cB s z.length z.length) (hQ:∀ x,x ∈ Q → x < z.length) (hm:Q.length = m) (hm2:m ≤ 1000) (hl:z.length ≤ 1000) {i j:Nat} (hi:i < m) (hj:j < m):bF Tryz.prog 220 [NT .i64 i,NT .i64 j,PT (dC z s),PT (iM (Q.map Nat.succ))] (aE (gm s (cD Q i) (cD Q j))):=by
 have hki:cD Q i < z.length:=pU hQ zo
 have hkj:cD Q j < z.length:=pU hQ zo
 have hsl:=hs.1
 have hsr:=hs.row hki
 refine bF.intro Tryz.func220 rfl Tryz.ntmps220 rfl (fun cx=>(ts (rn rfl (eW (Ts:=[Is (.bool false),Is (.slice none 0 0),Is (.bool false),Is (.slice none 0 0),Is (.slice none 0 0)]) O_60 rfl (fun V=>aW zd (aW zd (aW zd (aW zd (aW zd (aG))))))) fun B6=>(eX (cK (fZ (m:=14) (dp 2 rfl (gO cT (Ht rfl) rfl) (dq 7 0 rfl (dJ A_26 Z_26 (Ht rfl)) (dp 3 rfl (dJ A_103 Z_103 (Ht rfl)) (dp 0 rfl (cX (Ht rfl)) ?_))))))))))
 refine dH 9 2 10 3 rfl (dZ U_103 Z_3 (Ht rfl) (Ht rfl) rfl (dY (pG zo))) (dq 11 4 rfl (dJ A_3 Z_3 (Ht rfl)) (dq 12 5 rfl (aM.nat (dW (Ht rfl) (cJ 1) zo z6) (show cD Q i + 1 - 1 = cD Q i by omega)) (dH 8 1 13 6 rfl (dZ U_26 Z_25 (Ht rfl) (Ht rfl) rfl (dY (dU (d:=[]) zo))) (dq 14 7 rfl (dJ A_25 Z_25 (Ht rfl)) (dp 3 rfl (dJ A_103 Z_103 (Ht rfl)) ?_)))))
 refine dp 1 rfl (cX (Ht rfl)) (dH 16 9 17 10 rfl (dZ U_103 Z_3 (Ht rfl) (Ht rfl) rfl (dY (pG zo))) (dq 18 11 rfl (dJ A_3 Z_3 (Ht rfl)) (dq 19 12 rfl (aM.nat (dW (Ht rfl) (cJ 1) zo z6) (show cD Q j + 1 - 1 = cD Q j by omega)) (fV bB rfl (by kernel_rfl) (zF (zF (zF (aJ (aJ (aV (ro rfl (dZ U_25 Z_60 (Ht rfl) (Ht rfl) rfl (dY (dU (d:=Qi.zero) zo))) ?_)))))))))))
 refine ro rfl (dJ A_60 Z_60 (Ht rfl)) (gQ Z_60 (Ht rfl) (Ht rfl) rfl (i:=0) rfl (aK rfl) rfl rfl (eX ?_))
 exact fW rfl (fK A_60 Z_60 rfl (i:=0) rfl rfl)
theorem Pg {z:List Qi} {s:List (List Qi)} {Q:List Nat} {m:Nat} (hs:cB s z.length z.length) (hQ:∀ x,x ∈ Q → x < z.length) (hm:Q.length = m) (hm2:m ≤ 1000) (hl:z.length ≤ 1000):iV Tryz.prog 125 [dC z s,iM (Q.map Nat.succ)] [] (Nat) (fun B=>fS [aN (mF z Q),Is (.slice (some ⟨B,0,none⟩) m m)]) (fun B=>[oE B 25 60 5 (cO aE (pF s Q))]) (fun _=>True):=by
 have hll:(Q.map Nat.succ).length = m:=by rw [List.length_map]; exact hm
 refine iV.intro Tryz.func125 rfl Tryz.ntmps125 rfl (fun cx Z=>(ts (rn rfl (fG (Ht rfl)) fun B2=>(rn rfl (mB (Ht rfl)) fun B3=>(rn rfl (eW (Ts:=[Is (.slice none 0 0),Is (.slice none 0 0)]) O_28 rfl (fun V=>aW zd (aW zd (aG)))) fun B4=>(eX (cK (gJ (i:=1) (tt:=2) rfl rfl jJ (gJ (i:=2) (tt:=3) rfl rfl gY (cY (ro rfl (dJ A_103 Z_103 (Ht rfl)) (ro rfl (dG U_103 (Ht rfl) (by rw [List.length_map,hll])) ?_))))))))))))
 refine rn rfl (iG (T:=aE Qi.zero) (i:=Tryz.t60) jS gU rfl rfl (Ht rfl) rfl gF (El.ag rfl) (by show 88 * _ ≤ _; omega) zo) fun B10=>ra rfl (eX (cK (ts (ro rfl (dJ A_103 Z_103 (Ht rfl)) (ro rfl (dG U_103 (Ht rfl) (by rw [List.length_map,hll])) ?_)))))
 refine ro rfl (cX (cJ 0)) (eX (eG (cM [0,3,4] rfl (by decide) ?_)))
 refine cI (fun (i : Nat) => i ≤ m) (fun (i : Nat) => m - i) (fun (i : Nat) => [(2, PT (dC z s)), (3, PT (iM (Q.map Nat.succ))), (4, cA B4 0), (5, Is B10), (11, iM (Q.map Nat.succ)), (12, NT .i64 m), (13, NT .i64 i)]) (fun (i : Nat) => [Z, box B4 28 [Is (.slice none 0 0), Is (.slice none 0 0)], bI 60 5 B10 ((kS (fun i => gv z (cD Q i)) Qi.zero m i).map aE)]) 0 (Nat.zero_le _)
  (zS rfl) (aU (fun _ _ _ h=>h) (aU (fun _ _ _ h=>h) (aU (aP (by rw [← iN]; exact nY aE m)) aY))) (fun i hi=>?_)
 refine ts (ro rfl (gX (Ht rfl) (Ht rfl)) (eX (cK (dQ (Ht rfl) (fun hd=>?_) (fun hd=>?_)))))
 ·simp only [decide_eq_true_eq] at hd
  have hki:cD Q i < z.length:=pU hQ zo
  refine cU (cK (eG (ts (rm rfl (ro rfl (dZ U_103 Z_3 (Ht rfl) (Ht rfl) rfl (dY (pG zo))) (ro rfl (dJ A_3 Z_3 (Ht rfl)) (ra rfl (ra rfl (eX (cY (rm rfl (rm rfl (ro rfl (gO dS (Ht rfl) rfl) (ro rfl (dJ A_25 Z_25 (Ht rfl)) (rm rfl (ro rfl (aM.nat (dW (Ht rfl) (cJ 1) zo z6) (show cD Q i + 1 - 1 = cD Q i by omega)) (ro rfl (dZ U_25 Z_60 (Ht rfl) (Ht rfl) rfl (dY (dU (d:=Qi.zero) hki))) ?_)))))))))))))))))
  refine ro rfl (dJ A_60 Z_60 (Ht rfl)) (ro rfl (dA U_25 Z_60 (Ht rfl) (Ht rfl) rfl (i:=2) rfl (by rw [List.length_map,dE]; omega) rfl) ?_)
  refine lZ Z_60 (Ht rfl) (Ht rfl) (El.ag rfl) (i:=2) rfl rfl (by rw [List.length_map,dE]; omega) rfl ?_
  refine eX (bN (cY (ro rfl (dV (Ht rfl) (cJ 1) z6) (rm rfl (eX (fU (i + 1) hd zo (zS rfl) (aU (fun _ _ _ h=>h) (aU (fun _ _ _ h=>h) (aU (aP (by rw [gI,← jU (f:=(fun i=>gv z (cD Q i)))])) aY)))))))))
 ·simp only [decide_eq_false_iff_not] at hd
  obtain rfl:m = i:=Nat.le_antisymm zo hi
  rw [jT]
  refine gV rfl (gJ (i:=2) (tt:=5) rfl rfl gE ?_)
  rw [show mF z Q = tab m fun i=>gv z (cD Q i) from by rw [mF,hm],show pF s Q = tab m fun i=>tab m fun j=>gm s (cD Q i) (cD Q j) from by rw [pF,hm]]
  refine ts (rm rfl (ro rfl (dJ A_103 Z_103 (Ht rfl)) (ro rfl (dG U_103 (Ht rfl) (by rw [List.length_map,hll])) ?_)))
  refine ro rfl (lR (γ:=Fin m × Fin m) (Ts:=fun x=>[NT .i64 x.1.1,NT .i64 x.2.1]) (U:=fun x=>aE (gm s (cD Q x.1.1) (cD Q x.2.1))) Tryz.call220 (fun x=>Pf hs hQ hm hm2 hl x.1.2 x.2.2) ⟨(Ht rfl),(Ht rfl),trivial⟩) (mW K_110 (zO (n:=m) (f:=fun i j=>gm s (cD Q i) (cD Q j)) zo) ⟨(Ht rfl),(Ht rfl),trivial⟩ rfl (fun B32 _=>(ro rfl (pO (Ht rfl) (Ht rfl)) (gQ Z_28 (Ht rfl) (Ht rfl) rfl (i:=1) rfl (aK rfl) rfl rfl (eX ?_)))))
  exact kW B32 trivial [0,3] ⟨⟨_,rfl,fun _ _ _ h=>h⟩,⟨_,rfl,fun _ _ _ h=>h⟩,trivial⟩ (by decide) (xP rfl (fK A_28 Z_28 rfl (i:=1) rfl rfl))
theorem a1r {z:List Qi} {s:List (List Qi)} {p m:Nat} (hs:cB s z.length z.length) (hp:p < z.length) (hm:m = z.length - 1) (hl:z.length ≤ 1000):iV Tryz.prog 125 [dC z s,iM (Ci p m)] [] Nat (fun B=>fS [aN (Uc z p m),Is (.slice (some ⟨B,0,none⟩) m m)]) (fun B=>[oE B 25 60 5 (cO aE (a6p s p m))]) (fun _=>True):=by
 have h:=Pg (Q:=tab m (nP p)) hs (a3a hp hm) (aF _ _) zo hl
 rw [a0K,a0I,a2c] at h
 exact h
theorem rQ {n:Int} (h1:-9223372036854775808 ≤ n) (h2:n ≤ 9223372036854775807):bF Tryz.prog 118 [aL .i64 n] (aE (Qi.ofInt n)):=by
 refine bF.intro Tryz.func118 rfl Tryz.ntmps118 rfl (fun cx=>(ts (rn rfl (eW (Ts:=[Is (.bool false),Is (.slice none 0 0),Is (.bool false),Is (.slice none 0 0),Is (.slice none 0 0)]) O_60 rfl (fun V=>aW zd (aW zd (aW zd (aW zd (aW zd (aG))))))) fun B2=>(eX (ts (rn rfl (eW (Ts:=[Is (.bool false),Is (.slice none 0 0),Is (.bool false),Is (.slice none 0 0),Is (.slice none 0 0)]) O_60 rfl (fun V=>aW zd (aW zd (aW zd (aW zd (aW zd (aG))))))) fun B3=>?_))))))
 refine eX (cK (fZ (m:=4) (dp 3 rfl (eJ A_60 Z_60 (Ht rfl) (i:=1) rfl rfl rfl) (dq 4 0 rfl (bE bP (Ht rfl)) (dp 0 rfl (cX (Ht rfl)) (dq 6 2 rfl (cZ K_52 (Bg (n:=n) h1 h2) ⟨(Ht rfl),trivial⟩) (fV bB rfl (by kernel_rfl) (zF (aV (ro rfl (aR nL K_304 Jd (Ht rfl) ⟨(Ht rfl),trivial⟩) (gQ Z_60 (Ht rfl) (Ht rfl) rfl (i:=0) rfl (aK rfl) rfl rfl (eX ?_))))))))))))
 exact fW rfl (fK A_60 Z_60 rfl (i:=0) rfl rfl)
end
section
open Go Go.RowKit
theorem a44 {z:List Qi} {s:List (List Qi)} {port:Int} {g:Qi} {L:Nat} (hs:cB s z.length z.length) (hf:bA s L) (hg:aH g L) (hL:1 ≤ L) (hLb:L ≤ 1000000) (hl:z.length ≤ 1000):bF Tryz.prog 40 [dC z s,aL .i64 port,aE g] (eD [dC (Di z s port g) (Dh z s port g),aL .i64 (sI z s port g)]):=by
 haveI:=hg
 have hsl:=hs.1
 refine bF.intro Tryz.func40 rfl Tryz.ntmps40 rfl (fun cx=>(ts (rn rfl (fG (Ht rfl)) fun B3=>(rn rfl (fG (Ht rfl)) fun B5=>(rn rfl (eW (Ts:=[Is (.slice none 0 0),Is (.slice none 0 0)]) O_28 rfl (fun V=>aW zd (aW zd (aG)))) fun B6=>(ro rfl (cQ (cJ 0)) (eX (cK (eG (ts (ro rfl (eJ A_28 Z_28 (Ht rfl) (i:=0) rfl rfl rfl) (rm rfl (ro rfl (cZ Tryz.call138 Jh ⟨(Ht rfl),(Ht rfl),trivial⟩) (ro rfl (gG (Ht rfl)) (ra rfl (eX (dQ (Ht rfl) (fun hb=>?_) (fun hb=>?_))))))))))))))))))
 ·have he : sI z s port g = 1 := a5C (by simpa only [Bool.not_eq_true', decide_eq_false_iff_not] using hb)
  refine ts (ro rfl (aM.imp (jF ) jM) (gQ Z_28 (Ht rfl) (Ht rfl) rfl (i:=2) rfl (aK rfl) rfl rfl (ro rfl (cQ (cJ 1)) (eX (bL rfl (fX (fK A_28 Z_28 rfl (i:=2) rfl rfl) ?_) (fX (eU rfl) ?_))))))
  ·exact (Io he (by decide))
  ·exact (aT he.symm)
 ·have hb2 : 1 ≤ port ∧ port ≤ (z.length : Int) := by simpa using hb
  obtain ⟨p,rfl⟩:∃ p:Nat,port = (p:Int) + 1:=⟨(port - 1).toNat,by omega⟩
  have hp:p < z.length:=by omega
  refine ts (ro rfl (eZ dS (Ht rfl) rfl) (ro rfl (eY A_25 Z_25 (Ht rfl) (i:=0) rfl rfl) (ro rfl (dG U_25 (Ht rfl) aC) (ro rfl (eC (Ht rfl) (cJ 1)) (ra rfl (eX (dQ (Ht rfl) (fun hc=>?_) (fun hc=>?_))))))))
  ·have he : sI z s ((p : Int) + 1) g = 4 := a5D hb2 (by simpa using hc)
   refine ts (ro rfl (aM.imp (jF ) jM) (gQ Z_28 (Ht rfl) (Ht rfl) rfl (i:=2) rfl (aK rfl) rfl rfl (ro rfl (cQ (cJ 4)) (eX (bL rfl (fX (fK A_28 Z_28 rfl (i:=2) rfl rfl) ?_) (fX (eU rfl) ?_))))))
   ·exact (Io he (by decide))
   ·exact (aT he.symm)
  ·have hn1 : ¬ z.length = 1 := by simpa using hc
   have htd:=a5E (s:=s) (g:=g) hp hn1
   obtain ⟨m,hm⟩:∃ m,m = z.length - 1:=⟨_,rfl⟩
   have hspl:=hs.row hp
   haveI f0:aH (Qi.ofInt 1) 1:=jH
   haveI f1:aH (gm s p p) L:=hf.get hL p p
   refine cU (bN (ts (rm rfl (ro rfl (kX (Ht rfl) cV (r:=((p:Nat):Int)) ((Ea (z:=(p:Int) + 1 - 1) zo).trans zo)) ?_))))
   refine ra rfl (eX (cK (Y.D_start (m:=22) [] (bY (Ei:=[(5,_)]) rfl rfl (bQ (bJ rfl rfl) bX) rfl rfl (dX rfl (eJ A_60 Z_60 (Ht rfl) (i:=1) rfl rfl rfl)) (bY (Ei:=[(32,_)]) rfl rfl (bQ (bZ 0 rfl rfl) bX) rfl rfl (dX rfl (bE bP (Ht rfl))) (bY (Ei:=[]) rfl rfl bX rfl rfl (dX rfl (cZ K_118 (rQ (n:=1) (by decide) (by decide)) ⟨(cJ 1),trivial⟩)) (bY (Ei:=[(34,_)]) rfl rfl (bQ (bZ 2 rfl rfl) bX) rfl rfl (dX rfl (bE bP (Ht rfl))) ?_)))))))
   refine bY (Ei:=[(3,_)]) rfl rfl (bQ (bJ rfl rfl) bX) rfl rfl (dX rfl (eZ cT (Ht rfl) rfl)) (bY (Ei:=[(36,_)]) rfl rfl (bQ (bZ 4 rfl rfl) bX) rfl rfl (dX rfl (eY A_26 Z_26 (Ht rfl) (i:=0) rfl rfl)) (bY (Ei:=[(8,_)]) rfl rfl (bQ (bJ rfl rfl) bX) rfl rfl (dX rfl (cX (Ht rfl))) (bY (Ei:=[(37,_),(38,_)]) rfl rfl (bQ (bZ 5 rfl rfl) (bQ (bZ 6 rfl rfl) bX)) rfl rfl (dX rfl (dZ U_26 Z_25 (Ht rfl) (Ht rfl) rfl (dY (dU (d:=[]) zo)))) ?_)))
   refine bY (Ei:=[(39,_)]) rfl rfl (bQ (bZ 7 rfl rfl) bX) rfl rfl (dX rfl (dJ A_25 Z_25 (Ht rfl))) (bY (Ei:=[(8,_)]) rfl rfl (bQ (bJ rfl rfl) bX) rfl rfl (dX rfl (cX (Ht rfl))) (bY (Ei:=[(40,_),(41,_)]) rfl rfl (bQ (bZ 8 rfl rfl) (bQ (bZ 9 rfl rfl) bX)) rfl rfl (dX rfl (dZ U_25 Z_60 (Ht rfl) (Ht rfl) rfl (dY (dU (d:=Qi.zero) zo)))) (bY (Ei:=[(42,_)]) rfl rfl (bQ (bZ 10 rfl rfl) bX) rfl rfl (dX rfl (dJ A_60 Z_60 (Ht rfl))) ?_)))
   refine bY (Ei:=[(43,_)]) rfl rfl (bQ (bZ 11 rfl rfl) bX) rfl rfl (dX rfl (bE bP (Ht rfl))) (bY (Ei:=[(5,_)]) rfl rfl (bQ (bJ rfl rfl) bX) rfl rfl (dX rfl (eJ A_60 Z_60 (Ht rfl) (i:=1) rfl rfl rfl)) (bY (Ei:=[(44,_),(45,_)]) rfl rfl (bQ (bZ 12 rfl rfl) (bQ (bZ 13 rfl rfl) bX)) rfl rfl (dX rfl (aR dP K_70 (kY (x:=gm s p p) (y:=g) (L:=L) (M:=L) zo) (Ht rfl) ⟨(Ht rfl),trivial⟩)) (bY (Ei:=[(35,_),(46,_)]) rfl rfl (bQ (bZ 3 rfl rfl) (bQ (bZ 14 rfl rfl) bX)) rfl rfl (dX rfl (aR lG K_69 (uO (x:=Qi.ofInt 1) (y:=gm s p p * g) (L:=1) (M:=L + L + 1) (hx:=f0) zo) (Ht rfl) ⟨(Ht rfl),trivial⟩)) ?_)))
   refine bY (Ei:=[(33,_),(47,_)]) rfl rfl (bQ (bZ 1 rfl rfl) (bQ (bZ 15 rfl rfl) bX)) rfl rfl (dX rfl (aR kO K_64 (qR (x:=g) (y:=Qi.ofInt 1 - gm s p p * g) (L:=L) (M:=1 + (L + L + 1) + 1) (hy:=@fitSub _ _ _ _ f0 inferInstance) zo) (Ht rfl) ⟨(Ht rfl),trivial⟩)) (bY (Ei:=[(48,_)]) rfl rfl (bQ (bZ 16 rfl rfl) bX) rfl rfl (dX rfl (cX (Ht rfl))) (bY (Ei:=[(31,_)]) rfl rfl (bQ (bZ 17 rfl rfl) bX) rfl rfl (dX rfl (dK (Ht rfl) rfl)) ?_))
   refine bY (Ei:=[(31,_)]) rfl rfl (bQ (bZ 17 rfl rfl) bX) rfl rfl (dX rfl (dK (Ht rfl) rfl)) (Y.D_newp (Ei:=[]) (fun bb=>box bb 60 [aI (decide ((mT s p g).a < 0)),aS (mT s p g).a.natAbs,aI (decide ((mT s p g).b < 0)),aS (mT s p g).b.natAbs,aS (du (mT s p g))]) 21 rfl rfl rfl bX rfl rfl (by kernel_rfl) (eW (Ts:=[Is (.bool false),Is (.slice none 0 0),Is (.bool false),Is (.slice none 0 0),Is (.slice none 0 0)]) O_60 rfl (fun V=>aW zd (aW zd (aW zd (aW zd (aW zd (aG))))))) ?_)
   refine Y.D_putN (Ei:=[(49,_)]) 20 rfl rfl rfl rfl rfl rfl (bQ (bZ 18 rfl rfl) bX) (fun bb=>mK Z_60 (Ht rfl) (Ht rfl) rfl (i:=0) rfl (aK rfl) rfl rfl) (Y.D_done bB rfl (by kernel_rfl) rfl (by simp [Y.okP]) rfl rfl (bU (bU (bU (bU (bU (bU (bU (bU (bU (bU (bU (bU (bU (bU (bU (bU (bU (bU (bU (bU (Y.F_newp (fun B9=>Y.F_putN (Y.F_nil ?_))))))))))))))))))))))))
   refine ra rfl (eX (cK (ts (rm rfl (ro rfl (fM (Ht rfl) cV) (eX (dQ (Ht rfl) (fun he=>?_) (fun he=>?_))))))))
   ·have hz : Qi.ofInt 1 - gm s p p * g = Qi.zero := by simp at he; exact he
    have he:sI z s ((p:Int) + 1) g = 6:=by rw [htd,if_pos hz]
    refine ts (ro rfl (aM.imp (jF ) jM) (gQ Z_28 (Ht rfl) (Ht rfl) rfl (i:=2) rfl (aK rfl) rfl rfl (ro rfl (cQ (cJ 6)) (eX (bL rfl (fX (fK A_28 Z_28 rfl (i:=2) rfl rfl) ?_) (fX (eU rfl) ?_))))))
    ·exact (Io he (by decide))
    ·exact (aT he.symm)
   ·have hz : Qi.ofInt 1 - gm s p p * g ≠ Qi.zero := by simp at he; exact he
    have he:sI z s ((p:Int) + 1) g = 0:=by rw [htd,if_neg hz]
    haveI ff:aH (mT s p g) (7 * L + 11):=a0Q hf hg hL hz
    have hll:(Ci p m).length = m:=aF _ _
    refine cU (ts (ro rfl (eJ A_28 Z_28 (Ht rfl) (i:=0) rfl rfl rfl) (rm rfl (ro rfl (eH (xs:=[.tmp 55]) U_103 Z_3 O_3 (cW (Ht rfl) cG) rfl rfl rfl) (ro rfl (cZ Tryz.call124 (eQ (a47 (z:=z) (s:=s) (p:=p) hp hl) (jC (by rw [← hm]))) ⟨(Ht rfl),(Ht rfl),trivial⟩) ?_)))))
    refine ra rfl (eX (ts (ro rfl (eJ A_28 Z_28 (Ht rfl) (i:=0) rfl rfl rfl) (rm rfl (mW Tryz.call125 (a1r (p:=p) (m:=m) hs hp hm hl) ⟨(Ht rfl),(Ht rfl),trivial⟩ rfl (fun B60 _=>(rn rfl (eW (Ts:=[Is (.slice none 0 0),Is (.slice none 0 0)]) O_28 rfl (fun V=>aW zd (aW zd (aG)))) fun B12=>(gQ Z_28 (Ht rfl) (Ht rfl) rfl (i:=5) rfl (aK rfl) rfl rfl (eX (cK (ts (rm rfl (ro rfl (dG U_103 (Ht rfl) (by rw [List.length_map,hll])) ?_)))))))))))))
    refine ro rfl (cX (cJ 0)) (eX (eG (cM [0,2,3,4,5] rfl (by decide) ?_)))
    refine cI (fun (i : Nat) => i ≤ m) (fun (i : Nat) => m - i) (fun (i : Nat) => [(3, cA B3 0), (6, cA B6 0), (8, NT .i64 p), (9, cA B9 0), (11, iM (Ci p m)), (12, cA B12 0), (61, iM (Ci p m)), (62, NT .i64 m), (63, NT .i64 i)]) (fun (i : Nat) => [box B3 28 [aN z, cH s], box B6 28 [Is (.slice none 0 0), Is (.slice none 0 0)], box B9 60 [aI (decide ((mT s p g).a < 0)), aS (mT s p g).a.natAbs, aI (decide ((mT s p g).b < 0)), aS (mT s p g).b.natAbs, aS (du (mT s p g))], oE B60 25 60 5 (cO aE (mI (fun i => tab m fun j => Oj s p (mT s p g) i j) (fun i => tab m fun j => gm s (nP p i) (nP p j)) m i)), box B12 28 [aN (Uc z p m), Is (.slice (some ⟨B60, 0, none⟩) m m)]]) 0 (Nat.zero_le _)
     (zS rfl) (aU (fun _ _ _ h=>h) (aU (fun _ _ _ h=>h) (aU (aD rfl) (aU (eB (by rw [← pJ]; rfl)) (aU (aD rfl) aY))))) (fun i hi=>?_)
    refine ts (ro rfl (gX (Ht rfl) (Ht rfl)) (eX (cK (dQ (Ht rfl) (fun hd=>?_) (fun hd=>?_)))))
    ·simp only [decide_eq_true_eq] at hd
     have hki:nP p i < z.length:=Oa zo hp
     have hsr:=hs.row hki
     refine oV 3 (i) rfl (yG hd) (fun v=>(cU (cK (eG (ts (rm rfl (ro rfl (dZ U_103 Z_3 (Ht rfl) (Ht rfl) rfl (dY (Qk hd))) (ro rfl (dJ A_3 Z_3 (Ht rfl)) (ra rfl (ra rfl (eX (ts (rm rfl (ro rfl (dG U_103 (Ht rfl) (by rw [List.length_map,hll])) ?_))))))))))))))
     refine ro rfl (cX (cJ 0)) (eX (eG ?_))
     refine cI (fun (j : Nat) => j ≤ m) (fun (j : Nat) => m - j) (fun (j : Nat) => [(3, cA B3 0), (6, cA B6 0), (8, NT .i64 p), (9, cA B9 0), (11, iM (Ci p m)), (12, cA B12 0), (13, NT .i64 i), (14, NT .i64 (nP p i + 1)), (61, iM (Ci p m)), (62, NT .i64 m), (63, NT .i64 i), (68, iM (Ci p m)), (69, NT .i64 m), (70, NT .i64 j)]) (fun (j : Nat) => [box B3 28 [aN z, cH s], box B6 28 [Is (.slice none 0 0), Is (.slice none 0 0)], box B9 60 [aI (decide ((mT s p g).a < 0)), aS (mT s p g).a.natAbs, aI (decide ((mT s p g).b < 0)), aS (mT s p g).b.natAbs, aS (du (mT s p g))], He B60 25 60 5 (cO aE (mI (fun i => tab m fun j => Oj s p (mT s p g) i j) (fun i => tab m fun j => gm s (nP p i) (nP p j)) m i)) i v, box B12 28 [aN (Uc z p m), Is (.slice (some ⟨B60, 0, none⟩) m m)], bI 60 5 v ((mI (fun j => Oj s p (mT s p g) i j) (fun j => gm s (nP p i) (nP p j)) m j).map aE)]) 0 (Nat.zero_le _)
      (zS rfl) (aU (fun _ _ _ h=>h) (aU (fun _ _ _ h=>h) (aU (fun _ _ _ h=>h) (aU (fun _ _ _ h=>h) (aU (fun _ _ _ h=>h) (aU (aP (by rw [← pJ])) aY)))))) (fun j hj=>?_)
     refine ts (ro rfl (gX (Ht rfl) (Ht rfl)) (eX (cK (dQ (Ht rfl) (fun hf2=>?_) (fun hf2=>?_)))))
     ·simp only [decide_eq_true_eq] at hf2
      have hkj:nP p j < z.length:=Oa zo hp
      have hrl:=mZ (fun j=>Oj s p (mT s p g) i j) (fun j=>gm s (nP p i) (nP p j)) m j
      haveI g1:aH (gm s (nP p i) (nP p j)) L:=hf.get hL _ _
      haveI g2:aH (gm s (nP p i) p) L:=hf.get hL _ _
      haveI g3:aH (gm s p (nP p j)) L:=hf.get hL _ _
      refine cU (cK (eG (ts (rm rfl (ro rfl (dZ U_103 Z_3 (Ht rfl) (Ht rfl) rfl (dY (Qk hf2))) (ro rfl (dJ A_3 Z_3 (Ht rfl)) (ra rfl (ra rfl (eX (fZ (m:=39) (dp 12 rfl (eZ cT (Ht rfl) rfl) (dq 75 0 rfl (eY A_26 Z_26 (Ht rfl) (i:=4) rfl rfl) (dp 13 rfl (cX (Ht rfl)) (dH 76 1 77 2 rfl (fY U_26 Z_25 (Ht rfl) (Ht rfl) rfl zo (by rw [Nat.mul_one,Nat.zero_add])) ?_))))))))))))))
      refine dq 78 3 rfl (lI A_25 Z_25 (Ht rfl) (j:=3) rfl) (dp 15 rfl (cX (Ht rfl)) (dp 12 rfl (eZ cT (Ht rfl) rfl) (dq 81 6 rfl (eY A_26 Z_26 (Ht rfl) (i:=4) rfl rfl) (dp 13 rfl (cX (Ht rfl)) (dH 82 7 83 8 rfl (fY U_26 Z_25 (Ht rfl) (Ht rfl) rfl zo (by rw [Nat.mul_one,Nat.zero_add])) ?_)))))
      refine dq 84 9 rfl (lI A_25 Z_25 (Ht rfl) (j:=3) rfl) (dp 15 rfl (cX (Ht rfl)) (dH 85 10 86 11 rfl (dA U_25 Z_60 (Ht rfl) (Ht rfl) rfl (i:=5) rfl (by simp only [List.length_map,hrl]; omega) rfl) ?_))
      refine dq 87 12 rfl (oN A_60 Z_60 (Ht rfl) (i:=5) rfl rfl (dY (tC hf2))) (dq 88 13 rfl (bE bP (Ht rfl)) (dp 3 rfl (eZ cT (Ht rfl) rfl) (dq 90 15 rfl (eY A_26 Z_26 (Ht rfl) (i:=0) rfl rfl) (dp 14 rfl (cX (Ht rfl)) (dq 92 17 rfl (aM.nat (dW (Ht rfl) (cJ 1) zo z6) (show nP p i + 1 - 1 = nP p i by omega)) (dH 91 16 93 18 rfl (dZ U_26 Z_25 (Ht rfl) (Ht rfl) rfl (dY (dU (d:=[]) zo))) ?_))))))
      refine dq 94 19 rfl (dJ A_25 Z_25 (Ht rfl)) (dp 8 rfl (cX (Ht rfl)) (dH 95 20 96 21 rfl (dZ U_25 Z_60 (Ht rfl) (Ht rfl) rfl (dY (dU (d:=Qi.zero) zo))) (dq 97 22 rfl (dJ A_60 Z_60 (Ht rfl)) (dq 98 23 rfl (bE bP (Ht rfl)) (dp 9 rfl (eJ A_60 Z_60 (Ht rfl) (i:=2) rfl rfl rfl) (dq 100 25 rfl (bE bP (Ht rfl)) (dp 3 rfl (eZ cT (Ht rfl) rfl) (dq 102 27 rfl (eY A_26 Z_26 (Ht rfl) (i:=0) rfl rfl) (dp 8 rfl (cX (Ht rfl)) ?_)))))))))
      refine dH 103 28 104 29 rfl (dZ U_26 Z_25 (Ht rfl) (Ht rfl) rfl (dY (dU (d:=[]) zo))) (dq 105 30 rfl (dJ A_25 Z_25 (Ht rfl)) (dp 16 rfl (cX (Ht rfl)) (dq 107 32 rfl (aM.nat (dW (Ht rfl) (cJ 1) zo z6) (show nP p j + 1 - 1 = nP p j by omega)) (dH 106 31 108 33 rfl (dZ U_25 Z_60 (Ht rfl) (Ht rfl) rfl (dY (dU (d:=Qi.zero) zo))) (dq 109 34 rfl (dJ A_60 Z_60 (Ht rfl)) ?_)))))
      refine dH 101 26 110 35 rfl (aR dP K_70 (kY (x:=mT s p g) (y:=gm s p (nP p j)) (L:=7 * L + 11) (M:=L) zo) (Ht rfl) ⟨(Ht rfl),trivial⟩) (dH 99 24 111 36 rfl (aR dP K_70 (kY (x:=gm s (nP p i) p) (y:=mT s p g * gm s p (nP p j)) (L:=L) (M:=7 * L + 11 + L + 1) zo) (Ht rfl) ⟨(Ht rfl),trivial⟩) (dH 89 14 112 37 rfl (aR lF K_71 (sG (x:=gm s (nP p i) (nP p j)) (y:=gm s (nP p i) p * (mT s p g * gm s p (nP p j))) (L:=L) (M:=L + (7 * L + 11 + L + 1) + 1) zo) (Ht rfl) ⟨(Ht rfl),trivial⟩) ?_))
      refine fV bB rfl (by kernel_rfl) (zF (zF (zF (zF (zF (zF (zF (zF (zF (aJ (aJ (aJ (aV (ro rfl (dA U_25 Z_60 (Ht rfl) (Ht rfl) rfl (i:=5) rfl (by simp only [List.length_map,hrl]; omega) rfl) ?_))))))))))))))
      refine lZ Z_60 (Ht rfl) (Ht rfl) (El.ag rfl) (i:=5) rfl rfl (by simp only [List.length_map,hrl]; omega) rfl ?_
      refine eX (bN (cY (ro rfl (dV (Ht rfl) (cJ 1) z6) (rm rfl (eX (fU (j + 1) hf2 zo (zS rfl) (aU (fun _ _ _ h=>h) (aU (fun _ _ _ h=>h) (aU (fun _ _ _ h=>h) (aU (fun _ _ _ h=>h) (aU (fun _ _ _ h=>h) (aU (aP (by rw [gI,← rD (f:=fun j=>Oj s p (mT s p g) i j)]; rfl)) aY))))))))))))
     ·simp only [decide_eq_false_iff_not] at hf2
      obtain rfl:m = j:=Nat.le_antisymm zo hj
      refine gV rfl (bN (kU 3 5 rfl rfl (by decide) (by simp only [cO,List.length_map,mZ]; omega) ?_))
      refine cY (ro rfl (dV (Ht rfl) (cJ 1) z6) (rm rfl (eX (cM [0,1,2,3,4] rfl (by decide) (fU (i + 1) hd zo (zS rfl) (aU (fun _ _ _ h=>h) (aU (fun _ _ _ h=>h) (aU (fun _ _ _ h=>h) (aU (eB (by rw [lK,rC,← rD (f:=(fun i=>tab m fun j=>Oj s p (mT s p g) i j))])) (aU (fun _ _ _ h=>h) aY))))))))))
    ·simp only [decide_eq_false_iff_not] at hd
     obtain rfl:m = i:=Nat.le_antisymm zo hi
     rw [rC]
     refine gV rfl (cK (Be 4 3 1 rfl rfl rfl (by decide) (a67 (q:=fun _=>True) (M:=a5F s p m (mT s p g)) (aF _ _).symm) ?_))
     subst hm
     refine cY (ro rfl (eJ A_28 Z_28 (Ht rfl) (i:=4) rfl rfl rfl) (gQ Z_28 (Ht rfl) (Ht rfl) rfl (i:=1) rfl (aK rfl) rfl rfl (ro rfl (cQ (cJ 0)) (eX (bL rfl (fX (fK A_28 Z_28 rfl (i:=1) rfl rfl) ?_) (fX (eU rfl) ?_))))))
     ·exact (a0R he)
     ·exact (aT he.symm)
end
section
open Go Go.RowKit
theorem Jf  : bF Tryz.prog 27 [] (aI true):=by
 refine bF.intro Tryz.func27 rfl Tryz.ntmps27 rfl (fun cx=>(ts (ro rfl (cQ cV) (eX (ts (ro rfl (uW cV cV) (rn rfl (eW (Ts:=[Is (.int .i64 0),Is (.int .i64 0),Is (.int .i64 0)]) O_48 rfl (fun V=>aW zd (aW zd (aW zd (aG))))) fun B1=>(gQ Z_48 (Ht rfl) (Ht rfl) rfl (i:=0) rfl (aK rfl) rfl rfl (eX (cK (Y.D_start (m:=18) [] (bY (Ei:=[]) rfl rfl bX rfl rfl (dX rfl (Jb cV)) (bY (Ei:=[]) rfl rfl bX rfl rfl (dX rfl (Jb cV)) ?_)))))))))))))
 refine bY (Ei:=[(12,_),(13,_)]) rfl rfl (bQ (bZ 0 rfl rfl) (bQ (bZ 1 rfl rfl) bX)) rfl rfl (dX rfl (eH (xs:=[.tmp 12,.tmp 13]) U_22 Z_48 O_48 (cW (Ht rfl) (cW (Ht rfl) cG)) rfl rfl rfl)) (bY (Ei:=[(14,_)]) rfl rfl (bQ (bZ 2 rfl rfl) bX) rfl rfl (dX rfl (cZ Tryz.call48 (Eh (l:=[r50,r50]) (by decide)) ⟨(Ht rfl),trivial⟩)) (bY (Ei:=[(1,_)]) rfl rfl (bQ (bJ rfl rfl) bX) rfl rfl (dX rfl (eJ A_48 Z_48 (Ht rfl) (i:=0) rfl rfl rfl)) ?_))
 refine bY (Ei:=[(1,_)]) rfl rfl (bQ (bJ rfl rfl) bX) rfl rfl (dX rfl (eJ A_48 Z_48 (Ht rfl) (i:=0) rfl rfl rfl)) (bY (Ei:=[(16,_),(17,_)]) rfl rfl (bQ (bZ 4 rfl rfl) (bQ (bZ 5 rfl rfl) bX)) rfl rfl (dX rfl (eH (xs:=[.tmp 16,.tmp 17]) U_22 Z_48 O_48 (cW (Ht rfl) (cW (Ht rfl) cG)) rfl rfl rfl)) (bY (Ei:=[(1,_)]) rfl rfl (bQ (bJ rfl rfl) bX) rfl rfl (dX rfl (eJ A_48 Z_48 (Ht rfl) (i:=0) rfl rfl rfl)) ?_))
 refine bY (Ei:=[(1,_)]) rfl rfl (bQ (bJ rfl rfl) bX) rfl rfl (dX rfl (eJ A_48 Z_48 (Ht rfl) (i:=0) rfl rfl rfl)) (bY (Ei:=[(19,_),(20,_)]) rfl rfl (bQ (bZ 7 rfl rfl) (bQ (bZ 8 rfl rfl) bX)) rfl rfl (dX rfl (eH (xs:=[.tmp 19,.tmp 20]) U_22 Z_48 O_48 (cW (Ht rfl) (cW (Ht rfl) cG)) rfl rfl rfl)) (bY (Ei:=[(18,_),(21,_)]) rfl rfl (bQ (bZ 6 rfl rfl) (bQ (bZ 9 rfl rfl) bX)) rfl rfl (dX rfl (eH (xs:=[.tmp 18,.tmp 21]) U_75 Z_22 Tryz.zeroValue22 (cW (Ht rfl) (cW (Ht rfl) cG)) rfl rfl rfl)) ?_))
 refine bY (Ei:=[(22,_)]) rfl rfl (bQ (bZ 10 rfl rfl) bX) rfl rfl (dX rfl (cZ Tryz.call94 (Sk (m:=[[zC,zC],[zC,zC]]) (by decide) (by intro r hr; simp at hr; subst hr; decide)) ⟨(Ht rfl),trivial⟩)) ?_
 refine bY (Ei:=[(15,_),(23,_)]) rfl rfl (bQ (bZ 3 rfl rfl) (bQ (bZ 11 rfl rfl) bX)) rfl rfl (dX rfl (cZ Tryz.call93 (eQ (Ji (z:=Bw) (s:=Ez) (L:=2) a69 (by decide) (by decide) (by decide)) a4s) ⟨(Ht rfl),(Ht rfl),trivial⟩)) (bY (Ei:=[(24,_)]) rfl rfl (bQ (bZ 12 rfl rfl) bX) rfl rfl (dX rfl (cX (Ht rfl))) (bY (Ei:=[(11,_)]) rfl rfl (bQ (bZ 13 rfl rfl) bX) rfl rfl (dX rfl (dK (Ht rfl) rfl)) (bY (Ei:=[(11,_)]) rfl rfl (bQ (bZ 13 rfl rfl) bX) rfl rfl (dX rfl (dK (Ht rfl) rfl)) ?_)))
 refine Y.D_newp (Ei:=[]) (fun bb=>box bb 28 [aN Bw,cH Ez]) 17 rfl rfl rfl bX rfl rfl (by kernel_rfl) (eW (Ts:=[Is (.slice none 0 0),Is (.slice none 0 0)]) O_28 rfl (fun V=>aW zd (aW zd (aG)))) (Y.D_putN (Ei:=[(25,_)]) 16 rfl rfl rfl rfl rfl rfl (bQ (bZ 14 rfl rfl) bX) (fun bb=>mK Z_28 (Ht rfl) (Ht rfl) rfl (i:=0) rfl (aK rfl) rfl rfl) (Y.D_done bB rfl (by kernel_rfl) rfl (by simp [Y.okP]) rfl rfl (bU (bU (bU (bU (bU (bU (bU (bU (bU (bU (bU (bU (bU (bU (bU (bU (Y.F_newp (fun B2=>Y.F_putN (Y.F_nil ?_)))))))))))))))))))))
 refine ra rfl (eX (cK (Y.D_start (m:=8) [] (bY (Ei:=[(2,_)]) rfl rfl (bQ (bJ rfl rfl) bX) rfl rfl (dX rfl (eJ A_28 Z_28 (Ht rfl) (i:=1) rfl rfl rfl)) (bY (Ei:=[]) rfl rfl bX rfl rfl (dX rfl (cZ K_52 (Bg (n:=1) (by decide) (by decide)) ⟨(cJ 1),trivial⟩)) (bY (Ei:=[(28,_),(29,_)]) rfl rfl (bQ (bZ 0 rfl rfl) (bQ (bZ 1 rfl rfl) bX)) rfl rfl (dX rfl (cZ Tryz.call40 (eQ (a44 (z:=Bw) (s:=Ez) (port:=((2:Nat):Int)) (g:=Qi.ofInt 1) (L:=2) Xy a3C a3B (by decide) (by decide) (by decide)) a4t) ⟨(Ht rfl),(cJ 2),(Ht rfl),trivial⟩)) ?_))))))
 refine bY (Ei:=[(30,_)]) rfl rfl (bQ (bZ 2 rfl rfl) bX) rfl rfl (dX rfl (cX (Ht rfl))) (bY (Ei:=[(27,_)]) rfl rfl (bQ (bZ 3 rfl rfl) bX) rfl rfl (dX rfl (dK (Ht rfl) rfl)) (bY (Ei:=[(27,_)]) rfl rfl (bQ (bZ 3 rfl rfl) bX) rfl rfl (dX rfl (dK (Ht rfl) rfl)) (Y.D_newp (Ei:=[]) (fun bb=>box bb 28 [aN Gw,cH Te]) 7 rfl rfl rfl bX rfl rfl (by kernel_rfl) (eW (Ts:=[Is (.slice none 0 0),Is (.slice none 0 0)]) O_28 rfl (fun V=>aW zd (aW zd (aG)))) ?_)))
 refine Y.D_putN (Ei:=[(31,_)]) 6 rfl rfl rfl rfl rfl rfl (bQ (bZ 4 rfl rfl) bX) (fun bb=>mK Z_28 (Ht rfl) (Ht rfl) rfl (i:=0) rfl (aK rfl) rfl rfl) (Y.D_done bB rfl (by kernel_rfl) rfl (by simp [Y.okP]) rfl rfl (bU (bU (bU (bU (bU (bU (Y.F_newp (fun B4=>Y.F_putN (Y.F_nil ?_))))))))))
 refine ra rfl (eX (ts (ro rfl (eJ A_28 Z_28 (Ht rfl) (i:=2) rfl rfl rfl) (ro rfl (cZ Tryz.call39 (eQ (a6H (z:=Gw) (s:=Te) (i:=((1:Nat):Int)) (j:=((1:Nat):Int)) a4v (by rw [Xz]; decide)) a68) ⟨(Ht rfl),(cJ 1),(cJ 1),trivial⟩) ?_))))
 refine rm rfl (ro rfl (dK (Ht rfl) rfl) (ro rfl (dK (Ht rfl) rfl) (rn rfl (eW (Ts:=[Is (.bool false),Is (.slice none 0 0),Is (.bool false),Is (.slice none 0 0),Is (.slice none 0 0)]) O_60 rfl (fun V=>aW zd (aW zd (aW zd (aW zd (aW zd (aG))))))) fun B6=>(gQ Z_60 (Ht rfl) (Ht rfl) rfl (i:=3) rfl (aK rfl) rfl rfl (ra rfl (eX (ts (ro rfl (eJ A_28 Z_28 (Ht rfl) (i:=1) rfl rfl rfl) ?_))))))))
 refine ro rfl (cZ Tryz.call114 (a40 (z:=Bw) (s:=Ez) (L:=2) Xy a3C (by decide) (by decide) (by decide) (by decide +kernel) (by decide +kernel) a4r) ⟨(Ht rfl),trivial⟩) (rm rfl (ro rfl (dK (Ht rfl) rfl) (ro rfl (dK (Ht rfl) rfl) (ra rfl (ra rfl (eX (ts (rm rfl (ro rfl (oM (Ht rfl) cV) (rm rfl (fQ rfl rfl (eK rfl rfl (Ht rfl) (fun h=>cX (Ht rfl))) (fQ rfl rfl (eK rfl rfl (Ht rfl) (fun h=>oM (fJ rfl h) cV)) (ro rfl (gS (Ht rfl) (fun h=>(fJ rfl h))) (rm rfl (fQ rfl rfl (eK rfl rfl (Ht rfl) (fun h=>cX (Ht rfl))) ?_)))))))))))))))
 refine fQ rfl rfl (eK rfl rfl (Ht rfl) (fun h=>oM (fJ rfl h) cV)) (ro rfl (gS (Ht rfl) (fun h=>(fJ rfl h))) (rm rfl (fQ rfl rfl (eK rfl rfl (Ht rfl) (fun h=>cX (Ht rfl))) (fQ rfl rfl (eK rfl rfl (Ht rfl) (fun h=>oM (fJ rfl h) cV)) (ro rfl (gS (Ht rfl) (fun h=>(fJ rfl h))) (rm rfl (fQ rfl rfl (eK rfl rfl (Ht rfl) (fun h=>eJ A_28 Z_28 (Ht rfl) (i:=1) rfl rfl rfl)) (fQ rfl rfl (eK rfl rfl (Ht rfl) (fun h=>cZ K_31 qB ⟨(fJ rfl h),trivial⟩)) (fQ rfl rfl (eK rfl rfl (Ht rfl) (fun h=>eC (fJ rfl h) (cJ 2))) ?_)))))))))
 refine ro rfl (gS (Ht rfl) (fun h=>(fJ rfl h))) (rm rfl (fQ rfl rfl (eK rfl rfl (Ht rfl) (fun h=>eJ A_60 Z_60 (Ht rfl) (i:=3) rfl rfl rfl)) (fQ rfl rfl (eK rfl rfl (Ht rfl) (fun h=>cZ Tryz.call115 (a45 (x:=Qi.ofInt 1) (L:=2) (hx:=a3B) (by decide)) ⟨(fJ rfl h),trivial⟩)) (fQ rfl rfl (eK rfl rfl (Ht rfl) (fun h=>a50 (fJ rfl h) (bC.cS (l:=[49]) rfl))) (ro rfl (gS (Ht rfl) (fun h=>(fJ rfl h))) (ra rfl (eX (fW rfl (fX (eU rfl) ?_)))))))))
 exact (fO (by rw [a6L]; rfl))
end
section
open Go Go.RowKit
theorem Gc {n : Nat} {E : cP} {H : Hp} {d : Option Tmp} {t : TypeId} {pos : String} {af : Array Edge} {g : Option (Nat × Bool)} {x0 x1 x2 : Operand} {T0 T1 T2 : Ty} [s0 : dF T0 1 false] (h0 : bC E x0 T0) [s1 : dF T1 1 false] (h1 : bC E x1 T1) [s2 : dF T2 1 false] (h2 : bC E x2 T2) :
  aM Tryz.prog n E H ⟨d,.build 48 #[(0,x0),(1,x1),(2,x2)],t,pos,af,g⟩ (fS [T0,T1,T2]) :=
 kD (parts := [(0, x0), (1, x1), (2, x2)]) fun a V w hs => by
  have p0:=h0 n V a hs
  generalize e0:a.eval x0 = v0 at p0
  have q0:=(s0.ok v0 V p0).2.2 rfl
  have p1:=h1 n V a hs
  generalize e1:a.eval x1 = v1 at p1
  have q1:=(s1.ok v1 V p1).2.2 rfl
  have p2:=h2 n V a hs
  generalize e2:a.eval x2 = v2 at p2
  have q2:=(s2.ok v2 V p2).2.2 rfl
  refine ⟨.agg #[v0,v1,v2],?_,[v0,v1,v2],rfl,aW (⟨p0,q0⟩) (aW (⟨p1,q1⟩) (aW (⟨p2,q2⟩) (aG)))⟩
  simp [e0,e1,e2,Instr.build,Instr.fill,Sem.run_bind,Result.andThen,iW,q0.cells,q1.cells,q2.cells,O_48,U_48,Z_2]
end
section
open Go Go.RowKit
theorem a5Z {x:Qi} {l m:List Qi} {L M n:Nat} (hx:aH x M) (hl:bH l L) (hm:bH m L) (hL:1 ≤ L) (hll:l.length = n) (hml:m.length = n) (hn:n ≤ 1000) (hb:M + n * (2 * L + 2) ≤ 17592186044415):bF Tryz.prog 127 [aE x,aN l,aN m] (aE (uJ x l m n)):=by
 refine bF.intro Tryz.func127 rfl Tryz.ntmps127 rfl (fun cx=>(ts (rn rfl (fG (Ht rfl)) fun B3=>(rn rfl (eW (Ts:=[Is (.bool false),Is (.slice none 0 0),Is (.bool false),Is (.slice none 0 0),Is (.slice none 0 0)]) O_60 rfl (fun V=>aW zd (aW zd (aW zd (aW zd (aW zd (aG))))))) fun B6=>(eX (cK (ts (rm rfl (ro rfl (dG U_25 (Ht rfl) (by rw [List.length_map,hll])) ?_)))))))))
 refine ro rfl (cX (cJ 0)) (eX (eG ?_))
 refine cI (fun (k : Nat) => k ≤ n) (fun (k : Nat) => n - k) (fun (k : Nat) => [(1, aN l), (2, aN m), (3, cA B3 0), (6, cA B6 0), (9, NT .i64 n), (10, NT .i64 k)]) (fun (k : Nat) => [box B3 60 [aI (decide ((uJ x l m k).a < 0)), aS (uJ x l m k).a.natAbs, aI (decide ((uJ x l m k).b < 0)), aS (uJ x l m k).b.natAbs, aS (du (uJ x l m k))], box B6 60 [Is (.bool false), Is (.slice none 0 0), Is (.bool false), Is (.slice none 0 0), Is (.slice none 0 0)]]) 0 (Nat.zero_le _)
  (zS rfl) (eI.refl _) (fun k hk=>?_)
 refine ts (ro rfl (gX (Ht rfl) (Ht rfl)) (eX (cK (dQ (Ht rfl) (fun hd=>?_) (fun hd=>?_)))))
 ·simp only [decide_eq_true_eq] at hd
  haveI f1:=Bq hx hl hm hL k
  haveI f2:=hl.get hL k
  haveI f3:=hm.get hL k
  have hkn:(k + 1) * (2 * L + 2) ≤ n * (2 * L + 2):=Nat.mul_le_mul_right _ hd
  rw [Nat.add_mul] at hkn
  refine cU (cK (eG (ts (rm rfl (ra rfl (eX (fZ (m:=12) (dp 3 rfl (eJ A_60 Z_60 (Ht rfl) (i:=0) rfl rfl rfl) (dq 13 0 rfl (bE bP (Ht rfl)) (dp 1 rfl (cX (Ht rfl)) (dp 7 rfl (cX (Ht rfl)) (dH 15 2 16 3 rfl (dZ U_25 Z_60 (Ht rfl) (Ht rfl) rfl (dY (dU (d:=Qi.zero) zo))) (dq 17 4 rfl (dJ A_60 Z_60 (Ht rfl)) (dq 18 5 rfl (bE bP (Ht rfl)) (dp 2 rfl (cX (Ht rfl)) (dp 7 rfl (cX (Ht rfl)) (dH 20 7 21 8 rfl (dZ U_25 Z_60 (Ht rfl) (Ht rfl) rfl (dY (dU (d:=Qi.zero) zo))) ?_)))))))))))))))))
  refine dq 22 9 rfl (dJ A_60 Z_60 (Ht rfl)) (dH 19 6 23 10 rfl (aR dP K_70 (kY (x:=gv l k) (y:=gv m k) (L:=L) (M:=L) zo) (Ht rfl) ⟨(Ht rfl),trivial⟩) (fV bB rfl (by kernel_rfl) (zF (zF (zF (aV (ro rfl (aR lF K_71 (sG (x:=uJ x l m k) (y:=gv l k * gv m k) (L:=M + k * (2 * L + 2)) (M:=L + L + 1) zo) (Ht rfl) ⟨(Ht rfl),trivial⟩) (gQ Z_60 (Ht rfl) (Ht rfl) rfl (i:=0) rfl (aK rfl) rfl rfl ?_))))))))
  refine eX (bN (cY (ro rfl (dV (Ht rfl) (cJ 1) z6) (rm rfl (eX (fU (k + 1) hd zo (zS rfl) (eI.refl _)))))))
 ·simp only [decide_eq_false_iff_not] at hd
  obtain rfl:k = n:=Nat.le_antisymm hk zo
  refine gV rfl (ts (ro rfl (eJ A_60 Z_60 (Ht rfl) (i:=0) rfl rfl rfl) (gQ Z_60 (Ht rfl) (Ht rfl) rfl (i:=1) rfl (aK rfl) rfl rfl (eX ?_))))
  exact fW rfl (fK A_60 Z_60 rfl (i:=1) rfl rfl)
theorem Pj {r:Rt}:bF Tryz.prog 128 [mS r] (mS (uQ r)):=by
 have b1:=kT r.den (b:=4) (by decide)
 refine bF.intro Tryz.func128 rfl Tryz.ntmps128 rfl (fun cx=>(ts (rn rfl (fG (Ht rfl)) fun B1=>(rn rfl (eW (Ts:=[Is (.int .i64 0),Is (.int .i64 0),Is (.int .i64 0)]) O_48 rfl (fun V=>aW zd (aW zd (aW zd (aG))))) fun B2=>(eX (ts (ro rfl (eZ wT (Ht rfl) rfl) (ro rfl (eY A_2 Z_2 (Ht rfl) (i:=0) rfl rfl) (ro rfl (Hq (Ht rfl) cV (by decide) rfl) (ra rfl (eX (cK (kQ (fun (d:Int)=>d = qQ (r.den.tmod 4)) (fun (d:Int)=>[(1,cA B1 0),(2,cA B2 0),(3,aL .i64 d)]) (fun (d:Int)=>[box B1 48 [aL .i64 r.re,aL .i64 r.im,aL .i64 r.den],box B2 48 [Is (.int .i64 0),Is (.int .i64 0),Is (.int .i64 0)]]) ?_ (fun d hd=>?_))))))))))))))
 ·refine ts (rm rfl (ro rfl (tD (Ht rfl) cV) (eX (dQ (Ht rfl) (fun hb => ?_) (fun hb => ?_)))))
  ·have hb2 : r.den.tmod 4 < 0 := of_decide_eq_true hb
   refine cY (rm rfl (ro rfl (Nq (Ht rfl) (Ea zo)) (ra rfl (eX (bD (-(r.den.tmod 4)) (by rw [qQ,if_pos hb2]) (zS rfl) (eI.refl _))))))
  ·have hb2 : ¬ r.den.tmod 4 < 0 := of_decide_eq_false hb
   refine cU (bD (r.den.tmod 4) (by rw [qQ,if_neg hb2]) (zS rfl) (eI.refl _))
 ·have b2 := sK b1
  rw [← hd] at b2
  refine ts (ro rfl (eZ qE (Ht rfl) rfl) (ro rfl (eY A_2 Z_2 (Ht rfl) (i:=0) rfl rfl) (ro rfl (Hq (Ht rfl) cV (by decide) rfl) (ro rfl (eZ Pv (Ht rfl) rfl) (ro rfl (eY A_2 Z_2 (Ht rfl) (i:=0) rfl rfl) (ro rfl (Hq (Ht rfl) cV (by decide) rfl) (rm rfl (ro rfl (Cp (Ht rfl) cV (Ea zo)) (ro rfl (Gc (Ht rfl) (Ht rfl) (Ht rfl)) (gQ Z_48 (Ht rfl) (Ht rfl) rfl (i:=1) rfl (aK rfl) rfl rfl (eX (fW rfl (fX (fK A_48 Z_48 rfl (i:=1) rfl rfl) ?_)))))))))))))
  exact (fun v V h=>by rw [hd] at h; exact h)
theorem Ge {r:Rt}:bF Tryz.prog 34 [mS r] (mS (yZ r)):=by
 have b1:-9 < (uQ r).re ∧ (uQ r).re < 9:=kT r.re (b:=9) (by decide)
 refine bF.intro Tryz.func34 rfl Tryz.ntmps34 rfl (fun cx=>(ts (rn rfl (fG (Ht rfl)) fun B1=>(rn rfl (eW (Ts:=[Is (.int .i64 0),Is (.int .i64 0),Is (.int .i64 0)]) O_48 rfl (fun V=>aW zd (aW zd (aW zd (aG))))) fun B2=>(eX (ts (ro rfl (eJ A_48 Z_48 (Ht rfl) (i:=0) rfl rfl rfl) (ro rfl (cZ Tryz.call128 Pj ⟨(Ht rfl),trivial⟩) (rn rfl (eW (Ts:=[Is (.int .i64 0),Is (.int .i64 0),Is (.int .i64 0)]) O_48 rfl (fun V=>aW zd (aW zd (aW zd (aG))))) fun B3=>?_)))))))))
 refine gQ Z_48 (Ht rfl) (Ht rfl) rfl (i:=2) rfl (aK rfl) rfl rfl (eX (cK (kQ (fun (x:Int)=>x = qQ (uQ r).re) (fun (x:Int)=>[(1,cA B1 0),(2,cA B2 0),(3,cA B3 0)]) (fun (x:Int)=>[box B1 48 [aL .i64 r.re,aL .i64 r.im,aL .i64 r.den],box B2 48 [Is (.int .i64 0),Is (.int .i64 0),Is (.int .i64 0)],box B3 48 [aL .i64 x,aL .i64 (uQ r).im,aL .i64 (uQ r).den]]) ?_ (fun x hx=>?_))))
 ·refine ts (ro rfl (eZ qE (Ht rfl) rfl) (ro rfl (eY A_2 Z_2 (Ht rfl) (i := 2) rfl rfl) (ro rfl (tD (Ht rfl) cV) (eX (dQ (Ht rfl) (fun hb => ?_) (fun hb => ?_))))))
  ·have hb2 : (uQ r).re < 0 := of_decide_eq_true hb
   refine cY (ro rfl (eZ qE (Ht rfl) rfl) (ro rfl (eY A_2 Z_2 (Ht rfl) (i:=2) rfl rfl) (ro rfl (Nq (Ht rfl) (Ea zo)) (ro rfl (eZ qE (Ht rfl) rfl) (oK Z_2 (Ht rfl) (Ht rfl) (i:=2) rfl (aK rfl) rfl (eX (bD (-((uQ r).re)) (by rw [qQ,if_pos hb2]) (zS rfl) (eI.refl _))))))))
  ·have hb2 : ¬ (uQ r).re < 0 := of_decide_eq_false hb
   refine cU (bD ((uQ r).re) (by rw [qQ,if_neg hb2]) (zS rfl) (eI.refl _))
 ·have b2 := sK b1
  rw [← hx] at b2
  refine ts (ro rfl (eZ qE (Ht rfl) rfl) (ro rfl (eY A_2 Z_2 (Ht rfl) (i:=2) rfl rfl) (ro rfl (Cp (Ht rfl) cV (Ea zo)) (ro rfl (eZ wT (Ht rfl) rfl) (ro rfl (eY A_2 Z_2 (Ht rfl) (i:=2) rfl rfl) (ro rfl (uW (Ht rfl) (Ht rfl)) (gQ Z_48 (Ht rfl) (Ht rfl) rfl (i:=1) rfl (aK rfl) rfl rfl (eX (fW rfl (fX (fK A_48 Z_48 rfl (i:=1) rfl rfl) ?_))))))))))
  exact (fun v V h=>by rw [hx] at h; exact h)
theorem Wj {l:List Rt} {i:Nat}:bF Tryz.prog 166 [lW l,NT .i64 i] (mS (zN l i)):=by
 refine bF.intro Tryz.func166 rfl Tryz.ntmps166 rfl (fun cx=>(ts (rn rfl (eW (Ts:=[Is (.int .i64 0),Is (.int .i64 0),Is (.int .i64 0)]) O_48 rfl (fun V=>aW zd (aW zd (aW zd (aG))))) fun B4=>(eX (cK (ts (rm rfl (ro rfl (dG U_22 (Ht rfl) aC) (ro rfl (eC (Ht rfl) (cJ 0)) (eX (dQ (Ht rfl) (fun hb=>?_) (fun hb=>?_))))))))))))
 ·have hb2 : l.length = 0 := by simpa only [decide_eq_true_eq] using hb
  refine ts (ro rfl (a1a ) (gQ Z_48 (Ht rfl) (Ht rfl) rfl (i:=0) rfl (aK rfl) rfl rfl (eX (fW rfl (fX (fK A_48 Z_48 rfl (i:=0) rfl rfl) ?_)))))
  exact (fun v V h=>by rw [zN,if_pos hb2]; exact h)
 ·have hb2 : ¬ l.length = 0 := by simpa only [decide_eq_false_iff_not] using hb
  have hm:=Nat.mod_lt i (Nat.pos_of_ne_zero hb2)
  refine cU (ts (rm rfl (rm rfl (rm rfl (ro rfl (dG U_22 (Ht rfl) aC) (ro rfl (lT (Ht rfl) (Ht rfl) zo) (ro rfl (dZ U_22 Z_48 (Ht rfl) (Ht rfl) rfl (dY (dU (d:=default) hm))) (ro rfl (dJ A_48 Z_48 (Ht rfl)) (gQ Z_48 (Ht rfl) (Ht rfl) rfl (i:=0) rfl (aK rfl) rfl rfl (eX (fW rfl (fX (fK A_48 Z_48 rfl (i:=0) rfl rfl) ?_))))))))))))
  exact (fun v V h=>by rw [zN,if_neg hb2]; exact h)
end
section
open Go Go.RowKit
section
variable {n:Nat} {x y z x' y':Nat → Qi} {C C':Nat → Nat → Qi}
end
theorem Ia {x:Qi} (h:x = x.conj):x.im = 0:=by
 have:x.im = -x.im:=congrArg Qi.im h
 grind
theorem Js (x:Qi):(0:Rat) < ((x.den:Int):Rat):=by
 have:=x.den_pos
 have h:(0:Int) < (x.den:Int):=by omega
 exact_mod_cast h
section
variable {h:List (List Qi)} {n:Nat}
def ei (i:Nat) (v:Qi) (a:Nat):Qi:=if a = i then v else 0
def mk (i:Nat) (y:Nat → Qi) (r:Nat):Qi:=if i ≤ r then y r else 0
theorem kH (x:Rat):0 ≤ x * x:=by
 rcases Rat.le_total (a:=0) (b:=x) with k | k
 ·exact Rat.mul_nonneg k k
 ·have := Rat.mul_nonneg (a := -x) (b := -x) (by grind) (by grind)
  grind
end
end
section
open Go Go.RowKit
def a0i (z:List Qi) (s:List (List Qi)):Bool:=decide (∀ i,i < z.length → ∀ j,j < i → gm s i j * gv z j = gm s j i * gv z i)
theorem a1f {z:List Qi} {s:List (List Qi)} {L:Nat} (hz:bH z L) (hs:bA s L) (hL:1 ≤ L) (hLb:L ≤ 100000000000) (hsh:cB s z.length z.length) (h8:z.length ≤ 8):bF Tryz.prog 17 [dC z s] (aI (a0i z s)):=by
 have hsl:=hsh.1
 obtain ⟨n,hn⟩:∃ n,n = z.length:=⟨_,rfl⟩
 have hsh2:cB s n n:=by rw [hn]; exact hsh
 refine bF.intro Tryz.func17 rfl Tryz.ntmps17 rfl (fun cx=>(ts (rn rfl (fG (Ht rfl)) fun B1=>(ro rfl (cQ cV) (eX (cK (ts (ro rfl (eZ cT (Ht rfl) rfl) (ro rfl (eY A_26 Z_26 (Ht rfl) (i:=0) rfl rfl) (ro rfl (dG U_26 (Ht rfl) (by rw [List.length_map,hsl])) ?_))))))))))
 refine ro rfl (cX (cJ 0)) (eX (eG ?_))
 refine cI (fun (i : Nat) => i ≤ n ∧ ∀ a, a < i → ∀ b, b < a → gm s a b * gv z b = gm s b a * gv z a) (fun (i : Nat) => n - i) (fun (i : Nat) => [(1, cA B1 0), (7, NT .i64 n), (8, NT .i64 i)]) (fun (i : Nat) => [box B1 28 [aN z, cH s]]) 0 ⟨Nat.zero_le _, fun a h => by omega⟩
  (aQ rfl (aZ rfl (nB hn.symm) (zS rfl))) (aU (aD rfl) aY) (fun i ⟨hi,hh⟩=>?_)
 refine ts (ro rfl (gX (Ht rfl) (Ht rfl)) (eX (cK (dQ (Ht rfl) (fun hc=>?_) (fun hc=>?_)))))
 ·have hin : i < n := by simp only [decide_eq_true_eq] at hc; omega
  have hri:=hsh2.row hin
  refine cU (cK (eG (ts (rm rfl (ra rfl (eX (ts (rm rfl (ro rfl (cX (cJ 0)) (eX (eG ?_)))))))))))
  refine cI (fun (k : Nat) => k ≤ i ∧ ∀ b, b < k → gm s i b * gv z b = gm s b i * gv z i) (fun (k : Nat) => i - k) (fun (k : Nat) => [(1, cA B1 0), (3, NT .i64 i), (7, NT .i64 n), (8, NT .i64 i), (11, NT .i64 i), (12, NT .i64 k)]) (fun (k : Nat) => [box B1 28 [aN z, cH s]]) 0 ⟨Nat.zero_le _, fun b h => by omega⟩
   (zS rfl) (aU (aD rfl) aY) (fun k ⟨hk,hk0⟩=>?_)
  refine ts (ro rfl (gX (Ht rfl) (Ht rfl)) (eX (cK (dQ (Ht rfl) (fun hd=>?_) (fun hd=>?_)))))
  ·have hki : k < i := by simp only [decide_eq_true_eq] at hd; omega
   have hrk:=hsh2.row (i:=k) zo
   haveI f1:aH (gm s i k) L:=hs.get hL i k
   haveI f2:aH (gm s k i) L:=hs.get hL k i
   haveI f3:aH (gv z i) L:=hz.get hL i
   haveI f4:aH (gv z k) L:=hz.get hL k
   haveI f5:aH (gm s i k * gv z k) (L + L + 1):=fitMul
   haveI f6:aH (gm s k i * gv z i) (L + L + 1):=fitMul
   refine cU (cK (eG (ts (rm rfl (ra rfl (eX (cK (fZ (m:=27) (dp 1 rfl (eZ cT (Ht rfl) rfl) (dq 15 0 rfl (eY A_26 Z_26 (Ht rfl) (i:=0) rfl rfl) (dp 3 rfl (cX (Ht rfl)) (dH 16 1 17 2 rfl (dZ U_26 Z_25 (Ht rfl) (Ht rfl) rfl (dY (dU (d:=[]) zo))) (dq 18 3 rfl (dJ A_25 Z_25 (Ht rfl)) (dp 4 rfl (cX (Ht rfl)) (dH 19 4 20 5 rfl (dZ U_25 Z_60 (Ht rfl) (Ht rfl) rfl (dY (dU (d:=Qi.zero) zo))) (dq 21 6 rfl (dJ A_60 Z_60 (Ht rfl)) ?_))))))))))))))))
   refine dp 1 rfl (eZ dS (Ht rfl) rfl) (dq 23 8 rfl (eY A_25 Z_25 (Ht rfl) (i:=0) rfl rfl) (dp 4 rfl (cX (Ht rfl)) (dH 24 9 25 10 rfl (dZ U_25 Z_60 (Ht rfl) (Ht rfl) rfl (dY (dU (d:=Qi.zero) zo))) (dq 26 11 rfl (dJ A_60 Z_60 (Ht rfl)) (dH 22 7 27 12 rfl (cZ K_70 (kY (x:=gm s i k) (y:=gv z k) (L:=L) (M:=L) zo) ⟨(Ht rfl),(Ht rfl),trivial⟩) (dp 1 rfl (eZ cT (Ht rfl) rfl) (dq 29 14 rfl (eY A_26 Z_26 (Ht rfl) (i:=0) rfl rfl) ?_)))))))
   refine dp 4 rfl (cX (Ht rfl)) (dH 30 15 31 16 rfl (dZ U_26 Z_25 (Ht rfl) (Ht rfl) rfl (dY (dU (d:=[]) zo))) (dq 32 17 rfl (dJ A_25 Z_25 (Ht rfl)) (dp 3 rfl (cX (Ht rfl)) (dH 33 18 34 19 rfl (dZ U_25 Z_60 (Ht rfl) (Ht rfl) rfl (dY (dU (d:=Qi.zero) zo))) (dq 35 20 rfl (dJ A_60 Z_60 (Ht rfl)) (dp 1 rfl (eZ dS (Ht rfl) rfl) (dq 37 22 rfl (eY A_25 Z_25 (Ht rfl) (i:=0) rfl rfl) (dp 3 rfl (cX (Ht rfl)) ?_))))))))
   refine dH 38 23 39 24 rfl (dZ U_25 Z_60 (Ht rfl) (Ht rfl) rfl (dY (dU (d:=Qi.zero) zo))) (dq 40 25 rfl (dJ A_60 Z_60 (Ht rfl)) (fV bB rfl (by kernel_rfl) (zF (zF (zF (zF (zF (zF (aJ (aJ (aJ (aV (ro rfl (cZ K_70 (kY (x:=gm s k i) (y:=gv z i) (L:=L) (M:=L) zo) ⟨(Ht rfl),(Ht rfl),trivial⟩) ?_)))))))))))))
   refine ro rfl (cZ Tryz.call100 (Gd (x:=gm s i k * gv z k) (y:=gm s k i * gv z i) (L:=L + L + 1) (M:=L + L + 1) zo zo) ⟨(Ht rfl),(Ht rfl),trivial⟩) (ro rfl (gG (Ht rfl)) (eX (dQ (Ht rfl) (fun he=>?_) (fun he=>?_))))
   ·have hne : ¬ gm s i k * gv z k = gm s k i * gv z i := by simpa using he
    have hf0 : a0i z s = false := by
     have : ¬ a0i z s = true := fun e => by
      have e2:∀ i,i < z.length → ∀ j,j < i → gm s i j * gv z j = gm s j i * gv z i:=of_decide_eq_true e
      exact hne (e2 i zo k hki)
     simpa using this
    refine ts (ro rfl (cQ cV) (eX (fW rfl (fX (eU rfl) ?_))))
    exact (fO hf0.symm)
   ·have heq : gm s i k * gv z k = gm s k i * gv z i := by simpa using he
    refine cU (bN (cY (ro rfl (dV (Ht rfl) (cJ 1) z6) (rm rfl (eX ?_)))))
    refine fU (k + 1) ⟨hki, fun b h1 => by
      by_cases e:b = k
      ·rw [e]; exact heq
      ·exact hk0 b zo⟩ zo (zS rfl) (aU (aD rfl) aY)
  ·have hki : k = i := by simp only [decide_eq_false_iff_not] at hd; omega
   refine gV rfl (bN (cY (ro rfl (dV (Ht rfl) (cJ 1) z6) (rm rfl (eX ?_)))))
   refine fU (i + 1) ⟨hin, fun a h1 b h2 => by
     by_cases e:a = i
     ·rw [e] at h2 ⊢; exact hk0 b zo
     ·exact hh a zo b h2⟩ zo (zS rfl) (aU (aD rfl) aY)
 ·have hin : i = n := by simp only [decide_eq_false_iff_not] at hc; omega
  have hf0:a0i z s = true:=decide_eq_true fun a h1 b h2=>hh a zo b h2
  refine gV rfl (ts (ro rfl (cQ cV) (eX (fW rfl (fX (eU rfl) ?_)))))
  exact (fO hf0.symm)
theorem Sf {z:List Qi} {s:List (List Qi)} {L G0 V0:Nat} (hz:bH z L) (hs:bA s L) (hL:1 ≤ L) (hLb:L ≤ 10000000000) (hsh:cB s z.length z.length) (h8:z.length ≤ 8) (hp:z.all eS = true) (hzz:yY (Lt z s) z.length = true → SzD (Lt z s) z.length G0 V0):bF Tryz.prog 16 [dC z s] (eD [aI (dfB (Lt z s) z.length),aN (dfW (Lt z s) z.length)]):=by
 refine bF.intro Tryz.func16 rfl Tryz.ntmps16 rfl (fun cx=>(ts (rn rfl (fG (Ht rfl)) fun B1=>(ro rfl (cQ cV) (ro rfl (cQ cV) (eX (ts (ro rfl (eJ A_28 Z_28 (Ht rfl) (i:=0) rfl rfl rfl) (ro rfl (cZ Tryz.call99 (Ph hz hs hL zo hp hsh h8) ⟨(Ht rfl),trivial⟩) (ro rfl (cZ Tryz.call98 (Me (L:=51 * L + 43) (n:=z.length) (Re z s) (Rd hz hs hL hp h8) zo zo hzz zo) ⟨(Ht rfl),trivial⟩) (rm rfl (ro rfl (dK (Ht rfl) rfl) (ro rfl (dK (Ht rfl) rfl) (ro rfl (dK (Ht rfl) rfl) ?_))))))))))))))
 refine ra rfl (ra rfl (eX (ts (rm rfl (rm rfl (ra rfl (ra rfl (eX ?_))))))))
 exact bL rfl (eU rfl) (eU rfl)
end
section
open Go Go.RowKit
theorem wS (a:Addr) (w:World):(Instr.fieldAt 24 (.pointer (some a)) 0).run Tryz.prog w = .ok (.pointer (some (a.add 0))) w:=by
 simp [Instr.fieldAt,Instr.sureAddr,fieldPlace,Sem.run_bind,Result.andThen,U_24,Z_5]
theorem a1N (a:Addr) (w:World):(Instr.fieldAt 24 (.pointer (some a)) 1).run Tryz.prog w = .ok (.pointer (some (a.add 1))) w:=by
 simp [Instr.fieldAt,Instr.sureAddr,fieldPlace,Sem.run_bind,Result.andThen,U_24,Z_22]
theorem a1O (a:Addr) (w:World):(Instr.fieldAt 24 (.pointer (some a)) 2).run Tryz.prog w = .ok (.pointer (some (a.add 2))) w:=by
 simp [Instr.fieldAt,Instr.sureAddr,fieldPlace,Sem.run_bind,Result.andThen,U_24,Z_22]
theorem a1X:Tryz.prog.info? 22 = some Tryz.t22:=by kernel_rfl
theorem Qa:Tryz.prog.info? 48 = some Tryz.t48:=by kernel_rfl
theorem a0U:Tryz.prog.underlying 22 = some (.slice 48):=by kernel_rfl
end
section
open Go Go.RowKit
abbrev Iw (a:Nat) (zl sl:List Rt):Ty:=fS [NT .u8 a,lW zl,lW sl]
theorem a0b:∀ V,(mS default).p (.agg #[.int .i64 0,.int .i64 0,.int .i64 0]) V:=fun V=>⟨[.int .i64 0,.int .i64 0,.int .i64 0],rfl,aW zd (aW zd (aW zd aG))⟩
theorem a6K {B e s l:Nat} {BT:TypeId} {Rs:List (List Ty)} {q:Value → Prop} (hl:l = Rs.length):∀ u S V,(Is (.slice (some ⟨B,0,none⟩) l l)).p u V → (rX q B BT e s Rs).h S V V → (kM 1 (Rs.map (kM s))).p u V:=fun u S V h1 h2=>Gu hl (Nat.le_refl _) u S V h1 h2
theorem a02 (a:Nat) (sl:List Rt):(tab (fA a) fun i=>tab (fA a) fun j=>mS (uQ (zN sl (fA a * i + j)))).map (kM 3) = (Va a sl).map lW:=by
 rw [Va,qL,qL]
 refine bT fun i _=>?_
 rw [lW,qL]
theorem Wc {a:Nat} {zl sl:List Rt} (ha:a < 256):iV Tryz.prog 92 [Iw a zl sl] [] (Nat) (fun B=>eD [lW (plZ a zl),Is (.slice (some ⟨B,0,none⟩) (fA a) (fA a))]) (fun B=>[oE B 22 48 3 (tab (fA a) (fun i=>tab (fA a) fun j=>mS (uQ (zN sl (fA a * i + j)))))]) (fun _=>True):=by
 have hn:fA a ≤ 4:=by unfold fA; omega
 have hn0:a % 4 + 1 = fA a:=rfl
 refine iV.intro Tryz.func92 rfl Tryz.ntmps92 rfl (fun cx Z=>(ts (rn rfl (fG (Ht rfl)) fun B1=>(ro rfl (cQ cV) (ro rfl (cQ cV) (eX (ts (ro rfl (eZ wS (Ht rfl) rfl) (ro rfl (eY A_5 Z_5 (Ht rfl) (i:=1) rfl rfl) (ro rfl (lT (Ht rfl) (cJ 4) zo) (ro rfl (gZ U_5 U_3 (Ht rfl) z6) (ro rfl (aM.nat (dV (Ht rfl) (cJ 1) z6) hn0) ?_))))))))))))
 refine ra rfl (eX (cK (fZ (m:=5) (dp 4 rfl (cX (Ht rfl)) (C.D_new (Ei:=[(14,_)]) rfl rfl rfl (bV (bG 0 rfl rfl) bW) (iG (T:=mS default) (i:=Tryz.t48) a0U Qa rfl rfl (Ht rfl) rfl a0b (El.ag rfl) (by show 24 * _ ≤ _; omega) zo) (dp 4 rfl (cX (Ht rfl)) (C.D_new (Ei:=[(16,_)]) rfl rfl rfl (bV (bG 2 rfl rfl) bW) (jN (T:=Is (.slice none 0 0)) (i:=Tryz.t22) Tryz.underlying75 a1X rfl rfl (Ht rfl) rfl (fun _=>rfl) trivial (by show 24 * _ ≤ _; omega) zo) (C.D_cpy 1 rfl rfl rfl rfl rfl C.cpy_assign ?_))))))))
 refine fV bB rfl (by kernel_rfl) (aJ (C.F_new (fun B15=>aJ (C.F_new (fun B17=>C.F_cpy rfl (aV (ra rfl (eX (cK (ts (rm rfl (ro rfl (nW U_22 (Ht rfl) (i:=2) rfl (show ((List.replicate (fA a) (mS default)).length:Int) = ((fA a:Nat):Int) from by simp)) (ro rfl (cX (cJ 0)) (eX (eG (pN 3 rfl (xE (e:=48) (s:=3)) ?_))))))))))))))))
 refine cI (fun (i : Nat) => i ≤ fA a) (fun (i : Nat) => fA a - i) (fun (i : Nat) => [(1, cA B1 0), (4, NT .i64 (fA a)), (5, Is B15), (6, Is (.slice (some ⟨B17, 0, none⟩) (fA a) (fA a))), (19, NT .i64 (fA a)), (20, NT .i64 i)]) (fun (i : Nat) => [Z, box B1 24 [NT .u8 a, lW zl, lW sl], bI 48 3 B15 (kS (fun i => mS (yZ (zN zl i))) (mS default) (fA a) i), oE B17 22 48 3 (kS (fun i => tab (fA a) fun j => mS (uQ (zN sl (fA a * i + j)))) [] (fA a) i)]) 0 (Nat.zero_le _)
  (aQ rfl (aQ rfl (aQ rfl (aQ rfl (aZ rfl (nB (by simp)) (zS rfl)))))) (aU (fun _ _ _ h=>h) (aU (aD rfl) (aU (aP (by rw [← iN]; exact An _ _)) (aU (eB (by rw [← iN]; exact An _ _)) aY)))) (fun i hi=>?_)
 refine ts (ro rfl (gX (Ht rfl) (Ht rfl)) (eX (cK (dQ (Ht rfl) (fun hd=>?_) (fun hd=>?_)))))
 ·simp only [decide_eq_true_eq] at hd
  have hni:fA a * i ≤ 4 * 4:=Nat.mul_le_mul hn zo
  refine oV 3 (i) rfl (Qo hd) (fun v0=>(cU (cK (eG (ts (rm rfl (ra rfl (eX (ts (rm rfl (rm rfl (ro rfl (eZ a1N (Ht rfl) rfl) (ro rfl (eY A_22 Z_22 (Ht rfl) (i:=1) rfl rfl) (rm rfl (ro rfl (cZ Tryz.call166 Wj ⟨(Ht rfl),(Ht rfl),trivial⟩) (ro rfl (cZ Tryz.call34 Ge ⟨(Ht rfl),trivial⟩) (ro rfl (dA U_22 Z_48 (Ht rfl) (Ht rfl) rfl (i:=2) rfl (by rw [dE]; omega) rfl) ?_)))))))))))))))))
  refine lZ Z_48 (Ht rfl) (Ht rfl) (El.ag rfl) (i:=2) rfl rfl (by rw [dE]; omega) rfl ?_
  refine eX (ts (rm rfl (rm rfl (rm rfl (rn rfl (iG (T:=mS default) (i:=Tryz.t48) a0U Qa rfl rfl (Ht rfl) rfl a0b (El.ag rfl) (by show 24 * _ ≤ _; omega) zo) fun B34=>(ro rfl (fY U_75 Z_22 (Ht rfl) (Ht rfl) rfl zo (by rw [Nat.mul_one,Nat.zero_add])) ?_))))))
  refine Bd Z_22 (Ht rfl) (Ht rfl) (by rw [dE]; omega) (j:=3) (l:=5) rfl rfl rfl ?_
  refine eX (cK (cM [0,1,2,3,5] rfl (by decide) (cY (rm rfl (rm rfl (ro rfl (fY U_75 Z_22 (Ht rfl) (Ht rfl) rfl zo (by rw [Nat.mul_one,Nat.zero_add])) ?_))))))
  refine ro rfl (lI A_22 Z_22 (Ht rfl) (j:=3) rfl) (ro rfl (nW U_22 (Ht rfl) (i:=4) rfl (show ((List.replicate (fA a) (mS default)).length:Int) = ((fA a:Nat):Int) from by simp)) (ro rfl (cX (cJ 0)) (eX (eG ?_))))
  refine cI (fun (j : Nat) => j ≤ fA a) (fun (j : Nat) => fA a - j) (fun (j : Nat) => [(1, cA B1 0), (4, NT .i64 (fA a)), (5, Is B15), (6, Is (.slice (some ⟨B17, 0, none⟩) (fA a) (fA a))), (7, NT .i64 i), (19, NT .i64 (fA a)), (20, NT .i64 i), (40, NT .i64 (fA a)), (41, NT .i64 j)]) (fun (j : Nat) => [Z, box B1 24 [NT .u8 a, lW zl, lW sl], bI 48 3 B15 (kS (fun i => mS (yZ (zN zl i))) (mS default) (fA a) (i + 1)), He B17 22 48 3 (kS (fun i => tab (fA a) fun j => mS (uQ (zN sl (fA a * i + j)))) [] (fA a) i) i B34, bI 48 3 B34 (kS (fun j => mS (uQ (zN sl (fA a * i + j)))) (mS default) (fA a) j)]) 0 (Nat.zero_le _)
   (zS rfl) (aU (fun _ _ _ h=>h) (aU (aD rfl) (aU (aP (jU (f:=(fun i=>mS (yZ (zN zl i)))))) (aU (fun _ _ _ h=>h) (aU (aP (by rw [← iN]; exact An _ _)) aY))))) (fun j hj=>?_)
  refine ts (ro rfl (gX (Ht rfl) (Ht rfl)) (eX (cK (dQ (Ht rfl) (fun he=>?_) (fun he=>?_)))))
  ·simp only [decide_eq_true_eq] at he
   refine cU (cK (eG (ts (rm rfl (ra rfl (eX (fZ (m:=14) (dp 6 rfl (cX (Ht rfl)) (dp 7 rfl (cX (Ht rfl)) (dH 44 0 45 1 rfl (fY U_75 Z_22 (Ht rfl) (Ht rfl) rfl zo (by rw [Nat.mul_one,Nat.zero_add])) ?_))))))))))
   refine dq 46 2 rfl (lI A_22 Z_22 (Ht rfl) (j:=3) rfl) (dp 8 rfl (cX (Ht rfl)) (dp 1 rfl (eZ a1O (Ht rfl) rfl) (dq 49 5 rfl (eY A_22 Z_22 (Ht rfl) (i:=1) rfl rfl) (dp 4 rfl (cX (Ht rfl)) (dp 7 rfl (cX (Ht rfl)) (dH 51 7 52 8 rfl (pD (Ht rfl) (Ht rfl) (by show _ < 9223372036854775808; omega)) (dp 8 rfl (cX (Ht rfl)) (dH 53 9 54 10 rfl (dV (Ht rfl) (Ht rfl) (by show _ < 9223372036854775808; omega)) (dH 50 6 55 11 rfl (cZ Tryz.call166 Wj ⟨(Ht rfl),(Ht rfl),trivial⟩) (dq 56 12 rfl (cZ Tryz.call128 Pj ⟨(Ht rfl),trivial⟩) ?_))))))))))
   refine fV bB rfl (by kernel_rfl) (zF (zF (zF (aJ (aJ (aV (ro rfl (dA U_22 Z_48 (Ht rfl) (Ht rfl) rfl (i:=4) rfl (by rw [dE]; omega) rfl) ?_)))))))
   refine lZ Z_48 (Ht rfl) (Ht rfl) (El.ag rfl) (i:=4) rfl rfl (by rw [dE]; omega) rfl ?_
   refine eX (bN (cY (ro rfl (dV (Ht rfl) (cJ 1) z6) (rm rfl (eX (fU (j + 1) he zo (zS rfl) (aU (fun _ _ _ h=>h) (aU (aD rfl) (aU (fun _ _ _ h=>h) (aU (fun _ _ _ h=>h) (aU (aP (jU (f:=fun j=>mS (uQ (zN sl (fA a * i + j)))))) aY)))))))))))
  ·simp only [decide_eq_false_iff_not] at he
   have hjn:j = fA a:=Nat.le_antisymm hj zo
   rw [hjn,jT]
   refine gV rfl (bN (kU 3 4 rfl rfl (by decide) (by rw [dE]; omega) ?_))
   refine cY (ro rfl (dV (Ht rfl) (cJ 1) z6) (rm rfl (eX (cM [0,1,2,3] rfl (by decide) (fU (i + 1) hd zo (zS rfl) (aU (fun _ _ _ h=>h) (aU (aD rfl) (aU (fun _ _ _ h=>h) (aU (eB (jU (f:=(fun i=>tab (fA a) fun j=>mS (uQ (zN sl (fA a * i + j))))))) aY)))))))))
 ·simp only [decide_eq_false_iff_not] at hd
  have hin:i = fA a:=Nat.le_antisymm hi zo
  rw [hin,jT,jT]
  refine gV rfl (gJ (i:=2) (tt:=5) rfl rfl gE (ts (rm rfl (rm rfl (ra rfl (ra rfl (eX ?_)))))))
  exact kW B17 trivial [0,3] ⟨⟨_,rfl,fun _ _ _ h=>h⟩,⟨_,rfl,fun _ _ _ h=>h⟩,trivial⟩ (by decide) (a35 rfl (fX (eU rfl) (jC (by rw [plZ,qL]))) (eU rfl))
theorem a70 {T U U':Ty} {v:Value} {V:aO} (h:(eD [T,U]).p v V) (hU:∀ u,U.p u V → U'.p u V):(eD [T,U']).p v V:=by
 obtain ⟨vs,h1,h2⟩:=h
 match vs,h2 with
 | [x,y],⟨a,b,c⟩=>exact ⟨[x,y],h1,a,hU y b,c⟩
theorem a1e {a : Nat} {zl sl : List Rt} (ha : a < 256) : bF Tryz.prog 92 [Iw a zl sl] (eD [lW (plZ a zl), Ry (Va a sl)]) := (Wc ha).fun fun B _ v S V h1 h2 => a70 h1 fun u hu => by
 exact jC (a02 a sl) u V (a6K (aF _ _).symm u S V hu h2)
end
section
open Go Go.RowKit
theorem Mo {Y M:List (List Qi)} {n G X K:Nat} (hY:cB Y n n) (hM:cB M n n) (hfY:bA Y K) (hK:1 ≤ K) (hKb:K ≤ 900000000000) (hz:∀ i,i < n → Rz M (ek n i) n G X) (hX:X ≤ 900000000000) (hn:n ≤ 8):bF Tryz.prog 132 [cH Y,cH M] (eD [cH (ovX Y M n),aL .i64 (Fj M n)]):=by
 refine bF.intro Tryz.func132 rfl Tryz.ntmps132 rfl (fun cx=>(ts (ro rfl (cQ cV) (ro rfl (cQ (cJ 0)) (eX (ts (rm rfl (ro rfl (cZ Tryz.call224 (Mi hM hz zo) ⟨(Ht rfl),trivial⟩) (rm rfl (ro rfl (dK (Ht rfl) rfl) (ro rfl (dK (Ht rfl) rfl) (ra rfl (ra rfl (eX (cK (ts (rm rfl (ro rfl (fM (Ht rfl) cV) (eX (dQ (Ht rfl) (fun he=>?_) (fun he=>?_)))))))))))))))))))))
 ·have he2 : ¬ nK M n = 0 := by simpa using he
  have ho:Fj M n = 5:=if_neg he2
  refine ts (ro rfl (cQ cV) (ro rfl (cQ (cJ 5)) (eX (bL rfl (fX (eU rfl) ?_) (fX (eU rfl) ?_)))))
  ·exact (fun v V h=>by rw [ovX,ho]; exact iP v V h)
  ·exact (aT ho.symm)
 ·have he2 : nK M n = 0 := by simpa using he
  have ho:Fj M n = 0:=if_pos he2
  have hif:bA (jK M n) (max X 1):=(yI hz he2).le (Nat.le_max_left X 1)
  have h1:1 ≤ n ∨ n = 0:=by omega
  refine Bf (E':=[(0,_),(1,_),(4,_),(5,_),(6,_),(7,_),(8,_),(9,_),(10,_),(11,_),(12,_),(13,_),(14,_)]) (aQ rfl (aQ rfl (aQ rfl (aQ rfl (aZ rfl (jC (Us:=(jK M n).map aN) (by rw [he2]; rfl)) (zS rfl)))))) ?_
  refine cU (ts (rm rfl (rm rfl (ro rfl (cZ Tryz.call141 (Pc (n:=n) (k:=n) (m:=n) hY (sZ M n) hfY hif hK zo hKb zo h1 h1 hn hn hn) ⟨(Ht rfl),(Ht rfl),trivial⟩) (ro rfl (dK (Ht rfl) rfl) (ro rfl (dK (Ht rfl) rfl) (ra rfl (ra rfl (eX (bL rfl (fX (eU rfl) ?_) (fX (eU rfl) ?_)))))))))))
  ·exact (jC (by rw [ovX,ho]; rfl))
  ·exact (aT ho.symm)
theorem Jk {Y M:List (List Qi)} {n G X K:Nat} (hY:cB Y n n) (hM:cB M n n) (hfY:bA Y K) (hK:1 ≤ K) (hKb:K ≤ 900000000000) (hz:∀ i,i < n → Rz M (ek n i) n G X) (hX:X ≤ 900000000000) (hn:n ≤ 8):bF Tryz.prog 218 [cH M,cH Y] (eD [cH (unX M Y n),aL .i64 (Fj M n)]):=by
 refine bF.intro Tryz.func218 rfl Tryz.ntmps218 rfl (fun cx=>(ts (ro rfl (cQ cV) (ro rfl (cQ (cJ 0)) (eX (ts (rm rfl (ro rfl (cZ Tryz.call224 (Mi hM hz zo) ⟨(Ht rfl),trivial⟩) (rm rfl (ro rfl (dK (Ht rfl) rfl) (ro rfl (dK (Ht rfl) rfl) (ra rfl (ra rfl (eX (cK (ts (rm rfl (ro rfl (fM (Ht rfl) cV) (eX (dQ (Ht rfl) (fun he=>?_) (fun he=>?_)))))))))))))))))))))
 ·have he2 : ¬ nK M n = 0 := by simpa using he
  have ho:Fj M n = 5:=if_neg he2
  refine ts (ro rfl (cQ cV) (ro rfl (cQ (cJ 5)) (eX (bL rfl (fX (eU rfl) ?_) (fX (eU rfl) ?_)))))
  ·exact (fun v V h=>by rw [unX,ho]; exact iP v V h)
  ·exact (aT ho.symm)
 ·have he2 : nK M n = 0 := by simpa using he
  have ho:Fj M n = 0:=if_pos he2
  have hif:bA (jK M n) (max X 1):=(yI hz he2).le (Nat.le_max_left X 1)
  have h1:1 ≤ n ∨ n = 0:=by omega
  refine Bf (E':=[(0,_),(1,_),(4,_),(5,_),(6,_),(7,_),(8,_),(9,_),(10,_),(11,_),(12,_),(13,_),(14,_)]) (aQ rfl (aQ rfl (aQ rfl (aQ rfl (aZ rfl (jC (Us:=(jK M n).map aN) (by rw [he2]; rfl)) (zS rfl)))))) ?_
  refine cU (ts (rm rfl (rm rfl (ro rfl (cZ Tryz.call141 (Pc (n:=n) (k:=n) (m:=n) (sZ M n) hY hif hfY zo hK zo hKb h1 h1 hn hn hn) ⟨(Ht rfl),(Ht rfl),trivial⟩) (ro rfl (dK (Ht rfl) rfl) (ro rfl (dK (Ht rfl) rfl) (ra rfl (ra rfl (eX (bL rfl (fX (eU rfl) ?_) (fX (eU rfl) ?_)))))))))))
  ·exact (jC (by rw [unX,ho]; rfl))
  ·exact (aT ho.symm)
theorem Mp {Y M:List (List Qi)} {n L K:Nat} (hY:cB Y n n) (hM:cB M n n) (hfY:bA Y K) (hf:bA M L) (hK:1 ≤ K) (hKb:K ≤ 900000000000) (hL:1 ≤ L) (h1:1 ≤ n) (hn:n ≤ 8) (hg:6 * jQ L n + 4 ≤ 17592186044415) (hx:uG (jQ L n) (n + 1) ≤ 900000000000):bF Tryz.prog 218 [cH M,cH Y] (eD [cH (unX M Y n),aL .i64 (Fj M n)]):=Jk hY hM hfY hK hKb (fun i _=>Rz.old hM hf (Gm hL) hL hg (Nat.le_trans hx (by decide))) (Nat.le_trans (tM (jQ L n) n) hx) hn
theorem a2Z {P:Program} {f:FuncId} {A1 A2 B1 B2 C1 C2:Ty} {R1 R2:Ty} {x:Bool} (h1:bF P f [A1,A2,C1,C2] R1) (h2:bF P f [B1,B2,C1,C2] R2):bF P f ((cond x [A1,A2] [B1,B2]) ++ [C1,C2]) (cond x R1 R2):=by cases x; exact h2; exact h1
theorem a4a {st fa z:List Qi} {s:List (List Qi)} {n i j K L:Nat} (hst:st.length = n) (hfa:fa.length = n) (hs:cB s n n) (h1:bH st K) (h2:bH fa K) (h3:bA s L) (hK:1 ≤ K) (hL:1 ≤ L) (hb:2 * K + L + 2 ≤ 900000000000) (hi:i < n) (hj:j < n):bF Tryz.prog 131 [NT .i64 i,NT .i64 j,PT (aN st),PT (aN fa),PT (dC z s)] (aE (mxE st fa s i j)):=by
 have hsl:=hs.1
 have hsr:=hs.row hi
 haveI f1:aH (gv fa i) K:=h2.get hK i
 haveI f2:aH (gm s i j) L:=h3.get hL i j
 refine bF.intro Tryz.func131 rfl Tryz.ntmps131 rfl (fun cx=>(ts (rn rfl (eW (Ts:=[Is (.bool false),Is (.slice none 0 0),Is (.bool false),Is (.slice none 0 0),Is (.slice none 0 0)]) O_60 rfl (fun V=>aW zd (aW zd (aW zd (aW zd (aW zd (aG))))))) fun B7=>(eX (ts (ro rfl (cZ K_118 (rQ (n:=0) (by decide) (by decide)) ⟨(cJ 0),trivial⟩) (rn rfl (eW (Ts:=[Is (.bool false),Is (.slice none 0 0),Is (.bool false),Is (.slice none 0 0),Is (.slice none 0 0)]) O_60 rfl (fun V=>aW zd (aW zd (aW zd (aW zd (aW zd (aG))))))) fun B8=>?_)))))))
 refine gQ Z_60 (Ht rfl) (Ht rfl) rfl (i:=1) rfl (aK rfl) rfl rfl (eX (cK (kQ (fun (x:Qi)=>x = (if i = j then gv st i else Qi.ofInt 0)) (fun (x:Qi)=>[(0,NT .i64 i),(1,NT .i64 j),(3,PT (aN fa)),(4,PT (dC z s)),(7,cA B7 0),(8,cA B8 0)]) (fun (x:Qi)=>[box B7 60 [Is (.bool false),Is (.slice none 0 0),Is (.bool false),Is (.slice none 0 0),Is (.slice none 0 0)],box B8 60 [aI (decide (x.a < 0)),aS x.a.natAbs,aI (decide (x.b < 0)),aS x.b.natAbs,aS (du x)]]) ?_ (fun x hx=>?_))))
 ·refine ts (rm rfl (rm rfl (ro rfl (eC (Ht rfl) (Ht rfl)) (eX (dQ (Ht rfl) (fun hb => ?_) (fun hb => ?_))))))
  ·have hij : i = j := by simpa using hb
   refine cY (ro rfl (dJ A_25 Z_25 (Ht rfl)) (rm rfl (ro rfl (dZ U_25 Z_60 (Ht rfl) (Ht rfl) rfl (dY (dU (d:=Qi.zero) zo))) (ro rfl (dJ A_60 Z_60 (Ht rfl)) (gQ Z_60 (Ht rfl) (Ht rfl) rfl (i:=1) rfl (aK rfl) rfl rfl (eX (bD (gv st i) (by rw [if_pos hij]) (zS rfl) (eI.refl _))))))))
  ·have hij : ¬ i = j := by simpa using hb
   refine cU (bD (Qi.ofInt 0) (by rw [if_neg hij]) (zS rfl) (eI.refl _))
 ·haveI f3 : aH x K := by
   rw [hx]; split
   ·exact h1.get hK i
   ·exact aH.zero hK
  refine cK (fZ (m:=16) (dp 8 rfl (eJ A_60 Z_60 (Ht rfl) (i:=1) rfl rfl rfl) (dq 17 0 rfl (bE bP (Ht rfl)) (dp 3 rfl (dJ A_25 Z_25 (Ht rfl)) (dp 0 rfl (cX (Ht rfl)) (dH 19 2 20 3 rfl (dZ U_25 Z_60 (Ht rfl) (Ht rfl) rfl (dY (dU (d:=Qi.zero) zo))) (dq 21 4 rfl (dJ A_60 Z_60 (Ht rfl)) (dq 22 5 rfl (bE bP (Ht rfl)) (dp 4 rfl (gO cT (Ht rfl) rfl) (dq 24 7 rfl (dJ A_26 Z_26 (Ht rfl)) (dp 0 rfl (cX (Ht rfl)) ?_)))))))))))
  refine dH 25 8 26 9 rfl (dZ U_26 Z_25 (Ht rfl) (Ht rfl) rfl (dY (dU (d:=[]) zo))) (dq 27 10 rfl (dJ A_25 Z_25 (Ht rfl)) (dp 1 rfl (cX (Ht rfl)) (dH 28 11 29 12 rfl (dZ U_25 Z_60 (Ht rfl) (Ht rfl) rfl (dY (dU (d:=Qi.zero) zo))) (dq 30 13 rfl (dJ A_60 Z_60 (Ht rfl)) (dH 23 6 31 14 rfl (aR dP K_70 (kY (x:=gv fa i) (y:=gm s i j) (L:=K) (M:=L) zo) (Ht rfl) ⟨(Ht rfl),trivial⟩) (fV bB rfl (by kernel_rfl) (zF (zF (zF (zF (aV ?_)))))))))))
  refine ro rfl (aR lF K_71 (sG (x:=x) (y:=gv fa i * gm s i j) (L:=K) (M:=K + L + 1) zo) (Ht rfl) ⟨(Ht rfl),trivial⟩) (gQ Z_60 (Ht rfl) (Ht rfl) rfl (i:=0) rfl (aK rfl) rfl rfl (eX (fW rfl (fX (fK A_60 Z_60 rfl (i:=0) rfl rfl) ?_))))
  exact (iZ (by rw [hx]; rfl))
theorem a3s {st fa z w:List Qi} {s:List (List Qi)} {n K L:Nat} (hw:w.length = n) (hn:n ≤ 1000) (hst:st.length = n) (hfa:fa.length = n) (hs:cB s n n) (h1:bH st K) (h2:bH fa K) (h3:bA s L) (hK:1 ≤ K) (hL:1 ≤ L) (hb:2 * K + L + 2 ≤ 900000000000):bF Tryz.prog 130 [aN st,aN fa,PT (aN w),PT (dC z s)] (cH (mxM st fa s n)):=by
 refine bF.intro Tryz.func130 rfl Tryz.ntmps130 rfl (fun cx=>(ts (rn rfl (mB (Ht rfl)) fun B4=>(rn rfl (mB (Ht rfl)) fun B5=>(ro rfl (cQ cV) (eX (cK (gJ (i:=0) (tt:=4) rfl rfl gY (gJ (i:=1) (tt:=5) rfl rfl gY (cY (ro rfl (dJ A_25 Z_25 (Ht rfl)) (ro rfl (dG U_25 (Ht rfl) (by rw [List.length_map,hw])) ?_))))))))))))
 refine ro rfl (lR (γ:=Fin n × Fin n) (Ts:=fun x=>[NT .i64 x.1.1,NT .i64 x.2.1]) (U:=fun x=>aE (mxE st fa s x.1.1 x.2.1)) Tryz.call131 (fun x=>a4a hst hfa hs h1 h2 h3 hK hL hb x.1.2 x.2.2) ⟨(Ht rfl),(Ht rfl),(Ht rfl),trivial⟩) (ro rfl (cZ K_110 (uY (n:=n) (f:=fun i j=>mxE st fa s i j) hn) ⟨(Ht rfl),(Ht rfl),trivial⟩) (ra rfl (eX ?_)))
 exact fW rfl (eU rfl)
theorem Sg {z w:List Qi} {s:List (List Qi)} {L M K G X:Nat} (hs:cB s z.length z.length) (hz:bH z L) (hw:bH w M) (hf:bA s K) (hL:1 ≤ L) (hM:1 ≤ M) (hK:1 ≤ K) (hLb:L ≤ 1000000000) (hMb:M ≤ 1000000000) (hKb:K ≤ 100000000000) (hp:z.all eS = true) (h8:z.length ≤ 8) (hwl:w.length ≤ 1000) (hsz:w.length = z.length → ∀ i,i < w.length → Rz (yN z w s) (ek w.length i) w.length G X) (hX:X ≤ 900000000000):bF Tryz.prog 35 [dC z s,aN w] (eD [dC (rnZ z w s) (mV z w s),aL .i64 (Ic z w s)]):=by
 refine bF.intro Tryz.func35 rfl Tryz.ntmps35 rfl (fun cx=>(ts (rn rfl (fG (Ht rfl)) fun B2=>(rn rfl (mB (Ht rfl)) fun B3=>(rn rfl (eW (Ts:=[Is (.slice none 0 0),Is (.slice none 0 0)]) O_28 rfl (fun V=>aW zd (aW zd (aG)))) fun B4=>(ro rfl (cQ (cJ 0)) (eX (cK (ts (ro rfl (eY A_25 Z_25 (Ht rfl) (i:=1) rfl rfl) (ro rfl (dG U_25 (Ht rfl) aC) (ro rfl (eZ dS (Ht rfl) rfl) (ro rfl (eY A_25 Z_25 (Ht rfl) (i:=0) rfl rfl) ?_)))))))))))))
 refine ro rfl (dG U_25 (Ht rfl) aC) (ro rfl (lS (Ht rfl) (Ht rfl)) (eX (dQ (Ht rfl) (fun hb=>?_) (fun hb=>?_))))
 ·have hn : w.length ≠ z.length := by simpa using hb
  have he:=a31 (s:=s) hn
  refine ts (ro rfl (aM.imp (jF ) jM) (gQ Z_28 (Ht rfl) (Ht rfl) rfl (i:=2) rfl (aK rfl) rfl rfl (ro rfl (cQ (cJ 4)) (eX (bL rfl (fX (fK A_28 Z_28 rfl (i:=2) rfl rfl) ?_) (fX (eU rfl) ?_))))))
  ·exact (fun v V h=>by rw [rnZ,mV,iC,iC,he]; exact h)
  ·exact (aT he.symm)
 ·have hl : w.length = z.length := by simpa using hb
  have hsz:=hsz hl
  refine cU (cK (ts (ro rfl (eY A_25 Z_25 (Ht rfl) (i:=1) rfl rfl) (ro rfl (cZ Tryz.call129 (yW (L:=M) hw zo zo) ⟨(Ht rfl),trivial⟩) (ra rfl (eX (ts (rm rfl (ro rfl (fM (Ht rfl) cV) (eX (dQ (Ht rfl) (fun hb2=>?_) (fun hb2=>?_))))))))))))
  ·have hq : w.all eS ≠ true := fun e => by rw [e] at hb2; simp at hb2
   have he:=a5i (s:=s) hl hq
   refine ts (ro rfl (aM.imp (jF ) jM) (rm rfl (gQ Z_28 (Ht rfl) (Ht rfl) rfl (i:=2) rfl (aK rfl) rfl rfl (ra rfl (eX (bL rfl (fX (fK A_28 Z_28 rfl (i:=2) rfl rfl) ?_) (fX (eU rfl) ?_)))))))
   ·exact (fun v V h=>by rw [rnZ,mV,iC,iC,he]; exact h)
   ·exact (aT (by rw [if_neg hq,he]))
  ·have hq : w.all eS = true := by
    apply Decidable.byContradiction; intro e
    rw [if_neg e] at hb2; simp at hb2
   have hov:=a0q (s:=s) hl hq
   have hovX:=a5j (s:=s) hl hq
   haveI f0:=jH
   have hPf:=If hz hw hL hM hp hl
   have hMf:=Ie hz hw hL hM hp hl
   have hPl:(Ve z w).length = w.length:=aF _ _
   have hMl:(Vd z w).length = w.length:=aF _ _
   refine cU (ts (rn rfl (eW (Ts:=[Is (.bool false),Is (.slice none 0 0),Is (.bool false),Is (.slice none 0 0),Is (.slice none 0 0)]) O_60 rfl (fun V=>aW zd (aW zd (aW zd (aW zd (aW zd (aG))))))) fun B7=>(eX (ts (ro rfl (cZ K_52 (Bg (n:=1) (by decide) (by decide)) ⟨(cJ 1),trivial⟩) (rn rfl (eW (Ts:=[Is (.bool false),Is (.slice none 0 0),Is (.bool false),Is (.slice none 0 0),Is (.slice none 0 0)]) O_60 rfl (fun V=>aW zd (aW zd (aW zd (aW zd (aW zd (aG))))))) fun B8=>?_))))))
   refine gQ Z_60 (Ht rfl) (Ht rfl) rfl (i:=4) rfl (aK rfl) rfl rfl (eX (cK (fZ (m:=7) (dp 3 rfl (eY A_25 Z_25 (Ht rfl) (i:=1) rfl rfl) (dq 31 0 rfl (dG U_25 (Ht rfl) aC) (C.D_new (Ei:=[(32,_)]) rfl rfl rfl (bV (bG 1 rfl rfl) bW) (iG (T:=aE Qi.zero) (i:=Tryz.t60) jS gU rfl rfl (Ht rfl) rfl gF (El.ag rfl) (by show 88 * _ ≤ _; omega) zo) (dp 3 rfl (eY A_25 Z_25 (Ht rfl) (i:=1) rfl rfl) (dq 34 3 rfl (dG U_25 (Ht rfl) aC) ?_))))))))
   refine C.D_new (Ei:=[(35,_)]) rfl rfl rfl (bV (bG 4 rfl rfl) bW) (iG (T:=aE Qi.zero) (i:=Tryz.t60) jS gU rfl rfl (Ht rfl) rfl gF (El.ag rfl) (by show 88 * _ ≤ _; omega) zo) (C.D_cpy 2 rfl rfl rfl rfl rfl C.cpy_assign (fV bB rfl (by kernel_rfl) (aJ (aJ (C.F_new (fun B33=>aJ (aJ (C.F_new (fun B36=>C.F_cpy rfl (aV (ra rfl (eX (cK (ts (ro rfl (eY A_25 Z_25 (Ht rfl) (i:=1) rfl rfl) (ro rfl (dG U_25 (Ht rfl) aC) (ro rfl (cX (cJ 0)) ?_)))))))))))))))))
   refine eX (eG ?_)
   refine cI (fun (i : Nat) => i ≤ w.length) (fun (i : Nat) => w.length - i) (fun (i : Nat) => [(2, cA B2 0), (3, cA B3 0), (4, cA B4 0), (7, cA B7 0), (8, cA B8 0), (9, Is B33), (10, Is B36), (38, NT .i64 w.length), (39, NT .i64 i)]) (fun (i : Nat) => [box B2 28 [aN z, cH s], box B3 25 [aN w], box B4 28 [Is (.slice none 0 0), Is (.slice none 0 0)], box B7 60 [Is (.bool false), Is (.slice none 0 0), Is (.bool false), Is (.slice none 0 0), Is (.slice none 0 0)], box B8 60 [aI (decide ((Qi.ofInt 1).a < 0)), aS (Qi.ofInt 1).a.natAbs, aI (decide ((Qi.ofInt 1).b < 0)), aS (Qi.ofInt 1).b.natAbs, aS (du (Qi.ofInt 1))], bI 60 5 B33 ((kS (fun i => Qi.ofInt 1 + lJ z w i) Qi.zero w.length i).map aE), bI 60 5 B36 ((kS (fun i => Qi.ofInt 1 - lJ z w i) Qi.zero w.length i).map aE)]) 0 (Nat.zero_le _)
    (zS rfl) (aU (aD rfl) (aU (aD rfl) (aU (aD rfl) (aU (aD rfl) (aU (aD rfl) (aU (aP (by rw [← iN]; exact nY aE _)) (aU (aP (by rw [← iN]; exact nY aE _)) aY))))))) (fun i hi=>?_)
   refine ts (ro rfl (gX (Ht rfl) (Ht rfl)) (eX (cK (dQ (Ht rfl) (fun hc=>?_) (fun hc=>?_)))))
   ·have hin : i < w.length := by simp only [decide_eq_true_eq] at hc; omega
    have hzn:=oL hp (show i < z.length by omega)
    haveI g1:aH (gv w i) M:=hw.get hM i
    haveI g2:aH (gv z i) L:=hz.get hL i
    haveI g3:aH (lJ z w i) (M + 3 * L + 2):=Ig hz hw hL hM hp zo
    have hl9:=dE (fun i=>Qi.ofInt 1 + lJ z w i) Qi.zero w.length i
    have hl10:=dE (fun i=>Qi.ofInt 1 - lJ z w i) Qi.zero w.length i
    refine cU (cK (eG (ts (rm rfl (ra rfl (eX (cK (Y.D_start (m:=15) [] (bY (Ei:=[(3,_)]) rfl rfl (bQ (bJ rfl rfl) bX) rfl rfl (dX rfl (eY A_25 Z_25 (Ht rfl) (i:=1) rfl rfl)) (bY (Ei:=[(11,_)]) rfl rfl (bQ (bJ rfl rfl) bX) rfl rfl (dX rfl (cX (Ht rfl))) (bY (Ei:=[(43,_),(44,_)]) rfl rfl (bQ (bZ 0 rfl rfl) (bQ (bZ 1 rfl rfl) bX)) rfl rfl (dX rfl (dZ U_25 Z_60 (Ht rfl) (Ht rfl) rfl (dY (dU (d:=Qi.zero) zo)))) ?_)))))))))))
    refine bY (Ei:=[(45,_)]) rfl rfl (bQ (bZ 2 rfl rfl) bX) rfl rfl (dX rfl (dJ A_60 Z_60 (Ht rfl))) (bY (Ei:=[(2,_)]) rfl rfl (bQ (bJ rfl rfl) bX) rfl rfl (dX rfl (eZ dS (Ht rfl) rfl)) (bY (Ei:=[(47,_)]) rfl rfl (bQ (bZ 4 rfl rfl) bX) rfl rfl (dX rfl (eY A_25 Z_25 (Ht rfl) (i:=0) rfl rfl)) (bY (Ei:=[(11,_)]) rfl rfl (bQ (bJ rfl rfl) bX) rfl rfl (dX rfl (cX (Ht rfl))) (bY (Ei:=[(48,_),(49,_)]) rfl rfl (bQ (bZ 5 rfl rfl) (bQ (bZ 6 rfl rfl) bX)) rfl rfl (dX rfl (dZ U_25 Z_60 (Ht rfl) (Ht rfl) rfl (dY (dU (d:=Qi.zero) zo)))) ?_))))
    refine bY (Ei:=[(50,_)]) rfl rfl (bQ (bZ 7 rfl rfl) bX) rfl rfl (dX rfl (dJ A_60 Z_60 (Ht rfl))) (bY (Ei:=[(46,_),(51,_)]) rfl rfl (bQ (bZ 3 rfl rfl) (bQ (bZ 8 rfl rfl) bX)) rfl rfl (dX rfl (cZ K_64 (qR (x:=gv w i) (y:=gv z i) (L:=M) (M:=L) zo) ⟨(Ht rfl),(Ht rfl),trivial⟩)) (bY (Ei:=[(52,_)]) rfl rfl (bQ (bZ 9 rfl rfl) bX) rfl rfl (dX rfl (cX (Ht rfl))) (bY (Ei:=[(42,_)]) rfl rfl (bQ (bZ 10 rfl rfl) bX) rfl rfl (dX rfl (dK (Ht rfl) rfl)) ?_)))
    refine bY (Ei:=[(42,_)]) rfl rfl (bQ (bZ 10 rfl rfl) bX) rfl rfl (dX rfl (dK (Ht rfl) rfl)) (Y.D_newp (Ei:=[]) (fun bb=>box bb 60 [aI (decide ((lJ z w i).a < 0)),aS (lJ z w i).a.natAbs,aI (decide ((lJ z w i).b < 0)),aS (lJ z w i).b.natAbs,aS (du (lJ z w i))]) 14 rfl rfl rfl bX rfl rfl (by kernel_rfl) (eW (Ts:=[Is (.bool false),Is (.slice none 0 0),Is (.bool false),Is (.slice none 0 0),Is (.slice none 0 0)]) O_60 rfl (fun V=>aW zd (aW zd (aW zd (aW zd (aW zd (aG))))))) ?_)
    refine Y.D_putN (Ei:=[(53,_)]) 13 rfl rfl rfl rfl rfl rfl (bQ (bZ 11 rfl rfl) bX) (fun bb=>mK Z_60 (Ht rfl) (Ht rfl) rfl (i:=0) rfl (aK rfl) rfl rfl) (Y.D_done bB rfl (by kernel_rfl) rfl (by simp [Y.okP]) rfl rfl (bU (bU (bU (bU (bU (bU (bU (bU (bU (bU (bU (bU (bU (Y.F_newp (fun B12=>Y.F_putN (Y.F_nil ?_)))))))))))))))))
    refine ra rfl (eX (Y.D_start (m:=18) [(17,5,bI 60 5 B33 (((kS (fun i=>Qi.ofInt 1 + lJ z w i) Qi.zero w.length i).map aE).set i (aE (Qi.ofInt 1 + lJ z w i))))] (Y.D_step (Ei:=[(9,_)]) rfl rfl (bQ (bJ rfl rfl) bX) rfl rfl (by kernel_rfl) (dX rfl (cX (Ht rfl))) (Y.D_step (Ei:=[(11,_)]) rfl rfl (bQ (bJ rfl rfl) bX) rfl rfl (by kernel_rfl) (dX rfl (cX (Ht rfl))) (bY (Ei:=[(10,_)]) rfl rfl (bQ (bJ rfl rfl) bX) rfl rfl (dX rfl (cX (Ht rfl))) (bY (Ei:=[(11,_)]) rfl rfl (bQ (bJ rfl rfl) bX) rfl rfl (dX rfl (cX (Ht rfl))) ?_))))))
    refine Y.D_step (Ei:=[(7,_)]) rfl rfl (bQ (bJ rfl rfl) bX) rfl rfl (by kernel_rfl) (dX rfl (eJ A_60 Z_60 (Ht rfl) (i:=3) rfl rfl rfl)) (Y.D_step (Ei:=[(59,_)]) rfl rfl (bQ (bZ 4 rfl rfl) bX) rfl rfl (by kernel_rfl) (dX rfl (bE bP (Ht rfl))) (Y.D_step (Ei:=[(8,_)]) rfl rfl (bQ (bJ rfl rfl) bX) rfl rfl (by kernel_rfl) (dX rfl (eJ A_60 Z_60 (Ht rfl) (i:=4) rfl rfl rfl)) (Y.D_step (Ei:=[(12,_)]) rfl rfl (bQ (bJ rfl rfl) bX) rfl rfl (by kernel_rfl) (dX rfl (eJ A_60 Z_60 (Ht rfl) (i:=7) rfl rfl rfl)) ?_)))
    refine Y.D_step (Ei:=[(61,_),(62,_)]) rfl rfl (bQ (bZ 6 rfl rfl) (bQ (bZ 7 rfl rfl) bX)) rfl rfl (by kernel_rfl) (dX rfl (cZ K_71 (sG (x:=Qi.ofInt 1) (y:=lJ z w i) (L:=1) (M:=M + 3 * L + 2) zo) ⟨(Ht rfl),(Ht rfl),trivial⟩)) (Y.D_step (Ei:=[(60,_),(63,_)]) rfl rfl (bQ (bZ 5 rfl rfl) (bQ (bZ 8 rfl rfl) bX)) rfl rfl (by kernel_rfl) (dX rfl (aR nL K_304 Jd (Ht rfl) ⟨(Ht rfl),trivial⟩)) (Y.D_step (Ei:=[(7,_)]) rfl rfl (bQ (bJ rfl rfl) bX) rfl rfl (by kernel_rfl) (dX rfl (eJ A_60 Z_60 (Ht rfl) (i:=3) rfl rfl rfl)) ?_))
    refine Y.D_step (Ei:=[(65,_)]) rfl rfl (bQ (bZ 10 rfl rfl) bX) rfl rfl (by kernel_rfl) (dX rfl (bE bP (Ht rfl))) (Y.D_step (Ei:=[(8,_)]) rfl rfl (bQ (bJ rfl rfl) bX) rfl rfl (by kernel_rfl) (dX rfl (eJ A_60 Z_60 (Ht rfl) (i:=4) rfl rfl rfl)) (Y.D_step (Ei:=[(12,_)]) rfl rfl (bQ (bJ rfl rfl) bX) rfl rfl (by kernel_rfl) (dX rfl (eJ A_60 Z_60 (Ht rfl) (i:=7) rfl rfl rfl)) (Y.D_step (Ei:=[(67,_),(68,_)]) rfl rfl (bQ (bZ 12 rfl rfl) (bQ (bZ 13 rfl rfl) bX)) rfl rfl (by kernel_rfl) (dX rfl (cZ K_69 (uO (x:=Qi.ofInt 1) (y:=lJ z w i) (L:=1) (M:=M + 3 * L + 2) zo) ⟨(Ht rfl),(Ht rfl),trivial⟩)) ?_)))
    refine Y.D_step (Ei:=[(66,_),(69,_)]) rfl rfl (bQ (bZ 11 rfl rfl) (bQ (bZ 14 rfl rfl) bX)) rfl rfl (by kernel_rfl) (dX rfl (aR nL K_304 Jd (Ht rfl) ⟨(Ht rfl),trivial⟩)) (Y.D_step (Ei:=[(55,_),(56,_)]) rfl rfl (bQ (bZ 0 rfl rfl) (bQ (bZ 1 rfl rfl) bX)) rfl rfl (by kernel_rfl) (dX rfl (dA U_25 Z_60 (Ht rfl) (Ht rfl) rfl (i:=5) rfl (by rw [List.length_map,hl9]; exact hin) rfl)) ?_)
    refine Y.D_putI (Ei:=[(71,_),(64,_)]) 5 rfl rfl rfl (bQ (bZ 16 rfl rfl) (bQ (bZ 9 rfl rfl) bX)) (.head _) rfl (Om Z_60 (Ht rfl) (Ht rfl) (El.ag rfl) (i:=0) rfl rfl (by rw [List.length_map,hl9]; exact hin)) ?_
    refine Y.D_done bB rfl (by kernel_rfl) rfl (by simp [Y.okP]) rfl rfl (bU (bU (bU (bU (bU (bU (bU (bU (bU (bU (bU (bU (bU (bU (bU (bU (bU (Y.F_putI (Y.F_nil ?_)))))))))))))))))))
    refine ro rfl (dA U_25 Z_60 (Ht rfl) (Ht rfl) rfl (i:=6) rfl (by rw [List.length_map,hl10]; exact hin) rfl) ?_
    refine lZ Z_60 (Ht rfl) (Ht rfl) (El.ag rfl) (i:=6) rfl rfl (by rw [List.length_map,hl10]; exact hin) rfl ?_
    refine eX (bN (cY (ro rfl (dV (Ht rfl) (cJ 1) z6) (rm rfl (eX (cM [0,1,2,3,4,5,6] rfl (by decide) (fU (i + 1) hin zo (zS rfl) (aU (aD rfl) (aU (aD rfl) (aU (aD rfl) (aU (aD rfl) (aU (aD rfl) (aU (aP (by rw [gI]; exact congrArg _ (jU (f:=(fun i=>Qi.ofInt 1 + lJ z w i))))) (aU (aP (by rw [gI]; exact congrArg _ (jU (f:=(fun i=>Qi.ofInt 1 - lJ z w i))))) aY))))))))))))))
   ·have hin : i = w.length := by simp only [decide_eq_false_iff_not] at hc; omega
    rw [hin,jT,jT]
    refine gV rfl (gJ (i:=5) (tt:=9) rfl rfl gE (gJ (i:=6) (tt:=10) rfl rfl gE (gJ (i:=0) (tt:=2) rfl rfl jJ (gJ (i:=1) (tt:=3) rfl rfl gY (ts (ro rfl (lR (γ:=Bool) (Ts:=fun x=>cond x [aN (Vd z w),aN (Ve z w)] [aN (Ve z w),aN (Vd z w)]) (U:=fun x=>cond x (cH (Uj z w s)) (cH (yN z w s))) Tryz.call130 (fun x=>a2Z (x:=x) (a3s (z:=z) (s:=s) rfl zo hMl hPl (by rw [hl]; exact hs) hMf hPf hf zo hK zo) (a3s (z:=z) (s:=s) rfl zo hPl hMl (by rw [hl]; exact hs) hPf hMf hf zo hK zo)) ⟨(Ht rfl),(Ht rfl),trivial⟩) ?_))))))
    refine ra rfl (eX (ts (rm rfl (rm rfl (rm rfl (ro rfl (nC true (Ht rfl) ⟨(Ht rfl),(Ht rfl),trivial⟩) (rm rfl (rm rfl (rm rfl (ro rfl (nC false (Ht rfl) ⟨(Ht rfl),(Ht rfl),trivial⟩) (ro rfl (cZ Tryz.call132 (Mo (Y:=Uj z w s) (M:=yN z w s) (n:=w.length) (K:=2 * (M + 3 * L + 4) + K + 2) (xF _ _ _ _) (xF _ _ _ _) (Hi hMf hPf hf zo hK) zo zo hsz hX zo) ⟨(Ht rfl),(Ht rfl),trivial⟩) (rm rfl (ro rfl (dK (Ht rfl) rfl) (ro rfl (dK (Ht rfl) rfl) (ra rfl (ra rfl (eX (cK (ts ?_)))))))))))))))))))
    refine rm rfl (ro rfl (fM (Ht rfl) cV) (eX (dQ (Ht rfl) (fun hd=>?_) (fun hd=>?_))))
    ·have hno : Fj (yN z w s) w.length ≠ 0 := by simpa using hd
     refine ts (ro rfl (aM.imp (jF ) jM) (rm rfl (gQ Z_28 (Ht rfl) (Ht rfl) rfl (i:=2) rfl (aK rfl) rfl rfl (ra rfl (eX (bL rfl (fX (fK A_28 Z_28 rfl (i:=2) rfl rfl) ?_) (fX (eU rfl) ?_)))))))
     ·exact (fun v V h=>by rw [rnZ,mV,iC,iC,hov,if_neg hno,if_neg hno]; exact h)
     ·exact (aT hov.symm)
    ·have hno : Fj (yN z w s) w.length = 0 := by simpa using hd
     refine cU (ts (ro rfl (dJ A_25 Z_25 (Ht rfl)) (ro rfl (cZ Tryz.call109 (Pa (l:=w) zo) ⟨(Ht rfl),trivial⟩) (rm rfl (ro rfl (pO (Ht rfl) (Ht rfl)) (gQ Z_28 (Ht rfl) (Ht rfl) rfl (i:=2) rfl (aK rfl) rfl rfl (ro rfl (cQ (cJ 0)) (eX (bL rfl (fX (fK A_28 Z_28 rfl (i:=2) rfl rfl) ?_) (fX (eU rfl) ?_))))))))))
     ·exact (fun v V h=>by rw [rnZ,iC,hov,hno,if_pos rfl,hovX]; exact h)
     ·exact (aT (hov.trans hno).symm)
end
end Go.Proofs.YtdlciihkiefckaaGreat
