/- What functions of the program compute, proved by walks over their code, and the plain mathematics of it; a part of the proof in the last text. -/
import Derived.Test.YthcmlodgnfekeaaGreatP03
set_option linter.unusedVariables false
set_option linter.unusedSimpArgs false
set_option maxRecDepth 100000
set_option maxHeartbeats 4000000
namespace Go.Proofs.YthcmlodgnfekeaaGreat
section
open Go Go.RowKit
abbrev dO (M:List (List Qi)) (i:Nat):List Qi:=M.getD i []
def Mt (M : List (List Qi)) (c n : Nat) : Nat → Nat
 | 0=>n
 | k + 1=>if gm M (n - (k + 1)) c = Qi.zero then Mt M c n k else n - (k + 1)
def pv (M:List (List Qi)) (c n:Nat):Nat:=Mt M c n (n - c)
theorem Ef {M : List (List Qi)} {c n : Nat} : ∀ {k : Nat}, k ≤ n → (∀ r, n - k ≤ r → r < Mt M c n k → gm M r c = Qi.zero) ∧ n - k ≤ Mt M c n k ∧ Mt M c n k ≤ n ∧ (Mt M c n k < n → gm M (Mt M c n k) c ≠ Qi.zero)
 | 0,_=>⟨fun r h1 h2=>by simp [Mt] at h2; omega,by simp [Mt],by simp [Mt],fun h=>by simp [Mt] at h⟩
 | k + 1, hk => by
  obtain ⟨i1,i2,i3,i4⟩:=Ef (M:=M) (c:=c) (n:=n) (k:=k) zo
  unfold Mt
  by_cases e:gm M (n - (k + 1)) c = Qi.zero
  ·rw [if_pos e]
   refine ⟨fun r h1 h2=>?_,by omega,i3,i4⟩
   by_cases e2:r = n - (k + 1)
   ·rw [e2]; exact e
   ·exact i1 r zo h2
  ·rw [if_neg e]
   exact ⟨fun r h1 h2=>by omega,Nat.le_refl _,by omega,fun _=>e⟩
theorem oN {M:List (List Qi)} {c n:Nat} (hc:c ≤ n):(∀ r,c ≤ r → r < pv M c n → gm M r c = Qi.zero) ∧ c ≤ pv M c n ∧ pv M c n ≤ n ∧ (pv M c n < n → gm M (pv M c n) c ≠ Qi.zero):=by
 have h:=Ef (M:=M) (c:=c) (n:=n) (k:=n - c) zo
 rw [show n - (n - c) = c by omega] at h
 exact h
theorem a1A {M:List (List Qi)} {c n p:Nat} (hc:c ≤ p) (hp:p ≤ n) (h1:∀ r,c ≤ r → r < p → gm M r c = Qi.zero) (h2:p < n → gm M p c ≠ Qi.zero):pv M c n = p:=by
 obtain ⟨i1,i2,i3,i4⟩:=oN (M:=M) (n:=n) (show c ≤ n by omega)
 rcases Nat.lt_trichotomy (pv M c n) p with h | h | h
 ·exact absurd (h1 _ i2 h) (i4 zo)
 ·exact h
 ·exact absurd (i1 p hc h) (h2 zo)
def jP (rr rc:List Qi) (c k:Nat):List Qi:=tab rr.length fun j=>if c < j ∧ j < k then gv rr j - gv rr c / gv rc c * gv rc j else gv rr j
def redM (M:List (List Qi)) (c r:Nat):List (List Qi):=tab M.length fun i=>if c < i ∧ i < r then jP (dO M i) (dO M c) c (dO M i).length else dO M i
def dF (M : List (List Qi)) : Nat → List (List Qi) × Nat × Int
 | 0=>(M,0,-1)
 | c + 1 =>
  let s:=dF M c
  if 0 ≤ s.2.2 then s else
  if pv s.1 c M.length = M.length then (s.1,s.2.1,(c:Int)) else
  (redM (if pv s.1 c M.length = c then s.1 else swp [] s.1 (pv s.1 c M.length) c) c M.length,s.2.1 + (if pv s.1 c M.length = c then 0 else 1),-1)
theorem zC {M : List (List Qi)} {c : Nat} (h : 0 ≤ (dF M c).2.2) : ∀ {d : Nat}, c ≤ d → dF M d = dF M c
 | 0,hd=>by rw [show c = 0 by omega]
 | d + 1, hd => by
  by_cases e:c = d + 1
  ·rw [e]
  ·have := zC h (d := d) zo
   simp only [dF,this]
   rw [if_pos h]
theorem pU (M:List (List Qi)) (c r:Nat):(redM M c r).length = M.length:=bF _ _
theorem Eh {M:List (List Qi)} {n m c r:Nat} (h:iL M n m):iL (redM M c r) n m:=by
 refine ⟨(pU _ _ _).trans h.1,fun x hx=>?_⟩
 obtain ⟨i,hi,rfl⟩:=gS.1 hx
 have hr:=h.row (i:=i) (by rw [← h.1]; exact hi)
 show (if c < i ∧ i < r then jP (dO M i) (dO M c) c (dO M i).length else dO M i).length = m
 split
 ·rw [jP,bF]; exact hr
 ·exact hr
theorem vW {M:List (List Qi)} {n m p c:Nat} (h:iL M n m) (hp:p < n) (hc:c < n):iL (swp [] M p c) n m:=by
 refine ⟨(Bs _ _ _ _).trans h.1,fun x hx=>?_⟩
 unfold swp at hx
 rcases List.mem_or_eq_of_mem_set hx with h1 | h1
 ·rcases List.mem_or_eq_of_mem_set h1 with h2 | h2
  ·exact h.2 x h2
  ·rw [h2]; exact h.row hc
 ·rw [h1]; exact h.row hp
theorem nV {M : List (List Qi)} {n m : Nat} (h : iL M n m) : ∀ {c : Nat}, c ≤ n → iL (dF M c).1 n m
 | 0,_=>h
 | c + 1, hc => by
  have ih:=nV h (c:=c) zo
  obtain ⟨_,_,i3,_⟩:=oN (M:=(dF M c).1) (c:=c) (n:=M.length) (by rw [h.1]; omega)
  simp only [dF]
  split
  ·exact ih
  ·split
   ·exact ih
   ·rename_i e
    apply Eh
    split
    ·exact ih
    ·exact vW ih (by rw [← h.1]; omega) zo
def mU (L : Nat) : Nat → Nat
 | 0=>L
 | c + 1=>6 * mU L c + 4
theorem qM (L : Nat) : ∀ {c d : Nat}, c ≤ d → mU L c ≤ mU L d
 | c,0,h=>by rw [show c = 0 by omega]; exact Nat.le_refl _
 | c, d + 1, h => by
  by_cases e:c = d + 1
  ·rw [e]; exact Nat.le_refl _
  ·have := qM L (c := c) (d := d) zo
   simp only [mU]; omega
theorem sW (L c:Nat):L ≤ mU L c:=qM L (Nat.zero_le c)
theorem Jd {rr rc:List Qi} {L c j:Nat} (h1:dA rr L) (h2:dA rc L) (hL:1 ≤ L) (hp:gv rc c ≠ Qi.zero):aP (gv rr j - gv rr c / gv rc c * gv rc j) (6 * L + 4):=by
 haveI f1:=h1.get hL j; haveI f2:=h1.get hL c; haveI f3:=h2.get hL c; haveI f4:=h2.get hL j
 haveI g:aP (gv rr c / gv rc c) (L + 3 * L + 2):=⟨f2.fit.div f3.fit hp⟩
 have:aP (gv rr j - gv rr c / gv rc c * gv rc j) (L + (L + 3 * L + 2 + L + 1) + 1):=inferInstance
 exact this.le zo
theorem Qy {rr rc : List Qi} {L c k : Nat} (h1 : dA rr L) (h2 : dA rc L) (hL : 1 ≤ L) (hp : gv rc c ≠ Qi.zero) : dA (jP rr rc c k) (6 * L + 4) := dA.tab fun j _ => by
 split
 ·exact Jd h1 h2 hL hp
 ·exact (h1.get hL j).le zo
theorem Eg {M : List (List Qi)} {L c r : Nat} (h : dM M L) (hL : 1 ≤ L) (hp : gm M c c ≠ Qi.zero) : dM (redM M c r) (6 * L + 4) := fun x hx => by
 obtain ⟨i,hi,rfl⟩:=gS.1 hx
 show dA (if c < i ∧ i < r then jP (dO M i) (dO M c) c (dO M i).length else dO M i) _
 split
 ·exact Qy (h.row i) (h.row c) hL hp
 ·exact (h.row i).le zo
theorem Br {M : List (List Qi)} {L p c : Nat} (h : dM M L) : dM (swp [] M p c) L := fun x hx => by
 unfold swp at hx
 rcases List.mem_or_eq_of_mem_set hx with h1 | h1
 ·rcases List.mem_or_eq_of_mem_set h1 with h2 | h2
  ·exact h x h2
  ·rw [h2]; exact h.row c
 ·rw [h1]; exact h.row p
theorem xX {M:List (List Qi)} {p c:Nat} (hc:c < M.length):dO (swp [] M p c) c = dO M p:=by
 simp [dO,swp,List.getD,hc]
theorem xB {M : List (List Qi)} {n m L : Nat} (hs : iL M n m) (h : dM M L) (hL : 1 ≤ L) : ∀ {c : Nat}, c ≤ n → dM (dF M c).1 (mU L c)
 | 0,_=>h
 | c + 1, hc => by
  have ih:=xB hs h hL (c:=c) zo
  have hg:1 ≤ mU L c:=Nat.le_trans hL (sW L c)
  have sh:=nV hs (c:=c) zo
  obtain ⟨_,i2,i3,i4⟩:=oN (M:=(dF M c).1) (c:=c) (n:=M.length) (by rw [hs.1]; omega)
  simp only [dF,mU]
  split
  ·exact ih.le zo
  ·split
   ·exact ih.le zo
   ·rename_i e
    split
    ·rename_i e2
     refine Eg ih hg ?_
     have:=i4 zo
     rw [e2] at this; exact this
    ·refine Eg (Br ih) hg ?_
     show gv (dO (swp [] _ _ c) c) c ≠ _
     rw [xX (by rw [sh.1]; omega)]
     exact i4 zo
theorem Gu {rr rc:List Qi} {c:Nat}:rr = jP rr rc c (c + 1):=by
 unfold jP
 have:(tab rr.length fun j=>if c < j ∧ j < c + 1 then gv rr j - gv rr c / gv rc c * gv rc j else gv rr j) = tab rr.length (gv rr):=eA fun j _=>by rw [if_neg zo]
 rw [this]; exact Dp rfl
theorem tG (rr rc:List Qi) (c k:Nat):(jP rr rc c k).length = rr.length:=bF _ _
theorem Ej {rr rc:List Qi} {c k:Nat} (hk:k < rr.length) (h:c < k):gv (jP rr rc c k) k = gv rr k:=by
 rw [jP,xG hk,if_neg zo]
theorem Mb {rr rc:List Qi} {c k:Nat} (hk:k < rr.length) (h:c < k):(jP rr rc c k).set k (gv (jP rr rc c k) k - gv rr c / gv rc c * gv rc k) = jP rr rc c (k + 1):=by
 rw [Ej hk h]
 apply List.ext_getElem?
 intro j
 by_cases hj:j < rr.length
 ·by_cases e : j = k
  ·subst e
   rw [List.getElem?_set_self (by rw [tG]; exact hj),jP,cE hj,if_pos zo]
  ·rw [List.getElem?_set_ne (Ne.symm e), jP, jP, cE hj, cE hj]
   by_cases e2:c < j ∧ j < k
   ·rw [if_pos e2,if_pos zo]
   ·rw [if_neg e2,if_neg zo]
 ·rw [List.getElem?_eq_none (by rw [List.length_set,tG]; omega),List.getElem?_eq_none (by rw [tG]; omega)]
theorem Gt {M:List (List Qi)} {c:Nat}:M = redM M c (c + 1):=by
 unfold redM
 have:(tab M.length fun i=>if c < i ∧ i < c + 1 then jP (dO M i) (dO M c) c (dO M i).length else dO M i) = tab M.length (dO M):=eA fun i _=>by rw [if_neg zo]
 rw [this]; exact Hc (h:=rfl)
theorem tF {M:List (List Qi)} {c r i:Nat} (hi:i < M.length) (h:¬ (c < i ∧ i < r)):dO (redM M c r) i = dO M i:=by
 simp only [dO,redM,List.getD]
 rw [cE hi,if_neg h]; rfl
theorem Ma {M:List (List Qi)} {c r:Nat} (hr:r < M.length) (h:c < r):(redM M c r).set r (jP (dO M r) (dO M c) c (dO M r).length) = redM M c (r + 1):=by
 apply List.ext_getElem?
 intro j
 by_cases hj:j < M.length
 ·by_cases e : j = r
  ·subst e
   rw [List.getElem?_set_self (by rw [pU]; exact hj),redM,cE hj,if_pos zo]
  ·rw [List.getElem?_set_ne (Ne.symm e), redM, redM, cE hj, cE hj]
   by_cases e2:c < j ∧ j < r
   ·rw [if_pos e2,if_pos zo]
   ·rw [if_neg e2,if_neg zo]
 ·rw [List.getElem?_eq_none (by rw [List.length_set,pU]; omega),List.getElem?_eq_none (by rw [pU]; omega)]
theorem Ra {M:List (List Qi)} {r:Nat} {x y:List Qi}:(M.set r x).set r y = M.set r y:=List.set_set ..
theorem Bo {M:List (List Qi)} {r:Nat} {x:List Qi} (h:r < M.length):dO (M.set r x) r = x:=by simp [dO,List.getD,h]
theorem uG {M:List (List Qi)} {r i:Nat} {x:List Qi} (h:r ≠ i):dO (M.set r x) i = dO M i:=by simp [dO,List.getD,List.getElem?_set_ne h]
theorem a0u {M:List (List Qi)} {r:Nat} (h:r < M.length):M.set r (dO M r) = M:=by
 apply List.ext_getElem?
 intro j
 by_cases e:j = r
 ·subst e; rw [List.getElem?_set_self h]; simp [dO,List.getD,h]
 ·rw [List.getElem?_set_ne (Ne.symm e)]
theorem Rh {X : List (List Qi)} {r c k : Nat} (hr : r < X.length) (hne : r ≠ c) (hk : k < (dO X r).length) (hck : c < k) :
  (X.set r (jP (dO X r) (dO X c) c k)).set r ((dO (X.set r (jP (dO X r) (dO X c) c k)) r).set k (gm (X.set r (jP (dO X r) (dO X c) c k)) r k - gm X r c / gm X c c * gm (X.set r (jP (dO X r) (dO X c) c k)) c k)) = X.set r (jP (dO X r) (dO X c) c (k + 1)):=by
 rw [Ra,Bo hr]
 have e1:gm (X.set r (jP (dO X r) (dO X c) c k)) r k = gv (jP (dO X r) (dO X c) c k) k:=by show gv (dO (X.set r _) r) k = _; rw [Bo hr]
 have e2:gm (X.set r (jP (dO X r) (dO X c) c k)) c k = gv (dO X c) k:=by show gv (dO (X.set r _) c) k = _; rw [uG hne]
 rw [e1,e2]
 exact congrArg _ (Mb hk hck)
theorem Ri {D:List (List Qi)} {r c:Nat} (hr:r < D.length) (hc:c < r):(redM D c r).set r (jP (dO (redM D c r) r) (dO (redM D c r) c) c (dO D r).length) = redM D c (r + 1):=by
 rw [tF hr zo,tF zo zo]
 exact Ma hr hc
theorem a1l {X:List (List Qi)} {r c k:Nat} (hr:r < X.length) (hk:k < (dO X r).length) (hck:c < k):gm (X.set r (jP (dO X r) (dO X c) c k)) r k = gv (dO X r) k:=by
 show gv (dO (X.set r _) r) k = _; rw [Bo hr,Ej hk hck]
theorem a1k {X:List (List Qi)} {r c k:Nat} {y:List Qi} (hne:r ≠ c):gm (X.set r y) c k = gv (dO X c) k:=by show gv (dO (X.set r _) c) k = _; rw [uG hne]
theorem Lg {M A:List (List Qi)} {n c sw p:Nat} (hl:M.length = n) (h:dF M c = (A,sw,-1)) (hp:pv A c n = p) (hpn:p < n):dF M (c + 1) = (redM (if p = c then A else swp [] A p c) c n,sw + (if p = c then 0 else 1),-1):=by
 simp only [dF,h,hl,hp]
 rw [if_neg (by decide),if_neg zo]
theorem Pb {M A:List (List Qi)} {n c sw:Nat} (hl:M.length = n) (h:dF M c = (A,sw,-1)) (hp:pv A c n = n) (hc:c < n):dF M n = (A,sw,(c:Int)):=by
 have e : dF M (c + 1) = (A, sw, (c : Int)) := by
  simp only [dF,h,hl,hp]
  rw [if_neg (by decide)]; simp
 rw [zC (c:=c + 1) (by rw [e]; show (0:Int) ≤ (c:Int); omega) hc,e]
end
section
open Go Go.RowKit
abbrev Cz (M bs:List (List Qi)) (i:Nat):List Qi:=dO M i ++ bs.map fun b=>gv b i
def nS (M bs:List (List Qi)) (n:Nat):List (List Qi):=tab n (Cz M bs)
theorem Ua {r:List Qi} {bs:List (List Qi)} {i j:Nat} (h:j < bs.length):(r ++ (bs.take j).map fun b=>gv b i) ++ [gv (bs.getD j []) i] = r ++ (bs.take (j + 1)).map fun b=>gv b i:=by
 rw [List.append_assoc,List.take_add_one,List.map_append]
 simp [List.getD,h]
theorem nT {M bs:List (List Qi)} {n m:Nat} (h:iL M n m):iL (nS M bs n) n (m + bs.length):=by
 refine ⟨bF _ _,fun r hr=>?_⟩
 obtain ⟨i,hi,rfl⟩:=gS.1 hr
 rw [List.length_append,List.length_map,h.row hi]
theorem tW {M bs : List (List Qi)} {n L : Nat} (h : dM M L) (hb : dM bs L) (hL : 1 ≤ L) : dM (nS M bs n) L := fun r hr x hx => by
 obtain ⟨i,hi,rfl⟩:=gS.1 hr
 rcases List.mem_append.1 hx with h1 | h1
 ·exact h.row i x h1
 ·obtain ⟨b, hb1, rfl⟩ := List.mem_map.1 h1
  exact dA.get (hb b hb1) hL i
theorem Ld {M:List (List Qi)} {n m:Nat} (h:iL M n m):nS M [] n = M:=by
 have:nS M [] n = tab n (dO M):=eA fun i _=>by simp [Cz]
 rw [this]; exact (Hc (h:=h.1)).symm
def pZ (U : List (List Qi)) (x : List Qi) (n c : Nat) : Nat → Qi
 | 0=>gm U c n
 | k + 1=>pZ U x n c k - gm U c (c + 1 + k) * gv x (c + 1 + k)
def uL (U : List (List Qi)) (n : Nat) : Nat → List Qi
 | 0=>tab n fun _=>Qi.zero
 | j + 1=>(uL U n j).set (n - (j + 1)) (pZ U (uL U n j) n (n - (j + 1)) j / gm U (n - (j + 1)) (n - (j + 1)))
theorem Ae (U : List (List Qi)) (n : Nat) : ∀ j, (uL U n j).length = n
 | 0=>bF _ _
 | j + 1=>by rw [uL,List.length_set,Ae U n j]
def xV (M:List (List Qi)) (b:List Qi) (n:Nat):List (List Qi) × Nat × Int:=dF (nS M [b] n) n
def rQ (M:List (List Qi)) (b:List Qi) (n:Nat):Int:=if 0 ≤ (xV M b n).2.2 then 6 else 0
def xW (M:List (List Qi)) (b:List Qi) (n:Nat):List Qi:=uL (xV M b n).1 n n
def Fe (G : Nat) : Nat → Nat
 | 0=>G
 | j + 1=>j * (Fe G j + G + 2) + 4 * G + 2
theorem yE (G j:Nat):Fe G j ≤ Fe G (j + 1):=by
 cases j with
 | zero=>simp only [Fe]; omega
 | succ j =>
  have:Fe G (j + 1) + G + 2 ≤ (j + 1) * (Fe G (j + 1) + G + 2):=Nat.le_mul_of_pos_left _ zo
  rw [show Fe G (j + 1 + 1) = (j + 1) * (Fe G (j + 1) + G + 2) + 4 * G + 2 from rfl]
  omega
theorem Hj (G : Nat) : ∀ j, G ≤ Fe G j
 | 0=>Nat.le_refl _
 | j + 1=>Nat.le_trans (Hj G j) (yE G j)
theorem Ff (G : Nat) : ∀ {i j : Nat}, i ≤ j → Fe G i ≤ Fe G j
 | i,0,h=>by rw [show i = 0 by omega]; exact Nat.le_refl _
 | i, j + 1, h => by
  by_cases e:i = j + 1
  ·rw [e]; exact Nat.le_refl _
  ·exact Nat.le_trans (Ff G (show i ≤ j by omega)) (yE G j)
theorem tX {M : List (List Qi)} {n m : Nat} (hs : iL M n m) : ∀ {c : Nat}, c ≤ n → (dF M c).2.2 < 0 → ∀ i, i < c → gm (dF M c).1 i i ≠ Qi.zero
 | 0,_,_,i,hi=>by omega
 | c + 1, hc, hst, i, hi => by
  have sh:=nV hs (c:=c) zo
  obtain ⟨_,i2,i3,i4⟩:=oN (M:=(dF M c).1) (c:=c) (n:=M.length) (by rw [hs.1]; omega)
  simp only [dF] at hst ⊢
  split at hst
  ·rename_i h0; omega
  ·rename_i h0
   rw [if_neg h0]
   split at hst
   ·simp at hst; omega
   ·rename_i h1
    rw [if_neg h1]
    have ih:=tX hs (c:=c) zo zo
    have hl : ∀ X : List (List Qi), X.length = n → gm (redM X c M.length) i i = gm X i i := fun X hX => by
     show gv (dO (redM X c M.length) i) i = _
     rw [tF zo zo]
    by_cases e:pv (dF M c).1 c M.length = c
    ·rw [if_pos e, hl _ sh.1]
     by_cases e2:i = c
     ·rw [e2]; have:=i4 (by have:=hs.1; omega); rw [e] at this; exact this
     ·exact ih i zo
    ·have hpl : pv (dF M c).1 c M.length < n := by rw [← hs.1]; omega
     rw [if_neg e,hl _ ((Bs _ _ _ _).trans sh.1)]
     by_cases e2:i = c
     ·rw [e2]
      show gv (dO (swp [] _ _ c) c) c ≠ _
      rw [xX (by rw [sh.1]; omega)]
      exact i4 (by have:=hs.1; omega)
     ·have : dO (swp [] (dF M c).1 (pv (dF M c).1 c M.length) c) i = dO (dF M c).1 i := by
       simp only [dO,swp,List.getD]
       rw [List.getElem?_set_ne (Ne.symm e2),List.getElem?_set_ne zo]
      show gv (dO (swp [] _ _ c) i) i ≠ _
      rw [this]; exact ih i zo
theorem vV {U : List (List Qi)} {x : List Qi} {n c G X : Nat} (hU : dM U G) (hx : dA x X) (hG : 1 ≤ G) (hX : 1 ≤ X) : ∀ k, aP (pZ U x n c k) (G + k * (G + X + 2))
 | 0=>(hU.get hG c n).le zo
 | k + 1 => by
  haveI f1:=vV (n:=n) (c:=c) hU hx hG hX k
  haveI f2:=hU.get hG c (c + 1 + k)
  haveI f3:=hx.get hX (c + 1 + k)
  have:aP (pZ U x n c (k + 1)) (G + k * (G + X + 2) + (G + X + 1) + 1):=by unfold pZ; infer_instance
  exact this.le (by rw [Nat.add_mul]; omega)
theorem Yu {U:List (List Qi)} {x:List Qi} {n c G X j:Nat} (hU:dM U G) (hx:dA x X) (hG:1 ≤ G) (hX:1 ≤ X) (hz:gm U c c ≠ Qi.zero):aP (pZ U x n c j / gm U c c) (j * (X + G + 2) + 4 * G + 2):=by
 have f1:=vV (n:=n) (c:=c) hU hx hG hX j
 have f2:=hU.get hG c c
 have:aP (pZ U x n c j / gm U c c) (G + j * (G + X + 2) + 3 * G + 2):=⟨f1.fit.div f2.fit hz⟩
 exact this.le (by rw [Nat.add_comm X G]; omega)
theorem Nq {U : List (List Qi)} {n G : Nat} (hU : dM U G) (hG : 1 ≤ G) (hz : ∀ i, i < n → gm U i i ≠ Qi.zero) : ∀ j, j ≤ n → dA (uL U n j) (Fe G j)
 | 0,_=>dA.tab fun _ _=>aP.zero hG
 | j + 1, hj => fun y hy => by
  have ih:=Nq hU hG hz j zo
  rcases List.mem_or_eq_of_mem_set hy with h1 | h1
  ·exact (ih y h1).le (yE G j)
  ·rw [h1]; exact Yu hU ih hG (Nat.le_trans hG (Hj G j)) (hz _ zo)
theorem Rf {M:List (List Qi)} {b:List Qi} {n:Nat} (h:iL M n n):iL (xV M b n).1 n (n + 1):=nV (nT h) (Nat.le_refl n)
theorem Rd {M:List (List Qi)} {b:List Qi} {n L:Nat} (h:iL M n n) (hM:dM M L) (hb:dA b L) (hL:1 ≤ L):dM (xV M b n).1 (mU L n):=xB (nT h) (tW hM (fun r hr=>by simp at hr; subst hr; exact hb) hL) hL (Nat.le_refl n)
def zV (n i:Nat):List Qi:=(tab n fun _=>Qi.zero).set i (Qi.ofInt 1)
def Mr (n:Nat):List (List Qi):=tab n (zV n)
theorem sX (n:Nat):iL (Mr n) n n:=⟨bF _ _,fun r hr=>by obtain ⟨i,_,rfl⟩:=gS.1 hr; rw [zV,List.length_set,bF]⟩
theorem vI:aP (Qi.ofInt 1) 1:=⟨Qi.Fit.int (L:=1) (by decide) (by decide)⟩
theorem Mn {n i L : Nat} (h : 1 ≤ L) : dA (zV n i) L := fun x hx => by
 rcases List.mem_or_eq_of_mem_set hx with h1 | h1
 ·obtain ⟨_,_,rfl⟩:=gS.1 h1; exact aP.zero h
 ·rw [h1]; exact vI.le h
theorem Je {n L:Nat} (h:1 ≤ L):dM (Mr n) L:=fun r hr=>by obtain ⟨i,_,rfl⟩:=gS.1 hr; exact Mn h
theorem Kf {M:List (List Qi)} {b:List Qi} {n:Nat} (h:¬ 0 ≤ (xV M b n).2.2):(xV M b n).2.2 < 0:=by omega
theorem Ki (F:Qi → Ty) (n:Nat):List.replicate n (F Qi.zero) = (tab n fun _=>Qi.zero).map F:=by rw [mD,oO]
theorem a0W {n j:Nat} (h:(0:Int) ≤ (n:Int) - 1 - (j:Int)):j < n:=by omega
theorem a0X {n j:Nat} (h:(n:Int) - 1 - (j:Int) < 0):n ≤ j:=by omega
end
section
open Go Go.RowKit
abbrev ek (n k:Nat):List Qi:=(Mr n).getD k []
theorem Zq {n k:Nat} (h:k < n):(ek n k).length = n:=(sX n).row h
theorem Zp {n k L:Nat} (h:1 ≤ L):dA (ek n k) L:=(Je h).row k
def Ba (M:List (List Qi)) (n:Nat):Int:=kY (fun k=>rQ M (ek n k) n) n
def a01 (M:List (List Qi)) (n:Nat):List (List Qi):=tab n fun r=>tab n fun j=>gv (xW M (ek n j) n) r
theorem Fa {α:Type} {n i:Nat} {f:Nat → α} {d:α} (h:i < n):(tab n f).getD i d = f i:=by simp [List.getD,cE h]
def pL (M:List (List Qi)) (n k i:Nat):List (List Qi):=tab n fun r=>tab n fun j=>if j < k ∨ j = k ∧ r < i then gv (xW M (ek n j) n) r else gm M r j
theorem nX (M:List (List Qi)) (n k i:Nat):iL (pL M n k i) n n:=iL.tab
theorem Lo {M:List (List Qi)} {n:Nat} (h:iL M n n):M = pL M n 0 0:=by
 rw [pL]
 conv=>lhs; rw [Jo h]
 exact eA fun r _=>eA fun j _=>by rw [if_neg zo]
theorem Pn (M : List (List Qi)) (n k : Nat) : pL M n k n = pL M n (k + 1) 0 := eA fun r hr => eA fun j _ => by
 by_cases h:j < k ∨ j = k ∧ r < n
 ·rw [if_pos h,if_pos zo]
 ·rw [if_neg h,if_neg zo]
theorem Po (M:List (List Qi)) (n:Nat):pL M n n 0 = a01 M n:=eA fun r _=>eA fun j hj=>by rw [if_pos zo]
theorem Ln {M:List (List Qi)} {n k i:Nat} (hi:i < n) (hk:k < n):(pL M n k i).set i (((pL M n k i).getD i []).set k (gv (xW M (ek n k) n) i)) = pL M n k (i + 1):=by
 apply List.ext_getElem?
 intro r
 by_cases hr:r < n
 ·by_cases e : r = i
  ·subst e
   rw [List.getElem?_set_self (by rw [(nX _ _ _ _).1]; exact hr),pL,pL,cE (f:=fun r=>tab n fun j=>if j < k ∨ j = k ∧ r < _ + 1 then gv (xW M (ek n j) n) r else gm M r j) hr]
   congr 1
   have:(tab n fun x=>tab n fun j=>if j < k ∨ j = k ∧ x < r then gv (xW M (ek n j) n) x else gm M x j).getD r [] = tab n fun j=>if j < k ∨ j = k ∧ r < r then gv (xW M (ek n j) n) r else gm M r j:=Fa hr
   rw [this]
   apply List.ext_getElem?
   intro j
   by_cases hj:j < n
   ·by_cases e2 : j = k
    ·subst e2
     rw [List.getElem?_set_self (by rw [bF]; exact hj),cE hj,if_pos zo]
    ·rw [List.getElem?_set_ne (Ne.symm e2), cE hj, cE hj]
     by_cases e3:j < k
     ·rw [if_pos (.inl e3),if_pos (.inl e3)]
     ·rw [if_neg zo,if_neg zo]
   ·rw [List.getElem?_eq_none (by rw [List.length_set,bF]; omega),List.getElem?_eq_none (by rw [bF]; omega)]
  ·rw [List.getElem?_set_ne (Ne.symm e), pL, pL, cE hr, cE hr]
   congr 1
   refine eA fun j _=>?_
   by_cases e3:j < k ∨ j = k ∧ r < i
   ·rw [if_pos e3,if_pos zo]
   ·rw [if_neg e3,if_neg zo]
 ·rw [List.getElem?_eq_none (by rw [List.length_set,(nX _ _ _ _).1]; omega),List.getElem?_eq_none (by rw [(nX _ _ _ _).1]; omega)]
theorem Uj {M:List (List Qi)} {n k:Nat} (h:∀ i,i < k → rQ M (ek n i) n = 0) (hk:k < n) (hx:rQ M (ek n k) n ≠ 0):Ba M n = rQ M (ek n k) n:=tZ h hx hk
theorem Lm {M:List (List Qi)} {n:Nat} (h:∀ i,i < n → rQ M (ek n i) n = 0):Ba M n = 0:=nH h
def pmM (m:Bool) (a b:List (List Qi)) (n:Nat):List (List Qi):=tab n fun i=>tab n fun j=>if m = true then gm a i j - gm b i j else gm a i j + gm b i j
theorem Vs {m:Bool} {a b:List (List Qi)} {n:Nat}:iL (pmM m a b n) n n:=iL.tab
theorem Vr {m : Bool} {a b : List (List Qi)} {n L M : Nat} (ha : dM a L) (hb : dM b M) (h1 : 1 ≤ L) (h2 : 1 ≤ M) : dM (pmM m a b n) (L + M + 1) := dM.tab fun i j _ _ => by
 haveI:=ha.get h1 i j; haveI:=hb.get h2 i j
 split
 ·infer_instance
 ·infer_instance
theorem Nn {T : Ty} {s : Nat} : ∀ vs V, eH [T, Is (.slice none 0 0)] vs V → eH [T, iE s []] vs V
 | [_,_],_,⟨h1,h2,h3⟩=>⟨h1,jA _ _ h2,h3⟩
 | [],_,h=>h.elim
 | [_],_,h=>h.2.elim
 | _ :: _ :: _ :: _,_,h=>h.2.2.elim
theorem iC.arg {P : Program} {f : FuncId} {Ts Ts' : List Ty} {As : Hp} {γ : Type} {U : γ → Ty} {As' : γ → Hp} {Q : γ → Prop} (h : iC P f Ts As γ U As' Q) (i : ∀ vs V, eH Ts' vs V → eH Ts vs V) : iC P f Ts' As γ U As' Q :=
 fun cx Z vs V w h1 h2=>h cx Z vs V w h1 (i _ _ h2)
end
section
open Go Go.RowKit
section
variable {P:Program} {R:cO} {cx:Cx} {n:Nat} {k:List It} {E:bD} {H:Hp}
theorem Fm (i l off : Nat) {B : Nat} {BT : TypeId} {Us : List Ty} {v : Value} {A : SA} {T : Ty} (hB : H[i]? = some (box B BT Us)) (hU : Us[off]? = some (Is v)) (hL : H[l]? = some A) (hne : i ≠ l) (hT : ∀ S V, A.h S V V → T.p v V)
  (h:Tr P R cx n k E ((H.set l SA.emp).set i (box B BT (Us.set off T)))):Tr P R cx n k E H:=fun a w ⟨V,hi,hs⟩=>by
 obtain ⟨V',S,hle,hi',hA⟩:=hi.freeze hL
 have hT:=hT S V' hA
 refine h a w ⟨V',hi'.withHH ?_,hs.mono hle⟩
 obtain ⟨F,h1,h2⟩:=hi'.hp
 have hB':(H.set l SA.emp)[i]? = some (box B BT Us):=by rw [List.getElem?_set_ne (Ne.symm hne)]; exact hB
 have hil:=(List.getElem?_eq_some_iff.1 hB').1
 refine ⟨F,fun q A hq=>?_,fun q r b hq hr=>h2 q r b (by simpa using hq) (by simpa using hr)⟩
 by_cases c:i = q
 ·subst c
  rw [List.getElem?_set_self hil] at hq
  obtain rfl:=Option.some.inj hq
  obtain ⟨⟨k1,cs,k2,k3⟩,k4⟩:=h1 i _ hB'
  obtain ⟨u,u1,u2⟩:=k3.get hU
  obtain rfl:u = v:=u2
  have hset : cs.set off u = cs := by
   apply List.ext_getElem?
   intro j
   by_cases cj:off = j
   ·subst cj; rw [List.getElem?_set_self (List.getElem?_eq_some_iff.1 u1).1,u1]
   ·rw [List.getElem?_set_ne cj]
  refine ⟨⟨k1,cs,k2,?_⟩,k4⟩
  have:=k3.set off (v:=u) hT (k3.pl u (List.mem_of_getElem? u1))
  rwa [hset] at this
 ·rw [List.getElem?_set_ne c] at hq
  exact h1 q A hq
theorem a1O {B e l : Nat} {BT : TypeId} {F : Qi → Ty} {q : Value → Prop} {M : List (List Qi)} (hl : l = M.length) : ∀ S V, (qZ q B BT e 5 (eI F M)).h S V V → (iE 1 (M.map fun r => iE 5 (r.map F))).p (.slice (some ⟨B, 0, none⟩) l l) V := fun S V h =>
 xE (s:=5) (M:=M) hl _ S V rfl h
end
def nA (p i:Nat):Nat:=if i < p then i else i + 1
abbrev oT (l:List Nat):Ty:=iE 1 (l.map (NT .i64))
def xJ (p n:Nat):List Nat:=tab n fun j=>nA p j + 1
def Lc (p i:Nat):Nat:=if i ≤ p then i else i - 1
theorem Tx {p n:Nat} (h:p < n):Lc p n = n - 1:=by unfold Lc; split <;> omega
theorem Gy {p i n:Nat} (h:i < n - 1) (hp:p < n):nA p i < n:=by unfold nA; split <;> omega
theorem Jl {p n j:Nat} (h:j < n):(xJ p n)[j]? = some (nA p j + 1):=cE h
def Lx (z:List Qi) (p m:Nat):List Qi:=tab m fun i=>gv z (nA p i)
def a1y (s:List (List Qi)) (p m:Nat):List (List Qi):=tab m fun i=>tab m fun j=>gm s (nA p i) (nA p j)
def He (s:List (List Qi)) (p:Nat) (f:Qi) (i j:Nat):Qi:=gm s (nA p i) (nA p j) + gm s (nA p i) p * (f * gm s p (nA p j))
def a0F (s:List (List Qi)) (p m:Nat) (f:Qi):List (List Qi):=tab m fun i=>tab m fun j=>He s p f i j
def kO (s:List (List Qi)) (p:Nat) (g:Qi):Qi:=g / (Qi.ofInt 1 - gm s p p * g)
def oW (z : List Qi) (s : List (List Qi)) (port : Int) (g : Qi) : Int :=
 if ¬ (1 ≤ port ∧ port ≤ z.length) then 1 else if z.length = 1 then 4 else if Qi.ofInt 1 - gm s (port - 1).toNat (port - 1).toNat * g = Qi.zero then 6 else 0
def yC (z:List Qi) (s:List (List Qi)) (port:Int) (g:Qi):List Qi:=kP (oW z s port g) (Lx z (port - 1).toNat (z.length - 1))
def yB (z:List Qi) (s:List (List Qi)) (port:Int) (g:Qi):List (List Qi):=kP (oW z s port g) (a0F s (port - 1).toNat (z.length - 1) (kO s (port - 1).toNat g))
theorem Bt {z:List Qi} {s:List (List Qi)} {port:Int} {g:Qi} {e:Int} (h:oW z s port g = e) (he:e ≠ 0):∀ v V,(eL [] []).p v V → (eL (yC z s port g) (yB z s port g)).p v V:=by
 rw [yC,yB,kP,kP,h,if_neg he,if_neg he]; exact fun _ _ k=>k
theorem Ye (p:Nat):((p:Int) + 1 - 1).toNat = p:=by omega
theorem Rz {z:List Qi} {s:List (List Qi)} {p:Nat} {g:Qi} (h:oW z s ((p:Int) + 1) g = 0):∀ v V,(eL (Lx z p (z.length - 1)) (a0F s p (z.length - 1) (kO s p g))).p v V → (eL (yC z s ((p:Int) + 1) g) (yB z s ((p:Int) + 1) g)).p v V:=by
 rw [yC,yB,kP,kP,h,if_pos rfl,if_pos rfl,Ye]; exact fun _ _ k=>k
theorem a0C {z:List Qi} {s:List (List Qi)} {port:Int} {g:Qi} (h:¬ (1 ≤ port ∧ port ≤ z.length)):oW z s port g = 1:=by rw [oW,if_pos h]
theorem a0D {z:List Qi} {s:List (List Qi)} {port:Int} {g:Qi} (h:1 ≤ port ∧ port ≤ z.length) (h1:z.length = 1):oW z s port g = 4:=by rw [oW,if_neg (fun k=>k h),if_pos h1]
theorem a0E {z:List Qi} {s:List (List Qi)} {p:Nat} {g:Qi} (h:p < z.length) (h1:¬ z.length = 1):oW z s ((p:Int) + 1) g = if Qi.ofInt 1 - gm s p p * g = Qi.zero then 6 else 0:=by
 rw [oW,if_neg (fun k=>k zo),if_neg h1,Ye]
theorem Ry {s:List (List Qi)} {p L:Nat} {g:Qi} (hs:dM s L) (hg:aP g L) (hL:1 ≤ L) (hd:Qi.ofInt 1 - gm s p p * g ≠ Qi.zero):aP (kO s p g) (7 * L + 11):=by
 haveI f0:=vI
 haveI f1:=hs.get hL p p
 haveI f2:=hg
 have f3:aP (Qi.ofInt 1 - gm s p p * g) (1 + (L + L + 1) + 1):=@fitSub _ _ _ _ f0 inferInstance
 have:aP (kO s p g) (L + 3 * (1 + (L + L + 1) + 1) + 2):=⟨f2.fit.div f3.fit hd⟩
 exact this.le zo
end
section
open Go Go.RowKit
def xF:List Qi:=[r50,r50].map Rt.q
def zG:List (List Qi):=rq [[uS,uS],[uS,uS]]
def Aw:List Qi:=yC xF zG 2 (Qi.ofInt 1)
def Lj:List (List Qi):=yB xF zG 2 (Qi.ofInt 1)
theorem Pf:cC xF zG = 0:=by decide +kernel
theorem Pg:iL zG xF.length xF.length:=(qN Pf).2.2.1
theorem Zv:oW xF zG 2 (Qi.ofInt 1) = 0:=by decide +kernel
theorem Ph:Aw.length = 1:=by decide +kernel
theorem Xv:Lj = [[Qi.ofInt 1]]:=by decide +kernel
theorem Zs:Ba (pmM true (Mr xF.length) zG xF.length) xF.length ≠ 0:=by decide +kernel
theorem a1q:dA xF 2:=dA.rt
theorem Xu:dM zG 2:=dM.rt
theorem Xt:aP (Qi.ofInt 1) 2:=vI.le (by decide)
theorem Zt:∀ v V,(fB [eL (kP (cC xF zG) xF) (kP (cC xF zG) zG),aI .i64 (cC xF zG)]).p v V → (fB [eL xF zG,aI .i64 0]).p v V:=by rw [Pf]; exact fun _ _ h=>h
theorem Zu:∀ v V,(fB [eL (yC xF zG ((2:Nat):Int) (Qi.ofInt 1)) (yB xF zG ((2:Nat):Int) (Qi.ofInt 1)),aI .i64 (oW xF zG ((2:Nat):Int) (Qi.ofInt 1))]).p v V → (fB [eL Aw Lj,aI .i64 0]).p v V:=by
 rw [show oW xF zG ((2:Nat):Int) (Qi.ofInt 1) = 0 from Zv]; exact fun _ _ h=>h
theorem Zw:iL Lj Aw.length Aw.length:=by rw [Ph,Xv]; exact ⟨rfl,by simp⟩
theorem a1p:∀ v V,(fB [aL (Vq Aw.length Lj ((1:Nat):Int) ((1:Nat):Int)),aI .i64 (if (1 ≤ ((1:Nat):Int) ∧ ((1:Nat):Int) ≤ Aw.length) ∧ 1 ≤ ((1:Nat):Int) ∧ ((1:Nat):Int) ≤ Aw.length then 0 else 1)]).p v V → (fB [aL (Qi.ofInt 1),aI .i64 0]).p v V:=by
 rw [Ph,Xv,if_pos (by decide)]
 rw [show Vq 1 [[Qi.ofInt 1]] ((1:Nat):Int) ((1:Nat):Int) = Qi.ofInt 1 from rfl]
 exact fun _ _ h=>h
theorem a1P:Mu (Qi.ofInt 1) = [49]:=by decide +kernel
end
section
open Go Go.RowKit
theorem iQ (x:Int) {b:Int} (h:0 < b):-b < x.tmod b ∧ x.tmod b < b:=by
 by_cases hx:0 ≤ x
 ·rw [Int.tmod_eq_emod_of_nonneg hx]
  have h1:=Int.emod_nonneg x (by omega:b ≠ 0)
  have h2:=Int.emod_lt_of_pos x h
  omega
 ·have e : x.tmod b = -((-x).tmod b) := by rw [Int.neg_tmod, Int.neg_neg]
  rw [e,Int.tmod_eq_emod_of_nonneg (by omega:0 ≤ -x)]
  have h1:=Int.emod_nonneg (-x) (by omega:b ≠ 0)
  have h2:=Int.emod_lt_of_pos (-x) h
  omega
def nR (x:Int):Int:=if x < 0 then -x else x
theorem pD {x:Int} {b:Int} (h:-b < x ∧ x < b):0 ≤ nR x ∧ nR x < b:=by unfold nR; split <;> omega
def yH (r:Rt):Rt where
 re:=r.re.tmod 9
 im:=r.im.tmod 9
 den:=nR (r.den.tmod 4) + 1
 h1:=by have:=iQ r.re (b:=9) (by decide); omega
 h2:=by have:=iQ r.re (b:=9) (by decide); omega
 h3:=by have:=iQ r.im (b:=9) (by decide); omega
 h4:=by have:=iQ r.im (b:=9) (by decide); omega
 h5:=by have:=pD (iQ r.den (b:=4) (by decide)); omega
 h6:=by have:=pD (iQ r.den (b:=4) (by decide)); omega
def Ay (r:Rt):Rt where
 re:=nR (yH r).re + 1
 im:=0
 den:=(yH r).den
 h1:=by have:=pD (iQ r.re (b:=9) (by decide)); show _ ≤ nR (r.re.tmod 9) + 1; omega
 h2:=by have:=pD (iQ r.re (b:=9) (by decide)); show nR (r.re.tmod 9) + 1 ≤ _; omega
 h3:=by decide
 h4:=by decide
 h5:=(yH r).h5
 h6:=(yH r).h6
def Gq (l:List Rt) (i:Nat):Rt:=if l.length = 0 then default else l.getD (i % l.length) default
def kW (a:Nat):Nat:=a % 4 + 1
def tK (a:Nat) (zl:List Rt):List Rt:=tab (kW a) fun i=>Ay (Gq zl i)
def tB (a:Nat) (sl:List Rt):List (List Rt):=tab (kW a) fun i=>tab (kW a) fun j=>yH (Gq sl (kW a * i + j))
theorem Jf (r:Rt):gI (Ay r).q = true:=by
 have h1:=pD (iQ r.re (b:=9) (by decide))
 have h2:=pD (iQ r.den (b:=4) (by decide))
 have hd : (Ay r).d = nR (r.den.tmod 4) + 1 := by
  show (if nR (r.den.tmod 4) + 1 = 0 then 1 else nR (r.den.tmod 4) + 1) = _
  rw [if_neg zo]
 have hq:(Ay r).q = Qi.frac (nR (r.re.tmod 9) + 1) 0 (nR (r.den.tmod 4) + 1):=by rw [Rt.q,hd]; rfl
 have hb:(Ay r).q.b = 0:=Qi.b_zero.2 (by rw [hq]; show ((0:Int):Rat) / _ = 0; rw [Rat.div_def]; exact Rat.zero_mul _)
 have ha : 0 < (Ay r).q.a := by
  rw [Qi.a_pos,hq]
  show (0:Rat) < ((nR (r.re.tmod 9) + 1:Int):Rat) / ((nR (r.den.tmod 4) + 1:Int):Rat)
  rw [Rat.div_def]
  refine Rat.mul_pos (Rat.intCast_pos.2 zo) (Rat.inv_pos.2 (Rat.intCast_pos.2 zo))
 simp only [gI,hb,ha,and_self,decide_true]
theorem Qn (a:Nat) (zl sl:List Rt):cC ((tK a zl).map Rt.q) (rq (tB a sl)) = 0:=by
 have hz:((tK a zl).map Rt.q).length = kW a:=by rw [List.length_map,tK,bF]
 have hs:(rq (tB a sl)).length = kW a:=by rw [List.length_map,tB,bF]
 have hn:kW a ≤ 4:=by unfold kW; omega
 have hn1:1 ≤ kW a:=by unfold kW; omega
 rw [cC,if_neg,if_pos]
 ·rw [List.all_eq_true]
  intro x hx
  obtain ⟨r,hr,rfl⟩:=List.mem_map.1 hx
  obtain ⟨i,_,rfl⟩:=gS.1 hr
  exact Jf _
 ·rw [hz, hs]
  rintro (h | h | h | h)
  ·omega
  ·omega
  ·exact h rfl
  ·obtain ⟨r, hr, h2⟩ := List.any_eq_true.1 h
   obtain ⟨y,hy,rfl⟩:=List.mem_map.1 hr
   obtain ⟨i,_,rfl⟩:=gS.1 hy
   simp [bF] at h2
end
section
open Go Go.RowKit
namespace Qi
def npow' (x : Qi) : Nat → Qi
 | 0=>Qi.ofInt 1
 | k + 1=>npow' x k * x
theorem one_mul2 (x:Qi):Qi.ofInt 1 * x = x:=ext' (by show ((1:Int):Rat) * x.re - 0 * x.im = x.re; grind) (by show ((1:Int):Rat) * x.im + 0 * x.re = x.im; grind)
theorem mul_one2 (x:Qi):x * Qi.ofInt 1 = x:=by rw [mul_comm',one_mul2]
end Qi
instance qiField:Lean.Grind.CommRing Qi where
 natCast:=⟨fun n=>Qi.ofInt n⟩
 ofNat n:=⟨Qi.ofInt n⟩
 nsmul:=⟨fun n x=>Qi.ofInt n * x⟩
 npow:=⟨Qi.npow'⟩
 add_zero:=Qi.add_zero'
 add_comm:=Qi.add_comm'
 add_assoc:=Qi.add_assoc'
 mul_assoc:=Qi.mul_assoc'
 mul_comm:=Qi.mul_comm'
 mul_one:=Qi.mul_one2
 one_mul:=Qi.one_mul2
 left_distrib:=Qi.mul_add'
 right_distrib:=Qi.add_mul'
 zero_mul:=Qi.zero_mul'
 mul_zero:=Qi.mul_zero'
 pow_zero _:=rfl
 pow_succ _ _:=rfl
 ofNat_succ n:=Qi.ext' (by show (((n + 1:Nat):Int):Rat) = ((n:Int):Rat) + ((1:Int):Rat); rw [Int.natCast_add,Rat.intCast_add]; rfl) (by show (0:Rat) = 0 + 0; grind)
 intCast:=⟨Qi.ofInt⟩
 zsmul:=⟨fun n x=>Qi.ofInt n * x⟩
 neg_add_cancel x:=Qi.ext' (by show -x.re + x.re = ((0:Int):Rat); grind) (by show -x.im + x.im = 0; grind)
 sub_eq_add_neg:=Qi.sub_def
 neg_zsmul i x:=Qi.ext' (by show ((-i:Int):Rat) * x.re - 0 * x.im = -((i:Rat) * x.re - 0 * x.im); rw [Rat.intCast_neg]; grind) (by show ((-i:Int):Rat) * x.im + 0 * x.re = -((i:Rat) * x.im + 0 * x.re); rw [Rat.intCast_neg]; grind)
 intCast_neg i:=Qi.ext' (Rat.intCast_neg i) (by show (0:Rat) = -0; grind)
theorem q0:Qi.zero = 0:=rfl
theorem q1:Qi.ofInt 1 = 1:=rfl
theorem xM {x:Qi} (h:x ≠ 0):x * Qi.inv x = 1:=by
 have hn:x.nrm ≠ 0:=fun e=>h (Qi.nrm_zero.1 e)
 have e:x.re * x.re + x.im * x.im = x.nrm:=rfl
 refine Qi.ext' ?_ ?_
 ·show x.re * (x.re / x.nrm) - x.im * (-x.im / x.nrm) = ((1 : Int) : Rat)
  grind
 ·show x.re * (-x.im / x.nrm) + x.im * (x.re / x.nrm) = 0
  grind
theorem Ap {x y:Qi} (h:y ≠ 0):x / y * y = x:=by
 rw [Qi.div_def]
 have:=xM h
 grind
theorem Zr {x y z:Qi} (h:y ≠ 0) (e:x = z * y):x / y = z:=by
 have h1:=Ap (x:=x) h
 have h2:=xM h
 grind
theorem uP {x y:Qi} (h:x * y = 0):x = 0 ∨ y = 0:=by
 by_cases e:x = 0
 ·exact .inl e
 ·right; have:=xM e; grind
end
section
open Fl
abbrev NP:=List Qi × List (List Qi)
abbrev jB:NP:=([],[])
abbrev nz (l:List NP) (i:Nat):List Qi:=(l.getD i jB).1
abbrev ns (l:List NP) (i:Nat):List (List Qi):=(l.getD i jB).2
def By (f : List Qi) (l : List NP) (i : Nat) : Int :=
 if gI (gv f i) = false then 1 else if 0 < i ∧ nD (gv f i) (gv f (i - 1)) ≤ 0 then 7 else if (nz l i).length ≠ (nz l 0).length then 4 else if nz l i ≠ nz l 0 then 40 else 0
def Ez (f:List Qi) (l:List NP):Int:=if f.length ≠ l.length ∨ 1024 < f.length then 4 else kY (By f l) f.length
structure qX (f:List Qi) (l:List NP):Prop where
 len:f.length = l.length
 n1:f.length ≤ 1024
 pos:∀ i,i < f.length → gI (gv f i) = true
 up:∀ i,0 < i → i < f.length → (gv f (i - 1)).re < (gv f i).re
 zs:∀ i,i < f.length → nz l i = nz l 0
section
variable {f:List Qi} {l:List NP}
theorem Wr {i:Nat} (h:gI (gv f i) = false):By f l i = 1:=by rw [By,if_pos h]
theorem Wu {i:Nat} (h:gI (gv f i) = true) (h2:0 < i ∧ nD (gv f i) (gv f (i - 1)) ≤ 0):By f l i = 7:=by rw [By,if_neg (by rw [h]; decide),if_pos h2]
theorem Ro {i:Nat} (h:gI (gv f i) = true) (h2:¬ (0 < i ∧ nD (gv f i) (gv f (i - 1)) ≤ 0)) (h3:(nz l i).length ≠ (nz l 0).length):By f l i = 4:=by rw [By,if_neg (by rw [h]; decide),if_neg h2,if_pos h3]
theorem Wt {i:Nat} (h:gI (gv f i) = true) (h2:¬ (0 < i ∧ nD (gv f i) (gv f (i - 1)) ≤ 0)) (h3:(nz l i).length = (nz l 0).length) (h4:nz l i ≠ nz l 0):By f l i = 40:=by rw [By,if_neg (by rw [h]; decide),if_neg h2,if_neg (fun k=>k h3),if_pos h4]
theorem Rn {i:Nat} (h:gI (gv f i) = true) (h2:¬ (0 < i ∧ nD (gv f i) (gv f (i - 1)) ≤ 0)) (h4:nz l i = nz l 0):By f l i = 0:=by rw [By,if_neg (by rw [h]; decide),if_neg h2,if_neg (fun k=>k (by rw [h4])),if_neg (fun k=>k h4)]
theorem Rp {i:Nat} (h:By f l i = 0):gI (gv f i) = true ∧ (0 < i → (gv f (i - 1)).re < (gv f i).re) ∧ nz l i = nz l 0:=by
 unfold By at h
 by_cases c1:gI (gv f i) = false
 ·rw [if_pos c1] at h; cases h
 ·rw [if_neg c1] at h
  by_cases c2:0 < i ∧ nD (gv f i) (gv f (i - 1)) ≤ 0
  ·rw [if_pos c2] at h; cases h
  ·rw [if_neg c2] at h
   by_cases c3:(nz l i).length ≠ (nz l 0).length
   ·rw [if_pos c3] at h; cases h
   ·rw [if_neg c3] at h
    by_cases c4:nz l i ≠ nz l 0
    ·rw [if_pos c4] at h; cases h
    ·refine ⟨by simpa using c1, fun h0 => ?_, Classical.byContradiction c4⟩
     have:¬ nD (gv f i) (gv f (i - 1)) ≤ 0:=fun k=>c2 ⟨h0,k⟩
     rw [An] at this
     exact Rat.not_le.1 this
theorem Wv (h:f.length ≠ l.length ∨ 1024 < f.length):Ez f l = 4:=by rw [Ez,if_pos h]
theorem Kh {k:Nat} {e:Int} (h:¬ (f.length ≠ l.length ∨ 1024 < f.length)) (hk:k < f.length) (h0:∀ i,i < k → By f l i = 0) (h1:By f l k = e) (he:e ≠ 0):Ez f l = e:=by
 have:=tZ h0 (by rw [h1]; exact he) hk
 rw [Ez,if_neg h,this,h1]
theorem Yd (h:¬ (f.length ≠ l.length ∨ 1024 < f.length)) (h0:∀ i,i < f.length → By f l i = 0):Ez f l = 0:=by
 rw [Ez,if_neg h,nH h0]
theorem qX.nil:qX [] []:=⟨rfl,by decide,fun i h=>by simp at h,fun i _ h=>by simp at h,fun i h=>by simp at h⟩
theorem qX.re (h:qX f l) {i:Nat} (hi:i < f.length):Re (gv f i):=Fl.pos_re (h.pos i hi)
theorem qX.lt (h:qX f l) {i j:Nat} (hij:i < j) (hj:j < f.length):(gv f i).re < (gv f j).re:=by
 induction j with
 | zero=>omega
 | succ j ih =>
  have h1:=h.up (j + 1) zo hj
  rw [Nat.add_sub_cancel] at h1
  rcases Nat.eq_or_lt_of_le (Nat.le_of_lt_succ hij) with e | e
  ·rw [e]; exact h1
  ·have h2 := ih e zo
   grind
def Bw (f:List Qi) (x:Qi):Nat:=f.findIdx fun y=>decide (x.re ≤ y.re)
theorem Pr {x:Qi} {k:Nat} (h1:k ≤ f.length) (h2:∀ i,i < k → (gv f i).re < x.re) (h3:k < f.length → x.re ≤ (gv f k).re):Bw f x = k:=by
 unfold Bw
 rcases Nat.eq_or_lt_of_le h1 with e | e
 ·subst e
  refine List.findIdx_eq_length.2 fun y hy=>?_
  obtain ⟨i,hi,rfl⟩:=List.getElem_of_mem hy
  have:=h2 i hi
  rw [show gv f i = f[i] by simp [gv,List.getD,hi]] at this
  exact decide_eq_false (Rat.not_le.2 this)
 ·rw [List.findIdx_eq e]
  refine ⟨?_,fun j hj=>?_⟩
  ·have := h3 e
   rw [show gv f k = f[k] by simp [gv,List.getD,e]] at this
   exact decide_eq_true this
  ·have := h2 j hj
   rw [show gv f j = f[j]'zo by simp [gv,List.getD,show j < f.length by omega]] at this
   simpa [Rat.not_le] using this
def a06 (l:List NP) (k:Nat) (r:Qi):NP:=(nz l (k - 1),tab (nz l (k - 1)).length fun i=>tab (nz l (k - 1)).length fun j=>gm (ns l (k - 1)) i j + r * (gm (ns l k) i j - gm (ns l (k - 1)) i j))
def Fq (f:List Qi) (x:Qi) (k:Nat):Qi:=(x - gv f (k - 1)) / (gv f k - gv f (k - 1))
def vB (f : List Qi) (l : List NP) (x : Qi) : NP × Int :=
 if x.b ≠ 0 then (jB,1) else if Bw f x < f.length ∧ gv f (Bw f x) = x then (l.getD (Bw f x) jB,0) else if Bw f x = 0 ∨ Bw f x = f.length then (jB,5) else (a06 l (Bw f x) (Fq f x (Bw f x)),0)
theorem Ia {x:Qi} (h:x.b ≠ 0):vB f l x = (jB,1):=by rw [vB,if_pos h]
theorem Nt {x:Qi} {k:Nat} (h:x.b = 0) (hk:Bw f x = k) (h2:k < f.length ∧ gv f k = x):vB f l x = (l.getD k jB,0):=by rw [vB,if_neg (fun k=>k h),hk,if_pos h2]
theorem Nu {x:Qi} {k:Nat} (h:x.b = 0) (hk:Bw f x = k) (h2:¬ (k < f.length ∧ gv f k = x)) (h3:k = 0 ∨ k = f.length):vB f l x = (jB,5):=by rw [vB,if_neg (fun k=>k h),hk,if_neg h2,if_pos h3]
theorem Sv {x:Qi} {k:Nat} (h:x.b = 0) (hk:Bw f x = k) (h2:¬ (k < f.length ∧ gv f k = x)) (h3:¬ (k = 0 ∨ k = f.length)):vB f l x = (a06 l k (Fq f x k),0):=by rw [vB,if_neg (fun k=>k h),hk,if_neg h2,if_neg h3]
def Me (f : List Qi) (l : List NP) (xs : List Qi) (i : Nat) : Int :=
 if (vB f l (gv xs i)).2 ≠ 0 then (vB f l (gv xs i)).2 else if 0 < i ∧ nD (gv xs i) (gv xs (i - 1)) ≤ 0 then 7 else 0
def Gv (f:List Qi) (l:List NP) (xs:List Qi):Int:=if 1024 < xs.length then 4 else kY (Me f l xs) xs.length
def Mf (f:List Qi) (l:List NP) (xs:List Qi):List NP:=xs.map fun x=>(vB f l x).1
theorem Kd {xs:List Qi} {i:Nat} (h:(vB f l (gv xs i)).2 ≠ 0):Me f l xs i = (vB f l (gv xs i)).2:=by rw [Me,if_pos h]
theorem Wb {xs:List Qi} {i:Nat} (h:(vB f l (gv xs i)).2 = 0) (h2:0 < i ∧ nD (gv xs i) (gv xs (i - 1)) ≤ 0):Me f l xs i = 7:=by rw [Me,if_neg (fun k=>k h),if_pos h2]
theorem Qz {xs:List Qi} {i:Nat} (h:(vB f l (gv xs i)).2 = 0) (h2:¬ (0 < i ∧ nD (gv xs i) (gv xs (i - 1)) ≤ 0)):Me f l xs i = 0:=by rw [Me,if_neg (fun k=>k h),if_neg h2]
theorem Wg {xs:List Qi} (h:1024 < xs.length):Gv f l xs = 4:=by rw [Gv,if_pos h]
theorem Ya {xs:List Qi} {k:Nat} {e:Int} (h:¬ 1024 < xs.length) (hk:k < xs.length) (h0:∀ i,i < k → Me f l xs i = 0) (h1:Me f l xs k = e) (he:e ≠ 0):Gv f l xs = e:=by
 have:=tZ h0 (by rw [h1]; exact he) hk
 rw [Gv,if_neg h,this,h1]
theorem Yb {xs:List Qi} (h:¬ 1024 < xs.length) (h0:∀ i,i < xs.length → Me f l xs i = 0):Gv f l xs = 0:=by
 rw [Gv,if_neg h,nH h0]
theorem Nv {x:Qi} (h:(vB f l x).2 = 0):Re x:=by
 by_cases c:x.b = 0
 ·exact Re.of c
 ·rw [Ia c] at h; cases h
end
end
section
open Go Go.RowKit
section
variable {P:Program} {R:cO} {cx:Cx} {n:Nat} {k:List It} {E:bD} {H:Hp}
theorem HH.two {base:Nat} {w:World} {V:aE} {Z:SA} {X:Hp} (h:HH base w V (Z :: X)):HH base w V [Z,fR (SA.emp :: X)]:=by
 have h1:HH base w V ((Z :: X).set 0 SA.emp ++ [Z]):=h.last rfl
 have h2:HH base w V (fR (SA.emp :: X) :: [Z]):=HH.repack h1
 exact h2.pick (is:=[1,0]) ⟨⟨_,rfl,fun _ _ _ h=>h⟩,⟨_,rfl,fun _ _ _ h=>h⟩,trivial⟩ (by decide)
theorem iC.pack {f : FuncId} {Ts : List Ty} {γ : Type} {U : γ → Ty} {X : γ → Hp} {Q : γ → Prop} (h : iC P f Ts [] γ U X Q) : iC P f Ts [] γ U (fun x => [fR (SA.emp :: X x)]) Q :=
 fun cx Z vs V w h1 h2=>(h cx Z vs V w h1 h2).mono fun e w' ⟨v,V',x,a,b,c,d,e'⟩=>⟨v,V',x,a,b,c.withHH c.hp.two,d,e'⟩
end
namespace W
variable {P:Program} {R:cO} {cx:Cx} {n:Nat} {k:List It} {E:bD} {H:Hp} {Hf:Bool → Hp} {p:Nat}
end W
end
section
open Go Go.RowKit
section
variable {P:Program} {n:Nat} {E:bD} {H:Hp}
variable {d:Option Tmp} {t:TypeId} {pos:String} {af:Array Edge} {g:Option (Nat × Bool)}
end
theorem Su {B:Nat} {BT:TypeId} {Ts Us:List Ty} (h:Mv Ts Us):∀ S m V,(box B BT Ts).h S m V → (box B BT Us).h S m V:=fun S m V ⟨e,cs,h1,k⟩=>⟨e,cs,h1,h.all k.all,k.pl⟩
end
section
open Go Go.RowKit
namespace Y
theorem HH.move {base:Nat} {w:World} {V:aE} {L:Hp} {e e':Nat} {A:SA} (hA:L[e]? = some A) (hE:L[e']? = some SA.emp) (hne:e ≠ e') (h:HH base w V L):HH base w V ((L.set e SA.emp).set e' A):=by
 obtain ⟨F,f1,f2⟩:=h
 have le:=(List.getElem?_eq_some_iff.1 hA).1
 have le':=(List.getElem?_eq_some_iff.1 hE).1
 have he0:F e' = []:=(f1 e' SA.emp hE).1
 refine ⟨fun i=>if i = e' then F e else if i = e then [] else F i,fun i B hB=>?_,fun i j b hi hj hbi hbj=>?_⟩
 ·by_cases c : i = e'
  ·subst c
   rw [List.getElem?_set_self (by simp; exact le')] at hB
   obtain rfl:=Option.some.inj hB
   simp only [if_pos rfl]
   exact f1 e A hA
  ·rw [List.getElem?_set_ne (Ne.symm c)] at hB
   simp only [if_neg c]
   by_cases c2:i = e
   ·subst c2
    rw [List.getElem?_set_self le] at hB
    obtain rfl:=Option.some.inj hB
    simp only [if_pos rfl]
    exact ⟨rfl,fun b hb=>by simp at hb⟩
   ·rw [List.getElem?_set_ne (Ne.symm c2)] at hB
    simp only [if_neg c2]
    exact f1 i B hB
 ·simp at hi hj
  have key : ∀ i, i < L.length → b ∈ (if i = e' then F e else if i = e then [] else F i) → ∃ k, k < L.length ∧ b ∈ F k ∧ (i = e' → k = e) ∧ (i ≠ e' → i ≠ e ∧ k = i) := fun i hi hb => by
   by_cases c:i = e'
   ·rw [if_pos c] at hb; exact ⟨e,le,hb,fun _=>rfl,fun k=>absurd c k⟩
   ·rw [if_neg c] at hb
    by_cases c2:i = e
    ·rw [if_pos c2] at hb; simp at hb
    ·rw [if_neg c2] at hb; exact ⟨i,hi,hb,fun k=>absurd k c,fun _=>⟨c2,rfl⟩⟩
  obtain ⟨k1,l1,m1,a1,b1⟩:=key i hi hbi
  obtain ⟨k2,l2,m2,a2,b2⟩:=key j hj hbj
  have hk:=f2 k1 k2 b l1 l2 m1 m2
  by_cases c:i = e' <;> by_cases c':j = e'
  ·omega
  ·have:=a1 c; have:=b2 c'; omega
  ·have:=b1 c; have:=a2 c'; omega
  ·have:=b1 c; have:=b2 c'; omega
theorem vA.step {Ho H : Hp} {pr : Nat → SA} {m e q : Nat} {A : SA} (hi : vA Ho H pr m) (hA : H[e]? = some A) (hq : q < m) (hp : pr q = SA.emp) : vA Ho (H.set e SA.emp) (fun i => if i = q then A else pr i) m := fun base w V h => by
 have h1:=hi base w V h
 have le:=(List.getElem?_eq_some_iff.1 hA).1
 have hA':(H ++ (List.range m).map pr)[e]? = some A:=by rw [List.getElem?_append_left le]; exact hA
 have hE' : (H ++ (List.range m).map pr)[H.length + q]? = some SA.emp := by
  rw [List.getElem?_append_right zo,Nat.add_sub_cancel_left,List.getElem?_map,List.getElem?_range hq,Option.map_some,hp]
 have h2:=HH.move hA' hE' zo h1
 have e1 : ((H ++ (List.range m).map pr).set e SA.emp).set (H.length + q) A = H.set e SA.emp ++ (List.range m).map (fun i => if i = q then A else pr i) := by
  apply List.ext_getElem?
  intro i
  by_cases c:i < H.length
  ·rw [List.getElem?_set_ne zo, List.getElem?_append_left (by simp; exact c)]
   by_cases c2:e = i
   ·subst c2; rw [List.getElem?_set_self (by simp; omega),List.getElem?_set_self le]
   ·rw [List.getElem?_set_ne c2,List.getElem?_set_ne c2,List.getElem?_append_left c]
  ·rw [List.getElem?_append_right (l₁ := H.set e SA.emp) (by simp; omega), List.length_set, List.getElem?_map]
   by_cases c2:i - H.length < m
   ·rw [List.getElem?_range c2, Option.map_some]
    by_cases c3:i = H.length + q
    ·subst c3; rw [List.getElem?_set_self (by simp; omega)]; simp
    ·rw [List.getElem?_set_ne (Ne.symm c3),List.getElem?_set_ne zo,List.getElem?_append_right zo,List.getElem?_map,List.getElem?_range c2,Option.map_some,if_neg zo]
   ·have : (List.range m)[i - H.length]? = Option.none := List.getElem?_eq_none (by simp; omega)
    rw [this,Option.map_none,List.getElem?_eq_none]; simp; omega
 rw [e1] at h2; exact h2
section
variable {P:Program} {R:cO} {cx:Cx} {n:Nat} {k:List It} {E:bD} {H:Hp}
theorem D_startAA {ops : List Oper} {m : Nat} {id : Nat} (ps : kB) (q e q' e' : Nat) {A A' : SA} (hA : H[e]? = some A) (hA' : (H.set e SA.emp)[e']? = some A') (hq : Nat.blt q m = true) (hq' : Nat.blt q' m = true) (hne : Nat.beq q' q = false)
  (h:Dr P R cx n ops m k E H ((H.set e SA.emp).set e' SA.emp) ps (fun i=>if i = q' then A' else if i = q then A else SA.emp) ops []):Tr P R cx n (.code (.region id ops.toArray true) :: k) E H :=
 h (vA.step (vA.one hA (aK hq)) hA' (aK hq') (if_neg (fun k=>by rw [k,Nat.beq_refl] at hne; cases hne))) (by simp) trivial id
end
end Y
end
section
open Go Go.RowKit
theorem lN {n : Nat} {E : bD} {H : Hp} {d : Option Tmp} {t : TypeId} {pos : String} {af : Array Edge} {g : Option (Nat × Bool)}  :
  aD Tryz.prog n E H ⟨d,.build 108 #[],t,pos,af,g⟩ (eB [Is (.slice none 0 0),Is (.slice none 0 0)]) :=
 fO (parts := []) fun a V w hs => by
  refine ⟨.agg #[(.slice none 0 0),(.slice none 0 0)],?_,[(.slice none 0 0),(.slice none 0 0)],rfl,aW (⟨rfl,trivial⟩) (aW (⟨rfl,trivial⟩) (aG))⟩
  simp [Instr.build,Instr.fill,Sem.run_bind,Result.andThen,dN,O_108,U_108,Z_54,Z_98]
theorem Cg {n : Nat} {E : bD} {H : Hp} {d : Option Tmp} {t : TypeId} {pos : String} {af : Array Edge} {g : Option (Nat × Bool)} {x0 x1 : Operand} {T0 T1 : Ty} [s0 : bT T0 1 false] (h0 : aB E x0 T0) [s1 : bT T1 1 false] (h1 : aB E x1 T1) :
  aD Tryz.prog n E H ⟨d,.build 108 #[(0,x0),(1,x1)],t,pos,af,g⟩ (eB [T0,T1]) :=
 fO (parts := [(0, x0), (1, x1)]) fun a V w hs => by
  have p0:=h0 n V a hs
  generalize e0:a.eval x0 = v0 at p0
  have q0:=(s0.ok v0 V p0).2.2 rfl
  have p1:=h1 n V a hs
  generalize e1:a.eval x1 = v1 at p1
  have q1:=(s1.ok v1 V p1).2.2 rfl
  refine ⟨.agg #[v0,v1],?_,[v0,v1],rfl,aW (⟨p0,q0⟩) (aW (⟨p1,q1⟩) (aG))⟩
  simp [e0,e1,Instr.build,Instr.fill,Sem.run_bind,Result.andThen,dN,q0.cells,q1.cells,O_108,U_108,Z_54,Z_98]
theorem iN (a:Addr) (w:World):(Instr.fieldAt 108 (.pointer (some a)) 0).run Tryz.prog w = .ok (.pointer (some (a.add 0))) w:=by
 simp [Instr.fieldAt,Instr.sureAddr,fieldPlace,Sem.run_bind,Result.andThen,U_108,Z_54]
theorem mS (a:Addr) (w:World):(Instr.fieldAt 108 (.pointer (some a)) 1).run Tryz.prog w = .ok (.pointer (some (a.add 1))) w:=by
 simp [Instr.fieldAt,Instr.sureAddr,fieldPlace,Sem.run_bind,Result.andThen,U_108,Z_98]
theorem Az:Tryz.prog.info? 80 = some Tryz.t80:=by kernel_rfl
theorem Hh:Tryz.prog.underlying 98 = some (.slice 80):=by kernel_rfl
end
section
open Go Go.RowKit
open Fl
abbrev Sg (l:List NP):Ty:=iE 2 (l.map fun n=>eL n.1 n.2)
abbrev Hr (f:List Qi) (l:List NP):Ty:=eB [bP f,Sg l]
abbrev PG (L:Nat):={p:Qi × Qi // aP p.1 L ∧ aP p.2 L}
theorem qA:∀ v V,(eB [Is (.slice none 0 0),Is (.slice none 0 0)]).p v V → (Hr [] []).p v V:=vD ⟨jA,jA,trivial⟩
structure SwF (f:List Qi) (l:List NP) (L:Nat):Prop where
 ff:dA f L
 fz:∀ i,dA (nz l i) L
 fs:∀ i,dM (ns l i) L
 sh:∀ i,iL (ns l i) (nz l i).length (nz l i).length
 h8:∀ i,(nz l i).length ≤ 8
 nl:l.length ≤ 1000
 nf:f.length ≤ 1000
theorem Tv {x y:Qi} (h:Re x) (k:Re y):pF x y = 0 ↔ x = y:=by
 have e:=mI h.b k.b
 have h1:=@Ao x y
 have h2:=@Iw x y
 rw [← e] at h1 h2
 constructor
 ·intro z
  refine Re.ext h k ?_
  have a1:¬ x.re < y.re:=fun q=>by have:=h1.2 q; omega
  have a2:¬ y.re < x.re:=fun q=>by have:=h2.2 q; omega
  rw [Rat.not_lt] at a1 a2
  exact Rat.le_antisymm a2 a1
 ·intro z; subst z
  have a1:¬ pF x x < 0:=fun q=>Rat.lt_irrefl (h1.1 q)
  have a2:¬ 0 < pF x x:=fun q=>Rat.lt_irrefl (h2.1 q)
  omega
theorem Ns {B:Nat} {BT:TypeId}:∀ S m V,(box B BT [Is (.bool false),Is (.slice none 0 0),Is (.bool false),Is (.slice none 0 0),Is (.slice none 0 0)]).h S m V → (box B BT [aC (decide (Qi.zero.a < 0)),aM Qi.zero.a.natAbs,aC (decide (Qi.zero.b < 0)),aM Qi.zero.b.natAbs,aM (du Qi.zero)]).h S m V:=by
 obtain ⟨e1,e2,e3⟩:=Qi.int_a 0
 have e4:du (Qi.ofInt 0) = 0:=by rw [du,e3]; rfl
 have ez:Qi.zero = Qi.ofInt 0:=rfl
 rw [ez,e1,e2,e4]
 exact Su ⟨tH,gU,tH,gU,gU,trivial⟩
theorem qU {Ts Us:List Ty} (h:Ts = Us):∀ v V,(fB Ts).p v V → (fB Us).p v V:=fun v V k=>h ▸ k
theorem Pt {a b : List Qi} (hl : a.length = b.length) (h : ∀ i, i < a.length → gv a i = gv b i) : a = b := List.ext_getElem hl fun i h1 h2 => by
 have:=h i h1
 rwa [show gv a i = a[i] by simp [gv,List.getD,h1],show gv b i = b[i] by simp [gv,List.getD,h2]] at this
theorem a13 {a b:List Qi} {L:Nat} (ha:dA a L) (hb:dA b L) (hL1:1 ≤ L) (hn:a.length ≤ 1000):aT Tryz.prog 137 [bP a,bP b,wD Tryz.prog (PG L) (fun x=>[aL x.1.1,aL x.1.2]) (fun x=>aC (decide (x.1.1 = x.1.2)))] (aC (decide (a = b))):=by
 refine aT.intro Tryz.func137 rfl Tryz.ntmps137 rfl (fun cx=>(ts (ro rfl (cQ cV) (eX (cK (ts (rm rfl (ro rfl (dG U_54 (Ht rfl) aA) (rm rfl (ro rfl (dG U_54 (Ht rfl) aA) (ro rfl (fL (Ht rfl) (Ht rfl)) (eX (dQ (Ht rfl) (fun hc=>?_) (fun hc=>?_))))))))))))))
 ·have hc2 : a ≠ b := fun e => by subst e; simp at hc
  refine ts (ro rfl (cQ cV) (eX (fW rfl (fX (eU rfl) ?_))))
  exact (cT (decide_eq_false hc2).symm)
 ·have hl : a.length = b.length := by simpa using hc
  refine cU (cK (ts (rm rfl (ro rfl (dG U_54 (Ht rfl) aA) (ro rfl (cX (cJ 0)) (eX (eG ?_)))))))
  refine dB (fun (k : Nat) => k ≤ a.length ∧ ∀ i, i < k → gv a i = gv b i) (fun (k : Nat) => a.length - k) (fun (k : Nat) => [(1, bP b), (2, wD Tryz.prog (PG L) (fun x => [aL x.1.1, aL x.1.2]) (fun x => aC (decide (x.1.1 = x.1.2)))), (15, bP a), (16, NT .i64 a.length), (17, NT .i64 k)]) (fun (k : Nat) => []) 0 ⟨Nat.zero_le _, fun i h => by omega⟩
   (zS rfl) aY (fun k ⟨hk,h0⟩=>?_)
  refine ts (ro rfl (gZ (Ht rfl) (Ht rfl)) (eX (cK (dQ (Ht rfl) (fun hd=>?_) (fun hd=>?_)))))
  ·have hd2 : k < a.length := by simpa using hd
   refine cU (cK (eG (ts (rm rfl (ro rfl (dZ U_54 Z_32 (Ht rfl) (Ht rfl) rfl (dY (dU (d:=Qi.zero) hd2))) (ro rfl (dJ A_32 Z_32 (Ht rfl)) (rn rfl (eW (Ts:=[Is (.bool false),Is (.slice none 0 0),Is (.bool false),Is (.slice none 0 0),Is (.slice none 0 0)]) O_32 rfl (fun V=>aW zd (aW zd (aW zd (aW zd (aW zd (aG))))))) fun B8=>(ra rfl (gX Z_32 (Ht rfl) (Ht rfl) rfl (i:=0) rfl (aK rfl) rfl rfl ?_)))))))))
   refine eX (ts (rm rfl (rm rfl (ro rfl (dZ U_54 Z_32 (Ht rfl) (Ht rfl) rfl (dY (dU (d:=Qi.zero) (show k < b.length by omega)))) (ro rfl (dJ A_32 Z_32 (Ht rfl)) (rn rfl (eW (Ts:=[Is (.bool false),Is (.slice none 0 0),Is (.bool false),Is (.slice none 0 0),Is (.slice none 0 0)]) O_32 rfl (fun V=>aW zd (aW zd (aW zd (aW zd (aW zd (aG))))))) fun B9=>(gX Z_32 (Ht rfl) (Ht rfl) rfl (i:=1) rfl (aK rfl) rfl rfl ?_)))))))
   refine eX (ts (rm rfl (ro rfl (eJ A_32 Z_32 (Ht rfl) (i:=0) rfl rfl rfl) (ro rfl (eJ A_32 Z_32 (Ht rfl) (i:=1) rfl rfl rfl) (ro rfl (lQ ((⟨(gv a k,gv b k),ha.get hL1 k,hb.get hL1 k⟩):PG L) (Ht rfl) ⟨(Ht rfl),(Ht rfl),trivial⟩) (ro rfl (eC (Ht rfl)) (eX (dQ (Ht rfl) (fun he=>?_) (fun he=>?_)))))))))
   ·have he2 : ¬ gv a k = gv b k := by simpa using he
    have hne:a ≠ b:=fun e=>he2 (by rw [e])
    refine ts (ro rfl (cQ cV) (eX (fW rfl (fX (eU rfl) ?_))))
    exact (cT (decide_eq_false hne).symm)
   ·have he2 : gv a k = gv b k := by simpa using he
    refine cU (T_blk (cY (ro rfl (dV (Ht rfl) (cJ 1) z6) (rm rfl (eX (eR [] rfl (by decide) ?_))))))
    refine fY (k + 1) ⟨hd2, fun i h => by
     by_cases e:i = k
     ·rw [e]; exact he2
     ·exact h0 i zo⟩ zo (zS rfl) aY
  ·have hd2 : a.length ≤ k := by simpa using hd
   have hab:a = b:=Pt hl fun i hi=>h0 i zo
   refine gW rfl (ts (ro rfl (cQ cV) (eX (fW rfl (fX (eU rfl) ?_)))))
   exact (cT (decide_eq_true hab).symm)
theorem Yv {f:List Qi} {x:Qi} {L:Nat} (hf:dA f L) (hx:aP x L) (hL1:1 ≤ L) (hn:f.length ≤ 1000) (hr:∀ i,i < f.length → Re (gv f i)) (hxr:Re x) (hup:∀ i j,i < j → j < f.length → (gv f i).re < (gv f j).re):aT Tryz.prog 141 [bP f,aL x,wD Tryz.prog (PG L) (fun x=>[aL x.1.1,aL x.1.2]) (fun x=>aI .i64 (pF x.1.1 x.1.2))] (fB [NT .i64 (Bw f x),aC (decide (Bw f x < f.length ∧ gv f (Bw f x) = x))]):=by
 refine aT.intro Tryz.func141 rfl Tryz.ntmps141 rfl (fun cx=>(ts (rn rfl (fG (Ht rfl)) fun B4=>(ro rfl (cQ (cJ 0)) (ro rfl (cQ cV) (eX (ts (rm rfl (ro rfl (dG U_54 (Ht rfl) aA) (ra rfl (eX (ts (rm rfl (ro rfl (cQ (cJ 0)) (ra rfl (eX (cK (eG ?_))))))))))))))))))
 refine gC (fun (i : Nat) (j : Nat) => (i ≤ j ∧ j ≤ f.length) ∧ (∀ t, t < i → (gv f t).re < x.re) ∧ ∀ t, j ≤ t → t < f.length → x.re ≤ (gv f t).re) (fun (i : Nat) (j : Nat) => j - i) (fun (i : Nat) (j : Nat) => [(0, bP f), (2, wD Tryz.prog (PG L) (fun x => [aL x.1.1, aL x.1.2]) (fun x => aI .i64 (pF x.1.1 x.1.2))), (4, cH B4 0), (8, NT .i64 f.length), (9, NT .i64 i), (10, NT .i64 j)]) (fun (i : Nat) (j : Nat) => [box B4 32 [aC (decide (x.a < 0)), aM x.a.natAbs, aC (decide (x.b < 0)), aM x.b.natAbs, aM (du x)]]) 0 f.length ⟨⟨Nat.zero_le _, Nat.le_refl _⟩, fun t h => by omega, fun t h1 h2 => by omega⟩
  (zS rfl) (cA.refl _) (fun i j ⟨⟨hij,hj⟩,h1,h2⟩=>?_)
 refine cK (ts (rm rfl (rm rfl (ro rfl (gZ (Ht rfl) (Ht rfl)) (eX (dQ (Ht rfl) (fun hc=>?_) (fun hc=>?_)))))))
 ·have hc2 : i < j := by simpa using hc
  obtain ⟨m,hm⟩:∃ m,m = (i + j) / 2 ^ 1:=⟨_,rfl⟩
  have hm2:i ≤ m ∧ m < j:=by omega
  have hml:m < f.length:=by omega
  have hcm:=mI (hr m hml).b hxr.b
  refine cU (eG (ts (rm rfl (rm rfl (ro rfl (dV (Ht rfl) (Ht rfl) z6) (ro rfl (gJ U_3 U_275 (Ht rfl) z7) (ro rfl (aD.nat (dS (Ht rfl) (cJ 1) (by decide)) hm.symm) (ro rfl (gJ U_275 U_3 (Ht rfl) z6) (ra rfl (eX (cK (fZ (m:=6) (dp 2 rfl (cX (Ht rfl)) ?_)))))))))))))
  refine dp 0 rfl (cX (Ht rfl)) (dp 11 rfl (cX (Ht rfl)) (eE 25 1 26 2 rfl (dZ U_54 Z_32 (Ht rfl) (Ht rfl) rfl (dY (dU (d:=Qi.zero) hml))) (dq 27 3 rfl (dJ A_32 Z_32 (Ht rfl)) (dp 4 rfl (eJ A_32 Z_32 (Ht rfl) (i:=0) rfl rfl rfl) (fV bB rfl (by kernel_rfl) (zF (aJ (aJ (aV (ro rfl (lQ ((⟨(gv f m,x),hf.get hL1 m,hx⟩):PG L) (Ht rfl) ⟨(Ht rfl),(Ht rfl),trivial⟩) (ro rfl (mW (Ht rfl) cV) (eX (dQ (Ht rfl) (fun hd=>?_) (fun hd=>?_))))))))))))))
  ·have hd2 : (gv f m).re < x.re := by have h := hd; simp only [decide_eq_true_eq] at h; rw [hcm, Ao] at h; exact h
   refine cY (rm rfl (ro rfl (dV (Ht rfl) (cJ 1) z6) (ra rfl (eX (T_blk ?_)))))
   refine fY (m + 1, j) ⟨⟨by dsimp only; omega, hj⟩, fun t ht => by
     rcases Nat.lt_or_ge t m with k | k
     ·have:=hup t m k hml; grind
     ·have : t = m := by dsimp only at ht; omega
      rw [this]; exact hd2,h2⟩ (by dsimp only; omega) (zS rfl) (cA.refl _)
  ·have hd2 : x.re ≤ (gv f m).re := by have h := hd; simp only [decide_eq_false_iff_not] at h; rw [hcm, Ao] at h; exact Rat.not_lt.1 h
   refine cY (rm rfl (ra rfl (eX (T_blk ?_))))
   refine fY (i, m) ⟨⟨hm2.1, by dsimp only; omega⟩, h1, fun t ht htl => by
     rcases Nat.eq_or_lt_of_le ht with k | k
     ·rw [← k]; exact hd2
     ·have:=hup m t k htl; grind⟩ (by dsimp only; omega) (zS rfl) (cA.refl _)
 ·have hc2 : i = j := by have h := hc; simp only [decide_eq_false_iff_not] at h; omega
  subst hc2
  have hlb:Bw f x = i:=Pr hj h1 fun h=>h2 i (Nat.le_refl _) h
  refine gW rfl (cK (fZ (m:=15) (dp 9 rfl (cX (Ht rfl)) (dp 9 rfl (cX (Ht rfl)) (dp 8 rfl (cX (Ht rfl)) (eE 36 1 37 2 rfl (gZ (Ht rfl) (Ht rfl)) (dq 38 3 rfl (cX (Ht rfl)) (C.D_step (Ei:=[(2,_),(39,_)]) rfl rfl (bV (bK rfl rfl) (bV (bG 4 rfl rfl) bW)) (eK rfl rfl (Ht rfl) (fun h=>cX (Ht rfl))) (C.D_step (Ei:=[(0,_),(39,_)]) rfl rfl (bV (bK rfl rfl) (bV (bG 4 rfl rfl) bW)) (eK rfl rfl (Ht rfl) (fun h=>cX (Ht rfl))) (C.D_step (Ei:=[(9,_),(39,_)]) rfl rfl (bV (bK rfl rfl) (bV (bG 4 rfl rfl) bW)) (eK rfl rfl (Ht rfl) (fun h=>cX (Ht rfl))) ?_))))))))))
  refine C.D_step (Ei:=[(41,_),(42,_),(39,_)]) rfl rfl (bV (bG 6 rfl rfl) (bV (bG 7 rfl rfl) (bV (bG 4 rfl rfl) bW))) (eK rfl rfl (Ht rfl) (fun h=>dZ U_54 Z_32 (fJ rfl h) (fJ rfl h) rfl (dY (dU (d:=Qi.zero) (by simpa using h))))) ?_
  refine C.D_step (Ei:=[(43,_),(39,_)]) rfl rfl (bV (bG 8 rfl rfl) (bV (bG 4 rfl rfl) bW)) (eK rfl rfl (Ht rfl) (fun h=>dJ A_32 Z_32 (fJ rfl h))) (C.D_step (Ei:=[(4,_),(39,_)]) rfl rfl (bV (bK rfl rfl) (bV (bG 4 rfl rfl) bW)) (eK rfl rfl (Ht rfl) (fun h=>eJ A_32 Z_32 (Ht rfl) (i:=0) rfl rfl rfl)) (C.D_step (Ei:=[(40,_),(44,_),(45,_),(39,_)]) rfl rfl (bV (bG 5 rfl rfl) (bV (bG 9 rfl rfl) (bV (bG 10 rfl rfl) (bV (bG 4 rfl rfl) bW)))) (eK rfl rfl (Ht rfl) (fun h=>lQ ((⟨(gv f i,x),hf.get hL1 i,hx⟩):PG L) (fJ rfl h) ⟨(fJ rfl h),(fJ rfl h),trivial⟩)) ?_))
  refine C.D_step (Ei:=[(46,_),(39,_)]) rfl rfl (bV (bG 11 rfl rfl) (bV (bG 4 rfl rfl) bW)) (eK rfl rfl (Ht rfl) (fun h=>jO (fJ rfl h) cV)) (eE 39 4 47 12 rfl (eS (Ht rfl) (fun h=>(fJ rfl h))) (dq 35 0 rfl (cQ (Ht rfl)) (fV bB rfl (by kernel_rfl) (zF (zF (zF (aJ (aJ (aJ (aV (ra rfl (eX (bE rfl (fX (eU rfl) ?_) (fX (eU rfl) ?_))))))))))))))
  ·exact (kJ hlb.symm)
  ·exact (cT (by
    rw [hlb]
    by_cases k:i < f.length
    ·have h3 := Tv (hr i k) hxr
     rw [decide_eq_true k,Bool.true_and,decide_eq_decide]; exact ⟨fun e=>⟨k,h3.1 e⟩,fun e=>h3.2 e.2⟩
    ·simp [k]))
theorem Fr {l:List NP} (hl:l.length ≤ 1000):iC Tryz.prog 138 [Sg l] [] (Value) (fun v=>Is v) (fun v=>[bH 80 2 v (l.map fun n=>eL n.1 n.2)]) (fun _=>True):=by
 refine iC.intro Tryz.func138 rfl Tryz.ntmps138 rfl (fun cx Z=>(ts (ro rfl (cQ cV) (eX (cK (ts (rm rfl (ro rfl (Ec U_98 (Ht rfl)) (eX (Hu (Ht rfl) (fun hb=>?_) (fun hb=>?_)))))))))))
 ·have hT : (l.map fun n => eL n.1 n.2) = [] := hb rfl
  refine ts (ro rfl (cQ cV) (eX (wK 80 2 ?_)))
  exact kX (.slice none 0 0) trivial [0,1] ⟨⟨_,rfl,fun _ _ _ h=>h⟩,⟨_,rfl,(bN hT.symm)⟩,trivial⟩ (by decide) (yR rfl (eU rfl))
 ·refine cU (ts (rn rfl (uQ U_98 Z_80 O_80) fun B5 => (rm rfl (yT (inf := Tryz.t80) Hh Az rfl rfl rfl (Ht rfl) (Ht rfl) (i := 1) rfl (fun T hT => by obtain ⟨x, _, rfl⟩ := List.mem_map.1 hT; exact El.ag rfl) (by show _ * 48 ≤ _; simp only [List.length_map, List.length_nil]; omega) (by simp only [List.length_map, List.length_nil]; omega) rfl (fun v2 => ?_)))))
  refine ra rfl (eX ?_)
  exact kX v2 trivial [0,1] ⟨⟨_,rfl,fun _ _ _ h=>h⟩,⟨_,rfl,fun _ _ _ h=>h⟩,trivial⟩ (by decide) (yR rfl (eU rfl))
theorem Ks {l:List NP} (hl:l.length ≤ 1000):aT Tryz.prog 138 [Sg l] (Sg l):=(Fr hl).fun fun v _=>iZ
theorem Fv {f:List Qi} {l:List NP} {L:Nat} (hf:SwF f l L) (hL1:1 ≤ L) (hL:L ≤ 1000000):aT Tryz.prog 49 [bP f,Sg l] (fB [Hr (kP (Ez f l) f) (kP (Ez f l) l),aI .i64 (Ez f l)]):=by
 have nl:=hf.nl; have nf:=hf.nf
 refine aT.intro Tryz.func49 rfl Tryz.ntmps49 rfl (fun cx=>(ts (rn rfl (eW (Ts:=[Is (.slice none 0 0),Is (.slice none 0 0)]) O_108 rfl (fun V=>aW zd (aW zd (aG)))) fun B4=>(ro rfl (cQ (cJ 0)) (eX (cK (ts (rm rfl (ro rfl (dG U_54 (Ht rfl) aA) (rm rfl (ro rfl (dG U_98 (Ht rfl) aA) (ro rfl (fL (Ht rfl) (Ht rfl)) (rm rfl (fQ rfl rfl (eK rfl rfl (Ht rfl) (fun h=>cX (Ht rfl))) (fQ rfl rfl (eK rfl rfl (Ht rfl) (fun h=>dG U_54 (fJ rfl h) aA)) ?_)))))))))))))))
 refine fQ rfl rfl (eK rfl rfl (Ht rfl) (fun h=>dE (fJ rfl h) (cJ 1024))) (ro rfl (iF (Ht rfl) (fun h=>(fJ rfl h))) (eX (dQ (Ht rfl) (fun hb=>?_) (fun hb=>?_))))
 ·have he : Ez f l = 4 := Wv (by simpa using hb)
  refine ts (ro rfl (aD.imp (lN ) qA) (gX Z_108 (Ht rfl) (Ht rfl) rfl (i:=0) rfl (aK rfl) rfl rfl (ro rfl (cQ (cJ 4)) (eX (bE rfl (fX (fU A_108 Z_108 rfl (i:=0) rfl rfl) ?_) (fX (eU rfl) ?_))))))
  ·exact (fun v V h=>by rw [kP,kP,if_neg (by rw [he]; decide),if_neg (by rw [he]; decide)]; exact h)
  ·exact (aN he.symm)
 ·have hne : ¬ (f.length ≠ l.length ∨ 1024 < f.length) := by have h := hb; simp at h; omega
  refine cU (cK (ts (rm rfl (ro rfl (dG U_54 (Ht rfl) aA) (ro rfl (cX (cJ 0)) (eX (eG ?_)))))))
  refine dB (fun (k : Nat) => k ≤ f.length ∧ ∀ i, i < k → By f l i = 0) (fun (k : Nat) => f.length - k) (fun (k : Nat) => [(0, bP f), (1, Sg l), (4, cH B4 0), (18, bP f), (19, NT .i64 f.length), (20, NT .i64 k)]) (fun (k : Nat) => [box B4 108 [Is (.slice none 0 0), Is (.slice none 0 0)]]) 0 ⟨Nat.zero_le _, fun i h => by omega⟩
   (zS rfl) (cA.refl _) (fun k ⟨hk,h0⟩=>?_)
  refine ts (ro rfl (gZ (Ht rfl) (Ht rfl)) (eX (cK (dQ (Ht rfl) (fun hc=>?_) (fun hc=>?_)))))
  ·have hc2 : k < f.length := by simpa using hc
   haveI f1:aP (gv f k) L:=hf.ff.get hL1 k
   haveI f2:aP (gv f (k - 1)) L:=hf.ff.get hL1 (k - 1)
   have hkl:k < l.length:=by omega
   refine cU (cK (eG (ts (rm rfl (ra rfl (eX (eG (ts (rm rfl (rm rfl (ro rfl (dZ U_54 Z_32 (Ht rfl) (Ht rfl) rfl (dY (dU (d:=Qi.zero) hc2))) (ro rfl (dJ A_32 Z_32 (Ht rfl)) (ro rfl (cZ Tryz.call136 (wQ (x:=gv f k) (L:=L) zo) ⟨(Ht rfl),trivial⟩) (ro rfl (eC (Ht rfl)) (ra rfl (eX (dQ (Ht rfl) (fun hd=>?_) (fun hd=>?_))))))))))))))))))
   ·have he : Ez f l = 1 := Kh hne hc2 h0 (Wr (by simpa using hd)) (by decide)
    refine ts (ro rfl (aD.imp (lN ) qA) (gX Z_108 (Ht rfl) (Ht rfl) rfl (i:=0) rfl (aK rfl) rfl rfl (ro rfl (cQ (cJ 1)) (eX (bE rfl (fX (fU A_108 Z_108 rfl (i:=0) rfl rfl) ?_) (fX (eU rfl) ?_))))))
    ·exact (fun v V h=>by rw [kP,kP,if_neg (by rw [he]; decide),if_neg (by rw [he]; decide)]; exact h)
    ·exact (aN he.symm)
   ·have hp : gI (gv f k) = true := by simpa using hd
    have hpr:0 < k → Re (gv f (k - 1)):=fun h=>Fl.pos_re (Rp (h0 (k - 1) zo)).1
    refine cK (fZ (m:=12) (dp 6 rfl (cX (Ht rfl)) (dq 32 0 rfl (dE (Ht rfl) (cJ 0)) (dq 33 1 rfl (cX (Ht rfl)) (C.D_step (Ei:=[(0,_),(34,_)]) rfl rfl (bV (bK rfl rfl) (bV (bG 2 rfl rfl) bW)) (eK rfl rfl (Ht rfl) (fun h=>cX (Ht rfl))) (C.D_step (Ei:=[(6,_),(34,_)]) rfl rfl (bV (bK rfl rfl) (bV (bG 2 rfl rfl) bW)) (eK rfl rfl (Ht rfl) (fun h=>cX (Ht rfl))) (C.D_step (Ei:=[(35,_),(36,_),(34,_)]) rfl rfl (bV (bG 3 rfl rfl) (bV (bG 4 rfl rfl) (bV (bG 2 rfl rfl) bW))) (eK rfl rfl (Ht rfl) (fun h=>dZ U_54 Z_32 (fJ rfl h) (fJ rfl h) rfl (dY (dU (d:=Qi.zero) hc2)))) ?_)))))))
    refine C.D_step (Ei:=[(37,_),(34,_)]) rfl rfl (bV (bG 5 rfl rfl) (bV (bG 2 rfl rfl) bW)) (eK rfl rfl (Ht rfl) (fun h=>dJ A_32 Z_32 (fJ rfl h))) (C.D_step (Ei:=[(0,_),(34,_)]) rfl rfl (bV (bK rfl rfl) (bV (bG 2 rfl rfl) bW)) (eK rfl rfl (Ht rfl) (fun h=>cX (Ht rfl))) (C.D_step (Ei:=[(6,_),(34,_)]) rfl rfl (bV (bK rfl rfl) (bV (bG 2 rfl rfl) bW)) (eK rfl rfl (Ht rfl) (fun h=>cX (Ht rfl))) (C.D_step (Ei:=[(40,_),(34,_)]) rfl rfl (bV (bG 8 rfl rfl) (bV (bG 2 rfl rfl) bW)) (eK rfl rfl (Ht rfl) (fun h=>dW (fJ rfl h) (cJ 1) (by first | omega | (simp at h; omega)) (by show _ < 9223372036854775808; first | omega | (simp at h; omega)))) ?_)))
    refine C.D_step (Ei:=[(39,_),(41,_),(34,_)]) rfl rfl (bV (bG 7 rfl rfl) (bV (bG 9 rfl rfl) (bV (bG 2 rfl rfl) bW))) (eK rfl rfl (Ht rfl) (fun h=>dZ U_54 Z_32 (fJ rfl h) (fJ rfl h) rfl (dY (dU (d:=Qi.zero) zo)))) (C.D_step (Ei:=[(42,_),(34,_)]) rfl rfl (bV (bG 10 rfl rfl) (bV (bG 2 rfl rfl) bW)) (eK rfl rfl (Ht rfl) (fun h=>dJ A_32 Z_32 (fJ rfl h))) (fV bB rfl (by kernel_rfl) (zF (zF (zF (aV ?_))))))
    refine fQ rfl rfl (eK rfl rfl (Ht rfl) (fun h=>cZ Tryz.call30 (If (x:=gv f k) (y:=gv f (k - 1)) (L:=L) (M:=L) zo) ⟨(fJ rfl h),(fJ rfl h),trivial⟩)) (fQ rfl rfl (eK rfl rfl (Ht rfl) (fun h=>Bj (fJ rfl h) cV)) (ro rfl (eS (Ht rfl) (fun h=>(fJ rfl h))) (ra rfl (eX (dQ (Ht rfl) (fun he=>?_) (fun he=>?_))))))
    ·have he2 : 0 < k ∧ pF (gv f k) (gv f (k - 1)) ≤ 0 := by simpa using he
     rw [mI (Fl.pos_re hp).b (hpr he2.1).b] at he2
     have he:Ez f l = 7:=Kh hne hc2 h0 (Wu hp he2) (by decide)
     refine ts (ro rfl (aD.imp (lN ) qA) (gX Z_108 (Ht rfl) (Ht rfl) rfl (i:=0) rfl (aK rfl) rfl rfl (ro rfl (cQ (cJ 7)) (eX (bE rfl (fX (fU A_108 Z_108 rfl (i:=0) rfl rfl) ?_) (fX (eU rfl) ?_))))))
     ·exact (fun v V h=>by rw [kP,kP,if_neg (by rw [he]; decide),if_neg (by rw [he]; decide)]; exact h)
     ·exact (aN he.symm)
    ·have he2 : ¬ (0 < k ∧ nD (gv f k) (gv f (k - 1)) ≤ 0) := by
      rintro ⟨a1,a2⟩
      have h:=he
      simp only [Bool.and_eq_false_iff,decide_eq_false_iff_not] at h
      rcases h with h | h
      ·exact h a1
      ·exact h (by rw [mI (Fl.pos_re hp).b (hpr a1).b]; exact a2)
     refine cK (fZ (m:=11) (dp 1 rfl (cX (Ht rfl)) (dp 6 rfl (cX (Ht rfl)) (eE 49 0 50 1 rfl (dZ U_98 Z_80 (Ht rfl) (Ht rfl) rfl (dY (dU (d:=jB) hkl))) (dq 51 2 rfl (iJ iH (Ht rfl) rfl) (dq 52 3 rfl (dJ A_54 Z_54 (Ht rfl)) (dq 53 4 rfl (dG U_54 (Ht rfl) aA) (dp 1 rfl (cX (Ht rfl)) (dq 55 6 rfl (dZ U_98 Z_80 (Ht rfl) (cJ 0) rfl (dY (dU (d:=jB) zo))) (dq 56 7 rfl (iJ iH (Ht rfl) rfl) (dq 57 8 rfl (dJ A_54 Z_54 (Ht rfl)) ?_)))))))))))
     refine dq 58 9 rfl (dG U_54 (Ht rfl) aA) (fV bB rfl (by kernel_rfl) (zF (zF (aJ (aJ (aJ (aV (ro rfl (fL (Ht rfl) (Ht rfl)) (ra rfl (eX (dQ (Ht rfl) (fun hg=>?_) (fun hg=>?_))))))))))))
     ·have hg2 : (nz l k).length ≠ (nz l 0).length := by have h := hg; simp only [Bool.not_eq_true', decide_eq_false_iff_not] at h; exact h
      have he:Ez f l = 4:=Kh hne hc2 h0 (Ro hp he2 hg2) (by decide)
      refine ts (ro rfl (aD.imp (lN ) qA) (gX Z_108 (Ht rfl) (Ht rfl) rfl (i:=0) rfl (aK rfl) rfl rfl (ro rfl (cQ (cJ 4)) (eX (bE rfl (fX (fU A_108 Z_108 rfl (i:=0) rfl rfl) ?_) (fX (eU rfl) ?_))))))
      ·exact (fun v V h=>by rw [kP,kP,if_neg (by rw [he]; decide),if_neg (by rw [he]; decide)]; exact h)
      ·exact (aN he.symm)
     ·have hg2 : (nz l k).length = (nz l 0).length := by have h := hg; simp only [Bool.not_eq_false', decide_eq_true_eq] at h; exact h
      have h8:=hf.h8 k
      refine cK (fZ (m:=9) (dp 1 rfl (cX (Ht rfl)) (dp 6 rfl (cX (Ht rfl)) (eE 63 0 64 1 rfl (dZ U_98 Z_80 (Ht rfl) (Ht rfl) rfl (dY (dU (d:=jB) hkl))) (dq 65 2 rfl (iJ iH (Ht rfl) rfl) (dq 66 3 rfl (dJ A_54 Z_54 (Ht rfl)) (dp 1 rfl (cX (Ht rfl)) (dq 68 5 rfl (dZ U_98 Z_80 (Ht rfl) (cJ 0) rfl (dY (dU (d:=jB) zo))) (dq 69 6 rfl (iJ iH (Ht rfl) rfl) (dq 70 7 rfl (dJ A_54 Z_54 (Ht rfl)) (fV bB rfl (by kernel_rfl) (zF (zF (aJ (aV ?_)))))))))))))))
      refine ro rfl (cZ Tryz.call137 (a13 (a:=nz l k) (b:=nz l 0) (L:=L) (hf.fz k) (hf.fz 0) hL1 zo) ⟨(Ht rfl),(Ht rfl),(aB.fn Tryz.call45 (γ:=PG L) (Ts:=fun x=>[aL x.1.1,aL x.1.2]) (U:=fun x=>aC (decide (x.1.1 = x.1.2))) (fun x=>haveI:=x.2.1; haveI:=x.2.2; wO (L:=L) (M:=L) zo zo)),trivial⟩) (ro rfl (eC (Ht rfl)) (ra rfl (eX (dQ (Ht rfl) (fun hi=>?_) (fun hi=>?_)))))
      ·have hi2 : nz l k ≠ nz l 0 := by have h := hi; simp only [Bool.not_eq_true', decide_eq_false_iff_not] at h; exact h
       have he:Ez f l = 40:=Kh hne hc2 h0 (Wt hp he2 hg2 hi2) (by decide)
       refine ts (ro rfl (aD.imp (lN ) qA) (gX Z_108 (Ht rfl) (Ht rfl) rfl (i:=0) rfl (aK rfl) rfl rfl (ro rfl (cQ (cJ 40)) (eX (bE rfl (fX (fU A_108 Z_108 rfl (i:=0) rfl rfl) ?_) (fX (eU rfl) ?_))))))
       ·exact (fun v V h=>by rw [kP,kP,if_neg (by rw [he]; decide),if_neg (by rw [he]; decide)]; exact h)
       ·exact (aN he.symm)
      ·have hi2 : nz l k = nz l 0 := by have h := hi; simp only [Bool.not_eq_false', decide_eq_true_eq] at h; exact h
       have hk0:By f l k = 0:=Rn hp he2 hi2
       refine cU (T_blk (T_blk (cY (ro rfl (dV (Ht rfl) (cJ 1) z6) (rm rfl (eX (eR [0] rfl (by decide) ?_)))))))
       refine fY (k + 1) ⟨hc2, fun i h => by
         by_cases e:i = k
         ·rw [e]; exact hk0
         ·exact h0 i zo⟩ zo (zS rfl) (cA.refl _)
  ·have hc2 : f.length ≤ k := by simpa using hc
   have he:Ez f l = 0:=Yd hne (fun i h=>h0 i zo)
   refine gW rfl (ts (rm rfl (ro rfl (cZ Tryz.call120 (Ie zo) ⟨(Ht rfl),trivial⟩) (rm rfl (ro rfl (cZ Tryz.call138 (Ks (l:=l) zo) ⟨(Ht rfl),trivial⟩) (ro rfl (Cg (Ht rfl) (Ht rfl)) (gX Z_108 (Ht rfl) (Ht rfl) rfl (i:=0) rfl (aK rfl) rfl rfl (ro rfl (cQ (cJ 0)) (eX (bE rfl (fX (fU A_108 Z_108 rfl (i:=0) rfl rfl) ?_) (fX (eU rfl) ?_)))))))))))
   ·exact (fun v V h=>by rw [he,kP,kP,if_pos rfl,if_pos rfl]; exact h)
   ·exact (aN he.symm)
theorem Ck {f:List Qi} {l:List NP}:aT Tryz.prog 62 [Hr f l] (NT .i64 f.length):=by
 refine aT.intro Tryz.func62 rfl Tryz.ntmps62 rfl (fun cx=>(ts (rn rfl (fG (Ht rfl)) fun B1=>(ro rfl (cQ (cJ 0)) (eX (ts (ro rfl (eZ iN (Ht rfl) rfl) (ro rfl (eY A_54 Z_54 (Ht rfl) (i:=0) rfl rfl) (ro rfl (dG U_54 (Ht rfl) aA) (ra rfl (eX ?_)))))))))))
 exact fW rfl (eU rfl)
def Xy (f:List Qi) (l:List NP) (i:Int):(Qi × NP) × Int:=if 0 ≤ i ∧ i < f.length then ((gv f i.toNat,l.getD i.toNat jB),0) else ((Qi.zero,jB),1)
theorem a1z {f:List Qi} {l:List NP} {i:Int} (h:¬ (0 ≤ i ∧ i < f.length)):Xy f l i = ((Qi.zero,jB),1):=by rw [Xy,if_neg h]
theorem Xz {f:List Qi} {l:List NP} {k:Nat} (h:k < f.length):Xy f l (k:Int) = ((gv f k,l.getD k jB),0):=by rw [Xy,if_pos zo,Int.toNat_natCast]
theorem Ta {f:List Qi} {l:List NP} {i:Int} (hl:f.length = l.length):aT Tryz.prog 54 [Hr f l,aI .i64 i] (fB [aL (Xy f l i).1.1,eL (Xy f l i).1.2.1 (Xy f l i).1.2.2,aI .i64 (Xy f l i).2]):=by
 refine aT.intro Tryz.func54 rfl Tryz.ntmps54 rfl (fun cx=>(ts (rn rfl (fG (Ht rfl)) fun B2=>(rn rfl (eW (Ts:=[Is (.bool false),Is (.slice none 0 0),Is (.bool false),Is (.slice none 0 0),Is (.slice none 0 0)]) O_32 rfl (fun V=>aW zd (aW zd (aW zd (aW zd (aW zd (aG))))))) fun B4=>(rn rfl (eW (Ts:=[Is (.slice none 0 0),Is (.slice none 0 0)]) O_80 rfl (fun V=>aW zd (aW zd (aG)))) fun B5=>?_)))))
 refine ro rfl (cQ (cJ 0)) (eX (cK (ts (rm rfl (ro rfl (mW (Ht rfl) cV) (rm rfl (fQ rfl rfl (eK rfl rfl (Ht rfl) (fun h=>cX (Ht rfl))) (fQ rfl rfl (eK rfl rfl (Ht rfl) (fun h=>eZ iN (Ht rfl) rfl)) (fQ rfl rfl (eK rfl rfl (Ht rfl) (fun h=>eY A_54 Z_54 (fJ rfl h) (i:=0) rfl rfl)) (fQ rfl rfl (eK rfl rfl (Ht rfl) (fun h=>dG U_54 (fJ rfl h) aA)) (fQ rfl rfl (eK rfl rfl (Ht rfl) (fun h=>kD (fJ rfl h) (fJ rfl h))) (ro rfl (iF (Ht rfl) (fun h=>(fJ rfl h))) ?_))))))))))))
 refine eX (dQ (Ht rfl) (fun hb=>?_) (fun hb=>?_))
 ·have hb2 : ¬ (0 ≤ i ∧ i < f.length) := by have h := hb; simp only [Bool.or_eq_true, decide_eq_true_eq] at h; omega
  have he:=a1z (l:=l) hb2
  refine ts (ro rfl (aD.imp (vE ) pR) (ro rfl (aD.imp (lW ) lE) (gX Z_32 (Ht rfl) (Ht rfl) rfl (i:=1) rfl (aK rfl) rfl rfl (gX Z_80 (Ht rfl) (Ht rfl) rfl (i:=2) rfl (aK rfl) rfl rfl (ro rfl (cQ (cJ 1)) (eX (Fo rfl (fX (fU A_32 Z_32 rfl (i:=1) rfl rfl) ?_) (fX (fU A_80 Z_80 rfl (i:=2) rfl rfl) ?_) (fX (eU rfl) ?_))))))))
  ·exact (jD (by rw [he]))
  ·exact (fun v V h=>by rw [he]; exact h)
  ·exact (aN (by rw [he]; rfl))
 ·have hb2 : 0 ≤ i ∧ i < f.length := by have h := hb; simp only [Bool.or_eq_false_iff, decide_eq_false_iff_not] at h; omega
  obtain ⟨k,rfl⟩:∃ k:Nat,i = k:=⟨i.toNat,by omega⟩
  have hk:k < f.length:=by omega
  have he:=Xz (l:=l) hk
  refine cU (cK (Y.D_start (m:=11) [(10,1,box B4 32 [aC (decide ((gv f k).a < 0)),aM (gv f k).a.natAbs,aC (decide ((gv f k).b < 0)),aM (gv f k).b.natAbs,aM (du (gv f k))])] (Y.D_step (Ei:=[(2,_)]) rfl rfl (bQ (bJ rfl rfl) bX) rfl rfl (by kernel_rfl) (dX rfl (eZ iN (Ht rfl) rfl)) (Y.D_step (Ei:=[(18,_)]) rfl rfl (bQ (bZ 0 rfl rfl) bX) rfl rfl (by kernel_rfl) (dX rfl (eY A_54 Z_54 (Ht rfl) (i:=0) rfl rfl)) (Y.D_step (Ei:=[(1,_)]) rfl rfl (bQ (bJ rfl rfl) bX) rfl rfl (by kernel_rfl) (dX rfl (cX (Ht rfl))) ?_)))))
  refine Y.D_step (Ei:=[(19,_),(20,_)]) rfl rfl (bQ (bZ 1 rfl rfl) (bQ (bZ 2 rfl rfl) bX)) rfl rfl (by kernel_rfl) (dX rfl (dZ U_54 Z_32 (Ht rfl) (Ht rfl) rfl (dY (dU (d:=Qi.zero) hk)))) (Y.D_step (Ei:=[(21,_)]) rfl rfl (bQ (bZ 3 rfl rfl) bX) rfl rfl (by kernel_rfl) (dX rfl (dJ A_32 Z_32 (Ht rfl))) (bY (Ei:=[(2,_)]) rfl rfl (bQ (bJ rfl rfl) bX) rfl rfl (dX rfl (eZ mS (Ht rfl) rfl)) (bY (Ei:=[(23,_)]) rfl rfl (bQ (bZ 5 rfl rfl) bX) rfl rfl (dX rfl (eY A_98 Z_98 (Ht rfl) (i:=0) rfl rfl)) ?_)))
  refine bY (Ei:=[(1,_)]) rfl rfl (bQ (bJ rfl rfl) bX) rfl rfl (dX rfl (cX (Ht rfl))) (bY (Ei:=[(24,_),(25,_)]) rfl rfl (bQ (bZ 6 rfl rfl) (bQ (bZ 7 rfl rfl) bX)) rfl rfl (dX rfl (dZ U_98 Z_80 (Ht rfl) (Ht rfl) rfl (dY (dU (d:=jB) zo)))) (bY (Ei:=[(26,_)]) rfl rfl (bQ (bZ 8 rfl rfl) bX) rfl rfl (dX rfl (dJ A_80 Z_80 (Ht rfl))) (Y.D_putI (Ei:=[(4,_),(22,_)]) 1 rfl rfl rfl (bQ (bJ rfl rfl) (bQ (bZ 4 rfl rfl) bX)) (.head _) rfl (rR Z_32 (Ht rfl) (Ht rfl) rfl (i:=0) rfl (aK rfl) rfl rfl) ?_)))
  refine Y.D_done bB rfl (by kernel_rfl) rfl (by simp [Y.okP]) rfl rfl (bU (bU (bU (bU (bU (bU (bU (bU (bU (bU (Y.F_putI (Y.F_nil ?_))))))))))))
  refine gX Z_80 (Ht rfl) (Ht rfl) rfl (i:=2) rfl (aK rfl) rfl rfl (ro rfl (cQ (cJ 0)) (eX (Fo rfl (fX (fU A_32 Z_32 rfl (i:=1) rfl rfl) ?_) (fX (fU A_80 Z_80 rfl (i:=2) rfl rfl) ?_) (fX (eU rfl) ?_))))
  ·exact (jD (by rw [he]))
  ·exact (fun v V h=>by rw [he]; exact h)
  ·exact (aN (by rw [he]; rfl))
theorem Yw {z y:List Qi} {S U:List (List Qi)} {r:Qi} {n i j L M:Nat} (hs:iL S n n) (hu:iL U n n) (hi:i < n) (hj:j < n) (fs:dM S L) (fu:dM U L) (fr:aP r M) (hL1:1 ≤ L) (hL:L ≤ 1000000) (hM:M ≤ 10000000):aT Tryz.prog 143 [NT .i64 i,NT .i64 j,PT (eL z S),PT (aL r),PT (eL y U)] (aL (gm S i j + r * (gm U i j - gm S i j))):=by
 haveI f1:=fs.get hL1 i j
 haveI f2:=fu.get hL1 i j
 haveI:=fr
 have h1:=hs.row hi
 have h2:=hu.row hi
 have h3:=hs.1
 have h4:=hu.1
 refine aT.intro Tryz.func143 rfl Tryz.ntmps143 rfl (fun cx=>(ts (rn rfl (eW (Ts:=[Is (.bool false),Is (.slice none 0 0),Is (.bool false),Is (.slice none 0 0),Is (.slice none 0 0)]) O_32 rfl (fun V=>aW zd (aW zd (aW zd (aW zd (aW zd (aG))))))) fun B7=>(eX (cK (fZ (m:=30) (dp 2 rfl (iJ iY (Ht rfl) rfl) (dq 8 0 rfl (dJ A_78 Z_78 (Ht rfl)) (dp 0 rfl (cX (Ht rfl)) (eE 9 1 10 2 rfl (dZ U_78 Z_54 (Ht rfl) (Ht rfl) rfl (dY (dU (d:=[]) zo))) ?_))))))))))
 refine dq 11 3 rfl (dJ A_54 Z_54 (Ht rfl)) (dp 1 rfl (cX (Ht rfl)) (eE 12 4 13 5 rfl (dZ U_54 Z_32 (Ht rfl) (Ht rfl) rfl (dY (dU (d:=Qi.zero) zo))) (dq 14 6 rfl (dJ A_32 Z_32 (Ht rfl)) (dq 15 7 rfl (dI fA (Ht rfl)) (dp 3 rfl (dJ A_32 Z_32 (Ht rfl)) (dq 17 9 rfl (dI fA (Ht rfl)) (dp 4 rfl (iJ iY (Ht rfl) rfl) (dq 19 11 rfl (dJ A_78 Z_78 (Ht rfl)) (dp 0 rfl (cX (Ht rfl)) (eE 20 12 21 13 rfl (dZ U_78 Z_54 (Ht rfl) (Ht rfl) rfl (dY (dU (d:=[]) zo))) ?_))))))))))
 refine dq 22 14 rfl (dJ A_54 Z_54 (Ht rfl)) (dp 1 rfl (cX (Ht rfl)) (eE 23 15 24 16 rfl (dZ U_54 Z_32 (Ht rfl) (Ht rfl) rfl (dY (dU (d:=Qi.zero) zo))) (dq 25 17 rfl (dJ A_32 Z_32 (Ht rfl)) (dq 26 18 rfl (dI fA (Ht rfl)) (dp 2 rfl (iJ iY (Ht rfl) rfl) (dq 28 20 rfl (dJ A_78 Z_78 (Ht rfl)) (dp 0 rfl (cX (Ht rfl)) (eE 29 21 30 22 rfl (dZ U_78 Z_54 (Ht rfl) (Ht rfl) rfl (dY (dU (d:=[]) zo))) (dq 31 23 rfl (dJ A_54 Z_54 (Ht rfl)) ?_)))))))))
 refine dp 1 rfl (cX (Ht rfl)) (eE 32 24 33 25 rfl (dZ U_54 Z_32 (Ht rfl) (Ht rfl) rfl (dY (dU (d:=Qi.zero) zo))) (dq 34 26 rfl (dJ A_32 Z_32 (Ht rfl)) (eE 27 19 35 27 rfl (cM lP K_32 (wP (x:=gm U i j) (y:=gm S i j) (L:=L) (M:=L) zo) (Ht rfl) ⟨(Ht rfl),trivial⟩) (eE 18 10 36 28 rfl (cM kI K_29 (uM (x:=r) (y:=gm U i j - gm S i j) (L:=M) (M:=L + L + 1) zo) (Ht rfl) ⟨(Ht rfl),trivial⟩) (fV bB rfl (by kernel_rfl) (zF (zF (zF (zF (zF (zF (zF (aJ (aJ (aV ?_)))))))))))))))
 refine ro rfl (cM pN Tryz.call33 (Ib (x:=gm S i j) (y:=r * (gm U i j - gm S i j)) (L:=L) (M:=M + (L + L + 1) + 1) zo) (Ht rfl) ⟨(Ht rfl),trivial⟩) (gX Z_32 (Ht rfl) (Ht rfl) rfl (i:=0) rfl (aK rfl) rfl rfl (eX ?_))
 exact fW rfl (fU A_32 Z_32 rfl (i:=0) rfl rfl)
theorem yV {f:List Qi} {l:List NP} {x:Qi} {L:Nat} (ok:qX f l) (hf:SwF f l L) (hx:aP x L) (hL1:1 ≤ L) (hL:L ≤ 1000):aT Tryz.prog 55 [Hr f l,aL x] (fB [eL (vB f l x).1.1 (vB f l x).1.2,aI .i64 (vB f l x).2]):=by
 have nl:=hf.nl; have nf:=hf.nf; have hfl:=ok.len
 refine aT.intro Tryz.func55 rfl Tryz.ntmps55 rfl (fun cx=>(ts (rn rfl (fG (Ht rfl)) fun B2=>(rn rfl (fG (Ht rfl)) fun B3=>(rn rfl (eW (Ts:=[Is (.slice none 0 0),Is (.slice none 0 0)]) O_80 rfl (fun V=>aW zd (aW zd (aG)))) fun B4=>(ro rfl (cQ (cJ 0)) (eX (cK (ts (ro rfl (eJ A_32 Z_32 (Ht rfl) (i:=1) rfl rfl rfl) (ro rfl (cZ Tryz.call35 (Fw (x:=x)) ⟨(Ht rfl),trivial⟩) (ro rfl (eC (Ht rfl)) (eX (dQ (Ht rfl) (fun hb=>?_) (fun hb=>?_)))))))))))))))
 ·have he := Ia (f := f) (l := l) (x := x) (by simpa using hb)
  refine ts (ro rfl (aD.imp (lW ) lE) (gX Z_80 (Ht rfl) (Ht rfl) rfl (i:=2) rfl (aK rfl) rfl rfl (ro rfl (cQ (cJ 1)) (eX (bE rfl (fX (fU A_80 Z_80 rfl (i:=2) rfl rfl) ?_) (fX (eU rfl) ?_))))))
  ·exact (fun v V h=>by rw [he]; exact h)
  ·exact (aN (by rw [he]; rfl))
 ·have hxb : x.b = 0 := by simpa using hb
  obtain ⟨k,hk⟩:∃ k,Bw f x = k:=⟨_,rfl⟩
  refine cU (ts (ro rfl (eZ iN (Ht rfl) rfl) (ro rfl (eY A_54 Z_54 (Ht rfl) (i:=0) rfl rfl) (ro rfl (eJ A_32 Z_32 (Ht rfl) (i:=1) rfl rfl rfl) (ro rfl (cZ Tryz.call141 (eQ (Yv (f:=f) (x:=x) (L:=L) hf.ff hx hL1 zo (fun i hi=>ok.re hi) (Re.of hxb) (fun i j h1 h2=>ok.lt h1 h2)) (qU (by rw [hk]))) ⟨(Ht rfl),(Ht rfl),(aB.fn Tryz.call30 (γ:=PG L) (Ts:=fun x=>[aL x.1.1,aL x.1.2]) (U:=fun x=>aI .i64 (pF x.1.1 x.1.2)) (fun x=>haveI:=x.2.1; haveI:=x.2.2; If (L:=L) (M:=L) zo)),trivial⟩) ?_)))))
  refine rm rfl (ro rfl (dK (Ht rfl) rfl) (ro rfl (dK (Ht rfl) rfl) (ra rfl (ra rfl (eX (cK (eG (ts (rm rfl (ra rfl (eX (dQ (Ht rfl) (fun hc=>?_) (fun hc=>?_)))))))))))))
  ·have hc2 : k < f.length ∧ gv f k = x := of_decide_eq_true hc
   have he:=Nt (l:=l) hxb hk hc2
   refine ts (ro rfl (eZ mS (Ht rfl) rfl) (ro rfl (eY A_98 Z_98 (Ht rfl) (i:=0) rfl rfl) (rm rfl (ro rfl (dZ U_98 Z_80 (Ht rfl) (Ht rfl) rfl (dY (dU (d:=jB) zo))) (ro rfl (dJ A_80 Z_80 (Ht rfl)) (gX Z_80 (Ht rfl) (Ht rfl) rfl (i:=2) rfl (aK rfl) rfl rfl (ro rfl (cQ (cJ 0)) (eX (bE rfl (fX (fU A_80 Z_80 rfl (i:=2) rfl rfl) ?_) (fX (eU rfl) ?_))))))))))
   ·exact (fun v V h=>by rw [he]; exact h)
   ·exact (aN (by rw [he]; rfl))
  ·have hc2 : ¬ (k < f.length ∧ gv f k = x) := of_decide_eq_false hc
   refine ts (rm rfl (ro rfl (cD (Ht rfl) (cJ 0)) (rm rfl (fQ rfl rfl (eK rfl rfl (Ht rfl) (fun h=>cX (Ht rfl))) (fQ rfl rfl (eK rfl rfl (Ht rfl) (fun h=>eZ iN (Ht rfl) rfl)) (fQ rfl rfl (eK rfl rfl (Ht rfl) (fun h=>eY A_54 Z_54 (fJ rfl h) (i:=0) rfl rfl)) (fQ rfl rfl (eK rfl rfl (Ht rfl) (fun h=>dG U_54 (fJ rfl h) aA)) (fQ rfl rfl (eK rfl rfl (Ht rfl) (fun h=>cD (fJ rfl h) (fJ rfl h))) (ro rfl (iF (Ht rfl) (fun h=>(fJ rfl h))) (ra rfl (eX ?_)))))))))))
   refine dQ (Ht rfl) (fun hd=>?_) (fun hd=>?_)
   ·have hd2 : k = 0 ∨ k = f.length := by have h := hd; simp only [Bool.or_eq_true, decide_eq_true_eq] at h; exact h
    have he:=Nu (l:=l) hxb hk hc2 hd2
    refine ts (ro rfl (aD.imp (lW ) lE) (gX Z_80 (Ht rfl) (Ht rfl) rfl (i:=2) rfl (aK rfl) rfl rfl (ro rfl (cQ (cJ 5)) (eX (bE rfl (fX (fU A_80 Z_80 rfl (i:=2) rfl rfl) ?_) (fX (eU rfl) ?_))))))
    ·exact (fun v V h=>by rw [he]; exact h)
    ·exact (aN (by rw [he]; rfl))
   ·have hd2 : ¬ (k = 0 ∨ k = f.length) := by have h := hd; simp only [Bool.or_eq_false_iff, decide_eq_false_iff_not] at h; omega
    have he:=Sv (l:=l) hxb hk hc2 hd2
    have hkl:k ≤ f.length:=by rw [← hk]; exact List.findIdx_le_length
    have hk1:k < f.length:=by omega
    haveI:=hx
    haveI f1:=hf.ff.get hL1 k
    haveI f2:=hf.ff.get hL1 (k - 1)
    have gR : aP (Fq f x k) (2 * L + 1 + 3 * (2 * L + 1) + 2) := by
     have h:aP (Fq f x k) (L + L + 1 + 3 * (L + L + 1) + 2):=by unfold Fq; infer_instance
     exact h.le zo
    have hz1:nz l k = nz l (k - 1):=(ok.zs k hk1).trans (ok.zs (k - 1) zo).symm
    have s1:=hf.sh (k - 1)
    have s2:=hf.sh k
    rw [hz1] at s2
    have h8:=hf.h8 (k - 1)
    refine cU (T_blk (cK (Y.D_start (m:=26) [] (bY (Ei:=[(3,_)]) rfl rfl (bQ (bJ rfl rfl) bX) rfl rfl (dX rfl (eJ A_32 Z_32 (Ht rfl) (i:=1) rfl rfl rfl)) (bY (Ei:=[(2,_)]) rfl rfl (bQ (bJ rfl rfl) bX) rfl rfl (dX rfl (eZ iN (Ht rfl) rfl)) (bY (Ei:=[(46,_)]) rfl rfl (bQ (bZ 1 rfl rfl) bX) rfl rfl (dX rfl (eY A_54 Z_54 (Ht rfl) (i:=0) rfl rfl)) (bY (Ei:=[(6,_)]) rfl rfl (bQ (bJ rfl rfl) bX) rfl rfl (dX rfl (cX (Ht rfl))) ?_)))))))
    refine bY (Ei:=[(48,_)]) rfl rfl (bQ (bZ 3 rfl rfl) bX) rfl rfl (dX rfl (dW (Ht rfl) (cJ 1) zo z6)) (bY (Ei:=[(47,_),(49,_)]) rfl rfl (bQ (bZ 2 rfl rfl) (bQ (bZ 4 rfl rfl) bX)) rfl rfl (dX rfl (dZ U_54 Z_32 (Ht rfl) (Ht rfl) rfl (dY (dU (d:=Qi.zero) zo)))) (bY (Ei:=[(50,_)]) rfl rfl (bQ (bZ 5 rfl rfl) bX) rfl rfl (dX rfl (dJ A_32 Z_32 (Ht rfl))) ?_))
    refine bY (Ei:=[(45,_),(51,_)]) rfl rfl (bQ (bZ 0 rfl rfl) (bQ (bZ 6 rfl rfl) bX)) rfl rfl (dX rfl (cZ K_32 (wP (x:=x) (y:=gv f (k - 1)) (L:=L) (M:=L) zo) ⟨(Ht rfl),(Ht rfl),trivial⟩)) (bY (Ei:=[(2,_)]) rfl rfl (bQ (bJ rfl rfl) bX) rfl rfl (dX rfl (eZ iN (Ht rfl) rfl)) (bY (Ei:=[(53,_)]) rfl rfl (bQ (bZ 8 rfl rfl) bX) rfl rfl (dX rfl (eY A_54 Z_54 (Ht rfl) (i:=0) rfl rfl)) (bY (Ei:=[(6,_)]) rfl rfl (bQ (bJ rfl rfl) bX) rfl rfl (dX rfl (cX (Ht rfl))) ?_)))
    refine bY (Ei:=[(54,_),(55,_)]) rfl rfl (bQ (bZ 9 rfl rfl) (bQ (bZ 10 rfl rfl) bX)) rfl rfl (dX rfl (dZ U_54 Z_32 (Ht rfl) (Ht rfl) rfl (dY (dU (d:=Qi.zero) hk1)))) (bY (Ei:=[(56,_)]) rfl rfl (bQ (bZ 11 rfl rfl) bX) rfl rfl (dX rfl (dJ A_32 Z_32 (Ht rfl))) (bY (Ei:=[(2,_)]) rfl rfl (bQ (bJ rfl rfl) bX) rfl rfl (dX rfl (eZ iN (Ht rfl) rfl)) (bY (Ei:=[(58,_)]) rfl rfl (bQ (bZ 13 rfl rfl) bX) rfl rfl (dX rfl (eY A_54 Z_54 (Ht rfl) (i:=0) rfl rfl)) ?_)))
    refine bY (Ei:=[(6,_)]) rfl rfl (bQ (bJ rfl rfl) bX) rfl rfl (dX rfl (cX (Ht rfl))) (bY (Ei:=[(60,_)]) rfl rfl (bQ (bZ 15 rfl rfl) bX) rfl rfl (dX rfl (dW (Ht rfl) (cJ 1) zo z6)) (bY (Ei:=[(59,_),(61,_)]) rfl rfl (bQ (bZ 14 rfl rfl) (bQ (bZ 16 rfl rfl) bX)) rfl rfl (dX rfl (dZ U_54 Z_32 (Ht rfl) (Ht rfl) rfl (dY (dU (d:=Qi.zero) zo)))) ?_))
    refine bY (Ei:=[(62,_)]) rfl rfl (bQ (bZ 17 rfl rfl) bX) rfl rfl (dX rfl (dJ A_32 Z_32 (Ht rfl))) (bY (Ei:=[(57,_),(63,_)]) rfl rfl (bQ (bZ 12 rfl rfl) (bQ (bZ 18 rfl rfl) bX)) rfl rfl (dX rfl (cZ K_32 (wP (x:=gv f k) (y:=gv f (k - 1)) (L:=L) (M:=L) zo) ⟨(Ht rfl),(Ht rfl),trivial⟩)) (bY (Ei:=[(52,_),(64,_)]) rfl rfl (bQ (bZ 7 rfl rfl) (bQ (bZ 19 rfl rfl) bX)) rfl rfl (dX rfl (cZ Tryz.call142 (Ig (x:=x - gv f (k - 1)) (y:=gv f k - gv f (k - 1)) (L:=L + L + 1) (M:=L + L + 1) zo) ⟨(Ht rfl),(Ht rfl),trivial⟩)) ?_))
    refine bY (Ei:=[(65,_)]) rfl rfl (bQ (bZ 20 rfl rfl) bX) rfl rfl (dX rfl (cX (Ht rfl))) (bY (Ei:=[(44,_)]) rfl rfl (bQ (bZ 21 rfl rfl) bX) rfl rfl (dX rfl (dK (Ht rfl) rfl)) (bY (Ei:=[(44,_)]) rfl rfl (bQ (bZ 21 rfl rfl) bX) rfl rfl (dX rfl (dK (Ht rfl) rfl)) (Y.D_newp (Ei:=[]) (fun bb=>box bb 32 [aC (decide ((Fq f x k).a < 0)),aM (Fq f x k).a.natAbs,aC (decide ((Fq f x k).b < 0)),aM (Fq f x k).b.natAbs,aM (du (Fq f x k))]) 25 rfl rfl rfl bX rfl rfl (by kernel_rfl) (eW (Ts:=[Is (.bool false),Is (.slice none 0 0),Is (.bool false),Is (.slice none 0 0),Is (.slice none 0 0)]) O_32 rfl (fun V=>aW zd (aW zd (aW zd (aW zd (aW zd (aG))))))) ?_)))
    refine Y.D_putN (Ei:=[(66,_)]) 24 rfl rfl rfl rfl rfl rfl (bQ (bZ 22 rfl rfl) bX) (fun bb=>rR Z_32 (Ht rfl) (Ht rfl) rfl (i:=0) rfl (aK rfl) rfl rfl) (Y.D_done bB rfl (by kernel_rfl) rfl (by simp [Y.okP]) rfl rfl (bU (bU (bU (bU (bU (bU (bU (bU (bU (bU (bU (bU (bU (bU (bU (bU (bU (bU (bU (bU (bU (bU (bU (bU (Y.F_newp (fun B8=>Y.F_putN (Y.F_nil ?_))))))))))))))))))))))))))))
    refine ra rfl (eX (cK (Y.D_start (m:=14) [] (bY (Ei:=[(2,_)]) rfl rfl (bQ (bJ rfl rfl) bX) rfl rfl (dX rfl (eZ mS (Ht rfl) rfl)) (bY (Ei:=[(68,_)]) rfl rfl (bQ (bZ 0 rfl rfl) bX) rfl rfl (dX rfl (eY A_98 Z_98 (Ht rfl) (i:=0) rfl rfl)) (bY (Ei:=[(6,_)]) rfl rfl (bQ (bJ rfl rfl) bX) rfl rfl (dX rfl (cX (Ht rfl))) (bY (Ei:=[(70,_)]) rfl rfl (bQ (bZ 2 rfl rfl) bX) rfl rfl (dX rfl (dW (Ht rfl) (cJ 1) zo z6)) ?_)))))))
    refine bY (Ei:=[(69,_),(71,_)]) rfl rfl (bQ (bZ 1 rfl rfl) (bQ (bZ 3 rfl rfl) bX)) rfl rfl (dX rfl (dZ U_98 Z_80 (Ht rfl) (Ht rfl) rfl (dY (dU (d:=jB) zo)))) (bY (Ei:=[(72,_)]) rfl rfl (bQ (bZ 4 rfl rfl) bX) rfl rfl (dX rfl (dJ A_80 Z_80 (Ht rfl))) (bY (Ei:=[(2,_)]) rfl rfl (bQ (bJ rfl rfl) bX) rfl rfl (dX rfl (eZ mS (Ht rfl) rfl)) (bY (Ei:=[(74,_)]) rfl rfl (bQ (bZ 6 rfl rfl) bX) rfl rfl (dX rfl (eY A_98 Z_98 (Ht rfl) (i:=0) rfl rfl)) ?_)))
    refine bY (Ei:=[(6,_)]) rfl rfl (bQ (bJ rfl rfl) bX) rfl rfl (dX rfl (cX (Ht rfl))) (bY (Ei:=[(75,_),(76,_)]) rfl rfl (bQ (bZ 7 rfl rfl) (bQ (bZ 8 rfl rfl) bX)) rfl rfl (dX rfl (dZ U_98 Z_80 (Ht rfl) (Ht rfl) rfl (dY (dU (d:=jB) zo)))) (bY (Ei:=[(77,_)]) rfl rfl (bQ (bZ 9 rfl rfl) bX) rfl rfl (dX rfl (dJ A_80 Z_80 (Ht rfl))) (Y.D_newp (Ei:=[]) (fun bb=>box bb 80 [bP (nz l (k - 1)),fC (ns l (k - 1))]) 13 rfl rfl rfl bX rfl rfl (by kernel_rfl) (eW (Ts:=[Is (.slice none 0 0),Is (.slice none 0 0)]) O_80 rfl (fun V=>aW zd (aW zd (aG)))) ?_)))
    refine Y.D_new (Ei:=[]) rfl rfl rfl bX rfl rfl (eW (Ts:=[Is (.slice none 0 0),Is (.slice none 0 0)]) O_80 rfl (fun V=>aW zd (aW zd (aG)))) (Y.D_putN (Ei:=[(73,_)]) 11 rfl rfl rfl rfl rfl rfl (bQ (bZ 5 rfl rfl) bX) (fun bb=>rR Z_80 (Ht rfl) (Ht rfl) rfl (i:=0) rfl (aK rfl) rfl rfl) (Y.D_done bB rfl (by kernel_rfl) rfl (by simp [Y.okP]) rfl rfl (bU (bU (bU (bU (bU (bU (bU (bU (bU (bU (bU (Y.F_newp (fun B10=>Y.F_new (fun B11=>Y.F_putN (Y.F_nil ?_)))))))))))))))))
    refine gX Z_80 (Ht rfl) (Ht rfl) rfl (i:=5) rfl (aK rfl) rfl rfl (eX (ts (rn rfl (eW (Ts:=[Is (.bool false),Is (.slice none 0 0),Is (.bool false),Is (.slice none 0 0),Is (.slice none 0 0)]) O_32 rfl (fun V=>aW zd (aW zd (aW zd (aW zd (aW zd (aG))))))) fun B12=>(eX (cK (oZ 6 rfl Ns (cY (ro rfl (eJ A_32 Z_32 (Ht rfl) (i:=6) rfl rfl rfl) (ro rfl (dI fA (Ht rfl)) ?_)))))))))
    refine ro rfl (eJ A_32 Z_32 (Ht rfl) (i:=3) rfl rfl rfl) (ro rfl (cM oL Tryz.call318 a1M (Ht rfl) ⟨(Ht rfl),trivial⟩) (rn rfl (eW (Ts:=[Is (.bool false),Is (.slice none 0 0),Is (.bool false),Is (.slice none 0 0),Is (.slice none 0 0)]) O_32 rfl (fun V=>aW zd (aW zd (aW zd (aW zd (aW zd (aG))))))) fun B13=>(gX Z_32 (Ht rfl) (Ht rfl) rfl (i:=7) rfl (aK rfl) rfl rfl (eX (cK ?_)))))
    refine gV (i:=4) (tt:=10) rfl rfl nI (gV (i:=5) (tt:=11) rfl rfl nI (gV (i:=7) (tt:=13) rfl rfl nI ?_))
    obtain ⟨n,hn⟩:∃ n,n = (nz l (k - 1)).length:=⟨_,rfl⟩
    have hn2:n = (nz l (k - 1)).length:=hn
    rw [← hn] at s1 s2
    have hmix:a06 l k (Fq f x k) = (nz l (k - 1),(tab n fun i=>tab n fun j=>gm (ns l (k - 1)) i j + Fq f x k * (gm (ns l k) i j - gm (ns l (k - 1)) i j))):=by rw [hn]; rfl
    rw [hmix] at he
    refine cY (ro rfl (qP (γ:=Fin n × Fin n) (Ts:=fun q=>[NT .i64 q.1.1,NT .i64 q.2.1]) (U:=fun q=>aL (gm (ns l (k - 1)) q.1.1 q.2.1 + Fq f x k * (gm (ns l k) q.1.1 q.2.1 - gm (ns l (k - 1)) q.1.1 q.2.1))) Tryz.call143 (fun q=>Yw (z:=nz l (k - 1)) (y:=nz l k) (S:=ns l (k - 1)) (U:=ns l k) (r:=Fq f x k) (n:=n) (i:=q.1.1) (j:=q.2.1) (L:=L) (M:=2 * L + 1 + 3 * (2 * L + 1) + 2) s1 s2 q.1.2 q.2.2 (hf.fs _) (hf.fs _) gR hL1 zo zo) ⟨(Ht rfl),(Ht rfl),(Ht rfl),trivial⟩) ?_)
    refine ra rfl (eX (cK (fZ (m:=7) (dp 10 rfl (iJ iH (Ht rfl) rfl) (dq 84 0 rfl (dJ A_54 Z_54 (Ht rfl)) (dp 10 rfl (iJ iH (Ht rfl) rfl) (dq 86 2 rfl (dJ A_54 Z_54 (Ht rfl)) (dq 87 3 rfl (aD.nat (dG U_54 (Ht rfl) aA) hn.symm) (dp 14 rfl (cX (Ht rfl)) (eE 88 4 89 5 rfl (cZ Tryz.call144 (Ga (n:=n) (f:=fun i j=>gm (ns l (k - 1)) i j + Fq f x k * (gm (ns l k) i j - gm (ns l (k - 1)) i j)) zo) ⟨(Ht rfl),(Ht rfl),trivial⟩) (fV bB rfl (by kernel_rfl) (zF (aJ (aJ (aJ (aV ?_))))))))))))))))
    refine ro rfl (sD (Ht rfl) (Ht rfl)) (gX Z_80 (Ht rfl) (Ht rfl) rfl (i:=2) rfl (aK rfl) rfl rfl (ro rfl (cQ (cJ 0)) (eX (bE rfl (fX (fU A_80 Z_80 rfl (i:=2) rfl rfl) ?_) (fX (eU rfl) ?_)))))
    ·exact (fun v V h=>by rw [he]; exact h)
    ·exact (aN (by rw [he]; rfl))
end
section
open Go Go.RowKit
def My (K:Act → World → Prop):cO:=fun e a w=>e = .normal ∧ K a w
theorem My.out {K:Act → World → Prop}:¬ LetsOut (My K):=fun ⟨_,_,h⟩=>by cases h.1
def mB (l:List Oper):Bool:=l.all fun o=>match o.op with | .defer _=>false | _=>true
theorem mB.of {l : List Oper} (h : mB l = true) : ∀ o, o ∈ l → ∀ c, o.op ≠ .defer c := fun o ho c e => by
 have:=List.all_eq_true.1 h o ho
 simp [e] at this
namespace I
abbrev FW (ro:Option Nat):Fence:={ Fence.wide with round:=ro }
section
variable {P:Program} {ro:Option Nat} {m:Nat}
theorem Ok {f:FuncId} {args:Array Value} {w:World} {R:Ending → World → Prop} (h:Calls P f args w R):CallsIn (FW ro) m P f args w R:=callsIn_wide.2 h
theorem Vz {row : String} {args : Array Value} {w : World} {R : Value → World → Prop} (h : Rows P row args w R) : RowsIn (FW ro) m P row args w R :=
 fun c cs _=>let ⟨v,w',r,s⟩:=h c cs; ⟨v,w',r,stepsIn_wide.2 s⟩
theorem op_in {o:Oper} {a:Act} {w:World} {K:Act → World → Prop} {Q:cO} (hnd:∀ c,o.op ≠ .defer c) (h:o.wp P a w K Q):o.wpIn (FW ro) m P a w K Q:=by
 refine ⟨fun _ _=>trivial,?_⟩
 rw [show o.semAt (FW ro).round a.eval = execOp a.eval o from Oper.semAt_eq _ _ _ hnd]
 unfold Oper.wp at h
 generalize (execOp a.eval o).run P w = r at *
 cases r with
 | ok x w' =>
  cases x with
  | enter f args=>exact ⟨fun h0=>by simp [Fence.wide] at h0,(Ok h).mono fun e w'' he=>by cases e <;> exact he⟩
  | row f args=>exact ⟨fun h0=>by simp [Fence.wide] at h0,Vz h⟩
  | round l f tmps assign body=>exact False.elim h
  | _=>exact h
 | halt x w'=>cases x <;> exact h
theorem list_in {ops : Array Oper} {Q : cO} (hQ : ¬ LetsOut Q) : ∀ {l : List Oper}, (∀ o, o ∈ l → ∀ c, o.op ≠ .defer c) → ∀ a w, wpList P ops Q l a w → wpListIn (FW ro) m P ops Q l a w
 | [],_,_,_,h=>h
 | o :: l, hnd, a, w, h => by
  unfold wpList at h
  unfold wpListIn
  split
  ·rename_i hw
   rw [if_pos hw] at h
   rcases h with h | h
   ·exact Oper.wpIn_mono (fun a w=>list_in hQ (fun o ho=>hnd o (List.mem_cons_of_mem _ ho)) a w) (op_in (hnd o (List.mem_cons_self ..)) h)
   ·exact absurd h.2 hQ
  ·rename_i hw
   rw [if_neg hw] at h
   exact ⟨fun _ _=>trivial,list_in hQ (fun o ho=>hnd o (List.mem_cons_of_mem _ ho)) _ _ h⟩
theorem Ac {md : Region.Mode} {ops : List Oper} {Q : cO} (hQ : ¬ LetsOut Q) (hnd : ∀ o, o ∈ ops → ∀ c, o.op ≠ .defer c) : ∀ (fuel : Nat) (listed : Array Bool) (a : Act) (w : World),
  wpAny P md ops.toArray Q fuel listed a w → wpAnyIn (FW ro) m P md ops.toArray Q fuel listed a w
 | 0,_,_,_,h=>h
 | fuel + 1, listed, a, w, h => by
  refine ⟨h.1,fun i hi=>?_⟩
  have h2:=h.2 i hi
  unfold wpOp at h2
  unfold wpOpIn
  cases ho:ops.toArray[i]? with
  | none=>simp only [ho] at h2 ⊢; exact Ac hQ hnd fuel _ _ _ h2
  | some o =>
   simp only [ho] at h2 ⊢
   have hm : o ∈ ops := by
    have:ops[i]? = some o:=by simpa using ho
    exact List.mem_of_getElem? this
   split
   ·rename_i hw
    rw [if_pos hw] at h2
    rcases h2 with h2 | h2
    ·exact Oper.wpIn_mono (fun a w=>Ac hQ hnd fuel _ a w) (op_in (hnd o hm) h2)
    ·exact absurd h2.2 hQ
   ·rename_i hw
    rw [if_neg hw] at h2
    exact ⟨fun _ _=>trivial,Ac hQ hnd fuel _ _ _ h2⟩
def den (ro : Option Nat) (m : Nat) (P : Program) (R : cO) : List It → cO
 | []=>R
 | .code c :: k=>Exit.then (fun a w=>c.wpIn (FW ro) m P (den ro m P R k) a w) (den ro m P R k)
 | .blk id :: k=>Exit.inBlock id (den ro m P R k)
 | .lp J :: k=>Exit.then J (den ro m P R k)
def Tr (ro : Option Nat) (m : Nat) (P : Program) (R : cO) (cx : Cx) (n : Nat) (k : List It) (E : bD) (H : Hp) : Prop :=
 ∀ a w,St cx n E H a w → den ro m P R k .normal a w
end
section
variable {P:Program} {ro:Option Nat} {m:Nat} {R:cO} {cx:Cx} {n:Nat} {k:List It} {E:bD} {H:Hp}
theorem T_seq {x y:Code} (h:Tr ro m P R cx n (.code x :: .code y :: k) E H):Tr ro m P R cx n (.code (.seq x y) :: k) E H:=fun a w hs=>wpIn_seq (h a w hs)
theorem T_block {id:Nat} {c:Code} (h:Tr ro m P R cx n (.code c :: .blk id :: k) E H):Tr ro m P R cx n (.code (.block id c) :: k) E H:=fun a w hs=>wpIn_block (h a w hs)
theorem T_blk {id:Nat} (h:Tr ro m P R cx n k E H):Tr ro m P R cx n (.blk id :: k) E H:=fun a w hs=>h a w hs
theorem T_skip (h:Tr ro m P R cx n k E H):Tr ro m P R cx n (.code .skip :: k) E H:=fun a w hs=>wpIn_skip (h a w hs)
theorem T_end (h:∀ a w,St cx n E H a w → R .normal a w):Tr ro m P R cx n [] E H:=h
theorem rT {E':bD} (hE:Sub E E') (h:Tr ro m P R cx n k E' H):Tr ro m P R cx n k E H:=fun a w ⟨V,hi,hs⟩=>h a w ⟨V,hi,hs.sub hE⟩
theorem den_exit {id : Nat} {a : Act} {w : World} : ∀ (k k' : List It), lU id k = some k' → den ro m P R k' .normal a w → den ro m P R k (.exit id) a w
 | [],_,h,_=>by cases h
 | .code c :: k,k',h,hd=>den_exit k k' h hd
 | .lp J :: k,k',h,hd=>den_exit k k' h hd
 | .blk i :: k, k', h, hd => by
  simp only [den,Exit.inBlock]
  by_cases e:i = id
  ·subst e; simp only [lU, Nat.beq_refl, cond_true, Option.some.injEq] at h
   subst h; rw [if_pos rfl]; exact hd
  ·rw [if_neg (fun x => e x.symm)]
   have hb:Nat.beq i id = false:=Ad e
   simp only [lU,hb,cond_false] at h
   exact den_exit k k' h hd
theorem vG {id : Nat} {a : Act} {w : World} : ∀ (k : List It), lU id k = none → R (.exit id) a w → den ro m P R k (.exit id) a w
 | [],_,h=>h
 | .code _ :: k,h,hr=>vG k h hr
 | .lp _ :: k,h,hr=>vG k h hr
 | .blk i :: k, h, hr => by
  simp only [den,Exit.inBlock]
  by_cases e:i = id
  ·subst e; simp [lU] at h
  ·rw [if_neg (fun x => e x.symm)]
   have hb:Nat.beq i id = false:=Ad e
   simp only [lU,hb,cond_false] at h
   exact vG k h hr
theorem den_ret {a : Act} {w : World} : ∀ (k : List It), R .ret a w → den ro m P R k .ret a w
 | [],h=>h
 | .code _ :: k,h=>den_ret k h
 | .lp _ :: k,h=>den_ret k h
 | .blk _ :: k,h=>den_ret k h
theorem Nh {id:Nat} {k':List It} (hk:lU id k = some k') (h:Tr ro m P R cx n k' E H):Tr ro m P R cx n (.code (.exit id) :: k) E H:=fun a w hs=>wpIn_exit (den_exit k k' hk (h a w hs))
theorem T_out {id:Nat} (hk:lU id k = none) (h:∀ a w,St cx n E H a w → R (.exit id) a w):Tr ro m P R cx n (.code (.exit id) :: k) E H:=fun a w hs=>wpIn_exit (vG k hk (h a w hs))
theorem T_ret (h:∀ a w,St cx n E H a w → R .ret a w):Tr ro m P R cx n (.code .ret :: k) E H:=fun a w hs=>wpIn_ret (den_ret k (h a w hs))
theorem T_cond {c : Operand} {x y : Code} {b : Bool} (hc : aB E c (aC b)) (ht : b = true → Tr ro m P R cx n (.code x :: k) E H) (hf : b = false → Tr ro m P R cx n (.code y :: k) E H) : Tr ro m P R cx n (.code (.cond c x y) :: k) E H :=
 fun a w hs => by
  obtain ⟨V,hi,hl⟩:=hs
  exact wpIn_cond_split (hc n V a hl) (fun e=>ht e a w ⟨V,hi,hl⟩) (fun e=>hf e a w ⟨V,hi,hl⟩)
theorem T_region {id : Nat} {l : List Oper} (hnd : mB l = true) (h : Rg P (My (den ro m P R k .normal)) cx n l.toArray l [] E H) : Tr ro m P R cx n (.code (.region id l.toArray false) :: k) E H := fun a w hs =>
 wpIn_mono (wpIn_region_lit (list_in My.out (mB.of hnd) a w (h a w hs))) fun e a w hx=>by obtain ⟨rfl,hx⟩:=hx; exact hx
theorem T_draw {id q : Nat} {l : List Oper} (hnd : mB l = true) (h : Dr P (My (den ro m P R k .normal)) cx n l q [] E H l []) : Tr ro m P R cx n (.code (.region id l.toArray true) :: k) E H := fun a w hs =>
 wpIn_mono (wpIn_region_any (h (by simp) trivial).1 (Ac My.out (mB.of hnd) _ _ a _ ((h (by simp) trivial).2 a w hs))) fun e a w hx=>by obtain ⟨rfl,hx⟩:=hx; exact hx
theorem R_on (h:Tr ro m P R cx n k E H):Go.Proofs.YthcmlodgnfekeaaGreat.Tr P (My (den ro m P R k .normal)) cx n [] E H:=fun a w hs=>⟨rfl,h a w hs⟩
end
end I
end
section
open Go Go.RowKit
def KpV (V:aE) (W W':World):Prop:=∀ b o,V b = some o → W.heap[b]? = some o → W'.heap[b]? = some o
def Ng (N:Nat) (xs:List (Fin N)):Prop:=xs.map Fin.val = List.range N
def Nf (N:Nat) (pre:List (Fin N)):Prop:=∃ k,k ≤ N ∧ pre.map Fin.val = List.range k
def Ko (P:Program) (N:Nat) (T1 T2:Nat → Ty):Ty where
 p v V := ∃ (gf : FuncId) (lb : Array Value) (xs ys : Nat → Value), v = .func (.func gf) #[] lb ∧ (∀ args w, (callFunc gf args).run P w = .ok (.enter gf args) w) ∧
  (∀ i,i < N → (T1 i).p (xs i) V ∧ (T2 i).p (ys i) V) ∧
  ∀ V' w,jR V V' → (∀ b o,V' b = some o → w.heap[b]? = some o) → SeqStopsK Fence.wide 1 P gf lb (fun i:Fin N=>#[xs i.val,ys i.val]) (KpV V') (Ng N) (Nf N) N w
 mono h k := by
  obtain ⟨gf,lb,xs,ys,h1,h2,h3,h4⟩:=h
  exact ⟨gf,lb,xs,ys,h1,h2,fun i hi=>⟨(T1 i).mono (h3 i hi).1 k,(T2 i).mono (h3 i hi).2 k⟩,fun V' w hle=>h4 V' w (k.trans hle)⟩
instance shSeq (P:Program) (N:Nat) (T1 T2:Nat → Ty):bT (Ko P N T1 T2) 1 false:=eN fun v V h=>by obtain ⟨gf,lb,xs,ys,rfl,_⟩:=h; trivial
def bx (bs:List (Nat × TypeId × (Nat → Value))) (j:Nat):Hp:=bs.map fun b=>box b.1 b.2.1 [Is (b.2.2 j)]
theorem Nw {bs:List (Nat × TypeId × (Nat → Value))} {i j:Nat} {A:SA} (h:(bx bs j)[i]? = some A):∃ b,bs[i]? = some b ∧ A = box b.1 b.2.1 [Is (b.2.2 j)]:=by
 unfold bx at h
 rw [List.getElem?_map] at h
 cases hb:bs[i]? with
 | none=>rw [hb] at h; cases h
 | some b=>rw [hb] at h; exact ⟨b,rfl,(Option.some.inj h).symm⟩
theorem a0Y {B:Nat} {BT:TypeId} {x:Value} {S:List Nat} {m V V':aE} (h:(box B BT [Is x]).h S m V):(box B BT [Is x]).h S m V':=by
 obtain ⟨h0,cs,h1,h2,h3⟩:=h
 refine ⟨h0,cs,h1,?_,h3⟩
 match cs,h2 with
 | [c],h2=>exact ⟨h2.1,trivial⟩
 | [],h2=>exact h2.elim
 | _ :: _ :: _,h2=>exact h2.2.elim
theorem Ai {base:Nat} {w:World} {V V':aE} {bs:List (Nat × TypeId × (Nat → Value))} {j:Nat} (h:HH base w V (bx bs j)) (hV:∀ b,b ∈ bs.map (·.1) → V' b = none):HH base w V' (bx bs j):=by
 obtain ⟨F,f1,f2⟩:=h
 refine ⟨F,fun i A hA=>?_,f2⟩
 obtain ⟨k1,k2⟩:=f1 i A hA
 obtain ⟨b,hb,rfl⟩:=Nw hA
 refine ⟨a0Y k1,fun x hx=>?_⟩
 obtain ⟨q1,q2,q3⟩:=k2 x hx
 refine ⟨hV x ?_,q2,q3⟩
 rw [k1.1] at hx
 simp only [List.mem_singleton] at hx
 subst hx
 exact List.mem_map.2 ⟨b,List.mem_of_getElem? hb,rfl⟩
theorem Xj {base : Nat} {w : World} {V : aE} {bs : List (Nat × TypeId × (Nat → Value))} {j : Nat} (h : HH base w V (bx bs j)) : ∀ b, b ∈ bs.map (·.1) → V b = none ∧ base ≤ b ∧ b < w.heap.size ∧ ∃ o : Obj, w.heap[b]? = some o ∧ o.isCells = true := fun x hx => by
 obtain ⟨F,f1,f2⟩:=h
 obtain ⟨b,hb,rfl⟩:=List.mem_map.1 hx
 obtain ⟨i,hi⟩:=List.mem_iff_getElem?.1 hb
 have hA:(bx bs j)[i]? = some (box b.1 b.2.1 [Is (b.2.2 j)]):=by unfold bx; rw [List.getElem?_map,hi]; rfl
 obtain ⟨k1,k2⟩:=f1 i _ hA
 have hS:F i = [b.1]:=k1.1
 obtain ⟨q1,q2,q3⟩:=k2 b.1 (by rw [hS]; simp)
 obtain ⟨_,cs,e1,_⟩:=k1
 exact ⟨q1,q2,q3,_,e1,rfl⟩
theorem Nx {base : Nat} {w w' : World} {row : Option Nat} {V : aE} {bs : List (Nat × TypeId × (Nat → Value))} {j : Nat} (h : HH base w V (bx bs j)) (hg : w.grownBy w' row) (hr : ∀ r, row = some r → ∃ o : Obj, w.heap[r]? = some o ∧ o.isCells = false) :
  HH base w' V (bx bs j):=by
 obtain ⟨F,f1,f2⟩:=h
 refine ⟨F,fun i A hA=>?_,f2⟩
 obtain ⟨k1,k2⟩:=f1 i A hA
 refine ⟨A.loc k1 (fun b hb=>?_),fun x hx=>let ⟨q1,q2,q3⟩:=k2 x hx; ⟨q1,q2,Nat.lt_of_lt_of_le q3 hg.size⟩⟩
 obtain ⟨c,hc,rfl⟩:=Nw hA
 have hS:=k1.1
 obtain ⟨_,cs,e1,_⟩:=k1
 rw [hS] at hb; simp only [List.mem_singleton] at hb; subst hb
 have e1':w.heap[c.1]? = some (.cells cs.toArray c.2.1 (0,0)):=e1
 refine hg.block _ (Array.getElem?_eq_some_iff.1 e1').1 (fun e=>?_)
 obtain ⟨o,ho,hc⟩:=hr _ e.symm
 rw [e1'] at ho; cases ho; cases hc
theorem gO {w w':World} (h:Below w.heap.size w w'):w.grownBy w' none:=⟨h.os,h.tape,h.output,h.size,fun k hk _=>h.block k hk⟩
theorem Inv.grown {cx : Cx} {V : aE} {w w' : World} {row : Option Nat} {bs : List (Nat × TypeId × (Nat → Value))} {j B : Nat} (h : Inv cx V (bx bs j) w) (hg : w.grownBy w' row) (hB : ∀ b o, V b = some o → b < B) (hB0 : cx.w0.heap.size ≤ B)
  (hr:∀ r,row = some r → B ≤ r ∧ ∃ o:Obj,w.heap[r]? = some o ∧ o.isCells = false):Inv cx V (bx bs j) w':=by
 refine ⟨fun b o hb=>?_,h.le,h.new,h.bel.grown hg h.bel.size (fun k e=>Nat.le_trans hB0 (hr k e).1),Nx h.hp hg fun r e=>(hr r e).2⟩
 have ho:=h.on b o hb
 refine (hg.block b (Array.getElem?_eq_some_iff.1 ho).1 (fun e=>?_)).trans ho
 have h1:=(hr b e.symm).1
 have h2:=hB b o hb
 omega
def Fd (V:aE) (B:Nat) (W:World):aE:=fun b=>if b < B then V b else W.heap[b]?
theorem Hi {V : aE} {B : Nat} {W : World} (hB : ∀ b o, V b = some o → b < B) : jR V (Fd V B W) := fun b o h => by
 unfold Fd; rw [if_pos (hB b o h)]; exact h
theorem Wk {N:Nat} {pre:List (Fin N)} {x:Fin N} (h:Nf N (pre ++ [x])):x.val = pre.length:=by
 obtain ⟨k,_,hk⟩:=h
 have hl:=congrArg List.length hk
 simp at hl
 have:=congrArg (fun l=>l[pre.length]?) hk
 simp at this
 have h2:pre.length < k:=by omega
 rw [List.getElem?_range h2] at this
 simpa using this
theorem Wj {N:Nat} {xs:List (Fin N)} (h:Ng N xs):xs.length = N:=by
 have:=congrArg List.length h
 simpa using this
section
variable {P:Program} {R:cO} {cx:Cx} {n:Nat} {k:List It} {E:bD}
def IxC (cx : Cx) (V : aE) (bs : List (Nat × TypeId × (Nat → Value))) (J : Nat → Prop) (Xe : Nat → Nat → Nat → Prop) (N : Nat) (c : Code) (pre : List (Fin N)) (W : World) : Prop :=
 ∃ (pre':List (Fin N)) (x:Fin N),pre = pre' ++ [x] ∧ J pre'.length ∧ pre'.length < N ∧ ((c = .ret ∧ x.val ≠ pre'.length) ∨ ∃ id,c = .exit id ∧ Xe id x.val pre'.length ∧ Inv cx V (bx bs pre'.length) W)
theorem Kn.cons {ds : List Deferred} {V : aE} {D B : Nat} (h : Kn n ds V) (hn : Nat.beq n 206 = true) (hV : ∀ b o, V b = some o → b < B) (hD : B ≤ D) :
  Kn n ({ target:=.collected D,args:=#[] } :: ds) (fun b=>if b = D then some (.deferred (some [])) else V b):=by
 have hne:∀ b o,V b = some o → b ≠ D:=fun b o h e=>by have:=hV b o h; omega
 refine .inr ⟨hn,?_,fun d hd=>?_⟩
 ·rcases h with rfl | ⟨_, h1, h2⟩
  ·simp
  ·refine List.nodup_cons.2 ⟨fun hm => ?_, h1⟩
   obtain ⟨D',e,f⟩:=h2 _ hm
   simp at e
   exact hne _ _ f e.symm
 ·rcases List.mem_cons.1 hd with rfl | hd
  ·exact ⟨D,rfl,by simp⟩
  ·rcases h with rfl | ⟨_, _, h2⟩
   ·simp at hd
   ·obtain ⟨D', e, f⟩ := h2 _ hd
    exact ⟨D',e,by simp [hne _ _ f,f]⟩
theorem St.mark {a : Act} {w W : World} {V : aE} {bs : List (Nat × TypeId × (Nat → Value))} {i j D : Nat} (hn : Nat.beq n 206 = true) (hi : Inv cx V (bx bs i) w) (hs : bR n E V a) (hW : Inv cx V (bx bs j) W) (hD : w.heap.size ≤ D) (hh : W.heap[D]? = some (.deferred (some []))) :
  St cx n E (bx bs j) { a with defers:={ target:=.collected D,args:=#[] } :: a.defers } W:=by
 have hVs:∀ b o,V b = some o → b < w.heap.size:=fun b o h=>(Array.getElem?_eq_some_iff.1 (hi.on b o h)).1
 have hle : jR V (fun b => if b = D then some (.deferred (some [])) else V b) := fun b o h => by
  have:=hVs b o h
  have:b ≠ D:=by omega
  simp [this,h]
 refine ⟨fun b=>if b = D then some (.deferred (some [])) else V b,⟨fun b o hb=>?_,hW.le.trans hle,fun b o hb h0=>?_,hW.bel,Ai hW.hp fun b hb=>?_⟩,hs.1.cons hn hVs hD,hs.2.1,fun t T hl=>?_⟩
 ·by_cases e : b = D
  ·subst e; simp at hb; subst hb; exact hh
  ·simp [e] at hb; exact hW.on b o hb
 ·by_cases e : b = D
  ·subst e; exact Nat.le_trans hi.bel.size hD
  ·simp [e] at hb; exact hW.new b o hb h0
 ·obtain ⟨q1, _, q3, _⟩ := Xj hi.hp b hb
  have:b ≠ D:=by omega
  simp [this,q1]
 ·obtain ⟨v, h1, h2⟩ := hs.2.2 t T hl
  exact ⟨v,h1,T.mono h2 hle⟩
theorem Xd {g : Operand} {ps : Array Tmp} {assign body : Code} {N : Nat} {T1 T2 : Nat → Ty} (bs : List (Nat × TypeId × (Nat → Value))) (J : Nat → Prop) (Xe : Nat → Nat → Nat → Prop) (E2 : Nat → bD) (Bx : (Nat → Value) → (Nat → Value) → Nat → Nat → Act → World → Prop)
  (hn:Nat.beq n 206 = true) (hps:ps.size = 2) (hg:aB E g (Ko P N T1 T2)) (hJ0:J 0)
  (hBx:∀ xs ys B x a' W W' row,Bx xs ys B x a' W → W.grownBy W' row → (∀ r,row = some r → B ≤ r ∧ ∃ o:Obj,W.heap[r]? = some o ∧ o.isCells = false) → Bx xs ys B x a' W')
  (hA : ∀ (xs ys : Nat → Value) (V : aE) (a : Act) (l x B : Nat) (W : World), x < N → (T1 x).p (xs x) V → (T2 x).p (ys x) V → (∀ b o, V b = some o → W.heap[b]? = some o) → B ≤ W.heap.size → bR n E V a →
   assign.wpIn (I.FW (some l)) 0 P (Exit.then (fun a' W'=>Below W.heap.size W W' ∧ bR n E V a' ∧ Bx xs ys B x a' W') (fun _ _ _=>False)) { tmps:=(ps.zip #[xs x,ys x]).foldl (fun t (p,v)=>t.setIfInBounds p v) a.tmps,defers:=[] } W)
  (hE2:∀ xs ys V B x a' W,x < N → (T1 x).p (xs x) V → (T2 x).p (ys x) V → (∀ b o,V b = some o → b < B) → Bx xs ys B x a' W → bR n E V a' → bR n (E2 x) (Fd V B W) a')
  (hB : ∀ (l j x : Nat) (cx' : Cx) (R' : cO), j < N → x < N → J j →
   (J (j + 1) → ∀ a w,St cx' n [] (bx bs (j + 1)) a w → R' .normal a w) →
   (∀ id,Xe id x j → ∀ a w,St cx' n [] (bx bs j) a w → R' (.exit id) a w) →
   (x ≠ j → ∀ a w,St cx' n [] [] a w → R' .ret a w) → I.Tr (some l) 0 P R' cx' n [.code body] (E2 x) (bx bs j))
  (hX:∀ id j,j < N → J j → Xe id j j → ∃ k',lU id k = some k' ∧ Tr P R cx n k' E (bx bs j))
  (hD:J N → Tr P R cx n k E (bx bs N)):Tr P R cx n (.code (.rangeFunc g ps assign body) :: k) E (bx bs 0):=fun a w ⟨V,hi,hs⟩=>by
 have hVs:∀ b o,V b = some o → b < w.heap.size:=fun b o h=>(Array.getElem?_eq_some_iff.1 (hi.on b o h)).1
 obtain ⟨gf,lb,xs,ys,eg,hcall,hty,hseq⟩:=hg n V a hs
 refine (wpIn_wide (n:=2)).1 ?_
 refine wpIn_rangeFunc_ownH (F := Fence.wide) (n := 2) rfl zo eg trivial hcall (encs := fun i : Fin N => #[xs i.val, ys i.val]) (Kp := KpV V) (S := Ng N) (Sp := Nf N) (N := N) (w0 := w)
  (hseq V w (jR.refl V) hi.on) (fun h k b o hV hA=>k b o hV (h b o hV hA)) (fun W l o o' hl hW _ _ b ob hV hA=>?kb) (Below.refl _ _) (fun x=>by simp [hps])
  (fun pre W=>w.heap.size ≤ W.heap.size ∧ J pre.length ∧ Inv cx V (bx bs pre.length) W) (fun c pre W=>IxC cx V bs J Xe N c pre W) ?hI ?hIx ⟨Nat.le_refl _,hJ0,hi⟩ (fun x a' W=>bR n E V a' ∧ Bx xs ys w.heap.size x.val a' W) ?hAx ?assign ?body ?done ?stop
 case kb =>
  have:=hVs b ob hV
  rw [World.putObj_heap_other zo]; exact hA
 case hI=>exact fun s W W' row ⟨h0,h1,h2⟩ hg hr=>⟨Nat.le_trans h0 hg.size,h1,Inv.grown h2 hg hVs hi.bel.size hr⟩
 case hIx =>
  rintro c s W W' row ⟨pre',x,e,h1,h2,h3⟩ hg hr
  refine ⟨pre',x,e,h1,h2,h3.imp id ?_⟩
  rintro ⟨id,e1,e2,e3⟩
  exact ⟨id,e1,e2,Inv.grown e3 hg hVs hi.bel.size hr⟩
 case hAx=>exact fun x a' _ W W' row ⟨h1,h2⟩ hg hr=>⟨h1,hBx _ _ _ _ _ _ _ _ h2 hg hr⟩
 case assign =>
  rintro l pre x W K ⟨hsz,hJ,hW⟩ hK
  refine wpIn_mono (hA xs ys V a l x.val w.heap.size W x.2 (hty x x.2).1 (hty x x.2).2 hW.on hsz hs) ?_
  rintro e a' W' he
  cases e with
  | normal =>
   obtain ⟨hb,hsl,hbx⟩:=he
   exact hK a' W' ⟨hb.size, fun k o _ hk _ => (hb.block k (Array.getElem?_eq_some_iff.1 hk).1).trans hk⟩ (fun b o _ hA => (hb.block b (Array.getElem?_eq_some_iff.1 hA).1).trans hA)
    ⟨Nat.le_trans hsz hb.size,hJ,Inv.grown hW (gO hb) hVs hi.bel.size (fun r e=>by cases e)⟩ ⟨hsl,hbx⟩
  | _=>exact he.elim
 case body =>
  rintro l pre x a' W hl ⟨r,hr⟩ ⟨hsz,hJ,hW⟩ ⟨hsl,hbx⟩ hlen
  have hlW:=(Array.getElem?_eq_some_iff.1 hr).1
  have hup:jR V (Fd V w.heap.size W):=Hi hVs
  have hbs:=Xj hi.hp
  have inv : Inv ⟨cx.w0, Fd V w.heap.size W⟩ (Fd V w.heap.size W) (bx bs pre.length) W := by
   refine ⟨fun b o hb=>?_,jR.refl _,fun b o hb h0=>absurd hb (by rw [show Fd V w.heap.size W b = none from h0]; simp),hW.bel,Ai hW.hp fun b hb=>?_⟩
   ·unfold Fd at hb
    split at hb
    ·exact hW.on b o hb
    ·exact hb
   ·obtain ⟨q1, _, q3, _⟩ := hbs b hb
    unfold Fd; rw [if_pos q3]; exact q1
  have back : ∀ {j a3 W3}, St ⟨cx.w0, Fd V w.heap.size W⟩ n [] (bx bs j) a3 W3 → Inv cx V (bx bs j) W3 := by
   rintro j a3 W3 ⟨V3,i3,_⟩
   exact ⟨fun b o hb=>i3.on b o (i3.le b o (hup b o hb)),hi.le,hi.new,i3.bel,Ai i3.hp fun b hb=>(hbs b hb).1⟩
  have keep : ∀ {H a3 W3}, St ⟨cx.w0, Fd V w.heap.size W⟩ n [] H a3 W3 → KeepsFrom w.heap.size W W3 ∧ KpV V W W3 := by
   rintro H a3 W3 ⟨V3,i3,_⟩
   have on:∀ b o,w.heap.size ≤ b → W.heap[b]? = some o → W3.heap[b]? = some o:=fun b o hb ho=>i3.on b o (i3.le b o (by show Fd V w.heap.size W b = some o; unfold Fd; rw [if_neg zo]; exact ho))
   refine ⟨⟨?_,fun k o hk ho _=>on k o hk ho⟩,fun b o hV ho=>i3.on b o (i3.le b o (hup b o hV))⟩
   have h1:W.heap[W.heap.size - 1]? = some W.heap[W.heap.size - 1]:=Array.getElem?_eq_getElem zo
   have h2:=(Array.getElem?_eq_some_iff.1 (on _ _ zo h1)).1
   omega
  have := hB l pre.length x.val ⟨cx.w0, Fd V w.heap.size W⟩ (ownPostG w.heap.size (KpV V) (fun pre W => w.heap.size ≤ W.heap.size ∧ J pre.length ∧ Inv cx V (bx bs pre.length) W) (fun c pre W => IxC cx V bs J Xe N c pre W) (pre ++ [x]) W) hlen x.2 hJ
   (fun h1 a3 W3 st=>⟨(keep st).1,(keep st).2,Nat.le_trans hsz (keep st).1.size,by simpa using h1,by simpa using back st⟩)
   (fun id he a3 W3 st=>⟨(keep st).1,pre,x,rfl,hJ,hlen,.inr ⟨id,rfl,he,back st⟩⟩)
   (fun hne a3 W3 st=>⟨(keep st).1,pre,x,rfl,hJ,hlen,.inl ⟨rfl,hne⟩⟩) a' W ⟨_,inv,hE2 xs ys V _ _ _ _ x.2 (hty x x.2).1 (hty x x.2).2 hVs hbx hsl⟩
  exact this
 case done =>
  rintro D xs' W hDs hS ⟨_,hJ,hW⟩ hh
  rw [Wj hS] at hJ hW
  exact hD hJ _ W (St.mark hn hi hs hW hDs hh)
 case stop =>
  rintro D c pre W hDs hSp ⟨pre',x,rfl,h1,h2,h3⟩ hh
  have hx:=Wk hSp
  rcases h3 with ⟨_,h4⟩ | ⟨id,rfl,h4,h5⟩
  ·exact absurd hx h4
  ·rw [hx] at h4
   obtain ⟨k',hk,ht⟩:=hX id _ h2 h1 h4
   exact wpIn_exit (den_exit k k' hk (ht _ W (St.mark hn hi hs h5 hDs hh)))
end
end
section
open Go Go.RowKit
def cel (V:aE):aE:=fun b=>match V b with
 | some (.cells c T fr)=>some (.cells c T fr)
 | _=>none
theorem Zk {V : aE} : jR (cel V) V := fun b o h => by
 unfold cel at h; split at h
 ·rename_i h1; rw [h1]; exact h
 ·cases h
theorem Kz {V:aE} {b:Nat} {o:Obj} (h:cel V b = some o):o.isCells = true:=by
 unfold cel at h; split at h
 ·cases h; rfl
 ·cases h
theorem rZ.cel {V:aE} {b o:Nat} {x:Value} (h:rZ V b o x):rZ (cel V) b o x:=by
 obtain ⟨c,T,fr,h1,h2⟩:=h
 exact ⟨c,T,fr,by unfold Go.Proofs.YthcmlodgnfekeaaGreat.cel; rw [h1],h2⟩
class Cl (T:Ty):Prop where
 ok:∀ v V,T.p v V → T.p v (cel V)
instance clIs (v:Value):Cl (Is v):=⟨fun _ _ h=>h⟩
theorem eH.cel {V : aE} : ∀ {Ts : List Ty} {vs : List Value}, (∀ T, T ∈ Ts → Cl T) → eH Ts vs V → eH Ts vs (cel V)
 | [],[],_,h=>h
 | T :: _,_ :: _,hc,h=>⟨(hc T (by simp)).ok _ _ h.1,eH.cel (fun T hT=>hc T (List.mem_cons_of_mem _ hT)) h.2⟩
 | [],_ :: _,_,h=>h.elim
 | _ :: _,[],_,h=>h.elim
theorem Om {Ts : List Ty} (hc : ∀ T, T ∈ Ts → Cl T) : Cl (eB Ts) := ⟨fun v V h => by
 obtain ⟨cs,e,h⟩:=h
 exact ⟨cs,e,eH.cel hc h.all,h.pl⟩⟩
theorem a1g {s : Nat} {Ts : List Ty} (hc : ∀ T, T ∈ Ts → Cl T) : Cl (iE s Ts) := ⟨fun v V h => by
 obtain ⟨a,cap,h1,h2,h3⟩:=h
 refine ⟨a,cap,h1,h2,fun i T hT=>?_⟩
 obtain ⟨b,o,x,e1,e2,e3,e4⟩:=h3 i T hT
 exact ⟨b,o,x,e1,e2.cel,e3,(hc T (List.mem_of_getElem? hT)).ok _ _ e4⟩⟩
def a0S (P : Program) (fn : Func) (cx : Cx) (b : Bool) : cO :=
 bodyPostM Fence.wide 0 P fn fun e w'=>e = .returned (.bool b) ∧ Below cx.w0.heap.size cx.w0 w'
section
variable {P:Program} {cx:Cx} {n:Nat} {k:List It} {E:bD} {H:Hp}
theorem aT.introM {f : FuncId} {fn : Func} {c : Code} {Ts : List Ty} {b : Bool} (hf : P.funcs[f]? = some fn) (hb : fn.body = some c) (hn : fn.ntmps = n) (hl : Nat.ble Ts.length n = true) (hTs : ∀ T, T ∈ Ts → Cl T)
  (h:∀ cx,(∀ x o,cx.V0 x = some o → o.isCells = true) → Tr P (a0S P fn cx b) cx n [.code c] (ent 0 Ts) []):aT P f Ts (aC b):=fun vs V w ho ha=>by
 have hlen:vs.length = Ts.length:=ha.length
 have hle:Ts.length ≤ n:=aK hl
 have ha':=eH.cel hTs ha
 have hinv:Inv ⟨w,cel V⟩ (cel V) [] w:=⟨fun b o h=>ho b o (Zk b o h),jR.refl _,fun b o h1 h2=>(by have h3:cel V b = none:=h2; rw [h1] at h3; cases h3),Below.refl _ _,⟨fun _=>[],fun i A hA=>(by simp at hA),fun i j b hi=>(by simp at hi)⟩⟩
 have hwp := h ⟨w, cel V⟩ (fun _ _ h => Kz h) { tmps := vs.toArray ++ Array.replicate (fn.ntmps - vs.toArray.size) undef, defers := [] } w ⟨cel V, hinv, .inl rfl, by simp [hn]; omega, fun t T hT => by
  obtain ⟨_,h2⟩:=sY Ts 0 t T hT
  obtain ⟨v,h3,h4⟩:=ha'.get (i:=t) (by simpa using h2)
  have ht:t < vs.length:=(List.getElem?_eq_some_iff.1 h3).1
  exact ⟨v,by simp [Array.getElem?_append,ht] at h3 ⊢; exact h3,h4⟩⟩
 have hc:Calls P f vs.toArray w fun e w'=>e = .returned (.bool b) ∧ Below w.heap.size w w':=callsIn_wide.1 (callsIn_of_wp_marks (n:=0) hf hb trivial (wpIn_wide.2 hwp) rfl)
 refine hc.mono ?_
 rintro e w' ⟨rfl,hbel⟩
 exact ⟨_,V,rfl,jR.refl V,fun x o hx=>(hbel.block x (Array.getElem?_eq_some_iff.1 (ho x o hx)).1).trans (ho x o hx),fun x o h1 h2=>(by rw [h1] at h2; cases h2),hbel,rfl⟩
theorem uO {fn : Func} {tmps : Array Value} {w0 : World} {b : Bool} {B : Nat} {c : Obj} (hres : ∀ w : World, w.heap[B]? = some c → (results fn tmps).run P w = .ok (.bool b) w) :
  ∀ (ds : List Deferred) (w : World), ds.Nodup → (∀ d, d ∈ ds → ∃ D, d = { target := .collected D, args := #[] } ∧ w0.heap.size ≤ D ∧ D ≠ B ∧ w.heap[D]? = some (.deferred (some []))) → Below w0.heap.size w0 w → w.heap[B]? = some c →
   LeavesInM Fence.wide 0 P fn tmps (fun e w'=>e = .returned (.bool b) ∧ Below w0.heap.size w0 w') ds .returning w
 | [],w,_,_,hb,hr=>⟨_,hres w hr,rfl,hb⟩
 | d :: ds, w, hnd, hds, hb, hr => by
  obtain ⟨D,rfl,h1,h2,h3⟩:=hds d (by simp)
  refine ⟨by simp,.inl ⟨D,_,rfl,run_takeDeferred h3,?_⟩⟩
  obtain ⟨hn1,hn2⟩:=List.nodup_cons.1 hnd
  refine uO hres ds _ hn2 (fun d' hd'=>?_) (hb.grown (grownBy_putObj' w D _) hb.size (fun k e=>by cases e; exact h1)) ((World.putObj_heap_other (fun e=>h2 e.symm)).trans hr)
  obtain ⟨D',e,q1,q2,q3⟩:=hds d' (List.mem_cons_of_mem _ hd')
  refine ⟨D',e,q1,q2,(World.putObj_heap_other (fun e'=>?_)).trans q3⟩
  subst e'; exact hn1 (e ▸ hd')
theorem Nk {fn : Func} {q : Tmp} {t : TypeId} {i B : Nat} {BT : TypeId} {b : Bool} (hV : ∀ x o, cx.V0 x = some o → o.isCells = true) (hf : fn.results = #[.cell q t]) (hA : ∀ w, (isAgg t).run P w = .ok false w) (hS : ∀ w, (sizeOf t).run P w = .ok 1 w)
  (h:cL E q = some (cH B 0)) (hH:H[i]? = some (box B BT [aC b])):Tr P (a0S P fn cx b) cx n (.code .ret :: k) E H :=
 T_ret fun a w ⟨V, hi, hs⟩ => by
  obtain ⟨v,h1,h2⟩:=hs.2.2 q _ h
  obtain rfl:v = .pointer (some ⟨B,0,none⟩):=h2
  obtain ⟨S,k1,cs,e2,e3⟩:=(show HH cx.w0.heap.size w V (H ++ []) by simpa using hi.hp).get hH
  have e2':w.heap[B]? = some (.cells cs.toArray BT (0,0)):=e2
  obtain ⟨x,q1,q2⟩:=e3.get (i:=0) rfl
  obtain rfl:x = .bool b:=q2
  have hrun : ∀ w' : World, w'.heap[B]? = some (.cells cs.toArray BT (0, 0)) → (results fn a.tmps).run P w' = .ok (.bool b) w' := fun w' hw => by
   have := eD (P := P) (w := w') (b := B) (o := 0) hA hS (x := .bool b) ⟨by simp [Value.cells], fun x => by simp at x, fun _ => trivial⟩ (fun j u hu => by
    rw [dC hw]
    cases j with
    | zero=>simp [Value.cells] at hu; subst hu; simpa using q1
    | succ j=>simp [Value.cells] at hu)
   rw [kE,hf]; simp [Eo,h1,asAddr,this,Result.andThen]
  refine uO (B:=B) hrun a.defers w ?_ ?_ hi.bel e2'
  ·rcases hs.1 with e | ⟨_, hn, _⟩
   ·rw [e]; simp
   ·exact hn
  ·intro d hd
   rcases hs.1 with e | ⟨_,_,hm⟩
   ·rw [e] at hd; simp at hd
   ·obtain ⟨D, e, hD⟩ := hm d hd
    have hDw:=hi.on _ _ hD
    refine ⟨D,e,hi.new D _ hD ?_,fun e'=>?_,hDw⟩
    ·cases h0 : cx.V0 D with
     | none=>rfl
     | some o =>
      have h3:=hi.le _ _ h0
      rw [hD] at h3
      have h4:=hV _ _ h0
      rw [← Option.some.inj h3] at h4
      cases h4
    ·subst e'; rw [e2'] at hDw; cases hDw
end
end
section
open Go Go.RowKit
section
variable {P:Program} {R:cO} {cx:Cx} {n:Nat} {k:List It} {E:bD}
variable {ty1 ty2:TypeId} {pos1 pos2:String} {af1 af2:Array Edge}
theorem Np {s p id sz : Nat} {t : TypeId} {z : Value} {zs : List Value} (hz : ∀ w, (zeroValue t).run P w = .ok z w) (hzs : z.cells = zs.toArray) (hzl : zs.length = sz) (hS : ∀ w, (sizeOf t).run P w = .ok sz w) {ro : Option Nat} {m : Nat} {a : Act} {W : World} {cs : List Value}
  (hps:s ≠ p) (hs:s < a.tmps.size) (hp:a.tmps[p]? = some (.agg cs.toArray)) (hpl:∀ v,v ∈ cs → gE v) (hl:cs.length = sz) {K:Act → World → Prop} {Q:cO}
  (hK:∀ W',Below W.heap.size W W' → W'.heap[W.heap.size]? = some (.cells cs.toArray t (0,0)) → K (a.put (some s) (.pointer (some ⟨W.heap.size,0,none⟩))) W') :
  (Code.region id #[⟨some s,.alloc t,ty1,pos1,af1,none⟩,⟨none,.store t (.tmp s) (.tmp p),ty2,pos2,af2,none⟩] false).wpIn (I.FW ro) m P (Exit.then K Q) a W:=by
 have hb0:(W.alloc (.cells z.cells t)).heap[W.heap.size]? = some (.cells zs.toArray t (0,0)):=by rw [hzs]; exact World.alloc_heap_new W _
 obtain ⟨w',q1,⟨c',q2,q2'⟩,q3,q4,q5,q6,q7⟩:=kF (P:=P) cs 0 0 (W.alloc (.cells z.cells t)) zs.toArray hb0 (by simp [hl,hzl]) hpl
 have hc' : c' = cs.toArray := by
  apply Array.ext'
  rw [q2']; simp [hl,hzl]
 subst hc'
 refine wpIn_mono (wpIn_region_lit (Q:=My K) (l:=[⟨some s,.alloc t,ty1,pos1,af1,none⟩,⟨none,.store t (.tmp s) (.tmp p),ty2,pos2,af2,none⟩]) (I.list_in My.out (mB.of rfl) a W ?_)) fun e a w hx=>by obtain ⟨rfl,hx⟩:=hx; exact hx
 have e1 : (execOp a.eval ⟨some s, .alloc t, ty1, pos1, af1, none⟩).run P W = .ok (.value (.pointer (some ⟨W.heap.size, 0, none⟩))) (W.alloc (.cells z.cells t)) := by
  simp [execOp,Instr.alloc,Sem.run_bind,hz,Result.andThen,newVar,newRow,newObj,Sem.run]
 unfold wpList
 rw [if_pos (by simp [Region.wanted])]
 left
 simp only [Oper.wp,e1,Oper.upon_value]
 unfold wpList
 rw [if_pos (by simp [Region.wanted])]
 left
 have e2 : (execOp (a.put (some s) (.pointer (some ⟨W.heap.size, 0, none⟩))).eval ⟨none, .store t (.tmp s) (.tmp p), ty2, pos2, af2, none⟩).run P (W.alloc (.cells z.cells t)) = .ok .skip w' := by
  refine kM (ad:=⟨W.heap.size,0,none⟩) (v:=.agg cs.toArray) ?_ ?_ ?_
  ·simp [Act.eval,Act.put,hs]
  ·have := jG a s p (.pointer (some ⟨W.heap.size, 0, none⟩)) hps
   simp only [Act.eval,Array.getD_eq_getD_getElem?,this,hp]; rfl
  ·unfold storeVar
   rw [Sem.run_bind,hS]
   simp [Result.andThen,dN,hl,q1]
 simp only [Oper.wp,e2,Oper.upon_skip]
 refine ⟨rfl,hK w' ⟨q5,q6,q7,by rw [q4]; simp,fun b hb=>?_⟩ q2⟩
 rw [q3 b zo]
 exact Below.heap_alloc W _ b hb
theorem a0U {g : Operand} {p1 p2 s1 s2 i1 i2 z1 z2 : Nat} {t1 t2 u1 u2 u3 u4 : TypeId} {o1 o2 o3 o4 : String} {f1 f2 f3 f4 : Array Edge} {body : Code} {N : Nat} {T1 T2 : Nat → Ty} {zv1 zv2 : Value} {zs1 zs2 : List Value}
  (bs:List (Nat × TypeId × (Nat → Value))) (J:Nat → Prop) (Xe:Nat → Nat → Nat → Prop)
  (hz1:∀ w,(zeroValue t1).run P w = .ok zv1 w) (hzs1:zv1.cells = zs1.toArray) (hzl1:zs1.length = z1) (hS1:∀ w,(sizeOf t1).run P w = .ok z1 w)
  (hz2:∀ w,(zeroValue t2).run P w = .ok zv2 w) (hzs2:zv2.cells = zs2.toArray) (hzl2:zs2.length = z2) (hS2:∀ w,(sizeOf t2).run P w = .ok z2 w)
  (hT1:∀ i v V,(T1 i).p v V → ∃ cs:List Value,v = .agg cs.toArray ∧ (∀ u,u ∈ cs → gE u) ∧ cs.length = z1) (hT2:∀ i v V,(T2 i).p v V → ∃ cs:List Value,v = .agg cs.toArray ∧ (∀ u,u ∈ cs → gE u) ∧ cs.length = z2)
  (hn:Nat.beq n 206 = true) (hlt:p1 < n ∧ p2 < n ∧ s1 < n ∧ s2 < n) (hne:p1 ≠ p2 ∧ s1 ≠ s2 ∧ s1 ≠ p1 ∧ s1 ≠ p2 ∧ s2 ≠ p1 ∧ s2 ≠ p2) (hlk:cL E p1 = none ∧ cL E p2 = none ∧ cL E s1 = none ∧ cL E s2 = none)
  (hg:aB E g (Ko P N T1 T2)) (hJ0:J 0)
  (hB : ∀ (l j x : Nat) (cx' : Cx) (R' : cO), j < N → x < N → J j →
   (J (j + 1) → ∀ a w,St cx' n [] (bx bs (j + 1)) a w → R' .normal a w) →
   (∀ id,Xe id x j → ∀ a w,St cx' n [] (bx bs j) a w → R' (.exit id) a w) →
   (x ≠ j → ∀ a w,St cx' n [] [] a w → R' .ret a w) → I.Tr (some l) 0 P R' cx' n [.code body] ((s2,PT (T2 x)) :: (s1,PT (T1 x)) :: E) (bx bs j))
  (hX:∀ id j,j < N → J j → Xe id j j → ∃ k',lU id k = some k' ∧ Tr P R cx n k' E (bx bs j))
  (hD:J N → Tr P R cx n k E (bx bs N)) :
  Tr P R cx n (.code (.rangeFunc g #[p1, p2] (.seq (.region i1 #[⟨some s1, .alloc t1, u1, o1, f1, none⟩, ⟨none, .store t1 (.tmp s1) (.tmp p1), u2, o2, f2, none⟩] false)
   (.region i2 #[⟨some s2,.alloc t2,u3,o3,f3,none⟩,⟨none,.store t2 (.tmp s2) (.tmp p2),u4,o4,f4,none⟩] false)) body) :: k) E (bx bs 0):=by
 obtain ⟨hp1,hp2,hs1,hs2⟩:=hlt
 obtain ⟨n12,m12,a11,a12,a21,a22⟩:=hne
 obtain ⟨l1,l2,l3,l4⟩:=hlk
 refine Xd bs J Xe (fun x => (s2, PT (T2 x)) :: (s1, PT (T1 x)) :: E)
  (fun xs ys B x a' W=>∃ B1 B2,B ≤ B1 ∧ B ≤ B2 ∧ W.heap[B1]? = some (.cells (xs x).cells t1 (0,0)) ∧ W.heap[B2]? = some (.cells (ys x).cells t2 (0,0)) ∧ a'.tmps[s1]? = some (.pointer (some ⟨B1,0,none⟩)) ∧ a'.tmps[s2]? = some (.pointer (some ⟨B2,0,none⟩)))
  hn rfl hg hJ0 ?_ ?_ ?_ hB hX hD
 ·rintro xs ys B x a' W W' row ⟨B1, B2, h1, h2, h3, h4, h5, h6⟩ hw hr
  have key : ∀ {b : Nat} {c : Array Value} {t : TypeId}, W.heap[b]? = some (.cells c t (0, 0)) → W'.heap[b]? = some (.cells c t (0, 0)) := fun {b c t} hb => by
   refine (hw.block b (Array.getElem?_eq_some_iff.1 hb).1 (fun e=>?_)).trans hb
   obtain ⟨_,o,ho,hc⟩:=hr b e.symm
   rw [hb] at ho; cases ho; cases hc
  exact ⟨B1,B2,h1,h2,key h3,key h4,h5,h6⟩
 ·intro xs ys V a l x B W hx hy1 hy2 hon hB0 hs
  obtain ⟨cs,ec,hcp,hcl⟩:=hT1 x _ _ hy1
  obtain ⟨ds,ed,hdp,hdl⟩:=hT2 x _ _ hy2
  have e0:(((#[p1,p2]:Array Tmp).zip #[xs x,ys x]).foldl (fun t (p,v)=>t.setIfInBounds p v) a.tmps) = (a.tmps.setIfInBounds p1 (xs x)).setIfInBounds p2 (ys x):=by simp
  rw [e0,ec,ed]
  have hsz:((a.tmps.setIfInBounds p1 (.agg cs.toArray)).setIfInBounds p2 (.agg ds.toArray)).size = n:=by simp [hs.2.1]
  refine wpIn_seq (Np hz1 hzs1 hzl1 hS1 a11 (by rw [hsz]; exact hs1) ?_ hcp hcl fun W1 b1 h1=>?_)
  ·rw [Array.getElem?_setIfInBounds_ne (Ne.symm n12)]; simp [hs.2.1,hp1]
  refine Np hz2 hzs2 hzl2 hS2 a22 (by simp [Act.put,hs.2.1,hs2]) ?_ hdp hdl fun W2 b2 h2=>?_
  ·rw [jG _ _ _ _ a12]; simp [hs.2.1,hp2]
  have h12:W.heap.size < W1.heap.size:=(Array.getElem?_eq_some_iff.1 h1).1
  refine ⟨b1.trans (b2.mono zo),⟨.inl rfl,by simp [Act.put,hs.2.1],fun t T ht=>?_⟩,W.heap.size,W1.heap.size,hB0,by omega,?_,?_,?_,?_⟩
  ·obtain ⟨v, v1, v2⟩ := hs.2.2 t T ht
   refine ⟨v,?_,v2⟩
   have c1:p1 ≠ t:=fun e=>by subst e; rw [l1] at ht; cases ht
   have c2:p2 ≠ t:=fun e=>by subst e; rw [l2] at ht; cases ht
   have c3:s1 ≠ t:=fun e=>by subst e; rw [l3] at ht; cases ht
   have c4:s2 ≠ t:=fun e=>by subst e; rw [l4] at ht; cases ht
   rw [jG _ _ _ _ c4,jG _ _ _ _ c3]
   show ((a.tmps.setIfInBounds p1 _).setIfInBounds p2 _)[t]? = _
   rw [Array.getElem?_setIfInBounds_ne c2,Array.getElem?_setIfInBounds_ne c1]; exact v1
  ·exact (b2.block _ h12).trans h1
  ·exact h2
  ·rw [jG _ _ _ _ (Ne.symm m12)]; simp [Act.put,hs.2.1,hs1]
  ·simp [Act.put,hs.2.1,hs2]
 ·rintro xs ys V B x a' W hx hy1 hy2 hV ⟨B1, B2, h1, h2, h3, h4, h5, h6⟩ hs
  have hle:=Hi (W:=W) hV
  have lies : ∀ {b : Nat} {v : Value} {t : TypeId}, B ≤ b → W.heap[b]? = some (.cells v.cells t (0, 0)) → rZ (Fd V B W) b 0 v := fun {b v t} hb hh =>
   ⟨_,_,_,by show Fd V B W b = _; unfold Fd; rw [if_neg zo]; exact hh,fun j u hu=>by simpa using hu⟩
  refine ⟨hs.1.mono hle,hs.2.1,fun t T ht=>?_⟩
  rw [bA] at ht
  split at ht
  ·rename_i e; subst e; obtain rfl := Option.some.inj ht
   exact ⟨_,h6,B2,0,_,rfl,lies h2 h4,(T2 x).mono hy2 hle⟩
  ·rw [bA] at ht
   split at ht
   ·rename_i e; subst e; obtain rfl := Option.some.inj ht
    exact ⟨_,h5,B1,0,_,rfl,lies h1 h3,(T1 x).mono hy1 hle⟩
   ·obtain ⟨v, v1, v2⟩ := hs.2.2 t T ht
    exact ⟨v,v1,T.mono v2 hle⟩
theorem a0T {g : Operand} {p1 p2 : Nat} {body : Code} {N : Nat} {T1 T2 : Nat → Ty} (bs : List (Nat × TypeId × (Nat → Value)))
  (hn:Nat.beq n 206 = true) (hlk:cL E p1 = none ∧ cL E p2 = none) (hg:aB E g (Ko P N T1 T2))
  (hB:∀ (l j:Nat) (cx':Cx) (R':cO),j < N → (∀ a w,St cx' n [] (bx bs (j + 1)) a w → R' .normal a w) → I.Tr (some l) 0 P R' cx' n [.code body] E (bx bs j))
  (hD:Tr P R cx n k E (bx bs N)) :
  Tr P R cx n (.code (.rangeFunc g #[p1,p2] .skip body) :: k) E (bx bs 0):=by
 obtain ⟨l1,l2⟩:=hlk
 refine Xd bs (fun _=>True) (fun _ _ _=>False) (fun _=>E) (fun _ _ _ _ _ _=>True) hn rfl hg trivial (fun _ _ _ _ _ _ _ _ _ _ _=>trivial) ?_ ?_ (fun l j x cx' R' hj _ _ h1 _ _=>hB l j cx' R' hj (h1 trivial)) (fun _ _ _ _ h=>h.elim) (fun _=>hD)
 ·intro xs ys V a l x B W hx hy1 hy2 hon hB0 hs
  refine wpIn_skip ⟨Below.refl _ _,⟨.inl rfl,by simp [hs.2.1],fun t T ht=>?_⟩,trivial⟩
  obtain ⟨v,v1,v2⟩:=hs.2.2 t T ht
  refine ⟨v,?_,v2⟩
  have c1:p1 ≠ t:=fun e=>by subst e; rw [l1] at ht; cases ht
  have c2:p2 ≠ t:=fun e=>by subst e; rw [l2] at ht; cases ht
  have e0:(((#[p1,p2]:Array Tmp).zip #[xs x,ys x]).foldl (fun t (p,v)=>t.setIfInBounds p v) a.tmps) = (a.tmps.setIfInBounds p1 (xs x)).setIfInBounds p2 (ys x):=by simp
  rw [e0,Array.getElem?_setIfInBounds_ne c2,Array.getElem?_setIfInBounds_ne c1]; exact v1
 ·intro xs ys V B x a' W hx hy1 hy2 hV _ hs
  exact hs.mono (Hi hV)
end
end
section
open Go Go.RowKit
namespace I
section
variable {P:Program} {R:cO} {cx:Cx} {n:Nat} {k:List It} {E:bD} {H:Hp} {ro:Option Nat} {dp:Nat}
def DrI (ro : Option Nat) (dp : Nat) (P : Program) (Q : cO) (cx : Cx) (n : Nat) (ops : List Oper) (m : Nat) (E0 : bD) (H : Hp) (l : List Oper) (acc : List (Nat × Ob)) : Prop :=
 ops = (ops.take acc.length) ++ l → iR P n ops m E0 H acc → P.follows .mixedOrders = true ∧ ∀ a w, St cx n E0 H a w →
  wpAnyIn (FW ro) dp P .any ops.toArray Q ops.toArray.size (Array.replicate ops.toArray.size false) a { w with drawn:=w.drawn + 1 }
theorem D_start {ops:List Oper} {m:Nat} {id:Nat} (h:DrI ro dp P (den ro dp P R k) cx n ops m E H ops []):Tr ro dp P R cx n (.code (.region id ops.toArray true) :: k) E H:=fun a w hs=>wpIn_region_any (h (by simp) trivial).1 ((h (by simp) trivial).2 a w hs)
theorem D_step {ops l : List Oper} {Q : cO} {m : Nat} {o : Oper} {acc : List (Nat × Ob)} {d : Nat} {T : Ty} {Ei : bD} (hd : o.dst = some d) (hn : Nat.blt d n = true) (hs : Srcs ops m E acc o Ei) (hst : fD P n ops.toArray Ei H o T)
  (h:DrI ro dp P Q cx n ops m E H l ((d,.val T) :: acc)):DrI ro dp P Q cx n ops m E H (o :: l) acc:=fun hops hobs=>by
 have hlen : acc.length ≤ ops.length := by
  have:=congrArg List.length hops
  simp at this; omega
 have ho : ops[acc.length]? = some o := by
  rw [hops,List.getElem?_append_right (by simp; omega)]
  simp [Nat.min_eq_left hlen]
 have hlt:acc.length < ops.length:=(List.getElem?_eq_some_iff.1 ho).1
 refine h ?_ ⟨⟨o,ho,hd,Nat.le_of_ble_eq_true hn,Ei,hs,hst⟩,hobs⟩
 rw [List.length_cons,List.take_succ_eq_append_getElem hlt]
 have:ops[acc.length] = o:=by simpa [hlt] using ho
 rw [this]
 simpa using hops
theorem Hx {ops : List Oper} {Q : cO} {m : Nat} (hd : yG ops m) :
  ∀ (fuel q:Nat) (listed:Array Bool) (a:Act) (w:World),m ≤ q → q ≤ ops.length → ops.length - q ≤ fuel → LI ops listed → (∀ i,i < ops.length → listed[i]? = some (decide (i < q))) → wpListIn (FW ro) dp P ops.toArray Q (ops.drop q) a w → wpAnyIn (FW ro) dp P .any ops.toArray Q fuel listed a w
 | 0, q, listed, a, w, hmq, hq, hf, hL, hl, h => by
  have e:q = ops.length:=by omega
  subst e
  refine ⟨?_,by simpa [wpListIn] using h⟩
  refine List.eq_nil_iff_forall_not_mem.2 fun i hi=>?_
  obtain ⟨o,h1,h2,_⟩:=iS hi hL.sz
  have hlt:=(List.getElem?_eq_some_iff.1 h1).1
  rw [hl i hlt] at h2; simp [hlt] at h2
 | fuel + 1, q, listed, a, w, hmq, hq, hf, hL, hl, h => by
  refine ⟨fun hr=>?_,fun i hi=>?_⟩
  ·have hall := kL hr hL.sz hd.back
   by_cases e:q = ops.length
   ·subst e; simpa [wpListIn] using h
   ·have h1 := hall q zo
    rw [hl q zo] at h1; simp at h1
  ·obtain ⟨o, h1, h2, h3⟩ := iS hi hL.sz
   have hlt:=(List.getElem?_eq_some_iff.1 h1).1
   have hge : q ≤ i := by
    rw [hl i hlt] at h2; simpa using h2
   have hiq : i = q := by
    rcases Nat.lt_or_ge q i with hx | hx
    ·have := hL.before hd h1 h3 zo q hx
     rw [hl q zo] at this; simp at this
    ·omega
   subst hiq
   have hdrop : ops.drop i = o :: ops.drop (i + 1) := by
    rw [List.drop_eq_getElem_cons hlt]
    have:ops[i] = o:=by simpa [hlt] using h1
    rw [this]
   rw [hdrop] at h
   have ih : ∀ a w, wpListIn (FW ro) dp P ops.toArray Q (ops.drop (i + 1)) a w → wpAnyIn (FW ro) dp P .any ops.toArray Q fuel (listed.setIfInBounds i true) a w := fun a w hh =>
    Hx hd fuel (i + 1) _ a w zo zo zo (hL.set h1 h3) (fun j hj => by
     by_cases e:i = j
     ·subst e; simp [hL.sz,hlt]
     ·rw [Array.getElem?_setIfInBounds_ne e, hl j hj]
      congr 1
      simp; omega) hh
   unfold wpOpIn
   simp only [List.getElem?_toArray,h1]
   unfold wpListIn at h
   split
   ·rename_i hw
    rw [if_pos hw] at h
    exact Oper.wpIn_mono ih h
   ·rename_i hw
    rw [if_neg hw] at h
    exact ⟨h.1,ih _ _ h.2⟩
theorem Sl {ops : List Oper} {Q : cO} {m : Nat} {acc : List (Nat × Ob)} {E0 : bD} (hd : yG ops m) (hlen : acc.length = m) (hobs : iR P n ops m E0 H acc) (hnd : ∀ o, o ∈ ops → ∀ c, o.op ≠ .defer c) (hfin : Fin' P (My fun a w => wpListIn (FW ro) dp P ops.toArray Q (ops.drop m) a w) cx n ops.toArray [] [] acc.reverse E0 H) :
  ∀ (fuel : Nat) (listed : Array Bool) (a : Act) (w : World) (V : aE) (C : Nat → Ty × SA), LI ops listed → fN listed.toList ≤ fuel → (∀ i : Nat, m ≤ i → i < ops.length → listed[i]? = some false) →
   (∀ (i d:Nat) (b:Ob),acc.reverse[i]? = some (d,b) → listed[i]? = some true → eM b (C i)) → oA cx n ops m E0 H (fun i=>listed[i]? == some true) C V a w → wpAnyIn (FW ro) dp P .any ops.toArray Q fuel listed a w:=by
 intro fuel
 have done : ∀ (listed : Array Bool) (a : Act) (w : World) (V : aE) (C : Nat → Ty × SA), LI ops listed → ∀ fuel, fN listed.toList ≤ fuel → (∀ i : Nat, m ≤ i → i < ops.length → listed[i]? = some false) →
   (∀ (i d:Nat) (b:Ob),acc.reverse[i]? = some (d,b) → listed[i]? = some true → eM b (C i)) → oA cx n ops m E0 H (fun i=>listed[i]? == some true) C V a w → (∀ i:Nat,i < m → listed[i]? = some true) → wpAnyIn (FW ro) dp P .any ops.toArray Q fuel listed a w:=by
  intro listed a w V C hL fuel hc hl hC hM hall
  have hge:=qH listed.toList m (by simpa [hL.sz] using hd.le) (fun i h1 h2=>by simpa using hl i h1 (by simpa [hL.sz] using h2))
  refine Hx hd fuel m listed a w (Nat.le_refl m) hd.le (by simp [hL.sz] at hge; omega) hL (fun i hi=>?_) ?_
  ·by_cases e : i < m
   ·rw [hall i e]; simp [e]
   ·rw [hl i zo hi]; simp; omega
  ·refine (lD (l := []) (k := []) hlen hobs hfin (fun i hi => by rw [hall i hi]; rfl) (fun i d b hb => hC i d b hb (hall i ?_)) hM).2
   have:=(List.getElem?_eq_some_iff.1 hb).1
   simpa [hlen] using this
 induction fuel with
 | zero =>
  intro listed a w V C hL hc hl hC hM
  refine done listed a w V C hL 0 hc hl hC hM (fun i hi=>?_)
  have hil:i < listed.size:=by rw [hL.sz]; have:=hd.le; omega
  cases hb:listed[i] with
  | true=>simp [hil,hb]
  | false =>
   have:=mP listed.toList i (by simp [hil,hb])
   omega
 | succ fuel ih =>
  intro listed a w V C hL hc hl hC hM
  by_cases hall:∀ i:Nat,i < m → listed[i]? = some true
  ·exact done listed a w V C hL _ hc hl hC hM hall
  refine ⟨fun hr=>absurd (fun i hi=>kL hr hL.sz hd.back i (by have:=hd.le; omega)) hall,fun i hi=>?_⟩
  obtain ⟨o,h1,h2,h3⟩:=iS hi hL.sz
  have him : i < m := by
   rcases Nat.lt_or_ge i m with hx | hx
   ·exact hx
   ·exact absurd (fun j hj=>hL.before hd h1 h3 hx j zo) hall
  obtain ⟨d,b,hb⟩:=iR.len hobs i zo
  obtain ⟨o',q1,q2,q3,q4⟩:=hobs.get hb
  rw [h1] at q1; obtain rfl:=Option.some.inj q1
  have hdst:=hobs.dst hb
  have slots : ∀ Ei, Srcs ops m E0 (acc.reverse.take i).reverse o Ei → bR n Ei V a := fun Ei hS => by
   refine ⟨hM.df,hM.sz,fun t T hT=>?_⟩
   rcases hS t T hT with ⟨r1,r2⟩ | ⟨j,r1,r2⟩
   ·refine hM.old t T r1 (fun j hj e => ?_)
    have:=List.all_eq_true.1 r2 j (List.mem_range.2 hj)
    simp [e] at this
   ·rw [List.reverse_reverse, List.getElem?_take] at r1
    split at r1
    case isFalse=>cases r1
    case isTrue hji =>
    obtain ⟨e,he,hb'⟩:=List.any_eq_true.1 r2
    simp only [Bool.and_eq_true] at hb'
    have hon:e.on = j:=Nat.eq_of_beq_eq_true hb'.1
    have hlj:=h3 e he hb'.2
    rw [hon] at hlj
    have hc':C j = (T,SA.emp):=hC j t (.val T) r1 hlj
    obtain ⟨v,s1,s2⟩:=hM.now j t zo (by rw [hlj]; rfl) (hobs.dst r1)
    exact ⟨v,s1,by rw [hc'] at s2; exact s2⟩
  have hcnt : fN (listed.setIfInBounds i true).toList ≤ fuel := by
   have:=mQ listed.toList i (by simpa using h2)
   rw [Array.toList_setIfInBounds]; omega
  have hl' : ∀ j : Nat, m ≤ j → j < ops.length → (listed.setIfInBounds i true)[j]? = some false := fun j hj hjl => by
   rw [Array.getElem?_setIfInBounds_ne zo]; exact hl j hj hjl
  have took : ∀ (T : Ty) (A : SA), eM b (T, A) → ∀ (j d : Nat) (b : Ob), acc.reverse[j]? = some (d, b) → (listed.setIfInBounds i true)[j]? = some true → eM b (if j = i then (T, A) else C j) := fun T A ht j d' b' hb' hj => by
   by_cases e:j = i
   ·subst e
    rw [hb] at hb'; simp at hb'
    simp only [if_pos]; exact hb'.2 ▸ ht
   ·rw [Array.getElem?_setIfInBounds_ne (fun x => e x.symm)] at hj
    simp only [if_neg e]; exact hC j d' b' hb' hj
  have hx : ((List.range m).map fun i => if (listed[i]? == some true) = true then (C i).2 else SA.emp).set i SA.emp = (List.range m).map fun i => if (listed[i]? == some true) = true then (C i).2 else SA.emp := by
   rw [jI him]
   apply List.map_congr_left
   intro j _
   by_cases e:j = i
   ·subst e; simp [h2]
   ·simp [e]
  unfold wpOpIn
  simp only [List.getElem?_toArray,h1]
  cases b with
  | val T =>
   obtain ⟨Ei,hS,hst⟩:=q4
   have := hst cx _ a w V hM.inv (slots Ei hS) (wpAnyIn (FW ro) dp P .any ops.toArray Q fuel (listed.setIfInBounds i true)) Q (fun v w' V' hi' hle hv => by
    rw [q2]
    exact ih _ _ _ V' _ (hL.set h1 h3) hcnt hl' (took T SA.emp rfl) (hM.next hd hL.sz him hdst q3 h2 hv hle (by rw [hx]; exact hi')))
   split
   ·rename_i hw; rw [if_pos hw] at this; exact op_in (hnd o (List.mem_of_getElem? h1)) this
   ·rename_i hw; rw [if_neg hw] at this; exact ⟨fun _ _=>trivial,this⟩
  | new γ T A =>
   obtain ⟨hg,Ei,hS,hst⟩:=q4
   rw [if_pos (by simp [Region.wanted,hg])]
   refine op_in (hnd o (List.mem_of_getElem? h1)) (hst cx _ a w V hM.inv (slots Ei hS) _ _ fun x v w' V' e3 hle e2=>?_)
   rw [q2]
   refine ih _ _ _ V' _ (hL.set h1 h3) hcnt hl' (took (T x) (A x) ⟨x,rfl⟩) (hM.next hd hL.sz him hdst q3 h2 e2 hle (e3.hp_of (fun hh=>?_)))
   have:=HH.move (p:=H.length + i) hh (by simp; omega)
   rw [List.set_append_right _ _ zo,show H.length + i - H.length = i by omega] at this
   exact this
theorem D_done {ops l : List Oper} {Q : cO} {m : Nat} {acc : List (Nat × Ob)} (hP : P.follows .mixedOrders = true) (hm : acc.length = m) (hchk : pJ ops m = true) (hnd : mB ops = true) (h : Fin' P (My fun a w => wpListIn (FW ro) dp P ops.toArray Q l a w) cx n ops.toArray [] [] acc.reverse E H) : DrI ro dp P Q cx n ops m E H l acc := fun hops hobs => ⟨hP, fun a w ⟨V, hi, hs⟩ => by
 have hd:=yG.of hchk
 have hl : ops.drop m = l := by
  conv=>lhs; rw [hops]
  rw [List.drop_append,List.drop_of_length_le (by simp; omega)]
  simp [hm,Nat.min_eq_left hd.le]
 have hnone : ∀ i : Nat, (Array.replicate ops.toArray.size false)[i]? ≠ some true := fun i h => by
  rw [Array.getElem?_replicate] at h; split at h <;> simp at h
 refine Sl (cx:=cx) (n:=n) (E0:=E) (H:=H) hd hm hobs (mB.of hnd) (by rw [hl]; exact h) _ _ a _ V (fun _=>(iM,SA.emp)) ⟨by simp,fun i o ho h=>absurd h (hnone i)⟩ ?_ (fun i h1 h2=>by simp [h2]) (fun i d b _ h=>absurd h (hnone i)) ?_
 ·have : ∀ j, fN (List.replicate j false) ≤ j := fun j => by
   induction j with
   | zero=>simp [fN]
   | succ j ih=>simp only [List.replicate_succ,fN]; simp; omega
  simpa using this _
 ·refine ⟨?_, hs.1, hs.2.1, fun t T hT _ => hs.2.2 t T hT, fun j d hj hL => ?_⟩
  ·have e : ((List.range m).map fun i => if ((Array.replicate ops.toArray.size false)[i]? == some true) = true then ((fun _ => (iM, SA.emp)) i : Ty × SA).2 else SA.emp) = (List.range m).map fun _ => SA.emp := by
    apply List.map_congr_left; intro i _; split <;> rfl
   rw [e]
   have:=hi.drew
   refine this.hp_of (fun hh=>?_)
   obtain ⟨F,f1,f2⟩:=hh
   refine ⟨fun i=>if i < H.length then F i else [],fun i A hA=>?_,fun i j b hi hj hbi hbj=>?_⟩
   ·by_cases e : i < H.length
    ·rw [List.getElem?_append_left e] at hA
     simp only [if_pos e]; exact f1 i A hA
    ·rw [List.getElem?_append_right zo] at hA
     have : A = SA.emp := by
      rw [List.getElem?_map] at hA
      cases hq:(List.range m)[i - H.length]? with
      | none=>rw [hq] at hA; cases hA
      | some q=>rw [hq] at hA; simpa using hA.symm
     subst this
     simp only [if_neg e]
     exact ⟨rfl,fun b hb=>by simp at hb⟩
   ·by_cases e : i < H.length <;> by_cases e' : j < H.length
    ·simp only [if_pos e,if_pos e'] at hbi hbj; exact f2 i j b e e' hbi hbj
    ·simp [e'] at hbj
    ·simp [e] at hbi
    ·simp [e] at hbi
  ·exact absurd (by simpa using hL) (hnone j)⟩
end
end I
end
section
open Go Go.RowKit
def Xa (x:Value) (T:Ty):Ty where
 p v V:=v = x ∧ T.p x V
 mono h k:=⟨h.1,T.mono h.2 k⟩
instance shEx (x:Value) (T:Ty) (s:Nat) (g:Bool) [h:bT T s g]:bT (Xa x T) s g:=⟨fun v V k=>by obtain ⟨rfl,k⟩:=k; exact h.ok _ _ k⟩
theorem a1n {x:Value} {T:Ty}:∀ v V,(Xa x T).p v V → T.p v V:=fun v V h=>by obtain ⟨rfl,h⟩:=h; exact h
theorem zT {α : Type} {F : α → Ty} {l : List α} (d : α) {s : Nat} {v : Value} {V : aE} (h : (iE s (l.map F)).p v V) :
  ∃ xs:Nat → Value,(iE s ((List.range l.length).map fun i=>Xa (xs i) (F (l.getD i d)))).p v V ∧ ∀ i,i < l.length → (F (l.getD i d)).p (xs i) V:=by
 obtain ⟨a,cap,h1,h2,h3⟩:=h
 have key : ∀ i, ∃ x, i < l.length → ∃ b o, a = some ⟨b, o, none⟩ ∧ rZ V b (o + i * s) x ∧ x.cells.size = s ∧ (F (l.getD i d)).p x V := fun i => by
  by_cases hi:i < l.length
  ·obtain ⟨b, o, x, e1, e2, e3, e4⟩ := h3 i (F (l.getD i d)) (by rw [List.getElem?_map, List.getElem?_eq_getElem hi]; simp [List.getD, hi])
   exact ⟨x,fun _=>⟨b,o,e1,e2,e3,e4⟩⟩
  ·exact ⟨undef,fun h=>absurd h hi⟩
 obtain ⟨xs,hxs⟩:=Classical.skolem.1 key
 refine ⟨xs,⟨a,cap,by simpa using h1,by simpa using h2,fun i T hT=>?_⟩,fun i hi=>let ⟨_,_,_,_,_,h⟩:=hxs i hi; h⟩
 have hi : i < l.length := by
  have:=(List.getElem?_eq_some_iff.1 hT).1
  simpa using this
 rw [List.getElem?_map,List.getElem?_range hi] at hT
 obtain rfl:=Option.some.inj hT
 obtain ⟨b,o,e1,e2,e3,e4⟩:=hxs i hi
 exact ⟨b,o,xs i,e1,e2,e3,rfl,e4⟩
theorem aB.ex {E:bD} {x:Operand} {v:Value} {T:Ty} (h:aB E x (Xa v T)):aB E x T:=fun n V a hs=>a1n _ _ (h n V a hs)
def tC (N j:Nat):List (Fin N):=(List.finRange N).take j
theorem Qp {N j:Nat} (h:j ≤ N):(tC N j).length = j:=by simp [tC,h]
theorem zM {N j:Nat} (h:j < N):tC N (j + 1) = tC N j ++ [⟨j,h⟩]:=by
 unfold tC
 rw [List.take_succ_eq_append_getElem (by simpa using h)]
 simp
theorem Ee {N j:Nat} (h:j ≤ N):(tC N j).map Fin.val = List.range j:=by
 induction j with
 | zero=>simp [tC]
 | succ j ih=>rw [zM (show j < N by omega),List.map_append,ih zo,List.range_succ]; rfl
theorem a0o {N j:Nat} (h:j ≤ N):Nf N (tC N j):=⟨j,h,Ee h⟩
theorem a0p {N:Nat}:Ng N (tC N N):=Ee (Nat.le_refl N)
namespace I
section
variable {P:Program} {R:cO} {cx:Cx} {n:Nat} {k:List It} {E:bD} {H:Hp} {m:Nat} {V:aE}
theorem Inv.start {w : World} (h : ∀ b o, V b = some o → w.heap[b]? = some o) : Inv ⟨w, V⟩ V [] w :=
 ⟨h,jR.refl V,fun b o h1 h2=>(by have h3:V b = none:=h2; rw [h1] at h3; cases h3),Below.refl _ _,⟨fun _=>[],fun i A hA=>(by simp at hA),fun i j b hi=>(by simp at hi)⟩⟩
theorem calls_intro {f : FuncId} {fn : Func} {c : Code} {args : Array Value} {w : World} {R : Ending → World → Prop} (hf : P.funcs[f]? = some fn) (hb : fn.body = some c) (hn : fn.ntmps = n) (hl : args.size ≤ n)
  (hon:∀ b o,V b = some o → w.heap[b]? = some o) (hs:∀ t T,cL E t = some T → ∃ v,args[t]? = some v ∧ T.p v V)
  (h:Tr none m P (bodyPost P fn R) ⟨w,V⟩ n [.code c] E []):CallsIn Fence.wide m P f args w R :=
 callsIn_of_wp hf hb trivial (h _ w ⟨V, Inv.start hon, .inl rfl, by simp [hn]; omega, fun t T hT => by
  obtain ⟨v,h1,h2⟩:=hs t T hT
  have ht:t < args.size:=(Array.getElem?_eq_some_iff.1 h1).1
  exact ⟨v,by simp [Array.getElem?_append,ht] at h1 ⊢; exact h1,h2⟩⟩) rfl
def Cv (q:Nat) (a:Act):Nat:=match a.tmps[q]? with
 | some (.int _ i)=>i.toNat
 | _=>0
theorem T_loopR {c : Code} {N q : Nat} (Es : Nat → bD) (JJ : Nat → World → Prop) (hst : ∀ j W W', JJ j W → Below W.heap.size W W' → JJ j W')
  (hq:∀ j,cL (Es j) q = some (NT .i64 j)) (hcx:cx.V0 = V) (hJ0:JJ 0 cx.w0) (hE:∀ V1 a,bR n E V1 a → bR n (Es 0) V a)
  (hround : ∀ j w (R' : cO), j ≤ N → (∀ b o, V b = some o → w.heap[b]? = some o) → JJ j w →
   (∀ a' w',(∀ b o,V b = some o → w'.heap[b]? = some o) → bR n (Es (j + 1)) V a' → j + 1 ≤ N → JJ (j + 1) w' → R' .normal a' w') →
   (∀ e a' w',e ≠ .normal → den none m P R k e a' w' → R' e a' w') → Tr none m P R' ⟨w,V⟩ n [.code c] (Es j) []):Tr none m P R cx n (.code (.loop c) :: k) E []:=fun a w ⟨V1,hi,hs⟩=>by
 have hc : ∀ j a, bR n (Es j) V a → Cv q a = j := fun j a hs => by
  obtain ⟨v,h1,h2⟩:=hs.2.2 q _ (hq j)
  obtain rfl:v = .int .i64 (j:Int):=h2
  simp [Cv,h1]
 refine wpIn_loop (fun a w => ∃ j, j ≤ N ∧ (∀ b o, V b = some o → w.heap[b]? = some o) ∧ bR n (Es j) V a ∧ JJ j w) (fun a _ => N - Cv q a)
  ⟨0,Nat.zero_le _,fun b o hb=>hi.on b o (hi.le b o (hcx ▸ hb)),hE V1 a hs,hst 0 _ _ hJ0 (hi.bel.mono (Nat.le_refl _))⟩ ?_
 rintro a w ⟨j,hj,hon,hs,hJ⟩
 have ha:=hc j a hs
 refine hround j w (Exit.then (fun a' w'=>(∃ j,j ≤ N ∧ (∀ b o,V b = some o → w'.heap[b]? = some o) ∧ bR n (Es j) V a' ∧ JJ j w') ∧ N - Cv q a' < N - Cv q a) (den none m P R k)) hj hon hJ (fun a' w' hon' hs' h hJ'=>⟨⟨j + 1,h,hon',hs',hJ'⟩,?_⟩) (fun e a' w' he hd=>?_) a w ⟨V,Inv.start hon,hs⟩
 ·rw [hc (j + 1) a' hs',ha]; omega
 ·cases e with
  | normal=>exact absurd rfl he
  | _=>exact hd
theorem L_yield {ops : Array Oper} {Q : cO} {d lp : Nat} {t : TypeId} {pos : String} {af : Array Edge} {f : Operand} {xs : Array Operand} {tys : Array TypeId} {rest : List Oper} {a : Act} {w : World} {args : Array Value} {Rr : Ending → World → Prop} (hf : a.eval f = .func (.yield lp) #[] #[]) (hx : xs.map a.eval = args)
  (hY:YieldAt Fence.wide 0 P lp args w Rr) (hK:∀ e w',Rr e w' → ∃ v,e = .returned v ∧ wpListIn (FW none) 1 P ops Q rest (a.put (some d) v) w') :
  wpListIn (FW none) 1 P ops Q (⟨some d,.call ⟨.value f,xs,tys⟩,t,pos,af,none⟩ :: rest) a w:=by
 obtain ⟨fn,tmps,assign,body,hy,hR⟩:=hY
 have hrun : (execOp a.eval ⟨some d, .call ⟨.value f, xs, tys⟩, t, pos, af, none⟩).run P w = .ok (.round lp fn tmps assign body) w := by
  simp [execOp,resolve,hf,hx,Deferred.ofValue,invoke,hy]
 unfold wpListIn
 rw [if_pos (by simp [Region.wanted])]
 refine ⟨fun _ _=>trivial,?_⟩
 rw [show Oper.semAt (FW none).round a.eval ⟨some d,.call ⟨.value f,xs,tys⟩,t,pos,af,none⟩ = execOp a.eval ⟨some d,.call ⟨.value f,xs,tys⟩,t,pos,af,none⟩ from rfl,hrun,Oper.uponIn_round]
 refine ⟨fun h=>by simp [Fence.wide] at h,RoundIn.mono hR fun e w' he=>?_⟩
 obtain ⟨v,rfl,h⟩:=hK e w' he
 exact h
end
end I
end
section
open Go Go.RowKit
abbrev SwX (f:List Qi) (l:List NP) (N:Nat) (xs ys:Nat → Value):Ty:=eB [iE 5 ((List.range N).map fun i=>Xa (xs i) (aL (gv f i))),iE 2 ((List.range N).map fun i=>Xa (ys i) (eL (nz l i) (ns l i)))]
abbrev EsA (lp N:Nat) (pv:Value) (T:Ty) (j:Nat):bD:=[(0,Is (.func (.yield lp) #[] #[])),(1,Xa pv T),(6,NT .i64 N),(7,NT .i64 j)]
theorem Pc {lp N : Nat} {pv : Value} {T : Ty} {V : aE} (hp : T.p pv V) : ∀ j V1 a, bR 24 (EsA lp N pv T j) V1 a → bR 24 (EsA lp N pv T j) V a := fun j V1 a hs => by
 refine ⟨.inl (hs.1.nil rfl),hs.2.1,fun t U hU=>?_⟩
 obtain ⟨v,h1,h2⟩:=hs.2.2 t U hU
 refine ⟨v,h1,?_⟩
 simp only [EsA,bA] at hU
 split at hU
 ·obtain rfl:=Option.some.inj hU; exact h2
 ·split at hU
  ·obtain rfl:=Option.some.inj hU; exact ⟨h2.1,h2.1 ▸ hp⟩
  ·split at hU
   ·obtain rfl:=Option.some.inj hU; exact h2
   ·split at hU
    ·obtain rfl:=Option.some.inj hU; exact h2
    ·cases hU
theorem Nm {f : List Qi} {l : List NP} {N : Nat} {pv : Value} {V : aE} {xs ys : Nat → Value} (hN : N ≤ 1000) (hp : (PT (SwX f l N xs ys)).p pv V) (w : World) (hon : ∀ b o, V b = some o → w.heap[b]? = some o) :
  SeqStopsK Fence.wide 1 Tryz.prog 147 #[pv] (fun i:Fin N=>#[xs i.val,ys i.val]) (KpV V) (Ng N) (Nf N) N w:=by
 intro lp J Jx W hbel hJ hJx hY h0
 have honW:∀ b o,V b = some o → W.heap[b]? = some o:=fun b o h=>(hbel.block b (Array.getElem?_eq_some_iff.1 (hon b o h)).1).trans (hon b o h)
 have hdown:=Pc (lp:=lp) (N:=N) hp
 refine I.calls_intro (V:=V) (n:=24) (E:=[(0,Is (.func (.yield lp) #[] #[])),(1,Xa pv (PT (SwX f l N xs ys)))]) Tryz.func147 rfl Tryz.ntmps147 (by simp) honW (fun t T hT=>?_) ?_
 ·simp only [bA] at hT
  split at hT
  ·rename_i e; subst e; obtain rfl:=Option.some.inj hT; exact ⟨_,rfl,rfl⟩
  ·split at hT
   ·rename_i e; subst e; obtain rfl:=Option.some.inj hT; exact ⟨_,rfl,rfl,hp⟩
   ·cases hT
 refine I.T_seq (I.T_region rfl ?_)
 refine bM rfl rfl rfl (iJ iN (aB.ex (aB.t rfl)) rfl) ?_
 refine bM rfl rfl rfl (dJ A_54 Z_54 (aB.t rfl)) ?_
 refine bM rfl rfl rfl (dG (r:=(N:Int)) U_54 (aB.t rfl) (by simp)) ?_
 refine bM rfl rfl rfl (cX (cJ 0)) ?_
 refine eX (I.R_on ?_)
 refine I.T_block (I.T_loopR (V:=V) (N:=N) (q:=7) (EsA lp N pv (PT (SwX f l N xs ys))) (fun j W'=>J (tC N j) W') ?_ (fun j=>rfl) rfl h0 ?_ ?_)
 ·exact fun j X Y h1 hb=>hJ _ _ _ none h1 (gO hb) (fun r e=>by cases e)
 ·exact fun V1 a hs=>hdown 0 V1 a (hs.sub (zS rfl))
 intro j w1 R' hj hon1 hJ1 hnext hexit
 refine I.T_seq (I.T_region rfl (bM rfl rfl rfl (gZ (aB.t rfl) (aB.t rfl)) (eX (I.R_on ?_))))
 refine I.T_seq (I.T_cond (aB.t rfl) (fun hc=>?_) (fun hc=>?_))
 ·have hjN : j < N := by simpa using hc
  refine I.T_skip (I.T_seq (I.T_block (I.T_seq (I.T_region rfl (bM rfl rfl rfl (cX (aB.t rfl)) (bM rfl rfl rfl (cQ (aB.t rfl)) (eX (I.R_on ?_))))))))
  refine I.T_seq (I.D_start (m:=11) ?_)
  refine I.D_step (Ei:=[(0,_)]) rfl rfl (Srcs.cons (Src.pre rfl rfl) Srcs.nil) (dX rfl (cX (aB.t rfl))) ?_
  refine I.D_step (Ei:=[(1,_)]) rfl rfl (Srcs.cons (Src.pre rfl rfl) Srcs.nil) (dX rfl (iJ iN (aB.ex (aB.t rfl)) rfl)) ?_
  refine I.D_step (Ei:=[(11,_)]) rfl rfl (Srcs.cons (Src.op 1 rfl rfl) Srcs.nil) (dX rfl (dJ A_54 Z_54 (aB.t rfl))) ?_
  refine I.D_step (Ei:=[(3,_)]) rfl rfl (Srcs.cons (Src.pre rfl rfl) Srcs.nil) (dX rfl (cX (aB.t rfl))) ?_
  refine I.D_step (Ei:=[(12,_),(13,_)]) rfl rfl (Srcs.cons (Src.op 2 rfl rfl) (Srcs.cons (Src.op 3 rfl rfl) Srcs.nil)) (dX rfl (dZ U_54 Z_32 (aB.t rfl) (aB.t rfl) rfl (dY (List.getElem?_range hjN)))) ?_
  refine I.D_step (Ei:=[(14,_)]) rfl rfl (Srcs.cons (Src.op 4 rfl rfl) Srcs.nil) (dX rfl (dJ A_32 Z_32 (aB.t rfl))) ?_
  refine I.D_step (Ei:=[(1,_)]) rfl rfl (Srcs.cons (Src.pre rfl rfl) Srcs.nil) (dX rfl (iJ mS (aB.ex (aB.t rfl)) rfl)) ?_
  refine I.D_step (Ei:=[(16,_)]) rfl rfl (Srcs.cons (Src.op 6 rfl rfl) Srcs.nil) (dX rfl (dJ A_98 Z_98 (aB.t rfl))) ?_
  refine I.D_step (Ei:=[(3,_)]) rfl rfl (Srcs.cons (Src.pre rfl rfl) Srcs.nil) (dX rfl (cX (aB.t rfl))) ?_
  refine I.D_step (Ei:=[(17,_),(18,_)]) rfl rfl (Srcs.cons (Src.op 7 rfl rfl) (Srcs.cons (Src.op 8 rfl rfl) Srcs.nil)) (dX rfl (dZ U_98 Z_80 (aB.t rfl) (aB.t rfl) rfl (dY (List.getElem?_range hjN)))) ?_
  refine I.D_step (Ei:=[(19,_)]) rfl rfl (Srcs.cons (Src.op 9 rfl rfl) Srcs.nil) (dX rfl (dJ A_80 Z_80 (aB.t rfl))) ?_
  refine I.D_done bB rfl (by kernel_rfl) rfl (F_val (F_val (F_val (F_val (F_val (F_val (F_val (F_val (F_val (F_val (F_val (F_nil ?_))))))))))))
  rintro a3 w3 ⟨V3,i3,s3⟩
  refine ⟨rfl,?_⟩
  obtain ⟨v10,g10,e10⟩:=s3.2.2 10 _ rfl
  obtain rfl:v10 = .func (.yield lp) #[] #[]:=e10
  obtain ⟨v15,g15,e15,_⟩:=s3.2.2 15 _ rfl
  subst e15
  obtain ⟨v20,g20,e20,_⟩:=s3.2.2 20 _ rfl
  subst e20
  have hon3:∀ b o,V b = some o → w3.heap[b]? = some o:=fun b o h=>i3.on b o (i3.le b o h)
  have hJ3:J (tC N j) w3:=hJ _ _ _ none hJ1 (gO i3.bel) (fun r e=>by cases e)
  have hY':=hY (tC N j) ⟨j,hjN⟩ w3 hJ3 (by rw [Qp hj]; exact hjN)
  rw [← zM hjN] at hY'
  have s4:bR 24 (EsA lp N pv (PT (SwX f l N xs ys)) j) V a3:=hdown j V3 a3 (s3.sub (zS rfl))
  refine I.L_yield (args:=#[xs j,ys j]) (by simp [Act.eval,g10]) (by simp [Act.eval,g15,g20]) hY' ?_
  rintro e w4 hr
  have hbool : ∃ b, e = .returned (.bool b) ∧ (b = true → J (tC N (j + 1)) w4 ∧ KpV V w3 w4) ∧ (b = false → Jx (tC N (j + 1)) w4) := by
   rcases hr with ⟨h1,h2,h3⟩ | ⟨h1,h2⟩
   ·exact ⟨true,h1,fun _=>⟨h2,h3⟩,fun h=>(by cases h)⟩
   ·exact ⟨false,h1,fun h=>(by cases h),fun _=>h2⟩
  obtain ⟨b,rfl,hbt,hbf⟩:=hbool
  refine ⟨_,rfl,?_⟩
  unfold wpListIn
  rw [if_pos (by simp [Region.wanted])]
  refine I.op_in (by intro c; simp) ?_
  have hnot:(a3.put (some 21) (.bool b)).eval (.tmp 21) = .bool b:=by simp [Act.eval,Act.put,s3.2.1]
  simp only [Oper.wp,execOp,hnot]
  show I.den none 1 _ R' _ .normal _ w4
  cases b with
  | true =>
   have hon4:∀ b o,V b = some o → w4.heap[b]? = some o:=fun b o h=>(hbt rfl).2 b o h (hon3 b o h)
   refine (?_:I.Tr none 1 _ R' ⟨w4,V⟩ 24 _ ((22,aC false) :: (21,aC true) :: EsA lp N pv (PT (SwX f l N xs ys)) j) []) _ w4 ⟨V,I.Inv.start hon4,(s4.put (by decide) rfl).put (by decide) rfl⟩
   refine I.T_cond (aB.t rfl) (fun h=>by cases h) (fun _=>I.T_skip (I.T_blk (I.T_region rfl ?_)))
   refine bM rfl rfl rfl (dV (aB.t rfl) (cJ 1) (by simp only [jX]; omega)) (bM rfl rfl rfl (cX (aB.t rfl)) (eX (I.R_on (I.T_end ?_))))
   rintro a6 w6 ⟨V6,i6,s6⟩
   refine hnext a6 w6 (fun b o h=>i6.on b o (i6.le b o h)) (hdown (j + 1) V6 a6 (s6.sub (zS rfl))) hjN (hJ _ _ _ none (hbt rfl).1 (gO i6.bel) (fun r e=>by cases e))
  | false =>
   refine (?_:I.Tr none 1 _ R' ⟨w4,fun _=>none⟩ 24 _ [(22,aC true)] []) _ w4 ⟨_,I.Inv.start (fun _ _ h=>by cases h),.inl (s3.1.nil rfl),by simp [Act.put,s3.2.1],fun t T ht=>?_⟩
   ·refine I.T_cond (aB.t rfl) (fun _ => I.T_ret ?_) (fun h => by cases h)
    rintro a6 w6 ⟨V6,i6,s6⟩
    refine hexit _ _ _ (by simp) (I.den_ret _ ⟨s6.1.nil rfl,_,results_none rfl _ _ _,⟨_,rfl⟩,.inr ⟨_,a0o hjN,hJx _ _ _ none (hbf rfl) (gO i6.bel) (fun r e=>by cases e)⟩⟩)
   ·simp only [bA] at ht
    split at ht
    ·rename_i e; subst e; obtain rfl:=Option.some.inj ht; exact ⟨_,by simp [Act.put,s3.2.1],rfl⟩
    ·cases ht
 ·have hjN : j = N := by have h := hc; simp only [decide_eq_false_iff_not] at h; omega
  subst hjN
  refine I.T_out rfl fun a w ⟨V4,i4,s4⟩=>hexit _ _ _ (by simp) (I.den_exit _ _ rfl ?_)
  exact ⟨s4.1.nil rfl,_,results_none rfl _ _ _,⟨_,rfl⟩,.inl ⟨_,a0p,hJ _ _ _ none hJ1 (gO i4.bel) (fun r e=>by cases e)⟩⟩
theorem Vc {E : bD} {H : Hp} {n : Nat} {d : Option Tmp} {t : TypeId} {pos : String} {af : Array Edge} {g : Option (Nat × Bool)} {x : Operand} {f : List Qi} {l : List NP} {N : Nat} (hf : f.length = N) (hl : l.length = N) (hN : N ≤ 1000) (hx : aB E x (PT (Hr f l))) :
  aD Tryz.prog n E H ⟨d,.makeFunc (.func 147) #[] #[x],t,pos,af,g⟩ (Ko Tryz.prog N (fun i=>aL (gv f i)) (fun i=>eL (nz l i) (ns l i))) :=
 dR fun a V w hs => by
  have hA:=hx n V a hs
  refine ⟨.func (.func 147) #[] #[a.eval x],by simp [execOp,Instr.makeFunc,Sem.run_bind,pure,Sem.run,bind,Sem.bind],?_⟩
  generalize a.eval x = pv at hA
  obtain ⟨b,o,y,e1,e2,cs,e3,e4⟩:=hA
  obtain ⟨v0,q0,r0⟩:=e4.get (i:=0) rfl
  obtain ⟨v1,q1,r1⟩:=e4.get (i:=1) rfl
  obtain ⟨xs,x1,x2⟩:=zT Qi.zero r0
  obtain ⟨ys,y1,y2⟩:=zT (([],[]):NP) r1
  rw [hf] at x1 x2
  rw [hl] at y1 y2
  have hp : (PT (SwX f l N xs ys)).p pv V := by
   refine ⟨b,o,y,e1,e2,cs,e3,?_,e4.pl⟩
   have hl2:=e4.length
   match cs,hl2,q0,q1 with
   | [c0, c1], _, q0, q1 =>
    simp at q0 q1
    subst q0; subst q1
    exact ⟨x1,y1,trivial⟩
  exact ⟨147,#[pv],xs,ys,rfl,Tryz.call147,fun i hi=>⟨x2 i hi,y2 i hi⟩,fun V' w' hle hon=>Nm hN ((PT _).mono hp hle) w' hon⟩
theorem Xk {f:List Qi} {l:List NP} {N:Nat} (hf:f.length = N) (hl:l.length = N) (hN:N ≤ 1000):aT Tryz.prog 63 [Hr f l] (Ko Tryz.prog N (fun i=>aL (gv f i)) (fun i=>eL (nz l i) (ns l i))):=by
 refine aT.intro Tryz.func63 rfl Tryz.ntmps63 rfl (fun cx=>(ts (rn rfl (fG (Ht rfl)) fun B1=>(ro rfl (cQ cV) (eX (cK (gV (i:=0) (tt:=1) rfl rfl nI (cY (ro rfl (Vc hf hl hN (Ht rfl)) (ra rfl (eX ?_)))))))))))
 exact fW rfl (eU rfl)
end
section
open Go Go.RowKit
theorem yQ (v : Value) (w : World) : (method (Tryz.prog.types.size + Made.depth) 32 v "Clear").run Tryz.prog w = .ok (34, v) w := by kernel_rfl
end
section
open Go Go.RowKit
theorem Te {M:List (List Qi)} {n m G B:Nat} (hs:iL M n m) (hstg:∀ c,c ≤ n → dM (dF M c).1 G) (hG1:1 ≤ G) (hg:6 * G + 4 ≤ 17592186044415) (hnm:n ≤ m) (hm:m ≤ 1000):iC Tryz.prog 265 [Is (.slice (some ⟨B,0,none⟩) n n)] [qY B 54 32 5 (eI aL M)] (Unit) (fun _=>fB [NT .i64 (dF M n).2.1,aI .i64 (dF M n).2.2]) (fun _=>[qY B 54 32 5 (eI aL (dF M n).1)]) (fun _=>True):=by
 have hs1:=hs.1
 refine iC.intro Tryz.func265 rfl Tryz.ntmps265 rfl (fun cx Z=>(ts (ro rfl (cQ (cJ 0)) (ro rfl (cQ (cJ 0)) (eX (ts (ro rfl (cQ (cJ 0)) (eX (cK (ts (rm rfl (ro rfl (jJ U_78 (Ht rfl)) (ro rfl (cX (cJ 0)) (eX (eG (Hv 1 rfl (fun vs hvs=>?_)))))))))))))))))
 have hvs2:Xb vs n:=by have h:=hvs; rw [List.length_map,hs1] at h; exact h
 refine sQ (fun (c : Nat) (sw : Nat) (vs : List Value) (A : List (List Qi)) => (c ≤ n ∧ sw ≤ c) ∧ dF M c = (A, sw, -1) ∧ Xb vs n) (fun (c : Nat) (sw : Nat) (vs : List Value) (A : List (List Qi)) => n - c) (fun (c : Nat) (sw : Nat) (vs : List Value) (A : List (List Qi)) => [(0, Is (.slice (some ⟨B, 0, none⟩) n n)), (4, NT .i64 sw), (12, NT .i64 n), (13, NT .i64 c)]) (fun (c : Nat) (sw : Nat) (vs : List Value) (A : List (List Qi)) => [Z, iU B 54 32 5 vs vs (eI aL A)]) 0 0 vs M ⟨⟨Nat.zero_le _, Nat.le_refl _⟩, rfl, hvs2⟩
  (zS rfl) (cA.refl _) (fun c sw vs A ⟨⟨hc,hsw⟩,hA,hvs⟩=>?_)
 refine ts (ro rfl (gZ (Ht rfl) (Ht rfl)) (eX (cK (dQ (Ht rfl) (fun hcn=>?_) (fun hcn=>?_)))))
 ·simp only [decide_eq_true_eq] at hcn
  have hvl:=hvs.len
  have hAs:iL A n m:=by have h:=nV hs hc; rw [hA] at h; exact h
  have hAf:dM A G:=by have h:=hstg c hc; rw [hA] at h; exact h
  have hAl:=hAs.1
  refine cU (cK (eG (ts (rm rfl (ra rfl (eX (ts (rm rfl (ra rfl (eX (cK (eG ?_))))))))))))
  refine dB (fun (p : Nat) => (c ≤ p ∧ p ≤ n) ∧ ∀ r, c ≤ r → r < p → gm A r c = Qi.zero) (fun (p : Nat) => n - p) (fun (p : Nat) => [(0, Is (.slice (some ⟨B, 0, none⟩) n n)), (4, NT .i64 sw), (5, NT .i64 c), (6, NT .i64 p), (12, NT .i64 n), (13, NT .i64 c)]) (fun (p : Nat) => [Z, iU B 54 32 5 vs vs (eI aL A)]) c ⟨⟨Nat.le_refl _, hc⟩, fun r h1 h2 => by omega⟩
   (zS rfl) (cA.refl _) (fun p ⟨⟨hcp,hpn⟩,hz⟩=>?_)
  haveI fp:aP (gm A p c) G:=hAf.get hG1 p c
  refine cK (ts (rm rfl (rm rfl (ro rfl (jJ U_78 (Ht rfl)) (ro rfl (gZ (Ht rfl) (Ht rfl)) (rm rfl (fQ rfl rfl (eK rfl rfl (Ht rfl) (fun h=>cX (Ht rfl))) (fQ rfl rfl (eK rfl rfl (Ht rfl) (fun h=>cX (Ht rfl))) (fQ rfl rfl (eK rfl rfl (Ht rfl) (fun h=>gQ U_78 Z_54 (fJ rfl h) (fJ rfl h) rfl (by first | omega | (simp at h; omega)) (by rw [Nat.mul_one,Nat.zero_add]))) ?_)))))))))
  refine fQ rfl rfl (eK rfl rfl (Ht rfl) (fun h=>jY A_54 Z_54 (fJ rfl h) (j:=1) rfl (by simp at h; omega))) ?_
  refine fQ rfl rfl (eK rfl rfl (Ht rfl) (fun h=>cX (Ht rfl))) (fQ rfl rfl (eK rfl rfl (Ht rfl) (fun h=>mC U_54 Z_32 (fJ rfl h) (fJ rfl h) rfl (j:=1) rfl zo (by simp at h; omega) (by simp at h; rw [hAs.row h]; omega))) ?_)
  refine fQ rfl rfl (eK rfl rfl (Ht rfl) (fun h=>pS A_32 Z_32 (fJ rfl h) (j:=1) rfl zo (by simp at h; omega) (by simp at h; rw [hAs.row h]; omega))) ?_
  refine fQ rfl rfl (eK rfl rfl (Ht rfl) (fun h=>dI fA (fJ rfl h))) (fQ rfl rfl (eK rfl rfl (Ht rfl) (fun h=>cM yQ Tryz.call34 (Ic (x:=gm A p c) (L:=G) zo) (fJ rfl h) trivial)) (fQ rfl rfl (eK rfl rfl (Ht rfl) (fun h=>eC (fJ rfl h))) (ro rfl (eS (Ht rfl) (fun h=>(fJ rfl h))) (eX (dQ (Ht rfl) (fun he=>?_) (fun he=>?_))))))
  ·have he2 : p < n ∧ gm A p c = Qi.zero := by simpa using he
   refine cU (eG (cY (rm rfl (ro rfl (dV (Ht rfl) (cJ 1) z6) (ra rfl (eX (T_blk ?_)))))))
   refine fY (p + 1) ⟨⟨by omega, by omega⟩, fun r h1 h2 => by
     by_cases e:r = p
     ·rw [e]; exact he2.2
     ·exact hz r h1 zo⟩ zo (zS rfl) (cA.refl _)
  ·have hpv : pv A c n = p := a1A hcp hpn hz (fun h => by simp at he; exact he h)
   refine gW rfl (cK (ts (rm rfl (rm rfl (ro rfl (jJ U_78 (Ht rfl)) (ro rfl (cD (Ht rfl) (Ht rfl)) (eX (dQ (Ht rfl) (fun hp=>?_) (fun hp=>?_)))))))))
   ·have hp2 : p = n := by simpa using hp
    have hend:=Pb hs1 hA (by rw [hpv]; exact hp2) hcn
    refine ts (rm rfl (rm rfl (ra rfl (ra rfl (eX ?_)))))
    exact kX () trivial [0,1] ⟨⟨_,rfl,fun _ _ _ h=>h⟩,⟨_,rfl,(fun S w V h=>gH (by rw [hend]) S w V (xL (by rw [List.length_map]; omega) S w V h))⟩,trivial⟩ (by decide) (a0s rfl (fX (eU rfl) (kJ (by rw [hend]))) (fX (eU rfl) (aN (by rw [hend]))))
   ·have hp2 : p < n := by simp at hp; omega
    have hpz:=(oN (M:=A) (c:=c) (n:=n) hc).2.2.2 (by rw [hpv]; exact hp2)
    rw [hpv] at hpz
    have hnx:=Lg hs1 hA hpv hp2
    refine cU (cK (Sj (fun (q:Nat) (us:List Value) (D:List (List Qi))=>(q = sw + (if p = c then 0 else 1) ∧ D = (if p = c then A else swp [] A p c)) ∧ Xb us n) (fun (q:Nat) (us:List Value) (D:List (List Qi))=>[(0,Is (.slice (some ⟨B,0,none⟩) n n)),(4,NT .i64 q),(5,NT .i64 c),(12,NT .i64 n),(13,NT .i64 c)]) (fun (q:Nat) (us:List Value) (D:List (List Qi))=>[Z,iU B 54 32 5 us us (eI aL D)]) ?_ (fun q us D ⟨⟨hq,hD⟩,hus⟩=>?_)))
    ·refine ts (rm rfl (rm rfl (ro rfl (fL (Ht rfl) (Ht rfl)) (eX (dQ (Ht rfl) (fun hpc => ?_) (fun hpc => ?_))))))
     ·have hpc2 : ¬ p = c := by simpa using hpc
      refine cK (Y.D_start (m:=14) [(13,1,iU B 54 32 5 (vs.set p (hd vs c)) vs (eI aL A))] (Y.D_step (Ei:=[(0,_)]) rfl rfl (bQ (bJ rfl rfl) bX) rfl rfl (by kernel_rfl) (dX rfl (cX (Ht rfl))) (Y.D_step (Ei:=[(6,_)]) rfl rfl (bQ (bJ rfl rfl) bX) rfl rfl (by kernel_rfl) (dX rfl (cX (Ht rfl))) (bY (Ei:=[(0,_)]) rfl rfl (bQ (bJ rfl rfl) bX) rfl rfl (dX rfl (cX (Ht rfl))) (bY (Ei:=[(5,_)]) rfl rfl (bQ (bJ rfl rfl) bX) rfl rfl (dX rfl (cX (Ht rfl))) ?_)))))
      refine Y.D_step (Ei:=[(0,_)]) rfl rfl (bQ (bJ rfl rfl) bX) rfl rfl (by kernel_rfl) (dX rfl (cX (Ht rfl))) (Y.D_step (Ei:=[(5,_)]) rfl rfl (bQ (bJ rfl rfl) bX) rfl rfl (by kernel_rfl) (dX rfl (cX (Ht rfl))) (Y.D_step (Ei:=[(48,_),(49,_)]) rfl rfl (bQ (bZ 4 rfl rfl) (bQ (bZ 5 rfl rfl) bX)) rfl rfl (by kernel_rfl) (dX rfl (gQ U_78 Z_54 (Ht rfl) (Ht rfl) rfl zo (by rw [Nat.mul_one,Nat.zero_add]))) ?_))
      refine Y.D_step (Ei:=[(50,_)]) rfl rfl (bQ (bZ 6 rfl rfl) bX) rfl rfl (by kernel_rfl) (dX rfl (jY A_54 Z_54 (Ht rfl) (j:=1) rfl zo)) (Y.D_step (Ei:=[(0,_)]) rfl rfl (bQ (bJ rfl rfl) bX) rfl rfl (by kernel_rfl) (dX rfl (cX (Ht rfl))) (Y.D_step (Ei:=[(6,_)]) rfl rfl (bQ (bJ rfl rfl) bX) rfl rfl (by kernel_rfl) (dX rfl (cX (Ht rfl))) (Y.D_step (Ei:=[(52,_),(53,_)]) rfl rfl (bQ (bZ 8 rfl rfl) (bQ (bZ 9 rfl rfl) bX)) rfl rfl (by kernel_rfl) (dX rfl (gQ U_78 Z_54 (Ht rfl) (Ht rfl) rfl zo (by rw [Nat.mul_one,Nat.zero_add]))) ?_)))
      refine Y.D_step (Ei:=[(54,_)]) rfl rfl (bQ (bZ 10 rfl rfl) bX) rfl rfl (by kernel_rfl) (dX rfl (jY A_54 Z_54 (Ht rfl) (j:=1) rfl zo)) (Y.D_step (Ei:=[(44,_),(45,_)]) rfl rfl (bQ (bZ 0 rfl rfl) (bQ (bZ 1 rfl rfl) bX)) rfl rfl (by kernel_rfl) (dX rfl (gQ U_78 Z_54 (Ht rfl) (Ht rfl) rfl zo (by rw [Nat.mul_one,Nat.zero_add]))) ?_)
      refine Y.D_putI (Ei:=[(56,_),(51,_)]) 1 rfl rfl rfl (bQ (bZ 12 rfl rfl) (bQ (bZ 7 rfl rfl) bX)) (.head _) rfl (Mz Z_54 (Ht rfl) (Ht rfl) (hvs.pl c zo) (i:=p) (hs:=vs) zo) (Y.D_done bB rfl (by kernel_rfl) rfl (by simp [Y.okP]) rfl rfl (bU (bU (bU (bU (bU (bU (bU (bU (bU (bU (bU (bU (bU (Y.F_putI (Y.F_nil ?_))))))))))))))))
      refine ro rfl (gQ U_78 Z_54 (Ht rfl) (Ht rfl) rfl zo (by rw [Nat.mul_one,Nat.zero_add])) ?_
      refine Yn Z_54 (Ht rfl) (Ht rfl) (j:=1) rfl (hvs.pl p zo) (by rw [List.length_set]; omega) rfl ?_
      refine eX (oZ 1 rfl (Lp (hs:=swp Bg vs p c) (p:=p) (c:=c) zo zo zo) (cY (rm rfl (ro rfl (dV (Ht rfl) (cJ 1) z6) (ra rfl (eX (aO (sw + 1,swp Bg vs p c,swp [] A p c) ⟨⟨by rw [if_neg hpc2],by rw [if_neg hpc2]⟩,hvs.swp hp2 hcn⟩ (zS rfl) (cA.refl _))))))))
     ·have hpc2 : p = c := by simpa using hpc
      refine cU (aO (sw,vs,A) ⟨⟨by rw [if_pos hpc2]; rfl,by rw [if_pos hpc2]⟩,hvs⟩ (zS rfl) (cA.refl _))
    ·have hul := hus.len
     rw [← hq,← hD] at hnx
     have hDs:iL D n m:=by rw [hD]; split; exact hAs; exact vW hAs hp2 hcn
     have hDf:dM D G:=by rw [hD]; split; exact hAf; exact Br hAf
     have hDl:=hDs.1
     have hDz : gm D c c ≠ Qi.zero := by
      rw [hD]; split
      ·rename_i e; rw [e] at hpz; exact hpz
      ·show gv (dO (swp [] A p c) c) c ≠ _
       rw [xX zo]; exact hpz
     refine ts (rm rfl (ro rfl (dV (Ht rfl) (cJ 1) z6) (ra rfl (eX (eG ?_)))))
     refine dB (fun (r : Nat) => c < r ∧ r ≤ n) (fun (r : Nat) => n - r) (fun (r : Nat) => [(0, Is (.slice (some ⟨B, 0, none⟩) n n)), (4, NT .i64 q), (5, NT .i64 c), (7, NT .i64 r), (12, NT .i64 n), (13, NT .i64 c)]) (fun (r : Nat) => [Z, iU B 54 32 5 us us (eI aL (redM D c r))]) (c + 1) ⟨Nat.lt_succ_self _, hcn⟩
      (zS rfl) (aU (fun _ _ _ h=>h) (aU (vN (congrArg _ Gt)) aY)) (fun r ⟨hcr,hrn⟩=>?_)
     refine cK (ts (rm rfl (rm rfl (ro rfl (jJ U_78 (Ht rfl)) (ro rfl (gZ (Ht rfl) (Ht rfl)) (eX (dQ (Ht rfl) (fun hr=>?_) (fun hr=>?_))))))))
     ·simp only [decide_eq_true_eq] at hr
      obtain ⟨X,hX⟩:∃ X,X = redM D c r:=⟨_,rfl⟩
      have hXr:dO X r = dO D r:=by rw [hX]; exact tF zo zo
      have hXc:dO X c = dO D c:=by rw [hX]; exact tF zo zo
      have hXl:X.length = n:=by rw [hX,pU]; exact hDl
      have hXrl:(dO X r).length = m:=by rw [hXr]; exact hDs.row hr
      have hXcl:(dO X c).length = m:=by rw [hXc]; exact hDs.row hcn
      have hXrg:(X.getD r []).length = m:=hXrl
      have hXcg:(X.getD c []).length = m:=hXcl
      have hXfr:dA (dO X r) G:=by rw [hXr]; exact hDf.row r
      have hXfc:dA (dO X c) G:=by rw [hXc]; exact hDf.row c
      haveI g1:aP (gm X r c) G:=hXfr.get hG1 c
      haveI g2:aP (gm X c c) G:=hXfc.get hG1 c
      have hXz:gm X c c ≠ Qi.zero:=by show gv (dO X c) c ≠ _; rw [hXc]; exact hDz
      haveI g3:aP (gm X r c / gm X c c) (G + 3 * G + 2):=⟨g1.fit.div g2.fit hXz⟩
      have hend:=Ri (D:=D) (r:=r) (c:=c) zo hcr
      rw [← hX] at hend ⊢
      refine cU (cK (eG (cK (Y.D_start (m:=21) [] (bY (Ei:=[(0,_)]) rfl rfl (bQ (bJ rfl rfl) bX) rfl rfl (dX rfl (cX (Ht rfl))) (bY (Ei:=[(7,_)]) rfl rfl (bQ (bJ rfl rfl) bX) rfl rfl (dX rfl (cX (Ht rfl))) (bY (Ei:=[(69,_),(70,_)]) rfl rfl (bQ (bZ 0 rfl rfl) (bQ (bZ 1 rfl rfl) bX)) rfl rfl (dX rfl (gQ U_78 Z_54 (Ht rfl) (Ht rfl) rfl zo (by rw [Nat.mul_one,Nat.zero_add]))) ?_)))))))
      refine bY (Ei:=[(71,_)]) rfl rfl (bQ (bZ 2 rfl rfl) bX) rfl rfl (dX rfl (jY A_54 Z_54 (Ht rfl) (j:=1) rfl zo)) (bY (Ei:=[(5,_)]) rfl rfl (bQ (bJ rfl rfl) bX) rfl rfl (dX rfl (cX (Ht rfl))) (bY (Ei:=[(72,_),(73,_)]) rfl rfl (bQ (bZ 3 rfl rfl) (bQ (bZ 4 rfl rfl) bX)) rfl rfl (dX rfl (mC U_54 Z_32 (Ht rfl) (Ht rfl) rfl (j:=1) rfl zo zo zo)) (bY (Ei:=[(74,_)]) rfl rfl (bQ (bZ 5 rfl rfl) bX) rfl rfl (dX rfl (pS A_32 Z_32 (Ht rfl) (j:=1) rfl zo zo zo)) ?_)))
      refine bY (Ei:=[(75,_)]) rfl rfl (bQ (bZ 6 rfl rfl) bX) rfl rfl (dX rfl (dI fA (Ht rfl))) (bY (Ei:=[(0,_)]) rfl rfl (bQ (bJ rfl rfl) bX) rfl rfl (dX rfl (cX (Ht rfl))) (bY (Ei:=[(5,_)]) rfl rfl (bQ (bJ rfl rfl) bX) rfl rfl (dX rfl (cX (Ht rfl))) (bY (Ei:=[(77,_),(78,_)]) rfl rfl (bQ (bZ 8 rfl rfl) (bQ (bZ 9 rfl rfl) bX)) rfl rfl (dX rfl (gQ U_78 Z_54 (Ht rfl) (Ht rfl) rfl zo (by rw [Nat.mul_one,Nat.zero_add]))) ?_)))
      refine bY (Ei:=[(79,_)]) rfl rfl (bQ (bZ 10 rfl rfl) bX) rfl rfl (dX rfl (jY A_54 Z_54 (Ht rfl) (j:=1) rfl zo)) (bY (Ei:=[(5,_)]) rfl rfl (bQ (bJ rfl rfl) bX) rfl rfl (dX rfl (cX (Ht rfl))) (bY (Ei:=[(80,_),(81,_)]) rfl rfl (bQ (bZ 11 rfl rfl) (bQ (bZ 12 rfl rfl) bX)) rfl rfl (dX rfl (mC U_54 Z_32 (Ht rfl) (Ht rfl) rfl (j:=1) rfl zo zo zo)) (bY (Ei:=[(82,_)]) rfl rfl (bQ (bZ 13 rfl rfl) bX) rfl rfl (dX rfl (pS A_32 Z_32 (Ht rfl) (j:=1) rfl zo zo zo)) ?_)))
      refine bY (Ei:=[(76,_),(83,_)]) rfl rfl (bQ (bZ 7 rfl rfl) (bQ (bZ 14 rfl rfl) bX)) rfl rfl (dX rfl (cM pO Tryz.call142 (Ig (x:=gm X r c) (y:=gm X c c) (L:=G) (M:=G) zo) (Ht rfl) ⟨(Ht rfl),trivial⟩)) (bY (Ei:=[(84,_)]) rfl rfl (bQ (bZ 15 rfl rfl) bX) rfl rfl (dX rfl (cX (Ht rfl))) (bY (Ei:=[(68,_)]) rfl rfl (bQ (bZ 16 rfl rfl) bX) rfl rfl (dX rfl (dK (Ht rfl) rfl)) (bY (Ei:=[(68,_)]) rfl rfl (bQ (bZ 16 rfl rfl) bX) rfl rfl (dX rfl (dK (Ht rfl) rfl)) ?_)))
      refine Y.D_newp (Ei:=[]) (fun bb=>box bb 32 [aC (decide ((gm X r c / gm X c c).a < 0)),aM (gm X r c / gm X c c).a.natAbs,aC (decide ((gm X r c / gm X c c).b < 0)),aM (gm X r c / gm X c c).b.natAbs,aM (du (gm X r c / gm X c c))]) 20 rfl rfl rfl bX rfl rfl (by kernel_rfl) (eW (Ts:=[Is (.bool false),Is (.slice none 0 0),Is (.bool false),Is (.slice none 0 0),Is (.slice none 0 0)]) O_32 rfl (fun V=>aW zd (aW zd (aW zd (aW zd (aW zd (aG))))))) ?_
      refine Y.D_putN (Ei:=[(85,_)]) 19 rfl rfl rfl rfl rfl rfl (bQ (bZ 17 rfl rfl) bX) (fun bb=>rR Z_32 (Ht rfl) (Ht rfl) rfl (i:=0) rfl (aK rfl) rfl rfl) (Y.D_done bB rfl (by kernel_rfl) rfl (by simp [Y.okP]) rfl rfl (bU (bU (bU (bU (bU (bU (bU (bU (bU (bU (bU (bU (bU (bU (bU (bU (bU (bU (bU (Y.F_newp (fun B8=>Y.F_putN (Y.F_nil ?_)))))))))))))))))))))))
      refine ra rfl (eX (ts (rm rfl (ro rfl (dV (Ht rfl) (cJ 1) z6) (ra rfl (eX (eG ?_)))))))
      refine dB (fun (k : Nat) => c < k ∧ k ≤ m) (fun (k : Nat) => m - k) (fun (k : Nat) => [(0, Is (.slice (some ⟨B, 0, none⟩) n n)), (4, NT .i64 q), (5, NT .i64 c), (7, NT .i64 r), (8, cH B8 0), (10, NT .i64 k), (12, NT .i64 n), (13, NT .i64 c)]) (fun (k : Nat) => [Z, iU B 54 32 5 us us (eI aL (X.set r (jP (dO X r) (dO X c) c k))), box B8 32 [aC (decide ((gm X r c / gm X c c).a < 0)), aM (gm X r c / gm X c c).a.natAbs, aC (decide ((gm X r c / gm X c c).b < 0)), aM (gm X r c / gm X c c).b.natAbs, aM (du (gm X r c / gm X c c))]]) (c + 1) ⟨Nat.lt_succ_self _, by omega⟩
       (zS rfl) (aU (fun _ _ _ h=>h) (aU (vN (by rw [← Gu,a0u zo])) (aU (aR rfl) aY))) (fun k ⟨hck,hkm⟩=>?_)
      obtain ⟨Y,hY⟩:∃ Y,Y = (X.set r (jP (dO X r) (dO X c) c k)):=⟨_,rfl⟩
      have hYl:Y.length = n:=by rw [hY,List.length_set]; exact hXl
      have hYrl:(dO Y r).length = m:=by rw [hY,Bo zo,tG]; exact hXrl
      have hYcl:(dO Y c).length = m:=by rw [hY,uG zo]; exact hXcl
      have hYrg:(Y.getD r []).length = m:=hYrl
      have hYcg:(Y.getD c []).length = m:=hYcl
      rw [← hY]
      refine cK (ts (rm rfl (rm rfl (rm rfl (ro rfl (gQ U_78 Z_54 (Ht rfl) (Ht rfl) rfl zo (by rw [Nat.mul_one,Nat.zero_add])) ?_)))))
      refine ro rfl (jY A_54 Z_54 (Ht rfl) (j:=1) rfl zo) (ro rfl (Vj U_54 (Ht rfl) (j:=1) rfl zo zo) (ro rfl (gZ (Ht rfl) (Ht rfl)) (eX (dQ (Ht rfl) (fun hk=>?_) (fun hk=>?_)))))
      ·have hk2 : k < m := by simp only [decide_eq_true_eq] at hk; omega
       have e1:gm Y r k = gv (dO X r) k:=by rw [hY]; exact a1l zo zo hck
       have e2:gm Y c k = gv (dO X c) k:=by rw [hY]; exact a1k zo
       haveI y1:aP (gm Y r k) G:=by rw [e1]; exact hXfr.get hG1 k
       haveI y2:aP (gm Y c k) G:=by rw [e2]; exact hXfc.get hG1 k
       have hst:=Rh (X:=X) (r:=r) (c:=c) (k:=k) zo zo zo hck
       rw [← hY] at hst
       refine cU (cK (eG (fZ (m:=24) (dp 0 rfl (cX (Ht rfl)) (dp 7 rfl (cX (Ht rfl)) (eE 98 0 99 1 rfl (gQ U_78 Z_54 (Ht rfl) (Ht rfl) rfl zo (by rw [Nat.mul_one,Nat.zero_add])) ?_))))))
       refine dq 100 2 rfl (jY A_54 Z_54 (Ht rfl) (j:=1) rfl zo) (dp 10 rfl (cX (Ht rfl)) (dp 0 rfl (cX (Ht rfl)) (dp 7 rfl (cX (Ht rfl)) (eE 103 5 104 6 rfl (gQ U_78 Z_54 (Ht rfl) (Ht rfl) rfl zo (by rw [Nat.mul_one,Nat.zero_add])) ?_))))
       refine dq 105 7 rfl (jY A_54 Z_54 (Ht rfl) (j:=1) rfl zo) (dp 10 rfl (cX (Ht rfl)) (eE 106 8 107 9 rfl (mC U_54 Z_32 (Ht rfl) (Ht rfl) rfl (j:=1) rfl zo zo zo) (dq 108 10 rfl (pS A_32 Z_32 (Ht rfl) (j:=1) rfl zo zo zo) (dq 109 11 rfl (dI fA (Ht rfl)) (dp 8 rfl (eJ A_32 Z_32 (Ht rfl) (i:=2) rfl rfl rfl) (dq 111 13 rfl (dI fA (Ht rfl)) (dp 0 rfl (cX (Ht rfl)) (dp 5 rfl (cX (Ht rfl)) (eE 113 15 114 16 rfl (gQ U_78 Z_54 (Ht rfl) (Ht rfl) rfl zo (by rw [Nat.mul_one,Nat.zero_add])) ?_)))))))))
       refine dq 115 17 rfl (jY A_54 Z_54 (Ht rfl) (j:=1) rfl zo) (dp 10 rfl (cX (Ht rfl)) (eE 116 18 117 19 rfl (mC U_54 Z_32 (Ht rfl) (Ht rfl) rfl (j:=1) rfl zo zo zo) (dq 118 20 rfl (pS A_32 Z_32 (Ht rfl) (j:=1) rfl zo zo zo) (eE 112 14 119 21 rfl (cM kI K_29 (uM (x:=gm X r c / gm X c c) (y:=gm Y c k) (L:=G + 3 * G + 2) (M:=G) zo) (Ht rfl) ⟨(Ht rfl),trivial⟩) (eE 110 12 120 22 rfl (cM lP K_32 (wP (x:=gm Y r k) (y:=gm X r c / gm X c c * gm Y c k) (L:=G) (M:=G + 3 * G + 2 + G + 1) zo) (Ht rfl) ⟨(Ht rfl),trivial⟩) ?_)))))
       refine fV bB rfl (by kernel_rfl) (zF (zF (zF (zF (zF (zF (aV (ro rfl (mC U_54 Z_32 (Ht rfl) (Ht rfl) rfl (j:=1) rfl zo zo zo) (a0R Z_32 (Ht rfl) (Ht rfl) (j:=1) rfl (El.ag rfl) (F:=aL) (z:=gm Y r k - gm X r c / gm X c c * gm Y c k) zo zo zo rfl (eX (T_blk (cY ?_))))))))))))
       refine rm rfl (ro rfl (dV (Ht rfl) (cJ 1) z6) (ra rfl (eX (fY (k + 1) ⟨by omega,hk2⟩ zo (zS rfl) (aU (fun _ _ _ h=>h) (aU (vN (congrArg _ hst)) (aU (aR rfl) aY)))))))
      ·have hk3 : k = m := by simp only [decide_eq_false_iff_not] at hk; omega
       subst hk3
       refine gW rfl (T_blk (cY (rm rfl (ro rfl (dV (Ht rfl) (cJ 1) z6) (ra rfl (eX (eR [0,1] rfl (by decide) (fY (r + 1) ⟨by omega,hr⟩ zo (zS rfl) (aU (fun _ _ _ h=>h) (aU (vN (by rw [hY,← hend,hDs.row hr])) aY))))))))))
     ·simp only [decide_eq_false_iff_not] at hr
      obtain rfl:r = n:=Nat.le_antisymm hrn zo
      refine gW rfl (T_blk (cY (ro rfl (dV (Ht rfl) (cJ 1) z6) (rm rfl (eX (fY (c + 1,q,us,redM D c r) ⟨⟨hcn,by show q ≤ c + 1; rw [hq]; split <;> omega⟩,hnx,hus⟩ (by dsimp only; omega) (zS rfl) (cA.refl _)))))))
 ·simp only [decide_eq_false_iff_not] at hcn
  obtain rfl:c = n:=Nat.le_antisymm hc zo
  have hvl:=hvs.len
  have hAs:iL A c m:=by have h:=nV hs hc; rw [hA] at h; exact h
  refine gW rfl (ts (rm rfl (ra rfl (ro rfl (cQ cV) (eX ?_)))))
  exact kX () trivial [0,1] ⟨⟨_,rfl,fun _ _ _ h=>h⟩,⟨_,rfl,(fun S w V h=>gH (by rw [hA]) S w V (xL (by rw [List.length_map,hAs.1]; exact hvl) S w V h))⟩,trivial⟩ (by decide) (a0s rfl (fX (eU rfl) (kJ (by rw [hA]))) (fX (eU rfl) (aN (by rw [hA]))))
end
section
open Go Go.RowKit
theorem Kx  : aT Tryz.prog 229 [fC []] (aC true):=by
 refine aT.intro Tryz.func229 rfl Tryz.ntmps229 rfl (fun cx=>(ts (ro rfl (cQ cV) (eX (ts (rm rfl (ro rfl (cZ Tryz.call231 Fy ⟨(Ht rfl),trivial⟩) (rm rfl (ro rfl (dK (Ht rfl) rfl) (ro rfl (dK (Ht rfl) rfl) (ra rfl (ra rfl (eX (ts (rm rfl (rm rfl (fQ rfl rfl (eK rfl rfl (Ht rfl) (fun h=>cX (Ht rfl))) (fQ rfl rfl (eK rfl rfl (Ht rfl) (fun h=>cX (Ht rfl))) (fQ rfl rfl (eK rfl rfl (Ht rfl) (fun h=>dG U_78 (fJ rfl h) aA)) (fQ rfl rfl (eK rfl rfl (Ht rfl) (fun h=>cD (fJ rfl h) (fJ rfl h))) ?_))))))))))))))))))))
 refine ro rfl (eS (Ht rfl) (fun h=>(fJ rfl h))) (ra rfl (eX (fW rfl (fX (eU rfl) ?_))))
 exact (cT (by simp))
theorem Cu {M:List (List Qi)} {n:Nat} (h:iL M n n) (h1:1 ≤ n) (hn:n ≤ 32):aT Tryz.prog 229 [fC M] (aC true):=by
 have hl:=h.1
 refine aT.intro Tryz.func229 rfl Tryz.ntmps229 rfl (fun cx=>(ts (ro rfl (cQ cV) (eX (ts (rm rfl (ro rfl (cZ Tryz.call231 (Kt h h1 hn hn) ⟨(Ht rfl),trivial⟩) (rm rfl (ro rfl (dK (Ht rfl) rfl) (ro rfl (dK (Ht rfl) rfl) (ra rfl (ra rfl (eX (ts (rm rfl (rm rfl (fQ rfl rfl (eK rfl rfl (Ht rfl) (fun h=>cX (Ht rfl))) (fQ rfl rfl (eK rfl rfl (Ht rfl) (fun h=>cX (Ht rfl))) (fQ rfl rfl (eK rfl rfl (Ht rfl) (fun h=>dG U_78 (fJ rfl h) aA)) (fQ rfl rfl (eK rfl rfl (Ht rfl) (fun h=>cD (fJ rfl h) (fJ rfl h))) ?_))))))))))))))))))))
 refine ro rfl (eS (Ht rfl) (fun h=>(fJ rfl h))) (ra rfl (eX (fW rfl (fX (eU rfl) ?_))))
 exact (cT (by simp [hl]))
theorem Ky {M:List (List Qi)} {n:Nat} (h:iL M n n) (hn:n ≤ 32):aT Tryz.prog 229 [fC M] (aC true):=by
 by_cases e:n = 0
 ·subst e
  obtain rfl:=List.length_eq_zero_iff.1 h.1
  exact Kx
 ·exact Cu h zo hn
theorem yW {M bs:List (List Qi)} {n m:Nat} (hM:iL M n m) (hb:∀ b,b ∈ bs → n ≤ b.length) (hn:n ≤ 1000) (hm:m ≤ 1000) (hbl:bs.length ≤ 1000):iC Tryz.prog 230 [fC M,fC bs] [] (Nat) (fun B=>Is (.slice (some ⟨B,0,none⟩) n n)) (fun B=>[qY B 54 32 5 (eI aL (nS M bs n))]) (fun _=>True):=by
 have hMl:=hM.1
 refine iC.intro Tryz.func230 rfl Tryz.ntmps230 rfl (fun cx Z=>(ts (ro rfl (cQ cV) (eX (ts (rm rfl (ro rfl (dG U_78 (Ht rfl) aA) (rn rfl (gB (T:=Is (.slice none 0 0)) (i:=Tryz.t54) Tryz.underlying78 vM rfl rfl (Ht rfl) rfl (fun _=>rfl) trivial (by show 24 * _ ≤ _; omega) zo) fun B12=>(ra rfl (eX (cK (ts (rm rfl (ro rfl (dG U_78 (Ht rfl) aA) (ro rfl (cX (cJ 0)) (eX (eG (oZ 1 rfl (Bc (e:=32) (s:=5)) ?_))))))))))))))))))
 refine dB (fun (i : Nat) => i ≤ M.length) (fun (i : Nat) => M.length - i) (fun (i : Nat) => [(0, fC M), (1, fC bs), (5, Is (.slice (some ⟨B12, 0, none⟩) M.length M.length)), (13, fC M), (14, NT .i64 M.length), (15, NT .i64 i)]) (fun (i : Nat) => [Z, qY B12 54 32 5 (eI aL (lT (Cz M bs) [] M.length i))]) 0 (Nat.zero_le _)
  (zS rfl) (aU (fun _ _ _ h=>h) (aU (gH (by rw [← kR,uH]; exact xQ aL M.length)) aY)) (fun i hi=>?_)
 refine ts (ro rfl (gZ (Ht rfl) (Ht rfl)) (eX (cK (dQ (Ht rfl) (fun hd0=>?_) (fun hd0=>?_)))))
 ·simp only [decide_eq_true_eq] at hd0
  have hrl:(dO M i).length = m:=hM.row zo
  have hrl2:(M.getD i []).length = m:=hrl
  refine sP 1 (i) rfl (Dl hd0) (fun v0=>(cU (cK (eG (ts (rm rfl (ro rfl (dZ U_78 Z_54 (Ht rfl) (Ht rfl) rfl (dY (dU (d:=[]) hd0))) (ro rfl (dJ A_54 Z_54 (Ht rfl)) (ra rfl (ra rfl (eX (ts (rm rfl (rm rfl (rm rfl (sN Tryz.call120 (Ci (l:=M.getD i []) zo) ⟨(Ht rfl),trivial⟩ rfl (fun v1 _=>(ro rfl (gQ U_78 Z_54 (Ht rfl) (Ht rfl) rfl zo (by rw [Nat.mul_one,Nat.zero_add])) ?_))))))))))))))))))
  refine Ca Z_54 (Ht rfl) (Ht rfl) (by simp only [eI,List.length_map,fH]; omega) (j:=1) (l:=3) rfl rfl rfl ?_
  refine eX (ts (rm rfl (ro rfl (dG U_78 (Ht rfl) aA) (ro rfl (cX (cJ 0)) (eX (eG (eR [0,1,3] rfl (by decide) ?_)))))))
  refine gC (fun (j : Nat) (v : Value) => j ≤ bs.length) (fun (j : Nat) (v : Value) => bs.length - j) (fun (j : Nat) (v : Value) => [(0, fC M), (1, fC bs), (5, Is (.slice (some ⟨B12, 0, none⟩) M.length M.length)), (6, NT .i64 i), (13, fC M), (14, NT .i64 M.length), (15, NT .i64 i), (25, fC bs), (26, NT .i64 bs.length), (27, NT .i64 j)]) (fun (j : Nat) (v : Value) => [Z, Uq B12 54 32 5 (eI aL (lT (Cz M bs) [] M.length i)) i v, bH 32 5 v ((dO M i ++ (bs.take j).map fun b => gv b i).map aL)]) 0 v1 (Nat.zero_le _)
   (zS rfl) (aU (fun _ _ _ h=>h) (aU (fun _ _ _ h=>h) (aU (bN (by simp)) aY))) (fun j v hj=>?_)
  refine ts (ro rfl (gZ (Ht rfl) (Ht rfl)) (eX (cK (dQ (Ht rfl) (fun he=>?_) (fun he=>?_)))))
  ·simp only [decide_eq_true_eq] at he
   have hbj:i < (bs.getD j []).length:=by have h1:=hb (bs.getD j []) (by rw [vJ he]; exact List.getElem_mem _); omega
   refine cU (cK (eG (ts (ro rfl (dZ U_78 Z_54 (Ht rfl) (Ht rfl) rfl (dY (dU (d:=[]) he))) (ro rfl (dJ A_54 Z_54 (Ht rfl)) (ra rfl (eX (Y.D_startA (m:=12) [] 11 2 rfl rfl (bY (Ei:=[(5,_)]) rfl rfl (bQ (bJ rfl rfl) bX) rfl rfl (dX rfl (cX (Ht rfl))) (bY (Ei:=[(6,_)]) rfl rfl (bQ (bJ rfl rfl) bX) rfl rfl (dX rfl (cX (Ht rfl))) (bY (Ei:=[(5,_)]) rfl rfl (bQ (bJ rfl rfl) bX) rfl rfl (dX rfl (cX (Ht rfl))) ?_)))))))))))
   refine bY (Ei:=[(6,_)]) rfl rfl (bQ (bJ rfl rfl) bX) rfl rfl (dX rfl (cX (Ht rfl))) (bY (Ei:=[(33,_),(34,_)]) rfl rfl (bQ (bZ 2 rfl rfl) (bQ (bZ 3 rfl rfl) bX)) rfl rfl (dX rfl (gQ U_78 Z_54 (Ht rfl) (Ht rfl) rfl zo (by rw [Nat.mul_one,Nat.zero_add]))) ?_)
   refine bY (Ei:=[(35,_)]) rfl rfl (bQ (bZ 4 rfl rfl) bX) rfl rfl (dX rfl (oM A_54 Z_54 (Ht rfl) (j:=1) rfl)) (bY (Ei:=[(9,_)]) rfl rfl (bQ (bJ rfl rfl) bX) rfl rfl (dX rfl (cX (Ht rfl))) (bY (Ei:=[(6,_)]) rfl rfl (bQ (bJ rfl rfl) bX) rfl rfl (dX rfl (cX (Ht rfl))) (bY (Ei:=[(37,_),(38,_)]) rfl rfl (bQ (bZ 6 rfl rfl) (bQ (bZ 7 rfl rfl) bX)) rfl rfl (dX rfl (dZ U_54 Z_32 (Ht rfl) (Ht rfl) rfl (dY (dU (d:=Qi.zero) hbj)))) ?_)))
   refine bY (Ei:=[(39,_)]) rfl rfl (bQ (bZ 8 rfl rfl) bX) rfl rfl (dX rfl (dJ A_32 Z_32 (Ht rfl))) (bY (Ei:=[(40,_)]) rfl rfl (bQ (bZ 9 rfl rfl) bX) rfl rfl (dX rfl (dT (xs:=[.tmp 40]) U_54 Z_32 O_32 (cW (Ht rfl) cG) rfl rfl rfl)) (Y.D_app (Ei:=[(36,_),(41,_)]) rfl rfl rfl rfl (bQ (bZ 5 rfl rfl) (bQ (bZ 10 rfl rfl) bX)) rfl (wA (inf:=Tryz.t32) oP lX rfl rfl rfl (Ht rfl) (Ht rfl) (by simp) (fun T hT=>by simp at hT; subst hT; exact El.ag rfl) (by show _ * 88 ≤ _; simp only [List.length_map,List.length_append,List.length_take,List.length_cons,List.length_nil]; omega) (by simp only [List.length_map,List.length_append,List.length_take,List.length_cons,List.length_nil]; omega)) ?_))
   refine Y.D_done bB rfl (by kernel_rfl) rfl (by simp [Y.okP]) rfl rfl (bU (bU (bU (bU (bU (bU (bU (bU (bU (bU (bU (Y.F_app (fun v2=>Y.F_nil ?_)))))))))))))
   refine ro rfl (gQ U_78 Z_54 (Ht rfl) (Ht rfl) rfl zo (by rw [Nat.mul_one,Nat.zero_add])) ?_
   refine Ca Z_54 (Ht rfl) (Ht rfl) (by simp only [eI,List.length_map,fH]; omega) (j:=1) (l:=3) rfl rfl rfl ?_
   refine eX (T_blk (cY (ro rfl (dV (Ht rfl) (cJ 1) z6) (rm rfl (eX (eR [0,1,3] rfl (by decide) (fY (j + 1,v2) he (by dsimp only; omega) (zS rfl) (aU (fun _ _ _ h=>h) (aU (fun _ _ _ h=>h) (aU (bN ((wL aL _ (gv (bs.getD j []) i)).trans (congrArg _ (Ua he)))) aY))))))))))
  ·simp only [decide_eq_false_iff_not] at he
   obtain rfl:bs.length = j:=Nat.le_antisymm zo hj
   refine gW rfl (T_blk (mG 1 2 rfl rfl (by decide) (by simp only [eI,List.length_map,fH]; omega) ?_))
   refine cY (ro rfl (dV (Ht rfl) (cJ 1) z6) (rm rfl (eX (eR [0,1] rfl (by decide) (fY (i + 1) hd0 zo (zS rfl) (aU (fun _ _ _ h=>h) (aU (gH (by rw [List.take_length,mY,← mA (f:=Cz M bs)])) aY)))))))
 ·simp only [decide_eq_false_iff_not] at hd0
  obtain rfl:i = M.length:=Nat.le_antisymm hi zo
  subst hMl
  refine gW rfl (ts (rm rfl (ra rfl (eX ?_))))
  exact kX B12 trivial [0,1] ⟨⟨_,rfl,fun _ _ _ h=>h⟩,⟨_,rfl,(gH (by rw [lZ]; rfl))⟩,trivial⟩ (by decide) (yR rfl (eU rfl))
end
section
open Go Go.RowKit
theorem Ey (m:Nat) (f:Qi) (a b:Nat → Qi):lC m (fun k=>a k - f * b k) = lC m a - f * lC m b:=by
 induction m with
 | zero=>simp only [lC,q0]; grind
 | succ m ih=>simp only [lC,ih]; grind
def Ker (M:List (List Qi)) (n m:Nat) (x:Nat → Qi):Prop:=∀ i,i < n → lC m (fun k=>gm M i k * x k) = 0
def uT (rr rc:List Qi) (c k:Nat):List Qi:=tab rr.length fun j=>if c ≤ j ∧ j < k then gv rr j - gv rr c / gv rc c * gv rc j else gv rr j
def redJ (M:List (List Qi)) (c r:Nat):List (List Qi):=tab M.length fun i=>if i ≠ c ∧ i < r then uT (dO M i) (dO M c) c (dO M i).length else dO M i
def Lk (M : List (List Qi)) : Nat → Option (List (List Qi))
 | 0=>some M
 | c + 1=>(Lk M c).bind fun A=>if pv A c M.length = M.length then none else some (redJ (swp [] A (pv A c M.length) c) c M.length)
theorem Qv (M:List (List Qi)) (c r:Nat):(redJ M c r).length = M.length:=bF _ _
theorem Lz (rr rc:List Qi) (c k:Nat):(uT rr rc c k).length = rr.length:=bF _ _
theorem Qw {M:List (List Qi)} {c r i:Nat} (hi:i < M.length):dO (redJ M c r) i = if i ≠ c ∧ i < r then uT (dO M i) (dO M c) c (dO M i).length else dO M i:=by
 simp only [dO,redJ,List.getD]; rw [cE hi]; rfl
theorem Qx {M:List (List Qi)} {n m c r:Nat} (h:iL M n m):iL (redJ M c r) n m:=by
 refine ⟨(Qv _ _ _).trans h.1,fun x hx=>?_⟩
 obtain ⟨i,hi,rfl⟩:=gS.1 hx
 have hr:=h.row (i:=i) (by rw [← h.1]; exact hi)
 show (if i ≠ c ∧ i < r then uT (dO M i) (dO M c) c (dO M i).length else dO M i).length = m
 split
 ·rw [Lz]; exact hr
 ·exact hr
theorem vS {M:List (List Qi)} {n m c i j:Nat} (h:iL M n m) (hi:i < n) (hj:j < m):gm (redJ M c n) i j = if i ≠ c ∧ c ≤ j then gm M i j - gm M i c / gm M c c * gm M c j else gm M i j:=by
 have hr:(dO M i).length = m:=h.row hi
 show gv (dO (redJ M c n) i) j = _
 rw [Qw (by rw [h.1]; exact hi)]
 by_cases e:i = c
 ·rw [if_neg (fun k=>k.1 e),if_neg (fun k=>k.1 e)]
 ·rw [if_pos ⟨e, hi⟩, uT, xG zo]
  by_cases e2:c ≤ j
  ·rw [if_pos ⟨e2,by omega⟩,if_pos ⟨e,e2⟩]
  ·rw [if_neg (fun k=>e2 k.1),if_neg (fun k=>e2 k.2)]
theorem Hb {M:List (List Qi)} {p c i:Nat} (hp:p < M.length) (hc:c < M.length):dO (swp [] M p c) i = dO M (if i = c then p else if i = p then c else i):=by
 simp only [dO,swp,List.getD]
 by_cases e:i = c
 ·subst e; rw [List.getElem?_set_self (by simpa using hc),if_pos rfl]; rfl
 ·rw [List.getElem?_set_ne (Ne.symm e), if_neg e]
  by_cases e2:i = p
  ·subst e2; rw [List.getElem?_set_self hp,if_pos rfl]; rfl
  ·rw [List.getElem?_set_ne (Ne.symm e2),if_neg e2]
theorem Ul {M:List (List Qi)} {n m p c:Nat} {x:Nat → Qi} (hl:M.length = n) (hp:p < n) (hc:c < n):Ker (swp [] M p c) n m x ↔ Ker M n m x:=by
 have key : ∀ i, gm (swp [] M p c) i = gm M (if i = c then p else if i = p then c else i) := fun i => by
  funext j; exact congrArg (fun r=>gv r j) (Hb zo zo)
 constructor
 ·intro h i hi
  have h1:=h (if i = c then p else if i = p then c else i) (by split <;> (try split) <;> omega)
  rw [key] at h1
  have e : (if (if i = c then p else if i = p then c else i) = c then p else if (if i = c then p else if i = p then c else i) = p then c else (if i = c then p else if i = p then c else i)) = i := by
   by_cases e1:i = c
   ·subst e1; rw [if_pos rfl]
    by_cases e2:p = i
    ·rw [if_pos e2]; exact e2
    ·rw [if_neg e2,if_pos rfl]
   ·rw [if_neg e1]
    by_cases e2:i = p
    ·subst e2; rw [if_pos rfl,if_pos rfl]
    ·rw [if_neg e2,if_neg e1,if_neg e2]
  rw [e] at h1; exact h1
 ·intro h i hi
  rw [key]; exact h _ (by split <;> (try split) <;> omega)
theorem Uk {M:List (List Qi)} {n m c:Nat} {x:Nat → Qi} (hs:iL M n m) (hc:c < n) (hz:∀ j,j < c → gm M c j = 0):Ker (redJ M c n) n m x ↔ Ker M n m x:=by
 have key : ∀ i, i < n → i ≠ c → lC m (fun k => gm (redJ M c n) i k * x k) = lC m (fun k => gm M i k * x k) - gm M i c / gm M c c * lC m (fun k => gm M c k * x k) := fun i hi e => by
  rw [← Ey]
  refine nB fun k hk=>?_
  rw [vS hs hi hk]
  by_cases e2:c ≤ k
  ·rw [if_pos ⟨e,e2⟩]; grind
  ·rw [if_neg (fun h=>e2 h.2),hz k zo]; grind
 have keyc:lC m (fun k=>gm (redJ M c n) c k * x k) = lC m (fun k=>gm M c k * x k):=nB fun k hk=>by rw [vS hs hc hk,if_neg (fun h=>h.1 rfl)]
 constructor
 ·intro h i hi
  have h0:=h c hc
  rw [keyc] at h0
  by_cases e:i = c
  ·rw [e]; exact h0
  ·have h1 := h i hi
   rw [key i hi e,h0] at h1
   grind
 ·intro h i hi
  have h0:=h c hc
  by_cases e:i = c
  ·rw [e,keyc]; exact h0
  ·rw [key i hi e,h0,h i hi]; grind
structure GJ (M A:List (List Qi)) (n m c:Nat):Prop where
 sh:iL A n m
 ker:∀ x,Ker A n m x ↔ Ker M n m x
 off:∀ j,j < c → ∀ i,i < n → i ≠ j → gm A i j = 0
 dg:∀ j,j < c → gm A j j ≠ 0
theorem GJ.next {M A:List (List Qi)} {n m c p:Nat} (h:GJ M A n m c) (hc:c < n) (hnm:n ≤ m) (hcp:c ≤ p) (hp:p < n) (hz:gm A p c ≠ 0):GJ M (redJ (swp [] A p c) c n) n m (c + 1):=by
 have hs:iL (swp [] A p c) n m:=vW h.sh hp hc
 have hl:=h.sh.1
 have key : ∀ i, gm (swp [] A p c) i = gm A (if i = c then p else if i = p then c else i) := fun i => by
  funext j; exact congrArg (fun r=>gv r j) (Hb zo zo)
 have hcc:gm (swp [] A p c) c c ≠ 0:=by rw [key,if_pos rfl]; exact hz
 have hoff : ∀ j, j < c → ∀ i, i < n → i ≠ j → gm (swp [] A p c) i j = 0 := fun j hj i hi hij => by
  rw [key]
  by_cases e1:i = c
  ·rw [if_pos e1]; exact h.off j hj p hp zo
  ·rw [if_neg e1]
   by_cases e2:i = p
   ·rw [if_pos e2]; exact h.off j hj c hc zo
   ·rw [if_neg e2]; exact h.off j hj i hi hij
 refine ⟨Qx hs,fun x=>(Uk hs hc (fun j hj=>hoff j hj c hc zo)).trans ((Ul hl hp hc).trans (h.ker x)),fun j hj i hi hij=>?_,fun j hj=>?_⟩
 ·rw [vS hs hi zo]
  by_cases e:j = c
  ·subst e
   rw [if_pos ⟨hij,Nat.le_refl _⟩]
   have:=Ap (x:=gm (swp [] A p j) i j) hcc
   grind
  ·rw [if_neg (fun k=>by omega)]; exact hoff j zo i hi hij
 ·rw [vS hs zo zo]
  by_cases e:j = c
  ·subst e; rw [if_neg (fun k=>k.1 rfl)]; exact hcc
  ·rw [if_neg (fun k=>by omega),key,if_neg zo,if_neg zo]; exact h.dg j zo
theorem Pj {M : List (List Qi)} {n m : Nat} (hs : iL M n m) (hnm : n ≤ m) : ∀ {c : Nat} {A : List (List Qi)}, c ≤ n → Lk M c = some A → GJ M A n m c
 | 0, A, _, h => by
  obtain rfl:=Option.some.inj h
  exact ⟨hs,fun _=>Iff.rfl,fun j hj=>by omega,fun j hj=>by omega⟩
 | c + 1, A, hc, h => by
  simp only [Lk] at h
  obtain ⟨B,h1,h2⟩:=Option.bind_eq_some_iff.1 h
  split at h2
  ·cases h2
  ·rename_i e
   obtain rfl:=Option.some.inj h2
   have ih:=Pj hs hnm (c:=c) zo h1
   rw [hs.1] at e ⊢
   obtain ⟨_,i2,i3,i4⟩:=oN (M:=B) (c:=c) (n:=n) zo
   exact ih.next zo hnm i2 zo (i4 zo)
theorem Ly {rr rc : List Qi} {L c k : Nat} (h1 : dA rr L) (h2 : dA rc L) (hL : 1 ≤ L) (hp : gv rc c ≠ Qi.zero) : dA (uT rr rc c k) (6 * L + 4) := dA.tab fun j _ => by
 split
 ·exact Jd h1 h2 hL hp
 ·exact (h1.get hL j).le zo
theorem Qu {M : List (List Qi)} {L c r : Nat} (h : dM M L) (hL : 1 ≤ L) (hp : gm M c c ≠ Qi.zero) : dM (redJ M c r) (6 * L + 4) := fun x hx => by
 obtain ⟨i,hi,rfl⟩:=gS.1 hx
 show dA (if i ≠ c ∧ i < r then uT (dO M i) (dO M c) c (dO M i).length else dO M i) _
 split
 ·exact Ly (h.row i) (h.row c) hL hp
 ·exact (h.row i).le zo
theorem Pi {M : List (List Qi)} {n m L : Nat} (hs : iL M n m) (hnm : n ≤ m) (h : dM M L) (hL : 1 ≤ L) : ∀ {c : Nat} {A : List (List Qi)}, c ≤ n → Lk M c = some A → dM A (mU L c)
 | 0,A,_,e=>by obtain rfl:=Option.some.inj e; exact h
 | c + 1, A, hc, e => by
  simp only [Lk] at e
  obtain ⟨B,h1,h2⟩:=Option.bind_eq_some_iff.1 e
  split at h2
  ·cases h2
  ·rename_i e3
   obtain rfl:=Option.some.inj h2
   have ih:=Pi hs hnm h hL (c:=c) zo h1
   have hsB:=(Pj hs hnm (c:=c) zo h1).sh
   rw [hs.1] at e3 ⊢
   obtain ⟨_,i2,i3,i4⟩:=oN (M:=B) (c:=c) (n:=n) zo
   refine Qu (Br ih) (Nat.le_trans hL (sW L c)) ?_
   show gv (dO (swp [] _ _ c) c) c ≠ _
   rw [xX (by rw [hsB.1]; omega)]
   exact i4 zo
end
section
open Go Go.RowKit
abbrev pA (ps:List (Nat × Nat)) (k:Nat):Nat:=(ps.getD k (0,0)).1
abbrev pB (ps:List (Nat × Nat)) (k:Nat):Nat:=(ps.getD k (0,0)).2
end
section
open Go Go.RowKit
def Zl (A:List (List Qi)) (c i j:Nat):Qi:=if j < c ∧ j < i then 0 else gm A i j
def yI (F:Nat → Nat → Qi) (n m:Nat) (x:Nat → Qi):Prop:=∀ i,i < n → lC m (fun k=>F i k * x k) = 0
theorem Gg {F G:Nat → Nat → Qi} {n m:Nat} {x:Nat → Qi} (h:∀ i,i < n → ∀ j,j < m → F i j = G i j):yI F n m x ↔ yI G n m x:=by
 have e:∀ i,i < n → lC m (fun k=>F i k * x k) = lC m (fun k=>G i k * x k):=fun i hi=>nB fun k hk=>by rw [h i hi k hk]
 exact ⟨fun k i hi=>by rw [← e i hi]; exact k i hi,fun k i hi=>by rw [e i hi]; exact k i hi⟩
def Ru (p c i:Nat):Nat:=if i = c then p else if i = p then c else i
theorem Rv {p c i n:Nat} (hp:p < n) (hc:c < n) (hi:i < n):Ru p c i < n:=by unfold Ru; split <;> (try split) <;> omega
theorem Ww (p c i:Nat):Ru p c (Ru p c i) = i:=by
 unfold Ru
 by_cases e1:i = c
 ·subst e1
  rw [if_pos rfl]
  by_cases e2:p = i
  ·rw [if_pos e2]; exact e2
  ·rw [if_neg e2,if_pos rfl]
 ·rw [if_neg e1]
  by_cases e2:i = p
  ·subst e2; rw [if_pos rfl,if_pos rfl]
  ·rw [if_neg e2,if_neg e1,if_neg e2]
theorem Pq {F : Nat → Nat → Qi} {n m p c : Nat} {x : Nat → Qi} (hp : p < n) (hc : c < n) : yI (fun i => F (Ru p c i)) n m x ↔ yI F n m x :=
 ⟨fun h i hi=>by have:=h _ (Rv hp hc hi); simp only [Ww] at this; exact this,fun h i hi=>h _ (Rv hp hc hi)⟩
theorem Pp {F G:Nat → Nat → Qi} {n m c:Nat} {x f:Nat → Qi} (hc:c < n) (hG:∀ i,i < n → ∀ j,j < m → G i j = if c < i then F i j - f i * F c j else F i j):yI G n m x ↔ yI F n m x:=by
 have key : ∀ i, i < n → lC m (fun k => G i k * x k) = if c < i then lC m (fun k => F i k * x k) - f i * lC m (fun k => F c k * x k) else lC m (fun k => F i k * x k) := fun i hi => by
  by_cases e:c < i
  ·rw [if_pos e, ← Ey]
   exact nB fun k hk=>by rw [hG i hi k hk,if_pos e]; grind
  ·rw [if_neg e]
   exact nB fun k hk=>by rw [hG i hi k hk,if_neg e]
 have kc:=key c hc
 rw [if_neg zo] at kc
 constructor
 ·intro h i hi
  have h0:=h c hc
  rw [kc] at h0
  have h1:=h i hi
  rw [key i hi] at h1
  by_cases e:c < i
  ·rw [if_pos e,h0] at h1; grind
  ·rw [if_neg e] at h1; exact h1
 ·intro h i hi
  rw [key i hi]
  by_cases e:c < i
  ·rw [if_pos e,h i hi,h c hc]; grind
  ·rw [if_neg e]; exact h i hi
theorem Vy {M:List (List Qi)} {n m c i j:Nat} (h:iL M n m) (hi:i < n) (hj:j < m):gm (redM M c n) i j = if c < i ∧ c < j then gm M i j - gm M i c / gm M c c * gm M c j else gm M i j:=by
 have hr:(dO M i).length = m:=h.row hi
 have e0 : dO (redM M c n) i = if c < i ∧ i < n then jP (dO M i) (dO M c) c (dO M i).length else dO M i := by
  simp only [dO,redM,List.getD]; rw [cE (by rw [h.1]; exact hi)]; rfl
 show gv (dO (redM M c n) i) j = _
 rw [e0]
 by_cases e:c < i
 ·rw [if_pos ⟨e, hi⟩, jP, xG zo]
  by_cases e2:c < j
  ·rw [if_pos ⟨e2,by omega⟩,if_pos ⟨e,e2⟩]
  ·rw [if_neg (fun k=>e2 k.1),if_neg (fun k=>e2 k.2)]
 ·rw [if_neg (fun k=>e k.1),if_neg (fun k=>e k.1)]
theorem Tp {A:List (List Qi)} {p c i j:Nat} (hc:c < A.length) (hp:p < A.length) (hcp:c ≤ p):Zl (swp [] A p c) c i j = Zl A c (Ru p c i) j:=by
 have key:gm (swp [] A p c) i j = gm A (Ru p c i) j:=congrArg (fun r=>gv r j) (Hb zo zo)
 unfold Zl
 rw [key]
 have e:(j < c ∧ j < i) ↔ (j < c ∧ j < Ru p c i):=by unfold Ru; split <;> (try split) <;> omega
 by_cases h:j < c ∧ j < i
 ·rw [if_pos h,if_pos (e.1 h)]
 ·rw [if_neg h,if_neg (fun k=>h (e.2 k))]
structure EL (M A:List (List Qi)) (n m c:Nat):Prop where
 sh:iL A n m
 ker:∀ x,yI (Zl A c) n m x ↔ yI (gm M) n m x
theorem EL.next {M A:List (List Qi)} {n m c p:Nat} (h:EL M A n m c) (hc:c < n) (hcm:c < m) (hcp:c ≤ p) (hp:p < n) (hz:gm A p c ≠ 0):EL M (redM (if p = c then A else swp [] A p c) c n) n m (c + 1):=by
 have hl:=h.sh.1
 obtain ⟨B,hB⟩:∃ B,B = if p = c then A else swp [] A p c:=⟨_,rfl⟩
 have hs : iL B n m := by
  rw [hB]; split
  ·exact h.sh
  ·exact vW h.sh hp hc
 have hBk : ∀ x, yI (Zl B c) n m x ↔ yI (gm M) n m x := fun x => by
  rw [hB]; split
  ·exact h.ker x
  ·exact (Gg (G:=fun i=>Zl A c (Ru p c i)) fun i hi j hj=>Tp zo zo hcp).trans ((Pq hp hc).trans (h.ker x))
 have hBz : gm B c c ≠ 0 := by
  rw [hB]; split
  ·rename_i e; rw [← e] at hz ⊢; exact hz
  ·show gv (dO (swp [] A p c) c) c ≠ 0
   rw [xX zo]; exact hz
 rw [← hB]
 refine ⟨Eh hs,fun x=>(Pp (f:=fun i=>gm B i c / gm B c c) hc fun i hi j hj=>?_).trans (hBk x)⟩
 have hd:=Ap (x:=gm B i c) hBz
 unfold Zl
 rw [Vy hs hi hj]
 by_cases e:c < i
 ·rw [if_pos e]
  by_cases e1:j < c
  ·rw [if_pos zo,if_pos zo,if_pos zo]; grind
  ·by_cases e2 : j = c
   ·subst e2
    rw [if_pos zo,if_neg zo,if_neg zo]; grind
   ·rw [if_neg zo,if_pos zo,if_neg zo,if_neg zo]
 ·rw [if_neg e, if_neg (show ¬ (c < i ∧ c < j) from fun k => e k.1)]
  by_cases e1:j < i
  ·rw [if_pos (show j < c + 1 ∧ j < i by omega),if_pos (show j < c ∧ j < i by omega)]
  ·rw [if_neg (show ¬ (j < c + 1 ∧ j < i) by omega),if_neg (show ¬ (j < c ∧ j < i) by omega)]
end
section
open Go Go.RowKit
abbrev gnI (G:List Nat):List Int:=G.map fun (q:Nat)=>(q:Int) + 1
def uB (G : List Nat) : Nat → List Nat
 | 0=>[]
 | k + 1=>uB G k ++ (if k ∈ G then [] else [k])
theorem Jj (G : List Nat) : ∀ k, (uB G k).length ≤ k
 | 0=>Nat.le_refl _
 | k + 1 => by
  have:=Jj G k
  simp only [uB,List.length_append]
  split
  ·simp; omega
  ·simp; omega
theorem Jk {p : Nat} : ∀ {k : Nat}, uB [p] k = tab (Lc p k) (nA p)
 | 0=>by rw [uB,show Lc p 0 = 0 by unfold Lc; split <;> omega]; rfl
 | k + 1 => by
  rw [uB,Jk]
  by_cases c:k = p
  ·subst c
   rw [if_pos (by simp),List.append_nil,show Lc k (k + 1) = Lc k k by unfold Lc; split <;> split <;> omega]
  ·rw [if_neg (by simpa using c)]
   have e1:nA p (Lc p k) = k:=by unfold nA Lc; split <;> split <;> omega
   have e2:Lc p (k + 1) = Lc p k + 1:=by unfold Lc; split <;> split <;> omega
   rw [e2,Rq,e1]
theorem Um {p n:Nat} (h:p < n):(uB [p] n).map Nat.succ = xJ p (n - 1):=by rw [Jk,Tx h,mD]; rfl
theorem Pk {G:List Nat} {i:Nat}:((gnI G).any fun x=>decide (((i + 1:Nat):Int) = x)) = decide (i ∈ G):=by
 rw [Bool.eq_iff_iff]
 simp only [gnI,List.any_map,List.any_eq_true,Function.comp,decide_eq_true_eq]
 constructor
 ·rintro ⟨q, h1, h2⟩
  obtain rfl:i = q:=by omega
  exact h1
 ·intro h; exact ⟨i,h,by omega⟩
abbrev rV (Q:List Nat) (i:Nat):Nat:=Q.getD i 0
def Rl (z:List Qi) (Q:List Nat):List Qi:=tab Q.length fun i=>gv z (rV Q i)
def Rj (s:List (List Qi)) (Q:List Nat):List (List Qi):=tab Q.length fun i=>tab Q.length fun j=>gm s (rV Q i) (rV Q j)
theorem Gs {Q:List Nat} {n i:Nat} (h:∀ x,x ∈ Q → x < n) (hi:i < Q.length):rV Q i < n:=h _ (by rw [show rV Q i = Q[i] by simp [rV,List.getD,hi]]; exact List.getElem_mem hi)
theorem Bq {Q:List Nat} {i:Nat} (h:i < Q.length):(Q.map Nat.succ)[i]? = some (rV Q i + 1):=by simp [rV,List.getD,h]
theorem xY {m i:Nat} {p:Nat} (h:i < m):rV (tab m (nA p)) i = nA p i:=Fa h
theorem Rm (z:List Qi) (p m:Nat):Rl z (tab m (nA p)) = Lx z p m:=by
 rw [Rl,bF]; exact eA fun i hi=>by rw [xY hi]
theorem Rk (s:List (List Qi)) (p m:Nat):Rj s (tab m (nA p)) = a1y s p m:=by
 rw [Rj,bF]; exact eA fun i hi=>eA fun j hj=>by rw [xY hi,xY hj]
theorem Wp {p m n : Nat} (hp : p < n) (hm : m = n - 1) : ∀ x, x ∈ tab m (nA p) → x < n := fun x hx => by
 obtain ⟨i,hi,rfl⟩:=gS.1 hx; exact Gy zo hp
theorem Un (p m:Nat):(tab m (nA p)).map Nat.succ = xJ p m:=by rw [mD]; rfl
end
section
open Go Go.RowKit
def gq (ps:List (Nat × Nat)) (x:Nat):Nat:=if x % 2 = 0 then pA ps (x / 2) else pB ps (x / 2)
structure Jn (ps:List (Nat × Nat)) (n K:Nat):Prop where
 lt:∀ x,x < 2 * K → gq ps x < n
 inj:∀ x y,x < 2 * K → y < 2 * K → gq ps x = gq ps y → x = y
theorem Jn.le {ps:List (Nat × Nat)} {n K k:Nat} (h:Jn ps n K) (hk:k ≤ K):Jn ps n k:=⟨fun x hx=>h.lt x zo,fun x y hx hy=>h.inj x y zo zo⟩
end
section
open Go Go.RowKit
theorem pig : ∀ {n m : Nat} {f : Nat → Nat}, (∀ x, x < m → f x < n) → (∀ x y, x < m → y < m → f x = f y → x = y) → m ≤ n
 | 0, m, f, h, _ => by
  cases m with
  | zero=>exact Nat.le_refl 0
  | succ m=>exact absurd (h 0 zo) zo
 | n + 1,0,_,_,_=>by omega
 | n + 1, k + 1, f, h, i => by
  have := pig (n := n) (m := k) (f := fun x => if f x = n then f k else f x) (fun x hx => by
   have h1:=h x zo
   have h2:=h k zo
   by_cases c:f x = n
   ·simp only [if_pos c]
    have:f k ≠ n:=fun e=>by have:=i x k zo zo (by rw [c,e]); omega
    omega
   ·simp only [if_neg c]; omega) (fun x y hx hy e=>by
   by_cases c:f x = n <;> by_cases d:f y = n
   ·exact i x y zo zo (by rw [c,d])
   ·simp only [if_pos c, if_neg d] at e
    have:=i k y zo zo e; omega
   ·simp only [if_neg c, if_pos d] at e
    have:=i x k zo zo e; omega
   ·simp only [if_neg c, if_neg d] at e
    exact i x y zo zo e)
  omega
end
section
open Go Go.RowKit
theorem Uc {x y:Qi} {L M:Nat} (hx:aP x L) (hy:aP y M) (h:y ≠ 0):aP (x / y) (L + 3 * M + 2):=⟨hx.fit.div hy.fit h⟩
end
section
open Go Go.RowKit
structure yS (O:List Nat) (n:Nat):Prop where
 nd:O.Nodup
 all:∀ x,x ∈ O ↔ 1 ≤ x ∧ x ≤ n
theorem yS.len {O:List Nat} {n:Nat} (h:yS O n):O.length = n:=by
 refine Nat.le_antisymm ?_ ?_
 ·refine pig (n := n) (f := fun i => O.getD i 0 - 1) (fun x hx => ?_) (fun x y hx hy e => ?_)
  ·have := (h.all (O.getD x 0)).1 (by rw [show O.getD x 0 = O[x] by simp [List.getD, hx]]; exact List.getElem_mem hx)
   show O.getD x 0 - 1 < n; omega
  ·have a := (h.all (O.getD x 0)).1 (by rw [show O.getD x 0 = O[x] by simp [List.getD, hx]]; exact List.getElem_mem hx)
   have b:=(h.all (O.getD y 0)).1 (by rw [show O.getD y 0 = O[y] by simp [List.getD,hy]]; exact List.getElem_mem hy)
   have e2:O.getD x 0 = O.getD y 0:=by have:O.getD x 0 - 1 = O.getD y 0 - 1:=e; omega
   rw [show O.getD x 0 = O[x] by simp [List.getD,hx],show O.getD y 0 = O[y] by simp [List.getD,hy]] at e2
   exact (List.getElem_inj h.nd).1 e2
 ·have key : ∀ j, j < n → ∃ i, i < O.length ∧ O.getD i 0 = j + 1 := fun j hj => by
   obtain ⟨i,hi,e⟩:=List.getElem_of_mem ((h.all (j + 1)).2 ⟨by omega,by omega⟩)
   exact ⟨i,hi,by simp [List.getD,hi,e]⟩
  refine pig (n:=O.length) (f:=fun j=>if hj:j < n then Classical.choose (key j hj) else 0) (fun x hx=>by simp only [dif_pos hx]; exact (Classical.choose_spec (key x hx)).1) (fun x y hx hy e=>?_)
  simp only [dif_pos hx,dif_pos hy] at e
  have a:=(Classical.choose_spec (key x hx)).2
  have b:=(Classical.choose_spec (key y hy)).2
  rw [e] at a; omega
section
variable {O:List Nat} {n:Nat}
theorem yS.at (h:yS O n) {i:Nat} (hi:i < n):1 ≤ O.getD i 0 ∧ O.getD i 0 ≤ n:=by
 have hl:=h.len
 exact (h.all _).1 (by rw [show O.getD i 0 = O[i] by simp [List.getD,show i < O.length by omega]]; exact List.getElem_mem _)
theorem yS.inj (h:yS O n) {i j:Nat} (hi:i < n) (hj:j < n) (e:O.getD i 0 = O.getD j 0):i = j:=by
 have hl:=h.len
 rw [show O.getD i 0 = O[i] by simp [List.getD,show i < O.length by omega],show O.getD j 0 = O[j] by simp [List.getD,show j < O.length by omega]] at e
 exact (List.getElem_inj h.nd).1 e
end
end
section
open Go Go.RowKit
section
variable {S:List (List Qi)} {p q r t a b:Nat}
theorem Ha {x y:Qi} (h:x - y = 0):x = y:=by grind
end
section
variable {S:Nat → Nat → Qi} {p q r t a b:Nat}
def S1 (S:Nat → Nat → Qi) (p q:Nat) (V:Nat → Qi × Qi) (a b:Nat):Qi:=S a b + (S a p * (V b).1 + S a q * (V b).2)
variable {V:Nat → Qi × Qi}
end
end
section
open Go Go.RowKit
def low (c a b:Nat):Nat:=c - (if a < c then 1 else 0) - (if b < c then 1 else 0)
def okP (N p q r t : Nat) : Bool :=
 decide ((uB [p,q] N).length = N - 2) && decide (low r p q < N - 2) && decide (low t p q < N - 2) && decide (low r p q ≠ low t p q) && decide (rV (uB [p,q] N) (low r p q) = r) && decide (rV (uB [p,q] N) (low t p q) = t)
 && decide ((uB [low r p q,low t p q] (N - 2)).map (rV (uB [p,q] N)) = uB [p,q,r,t] N) && decide ((uB [p,q,r,t] N).length = N - 4) && decide (uB [t,r,p,q] N = uB [p,q,r,t] N) && decide (uB [r,t,p,q] N = uB [p,q,r,t] N)
section
variable {z:List Qi} {S:List (List Qi)} {N p q r t:Nat} {ζ:Qi}
end
end
section
open Go Go.RowKit
def Gb (x:Qi) (N:Nat):Prop:=∃ p q:Int,x = Qi.mk (p:Rat) (q:Rat) ∧ p.natAbs ≤ N ∧ q.natAbs ≤ N
theorem Gb.le {x:Qi} {N M:Nat} (h:Gb x N) (k:N ≤ M):Gb x M:=by
 obtain ⟨p,q,e,h1,h2⟩:=h; exact ⟨p,q,e,by omega,by omega⟩
theorem Gb.add {x y:Qi} {N M:Nat} (h:Gb x N) (k:Gb y M):Gb (x + y) (N + M):=by
 obtain ⟨p,q,rfl,h1,h2⟩:=h; obtain ⟨r,s,rfl,k1,k2⟩:=k
 refine ⟨p + r,q + s,Qi.ext' ?_ ?_,by omega,by omega⟩
 ·show (p:Rat) + (r:Rat) = ((p + r:Int):Rat); push_cast; rfl
 ·show (q:Rat) + (s:Rat) = ((q + s:Int):Rat); push_cast; rfl
theorem Gb.neg {x:Qi} {N:Nat} (h:Gb x N):Gb (-x) N:=by
 obtain ⟨p,q,rfl,h1,h2⟩:=h
 refine ⟨-p,-q,Qi.ext' ?_ ?_,by omega,by omega⟩
 ·show -(p:Rat) = ((-p:Int):Rat); push_cast; rfl
 ·show -(q:Rat) = ((-q:Int):Rat); push_cast; rfl
theorem Gb.sub {x y:Qi} {N M:Nat} (h:Gb x N) (k:Gb y M):Gb (x - y) (N + M):=by rw [Qi.sub_def]; exact h.add k.neg
theorem vP {p q:Int} {N M:Nat} (h:p.natAbs ≤ N) (k:q.natAbs ≤ M):(p * q).natAbs ≤ N * M:=by rw [Int.natAbs_mul]; exact Nat.mul_le_mul h k
theorem Gb.mul {x y:Qi} {N M:Nat} (h:Gb x N) (k:Gb y M):Gb (x * y) (2 * N * M):=by
 obtain ⟨p,q,rfl,h1,h2⟩:=h; obtain ⟨r,s,rfl,k1,k2⟩:=k
 have a1:=vP h1 k1; have a2:=vP h2 k2; have a3:=vP h1 k2; have a4:=vP h2 k1
 have e:2 * N * M = N * M + N * M:=by rw [Nat.mul_assoc,Nat.two_mul]
 refine ⟨p * r - q * s,p * s + q * r,Qi.ext' ?_ ?_,by omega,by omega⟩
 ·rw [Qi.mul_re]; show (p:Rat) * (r:Rat) - (q:Rat) * (s:Rat) = ((p * r - q * s:Int):Rat); push_cast; rfl
 ·rw [Qi.mul_im]; show (p:Rat) * (s:Rat) + (q:Rat) * (r:Rat) = ((p * s + q * r:Int):Rat); push_cast; rfl
theorem Gb.sum {f : Nat → Qi} {N : Nat} : ∀ {n : Nat}, (∀ k, k < n → Gb (f k) N) → Gb (lC n f) (n * N)
 | 0,_=>⟨0,0,Qi.ext' rfl rfl,by simp,by simp⟩
 | n + 1, h => by
  rw [lC,Nat.succ_mul]
  exact (Gb.sum fun k hk=>h k zo).add (h n zo)
theorem Gb.fit {x:Qi} {N L:Nat} (h:Gb x N) (hN:N < BB ^ L) (hL:1 ≤ L):aP x L:=by
 obtain ⟨p,q,rfl,h1,h2⟩:=h
 have e:Qi.mk (p:Rat) (q:Rat) = Qi.mk' p q 1:=Qi.ext' (by rw [Qi.mk_re]; show (p:Rat) = p / ((1:Nat):Rat); grind) (by rw [Qi.mk_im]; show (q:Rat) = q / ((1:Nat):Rat); grind)
 rw [e]
 exact ⟨Qi.Fit.mk (by decide) zo zo (Qi.one_lt hL)⟩
def fs : Nat → Nat → Nat
 | 0,_=>1
 | n + 1,N=>2 * (n + 1) * N * fs n (4 * N * N)
end
section
open Go Go.RowKit
section
variable {a b:Qi} {A B C:List (List Qi)} {d e:Nat → Qi} {n:Nat}
end
theorem q2:Qi.ofInt 2 = 2:=rfl
section
variable {z:List Qi} {s:List (List Qi)}
end
end
section
open Go Go.RowKit
def tN (r:List Qi) (w:Nat):Prop:=∃ d:Qi,d ≠ 0 ∧ Gb d (BB ^ w) ∧ ∀ j,Gb (d * gv r j) (BB ^ w)
theorem tN.le {r:List Qi} {w v:Nat} (h:tN r w) (k:w ≤ v):tN r v:=by
 obtain ⟨d,d0,dg,dj⟩:=h
 have hp:BB ^ w ≤ BB ^ v:=Nat.pow_le_pow_right eP k
 exact ⟨d,d0,dg.le hp,fun j=>(dj j).le hp⟩
theorem Hg (w:Nat):2 * BB ^ w * BB ^ w + 2 * BB ^ w * BB ^ w ≤ BB ^ (2 * w + 1):=by
 have e:BB ^ (2 * w + 1) = BB ^ w * BB ^ w * BB:=by rw [Nat.pow_succ,Nat.two_mul,Nat.pow_add]
 rw [e,Nat.mul_assoc 2,← Nat.two_mul,← Nat.mul_assoc 2 2,Nat.mul_comm (2 * 2)]
 exact Nat.mul_le_mul_left _ (by decide)
theorem Zy {l:List Qi} {j:Nat} (h:l.length ≤ j):gv l j = 0:=by simp [gv,List.getD,List.getElem?_eq_none h]; rfl
theorem Uf (N:Nat):Gb 0 N:=⟨0,0,Qi.ext' rfl rfl,by simp,by simp⟩
theorem tN.red {rr rc:List Qi} {c w:Nat} {P:Nat → Prop} [DecidablePred P] (h1:tN rr w) (h2:tN rc w) (hp:gv rc c ≠ 0):tN (tab rr.length fun j=>if P j then gv rr j - gv rr c / gv rc c * gv rc j else gv rr j) (2 * w + 1):=by
 obtain ⟨d,d0,dg,dj⟩:=h1
 obtain ⟨e,e0,eg,ej⟩:=h2
 have t:=Hg w
 refine ⟨d * (e * gv rc c),fun k=>?_,(dg.mul (ej c)).le zo,fun j=>?_⟩
 ·rcases uP k with k | k
  ·exact d0 k
  ·rcases uP k with k | k
   ·exact e0 k
   ·exact hp k
 ·by_cases hj : j < rr.length
  ·rw [xG hj]
   by_cases hP:P j
   ·rw [if_pos hP]
    have hd:=Ap (x:=gv rr c) hp
    have ee : d * (e * gv rc c) * (gv rr j - gv rr c / gv rc c * gv rc j) = d * gv rr j * (e * gv rc c) - d * gv rr c * (e * gv rc j) := by
     have e2:d * (e * gv rc c) * (gv rr c / gv rc c * gv rc j) = d * (gv rr c / gv rc c * gv rc c) * (e * gv rc j):=by grind
     rw [hd] at e2
     grind
    rw [ee]
    exact (((dj j).mul (ej c)).sub ((dj c).mul (ej j))).le t
   ·rw [if_neg hP]
    have ee:d * (e * gv rc c) * gv rr j = d * gv rr j * (e * gv rc c):=by grind
    rw [ee]
    exact ((dj j).mul (ej c)).le zo
  ·rw [Zy (l := tab rr.length fun j => if P j then gv rr j - gv rr c / gv rc c * gv rc j else gv rr j) (by rw [bF]; omega)]
   have ee:d * (e * gv rc c) * 0 = 0:=by grind
   rw [ee]; exact Uf _
theorem tN.fit {r : List Qi} {w : Nat} (h : tN r w) : dA r (4 * (w + 1) + 2) := fun x hx => by
 obtain ⟨d,d0,dg,dj⟩:=h
 obtain ⟨j,hj,e⟩:=List.getElem_of_mem hx
 have e2:gv r j = x:=by simp [gv,List.getD,hj,e]
 have hlt:BB ^ w < BB ^ (w + 1):=Nat.pow_lt_pow_right (by decide) zo
 have f1:aP (d * gv r j) (w + 1):=(dj j).fit hlt zo
 have f2:aP d (w + 1):=dg.fit hlt zo
 have f3:aP (d * gv r j / d) (w + 1 + 3 * (w + 1) + 2):=Uc f1 f2 d0
 rw [Zr (z:=x) d0 (by rw [e2]; grind)] at f3
 exact f3.le zo
abbrev oY (M:List (List Qi)) (w:Nat):Prop:=∀ r,r ∈ M → tN r w
theorem oY.row {M : List (List Qi)} {w i : Nat} (h : oY M w) (hi : i < M.length) : tN (dO M i) w := h _ (by
 rw [show dO M i = M[i] by simp [dO,List.getD,hi]]; exact List.getElem_mem hi)
theorem oY.swp {M : List (List Qi)} {w p c : Nat} (h : oY M w) (hp : p < M.length) (hc : c < M.length) : oY (swp [] M p c) w := fun x hx => by
 unfold Go.Proofs.YthcmlodgnfekeaaGreat.swp at hx
 rcases List.mem_or_eq_of_mem_set hx with h1 | h1
 ·rcases List.mem_or_eq_of_mem_set h1 with h2 | h2
  ·exact h x h2
  ·rw [h2]; exact h.row hc
 ·rw [h1]; exact h.row hp
theorem oY.redM {M : List (List Qi)} {w c r : Nat} (h : oY M w) (hc : c < M.length) (hp : gm M c c ≠ Qi.zero) : oY (redM M c r) (2 * w + 1) := fun x hx => by
 obtain ⟨i,hi,rfl⟩:=gS.1 hx
 show tN (if c < i ∧ i < r then jP (dO M i) (dO M c) c (dO M i).length else dO M i) _
 split
 ·exact (h.row hi).red (h.row hc) hp
 ·exact (h.row hi).le zo
theorem oY.redJ {M : List (List Qi)} {w c r : Nat} (h : oY M w) (hc : c < M.length) (hp : gm M c c ≠ Qi.zero) : oY (redJ M c r) (2 * w + 1) := fun x hx => by
 obtain ⟨i,hi,rfl⟩:=gS.1 hx
 show tN (if i ≠ c ∧ i < r then uT (dO M i) (dO M c) c (dO M i).length else dO M i) _
 split
 ·exact (h.row hi).red (h.row hc) hp
 ·exact (h.row hi).le zo
structure SzS (M:List (List Qi)) (b:List Qi) (n G X:Nat):Prop where
 st:∀ c,c ≤ n → dM (dF (nS M [b] n) c).1 G
 bk:rQ M b n = 0 → ∀ j,j ≤ n → dA (uL (xV M b n).1 n j) X
 g1:1 ≤ G
 x1:1 ≤ X
 g:6 * G + 4 ≤ 17592186044415
 x:n * (X + G + 2) + 4 * G + 2 ≤ 17592186044415
theorem SzS.old {M:List (List Qi)} {b:List Qi} {n L:Nat} (hM:iL M n n) (hf:dM M L) (hfb:dA b L) (hL:1 ≤ L) (hg:6 * mU L n + 4 ≤ 17592186044415) (hx:Fe (mU L n) (n + 1) ≤ 17592186044415):SzS M b n (mU L n) (Fe (mU L n) n):=by
 have hcs:iL (nS M [b] n) n (n + 1):=nT hM
 have hcf:dM (nS M [b] n) L:=tW hf (fun r hr=>by simp at hr; subst hr; exact hfb) hL
 have hG1:1 ≤ mU L n:=Nat.le_trans hL (sW L n)
 refine ⟨fun c hc=>(xB hcs hcf hL hc).le (qM L hc),fun hE j hj=>?_,hG1,Nat.le_trans hG1 (Hj _ _),hg,hx⟩
 have hst:¬ 0 ≤ (xV M b n).2.2:=fun h=>by rw [rQ,if_pos h] at hE; omega
 have hf2:=Nq (Rd hM hf hfb hL) hG1 (tX hcs (Nat.le_refl n) (Kf hst)) j hj
 exact fun y hy=>(hf2 y hy).le (Ff _ hj)
structure SzJ (M:List (List Qi)) (b:List Qi) (n G:Nat):Prop where
 st:∀ c A,c ≤ n → Lk (nS M [b] n) c = some A → dM A G
 g1:1 ≤ G
 g:6 * G + 4 ≤ 17592186044415
theorem SzJ.old {M : List (List Qi)} {b : List Qi} {n L : Nat} (hM : iL M n n) (hf : dM M L) (hfb : dA b L) (hL : 1 ≤ L) (hg : 6 * mU L n + 4 ≤ 17592186044415) : SzJ M b n (mU L n) :=
 ⟨fun _ _ hc hA=>(Pi (show iL (nS M [b] n) n (n + 1) from nT hM) (Nat.le_succ n) (tW hf (fun r hr=>by simp at hr; subst hr; exact hfb) hL) hL hc hA).le (qM L hc),Nat.le_trans hL (sW L n),hg⟩
end
section
open Go Go.RowKit
theorem a15 {n:Nat} (hn:n ≤ 32):iC Tryz.prog 215 [NT .i64 n] [] (Nat) (fun B=>Is (.slice (some ⟨B,0,none⟩) n n)) (fun B=>[qZ tY B 54 32 5 (eI aL (Mr n))]) (fun _=>True):=by
 refine iC.intro Tryz.func215 rfl Tryz.ntmps215 rfl (fun cx Z=>(ts (ro rfl (cQ cV) (eX (ts (rn rfl (eW (Ts:=[Is (.bool false),Is (.slice none 0 0),Is (.bool false),Is (.slice none 0 0),Is (.slice none 0 0)]) O_32 rfl (fun V=>aW zd (aW zd (aW zd (aW zd (aW zd (aG))))))) fun B3=>(eX (ts (rm rfl (ro rfl (aD.nat (Vl (Ht rfl) (cJ 0)) (show max n 0 = n by omega)) (ro rfl (aD.nat (Bk (Ht rfl) (cJ 32)) (show min n 32 = n by omega)) ?_)))))))))))
 refine rn rfl (gB (T:=Is (.slice none 0 0)) (i:=Tryz.t54) Tryz.underlying78 vM rfl rfl (Ht rfl) rfl (fun _=>rfl) trivial (by show 24 * _ ≤ _; omega) zo) fun B9=>ra rfl (eX (cK (ts (rm rfl (ro rfl (jJ U_78 (Ht rfl)) (ro rfl (cX (cJ 0)) (eX (eG (oZ 2 rfl (Ds tY ⟨none,0,rfl⟩ (e:=32) (s:=5)) ?_)))))))))
 refine dB (fun (k : Nat) => k ≤ n) (fun (k : Nat) => n - k) (fun (k : Nat) => [(3, cH B3 0), (4, Is (.slice (some ⟨B9, 0, none⟩) n n)), (11, NT .i64 n), (12, NT .i64 k)]) (fun (k : Nat) => [Z, box B3 32 [Is (.bool false), Is (.slice none 0 0), Is (.bool false), Is (.slice none 0 0), Is (.slice none 0 0)], qZ tY B9 54 32 5 (eI aL (lT (zV n) [] n k))]) 0 (Nat.zero_le _)
  (zS rfl) (aU (fun _ _ _ h=>h) (aU (fun _ _ _ h=>h) (aU (gH (by rw [← kR,uH]; exact xQ aL n)) aY))) (fun k hk=>?_)
 refine ts (ro rfl (gZ (Ht rfl) (Ht rfl)) (eX (cK (dQ (Ht rfl) (fun hd=>?_) (fun hd=>?_)))))
 ·simp only [decide_eq_true_eq] at hd
  refine Ni 2 (k) rfl (Dl hd) (fun v hv=>(cU (cK (eG (ts (rm rfl (ra rfl (eX (cK (fZ (m:=10) (dp 4 rfl (cX (Ht rfl)) (dp 5 rfl (cX (Ht rfl)) (dp 3 rfl (eJ A_32 Z_32 (Ht rfl) (i:=1) rfl rfl rfl) (dq 17 2 rfl (dI fA (Ht rfl)) (d0 rfl (cZ Tryz.call36 (Cj (n:=0) (by decide) (by decide)) ⟨(cJ 0),trivial⟩) (eE 18 3 19 4 rfl (cM oL Tryz.call318 Ny (Ht rfl) ⟨(Ht rfl),trivial⟩) (dq 20 5 rfl (dT (xs:=[.tmp 20]) U_54 Z_32 O_32 (cW (Ht rfl) cG) rfl rfl rfl) ?_)))))))))))))))))
  refine dp 4 rfl (cX (Ht rfl)) (dq 22 7 rfl (jJ U_78 (Ht rfl)) (C.D_new (Ei:=[(21,_),(23,_)]) rfl rfl rfl (bV (bG 6 rfl rfl) (bV (bG 8 rfl rfl) bW)) (Ls Tryz.call212 (Za (m:=n) zo zo) ⟨(Ht rfl),(Ht rfl),trivial⟩) (fV bB rfl (by kernel_rfl) (zF (zF (aJ (C.F_new (fun B24=>aV (ro rfl (gQ U_78 Z_54 (Ht rfl) (Ht rfl) rfl zo (by rw [Nat.mul_one,Nat.zero_add])) ?_)))))))))
  refine Ca Z_54 (Ht rfl) (Ht rfl) (by simp only [eI,List.length_map,fH]; omega) (j:=2) (l:=4) rfl rfl rfl ?_
  refine eX ?_
  have hB24:=B24.1.2
  refine fZ (m:=9) (dp 4 rfl (cX (Ht rfl)) (dp 5 rfl (cX (Ht rfl)) (eE 26 0 27 1 rfl (gQ U_78 Z_54 (Ht rfl) (Ht rfl) rfl zo (by rw [Nat.mul_one,Nat.zero_add])) ?_)))
  refine dq 28 2 rfl (oM A_54 Z_54 (Ht rfl) (j:=2) rfl) (dp 5 rfl (cX (Ht rfl)) (dp 3 rfl (eJ A_32 Z_32 (Ht rfl) (i:=1) rfl rfl rfl) (dq 31 5 rfl (dI fA (Ht rfl)) (d0 rfl (cZ Tryz.call36 (Cj (n:=1) (by decide) (by decide)) ⟨(cJ 1),trivial⟩) (eE 32 6 33 7 rfl (cM oL Tryz.call318 Ny (Ht rfl) ⟨(Ht rfl),trivial⟩) (fV bB rfl (by kernel_rfl) (zF (zF (aJ (aV (ro rfl (eO U_54 Z_32 (Ht rfl) (Ht rfl) rfl (i:=4) rfl (by simp only [List.length_map,bF]; omega) rfl) ?_)))))))))))
  refine mN Z_32 (Ht rfl) (Ht rfl) (El.ag rfl) (i:=4) rfl rfl (by simp only [List.length_map,bF]; omega) rfl ?_
  refine eX (T_blk (mG 2 4 rfl rfl (by decide) (by simp only [eI,List.length_map,fH]; omega) ?_))
  refine cY (ro rfl (dV (Ht rfl) (cJ 1) z6) (rm rfl (eX (eR [0,1,2] rfl (by decide) (fY (k + 1) hd zo (zS rfl) (aU (fun _ _ _ h=>h) (aU (fun _ _ _ h=>h) (aU (gH (by rw [← mA (f:=zV n),← mY,zV,← kV])) aY))))))))
 ·simp only [decide_eq_false_iff_not] at hd
  obtain rfl:n = k:=Nat.le_antisymm zo hk
  refine gW rfl (ts (rm rfl (ra rfl (eX ?_))))
  exact kX B9 trivial [0,2] ⟨⟨_,rfl,fun _ _ _ h=>h⟩,⟨_,rfl,(gH (by rw [lZ]; rfl))⟩,trivial⟩ (by decide) (yR rfl (eU rfl))
theorem a14 {n:Nat} (hn:n ≤ 32):aT Tryz.prog 215 [NT .i64 n] (fC (Mr n)):=(a15 hn).fun fun B _ v S V h1 h2=>xE (s:=5) (M:=Mr n) (sX n).1.symm v S V h1 h2
theorem Oa {M:List (List Qi)} {b:List Qi} {n G X:Nat} (hM:iL M n n) (hb:b.length = n) (hz:SzS M b n G X) (h1:1 ≤ n) (hn:n ≤ 32):aT Tryz.prog 227 [fC M,bP b] (fB [bP (kP (rQ M b n) (xW M b n)),aI .i64 (rQ M b n)]):=by
 have hMl:=hM.1
 have hcs:iL (nS M [b] n) n (n + 1):=nT hM
 have hg:=hz.g
 have hx:n * (G + X + 2) + 4 * G + 2 ≤ 17592186044415:=by rw [Nat.add_comm G X]; exact hz.x
 obtain ⟨U,hU⟩:∃ U,U = (xV M b n).1:=⟨_,rfl⟩
 have hUs:iL U n (n + 1):=by rw [hU]; exact Rf hM
 have hUl:=hUs.1
 have hUf:dM U G:=by rw [hU]; exact hz.st n (Nat.le_refl n)
 have hG1:=hz.g1
 have hX1:=hz.x1
 refine aT.intro Tryz.func227 rfl Tryz.ntmps227 rfl (fun cx=>(ts (ro rfl (cQ cV) (ro rfl (cQ (cJ 0)) (eX (cK (ts (rm rfl (ro rfl (cZ Tryz.call229 (Cu hM h1 hn) ⟨(Ht rfl),trivial⟩) (ro rfl (eC (Ht rfl)) (rm rfl (fQ rfl rfl (eK rfl rfl (Ht rfl) (fun h=>cX (Ht rfl))) (fQ rfl rfl (eK rfl rfl (Ht rfl) (fun h=>dG U_54 (fJ rfl h) aA)) (fQ rfl rfl (eK rfl rfl (Ht rfl) (fun h=>cX (Ht rfl))) (fQ rfl rfl (eK rfl rfl (Ht rfl) (fun h=>dG U_78 (fJ rfl h) aA)) ?_)))))))))))))))
 refine fQ rfl rfl (eK rfl rfl (Ht rfl) (fun h=>fL (fJ rfl h) (fJ rfl h))) (ro rfl (iF (Ht rfl) (fun h=>(fJ rfl h))) (eX (iW (Ht rfl) (by simp [hMl,hb]) ?_)))
 refine cU (ts (rm rfl (ro rfl (dG U_78 (Ht rfl) (by rw [List.length_map,hMl])) ?_)))
 refine ra rfl (eX (ts (rm rfl (rm rfl (ro rfl (dT (xs:=[.tmp 26]) U_78 Z_54 Tryz.zeroValue54 (cW (Ht rfl) cG) rfl rfl rfl) (sN Tryz.call230 (yW (M:=M) (bs:=[b]) (n:=n) (m:=n) hM (fun r hr=>by simp at hr; subst hr; omega) zo zo (by simp)) ⟨(Ht rfl),(Ht rfl),trivial⟩ rfl (fun B28 _=>?_)))))))
 refine ra rfl (eX (cK (ts (rm rfl (zY Tryz.call265 (Te (n:=n) (m:=n + 1) (G:=G) hcs hz.st hG1 hg zo zo) (i:=0) rfl ⟨(Ht rfl),trivial⟩ rfl (fun uu _=>(rm rfl (ro rfl (dK (Ht rfl) rfl) (ro rfl (dK (Ht rfl) rfl) (ra rfl (ra rfl (eX (ts (rm rfl (ro rfl (kD (Ht rfl) cV) (eX (dQ (Ht rfl) (fun hs=>?_) (fun hs=>?_))))))))))))))))))
 ·have he : rQ M b n = 6 := by rw [rQ, if_pos (show 0 ≤ (xV M b n).2.2 from of_decide_eq_true hs)]
  refine ts (ro rfl (cQ cV) (ro rfl (cQ (cJ 6)) (eX (bE rfl (fX (eU rfl) ?_) (fX (eU rfl) ?_)))))
  ·exact (fun v V k=>by rw [he]; exact jA v V k)
  ·exact (aN he.symm)
 ·have hst : ¬ 0 ≤ (xV M b n).2.2 := of_decide_eq_false hs
  have he:rQ M b n = 0:=by rw [rQ,if_neg hst]
  have hdz:∀ i,i < n → gm U i i ≠ Qi.zero:=by rw [hU]; exact tX hcs (Nat.le_refl n) (Kf hst)
  refine cU (ts (rm rfl (rn rfl (iB (T:=aL Qi.zero) (i:=Tryz.t32) oP lX rfl rfl (Ht rfl) rfl kC (El.ag rfl) (by show 88 * _ ≤ _; omega) zo) fun B37=>(ra rfl (eX (cK (ts (rm rfl (ro rfl (dW (Ht rfl) (cJ 1) zo z6) (ra rfl (eX (eG (oZ 0 rfl (gH (show eI aL (dF (nS M [b] n) n).1 = eI aL U by rw [hU]; rfl)) (Hv 0 rfl (fun vs hvs=>?_)))))))))))))))
  have hvl:vs.length = n:=by have h:=hvs.len; rw [List.length_map,hUl] at h; exact h
  refine dB (fun (j : Nat) => j ≤ n) (fun (j : Nat) => n - j) (fun (j : Nat) => [(0, Is (.slice (some ⟨B28, 0, none⟩) n n)), (6, NT .i64 n), (9, Is B37), (10, aI .i64 ((n : Int) - 1 - (j : Int)))]) (fun (j : Nat) => [iU B28 54 32 5 vs vs (eI aL U), bH 32 5 B37 ((uL U n j).map aL)]) 0 (Nat.zero_le _)
   (aQ rfl (aQ rfl (aQ rfl (aZ rfl (aN zo) aX)))) (aU (fun _ _ _ h=>h) (aU (bN (by rw [uL]; exact Ki aL n)) aY)) (fun j hj=>?_)
  refine cK (ts (rm rfl (ro rfl (kD (Ht rfl) cV) (eX (dQ (Ht rfl) (fun hc=>?_) (fun hc=>?_))))))
  ·have hjn : j < n := a0W (of_decide_eq_true hc)
   obtain ⟨q,hq⟩:∃ q,q = n - (j + 1):=⟨_,rfl⟩
   have hqi:(n:Int) - 1 - (j:Int) = (q:Int):=by omega
   have hqr:(U.getD q []).length = n + 1:=hUs.row zo
   have hXf:dA (uL U n j) X:=by rw [hU]; exact hz.bk he j hj
   have hXl:=Ae U n j
   refine cU (cK (eG (ts (rm rfl (rm rfl (ro rfl (gQ U_78 Z_54 (Ht rfl) (Ht rfl) hqi zo (by rw [Nat.mul_one,Nat.zero_add])) ?_))))))
   refine ro rfl (jY A_54 Z_54 (Ht rfl) (j:=0) rfl zo) (rm rfl (ro rfl (mC U_54 Z_32 (Ht rfl) (Ht rfl) rfl (j:=0) rfl zo zo zo) (ro rfl (pS A_32 Z_32 (Ht rfl) (j:=0) rfl zo zo zo) (rn rfl (eW (Ts:=[Is (.bool false),Is (.slice none 0 0),Is (.bool false),Is (.slice none 0 0),Is (.slice none 0 0)]) O_32 rfl (fun V=>aW zd (aW zd (aW zd (aW zd (aW zd (aG))))))) fun B11=>?_))))
   refine gX Z_32 (Ht rfl) (Ht rfl) rfl (i:=2) rfl (aK rfl) rfl rfl (eX (cK (ts (rm rfl (ro rfl (xP (Ht rfl) cV (r:=((q + 1:Nat):Int)) ((uX (z:=(n:Int) - 1 - (j:Int) + 1) zo).trans zo)) ?_)))))
   refine ra rfl (eX (eG ?_))
   refine dB (fun (k : Nat) => k ≤ j) (fun (k : Nat) => j - k) (fun (k : Nat) => [(0, Is (.slice (some ⟨B28, 0, none⟩) n n)), (6, NT .i64 n), (9, Is B37), (10, aI .i64 ((n : Int) - 1 - (j : Int))), (11, cH B11 0), (12, NT .i64 (q + 1 + k))]) (fun (k : Nat) => [iU B28 54 32 5 vs vs (eI aL U), bH 32 5 B37 ((uL U n j).map aL), box B11 32 [aC (decide ((pZ U (uL U n j) n q k).a < 0)), aM (pZ U (uL U n j) n q k).a.natAbs, aC (decide ((pZ U (uL U n j) n q k).b < 0)), aM (pZ U (uL U n j) n q k).b.natAbs, aM (du (pZ U (uL U n j) n q k))]]) 0 (Nat.zero_le _)
    (zS rfl) (aU (fun _ _ _ h=>h) (aU (fun _ _ _ h=>h) (aU (aR rfl) aY))) (fun k hk=>?_)
   refine cK (ts (rm rfl (rm rfl (ro rfl (gZ (Ht rfl) (Ht rfl)) (eX (dQ (Ht rfl) (fun hf=>?_) (fun hf=>?_)))))))
   ·have hkj : k < j := by simp only [decide_eq_true_eq] at hf; omega
    haveI f1:aP (pZ U (uL U n j) n q k) (G + k * (G + X + 2)):=vV hUf hXf hG1 hX1 k
    haveI f2:aP (gm U q (q + 1 + k)) G:=hUf.get hG1 _ _
    haveI f3:aP (gv (uL U n j) (q + 1 + k)) X:=hXf.get hX1 _
    have hb1:k * (G + X + 2) + (G + X + 2) ≤ n * (G + X + 2):=by rw [← Nat.succ_mul]; exact Nat.mul_le_mul_right _ zo
    refine cU (cK (eG (fZ (m:=15) (dp 11 rfl (eJ A_32 Z_32 (Ht rfl) (i:=2) rfl rfl rfl) (dq 58 0 rfl (dI fA (Ht rfl)) (dp 0 rfl (cX (Ht rfl)) (dp 10 rfl (cX (Ht rfl)) (eE 60 2 61 3 rfl (gQ U_78 Z_54 (Ht rfl) (Ht rfl) hqi zo (by rw [Nat.mul_one,Nat.zero_add])) ?_))))))))
    refine dq 62 4 rfl (jY A_54 Z_54 (Ht rfl) (j:=0) rfl zo) (dp 12 rfl (cX (Ht rfl)) (eE 63 5 64 6 rfl (mC U_54 Z_32 (Ht rfl) (Ht rfl) rfl (j:=0) rfl zo zo zo) (dq 65 7 rfl (pS A_32 Z_32 (Ht rfl) (j:=0) rfl zo zo zo) (dq 66 8 rfl (dI fA (Ht rfl)) (dp 9 rfl (cX (Ht rfl)) (dp 12 rfl (cX (Ht rfl)) (eE 68 10 69 11 rfl (eO U_54 Z_32 (Ht rfl) (Ht rfl) rfl (i:=1) rfl (by rw [List.length_map]; omega) rfl) ?_)))))))
    refine dq 70 12 rfl (uE A_32 Z_32 (Ht rfl) (i:=1) rfl rfl (dY (dU (d:=Qi.zero) zo))) (eE 67 9 71 13 rfl (cM kI K_29 (uM (x:=gm U q (q + 1 + k)) (y:=gv (uL U n j) (q + 1 + k)) (L:=G) (M:=X) zo) (Ht rfl) ⟨(Ht rfl),trivial⟩) (fV bB rfl (by kernel_rfl) (zF (zF (zF (aJ (aJ (aJ (aV (ro rfl (cM lP K_32 (wP (x:=(pZ U (uL U n j) n q k)) (y:=gm U q (q + 1 + k) * gv (uL U n j) (q + 1 + k)) (L:=G + k * (G + X + 2)) (M:=G + X + 1) zo) (Ht rfl) ⟨(Ht rfl),trivial⟩) ?_))))))))))
    refine gX Z_32 (Ht rfl) (Ht rfl) rfl (i:=2) rfl (aK rfl) rfl rfl (eX (T_blk (cY (rm rfl (ro rfl (dV (Ht rfl) (cJ 1) z6) (ra rfl (eX (fY (k + 1) hkj zo (zS rfl) (aU (fun _ _ _ h=>h) (aU (fun _ _ _ h=>h) (aU (aR rfl) aY)))))))))))
   ·obtain rfl : k = j := Nat.le_antisymm hk (by simp only [decide_eq_false_iff_not] at hf; omega)
    haveI f1:aP (pZ U (uL U n k) n q k) (G + k * (G + X + 2)):=vV hUf hXf hG1 hX1 k
    haveI f2:aP (gm U q q) G:=hUf.get hG1 _ _
    have hb3:k * (G + X + 2) ≤ n * (G + X + 2):=Nat.mul_le_mul_right _ zo
    refine gW rfl (Y.D_start (m:=17) [(16,1,bH 32 5 B37 (((uL U n k).map aL).set q (aL ((pZ U (uL U n k) n q k) / gm U q q))))] (Y.D_step (Ei:=[(9,_)]) rfl rfl (bQ (bJ rfl rfl) bX) rfl rfl (by kernel_rfl) (dX rfl (cX (Ht rfl))) (Y.D_step (Ei:=[(10,_)]) rfl rfl (bQ (bJ rfl rfl) bX) rfl rfl (by kernel_rfl) (dX rfl (cX (Ht rfl))) (Y.D_step (Ei:=[(11,_)]) rfl rfl (bQ (bJ rfl rfl) bX) rfl rfl (by kernel_rfl) (dX rfl (eJ A_32 Z_32 (Ht rfl) (i:=2) rfl rfl rfl)) ?_))))
    refine Y.D_step (Ei:=[(77,_)]) rfl rfl (bQ (bZ 2 rfl rfl) bX) rfl rfl (by kernel_rfl) (dX rfl (dI fA (Ht rfl))) (Y.D_step (Ei:=[(0,_)]) rfl rfl (bQ (bJ rfl rfl) bX) rfl rfl (by kernel_rfl) (dX rfl (cX (Ht rfl))) (Y.D_step (Ei:=[(10,_)]) rfl rfl (bQ (bJ rfl rfl) bX) rfl rfl (by kernel_rfl) (dX rfl (cX (Ht rfl))) (Y.D_step (Ei:=[(79,_),(80,_)]) rfl rfl (bQ (bZ 4 rfl rfl) (bQ (bZ 5 rfl rfl) bX)) rfl rfl (by kernel_rfl) (dX rfl (gQ U_78 Z_54 (Ht rfl) (Ht rfl) hqi zo (by rw [Nat.mul_one,Nat.zero_add]))) ?_)))
    refine Y.D_step (Ei:=[(81,_)]) rfl rfl (bQ (bZ 6 rfl rfl) bX) rfl rfl (by kernel_rfl) (dX rfl (jY A_54 Z_54 (Ht rfl) (j:=0) rfl zo)) (Y.D_step (Ei:=[(10,_)]) rfl rfl (bQ (bJ rfl rfl) bX) rfl rfl (by kernel_rfl) (dX rfl (cX (Ht rfl))) (Y.D_step (Ei:=[(82,_),(83,_)]) rfl rfl (bQ (bZ 7 rfl rfl) (bQ (bZ 8 rfl rfl) bX)) rfl rfl (by kernel_rfl) (dX rfl (mC U_54 Z_32 (Ht rfl) (Ht rfl) hqi (j:=0) rfl zo zo zo)) ?_))
    refine Y.D_step (Ei:=[(84,_)]) rfl rfl (bQ (bZ 9 rfl rfl) bX) rfl rfl (by kernel_rfl) (dX rfl (pS A_32 Z_32 (Ht rfl) (j:=0) rfl zo zo zo)) (Y.D_step (Ei:=[(78,_),(85,_)]) rfl rfl (bQ (bZ 3 rfl rfl) (bQ (bZ 10 rfl rfl) bX)) rfl rfl (by kernel_rfl) (dX rfl (cM pO Tryz.call142 (Ig (x:=(pZ U (uL U n k) n q k)) (y:=gm U q q) (L:=G + k * (G + X + 2)) (M:=G) zo) (Ht rfl) ⟨(Ht rfl),trivial⟩)) (Y.D_step (Ei:=[(86,_)]) rfl rfl (bQ (bZ 11 rfl rfl) bX) rfl rfl (by kernel_rfl) (dX rfl (cX (Ht rfl))) ?_))
    refine Y.D_step (Ei:=[(74,_)]) rfl rfl (bQ (bZ 12 rfl rfl) bX) rfl rfl (by kernel_rfl) (dX rfl (dK (Ht rfl) rfl)) (bY (Ei:=[(74,_)]) rfl rfl (bQ (bZ 12 rfl rfl) bX) rfl rfl (dX rfl (dK (Ht rfl) rfl)) (Y.D_step (Ei:=[(75,_),(76,_)]) rfl rfl (bQ (bZ 0 rfl rfl) (bQ (bZ 1 rfl rfl) bX)) rfl rfl (by kernel_rfl) (dX rfl (eO U_54 Z_32 (Ht rfl) (Ht rfl) hqi (i:=1) rfl (by rw [List.length_map]; omega) rfl)) ?_))
    refine Y.D_putI (Ei:=[(89,_),(87,_)]) 1 rfl rfl rfl (bQ (bZ 15 rfl rfl) (bQ (bZ 13 rfl rfl) bX)) (.head _) rfl (Hm Z_32 (Ht rfl) (Ht rfl) (El.ag rfl) (i:=0) rfl rfl (by rw [List.length_map]; omega)) ?_
    refine Y.D_done bB rfl (by kernel_rfl) rfl (by simp [Y.okP]) rfl rfl (bU (bU (bU (bU (bU (bU (bU (bU (bU (bU (bU (bU (bU (bU (bU (bU (Y.F_putI (Y.F_nil ?_))))))))))))))))))
    refine eX (T_blk (cY (rm rfl (ro rfl (gP (Ht rfl) cV (uX zo)) (ra rfl (eX (eR [0,1] rfl (by decide) (fY (k + 1) hjn zo (aQ rfl (aQ rfl (aQ rfl (aZ rfl (aN zo) aX)))) (aU (fun _ _ _ h=>h) (aU (bN (by rw [kV,uL,← hq])) aY))))))))))
  ·obtain rfl : j = n := Nat.le_antisymm hj (a0X (by have h := of_decide_eq_false hc; omega))
   refine gV (i:=1) (tt:=9) rfl rfl iZ (gW rfl (ts (rm rfl (ra rfl (ro rfl (cQ (cJ 0)) (eX (bE rfl (fX (eU rfl) ?_) (fX (eU rfl) ?_))))))))
   ·exact (lB (by rw [he,xW,← hU]; rfl))
   ·exact (aN he.symm)
end
section
open Go Go.RowKit
theorem Ku {M:List (List Qi)} {n m:Nat} (hM:iL M n m) (hn:n ≤ 1000) (hm:m ≤ 1000):iC Tryz.prog 230 [fC M,Is (.slice none 0 0)] [] Nat (fun B=>Is (.slice (some ⟨B,0,none⟩) n n)) (fun B=>[qY B 54 32 5 (eI aL M)]) (fun _=>True):=by
 have h:=yW (M:=M) (bs:=[]) hM (fun b hb=>by cases hb) hn hm (by simp)
 rw [Ld hM] at h
 exact h.arg Nn
theorem Yy {M:List (List Qi)} {n G X:Nat} (hM:iL M n n) (hz:∀ i,i < n → SzS M (ek n i) n G X) (hn:n ≤ 32):aT Tryz.prog 164 [fC M] (fB [fC (kP (Ba M n) (a01 M n)),aI .i64 (Ba M n)]):=by
 have hMl:=hM.1
 refine aT.intro Tryz.func164 rfl Tryz.ntmps164 rfl (fun cx=>(ts (ro rfl (cQ cV) (ro rfl (cQ (cJ 0)) (eX (cK (ts (rm rfl (ro rfl (cZ Tryz.call229 (Ky hM hn) ⟨(Ht rfl),trivial⟩) (ro rfl (eC (Ht rfl)) (eX (iW (Ht rfl) (by rfl) ?_))))))))))))
 refine cU (ts (rm rfl (sN Tryz.call230 (Ku hM zo zo) ⟨(Ht rfl),cV,trivial⟩ rfl (fun B14 _=>(ra rfl (eX (cK (ts (rm rfl (ro rfl (dG U_78 (Ht rfl) (by rw [List.length_map,hMl])) ?_))))))))))
 refine ro rfl (cZ Tryz.call215 (a14 (n:=n) hn) ⟨(Ht rfl),trivial⟩) (ro rfl (dG U_78 (Ht rfl) aA) (ro rfl (cX (cJ 0)) (eX (eG ?_))))
 refine dB (fun (k : Nat) => k ≤ n ∧ ∀ i, i < k → rQ M (ek n i) n = 0) (fun (k : Nat) => n - k) (fun (k : Nat) => [(0, fC M), (4, Is (.slice (some ⟨B14, 0, none⟩) n n)), (17, fC (Mr n)), (18, NT .i64 n), (19, NT .i64 k)]) (fun (k : Nat) => [qY B14 54 32 5 (eI aL (pL M n k 0))]) 0 ⟨Nat.zero_le _, fun i h => by omega⟩
  (aQ rfl (aQ rfl (aQ rfl (aZ rfl (kJ (sX n).1) (zS rfl))))) (aU (gH (congrArg _ (Lo hM))) aY) (fun k ⟨hk,h0⟩=>?_)
 refine ts (ro rfl (gZ (Ht rfl) (Ht rfl)) (eX (cK (dQ (Ht rfl) (fun hd0=>?_) (fun hd0=>?_)))))
 ·simp only [decide_eq_true_eq] at hd0
  have hel:=Zq hd0
  refine cU (cK (eG (ts (rm rfl (ro rfl (dZ U_78 Z_54 (Ht rfl) (Ht rfl) rfl (dY (dU (d:=[]) (by rw [(sX n).1]; exact hd0)))) ?_)))))
  refine ro rfl (dJ A_54 Z_54 (Ht rfl)) (ra rfl (ra rfl (eX (ts (rm rfl (rm rfl (ro rfl (cZ Tryz.call227 (Oa (M:=M) (b:=ek n k) (n:=n) (G:=G) (X:=X) hM hel (hz k hd0) zo hn) ⟨(Ht rfl),(Ht rfl),trivial⟩) (rm rfl (ro rfl (dK (Ht rfl) rfl) (ro rfl (dK (Ht rfl) rfl) (ra rfl (ra rfl (eX (cK (ts (rm rfl (ro rfl (kT (Ht rfl) cV) (eX (dQ (Ht rfl) (fun he=>?_) (fun he=>?_))))))))))))))))))))
  ·have he2 : ¬ rQ M (ek n k) n = 0 := by simpa using he
   have hi:=Uj h0 hd0 he2
   refine ts (rm rfl (ro rfl (cQ cV) (ra rfl (eX (bE rfl (fX (eU rfl) ?_) (fX (eU rfl) ?_))))))
   ·exact (fun v V h=>by rw [hi,kP,if_neg he2]; exact jA v V h)
   ·exact (aN hi.symm)
  ·have he2 : rQ M (ek n k) n = 0 := by simpa using he
   have hxl:(xW M (ek n k) n).length = n:=Ae _ _ _
   refine rT (E':=[(0,_),(4,_),(5,_),(7,_),(17,_),(18,_),(19,_)]) (aQ rfl (aQ rfl (aQ rfl (aZ rfl (lB (Us:=(xW M (ek n k) n).map aL) (by rw [he2]; rfl)) (zS rfl))))) ?_
   refine cU (ts (rm rfl (ro rfl (dG U_54 (Ht rfl) aA) (ro rfl (cX (cJ 0)) (eX (eG ?_))))))
   refine dB (fun (i : Nat) => i ≤ n) (fun (i : Nat) => n - i) (fun (i : Nat) => [(0, fC M), (4, Is (.slice (some ⟨B14, 0, none⟩) n n)), (5, NT .i64 k), (7, bP (xW M (ek n k) n)), (17, fC (Mr n)), (18, NT .i64 n), (19, NT .i64 k), (34, NT .i64 n), (35, NT .i64 i)]) (fun (i : Nat) => [qY B14 54 32 5 (eI aL (pL M n k i))]) 0 (Nat.zero_le _)
    (aQ rfl (aQ rfl (aQ rfl (aQ rfl (aQ rfl (aQ rfl (aQ rfl (aZ rfl (kJ hxl) (zS rfl))))))))) (cA.refl _) (fun i hi=>?_)
   refine ts (ro rfl (gZ (Ht rfl) (Ht rfl)) (eX (cK (dQ (Ht rfl) (fun hf2=>?_) (fun hf2=>?_)))))
   ·simp only [decide_eq_true_eq] at hf2
    have hpl:=(nX M n k i).1
    have hpr:((pL M n k i).getD i []).length = n:=(nX M n k i).row hf2
    refine sP 0 (i) rfl (lO zo) (fun v=>(cU (cK (eG (ts (rm rfl (ra rfl (eX (fZ (m:=9) (dp 4 rfl (cX (Ht rfl)) (dp 9 rfl (cX (Ht rfl)) (eE 38 0 39 1 rfl (gQ U_78 Z_54 (Ht rfl) (Ht rfl) rfl zo (by rw [Nat.mul_one,Nat.zero_add])) ?_))))))))))))
    refine dq 40 2 rfl (oM A_54 Z_54 (Ht rfl) (j:=0) rfl) (dp 5 rfl (cX (Ht rfl)) (dp 7 rfl (cX (Ht rfl)) (dp 9 rfl (cX (Ht rfl)) (eE 43 5 44 6 rfl (dZ U_54 Z_32 (Ht rfl) (Ht rfl) rfl (dY (dU (d:=Qi.zero) zo))) (dq 45 7 rfl (dJ A_32 Z_32 (Ht rfl)) (fV bB rfl (by kernel_rfl) (zF (zF (aJ (aV (ro rfl (eO U_54 Z_32 (Ht rfl) (Ht rfl) rfl (i:=1) rfl (by rw [List.length_map]; omega) rfl) ?_)))))))))))
    refine mN Z_32 (Ht rfl) (Ht rfl) (El.ag rfl) (i:=1) rfl rfl (by rw [List.length_map]; omega) rfl ?_
    refine eX (T_blk (mG 0 1 rfl rfl (by decide) (by simp only [eI,List.length_map]; omega) ?_))
    refine cY (ro rfl (dV (Ht rfl) (cJ 1) z6) (rm rfl (eX (eR [0] rfl (by decide) (fY (i + 1) hf2 zo (zS rfl) (aU (gH (by rw [kV,mY,Ln hf2 hd0])) aY))))))
   ·simp only [decide_eq_false_iff_not] at hf2
    obtain rfl:n = i:=Nat.le_antisymm zo hi
    refine gW rfl (T_blk (cY (ro rfl (dV (Ht rfl) (cJ 1) z6) (rm rfl (eX ?_)))))
    refine fY (k + 1) ⟨hd0, fun j h => by
     by_cases e:j = k
     ·rw [e]; exact he2
     ·exact h0 j zo⟩ zo (zS rfl) (aU (gH (by rw [Pn])) aY)
 ·simp only [decide_eq_false_iff_not] at hd0
  obtain rfl:n = k:=Nat.le_antisymm zo hk
  have hi:=Lm h0
  refine gV (i:=0) (tt:=4) rfl rfl (xE (s:=5) (M:=pL M n n 0) (nX M n n 0).1.symm) (gW rfl (ts (rm rfl (ra rfl (ro rfl (cQ (cJ 0)) (eX (bE rfl (fX (eU rfl) ?_) (fX (eU rfl) ?_))))))))
  ·exact (lB (by rw [hi,Po]; rfl))
  ·exact (aN hi.symm)
theorem a16 {M:List (List Qi)} {n L:Nat} (hM:iL M n n) (hf:dM M L) (hL:1 ≤ L) (h1:1 ≤ n) (hn:n ≤ 32) (hg:6 * mU L n + 4 ≤ 17592186044415) (hx:Fe (mU L n) (n + 1) ≤ 17592186044415):aT Tryz.prog 164 [fC M] (fB [fC (kP (Ba M n) (a01 M n)),aI .i64 (Ba M n)]):=Yy hM (fun i _=>SzS.old hM hf (Zp hL) hL hg hx) hn
theorem Zi {m:Bool} {a b:List (List Qi)} {n i j L M:Nat} (ha:iL a n n) (hb:iL b n n) (hfa:dM a L) (hfb:dM b M) (h1:1 ≤ L) (h2:1 ≤ M) (hg:L + M + 1 ≤ 17592186044415) (hi:i < n) (hj:j < n):aT Tryz.prog 263 [NT .i64 i,NT .i64 j,PT (aC m),PT (fC a),PT (fC b)] (aL (if m = true then gm a i j - gm b i j else gm a i j + gm b i j)):=by
 have hal:=ha.1
 have hbl:=hb.1
 have har:=ha.row hi
 have hbr:=hb.row hi
 haveI f1:aP (gm a i j) L:=hfa.get h1 i j
 haveI f2:aP (gm b i j) M:=hfb.get h2 i j
 refine aT.intro Tryz.func263 rfl Tryz.ntmps263 rfl (fun cx=>(ts (rn rfl (eW (Ts:=[Is (.bool false),Is (.slice none 0 0),Is (.bool false),Is (.slice none 0 0),Is (.slice none 0 0)]) O_32 rfl (fun V=>aW zd (aW zd (aW zd (aW zd (aW zd (aG))))))) fun B7=>(eX (cK (ts (ro rfl (dJ A_4 Z_4 (Ht rfl)) (eX (dQ (Ht rfl) (fun hm=>?_) (fun hm=>?_))))))))))
 ·refine cK (fZ (m := 15) (dp 3 rfl (dJ A_78 Z_78 (Ht rfl)) (dp 0 rfl (cX (Ht rfl)) (eE 9 0 10 1 rfl (dZ U_78 Z_54 (Ht rfl) (Ht rfl) rfl (dY (dU (d := []) zo))) (dq 11 2 rfl (dJ A_54 Z_54 (Ht rfl)) (dp 1 rfl (cX (Ht rfl)) (eE 12 3 13 4 rfl (dZ U_54 Z_32 (Ht rfl) (Ht rfl) rfl (dY (dU (d := Qi.zero) zo))) (dq 14 5 rfl (dJ A_32 Z_32 (Ht rfl)) (dq 15 6 rfl (dI fA (Ht rfl)) (dp 4 rfl (dJ A_78 Z_78 (Ht rfl)) ?_))))))))))
  refine dp 0 rfl (cX (Ht rfl)) (eE 17 8 18 9 rfl (dZ U_78 Z_54 (Ht rfl) (Ht rfl) rfl (dY (dU (d:=[]) zo))) (dq 19 10 rfl (dJ A_54 Z_54 (Ht rfl)) (dp 1 rfl (cX (Ht rfl)) (eE 20 11 21 12 rfl (dZ U_54 Z_32 (Ht rfl) (Ht rfl) rfl (dY (dU (d:=Qi.zero) zo))) (dq 22 13 rfl (dJ A_32 Z_32 (Ht rfl)) (fV bB rfl (by kernel_rfl) (zF (zF (zF (aJ (aJ (aJ (aV ?_)))))))))))))
  refine ro rfl (cM lP K_32 (wP (x:=gm a i j) (y:=gm b i j) (L:=L) (M:=M) hg) (Ht rfl) ⟨(Ht rfl),trivial⟩) (gX Z_32 (Ht rfl) (Ht rfl) rfl (i:=0) rfl (aK rfl) rfl rfl (eX (fW rfl (fX (fU A_32 Z_32 rfl (i:=0) rfl rfl) ?_))))
  exact (jD (by rw [if_pos hm]))
 ·refine cU (cK (fZ (m := 15) (dp 3 rfl (dJ A_78 Z_78 (Ht rfl)) (dp 0 rfl (cX (Ht rfl)) (eE 25 0 26 1 rfl (dZ U_78 Z_54 (Ht rfl) (Ht rfl) rfl (dY (dU (d := []) zo))) (dq 27 2 rfl (dJ A_54 Z_54 (Ht rfl)) (dp 1 rfl (cX (Ht rfl)) (eE 28 3 29 4 rfl (dZ U_54 Z_32 (Ht rfl) (Ht rfl) rfl (dY (dU (d := Qi.zero) zo))) (dq 30 5 rfl (dJ A_32 Z_32 (Ht rfl)) (dq 31 6 rfl (dI fA (Ht rfl)) (dp 4 rfl (dJ A_78 Z_78 (Ht rfl)) ?_)))))))))))
  refine dp 0 rfl (cX (Ht rfl)) (eE 33 8 34 9 rfl (dZ U_78 Z_54 (Ht rfl) (Ht rfl) rfl (dY (dU (d:=[]) zo))) (dq 35 10 rfl (dJ A_54 Z_54 (Ht rfl)) (dp 1 rfl (cX (Ht rfl)) (eE 36 11 37 12 rfl (dZ U_54 Z_32 (Ht rfl) (Ht rfl) rfl (dY (dU (d:=Qi.zero) zo))) (dq 38 13 rfl (dJ A_32 Z_32 (Ht rfl)) (fV bB rfl (by kernel_rfl) (zF (zF (zF (aJ (aJ (aJ (aV ?_)))))))))))))
  refine ro rfl (cM pN Tryz.call33 (Ib (x:=gm a i j) (y:=gm b i j) (L:=L) (M:=M) hg) (Ht rfl) ⟨(Ht rfl),trivial⟩) (gX Z_32 (Ht rfl) (Ht rfl) rfl (i:=0) rfl (aK rfl) rfl rfl (eX (fW rfl (fX (fU A_32 Z_32 rfl (i:=0) rfl rfl) ?_))))
  exact (jD (by rw [if_neg (by rw [hm]; decide)]))
theorem Xp {m:Bool} {a b:List (List Qi)} {n L M:Nat} (ha:iL a n n) (hb:iL b n n) (hfa:dM a L) (hfb:dM b M) (h1:1 ≤ L) (h2:1 ≤ M) (hg:L + M + 1 ≤ 17592186044415) (hn:n ≤ 1000):aT Tryz.prog 217 [fC a,fC b,aC m] (fC (pmM m a b n)):=by
 have hal:=ha.1
 refine aT.intro Tryz.func217 rfl Tryz.ntmps217 rfl (fun cx=>(ts (rn rfl (nY (Ht rfl)) fun B3=>(rn rfl (nY (Ht rfl)) fun B4=>(rn rfl (nY (Ht rfl)) fun B5=>(ro rfl (cQ cV) (eX (cK (gV (i:=0) (tt:=3) rfl rfl jT (gV (i:=1) (tt:=4) rfl rfl jT (gV (i:=2) (tt:=5) rfl rfl jT (cY (ro rfl (dJ A_78 Z_78 (Ht rfl)) (ro rfl (dG U_78 (Ht rfl) (by rw [List.length_map,hal])) ?_))))))))))))))
 refine ro rfl (qP (γ:=Fin n × Fin n) (Ts:=fun x=>[NT .i64 x.1.1,NT .i64 x.2.1]) (U:=fun x=>aL (if m = true then gm a x.1.1 x.2.1 - gm b x.1.1 x.2.1 else gm a x.1.1 x.2.1 + gm b x.1.1 x.2.1)) Tryz.call263 (fun x=>Zi ha hb hfa hfb h1 h2 hg x.1.2 x.2.2) ⟨(Ht rfl),(Ht rfl),(Ht rfl),trivial⟩) (ro rfl (cZ Tryz.call144 (Ga (n:=n) (f:=fun i j=>if m = true then gm a i j - gm b i j else gm a i j + gm b i j) hn) ⟨(Ht rfl),(Ht rfl),trivial⟩) (ra rfl (eX ?_)))
 exact fW rfl (eU rfl)
theorem Th {Y M:List (List Qi)} {n L:Nat} (hM:iL M n n) (hf:dM M L) (hL:1 ≤ L) (h1:1 ≤ n) (hn:n ≤ 32) (hg:6 * mU L n + 4 ≤ 17592186044415) (hx:Fe (mU L n) (n + 1) ≤ 17592186044415) (hE:Ba M n ≠ 0):aT Tryz.prog 216 [fC Y,fC M] (fB [fC [],aI .i64 5]):=by
 refine aT.intro Tryz.func216 rfl Tryz.ntmps216 rfl (fun cx=>(ts (ro rfl (cQ cV) (ro rfl (cQ (cJ 0)) (eX (ts (rm rfl (ro rfl (cZ Tryz.call164 (a16 hM hf hL h1 hn hg hx) ⟨(Ht rfl),trivial⟩) (rm rfl (ro rfl (dK (Ht rfl) rfl) (ro rfl (dK (Ht rfl) rfl) (ra rfl (ra rfl (eX (cK (ts (rm rfl (ro rfl (kT (Ht rfl) cV) (eX (Aa (Ht rfl) (by simp [hE]) ?_))))))))))))))))))))
 refine ts (ro rfl (cQ cV) (ro rfl (cQ (cJ 5)) (eX (bE rfl (fX (eU rfl) ?_) (eU rfl)))))
 exact (fun v V h=>jA v V h)
theorem Yx {z:List Qi} {s:List (List Qi)} {L:Nat} (hs:iL s z.length z.length) (hf:dM s L) (hL:1 ≤ L) (h1:1 ≤ z.length) (hn:z.length ≤ 8) (hg:6 * mU (L + 2) z.length + 4 ≤ 17592186044415) (hx:Fe (mU (L + 2) z.length) (z.length + 1) ≤ 17592186044415) (hE:Ba (pmM true (Mr z.length) s z.length) z.length ≠ 0):aT Tryz.prog 131 [eL z s] (fB [fC [],aI .i64 5]):=by
 have hgl:=sW (L + 2) z.length
 have hid:=sX z.length
 have hif:dM (Mr z.length) 1:=Je (Nat.le_refl 1)
 have hpf:dM (pmM true (Mr z.length) s z.length) (L + 2):=by have h:=Vr (m:=true) (n:=z.length) hif hf (Nat.le_refl 1) hL; rw [show L + 2 = 1 + L + 1 by omega]; exact h
 refine aT.intro Tryz.func131 rfl Tryz.ntmps131 rfl (fun cx=>(ts (rn rfl (fG (Ht rfl)) fun B1=>(ro rfl (cQ cV) (ro rfl (cQ (cJ 0)) (eX (ts (ro rfl (eZ iH (Ht rfl) rfl) (ro rfl (eY A_54 Z_54 (Ht rfl) (i:=0) rfl rfl) (ro rfl (dG U_54 (Ht rfl) aA) (ro rfl (cZ Tryz.call215 (a14 (n:=z.length) zo) ⟨(Ht rfl),trivial⟩) (ra rfl (eX (cK (fZ (m:=13) (dp 4 rfl (cX (Ht rfl)) (dp 1 rfl (eZ iY (Ht rfl) rfl) (dq 13 1 rfl (eY A_78 Z_78 (Ht rfl) (i:=0) rfl rfl) ?_))))))))))))))))))
 refine eE 12 0 14 2 rfl (cZ Tryz.call217 (Xp (m:=false) (n:=z.length) (L:=1) (M:=L) hid hs hif hf (Nat.le_refl 1) hL zo zo) ⟨(Ht rfl),(Ht rfl),cV,trivial⟩) (dp 4 rfl (cX (Ht rfl)) (dp 1 rfl (eZ iY (Ht rfl) rfl) (dq 17 5 rfl (eY A_78 Z_78 (Ht rfl) (i:=0) rfl rfl) (eE 16 4 18 6 rfl (cZ Tryz.call217 (Xp (m:=true) (n:=z.length) (L:=1) (M:=L) hid hs hif hf (Nat.le_refl 1) hL zo zo) ⟨(Ht rfl),(Ht rfl),cV,trivial⟩) (eE 15 3 19 7 rfl (cZ Tryz.call216 (Th (n:=z.length) (L:=L + 2) Vs hpf zo h1 zo hg hx hE) ⟨(Ht rfl),(Ht rfl),trivial⟩) ?_)))))
 refine dq 20 8 rfl (cX (Ht rfl)) (dq 11 9 rfl (dK (Ht rfl) rfl) (dq 11 9 rfl (dK (Ht rfl) rfl) (dq 21 10 rfl (cQ (Ht rfl)) (fV bB rfl (by kernel_rfl) (zF (zF (zF (aJ (aV (ra rfl (eX (cK (ts (rm rfl (ro rfl (kT (Ht rfl) cV) (eX (Aa (Ht rfl) (by rfl) ?_)))))))))))))))))
 refine ts (rm rfl (ro rfl (cQ cV) (ra rfl (eX (bE rfl (fX (eU rfl) ?_) (eU rfl))))))
 exact (fun v V h=>jA v V h)
end
section
open Go Go.RowKit
theorem Zz:Tryz.prog.info? 3 = some Tryz.t3:=by kernel_rfl
theorem Wy:Tryz.prog.underlying 283 = some (.slice 3):=by kernel_rfl
end
section
open Go Go.RowKit
theorem Fs {l:List Int} {v:Int} (hl:l.length ≤ 1000000):aT Tryz.prog 287 [iE 1 (l.map (aI .i64)),aI .i64 v] (aI .i64 (yO (fun x=>decide (v = x)) l)):=by
 refine aT.intro Tryz.func287 rfl Tryz.ntmps287 rfl (fun cx=>(ts (ro rfl (cQ (cJ 0)) (eX (cK (ts (rm rfl (ro rfl (dG U_283 (Ht rfl) aA) (ro rfl (cX (cJ 0)) (eX (eG ?_)))))))))))
 refine dB (fun (k : Nat) => k ≤ l.length ∧ ∀ (i : Nat) (x : Int), i < k → l[i]? = some x → decide (v = x) = false) (fun (k : Nat) => l.length - k) (fun (k : Nat) => [(0, iE 1 (l.map (aI .i64))), (1, aI .i64 v), (7, NT .i64 l.length), (8, NT .i64 k)]) (fun (k : Nat) => []) 0 ⟨Nat.zero_le _, fun i x h => by omega⟩
  (zS rfl) aY (fun k ⟨hk,hn⟩=>?_)
 refine ts (ro rfl (gZ (Ht rfl) (Ht rfl)) (eX (cK (dQ (Ht rfl) (fun hb=>?_) (fun hb=>?_)))))
 ·simp only [decide_eq_true_eq] at hb
  refine cU (cK (eG (ts (rm rfl (ra rfl (eX (ts (rm rfl (rm rfl (rm rfl (ro rfl (dZ U_283 Z_3 (Ht rfl) (Ht rfl) rfl (dY (oV hb))) (ro rfl (dJ A_3 Z_3 (Ht rfl)) (ro rfl (jO (Ht rfl) (Ht rfl)) (eX (dQ (Ht rfl) (fun hc=>?_) (fun hc=>?_))))))))))))))))
  ·refine ts (rm rfl (ra rfl (eX (fW rfl (fX (eU rfl) ?_)))))
   exact (aN (Ax (p:=fun x=>decide (v = x)) (oV hb) hc hn).symm)
  ·refine cU (T_blk (cY (ro rfl (dV (Ht rfl) (cJ 1) z6) (rm rfl (eX ?_)))))
   refine fY (k + 1) ⟨hb, fun i x h1 h2 => by
    by_cases e:i = k
    ·subst e; rw [oV hb] at h2; obtain rfl:=Option.some.inj h2; exact hc
    ·exact hn i x zo h2⟩ zo (zS rfl) aY
 ·simp only [decide_eq_false_iff_not] at hb
  refine gW rfl (ts (ro rfl (cQ cV) (eX (fW rfl (fX (eU rfl) ?_)))))
  exact (aN (uA (p:=fun x=>decide (v = x)) (fun i x h=>hn i x (by have:=(List.getElem?_eq_some_iff.1 h).1; omega) h)).symm)
theorem yK {l:List Int} {v:Int} (hl:l.length ≤ 1000000):aT Tryz.prog 257 [iE 1 (l.map (aI .i64)),aI .i64 v] (aC (l.any fun x=>decide (v = x))):=by
 refine aT.intro Tryz.func257 rfl Tryz.ntmps257 rfl (fun cx=>(ts (ro rfl (cQ cV) (eX (ts (rm rfl (rm rfl (ro rfl (cZ Tryz.call287 (Fs zo) ⟨(Ht rfl),(Ht rfl),trivial⟩) (ro rfl (kD (Ht rfl) cV) (ra rfl (eX (fW rfl (fX (eU rfl) ?_)))))))))))))
 exact (cT (xI _ l))
theorem Tf {z:List Qi} {s:List (List Qi)} {G:List Nat} (hl:z.length ≤ 1000) (hG:G.length ≤ 1000):aT Tryz.prog 210 [eL z s,iE 1 ((gnI G).map (aI .i64))] (oT ((uB G z.length).map Nat.succ)):=by
 refine aT.intro Tryz.func210 rfl Tryz.ntmps210 rfl (fun cx=>(ts (rn rfl (fG (Ht rfl)) fun B2=>(ro rfl (cQ cV) (eX (ts (ro rfl (cQ cV) (eX (cK (ts (ro rfl (cQ (cJ 1)) (eX (eG (wK 3 1 ?_))))))))))))))
 refine gC (fun (i : Nat) (v : Value) => i ≤ z.length) (fun (i : Nat) (v : Value) => z.length - i) (fun (i : Nat) (v : Value) => [(1, iE 1 ((gnI G).map (aI .i64))), (2, cH B2 0), (5, Is v), (6, NT .i64 (i + 1))]) (fun (i : Nat) (v : Value) => [box B2 80 [bP z, fC s], bH 3 1 v (((uB G i).map Nat.succ).map (NT .i64))]) 0 (.slice none 0 0) (Nat.zero_le _)
  (zS rfl) (aU (aR rfl) (aU (bN rfl) aY)) (fun i v hi=>?_)
 refine cK (ts (rm rfl (ro rfl (eZ iH (Ht rfl) rfl) (ro rfl (eY A_54 Z_54 (Ht rfl) (i:=0) rfl rfl) (ro rfl (dG U_54 (Ht rfl) aA) (ro rfl (vR (Ht rfl) (Ht rfl)) (eX (dQ (Ht rfl) (fun hd=>?_) (fun hd=>?_)))))))))
 ·simp only [decide_eq_true_eq] at hd
  have hcl:=Jj G i
  refine cU (cK (eG (iA (fun (v2:Value)=>True) (fun (v2:Value)=>[(1,iE 1 ((gnI G).map (aI .i64))),(2,cH B2 0),(5,Is v2),(6,NT .i64 (i + 1))]) (fun (v2:Value)=>[box B2 80 [bP z,fC s],bH 3 1 v2 (((uB G (i + 1)).map Nat.succ).map (NT .i64))]) ?_ (fun v2 _=>?_))))
  ·refine ts (rm rfl (rm rfl (ro rfl (cZ Tryz.call257 (yK (l := gnI G) (v := ((i + 1 : Nat) : Int)) (by rw [List.length_map]; omega)) ⟨(Ht rfl), (Ht rfl), trivial⟩) ?_)))
   refine ro rfl (eC (Ht rfl)) (eX (dQ (Ht rfl) (fun he=>?_) (fun he=>?_)))
   ·rw [Pk] at he
    have he2:i ∉ G:=by simpa using he
    have hnx:uB G (i + 1) = uB G i ++ [i]:=by rw [uB,if_neg he2]
    refine cY (rm rfl (rm rfl (ro rfl (dT (xs:=[.tmp 19]) U_283 Z_3 O_3 (cW (Ht rfl) cG) rfl rfl rfl) (wG (inf:=Tryz.t3) Wy Zz rfl rfl rfl (Ht rfl) (Ht rfl) (i:=1) rfl (by simp) (fun T hT=>by simp at hT; subst hT; exact El.one) (by show _ * 8 ≤ _; simp only [List.length_map,List.length_cons,List.length_nil]; omega) (by simp only [List.length_map,List.length_cons,List.length_nil]; omega) rfl (fun v3=>?_)))))
    refine ra rfl (eX (aO v3 trivial (zS rfl) (aU (aR rfl) (aU (bN (by rw [hnx,List.map_append,List.map_append]; rfl)) aY))))
   ·rw [Pk] at he
    have he2:i ∈ G:=by simpa using he
    have hnx:uB G (i + 1) = uB G i:=by rw [uB,if_pos he2,List.append_nil]
    refine cU (aO v trivial (zS rfl) (aU (aR rfl) (aU (bN (by rw [hnx])) aY)))
  ·refine T_blk (cY (rm rfl (ro rfl (dV (Ht rfl) (cJ 1) z6) (ra rfl (eX (fY (i + 1,v2) hd (by dsimp only; omega) (zS rfl) (cA.refl _)))))))
 ·simp only [decide_eq_false_iff_not] at hd
  obtain rfl:z.length = i:=Nat.le_antisymm zo hi
  refine gW rfl (gV (i:=1) (tt:=5) rfl rfl iZ (ts (rm rfl (ra rfl (eX ?_)))))
  exact fW rfl (eU rfl)
theorem Zd {z:List Qi} {s:List (List Qi)} {p:Nat} (hp:p < z.length) (hl:z.length ≤ 1000):aT Tryz.prog 210 [eL z s,iE 1 [aI .i64 ((p:Int) + 1)]] (oT (xJ p (z.length - 1))):=by
 rw [← Um hp]; exact Tf (G:=[p]) hl (by simp)
theorem Ti {z:List Qi} {s:List (List Qi)} {Q:List Nat} {m:Nat} (hs:iL s z.length z.length) (hQ:∀ x,x ∈ Q → x < z.length) (hm:Q.length = m) (hm2:m ≤ 1000) (hl:z.length ≤ 1000) {i j:Nat} (hi:i < m) (hj:j < m):aT Tryz.prog 258 [NT .i64 i,NT .i64 j,PT (eL z s),PT (oT (Q.map Nat.succ))] (aL (gm s (rV Q i) (rV Q j))):=by
 have hki:rV Q i < z.length:=Gs hQ zo
 have hkj:rV Q j < z.length:=Gs hQ zo
 have hsl:=hs.1
 have hsr:=hs.row hki
 refine aT.intro Tryz.func258 rfl Tryz.ntmps258 rfl (fun cx=>(ts (rn rfl (eW (Ts:=[Is (.bool false),Is (.slice none 0 0),Is (.bool false),Is (.slice none 0 0),Is (.slice none 0 0)]) O_32 rfl (fun V=>aW zd (aW zd (aW zd (aW zd (aW zd (aG))))))) fun B6=>(eX (cK (fZ (m:=14) (dp 2 rfl (iJ iY (Ht rfl) rfl) (dq 7 0 rfl (dJ A_78 Z_78 (Ht rfl)) (dp 3 rfl (dJ A_283 Z_283 (Ht rfl)) (dp 0 rfl (cX (Ht rfl)) ?_))))))))))
 refine eE 9 2 10 3 rfl (dZ U_283 Z_3 (Ht rfl) (Ht rfl) rfl (dY (Bq zo))) (dq 11 4 rfl (dJ A_3 Z_3 (Ht rfl)) (dq 12 5 rfl (aD.nat (dW (Ht rfl) (cJ 1) zo z6) (show rV Q i + 1 - 1 = rV Q i by omega)) (eE 8 1 13 6 rfl (dZ U_78 Z_54 (Ht rfl) (Ht rfl) rfl (dY (dU (d:=[]) zo))) (dq 14 7 rfl (dJ A_54 Z_54 (Ht rfl)) (dp 3 rfl (dJ A_283 Z_283 (Ht rfl)) ?_)))))
 refine dp 1 rfl (cX (Ht rfl)) (eE 16 9 17 10 rfl (dZ U_283 Z_3 (Ht rfl) (Ht rfl) rfl (dY (Bq zo))) (dq 18 11 rfl (dJ A_3 Z_3 (Ht rfl)) (dq 19 12 rfl (aD.nat (dW (Ht rfl) (cJ 1) zo z6) (show rV Q j + 1 - 1 = rV Q j by omega)) (fV bB rfl (by kernel_rfl) (zF (zF (zF (aJ (aJ (aV (ro rfl (dZ U_54 Z_32 (Ht rfl) (Ht rfl) rfl (dY (dU (d:=Qi.zero) zo))) ?_)))))))))))
 refine ro rfl (dJ A_32 Z_32 (Ht rfl)) (gX Z_32 (Ht rfl) (Ht rfl) rfl (i:=0) rfl (aK rfl) rfl rfl (eX ?_))
 exact fW rfl (fU A_32 Z_32 rfl (i:=0) rfl rfl)
theorem Tj {z:List Qi} {s:List (List Qi)} {Q:List Nat} {m:Nat} (hs:iL s z.length z.length) (hQ:∀ x,x ∈ Q → x < z.length) (hm:Q.length = m) (hm2:m ≤ 1000) (hl:z.length ≤ 1000):iC Tryz.prog 211 [eL z s,oT (Q.map Nat.succ)] [] (Nat) (fun B=>eB [bP (Rl z Q),Is (.slice (some ⟨B,0,none⟩) m m)]) (fun B=>[qY B 54 32 5 (eI aL (Rj s Q))]) (fun _=>True):=by
 have hll:(Q.map Nat.succ).length = m:=by rw [List.length_map]; exact hm
 refine iC.intro Tryz.func211 rfl Tryz.ntmps211 rfl (fun cx Z=>(ts (rn rfl (fG (Ht rfl)) fun B2=>(rn rfl (nY (Ht rfl)) fun B3=>(rn rfl (eW (Ts:=[Is (.slice none 0 0),Is (.slice none 0 0)]) O_80 rfl (fun V=>aW zd (aW zd (aG)))) fun B4=>(eX (cK (gV (i:=1) (tt:=2) rfl rfl nI (gV (i:=2) (tt:=3) rfl rfl jT (cY (ro rfl (dJ A_283 Z_283 (Ht rfl)) (ro rfl (dG U_283 (Ht rfl) (by rw [List.length_map,hll])) ?_))))))))))))
 refine rn rfl (iB (T:=aL Qi.zero) (i:=Tryz.t32) oP lX rfl rfl (Ht rfl) rfl kC (El.ag rfl) (by show 88 * _ ≤ _; omega) zo) fun B10=>ra rfl (eX (cK (ts (ro rfl (dJ A_283 Z_283 (Ht rfl)) (ro rfl (dG U_283 (Ht rfl) (by rw [List.length_map,hll])) ?_)))))
 refine ro rfl (cX (cJ 0)) (eX (eG (eR [0,3,4] rfl (by decide) ?_)))
 refine dB (fun (i : Nat) => i ≤ m) (fun (i : Nat) => m - i) (fun (i : Nat) => [(2, PT (eL z s)), (3, PT (oT (Q.map Nat.succ))), (4, cH B4 0), (5, Is B10), (11, oT (Q.map Nat.succ)), (12, NT .i64 m), (13, NT .i64 i)]) (fun (i : Nat) => [Z, box B4 80 [Is (.slice none 0 0), Is (.slice none 0 0)], bH 32 5 B10 ((lT (fun i => gv z (rV Q i)) Qi.zero m i).map aL)]) 0 (Nat.zero_le _)
  (zS rfl) (aU (fun _ _ _ h=>h) (aU (fun _ _ _ h=>h) (aU (bN (by rw [← kR]; exact Ki aL m)) aY))) (fun i hi=>?_)
 refine ts (ro rfl (gZ (Ht rfl) (Ht rfl)) (eX (cK (dQ (Ht rfl) (fun hd=>?_) (fun hd=>?_)))))
 ·simp only [decide_eq_true_eq] at hd
  have hki:rV Q i < z.length:=Gs hQ zo
  refine cU (cK (eG (ts (rm rfl (ro rfl (dZ U_283 Z_3 (Ht rfl) (Ht rfl) rfl (dY (Bq zo))) (ro rfl (dJ A_3 Z_3 (Ht rfl)) (ra rfl (ra rfl (eX (cY (rm rfl (rm rfl (ro rfl (iJ iH (Ht rfl) rfl) (ro rfl (dJ A_54 Z_54 (Ht rfl)) (rm rfl (ro rfl (aD.nat (dW (Ht rfl) (cJ 1) zo z6) (show rV Q i + 1 - 1 = rV Q i by omega)) (ro rfl (dZ U_54 Z_32 (Ht rfl) (Ht rfl) rfl (dY (dU (d:=Qi.zero) hki))) ?_)))))))))))))))))
  refine ro rfl (dJ A_32 Z_32 (Ht rfl)) (ro rfl (eO U_54 Z_32 (Ht rfl) (Ht rfl) rfl (i:=2) rfl (by rw [List.length_map,fH]; omega) rfl) ?_)
  refine mN Z_32 (Ht rfl) (Ht rfl) (El.ag rfl) (i:=2) rfl rfl (by rw [List.length_map,fH]; omega) rfl ?_
  refine eX (T_blk (cY (ro rfl (dV (Ht rfl) (cJ 1) z6) (rm rfl (eX (fY (i + 1) hd zo (zS rfl) (aU (fun _ _ _ h=>h) (aU (fun _ _ _ h=>h) (aU (bN (by rw [kV,← mA (f:=(fun i=>gv z (rV Q i)))])) aY)))))))))
 ·simp only [decide_eq_false_iff_not] at hd
  obtain rfl:m = i:=Nat.le_antisymm zo hi
  rw [lZ]
  refine gW rfl (gV (i:=2) (tt:=5) rfl rfl iZ ?_)
  rw [show Rl z Q = tab m fun i=>gv z (rV Q i) from by rw [Rl,hm],show Rj s Q = tab m fun i=>tab m fun j=>gm s (rV Q i) (rV Q j) from by rw [Rj,hm]]
  refine ts (rm rfl (ro rfl (dJ A_283 Z_283 (Ht rfl)) (ro rfl (dG U_283 (Ht rfl) (by rw [List.length_map,hll])) ?_)))
  refine ro rfl (qP (γ:=Fin m × Fin m) (Ts:=fun x=>[NT .i64 x.1.1,NT .i64 x.2.1]) (U:=fun x=>aL (gm s (rV Q x.1.1) (rV Q x.2.1))) Tryz.call258 (fun x=>Ti hs hQ hm hm2 hl x.1.2 x.2.2) ⟨(Ht rfl),(Ht rfl),trivial⟩) (sN Tryz.call144 (Ik (n:=m) (f:=fun i j=>gm s (rV Q i) (rV Q j)) zo) ⟨(Ht rfl),(Ht rfl),trivial⟩ rfl (fun B32 _=>(ro rfl (sD (Ht rfl) (Ht rfl)) (gX Z_80 (Ht rfl) (Ht rfl) rfl (i:=1) rfl (aK rfl) rfl rfl (eX ?_)))))
  exact kX B32 trivial [0,3] ⟨⟨_,rfl,fun _ _ _ h=>h⟩,⟨_,rfl,fun _ _ _ h=>h⟩,trivial⟩ (by decide) (yR rfl (fU A_80 Z_80 rfl (i:=1) rfl rfl))
theorem Tk {z:List Qi} {s:List (List Qi)} {p m:Nat} (hs:iL s z.length z.length) (hp:p < z.length) (hm:m = z.length - 1) (hl:z.length ≤ 1000):iC Tryz.prog 211 [eL z s,oT (xJ p m)] [] Nat (fun B=>eB [bP (Lx z p m),Is (.slice (some ⟨B,0,none⟩) m m)]) (fun B=>[qY B 54 32 5 (eI aL (a1y s p m))]) (fun _=>True):=by
 have h:=Tj (Q:=tab m (nA p)) hs (Wp hp hm) (bF _ _) zo hl
 rw [Rm,Rk,Un] at h
 exact h
theorem To {n:Int} (h1:-9223372036854775808 ≤ n) (h2:n ≤ 9223372036854775807):aT Tryz.prog 154 [aI .i64 n] (aL (Qi.ofInt n)):=by
 refine aT.intro Tryz.func154 rfl Tryz.ntmps154 rfl (fun cx=>(ts (rn rfl (eW (Ts:=[Is (.bool false),Is (.slice none 0 0),Is (.bool false),Is (.slice none 0 0),Is (.slice none 0 0)]) O_32 rfl (fun V=>aW zd (aW zd (aW zd (aW zd (aW zd (aG))))))) fun B2=>(eX (ts (rn rfl (eW (Ts:=[Is (.bool false),Is (.slice none 0 0),Is (.bool false),Is (.slice none 0 0),Is (.slice none 0 0)]) O_32 rfl (fun V=>aW zd (aW zd (aW zd (aW zd (aW zd (aG))))))) fun B3=>?_))))))
 refine eX (cK (fZ (m:=4) (dp 3 rfl (eJ A_32 Z_32 (Ht rfl) (i:=1) rfl rfl rfl) (dq 4 0 rfl (dI fA (Ht rfl)) (dp 0 rfl (cX (Ht rfl)) (dq 6 2 rfl (cZ Tryz.call36 (Cj (n:=n) h1 h2) ⟨(Ht rfl),trivial⟩) (fV bB rfl (by kernel_rfl) (zF (aV (ro rfl (cM oL Tryz.call318 Ny (Ht rfl) ⟨(Ht rfl),trivial⟩) (gX Z_32 (Ht rfl) (Ht rfl) rfl (i:=0) rfl (aK rfl) rfl rfl (eX ?_))))))))))))
 exact fW rfl (fU A_32 Z_32 rfl (i:=0) rfl rfl)
end
section
open Go Go.RowKit
theorem Zb {z:List Qi} {s:List (List Qi)} {port:Int} {g:Qi} {L:Nat} (hs:iL s z.length z.length) (hf:dM s L) (hg:aP g L) (hL:1 ≤ L) (hLb:L ≤ 1000000) (hl:z.length ≤ 1000):aT Tryz.prog 121 [eL z s,aI .i64 port,aL g] (fB [eL (yC z s port g) (yB z s port g),aI .i64 (oW z s port g)]):=by
 haveI:=hg
 have hsl:=hs.1
 refine aT.intro Tryz.func121 rfl Tryz.ntmps121 rfl (fun cx=>(ts (rn rfl (fG (Ht rfl)) fun B3=>(rn rfl (fG (Ht rfl)) fun B5=>(rn rfl (eW (Ts:=[Is (.slice none 0 0),Is (.slice none 0 0)]) O_80 rfl (fun V=>aW zd (aW zd (aG)))) fun B6=>(ro rfl (cQ (cJ 0)) (eX (cK (eG (ts (ro rfl (eJ A_80 Z_80 (Ht rfl) (i:=0) rfl rfl rfl) (rm rfl (ro rfl (cZ Tryz.call209 Il ⟨(Ht rfl),(Ht rfl),trivial⟩) (ro rfl (eC (Ht rfl)) (ra rfl (eX (dQ (Ht rfl) (fun hb=>?_) (fun hb=>?_))))))))))))))))))
 ·have he : oW z s port g = 1 := a0C (by simpa only [Bool.not_eq_true', decide_eq_false_iff_not] using hb)
  refine ts (ro rfl (aD.imp (lW ) lE) (gX Z_80 (Ht rfl) (Ht rfl) rfl (i:=2) rfl (aK rfl) rfl rfl (ro rfl (cQ (cJ 1)) (eX (bE rfl (fX (fU A_80 Z_80 rfl (i:=2) rfl rfl) ?_) (fX (eU rfl) ?_))))))
  ·exact (Bt he (by decide))
  ·exact (aN he.symm)
 ·have hb2 : 1 ≤ port ∧ port ≤ (z.length : Int) := by simpa using hb
  obtain ⟨p,rfl⟩:∃ p:Nat,port = (p:Int) + 1:=⟨(port - 1).toNat,by omega⟩
  have hp:p < z.length:=by omega
  refine ts (ro rfl (eZ iH (Ht rfl) rfl) (ro rfl (eY A_54 Z_54 (Ht rfl) (i:=0) rfl rfl) (ro rfl (dG U_54 (Ht rfl) aA) (ro rfl (cD (Ht rfl) (cJ 1)) (ra rfl (eX (dQ (Ht rfl) (fun hc=>?_) (fun hc=>?_))))))))
  ·have he : oW z s ((p : Int) + 1) g = 4 := a0D hb2 (by simpa using hc)
   refine ts (ro rfl (aD.imp (lW ) lE) (gX Z_80 (Ht rfl) (Ht rfl) rfl (i:=2) rfl (aK rfl) rfl rfl (ro rfl (cQ (cJ 4)) (eX (bE rfl (fX (fU A_80 Z_80 rfl (i:=2) rfl rfl) ?_) (fX (eU rfl) ?_))))))
   ·exact (Bt he (by decide))
   ·exact (aN he.symm)
  ·have hn1 : ¬ z.length = 1 := by simpa using hc
   have htd:=a0E (s:=s) (g:=g) hp hn1
   obtain ⟨m,hm⟩:∃ m,m = z.length - 1:=⟨_,rfl⟩
   have hspl:=hs.row hp
   haveI f0:aP (Qi.ofInt 1) 1:=vI
   haveI f1:aP (gm s p p) L:=hf.get hL p p
   refine cU (T_blk (ts (rm rfl (ro rfl (gP (Ht rfl) cV (r:=((p:Nat):Int)) ((uX (z:=(p:Int) + 1 - 1) zo).trans zo)) ?_))))
   refine ra rfl (eX (cK (Y.D_start (m:=22) [] (bY (Ei:=[(5,_)]) rfl rfl (bQ (bJ rfl rfl) bX) rfl rfl (dX rfl (eJ A_32 Z_32 (Ht rfl) (i:=1) rfl rfl rfl)) (bY (Ei:=[(32,_)]) rfl rfl (bQ (bZ 0 rfl rfl) bX) rfl rfl (dX rfl (dI fA (Ht rfl))) (bY (Ei:=[]) rfl rfl bX rfl rfl (dX rfl (cZ Tryz.call154 (To (n:=1) (by decide) (by decide)) ⟨(cJ 1),trivial⟩)) (bY (Ei:=[(34,_)]) rfl rfl (bQ (bZ 2 rfl rfl) bX) rfl rfl (dX rfl (dI fA (Ht rfl))) ?_)))))))
   refine bY (Ei:=[(3,_)]) rfl rfl (bQ (bJ rfl rfl) bX) rfl rfl (dX rfl (eZ iY (Ht rfl) rfl)) (bY (Ei:=[(36,_)]) rfl rfl (bQ (bZ 4 rfl rfl) bX) rfl rfl (dX rfl (eY A_78 Z_78 (Ht rfl) (i:=0) rfl rfl)) (bY (Ei:=[(8,_)]) rfl rfl (bQ (bJ rfl rfl) bX) rfl rfl (dX rfl (cX (Ht rfl))) (bY (Ei:=[(37,_),(38,_)]) rfl rfl (bQ (bZ 5 rfl rfl) (bQ (bZ 6 rfl rfl) bX)) rfl rfl (dX rfl (dZ U_78 Z_54 (Ht rfl) (Ht rfl) rfl (dY (dU (d:=[]) zo)))) ?_)))
   refine bY (Ei:=[(39,_)]) rfl rfl (bQ (bZ 7 rfl rfl) bX) rfl rfl (dX rfl (dJ A_54 Z_54 (Ht rfl))) (bY (Ei:=[(8,_)]) rfl rfl (bQ (bJ rfl rfl) bX) rfl rfl (dX rfl (cX (Ht rfl))) (bY (Ei:=[(40,_),(41,_)]) rfl rfl (bQ (bZ 8 rfl rfl) (bQ (bZ 9 rfl rfl) bX)) rfl rfl (dX rfl (dZ U_54 Z_32 (Ht rfl) (Ht rfl) rfl (dY (dU (d:=Qi.zero) zo)))) (bY (Ei:=[(42,_)]) rfl rfl (bQ (bZ 10 rfl rfl) bX) rfl rfl (dX rfl (dJ A_32 Z_32 (Ht rfl))) ?_)))
   refine bY (Ei:=[(43,_)]) rfl rfl (bQ (bZ 11 rfl rfl) bX) rfl rfl (dX rfl (dI fA (Ht rfl))) (bY (Ei:=[(5,_)]) rfl rfl (bQ (bJ rfl rfl) bX) rfl rfl (dX rfl (eJ A_32 Z_32 (Ht rfl) (i:=1) rfl rfl rfl)) (bY (Ei:=[(44,_),(45,_)]) rfl rfl (bQ (bZ 12 rfl rfl) (bQ (bZ 13 rfl rfl) bX)) rfl rfl (dX rfl (cM kI K_29 (uM (x:=gm s p p) (y:=g) (L:=L) (M:=L) zo) (Ht rfl) ⟨(Ht rfl),trivial⟩)) (bY (Ei:=[(35,_),(46,_)]) rfl rfl (bQ (bZ 3 rfl rfl) (bQ (bZ 14 rfl rfl) bX)) rfl rfl (dX rfl (cM lP K_32 (wP (x:=Qi.ofInt 1) (y:=gm s p p * g) (L:=1) (M:=L + L + 1) (hx:=f0) zo) (Ht rfl) ⟨(Ht rfl),trivial⟩)) ?_)))
   refine bY (Ei:=[(33,_),(47,_)]) rfl rfl (bQ (bZ 1 rfl rfl) (bQ (bZ 15 rfl rfl) bX)) rfl rfl (dX rfl (cM pO Tryz.call142 (Ig (x:=g) (y:=Qi.ofInt 1 - gm s p p * g) (L:=L) (M:=1 + (L + L + 1) + 1) (hy:=@fitSub _ _ _ _ f0 inferInstance) zo) (Ht rfl) ⟨(Ht rfl),trivial⟩)) (bY (Ei:=[(48,_)]) rfl rfl (bQ (bZ 16 rfl rfl) bX) rfl rfl (dX rfl (cX (Ht rfl))) (bY (Ei:=[(31,_)]) rfl rfl (bQ (bZ 17 rfl rfl) bX) rfl rfl (dX rfl (dK (Ht rfl) rfl)) ?_))
   refine bY (Ei:=[(31,_)]) rfl rfl (bQ (bZ 17 rfl rfl) bX) rfl rfl (dX rfl (dK (Ht rfl) rfl)) (Y.D_newp (Ei:=[]) (fun bb=>box bb 32 [aC (decide ((kO s p g).a < 0)),aM (kO s p g).a.natAbs,aC (decide ((kO s p g).b < 0)),aM (kO s p g).b.natAbs,aM (du (kO s p g))]) 21 rfl rfl rfl bX rfl rfl (by kernel_rfl) (eW (Ts:=[Is (.bool false),Is (.slice none 0 0),Is (.bool false),Is (.slice none 0 0),Is (.slice none 0 0)]) O_32 rfl (fun V=>aW zd (aW zd (aW zd (aW zd (aW zd (aG))))))) ?_)
   refine Y.D_putN (Ei:=[(49,_)]) 20 rfl rfl rfl rfl rfl rfl (bQ (bZ 18 rfl rfl) bX) (fun bb=>rR Z_32 (Ht rfl) (Ht rfl) rfl (i:=0) rfl (aK rfl) rfl rfl) (Y.D_done bB rfl (by kernel_rfl) rfl (by simp [Y.okP]) rfl rfl (bU (bU (bU (bU (bU (bU (bU (bU (bU (bU (bU (bU (bU (bU (bU (bU (bU (bU (bU (bU (Y.F_newp (fun B9=>Y.F_putN (Y.F_nil ?_))))))))))))))))))))))))
   refine ra rfl (eX (cK (ts (rm rfl (ro rfl (kT (Ht rfl) cV) (eX (dQ (Ht rfl) (fun he=>?_) (fun he=>?_))))))))
   ·have hz : Qi.ofInt 1 - gm s p p * g = Qi.zero := by simp at he; exact he
    have he:oW z s ((p:Int) + 1) g = 6:=by rw [htd,if_pos hz]
    refine ts (ro rfl (aD.imp (lW ) lE) (gX Z_80 (Ht rfl) (Ht rfl) rfl (i:=2) rfl (aK rfl) rfl rfl (ro rfl (cQ (cJ 6)) (eX (bE rfl (fX (fU A_80 Z_80 rfl (i:=2) rfl rfl) ?_) (fX (eU rfl) ?_))))))
    ·exact (Bt he (by decide))
    ·exact (aN he.symm)
   ·have hz : Qi.ofInt 1 - gm s p p * g ≠ Qi.zero := by simp at he; exact he
    have he:oW z s ((p:Int) + 1) g = 0:=by rw [htd,if_neg hz]
    haveI ff:aP (kO s p g) (7 * L + 11):=Ry hf hg hL hz
    have hll:(xJ p m).length = m:=bF _ _
    refine cU (ts (ro rfl (eJ A_80 Z_80 (Ht rfl) (i:=0) rfl rfl rfl) (rm rfl (ro rfl (dT (xs:=[.tmp 55]) U_283 Z_3 O_3 (cW (Ht rfl) cG) rfl rfl rfl) (ro rfl (cZ Tryz.call210 (eQ (Zd (z:=z) (s:=s) (p:=p) hp hl) (lB (by rw [← hm]))) ⟨(Ht rfl),(Ht rfl),trivial⟩) ?_)))))
    refine ra rfl (eX (ts (ro rfl (eJ A_80 Z_80 (Ht rfl) (i:=0) rfl rfl rfl) (rm rfl (sN Tryz.call211 (Tk (p:=p) (m:=m) hs hp hm hl) ⟨(Ht rfl),(Ht rfl),trivial⟩ rfl (fun B60 _=>(rn rfl (eW (Ts:=[Is (.slice none 0 0),Is (.slice none 0 0)]) O_80 rfl (fun V=>aW zd (aW zd (aG)))) fun B12=>(gX Z_80 (Ht rfl) (Ht rfl) rfl (i:=5) rfl (aK rfl) rfl rfl (eX (cK (ts (rm rfl (ro rfl (dG U_283 (Ht rfl) (by rw [List.length_map,hll])) ?_)))))))))))))
    refine ro rfl (cX (cJ 0)) (eX (eG (eR [0,2,3,4,5] rfl (by decide) ?_)))
    refine dB (fun (i : Nat) => i ≤ m) (fun (i : Nat) => m - i) (fun (i : Nat) => [(3, cH B3 0), (6, cH B6 0), (8, NT .i64 p), (9, cH B9 0), (11, oT (xJ p m)), (12, cH B12 0), (61, oT (xJ p m)), (62, NT .i64 m), (63, NT .i64 i)]) (fun (i : Nat) => [box B3 80 [bP z, fC s], box B6 80 [Is (.slice none 0 0), Is (.slice none 0 0)], box B9 32 [aC (decide ((kO s p g).a < 0)), aM (kO s p g).a.natAbs, aC (decide ((kO s p g).b < 0)), aM (kO s p g).b.natAbs, aM (du (kO s p g))], qY B60 54 32 5 (eI aL (tA (fun i => tab m fun j => He s p (kO s p g) i j) (fun i => tab m fun j => gm s (nA p i) (nA p j)) m i)), box B12 80 [bP (Lx z p m), Is (.slice (some ⟨B60, 0, none⟩) m m)]]) 0 (Nat.zero_le _)
     (zS rfl) (aU (fun _ _ _ h=>h) (aU (fun _ _ _ h=>h) (aU (aR rfl) (aU (gH (by rw [← zI]; rfl)) (aU (aR rfl) aY))))) (fun i hi=>?_)
    refine ts (ro rfl (gZ (Ht rfl) (Ht rfl)) (eX (cK (dQ (Ht rfl) (fun hd=>?_) (fun hd=>?_)))))
    ·simp only [decide_eq_true_eq] at hd
     have hki:nA p i < z.length:=Gy zo hp
     have hsr:=hs.row hki
     refine sP 3 (i) rfl (Lh hd) (fun v=>(cU (cK (eG (ts (rm rfl (ro rfl (dZ U_283 Z_3 (Ht rfl) (Ht rfl) rfl (dY (Jl hd))) (ro rfl (dJ A_3 Z_3 (Ht rfl)) (ra rfl (ra rfl (eX (ts (rm rfl (ro rfl (dG U_283 (Ht rfl) (by rw [List.length_map,hll])) ?_))))))))))))))
     refine ro rfl (cX (cJ 0)) (eX (eG ?_))
     refine dB (fun (j : Nat) => j ≤ m) (fun (j : Nat) => m - j) (fun (j : Nat) => [(3, cH B3 0), (6, cH B6 0), (8, NT .i64 p), (9, cH B9 0), (11, oT (xJ p m)), (12, cH B12 0), (13, NT .i64 i), (14, NT .i64 (nA p i + 1)), (61, oT (xJ p m)), (62, NT .i64 m), (63, NT .i64 i), (68, oT (xJ p m)), (69, NT .i64 m), (70, NT .i64 j)]) (fun (j : Nat) => [box B3 80 [bP z, fC s], box B6 80 [Is (.slice none 0 0), Is (.slice none 0 0)], box B9 32 [aC (decide ((kO s p g).a < 0)), aM (kO s p g).a.natAbs, aC (decide ((kO s p g).b < 0)), aM (kO s p g).b.natAbs, aM (du (kO s p g))], Uq B60 54 32 5 (eI aL (tA (fun i => tab m fun j => He s p (kO s p g) i j) (fun i => tab m fun j => gm s (nA p i) (nA p j)) m i)) i v, box B12 80 [bP (Lx z p m), Is (.slice (some ⟨B60, 0, none⟩) m m)], bH 32 5 v ((tA (fun j => He s p (kO s p g) i j) (fun j => gm s (nA p i) (nA p j)) m j).map aL)]) 0 (Nat.zero_le _)
      (zS rfl) (aU (fun _ _ _ h=>h) (aU (fun _ _ _ h=>h) (aU (fun _ _ _ h=>h) (aU (fun _ _ _ h=>h) (aU (fun _ _ _ h=>h) (aU (bN (by rw [← zI])) aY)))))) (fun j hj=>?_)
     refine ts (ro rfl (gZ (Ht rfl) (Ht rfl)) (eX (cK (dQ (Ht rfl) (fun hf2=>?_) (fun hf2=>?_)))))
     ·simp only [decide_eq_true_eq] at hf2
      have hkj:nA p j < z.length:=Gy zo hp
      have hrl:=pP (fun j=>He s p (kO s p g) i j) (fun j=>gm s (nA p i) (nA p j)) m j
      haveI g1:aP (gm s (nA p i) (nA p j)) L:=hf.get hL _ _
      haveI g2:aP (gm s (nA p i) p) L:=hf.get hL _ _
      haveI g3:aP (gm s p (nA p j)) L:=hf.get hL _ _
      refine cU (cK (eG (ts (rm rfl (ro rfl (dZ U_283 Z_3 (Ht rfl) (Ht rfl) rfl (dY (Jl hf2))) (ro rfl (dJ A_3 Z_3 (Ht rfl)) (ra rfl (ra rfl (eX (fZ (m:=39) (dp 12 rfl (eZ iY (Ht rfl) rfl) (dq 75 0 rfl (eY A_78 Z_78 (Ht rfl) (i:=4) rfl rfl) (dp 13 rfl (cX (Ht rfl)) (eE 76 1 77 2 rfl (gQ U_78 Z_54 (Ht rfl) (Ht rfl) rfl zo (by rw [Nat.mul_one,Nat.zero_add])) ?_))))))))))))))
      refine dq 78 3 rfl (oM A_54 Z_54 (Ht rfl) (j:=3) rfl) (dp 15 rfl (cX (Ht rfl)) (dp 12 rfl (eZ iY (Ht rfl) rfl) (dq 81 6 rfl (eY A_78 Z_78 (Ht rfl) (i:=4) rfl rfl) (dp 13 rfl (cX (Ht rfl)) (eE 82 7 83 8 rfl (gQ U_78 Z_54 (Ht rfl) (Ht rfl) rfl zo (by rw [Nat.mul_one,Nat.zero_add])) ?_)))))
      refine dq 84 9 rfl (oM A_54 Z_54 (Ht rfl) (j:=3) rfl) (dp 15 rfl (cX (Ht rfl)) (eE 85 10 86 11 rfl (eO U_54 Z_32 (Ht rfl) (Ht rfl) rfl (i:=5) rfl (by simp only [List.length_map,hrl]; omega) rfl) ?_))
      refine dq 87 12 rfl (uE A_32 Z_32 (Ht rfl) (i:=5) rfl rfl (dY (Du hf2))) (dq 88 13 rfl (dI fA (Ht rfl)) (dp 3 rfl (eZ iY (Ht rfl) rfl) (dq 90 15 rfl (eY A_78 Z_78 (Ht rfl) (i:=0) rfl rfl) (dp 14 rfl (cX (Ht rfl)) (dq 92 17 rfl (aD.nat (dW (Ht rfl) (cJ 1) zo z6) (show nA p i + 1 - 1 = nA p i by omega)) (eE 91 16 93 18 rfl (dZ U_78 Z_54 (Ht rfl) (Ht rfl) rfl (dY (dU (d:=[]) zo))) ?_))))))
      refine dq 94 19 rfl (dJ A_54 Z_54 (Ht rfl)) (dp 8 rfl (cX (Ht rfl)) (eE 95 20 96 21 rfl (dZ U_54 Z_32 (Ht rfl) (Ht rfl) rfl (dY (dU (d:=Qi.zero) zo))) (dq 97 22 rfl (dJ A_32 Z_32 (Ht rfl)) (dq 98 23 rfl (dI fA (Ht rfl)) (dp 9 rfl (eJ A_32 Z_32 (Ht rfl) (i:=2) rfl rfl rfl) (dq 100 25 rfl (dI fA (Ht rfl)) (dp 3 rfl (eZ iY (Ht rfl) rfl) (dq 102 27 rfl (eY A_78 Z_78 (Ht rfl) (i:=0) rfl rfl) (dp 8 rfl (cX (Ht rfl)) ?_)))))))))
      refine eE 103 28 104 29 rfl (dZ U_78 Z_54 (Ht rfl) (Ht rfl) rfl (dY (dU (d:=[]) zo))) (dq 105 30 rfl (dJ A_54 Z_54 (Ht rfl)) (dp 16 rfl (cX (Ht rfl)) (dq 107 32 rfl (aD.nat (dW (Ht rfl) (cJ 1) zo z6) (show nA p j + 1 - 1 = nA p j by omega)) (eE 106 31 108 33 rfl (dZ U_54 Z_32 (Ht rfl) (Ht rfl) rfl (dY (dU (d:=Qi.zero) zo))) (dq 109 34 rfl (dJ A_32 Z_32 (Ht rfl)) ?_)))))
      refine eE 101 26 110 35 rfl (cM kI K_29 (uM (x:=kO s p g) (y:=gm s p (nA p j)) (L:=7 * L + 11) (M:=L) zo) (Ht rfl) ⟨(Ht rfl),trivial⟩) (eE 99 24 111 36 rfl (cM kI K_29 (uM (x:=gm s (nA p i) p) (y:=kO s p g * gm s p (nA p j)) (L:=L) (M:=7 * L + 11 + L + 1) zo) (Ht rfl) ⟨(Ht rfl),trivial⟩) (eE 89 14 112 37 rfl (cM pN Tryz.call33 (Ib (x:=gm s (nA p i) (nA p j)) (y:=gm s (nA p i) p * (kO s p g * gm s p (nA p j))) (L:=L) (M:=L + (7 * L + 11 + L + 1) + 1) zo) (Ht rfl) ⟨(Ht rfl),trivial⟩) ?_))
      refine fV bB rfl (by kernel_rfl) (zF (zF (zF (zF (zF (zF (zF (zF (zF (aJ (aJ (aJ (aV (ro rfl (eO U_54 Z_32 (Ht rfl) (Ht rfl) rfl (i:=5) rfl (by simp only [List.length_map,hrl]; omega) rfl) ?_))))))))))))))
      refine mN Z_32 (Ht rfl) (Ht rfl) (El.ag rfl) (i:=5) rfl rfl (by simp only [List.length_map,hrl]; omega) rfl ?_
      refine eX (T_blk (cY (ro rfl (dV (Ht rfl) (cJ 1) z6) (rm rfl (eX (fY (j + 1) hf2 zo (zS rfl) (aU (fun _ _ _ h=>h) (aU (fun _ _ _ h=>h) (aU (fun _ _ _ h=>h) (aU (fun _ _ _ h=>h) (aU (fun _ _ _ h=>h) (aU (bN (by rw [kV,← Dv (f:=fun j=>He s p (kO s p g) i j)]; rfl)) aY))))))))))))
     ·simp only [decide_eq_false_iff_not] at hf2
      obtain rfl:m = j:=Nat.le_antisymm zo hj
      refine gW rfl (T_blk (mG 3 5 rfl rfl (by decide) (by simp only [eI,List.length_map,pP]; omega) ?_))
      refine cY (ro rfl (dV (Ht rfl) (cJ 1) z6) (rm rfl (eX (eR [0,1,2,3,4] rfl (by decide) (fY (i + 1) hd zo (zS rfl) (aU (fun _ _ _ h=>h) (aU (fun _ _ _ h=>h) (aU (fun _ _ _ h=>h) (aU (gH (by rw [mY,Dt,← Dv (f:=(fun i=>tab m fun j=>He s p (kO s p g) i j))])) (aU (fun _ _ _ h=>h) aY))))))))))
    ·simp only [decide_eq_false_iff_not] at hd
     obtain rfl:m = i:=Nat.le_antisymm zo hi
     rw [Dt]
     refine gW rfl (cK (Fm 4 3 1 rfl rfl rfl (by decide) (a1O (q:=fun _=>True) (M:=a0F s p m (kO s p g)) (bF _ _).symm) ?_))
     subst hm
     refine cY (ro rfl (eJ A_80 Z_80 (Ht rfl) (i:=4) rfl rfl rfl) (gX Z_80 (Ht rfl) (Ht rfl) rfl (i:=1) rfl (aK rfl) rfl rfl (ro rfl (cQ (cJ 0)) (eX (bE rfl (fX (fU A_80 Z_80 rfl (i:=1) rfl rfl) ?_) (fX (eU rfl) ?_))))))
     ·exact (Rz he)
     ·exact (aN he.symm)
end
section
open Go Go.RowKit
theorem Cm  : aT Tryz.prog 47 [] (aC true):=by
 refine aT.intro Tryz.func47 rfl Tryz.ntmps47 rfl (fun cx=>(ts (ro rfl (cQ cV) (eX (ts (ro rfl (wN cV cV) (rn rfl (eW (Ts:=[Is (.int .i64 0),Is (.int .i64 0),Is (.int .i64 0)]) O_23 rfl (fun V=>aW zd (aW zd (aW zd (aG))))) fun B1=>(gX Z_23 (Ht rfl) (Ht rfl) rfl (i:=0) rfl (aK rfl) rfl rfl (eX (cK (Y.D_start (m:=18) [] (bY (Ei:=[]) rfl rfl bX rfl rfl (dX rfl (Ch cV)) (bY (Ei:=[]) rfl rfl bX rfl rfl (dX rfl (Ch cV)) ?_)))))))))))))
 refine bY (Ei:=[(12,_),(13,_)]) rfl rfl (bQ (bZ 0 rfl rfl) (bQ (bZ 1 rfl rfl) bX)) rfl rfl (dX rfl (dT (xs:=[.tmp 12,.tmp 13]) U_77 Z_23 O_23 (cW (Ht rfl) (cW (Ht rfl) cG)) rfl rfl rfl)) (bY (Ei:=[(14,_)]) rfl rfl (bQ (bZ 2 rfl rfl) bX) rfl rfl (dX rfl (cZ Tryz.call50 (tO (l:=[r50,r50]) (by decide)) ⟨(Ht rfl),trivial⟩)) (bY (Ei:=[(1,_)]) rfl rfl (bQ (bJ rfl rfl) bX) rfl rfl (dX rfl (eJ A_23 Z_23 (Ht rfl) (i:=0) rfl rfl rfl)) ?_))
 refine bY (Ei:=[(1,_)]) rfl rfl (bQ (bJ rfl rfl) bX) rfl rfl (dX rfl (eJ A_23 Z_23 (Ht rfl) (i:=0) rfl rfl rfl)) (bY (Ei:=[(16,_),(17,_)]) rfl rfl (bQ (bZ 4 rfl rfl) (bQ (bZ 5 rfl rfl) bX)) rfl rfl (dX rfl (dT (xs:=[.tmp 16,.tmp 17]) U_77 Z_23 O_23 (cW (Ht rfl) (cW (Ht rfl) cG)) rfl rfl rfl)) (bY (Ei:=[(1,_)]) rfl rfl (bQ (bJ rfl rfl) bX) rfl rfl (dX rfl (eJ A_23 Z_23 (Ht rfl) (i:=0) rfl rfl rfl)) ?_))
 refine bY (Ei:=[(1,_)]) rfl rfl (bQ (bJ rfl rfl) bX) rfl rfl (dX rfl (eJ A_23 Z_23 (Ht rfl) (i:=0) rfl rfl rfl)) (bY (Ei:=[(19,_),(20,_)]) rfl rfl (bQ (bZ 7 rfl rfl) (bQ (bZ 8 rfl rfl) bX)) rfl rfl (dX rfl (dT (xs:=[.tmp 19,.tmp 20]) U_77 Z_23 O_23 (cW (Ht rfl) (cW (Ht rfl) cG)) rfl rfl rfl)) (bY (Ei:=[(18,_),(21,_)]) rfl rfl (bQ (bZ 6 rfl rfl) (bQ (bZ 9 rfl rfl) bX)) rfl rfl (dX rfl (dT (xs:=[.tmp 18,.tmp 21]) U_181 Z_77 Tryz.zeroValue77 (cW (Ht rfl) (cW (Ht rfl) cG)) rfl rfl rfl)) ?_))
 refine bY (Ei:=[(22,_)]) rfl rfl (bQ (bZ 10 rfl rfl) bX) rfl rfl (dX rfl (cZ Tryz.call99 (yX (m:=[[uS,uS],[uS,uS]]) (by decide) (by intro r hr; simp at hr; subst hr; decide)) ⟨(Ht rfl),trivial⟩)) ?_
 refine bY (Ei:=[(15,_),(23,_)]) rfl rfl (bQ (bZ 3 rfl rfl) (bQ (bZ 11 rfl rfl) bX)) rfl rfl (dX rfl (cZ Tryz.call98 (eQ (Cp (z:=xF) (s:=zG) (L:=2) a1q (by decide) (by decide) (by decide)) Zt) ⟨(Ht rfl),(Ht rfl),trivial⟩)) (bY (Ei:=[(24,_)]) rfl rfl (bQ (bZ 12 rfl rfl) bX) rfl rfl (dX rfl (cX (Ht rfl))) (bY (Ei:=[(11,_)]) rfl rfl (bQ (bZ 13 rfl rfl) bX) rfl rfl (dX rfl (dK (Ht rfl) rfl)) (bY (Ei:=[(11,_)]) rfl rfl (bQ (bZ 13 rfl rfl) bX) rfl rfl (dX rfl (dK (Ht rfl) rfl)) ?_)))
 refine Y.D_newp (Ei:=[]) (fun bb=>box bb 80 [bP xF,fC zG]) 17 rfl rfl rfl bX rfl rfl (by kernel_rfl) (eW (Ts:=[Is (.slice none 0 0),Is (.slice none 0 0)]) O_80 rfl (fun V=>aW zd (aW zd (aG)))) (Y.D_putN (Ei:=[(25,_)]) 16 rfl rfl rfl rfl rfl rfl (bQ (bZ 14 rfl rfl) bX) (fun bb=>rR Z_80 (Ht rfl) (Ht rfl) rfl (i:=0) rfl (aK rfl) rfl rfl) (Y.D_done bB rfl (by kernel_rfl) rfl (by simp [Y.okP]) rfl rfl (bU (bU (bU (bU (bU (bU (bU (bU (bU (bU (bU (bU (bU (bU (bU (bU (Y.F_newp (fun B2=>Y.F_putN (Y.F_nil ?_)))))))))))))))))))))
 refine ra rfl (eX (cK (Y.D_start (m:=8) [] (bY (Ei:=[(2,_)]) rfl rfl (bQ (bJ rfl rfl) bX) rfl rfl (dX rfl (eJ A_80 Z_80 (Ht rfl) (i:=1) rfl rfl rfl)) (bY (Ei:=[]) rfl rfl bX rfl rfl (dX rfl (cZ Tryz.call36 (Cj (n:=1) (by decide) (by decide)) ⟨(cJ 1),trivial⟩)) (bY (Ei:=[(28,_),(29,_)]) rfl rfl (bQ (bZ 0 rfl rfl) (bQ (bZ 1 rfl rfl) bX)) rfl rfl (dX rfl (cZ Tryz.call121 (eQ (Zb (z:=xF) (s:=zG) (port:=((2:Nat):Int)) (g:=Qi.ofInt 1) (L:=2) Pg Xu Xt (by decide) (by decide) (by decide)) Zu) ⟨(Ht rfl),(cJ 2),(Ht rfl),trivial⟩)) ?_))))))
 refine bY (Ei:=[(30,_)]) rfl rfl (bQ (bZ 2 rfl rfl) bX) rfl rfl (dX rfl (cX (Ht rfl))) (bY (Ei:=[(27,_)]) rfl rfl (bQ (bZ 3 rfl rfl) bX) rfl rfl (dX rfl (dK (Ht rfl) rfl)) (bY (Ei:=[(27,_)]) rfl rfl (bQ (bZ 3 rfl rfl) bX) rfl rfl (dX rfl (dK (Ht rfl) rfl)) (Y.D_newp (Ei:=[]) (fun bb=>box bb 80 [bP Aw,fC Lj]) 7 rfl rfl rfl bX rfl rfl (by kernel_rfl) (eW (Ts:=[Is (.slice none 0 0),Is (.slice none 0 0)]) O_80 rfl (fun V=>aW zd (aW zd (aG)))) ?_)))
 refine Y.D_putN (Ei:=[(31,_)]) 6 rfl rfl rfl rfl rfl rfl (bQ (bZ 4 rfl rfl) bX) (fun bb=>rR Z_80 (Ht rfl) (Ht rfl) rfl (i:=0) rfl (aK rfl) rfl rfl) (Y.D_done bB rfl (by kernel_rfl) rfl (by simp [Y.okP]) rfl rfl (bU (bU (bU (bU (bU (bU (Y.F_newp (fun B4=>Y.F_putN (Y.F_nil ?_))))))))))
 refine ra rfl (eX (ts (ro rfl (eJ A_80 Z_80 (Ht rfl) (i:=2) rfl rfl rfl) (ro rfl (cZ Tryz.call130 (eQ (a10 (z:=Aw) (s:=Lj) (i:=((1:Nat):Int)) (j:=((1:Nat):Int)) Zw (by rw [Ph]; decide)) a1p) ⟨(Ht rfl),(cJ 1),(cJ 1),trivial⟩) ?_))))
 refine rm rfl (ro rfl (dK (Ht rfl) rfl) (ro rfl (dK (Ht rfl) rfl) (rn rfl (eW (Ts:=[Is (.bool false),Is (.slice none 0 0),Is (.bool false),Is (.slice none 0 0),Is (.slice none 0 0)]) O_32 rfl (fun V=>aW zd (aW zd (aW zd (aW zd (aW zd (aG))))))) fun B6=>(gX Z_32 (Ht rfl) (Ht rfl) rfl (i:=3) rfl (aK rfl) rfl rfl (ra rfl (eX (ts (ro rfl (eJ A_80 Z_80 (Ht rfl) (i:=1) rfl rfl rfl) ?_))))))))
 refine ro rfl (cZ Tryz.call131 (Yx (z:=xF) (s:=zG) (L:=2) Pg Xu (by decide) (by decide) (by decide) (by decide +kernel) (by decide +kernel) Zs) ⟨(Ht rfl),trivial⟩) (rm rfl (ro rfl (dK (Ht rfl) rfl) (ro rfl (dK (Ht rfl) rfl) (ra rfl (ra rfl (eX (ts (rm rfl (ro rfl (jO (Ht rfl) cV) (rm rfl (fQ rfl rfl (eK rfl rfl (Ht rfl) (fun h=>cX (Ht rfl))) (fQ rfl rfl (eK rfl rfl (Ht rfl) (fun h=>jO (fJ rfl h) cV)) (ro rfl (eS (Ht rfl) (fun h=>(fJ rfl h))) (rm rfl (fQ rfl rfl (eK rfl rfl (Ht rfl) (fun h=>cX (Ht rfl))) ?_)))))))))))))))
 refine fQ rfl rfl (eK rfl rfl (Ht rfl) (fun h=>jO (fJ rfl h) cV)) (ro rfl (eS (Ht rfl) (fun h=>(fJ rfl h))) (rm rfl (fQ rfl rfl (eK rfl rfl (Ht rfl) (fun h=>cX (Ht rfl))) (fQ rfl rfl (eK rfl rfl (Ht rfl) (fun h=>jO (fJ rfl h) cV)) (ro rfl (eS (Ht rfl) (fun h=>(fJ rfl h))) (rm rfl (fQ rfl rfl (eK rfl rfl (Ht rfl) (fun h=>eJ A_80 Z_80 (Ht rfl) (i:=1) rfl rfl rfl)) (fQ rfl rfl (eK rfl rfl (Ht rfl) (fun h=>cZ Tryz.call117 Ii ⟨(fJ rfl h),trivial⟩)) (fQ rfl rfl (eK rfl rfl (Ht rfl) (fun h=>cD (fJ rfl h) (cJ 2))) ?_)))))))))
 refine ro rfl (eS (Ht rfl) (fun h=>(fJ rfl h))) (rm rfl (fQ rfl rfl (eK rfl rfl (Ht rfl) (fun h=>eJ A_32 Z_32 (Ht rfl) (i:=3) rfl rfl rfl)) (fQ rfl rfl (eK rfl rfl (Ht rfl) (fun h=>cZ Tryz.call92 (Oc (x:=Qi.ofInt 1) (L:=2) (hx:=Xt) (by decide)) ⟨(fJ rfl h),trivial⟩)) (fQ rfl rfl (eK rfl rfl (Ht rfl) (fun h=>Qh (fJ rfl h) (aB.cS (l:=[49]) rfl))) (ro rfl (eS (Ht rfl) (fun h=>(fJ rfl h))) (ra rfl (eX (fW rfl (fX (eU rfl) ?_)))))))))
 exact (cT (by rw [a1P]; rfl))
end
section
open Go Go.RowKit
theorem Dg (a:Addr) (w:World):(Instr.fieldAt 104 (.pointer (some a)) 0).run Tryz.prog w = .ok (.pointer (some (a.add 0))) w:=by
 simp [Instr.fieldAt,Instr.sureAddr,fieldPlace,Sem.run_bind,Result.andThen,U_104,Z_57]
theorem Pe (a:Addr) (w:World):(Instr.fieldAt 104 (.pointer (some a)) 1).run Tryz.prog w = .ok (.pointer (some (a.add 1))) w:=by
 simp [Instr.fieldAt,Instr.sureAddr,fieldPlace,Sem.run_bind,Result.andThen,U_104,Tryz.sizeOf102]
theorem Ug:Tryz.prog.info? 40 = some Tryz.t40:=by kernel_rfl
theorem Uh:Tryz.prog.info? 57 = some Tryz.t57:=by kernel_rfl
theorem Wx:Tryz.prog.underlying 102 = some (.slice 57):=by kernel_rfl
theorem a0G:Tryz.prog.underlying 57 = some (.slice 40):=by kernel_rfl
end
section
open Go Go.RowKit
theorem wT {l:List Rt} (hl:l.length ≤ 1000000):aT Tryz.prog 52 [kG l] (Bv (l.map Rt.q)):=by
 refine aT.intro Tryz.func52 rfl Tryz.ntmps52 rfl (fun cx=>(ts (ro rfl (cQ cV) (eX (ts (rm rfl (ro rfl (dG U_77 (Ht rfl) aA) (rn rfl (iB (T:=ZQ) (i:=Tryz.t40) a0G Ug rfl rfl (Ht rfl) rfl a1Y (El.ag rfl) (by show 88 * _ ≤ _; omega) zo) fun B8=>(ra rfl (eX (cK (ts (rm rfl (ro rfl (dG U_77 (Ht rfl) aA) (ro rfl (cX (cJ 0)) (eX (eG ?_)))))))))))))))))
 refine dB (fun (k : Nat) => k ≤ l.length) (fun (k : Nat) => l.length - k) (fun (k : Nat) => [(3, Is B8), (9, kG l), (10, NT .i64 l.length), (11, NT .i64 k)]) (fun (k : Nat) => [bH 40 5 B8 (lT (fun i => QT (l.getD i default).q) ZQ l.length k)]) 0 (Nat.zero_le _)
  (zS rfl) (aU (bN (by rw [← kR]; exact oO _ _)) aY) (fun k hk=>?_)
 refine ts (ro rfl (gZ (Ht rfl) (Ht rfl)) (eX (cK (dQ (Ht rfl) (fun hd=>?_) (fun hd=>?_)))))
 ·simp only [decide_eq_true_eq] at hd
  refine cU (cK (eG (ts (rm rfl (ro rfl (dZ U_77 Z_23 (Ht rfl) (Ht rfl) rfl (dY (dU (d:=default) hd))) (ro rfl (dJ A_23 Z_23 (Ht rfl)) (rn rfl (eW (Ts:=[Is (.int .i64 0),Is (.int .i64 0),Is (.int .i64 0)]) O_23 rfl (fun V=>aW zd (aW zd (aW zd (aG))))) fun B5=>(ra rfl (gX Z_23 (Ht rfl) (Ht rfl) rfl (i:=1) rfl (aK rfl) rfl rfl (eX (cY (rm rfl (rm rfl (ro rfl (eJ A_23 Z_23 (Ht rfl) (i:=1) rfl rfl rfl) ?_))))))))))))))
  refine ro rfl (cZ Tryz.call16 a1d ⟨(Ht rfl),trivial⟩) (ro rfl (eO U_57 Z_40 (Ht rfl) (Ht rfl) rfl (i:=0) rfl (by rw [fH]; omega) rfl) ?_)
  refine mN Z_40 (Ht rfl) (Ht rfl) (El.ag rfl) (i:=0) rfl rfl (by rw [fH]; omega) rfl ?_
  refine eX (T_blk (cY (ro rfl (dV (Ht rfl) (cJ 1) z6) (rm rfl (eX (eR [0] rfl (by decide) (fY (k + 1) hd zo (zS rfl) (aU (bN (mA (f:=fun i=>QT (l.getD i default).q))) aY))))))))
 ·simp only [decide_eq_false_iff_not] at hd
  obtain rfl:k = l.length:=Nat.le_antisymm hk zo
  rw [lZ]
  refine gW rfl (gV (i:=0) (tt:=3) rfl rfl iZ (ts (rm rfl (ra rfl (eX (fW rfl (fX (eU rfl) ?_)))))))
  exact (lB (by rw [← qB l Rt.q,mD]))
theorem Ge {m:List (List Rt)} (hm:m.length ≤ 1000) (hr:∀ r,r ∈ m → r.length ≤ 1000):aT Tryz.prog 134 [Nc m] (QM (rq m)):=by
 refine aT.intro Tryz.func134 rfl Tryz.ntmps134 rfl (fun cx=>(ts (ro rfl (cQ cV) (eX (ts (rm rfl (ro rfl (dG U_181 (Ht rfl) aA) (rn rfl (iB (T:=Bv []) (i:=Tryz.t57) Wx Uh rfl rfl (Ht rfl) rfl (fun V=>jA _ _ rfl) El.one (by show 24 * _ ≤ _; omega) zo) fun B8=>(ra rfl (eX (cK (ts (rm rfl (ro rfl (dG U_181 (Ht rfl) aA) (ro rfl (cX (cJ 0)) (eX (eG ?_)))))))))))))))))
 refine gC (fun (k : Nat) (out : List (List Qi)) => lI (fun i => (m.getD i default).map Rt.q) m.length out k) (fun (k : Nat) (out : List (List Qi)) => m.length - k) (fun (k : Nat) (out : List (List Qi)) => [(3, Is B8), (9, Nc m), (10, NT .i64 m.length), (11, NT .i64 k)]) (fun (k : Nat) (out : List (List Qi)) => [bH 57 1 B8 (out.map Bv)]) 0 (List.replicate m.length []) (lI.start _ _ _)
  (zS rfl) (aU (bN (pV Bv _ _)) aY) (fun k out hS=>?_)
 refine ts (ro rfl (gZ (Ht rfl) (Ht rfl)) (eX (cK (dQ (Ht rfl) (fun hk=>?_) (fun hk=>?_)))))
 ·simp only [decide_eq_true_eq] at hk
  have hlen:=hS.len
  have hrk : (m.getD k default).length ≤ 1000 := by
   have e:m.getD k default = m[k]:=by simp [List.getD,hk]
   rw [e]; exact hr _ (List.getElem_mem hk)
  refine cU (cK (eG (ts (rm rfl (ro rfl (dZ U_181 Z_77 (Ht rfl) (Ht rfl) rfl (dY (dU (d:=default) hk))) (ro rfl (dJ A_77 Z_77 (Ht rfl)) (ra rfl (ra rfl (eX (cY (rm rfl (rm rfl (rm rfl (ro rfl (cZ Tryz.call52 (wT zo) ⟨(Ht rfl),trivial⟩) (ro rfl (eO U_102 Z_57 (Ht rfl) (Ht rfl) rfl (i:=0) rfl (by first | omega | (simp; omega)) rfl) (mN Z_57 (Ht rfl) (Ht rfl) El.one (i:=0) rfl rfl (by first | omega | (simp; omega)) rfl (eX (T_blk ?_))))))))))))))))))
  refine cY (ro rfl (dV (Ht rfl) (cJ 1) z6) (rm rfl (eX (fY (k + 1,_) (hS.next hk rfl) (by dsimp only; omega) (zS rfl) (aU (bN (kV Bv _ _ _)) aY)))))
 ·simp only [decide_eq_false_iff_not] at hk
  obtain rfl:k = m.length:=Nat.le_antisymm hS.kle zo
  have hfin:=hS.fin
  rw [qB m (fun r=>r.map Rt.q)] at hfin
  refine gW rfl (gV (i:=0) (tt:=3) rfl rfl iZ (ts (rm rfl (ra rfl (eX (fW rfl (fX (eU rfl) ?_)))))))
  exact (lB (by rw [hfin]))
theorem a1b {z:List Qi} {s:List (List Qi)} {L:Nat} (hz:dA z L) (hs:dM s L) (hL1:1 ≤ L) (hL:L ≤ 8796093022208) (hsh:iL s z.length z.length) (hl:z.length ≤ 1000):aT Tryz.prog 135 [eL z s,rS z s] (aC true):=by
 have hs1:=hsh.1
 refine aT.intro Tryz.func135 rfl Tryz.ntmps135 rfl (fun cx=>(ts (rn rfl (fG (Ht rfl)) fun B2=>(rn rfl (fG (Ht rfl)) fun B3=>(ro rfl (cQ cV) (eX (cK (cK (fZ (m:=5) (dp 2 rfl (eJ A_80 Z_80 (Ht rfl) (i:=0) rfl rfl rfl) (dq 13 0 rfl (cZ Tryz.call117 Ii ⟨(Ht rfl),trivial⟩) (dp 3 rfl (eZ Dg (Ht rfl) rfl) (dq 15 2 rfl (eY Tryz.isAgg57 Z_57 (Ht rfl) (i:=1) rfl rfl) (dq 16 3 rfl (dG U_57 (Ht rfl) aA) (fV bB rfl (by kernel_rfl) (zF (aJ (aV ?_))))))))))))))))))
 refine ro rfl (fL (Ht rfl) (Ht rfl)) (eX (iW (Ht rfl) (by simp) ?_))
 refine cU (cK (ts (ro rfl (eZ Dg (Ht rfl) rfl) (ro rfl (eY Tryz.isAgg57 Z_57 (Ht rfl) (i:=1) rfl rfl) (ro rfl (dG U_57 (Ht rfl) aA) (ro rfl (cX (cJ 0)) (eX (eG ?_))))))))
 refine dB (fun (i : Nat) => i ≤ z.length) (fun (i : Nat) => z.length - i) (fun (i : Nat) => [(2, cH B2 0), (3, cH B3 0), (20, Bv z), (21, NT .i64 z.length), (22, NT .i64 i)]) (fun (i : Nat) => [box B2 80 [bP z, fC s], box B3 104 [Bv z, QM s]]) 0 (Nat.zero_le _)
  (zS rfl) (cA.refl _) (fun i hi=>?_)
 refine ts (ro rfl (gZ (Ht rfl) (Ht rfl)) (eX (cK (dQ (Ht rfl) (fun hd=>?_) (fun hd=>?_)))))
 ·simp only [decide_eq_true_eq] at hd
  haveI f1:aP (gv z i) L:=hz.get hL1 i
  have hsr:=hsh.row hd
  refine cU (cK (eG (ts (rm rfl (ro rfl (dZ U_57 Z_40 (Ht rfl) (Ht rfl) rfl (dY (dU (d:=Qi.zero) hd))) (ro rfl (dJ A_40 Z_40 (Ht rfl)) (rn rfl (eW (Ts:=[Is (.bool false),Is (.slice none 0 0),Is (.bool false),Is (.slice none 0 0),Is (.slice none 0 0)]) O_40 rfl (fun V=>aW zd (aW zd (aW zd (aW zd (aW zd (aG))))))) fun B6=>(ra rfl (gX Z_40 (Ht rfl) (Ht rfl) rfl (i:=2) rfl (aK rfl) rfl rfl ?_)))))))))
  refine eX (ts (ro rfl (eJ A_80 Z_80 (Ht rfl) (i:=0) rfl rfl rfl) (rm rfl (ro rfl (dV (Ht rfl) (cJ 1) z6) (ro rfl (cZ Tryz.call124 (eQ (a19 (z:=z) (s:=s) (i:=((i + 1:Nat):Int)) zo) (a02 hd)) ⟨(Ht rfl),(Ht rfl),trivial⟩) (rm rfl (ro rfl (dK (Ht rfl) rfl) (ro rfl (dK (Ht rfl) rfl) (rn rfl (eW (Ts:=[Is (.bool false),Is (.slice none 0 0),Is (.bool false),Is (.slice none 0 0),Is (.slice none 0 0)]) O_32 rfl (fun V=>aW zd (aW zd (aW zd (aW zd (aW zd (aG))))))) fun B7=>?_)))))))))
  refine gX Z_32 (Ht rfl) (Ht rfl) rfl (i:=3) rfl (aK rfl) rfl rfl (ra rfl (eX (cK (ts (rm rfl (ro rfl (kT (Ht rfl) cV) (rm rfl (fQ rfl rfl (eK rfl rfl (Ht rfl) (fun h=>eJ A_32 Z_32 (Ht rfl) (i:=3) rfl rfl rfl)) (fQ rfl rfl (eK rfl rfl (Ht rfl) (fun h=>eJ A_40 Z_40 (Ht rfl) (i:=2) rfl rfl rfl)) (fQ rfl rfl (eK rfl rfl (Ht rfl) (fun h=>cZ Tryz.call17 (In (x:=gv z i) (y:=gv z i) (L:=L) (M:=L) hL hL) ⟨(fJ rfl h),(fJ rfl h),trivial⟩)) (fQ rfl rfl (eK rfl rfl (Ht rfl) (fun h=>eC (fJ rfl h))) ?_)))))))))))
  refine ro rfl (iF (Ht rfl) (fun h=>(fJ rfl h))) (eX (iW (Ht rfl) (by simp) ?_))
  refine cU (ts (ro rfl (eZ Pe (Ht rfl) rfl) (ro rfl (eY Tryz.isAgg102 Tryz.sizeOf102 (Ht rfl) (i:=1) rfl rfl) (rm rfl (ro rfl (dZ U_102 Z_57 (Ht rfl) (Ht rfl) rfl (dY (dU (d:=[]) zo))) (ro rfl (dJ Tryz.isAgg57 Z_57 (Ht rfl)) (ro rfl (dG U_57 (Ht rfl) aA) (ro rfl (cX (cJ 0)) (eX (eG (eR [0,1] rfl (by decide) ?_)))))))))))
  refine dB (fun (j : Nat) => j ≤ z.length) (fun (j : Nat) => z.length - j) (fun (j : Nat) => [(2, cH B2 0), (3, cH B3 0), (5, NT .i64 i), (20, Bv z), (21, NT .i64 z.length), (22, NT .i64 i), (46, Bv (s.getD i [])), (47, NT .i64 z.length), (48, NT .i64 j)]) (fun (j : Nat) => [box B2 80 [bP z, fC s], box B3 104 [Bv z, QM s]]) 0 (Nat.zero_le _)
   (aQ rfl (aQ rfl (aQ rfl (aQ rfl (aQ rfl (aQ rfl (aQ rfl (aZ rfl (kJ hsr) (zS rfl))))))))) (cA.refl _) (fun j hj=>?_)
  refine ts (ro rfl (gZ (Ht rfl) (Ht rfl)) (eX (cK (dQ (Ht rfl) (fun hf=>?_) (fun hf=>?_)))))
  ·simp only [decide_eq_true_eq] at hf
   haveI f2:aP (gm s i j) L:=hs.get hL1 i j
   refine cU (cK (eG (ts (rm rfl (ro rfl (dZ U_57 Z_40 (Ht rfl) (Ht rfl) rfl (dY (dU (d:=Qi.zero) zo))) (ro rfl (dJ A_40 Z_40 (Ht rfl)) (rn rfl (eW (Ts:=[Is (.bool false),Is (.slice none 0 0),Is (.bool false),Is (.slice none 0 0),Is (.slice none 0 0)]) O_40 rfl (fun V=>aW zd (aW zd (aW zd (aW zd (aW zd (aG))))))) fun B10=>(ra rfl (gX Z_40 (Ht rfl) (Ht rfl) rfl (i:=2) rfl (aK rfl) rfl rfl ?_)))))))))
   refine eX (ts (ro rfl (eJ A_80 Z_80 (Ht rfl) (i:=0) rfl rfl rfl) (rm rfl (ro rfl (dV (Ht rfl) (cJ 1) z6) (rm rfl (ro rfl (dV (Ht rfl) (cJ 1) z6) (ro rfl (cZ Tryz.call130 (eQ (a10 (z:=z) (s:=s) (i:=((i + 1:Nat):Int)) (j:=((j + 1:Nat):Int)) hsh zo) (a1r hd hf)) ⟨(Ht rfl),(Ht rfl),(Ht rfl),trivial⟩) (rm rfl (ro rfl (dK (Ht rfl) rfl) (ro rfl (dK (Ht rfl) rfl) ?_))))))))))
   refine rn rfl (eW (Ts:=[Is (.bool false),Is (.slice none 0 0),Is (.bool false),Is (.slice none 0 0),Is (.slice none 0 0)]) O_32 rfl (fun V=>aW zd (aW zd (aW zd (aW zd (aW zd (aG))))))) fun B11=>gX Z_32 (Ht rfl) (Ht rfl) rfl (i:=3) rfl (aK rfl) rfl rfl (ra rfl (eX (ts (rm rfl (ro rfl (kT (Ht rfl) cV) (rm rfl (fQ rfl rfl (eK rfl rfl (Ht rfl) (fun h=>eJ A_32 Z_32 (Ht rfl) (i:=3) rfl rfl rfl)) ?_)))))))
   refine fQ rfl rfl (eK rfl rfl (Ht rfl) (fun h=>eJ A_40 Z_40 (Ht rfl) (i:=2) rfl rfl rfl)) (fQ rfl rfl (eK rfl rfl (Ht rfl) (fun h=>cZ Tryz.call17 (In (x:=gm s i j) (y:=gm s i j) (L:=L) (M:=L) hL hL) ⟨(fJ rfl h),(fJ rfl h),trivial⟩)) (fQ rfl rfl (eK rfl rfl (Ht rfl) (fun h=>eC (fJ rfl h))) (ro rfl (iF (Ht rfl) (fun h=>(fJ rfl h))) (eX (iW (Ht rfl) (by simp) ?_)))))
   refine cU (T_blk (cY (ro rfl (dV (Ht rfl) (cJ 1) z6) (rm rfl (eX (eR [0,1] rfl (by decide) (fY (j + 1) hf zo (zS rfl) (cA.refl _))))))))
  ·refine gW rfl (T_blk (cY (ro rfl (dV (Ht rfl) (cJ 1) z6) (rm rfl (eX (eR [0,1] rfl (by decide) (fY (i + 1) hd zo (zS rfl) (cA.refl _))))))))
 ·refine gW rfl (ts (ro rfl (cQ cV) (eX ?_)))
  exact fW rfl (eU rfl)
end
section
open Go Go.RowKit
theorem Ag {n : Nat} {E : bD} {H : Hp} {d : Option Tmp} {t : TypeId} {pos : String} {af : Array Edge} {g : Option (Nat × Bool)} {x0 x1 x2 : Operand} {T0 T1 T2 : Ty} [s0 : bT T0 1 false] (h0 : aB E x0 T0) [s1 : bT T1 1 false] (h1 : aB E x1 T1) [s2 : bT T2 1 false] (h2 : aB E x2 T2) :
  aD Tryz.prog n E H ⟨d,.build 23 #[(0,x0),(1,x1),(2,x2)],t,pos,af,g⟩ (eB [T0,T1,T2]) :=
 fO (parts := [(0, x0), (1, x1), (2, x2)]) fun a V w hs => by
  have p0:=h0 n V a hs
  generalize e0:a.eval x0 = v0 at p0
  have q0:=(s0.ok v0 V p0).2.2 rfl
  have p1:=h1 n V a hs
  generalize e1:a.eval x1 = v1 at p1
  have q1:=(s1.ok v1 V p1).2.2 rfl
  have p2:=h2 n V a hs
  generalize e2:a.eval x2 = v2 at p2
  have q2:=(s2.ok v2 V p2).2.2 rfl
  refine ⟨.agg #[v0,v1,v2],?_,[v0,v1,v2],rfl,aW (⟨p0,q0⟩) (aW (⟨p1,q1⟩) (aW (⟨p2,q2⟩) (aG)))⟩
  simp [e0,e1,e2,Instr.build,Instr.fill,Sem.run_bind,Result.andThen,dN,q0.cells,q1.cells,q2.cells,O_23,U_23,Z_2]
end
section
open Go Go.RowKit
theorem Iv {r:Rt}:aT Tryz.prog 146 [jQ r] (jQ (yH r)):=by
 have b1:=iQ r.den (b:=4) (by decide)
 refine aT.intro Tryz.func146 rfl Tryz.ntmps146 rfl (fun cx=>(ts (rn rfl (fG (Ht rfl)) fun B1=>(rn rfl (eW (Ts:=[Is (.int .i64 0),Is (.int .i64 0),Is (.int .i64 0)]) O_23 rfl (fun V=>aW zd (aW zd (aW zd (aG))))) fun B2=>(eX (ts (ro rfl (eZ nG (Ht rfl) rfl) (ro rfl (eY A_2 Z_2 (Ht rfl) (i:=0) rfl rfl) (ro rfl (Bm (Ht rfl) cV (by decide) rfl) (ra rfl (eX (cK (iA (fun (d:Int)=>d = nR (r.den.tmod 4)) (fun (d:Int)=>[(1,cH B1 0),(2,cH B2 0),(3,aI .i64 d)]) (fun (d:Int)=>[box B1 23 [aI .i64 r.re,aI .i64 r.im,aI .i64 r.den],box B2 23 [Is (.int .i64 0),Is (.int .i64 0),Is (.int .i64 0)]]) ?_ (fun d hd=>?_))))))))))))))
 ·refine ts (rm rfl (ro rfl (mW (Ht rfl) cV) (eX (dQ (Ht rfl) (fun hb => ?_) (fun hb => ?_)))))
  ·have hb2 : r.den.tmod 4 < 0 := of_decide_eq_true hb
   refine cY (rm rfl (ro rfl (Bl (Ht rfl) (uX zo)) (ra rfl (eX (aO (-(r.den.tmod 4)) (by rw [nR,if_pos hb2]) (zS rfl) (cA.refl _))))))
  ·have hb2 : ¬ r.den.tmod 4 < 0 := of_decide_eq_false hb
   refine cU (aO (r.den.tmod 4) (by rw [nR,if_neg hb2]) (zS rfl) (cA.refl _))
 ·have b2 := pD b1
  rw [← hd] at b2
  refine ts (ro rfl (eZ oG (Ht rfl) rfl) (ro rfl (eY A_2 Z_2 (Ht rfl) (i:=0) rfl rfl) (ro rfl (Bm (Ht rfl) cV (by decide) rfl) (ro rfl (eZ At (Ht rfl) rfl) (ro rfl (eY A_2 Z_2 (Ht rfl) (i:=0) rfl rfl) (ro rfl (Bm (Ht rfl) cV (by decide) rfl) (rm rfl (ro rfl (xP (Ht rfl) cV (uX zo)) (ro rfl (Ag (Ht rfl) (Ht rfl) (Ht rfl)) (gX Z_23 (Ht rfl) (Ht rfl) rfl (i:=1) rfl (aK rfl) rfl rfl (eX (fW rfl (fX (fU A_23 Z_23 rfl (i:=1) rfl rfl) ?_)))))))))))))
  exact (fun v V h=>by rw [hd] at h; exact h)
theorem Im {r:Rt}:aT Tryz.prog 61 [jQ r] (jQ (Ay r)):=by
 have b1:-9 < (yH r).re ∧ (yH r).re < 9:=iQ r.re (b:=9) (by decide)
 refine aT.intro Tryz.func61 rfl Tryz.ntmps61 rfl (fun cx=>(ts (rn rfl (fG (Ht rfl)) fun B1=>(rn rfl (eW (Ts:=[Is (.int .i64 0),Is (.int .i64 0),Is (.int .i64 0)]) O_23 rfl (fun V=>aW zd (aW zd (aW zd (aG))))) fun B2=>(eX (ts (ro rfl (eJ A_23 Z_23 (Ht rfl) (i:=0) rfl rfl rfl) (ro rfl (cZ Tryz.call146 Iv ⟨(Ht rfl),trivial⟩) (rn rfl (eW (Ts:=[Is (.int .i64 0),Is (.int .i64 0),Is (.int .i64 0)]) O_23 rfl (fun V=>aW zd (aW zd (aW zd (aG))))) fun B3=>?_)))))))))
 refine gX Z_23 (Ht rfl) (Ht rfl) rfl (i:=2) rfl (aK rfl) rfl rfl (eX (cK (iA (fun (x:Int)=>x = nR (yH r).re) (fun (x:Int)=>[(1,cH B1 0),(2,cH B2 0),(3,cH B3 0)]) (fun (x:Int)=>[box B1 23 [aI .i64 r.re,aI .i64 r.im,aI .i64 r.den],box B2 23 [Is (.int .i64 0),Is (.int .i64 0),Is (.int .i64 0)],box B3 23 [aI .i64 x,aI .i64 (yH r).im,aI .i64 (yH r).den]]) ?_ (fun x hx=>?_))))
 ·refine ts (ro rfl (eZ oG (Ht rfl) rfl) (ro rfl (eY A_2 Z_2 (Ht rfl) (i := 2) rfl rfl) (ro rfl (mW (Ht rfl) cV) (eX (dQ (Ht rfl) (fun hb => ?_) (fun hb => ?_))))))
  ·have hb2 : (yH r).re < 0 := of_decide_eq_true hb
   refine cY (ro rfl (eZ oG (Ht rfl) rfl) (ro rfl (eY A_2 Z_2 (Ht rfl) (i:=2) rfl rfl) (ro rfl (Bl (Ht rfl) (uX zo)) (ro rfl (eZ oG (Ht rfl) rfl) (iD Z_2 (Ht rfl) (Ht rfl) (i:=2) rfl (aK rfl) rfl (eX (aO (-((yH r).re)) (by rw [nR,if_pos hb2]) (zS rfl) (cA.refl _))))))))
  ·have hb2 : ¬ (yH r).re < 0 := of_decide_eq_false hb
   refine cU (aO ((yH r).re) (by rw [nR,if_neg hb2]) (zS rfl) (cA.refl _))
 ·have b2 := pD b1
  rw [← hx] at b2
  refine ts (ro rfl (eZ oG (Ht rfl) rfl) (ro rfl (eY A_2 Z_2 (Ht rfl) (i:=2) rfl rfl) (ro rfl (xP (Ht rfl) cV (uX zo)) (ro rfl (eZ nG (Ht rfl) rfl) (ro rfl (eY A_2 Z_2 (Ht rfl) (i:=2) rfl rfl) (ro rfl (wN (Ht rfl) (Ht rfl)) (gX Z_23 (Ht rfl) (Ht rfl) rfl (i:=1) rfl (aK rfl) rfl rfl (eX (fW rfl (fX (fU A_23 Z_23 rfl (i:=1) rfl rfl) ?_))))))))))
  exact (fun v V h=>by rw [hx] at h; exact h)
theorem Oh {l:List Rt} {i:Nat}:aT Tryz.prog 221 [kG l,NT .i64 i] (jQ (Gq l i)):=by
 refine aT.intro Tryz.func221 rfl Tryz.ntmps221 rfl (fun cx=>(ts (rn rfl (eW (Ts:=[Is (.int .i64 0),Is (.int .i64 0),Is (.int .i64 0)]) O_23 rfl (fun V=>aW zd (aW zd (aW zd (aG))))) fun B4=>(eX (cK (ts (rm rfl (ro rfl (dG U_77 (Ht rfl) aA) (ro rfl (cD (Ht rfl) (cJ 0)) (eX (dQ (Ht rfl) (fun hb=>?_) (fun hb=>?_))))))))))))
 ·have hb2 : l.length = 0 := by simpa only [decide_eq_true_eq] using hb
  refine ts (ro rfl (Sq ) (gX Z_23 (Ht rfl) (Ht rfl) rfl (i:=0) rfl (aK rfl) rfl rfl (eX (fW rfl (fX (fU A_23 Z_23 rfl (i:=0) rfl rfl) ?_)))))
  exact (fun v V h=>by rw [Gq,if_pos hb2]; exact h)
 ·have hb2 : ¬ l.length = 0 := by simpa only [decide_eq_false_iff_not] using hb
  have hm:=Nat.mod_lt i (Nat.pos_of_ne_zero hb2)
  refine cU (ts (rm rfl (rm rfl (rm rfl (ro rfl (dG U_77 (Ht rfl) aA) (ro rfl (iK (Ht rfl) (Ht rfl) zo) (ro rfl (dZ U_77 Z_23 (Ht rfl) (Ht rfl) rfl (dY (dU (d:=default) hm))) (ro rfl (dJ A_23 Z_23 (Ht rfl)) (gX Z_23 (Ht rfl) (Ht rfl) rfl (i:=0) rfl (aK rfl) rfl rfl (eX (fW rfl (fX (fU A_23 Z_23 rfl (i:=0) rfl rfl) ?_))))))))))))
  exact (fun v V h=>by rw [Gq,if_neg hb2]; exact h)
end
end Go.Proofs.YthcmlodgnfekeaaGreat
