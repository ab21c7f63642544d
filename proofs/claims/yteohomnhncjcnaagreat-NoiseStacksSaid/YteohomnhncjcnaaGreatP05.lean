/- What functions of the program compute, proved by walks over their code, and the plain mathematics of it; a part of the proof in the last text. -/
import Derived.Test.YteohomnhncjcnaaGreatP04
set_option linter.unusedVariables false
set_option linter.unusedSimpArgs false
set_option maxRecDepth 100000
set_option maxHeartbeats 4000000
namespace Go.Proofs.YteohomnhncjcnaaGreat
section
open Go Go.RowKit
def nF (js:List (Int × Int)):List Int:=js.flatMap fun q=>[q.1,q.2]
def cC (js:List (Int × Int)):List (Nat × Nat):=js.map fun q=>((q.1 - 1).toNat,(q.2 - 1).toNat)
abbrev kD (js:List (Int × Int)) (k:Nat):Int × Int:=js.getD k (0,0)
theorem a3r (a b:List (Int × Int)):nF (a ++ b) = nF a ++ nF b:=by simp [nF]
theorem Oo {js:List (Int × Int)} {k:Nat} (h:k < js.length):nF (js.take (k + 1)) = nF (js.take k) ++ [(kD js k).1,(kD js k).2]:=by
 rw [List.take_succ_eq_append_getElem h,a3r]
 simp [nF,kD,List.getD,h]
theorem pK : ∀ (js : List (Int × Int)), (nF js).length = 2 * js.length
 | []=>rfl
 | q :: r => by
  have:=pK r
  have e:nF (q :: r) = q.1 :: q.2 :: nF r:=rfl
  rw [e,List.length_cons,List.length_cons,List.length_cons,this]; omega
theorem Vo : ∀ (js : List (Int × Int)) {x : Nat}, x < 2 * js.length → (nF js).getD x 0 = if x % 2 = 0 then (kD js (x / 2)).1 else (kD js (x / 2)).2
 | [],x,h=>by simp at h
 | q :: r,0,_=>rfl
 | q :: r,1,_=>rfl
 | q :: r, x + 2, h => by
  have ih:=Vo r (x:=x) (by simp only [List.length_cons] at h; omega)
  have e:nF (q :: r) = q.1 :: q.2 :: nF r:=rfl
  rw [e]
  show (nF r).getD x 0 = _
  rw [ih,show (x + 2) % 2 = x % 2 by omega,show (x + 2) / 2 = x / 2 + 1 by omega]
  rfl
theorem Ry {js:List (Int × Int)} {k:Nat} (h:k < js.length):pA (cC js) k = ((kD js k).1 - 1).toNat ∧ pB (cC js) k = ((kD js k).2 - 1).toNat:=by
 simp [pA,pB,cC,kD,List.getD,h]
theorem jgq {js:List (Int × Int)} {x:Nat} (h:x < 2 * js.length):gq (cC js) x = ((nF js).getD x 0 - 1).toNat:=by
 have h2:x / 2 < js.length:=by omega
 rw [Vo js h,gq,(Ry h2).1,(Ry h2).2]
 split <;> rfl
theorem Ph {n:Nat} {A:List Int} (h:qR n A = 0) (a:Int):qR n (A ++ [a]) = dR n a A:=by
 rw [qR,List.length_append,List.length_singleton]
 have e : jQ (fun i => dR n ((A ++ [a]).getD i 0) ((A ++ [a]).take i)) A.length = 0 := gS fun i hi => by
  have:=gH h i hi
  rw [List.take_append_of_le_length zo]
  have e2:(A ++ [a]).getD i 0 = A.getD i 0:=by simp [List.getD,List.getElem?_append_left hi]
  rw [e2]; exact this
 rw [jQ,e,if_neg (by simp),List.take_append_of_le_length (Nat.le_refl _),List.take_length]
 congr 1
 simp [List.getD]
theorem Yz {n:Nat} {A:List Int} (h:qR n A = 0) (a b:Int):qR n (A ++ [a,b]) = if dR n a A ≠ 0 then dR n a A else dR n b (A ++ [a]):=by
 have e:A ++ [a,b] = (A ++ [a]) ++ [b]:=by simp
 by_cases c:dR n a A = 0
 ·rw [if_neg (fun k=>k c),e,Ph (by rw [Ph h]; exact c)]
 ·rw [if_pos c]
  have h1 : jQ (fun i => dR n ((A ++ [a, b]).getD i 0) ((A ++ [a, b]).take i)) A.length = 0 := gS fun i hi => by
   have:=gH h i hi
   rw [List.take_append_of_le_length zo]
   have e2:(A ++ [a,b]).getD i 0 = A.getD i 0:=by simp [List.getD,List.getElem?_append_left hi]
   rw [e2]; exact this
  have h2 : dR n ((A ++ [a, b]).getD A.length 0) ((A ++ [a, b]).take A.length) = dR n a A := by
   rw [List.take_append_of_le_length (Nat.le_refl _),List.take_length]
   congr 1
   simp [List.getD]
  rw [qR,pV (k:=A.length) (fun i hi=>gH h1 i hi) (by rw [h2]; exact c) (by simp)]
  exact h2
def yQ (z : List Qi) (js : List (Int × Int)) (k : Nat) : Int :=
 if dR z.length (kD js k).1 (nF (js.take k)) ≠ 0 then dR z.length (kD js k).1 (nF (js.take k))
 else if dR z.length (kD js k).2 (nF (js.take k) ++ [(kD js k).1]) ≠ 0 then dR z.length (kD js k).2 (nF (js.take k) ++ [(kD js k).1])
 else if gv z ((kD js k).1 - 1).toNat = gv z ((kD js k).2 - 1).toNat then 0 else 40
def Bo (z:List Qi) (js:List (Int × Int)):Int:=jQ (yQ z js) js.length
theorem Ou {z:List Qi} {js:List (Int × Int)} {k:Nat} (h:yQ z js k = 0):dR z.length (kD js k).1 (nF (js.take k)) = 0 ∧ dR z.length (kD js k).2 (nF (js.take k) ++ [(kD js k).1]) = 0 ∧ gv z ((kD js k).1 - 1).toNat = gv z ((kD js k).2 - 1).toNat:=by
 unfold yQ at h
 by_cases c1:dR z.length (kD js k).1 (nF (js.take k)) = 0
 ·rw [if_neg (fun k => k c1)] at h
  by_cases c2:dR z.length (kD js k).2 (nF (js.take k) ++ [(kD js k).1]) = 0
  ·rw [if_neg (fun k => k c2)] at h
   by_cases c3:gv z ((kD js k).1 - 1).toNat = gv z ((kD js k).2 - 1).toNat
   ·exact ⟨c1,c2,c3⟩
   ·rw [if_neg c3] at h; omega
  ·rw [if_pos c2] at h; exact absurd h c2
 ·rw [if_pos c1] at h; exact absurd h c1
theorem jpr {z : List Qi} {js : List (Int × Int)} : ∀ {k : Nat}, k ≤ js.length → (∀ j, j < k → yQ z js j = 0) → qR z.length (nF (js.take k)) = 0
 | 0,_,_=>rfl
 | k + 1, hk, h => by
  have ih:=jpr (z:=z) (js:=js) (k:=k) zo fun j hj=>h j zo
  obtain ⟨h1,h2,_⟩:=Ou (h k zo)
  rw [Oo zo,Yz ih,if_neg (fun k=>k h1)]; exact h2
theorem Rw {z:List Qi} {js:List (Int × Int)} (h:Bo z js = 0):qR z.length (nF js) = 0:=by
 have:=jpr (z:=z) (Nat.le_refl js.length) (gH h)
 rwa [List.take_length] at this
theorem Yk {n : Nat} {p : Int} {o : List Int} (h : dR n p o = 0) : p ∉ o := fun hm => by
 have h1:=yM h
 unfold dR at h
 rw [if_neg (fun k=>k h1),if_pos (List.any_eq_true.2 ⟨p,hm,by simp⟩)] at h
 omega
theorem a44 {n:Nat} {l:List Int} (h:qR n l = 0) {x y:Nat} (hx:x < l.length) (hy:y < l.length) (e:l.getD x 0 = l.getD y 0):x = y:=by
 have key : ∀ x y, x < y → y < l.length → l.getD x 0 ≠ l.getD y 0 := fun x y hxy hy e => by
  refine Yk (gH h y hy) ?_
  rw [← e]
  have e2:l.getD x 0 = l[x]'zo:=by simp [List.getD,show x < l.length by omega]
  rw [e2]
  exact List.mem_take_iff_getElem.2 ⟨x,by omega,rfl⟩
 rcases Nat.lt_trichotomy x y with c | c | c
 ·exact absurd e (key x y c hy)
 ·exact c
 ·exact absurd e.symm (key y x c hx)
theorem rO {z:List Qi} {js:List (Int × Int)} (h:Bo z js = 0):Jn (cC js) z.length js.length:=by
 have hp:=Rw h
 have hl:=pK js
 have hr : ∀ x, x < 2 * js.length → 1 ≤ (nF js).getD x 0 ∧ (nF js).getD x 0 ≤ z.length := fun x hx => Bd hp _ (by
  rw [show (nF js).getD x 0 = (nF js)[x]'zo by simp [List.getD,show x < (nF js).length by omega]]; exact List.getElem_mem _)
 refine ⟨fun x hx=>?_,fun x y hx hy e=>?_⟩
 ·rw [jgq hx]; have:=hr x hx; omega
 ·rw [jgq hx, jgq hy] at e
  have h1:=hr x hx; have h2:=hr y hy
  exact a44 hp zo zo zo
def iM (js:List (Int × Int)):List Nat:=(nF js).map fun p=>(p - 1).toNat
def eE (z:List Qi) (js:List (Int × Int)):List Nat:=dO (iM js) z.length
def Af (z:List Qi) (S:List (List Qi)) (js:List (Int × Int)):Int:=jQ (fun y=>kO (lW S (cC js) (2 * js.length)) (uG S (cC js) (2 * js.length) ((eE z js).getD y 0)) (2 * js.length)) (eE z js).length
def kE (z : List Qi) (S : List (List Qi)) (js : List (Int × Int)) : Int :=
 if Bo z js ≠ 0 then Bo z js else if js.length = 0 then 0 else if 2 * js.length = z.length then 4 else if Af z S js = 0 then 0 else 6
def Fj (z:List Qi) (js:List (Int × Int)):List Qi:=pH z (eE z js)
def Fh (z:List Qi) (S:List (List Qi)) (js:List (Int × Int)):List (List Qi):=tab (eE z js).length fun x=>tab (eE z js).length fun y=>uJ S (cC js) (2 * js.length) (cB (eE z js) x) (cB (eE z js) y)
def jZ (z:List Qi) (S:List (List Qi)) (js:List (Int × Int)):List Qi:=cD (kE z S js) (if js.length = 0 then z else Fj z js)
def jT (z:List Qi) (S:List (List Qi)) (js:List (Int × Int)):List (List Qi):=cD (kE z S js) (if js.length = 0 then S else Fh z S js)
theorem Dh (js:List (Int × Int)):(iM js).length = 2 * js.length:=by rw [iM,List.length_map,pK]
theorem rM {js:List (Int × Int)} {j:Nat}:j ∈ iM js ↔ ∃ x,x < 2 * js.length ∧ gq (cC js) x = j:=by
 constructor
 ·intro h
  obtain ⟨p,hp,rfl⟩:=List.mem_map.1 h
  obtain ⟨x,hx,e⟩:=List.getElem_of_mem hp
  have hl:=pK js
  refine ⟨x,by omega,?_⟩
  rw [jgq zo,show (nF js).getD x 0 = p by rw [← e]; simp [List.getD,hx]]
 ·rintro ⟨x, hx, rfl⟩
  have hl:=pK js
  rw [jgq hx]
  refine List.mem_map.2 ⟨(nF js).getD x 0,?_,rfl⟩
  rw [show (nF js).getD x 0 = (nF js)[x]'zo by simp [List.getD,show x < (nF js).length by omega]]; exact List.getElem_mem _
theorem a1p {z : List Qi} {js : List (Int × Int)} {y : Nat} (hy : y < (eE z js).length) : (eE z js).getD y 0 < z.length := qL (by
 rw [show (eE z js).getD y 0 = (eE z js)[y] by simp [List.getD,hy]]; exact List.getElem_mem hy)
end
section
open Go Go.RowKit
theorem Om (M:List (List Qi)) (n:Nat):cP (Ol M n) n n:=cP.tab
theorem tC (M:List (List Qi)) (b:List Qi) (n:Nat):(jB M b n).length = n:=Cr _ _ _
theorem Xe {M : List (List Qi)} {b : List Qi} {n L : Nat} (h : cP M n n) (hM : bB M L) (hb : cH b L) (hL : 1 ≤ L) (hE : kO M b n = 0) : cH (jB M b n) (rX (eD L n) n) := a2h h hM hb hL (by
 unfold kO at hE
 by_cases e:0 ≤ (wW M b n).2.2
 ·rw [if_pos e] at hE; omega
 ·omega)
theorem On {M:List (List Qi)} {n:Nat} (h:Rv M n = 0):∀ k,k < n → kO M (ek n k) n = 0:=gH h
theorem wT {G H : Nat} (h : G ≤ H) : ∀ j, rX G j ≤ rX H j
 | 0=>h
 | j + 1 => by
  have:=wT h j
  have h2:j * (rX G j + G + 2) ≤ j * (rX H j + H + 2):=Nat.mul_le_mul_left _ zo
  simp only [rX]; omega
theorem wS {n i j:Nat} (hi:i < n) (hj:j < n):gm (Df n) i j = if i = j then 1 else 0:=by
 show gv ((Df n).getD i []) j = _
 rw [Df,vS hi,Hj,Ac (by rw [aC]; exact hi)]
 by_cases e:j = i
 ·subst e; rw [if_pos rfl,if_pos rfl]; rfl
 ·rw [if_neg e,if_neg (Ne.symm e),kU hj]; rfl
theorem lX {a b:List (List Qi)} {n m:Nat} (ha:cP a n m) (hb:cP b n m) (h:∀ i,i < n → ∀ j,j < m → gm a i j = gm b i j):a = b:=by
 rw [rQ ha,rQ hb]
 exact eH fun i hi=>eH fun j hj=>h i hi j hj
end
section
open Go Go.RowKit
def Pg (q:Int × Int):List Int:=[q.1,q.2]
abbrev JT (q:Int × Int):Ty:=eI [aL .i64 q.1,aL .i64 q.2]
abbrev Qr (js:List (Int × Int)):Ty:=jA 2 (js.map JT)
theorem a42 {q : Int × Int} : ∀ {i : Nat}, i < 2 → ([aL .i64 q.1, aL .i64 q.2] : List Ty)[i]? = some (aL .i64 ((Pg q).getD i 0))
 | 0,_=>rfl
 | 1,_=>rfl
theorem a1X {q : Int × Int} : ∀ {i : Nat}, i < 2 → (Pg q).take (i + 1) = (Pg q).take i ++ [(Pg q).getD i 0]
 | 0,_=>rfl
 | 1,_=>rfl
abbrev Lm (z:List Qi) (js:List (Int × Int)) (k i:Nat):Int:=dR z.length ((Pg (kD js k)).getD i 0) (nF (js.take k) ++ (Pg (kD js k)).take i)
theorem a72 {z : List Qi} {js : List (Int × Int)} {k : Nat} : ∀ {i : Nat}, i < 2 → (∀ x, x < i → Lm z js k x = 0) → Lm z js k i ≠ 0 → yQ z js k = Lm z js k i
 | 0, _, _, h => by
  have e:Lm z js k 0 = dR z.length (kD js k).1 (nF (js.take k)):=by simp [Lm,Pg]
  rw [e] at h ⊢
  rw [yQ,if_pos h]
 | 1, _, h0, h => by
  have e0:Lm z js k 0 = dR z.length (kD js k).1 (nF (js.take k)):=by simp [Lm,Pg]
  have e:Lm z js k 1 = dR z.length (kD js k).2 (nF (js.take k) ++ [(kD js k).1]):=by simp [Lm,Pg]
  have h1:=h0 0 zo
  rw [e0] at h1
  rw [e] at h ⊢
  rw [yQ,if_neg (fun k=>k h1),if_pos h]
theorem a73 {z : List Qi} {js : List (Int × Int)} {k : Nat} (h : ∀ x, x < 2 → Lm z js k x = 0) : (1 ≤ (kD js k).1 ∧ (kD js k).1 ≤ z.length) ∧ (1 ≤ (kD js k).2 ∧ (kD js k).2 ≤ z.length) ∧
  yQ z js k = if gv z ((kD js k).1 - 1).toNat = gv z ((kD js k).2 - 1).toNat then 0 else 40:=by
 have e0:Lm z js k 0 = dR z.length (kD js k).1 (nF (js.take k)):=by simp [Lm,Pg]
 have e:Lm z js k 1 = dR z.length (kD js k).2 (nF (js.take k) ++ [(kD js k).1]):=by simp [Lm,Pg]
 have h0:=h 0 zo
 have h1:=h 1 zo
 rw [e0] at h0
 rw [e] at h1
 exact ⟨yM h0,yM h1,by rw [yQ,if_neg (fun k=>k h0),if_neg (fun k=>k h1)]⟩
def Ae (z:List Qi) (js:List (Int × Int)):Int:=if Bo z js ≠ 0 then Bo z js else if 0 < 2 * js.length ∧ 2 * js.length = z.length then 4 else 0
def jeL (z:List Qi) (js:List (Int × Int)):List Int:=cD (Ae z js) (nF js)
theorem a1l {z:List Qi} {js:List (Int × Int)} (h:Bo z js ≠ 0):Ae z js = Bo z js:=if_pos h
theorem a3q {z:List Qi} {js:List (Int × Int)} (h:Bo z js = 0) (h2:0 < 2 * js.length ∧ 2 * js.length = z.length):Ae z js = 4:=by rw [Ae,if_neg (fun k=>k h),if_pos h2]
theorem a1m {z:List Qi} {js:List (Int × Int)} (h:Bo z js = 0) (h2:¬ (0 < 2 * js.length ∧ 2 * js.length = z.length)):Ae z js = 0:=by rw [Ae,if_neg (fun k=>k h),if_neg h2]
theorem yO {z:List Qi} {js:List (Int × Int)} (h:Ae z js = 0):Bo z js = 0 ∧ ¬ (0 < 2 * js.length ∧ 2 * js.length = z.length):=by
 unfold Ae at h
 by_cases c:Bo z js = 0
 ·refine ⟨c, fun h2 => ?_⟩
  rw [if_neg (fun k=>k c),if_pos h2] at h
  omega
 ·rw [if_pos c] at h; exact absurd h c
theorem a4Q {z:List Qi} {S:List (List Qi)} {js:List (Int × Int)} (h:Ae z js ≠ 0):kE z S js = Ae z js:=by
 unfold kE Ae at *
 by_cases c:Bo z js ≠ 0
 ·rw [if_pos c,if_pos c]
 ·rw [if_neg c] at h
  rw [if_neg c,if_neg c]
  by_cases d:0 < 2 * js.length ∧ 2 * js.length = z.length
  ·rw [if_neg zo,if_pos d.2,if_pos d]
  ·rw [if_neg d] at h; exact absurd rfl h
theorem a3u {z:List Qi} {S:List (List Qi)} {js:List (Int × Int)} (h:Ae z js = 0) (h2:js.length = 0):kE z S js = 0:=by
 obtain ⟨h1,_⟩:=yO h
 rw [kE,if_neg (fun k=>k h1),if_pos h2]
theorem Fk {z:List Qi} {S:List (List Qi)} {js:List (Int × Int)} (h:Ae z js = 0) (h2:js.length ≠ 0):kE z S js = if Af z S js = 0 then 0 else 6:=by
 obtain ⟨h1,h3⟩:=yO h
 rw [kE,if_neg (fun k=>k h1),if_neg h2,if_neg zo]
theorem pig : ∀ {n m : Nat} {f : Nat → Nat}, (∀ x, x < m → f x < n) → (∀ x y, x < m → y < m → f x = f y → x = y) → m ≤ n
 | 0, m, f, h, _ => by
  cases m with
  | zero=>exact Nat.le_refl 0
  | succ m=>exact absurd (h 0 zo) zo
 | n + 1,0,_,_,_=>by omega
 | n + 1, k + 1, f, h, i => by
  have := pig (n := n) (m := k) (f := fun x => if f x = n then f k else f x) (fun x hx => by
   have h1:=h x zo
   have h2:=h k zo
   by_cases c:f x = n
   ·simp only [if_pos c]
    have:f k ≠ n:=fun e=>by have:=i x k zo zo (by rw [c,e]); omega
    omega
   ·simp only [if_neg c]; omega) (fun x y hx hy e=>by
   by_cases c:f x = n <;> by_cases d:f y = n
   ·exact i x y zo zo (by rw [c,d])
   ·simp only [if_pos c, if_neg d] at e
    have:=i k y zo zo e; omega
   ·simp only [if_neg c, if_pos d] at e
    have:=i x k zo zo e; omega
   ·simp only [if_neg c, if_neg d] at e
    exact i x y zo zo e)
  omega
theorem Je {z:List Qi} {js:List (Int × Int)} (h:Bo z js = 0):2 * js.length ≤ z.length:=by
 have hj:=rO h
 exact pig (f:=gq (cC js)) hj.lt hj.inj
theorem a1n {z:List Qi} {js:List (Int × Int)} (h:Bo z js = 0):(nF js).map (aL .i64) = ((iM js).map Nat.succ).map (NT .i64):=zC (Rw h)
theorem Lk {js:List (Int × Int)} {x:Nat} (h:x < 2 * js.length):(iM js).getD x 0 = gq (cC js) x:=by
 have hl:=pK js
 rw [jgq h,iM]
 simp [List.getD,show x < (nF js).length by omega]
theorem a1c (G:List Nat):(gnI G).map (aL .i64) = (G.map Nat.succ).map (NT .i64):=by
 simp only [gnI,List.map_map]
 refine List.map_congr_left fun x _=>?_
 simp [Function.comp,NT]
theorem Lo {G : List Nat} {j : Nat} (h : j ∉ G) : ∀ {k : Nat}, j < k → j ∈ dO G k
 | k + 1, hk => by
  rw [dO,List.mem_append]
  by_cases e:j = k
  ·subst e; exact .inr (by rw [if_neg h]; simp)
  ·exact .inl (Lo h zo)
theorem a1k {z:List Qi} {js:List (Int × Int)} (h:Bo z js = 0) (h2:2 * js.length ≠ z.length):1 ≤ (eE z js).length:=by
 by_cases c:(eE z js).length = 0
 ·have hn : eE z js = [] := List.eq_nil_of_length_eq_zero c
  have hm : ∀ j, j < z.length → ∃ x, x < 2 * js.length ∧ gq (cC js) x = j := fun j hj => by
   by_cases d:j ∈ iM js
   ·exact rM.1 d
   ·have := Lo d hj
    rw [show dO (iM js) z.length = [] from hn] at this
    cases this
  have:=Je h
  have h3 : z.length ≤ 2 * js.length := pig (f := fun j => if hj : j < z.length then Classical.choose (hm j hj) else 0) (fun j hj => by
   simp only [dif_pos hj]; exact (Classical.choose_spec (hm j hj)).1) (fun x y hx hy e=>by
   simp only [dif_pos hx,dif_pos hy] at e
   rw [← (Classical.choose_spec (hm x hx)).2,← (Classical.choose_spec (hm y hy)).2,e])
  omega
 ·omega
theorem Uz (x : Qi) (l m : List Qi) : ∀ k, wV x l m k = x + aE k fun y => gv l y * gv m y
 | 0=>by rw [wV,aE,show Qi.zero = (0:Qi) from rfl]; grind
 | k + 1=>by rw [wV,Uz x l m k,aE]; grind
theorem Rq {S:List (List Qi)} {ps:List (Nat × Nat)} {m a b:Nat}:wV (gm S a b) (tab m fun x=>gm S a (gq ps x)) (jB (lW S ps m) (uG S ps m b) m) m = uJ S ps m a b:=by
 rw [Uz,uJ]
 congr 1
 exact aD fun y hy=>by rw [kU hy]
theorem tR {S : List (List Qi)} {ps : List (Nat × Nat)} {m L : Nat} (hf : bB S L) (hL : 1 ≤ L) : bB (lW S ps m) (L + 2) := bB.tab fun x y _ _ => by
 haveI h1:=hf.get hL (gq ps (gC x)) (gq ps y)
 haveI h2 : aM (if x = y then Qi.ofInt 1 else Qi.ofInt 0) 1 := by
  split
  ·exact yL
  ·exact (aM.zero (Nat.le_refl 1):aM Qi.zero 1)
 exact (fitSub:aM (_ - _) (1 + L + 1)).le zo
theorem Dg {S:List (List Qi)} {ps:List (Nat × Nat)} {m b L:Nat} (hf:bB S L) (hL:1 ≤ L):cH (uG S ps m b) L:=cH.tab fun x _=>hf.get hL _ _
theorem a3t {S:List (List Qi)} {ps:List (Nat × Nat)} {m a b L G:Nat} (hf:bB S L) (hL:1 ≤ L) (hG:rX (eD (L + 2) m) m ≤ G) (hE:kO (lW S ps m) (uG S ps m b) m = 0):aM (uJ S ps m a b) (L + m * (2 * G + 2)):=by
 have h1:L + 2 ≤ G:=Nat.le_trans (Nat.le_trans (wI (L + 2) m) (Hl _ _)) hG
 rw [← Rq]
 exact yI (hf.get hL a b) (cH.tab fun x _=>(hf.get hL a (gq ps x)).le zo) ((Xe (jW S ps m) (tR hf hL) ((Dg hf hL).le zo) zo hE).le hG) zo m
theorem Vq {z:List Qi} {S:List (List Qi)} {js:List (Int × Int)} {L G:Nat} (hf:bB S L) (hL:1 ≤ L) (hG:Ae z js = 0 → rX (eD (L + 2) (2 * js.length)) (2 * js.length) ≤ G) (hB:∀ m,m = 2 * js.length → Ae z js = 0 → L + m * (2 * G + 2) ≤ 900000000000):bB (jT z S js) 900000000000:=by
 by_cases h:kE z S js = 0
 ·have hj : Ae z js = 0 := by
   by_cases c:Ae z js = 0
   ·exact c
   ·rw [a4Q c] at h; exact absurd h c
  by_cases h0:js.length = 0
  ·rw [jT, cD, if_pos h, if_pos h0]
   exact hf.le (Nat.le_trans (Nat.le_add_right _ _) (hB _ rfl hj))
  ·have hs := Fk (S := S) hj h0
   rw [h] at hs
   have he : Af z S js = 0 := by
    by_cases c:Af z S js = 0
    ·exact c
    ·rw [if_neg c] at hs; omega
   rw [jT,cD,if_pos h,if_neg h0,Fh]
   refine bB.tab fun i j _ hj2=>(a3t hf hL (hG hj) (gH he j hj2)).le (hB _ rfl hj)
 ·rw [jT, cD, if_neg h]
  exact fun r hr=>by cases hr
theorem yP {z:List Qi} {S:List (List Qi)} {js:List (Int × Int)} {L M:Nat} (h:cH z L) (hL:1 ≤ L) (hM:L ≤ M):cH (jZ z S js) M:=by
 refine yX ?_
 split
 ·exact h.le hM
 ·exact (Qk h hL).le hM
theorem xQ {z:List Qi} {S:List (List Qi)} {js:List (Int × Int)} (hS:cP S z.length z.length):cP (jT z S js) (jZ z S js).length (jZ z S js).length ∧ (jZ z S js).length ≤ z.length:=by
 by_cases h:kE z S js = 0
 ·by_cases h0 : js.length = 0
  ·rw [jT,jZ,cD,cD,if_pos h,if_pos h,if_pos h0,if_pos h0]; exact ⟨hS,Nat.le_refl _⟩
  ·rw [jT,jZ,cD,cD,if_pos h,if_pos h,if_neg h0,if_neg h0,Fj,Gy]; exact ⟨cP.tab,wL _ _⟩
 ·rw [jT,jZ,cD,cD,if_neg h,if_neg h]; exact ⟨⟨rfl,fun r hr=>by cases hr⟩,Nat.zero_le _⟩
end
section
open Go Go.RowKit
def Ie (i j:Nat):Qi:=if i = j then Qi.ofInt 1 else Qi.ofInt 0
theorem Wx (i j:Nat):aM (Ie i j) 1:=by
 unfold Ie; split
 ·exact yL
 ·exact aM.zero (Nat.le_refl 1)
end
section
open Go Go.RowKit
section
variable {φ:Qi → Qi → Bool} {z:List Qi} {js:List (Int × Int)}
end
theorem sC {a b:List (List Qi)} {n k m i j:Nat} (hi:i < n) (hj:j < m):gm (nA a b n k m) i j = aE k fun t=>gm a i t * gm b t j:=jE hi hj
theorem a3F {A : List (List Qi)} {n : Nat} (h : cP A n n) : nA (Df n) A n n n = A := lX qO h fun i hi j hj => by
 rw [sC hi hj,fA hi (f:=fun t=>gm (Df n) i t * gm A t j) fun k hk hne=>by rw [wS hi hk,if_neg (Ne.symm hne)]; grind,wS hi hi,if_pos rfl]; grind
theorem a3G {A : List (List Qi)} {n : Nat} (h : cP A n n) : nA A (Df n) n n n = A := lX qO h fun i hi j hj => by
 rw [sC hi hj,fA hj (f:=fun t=>gm A i t * gm (Df n) t j) fun k hk hne=>by rw [wS hk hj,if_neg hne]; grind,wS hj hj,if_pos rfl]; grind
abbrev jp1 (js:List (Int × Int)) (k:Nat):Nat:=((kD js k).1 - 1).toNat
abbrev jp2 (js:List (Int × Int)) (k:Nat):Nat:=((kD js k).2 - 1).toNat
theorem a1t {js:List (Int × Int)} {k:Nat} (h:k < js.length):gq (cC js) (2 * k) = jp1 js k ∧ gq (cC js) (2 * k + 1) = jp2 js k:=by
 obtain ⟨h1,h2⟩:=Ry h
 rw [a3m,a5I]; exact ⟨h1,h2⟩
def hlf:Qi:=Qi.frac 1 0 2
section
variable {js:List (Int × Int)} {n:Nat}
end
theorem yT : ∀ n, dO [] n = tab n fun i => i
 | 0=>rfl
 | n + 1=>by rw [dO,yT n,mH]; rfl
end
section
open Go Go.RowKit
structure Ii (O:List Nat) (n:Nat):Prop where
 nd:O.Nodup
 all:∀ x,x ∈ O ↔ 1 ≤ x ∧ x ≤ n
theorem Ii.len {O:List Nat} {n:Nat} (h:Ii O n):O.length = n:=by
 refine Nat.le_antisymm ?_ ?_
 ·refine pig (n := n) (f := fun i => O.getD i 0 - 1) (fun x hx => ?_) (fun x y hx hy e => ?_)
  ·have := (h.all (O.getD x 0)).1 (by rw [show O.getD x 0 = O[x] by simp [List.getD, hx]]; exact List.getElem_mem hx)
   show O.getD x 0 - 1 < n; omega
  ·have a := (h.all (O.getD x 0)).1 (by rw [show O.getD x 0 = O[x] by simp [List.getD, hx]]; exact List.getElem_mem hx)
   have b:=(h.all (O.getD y 0)).1 (by rw [show O.getD y 0 = O[y] by simp [List.getD,hy]]; exact List.getElem_mem hy)
   have e2:O.getD x 0 = O.getD y 0:=by have:O.getD x 0 - 1 = O.getD y 0 - 1:=e; omega
   rw [show O.getD x 0 = O[x] by simp [List.getD,hx],show O.getD y 0 = O[y] by simp [List.getD,hy]] at e2
   exact (List.getElem_inj h.nd).1 e2
 ·have key : ∀ j, j < n → ∃ i, i < O.length ∧ O.getD i 0 = j + 1 := fun j hj => by
   obtain ⟨i,hi,e⟩:=List.getElem_of_mem ((h.all (j + 1)).2 ⟨by omega,by omega⟩)
   exact ⟨i,hi,by simp [List.getD,hi,e]⟩
  refine pig (n:=O.length) (f:=fun j=>if hj:j < n then Classical.choose (key j hj) else 0) (fun x hx=>by simp only [dif_pos hx]; exact (Classical.choose_spec (key x hx)).1) (fun x y hx hy e=>?_)
  simp only [dif_pos hx,dif_pos hy] at e
  have a:=(Classical.choose_spec (key x hx)).2
  have b:=(Classical.choose_spec (key y hy)).2
  rw [e] at a; omega
section
variable {O:List Nat} {n:Nat}
theorem Ii.at (h:Ii O n) {i:Nat} (hi:i < n):1 ≤ O.getD i 0 ∧ O.getD i 0 ≤ n:=by
 have hl:=h.len
 exact (h.all _).1 (by rw [show O.getD i 0 = O[i] by simp [List.getD,show i < O.length by omega]]; exact List.getElem_mem _)
theorem Ii.inj (h:Ii O n) {i j:Nat} (hi:i < n) (hj:j < n) (e:O.getD i 0 = O.getD j 0):i = j:=by
 have hl:=h.len
 rw [show O.getD i 0 = O[i] by simp [List.getD,show i < O.length by omega],show O.getD j 0 = O[j] by simp [List.getD,show j < O.length by omega]] at e
 exact (List.getElem_inj h.nd).1 e
end
end
section
open Go Go.RowKit
def Qu (S:Nat → Nat → Qi) (p q b:Nat) (v0 v1:Qi):Prop:=v0 = S q b + (S q p * v0 + S q q * v1) ∧ v1 = S p b + (S p p * v0 + S p q * v1)
def Kb (S:Nat → Nat → Qi) (p q:Nat):Prop:=∀ v0 v1:Qi,v0 = S q p * v0 + S q q * v1 → v1 = S p p * v0 + S p q * v1 → v0 = 0 ∧ v1 = 0
def jU (S:Nat → Nat → Qi) (p q r t a:Nat) (u0 u1 u2 u3:Qi):Qi:=S a p * u0 + S a q * u1 + (S a r * u2 + S a t * u3)
def Xs (S : Nat → Nat → Qi) (p q r t b : Nat) (u0 u1 u2 u3 : Qi) : Prop :=
 u0 = S q b + jU S p q r t q u0 u1 u2 u3 ∧ u1 = S p b + jU S p q r t p u0 u1 u2 u3 ∧ u2 = S t b + jU S p q r t t u0 u1 u2 u3 ∧ u3 = S r b + jU S p q r t r u0 u1 u2 u3
def xF (S:Nat → Nat → Qi) (p q r t:Nat):Prop:=∀ u0 u1 u2 u3:Qi,u0 = jU S p q r t q u0 u1 u2 u3 → u1 = jU S p q r t p u0 u1 u2 u3 → u2 = jU S p q r t t u0 u1 u2 u3 → u3 = jU S p q r t r u0 u1 u2 u3 → u0 = 0 ∧ u1 = 0 ∧ u2 = 0 ∧ u3 = 0
theorem uA {M:List (List Qi)} {b:List Qi} {n:Nat} (h:cP M n n):kO M b n = 0 ↔ ∀ y:Nat → Qi,(∀ i,i < n → aE n (fun k=>gm M i k * y k) = 0) → ∀ k,k < n → y k = 0:=by
 constructor
 ·intro e; exact (kQ h e).2
 ·intro hk
  apply Classical.byContradiction; intro e
  obtain ⟨y,hy,k,hkn,hne⟩:=Qd h e
  exact hne (hk y hy k hkn)
theorem Sx (f:Nat → Qi):aE 2 f = f 0 + f 1:=by simp only [aE,q0]; grind
theorem Gz (f:Nat → Qi):aE 4 f = f 0 + f 1 + (f 2 + f 3):=by simp only [aE,q0]; grind
section
variable {S:List (List Qi)} {p q r t a b:Nat}
abbrev J1 (p q:Nat):List (Int × Int):=[(((p + 1:Nat):Int),((q + 1:Nat):Int))]
abbrev J2 (p q r t:Nat):List (Int × Int):=[(((p + 1:Nat):Int),((q + 1:Nat):Int)),(((r + 1:Nat):Int),((t + 1:Nat):Int))]
theorem p1n (p:Nat):(((p + 1:Nat):Int) - 1).toNat = p:=by omega
theorem Ln:cC (J1 p q) = [(p,q)]:=by simp only [cC,J1,List.map_cons,List.map_nil,p1n]
theorem a1u:cC (J2 p q r t) = [(p,q),(r,t)]:=by simp only [cC,J2,List.map_cons,List.map_nil,p1n]
theorem Hy:iM (J1 p q) = [p,q]:=by
 have e:iM (J1 p q) = [(((p + 1:Nat):Int) - 1).toNat,(((q + 1:Nat):Int) - 1).toNat]:=rfl
 rw [e,p1n,p1n]
theorem Hz:iM (J2 p q r t) = [p,q,r,t]:=by
 have e:iM (J2 p q r t) = [(((p + 1:Nat):Int) - 1).toNat,(((q + 1:Nat):Int) - 1).toNat,(((r + 1:Nat):Int) - 1).toNat,(((t + 1:Nat):Int) - 1).toNat]:=rfl
 rw [e,p1n,p1n,p1n,p1n]
theorem a6h {v:Nat → Qi}:(aE 2 (fun y=>gm (lW S [(p,q)] 2) 0 y * v y) = v 0 - (gm S q p * v 0 + gm S q q * v 1)) ∧ (aE 2 (fun y=>gm (lW S [(p,q)] 2) 1 y * v y) = v 1 - (gm S p p * v 0 + gm S p q * v 1)):=by
 rw [wJ zo,wJ zo,Sx,Sx]
 exact ⟨rfl,rfl⟩
theorem a26 {v : Nat → Qi} : (aE 4 (fun y => gm (lW S [(p, q), (r, t)] 4) 0 y * v y) = v 0 - jU (gm S) p q r t q (v 0) (v 1) (v 2) (v 3)) ∧ (aE 4 (fun y => gm (lW S [(p, q), (r, t)] 4) 1 y * v y) = v 1 - jU (gm S) p q r t p (v 0) (v 1) (v 2) (v 3)) ∧
  (aE 4 (fun y=>gm (lW S [(p,q),(r,t)] 4) 2 y * v y) = v 2 - jU (gm S) p q r t t (v 0) (v 1) (v 2) (v 3)) ∧ (aE 4 (fun y=>gm (lW S [(p,q),(r,t)] 4) 3 y * v y) = v 3 - jU (gm S) p q r t r (v 0) (v 1) (v 2) (v 3)):=by
 rw [wJ zo,wJ zo,wJ zo,wJ zo,Gz,Gz,Gz,Gz]
 exact ⟨rfl,rfl,rfl,rfl⟩
theorem wX {x y:Qi} (h:x - y = 0):x = y:=by grind
theorem Wh {bb:List Qi}:kO (lW S [(p,q)] 2) bb 2 = 0 ↔ Kb (gm S) p q:=by
 rw [uA (jW _ _ _)]
 constructor
 ·intro h v0 v1 h0 h1
  have hk := h (fun k => if k = 0 then v0 else v1) (fun i hi => by
   obtain ⟨r0,r1⟩:=a6h (S:=S) (p:=p) (q:=q) (v:=fun k=>if k = 0 then v0 else v1)
   have c:i = 0 ∨ i = 1:=by omega
   rcases c with rfl | rfl
   ·rw [r0]; show v0 - (gm S q p * v0 + gm S q q * v1) = 0; clear r0 r1 h; grind
   ·rw [r1]; show v1 - (gm S p p * v0 + gm S p q * v1) = 0; clear r0 r1 h; grind)
  exact ⟨hk 0 zo,hk 1 zo⟩
 ·intro h y hy
  obtain ⟨r0,r1⟩:=a6h (S:=S) (p:=p) (q:=q) (v:=y)
  obtain ⟨a0,a1⟩:=h (y 0) (y 1) (wX (by rw [← r0]; exact hy 0 zo)) (wX (by rw [← r1]; exact hy 1 zo))
  intro k hk
  have c:k = 0 ∨ k = 1:=by omega
  rcases c with rfl | rfl
  ·exact a0
  ·exact a1
theorem Xo {bb:List Qi}:kO (lW S [(p,q),(r,t)] 4) bb 4 = 0 ↔ xF (gm S) p q r t:=by
 rw [uA (jW _ _ _)]
 constructor
 ·intro h u0 u1 u2 u3 h0 h1 h2 h3
  have hk := h (fun k => if k = 0 then u0 else if k = 1 then u1 else if k = 2 then u2 else u3) (fun i hi => by
   obtain ⟨r0,r1,r2,r3⟩:=a26 (S:=S) (p:=p) (q:=q) (r:=r) (t:=t) (v:=fun k=>if k = 0 then u0 else if k = 1 then u1 else if k = 2 then u2 else u3)
   have c:i = 0 ∨ i = 1 ∨ i = 2 ∨ i = 3:=by omega
   rcases c with rfl | rfl | rfl | rfl
   ·rw [r0]; show u0 - jU (gm S) p q r t q u0 u1 u2 u3 = 0; rw [← h0]; clear r0 r1 r2 r3 h; grind
   ·rw [r1]; show u1 - jU (gm S) p q r t p u0 u1 u2 u3 = 0; rw [← h1]; clear r0 r1 r2 r3 h; grind
   ·rw [r2]; show u2 - jU (gm S) p q r t t u0 u1 u2 u3 = 0; rw [← h2]; clear r0 r1 r2 r3 h; grind
   ·rw [r3]; show u3 - jU (gm S) p q r t r u0 u1 u2 u3 = 0; rw [← h3]; clear r0 r1 r2 r3 h; grind)
  exact ⟨hk 0 zo,hk 1 zo,hk 2 zo,hk 3 zo⟩
 ·intro h y hy
  obtain ⟨r0,r1,r2,r3⟩:=a26 (S:=S) (p:=p) (q:=q) (r:=r) (t:=t) (v:=y)
  obtain ⟨a0,a1,a2,a3⟩:=h (y 0) (y 1) (y 2) (y 3) (wX (by rw [← r0]; exact hy 0 zo)) (wX (by rw [← r1]; exact hy 1 zo)) (wX (by rw [← r2]; exact hy 2 zo)) (wX (by rw [← r3]; exact hy 3 zo))
  intro k hk
  have c:k = 0 ∨ k = 1 ∨ k = 2 ∨ k = 3:=by omega
  rcases c with rfl | rfl | rfl | rfl
  ·exact a0
  ·exact a1
  ·exact a2
  ·exact a3
theorem a4U (h:Kb (gm S) p q):∃ v0 v1,Qu (gm S) p q b v0 v1 ∧ ∀ a,uJ S [(p,q)] 2 a b = gm S a b + (gm S a p * v0 + gm S a q * v1):=by
 have hs:=(kQ (jW S [(p,q)] 2) (Wh (bb:=uG S [(p,q)] 2 b) |>.2 h)).1
 obtain ⟨r0,r1⟩:=a6h (S:=S) (p:=p) (q:=q) (v:=gv (jB (lW S [(p,q)] 2) (uG S [(p,q)] 2 b) 2))
 have h0:=hs 0 zo
 have h1:=hs 1 zo
 rw [r0,xP zo] at h0
 rw [r1,xP zo] at h1
 refine ⟨gv (jB (lW S [(p,q)] 2) (uG S [(p,q)] 2 b) 2) 0,gv (jB (lW S [(p,q)] 2) (uG S [(p,q)] 2 b) 2) 1,⟨?_,?_⟩,fun a=>?_⟩
 ·have e : gm S (gq [(p, q)] (gC 0)) b = gm S q b := rfl
  rw [e] at h0; clear r0 r1 hs h h1; grind
 ·have e : gm S (gq [(p, q)] (gC 1)) b = gm S p b := rfl
  rw [e] at h1; clear r0 r1 hs h h0; grind
 ·rw [uJ,Sx]; rfl
theorem a2p (h:xF (gm S) p q r t):∃ u0 u1 u2 u3,Xs (gm S) p q r t b u0 u1 u2 u3 ∧ ∀ a,uJ S [(p,q),(r,t)] 4 a b = gm S a b + jU (gm S) p q r t a u0 u1 u2 u3:=by
 have hs:=(kQ (jW S [(p,q),(r,t)] 4) (Xo (bb:=uG S [(p,q),(r,t)] 4 b) |>.2 h)).1
 obtain ⟨r0,r1,r2,r3⟩:=a26 (S:=S) (p:=p) (q:=q) (r:=r) (t:=t) (v:=gv (jB (lW S [(p,q),(r,t)] 4) (uG S [(p,q),(r,t)] 4 b) 4))
 have h0:=hs 0 zo
 have h1:=hs 1 zo
 have h2:=hs 2 zo
 have h3:=hs 3 zo
 rw [r0,xP zo] at h0
 rw [r1,xP zo] at h1
 rw [r2,xP zo] at h2
 rw [r3,xP zo] at h3
 clear r0 r1 r2 r3 hs h
 refine ⟨gv (jB (lW S [(p,q),(r,t)] 4) (uG S [(p,q),(r,t)] 4 b) 4) 0,gv (jB (lW S [(p,q),(r,t)] 4) (uG S [(p,q),(r,t)] 4 b) 4) 1,gv (jB (lW S [(p,q),(r,t)] 4) (uG S [(p,q),(r,t)] 4 b) 4) 2,gv (jB (lW S [(p,q),(r,t)] 4) (uG S [(p,q),(r,t)] 4 b) 4) 3,⟨?_,?_,?_,?_⟩,fun a=>?_⟩
 ·rw [show gm S (gq [(p,q),(r,t)] (gC 0)) b = gm S q b from rfl] at h0; clear h1 h2 h3; grind
 ·rw [show gm S (gq [(p,q),(r,t)] (gC 1)) b = gm S p b from rfl] at h1; clear h0 h2 h3; grind
 ·rw [show gm S (gq [(p,q),(r,t)] (gC 2)) b = gm S t b from rfl] at h2; clear h1 h0 h3; grind
 ·rw [show gm S (gq [(p,q),(r,t)] (gC 3)) b = gm S r b from rfl] at h3; clear h1 h2 h0; grind
 ·rw [uJ,Gz]; rfl
end
section
variable {S:Nat → Nat → Qi} {p q r t a b:Nat}
theorem Jx (h:xF S p q r t) {v0 v1 v2 v3 w0 w1 w2 w3:Qi} (hv:Xs S p q r t b v0 v1 v2 v3) (hw:Xs S p q r t b w0 w1 w2 w3):v0 = w0 ∧ v1 = w1 ∧ v2 = w2 ∧ v3 = w3:=by
 obtain ⟨a1,a2,a3,a4⟩:=hv
 obtain ⟨b1,b2,b3,b4⟩:=hw
 obtain ⟨c1,c2,c3,c4⟩:=h (v0 - w0) (v1 - w1) (v2 - w2) (v3 - w3) (by clear h a2 a3 a4 b2 b3 b4; unfold jU at *; grind) (by clear h a1 a3 a4 b1 b3 b4; unfold jU at *; grind) (by clear h a1 a2 a4 b1 b2 b4; unfold jU at *; grind) (by clear h a1 a2 a3 b1 b2 b3; unfold jU at *; grind)
 exact ⟨wX c1,wX c2,wX c3,wX c4⟩
theorem Jh {u0 u1 u2 u3:Qi}:jU S p q r t a u0 u1 u2 u3 = jU S r t p q a u2 u3 u0 u1:=by unfold jU; grind
theorem Jf (h : xF S p q r t) : xF S r t p q := fun u0 u1 u2 u3 h0 h1 h2 h3 => by
 rw [Jh] at h0 h1 h2 h3
 obtain ⟨a,b,c,d⟩:=h u2 u3 u0 u1 h2 h3 h0 h1
 exact ⟨c,d,a,b⟩
def S1 (S:Nat → Nat → Qi) (p q:Nat) (V:Nat → Qi × Qi) (a b:Nat):Qi:=S a b + (S a p * (V b).1 + S a q * (V b).2)
variable {V:Nat → Qi × Qi}
theorem a4g (hV:∀ b,Qu S p q b (V b).1 (V b).2) {w2 w3:Qi} (h:Qu (S1 S p q V) r t b w2 w3):Xs S p q r t b ((V b).1 + ((V r).1 * w2 + (V t).1 * w3)) ((V b).2 + ((V r).2 * w2 + (V t).2 * w3)) w2 w3:=by
 obtain ⟨b1,b2⟩:=hV b
 obtain ⟨r1,r2⟩:=hV r
 obtain ⟨t1,t2⟩:=hV t
 obtain ⟨h1,h2⟩:=h
 unfold S1 at h1 h2
 generalize V b = vb at *
 generalize V r = vr at *
 generalize V t = vt at *
 clear hV
 refine ⟨?_,?_,?_,?_⟩
 ·clear h1 h2 b2 r2 t2
  have e:vb.1 + (vr.1 * w2 + vt.1 * w3) = (S q b + (S q p * vb.1 + S q q * vb.2)) + ((S q r + (S q p * vr.1 + S q q * vr.2)) * w2 + (S q t + (S q p * vt.1 + S q q * vt.2)) * w3):=by rw [← b1,← r1,← t1]
  unfold jU
  clear b1 r1 t1
  grind
 ·clear h1 h2 b1 r1 t1
  have e:vb.2 + (vr.2 * w2 + vt.2 * w3) = (S p b + (S p p * vb.1 + S p q * vb.2)) + ((S p r + (S p p * vr.1 + S p q * vr.2)) * w2 + (S p t + (S p p * vt.1 + S p q * vt.2)) * w3):=by rw [← b2,← r2,← t2]
  unfold jU
  clear b2 r2 t2
  grind
 ·clear h2 b1 r1 t1 b2 r2 t2; unfold jU; grind
 ·clear h1 b1 r1 t1 b2 r2 t2; unfold jU; grind
theorem a4h {w2 w3:Qi}:S1 S p q V a b + (S1 S p q V a r * w2 + S1 S p q V a t * w3) = S a b + jU S p q r t a ((V b).1 + ((V r).1 * w2 + (V t).1 * w3)) ((V b).2 + ((V r).2 * w2 + (V t).2 * w3)) w2 w3:=by
 unfold S1 jU; grind
theorem a4f (hV:∀ b,Qu S p q b (V b).1 (V b).2) (hk:Kb S p q):xF S p q r t ↔ Kb (S1 S p q V) r t:=by
 obtain ⟨r1,r2⟩:=hV r
 obtain ⟨t1,t2⟩:=hV t
 generalize hvr:V r = vr at *
 generalize hvt:V t = vt at *
 constructor
 ·intro h w2 w3 h1 h2
  have e:∀ a,S1 S p q V a r * w2 + S1 S p q V a t * w3 = jU S p q r t a (vr.1 * w2 + vt.1 * w3) (vr.2 * w2 + vt.2 * w3) w2 w3:=fun a=>by unfold S1 jU; rw [hvr,hvt]; clear h h1 h2 r1 r2 t1 t2 hk hV; grind
  rw [e] at h1 h2
  have k := h (vr.1 * w2 + vt.1 * w3) (vr.2 * w2 + vt.2 * w3) w2 w3 (by
   have e1:vr.1 * w2 + vt.1 * w3 = (S q r + (S q p * vr.1 + S q q * vr.2)) * w2 + (S q t + (S q p * vt.1 + S q q * vt.2)) * w3:=by rw [← r1,← t1]
   unfold jU; clear h h1 h2 r1 r2 t1 t2 hk hV e; grind) (by
   have e1:vr.2 * w2 + vt.2 * w3 = (S p r + (S p p * vr.1 + S p q * vr.2)) * w2 + (S p t + (S p p * vt.1 + S p q * vt.2)) * w3:=by rw [← r2,← t2]
   unfold jU; clear h h1 h2 r1 r2 t1 t2 hk hV e; grind) h1 h2
  exact ⟨k.2.2.1,k.2.2.2⟩
 ·intro h u0 u1 u2 u3 h0 h1 h2 h3
  have k := hk (u0 - (vr.1 * u2 + vt.1 * u3)) (u1 - (vr.2 * u2 + vt.2 * u3)) (by
   have e1:vr.1 * u2 + vt.1 * u3 = (S q r + (S q p * vr.1 + S q q * vr.2)) * u2 + (S q t + (S q p * vt.1 + S q q * vt.2)) * u3:=by rw [← r1,← t1]
   unfold jU at h0; clear h h1 h2 h3 r1 r2 t1 t2 hk hV; grind) (by
   have e1:vr.2 * u2 + vt.2 * u3 = (S p r + (S p p * vr.1 + S p q * vr.2)) * u2 + (S p t + (S p p * vt.1 + S p q * vt.2)) * u3:=by rw [← r2,← t2]
   unfold jU at h1; clear h h0 h2 h3 r1 r2 t1 t2 hk hV; grind)
  have k0:=wX k.1
  have k1:=wX k.2
  have e:∀ a,S1 S p q V a r * u2 + S1 S p q V a t * u3 = jU S p q r t a u0 u1 u2 u3:=fun a=>by unfold S1 jU; rw [hvr,hvt,k0,k1]; clear h h0 h1 h2 h3 r1 r2 t1 t2 hk hV k k0 k1; grind
  obtain ⟨m1,m2⟩:=h u2 u3 (by rw [e]; exact h2) (by rw [e]; exact h3)
  rw [m1,m2] at k0 k1
  exact ⟨by rw [k0]; grind,by rw [k1]; grind,m1,m2⟩
end
end
section
open Go Go.RowKit
def low (c a b:Nat):Nat:=c - (if a < c then 1 else 0) - (if b < c then 1 else 0)
def okP (N p q r t : Nat) : Bool :=
 decide ((dO [p,q] N).length = N - 2) && decide (low r p q < N - 2) && decide (low t p q < N - 2) && decide (low r p q ≠ low t p q) && decide (cB (dO [p,q] N) (low r p q) = r) && decide (cB (dO [p,q] N) (low t p q) = t)
 && decide ((dO [low r p q,low t p q] (N - 2)).map (cB (dO [p,q] N)) = dO [p,q,r,t] N) && decide ((dO [p,q,r,t] N).length = N - 4) && decide (dO [t,r,p,q] N = dO [p,q,r,t] N) && decide (dO [r,t,p,q] N = dO [p,q,r,t] N)
def okA : Bool := (List.range 9).all fun N => (List.range N).all fun p => (List.range N).all fun q => (List.range N).all fun r => (List.range N).all fun t =>
 decide (p = q) || decide (p = r) || decide (p = t) || decide (q = r) || decide (q = t) || decide (r = t) || okP N p q r t
theorem a1K:okA = true:=by decide +kernel
structure uL (N p q r t:Nat):Prop where
 hp:p < N
 hq:q < N
 hr:r < N
 ht:t < N
 pq:p ≠ q
 pr:p ≠ r
 pt:p ≠ t
 qr:q ≠ r
 qt:q ≠ t
 rt:r ≠ t
theorem a1L {N p q r t:Nat} (h8:N ≤ 8) (h:uL N p q r t):okP N p q r t = true:=by
 have a:=a1K
 simp only [okA,List.all_eq_true,List.mem_range,Bool.or_eq_true,decide_eq_true_eq] at a
 have b:=a N zo p h.hp q h.hq r h.hr t h.ht
 rcases b with (((((b | b) | b) | b) | b) | b) | b
 ·exact absurd b h.pq
 ·exact absurd b h.pr
 ·exact absurd b h.pt
 ·exact absurd b h.qr
 ·exact absurd b h.qt
 ·exact absurd b h.rt
 ·exact b
structure OkP (N p q r t:Nat):Prop where
 len2:(dO [p,q] N).length = N - 2
 lr:low r p q < N - 2
 lt:low t p q < N - 2
 ne:low r p q ≠ low t p q
 gr:cB (dO [p,q] N) (low r p q) = r
 gt:cB (dO [p,q] N) (low t p q) = t
 lft:(dO [low r p q,low t p q] (N - 2)).map (cB (dO [p,q] N)) = dO [p,q,r,t] N
 len4:(dO [p,q,r,t] N).length = N - 4
 trn:dO [t,r,p,q] N = dO [p,q,r,t] N
 swp:dO [r,t,p,q] N = dO [p,q,r,t] N
theorem Gk {N p q r t:Nat} (h8:N ≤ 8) (h:uL N p q r t):OkP N p q r t:=by
 have a:=a1L h8 h
 simp only [okP,Bool.and_eq_true,decide_eq_true_eq] at a
 obtain ⟨⟨⟨⟨⟨⟨⟨⟨⟨a1,a2⟩,a3⟩,a4⟩,a5⟩,a6⟩,a7⟩,a8⟩,a9⟩,a10⟩:=a
 exact ⟨a1,a2,a3,a4,a5,a6,a7,a8,a9,a10⟩
theorem uL.swap {N p q r t:Nat} (h:uL N p q r t):uL N r t p q:=⟨h.hr,h.ht,h.hp,h.hq,h.rt,h.pr.symm,h.qr.symm,h.pt.symm,h.qt.symm,h.pq⟩
theorem Ja {n p:Nat} {l:List Nat} (hp:p < n) (h:p ∉ l):dR n ((p + 1:Nat):Int) (l.map fun (x:Nat)=>((x + 1:Nat):Int)) = 0:=by
 rw [dR,if_neg (fun k=>k ⟨by omega,by omega⟩),if_neg]
 simp only [List.any_map,List.any_eq_true,Function.comp,decide_eq_true_eq]
 rintro ⟨x,hx,e⟩
 exact h ((show x = p by omega) ▸ hx)
section
variable {z:List Qi} {S:List (List Qi)} {N p q r t:Nat} {ζ:Qi}
theorem Rz {js:List (Int × Int)} {k:Nat} {a b:Nat} {l:List Nat} (hk:kD js k = (((a + 1:Nat):Int),((b + 1:Nat):Int))) (hl:nF (js.take k) = l.map fun (x:Nat)=>((x + 1:Nat):Int)) (ha:a < z.length) (hb:b < z.length) (hal:a ∉ l) (hbl:b ∉ l) (hab:a ≠ b) (hz:gv z a = gv z b):yQ z js k = 0:=by
 have e2:(l.map fun (x:Nat)=>((x + 1:Nat):Int)) ++ [((a + 1:Nat):Int)] = (l ++ [a]).map fun (x:Nat)=>((x + 1:Nat):Int):=by simp
 rw [yQ,hk,hl]
 simp only []
 rw [e2,Ja ha hal,Ja hb (by simp only [List.mem_append,List.mem_singleton]; rintro (k | k); exact hbl k; exact hab k.symm),p1n,p1n,if_pos hz]; rfl
theorem a5O (hz : z.length = N) (hp : p < N) (hq : q < N) (hpq : p ≠ q) (hζ : ∀ i, i < N → gv z i = ζ) : Bo z (J1 p q) = 0 := gS fun i hi => by
 obtain rfl:i = 0:=by simp at hi; omega
 exact Rz (l:=[]) rfl rfl zo zo (by simp) (by simp) hpq (by rw [hζ p hp,hζ q hq])
theorem a5P (hz : z.length = N) (h : uL N p q r t) (hζ : ∀ i, i < N → gv z i = ζ) : Bo z (J2 p q r t) = 0 := gS fun i hi => by
 have c:i = 0 ∨ i = 1:=by simp at hi; omega
 rcases c with rfl | rfl
 ·exact Rz (l:=[]) rfl rfl (by have:=h.hp; omega) (by have:=h.hq; omega) (by simp) (by simp) h.pq (by rw [hζ p h.hp,hζ q h.hq])
 ·exact Rz (l:=[p,q]) rfl rfl (by have:=h.hr; omega) (by have:=h.ht; omega) (by simp; exact ⟨h.pr.symm,h.qr.symm⟩) (by simp; exact ⟨h.pt.symm,h.qt.symm⟩) h.rt (by rw [hζ r h.hr,hζ t h.ht])
theorem Iy {f : Nat → Int} {n : Nat} {P : Prop} (hn : 1 ≤ n) (h : ∀ i, f i = 0 ↔ P) : jQ f n = 0 ↔ P :=
 ⟨fun e=>(h 0).1 (gH e 0 zo),fun k=>gS fun i _=>(h i).2 k⟩
theorem a1o:eE z (J1 p q) = dO [p,q] z.length:=by rw [eE,Hy]
theorem a5Q:eE z (J2 p q r t) = dO [p,q,r,t] z.length:=by rw [eE,Hz]
theorem a4L (hz:z.length = N) (h3:3 ≤ N) (hp:p < N) (hq:q < N) (hpq:p ≠ q) (hl:1 ≤ (dO [p,q] N).length) (hζ:∀ i,i < N → gv z i = ζ):(kE z S (J1 p q) = 0 ↔ Kb (gm S) p q) ∧ (kE z S (J1 p q) = 0 ∨ kE z S (J1 p q) = 6):=by
 have hj:Ae z (J1 p q) = 0:=a1m (a5O hz hp hq hpq hζ) (by show ¬ (0 < 2 * 1 ∧ 2 * 1 = z.length); omega)
 have hs:=Fk (S:=S) hj (by simp)
 have hi : Af z S (J1 p q) = 0 ↔ Kb (gm S) p q := by
  have e:Af z S (J1 p q) = jQ (fun y=>kO (lW S (cC (J1 p q)) 2) (uG S (cC (J1 p q)) 2 ((eE z (J1 p q)).getD y 0)) 2) (eE z (J1 p q)).length:=rfl
  rw [e,a1o,hz]
  exact Iy hl fun i=>by rw [Ln]; exact Wh
 rw [hs]
 by_cases c:Af z S (J1 p q) = 0
 ·rw [if_pos c]; exact ⟨⟨fun _=>hi.1 c,fun _=>rfl⟩,.inl rfl⟩
 ·rw [if_neg c]; exact ⟨⟨fun h=>by omega,fun h=>absurd (hi.2 h) c⟩,.inr rfl⟩
theorem a11 (hz:z.length = N) (h5:5 ≤ N) (h:uL N p q r t) (hl:1 ≤ (dO [p,q,r,t] N).length) (hζ:∀ i,i < N → gv z i = ζ):(kE z S (J2 p q r t) = 0 ↔ xF (gm S) p q r t) ∧ (kE z S (J2 p q r t) = 0 ∨ kE z S (J2 p q r t) = 6):=by
 have hj:Ae z (J2 p q r t) = 0:=a1m (a5P hz h hζ) (by show ¬ (0 < 2 * 2 ∧ 2 * 2 = z.length); omega)
 have hs:=Fk (S:=S) hj (by simp)
 have hi : Af z S (J2 p q r t) = 0 ↔ xF (gm S) p q r t := by
  have e:Af z S (J2 p q r t) = jQ (fun y=>kO (lW S (cC (J2 p q r t)) 4) (uG S (cC (J2 p q r t)) 4 ((eE z (J2 p q r t)).getD y 0)) 4) (eE z (J2 p q r t)).length:=rfl
  rw [e,a5Q,hz]
  exact Iy hl fun i=>by rw [a1u]; exact Xo
 rw [hs]
 by_cases c:Af z S (J2 p q r t) = 0
 ·rw [if_pos c]; exact ⟨⟨fun _=>hi.1 c,fun _=>rfl⟩,.inl rfl⟩
 ·rw [if_neg c]; exact ⟨⟨fun h=>by omega,fun h=>absurd (hi.2 h) c⟩,.inr rfl⟩
theorem Jq (h:kE z S (J1 p q) = 0):jT z S (J1 p q) = (tab (dO [p,q] z.length).length fun x=>tab (dO [p,q] z.length).length fun y=>uJ S [(p,q)] 2 (cB (dO [p,q] z.length) x) (cB (dO [p,q] z.length) y)) ∧ jZ z S (J1 p q) = pH z (dO [p,q] z.length):=by
 have e:Fh z S (J1 p q) = tab (eE z (J1 p q)).length fun x=>tab (eE z (J1 p q)).length fun y=>uJ S (cC (J1 p q)) 2 (cB (eE z (J1 p q)) x) (cB (eE z (J1 p q)) y):=rfl
 constructor
 ·rw [jT,cD,if_pos h,if_neg (by simp),e,a1o,Ln]
 ·rw [jZ,cD,if_pos h,if_neg (by simp),Fj,a1o]
theorem Xd (h:kE z S (J2 p q r t) = 0):jT z S (J2 p q r t) = (tab (dO [p,q,r,t] z.length).length fun x=>tab (dO [p,q,r,t] z.length).length fun y=>uJ S [(p,q),(r,t)] 4 (cB (dO [p,q,r,t] z.length) x) (cB (dO [p,q,r,t] z.length) y)) ∧ jZ z S (J2 p q r t) = pH z (dO [p,q,r,t] z.length):=by
 have e:Fh z S (J2 p q r t) = tab (eE z (J2 p q r t)).length fun x=>tab (eE z (J2 p q r t)).length fun y=>uJ S (cC (J2 p q r t)) 4 (cB (eE z (J2 p q r t)) x) (cB (eE z (J2 p q r t)) y):=rfl
 constructor
 ·rw [jT,cD,if_pos h,if_neg (by simp),e,a5Q,a1u]
 ·rw [jZ,cD,if_pos h,if_neg (by simp),Fj,a5Q]
theorem rD {js:List (Int × Int)} (h:kE z S js ≠ 0):jT z S js = [] ∧ jZ z S js = []:=by rw [jT,jZ,cD,cD,if_neg h,if_neg h]; exact ⟨rfl,rfl⟩
theorem a2q {p' q' r' t' : Nat} (hz : z.length = N) (h5 : 5 ≤ N) (h : uL N p q r t) (h' : uL N p' q' r' t') (hl : 1 ≤ (dO [p, q, r, t] N).length) (hL : dO [p', q', r', t'] N = dO [p, q, r, t] N) (hζ : ∀ i, i < N → gv z i = ζ)
  (hk:xF (gm S) p' q' r' t' ↔ xF (gm S) p q r t)
  (hv:xF (gm S) p q r t → ∀ a b u0 u1 u2 u3,Xs (gm S) p q r t b u0 u1 u2 u3 → ∀ v0 v1 v2 v3,Xs (gm S) p' q' r' t' b v0 v1 v2 v3 → jU (gm S) p' q' r' t' a v0 v1 v2 v3 = jU (gm S) p q r t a u0 u1 u2 u3) :
  kE z S (J2 p' q' r' t') = kE z S (J2 p q r t) ∧ jZ z S (J2 p' q' r' t') = jZ z S (J2 p q r t) ∧ jT z S (J2 p' q' r' t') = jT z S (J2 p q r t):=by
 obtain ⟨i1,o1⟩:=a11 (S:=S) hz h5 h hl hζ
 obtain ⟨i2,o2⟩:=a11 (S:=S) hz h5 h' (by rw [hL]; exact hl) hζ
 by_cases c:xF (gm S) p q r t
 ·have c' := hk.2 c
  have e1:=i1.2 c
  have e2:=i2.2 c'
  obtain ⟨s1,z1⟩:=Xd e1
  obtain ⟨s2,z2⟩:=Xd e2
  rw [hz] at s1 z1 s2 z2
  rw [hL] at s2 z2
  refine ⟨by rw [e1,e2],by rw [z1,z2],?_⟩
  rw [s1,s2]
  refine eH fun x _=>eH fun y _=>?_
  obtain ⟨u0,u1,u2,u3,hu,eu⟩:=a2p (b:=cB (dO [p,q,r,t] N) y) c
  obtain ⟨v0,v1,v2,v3,hv',ev⟩:=a2p (b:=cB (dO [p,q,r,t] N) y) c'
  rw [eu,ev,hv c _ _ _ _ _ _ hu _ _ _ _ hv']
 ·have e1 : kE z S (J2 p q r t) = 6 := o1.resolve_left fun k => c (i1.1 k)
  have e2:kE z S (J2 p' q' r' t') = 6:=o2.resolve_left fun k=>c (hk.1 (i2.1 k))
  obtain ⟨b1,b2⟩:=rD (show kE z S (J2 p q r t) ≠ 0 by omega)
  obtain ⟨b3,b4⟩:=rD (show kE z S (J2 p' q' r' t') ≠ 0 by omega)
  exact ⟨by rw [e1,e2],by rw [b2,b4],by rw [b1,b3]⟩
theorem Gm (hz : z.length = N) (h5 : 5 ≤ N) (h8 : N ≤ 8) (h : uL N p q r t) (hζ : ∀ i, i < N → gv z i = ζ) :
  kE z S (J2 r t p q) = kE z S (J2 p q r t) ∧ jZ z S (J2 r t p q) = jZ z S (J2 p q r t) ∧ jT z S (J2 r t p q) = jT z S (J2 p q r t):=by
 have o:=Gk h8 h
 refine a2q hz h5 h h.swap (by rw [o.len4]; omega) o.swp hζ ⟨Jf,Jf⟩ fun hk a b u0 u1 u2 u3 hu v0 v1 v2 v3 hv=>?_
 have e:∀ a,jU (gm S) r t p q a v0 v1 v2 v3 = jU (gm S) p q r t a v2 v3 v0 v1:=fun a=>Jh
 obtain ⟨a0,a1,a2,a3⟩:=hv
 rw [e] at a0 a1 a2 a3
 obtain ⟨k0,k1,k2,k3⟩:=Jx hk hu ⟨a2,a3,a0,a1⟩
 rw [e,k0,k1,k2,k3]
theorem Mm {l:List Nat} {f:Nat → Nat} {i:Nat} (h:i < l.length):cB (l.map f) i = f (cB l i):=by simp [cB,List.getD,h]
theorem Gx {Q:List Nat} (hQ:∀ x,x ∈ Q → x < N) (hζ:∀ i,i < N → gv z i = ζ):pH z Q = tab Q.length fun _=>ζ:=eH fun i hi=>hζ _ (oB hQ hi)
theorem Dn (hz : z.length = N) (h5 : 5 ≤ N) (h8 : N ≤ 8) (h : uL N p q r t) (hζ : ∀ i, i < N → gv z i = ζ) (hE : kE z S (J1 p q) = 0) :
  kE (jZ z S (J1 p q)) (jT z S (J1 p q)) (J1 (low r p q) (low t p q)) = kE z S (J2 p q r t) ∧ jZ (jZ z S (J1 p q)) (jT z S (J1 p q)) (J1 (low r p q) (low t p q)) = jZ z S (J2 p q r t) ∧ jT (jZ z S (J1 p q)) (jT z S (J1 p q)) (J1 (low r p q) (low t p q)) = jT z S (J2 p q r t)
  ∧ (jZ z S (J1 p q)).length = N - 2:=by
 have o:=Gk h8 h
 obtain ⟨sS,sZ⟩:=Jq hE
 rw [hz] at sS sZ
 have hl2:=o.len2
 have hz1:jZ z S (J1 p q) = tab (N - 2) fun _=>ζ:=by rw [sZ,Gx (fun x hx=>qL hx) hζ,hl2]
 have hk:=(a4L (S:=S) hz zo h.hp h.hq h.pq zo hζ).1.1 hE
 have hsol : ∀ b, ∃ v : Qi × Qi, Qu (gm S) p q b v.1 v.2 ∧ ∀ a, uJ S [(p, q)] 2 a b = gm S a b + (gm S a p * v.1 + gm S a q * v.2) := fun b => by
  obtain ⟨v0,v1,a,b⟩:=a4U (b:=b) hk; exact ⟨(v0,v1),a,b⟩
 obtain ⟨V,hV⟩:∃ V:Nat → Qi × Qi,∀ b,Qu (gm S) p q b (V b).1 (V b).2 ∧ ∀ a,uJ S [(p,q)] 2 a b = gm S a b + (gm S a p * (V b).1 + gm S a q * (V b).2):=⟨fun b=>Classical.choose (hsol b),fun b=>Classical.choose_spec (hsol b)⟩
 have hgm : ∀ i j, i < N - 2 → j < N - 2 → gm (jT z S (J1 p q)) i j = S1 (gm S) p q V (cB (dO [p, q] N) i) (cB (dO [p, q] N) j) := fun i j hi hj => by
  rw [sS,jE zo zo,(hV _).2]; rfl
 generalize hzz:jZ z S (J1 p q) = z1 at *
 generalize hss:jT z S (J1 p q) = T at *
 have hz1l:z1.length = N - 2:=by rw [hz1,aC]
 have hζ1:∀ i,i < N - 2 → gv z1 i = ζ:=fun i hi=>by rw [hz1,kU hi]
 have hll:(dO [low r p q,low t p q] (N - 2)).length = N - 4:=by rw [← o.len4,← o.lft,List.length_map]
 obtain ⟨i1,o1⟩:=a4L (S:=T) hz1l zo o.lr o.lt o.ne zo hζ1
 obtain ⟨i2,o2⟩:=a11 (S:=S) hz h5 h (by rw [o.len4]; omega) hζ
 have k1 : Kb (gm T) (low r p q) (low t p q) ↔ Kb (S1 (gm S) p q V) r t := by
  unfold Kb
  rw [hgm _ _ o.lt o.lr,hgm _ _ o.lt o.lt,hgm _ _ o.lr o.lr,hgm _ _ o.lr o.lt,o.gr,o.gt]
 have k2:=a4f (r:=r) (t:=t) (fun b=>(hV b).1) hk
 refine ⟨?_,?_,?_,hz1l⟩
 ·by_cases c : xF (gm S) p q r t
  ·rw [i2.2 c,i1.2 (k1.2 (k2.1 c))]
  ·rw [o2.resolve_left fun k=>c (i2.1 k),o1.resolve_left fun k=>c (k2.2 (k1.1 (i1.1 k)))]
 ·by_cases c : xF (gm S) p q r t
  ·obtain ⟨_, zz1⟩ := Jq (i1.2 (k1.2 (k2.1 c)))
   obtain ⟨_,zz2⟩:=Xd (i2.2 c)
   rw [zz1,zz2,hz,hz1l,Gx (fun x hx=>qL hx) hζ1,Gx (fun x hx=>qL hx) hζ,hll,o.len4]
  ·rw [(rD (fun k=>c (i2.1 k))).2,(rD (fun k=>c (k2.2 (k1.1 (i1.1 k))))).2]
 ·by_cases c : xF (gm S) p q r t
  ·obtain ⟨ss1, _⟩ := Jq (i1.2 (k1.2 (k2.1 c)))
   obtain ⟨ss2,_⟩:=Xd (i2.2 c)
   rw [ss1,ss2,hz,hz1l,hll,o.len4]
   refine eH fun x hx=>eH fun y hy=>?_
   have gx:cB (dO [p,q,r,t] N) x = cB (dO [p,q] N) (cB (dO [low r p q,low t p q] (N - 2)) x):=by rw [← o.lft,Mm zo]
   have gy:cB (dO [p,q,r,t] N) y = cB (dO [p,q] N) (cB (dO [low r p q,low t p q] (N - 2)) y):=by rw [← o.lft,Mm zo]
   have bx:cB (dO [low r p q,low t p q] (N - 2)) x < N - 2:=oB (fun x hx=>qL hx) zo
   have bY:cB (dO [low r p q,low t p q] (N - 2)) y < N - 2:=oB (fun x hx=>qL hx) zo
   generalize cB (dO [low r p q,low t p q] (N - 2)) x = a' at *
   generalize cB (dO [low r p q,low t p q] (N - 2)) y = b' at *
   rw [gx,gy]
   obtain ⟨w2,w3,hw,ew⟩:=a4U (b:=b') (k1.2 (k2.1 c))
   obtain ⟨u0,u1,u2,u3,hu,eu⟩:=a2p (b:=cB (dO [p,q] N) b') c
   rw [ew,eu,hgm _ _ bx bY,hgm _ _ bx o.lr,hgm _ _ bx o.lt,o.gr,o.gt]
   have hw2 : Qu (S1 (gm S) p q V) r t (cB (dO [p, q] N) b') w2 w3 := by
    obtain ⟨a1,a2⟩:=hw
    rw [hgm _ _ o.lt bY,hgm _ _ o.lt o.lr,hgm _ _ o.lt o.lt,o.gr,o.gt] at a1
    rw [hgm _ _ o.lr bY,hgm _ _ o.lr o.lr,hgm _ _ o.lr o.lt,o.gr,o.gt] at a2
    exact ⟨a1,a2⟩
   obtain ⟨e0,e1,e2,e3⟩:=Jx c hu (a4g (fun b=>(hV b).1) hw2)
   rw [a4h,e0,e1,e2,e3]
  ·rw [(rD (fun k=>c (i2.1 k))).1,(rD (fun k=>c (k2.2 (k1.1 (i1.1 k))))).1]
end
end
section
open Go Go.RowKit
def Gb (x:Qi) (N:Nat):Prop:=∃ p q:Int,x = Qi.mk (p:Rat) (q:Rat) ∧ p.natAbs ≤ N ∧ q.natAbs ≤ N
theorem Gb.le {x:Qi} {N M:Nat} (h:Gb x N) (k:N ≤ M):Gb x M:=by
 obtain ⟨p,q,e,h1,h2⟩:=h; exact ⟨p,q,e,by omega,by omega⟩
theorem Gb.add {x y:Qi} {N M:Nat} (h:Gb x N) (k:Gb y M):Gb (x + y) (N + M):=by
 obtain ⟨p,q,rfl,h1,h2⟩:=h; obtain ⟨r,s,rfl,k1,k2⟩:=k
 refine ⟨p + r,q + s,Qi.ext' ?_ ?_,by omega,by omega⟩
 ·show (p:Rat) + (r:Rat) = ((p + r:Int):Rat); push_cast; rfl
 ·show (q:Rat) + (s:Rat) = ((q + s:Int):Rat); push_cast; rfl
theorem Gb.neg {x:Qi} {N:Nat} (h:Gb x N):Gb (-x) N:=by
 obtain ⟨p,q,rfl,h1,h2⟩:=h
 refine ⟨-p,-q,Qi.ext' ?_ ?_,by omega,by omega⟩
 ·show -(p:Rat) = ((-p:Int):Rat); push_cast; rfl
 ·show -(q:Rat) = ((-q:Int):Rat); push_cast; rfl
theorem Gb.sub {x y:Qi} {N M:Nat} (h:Gb x N) (k:Gb y M):Gb (x - y) (N + M):=by rw [Qi.sub_def]; exact h.add k.neg
theorem rS {p q:Int} {N M:Nat} (h:p.natAbs ≤ N) (k:q.natAbs ≤ M):(p * q).natAbs ≤ N * M:=by rw [Int.natAbs_mul]; exact Nat.mul_le_mul h k
theorem Gb.mul {x y:Qi} {N M:Nat} (h:Gb x N) (k:Gb y M):Gb (x * y) (2 * N * M):=by
 obtain ⟨p,q,rfl,h1,h2⟩:=h; obtain ⟨r,s,rfl,k1,k2⟩:=k
 have a1:=rS h1 k1; have a2:=rS h2 k2; have a3:=rS h1 k2; have a4:=rS h2 k1
 have e:2 * N * M = N * M + N * M:=by rw [Nat.mul_assoc,Nat.two_mul]
 refine ⟨p * r - q * s,p * s + q * r,Qi.ext' ?_ ?_,by omega,by omega⟩
 ·rw [Qi.mul_re]; show (p:Rat) * (r:Rat) - (q:Rat) * (s:Rat) = ((p * r - q * s:Int):Rat); push_cast; rfl
 ·rw [Qi.mul_im]; show (p:Rat) * (s:Rat) + (q:Rat) * (r:Rat) = ((p * s + q * r:Int):Rat); push_cast; rfl
theorem Gb.sum {f : Nat → Qi} {N : Nat} : ∀ {n : Nat}, (∀ k, k < n → Gb (f k) N) → Gb (aE n f) (n * N)
 | 0,_=>⟨0,0,Qi.ext' rfl rfl,by simp,by simp⟩
 | n + 1, h => by
  rw [aE,Nat.succ_mul]
  exact (Gb.sum fun k hk=>h k zo).add (h n zo)
theorem Gb.fit {x:Qi} {N L:Nat} (h:Gb x N) (hN:N < BB ^ L) (hL:1 ≤ L):aM x L:=by
 obtain ⟨p,q,rfl,h1,h2⟩:=h
 have e:Qi.mk (p:Rat) (q:Rat) = Qi.mk' p q 1:=Qi.ext' (by rw [Qi.mk_re]; show (p:Rat) = p / ((1:Nat):Rat); grind) (by rw [Qi.mk_im]; show (q:Rat) = q / ((1:Nat):Rat); grind)
 rw [e]
 exact ⟨Qi.Fit.mk (by decide) zo zo (Qi.one_lt hL)⟩
theorem uB (n:Nat) (f:Nat → Qi):aE (n + 1) f = f 0 + aE n fun k=>f (k + 1):=by
 rw [Nat.add_comm n 1,tE,Ha]
 exact congrArg _ (aD fun k _=>by rw [Nat.add_comm])
def fs : Nat → Nat → Nat
 | 0,_=>1
 | n + 1,N=>2 * (n + 1) * N * fs n (4 * N * N)
theorem Sa {F:Nat → Nat → Qi} {n:Nat} {x:Nat → Qi}:yB F (n + 1) (n + 1) x ↔ (F 0 0 * x 0 + aE n (fun k=>F 0 (k + 1) * x (k + 1)) = 0) ∧ ∀ i,i < n → F (i + 1) 0 * x 0 + aE n (fun k=>F (i + 1) (k + 1) * x (k + 1)) = 0:=by
 constructor
 ·intro h
  exact ⟨by have:=h 0 zo; rwa [uB] at this,fun i hi=>by have:=h (i + 1) zo; rwa [uB] at this⟩
 ·rintro ⟨h1, h2⟩ i hi
  rw [uB]
  cases i with
  | zero=>exact h1
  | succ i=>exact h2 i zo
theorem Ql (n:Nat) (a b:Qi) (f g x:Nat → Qi):aE n (fun k=>(a * f k - b * g k) * x k) = a * aE n (fun k=>f k * x k) - b * aE n (fun k=>g k * x k):=by
 induction n with
 | zero=>simp only [aE,q0]; grind
 | succ n ih=>simp only [aE,ih]; grind
theorem Bi (n:Nat) (a:Qi) (f x:Nat → Qi):aE n (fun k=>f k * (x k * a)) = a * aE n (fun k=>f k * x k):=by
 induction n with
 | zero=>simp only [aE,q0]; grind
 | succ n ih=>simp only [aE,ih]; grind
theorem a3g {F : Nat → Nat → Qi} {n N : Nat} (hp : F 0 0 ≠ 0) (hN : 1 ≤ N) (hF : ∀ i, i < n + 1 → ∀ j, j ≤ n + 1 → Gb (F i j) N) (hk : ∀ v, yB F (n + 1) (n + 1) v → ∀ k, k < n + 1 → v k = 0)
  (ih:∀ G:Nat → Nat → Qi,(∀ i,i < n → ∀ j,j ≤ n → Gb (G i j) (4 * N * N)) → (∀ v,yB G n n v → ∀ k,k < n → v k = 0) → ∃ (y:Nat → Qi) (e:Qi),e ≠ 0 ∧ Gb e (fs n (4 * N * N)) ∧ (∀ k,k < n → Gb (y k) (fs n (4 * N * N))) ∧ ∀ i,i < n → aE n (fun k=>G i k * y k) = e * G i n) :
  ∃ (y:Nat → Qi) (e:Qi),e ≠ 0 ∧ Gb e (fs (n + 1) N) ∧ (∀ k,k < n + 1 → Gb (y k) (fs (n + 1) N)) ∧ ∀ i,i < n + 1 → aE (n + 1) (fun k=>F i k * y k) = e * F i (n + 1):=by
 obtain ⟨y, e, he, ge, gy, hy⟩ := ih (fun i j => F 0 0 * F (i + 1) (j + 1) - F (i + 1) 0 * F 0 (j + 1)) (fun i hi j hj => by
   have h1:=(hF 0 zo 0 zo).mul (hF (i + 1) zo (j + 1) zo)
   have h2:=(hF (i + 1) zo 0 zo).mul (hF 0 zo (j + 1) zo)
   exact (h1.sub h2).le (by rw [show 4 * N * N = 2 * N * N + 2 * N * N by rw [← Nat.add_mul]; congr 1; omega]; exact Nat.le_refl _)) (fun v hv k hkn=>by
   have hz := hk (fun k => if k = 0 then -(aE n fun k => F 0 (k + 1) * v k) else F 0 0 * v (k - 1)) (Sa.2 ⟨by
    simp only [if_true,Nat.add_sub_cancel,if_neg (Nat.succ_ne_zero _)]
    have:=Bi n (F 0 0) (fun k=>F 0 (k + 1)) v
    simp only [Qi.mul_comm' _ (F 0 0)] at this ⊢
    rw [this]; grind,fun i hi=>by
    simp only [if_true,Nat.add_sub_cancel,if_neg (Nat.succ_ne_zero _)]
    have:=Bi n (F 0 0) (fun k=>F (i + 1) (k + 1)) v
    simp only [Qi.mul_comm' _ (F 0 0)] at this ⊢
    rw [this]
    have h:=hv i hi
    have h2:=Ql n (F 0 0) (F (i + 1) 0) (fun k=>F (i + 1) (k + 1)) (fun k=>F 0 (k + 1)) v
    simp only [] at h
    rw [h2] at h
    grind⟩) (k + 1) zo
   simp only [Nat.add_sub_cancel,if_neg (Nat.succ_ne_zero _)] at hz
   rcases oX hz with h | h
   ·exact absurd h hp
   ·exact h)
 have hf1 : 1 ≤ fs n (4 * N * N) := by
  apply Decidable.byContradiction; intro h
  have h0:fs n (4 * N * N) = 0:=by omega
  rw [h0] at ge
  obtain ⟨p,q,e1,p1,p2⟩:=ge
  have hp0:p = 0:=by omega
  have hq0:q = 0:=by omega
  exact he (by rw [e1,hp0,hq0]; exact Qi.ext' rfl rfl)
 have hG : fs (n + 1) N = (n + 1) * (2 * fs n (4 * N * N) * N) := by
  rw [fs]; simp only [Nat.mul_comm,Nat.mul_left_comm,Nat.mul_assoc]
 have hG1:2 * fs n (4 * N * N) * N ≤ fs (n + 1) N:=by rw [hG]; exact Nat.le_mul_of_pos_left _ zo
 refine ⟨fun k=>if k = 0 then e * F 0 (n + 1) - aE n (fun k=>F 0 (k + 1) * y k) else y (k - 1) * F 0 0,e * F 0 0,fun h=>?_,?_,fun k hkn=>?_,fun i hi=>?_⟩
 ·rcases oX h with h | h
  ·exact he h
  ·exact hp h
 ·exact (ge.mul (hF 0 zo 0 zo)).le hG1
 ·cases k with
  | zero =>
   simp only [if_true]
   have h1:=ge.mul (hF 0 zo (n + 1) zo)
   have h2:Gb (aE n fun k=>F 0 (k + 1) * y k) (n * (2 * N * fs n (4 * N * N))):=Gb.sum fun k hk=>(hF 0 zo (k + 1) zo).mul (gy k hk)
   refine (h1.sub h2).le ?_
   have e3:n * (2 * N * fs n (4 * N * N)) = n * (2 * fs n (4 * N * N) * N):=by simp only [Nat.mul_comm,Nat.mul_left_comm,Nat.mul_assoc]
   have e4:(n + 1) * (2 * fs n (4 * N * N) * N) = n * (2 * fs n (4 * N * N) * N) + 2 * fs n (4 * N * N) * N:=Nat.succ_mul _ _
   rw [hG,e3,e4,Nat.add_comm]; exact Nat.le_refl _
  | succ k =>
   simp only [Nat.add_sub_cancel,if_neg (Nat.succ_ne_zero _)]
   exact ((gy k zo).mul (hF 0 zo 0 zo)).le hG1
 ·rw [uB]
  simp only [if_true,Nat.add_sub_cancel,if_neg (Nat.succ_ne_zero _)]
  rw [Bi n (F 0 0) (fun k=>F i (k + 1)) y]
  cases i with
  | zero=>grind
  | succ i =>
   have h:=hy i zo
   have h2:=Ql n (F 0 0) (F (i + 1) 0) (fun k=>F (i + 1) (k + 1)) (fun k=>F 0 (k + 1)) y
   rw [h2] at h
   grind
theorem Rr : ∀ (n N : Nat) (F : Nat → Nat → Qi), 1 ≤ N → (∀ i, i < n → ∀ j, j ≤ n → Gb (F i j) N) → (∀ v, yB F n n v → ∀ k, k < n → v k = 0) →
  ∃ (y:Nat → Qi) (e:Qi),e ≠ 0 ∧ Gb e (fs n N) ∧ (∀ k,k < n → Gb (y k) (fs n N)) ∧ ∀ i,i < n → aE n (fun k=>F i k * y k) = e * F i n
 | 0,N,F,_,_,_=>⟨fun _=>0,1,fun h=>by have:=congrArg Qi.re h; revert this; decide,⟨1,0,Qi.ext' rfl rfl,by simp [fs],by simp [fs]⟩,fun k hk=>by omega,fun i hi=>by omega⟩
 | n + 1, N, F, hN, hF, hk => by
  have hpz : ∃ p, p < n + 1 ∧ F p 0 ≠ 0 := by
   apply Classical.byContradiction; intro hno
   have hz : ∀ p, p < n + 1 → F p 0 = 0 := fun p hp => by
    apply Classical.byContradiction; intro h; exact hno ⟨p,hp,h⟩
   have := hk (fun k => if k = 0 then 1 else 0) (fun i hi => by
    rw [iN]
    intro k hk
    by_cases e:k = 0
    ·subst e; rw [hz i hi]; grind
    ·simp only [if_neg e]; grind) 0 zo
   simp only [if_true] at this
   have:=congrArg Qi.re this; revert this; decide
  obtain ⟨p,hp,hpz⟩:=hpz
  have hN4:1 ≤ 4 * N * N:=Nat.mul_pos zo zo
  obtain ⟨y, e, he, ge, gy, hy⟩ := a3g (F := fun i => F (Xk p 0 i)) (n := n) (N := N) (by simpa [Xk] using hpz) hN (fun i hi j hj => hF _ (Ms hp zo hi) j hj)
   (fun v hv=>hk v ((Ov hp zo).1 hv)) (fun G hG hGk=>Rr n (4 * N * N) G hN4 hG hGk)
  refine ⟨y,e,he,ge,gy,fun i hi=>?_⟩
  have:=hy (Xk p 0 i) (Ms hp zo hi)
  simp only [Xl] at this
  exact this
theorem Vc {N:Nat}:∀ {n:Nat},n ≤ 4 → 1 ≤ N → fs n N ≤ 1610612736 * N ^ 15:=by
 intro n hn hN
 have hp:∀ k,k ≤ 15 → N ^ k ≤ N ^ 15:=fun k hk=>Nat.pow_le_pow_right hN hk
 have h0:=hp 0 zo; have h1:=hp 1 zo; have h3:=hp 3 zo; have h7:=hp 7 zo
 match n,hn with
 | 0,_=>rw [fs]; rw [Nat.pow_zero] at h0; omega
 | 1,_=>simp only [fs]; rw [show 2 * (0 + 1) * N * 1 = 2 * N ^ 1 by grind]; omega
 | 2,_=>simp only [fs]; rw [show 2 * (1 + 1) * N * (2 * (0 + 1) * (4 * N * N) * 1) = 32 * N ^ 3 by grind]; omega
 | 3,_=>simp only [fs]; rw [show 2 * (2 + 1) * N * (2 * (1 + 1) * (4 * N * N) * (2 * (0 + 1) * (4 * (4 * N * N) * (4 * N * N)) * 1)) = 12288 * N ^ 7 by grind]; omega
 | 4,_=>simp only [fs]; rw [show 2 * (3 + 1) * N * (2 * (2 + 1) * (4 * N * N) * (2 * (1 + 1) * (4 * (4 * N * N) * (4 * N * N)) * (2 * (0 + 1) * (4 * (4 * (4 * N * N) * (4 * N * N)) * (4 * (4 * N * N) * (4 * N * N))) * 1))) = 1610612736 * N ^ 15 by grind]; omega
theorem a3c (x:Qi):((x.den:Int):Rat) * x.re = (x.a:Rat) ∧ ((x.den:Int):Rat) * x.im = (x.b:Rat):=by
 have h:=Qi.nc x.den_pos
 have h2:((x.den:Int):Rat) = (x.den:Rat):=by push_cast; rfl
 rw [h2]
 exact ⟨by rw [Qi.re_eq x]; grind,by rw [Qi.im_eq x]; grind⟩
theorem Mn {L : Nat} {x : Nat → Qi} : ∀ k, (∀ j, j < k → aM (x j) L) → ∃ d : Nat, 0 < d ∧ d ≤ BB ^ (k * L) ∧ ∀ j, j < k → Gb (Qi.ofInt d * x j) (BB ^ (k * L))
 | 0,_=>⟨1,by decide,Nat.pow_pos eP,fun j hj=>by omega⟩
 | k + 1, h => by
  obtain ⟨d,d0,dl,hd⟩:=Mn k fun j hj=>h j zo
  have hx:=(h k zo).fit
  have hm:=a3c (x k)
  have hpow:BB ^ ((k + 1) * L) = BB ^ (k * L) * BB ^ L:=by rw [Nat.succ_mul,Nat.pow_add]
  refine ⟨d * (x k).den,Nat.mul_pos d0 (x k).den_pos,?_,fun j hj=>?_⟩
  ·rw [hpow]; exact Nat.mul_le_mul dl (Nat.le_of_lt hx.2.2)
  ·by_cases e : j = k
   ·subst e
    refine ⟨d * (x j).a,d * (x j).b,Qi.ext' ?_ ?_,?_,?_⟩
    ·rw [Qi.mul_re]
     show (((d * (x j).den:Nat):Int):Rat) * (x j).re - 0 * (x j).im = ((d * (x j).a:Int):Rat)
     have:=hm.1; push_cast at *; grind
    ·rw [Qi.mul_im]
     show (((d * (x j).den:Nat):Int):Rat) * (x j).im + 0 * (x j).re = ((d * (x j).b:Int):Rat)
     have:=hm.2; push_cast at *; grind
    ·rw [hpow]; exact rS (by simpa using dl) (Nat.le_of_lt hx.1)
    ·rw [hpow]; exact rS (by simpa using dl) (Nat.le_of_lt hx.2.1)
   ·obtain ⟨p, q, e1, h1, h2⟩ := hd j zo
    have er:=congrArg Qi.re e1; have ei:=congrArg Qi.im e1
    rw [Qi.mul_re] at er; rw [Qi.mul_im] at ei
    refine ⟨p * (x k).den,q * (x k).den,Qi.ext' ?_ ?_,?_,?_⟩
    ·rw [Qi.mul_re]
     have er:((d:Int):Rat) * (x j).re - 0 * (x j).im = (p:Rat):=er
     show (((d * (x k).den:Nat):Int):Rat) * (x j).re - 0 * (x j).im = ((p * (x k).den:Int):Rat)
     push_cast at *; grind
    ·rw [Qi.mul_im]
     have ei:((d:Int):Rat) * (x j).im + 0 * (x j).re = (q:Rat):=ei
     show (((d * (x k).den:Nat):Int):Rat) * (x j).im + 0 * (x j).re = ((q * (x k).den:Int):Rat)
     push_cast at *; grind
    ·rw [hpow]; exact rS h1 (by simpa using Nat.le_of_lt hx.2.2)
    ·rw [hpow]; exact rS h2 (by simpa using Nat.le_of_lt hx.2.2)
theorem Pc {d : Nat} (h : 0 < d) : Qi.ofInt d ≠ 0 := fun e => by
 have:=congrArg Qi.re e
 have h2:((d:Int):Rat) = ((0:Int):Rat):=this
 rw [Rat.intCast_inj] at h2; omega
def a4o (L:Nat):Nat:=4 * (75 * L + 1) + 2
theorem a2i {M:List (List Qi)} {b:List Qi} {n L:Nat} (h:cP M n n) (hM:bB M L) (hb:cH b L) (hL:1 ≤ L) (hn:n ≤ 4) (hE:kO M b n = 0):cH (jB M b n) (a4o L):=by
 obtain ⟨s1,s2⟩:=kQ h hE
 have hrow : ∀ i, ∃ d : Nat, 0 < d ∧ ∀ j, j < n + 1 → Gb (Qi.ofInt d * (if j < n then gm M i j else gv b i)) (BB ^ (5 * L)) := fun i => by
  obtain ⟨d, d0, _, hd⟩ := Mn (L := L) (x := fun j => if j < n then gm M i j else gv b i) (n + 1) fun j _ => by
   show aM (if j < n then gm M i j else gv b i) L
   split
   ·exact hM.get hL i j
   ·exact hb.get hL i
  exact ⟨d,d0,fun j hj=>(hd j hj).le (Nat.pow_le_pow_right eP (Nat.mul_le_mul_right _ zo))⟩
 have hd:∃ d:Nat → Nat,∀ i,0 < d i ∧ ∀ j,j < n + 1 → Gb (Qi.ofInt (d i) * (if j < n then gm M i j else gv b i)) (BB ^ (5 * L)):=⟨fun i=>Classical.choose (hrow i),fun i=>Classical.choose_spec (hrow i)⟩
 obtain ⟨d,hd⟩:=hd
 have cancel : ∀ {i : Nat} {u : Qi}, Qi.ofInt (d i) * u = 0 → u = 0 := fun {i u} hu => by
  rcases oX hu with k | k
  ·exact absurd k (Pc (hd i).1)
  ·exact k
 have hsum : ∀ (i : Nat) (v : Nat → Qi), aE n (fun k => Qi.ofInt (d i) * (if k < n then gm M i k else gv b i) * v k) = Qi.ofInt (d i) * aE n (fun k => gm M i k * v k) := fun i v => by
  rw [Qi.mul_comm',← jC]
  exact aD fun k hk=>by rw [if_pos hk]; grind
 have hN:1 ≤ BB ^ (5 * L):=Nat.pow_pos eP
 obtain ⟨y, e, he, ge, gy, hy⟩ := Rr n (BB ^ (5 * L)) (fun i j => Qi.ofInt (d i) * (if j < n then gm M i j else gv b i)) hN (fun i _ j hj => (hd i).2 j zo) (fun v hv => s2 v fun i hi => by
  have:=hv i hi
  simp only [] at this
  rw [hsum] at this
  exact cancel this)
 have hbig : fs n (BB ^ (5 * L)) < BB ^ (75 * L + 1) := by
  refine Nat.lt_of_le_of_lt (Vc hn hN) ?_
  rw [← Nat.pow_mul,show 5 * L * 15 = 75 * L by omega,Nat.pow_succ,Nat.mul_comm]
  exact Nat.mul_lt_mul_of_pos_left (by decide) (Nat.pow_pos eP)
 have hsol : ∀ k, k < n → y k - e * gv (jB M b n) k = 0 := s2 (fun k => y k - e * gv (jB M b n) k) fun i hi => by
  have h1:=hy i hi
  rw [hsum,if_neg zo] at h1
  have h2:=s1 i hi
  have h3 : aE n (fun k => gm M i k * (y k - e * gv (jB M b n) k)) = aE n (fun k => gm M i k * y k) - e * aE n (fun k => gm M i k * gv (jB M b n) k) := by
   rw [← qV]; exact aD fun k _=>by grind
  rw [h3,h2]
  exact cancel (i:=i) (by grind)
 intro x hx
 obtain ⟨k,hk,rfl⟩:=List.mem_iff_getElem.1 hx
 rw [tC] at hk
 have hg:(jB M b n)[k] = gv (jB M b n) k:=by simp [gv,List.getD,tC,hk]
 rw [hg]
 have e1:gv (jB M b n) k = y k / e:=(a15 he (by have:=hsol k hk; grind)).symm
 haveI f1:aM (y k) (75 * L + 1):=(gy k hk).fit hbig zo
 haveI f2:aM e (75 * L + 1):=ge.fit hbig zo
 rw [e1]
 exact (fitDiv (x:=y k) (y:=e)).le (by unfold a4o; omega)
end
section
open Go Go.RowKit
theorem Gw {M:List (List Qi)} {b:List Qi} {n m L K:Nat} (h:cP M n n) (hM:bB M L) (hb:cH b L) (hL:1 ≤ L) (hn:n ≤ m) (hbig:fs n (BB ^ ((m + 1) * L)) < BB ^ K) (hK:1 ≤ K) (hE:kO M b n = 0):cH (jB M b n) (4 * K + 2):=by
 obtain ⟨s1,s2⟩:=kQ h hE
 have hrow : ∀ i, ∃ d : Nat, 0 < d ∧ ∀ j, j < n + 1 → Gb (Qi.ofInt d * (if j < n then gm M i j else gv b i)) (BB ^ ((m + 1) * L)) := fun i => by
  obtain ⟨d, d0, _, hd⟩ := Mn (L := L) (x := fun j => if j < n then gm M i j else gv b i) (n + 1) fun j _ => by
   show aM (if j < n then gm M i j else gv b i) L
   split
   ·exact hM.get hL i j
   ·exact hb.get hL i
  exact ⟨d,d0,fun j hj=>(hd j hj).le (Nat.pow_le_pow_right eP (Nat.mul_le_mul_right _ zo))⟩
 have hd:∃ d:Nat → Nat,∀ i,0 < d i ∧ ∀ j,j < n + 1 → Gb (Qi.ofInt (d i) * (if j < n then gm M i j else gv b i)) (BB ^ ((m + 1) * L)):=⟨fun i=>Classical.choose (hrow i),fun i=>Classical.choose_spec (hrow i)⟩
 obtain ⟨d,hd⟩:=hd
 have cancel : ∀ {i : Nat} {u : Qi}, Qi.ofInt (d i) * u = 0 → u = 0 := fun {i u} hu => by
  rcases oX hu with k | k
  ·exact absurd k (Pc (hd i).1)
  ·exact k
 have hsum : ∀ (i : Nat) (v : Nat → Qi), aE n (fun k => Qi.ofInt (d i) * (if k < n then gm M i k else gv b i) * v k) = Qi.ofInt (d i) * aE n (fun k => gm M i k * v k) := fun i v => by
  rw [Qi.mul_comm',← jC]
  exact aD fun k hk=>by rw [if_pos hk]; grind
 have hN:1 ≤ BB ^ ((m + 1) * L):=Nat.pow_pos eP
 obtain ⟨y, e, he, ge, gy, hy⟩ := Rr n (BB ^ ((m + 1) * L)) (fun i j => Qi.ofInt (d i) * (if j < n then gm M i j else gv b i)) hN (fun i _ j hj => (hd i).2 j zo) (fun v hv => s2 v fun i hi => by
  have:=hv i hi
  simp only [] at this
  rw [hsum] at this
  exact cancel this)
 have hsol : ∀ k, k < n → y k - e * gv (jB M b n) k = 0 := s2 (fun k => y k - e * gv (jB M b n) k) fun i hi => by
  have h1:=hy i hi
  rw [hsum,if_neg zo] at h1
  have h2:=s1 i hi
  have h3 : aE n (fun k => gm M i k * (y k - e * gv (jB M b n) k)) = aE n (fun k => gm M i k * y k) - e * aE n (fun k => gm M i k * gv (jB M b n) k) := by
   rw [← qV]; exact aD fun k _=>by grind
  rw [h3,h2]
  exact cancel (i:=i) (by grind)
 intro x hx
 obtain ⟨k,hk,rfl⟩:=List.mem_iff_getElem.1 hx
 rw [tC] at hk
 have hg:(jB M b n)[k] = gv (jB M b n) k:=by simp [gv,List.getD,tC,hk]
 rw [hg]
 have e1:gv (jB M b n) k = y k / e:=(a15 he (by have:=hsol k hk; grind)).symm
 haveI f1:aM (y k) K:=(gy k hk).fit hbig hK
 haveI f2:aM e K:=ge.fit hbig hK
 rw [e1]
 exact (fitDiv (x:=y k) (y:=e)).le zo
theorem a5F (L:Nat):fs 2 (BB ^ ((2 + 1) * L)) < BB ^ (9 * L + 1):=by
 have hN:1 ≤ BB ^ ((2 + 1) * L):=Nat.pow_pos eP
 have e:fs 2 (BB ^ ((2 + 1) * L)) = 32 * (BB ^ ((2 + 1) * L)) ^ 3:=by simp only [fs]; generalize BB ^ ((2 + 1) * L) = N; grind
 rw [e,← Nat.pow_mul,show (2 + 1) * L * 3 = 9 * L by omega,Nat.pow_succ,Nat.mul_comm]
 exact Nat.mul_lt_mul_of_pos_left (by decide) (Nat.pow_pos eP)
theorem a1s {z:List Qi} {S:List (List Qi)} {p q:Nat} (hf:bB S 2) (hE:kE z S (J1 p q) = 0) (hl:∀ y,y < (eE z (J1 p q)).length → kO (lW S [(p,q)] 2) (uG S [(p,q)] 2 (cB (eE z (J1 p q)) y)) 2 = 0):bB (jT z S (J1 p q)) 400:=by
 obtain ⟨hS,_⟩:=Jq hE
 rw [hS]
 refine bB.tab fun x y _ hy=>?_
 have h1:=Gw (m:=2) (K:=37) (jW S [(p,q)] 2) (tR hf (by decide)) ((Dg hf (by decide)).le (by decide)) (by decide) (Nat.le_refl 2) (a5F 4) (by decide) (hl y (by rw [a1o]; exact hy))
 rw [a1o] at h1
 have hq:=fun k=>h1.get (by decide) k
 rw [uJ]
 haveI g0:aM (gm S (cB (dO [p,q] z.length) x) (cB (dO [p,q] z.length) y)) 2:=hf.get (by decide) _ _
 haveI g1 : aM (aE 2 fun k => gm S (cB (dO [p, q] z.length) x) (gq [(p, q)] k) * gv (jB (lW S [(p, q)] 2) (uG S [(p, q)] 2 (cB (dO [p, q] z.length) y)) 2) k) (1 + 2 * (153 + 1)) := aM.sum fun k _ => by
  haveI a1:=hq k
  haveI a2:aM (gm S (cB (dO [p,q] z.length) x) (gq [(p,q)] k)) 2:=hf.get (by decide) _ _
  exact (fitMul).le (by decide)
 exact (fitAdd).le (by decide)
end
section
open Go Go.RowKit
def ixG (l : List Nat) (p : Nat) : Nat → Int
 | 0=>-1
 | k + 1=>if l.getD (l.length - (k + 1)) 0 = p then ((l.length - (k + 1):Nat):Int) else ixG l p k
def Ff (l:List Nat) (p:Nat):Int:=ixG l p l.length
theorem a4O (l : List Nat) (p : Nat) : ∀ k, ixG l p k = -1 ∨ (0 ≤ ixG l p k ∧ (ixG l p k).toNat < l.length ∧ l.getD (ixG l p k).toNat 0 = p) ∨ l.length < k
 | 0=>.inl rfl
 | k + 1 => by
  rw [ixG]
  by_cases c:l.length < k + 1
  ·exact .inr (.inr c)
  ·by_cases e : l.getD (l.length - (k + 1)) 0 = p
   ·rw [if_pos e]; exact .inr (.inl ⟨by omega,by rw [Int.toNat_natCast]; omega,by rw [Int.toNat_natCast]; exact e⟩)
   ·rw [if_neg e]
    rcases a4O l p k with h | h | h
    ·exact .inl h
    ·exact .inr (.inl h)
    ·omega
theorem Vm (l:List Nat) (p:Nat):Ff l p = -1 ∨ (0 ≤ Ff l p ∧ (Ff l p).toNat < l.length ∧ l.getD (Ff l p).toNat 0 = p):=by
 rcases a4O l p l.length with h | h | h
 ·exact .inl h
 ·exact .inr h
 ·omega
theorem a1j {l : List Nat} {p : Nat} : ∀ {k : Nat}, k ≤ l.length → ixG l p k < 0 → ∀ x, l.length - k ≤ x → x < l.length → l.getD x 0 ≠ p
 | 0,_,_,x,h1,h2=>by omega
 | k + 1, hk, h, x, h1, h2 => by
  rw [ixG] at h
  by_cases e:l.getD (l.length - (k + 1)) 0 = p
  ·rw [if_pos e] at h; omega
  ·rw [if_neg e] at h
   by_cases c:x = l.length - (k + 1)
   ·rw [c]; exact e
   ·exact a1j (k:=k) zo h x zo h2
theorem Vn {l:List Nat} {p:Nat}:0 ≤ Ff l p ↔ p ∈ l:=by
 constructor
 ·intro h
  rcases Vm l p with k | ⟨_,k1,k2⟩
  ·omega
  ·rw [← k2,show l.getD (Ff l p).toNat 0 = l[(Ff l p).toNat] by simp [List.getD,k1]]; exact List.getElem_mem k1
 ·intro h
  apply Classical.byContradiction; intro hn
  obtain ⟨x,hx,e⟩:=List.getElem_of_mem h
  exact a1j (l:=l) (p:=p) (Nat.le_refl _) (show ixG l p l.length < 0 by have:¬ 0 ≤ ixG l p l.length:=hn; omega) x zo hx (by rw [show l.getD x 0 = l[x] by simp [List.getD,hx]]; exact e)
def Zs (js:List (Int × Int)):List Nat:=tab (2 * js.length) (gq (cC js))
def wK (js:List (Int × Int)):List Nat:=tab (2 * js.length) fun x=>gq (cC js) (gC x)
theorem Xj {α:Type} (f:Nat → α) (k:Nat):tab (2 * (k + 1)) f = tab (2 * k) f ++ [f (2 * k),f (2 * k + 1)]:=by
 rw [show 2 * (k + 1) = 2 * k + 1 + 1 by omega,mH,mH,List.append_assoc]; rfl
theorem a4P (js:List (Int × Int)):Zs js = iM js:=by
 have h:=Ta (l:=iM js) (m:=2 * js.length) (Dh js)
 rw [h]
 refine (eH fun x hx=>?_).symm
 exact Lk hx
theorem a45 (k:Nat):gC (2 * k) = 2 * k + 1 ∧ gC (2 * k + 1) = 2 * k:=by
 constructor
 ·rw [gC,if_pos zo]
 ·rw [gC,if_neg zo]; omega
theorem a5S {js:List (Int × Int)} {n k:Nat} (hp:qR n (nF js) = 0) (hk:k < js.length):(kD js k).1 - 1 = ((gq (cC js) (2 * k):Nat):Int) ∧ (kD js k).2 - 1 = ((gq (cC js) (2 * k + 1):Nat):Int) ∧ -1000 ≤ (kD js k).1 ∧ (kD js k).1 ≤ n ∧ -1000 ≤ (kD js k).2 ∧ (kD js k).2 ≤ n:=by
 have hmm:=fun x hx=>Bd hp x hx
 have hm1:(kD js k).1 ∈ nF js:=by rw [nF,List.mem_flatMap]; exact ⟨kD js k,by rw [show kD js k = js[k] by simp [kD,List.getD,hk]]; exact List.getElem_mem hk,by simp⟩
 have hm2:(kD js k).2 ∈ nF js:=by rw [nF,List.mem_flatMap]; exact ⟨kD js k,by rw [show kD js k = js[k] by simp [kD,List.getD,hk]]; exact List.getElem_mem hk,by simp⟩
 have hb1:=hmm _ hm1
 have hb2:=hmm _ hm2
 obtain ⟨e1,e2⟩:=a1t hk
 rw [e1,e2]
 exact ⟨by show _ = (((kD js k).1 - 1).toNat:Int); omega,by show _ = (((kD js k).2 - 1).toNat:Int); omega,by omega,by omega,by omega,by omega⟩
def gnV (S:List (List Qi)) (js:List (Int × Int)) (x:Nat):List Qi:=jB (lW S (cC js) (2 * js.length)) (ek (2 * js.length) x) (2 * js.length)
def Zr (i k:Nat):Qi:=if k = i then Qi.ofInt 1 else Qi.ofInt 0
def mJ (S:List (List Qi)) (js:List (Int × Int)) (i k:Nat):Qi:=if 0 ≤ Ff (wK js) k then Zr i k + aE (2 * js.length) (fun y=>gm S i (gq (cC js) y) * gv (gnV S js (Ff (wK js) k).toNat) y) else Zr i k
def pJ (S:List (List Qi)) (js:List (Int × Int)) (N:Nat):List (List Qi):=(dO (iM js) N).map fun i=>tab N fun k=>mJ S js i k
theorem a3j (i k:Nat):aM (Zr i k) 1:=by
 unfold Zr; split
 ·exact yL
 ·exact (aM.zero (Nat.le_refl 1):aM Qi.zero 1)
theorem a3l {S:List (List Qi)} {js:List (Int × Int)} {i t L G:Nat} {v:List Qi} (hf:bB S L) (hL:1 ≤ L) (hv:cH v G) (hG:1 ≤ G) (ht:t ≤ 8):aM (aE t fun y=>gm S i (gq (cC js) y) * gv v y) (8 * (L + G) + 17):=by
 refine (aM.sum (L:=L + G + 1) fun y _=>?_).le ?_
 ·haveI := hf.get hL i (gq (cC js) y); haveI := hv.get hG y
  exact fitMul
 ·have : t * (L + G + 1 + 1) ≤ 8 * (L + G + 1 + 1) := Nat.mul_le_mul_right _ ht
  omega
end
section
open Go Go.RowKit
theorem a1b {f:Nat → List Qi} {l:List Nat} {a k:Nat} (h:a < l.length):gm (l.map f) a k = gv (f (cB l a)) k:=by simp [gm,cB,List.getD,h]
section
variable {z:List Qi} {s c:List (List Qi)} {g t:Qi} {p:Nat}
theorem mY (n:Nat) (f:Nat → Qi):aE (n + 1) f = aE n f + f n:=rfl
theorem a3k {S:List (List Qi)} {js:List (Int × Int)} {i k L G:Nat} (hf:bB S L) (hL:1 ≤ L) (hv:∀ x,cH (gnV S js x) G) (hG:1 ≤ G) (hj:2 * js.length ≤ 8):aM (mJ S js i k) (8 * (L + G) + 19):=by
 haveI g3:=a3j i k
 unfold mJ
 split
 ·haveI g4 := a3l (i := i) (t := 2 * js.length) (js := js) hf hL (hv (Ff (wK js) k).toNat) hG hj
  exact (fitAdd).le zo
 ·exact g3.le zo
theorem Dd {S : List (List Qi)} {js : List (Int × Int)} {N L G : Nat} (hf : bB S L) (hL : 1 ≤ L) (hv : ∀ x, cH (gnV S js x) G) (hG : 1 ≤ G) (hj : 2 * js.length ≤ 8) : bB (pJ S js N) (8 * (L + G) + 19) := fun r hr => by
 obtain ⟨i,_,rfl⟩:=List.mem_map.1 hr
 exact cH.tab fun k _=>a3k hf hL hv hG hj
theorem Vh (S : List (List Qi)) (js : List (Int × Int)) (N : Nat) : cP (pJ S js N) (dO (iM js) N).length N := ⟨by rw [pJ, List.length_map], fun r hr => by
 obtain ⟨i,_,rfl⟩:=List.mem_map.1 hr; exact aC _ _⟩
end
end
section
open Go Go.RowKit
theorem Yc {r n:Nat} (hr:r ≤ 1000) (h1:1 ≤ n) (hn:n ≤ 1000):iI Tryz.prog 97 [NT .i64 r,NT .i64 n] [] (Nat) (fun B=>Is (.slice (some ⟨B,0,none⟩) r r)) (fun B=>[kK eM B 29 51 5 (bS aF (zO r n))]) (fun _=>True):=by
 refine iI.intro Tryz.func97 rfl Tryz.ntmps97 rfl (fun cx Z=>(ts (ro rfl (cX cW) (eZ (ts (rm rfl (rn rfl (eS (T:=Is (.slice none 0 0)) (i:=Tryz.t29) V_30 lV rfl rfl (Ht rfl) rfl (fun _=>rfl) trivial (by show 24 * _ ≤ _; omega) zo) fun B8=>(ra rfl (eZ (cU (ts (rm rfl (ro rfl (gL U_30 (Ht rfl)) (ro rfl (cZ (cV 0)) (eZ (eK (mQ 1 rfl (uX eM ⟨none,0,rfl⟩ (e:=51) (s:=5)) ?_)))))))))))))))))
 refine bP (fun (k : Nat) => k ≤ r) (fun (k : Nat) => r - k) (fun (k : Nat) => [(1, NT .i64 n), (5, Is (.slice (some ⟨B8, 0, none⟩) r r)), (10, NT .i64 r), (11, NT .i64 k)]) (fun (k : Nat) => [Z, kK eM B8 29 51 5 (bS aF (iP (fun _ => (tab n fun _ => Qi.zero)) [] r k))]) 0 (Nat.zero_le _)
  (zS rfl) (aU (fun _ _ _ h=>h) (aU (bD (by rw [← fF,kT]; exact lM aF r)) aY)) (fun k hk=>?_)
 refine ts (ro rfl (gZ (Ht rfl) (Ht rfl)) (eZ (cU (dX (Ht rfl) (fun hd=>?_) (fun hd=>?_)))))
 ·simp only [decide_eq_true_eq] at hd
  refine iS 1 (k) rfl (iB hd) (fun v hv=>(cY (cU (eK (ts (rm rfl (ra rfl (eZ (dQ (rm rfl (rm rfl (ro rfl (cJ K_77 (uE (n:=0) (by decide) (by decide)) ⟨(cV 0),trivial⟩) (ro rfl (cJ K_98 Rk ⟨(Ht rfl),trivial⟩) (ro rfl (cA (xs:=[.tmp 17]) U_29 Z_51 O_51 (cG (Ht rfl) cK) rfl rfl rfl) (rm rfl (kZ Tryz.call191 (Re (m:=n) h1 hn) ⟨(Ht rfl),(Ht rfl),trivial⟩ rfl (fun B20 _=>?_)))))))))))))))))
  have hB20:=B20.2
  refine ro rfl (gQ U_30 Z_29 (Ht rfl) (Ht rfl) rfl zo (by rw [Nat.mul_one,Nat.zero_add])) ?_
  refine sH Z_29 (Ht rfl) (Ht rfl) (by simp only [bS,List.length_map,cL]; omega) (j:=1) (l:=3) rfl rfl rfl ?_
  refine eZ (aT (dI 1 3 rfl rfl (by decide) (by simp only [bS,List.length_map,cL]; omega) ?_))
  refine dQ (ro rfl (dW (Ht rfl) (cV 1) z6) (rm rfl (eZ (bI [0,1] rfl (by decide) (fY (k + 1) hd zo (zS rfl) (aU (fun _ _ _ h=>h) (aU (bD (by rw [eN,← fR (f:=fun _=>(tab n fun _=>Qi.zero))])) aY)))))))
 ·simp only [decide_eq_false_iff_not] at hd
  obtain rfl:r = k:=Nat.le_antisymm zo hk
  refine gW rfl (ts (rm rfl (ra rfl (eZ ?_))))
  exact jP B8 trivial [0,1] ⟨⟨_,rfl,fun _ _ _ h=>h⟩,⟨_,rfl,(bD (by rw [gO]; rfl))⟩,trivial⟩ (by decide) (vN rfl (eY rfl))
end
section
open Go Go.RowKit
section
variable {P:Program} {n:Nat} {E:dB} {H:Hp}
variable {d:Option Tmp} {t:TypeId} {pos:String} {af:Array Edge} {g:Option (Nat × Bool)}
theorem a6v {x y : Operand} {i B o' : Nat} {BT : TypeId} {Ts Ws : List Ty} {T : Ty} [hsh : dA T 1 false] (hS : ∀ w, (sizeOf t).run P w = .ok 1 w) (hx : bH E x (bF B o')) (hy : bH E y T)
  (hH:H[i]? = some (box B BT Ts)) (hlt:o' < Ts.length) (hW:Ts.set o' T = Ws) {t':TypeId} {H':Hp} (hH':H.set i (box B BT Ws) = H') :
  W.PutTy P n E H H' ⟨none,.store t x y,t',pos,af,none⟩:=by subst hW; subst hH'; exact a6u hS hx hy hH hlt
theorem Yq {x y : Operand} {m e s : Nat} {tn : TypeId} {i : TypeInfo} {z : Value} {kd kn : IntKind} (ht : P.underlying t = some (.slice e)) (htn : P.underlying tn = some (.int kn)) (hi : P.info? e = some i) (hz : i.zero = some z) (hs : i.size = s) (hzs : z.cells.size = s) (hs0 : 0 < s)
  (hx:bH E x (Is (.slice none 0 0))) (hy:bH E y (aL kd (m:Int))) (h0:0 < m) (hb:m * i.bytes ≤ 281474976710656) (hm:m ≤ 9223372036854775807) {t':TypeId} :
  iJ P n E H ⟨d,.call ⟨.builtin .append,#[x,y],#[t,tn]⟩,t',pos,af,g⟩ (Nat × Nat) (fun q=>Is (.slice (some ⟨q.1,0,none⟩) m q.2)) (fun q=>bN e s (.slice (some ⟨q.1,0,none⟩) 0 q.2) []):=iJ.of fun cx X a w V hi' hsl=>by
 have ex:a.eval x = .slice none 0 0:=hx n V a hsl
 have ey:a.eval y = .int kd (m:Int):=hy n V a hsl
 have hr:=Lib.run_append_nil_zeros (P:=P) w t tn t' e i z kd kn ht htn hi hz m h0 zo zo hb
 have hge:=grownCap_ge w m 0 e
 have hcm:grownCap w m 0 e ≤ maxLen:=grownCap_le_maxLen w m 0 e (by simp only [maxLen]; omega)
 subst hs
 refine ⟨(w.heap.size,grownCap w m 0 e),_,_,?_,rfl,(hi'.drew).alloc (ob:=.cells (Builtin.zeroCells z.cells m ++ Builtin.zeroCells z.cells (grownCap w m 0 e - m)) e) (fun mm hm'=>⟨[],⟨trivial,by simp,by simp [dC]⟩,.inr ⟨w.heap.size,grownCap w m 0 e,_,rfl,rfl,hm',Nat.zero_le _,hcm,?_,by simp [dC]⟩⟩)⟩
 ·simp [execOp,resolve,invoke,builtin,ex,ey,hr,Sem.run_bind,Result.andThen]
 ·simp only [Array.size_append, size_zeroCells, hzs, ← Nat.add_mul]
  congr 1; omega
theorem Wj {x : Operand} {ad : Option Addr} {l cap : Nat} {e : TypeId} {ta : TypeId} (hU : ∀ w, (underlying ta).run P w = .ok (.slice e) w) (hx : bH E x (Is (.slice ad l cap))) :
  aI P n E H ⟨d,.call ⟨.builtin .cap,#[x],#[ta]⟩,t,pos,af,g⟩ (aL .i64 cap) :=
 eT fun a V w hs => by
  have e1:a.eval x = .slice ad l cap:=hx n V a hs
  exact ⟨.int .i64 cap,by simp [execOp,resolve,e1,invoke,builtin,Builtin.cap_,Sem.run_bind,hU,Result.andThen,goInt],rfl⟩
theorem Jm {x hiO : Operand} {ad : Option Addr} {l cap m s : Nat} {kd : IntKind} {e : TypeId} (hU : ∀ w, (underlying t).run P w = .ok (.slice e) w) (hS : ∀ w, (sizeOf e).run P w = .ok s w) (hx : bH E x (Is (.slice ad l cap))) (hh : bH E hiO (aL kd (m : Int))) (h1 : m ≤ cap) {t' : TypeId} :
  aI P n E H ⟨d,.slice t x none (some hiO) none,t',pos,af,g⟩ (Is (.slice ad m cap)) :=
 eT fun a V w hs => by
  have e1:a.eval x = .slice ad l cap:=hx n V a hs
  have eh:a.eval hiO = .int kd (m:Int):=hh n V a hs
  have had:(ad.map fun x:Addr=>x.add 0) = ad:=by cases ad <;> simp [Addr.add]
  refine ⟨.slice ad m cap,?_,rfl⟩
  simp [execOp,e1,eh,Instr.sliceAt,Instr.slice,Instr.sliceBounds,Instr.sliceBound,asIntOf,Sem.run_bind,hU,hS,Result.andThen,h1,had]
end
end
section
open Go Go.RowKit
theorem a7i:Tryz.prog.underlying 3 = some (.int .i64):=by kernel_rfl
end
section
open Go Go.RowKit
theorem a2J {m:Nat} (hm:m ≤ 1000):iI Tryz.prog 205 [Is (.slice none 0 0),NT .i64 m] [] (Value) (fun v=>Is v) (fun v=>[bN 51 5 v []]) (fun _=>True):=by
 refine iI.intro Tryz.func205 rfl Tryz.ntmps205 rfl (fun cx Z=>(ts (ro rfl (cX cW) (eZ (cU (ts (rm rfl (ro rfl (gZ (Ht rfl) (cV 0)) (eZ (kF (Ht rfl) (by simp) ?_))))))))))
 refine cY (cU (ts (rm rfl (rm rfl (ro rfl (Wj U_29 (Ht rfl)) (rm rfl (ro rfl (gL U_29 (Ht rfl)) (ro rfl (dG (Ht rfl) (Ht rfl) zo z6) (ro rfl (dG (Ht rfl) (Ht rfl) zo z6) (ra rfl (eZ (ts (rm rfl (ro rfl (dF (Ht rfl) (cV 0)) (eZ (dX (Ht rfl) (fun hb=>?_) (fun hb=>?_)))))))))))))))))
 ·have h0 : 0 < m := by simp only [decide_eq_true_eq] at hb; omega
  refine dQ (rm rfl (rm rfl (ro rfl (Wj U_29 (Ht rfl)) (ro rfl (Jm U_29 Z_51 (Ht rfl) (Ht rfl) (Nat.le_refl _)) (rm rfl (rn rfl (Yq (i:=Tryz.t51) kX a7i jD rfl rfl rfl (by decide) (Ht rfl) (Ht rfl) zo (by show _ * 88 ≤ _; omega) zo) fun q22=>(rm rfl (ro rfl (gL U_29 (Ht rfl)) (ro rfl (Jm U_29 Z_51 (Ht rfl) (Ht rfl) (Nat.zero_le _)) (ra rfl (eZ (ts (rm rfl (ra rfl (eZ ?_)))))))))))))))
  exact jP _ trivial [0,1] ⟨⟨_,rfl,fun _ _ _ h=>h⟩,⟨_,rfl,fun _ _ _ h=>h⟩,trivial⟩ (by decide) (vN rfl (eY rfl))
 ·obtain rfl : m = 0 := by simp only [decide_eq_false_iff_not] at hb; omega
  refine rC 51 5 (cY (ts (rm rfl (ra rfl (eZ ?_)))))
  exact jP _ trivial [0,1] ⟨⟨_,rfl,fun _ _ _ h=>h⟩,⟨_,rfl,fun _ _ _ h=>h⟩,trivial⟩ (by decide) (vN rfl (eY rfl))
abbrev cat (ls:List (List Qi)) (i:Nat):List Qi:=(ls.take i).flatten
theorem Nn {ls:List (List Qi)} {i:Nat} (h:i < ls.length):cat ls (i + 1) = cat ls i ++ ls.getD i []:=by
 simp only [cat]
 rw [List.take_succ_eq_append_getElem h,List.flatten_append]
 simp [List.getD,h]
theorem Up (ls:List (List Qi)):cat ls ls.length = ls.flatten:=by rw [cat,List.take_length]
theorem a0M {ls:List (List Qi)} {i:Nat} (h:i ≤ ls.length):(cat ls i).length ≤ ls.flatten.length:=by
 have e:ls.flatten = (ls.take i).flatten ++ (ls.drop i).flatten:=by rw [← List.flatten_append,List.take_append_drop]
 show (ls.take i).flatten.length ≤ _
 rw [e,List.length_append]; omega
theorem a0j {ls:List (List Qi)} (hl:ls.length ≤ 1000) (hf:ls.flatten.length ≤ 1000):bL Tryz.prog 116 [jA 1 (ls.map aR)] (aR ls.flatten):=by
 refine bL.intro Tryz.func116 rfl Tryz.ntmps116 rfl (fun cx=>(ts (ro rfl (cX cW) (eZ (ts (ro rfl (cX (cV 0)) (eZ (cU (ts (rm rfl (ro rfl (dK U_30 (Ht rfl) aA) (ro rfl (cZ (cV 0)) (eZ (eK ?_))))))))))))))
 refine bP (fun (i : Nat) => i ≤ ls.length) (fun (i : Nat) => ls.length - i) (fun (i : Nat) => [(0, jA 1 (ls.map aR)), (3, NT .i64 (cat ls i).length), (9, jA 1 (ls.map aR)), (10, NT .i64 ls.length), (11, NT .i64 i)]) (fun (i : Nat) => []) 0 (Nat.zero_le _)
  (zS rfl) aY (fun i hi=>?_)
 refine ts (ro rfl (gZ (Ht rfl) (Ht rfl)) (eZ (cU (dX (Ht rfl) (fun hd=>?_) (fun hd=>?_)))))
 ·have hin : i < ls.length := by simp only [decide_eq_true_eq] at hd; omega
  have hcn:=Nn hin
  have hcl:=a0M (ls:=ls) (i:=i + 1) hin
  rw [hcn,List.length_append] at hcl
  refine cY (cU (eK (ts (ro rfl (dJ U_30 Z_29 (Ht rfl) (Ht rfl) rfl (eQ (dY (d:=[]) zo))) (ro rfl (dV A_29 Z_29 (Ht rfl)) (ra rfl (eZ (ts (rm rfl (rm rfl (ro rfl (dK U_29 (Ht rfl) aA) (ro rfl (dW (Ht rfl) (Ht rfl) (by show _ < 9223372036854775808; omega)) (ra rfl (eZ (ts (rm rfl (ro rfl (gZ (Ht rfl) (cV 0)) (eZ (kF (Ht rfl) (by simp) ?_)))))))))))))))))))
  refine cY (aT (dQ (ro rfl (dW (Ht rfl) (cV 1) z6) (rm rfl (eZ (fY (i + 1) hin zo (aQ rfl (aZ rfl (lK (by rw [hcn,List.length_append])) (zS rfl))) aY))))))
 ·have hin : i = ls.length := by simp only [decide_eq_false_iff_not] at hd; omega
  rw [hin,Up]
  refine gW rfl (ts (rm rfl (kZ Tryz.call205 (a2J (m:=ls.flatten.length) hf) ⟨cW,(Ht rfl),trivial⟩ rfl (fun v24 _=>(ra rfl (eZ (cU (ts (rm rfl (ro rfl (dK U_30 (Ht rfl) aA) (ro rfl (cZ (cV 0)) (eZ (eK ?_)))))))))))))
  refine eO (fun (j : Nat) (v : Value) => j ≤ ls.length) (fun (j : Nat) (v : Value) => ls.length - j) (fun (j : Nat) (v : Value) => [(0, jA 1 (ls.map aR)), (6, Is v), (25, jA 1 (ls.map aR)), (26, NT .i64 ls.length), (27, NT .i64 j)]) (fun (j : Nat) (v : Value) => [bN 51 5 v ((cat ls j).map aF)]) 0 _ (Nat.zero_le _)
   (zS rfl) (aU (aN rfl) aY) (fun j v hj=>?_)
  refine ts (ro rfl (gZ (Ht rfl) (Ht rfl)) (eZ (cU (dX (Ht rfl) (fun he=>?_) (fun he=>?_)))))
  ·have hjn : j < ls.length := by simp only [decide_eq_true_eq] at he; omega
   have hcn:=Nn hjn
   have hcl:=a0M (ls:=ls) (i:=j + 1) hjn
   rw [hcn,List.length_append] at hcl
   refine cY (cU (eK (ts (ro rfl (dJ U_30 Z_29 (Ht rfl) (Ht rfl) rfl (eQ (dY (d:=[]) zo))) (ro rfl (dV A_29 Z_29 (Ht rfl)) (ra rfl (eZ (dQ (rm rfl (rm rfl (zQ (inf:=Tryz.t51) kX jD rfl rfl rfl (Ht rfl) (Ht rfl) (i:=0) rfl (fun T hT=>by obtain ⟨x,_,rfl⟩:=List.mem_map.1 hT; exact El.ag rfl) (by show _ * 88 ≤ _; simp only [List.length_map]; omega) (by simp only [List.length_map]; omega) rfl (fun v2=>?_))))))))))))
   refine ra rfl (eZ (aT (dQ (ro rfl (dW (Ht rfl) (cV 1) z6) (rm rfl (eZ (fY (j + 1,v2) hjn (by dsimp only; omega) (zS rfl) (aU (aN (by rw [hcn,List.map_append])) aY))))))))
  ·have hjn : j = ls.length := by simp only [decide_eq_false_iff_not] at he; omega
   rw [hjn,Up]
   refine gW rfl (gV (i:=0) (tt:=6) rfl rfl gK (ts (rm rfl (ra rfl (eZ ?_)))))
   exact fG rfl (eY rfl)
theorem a0o {z zb:List Qi} {a b:List (List Qi)} {x y i j:Nat} (ha:cP a x x) (hb:cP b y y) (hx:x ≤ 100) (hy:y ≤ 100) (hi:i < x + y) (hj:j < x + y):bL Tryz.prog 115 [NT .i64 i,NT .i64 j,PT (NT .i64 x),PT (jI z a),PT (jI zb b)] (aF (gm (mA a b x y) i j)):=by
 have hal:=ha.1
 have hbl:=hb.1
 rw [nN hi hj]
 refine bL.intro Tryz.func115 rfl Tryz.ntmps115 rfl (fun cx=>(ts (rn rfl (eG (Ts:=[Is (.bool false),Is (.slice none 0 0),Is (.bool false),Is (.slice none 0 0),Is (.slice none 0 0)]) O_51 rfl (fun V=>aW zd (aW zd (aW zd (aW zd (aW zd (aG))))))) fun B7=>(eZ (cU (eK (ts (rm rfl (ro rfl (dV A_3 Z_3 (Ht rfl)) (ro rfl (gZ (Ht rfl) (Ht rfl)) (rm rfl (fX rfl rfl (eU rfl rfl (Ht rfl) (fun h=>cZ (Ht rfl))) ?_))))))))))))
 refine fX rfl rfl (eU rfl rfl (Ht rfl) (fun h=>dV A_3 Z_3 (Ht rfl))) (fX rfl rfl (eU rfl rfl (Ht rfl) (fun h=>gZ (fV rfl h) (fV rfl h))) (ro rfl (dM (Ht rfl) (fun h=>(fV rfl h))) (ra rfl (eZ (dX (Ht rfl) (fun h1=>?_) (fun h1=>?_))))))
 ·have h2 : i < x ∧ j < x := by simpa using h1
  have har:=ha.row h2.1
  refine ts (ro rfl (rV oI (Ht rfl) rfl) (ro rfl (dV A_30 Z_30 (Ht rfl)) (rm rfl (ro rfl (dJ U_30 Z_29 (Ht rfl) (Ht rfl) rfl (eQ (dY (d:=[]) zo))) (ro rfl (dV A_29 Z_29 (Ht rfl)) (rm rfl (ro rfl (dJ U_29 Z_51 (Ht rfl) (Ht rfl) rfl (eQ (dY (d:=Qi.zero) zo))) (ro rfl (dV A_51 Z_51 (Ht rfl)) (gX Z_51 (Ht rfl) (Ht rfl) rfl (i:=0) rfl (aK rfl) rfl rfl (eZ (fG rfl (fZ (fU A_51 Z_51 rfl (i:=0) rfl rfl) ?_))))))))))))
  exact (kL (by rw [if_pos h2.1,if_pos h2.2]))
 ·have h2 : ¬ (i < x ∧ j < x) := by simpa using h1
  refine ts (rm rfl (ro rfl (dV A_3 Z_3 (Ht rfl)) (ro rfl (oK (Ht rfl) (Ht rfl)) (rm rfl (fX rfl rfl (eU rfl rfl (Ht rfl) (fun h=>cZ (Ht rfl))) (fX rfl rfl (eU rfl rfl (Ht rfl) (fun h=>dV A_3 Z_3 (Ht rfl))) (fX rfl rfl (eU rfl rfl (Ht rfl) (fun h=>oK (fV rfl h) (fV rfl h))) (ro rfl (dM (Ht rfl) (fun h=>(fV rfl h))) (ra rfl (eZ (dX (Ht rfl) (fun h3=>?_) (fun h3=>?_))))))))))))
  ·have h4 : x ≤ i ∧ x ≤ j := by simpa using h3
   have hbr:=hb.row (i:=i - x) zo
   refine cU (fJ (m:=10) (dp 4 rfl (rV oI (Ht rfl) rfl) (dq 34 0 rfl (dV A_30 Z_30 (Ht rfl)) (dp 0 rfl (cZ (Ht rfl)) (dp 2 rfl (dV A_3 Z_3 (Ht rfl)) (dT 36 2 37 3 rfl (dG (Ht rfl) (Ht rfl) zo z6) (dT 35 1 38 4 rfl (dJ U_30 Z_29 (Ht rfl) (Ht rfl) rfl (eQ (dY (d:=[]) zo))) (dq 39 5 rfl (dV A_29 Z_29 (Ht rfl)) (dp 1 rfl (cZ (Ht rfl)) (dp 2 rfl (dV A_3 Z_3 (Ht rfl)) ?_))))))))))
   refine dT 41 7 42 8 rfl (dG (Ht rfl) (Ht rfl) zo z6) (fW bA rfl (by kernel_rfl) (zF (zF (aJ (aJ (aV (ro rfl (dJ U_29 Z_51 (Ht rfl) (Ht rfl) rfl (eQ (dY (d:=Qi.zero) zo))) (ro rfl (dV A_51 Z_51 (Ht rfl)) (gX Z_51 (Ht rfl) (Ht rfl) rfl (i:=0) rfl (aK rfl) rfl rfl (eZ (fG rfl (fZ (fU A_51 Z_51 rfl (i:=0) rfl rfl) ?_))))))))))))
   exact (kL (by rw [if_neg zo,if_pos h4.2]))
  ·have h4 : ¬ (x ≤ i ∧ x ≤ j) := by simpa using h3
   have h5 : Qi.ofInt (0 : Nat) = (if i < x then if j < x then gm a i j else Qi.zero else if x ≤ j then gm b (i - x) (j - x) else Qi.zero) := by
    by_cases e:i < x
    ·rw [if_pos e,if_neg zo]; rfl
    ·rw [if_neg e,if_neg zo]; rfl
   refine cY (aT (ts (ro rfl (cJ Tryz.call109 (Kv (n:=0) (by decide) (by decide)) ⟨(cV 0),trivial⟩) (gX Z_51 (Ht rfl) (Ht rfl) rfl (i:=0) rfl (aK rfl) rfl rfl (eZ (fG rfl (fZ (fU A_51 Z_51 rfl (i:=0) rfl rfl) ?_)))))))
   exact (kL h5)
theorem a2M {z zb:List Qi} {a b:List (List Qi)} (ha:cP a z.length z.length) (hb:cP b zb.length zb.length) (hx:z.length ≤ 100) (hy:zb.length ≤ 100):bL Tryz.prog 30 [jI z a,jI zb b] (fS [jI (tD z zb) (nS z zb a b),aL .i64 (Bh z.length zb.length)]):=by
 refine bL.intro Tryz.func30 rfl Tryz.ntmps30 rfl (fun cx=>(ts (rn rfl (fK (Ht rfl)) fun B2=>(rn rfl (fK (Ht rfl)) fun B3=>(rn rfl (eG (Ts:=[Is (.slice none 0 0),Is (.slice none 0 0)]) O_32 rfl (fun V=>aW zd (aW zd (aG)))) fun B4=>(ro rfl (cX (cV 0)) (eZ (cU (Y.D_start (m:=12) [] (cQ (Ei:=[(2,_)]) rfl rfl (bQ (bJ rfl rfl) bX) rfl rfl (dZ rfl (eJ jV (Ht rfl) rfl)) (cQ (Ei:=[(9,_)]) rfl rfl (bQ (bZ 0 rfl rfl) bX) rfl rfl (dZ rfl (fQ A_29 Z_29 (Ht rfl) (i:=0) rfl rfl)) ?_)))))))))))
 refine cQ (Ei:=[(10,_)]) rfl rfl (bQ (bZ 1 rfl rfl) bX) rfl rfl (dZ rfl (dK U_29 (Ht rfl) aA)) (cQ (Ei:=[(2,_)]) rfl rfl (bQ (bJ rfl rfl) bX) rfl rfl (dZ rfl (eJ jV (Ht rfl) rfl)) (cQ (Ei:=[(12,_)]) rfl rfl (bQ (bZ 3 rfl rfl) bX) rfl rfl (dZ rfl (fQ A_29 Z_29 (Ht rfl) (i:=0) rfl rfl)) (cQ (Ei:=[(13,_)]) rfl rfl (bQ (bZ 4 rfl rfl) bX) rfl rfl (dZ rfl (dK U_29 (Ht rfl) aA)) ?_)))
 refine cQ (Ei:=[(3,_)]) rfl rfl (bQ (bJ rfl rfl) bX) rfl rfl (dZ rfl (eJ jV (Ht rfl) rfl)) (cQ (Ei:=[(15,_)]) rfl rfl (bQ (bZ 6 rfl rfl) bX) rfl rfl (dZ rfl (fQ A_29 Z_29 (Ht rfl) (i:=1) rfl rfl)) (cQ (Ei:=[(16,_)]) rfl rfl (bQ (bZ 7 rfl rfl) bX) rfl rfl (dZ rfl (dK U_29 (Ht rfl) aA)) (cQ (Ei:=[(14,_),(17,_)]) rfl rfl (bQ (bZ 5 rfl rfl) (bQ (bZ 8 rfl rfl) bX)) rfl rfl (dZ rfl (dW (Ht rfl) (Ht rfl) z6)) ?_)))
 refine Y.D_newp (Ei:=[]) (fun bb=>box bb 3 [NT .i64 z.length]) 11 rfl rfl rfl bX rfl rfl (by kernel_rfl) (eG (Ts:=[Is (.int .i64 0)]) O_3 rfl (fun V=>aW zd (aG))) (Y.D_putN (Ei:=[(11,_)]) 10 rfl rfl rfl rfl rfl rfl (bQ (bZ 2 rfl rfl) bX) (fun bb=>a6v Z_3 (Ht rfl) (Ht rfl) (i:=0) rfl (aK rfl) rfl rfl) (Y.D_done bA rfl (by kernel_rfl) rfl (by simp [Y.okP]) rfl rfl (bU (bU (bU (bU (bU (bU (bU (bU (bU (bU (Y.F_newp (fun B6=>Y.F_putN (Y.F_nil ?_)))))))))))))))
 refine ra rfl (eZ (cU (ts (rm rfl (ro rfl (dF (Ht rfl) (cV 8)) (eZ (dX (Ht rfl) (fun hb1=>?_) (fun hb1=>?_))))))))
 ·have h2 : 8 < z.length + zb.length := by simpa using hb1
  have he:=Xg h2
  refine ts (ro rfl (aI.imp (rF ) rT) (gX Z_32 (Ht rfl) (Ht rfl) rfl (i:=2) rfl (aK rfl) rfl rfl (ro rfl (cX (cV 4)) (eZ (bR rfl (fZ (fU A_32 Z_32 rfl (i:=2) rfl rfl) ?_) (fZ (eY rfl) ?_))))))
  ·exact (fun v V h=>by rw [tD,nS,cD,cD,he]; exact h)
  ·exact (aO he.symm)
 ·have h2 : ¬ 8 < z.length + zb.length := by simpa using hb1
  have he:=Sw h2
  refine cY (cU (gV (i:=0) (tt:=2) rfl rfl yN (gV (i:=1) (tt:=3) rfl rfl yN (gV (i:=3) (tt:=6) rfl rfl nD (dQ (rm rfl (ro rfl (pO (γ:=Fin (z.length + zb.length) × Fin (z.length + zb.length)) (Ts:=fun x=>[NT .i64 x.1.1,NT .i64 x.2.1]) (U:=fun x=>aF (gm (mA a b z.length zb.length) x.1.1 x.2.1)) Tryz.call115 (fun x=>a0o ha hb hx hy x.1.2 x.2.2) ⟨(Ht rfl),(Ht rfl),(Ht rfl),trivial⟩) (ro rfl (cJ Tryz.call114 (eX (Ri (n:=z.length + zb.length) (f:=fun i j=>gm (mA a b z.length zb.length) i j) zo) (mB (congrArg _ (rQ (qU a b z.length zb.length)).symm))) ⟨(Ht rfl),(Ht rfl),trivial⟩) ?_))))))))
  refine ra rfl (eZ (ts (ro rfl (rV jV (Ht rfl) rfl) (ro rfl (dV A_29 Z_29 (Ht rfl)) (ro rfl (rV jV (Ht rfl) rfl) (ro rfl (dV A_29 Z_29 (Ht rfl)) (ro rfl (cA (xs:=[.tmp 26,.tmp 28]) U_30 Z_29 O_29 (cG (Ht rfl) (cG (Ht rfl) cK)) rfl rfl rfl) (ro rfl (cJ Tryz.call116 (eX (a0j (ls:=[z,zb]) (by simp) (by simp; omega)) (mB (Us:=(z ++ zb).map aF) (by simp))) ⟨(Ht rfl),trivial⟩) ?_))))))))
  refine rm rfl (ro rfl (xH (Ht rfl) (Ht rfl)) (gX Z_32 (Ht rfl) (Ht rfl) rfl (i:=2) rfl (aK rfl) rfl rfl (ro rfl (cX (cV 0)) (eZ (bR rfl (fZ (fU A_32 Z_32 rfl (i:=2) rfl rfl) ?_) (fZ (eY rfl) ?_))))))
  ·exact (fun v V h=>by rw [tD,nS,cD,cD,he]; exact h)
  ·exact (aO he.symm)
theorem Ui {z:List Qi} {s:List (List Qi)} {q:Int} {o:List Int} (hl:z.length ≤ 1000) (ho:o.length ≤ 1000):bL Tryz.prog 125 [jI z s,aL .i64 q,jA 1 (o.map (aL .i64))] (aL .i64 (dR z.length q o)):=by
 refine bL.intro Tryz.func125 rfl Tryz.ntmps125 rfl (fun cx=>(ts (rn rfl (fK (Ht rfl)) fun B3=>(ro rfl (cX (cV 0)) (eZ (cU (eK (ts (ro rfl (eW A_32 Z_32 (Ht rfl) (i:=0) rfl rfl rfl) (rm rfl (ro rfl (cJ Tryz.call106 Uj ⟨(Ht rfl),(Ht rfl),trivial⟩) (ro rfl (fB (Ht rfl)) (ra rfl (eZ (dX (Ht rfl) (fun hb1=>?_) (fun hb1=>?_))))))))))))))))
 ·have h2 : ¬ (1 ≤ q ∧ q ≤ (z.length : Int)) := by simpa only [Bool.not_eq_true', decide_eq_false_iff_not] using hb1
  refine ts (ro rfl (cX (cV 1)) (eZ (fG rfl (fZ (eY rfl) ?_))))
  exact (aO (if_pos h2).symm)
 ·have h2 : 1 ≤ q ∧ q ≤ (z.length : Int) := by simpa using hb1
  refine ts (rm rfl (rm rfl (ro rfl (cJ Tryz.call95 (sA (l:=o) (v:=q) zo) ⟨(Ht rfl),(Ht rfl),trivial⟩) (ra rfl (eZ (dX (Ht rfl) (fun hb2=>?_) (fun hb2=>?_)))))))
  ·refine ts (ro rfl (cX (cV 8)) (eZ (fG rfl (fZ (eY rfl) ?_))))
   exact (aO (by rw [dR,if_neg (fun k=>k h2),if_pos hb2]; rfl))
  ·refine cY (aT (ts (ro rfl (cX (cV 0)) (eZ (fG rfl (fZ (eY rfl) ?_))))))
   exact (aO (by rw [dR,if_neg (fun k=>k h2),if_neg (by rw [hb2]; decide)]; rfl))
theorem a2L {z:List Qi} {s:List (List Qi)} {l:List Int} (hs:cP s z.length z.length) (hl:z.length ≤ 1000) (hll:l.length ≤ 1000):bL Tryz.prog 33 [jI z s,jA 1 (l.map (aL .i64))] (fS [jI (rA z l) (nM z s l),aL .i64 (vJ z.length l)]):=by
 refine bL.intro Tryz.func33 rfl Tryz.ntmps33 rfl (fun cx=>(ts (rn rfl (fK (Ht rfl)) fun B2=>(rn rfl (eG (Ts:=[Is (.slice none 0 0),Is (.slice none 0 0)]) O_32 rfl (fun V=>aW zd (aW zd (aG)))) fun B4=>(ro rfl (cX (cV 0)) (eZ (cU (ts (rm rfl (ro rfl (dK U_72 (Ht rfl) aA) (ro rfl (eJ jV (Ht rfl) rfl) (ro rfl (fQ A_29 Z_29 (Ht rfl) (i:=0) rfl rfl) (ro rfl (dK U_29 (Ht rfl) aA) (ro rfl (fT (Ht rfl) (Ht rfl)) ?_))))))))))))))
 refine eZ (dX (Ht rfl) (fun hb1=>?_) (fun hb1=>?_))
 ·have h2 : l.length ≠ z.length := by simpa using hb1
  have he:=Gp h2
  refine ts (ro rfl (aI.imp (rF ) rT) (gX Z_32 (Ht rfl) (Ht rfl) rfl (i:=1) rfl (aK rfl) rfl rfl (ro rfl (cX (cV 4)) (eZ (bR rfl (fZ (fU A_32 Z_32 rfl (i:=1) rfl rfl) ?_) (fZ (eY rfl) ?_))))))
  ·exact (fun v V h=>by rw [rA,nM,cD,cD,he]; exact h)
  ·exact (aO he.symm)
 ·have h2 : l.length = z.length := by simpa using hb1
  have hok:=Ss h2
  refine cY (cU (ts (rm rfl (ro rfl (dK U_72 (Ht rfl) aA) (ro rfl (cZ (cV 0)) (eZ (eK ?_)))))))
  refine bP (fun (i : Nat) => i ≤ l.length ∧ ∀ j, j < i → (fun i => dR z.length (l.getD i 0) (l.take i)) j = 0) (fun (i : Nat) => l.length - i) (fun (i : Nat) => [(1, jA 1 (l.map (aL .i64))), (2, bF B2 0), (4, bF B4 0), (16, jA 1 (l.map (aL .i64))), (17, NT .i64 l.length), (18, NT .i64 i)]) (fun (i : Nat) => [box B2 32 [aR z, bM s], box B4 32 [Is (.slice none 0 0), Is (.slice none 0 0)]]) 0 ⟨Nat.zero_le _, fun j h => by omega⟩
   (zS rfl) (aU (aB rfl) (aU (aB rfl) aY)) (fun i ⟨hi,h0⟩=>?_)
  refine ts (ro rfl (gZ (Ht rfl) (Ht rfl)) (eZ (cU (dX (Ht rfl) (fun hd=>?_) (fun hd=>?_)))))
  ·have hin : i < l.length := by simp only [decide_eq_true_eq] at hd; omega
   refine cY (cU (eK (ts (rm rfl (ro rfl (dJ U_72 Z_3 (Ht rfl) (Ht rfl) rfl (eQ (dY (d:=0) zo))) (ro rfl (dV A_3 Z_3 (Ht rfl)) (ra rfl (ra rfl (eZ (cU (fJ (m:=5) (dp 2 rfl (eW A_32 Z_32 (Ht rfl) (i:=0) rfl rfl rfl) (dp 7 rfl (cZ (Ht rfl)) (dp 1 rfl (cZ (Ht rfl)) (dp 6 rfl (cZ (Ht rfl)) (dT 25 2 26 3 rfl (sY U_72 Z_3 (Ht rfl) (Ht rfl) (fun m e=>by cases e) zo (by rw [List.length_map]; omega) (Us:=(l.take i).map (aL .i64)) (by rw [Int.toNat_natCast,List.map_take])) ?_))))))))))))))))
   refine fW bA rfl (by kernel_rfl) (zF (aJ (aV (ro rfl (cJ Tryz.call125 (Ui (q:=l.getD i 0) (o:=l.take i) hl (by rw [List.length_take]; omega)) ⟨(Ht rfl),(Ht rfl),(Ht rfl),trivial⟩) ?_))))
   refine ra rfl (eZ (ts (rm rfl (ro rfl (gD (Ht rfl) cW) (eZ (dX (Ht rfl) (fun he=>?_) (fun he=>?_)))))))
   ·have h3 : (fun i => dR z.length (l.getD i 0) (l.take i)) i ≠ 0 := by simpa using he
    have he2:vJ z.length l = dR z.length (l.getD i 0) (l.take i):=hok.trans (pV h0 h3 hin)
    refine ts (ro rfl (aI.imp (rF ) rT) (rm rfl (gX Z_32 (Ht rfl) (Ht rfl) rfl (i:=1) rfl (aK rfl) rfl rfl (ra rfl (eZ (bR rfl (fZ (fU A_32 Z_32 rfl (i:=1) rfl rfl) ?_) (fZ (eY rfl) ?_)))))))
    ·exact (fun v V h=>by rw [rA,nM,cD,cD,he2,if_neg h3,if_neg h3]; exact h)
    ·exact (aO he2.symm)
   ·have h3 : (fun i => dR z.length (l.getD i 0) (l.take i)) i = 0 := by simpa using he
    refine cY (aT (dQ (ro rfl (dW (Ht rfl) (cV 1) z6) (rm rfl (eZ (bI [0,1] rfl (by decide) ?_))))))
    refine fY (i + 1) ⟨hin, fun j h => by
      by_cases e:j = i
      ·rw [e]; exact h3
      ·exact h0 j zo⟩ zo (zS rfl) (aU (aB rfl) (aU (aB rfl) aY))
  ·have hin : i = l.length := by simp only [decide_eq_false_iff_not] at hd; omega
   have h3:qR z.length l = 0:=gS (by rw [hin] at h0; exact h0)
   have he:vJ z.length l = 0:=hok.trans h3
   refine gW rfl (ts (ro rfl (eW A_32 Z_32 (Ht rfl) (i:=0) rfl rfl rfl) (ro rfl (cZ (bH.to (Ht rfl) (mB (zC h3)))) (kZ Tryz.call122 (Uk (Q:=oA l) (m:=l.length) hs (Ml h3) (qQ l) hll hl) ⟨(Ht rfl),(Ht rfl),trivial⟩ rfl (fun B36 _=>(gX Z_32 (Ht rfl) (Ht rfl) rfl (i:=1) rfl (aK rfl) rfl rfl (ro rfl (cX (cV 0)) (eZ (qE 1 2 1 rfl rfl rfl (by decide) (a3h (q:=fun _=>True) (M:=sG s (oA l)) (by rw [(Qh s (oA l)).1,qQ])) ?_)))))))))
   refine bR rfl (fZ (fU A_32 Z_32 rfl (i:=1) rfl rfl) ?_) (fZ (eY rfl) ?_)
   ·exact (fun v V h=>by rw [rA,nM,cD,cD,he]; exact h)
   ·exact (aO he.symm)
theorem Ti {l:List Int} {n i:Nat} {q:Int} (hi:i < n) (hn:n ≤ l.length) (h:l.getD i 0 = q):((l.take n).any fun x=>decide (q = x)) = true:=by
 rw [List.any_eq_true]
 refine ⟨q,?_,by simp⟩
 have e:l.getD i 0 = l[i]:=by simp [List.getD,show i < l.length by omega]
 rw [← h,e]
 exact List.mem_take_iff_getElem.2 ⟨i,by omega,rfl⟩
theorem Zp {l:List Int} {n:Nat} {q:Int} (h:∀ j,j < n → l.getD j 0 ≠ q):((l.take n).any fun x=>decide (q = x)) = false:=by
 rw [List.any_eq_false]
 intro x hx
 obtain ⟨j,hj,rfl⟩:=List.mem_take_iff_getElem.1 hx
 have:=h j zo
 simp [List.getD,show j < l.length by omega] at this
 simpa using Ne.symm this
theorem a0H {l:List Int} {n:Nat} {q:Int} (hn:n ≤ l.length) (hl:l.length ≤ 1000):bL Tryz.prog 254 [jA 1 (l.map (aL .i64)),NT .i64 n,aL .i64 q] (aH ((l.take n).any fun x=>decide (q = x))):=by
 refine bL.intro Tryz.func254 rfl Tryz.ntmps254 rfl (fun cx=>(ts (ro rfl (cX cW) (eZ (cU (ts (ro rfl (cX (cV 0)) (eZ (eK ?_)))))))))
 refine bP (fun (i : Nat) => i ≤ n ∧ ∀ j, j < i → l.getD j 0 ≠ q) (fun (i : Nat) => n - i) (fun (i : Nat) => [(0, jA 1 (l.map (aL .i64))), (1, NT .i64 n), (2, aL .i64 q), (7, NT .i64 i)]) (fun (i : Nat) => []) 0 ⟨Nat.zero_le _, fun j h => by omega⟩
  (zS rfl) aY (fun i ⟨hi,h0⟩=>?_)
 refine cU (ts (rm rfl (rm rfl (ro rfl (gZ (Ht rfl) (Ht rfl)) (eZ (dX (Ht rfl) (fun hd=>?_) (fun hd=>?_)))))))
 ·have hin : i < n := by simp only [decide_eq_true_eq] at hd; omega
  refine cY (cU (eK (ts (rm rfl (rm rfl (ro rfl (dJ U_72 Z_3 (Ht rfl) (Ht rfl) rfl (eQ (dY (d:=0) zo))) (ro rfl (dV A_3 Z_3 (Ht rfl)) (rm rfl (ro rfl (iQ (Ht rfl) (Ht rfl)) (eZ (dX (Ht rfl) (fun he=>?_) (fun he=>?_))))))))))))
  ·have h3 : l.getD i 0 = q := by simpa using he
   refine ts (ro rfl (cX cW) (eZ (fG rfl (fZ (eY rfl) ?_))))
   exact (dN (Ti hin hn h3).symm)
  ·have h3 : l.getD i 0 ≠ q := by simpa using he
   refine cY (aT (dQ (rm rfl (ro rfl (dW (Ht rfl) (cV 1) z6) (ra rfl (eZ ?_))))))
   refine fY (i + 1) ⟨hin, fun j h => by
    by_cases e:j = i
    ·rw [e]; exact h3
    ·exact h0 j zo⟩ zo (zS rfl) aY
 ·have hin : i = n := by simp only [decide_eq_false_iff_not] at hd; omega
  rw [hin] at h0
  refine gW rfl (ts (ro rfl (cX cW) (eZ (fG rfl (fZ (eY rfl) ?_)))))
  exact (dN (Zp h0).symm)
theorem a0x {n:Nat} {l:List Int} (hl:l.length ≤ 1000):bL Tryz.prog 212 [NT .i64 n,jA 1 (l.map (aL .i64))] (aL .i64 (qR n l)):=by
 refine bL.intro Tryz.func212 rfl Tryz.ntmps212 rfl (fun cx=>(ts (ro rfl (cX (cV 0)) (eZ (cU (ts (ro rfl (cX (cV 0)) (eZ (eK ?_)))))))))
 refine bP (fun (i : Nat) => i ≤ l.length ∧ ∀ j, j < i → (fun i => dR n (l.getD i 0) (l.take i)) j = 0) (fun (i : Nat) => l.length - i) (fun (i : Nat) => [(0, NT .i64 n), (1, jA 1 (l.map (aL .i64))), (5, NT .i64 i)]) (fun (i : Nat) => []) 0 ⟨Nat.zero_le _, fun j h => by omega⟩
  (zS rfl) aY (fun i ⟨hi,h0⟩=>?_)
 refine cU (ts (rm rfl (rm rfl (ro rfl (dK U_72 (Ht rfl) aA) (ro rfl (gZ (Ht rfl) (Ht rfl)) (eZ (dX (Ht rfl) (fun hd=>?_) (fun hd=>?_))))))))
 ·have hin : i < l.length := by simp only [decide_eq_true_eq] at hd; omega
  refine cY (cU (eK (cU (ts (rm rfl (rm rfl (ro rfl (dJ U_72 Z_3 (Ht rfl) (Ht rfl) rfl (eQ (dY (d:=0) zo))) (ro rfl (dV A_3 Z_3 (Ht rfl)) (ro rfl (sE (Ht rfl) cW) (rm rfl (fX rfl rfl (eU rfl rfl (Ht rfl) (fun h=>cZ (Ht rfl))) (fX rfl rfl (eU rfl rfl (Ht rfl) (fun h=>cZ (Ht rfl))) (fX rfl rfl (eU rfl rfl (Ht rfl) (fun h=>dJ U_72 Z_3 (fV rfl h) (fV rfl h) rfl (eQ (dY (d:=0) zo)))) (fX rfl rfl (eU rfl rfl (Ht rfl) (fun h=>dV A_3 Z_3 (fV rfl h))) ?_))))))))))))))
  refine fX rfl rfl (eU rfl rfl (Ht rfl) (fun h=>cZ (Ht rfl))) (fX rfl rfl (eU rfl rfl (Ht rfl) (fun h=>Bb (fV rfl h) (fV rfl h))) (ro rfl (fO (Ht rfl) (fun h=>(fV rfl h))) (eZ (dX (Ht rfl) (fun he=>?_) (fun he=>?_)))))
  ·have h3 : ¬ (1 ≤ l.getD i 0 ∧ l.getD i 0 ≤ (n : Int)) := by simp only [Bool.or_eq_true, decide_eq_true_eq] at he; omega
   have h4:(fun i=>dR n (l.getD i 0) (l.take i)) i = 1:=if_pos h3
   refine ts (ro rfl (cX (cV 1)) (eZ (fG rfl (fZ (eY rfl) ?_))))
   exact (aO (by rw [qR,pV h0 (fun k=>absurd (h4.symm.trans k) (by decide)) hin]; exact h4.symm))
  ·have h3 : 1 ≤ l.getD i 0 ∧ l.getD i 0 ≤ (n : Int) := by simp only [Bool.or_eq_false_iff, decide_eq_false_iff_not] at he; omega
   refine cY (ts (rm rfl (rm rfl (rm rfl (rm rfl (ro rfl (dJ U_72 Z_3 (Ht rfl) (Ht rfl) rfl (eQ (dY (d:=0) zo))) (ro rfl (dV A_3 Z_3 (Ht rfl)) (ro rfl (cJ Tryz.call254 (a0H (n:=i) (q:=l.getD i 0) zo hl) ⟨(Ht rfl),(Ht rfl),(Ht rfl),trivial⟩) (eZ (dX (Ht rfl) (fun hf=>?_) (fun hf=>?_)))))))))))
   ·have h4 : (fun i => dR n (l.getD i 0) (l.take i)) i = 8 := by show dR _ _ _ = 8; rw [dR, if_neg (fun k => k h3), if_pos hf]
    refine ts (ro rfl (cX (cV 8)) (eZ (fG rfl (fZ (eY rfl) ?_))))
    exact (aO (by rw [qR,pV h0 (fun k=>absurd (h4.symm.trans k) (by decide)) hin]; exact h4.symm))
   ·have h4 : (fun i => dR n (l.getD i 0) (l.take i)) i = 0 := by show dR _ _ _ = 0; rw [dR, if_neg (fun k => k h3), if_neg (by rw [hf]; decide)]
    refine cY (aT (dQ (rm rfl (ro rfl (dW (Ht rfl) (cV 1) z6) (ra rfl (eZ ?_))))))
    refine fY (i + 1) ⟨hin, fun j h => by
     by_cases e:j = i
     ·rw [e]; exact h4
     ·exact h0 j zo⟩ zo (zS rfl) aY
 ·have hin : i = l.length := by simp only [decide_eq_false_iff_not] at hd; omega
  rw [hin] at h0
  refine gW rfl (ts (ro rfl (cX (cV 0)) (eZ (fG rfl (fZ (eY rfl) ?_)))))
  exact (aO (gS h0).symm)
end
section
open Go Go.RowKit
section
variable {P:Program} {n:Nat} {E:dB} {H:Hp}
variable {d:Option Tmp} {t:TypeId} {pos:String} {af:Array Edge} {g:Option (Nat × Bool)}
theorem a1P {f : FuncId} {xs : List Operand} {tys : Array TypeId} {Ts : List Ty} {U T0 T1 : Ty} {A : SA} {j tt : Nat} (hc : ∀ args w, (callFunc f args).run P w = .ok (.enter f args) w) (hF : bL P f Ts U)
  (hA:H[j]? = some A) (hl:gI E tt = some T0) (hz:∀ v S V,T0.p v V → A.h S V V → T1.p v V) (hU:∀ v V V',U.p v V → U.p v V') (ha:qY ((tt,T1) :: E) xs Ts) :
  aI P n E H ⟨d,.call ⟨.value (.func f),xs.toArray,tys⟩,t,pos,af,g⟩ U:=fun cx X a w V hi hs K Q hK=>by
 have hrun : (execOp a.eval ⟨d, .call ⟨.value (.func f), xs.toArray, tys⟩, t, pos, af, g⟩).run P w = .ok (.enter f (xs.map a.eval).toArray) w := by
  simp [execOp,resolve,Act.eval,Deferred.ofValue,invoke,hc]
 simp only [Oper.wp,hrun,Oper.upon_enter]
 obtain ⟨F,h1,h2⟩:=hi.hp
 have hjl:=(List.getElem?_eq_some_iff.1 hA).1
 obtain ⟨k1,k2⟩:=h1 j A (by rw [List.getElem?_append_left hjl]; exact hA)
 let V1:bE:=fun b=>if b ∈ F j then w.heap[b]? else V b
 have hle : nP V V1 := fun b o hb => by
  have:b ∉ F j:=fun hf=>by have:=(k2 b hf).1; rw [hb] at this; cases this
  simp only [V1,if_neg this]; exact hb
 have hon : ∀ b o, V1 b = some o → w.heap[b]? = some o := fun b o hb => by
  by_cases hf:b ∈ F j
  ·simp only [V1,if_pos hf] at hb; exact hb
  ·simp only [V1,if_neg hf] at hb; exact hi.on b o hb
 have hA1:A.h (F j) V1 V1:=A.mono (A.loc k1 fun b hb=>by simp only [V1,if_pos hb]; rfl) hle
 have hsl : fD n ((tt, T1) :: E) V1 a := by
  have hs':=hs.mono hle
  refine ⟨hs'.1,hs'.2.1,fun t' T hT=>?_⟩
  rw [dL] at hT
  by_cases e:tt = t'
  ·subst e
   rw [if_pos rfl] at hT; obtain rfl:=Option.some.inj hT
   obtain ⟨v,q1,q2⟩:=hs'.2.2 _ _ hl
   exact ⟨v,q1,hz v (F j) V1 q2 hA1⟩
  ·rw [if_neg e] at hT; exact hs'.2.2 t' T hT
 refine (hF _ V1 w hon (qY.all hsl ha)).mono ?_
 rintro e w' ⟨v,V',rfl,m1,m2,m3,m4,m5⟩
 exact hK v w' V (hi.after (nP.refl V) (fun b o hb=>m2 b o (m1 b o (hle b o hb))) (fun b o hb h0=>by rw [hb] at h0; cases h0) m4) (nP.refl V) (hU v V' V m5)
theorem Yu {x i : Operand} {q : Nat} {Ts : List Ty} {T : Ty} {kd : IntKind} {e : TypeId} {len : Nat} (hU : ∀ w, (underlying t).run P w = .ok (.array len e) w) (hS : ∀ w, (sizeOf e).run P w = .ok 1 w) (hg : ∀ w, (isAgg e).run P w = .ok false w)
  (hx:bH E x (eI Ts)) (hi:bH E i (NT kd q)) (hl:q < len) (hT:Ts[q]? = some T) {t':TypeId}:aI P n E H ⟨d,.index t x i,t',pos,af,g⟩ T :=
 eT fun a V w hs => by
  obtain ⟨vs,e1,e4⟩:=hx n V a hs
  have ei:a.eval i = .int kd (q:Int):=hi n V a hs
  obtain ⟨u,e5,e6⟩:=e4.all.get hT
  exact ⟨u,by simp [execOp,e1,ei,Instr.index,asIntOf,Sem.run_bind,hU,hS,hg,part,Result.andThen,hl,e5],e6⟩
end
end
section
open Go Go.RowKit
theorem nV {n : Nat} {E : dB} {H : Hp} {d : Option Tmp} {t : TypeId} {pos : String} {af : Array Edge} {g : Option (Nat × Bool)} {x0 x1 : Operand} {T0 T1 : Ty} [s0 : dA T0 1 false] (h0 : bH E x0 T0) [s1 : dA T1 1 false] (h1 : bH E x1 T1) :
  aI Tryz.prog n E H ⟨d,.build 71 #[(0,x0),(1,x1)],t,pos,af,g⟩ (eI [T0,T1]) :=
 fH (parts := [(0, x0), (1, x1)]) fun a V w hs => by
  have p0:=h0 n V a hs
  generalize e0:a.eval x0 = v0 at p0
  have q0:=(s0.ok v0 V p0).2.2 rfl
  have p1:=h1 n V a hs
  generalize e1:a.eval x1 = v1 at p1
  have q1:=(s1.ok v1 V p1).2.2 rfl
  refine ⟨.agg #[v0,v1],?_,[v0,v1],rfl,aW (⟨p0,q0⟩) (aW (⟨p1,q1⟩) (aG))⟩
  simp [e0,e1,Instr.build,Instr.fill,Sem.run_bind,Result.andThen,eL,q0.cells,q1.cells,O_71,U_71,Z_3]
end
section
open Go Go.RowKit
theorem a0s {z:List Qi} {S:List (List Qi)} {js:List (Int × Int)} {L:Nat} (hfz:cH z L) (hL:1 ≤ L) (hLb:L ≤ 1000000) (hz:z.length ≤ 1000) (hj:js.length ≤ 100):bL Tryz.prog 117 [jI z S,Qr js] (fS [jA 1 ((jeL z js).map (aL .i64)),aL .i64 (Ae z js)]):=by
 refine bL.intro Tryz.func117 rfl Tryz.ntmps117 rfl (fun cx=>(ts (rn rfl (fK (Ht rfl)) fun B2=>(ro rfl (cX cW) (ro rfl (cX (cV 0)) (eZ (ts (ro rfl (cX cW) (eZ (cU (cU (rC 3 1 (dQ (rm rfl (ro rfl (dK U_26 (Ht rfl) aA) (ro rfl (cZ (cV 0)) (eZ (eK ?_))))))))))))))))))
 refine eO (fun (k : Nat) (vG : Value) => k ≤ js.length ∧ ∀ j, j < k → yQ z js j = 0) (fun (k : Nat) (vG : Value) => js.length - k) (fun (k : Nat) (vG : Value) => [(1, Qr js), (2, bF B2 0), (6, Is vG), (12, Qr js), (13, NT .i64 js.length), (14, NT .i64 k)]) (fun (k : Nat) (vG : Value) => [box B2 32 [aR z, bM S], bN 3 1 vG ((nF (js.take k)).map (aL .i64))]) 0 _ ⟨Nat.zero_le _, fun j h => by omega⟩
  (zS rfl) (aU (aB rfl) (aU (aN rfl) aY)) (fun k vG ⟨hk,h0⟩=>?_)
 refine ts (ro rfl (gZ (Ht rfl) (Ht rfl)) (eZ (cU (dX (Ht rfl) (fun hd=>?_) (fun hd=>?_)))))
 ·have hkn : k < js.length := by simp only [decide_eq_true_eq] at hd; omega
  have hjk:=pK (js.take k)
  refine cY (cU (eK (ts (ro rfl (dJ U_26 Z_71 (Ht rfl) (Ht rfl) rfl (eQ (dY (d:=(0,0)) hkn))) (ro rfl (dV Tryz.isAgg71 Z_71 (Ht rfl)) (rn rfl (eG (Ts:=[Is (.int .i64 0),Is (.int .i64 0)]) O_71 rfl (fun V=>aW zd (aW zd (aG)))) fun B8=>(gX Z_71 (Ht rfl) (Ht rfl) rfl (i:=2) rfl (aK rfl) rfl rfl (eZ (cU (cU (gV (i:=2) (tt:=8) rfl rfl yN (dQ (ro rfl (dV Tryz.isAgg71 Z_71 (Ht rfl)) ?_)))))))))))))
  refine ro rfl (cZ (cV 0)) (eZ (eK (bI [0,1] rfl (by decide) ?_)))
  refine eO (fun (i : Nat) (vI : Value) => i ≤ 2 ∧ ∀ x, x < i → Lm z js k x = 0) (fun (i : Nat) (vI : Value) => 2 - i) (fun (i : Nat) (vI : Value) => [(1, Qr js), (2, bF B2 0), (6, Is vI), (8, PT (JT (kD js k))), (12, Qr js), (13, NT .i64 js.length), (14, NT .i64 k), (18, JT (kD js k)), (19, NT .i64 i)]) (fun (i : Nat) (vI : Value) => [box B2 32 [aR z, bM S], bN 3 1 vI ((nF (js.take k) ++ (Pg (kD js k)).take i).map (aL .i64))]) 0 _ ⟨Nat.zero_le _, fun x h => by omega⟩
   (zS rfl) (aU (aB rfl) (aU (aN (by rw [List.take_zero,List.append_nil])) aY)) (fun i vI ⟨hi,h1⟩=>?_)
  refine ts (ro rfl (gZ (Ht rfl) (cV 2)) (eZ (cU (dX (Ht rfl) (fun he=>?_) (fun he=>?_)))))
  ·have hi2 : i < 2 := by simp only [decide_eq_true_eq] at he; omega
   have hol:(nF (js.take k) ++ (Pg (kD js k)).take i).length ≤ 300:=by rw [List.length_append,hjk,List.length_take,List.length_take]; omega
   refine cY (cU (eK (ts (ro rfl (Yu U_71 Z_3 A_3 (Ht rfl) (Ht rfl) zo (a42 hi2)) (ra rfl (eZ (cU (ts (ro rfl (eW A_32 Z_32 (Ht rfl) (i:=0) rfl rfl rfl) (rm rfl (rm rfl (ro rfl (a1P Tryz.call125 (Ui (z:=z) (s:=S) (q:=(Pg (kD js k)).getD i 0) (o:=nF (js.take k) ++ (Pg (kD js k)).take i) hz zo) (j:=1) (tt:=24) rfl rfl gK (fun _ _ _ h=>h) ⟨(Ht rfl),(Ht rfl),(Ht rfl),trivial⟩) (ra rfl (eZ (ts (rm rfl (ro rfl (gD (Ht rfl) cW) (eZ (dX (Ht rfl) (fun hf=>?_) (fun hf=>?_))))))))))))))))))))
   ·have h3 : Lm z js k i ≠ 0 := by simp only [Bool.not_eq_true', decide_eq_false_iff_not] at hf; exact hf
    have h4:=a72 hi2 h1 h3
    have h5:Bo z js = Lm z js k i:=(pV h0 (by rw [h4]; exact h3) hkn).trans h4
    have h6:Ae z js = Lm z js k i:=(a1l (by rw [h5]; exact h3)).trans h5
    refine ts (rm rfl (ro rfl (cX cW) (ra rfl (eZ (bR rfl (fZ (eY rfl) ?_) (fZ (eY rfl) ?_))))))
    ·exact (fun v V h=>by rw [jeL,cD,h6,if_neg h3]; exact jM v V h)
    ·exact (aO h6.symm)
   ·have h3 : Lm z js k i = 0 := by simp only [Bool.not_eq_false', decide_eq_true_eq] at hf; exact hf
    refine cY (dQ (rm rfl (rm rfl (ro rfl (cA (xs:=[.tmp 30]) U_72 Z_3 O_3 (cG (Ht rfl) cK) rfl rfl rfl) (lC (inf:=Tryz.t3) Hi Fe rfl rfl rfl (Ht rfl) (Ht rfl) (i:=1) rfl (by simp) (fun T hT=>by simp at hT; subst hT; exact El.one) (by show _ * 8 ≤ _; simp only [List.length_map,List.length_cons,List.length_nil]; omega) (by simp only [List.length_map,List.length_cons,List.length_nil]; omega) rfl (fun v2=>?_))))))
    refine ra rfl (eZ (aT (dQ (ro rfl (dW (Ht rfl) (cV 1) z6) (rm rfl (eZ ?_))))))
    refine fY (i + 1, v2) ⟨hi2, fun x hx => by
      by_cases e:x = i
      ·rw [e]; exact h3
      ·exact h1 x zo⟩ (by dsimp only; omega) (zS rfl) (aU (aB rfl) (aU (aN (by rw [a1X hi2,← List.append_assoc,List.map_append (l₁:=nF (js.take k) ++ (Pg (kD js k)).take i)]; rfl)) aY))
  ·obtain rfl : i = 2 := by simp only [decide_eq_false_iff_not] at he; omega
   obtain ⟨⟨p1,p2⟩,⟨p3,p4⟩,h3⟩:=a73 h1
   have hrow:nF (js.take (k + 1)) = nF (js.take k) ++ (Pg (kD js k)).take 2:=Oo hkn
   haveI g1:=hfz.get hL ((kD js k).1 - 1).toNat
   haveI g2:=hfz.get hL ((kD js k).2 - 1).toNat
   refine gW rfl (cU (fJ (m:=14) (dp 2 rfl (eJ jV (Ht rfl) rfl) (dq 34 0 rfl (fQ A_29 Z_29 (Ht rfl) (i:=0) rfl rfl) (dp 8 rfl (Wl U_71 Z_3 (Ht rfl) cW rfl (by decide) rfl) (dq 36 2 rfl (dV A_3 Z_3 (Ht rfl)) (dq 37 3 rfl (gE (Ht rfl) cW (r:=((((kD js k).1 - 1).toNat:Nat):Int)) ((yA (z:=(kD js k).1 - 1) zo).trans zo)) ?_)))))))
   refine dT 35 1 38 4 rfl (dJ U_29 Z_51 (Ht rfl) (Ht rfl) rfl (eQ (dY (d:=Qi.zero) zo))) (dq 39 5 rfl (dV A_51 Z_51 (Ht rfl)) (dp 2 rfl (eJ jV (Ht rfl) rfl) (dq 41 7 rfl (fQ A_29 Z_29 (Ht rfl) (i:=0) rfl rfl) (dp 8 rfl (Wl U_71 Z_3 (Ht rfl) cW rfl (by decide) rfl) (dq 43 9 rfl (dV A_3 Z_3 (Ht rfl)) (dq 44 10 rfl (gE (Ht rfl) cW (r:=((((kD js k).2 - 1).toNat:Nat):Int)) ((yA (z:=(kD js k).2 - 1) zo).trans zo)) ?_))))))
   refine dT 42 8 45 11 rfl (dJ U_29 Z_51 (Ht rfl) (Ht rfl) rfl (eQ (dY (d:=Qi.zero) zo))) (dq 46 12 rfl (dV A_51 Z_51 (Ht rfl)) (fW bA rfl (by kernel_rfl) (zF (zF (zF (aJ (aJ (aV (ro rfl (cJ Tryz.call139 (Km (x:=gv z ((kD js k).1 - 1).toNat) (y:=gv z ((kD js k).2 - 1).toNat) (L:=L) (M:=L) zo zo) ⟨(Ht rfl),(Ht rfl),trivial⟩) (ro rfl (fB (Ht rfl)) ?_))))))))))
   refine eZ (dX (Ht rfl) (fun hg=>?_) (fun hg=>?_))
   ·have h4 : yQ z js k = 40 := by rw [h3, if_neg (by simpa using hg)]
    have h5:Bo z js = 40:=(pV h0 (by rw [h4]; decide) hkn).trans h4
    have h6:Ae z js = 40:=(a1l (by rw [h5]; decide)).trans h5
    refine ts (ro rfl (cX cW) (ro rfl (cX (cV 40)) (eZ (bR rfl (fZ (eY rfl) ?_) (fZ (eY rfl) ?_)))))
    ·exact (fun v V h=>by rw [jeL,cD,h6]; exact jM v V h)
    ·exact (aO h6.symm)
   ·have h4 : yQ z js k = 0 := by rw [h3, if_pos (by simpa using hg)]
    refine cY (aT (dQ (ro rfl (dW (Ht rfl) (cV 1) z6) (rm rfl (eZ ?_)))))
    refine fY (k + 1, vI) ⟨hkn, fun j h => by
      by_cases e:j = k
      ·rw [e]; exact h4
      ·exact h0 j zo⟩ (by dsimp only; omega) (zS rfl) (aU (aB rfl) (aU (aN (by rw [hrow])) aY))
 ·obtain rfl : k = js.length := by simp only [decide_eq_false_iff_not] at hd; omega
  have h2:Bo z js = 0:=gS h0
  have hll:=pK js
  rw [List.take_length]
  refine gW rfl (cU (ts (rm rfl (ro rfl (mL U_72 (Ht rfl) (i:=1) rfl aA) (ro rfl (dF (Ht rfl) (cV 0)) (rm rfl (fX rfl rfl (eU rfl rfl (Ht rfl) (fun h=>cZ (Ht rfl))) (fX rfl rfl (eU rfl rfl (Ht rfl) (fun h=>mL U_72 (fV rfl h) (i:=1) rfl aA)) (fX rfl rfl (eU rfl rfl (Ht rfl) (fun h=>eJ jV (Ht rfl) rfl)) (fX rfl rfl (eU rfl rfl (Ht rfl) (fun h=>fQ A_29 Z_29 (fV rfl h) (i:=0) rfl rfl)) (fX rfl rfl (eU rfl rfl (Ht rfl) (fun h=>dK U_29 (fV rfl h) aA)) ?_)))))))))))
  refine fX rfl rfl (eU rfl rfl (Ht rfl) (fun h=>dP (fV rfl h) (fV rfl h))) (ro rfl (dM (Ht rfl) (fun h=>(fV rfl h))) (eZ (dX (Ht rfl) (fun hc=>?_) (fun hc=>?_))))
  ·have h3 : 0 < 2 * js.length ∧ 2 * js.length = z.length := by simpa [hll] using hc
   have h6:Ae z js = 4:=a3q h2 h3
   refine ts (ro rfl (cX cW) (ro rfl (cX (cV 4)) (eZ (bR rfl (fZ (eY rfl) ?_) (fZ (eY rfl) ?_)))))
   ·exact (fun v V h=>by rw [jeL,cD,h6]; exact jM v V h)
   ·exact (aO h6.symm)
  ·have h3 : ¬ (0 < 2 * js.length ∧ 2 * js.length = z.length) := by simpa [hll] using hc
   have h6:Ae z js = 0:=a1m h2 h3
   refine gV (i:=1) (tt:=6) rfl rfl gK (cY (ts (rm rfl (ra rfl (ro rfl (cX (cV 0)) (eZ (bR rfl (fZ (eY rfl) ?_) (fZ (eY rfl) ?_))))))))
   ·exact (mB (by rw [jeL,cD,h6]; rfl))
   ·exact (aO h6.symm)
end
section
open Go Go.RowKit
theorem a7s {x : Nat} (h : x < 20) : IntKind.wrap .i64 ((BitVec.ofInt (IntKind.bits .i64) (x : Int) ^^^ BitVec.ofInt (IntKind.bits .i64) ((1 : Nat) : Int)).toNat : Nat) = ((gC x : Nat) : Int) :=
 (by decide +kernel:∀ x:Nat,x < 20 → IntKind.wrap .i64 ((BitVec.ofInt (IntKind.bits .i64) (x:Int) ^^^ BitVec.ofInt (IntKind.bits .i64) ((1:Nat):Int)).toNat:Nat) = ((gC x:Nat):Int)) x h
theorem a2R {z:List Qi} {S:List (List Qi)} {js:List (Int × Int)} {x:Nat} (hS:cP S z.length z.length) (hd:Bo z js = 0) (hx:x < 2 * js.length) (hm:2 * js.length ≤ 18) (hz:z.length ≤ 1000):bL Tryz.prog 118 [NT .i64 x,PT (jI z S),PT (fN ((iM js).map Nat.succ))] (aR (S.getD (gq (cC js) (gC x)) [])):=by
 have hpx:gC x < 2 * js.length:=kW hx
 have hgq:=(rO hd).lt (gC x) hpx
 have hSl:=hS.1
 have hJl:=Dh js
 have hat:cB (iM js) (gC x) = gq (cC js) (gC x):=Lk hpx
 refine bL.intro Tryz.func118 rfl Tryz.ntmps118 rfl (fun cx=>(ts (ro rfl (cX cW) (eZ (cU (fJ (m:=8) (dp 1 rfl (rV oI (Ht rfl) rfl) (dq 5 0 rfl (dV A_30 Z_30 (Ht rfl)) (dp 2 rfl (dV A_72 Z_72 (Ht rfl)) (dp 0 rfl (cZ (Ht rfl)) (dq 8 3 rfl (Wm (Ht rfl) (cV 1) (a7s zo)) (dT 7 2 9 4 rfl (dJ U_72 Z_3 (Ht rfl) (Ht rfl) rfl (eQ (mN zo))) (dq 10 5 rfl (dV A_3 Z_3 (Ht rfl)) (dq 11 6 rfl (aI.nat (dG (Ht rfl) (cV 1) zo z6) (show cB (iM js) (gC x) + 1 - 1 = gq (cC js) (gC x) by omega)) ?_))))))))))))))
 refine fW bA rfl (by kernel_rfl) (zF (zF (aV (ro rfl (dJ U_30 Z_29 (Ht rfl) (Ht rfl) rfl (eQ (dY (d:=[]) zo))) (ro rfl (dV A_29 Z_29 (Ht rfl)) (ra rfl (eZ ?_)))))))
 exact fG rfl (eY rfl)
theorem a5x {x y:Nat}:bL Tryz.prog 120 [NT .i64 x,NT .i64 y] (aF (if x = y then Qi.ofInt 1 else Qi.ofInt 0)):=by
 refine bL.intro Tryz.func120 rfl Tryz.ntmps120 rfl (fun cx=>(ts (rn rfl (eG (Ts:=[Is (.bool false),Is (.slice none 0 0),Is (.bool false),Is (.slice none 0 0),Is (.slice none 0 0)]) O_51 rfl (fun V=>aW zd (aW zd (aW zd (aW zd (aW zd (aG))))))) fun B4=>(eZ (cU (ts (rm rfl (rm rfl (ro rfl (dP (Ht rfl) (Ht rfl)) (eZ (dX (Ht rfl) (fun hb=>?_) (fun hb=>?_))))))))))))
 ·have h2 : x = y := by simpa using hb
  refine ts (ro rfl (cJ Tryz.call109 (Kv (n:=1) (by decide) (by decide)) ⟨(cV 1),trivial⟩) (gX Z_51 (Ht rfl) (Ht rfl) rfl (i:=0) rfl (aK rfl) rfl rfl (eZ (fG rfl (fZ (fU A_51 Z_51 rfl (i:=0) rfl rfl) ?_)))))
  exact (kL (if_pos h2).symm)
 ·have h2 : ¬ x = y := by simpa using hb
  refine cY (ts (ro rfl (cJ Tryz.call109 (Kv (n:=0) (by decide) (by decide)) ⟨(cV 0),trivial⟩) (gX Z_51 (Ht rfl) (Ht rfl) rfl (i:=0) rfl (aK rfl) rfl rfl (eZ (fG rfl (fZ (fU A_51 Z_51 rfl (i:=0) rfl rfl) ?_))))))
  exact (kL (if_neg h2).symm)
theorem a2S {z:List Qi} {S:List (List Qi)} {js:List (Int × Int)} {x y L:Nat} (hS:cP S z.length z.length) (hf:bB S L) (hL:1 ≤ L) (hLb:L ≤ 1000) (hd:Bo z js = 0) (hx:x < 2 * js.length) (hy:y < 2 * js.length) (hm:2 * js.length ≤ 18) (hz:z.length ≤ 1000):bL Tryz.prog 119 [NT .i64 x,NT .i64 y,PT (Bv Tryz.prog (Fin (2 * js.length)) (fun x=>[NT .i64 x.1]) (fun x=>aR (S.getD (gq (cC js) (gC x.1)) []))),PT (fN ((iM js).map Nat.succ))] (aF ((if x = y then Qi.ofInt 1 else Qi.ofInt 0) - gm S (gq (cC js) (gC x)) (gq (cC js) y))):=by
 have hpx:gC x < 2 * js.length:=kW hx
 have hgx:=(rO hd).lt (gC x) hpx
 have hgy:=(rO hd).lt y hy
 have hSl:=hS.1
 have hSr:=hS.row hgx
 have hJl:=Dh js
 have hat:cB (iM js) y = gq (cC js) y:=Lk hy
 haveI g1:aM (gm S (gq (cC js) (gC x)) (gq (cC js) y)) L:=hf.get hL _ _
 haveI g2 : aM (if x = y then Qi.ofInt 1 else Qi.ofInt 0) 1 := by
  split
  ·exact yL
  ·exact (aM.zero (Nat.le_refl 1):aM Qi.zero 1)
 refine bL.intro Tryz.func119 rfl Tryz.ntmps119 rfl (fun cx=>(ts (rn rfl (eG (Ts:=[Is (.bool false),Is (.slice none 0 0),Is (.bool false),Is (.slice none 0 0),Is (.slice none 0 0)]) O_51 rfl (fun V=>aW zd (aW zd (aW zd (aW zd (aW zd (aG))))))) fun B6=>(eZ (cU (fJ (m:=14) (dp 0 rfl (cZ (Ht rfl)) (dp 1 rfl (cZ (Ht rfl)) (dT 7 0 8 1 rfl (cJ Tryz.call120 (a5x (x:=x) (y:=y)) ⟨(Ht rfl),(Ht rfl),trivial⟩) (dq 9 2 rfl (cO eA (Ht rfl)) ?_))))))))))
 refine dp 2 rfl (dV Tryz.isAgg175 Tryz.sizeOf175 (Ht rfl)) (dp 0 rfl (cZ (Ht rfl)) (dT 11 4 12 5 rfl (nI (Ts:=fun x:Fin (2 * js.length)=>[NT .i64 x.1]) ⟨x,hx⟩ (Ht rfl) ⟨(Ht rfl),trivial⟩) (dp 3 rfl (dV A_72 Z_72 (Ht rfl)) (dp 1 rfl (cZ (Ht rfl)) (dT 14 7 15 8 rfl (dJ U_72 Z_3 (Ht rfl) (Ht rfl) rfl (eQ (mN zo))) (dq 16 9 rfl (dV A_3 Z_3 (Ht rfl)) (dq 17 10 rfl (aI.nat (dG (Ht rfl) (cV 1) zo z6) (show cB (iM js) y + 1 - 1 = gq (cC js) y by omega)) ?_)))))))
 refine dT 13 6 18 11 rfl (dJ U_29 Z_51 (Ht rfl) (Ht rfl) rfl (eQ (dY (d:=Qi.zero) (show gq (cC js) y < (S.getD (gq (cC js) (gC x)) []).length by omega)))) (dq 19 12 rfl (dV A_51 Z_51 (Ht rfl)) (fW bA rfl (by kernel_rfl) (zF (zF (zF (aJ (aJ (aV (ro rfl (cF lH K_44 (Eh (x:=if x = y then Qi.ofInt 1 else Qi.ofInt 0) (y:=gm S (gq (cC js) (gC x)) (gq (cC js) y)) (L:=1) (M:=L) zo) (Ht rfl) ⟨(Ht rfl),trivial⟩) ?_)))))))))
 refine gX Z_51 (Ht rfl) (Ht rfl) rfl (i:=0) rfl (aK rfl) rfl rfl (eZ ?_)
 exact fG rfl (fU A_51 Z_51 rfl (i:=0) rfl rfl)
theorem a0m {z:List Qi} {S:List (List Qi)} {js:List (Int × Int)} {L:Nat} (hS:cP S z.length z.length) (hf:bB S L) (hfz:cH z L) (hL:1 ≤ L) (hLb:L ≤ 1000) (hz:z.length ≤ 18) (hj:js.length ≤ 100) (hg:∀ k,2 * k < z.length → 6 * eD (L + 2) (2 * k) + 4 ≤ 17592186044415) (hx:∀ k,2 * k < z.length → rX (eD (L + 2) (2 * k)) (2 * k + 1) ≤ 100000000000):bL Tryz.prog 31 [jI z S,Qr js] (fS [jI (jZ z S js) (jT z S js),aL .i64 (kE z S js)]):=by
 have hll:=pK js
 have hJl:=Dh js
 have hSl:=hS.1
 refine bL.intro Tryz.func31 rfl Tryz.ntmps31 rfl (fun cx=>(ts (rn rfl (fK (Ht rfl)) fun B2=>(rn rfl (eG (Ts:=[Is (.slice none 0 0),Is (.slice none 0 0)]) O_32 rfl (fun V=>aW zd (aW zd (aG)))) fun B4=>(ro rfl (cX (cV 0)) (eZ (ts (ro rfl (eW A_32 Z_32 (Ht rfl) (i:=0) rfl rfl rfl) (rm rfl (ro rfl (cJ Tryz.call117 (a0s (z:=z) (S:=S) (js:=js) (L:=L) hfz hL zo zo hj) ⟨(Ht rfl),(Ht rfl),trivial⟩) (rm rfl (ro rfl (dU (Ht rfl) rfl) ?_))))))))))))
 refine ro rfl (dU (Ht rfl) rfl) (rn rfl (eG (Ts:=[Is (.slice none 0 0)]) Tryz.zeroValue72 rfl (fun V=>aW zd (aG))) fun B6=>(lQ Z_72 (Ht rfl) (Ht rfl) (i:=2) rfl (aK rfl) rfl (ra rfl (eZ (cU (ts (rm rfl (ro rfl (gD (Ht rfl) cW) (eZ (dX (Ht rfl) (fun hc=>?_) (fun hc=>?_)))))))))))
 ·have h3 : Ae z js ≠ 0 := by simpa using hc
  have he:kE z S js = Ae z js:=a4Q h3
  refine ts (ro rfl (aI.imp (rF ) rT) (rm rfl (gX Z_32 (Ht rfl) (Ht rfl) rfl (i:=1) rfl (aK rfl) rfl rfl (ra rfl (eZ (bR rfl (fZ (fU A_32 Z_32 rfl (i:=1) rfl rfl) ?_) (fZ (eY rfl) ?_)))))))
  ·exact (fun v V h=>by rw [jZ,jT,cD,cD,he,if_neg h3,if_neg h3]; exact h)
  ·exact (aO he.symm)
 ·have h3 : Ae z js = 0 := by simpa using hc
  obtain ⟨hd,hne⟩:=yO h3
  have hok:jeL z js = nF js:=by rw [jeL,cD,if_pos h3]
  rw [hok]
  refine cY (cU (ts (ro rfl (fQ A_72 Z_72 (Ht rfl) (i:=2) rfl rfl) (ro rfl (dK U_72 (Ht rfl) (by rw [List.length_map,hll])) ?_))))
  refine ro rfl (dP (Ht rfl) (cV 0)) (eZ (dX (Ht rfl) (fun hc2=>?_) (fun hc2=>?_)))
  ·have h4 : js.length = 0 := by simp only [decide_eq_true_eq] at hc2; omega
   have he:kE z S js = 0:=a3u h3 h4
   refine ts (ro rfl (eW A_32 Z_32 (Ht rfl) (i:=0) rfl rfl rfl) (gX Z_32 (Ht rfl) (Ht rfl) rfl (i:=1) rfl (aK rfl) rfl rfl (ro rfl (cX (cV 0)) (eZ (bR rfl (fZ (fU A_32 Z_32 rfl (i:=1) rfl rfl) ?_) (fZ (eY rfl) ?_))))))
   ·exact (fun v V h=>by rw [jZ,jT,cD,cD,he,if_pos h4,if_pos h4]; exact h)
   ·exact (aO he.symm)
  ·have h4 : js.length ≠ 0 := by simp only [decide_eq_false_iff_not] at hc2; omega
   have hj:=rO hd
   have hjl:=Je hd
   have hm1:2 * js.length < z.length:=by omega
   obtain ⟨m,hm⟩:∃ m,m = 2 * js.length:=⟨_,rfl⟩
   have hg2:=hg js.length hm1
   have hx2:=hx js.length hm1
   have hxn:=Nat.le_trans (zN (eD (L + 2) (2 * js.length)) (2 * js.length)) hx2
   have hlf:=a2T (z:=z) (s:=S) (G:=iM js) zo zo
   rw [a1c] at hlf
   have hfl:(eE z js).length ≤ z.length:=wL _ _
   have hfx:∀ x,x ∈ eE z js → x < z.length:=fun x h=>qL h
   rw [a1n hd]
   refine cY (cU (gV (i:=0) (tt:=2) rfl rfl yN (gV (i:=2) (tt:=6) rfl rfl nD (dQ (ro rfl (pO (γ:=Fin (2 * js.length)) (Ts:=fun x=>[NT .i64 x.1]) (U:=fun x=>aR (S.getD (gq (cC js) (gC x.1)) [])) Tryz.call118 (fun x=>a2R hS hd x.2 zo zo) ⟨(Ht rfl),(Ht rfl),trivial⟩) (rn rfl (eG (Ts:=[Is (.nilFunc)]) Tryz.zeroValue175 rfl (fun V=>aW zd (aG))) fun B8=>(lQ Tryz.sizeOf175 (Ht rfl) (Ht rfl) (i:=3) rfl (aK rfl) rfl (eZ (cU (gV (i:=3) (tt:=8) rfl rfl nD ?_))))))))))
   refine dQ (ro rfl (dV A_72 Z_72 (Ht rfl)) (ro rfl (dK U_72 (Ht rfl) (by rw [List.length_map,List.length_map,hJl])) ?_))
   refine ro rfl (pO (γ:=Fin (2 * js.length) × Fin (2 * js.length)) (Ts:=fun x=>[NT .i64 x.1.1,NT .i64 x.2.1]) (U:=fun x=>aF ((if x.1.1 = x.2.1 then Qi.ofInt 1 else Qi.ofInt 0) - gm S (gq (cC js) (gC x.1.1)) (gq (cC js) x.2.1))) Tryz.call119 (fun x=>a2S hS hf hL hLb hd x.1.2 x.2.2 zo zo) ⟨(Ht rfl),(Ht rfl),trivial⟩) (ro rfl (cJ Tryz.call114 (Ri (n:=2 * js.length) (f:=fun x y=>(if x = y then Qi.ofInt 1 else Qi.ofInt 0) - gm S (gq (cC js) (gC x)) (gq (cC js) y)) zo) ⟨(Ht rfl),(Ht rfl),trivial⟩) (ra rfl (eZ (ts (ro rfl (dV A_32 Z_32 (Ht rfl)) ?_)))))
   refine ro rfl (dV A_72 Z_72 (Ht rfl)) (ro rfl (cJ Tryz.call121 hlf ⟨(Ht rfl),(Ht rfl),trivial⟩) (ra rfl (eZ (ts (ro rfl (dV A_32 Z_32 (Ht rfl)) (rm rfl (kZ Tryz.call122 (Uk (Q:=eE z js) (m:=(eE z js).length) hS hfx rfl zo zo) ⟨(Ht rfl),(Ht rfl),trivial⟩ rfl (fun B47 _=>(rn rfl (eG (Ts:=[Is (.slice none 0 0),Is (.slice none 0 0)]) O_32 rfl (fun V=>aW zd (aW zd (aG)))) fun B11=>(gX Z_32 (Ht rfl) (Ht rfl) rfl (i:=5) rfl (aK rfl) rfl rfl ?_))))))))))
   refine eZ (cU (ts (rm rfl (ro rfl (dK U_72 (Ht rfl) (by rw [List.length_map,List.length_map])) ?_))))
   refine ro rfl (cZ (cV 0)) (eZ (eK (bI [1,4,5] rfl (by decide) ?_)))
   refine bP (fun (j : Nat) => j ≤ (eE z js).length ∧ ∀ y, y < j → kO (lW S (cC js) (2 * js.length)) (uG S (cC js) (2 * js.length) ((eE z js).getD y 0)) (2 * js.length) = 0) (fun (j : Nat) => (eE z js).length - j) (fun (j : Nat) => [(2, PT (jI z S)), (4, bF B4 0), (6, PT (fN ((iM js).map Nat.succ))), (8, PT (Bv Tryz.prog (Fin (2 * js.length)) (fun x => [NT .i64 x.1]) (fun x => aR (S.getD (gq (cC js) (gC x.1)) [])))), (9, bM (lW S (cC js) (2 * js.length))), (10, fN ((eE z js).map Nat.succ)), (11, bF B11 0), (48, fN ((eE z js).map Nat.succ)), (49, NT .i64 ((eE z js).length)), (50, NT .i64 j)]) (fun (j : Nat) => [box B4 32 [Is (.slice none 0 0), Is (.slice none 0 0)], pE B47 29 51 5 (bS aF (tab ((eE z js).length) fun i => (lB (fun y => uJ S (cC js) (2 * js.length) (cB (eE z js) i) (cB (eE z js) y)) (fun y => gm S (cB (eE z js) i) (cB (eE z js) y)) (eE z js).length j))), box B11 32 [aR (pH z (eE z js)), Is (.slice (some ⟨B47, 0, none⟩) ((eE z js).length) ((eE z js).length))]]) 0 ⟨Nat.zero_le _, fun y h => by omega⟩
    (zS rfl) (aU (aB rfl) (aU (bD (congrArg (bS aF) (eH fun i _=>kA _ _ _))) (aU (aB rfl) aY))) (fun j ⟨hjq,h0⟩=>?_)
   refine ts (ro rfl (gZ (Ht rfl) (Ht rfl)) (eZ (cU (dX (Ht rfl) (fun hd1=>?_) (fun hd1=>?_)))))
   ·have hjn : j < (eE z js).length := by simp only [decide_eq_true_eq] at hd1; omega
    have hFj:cB (eE z js) j < z.length:=a1p hjn
    have hbf:cH (uG S (cC js) (2 * js.length) ((eE z js).getD j 0)) L:=Dg hf hL
    refine cY (cU (eK (ts (rm rfl (ro rfl (dJ U_72 Z_3 (Ht rfl) (Ht rfl) rfl (eQ (mN hjn))) (ro rfl (dV A_3 Z_3 (Ht rfl)) (ra rfl (ra rfl (eZ (ts (ro rfl (dV A_72 Z_72 (Ht rfl)) (ro rfl (dK U_72 (Ht rfl) (by rw [List.length_map,List.length_map,hJl])) ?_))))))))))))
    refine rn rfl (kS (T:=aF Qi.zero) (i:=Tryz.t51) kX jD rfl rfl (Ht rfl) rfl kM (El.ag rfl) (by show 88 * _ ≤ _; omega) zo) fun B57=>ra rfl (eZ (cU (ts (rm rfl (ro rfl (mL U_29 (Ht rfl) (i:=3) rfl (show ((List.replicate (2 * js.length) (aF Qi.zero)).length:Int) = ((2 * js.length:Nat):Int) from by simp)) (ro rfl (cZ (cV 0)) (eZ (eK ?_))))))))
    refine bP (fun (x : Nat) => x ≤ 2 * js.length) (fun (x : Nat) => 2 * js.length - x) (fun (x : Nat) => [(2, PT (jI z S)), (4, bF B4 0), (6, PT (fN ((iM js).map Nat.succ))), (8, PT (Bv Tryz.prog (Fin (2 * js.length)) (fun x => [NT .i64 x.1]) (fun x => aR (S.getD (gq (cC js) (gC x.1)) [])))), (9, bM (lW S (cC js) (2 * js.length))), (10, fN ((eE z js).map Nat.succ)), (11, bF B11 0), (12, NT .i64 j), (13, NT .i64 (cB (eE z js) j + 1)), (14, Is B57), (48, fN ((eE z js).map Nat.succ)), (49, NT .i64 ((eE z js).length)), (50, NT .i64 j), (59, NT .i64 (2 * js.length)), (60, NT .i64 x)]) (fun (x : Nat) => [box B4 32 [Is (.slice none 0 0), Is (.slice none 0 0)], pE B47 29 51 5 (bS aF (tab ((eE z js).length) fun i => (lB (fun y => uJ S (cC js) (2 * js.length) (cB (eE z js) i) (cB (eE z js) y)) (fun y => gm S (cB (eE z js) i) (cB (eE z js) y)) (eE z js).length j))), box B11 32 [aR (pH z (eE z js)), Is (.slice (some ⟨B47, 0, none⟩) ((eE z js).length) ((eE z js).length))], bN 51 5 B57 ((iP (fun x => gm S (gq (cC js) (gC x)) (cB (eE z js) j)) Qi.zero (2 * js.length) x).map aF)]) 0 (Nat.zero_le _)
     (zS rfl) (aU (aB rfl) (aU (fun _ _ _ h=>h) (aU (aB rfl) (aU (aN (by rw [← fF]; exact Du aF _)) aY)))) (fun x hx1=>?_)
    refine ts (ro rfl (gZ (Ht rfl) (Ht rfl)) (eZ (cU (dX (Ht rfl) (fun hd2=>?_) (fun hd2=>?_)))))
    ·have hxm : x < 2 * js.length := by simp only [decide_eq_true_eq] at hd2; omega
     have hgx:=hj.lt (gC x) (kW hxm)
     have hSr:=hS.row hgx
     refine cY (cU (eK (ts (rm rfl (ra rfl (eZ (dQ (rm rfl (rm rfl (ro rfl (dV Tryz.isAgg175 Tryz.sizeOf175 (Ht rfl)) (rm rfl (ro rfl (nI (Ts:=fun x:Fin (2 * js.length)=>[NT .i64 x.1]) ⟨x,hxm⟩ (Ht rfl) ⟨(Ht rfl),trivial⟩) (rm rfl (ro rfl (aI.nat (dG (Ht rfl) (cV 1) zo z6) (show cB (eE z js) j + 1 - 1 = cB (eE z js) j by omega)) (ro rfl (dJ U_29 Z_51 (Ht rfl) (Ht rfl) rfl (eQ (dY (d:=Qi.zero) (show cB (eE z js) j < (S.getD (gq (cC js) (gC x)) []).length by omega)))) ?_)))))))))))))))
     refine ro rfl (dV A_51 Z_51 (Ht rfl)) (ro rfl (cR U_29 Z_51 (Ht rfl) (Ht rfl) rfl (i:=3) rfl (by rw [List.length_map,cL]; omega) rfl) ?_)
     refine jS Z_51 (Ht rfl) (Ht rfl) (El.ag rfl) (i:=3) rfl rfl (by rw [List.length_map,cL]; omega) rfl ?_
     refine eZ (aT (dQ (ro rfl (dW (Ht rfl) (cV 1) z6) (rm rfl (eZ (fY (x + 1) hxm zo (zS rfl) (aU (aB rfl) (aU (fun _ _ _ h=>h) (aU (aB rfl) (aU (aN (by rw [fI]; exact congrArg _ (fR (f:=(fun x=>gm S (gq (cC js) (gC x)) (cB (eE z js) j)))))) aY))))))))))
    ·have hxm : x = 2 * js.length := by simp only [decide_eq_false_iff_not] at hd2; omega
     rw [hxm,gO]
     refine gW rfl (gV (i:=3) (tt:=14) rfl rfl gK (ts (rm rfl (rm rfl (ro rfl (cJ Tryz.call96 (Uf (M:=lW S (cC js) (2 * js.length)) (b:=uG S (cC js) (2 * js.length) ((eE z js).getD j 0)) (n:=2 * js.length) (L:=L + 2) (jW _ _ _) (aC _ _) (tR hf hL) (hbf.le zo) zo zo zo hg2 zo) ⟨(Ht rfl),(Ht rfl),trivial⟩) (rm rfl (ro rfl (dU (Ht rfl) rfl) (ro rfl (dU (Ht rfl) rfl) (ra rfl (ra rfl (eZ (cU (ts (rm rfl (ro rfl (gD (Ht rfl) cW) (eZ (dX (Ht rfl) (fun hc3=>?_) (fun hc3=>?_))))))))))))))))))
     ·have h5 : kO (lW S (cC js) (2 * js.length)) (uG S (cC js) (2 * js.length) ((eE z js).getD j 0)) (2 * js.length) ≠ 0 := by simpa using hc3
      have h6:Af z S js ≠ 0:=fun k=>h5 (gH k j hjn)
      have he:kE z S js = 6:=(Fk h3 h4).trans (if_neg h6)
      refine ts (ro rfl (aI.imp (rF ) rT) (gX Z_32 (Ht rfl) (Ht rfl) rfl (i:=0) rfl (aK rfl) rfl rfl (ro rfl (cX (cV 6)) (eZ (bR rfl (fZ (fU A_32 Z_32 rfl (i:=0) rfl rfl) ?_) (fZ (eY rfl) ?_))))))
      ·exact (fun v V h=>by rw [jZ,jT,cD,cD,he]; exact h)
      ·exact (aO he.symm)
     ·have h5 : kO (lW S (cC js) (2 * js.length)) (uG S (cC js) (2 * js.length) ((eE z js).getD j 0)) (2 * js.length) = 0 := by simpa using hc3
      have hxf:=Xe (jW S (cC js) (2 * js.length)) (tR hf hL) (hbf.le zo) zo h5
      have hxl:(jB (lW S (cC js) (2 * js.length)) (uG S (cC js) (2 * js.length) ((eE z js).getD j 0)) (2 * js.length)).length = 2 * js.length:=tC _ _ _
      have hGe:L + 2 ≤ rX (eD (L + 2) (2 * js.length)) (2 * js.length):=Nat.le_trans (wI (L + 2) (2 * js.length)) (Hl _ _)
      obtain ⟨G,hG⟩:∃ G,G = rX (eD (L + 2) (2 * js.length)) (2 * js.length):=⟨_,rfl⟩
      rw [← hG] at hxf hGe hxn
      have hmG:2 * js.length * (2 * G + 2) ≤ 18 * (2 * G + 2):=Nat.mul_le_mul_right _ zo
      have hokx:cD (kO (lW S (cC js) (2 * js.length)) (uG S (cC js) (2 * js.length) ((eE z js).getD j 0)) (2 * js.length)) (jB (lW S (cC js) (2 * js.length)) (uG S (cC js) (2 * js.length) ((eE z js).getD j 0)) (2 * js.length)) = jB (lW S (cC js) (2 * js.length)) (uG S (cC js) (2 * js.length) ((eE z js).getD j 0)) (2 * js.length):=by rw [cD,if_pos h5]
      rw [hokx]
      refine cY (ts (rm rfl (ro rfl (dK U_72 (Ht rfl) (by rw [List.length_map,List.length_map])) ?_)))
      refine ro rfl (cZ (cV 0)) (eZ (eK (bI [0,1,2] rfl (by decide) ?_)))
      refine bP (fun (i : Nat) => i ≤ (eE z js).length) (fun (i : Nat) => (eE z js).length - i) (fun (i : Nat) => [(2, PT (jI z S)), (4, bF B4 0), (6, PT (fN ((iM js).map Nat.succ))), (8, PT (Bv Tryz.prog (Fin (2 * js.length)) (fun x => [NT .i64 x.1]) (fun x => aR (S.getD (gq (cC js) (gC x.1)) [])))), (9, bM (lW S (cC js) (2 * js.length))), (10, fN ((eE z js).map Nat.succ)), (11, bF B11 0), (12, NT .i64 j), (16, aR (jB (lW S (cC js) (2 * js.length)) (uG S (cC js) (2 * js.length) ((eE z js).getD j 0)) (2 * js.length))), (48, fN ((eE z js).map Nat.succ)), (49, NT .i64 ((eE z js).length)), (50, NT .i64 j), (83, fN ((eE z js).map Nat.succ)), (84, NT .i64 ((eE z js).length)), (85, NT .i64 i)]) (fun (i : Nat) => [box B4 32 [Is (.slice none 0 0), Is (.slice none 0 0)], pE B47 29 51 5 (bS aF (lB (fun i => (lB (fun y => uJ S (cC js) (2 * js.length) (cB (eE z js) i) (cB (eE z js) y)) (fun y => gm S (cB (eE z js) i) (cB (eE z js) y)) (eE z js).length (j + 1))) (fun i => (lB (fun y => uJ S (cC js) (2 * js.length) (cB (eE z js) i) (cB (eE z js) y)) (fun y => gm S (cB (eE z js) i) (cB (eE z js) y)) (eE z js).length j)) ((eE z js).length) i)), box B11 32 [aR (pH z (eE z js)), Is (.slice (some ⟨B47, 0, none⟩) ((eE z js).length) ((eE z js).length))]]) 0 (Nat.zero_le _)
       (zS rfl) (aU (aB rfl) (aU (bD (congrArg (bS aF) (kA _ _ _))) (aU (aB rfl) aY))) (fun i hi=>?_)
      refine ts (ro rfl (gZ (Ht rfl) (Ht rfl)) (eZ (cU (dX (Ht rfl) (fun hd4=>?_) (fun hd4=>?_)))))
      ·have hin : i < (eE z js).length := by simp only [decide_eq_true_eq] at hd4; omega
       have hFi:cB (eE z js) i < z.length:=a1p hin
       have hSr:=hS.row hFi
       refine cY (cU (eK (ts (rm rfl (ro rfl (dJ U_72 Z_3 (Ht rfl) (Ht rfl) rfl (eQ (mN hin))) (ro rfl (dV A_3 Z_3 (Ht rfl)) (ra rfl (ra rfl (eZ (ts (ro rfl (dV A_72 Z_72 (Ht rfl)) (ro rfl (dK U_72 (Ht rfl) (by rw [List.length_map,List.length_map,hJl])) ?_))))))))))))
       refine rn rfl (kS (T:=aF Qi.zero) (i:=Tryz.t51) kX jD rfl rfl (Ht rfl) rfl kM (El.ag rfl) (by show 88 * _ ≤ _; omega) zo) fun B92=>ra rfl (eZ (cU (ts (ro rfl (dV A_72 Z_72 (Ht rfl)) (ro rfl (dK U_72 (Ht rfl) (by rw [List.length_map,List.length_map,hJl])) ?_)))))
       refine ro rfl (cZ (cV 0)) (eZ (eK ?_))
       refine bP (fun (x : Nat) => x ≤ 2 * js.length) (fun (x : Nat) => 2 * js.length - x) (fun (x : Nat) => [(2, PT (jI z S)), (4, bF B4 0), (6, PT (fN ((iM js).map Nat.succ))), (8, PT (Bv Tryz.prog (Fin (2 * js.length)) (fun x => [NT .i64 x.1]) (fun x => aR (S.getD (gq (cC js) (gC x.1)) [])))), (9, bM (lW S (cC js) (2 * js.length))), (10, fN ((eE z js).map Nat.succ)), (11, bF B11 0), (12, NT .i64 j), (16, aR (jB (lW S (cC js) (2 * js.length)) (uG S (cC js) (2 * js.length) ((eE z js).getD j 0)) (2 * js.length))), (18, NT .i64 i), (19, NT .i64 (cB (eE z js) i + 1)), (20, Is B92), (48, fN ((eE z js).map Nat.succ)), (49, NT .i64 ((eE z js).length)), (50, NT .i64 j), (83, fN ((eE z js).map Nat.succ)), (84, NT .i64 ((eE z js).length)), (85, NT .i64 i), (93, fN ((iM js).map Nat.succ)), (94, NT .i64 (2 * js.length)), (95, NT .i64 x)]) (fun (x : Nat) => [box B4 32 [Is (.slice none 0 0), Is (.slice none 0 0)], pE B47 29 51 5 (bS aF (lB (fun i => (lB (fun y => uJ S (cC js) (2 * js.length) (cB (eE z js) i) (cB (eE z js) y)) (fun y => gm S (cB (eE z js) i) (cB (eE z js) y)) (eE z js).length (j + 1))) (fun i => (lB (fun y => uJ S (cC js) (2 * js.length) (cB (eE z js) i) (cB (eE z js) y)) (fun y => gm S (cB (eE z js) i) (cB (eE z js) y)) (eE z js).length j)) ((eE z js).length) i)), box B11 32 [aR (pH z (eE z js)), Is (.slice (some ⟨B47, 0, none⟩) ((eE z js).length) ((eE z js).length))], bN 51 5 B92 ((iP (fun x => gm S (cB (eE z js) i) (gq (cC js) x)) Qi.zero (2 * js.length) x).map aF)]) 0 (Nat.zero_le _)
        (zS rfl) (aU (aB rfl) (aU (fun _ _ _ h=>h) (aU (aB rfl) (aU (aN (by rw [← fF]; exact Du aF _)) aY)))) (fun x hx1=>?_)
       refine ts (ro rfl (gZ (Ht rfl) (Ht rfl)) (eZ (cU (dX (Ht rfl) (fun hd5=>?_) (fun hd5=>?_)))))
       ·have hxm : x < 2 * js.length := by simp only [decide_eq_true_eq] at hd5; omega
        have hat:cB (iM js) x = gq (cC js) x:=Lk hxm
        have hgx:=hj.lt x hxm
        refine cY (cU (eK (ts (rm rfl (ro rfl (dJ U_72 Z_3 (Ht rfl) (Ht rfl) rfl (eQ (mN zo))) (ro rfl (dV A_3 Z_3 (Ht rfl)) (ra rfl (ra rfl (eZ (dQ (rm rfl (rm rfl (ro rfl (rV oI (Ht rfl) rfl) (ro rfl (dV A_30 Z_30 (Ht rfl)) (rm rfl (ro rfl (aI.nat (dG (Ht rfl) (cV 1) zo z6) (show cB (eE z js) i + 1 - 1 = cB (eE z js) i by omega)) (ro rfl (dJ U_30 Z_29 (Ht rfl) (Ht rfl) rfl (eQ (dY (d:=[]) (show cB (eE z js) i < S.length by omega)))) ?_)))))))))))))))))
        refine ro rfl (dV A_29 Z_29 (Ht rfl)) (rm rfl (ro rfl (aI.nat (dG (Ht rfl) (cV 1) zo z6) (show cB (iM js) x + 1 - 1 = gq (cC js) x by omega)) (ro rfl (dJ U_29 Z_51 (Ht rfl) (Ht rfl) rfl (eQ (dY (d:=Qi.zero) (show gq (cC js) x < (S.getD (cB (eE z js) i) []).length by omega)))) (ro rfl (dV A_51 Z_51 (Ht rfl)) (ro rfl (cR U_29 Z_51 (Ht rfl) (Ht rfl) rfl (i:=3) rfl (by rw [List.length_map,cL]; omega) rfl) ?_)))))
        refine jS Z_51 (Ht rfl) (Ht rfl) (El.ag rfl) (i:=3) rfl rfl (by rw [List.length_map,cL]; omega) rfl ?_
        refine eZ (aT (dQ (ro rfl (dW (Ht rfl) (cV 1) z6) (rm rfl (eZ (fY (x + 1) hxm zo (zS rfl) (aU (aB rfl) (aU (fun _ _ _ h=>h) (aU (aB rfl) (aU (aN (by rw [fI]; exact congrArg _ (fR (f:=(fun x=>gm S (cB (eE z js) i) (gq (cC js) x)))))) aY))))))))))
       ·have hxm : x = 2 * js.length := by simp only [decide_eq_false_iff_not] at hd5; omega
        rw [hxm,gO]
        refine gW rfl (gV (i:=3) (tt:=20) rfl rfl gK (bI [0,1,2] rfl (by decide) (oH 1 (i) rfl (sV hin) (fun v0=>?_))))
        have hrl:=jL (fun y=>uJ S (cC js) (2 * js.length) (cB (eE z js) i) (cB (eE z js) y)) (fun y=>gm S (cB (eE z js) i) (cB (eE z js) y)) ((eE z js).length) j
        have hrf:cH (tab (2 * js.length) (fun x=>gm S (cB (eE z js) i) (gq (cC js) x))) G:=cH.tab fun x _=>(hf.get hL _ _).le zo
        have hro : ((lB (fun y => uJ S (cC js) (2 * js.length) (cB (eE z js) i) (cB (eE z js) y)) (fun y => gm S (cB (eE z js) i) (cB (eE z js) y)) (eE z js).length j)).set j (wV (gm S (cB (eE z js) i) (cB (eE z js) j)) (tab (2 * js.length) (fun x => gm S (cB (eE z js) i) (gq (cC js) x))) (jB (lW S (cC js) (2 * js.length)) (uG S (cC js) (2 * js.length) ((eE z js).getD j 0)) (2 * js.length)) (2 * js.length)) = (lB (fun y => uJ S (cC js) (2 * js.length) (cB (eE z js) i) (cB (eE z js) y)) (fun y => gm S (cB (eE z js) i) (cB (eE z js) y)) (eE z js).length (j + 1)) := by
         rw [Rq]; exact lJ (f:=fun y=>uJ S (cC js) (2 * js.length) (cB (eE z js) i) (cB (eE z js) y))
        refine fJ (m:=17) (dp 11 rfl (eJ oI (Ht rfl) rfl) (dq 114 0 rfl (fQ A_30 Z_30 (Ht rfl) (i:=2) rfl rfl) (dp 18 rfl (cZ (Ht rfl)) (dT 115 1 116 2 rfl (gQ U_30 Z_29 (Ht rfl) (Ht rfl) rfl zo (by rw [Nat.mul_one,Nat.zero_add])) ?_))))
        refine dq 117 3 rfl (gM A_29 Z_29 (Ht rfl) (j:=1) rfl) (dp 12 rfl (cZ (Ht rfl)) (dp 11 rfl (eJ oI (Ht rfl) rfl) (dq 120 6 rfl (fQ A_30 Z_30 (Ht rfl) (i:=2) rfl rfl) (dp 18 rfl (cZ (Ht rfl)) (dT 121 7 122 8 rfl (gQ U_30 Z_29 (Ht rfl) (Ht rfl) rfl zo (by rw [Nat.mul_one,Nat.zero_add])) ?_)))))
        refine dq 123 9 rfl (gM A_29 Z_29 (Ht rfl) (j:=1) rfl) (dp 12 rfl (cZ (Ht rfl)) (dT 124 10 125 11 rfl (cR U_29 Z_51 (Ht rfl) (Ht rfl) rfl (i:=3) rfl (by simp only [List.length_map,hrl]; omega) rfl) ?_))
        refine dq 126 12 rfl (sD A_51 Z_51 (Ht rfl) (i:=3) rfl rfl (eQ (sX hjn))) (dp 20 rfl (cZ (Ht rfl)) (dp 16 rfl (cZ (Ht rfl)) (C.D_step (Ei:=[(127,_),(128,_),(129,_)]) rfl rfl (bV (bG 13 rfl rfl) (bV (bG 14 rfl rfl) (bV (bG 15 rfl rfl) bW))) (dZ rfl (cJ Tryz.call123 (a6P (x:=gm S (cB (eE z js) i) (cB (eE z js) j)) (l:=tab (2 * js.length) (fun x=>gm S (cB (eE z js) i) (gq (cC js) x))) (m:=jB (lW S (cC js) (2 * js.length)) (uG S (cC js) (2 * js.length) ((eE z js).getD j 0)) (2 * js.length)) (L:=G) (M:=L) (n:=2 * js.length) (hf.get hL _ _) hrf hxf zo (aC _ _) hxl zo zo) ⟨(Ht rfl),(Ht rfl),(Ht rfl),trivial⟩)) ?_)))
        refine fW bA rfl (by kernel_rfl) (zF (zF (zF (zF (aJ (aV (ro rfl (cR U_29 Z_51 (Ht rfl) (Ht rfl) rfl (i:=3) rfl (by simp only [List.length_map,hrl]; omega) rfl) ?_)))))))
        refine jS Z_51 (Ht rfl) (Ht rfl) (El.ag rfl) (i:=3) rfl rfl (by simp only [List.length_map,hrl]; omega) rfl ?_
        refine eZ (dI 1 3 rfl rfl (by decide) (by simp only [bS,List.length_map,jL]; omega) ?_)
        refine aT (dQ (ro rfl (dW (Ht rfl) (cV 1) z6) (rm rfl (eZ (bI [0,1,2] rfl (by decide) (fY (i + 1) hin zo (zS rfl) (aU (aB rfl) (aU (bD (by rw [fI,hro,eN]; exact congrArg _ (lJ (f:=fun i=>(lB (fun y=>uJ S (cC js) (2 * js.length) (cB (eE z js) i) (cB (eE z js) y)) (fun y=>gm S (cB (eE z js) i) (cB (eE z js) y)) (eE z js).length (j + 1)))))) (aU (aB rfl) aY)))))))))
      ·have hin : i = (eE z js).length := by simp only [decide_eq_false_iff_not] at hd4; omega
       rw [hin,lI]
       refine gW rfl (aT (dQ (ro rfl (dW (Ht rfl) (cV 1) z6) (rm rfl (eZ ?_)))))
       refine fY (j + 1) ⟨hjn, fun y h => by
         by_cases e:y = j
         ·rw [e]; exact h5
         ·exact h0 y zo⟩ zo (zS rfl) (aU (aB rfl) (aU (fun _ _ _ h=>h) (aU (aB rfl) aY)))
   ·have hjn : j = (eE z js).length := by simp only [decide_eq_false_iff_not] at hd1; omega
    rw [hjn] at h0
    have h6:Af z S js = 0:=gS h0
    have he:kE z S js = 0:=(Fk h3 h4).trans (if_pos h6)
    rw [hjn,show (tab ((eE z js).length) fun i=>(lB (fun y=>uJ S (cC js) (2 * js.length) (cB (eE z js) i) (cB (eE z js) y)) (fun y=>gm S (cB (eE z js) i) (cB (eE z js) y)) (eE z js).length (eE z js).length)) = Fh z S js from eH fun i _=>lI _ _ _]
    refine gW rfl (cU (qE 2 1 1 rfl rfl rfl (by decide) (a3h (q:=fun _=>True) (M:=Fh z S js) (aC _ _).symm) (dQ (ro rfl (eW A_32 Z_32 (Ht rfl) (i:=2) rfl rfl rfl) (gX Z_32 (Ht rfl) (Ht rfl) rfl (i:=0) rfl (aK rfl) rfl rfl (ro rfl (cX (cV 0)) (eZ (bR rfl (fZ (fU A_32 Z_32 rfl (i:=0) rfl rfl) ?_) (fZ (eY rfl) ?_)))))))))
    ·exact (fun v V h=>by rw [jZ,jT,cD,cD,he,if_neg h4,if_neg h4]; exact h)
    ·exact (aO he.symm)
end
section
open Go Go.RowKit
theorem Sb {A B C : List (List Qi)} {n : Nat} : nA (nA A B n n n) C n n n = nA A (nA B C n n n) n n n := lX qO qO fun i hi j hj => by
 rw [sC hi hj,sC hi hj]
 have e1 : aE n (fun t => gm (nA A B n n n) i t * gm C t j) = aE n fun t => aE n fun u => gm A i u * gm B u t * gm C t j := aD fun t ht => by
  rw [sC hi ht,← jC]
 have e2 : aE n (fun u => gm A i u * gm (nA B C n n n) u j) = aE n fun u => aE n fun t => gm A i u * gm B u t * gm C t j := aD fun u hu => by
  rw [sC hu hj,Qi.mul_comm',← jC]
  exact aD fun t _=>by grind
 rw [e1,e2,jH]
theorem Jc {n i j:Nat} (hi:i < n) (hj:j < n):gm (Df n) i j = if i = j then 1 else 0:=wS hi hj
theorem a13 {n j i:Nat} (hi:i < n) (hj:j < n):gv (ek n j) i = if i = j then 1 else 0:=by
 have h:gv (ek n j) i = if j = i then 1 else 0:=Jc (n:=n) hj hi
 rw [h]
 by_cases c:i = j
 ·rw [if_pos c,if_pos c.symm]
 ·rw [if_neg c,if_neg (Ne.symm c)]
theorem a4M {M : List (List Qi)} {n : Nat} (h : cP M n n) (hE : Rv M n = 0) : nA M (Ol M n) n n n = Df n := lX qO (Lh n) fun i hi j hj => by
 have hs:=(kQ h (On hE j hj)).1 i hi
 rw [sC hi hj,Jc hi hj,← a13 hi hj,← hs]
 exact aD fun t ht=>by rw [show gm (Ol M n) t j = gv (jB M (ek n j) n) t from jE ht hj]
theorem a3z {M X : List (List Qi)} {n : Nat} (h : nA X M n n n = Df n) {y : Nat → Qi} (hy : ∀ i, i < n → aE n (fun k => gm M i k * y k) = 0) : ∀ k, k < n → y k = 0 := fun k hk => by
 have e1:aE n (fun i=>gm X k i * aE n (fun t=>gm M i t * y t)) = 0:=iN fun i hi=>by rw [hy i hi]; grind
 have e2 : aE n (fun i => gm X k i * aE n (fun t => gm M i t * y t)) = aE n fun i => aE n fun t => gm X k i * gm M i t * y t := aD fun i _ => by
  rw [Qi.mul_comm',← jC]; exact aD fun t _=>by grind
 have e3 : aE n (fun t => aE n fun i => gm X k i * gm M i t * y t) = aE n fun t => gm (Df n) k t * y t := aD fun t ht => by
  rw [← h,sC hk ht,← jC]
 rw [e2,jH,e3] at e1
 rw [fA (i:=k) hk (fun t ht hne=>by rw [Jc hk ht,if_neg (Ne.symm hne)]; grind),Jc hk hk,if_pos rfl] at e1
 grind
theorem Vt {M X : List (List Qi)} {n : Nat} (hM : cP M n n) (h : nA X M n n n = Df n) : Rv M n = 0 := gS fun k hk => by
 apply Classical.byContradiction; intro e
 obtain ⟨y,hy,k,hk,hne⟩:=Qd hM e
 exact hne (a3z h hy k hk)
theorem a5U {M X Y:List (List Qi)} {n:Nat} (hX:cP X n n) (hY:cP Y n n) (h:nA X M n n n = Df n) (k:nA M Y n n n = Df n):X = Y:=by
 rw [← a3G hX,← k,← Sb,h,a3F hY]
theorem Wy {M Y:List (List Qi)} {n:Nat} (hM:cP M n n) (hY:cP Y n n) (h:nA M Y n n n = Df n):nA Y M n n n = Df n:=by
 have e:=Vt hY h
 have r:=a4M hY e
 rw [a5U hM (Om Y n) h r]; exact r
theorem a70 {M:List (List Qi)} {n:Nat} (h:cP M n n) (hE:Rv M n = 0):nA (Ol M n) M n n n = Df n:=Wy h (Om M n) (a4M h hE)
theorem a4a {M Y:List (List Qi)} {n:Nat} (hM:cP M n n) (hY:cP Y n n) (h:nA M Y n n n = Df n):Rv M n = 0:=Vt hM (Wy hM hY h)
section
variable {a b:Qi} {A B C:List (List Qi)} {d e:Nat → Qi} {n:Nat}
end
theorem q2:Qi.ofInt 2 = 2:=rfl
section
variable {z:List Qi} {s:List (List Qi)}
end
end
section
open Go Go.RowKit
theorem Ve {n C k : Nat} (h : ∀ N, 1 ≤ N → fs n N ≤ C * N ^ k) : ∀ N, 1 ≤ N → fs (n + 1) N ≤ 2 * (n + 1) * C * 4 ^ k * N ^ (2 * k + 1) := fun N hN => by
 have h4:1 ≤ 4 * N * N:=Nat.mul_pos zo zo
 have a:=h (4 * N * N) h4
 have e:(4 * N * N) ^ k = 4 ^ k * (N ^ k * N ^ k):=by rw [Nat.mul_pow,Nat.mul_pow,Nat.mul_assoc]
 have e2:N ^ (2 * k + 1) = N ^ k * N ^ k * N:=by rw [Nat.pow_succ,Nat.two_mul,Nat.pow_add]
 rw [fs,e2]
 refine Nat.le_trans (Nat.mul_le_mul_left _ a) ?_
 rw [e]
 refine Nat.le_of_eq ?_
 simp only [Nat.mul_comm,Nat.mul_left_comm,Nat.mul_assoc]
theorem Vd {n C k C' k' : Nat} (h : ∀ N, 1 ≤ N → fs n N ≤ C * N ^ k) (hC : C ≤ C') (hk : k ≤ k') : ∀ N, 1 ≤ N → fs n N ≤ C' * N ^ k' := fun N hN =>
 Nat.le_trans (h N hN) (Nat.mul_le_mul hC (Nat.pow_le_pow_right hN hk))
theorem a5E {n:Nat} (hn:n ≤ 6):∀ N,1 ≤ N → fs n N ≤ (2 * 6 * (2 * 5 * 1610612736 * 4 ^ 15) * 4 ^ 31) * N ^ 63:=by
 have h4:∀ m,m ≤ 4 → ∀ N,1 ≤ N → fs m N ≤ 1610612736 * N ^ 15:=fun m hm N hN=>Vc hm hN
 have h5:∀ N,1 ≤ N → fs 5 N ≤ (2 * 5 * 1610612736 * 4 ^ 15) * N ^ 31:=Ve (h4 4 (Nat.le_refl 4))
 have h6:∀ N,1 ≤ N → fs 6 N ≤ (2 * 6 * (2 * 5 * 1610612736 * 4 ^ 15) * 4 ^ 31) * N ^ 63:=Ve h5
 by_cases a:n ≤ 4
 ·exact Vd (h4 n a) (by decide) (by decide)
 ·by_cases b : n = 5
  ·subst b; exact Vd h5 (by decide) (by decide)
  ·obtain rfl : n = 6 := by omega
   exact h6
theorem So {C m k M:Nat} (h:m + k = M) (hC:C < BB ^ k):C * BB ^ m < BB ^ M:=by
 subst h
 rw [Nat.pow_add,Nat.mul_comm (BB ^ m)]
 exact Nat.mul_lt_mul_of_pos_right hC (Nat.pow_pos eP)
theorem Ru {n e K:Nat} (hn:n ≤ 6) (he:e * 63 + 6 = K):fs n (BB ^ e) < BB ^ K:=by
 refine Nat.lt_of_le_of_lt (a5E hn _ (Nat.pow_pos eP)) ?_
 rw [← Nat.pow_mul]
 exact So he (by show _ < 4294967296 ^ 6; decide)
theorem Jb {n:Nat} (hn:n ≤ 6):fs n (BB ^ ((6 + 1) * 4)) < BB ^ 1770:=Ru (e:=(6 + 1) * 4) (K:=1770) hn (by decide)
section
variable {z:List Qi} {S c:List (List Qi)} {js:List (Int × Int)} {N:Nat}
def Oq (S:List (List Qi)) (js:List (Int × Int)):List (List Qi):=tab (2 * js.length) fun x=>tab (2 * js.length) fun y=>Ie x y - gm S (gq (cC js) (gC y)) (gq (cC js) x)
def Yn (S:List (List Qi)) (js:List (Int × Int)) (i:Nat):List Qi:=tab (2 * js.length) fun y=>gm S i (gq (cC js) y)
def Fg (S:List (List Qi)) (js:List (Int × Int)) (i:Nat):List Qi:=jB (Oq S js) (Yn S js i) (2 * js.length)
theorem rN (S:List (List Qi)) (js:List (Int × Int)):cP (Oq S js) (2 * js.length) (2 * js.length):=cP.tab
theorem Rx {x y:Nat} (hx:x < 2 * js.length) (hy:y < 2 * js.length):gm (Oq S js) x y = gm (lW S (cC js) (2 * js.length)) y x:=by
 have e1:gm (Oq S js) x y = Ie x y - gm S (gq (cC js) (gC y)) (gq (cC js) x):=jE hx hy
 have e2:gm (lW S (cC js) (2 * js.length)) y x = (if y = x then Qi.ofInt 1 else Qi.ofInt 0) - gm S (gq (cC js) (gC y)) (gq (cC js) x):=jE hy hx
 rw [e1,e2,Ie]
 by_cases c:x = y
 ·rw [if_pos c,if_pos c.symm]
 ·rw [if_neg c,if_neg (Ne.symm c)]
theorem a3p {M:List (List Qi)} {n:Nat} (h:cP M n n) (hk:∀ b,kO M b n = 0):Rv M n = 0:=gS fun k _=>hk _
theorem a2E {M : List (List Qi)} {n : Nat} (h : cP M n n) (hE : Rv M n = 0) (hn : 1 ≤ n) : ∀ b, kO M b n = 0 := fun b => by
 have h0:=(uA h).1 (On hE 0 zo)
 exact (uA h).2 h0
theorem a2F {M:List (List Qi)} {n:Nat} {b:List Qi} (h:cP M n n) (hb:kO M b n = 0):∀ b,kO M b n = 0:=fun _=>(uA h).2 ((uA h).1 hb)
theorem Fi (hk:∀ b,kO (lW S (cC js) (2 * js.length)) b (2 * js.length) = 0) (hn:1 ≤ 2 * js.length):∀ b,kO (Oq S js) b (2 * js.length) = 0:=by
 have hM:=jW S (cC js) (2 * js.length)
 have hE:=a3p hM hk
 have l:=a70 hM hE
 refine a2E (rN S js) (a4a (Y:=tab (2 * js.length) fun x=>tab (2 * js.length) fun y=>gm (Ol (lW S (cC js) (2 * js.length)) (2 * js.length)) y x) (rN S js) cP.tab ?_) hn
 refine lX qO (Lh _) fun i hi j hj=>?_
 have e:gm (nA (Ol (lW S (cC js) (2 * js.length)) (2 * js.length)) (lW S (cC js) (2 * js.length)) (2 * js.length) (2 * js.length) (2 * js.length)) j i = gm (Df (2 * js.length)) j i:=by rw [l]
 rw [sC hj hi,Jc hj hi] at e
 rw [sC hi hj,Jc hi hj]
 have e2 : aE (2 * js.length) (fun t => gm (Oq S js) i t * gm (tab (2 * js.length) fun x => tab (2 * js.length) fun y => gm (Ol (lW S (cC js) (2 * js.length)) (2 * js.length)) y x) t j) = aE (2 * js.length) fun t => gm (Ol (lW S (cC js) (2 * js.length)) (2 * js.length)) j t * gm (lW S (cC js) (2 * js.length)) t i := aD fun t ht => by
  rw [Rx hi ht,jE ht hj,Qi.mul_comm']
 rw [e2,e]
 by_cases c:i = j
 ·rw [if_pos c,if_pos c.symm]
 ·rw [if_neg c,if_neg (Ne.symm c)]
theorem a5R (hk:∀ b,kO (lW S (cC js) (2 * js.length)) b (2 * js.length) = 0) {i x:Nat} (hx:x < 2 * js.length):gv (Fg S js i) x = aE (2 * js.length) fun y=>gm S i (gq (cC js) y) * gv (gnV S js x) y:=by
 have hM:=jW S (cC js) (2 * js.length)
 have hT:=(kQ (rN S js) (Fi hk zo (Yn S js i))).1
 have hV:=(kQ hM (hk (ek (2 * js.length) x))).1
 have e1 : aE (2 * js.length) (fun y => gm S i (gq (cC js) y) * gv (gnV S js x) y) = aE (2 * js.length) fun y => aE (2 * js.length) fun w => gm (lW S (cC js) (2 * js.length)) w y * gv (Fg S js i) w * gv (gnV S js x) y := aD fun y hy => by
  have h:=hT y hy
  rw [show gv (Yn S js i) y = gm S i (gq (cC js) y) from kU hy] at h
  rw [← h,← jC]
  exact aD fun w hw=>by rw [Rx hy hw]; rfl
 have e2 : aE (2 * js.length) (fun w => aE (2 * js.length) fun y => gm (lW S (cC js) (2 * js.length)) w y * gv (Fg S js i) w * gv (gnV S js x) y) = aE (2 * js.length) fun w => gv (Fg S js i) w * gv (ek (2 * js.length) x) w := aD fun w hw => by
  have h:=hV w hw
  rw [show gv (ek (2 * js.length) x) w = aE (2 * js.length) (fun k=>gm (lW S (cC js) (2 * js.length)) w k * gv (gnV S js x) k) from h.symm,Qi.mul_comm',← jC]
  exact aD fun y _=>by grind
 rw [e1,jH,e2,fA hx (fun k hkk hne=>by rw [a13 hkk hx,if_neg hne]; grind),a13 hx hx,if_pos rfl]; grind
theorem a5N {l:List Nat} {x:Nat} (hx:x < l.length) (hinj:∀ a b,a < l.length → b < l.length → l.getD a 0 = l.getD b 0 → a = b):Ff l (l.getD x 0) = (x:Int):=by
 have hm:0 ≤ Ff l (l.getD x 0):=Vn.2 (by rw [show l.getD x 0 = l[x] by simp [List.getD,hx]]; exact List.getElem_mem hx)
 rcases Vm l (l.getD x 0) with h | ⟨h1,h2,h3⟩
 ·omega
 ·have:=hinj _ _ h2 hx h3; omega
theorem Ll {x:Nat} (hx:x < 2 * js.length):(wK js).getD x 0 = gq (cC js) (gC x):=by rw [wK,vS hx]
theorem a1q (hj:Jn (cC js) N js.length) {x:Nat} (hx:x < 2 * js.length):Ff (wK js) (gq (cC js) (gC x)) = (x:Int):=by
 have hl:(wK js).length = 2 * js.length:=aC _ _
 rw [← Ll hx]
 refine a5N zo fun a b ha hb e=>?_
 rw [Ll zo,Ll zo] at e
 have:=hj.inj _ _ (kW (show a < 2 * js.length by omega)) (kW (show b < 2 * js.length by omega)) e
 have e2:=congrArg gC this
 rwa [tW,tW] at e2
def uI (S:List (List Qi)) (js:List (Int × Int)) (N i y:Nat):List Qi:=tab N fun k=>if 0 ≤ Ff (wK js) k ∧ (Ff (wK js) k).toNat < y then mJ S js i k else Zr i k
theorem Su {i:Nat} (hi:i < N):(tab N fun _=>Qi.zero).set i (Qi.ofInt 1) = uI S js N i 0:=by
 refine List.ext_getElem (by rw [List.length_set,aC,uI,aC]) fun k h1 h2=>?_
 rw [List.length_set,aC] at h1
 rw [List.getElem_set]
 have e:(uI S js N i 0)[k] = Zr i k:=by simp [uI,tab]
 rw [e,Zr]
 by_cases c:i = k
 ·rw [if_pos c,if_pos c.symm]
 ·rw [if_neg c,if_neg (Ne.symm c)]; simp [tab]; rfl
theorem a27 (S : List (List Qi)) (js : List (Int × Int)) (N i : Nat) : uI S js N i (2 * js.length) = tab N fun k => mJ S js i k := eH fun k _ => by
 have hl:(wK js).length = 2 * js.length:=aC _ _
 rcases Vm (wK js) k with h | ⟨h1,h2,_⟩
 ·rw [if_neg zo,mJ,if_neg zo]
 ·rw [if_pos ⟨h1,by omega⟩]
theorem a29 (hj:Jn (cC js) N js.length) {i y:Nat} (hy:y < 2 * js.length):(uI S js N i y).set (gq (cC js) (gC y)) (mJ S js i (gq (cC js) (gC y))) = uI S js N i (y + 1):=by
 have hix:=a1q hj hy
 have hlt:=hj.lt (gC y) (kW hy)
 have hl:(wK js).length = 2 * js.length:=aC _ _
 refine List.ext_getElem (by rw [List.length_set,uI,uI,aC,aC]) fun k h1 h2=>?_
 have hk:k < N:=by rw [uI,aC] at h2; exact h2
 rw [List.getElem_set]
 have e1:(uI S js N i (y + 1))[k] = if 0 ≤ Ff (wK js) k ∧ (Ff (wK js) k).toNat < y + 1 then mJ S js i k else Zr i k:=by simp [uI,tab]
 have e0:(uI S js N i y)[k]'(by rw [uI,aC]; exact hk) = if 0 ≤ Ff (wK js) k ∧ (Ff (wK js) k).toNat < y then mJ S js i k else Zr i k:=by simp [uI,tab]
 by_cases c:gq (cC js) (gC y) = k
 ·rw [if_pos c,e1,← c,hix,if_pos ⟨by omega,by omega⟩]
 ·rw [if_neg c, e1, e0]
  have hne : ¬ (Ff (wK js) k = (y : Int)) := fun e => by
   rcases Vm (wK js) k with h | ⟨q1,q2,q3⟩
   ·omega
   ·rw [e,Int.toNat_natCast,Ll hy] at q3; exact c q3
  by_cases d:0 ≤ Ff (wK js) k ∧ (Ff (wK js) k).toNat < y
  ·rw [if_pos d,if_pos ⟨d.1,by omega⟩]
  ·rw [if_neg d,if_neg fun h=>d ⟨h.1,by omega⟩]
theorem Vf (hj:Jn (cC js) N js.length) (hk:∀ b,kO (lW S (cC js) (2 * js.length)) b (2 * js.length) = 0) {i y:Nat} (hi:i ∉ iM js) (hy:y < 2 * js.length):mJ S js i (gq (cC js) (gC y)) = gv (Fg S js i) y:=by
 have hne:gq (cC js) (gC y) ≠ i:=fun e=>hi (rM.2 ⟨gC y,kW hy,e⟩)
 rw [mJ,a1q hj hy,if_pos zo,Int.toNat_natCast,Zr,if_neg hne,a5R hk hy]
 rw [show Qi.ofInt 0 = (0:Qi) from rfl]; grind
def pN (z:List Qi) (S c:List (List Qi)) (js:List (Int × Int)):List (List Qi):=cD (kE z S js) (kB (pJ S js z.length) c)
theorem Lg (hf : bB S 2) (hj : 2 * js.length ≤ 6) (hk : ∀ b, kO (lW S (cC js) (2 * js.length)) b (2 * js.length) = 0) (x : Nat) : cH (gnV S js x) 7082 :=
 Gw (m:=6) (K:=1770) (L:=4) (jW _ _ _) (tR hf (by decide)) (a12 (by decide)) (by decide) hj (Jb hj) (by decide) (hk _)
theorem jN (hE:kE z S js = 0) (hl:z.length ≤ 8):Bo z js = 0 ∧ 2 * js.length ≤ 6 ∧ (∀ b,kO (lW S (cC js) (2 * js.length)) b (2 * js.length) = 0) ∧ (js.length ≠ 0 → 2 * js.length ≠ z.length):=by
 have hd : Bo z js = 0 := by
  apply Classical.byContradiction; intro h
  rw [kE,if_pos h] at hE; exact h hE
 have hle:=Je hd
 have h2 : js.length ≠ 0 → 2 * js.length ≠ z.length := fun h0 h2 => by
  rw [kE,if_neg (fun k=>k hd),if_neg h0,if_pos h2] at hE; omega
 refine ⟨hd,by omega,?_,h2⟩
 by_cases h0:js.length = 0
 ·intro b
  exact (uA (jW _ _ _)).2 fun y _ k hk=>by omega
 ·have h3 := h2 h0
  rw [kE,if_neg (fun k=>k hd),if_neg h0,if_neg h3] at hE
  have hs : Af z S js = 0 := by
   apply Classical.byContradiction; intro h
   rw [if_neg h] at hE; omega
  have hp:=a1k hd h3
  exact a2F (jW _ _ _) (gH hs 0 zo)
theorem Lf (hc:cP c N N):kB (pJ S [] N) c = c:=by
 have hl:(pJ S [] N).length = N:=by rw [pJ,List.length_map,show iM [] = [] from rfl,yT,aC]
 have hcl:=hc.1
 have hg : ∀ a k, a < N → k < N → gm (pJ S [] N) a k = if k = a then 1 else 0 := fun a k ha hk => by
  have hq:cB (dO (iM []) N) a = a:=by rw [show iM [] = [] from rfl,yT]; exact vS ha
  rw [pJ,a1b (by rw [show iM [] = [] from rfl,yT,aC]; exact ha),kU hk,hq,mJ,show wK [] = [] from rfl,show Ff [] k = -1 from rfl,if_neg (by decide),Zr]; rfl
 refine lX (by have h:=lF (p:=pJ S [] N) (c:=c); rw [hl] at h; exact h) hc fun a ha b hb=>?_
 rw [kB,jE zo zo,a5y,hcl]
 have e : aE N (fun x => aE N fun y => Kw (pJ S [] N) c a b x y) = aE N fun x => (if x = a then 1 else 0) * gm c x b := aD fun x hx => by
  rw [fA hb (fun y hy hne=>by rw [Kw,hg b y hb hy,if_neg hne]; show _ * Qi.conj 0 = 0; rw [show Qi.conj 0 = 0 from rfl]; grind),Kw,hg a x ha hx,hg b b hb hb,if_pos rfl,show Qi.conj 1 = 1 from rfl]; grind
 rw [e,fA ha (fun x _ hne=>by rw [if_neg hne]; grind),if_pos rfl]; grind
end
end
section
open Go Go.RowKit
section
variable {P:Program} {R:iO} {cx:Cx} {n:Nat} {k:List It} {E:dB} {H:Hp}
theorem HH.two {base:Nat} {w:World} {V:bE} {Z:SA} {X:Hp} (h:HH base w V (Z :: X)):HH base w V [Z,iE (SA.emp :: X)]:=by
 have h1:HH base w V ((Z :: X).set 0 SA.emp ++ [Z]):=h.last rfl
 have h2:HH base w V (iE (SA.emp :: X) :: [Z]):=HH.repack h1
 exact h2.pick (is:=[1,0]) ⟨⟨_,rfl,fun _ _ _ h=>h⟩,⟨_,rfl,fun _ _ _ h=>h⟩,trivial⟩ (by decide)
theorem iI.pack {f : FuncId} {Ts : List Ty} {γ : Type} {U : γ → Ty} {X : γ → Hp} {Q : γ → Prop} (h : iI P f Ts [] γ U X Q) : iI P f Ts [] γ U (fun x => [iE (SA.emp :: X x)]) Q :=
 fun cx Z vs V w h1 h2=>(h cx Z vs V w h1 h2).mono fun e w' ⟨v,V',x,a,b,c,d,e'⟩=>⟨v,V',x,a,b,c.withHH c.hp.two,d,e'⟩
end
namespace W
variable {P:Program} {R:iO} {cx:Cx} {n:Nat} {k:List It} {E:dB} {H:Hp} {Hf:Bool → Hp} {p:Nat}
end W
end
section
open Go Go.RowKit
section
variable {P:Program} {n:Nat} {E:dB} {H:Hp}
variable {d:Option Tmp} {t:TypeId} {pos:String} {af:Array Edge} {g:Option (Nat × Bool)}
theorem yZ {x i : Operand} {B o q r s : Nat} {kd : IntKind} {j : Int} {e : TypeId} {len : Nat} (hU : ∀ w, (underlying t).run P w = .ok (.array len e) w) (hS : ∀ w, (sizeOf e).run P w = .ok s w)
  (hx:bH E x (bF B o)) (hi:bH E i (aL kd j)) (hj:j = (q:Int)) (hl:q < len) (hr:o + q * s = r) {t':TypeId}:aI P n E H ⟨d,.indexAddr t x i,t',pos,af,g⟩ (bF B r) :=
 eT fun a V w hs => by
  have e1:a.eval x = .pointer (some ⟨B,o,none⟩):=hx n V a hs
  have ei:a.eval i = .int kd j:=hi n V a hs
  subst hj hr
  exact ⟨.pointer (some ⟨B,o + q * s,none⟩),by simp [execOp,e1,ei,Instr.indexAt,Instr.sureAddr,asIntOf,Sem.run_bind,hU,hS,Result.andThen,hl,gR],rfl⟩
end
end
section
open Go Go.RowKit
theorem a1i (O:List Nat):((O.map fun (q:Nat)=>(q:Int)).map (aL .i64)) = O.map (NT .i64):=by rw [List.map_map]; rfl
theorem Xu {l:List Nat} {i:Nat} (hl:l.length ≤ 1000):bL Tryz.prog 95 [fN l,NT .i64 i] (aH (decide (i ∈ l))):=by
 have h:=sA (l:=l.map fun (q:Nat)=>(q:Int)) (v:=(i:Int)) (by rw [List.length_map]; omega)
 rw [a1i] at h
 refine h.imp (dN ?_)
 rw [Bool.eq_iff_iff,List.any_map,List.any_eq_true,decide_eq_true_eq]
 constructor
 ·rintro ⟨x, hx, e⟩; simp at e; obtain rfl : i = x := by omega
  exact hx
 ·intro hx; exact ⟨i,hx,by simp⟩
theorem hgN {n:Nat} (hn:n ≤ 8):∀ k,2 * k < n → 6 * eD (2 + 2) (2 * k) + 4 ≤ 17592186044415:=fun k hk=>Nat.le_trans (Nat.add_le_add_right (Nat.mul_le_mul_left 6 (mV _ (show 2 * k ≤ 7 by omega))) 4) (by decide)
theorem hxN {n:Nat} (hn:n ≤ 8):∀ k,2 * k < n → rX (eD (2 + 2) (2 * k)) (2 * k + 1) ≤ 100000000000:=fun k hk=>Nat.le_trans (Nat.le_trans (wT (mV _ (show 2 * k ≤ 6 by omega)) _) (vT _ (show 2 * k + 1 ≤ 7 by omega))) (by decide)
theorem a1f (n : Nat) : Df n = tab n fun x => tab n fun y => Ie x y := lX (Lh n) cP.tab fun i hi j hj => by
 rw [wS hi hj,jE hi hj]; rfl
theorem a28 (S:List (List Qi)) (js:List (Int × Int)) (N i y:Nat):(uI S js N i y).length = N:=aC _ _
theorem Nh {z:List Qi} {s c:List (List Qi)} {js:List (Int × Int)} {L G:Nat} (hz:cH z L) (hs:bB s L) (hL1:1 ≤ L) (hLb:L ≤ 1000) (hcf:bB c G) (hG1:1 ≤ G) (hGb:G ≤ 1000000000) (hgP:kE z s js = 0 → bB (pJ s js z.length) G) (hsh:cP s z.length z.length) (hch:cP c z.length z.length) (hl:z.length ≤ 8) (hjl:js.length ≤ 100) (hg:∀ k,2 * k < z.length → 6 * eD (L + 2) (2 * k) + 4 ≤ 17592186044415) (hxr:∀ k,2 * k < z.length → rX (eD (L + 2) (2 * k)) (2 * k + 1) ≤ 100000000000):bL Tryz.prog 18 [eR z s c,Qr js] (fS [eR (jZ z s js) (jT z s js) (pN z s c js),aL .i64 (kE z s js)]):=by
 have hsl:=hsh.1
 have hJ:=a0m (z:=z) (S:=s) (js:=js) (L:=L) hsh hs hz hL1 hLb zo hjl hg hxr
 refine bL.intro Tryz.func18 rfl Tryz.ntmps18 rfl (fun cx=>(ts (rn rfl (fK (Ht rfl)) fun B2=>(rn rfl (eG (Ts:=[Is (.slice none 0 0),Is (.slice none 0 0),Is (.slice none 0 0)]) O_34 rfl (fun V=>aW zd (aW zd (aW zd (aG))))) fun B4=>(ro rfl (cX (cV 0)) (eZ (ts (ro rfl (eJ oJ (Ht rfl) rfl) (ro rfl (eW A_32 Z_32 (Ht rfl) (i:=0) rfl rfl rfl) (rm rfl (ro rfl (cJ Tryz.call31 hJ ⟨(Ht rfl),(Ht rfl),trivial⟩) (rm rfl (ro rfl (dU (Ht rfl) rfl) ?_)))))))))))))
 refine ro rfl (dU (Ht rfl) rfl) (rn rfl (eG (Ts:=[Is (.slice none 0 0),Is (.slice none 0 0)]) O_32 rfl (fun V=>aW zd (aW zd (aG)))) fun B6=>(gX Z_32 (Ht rfl) (Ht rfl) rfl (i:=2) rfl (aK rfl) rfl rfl (ra rfl (eZ (cU (ts (rm rfl (ro rfl (gD (Ht rfl) cW) (eZ (dX (Ht rfl) (fun hb=>?_) (fun hb=>?_)))))))))))
 ·have he : kE z s js ≠ 0 := by simpa using hb
  refine ts (ro rfl (aI.imp (vX ) pW) (rm rfl (gX Z_34 (Ht rfl) (Ht rfl) rfl (i:=1) rfl (aK rfl) rfl rfl (ra rfl (eZ (bR rfl (fZ (fU A_34 Z_34 rfl (i:=1) rfl rfl) ?_) (eY rfl)))))))
  exact (fun v V h=>by rw [jZ,jT,pN,cD,cD,cD,if_neg he,if_neg he,if_neg he]; exact h)
 ·have he : kE z s js = 0 := by simpa using hb
  refine cY (cU (ts (rm rfl (ro rfl (dK U_26 (Ht rfl) aA) (ro rfl (dP (Ht rfl) (cV 0)) (eZ (dX (Ht rfl) (fun hb2=>?_) (fun hb2=>?_))))))))
  ·obtain rfl : js = [] := List.length_eq_zero_iff.1 (by simpa using hb2)
   refine ts (ro rfl (eW A_34 Z_34 (Ht rfl) (i:=0) rfl rfl rfl) (gX Z_34 (Ht rfl) (Ht rfl) rfl (i:=1) rfl (aK rfl) rfl rfl (ro rfl (cX (cV 0)) (eZ (bR rfl (fZ (fU A_34 Z_34 rfl (i:=1) rfl rfl) ?_) (fZ (eY rfl) ?_))))))
   ·exact (fun v V h=>by rw [jZ,jT,pN,cD,cD,cD,if_pos he,if_pos he,if_pos he,if_pos (show ([]:List (Int × Int)).length = 0 from rfl),if_pos (show ([]:List (Int × Int)).length = 0 from rfl),Lf hch]; exact h)
   ·exact (aO he.symm)
  ·have hK : js.length ≠ 0 := by simpa using hb2
   obtain ⟨hd,hj6,hk,hne⟩:=jN he hl
   have hne2:=hne hK
   have hp:=Rw hd
   have hj:=rO hd
   have hPl:(Zs js).length = 2 * js.length:=aC _ _
   have hOl:(wK js).length = 2 * js.length:=aC _ _
   have hle:=Je hd
   have hpos:=a1k hd hne2
   have hFl:(eE z js).length ≤ z.length:=wL _ _
   refine cY (ts (ro rfl (cX cW) (ro rfl (cX cW) (eZ (cU (cU (rC 3 1 (rC 3 1 (dQ (rm rfl (ro rfl (dK U_26 (Ht rfl) aA) (ro rfl (cZ (cV 0)) (eZ (eK ?_))))))))))))))
   refine kG (fun (k : Nat) (vL : Value) (vO : Value) => k ≤ js.length) (fun (k : Nat) (vL : Value) (vO : Value) => js.length - k) (fun (k : Nat) (vL : Value) (vO : Value) => [(2, bF B2 0), (4, bF B4 0), (6, bF B6 0), (8, Is vL), (9, Is vO), (41, Qr js), (42, NT .i64 js.length), (43, NT .i64 k)]) (fun (k : Nat) (vL : Value) (vO : Value) => [box B2 34 [aR z, bM s, bM c], box B4 34 [Is (.slice none 0 0), Is (.slice none 0 0), Is (.slice none 0 0)], box B6 32 [aR (jZ z s js), bM (jT z s js)], bN 3 1 vL ((tab (2 * k) (gq (cC js))).map (NT .i64)), bN 3 1 vO ((tab (2 * k) (fun x => gq (cC js) (gC x))).map (NT .i64))]) 0 _ _ (Nat.zero_le _)
    (zS rfl) (aU (aB rfl) (aU (aB rfl) (aU (aB rfl) (aU (aN rfl) (aU (aN rfl) aY))))) (fun k vL vO hk0=>?_)
   refine ts (ro rfl (gZ (Ht rfl) (Ht rfl)) (eZ (cU (dX (Ht rfl) (fun hc=>?_) (fun hc=>?_)))))
   ·have hkn : k < js.length := by simp only [decide_eq_true_eq] at hc; omega
    obtain ⟨i1,i2,i3,i4,i5,i6⟩:=a5S hp hkn
    obtain ⟨o1,o2⟩:=a45 k
    have ht1:=aC (2 * k) (gq (cC js))
    have ht2:=aC (2 * k) (fun x=>gq (cC js) (gC x))
    refine cY (cU (eK (ts (ro rfl (dJ U_26 Z_71 (Ht rfl) (Ht rfl) rfl (eQ (dY (d:=(0,0)) hkn))) (ro rfl (dV Tryz.isAgg71 Z_71 (Ht rfl)) (rn rfl (eG (Ts:=[Is (.int .i64 0),Is (.int .i64 0)]) O_71 rfl (fun V=>aW zd (aW zd (aG)))) fun B11=>(gX Z_71 (Ht rfl) (Ht rfl) rfl (i:=5) rfl (aK rfl) rfl rfl (eZ (Y.D_startA (m:=17) [] 8 3 rfl rfl (cQ (Ei:=[(8,_)]) rfl rfl (bQ (bJ rfl rfl) bX) rfl rfl (dZ rfl (cZ (Ht rfl))) ?_))))))))))
    refine cQ (Ei:=[(11,_)]) rfl rfl (bQ (bJ rfl rfl) bX) rfl rfl (dZ rfl (yZ U_71 Z_3 (Ht rfl) (cV 0) rfl (by decide) rfl)) (cQ (Ei:=[(48,_)]) rfl rfl (bQ (bZ 1 rfl rfl) bX) rfl rfl (dZ rfl (fQ A_3 Z_3 (Ht rfl) (i:=5) rfl rfl)) (cQ (Ei:=[(49,_)]) rfl rfl (bQ (bZ 2 rfl rfl) bX) rfl rfl (dZ rfl (gE (Ht rfl) cW (r:=((gq (cC js) (2 * k):Nat):Int)) ((yA (z:=(kD js k).1 - 1) zo).trans zo))) ?_))
    refine cQ (Ei:=[(11,_)]) rfl rfl (bQ (bJ rfl rfl) bX) rfl rfl (dZ rfl (yZ U_71 Z_3 (Ht rfl) (cV 1) rfl (by decide) rfl)) (cQ (Ei:=[(51,_)]) rfl rfl (bQ (bZ 4 rfl rfl) bX) rfl rfl (dZ rfl (fQ A_3 Z_3 (Ht rfl) (i:=5) rfl rfl)) (cQ (Ei:=[(52,_)]) rfl rfl (bQ (bZ 5 rfl rfl) bX) rfl rfl (dZ rfl (gE (Ht rfl) cW (r:=((gq (cC js) (2 * k + 1):Nat):Int)) ((yA (z:=(kD js k).2 - 1) zo).trans zo))) ?_))
    refine cQ (Ei:=[(50,_),(53,_)]) rfl rfl (bQ (bZ 3 rfl rfl) (bQ (bZ 6 rfl rfl) bX)) rfl rfl (dZ rfl (cA (xs:=[.tmp 50,.tmp 53]) U_72 Z_3 O_3 (cG (Ht rfl) (cG (Ht rfl) cK)) rfl rfl rfl)) (Y.D_app (Ei:=[(47,_),(54,_)]) rfl rfl rfl rfl (bQ (bZ 0 rfl rfl) (bQ (bZ 7 rfl rfl) bX)) rfl (qA (inf:=Tryz.t3) Hi Fe rfl rfl rfl (Ht rfl) (Ht rfl) (by simp) (fun T hT=>by simp at hT; rcases hT with rfl | rfl <;> exact El.one) (by show _ * 8 ≤ _; simp only [List.length_map,List.length_append,List.length_cons,List.length_nil,aC]; omega) (by simp only [List.length_map,List.length_append,List.length_cons,List.length_nil,aC]; omega)) ?_)
    refine cQ (Ei:=[(9,_)]) rfl rfl (bQ (bJ rfl rfl) bX) rfl rfl (dZ rfl (cZ (Ht rfl))) (cQ (Ei:=[(11,_)]) rfl rfl (bQ (bJ rfl rfl) bX) rfl rfl (dZ rfl (yZ U_71 Z_3 (Ht rfl) (cV 1) rfl (by decide) rfl)) (cQ (Ei:=[(57,_)]) rfl rfl (bQ (bZ 10 rfl rfl) bX) rfl rfl (dZ rfl (fQ A_3 Z_3 (Ht rfl) (i:=5) rfl rfl)) (cQ (Ei:=[(58,_)]) rfl rfl (bQ (bZ 11 rfl rfl) bX) rfl rfl (dZ rfl (gE (Ht rfl) cW (r:=((gq (cC js) (2 * k + 1):Nat):Int)) ((yA (z:=(kD js k).2 - 1) zo).trans zo))) ?_)))
    refine cQ (Ei:=[(11,_)]) rfl rfl (bQ (bJ rfl rfl) bX) rfl rfl (dZ rfl (yZ U_71 Z_3 (Ht rfl) (cV 0) rfl (by decide) rfl)) (cQ (Ei:=[(60,_)]) rfl rfl (bQ (bZ 13 rfl rfl) bX) rfl rfl (dZ rfl (fQ A_3 Z_3 (Ht rfl) (i:=5) rfl rfl)) (cQ (Ei:=[(61,_)]) rfl rfl (bQ (bZ 14 rfl rfl) bX) rfl rfl (dZ rfl (gE (Ht rfl) cW (r:=((gq (cC js) (2 * k):Nat):Int)) ((yA (z:=(kD js k).1 - 1) zo).trans zo))) ?_))
    refine cQ (Ei:=[(59,_),(62,_)]) rfl rfl (bQ (bZ 12 rfl rfl) (bQ (bZ 15 rfl rfl) bX)) rfl rfl (dZ rfl (cA (xs:=[.tmp 59,.tmp 62]) U_72 Z_3 O_3 (cG (Ht rfl) (cG (Ht rfl) cK)) rfl rfl rfl)) (Y.D_done bA rfl (by kernel_rfl) rfl (by simp [Y.okP]) rfl rfl (bU (bU (bU (bU (bU (bU (bU (bU (Y.F_app (fun v2=>bU (bU (bU (bU (bU (bU (bU (bU (Y.F_nil ?_)))))))))))))))))))
    refine lC (inf:=Tryz.t3) Hi Fe rfl rfl rfl (Ht rfl) (Ht rfl) (i:=4) rfl (by simp) (fun T hT=>by simp at hT; rcases hT with rfl | rfl <;> exact El.one) (by show _ * 8 ≤ _; simp only [List.length_map,List.length_append,List.length_cons,List.length_nil,aC]; omega) (by simp only [List.length_map,List.length_append,List.length_cons,List.length_nil,aC]; omega) rfl (fun v3=>?_)
    refine ra rfl (ra rfl (eZ (aT (dQ (ro rfl (dW (Ht rfl) (cV 1) z6) (rm rfl (eZ (bI [0,1,2,6,4] rfl (by decide) (fY (k + 1,v2,v3) hkn (by dsimp only; omega) (zS rfl) (aU (aB rfl) (aU (aB rfl) (aU (aB rfl) (aU (aN (by rw [Xj,List.map_append]; rfl)) (aU (aN (by rw [Xj,List.map_append,o1,o2]; rfl)) aY))))))))))))))
   ·obtain rfl : k = js.length := by simp only [decide_eq_false_iff_not] at hc; omega
    refine gW rfl (gV (i:=3) (tt:=8) rfl rfl gK (gV (i:=4) (tt:=9) rfl rfl gK (sK (E':=[(2,_),(4,_),(6,_),(8,_),(9,_),(41,_),(42,_),(43,_),(44,_)]) (aQ rfl (aQ rfl (aQ rfl (aZ rfl (mB (Us:=(Zs js).map (NT .i64)) rfl) (aZ rfl (mB (Us:=(wK js).map (NT .i64)) rfl) (zS rfl)))))) (ts (ro rfl (eJ oJ (Ht rfl) rfl) (ro rfl (eW A_32 Z_32 (Ht rfl) (i:=0) rfl rfl rfl) (ro rfl (cJ Tryz.call93 (Kt hsh hl) ⟨(Ht rfl),trivial⟩) ?_)))))))
    refine ra rfl (eZ (ts (rm rfl (ro rfl (dK U_72 (Ht rfl) (by rw [List.length_map,hPl])) ?_))))
    refine kZ Tryz.call94 (a6L (n:=2 * js.length) zo) ⟨(Ht rfl),trivial⟩ rfl (fun B71 _=>(ra rfl (eZ (cU (ts (rm rfl (ro rfl (dK U_72 (Ht rfl) (by rw [List.length_map,hPl])) ?_)))))))
    refine ro rfl (cZ (cV 0)) (eZ (eK (bI [0,1,2,5] rfl (by decide) ?_)))
    refine bP (fun (x : Nat) => x ≤ (2 * js.length)) (fun (x : Nat) => (2 * js.length) - x) (fun (x : Nat) => [(2, bF B2 0), (4, bF B4 0), (6, bF B6 0), (8, fN (Zs js)), (9, fN (wK js)), (12, bM s), (13, Is (.slice (some ⟨B71, 0, none⟩) (2 * js.length) (2 * js.length))), (73, NT .i64 (2 * js.length)), (74, NT .i64 x)]) (fun (x : Nat) => [box B2 34 [aR z, bM s, bM c], box B4 34 [Is (.slice none 0 0), Is (.slice none 0 0), Is (.slice none 0 0)], box B6 32 [aR (jZ z s js), bM (jT z s js)], kK eM B71 29 51 5 (bS aF (lB (fun x => tab (2 * js.length) (fun y => Ie x y - gm s (gq (cC js) (gC y)) (gq (cC js) x))) (fun x => tab (2 * js.length) (fun y => Ie x y)) (2 * js.length) x))]) 0 (Nat.zero_le _)
     (zS rfl) (aU (aB rfl) (aU (aB rfl) (aU (aB rfl) (aU (bD (by rw [← kA,a1f])) aY)))) (fun x hx=>?_)
    refine ts (ro rfl (gZ (Ht rfl) (Ht rfl)) (eZ (cU (dX (Ht rfl) (fun hc=>?_) (fun hc=>?_)))))
    ·have hxn : x < 2 * js.length := by simp only [decide_eq_true_eq] at hc; omega
     refine iS 3 (x) rfl (sV hxn) (fun v0 hv0=>(cY (cU (eK (ts (rm rfl (ra rfl (eZ (ts (rm rfl (ro rfl (dK U_72 (Ht rfl) (by rw [List.length_map,hPl])) ?_)))))))))))
     refine ro rfl (cZ (cV 0)) (eZ (eK ?_))
     refine bP (fun (y : Nat) => y ≤ (2 * js.length)) (fun (y : Nat) => (2 * js.length) - y) (fun (y : Nat) => [(2, bF B2 0), (4, bF B4 0), (6, bF B6 0), (8, fN (Zs js)), (9, fN (wK js)), (12, bM s), (13, Is (.slice (some ⟨B71, 0, none⟩) (2 * js.length) (2 * js.length))), (14, NT .i64 x), (73, NT .i64 (2 * js.length)), (74, NT .i64 x), (78, NT .i64 (2 * js.length)), (79, NT .i64 y)]) (fun (y : Nat) => [box B2 34 [aR z, bM s, bM c], box B4 34 [Is (.slice none 0 0), Is (.slice none 0 0), Is (.slice none 0 0)], box B6 32 [aR (jZ z s js), bM (jT z s js)], qN eM B71 29 51 5 (bS aF (lB (fun x => tab (2 * js.length) (fun y => Ie x y - gm s (gq (cC js) (gC y)) (gq (cC js) x))) (fun x => tab (2 * js.length) (fun y => Ie x y)) (2 * js.length) x)) x v0, bN 51 5 v0 ((lB (fun y => Ie x y - gm s (gq (cC js) (gC y)) (gq (cC js) x)) (fun y => Ie x y) (2 * js.length) y).map aF)]) 0 (Nat.zero_le _)
      (zS rfl) (aU (aB rfl) (aU (aB rfl) (aU (aB rfl) (aU (fun _ _ _ h=>h) (aU (aN (by rw [← kA])) aY))))) (fun y hy=>?_)
     refine ts (ro rfl (gZ (Ht rfl) (Ht rfl)) (eZ (cU (dX (Ht rfl) (fun hd2=>?_) (fun hd2=>?_)))))
     ·have hyn : y < 2 * js.length := by simp only [decide_eq_true_eq] at hd2; omega
      have hb1:=hj.lt (gC y) (kW hyn)
      have hb2:=hj.lt x hxn
      have hsr:=hsh.row hb1
      have hrl:=jL (fun y=>Ie x y - gm s (gq (cC js) (gC y)) (gq (cC js) x)) (fun y=>Ie x y) (2 * js.length) y
      haveI g1:=Wx x y
      haveI g2:aM (gm s (gq (cC js) (gC y)) (gq (cC js) x)) L:=hs.get hL1 _ _
      refine cY (cU (eK (ts (rm rfl (ra rfl (eZ (fJ (m:=27) (dp 13 rfl (cZ (Ht rfl)) (dp 14 rfl (cZ (Ht rfl)) (dT 82 0 83 1 rfl (gQ U_30 Z_29 (Ht rfl) (Ht rfl) rfl zo (by rw [Nat.mul_one,Nat.zero_add])) ?_))))))))))
      refine dq 84 2 rfl (gM A_29 Z_29 (Ht rfl) (j:=3) rfl) (dp 15 rfl (cZ (Ht rfl)) (dp 13 rfl (cZ (Ht rfl)) (dp 14 rfl (cZ (Ht rfl)) (dT 87 5 88 6 rfl (gQ U_30 Z_29 (Ht rfl) (Ht rfl) rfl zo (by rw [Nat.mul_one,Nat.zero_add])) ?_))))
      refine dq 89 7 rfl (gM A_29 Z_29 (Ht rfl) (j:=3) rfl) (dp 15 rfl (cZ (Ht rfl)) (dT 90 8 91 9 rfl (cR U_29 Z_51 (Ht rfl) (Ht rfl) rfl (i:=4) rfl (by rw [List.length_map,hrl]; exact hyn) rfl) ?_))
      refine dq 92 10 rfl (sD A_51 Z_51 (Ht rfl) (i:=4) rfl rfl (eQ (sX hyn))) (dq 93 11 rfl (cO eA (Ht rfl)) (dp 12 rfl (cZ (Ht rfl)) (dp 9 rfl (cZ (Ht rfl)) (dp 15 rfl (cZ (Ht rfl)) (dT 96 14 97 15 rfl (dJ U_72 Z_3 (Ht rfl) (Ht rfl) rfl (eQ (show (wK js)[y]? = some (gq (cC js) (gC y)) from dH hyn))) (dq 98 16 rfl (dV A_3 Z_3 (Ht rfl)) (dT 95 13 99 17 rfl (dJ U_30 Z_29 (Ht rfl) (Ht rfl) rfl (eQ (dY (d:=[]) zo))) (dq 100 18 rfl (dV A_29 Z_29 (Ht rfl)) ?_))))))))
      refine dp 8 rfl (cZ (Ht rfl)) (dp 14 rfl (cZ (Ht rfl)) (dT 102 20 103 21 rfl (dJ U_72 Z_3 (Ht rfl) (Ht rfl) rfl (eQ (show (Zs js)[x]? = some (gq (cC js) x) from dH hxn))) (dq 104 22 rfl (dV A_3 Z_3 (Ht rfl)) (dT 101 19 105 23 rfl (dJ U_29 Z_51 (Ht rfl) (Ht rfl) rfl (eQ (dY (d:=Qi.zero) zo))) (dq 106 24 rfl (dV A_51 Z_51 (Ht rfl)) (dT 94 12 107 25 rfl (cF lH K_44 (Eh (x:=Ie x y) (y:=gm s (gq (cC js) (gC y)) (gq (cC js) x)) (L:=1) (M:=L) zo) (Ht rfl) ⟨(Ht rfl),trivial⟩) ?_))))))
      refine fW bA rfl (by kernel_rfl) (zF (zF (zF (zF (zF (zF (aJ (aJ (aJ (aV (ro rfl (cR U_29 Z_51 (Ht rfl) (Ht rfl) rfl (i:=4) rfl (by rw [List.length_map,hrl]; exact hyn) rfl) ?_)))))))))))
      refine jS Z_51 (Ht rfl) (Ht rfl) (El.ag rfl) (i:=4) rfl rfl (by rw [List.length_map,hrl]; exact hyn) rfl ?_
      refine eZ (aT (dQ (ro rfl (dW (Ht rfl) (cV 1) z6) (rm rfl (eZ (bI [0,1,2,3,4] rfl (by decide) (fY (y + 1) hyn zo (zS rfl) (aU (aB rfl) (aU (aB rfl) (aU (aB rfl) (aU (fun _ _ _ h=>h) (aU (aN (by rw [fI]; exact congrArg _ (lJ (f:=(fun y=>Ie x y - gm s (gq (cC js) (gC y)) (gq (cC js) x)))))) aY))))))))))))
     ·have hyn : y = 2 * js.length := by simp only [decide_eq_false_iff_not] at hd2; omega
      rw [hyn,lI]
      refine gW rfl (aT (dI 3 4 rfl rfl (by decide) (by simp only [bS,List.length_map,jL]; omega) ?_))
      refine dQ (ro rfl (dW (Ht rfl) (cV 1) z6) (rm rfl (eZ (bI [0,1,2,3] rfl (by decide) (fY (x + 1) hxn zo (zS rfl) (aU (aB rfl) (aU (aB rfl) (aU (aB rfl) (aU (bD (by rw [eN]; exact congrArg _ (lJ (f:=(fun x=>tab (2 * js.length) (fun y=>Ie x y - gm s (gq (cC js) (gC y)) (gq (cC js) x))))))) aY)))))))))
    ·have hxn : x = 2 * js.length := by simp only [decide_eq_false_iff_not] at hc; omega
     rw [hxn,lI,show tab (2 * js.length) (fun x=>tab (2 * js.length) (fun y=>Ie x y - gm s (gq (cC js) (gC y)) (gq (cC js) x))) = Oq s js from rfl]
     refine gW rfl (gV (i:=3) (tt:=13) rfl rfl (iT (s:=5) (M:=Oq s js) (rN s js).1.symm) (ts (ro rfl (cX cW) (eZ (cU (cU (bI [0,1,2] rfl (by decide) (rC 29 1 ?_))))))))
     have hPf:=hgP he
     have hPs:=Vh s js z.length
     have hcar:bL Tryz.prog 99 [bM (pJ s js z.length),bM c] (bM (kB (pJ s js z.length) c)):=a4C (p:=pJ s js z.length) (c:=c) (n:=(eE z js).length) (m:=z.length) (L:=G) hPs hch hPf hcf hG1 zo hpos zo zo hl
     have hslv : ∀ i, bL Tryz.prog 96 [bM (Oq s js), aR (Yn s js i)] (fS [aR (Fg s js i), aL .i64 0]) := fun i => by
      have hT0:=Fi hk zo (Yn s js i)
      have h := Uf (M := Oq s js) (b := Yn s js i) (n := 2 * js.length) (L := L + 2) (rN s js) (aC _ _) (bB.tab fun x y _ _ => by
       haveI:=Wx x y
       haveI:aM (gm s (gq (cC js) (gC y)) (gq (cC js) x)) L:=hs.get hL1 _ _
       exact (fitSub (x:=Ie x y) (y:=gm s (gq (cC js) (gC y)) (gq (cC js) x)):aM _ (1 + L + 1)).le zo) (cH.tab fun y _=>(hs.get hL1 i _).le zo) zo zo zo (hg js.length zo) (Nat.le_trans (hxr js.length zo) (by decide))
      rw [hT0] at h; exact h
     refine dQ (rm rfl (ro rfl (dK U_30 (Ht rfl) (by rw [List.length_map,hsl])) ?_))
     refine ro rfl (cZ (cV 0)) (eZ (eK ?_))
     refine eO (fun (i : Nat) (vR : Value) => i ≤ z.length) (fun (i : Nat) (vR : Value) => z.length - i) (fun (i : Nat) (vR : Value) => [(2, bF B2 0), (4, bF B4 0), (6, bF B6 0), (8, fN (Zs js)), (9, fN (wK js)), (12, bM s), (13, bM (Oq s js)), (16, Is vR), (113, NT .i64 z.length), (114, NT .i64 i)]) (fun (i : Nat) (vR : Value) => [box B2 34 [aR z, bM s, bM c], box B4 34 [Is (.slice none 0 0), Is (.slice none 0 0), Is (.slice none 0 0)], box B6 32 [aR (jZ z s js), bM (jT z s js)], bN 29 1 vR (((dO (iM js) i).map (fun i => tab z.length fun k => mJ s js i k)).map aR)]) 0 _ (Nat.zero_le _)
      (zS rfl) (aU (aB rfl) (aU (aB rfl) (aU (aB rfl) (aU (aN rfl) aY)))) (fun i vR hi=>?_)
     refine ts (ro rfl (gZ (Ht rfl) (Ht rfl)) (eZ (cU (dX (Ht rfl) (fun hc=>?_) (fun hc=>?_)))))
     ·have hin : i < z.length := by simp only [decide_eq_true_eq] at hc; omega
      have hfl:=wL (iM js) i
      have hsi:=hsh.row hin
      refine cY (cU (eK (ts (rm rfl (ra rfl (eZ (cU (ts (rm rfl (rm rfl (ro rfl (cJ Tryz.call95 (Xu (l:=Zs js) (i:=i) zo) ⟨(Ht rfl),(Ht rfl),trivial⟩) (eZ (dX (Ht rfl) (fun hx=>?_) (fun hx=>?_))))))))))))))
      ·have hmem : i ∈ iM js := by rw [← a4P]; simpa using hx
       have hnx:dO (iM js) (i + 1) = dO (iM js) i:=by rw [dO,if_pos hmem,List.append_nil]
       refine gW rfl (dQ (ro rfl (dW (Ht rfl) (cV 1) z6) (rm rfl (eZ (fY (i + 1,vR) hin (by dsimp only; omega) (zS rfl) (aU (aB rfl) (aU (aB rfl) (aU (aB rfl) (aU (aN (by rw [hnx])) aY)))))))))
      ·have hmem : i ∉ iM js := fun h => by rw [← a4P] at h; simp [h] at hx
       have hnx:dO (iM js) (i + 1) = dO (iM js) i ++ [i]:=by rw [dO,if_neg hmem]
       refine cY (ts (ro rfl (cX cW) (eZ (cU (cU (rC 51 5 (dQ (rm rfl (ro rfl (dK U_72 (Ht rfl) (by rw [List.length_map,hPl])) ?_)))))))))
       refine ro rfl (cZ (cV 0)) (eZ (eK ?_))
       refine eO (fun (y : Nat) (vV : Value) => y ≤ (2 * js.length)) (fun (y : Nat) (vV : Value) => (2 * js.length) - y) (fun (y : Nat) (vV : Value) => [(2, bF B2 0), (4, bF B4 0), (6, bF B6 0), (8, fN (Zs js)), (9, fN (wK js)), (12, bM s), (13, bM (Oq s js)), (16, Is vR), (17, NT .i64 i), (18, Is vV), (113, NT .i64 z.length), (114, NT .i64 i), (120, fN (Zs js)), (121, NT .i64 (2 * js.length)), (122, NT .i64 y)]) (fun (y : Nat) (vV : Value) => [box B2 34 [aR z, bM s, bM c], box B4 34 [Is (.slice none 0 0), Is (.slice none 0 0), Is (.slice none 0 0)], box B6 32 [aR (jZ z s js), bM (jT z s js)], bN 29 1 vR (((dO (iM js) i).map (fun i => tab z.length fun k => mJ s js i k)).map aR), bN 51 5 vV ((tab y fun y => gm s i (gq (cC js) y)).map aF)]) 0 _ (Nat.zero_le _)
        (zS rfl) (aU (aB rfl) (aU (aB rfl) (aU (aB rfl) (aU (fun _ _ _ h=>h) (aU (aN rfl) aY))))) (fun y vV hy=>?_)
       refine ts (ro rfl (gZ (Ht rfl) (Ht rfl)) (eZ (cU (dX (Ht rfl) (fun hd2=>?_) (fun hd2=>?_)))))
       ·have hyn : y < 2 * js.length := by simp only [decide_eq_true_eq] at hd2; omega
        have hb2:=hj.lt y hyn
        have htl:=aC y fun y=>gm s i (gq (cC js) y)
        refine cY (cU (eK (ts (ro rfl (dJ U_72 Z_3 (Ht rfl) (Ht rfl) rfl (eQ (show (Zs js)[y]? = some (gq (cC js) y) from dH hyn))) (ro rfl (dV A_3 Z_3 (Ht rfl)) (ra rfl (eZ (dQ (rm rfl (rm rfl (rm rfl (ro rfl (dJ U_30 Z_29 (Ht rfl) (Ht rfl) rfl (eQ (dY (d:=[]) zo))) (ro rfl (dV A_29 Z_29 (Ht rfl)) (rm rfl (ro rfl (dJ U_29 Z_51 (Ht rfl) (Ht rfl) rfl (eQ (dY (d:=Qi.zero) zo))) (ro rfl (dV A_51 Z_51 (Ht rfl)) ?_))))))))))))))))
        refine ro rfl (cA (xs:=[.tmp 133]) U_29 Z_51 O_51 (cG (Ht rfl) cK) rfl rfl rfl) (lC (inf:=Tryz.t51) kX jD rfl rfl rfl (Ht rfl) (Ht rfl) (i:=4) rfl (by simp) (fun T hT=>by simp at hT; subst hT; exact El.ag rfl) (by show _ * 88 ≤ _; simp only [List.length_map,List.length_append,List.length_cons,List.length_nil,aC]; omega) (by simp only [List.length_map,List.length_append,List.length_cons,List.length_nil,aC]; omega) rfl (fun v5=>?_))
        refine ra rfl (eZ (aT (dQ (ro rfl (dW (Ht rfl) (cV 1) z6) (rm rfl (eZ (bI [0,1,2,3,4] rfl (by decide) (fY (y + 1,v5) hyn (by dsimp only; omega) (zS rfl) (aU (aB rfl) (aU (aB rfl) (aU (aB rfl) (aU (fun _ _ _ h=>h) (aU (aN (by rw [mH,List.map_append]; rfl)) aY)))))))))))))
       ·have hyn : y = 2 * js.length := by simp only [decide_eq_false_iff_not] at hd2; omega
        rw [hyn]
        refine gW rfl (gV (i:=4) (tt:=18) rfl rfl gK (sK (E':=[(2,_),(4,_),(6,_),(8,_),(9,_),(12,_),(13,_),(16,_),(17,_),(18,_),(113,_),(114,_),(120,_),(121,_),(122,_),(123,_)]) (aQ rfl (aQ rfl (aQ rfl (aQ rfl (aQ rfl (aQ rfl (aQ rfl (aQ rfl (aQ rfl (aZ rfl (mB (Us:=(Yn s js i).map aF) rfl) (zS rfl))))))))))) (ts (rm rfl (rm rfl (ro rfl (cJ Tryz.call96 (hslv i) ⟨(Ht rfl),(Ht rfl),trivial⟩) ?_))))))
        refine rm rfl (ro rfl (dU (Ht rfl) rfl) (ro rfl (dU (Ht rfl) rfl) (ra rfl (ra rfl (eZ (cU (ts (rm rfl (ro rfl (gD (Ht rfl) cW) (eZ (kF (Ht rfl) (by rfl) ?_)))))))))))
        refine cY (ts (rm rfl (ro rfl (dK U_30 (Ht rfl) (by rw [List.length_map,hsl])) ?_)))
        refine kZ Tryz.call97 (Yc (r:=1) (n:=z.length) (by decide) zo zo) ⟨(cV 1),(Ht rfl),trivial⟩ rfl (fun B149 _=>?_)
        refine a2w 5 0 (Ts:=(tab z.length fun _=>Qi.zero).map aF) rfl rfl (fun v0=>(ro rfl (gQ U_30 Z_29 (Ht rfl) (cV 0) rfl (by decide) (by rw [Nat.mul_one,Nat.zero_add])) ?_))
        refine ro rfl (gM A_29 Z_29 (Ht rfl) (j:=5) rfl) (ra rfl (eZ (ts (rm rfl (rm rfl (ro rfl (cJ K_77 (uE (n:=1) (by decide) (by decide)) ⟨(cV 1),trivial⟩) (ro rfl (cJ K_98 Rk ⟨(Ht rfl),trivial⟩) (ro rfl (cR U_29 Z_51 (Ht rfl) (Ht rfl) rfl (i:=6) rfl (by rw [List.length_map,aC]; omega) rfl) ?_))))))))
        refine jS Z_51 (Ht rfl) (Ht rfl) (El.ag rfl) (i:=6) rfl rfl (by rw [List.length_map,aC]; omega) rfl ?_
        refine eZ (cU (cU (mQ 6 rfl (aN (e:=51) (s:=5) (by rw [fI,Su hin]:_ = (uI s js z.length i 0).map aF)) ?_)))
        refine dQ (rm rfl (ro rfl (dK U_72 (Ht rfl) (by rw [List.length_map,hOl])) ?_))
        refine ro rfl (cZ (cV 0)) (eZ (eK (bI [0,1,2,3,6] rfl (by decide) ?_)))
        refine bP (fun (y : Nat) => y ≤ (2 * js.length)) (fun (y : Nat) => (2 * js.length) - y) (fun (y : Nat) => [(2, bF B2 0), (4, bF B4 0), (6, bF B6 0), (8, fN (Zs js)), (9, fN (wK js)), (12, bM s), (13, bM (Oq s js)), (16, Is vR), (17, NT .i64 i), (21, aR (Fg s js i)), (23, Is v0), (113, NT .i64 z.length), (114, NT .i64 i), (157, fN (wK js)), (158, NT .i64 (2 * js.length)), (159, NT .i64 y)]) (fun (y : Nat) => [box B2 34 [aR z, bM s, bM c], box B4 34 [Is (.slice none 0 0), Is (.slice none 0 0), Is (.slice none 0 0)], box B6 32 [aR (jZ z s js), bM (jT z s js)], bN 29 1 vR (((dO (iM js) i).map (fun i => tab z.length fun k => mJ s js i k)).map aR), bN 51 5 v0 ((uI s js z.length i y).map aF)]) 0 (Nat.zero_le _)
         (zS rfl) (aU (aB rfl) (aU (aB rfl) (aU (aB rfl) (aU (fun _ _ _ h=>h) (aU (fun _ _ _ h=>h) aY))))) (fun y hy2=>?_)
        refine ts (ro rfl (gZ (Ht rfl) (Ht rfl)) (eZ (cU (dX (Ht rfl) (fun hd3=>?_) (fun hd3=>?_)))))
        ·have hyn : y < 2 * js.length := by simp only [decide_eq_true_eq] at hd3; omega
         have hb1:=hj.lt (gC y) (kW hyn)
         have hQl:(Fg s js i).length = 2 * js.length:=tC _ _ _
         have hrl:=a28 s js z.length i y
         have hst:=a29 (S:=s) (N:=z.length) (i:=i) hj hyn
         rw [Vf hj hk hmem hyn] at hst
         refine cY (cU (eK (ts (rm rfl (ro rfl (dJ U_72 Z_3 (Ht rfl) (Ht rfl) rfl (eQ (show (wK js)[y]? = some (gq (cC js) (gC y)) from dH hyn))) (ro rfl (dV A_3 Z_3 (Ht rfl)) (ra rfl (ra rfl (eZ (dQ (rm rfl (rm rfl (rm rfl (rm rfl (ro rfl (dJ U_29 Z_51 (Ht rfl) (Ht rfl) rfl (eQ (dY (d:=Qi.zero) zo))) (ro rfl (dV A_51 Z_51 (Ht rfl)) (ro rfl (cR U_29 Z_51 (Ht rfl) (Ht rfl) rfl (i:=4) rfl (by rw [List.length_map,hrl]; exact hb1) rfl) ?_)))))))))))))))))
         refine jS Z_51 (Ht rfl) (Ht rfl) (El.ag rfl) (i:=4) rfl rfl (by rw [List.length_map,hrl]; exact hb1) rfl ?_
         refine eZ (aT (dQ (ro rfl (dW (Ht rfl) (cV 1) z6) (rm rfl (eZ (bI [0,1,2,3,4] rfl (by decide) (fY (y + 1) hyn zo (zS rfl) (aU (aB rfl) (aU (aB rfl) (aU (aB rfl) (aU (fun _ _ _ h=>h) (aU (aN (by rw [fI]; exact congrArg _ hst)) aY))))))))))))
        ·have hyn : y = 2 * js.length := by simp only [decide_eq_false_iff_not] at hd3; omega
         rw [hyn,a27]
         refine gW rfl (gV (i:=4) (tt:=23) rfl rfl gK (dQ (rm rfl (rm rfl (ro rfl (cA (xs:=[.tmp 173]) U_30 Z_29 O_29 (cG (Ht rfl) cK) rfl rfl rfl) (lC (inf:=Tryz.t29) Tg lV rfl rfl rfl (Ht rfl) (Ht rfl) (i:=3) rfl (by simp) (fun T hT=>by simp at hT; subst hT; exact El.one) (by show _ * 24 ≤ _; simp only [List.length_map,List.length_append,List.length_cons,List.length_nil,aC]; omega) (by simp only [List.length_map,List.length_append,List.length_cons,List.length_nil,aC]; omega) rfl (fun v6=>?_)))))))
         refine ra rfl (eZ (aT (dQ (ro rfl (dW (Ht rfl) (cV 1) z6) (rm rfl (eZ (bI [0,1,2,3] rfl (by decide) (fY (i + 1,v6) hin (by dsimp only; omega) (zS rfl) (aU (aB rfl) (aU (aB rfl) (aU (aB rfl) (aU (aN (by rw [hnx,List.map_append,List.map_append]; rfl)) aY))))))))))))
     ·have hiz : i = z.length := by simp only [decide_eq_false_iff_not] at hc; omega
      rw [hiz]
      refine gW rfl (gV (i:=3) (tt:=16) rfl rfl gK (cU (fJ (m:=5) (dp 6 rfl (eW A_32 Z_32 (Ht rfl) (i:=2) rfl rfl rfl) (dp 16 rfl (cZ (Ht rfl)) (dp 2 rfl (eJ kI (Ht rfl) rfl) (dq 179 2 rfl (fQ A_30 Z_30 (Ht rfl) (i:=0) rfl rfl) (dT 178 1 180 3 rfl (cJ Tryz.call99 hcar ⟨(Ht rfl),(Ht rfl),trivial⟩) (fW bA rfl (by kernel_rfl) (zF (aJ (aV (ro rfl (qF (Ht rfl) (Ht rfl)) (gX Z_34 (Ht rfl) (Ht rfl) rfl (i:=1) rfl (aK rfl) rfl rfl ?_))))))))))))))
      refine ro rfl (cX (cV 0)) (eZ (bR rfl (fZ (fU A_34 Z_34 rfl (i:=1) rfl rfl) ?_) (fZ (eY rfl) ?_)))
      ·exact (fun v V h=>by rw [pN,cD,if_pos he]; exact h)
      ·exact (aO he.symm)
theorem tI {z : List Qi} {s c : List (List Qi)} {js : List (Int × Int)} (hz : cH z 2) (hs : bB s 2) (hcf : bB c 60000) (hsh : cP s z.length z.length) (hch : cP c z.length z.length) (hl : z.length ≤ 8) (hjl : js.length ≤ 100) : bL Tryz.prog 18 [eR z s c, Qr js] (fS [eR (jZ z s js) (jT z s js) (pN z s c js), aL .i64 (kE z s js)]) :=
 Nh (L := 2) (G := 60000) hz hs (by decide) (by decide) hcf (by decide) (by decide) (fun he => by
  obtain ⟨hd,hj6,hk,hne⟩:=jN he hl
  exact (Dd (L:=2) (G:=7082) hs (by decide) (fun x=>Lg hs hj6 hk x) (by decide) zo).le (by decide)) hsh hch hl hjl (hgN hl) (hxN hl)
end
section
open Go Go.RowKit
theorem a0p {a b:List (List Qi)} {x y:Nat} (ha:cP a x x) (hb:cP b y y) (hx:x ≤ 100) (hy:y ≤ 100):bL Tryz.prog 127 [QM a,QM b] (QM (mA a b x y)):=by
 have hal:=ha.1
 have hbl:=hb.1
 refine bL.intro Tryz.func127 rfl Tryz.ntmps127 rfl (fun cx=>(ts (ro rfl (cX cW) (eZ (ts (rm rfl (ro rfl (dK U_36 (Ht rfl) (by rw [List.length_map,hal])) ?_)))))))
 refine rm rfl (ro rfl (dK U_36 (Ht rfl) (by rw [List.length_map,hbl])) ?_)
 refine ro rfl (dW (Ht rfl) (Ht rfl) z6) (rm rfl (ro rfl (dK U_36 (Ht rfl) (by rw [List.length_map,hal])) ?_))
 refine rm rfl (ro rfl (dK U_36 (Ht rfl) (by rw [List.length_map,hbl])) ?_)
 refine ro rfl (dW (Ht rfl) (Ht rfl) z6) (kZ Tryz.call129 (yE (n:=x + y) (m:=x + y) zo zo) ⟨(Ht rfl),(Ht rfl),trivial⟩ rfl (fun B20 _=>(ra rfl (eZ (cU (ts (ro rfl (cX (cV 0)) (eZ (eK ?_)))))))))
 refine bP (fun (i : Nat) => i ≤ x) (fun (i : Nat) => x - i) (fun (i : Nat) => [(0, QM a), (1, QM b), (5, Is (.slice (some ⟨B20, 0, none⟩) (x + y) (x + y))), (6, NT .i64 i)]) (fun (i : Nat) => [kK eM B20 35 131 5 (bS QT (iP (mG a b x y) (tab (x + y) fun _ => Qi.zero) (x + y) i))]) 0 (Nat.zero_le _)
  (zS rfl) (aU (bD (by rw [zO,fF])) aY) (fun i hi=>?_)
 refine cU (ts (rm rfl (rm rfl (ro rfl (dK U_36 (Ht rfl) (by rw [List.length_map,hal])) ?_))))
 refine ro rfl (gZ (Ht rfl) (Ht rfl)) (eZ (dX (Ht rfl) (fun hd=>?_) (fun hd=>?_)))
 ·have hdn : i < x := by simp only [decide_eq_true_eq] at hd; omega
  have har:=ha.row hdn
  refine iS 0 (i) rfl (iB zo) (fun v0 hv0=>(cY (cU (eK (ts (ro rfl (cX (cV 0)) (eZ (eK ?_))))))))
  refine bP (fun (j : Nat) => j ≤ x) (fun (j : Nat) => x - j) (fun (j : Nat) => [(0, QM a), (1, QM b), (5, Is (.slice (some ⟨B20, 0, none⟩) (x + y) (x + y))), (6, NT .i64 i), (7, NT .i64 j)]) (fun (j : Nat) => [qN eM B20 35 131 5 (bS QT (iP (mG a b x y) (tab (x + y) fun _ => Qi.zero) (x + y) i)) i v0, bN 131 5 v0 ((Be (gm a i) 0 j (x + y)).map QT)]) 0 (Nat.zero_le _)
   (zS rfl) (aU (fun _ _ _ h=>h) (aU (aN (by rw [← tZ])) aY)) (fun j hj=>?_)
  refine cU (ts (rm rfl (rm rfl (ro rfl (dK U_36 (Ht rfl) (by rw [List.length_map,hal])) ?_))))
  refine ro rfl (gZ (Ht rfl) (Ht rfl)) (eZ (dX (Ht rfl) (fun he=>?_) (fun he=>?_)))
  ·have hen : j < x := by simp only [decide_eq_true_eq] at he; omega
   refine cY (cU (eK (fJ (m:=12) (dp 5 rfl (cZ (Ht rfl)) (dp 6 rfl (cZ (Ht rfl)) (dT 33 0 34 1 rfl (gQ U_36 Z_35 (Ht rfl) (Ht rfl) rfl zo (by rw [Nat.mul_one,Nat.zero_add])) ?_))))))
   refine dq 35 2 rfl (gM A_35 Z_35 (Ht rfl) (j:=0) rfl) (dp 7 rfl (cZ (Ht rfl)) (dp 0 rfl (cZ (Ht rfl)) (dp 6 rfl (cZ (Ht rfl)) (dT 38 5 39 6 rfl (dJ U_36 Z_35 (Ht rfl) (Ht rfl) rfl (eQ (dY (d:=[]) zo))) (dq 40 7 rfl (dV A_35 Z_35 (Ht rfl)) (dp 7 rfl (cZ (Ht rfl)) (dT 41 8 42 9 rfl (dJ U_35 Z_131 (Ht rfl) (Ht rfl) rfl (eQ (dY (d:=Qi.zero) zo))) (dq 43 10 rfl (dV A_131 Z_131 (Ht rfl)) (fW bA rfl (by kernel_rfl) (zF (zF (zF (aV ?_)))))))))))))
   refine ro rfl (cR U_35 Z_131 (Ht rfl) (Ht rfl) rfl (i:=1) rfl (by rw [List.length_map,lN]; omega) rfl) ?_
   refine jS Z_131 (Ht rfl) (Ht rfl) (El.ag rfl) (i:=1) rfl rfl (by rw [List.length_map,lN]; omega) rfl ?_
   refine eZ (aT (dQ (rm rfl (ro rfl (dW (Ht rfl) (cV 1) z6) (ra rfl (eZ (fY (j + 1) hen zo (zS rfl) (aU (fun _ _ _ h=>h) (aU (aN (by rw [fI]; exact congrArg _ (wP (Nat.zero_le _)))) aY)))))))))
  ·have hjx : j = x := by simp only [decide_eq_false_iff_not] at he; omega
   subst hjx
   rw [Pt hdn]
   refine gW rfl (aT (dI 0 1 rfl rfl (by decide) (by simp only [bS,List.length_map,cL]; omega) ?_))
   refine dQ (rm rfl (ro rfl (dW (Ht rfl) (cV 1) z6) (ra rfl (eZ (bI [0] rfl (by decide) (fY (i + 1) hdn zo (zS rfl) (aU (bD (by rw [eN,← fR (f:=mG a b j y)])) aY)))))))
 ·have hix : i = x := by simp only [decide_eq_false_iff_not] at hd; omega
  subst hix
  refine gW rfl (cU (ts (ro rfl (cX (cV 0)) (eZ (eK ?_)))))
  refine bP (fun (r : Nat) => r ≤ y) (fun (r : Nat) => y - r) (fun (r : Nat) => [(0, QM a), (1, QM b), (5, Is (.slice (some ⟨B20, 0, none⟩) (i + y) (i + y))), (8, NT .i64 r)]) (fun (r : Nat) => [kK eM B20 35 131 5 (bS QT (iP (mG a b i y) (tab (i + y) fun _ => Qi.zero) (i + y) (i + r)))]) 0 (Nat.zero_le _)
   (zS rfl) (aU (bD rfl) aY) (fun r hr=>?_)
  refine cU (ts (rm rfl (rm rfl (ro rfl (dK U_36 (Ht rfl) (by rw [List.length_map,hbl])) ?_))))
  refine ro rfl (gZ (Ht rfl) (Ht rfl)) (eZ (dX (Ht rfl) (fun hd2=>?_) (fun hd2=>?_)))
  ·have hrn : r < y := by simp only [decide_eq_true_eq] at hd2; omega
   have hbr:=hb.row hrn
   refine iS 0 ((i + r)) rfl (iB zo) (fun v0 hv0=>(cY (cU (eK (ts (ro rfl (cX (cV 0)) (eZ (eK ?_))))))))
   refine bP (fun (j : Nat) => j ≤ y) (fun (j : Nat) => y - j) (fun (j : Nat) => [(0, QM a), (1, QM b), (5, Is (.slice (some ⟨B20, 0, none⟩) (i + y) (i + y))), (8, NT .i64 r), (9, NT .i64 j)]) (fun (j : Nat) => [qN eM B20 35 131 5 (bS QT (iP (mG a b i y) (tab (i + y) fun _ => Qi.zero) (i + y) (i + r))) (i + r) v0, bN 131 5 v0 ((Be (fun k => gm b r (k - i)) i (i + j) (i + y)).map QT)]) 0 (Nat.zero_le _)
    (zS rfl) (aU (fun _ _ _ h=>h) (aU (aN (by rw [tZ (fun k=>gm b r (k - i)) i]; rfl)) aY)) (fun j hj2=>?_)
   refine cU (ts (rm rfl (rm rfl (ro rfl (dK U_36 (Ht rfl) (by rw [List.length_map,hbl])) ?_))))
   refine ro rfl (gZ (Ht rfl) (Ht rfl)) (eZ (dX (Ht rfl) (fun he2=>?_) (fun he2=>?_)))
   ·have hen : j < y := by simp only [decide_eq_true_eq] at he2; omega
    have hnx:=wP (f:=(fun k=>gm b r (k - i))) (lo:=i) (hi:=i + j) (n:=i + y) zo
    simp only [Nat.add_sub_cancel_left] at hnx
    refine cY (cU (eK (fJ (m:=18) (dp 5 rfl (cZ (Ht rfl)) (dp 0 rfl (cZ (Ht rfl)) (dq 59 1 rfl (dK U_36 (Ht rfl) (by rw [List.length_map,hal])) ?_))))))
    refine dp 8 rfl (cZ (Ht rfl)) (dT 60 2 61 3 rfl (dW (Ht rfl) (Ht rfl) z6) (dT 58 0 62 4 rfl (gQ U_36 Z_35 (Ht rfl) (Ht rfl) rfl zo (by rw [Nat.mul_one,Nat.zero_add])) ?_))
    refine dq 63 5 rfl (gM A_35 Z_35 (Ht rfl) (j:=0) rfl) (dp 0 rfl (cZ (Ht rfl)) (dq 65 7 rfl (dK U_36 (Ht rfl) (by rw [List.length_map,hal])) ?_))
    refine dp 9 rfl (cZ (Ht rfl)) (dT 66 8 67 9 rfl (dW (Ht rfl) (Ht rfl) z6) (dp 1 rfl (cZ (Ht rfl)) (dp 8 rfl (cZ (Ht rfl)) (dT 69 11 70 12 rfl (dJ U_36 Z_35 (Ht rfl) (Ht rfl) rfl (eQ (dY (d:=[]) zo))) (dq 71 13 rfl (dV A_35 Z_35 (Ht rfl)) (dp 9 rfl (cZ (Ht rfl)) (dT 72 14 73 15 rfl (dJ U_35 Z_131 (Ht rfl) (Ht rfl) rfl (eQ (dY (d:=Qi.zero) zo))) (dq 74 16 rfl (dV A_131 Z_131 (Ht rfl)) ?_))))))))
    refine fW bA rfl (by kernel_rfl) (zF (zF (zF (zF (aJ (aJ (aV (ro rfl (cR U_35 Z_131 (Ht rfl) (Ht rfl) rfl (i:=1) rfl (by rw [List.length_map,lN]; omega) rfl) ?_))))))))
    refine jS Z_131 (Ht rfl) (Ht rfl) (El.ag rfl) (i:=1) rfl rfl (by rw [List.length_map,lN]; omega) rfl ?_
    refine eZ (aT (dQ (rm rfl (ro rfl (dW (Ht rfl) (cV 1) z6) (ra rfl (eZ (fY (j + 1) hen zo (zS rfl) (aU (fun _ _ _ h=>h) (aU (aN (by rw [fI]; exact congrArg _ hnx)) aY)))))))))
   ·have hjx : j = y := by simp only [decide_eq_false_iff_not] at he2; omega
    subst hjx
    rw [Pu (a:=a) (b:=b)]
    refine gW rfl (aT (dI 0 1 rfl rfl (by decide) (by simp only [bS,List.length_map,cL]; omega) ?_))
    refine dQ (rm rfl (ro rfl (dW (Ht rfl) (cV 1) z6) (ra rfl (eZ (bI [0] rfl (by decide) (fY (r + 1) hrn zo (zS rfl) (aU (bD (by rw [eN,fR (f:=mG a b i j)]; rfl)) aY)))))))
  ·have hry : r = y := by simp only [decide_eq_false_iff_not] at hd2; omega
   subst hry
   rw [gO]
   refine gW rfl (gV (i:=0) (tt:=5) rfl rfl (iT (s:=5) (M:=mA a b i r) (aC _ _).symm) (ts (rm rfl (ra rfl (eZ ?_)))))
   exact fG rfl (eY rfl)
end
section
open Go Go.RowKit
section
variable {z:List Qi} {s c:List (List Qi)} {js:List (Int × Int)}
theorem rU (hch:cP c z.length z.length):cP (pN z s c js) (jZ z s js).length (jZ z s js).length:=by
 by_cases h:kE z s js = 0
 ·have hp := Vh s js z.length
  rw [pN,jZ,cD,cD,if_pos h,if_pos h]
  have h2:=lF (p:=pJ s js z.length) (c:=c)
  rw [hp.1] at h2
  by_cases h0:js.length = 0
  ·rw [if_pos h0]
   obtain rfl:js = []:=List.length_eq_zero_iff.1 h0
   rw [Lf hch]; exact hch
  ·rw [if_neg h0,Fj,show (pH z (eE z js)).length = (eE z js).length from aC _ _]; exact h2
 ·rw [pN,jZ,cD,cD,if_neg h,if_neg h]; exact ⟨rfl,fun r hr=>by cases hr⟩
theorem a3L (hs:bB s 2) (hcf:bB c 60000) (hl:z.length ≤ 8) (hch:cP c z.length z.length):bB (pN z s c js) 900000000000:=by
 by_cases h:kE z s js = 0
 ·obtain ⟨hd, hj6, hk, hne⟩ := jN h hl
  have hPf:bB (pJ s js z.length) 60000:=(Dd (L:=2) (G:=7082) hs (by decide) (fun x=>Lg hs hj6 hk x) (by decide) zo).le (by decide)
  exact nH ((qG hPf hcf (by decide) (by rw [hch.1]; exact hl)).le (by decide))
 ·rw [pN,cD,if_neg h]; exact bB.nil
theorem Vz (hs : bB s 2) (hl : z.length ≤ 8) : bB (jT z s js) 900000000000 := Vq (L := 2) (G := 400000000) hs (by decide) (fun h => by
  obtain ⟨q1,q2⟩:=yO h
  have:=Je q1
  exact Nat.le_trans (Nat.le_trans (wT (mV _ (show 2 * js.length ≤ 6 by omega)) _) (vT _ (show 2 * js.length ≤ 6 by omega))) (by decide)) (fun m hm h=>by
  obtain ⟨q1,q2⟩:=yO h
  have:=Je q1
  have:m * (2 * 400000000 + 2) ≤ 6 * (2 * 400000000 + 2):=Nat.mul_le_mul_right _ zo
  omega)
end
end
section
open Go Go.RowKit
theorem a0P (x y:Qi):(x + y).conj = x.conj + y.conj:=Qi.ext' rfl (by show -(x.im + y.im) = -x.im + -y.im; grind)
theorem a0Q (x y:Qi):(x * y).conj = x.conj * y.conj:=Qi.ext' (by show x.re * y.re - x.im * y.im = x.re * y.re - -x.im * -y.im; grind) (by show -(x.re * y.im + x.im * y.re) = x.re * -y.im + -x.im * y.re; grind)
theorem wD:(0:Qi).conj = 0:=Qi.ext' rfl (by show -(0:Rat) = 0; grind)
theorem a0R:(1:Qi).conj = 1:=Qi.ext' rfl (by show -(0:Rat) = 0; grind)
theorem a0S (n:Nat) (f:Nat → Qi):(aE n f).conj = aE n fun i=>(f i).conj:=by
 induction n with
 | zero=>exact wD
 | succ n ih=>rw [mY,mY,a0P,ih]
theorem oF (n:Nat) (a:Qi) (f:Nat → Qi):aE n (fun k=>a * f k) = a * aE n f:=by
 rw [show a * aE n f = aE n f * a by grind,← jC]; exact aD fun _ _=>by grind
def nK (N:Nat) (p q:Nat → Qi) (C:Nat → Nat → Qi):Qi:=aE N fun a=>aE N fun b=>p a * C a b * (q b).conj
theorem oC {N : Nat} {p q p' q' : Nat → Qi} {C C' : Nat → Nat → Qi} (hp : ∀ a, a < N → p a = p' a) (hq : ∀ a, a < N → q a = q' a) (hC : ∀ a b, a < N → b < N → C a b = C' a b) : nK N p q C = nK N p' q' C' :=
 aD fun a ha=>aD fun b hb=>by rw [hp a ha,hq b hb,hC a b ha hb]
theorem Pj {N:Nat} {p q:Nat → Qi} {C D:Nat → Nat → Qi}:nK N p q (fun a b=>C a b + D a b) = nK N p q C + nK N p q D:=by
 rw [nK,nK,nK,← vQ]
 refine aD fun a _=>?_
 rw [← vQ]
 exact aD fun b _=>by grind
theorem a20 {N:Nat} {p q:Nat → Qi} {C D:Nat → Nat → Qi}:nK N p q (fun a b=>C a b - D a b) = nK N p q C - nK N p q D:=by
 have h:=Pj (N:=N) (p:=p) (q:=q) (C:=fun a b=>C a b - D a b) (D:=D)
 rw [show (fun a b=>C a b - D a b + D a b) = C from funext fun a=>funext fun b=>by grind] at h
 grind
theorem a1Z {N:Nat} {p q:Nat → Qi} {C:Nat → Nat → Qi} {t:Qi}:nK N p q (fun a b=>t * C a b) = t * nK N p q C:=by
 rw [nK,nK,← oF]
 refine aD fun a _=>?_
 rw [← oF]
 exact aD fun b _=>by grind
theorem Pk {N M : Nat} {p q : Nat → Qi} {r : Nat → Nat → Qi} {C : Nat → Nat → Qi} :
  nK N p q (fun a b=>nK M (r a) (r b) C) = nK M (fun u=>aE N fun a=>p a * r a u) (fun u=>aE N fun a=>q a * r a u) C:=by
 have e : ∀ u v, (aE N fun a => p a * r a u) * C u v * (aE N fun b => q b * r b v).conj = aE N fun a => aE N fun b => p a * (r a u * C u v * (r b v).conj) * (q b).conj := fun u v => by
  rw [a0S,Qi.mul_assoc',← jC]
  refine aD fun a _=>?_
  rw [show p a * r a u * (C u v * aE N fun i=>(q i * r i v).conj) = (p a * r a u * C u v) * aE N fun i=>(q i * r i v).conj by grind,← oF]
  exact aD fun b _=>by rw [a0Q]; grind
 have r1 : nK M (fun u => aE N fun a => p a * r a u) (fun u => aE N fun a => q a * r a u) C = aE M fun u => aE M fun v => aE N fun a => aE N fun b => p a * (r a u * C u v * (r b v).conj) * (q b).conj :=
  aD fun u _=>aD fun v _=>e u v
 have l1 : nK N p q (fun a b => nK M (r a) (r b) C) = aE N fun a => aE N fun b => aE M fun u => aE M fun v => p a * (r a u * C u v * (r b v).conj) * (q b).conj := by
  refine aD fun a _=>aD fun b _=>?_
  show p a * (aE M fun u=>aE M fun v=>r a u * C u v * (r b v).conj) * (q b).conj = _
  rw [← oF,← jC]
  refine aD fun u _=>?_
  rw [← oF,← jC]
 rw [r1,l1]
 have s1 : ∀ a, (aE N fun b => aE M fun u => aE M fun v => p a * (r a u * C u v * (r b v).conj) * (q b).conj) = aE M fun u => aE M fun v => aE N fun b => p a * (r a u * C u v * (r b v).conj) * (q b).conj := fun a => by
  rw [jH]
  exact aD fun u _=>jH _ _ _
 rw [aD fun a _=>s1 a,jH]
 refine aD fun u _=>?_
 rw [jH]
theorem wO {N : Nat} {p q : Nat → Qi} {d : Nat → Qi} : nK N p q (fun a b => if a = b then d a else 0) = aE N fun k => p k * d k * (q k).conj := aD fun a ha => by
 rw [fA ha (fun b _ hb=>by show p a * (if a = b then d a else 0) * (q b).conj = 0; rw [if_neg (Ne.symm hb)]; grind)]
 show p a * (if a = a then d a else 0) * (q a).conj = _
 rw [if_pos rfl]
theorem kR {p c:List (List Qi)} {N a b:Nat} (hc:c.length = N) (ha:a < p.length) (hb:b < p.length):gm (kB p c) a b = nK N (gm p a) (gm p b) (gm c):=by
 rw [kB,jE ha hb,hc]; rfl
def qZ (c d:List (List Qi)) (n:Nat):List (List Qi):=tab n fun i=>tab n fun j=>gm c i j + gm d i j
theorem Tt {c d:List (List Qi)} {n i j:Nat} (hi:i < n) (hj:j < n):gm (qZ c d n) i j = gm c i j + gm d i j:=jE hi hj
theorem a0J {p c d : List (List Qi)} {N : Nat} (hc : c.length = N) (hd : d.length = N) : kB p (qZ c d N) = qZ (kB p c) (kB p d) p.length :=
 lX lF cP.tab fun i hi j hj => by
  rw [kR (c:=qZ c d N) (N:=N) (aC _ _) hi hj,Tt hi hj,kR hc hi hj,kR hd hi hj,← Pj]
  exact oC (fun _ _=>rfl) (fun _ _=>rfl) fun a b ha hb=>Tt ha hb
theorem a0K {p c : List (List Qi)} {t : Qi} {N : Nat} (hc : c.length = N) : kB p (qS t c N) = qS t (kB p c) p.length :=
 lX lF cP.tab fun i hi j hj => by
  rw [kR (c:=qS t c N) (N:=N) (aC _ _) hi hj,show gm (qS t (kB p c) p.length) i j = t * gm (kB p c) i j from jE hi hj,kR hc hi hj,← a1Z]
  exact oC (fun _ _=>rfl) (fun _ _=>rfl) fun a b ha hb=>jE ha hb
theorem Uw {z:List Qi} {i j:Nat} (hi:i < z.length) (hj:j < z.length):gm (iH z) i j = if i = j then gv z i else 0:=by
 have e : gm (iH z) i j = gv ((tab z.length fun _ => Qi.zero).set i (gv z i)) j := by
  show gv ((iH z).getD i []) j = _
  rw [iH,vS hi]
 rw [e,Ac (by rw [aC]; exact hi)]
 by_cases c:i = j
 ·rw [if_pos c.symm,if_pos c]
 ·rw [if_neg (Ne.symm c),if_neg c,kU hj]; rfl
theorem Gn {z:List Qi} {s:List (List Qi)} {i j:Nat} (hs:s.length = z.length) (hi:i < z.length) (hj:j < z.length):gm (lL z s) i j = (if i = j then gv z i else 0) - aE z.length fun k=>gm s i k * gv z k * (gm s j k).conj:=by
 rw [lL,jE hi hj,Uw hi hj,kR (Eu z).1 zo zo,← wO]
 congr 1
 exact oC (fun _ _=>rfl) (fun _ _=>rfl) fun a b ha hb=>Uw ha hb
section
variable {z:List Qi} {S c:List (List Qi)} {js:List (Int × Int)} {N:Nat}
theorem a3s {k:Nat}:k ∈ wK js ↔ ∃ y,y < 2 * js.length ∧ gq (cC js) (gC y) = k:=by
 rw [wK]
 constructor
 ·intro h; obtain ⟨y,hy,e⟩:=iV.1 h; exact ⟨y,hy,e⟩
 ·rintro ⟨y,hy,e⟩; exact iV.2 ⟨y,hy,e⟩
theorem a71 {k:Nat}:k ∈ wK js ↔ k ∈ iM js:=by
 rw [a3s,rM]
 constructor
 ·rintro ⟨y,hy,e⟩; exact ⟨gC y,kW hy,e⟩
 ·rintro ⟨y,hy,e⟩; exact ⟨gC y,kW hy,by rw [tW]; exact e⟩
theorem nE {i k:Nat} (hk:k ∉ iM js):mJ S js i k = if k = i then 1 else 0:=by
 rw [mJ,if_neg fun h=>hk (a71.1 (Vn.1 h)),Zr]; rfl
theorem Xa (hj : Jn (cC js) N js.length) {i : Nat} (hi : i < N) (hil : i ∉ iM js) {r v : Nat → Qi} (h1 : ∀ k, k < N → k ∉ iM js → r k = if k = i then 1 else 0) (h2 : ∀ y, y < 2 * js.length → r (gq (cC js) (gC y)) = v y) (F : Nat → Qi) :
  aE N (fun k=>r k * F k) = F i + aE (2 * js.length) fun y=>v y * F (gq (cC js) (gC y)):=by
 have e : ∀ k, k < N → r k * F k = (if k = i then F k else 0) + aE (2 * js.length) fun y => if gq (cC js) (gC y) = k then v y * F k else 0 := fun k hk => by
  by_cases c:k ∈ iM js
  ·obtain ⟨x, hx, e⟩ := rM.1 c
   have hne:¬ k = i:=fun e=>hil (e ▸ c)
   have hp:=kW hx
   rw [if_neg hne, fA (i := gC x) hp (fun y hy hne => if_neg fun e2 => hne (by
    have:=hj.inj _ _ (kW hy) hx (e2.trans e.symm)
    rw [← this,tW])),tW,if_pos e,← h2 (gC x) hp,tW,e]; grind
  ·rw [h1 k hk c, iN fun y hy => if_neg fun e2 => c (rM.2 ⟨gC y, kW hy, e2⟩)]
   by_cases d:k = i
   ·rw [if_pos d,if_pos d]; grind
   ·rw [if_neg d,if_neg d]; grind
 rw [aD e,vQ,fA hi (fun k _ hk=>if_neg hk),if_pos rfl,jH]
 congr 1
 exact aD fun y hy => by
  rw [fA (hj.lt (gC y) (kW hy)) (fun k _ hk=>if_neg (Ne.symm hk)),if_pos rfl]
theorem Vr {x:Nat} (hx:x < 2 * js.length) (v:Nat → Qi):aE (2 * js.length) (fun y=>gm (Oq S js) x y * v y) = v x - aE (2 * js.length) fun y=>v y * gm S (gq (cC js) (gC y)) (gq (cC js) x):=by
 have e : ∀ y, y < 2 * js.length → gm (Oq S js) x y * v y = (if y = x then v x else 0) - 1 * (v y * gm S (gq (cC js) (gC y)) (gq (cC js) x)) := fun y hy => by
  have:gm (Oq S js) x y = Ie x y - gm S (gq (cC js) (gC y)) (gq (cC js) x):=jE hx hy
  rw [this,Ie]
  by_cases c:y = x
  ·subst c; rw [if_pos rfl,if_pos rfl,q1]; grind
  ·rw [if_neg c,if_neg (Ne.symm c),show Qi.ofInt 0 = (0:Qi) from rfl]; grind
 rw [aD e,qV,fA hx (fun k _ hk=>if_neg hk),if_pos rfl]; grind
abbrev JK (S:List (List Qi)) (js:List (Int × Int)):Prop:=∀ b,kO (lW S (cC js) (2 * js.length)) b (2 * js.length) = 0
theorem Vp (hk:JK S js) {i x:Nat} (hx:x < 2 * js.length):gv (Fg S js i) x = gm S i (gq (cC js) x) + aE (2 * js.length) fun y=>gv (Fg S js i) y * gm S (gq (cC js) (gC y)) (gq (cC js) x):=by
 have h:=(kQ (rN S js) (Fi hk zo (Yn S js i))).1 x hx
 rw [show gv (Yn S js i) x = gm S i (gq (cC js) x) from kU hx] at h
 have h2:=Vr (S:=S) hx (gv (Fg S js i))
 rw [show jB (Oq S js) (Yn S js i) (2 * js.length) = Fg S js i from rfl] at h
 rw [h] at h2
 grind
theorem a1r (hk:JK S js) {i:Nat} {v:Nat → Qi} (h:∀ x,x < 2 * js.length → v x = gm S i (gq (cC js) x) + aE (2 * js.length) fun y=>v y * gm S (gq (cC js) (gC y)) (gq (cC js) x)) {x:Nat} (hx:x < 2 * js.length):v x = gv (Fg S js i) x:=by
 have hz := (kQ (rN S js) (Fi hk zo (Yn S js i))).2 (fun y => v y - gv (Fg S js i) y) (fun y hy => by
  rw [Vr hy]
  have a:=h y hy
  have b:=Vp hk (i:=i) hy
  have e : aE (2 * js.length) (fun w => (v w - gv (Fg S js i) w) * gm S (gq (cC js) (gC w)) (gq (cC js) y)) = aE (2 * js.length) (fun w => v w * gm S (gq (cC js) (gC w)) (gq (cC js) y)) - aE (2 * js.length) (fun w => gv (Fg S js i) w * gm S (gq (cC js) (gC w)) (gq (cC js) y)) := by
   rw [aD (g:=fun w=>v w * gm S (gq (cC js) (gC w)) (gq (cC js) y) - 1 * (gv (Fg S js i) w * gm S (gq (cC js) (gC w)) (gq (cC js) y))) (fun w _=>by grind),qV]; grind
  rw [e]; grind) x hx
 grind
theorem Pv (hj : Jn (cC js) N js.length) (hk : JK S js) {i : Nat} (hi : i < N) (hil : i ∉ iM js) {r : Nat → Qi} (h1 : ∀ k, k < N → k ∉ iM js → r k = if k = i then 1 else 0) (h2 : ∀ x, x < 2 * js.length → r (gq (cC js) (gC x)) = aE N fun k => r k * gm S k (gq (cC js) x)) :
  ∀ k,k < N → r k = mJ S js i k:=fun k hkN=>by
 have hv : ∀ x, x < 2 * js.length → r (gq (cC js) (gC x)) = gv (Fg S js i) x := fun x hx => by
  refine a1r hk (v:=fun x=>r (gq (cC js) (gC x))) (fun y hy=>?_) hx
  show r (gq (cC js) (gC y)) = _
  rw [h2 y hy,Xa hj hi hil (v:=fun y=>r (gq (cC js) (gC y))) h1 (fun y _=>rfl)]
 by_cases c:k ∈ iM js
 ·obtain ⟨x, hx, e⟩ := rM.1 c
  have h:=hv (gC x) (kW hx)
  have g:=Vf hj hk hil (kW hx)
  rw [tW,e] at h g
  rw [h,g]
 ·rw [h1 k hkN c,nE c]
theorem Vg (hj : Jn (cC js) N js.length) (hk : JK S js) {i : Nat} (hi : i < N) (hil : i ∉ iM js) (F : Nat → Qi) : aE N (fun k => mJ S js i k * F k) = F i + aE (2 * js.length) fun y => gv (Fg S js i) y * F (gq (cC js) (gC y)) :=
 Xa hj hi hil (fun _ _ h=>nE h) (fun _ hy=>Vf hj hk hil hy) F
theorem a1d (hj:Jn (cC js) N js.length) (hk:JK S js) {i:Nat} (hi:i < N) (hil:i ∉ iM js) {x:Nat} (hx:x < 2 * js.length):aE N (fun k=>mJ S js i k * gm S k (gq (cC js) x)) = mJ S js i (gq (cC js) (gC x)):=by
 rw [Vg hj hk hi hil,Vf hj hk hil hx,Vp hk hx]
theorem a5H (hj:Jn (cC js) N js.length) (hk:JK S js) {i:Nat} (hi:i < N) (hil:i ∉ iM js) (b:Nat):aE N (fun k=>mJ S js i k * gm S k b) = uJ S (cC js) (2 * js.length) i b:=by
 rw [Vg hj hk hi hil,uJ]
 congr 1
 have hM:=jW S (cC js) (2 * js.length)
 have hw:=(kQ hM (hk (uG S (cC js) (2 * js.length) b))).1
 have hq : ∀ y, y < 2 * js.length → aE (2 * js.length) (fun x => gv (Fg S js i) x * gm (lW S (cC js) (2 * js.length)) x y) = gm S i (gq (cC js) y) := fun y hy => by
  have h:=(kQ (rN S js) (Fi hk zo (Yn S js i))).1 y hy
  rw [show gv (Yn S js i) y = gm S i (gq (cC js) y) from kU hy] at h
  rw [← h]
  exact aD fun x hx=>by rw [Rx hy hx]; show _ = _ * gv (Fg S js i) x; grind
 have e1 : aE (2 * js.length) (fun y => gv (Fg S js i) y * gm S (gq (cC js) (gC y)) b) = aE (2 * js.length) fun y => aE (2 * js.length) fun k => gv (Fg S js i) y * gm (lW S (cC js) (2 * js.length)) y k * gv (jB (lW S (cC js) (2 * js.length)) (uG S (cC js) (2 * js.length) b) (2 * js.length)) k := aD fun y hy => by
  have h:=hw y hy
  rw [xP hy] at h
  rw [← h,← oF]
  exact aD fun _ _=>by grind
 rw [e1,jH]
 exact aD fun k hkk=>by rw [jC,hq k hkk]
theorem a1w (G : List Nat) (f : Nat → Qi) : ∀ n, aE n (fun k => if k ∈ G then 0 else f k) = aE (dO G n).length fun a => f (cB (dO G n) a)
 | 0=>rfl
 | n + 1 => by
  rw [mY,a1w G f n,dO]
  by_cases c:n ∈ G
  ·rw [if_pos c,if_pos c,List.append_nil]; grind
  ·rw [if_neg c, if_neg c, List.length_append, show [n].length = 1 from rfl, mY]
   congr 1
   ·exact aD fun a ha=>by simp only [cB,List.getD,List.getElem?_append_left ha]
   ·simp [cB,List.getD]
theorem Ot (hj:Jn (cC js) N js.length) (f:Nat → Qi):aE N f = (aE (dO (iM js) N).length fun a=>f (cB (dO (iM js) N) a)) + aE (2 * js.length) fun y=>f (gq (cC js) y):=by
 rw [← a1w]
 have e : ∀ k, k < N → f k = (if k ∈ iM js then 0 else f k) + aE (2 * js.length) fun y => if gq (cC js) y = k then f k else 0 := fun k hk => by
  by_cases c:k ∈ iM js
  ·obtain ⟨x, hx, e⟩ := rM.1 c
   rw [if_pos c,fA hx (fun y hy hne=>if_neg fun e2=>hne (hj.inj _ _ hy hx (e2.trans e.symm))),if_pos e]; grind
  ·rw [if_neg c,iN fun y hy=>if_neg fun e2=>c (rM.2 ⟨y,hy,e2⟩)]; grind
 rw [aD e,vQ]
 congr 1
 rw [jH]
 exact aD fun y hy=>by rw [fA (hj.lt y hy) (fun k _ hk=>if_neg (Ne.symm hk)),if_pos rfl]
theorem Wu (f : Nat → Qi) : ∀ m, aE (2 * m) (fun y => f (gC y)) = aE (2 * m) f
 | 0=>rfl
 | m + 1 => by
  rw [show 2 * (m + 1) = 2 * m + 1 + 1 by omega,mY,mY,mY,mY,Wu f m,show gC (2 * m) = 2 * m + 1 by unfold gC; split <;> omega,show gC (2 * m + 1) = 2 * m by unfold gC; split <;> omega]; grind
theorem qK {G:List Nat} {n a:Nat} (h:a < (dO G n).length):cB (dO G n) a ∉ G:=by
 have : ∀ n x, x ∈ dO G n → x ∉ G := fun n => by
  induction n with
  | zero=>intro x h; cases h
  | succ n ih =>
   intro x h
   rcases List.mem_append.1 h with h1 | h1
   ·exact ih x h1
   ·by_cases c : n ∈ G
    ·rw [if_pos c] at h1; cases h1
    ·rw [if_neg c] at h1; rw [List.mem_singleton.1 h1]; exact c
 refine this n _ ?_
 rw [show cB (dO G n) a = (dO G n)[a] by simp [cB,List.getD,h]]; exact List.getElem_mem h
theorem yS {G:List Nat} {n a:Nat} (h:a < (dO G n).length):cB (dO G n) a < n:=oB (fun _ k=>qL k) h
theorem Jg (G : List Nat) : ∀ n, (dO G n).Pairwise (· < ·)
 | 0=>List.Pairwise.nil
 | n + 1 => by
  rw [dO,List.pairwise_append]
  refine ⟨Jg G n,?_,fun a ha b hb=>?_⟩
  ·split
   ·exact List.Pairwise.nil
   ·exact List.pairwise_singleton _ _
  ·have := qL ha
   split at hb
   ·cases hb
   ·rw [List.mem_singleton.1 hb]; exact this
theorem yR {G:List Nat} {n a b:Nat} (ha:a < (dO G n).length) (hb:b < (dO G n).length) (e:cB (dO G n) a = cB (dO G n) b):a = b:=by
 have hs:=List.pairwise_iff_getElem.1 (Jg G n)
 have e1:∀ i (h:i < (dO G n).length),cB (dO G n) i = (dO G n)[i]:=fun i h=>by simp [cB,List.getD,h]
 rw [e1 a ha,e1 b hb] at e
 rcases Nat.lt_trichotomy a b with c | c | c
 ·have:=hs a b ha hb c; omega
 ·exact c
 ·have:=hs b a hb ha c; omega
theorem Fa {a k:Nat} (ha:a < (dO (iM js) N).length) (hk:k < N):gm (pJ S js N) a k = mJ S js (cB (dO (iM js) N) a) k:=by
 rw [pJ,a1b ha,kU hk]
theorem a34 (hS : cP S z.length z.length) (hj : Jn (cC js) z.length js.length) (hk : JK S js) (hz : ∀ y, y < 2 * js.length → gv z (gq (cC js) y) = gv z (gq (cC js) (gC y))) :
  kB (pJ S js z.length) (lL z S) = lL (Fj z js) (Fh z S js):=by
 have hl:(pJ S js z.length).length = (dO (iM js) z.length).length:=by rw [pJ,List.length_map]
 have hzl:(Fj z js).length = (dO (iM js) z.length).length:=aC _ _
 have hsl:(Fh z S js).length = (Fj z js).length:=by rw [Fh,aC,hzl]; rfl
 refine lX (n:=(dO (iM js) z.length).length) (m:=(dO (iM js) z.length).length) (by rw [← hl]; exact lF) (by rw [← hzl]; exact vC _ _) fun a ha b hb=>?_
 have fa:=qK ha
 have fb:=qK hb
 have la:=yS ha
 have lb:=yS hb
 have hab:a = b ↔ cB (dO (iM js) z.length) a = cB (dO (iM js) z.length) b:=⟨fun e=>e ▸ rfl,yR ha hb⟩
 rw [kR (N:=z.length) (vC z S).1 zo zo,Gn hsl zo zo,hzl]
 have e1:∀ k,k < (dO (iM js) z.length).length → gm (Fh z S js) a k = uJ S (cC js) (2 * js.length) (cB (dO (iM js) z.length) a) (cB (dO (iM js) z.length) k):=fun k hk=>jE ha hk
 have e2:∀ k,k < (dO (iM js) z.length).length → gm (Fh z S js) b k = uJ S (cC js) (2 * js.length) (cB (dO (iM js) z.length) b) (cB (dO (iM js) z.length) k):=fun k hk=>jE hb hk
 have e3:∀ k,k < (dO (iM js) z.length).length → gv (Fj z js) k = gv z (cB (dO (iM js) z.length) k):=fun k hk=>kU hk
 rw [e3 a ha,aD fun k hk=>by rw [e1 k hk,e2 k hk,e3 k hk]]
 have q0 : nK z.length (gm (pJ S js z.length) a) (gm (pJ S js z.length) b) (gm (lL z S)) = nK z.length (mJ S js (cB (dO (iM js) z.length) a)) (mJ S js (cB (dO (iM js) z.length) b)) (fun u v => (if u = v then gv z u else 0) - nK z.length (gm S u) (gm S v) (fun x y => if x = y then gv z x else 0)) :=
  oC (fun k hk=>Fa ha hk) (fun k hk=>Fa hb hk) fun u v hu hv=>by rw [Gn hS.1 hu hv,wO]
 rw [q0,a20,wO,Pk,wO]
 generalize hA:cB (dO (iM js) z.length) a = A at *
 generalize hB:cB (dO (iM js) z.length) b = B at *
 rw [Ot hj,Ot hj (fun k=>(aE z.length fun a_1=>mJ S js A a_1 * gm S a_1 k) * gv z k * (aE z.length fun a_1=>mJ S js B a_1 * gm S a_1 k).conj)]
 have p1 : aE (dO (iM js) z.length).length (fun k => mJ S js A (cB (dO (iM js) z.length) k) * gv z (cB (dO (iM js) z.length) k) * (mJ S js B (cB (dO (iM js) z.length) k)).conj) = if a = b then gv z A else 0 := by
  rw [fA ha (fun k hk hne => by
   rw [nE (qK hk),if_neg fun e=>hne (yR hk ha (e.trans hA.symm))]; grind),hA,nE fa,if_pos rfl,nE fa]
  by_cases c:a = b
  ·rw [if_pos c,if_pos (hab.1 c),a0R]; grind
  ·rw [if_neg c,if_neg fun e=>c (hab.2 e),wD]; grind
 have p2 : aE (2 * js.length) (fun y => (aE z.length fun k => mJ S js A k * gm S k (gq (cC js) y)) * gv z (gq (cC js) y) * (aE z.length fun k => mJ S js B k * gm S k (gq (cC js) y)).conj) = aE (2 * js.length) fun y => mJ S js A (gq (cC js) y) * gv z (gq (cC js) y) * (mJ S js B (gq (cC js) y)).conj := by
  rw [← Wu (fun y=>mJ S js A (gq (cC js) y) * gv z (gq (cC js) y) * (mJ S js B (gq (cC js) y)).conj)]
  exact aD fun y hy=>by rw [a1d hj hk la fa hy,a1d hj hk lb fb hy,hz y hy]
 have p3 : aE (dO (iM js) z.length).length (fun k => (aE z.length fun u => mJ S js A u * gm S u (cB (dO (iM js) z.length) k)) * gv z (cB (dO (iM js) z.length) k) * (aE z.length fun u => mJ S js B u * gm S u (cB (dO (iM js) z.length) k)).conj) = aE (dO (iM js) z.length).length fun k => uJ S (cC js) (2 * js.length) A (cB (dO (iM js) z.length) k) * gv z (cB (dO (iM js) z.length) k) * (uJ S (cC js) (2 * js.length) B (cB (dO (iM js) z.length) k)).conj :=
  aD fun k _=>by rw [a5H hj hk la fa,a5H hj hk lb fb]
 rw [p1,p2,p3]
 grind
theorem a7o (hd:Bo z js = 0) {y:Nat} (hy:y < 2 * js.length):gv z (gq (cC js) y) = gv z (gq (cC js) (gC y)):=by
 have key : ∀ k, k < js.length → gv z (gq (cC js) (2 * k)) = gv z (gq (cC js) (2 * k + 1)) := fun k hk => by
  obtain ⟨_,_,e⟩:=Ou (gH hd k hk)
  rw [(a1t hk).1,(a1t hk).2]; exact e
 have h:=key (y / 2) zo
 by_cases c:y % 2 = 0
 ·rw [show gC y = 2 * (y / 2) + 1 by unfold gC; rw [if_pos c]; omega,← h]; congr 2; omega
 ·rw [show gC y = 2 * (y / 2) by unfold gC; rw [if_neg c]; omega,h]; congr 2; omega
theorem a61 (hS:cP S z.length z.length) (hE:kE z S js = 0) (hl:z.length ≤ 8) {t:Qi}:pN z S (qS t (lL z S) z.length) js = qS t (lL (jZ z S js) (jT z S js)) (jZ z S js).length:=by
 obtain ⟨hd,hj6,hk,hne⟩:=jN hE hl
 rw [pN,jZ,jT,cD,cD,cD,if_pos hE,if_pos hE,if_pos hE]
 by_cases h0:js.length = 0
 ·obtain rfl : js = [] := List.length_eq_zero_iff.1 h0
  rw [if_pos h0,if_pos h0,Lf tB]
 ·rw [if_neg h0, if_neg h0, a0K (vC z S).1, a34 hS (rO hd) hk fun y hy => a7o hd hy]
  congr 1
  rw [pJ,List.length_map,Fj,pH,aC]; rfl
theorem a60 {c d:List (List Qi)} (hc:c.length = z.length) (hd:d.length = z.length) (hcs:cP c z.length z.length) (hds:cP d z.length z.length):pN z S (qZ c d z.length) js = qZ (pN z S c js) (pN z S d js) (jZ z S js).length:=by
 rw [pN,pN,pN,jZ,cD,cD,cD,cD]
 by_cases hE:kE z S js = 0
 ·rw [if_pos hE, if_pos hE, if_pos hE, if_pos hE, a0J hc hd]
  congr 1
  by_cases h0:js.length = 0
  ·obtain rfl : js = [] := List.length_eq_zero_iff.1 h0
   rw [if_pos h0,pJ,List.length_map,show iM [] = [] from rfl,yT,aC]
  ·rw [if_neg h0,pJ,List.length_map,Fj,pH,aC]; rfl
 ·rw [if_neg hE,if_neg hE,if_neg hE,if_neg hE]; rfl
theorem Vi {z zb:List Qi} {k:Nat} (h:k < z.length):gv (z ++ zb) k = gv z k:=by simp only [gv,List.getD,List.getElem?_append_left h]
theorem Vj {z zb:List Qi} {k:Nat}:gv (z ++ zb) (z.length + k) = gv zb k:=by simp only [gv,List.getD,List.getElem?_append_right (Nat.le_add_right _ _),Nat.add_sub_cancel_left]
theorem a1V {z zb:List Qi} {a b:List (List Qi)} (ha:a.length = z.length) (hb:b.length = zb.length):lL (z ++ zb) (mA a b z.length zb.length) = mA (lL z a) (lL zb b) z.length zb.length:=by
 have hl:(z ++ zb).length = z.length + zb.length:=List.length_append
 refine lX (n:=z.length + zb.length) (m:=z.length + zb.length) (by rw [← hl]; exact vC _ _) (qU _ _ _ _) fun i hi j hj=>?_
 have g1:∀ i k,i < z.length → k < z.length → gm (mA a b z.length zb.length) i k = gm a i k:=fun i k h1 h2=>by rw [nN zo zo,if_pos h1,if_pos h2]
 have g2:∀ i k,i < z.length → k < zb.length → gm (mA a b z.length zb.length) i (z.length + k) = 0:=fun i k h1 h2=>by rw [nN zo zo,if_pos h1,if_neg zo]; rfl
 have g3:∀ i k,i < zb.length → k < z.length → gm (mA a b z.length zb.length) (z.length + i) k = 0:=fun i k h1 h2=>by rw [nN zo zo,if_neg zo,if_neg zo]; rfl
 have g4:∀ i k,i < zb.length → k < zb.length → gm (mA a b z.length zb.length) (z.length + i) (z.length + k) = gm b i k:=fun i k h1 h2=>by rw [nN zo zo,if_neg zo,if_pos zo,Nat.add_sub_cancel_left,Nat.add_sub_cancel_left]
 rw [Gn (by rw [(qU _ _ _ _).1,hl]) zo zo,hl,tE]
 by_cases ci:i < z.length
 ·by_cases cj : j < z.length
  ·rw [nN hi hj, if_pos ci, if_pos cj, Gn ha ci cj, Vi ci, iN (m := zb.length) fun k hk => by rw [g2 i k ci hk]; grind]
   rw [aD fun k hk=>by rw [g1 i k ci hk,g1 j k cj hk,Vi hk]]; grind
  ·obtain ⟨j', rfl⟩ : ∃ j', j = z.length + j' := ⟨j - z.length, by omega⟩
   rw [nN hi hj,if_pos ci,if_neg cj,if_neg zo,iN (m:=zb.length) (fun k hk=>by rw [g2 i k ci hk]; grind),iN fun k hk=>by rw [g3 j' k zo hk,wD]; grind]
   show _ = (0:Qi); grind
 ·obtain ⟨i', rfl⟩ : ∃ i', i = z.length + i' := ⟨i - z.length, by omega⟩
  by_cases cj:j < z.length
  ·rw [nN hi hj, if_neg ci, if_neg zo, if_neg zo, iN (m := z.length) (fun k hk => by rw [g3 i' k zo hk]; grind), iN fun k hk => by rw [g2 j k cj hk, wD]; grind]
   show _ = (0:Qi); grind
  ·obtain ⟨j', rfl⟩ : ∃ j', j = z.length + j' := ⟨j - z.length, by omega⟩
   rw [nN hi hj,if_neg ci,if_pos (show z.length ≤ z.length + j' by omega),Nat.add_sub_cancel_left,Nat.add_sub_cancel_left,Gn hb zo zo,Vj,iN (m:=z.length) fun k hk=>by rw [g3 i' k zo hk]; grind]
   rw [aD fun k hk=>by rw [g4 i' k zo hk,g4 j' k zo hk,Vj]]
   by_cases c:i' = j'
   ·rw [if_pos c,if_pos (show z.length + i' = z.length + j' by omega)]; grind
   ·rw [if_neg c,if_neg (show ¬ z.length + i' = z.length + j' by omega)]; grind
theorem a2a {c d : List (List Qi)} {t : Qi} {x y : Nat} : qS t (mA c d x y) (x + y) = mA (qS t c x) (qS t d y) x y := lX tB (qU _ _ _ _) fun i hi j hj => by
 rw [qS,jE hi hj,nN hi hj,nN hi hj]
 by_cases ci:i < x
 ·rw [if_pos ci, if_pos ci]
  by_cases cj:j < x
  ·rw [if_pos cj,if_pos cj,qS,jE ci cj]
  ·rw [if_neg cj,if_neg cj]; show t * (0:Qi) = 0; grind
 ·rw [if_neg ci, if_neg ci]
  by_cases cj:x ≤ j
  ·rw [if_pos cj,if_pos cj,qS,jE zo zo]
  ·rw [if_neg cj,if_neg cj]; show t * (0:Qi) = 0; grind
end
end
section
open Go Go.RowKit
theorem Ki {n : Nat} {E : dB} {H : Hp} {d : Option Tmp} {t : TypeId} {pos : String} {af : Array Edge} {g : Option (Nat × Bool)} {x0 x1 x2 : Operand} {T0 T1 T2 : Ty} [s0 : dA T0 1 false] (h0 : bH E x0 T0) [s1 : dA T1 1 false] (h1 : bH E x1 T1) [s2 : dA T2 1 false] (h2 : bH E x2 T2) :
  aI Tryz.prog n E H ⟨d,.build 25 #[(0,x0),(1,x1),(2,x2)],t,pos,af,g⟩ (eI [T0,T1,T2]) :=
 fH (parts := [(0, x0), (1, x1), (2, x2)]) fun a V w hs => by
  have p0:=h0 n V a hs
  generalize e0:a.eval x0 = v0 at p0
  have q0:=(s0.ok v0 V p0).2.2 rfl
  have p1:=h1 n V a hs
  generalize e1:a.eval x1 = v1 at p1
  have q1:=(s1.ok v1 V p1).2.2 rfl
  have p2:=h2 n V a hs
  generalize e2:a.eval x2 = v2 at p2
  have q2:=(s2.ok v2 V p2).2.2 rfl
  refine ⟨.agg #[v0,v1,v2],?_,[v0,v1,v2],rfl,aW (⟨p0,q0⟩) (aW (⟨p1,q1⟩) (aW (⟨p2,q2⟩) (aG)))⟩
  simp [e0,e1,e2,Instr.build,Instr.fill,Sem.run_bind,Result.andThen,eL,q0.cells,q1.cells,q2.cells,O_25,U_25,Z_22,Z_23]
end
section
open Go Go.RowKit
theorem Il {z:List Qi} {s c:List (List Qi)} (hch:cP c c.length c.length) (hzl:z.length = c.length) (hl:c.length ≤ 8):iI Tryz.prog 54 [eR z s c] [] (Nat) (fun B=>Is (.slice (some ⟨B,0,none⟩) c.length c.length)) (fun B=>[pE B 29 51 5 (bS aF (tab c.length fun i=>tab c.length fun k=>gm c i k))]) (fun _=>True):=by
 refine iI.intro Tryz.func54 rfl Tryz.ntmps54 rfl (fun cx Z=>(ts (rn rfl (fK (Ht rfl)) fun B1=>(ro rfl (cX cW) (eZ (ts (ro rfl (eW A_34 Z_34 (Ht rfl) (i:=1) rfl rfl rfl) (ro rfl (cJ K_51 nC ⟨(Ht rfl),trivial⟩) (ro rfl (aI.nat (cJ K_22 lS ⟨(Ht rfl),trivial⟩) hzl) (ra rfl (eZ (ts (rm rfl (rn rfl (eS (T:=Is (.slice none 0 0)) (i:=Tryz.t29) V_30 lV rfl rfl (Ht rfl) rfl (fun _=>rfl) trivial (by show 24 * _ ≤ _; omega) zo) fun B13=>(ra rfl (eZ (cU ?_)))))))))))))))))
 refine ts (rm rfl (ro rfl (gL U_30 (Ht rfl)) (ro rfl (cZ (cV 0)) (eZ (eK (mQ 2 rfl (rP (e:=51) (s:=5)) ?_))))))
 refine bP (fun (i : Nat) => i ≤ c.length) (fun (i : Nat) => c.length - i) (fun (i : Nat) => [(1, bF B1 0), (3, NT .i64 c.length), (4, Is (.slice (some ⟨B13, 0, none⟩) c.length c.length)), (15, NT .i64 c.length), (16, NT .i64 i)]) (fun (i : Nat) => [Z, box B1 34 [aR z, bM s, bM c], pE B13 29 51 5 (bS aF (iP (fun i => tab c.length fun k => gm c i k) [] c.length i))]) 0 (Nat.zero_le _)
  (zS rfl) (aU (fun _ _ _ h=>h) (aU (fun _ _ _ h=>h) (aU (bD (by rw [← fF,kT]; exact lM aF c.length)) aY))) (fun i hi=>?_)
 refine ts (ro rfl (gZ (Ht rfl) (Ht rfl)) (eZ (cU (dX (Ht rfl) (fun hd=>?_) (fun hd=>?_)))))
 ·simp only [decide_eq_true_eq] at hd
  refine oH 2 (i) rfl (iB hd) (fun v=>(cY (cU (eK (ts (rm rfl (ra rfl (eZ (ts (rm rfl (ro rfl (cZ (cV 0)) (eZ (eK ?_)))))))))))))
  refine eO (fun (k : Nat) (v : Value) => k ≤ c.length) (fun (k : Nat) (v : Value) => c.length - k) (fun (k : Nat) (v : Value) => [(1, bF B1 0), (3, NT .i64 c.length), (4, Is (.slice (some ⟨B13, 0, none⟩) c.length c.length)), (5, NT .i64 i), (15, NT .i64 c.length), (16, NT .i64 i), (19, NT .i64 c.length), (20, NT .i64 k)]) (fun (k : Nat) (v : Value) => [Z, box B1 34 [aR z, bM s, bM c], Lp B13 29 51 5 (bS aF (iP (fun i => tab c.length fun k => gm c i k) [] c.length i)) i v, bN 51 5 v ((tab k fun k => gm c i k).map aF)]) 0 v (Nat.zero_le _)
   (zS rfl) (dD.refl _) (fun k v hk=>?_)
  refine ts (ro rfl (gZ (Ht rfl) (Ht rfl)) (eZ (cU (dX (Ht rfl) (fun he=>?_) (fun he=>?_)))))
  ·simp only [decide_eq_true_eq] at he
   refine cY (cU (eK (ts (rm rfl (ra rfl (eZ (ts (ro rfl (eW A_34 Z_34 (Ht rfl) (i:=1) rfl rfl rfl) (rm rfl (ro rfl (dW (Ht rfl) (cV 1) z6) (rm rfl (ro rfl (dW (Ht rfl) (cV 1) z6) (ro rfl (cJ Tryz.call87 (Kq (i:=(i:Int) + 1) (j:=(k:Int) + 1) hch zo) ⟨(Ht rfl),(Ht rfl),(Ht rfl),trivial⟩) (rm rfl (ro rfl (dU (Ht rfl) rfl) (ro rfl (dU (Ht rfl) rfl) ?_))))))))))))))))
   refine rn rfl (eG (Ts:=[Is (.bool false),Is (.slice none 0 0),Is (.bool false),Is (.slice none 0 0),Is (.slice none 0 0)]) O_51 rfl (fun V=>aW zd (aW zd (aW zd (aW zd (aW zd (aG))))))) fun B7=>gX Z_51 (Ht rfl) (Ht rfl) rfl (i:=4) rfl (aK rfl) rfl rfl (ra rfl (eZ (Y.D_startA (m:=9) [] 8 3 rfl rfl (cQ (Ei:=[(4,_)]) rfl rfl (bQ (bJ rfl rfl) bX) rfl rfl (dZ rfl (cZ (Ht rfl))) ?_))))
   refine cQ (Ei:=[(5,_)]) rfl rfl (bQ (bJ rfl rfl) bX) rfl rfl (dZ rfl (cZ (Ht rfl))) (cQ (Ei:=[(4,_)]) rfl rfl (bQ (bJ rfl rfl) bX) rfl rfl (dZ rfl (cZ (Ht rfl))) (cQ (Ei:=[(5,_)]) rfl rfl (bQ (bJ rfl rfl) bX) rfl rfl (dZ rfl (cZ (Ht rfl))) (cQ (Ei:=[(34,_),(35,_)]) rfl rfl (bQ (bZ 2 rfl rfl) (bQ (bZ 3 rfl rfl) bX)) rfl rfl (dZ rfl (gQ U_30 Z_29 (Ht rfl) (Ht rfl) rfl zo (by rw [Nat.mul_one,Nat.zero_add]))) ?_)))
   refine cQ (Ei:=[(36,_)]) rfl rfl (bQ (bZ 4 rfl rfl) bX) rfl rfl (dZ rfl (gM A_29 Z_29 (Ht rfl) (j:=2) rfl)) (cQ (Ei:=[(7,_)]) rfl rfl (bQ (bJ rfl rfl) bX) rfl rfl (dZ rfl (eW A_51 Z_51 (Ht rfl) (i:=4) rfl rfl rfl)) (cQ (Ei:=[(38,_)]) rfl rfl (bQ (bZ 6 rfl rfl) bX) rfl rfl (dZ rfl (cA (xs:=[.tmp 38]) U_29 Z_51 O_51 (cG (Ht rfl) cK) rfl rfl rfl)) (Y.D_app (Ei:=[(37,_),(39,_)]) rfl rfl rfl rfl (bQ (bZ 5 rfl rfl) (bQ (bZ 7 rfl rfl) bX)) rfl (qA (inf:=Tryz.t51) kX jD rfl rfl rfl (Ht rfl) (Ht rfl) (by simp) (fun T hT=>by simp at hT; subst hT; exact El.ag rfl) (by show _ * 88 ≤ _; simp only [List.length_map,aC,List.length_cons,List.length_nil]; omega) (by simp only [List.length_map,aC,List.length_cons,List.length_nil]; omega)) ?_)))
   refine Y.D_done bA rfl (by kernel_rfl) rfl (by simp [Y.okP]) rfl rfl (bU (bU (bU (bU (bU (bU (bU (bU (Y.F_app (fun v2=>Y.F_nil ?_))))))))))
   refine ro rfl (gQ U_30 Z_29 (Ht rfl) (Ht rfl) rfl zo (by rw [Nat.mul_one,Nat.zero_add])) ?_
   refine sH Z_29 (Ht rfl) (Ht rfl) (by simp only [bS,List.length_map,cL]; omega) (j:=2) (l:=5) rfl rfl rfl ?_
   refine eZ (aT (dQ (ro rfl (dW (Ht rfl) (cV 1) z6) (rm rfl (eZ (bI [0,1,2,5] rfl (by decide) (fY (k + 1,v2) he (by dsimp only; omega) (zS rfl) (aU (fun _ _ _ h=>h) (aU (fun _ _ _ h=>h) (aU (fun _ _ _ h=>h) (aU (aN (by rw [mH,List.map_append,Sm hd he]; rfl)) aY)))))))))))
  ·simp only [decide_eq_false_iff_not] at he
   obtain rfl:k = c.length:=Nat.le_antisymm hk zo
   refine gW rfl (aT (dI 2 3 rfl rfl (by decide) (by simp only [bS,List.length_map,cL]; omega) ?_))
   refine dQ (ro rfl (dW (Ht rfl) (cV 1) z6) (rm rfl (eZ (bI [0,1,2] rfl (by decide) (fY (i + 1) hd zo (zS rfl) (aU (fun _ _ _ h=>h) (aU (fun _ _ _ h=>h) (aU (bD (by rw [eN,← fR (f:=(fun i=>tab c.length fun k=>gm c i k))])) aY))))))))
 ·simp only [decide_eq_false_iff_not] at hd
  obtain rfl:i = c.length:=Nat.le_antisymm hi zo
  refine gW rfl (ts (rm rfl (ra rfl (eZ ?_))))
  exact jP B13 trivial [0,2] ⟨⟨_,rfl,fun _ _ _ h=>h⟩,⟨_,rfl,(bD (by rw [gO]))⟩,trivial⟩ (by decide) (vN rfl (eY rfl))
theorem a2O {z zb:List Qi} {s sb a b:List (List Qi)} {n L:Nat} (ha:cP a n n) (hb:cP b n n) (hz:z.length = n) (hzb:zb.length = n) (hn:n ≤ 8) (hfa:bB a L) (hfb:bB b L) (hL1:1 ≤ L) (hL:L ≤ 1000000000000):bL Tryz.prog 53 [eR z s a,eR zb sb b] (bM (qZ a b n)):=by
 have hal:=ha.1
 have hbl:=hb.1
 have hma:=Il (z:=z) (s:=s) (c:=a) (by rw [hal]; exact ha) zo zo
 have hmb:=Il (z:=zb) (s:=sb) (c:=b) (by rw [hbl]; exact hb) zo zo
 rw [hal] at hma
 rw [hbl] at hmb
 refine bL.intro Tryz.func53 rfl Tryz.ntmps53 rfl (fun cx=>?_)
 rw [← rQ hb] at hmb
 refine ts (rn rfl (fK (Ht rfl)) fun B2=>(rn rfl (fK (Ht rfl)) fun B3=>(ro rfl (cX cW) (eZ (cU (bI [0,1] rfl (by decide) (fJ (m:=3) (dp 2 rfl (eW A_34 Z_34 (Ht rfl) (i:=0) rfl rfl rfl) (C.D_new (Ei:=[(9,_)]) rfl rfl rfl (bV (bG 0 rfl rfl) bW) (nZ Tryz.call54 hma ⟨(Ht rfl),trivial⟩) (dp 3 rfl (eW A_34 Z_34 (Ht rfl) (i:=1) rfl rfl rfl) (fW bA rfl (by kernel_rfl) (aJ (C.F_new (fun B10=>aJ (aV (rn rfl (nZ Tryz.call54 hmb ⟨(Ht rfl),trivial⟩) fun B12=>?_))))))))))))))))
 refine ra rfl (ra rfl (eZ (cU (cU (gV (i:=3) (tt:=6) rfl rfl (iT (s:=5) (M:=b) hbl.symm) (bI [2] rfl (by decide) (dQ (rm rfl (ro rfl (gL U_30 (Ht rfl)) (ro rfl (cZ (cV 0)) (eZ (eK ?_))))))))))))
 refine bP (fun (i : Nat) => i ≤ n) (fun (i : Nat) => n - i) (fun (i : Nat) => [(5, Is (.slice (some ⟨B10, 0, none⟩) n n)), (6, bM b), (14, NT .i64 n), (15, NT .i64 i)]) (fun (i : Nat) => [pE B10 29 51 5 (bS aF (lB (fun i => tab n fun j => gm a i j + gm b i j) (fun i => tab n fun j => gm a i j) n i))]) 0 (Nat.zero_le _)
  (zS rfl) (aU (bD (by rw [← kA])) aY) (fun i hi=>?_)
 refine ts (ro rfl (gZ (Ht rfl) (Ht rfl)) (eZ (cU (dX (Ht rfl) (fun hd=>?_) (fun hd=>?_)))))
 ·have hdn : i < n := by simp only [decide_eq_true_eq] at hd; omega
  have hbr:=hb.row hdn
  refine oH 0 (i) rfl (sV hdn) (fun v=>(cY (cU (eK (ts (rm rfl (ra rfl (eZ (ts (rm rfl (rm rfl (ro rfl (gQ U_30 Z_29 (Ht rfl) (Ht rfl) rfl zo (by rw [Nat.mul_one,Nat.zero_add])) ?_))))))))))))
  refine ro rfl (gM A_29 Z_29 (Ht rfl) (j:=0) rfl) (ro rfl (mL U_29 (Ht rfl) (i:=1) rfl (by rw [List.length_map,aC])) ?_)
  refine ro rfl (cZ (cV 0)) (eZ (eK ?_))
  refine bP (fun (j : Nat) => j ≤ n) (fun (j : Nat) => n - j) (fun (j : Nat) => [(5, Is (.slice (some ⟨B10, 0, none⟩) n n)), (6, bM b), (7, NT .i64 i), (14, NT .i64 n), (15, NT .i64 i), (22, NT .i64 n), (23, NT .i64 j)]) (fun (j : Nat) => [Lp B10 29 51 5 (bS aF (lB (fun i => tab n fun j => gm a i j + gm b i j) (fun i => tab n fun j => gm a i j) n i)) i v, bN 51 5 v ((lB (fun j => gm a i j + gm b i j) (fun j => gm a i j) n j).map aF)]) 0 (Nat.zero_le _)
   (zS rfl) (aU (fun _ _ _ h=>h) (aU (aN (by rw [← kA])) aY)) (fun j hj=>?_)
  refine ts (ro rfl (gZ (Ht rfl) (Ht rfl)) (eZ (cU (dX (Ht rfl) (fun hf=>?_) (fun hf=>?_)))))
  ·have hfn : j < n := by simp only [decide_eq_true_eq] at hf; omega
   have hrl:=jL (fun j=>gm a i j + gm b i j) (fun j=>gm a i j) n j
   haveI f1:aM (gm a i j) L:=hfa.get hL1 i j
   haveI f2:aM (gm b i j) L:=hfb.get hL1 i j
   refine cY (cU (eK (ts (rm rfl (ra rfl (eZ (fJ (m:=20) (dp 5 rfl (cZ (Ht rfl)) (dp 7 rfl (cZ (Ht rfl)) (dT 26 0 27 1 rfl (gQ U_30 Z_29 (Ht rfl) (Ht rfl) rfl zo (by rw [Nat.mul_one,Nat.zero_add])) ?_))))))))))
   refine dq 28 2 rfl (gM A_29 Z_29 (Ht rfl) (j:=0) rfl) (dp 8 rfl (cZ (Ht rfl)) (dp 5 rfl (cZ (Ht rfl)) (dp 7 rfl (cZ (Ht rfl)) (dT 31 5 32 6 rfl (gQ U_30 Z_29 (Ht rfl) (Ht rfl) rfl zo (by rw [Nat.mul_one,Nat.zero_add])) ?_))))
   refine dq 33 7 rfl (gM A_29 Z_29 (Ht rfl) (j:=0) rfl) (dp 8 rfl (cZ (Ht rfl)) (dT 34 8 35 9 rfl (cR U_29 Z_51 (Ht rfl) (Ht rfl) rfl (i:=1) rfl (by rw [List.length_map,hrl]; exact hfn) rfl) ?_))
   refine dq 36 10 rfl (sD A_51 Z_51 (Ht rfl) (i:=1) rfl rfl (eQ (sX hfn))) (dp 6 rfl (cZ (Ht rfl)) (dp 7 rfl (cZ (Ht rfl)) (dT 38 12 39 13 rfl (dJ U_30 Z_29 (Ht rfl) (Ht rfl) rfl (eQ (dY (d:=[]) zo))) (dq 40 14 rfl (dV A_29 Z_29 (Ht rfl)) (dp 8 rfl (cZ (Ht rfl)) (dT 41 15 42 16 rfl (dJ U_29 Z_51 (Ht rfl) (Ht rfl) rfl (eQ (dY (d:=Qi.zero) zo))) (dq 43 17 rfl (dV A_51 Z_51 (Ht rfl)) (dT 37 11 44 18 rfl (cJ Tryz.call46 (Nb zo) ⟨(Ht rfl),(Ht rfl),trivial⟩) ?_))))))))
   refine fW bA rfl (by kernel_rfl) (zF (zF (zF (zF (zF (aV (ro rfl (cR U_29 Z_51 (Ht rfl) (Ht rfl) rfl (i:=1) rfl (by rw [List.length_map,hrl]; exact hfn) rfl) ?_)))))))
   refine jS Z_51 (Ht rfl) (Ht rfl) (El.ag rfl) (i:=1) rfl rfl (by rw [List.length_map,hrl]; exact hfn) rfl ?_
   refine eZ (aT (dQ (ro rfl (dW (Ht rfl) (cV 1) z6) (rm rfl (eZ (fY (j + 1) hfn zo (zS rfl) (aU (fun _ _ _ h=>h) (aU (aN (by rw [fI,← lJ (f:=(fun j=>gm a i j + gm b i j))])) aY))))))))
  ·have hfn : j = n := by simp only [decide_eq_false_iff_not] at hf; omega
   rw [hfn,lI]
   refine gW rfl (aT (dI 0 1 rfl rfl (by decide) (by simp only [bS,List.length_map,jL]; omega) ?_))
   refine dQ (ro rfl (dW (Ht rfl) (cV 1) z6) (rm rfl (eZ (bI [0] rfl (by decide) (fY (i + 1) hdn zo (zS rfl) (aU (bD (by rw [eN,← lJ (f:=(fun i=>tab n fun j=>gm a i j + gm b i j))])) aY))))))
 ·have hdn : i = n := by simp only [decide_eq_false_iff_not] at hd; omega
  rw [hdn,lI,show tab n (fun i=>tab n fun j=>gm a i j + gm b i j) = qZ a b n from rfl]
  refine gW rfl (gV (i:=0) (tt:=5) rfl rfl (iT (s:=5) (M:=qZ a b n) (aC _ _).symm) (ts (rm rfl (ra rfl (eZ ?_)))))
  exact fG rfl (eY rfl)
section
variable {z:List Rt} {s c m:List (List Rt)}
theorem a3C (h:(uH z s m).length = (uH z s c).length):uH z s m = uH z s c ∧ Ji z s m = Ji z s c:=by
 have nil:∀ c,(uH z s c).length = 0 → uH z s c = [] ∧ Ji z s c = []:=fun c h=>⟨List.length_eq_zero_iff.1 h,List.length_eq_zero_iff.1 (by rw [(oW (z:=z) (s:=s) (c:=c)).1.1,h])⟩
 have bad:∀ c,mdF z s c ≠ 0 → (uH z s c).length = 0:=fun c h=>by rw [uH,cD,if_neg h]; rfl
 by_cases a:mdF z s c = 0
 ·by_cases b : mdF z s m = 0
  ·rw [uH,uH,Ji,Ji,a,b]; exact ⟨rfl,rfl⟩
  ·have h0 := bad m b
   rw [(nil m h0).1,(nil m h0).2,(nil c zo).1,(nil c zo).2]; exact ⟨rfl,rfl⟩
 ·have h0 := bad c a
  rw [(nil m zo).1,(nil m zo).2,(nil c h0).1,(nil c h0).2]; exact ⟨rfl,rfl⟩
end
theorem Fu {z:List Qi} {c:List (List Qi)} (h:cP c z.length z.length):cT z c = 0:=by
 rw [cT,if_neg]
 rintro (k | k)
 ·exact k h.1
 ·obtain ⟨r, hr, e⟩ := List.any_eq_true.1 k
  simp [h.2 r hr,h.1] at e
theorem Mw {a b : List (List Qi)} {n L : Nat} (ha : bB a L) (hb : bB b L) (hL : 1 ≤ L) : bB (qZ a b n) (L + L + 1) := bB.tab fun i j _ _ => by
 haveI:=ha.get hL i j
 haveI:=hb.get hL i j
 infer_instance
theorem Ft {z:List Qi} {s c:List (List Qi)} {js:List (Int × Int)} (hs:bB s 2) (hcf:bB c 60000) (hl:z.length ≤ 8) (hch:cP c z.length z.length):bB (pN z s c js) 13000000:=by
 by_cases h:kE z s js = 0
 ·obtain ⟨hd, hj6, hk, hne⟩ := jN h hl
  have hPf:bB (pJ s js z.length) 60000:=(Dd (L:=2) (G:=7082) hs (by decide) (fun x=>Lg hs hj6 hk x) (by decide) zo).le (by decide)
  exact nH ((qG hPf hcf (by decide) (by rw [hch.1]; exact hl)).le (by decide))
 ·rw [pN,cD,if_neg h]; exact bB.nil
structure a50 where
 z:List Qi
 zb:List Qi
 s:List (List Qi)
 sb:List (List Qi)
 a:List (List Qi)
 b:List (List Qi)
 n:Nat
 ha:cP a n n
 hb:cP b n n
 hz:z.length = n
 hzb:zb.length = n
 hn:n ≤ 8
 hfa:bB a 13000000
 hfb:bB b 13000000
theorem Nd {z:List Rt} {s c m:List (List Rt)} {js:List (Int × Int)}:bL Tryz.prog 8 [Bx z s c,qC m,Qr js] (aH true):=by
 refine bL.intro Tryz.func8 rfl Tryz.ntmps8 rfl (fun cx=>(ts (rn rfl (fK (Ht rfl)) fun B3=>(ro rfl (cX cW) (eZ (ts (ro rfl (eJ iK (Ht rfl) rfl) (ro rfl (fQ A_22 Z_22 (Ht rfl) (i:=0) rfl rfl) (ro rfl (eJ wG (Ht rfl) rfl) (ro rfl (fQ A_23 Z_23 (Ht rfl) (i:=0) rfl rfl) (rm rfl (ro rfl (Ki (Ht rfl) (Ht rfl) (Ht rfl)) (rn rfl (eG (Ts:=[Is (.slice none 0 0),Is (.slice none 0 0),Is (.slice none 0 0)]) O_25 rfl (fun V=>aW zd (aW zd (aW zd (aG))))) fun B7=>?_)))))))))))))
 refine gX Z_25 (Ht rfl) (Ht rfl) rfl (i:=1) rfl (aK rfl) rfl rfl (eZ (cU (ts (ro rfl (eW A_25 Z_25 (Ht rfl) (i:=0) rfl rfl rfl) (ro rfl (cJ K_15 Ej ⟨(Ht rfl),trivial⟩) (ro rfl (fB (Ht rfl)) (rm rfl (fX rfl rfl (eU rfl rfl (Ht rfl) (fun h=>eW A_25 Z_25 (Ht rfl) (i:=1) rfl rfl rfl)) (fX rfl rfl (eU rfl rfl (Ht rfl) (fun h=>cJ K_15 Ej ⟨(fV rfl h),trivial⟩)) (fX rfl rfl (eU rfl rfl (Ht rfl) (fun h=>fB (fV rfl h))) (ro rfl (fO (Ht rfl) (fun h=>(fV rfl h))) ?_)))))))))))
 refine rm rfl (fX rfl rfl (eU rfl rfl (Ht rfl) (fun h=>cZ (Ht rfl))) (fX rfl rfl (eU rfl rfl (Ht rfl) (fun h=>dK U_26 (fV rfl h) aA)) (fX rfl rfl (eU rfl rfl (Ht rfl) (fun h=>dF (fV rfl h) (cV 4))) (ro rfl (fO (Ht rfl) (fun h=>(fV rfl h))) (eZ (dX (Ht rfl) (fun hb=>?_) (fun hb=>?_)))))))
 ·refine ts (ro rfl (cJ K_16 lT trivial) (ra rfl (eZ ?_)))
  exact fG rfl (eY rfl)
 ·have hf1 : nQ z s c = true := by
   apply Decidable.byContradiction; intro h
   simp [h] at hb
  have hf2 : nQ z s m = true := by
   apply Decidable.byContradiction; intro h
   simp [h] at hb
  have hjl : js.length ≤ 4 := by
   apply Decidable.byContradiction; intro h
   simp [hf1,hf2] at hb; omega
  obtain ⟨m1,m2,m3⟩:=oW (z:=z) (s:=s) (c:=c)
  obtain ⟨m4,m5,m6⟩:=xR (z:=z) (s:=s) (c:=c)
  obtain ⟨n1,n2,n3⟩:=oW (z:=z) (s:=s) (c:=m)
  obtain ⟨n4,n5,n6⟩:=xR (z:=z) (s:=s) (c:=m)
  refine cY (cU (bI [0,1] rfl (by decide) (dQ (ro rfl (eW A_25 Z_25 (Ht rfl) (i:=0) rfl rfl rfl) (ro rfl (cJ K_17 (xL hf1) ⟨(Ht rfl),trivial⟩) (rm rfl (ro rfl (dU (Ht rfl) rfl) (ro rfl (dU (Ht rfl) rfl) (ro rfl (dU (Ht rfl) rfl) (rn rfl (eG (Ts:=[Is (.slice none 0 0),Is (.slice none 0 0),Is (.slice none 0 0)]) O_34 rfl (fun V=>aW zd (aW zd (aW zd (aG))))) fun B8=>(rn rfl (eG (Ts:=[Is (.slice none 0 0),Is (.slice none 0 0),Is (.slice none 0 0)]) O_40 rfl (fun V=>aW zd (aW zd (aW zd (aG))))) fun B9=>?_)))))))))))
  refine gX Z_34 (Ht rfl) (Ht rfl) rfl (i:=2) rfl (aK rfl) rfl rfl (gX Z_40 (Ht rfl) (Ht rfl) rfl (i:=3) rfl (aK rfl) rfl rfl (ra rfl (eZ (cU (bI [0,1,2,3] rfl (by decide) (dQ (ro rfl (eW A_25 Z_25 (Ht rfl) (i:=1) rfl rfl rfl) (ro rfl (cJ K_17 (xL hf2) ⟨(Ht rfl),trivial⟩) (rm rfl (ro rfl (dU (Ht rfl) rfl) (ro rfl (dU (Ht rfl) rfl) (ro rfl (dU (Ht rfl) rfl) (rn rfl (eG (Ts:=[Is (.slice none 0 0),Is (.slice none 0 0),Is (.slice none 0 0)]) O_34 rfl (fun V=>aW zd (aW zd (aW zd (aG))))) fun B11=>?_)))))))))))))
  refine rn rfl (eG (Ts:=[Is (.slice none 0 0),Is (.slice none 0 0),Is (.slice none 0 0)]) O_40 rfl (fun V=>aW zd (aW zd (aW zd (aG))))) fun B12=>gX Z_34 (Ht rfl) (Ht rfl) rfl (i:=4) rfl (aK rfl) rfl rfl (gX Z_40 (Ht rfl) (Ht rfl) rfl (i:=5) rfl (aK rfl) rfl rfl (ra rfl (eZ (cU (bI [0,1,2,3,4,5] rfl (by decide) (dQ (ro rfl (eW A_34 Z_34 (Ht rfl) (i:=2) rfl rfl rfl) (ro rfl (cJ K_51 nC ⟨(Ht rfl),trivial⟩) ?_))))))))
  refine ro rfl (cJ K_22 lS ⟨(Ht rfl),trivial⟩) (ra rfl (eZ (cU (ts (ro rfl (eW A_34 Z_34 (Ht rfl) (i:=4) rfl rfl rfl) (ro rfl (cJ K_51 nC ⟨(Ht rfl),trivial⟩) (ro rfl (cJ K_22 lS ⟨(Ht rfl),trivial⟩) (rm rfl (ro rfl (fT (Ht rfl) (Ht rfl)) (eZ (dX (Ht rfl) (fun he=>?_) (fun he=>?_))))))))))))
  ·refine ts (ro rfl (cJ K_16 lT trivial) (ra rfl (eZ ?_)))
   exact fG rfl (eY rfl)
  ·have hel : (uH z s m).length = (uH z s c).length := by simp at he; omega
   obtain ⟨ez,es⟩:=a3C hel
   rw [ez,es] at n1
   rw [ez] at n2 n4
   rw [es] at n5
   rw [ez,es]
   obtain ⟨X0,hX0⟩:∃ X0,X0 = uH z s c:=⟨_,rfl⟩
   obtain ⟨X1,hX1⟩:∃ X1,X1 = Ji z s c:=⟨_,rfl⟩
   obtain ⟨X2,hX2⟩:∃ X2,X2 = Vv z s c:=⟨_,rfl⟩
   obtain ⟨Y2,hY2⟩:∃ Y2,Y2 = Vv z s m:=⟨_,rfl⟩
   rw [← hX0,← hX1] at m1 n1
   rw [← hX0,← hX2] at m2
   rw [← hX0,← hY2] at n2
   rw [← hX0] at m3 m4
   rw [← hX1] at m5
   rw [← hX2] at m6
   rw [← hY2] at n6
   rw [← hX0,← hX1,← hX2,← hY2]
   have hx2:=m2.1
   have hy2:=n2.1
   have hsh:cP (qZ X2 Y2 X0.length) X0.length X0.length:=cP.tab
   have hsf:bB (qZ X2 Y2 X0.length) 60000:=(Mw m6 n6 (by decide)).le (by decide)
   have hnew:=Ek (z:=X0) (s:=X1) (c:=qZ X2 Y2 X0.length) zo (by rw [hsh.1]; omega)
   rw [Fu hsh] at hnew
   have hj1:=tI (z:=X0) (s:=X1) (c:=X2) (js:=js) m4 m5 (m6.le (by decide)) m1 m2 m3 zo
   have hj2:=tI (z:=X0) (s:=X1) (c:=Y2) (js:=js) m4 m5 (n6.le (by decide)) m1 n2 m3 zo
   have hj3:=tI (z:=X0) (s:=X1) (c:=qZ X2 Y2 X0.length) (js:=js) m4 m5 hsf m1 hsh m3 zo
   rw [a60 hx2 hy2 m2 n2] at hj3
   have p5:bB (jT X0 X1 js) 900000000000:=Vz m5 m3
   have p4:cH (jZ X0 X1 js) 900000000000:=yP m4 (by decide) (by decide)
   have p6:=Ft (js:=js) m5 (m6.le (by decide)) m3 m2
   have q6:=Ft (js:=js) m5 (n6.le (by decide)) m3 n2
   obtain ⟨p1,p3⟩:=xQ (js:=js) m1
   have p2:cP (pN X0 X1 X2 js) (jZ X0 X1 js).length (jZ X0 X1 js).length:=rU m2
   have q2:cP (pN X0 X1 Y2 js) (jZ X0 X1 js).length (jZ X0 X1 js).length:=rU n2
   obtain ⟨P0,hP0⟩:∃ P0,P0 = jZ X0 X1 js:=⟨_,rfl⟩
   obtain ⟨P1,hP1⟩:∃ P1,P1 = jT X0 X1 js:=⟨_,rfl⟩
   obtain ⟨P2,hP2⟩:∃ P2,P2 = pN X0 X1 X2 js:=⟨_,rfl⟩
   obtain ⟨Q2,hQ2⟩:∃ Q2,Q2 = pN X0 X1 Y2 js:=⟨_,rfl⟩
   obtain ⟨PE,hPE⟩:∃ PE,PE = kE X0 X1 js:=⟨_,rfl⟩
   rw [← hP0,← hP1,← hP2,← hPE] at hj1
   rw [← hP0,← hP1,← hQ2,← hPE] at hj2
   rw [← hP0,← hP1,← hP2,← hQ2,← hPE] at hj3
   rw [← hP1] at p5
   rw [← hP0] at p4 p3
   rw [← hP0,← hP1] at p1
   rw [← hP2,← hP0] at p2
   rw [← hQ2,← hP0] at q2
   rw [← hP2] at p6
   rw [← hQ2] at q6
   have hsh2:cP (qZ P2 Q2 P0.length) P0.length P0.length:=cP.tab
   have hsf2:bB (qZ P2 Q2 P0.length) 900000000000:=(Mw p6 q6 (by decide)).le (by decide)
   have hnew2:=Ek (z:=P0) (s:=P1) (c:=qZ P2 Q2 P0.length) zo (by rw [hsh2.1]; omega)
   rw [Fu hsh2] at hnew2
   have heq:=tJ (z:=P0) (z':=P0) (s:=P1) (s':=P1) (c:=qZ P2 Q2 P0.length) (c':=qZ P2 Q2 P0.length) (L:=900000000000) p4 p4 p5 p5 (by decide) (by decide) p1 p1 zo zo hsf2 hsf2 hsh2 hsh2
   rw [tV,decide_eq_true rfl] at heq
   refine cY (ts (ro rfl (cX (bH.fn Tryz.call53 (γ:=a50) (Ts:=fun x=>[eR x.z x.s x.a,eR x.zb x.sb x.b]) (U:=fun x=>bM (qZ x.a x.b x.n)) (fun x=>a2O x.ha x.hb x.hz x.hzb x.hn x.hfa x.hfb (by decide) (by decide)))) (eZ (cU (bI [0,1,2,3,4,5] rfl (by decide) (Y.D_start (m:=12) [] (cQ (Ei:=[(8,_)]) rfl rfl (bQ (bJ rfl rfl) bX) rfl rfl (dZ rfl (eW A_34 Z_34 (Ht rfl) (i:=2) rfl rfl rfl)) (cQ (Ei:=[(67,_)]) rfl rfl (bQ (bZ 0 rfl rfl) bX) rfl rfl (dZ rfl (cJ K_51 nC ⟨(Ht rfl),trivial⟩)) ?_))))))))
   refine cQ (Ei:=[(15,_)]) rfl rfl (bQ (bJ rfl rfl) bX) rfl rfl (dZ rfl (cZ (Ht rfl))) (cQ (Ei:=[(8,_)]) rfl rfl (bQ (bJ rfl rfl) bX) rfl rfl (dZ rfl (eW A_34 Z_34 (Ht rfl) (i:=2) rfl rfl rfl)) (cQ (Ei:=[(11,_)]) rfl rfl (bQ (bJ rfl rfl) bX) rfl rfl (dZ rfl (eW A_34 Z_34 (Ht rfl) (i:=4) rfl rfl rfl)) (cQ (Ei:=[(69,_),(70,_),(71,_)]) rfl rfl (bQ (bZ 2 rfl rfl) (bQ (bZ 3 rfl rfl) (bQ (bZ 4 rfl rfl) bX))) rfl rfl (dZ rfl (nI (⟨X0,X0,X1,X1,X2,Y2,X0.length,m2,n2,rfl,rfl,m3,(m6.le (by decide)),(n6.le (by decide))⟩:a50) (Ht rfl) ⟨(Ht rfl),(Ht rfl),trivial⟩)) ?_)))
   refine cQ (Ei:=[(68,_),(72,_)]) rfl rfl (bQ (bZ 1 rfl rfl) (bQ (bZ 5 rfl rfl) bX)) rfl rfl (dZ rfl (cJ Tryz.call55 hnew ⟨(Ht rfl),(Ht rfl),trivial⟩)) (cQ (Ei:=[(73,_)]) rfl rfl (bQ (bZ 6 rfl rfl) bX) rfl rfl (dZ rfl (cZ (Ht rfl))) (cQ (Ei:=[(66,_)]) rfl rfl (bQ (bZ 7 rfl rfl) bX) rfl rfl (dZ rfl (dU (Ht rfl) rfl)) (cQ (Ei:=[(66,_)]) rfl rfl (bQ (bZ 7 rfl rfl) bX) rfl rfl (dZ rfl (dU (Ht rfl) rfl)) (Y.D_newp (Ei:=[]) (fun bb=>box bb 34 [aR X0,bM X1,bM (qZ X2 Y2 X0.length)]) 11 rfl rfl rfl bX rfl rfl (by kernel_rfl) (eG (Ts:=[Is (.slice none 0 0),Is (.slice none 0 0),Is (.slice none 0 0)]) O_34 rfl (fun V=>aW zd (aW zd (aW zd (aG))))) ?_))))
   refine Y.D_putN (Ei:=[(74,_)]) 10 rfl rfl rfl rfl rfl rfl (bQ (bZ 8 rfl rfl) bX) (fun bb=>qB Z_34 (Ht rfl) (Ht rfl) rfl (i:=0) rfl (aK rfl) rfl rfl) (Y.D_done bA rfl (by kernel_rfl) rfl (by simp [Y.okP]) rfl rfl (bU (bU (bU (bU (bU (bU (bU (bU (bU (bU (Y.F_newp (fun B16=>Y.F_putN (Y.F_nil ?_))))))))))))))
   refine ra rfl (eZ (cU (bI [0,1,2,3,4,5,6] rfl (by decide) (dQ (ro rfl (eW A_34 Z_34 (Ht rfl) (i:=2) rfl rfl rfl) (rm rfl (ro rfl (cJ K_18 hj1 ⟨(Ht rfl),(Ht rfl),trivial⟩) (rm rfl (ro rfl (dU (Ht rfl) rfl) (ro rfl (dU (Ht rfl) rfl) (rn rfl (eG (Ts:=[Is (.slice none 0 0),Is (.slice none 0 0),Is (.slice none 0 0)]) O_34 rfl (fun V=>aW zd (aW zd (aW zd (aG))))) fun B18=>(gX Z_34 (Ht rfl) (Ht rfl) rfl (i:=7) rfl (aK rfl) rfl rfl ?_))))))))))))
   refine ra rfl (eZ (ts (ro rfl (eW A_34 Z_34 (Ht rfl) (i:=4) rfl rfl rfl) (rm rfl (ro rfl (cJ K_18 hj2 ⟨(Ht rfl),(Ht rfl),trivial⟩) (rm rfl (ro rfl (dU (Ht rfl) rfl) (ro rfl (dU (Ht rfl) rfl) (rn rfl (eG (Ts:=[Is (.slice none 0 0),Is (.slice none 0 0),Is (.slice none 0 0)]) O_34 rfl (fun V=>aW zd (aW zd (aW zd (aG))))) fun B20=>(gX Z_34 (Ht rfl) (Ht rfl) rfl (i:=8) rfl (aK rfl) rfl rfl (ra rfl (eZ ?_))))))))))))
   refine ts (ro rfl (eW A_34 Z_34 (Ht rfl) (i:=6) rfl rfl rfl) (rm rfl (ro rfl (cJ K_18 hj3 ⟨(Ht rfl),(Ht rfl),trivial⟩) (rm rfl (ro rfl (dU (Ht rfl) rfl) (ro rfl (dU (Ht rfl) rfl) (rn rfl (eG (Ts:=[Is (.slice none 0 0),Is (.slice none 0 0),Is (.slice none 0 0)]) O_34 rfl (fun V=>aW zd (aW zd (aW zd (aG))))) fun B22=>(gX Z_34 (Ht rfl) (Ht rfl) rfl (i:=9) rfl (aK rfl) rfl rfl (ra rfl (eZ (cU (cU ?_))))))))))))
   refine bI [0,1,2,3,4,5,6,7,8,9] rfl (by decide) (dQ (rm rfl (ro rfl (gD (Ht rfl) cW) (rm rfl (fX rfl rfl (eU rfl rfl (Ht rfl) (fun h=>cZ (Ht rfl))) (fX rfl rfl (eU rfl rfl (Ht rfl) (fun h=>cZ (Ht rfl))) (fX rfl rfl (eU rfl rfl (Ht rfl) (fun h=>gD (fV rfl h) (fV rfl h))) (ro rfl (fO (Ht rfl) (fun h=>(fV rfl h))) (rm rfl (fX rfl rfl (eU rfl rfl (Ht rfl) (fun h=>cZ (Ht rfl))) (fX rfl rfl (eU rfl rfl (Ht rfl) (fun h=>cZ (Ht rfl))) (fX rfl rfl (eU rfl rfl (Ht rfl) (fun h=>gD (fV rfl h) (fV rfl h))) ?_))))))))))))
   refine ro rfl (fO (Ht rfl) (fun h=>(fV rfl h))) (eZ (kF (Ht rfl) (by simp) ?_))
   refine cY (cU (ts (rm rfl (ro rfl (gD (Ht rfl) cW) (eZ (dX (Ht rfl) (fun hg=>?_) (fun hg=>?_)))))))
   ·refine ts (ro rfl (cJ K_16 lT trivial) (ra rfl (eZ ?_)))
    exact fG rfl (eY rfl)
   ·refine cY (cU (Y.D_start (m := 12) [] (cQ (Ei := [(18, _)]) rfl rfl (bQ (bJ rfl rfl) bX) rfl rfl (dZ rfl (eW A_34 Z_34 (Ht rfl) (i := 7) rfl rfl rfl)) (cQ (Ei := [(110, _)]) rfl rfl (bQ (bZ 0 rfl rfl) bX) rfl rfl (dZ rfl (cJ K_51 nC ⟨(Ht rfl), trivial⟩)) (cQ (Ei := [(15, _)]) rfl rfl (bQ (bJ rfl rfl) bX) rfl rfl (dZ rfl (cZ (Ht rfl))) (cQ (Ei := [(18, _)]) rfl rfl (bQ (bJ rfl rfl) bX) rfl rfl (dZ rfl (eW A_34 Z_34 (Ht rfl) (i := 7) rfl rfl rfl)) ?_))))))
    refine cQ (Ei:=[(20,_)]) rfl rfl (bQ (bJ rfl rfl) bX) rfl rfl (dZ rfl (eW A_34 Z_34 (Ht rfl) (i:=8) rfl rfl rfl)) (cQ (Ei:=[(112,_),(113,_),(114,_)]) rfl rfl (bQ (bZ 2 rfl rfl) (bQ (bZ 3 rfl rfl) (bQ (bZ 4 rfl rfl) bX))) rfl rfl (dZ rfl (nI (⟨P0,P0,P1,P1,P2,Q2,P0.length,p2,q2,rfl,rfl,zo,p6,q6⟩:a50) (Ht rfl) ⟨(Ht rfl),(Ht rfl),trivial⟩)) (cQ (Ei:=[(111,_),(115,_)]) rfl rfl (bQ (bZ 1 rfl rfl) (bQ (bZ 5 rfl rfl) bX)) rfl rfl (dZ rfl (cJ Tryz.call55 hnew2 ⟨(Ht rfl),(Ht rfl),trivial⟩)) ?_))
    refine cQ (Ei:=[(116,_)]) rfl rfl (bQ (bZ 6 rfl rfl) bX) rfl rfl (dZ rfl (cZ (Ht rfl))) (cQ (Ei:=[(109,_)]) rfl rfl (bQ (bZ 7 rfl rfl) bX) rfl rfl (dZ rfl (dU (Ht rfl) rfl)) (cQ (Ei:=[(109,_)]) rfl rfl (bQ (bZ 7 rfl rfl) bX) rfl rfl (dZ rfl (dU (Ht rfl) rfl)) (Y.D_newp (Ei:=[]) (fun bb=>box bb 34 [aR P0,bM P1,bM (qZ P2 Q2 P0.length)]) 11 rfl rfl rfl bX rfl rfl (by kernel_rfl) (eG (Ts:=[Is (.slice none 0 0),Is (.slice none 0 0),Is (.slice none 0 0)]) O_34 rfl (fun V=>aW zd (aW zd (aW zd (aG))))) ?_)))
    refine Y.D_putN (Ei:=[(117,_)]) 10 rfl rfl rfl rfl rfl rfl (bQ (bZ 8 rfl rfl) bX) (fun bb=>qB Z_34 (Ht rfl) (Ht rfl) rfl (i:=0) rfl (aK rfl) rfl rfl) (Y.D_done bA rfl (by kernel_rfl) rfl (by simp [Y.okP]) rfl rfl (bU (bU (bU (bU (bU (bU (bU (bU (bU (bU (Y.F_newp (fun B24=>Y.F_putN (Y.F_nil ?_))))))))))))))
    refine ra rfl (eZ (cU (bI [0,1,2,3,4,5,6,7,8,9,10] rfl (by decide) (dQ (rm rfl (ro rfl (iQ (Ht rfl) cW) (rm rfl (fX rfl rfl (eU rfl rfl (Ht rfl) (fun h=>eW A_34 Z_34 (Ht rfl) (i:=10) rfl rfl rfl)) (fX rfl rfl (eU rfl rfl (Ht rfl) (fun h=>eW A_34 Z_34 (Ht rfl) (i:=9) rfl rfl rfl)) (fX rfl rfl (eU rfl rfl (Ht rfl) (fun h=>cJ Tryz.call52 heq ⟨(fV rfl h),(fV rfl h),trivial⟩)) (ro rfl (dM (Ht rfl) (fun h=>(fV rfl h))) (rm rfl (fX rfl rfl (eU rfl rfl (Ht rfl) (fun h=>cJ K_16 lT trivial)) ?_)))))))))))))
    refine ro rfl (dM (Ht rfl) (fun h=>(fV rfl h))) (ra rfl (eZ ?_))
    exact fG rfl (eY rfl)
end
section
open Go Go.ChangeShapes Go.WideShapes Go.ChangeAt Go.RowKit Go.Deep
section
variable {H:Type} {enc:TypeId × Value → H} {W:World} {base:Nat} {sp:Nat → Bool} {held:Bool}
theorem Yv {n : Nat} {cs : List Value} {y : DataW H × List MemPlace} (h : DataW.trod enc Tryz.prog W base sp held n 72 cs = some y) : ∃ (v : Value) (l : List Int), cs = [v] ∧ (jA 1 (l.map (aL .i64))).p v (hv W) :=
 Dm (F:=aL .i64) Tryz.underlying72 (by kernel_rfl) (by decide) (fun n cs y h=>by obtain ⟨i,e,_,_⟩:=DataW.trod_int Tryz.underlying3 h; exact ⟨i,.int .i64 i,by rw [e]; rfl,rfl⟩) h
theorem Td {b0:Nat} {v:Value} {d:DataW H} {p:List MemPlace} (ho:Value.okWide Tryz.prog W .any b0 72 v) (h:DataW.Trod enc Tryz.prog W base sp held 72 v d p):∃ l:List Int,(jA 1 (l.map (aL .i64))).p v (hv W):=by
 obtain ⟨a,n,k,rfl⟩:=okWide_slice Tryz.underlying72 ho
 obtain ⟨m,hm⟩:=h
 obtain ⟨v,l,e,hl⟩:=Yv hm
 have:[Value.slice a n k] = [v]:=e
 simp only [List.cons.injEq,and_true] at this
 subst this
 exact ⟨l,hl⟩
end
end
section
open Go Go.ChangeShapes Go.WideShapes Go.ChangeAt Go.RowKit Go.Deep
section
variable {H:Type} {enc:TypeId × Value → H} {W:World} {base:Nat} {sp:Nat → Bool} {held:Bool}
theorem a3Z {n:Nat} {cs:List Value} {y:DataW H × List MemPlace} (h:DataW.trod enc Tryz.prog W base sp held n 71 cs = some y):∃ (q:Int × Int) (x:Value),x.cells.toList = cs ∧ (JT q).p x (hv W):=by
 obtain ⟨xs,m,_,_,hl,hx,he⟩:=DataW.trod_array Tryz.underlying71 h
 have hc:Tryz.prog.cellsOf 71 = 2:=by kernel_rfl
 have hi:Tryz.prog.cellsOf 3 = 1:=by kernel_rfl
 rw [hc] at hl
 match cs,hl with
 | [c0, c1], _ =>
  match xs,hx with
  | [y0, y1], _ =>
   have e0:=he 0 zo
   have e1:=he 1 zo
   rw [hi] at e0 e1
   obtain ⟨i0,q0,_,_⟩:=DataW.trod_int Tryz.underlying3 (show DataW.trod enc Tryz.prog W base sp held m 3 [c0] = some y0 from e0)
   obtain ⟨i1,q1,_,_⟩:=DataW.trod_int Tryz.underlying3 (show DataW.trod enc Tryz.prog W base sp held m 3 [c1] = some y1 from e1)
   simp only [List.cons.injEq,and_true] at q0 q1
   subst q0 q1
   exact ⟨(i0,i1),.agg #[.int .i64 i0,.int .i64 i1],rfl,[.int .i64 i0,.int .i64 i1],rfl,aW zd (aW zd aG)⟩
theorem a1S {n : Nat} {cs : List Value} {y : DataW H × List MemPlace} (h : DataW.trod enc Tryz.prog W base sp held n 26 cs = some y) : ∃ (v : Value) (l : List (Int × Int)), cs = [v] ∧ (Qr l).p v (hv W) :=
 Dm (F:=JT) Tryz.underlying26 (by kernel_rfl) (by decide) (fun n cs y h=>a3Z h) h
theorem Jz {b0:Nat} {v:Value} {d:DataW H} {p:List MemPlace} (ho:Value.okWide Tryz.prog W .any b0 26 v) (h:DataW.Trod enc Tryz.prog W base sp held 26 v d p):∃ l:List (Int × Int),(Qr l).p v (hv W):=by
 obtain ⟨a,n,k,rfl⟩:=okWide_slice Tryz.underlying26 ho
 obtain ⟨m,hm⟩:=h
 obtain ⟨v,l,e,hl⟩:=a1S hm
 have:[Value.slice a n k] = [v]:=e
 simp only [List.cons.injEq,and_true] at this
 subst this
 exact ⟨l,hl⟩
end
end
section
open Go Go.RowKit
section
variable {z:List Qi} {S c:List (List Qi)} {N p q r t:Nat} {ζ:Qi}
theorem a3x {G:List Nat} {n k:Nat} (hk:k < n) (h:k ∉ G):∃ u,u < (dO G n).length ∧ cB (dO G n) u = k:=by
 obtain ⟨u,hu,e⟩:=List.getElem_of_mem (Lo h hk)
 exact ⟨u,hu,by rw [← e]; simp [cB,List.getD,hu]⟩
theorem a2b (hz : z.length = N) (h5 : 5 ≤ N) (h8 : N ≤ 8) (h : uL N p q r t) (hζ : ∀ i, i < N → gv z i = ζ) (hE1 : kE z S (J1 p q) = 0) (hE : kE z S (J2 p q r t) = 0) {a k : Nat} (ha : a < (dO [low r p q, low t p q] (N - 2)).length) (hkN : k < N) :
  (aE (N - 2) fun u=>mJ (jT z S (J1 p q)) (J1 (low r p q) (low t p q)) (cB (dO [low r p q,low t p q] (N - 2)) a) u * mJ S (J1 p q) (cB (dO [p,q] N) u) k) = mJ S (J2 p q r t) (cB (dO [p,q,r,t] N) a) k:=by
 have o:=Gk h8 h
 obtain ⟨q1,q2,q3,q4⟩:=Dn (S:=S) hz h5 h8 h hζ hE1
 have hE2:=q1.trans hE
 obtain ⟨d1,_,k1,_⟩:=jN hE1 zo
 obtain ⟨d2,_,k2,_⟩:=jN hE2 zo
 obtain ⟨d3,_,k3,_⟩:=jN hE zo
 have j1:=rO d1
 have j2:=rO d2
 have j3:=rO d3
 rw [hz] at j1 j3
 rw [q4] at j2
 obtain ⟨sS,_⟩:=Jq hE1
 rw [hz] at sS
 have hl2:=o.len2
 generalize hT:jT z S (J1 p q) = T at *
 have hgm:∀ i j,i < N - 2 → j < N - 2 → gm T i j = uJ S [(p,q)] 2 (cB (dO [p,q] N) i) (cB (dO [p,q] N) j):=fun i j hi hj=>by rw [sS,jE zo zo]
 have hfa:cB (dO [p,q,r,t] N) a = cB (dO [p,q] N) (cB (dO [low r p q,low t p q] (N - 2)) a):=by rw [← o.lft,Mm ha]
 have b1:cB (dO [low r p q,low t p q] (N - 2)) a < N - 2:=yS ha
 have n1:cB (dO [low r p q,low t p q] (N - 2)) a ∉ iM (J1 (low r p q) (low t p q)):=by rw [Hy]; exact qK ha
 have hfl:a < (dO [p,q,r,t] N).length:=by rw [← o.lft,List.length_map]; exact ha
 have b2:cB (dO [p,q,r,t] N) a < N:=yS hfl
 have n2:cB (dO [p,q,r,t] N) a ∉ iM (J2 p q r t):=by rw [Hz]; exact qK hfl
 have fl:∀ u,u < N - 2 → cB (dO [p,q] N) u < N ∧ cB (dO [p,q] N) u ∉ iM (J1 p q):=fun u hu=>⟨yS zo,by rw [Hy]; exact qK zo⟩
 -- the first gains at a port that is left
 have at1 : ∀ u0, u0 < N - 2 → aE (N - 2) (fun u => mJ T (J1 (low r p q) (low t p q)) (cB (dO [low r p q, low t p q] (N - 2)) a) u * mJ S (J1 p q) (cB (dO [p, q] N) u) (cB (dO [p, q] N) u0)) = mJ T (J1 (low r p q) (low t p q)) (cB (dO [low r p q, low t p q] (N - 2)) a) u0 := fun u0 hu0 => by
  rw [fA hu0 (fun u hu hne => by
   rw [nE (fl u0 hu0).2,if_neg fun e=>hne (yR zo zo e).symm]; grind),nE (fl u0 hu0).2,if_pos rfl]; grind
 rw [hfa]
 rw [hfa] at b2 n2
 generalize hi2:cB (dO [low r p q,low t p q] (N - 2)) a = i2 at *
 have sw : ∀ g, aE N (fun k => (aE (N - 2) fun u => mJ T (J1 (low r p q) (low t p q)) i2 u * mJ S (J1 p q) (cB (dO [p, q] N) u) k) * gm S k g) = aE (N - 2) fun u => mJ T (J1 (low r p q) (low t p q)) i2 u * aE N fun k => mJ S (J1 p q) (cB (dO [p, q] N) u) k * gm S k g := fun g => by
  rw [aD (g:=fun k=>aE (N - 2) fun u=>mJ T (J1 (low r p q) (low t p q)) i2 u * mJ S (J1 p q) (cB (dO [p,q] N) u) k * gm S k g) (fun k _=>(jC _ _ _).symm),jH]
  exact aD fun u _=>by rw [← oF]; exact aD fun _ _=>by grind
 refine Pv (js:=J2 p q r t) (r:=fun k=>aE (N - 2) fun u=>mJ T (J1 (low r p q) (low t p q)) i2 u * mJ S (J1 p q) (cB (dO [p,q] N) u) k) j3 k3 b2 n2 (fun k hk hkl=>?_) (fun x hx=>?_) k hkN
 ·rw [Hz] at hkl
  simp only [List.mem_cons,List.not_mem_nil,or_false,not_or] at hkl
  obtain ⟨u0,hu0,e0⟩:=a3x (G:=[p,q]) hk (by simp [hkl.1,hkl.2.1])
  rw [hl2] at hu0
  show aE (N - 2) (fun u=>_) = _
  rw [← e0, at1 u0 hu0, nE (by
   rw [Hy]
   simp only [List.mem_cons,List.not_mem_nil,or_false,not_or]
   exact ⟨fun e=>hkl.2.2.1 (by rw [← e0,e,o.gr]),fun e=>hkl.2.2.2 (by rw [← e0,e,o.gt])⟩)]
  by_cases c:u0 = i2
  ·rw [if_pos c,if_pos (by rw [c])]
  ·rw [if_neg c,if_neg fun e=>c (yR zo zo e)]
 ·show aE (N - 2) (fun u => _) = aE N (fun k => (aE (N - 2) fun u => _) * _)
  rw [sw]
  have c:x = 0 ∨ x = 1 ∨ x = 2 ∨ x = 3:=by have:x < 2 * 2:=hx; omega
  have g1 : ∀ y, y < 2 → aE (N - 2) (fun u => mJ T (J1 (low r p q) (low t p q)) i2 u * mJ S (J1 p q) (cB (dO [p, q] N) u) (gq (cC (J1 p q)) (gC y))) = aE (N - 2) fun u => mJ T (J1 (low r p q) (low t p q)) i2 u * aE N fun k => mJ S (J1 p q) (cB (dO [p, q] N) u) k * gm S k (gq (cC (J1 p q)) y) := fun y hy =>
   aD fun u hu=>by rw [a1d j1 k1 (fl u hu).1 (fl u hu).2 (show y < 2 * 1 from hy)]
  have g2 : ∀ y, y < 2 → aE (N - 2) (fun u => mJ T (J1 (low r p q) (low t p q)) i2 u * mJ S (J1 p q) (cB (dO [p, q] N) u) (cB (dO [p, q] N) (gq (cC (J1 (low r p q) (low t p q))) (gC y)))) = aE (N - 2) fun u => mJ T (J1 (low r p q) (low t p q)) i2 u * aE N fun k => mJ S (J1 p q) (cB (dO [p, q] N) u) k * gm S k (cB (dO [p, q] N) (gq (cC (J1 (low r p q) (low t p q))) y)) := fun y hy => by
   have l1:=j2.lt y (show y < 2 * 1 from hy)
   have l2:=j2.lt (gC y) (kW (show y < 2 * 1 from hy))
   rw [at1 _ l2,← a1d j2 k2 b1 n1 (show y < 2 * 1 from hy)]
   exact aD fun u hu => by
    rw [a5H j1 k1 (fl u hu).1 (fl u hu).2,hgm u _ hu l1,show uJ S (cC (J1 p q)) (2 * (J1 p q).length) = uJ S [(p,q)] 2 by rw [Ln]; rfl]
  have w0:=g1 0 zo
  have w1:=g1 1 zo
  have w2:=g2 0 zo
  have w3:=g2 1 zo
  rw [Ln,show gC 0 = 1 from rfl,show gq [(p,q)] 0 = p from rfl,show gq [(p,q)] 1 = q from rfl] at w0
  rw [Ln,show gC 1 = 0 from rfl,show gq [(p,q)] 0 = p from rfl,show gq [(p,q)] 1 = q from rfl] at w1
  rw [Ln,show gC 0 = 1 from rfl,show gq [(low r p q,low t p q)] 0 = low r p q from rfl,show gq [(low r p q,low t p q)] 1 = low t p q from rfl,o.gr,o.gt] at w2
  rw [Ln,show gC 1 = 0 from rfl,show gq [(low r p q,low t p q)] 0 = low r p q from rfl,show gq [(low r p q,low t p q)] 1 = low t p q from rfl,o.gr,o.gt] at w3
  rw [a1u]
  rcases c with rfl | rfl | rfl | rfl
  ·exact w0
  ·exact w1
  ·exact w2
  ·exact w3
theorem Zk (hz:z.length = N) (h5:5 ≤ N) (h8:N ≤ 8) (h:uL N p q r t) (hζ:∀ i,i < N → gv z i = ζ) (hE:kE z S (J2 p q r t) = 0) {i k:Nat} (hi:i < N) (hil:i ∉ iM (J2 p q r t)) (hkN:k < N):mJ S (J2 r t p q) i k = mJ S (J2 p q r t) i k:=by
 obtain ⟨q1,_,_⟩:=Gm (S:=S) hz h5 h8 h hζ
 have hE2:=q1.trans hE
 obtain ⟨d1,_,k1,_⟩:=jN hE2 zo
 obtain ⟨d3,_,k3,_⟩:=jN hE zo
 have j1:=rO d1
 have j3:=rO d3
 rw [hz] at j1 j3
 have hm : ∀ k, k ∈ iM (J2 p q r t) ↔ k ∈ iM (J2 r t p q) := fun k => by
  rw [Hz,Hz]; simp only [List.mem_cons,List.not_mem_nil,or_false]
  constructor
  ·rintro (e | e | e | e) <;> simp [e]
  ·rintro (e | e | e | e) <;> simp [e]
 refine Pv (js:=J2 p q r t) (r:=mJ S (J2 r t p q) i) j3 k3 hi hil (fun k hk hkl=>nE fun e=>hkl ((hm k).2 e)) (fun x hx=>?_) k hkN
 have g:∀ y,y < 4 → aE N (fun k=>mJ S (J2 r t p q) i k * gm S k (gq (cC (J2 r t p q)) y)) = mJ S (J2 r t p q) i (gq (cC (J2 r t p q)) (gC y)):=fun y hy=>a1d j1 k1 hi (fun e=>hil ((hm i).2 e)) (show y < 2 * 2 from hy)
 have w0:=(g 0 zo).symm
 have w1:=(g 1 zo).symm
 have w2:=(g 2 zo).symm
 have w3:=(g 3 zo).symm
 rw [a1u] at w0 w1 w2 w3 ⊢
 have c:x = 0 ∨ x = 1 ∨ x = 2 ∨ x = 3:=by have:x < 2 * 2:=hx; omega
 rcases c with rfl | rfl | rfl | rfl
 ·exact w2
 ·exact w3
 ·exact w0
 ·exact w1
theorem xS {js:List (Int × Int)} (hE:kE z S js = 0):pN z S c js = kB (pJ S js z.length) c:=by rw [pN,cD,if_pos hE]
theorem Le {js:List (Int × Int)}:(pJ S js N).length = (dO (iM js) N).length:=by rw [pJ,List.length_map]
theorem Sy (hz:z.length = N) (h5:5 ≤ N) (h8:N ≤ 8) (h:uL N p q r t) (hζ:∀ i,i < N → gv z i = ζ) (hc:c.length = N) (hE:kE z S (J2 p q r t) = 0):pN z S c (J2 r t p q) = pN z S c (J2 p q r t):=by
 have o:=Gk h8 h
 obtain ⟨q1,_,_⟩:=Gm (S:=S) hz h5 h8 h hζ
 rw [xS (q1.trans hE),xS hE,hz]
 have hL:dO (iM (J2 r t p q)) N = dO (iM (J2 p q r t)) N:=by rw [Hz,Hz]; exact o.swp
 congr 1
 rw [pJ,pJ,hL]
 refine List.map_congr_left fun i hi=>eH fun k hk=>Zk hz h5 h8 h hζ hE (qL hi) ?_ hk
 obtain ⟨a,ha,e⟩:=List.getElem_of_mem hi
 have:=qK ha
 rwa [show cB (dO (iM (J2 p q r t)) N) a = i by rw [← e]; simp [cB,List.getD,ha]] at this
theorem Jr (hz : z.length = N) (h5 : 5 ≤ N) (h8 : N ≤ 8) (h : uL N p q r t) (hζ : ∀ i, i < N → gv z i = ζ) (hc : c.length = N) (hE1 : kE z S (J1 p q) = 0) (hE : kE z S (J2 p q r t) = 0) :
  pN (jZ z S (J1 p q)) (jT z S (J1 p q)) (pN z S c (J1 p q)) (J1 (low r p q) (low t p q)) = pN z S c (J2 p q r t):=by
 have o:=Gk h8 h
 obtain ⟨q1,q2,q3,q4⟩:=Dn (S:=S) hz h5 h8 h hζ hE1
 rw [xS (q1.trans hE),xS hE,xS hE1,hz,q4]
 have l1:(pJ S (J1 p q) N).length = N - 2:=by rw [Le,Hy,o.len2]
 have l2:(pJ (jT z S (J1 p q)) (J1 (low r p q) (low t p q)) (N - 2)).length = N - 4:=by rw [Le,Hy,← o.len4,← o.lft,List.length_map]
 have l3:(pJ S (J2 p q r t) N).length = N - 4:=by rw [Le,Hz,o.len4]
 have m2:(dO [low r p q,low t p q] (N - 2)).length = N - 4:=by rw [← o.len4,← o.lft,List.length_map]
 refine lX (n:=N - 4) (m:=N - 4) (by have:=lF (p:=pJ (jT z S (J1 p q)) (J1 (low r p q) (low t p q)) (N - 2)) (c:=kB (pJ S (J1 p q) N) c); rwa [l2] at this) (by have:=lF (p:=pJ S (J2 p q r t) N) (c:=c); rwa [l3] at this) fun a ha b hb=>?_
 rw [kR (N:=N - 2) (by rw [lF.1,l1]) zo zo,kR hc zo zo]
 have e1 : nK (N - 2) (gm (pJ (jT z S (J1 p q)) (J1 (low r p q) (low t p q)) (N - 2)) a) (gm (pJ (jT z S (J1 p q)) (J1 (low r p q) (low t p q)) (N - 2)) b) (gm (kB (pJ S (J1 p q) N) c)) = nK (N - 2) (gm (pJ (jT z S (J1 p q)) (J1 (low r p q) (low t p q)) (N - 2)) a) (gm (pJ (jT z S (J1 p q)) (J1 (low r p q) (low t p q)) (N - 2)) b) (fun u v => nK N (gm (pJ S (J1 p q) N) u) (gm (pJ S (J1 p q) N) v) (gm c)) :=
  oC (fun _ _=>rfl) (fun _ _=>rfl) fun u v hu hv=>kR hc zo zo
 rw [e1,Pk]
 have key : ∀ a, a < N - 4 → ∀ k, k < N → (aE (N - 2) fun u => gm (pJ (jT z S (J1 p q)) (J1 (low r p q) (low t p q)) (N - 2)) a u * gm (pJ S (J1 p q) N) u k) = gm (pJ S (J2 p q r t) N) a k := fun a ha k hk => by
  rw [Fa (by rw [Hz,o.len4]; exact ha) hk,Hz,← a2b hz h5 h8 h hζ hE1 hE zo hk]
  exact aD fun u hu => by
   rw [Fa (by rw [Hy]; omega) hu,Fa (by rw [Hy,o.len2]; exact hu) hk,Hy,Hy]
 exact oC (key a ha) (key b hb) fun _ _ _ _=>rfl
end
end
section
open Go Go.RowKit
theorem Qy {n : Nat} {E : dB} {H : Hp} {d : Option Tmp} {t : TypeId} {pos : String} {af : Array Edge} {g : Option (Nat × Bool)} {x1 x2 : Operand} {T1 T2 : Ty} [s1 : dA T1 1 false] (h1 : bH E x1 T1) [s2 : dA T2 1 false] (h2 : bH E x2 T2) :
  aI Tryz.prog n E H ⟨d,.build 25 #[(1,x1),(2,x2)],t,pos,af,g⟩ (eI [Is (.slice none 0 0),T1,T2]) :=
 fH (parts := [(1, x1), (2, x2)]) fun a V w hs => by
  have p1:=h1 n V a hs
  generalize e1:a.eval x1 = v1 at p1
  have q1:=(s1.ok v1 V p1).2.2 rfl
  have p2:=h2 n V a hs
  generalize e2:a.eval x2 = v2 at p2
  have q2:=(s2.ok v2 V p2).2.2 rfl
  refine ⟨.agg #[(.slice none 0 0),v1,v2],?_,[(.slice none 0 0),v1,v2],rfl,aW (⟨rfl,trivial⟩) (aW (⟨p1,q1⟩) (aW (⟨p2,q2⟩) (aG)))⟩
  simp [e1,e2,Instr.build,Instr.fill,Sem.run_bind,Result.andThen,eL,q1.cells,q2.cells,O_25,U_25,Z_22,Z_23]
end
section
open Go Go.RowKit
theorem a5T {A B C A' C':Ty} (h1:A = A') (h3:C = C'):∀ v V,(eI [A,B,C]).p v V → (eI [A',B,C']).p v V:=fun _ _ h=>h1 ▸ h3 ▸ h
abbrev Ey (z:List Rt):List Rt:=tab z.length fun _=>z.getD 0 default
abbrev Zq (n:Nat):List (List Rt):=tab n fun _=>tab n fun _=>default
theorem a25 {α:Type} (x:α) (n:Nat):List.replicate n x = tab n fun _=>x:=zI _ _
theorem Kn {z:List Rt} {s c:List (List Rt)} (h1:1 ≤ z.length) (hl:z.length ≤ 9):bL Tryz.prog 56 [Bx z s c] (Bx (Ey z) s (Zq z.length)):=by
 refine bL.intro Tryz.func56 rfl Tryz.ntmps56 rfl (fun cx=>(ts (rn rfl (fK (Ht rfl)) fun B1=>(rn rfl (eG (Ts:=[Is (.slice none 0 0),Is (.slice none 0 0),Is (.slice none 0 0)]) O_25 rfl (fun V=>aW zd (aW zd (aW zd (aG))))) fun B2=>(eZ (cU (fJ (m:=8) (dp 1 rfl (eJ wG (Ht rfl) rfl) (dq 5 0 rfl (fQ A_23 Z_23 (Ht rfl) (i:=0) rfl rfl) (dp 1 rfl (eJ iK (Ht rfl) rfl) (dq 7 2 rfl (fQ A_22 Z_22 (Ht rfl) (i:=0) rfl rfl) ?_)))))))))))
 refine dq 8 3 rfl (dK U_22 (Ht rfl) aA) (C.D_new (Ei:=[(9,_)]) rfl rfl rfl (bV (bG 4 rfl rfl) bW) (eS (T:=Is (.slice none 0 0)) (i:=Tryz.t22) Tryz.underlying23 a3o rfl rfl (Ht rfl) rfl (fun _=>rfl) trivial (by show 24 * _ ≤ _; omega) zo) (C.D_dep (fun T U=>eI [Is (.slice none 0 0),T,U]) 1 5 rfl rfl rfl rfl rfl rfl (fun T U hT hU=>by subst hT; obtain ⟨y,rfl⟩:=hU; (try dsimp only); exact dZ rfl (Qy (Ht rfl) (Ht rfl))) (C.D_new (Ei:=[]) rfl rfl rfl bW (eG (Ts:=[Is (.slice none 0 0),Is (.slice none 0 0),Is (.slice none 0 0)]) O_25 rfl (fun V=>aW zd (aW zd (aW zd (aG))))) ?_)))
 refine fW bA rfl (by kernel_rfl) (zF (aJ (C.F_new (fun B10=>C.F_dep rfl rfl (C.F_new (fun B3=>aV (gX Z_25 (Ht rfl) (Ht rfl) rfl (i:=3) rfl (aK rfl) rfl rfl (eZ (cU (ts (ro rfl (eJ iK (Ht rfl) rfl) (ro rfl (fQ A_22 Z_22 (Ht rfl) (i:=0) rfl rfl) (ro rfl (dK U_22 (Ht rfl) aA) (ro rfl (cZ (cV 0)) (eZ (eK (mQ 2 rfl (rP (e:=102) (s:=3)) (rC 102 3 ?_))))))))))))))))))
 refine eO (fun (i : Nat) (vz : Value) => i ≤ z.length) (fun (i : Nat) (vz : Value) => z.length - i) (fun (i : Nat) (vz : Value) => [(1, bF B1 0), (2, bF B2 0), (3, bF B3 0), (14, NT .i64 z.length), (15, NT .i64 i)]) (fun (i : Nat) (vz : Value) => [box B1 25 [pI z, qC s, qC c], box B2 25 [Is (.slice none 0 0), Is (.slice none 0 0), Is (.slice none 0 0)], pE B10 22 102 3 (iP (fun _ => List.replicate z.length (uF default)) [] z.length i), box B3 25 [Is vz, qC s, Is (.slice (some ⟨B10, 0, none⟩) z.length z.length)], bN 102 3 vz (tab i fun _ => uF (z.getD 0 default))]) 0 _ (Nat.zero_le _)
  (zS rfl) (aU (aB rfl) (aU (aB rfl) (aU (bD (by rw [← fF]; exact zI _ _)) (aU (aB rfl) (aU (aN rfl) aY))))) (fun i vz hi=>?_)
 refine ts (ro rfl (gZ (Ht rfl) (Ht rfl)) (eZ (cU (dX (Ht rfl) (fun hd=>?_) (fun hd=>?_)))))
 ·have hdn : i < z.length := by simp only [decide_eq_true_eq] at hd; omega
  refine cY (cU (eK (ts (rm rfl (ra rfl (eZ (cU (fJ (m:=7) (dp 3 rfl (eJ iK (Ht rfl) rfl) (dq 18 0 rfl (zA A_22 Z_22 (Ht rfl) (i:=3) rfl rfl) (dp 1 rfl (eJ iK (Ht rfl) rfl) (dq 20 2 rfl (fQ A_22 Z_22 (Ht rfl) (i:=0) rfl rfl) (dq 21 3 rfl (dJ U_22 Z_102 (Ht rfl) (cV 0) rfl (eQ (dY (d:=default) zo))) (dq 22 4 rfl (dV A_102 Z_102 (Ht rfl)) (dq 23 5 rfl (cA (xs:=[.tmp 23]) U_22 Z_102 O_102 (cG (Ht rfl) cK) rfl rfl rfl) ?_)))))))))))))))
  refine fW bA rfl (by kernel_rfl) (zF (aJ (aJ (aJ (aV (lC (inf:=Tryz.t102) Tf Fd rfl rfl rfl (Ht rfl) (Ht rfl) (i:=4) rfl (by simp) (fun T hT=>by simp at hT; subst hT; exact El.ag rfl) (by show _ * 24 ≤ _; simp only [List.length_map,aC,List.length_cons,List.length_nil]; omega) (by simp only [List.length_map,aC,List.length_cons,List.length_nil]; omega) rfl (fun v25=>?_)))))))
  refine ro rfl (eJ iK (Ht rfl) rfl) (a01 (l:=4) Z_22 (Ht rfl) (Ht rfl) (i:=3) rfl rfl (aK rfl) rfl (eZ (oH 2 (i) rfl (Vw hdn) (fun v0=>(fJ (m:=7) (dp 3 rfl (eJ tM (Ht rfl) rfl) (dq 27 0 rfl (fQ A_23 Z_23 (Ht rfl) (i:=3) rfl rfl) (dp 4 rfl (cZ (Ht rfl)) (dp 1 rfl (eJ iK (Ht rfl) rfl) (dq 30 3 rfl (fQ A_22 Z_22 (Ht rfl) (i:=0) rfl rfl) (dq 31 4 rfl (dK U_22 (Ht rfl) aA) (C.D_new (Ei:=[(32,_)]) rfl rfl rfl (bV (bG 5 rfl rfl) bW) (kS (T:=uF default) (i:=Tryz.t102) Tf Fd rfl rfl (Ht rfl) rfl a6g (El.ag rfl) (by show 24 * _ ≤ _; omega) zo) ?_))))))))))))
  refine fW bA rfl (by kernel_rfl) (zF (aJ (aJ (C.F_new (fun B33=>aV (ro rfl (gQ U_23 Z_22 (Ht rfl) (Ht rfl) rfl zo (by rw [Nat.mul_one,Nat.zero_add])) ?_))))))
  refine sH Z_22 (Ht rfl) (Ht rfl) (by rw [cL]; omega) (j:=2) (l:=6) rfl rfl rfl ?_
  refine eZ (aT (bI [0,1,2,3,4,6] rfl (by decide) (dI 2 5 rfl rfl (by decide) (by rw [cL]; omega) ?_)))
  refine dQ (ro rfl (dW (Ht rfl) (cV 1) z6) (rm rfl (eZ (bI [0,1,2,3,4] rfl (by decide) (fY (i + 1,v25) hdn (by dsimp only; omega) (zS rfl) (aU (aB rfl) (aU (aB rfl) (aU (bD (fR (f:=(fun _=>List.replicate z.length (uF default))))) (aU (aB rfl) (aU (aN (by rw [mH])) aY))))))))))
 ·have hdn : i = z.length := by simp only [decide_eq_false_iff_not] at hd; omega
  rw [hdn,gO]
  refine gW rfl (sJ 3 4 0 rfl rfl rfl (by decide) (qE 3 2 2 rfl rfl rfl (by decide) (fun S V h=>a7n (aC _ _).symm _ S V rfl h) (ts (ro rfl (eW A_25 Z_25 (Ht rfl) (i:=3) rfl rfl rfl) (gX Z_25 (Ht rfl) (Ht rfl) rfl (i:=1) rfl (aK rfl) rfl rfl (eZ (fG rfl (fZ (fU A_25 Z_25 rfl (i:=1) rfl rfl) ?_))))))))
  exact (a5T (by rw [pI,oO]) (by rw [qC,oO,oO]; exact congrArg _ (eH fun _ _=>by rw [pI,oO,a25])))
theorem a3y:∀ N,N < 9 → ∀ p,p < N → ∀ q,q < N → p ≠ q → (dO [p,q] N).length ≤ 6:=by decide
section
variable {z:List Qi} {S c:List (List Qi)} {p q:Nat}
theorem a4T (hE:kE z S (J1 p q) = 0) (hl:z.length ≤ 8):JK S (J1 p q):=(jN hE hl).2.2.1
theorem a1J (hl:z.length ≤ 8):(jZ z S (J1 p q)).length ≤ 6:=by
 by_cases hE:kE z S (J1 p q) = 0
 ·have hj := rO (jN hE hl).1
  have h0:=hj.lt 0 (show 0 < 2 * 1 by decide)
  have h1:=hj.lt 1 (show 1 < 2 * 1 by decide)
  have hi:=hj.inj 0 1 (show 0 < 2 * 1 by decide) (show 1 < 2 * 1 by decide)
  rw [Ln] at h0 h1 hi
  rw [(Jq hE).2,Gy]
  exact a3y _ zo p h0 q h1 fun e=>absurd (hi e) (by decide)
 ·rw [(rD hE).2]; exact Nat.zero_le _
theorem Ld {L : Nat} (hf : bB S L) (hL : 1 ≤ L) (hl : z.length ≤ 8) (hE : kE z S (J1 p q) = 0) : bB (pJ S (J1 p q) z.length) (8 * (L + a4o (L + 2)) + 19) :=
 Dd hf hL (fun x=>a2i (n:=2 * (J1 p q).length) (jW _ _ _) (tR hf hL) ((a12 (Nat.le_refl 1)).le zo) zo (by simp) (a4T hE hl _)) (by unfold a4o; omega) (by simp)
theorem We (hz:cH z 2) (hf:bB S 2) (hc:bB c 2) (hl:z.length ≤ 8) (hch:cP c z.length z.length):cH (jZ z S (J1 p q)) 400 ∧ bB (jT z S (J1 p q)) 400 ∧ bB (pN z S c (J1 p q)) 2000000:=by
 refine ⟨yP hz (by decide) (by decide),?_,?_⟩
 ·by_cases hE : kE z S (J1 p q) = 0
  ·exact a1s hf hE fun y _ => by
    have h:=a4T hE hl (uG S [(p,q)] 2 (cB (eE z (J1 p q)) y))
    rw [Ln] at h; exact h
  ·rw [(rD hE).1]; exact bB.nil
 ·by_cases hE : kE z S (J1 p q) = 0
  ·rw [xS hE]
   exact (qG (L:=9683) ((Ld hf (by decide) hl hE).le (by decide)) (hc.le (by decide)) (by decide) (by rw [hch.1]; exact hl)).le (by decide)
  ·rw [pN,cD,if_neg hE]; exact bB.nil
theorem Wf (hz:cH z 400) (hf:bB S 400) (hc:bB c 2000000) (hl:z.length ≤ 8) (hch:cP c z.length z.length):cH (jZ z S (J1 p q)) 900000000000 ∧ bB (jT z S (J1 p q)) 900000000000 ∧ bB (pN z S c (J1 p q)) 900000000000:=by
 refine ⟨yP hz (by decide) (by decide),Vq (L:=400) (G:=400000000) hf (by decide) (fun _=>(by decide:rX (eD (400 + 2) 2) 2 ≤ 400000000)) (fun m hm _=>by subst hm; exact (by decide:400 + 2 * (2 * 400000000 + 2) ≤ 900000000000)),?_⟩
 by_cases hE:kE z S (J1 p q) = 0
 ·rw [xS hE]
  exact (qG (L:=2000000) ((Ld hf (by decide) hl hE).le (by decide)) hc (by decide) (by rw [hch.1]; exact hl)).le (by decide)
 ·rw [pN,cD,if_neg hE]; exact bB.nil
theorem Jk (hz : cH z 400) (hf : bB S 400) (hc : bB c 2000000) (hsh : cP S z.length z.length) (hch : cP c z.length z.length) (h6 : z.length ≤ 6) : bL Tryz.prog 18 [eR z S c, Qr (J1 p q)] (fS [eR (jZ z S (J1 p q)) (jT z S (J1 p q)) (pN z S c (J1 p q)), aL .i64 (kE z S (J1 p q))]) :=
 Nh (L := 400) (G := 2000000) hz hf (by decide) (by decide) hc (by decide) (by decide) (fun hE => (Ld hf (by decide) zo hE).le (by decide)) hsh hch zo (by simp)
  (fun k hk=>Nat.le_trans (Nat.add_le_add_right (Nat.mul_le_mul_left 6 (mV _ (show 2 * k ≤ 4 by omega))) 4) (by decide))
  (fun k hk=>Nat.le_trans (Nat.le_trans (wT (mV _ (show 2 * k ≤ 4 by omega)) _) (vT _ (show 2 * k + 1 ≤ 5 by omega))) (by decide))
theorem Wg (hE:kE z S (J2 0 1 2 3) = 0) (hl:z.length ≤ 8):5 ≤ z.length:=by
 obtain ⟨hd,_,_,hne⟩:=jN hE hl
 have h3:=(rO hd).lt 3 (by decide)
 rw [a1u] at h3
 have h3':3 < z.length:=h3
 have h4:=hne (by decide)
 have h4':2 * 2 ≠ z.length:=h4
 omega
theorem a63 {ζ : Qi} (hl : z.length ≤ 8) (hζ : ∀ i, i < z.length → gv z i = ζ) (hc : c.length = z.length) (hE : kE z S (J2 0 1 2 3) = 0) (h1 : kE z S (J1 0 1) = 0) :
  kE (jZ z S (J1 0 1)) (jT z S (J1 0 1)) (J1 0 1) = 0 ∧ jZ (jZ z S (J1 0 1)) (jT z S (J1 0 1)) (J1 0 1) = jZ z S (J2 0 1 2 3) ∧ jT (jZ z S (J1 0 1)) (jT z S (J1 0 1)) (J1 0 1) = jT z S (J2 0 1 2 3) ∧ pN (jZ z S (J1 0 1)) (jT z S (J1 0 1)) (pN z S c (J1 0 1)) (J1 0 1) = pN z S c (J2 0 1 2 3):=by
 have h5:=Wg hE hl
 have h4:uL z.length 0 1 2 3:=⟨by omega,by omega,by omega,by omega,by decide,by decide,by decide,by decide,by decide,by decide⟩
 obtain ⟨a,b,d,_⟩:=Dn (S:=S) rfl h5 hl h4 hζ h1
 have e:=Jr (S:=S) rfl h5 hl h4 hζ hc h1 hE
 exact ⟨a.trans hE,b,d,e⟩
theorem a64 {ζ : Qi} (hl : z.length ≤ 8) (hζ : ∀ i, i < z.length → gv z i = ζ) (hc : c.length = z.length) (hE : kE z S (J2 0 1 2 3) = 0) (h1 : kE z S (J1 2 3) = 0) :
  kE (jZ z S (J1 2 3)) (jT z S (J1 2 3)) (J1 0 1) = 0 ∧ jZ (jZ z S (J1 2 3)) (jT z S (J1 2 3)) (J1 0 1) = jZ z S (J2 0 1 2 3) ∧ jT (jZ z S (J1 2 3)) (jT z S (J1 2 3)) (J1 0 1) = jT z S (J2 0 1 2 3) ∧ pN (jZ z S (J1 2 3)) (jT z S (J1 2 3)) (pN z S c (J1 2 3)) (J1 0 1) = pN z S c (J2 0 1 2 3):=by
 have h5:=Wg hE hl
 have h4:uL z.length 0 1 2 3:=⟨by omega,by omega,by omega,by omega,by decide,by decide,by decide,by decide,by decide,by decide⟩
 obtain ⟨u,v,w⟩:=Gm (S:=S) rfl h5 hl h4 hζ
 have x:=Sy (S:=S) rfl h5 hl h4 hζ hc hE
 obtain ⟨a,b,d,_⟩:=Dn (S:=S) rfl h5 hl h4.swap hζ h1
 have e:=Jr (S:=S) rfl h5 hl h4.swap hζ hc h1 (u.trans hE)
 exact ⟨a.trans (u.trans hE),b.trans v,d.trans w,e.trans x⟩
end
theorem a5X {z:List Rt} {s c:List (List Rt)} {i:Nat} (h:i < (uH (Ey z) s c).length):gv (uH (Ey z) s c) i = (z.getD 0 default).q:=by
 have key : ∀ e f : Int, i < (cD e (cD f ((Ey z).map Rt.q))).length → gv (cD e (cD f ((Ey z).map Rt.q))) i = (z.getD 0 default).q := fun e f h => by
  unfold cD at h ⊢
  split at h
  ·rw [if_pos (by assumption)]
   split at h
   ·rw [if_pos (by assumption)]
    rw [List.length_map,aC] at h
    rw [oO,kU h]
   ·simp at h
  ·simp at h
 exact key _ _ h
theorem Bz {z:List Rt} {s c:List (List Rt)}:bL Tryz.prog 9 [Bx z s c] (aH true):=by
 refine bL.intro Tryz.func9 rfl Tryz.ntmps9 rfl (fun cx=>(ts (rn rfl (fK (Ht rfl)) fun B1=>(ro rfl (cX cW) (eZ (cU (ts (ro rfl (eW A_25 Z_25 (Ht rfl) (i:=0) rfl rfl rfl) (ro rfl (cJ K_15 Ej ⟨(Ht rfl),trivial⟩) (ro rfl (fB (Ht rfl)) (rm rfl (fX rfl rfl (eU rfl rfl (Ht rfl) (fun h=>eJ iK (Ht rfl) rfl)) (fX rfl rfl (eU rfl rfl (Ht rfl) (fun h=>fQ A_22 Z_22 (fV rfl h) (i:=0) rfl rfl)) (fX rfl rfl (eU rfl rfl (Ht rfl) (fun h=>dK U_22 (fV rfl h) aA)) ?_))))))))))))))
 refine fX rfl rfl (eU rfl rfl (Ht rfl) (fun h=>dP (fV rfl h) (cV 0))) (ro rfl (fO (Ht rfl) (fun h=>(fV rfl h))) (eZ (dX (Ht rfl) (fun hb=>?_) (fun hb=>?_))))
 ·refine ts (ro rfl (cJ K_16 lT trivial) (ra rfl (eZ ?_)))
  exact fG rfl (eY rfl)
 ·have hf1 : nQ z s c = true := by
   apply Decidable.byContradiction; intro h
   simp [h] at hb
  have h0:z.length ≠ 0:=fun h=>by simp [hf1,h] at hb
  have h9 : z.length ≤ 9 := by
   rw [nQ] at hf1; simp only [Bool.and_eq_true,decide_eq_true_eq] at hf1; exact hf1.1.1.1.1
  have hf2:nQ (Ey z) s c = true:=by rw [nQ] at hf1 ⊢; rw [aC]; exact hf1
  have hm:=xL hf2
  obtain ⟨m1,m2,m3⟩:=oW (z:=Ey z) (s:=s) (c:=c)
  obtain ⟨m4,m5,m6⟩:=xR (z:=Ey z) (s:=s) (c:=c)
  have hζ:=fun i (h:i < (uH (Ey z) s c).length)=>a5X h
  obtain ⟨X0,hX0⟩:∃ X0,X0 = uH (Ey z) s c:=⟨_,rfl⟩
  obtain ⟨X1,hX1⟩:∃ X1,X1 = Ji (Ey z) s c:=⟨_,rfl⟩
  obtain ⟨X2,hX2⟩:∃ X2,X2 = Vv (Ey z) s c:=⟨_,rfl⟩
  rw [← hX0,← hX1,← hX2] at hm
  rw [← hX0,← hX1] at m1
  rw [← hX0,← hX2] at m2
  rw [← hX0] at m3 m4 hζ
  rw [← hX1] at m5
  rw [← hX2] at m6
  have hx2:=m2.1
  have hA:=tI (z:=X0) (s:=X1) (c:=X2) (js:=J2 0 1 2 3) m4 m5 (m6.le (by decide)) m1 m2 m3 (by decide)
  have hO:=tI (z:=X0) (s:=X1) (c:=X2) (js:=J1 0 1) m4 m5 (m6.le (by decide)) m1 m2 m3 (by decide)
  have hT:=tI (z:=X0) (s:=X1) (c:=X2) (js:=J1 2 3) m4 m5 (m6.le (by decide)) m1 m2 m3 (by decide)
  obtain ⟨o4,o5,o6⟩:=We (p:=0) (q:=1) m4 m5 m6 m3 m2
  obtain ⟨t4,t5,t6⟩:=We (p:=2) (q:=3) m4 m5 m6 m3 m2
  have o1:=(xQ (js:=J1 0 1) m1).1
  have o2:=rU (js:=J1 0 1) (s:=X1) m2
  have o3:(jZ X0 X1 (J1 0 1)).length ≤ 6:=a1J m3
  have t1:=(xQ (js:=J1 2 3) m1).1
  have t2:=rU (js:=J1 2 3) (s:=X1) m2
  have t3:(jZ X0 X1 (J1 2 3)).length ≤ 6:=a1J m3
  have hB:=Jk (p:=0) (q:=1) o4 o5 o6 o1 o2 o3
  have hC:=Jk (p:=0) (q:=1) t4 t5 t6 t1 t2 t3
  obtain ⟨b4,b5,b6⟩:=Wf (p:=0) (q:=1) o4 o5 o6 zo o2
  obtain ⟨c4,c5,c6⟩:=Wf (p:=0) (q:=1) t4 t5 t6 zo t2
  obtain ⟨b1,b3⟩:=xQ (js:=J1 0 1) o1
  have b2:=rU (js:=J1 0 1) (s:=jT X0 X1 (J1 0 1)) o2
  obtain ⟨c1,c3⟩:=xQ (js:=J1 0 1) t1
  have c2:=rU (js:=J1 0 1) (s:=jT X0 X1 (J1 2 3)) t2
  obtain ⟨a1,a3⟩:=xQ (js:=J2 0 1 2 3) m1
  have a2:=rU (js:=J2 0 1 2 3) (s:=X1) m2
  have a4:cH (jZ X0 X1 (J2 0 1 2 3)) 900000000000:=yP m4 (by decide) (by decide)
  have a5:bB (jT X0 X1 (J2 0 1 2 3)) 900000000000:=Vz m5 m3
  have a6:bB (pN X0 X1 X2 (J2 0 1 2 3)) 900000000000:=a3L m5 (m6.le (by decide)) m3 m2
  have heq1:=tJ (L:=900000000000) a4 b4 a5 b5 (by decide) (by decide) a1 b1 zo zo a6 b6 a2 b2
  have heq2:=tJ (L:=900000000000) a4 c4 a5 c5 (by decide) (by decide) a1 c1 zo zo a6 c6 a2 c2
  have hone:=fun hE h1=>a63 (S:=X1) (c:=X2) m3 hζ hx2 hE h1
  have htwo:=fun hE h1=>a64 (S:=X1) (c:=X2) m3 hζ hx2 hE h1
  obtain ⟨A0,hA0⟩:∃ A0,A0 = jZ X0 X1 (J2 0 1 2 3):=⟨_,rfl⟩
  obtain ⟨A1,hA1⟩:∃ A1,A1 = jT X0 X1 (J2 0 1 2 3):=⟨_,rfl⟩
  obtain ⟨A2,hA2⟩:∃ A2,A2 = pN X0 X1 X2 (J2 0 1 2 3):=⟨_,rfl⟩
  obtain ⟨AE,hAE⟩:∃ AE,AE = kE X0 X1 (J2 0 1 2 3):=⟨_,rfl⟩
  rw [← hA0,← hA1,← hA2,← hAE] at hA
  rw [← hA0,← hA1,← hA2] at heq1 heq2
  rw [← hA0,← hA1,← hA2,← hAE] at hone htwo
  obtain ⟨O0,hO0⟩:∃ O0,O0 = jZ X0 X1 (J1 0 1):=⟨_,rfl⟩
  obtain ⟨O1,hO1⟩:∃ O1,O1 = jT X0 X1 (J1 0 1):=⟨_,rfl⟩
  obtain ⟨O2,hO2⟩:∃ O2,O2 = pN X0 X1 X2 (J1 0 1):=⟨_,rfl⟩
  obtain ⟨OE,hOE⟩:∃ OE,OE = kE X0 X1 (J1 0 1):=⟨_,rfl⟩
  rw [← hO0,← hO1,← hO2,← hOE] at hO hone
  rw [← hO0,← hO1,← hO2] at hB heq1
  obtain ⟨T0,hT0⟩:∃ T0,T0 = jZ X0 X1 (J1 2 3):=⟨_,rfl⟩
  obtain ⟨T1,hT1⟩:∃ T1,T1 = jT X0 X1 (J1 2 3):=⟨_,rfl⟩
  obtain ⟨T2,hT2⟩:∃ T2,T2 = pN X0 X1 X2 (J1 2 3):=⟨_,rfl⟩
  obtain ⟨TE,hTE⟩:∃ TE,TE = kE X0 X1 (J1 2 3):=⟨_,rfl⟩
  rw [← hT0,← hT1,← hT2,← hTE] at hT htwo
  rw [← hT0,← hT1,← hT2] at hC heq2
  obtain ⟨B0,hB0⟩:∃ B0,B0 = jZ O0 O1 (J1 0 1):=⟨_,rfl⟩
  obtain ⟨B1,hB1⟩:∃ B1,B1 = jT O0 O1 (J1 0 1):=⟨_,rfl⟩
  obtain ⟨B2,hB2⟩:∃ B2,B2 = pN O0 O1 O2 (J1 0 1):=⟨_,rfl⟩
  obtain ⟨BE,hBE⟩:∃ BE,BE = kE O0 O1 (J1 0 1):=⟨_,rfl⟩
  rw [← hB0,← hB1,← hB2,← hBE] at hB hone
  rw [← hB0,← hB1,← hB2] at heq1
  obtain ⟨C0,hC0⟩:∃ C0,C0 = jZ T0 T1 (J1 0 1):=⟨_,rfl⟩
  obtain ⟨C1,hC1⟩:∃ C1,C1 = jT T0 T1 (J1 0 1):=⟨_,rfl⟩
  obtain ⟨C2,hC2⟩:∃ C2,C2 = pN T0 T1 T2 (J1 0 1):=⟨_,rfl⟩
  obtain ⟨CE,hCE⟩:∃ CE,CE = kE T0 T1 (J1 0 1):=⟨_,rfl⟩
  rw [← hC0,← hC1,← hC2,← hCE] at hC htwo
  rw [← hC0,← hC1,← hC2] at heq2
  refine cY (ts (ro rfl (eW A_25 Z_25 (Ht rfl) (i:=0) rfl rfl rfl) (ro rfl (cJ Tryz.call56 (Kn zo h9) ⟨(Ht rfl),trivial⟩) (rn rfl (eG (Ts:=[Is (.slice none 0 0),Is (.slice none 0 0),Is (.slice none 0 0)]) O_25 rfl (fun V=>aW zd (aW zd (aW zd (aG))))) fun B3=>(gX Z_25 (Ht rfl) (Ht rfl) rfl (i:=1) rfl (aK rfl) rfl rfl (eZ (ts (ro rfl (eJ tM (Ht rfl) rfl) (ro rfl (fQ A_23 Z_23 (Ht rfl) (i:=0) rfl rfl) ?_)))))))))
  refine ro rfl (eJ tM (Ht rfl) rfl) (lQ Z_23 (Ht rfl) (Ht rfl) (i:=1) rfl (aK rfl) rfl (eZ (ts (ro rfl (eW A_25 Z_25 (Ht rfl) (i:=1) rfl rfl rfl) (ro rfl (cJ K_17 hm ⟨(Ht rfl),trivial⟩) (rm rfl (ro rfl (dU (Ht rfl) rfl) (ro rfl (dU (Ht rfl) rfl) (ro rfl (dU (Ht rfl) rfl) (rn rfl (eG (Ts:=[Is (.slice none 0 0),Is (.slice none 0 0),Is (.slice none 0 0)]) O_34 rfl (fun V=>aW zd (aW zd (aW zd (aG))))) fun B4=>?_))))))))))
  refine rn rfl (eG (Ts:=[Is (.slice none 0 0),Is (.slice none 0 0),Is (.slice none 0 0)]) O_40 rfl (fun V=>aW zd (aW zd (aW zd (aG))))) fun B5=>gX Z_34 (Ht rfl) (Ht rfl) rfl (i:=2) rfl (aK rfl) rfl rfl (gX Z_40 (Ht rfl) (Ht rfl) rfl (i:=3) rfl (aK rfl) rfl rfl (ra rfl (eZ (cU (bI [0,1,2,3] rfl (by decide) (dQ (ro rfl (eW A_34 Z_34 (Ht rfl) (i:=2) rfl rfl rfl) (ro rfl (nV cW cW) ?_))))))))
  refine ro rfl (nV cW cW) (ro rfl (cA (xs:=[.tmp 38,.tmp 39]) U_26 Z_71 O_71 (cG (Ht rfl) (cG (Ht rfl) cK)) rfl rfl rfl) (ro rfl (cJ K_18 hA ⟨(Ht rfl),(Ht rfl),trivial⟩) (rm rfl (ro rfl (dU (Ht rfl) rfl) (ro rfl (dU (Ht rfl) rfl) (rn rfl (eG (Ts:=[Is (.slice none 0 0),Is (.slice none 0 0),Is (.slice none 0 0)]) O_34 rfl (fun V=>aW zd (aW zd (aW zd (aG))))) fun B7=>(gX Z_34 (Ht rfl) (Ht rfl) rfl (i:=4) rfl (aK rfl) rfl rfl ?_)))))))
  refine ra rfl (eZ (ts (ro rfl (eW A_34 Z_34 (Ht rfl) (i:=2) rfl rfl rfl) (ro rfl (nV cW cW) (ro rfl (cA (xs:=[.tmp 46]) U_26 Z_71 O_71 (cG (Ht rfl) cK) rfl rfl rfl) (ro rfl (cJ K_18 hO ⟨(Ht rfl),(Ht rfl),trivial⟩) (rm rfl (ro rfl (dU (Ht rfl) rfl) (ro rfl (dU (Ht rfl) rfl) (rn rfl (eG (Ts:=[Is (.slice none 0 0),Is (.slice none 0 0),Is (.slice none 0 0)]) O_34 rfl (fun V=>aW zd (aW zd (aW zd (aG))))) fun B9=>?_))))))))))
  refine gX Z_34 (Ht rfl) (Ht rfl) rfl (i:=5) rfl (aK rfl) rfl rfl (ra rfl (eZ (ts (ro rfl (eW A_34 Z_34 (Ht rfl) (i:=5) rfl rfl rfl) (ro rfl (nV cW cW) (ro rfl (cA (xs:=[.tmp 53]) U_26 Z_71 O_71 (cG (Ht rfl) cK) rfl rfl rfl) (ro rfl (cJ K_18 hB ⟨(Ht rfl),(Ht rfl),trivial⟩) (rm rfl (ro rfl (dU (Ht rfl) rfl) (ro rfl (dU (Ht rfl) rfl) (gX Z_34 (Ht rfl) (Ht rfl) rfl (i:=5) rfl (aK rfl) rfl rfl ?_)))))))))))
  refine ra rfl (eZ (ts (ro rfl (eW A_34 Z_34 (Ht rfl) (i:=2) rfl rfl rfl) (ro rfl (nV cW cW) (ro rfl (cA (xs:=[.tmp 60]) U_26 Z_71 O_71 (cG (Ht rfl) cK) rfl rfl rfl) (ro rfl (cJ K_18 hT ⟨(Ht rfl),(Ht rfl),trivial⟩) (rm rfl (ro rfl (dU (Ht rfl) rfl) (ro rfl (dU (Ht rfl) rfl) (rn rfl (eG (Ts:=[Is (.slice none 0 0),Is (.slice none 0 0),Is (.slice none 0 0)]) O_34 rfl (fun V=>aW zd (aW zd (aW zd (aG))))) fun B12=>?_))))))))))
  refine gX Z_34 (Ht rfl) (Ht rfl) rfl (i:=6) rfl (aK rfl) rfl rfl (ra rfl (eZ (ts (ro rfl (eW A_34 Z_34 (Ht rfl) (i:=6) rfl rfl rfl) (ro rfl (nV cW cW) (ro rfl (cA (xs:=[.tmp 67]) U_26 Z_71 O_71 (cG (Ht rfl) cK) rfl rfl rfl) (ro rfl (cJ K_18 hC ⟨(Ht rfl),(Ht rfl),trivial⟩) (rm rfl (ro rfl (dU (Ht rfl) rfl) (ro rfl (dU (Ht rfl) rfl) (gX Z_34 (Ht rfl) (Ht rfl) rfl (i:=6) rfl (aK rfl) rfl rfl ?_)))))))))))
  refine ra rfl (eZ (cU (cU (bI [0,1,2,3,4,5,6] rfl (by decide) (dQ (rm rfl (ro rfl (gD (Ht rfl) cW) (eZ (dX (Ht rfl) (fun he=>?_) (fun he=>?_))))))))))
  ·refine ts (ro rfl (cJ K_16 lT trivial) (ra rfl (eZ ?_)))
   exact fG rfl (eY rfl)
  ·have hE : AE = 0 := by simpa using he
   refine cY (cU (ts (rm rfl (ro rfl (iQ (Ht rfl) cW) (rm rfl (fX rfl rfl (eU rfl rfl (Ht rfl) (fun h=>cZ (Ht rfl))) (fX rfl rfl (eU rfl rfl (Ht rfl) (fun h=>iQ (fV rfl h) cW)) (ro rfl (dM (Ht rfl) (fun h=>(fV rfl h))) (rm rfl (fX rfl rfl (eU rfl rfl (Ht rfl) (fun h=>eW A_34 Z_34 (Ht rfl) (i:=4) rfl rfl rfl)) (fX rfl rfl (eU rfl rfl (Ht rfl) (fun h=>eW A_34 Z_34 (Ht rfl) (i:=5) rfl rfl rfl)) (fX rfl rfl (eU rfl rfl (Ht rfl) (fun h=>cJ Tryz.call52 heq1 ⟨(fV rfl h),(fV rfl h),trivial⟩)) ?_))))))))))))
   refine fX rfl rfl (eU rfl rfl (Ht rfl) (fun h=>fB (fV rfl h))) (ro rfl (dM (Ht rfl) (fun h=>(fV rfl h))) (eZ (kF (Ht rfl) (by by_cases k:OE = 0; (obtain ⟨e0,e1,e2,e3⟩:=hone hE k; simp [e1,e2,e3,tV]); simp [k]) ?_)))
   refine cY (ts (rm rfl (ro rfl (gD (Ht rfl) cW) (rm rfl (fX rfl rfl (eU rfl rfl (Ht rfl) (fun h=>cZ (Ht rfl))) (fX rfl rfl (eU rfl rfl (Ht rfl) (fun h=>gD (fV rfl h) cW)) (ro rfl (fO (Ht rfl) (fun h=>(fV rfl h))) (rm rfl (fX rfl rfl (eU rfl rfl (Ht rfl) (fun h=>eW A_34 Z_34 (Ht rfl) (i:=4) rfl rfl rfl)) (fX rfl rfl (eU rfl rfl (Ht rfl) (fun h=>eW A_34 Z_34 (Ht rfl) (i:=6) rfl rfl rfl)) (fX rfl rfl (eU rfl rfl (Ht rfl) (fun h=>cJ Tryz.call52 heq2 ⟨(fV rfl h),(fV rfl h),trivial⟩)) ?_)))))))))))
   refine ro rfl (fO (Ht rfl) (fun h=>(fV rfl h))) (rm rfl (fX rfl rfl (eU rfl rfl (Ht rfl) (fun h=>cJ K_16 lT trivial)) (ro rfl (dM (Ht rfl) (fun h=>(fV rfl h))) (ra rfl (eZ (fG rfl (fZ (eY rfl) ?_)))))))
   exact (dN (by by_cases k:TE = 0; (obtain ⟨e0,e1,e2,e3⟩:=htwo hE k; simp [e1,e2,e3,tV]); simp [k]))
end
end Go.Proofs.YteohomnhncjcnaaGreat
