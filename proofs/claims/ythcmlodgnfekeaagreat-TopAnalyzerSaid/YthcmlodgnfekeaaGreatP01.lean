/- What functions of the program compute, proved by walks over their code, and the plain mathematics of it; a part of the proof in the last text. -/
import Derived.Orders
import Derived.Tactics
import Derived.WalkKit
import Derived.Laws.MakeOwn
import Derived.Laws.Cells
import Derived.Laws.Rows
import Derived.Laws.AppendOwn
import Derived.Laws.BytesArg
import Derived.Laws.Concat
import Derived.Deep.Strs
import Derived.OpenShut
import Derived.Below
import Derived.Test.YthcmlodgnfekeaaGreatRows
import Derived.ProofKit
import Derived.Test.YthcmlodgnfekeaaGreatChecked
import Derived.Laws.Externs
import Derived.Laws.FloatArith
import GoSem.Core.Float
import Derived.Lib.AppendZeros
import Derived.Recover
import Derived.Tactics2
import Derived.Laws.Pointers
set_option linter.unusedVariables false
set_option linter.unusedSimpArgs false
set_option maxRecDepth 100000
set_option maxHeartbeats 4000000
namespace Go.Proofs.YthcmlodgnfekeaaGreat
section
abbrev K_105:=@Tryz.call105
abbrev K_106:=@Tryz.call106
abbrev K_107:=@Tryz.call107
abbrev K_108:=@Tryz.call108
abbrev K_109:=@Tryz.call109
abbrev K_111:=@Tryz.call111
abbrev K_142:=@Tryz.call142
abbrev K_160:=@Tryz.call160
abbrev K_163:=@Tryz.call163
abbrev K_164:=@Tryz.call164
abbrev K_165:=@Tryz.call165
abbrev K_166:=@Tryz.call166
abbrev K_169:=@Tryz.call169
abbrev K_197:=@Tryz.call197
abbrev K_203:=@Tryz.call203
abbrev K_29:=@Tryz.call29
abbrev K_32:=@Tryz.call32
abbrev K_33:=@Tryz.call33
abbrev K_34:=@Tryz.call34
abbrev K_36:=@Tryz.call36
abbrev K_65:=@Tryz.call65
abbrev K_68:=@Tryz.call68
abbrev A_140:=@Tryz.isAgg140
abbrev A_142:=@Tryz.isAgg142
abbrev A_145:=@Tryz.isAgg145
abbrev A_2:=@Tryz.isAgg2
abbrev A_24:=@Tryz.isAgg24
abbrev A_240:=@Tryz.isAgg240
abbrev A_28:=@Tryz.isAgg28
abbrev A_283:=@Tryz.isAgg283
abbrev A_3:=@Tryz.isAgg3
abbrev A_30:=@Tryz.isAgg30
abbrev A_32:=@Tryz.isAgg32
abbrev A_4:=@Tryz.isAgg4
abbrev A_54:=@Tryz.isAgg54
abbrev A_78:=@Tryz.isAgg78
abbrev A_80:=@Tryz.isAgg80
abbrev U_137:=@Tryz.runUnderlying137
abbrev U_140:=@Tryz.runUnderlying140
abbrev U_142:=@Tryz.runUnderlying142
abbrev U_145:=@Tryz.runUnderlying145
abbrev U_188:=@Tryz.runUnderlying188
abbrev U_23:=@Tryz.runUnderlying23
abbrev U_237:=@Tryz.runUnderlying237
abbrev U_24:=@Tryz.runUnderlying24
abbrev U_240:=@Tryz.runUnderlying240
abbrev U_274:=@Tryz.runUnderlying274
abbrev U_275:=@Tryz.runUnderlying275
abbrev U_28:=@Tryz.runUnderlying28
abbrev U_283:=@Tryz.runUnderlying283
abbrev U_3:=@Tryz.runUnderlying3
abbrev U_30:=@Tryz.runUnderlying30
abbrev U_32:=@Tryz.runUnderlying32
abbrev U_341:=@Tryz.runUnderlying341
abbrev U_5:=@Tryz.runUnderlying5
abbrev U_54:=@Tryz.runUnderlying54
abbrev U_77:=@Tryz.runUnderlying77
abbrev U_78:=@Tryz.runUnderlying78
abbrev U_80:=@Tryz.runUnderlying80
abbrev Z_140:=@Tryz.sizeOf140
abbrev Z_142:=@Tryz.sizeOf142
abbrev Z_145:=@Tryz.sizeOf145
abbrev Z_188:=@Tryz.sizeOf188
abbrev Z_2:=@Tryz.sizeOf2
abbrev Z_23:=@Tryz.sizeOf23
abbrev Z_24:=@Tryz.sizeOf24
abbrev Z_240:=@Tryz.sizeOf240
abbrev Z_28:=@Tryz.sizeOf28
abbrev Z_283:=@Tryz.sizeOf283
abbrev Z_3:=@Tryz.sizeOf3
abbrev Z_30:=@Tryz.sizeOf30
abbrev Z_32:=@Tryz.sizeOf32
abbrev Z_33:=@Tryz.sizeOf33
abbrev Z_4:=@Tryz.sizeOf4
abbrev Z_5:=@Tryz.sizeOf5
abbrev Z_54:=@Tryz.sizeOf54
abbrev Z_78:=@Tryz.sizeOf78
abbrev Z_80:=@Tryz.sizeOf80
abbrev V_2:=@Tryz.underlying2
abbrev V_28:=@Tryz.underlying28
abbrev V_78:=@Tryz.underlying78
abbrev O_140:=@Tryz.zeroValue140
abbrev O_240:=@Tryz.zeroValue240
abbrev O_3:=@Tryz.zeroValue3
abbrev O_30:=@Tryz.zeroValue30
abbrev O_32:=@Tryz.zeroValue32
abbrev O_33:=@Tryz.zeroValue33
abbrev O_54:=@Tryz.zeroValue54
abbrev O_80:=@Tryz.zeroValue80
def BB:Nat:=4294967296
def val : List Nat → Nat
 | []=>0
 | d :: r=>d + BB * val r
def Yw : Nat → Nat → List Nat
 | 0,_=>[]
 | f + 1,n=>if n = 0 then [] else (n % BB) :: Yw f (n / BB)
def dg (n:Nat):List Nat:=Yw n n
def jE (ds:List Nat):Prop:=∀ d,d ∈ ds → d < BB
theorem dR:0 < BB:=by decide
theorem Hg : ∀ (f n : Nat), n ≤ f → Yw f n = if n = 0 then [] else (n % BB) :: Yw (n / BB) (n / BB)
  | 0, n, h => by have : n = 0 := by omega
                  subst this; simp [Yw]
  | f + 1, n, h => by
    rw [Yw]
    by_cases h0:n = 0
    · simp [h0]
    · rw [if_neg h0, if_neg h0]
      have hlt:n / BB < n:=Nat.div_lt_self (by omega) (by decide)
      have e : Yw f (n / BB) = Yw (n / BB) (n / BB) := by
        rw [Hg f _ (by omega),Hg (n / BB) _ (Nat.le_refl _)]
      rw [e]
theorem Yx (n:Nat):dg n = if n = 0 then [] else (n % BB) :: dg (n / BB):=Hg n n (Nat.le_refl n)
theorem fF:dg 0 = []:=by simp [Yx]
theorem mY {n:Nat} (h:n ≠ 0):dg n = (n % BB) :: dg (n / BB):=by rw [Yx,if_neg h]
theorem eR (n:Nat):val (dg n) = n:=by
 induction n using Nat.strongRecOn with
 | _ n ih =>
  by_cases h:n = 0
  ·subst h; rw [fF]; rfl
  ·rw [mY h, val, ih (n / BB) (Nat.div_lt_self (by omega) (by decide))]
   have:=Nat.div_add_mod n BB
   omega
theorem cO (n:Nat):jE (dg n):=by
 induction n using Nat.strongRecOn with
 | _ n ih =>
  by_cases h:n = 0
  ·subst h; rw [fF]; intro d hd; simp at hd
  ·rw [mY h]
   intro d hd
   rcases List.mem_cons.1 hd with h1 | h1
   ·subst h1; exact Nat.mod_lt _ dR
   ·exact ih (n / BB) (Nat.div_lt_self (by omega) (by decide)) d h1
theorem vI : ∀ {ds : List Nat}, val ds = 0 → ∀ d, d ∈ ds → d = 0
 | [],_,_,h=>by simp at h
 | e :: r, h, d, hd => by
  simp only [val] at h
  have h1:e = 0:=by omega
  have h2:BB * val r = 0:=by omega
  have h3 : val r = 0 := by
   rcases Nat.mul_eq_zero.1 h2 with h4 | h4
   ·exact absurd h4 (by decide)
   ·exact h4
  rcases List.mem_cons.1 hd with h4 | h4
  ·rw [h4,h1]
  ·exact vI h3 d h4
theorem Pr : ∀ {ds : List Nat}, jE ds → (∀ d, ds.getLast? = some d → d ≠ 0) → dg (val ds) = ds
 | [],_,_=>fF
 | d :: r, hd, hl => by
  have hd0:d < BB:=hd d (by simp)
  have hr:jE r:=fun x hx=>hd x (by simp [hx])
  have hlr : ∀ x, r.getLast? = some x → x ≠ 0 := fun x hx => hl x (by
   cases r with
   | nil=>simp at hx
   | cons a b=>rw [List.getLast?_cons_cons]; exact hx)
  have h0 : val (d :: r) ≠ 0 := fun h => by
   have hz:=vI h
   cases hq:(d :: r).getLast? with
   | none=>simp at hq
   | some x=>exact hl x hq (hz x (List.mem_of_getLast? hq))
  rw [mY h0]
  have hm:val (d :: r) % BB = d:=by simp only [val]; rw [Nat.add_mul_mod_self_left,Nat.mod_eq_of_lt hd0]
  have hq : val (d :: r) / BB = val r := by
   simp only [val]; rw [Nat.add_mul_div_left _ _ dR,Nat.div_eq_of_lt hd0,Nat.zero_add]
  rw [hm,hq,Pr hr hlr]
theorem jK : ∀ (a b : List Nat), val (a ++ b) = val a + BB ^ a.length * val b
 | [],b=>by simp [val]
 | d :: r, b => by
  simp only [List.cons_append,val,jK r b,List.length_cons,Nat.pow_succ]
  rw [Nat.mul_add,Nat.add_assoc,Nat.mul_comm (BB ^ r.length) BB,Nat.mul_assoc]
theorem mT : ∀ (l : List Nat), (∀ d, d ∈ l → d = 0) → val l = 0
 | [],_=>rfl
 | d :: r,h=>by rw [val,h d (by simp),mT r (fun x hx=>h x (by simp [hx]))]; simp
theorem iP : ∀ {ds : List Nat}, jE ds → val ds < BB ^ ds.length
 | [],_=>by simp [val]
 | d :: r, h => by
  have h1:=h d (by simp)
  have h2:=iP (ds:=r) (fun x hx=>h x (by simp [hx]))
  simp only [val,List.length_cons,Nat.pow_succ]
  have h3:BB * (val r + 1) ≤ BB * BB ^ r.length:=Nat.mul_le_mul_left BB h2
  rw [Nat.mul_add] at h3
  rw [Nat.mul_comm (BB ^ r.length) BB]
  omega
theorem Vi {ds:List Nat} (hd:jE ds) {k:Nat} (hk:k ≤ ds.length) (hz:∀ i,k ≤ i → i < ds.length → ds.getD i 0 = 0) (hn:k = 0 ∨ ds.getD (k - 1) 0 ≠ 0):dg (val ds) = ds.take k:=by
 have e : val ds = val (ds.take k) := by
  conv=>lhs; rw [← List.take_append_drop k ds]
  rw [jK,mT (ds.drop k) (fun d hd'=>?_)]
  ·simp
  ·obtain ⟨i, hi⟩ := List.mem_iff_getElem?.1 hd'
   rw [List.getElem?_drop] at hi
   have hlt:=(List.getElem?_eq_some_iff.1 hi).1
   have:=hz (k + i) (by omega) hlt
   simp [List.getD,hi] at this; exact this
 rw [e]
 refine Pr (fun d hd'=>hd d (List.mem_of_mem_take hd')) (fun d hd'=>?_)
 rcases hn with h0 | h0
 ·subst h0; simp at hd'
 ·rw [List.getLast?_eq_getElem?, List.length_take, Nat.min_eq_left hk, List.getElem?_take] at hd'
  split at hd'
  ·intro hx; exact h0 (by simp [List.getD,hd',hx])
  ·cases hd'
theorem iT {n k:Nat} (h:n < BB ^ k):(dg n).length ≤ k:=by
  induction k generalizing n with
  | zero => have : n = 0 := by simp at h; exact h
            subst this; simp [fF]
  | succ k ih =>
    by_cases h0:n = 0
    · subst h0; simp [fF]
    · rw [mY h0]
      have : n / BB < BB ^ k := by
        rw [Nat.div_lt_iff_lt_mul dR,← Nat.pow_succ]; exact h
      have:=ih this
      simp; exact this
theorem uM {n:Nat}:dg n = [] ↔ n = 0:=by
 constructor
 ·intro h
  by_cases h0:n = 0
  ·exact h0
  ·rw [mY h0] at h; simp at h
 ·rintro rfl; exact fF
theorem bD {n:Nat}:(dg n).length = 0 ↔ n = 0:=by
 constructor
 ·intro h
  by_cases h0:n = 0
  ·exact h0
  ·rw [mY h0] at h; simp at h
 ·rintro rfl; simp [fF]
end
section
theorem Mm {m:Nat} (h:m < 18446744073709551616):val [m % 4294967296,m / 2 ^ 32 % 4294967296] = m:=by
 simp only [val,BB]; omega
theorem a27 (a b : Nat) : jE [a % 4294967296, b % 4294967296] := fun d hd => by
 simp at hd
 rcases hd with rfl | rfl <;> (simp only [BB]; omega)
theorem kF {l:List Nat} {i:Nat} (h:i < l.length) (d:Nat):val (l.set i d) + BB ^ i * l.getD i 0 = val l + BB ^ i * d:=by
 induction l generalizing i with
 | nil=>simp at h
 | cons x r ih =>
  cases i with
  | zero=>simp [val,List.getD]; omega
  | succ i =>
   have:=ih (i:=i) (by simpa using h)
   have e:(x :: r).getD (i + 1) 0 = r.getD i 0:=by simp [List.getD]
   simp only [List.set_cons_succ,val,e,Nat.pow_succ]
   have h1:BB ^ i * BB * r.getD i 0 = BB * (BB ^ i * r.getD i 0):=by rw [Nat.mul_comm (BB ^ i) BB,Nat.mul_assoc]
   have h2:BB ^ i * BB * d = BB * (BB ^ i * d):=by rw [Nat.mul_comm (BB ^ i) BB,Nat.mul_assoc]
   rw [h1,h2,Nat.add_assoc,← Nat.mul_add,this,Nat.mul_add,Nat.add_assoc]
theorem jB {l : List Nat} (h : jE l) {i d : Nat} (hd : d < BB) : jE (l.set i d) := fun x hx => by
 rcases List.mem_or_eq_of_mem_set hx with h1 | h1
 ·exact h x h1
 ·exact h1 ▸ hd
theorem lP {l:List Nat} {k:Nat} (h:k < l.length):val (l.take (k + 1)) = val (l.take k) + BB ^ k * l.getD k 0:=by
 rw [List.take_succ_eq_append_getElem h,jK]
 have e:l.getD k 0 = l[k]:=by simp [List.getD,h]
 rw [e,List.length_take,Nat.min_eq_left (by omega)]
 simp [val]
theorem hJ {l:List Nat} {k:Nat} (h:l.length ≤ k):val (l.take k) = val l:=by rw [List.take_of_length_le h]
theorem hZ (l:List Nat) (k:Nat):val (l.take (k + 1)) = val (l.take k) + BB ^ k * l.getD k 0:=by
 by_cases h:k < l.length
 ·exact lP h
 ·rw [hJ (by omega), hJ (by omega)]
  simp [List.getD,List.getElem?_eq_none (Nat.le_of_not_lt h)]
theorem kI (m:Nat):jE (List.replicate m 0):=fun d hd=>by rw [(List.mem_replicate.1 hd).2]; exact dR
theorem pE (m:Nat):val (List.replicate m 0) = 0:=mT _ (fun d hd=>(List.mem_replicate.1 hd).2)
theorem oD (m i:Nat):(List.replicate m 0).getD i 0 = 0:=by
 by_cases h:i < m
 ·simp [List.getD,h]
 ·simp [List.getD,h]
theorem dS {l:List Nat} {i j d:Nat} (h:i ≠ j):(l.set i d).getD j 0 = l.getD j 0:=by simp [List.getD,List.getElem?_set_ne h]
theorem nP {l:List Nat} {i d:Nat} (h:i < l.length):(l.set i d).getD i 0 = d:=by simp [List.getD,h]
theorem bH {l:List Nat} (h:jE l) (i:Nat):l.getD i 0 < BB:=by
 by_cases hi:i < l.length
 ·have : l.getD i 0 = l[i] := by simp [List.getD, hi]
  rw [this]; exact h _ (List.getElem_mem hi)
 ·simp [List.getD,List.getElem?_eq_none (Nat.le_of_not_lt hi),BB]
structure Bi (xs ys out:List Nat) (k c:Nat):Prop where
 kle:k ≤ xs.length
 len:out.length = xs.length + 1
 dig:jE out
 cle:c ≤ 1
 sum:val out + BB ^ k * c = val (xs.take k) + val (ys.take k)
 zero:∀ i,k ≤ i → out.getD i 0 = 0
theorem Bi.start (xs ys : List Nat) : Bi xs ys (List.replicate (xs.length + 1) 0) 0 0 :=
 ⟨Nat.zero_le _,by simp,kI _,Nat.zero_le _,by simp [val,pE],fun i _=>oD _ _⟩
theorem Bi.next {xs ys out : List Nat} {k c : Nat} (h : Bi xs ys out k c) (hx : jE xs) (hy : jE ys) (hk : k < xs.length) :
  Bi xs ys (out.set k ((xs.getD k 0 + ys.getD k 0 + c) % 4294967296)) (k + 1) ((xs.getD k 0 + ys.getD k 0 + c) / 4294967296):=by
 have hxd:=bH hx k
 have hyd:=bH hy k
 have hc:=h.cle
 refine ⟨hk,by simp [h.len],jB h.dig (Nat.mod_lt _ (by decide)),?_,?_,fun i hi=>?_⟩
 ·simp only [BB] at hxd hyd; omega
 ·have hs := kF (l := out) (i := k) (by rw [h.len]; omega) ((xs.getD k 0 + ys.getD k 0 + c) % 4294967296)
  rw [h.zero k (Nat.le_refl k),Nat.mul_zero,Nat.add_zero] at hs
  rw [hs,hZ,hZ,Nat.pow_succ]
  have hsum:=h.sum
  have e : BB ^ k * ((xs.getD k 0 + ys.getD k 0 + c) % 4294967296) + BB ^ k * BB * ((xs.getD k 0 + ys.getD k 0 + c) / 4294967296) = BB ^ k * (xs.getD k 0 + ys.getD k 0 + c) := by
   rw [Nat.mul_assoc,← Nat.mul_add]
   congr 1
   have:=Nat.mod_add_div (xs.getD k 0 + ys.getD k 0 + c) 4294967296
   simp only [BB]; exact this
  rw [Nat.add_assoc,e,Nat.mul_add,Nat.mul_add]
  omega
 ·rw [dS (by omega)]; exact h.zero i (by omega)
theorem Bi.fin {xs ys out:List Nat} {c:Nat} (h:Bi xs ys out xs.length c) (hle:ys.length ≤ xs.length):val (out.set xs.length c) = val xs + val ys:=by
 have hs:=kF (l:=out) (i:=xs.length) (by rw [h.len]; omega) c
 rw [h.zero _ (Nat.le_refl _),Nat.mul_zero,Nat.add_zero] at hs
 rw [hs,h.sum,hJ (Nat.le_refl _),hJ hle]
structure Br (xs ys out:List Nat) (k c:Nat):Prop where
 kle:k ≤ xs.length
 len:out.length = xs.length
 dig:jE out
 cle:c ≤ 1
 sum:val out + val (ys.take k) = val (xs.take k) + BB ^ k * c
 zero:∀ i,k ≤ i → out.getD i 0 = 0
theorem Br.start (xs ys : List Nat) : Br xs ys (List.replicate xs.length 0) 0 0 :=
 ⟨Nat.zero_le _,by simp,kI _,Nat.zero_le _,by simp [val,pE],fun i _=>oD _ _⟩
theorem Br.next {xs ys out : List Nat} {k c : Nat} (h : Br xs ys out k c) (hx : jE xs) (hy : jE ys) (hk : k < xs.length) :
  Br xs ys (out.set k ((xs.getD k 0 + 8589934592 - ys.getD k 0 - c) % 4294967296)) (k + 1) (if xs.getD k 0 < ys.getD k 0 + c then 1 else 0):=by
 have hxd:=bH hx k
 have hyd:=bH hy k
 have hc:=h.cle
 refine ⟨hk,by simp [h.len],jB h.dig (Nat.mod_lt _ (by decide)),by split <;> omega,?_,fun i hi=>?_⟩
 ·have hs := kF (l := out) (i := k) (by rw [h.len]; omega) ((xs.getD k 0 + 8589934592 - ys.getD k 0 - c) % 4294967296)
  rw [h.zero k (Nat.le_refl k),Nat.mul_zero,Nat.add_zero] at hs
  rw [hs,hZ,hZ,Nat.pow_succ]
  have hsum:=h.sum
  have e : BB ^ k * ((xs.getD k 0 + 8589934592 - ys.getD k 0 - c) % 4294967296) + BB ^ k * (ys.getD k 0 + c) = BB ^ k * xs.getD k 0 + BB ^ k * BB * (if xs.getD k 0 < ys.getD k 0 + c then 1 else 0) := by
   rw [Nat.mul_assoc,← Nat.mul_add,← Nat.mul_add]
   congr 1
   simp only [BB] at hxd hyd ⊢
   split <;> omega
  rw [Nat.mul_add] at e
  omega
 ·rw [dS (by omega)]; exact h.zero i (by omega)
theorem Br.fin {xs ys out:List Nat} {c:Nat} (h:Br xs ys out xs.length c) (hd:jE xs) (hle:ys.length ≤ xs.length) (hv:val ys ≤ val xs):val out = val xs - val ys:=by
 have hs:=h.sum
 rw [hJ (Nat.le_refl _),hJ hle] at hs
 have hlt:=iP h.dig
 rw [h.len] at hlt
 have hc:=h.cle
 rcases Nat.lt_or_ge 0 c with h1 | h1
 ·have : c = 1 := by omega
  subst this
  have:=iP hd
  omega
 ·have : c = 0 := by omega
  subst this
  omega
theorem jQ {a b:Nat} (h:a ≤ b):(dg a).length ≤ (dg b).length:=by
 refine iT ?_
 have:=iP (cO b)
 rw [eR] at this
 omega
theorem Vb {xs ys:List Nat} (hx:jE xs) (hn:∀ d,ys.getLast? = some d → d ≠ 0) (h:xs.length < ys.length):val xs < val ys:=by
 have h1:=iP hx
 have h2 : BB ^ (ys.length - 1) ≤ val ys := by
  have hne:ys ≠ []:=fun e=>by subst e; simp at h
  have e:ys = ys.dropLast ++ [ys.getLast hne]:=(List.dropLast_concat_getLast hne).symm
  rw [e,jK]
  have hl:=hn (ys.getLast hne) (List.getLast?_eq_some_getLast hne)
  have:BB ^ ys.dropLast.length * 1 ≤ BB ^ ys.dropLast.length * val [ys.getLast hne]:=Nat.mul_le_mul_left _ (by simp [val]; omega)
  simp at this ⊢
  omega
 have h3:BB ^ xs.length ≤ BB ^ (ys.length - 1):=Nat.pow_le_pow_right dR (by omega)
 omega
theorem Jw {n d:Nat} (h:(dg n).getLast? = some d):d ≠ 0:=by
 induction n using Nat.strongRecOn generalizing d with
 | _ n ih =>
  by_cases h0:n = 0
  ·subst h0; rw [fF] at h; simp at h
  ·rw [mY h0] at h
   have hlt:n / BB < n:=Nat.div_lt_self (by omega) (by decide)
   by_cases hz:n / BB = 0
   ·rw [hz, fF] at h
    simp at h
    have:=Nat.div_add_mod n BB
    rw [hz] at this
    omega
   ·rw [mY hz, List.getLast?_cons_cons, ← mY hz] at h
    exact ih _ hlt h
theorem Hd {a b:Nat} (h:(dg a).length < (dg b).length):a < b:=by
 have:=Vb (cO a) (fun d hd=>Jw hd) h
 rwa [eR,eR] at this
theorem Ju {xs ys:List Nat} (hx:jE xs) (hy:jE ys) (hl:xs.length = ys.length) {k:Nat} (hk:k < xs.length) (he:∀ i,k < i → i < xs.length → xs.getD i 0 = ys.getD i 0) (hlt:xs.getD k 0 < ys.getD k 0):val xs < val ys:=by
 have hd : xs.drop (k + 1) = ys.drop (k + 1) := by
  apply List.ext_getElem?
  intro i
  rw [List.getElem?_drop,List.getElem?_drop]
  by_cases hi:k + 1 + i < xs.length
  ·have := he (k + 1 + i) (by omega) hi
   have h2:k + 1 + i < ys.length:=by omega
   simp [List.getD,hi,h2] at this
   simp [hi,h2,this]
  ·rw [List.getElem?_eq_none (by omega),List.getElem?_eq_none (by omega)]
 have e1 : val xs = val (xs.take (k + 1)) + BB ^ (k + 1) * val (xs.drop (k + 1)) := by
  conv=>lhs; rw [← List.take_append_drop (k + 1) xs]
  rw [jK,List.length_take,Nat.min_eq_left (by omega)]
 have e2 : val ys = val (ys.take (k + 1)) + BB ^ (k + 1) * val (ys.drop (k + 1)) := by
  conv=>lhs; rw [← List.take_append_drop (k + 1) ys]
  rw [jK,List.length_take,Nat.min_eq_left (by omega)]
 rw [e1,e2,hd,hZ,hZ]
 have h1:=iP (fun d hd=>hx d (List.mem_of_mem_take hd):jE (xs.take k))
 rw [List.length_take,Nat.min_eq_left (by omega)] at h1
 have h2:BB ^ k * (xs.getD k 0 + 1) ≤ BB ^ k * ys.getD k 0:=Nat.mul_le_mul_left _ hlt
 rw [Nat.mul_add] at h2
 omega
end
section
def rV (m n:Nat):Int:=if m < n then -1 else if n < m then 1 else 0
theorem a0B (n:Nat):(decide ((dg n).length = 1) && decide ((dg n).getD 0 0 = 1)) = decide (n = 1):=by
 by_cases h0:n = 0
 ·subst h0; simp [fF]
 ·rw [mY h0]
  by_cases h1:n / BB = 0
  ·rw [h1, fF]
   have:n % BB = n:=Nat.mod_eq_of_lt (by have:=Nat.div_add_mod n BB; rw [h1] at this; have h2:=Nat.mod_lt n dR; omega)
   simp [this]
  ·rw [mY h1]
   have:n ≠ 1:=fun e=>h1 (by subst e; decide)
   simp [this]
theorem a2i {p:Nat} (h:p < 4294967296):p / 2147483648 = if p.testBit 31 then 1 else 0:=by
 rw [Nat.testBit_eq_decide_div_mod_eq]
 have:p / 2147483648 < 2:=by omega
 simp only [show (2:Nat) ^ 31 = 2147483648 by rfl]
 split <;> simp_all <;> omega
theorem uA {p:Nat} (h:p < 4294967296):p.testBit 31 = decide (2147483648 ≤ p):=by
 rw [Nat.testBit_eq_decide_div_mod_eq]
 simp only [show (2:Nat) ^ 31 = 2147483648 by rfl]
 rw [decide_eq_decide]; omega
theorem Yv {p:Nat} (h:p < 4294967296):(4294967296 - 1 - p).testBit 31 = !p.testBit 31:=by
 rw [uA (by omega),uA h]
 by_cases hp:2147483648 ≤ p
 ·simp [hp]; omega
 ·simp [hp]; omega
theorem Dg {x y c : Nat} (hx : x < 4294967296) (hy : y < 4294967296) (hc : c ≤ 1) {r : Nat} (hr : r = (x + 8589934592 - y - c) % 4294967296) :
  ((4294967296 - 1 - x) &&& y ||| (4294967296 - 1 - (x ^^^ y)) &&& r) / 2147483648 = if x < y + c then 1 else 0:=by
 have hr2:r < 4294967296:=by omega
 have hxy:(x ^^^ y) < 4294967296:=Nat.xor_lt_two_pow (n:=32) hx hy
 have h1:((4294967296 - 1 - x) &&& y) < 4294967296:=Nat.and_lt_two_pow (n:=32) _ hy
 have h2:((4294967296 - 1 - (x ^^^ y)) &&& r) < 4294967296:=Nat.and_lt_two_pow (n:=32) _ hr2
 have h3:((4294967296 - 1 - x) &&& y ||| (4294967296 - 1 - (x ^^^ y)) &&& r) < 4294967296:=Nat.or_lt_two_pow (n:=32) h1 h2
 rw [a2i h3,Nat.testBit_or,Nat.testBit_and,Nat.testBit_and,Yv hx,Yv hxy,Nat.testBit_xor,uA hx,uA hy,uA hr2]
 by_cases a:2147483648 ≤ x <;> by_cases b:2147483648 ≤ y
 ·simp only [a, b]; simp
  by_cases e:x < y + c
  ·rw [if_pos e,if_pos (by omega)]
  ·rw [if_neg e,if_neg (by omega)]
 ·simp only [a, b]; simp
  omega
 ·simp only [a, b]; simp
  omega
 ·simp only [a, b]; simp
  by_cases e:x < y + c
  ·rw [if_pos e,if_pos (by omega)]
  ·rw [if_neg e,if_neg (by omega)]
end
section
theorem gT {l:List Nat} {i:Nat} (h:i < l.length):l.getD i 0 = l[i]:=by simp [List.getD,h]
structure Bm (xs ys out:List Nat) (i:Nat):Prop where
 ile:i ≤ xs.length
 len:out.length = xs.length + ys.length
 dig:jE out
 sum:val out = val (xs.take i) * val ys
 zero:∀ j,i + ys.length ≤ j → out.getD j 0 = 0
structure Gg (xs ys out:List Nat) (i k c:Nat):Prop where
 ilt:i < xs.length
 kle:k ≤ ys.length
 len:out.length = xs.length + ys.length
 dig:jE out
 clt:c < BB
 sum:val out + BB ^ (i + k) * c = val (xs.take i) * val ys + BB ^ i * (xs.getD i 0 * val (ys.take k))
 zero:∀ j,i + ys.length ≤ j → out.getD j 0 = 0
theorem Bm.start (xs ys : List Nat) : Bm xs ys (List.replicate (xs.length + ys.length) 0) 0 :=
 ⟨Nat.zero_le _,by simp,kI _,by simp [val,pE],fun j _=>oD _ _⟩
theorem Bm.row {xs ys out : List Nat} {i : Nat} (h : Bm xs ys out i) (hi : i < xs.length) : Gg xs ys out i 0 0 :=
 ⟨hi,Nat.zero_le _,h.len,h.dig,dR,by simp [val,h.sum],h.zero⟩
theorem uQ {a b o c:Nat} (ha:a < BB) (hb:b < BB) (ho:o < BB) (hc:c < BB):c + (a * b + o) < BB * BB:=by
 have h1:a * b ≤ (BB - 1) * (BB - 1):=Nat.mul_le_mul (by omega) (by omega)
 simp only [BB] at *
 omega
theorem Gg.next {xs ys out : List Nat} {i k c : Nat} (h : Gg xs ys out i k c) (hx : jE xs) (hy : jE ys) (hk : k < ys.length) {s : Nat} (hs : s = c + (xs.getD i 0 * ys.getD k 0 + out.getD (i + k) 0)) :
  Gg xs ys (out.set (i + k) (s % 4294967296)) i (k + 1) (s / 4294967296):=by
 have hb:s < BB * BB:=by rw [hs]; exact uQ (bH hx i) (bH hy k) (bH h.dig _) h.clt
 refine ⟨h.ilt,hk,by simp [h.len],jB h.dig (Nat.mod_lt _ (by decide)),?_,?_,fun j hj=>?_⟩
 ·exact Nat.div_lt_of_lt_mul hb
 ·have hv := kF (l := out) (i := i + k) (by rw [h.len]; have := h.ilt; omega) (s % 4294967296)
  have hsum:=h.sum
  rw [hZ]
  have e : BB ^ (i + k) * (s % 4294967296) + BB ^ (i + (k + 1)) * (s / 4294967296) = BB ^ (i + k) * s := by
   rw [show i + (k + 1) = (i + k) + 1 by omega,Nat.pow_succ,Nat.mul_assoc,← Nat.mul_add]
   congr 1
   have:=Nat.mod_add_div s 4294967296
   simp only [BB]; exact this
  have e2 : BB ^ (i + k) * s = BB ^ (i + k) * c + (BB ^ i * (xs.getD i 0 * (BB ^ k * ys.getD k 0)) + BB ^ (i + k) * out.getD (i + k) 0) := by
   rw [hs,Nat.mul_add,Nat.mul_add]
   congr 2
   rw [Nat.pow_add,Nat.mul_assoc]
   congr 1
   rw [Nat.mul_left_comm]
  rw [Nat.mul_add,Nat.mul_add]
  omega
 ·rw [dS (by omega)]; exact h.zero j hj
theorem Gg.fin {xs ys out:List Nat} {i c:Nat} (h:Gg xs ys out i ys.length c):Bm xs ys (out.set (i + ys.length) c) (i + 1):=by
 have hl:i + ys.length < out.length:=by rw [h.len]; have:=h.ilt; omega
 refine ⟨h.ilt,by simp [h.len],jB h.dig h.clt,?_,fun j hj=>?_⟩
 ·have hv := kF hl c
  rw [h.zero _ (Nat.le_refl _),Nat.mul_zero,Nat.add_zero] at hv
  rw [hv,h.sum,hJ (Nat.le_refl _),hZ,Nat.add_mul,Nat.mul_assoc]
 ·by_cases e : i + ys.length = j
  ·omega
  ·rw [dS e]; exact h.zero j (by omega)
theorem Bm.fin {xs ys out:List Nat} (h:Bm xs ys out xs.length):val out = val xs * val ys:=by
 rw [h.sum,hJ (Nat.le_refl _)]
end
section
theorem lV (k:Nat):0 < BB ^ k:=Nat.pow_pos dR
theorem rR:BB = 2 ^ 32:=rfl
theorem wW (k:Nat):BB ^ k = 2 ^ (32 * k):=by rw [rR,← Nat.pow_mul]
theorem jE.drop {l:List Nat} (h:jE l) (k:Nat):jE (l.drop k):=fun d hd=>h d (List.mem_of_mem_drop hd)
theorem jE.take' {l:List Nat} (h:jE l) (k:Nat):jE (l.take k):=fun d hd=>h d (List.mem_of_mem_take hd)
theorem jR (l:List Nat) {k:Nat} (hk:k ≤ l.length):val l = val (l.take k) + BB ^ k * val (l.drop k):=by
 have h1:=jK (l.take k) (l.drop k)
 rw [List.take_append_drop,List.length_take,Nat.min_eq_left hk] at h1
 exact h1
theorem gU {l:List Nat} (h:jE l) (k:Nat):val (l.drop k) = val l / BB ^ k:=by
 by_cases hk:k ≤ l.length
 ·have h1 := jR l hk
  have h2:=iP (h.take' k)
  rw [List.length_take,Nat.min_eq_left hk] at h2
  rw [h1,Nat.add_mul_div_left _ _ (lV k),Nat.div_eq_of_lt h2,Nat.zero_add]
 ·rw [List.drop_eq_nil_of_le (by omega), val, Nat.div_eq_of_lt]
  exact Nat.lt_of_lt_of_le (iP h) (Nat.pow_le_pow_right dR (by omega))
theorem dT (l:List Nat) (k:Nat):val (l.drop k) = l.getD k 0 + BB * val (l.drop (k + 1)):=by
 by_cases hk:k < l.length
 ·rw [List.drop_eq_getElem_cons hk,val,gT hk]
 ·rw [List.drop_eq_nil_of_le (by omega), List.drop_eq_nil_of_le (by omega)]
  simp [List.getD,List.getElem?_eq_none (by omega:l.length ≤ k),val]
theorem rP : ∀ (l : List Nat) (X : Nat), (∀ i, i < l.length → l.getD i 0 = X / BB ^ i % BB) → X < BB ^ l.length → val l = X
 | [],X,_,hX=>by simp at hX; simp [val,hX]
 | d :: r, X, h, hX => by
  have h0:=h 0 (by simp)
  simp [List.getD] at h0
  have hr : val r = X / BB := by
   refine rP r (X / BB) (fun i hi=>?_) ?_
   ·have := h (i + 1) (by simp; omega)
    rw [show (d :: r).getD (i + 1) 0 = r.getD i 0 by simp [List.getD]] at this
    rw [this,Nat.div_div_eq_div_mul,Nat.pow_succ,Nat.mul_comm]
   ·rw [List.length_cons, Nat.pow_succ] at hX
    exact Nat.div_lt_of_lt_mul (by rw [Nat.mul_comm]; exact hX)
  rw [val,hr,h0]
  exact Nat.mod_add_div X BB
theorem Nd {xs:List Nat} (h:jE xs) (j:Nat) {r:Nat} (hr:r < 32):(xs.getD j 0 + BB * xs.getD (j + 1) 0) / 2 ^ r % BB = val xs / BB ^ j / 2 ^ r % BB:=by
 rw [← gU h j,dT xs j,dT xs (j + 1)]
 generalize xs.getD j 0 = a; generalize xs.getD (j + 1) 0 = b; generalize val (xs.drop (j + 1 + 1)) = z
 have e : a + BB * (b + BB * z) = (a + BB * b) + 2 ^ r * (2 ^ (32 - r) * (BB * z)) := by
  have h1 : 2 ^ r * (2 ^ (32 - r) * (BB * z)) = BB * (BB * z) := by
   rw [← Nat.mul_assoc,← Nat.pow_add,show r + (32 - r) = 32 by omega]; rfl
  rw [h1,Nat.mul_add,Nat.add_assoc]
 rw [e,Nat.add_mul_div_left _ _ (Nat.pow_pos (by decide))]
 have e2:2 ^ (32 - r) * (BB * z) = BB * (2 ^ (32 - r) * z):=by rw [← Nat.mul_assoc,Nat.mul_comm _ BB,Nat.mul_assoc]
 rw [e2,Nat.add_mul_mod_self_left]
structure Bq (xs:List Nat) (w r:Nat) (out:List Nat) (k:Nat):Prop where
 kle:k ≤ out.length
 len:out.length = xs.length - w
 dig:jE out
 dgt:∀ i,i < k → out.getD i 0 = val xs / 2 ^ (32 * w + r) / BB ^ i % BB
theorem Bq.start (xs:List Nat) (w r:Nat):Bq xs w r (List.replicate (xs.length - w) 0) 0:=⟨Nat.zero_le _,by simp,kI _,fun i h=>by omega⟩
theorem Xx (X w r k:Nat):X / BB ^ (k + w) / 2 ^ r = X / 2 ^ (32 * w + r) / BB ^ k:=by
 rw [Nat.div_div_eq_div_mul,Nat.div_div_eq_div_mul,wW,wW,← Nat.pow_add,← Nat.pow_add]
 congr 2; omega
theorem Bq.next {xs out : List Nat} {w r k : Nat} (h : Bq xs w r out k) (hx : jE xs) (hr : r < 32) (hk : k < out.length) {d : Nat} (hd : d = (xs.getD (k + w) 0 + BB * xs.getD (k + w + 1) 0) / 2 ^ r % BB) :
  Bq xs w r (out.set k d) (k + 1):=by
 refine ⟨by simp; omega,by simp [h.len],jB h.dig (by rw [hd]; exact Nat.mod_lt _ dR),fun i hi=>?_⟩
 by_cases e:i = k
 ·subst e
  rw [nP hk,hd,Nd hx _ hr,Xx]
 ·rw [dS (fun x => e x.symm)]
  exact h.dgt i (by omega)
theorem Bq.fin {xs out:List Nat} {w r:Nat} (h:Bq xs w r out out.length) (hx:jE xs) (hw:w ≤ xs.length):val out = val xs / 2 ^ (32 * w + r):=by
 refine rP _ _ h.dgt ?_
 rw [Nat.pow_add,← wW,← Nat.div_div_eq_div_mul]
 refine Nat.lt_of_le_of_lt (Nat.div_le_self _ _) (Nat.div_lt_of_lt_mul ?_)
 rw [← Nat.pow_add,h.len,show w + (xs.length - w) = xs.length by omega]
 exact iP hx
theorem Sg {xs:List Nat} (hx:jE xs) {w r:Nat} (hw:xs.length ≤ w):val xs / 2 ^ (32 * w + r) = 0:=by
 rw [Nat.pow_add,← wW]
 exact Nat.div_eq_of_lt (Nat.lt_of_lt_of_le (iP hx) (Nat.le_trans (Nat.pow_le_pow_right dR hw) (Nat.le_mul_of_pos_right _ (Nat.pow_pos (by decide)))))
theorem qG (n:Nat):32 * (n / 32) + n % 32 = n:=Nat.div_add_mod n 32
structure Bp (xs:List Nat) (w r:Nat) (out:List Nat) (k:Nat):Prop where
 kle:k ≤ xs.length
 len:out.length = xs.length + w + 1
 dig:jE out
 top:out.getD (k + w) 0 < 2 ^ r
 zero:∀ i,k + w < i → out.getD i 0 = 0
 sum:val out = BB ^ w * (2 ^ r * val (xs.take k))
theorem Bp.start (xs : List Nat) (w r : Nat) : Bp xs w r (List.replicate (xs.length + w + 1) 0) 0 :=
 ⟨Nat.zero_le _,by simp,kI _,by rw [oD]; exact Nat.pow_pos (by decide),fun i _=>oD _ _,by simp [val,pE]⟩
theorem a11 {o x r:Nat} (ho:o < 2 ^ r) (hr:r < 32):o ||| x * 2 ^ r % BB = o + x * 2 ^ r % BB:=by
 have e : x * 2 ^ r % BB = 2 ^ r * (x % 2 ^ (32 - r)) := by
  rw [rR,show (2:Nat) ^ 32 = 2 ^ (32 - r) * 2 ^ r by rw [← Nat.pow_add,show 32 - r + r = 32 by omega],Nat.mul_mod_mul_right,Nat.mul_comm]
 rw [e,Nat.or_comm,← Nat.two_pow_add_eq_or_of_lt ho,Nat.add_comm]
theorem Bp.next {xs out : List Nat} {w r k : Nat} (h : Bp xs w r out k) (hx : jE xs) (hr : r < 32) (hk : k < xs.length) {o v : Nat} (ho : o = out.getD (k + w) 0) (hv : v = xs.getD k 0 * 2 ^ r) :
  Bp xs w r ((out.set (k + w) (o ||| v % BB)).set (k + w + 1) (v / BB)) (k + 1):=by
 have hxk:=bH hx k
 have hot:o < 2 ^ r:=ho ▸ h.top
 have hor:o ||| v % BB = o + v % BB:=by rw [hv]; exact a11 hot hr
 have hvl:v < BB * 2 ^ r:=by rw [hv]; exact Nat.mul_lt_mul_of_pos_right hxk (Nat.pow_pos (by decide))
 have hvd:v / BB < 2 ^ r:=Nat.div_lt_of_lt_mul hvl
 have hr2:2 ^ r ≤ BB:=by rw [rR]; exact Nat.pow_le_pow_right (by decide) (by omega)
 have hlen:=h.len
 have hd1 : o ||| v % BB < BB := by
  rw [rR]; exact Nat.or_lt_two_pow (Nat.lt_of_lt_of_le hot (by rw [rR] at hr2; exact hr2)) (Nat.mod_lt _ (by decide))
 refine ⟨hk,by simp [h.len],jB (jB h.dig hd1) (Nat.lt_of_lt_of_le hvd hr2),?_,fun i hi=>?_,?_⟩
 ·rw [show k + 1 + w = k + w + 1 by omega,nP (by simp; omega)]; exact hvd
 ·rw [dS (by omega),dS (by omega)]; exact h.zero i (by omega)
 ·have e1 := kF (l := out) (i := k + w) (by omega) (o ||| v % BB)
  have e2:=kF (l:=out.set (k + w) (o ||| v % BB)) (i:=k + w + 1) (by simp; omega) (v / BB)
  rw [dS (by omega),h.zero _ (by omega),Nat.mul_zero,Nat.add_zero] at e2
  rw [← ho,hor,Nat.mul_add] at e1
  have e3:val (out.set (k + w) (o + v % BB)) = val out + BB ^ (k + w) * (v % BB):=by omega
  rw [e2,hor,e3,lP hk,h.sum,Nat.pow_succ,Nat.mul_assoc,Nat.add_assoc,← Nat.mul_add,Nat.mod_add_div,hv,Nat.pow_add]
  generalize val (xs.take k) = t; generalize xs.getD k 0 = x; generalize BB ^ w = a; generalize BB ^ k = b; generalize (2:Nat) ^ r = c
  grind
theorem Bp.fin {xs out:List Nat} {w r:Nat} (h:Bp xs w r out xs.length):val out = val xs * 2 ^ (32 * w + r):=by
 rw [h.sum,List.take_of_length_le (Nat.le_refl _),Nat.pow_add,← wW]
 generalize val xs = t; generalize BB ^ w = a; generalize (2:Nat) ^ r = c
 grind
structure oL (xs:List Nat) (y:Nat) (out:List Nat) (k r:Nat):Prop where
 kle:k ≤ xs.length
 len:out.length = xs.length
 dig:jE out
 rlt:r < y
 sum:val (xs.drop k) = val (out.drop k) * y + r
theorem oL.start (xs : List Nat) {y : Nat} (hy : 0 < y) : oL xs y (List.replicate xs.length 0) xs.length 0 :=
 ⟨Nat.le_refl _,by simp,kI _,hy,by simp [val]⟩
theorem Ek {l:List Nat} {k d:Nat} (hk:k < l.length):(l.set k d).drop k = d :: l.drop (k + 1):=by
 rw [List.drop_eq_getElem_cons (by simpa using hk)]
 simp [List.drop_set]
theorem Fs {r x y:Nat} (hr:r < y) (hx:x < BB):(r * BB + x) / y < BB:=by
 refine Nat.div_lt_of_lt_mul ?_
 have:(r + 1) * BB ≤ y * BB:=Nat.mul_le_mul_right _ hr
 rw [Nat.add_mul] at this
 omega
theorem oL.next {xs out : List Nat} {y k r : Nat} (h : oL xs y out k r) (hx : jE xs) (hk : 0 < k) {z : Nat} (hz : z = r * BB + xs.getD (k - 1) 0) :
  oL xs y (out.set (k - 1) (z / y)) (k - 1) (z % y):=by
 have hy:0 < y:=Nat.lt_of_le_of_lt (Nat.zero_le _) h.rlt
 have hkl:=h.kle
 have hxk:=bH hx (k - 1)
 refine ⟨by omega,by simp [h.len],jB h.dig (by rw [hz]; exact Fs h.rlt hxk),Nat.mod_lt _ hy,?_⟩
 rw [dT,Ek (by rw [h.len]; omega),val,show k - 1 + 1 = k by omega,h.sum]
 have hdm:=Nat.div_add_mod z y
 have:xs.getD (k - 1) 0 + BB * (val (out.drop k) * y + r) = z + BB * val (out.drop k) * y:=by rw [hz]; generalize xs.getD (k-1) 0 = p; generalize val (out.drop k) = q; grind
 rw [this,Nat.add_mul]
 generalize val (out.drop k) = q at *
 rw [Nat.mul_comm (z / y) y]
 omega
theorem oL.fin {xs out:List Nat} {y r:Nat} (h:oL xs y out 0 r):val out = val xs / y ∧ r = val xs % y:=by
 have hs:=h.sum
 simp only [List.drop_zero] at hs
 have hy:0 < y:=Nat.lt_of_le_of_lt (Nat.zero_le _) h.rlt
 constructor
 ·rw [hs,Nat.mul_comm,Nat.mul_add_div hy,Nat.div_eq_of_lt h.rlt,Nat.add_zero]
 ·rw [hs,Nat.mul_comm,Nat.mul_add_mod,Nat.mod_eq_of_lt h.rlt]
def bl (v:Nat):Nat:=if v = 0 then 0 else Nat.log2 v + 1
theorem Bv {v:Nat} (h:v ≠ 0):0 < bl v:=by simp [bl,h]
theorem Jg (v:Nat):v < 2 ^ bl v:=by
 by_cases h:v = 0
 ·subst h; decide
 ·simp only [bl,if_neg h]; exact Nat.lt_log2_self
theorem Jf {v:Nat} (h:v ≠ 0):2 ^ (bl v - 1) ≤ v:=by
 simp only [bl,if_neg h,Nat.add_sub_cancel]; exact Nat.log2_self_le h
theorem Dx {v k:Nat} (h:v / 2 ^ k ≠ 0):bl v = bl (v / 2 ^ k) + k:=by
 have h0:v ≠ 0:=fun e=>h (by rw [e,Nat.zero_div])
 have l1:=Jf h; have l2:=Jg (v / 2 ^ k)
 have p:=Bv h
 have hk:0 < 2 ^ k:=Nat.pow_pos (by decide)
 have m1 : 2 ^ (bl (v / 2 ^ k) - 1 + k) ≤ v := by
  rw [Nat.pow_add]; exact Nat.le_trans (Nat.mul_le_mul_right _ l1) (Nat.div_mul_le_self _ _)
 have m2 : v < 2 ^ (bl (v / 2 ^ k) + k) := by
  rw [Nat.pow_add]; exact (Nat.div_lt_iff_lt_mul hk).1 l2
 have a1:=Jf h0; have a2:=Jg v; have a3:=Bv h0
 have b1:=(Nat.pow_lt_pow_iff_right (by decide:1 < 2)).1 (Nat.lt_of_le_of_lt m1 a2)
 have b2:=(Nat.pow_lt_pow_iff_right (by decide:1 < 2)).1 (Nat.lt_of_le_of_lt a1 m2)
 omega
theorem pJ {v k:Nat} (h:v < 2 ^ k):bl v ≤ k:=by
 by_cases h0:v = 0
 ·subst h0; exact Nat.zero_le _
 ·have a1 := Jf h0; have a3 := Bv h0
  have:=(Nat.pow_lt_pow_iff_right (by decide:1 < 2)).1 (Nat.lt_of_le_of_lt a1 h)
  omega
end
section
structure sL (us vs:List Nat) (q j:Nat) (out:List Nat) (i c b:Nat):Prop where
 ile:i ≤ vs.length
 len:out.length = us.length
 dig:jE out
 clt:c < BB
 ble:b ≤ 1
 same:∀ l,i + j ≤ l → out.getD l 0 = us.getD l 0
 low:out.take j = us.take j
 sum:val out + q * val (vs.take i) * BB ^ j = val us + (c + b) * BB ^ (i + j)
theorem sL.start {us : List Nat} (hu : jE us) (vs : List Nat) (q j : Nat) : sL us vs q j us 0 0 0 :=
 ⟨Nat.zero_le _,rfl,hu,dR,Nat.zero_le _,fun _ _=>rfl,rfl,by simp [val]⟩
theorem Sy {q w c:Nat} (hq:q < BB) (hw:w < BB) (hc:c < BB):q * w + c < BB * BB:=by
 have:=uQ hq hw hc (show 0 < BB from dR); omega
theorem nW {l:List Nat} {j k d:Nat} (h:j ≤ k):(l.set k d).take j = l.take j:=by
 rw [List.take_set_of_le h]
theorem Im {u p b : Nat} (hu : u < BB) (hb : b ≤ 1) {t : Nat} (ht : t = ((u + 18446744073709551616 - p % 4294967296) % 18446744073709551616 + 18446744073709551616 - b) % 18446744073709551616) :
  t % BB + p % BB + b = u + BB * (t / 2 ^ 63) ∧ t / 2 ^ 63 ≤ 1:=by
 simp only [BB] at *
 have:p % 4294967296 < 4294967296:=Nat.mod_lt _ (by decide)
 omega
theorem sL.next {us vs out : List Nat} {q j i c b : Nat} (h : sL us vs q j out i c b) (hu : jE us) (hv : jE vs) (hq : q < BB) (hi : i < vs.length) (hl : j + vs.length < us.length) {p t d : Nat}
  (hp:p = q * vs.getD i 0 + c) (ht:t % BB + p % BB + b = out.getD (i + j) 0 + BB * (t / 2 ^ 63) ∧ t / 2 ^ 63 ≤ 1) (hd:d = t % BB) :
  sL us vs q j (out.set (i + j) d) (i + 1) (p / BB) (t / 2 ^ 63):=by
 have hvi:=bH hv i
 have hpl:=Sy hq hvi h.clt
 rw [← hp] at hpl
 have hlen:=h.len
 refine ⟨hi,by simp [h.len],jB h.dig (by rw [hd]; exact Nat.mod_lt _ dR),Nat.div_lt_of_lt_mul hpl,ht.2,fun l hl2=>?_,?_,?_⟩
 ·rw [dS (by omega)]; exact h.same l (by omega)
 ·rw [nW (by omega)]; exact h.low
 ·have e1 := kF (l := out) (i := i + j) (by omega) d
  have e2:=h.sum
  have e3:=ht.1
  have e4:=Nat.mod_add_div p BB
  rw [lP hi,show i + 1 + j = (i + j) + 1 by omega,show BB ^ (i + j + 1) = BB ^ (i + j) * BB from rfl]
  have e5:BB ^ (i + j) = BB ^ i * BB ^ j:=Nat.pow_add _ _ _
  rw [hd] at e1 ⊢
  rw [e5] at e1 e2 ⊢
  generalize val (out.set (i + j) (t % BB)) = o2 at *
  generalize val out = o1 at *; generalize val us = u0 at *; generalize out.getD (i + j) 0 = od at *
  generalize vs.getD i 0 = vd at *; generalize val (vs.take i) = vt at *
  generalize t % BB = t0 at *; generalize t / 2 ^ 63 = t1 at *; generalize p % BB = p0 at *; generalize p / BB = p1 at *
  generalize BB ^ i = x at *; generalize BB ^ j = y at *; generalize BB = z at *
  grind
structure Dw (us vs:List Nat) (q j:Nat) (out:List Nat) (r:Bool):Prop where
 len:out.length = us.length
 dig:jE out
 low:out.take j = us.take j
 high:∀ l,j + vs.length < l → out.getD l 0 = us.getD l 0
 sum:val out + q * val vs * BB ^ j = val us + (if r then 1 else 0) * BB ^ (j + vs.length + 1)
theorem In {u c b : Nat} (hu : u < BB) (hc : c < BB) (hb : b ≤ 1) {t : Nat} (ht : t = ((u + 18446744073709551616 - c) % 18446744073709551616 + 18446744073709551616 - b) % 18446744073709551616) :
  t % BB + c + b = u + BB * (t / 2 ^ 63) ∧ t / 2 ^ 63 ≤ 1:=by
 simp only [BB] at *
 omega
theorem sL.fin {us vs out : List Nat} {q j c b : Nat} (h : sL us vs q j out vs.length c b) (hl : j + vs.length < us.length) {t d : Nat}
  (ht:t % BB + c + b = out.getD (j + vs.length) 0 + BB * (t / 2 ^ 63) ∧ t / 2 ^ 63 ≤ 1) (hd:d = t % BB):Dw us vs q j (out.set (j + vs.length) d) (!decide (t / 2 ^ 63 = 0)):=by
 have hlen:=h.len
 refine ⟨by simp [h.len],jB h.dig (by rw [hd]; exact Nat.mod_lt _ dR),?_,fun l hl2=>?_,?_⟩
 ·rw [nW (by omega)]; exact h.low
 ·rw [dS (by omega)]; exact h.same l (by omega)
 ·have e1 := kF (l := out) (i := j + vs.length) (by omega) d
  have e2:=h.sum
  have e3:=ht.1
  have e6 : (if (!decide (t / 2 ^ 63 = 0)) = true then 1 else 0) = t / 2 ^ 63 := by
   have:=ht.2
   by_cases e:t / 2 ^ 63 = 0
   ·simp [e]
   ·simp [e]; omega
  rw [e6,show BB ^ (j + vs.length + 1) = BB ^ (j + vs.length) * BB from rfl]
  rw [List.take_of_length_le (Nat.le_refl _),Nat.add_comm vs.length j] at e2
  rw [hd] at e1 ⊢
  generalize val (out.set (j + vs.length) (t % BB)) = o2 at *
  generalize val out = o1 at *; generalize val us = u0 at *; generalize out.getD (j + vs.length) 0 = od at *
  generalize val vs = vt at *
  generalize t % BB = t0 at *; generalize t / 2 ^ 63 = t1 at *
  generalize BB ^ (j + vs.length) = x at *; generalize BB ^ j = y at *; generalize BB = z at *
  grind
structure sF (us vs:List Nat) (j:Nat) (out:List Nat) (i c:Nat):Prop where
 ile:i ≤ vs.length
 len:out.length = us.length
 dig:jE out
 cle:c ≤ 1
 same:∀ l,i + j ≤ l → out.getD l 0 = us.getD l 0
 low:out.take j = us.take j
 sum:val out + c * BB ^ (i + j) = val us + val (vs.take i) * BB ^ j
theorem sF.start {us : List Nat} (hu : jE us) (vs : List Nat) (j : Nat) : sF us vs j us 0 0 :=
 ⟨Nat.zero_le _,rfl,hu,Nat.zero_le _,fun _ _=>rfl,rfl,by simp [val]⟩
theorem sF.next {us vs out : List Nat} {j i c : Nat} (h : sF us vs j out i c) (hv : jE vs) (hi : i < vs.length) (hl : j + vs.length < us.length) {s : Nat}
  (hs:s = c + (out.getD (i + j) 0 + vs.getD i 0)):sF us vs j (out.set (i + j) (s % BB)) (i + 1) (s / BB):=by
 have hvi:=bH hv i
 have hoi:=bH h.dig (i + j)
 have hc:=h.cle
 have hlen:=h.len
 refine ⟨hi,by simp [h.len],jB h.dig (Nat.mod_lt _ dR),?_,fun l hl2=>?_,?_,?_⟩
 ·simp only [BB] at *; omega
 ·rw [dS (by omega)]; exact h.same l (by omega)
 ·rw [nW (by omega)]; exact h.low
 ·have e1 := kF (l := out) (i := i + j) (by omega) (s % BB)
  have e2:=h.sum
  have e4:=Nat.mod_add_div s BB
  rw [lP hi,show i + 1 + j = (i + j) + 1 by omega,show BB ^ (i + j + 1) = BB ^ (i + j) * BB from rfl]
  have e5:BB ^ (i + j) = BB ^ i * BB ^ j:=Nat.pow_add _ _ _
  rw [e5] at e1 e2 ⊢
  generalize val (out.set (i + j) (s % BB)) = o2 at *
  generalize val out = o1 at *; generalize val us = u0 at *; generalize out.getD (i + j) 0 = od at *
  generalize vs.getD i 0 = vd at *; generalize val (vs.take i) = vt at *
  generalize s % BB = p0 at *; generalize s / BB = p1 at *
  generalize BB ^ i = x at *; generalize BB ^ j = y at *; generalize BB = z at *
  grind
structure Ns (us vs:List Nat) (j:Nat) (out:List Nat):Prop where
 len:out.length = us.length
 dig:jE out
 low:out.take j = us.take j
 high:∀ l,j + vs.length < l → out.getD l 0 = us.getD l 0
 sum:∃ o,val out + o * BB ^ (j + vs.length + 1) = val us + val vs * BB ^ j
theorem sF.fin {us vs out : List Nat} {j c : Nat} (h : sF us vs j out vs.length c) (hl : j + vs.length < us.length) {s : Nat}
  (hs:s = out.getD (j + vs.length) 0 + c):Ns us vs j (out.set (j + vs.length) (s % BB)):=by
 have hlen:=h.len
 refine ⟨by simp [h.len],jB h.dig (Nat.mod_lt _ dR),?_,fun l hl2=>?_,s / BB,?_⟩
 ·rw [nW (by omega)]; exact h.low
 ·rw [dS (by omega)]; exact h.same l (by omega)
 ·have e1 := kF (l := out) (i := j + vs.length) (by omega) (s % BB)
  have e2:=h.sum
  have e4:=Nat.mod_add_div s BB
  rw [show BB ^ (j + vs.length + 1) = BB ^ (j + vs.length) * BB from rfl]
  rw [List.take_of_length_le (Nat.le_refl _),Nat.add_comm vs.length j] at e2
  generalize val (out.set (j + vs.length) (s % BB)) = o2 at *
  generalize val out = o1 at *; generalize val us = u0 at *; generalize out.getD (j + vs.length) 0 = od at *
  generalize val vs = vt at *
  generalize s % BB = p0 at *; generalize s / BB = p1 at *
  generalize BB ^ (j + vs.length) = x at *; generalize BB ^ j = y at *; generalize BB = z at *
  grind
structure zL (V v1 v2 P:Nat):Prop where
 v1lt:v1 < BB
 v2lt:v2 < BB
 big:BB ≤ 2 * v1
 pos:0 < P
 lo:(v1 * BB + v2) * P ≤ V
 hi:V < (v1 * BB + v2 + 1) * P
structure Yo (W V top u2 P:Nat):Prop where
 lt:W < BB * V
 u2lt:u2 < BB
 lo:(top * BB + u2) * P ≤ W
 hi:W < (top * BB + u2 + 1) * P
structure kW (W V v1 top g r:Nat):Prop where
 eq:g * v1 + r = top
 ge:W / V ≤ g
theorem zL.vpos {V v1 v2 P:Nat} (h:zL V v1 v2 P):0 < V:=by
 have h1:=h.big; have h2:=h.lo; have h3:=h.pos
 have : 0 < (v1 * BB + v2) * P := by
  refine Nat.mul_pos ?_ h3
  have:0 < v1:=by simp only [BB] at h1; omega
  have:0 < v1 * BB:=Nat.mul_pos this dR
  omega
 omega
theorem a1b {W V v1 v2 top u2 P:Nat} (hn:zL V v1 v2 P) (ht:Yo W V top u2 P):top < BB * v1 + BB:=by
 have h1:(top * BB + u2) * P < BB * ((v1 * BB + v2 + 1) * P):=Nat.lt_of_le_of_lt ht.lo (Nat.lt_of_lt_of_le ht.lt (Nat.mul_le_mul_left _ (Nat.le_of_lt hn.hi)))
 rw [← Nat.mul_assoc] at h1
 have h2:=Nat.lt_of_mul_lt_mul_right h1
 have h3:=hn.v2lt
 have h4:BB * (v1 * BB + v2 + 1) ≤ BB * (v1 * BB + BB):=Nat.mul_le_mul_left _ (by omega)
 have h5:BB * (v1 * BB + BB) = (BB * v1 + BB) * BB:=by grind
 have h6:top * BB < (BB * v1 + BB) * BB:=by omega
 exact Nat.lt_of_mul_lt_mul_right h6
theorem kW.start {W V v1 v2 top u2 P:Nat} (hn:zL V v1 v2 P) (ht:Yo W V top u2 P):kW W V v1 top (top / v1) (top % v1):=by
 have h1:=hn.big
 have hv1:0 < v1:=by simp only [BB] at h1; omega
 refine ⟨by rw [Nat.mul_comm]; exact Nat.div_add_mod top v1,?_⟩
 -- W / V ≤ top / v1
 refine (Nat.le_div_iff_mul_le hv1).2 ?_
 have hV:=hn.vpos
 have a1:W / V * V ≤ W:=Nat.div_mul_le_self _ _
 have a2:W / V * ((v1 * BB + v2) * P) ≤ W:=Nat.le_trans (Nat.mul_le_mul_left _ hn.lo) a1
 have a3:W / V * (v1 * BB + v2) * P < (top * BB + u2 + 1) * P:=by rw [Nat.mul_assoc]; exact Nat.lt_of_le_of_lt a2 ht.hi
 have a4:=Nat.lt_of_mul_lt_mul_right a3
 have a5:=ht.u2lt
 have a6 : W / V * v1 * BB < (top + 1) * BB := by
  have:W / V * v1 * BB ≤ W / V * (v1 * BB + v2):=by rw [Nat.mul_assoc]; exact Nat.mul_le_mul_left _ (by omega)
  have:(top + 1) * BB = top * BB + BB:=by grind
  omega
 have:=Nat.lt_of_mul_lt_mul_right a6
 omega
theorem kW.glt {W V v1 v2 top u2 P g r:Nat} (h:kW W V v1 top g r) (hn:zL V v1 v2 P) (ht:Yo W V top u2 P):g ≤ BB + 1 ∧ (BB ≤ g → r < BB):=by
 have h1:=a1b hn ht
 have h2:=hn.big
 have h3:=h.eq
 have hv1:0 < v1:=by simp only [BB] at h2; omega
 constructor
 ·refine Nat.le_of_lt_succ (Nat.lt_of_mul_lt_mul_right (a := v1) ?_)
  have:(BB + 1 + 1) * v1 = BB * v1 + 2 * v1:=by grind
  show g * v1 < (BB + 1 + 1) * v1
  omega
 ·intro hg
  have:BB * v1 ≤ g * v1:=Nat.mul_le_mul_right _ hg
  omega
theorem kW.next {W V v1 v2 top u2 P g r:Nat} (h:kW W V v1 top g r) (hn:zL V v1 v2 P) (ht:Yo W V top u2 P) (hc:BB ≤ g ∨ r * BB + u2 < g * v2):kW W V v1 top (g - 1) (r + v1) ∧ 0 < g:=by
 have hV:=hn.vpos
 have hq : W / V < g := by
  rcases hc with h1 | h1
  ·exact Nat.lt_of_lt_of_le (Nat.div_lt_of_lt_mul (by rw [Nat.mul_comm]; exact ht.lt)) h1
  ·refine (Nat.div_lt_iff_lt_mul hV).2 ?_
   have a1 : top * BB + u2 + 1 ≤ g * (v1 * BB + v2) := by
    have:=h.eq
    have e:g * (v1 * BB + v2) = g * v1 * BB + g * v2:=by grind
    have e2:top * BB = g * v1 * BB + r * BB:=by rw [← this]; grind
    omega
   have a2:(top * BB + u2 + 1) * P ≤ g * (v1 * BB + v2) * P:=Nat.mul_le_mul_right _ a1
   have a3:g * (v1 * BB + v2) * P ≤ g * V:=by rw [Nat.mul_assoc]; exact Nat.mul_le_mul_left _ hn.lo
   exact Nat.lt_of_lt_of_le ht.hi (Nat.le_trans a2 a3)
 have hg:0 < g:=Nat.lt_of_le_of_lt (Nat.zero_le _) hq
 refine ⟨⟨?_,by omega⟩,hg⟩
 have:=h.eq
 have e : g * v1 = (g - 1) * v1 + v1 := by
  have:g = (g - 1) + 1:=by omega
  rw [this]; simp [Nat.add_mul]
 omega
structure Li (W V g:Nat):Prop where
 lt:g < BB
 ge:W / V ≤ g
 le:g ≤ W / V + 1
theorem Wk {W V v1 v2 top u2 P g:Nat} (hn:zL V v1 v2 P) (ht:Yo W V top u2 P) (hlt:g < BB) (hge:W / V ≤ g) (hle:g * (v1 * BB + v2) ≤ top * BB + u2):Li W V g:=by
 have hV:=hn.vpos
 refine ⟨hlt,hge,?_⟩
 cases g with
 | zero=>exact Nat.zero_le _
 | succ g =>
  refine Nat.succ_le_succ ((Nat.le_div_iff_mul_le hV).2 ?_)
  have a1:g * V ≤ g * ((v1 * BB + v2 + 1) * P):=Nat.mul_le_mul_left _ (Nat.le_of_lt hn.hi)
  have hbig:=hn.big
  have a2 : g * (v1 * BB + v2 + 1) ≤ (g + 1) * (v1 * BB + v2) := by
   have e1:g * (v1 * BB + v2 + 1) = g * (v1 * BB + v2) + g:=by grind
   have e2:(g + 1) * (v1 * BB + v2) = g * (v1 * BB + v2) + (v1 * BB + v2):=by grind
   have:BB ≤ v1 * BB:=Nat.le_mul_of_pos_left _ (by simp only [BB] at hbig; omega)
   omega
  have a3:g * (v1 * BB + v2 + 1) * P ≤ (top * BB + u2) * P:=Nat.mul_le_mul_right _ (Nat.le_trans a2 hle)
  rw [← Nat.mul_assoc] at a1
  exact Nat.le_trans a1 (Nat.le_trans a3 ht.lo)
theorem kW.done {W V v1 v2 top u2 P g r:Nat} (h:kW W V v1 top g r) (hn:zL V v1 v2 P) (ht:Yo W V top u2 P) (hlt:g < BB) (hc:g * v2 ≤ r * BB + u2):Li W V g:=by
 refine Wk hn ht hlt h.ge ?_
 have:=h.eq
 have e:g * (v1 * BB + v2) = g * v1 * BB + g * v2:=by grind
 have e2:top * BB = g * v1 * BB + r * BB:=by rw [← this]; grind
 omega
theorem kW.stop {W V v1 v2 top u2 P g r:Nat} (h:kW W V v1 top g r) (hn:zL V v1 v2 P) (ht:Yo W V top u2 P) (hr:BB ≤ r):Li W V g:=by
 have hg:=h.glt hn ht
 have hlt : g < BB := by
  by_cases e:BB ≤ g
  ·have:=hg.2 e; omega
  ·omega
 refine h.done hn ht hlt ?_
 have h1:g * v2 ≤ BB * BB:=Nat.mul_le_mul (Nat.le_of_lt hlt) (Nat.le_of_lt hn.v2lt)
 have h2:BB * BB ≤ r * BB:=Nat.mul_le_mul_right _ hr
 omega
structure nK (X:Nat) (vs us qs:List Nat) (k:Nat):Prop where
 dig:jE us
 digq:jE qs
 lenq:qs.length + vs.length = us.length
 kle:k ≤ qs.length
 zero:∀ i,i < k → qs.getD i 0 = 0
 sum:val us + val vs * val qs = X
 small:val (us.drop k) < val vs
theorem nK.high {X k:Nat} {vs us qs:List Nat} (h:nK X vs us qs k) (hv:jE vs) (l:Nat) (hl:k + vs.length ≤ l):us.getD l 0 = 0:=by
 have h1:val (us.drop k) < BB ^ vs.length:=Nat.lt_trans h.small (iP hv)
 have h2 : val (us.drop l) = 0 := by
  rw [gU h.dig]
  rw [gU h.dig] at h1
  have e:BB ^ l = BB ^ k * BB ^ (l - k):=by rw [← Nat.pow_add]; congr 1; omega
  rw [e,← Nat.div_div_eq_div_mul]
  exact Nat.div_eq_of_lt (Nat.lt_of_lt_of_le h1 (Nat.pow_le_pow_right dR (by omega)))
 rw [dT] at h2
 omega
theorem Lf (l:List Nat) (i:Nat):val (l.drop i) = l.getD i 0 + BB * (l.getD (i + 1) 0 + BB * val (l.drop (i + 2))):=by
 rw [dT l i,dT l (i + 1)]
theorem Wp {vs:List Nat} (hv:jE vs) (hn:2 ≤ vs.length) (hb:BB ≤ 2 * vs.getD (vs.length - 1) 0):zL (val vs) (vs.getD (vs.length - 1) 0) (vs.getD (vs.length - 2) 0) (BB ^ (vs.length - 2)):=by
 have e:=Lf vs (vs.length - 2)
 rw [show vs.length - 2 + 1 = vs.length - 1 by omega,show vs.length - 2 + 2 = vs.length by omega,List.drop_length] at e
 simp only [val,Nat.mul_zero,Nat.add_zero] at e
 have hd:=gU hv (vs.length - 2)
 rw [e] at hd
 have hp:=lV (vs.length - 2)
 have e2:vs.getD (vs.length - 1) 0 * BB + vs.getD (vs.length - 2) 0 = val vs / BB ^ (vs.length - 2):=by rw [← hd]; grind
 refine ⟨bH hv _,bH hv _,hb,hp,?_,?_⟩
 ·rw [e2]; exact Nat.div_mul_le_self _ _
 ·rw [e2,Nat.mul_comm]; exact Nat.lt_mul_div_succ _ hp
theorem nK.top {X k : Nat} {vs us qs : List Nat} (h : nK X vs us qs k) (hv : jE vs) (hn : 2 ≤ vs.length) (hk : 0 < k) {j : Nat} (hj : j = k - 1) :
  Yo (val (us.drop j)) (val vs) (us.getD (j + vs.length) 0 * BB + us.getD (j + vs.length - 1) 0) (us.getD (j + vs.length - 2) 0) (BB ^ (vs.length - 2)):=by
 have hu:=h.dig
 have hp:=lV (vs.length - 2)
 have e2 : (us.getD (j + vs.length) 0 * BB + us.getD (j + vs.length - 1) 0) * BB + us.getD (j + vs.length - 2) 0 = val (us.drop j) / BB ^ (vs.length - 2) := by
  rw [← gU (hu.drop j), List.drop_drop, show j + (vs.length - 2) = j + vs.length - 2 by omega, Lf, show j + vs.length - 2 + 1 = j + vs.length - 1 by omega,
   show j + vs.length - 2 + 2 = j + vs.length by omega,dT us (j + vs.length)]
  have : val (us.drop (j + vs.length + 1)) = 0 := mT _ (fun d hd => by
   obtain ⟨i,hi,rfl⟩:=List.getElem_of_mem hd
   have:=h.high hv (j + vs.length + 1 + i) (by omega)
   rw [List.getElem_drop]
   rw [gT (by simp at hi; omega)] at this
   exact this)
  rw [this]
  grind
 refine ⟨?_,bH hu _,?_,?_⟩
 ·rw [dT, show j + 1 = k by omega]
  have h1:=bH hu j
  have h2:=h.small
  have:BB * (val (us.drop k) + 1) ≤ BB * val vs:=Nat.mul_le_mul_left _ h2
  rw [Nat.mul_add] at this
  omega
 ·rw [e2]; exact Nat.div_mul_le_self _ _
 ·rw [e2,Nat.mul_comm]; exact Nat.lt_mul_div_succ _ hp
theorem wU {us out:List Nat} {j:Nat} (hl:out.length = us.length) (hlow:out.take j = us.take j) (hj:j ≤ us.length) {a b:Nat} (h:val out + a * BB ^ j = val us + b * BB ^ j):val (out.drop j) + a = val (us.drop j) + b:=by
 rw [jR out (k:=j) (by omega),jR us hj,hlow] at h
 have hp:=lV j
 have : BB ^ j * (val (out.drop j) + a) = BB ^ j * (val (us.drop j) + b) := by
  rw [Nat.mul_add,Nat.mul_add,Nat.mul_comm (BB ^ j) a,Nat.mul_comm (BB ^ j) b]; omega
 exact Nat.eq_of_mul_eq_mul_left hp this
theorem Mx {W V q:Nat} (hV:0 < V) (hq:q = W / V) {W':Nat} (h:W' + q * V = W):W' < V:=by
 have h1:=Nat.div_add_mod W V
 have h2:=Nat.mod_lt W hV
 rw [hq,Nat.mul_comm] at h
 omega
theorem nK.put {X k : Nat} {vs us qs out : List Nat} (h : nK X vs us qs k) (hv : jE vs) (hV : 0 < val vs) (hk : 0 < k) {j g : Nat} (hj : j = k - 1) (hg : g < BB)
  (hlen:out.length = us.length) (hdig:jE out) (hlow:out.take j = us.take j) (hq:g = val (us.drop j) / val vs) (hsum:val out + g * val vs * BB ^ j = val us):nK X vs out (qs.set j g) j:=by
 have hkl:=h.kle
 have hlq:=h.lenq
 refine ⟨hdig,jB h.digq hg,by simp; omega,by simp; omega,fun i hi=>?_,?_,?_⟩
 ·rw [dS (by omega)]; exact h.zero i (by omega)
 ·have e1 := kF (l := qs) (i := j) (by omega) g
  rw [h.zero j (by omega),Nat.mul_zero,Nat.add_zero] at e1
  rw [e1,← h.sum,← hsum]
  generalize val vs = v; generalize val qs = q; generalize val out = o; generalize BB ^ j = x
  grind
 ·have e := wU hlen hlow (by omega) (a := g * val vs) (b := 0) (by omega)
  exact Mx hV hq (by omega)
theorem nK.right {X k:Nat} {vs us qs out:List Nat} (h:nK X vs us qs k) (hv:jE vs) (hV:0 < val vs) (hk:0 < k) {j g:Nat} (hj:j = k - 1) (hn:Li (val (us.drop j)) (val vs) g) (ht:Dw us vs g j out false):nK X vs out (qs.set j g) j:=by
 have hs:=ht.sum
 simp at hs
 have hkl:=h.kle
 have hlq:=h.lenq
 refine h.put hv hV hk hj hn.lt ht.len ht.dig ht.low ?_ hs
 have e:=wU ht.len ht.low (by omega) (a:=g * val vs) (b:=0) (by omega)
 have:g ≤ val (us.drop j) / val vs:=(Nat.le_div_iff_mul_le hV).2 (by omega)
 have:=hn.ge
 omega
theorem nK.wrong {X k : Nat} {vs us qs out out2 : List Nat} (h : nK X vs us qs k) (hv : jE vs) (hV : 0 < val vs) (hk : 0 < k) {j g : Nat} (hj : j = k - 1) (hn : Li (val (us.drop j)) (val vs) g) (ht : Dw us vs g j out true) (hb : Ns out vs j out2) :
  0 < g ∧ nK X vs out2 (qs.set j (g - 1)) j:=by
 have hs:=ht.sum
 simp at hs
 have hkl:=h.kle
 have hlq:=h.lenq
 have hl1:=ht.len
 have hl2:=hb.len
 have hl3:out2.length = us.length:=by omega
 have hlow:out2.take j = us.take j:=by rw [hb.low,ht.low]
 have epow:BB ^ (j + vs.length + 1) = BB ^ (vs.length + 1) * BB ^ j:=by rw [← Nat.pow_add]; congr 1; omega
 rw [epow] at hs
 have e:=wU ht.len ht.low (by omega) hs
 -- W < g V
 obtain ⟨o,ho⟩:=hb.sum
 rw [epow] at ho
 have e2:=wU hl2 hb.low (by omega) (a:=o * BB ^ (vs.length + 1)) (b:=val vs) (by rw [← Nat.mul_assoc] at ho; exact ho)
 have hi1 : val (out.drop j) < BB ^ (vs.length + 1) := by
  have : val (out.drop (j + (vs.length + 1))) = 0 := mT _ (fun d hd => by
   obtain ⟨i,hi,rfl⟩:=List.getElem_of_mem hd
   rw [List.getElem_drop]
   rw [List.length_drop] at hi
   have e3:=ht.high (j + (vs.length + 1) + i) (by omega)
   rw [h.high hv _ (by omega),gT (by omega)] at e3
   exact e3)
  rw [← List.drop_drop,gU (ht.dig.drop j)] at this
  rcases (Nat.div_eq_zero_iff).1 this with h1 | h1
  ·have:=lV (vs.length + 1); omega
  ·exact h1
 have hi2 : val (out2.drop j) < BB ^ (vs.length + 1) := by
  have : val (out2.drop (j + (vs.length + 1))) = 0 := mT _ (fun d hd => by
   obtain ⟨i,hi,rfl⟩:=List.getElem_of_mem hd
   rw [List.getElem_drop]
   rw [List.length_drop] at hi
   have e3:=hb.high (j + (vs.length + 1) + i) (by omega)
   rw [ht.high _ (by omega),h.high hv _ (by omega),gT (by omega)] at e3
   exact e3)
  rw [← List.drop_drop,gU (hb.dig.drop j)] at this
  rcases (Nat.div_eq_zero_iff).1 this with h1 | h1
  ·have:=lV (vs.length + 1); omega
  ·exact h1
 have hVlt:val vs < BB ^ (vs.length + 1):=Nat.lt_of_lt_of_le (iP hv) (Nat.pow_le_pow_right dR (by omega))
 have hqd:val (us.drop j) / val vs < g:=(Nat.div_lt_iff_lt_mul hV).2 (by omega)
 have hnl:=hn.le
 have hg:g = val (us.drop j) / val vs + 1:=by omega
 have hgp:0 < g:=by rw [hg]; exact Nat.succ_pos _
 have hm:=Nat.div_add_mod (val (us.drop j)) (val vs)
 have hgV : g * val vs = (g - 1) * val vs + val vs := by
  rw [show g = (g - 1) + 1 by omega]; simp [Nat.add_mul]
 have hq1 : (g - 1) * val vs ≤ val (us.drop j) := by
  rw [show g - 1 = val (us.drop j) / val vs by omega]; exact Nat.div_mul_le_self _ _
 have ho1 : o = 1 := by
  have p:=lV (vs.length + 1)
  generalize BB ^ (vs.length + 1) = Z at *
  rcases Nat.lt_or_ge o 1 with h1 | h1
  ·have : o = 0 := by omega
   subst this; omega
  ·rcases Nat.lt_or_ge o 2 with h2 | h2
   ·omega
   ·have : 2 * Z ≤ o * Z := Nat.mul_le_mul_right _ h2
    omega
 subst ho1
 refine ⟨hgp,h.put hv hV hk hj (by have:=hn.lt; omega) hl3 hb.dig hlow (by omega) ?_⟩
 have e4:=jR out2 (k:=j) (by omega)
 have e5:=jR us (k:=j) (by omega)
 rw [hlow] at e4
 have e6:val (out2.drop j) + (g - 1) * val vs = val (us.drop j):=by omega
 rw [e4,e5,← e6,Nat.mul_add,Nat.mul_comm (BB ^ j) ((g - 1) * val vs)]
 omega
theorem nK.fin {X:Nat} {vs us qs:List Nat} (h:nK X vs us qs 0) (hV:0 < val vs):val qs = X / val vs ∧ val us = X % val vs:=by
 have hs:=h.sum
 have hl:=h.small
 simp only [List.drop_zero] at hl
 constructor
 ·rw [← hs,Nat.add_mul_div_left _ _ hV,Nat.div_eq_of_lt hl,Nat.zero_add]
 ·rw [← hs,Nat.add_mul_mod_self_left,Nat.mod_eq_of_lt hl]
theorem Sz {y:Nat} (hy:y ≠ 0) (hl:y < BB):bl y ≤ 32 ∧ BB ≤ 2 * (y * 2 ^ (32 - bl y)) ∧ y * 2 ^ (32 - bl y) < BB ∧ 0 < bl y:=by
 have h1:=Jg y; have h2:=Jf hy; have h3:=Bv hy
 have h4:bl y ≤ 32:=pJ hl
 refine ⟨h4,?_,?_,h3⟩
 ·have : 2 ^ (bl y - 1) * 2 ^ (32 - bl y) ≤ y * 2 ^ (32 - bl y) := Nat.mul_le_mul_right _ h2
  rw [← Nat.pow_add,show bl y - 1 + (32 - bl y) = 31 by omega] at this
  simp only [BB]; omega
 ·have : y * 2 ^ (32 - bl y) < 2 ^ bl y * 2 ^ (32 - bl y) := Nat.mul_lt_mul_of_pos_right h1 (Nat.pow_pos (by decide))
  rw [← Nat.pow_add,show bl y + (32 - bl y) = 32 by omega] at this
  exact this
theorem nK.start {x s : Nat} {vs us : List Nat} {L m : Nat} (hv : jE vs) (hn : 1 ≤ vs.length) (hb : BB ≤ 2 * vs.getD (vs.length - 1) 0) (hs : s ≤ 31) (hx : x < BB ^ L) (hu : jE us) (hul : us.length = L + 1) (huv : val us = x * 2 ^ s)
  (hm:m + vs.length = L + 1):nK (x * 2 ^ s) vs us (List.replicate m 0) m:=by
 refine ⟨hu,kI _,by simp; omega,by simp,fun i _=>oD _ _,by rw [pE,huv]; simp,?_⟩
 rw [gU hu,huv]
 have h1 : val vs ≥ BB ^ (vs.length - 1) * vs.getD (vs.length - 1) 0 := by
  have:=jR vs (k:=vs.length - 1) (by omega)
  rw [dT,show vs.length - 1 + 1 = vs.length by omega,List.drop_length] at this
  simp only [val,Nat.mul_zero,Nat.add_zero] at this
  omega
 refine Nat.lt_of_lt_of_le (Nat.div_lt_of_lt_mul ?_) h1
 have h2:BB ^ m * (BB ^ (vs.length - 1) * vs.getD (vs.length - 1) 0) = BB ^ L * vs.getD (vs.length - 1) 0:=by rw [← Nat.mul_assoc,← Nat.pow_add]; congr 2; omega
 rw [h2]
 have h3 : 2 ^ s ≤ vs.getD (vs.length - 1) 0 := by
  have:(2:Nat) ^ s ≤ 2 ^ 31:=Nat.pow_le_pow_right (by decide) hs
  simp only [BB] at hb; omega
 refine Nat.lt_of_lt_of_le (Nat.mul_lt_mul_of_pos_right hx (Nat.pow_pos (by decide))) (Nat.mul_le_mul_left _ h3)
end
section
open Go Go.RowKit
abbrev aO:=Nat → Option Obj
def kC (V V':aO):Prop:=∀ b o,V b = some o → V' b = some o
theorem kC.refl (V:aO):kC V V:=fun _ _ h=>h
theorem kC.trans {A B C:aO} (h:kC A B) (k:kC B C):kC A C:=fun b o x=>k b o (h b o x)
structure Ty where
 p:Value → aO → Prop
 mono:∀ {v V V'},p v V → kC V V' → p v V'
abbrev cB:=List (Nat × Ty)
def fH : cB → Nat → Option Ty
 | [],_=>none
 | (d,T) :: r,t=>cond (Nat.beq d t) (some T) (fH r t)
structure SA where
 h:List Nat → aO → aO → Prop
 loc:∀ {S m m' V},h S m V → (∀ b,b ∈ S → m' b = m b) → h S m' V
 mono:∀ {S m V V'},h S m V → kC V V' → h S m V'
def SA.emp:SA:=⟨fun S _ _=>S = [],fun h _=>h,fun h _=>h⟩
abbrev Hp:=List SA
def hv (w:World):aO:=fun b=>w.heap[b]?
structure Cx where
 w0:World
 V0:aO
def HH (base : Nat) (w : World) (V : aO) (H : Hp) : Prop :=
 ∃ F : Nat → List Nat, (∀ (i : Nat) (A : SA), H[i]? = some A → A.h (F i) (hv w) V ∧ ∀ b, b ∈ F i → V b = none ∧ base ≤ b ∧ b < w.heap.size) ∧
  ∀ i j b,i < H.length → j < H.length → b ∈ F i → b ∈ F j → i = j
structure Below (B:Nat) (w w':World):Prop extends Go.RowKit.Below B w w' where
 dr:w.drawn ≤ w'.drawn
theorem Below.refl (B:Nat) (w:World):Below B w w:=⟨Go.RowKit.Below.refl B w,Nat.le_refl _⟩
theorem Below.trans {B:Nat} {a b c:World} (h:Below B a b) (k:Below B b c):Below B a c:=⟨h.1.trans k.1,Nat.le_trans h.2 k.2⟩
theorem Below.mono {B B':Nat} {w w':World} (h:Below B w w') (hB:B' ≤ B):Below B' w w':=⟨h.1.mono hB,h.2⟩
theorem Below.drew {B:Nat} {a w:World} (h:Below B a w):Below B a w.drew:=⟨h.1.drew,Nat.le_succ_of_le h.2⟩
theorem Below.alloc {B:Nat} {a w:World} (h:Below B a w) (hB:B ≤ w.heap.size) (o:Obj):Below B a (w.alloc o):=⟨h.1.alloc hB o,h.2⟩
structure fN (cx:Cx) (V:aO) (H:Hp) (w:World):Prop where
 on:∀ b o,V b = some o → w.heap[b]? = some o
 le:kC cx.V0 V
 new:∀ b o,V b = some o → cx.V0 b = none → cx.w0.heap.size ≤ b
 bel:Below cx.w0.heap.size cx.w0 w
 hp:HH cx.w0.heap.size w V H
def Ti (n : Nat) (ds : List Deferred) (V : aO) : Prop :=
 ds = [] ∨ (Nat.beq n 206 = true ∧ ds.Nodup ∧ ∀ d,d ∈ ds → ∃ D,d = { target:=.collected D,args:=#[] } ∧ V D = some (.deferred (some [])))
theorem Ti.mono {n : Nat} {ds : List Deferred} {V V' : aO} (h : Ti n ds V) (k : kC V V') : Ti n ds V' :=
 h.imp id fun ⟨a,b,c⟩=>⟨a,b,fun d hd=>let ⟨D,e,f⟩:=c d hd; ⟨D,e,k _ _ f⟩⟩
theorem Ti.nil {n : Nat} {ds : List Deferred} {V : aO} (h : Ti n ds V) (hn : Nat.beq n 206 = false) : ds = [] :=
 h.elim id fun x=>absurd (hn.symm.trans x.1) (by simp)
def dA (n : Nat) (E : cB) (V : aO) (a : Act) : Prop :=
 Ti n a.defers V ∧ a.tmps.size = n ∧ ∀ t T,fH E t = some T → ∃ v,a.tmps[t]? = some v ∧ T.p v V
def St (cx:Cx) (n:Nat) (E:cB) (H:Hp) (a:Act) (w:World):Prop:=∃ V,fN cx V H w ∧ dA n E V a
theorem dA.mono {n E V V' a} (h : dA n E V a) (k : kC V V') : dA n E V' a :=
 ⟨h.1.mono k,h.2.1,fun t T hl=>let ⟨v,h1,h2⟩:=h.2.2 t T hl; ⟨v,h1,T.mono h2 k⟩⟩
theorem Oh {a b:Nat} (h:a ≠ b):Nat.beq a b = false:=by
 cases hb:Nat.beq a b
 ·rfl
 ·exact absurd (Nat.eq_of_beq_eq_true hb) h
theorem cM (d:Nat) (T:Ty) (E:cB) (t:Nat):fH ((d,T) :: E) t = if d = t then some T else fH E t:=by
 simp only [fH]
 by_cases h:d = t
 ·subst h; simp
 ·rw [if_neg h]; have : Nat.beq d t = false := Oh h
  rw [this]; rfl
theorem dA.put {n E V a} (h:dA n E V a) {d:Nat} (hd:d < n) {T:Ty} {v:Value} (hv:T.p v V):dA n ((d,T) :: E) V (a.put (some d) v):=by
 refine ⟨h.1,by simp [Act.put,h.2.1],fun t U hl=>?_⟩
 rw [cM] at hl
 by_cases e:d = t
 ·subst e; rw [if_pos rfl] at hl; obtain rfl := Option.some.inj hl
  exact ⟨v,by simp [Act.put,h.2.1,hd],hv⟩
 ·rw [if_neg e] at hl
  obtain ⟨u,h1,h2⟩:=h.2.2 t U hl
  exact ⟨u,by simp [Act.put,Array.getElem?_setIfInBounds_ne e,h1],h2⟩
def Sub (E E':cB):Prop:=∀ t T,fH E' t = some T → ∃ U,fH E t = some U ∧ ∀ v V,U.p v V → T.p v V
theorem Sub.nil {E:cB}:Sub E []:=fun t T h=>by cases h
theorem Sub.cons {E E' : cB} {d : Nat} {T : Ty} (h : fH E d = some T) (k : Sub E E') : Sub E ((d, T) :: E') := fun t U hl => by
 rw [cM] at hl
 by_cases e:d = t
 ·subst e; rw [if_pos rfl] at hl; obtain rfl:=Option.some.inj hl; exact ⟨_,h,fun _ _ x=>x⟩
 ·rw [if_neg e] at hl; exact k t U hl
theorem Sub.to {E E' : cB} {d : Nat} {T U : Ty} (h : fH E d = some U) (i : ∀ v V, U.p v V → T.p v V) (k : Sub E E') : Sub E ((d, T) :: E') := fun t X hl => by
 rw [cM] at hl
 by_cases e:d = t
 ·subst e; rw [if_pos rfl] at hl; obtain rfl:=Option.some.inj hl; exact ⟨_,h,i⟩
 ·rw [if_neg e] at hl; exact k t X hl
theorem dA.sub {n E E' V a} (h : dA n E V a) (k : Sub E E') : dA n E' V a :=
 ⟨h.1,h.2.1,fun t T hl=>let ⟨U,h1,h2⟩:=k t T hl; let ⟨v,h3,h4⟩:=h.2.2 t U h1; ⟨v,h3,h2 _ _ h4⟩⟩
inductive It where
 | code (c:Code)
 | blk (id:Nat)
 | lp (J:Act → World → Prop)
abbrev eA:=Exit → Act → World → Prop
def den (P : Program) (R : eA) : List It → eA
 | []=>R
 | .code c :: k=>Exit.then (fun a w=>c.wp P (den P R k) a w) (den P R k)
 | .blk id :: k=>Exit.inBlock id (den P R k)
 | .lp J :: k=>Exit.then J (den P R k)
def Tr (P : Program) (R : eA) (cx : Cx) (n : Nat) (k : List It) (E : cB) (H : Hp) : Prop :=
 ∀ a w,St cx n E H a w → den P R k .normal a w
def Rg (P : Program) (R : eA) (cx : Cx) (n : Nat) (ops : Array Oper) (l : List Oper) (k : List It) (E : cB) (H : Hp) : Prop :=
 ∀ a w,St cx n E H a w → wpList P ops (den P R k) l a w
section
variable {P:Program} {R:eA} {cx:Cx} {n:Nat} {k:List It} {E:cB} {H:Hp}
theorem T_seq {x y : Code} (h : Tr P R cx n (.code x :: .code y :: k) E H) : Tr P R cx n (.code (.seq x y) :: k) E H :=
 fun a w hs=>wp_seq (h a w hs)
theorem Tp {id : Nat} {c : Code} (h : Tr P R cx n (.code c :: .blk id :: k) E H) : Tr P R cx n (.code (.block id c) :: k) E H :=
 fun a w hs=>wp_block (h a w hs)
theorem cF {id:Nat} (h:Tr P R cx n k E H):Tr P R cx n (.blk id :: k) E H:=fun a w hs=>h a w hs
theorem a03 (h:Tr P R cx n k E H):Tr P R cx n (.code .skip :: k) E H:=fun a w hs=>wp_skip (h a w hs)
def Ay (id : Nat) : List It → Option (List It)
 | []=>none
 | .blk i :: k=>cond (Nat.beq i id) (some k) (Ay id k)
 | _ :: k=>Ay id k
theorem sU {id : Nat} {a : Act} {w : World} : ∀ (k k' : List It), Ay id k = some k' → den P R k' .normal a w → den P R k (.exit id) a w
 | [],_,h,_=>by cases h
 | .code c :: k,k',h,hd=>sU k k' h hd
 | .lp J :: k,k',h,hd=>sU k k' h hd
 | .blk i :: k, k', h, hd => by
  simp only [den,Exit.inBlock]
  by_cases e:i = id
  ·subst e; simp only [Ay, Nat.beq_eq_true_eq, Nat.beq_refl, cond_true, Option.some.injEq] at h
   subst h; simpa using hd
  ·have : Nat.beq i id = false := Oh e
   simp only [Ay,this,cond_false] at h
   rw [if_neg (fun x=>e x.symm)]
   exact sU k k' h hd
theorem sV {a : Act} {w : World} (h : R .ret a w) : ∀ k : List It, den P R k .ret a w
 | []=>h
 | .code _ :: k=>sV h k
 | .lp _ :: k=>sV h k
 | .blk _ :: k=>sV h k
theorem a00 {id : Nat} {k' : List It} (hk : Ay id k = some k') (h : Tr P R cx n k' E H) : Tr P R cx n (.code (.exit id) :: k) E H :=
 fun a w hs=>wp_exit (sU k k' hk (h a w hs))
theorem T_ret (h:∀ a w,St cx n E H a w → R .ret a w):Tr P R cx n (.code .ret :: k) E H:=fun a w hs=>wp_ret (sV (h a w hs) k)
theorem a1l (h:∀ a w,St cx n E H a w → R .normal a w):Tr P R cx n [] E H:=fun a w hs=>h a w hs
theorem T_region {id : Nat} {l : List Oper} (h : Rg P R cx n l.toArray l k E H) : Tr P R cx n (.code (.region id l.toArray false) :: k) E H :=
 fun a w hs=>wp_region_lit (h a w hs)
theorem a1i {ops:Array Oper} (h:Tr P R cx n k E H):Rg P R cx n ops [] k E H:=fun a w hs=>h a w hs
theorem Iz {E' : cB} (hs : Sub E E') (h : Tr P R cx n k E' H) : Tr P R cx n k E H :=
 fun a w ⟨V,hi,hl⟩=>h a w ⟨V,hi,hl.sub hs⟩
def aA (E:cB) (x:Operand) (T:Ty):Prop:=∀ n V a,dA n E V a → T.p (a.eval x) V
theorem aA.t {t : Nat} {T : Ty} (h : fH E t = some T) : aA E (.tmp t) T := fun n V a hs => by
 obtain ⟨v,h1,h2⟩:=hs.2.2 t T h
 have:a.eval (.tmp t) = v:=by simp [Act.eval,h1]
 rw [this]; exact h2
theorem aA.imp {x:Operand} {T U:Ty} (h:aA E x T) (i:∀ v V,T.p v V → U.p v V):aA E x U:=fun n V a hs=>i _ _ (h n V a hs)
def Yp (p:Prop) (T:Ty):Ty:=⟨fun v V=>p → T.p v V,fun h k x=>T.mono (h x) k⟩
theorem aA.w {t:Nat} {p:Prop} {T:Ty} (h:fH E t = some (Yp p T)) (hp:p):aA E (.tmp t) T:=fun n V a hs=>(aA.t h) n V a hs hp
def Is (v:Value):Ty:=⟨fun x _=>x = v,fun h _=>h⟩
abbrev aF (k:IntKind) (n:Int):Ty:=Is (.int k n)
abbrev aD (b:Bool):Ty:=Is (.bool b)
def mA:Ty:=⟨fun _ _=>True,fun h _=>h⟩
theorem aA.c {v:Value}:aA E (.const v) (Is v):=fun _ _ _ _=>rfl
theorem aA.f {f:FuncId}:aA E (.func f) (Is (.func (.func f) #[] #[])):=fun _ _ _ _=>rfl
theorem aA.any {x:Operand}:aA E x mA:=fun _ _ _ _=>trivial
theorem Gi {c : Operand} {x y : Code} {b : Bool} (hc : aA E c (aD b)) (ht : b = true → Tr P R cx n (.code x :: k) E H)
  (hf:b = false → Tr P R cx n (.code y :: k) E H):Tr P R cx n (.code (.cond c x y) :: k) E H:=fun a w hs=>by
 obtain ⟨V,hi,hl⟩:=hs
 have e:a.eval c = .bool b:=hc n V a hl
 exact wp_cond_split e (fun h=>ht h a w ⟨V,hi,hl⟩) (fun h=>hf h a w ⟨V,hi,hl⟩)
theorem iS {c : Operand} {x y : Code} {b : Bool} (hc : aA E c (aD b)) (hb : b = true) (ht : Tr P R cx n (.code x :: k) E H) : Tr P R cx n (.code (.cond c x y) :: k) E H :=
 Gi hc (fun _=>ht) (fun h=>by rw [hb] at h; cases h)
theorem cL {c : Operand} {x y : Code} {b : Bool} (hc : aA E c (aD b)) (hb : b = false) (hf : Tr P R cx n (.code y :: k) E H) : Tr P R cx n (.code (.cond c x y) :: k) E H :=
 Gi hc (fun h=>by rw [hb] at h; cases h) (fun _=>hf)
def eS (H H':Hp):Prop:=H.length = H'.length ∧ ∀ (i:Nat) (A:SA),H'[i]? = some A → ∃ B:SA,H[i]? = some B ∧ ∀ S m V,B.h S m V → A.h S m V
theorem eS.refl (H:Hp):eS H H:=⟨rfl,fun _ A h=>⟨A,h,fun _ _ _ x=>x⟩⟩
theorem eS.nil:eS [] []:=eS.refl _
theorem eS.cons {A B : SA} {H H' : Hp} (h : ∀ S m V, B.h S m V → A.h S m V) (k : eS H H') : eS (B :: H) (A :: H') :=
 ⟨by simp [k.1], fun i X hX => by
  cases i with
  | zero=>simp at hX; subst hX; exact ⟨B,rfl,h⟩
  | succ i=>simpa using k.2 i X (by simpa using hX)⟩
theorem eS.same {A:SA} {H H':Hp} (k:eS H H'):eS (A :: H) (A :: H'):=eS.cons (fun _ _ _ x=>x) k
theorem HH.sub {base:Nat} {w:World} {V:aO} {H H':Hp} (h:HH base w V H) (k:eS H H'):HH base w V H':=by
 obtain ⟨F,h1,h2⟩:=h
 refine ⟨F,fun i A hA=>?_,fun i j b hi hj=>h2 i j b (k.1 ▸ hi) (k.1 ▸ hj)⟩
 obtain ⟨B,hB,hh⟩:=k.2 i A hA
 exact ⟨hh _ _ _ (h1 i B hB).1,(h1 i B hB).2⟩
theorem fN.sub {V:aO} {H H':Hp} {w:World} (h:fN cx V H w) (k:eS H H'):fN cx V H' w:=⟨h.on,h.le,h.new,h.bel,h.hp.sub k⟩
theorem Oa {H' : Hp} (hs : eS H H') (h : Tr P R cx n k E H') : Tr P R cx n k E H :=
 fun a w ⟨V,hi,hl⟩=>h a w ⟨V,hi.sub hs,hl⟩
def LpJ (cx : Cx) (n : Nat) {σ : Type} (I : σ → Prop) (μ : σ → Nat) (Es : σ → cB) (Hs : σ → Hp) (s : σ) : Act → World → Prop :=
 fun a w=>∃ s',I s' ∧ μ s' < μ s ∧ St cx n (Es s') (Hs s') a w
theorem eL {c : Code} {σ : Type} (I : σ → Prop) (μ : σ → Nat) (Es : σ → cB) (Hs : σ → Hp) (s₀ : σ) (h₀ : I s₀) (hE : Sub E (Es s₀)) (hH : eS H (Hs s₀))
  (h:∀ s,I s → Tr P R cx n (.code c :: .lp (LpJ cx n I μ Es Hs s) :: k) (Es s) (Hs s)):Tr P R cx n (.code (.loop c) :: k) E H:=by
 intro a w ⟨V,hi,hl⟩
 intro b kk cs
 have key : ∀ m s, μ s = m → I s → ∀ a w, St cx n (Es s) (Hs s) a w →
   ∃ e a' w',den P R k e a' w' ∧ Arrives P (lone (b.at a (.code c :: .inLoop c :: kk)) cs w) b kk cs e a' w':=by
  intro m
  induction m using Nat.strongRecOn with
  | _ m ih =>
   intro s hm hI a w hs
   obtain ⟨e,a₁,w₁,hq,harr⟩:=h s hI a w hs b (.inLoop c :: kk) cs
   cases e with
   | normal =>
    obtain ⟨s',hI',hlt,hs'⟩:=hq
    obtain ⟨e₂,a₂,w₂,hq₂,harr₂⟩:=ih (μ s') (hm ▸ hlt) s' rfl hI' a₁ w₁ hs'
    exact ⟨e₂,a₂,w₂,hq₂,.of_steps (Steps.trans harr (.one step_inLoop)) harr₂⟩
   | exit id=>exact ⟨_,a₁,w₁,hq,.pass (x:=.inLoop c) rfl (fun _ _=>.inl (by simp)) harr⟩
   | goto l=>exact ⟨_,a₁,w₁,hq,.pass (x:=.inLoop c) rfl (fun _ _=>.inl (by simp)) harr⟩
   | ret=>exact ⟨_,a₁,w₁,hq,.pass (x:=.inLoop c) rfl (fun _ _=>.inl (by simp)) harr⟩
   | panic ch=>exact ⟨_,a₁,w₁,hq,.pass (x:=.inLoop c) rfl (fun _ _=>.inl (by simp)) harr⟩
   | outgrown=>exact ⟨_,a₁,w₁,hq,.pass (x:=.inLoop c) rfl (fun _ _=>.inl (by simp)) harr⟩
 obtain ⟨e,a',w',hq,harr⟩:=key _ s₀ rfl h₀ a w ⟨V,hi.sub hH,hl.sub hE⟩
 exact ⟨e,a',w',hq,.of_steps (.one step_loop) harr⟩
end
end
section
open Go Go.RowKit
def aM (P : Program) (n : Nat) (E : cB) (H : Hp) (o : Oper) (T : Ty) : Prop :=
 ∀ (cx : Cx) (X : Hp) (a : Act) (w : World) (V : aO), fN cx V (H ++ X) w → dA n E V a → ∀ (K : Act → World → Prop) (Q : eA),
  (∀ v w' V',fN cx V' (H ++ X) w' → kC V V' → T.p v V' → K (a.put o.dst v) w') → o.wp P a w K Q
def gH (P : Program) (n : Nat) (ops : Array Oper) (E : cB) (H : Hp) (o : Oper) (T : Ty) : Prop :=
 ∀ (cx : Cx) (X : Hp) (a : Act) (w : World) (V : aO), fN cx V (H ++ X) w → dA n E V a → ∀ (K : Act → World → Prop) (Q : eA),
  (∀ v w' V', fN cx V' (H ++ X) w' → kC V V' → T.p v V' → K (a.put o.dst v) w') →
   if Region.wanted o (yielded ops a.tmps) then o.wp P a w K Q else K (a.put o.dst undef) w
section
variable {P:Program} {R:eA} {cx:Cx} {n:Nat} {k:List It} {E:cB} {H:Hp} {ops:Array Oper} {o:Oper} {rest:List Oper}
theorem qL {T : Ty} (hg : o.guard = none) (h : aM P n E H o T) : gH P n ops E H o T := fun cx X a w V hi hs K Q hK => by
 have:Region.wanted o (yielded ops a.tmps) = true:=by simp [Region.wanted,hg]
 rw [if_pos this]
 exact h cx X a w V hi hs K Q hK
theorem Zy {T : Ty} {j : Nat} {want : Bool} {tb : Nat} {b : Bool} (hg : o.guard = some (j, want)) (hj : (ops[j]?).bind (·.dst) = some tb) (hb : aA E (.tmp tb) (aD b))
  (h:b = want → aM P n E H o T):gH P n ops E H o (Yp (b = want) T):=fun cx X a w V hi hs K Q hK=>by
 have e:a.eval (.tmp tb) = .bool b:=hb n V a hs
 have hy : yielded ops a.tmps j = some b := by
  simp only [yielded,hj,Option.bind_some]
  simp only [Act.eval] at e
  have : a.tmps[tb]? = some (.bool b) := by
   cases h1:a.tmps[tb]? with
   | none=>simp [h1,undef] at e
   | some v=>simp [h1] at e; rw [e]
  rw [this]
 by_cases hw:b = want
 ·rw [if_pos (by simp [Region.wanted, hg, hy, hw])]
  exact h hw cx X a w V hi hs K Q (fun v w' V' h1 h2 h3=>hK v w' V' h1 h2 (fun _=>h3))
 ·rw [if_neg (by simp [Region.wanted, hg, hy, hw])]
  exact hK _ _ V hi (kC.refl V) (fun x=>absurd x hw)
theorem Nw {T:Ty} {d:Nat} (hd:o.dst = some d) (hn:Nat.blt d n = true) (hs:gH P n ops E H o T) (h:Rg P R cx n ops rest k ((d,T) :: E) H):Rg P R cx n ops (o :: rest) k E H:=by
 intro a w ⟨V,hi,hl⟩
 unfold wpList
 have hx := hs cx [] a w V (by simpa using hi) hl (wpList P ops (den P R k) rest) (den P R k) (fun v w' V' hi' hle hv => by
  rw [hd]
  exact h _ _ ⟨V',by simpa using hi',(hl.mono hle).put (Nat.le_of_ble_eq_true hn) hv⟩)
 split
 ·rename_i hw; rw [if_pos hw] at hx; exact .inl hx
 ·rename_i hw; rw [if_neg hw] at hx; exact hx
theorem aB {T : Ty} {d : Nat} (hg : o.guard = none) (hd : o.dst = some d) (hn : Nat.blt d n = true) (hs : aM P n E H o T) (h : Rg P R cx n ops rest k ((d, T) :: E) H) : Rg P R cx n ops (o :: rest) k E H :=
 Nw hd hn (qL hg hs) h
theorem dF {T : Ty} (h : ∀ (a : Act) (V : aO) (w : World), dA n E V a → ∃ v, (execOp a.eval o).run P w = .ok (.value v) w ∧ T.p v V) : aM P n E H o T :=
 fun _ _ a w V hi hs K Q hK => by
  obtain ⟨v,h1,h2⟩:=h a V w hs
  simp only [Oper.wp,h1,Oper.upon_value]
  exact hK v w V hi (kC.refl V) h2
theorem aM.imp {T U : Ty} (h : aM P n E H o T) (i : ∀ v V, T.p v V → U.p v V) : aM P n E H o U :=
 fun cx X a w V hi hs K Q hK=>h cx X a w V hi hs K Q (fun v w' V' h1 h2 h3=>hK v w' V' h1 h2 (i _ _ h3))
section
variable {d:Option Tmp} {t:TypeId} {pos:String} {af:Array Edge} {g:Option (Nat × Bool)}
theorem Km {x : Operand} {T : Ty} (hx : aA E x T) : aM P n E H ⟨d, .move x, t, pos, af, g⟩ T :=
 dF fun a V w hs=>⟨a.eval x,by simp [execOp,pure,Sem.run],hx n V a hs⟩
theorem Aw {x : Operand} {T : Ty} (hx : aA E x T) : aM P n E H ⟨d, .assign x, t, pos, af, g⟩ T :=
 dF fun a V w hs=>⟨a.eval x,by simp [execOp,pure,Sem.run],hx n V a hs⟩
def fD : List Ty → List Value → aO → Prop
 | [],[],_=>True
 | T :: Ts,v :: vs,V=>T.p v V ∧ fD Ts vs V
 | _,_,_=>False
theorem fD.mono {V V' : aO} (k : kC V V') : ∀ {Ts : List Ty} {vs : List Value}, fD Ts vs V → fD Ts vs V'
 | [],[],_=>trivial
 | _ :: _,_ :: _,h=>⟨Ty.mono _ h.1 k,h.2.mono k⟩
 | [],_ :: _,h=>h.elim
 | _ :: _,[],h=>h.elim
theorem fD.get {V : aO} : ∀ {Ts : List Ty} {vs : List Value}, fD Ts vs V → ∀ {i : Nat} {T : Ty}, Ts[i]? = some T → ∃ v, vs[i]? = some v ∧ T.p v V
 | [],_,_,i,T,hT=>by simp at hT
 | _ :: _,[],h,_,_,_=>h.elim
 | T :: Ts,v :: vs,h,0,_,hT=>by simp at hT; subst hT; exact ⟨v,rfl,h.1⟩
 | T :: Ts,v :: vs,h,i + 1,U,hT=>by simpa using h.2.get (i:=i) (by simpa using hT)
theorem fD.length {V : aO} : ∀ {Ts : List Ty} {vs : List Value}, fD Ts vs V → vs.length = Ts.length
 | [],[],_=>rfl
 | _ :: _,_ :: _,h=>by simp [h.2.length]
 | [],_ :: _,h=>h.elim
 | _ :: _,[],h=>h.elim
def fB (Ts:List Ty):Ty where
 p v V:=∃ vs:List Value,v = .tuple vs.toArray ∧ fD Ts vs V
 mono h k:=by obtain ⟨vs,h1,h2⟩:=h; exact ⟨vs,h1,h2.mono k⟩
def jA : Value → Prop
 | .agg _ | .tuple _=>False
 | _=>True
theorem jA.cells {v:Value} (h:jA v):v.cells = #[v]:=by cases v <;> first | rfl | exact h.elim
structure eE (Ts:List Ty) (vs:List Value) (V:aO):Prop where
 all:fD Ts vs V
 pl:∀ v,v ∈ vs → jA v
theorem eE.mono {V V':aO} {Ts:List Ty} {vs:List Value} (h:eE Ts vs V) (k:kC V V'):eE Ts vs V':=⟨h.all.mono k,h.pl⟩
def dL (Ts:List Ty):Ty where
 p v V:=∃ vs:List Value,v = .agg vs.toArray ∧ eE Ts vs V
 mono h k:=by obtain ⟨vs,h1,h2⟩:=h; exact ⟨vs,h1,h2.mono k⟩
theorem Hx {x : Operand} {i : Nat} {Ts : List Ty} {T : Ty} (hx : aA E x (fB Ts)) (hi : Ts[i]? = some T) : aM P n E H ⟨d, .extract x i, t, pos, af, g⟩ T :=
 dF fun a V w hs => by
  obtain ⟨vs,h1,h2⟩:=hx n V a hs
  obtain ⟨v,h3,h4⟩:=h2.get hi
  exact ⟨v,by simp [execOp,h1,Instr.extract,h3,bind,Sem.bind,pure,Sem.run],h4⟩
theorem Kn {c x y : Operand} {b : Bool} {T : Ty} (hc : aA E c (aD b)) (hx : b = true → aA E x T) (hy : b = false → aA E y T) : aM P n E H ⟨d, .pick c x y, t, pos, af, g⟩ T :=
 dF fun a V w hs => by
  have e:a.eval c = .bool b:=hc n V a hs
  cases b with
  | true=>exact ⟨a.eval x,by simp [execOp,e,asBool,bind,Sem.bind,pure,Sem.run],hx rfl n V a hs⟩
  | false=>exact ⟨a.eval y,by simp [execOp,e,asBool,bind,Sem.bind,pure,Sem.run],hy rfl n V a hs⟩
theorem gA {c x : Operand} {b e : Bool} (hc : aA E c (aD b)) (hx : b = true → aA E x (aD e)) : aM P n E H ⟨d, .pick c x (.const (.bool false)), t, pos, af, g⟩ (aD (b && e)) :=
 Kn hc (fun h=>by subst h; simpa using hx rfl) (fun h=>by subst h; exact aA.c)
theorem iF {c x : Operand} {b e : Bool} (hc : aA E c (aD b)) (hx : b = false → aA E x (aD e)) : aM P n E H ⟨d, .pick c (.const (.bool true)) x, t, pos, af, g⟩ (aD (b || e)) :=
 Kn hc (fun h=>by subst h; exact aA.c) (fun h=>by subst h; simpa using hx rfl)
section
variable {x y:Operand} {tx ty:TypeId} {kd kd':IntKind} {m m' r:Int}
theorem Cw {op : BinOp} {v vx vy : Value} (hx : aA E x (Is vx)) (hy : aA E y (Is vy))
  (h:∀ w,(do eqGuard op tx x y vx vy; binOp op tx vx vy).run P w = .ok v w):aM P n E H ⟨d,.binOp op tx x y ty,t,pos,af,g⟩ (Is v) :=
 dF fun a V w hs => by
  have ex:a.eval x = vx:=hx n V a hs
  have ey:a.eval y = vy:=hy n V a hs
  refine ⟨v,?_,rfl⟩
  have h1:=h w
  simp only [execOp,ex,ey]
  rw [Sem.run_bind,h1]
  simp [Result.andThen]
theorem jT {op : BinOp} {v : Value} (hx : aA E x (aF kd m)) (hy : aA E y (aF kd' m'))
  (h:∀ w,(do eqGuard op tx x y (.int kd m) (.int kd' m'); binOp op tx (.int kd m) (.int kd' m')).run P w = .ok v w):aM P n E H ⟨d,.binOp op tx x y ty,t,pos,af,g⟩ (Is v):=Cw hx hy h
theorem Hu (hx : aA E x (aF kd m)) (hy : aA E y (aF kd m')) (hr : kd.wrap (m + m') = r) : aM P n E H ⟨d, .binOp .add tx x y ty, t, pos, af, g⟩ (aF kd r) :=
 jT hx hy fun w=>by subst hr; simp [go_sem]
theorem jU (hx : aA E x (aF kd m)) (hy : aA E y (aF kd m')) (hr : kd.wrap (m - m') = r) : aM P n E H ⟨d, .binOp .sub tx x y ty, t, pos, af, g⟩ (aF kd r) :=
 jT hx hy fun w=>by subst hr; simp [go_sem]
theorem a0J (hx : aA E x (aF kd m)) (hy : aA E y (aF kd m')) (hr : kd.wrap (m * m') = r) : aM P n E H ⟨d, .binOp .mul tx x y ty, t, pos, af, g⟩ (aF kd r) :=
 jT hx hy fun w=>by subst hr; simp [go_sem]
theorem a0L (hx : aA E x (aF kd m)) (hy : aA E y (aF kd m')) (h0 : m' ≠ 0) (hr : kd.wrap (m.tdiv m') = r) : aM P n E H ⟨d, .binOp .quo tx x y ty, t, pos, af, g⟩ (aF kd r) :=
 jT hx hy fun w=>by subst hr; simp [go_sem,binOp,Op.intDiv,h0]
theorem a0M (hx : aA E x (aF kd m)) (hy : aA E y (aF kd m')) (h0 : m' ≠ 0) (hr : m.tmod m' = r) : aM P n E H ⟨d, .binOp .rem tx x y ty, t, pos, af, g⟩ (aF kd r) :=
 jT hx hy fun w=>by subst hr; simp [go_sem,binOp,Op.intDiv,h0]
theorem sA (hx : aA E x (aF kd m)) (hy : aA E y (aF kd m')) : aM P n E H ⟨d, .binOp .lss tx x y ty, t, pos, af, g⟩ (aD (decide (m < m'))) :=
 jT hx hy fun w=>by simp [go_sem]
theorem Rm (hx : aA E x (aF kd m)) (hy : aA E y (aF kd m')) : aM P n E H ⟨d, .binOp .leq tx x y ty, t, pos, af, g⟩ (aD (decide (m ≤ m'))) :=
 jT hx hy fun w=>by simp [go_sem]
theorem yG (hx : aA E x (aF kd m)) (hy : aA E y (aF kd m')) : aM P n E H ⟨d, .binOp .gtr tx x y ty, t, pos, af, g⟩ (aD (decide (m' < m))) :=
 jT hx hy fun w=>by simp [go_sem]
theorem nF (hx : aA E x (aF kd m)) (hy : aA E y (aF kd m')) : aM P n E H ⟨d, .binOp .geq tx x y ty, t, pos, af, g⟩ (aD (decide (m' ≤ m))) :=
 jT hx hy fun w=>by simp [go_sem]
theorem Kc (a b:Int):(a == b) = decide (a = b):=by
 by_cases h:a = b
 ·simp [h]
 ·simp [h]
theorem kQ (hx : aA E x (aF kd m)) (hy : aA E y (aF kd m')) : aM P n E H ⟨d, .binOp .eql tx x y ty, t, pos, af, g⟩ (aD (decide (m = m'))) :=
 jT hx hy fun w=>by simp [go_sem,binOp,Op.intCmp,eqGuard,Kc]
theorem fL (hx : aA E x (aF kd m)) (hy : aA E y (aF kd m')) : aM P n E H ⟨d, .binOp .neq tx x y ty, t, pos, af, g⟩ (aD (!decide (m = m'))) :=
 jT hx hy fun w=>by simp [go_sem,binOp,Op.intCmp,eqGuard,bne,Kc]
theorem a0N (hx : aA E x (aF kd m)) (hy : aA E y (aF kd' m')) (h0 : 0 ≤ m') (hr : kd.wrap (m * 2 ^ (min m'.toNat kd.bits)) = r) : aM P n E H ⟨d, .binOp .shl tx x y ty, t, pos, af, g⟩ (aF kd r) :=
 jT hx hy fun w=>by subst hr; simp [go_sem,binOp,Op.shift,show ¬ m' < 0 by omega]
theorem a0O (hx : aA E x (aF kd m)) (hy : aA E y (aF kd' m')) (h0 : 0 ≤ m') (hr : m.fdiv (2 ^ (min m'.toNat kd.bits)) = r) : aM P n E H ⟨d, .binOp .shr tx x y ty, t, pos, af, g⟩ (aF kd r) :=
 jT hx hy fun w=>by subst hr; simp [go_sem,binOp,Op.shift,show ¬ m' < 0 by omega]
theorem a0G (hx : aA E x (aF kd m)) (hy : aA E y (aF kd m')) (hr : kd.wrap (BitVec.ofInt kd.bits m ||| BitVec.ofInt kd.bits m').toNat = r) : aM P n E H ⟨d, .binOp .or tx x y ty, t, pos, af, g⟩ (aF kd r) :=
 jT hx hy fun w=>by subst hr; simp [eqGuard,binOp,Op.intBits,pure,Sem.run,bind,Sem.bind]
theorem Ww (hx : aA E x (aF kd m)) (hy : aA E y (aF kd m')) (hr : kd.wrap (BitVec.ofInt kd.bits m &&& BitVec.ofInt kd.bits m').toNat = r) : aM P n E H ⟨d, .binOp .and tx x y ty, t, pos, af, g⟩ (aF kd r) :=
 jT hx hy fun w=>by subst hr; simp [eqGuard,binOp,Op.intBits,pure,Sem.run,bind,Sem.bind]
theorem Wy (hx : aA E x (aF kd m)) (hy : aA E y (aF kd m')) (hr : kd.wrap (BitVec.ofInt kd.bits m ^^^ BitVec.ofInt kd.bits m').toNat = r) : aM P n E H ⟨d, .binOp .xor tx x y ty, t, pos, af, g⟩ (aF kd r) :=
 jT hx hy fun w=>by subst hr; simp [eqGuard,binOp,Op.intBits,pure,Sem.run,bind,Sem.bind]
theorem dE {b : Bool} (hx : aA E x (aD b)) : aM P n E H ⟨d, .unOp .not tx x, t, pos, af, g⟩ (aD (!b)) :=
 dF fun a V w hs => by
  have ex:a.eval x = .bool b:=hx n V a hs
  exact ⟨.bool (!b),by simp [execOp,ex,Op.unary,bind,Sem.bind,pure,Sem.run],rfl⟩
theorem a0K (hx : aA E x (aF kd m)) (hr : kd.wrap (-m) = r) : aM P n E H ⟨d, .unOp .neg tx x, t, pos, af, g⟩ (aF kd r) :=
 dF fun a V w hs => by
  have ex:a.eval x = .int kd m:=hx n V a hs
  exact ⟨.int kd r,by subst hr; simp [execOp,ex,Op.unary,Op.intArith,bind,Sem.bind,pure,Sem.run],rfl⟩
theorem uT (dd:Nat) (b c:Bool) (hU:∀ w,(underlying tx).run P w = .ok .bool w) (w:World):(Op.equalIn (dd + 1) tx (.bool b) (.bool c)).run P w = .ok (b == c) w:=by
 simp [Op.equalIn,Sem.run_bind,hU,Result.andThen]
theorem qD (b c : Bool) (hU : ∀ w, (underlying tx).run P w = .ok .bool w) (w : World) : (Op.equal tx (.bool b) (.bool c)).run P w = .ok (b == c) w :=
 uT 9999 b c hU w
theorem a0C {b c : Bool} (hU : ∀ w, (underlying tx).run P w = .ok .bool w) (hx : aA E x (aD b)) (hy : aA E y (aD c)) : aM P n E H ⟨d, .binOp .eql tx x y ty, t, pos, af, g⟩ (aD (b == c)) :=
 Cw hx hy fun w => by
  have e:binOp .eql tx (.bool b) (.bool c) = (do pure (.bool (← Op.equal tx (.bool b) (.bool c)))):=rfl
  have e2:eqGuard .eql tx x y (.bool b) (.bool c) = pure ():=rfl
  rw [e,e2]
  simp [Sem.run_bind,qD b c hU,Result.andThen]
theorem a0D {b c : Bool} (hU : ∀ w, (underlying tx).run P w = .ok .bool w) (hx : aA E x (aD b)) (hy : aA E y (aD c)) : aM P n E H ⟨d, .binOp .neq tx x y ty, t, pos, af, g⟩ (aD (b != c)) :=
 Cw hx hy fun w => by
  have e:binOp .neq tx (.bool b) (.bool c) = (do pure (.bool (!(← Op.equal tx (.bool b) (.bool c))))):=rfl
  have e2:eqGuard .neq tx x y (.bool b) (.bool c) = pure ():=rfl
  rw [e,e2]
  simp [Sem.run_bind,qD b c hU,Result.andThen,bne]
theorem wK {ks kt : IntKind} (hs : ∀ w, (underlying tx).run P w = .ok (.int ks) w) (hd : ∀ w, (underlying ty).run P w = .ok (.int kt) w) (hx : aA E x (aF kd m)) (hr : kt.wrap m = r) :
  aM P n E H ⟨d,.convert tx ty x,t,pos,af,g⟩ (aF kt r) :=
 dF fun a V w hsl => by
  have ex:a.eval x = .int kd m:=hx n V a hsl
  exact ⟨.int kt r,by subst hr; simp [execOp,ex,convert,Sem.run_bind,hs,hd,Conv.intToInt],rfl⟩
end
end
end
end
section
open Go Go.RowKit
def Ds (V:aO) (b o:Nat) (x:Value):Prop:=∃ c T fr,V b = some (.cells c T fr) ∧ ∀ j v,x.cells[j]? = some v → c[o + j]? = some v
theorem Ds.mono {V V':aO} {b o:Nat} {x:Value} (h:Ds V b o x) (k:kC V V'):Ds V' b o x:=by
 obtain ⟨c,T,fr,h1,h2⟩:=h; exact ⟨c,T,fr,k _ _ h1,h2⟩
class dI (T:Ty) (s:outParam Nat) (g:outParam Bool):Prop where
 ok:∀ v V,T.p v V → v.cells.size = s ∧ (g = true → ∃ cs,v = .agg cs) ∧ (g = false → jA v)
theorem gB {T:Ty} (h:∀ v V,T.p v V → jA v):dI T 1 false:=⟨fun v V x=>by rw [(h v V x).cells]; exact ⟨rfl,by simp,fun _=>h v V x⟩⟩
instance shInt (k:IntKind) (m:Int):dI (Is (.int k m)) 1 false:=gB fun v V h=>by cases h; trivial
instance shBool (b:Bool):dI (Is (.bool b)) 1 false:=gB fun v V h=>by cases h; trivial
instance shFloat (k:FloatKind) (b:Nat):dI (Is (.float k b)) 1 false:=gB fun v V h=>by cases h; trivial
instance shComplex (k:FloatKind) (b c:Nat):dI (Is (.complex k b c)) 1 false:=gB fun v V h=>by cases h; trivial
instance shString (s:ByteArray):dI (Is (.string s)) 1 false:=gB fun v V h=>by cases h; trivial
instance shPtr (p:Option Addr):dI (Is (.pointer p)) 1 false:=gB fun v V h=>by cases h; trivial
instance shSlice (a:Option Addr) (l c:Nat):dI (Is (.slice a l c)) 1 false:=gB fun v V h=>by cases h; trivial
instance shAgg (Ts : List Ty) : dI (dL Ts) Ts.length true := ⟨fun v V h => by
 obtain ⟨vs,rfl,h2⟩:=h
 exact ⟨by simp [Value.cells,h2.all.length],fun _=>⟨_,rfl⟩,by simp⟩⟩
def kT (s:Nat) (Ts:List Ty):Ty where
 p v V:=∃ a cap,v = .slice a Ts.length cap ∧ Ts.length ≤ cap ∧ ∀ (i:Nat) (T:Ty),Ts[i]? = some T → ∃ b o x,a = some ⟨b,o,none⟩ ∧ Ds V b (o + i * s) x ∧ x.cells.size = s ∧ T.p x V
 mono h k := by
  obtain ⟨a,cap,h1,h2,h3⟩:=h
  refine ⟨a,cap,h1,h2,fun i T hT=>?_⟩
  obtain ⟨b,o,x,e1,e2,e3,e4⟩:=h3 i T hT
  exact ⟨b,o,x,e1,e2.mono k,e3,T.mono e4 k⟩
def PT (T:Ty):Ty where
 p v V:=∃ b o x,v = .pointer (some ⟨b,o,none⟩) ∧ Ds V b o x ∧ T.p x V
 mono h k := by
  obtain ⟨b,o,x,e1,e2,e3⟩:=h
  exact ⟨b,o,x,e1,e2.mono k,T.mono e3 k⟩
instance shSl (s:Nat) (Ts:List Ty):dI (kT s Ts) 1 false:=gB fun v V h=>by obtain ⟨a,cap,rfl,_⟩:=h; trivial
instance shPT (T:Ty):dI (PT T) 1 false:=gB fun v V h=>by obtain ⟨b,o,x,rfl,_⟩:=h; trivial
abbrev eH (B o:Nat):Ty:=Is (.pointer (some ⟨B,o,none⟩))
def box (B:Nat) (BT:TypeId) (Ts:List Ty):SA where
 h S m V:=S = [B] ∧ ∃ cs:List Value,m B = some (.cells cs.toArray BT (0,0)) ∧ eE Ts cs V
 loc h k := by
  obtain ⟨rfl,cs,h1,h2⟩:=h
  exact ⟨rfl,cs,by rw [k B (by simp)]; exact h1,h2⟩
 mono h k := by
  obtain ⟨h0,cs,h1,h2⟩:=h
  exact ⟨h0,cs,h1,h2.mono k⟩
theorem fD.set {V : aO} : ∀ {Ts : List Ty} {vs : List Value}, fD Ts vs V → ∀ (i : Nat) {T : Ty} {v : Value}, T.p v V → fD (Ts.set i T) (vs.set i v) V
 | [],[],_,_,_,_,_=>trivial
 | _ :: _,_ :: _,h,0,_,_,hv=>⟨hv,h.2⟩
 | _ :: _,_ :: _,h,i + 1,_,_,hv=>⟨h.1,h.2.set i hv⟩
 | [],_ :: _,h,_,_,_,_=>h.elim
 | _ :: _,[],h,_,_,_,_=>h.elim
theorem fD.drop {V : aO} : ∀ {Ts : List Ty} {vs : List Value}, fD Ts vs V → ∀ (i : Nat), fD (Ts.drop i) (vs.drop i) V
 | [],[],_,_=>by simp [fD]
 | _ :: _,_ :: _,h,0=>h
 | _ :: _,_ :: _,h,i + 1=>by simpa using h.2.drop i
 | [],_ :: _,h,_=>h.elim
 | _ :: _,[],h,_=>h.elim
theorem fD.take {V : aO} : ∀ {Ts : List Ty} {vs : List Value}, fD Ts vs V → ∀ (i : Nat), fD (Ts.take i) (vs.take i) V
 | [],[],_,_=>by simp [fD]
 | _ :: _,_ :: _,_,0=>by simp [fD]
 | _ :: _,_ :: _,h,i + 1=>by simpa [fD] using ⟨h.1,h.2.take i⟩
 | [],_ :: _,h,_=>h.elim
 | _ :: _,[],h,_=>h.elim
theorem fD.append {V : aO} : ∀ {Ts : List Ty} {vs : List Value} {Us : List Ty} {us : List Value}, fD Ts vs V → fD Us us V → fD (Ts ++ Us) (vs ++ us) V
 | [],[],_,_,_,h=>h
 | _ :: _,_ :: _,_,_,h,k=>⟨h.1,h.2.append k⟩
 | [],_ :: _,_,_,h,_=>h.elim
 | _ :: _,[],_,_,h,_=>h.elim
theorem eE.get {V:aO} {Ts:List Ty} {vs:List Value} (h:eE Ts vs V) {i:Nat} {T:Ty} (hT:Ts[i]? = some T):∃ v,vs[i]? = some v ∧ T.p v V:=h.all.get hT
theorem eE.length {V:aO} {Ts:List Ty} {vs:List Value} (h:eE Ts vs V):vs.length = Ts.length:=h.all.length
theorem eE.set {V : aO} {Ts : List Ty} {vs : List Value} (h : eE Ts vs V) (i : Nat) {T : Ty} {v : Value} (hv : T.p v V) (hp : jA v) : eE (Ts.set i T) (vs.set i v) V :=
 ⟨h.all.set i hv, fun u hu => by
  rcases List.mem_or_eq_of_mem_set hu with h1 | h1
  ·exact h.pl u h1
  ·exact h1 ▸ hp⟩
theorem eE.drop {V:aO} {Ts:List Ty} {vs:List Value} (h:eE Ts vs V) (i:Nat):eE (Ts.drop i) (vs.drop i) V:=⟨h.all.drop i,fun u hu=>h.pl u (List.mem_of_mem_drop hu)⟩
theorem eE.take {V:aO} {Ts:List Ty} {vs:List Value} (h:eE Ts vs V) (i:Nat):eE (Ts.take i) (vs.take i) V:=⟨h.all.take i,fun u hu=>h.pl u (List.mem_of_mem_take hu)⟩
theorem eE.append {V : aO} {Ts Us : List Ty} {vs us : List Value} (h : eE Ts vs V) (k : eE Us us V) : eE (Ts ++ Us) (vs ++ us) V :=
 ⟨h.all.append k.all, fun u hu => by
  rcases List.mem_append.1 hu with h1 | h1
  ·exact h.pl u h1
  ·exact k.pl u h1⟩
theorem eE.nil {V:aO}:eE [] [] V:=⟨trivial,fun _ h=>by cases h⟩
theorem eE.cons {V : aO} {T : Ty} {Ts : List Ty} {v : Value} {vs : List Value} (hv : T.p v V) (hp : jA v) (h : eE Ts vs V) : eE (T :: Ts) (v :: vs) V :=
 ⟨⟨hv, h.all⟩, fun u hu => by
  rcases List.mem_cons.1 hu with h1 | h1
  ·exact h1 ▸ hp
  ·exact h.pl u h1⟩
theorem dM {w:World} {b o:Nat} {c:Array Value} {T:TypeId} {fr:Nat × Nat} (h:w.heap[b]? = some (.cells c T fr)):w.cell? ⟨b,o,none⟩ = c[o]?:=by
 simp [World.cell?,h]
theorem fO (b o k:Nat):(⟨b,o,none⟩:Addr).add k = ⟨b,o + k,none⟩:=by
 unfold Addr.add
 by_cases h:k = 0
 ·subst h; simp
 ·simp [h]
section
variable {P:Program} {R:eA} {cx:Cx} {n:Nat} {k:List It} {E:cB} {H:Hp} {ops:Array Oper} {o:Oper} {rest:List Oper}
variable {d:Option Tmp} {t:TypeId} {pos:String} {af:Array Edge} {g:Option (Nat × Bool)}
theorem Ko {T : Ty} (h : ∀ (a : Act) (V : aO) (w : World), (∀ b ob, V b = some ob → w.heap[b]? = some ob) → dA n E V a → ∃ v, (execOp a.eval o).run P w = .ok (.value v) w ∧ T.p v V) : aM P n E H o T :=
 fun _ _ a w V hi hs K Q hK => by
  obtain ⟨v,h1,h2⟩:=h a V w hi.on hs
  simp only [Oper.wp,h1,Oper.upon_value]
  exact hK v w V hi (kC.refl V) h2
theorem eP {t : TypeId} {s : Nat} {gg : Bool} {w : World} {b o : Nat} {x : Value} (hA : ∀ w, (isAgg t).run P w = .ok gg w) (hS : ∀ w, (sizeOf t).run P w = .ok s w)
  (hx:x.cells.size = s ∧ (gg = true → ∃ cs,x = .agg cs) ∧ (gg = false → jA x)) (hc:∀ (j:Nat) v,x.cells[j]? = some v → w.cell? ⟨b,o + j,none⟩ = some v) :
  (loadVar t ⟨b,o,none⟩).run P w = .ok x w:=by
 unfold loadVar
 rw [Sem.run_bind,hA]
 simp only [Result.andThen]
 cases gg with
 | true =>
  obtain ⟨cs,rfl⟩:=hx.2.1 rfl
  simp only [if_true,Sem.run_bind,hS,Result.andThen]
  have hsz:cs.toList.length = s:=by simpa [Value.cells] using hx.1
  have:=run_loadCells_list (P:=P) w ⟨b,o,none⟩ cs.toList (fun j v hv=>by rw [fO]; exact hc j v (by simpa [Value.cells] using hv))
  rw [hsz] at this
  simp [this]
 | false =>
  have h1:=(hx.2.2 rfl).cells
  have:=hc 0 x (by rw [h1]; rfl)
  simp only [Bool.false_eq_true,if_false]
  rw [Nat.add_zero] at this
  simp [load,Sem.run,this]
theorem a1M {x : Operand} {T : Ty} {s : Nat} {gg : Bool} [hsh : dI T s gg] (hA : ∀ w, (isAgg t).run P w = .ok gg w) (hS : ∀ w, (sizeOf t).run P w = .ok s w) (hx : aA E x (PT T)) {t' : TypeId} :
  aM P n E H ⟨d,.load t x,t',pos,af,g⟩ T :=
 Ko fun a V w ho hs => by
  obtain ⟨b,o,v,e1,⟨c,BT,fr,e2,e3⟩,e4⟩:=hx n V a hs
  refine ⟨v,?_,e4⟩
  have:=eP (P:=P) (w:=w) (b:=b) (o:=o) hA hS (hsh.ok v V e4) (fun j u hu=>by rw [dM (ho _ _ e2)]; exact e3 j u hu)
  simp [execOp,e1,Instr.loadAt,Instr.sureAddr,Sem.run_bind,this,Result.andThen]
theorem a0I {x : Operand} {s : Nat} {Ts : List Ty} {r : Int} {e : TypeId} {ta : TypeId} (hU : ∀ w, (underlying ta).run P w = .ok (.slice e) w) (hx : aA E x (kT s Ts)) (hl : (Ts.length : Int) = r) :
  aM P n E H ⟨d,.call ⟨.builtin .len,#[x],#[ta]⟩,t,pos,af,g⟩ (aF .i64 r) :=
 dF fun a V w hs => by
  obtain ⟨ad,cap,e1,_⟩:=hx n V a hs
  refine ⟨.int .i64 r,?_,rfl⟩
  subst hl
  simp [execOp,resolve,e1,invoke,builtin,Builtin.len_,Sem.run_bind,hU,Result.andThen,goInt]
theorem iK {x : Operand} {ad : Option Addr} {l cap : Nat} {e : TypeId} {ta : TypeId} (hU : ∀ w, (underlying ta).run P w = .ok (.slice e) w) (hx : aA E x (Is (.slice ad l cap))) :
  aM P n E H ⟨d,.call ⟨.builtin .len,#[x],#[ta]⟩,t,pos,af,g⟩ (aF .i64 l) :=
 dF fun a V w hs => by
  have e1:a.eval x = .slice ad l cap:=hx n V a hs
  exact ⟨.int .i64 l,by simp [execOp,resolve,e1,invoke,builtin,Builtin.len_,Sem.run_bind,hU,Result.andThen,goInt],rfl⟩
theorem a0F {x i : Operand} {s q : Nat} {Ts : List Ty} {T : Ty} {kd : IntKind} {j : Int} {e : TypeId} (hU : ∀ w, (underlying t).run P w = .ok (.slice e) w) (hS : ∀ w, (sizeOf e).run P w = .ok s w)
  (hx:aA E x (kT s Ts)) (hi:aA E i (aF kd j)) (hj:j = (q:Int)) (hT:Ts[q]? = some T) {t':TypeId}:aM P n E H ⟨d,.indexAddr t x i,t',pos,af,g⟩ (PT T) :=
 dF fun a V w hs => by
  obtain ⟨ad,cap,e1,_,e3⟩:=hx n V a hs
  have ei:a.eval i = .int kd j:=hi n V a hs
  subst hj
  obtain ⟨b,o,v,rfl,e5,_,e7⟩:=e3 _ _ hT
  have hlt:q < Ts.length:=(List.getElem?_eq_some_iff.1 hT).1
  refine ⟨.pointer (some ⟨b,o + q * s,none⟩),?_,b,_,v,rfl,e5,e7⟩
  simp [execOp,e1,ei,Instr.indexAt,asIntOf,Sem.run_bind,hU,hS,Result.andThen,hlt,fO]
theorem Wx {x i : Operand} {s B o l cap r q : Nat} {kd : IntKind} {j : Int} {e : TypeId} (hU : ∀ w, (underlying t).run P w = .ok (.slice e) w) (hS : ∀ w, (sizeOf e).run P w = .ok s w)
  (hx:aA E x (Is (.slice (some ⟨B,o,none⟩) l cap))) (hi:aA E i (aF kd j)) (hj:j = (q:Int)) (h1:q < l) (hr:o + q * s = r) {t':TypeId}:aM P n E H ⟨d,.indexAddr t x i,t',pos,af,g⟩ (eH B r) :=
 dF fun a V w hs => by
  have e1:a.eval x = .slice (some ⟨B,o,none⟩) l cap:=hx n V a hs
  have ei:a.eval i = .int kd j:=hi n V a hs
  refine ⟨.pointer (some ⟨B,r,none⟩),?_,rfl⟩
  subst hr hj
  simp [execOp,e1,ei,Instr.indexAt,asIntOf,Sem.run_bind,hU,hS,Result.andThen,h1,fO]
theorem Wv {x : Operand} {B o r f off : Nat} (hF : ∀ (a : Addr) w, (Instr.fieldAt t (.pointer (some a)) f).run P w = .ok (.pointer (some (a.add off))) w) (hx : aA E x (eH B o)) (hr : o + off = r) {t' : TypeId} :
  aM P n E H ⟨d,.fieldAddr t x f,t',pos,af,g⟩ (eH B r) :=
 dF fun a V w hs => by
  have e1:a.eval x = .pointer (some ⟨B,o,none⟩):=hx n V a hs
  exact ⟨_,by simp [execOp,e1,hF,Sem.run_bind,Result.andThen,fO,hr],rfl⟩
theorem a0E {x : Operand} {f off s : Nat} {Ts Us : List Ty} (hF : ∀ (a : Addr) w, (Instr.fieldAt t (.pointer (some a)) f).run P w = .ok (.pointer (some (a.add off))) w) (hx : aA E x (PT (dL Ts)))
  (hc:(Ts.drop off).take s = Us) {t':TypeId}:aM P n E H ⟨d,.fieldAddr t x f,t',pos,af,g⟩ (PT (dL Us)) :=
 dF fun a V w hs => by
  obtain ⟨b,o,v,e1,⟨c,BT,fr,e2,e3⟩,vs,rfl,e4⟩:=hx n V a hs
  refine ⟨.pointer (some ⟨b,o + off,none⟩),by simp [execOp,e1,hF,Sem.run_bind,Result.andThen,fO],b,o + off,.agg ((vs.drop off).take s).toArray,rfl,⟨c,BT,fr,e2,fun j u hu=>?_⟩,_,rfl,?_⟩
  ·simp only [Value.cells, List.getElem?_toArray, List.getElem?_take, List.getElem?_drop] at hu
   split at hu
   ·have := e3 (off + j) u (by simpa [Value.cells] using hu)
    rw [show o + off + j = o + (off + j) by omega]; exact this
   ·cases hu
  ·subst hc; exact (e4.drop off).take s
theorem eC {x : Operand} {f off : Nat} {Ts : List Ty} {T : Ty} [hsh : dI T 1 false] (hF : ∀ (a : Addr) w, (Instr.fieldAt t (.pointer (some a)) f).run P w = .ok (.pointer (some (a.add off))) w) (hx : aA E x (PT (dL Ts)))
  (hc:Ts[off]? = some T) {t':TypeId}:aM P n E H ⟨d,.fieldAddr t x f,t',pos,af,g⟩ (PT T) :=
 dF fun a V w hs => by
  obtain ⟨b,o,v,e1,⟨c,BT,fr,e2,e3⟩,vs,rfl,e4⟩:=hx n V a hs
  obtain ⟨u,e5,e6⟩:=e4.get hc
  refine ⟨.pointer (some ⟨b,o + off,none⟩),by simp [execOp,e1,hF,Sem.run_bind,Result.andThen,fO],b,o + off,u,rfl,⟨c,BT,fr,e2,fun j y hy=>?_⟩,e6⟩
  have hu:=((hsh.ok u V e6).2.2 rfl).cells
  rw [hu] at hy
  cases j with
  | zero=>simp at hy; subst hy; exact e3 off u (by simpa [Value.cells] using e5)
  | succ j=>simp at hy
theorem HH.get {base:Nat} {w:World} {V:aO} {X:Hp} {i:Nat} {A:SA} (h:HH base w V (H ++ X)) (hA:H[i]? = some A):∃ S,A.h S (hv w) V:=by
 obtain ⟨F,h1,_⟩:=h
 have : (H ++ X)[i]? = some A := by
  have hl:=(List.getElem?_eq_some_iff.1 hA).1
  rw [List.getElem?_append_left hl]; exact hA
 exact ⟨_,(h1 i A this).1⟩
theorem a0H {x : Operand} {i B o : Nat} {BT : TypeId} {Ts : List Ty} {T : Ty} [hsh : dI T 1 false] (hA : ∀ w, (isAgg t).run P w = .ok false w) (hS : ∀ w, (sizeOf t).run P w = .ok 1 w)
  (hx:aA E x (eH B o)) (hH:H[i]? = some (box B BT Ts)) (hT:Ts[o]? = some T) {t':TypeId}:aM P n E H ⟨d,.load t x,t',pos,af,g⟩ T :=
 fun cx X a w V hi hs K Q hK => by
  have e1:a.eval x = .pointer (some ⟨B,o,none⟩):=hx n V a hs
  obtain ⟨S,_,cs,e2,e3⟩:=hi.hp.get hH
  obtain ⟨v,e4,e5⟩:=e3.get hT
  have hv1:=((hsh.ok v V e5).2.2 rfl).cells
  have := eP (P := P) (w := w) (b := B) (o := o) hA hS (hsh.ok v V e5) (fun j u hu => by
   rw [dM e2]
   rw [hv1] at hu
   cases j with
   | zero=>simp at hu; subst hu; simpa using e4
   | succ j=>simp at hu)
  have hrun : (execOp a.eval ⟨d, .load t x, t', pos, af, g⟩).run P w = .ok (.value v) w := by
   simp [execOp,e1,Instr.loadAt,Instr.sureAddr,Sem.run_bind,this,Result.andThen]
  simp only [Oper.wp,hrun,Oper.upon_value]
  exact hK v w V hi (kC.refl V) e5
theorem Wz {x : Operand} {i B o s : Nat} {BT : TypeId} {Ts Us : List Ty} (hA : ∀ w, (isAgg t).run P w = .ok true w) (hS : ∀ w, (sizeOf t).run P w = .ok s w)
  (hx:aA E x (eH B o)) (hH:H[i]? = some (box B BT Ts)) (hc:(Ts.drop o).take s = Us) (hl:Us.length = s) {t':TypeId}:aM P n E H ⟨d,.load t x,t',pos,af,g⟩ (dL Us) :=
 fun cx X a w V hi hs K Q hK => by
  have e1:a.eval x = .pointer (some ⟨B,o,none⟩):=hx n V a hs
  obtain ⟨S,_,cs,e2,e3⟩:=hi.hp.get hH
  have e4:eE Us ((cs.drop o).take s) V:=hc ▸ (e3.drop o).take s
  have e5:(dL Us).p (.agg ((cs.drop o).take s).toArray) V:=⟨_,rfl,e4⟩
  have hsz:(Value.agg ((cs.drop o).take s).toArray).cells.size = s:=by have:=e4.length.trans hl; simpa [Value.cells] using this
  have := eP (P := P) (w := w) (b := B) (o := o) hA hS (x := .agg ((cs.drop o).take s).toArray) ⟨hsz, fun _ => ⟨_, rfl⟩, by simp⟩ (fun j u hu => by
   rw [dM e2]
   simp only [Value.cells,List.getElem?_toArray,List.getElem?_take,List.getElem?_drop] at hu ⊢
   split at hu
   ·exact hu
   ·cases hu)
  have hrun : (execOp a.eval ⟨d, .load t x, t', pos, af, g⟩).run P w = .ok (.value (.agg ((cs.drop o).take s).toArray)) w := by
   simp [execOp,e1,Instr.loadAt,Instr.sureAddr,Sem.run_bind,this,Result.andThen]
  simp only [Oper.wp,hrun,Oper.upon_value]
  exact hK _ w V hi (kC.refl V) e5
theorem HH.upd {base : Nat} {w w' : World} {V : aO} {H : Hp} {i : Nat} {A A' : SA} (h : HH base w V H) (hA : H[i]? = some A) (hsz : w'.heap.size = w.heap.size)
  (hk:∀ S,A.h S (hv w) V → (∀ b,b ∉ S → w'.heap[b]? = w.heap[b]?) ∧ A'.h S (hv w') V):HH base w' V (H.set i A'):=by
 obtain ⟨F,h1,h2⟩:=h
 have hil:=(List.getElem?_eq_some_iff.1 hA).1
 refine ⟨F,fun j B hB=>?_,fun j l b hj hl=>h2 j l b (by simpa using hj) (by simpa using hl)⟩
 obtain ⟨k1,k2⟩:=hk _ (h1 i A hA).1
 by_cases e:i = j
 ·subst e
  simp [hil] at hB; subst hB
  exact ⟨k2,fun b hb=>by have:=(h1 i A hA).2 b hb; rw [hsz]; exact this⟩
 ·rw [List.getElem?_set_ne e] at hB
  have hj:=(List.getElem?_eq_some_iff.1 hB).1
  refine ⟨B.loc (h1 j B hB).1 (fun b hb=>k1 b (fun hb'=>e (h2 i j b hil hj hb' hb))),fun b hb=>by have:=(h1 j B hB).2 b hb; rw [hsz]; exact this⟩
theorem fN.upd {V : aO} {w w' : World} {i : Nat} {A A' : SA} (h : fN cx V H w) (hA : H[i]? = some A) (hsz : w'.heap.size = w.heap.size) (ho : w'.os = w.os) (ht : w'.tape = w.tape) (hout : w'.output = w.output ∧ w.drawn ≤ w'.drawn)
  (hk:∀ S,A.h S (hv w) V → (∀ b,b ∉ S → w'.heap[b]? = w.heap[b]?) ∧ A'.h S (hv w') V):fN cx V (H.set i A') w':=by
 obtain ⟨F,h1,h2⟩:=h.hp
 obtain ⟨k0,k1⟩:=h1 i A hA
 obtain ⟨k2,_⟩:=hk _ k0
 have out:∀ b o,V b = some o → b ∉ F i:=fun b o hb hf=>by have:=(k1 b hf).1; rw [hb] at this; cases this
 refine ⟨fun b o hb=>by rw [k2 b (out b o hb)]; exact h.on b o hb,h.le,h.new,h.bel.trans ⟨⟨ho,ht,hout.1,by omega,fun b hb=>k2 b (fun hf=>by have:=(k1 b hf).2.1; omega)⟩,hout.2⟩,h.hp.upd hA hsz hk⟩
theorem lN (w : World) (B o : Nat) (v : Value) (c : Array Value) (T : TypeId) (h : w.heap[B]? = some (.cells c T (0, 0))) :
  (w.setCell ⟨B,o,none⟩ v).heap[B]? = some (.cells (c.setIfInBounds o v) T (0,0)):=by
 simp only [World.setCell,Array.getElem?_modify,if_pos,h,Option.map_some]
 simp
theorem sB {w : World} {B o : Nat} {c : Array Value} {BT : TypeId} {v : Value} (h : w.heap[B]? = some (.cells c BT (0, 0))) (ho : o < c.size) (hv : jA v) :
  (store ⟨B,o,none⟩ v).run P w = .ok () (w.setCell ⟨B,o,none⟩ v):=by
 have hc:w.cell? ⟨B,o,none⟩ = some c[o]:=by rw [dM h]; simp [ho]
 have hf:w.frozen? ⟨B,o,none⟩ = false:=by simp [World.frozen?,h]
 cases v with
 | agg cs=>exact hv.elim
 | tuple vs=>exact hv.elim
 | _=>simp [store,Sem.run,hc,hf]
theorem pW {α : Type} (l : List α) (k : Nat) (hk : k < l.length) (v : α) (vs : List α) :
  (l.set k v).take (k + 1) ++ vs ++ (l.set k v).drop (k + 1 + vs.length) = l.take k ++ (v :: vs) ++ l.drop (k + (vs.length + 1)):=by
 rw [List.drop_set_of_lt (by omega),List.take_succ_eq_append_getElem (by simpa using hk)]
 simp [List.take_set_of_le (Nat.le_refl k)]
 congr 1; omega
theorem lD {B : Nat} {BT : TypeId} : ∀ (vs : List Value) (o i : Nat) (w : World) (c : Array Value), w.heap[B]? = some (.cells c BT (0, 0)) → o + i + vs.length ≤ c.size → (∀ v, v ∈ vs → jA v) →
  ∃ w', (storeCells ⟨B, o, none⟩ vs i).run P w = .ok () w' ∧ (∃ c', w'.heap[B]? = some (.cells c' BT (0, 0)) ∧ c'.toList = c.toList.take (o + i) ++ vs ++ c.toList.drop (o + i + vs.length)) ∧
   (∀ b,b ≠ B → w'.heap[b]? = w.heap[b]?) ∧ w'.heap.size = w.heap.size ∧ w'.os = w.os ∧ w'.tape = w.tape ∧ w'.output = w.output ∧ w.drawn ≤ w'.drawn
 | [],o,i,w,c,h,_,_=>⟨w,by simp [storeCells,pure,Sem.run],⟨c,h,by simp⟩,fun _ _=>rfl,rfl,rfl,rfl,rfl,Nat.le_refl _⟩
 | v :: vs, o, i, w, c, h, hs, hp => by
  have h1:=sB (P:=P) (o:=o + i) (v:=v) h (by simp at hs; omega) (hp v (by simp))
  have hb:=lN w B (o + i) v c BT h
  obtain ⟨w',e1,⟨c',e2,e2'⟩,e3,e4,e5,e6,e7⟩:=lD vs o (i + 1) (w.setCell ⟨B,o + i,none⟩ v) _ hb (by simp at hs ⊢; omega) (fun u hu=>hp u (by simp [hu]))
  refine ⟨w',?_,⟨c',e2,?_⟩,fun b hb'=>?_,by rw [e4]; simp,e5,e6,e7⟩
  ·simp only [storeCells,Sem.run_bind,fO,h1,Result.andThen,e1]
  ·rw [e2', Array.toList_setIfInBounds, show o + (i + 1) = o + i + 1 by omega]
   exact pW _ _ (by simp at hs ⊢; omega) _ _
  ·rw [e3 b hb',heap_setCell_other w _ _ _ (by simpa using hb')]
end
end
section
open Go Go.RowKit
section
variable {P:Program} {R:eA} {cx:Cx} {n:Nat} {k:List It} {E:cB} {H:Hp} {ops:Array Oper} {o:Oper} {rest:List Oper}
variable {d:Option Tmp} {t:TypeId} {pos:String} {af:Array Edge} {g:Option (Nat × Bool)}
theorem uF {op : Op} {H' : Hp} (h : ∀ (a : Act) (w : World) (V : aO), fN cx V H w → dA n E V a → ∃ w', (execOp a.eval ⟨none, op, t, pos, af, none⟩).run P w = .ok .skip w' ∧ fN cx V H' w')
  (hr:Rg P R cx n ops rest k E H'):Rg P R cx n ops (⟨none,op,t,pos,af,none⟩ :: rest) k E H:=by
 intro a w ⟨V,hi,hl⟩
 unfold wpList
 rw [if_pos (by simp [Region.wanted])]
 left
 obtain ⟨w',e1,e2⟩:=h a w V hi hl
 simp only [Oper.wp,e1,Oper.upon_skip]
 exact hr _ _ ⟨V,e2,hl⟩
theorem lX {ρ : Operand → Value} {x y : Operand} {ad : Addr} {v : Value} {w w' : World} {t' : TypeId} (ex : ρ x = .pointer (some ad)) (ey : ρ y = v) (h : (storeVar t ad v).run P w = .ok () w') :
  (execOp ρ ⟨none,.store t x y,t',pos,af,none⟩).run P w = .ok .skip w':=by
 simp only [execOp,ex,ey,Instr.storeAt,Instr.sureAddr,pure_bind,Sem.run_bind,h,Result.andThen]
 rfl
theorem Sm {x y : Operand} {i B o' : Nat} {BT : TypeId} {Ts : List Ty} {T : Ty} [hsh : dI T 1 false] (hS : ∀ w, (sizeOf t).run P w = .ok 1 w) (hx : aA E x (eH B o')) (hy : aA E y T)
  (hH:H[i]? = some (box B BT Ts)) (hlt:o' < Ts.length) {t':TypeId} {H':Hp} (hH':H.set i (box B BT (Ts.set o' T)) = H') :
  ∀ (a:Act) (w:World) (V:aO),fN cx V H w → dA n E V a → ∃ w',(execOp a.eval ⟨none,.store t x y,t',pos,af,none⟩).run P w = .ok .skip w' ∧ fN cx V H' w':=fun a w V hi hs=>by
  have ex:a.eval x = .pointer (some ⟨B,o',none⟩):=hx n V a hs
  have ey:=hy n V a hs
  generalize hve:a.eval y = v at ey
  have hv:=(hsh.ok v V ey).2.2 rfl
  obtain ⟨S,_,cs,e2,e3⟩:=(show HH cx.w0.heap.size w V (H ++ []) by simpa using hi.hp).get hH
  have e2':w.heap[B]? = some (.cells cs.toArray BT (0,0)):=e2
  have hst:=sB (P:=P) (o:=o') (v:=v) e2' (by simpa [e3.length] using hlt) hv
  refine ⟨w.setCell ⟨B,o',none⟩ v,lX ex hve ?_,?_⟩
  ·unfold storeVar
   rw [Sem.run_bind,hS]
   simp only [hv.cells,Result.andThen]
   simp [storeCells,Addr.add,Sem.run_bind,hst,Result.andThen]
  ·subst hH'
   refine hi.upd hH (by simp) rfl rfl ⟨rfl,Nat.le_refl _⟩ (fun S hS'=>?_)
   obtain ⟨rfl,cs',e4,e5⟩:=hS'
   refine ⟨fun b hb=>heap_setCell_other w _ _ _ (by simpa using hb),rfl,cs'.set o' v,?_,e5.set o' ey hv⟩
   have:=lN w B o' v cs'.toArray BT e4
   rw [List.setIfInBounds_toArray] at this
   exact this
theorem jL {x y : Operand} {i B o' : Nat} {BT : TypeId} {Ts : List Ty} {T : Ty} [hsh : dI T 1 false] (hS : ∀ w, (sizeOf t).run P w = .ok 1 w) (hx : aA E x (eH B o')) (hy : aA E y T)
  (hH:H[i]? = some (box B BT Ts)) (hlt:o' < Ts.length) {t':TypeId} {H':Hp} (hH':H.set i (box B BT (Ts.set o' T)) = H') (h:Rg P R cx n ops rest k E H') :
  Rg P R cx n ops (⟨none,.store t x y,t',pos,af,none⟩ :: rest) k E H :=
 uF (Sm hS hx hy hH hlt hH') h
theorem a1j {x y : Operand} {i B o' s : Nat} {BT : TypeId} {Ts Us Ws : List Ty} (hS : ∀ w, (sizeOf t).run P w = .ok s w) (hx : aA E x (eH B o')) (hy : aA E y (dL Us)) (hl : Us.length = s)
  (hH:H[i]? = some (box B BT Ts)) (hlt:o' + s ≤ Ts.length) (hW:Ts.take o' ++ Us ++ Ts.drop (o' + s) = Ws) {t':TypeId} {H':Hp} (hH':H.set i (box B BT Ws) = H') (h:Rg P R cx n ops rest k E H') :
  Rg P R cx n ops (⟨none,.store t x y,t',pos,af,none⟩ :: rest) k E H :=
 uF (fun a w V hi hs => by
  have ex:a.eval x = .pointer (some ⟨B,o',none⟩):=hx n V a hs
  obtain ⟨us,hve,ey⟩:=hy n V a hs
  obtain ⟨S,_,cs,e2,e3⟩:=(show HH cx.w0.heap.size w V (H ++ []) by simpa using hi.hp).get hH
  have e2':w.heap[B]? = some (.cells cs.toArray BT (0,0)):=e2
  have hlen:us.length = s:=ey.length.trans hl
  obtain ⟨w',q1,⟨c',q2,q2'⟩,q3,q4,q5,q6,q7⟩:=lD (P:=P) us o' 0 w cs.toArray e2' (by simp [e3.length,hlen]; omega) ey.pl
  refine ⟨w',lX ex hve ?_,?_⟩
  ·unfold storeVar
   rw [Sem.run_bind,hS]
   simp [Result.andThen,Value.cells,hlen,q1]
  ·subst hH'
   refine hi.upd hH q4 q5 q6 q7 (fun S hS'=>?_)
   obtain ⟨rfl,cs',e4,e5⟩:=hS'
   have hcs : cs' = cs := by
    have h1:w.heap[B]? = some (.cells cs'.toArray BT (0,0)):=e4
    rw [e2'] at h1; simpa using h1.symm
   subst hcs
   refine ⟨fun b hb=>q3 b (by simpa using hb),rfl,c'.toList,by show w'.heap[B]? = _; simpa using q2,?_⟩
   rw [q2',← hW]
   simp only [Nat.add_zero,hlen]
   exact ((e5.take o').append ey).append (e5.drop (o' + s))) h
theorem fN.alloc {V:aO} {w:World} {ob:Obj} {A:SA} (h:fN cx V H w) (hA:∀ m:aO,m w.heap.size = some ob → A.h [w.heap.size] m V):fN cx V (H ++ [A]) (w.alloc ob):=by
 have hold:∀ b,b < w.heap.size → (w.alloc ob).heap[b]? = w.heap[b]?:=fun b hb=>Below.heap_alloc w ob b hb
 have hlt : ∀ b o, V b = some o → b < w.heap.size := fun b o hb => by
  have:=h.on b o hb
  exact (Array.getElem?_eq_some_iff.1 this).1
 obtain ⟨F,h1,h2⟩:=h.hp
 have h2lt:∀ i,i < H.length → ∀ b,b ∈ F i → b < w.heap.size:=fun i hi b hb=>((h1 i H[i] (by simp [hi])).2 b hb).2.2
 refine ⟨fun b o hb=>by rw [hold b (hlt b o hb)]; exact h.on b o hb,h.le,h.new,h.bel.alloc h.bel.size _,fun i=>if i = H.length then [w.heap.size] else F i,fun i B hB=>?_,fun i j b hi hj hbi hbj=>?_⟩
 ·by_cases e : i = H.length
  ·subst e
   simp at hB; subst hB
   simp only [if_pos]
   refine ⟨hA _ (by show (w.alloc ob).heap[_]? = _; exact heap_alloc_new w ob),fun b hb=>?_⟩
   simp at hb; subst hb
   refine ⟨?_,h.bel.size,by simp⟩
   cases hv:V w.heap.size with
   | none=>rfl
   | some o=>exact absurd (hlt _ _ hv) (Nat.lt_irrefl _)
  ·have hB' : H[i]? = some B := by
    rcases Nat.lt_or_ge i H.length with hl | hl
    ·rw [List.getElem?_append_left hl] at hB; exact hB
    ·rw [List.getElem?_append_right hl] at hB
     have:i - H.length ≠ 0:=by omega
     rw [List.getElem?_singleton,if_neg this] at hB; cases hB
   simp only [if_neg e]
   refine ⟨B.loc (h1 i B hB').1 (fun b hb=>hold b ((h1 i B hB').2 b hb).2.2),fun b hb=>?_⟩
   have:=(h1 i B hB').2 b hb
   exact ⟨this.1,this.2.1,by simp; omega⟩
 ·simp at hi hj
  by_cases ei:i = H.length <;> by_cases ej:j = H.length
  ·omega
  ·simp only [if_pos ei, if_neg ej] at hbi hbj
   have:=h2lt j (by omega) b hbj
   simp at hbi; omega
  ·simp only [if_neg ei, if_pos ej] at hbi hbj
   have:=h2lt i (by omega) b hbi
   simp at hbj; omega
  ·simp only [if_neg ei, if_neg ej] at hbi hbj
   exact h2 i j b (by omega) (by omega) hbi hbj
def gY (P : Program) (n : Nat) (E : cB) (H : Hp) (o : Oper) (γ : Type) (T : γ → Ty) (A : γ → SA) : Prop :=
 ∀ (cx : Cx) (X : Hp) (a : Act) (w : World) (V : aO), fN cx V (H ++ X) w → dA n E V a → ∀ (K : Act → World → Prop) (Q : eA),
  (∀ (x:γ) v w' V',fN cx V' (H ++ X ++ [A x]) w' → kC V V' → (T x).p v V' → K (a.put o.dst v) w') → o.wp P a w K Q
def Nt (P : Program) (n : Nat) (E : cB) (H : Hp) (o : Oper) (γ : Type) (T : γ → Ty) (A : γ → SA) : Prop :=
 ∀ (cx:Cx) (X:Hp) (a:Act) (w:World) (V:aO),fN cx V (H ++ X) w → dA n E V a → ∃ (x:γ) (v:Value) (w':World),(execOp a.eval o).run P w = .ok (.value v) w' ∧ (T x).p v V ∧ fN cx V (H ++ X ++ [A x]) w'
theorem gY.of {γ : Type} {T : γ → Ty} {A : γ → SA} (h : Nt P n E H o γ T A) : gY P n E H o γ T A := fun cx X a w V hi hs K Q hK => by
 obtain ⟨x,v,w',e1,e2,e3⟩:=h cx X a w V hi hs
 simp only [Oper.wp,e1,Oper.upon_value]
 exact hK x v w' V e3 (kC.refl V) e2
theorem dH {γ : Type} {T : γ → Ty} {A : γ → SA} {dd : Nat} (hg : o.guard = none) (hd : o.dst = some dd) (hn : Nat.blt dd n = true) (hop : gY P n E H o γ T A)
  (h:∀ x,Rg P R cx n ops rest k ((dd,T x) :: E) (H ++ [A x])):Rg P R cx n ops (o :: rest) k E H:=by
 intro a w ⟨V,hi,hl⟩
 unfold wpList
 rw [if_pos (by simp [Region.wanted,hg])]
 left
 refine hop cx [] a w V (by simpa using hi) hl _ _ fun x v w' V' e3 hle e2=>?_
 rw [hd]
 exact h x _ _ ⟨V',by simpa using e3,(hl.mono hle).put (Nat.le_of_ble_eq_true hn) e2⟩
theorem Mo {z : Value} {zs : List Value} {Ts : List Ty} (hz : ∀ w, (zeroValue t).run P w = .ok z w) (hzs : z.cells = zs.toArray) (hp : ∀ V, eE Ts zs V) {t' : TypeId} :
  gY P n E H ⟨d,.alloc t,t',pos,af,g⟩ Nat (fun B=>eH B 0) (fun B=>box B t Ts):=gY.of fun cx X a w V hi hs=>by
 refine ⟨w.heap.size,.pointer (some ⟨w.heap.size,0,none⟩),w.alloc (.cells z.cells t),?_,rfl,hi.alloc (fun m hm=>⟨rfl,zs,by rw [hm,hzs],hp V⟩)⟩
 simp [execOp,Instr.alloc,Sem.run_bind,hz,Result.andThen,newVar,newRow,newObj,Sem.run]
theorem Wl {x : Operand} {Ts : List Ty} (hx : aA E x (dL Ts)) {t' : TypeId} :
  gY P n E H ⟨d,.box t x,t',pos,af,g⟩ Nat (fun B=>eH B 0) (fun B=>box B t Ts):=gY.of fun cx X a w V hi hs=>by
 obtain ⟨vs,e1,e2⟩:=hx n V a hs
 refine ⟨w.heap.size,.pointer (some ⟨w.heap.size,0,none⟩),w.alloc (.cells vs.toArray t),?_,rfl,hi.alloc (fun m hm=>⟨rfl,vs,hm,e2⟩)⟩
 simp [execOp,Instr.box,e1,Value.cells,Sem.run_bind,Result.andThen,newVar,newRow,newObj,Sem.run]
theorem oF {x : Operand} {T : Ty} [hsh : dI T 1 false] (hx : aA E x T) {t' : TypeId} :
  gY P n E H ⟨d,.box t x,t',pos,af,g⟩ Nat (fun B=>eH B 0) (fun B=>box B t [T]):=gY.of fun cx X a w V hi hs=>by
 have e2:=hx n V a hs
 generalize hve:a.eval x = v at e2
 have hv:=(hsh.ok v V e2).2.2 rfl
 refine ⟨w.heap.size,.pointer (some ⟨w.heap.size,0,none⟩),w.alloc (.cells #[v] t),?_,rfl,hi.alloc (fun m hm=>⟨rfl,[v],hm,eE.nil.cons e2 hv⟩)⟩
 simp [execOp,Instr.box,hve,hv.cells,Sem.run_bind,Result.andThen,newVar,newRow,newObj,Sem.run]
theorem zU (z:Value) (m:Nat):madeCells #[z] m = (List.replicate m z).toArray:=by
 apply Array.ext'
 simp only [madeCells,Array.toList_map,Array.toList_range,List.size_toArray,List.length_cons,List.length_nil,Nat.zero_add,Nat.mod_one]
 apply List.ext_getElem
 ·simp
 ·intro q h1 h2; simp
theorem fD.replicate {V : aO} {T : Ty} {z : Value} (h : T.p z V) : ∀ m, fD (List.replicate m T) (List.replicate m z) V
 | 0=>trivial
 | m + 1=>by simp only [List.replicate_succ]; exact ⟨h,fD.replicate h m⟩
theorem gN {x : Operand} {m e : Nat} {i : TypeInfo} {z : Value} {kd : IntKind} {j : Int} {T : Ty} (ht : P.underlying t = some (.slice e)) (hi : P.info? e = some i) (hz : i.zero = some z) (hs : i.size = 1)
  (hx:aA E x (aF kd j)) (hj:j = (m:Int)) (hT:∀ V,T.p z V) (hpl:jA z) (hb:i.bytes * m ≤ 281474976710656) (hm:m ≤ 9223372036854775807) {t':TypeId} :
  gY P n E H ⟨d,.makeSlice t x x,t',pos,af,g⟩ Nat (fun B=>Is (.slice (some ⟨B,0,none⟩) m m)) (fun B=>box B e (List.replicate m T)):=gY.of fun cx X a w V hi' hsl=>by
 have ex:a.eval x = .int kd j:=hx n V a hsl
 subst hj
 have hb' : (i.bytes : Int) * (m : Int) ≤ 281474976710656 := by
  have h:((i.bytes * m:Nat):Int) ≤ 281474976710656:=by omega
  rwa [Int.natCast_mul] at h
 have hr:=run_make (P:=P) w t e i z ht hi hz kd kd m m (by omega) (Int.le_refl _) hb' (by omega)
 simp only [Int.toNat_natCast,hs,Nat.mul_one] at hr
 have hmc:madeCells z.cells m = (List.replicate m z).toArray:=by rw [hpl.cells]; exact zU z m
 refine ⟨w.heap.size,_,_,?_,rfl,hi'.alloc (ob:=.cells (madeCells z.cells m) e) (fun mm hm'=>⟨rfl,List.replicate m z,by rw [hm',hmc],?_⟩)⟩
 ·simp [execOp,ex,Sem.run_bind,hr,Result.andThen]
 ·exact ⟨fD.replicate (hT V) m,fun v hv=>by rw [(List.mem_replicate.1 hv).2]; exact hpl⟩
theorem fN.freeze {V:aO} {w:World} {i:Nat} {A:SA} (h:fN cx V H w) (hA:H[i]? = some A):∃ V' S,kC V V' ∧ fN cx V' (H.set i SA.emp) w ∧ A.h S V' V':=by
 obtain ⟨F,h1,h2⟩:=h.hp
 have hil:=(List.getElem?_eq_some_iff.1 hA).1
 obtain ⟨k1,k2⟩:=h1 i A hA
 let V':aO:=fun b=>if b ∈ F i then w.heap[b]? else V b
 have hle : kC V V' := fun b o hb => by
  have:b ∉ F i:=fun hf=>by have:=(k2 b hf).1; rw [hb] at this; cases this
  simp only [V',if_neg this]; exact hb
 refine ⟨V',F i,hle,⟨fun b o hb=>?_,h.le.trans hle,fun b o hb h0=>?_,h.bel,fun j=>if j = i then [] else F j,fun j B hB=>?_,fun j l b hj hl hbj hbl=>?_⟩,A.mono (A.loc k1 (fun b hb=>?_)) hle⟩
 ·by_cases hf : b ∈ F i
  ·simp only [V',if_pos hf] at hb; exact hb
  ·simp only [V',if_neg hf] at hb; exact h.on b o hb
 ·by_cases hf : b ∈ F i
  ·exact (k2 b hf).2.1
  ·simp only [V',if_neg hf] at hb; exact h.new b o hb h0
 ·by_cases e : j = i
  ·subst e
   simp [hil] at hB; subst hB
   simp only [if_pos]
   exact ⟨rfl,by simp⟩
  ·rw [List.getElem?_set_ne (fun x => e x.symm)] at hB
   have hj:=(List.getElem?_eq_some_iff.1 hB).1
   simp only [if_neg e]
   refine ⟨B.mono (h1 j B hB).1 hle,fun b hb=>?_⟩
   have hn:b ∉ F i:=fun hf=>e (h2 j i b hj hil hb hf)
   have:=(h1 j B hB).2 b hb
   simp only [V',if_neg hn]; exact this
 ·simp at hj hl
  by_cases ej:j = i
  ·simp [ej] at hbj
  ·by_cases el : l = i
   ·simp [el] at hbl
   ·simp only [if_neg ej,if_neg el] at hbj hbl; exact h2 j l b hj hl hbj hbl
 ·simp only [V',if_pos hb]; rfl
theorem Nz {i tt : Nat} {A : SA} {U U' : Ty} (hA : H[i]? = some A) (hl : fH E tt = some U) (hc : ∀ v S V, U.p v V → A.h S V V → U'.p v V)
  (h:Tr P R cx n k ((tt,U') :: E) (H.set i SA.emp)):Tr P R cx n k E H:=fun a w ⟨V,hi,hs⟩=>by
 obtain ⟨V',S,hle,hi',hA'⟩:=hi.freeze hA
 refine h a w ⟨V',hi',?_⟩
 have hs':=hs.mono hle
 refine ⟨hs'.1,hs'.2.1,fun t T hT=>?_⟩
 rw [cM] at hT
 by_cases e:tt = t
 ·subst e
  rw [if_pos rfl] at hT; obtain rfl:=Option.some.inj hT
  obtain ⟨v,h1,h2⟩:=hs'.2.2 _ _ hl
  exact ⟨v,h1,hc v S V' h2 hA'⟩
 ·rw [if_neg e] at hT; exact hs'.2.2 t T hT
theorem Me {B l cap : Nat} {BT : TypeId} {Ts Us : List Ty} (hsh : ∀ T, T ∈ Ts → dI T 1 false) (hl : Us = Ts.take l) (hle : l ≤ Ts.length) (hcap : l ≤ cap) :
  ∀ v S V,(Is (.slice (some ⟨B,0,none⟩) l cap)).p v V → (box B BT Ts).h S V V → (kT 1 Us).p v V:=fun v S V hv hb=>by
 obtain ⟨rfl,cs,h1,h2⟩:=hb
 have hlen:Us.length = l:=by rw [hl]; simp; omega
 refine ⟨some ⟨B,0,none⟩,cap,by rw [hlen]; exact hv,by rw [hlen]; exact hcap,fun i T hT=>?_⟩
 have hT' : Ts[i]? = some T := by
  rw [hl,List.getElem?_take] at hT
  split at hT
  ·exact hT
  ·cases hT
 obtain ⟨x,e1,e2⟩:=h2.get hT'
 have hx:=(hsh T (List.mem_of_getElem? hT')).ok x V e2
 refine ⟨B,0,x,rfl,⟨cs.toArray,BT,(0,0),h1,fun j u hu=>?_⟩,hx.1,e2⟩
 rw [(hx.2.2 rfl).cells] at hu
 cases j with
 | zero=>simp at hu; subst hu; simpa using e1
 | succ j=>simp at hu
theorem dB {B : Nat} {BT : TypeId} {Ts : List Ty} : ∀ v S V, (eH B 0).p v V → (box B BT Ts).h S V V → (PT (dL Ts)).p v V := fun v S V hv hb => by
 obtain ⟨rfl,cs,h1,h2⟩:=hb
 exact ⟨B,0,.agg cs.toArray,hv,⟨cs.toArray,BT,(0,0),h1,fun j u hu=>by simpa [Value.cells] using hu⟩,cs,rfl,h2⟩
theorem eT {B : Nat} {BT : TypeId} {T : Ty} [hsh : dI T 1 false] : ∀ v S V, (eH B 0).p v V → (box B BT [T]).h S V V → (PT T).p v V := fun v S V hv hb => by
 obtain ⟨rfl,cs,h1,h2⟩:=hb
 obtain ⟨x,e1,e2⟩:=h2.get (i:=0) rfl
 have hx:=(hsh.ok x V e2).2.2 rfl
 refine ⟨B,0,x,hv,⟨cs.toArray,BT,(0,0),h1,fun j u hu=>?_⟩,e2⟩
 rw [hx.cells] at hu
 cases j with
 | zero=>simp at hu; subst hu; simpa using e1
 | succ j=>simp at hu
end
end
section
open Go Go.RowKit
def bA (P : Program) (f : FuncId) (Ts : List Ty) (U : Ty) : Prop :=
 ∀ (vs : List Value) (V : aO) (w : World), (∀ b o, V b = some o → w.heap[b]? = some o) → fD Ts vs V → Calls P f vs.toArray w fun e w' =>
  ∃ v V',e = .returned v ∧ kC V V' ∧ (∀ b o,V' b = some o → w'.heap[b]? = some o) ∧ (∀ b o,V' b = some o → V b = none → w.heap.size ≤ b) ∧ Below w.heap.size w w' ∧ U.p v V'
theorem bA.imp {P : Program} {f : FuncId} {Ts : List Ty} {U U' : Ty} (h : bA P f Ts U) (i : ∀ v V, U.p v V → U'.p v V) : bA P f Ts U' :=
 fun vs V w h1 h2=>(h vs V w h1 h2).mono fun e w' ⟨v,V',a,b,c,d,e',f'⟩=>⟨v,V',a,b,c,d,e',i _ _ f'⟩
theorem bA.arg {P : Program} {f : FuncId} {Ts Ts' : List Ty} {U : Ty} (h : bA P f Ts U) (i : ∀ vs V, fD Ts' vs V → fD Ts vs V) : bA P f Ts' U :=
 fun vs V w h1 h2=>h vs V w h1 (i _ _ h2)
def kU (E : cB) : List Operand → List Ty → Prop
 | [],[]=>True
 | x :: xs,T :: Ts=>aA E x T ∧ kU E xs Ts
 | _,_=>False
theorem kU.all {E : cB} {n : Nat} {V : aO} {a : Act} (hs : dA n E V a) : ∀ {xs : List Operand} {Ts : List Ty}, kU E xs Ts → fD Ts (xs.map a.eval) V
 | [],[],_=>trivial
 | _ :: _,_ :: _,h=>⟨h.1 n V a hs,kU.all hs h.2⟩
 | [],_ :: _,h=>h.elim
 | _ :: _,[],h=>h.elim
def Nx (P : Program) (fn : Func) (cx : Cx) (U : Ty) : eA :=
 bodyPost P fn fun e w'=>∃ v V',e = .returned v ∧ kC cx.V0 V' ∧ (∀ b o,V' b = some o → w'.heap[b]? = some o) ∧ (∀ b o,V' b = some o → cx.V0 b = none → cx.w0.heap.size ≤ b) ∧ Below cx.w0.heap.size cx.w0 w' ∧ U.p v V'
def ent : Nat → List Ty → cB
 | _,[]=>[]
 | i,T :: Ts=>(i,T) :: ent (i + 1) Ts
theorem pX : ∀ (Ts : List Ty) (i t : Nat) (T : Ty), fH (ent i Ts) t = some T → i ≤ t ∧ Ts[t - i]? = some T
 | [],_,_,_,h=>by cases h
 | U :: Us, i, t, T, h => by
  simp only [ent] at h
  rw [cM] at h
  by_cases e:i = t
  ·subst e; rw [if_pos rfl] at h; obtain rfl:=Option.some.inj h; simp
  ·rw [if_neg e] at h
   obtain ⟨h1,h2⟩:=pX Us (i + 1) t T h
   refine ⟨by omega,?_⟩
   rw [show t - i = (t - (i + 1)) + 1 by omega]; simpa using h2
section
variable {P:Program} {R:eA} {cx:Cx} {n:Nat} {k:List It} {E:cB} {H:Hp} {ops:Array Oper} {o:Oper} {rest:List Oper}
variable {d:Option Tmp} {t:TypeId} {pos:String} {af:Array Edge} {g:Option (Nat × Bool)}
theorem bA.intro {f : FuncId} {fn : Func} {c : Code} {Ts : List Ty} {U : Ty} (hf : P.funcs[f]? = some fn) (hb : fn.body = some c) (hn : fn.ntmps = n) (hl : Nat.ble Ts.length n = true)
  (h:∀ cx,Tr P (Nx P fn cx U) cx n [.code c] (ent 0 Ts) []):bA P f Ts U:=fun vs V w ho ha=>by
 refine calls_of_wp hf hb ?_
 have hlen:vs.length = Ts.length:=ha.length
 have hle:Ts.length ≤ n:=Nat.le_of_ble_eq_true hl
 have hinv:fN ⟨w,V⟩ V [] w:=⟨ho,kC.refl V,fun b o h1 h2=>(by have h3:V b = none:=h2; rw [h1] at h3; cases h3),Below.refl _ _,⟨fun _=>[],fun i A hA=>(by simp at hA),fun i j b hi=>(by simp at hi)⟩⟩
 refine h ⟨w,V⟩ _ w ⟨V,hinv,.inl rfl,?_,fun t T hT=>?_⟩
 ·simp [hn]; omega
 ·obtain ⟨_, h2⟩ := pX Ts 0 t T hT
  obtain ⟨v,h3,h4⟩:=ha.get (i:=t) (by simpa using h2)
  have ht:t < vs.length:=(List.getElem?_eq_some_iff.1 h3).1
  exact ⟨v,by simp [Array.getElem?_append,ht] at h3 ⊢; exact h3,h4⟩
theorem fN.after {V V' : aO} {w w' : World} (hi : fN cx V H w) (hle : kC V V') (hon : ∀ b o, V' b = some o → w'.heap[b]? = some o) (hnew : ∀ b o, V' b = some o → V b = none → w.heap.size ≤ b)
  (hbel:Below w.heap.size w w'):fN cx V' H w':=by
 have hsz:=hi.bel.size
 obtain ⟨F,h1,h2⟩:=hi.hp
 refine ⟨hon,hi.le.trans hle,fun b o hb h0=>?_,hi.bel.trans (hbel.mono hsz),F,fun i A hA=>?_,h2⟩
 ·cases hv : V b with
  | none=>have:=hnew b o hb hv; omega
  | some o'=>exact hi.new b o' hv h0
 ·obtain ⟨k1, k2⟩ := h1 i A hA
  refine ⟨A.mono (A.loc k1 (fun b hb=>hbel.block b (k2 b hb).2.2)) hle,fun b hb=>?_⟩
  obtain ⟨q1,q2,q3⟩:=k2 b hb
  refine ⟨?_,q2,by have:=hbel.size; omega⟩
  cases hv:V' b with
  | none=>rfl
  | some o=>exact absurd (hnew b o hv q1) (by omega)
theorem Wu {f : FuncId} {xs : List Operand} {tys : Array TypeId} {Ts : List Ty} {U : Ty} (hc : ∀ args w, (callFunc f args).run P w = .ok (.enter f args) w) (hF : bA P f Ts U) (ha : kU E xs Ts) :
  aM P n E H ⟨d,.call ⟨.value (.func f),xs.toArray,tys⟩,t,pos,af,g⟩ U:=fun cx X a w V hi hs K Q hK=>by
 have hrun : (execOp a.eval ⟨d, .call ⟨.value (.func f), xs.toArray, tys⟩, t, pos, af, g⟩).run P w = .ok (.enter f (xs.map a.eval).toArray) w := by
  simp [execOp,resolve,Act.eval,Deferred.ofValue,invoke,hc]
 simp only [Oper.wp,hrun,Oper.upon_enter]
 refine (hF _ V w hi.on (kU.all hs ha)).mono ?_
 rintro e w' ⟨v,V',rfl,h1,h2,h3,h4,h5⟩
 exact hK v w' V' (hi.after h1 h2 h3 h4) h1 h5
def Fq (tmps : Array Value) : ResultVar → Sem Value
 | .tmp t=>pure (tmps.getD t undef)
 | .cell a t=>do loadVar t (← asAddr (tmps.getD a undef))
theorem lC (fn:Func) (tmps:Array Value):results fn tmps = (do let vs ← fn.results.mapM (Fq tmps); pure (if h:vs.size = 1 then vs[0] else .tuple vs)):=by
 unfold results
 congr 1
def RV (P : Program) (cx : Cx) (n : Nat) (E : cB) (H : Hp) (r : ResultVar) (T : Ty) : Prop :=
 ∀ (a:Act) (w:World) (V:aO),fN cx V H w → dA n E V a → ∃ v,(Fq a.tmps r).run P w = .ok v w ∧ T.p v V
theorem a0W {q : Tmp} {T : Ty} (h : fH E q = some T) : RV P cx n E H (.tmp q) T := fun a w V hi hs => by
 obtain ⟨v,h1,h2⟩:=hs.2.2 q T h
 exact ⟨v,by simp [Fq,h1],h2⟩
theorem a1T {r : ResultVar} {T U : Ty} (h : RV P cx n E H r T) (i : ∀ v V, T.p v V → U.p v V) : RV P cx n E H r U := fun a w V hi hs =>
 let ⟨v,h1,h2⟩:=h a w V hi hs; ⟨v,h1,i _ _ h2⟩
theorem Xt {q : Tmp} {i B s : Nat} {BT : TypeId} {Ts : List Ty} (hA : ∀ w, (isAgg t).run P w = .ok true w) (hS : ∀ w, (sizeOf t).run P w = .ok s w) (h : fH E q = some (eH B 0)) (hH : H[i]? = some (box B BT Ts)) (hl : Ts.length = s) :
  RV P cx n E H (.cell q t) (dL Ts):=fun a w V hi hs=>by
 obtain ⟨v,h1,h2⟩:=hs.2.2 q _ h
 obtain rfl:v = .pointer (some ⟨B,0,none⟩):=h2
 obtain ⟨S,_,cs,e2,e3⟩:=(show HH cx.w0.heap.size w V (H ++ []) by simpa using hi.hp).get hH
 have e2':w.heap[B]? = some (.cells cs.toArray BT (0,0)):=e2
 refine ⟨.agg cs.toArray,?_,cs,rfl,e3⟩
 have := eP (P := P) (w := w) (b := B) (o := 0) hA hS (x := .agg cs.toArray) ⟨by simp [Value.cells, e3.length, hl], fun _ => ⟨_, rfl⟩, by simp⟩ (fun j u hu => by
  rw [dM e2']; simpa [Value.cells] using hu)
 simp [Fq,h1,asAddr,this]
theorem tX {q : Tmp} {i B : Nat} {BT : TypeId} {T : Ty} [hsh : dI T 1 false] (hA : ∀ w, (isAgg t).run P w = .ok false w) (hS : ∀ w, (sizeOf t).run P w = .ok 1 w) (h : fH E q = some (eH B 0)) (hH : H[i]? = some (box B BT [T])) :
  RV P cx n E H (.cell q t) T:=fun a w V hi hs=>by
 obtain ⟨v,h1,h2⟩:=hs.2.2 q _ h
 obtain rfl:v = .pointer (some ⟨B,0,none⟩):=h2
 obtain ⟨S,_,cs,e2,e3⟩:=(show HH cx.w0.heap.size w V (H ++ []) by simpa using hi.hp).get hH
 have e2':w.heap[B]? = some (.cells cs.toArray BT (0,0)):=e2
 obtain ⟨x,q1,q2⟩:=e3.get (i:=0) rfl
 have hx:=hsh.ok x V q2
 refine ⟨x,?_,q2⟩
 have := eP (P := P) (w := w) (b := B) (o := 0) hA hS hx (fun j u hu => by
  rw [dM e2']
  rw [(hx.2.2 rfl).cells] at hu
  cases j with
  | zero=>simp at hu; subst hu; simpa using q1
  | succ j=>simp at hu)
 simp [Fq,h1,asAddr,this]
theorem Gj {fn : Func} {U : Ty} {v : Value → Prop} (hr : ∀ (a : Act) (w : World) (V : aO), fN cx V H w → dA n E V a → ∃ v, (results fn a.tmps).run P w = .ok v w ∧ U.p v V) (hn : Nat.beq n 206 = false := by rfl) : Tr P (Nx P fn cx U) cx n (.code .ret :: k) E H :=
 T_ret fun a w ⟨V, hi, hs⟩ => by
  obtain ⟨v,h1,h2⟩:=hr a w V hi hs
  exact ⟨hs.1.nil hn,v,h1,v,V,rfl,hi.le,hi.on,hi.new,hi.bel,h2⟩
theorem a02 {fn : Func} {U : Ty} {r : ResultVar} (hf : fn.results = #[r]) (h : RV P cx n E H r U) (hn : Nat.beq n 206 = false := by rfl) : Tr P (Nx P fn cx U) cx n (.code .ret :: k) E H :=
 Gj (v := fun _ => True) (hn := hn) fun a w V hi hs => by
  obtain ⟨v,h1,h2⟩:=h a w V hi hs
  refine ⟨v,?_,h2⟩
  rw [lC,hf]; simp [h1,Result.andThen]
theorem cT {fn : Func} {T U : Ty} {r s : ResultVar} (hf : fn.results = #[r, s]) (h : RV P cx n E H r T) (h' : RV P cx n E H s U) (hn : Nat.beq n 206 = false := by rfl) : Tr P (Nx P fn cx (fB [T, U])) cx n (.code .ret :: k) E H :=
 Gj (v := fun _ => True) (hn := hn) fun a w V hi hs => by
  obtain ⟨v,h1,h2⟩:=h a w V hi hs
  obtain ⟨u,h3,h4⟩:=h' a w V hi hs
  refine ⟨.tuple #[v,u],?_,[v,u],rfl,h2,h4,trivial⟩
  rw [lC,hf]; simp [h1,h3,Result.andThen]
theorem Oc {fn : Func} {T U W : Ty} {r s q : ResultVar} (hf : fn.results = #[r, s, q]) (h : RV P cx n E H r T) (h' : RV P cx n E H s U) (h'' : RV P cx n E H q W) (hn : Nat.beq n 206 = false := by rfl) : Tr P (Nx P fn cx (fB [T, U, W])) cx n (.code .ret :: k) E H :=
 Gj (v := fun _ => True) (hn := hn) fun a w V hi hs => by
  obtain ⟨v,h1,h2⟩:=h a w V hi hs
  obtain ⟨u,h3,h4⟩:=h' a w V hi hs
  obtain ⟨y,h5,h6⟩:=h'' a w V hi hs
  refine ⟨.tuple #[v,u,y],?_,[v,u,y],rfl,h2,h4,h6,trivial⟩
  rw [lC,hf]; simp [h1,h3,h5,Result.andThen]
theorem To {σ : Type} {I : σ → Prop} {μ : σ → Nat} {Es : σ → cB} {Hs : σ → Hp} {s : σ} (s' : σ) (hI : I s') (hμ : μ s' < μ s) (hE : Sub E (Es s')) (hH : eS H (Hs s')) :
  Tr P R cx n (.lp (LpJ cx n I μ Es Hs s) :: k) E H:=fun a w ⟨V,hi,hs⟩=>⟨s',hI,hμ,V,hi.sub hH,hs.sub hE⟩
theorem iB (cs:Array Value):(Value.agg cs).cells = cs:=rfl
theorem iY {parts : List (Nat × Operand)} {T : Ty} (h : ∀ (a : Act) (V : aO) (w : World), dA n E V a → ∃ v, (Instr.build t (parts.toArray.map fun (i, x) => (i, a.eval x))).run P w = .ok v w ∧ T.p v V) {t' : TypeId} :
  aM P n E H ⟨d,.build t parts.toArray,t',pos,af,g⟩ T :=
 dF fun a V w hs => by
  obtain ⟨v,h1,h2⟩:=h a V w hs
  exact ⟨v,by simp only [execOp,Sem.run_bind,h1,Result.andThen]; rfl,h2⟩
theorem Ax {x hiO : Operand} {s : Nat} {Ts Us : List Ty} {kd : IntKind} {j : Int} {e : TypeId} {mx : Option Operand} (hU : ∀ w, (underlying t).run P w = .ok (.slice e) w) (hS : ∀ w, (sizeOf e).run P w = .ok s w) (hx : aA E x (kT s Ts)) (hh : aA E hiO (aF kd j))
  (hm:∀ m,mx = some m → aA E m (aF kd j)) (h0:0 ≤ j) (h1:j ≤ Ts.length) (hc:Ts.take j.toNat = Us) {t':TypeId}:aM P n E H ⟨d,.slice t x none (some hiO) mx,t',pos,af,g⟩ (kT s Us) :=
 dF fun a V w hs => by
  obtain ⟨ad,cap,e1,e2,e3⟩:=hx n V a hs
  have eh:a.eval hiO = .int kd j:=hh n V a hs
  obtain ⟨m,rfl⟩:=Int.eq_ofNat_of_zero_le h0
  have hlen:Us.length = m:=by subst hc; simp; omega
  have helem : ∀ (i : Nat) (T : Ty), Us[i]? = some T → ∃ b o x, ad = some ⟨b, o, none⟩ ∧ Ds V b (o + i * s) x ∧ x.cells.size = s ∧ T.p x V := fun i T hT => by
   subst hc
   rw [List.getElem?_take] at hT
   split at hT
   ·exact e3 i T hT
   ·cases hT
  have hcap:m ≤ cap:=by omega
  have had:(ad.map fun x:Addr=>x.add 0) = ad:=by cases ad <;> simp [Addr.add]
  cases mx with
  | none =>
   refine ⟨.slice ad Us.length cap,?_,ad,cap,rfl,by omega,helem⟩
   simp [execOp,e1,eh,Instr.sliceAt,Instr.slice,Instr.sliceBounds,Instr.sliceBound,asIntOf,Sem.run_bind,hU,hS,Result.andThen,hcap,hlen,had]
  | some mo =>
   have em:a.eval mo = .int kd m:=hm mo rfl n V a hs
   refine ⟨.slice ad Us.length m,?_,ad,_,rfl,by omega,helem⟩
   simp [execOp,e1,eh,em,Instr.sliceAt,Instr.slice,Instr.sliceBounds,Instr.sliceBound,asIntOf,Sem.run_bind,hU,hS,Result.andThen,hcap,hlen,had]
end
end
section
open Go Go.RowKit
def a0w (o:Oper) (acc:List Nat):Nat:=o.after.toList.foldl (fun s e=>cond (Region.binds .any e) (s ||| (2 ^ e.on ||| acc.getD e.on 0)) s) 0
def nE : List Oper → List Nat → List Nat
 | [],acc=>acc
 | o :: r,acc=>nE r (acc ++ [a0w o acc])
def wV (L:Nat → Prop) (o:Oper):Prop:=∀ e,e ∈ o.after.toList → Region.binds .any e = true → L e.on
theorem At (L : Nat → Prop) (acc : List Nat) (hacc : ∀ k, L k → ∀ j, (acc.getD k 0).testBit j = true → L j) : ∀ (es : List Edge) (s : Nat), (∀ e, e ∈ es → Region.binds .any e = true → L e.on) → (∀ j, s.testBit j = true → L j) →
  ∀ j,(es.foldl (fun s e=>cond (Region.binds .any e) (s ||| (2 ^ e.on ||| acc.getD e.on 0)) s) s).testBit j = true → L j
 | [],s,_,hs,j,h=>hs j h
 | e :: es, s, he, hs, j, h => by
  refine At L acc hacc es _ (fun x hx=>he x (by simp [hx])) ?_ j h
  intro q hq
  dsimp only at hq
  cases hb:Region.binds .any e with
  | false=>rw [hb] at hq; exact hs q hq
  | true =>
   rw [hb] at hq
   simp only [cond_true,Nat.testBit_or,Bool.or_eq_true,Nat.testBit_two_pow,decide_eq_true_eq] at hq
   rcases hq with h1 | h1 | h1
   ·exact hs q h1
   ·exact h1 ▸ he e (by simp) hb
   ·exact hacc _ (he e (by simp) hb) q h1
theorem tE (L : Nat → Prop) (ops : List Oper) (hcl : ∀ i o, ops[i]? = some o → L i → wV L o) : ∀ (r : List Oper) (acc : List Nat), (∀ j o, r[j]? = some o → ops[acc.length + j]? = some o) →
  (∀ k o,k < acc.length → ops[k]? = some o → wV L o → ∀ j,(acc.getD k 0).testBit j = true → L j) →
  ∀ k o,k < (nE r acc).length → ops[k]? = some o → wV L o → ∀ j,((nE r acc).getD k 0).testBit j = true → L j
 | [],acc,_,h=>h
 | o :: r, acc, hr, h => by
  refine tE L ops hcl r _ (fun j o' ho'=>?_) ?_
  ·have := hr (j + 1) o' (by simpa using ho')
   simpa [Nat.add_assoc,Nat.add_comm 1 j] using this
  ·intro k o' hk ho' ha j hj
   by_cases e:k < acc.length
   ·refine h k o' e ho' ha j ?_
    simpa [List.getD,List.getElem?_append_left e] using hj
   ·have hk' : k = acc.length := by simp at hk; omega
    subst hk'
    have h0:=hr 0 o (by simp)
    simp at h0
    rw [h0] at ho'; obtain rfl:=Option.some.inj ho'
    simp only [List.getD,List.getElem?_append_right (Nat.le_refl _),Nat.sub_self,List.getElem?_cons_zero,Option.getD_some] at hj
    refine At L acc (fun q hq j hj=>?_) _ 0 (fun e he hb=>ha e he hb) (fun j hj=>by simp at hj) j hj
    by_cases hql:q < acc.length
    ·cases hoq : ops[q]? with
     | none =>
      exfalso
      have:=hr 0 o (by simp)
      simp at this
      have hlt:=(List.getElem?_eq_some_iff.1 this).1
      have:=List.getElem?_eq_none_iff.1 hoq
      omega
     | some oq=>exact h q oq hql hoq (hcl q oq hoq hq) j hj
    ·simp [List.getD,List.getElem?_eq_none (Nat.le_of_not_lt hql)] at hj
theorem mI : ∀ (r : List Oper) (acc : List Nat), (nE r acc).length = acc.length + r.length
 | [],acc=>by simp [nE]
 | o :: r,acc=>by simp [nE,mI r]; omega
def eM (ops:List Oper) (i:Nat):Option Tmp:=(ops[i]?).bind (·.dst)
def rX (ops : List Oper) (m : Nat) : Bool :=
 Nat.ble m ops.length &&
 ((List.range (ops.length - m)).all fun i=>(List.range (m + i)).all fun j=>((nE ops []).getD (m + i) 0).testBit j) &&
 ((List.range ops.length).all fun i=>((ops.getD i default).after.toList.all fun e=>!Region.binds .any e || Nat.blt e.on i)) &&
 ((List.range m).all fun i=>(List.range i).all fun j=>(eM ops i).isNone || !(eM ops i == eM ops j))
def gP : List Bool → Nat
 | []=>0
 | b :: r=>cond b 0 1 + gP r
theorem oB : ∀ (l : List Bool) (i : Nat), l[i]? = some false → gP (l.set i true) + 1 = gP l
 | [],_,h=>by simp at h
 | b :: r,0,h=>by simp at h; subst h; simp [gP]; omega
 | b :: r,i + 1,h=>by have:=oB r i (by simpa using h); simp [gP]; omega
theorem oA : ∀ (l : List Bool) (i : Nat), l[i]? = some false → 0 < gP l
 | [],_,h=>by simp at h
 | b :: r,0,h=>by simp at h; subst h; simp [gP]; omega
 | b :: r,i + 1,h=>by have:=oA r i (by simpa using h); simp [gP]; omega
theorem HH.inj {base:Nat} {w:World} {V:aO} {H H':Hp} (h:HH base w V H) (ρ:Nat → Nat) (h1:∀ (i:Nat) (A:SA),H'[i]? = some A → H[ρ i]? = some A) (h2:∀ i j,i < H'.length → j < H'.length → ρ i = ρ j → i = j):HH base w V H':=by
 obtain ⟨F,k1,k2⟩:=h
 refine ⟨fun i=>F (ρ i),fun i A hA=>k1 _ A (h1 i A hA),fun i j b hi hj hbi hbj=>h2 i j hi hj (k2 _ _ b ?_ ?_ hbi hbj)⟩
 ·exact (List.getElem?_eq_some_iff.1 (h1 i H'[i] (by simp [hi]))).1
 ·exact (List.getElem?_eq_some_iff.1 (h1 j H'[j] (by simp [hj]))).1
theorem HH.sublist {base:Nat} {w:World} {V:aO} {H H':Hp} (hs:List.Sublist H' H) (h:HH base w V H):HH base w V H':=by
 have key : ∃ ρ : Nat → Nat, (∀ (i : Nat) (A : SA), H'[i]? = some A → H[ρ i]? = some A) ∧ (∀ i j, ρ i = ρ j → i = j) := by
  clear h
  induction hs with
  | slnil=>exact ⟨id,fun _ _ h=>h,fun _ _ h=>h⟩
  | cons a _ ih =>
   obtain ⟨ρ,r1,r2⟩:=ih
   exact ⟨fun i=>ρ i + 1,fun i A hA=>by simpa using r1 i A hA,fun i j e=>r2 i j (by simpa using e)⟩
  | cons_cons a _ ih =>
   obtain ⟨ρ,r1,r2⟩:=ih
   refine ⟨fun i=>match i with | 0=>0 | i + 1=>ρ i + 1,fun i A hA=>?_,fun i j e=>?_⟩
   ·cases i with
    | zero=>simpa using hA
    | succ i=>simpa using r1 i A (by simpa using hA)
   ·cases i <;> cases j <;> simp at e ⊢
    exact r2 _ _ e
 obtain ⟨ρ,r1,r2⟩:=key
 exact h.inj ρ r1 (fun i j _ _ e=>r2 i j e)
theorem HH.move {base:Nat} {w:World} {V:aO} {Y:Hp} {A:SA} {p:Nat} (h:HH base w V (Y ++ [A])) (hp:p < Y.length):HH base w V (Y.set p A):=by
 refine h.inj (fun i=>if i = p then Y.length else i) (fun i B hB=>?_) (fun i j hi hj e=>?_)
 ·by_cases e : i = p
  ·subst e
   simp [hp] at hB; subst hB; simp
  ·rw [List.getElem?_set_ne (fun x => e x.symm)] at hB
   simp only [if_neg e]
   rw [List.getElem?_append_left (List.getElem?_eq_some_iff.1 hB).1]; exact hB
 ·simp at hi hj e
  split at e <;> split at e <;> omega
theorem fN.hp_of {cx:Cx} {V:aO} {H H':Hp} {w:World} (h:fN cx V H w) (k:HH cx.w0.heap.size w V H → HH cx.w0.heap.size w V H'):fN cx V H' w:=⟨h.on,h.le,h.new,h.bel,k h.hp⟩
theorem fN.drew {cx:Cx} {V:aO} {H:Hp} {w:World} (h:fN cx V H w):fN cx V H w.drew:=⟨h.on,h.le,h.new,h.bel.drew,h.hp⟩
inductive Ob:Type 1 where
 | val (T:Ty)
 | new (γ:Type) (T:γ → Ty) (A:γ → SA)
def Src (ops : List Oper) (m : Nat) (E0 : cB) (prev : List (Nat × Ob)) (o : Oper) (t : Nat) (T : Ty) : Prop :=
 (fH E0 t = some T ∧ ((List.range m).all fun j=>!(eM ops j == some t)) = true) ∨
 ∃ j,prev.reverse[j]? = some (t,.val T) ∧ (o.after.toList.any fun e=>Nat.beq e.on j && Region.binds .any e) = true
theorem Src.pre {ops:List Oper} {m:Nat} {E0:cB} {prev:List (Nat × Ob)} {o:Oper} {t:Nat} {T:Ty} (h:fH E0 t = some T) (h':((List.range m).all fun j=>!(eM ops j == some t)) = true):Src ops m E0 prev o t T:=.inl ⟨h,h'⟩
theorem Src.op {ops:List Oper} {m:Nat} {E0:cB} {prev:List (Nat × Ob)} {o:Oper} {t:Nat} {T:Ty} (j:Nat) (h:prev.reverse[j]? = some (t,.val T)) (h':(o.after.toList.any fun e=>Nat.beq e.on j && Region.binds .any e) = true):Src ops m E0 prev o t T:=.inr ⟨j,h,h'⟩
def Srcs (ops:List Oper) (m:Nat) (E0:cB) (prev:List (Nat × Ob)) (o:Oper) (Ei:cB):Prop:=∀ t T,fH Ei t = some T → Src ops m E0 prev o t T
theorem Srcs.nil {ops:List Oper} {m:Nat} {E0:cB} {prev:List (Nat × Ob)} {o:Oper}:Srcs ops m E0 prev o []:=fun t T h=>by cases h
theorem Srcs.cons {ops : List Oper} {m : Nat} {E0 Ei : cB} {prev : List (Nat × Ob)} {o : Oper} {t : Nat} {T : Ty} (h : Src ops m E0 prev o t T) (k : Srcs ops m E0 prev o Ei) : Srcs ops m E0 prev o ((t, T) :: Ei) := fun u U hl => by
 rw [cM] at hl
 by_cases e:t = u
 ·subst e; rw [if_pos rfl] at hl; obtain rfl:=Option.some.inj hl; exact h
 ·rw [if_neg e] at hl; exact k u U hl
section
variable {P:Program} {R:eA} {cx:Cx} {n:Nat} {k:List It} {E:cB} {H:Hp}
def vK (P : Program) (n : Nat) (ops : List Oper) (m : Nat) (E0 : cB) (H : Hp) (prev : List (Nat × Ob)) (o : Oper) : Ob → Prop
 | .val T=>∃ Ei,Srcs ops m E0 prev o Ei ∧ gH P n ops.toArray Ei H o T
 | .new γ T A=>o.guard = none ∧ ∃ Ei,Srcs ops m E0 prev o Ei ∧ gY P n Ei H o γ T A
def kS (P : Program) (n : Nat) (ops : List Oper) (m : Nat) (E0 : cB) (H : Hp) : List (Nat × Ob) → Prop
 | []=>True
 | (d,b) :: prev=>(∃ o,ops[prev.length]? = some o ∧ o.dst = some d ∧ d < n ∧ vK P n ops m E0 H prev o b) ∧ kS P n ops m E0 H prev
def Dr (P : Program) (R : eA) (cx : Cx) (n : Nat) (ops : List Oper) (m : Nat) (k : List It) (E0 : cB) (H : Hp) (l : List Oper) (acc : List (Nat × Ob)) : Prop :=
 ops = (ops.take acc.length) ++ l → kS P n ops m E0 H acc → P.follows .mixedOrders = true ∧ ∀ a w, St cx n E0 H a w →
  wpAny P .any ops.toArray (den P R k) ops.toArray.size (Array.replicate ops.toArray.size false) a { w with drawn:=w.drawn + 1 }
def Fin' (P : Program) (R : eA) (cx : Cx) (n : Nat) (ops : Array Oper) (l : List Oper) (k : List It) : List (Nat × Ob) → cB → Hp → Prop
 | [],E,H=>Rg P R cx n ops l k E H
 | (d,.val T) :: r,E,H=>Fin' P R cx n ops l k r ((d,T) :: E) H
 | (d,.new γ T A) :: r,E,H=>∀ x:γ,Fin' P R cx n ops l k r ((d,T x) :: E) (H ++ [A x])
theorem D_start {ops:List Oper} {m:Nat} {id:Nat} (h:Dr P R cx n ops m k E H ops []):Tr P R cx n (.code (.region id ops.toArray true) :: k) E H:=fun a w hs=>wp_region_any (h (by simp) trivial).1 ((h (by simp) trivial).2 a w hs)
theorem D_step {ops l : List Oper} {m : Nat} {o : Oper} {acc : List (Nat × Ob)} {d : Nat} {T : Ty} {Ei : cB} (hd : o.dst = some d) (hn : Nat.blt d n = true) (hs : Srcs ops m E acc o Ei) (hst : gH P n ops.toArray Ei H o T)
  (h:Dr P R cx n ops m k E H l ((d,.val T) :: acc)):Dr P R cx n ops m k E H (o :: l) acc:=fun hops hobs=>by
 have hlen : acc.length ≤ ops.length := by
  have:=congrArg List.length hops
  simp at this; omega
 have ho : ops[acc.length]? = some o := by
  rw [hops,List.getElem?_append_right (by simp; omega)]
  simp [Nat.min_eq_left hlen]
 have hlt:acc.length < ops.length:=(List.getElem?_eq_some_iff.1 ho).1
 refine h ?_ ⟨⟨o,ho,hd,Nat.le_of_ble_eq_true hn,Ei,hs,hst⟩,hobs⟩
 rw [List.length_cons,List.take_succ_eq_append_getElem hlt]
 have:ops[acc.length] = o:=by simpa [hlt] using ho
 rw [this]
 simpa using hops
theorem D_new {ops l : List Oper} {m : Nat} {o : Oper} {acc : List (Nat × Ob)} {d : Nat} {γ : Type} {T : γ → Ty} {A : γ → SA} {Ei : cB} (hg : o.guard = none) (hd : o.dst = some d) (hn : Nat.blt d n = true) (hs : Srcs ops m E acc o Ei) (hst : gY P n Ei H o γ T A)
  (h:Dr P R cx n ops m k E H l ((d,.new γ T A) :: acc)):Dr P R cx n ops m k E H (o :: l) acc:=fun hops hobs=>by
 have hlen : acc.length ≤ ops.length := by
  have:=congrArg List.length hops
  simp at this; omega
 have ho : ops[acc.length]? = some o := by
  rw [hops,List.getElem?_append_right (by simp; omega)]
  simp [Nat.min_eq_left hlen]
 have hlt:acc.length < ops.length:=(List.getElem?_eq_some_iff.1 ho).1
 refine h ?_ ⟨⟨o,ho,hd,Nat.le_of_ble_eq_true hn,hg,Ei,hs,hst⟩,hobs⟩
 rw [List.length_cons,List.take_succ_eq_append_getElem hlt]
 have:ops[acc.length] = o:=by simpa [hlt] using ho
 rw [this]
 simpa using hops
def iM : Ob → Ty × SA → Prop
 | .val T,c=>c = (T,SA.emp)
 | .new γ T A,c=>∃ x:γ,c = (T x,A x)
theorem kS.get {ops : List Oper} {m : Nat} : ∀ {acc : List (Nat × Ob)}, kS P n ops m E H acc → ∀ {i : Nat} {d : Nat} {b : Ob}, acc.reverse[i]? = some (d, b) →
  ∃ o,ops[i]? = some o ∧ o.dst = some d ∧ d < n ∧ vK P n ops m E H ((acc.reverse.take i).reverse) o b
 | [],_,i,d,b,h=>by simp at h
 | (d', b') :: prev, ⟨⟨o, h1, h2, h3, h4⟩, hp⟩, i, d, b, h => by
  rw [List.reverse_cons] at h
  by_cases e:i < prev.reverse.length
  ·rw [List.getElem?_append_left e] at h
   obtain ⟨o',q1,q2,q3,q4⟩:=hp.get h
   refine ⟨o',q1,q2,q3,?_⟩
   rw [List.reverse_cons,List.take_append_of_le_length (by omega)]; exact q4
  ·have hi : i = prev.length := by
    have:=(List.getElem?_eq_some_iff.1 h).1
    simp at this e; omega
   subst hi
   rw [List.getElem?_append_right (by simp)] at h
   simp at h
   obtain ⟨rfl,rfl⟩:=h
   refine ⟨o,h1,h2,h3,?_⟩
   rw [List.reverse_cons,List.take_append_of_le_length (by simp),List.take_of_length_le (by simp),List.reverse_reverse]
   exact h4
theorem kS.len {ops : List Oper} {m : Nat} : ∀ {acc : List (Nat × Ob)}, kS P n ops m E H acc → ∀ i (h : i < acc.length), ∃ d b, acc.reverse[i]? = some (d, b) := fun {acc} _ i h =>
 ⟨_,_,by rw [List.getElem?_eq_getElem (by simpa using h)]⟩
structure rS (cx:Cx) (n:Nat) (ops:List Oper) (m:Nat) (E0:cB) (H:Hp) (L:Nat → Bool) (C:Nat → Ty × SA) (V:aO) (a:Act) (w:World):Prop where
 inv:fN cx V (H ++ (List.range m).map fun i=>if L i then (C i).2 else SA.emp) w
 df:Ti n a.defers V
 sz:a.tmps.size = n
 old:∀ t T,fH E0 t = some T → (∀ j,j < m → eM ops j ≠ some t) → ∃ v,a.tmps[t]? = some v ∧ T.p v V
 now:∀ j d,j < m → L j = true → eM ops j = some d → ∃ v,a.tmps[d]? = some v ∧ (C j).1.p v V
theorem lI {m i:Nat} (hi:i < m) (f:Nat → SA) (A:SA):((List.range m).map f).set i A = (List.range m).map fun j=>if j = i then A else f j:=by
 apply List.ext_getElem?
 intro j
 by_cases e:i = j
 ·subst e; simp [hi]
 ·rw [List.getElem?_set_ne e]
  by_cases hj:j < m
  ·simp [hj]; intro x; exact absurd x.symm e
  ·simp [hj]
theorem iA {ops : List Oper} {l : List Oper} : ∀ (r : List (Nat × Ob)) (E : cB) (H : Hp), Fin' P R cx n ops.toArray l k r E H → ∀ (C : Nat → Ty × SA) (i0 : Nat), (∀ (i d : Nat) (b : Ob), r[i]? = some (d, b) → iM b (C (i0 + i))) →
  ∃ E' H', Rg P R cx n ops.toArray l k E' H' ∧ (∀ t T, fH E' t = some T → (fH E t = some T ∧ ∀ (i d : Nat) (b : Ob), r[i]? = some (d, b) → d ≠ t) ∨ ∃ (i d : Nat) (b : Ob), r[i]? = some (d, b) ∧ d = t ∧ T = (C (i0 + i)).1) ∧
   List.Sublist H' (H ++ (List.range r.length).map fun i=>(C (i0 + i)).2)
 | [],E,H,h,_,_,_=>⟨E,H,h,fun t T hT=>.inl ⟨hT,fun i d b hb=>by simp at hb⟩,by simp⟩
 | (d, .val T0) :: r, E, H, h, C, i0, hC => by
  obtain ⟨E',H',h1,h2,h3⟩:=iA r _ H h C (i0 + 1) (fun i d b hb=>by have:=hC (i + 1) d b (by simpa using hb); rwa [show i0 + (i + 1) = i0 + 1 + i by omega] at this)
  have h0:C i0 = (T0,SA.emp):=hC 0 d (.val T0) rfl
  refine ⟨E',H',h1,fun t T hT=>?_,h3.trans ?_⟩
  ·rcases h2 t T hT with ⟨q1, q2⟩ | ⟨i, d', b, q1, q2, q3⟩
   ·rw [cM] at q1
    by_cases e:d = t
    ·rw [if_pos e] at q1; obtain rfl := Option.some.inj q1
     exact .inr ⟨0,d,_,rfl,e,by rw [Nat.add_zero,h0]⟩
    ·rw [if_neg e] at q1
     refine .inl ⟨q1,fun i d' b hb=>?_⟩
     cases i with
     | zero=>simp at hb; exact hb.1 ▸ e
     | succ i=>exact q2 i d' b (by simpa using hb)
   ·exact .inr ⟨i + 1,d',b,by simpa using q1,q2,by rw [q3,show i0 + (i + 1) = i0 + 1 + i by omega]⟩
  ·simp only [List.length_cons, List.range_succ_eq_map, List.map_cons, List.map_map]
   refine List.Sublist.append (List.Sublist.refl H) ?_
   refine List.Sublist.cons _ ?_
   have : (fun i => (C (i0 + 1 + i)).2) = ((fun i => (C (i0 + i)).2) ∘ Nat.succ) := by
    funext i; simp [show i0 + (i + 1) = i0 + 1 + i by omega]
   rw [this]; exact List.Sublist.refl _
 | (d, .new γ T0 A0) :: r, E, H, h, C, i0, hC => by
  obtain ⟨x,h0⟩:∃ x:γ,C i0 = (T0 x,A0 x):=hC 0 d (.new γ T0 A0) rfl
  obtain ⟨E',H',h1,h2,h3⟩:=iA r _ _ (h x) C (i0 + 1) (fun i d b hb=>by have:=hC (i + 1) d b (by simpa using hb); rwa [show i0 + (i + 1) = i0 + 1 + i by omega] at this)
  refine ⟨E',H',h1,fun t T hT=>?_,h3.trans ?_⟩
  ·rcases h2 t T hT with ⟨q1, q2⟩ | ⟨i, d', b, q1, q2, q3⟩
   ·rw [cM] at q1
    by_cases e:d = t
    ·rw [if_pos e] at q1; obtain rfl := Option.some.inj q1
     exact .inr ⟨0,d,_,rfl,e,by rw [Nat.add_zero,h0]⟩
    ·rw [if_neg e] at q1
     refine .inl ⟨q1,fun i d' b hb=>?_⟩
     cases i with
     | zero=>simp at hb; exact hb.1 ▸ e
     | succ i=>exact q2 i d' b (by simpa using hb)
   ·exact .inr ⟨i + 1,d',b,by simpa using q1,q2,by rw [q3,show i0 + (i + 1) = i0 + 1 + i by omega]⟩
  ·simp only [List.length_cons, List.range_succ_eq_map, List.map_cons, List.map_map, List.append_assoc]
   refine List.Sublist.append (List.Sublist.refl H) ?_
   have : (fun i => (C (i0 + 1 + i)).2) = ((fun i => (C (i0 + i)).2) ∘ Nat.succ) := by
    funext i; simp [show i0 + (i + 1) = i0 + 1 + i by omega]
   rw [this]
   simp only [Nat.add_zero,h0]
   exact List.Sublist.refl _
theorem lB {ops : List Oper} {listed : Array Bool} {i : Nat} (h : i ∈ Region.ready .any ops.toArray listed) (hsz : listed.size = ops.length) :
  ∃ o,ops[i]? = some o ∧ listed[i]? = some false ∧ wV (fun j=>listed[j]? = some true) o:=by
 simp only [Region.ready,List.mem_filter,List.mem_range,List.size_toArray,Bool.and_eq_true,Bool.not_eq_true',List.getElem?_toArray] at h
 obtain ⟨h1,h2,h3⟩:=h
 obtain ⟨o,ho⟩:∃ o,ops[i]? = some o:=⟨_,List.getElem?_eq_getElem h1⟩
 refine ⟨o,ho,?_,fun e he hb=>?_⟩
 ·have hi : i < listed.size := by omega
  have:listed[i]? = some listed[i]:=by simp [hi]
  rw [this]; simpa [Array.getD,hi] using h2
 ·rw [ho] at h3
  simp only [Option.map_some,Option.getD_some] at h3
  have:=(Array.all_eq_true_iff_forall_mem.1 h3) e (by simpa using he)
  rw [hb] at this
  simp only [Bool.not_true,Bool.false_or] at this
  by_cases hl:e.on < listed.size
  ·simpa [Array.getD,hl] using this
  ·simp [Array.getD,hl] at this
theorem mQ {ops : List Oper} {listed : Array Bool} (h : Region.ready .any ops.toArray listed = []) (hsz : listed.size = ops.length)
  (hback:∀ i o,ops[i]? = some o → ∀ e,e ∈ o.after.toList → Region.binds .any e = true → e.on < i):∀ i,i < ops.length → listed[i]? = some true:=by
 intro i
 induction i using Nat.strongRecOn with
 | _ i ih =>
  intro hi
  have hil:i < listed.size:=by omega
  cases hb:listed[i] with
  | true=>simp [hil,hb]
  | false =>
   exfalso
   have hm : i ∈ Region.ready .any ops.toArray listed := by
    simp only [Region.ready,List.mem_filter,List.mem_range,List.size_toArray,Bool.and_eq_true,Bool.not_eq_true',List.getElem?_toArray]
    refine ⟨hi,by simp [Array.getD,hil,hb],?_⟩
    rw [List.getElem?_eq_getElem hi]
    simp only [Option.map_some,Option.getD_some]
    rw [Array.all_eq_true_iff_forall_mem]
    intro e he
    cases hbi:Region.binds .any e with
    | false=>rfl
    | true =>
     have hlt:=hback i _ (List.getElem?_eq_getElem hi) e (by simpa using he) hbi
     have hq:=ih e.on hlt (by omega)
     have hl:e.on < listed.size:=by omega
     simp only [Bool.not_true,Bool.false_or]
     simpa [Array.getD,hl] using hq
   rw [h] at hm; simp at hm
structure LI (ops:List Oper) (listed:Array Bool):Prop where
 sz:listed.size = ops.length
 cl:∀ (i:Nat) (o:Oper),ops[i]? = some o → listed[i]? = some true → wV (fun j=>listed[j]? = some true) o
theorem LI.set {ops:List Oper} {listed:Array Bool} {i:Nat} {o:Oper} (h:LI ops listed) (ho:ops[i]? = some o) (ha:wV (fun j=>listed[j]? = some true) o):LI ops (listed.setIfInBounds i true):=by
 have hmono : ∀ j : Nat, listed[j]? = some true → (listed.setIfInBounds i true)[j]? = some true := fun j hj => by
  by_cases e:i = j
  ·subst e
   have:=(Array.getElem?_eq_some_iff.1 hj).1
   simp [this]
  ·rw [Array.getElem?_setIfInBounds_ne e]; exact hj
 refine ⟨by simpa using h.sz,fun q oq hoq hq=>?_⟩
 by_cases e:i = q
 ·subst e
  rw [ho] at hoq; obtain rfl:=Option.some.inj hoq
  exact fun e he hb=>hmono _ (ha e he hb)
 ·rw [Array.getElem?_setIfInBounds_ne e] at hq
  exact fun e he hb=>hmono _ (h.cl q oq hoq hq e he hb)
structure Dn (ops:List Oper) (m:Nat):Prop where
 le:m ≤ ops.length
 ahead:∀ q,m ≤ q → q < ops.length → ∀ j,j < q → ((nE ops []).getD q 0).testBit j = true
 back:∀ (i:Nat) (o:Oper),ops[i]? = some o → ∀ e,e ∈ o.after.toList → Region.binds .any e = true → e.on < i
 dst:∀ i j,i < m → j < i → ∀ d,eM ops i = some d → eM ops j ≠ some d
theorem Dn.of {ops:List Oper} {m:Nat} (h:rX ops m = true):Dn ops m:=by
 simp only [rX,Bool.and_eq_true] at h
 obtain ⟨⟨⟨h1,h2⟩,h3⟩,h4⟩:=h
 have h1':=Nat.le_of_ble_eq_true h1
 refine ⟨h1',fun q hq hlt j hj=>?_,fun i o ho e he hb=>?_,fun i j hi hj d hd=>?_⟩
 ·have := List.all_eq_true.1 h2 (q - m) (List.mem_range.2 (by omega))
  rw [show m + (q - m) = q by omega] at this
  exact List.all_eq_true.1 this j (List.mem_range.2 hj)
 ·have hi := (List.getElem?_eq_some_iff.1 ho).1
  have:=List.all_eq_true.1 h3 i (List.mem_range.2 hi)
  have hd:ops.getD i default = o:=by simp [List.getD,ho]
  rw [hd] at this
  have:=List.all_eq_true.1 this e he
  rw [hb] at this
  simp only [Bool.not_true,Bool.false_or] at this
  have:=Nat.le_of_ble_eq_true this
  omega
 ·have := List.all_eq_true.1 h4 i (List.mem_range.2 hi)
  have:=List.all_eq_true.1 this j (List.mem_range.2 hj)
  rw [hd] at this
  intro hj2
  rw [hj2] at this
  simp at this
theorem LI.before {ops : List Oper} {m : Nat} {listed : Array Bool} (h : LI ops listed) (hd : Dn ops m) {q : Nat} {o : Oper} (ho : ops[q]? = some o) (ha : wV (fun j => listed[j]? = some true) o) (hq : m ≤ q) :
  ∀ j,j < q → listed[j]? = some true:=fun j hj=>by
 have hlt:=(List.getElem?_eq_some_iff.1 ho).1
 exact tE (fun j=>listed[j]? = some true) ops h.cl ops [] (fun j o hj=>by simpa using hj) (fun k o hk=>by simp at hk) q o (by rw [mI]; simpa using hlt) ho ha j (hd.ahead q hq hlt j hj)
theorem oJ {ops : List Oper} {Q : eA} {m : Nat} (hd : Dn ops m) :
  ∀ (fuel q:Nat) (listed:Array Bool) (a:Act) (w:World),m ≤ q → q ≤ ops.length → ops.length - q ≤ fuel → LI ops listed → (∀ i,i < ops.length → listed[i]? = some (decide (i < q))) → wpList P ops.toArray Q (ops.drop q) a w → wpAny P .any ops.toArray Q fuel listed a w
 | 0, q, listed, a, w, hmq, hq, hf, hL, hl, h => by
  have e:q = ops.length:=by omega
  subst e
  refine ⟨?_,by simpa [wpList] using h⟩
  refine List.eq_nil_iff_forall_not_mem.2 fun i hi=>?_
  obtain ⟨o,h1,h2,_⟩:=lB hi hL.sz
  have hlt:=(List.getElem?_eq_some_iff.1 h1).1
  rw [hl i hlt] at h2; simp [hlt] at h2
 | fuel + 1, q, listed, a, w, hmq, hq, hf, hL, hl, h => by
  refine ⟨fun hr=>?_,fun i hi=>?_⟩
  ·have hall := mQ hr hL.sz hd.back
   by_cases e:q = ops.length
   ·subst e; simpa [wpList] using h
   ·have h1 := hall q (by omega)
    rw [hl q (by omega)] at h1; simp at h1
  ·obtain ⟨o, h1, h2, h3⟩ := lB hi hL.sz
   have hlt:=(List.getElem?_eq_some_iff.1 h1).1
   have hge : q ≤ i := by
    rw [hl i hlt] at h2; simpa using h2
   have hiq : i = q := by
    rcases Nat.lt_or_ge q i with hx | hx
    ·have := hL.before hd h1 h3 (by omega) q hx
     rw [hl q (by omega)] at this; simp at this
    ·omega
   subst hiq
   have hdrop : ops.drop i = o :: ops.drop (i + 1) := by
    rw [List.drop_eq_getElem_cons hlt]
    have:ops[i] = o:=by simpa [hlt] using h1
    rw [this]
   rw [hdrop] at h
   have ih : ∀ a w, wpList P ops.toArray Q (ops.drop (i + 1)) a w → wpAny P .any ops.toArray Q fuel (listed.setIfInBounds i true) a w := fun a w hh =>
    oJ hd fuel (i + 1) _ a w (by omega) (by omega) (by omega) (hL.set h1 h3) (fun j hj => by
     by_cases e:i = j
     ·subst e; simp [hL.sz,hlt]
     ·rw [Array.getElem?_setIfInBounds_ne e, hl j hj]
      congr 1
      simp; omega) hh
   unfold wpOp
   simp only [List.getElem?_toArray,h1]
   unfold wpList at h
   split
   ·rename_i hw
    rw [if_pos hw] at h
    exact h.imp (Oper.wp_mono ih) id
   ·rename_i hw
    rw [if_neg hw] at h
    exact ih _ _ h
theorem vD : ∀ (l r : List Bool), gP (l ++ r) = gP l + gP r
 | [],r=>by simp [gP]
 | b :: l,r=>by simp [gP,vD l r]; omega
theorem xK : ∀ (l : List Bool), (∀ b, b ∈ l → b = false) → gP l = l.length
 | [],_=>rfl
 | b :: l,h=>by have:=xK l (fun b hb=>h b (by simp [hb])); have h0:=h b (by simp); subst h0; simp [gP,this]; omega
theorem vS (l:List Bool) (m:Nat) (hm:m ≤ l.length) (h:∀ i:Nat,m ≤ i → i < l.length → l[i]? = some false):l.length - m ≤ gP l:=by
 have e:gP l = gP (l.take m) + gP (l.drop m):=by rw [← vD,List.take_append_drop]
 have e2 : gP (l.drop m) = l.length - m := by
  rw [xK,List.length_drop]
  intro b hb
  obtain ⟨i,hi⟩:=List.mem_iff_getElem?.1 hb
  rw [List.getElem?_drop] at hi
  have hlt:=(List.getElem?_eq_some_iff.1 hi).1
  rw [h (m + i) (by omega) hlt] at hi
  simpa using hi.symm
 omega
theorem kS.dst {ops:List Oper} {m:Nat} {acc:List (Nat × Ob)} (h:kS P n ops m E H acc) {i d:Nat} {b:Ob} (hi:acc.reverse[i]? = some (d,b)):eM ops i = some d:=by
 obtain ⟨o,h1,h2,_⟩:=h.get hi
 simp [eM,h1,h2]
theorem oV {ops l : List Oper} {m : Nat} {acc : List (Nat × Ob)} {E0 : cB} (hlen : acc.length = m) (hobs : kS P n ops m E0 H acc) (hfin : Fin' P R cx n ops.toArray l k acc.reverse E0 H)
  {L:Nat → Bool} {a:Act} {w:World} {V:aO} {C:Nat → Ty × SA} (hall:∀ i,i < m → L i = true) (hC:∀ (i d:Nat) (b:Ob),acc.reverse[i]? = some (d,b) → iM b (C i)) (hM:rS cx n ops m E0 H L C V a w) :
  wpList P ops.toArray (den P R k) l a w:=by
 obtain ⟨E',H',h1,h2,h3⟩:=iA acc.reverse E0 H hfin C 0 (fun i d b hb=>by rw [Nat.zero_add]; exact hC i d b hb)
 refine h1 a w ⟨V,hM.inv.hp_of (fun hh=>?_),hM.df,hM.sz,fun t T hT=>?_⟩
 ·refine HH.sublist (h3.trans ?_) hh
  rw [List.length_reverse,hlen]
  have : (List.range m).map (fun i => (C (0 + i)).2) = (List.range m).map fun i => if L i then (C i).2 else SA.emp := by
   apply List.map_congr_left
   intro i hi
   rw [hall i (List.mem_range.1 hi)]; simp
  rw [this]; exact List.Sublist.refl _
 ·rcases h2 t T hT with ⟨q1, q2⟩ | ⟨i, d, b, q1, q2, q3⟩
  ·refine hM.old t T q1 (fun j hj => ?_)
   obtain ⟨d,b,hb⟩:=kS.len hobs j (by omega)
   rw [hobs.dst hb]
   intro e; exact q2 j d b hb (Option.some.inj e)
  ·have hi : i < m := by have := (List.getElem?_eq_some_iff.1 q1).1; simpa [hlen] using this
   subst q2; rw [q3,Nat.zero_add]
   exact hM.now i d hi (hall i hi) (hobs.dst q1)
theorem qR (a:Act) (d t:Nat) (v:Value) (h:d ≠ t):(a.put (some d) v).tmps[t]? = a.tmps[t]?:=by
 simp [Act.put,Array.getElem?_setIfInBounds_ne h]
theorem rS.next {ops : List Oper} {m : Nat} {E0 : cB} (hd : Dn ops m) {listed : Array Bool} {a : Act} {w w' : World} {V V' : aO} {C : Nat → Ty × SA} (hsz : listed.size = ops.length) (hM : rS cx n ops m E0 H (fun i => listed[i]? == some true) C V a w) {i d : Nat} (hi : i < m)
  (hdst:eM ops i = some d) (hdn:d < n) (hli:listed[i]? = some false) {T:Ty} {A:SA} {v:Value} (hv:T.p v V') (hle:kC V V')
  (hinv:fN cx V' (H ++ ((List.range m).map fun i=>if (listed[i]? == some true) = true then (C i).2 else SA.emp).set i A) w') :
  rS cx n ops m E0 H (fun j=>(listed.setIfInBounds i true)[j]? == some true) (fun j=>if j = i then (T,A) else C j) V' (a.put (some d) v) w':=by
 have hil:i < listed.size:=(Array.getElem?_eq_some_iff.1 hli).1
 refine ⟨?_,hM.df.mono hle,by simp [Act.put,hM.sz],fun t U hU hn=>?_,fun j d' hj hL hdj=>?_⟩
 ·rw [lI hi] at hinv
  have e : ((List.range m).map fun j => if j = i then A else if (listed[j]? == some true) = true then (C j).2 else SA.emp) = (List.range m).map fun j => if ((listed.setIfInBounds i true)[j]? == some true) = true then (if j = i then (T, A) else C j).2 else SA.emp := by
   apply List.map_congr_left
   intro j _
   by_cases e:j = i
   ·subst e; simp [hil]
   ·rw [Array.getElem?_setIfInBounds_ne (fun x => e x.symm)]
    simp [e]
  rw [e] at hinv; exact hinv
 ·obtain ⟨u, h1, h2⟩ := hM.old t U hU hn
  refine ⟨u,?_,U.mono h2 hle⟩
  rw [qR _ _ _ _ (fun e=>hn i hi (by rw [hdst,e]))]; exact h1
 ·by_cases e : j = i
  ·subst e
   rw [hdst] at hdj; obtain rfl:=Option.some.inj hdj
   exact ⟨v,by simp [Act.put,hM.sz,hdn],by simpa using hv⟩
  ·rw [Array.getElem?_setIfInBounds_ne (fun x => e x.symm)] at hL
   obtain ⟨u,h1,h2⟩:=hM.now j d' hj hL hdj
   refine ⟨u,?_,by simpa [e] using Ty.mono _ h2 hle⟩
   rw [qR _ _ _ _ (fun x=>?_)]
   ·exact h1
   ·subst x
    rcases Nat.lt_or_ge j i with q | q
    ·exact hd.dst i j hi q _ hdst hdj
    ·exact hd.dst j i hj (by omega) _ hdj hdst
theorem lF {ops : List Oper} {m : Nat} {acc : List (Nat × Ob)} {E0 : cB} (hd : Dn ops m) (hlen : acc.length = m) (hobs : kS P n ops m E0 H acc) (hfin : Fin' P R cx n ops.toArray (ops.drop m) k acc.reverse E0 H) :
  ∀ (fuel : Nat) (listed : Array Bool) (a : Act) (w : World) (V : aO) (C : Nat → Ty × SA), LI ops listed → gP listed.toList ≤ fuel → (∀ i : Nat, m ≤ i → i < ops.length → listed[i]? = some false) →
   (∀ (i d:Nat) (b:Ob),acc.reverse[i]? = some (d,b) → listed[i]? = some true → iM b (C i)) → rS cx n ops m E0 H (fun i=>listed[i]? == some true) C V a w → wpAny P .any ops.toArray (den P R k) fuel listed a w:=by
 intro fuel
 have done : ∀ (listed : Array Bool) (a : Act) (w : World) (V : aO) (C : Nat → Ty × SA), LI ops listed → ∀ fuel, gP listed.toList ≤ fuel → (∀ i : Nat, m ≤ i → i < ops.length → listed[i]? = some false) →
   (∀ (i d:Nat) (b:Ob),acc.reverse[i]? = some (d,b) → listed[i]? = some true → iM b (C i)) → rS cx n ops m E0 H (fun i=>listed[i]? == some true) C V a w → (∀ i:Nat,i < m → listed[i]? = some true) → wpAny P .any ops.toArray (den P R k) fuel listed a w:=by
  intro listed a w V C hL fuel hc hl hC hM hall
  have hge:=vS listed.toList m (by simpa [hL.sz] using hd.le) (fun i h1 h2=>by simpa using hl i h1 (by simpa [hL.sz] using h2))
  refine oJ hd fuel m listed a w (Nat.le_refl m) hd.le (by simp [hL.sz] at hge; omega) hL (fun i hi=>?_) ?_
  ·by_cases e : i < m
   ·rw [hall i e]; simp [e]
   ·rw [hl i (by omega) hi]; simp; omega
  ·refine oV hlen hobs hfin (fun i hi => by rw [hall i hi]; rfl) (fun i d b hb => hC i d b hb (hall i ?_)) hM
   have:=(List.getElem?_eq_some_iff.1 hb).1
   simpa [hlen] using this
 induction fuel with
 | zero =>
  intro listed a w V C hL hc hl hC hM
  refine done listed a w V C hL 0 hc hl hC hM (fun i hi=>?_)
  have hil:i < listed.size:=by rw [hL.sz]; have:=hd.le; omega
  cases hb:listed[i] with
  | true=>simp [hil,hb]
  | false =>
   have:=oA listed.toList i (by simp [hil,hb])
   omega
 | succ fuel ih =>
  intro listed a w V C hL hc hl hC hM
  by_cases hall:∀ i:Nat,i < m → listed[i]? = some true
  ·exact done listed a w V C hL _ hc hl hC hM hall
  refine ⟨fun hr=>absurd (fun i hi=>mQ hr hL.sz hd.back i (by have:=hd.le; omega)) hall,fun i hi=>?_⟩
  obtain ⟨o,h1,h2,h3⟩:=lB hi hL.sz
  have him : i < m := by
   rcases Nat.lt_or_ge i m with hx | hx
   ·exact hx
   ·exact absurd (fun j hj=>hL.before hd h1 h3 hx j (by omega)) hall
  obtain ⟨d,b,hb⟩:=kS.len hobs i (by omega)
  obtain ⟨o',q1,q2,q3,q4⟩:=hobs.get hb
  rw [h1] at q1; obtain rfl:=Option.some.inj q1
  have hdst:=hobs.dst hb
  have slots : ∀ Ei, Srcs ops m E0 (acc.reverse.take i).reverse o Ei → dA n Ei V a := fun Ei hS => by
   refine ⟨hM.df,hM.sz,fun t T hT=>?_⟩
   rcases hS t T hT with ⟨r1,r2⟩ | ⟨j,r1,r2⟩
   ·refine hM.old t T r1 (fun j hj e => ?_)
    have:=List.all_eq_true.1 r2 j (List.mem_range.2 hj)
    simp [e] at this
   ·rw [List.reverse_reverse, List.getElem?_take] at r1
    split at r1
    case isFalse=>cases r1
    case isTrue hji =>
    obtain ⟨e,he,hb'⟩:=List.any_eq_true.1 r2
    simp only [Bool.and_eq_true] at hb'
    have hon:e.on = j:=Nat.eq_of_beq_eq_true hb'.1
    have hlj:=h3 e he hb'.2
    rw [hon] at hlj
    have hc':C j = (T,SA.emp):=hC j t (.val T) r1 hlj
    obtain ⟨v,s1,s2⟩:=hM.now j t (by omega) (by rw [hlj]; rfl) (hobs.dst r1)
    exact ⟨v,s1,by rw [hc'] at s2; exact s2⟩
  have hcnt : gP (listed.setIfInBounds i true).toList ≤ fuel := by
   have:=oB listed.toList i (by simpa using h2)
   rw [Array.toList_setIfInBounds]; omega
  have hl' : ∀ j : Nat, m ≤ j → j < ops.length → (listed.setIfInBounds i true)[j]? = some false := fun j hj hjl => by
   rw [Array.getElem?_setIfInBounds_ne (by omega)]; exact hl j hj hjl
  have took : ∀ (T : Ty) (A : SA), iM b (T, A) → ∀ (j d : Nat) (b : Ob), acc.reverse[j]? = some (d, b) → (listed.setIfInBounds i true)[j]? = some true → iM b (if j = i then (T, A) else C j) := fun T A ht j d' b' hb' hj => by
   by_cases e:j = i
   ·subst e
    rw [hb] at hb'; simp at hb'
    simp only [if_pos]; exact hb'.2 ▸ ht
   ·rw [Array.getElem?_setIfInBounds_ne (fun x => e x.symm)] at hj
    simp only [if_neg e]; exact hC j d' b' hb' hj
  have hx : ((List.range m).map fun i => if (listed[i]? == some true) = true then (C i).2 else SA.emp).set i SA.emp = (List.range m).map fun i => if (listed[i]? == some true) = true then (C i).2 else SA.emp := by
   rw [lI him]
   apply List.map_congr_left
   intro j _
   by_cases e:j = i
   ·subst e; simp [h2]
   ·simp [e]
  unfold wpOp
  simp only [List.getElem?_toArray,h1]
  cases b with
  | val T =>
   obtain ⟨Ei,hS,hst⟩:=q4
   have := hst cx _ a w V hM.inv (slots Ei hS) (wpAny P .any ops.toArray (den P R k) fuel (listed.setIfInBounds i true)) (den P R k) (fun v w' V' hi' hle hv => by
    rw [q2]
    exact ih _ _ _ V' _ (hL.set h1 h3) hcnt hl' (took T SA.emp rfl) (hM.next hd hL.sz him hdst q3 h2 hv hle (by rw [hx]; exact hi')))
   split
   ·rename_i hw; rw [if_pos hw] at this; exact .inl this
   ·rename_i hw; rw [if_neg hw] at this; exact this
  | new γ T A =>
   obtain ⟨hg,Ei,hS,hst⟩:=q4
   rw [if_pos (by simp [Region.wanted,hg])]
   left
   refine hst cx _ a w V hM.inv (slots Ei hS) _ _ fun x v w' V' e3 hle e2=>?_
   rw [q2]
   refine ih _ _ _ V' _ (hL.set h1 h3) hcnt hl' (took (T x) (A x) ⟨x,rfl⟩) (hM.next hd hL.sz him hdst q3 h2 e2 hle (e3.hp_of (fun hh=>?_)))
   have:=HH.move (p:=H.length + i) hh (by simp; omega)
   rw [List.set_append_right _ _ (by omega),show H.length + i - H.length = i by omega] at this
   exact this
theorem D_done {ops l : List Oper} {m : Nat} {acc : List (Nat × Ob)} (hP : P.follows .mixedOrders = true) (hm : acc.length = m) (hchk : rX ops m = true) (h : Fin' P R cx n ops.toArray l k acc.reverse E H) : Dr P R cx n ops m k E H l acc := fun hops hobs => ⟨hP, fun a w ⟨V, hi, hs⟩ => by
 have hd:=Dn.of hchk
 have hl : ops.drop m = l := by
  conv=>lhs; rw [hops]
  rw [List.drop_append,List.drop_of_length_le (by simp; omega)]
  simp [hm,Nat.min_eq_left hd.le]
 have hnone : ∀ i : Nat, (Array.replicate ops.toArray.size false)[i]? ≠ some true := fun i h => by
  rw [Array.getElem?_replicate] at h; split at h <;> simp at h
 refine lF (cx:=cx) (n:=n) (E0:=E) (H:=H) hd hm hobs (by rw [hl]; exact h) _ _ a _ V (fun _=>(mA,SA.emp)) ⟨by simp,fun i o ho h=>absurd h (hnone i)⟩ ?_ (fun i h1 h2=>by simp [h2]) (fun i d b _ h=>absurd h (hnone i)) ?_
 ·have : ∀ j, gP (List.replicate j false) ≤ j := fun j => by
   induction j with
   | zero=>simp [gP]
   | succ j ih=>simp only [List.replicate_succ,gP]; simp; omega
  simpa using this _
 ·refine ⟨?_, hs.1, hs.2.1, fun t T hT _ => hs.2.2 t T hT, fun j d hj hL => ?_⟩
  ·have e : ((List.range m).map fun i => if ((Array.replicate ops.toArray.size false)[i]? == some true) = true then ((fun _ => (mA, SA.emp)) i : Ty × SA).2 else SA.emp) = (List.range m).map fun _ => SA.emp := by
    apply List.map_congr_left; intro i _; split <;> rfl
   rw [e]
   have:=hi.drew
   refine this.hp_of (fun hh=>?_)
   obtain ⟨F,f1,f2⟩:=hh
   refine ⟨fun i=>if i < H.length then F i else [],fun i A hA=>?_,fun i j b hi hj hbi hbj=>?_⟩
   ·by_cases e : i < H.length
    ·rw [List.getElem?_append_left e] at hA
     simp only [if_pos e]; exact f1 i A hA
    ·rw [List.getElem?_append_right (by omega)] at hA
     have : A = SA.emp := by
      rw [List.getElem?_map] at hA
      cases hq:(List.range m)[i - H.length]? with
      | none=>rw [hq] at hA; cases hA
      | some q=>rw [hq] at hA; simpa using hA.symm
     subst this
     simp only [if_neg e]
     exact ⟨rfl,fun b hb=>by simp at hb⟩
   ·by_cases e : i < H.length <;> by_cases e' : j < H.length
    ·simp only [if_pos e,if_pos e'] at hbi hbj; exact f2 i j b e e' hbi hbj
    ·simp [e'] at hbj
    ·simp [e] at hbi
    ·simp [e] at hbi
  ·exact absurd (by simpa using hL) (hnone j)⟩
theorem F_nil {ops:Array Oper} {l:List Oper} (h:Rg P R cx n ops l k E H):Fin' P R cx n ops l k [] E H:=h
theorem F_val {ops:Array Oper} {l:List Oper} {d:Nat} {T:Ty} {r:List (Nat × Ob)} (h:Fin' P R cx n ops l k r ((d,T) :: E) H):Fin' P R cx n ops l k ((d,.val T) :: r) E H:=h
theorem F_new {ops:Array Oper} {l:List Oper} {d:Nat} {γ:Type} {T:γ → Ty} {A:γ → SA} {r:List (Nat × Ob)} (h:∀ x:γ,Fin' P R cx n ops l k r ((d,T x) :: E) (H ++ [A x])):Fin' P R cx n ops l k ((d,.new γ T A) :: r) E H:=h
end
end
section
open Go Go.RowKit
abbrev NT (kd:IntKind) (a:Nat):Ty:=aF kd (a:Int)
@[reducible] def lQ : IntKind → Nat
 | .i8=>128 | .i16=>32768 | .i32=>2147483648 | .i64=>9223372036854775808
 | .u8=>256 | .u16=>65536 | .u32=>4294967296 | .u64=>18446744073709551616
theorem rQ {kd:IntKind} {a:Nat} (h:a < lQ kd):kd.wrap (a:Int) = (a:Int):=by
 cases kd <;> simp only [lQ] at h <;> simp only [IntKind.wrap,IntKind.bits,IntKind.signed] <;> simp <;> omega
theorem Zp {kd:IntKind} (hk:kd.signed = false) (a:Nat):kd.wrap (a:Int) = ((a % lQ kd:Nat):Int):=by
 cases kd <;> simp [IntKind.signed] at hk <;> simp [IntKind.wrap,IntKind.bits,IntKind.signed,lQ]
section
variable {P:Program} {n:Nat} {E:cB} {H:Hp}
variable {d:Option Tmp} {t:TypeId} {pos:String} {af:Array Edge} {g:Option (Nat × Bool)}
variable {x y:Operand} {tx ty:TypeId} {kd kd':IntKind} {a b:Nat}
theorem aA.cN (b:Nat):aA E (.const (.int kd (b:Int))) (NT kd b):=fun _ _ _ _=>rfl
theorem Wr (hx : aA E x (NT kd a)) (hy : aA E y (NT kd b)) (h : a + b < lQ kd) : aM P n E H ⟨d, .binOp .add tx x y ty, t, pos, af, g⟩ (NT kd (a + b)) :=
 Hu hx hy (by rw [← Int.natCast_add]; exact rQ h)
theorem Wt (hk : kd.signed = false) (hx : aA E x (NT kd a)) (hy : aA E y (NT kd b)) : aM P n E H ⟨d, .binOp .add tx x y ty, t, pos, af, g⟩ (NT kd ((a + b) % lQ kd)) :=
 Hu hx hy (by rw [← Int.natCast_add]; exact Zp hk _)
theorem Xg (hx : aA E x (NT kd a)) (hy : aA E y (NT kd b)) (h : b ≤ a) (h2 : a < lQ kd) : aM P n E H ⟨d, .binOp .sub tx x y ty, t, pos, af, g⟩ (NT kd (a - b)) :=
 jU hx hy (by rw [← Int.natCast_sub h]; exact rQ (by omega))
theorem qZ (hk : kd.signed = false) (hx : aA E x (NT kd a)) (hy : aA E y (NT kd b)) (h : b ≤ lQ kd) : aM P n E H ⟨d, .binOp .sub tx x y ty, t, pos, af, g⟩ (NT kd ((a + lQ kd - b) % lQ kd)) :=
 jU hx hy (by
  cases kd <;> simp [IntKind.signed] at hk <;> simp only [lQ] at h ⊢ <;> simp only [IntKind.wrap,IntKind.bits,IntKind.signed] <;> simp <;> omega)
theorem mK (hx : aA E x (NT kd a)) (hy : aA E y (NT kd b)) (h : a * b < lQ kd) : aM P n E H ⟨d, .binOp .mul tx x y ty, t, pos, af, g⟩ (NT kd (a * b)) :=
 a0J hx hy (by rw [← Int.natCast_mul]; exact rQ h)
theorem tL (hx : aA E x (NT kd a)) (hy : aA E y (NT kd b)) (h0 : b ≠ 0) (h : a < lQ kd) : aM P n E H ⟨d, .binOp .quo tx x y ty, t, pos, af, g⟩ (NT kd (a / b)) :=
 a0L hx hy (by omega) (by
  rw [Int.tdiv_eq_ediv_of_nonneg (by omega),← Int.natCast_ediv]
  exact rQ (Nat.lt_of_le_of_lt (Nat.div_le_self a b) h))
theorem qY (hx : aA E x (NT kd a)) (hy : aA E y (NT kd b)) (h0 : b ≠ 0) : aM P n E H ⟨d, .binOp .rem tx x y ty, t, pos, af, g⟩ (NT kd (a % b)) :=
 a0M hx hy (by omega) (by rw [Int.tmod_eq_emod_of_nonneg (by omega),← Int.natCast_emod])
theorem Xc (hx : aA E x (NT kd a)) (hy : aA E y (NT kd b)) : aM P n E H ⟨d, .binOp .lss tx x y ty, t, pos, af, g⟩ (aD (decide (a < b))) :=
 (sA hx hy).imp (fun v V h=>by simpa [Is] using h)
theorem tK (hx : aA E x (NT kd a)) (hy : aA E y (NT kd b)) : aM P n E H ⟨d, .binOp .leq tx x y ty, t, pos, af, g⟩ (aD (decide (a ≤ b))) :=
 (Rm hx hy).imp (fun v V h=>by simpa [Is] using h)
theorem iW (hx : aA E x (NT kd a)) (hy : aA E y (NT kd b)) : aM P n E H ⟨d, .binOp .gtr tx x y ty, t, pos, af, g⟩ (aD (decide (b < a))) :=
 (yG hx hy).imp (fun v V h=>by simpa [Is] using h)
theorem tJ (hx : aA E x (NT kd a)) (hy : aA E y (NT kd b)) : aM P n E H ⟨d, .binOp .geq tx x y ty, t, pos, af, g⟩ (aD (decide (b ≤ a))) :=
 (nF hx hy).imp (fun v V h=>by simpa [Is] using h)
theorem dN (hx : aA E x (NT kd a)) (hy : aA E y (NT kd b)) : aM P n E H ⟨d, .binOp .eql tx x y ty, t, pos, af, g⟩ (aD (decide (a = b))) :=
 (kQ hx hy).imp (fun v V h=>by simpa [Is,Int.natCast_inj] using h)
theorem fR (hx : aA E x (NT kd a)) (hy : aA E y (NT kd b)) : aM P n E H ⟨d, .binOp .neq tx x y ty, t, pos, af, g⟩ (aD (!decide (a = b))) :=
 (fL hx hy).imp (fun v V h=>by simpa [Is,Int.natCast_inj] using h)
theorem tN (hx : aA E x (NT kd a)) (hy : aA E y (NT kd' b)) (hb : b ≤ kd.bits) (h : a * 2 ^ b < lQ kd) : aM P n E H ⟨d, .binOp .shl tx x y ty, t, pos, af, g⟩ (NT kd (a * 2 ^ b)) :=
 a0N hx hy (by omega) (by
  rw [Int.toNat_natCast,Nat.min_eq_left hb]
  have:((a:Int) * 2 ^ b) = ((a * 2 ^ b:Nat):Int):=by rw [Int.natCast_mul,Int.natCast_pow]; rfl
  rw [this]; exact rQ h)
theorem iG (hx : aA E x (NT kd a)) (hy : aA E y (NT kd' b)) (hb : b ≤ kd.bits) : aM P n E H ⟨d, .binOp .shr tx x y ty, t, pos, af, g⟩ (NT kd (a / 2 ^ b)) :=
 a0O hx hy (by omega) (by
  rw [Int.toNat_natCast,Nat.min_eq_left hb]
  have:((2:Int) ^ b) = ((2 ^ b:Nat):Int):=by rw [Int.natCast_pow]; rfl
  rw [this,Int.fdiv_eq_ediv_of_nonneg _ (Int.natCast_nonneg _),← Int.natCast_ediv])
theorem Ri {ks kt : IntKind} (hs : ∀ w, (underlying tx).run P w = .ok (.int ks) w) (hd : ∀ w, (underlying ty).run P w = .ok (.int kt) w) (hx : aA E x (NT kd a)) (h : a < lQ kt) :
  aM P n E H ⟨d,.convert tx ty x,t,pos,af,g⟩ (NT kt a):=wK hs hd hx (rQ h)
theorem jI {ks kt : IntKind} (hk : kt.signed = false) (hs : ∀ w, (underlying tx).run P w = .ok (.int ks) w) (hd : ∀ w, (underlying ty).run P w = .ok (.int kt) w) (hx : aA E x (NT kd a)) :
  aM P n E H ⟨d,.convert tx ty x,t,pos,af,g⟩ (NT kt (a % lQ kt)):=wK hs hd hx (Zp hk _)
theorem jF (hk:kd.signed = false):2 ^ kd.bits = lQ kd:=by cases kd <;> first | rfl | (simp [IntKind.signed] at hk)
theorem kJ (w a:Nat) (h:a < 2 ^ w):(BitVec.ofInt w (a:Int)).toNat = a:=by
 rw [BitVec.toNat_ofInt]
 rw [show ((a:Int) % ((2 ^ w:Nat):Int)) = ((a % 2 ^ w:Nat):Int) by rw [Int.natCast_emod]]
 rw [Int.toNat_natCast,Nat.mod_eq_of_lt h]
theorem uR (hk : kd.signed = false) (hx : aA E x (NT kd a)) (hy : aA E y (NT kd b)) (ha : a < lQ kd) (hb : b < lQ kd) : aM P n E H ⟨d, .binOp .or tx x y ty, t, pos, af, g⟩ (NT kd (a ||| b)) :=
 a0G hx hy (by
  rw [← jF hk] at ha hb
  rw [BitVec.toNat_or,kJ _ _ ha,kJ _ _ hb]
  exact rQ (by rw [← jF hk]; exact Nat.or_lt_two_pow ha hb))
theorem tI (hk : kd.signed = false) (hx : aA E x (NT kd a)) (hy : aA E y (NT kd b)) (ha : a < lQ kd) (hb : b < lQ kd) : aM P n E H ⟨d, .binOp .and tx x y ty, t, pos, af, g⟩ (NT kd (a &&& b)) :=
 Ww hx hy (by
  rw [← jF hk] at ha hb
  rw [BitVec.toNat_and,kJ _ _ ha,kJ _ _ hb]
  exact rQ (by rw [← jF hk]; exact Nat.and_lt_two_pow a hb))
theorem Xh (hk : kd.signed = false) (hx : aA E x (NT kd a)) (hy : aA E y (NT kd b)) (ha : a < lQ kd) (hb : b < lQ kd) : aM P n E H ⟨d, .binOp .xor tx x y ty, t, pos, af, g⟩ (NT kd (a ^^^ b)) :=
 Wy hx hy (by
  rw [← jF hk] at ha hb
  rw [BitVec.toNat_xor,kJ _ _ ha,kJ _ _ hb]
  exact rQ (by rw [← jF hk]; exact Nat.xor_lt_two_pow ha hb))
theorem aA.nat {x:Operand} (h:aA E x (NT kd a)) (e:a = b):aA E x (NT kd b):=e ▸ h
theorem aM.nat {o:Oper} (h:aM P n E H o (NT kd a)) (e:a = b):aM P n E H o (NT kd b):=e ▸ h
theorem aM.bool {o:Oper} {p q:Bool} (h:aM P n E H o (aD p)) (e:p = q):aM P n E H o (aD q):=e ▸ h
end
theorem Ip {z:Int} (h:-9223372036854775808 ≤ z ∧ z ≤ 9223372036854775807):IntKind.i64.wrap z = z:=by rw [IntKind.wrap_i64]; omega
theorem Kg {α:Type} {f:α → Ty} {l:List α} {i:Nat} {a:α} (h:l[i]? = some a):(l.map f)[i]? = some (f a):=by simp [h]
theorem bM {l:List Nat} {i:Nat} (h:i < l.length):l[i]? = some (l.getD i 0):=by simp [List.getD,h]
theorem getD_some {α:Type} {d:α} {l:List α} {i:Nat} (h:i < l.length):l[i]? = some (l.getD i d):=by simp [List.getD,h]
theorem aC {α:Type} {f:α → Ty} {l:List α}:(((l.map f).length:Nat):Int) = (l.length:Int):=by simp
end
section
open Go Go.RowKit
theorem a1H {α:Type} {l:List α} (h:l.length = 1):∃ a,l = [a]:=by match l,h with | [a],_=>exact ⟨a,rfl⟩
theorem Qt {α:Type} {l:List α} (h:l.length = 2):∃ a b,l = [a,b]:=by match l,h with | [a,b],_=>exact ⟨a,b,rfl⟩
theorem yC {α:Type} {l:List α} (h:l.length = 5):∃ a b c d e,l = [a,b,c,d,e]:=by match l,h with | [a,b,c,d,e],_=>exact ⟨a,b,c,d,e,rfl⟩
theorem eE.cons' {V:aO} {T:Ty} {Ts:List Ty} {v:Value} {vs:List Value} (h:T.p v V ∧ jA v) (k:eE Ts vs V):eE (T :: Ts) (v :: vs) V:=eE.cons h.1 h.2 k
theorem eE.at {V:aO} {Ts:List Ty} {vs:List Value} (h:eE Ts vs V) {i:Nat} {T:Ty} {v:Value} (hT:Ts[i]? = some T) (hv:vs[i]? = some v):T.p v V ∧ jA v:=by
 obtain ⟨u,h1,h2⟩:=h.get hT
 rw [hv] at h1; obtain rfl:=Option.some.inj h1
 exact ⟨h2,h.pl v (List.mem_of_getElem? hv)⟩
theorem Ty.of {T U:Ty} (e:T = U):∀ v V,T.p v V → U.p v V:=fun _ _ h=>e ▸ h
abbrev cP (d:Nat):Ty:=NT .u32 d
abbrev Do (ds:List Nat):Ty:=kT 1 (ds.map cP)
abbrev aL (n:Nat):Ty:=Do (dg n)
theorem gF {m n:Nat} (e:m = n):∀ v V,(aL m).p v V → (aL n).p v V:=fun _ _ h=>e ▸ h
theorem Py {a b : List Nat} {k : Nat} (e : b = a.take k) : ∀ v V, (kT 1 ((a.map cP).take k)).p v V → (Do b).p v V := fun v V h => by
 rw [e,Do,List.map_take]; exact h
theorem a0Z {f : Nat → Ty} (h : ∀ a, dI (f a) 1 false) (l : List Nat) : ∀ T, T ∈ l.map f → dI T 1 false := fun T hT => by
 obtain ⟨a,_,rfl⟩:=List.mem_map.1 hT; exact h a
theorem a10 (l:List Nat):∀ T,T ∈ l.map cP → dI T 1 false:=a0Z (fun _=>inferInstance) l
theorem Wm : ∀ v V, (Is (.slice none 0 0)).p v V → (Do []).p v V := fun v V h => by
 cases h
 exact ⟨none,0,rfl,Nat.le_refl _,fun i T hT=>by simp at hT⟩
theorem lU:∀ v V,(Is (.slice none 0 0)).p v V → (aL 0).p v V:=fun v V h=>by rw [aL,fF]; exact Wm v V h
theorem jE.getD {ds:List Nat} (h:jE ds) (i:Nat):ds.getD i 0 < BB:=by
 by_cases hi:i < ds.length
 ·have : ds.getD i 0 = ds[i] := by simp [List.getD, hi]
  rw [this]; exact h _ (List.getElem_mem hi)
 ·simp [List.getD,List.getElem?_eq_none (Nat.le_of_not_lt hi),BB]
theorem jE.take {ds:List Nat} (h:jE ds) (k:Nat):jE (ds.take k):=fun d hd=>h d (List.mem_of_mem_take hd)
end
section
open Go Go.RowKit
theorem uY {α:Type} (A B:List α) (n:Nat):(A ++ B).take (A.length + n) = A ++ B.take n:=by
 induction A with
 | nil=>simp
 | cons a A ih=>simp only [List.cons_append,List.length_cons]; rw [show A.length + 1 + n = (A.length + n) + 1 by omega,List.take_succ_cons,ih]
theorem Mb {α:Type} (A B:List α) (n:Nat):(A ++ B).drop (A.length + n) = B.drop n:=by
 induction A with
 | nil=>simp
 | cons a A ih=>simp only [List.cons_append,List.length_cons]; rw [show A.length + 1 + n = (A.length + n) + 1 by omega,List.drop_succ_cons,ih]
def cH (xs:List Value):List Value:=xs.flatMap (·.cells.toList)
theorem nB {s : Nat} : ∀ (xs : List Value), (∀ x, x ∈ xs → x.cells.size = s) → ∀ (i : Nat) (x : Value), xs[i]? = some x → ∀ (j : Nat) (v : Value), x.cells[j]? = some v → (cH xs)[i * s + j]? = some v
 | [],_,i,x,h,_,_,_=>by simp at h
 | y :: ys, hs, 0, x, h, j, v, hv => by
  simp at h; subst h
  have hj:j < y.cells.size:=(Array.getElem?_eq_some_iff.1 hv).1
  simp only [cH,List.flatMap_cons,Nat.zero_mul,Nat.zero_add]
  rw [List.getElem?_append_left (by simpa using hj)]
  simpa using hv
 | y :: ys, hs, i + 1, x, h, j, v, hv => by
  have hy:y.cells.toList.length = s:=by simpa using hs y (by simp)
  simp only [cH,List.flatMap_cons]
  rw [List.getElem?_append_right (by rw [hy,Nat.add_mul]; omega),hy,show (i + 1) * s + j - s = i * s + j by rw [Nat.add_mul]; omega]
  exact nB ys (fun z hz=>hs z (by simp [hz])) i x (by simpa using h) j v hv
theorem iC {s : Nat} : ∀ (xs : List Value), (∀ x, x ∈ xs → x.cells.size = s) → (cH xs).length = xs.length * s
 | [],_=>by simp [cH]
 | y :: ys, hs => by
  have hy:y.cells.toList.length = s:=by simpa using hs y (by simp)
  simp only [cH,List.flatMap_cons,List.length_append,hy,List.length_cons]
  have:=iC ys (fun z hz=>hs z (by simp [hz]))
  simp only [cH] at this
  rw [this,Nat.add_mul]; omega
theorem pP (a b:List Value):cH (a ++ b) = cH a ++ cH b:=by simp [cH]
theorem Ep {s : Nat} : ∀ (xs : List Value), (∀ x, x ∈ xs → x.cells.size = s) → ∀ (i : Nat) (y : Value), y.cells.size = s → i < xs.length →
  cH (xs.set i y) = (cH xs).take (i * s) ++ y.cells.toList ++ (cH xs).drop (i * s + s)
 | [],_,i,_,_,h=>by simp at h
 | x :: xs, hs, 0, y, hy, _ => by
  have hx:x.cells.toList.length = s:=by simpa using hs x (by simp)
  simp only [cH,List.set_cons_zero,List.flatMap_cons,Nat.zero_mul,List.take_zero,List.nil_append,Nat.zero_add]
  rw [List.drop_append,List.drop_of_length_le (by omega),List.nil_append,hx,Nat.sub_self,List.drop_zero]
 | x :: xs, hs, i + 1, y, hy, h => by
  have hx:x.cells.toList.length = s:=by simpa using hs x (by simp)
  have ih:=Ep xs (fun z hz=>hs z (by simp [hz])) i y hy (by simpa using h)
  simp only [cH] at ih
  simp only [cH,List.set_cons_succ,List.flatMap_cons,ih]
  generalize x.cells.toList = A at hx
  generalize List.flatMap (fun x=>x.cells.toList) xs = B
  subst hx
  rw [show (i + 1) * A.length = A.length + i * A.length by rw [Nat.add_mul]; omega,Nat.add_assoc,uY,Mb]
  simp [List.append_assoc]
theorem Er (off : Nat) : ∀ (vs : List Value) (k : Nat) (c : Array Value), off + k + vs.length ≤ c.size →
  ((vs.zipIdx k).foldl (fun (cs:Array Value) (p:Value × Nat)=>cs.setIfInBounds (off + p.2) p.1) c).toList = c.toList.take (off + k) ++ vs ++ c.toList.drop (off + k + vs.length)
 | [],k,c,_=>by simp
 | v :: vs, k, c, h => by
  simp only [List.zipIdx_cons,List.foldl_cons]
  rw [Er off vs (k + 1) _ (by simp at h ⊢; omega)]
  rw [Array.toList_setIfInBounds,show off + (k + 1) = off + k + 1 by omega]
  exact pW _ _ (by simp at h ⊢; omega) _ _
theorem En {s : Nat} : ∀ (xs : List Value), (∀ x, x ∈ xs → x.cells.size = s) → ∀ (k : Nat) (c : Array Value), c.size = (k + xs.length) * s →
  ∃ c',Instr.fill (fun i=>some (i * s,s)) c ((xs.zipIdx k).map fun p=>(p.2,p.1)) = some c' ∧ c'.toList = c.toList.take (k * s) ++ cH xs
 | [],_,k,c,h=>⟨c,rfl,by simp only [cH,List.flatMap_nil,List.append_nil]; rw [List.take_of_length_le (by simp at h ⊢; omega)]⟩
 | x :: xs, hs, k, c, h => by
  have hx:=hs x (by simp)
  simp only [List.length_cons] at h
  have hle : k * s + s ≤ c.size := by
   rw [h,show k + (xs.length + 1) = (k + 1) + xs.length by omega,Nat.add_mul,Nat.add_mul]; omega
  have hp:=Er (k * s) x.cells.toList 0 c (by simp [hx]; omega)
  have hxl:x.cells.toList.length = s:=by simpa using hx
  rw [Nat.add_zero,hxl] at hp
  generalize hc1:((x.cells.toList.zipIdx 0).foldl (fun (cs:Array Value) (p:Value × Nat)=>cs.setIfInBounds (k * s + p.2) p.1) c) = c1 at hp
  have hsz1 : c1.size = c.size := by
   have:=congrArg List.length hp
   simp [hxl] at this; omega
  obtain ⟨c',e1,e2⟩:=En xs (fun z hz=>hs z (by simp [hz])) (k + 1) c1 (by rw [hsz1,h]; congr 1; omega)
  refine ⟨c',?_,?_⟩
  ·simp only [List.zipIdx_cons, List.map_cons, Instr.fill]
   rw [if_neg (by simp [hx]; omega)]
   have hz : x.cells.zipIdx.foldl (fun (cs : Array Value) (p : Value × Nat) => cs.setIfInBounds (k * s + p.2) p.1) c = c1 := by
    rw [← hc1,← Array.foldl_toList]; simp [Array.toList_zipIdx]
   rw [show (fun (cs:Array Value) (x_1:Value × Nat)=>match x_1 with | (c,j)=>cs.setIfInBounds (k * s + j) c) = (fun (cs:Array Value) (p:Value × Nat)=>cs.setIfInBounds (k * s + p.2) p.1) from rfl]
   rw [hz]; exact e1
  ·have hk : (c.toList.take (k * s)).length = k * s := by simp; omega
   rw [e2,hp,List.append_assoc]
   have:(k + 1) * s = (c.toList.take (k * s)).length + x.cells.toList.length:=by rw [hk,hxl,Nat.add_mul]; omega
   rw [this,uY]
   have h2:x.cells.toList.length = x.cells.toList.length + 0:=rfl
   rw [h2,uY]
   simp [cH]
def pF (E : cB) (s : Nat) : List Operand → List Ty → Prop
 | [],[]=>True
 | x :: xs,T :: Ts=>aA E x T ∧ (∀ v V,T.p v V → v.cells.size = s) ∧ pF E s xs Ts
 | _,_=>False
theorem pF.nil {E:cB} {s:Nat}:pF E s [] []:=trivial
theorem pF.cons {E:cB} {s:Nat} {gg:Bool} {x:Operand} {xs:List Operand} {T:Ty} {Ts:List Ty} [hsh:dI T s gg] (h:aA E x T) (k:pF E s xs Ts):pF E s (x :: xs) (T :: Ts):=⟨h,fun v V hv=>(hsh.ok v V hv).1,k⟩
theorem pF.all {E : cB} {s n : Nat} {V : aO} {a : Act} (hs : dA n E V a) : ∀ {xs : List Operand} {Ts : List Ty}, pF E s xs Ts → fD Ts (xs.map a.eval) V ∧ ∀ v, v ∈ xs.map a.eval → v.cells.size = s
 | [],[],_=>⟨trivial,fun _ h=>by simp at h⟩
 | x :: xs, T :: Ts, h => by
  obtain ⟨q1,q2⟩:=pF.all hs h.2.2
  refine ⟨⟨h.1 n V a hs,q1⟩,fun v hv=>?_⟩
  rw [List.map_cons] at hv
  rcases List.mem_cons.1 hv with e | e
  ·rw [e]; exact h.2.1 _ _ (h.1 n V a hs)
  ·exact q2 v e
 | [],_ :: _,h=>h.elim
 | _ :: _,[],h=>h.elim
def aO.add (V:aO) (b:Nat) (o:Obj):aO:=fun i=>if i = b then some o else V i
theorem fN.allocV {cx:Cx} {V:aO} {H:Hp} {w:World} (h:fN cx V H w) (ob:Obj):fN cx (V.add w.heap.size ob) H (w.alloc ob) ∧ kC V (V.add w.heap.size ob):=by
 have hnone : V w.heap.size = none := by
  cases hv:V w.heap.size with
  | none=>rfl
  | some o=>exact absurd (Array.getElem?_eq_some_iff.1 (h.on _ _ hv)).1 (Nat.lt_irrefl _)
 have hle : kC V (V.add w.heap.size ob) := fun b o hb => by
  have:b ≠ w.heap.size:=fun e=>by rw [e,hnone] at hb; cases hb
  simp [aO.add,this,hb]
 refine ⟨h.after hle (fun b o hb=>?_) (fun b o hb h0=>?_) ⟨⟨rfl,rfl,rfl,by simp,fun b hb=>Below.heap_alloc w ob b hb⟩,Nat.le_refl _⟩,hle⟩
 ·by_cases e : b = w.heap.size
  ·subst e; simp [aO.add] at hb; subst hb; exact heap_alloc_new w ob
  ·simp only [aO.add, if_neg e] at hb
   have hlt:=(Array.getElem?_eq_some_iff.1 (h.on _ _ hb)).1
   rw [Below.heap_alloc w ob b hlt]; exact h.on b o hb
 ·by_cases e : b = w.heap.size
  ·omega
  ·simp only [aO.add,if_neg e] at hb; rw [h0] at hb; cases hb
section
variable {P:Program} {n:Nat} {E:cB} {H:Hp} {d:Option Tmp} {t:TypeId} {pos:String} {af:Array Edge} {g:Option (Nat × Bool)}
theorem qC {s e len : Nat} {z : Value} {xs : List Value} {w : World} (hU : ∀ w, (underlying t).run P w = .ok (.slice e) w) (hS : ∀ w, (sizeOf e).run P w = .ok s w) (hz : ∀ w, (zeroValue e).run P w = .ok z w) (hlen : xs.length = len)
  (hb:len * s ≤ 2 ^ 24) (hx:∀ x,x ∈ xs → x.cells.size = s) {parts:Array (Nat × Value)} (hp:parts.toList = (xs.zipIdx 0).map fun p=>(p.2,p.1)) :
  (Instr.buildSlice t len parts).run P w = .ok (.slice (some ⟨w.heap.size,0,none⟩) len len) (w.alloc (.cells (cH xs).toArray e)):=by
 subst hlen
 have key : ∀ c : Array Value, c.size = xs.length * s → Instr.fill (fun i => some (i * s, s)) c parts.toList = some (cH xs).toArray := fun c hc => by
  obtain ⟨c',e1,e2⟩:=En xs hx 0 c (by simpa using hc)
  rw [hp,e1]
  congr 1
  apply Array.ext'
  simpa using e2
 unfold Instr.buildSlice
 simp only [Sem.run_bind,hU,hS,Result.andThen]
 rw [if_neg (by omega)]
 by_cases h0:xs.length * s = 0
 ·have k0 := key #[] (by simp [h0])
  simp only [h0,if_true,Array.range_zero',k0,Sem.run_bind]
  simp [h0,k0,newRow,newObj,Sem.run_bind,Result.andThen,Sem.run]
 ·have k1 := key ((Array.range (xs.length * s)).map fun i => z.cells[i % z.cells.size]!) (by simp)
  simp only [h0,if_false,Sem.run_bind,hz,Result.andThen]
  simp [k1,newRow,newObj,Sem.run_bind,Result.andThen,Sem.run]
theorem eO {s e len : Nat} {z : Value} {xs : List Operand} {Ts : List Ty} {parts : List (Nat × Operand)} (hU : ∀ w, (underlying t).run P w = .ok (.slice e) w) (hS : ∀ w, (sizeOf e).run P w = .ok s w) (hz : ∀ w, (zeroValue e).run P w = .ok z w)
  (hx:pF E s xs Ts) (hlen:xs.length = len) (hp:parts = (xs.zipIdx 0).map fun p=>(p.2,p.1)) (hb:Nat.ble (len * s) 16777216 = true) {t':TypeId} :
  aM P n E H ⟨d,.buildSlice t len parts.toArray,t',pos,af,g⟩ (kT s Ts):=fun cx X a w V hi hs K Q hK=>by
 obtain ⟨q1,q2⟩:=hx.all hs
 have hlt:Ts.length = len:=by have:=q1.length; simp at this; omega
 have hrun := qC (P := P) (t := t) (xs := xs.map a.eval) (len := len) (w := w) hU hS hz (by simpa using hlen) (by have := Nat.le_of_ble_eq_true hb; omega) q2 (parts := parts.toArray.map fun (i, x) => (i, a.eval x)) (by
  subst hp
  simp only [Array.toList_map,List.map_map,List.zipIdx_map]
  rfl)
 have hexec : (execOp a.eval ⟨d, .buildSlice t len parts.toArray, t', pos, af, g⟩).run P w = .ok (.value (.slice (some ⟨w.heap.size, 0, none⟩) len len)) (w.alloc (.cells (cH (xs.map a.eval)).toArray e)) := by
  simp only [execOp,Sem.run_bind,hrun,Result.andThen]; rfl
 simp only [Oper.wp,hexec,Oper.upon_value]
 obtain ⟨i1,i2⟩:=hi.allocV (.cells (cH (xs.map a.eval)).toArray e)
 refine hK _ _ _ i1 i2 ⟨some ⟨w.heap.size,0,none⟩,len,by rw [hlt],by omega,fun i T hT=>?_⟩
 obtain ⟨x,e1,e2⟩:=q1.get hT
 refine ⟨w.heap.size,0,x,rfl,⟨(cH (xs.map a.eval)).toArray,e,(0,0),by simp [aO.add],fun j v hv=>?_⟩,q2 x (List.mem_of_getElem? e1),T.mono e2 i2⟩
 rw [Nat.zero_add]
 simpa using nB _ q2 i x e1 j v hv
end
theorem mE {kd:IntKind} {a b:Nat} (e:a = b):∀ v V,(NT kd a).p v V → (NT kd b).p v V:=fun _ _ h=>e ▸ h
theorem bR {kd:IntKind} {a b:Int} (e:a = b):∀ v V,(aF kd a).p v V → (aF kd b).p v V:=fun _ _ h=>e ▸ h
theorem fE {a b:Bool} (e:a = b):∀ v V,(aD a).p v V → (aD b).p v V:=fun _ _ h=>e ▸ h
def JnJ (cx:Cx) (n:Nat) {σ:Type} (I:σ → Prop) (Es:σ → cB) (Hs:σ → Hp):Act → World → Prop:=fun a w=>∃ s,I s ∧ St cx n (Es s) (Hs s) a w
theorem kX {P : Program} {R : eA} {cx : Cx} {n : Nat} {k : List It} {E : cB} {H : Hp} {c : Code} {σ : Type} (I : σ → Prop) (Es : σ → cB) (Hs : σ → Hp) (h1 : Tr P R cx n (.code c :: .lp (JnJ cx n I Es Hs) :: k) E H)
  (h2:∀ s,I s → Tr P R cx n k (Es s) (Hs s)):Tr P R cx n (.code c :: k) E H:=fun a w hs=>by
 refine wp_mono (h1 a w hs) (fun e a' w' q=>?_)
 cases e with
 | normal=>obtain ⟨s,hI,hst⟩:=q; exact h2 s hI a' w' hst
 | _=>exact q
theorem bT {P : Program} {R : eA} {cx : Cx} {n : Nat} {k : List It} {E : cB} {H : Hp} {σ : Type} {I : σ → Prop} {Es : σ → cB} {Hs : σ → Hp} (s : σ) (hI : I s) (hE : Sub E (Es s)) (hH : eS H (Hs s)) :
  Tr P R cx n (.lp (JnJ cx n I Es Hs) :: k) E H:=fun a w ⟨V,hi,hs⟩=>⟨s,hI,V,hi.sub hH,hs.sub hE⟩
theorem aP {B:Nat} {BT:TypeId} {Ts Us:List Ty} (e:Ts = Us):∀ S m V,(box B BT Ts).h S m V → (box B BT Us).h S m V:=fun _ _ _ h=>e ▸ h
theorem pR {B l cap : Nat} {BT : TypeId} {Ts : List Ty} {ds : List Nat} (hT : Ts = ds.map cP) (hl : l = ds.length) (hcap : l ≤ cap) :
  ∀ v S V,(Is (.slice (some ⟨B,0,none⟩) l cap)).p v V → (box B BT Ts).h S V V → (Do ds).p v V:=by
 subst hT
 exact Me (a10 ds) (by rw [List.take_of_length_le (by simp; omega)]) (by simp; omega) hcap
theorem oZ (m:Nat):List.replicate m (cP 0) = (List.replicate m 0).map cP:=by rw [List.map_replicate]
theorem jD (l:List Nat) (i d:Nat):(l.map cP).set i (cP d) = (l.set i d).map cP:=by rw [List.map_set]
section
variable {P:Program} {n:Nat} {E:cB} {H:Hp} {d:Option Tmp} {t:TypeId} {pos:String} {af:Array Edge} {g:Option (Nat × Bool)}
theorem Kk {x : Operand} {tx : TypeId} {kd : IntKind} {a : Nat} (hk : kd.signed = false) (hx : aA E x (NT kd a)) (ha : a < lQ kd) : aM P n E H ⟨d, .unOp .xor tx x, t, pos, af, g⟩ (NT kd (lQ kd - 1 - a)) :=
 dF fun ac V w hs => by
  have ex:ac.eval x = .int kd a:=hx n V ac hs
  refine ⟨.int kd ((lQ kd - 1 - a:Nat):Int),?_,rfl⟩
  have hv : kd.wrap (BitVec.ofInt kd.bits (if kd.signed = true then (-1 : Int) else kd.max) ^^^ BitVec.ofInt kd.bits (a : Int)).toNat = ((lQ kd - 1 - a : Nat) : Int) := by
   have hm : (if kd.signed = true then (-1 : Int) else kd.max) = ((lQ kd - 1 : Nat) : Int) := by
    rw [if_neg (by simp [hk])]; cases kd <;> first | rfl | (simp [IntKind.signed] at hk)
   rw [← jF hk] at ha
   have h1 : BitVec.ofInt kd.bits ((lQ kd - 1 : Nat) : Int) = BitVec.allOnes kd.bits := by
    apply BitVec.eq_of_toNat_eq
    rw [kJ _ _ (by rw [← jF hk]; have:=Nat.two_pow_pos kd.bits; omega),BitVec.toNat_allOnes,jF hk]
   rw [hm,h1,BitVec.allOnes_xor,BitVec.toNat_not,kJ _ _ ha,jF hk]
   exact rQ (by rw [← jF hk] at *; have:=Nat.two_pow_pos kd.bits; omega)
  have hrun : (Op.unary .xor (.int kd a)).run P w = .ok (.int kd ((lQ kd - 1 - a : Nat) : Int)) w := by
   rw [← hv]; rfl
  simp only [execOp,ex,Sem.run_bind,hrun,Result.andThen]; rfl
end
end
section
open Go Go.RowKit
section
variable {P:Program} {R:eA} {cx:Cx} {n:Nat} {k:List It} {E:cB} {H:Hp} {c:Code}
theorem gO {σ0 σ1 : Type} (I : σ0 → σ1 → Prop) (μ : σ0 → σ1 → Nat) (Es : σ0 → σ1 → cB) (Hs : σ0 → σ1 → Hp) (a0 : σ0) (a1 : σ1) (h₀ : I a0 a1) (hE : Sub E (Es a0 a1)) (hH : eS H (Hs a0 a1))
  (h:∀ a0 a1,I a0 a1 → Tr P R cx n (.code c :: .lp (LpJ cx n (fun q:σ0 × σ1=>I q.1 q.2) (fun q:σ0 × σ1=>μ q.1 q.2) (fun q:σ0 × σ1=>Es q.1 q.2) (fun q:σ0 × σ1=>Hs q.1 q.2) (a0,a1)) :: k) (Es a0 a1) (Hs a0 a1)):Tr P R cx n (.code (.loop c) :: k) E H :=
 eL (σ:=σ0 × σ1) (fun q:σ0 × σ1=>I q.1 q.2) (fun q:σ0 × σ1=>μ q.1 q.2) (fun q:σ0 × σ1=>Es q.1 q.2) (fun q:σ0 × σ1=>Hs q.1 q.2) (a0,a1) h₀ hE hH (fun q hq=>h q.1 q.2 hq)
theorem sK {σ0 σ1 : Type} (I : σ0 → σ1 → Prop) (Es : σ0 → σ1 → cB) (Hs : σ0 → σ1 → Hp) (h1 : Tr P R cx n (.code c :: .lp (JnJ cx n (fun q : σ0 × σ1 => I q.1 q.2) (fun q : σ0 × σ1 => Es q.1 q.2) (fun q : σ0 × σ1 => Hs q.1 q.2)) :: k) E H)
  (h2:∀ a0 a1,I a0 a1 → Tr P R cx n k (Es a0 a1) (Hs a0 a1)):Tr P R cx n (.code c :: k) E H :=
 kX (σ:=σ0 × σ1) (fun q:σ0 × σ1=>I q.1 q.2) (fun q:σ0 × σ1=>Es q.1 q.2) (fun q:σ0 × σ1=>Hs q.1 q.2) h1 (fun q hq=>h2 q.1 q.2 hq)
theorem mF {σ0 σ1 σ2 : Type} (I : σ0 → σ1 → σ2 → Prop) (μ : σ0 → σ1 → σ2 → Nat) (Es : σ0 → σ1 → σ2 → cB) (Hs : σ0 → σ1 → σ2 → Hp) (a0 : σ0) (a1 : σ1) (a2 : σ2) (h₀ : I a0 a1 a2) (hE : Sub E (Es a0 a1 a2)) (hH : eS H (Hs a0 a1 a2))
  (h:∀ a0 a1 a2,I a0 a1 a2 → Tr P R cx n (.code c :: .lp (LpJ cx n (fun q:σ0 × σ1 × σ2=>I q.1 q.2.1 q.2.2) (fun q:σ0 × σ1 × σ2=>μ q.1 q.2.1 q.2.2) (fun q:σ0 × σ1 × σ2=>Es q.1 q.2.1 q.2.2) (fun q:σ0 × σ1 × σ2=>Hs q.1 q.2.1 q.2.2) (a0,a1,a2)) :: k) (Es a0 a1 a2) (Hs a0 a1 a2)):Tr P R cx n (.code (.loop c) :: k) E H :=
 eL (σ:=σ0 × σ1 × σ2) (fun q:σ0 × σ1 × σ2=>I q.1 q.2.1 q.2.2) (fun q:σ0 × σ1 × σ2=>μ q.1 q.2.1 q.2.2) (fun q:σ0 × σ1 × σ2=>Es q.1 q.2.1 q.2.2) (fun q:σ0 × σ1 × σ2=>Hs q.1 q.2.1 q.2.2) (a0,a1,a2) h₀ hE hH (fun q hq=>h q.1 q.2.1 q.2.2 hq)
theorem Tu {σ0 σ1 σ2 : Type} (I : σ0 → σ1 → σ2 → Prop) (Es : σ0 → σ1 → σ2 → cB) (Hs : σ0 → σ1 → σ2 → Hp) (h1 : Tr P R cx n (.code c :: .lp (JnJ cx n (fun q : σ0 × σ1 × σ2 => I q.1 q.2.1 q.2.2) (fun q : σ0 × σ1 × σ2 => Es q.1 q.2.1 q.2.2) (fun q : σ0 × σ1 × σ2 => Hs q.1 q.2.1 q.2.2)) :: k) E H)
  (h2:∀ a0 a1 a2,I a0 a1 a2 → Tr P R cx n k (Es a0 a1 a2) (Hs a0 a1 a2)):Tr P R cx n (.code c :: k) E H :=
 kX (σ:=σ0 × σ1 × σ2) (fun q:σ0 × σ1 × σ2=>I q.1 q.2.1 q.2.2) (fun q:σ0 × σ1 × σ2=>Es q.1 q.2.1 q.2.2) (fun q:σ0 × σ1 × σ2=>Hs q.1 q.2.1 q.2.2) h1 (fun q hq=>h2 q.1 q.2.1 q.2.2 hq)
theorem Bs {σ0 σ1 σ2 σ3 : Type} (I : σ0 → σ1 → σ2 → σ3 → Prop) (μ : σ0 → σ1 → σ2 → σ3 → Nat) (Es : σ0 → σ1 → σ2 → σ3 → cB) (Hs : σ0 → σ1 → σ2 → σ3 → Hp) (a0 : σ0) (a1 : σ1) (a2 : σ2) (a3 : σ3) (h₀ : I a0 a1 a2 a3) (hE : Sub E (Es a0 a1 a2 a3)) (hH : eS H (Hs a0 a1 a2 a3))
  (h:∀ a0 a1 a2 a3,I a0 a1 a2 a3 → Tr P R cx n (.code c :: .lp (LpJ cx n (fun q:σ0 × σ1 × σ2 × σ3=>I q.1 q.2.1 q.2.2.1 q.2.2.2) (fun q:σ0 × σ1 × σ2 × σ3=>μ q.1 q.2.1 q.2.2.1 q.2.2.2) (fun q:σ0 × σ1 × σ2 × σ3=>Es q.1 q.2.1 q.2.2.1 q.2.2.2) (fun q:σ0 × σ1 × σ2 × σ3=>Hs q.1 q.2.1 q.2.2.1 q.2.2.2) (a0,a1,a2,a3)) :: k) (Es a0 a1 a2 a3) (Hs a0 a1 a2 a3)):Tr P R cx n (.code (.loop c) :: k) E H :=
 eL (σ:=σ0 × σ1 × σ2 × σ3) (fun q:σ0 × σ1 × σ2 × σ3=>I q.1 q.2.1 q.2.2.1 q.2.2.2) (fun q:σ0 × σ1 × σ2 × σ3=>μ q.1 q.2.1 q.2.2.1 q.2.2.2) (fun q:σ0 × σ1 × σ2 × σ3=>Es q.1 q.2.1 q.2.2.1 q.2.2.2) (fun q:σ0 × σ1 × σ2 × σ3=>Hs q.1 q.2.1 q.2.2.1 q.2.2.2) (a0,a1,a2,a3) h₀ hE hH (fun q hq=>h q.1 q.2.1 q.2.2.1 q.2.2.2 hq)
end
end
section
open Go Go.RowKit
def fP (X:Hp):SA where
 h S m V:=∃ F:Nat → List Nat,(∀ (i:Nat) (A:SA),X[i]? = some A → A.h (F i) m V) ∧ (∀ i j b,i < X.length → j < X.length → b ∈ F i → b ∈ F j → i = j) ∧ ∀ b,b ∈ S ↔ ∃ i,i < X.length ∧ b ∈ F i
 loc:=fun ⟨F,h1,h2,h3⟩ k=>⟨F,fun i A hA=>A.loc (h1 i A hA) (fun b hb=>k b ((h3 b).2 ⟨i,(List.getElem?_eq_some_iff.1 hA).1,hb⟩)),h2,h3⟩
 mono:=fun ⟨F,h1,h2,h3⟩ k=>⟨F,fun i A hA=>A.mono (h1 i A hA) k,h2,h3⟩
theorem HH.pack {base:Nat} {w:World} {V:aO} {X:Hp} (h:HH base w V X):HH base w V [fP X]:=by
 obtain ⟨F,h1,h2⟩:=h
 have key:∀ b,b ∈ (List.range X.length).flatMap F ↔ ∃ i,i < X.length ∧ b ∈ F i:=fun b=>by simp [List.mem_flatMap]
 refine ⟨fun _=>(List.range X.length).flatMap F,fun i A hA=>?_,fun i j b hi hj _ _=>by simp at hi hj; omega⟩
 have hi:i = 0:=by have:=(List.getElem?_eq_some_iff.1 hA).1; simpa using this
 subst hi
 simp at hA; subst hA
 refine ⟨⟨F,fun i A hA=>(h1 i A hA).1,h2,key⟩,fun b hb=>?_⟩
 obtain ⟨i,hi,hb⟩:=(key b).1 hb
 exact (h1 i X[i] (by simp [hi])).2 b hb
theorem HH.unpack {base:Nat} {w:World} {V:aO} {X Y:Hp} (h:HH base w V (fP X :: Y)):HH base w V (X ++ Y):=by
 obtain ⟨F,h1,h2⟩:=h
 obtain ⟨⟨G,g1,g2,g3⟩,k1⟩:=h1 0 (fP X) rfl
 refine ⟨fun i=>if i < X.length then G i else F (i - X.length + 1),fun i A hA=>?_,fun i j b hi hj hbi hbj=>?_⟩
 ·by_cases e : i < X.length
  ·rw [List.getElem?_append_left e] at hA
   simp only [if_pos e]
   exact ⟨g1 i A hA,fun b hb=>k1 b ((g3 b).2 ⟨i,e,hb⟩)⟩
  ·rw [List.getElem?_append_right (by omega)] at hA
   simp only [if_neg e]
   exact h1 (i - X.length + 1) A (by simpa using hA)
 ·simp at hi hj
  by_cases ei:i < X.length <;> by_cases ej:j < X.length
  ·simp only [if_pos ei] at hbi; simp only [if_pos ej] at hbj
   exact g2 i j b ei ej hbi hbj
  ·simp only [if_pos ei] at hbi; simp only [if_neg ej] at hbj
   have:=h2 0 (j - X.length + 1) b (by simp) (by simp; omega) ((g3 b).2 ⟨i,ei,hbi⟩) hbj
   omega
  ·simp only [if_neg ei] at hbi; simp only [if_pos ej] at hbj
   have:=h2 0 (i - X.length + 1) b (by simp) (by simp; omega) ((g3 b).2 ⟨j,ej,hbj⟩) hbi
   omega
  ·simp only [if_neg ei] at hbi; simp only [if_neg ej] at hbj
   have:=h2 (i - X.length + 1) (j - X.length + 1) b (by simp; omega) (by simp; omega) hbi hbj
   omega
def vA (H : Hp) : List Nat → Hp → Prop
 | [],[]=>True
 | i :: is,A :: H'=>(∃ B,H[i]? = some B ∧ ∀ S m V,B.h S m V → A.h S m V) ∧ vA H is H'
 | _,_=>False
theorem vA.get {H : Hp} : ∀ {is : List Nat} {H' : Hp}, vA H is H' → is.length = H'.length ∧ ∀ (j : Nat) (A : SA), H'[j]? = some A → ∃ i B, is[j]? = some i ∧ H[i]? = some B ∧ ∀ S m V, B.h S m V → A.h S m V
 | [],[],_=>⟨rfl,fun j A h=>by simp at h⟩
 | i :: is, A :: H', ⟨⟨B, h1, h2⟩, k⟩ => by
  obtain ⟨k1,k2⟩:=k.get
  refine ⟨by simp [k1],fun j A' hA=>?_⟩
  cases j with
  | zero=>simp at hA; subst hA; exact ⟨i,B,rfl,h1,h2⟩
  | succ j=>simpa using k2 j A' (by simpa using hA)
 | [],_ :: _,h=>h.elim
 | _ :: _,[],h=>h.elim
theorem HH.pick {base:Nat} {w:World} {V:aO} {H H':Hp} {is:List Nat} (h:HH base w V H) (k:vA H is H') (nd:is.Nodup):HH base w V H':=by
 obtain ⟨F,h1,h2⟩:=h
 obtain ⟨k1,k2⟩:=k.get
 refine ⟨fun j=>F (is.getD j 0),fun j A hA=>?_,fun j l b hj hl hbj hbl=>?_⟩
 ·obtain ⟨i, B, e1, e2, e3⟩ := k2 j A hA
  have:is.getD j 0 = i:=by simp [List.getD,e1]
  simp only [this]
  exact ⟨e3 _ _ _ (h1 i B e2).1,(h1 i B e2).2⟩
 ·obtain ⟨i, B, e1, e2, _⟩ := k2 j H'[j] (by simp [hj])
  obtain ⟨i',B',e1',e2',_⟩:=k2 l H'[l] (by simp [hl])
  have a1:is.getD j 0 = i:=by simp [List.getD,e1]
  have a2:is.getD l 0 = i':=by simp [List.getD,e1']
  simp only [a1] at hbj; simp only [a2] at hbl
  have:=h2 i i' b (List.getElem?_eq_some_iff.1 e2).1 (List.getElem?_eq_some_iff.1 e2').1 hbj hbl
  subst this
  obtain ⟨q1,q2⟩:=List.getElem?_eq_some_iff.1 e1
  obtain ⟨q3,q4⟩:=List.getElem?_eq_some_iff.1 e1'
  exact (List.getElem_inj nd).1 (q2.trans q4.symm)
theorem fN.withHH {cx:Cx} {V:aO} {H H':Hp} {w:World} (h:fN cx V H w) (k:HH cx.w0.heap.size w V H'):fN cx V H' w:=⟨h.on,h.le,h.new,h.bel,k⟩
theorem HH.last {base:Nat} {w:World} {V:aO} {H:Hp} {i:Nat} {A:SA} (h:HH base w V H) (hA:H[i]? = some A):HH base w V (H.set i SA.emp ++ [A]):=by
 obtain ⟨F,h1,h2⟩:=h
 have hil:=(List.getElem?_eq_some_iff.1 hA).1
 refine ⟨fun j=>if j = i then [] else if j = H.length then F i else F j,fun j B hB=>?_,fun j l b hj hl hbj hbl=>?_⟩
 ·by_cases e : j = i
  ·subst e
   rw [List.getElem?_append_left (by simpa using hil)] at hB
   simp [hil] at hB; subst hB
   simp only [if_pos]
   exact ⟨rfl,by simp⟩
  ·by_cases e2 : j = H.length
   ·subst e2
    rw [List.getElem?_append_right (by simp)] at hB
    simp at hB; subst hB
    simp only [if_neg e,if_pos]
    exact h1 i A hA
   ·have hl : j < H.length := by
     have:=(List.getElem?_eq_some_iff.1 hB).1
     simp at this; omega
    rw [List.getElem?_append_left (by simpa using hl),List.getElem?_set_ne (fun x=>e x.symm)] at hB
    simp only [if_neg e,if_neg e2]
    exact h1 j B hB
 ·simp at hj hl
  by_cases ej:j = i
  ·simp [ej] at hbj
  ·by_cases el : l = i
   ·simp [el] at hbl
   ·by_cases ej2 : j = H.length <;> by_cases el2 : l = H.length
    ·omega
    ·simp only [if_neg ej, if_pos ej2] at hbj; simp only [if_neg el, if_neg el2] at hbl
     have:=h2 i l b hil (by omega) hbj hbl
     exact absurd this.symm el
    ·simp only [if_neg ej, if_neg ej2] at hbj; simp only [if_neg el, if_pos el2] at hbl
     have:=h2 j i b (by omega) hil hbj hbl
     exact absurd this ej
    ·simp only [if_neg ej, if_neg ej2] at hbj; simp only [if_neg el, if_neg el2] at hbl
     exact h2 j l b (by omega) (by omega) hbj hbl
theorem HH.unlast {base:Nat} {w:World} {V:aO} {H:Hp} {i:Nat} {A:SA} (h:HH base w V (H.set i SA.emp ++ [A])) (hi:i < H.length):HH base w V (H.set i A):=by
 obtain ⟨F,h1,h2⟩:=h
 have hlast:=h1 H.length A (by rw [List.getElem?_append_right (by simp)]; simp)
 refine ⟨fun j=>if j = i then F H.length else F j,fun j B hB=>?_,fun j l b hj hl hbj hbl=>?_⟩
 ·by_cases e : j = i
  ·subst e
   simp [hi] at hB; subst hB
   simp only [if_pos]; exact hlast
  ·rw [List.getElem?_set_ne (fun x => e x.symm)] at hB
   simp only [if_neg e]
   have hl:=(List.getElem?_eq_some_iff.1 hB).1
   refine h1 j B ?_
   rw [List.getElem?_append_left (by simpa using hl),List.getElem?_set_ne (fun x=>e x.symm)]; exact hB
 ·simp at hj hl
  have hlen:(H.set i SA.emp ++ [A]).length = H.length + 1:=by simp
  by_cases ej:j = i <;> by_cases el:l = i
  ·omega
  ·simp only [if_pos ej] at hbj; simp only [if_neg el] at hbl
   have:=h2 H.length l b (by omega) (by omega) hbj hbl
   omega
  ·simp only [if_neg ej] at hbj; simp only [if_pos el] at hbl
   have:=h2 j H.length b (by omega) (by omega) hbj hbl
   omega
  ·simp only [if_neg ej] at hbj; simp only [if_neg el] at hbl
   exact h2 j l b (by omega) (by omega) hbj hbl
def iH (P : Program) (f : FuncId) (Ts : List Ty) (As : Hp) (γ : Type) (U : γ → Ty) (As' : γ → Hp) (Q : γ → Prop) : Prop :=
 ∀ (cx : Cx) (Z : SA) (vs : List Value) (V : aO) (w : World), fN cx V (Z :: As) w → fD Ts vs V → Calls P f vs.toArray w fun e w' =>
  ∃ (v:Value) (V':aO) (x:γ),e = .returned v ∧ kC V V' ∧ fN cx V' (Z :: As' x) w' ∧ (U x).p v V' ∧ Q x
def Zx (P : Program) (fn : Func) (cx : Cx) (Z : SA) (γ : Type) (U : γ → Ty) (As' : γ → Hp) (Q : γ → Prop) : eA :=
 bodyPost P fn fun e w'=>∃ (v:Value) (V':aO) (x:γ),e = .returned v ∧ kC cx.V0 V' ∧ fN cx V' (Z :: As' x) w' ∧ (U x).p v V' ∧ Q x
section
variable {P:Program} {R:eA} {cx:Cx} {n:Nat} {k:List It} {E:cB} {H:Hp} {ops:Array Oper} {o:Oper} {rest:List Oper}
variable {d:Option Tmp} {t:TypeId} {pos:String} {af:Array Edge} {g:Option (Nat × Bool)}
theorem fN.base {V V' : aO} {w w' : World} {H H' : Hp} (h : fN cx V H w) (k : fN ⟨cx.w0, V⟩ V' H' w') (hle : kC V V') : fN cx V' H' w' :=
 ⟨k.on, h.le.trans hle, fun b o hb h0 => (by
  cases hv:V b with
  | none=>exact k.new b o hb hv
  | some o'=>exact h.new b o' hv h0),k.bel,k.hp⟩
theorem iH.intro {f : FuncId} {fn : Func} {c : Code} {Ts : List Ty} {As : Hp} {γ : Type} {U : γ → Ty} {As' : γ → Hp} {Q : γ → Prop} (hf : P.funcs[f]? = some fn) (hb : fn.body = some c) (hn : fn.ntmps = n) (hl : Nat.ble Ts.length n = true)
  (h:∀ cx Z,Tr P (Zx P fn cx Z γ U As' Q) cx n [.code c] (ent 0 Ts) (Z :: As)):iH P f Ts As γ U As' Q:=fun cx Z vs V w hi ha=>by
 have hlen:vs.length = Ts.length:=ha.length
 have hle:Ts.length ≤ n:=Nat.le_of_ble_eq_true hl
 have hinv:fN ⟨cx.w0,V⟩ V (Z :: As) w:=⟨hi.on,kC.refl V,fun b o h1 h2=>(by have h3:V b = none:=h2; rw [h1] at h3; cases h3),hi.bel,hi.hp⟩
 have hwp := h ⟨cx.w0, V⟩ Z { tmps := vs.toArray ++ Array.replicate (fn.ntmps - vs.toArray.size) undef, defers := [] } w ⟨V, hinv, .inl rfl, by simp [hn]; omega, fun t T hT => by
  obtain ⟨_,h2⟩:=pX Ts 0 t T hT
  obtain ⟨v,h3,h4⟩:=ha.get (i:=t) (by simpa using h2)
  have ht:t < vs.length:=(List.getElem?_eq_some_iff.1 h3).1
  exact ⟨v,by simp [Array.getElem?_append,ht] at h3 ⊢; exact h3,h4⟩⟩
 refine Calls.mono (calls_of_wp hf hb (R:=fun e w'=>∃ (v:Value) (V':aO) (x:γ),e = .returned v ∧ kC V V' ∧ fN ⟨cx.w0,V⟩ V' (Z :: As' x) w' ∧ (U x).p v V' ∧ Q x) hwp) ?_
 rintro e w' ⟨v,V',x,h1,h2,h3,h4,h5⟩
 exact ⟨v,V',x,h1,h2,hi.base h3 h2,h4,h5⟩
theorem iH.imp {f : FuncId} {Ts : List Ty} {As : Hp} {γ : Type} {U U' : γ → Ty} {As' : γ → Hp} {Q Q' : γ → Prop} (h : iH P f Ts As γ U As' Q) (i : ∀ x v V, Q x → (U x).p v V → (U' x).p v V) (q : ∀ x, Q x → Q' x) : iH P f Ts As γ U' As' Q' :=
 fun cx Z vs V w h1 h2=>(h cx Z vs V w h1 h2).mono fun e w' ⟨v,V',x,a,b,c,d,e'⟩=>⟨v,V',x,a,b,c,i x _ _ e' d,q x e'⟩
theorem vQ {f : FuncId} {xs : List Operand} {tys : Array TypeId} {Ts : List Ty} {γ : Type} {U : γ → Ty} {As' : γ → Hp} {Q : γ → Prop} {dd : Nat} (hc : ∀ args w, (callFunc f args).run P w = .ok (.enter f args) w)
  (hF:iH P f Ts [] γ U As' Q) (ha:kU E xs Ts) (hn:Nat.blt dd n = true) (h:∀ x,Q x → Rg P R cx n ops rest k ((dd,U x) :: E) (H ++ As' x)) :
  Rg P R cx n ops (⟨some dd,.call ⟨.value (.func f),xs.toArray,tys⟩,t,pos,af,none⟩ :: rest) k E H:=by
 intro a w ⟨V,hi,hs⟩
 unfold wpList
 rw [if_pos (by simp [Region.wanted])]
 left
 have hrun : (execOp a.eval ⟨some dd, .call ⟨.value (.func f), xs.toArray, tys⟩, t, pos, af, none⟩).run P w = .ok (.enter f (xs.map a.eval).toArray) w := by
  simp [execOp,resolve,Act.eval,Deferred.ofValue,invoke,hc]
 simp only [Oper.wp,hrun,Oper.upon_enter]
 refine (hF cx (fP H) _ V w (hi.withHH hi.hp.pack) (kU.all hs ha)).mono ?_
 rintro e w' ⟨v,V',x,rfl,h1,h2,h3,h4⟩
 exact h x h4 _ _ ⟨V',h2.withHH h2.hp.unpack,(hs.mono h1).put (Nat.le_of_ble_eq_true hn) h3⟩
theorem Bn {f : FuncId} {xs : List Operand} {tys : Array TypeId} {Ts : List Ty} {γ : Type} {U : γ → Ty} {i : Nat} {A : SA} {A' : γ → SA} {Q : γ → Prop} {dd : Nat} (hc : ∀ args w, (callFunc f args).run P w = .ok (.enter f args) w)
  (hF:iH P f Ts [A] γ U (fun x=>[A' x]) Q) (hA:H[i]? = some A) (ha:kU E xs Ts) (hn:Nat.blt dd n = true) (h:∀ x,Q x → Rg P R cx n ops rest k ((dd,U x) :: E) (H.set i (A' x))) :
  Rg P R cx n ops (⟨some dd,.call ⟨.value (.func f),xs.toArray,tys⟩,t,pos,af,none⟩ :: rest) k E H:=by
 intro a w ⟨V,hi,hs⟩
 unfold wpList
 rw [if_pos (by simp [Region.wanted])]
 left
 have hrun : (execOp a.eval ⟨some dd, .call ⟨.value (.func f), xs.toArray, tys⟩, t, pos, af, none⟩).run P w = .ok (.enter f (xs.map a.eval).toArray) w := by
  simp [execOp,resolve,Act.eval,Deferred.ofValue,invoke,hc]
 simp only [Oper.wp,hrun,Oper.upon_enter]
 have hil:=(List.getElem?_eq_some_iff.1 hA).1
 have hp : HH cx.w0.heap.size w V [fP (H.set i SA.emp), A] := by
  have h1:=hi.hp.last hA
  obtain ⟨F,f1,f2⟩:=h1
  have : HH cx.w0.heap.size w V (H.set i SA.emp) := ⟨F, fun j B hB => f1 j B (by
   have hj:=(List.getElem?_eq_some_iff.1 hB).1
   rw [List.getElem?_append_left hj]; exact hB),fun j l b hj hl=>f2 j l b (by simp at hj ⊢; omega) (by simp at hl ⊢; omega)⟩
  have hl0:=f1 H.length A (by rw [List.getElem?_append_right (by simp)]; simp)
  have key:∀ b,b ∈ (List.range H.length).flatMap F ↔ ∃ i,i < H.length ∧ b ∈ F i:=fun b=>by simp [List.mem_flatMap]
  refine ⟨fun q=>if q = 0 then (List.range H.length).flatMap F else F H.length,fun q B hB=>?_,fun q l b hq hl hbq hbl=>?_⟩
  ·have hq : q < 2 := by have := (List.getElem?_eq_some_iff.1 hB).1; simpa using this
   rcases (by omega:q = 0 ∨ q = 1) with e | e
   ·subst e; simp at hB; subst hB
    simp only [if_pos]
    refine ⟨⟨F, fun j B hB => (f1 j B (by
     have hj:=(List.getElem?_eq_some_iff.1 hB).1
     rw [List.getElem?_append_left hj]; exact hB)).1,fun j l b hj hl=>f2 j l b (by simp at hj ⊢; omega) (by simp at hl ⊢; omega),by simp only [List.length_set]; exact key⟩,fun b hb=>?_⟩
    obtain ⟨j,hj,hb⟩:=(key b).1 hb
    exact (f1 j ((H.set i SA.emp)[j]'(by simpa using hj)) (by rw [List.getElem?_append_left (by simpa using hj)]; simp [hj])).2 b hb
   ·subst e; simp at hB; subst hB
    simpa using hl0
  ·simp at hq hl
   rcases (by omega:q = 0 ∨ q = 1) with e | e <;> rcases (by omega:l = 0 ∨ l = 1) with e' | e' <;> subst e <;> subst e'
   ·rfl
   ·simp only [if_pos] at hbq
    obtain ⟨j,hj,hb⟩:=(key b).1 hbq
    have:=f2 j H.length b (by simp; omega) (by simp) hb (by simpa using hbl)
    omega
   ·simp only [if_pos] at hbl
    obtain ⟨j,hj,hb⟩:=(key b).1 hbl
    have:=f2 j H.length b (by simp; omega) (by simp) hb (by simpa using hbq)
    omega
   ·rfl
 refine (hF cx (fP (H.set i SA.emp)) _ V w (hi.withHH hp) (kU.all hs ha)).mono ?_
 rintro e w' ⟨v,V',x,rfl,h1,h2,h3,h4⟩
 exact h x h4 _ _ ⟨V',h2.withHH (h2.hp.unpack.unlast hil),(hs.mono h1).put (Nat.le_of_ble_eq_true hn) h3⟩
theorem kY {fn : Func} {Z : SA} {γ : Type} {U : γ → Ty} {As' : γ → Hp} {Q : γ → Prop} (x : γ) (hQ : Q x) (is : List Nat) (hp : vA H is (Z :: As' x)) (nd : is.Nodup)
  (hr:∀ (a:Act) (w:World) (V:aO),fN cx V H w → dA n E V a → ∃ v,(results fn a.tmps).run P w = .ok v w ∧ (U x).p v V) (h206:Nat.beq n 206 = false:=by rfl):Tr P (Zx P fn cx Z γ U As' Q) cx n (.code .ret :: k) E H :=
 T_ret fun a w ⟨V, hi, hs⟩ => by
  obtain ⟨v,h1,h2⟩:=hr a w V hi hs
  exact ⟨hs.1.nil h206,v,h1,v,V,x,rfl,hi.le,hi.withHH (hi.hp.pick hp nd),h2,hQ⟩
theorem a2h {fn : Func} {U : Ty} (hf : fn.results = #[]) (hU : ∀ V, U.p (.tuple #[]) V) : ∀ (a : Act) (w : World) (V : aO), fN cx V H w → dA n E V a → ∃ v, (results fn a.tmps).run P w = .ok v w ∧ U.p v V := fun a w V hi hs =>
 ⟨.tuple #[],by rw [lC,hf]; simp [Result.andThen],hU V⟩
theorem zX {fn : Func} {U : Ty} {r : ResultVar} (hf : fn.results = #[r]) (h : RV P cx n E H r U) : ∀ (a : Act) (w : World) (V : aO), fN cx V H w → dA n E V a → ∃ v, (results fn a.tmps).run P w = .ok v w ∧ U.p v V := fun a w V hi hs => by
 obtain ⟨v,h1,h2⟩:=h a w V hi hs
 refine ⟨v,?_,h2⟩
 rw [lC,hf]; simp [h1,Result.andThen]
theorem Ig {fn : Func} {T U : Ty} {r s : ResultVar} (hf : fn.results = #[r, s]) (h : RV P cx n E H r T) (h' : RV P cx n E H s U) : ∀ (a : Act) (w : World) (V : aO), fN cx V H w → dA n E V a → ∃ v, (results fn a.tmps).run P w = .ok v w ∧ (fB [T, U]).p v V := fun a w V hi hs => by
 obtain ⟨v,h1,h2⟩:=h a w V hi hs
 obtain ⟨v',h1',h2'⟩:=h' a w V hi hs
 refine ⟨.tuple #[v,v'],?_,[v,v'],rfl,h2,h2',trivial⟩
 rw [lC,hf]; simp [h1,h1',Result.andThen,Sem.run_bind]
end
end
section
open Go Go.RowKit
structure El (s:Nat) (T:Ty):Prop where
 size:∀ v V,T.p v V → v.cells.size = s
 plain:∀ v V,T.p v V → ∀ u,u ∈ v.cells.toList → jA u
theorem El.one {T : Ty} [h : dI T 1 false] : El 1 T := ⟨fun v V k => (h.ok v V k).1, fun v V k u hu => by
 have hp:=(h.ok v V k).2.2 rfl
 rw [hp.cells] at hu; simp at hu; subst hu; exact hp⟩
theorem El.agg {Ts:List Ty}:El Ts.length (dL Ts):=⟨fun v V ⟨vs,e,k⟩=>by subst e; simp [Value.cells,k.length],fun v V ⟨vs,e,k⟩ u hu=>by subst e; exact k.pl u (by simpa [Value.cells] using hu)⟩
theorem El.ag {s:Nat} {Ts:List Ty} (h:Ts.length = s):El s (dL Ts):=h ▸ El.agg
theorem Ms {u:Value} (h:jA u):u.oneCell' = true:=by cases u <;> first | rfl | exact h.elim
structure uG (s:Nat) (Ts:List Ty) (xs:List Value) (V:aO):Prop where
 all:fD Ts xs V
 size:∀ x,x ∈ xs → x.cells.size = s
 plain:∀ u,u ∈ cH xs → jA u
theorem uG.mono {s:Nat} {Ts:List Ty} {xs:List Value} {V V':aO} (h:uG s Ts xs V) (k:kC V V'):uG s Ts xs V':=⟨h.all.mono k,h.size,h.plain⟩
theorem uG.nil {s:Nat} {V:aO}:uG s [] [] V:=⟨trivial,fun x h=>by simp at h,fun u h=>by simp [cH] at h⟩
theorem uG.append {s : Nat} {Ts Us : List Ty} {xs ys : List Value} {V : aO} (h : uG s Ts xs V) (k : uG s Us ys V) : uG s (Ts ++ Us) (xs ++ ys) V :=
 ⟨h.all.append k.all,fun x hx=>(List.mem_append.1 hx).elim (h.size x) (k.size x),fun u hu=>by rw [pP] at hu; exact (List.mem_append.1 hu).elim (h.plain u) (k.plain u)⟩
theorem uG.length {s:Nat} {Ts:List Ty} {xs:List Value} {V:aO} (h:uG s Ts xs V):xs.length = Ts.length:=h.all.length
theorem iO {xs:List Value} {u:Value}:u ∈ cH xs ↔ ∃ x,x ∈ xs ∧ u ∈ x.cells.toList:=by simp [cH,List.mem_flatMap]
theorem fD.mem {V : aO} : ∀ {Ts : List Ty} {vs : List Value}, fD Ts vs V → ∀ v, v ∈ vs → ∃ T, T ∈ Ts ∧ T.p v V
 | [],[],_,v,hv=>by simp at hv
 | T :: Ts, w :: vs, h, v, hv => by
  rcases List.mem_cons.1 hv with e | e
  ·subst e; exact ⟨T,by simp,h.1⟩
  ·obtain ⟨U, h1, h2⟩ := h.2.mem v e
   exact ⟨U,by simp [h1],h2⟩
 | [],_ :: _,h,_,_=>h.elim
 | _ :: _,[],h,_,_=>h.elim
theorem uG.of {s : Nat} {Ts : List Ty} {xs : List Value} {V : aO} (h : fD Ts xs V) (hs : ∀ T, T ∈ Ts → El s T) : uG s Ts xs V :=
 ⟨h, fun x hx => (by obtain ⟨T, h1, h2⟩ := h.mem x hx; exact (hs T h1).size x V h2), fun u hu => (by
  obtain ⟨x,hx,hu⟩:=iO.1 hu
  obtain ⟨T,h1,h2⟩:=h.mem x hx
  exact (hs T h1).plain x V h2 u hu)⟩
theorem uG.set {s : Nat} {Ts : List Ty} {xs : List Value} {V : aO} (h : uG s Ts xs V) (q : Nat) {T : Ty} {x : Value} (hx : T.p x V) (hT : El s T) : uG s (Ts.set q T) (xs.set q x) V :=
 ⟨h.all.set q hx, fun y hy => (List.mem_or_eq_of_mem_set hy).elim (h.size y) (fun e => e ▸ hT.size x V hx), fun u hu => (by
  obtain ⟨y,hy,hu'⟩:=iO.1 hu
  rcases List.mem_or_eq_of_mem_set hy with h1 | h1
  ·exact h.plain u (iO.2 ⟨y,h1,hu'⟩)
  ·subst h1; exact hT.plain _ V hx u hu')⟩
theorem uG.get {s:Nat} {Ts:List Ty} {xs:List Value} {V:aO} (h:uG s Ts xs V) {q:Nat} {T:Ty} (hT:Ts[q]? = some T):∃ x,xs[q]? = some x ∧ T.p x V ∧ x.cells.size = s:=by
 obtain ⟨x,h1,h2⟩:=h.all.get hT
 exact ⟨x,h1,h2,h.size x (List.mem_of_getElem? h1)⟩
theorem Eo {s : Nat} : ∀ (xs : List Value), (∀ x, x ∈ xs → x.cells.size = s) → ∀ (j : Nat) (u : Value), (cH xs)[j]? = some u → ∃ i x r, xs[i]? = some x ∧ x.cells[r]? = some u ∧ j = i * s + r
 | [],_,j,u,h=>by simp [cH] at h
 | y :: ys, hs, j, u, h => by
  have hy:y.cells.toList.length = s:=by simpa using hs y (by simp)
  have e:cH (y :: ys) = y.cells.toList ++ cH ys:=by simp [cH]
  rw [e] at h
  by_cases hj:j < s
  ·rw [List.getElem?_append_left (by omega)] at h
   exact ⟨0,y,j,rfl,by simpa using h,by simp⟩
  ·rw [List.getElem?_append_right (by omega), hy] at h
   obtain ⟨i,x,r,h1,h2,h3⟩:=Eo ys (fun x hx=>hs x (by simp [hx])) (j - s) u h
   exact ⟨i + 1,x,r,by simpa using h1,h2,by rw [Nat.add_mul]; omega⟩
theorem Fi {s b o : Nat} {V : aO} : ∀ (Us : List Ty) (k : Nat), (∀ (i : Nat) (T : Ty), Us[i]? = some T → ∃ x, Ds V b (o + (k + i) * s) x ∧ x.cells.size = s ∧ T.p x V) →
  ∃ xs,fD Us xs V ∧ (∀ x,x ∈ xs → x.cells.size = s) ∧ ∀ (i:Nat) x,xs[i]? = some x → Ds V b (o + (k + i) * s) x
 | [],_,_=>⟨[],trivial,by simp,by simp⟩
 | T :: Us, k, h => by
  obtain ⟨x,h1,h2,h3⟩:=h 0 T rfl
  obtain ⟨xs, k1, k2, k3⟩ := Fi Us (k + 1) (fun i U hU => by
   have:=h (i + 1) U (by simpa using hU)
   rwa [show k + (i + 1) = k + 1 + i by omega] at this)
  refine ⟨x :: xs,⟨h3,k1⟩,fun y hy=>(List.mem_cons.1 hy).elim (fun e=>e ▸ h2) (k2 y),fun i y hy=>?_⟩
  cases i with
  | zero=>simp at hy; subst hy; exact h1
  | succ i=>have:=k3 i y (by simpa using hy); rwa [show k + 1 + i = k + (i + 1) by omega] at this
theorem kT.row {s : Nat} {Us : List Ty} {v : Value} {V : aO} (h : (kT s Us).p v V) (hne : Us ≠ []) (hEl : ∀ T, T ∈ Us → El s T) :
  ∃ b o cap xs,v = .slice (some ⟨b,o,none⟩) Us.length cap ∧ Us.length ≤ cap ∧ uG s Us xs V ∧ ∀ (w:World),(∀ b ob,V b = some ob → w.heap[b]? = some ob) → ∀ (j:Nat) u,(cH xs)[j]? = some u → w.cell? ((⟨b,o,none⟩:Addr).add j) = some u:=by
 obtain ⟨a,cap,rfl,h2,h3⟩:=h
 obtain ⟨T0,Us',rfl⟩:∃ T Us',Us = T :: Us':=by cases Us with | nil=>exact absurd rfl hne | cons T U=>exact ⟨T,U,rfl⟩
 obtain ⟨b,o,_,rfl,_⟩:=h3 0 T0 rfl
 obtain ⟨xs, k1, k2, k3⟩ := Fi (s := s) (b := b) (o := o) (V := V) (T0 :: Us') 0 (fun i T hT => by
  obtain ⟨b',o',x,e,q1,q2,q3⟩:=h3 i T hT
  simp at e; obtain ⟨rfl,rfl⟩:=e
  exact ⟨x,by simpa using q1,q2,q3⟩)
 refine ⟨b,o,cap,xs,rfl,h2,uG.of k1 hEl,fun w hw j u hu=>?_⟩
 obtain ⟨i,x,r,e1,e2,rfl⟩:=Eo xs k2 j u hu
 obtain ⟨c,BT,fr,q1,q2⟩:=k3 i x e1
 rw [fO,dM (hw _ _ q1)]
 have:=q2 r u e2
 rwa [show o + (0 + i) * s + r = o + (i * s + r) by rw [Nat.zero_add]; omega] at this
def bN (e s:Nat) (v:Value) (Ts:List Ty):SA where
 h S m V := ∃ xs : List Value, uG s Ts xs V ∧ ((v = .slice none 0 0 ∧ Ts = [] ∧ S = []) ∨
  ∃ g cap cur,v = .slice (some ⟨g,0,none⟩) Ts.length cap ∧ S = [g] ∧ m g = some (.cells cur e (0,0)) ∧ Ts.length ≤ cap ∧ cap ≤ maxLen ∧ cur.size = cap * s ∧ cur.toList.take (Ts.length * s) = cH xs)
 loc h k := by
  obtain ⟨xs,h1,h2⟩:=h
  refine ⟨xs,h1,h2.imp id ?_⟩
  rintro ⟨g,cap,cur,h3,rfl,h4,h5⟩
  exact ⟨g,cap,cur,h3,rfl,by rw [k g (by simp)]; exact h4,h5⟩
 mono h k := by
  obtain ⟨xs,h1,h2⟩:=h
  exact ⟨xs,h1.mono k,h2⟩
theorem cA {e s:Nat} {v:Value} {Ts Us:List Ty} (h:Ts = Us):∀ S m V,(bN e s v Ts).h S m V → (bN e s v Us).h S m V:=fun _ _ _ k=>h ▸ k
section
variable {P:Program} {R:eA} {cx:Cx} {n:Nat} {k:List It} {E:cB} {H:Hp} {ops:Array Oper} {o:Oper} {rest:List Oper}
variable {d:Option Tmp} {t:TypeId} {pos:String} {af:Array Edge} {g:Option (Nat × Bool)}
theorem HH.upd' {base : Nat} {w w' : World} {V : aO} {H : Hp} {i : Nat} {A A' : SA} (h : HH base w V H) (hA : H[i]? = some A) (hsz : w.heap.size ≤ w'.heap.size) (hb : base ≤ w.heap.size) (hV : ∀ b, w.heap.size ≤ b → V b = none)
  (hk:∀ S,A.h S (hv w) V → (∀ b,b ∈ S → V b = none ∧ base ≤ b ∧ b < w.heap.size) → ∃ S',(∀ b,b ∈ S' → b ∈ S ∨ (w.heap.size ≤ b ∧ b < w'.heap.size)) ∧ (∀ b,b ∉ S → b < w.heap.size → w'.heap[b]? = w.heap[b]?) ∧ A'.h S' (hv w') V):HH base w' V (H.set i A'):=by
 obtain ⟨F,h1,h2⟩:=h
 have hil:=(List.getElem?_eq_some_iff.1 hA).1
 obtain ⟨S',k1,k2,k3⟩:=hk _ (h1 i A hA).1 (h1 i A hA).2
 refine ⟨fun j=>if j = i then S' else F j,fun j B hB=>?_,fun j l b hj hl hbj hbl=>?_⟩
 ·by_cases e : j = i
  ·subst e
   simp [hil] at hB; subst hB
   simp only [if_pos]
   refine ⟨k3,fun b hb'=>?_⟩
   rcases k1 b hb' with q | q
   ·have:=(h1 j A hA).2 b q; exact ⟨this.1,this.2.1,by omega⟩
   ·exact ⟨hV b q.1,by omega,q.2⟩
  ·rw [List.getElem?_set_ne (fun x => e x.symm)] at hB
   have hj:=(List.getElem?_eq_some_iff.1 hB).1
   simp only [if_neg e]
   have hB2:=(h1 j B hB).2
   refine ⟨B.loc (h1 j B hB).1 (fun b hb'=>k2 b (fun hf=>e (h2 j i b hj hil hb' hf)) (hB2 b hb').2.2),fun b hb'=>⟨(hB2 b hb').1,(hB2 b hb').2.1,by have:=(hB2 b hb').2.2; omega⟩⟩
 ·simp at hj hl
  have hlt:∀ q,q < H.length → ∀ b,b ∈ F q → b < w.heap.size:=fun q hq b hb'=>((h1 q H[q] (by simp [hq])).2 b hb').2.2
  by_cases ej:j = i <;> by_cases el:l = i
  ·omega
  ·simp only [if_pos ej] at hbj; simp only [if_neg el] at hbl
   rcases k1 b hbj with q | q
   ·exact absurd (h2 l i b hl hil hbl q) el
   ·have:=hlt l hl b hbl; omega
  ·simp only [if_neg ej] at hbj; simp only [if_pos el] at hbl
   rcases k1 b hbl with q | q
   ·exact absurd (h2 j i b hj hil hbj q) ej
   ·have:=hlt j hj b hbj; omega
  ·simp only [if_neg ej] at hbj; simp only [if_neg el] at hbl
   exact h2 j l b hj hl hbj hbl
theorem fN.upd' {V : aO} {w w' : World} {i : Nat} {A A' : SA} (h : fN cx V H w) (hA : H[i]? = some A) (hsz : w.heap.size ≤ w'.heap.size) (ho : w'.os = w.os) (ht : w'.tape = w.tape) (hout : w'.output = w.output ∧ w.drawn ≤ w'.drawn)
  (hk:∀ S,A.h S (hv w) V → (∀ b,b ∈ S → V b = none ∧ cx.w0.heap.size ≤ b ∧ b < w.heap.size) → ∃ S',(∀ b,b ∈ S' → b ∈ S ∨ (w.heap.size ≤ b ∧ b < w'.heap.size)) ∧ (∀ b,b ∉ S → b < w.heap.size → w'.heap[b]? = w.heap[b]?) ∧ A'.h S' (hv w') V):fN cx V (H.set i A') w':=by
 have hlt:∀ b o,V b = some o → b < w.heap.size:=fun b o hb=>(Array.getElem?_eq_some_iff.1 (h.on b o hb)).1
 obtain ⟨F,h1,h2⟩:=h.hp
 obtain ⟨_,k1,k2,_⟩:=hk _ (h1 i A hA).1 (h1 i A hA).2
 have hF:=(h1 i A hA).2
 refine ⟨fun b o hb=>?_,h.le,h.new,h.bel.trans ⟨⟨ho,ht,hout.1,hsz,fun b hb=>?_⟩,hout.2⟩,h.hp.upd' hA hsz h.bel.size (fun b hb=>?_) hk⟩
 ·rw [k2 b (fun hf=>by have:=(hF b hf).1; rw [hb] at this; cases this) (hlt b o hb)]; exact h.on b o hb
 ·exact k2 b (fun hf=>by have:=(hF b hf).2.1; omega) (by have:=h.bel.size; omega)
 ·cases hv : V b with
  | none=>rfl
  | some o=>have:=hlt b o hv; omega
theorem fN.addRow {V:aO} {w:World} {e s:Nat} (h:fN cx V H w):fN cx V (H ++ [bN e s (.slice none 0 0) []]) w:=by
 refine h.withHH ?_
 obtain ⟨F,h1,h2⟩:=h.hp
 refine ⟨fun j=>if j = H.length then [] else F j,fun j B hB=>?_,fun j l b hj hl hbj hbl=>?_⟩
 ·by_cases ej : j = H.length
  ·subst ej
   simp at hB; subst hB
   simp only [if_pos]
   exact ⟨⟨[],uG.nil,.inl ⟨rfl,rfl,rfl⟩⟩,by simp⟩
  ·have hl := (List.getElem?_eq_some_iff.1 hB).1
   simp at hl
   rw [List.getElem?_append_left (by omega)] at hB
   simp only [if_neg ej]
   exact h1 j B hB
 ·simp at hj hl
  by_cases ej:j = H.length
  ·simp [ej] at hbj
  ·by_cases el : l = H.length
   ·simp [el] at hbl
   ·simp only [if_neg ej] at hbj; simp only [if_neg el] at hbl
    exact h2 j l b (by omega) (by omega) hbj hbl
theorem rG (e s:Nat) (h:Tr P R cx n k E (H ++ [bN e s (.slice none 0 0) []])):Tr P R cx n k E H:=fun a w ⟨V,hi,hs⟩=>h a w ⟨V,hi.addRow,hs⟩
theorem rT {a : Act} {w : World} {V : aO} {x y : Operand} {i s e : Nat} {v : Value} {Ts Us : List Ty} {inf : TypeInfo} {z : Value} {dd : Nat} (ht : P.underlying t = some (.slice e)) (hi : P.info? e = some inf) (hz : inf.zero = some z) (hsize : inf.size = s) (hzs : z.cells.size = s)
  (hx:aA E x (Is v)) (hy:aA E y (kT s Us)) (hH:H[i]? = some (bN e s v Ts)) (hne:Us ≠ []) (hEl:∀ T,T ∈ Us → El s T) (hlen:(Ts.length + Us.length) * inf.bytes ≤ 140737488355328) (h63:Ts.length + Us.length ≤ 9223372036854775807)
  {t':TypeId} (hinv:fN cx V H w) (hs:dA n E V a) :
  ∃ v' w',(execOp a.eval ⟨some dd,.call ⟨.builtin .append,#[x,y],#[t,t]⟩,t',pos,af,none⟩).run P w = .ok (.value v') w' ∧ fN cx V (H.set i (bN e s v' (Ts ++ Us))) w':=by
 have ex:a.eval x = v:=hx n V a hs
 obtain ⟨b,ob,cap,ys,ey,_,hrow,hcells⟩:=kT.row (hy n V a hs) hne hEl
 have hnews:=hcells w hinv.on
 have hUl:Us.length ≠ 0:=fun e=>hne (List.eq_nil_of_length_eq_zero e)
 have hyl:(cH ys).length = Us.length * s:=by rw [iC ys hrow.size,hrow.length]
 have hone:∀ u ∈ cH ys,u.oneCell' = true:=fun u hu=>Ms (hrow.plain u hu)
 subst hsize
 -- what is to be shown
 suffices hmain : ∃ v' w', (Builtin.append_ #[t, t] t' #[v, .slice (some ⟨b, ob, none⟩) Us.length cap]).run P w = .ok v' w' ∧ w.heap.size ≤ w'.heap.size ∧ w'.os = w.os ∧ w'.tape = w.tape ∧ (w'.output = w.output ∧ w.drawn ≤ w'.drawn) ∧
   ∀ S,(bN e inf.size v Ts).h S (hv w) V → (∀ b,b ∈ S → V b = none ∧ cx.w0.heap.size ≤ b ∧ b < w.heap.size) → ∃ S',(∀ b,b ∈ S' → b ∈ S ∨ (w.heap.size ≤ b ∧ b < w'.heap.size)) ∧ (∀ b,b ∉ S → b < w.heap.size → w'.heap[b]? = w.heap[b]?) ∧ (bN e inf.size v' (Ts ++ Us)).h S' (hv w') V by
  obtain ⟨v',w',hr,q1,q2,q3,q4,q5⟩:=hmain
  have hrun : (execOp a.eval ⟨some dd, .call ⟨.builtin .append, #[x, y], #[t, t]⟩, t', pos, af, none⟩).run P w = .ok (.value v') w' := by
   simp [execOp,resolve,invoke,builtin,ex,ey,hr,Sem.run_bind,Result.andThen]
  exact ⟨v',w',hrun,hinv.upd' hH q1 q2 q3 q4 q5⟩
 obtain ⟨F,f1,f2⟩:=hinv.hp
 obtain ⟨⟨xs,hx1,hx2⟩,hx3⟩:=f1 i _ hH
 have fresh : ∀ (need old : Nat) (S : List Nat), need = Ts.length + Us.length → old < need → ∃ S', (∀ b, b ∈ S' → b ∈ S ∨ (w.heap.size ≤ b ∧ b < (w.drew.alloc (.cells ((cH xs).toArray ++ (cH ys).toArray ++ Builtin.zeroCells z.cells (grownCap w need old e - need)) e)).heap.size)) ∧
   (∀ b,b ∉ S → b < w.heap.size → (w.drew.alloc (.cells ((cH xs).toArray ++ (cH ys).toArray ++ Builtin.zeroCells z.cells (grownCap w need old e - need)) e)).heap[b]? = w.heap[b]?) ∧
   (bN e inf.size (.slice (some ⟨w.heap.size,0,none⟩) need (grownCap w need old e)) (Ts ++ Us)).h S' (hv (w.drew.alloc (.cells ((cH xs).toArray ++ (cH ys).toArray ++ Builtin.zeroCells z.cells (grownCap w need old e - need)) e))) V:=by
  intro need old S hneed hold
  have hge:=grownCap_ge w need old e
  have hcm:grownCap w need old e ≤ maxLen:=grownCap_le_maxLen w need old e (by simp only [maxLen]; omega)
  have hxl:(cH xs).length = Ts.length * inf.size:=by rw [iC xs hx1.size,hx1.length]
  refine ⟨[w.heap.size],fun b hb=>.inr (by simp at hb; subst hb; simp),fun b _ hb=>Below.heap_alloc w.drew _ b hb,xs ++ ys,hx1.append hrow,.inr ⟨w.heap.size,grownCap w need old e,_,?_,rfl,heap_alloc_new w.drew _,?_,hcm,?_,?_⟩⟩
  ·rw [List.length_append,hneed]
  ·rw [List.length_append,← hneed]; exact hge
  ·simp only [Array.size_append, List.size_toArray, size_zeroCells, hzs, hxl, hyl, ← Nat.add_mul]
   congr 1; omega
  ·rw [pP]
   simp only [Array.toList_append,List.length_append,List.append_assoc]
   rw [← List.append_assoc]
   have:(Ts.length + Us.length) * inf.size = (cH xs ++ cH ys).length:=by rw [List.length_append,hxl,hyl,Nat.add_mul]
   rw [this]; exact List.take_left
 rcases hx2 with ⟨rfl,rfl,hS⟩ | ⟨g,cp,cur,rfl,hS,hg,hle,hcm,hcs,htake⟩
 ·have hxs : xs = [] := List.eq_nil_of_length_eq_zero (by simpa using hx1.length)
  subst hxs
  simp only [List.length_nil,Nat.zero_add] at hlen h63
  have hr:=run_append_nil (P:=P) w t t' e inf z ht hi hz ⟨b,ob,none⟩ Us.length cap (cH ys) hyl hnews (by omega) (by omega) (by omega)
  refine ⟨_,_,hr,by simp,rfl,rfl,⟨rfl,Nat.le_succ _⟩,fun S _ _=>?_⟩
  have:=fresh Us.length 0 S (by simp) (by omega)
  simpa [cH] using this
 ·have hg' : w.heap[g]? = some (.cells cur e (0, 0)) := hg
  have hxl:(cH xs).length = Ts.length * inf.size:=by rw [iC xs hx1.size,hx1.length]
  by_cases hroom:Ts.length + Us.length ≤ cp
  ·have hfit : Ts.length * inf.size + (cH ys).length ≤ cur.size := by rw [hyl, hcs, ← Nat.add_mul]; exact Nat.mul_le_mul_right _ hroom
   have hr:=run_append_room (P:=P) w t t' e inf ht hi g Ts.length cp cur hg' ⟨b,ob,none⟩ Us.length cap (cH ys) hyl hnews hone hroom hfit
   refine ⟨_,_,hr,by simp [World.setRow],rfl,rfl,⟨rfl,Nat.le_refl _⟩,fun S hS' _=>?_⟩
   obtain ⟨xs',hx1',hx2'⟩:=hS'
   rcases hx2' with ⟨h0,_⟩ | ⟨g',cp',cur',e1,rfl,hg2,_,_,_,htake'⟩
   ·cases h0
   ·simp at e1; obtain ⟨rfl, rfl⟩ := e1
    have hg3:w.heap[g]? = some (.cells cur' e (0,0)):=hg2
    rw [hg'] at hg3; simp at hg3; subst hg3
    refine ⟨[g],fun b hb=>.inl hb,fun b hb _=>setRow_other w g b _ (by simpa using hb),xs' ++ ys,hx1'.append hrow,.inr ⟨g,cp,_,by rw [List.length_append],rfl,setRow_heap w g cur _ e _ hg',by rw [List.length_append]; exact hroom,hcm,?_,?_⟩⟩
    ·simp only [List.size_toArray, List.length_append, List.length_take, List.length_drop, Array.length_toList]
     rw [← hcs]; omega
    ·rw [htake', pP, List.length_append]
     have hxl':(cH xs').length = Ts.length * inf.size:=by rw [iC xs' hx1'.size,hx1'.length]
     have:(Ts.length + Us.length) * inf.size = (cH xs' ++ cH ys).length:=by rw [List.length_append,hxl',hyl,Nat.add_mul]
     rw [this]
     exact List.take_left
  ·have holds : ∀ (j : Nat) u, (cH xs)[j]? = some u → w.cell? ((⟨g, 0, none⟩ : Addr).add j) = some u := fun j u hu => by
    rw [fO,dM hg',Nat.zero_add]
    rw [← htake,List.getElem?_take] at hu
    split at hu
    ·simpa using hu
    ·cases hu
   have hr:=run_append_grow (P:=P) w t t' e inf z ht hi hz ⟨g,0,none⟩ Ts.length cp (cH xs) hxl holds ⟨b,ob,none⟩ Us.length cap (cH ys) hyl hnews (by omega) (by omega) (growslice_fits (by omega) hlen)
   exact ⟨_,_,hr,by simp,rfl,rfl,⟨rfl,Nat.le_succ _⟩,fun S _ _=>fresh _ cp S rfl (by omega)⟩
theorem nY {x y : Operand} {i s e : Nat} {v : Value} {Ts Us : List Ty} {inf : TypeInfo} {z : Value} {dd : Nat} (ht : P.underlying t = some (.slice e)) (hi : P.info? e = some inf) (hz : inf.zero = some z) (hsize : inf.size = s) (hzs : z.cells.size = s)
  (hx:aA E x (Is v)) (hy:aA E y (kT s Us)) (hH:H[i]? = some (bN e s v Ts)) (hne:Us ≠ []) (hEl:∀ T,T ∈ Us → El s T) (hlen:(Ts.length + Us.length) * inf.bytes ≤ 140737488355328) (h63:Ts.length + Us.length ≤ 9223372036854775807)
  (hn:Nat.blt dd n = true) {t':TypeId} (h:∀ v',Rg P R cx n ops rest k ((dd,Is v') :: E) (H.set i (bN e s v' (Ts ++ Us)))) :
  Rg P R cx n ops (⟨some dd,.call ⟨.builtin .append,#[x,y],#[t,t]⟩,t',pos,af,none⟩ :: rest) k E H:=by
 intro a w ⟨V,hinv,hs⟩
 unfold wpList
 rw [if_pos (by simp [Region.wanted])]
 left
 obtain ⟨v',w',hrun,hi'⟩:=rT (dd:=dd) (pos:=pos) (af:=af) (t':=t') ht hi hz hsize hzs hx hy hH hne hEl hlen h63 hinv hs
 simp only [Oper.wp,hrun,Oper.upon_value]
 exact h v' _ _ ⟨V,hi',hs.put (Nat.le_of_ble_eq_true hn) rfl⟩
theorem Fz {α:Type} (c u:List α) (p s N:Nat) (hu:u.length = s) (hps:p + s ≤ N) (hN:N ≤ c.length):(c.take p ++ u ++ c.drop (p + s)).take N = (c.take N).take p ++ u ++ (c.take N).drop (p + s):=by
 rw [List.take_append,List.take_of_length_le (by simp; omega),List.take_take,Nat.min_eq_left (by omega),List.drop_take]
 have:(c.take p ++ u).length = p + s:=by simp; omega
 rw [this]
def Tj (v:Value) (q:Nat):Ty:=⟨fun x _=>∃ g l c,v = .slice (some ⟨g,0,none⟩) l c ∧ x = .pointer (some ⟨g,q,none⟩),fun h _=>h⟩
theorem yK {e s:Nat} {v:Value} {Ts:List Ty} {S:List Nat} {m V:aO} (h:(bN e s v Ts).h S m V) (hne:0 < Ts.length):∃ g cap,v = .slice (some ⟨g,0,none⟩) Ts.length cap:=by
 obtain ⟨xs,_,h2⟩:=h
 rcases h2 with ⟨_,rfl,_⟩ | ⟨g,cap,cur,rfl,_⟩
 ·simp at hne
 ·exact ⟨g,cap,rfl⟩
theorem Fp {e s:Nat} {v:Value} {Ts:List Ty} {S:List Nat} {m V:aO} (h:(bN e s v Ts).h S m V):∃ a cap,v = .slice a Ts.length cap:=by
 obtain ⟨xs,_,h2⟩:=h
 rcases h2 with ⟨rfl,rfl,_⟩ | ⟨g,cap,cur,rfl,_⟩
 ·exact ⟨none,0,rfl⟩
 ·exact ⟨_,cap,rfl⟩
theorem kA {T : Ty} {i : Nat} {A : SA} (hH : H[i]? = some A) (h : ∀ (a : Act) (V : aO) (w : World) (S : List Nat), A.h S (hv w) V → (∀ b ob, V b = some ob → w.heap[b]? = some ob) → dA n E V a → ∃ v, (execOp a.eval o).run P w = .ok (.value v) w ∧ T.p v V) : aM P n E H o T :=
 fun cx X a w V hi hs K Q hK => by
  obtain ⟨S,hA⟩:=hi.hp.get hH
  obtain ⟨v,e1,e2⟩:=h a V w S hA hi.on hs
  simp only [Oper.wp,e1,Oper.upon_value]
  exact hK v w V hi (kC.refl V) e2
theorem oY {x : Operand} {i e s : Nat} {v : Value} {Ts : List Ty} {r : Int} {e' : TypeId} {ta : TypeId} (hU : ∀ w, (underlying ta).run P w = .ok (.slice e') w) (hx : aA E x (Is v)) (hH : H[i]? = some (bN e s v Ts)) (hl : (Ts.length : Int) = r) :
  aM P n E H ⟨d,.call ⟨.builtin .len,#[x],#[ta]⟩,t,pos,af,g⟩ (aF .i64 r) :=
 kA hH fun a V w S hA _ hs => by
  obtain ⟨ad,cap,rfl⟩:=Fp hA
  have e1:a.eval x = .slice ad Ts.length cap:=hx n V a hs
  refine ⟨.int .i64 r,?_,rfl⟩
  subst hl
  simp [execOp,resolve,e1,invoke,builtin,Builtin.len_,Sem.run_bind,hU,Result.andThen,goInt]
theorem iX {x j : Operand} {i e s q r : Nat} {v : Value} {Ts : List Ty} {kd : IntKind} {z : Int} {e' : TypeId} (hU : ∀ w, (underlying t).run P w = .ok (.slice e') w) (hS : ∀ w, (sizeOf e').run P w = .ok s w)
  (hx:aA E x (Is v)) (hj:aA E j (aF kd z)) (hz:z = (q:Int)) (hH:H[i]? = some (bN e s v Ts)) (hq:q < Ts.length) (hr:q * s = r) {t':TypeId}:aM P n E H ⟨d,.indexAddr t x j,t',pos,af,g⟩ (Tj v r) :=
 kA hH fun a V w S hA _ hs => by
  obtain ⟨gg,cap,rfl⟩:=yK hA (by omega)
  have e1:a.eval x = .slice (some ⟨gg,0,none⟩) Ts.length cap:=hx n V a hs
  have ei:a.eval j = .int kd z:=hj n V a hs
  refine ⟨.pointer (some ⟨gg,r,none⟩),?_,gg,_,cap,rfl,rfl⟩
  subst hr hz
  simp [execOp,e1,ei,Instr.indexAt,asIntOf,Sem.run_bind,hU,hS,Result.andThen,hq,fO]
theorem yI {e s : Nat} {v : Value} {Ts : List Ty} {S : List Nat} {w : World} {V : aO} (h : (bN e s v Ts).h S (hv w) V) (hne : 0 < Ts.length) : ∃ g cap xs, v = .slice (some ⟨g, 0, none⟩) Ts.length cap ∧ uG s Ts xs V ∧
  ∀ (j:Nat) u,(cH xs)[j]? = some u → w.cell? ⟨g,j,none⟩ = some u:=by
 obtain ⟨xs,h1,h2⟩:=h
 rcases h2 with ⟨_,rfl,_⟩ | ⟨g,cap,cur,rfl,rfl,hg,_,_,_,htake⟩
 ·simp at hne
 ·refine ⟨g, cap, xs, rfl, h1, fun j u hu => ?_⟩
  rw [dM (show w.heap[g]? = some (.cells cur e (0,0)) from hg)]
  rw [← htake,List.getElem?_take] at hu
  split at hu
  ·simpa using hu
  ·cases hu
theorem Hy {x : Operand} {i e s q r : Nat} {v : Value} {Ts : List Ty} {T : Ty} {gg : Bool} [hsh : dI T s gg] (hA : ∀ w, (isAgg t).run P w = .ok gg w) (hS : ∀ w, (sizeOf t).run P w = .ok s w)
  (hx:aA E x (Tj v r)) (hH:H[i]? = some (bN e s v Ts)) (hr:r = q * s) (hT:Ts[q]? = some T) {t':TypeId}:aM P n E H ⟨d,.load t x,t',pos,af,g⟩ T :=
 kA hH fun a V w S hR _ hs => by
  have hql:=(List.getElem?_eq_some_iff.1 hT).1
  obtain ⟨g1,cap,xs,rfl,hrow,hc⟩:=yI hR (by omega)
  obtain ⟨g2,l2,c2,e0,e1⟩:=hx n V a hs
  simp at e0; obtain ⟨rfl,_,_⟩:=e0
  obtain ⟨y,h1,h2,h3⟩:=hrow.get hT
  have := eP (P := P) (w := w) (b := g1) (o := r) hA hS (hsh.ok y V h2) (fun j u hu => by
   rw [hr]; exact hc _ _ (nB xs hrow.size q y h1 j u hu))
  exact ⟨y,by simp [execOp,e1,Instr.loadAt,Instr.sureAddr,Sem.run_bind,this,Result.andThen],h2⟩
theorem Ky {x y : Operand} {i e s q r : Nat} {v : Value} {Ts : List Ty} {T : Ty} (hS : ∀ w, (sizeOf t).run P w = .ok s w) (hx : aA E x (Tj v r)) (hy : aA E y T) (hEl : El s T)
  (hH:H[i]? = some (bN e s v Ts)) (hr:r = q * s) (hq:q < Ts.length) {t':TypeId} {H':Hp} (hH':H.set i (bN e s v (Ts.set q T)) = H') :
  ∀ (a:Act) (w:World) (V:aO),fN cx V H w → dA n E V a → ∃ w',(execOp a.eval ⟨none,.store t x y,t',pos,af,none⟩).run P w = .ok .skip w' ∧ fN cx V H' w':=fun a w V hi hs=>by
  have ey:=hy n V a hs
  generalize hve:a.eval y = u at ey
  have hus:=hEl.size u V ey
  have hup:=hEl.plain u V ey
  obtain ⟨S,hR⟩:=(show HH cx.w0.heap.size w V (H ++ []) by simpa using hi.hp).get hH
  obtain ⟨xs,hrow,h2⟩:=hR
  rcases h2 with ⟨_,rfl,_⟩ | ⟨g1,cap,cur,rfl,rfl,hg,hle,hcm,hcs,htake⟩
  ·simp at hq
  have hg':w.heap[g1]? = some (.cells cur e (0,0)):=hg
  obtain ⟨g2,l2,c2,e0,e1⟩:=hx n V a hs
  simp at e0; obtain ⟨rfl,_,_⟩:=e0
  have hlen:u.cells.toList.length = s:=by simpa using hus
  have hqs:q * s + s ≤ Ts.length * s:=by rw [← Nat.succ_mul]; exact Nat.mul_le_mul_right _ hq
  have hcl:Ts.length * s ≤ cur.size:=by rw [hcs]; exact Nat.mul_le_mul_right _ hle
  obtain ⟨w',q1,⟨c',q2,q2'⟩,q3,q4,q5,q6,q7⟩:=lD (P:=P) u.cells.toList r 0 w cur hg' (by omega) hup
  refine ⟨w',lX e1 hve ?_,?_⟩
  ·unfold storeVar
   rw [Sem.run_bind,hS]
   simp [Result.andThen,hus,q1]
  ·subst hH'
   refine hi.upd hH q4 q5 q6 q7 (fun S hS'=>?_)
   obtain ⟨xs',hrow',h2'⟩:=hS'
   rcases h2' with ⟨h0,_⟩ | ⟨g3,cap3,cur3,e3,rfl,hg3,_,_,_,htake'⟩
   ·cases h0
   simp at e3; obtain ⟨rfl,rfl⟩:=e3
   have hg4:w.heap[g1]? = some (.cells cur3 e (0,0)):=hg3
   rw [hg'] at hg4; simp at hg4; subst hg4
   refine ⟨fun b hb=>q3 b (by simpa using hb),xs'.set q u,hrow'.set q ey hEl,.inr ⟨g1,cap,c',by simp,rfl,q2,by simpa using hle,hcm,?_,?_⟩⟩
   ·have : c'.toList.length = cur.toList.length := by
     rw [q2']; simp only [List.length_append,List.length_take,List.length_drop,Array.length_toList]; omega
    simpa [hcs] using this
   ·rw [Ep xs' hrow'.size q u hus (by rw [hrow'.length]; exact hq), q2', List.length_set, ← htake', ← hr]
    simp only [Nat.add_zero,hlen]
    exact Fz _ _ _ _ _ hlen (by omega) (by simpa using hcl)
theorem rF {x y : Operand} {i e s q r : Nat} {v : Value} {Ts : List Ty} {T : Ty} (hS : ∀ w, (sizeOf t).run P w = .ok s w) (hx : aA E x (Tj v r)) (hy : aA E y T) (hEl : El s T)
  (hH:H[i]? = some (bN e s v Ts)) (hr:r = q * s) (hq:q < Ts.length) {t':TypeId} {H':Hp} (hH':H.set i (bN e s v (Ts.set q T)) = H') (h:Rg P R cx n ops rest k E H') :
  Rg P R cx n ops (⟨none,.store t x y,t',pos,af,none⟩ :: rest) k E H :=
 uF (Ky hS hx hy hEl hH hr hq hH') h
end
end
section
open Go Go.RowKit
section
variable {P:Program} {R:eA} {cx:Cx} {n:Nat} {k:List It} {E:cB} {H:Hp} {ops:Array Oper} {o:Oper} {rest:List Oper}
variable {d:Option Tmp} {t:TypeId} {pos:String} {af:Array Edge} {g:Option (Nat × Bool)}
theorem Xf {x i : Operand} {s : ByteArray} {kd : IntKind} {q b : Nat} (hU : ∀ w, (underlying t).run P w = .ok .string w) (hx : aA E x (Is (.string s))) (hi : aA E i (NT kd q)) (hb : (s[q]?).map UInt8.toNat = some b) {t' : TypeId} :
  aM P n E H ⟨d,.index t x i,t',pos,af,g⟩ (NT .u8 b) :=
 dF fun a V w hs => by
  have e1:a.eval x = .string s:=hx n V a hs
  have ei:a.eval i = .int kd (q:Int):=hi n V a hs
  refine ⟨.int .u8 b,?_,rfl⟩
  cases hq:s[q]? with
  | none=>rw [hq] at hb; cases hb
  | some c =>
   rw [hq] at hb
   simp at hb; subst hb
   simp [execOp,e1,ei,Instr.index,asIntOf,Sem.run_bind,hU,Result.andThen,hq]
theorem rZ : ∀ (l : List Value), (∀ x, x ∈ l → jA x) → cH l = l
 | [],_=>rfl
 | x :: l, h => by
  have e:cH (x :: l) = x.cells.toList ++ cH l:=by simp [cH]
  rw [e,(h x (by simp)).cells,rZ l (fun y hy=>h y (by simp [hy]))]
  rfl
theorem Tl {x y : Operand} {i B l cap dd : Nat} {BT e ta tb : TypeId} {Ts Us Ws : List Ty} (hU : ∀ w, (underlying ta).run P w = .ok (.slice e) w) (hS : ∀ w, (sizeOf e).run P w = .ok 1 w)
  (hx:aA E x (Is (.slice (some ⟨B,0,none⟩) l cap))) (hy:aA E y (kT 1 Us)) (hne:Us ≠ []) (hsh:∀ T,T ∈ Us → dI T 1 false) (hH:H[i]? = some (box B BT Ts)) (hl:l ≤ Ts.length) (hul:Us.length ≤ l)
  (hW:Us ++ Ts.drop Us.length = Ws) {H':Hp} (hH':H.set i (box B BT Ws) = H') (hn:Nat.blt dd n = true) {t':TypeId} (h:Rg P R cx n ops rest k ((dd,mA) :: E) H') :
  Rg P R cx n ops (⟨some dd,.call ⟨.builtin .copy,#[x,y],#[ta,tb]⟩,t',pos,af,none⟩ :: rest) k E H:=by
 intro a w ⟨V,hinv,hs⟩
 unfold wpList
 rw [if_pos (by simp [Region.wanted])]
 left
 have ex:a.eval x = .slice (some ⟨B,0,none⟩) l cap:=hx n V a hs
 obtain ⟨b,ob,cp,ys,ey,_,hrow,hcells⟩:=kT.row (hy n V a hs) hne (fun T hT=>@El.one T (hsh T hT))
 have hnews:=hcells w hinv.on
 have hpl : ∀ x, x ∈ ys → jA x := fun x hx => by
  obtain ⟨T,h1,h2⟩:=hrow.all.mem x hx
  exact ((hsh T h1).ok x V h2).2.2 rfl
 rw [rZ ys hpl] at hnews
 have hyl:ys.length = Us.length * 1:=by rw [hrow.length,Nat.mul_one]
 obtain ⟨S,hB⟩:=(show HH cx.w0.heap.size w V (H ++ []) by simpa using hinv.hp).get hH
 obtain ⟨_,cs,e2,e3⟩:=hB
 have e2':w.heap[B]? = some (.cells cs.toArray BT (0,0)):=e2
 obtain ⟨w',q1,⟨c',q2,q2'⟩,q3,q4,q5,q6,q7⟩:=lD (P:=P) ys 0 0 w cs.toArray e2' (by simp [e3.length]; omega) hpl
 have hf:=run_firstCells_some (P:=P) w 1 Us.length ⟨b,ob,none⟩ Us.length cp ys hyl hnews
 have hmin:Nat.min Us.length l = Us.length:=Nat.min_eq_left hul
 have hrun : (execOp a.eval ⟨some dd, .call ⟨.builtin .copy, #[x, y], #[ta, tb]⟩, t', pos, af, none⟩).run P w = .ok (.value (goInt Us.length)) w' := by
  simp [execOp,resolve,invoke,builtin,ex,ey,Builtin.copy_,Builtin.lenOf,Sem.run_bind,hU,hS,Result.andThen,hmin,hf,q1]
 simp only [Oper.wp,hrun,Oper.upon_value]
 subst hH'
 refine h _ _ ⟨V,hinv.upd hH q4 q5 q6 q7 (fun S hS'=>?_),hs.put (Nat.le_of_ble_eq_true hn) trivial⟩
 obtain ⟨rfl,cs',e4,e5⟩:=hS'
 have hcs : cs' = cs := by
  have h1:w.heap[B]? = some (.cells cs'.toArray BT (0,0)):=e4
  rw [e2'] at h1; simpa using h1.symm
 subst hcs
 refine ⟨fun b hb=>q3 b (by simpa using hb),rfl,c'.toList,by show w'.heap[B]? = _; simpa using q2,?_⟩
 rw [q2',← hW]
 simp only [Nat.add_zero,List.take_zero,List.nil_append,Nat.zero_add,hrow.length]
 exact (⟨hrow.all,hpl⟩:eE Us ys V).append (e5.drop Us.length)
end
end
section
open Go Go.RowKit
theorem Cy {a b:Nat} (hb:b < BB):a * 2 ^ 32 ||| b = a * BB + b:=by
 rw [Nat.mul_comm a,← Nat.two_pow_add_eq_or_of_lt (i:=32) hb a,Nat.mul_comm]; rfl
theorem Xi {a b:Nat} (ha:a < BB):a ||| b * 2 ^ 32 = a + BB * b:=by
 rw [Nat.or_comm,Cy ha,Nat.add_comm,Nat.mul_comm]
theorem Nb {x r:Nat} (hx:x < BB) (hr:r < 32):x * 2 ^ r < 18446744073709551616:=by
 have h1:2 ^ r ≤ BB:=by rw [rR]; exact Nat.pow_le_pow_right (by decide) (by omega)
 have h2:x * 2 ^ r ≤ x * BB:=Nat.mul_le_mul_left _ h1
 simp only [BB] at *
 omega
theorem Sc (l:List Nat) (i d j e:Nat):((l.map cP).set i (cP d)).set j (cP e) = ((l.set i d).set j e).map cP:=by rw [jD,jD]
theorem Nc {r x y:Nat} (hr:r < y) (hx:x < BB):(r * BB + x) / y < 4294967296:=Fs hr hx
def Ke:List Nat:=(List.range 256).map bl
theorem a2a {q:Nat} (h:q < 256) {s:ByteArray} (hs:s.data.toList.map UInt8.toNat = Ke):(s[q]?).map UInt8.toNat = some (bl q):=by
 have h1:(s.data.toList.map UInt8.toNat)[q]? = some (bl q):=by rw [hs]; simp [Ke,h]
 simp at h1
 obtain ⟨b,h2,h3⟩:=h1
 have hl:q < s.data.size:=(Array.getElem?_eq_some_iff.1 h2).1
 have h4 : s[q]? = some b := by
  rw [getElem?_pos s q hl]
  simp [Array.getElem?_eq_some_iff.1 h2 |>.2,ByteArray.getElem_eq_getElem_data]
 rw [h4]; simp [h3]
theorem a22 {v:Nat} (h:65536 ≤ v):bl v = 16 + bl (v / 2 ^ 16):=by
 rw [Nat.add_comm]; exact Dx (by have:=Nat.div_le_div_right (c:=2 ^ 16) h; omega)
theorem bl8 {v:Nat} (h:256 ≤ v):bl v = 8 + bl (v / 2 ^ 8):=by
 rw [Nat.add_comm]; exact Dx (by have:=Nat.div_le_div_right (c:=2 ^ 8) h; omega)
end
section
open Go Go.RowKit
theorem a1x {n k:Nat} (h:BB ^ k ≤ n):k < (dg n).length:=by
 rcases Nat.lt_or_ge k (dg n).length with h1 | h1
 ·exact h1
 ·have h2 := iP (cO n)
  rw [eR] at h2
  have:=Nat.pow_le_pow_right dR h1
  omega
theorem a0i {n:Nat} (h:n ≠ 0):(dg n).getD ((dg n).length - 1) 0 ≠ 0:=by
 have hl:(dg n).length ≠ 0:=fun e=>h (bD.1 e)
 have h1:(dg n).getLast? = some ((dg n)[(dg n).length - 1]'(by omega)):=by rw [List.getLast?_eq_getElem?]; simp [show (dg n).length - 1 < (dg n).length by omega]
 have:=Jw h1
 rw [gT (by omega)]; exact this
theorem a0h {n:Nat} (h:(dg n).length = 1):(dg n).getD 0 0 = n:=by
 have h1:=dT (dg n) 0
 rw [List.drop_zero,eR,List.drop_eq_nil_of_le (by omega)] at h1
 simp only [val] at h1
 omega
theorem Yi {l:List Nat} (h:1 ≤ l.length):val l = val (l.take (l.length - 1)) + BB ^ (l.length - 1) * l.getD (l.length - 1) 0:=by
 have:=jR l (k:=l.length - 1) (by omega)
 rw [dT,show l.length - 1 + 1 = l.length by omega,List.drop_length] at this
 simp only [val,Nat.mul_zero,Nat.add_zero] at this
 exact this
theorem Pu {n s : Nat} (hn : n ≠ 0) (hs : s = 32 - bl ((dg n).getD ((dg n).length - 1) 0)) :
  s ≤ 31 ∧ (dg (n * 2 ^ s)).length = (dg n).length ∧ BB ≤ 2 * (dg (n * 2 ^ s)).getD ((dg (n * 2 ^ s)).length - 1) 0:=by
 have hl:(dg n).length ≠ 0:=fun e=>hn (bD.1 e)
 have ht:=a0i hn
 have hd:=bH (cO n) ((dg n).length - 1)
 have hv:=Yi (l:=dg n) (by omega)
 have hlo:=iP ((cO n).take' ((dg n).length - 1))
 rw [eR] at hv
 rw [List.length_take,Nat.min_eq_left (by omega)] at hlo
 generalize (dg n).getD ((dg n).length - 1) 0 = y at *
 generalize val (List.take ((dg n).length - 1) (dg n)) = lo at *
 generalize hL:(dg n).length = L at *
 obtain ⟨b1,b2,b3,b4⟩:=Sz ht hd
 rw [← hs] at b2 b3
 have hb:=Jg y
 have hy : (y + 1) * 2 ^ s ≤ BB := by
  have:(y + 1) * 2 ^ s ≤ 2 ^ bl y * 2 ^ s:=Nat.mul_le_mul_right _ hb
  rw [← Nat.pow_add,show bl y + s = 32 by omega] at this
  exact this
 have hp:=lV (L - 1)
 have h2:0 < 2 ^ s:=Nat.pow_pos (by decide)
 have e:BB ^ L = BB ^ (L - 1) * BB:=by rw [← Nat.pow_succ]; congr 1; omega
 have hup : n * 2 ^ s < BB ^ L := by
  have h3:n < BB ^ (L - 1) * (y + 1):=by rw [Nat.mul_add,Nat.mul_one]; omega
  have h4:n * 2 ^ s < BB ^ (L - 1) * (y + 1) * 2 ^ s:=Nat.mul_lt_mul_of_pos_right h3 h2
  have h5:BB ^ (L - 1) * ((y + 1) * 2 ^ s) ≤ BB ^ (L - 1) * BB:=Nat.mul_le_mul_left _ hy
  rw [← Nat.mul_assoc] at h5
  omega
 have hdn : BB ^ (L - 1) * (y * 2 ^ s) ≤ n * 2 ^ s := by
  rw [← Nat.mul_assoc]; exact Nat.mul_le_mul_right _ (by omega)
 have hpos:0 < y * 2 ^ s:=Nat.mul_pos (by omega) h2
 have hlen : (dg (n * 2 ^ s)).length = L := by
  have h6:=iT hup
  have h7:=a1x (n:=n * 2 ^ s) (k:=L - 1) (Nat.le_trans (Nat.le_mul_of_pos_right _ hpos) hdn)
  omega
 refine ⟨by omega,hlen,?_⟩
 rw [hlen]
 have h8:=gU (cO (n * 2 ^ s)) (L - 1)
 rw [dT,List.drop_eq_nil_of_le (by omega),eR] at h8
 simp only [val,Nat.mul_zero,Nat.add_zero] at h8
 have h9:y * 2 ^ s ≤ n * 2 ^ s / BB ^ (L - 1):=(Nat.le_div_iff_mul_le hp).2 (by rw [Nat.mul_comm]; exact hdn)
 rw [h8]; omega
def Ak (m s:Nat):List Nat:=dg (m * 2 ^ s) ++ (List.replicate ((dg m).length + 1) 0).drop (dg (m * 2 ^ s)).length
theorem Pn {m s:Nat} (hs:s ≤ 31):(dg (m * 2 ^ s)).length ≤ (dg m).length + 1 ∧ (Ak m s).length = (dg m).length + 1 ∧ jE (Ak m s) ∧ val (Ak m s) = m * 2 ^ s:=by
 have h1 : (dg (m * 2 ^ s)).length ≤ (dg m).length + 1 := by
  refine iT ?_
  have h2:=iP (cO m)
  rw [eR] at h2
  have h3:(2:Nat) ^ s ≤ BB:=by rw [rR]; exact Nat.pow_le_pow_right (by decide) (by omega)
  exact Nat.lt_of_lt_of_le (Nat.mul_lt_mul_of_pos_right h2 (Nat.pow_pos (by decide))) (Nat.mul_le_mul_left _ h3)
 refine ⟨h1,by simp [Ak]; omega,fun d hd=>?_,?_⟩
 ·rcases List.mem_append.1 hd with h | h
  ·exact cO _ d h
  ·exact kI _ d (List.mem_of_mem_drop h)
 ·rw [Ak,jK,eR,List.drop_replicate,pE,Nat.mul_zero,Nat.add_zero]
theorem Po (l:List Nat) (k:Nat):l.map cP ++ (List.replicate k (cP 0)).drop (l.map cP).length = (l ++ (List.replicate k 0).drop l.length).map cP:=by simp
theorem Vk (l : List Nat) (k : Nat) : ∀ v V, (kT 1 (List.take ((k : Int)).toNat (List.map cP l))).p v V → (Do (l.take k)).p v V := fun v V h => by
 rw [Do,List.map_take]; exact h
theorem a1U {l : List Nat} : ∀ T, T ∈ l.map cP → dI T 1 false := fun T hT => by
 obtain ⟨d,_,rfl⟩:=List.mem_map.1 hT
 exact inferInstance
theorem a0v {l:List Nat} (h:l.length ≠ 0):l.map cP ≠ []:=fun e=>h (by have:=congrArg List.length e; simpa using this)
theorem uD {l:List Nat} {k:Nat} (h:val l < BB ^ k) (hk:k ≤ l.length):val (l.take k) = val l:=by
 have h1:=jR l hk
 have h2 : val (l.drop k) = 0 := by
  rcases Nat.eq_zero_or_pos (val (l.drop k)) with h3 | h3
  ·exact h3
  ·have := Nat.mul_le_mul_left (BB ^ k) h3
   omega
 rw [h2] at h1; omega
theorem a1I {a b:Nat} (ha:a < 4294967296) (hb:b < 4294967296):a * b < 18446744073709551616:=by
 have:=Nat.mul_le_mul (Nat.le_of_lt_succ ha) (Nat.le_of_lt_succ hb)
 omega
theorem Zn {a:Nat} (ha:a < BB):a * 2 ^ 32 < 18446744073709551616:=by
 show a * BB < _
 simp only [BB] at ha ⊢; omega
theorem a1Z {a b:Nat} (ha:a < BB) (hb:b < BB):a * BB + b < 18446744073709551616:=by
 simp only [BB] at ha hb ⊢; omega
theorem nK.gpos {X k:Nat} {vs us qs out:List Nat} (h:nK X vs us qs k) (hv:jE vs) {j g:Nat} (hj:k = j + 1) (hl:j + vs.length < us.length) (ht:Dw us vs g j out true):0 < g:=by
 rcases Nat.eq_zero_or_pos g with e | e
 ·exfalso
  subst e
  have hs:=ht.sum
  simp at hs
  have hz:∀ l,j + vs.length < l → out.getD l 0 = 0:=fun l hl2=>by rw [ht.high l hl2]; exact h.high hv l (by omega)
  have h1:=jR out (k:=j + vs.length + 1) (by rw [ht.len]; omega)
  have h2:=iP (ht.dig.take' (j + vs.length + 1))
  rw [List.length_take,Nat.min_eq_left (by rw [ht.len]; omega)] at h2
  have h3 : val (out.drop (j + vs.length + 1)) = 0 := by
   have : out.drop (j + vs.length + 1) = List.replicate (out.drop (j + vs.length + 1)).length 0 := by
    apply List.ext_getElem
    ·simp
    ·intro q q1 q2
     have:=hz (j + vs.length + 1 + q) (by omega)
     simp at q1
     rw [gT (by omega)] at this
     simp [this]
   rw [this,pE]
  rw [h3] at h1
  omega
 ·exact e
end
section
def pL (n:Nat):List Nat:=if h:n = 0 then [] else (48 + n % 10) :: pL (n / 10)
decreasing_by exact Nat.div_lt_self (Nat.pos_of_ne_zero h) (by decide)
theorem qQ:pL 0 = []:=by rw [pL]; simp
theorem pN {n:Nat} (h:n ≠ 0):pL n = (48 + n % 10) :: pL (n / 10):=by rw [pL]; simp [h]
def xM (n:Nat):List Nat:=if n = 0 then [48] else (pL n).reverse
structure Bj (N:Nat) (out:List Nat) (x:Nat):Prop where
 sum:pL N = out ++ pL x
structure wY (N:Nat) (out:List Nat) (x r k:Nat):Prop where
 kle:k ≤ 9
 rlt:r < 10 ^ (9 - k)
 sum:pL N = out ++ pL (x * 10 ^ (9 - k) + r)
theorem Bj.start (N:Nat):Bj N [] N:=⟨rfl⟩
theorem Bj.inner {N x : Nat} {out : List Nat} (h : Bj N out x) : wY N out (x / 1000000000) (x % 1000000000) 0 :=
 ⟨by decide,Nat.mod_lt _ (by decide),by rw [h.sum]; congr 2; show x = x / 1000000000 * 1000000000 + _; omega⟩
theorem wY.next {N x r k:Nat} {out:List Nat} (h:wY N out x r k) (hk:k < 9) (hp:0 < x ∨ 0 < r):wY N (out ++ [48 + r % 10]) x (r / 10) (k + 1):=by
 have e:10 ^ (9 - k) = 10 * 10 ^ (9 - (k + 1)):=by rw [show 9 - k = (9 - (k + 1)) + 1 by omega,Nat.pow_succ,Nat.mul_comm]
 have pp:0 < 10 ^ (9 - (k + 1)):=Nat.pow_pos (by decide)
 have hr:=h.rlt
 rw [e] at hr
 refine ⟨hk,Nat.div_lt_of_lt_mul hr,?_⟩
 have hs:=h.sum
 rw [e,← Nat.mul_assoc,Nat.mul_comm x 10,Nat.mul_assoc] at hs
 have hne : 10 * (x * 10 ^ (9 - (k + 1))) + r ≠ 0 := by
  rcases hp with h1 | h1
  ·have:=Nat.mul_pos h1 pp; omega
  ·omega
 rw [hs,pN hne,List.append_assoc,List.singleton_append]
 rw [show (10 * (x * 10 ^ (9 - (k + 1))) + r) % 10 = r % 10 by omega,show (10 * (x * 10 ^ (9 - (k + 1))) + r) / 10 = x * 10 ^ (9 - (k + 1)) + r / 10 by omega]
theorem wY.fin {N x r k:Nat} {out:List Nat} (h:wY N out x r k) (hs:¬ (k < 9 ∧ (0 < x ∨ 0 < r))):Bj N out x:=by
 refine ⟨?_⟩
 have h1:=h.sum
 have hr:=h.rlt
 by_cases hk:k < 9
 ·have hx : x = 0 := by omega
  have hr0:r = 0:=by omega
  subst hx hr0
  simpa using h1
 ·have : k = 9 := by have := h.kle; omega
  subst this
  have:r = 0:=by simpa using hr
  subst this
  simpa using h1
theorem Bj.fin {N:Nat} {out:List Nat} (h:Bj N out 0):pL N = out:=by rw [h.sum,qQ,List.append_nil]
theorem Pt {n L:Nat} (h:n < 10 ^ L):(pL n).length ≤ L:=by
  induction L generalizing n with
  | zero => have : n = 0 := by simpa using h
            rw [this,qQ]; exact Nat.zero_le _
  | succ L ih =>
    by_cases h0:n = 0
    · rw [h0,qQ]; exact Nat.zero_le _
    · rw [pN h0, List.length_cons]
      exact Nat.succ_le_succ (ih (Nat.div_lt_of_lt_mul (by rw [Nat.pow_succ,Nat.mul_comm] at h; exact h)))
theorem Ps:∀ {n:Nat} {d:Nat},d ∈ pL n → 48 ≤ d ∧ d ≤ 57:=by
 intro n
 induction n using Nat.strongRecOn with
 | _ n ih =>
  intro d hd
  by_cases h0:n = 0
  ·rw [h0,qQ] at hd; cases hd
  ·rw [pN h0] at hd
   rcases List.mem_cons.1 hd with h | h
   ·have:=Nat.mod_lt n (by decide:10 > 0); omega
   ·exact ih _ (Nat.div_lt_self (Nat.pos_of_ne_zero h0) (by decide)) h
end
section
open Go Go.RowKit
def Sp (A1 A2:SA) (S:List Nat) (m V:aO):Prop:=∃ S1 S2,A1.h S1 m V ∧ A2.h S2 m V ∧ (∀ b,b ∈ S1 → b ∈ S2 → False) ∧ ∀ b,b ∈ S ↔ b ∈ S1 ∨ b ∈ S2
theorem HH.split {γ : Type} {base : Nat} {w : World} {V : aO} {H : Hp} {i : Nat} {A : SA} {A1 A2 : γ → SA} (h : HH base w V H) (hA : H[i]? = some A) (hs : ∀ S, A.h S (hv w) V → ∃ x, Sp (A1 x) (A2 x) S (hv w) V) :
  ∃ x,HH base w V (H.set i (A1 x) ++ [A2 x]):=by
 obtain ⟨F,h1,h2⟩:=h
 have hil:=(List.getElem?_eq_some_iff.1 hA).1
 obtain ⟨x,S1,S2,k1,k2,k3,k4⟩:=hs _ (h1 i A hA).1
 have hin:=(h1 i A hA).2
 refine ⟨x,fun j=>if j = i then S1 else if j = H.length then S2 else F j,fun j B hB=>?_,fun j l b hj hl hbj hbl=>?_⟩
 ·by_cases e : j = i
  ·subst e
   rw [List.getElem?_append_left (by simpa using hil)] at hB
   simp [hil] at hB; subst hB
   simp only [if_pos]
   exact ⟨k1,fun b hb=>hin b ((k4 b).2 (.inl hb))⟩
  ·by_cases e2 : j = H.length
   ·subst e2
    rw [List.getElem?_append_right (by simp)] at hB
    simp at hB; subst hB
    simp only [if_neg e,if_pos]
    exact ⟨k2,fun b hb=>hin b ((k4 b).2 (.inr hb))⟩
   ·have hl : j < H.length := by
     have:=(List.getElem?_eq_some_iff.1 hB).1
     simp at this; omega
    rw [List.getElem?_append_left (by simpa using hl),List.getElem?_set_ne (fun x=>e x.symm)] at hB
    simp only [if_neg e,if_neg e2]
    exact h1 j B hB
 ·simp at hj hl
  have key : ∀ q, q < H.length + 1 → b ∈ (if q = i then S1 else if q = H.length then S2 else F q) → (q = i ∧ b ∈ S1) ∨ (q = H.length ∧ b ∈ S2 ∧ q ≠ i) ∨ (q ≠ i ∧ q < H.length ∧ b ∈ F q) := fun q hq hb => by
   by_cases e:q = i
   ·rw [if_pos e] at hb; exact .inl ⟨e,hb⟩
   ·rw [if_neg e] at hb
    by_cases e2:q = H.length
    ·rw [if_pos e2] at hb; exact .inr (.inl ⟨e2,hb,e⟩)
    ·rw [if_neg e2] at hb; exact .inr (.inr ⟨e,by omega,hb⟩)
  rcases key j hj hbj with ⟨e,q⟩ | ⟨e,q,_⟩ | ⟨e,e',q⟩ <;> rcases key l hl hbl with ⟨f,r⟩ | ⟨f,r,_⟩ | ⟨f,f',r⟩
  ·omega
  ·exact (k3 b q r).elim
  ·exact absurd (h2 i l b hil f' ((k4 b).2 (.inl q)) r) (fun x=>f x.symm)
  ·exact (k3 b r q).elim
  ·omega
  ·exact absurd (h2 i l b hil f' ((k4 b).2 (.inr q)) r) (fun x=>f x.symm)
  ·exact absurd (h2 j i b e' hil q ((k4 b).2 (.inl r))) e
  ·exact absurd (h2 j i b e' hil q ((k4 b).2 (.inr r))) e
  ·exact h2 j l b e' f' q r
theorem HH.join {base : Nat} {w : World} {V : aO} {H : Hp} {i j : Nat} {A A1 A2 : SA} (h : HH base w V H) (h1' : H[i]? = some A1) (h2' : H[j]? = some A2) (hne : i ≠ j)
  (hs:∀ S S1 S2,A1.h S1 (hv w) V → A2.h S2 (hv w) V → (∀ b,b ∈ S1 → b ∈ S2 → False) → (∀ b,b ∈ S ↔ b ∈ S1 ∨ b ∈ S2) → A.h S (hv w) V):HH base w V ((H.set i A).set j SA.emp):=by
 obtain ⟨F,h1,h2⟩:=h
 have hil:=(List.getElem?_eq_some_iff.1 h1').1
 have hjl:=(List.getElem?_eq_some_iff.1 h2').1
 refine ⟨fun q=>if q = j then [] else if q = i then F i ++ F j else F q,fun q B hB=>?_,fun q l b hq hl hbq hbl=>?_⟩
 ·by_cases e : q = j
  ·subst e
   simp [hjl] at hB; subst hB
   simp only [if_pos]
   exact ⟨rfl,by simp⟩
  ·rw [List.getElem?_set_ne (fun x => e x.symm)] at hB
   by_cases e2:q = i
   ·subst e2
    simp [hil] at hB; subst hB
    simp only [if_neg e,if_pos]
    refine ⟨hs _ _ _ (h1 q _ h1').1 (h1 j _ h2').1 (fun b p r=>hne (h2 q j b hil hjl p r)) (fun b=>List.mem_append),fun b hb=>?_⟩
    exact (List.mem_append.1 hb).elim ((h1 q _ h1').2 b) ((h1 j _ h2').2 b)
   ·rw [List.getElem?_set_ne (fun x => e2 x.symm)] at hB
    simp only [if_neg e,if_neg e2]
    exact h1 q B hB
 ·simp at hq hl
  have key : ∀ q, q < H.length → b ∈ (if q = j then [] else if q = i then F i ++ F j else F q) → (q = i ∧ q ≠ j ∧ (b ∈ F i ∨ b ∈ F j)) ∨ (q ≠ i ∧ q ≠ j ∧ b ∈ F q) := fun q hq hb => by
   by_cases e:q = j
   ·rw [if_pos e] at hb; cases hb
   ·rw [if_neg e] at hb
    by_cases e2:q = i
    ·rw [if_pos e2] at hb; exact .inl ⟨e2,e,List.mem_append.1 hb⟩
    ·rw [if_neg e2] at hb; exact .inr ⟨e2,e,hb⟩
  rcases key q hq hbq with ⟨e,e',p⟩ | ⟨e,e',p⟩ <;> rcases key l hl hbl with ⟨f,f',r⟩ | ⟨f,f',r⟩
  ·omega
  ·exact p.elim (fun p=>absurd (h2 i l b hil hl p r) (fun x=>f x.symm)) (fun p=>absurd (h2 j l b hjl hl p r) (fun x=>f' x.symm))
  ·exact r.elim (fun r=>absurd (h2 q i b hq hil p r) e) (fun r=>absurd (h2 q j b hq hjl p r) e')
  ·exact h2 q l b hq hl p r
theorem fP.split {X:Hp} {q:Nat} {A:SA} {S:List Nat} {m V:aO} (h:(fP X).h S m V) (hA:X[q]? = some A):Sp (fP (X.set q SA.emp)) A S m V:=by
 obtain ⟨F,h1,h2,h3⟩:=h
 have hq:=(List.getElem?_eq_some_iff.1 hA).1
 refine ⟨(List.range X.length).flatMap (fun j=>if j = q then [] else F j),F q,⟨fun j=>if j = q then [] else F j,fun j B hB=>?_,fun i j b hi hj hbi hbj=>?_,fun b=>by simp [List.mem_flatMap]⟩,h1 q A hA,fun b hb hb'=>?_,fun b=>?_⟩
 ·by_cases e : j = q
  ·subst e
   simp [hq] at hB; subst hB
   simp only [if_pos]; rfl
  ·rw [List.getElem?_set_ne (fun x => e x.symm)] at hB
   simp only [if_neg e]; exact h1 j B hB
 ·simp at hi hj
  by_cases ei:i = q
  ·simp [ei] at hbi
  ·by_cases ej : j = q
   ·simp [ej] at hbj
   ·simp only [if_neg ei] at hbi; simp only [if_neg ej] at hbj
    exact h2 i j b hi hj hbi hbj
 ·simp only [List.mem_flatMap, List.mem_range] at hb
  obtain ⟨j,hj,hb⟩:=hb
  by_cases e:j = q
  ·simp [e] at hb
  ·simp only [if_neg e] at hb
   exact e (h2 j q b hj hq hb hb')
 ·rw [h3 b]
  simp only [List.mem_flatMap,List.mem_range]
  constructor
  ·rintro ⟨i, hi, hb⟩
   by_cases e:i = q
   ·exact .inr (e ▸ hb)
   ·exact .inl ⟨i,hi,by simpa [e] using hb⟩
  ·rintro (⟨j, hj, hb⟩ | hb)
   ·by_cases e : j = q
    ·simp [e] at hb
    ·exact ⟨j,hj,by simpa [e] using hb⟩
   ·exact ⟨q,hq,hb⟩
theorem fP.join {X:Hp} {q:Nat} {A:SA} {S S1 S2:List Nat} {m V:aO} (h:(fP (X.set q SA.emp)).h S1 m V) (hq:q < X.length) (hA:A.h S2 m V) (hd:∀ b,b ∈ S1 → b ∈ S2 → False) (hS:∀ b,b ∈ S ↔ b ∈ S1 ∨ b ∈ S2):(fP (X.set q A)).h S m V:=by
 obtain ⟨F,h1,h2,h3⟩:=h
 have hFq:F q = []:=h1 q SA.emp (by simp [hq])
 simp only [List.length_set] at h2 h3
 refine ⟨fun j=>if j = q then S2 else F j,fun j B hB=>?_,fun i j b hi hj hbi hbj=>?_,fun b=>?_⟩
 ·by_cases e : j = q
  ·subst e
   simp [hq] at hB; subst hB
   simp only [if_pos]; exact hA
  ·rw [List.getElem?_set_ne (fun x => e x.symm)] at hB
   simp only [if_neg e]
   exact h1 j B (by rw [List.getElem?_set_ne (fun x=>e x.symm)]; exact hB)
 ·simp only [List.length_set] at hi hj
  by_cases ei:i = q <;> by_cases ej:j = q
  ·omega
  ·simp only [if_pos ei] at hbi; simp only [if_neg ej] at hbj
   exact (hd b ((h3 b).2 ⟨j,hj,hbj⟩) hbi).elim
  ·simp only [if_neg ei] at hbi; simp only [if_pos ej] at hbj
   exact (hd b ((h3 b).2 ⟨i,hi,hbi⟩) hbj).elim
  ·simp only [if_neg ei] at hbi; simp only [if_neg ej] at hbj
   exact h2 i j b hi hj hbi hbj
 ·rw [hS b, h3 b]
  simp only [List.length_set]
  constructor
  ·rintro (⟨j, hj, hb⟩ | hb)
   ·by_cases e : j = q
    ·subst e; rw [hFq] at hb; cases hb
    ·exact ⟨j,hj,by simpa [e] using hb⟩
   ·exact ⟨q,hq,by simpa using hb⟩
  ·rintro ⟨j, hj, hb⟩
   by_cases e:j = q
   ·exact .inr (by simpa [e] using hb)
   ·exact .inl ⟨j,hj,by simpa [e] using hb⟩
def mx (B:Nat) (BT:TypeId) (e s:Nat) (vs:List Value) (Rs:List (List Ty)):Hp:=box B BT (vs.map Is) :: List.zipWith (bN e s) vs Rs
def tF (q:Value → Prop) (B:Nat) (BT:TypeId) (e s:Nat) (Rs:List (List Ty)):SA where
 h S m V:=∃ vs:List Value,(vs.length = Rs.length ∧ ∀ v,v ∈ vs → q v) ∧ (fP (mx B BT e s vs Rs)).h S m V
 loc:=fun ⟨vs,h1,h2⟩ k=>⟨vs,h1,SA.loc _ h2 k⟩
 mono:=fun ⟨vs,h1,h2⟩ k=>⟨vs,h1,SA.mono _ h2 k⟩
def vN (q:Value → Prop) (B:Nat) (BT:TypeId) (e s:Nat) (Rs:List (List Ty)) (i:Nat) (v:Value):SA where
 h S m V:=∃ vs:List Value,(vs.length = Rs.length ∧ ∀ j u,vs[j]? = some u → j ≠ i → q u) ∧ vs[i]? = some v ∧ (fP ((mx B BT e s vs Rs).set (i + 1) SA.emp)).h S m V
 loc:=fun ⟨vs,h1,h0,h2⟩ k=>⟨vs,h1,h0,SA.loc _ h2 k⟩
 mono:=fun ⟨vs,h1,h0,h2⟩ k=>⟨vs,h1,h0,SA.mono _ h2 k⟩
abbrev nL (B:Nat) (BT:TypeId) (e s:Nat) (Rs:List (List Ty)):SA:=tF (fun _=>True) B BT e s Rs
abbrev Fa (B:Nat) (BT:TypeId) (e s:Nat) (Rs:List (List Ty)) (i:Nat) (v:Value):SA:=vN (fun _=>True) B BT e s Rs i v
theorem Qx {B:Nat} {BT:TypeId} {e s:Nat} {vs:List Value} {Rs:List (List Ty)} {i:Nat} {v:Value} {Ts:List Ty} (hv:vs[i]? = some v) (hR:Rs[i]? = some Ts):(mx B BT e s vs Rs)[i + 1]? = some (bN e s v Ts):=by
 simp [mx,List.getElem?_zipWith,hv,hR]
theorem Ct {B:Nat} {BT:TypeId} {e s:Nat} {vs:List Value} {Rs:List (List Ty)} (h:vs.length = Rs.length):(mx B BT e s vs Rs).length = Rs.length + 1:=by simp [mx,h]
theorem Dm {e s : Nat} {v : Value} {Ts : List Ty} : ∀ (vs : List Value) (Rs : List (List Ty)) (i : Nat), vs[i]? = some v → i < Rs.length → (List.zipWith (bN e s) vs Rs).set i (bN e s v Ts) = List.zipWith (bN e s) vs (Rs.set i Ts)
 | [],_,i,h,_=>by simp at h
 | _ :: _,[],i,_,h=>by simp at h
 | u :: vs,R :: Rs,0,h,_=>by simp at h; subst h; rfl
 | u :: vs, R :: Rs, i + 1, h, k => by
  simp only [List.zipWith_cons_cons,List.set_cons_succ]
  rw [Dm vs Rs i (by simpa using h) (by simpa using k)]
theorem Lh {e s : Nat} {v : Value} : ∀ (vs : List Value) (Rs : List (List Ty)) (i : Nat), (List.zipWith (bN e s) vs Rs).set i SA.emp = (List.zipWith (bN e s) (vs.set i v) Rs).set i SA.emp
 | [],_,i=>by simp
 | u :: vs,[],i=>by cases i <;> simp
 | u :: vs,R :: Rs,0=>by simp
 | u :: vs, R :: Rs, i + 1 => by
  simp only [List.zipWith_cons_cons,List.set_cons_succ]
  rw [Lh vs Rs i]
section
variable {P:Program} {R:eA} {cx:Cx} {n:Nat} {k:List It} {E:cB} {H:Hp} {ops:Array Oper} {o:Oper} {rest:List Oper}
variable {d:Option Tmp} {t:TypeId} {pos:String} {af:Array Edge} {g:Option (Nat × Bool)}
theorem fN.focus {V : aO} {w : World} {j i B e s : Nat} {q : Value → Prop} {BT : TypeId} {Rs : List (List Ty)} {Ts : List Ty} (h : fN cx V H w) (hH : H[j]? = some (tF q B BT e s Rs)) (hR : Rs[i]? = some Ts) :
  ∃ v,q v ∧ fN cx V (H.set j (vN q B BT e s Rs i v) ++ [bN e s v Ts]) w:=by
 obtain ⟨⟨v, hq⟩, hv⟩ := h.hp.split (γ := {v // q v}) (A1 := fun v => vN q B BT e s Rs i v.1) (A2 := fun v => bN e s v.1 Ts) hH (fun S ⟨vs, ⟨h1, h1q⟩, h2⟩ => by
  have hil:=(List.getElem?_eq_some_iff.1 hR).1
  obtain ⟨S1,S2,k1,k2,k3,k4⟩:=fP.split h2 (Qx (i:=i) (v:=vs[i]'(by omega)) (by simp [h1,hil]) hR)
  exact ⟨⟨vs[i]'(by omega),h1q _ (List.getElem_mem _)⟩,S1,S2,⟨vs,⟨h1,fun j u hu _=>h1q u (List.mem_of_getElem? hu)⟩,by simp [h1,hil],k1⟩,k2,k3,k4⟩)
 exact ⟨v,hq,h.withHH hv⟩
theorem nN (j i : Nat) {B e s : Nat} {q : Value → Prop} {BT : TypeId} {Rs : List (List Ty)} {Ts : List Ty} (hH : H[j]? = some (tF q B BT e s Rs)) (hR : Rs[i]? = some Ts) (h : ∀ v, Tr P R cx n k E (H.set j (vN q B BT e s Rs i v) ++ [bN e s v Ts])) : Tr P R cx n k E H :=
 fun a w ⟨V,hi,hs⟩=>by obtain ⟨v,_,hv⟩:=hi.focus hH hR; exact h v a w ⟨V,hv,hs⟩
theorem fN.unfocus {V : aO} {w : World} {j l i B e s : Nat} {q : Value → Prop} {BT : TypeId} {Rs : List (List Ty)} {Ts : List Ty} {v : Value} (h : fN cx V H w) (hH : H[j]? = some (vN q B BT e s Rs i v)) (hL : H[l]? = some (bN e s v Ts)) (hne : j ≠ l) (hi' : i < Rs.length) (hq : q v := by first | trivial | assumption) :
  fN cx V ((H.set j (tF q B BT e s (Rs.set i Ts))).set l SA.emp) w:=by
 refine h.withHH (h.hp.join hH hL hne (fun S S1 S2 ⟨vs, ⟨k1, k1q⟩, k0, k2⟩ hr hd hS => ⟨vs, ⟨by simp [k1], fun u hu => by
  obtain ⟨j',hj',e'⟩:=List.getElem_of_mem hu
  have hu':vs[j']? = some u:=by rw [List.getElem?_eq_getElem hj',e']
  by_cases c:j' = i
  ·subst c; rw [k0] at hu'; obtain rfl:=Option.some.inj hu'; exact hq
  ·exact k1q j' u hu' c⟩,?_⟩))
 have:=fP.join (A:=bN e s v Ts) k2 (by rw [Ct k1]; omega) hr hd hS
 simp only [mx,List.set_cons_succ] at this
 rw [Dm vs Rs i k0 hi'] at this
 exact this
theorem jM (j l : Nat) {i B e s : Nat} {q : Value → Prop} {BT : TypeId} {Rs : List (List Ty)} {Ts : List Ty} {v : Value} (hH : H[j]? = some (vN q B BT e s Rs i v)) (hL : H[l]? = some (bN e s v Ts)) (hne : j ≠ l) (hi' : i < Rs.length) (h : Tr P R cx n k E ((H.set j (tF q B BT e s (Rs.set i Ts))).set l SA.emp)) (hq : q v := by first | trivial | assumption) : Tr P R cx n k E H :=
 fun a w ⟨V,hi,hs⟩=>h a w ⟨V,hi.unfocus hH hL hne hi' hq,hs⟩
theorem a01 {H':Hp} (is:List Nat) (hp:vA H is H') (nd:is.Nodup) (h:Tr P R cx n k E H'):Tr P R cx n k E H:=fun a w ⟨V,hi,hs⟩=>h a w ⟨V,hi.withHH (hi.hp.pick hp nd),hs⟩
theorem Ny (j i : Nat) {B e s : Nat} {q : Value → Prop} {BT : TypeId} {Rs : List (List Ty)} {Ts : List Ty} (hH : H[j]? = some (tF q B BT e s Rs)) (hR : Rs[i]? = some Ts) (h : ∀ v, q v → Tr P R cx n k E (H.set j (vN q B BT e s Rs i v) ++ [bN e s v Ts])) : Tr P R cx n k E H :=
 fun a w ⟨V,hi,hs⟩=>by obtain ⟨v,hq,hv⟩:=hi.focus hH hR; exact h v hq a w ⟨V,hv,hs⟩
theorem kR {x : Operand} {j i B e s : Nat} {q : Value → Prop} {BT : TypeId} {Rs : List (List Ty)} {v : Value} (hA : ∀ w, (isAgg t).run P w = .ok false w) (hS : ∀ w, (sizeOf t).run P w = .ok 1 w)
  (hx:aA E x (eH B i)) (hH:H[j]? = some (vN q B BT e s Rs i v)) {t':TypeId}:aM P n E H ⟨d,.load t x,t',pos,af,g⟩ (Is v) :=
 kA hH fun a V w S ⟨vs, ⟨k1, _⟩, k0, F, h1, h2, h3⟩ _ hs => by
  have e1:a.eval x = .pointer (some ⟨B,i,none⟩):=hx n V a hs
  obtain ⟨_,cs,e2,e3⟩:=h1 0 (box B BT (vs.map Is)) (by simp [mx])
  obtain ⟨u,e4,e5⟩:=e3.get (i:=i) (T:=Is v) (by simp [k0])
  have hu:u = v:=e5
  subst hu
  have hpl:=e3.pl u (List.mem_of_getElem? e4)
  have := eP (P := P) (w := w) (b := B) (o := i) (x := u) hA hS ⟨by rw [hpl.cells]; rfl, by simp, fun _ => hpl⟩ (fun q u' hu' => by
   rw [dM (show w.heap[B]? = some (.cells cs.toArray BT (0,0)) from e2)]
   rw [hpl.cells] at hu'
   cases q with
   | zero=>simp at hu'; subst hu'; simpa using e4
   | succ q=>simp at hu')
  exact ⟨u,by simp [execOp,e1,Instr.loadAt,Instr.sureAddr,Sem.run_bind,this,Result.andThen],rfl⟩
theorem yJ {e s:Nat} {v:Value} {Ts:List Ty} {S:List Nat} {m V:aO} (h:(bN e s v Ts).h S m V):jA v:=by
 obtain ⟨xs,_,h2⟩:=h
 rcases h2 with ⟨rfl,_⟩ | ⟨g,cap,cur,rfl,_⟩ <;> trivial
theorem Ya {x y : Operand} {j l i B e s e' s' : Nat} {q : Value → Prop} {BT : TypeId} {Rs : List (List Ty)} {v v' : Value} {Ts : List Ty} (hS : ∀ w, (sizeOf t).run P w = .ok 1 w) (hx : aA E x (eH B i)) (hy : aA E y (Is v')) (hil : i < Rs.length)
  (hH:H[j]? = some (vN q B BT e s Rs i v)) (hL:H[l]? = some (bN e' s' v' Ts)) {t':TypeId} {H':Hp} (hH':H.set j (vN q B BT e s Rs i v') = H') :
  ∀ (a:Act) (w:World) (V:aO),fN cx V H w → dA n E V a → ∃ w',(execOp a.eval ⟨none,.store t x y,t',pos,af,none⟩).run P w = .ok .skip w' ∧ fN cx V H' w':=fun a w V hi hs=>by
  have ex:a.eval x = .pointer (some ⟨B,i,none⟩):=hx n V a hs
  have hve:a.eval y = v':=hy n V a hs
  have hi':HH cx.w0.heap.size w V (H ++ []):=by simpa using hi.hp
  obtain ⟨S2,hR⟩:=hi'.get hL
  have hv:=yJ hR
  obtain ⟨S,vs,⟨k1,_⟩,k0,F,h1,h2,h3⟩:=hi'.get hH
  obtain ⟨_,cs,e2,e3⟩:=h1 0 (box B BT (vs.map Is)) (by simp [mx])
  have e2':w.heap[B]? = some (.cells cs.toArray BT (0,0)):=e2
  have hst:=sB (P:=P) (o:=i) (v:=v') e2' (by simpa [e3.length,k1] using hil) hv
  refine ⟨w.setCell ⟨B,i,none⟩ v',lX ex hve ?_,?_⟩
  ·unfold storeVar
   rw [Sem.run_bind,hS]
   simp only [hv.cells,Result.andThen]
   simp [storeCells,Addr.add,Sem.run_bind,hst,Result.andThen]
  ·subst hH'
   refine hi.upd hH (by simp) rfl rfl ⟨rfl,Nat.le_refl _⟩ (fun S hS'=>?_)
   obtain ⟨vs',⟨k1',k1q⟩,k0',F',h1',h2',h3'⟩:=hS'
   have hm:(mx B BT e s vs' Rs).length = Rs.length + 1:=Ct k1'
   simp only [List.length_set,hm] at h2' h3'
   obtain ⟨hF0,cs',e4,e5⟩:=h1' 0 (box B BT (vs'.map Is)) (by simp [mx])
   have hB:B ∈ S:=(h3' B).2 ⟨0,by omega,by rw [hF0]; simp⟩
   refine ⟨fun b hb => heap_setCell_other w _ _ _ (fun hbe => hb (by subst hbe; exact hB)), vs'.set i v', ⟨by simp [k1'], fun j' u hu hj => by rw [List.getElem?_set_ne (Ne.symm hj)] at hu; exact k1q j' u hu hj⟩, by simp [k1', hil], F', fun q A hA => ?_, by simp only [List.length_set, Ct (show (vs'.set i v').length = Rs.length by simp [k1'])]; exact h2', fun b => by
    simp only [List.length_set,Ct (show (vs'.set i v').length = Rs.length by simp [k1'])]; exact h3' b⟩
   cases q with
   | zero =>
    simp [mx] at hA; subst hA
    refine ⟨hF0,cs'.set i v',?_,e5.set i rfl hv⟩
    have:=lN w B i v' cs'.toArray BT e4
    rw [List.setIfInBounds_toArray] at this
    exact this
   | succ q =>
    have hA' : (((mx B BT e s vs' Rs).set (i + 1) SA.emp))[q + 1]? = some A := by
     simp only [mx,List.set_cons_succ,List.getElem?_cons_succ] at hA ⊢
     rw [Lh (v:=v')]; exact hA
    refine A.loc (h1' (q + 1) A hA') (fun b hb=>heap_setCell_other w _ _ _ (fun hbe=>?_))
    have hql : q + 1 < Rs.length + 1 := by
     have:=(List.getElem?_eq_some_iff.1 hA').1; simp only [List.length_set,hm] at this; exact this
    have:=h2' 0 (q + 1) b (by omega) hql (by rw [hF0,hbe]; simp) hb
    omega
theorem sH {x y : Operand} {j l i B e s e' s' : Nat} {q : Value → Prop} {BT : TypeId} {Rs : List (List Ty)} {v v' : Value} {Ts : List Ty} (hS : ∀ w, (sizeOf t).run P w = .ok 1 w) (hx : aA E x (eH B i)) (hy : aA E y (Is v')) (hil : i < Rs.length)
  (hH:H[j]? = some (vN q B BT e s Rs i v)) (hL:H[l]? = some (bN e' s' v' Ts)) {t':TypeId} {H':Hp} (hH':H.set j (vN q B BT e s Rs i v') = H') (h:Rg P R cx n ops rest k E H') :
  Rg P R cx n ops (⟨none,.store t x y,t',pos,af,none⟩ :: rest) k E H :=
 uF (Ya hS hx hy hil hH hL hH') h
end
end
section
open Go Go.RowKit
theorem pY {z:Value} {s:Nat} (hz:z.cells.size = s) (m:Nat):(madeCells z.cells (m * s)).toList = cH (List.replicate m z):=by
 have hsz:∀ x,x ∈ List.replicate m z → x.cells.size = s:=fun x hx=>by rw [(List.mem_replicate.1 hx).2]; exact hz
 apply List.ext_getElem?
 intro q
 by_cases hq:q < m * s
 ·have hs : 0 < s := Nat.pos_of_ne_zero (fun e => by subst e; simp at hq)
  have hd:q / s < m:=(Nat.div_lt_iff_lt_mul hs).2 hq
  have hm:q % s < s:=Nat.mod_lt _ hs
  have h1:=nB (List.replicate m z) hsz (q / s) z (by simp [hd]) (q % s) (z.cells[q % s]'(by omega)) (by simp [hz,hm])
  rw [Nat.div_add_mod'] at h1
  rw [h1]
  simp only [madeCells,hz,Array.toList_map,Array.toList_range,List.getElem?_map]
  rw [List.getElem?_range hq]
  simp [hz,hm]
 ·rw [List.getElem?_eq_none (l:=(madeCells z.cells (m * s)).toList) (by simp [madeCells]; omega),List.getElem?_eq_none (l:=cH (List.replicate m z)) (by rw [iC _ hsz]; simp; omega)]
section
variable {P:Program} {R:eA} {cx:Cx} {n:Nat} {k:List It} {E:cB} {H:Hp} {ops:Array Oper} {o:Oper} {rest:List Oper}
variable {d:Option Tmp} {t:TypeId} {pos:String} {af:Array Edge} {g:Option (Nat × Bool)}
theorem yF {x : Operand} {m e s : Nat} {i : TypeInfo} {z : Value} {kd : IntKind} {j : Int} {T : Ty} (ht : P.underlying t = some (.slice e)) (hi : P.info? e = some i) (hz : i.zero = some z) (hs : i.size = s)
  (hx:aA E x (aF kd j)) (hj:j = (m:Int)) (hT:∀ V,T.p z V) (hEl:El s T) (hb:i.bytes * m ≤ 281474976710656) (hm:m ≤ 9223372036854775807) {t':TypeId} :
  Nt P n E H ⟨d,.makeSlice t x x,t',pos,af,g⟩ Value (fun v=>Is v) (fun v=>bN e s v (List.replicate m T)):=fun cx X a w V hi' hsl=>by
 have ex:a.eval x = .int kd j:=hx n V a hsl
 subst hj hs
 have hb' : (i.bytes : Int) * (m : Int) ≤ 281474976710656 := by
  have h:((i.bytes * m:Nat):Int) ≤ 281474976710656:=by omega
  rwa [Int.natCast_mul] at h
 have hr:=run_make (P:=P) w t e i z ht hi hz kd kd m m (by omega) (Int.le_refl _) hb' (by omega)
 simp only [Int.toNat_natCast] at hr
 have hzs:z.cells.size = i.size:=hEl.size z V (hT V)
 have hfl:=pY hzs m
 have hsz:∀ x,x ∈ List.replicate m z → x.cells.size = i.size:=fun x hx=>by rw [(List.mem_replicate.1 hx).2]; exact hzs
 refine ⟨.slice (some ⟨w.heap.size,0,none⟩) m m,_,_,?_,rfl,hi'.alloc (ob:=.cells (madeCells z.cells (m * i.size)) e) (fun mm hm'=>⟨List.replicate m z,⟨fD.replicate (hT V) m,hsz,fun u hu=>?_⟩,.inr ⟨w.heap.size,m,madeCells z.cells (m * i.size),by simp,rfl,hm',by simp,hm,?_,?_⟩⟩)⟩
 ·simp [execOp,ex,Sem.run_bind,hr,Result.andThen]
 ·obtain ⟨y, hy, hu⟩ := iO.1 hu
  rw [(List.mem_replicate.1 hy).2] at hu
  exact hEl.plain z V (hT V) u hu
 ·rw [← Array.length_toList,hfl,iC _ hsz]; simp
 ·rw [hfl,List.length_replicate,List.take_of_length_le (by rw [iC _ hsz]; simp)]
theorem mP {x : Operand} {m e s : Nat} {i : TypeInfo} {z : Value} {kd : IntKind} {j : Int} {T : Ty} (ht : P.underlying t = some (.slice e)) (hi : P.info? e = some i) (hz : i.zero = some z) (hs : i.size = s)
  (hx:aA E x (aF kd j)) (hj:j = (m:Int)) (hT:∀ V,T.p z V) (hEl:El s T) (hb:i.bytes * m ≤ 281474976710656) (hm:m ≤ 9223372036854775807) {t':TypeId} :
  gY P n E H ⟨d,.makeSlice t x x,t',pos,af,g⟩ Value (fun v=>Is v) (fun v=>bN e s v (List.replicate m T)):=gY.of (yF ht hi hz hs hx hj hT hEl hb hm)
theorem kN {e s : Nat} {v : Value} {Ts : List Ty} : ∀ u S V, (Is v).p u V → (bN e s v Ts).h S V V → (kT s Ts).p u V := fun u S V hu hr => by
 cases hu
 obtain ⟨xs,hrow,h2⟩:=hr
 rcases h2 with ⟨rfl,rfl,_⟩ | ⟨g,cap,cur,rfl,_,hg,hle,_,_,htake⟩
 ·exact ⟨none,0,rfl,Nat.le_refl _,fun i T h=>by simp at h⟩
 ·refine ⟨_, cap, rfl, hle, fun i T hT => ?_⟩
  obtain ⟨x,h1,h2,h3⟩:=hrow.get hT
  refine ⟨g,0,x,rfl,⟨cur,e,(0,0),hg,fun j u hu=>?_⟩,h3,h2⟩
  have h4:=nB xs hrow.size i x h1 j u hu
  rw [← htake,List.getElem?_take] at h4
  split at h4
  ·rw [Nat.zero_add]; simpa using h4
  ·cases h4
theorem Ck {B e s : Nat} {q : Value → Prop} {BT : TypeId} {Rs : List (List Ty)} {l cap : Nat} (hl : l = Rs.length) (hc : l ≤ cap) : ∀ u S V, (Is (.slice (some ⟨B, 0, none⟩) l cap)).p u V → (tF q B BT e s Rs).h S V V → (kT 1 (Rs.map (kT s))).p u V := fun u S V hu hm => by
 cases hu
 obtain ⟨vs,⟨k1,_⟩,F,h1,_,_⟩:=hm
 obtain ⟨_,cs,e2,e3⟩:=h1 0 (box B BT (vs.map Is)) (by simp [mx])
 refine ⟨some ⟨B,0,none⟩,cap,by simp [hl],by simp; omega,fun i T hT=>?_⟩
 rw [List.getElem?_map] at hT
 obtain ⟨Ts,hR,rfl⟩:=Option.map_eq_some_iff.1 hT
 have hil:=(List.getElem?_eq_some_iff.1 hR).1
 have hv:vs[i]? = some (vs[i]'(by omega)):=by simp [k1,hil]
 have hrow:=h1 (i + 1) _ (Qx hv hR)
 obtain ⟨u,e4,e5⟩:=e3.get (i:=i) (T:=Is (vs[i]'(by omega))) (by simp [k1,hil])
 have hu:u = vs[i]'(by omega):=e5
 have hpl:=e3.pl u (List.mem_of_getElem? e4)
 refine ⟨B,0,u,rfl,⟨cs.toArray,BT,(0,0),e2,fun j u' hu'=>?_⟩,by rw [hpl.cells]; rfl,kN u _ V hu hrow⟩
 rw [hpl.cells] at hu'
 cases j with
 | zero=>simp at hu'; subst hu'; simpa using e4
 | succ j=>simp at hu'
theorem Fb (q : Value → Prop) (hq : q (.slice none 0 0)) {B e s m : Nat} {BT : TypeId} : ∀ S w V, (box B BT (List.replicate m (Is (.slice none 0 0)))).h S w V → (tF q B BT e s (List.replicate m [])).h S w V := fun S w V hb => by
 have hS:=hb.1
 refine ⟨List.replicate m (.slice none 0 0),⟨by simp,fun v hv=>by rw [(List.mem_replicate.1 hv).2]; exact hq⟩,fun i=>if i = 0 then S else [],fun i A hA=>?_,fun i j b hi hj hbi hbj=>?_,fun b=>?_⟩
 ·cases i with
  | zero=>simp [mx] at hA; subst hA; simpa using hb
  | succ i =>
   simp only [mx,List.getElem?_cons_succ,List.zipWith_replicate] at hA
   have:=List.getElem?_eq_some_iff.1 hA
   obtain ⟨hl,he⟩:=this
   simp at he; subst he
   exact ⟨[],uG.nil,.inl ⟨rfl,rfl,by simp⟩⟩
 ·by_cases ei : i = 0 <;> by_cases ej : j = 0
  ·omega
  ·simp [ej] at hbj
  ·simp [ei] at hbi
  ·simp [ei] at hbi
 ·constructor
  ·intro hb'; exact ⟨0,by simp [mx],by simpa using hb'⟩
  ·rintro ⟨i, _, hb'⟩
   by_cases ei:i = 0
   ·simpa [ei] using hb'
   ·simp [ei] at hb'
theorem oT {B e s m:Nat} {BT:TypeId}:∀ S w V,(box B BT (List.replicate m (Is (.slice none 0 0)))).h S w V → (nL B BT e s (List.replicate m [])).h S w V:=Fb (fun _=>True) trivial
theorem mB (j : Nat) {A A' : SA} (hA : H[j]? = some A) (hi : ∀ S m V, A.h S m V → A'.h S m V) (h : Tr P R cx n k E (H.set j A')) : Tr P R cx n k E H := fun a w ⟨V, hin, hs⟩ =>
 h a w ⟨V, hin.withHH (by
  obtain ⟨F,h1,h2⟩:=hin.hp
  have hil:=(List.getElem?_eq_some_iff.1 hA).1
  refine ⟨F,fun q B hB=>?_,fun q l b hq hl=>by simp at hq hl; exact h2 q l b hq hl⟩
  by_cases e:q = j
  ·subst e; simp [hil] at hB; subst hB; exact ⟨hi _ _ _ (h1 q A hA).1,(h1 q A hA).2⟩
  ·rw [List.getElem?_set_ne (fun x=>e x.symm)] at hB; exact h1 q B hB),hs⟩
end
end
end Go.Proofs.YthcmlodgnfekeaaGreat
