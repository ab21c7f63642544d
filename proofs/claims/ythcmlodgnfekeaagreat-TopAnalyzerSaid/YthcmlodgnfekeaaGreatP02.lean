/- What functions of the program compute, proved by walks over their code, and the plain mathematics of it; a part of the proof in the last text. -/
import Derived.Test.YthcmlodgnfekeaaGreatP01
set_option linter.unusedVariables false
set_option linter.unusedSimpArgs false
set_option maxRecDepth 100000
set_option maxHeartbeats 4000000
namespace Go.Proofs.YthcmlodgnfekeaaGreat
section
open Go Go.RowKit
namespace W
inductive Ob:Type 1 where
 | val (T:Ty)
 | new (γ:Type) (T:γ → Ty) (A:γ → SA)
 | put
def Src (ops : List Oper) (m : Nat) (E0 : cB) (prev : List (Nat × Ob)) (o : Oper) (t : Nat) (T : Ty) : Prop :=
 (fH E0 t = some T ∧ ((List.range m).all fun j=>!(eM ops j == some t)) = true) ∨
 ∃ j,prev.reverse[j]? = some (t,.val T) ∧ (o.after.toList.any fun e=>Nat.beq e.on j && Region.binds .any e) = true
theorem Src.pre {ops:List Oper} {m:Nat} {E0:cB} {prev:List (Nat × Ob)} {o:Oper} {t:Nat} {T:Ty} (h:fH E0 t = some T) (h':((List.range m).all fun j=>!(eM ops j == some t)) = true):Src ops m E0 prev o t T:=.inl ⟨h,h'⟩
theorem Src.op {ops:List Oper} {m:Nat} {E0:cB} {prev:List (Nat × Ob)} {o:Oper} {t:Nat} {T:Ty} (j:Nat) (h:prev.reverse[j]? = some (t,.val T)) (h':(o.after.toList.any fun e=>Nat.beq e.on j && Region.binds .any e) = true):Src ops m E0 prev o t T:=.inr ⟨j,h,h'⟩
def Srcs (ops:List Oper) (m:Nat) (E0:cB) (prev:List (Nat × Ob)) (o:Oper) (Ei:cB):Prop:=∀ t T,fH Ei t = some T → Src ops m E0 prev o t T
theorem Srcs.nil {ops:List Oper} {m:Nat} {E0:cB} {prev:List (Nat × Ob)} {o:Oper}:Srcs ops m E0 prev o []:=fun t T h=>by cases h
theorem Srcs.cons {ops : List Oper} {m : Nat} {E0 Ei : cB} {prev : List (Nat × Ob)} {o : Oper} {t : Nat} {T : Ty} (h : Src ops m E0 prev o t T) (k : Srcs ops m E0 prev o Ei) : Srcs ops m E0 prev o ((t, T) :: Ei) := fun u U hl => by
 rw [cM] at hl
 by_cases e:t = u
 ·subst e; rw [if_pos rfl] at hl; obtain rfl:=Option.some.inj hl; exact h
 ·rw [if_neg e] at hl; exact k u U hl
section
variable {P:Program} {R:eA} {cx:Cx} {n:Nat} {k:List It} {E:cB} {H:Hp} {Hf:Bool → Hp} {p:Nat}
def PutTy (P : Program) (n : Nat) (E : cB) (H H' : Hp) (o : Oper) : Prop :=
 ∀ (cx:Cx) (X:Hp) (a:Act) (w:World) (V:aO),fN cx V (H ++ X) w → dA n E V a → ∃ w',(execOp a.eval o).run P w = .ok .skip w' ∧ fN cx V (H' ++ X) w'
def vK (P : Program) (n : Nat) (ops : List Oper) (m : Nat) (E0 : cB) (Hf : Bool → Hp) (p : Nat) (prev : List (Nat × Ob)) (d : Nat) (o : Oper) : Ob → Prop
 | .val T=>(o.dst = some d ∧ d < n ∧ prev.length ≠ p) ∧ ∃ Ei,Srcs ops m E0 prev o Ei ∧ ((∀ b,gH P n ops.toArray Ei (Hf b) o T) ∨ (gH P n ops.toArray Ei (Hf false) o T ∧ ((nE ops []).getD p 0).testBit prev.length = true))
 | .new γ T A=>(o.dst = some d ∧ d < n ∧ prev.length ≠ p) ∧ o.guard = none ∧ ∃ Ei,Srcs ops m E0 prev o Ei ∧ ∀ b,gY P n Ei (Hf b) o γ T A
 | .put=>prev.length = p ∧ o.guard = none ∧ o.dst = none ∧ ∃ Ei,Srcs ops m E0 prev o Ei ∧ PutTy P n Ei (Hf false) (Hf true) o
def kS (P : Program) (n : Nat) (ops : List Oper) (m : Nat) (E0 : cB) (Hf : Bool → Hp) (p : Nat) : List (Nat × Ob) → Prop
 | []=>True
 | (d,b) :: prev=>(∃ o,ops[prev.length]? = some o ∧ vK P n ops m E0 Hf p prev d o b) ∧ kS P n ops m E0 Hf p prev
def Dr (P : Program) (R : eA) (cx : Cx) (n : Nat) (ops : List Oper) (m : Nat) (k : List It) (E0 : cB) (Hf : Bool → Hp) (p : Nat) (l : List Oper) (acc : List (Nat × Ob)) : Prop :=
 ops = (ops.take acc.length) ++ l → kS P n ops m E0 Hf p acc → ∀ id,Tr P R cx n (.code (.region id ops.toArray true) :: k) E0 (Hf false)
def Fin' (P : Program) (R : eA) (cx : Cx) (n : Nat) (ops : Array Oper) (l : List Oper) (k : List It) : List (Nat × Ob) → cB → Hp → Prop
 | [],E,H=>Rg P R cx n ops l k E H
 | (d,.val T) :: r,E,H=>Fin' P R cx n ops l k r ((d,T) :: E) H
 | (d,.new γ T A) :: r,E,H=>∀ x:γ,Fin' P R cx n ops l k r ((d,T x) :: E) (H ++ [A x])
 | (_,.put) :: r,E,H=>Fin' P R cx n ops l k r E H
theorem D_start {ops:List Oper} {m:Nat} {id:Nat} (Hf:Bool → Hp) (p:Nat) (h:Dr P R cx n ops m k E Hf p ops []):Tr P R cx n (.code (.region id ops.toArray true) :: k) E (Hf false):=h (by simp) trivial id
theorem D_step {ops l : List Oper} {m : Nat} {o : Oper} {acc : List (Nat × Ob)} {d : Nat} {T : Ty} {Ei : cB} (hd : o.dst = some d) (hn : Nat.blt d n = true) (hs : Srcs ops m E acc o Ei) (hp : Nat.beq acc.length p = false) (hb : ((nE ops []).getD p 0).testBit acc.length = true) (hst : gH P n ops.toArray Ei (Hf false) o T)
  (h:Dr P R cx n ops m k E Hf p l ((d,.val T) :: acc)):Dr P R cx n ops m k E Hf p (o :: l) acc:=fun hops hobs=>by
 have hlen : acc.length ≤ ops.length := by
  have:=congrArg List.length hops
  simp at this; omega
 have ho : ops[acc.length]? = some o := by
  rw [hops,List.getElem?_append_right (by simp; omega)]
  simp [Nat.min_eq_left hlen]
 have hlt:acc.length < ops.length:=(List.getElem?_eq_some_iff.1 ho).1
 refine h ?_ ⟨⟨o,ho,⟨hd,Nat.le_of_ble_eq_true hn,fun e=>by rw [e] at hp; simp at hp⟩,Ei,hs,.inr ⟨hst,hb⟩⟩,hobs⟩
 rw [List.length_cons,List.take_succ_eq_append_getElem hlt]
 have:ops[acc.length] = o:=by simpa [hlt] using ho
 rw [this]
 simpa using hops
theorem D_pure {ops l : List Oper} {m : Nat} {o : Oper} {acc : List (Nat × Ob)} {d : Nat} {T : Ty} {Ei : cB} (hd : o.dst = some d) (hn : Nat.blt d n = true) (hs : Srcs ops m E acc o Ei) (hp : Nat.beq acc.length p = false) (hst : ∀ H, gH P n ops.toArray Ei H o T)
  (h:Dr P R cx n ops m k E Hf p l ((d,.val T) :: acc)):Dr P R cx n ops m k E Hf p (o :: l) acc:=fun hops hobs=>by
 have hlen : acc.length ≤ ops.length := by
  have:=congrArg List.length hops
  simp at this; omega
 have ho : ops[acc.length]? = some o := by
  rw [hops,List.getElem?_append_right (by simp; omega)]
  simp [Nat.min_eq_left hlen]
 have hlt:acc.length < ops.length:=(List.getElem?_eq_some_iff.1 ho).1
 refine h ?_ ⟨⟨o,ho,⟨hd,Nat.le_of_ble_eq_true hn,fun e=>by rw [e] at hp; simp at hp⟩,Ei,hs,.inl (fun b=>hst (Hf b))⟩,hobs⟩
 rw [List.length_cons,List.take_succ_eq_append_getElem hlt]
 have:ops[acc.length] = o:=by simpa [hlt] using ho
 rw [this]
 simpa using hops
theorem D_put {ops l : List Oper} {m : Nat} {o : Oper} {acc : List (Nat × Ob)} {Ei : cB} (hg : o.guard = none) (hd : o.dst = none) (hs : Srcs ops m E acc o Ei) (hp : acc.length = p) (hst : PutTy P n Ei (Hf false) (Hf true) o)
  (h:Dr P R cx n ops m k E Hf p l ((n,.put) :: acc)):Dr P R cx n ops m k E Hf p (o :: l) acc:=fun hops hobs=>by
 have hlen : acc.length ≤ ops.length := by
  have:=congrArg List.length hops
  simp at this; omega
 have ho : ops[acc.length]? = some o := by
  rw [hops,List.getElem?_append_right (by simp; omega)]
  simp [Nat.min_eq_left hlen]
 have hlt:acc.length < ops.length:=(List.getElem?_eq_some_iff.1 ho).1
 refine h ?_ ⟨⟨o,ho,hp,hg,hd,Ei,hs,hst⟩,hobs⟩
 rw [List.length_cons,List.take_succ_eq_append_getElem hlt]
 have:ops[acc.length] = o:=by simpa [hlt] using ho
 rw [this]
 simpa using hops
def iM : Ob → Ty × SA → Prop
 | .val T,c=>c = (T,SA.emp)
 | .new γ T A,c=>∃ x:γ,c = (T x,A x)
 | .put,c=>c.2 = SA.emp
theorem kS.get {ops : List Oper} {m : Nat} : ∀ {acc : List (Nat × Ob)}, kS P n ops m E Hf p acc → ∀ {i : Nat} {d : Nat} {b : Ob}, acc.reverse[i]? = some (d, b) →
  ∃ o,ops[i]? = some o ∧ vK P n ops m E Hf p ((acc.reverse.take i).reverse) d o b
 | [],_,i,d,b,h=>by simp at h
 | (d', b') :: prev, ⟨⟨o, h1, h4⟩, hp⟩, i, d, b, h => by
  rw [List.reverse_cons] at h
  by_cases e:i < prev.reverse.length
  ·rw [List.getElem?_append_left e] at h
   obtain ⟨o',q1,q4⟩:=hp.get h
   refine ⟨o',q1,?_⟩
   rw [List.reverse_cons,List.take_append_of_le_length (by omega)]; exact q4
  ·have hi : i = prev.length := by
    have:=(List.getElem?_eq_some_iff.1 h).1
    simp at this e; omega
   subst hi
   rw [List.getElem?_append_right (by simp)] at h
   simp at h
   obtain ⟨rfl,rfl⟩:=h
   refine ⟨o,h1,?_⟩
   rw [List.reverse_cons,List.take_append_of_le_length (by simp),List.take_of_length_le (by simp),List.reverse_reverse]
   exact h4
theorem kS.len {ops : List Oper} {m : Nat} : ∀ {acc : List (Nat × Ob)}, kS P n ops m E Hf p acc → ∀ i (h : i < acc.length), ∃ d b, acc.reverse[i]? = some (d, b) := fun {acc} _ i h =>
 ⟨_,_,by rw [List.getElem?_eq_getElem (by simpa using h)]⟩
structure rS (cx:Cx) (n:Nat) (ops:List Oper) (m:Nat) (E0:cB) (Hf:Bool → Hp) (p:Nat) (L:Nat → Bool) (C:Nat → Ty × SA) (V:aO) (a:Act) (w:World):Prop where
 inv:fN cx V (Hf (L p) ++ (List.range m).map fun i=>if L i then (C i).2 else SA.emp) w
 df:Ti n a.defers V
 sz:a.tmps.size = n
 old:∀ t T,fH E0 t = some T → (∀ j,j < m → eM ops j ≠ some t) → ∃ v,a.tmps[t]? = some v ∧ T.p v V
 now:∀ j d,j < m → L j = true → eM ops j = some d → ∃ v,a.tmps[d]? = some v ∧ (C j).1.p v V
theorem iA {ops : List Oper} {l : List Oper} : ∀ (r : List (Nat × Ob)) (E : cB) (H : Hp), Fin' P R cx n ops.toArray l k r E H → ∀ (C : Nat → Ty × SA) (i0 : Nat), (∀ (i d : Nat) (b : Ob), r[i]? = some (d, b) → iM b (C (i0 + i))) →
  ∃ E' H', Rg P R cx n ops.toArray l k E' H' ∧ (∀ t T, fH E' t = some T → (fH E t = some T ∧ ∀ (i d : Nat) (b : Ob), r[i]? = some (d, b) → b ≠ .put → d ≠ t) ∨ ∃ (i d : Nat) (b : Ob), r[i]? = some (d, b) ∧ b ≠ .put ∧ d = t ∧ T = (C (i0 + i)).1) ∧
   List.Sublist H' (H ++ (List.range r.length).map fun i=>(C (i0 + i)).2)
 | [],E,H,h,_,_,_=>⟨E,H,h,fun t T hT=>.inl ⟨hT,fun i d b hb _=>by simp at hb⟩,by simp⟩
 | (d, .val T0) :: r, E, H, h, C, i0, hC => by
  obtain ⟨E',H',h1,h2,h3⟩:=iA r _ H h C (i0 + 1) (fun i d b hb=>by have:=hC (i + 1) d b (by simpa using hb); rwa [show i0 + (i + 1) = i0 + 1 + i by omega] at this)
  have h0:C i0 = (T0,SA.emp):=hC 0 d (.val T0) rfl
  refine ⟨E',H',h1,fun t T hT=>?_,h3.trans ?_⟩
  ·rcases h2 t T hT with ⟨q1, q2⟩ | ⟨i, d', b, q1, q0, q2, q3⟩
   ·rw [cM] at q1
    by_cases e:d = t
    ·rw [if_pos e] at q1; obtain rfl := Option.some.inj q1
     exact .inr ⟨0,d,_,rfl,by simp,e,by rw [Nat.add_zero,h0]⟩
    ·rw [if_neg e] at q1
     refine .inl ⟨q1,fun i d' b hb hnp=>?_⟩
     cases i with
     | zero=>simp at hb; exact hb.1 ▸ e
     | succ i=>exact q2 i d' b (by simpa using hb) hnp
   ·exact .inr ⟨i + 1,d',b,by simpa using q1,q0,q2,by rw [q3,show i0 + (i + 1) = i0 + 1 + i by omega]⟩
  ·simp only [List.length_cons, List.range_succ_eq_map, List.map_cons, List.map_map]
   refine List.Sublist.append (List.Sublist.refl H) ?_
   refine List.Sublist.cons _ ?_
   have : (fun i => (C (i0 + 1 + i)).2) = ((fun i => (C (i0 + i)).2) ∘ Nat.succ) := by
    funext i; simp [show i0 + (i + 1) = i0 + 1 + i by omega]
   rw [this]; exact List.Sublist.refl _
 | (d, .new γ T0 A0) :: r, E, H, h, C, i0, hC => by
  obtain ⟨x,h0⟩:∃ x:γ,C i0 = (T0 x,A0 x):=hC 0 d (.new γ T0 A0) rfl
  obtain ⟨E',H',h1,h2,h3⟩:=iA r _ _ (h x) C (i0 + 1) (fun i d b hb=>by have:=hC (i + 1) d b (by simpa using hb); rwa [show i0 + (i + 1) = i0 + 1 + i by omega] at this)
  refine ⟨E',H',h1,fun t T hT=>?_,h3.trans ?_⟩
  ·rcases h2 t T hT with ⟨q1, q2⟩ | ⟨i, d', b, q1, q0, q2, q3⟩
   ·rw [cM] at q1
    by_cases e:d = t
    ·rw [if_pos e] at q1; obtain rfl := Option.some.inj q1
     exact .inr ⟨0,d,_,rfl,by simp,e,by rw [Nat.add_zero,h0]⟩
    ·rw [if_neg e] at q1
     refine .inl ⟨q1,fun i d' b hb hnp=>?_⟩
     cases i with
     | zero=>simp at hb; exact hb.1 ▸ e
     | succ i=>exact q2 i d' b (by simpa using hb) hnp
   ·exact .inr ⟨i + 1,d',b,by simpa using q1,q0,q2,by rw [q3,show i0 + (i + 1) = i0 + 1 + i by omega]⟩
  ·simp only [List.length_cons, List.range_succ_eq_map, List.map_cons, List.map_map, List.append_assoc]
   refine List.Sublist.append (List.Sublist.refl H) ?_
   have : (fun i => (C (i0 + 1 + i)).2) = ((fun i => (C (i0 + i)).2) ∘ Nat.succ) := by
    funext i; simp [show i0 + (i + 1) = i0 + 1 + i by omega]
   rw [this]
   simp only [Nat.add_zero,h0]
   exact List.Sublist.refl _
 | (d, .put) :: r, E, H, h, C, i0, hC => by
  obtain ⟨E',H',h1,h2,h3⟩:=iA r _ H h C (i0 + 1) (fun i d b hb=>by have:=hC (i + 1) d b (by simpa using hb); rwa [show i0 + (i + 1) = i0 + 1 + i by omega] at this)
  refine ⟨E',H',h1,fun t T hT=>?_,h3.trans ?_⟩
  ·rcases h2 t T hT with ⟨q1, q2⟩ | ⟨i, d', b, q1, q0, q2, q3⟩
   ·refine .inl ⟨q1, fun i d' b hb hnp => ?_⟩
    cases i with
    | zero=>simp at hb; exact absurd hb.2.symm hnp
    | succ i=>exact q2 i d' b (by simpa using hb) hnp
   ·exact .inr ⟨i + 1,d',b,by simpa using q1,q0,q2,by rw [q3,show i0 + (i + 1) = i0 + 1 + i by omega]⟩
  ·simp only [List.length_cons, List.range_succ_eq_map, List.map_cons, List.map_map]
   refine List.Sublist.append (List.Sublist.refl H) ?_
   refine List.Sublist.cons _ ?_
   have : (fun i => (C (i0 + 1 + i)).2) = ((fun i => (C (i0 + i)).2) ∘ Nat.succ) := by
    funext i; simp [show i0 + (i + 1) = i0 + 1 + i by omega]
   rw [this]; exact List.Sublist.refl _
theorem kS.dst {ops:List Oper} {m:Nat} {acc:List (Nat × Ob)} (h:kS P n ops m E Hf p acc) {i d:Nat} {b:Ob} (hi:acc.reverse[i]? = some (d,b)) (hb:b ≠ .put):eM ops i = some d:=by
 obtain ⟨o,h1,h2⟩:=h.get hi
 cases b with
 | val T=>simp [eM,h1,h2.1.1]
 | new γ T A=>simp [eM,h1,h2.1.1]
 | put=>exact absurd rfl hb
theorem kS.dst0 {ops:List Oper} {m:Nat} {acc:List (Nat × Ob)} (h:kS P n ops m E Hf p acc) {i d:Nat} (hi:acc.reverse[i]? = some (d,.put)):eM ops i = none:=by
 obtain ⟨o,h1,h2⟩:=h.get hi
 simp [eM,h1,h2.2.2.1]
theorem oV {ops : List Oper} {m : Nat} {acc : List (Nat × Ob)} {E0 : cB} (hlen : acc.length = m) (hobs : kS P n ops m E0 Hf p acc) (hfin : Fin' P R cx n ops.toArray (ops.drop m) k acc.reverse E0 (Hf true)) (hpm : p < m)
  {L:Nat → Bool} {a:Act} {w:World} {V:aO} {C:Nat → Ty × SA} (hall:∀ i,i < m → L i = true) (hC:∀ (i d:Nat) (b:Ob),acc.reverse[i]? = some (d,b) → iM b (C i)) (hM:rS cx n ops m E0 Hf p L C V a w) :
  wpList P ops.toArray (den P R k) (ops.drop m) a w:=by
 obtain ⟨E',H',h1,h2,h3⟩:=iA acc.reverse E0 (Hf true) hfin C 0 (fun i d b hb=>by rw [Nat.zero_add]; exact hC i d b hb)
 have hinv:=hM.inv
 rw [hall p hpm] at hinv
 refine h1 a w ⟨V,hinv.hp_of (fun hh=>?_),hM.df,hM.sz,fun t T hT=>?_⟩
 ·refine HH.sublist (h3.trans ?_) hh
  rw [List.length_reverse,hlen]
  have : (List.range m).map (fun i => (C (0 + i)).2) = (List.range m).map fun i => if L i then (C i).2 else SA.emp := by
   apply List.map_congr_left
   intro i hi
   rw [hall i (List.mem_range.1 hi)]; simp
  rw [this]; exact List.Sublist.refl _
 ·rcases h2 t T hT with ⟨q1, q2⟩ | ⟨i, d, b, q1, q0, q2, q3⟩
  ·refine hM.old t T q1 (fun j hj => ?_)
   obtain ⟨d,b,hb⟩:=kS.len hobs j (by omega)
   by_cases hbp:b = .put
   ·subst hbp; rw [hobs.dst0 hb]; simp
   ·rw [hobs.dst hb hbp]
    intro e; exact q2 j d b hb hbp (Option.some.inj e)
  ·have hi : i < m := by have := (List.getElem?_eq_some_iff.1 q1).1; simpa [hlen] using this
   subst q2; rw [q3,Nat.zero_add]
   exact hM.now i d hi (hall i hi) (hobs.dst q1 q0)
theorem rS.next {ops : List Oper} {m : Nat} {E0 : cB} (hd : Dn ops m) {listed : Array Bool} {a : Act} {w w' : World} {V V' : aO} {C : Nat → Ty × SA} (hsz : listed.size = ops.length) (hM : rS cx n ops m E0 Hf p (fun i => listed[i]? == some true) C V a w) {i d : Nat} (hi : i < m) (hip : i ≠ p)
  (hdst:eM ops i = some d) (hdn:d < n) (hli:listed[i]? = some false) {T:Ty} {A:SA} {v:Value} (hv:T.p v V') (hle:kC V V')
  (hinv:fN cx V' (Hf (listed[p]? == some true) ++ ((List.range m).map fun i=>if (listed[i]? == some true) = true then (C i).2 else SA.emp).set i A) w') :
  rS cx n ops m E0 Hf p (fun j=>(listed.setIfInBounds i true)[j]? == some true) (fun j=>if j = i then (T,A) else C j) V' (a.put (some d) v) w':=by
 have hil:i < listed.size:=(Array.getElem?_eq_some_iff.1 hli).1
 refine ⟨?_,hM.df.mono hle,by simp [Act.put,hM.sz],fun t U hU hn=>?_,fun j d' hj hL hdj=>?_⟩
 ·rw [lI hi] at hinv
  have e : ((List.range m).map fun j => if j = i then A else if (listed[j]? == some true) = true then (C j).2 else SA.emp) = (List.range m).map fun j => if ((listed.setIfInBounds i true)[j]? == some true) = true then (if j = i then (T, A) else C j).2 else SA.emp := by
   apply List.map_congr_left
   intro j _
   by_cases e:j = i
   ·subst e; simp [hil]
   ·rw [Array.getElem?_setIfInBounds_ne (fun x => e x.symm)]
    simp [e]
  rw [e] at hinv
  show fN cx V' (Hf ((listed.setIfInBounds i true)[p]? == some true) ++ _) w'
  rw [Array.getElem?_setIfInBounds_ne hip]; exact hinv
 ·obtain ⟨u, h1, h2⟩ := hM.old t U hU hn
  refine ⟨u,?_,U.mono h2 hle⟩
  rw [qR _ _ _ _ (fun e=>hn i hi (by rw [hdst,e]))]; exact h1
 ·by_cases e : j = i
  ·subst e
   rw [hdst] at hdj; obtain rfl:=Option.some.inj hdj
   exact ⟨v,by simp [Act.put,hM.sz,hdn],by simpa using hv⟩
  ·rw [Array.getElem?_setIfInBounds_ne (fun x => e x.symm)] at hL
   obtain ⟨u,h1,h2⟩:=hM.now j d' hj hL hdj
   refine ⟨u,?_,by simpa [e] using Ty.mono _ h2 hle⟩
   rw [qR _ _ _ _ (fun x=>?_)]
   ·exact h1
   ·subst x
    rcases Nat.lt_or_ge j i with q | q
    ·exact hd.dst i j hi q _ hdst hdj
    ·exact hd.dst j i hj (by omega) _ hdj hdst
theorem rS.put {ops : List Oper} {m : Nat} {E0 : cB} {listed : Array Bool} {a : Act} {w w' : World} {V : aO} {C : Nat → Ty × SA} (hM : rS cx n ops m E0 Hf p (fun i => listed[i]? == some true) C V a w) (hi : p < m)
  (hdst:eM ops p = none) (hli:listed[p]? = some false)
  (hinv:fN cx V (Hf true ++ (List.range m).map fun i=>if (listed[i]? == some true) = true then (C i).2 else SA.emp) w') :
  rS cx n ops m E0 Hf p (fun j=>(listed.setIfInBounds p true)[j]? == some true) (fun j=>if j = p then (mA,SA.emp) else C j) V a w':=by
 have hil:p < listed.size:=(Array.getElem?_eq_some_iff.1 hli).1
 refine ⟨?_,hM.df,hM.sz,hM.old,fun j d' hj hL hdj=>?_⟩
 ·have e : ((List.range m).map fun i => if (listed[i]? == some true) = true then (C i).2 else SA.emp) = (List.range m).map fun j => if ((listed.setIfInBounds p true)[j]? == some true) = true then (if j = p then (mA, SA.emp) else C j).2 else SA.emp := by
   apply List.map_congr_left
   intro j _
   by_cases e:j = p
   ·subst e
    have hf:listed[j] = false:=by simpa [hil] using hli
    simp [hil,hf]
   ·rw [Array.getElem?_setIfInBounds_ne (fun x => e x.symm)]
    simp [e]
  rw [e] at hinv
  show fN cx V (Hf ((listed.setIfInBounds p true)[p]? == some true) ++ _) w'
  have:((listed.setIfInBounds p true)[p]? == some true) = true:=by simp [hil]
  rw [this]; exact hinv
 ·by_cases e : j = p
  ·subst e; rw [hdst] at hdj; cases hdj
  ·rw [Array.getElem?_setIfInBounds_ne (fun x => e x.symm)] at hL
   simpa [e] using hM.now j d' hj hL hdj
theorem lF {ops : List Oper} {m : Nat} {acc : List (Nat × Ob)} {E0 : cB} (hd : Dn ops m) (hlen : acc.length = m) (hobs : kS P n ops m E0 Hf p acc) (hfin : Fin' P R cx n ops.toArray (ops.drop m) k acc.reverse E0 (Hf true)) (hpm : p < m) (hpo : p < ops.length) :
  ∀ (fuel : Nat) (listed : Array Bool) (a : Act) (w : World) (V : aO) (C : Nat → Ty × SA), LI ops listed → gP listed.toList ≤ fuel → (∀ i : Nat, m ≤ i → i < ops.length → listed[i]? = some false) →
   (∀ (i d:Nat) (b:Ob),acc.reverse[i]? = some (d,b) → listed[i]? = some true → iM b (C i)) → rS cx n ops m E0 Hf p (fun i=>listed[i]? == some true) C V a w → wpAny P .any ops.toArray (den P R k) fuel listed a w:=by
 intro fuel
 have done : ∀ (listed : Array Bool) (a : Act) (w : World) (V : aO) (C : Nat → Ty × SA), LI ops listed → ∀ fuel, gP listed.toList ≤ fuel → (∀ i : Nat, m ≤ i → i < ops.length → listed[i]? = some false) →
   (∀ (i d:Nat) (b:Ob),acc.reverse[i]? = some (d,b) → listed[i]? = some true → iM b (C i)) → rS cx n ops m E0 Hf p (fun i=>listed[i]? == some true) C V a w → (∀ i:Nat,i < m → listed[i]? = some true) → wpAny P .any ops.toArray (den P R k) fuel listed a w:=by
  intro listed a w V C hL fuel hc hl hC hM hall
  have hge:=vS listed.toList m (by simpa [hL.sz] using hd.le) (fun i h1 h2=>by simpa using hl i h1 (by simpa [hL.sz] using h2))
  refine oJ hd fuel m listed a w (Nat.le_refl m) hd.le (by simp [hL.sz] at hge; omega) hL (fun i hi=>?_) ?_
  ·by_cases e : i < m
   ·rw [hall i e]; simp [e]
   ·rw [hl i (by omega) hi]; simp; omega
  ·refine oV hlen hobs hfin hpm (fun i hi => by rw [hall i hi]; rfl) (fun i d b hb => hC i d b hb (hall i ?_)) hM
   have:=(List.getElem?_eq_some_iff.1 hb).1
   simpa [hlen] using this
 induction fuel with
 | zero =>
  intro listed a w V C hL hc hl hC hM
  refine done listed a w V C hL 0 hc hl hC hM (fun i hi=>?_)
  have hil:i < listed.size:=by rw [hL.sz]; have:=hd.le; omega
  cases hb:listed[i] with
  | true=>simp [hil,hb]
  | false =>
   have:=oA listed.toList i (by simp [hil,hb])
   omega
 | succ fuel ih =>
  intro listed a w V C hL hc hl hC hM
  by_cases hall:∀ i:Nat,i < m → listed[i]? = some true
  ·exact done listed a w V C hL _ hc hl hC hM hall
  refine ⟨fun hr=>absurd (fun i hi=>mQ hr hL.sz hd.back i (by have:=hd.le; omega)) hall,fun i hi=>?_⟩
  obtain ⟨o,h1,h2,h3⟩:=lB hi hL.sz
  have him : i < m := by
   rcases Nat.lt_or_ge i m with hx | hx
   ·exact hx
   ·exact absurd (fun j hj=>hL.before hd h1 h3 hx j (by omega)) hall
  obtain ⟨d,b,hb⟩:=kS.len hobs i (by omega)
  obtain ⟨o',q1,q4⟩:=hobs.get hb
  rw [h1] at q1; obtain rfl:=Option.some.inj q1
  have hpl:(acc.reverse.take i).reverse.length = i:=by simp; omega
  have slots : ∀ Ei, Srcs ops m E0 (acc.reverse.take i).reverse o Ei → dA n Ei V a := fun Ei hS => by
   refine ⟨hM.df,hM.sz,fun t T hT=>?_⟩
   rcases hS t T hT with ⟨r1,r2⟩ | ⟨j,r1,r2⟩
   ·refine hM.old t T r1 (fun j hj e => ?_)
    have:=List.all_eq_true.1 r2 j (List.mem_range.2 hj)
    simp [e] at this
   ·rw [List.reverse_reverse, List.getElem?_take] at r1
    split at r1
    case isFalse=>cases r1
    case isTrue hji =>
    obtain ⟨e,he,hb'⟩:=List.any_eq_true.1 r2
    simp only [Bool.and_eq_true] at hb'
    have hon:e.on = j:=Nat.eq_of_beq_eq_true hb'.1
    have hlj:=h3 e he hb'.2
    rw [hon] at hlj
    have hc':C j = (T,SA.emp):=hC j t (.val T) r1 hlj
    obtain ⟨v,s1,s2⟩:=hM.now j t (by omega) (by rw [hlj]; rfl) (hobs.dst r1 (by simp))
    exact ⟨v,s1,by rw [hc'] at s2; exact s2⟩
  have hcnt : gP (listed.setIfInBounds i true).toList ≤ fuel := by
   have:=oB listed.toList i (by simpa using h2)
   rw [Array.toList_setIfInBounds]; omega
  have hl' : ∀ j : Nat, m ≤ j → j < ops.length → (listed.setIfInBounds i true)[j]? = some false := fun j hj hjl => by
   rw [Array.getElem?_setIfInBounds_ne (by omega)]; exact hl j hj hjl
  have took : ∀ (T : Ty) (A : SA), iM b (T, A) → ∀ (j d : Nat) (b : Ob), acc.reverse[j]? = some (d, b) → (listed.setIfInBounds i true)[j]? = some true → iM b (if j = i then (T, A) else C j) := fun T A ht j d' b' hb' hj => by
   by_cases e:j = i
   ·subst e
    rw [hb] at hb'; simp at hb'
    simp only [if_pos]; exact hb'.2 ▸ ht
   ·rw [Array.getElem?_setIfInBounds_ne (fun x => e x.symm)] at hj
    simp only [if_neg e]; exact hC j d' b' hb' hj
  have hx : ((List.range m).map fun i => if (listed[i]? == some true) = true then (C i).2 else SA.emp).set i SA.emp = (List.range m).map fun i => if (listed[i]? == some true) = true then (C i).2 else SA.emp := by
   rw [lI him]
   apply List.map_congr_left
   intro j _
   by_cases e:j = i
   ·subst e; simp [h2]
   ·simp [e]
  unfold wpOp
  simp only [List.getElem?_toArray,h1]
  cases b with
  | val T =>
   obtain ⟨⟨q2,q3,q5⟩,Ei,hS,hst⟩:=q4
   rw [hpl] at q5
   have hdst:=hobs.dst hb (by simp)
   have hst' : gH P n ops.toArray Ei (Hf (listed[p]? == some true)) o T := by
    rcases hst with hst | ⟨hst,hbit⟩
    ·exact hst _
    ·have hnp : (listed[p]? == some true) = false := by
      cases Ql:(listed[p]? == some true) with
      | false=>rfl
      | true =>
       exfalso
       have hlp':listed[p]? = some true:=by simpa using Ql
       rw [hpl] at hbit
       have ho:ops[p]? = some ops[p]:=List.getElem?_eq_getElem hpo
       have:=tE (fun j=>listed[j]? = some true) ops hL.cl ops [] (fun j o hj=>by simpa using hj) (fun k o hk=>by simp at hk) p ops[p] (by rw [mI]; simpa using hpo) ho (hL.cl p _ ho hlp') i hbit
       rw [h2] at this; simp at this
     rw [hnp]; exact hst
   have := hst' cx _ a w V hM.inv (slots Ei hS) (wpAny P .any ops.toArray (den P R k) fuel (listed.setIfInBounds i true)) (den P R k) (fun v w' V' hi' hle hv => by
    rw [q2]
    exact ih _ _ _ V' _ (hL.set h1 h3) hcnt hl' (took T SA.emp rfl) (hM.next hd hL.sz him q5 hdst q3 h2 hv hle (by rw [hx]; exact hi')))
   split
   ·rename_i hw; rw [if_pos hw] at this; exact .inl this
   ·rename_i hw; rw [if_neg hw] at this; exact this
  | new γ T A =>
   obtain ⟨⟨q2,q3,q5⟩,hg,Ei,hS,hst⟩:=q4
   rw [hpl] at q5
   have hdst:=hobs.dst hb (by simp)
   rw [if_pos (by simp [Region.wanted,hg])]
   left
   refine hst (listed[p]? == some true) cx _ a w V hM.inv (slots Ei hS) _ _ fun x v w' V' e3 hle e2=>?_
   rw [q2]
   refine ih _ _ _ V' _ (hL.set h1 h3) hcnt hl' (took (T x) (A x) ⟨x,rfl⟩) (hM.next hd hL.sz him q5 hdst q3 h2 e2 hle (e3.hp_of (fun hh=>?_)))
   have:=HH.move (p:=(Hf (listed[p]? == some true)).length + i) hh (by simp; omega)
   rw [List.set_append_right _ _ (by omega),show (Hf (listed[p]? == some true)).length + i - (Hf (listed[p]? == some true)).length = i by omega] at this
   exact this
  | put =>
   obtain ⟨q5,hg,q2,Ei,hS,hst⟩:=q4
   rw [hpl] at q5
   subst q5
   have hnp:(listed[i]? == some true) = false:=by rw [h2]; rfl
   have hinv:=hM.inv
   rw [hnp] at hinv
   obtain ⟨w',e1,e3⟩:=hst cx _ a w V hinv (slots Ei hS)
   rw [if_pos (by simp [Region.wanted,hg])]
   left
   simp only [Oper.wp,e1,Oper.upon_skip]
   have ep:a.put o.dst undef = a:=by rw [q2]; rfl
   rw [ep]
   exact ih _ _ _ V _ (hL.set h1 h3) hcnt hl' (took mA SA.emp rfl) (hM.put him (hobs.dst0 hb) h2 e3)
theorem D_done {ops l : List Oper} {m : Nat} {acc : List (Nat × Ob)} (hP : P.follows .mixedOrders = true) (hm : acc.length = m) (hchk : rX ops m = true) (hpm : Nat.blt p m = true) (h : Fin' P R cx n ops.toArray l k acc.reverse E (Hf true)) : Dr P R cx n ops m k E Hf p l acc := fun hops hobs id a w ⟨V, hi, hs⟩ => by
 have hd:=Dn.of hchk
 have hl : ops.drop m = l := by
  conv=>lhs; rw [hops]
  rw [List.drop_append,List.drop_of_length_le (by simp; omega)]
  simp [hm,Nat.min_eq_left hd.le]
 refine wp_region_any hP ?_
 have hnone : ∀ i : Nat, (Array.replicate ops.toArray.size false)[i]? ≠ some true := fun i h => by
  rw [Array.getElem?_replicate] at h; split at h <;> simp at h
 have hpm':p < m:=Nat.le_of_ble_eq_true hpm
 refine lF (cx:=cx) (n:=n) (E0:=E) (Hf:=Hf) (p:=p) hd hm hobs (by rw [hl]; exact h) hpm' (by have:=hd.le; omega) _ _ a _ V (fun _=>(mA,SA.emp)) ⟨by simp,fun i o ho h=>absurd h (hnone i)⟩ ?_ (fun i h1 h2=>by simp [h2]) (fun i d b _ h=>absurd h (hnone i)) ?_
 ·have : ∀ j, gP (List.replicate j false) ≤ j := fun j => by
   induction j with
   | zero=>simp [gP]
   | succ j ih=>simp only [List.replicate_succ,gP]; simp; omega
  simpa using this _
 ·refine ⟨?_, hs.1, hs.2.1, fun t T hT _ => hs.2.2 t T hT, fun j d hj hL => ?_⟩
  ·have e : ((List.range m).map fun i => if ((Array.replicate ops.toArray.size false)[i]? == some true) = true then ((fun _ => (mA, SA.emp)) i : Ty × SA).2 else SA.emp) = (List.range m).map fun _ => SA.emp := by
    apply List.map_congr_left; intro i _; split <;> rfl
   rw [e]
   have h0 : ((Array.replicate ops.toArray.size false)[p]? == some true) = false := by
    cases hc:((Array.replicate ops.toArray.size false)[p]? == some true) with
    | false=>rfl
    | true=>exact absurd (by simpa using hc) (hnone p)
   simp only [h0]
   have:=hi.drew
   refine this.hp_of (fun hh=>?_)
   obtain ⟨F,f1,f2⟩:=hh
   refine ⟨fun i=>if i < (Hf false).length then F i else [],fun i A hA=>?_,fun i j b hi hj hbi hbj=>?_⟩
   ·by_cases e : i < (Hf false).length
    ·rw [List.getElem?_append_left e] at hA
     simp only [if_pos e]; exact f1 i A hA
    ·rw [List.getElem?_append_right (by omega)] at hA
     have : A = SA.emp := by
      rw [List.getElem?_map] at hA
      cases hq:(List.range m)[i - (Hf false).length]? with
      | none=>rw [hq] at hA; cases hA
      | some q=>rw [hq] at hA; simpa using hA.symm
     subst this
     simp only [if_neg e]
     exact ⟨rfl,fun b hb=>by simp at hb⟩
   ·by_cases e : i < (Hf false).length <;> by_cases e' : j < (Hf false).length
    ·simp only [if_pos e,if_pos e'] at hbi hbj; exact f2 i j b e e' hbi hbj
    ·simp [e'] at hbj
    ·simp [e] at hbi
    ·simp [e] at hbi
  ·exact absurd (by simpa using hL) (hnone j)
theorem F_nil {ops:Array Oper} {l:List Oper} (h:Rg P R cx n ops l k E H):Fin' P R cx n ops l k [] E H:=h
theorem F_val {ops:Array Oper} {l:List Oper} {d:Nat} {T:Ty} {r:List (Nat × Ob)} (h:Fin' P R cx n ops l k r ((d,T) :: E) H):Fin' P R cx n ops l k ((d,.val T) :: r) E H:=h
theorem F_put {ops:Array Oper} {l:List Oper} {d:Nat} {r:List (Nat × Ob)} (h:Fin' P R cx n ops l k r E H):Fin' P R cx n ops l k ((d,.put) :: r) E H:=h
end
end W
end
section
open Go Go.RowKit
section
variable {P:Program} {R:eA} {cx:Cx} {n:Nat} {k:List It} {E:cB} {H:Hp} {ops:Array Oper} {o:Oper} {rest:List Oper}
variable {d:Option Tmp} {t tx ty:TypeId} {pos:String} {af:Array Edge} {g:Option (Nat × Bool)}
theorem wB {H X:Hp} {i:Nat} {A:SA} (h:H[i]? = some A):(H ++ X)[i]? = some A:=by
 rw [List.getElem?_append_left (List.getElem?_eq_some_iff.1 h).1]; exact h
theorem wO {H X:Hp} {i:Nat} {A B:SA} (h:H[i]? = some A):(H ++ X).set i B = H.set i B ++ X:=List.set_append_left _ _ (List.getElem?_eq_some_iff.1 h).1
theorem a1g {x y : Operand} {i B o' : Nat} {BT : TypeId} {Ts : List Ty} {T : Ty} [hsh : dI T 1 false] (hS : ∀ w, (sizeOf t).run P w = .ok 1 w) (hx : aA E x (eH B o')) (hy : aA E y T)
  (hH:H[i]? = some (box B BT Ts)) (hlt:o' < Ts.length) {t':TypeId}:W.PutTy P n E H (H.set i (box B BT (Ts.set o' T))) ⟨none,.store t x y,t',pos,af,none⟩ :=
 fun cx X a w V hi hs=>Sm (H:=H ++ X) hS hx hy (wB hH) hlt (wO hH) a w V hi hs
theorem Nv {x y : Operand} {i e s q r : Nat} {v : Value} {Ts : List Ty} {T : Ty} (hS : ∀ w, (sizeOf t).run P w = .ok s w) (hx : aA E x (Tj v r)) (hy : aA E y T) (hEl : El s T)
  (hH:H[i]? = some (bN e s v Ts)) (hr:r = q * s) (hq:q < Ts.length) {t':TypeId}:W.PutTy P n E H (H.set i (bN e s v (Ts.set q T))) ⟨none,.store t x y,t',pos,af,none⟩ :=
 fun cx X a w V hi hs=>Ky (H:=H ++ X) hS hx hy hEl (wB hH) hr hq (wO hH) a w V hi hs
def Ja (p:Prop) (T:Ty):Ty:=⟨fun v V=>(p → T.p v V) ∧ (¬p → v = undef),fun h k=>⟨fun x=>T.mono (h.1 x) k,h.2⟩⟩
theorem aA.wu {t : Nat} {p : Prop} {T : Ty} (h : fH E t = some (Ja p T)) (hp : p) : aA E (.tmp t) T := fun n V a hs => by
 obtain ⟨v,h1,h2⟩:=hs.2.2 t _ h
 have e:a.eval (.tmp t) = v:=by simp [Act.eval,h1]
 rw [e]; exact h2.1 hp
theorem sJ {T : Ty} {j : Nat} {want : Bool} {tb : Nat} {b : Bool} (hg : o.guard = some (j, want)) (hj : (ops[j]?).bind (·.dst) = some tb) (hb : aA E (.tmp tb) (aD b))
  (h:b = want → aM P n E H o T):gH P n ops E H o (Ja (b = want) T):=fun cx X a w V hi hs K Q hK=>by
 have e:a.eval (.tmp tb) = .bool b:=hb n V a hs
 have hy : yielded ops a.tmps j = some b := by
  simp only [yielded,hj,Option.bind_some]
  simp only [Act.eval] at e
  have : a.tmps[tb]? = some (.bool b) := by
   cases h1:a.tmps[tb]? with
   | none=>simp [h1,undef] at e
   | some v=>simp [h1] at e; rw [e]
  rw [this]
 by_cases hw:b = want
 ·rw [if_pos (by simp [Region.wanted, hg, hy, hw])]
  exact h hw cx X a w V hi hs K Q (fun v w' V' h1 h2 h3=>hK v w' V' h1 h2 ⟨fun _=>h3,fun x=>absurd hw x⟩)
 ·rw [if_neg (by simp [Region.wanted, hg, hy, hw])]
  exact hK _ _ V hi (kC.refl V) ⟨fun x=>absurd x hw,fun _=>rfl⟩
theorem Ix {T : Ty} {j : Nat} {want : Bool} {tb : Nat} {b : Bool} {p : Prop} (hg : o.guard = some (j, want)) (hj : (ops[j]?).bind (·.dst) = some tb) (hb : fH E tb = some (Ja p (aD b)))
  (h:p → b = want → aM P n E H o T):gH P n ops E H o (Ja (p ∧ b = want) T):=fun cx X a w V hi hs K Q hK=>by
 obtain ⟨v,h1,h2,h3⟩:=hs.2.2 tb _ hb
 by_cases hp:p
 ·have hv : v = .bool b := h2 hp
  have hy : yielded ops a.tmps j = some b := by
   simp only [yielded,hj,Option.bind_some,h1,hv]
  by_cases hw:b = want
  ·rw [if_pos (by simp [Region.wanted, hg, hy, hw])]
   exact h hp hw cx X a w V hi hs K Q (fun v w' V' h1 h2 h3=>hK v w' V' h1 h2 ⟨fun _=>h3,fun x=>absurd ⟨hp,hw⟩ x⟩)
  ·rw [if_neg (by simp [Region.wanted, hg, hy, hw])]
   exact hK _ _ V hi (kC.refl V) ⟨fun x=>absurd x.2 hw,fun _=>rfl⟩
 ·have hv : v = undef := h3 hp
  have hy : yielded ops a.tmps j = none := by
   simp only [yielded,hj,Option.bind_some,h1,hv]; rfl
  rw [if_neg (by simp [Region.wanted,hg,hy])]
  exact hK _ _ V hi (kC.refl V) ⟨fun x=>absurd x.1 hp,fun _=>rfl⟩
theorem Zz {fn : Func} {Z : SA} {γ : Type} {U : γ → Ty} {As' : γ → Hp} {Q : γ → Prop} (x : γ) (hQ : Q x) (is : List Nat) (hp : vA H is (Z :: As' x)) (nd : is.Nodup)
  (hr:∀ (a:Act) (w:World) (V:aO),fN cx V H w → dA n E V a → ∃ v,(results fn a.tmps).run P w = .ok v w ∧ (U x).p v V) (h206:Nat.beq n 206 = false:=by rfl):Tr P (Zx P fn cx Z γ U As' Q) cx n [] E H :=
 a1l fun a w ⟨V, hi, hs⟩ => by
  obtain ⟨v,h1,h2⟩:=hr a w V hi hs
  exact ⟨hs.1.nil h206,v,h1,v,V,x,rfl,hi.le,hi.withHH (hi.hp.pick hp nd),h2,hQ⟩
def rD (l:List Nat):Ty:=⟨fun v _=>∃ s:ByteArray,v = .string s ∧ s.data.toList.map UInt8.toNat = l,fun h _=>h⟩
instance shStrT (l:List Nat):dI (rD l) 1 false:=gB fun v V h=>by obtain ⟨s,rfl,_⟩:=h; trivial
abbrev zM (m:Nat):Ty:=NT .u8 m
theorem nI {l m:List Nat} (h:l = m):∀ v V,(rD l).p v V → (rD m).p v V:=fun v V e=>h ▸ e
theorem aA.cS {s:ByteArray} {l:List Nat} (h:s.data.toList.map UInt8.toNat = l):aA E (.const (.string s)) (rD l):=fun n V a _=>⟨s,rfl,h⟩
theorem aA.to {x:Operand} {T U:Ty} (h:aA E x T) (i:∀ v V,T.p v V → U.p v V):aA E x U:=fun n V a hs=>i _ _ (h n V a hs)
theorem qX {x y : Operand} {l m : List Nat} (hx : aA E x (rD l)) (hy : aA E y (rD m)) (hl : l.length + m.length ≤ 9223372036854775807) : aM P n E H ⟨d, .binOp .add tx x y ty, t, pos, af, g⟩ (rD (l ++ m)) :=
 dF fun a V w hs => by
  obtain ⟨s,e1,h1⟩:=hx n V a hs
  obtain ⟨s',e2,h2⟩:=hy n V a hs
  have l1:s.size = l.length:=by rw [← h1,List.length_map]; exact Array.length_toList.symm
  have l2:s'.size = m.length:=by rw [← h2,List.length_map]; exact Array.length_toList.symm
  have hr:=run_string_add_sum (P:=P) (w:=w) s s' (by omega)
  refine ⟨.string (s ++ s'),?_,s ++ s',rfl,?_⟩
  ·have g1 : eqGuard .add tx x y (.string s) (.string s') = pure () := rfl
   have g2:binOp .add tx (.string s) (.string s') = Op.stringOp .add s s':=rfl
   simp only [execOp,e1,e2]
   rw [g1,g2]
   simp [Sem.run_bind,hr,Result.andThen]
  ·rw [← h1,← h2,← List.map_append]; simp [ByteArray.data_append]
theorem toNat_inj {a b:List UInt8} (h:a.map UInt8.toNat = b.map UInt8.toNat):a = b:=by
 induction a generalizing b with
 | nil => cases b with
  | nil=>rfl
  | cons=>simp at h
 | cons x a ih => cases b with
  | nil=>simp at h
  | cons y b =>
   simp only [List.map_cons,List.cons.injEq] at h
   rw [ih h.2,UInt8.toNat_inj.1 h.1]
theorem Hw {x y : Operand} {l m : List Nat} (hx : aA E x (rD l)) (hy : aA E y (rD m)) : aM P n E H ⟨d, .binOp .eql tx x y ty, t, pos, af, g⟩ (aD (decide (l = m))) :=
 dF fun a V w hs => by
  obtain ⟨s,e1,h1⟩:=hx n V a hs
  obtain ⟨s',e2,h2⟩:=hy n V a hs
  refine ⟨.bool (s.toList == s'.toList),?_,?_⟩
  ·have g1 : eqGuard .eql tx x y (.string s) (.string s') = pure () := rfl
   have g2:binOp .eql tx (.string s) (.string s') = pure (.bool (s.toList == s'.toList)):=by rw [binOp_string_eql]
   simp only [execOp,e1,e2]
   rw [g1,g2]
   simp [Sem.run_bind,Result.andThen]
  ·show Value.bool _ = Value.bool _
   congr 1
   rw [ByteArray.toList_eq,ByteArray.toList_eq,Bool.eq_iff_iff]
   simp only [beq_iff_eq,decide_eq_true_eq]
   rw [← h1,← h2]
   exact ⟨fun e=>by rw [e],toNat_inj⟩
theorem Rj {x : Operand} {l : List Nat} {e : TypeId} (hs : P.underlying tx = some (.slice e)) (he : P.underlying e = some (.int .u8)) (hd : P.underlying ty = some .string) (hx : aA E x (kT 1 (l.map zM))) (hne : l ≠ []) (hl : ∀ b, b ∈ l → b < 256) :
  aM P n E H ⟨d,.convert tx ty x,t,pos,af,g⟩ (rD l) :=
 Ko fun a V w hV hsl => by
  have hne':l.map zM ≠ []:=fun e=>hne (by simpa using e)
  obtain ⟨b,ob,cap,xs,ex,_,hrow,hc⟩:=kT.row (hx n V a hsl) hne' (fun T hT=>by obtain ⟨q,_,rfl⟩:=List.mem_map.1 hT; exact El.one)
  have hpl : ∀ v, v ∈ xs → jA v := fun v hv => by
   obtain ⟨T,hT,hv⟩:=hrow.all.mem v hv
   obtain ⟨q,_,rfl⟩:=List.mem_map.1 hT
   cases hv; trivial
  have hcell:=hc w hV
  rw [rZ xs hpl] at hcell
  have hr := run_convert_bytes_arg (P := P) w tx e hs he b ob (l.map zM).length cap (l.map (fun q : Nat => (q : Int))) (by simp) (fun i hi => by
   have hil:i < l.length:=by simpa using hi
   obtain ⟨v,h1,h2⟩:=hrow.all.get (i:=i) (T:=zM l[i]) (by simp [hil])
   have h3:=hcell i v h1
   rw [fO] at h3
   have h2':v = .int .u8 (l[i]:Int):=h2
   rw [h3,h2']; simp [List.getD,hil]) ty hd
  refine ⟨.string (strOfNums (l.map (fun q:Nat=>(q:Int)))),by simp only [execOp,ex,Sem.run_bind,hr,Result.andThen]; rfl,_,rfl,?_⟩
  rw [strOfNums_data,List.map_map,List.map_map]
  conv=>rhs; rw [← List.map_id l]
  apply List.map_congr_left
  intro q hq
  have:=hl q hq
  simp [UInt8.toNat_ofNat']
  omega
end
end
section
open Go Go.RowKit
structure Bo (l o:List Nat) (k:Nat):Prop where
 len:o.length = l.length
 kle:2 * k ≤ l.length
 at_:∀ q,q < l.length → o.getD q 0 = if q < k ∨ l.length - k ≤ q then l.getD (l.length - 1 - q) 0 else l.getD q 0
theorem Bo.start (l:List Nat):Bo l l 0:=⟨rfl,Nat.zero_le _,fun q hq=>by rw [if_neg (by omega)]⟩
theorem Bo.next {l o:List Nat} {k:Nat} (h:Bo l o k) (hk:2 * k + 1 < l.length) {j:Nat} (hj:j = l.length - 1 - k):Bo l ((o.set k (o.getD j 0)).set j (o.getD k 0)) (k + 1):=by
 have hl:=h.len
 refine ⟨by simp [hl],by omega,fun q hq=>?_⟩
 have ak:=h.at_ k (by omega); have aj:=h.at_ j (by omega); have aq:=h.at_ q hq
 rw [if_neg (by omega)] at ak aj
 by_cases e1:q = j
 ·subst e1
  rw [nP (by simp; omega),ak,if_pos (by omega)]
  congr 1; omega
 ·rw [dS (fun x => e1 x.symm)]
  by_cases e2:q = k
  ·subst e2
   rw [nP (by omega),aj,if_pos (by omega),hj]
  ·rw [dS (fun x => e2 x.symm), aq]
   by_cases c:q < k ∨ l.length - k ≤ q
   ·rw [if_pos c,if_pos (by omega)]
   ·rw [if_neg c,if_neg (by omega)]
theorem Bo.fin {l o:List Nat} {k:Nat} (h:Bo l o k) (hk:l.length ≤ 2 * k + 1):o = l.reverse:=by
 have hl:=h.len; have hkl:=h.kle
 apply List.ext_getElem
 ·simp [hl]
 ·intro q h1 h2
  have hq:=h.at_ q (by omega)
  rw [gT h1] at hq
  rw [hq,List.getElem_reverse]
  by_cases c:q < k ∨ l.length - k ≤ q
  ·rw [if_pos c,gT (by omega)]
  ·rw [if_neg c]
   have:l.length - 1 - q = q:=by omega
   rw [gT (by omega)]; congr 1; omega
theorem a1N (L:Nat):BB ^ L ≤ 10 ^ (10 * L):=by
 rw [Nat.pow_mul]; exact Nat.pow_le_pow_left (by decide) _
theorem pM (n:Nat):(pL n).length ≤ 10 * (dg n).length:=by
 have h:=iP (cO n)
 rw [eR] at h
 exact Pt (Nat.lt_of_lt_of_le h (a1N _))
theorem wY.len {N x r k:Nat} {out:List Nat} (h:wY N out x r k) (hp:0 < x ∨ 0 < r):out.length + 1 ≤ 10 * (dg N).length:=by
 have h1:=congrArg List.length h.sum
 have h2:=pM N
 have pp:0 < 10 ^ (9 - k):=Nat.pow_pos (by decide)
 have hne : x * 10 ^ (9 - k) + r ≠ 0 := by
  rcases hp with h3 | h3
  ·have:=Nat.mul_pos h3 pp; omega
  ·omega
 rw [pN hne,List.length_append,List.length_cons] at h1
 omega
theorem wY.r32 {N x r k:Nat} {out:List Nat} (h:wY N out x r k):r < 4294967296:=by
 have h1:=h.rlt
 have h2:10 ^ (9 - k) ≤ 10 ^ 9:=Nat.pow_le_pow_right (by decide) (by omega)
 omega
theorem a1c (l:List Nat) (d:Nat):l.map zM ++ [zM d] = (l ++ [d]).map zM:=by simp
theorem Tb (l:List Nat) (i d:Nat):(l.map zM).set i (zM d) = (l.set i d).map zM:=by rw [List.map_set]
theorem Yg (l:List Nat) (i d j e:Nat):((l.map zM).set i (zM d)).set j (zM e) = ((l.set i d).set j e).map zM:=by rw [Tb,Tb]
theorem vT {n:Nat} (h:n ≠ 0):xM n = (pL n).reverse:=by simp [xM,h]
theorem a0g {n : Nat} : ∀ b, b ∈ xM n → b < 256 := fun b hb => by
 by_cases h:n = 0
 ·subst h; simp [xM] at hb; omega
 ·rw [vT h] at hb
  have:=Ps (List.mem_reverse.1 hb); omega
theorem Vj {n:Nat} (h:n ≠ 0):pL n ≠ []:=by rw [pN h]; simp
theorem sR (n:Nat):(xM n).length ≤ 10 * (dg n).length + 1:=by
 by_cases h:n = 0
 ·subst h; simp [xM]
 ·rw [vT h,List.length_reverse]; have:=pM n; omega
end
section
structure Qi where
 re:Rat
 im:Rat
namespace Qi
theorem ext' {x y:Qi} (h:x.re = y.re) (k:x.im = y.im):x = y:=by cases x; cases y; simp at h k; rw [h,k]
def den (x:Qi):Nat:=Nat.lcm x.re.den x.im.den
def a (x:Qi):Int:=x.re.num * (x.den / x.re.den:Nat)
def b (x:Qi):Int:=x.im.num * (x.den / x.im.den:Nat)
def mk' (A B:Int) (D:Nat):Qi:=⟨(A:Rat) / (D:Rat),(B:Rat) / (D:Rat)⟩
theorem den_pos (x:Qi):0 < x.den:=Nat.lcm_pos x.re.den_pos x.im.den_pos
theorem nc {n:Nat} (h:0 < n):(n:Rat) ≠ 0:=by
 intro e; have:(n:Rat) = ((0:Nat):Rat):=e; have:=Rat.natCast_inj.1 this; omega
theorem Am {q:Rat} {A:Int} {D:Nat} (hD:0 < D):q = (A:Rat) / (D:Rat) ↔ q.num * D = A * q.den:=by
 have h1:=nc hD; have h2:=nc q.den_pos
 have h3:q = (q.num:Rat) / (q.den:Rat):=((Rat.num_divInt_den q).symm.trans (Rat.divInt_eq_div _ _))
 constructor
 ·intro h
  have : (q.num : Rat) * (D : Rat) = (A : Rat) * (q.den : Rat) := by
   have e:(q.num:Rat) = q * (q.den:Rat):=by grind
   have e2:(A:Rat) = q * (D:Rat):=by grind
   rw [e,e2]; grind
  have h5 : ((q.num * (D : Int) : Int) : Rat) = ((A * (q.den : Int) : Int) : Rat) := by
   rw [Rat.intCast_mul,Rat.intCast_mul]; exact this
  exact Rat.intCast_inj.1 h5
 ·intro h
  have h5:((q.num * (D:Int):Int):Rat) = ((A * (q.den:Int):Int):Rat):=by rw [h]
  rw [Rat.intCast_mul,Rat.intCast_mul] at h5
  have h6:(q.num:Rat) * (D:Rat) = (A:Rat) * (q.den:Rat):=h5
  rw [h3]; grind
theorem sT {q:Rat} {A:Int} {D:Nat} (h:q.num * D = A * q.den):q.den ∣ D:=by
 have h1:(q.den:Int) ∣ q.num * D:=⟨A,by rw [h,Int.mul_comm]⟩
 have h2 : q.den ∣ q.num.natAbs * D := by
  have:=Int.natAbs_dvd_natAbs.2 h1
  rwa [Int.natAbs_mul,Int.natAbs_natCast,Int.natAbs_natCast] at this
 exact (Nat.Coprime.dvd_of_dvd_mul_left q.reduced.symm h2)
theorem Rf {q:Rat} {A:Int} {D:Nat} (h:q.num * D = A * q.den):A = q.num * (D / q.den:Nat):=by
 obtain ⟨k,hk⟩:=sT h
 have hp:=q.den_pos
 rw [hk,Nat.mul_div_cancel_left _ hp]
 rw [hk] at h
 have h':(q.den:Int) * (q.num * k) = q.den * A:=by rw [Int.mul_comm (q.den:Int) A,← h]; push_cast; grind
 exact (Int.eq_of_mul_eq_mul_left (by omega) h').symm
theorem re_eq (x:Qi):x.re = (x.a:Rat) / (x.den:Rat):=by
 rw [Am x.den_pos]
 obtain ⟨k,hk⟩:x.re.den ∣ x.den:=Nat.dvd_lcm_left _ _
 rw [a,hk,Nat.mul_div_cancel_left _ x.re.den_pos]; push_cast; grind
theorem im_eq (x:Qi):x.im = (x.b:Rat) / (x.den:Rat):=by
 rw [Am x.den_pos]
 obtain ⟨k,hk⟩:x.im.den ∣ x.den:=Nat.dvd_lcm_right _ _
 rw [b,hk,Nat.mul_div_cancel_left _ x.im.den_pos]; push_cast; grind
theorem eq_mk (x:Qi):x = mk' x.a x.b x.den:=ext' x.re_eq x.im_eq
theorem yE (A B:Int) {D:Nat} (hD:0 < D):∃ k,0 < k ∧ D = (mk' A B D).den * k ∧ A = (mk' A B D).a * k ∧ B = (mk' A B D).b * k:=by
 have ha:(mk' A B D).re.num * D = A * (mk' A B D).re.den:=(Am hD).1 rfl
 have hb:(mk' A B D).im.num * D = B * (mk' A B D).im.den:=(Am hD).1 rfl
 generalize mk' A B D = x at *
 obtain ⟨k,hk⟩:x.den ∣ D:=Nat.lcm_dvd (sT ha) (sT hb)
 refine ⟨k,Nat.pos_of_ne_zero (fun e=>by rw [e] at hk; omega),hk,?_,?_⟩
 ·rw [Rf ha, a, hk]
  obtain ⟨l,hl⟩:x.re.den ∣ x.den:=Nat.dvd_lcm_left _ _
  rw [hl,Nat.mul_assoc,Nat.mul_div_cancel_left _ x.re.den_pos,Nat.mul_div_cancel_left _ x.re.den_pos]; push_cast; grind
 ·rw [Rf hb, b, hk]
  obtain ⟨l,hl⟩:x.im.den ∣ x.den:=Nat.dvd_lcm_right _ _
  rw [hl,Nat.mul_assoc,Nat.mul_div_cancel_left _ x.im.den_pos,Nat.mul_div_cancel_left _ x.im.den_pos]; push_cast; grind
def g3 (A B:Int) (D:Nat):Nat:=Nat.gcd (Nat.gcd A.natAbs B.natAbs) D
theorem low (x:Qi):g3 x.a x.b x.den = 1:=by
 generalize hg:g3 x.a x.b x.den = g
 have h1:g ∣ x.den:=hg ▸ Nat.gcd_dvd_right _ _
 have h2:g ∣ x.a.natAbs:=hg ▸ Nat.dvd_trans (Nat.gcd_dvd_left _ _) (Nat.gcd_dvd_left _ _)
 have h3:g ∣ x.b.natAbs:=hg ▸ Nat.dvd_trans (Nat.gcd_dvd_left _ _) (Nat.gcd_dvd_right _ _)
 obtain ⟨d,hd⟩:=h1
 have hp:=x.den_pos
 have gp:0 < g:=Nat.pos_of_ne_zero (fun e=>by rw [e] at hd; omega)
 have dp:0 < d:=Nat.pos_of_ne_zero (fun e=>by rw [e] at hd; omega)
 obtain ⟨p,hp'⟩:=Int.ofNat_dvd_left.2 h2
 obtain ⟨q,hq'⟩:=Int.ofNat_dvd_left.2 h3
 have e1 : x.re = (p : Rat) / (d : Rat) := by
  have:=nc gp; have:=nc dp
  rw [re_eq,hp',hd]; push_cast; grind
 have e2 : x.im = (q : Rat) / (d : Rat) := by
  have:=nc gp; have:=nc dp
  rw [im_eq,hq',hd]; push_cast; grind
 have k:x.den ∣ d:=Nat.lcm_dvd (sT ((Am dp).1 e1)) (sT ((Am dp).1 e2))
 have:=Nat.le_of_dvd dp k
 rw [hd] at this
 have : g ≤ 1 := by
  refine Nat.le_of_mul_le_mul_right (c:=d) ?_ dp
  omega
 omega
theorem Eu (A B:Int) (D k:Nat):g3 (A * k) (B * k) (D * k) = g3 A B D * k:=by
 simp only [g3,Int.natAbs_mul,Int.natAbs_natCast,Nat.gcd_mul_right]
theorem over {A B : Int} {D : Nat} (hD : 0 < D) : (mk' A B D).a.natAbs = A.natAbs / g3 A B D ∧ (mk' A B D).b.natAbs = B.natAbs / g3 A B D ∧ (mk' A B D).den = D / g3 A B D ∧
  (decide ((mk' A B D).a < 0) = decide (A < 0)) ∧ (decide ((mk' A B D).b < 0) = decide (B < 0)) ∧ 0 < g3 A B D:=by
 obtain ⟨k,kp,h1,h2,h3⟩:=yE A B hD
 have h4:=low (mk' A B D)
 generalize mk' A B D = x at *
 have e:g3 A B D = k:=by rw [h1,h2,h3,Eu,h4,Nat.one_mul]
 rw [e]
 subst h1 h2 h3
 refine ⟨?_,?_,?_,?_,?_,kp⟩
 ·rw [Int.natAbs_mul,Int.natAbs_natCast,Nat.mul_div_cancel _ kp]
 ·rw [Int.natAbs_mul,Int.natAbs_natCast,Nat.mul_div_cancel _ kp]
 ·rw [Nat.mul_div_cancel _ kp]
 ·congr 1; apply propext; constructor
  ·intro h; exact Int.mul_neg_of_neg_of_pos h (by omega)
  ·intro h; exact Int.neg_of_mul_neg_left h (by omega)
 ·congr 1; apply propext; constructor
  ·intro h; exact Int.mul_neg_of_neg_of_pos h (by omega)
  ·intro h; exact Int.neg_of_mul_neg_left h (by omega)
theorem uniq {A B:Int} {D:Nat} (hD:0 < D) (h:g3 A B D = 1):(mk' A B D).a = A ∧ (mk' A B D).b = B ∧ (mk' A B D).den = D:=by
 obtain ⟨k,kp,h1,h2,h3⟩:=yE A B hD
 have h4:=low (mk' A B D)
 generalize mk' A B D = x at *
 have e:g3 A B D = k:=by rw [h1,h2,h3,Eu,h4,Nat.one_mul]
 have:k = 1:=by omega
 subst this
 refine ⟨by rw [h2]; simp,by rw [h3]; simp,by rw [h1]; simp⟩
theorem inj {x y:Qi} (h1:x.a = y.a) (h2:x.b = y.b) (h3:x.den = y.den):x = y:=by rw [x.eq_mk,y.eq_mk,h1,h2,h3]
instance : Add Qi:=⟨fun x y=>⟨x.re + y.re,x.im + y.im⟩⟩
instance : Neg Qi:=⟨fun x=>⟨-x.re,-x.im⟩⟩
instance : _root_.Sub Qi:=⟨fun x y=>⟨x.re - y.re,x.im - y.im⟩⟩
instance : Mul Qi:=⟨fun x y=>⟨x.re * y.re - x.im * y.im,x.re * y.im + x.im * y.re⟩⟩
def ofInt (n:Int):Qi:=⟨n,0⟩
def conj (x:Qi):Qi:=⟨x.re,-x.im⟩
def imp (x:Qi):Qi:=⟨x.im,0⟩
def nrm (x:Qi):Rat:=x.re * x.re + x.im * x.im
def norm (x:Qi):Qi:=⟨x.nrm,0⟩
def inv (x:Qi):Qi:=⟨x.re / x.nrm,-x.im / x.nrm⟩
instance : Div Qi:=⟨fun x y=>x * inv y⟩
theorem Od (x y:Qi):(x + y).re = x.re + y.re:=rfl
theorem add_im (x y:Qi):(x + y).im = x.im + y.im:=rfl
theorem Ra (x:Qi):(-x).re = -x.re:=rfl
theorem Qz (x:Qi):(-x).im = -x.im:=rfl
theorem sub_re (x y:Qi):(x - y).re = x.re - y.re:=rfl
theorem sub_im (x y:Qi):(x - y).im = x.im - y.im:=rfl
theorem mul_re (x y:Qi):(x * y).re = x.re * y.re - x.im * y.im:=rfl
theorem mul_im (x y:Qi):(x * y).im = x.re * y.im + x.im * y.re:=rfl
theorem div_def (x y:Qi):x / y = x * inv y:=rfl
theorem sub_def (x y:Qi):x - y = x + -y:=ext' (by rw [sub_re,Od,Ra]; grind) (by rw [sub_im,add_im,Qz]; grind)
theorem mk_re (A B:Int) (D:Nat):(mk' A B D).re = (A:Rat) / (D:Rat):=rfl
theorem mk_im (A B:Int) (D:Nat):(mk' A B D).im = (B:Rat) / (D:Rat):=rfl
theorem mk_add (x y:Qi):mk' (x.a * y.den + y.a * x.den) (x.b * y.den + y.b * x.den) (x.den * y.den) = x + y:=by
 have h1:=nc x.den_pos; have h2:=nc y.den_pos
 refine ext' ?_ ?_
 ·rw [Od,re_eq x,re_eq y,mk_re]; push_cast; grind
 ·rw [add_im,im_eq x,im_eq y,mk_im]; push_cast; grind
theorem mk_mul (x y:Qi):mk' (x.a * y.a + -(x.b * y.b)) (x.a * y.b + x.b * y.a) (x.den * y.den) = x * y:=by
 have h1:=nc x.den_pos; have h2:=nc y.den_pos
 refine ext' ?_ ?_
 ·rw [mul_re,re_eq x,re_eq y,im_eq x,im_eq y,mk_re]; push_cast; grind
 ·rw [mul_im,re_eq x,re_eq y,im_eq x,im_eq y,mk_im]; push_cast; grind
theorem a0z (x:Qi):mk' (-x.a) (-x.b) x.den = -x:=by
 refine ext' ?_ ?_
 ·rw [Ra,re_eq x,mk_re]; push_cast; grind
 ·rw [Qz,im_eq x,mk_im]; push_cast; grind
theorem Wf (x:Qi):mk' x.a (-x.b) x.den = x.conj:=by
 refine ext' ?_ ?_
 ·rw [mk_re,← re_eq x]; rfl
 ·show _ = -x.im; rw [im_eq x,mk_im]; push_cast; grind
theorem a0y (n:Int):mk' n 0 1 = ofInt n:=by
 refine ext' ?_ ?_
 ·rw [mk_re]; show _ = (n:Rat); push_cast; grind
 ·rw [mk_im]; show _ = (0:Rat); push_cast; grind
theorem a0x (x:Qi):mk' x.b 0 x.den = x.imp:=ext' (im_eq x).symm (by rw [mk_im]; show _ = (0:Rat); push_cast; grind)
theorem Kh (x:Qi):mk' (x.a * x.a + x.b * x.b) 0 (x.den * x.den) = x.norm:=by
 have h1:=nc x.den_pos
 refine ext' ?_ ?_
 ·rw [mk_re]; show _ = x.re * x.re + x.im * x.im; rw [re_eq x,im_eq x]; push_cast; grind
 ·rw [mk_im]; show _ = (0:Rat); push_cast; grind
theorem a0m (A B:Int) (D:Nat):g3 (-A) (-B) D = g3 A B D:=by simp [g3]
theorem Vv (A B:Int) (D:Nat):g3 A (-B) D = g3 A B D:=by simp [g3]
theorem neg_a (x:Qi):(-x).a = -x.a ∧ (-x).b = -x.b ∧ (-x).den = x.den:=by rw [← a0z]; exact uniq x.den_pos (by rw [a0m]; exact x.low)
theorem a0f (x:Qi):x.conj.a = x.a ∧ x.conj.b = -x.b ∧ x.conj.den = x.den:=by rw [← Wf]; exact uniq x.den_pos (by rw [Vv]; exact x.low)
theorem int_a (n:Int):(ofInt n).a = n ∧ (ofInt n).b = 0 ∧ (ofInt n).den = 1:=by rw [← a0y]; exact uniq (by decide) (by simp [g3])
def zero:Qi:=ofInt 0
theorem a_zero {x:Qi}:x.a = 0 ↔ x.re = 0:=by
 have h1:=nc x.den_pos
 rw [re_eq x]
 constructor
 ·intro h; rw [h]; push_cast; grind
 ·intro h
  have:(x.a:Rat) = ((0:Int):Rat):=by push_cast; grind
  exact Rat.intCast_inj.1 this
theorem b_zero {x:Qi}:x.b = 0 ↔ x.im = 0:=by
 have h1:=nc x.den_pos
 rw [im_eq x]
 constructor
 ·intro h; rw [h]; push_cast; grind
 ·intro h
  have:(x.b:Rat) = ((0:Int):Rat):=by push_cast; grind
  exact Rat.intCast_inj.1 this
theorem zero_iff {x:Qi}:x = zero ↔ x.a = 0 ∧ x.b = 0:=by
 rw [a_zero,b_zero]
 constructor
 ·intro h; rw [h]; exact ⟨rfl,rfl⟩
 ·intro ⟨h,k⟩; exact ext' h k
theorem Bd (q:Rat):0 ≤ q * q:=by
 rcases Rat.le_total (a:=0) (b:=q) with h | h
 ·exact Rat.mul_nonneg h h
 ·have h1 : 0 ≤ -q := by grind
  have:=Rat.mul_nonneg h1 h1
  grind
theorem nrm_zero {x:Qi}:x.nrm = 0 ↔ x = zero:=by
 constructor
 ·intro h
  have h1:=Bd x.re
  have h2:=Bd x.im
  unfold nrm at h
  have h3:x.re * x.re = 0:=by grind
  have h4:x.im * x.im = 0:=by grind
  exact ext' (by show _ = (0:Rat); grind) (by show _ = (0:Rat); grind)
 ·intro h; rw [h]; simp [nrm,zero,ofInt]; grind
theorem nat_of_int {n:Int} (h:0 ≤ n):((n.natAbs:Nat):Rat) = (n:Rat):=by
 have:((n.natAbs:Int):Rat) = (n:Rat):=by rw [Int.natAbs_of_nonneg h]
 exact this
theorem a1L (y:Qi):y.nrm * (y.den:Rat) * (y.den:Rat) = ((y.a * y.a + y.b * y.b:Int):Rat):=by
 have h1:=nc y.den_pos
 rw [nrm,re_eq y,im_eq y]; push_cast; grind
theorem nT (n:Int):0 ≤ n * n:=by
 rcases Int.le_total 0 n with h | h
 ·exact Int.mul_nonneg h h
 ·have:=Int.mul_nonneg (a:=-n) (b:=-n) (by omega) (by omega); rwa [Int.neg_mul_neg] at this
theorem nrm_int_pos {y:Qi} (h:y ≠ zero):0 < y.a * y.a + y.b * y.b:=by
 have h1:=nT y.a
 have h2:=nT y.b
 rcases Int.lt_or_eq_of_le (Int.add_nonneg h1 h2) with h3 | h3
 ·exact h3
 ·exfalso; apply h; rw [zero_iff]
  have h4:y.a * y.a = 0:=by omega
  have h5:y.b * y.b = 0:=by omega
  exact ⟨(Int.mul_eq_zero.1 h4).elim id id,(Int.mul_eq_zero.1 h5).elim id id⟩
theorem mk_divP (x:Qi) {y z:Qi} {m:Nat} (hy:y ≠ zero) (hz:z = x * mk' y.a (-y.b) 1) (hm:(m:Int) = y.a * y.a + y.b * y.b):mk' (z.a * y.den) (z.b * y.den) (z.den * m) = x / y:=by
 have h1:=nc x.den_pos; have h2:=nc y.den_pos; have h4:=nc z.den_pos
 have h3:=a1L y
 have hn:y.nrm ≠ 0:=fun e=>hy (nrm_zero.1 e)
 rw [← hm] at h3
 have h3':y.nrm * (y.den:Rat) * (y.den:Rat) = (m:Rat):=h3
 have hmz:(m:Rat) ≠ 0:=by rw [← h3']; grind
 have e1:=re_eq z; have e2:=im_eq z
 rw [hz,mul_re,mk_re,mk_im] at e1
 rw [hz,mul_im,mk_re,mk_im] at e2
 rw [← hz] at e1 e2
 refine ext' ?_ ?_
 ·rw [mk_re, div_def, mul_re]
  show _ = x.re * (y.re / y.nrm) - x.im * (-y.im / y.nrm)
  rw [re_eq y,im_eq y]; push_cast at *
  have:(z.a:Rat) = (x.re * y.a + x.im * y.b) * z.den:=by grind
  rw [this,← h3']; grind
 ·rw [mk_im, div_def, mul_im]
  show _ = x.re * (-y.im / y.nrm) + x.im * (y.re / y.nrm)
  rw [re_eq y,im_eq y]; push_cast at *
  have:(z.b:Rat) = (x.im * y.a - x.re * y.b) * z.den:=by grind
  rw [this,← h3']; grind
theorem Wg (x:Qi) {y z n:Qi} {m:Nat} (hy:y ≠ zero) (hz:z = x * y.conj) (hn:n = y.norm) (hm:(m:Int) = n.a):mk' (z.a * n.den) (z.b * n.den) (z.den * m) = x / y:=by
 have h2:=nc n.den_pos; have h4:=nc z.den_pos
 have hnz:y.nrm ≠ 0:=fun e=>hy (nrm_zero.1 e)
 have h3:y.nrm = (n.a:Rat) / (n.den:Rat):=by rw [← re_eq n,hn]; rfl
 rw [← hm] at h3
 have h3':y.nrm = (m:Rat) / (n.den:Rat):=h3
 have hmz:(m:Rat) ≠ 0:=by intro e; rw [e] at h3'; apply hnz; grind
 have e1:=re_eq z; have e2:=im_eq z
 rw [hz,mul_re] at e1
 rw [hz,mul_im] at e2
 rw [← hz] at e1 e2
 have c1:y.conj.re = y.re:=rfl
 have c2:y.conj.im = -y.im:=rfl
 rw [c1,c2] at e1 e2
 refine ext' ?_ ?_
 ·rw [mk_re, div_def, mul_re]
  show _ = x.re * (y.re / y.nrm) - x.im * (-y.im / y.nrm)
  push_cast at *
  have:(z.a:Rat) = (x.re * y.re + x.im * y.im) * z.den:=by grind
  rw [this,h3']; grind
 ·rw [mk_im, div_def, mul_im]
  show _ = x.re * (-y.im / y.nrm) + x.im * (y.re / y.nrm)
  push_cast at *
  have:(z.b:Rat) = (x.im * y.re - x.re * y.im) * z.den:=by grind
  rw [this,h3']; grind
def Fit (x:Qi) (L:Nat):Prop:=x.a.natAbs < BB ^ L ∧ x.b.natAbs < BB ^ L ∧ x.den < BB ^ L
theorem Fit.mono {x : Qi} {L L' : Nat} (h : Fit x L) (hl : L ≤ L') : Fit x L' :=
 have p:=Nat.pow_le_pow_right dR hl
 ⟨Nat.lt_of_lt_of_le h.1 p,Nat.lt_of_lt_of_le h.2.1 p,Nat.lt_of_lt_of_le h.2.2 p⟩
theorem Fit.mk {A B:Int} {D L:Nat} (hD:0 < D) (h1:A.natAbs < BB ^ L) (h2:B.natAbs < BB ^ L) (h3:D < BB ^ L):Fit (mk' A B D) L:=by
 obtain ⟨e1,e2,e3,-,-,-⟩:=over (A:=A) (B:=B) hD
 refine ⟨?_,?_,?_⟩
 ·rw [e1]; exact Nat.lt_of_le_of_lt (Nat.div_le_self _ _) h1
 ·rw [e2]; exact Nat.lt_of_le_of_lt (Nat.div_le_self _ _) h2
 ·rw [e3]; exact Nat.lt_of_le_of_lt (Nat.div_le_self _ _) h3
theorem lt_mul {a b L M:Nat} (h:a < BB ^ L) (k:b < BB ^ M):a * b < BB ^ (L + M):=by
 rw [Nat.pow_add]; exact Nat.mul_lt_mul_of_lt_of_le h (Nat.le_of_lt k) (Nat.pos_of_ne_zero (fun e=>by rw [e] at k; omega))
theorem lt_mono {a L M:Nat} (h:a < BB ^ L) (k:L ≤ M):a < BB ^ M:=Nat.lt_of_lt_of_le h (Nat.pow_le_pow_right dR k)
theorem a0u {a b L:Nat} (h:a < BB ^ L) (k:b < BB ^ L):a + b < BB ^ (L + 1):=by
 have e:BB ^ (L + 1) = BB ^ L * 4294967296:=rfl
 rw [e]; omega
theorem abs_add {A B : Int} {L : Nat} (h : A.natAbs < BB ^ L) (k : B.natAbs < BB ^ L) : (A + B).natAbs < BB ^ (L + 1) :=
 Nat.lt_of_le_of_lt (Int.natAbs_add_le _ _) (a0u h k)
theorem kD {A B:Int} {L M:Nat} (h:A.natAbs < BB ^ L) (k:B.natAbs < BB ^ M):(A * B).natAbs < BB ^ (L + M):=by rw [Int.natAbs_mul]; exact lt_mul h k
theorem Fit.add {x y:Qi} {L M:Nat} (h:Fit x L) (k:Fit y M):Fit (x + y) (L + M + 1):=by
 rw [← mk_add]
 refine Fit.mk (Nat.mul_pos x.den_pos y.den_pos) ?_ ?_ (lt_mono (lt_mul h.2.2 k.2.2) (by omega))
 ·exact abs_add (kD h.1 k.2.2) (by rw [Nat.add_comm]; exact kD k.1 h.2.2)
 ·exact abs_add (kD h.2.1 k.2.2) (by rw [Nat.add_comm]; exact kD k.2.1 h.2.2)
theorem Fit.neg {x:Qi} {L:Nat} (h:Fit x L):Fit (-x) L:=by
 obtain ⟨e1,e2,e3⟩:=neg_a x
 refine ⟨?_,?_,?_⟩
 ·rw [e1,Int.natAbs_neg]; exact h.1
 ·rw [e2,Int.natAbs_neg]; exact h.2.1
 ·rw [e3]; exact h.2.2
theorem Fit.conj {x:Qi} {L:Nat} (h:Fit x L):Fit x.conj L:=by
 obtain ⟨e1,e2,e3⟩:=a0f x
 refine ⟨?_,?_,?_⟩
 ·rw [e1]; exact h.1
 ·rw [e2,Int.natAbs_neg]; exact h.2.1
 ·rw [e3]; exact h.2.2
theorem Fit.sub {x y:Qi} {L M:Nat} (h:Fit x L) (k:Fit y M):Fit (x - y) (L + M + 1):=by rw [sub_def]; exact h.add k.neg
theorem Fit.mul {x y:Qi} {L M:Nat} (h:Fit x L) (k:Fit y M):Fit (x * y) (L + M + 1):=by
 rw [← mk_mul]
 refine Fit.mk (Nat.mul_pos x.den_pos y.den_pos) ?_ ?_ (lt_mono (lt_mul h.2.2 k.2.2) (by omega))
 ·exact abs_add (kD h.1 k.1) (by rw [Int.natAbs_neg]; exact kD h.2.1 k.2.1)
 ·exact abs_add (kD h.1 k.2.1) (kD h.2.1 k.1)
theorem one_lt {L:Nat} (h:1 ≤ L):1 < BB ^ L:=Nat.lt_of_lt_of_le (by decide:1 < BB ^ 1) (Nat.pow_le_pow_right dR h)
theorem Fit.int {n:Int} {L:Nat} (hL:1 ≤ L) (h:n.natAbs < BB ^ L):Fit (ofInt n) L:=by
 obtain ⟨e1,e2,e3⟩:=int_a n
 exact ⟨by rw [e1]; exact h,by rw [e2]; exact Nat.pow_pos dR,by rw [e3]; exact one_lt hL⟩
theorem Fit.imp {x:Qi} {L:Nat} (h:Fit x L):Fit x.imp L:=by rw [← a0x]; exact Fit.mk x.den_pos h.2.1 (Nat.pow_pos dR) h.2.2
theorem Fit.norm {x:Qi} {L:Nat} (h:Fit x L):Fit x.norm (L + L + 1):=by
 rw [← Kh]
 exact Fit.mk (Nat.mul_pos x.den_pos x.den_pos) (abs_add (kD h.1 h.1) (kD h.2.1 h.2.1)) (Nat.pow_pos dR) (lt_mono (lt_mul h.2.2 h.2.2) (by omega))
theorem Wo (y:Qi):0 ≤ y.norm.a:=by
 have h1:y.norm.re = (y.norm.a:Rat) / (y.norm.den:Rat):=re_eq _
 have h2:=nc y.norm.den_pos
 obtain ⟨k,kp,e1,e2,e3⟩:=yE (y.a * y.a + y.b * y.b) 0 (Nat.mul_pos y.den_pos y.den_pos)
 rw [Kh] at e2
 have h3:=nT y.a
 have h4:=nT y.b
 rcases Int.lt_or_le y.norm.a 0 with h | h
 ·have := Int.mul_neg_of_neg_of_pos h (by omega : (0 : Int) < k)
  omega
 ·exact h
theorem Rd {y:Qi} (hy:y ≠ zero):0 < y.norm.a:=by
 rcases Int.lt_or_eq_of_le (Wo y) with h | h
 ·exact h
 ·exact absurd (nrm_zero.1 (a_zero.1 h.symm)) hy
theorem Fit.div {x y:Qi} {L M:Nat} (h:Fit x L) (k:Fit y M) (hy:y ≠ zero):Fit (x / y) (L + 3 * M + 2):=by
 have hn:=Rd hy
 have hm:((y.norm.a.natAbs:Nat):Int) = y.norm.a:=Int.natAbs_of_nonneg (by omega)
 rw [← Wg x hy rfl rfl hm]
 have f1:=h.mul k.conj
 have f2:=k.norm
 refine Fit.mk (Nat.mul_pos (den_pos _) (by omega)) (lt_mono (kD f1.1 f2.2.2) (by omega)) (lt_mono (kD f1.2.1 f2.2.2) (by omega)) (lt_mono (lt_mul f1.2.2 f2.1) (by omega))
end Qi
end
section
open Go Go.RowKit
abbrev iI (z:Int):Ty:=dL [aD (decide (z < 0)),aL z.natAbs]
def Df (b:Bool) (m:Nat):Int:=if b then -(m:Int) else (m:Int)
theorem Xw (b:Bool) (m:Nat):decide (Df b m < 0) = (b && decide (0 < m)):=by
 cases b
 ·simp [Df]
 ·simp [Df]
theorem Xv (b:Bool) (m:Nat):(Df b m).natAbs = m:=by cases b <;> simp [Df]
theorem qF (z:Int):Df (decide (z < 0)) z.natAbs = z:=by
 unfold Df
 by_cases h:z < 0
 ·simp [h]; omega
 ·simp [h]; omega
theorem Mz (z:Int):Df (!decide (z < 0)) z.natAbs = -z:=by
 unfold Df
 by_cases h:z < 0
 ·simp [h]; omega
 ·simp [h]; omega
theorem Na (x y:Int):Df (decide (x < 0) != decide (y < 0)) (x.natAbs * y.natAbs) = x * y:=by
 have hx:=qF x; have hy:=qF y
 generalize decide (x < 0) = a at *; generalize decide (y < 0) = b at *
 generalize x.natAbs = m at *; generalize y.natAbs = n at *
 subst hx hy
 cases a <;> cases b <;> simp [Df,Int.mul_neg,Int.neg_mul]
theorem Ii (x:Int) (n:Nat):Df (decide (x < 0)) (x.natAbs * n) = x * n:=by
 have hx:=qF x
 generalize decide (x < 0) = a at *; generalize x.natAbs = m at *
 subst hx
 cases a <;> simp [Df,Int.neg_mul]
theorem Se {x y:Int} (h:decide (x < 0) = decide (y < 0)):Df (decide (x < 0)) (x.natAbs + y.natAbs) = x + y:=by
 have hx:=qF x; have hy:=qF y
 rw [h] at *
 generalize decide (y < 0) = a at *; generalize x.natAbs = m at *; generalize y.natAbs = n at *
 subst hx hy
 cases a <;> simp [Df]; omega
theorem Fr {x y:Int} (h:decide (x < 0) ≠ decide (y < 0)) (hle:y.natAbs ≤ x.natAbs):Df (decide (x < 0)) (x.natAbs - y.natAbs) = x + y:=by
 unfold Df
 by_cases h1:x < 0 <;> by_cases h2:y < 0 <;> simp [h1,h2] at h ⊢ <;> omega
theorem uH {Ts Us:List Ty} (h:Ts = Us):∀ v V,(dL Ts).p v V → (dL Us).p v V:=fun v V k=>h ▸ k
theorem oI {z y:Int} (h:z = y):∀ v V,(iI z).p v V → (iI y).p v V:=fun v V k=>h ▸ k
theorem a0Y {b : Bool} {m : Nat} : ∀ v V, (dL [aD (b && decide (0 < (dg m).length)), aL m]).p v V → (iI (Df b m)).p v V := uH (by
 have h : decide (0 < (dg m).length) = decide (0 < m) := by
  by_cases h0:m = 0
  ·subst h0; simp [fF]
  ·have h1 : 0 < (dg m).length := Nat.pos_of_ne_zero (fun e => h0 (bD.1 e))
   have h2:0 < m:=Nat.pos_of_ne_zero h0
   simp only [h1,h2]
 rw [h,Xw,Xv])
def du (x:Qi):Nat:=if x.den = 1 then 0 else x.den
abbrev aE (x:Qi):Ty:=dL [aD (decide (x.a < 0)),aL x.a.natAbs,aD (decide (x.b < 0)),aL x.b.natAbs,aL (du x)]
theorem gM {x y:Qi} (h:x = y):∀ v V,(aE x).p v V → (aE y).p v V:=fun v V k=>h ▸ k
theorem Xj {A B : Int} {D : Nat} (hD : 0 < D) : ∀ v V, (dL [aD (decide (A < 0)), aL (A.natAbs / Qi.g3 A B D), aD (decide (B < 0)), aL (B.natAbs / Qi.g3 A B D), aL (if D / Qi.g3 A B D = 1 then 0 else D / Qi.g3 A B D)]).p v V → (aE (Qi.mk' A B D)).p v V := uH (by
 obtain ⟨e1,e2,e3,e4,e5,_⟩:=Qi.over (A:=A) (B:=B) hD
 rw [e4,e5,e1,e2,du,e3])
theorem Iu : ∀ v V, (dL [aD false, Is (.slice none 0 0)]).p v V → (iI 0).p v V := fun v V ⟨vs, e, h⟩ => by
 match vs,h.all,h with
 | [x,y],⟨hx,hy,_⟩,h=>exact ⟨[x,y],e,⟨hx,lU y V hy,trivial⟩,h.pl⟩
theorem An {n L:Nat} (h:n < BB ^ L):(dg n).length ≤ L:=iT h
theorem mU {x:Qi} {L:Nat} (h:Qi.Fit x L):(dg x.a.natAbs).length ≤ L:=An h.1
theorem mV {x:Qi} {L:Nat} (h:Qi.Fit x L):(dg x.b.natAbs).length ≤ L:=An h.2.1
theorem mW {x:Qi} {L:Nat} (h:Qi.Fit x L):(dg x.den).length ≤ L:=An h.2.2
theorem Ez (n:Nat):n < BB ^ (dg n).length:=by have:=iP (cO n); rwa [eR] at this
theorem xO (m n:Nat):(dg (m * n)).length ≤ (dg m).length + (dg n).length:=An (Qi.lt_mul (Ez m) (Ez n))
theorem mO (x y:Int):(dg (x * y).natAbs).length ≤ (dg x.natAbs).length + (dg y.natAbs).length:=by rw [Int.natAbs_mul]; exact xO _ _
theorem gD (x:Int) (n:Nat):(dg (x * n).natAbs).length ≤ (dg x.natAbs).length + (dg n).length:=by rw [Int.natAbs_mul,Int.natAbs_natCast]; exact xO _ _
theorem mN {x y : Int} {L : Nat} (hx : (dg x.natAbs).length ≤ L) (hy : (dg y.natAbs).length ≤ L) : (dg (x + y).natAbs).length ≤ L + 1 :=
 An (Qi.abs_add (Qi.lt_mono (Ez _) hx) (Qi.lt_mono (Ez _) hy))
theorem xP (x:Int):(dg (-x).natAbs).length = (dg x.natAbs).length:=by rw [Int.natAbs_neg]
theorem Px {m n L:Nat} (hm:(dg m).length ≤ L) (hn:(dg n).length ≤ L):(dg (Nat.gcd m n)).length ≤ L:=by
 rcases Nat.eq_zero_or_pos m with e | e
 ·subst e; rw [Nat.gcd_zero_left]; exact hn
 ·exact Nat.le_trans (jQ (Nat.gcd_le_left n e)) hm
section
variable {P:Program} {R:eA} {cx:Cx} {n:Nat} {k:List It} {E:cB} {H:Hp} {ops:Array Oper} {o:Oper} {rest:List Oper}
variable {d:Option Tmp} {t tx ty:TypeId} {pos:String} {af:Array Edge} {g:Option (Nat × Bool)}
theorem Kl {x y : Operand} {kd kd' : IntKind} {a b : Nat} {tys : Array TypeId} (hx : aA E x (NT kd a)) (hy : aA E y (NT kd' b)) : aM P n E H ⟨d, .call ⟨.builtin .min, #[x, y], tys⟩, t, pos, af, g⟩ (NT kd (min a b)) :=
 dF fun c V w hs => by
  have ex:c.eval x = .int kd (a:Int):=hx n V c hs
  have ey:c.eval y = .int kd' (b:Int):=hy n V c hs
  refine ⟨.int kd (if (b:Int) < a then b else a),?_,?_⟩
  ·simp [execOp,resolve,ex,ey,invoke,builtin,Builtin.min_,Builtin.min2,Sem.run_bind,Result.andThen]
  ·show Value.int kd _ = Value.int kd _
   congr 1
   split <;> omega
end
end
section
open Go Go.RowKit
def vP (P:Program) (γ:Type) (Ts:γ → List Ty) (U:γ → Ty):Ty where
 p v V := ∃ (f : FuncId) (caps : List Value), v = .func (.func f) #[] caps.toArray ∧ (∀ args w, (callFunc f args).run P w = .ok (.enter f args) w) ∧
  ∀ (x : γ) (vs : List Value) (V' : aO) (w : World), kC V V' → (∀ b o, V' b = some o → w.heap[b]? = some o) → fD (Ts x) vs V' → Calls P f (vs ++ caps).toArray w fun e w' =>
   ∃ v V'',e = .returned v ∧ kC V' V'' ∧ (∀ b o,V'' b = some o → w'.heap[b]? = some o) ∧ (∀ b o,V'' b = some o → V' b = none → w.heap.size ≤ b) ∧ Below w.heap.size w w' ∧ (U x).p v V''
 mono h k := by
  obtain ⟨f,caps,e,hc,h⟩:=h
  exact ⟨f,caps,e,hc,fun x vs V' w hle=>h x vs V' w (k.trans hle)⟩
instance shCl (P:Program) (γ:Type) (Ts:γ → List Ty) (U:γ → Ty):dI (vP P γ Ts U) 1 false:=gB fun v V h=>by obtain ⟨f,caps,rfl,_⟩:=h; trivial
def vF (H : Hp) : List Nat → Option Hp
 | []=>some []
 | i :: is => match H[i]?, vF H is with
  | some A,some r=>some (A :: r)
  | _,_=>none
theorem vF.picks {H : Hp} : ∀ {is : List Nat} {H' : Hp}, vF H is = some H' → vA H is H'
 | [],H',h=>by simp [vF] at h; subst h; trivial
 | i :: is, H', h => by
  unfold vF at h
  split at h
  ·rename_i A r h1 h2
   simp at h; subst h
   exact ⟨⟨A,h1,fun _ _ _ k=>k⟩,vF.picks h2⟩
  ·cases h
section
variable {P:Program} {R:eA} {cx:Cx} {n:Nat} {k:List It} {E:cB} {H:Hp} {ops:Array Oper} {o:Oper} {rest:List Oper}
variable {d:Option Tmp} {t tx ty:TypeId} {pos:String} {af:Array Edge} {g:Option (Nat × Bool)}
theorem cC {H':Hp} (is:List Nat) (hp:vF H is = some H') (nd:is.Nodup) (h:Tr P R cx n k E H'):Tr P R cx n k E H:=a01 is (vF.picks hp) nd h
theorem kP {f : FuncId} {xs : List Operand} {Cs : List Ty} {γ : Type} {Ts : γ → List Ty} {U : γ → Ty} (hc : ∀ args w, (callFunc f args).run P w = .ok (.enter f args) w)
  (hF:∀ x,bA P f (Ts x ++ Cs) (U x)) (ha:kU E xs Cs):aM P n E H ⟨d,.makeFunc (.func f) #[] xs.toArray,t,pos,af,g⟩ (vP P γ Ts U) :=
 dF fun a V w hs => by
  have hA:=kU.all hs ha
  refine ⟨.func (.func f) #[] (xs.map a.eval).toArray,by simp [execOp,Instr.makeFunc,Sem.run_bind,pure,Sem.run,bind,Sem.bind],f,xs.map a.eval,rfl,hc,fun x vs V' w' hle ho hv=>?_⟩
  exact hF x (vs ++ xs.map a.eval) V' w' ho (hv.append (hA.mono hle))
theorem aA.fn {f : FuncId} {γ : Type} {Ts : γ → List Ty} {U : γ → Ty} (hc : ∀ args w, (callFunc f args).run P w = .ok (.enter f args) w) (hF : ∀ x, bA P f (Ts x) (U x)) : aA E (.func f) (vP P γ Ts U) := fun n V a hs =>
 ⟨f,[],rfl,hc,fun x vs V' w' hle ho hv=>by simpa using hF x vs V' w' ho hv⟩
theorem oH {f : Operand} {xs : List Operand} {tys : Array TypeId} {γ : Type} {Ts : γ → List Ty} {U : γ → Ty} (x : γ) (hf : aA E f (vP P γ Ts U)) (ha : kU E xs (Ts x)) :
  aM P n E H ⟨d,.call ⟨.value f,xs.toArray,tys⟩,t,pos,af,g⟩ (U x):=fun cx X a w V hi hs K Q hK=>by
 obtain ⟨fi,caps,e,hc,h⟩:=hf n V a hs
 have hrun : (execOp a.eval ⟨d, .call ⟨.value f, xs.toArray, tys⟩, t, pos, af, g⟩).run P w = .ok (.enter fi (xs.map a.eval ++ caps).toArray) w := by
  simp [execOp,resolve,e,Deferred.ofValue,invoke,hc]
 simp only [Oper.wp,hrun,Oper.upon_enter]
 refine (h x _ V w (kC.refl V) hi.on (kU.all hs ha)).mono ?_
 rintro e' w' ⟨v,V',rfl,h1,h2,h3,h4,h5⟩
 exact hK v w' V' (hi.after h1 h2 h3 h4) h1 h5
theorem iH.fun {f : FuncId} {Ts : List Ty} {γ : Type} {U : γ → Ty} {A : γ → SA} {Q : γ → Prop} {U' : Ty} (h : iH P f Ts [] γ U (fun x => [A x]) Q)
  (hc:∀ x,Q x → ∀ v S V,(U x).p v V → (A x).h S V V → U'.p v V):bA P f Ts U':=fun vs V w ho ha=>by
 have hinv : fN ⟨w, V⟩ V [SA.emp] w := ⟨ho, kC.refl V, fun b o h1 h2 => (by have h3 : V b = none := h2; rw [h1] at h3; cases h3), Below.refl _ _,
  ⟨fun _=>[],fun i A hA=>⟨by (cases i with | zero=>simp at hA; subst hA; rfl | succ i=>simp at hA),by simp⟩,fun i j b hi hj hb=>by simp at hb⟩⟩
 refine (h ⟨w,V⟩ SA.emp vs V w hinv ha).mono ?_
 rintro e w' ⟨v,V',x,rfl,hle,hi,hv,hq⟩
 obtain ⟨V'',S,hle2,hi2,hA⟩:=hi.freeze (i:=1) (A:=A x) rfl
 exact ⟨v,V'',rfl,hle.trans hle2,hi2.on,hi2.new,hi2.bel,hc x hq v S V'' (Ty.mono _ hv hle2) hA⟩
end
end
section
open Go Go.RowKit
instance decQi:DecidableEq Qi:=fun x y=>if h:x.re = y.re ∧ x.im = y.im then .isTrue (Qi.ext' h.1 h.2) else .isFalse (fun e=>h (e ▸ ⟨rfl,rfl⟩))
class aI (x:Qi) (L:outParam Nat):Prop where
 fit:Qi.Fit x L
instance fitAdd {x y:Qi} {L M:Nat} [hx:aI x L] [hy:aI y M]:aI (x + y) (L + M + 1):=⟨hx.fit.add hy.fit⟩
instance fitSub {x y:Qi} {L M:Nat} [hx:aI x L] [hy:aI y M]:aI (x - y) (L + M + 1):=⟨hx.fit.sub hy.fit⟩
instance fitMul {x y:Qi} {L M:Nat} [hx:aI x L] [hy:aI y M]:aI (x * y) (L + M + 1):=⟨hx.fit.mul hy.fit⟩
instance fitNeg {x:Qi} {L:Nat} [hx:aI x L]:aI (-x) L:=⟨hx.fit.neg⟩
instance fitConj {x:Qi} {L:Nat} [hx:aI x L]:aI x.conj L:=⟨hx.fit.conj⟩
instance fitImp {x:Qi} {L:Nat} [hx:aI x L]:aI x.imp L:=⟨hx.fit.imp⟩
instance fitNorm {x:Qi} {L:Nat} [hx:aI x L]:aI x.norm (L + L + 1):=⟨hx.fit.norm⟩
theorem Qi.div_zero (x:Qi):x / Qi.zero = Qi.zero:=by
 have h:Qi.inv Qi.zero = Qi.zero:=Qi.ext' (by show (0:Rat) / _ = 0; grind) (by show (-(0:Rat)) / _ = 0; grind)
 rw [Qi.div_def,h]
 exact Qi.ext' (by rw [Qi.mul_re]; show x.re * 0 - x.im * 0 = (0:Rat); grind) (by rw [Qi.mul_im]; show x.re * 0 + x.im * 0 = (0:Rat); grind)
theorem Qi.Fit.zero {L:Nat} (hL:1 ≤ L):Qi.Fit Qi.zero L:=Qi.Fit.int hL (Nat.pow_pos dR)
instance fitDiv {x y : Qi} {L M : Nat} [hx : aI x L] [hy : aI y M] : aI (x / y) (L + 3 * M + 2) := ⟨by
 by_cases h:y = Qi.zero
 ·rw [h,Qi.div_zero]; exact Qi.Fit.zero (by omega)
 ·exact hx.fit.div hy.fit h⟩
instance fitInt {n:Int}:aI (Qi.ofInt n) ((dg n.natAbs).length + 1):=⟨Qi.Fit.int (by omega) (Nat.lt_of_lt_of_le (Ez _) (Nat.pow_le_pow_right dR (by omega)))⟩
theorem aI.pos {x:Qi} {L:Nat} (h:aI x L):1 ≤ L:=by
 rcases Nat.eq_zero_or_pos L with e | e
 ·subst e; have:=h.fit.2.2; have:=x.den_pos; simp at *; omega
 ·exact e
theorem aI.le {x:Qi} {L M:Nat} (h:aI x L) (k:L ≤ M):aI x M:=⟨h.fit.mono k⟩
theorem Uz {m n:Nat} (h:0 ≤ rV m n):n ≤ m:=by
 unfold rV at h
 split at h
 ·simp at h
 ·omega
theorem Va {m n:Nat} (h:rV m n < 0):m < n:=by
 unfold rV at h
 split at h
 ·assumption
 ·split at h <;> simp at h
def rE (x y:Int):Int:=if x < y then -1 else if y < x then 1 else 0
theorem Uy {x y:Int} (h:x + -y < 0):-1 = rE x y:=by rw [rE,if_pos (by omega)]
theorem Ux {x y:Int} (h:¬ x + -y < 0):((min (dg (x + -y).natAbs).length 1:Nat):Int) = rE x y:=by
 rw [rE,if_neg (by omega)]
 by_cases e:y < x
 ·rw [if_pos e]
  have:0 < (dg (x + -y).natAbs).length:=Nat.pos_of_ne_zero (fun e'=>by have:=bD.1 e'; omega)
  omega
 ·rw [if_neg e]
  have:(x + -y).natAbs = 0:=by omega
  rw [this,fF]; rfl
theorem Aj {x y:Int}:rE x y = 0 ↔ x = y:=by
 unfold rE
 split
 ·constructor
  ·intro h; simp at h
  ·intro h; omega
 ·split
  ·constructor
   ·intro h; simp at h
   ·intro h; omega
  ·constructor
   ·intro _; omega
   ·intro _; rfl
def Hc (x y:Qi):Int:=if rE (x.a * y.den) (y.a * x.den) ≠ 0 then rE (x.a * y.den) (y.a * x.den) else rE (x.b * y.den) (y.b * x.den)
theorem vW {x:Qi} (h:du x = 0):x.den = 1:=by
 unfold du at h
 split at h
 ·assumption
 ·have:=x.den_pos; omega
theorem sW {x:Qi} (h:du x ≠ 0):du x = x.den:=by
 unfold du at h ⊢
 split at h
 ·exact absurd rfl h
 ·rename_i k; rw [if_neg k]
theorem a1z {x y:Qi} (h:x.den = y.den):du x = du y:=by rw [du,du,h]
theorem Pw (x:Qi):(dg (du x)).length ≤ (dg x.den).length:=by
 by_cases h:du x = 0
 ·rw [h,fF]; exact Nat.zero_le _
 ·rw [sW h]; exact Nat.le_refl _
theorem Pq {n:Nat} (h0:n ≠ 0) (h:n < BB):dg n = [n]:=by
 have hl:(dg n).length ≤ 1:=iT (k:=1) (by rw [Nat.pow_one]; exact h)
 have hne:(dg n).length ≠ 0:=fun e=>h0 (bD.1 e)
 obtain ⟨a,ha⟩:=a1H (show (dg n).length = 1 by omega)
 have:=eR n
 rw [ha] at this ⊢
 simp [val] at this
 rw [this]
theorem Fh : ∀ v V, (kT 1 [cP 1]).p v V → (aL 1).p v V := fun v V h => by
 rw [aL,Pq (by decide) (by decide)]; exact h
def Th : List Ty → List Ty → Prop
 | [],[]=>True
 | T :: Ts,U :: Us=>(∀ v V,T.p v V → U.p v V) ∧ Th Ts Us
 | _,_=>False
theorem Th.all {V : aO} : ∀ {Ts Us : List Ty} {vs : List Value}, Th Ts Us → fD Ts vs V → fD Us vs V
 | [],[],[],_,_=>trivial
 | _ :: _,_ :: _,_ :: _,h,k=>⟨h.1 _ _ k.1,h.2.all k.2⟩
 | [],_ :: _,_,h,_=>h.elim
 | _ :: _,[],_,h,_=>h.elim
 | [],[],_ :: _,_,k=>k.elim
 | _ :: _,_ :: _,[],_,k=>k.elim
theorem Jb {Ts Us:List Ty} (h:Th Ts Us):∀ v V,(dL Ts).p v V → (dL Us).p v V:=fun v V ⟨vs,e,k⟩=>⟨vs,e,h.all k.all,k.pl⟩
theorem De {T:Ty}:∀ v V,T.p v V → T.p v V:=fun _ _ h=>h
theorem Ki {n:Int}:∀ v V,(dL [aD (decide (n < 0)),aL n.natAbs,Is (.bool false),Is (.slice none 0 0),Is (.slice none 0 0)]).p v V → (aE (Qi.ofInt n)).p v V:=by
 obtain ⟨e1,e2,e3⟩:=Qi.int_a n
 have e4:du (Qi.ofInt n) = 0:=by rw [du,e3]; rfl
 rw [aE,e1,e2,e4]
 exact Jb ⟨De,De,De,lU,lU,trivial⟩
theorem a0k {n:Int} (h1:-9223372036854775808 ≤ n) (h2:n ≤ 9223372036854775807):(dg n.natAbs).length ≤ 2:=An (by show _ < 4294967296 ^ 2; omega)
def Qi.frac (p q d:Int):Qi:=⟨(p:Rat) / (d:Rat),(q:Rat) / (d:Rat)⟩
theorem Qi.frac_pos {p q d:Int} (h:¬ d < 0) (hd:d ≠ 0):Qi.mk' p q d.natAbs = Qi.frac p q d:=by
 have e:=Qi.nat_of_int (n:=d) (by omega)
 refine Qi.ext' ?_ ?_
 ·rw [Qi.mk_re,e]; rfl
 ·rw [Qi.mk_im,e]; rfl
theorem Qi.frac_neg {p q d:Int} (h:d < 0):Qi.mk' (-p) (-q) d.natAbs = Qi.frac p q d:=by
 have e:=Qi.nat_of_int (n:=-d) (by omega)
 rw [Int.natAbs_neg] at e
 refine Qi.ext' ?_ ?_
 ·rw [Qi.mk_re,e]; show _ = (p:Rat) / (d:Rat); push_cast; grind
 ·rw [Qi.mk_im,e]; show _ = (q:Rat) / (d:Rat); push_cast; grind
theorem Pl (x:Qi):decide (0 < (dg x.a.natAbs).length + (dg x.b.natAbs).length) = !decide (x = Qi.zero):=by
 have h1:=bD (n:=x.a.natAbs); have h2:=bD (n:=x.b.natAbs)
 have h3:=Qi.zero_iff (x:=x)
 by_cases h:x = Qi.zero
 ·have := h3.1 h
  have e1:=h1.2 (by omega); have e2:=h2.2 (by omega)
  rw [e1,e2]; simp [h]
 ·have : ¬ ((dg x.a.natAbs).length + (dg x.b.natAbs).length = 0) := fun e => h (h3.2 ⟨by have := h1.1 (by omega); omega, by have := h2.1 (by omega); omega⟩)
  simp only [h,decide_false,Bool.not_false,decide_eq_true_eq]; omega
theorem Xm (x:Qi):decide ((dg x.b.natAbs).length = 0) = decide (x.b = 0):=by
 have h2:=bD (n:=x.b.natAbs)
 congr 1; apply propext; rw [h2]; omega
theorem Ly {m n:Nat}:rV m n = 0 ↔ m = n:=by
 unfold rV
 split
 ·constructor
  ·intro h; simp at h
  ·intro h; omega
 ·split
  ·constructor
   ·intro h; simp at h
   ·intro h; omega
  ·constructor
   ·intro _; omega
   ·intro _; rfl
theorem Xu (x y:Qi):(decide (rE x.a y.a = 0) && decide (rE x.b y.b = 0) && decide (rV (du x) (du y) = 0)) = decide (x = y):=by
 rw [Bool.eq_iff_iff]
 simp only [Bool.and_eq_true,decide_eq_true_eq,Aj,Ly]
 constructor
 ·rintro ⟨⟨h1, h2⟩, h3⟩
  refine Qi.inj h1 h2 ?_
  by_cases h:du x = 0
  ·rw [vW h,vW (h3 ▸ h)]
  ·rw [← sW h,← sW (h3 ▸ h),h3]
 ·intro h; subst h; exact ⟨⟨rfl,rfl⟩,rfl⟩
def tO (a : Int) (d : Nat) : List Nat :=
 (if (Qi.mk' a 0 d).a < 0 then 45 :: xM (Qi.mk' a 0 d).a.natAbs else xM (Qi.mk' a 0 d).a.natAbs) ++ (if (Qi.mk' a 0 d).den = 1 then [] else 47 :: xM (Qi.mk' a 0 d).den)
def txt (x : Qi) : List Nat :=
 if x.b = 0 then tO x.a x.den
 else if x.a = 0 then tO x.b x.den ++ [105]
 else tO x.a x.den ++ ((if x.b < 0 then tO x.b x.den else 43 :: tO x.b x.den) ++ [105])
end
section
open Go Go.RowKit
theorem vM {α:Type} {l:List α} {i:Nat} (h:i < l.length):l[i]? = some l[i]:=List.getElem?_eq_getElem h
def tab {α:Type} (m:Nat) (f:Nat → α):List α:=(List.range m).map f
theorem bC {α:Type} (m:Nat) (f:Nat → α):(tab m f).length = m:=by simp [tab]
theorem dC {α:Type} {m:Nat} {f:Nat → α} {i:Nat} (h:i < m):(tab m f)[i]? = some (f i):=by simp [tab,h]
theorem iL {α:Type} {m:Nat} {f:Nat → α} {x:α}:x ∈ tab m f ↔ ∃ i,i < m ∧ f i = x:=by simp [tab]
theorem Yf {α β:Type} (m:Nat) (f:Nat → α) (g:α → β):(tab m f).map g = tab m (fun i=>g (f i)):=by simp [tab]
theorem gC {α:Type} {m:Nat} {f g:Nat → α} (h:∀ i,i < m → f i = g i):tab m f = tab m g:=by
 apply List.ext_getElem?
 intro i
 by_cases hi:i < m
 ·rw [dC hi,dC hi,h i hi]
 ·rw [List.getElem?_eq_none (by rw [bC]; omega),List.getElem?_eq_none (by rw [bC]; omega)]
theorem lZ {α:Type} (m:Nat) (f:Nat → α):tab (m + 1) f = tab m f ++ [f m]:=by simp [tab,List.range_succ]
theorem Sx {α β:Type} [Inhabited α] (l:List α) (g:α → β):tab l.length (fun i=>g (l.getD i default)) = l.map g:=by
 apply List.ext_getElem?
 intro i
 by_cases hi:i < l.length
 ·rw [dC hi]; simp [List.getD,hi]
 ·rw [List.getElem?_eq_none (by rw [bC]; omega),List.getElem?_eq_none (by simp; omega)]
theorem mS {α:Type} (m:Nat) (x:α):tab m (fun _=>x) = List.replicate m x:=by
 apply List.ext_getElem?
 intro i
 by_cases hi:i < m
 ·rw [dC hi]; simp [hi]
 ·rw [List.getElem?_eq_none (by rw [bC]; omega),List.getElem?_eq_none (by simp; omega)]
theorem Il {α:Type} [Inhabited α] {l:List α} {m:Nat} (h:l.length = m):l = tab m (fun i=>l.getD i default):=by
 subst h; rw [Sx l (fun x=>x)]; simp
structure kL {α:Type} (f:Nat → α) (m:Nat) (out:List α) (k:Nat):Prop where
 len:out.length = m
 kle:k ≤ m
 at_:∀ i,i < k → out[i]? = some (f i)
theorem kL.start {α:Type} (f:Nat → α) (m:Nat) (z:α):kL f m (List.replicate m z) 0:=⟨by simp,Nat.zero_le _,fun i h=>by omega⟩
theorem kL.next {α : Type} {f : Nat → α} {m k : Nat} {out : List α} (h : kL f m out k) (hk : k < m) {y : α} (hy : y = f k) : kL f m (out.set k y) (k + 1) :=
 ⟨by simp [h.len], hk, fun i hi => by
  by_cases e:i = k
  ·subst e; rw [List.getElem?_set_self (by rw [h.len]; exact hk),hy]
  ·rw [List.getElem?_set_ne (by omega)]; exact h.at_ i (by omega)⟩
theorem kL.fin {α:Type} {f:Nat → α} {m:Nat} {out:List α} (h:kL f m out m):out = tab m f:=by
 apply List.ext_getElem?
 intro i
 by_cases hi:i < m
 ·rw [dC hi,h.at_ i hi]
 ·rw [List.getElem?_eq_none (by rw [h.len]; omega),List.getElem?_eq_none (by rw [bC]; omega)]
theorem kB {α:Type} (F:α → Ty) (l:List α) (i:Nat) (d:α):(l.map F).set i (F d) = (l.set i d).map F:=by rw [List.map_set]
theorem tW {α:Type} (F:α → Ty) (m:Nat) (z:α):List.replicate m (F z) = (List.replicate m z).map F:=by rw [List.map_replicate]
theorem sN {α:Type} (F:α → Ty) (l:List α) (d:α):l.map F ++ [F d] = (l ++ [d]).map F:=by simp
theorem nH {s:Nat} {Ts Us:List Ty} (h:Ts = Us):∀ v V,(kT s Ts).p v V → (kT s Us).p v V:=fun v V k=>h ▸ k
theorem lL {s : Nat} : ∀ v V, (Is (.slice none 0 0)).p v V → (kT s []).p v V := fun v V h => by
 cases h
 exact ⟨none,0,rfl,Nat.le_refl _,fun i T hT=>by simp at hT⟩
theorem iV : ∀ V, (aE Qi.zero).p (.agg #[.bool false, .slice none 0 0, .bool false, .slice none 0 0, .slice none 0 0]) V := fun V =>
 Ki (n := 0) _ V ⟨[.bool false, .slice none 0 0, .bool false, .slice none 0 0, .slice none 0 0], rfl,
  eE.cons' ⟨rfl,trivial⟩ (eE.cons' ⟨lU _ V rfl,trivial⟩ (eE.cons' ⟨rfl,trivial⟩ (eE.cons' ⟨rfl,trivial⟩ (eE.cons' ⟨rfl,trivial⟩ eE.nil))))⟩
theorem tH : ∀ v V, (dL [Is (.bool false), Is (.slice none 0 0), Is (.bool false), Is (.slice none 0 0), Is (.slice none 0 0)]).p v V → (aE Qi.zero).p v V := fun v V ⟨vs, e, h⟩ => by
 have e0 : vs = [.bool false, .slice none 0 0, .bool false, .slice none 0 0, .slice none 0 0] := by
  obtain ⟨a,b,c,d,f,rfl⟩:=yC (by simpa using h.length)
  obtain ⟨h1,h2,h3,h4,h5,_⟩:=h.all
  cases h1; cases h2; cases h3; cases h4; cases h5; rfl
 subst e0; subst e; exact iV V
structure Rt where
 re:Int
 im:Int
 den:Int
 h1:-9223372036854775808 ≤ re
 h2:re ≤ 9223372036854775807
 h3:-9223372036854775808 ≤ im
 h4:im ≤ 9223372036854775807
 h5:-9223372036854775808 ≤ den
 h6:den ≤ 9223372036854775807
instance : Inhabited Rt:=⟨⟨0,0,0,by decide,by decide,by decide,by decide,by decide,by decide⟩⟩
instance : Inhabited Qi:=⟨Qi.zero⟩
abbrev vL (r:Rt):Ty:=dL [aF .i64 r.re,aF .i64 r.im,aF .i64 r.den]
def Rt.d (r:Rt):Int:=if r.den = 0 then 1 else r.den
theorem Rt.d0 (r:Rt):r.d ≠ 0:=by unfold Rt.d; split <;> omega
theorem Rt.d1 (r:Rt):-9223372036854775808 ≤ r.d:=by have:=r.h5; unfold Rt.d; split <;> omega
theorem Rt.d2 (r:Rt):r.d ≤ 9223372036854775807:=by have:=r.h6; unfold Rt.d; split <;> omega
def Rt.q (r:Rt):Qi:=Qi.frac r.re r.im r.d
theorem Qi.Fit.frac {p q d:Int} (p1:-9223372036854775808 ≤ p) (p2:p ≤ 9223372036854775807) (q1:-9223372036854775808 ≤ q) (q2:q ≤ 9223372036854775807) (d1:-9223372036854775808 ≤ d) (d2:d ≤ 9223372036854775807) (hd:d ≠ 0):Qi.Fit (Qi.frac p q d) 2:=by
 by_cases h:d < 0
 ·rw [← Qi.frac_neg h]
  exact Qi.Fit.mk (by omega) (by show _ < 4294967296 ^ 2; omega) (by show _ < 4294967296 ^ 2; omega) (by show _ < 4294967296 ^ 2; omega)
 ·rw [← Qi.frac_pos h hd]
  exact Qi.Fit.mk (by omega) (by show _ < 4294967296 ^ 2; omega) (by show _ < 4294967296 ^ 2; omega) (by show _ < 4294967296 ^ 2; omega)
instance fitRt {r:Rt}:aI r.q 2:=⟨Qi.Fit.frac r.h1 r.h2 r.h3 r.h4 r.d1 r.d2 r.d0⟩
abbrev bP (l:List Qi):Ty:=kT 5 (l.map aE)
abbrev Ab (l:List Rt):Ty:=kT 3 (l.map vL)
abbrev bF (m:List (List Qi)):Ty:=kT 1 (m.map bP)
theorem Pv (n k:Nat):(dg (n / k)).length ≤ (dg n).length:=jQ (Nat.div_le_self n k)
theorem Fc (a:Int) {d:Nat} (hd:0 < d):(dg (Qi.mk' a 0 d).a.natAbs).length ≤ (dg a.natAbs).length:=by rw [(Qi.over (A:=a) (B:=0) hd).1]; exact Pv _ _
theorem Fd (a:Int) {d:Nat} (hd:0 < d):(dg (Qi.mk' a 0 d).den).length ≤ (dg d).length:=by rw [(Qi.over (A:=a) (B:=0) hd).2.2.1]; exact Pv _ _
theorem Fj (a:Int) {d:Nat} (hd:0 < d):(tO a d).length ≤ 10 * (dg a.natAbs).length + 10 * (dg d).length + 4:=by
 have h1:=Fc a hd; have h2:=Fd a hd
 have h3:=sR (Qi.mk' a 0 d).a.natAbs; have h4:=sR (Qi.mk' a 0 d).den
 unfold tO
 rw [List.length_append]
 have e1:(if (Qi.mk' a 0 d).a < 0 then 45 :: xM (Qi.mk' a 0 d).a.natAbs else xM (Qi.mk' a 0 d).a.natAbs).length ≤ (xM (Qi.mk' a 0 d).a.natAbs).length + 1:=by split <;> simp
 have e2:(if (Qi.mk' a 0 d).den = 1 then [] else 47 :: xM (Qi.mk' a 0 d).den).length ≤ (xM (Qi.mk' a 0 d).den).length + 1:=by split <;> simp
 omega
end
section
open Go Go.RowKit
theorem HH.rot {base:Nat} {w:World} {V:aO} {X:Hp} {A:SA} (h:HH base w V (X ++ [A])):HH base w V (A :: X):=by
 obtain ⟨F,h1,h2⟩:=h
 refine ⟨fun i=>if i = 0 then F X.length else F (i - 1),fun i B hB=>?_,fun i j b hi hj hbi hbj=>?_⟩
 ·cases i with
  | zero=>simp at hB; subst hB; simpa using h1 X.length A (by simp)
  | succ i =>
   simp at hB
   have hl:=(List.getElem?_eq_some_iff.1 hB).1
   simpa using h1 i B (by rw [List.getElem?_append_left hl]; exact hB)
 ·simp at hi hj
  cases i with
  | zero =>
   cases j with
   | zero=>rfl
   | succ j=>simp at hbi hbj; have:=h2 X.length j b (by simp) (by simp; omega) hbi hbj; omega
  | succ i =>
   cases j with
   | zero=>simp at hbi hbj; have:=h2 i X.length b (by simp; omega) (by simp) hbi hbj; omega
   | succ j=>simp at hbi hbj; have:=h2 i j b (by simp; omega) (by simp; omega) hbi hbj; omega
theorem HH.unrot {base:Nat} {w:World} {V:aO} {X:Hp} {A:SA} (h:HH base w V (A :: X)):HH base w V (X ++ [A]):=by
 obtain ⟨F,h1,h2⟩:=h
 refine ⟨fun i=>if i = X.length then F 0 else F (i + 1),fun i B hB=>?_,fun i j b hi hj hbi hbj=>?_⟩
 ·by_cases e : i = X.length
  ·subst e; simp at hB; subst hB; simpa using h1 0 A rfl
  ·have hl := (List.getElem?_eq_some_iff.1 hB).1
   simp at hl
   rw [List.getElem?_append_left (by omega)] at hB
   simpa [e] using h1 (i + 1) B (by simpa using hB)
 ·simp at hi hj
  by_cases e:i = X.length <;> by_cases e':j = X.length
  ·omega
  ·simp only [if_pos e,if_neg e'] at hbi hbj; have:=h2 0 (j + 1) b (by simp) (by simp; omega) hbi hbj; omega
  ·simp only [if_neg e,if_pos e'] at hbi hbj; have:=h2 (i + 1) 0 b (by simp; omega) (by simp) hbi hbj; omega
  ·simp only [if_neg e,if_neg e'] at hbi hbj; have:=h2 (i + 1) (j + 1) b (by simp; omega) (by simp; omega) hbi hbj; omega
section
variable {P:Program} {cx:Cx} {n:Nat} {E:cB} {o:Oper}
theorem putAt {Y : Hp} {q : Nat} {A B : SA} {a : Act} {w : World} {V : aO} (h : W.PutTy P n E [A] [B] o) (hi : fN cx V Y w) (hA : Y[q]? = some A) (hs : dA n E V a) :
  ∃ w',(execOp a.eval o).run P w = .ok .skip w' ∧ fN cx V (Y.set q B) w':=by
 obtain ⟨w',e1,e2⟩:=h cx (Y.set q SA.emp) a w V (hi.withHH (hi.hp.last hA).rot) hs
 exact ⟨w',e1,e2.withHH (HH.unlast (HH.unrot e2.hp) (List.getElem?_eq_some_iff.1 hA).1)⟩
def Dq (P : Program) (n : Nat) (E : cB) (A : SA) (o : Oper) (γ : Type) (T : γ → Ty) (B : γ → SA) : Prop :=
 ∀ (cx:Cx) (X:Hp) (a:Act) (w:World) (V:aO),fN cx V ([A] ++ X) w → dA n E V a → ∃ (x:γ) (v:Value) (w':World),(execOp a.eval o).run P w = .ok (.value v) w' ∧ (T x).p v V ∧ fN cx V ([B x] ++ X) w'
theorem Yq {Y : Hp} {q : Nat} {A : SA} {γ : Type} {T : γ → Ty} {B : γ → SA} {a : Act} {w : World} {V : aO} (h : Dq P n E A o γ T B) (hi : fN cx V Y w) (hA : Y[q]? = some A) (hs : dA n E V a) :
  ∃ (x:γ) (v:Value) (w':World),(execOp a.eval o).run P w = .ok (.value v) w' ∧ (T x).p v V ∧ fN cx V (Y.set q (B x)) w':=by
 obtain ⟨x,v,w',e1,e2,e3⟩:=h cx (Y.set q SA.emp) a w V (hi.withHH (hi.hp.last hA).rot) hs
 exact ⟨x,v,w',e1,e2,e3.withHH (HH.unlast (HH.unrot e3.hp) (List.getElem?_eq_some_iff.1 hA).1)⟩
theorem Ng {ops:Array Oper} {H:Hp} {e:Nat} {T:Ty} (h:gH P n ops E (H.set e SA.emp) o T):gH P n ops E H o T:=by
 by_cases he:e < H.length
 ·intro cx X a w V hi hs K Q hK
  have hA:(H ++ X)[e]? = some H[e]:=by rw [List.getElem?_append_left he]; simp [he]
  have h1:=hi.hp.last hA
  rw [List.set_append_left _ _ he,List.append_assoc] at h1
  refine h cx (X ++ [H[e]]) a w V (hi.withHH h1) hs K Q (fun v w' V' hi' hle hv=>hK v w' V' (hi'.withHH ?_) hle hv)
  have h2:=hi'.hp
  rw [← List.append_assoc,← List.set_append_left _ _ he] at h2
  have h3:=HH.unlast h2 (by simp; omega)
  have e3:(H ++ X).set e H[e] = H ++ X:=by rw [List.set_append_left _ _ he]; simp
  rwa [e3] at h3
 ·rwa [List.set_eq_of_length_le (by omega)] at h
end
namespace Y
abbrev kK:=List (Nat × Nat × SA)
def pK (L : Nat → Bool) (e : Nat) (A : SA) : kK → SA
 | []=>A
 | q :: r=>if q.2.1 = e then (if L q.1 then q.2.2 else A) else pK L e A r
def vH (L : Nat → Bool) (ps : kK) : Nat → Hp → Hp
 | _,[]=>[]
 | e,A :: H=>pK L e A ps :: vH L ps (e + 1) H
def fC (L:Nat → Bool) (ps:kK) (H:Hp):Hp:=match ps with
 | []=>H
 | _ :: _=>vH L ps 0 H
theorem Bc (L : Nat → Bool) (ps : kK) : ∀ (H : Hp) (e : Nat), (vH L ps e H).length = H.length
 | [],_=>rfl
 | _ :: H,e=>by simp [vH,Bc L ps H (e + 1)]
theorem Bb (L : Nat → Bool) (ps : kK) : ∀ (H : Hp) (e i : Nat), (vH L ps e H)[i]? = (H[i]?).map fun A => pK L (e + i) A ps
 | [],_,_=>by simp [vH]
 | A :: H,e,0=>by simp [vH]
 | A :: H,e,i + 1=>by simp only [vH,List.getElem?_cons_succ,Bb L ps H (e + 1) i]; rw [show e + 1 + i = e + (i + 1) by omega]
theorem rA (L:Nat → Bool) (ps:kK) (H:Hp):(fC L ps H).length = H.length:=by
 cases ps with
 | nil=>rfl
 | cons q r=>exact Bc _ _ _ _
theorem lE (L:Nat → Bool) (ps:kK) (H:Hp) (i:Nat):(fC L ps H)[i]? = (H[i]?).map fun A=>pK L i A ps:=by
 cases ps with
 | nil=>simp [fC,pK]
 | cons q r=>have:=Bb L (q :: r) H 0 i; rwa [Nat.zero_add] at this
theorem rW {L L' : Nat → Bool} {e : Nat} {A : SA} : ∀ {ps : kK}, (∀ q, q ∈ ps → q.2.1 = e → L q.1 = L' q.1) → pK L e A ps = pK L' e A ps
 | [],_=>rfl
 | q :: r, h => by
  unfold pK
  by_cases hq:q.2.1 = e
  ·rw [if_pos hq,if_pos hq,h q (by simp) hq]
  ·rw [if_neg hq,if_neg hq]; exact rW (fun q hq=>h q (by simp [hq]))
theorem qE {L L':Nat → Bool} {ps:kK} {H:Hp} (h:∀ q,q ∈ ps → L q.1 = L' q.1):fC L ps H = fC L' ps H:=by
 apply List.ext_getElem?
 intro i
 rw [lE,lE]
 congr 1; funext A; exact rW (fun q hq _=>h q hq)
theorem yL {ps:kK} {H:Hp} {L:Nat → Bool} (h:∀ q,q ∈ ps → L q.1 = false):fC L ps H = H:=by
 apply List.ext_getElem?
 intro i
 rw [lE]
 have : ∀ {ps : kK} (A : SA), (∀ q, q ∈ ps → L q.1 = false) → pK L i A ps = A := by
  intro ps A
  induction ps with
  | nil=>intro _; rfl
  | cons q r ih =>
   intro h
   unfold pK
   by_cases hq:q.2.1 = i
   ·rw [if_pos hq,h q (by simp)]; rfl
   ·rw [if_neg hq]; exact ih (fun q hq=>h q (by simp [hq]))
 cases hH:H[i]? with
 | none=>rfl
 | some A=>simp [this A h]
def okP (ps:kK):Prop:=List.Pairwise (fun a b=>a.1 ≠ b.1 ∧ a.2.1 ≠ b.2.1) ps
theorem okP.one {q q' : Nat × Nat × SA} : ∀ {ps : kK}, okP ps → q ∈ ps → q' ∈ ps → (q.1 = q'.1 ∨ q.2.1 = q'.2.1) → q = q'
 | [],_,h,_,_=>by cases h
 | r :: ps, ho, h, h', e => by
  have ho:=List.pairwise_cons.1 ho
  rcases List.mem_cons.1 h with k1 | k1
  ·rcases List.mem_cons.1 h' with k2 | k2
   ·rw [k1,k2]
   ·have := ho.1 q' k2
    rw [← k1] at this
    rcases e with e | e
    ·exact absurd e this.1
    ·exact absurd e this.2
  ·rcases List.mem_cons.1 h' with k2 | k2
   ·have := ho.1 q k1
    rw [← k2] at this
    rcases e with e | e
    ·exact absurd e.symm this.1
    ·exact absurd e.symm this.2
   ·exact okP.one (ps:=ps) ho.2 k1 k2 e
theorem Eh {L : Nat → Bool} {q : Nat × Nat × SA} {A : SA} : ∀ {ps : kK}, okP ps → q ∈ ps → L q.1 = true → pK L q.2.1 A ps = q.2.2
 | [],_,h,_=>by cases h
 | r :: ps, ho, h, hL => by
  unfold pK
  rcases List.mem_cons.1 h with h1 | h1
  ·subst h1; rw [if_pos rfl,if_pos hL]
  ·have ho' := List.pairwise_cons.1 ho
   rw [if_neg (ho'.1 q h1).2]; exact Eh (ps:=ps) ho'.2 h1 hL
theorem My {ps:kK} {H:Hp} {L L':Nat → Bool} (ho:okP ps) {q:Nat × Nat × SA} (hq:q ∈ ps) (h1:L' q.1 = true) (h2:∀ i,i ≠ q.1 → L' i = L i):fC L' ps H = (fC L ps H).set q.2.1 q.2.2:=by
 apply List.ext_getElem?
 intro i
 rw [lE]
 by_cases e:i = q.2.1
 ·subst e
  cases hH:H[q.2.1]? with
  | none =>
   have hl:H.length ≤ q.2.1:=List.getElem?_eq_none_iff.1 hH
   rw [List.getElem?_eq_none (by rw [List.length_set,rA]; exact hl)]; rfl
  | some A =>
   have hl:=(List.getElem?_eq_some_iff.1 hH).1
   rw [List.getElem?_set_self (by rw [rA]; exact hl)]
   simp [Eh ho hq h1]
 ·rw [List.getElem?_set_ne (fun x => e x.symm), lE]
  congr 1; funext A
  exact rW (fun q' hq' he=>h2 _ (fun x=>e (by rw [← he,ho.one hq' hq (.inl x)])))
def Ev (ps:kK) (H:Hp):Hp:=ps.foldl (fun h q=>h.set q.2.1 SA.emp) H
theorem Fv {P : Program} {n : Nat} {E : cB} {o : Oper} {ops : Array Oper} {T : Ty} : ∀ (ps : kK) (H : Hp), gH P n ops E (Ev ps H) o T → gH P n ops E H o T
 | [],_,h=>h
 | q :: r,H,h=>Ng (e:=q.2.1) (Fv r (H.set q.2.1 SA.emp) h)
theorem xY : ∀ (ps : kK) (H : Hp) (i : Nat), (Ev ps H)[i]? = if ∃ q, q ∈ ps ∧ q.2.1 = i then (H[i]?).map fun _ => SA.emp else H[i]?
 | [],H,i=>by simp [Ev]
 | q :: r, H, i => by
  have:=xY r (H.set q.2.1 SA.emp) i
  show (Ev r (H.set q.2.1 SA.emp))[i]? = _
  rw [this]
  by_cases h1:∃ q,q ∈ r ∧ q.2.1 = i
  ·have h2 : ∃ q', q' ∈ q :: r ∧ q'.2.1 = i := let ⟨q', a, b⟩ := h1; ⟨q', by simp [a], b⟩
   rw [if_pos h1,if_pos h2]
   by_cases e:q.2.1 = i
   ·subst e; rw [List.getElem?_set_self']; cases H[q.2.1]? <;> rfl
   ·rw [List.getElem?_set_ne e]
  ·rw [if_neg h1]
   by_cases e:q.2.1 = i
   ·subst e
    rw [if_pos ⟨q,by simp,rfl⟩,List.getElem?_set_self']; cases H[q.2.1]? <;> rfl
   ·rw [if_neg (fun ⟨q',a,b⟩=>(List.mem_cons.1 a).elim (fun x=>e (x ▸ b)) (fun x=>h1 ⟨q',x,b⟩)),List.getElem?_set_ne e]
theorem Mg (ps:kK) (H:Hp) (L:Nat → Bool):Ev ps (fC L ps H) = Ev ps H:=by
 apply List.ext_getElem?
 intro i
 rw [xY,xY,lE]
 by_cases h:∃ q,q ∈ ps ∧ q.2.1 = i
 ·rw [if_pos h,if_pos h]; cases H[i]? <;> rfl
 ·rw [if_neg h, if_neg h]
  have : ∀ A, pK L i A ps = A := fun A => by
   have : ∀ {ps : kK}, ¬ (∃ q, q ∈ ps ∧ q.2.1 = i) → pK L i A ps = A := by
    intro ps
    induction ps with
    | nil=>intro _; rfl
    | cons q r ih =>
     intro h
     unfold pK
     rw [if_neg (fun e=>h ⟨q,by simp,e⟩)]
     exact ih (fun ⟨q',a,b⟩=>h ⟨q',by simp [a],b⟩)
   exact this h
  cases H[i]? <;> simp [this]
inductive Ob:Type 1 where
 | val (T:Ty)
 | new (γ:Type) (T:γ → Ty) (A:γ → SA)
 | newp (γ:Type) (T:γ → Ty) (A B:γ → SA) (p:Nat)
 | app (γ:Type) (T:γ → Ty) (A:SA) (B:γ → SA)
 | putI
 | putN (j:Nat)
def Ob.isPut : Ob → Bool
 | .putI=>true
 | .putN _=>true
 | _=>false
def Src (ops : List Oper) (m : Nat) (E0 : cB) (prev : List (Nat × Ob)) (o : Oper) (t : Nat) (T : Ty) : Prop :=
 (fH E0 t = some T ∧ ((List.range m).all fun j=>!(eM ops j == some t)) = true) ∨
 ∃ j,prev.reverse[j]? = some (t,.val T) ∧ (o.after.toList.any fun e=>Nat.beq e.on j && Region.binds .any e) = true
theorem Src.pre {ops:List Oper} {m:Nat} {E0:cB} {prev:List (Nat × Ob)} {o:Oper} {t:Nat} {T:Ty} (h:fH E0 t = some T) (h':((List.range m).all fun j=>!(eM ops j == some t)) = true):Src ops m E0 prev o t T:=.inl ⟨h,h'⟩
theorem Src.op {ops:List Oper} {m:Nat} {E0:cB} {prev:List (Nat × Ob)} {o:Oper} {t:Nat} {T:Ty} (j:Nat) (h:prev.reverse[j]? = some (t,.val T)) (h':(o.after.toList.any fun e=>Nat.beq e.on j && Region.binds .any e) = true):Src ops m E0 prev o t T:=.inr ⟨j,h,h'⟩
def Srcs (ops:List Oper) (m:Nat) (E0:cB) (prev:List (Nat × Ob)) (o:Oper) (Ei:cB):Prop:=∀ t T,fH Ei t = some T → Src ops m E0 prev o t T
theorem Srcs.nil {ops:List Oper} {m:Nat} {E0:cB} {prev:List (Nat × Ob)} {o:Oper}:Srcs ops m E0 prev o []:=fun t T h=>by cases h
theorem Srcs.cons {ops : List Oper} {m : Nat} {E0 Ei : cB} {prev : List (Nat × Ob)} {o : Oper} {t : Nat} {T : Ty} (h : Src ops m E0 prev o t T) (k : Srcs ops m E0 prev o Ei) : Srcs ops m E0 prev o ((t, T) :: Ei) := fun u U hl => by
 rw [cM] at hl
 by_cases e:t = u
 ·subst e; rw [if_pos rfl] at hl; obtain rfl:=Option.some.inj hl; exact h
 ·rw [if_neg e] at hl; exact k u U hl
section
variable {P:Program} {R:eA} {cx:Cx} {n:Nat} {k:List It} {E:cB} {H Ho:Hp} {ps:kK} {pr:Nat → SA}
def vK (P : Program) (n : Nat) (ops : List Oper) (m : Nat) (E0 : cB) (H : Hp) (ps : kK) (pr : Nat → SA) (prev : List (Nat × Ob)) (d : Nat) (o : Oper) : Ob → Prop
 | .val T=>(o.dst = some d ∧ d < n ∧ ∀ q,q ∈ ps → prev.length ≠ q.1) ∧ pr prev.length = SA.emp ∧ ∃ Ei,Srcs ops m E0 prev o Ei ∧ (gH P n ops.toArray Ei (Ev ps H) o T ∨ (gH P n ops.toArray Ei H o T ∧ ∀ q,q ∈ ps → ((nE ops []).getD q.1 0).testBit prev.length = true ∧ q.1 < ops.length))
 | .app γ T A B=>(o.dst = some d ∧ d < n ∧ ∀ q,q ∈ ps → prev.length ≠ q.1) ∧ pr prev.length = A ∧ o.guard = none ∧ ∃ Ei,Srcs ops m E0 prev o Ei ∧ Dq P n Ei A o γ T B
 | .new γ T A=>(o.dst = some d ∧ d < n ∧ ∀ q,q ∈ ps → prev.length ≠ q.1) ∧ pr prev.length = SA.emp ∧ o.guard = none ∧ ∃ Ei,Srcs ops m E0 prev o Ei ∧ gY P n Ei [] o γ T A
 | .newp γ T A B p=>(o.dst = some d ∧ d < n ∧ ∀ q,q ∈ ps → prev.length ≠ q.1) ∧ pr prev.length = SA.emp ∧ o.guard = none ∧ (((nE ops []).getD p 0).testBit prev.length = true ∧ p < ops.length) ∧ ∃ Ei,Srcs ops m E0 prev o Ei ∧ gY P n Ei [] o γ T A
 | .putI=>pr prev.length = SA.emp ∧ o.guard = none ∧ o.dst = none ∧ ∃ q A Ei,q ∈ ps ∧ q.1 = prev.length ∧ H[q.2.1]? = some A ∧ Srcs ops m E0 prev o Ei ∧ W.PutTy P n Ei [A] [q.2.2] o
 | .putN j => pr prev.length = SA.emp ∧ o.guard = none ∧ o.dst = none ∧ (∀ q, q ∈ ps → prev.length ≠ q.1) ∧ (o.after.toList.any fun e => Nat.beq e.on j && Region.binds .any e) = true ∧ ∃ (dj : Nat) (γ : Type) (T : γ → Ty) (A B : γ → SA) (Ei : cB), prev.reverse[j]? = some (dj, .newp γ T A B prev.length) ∧
   Srcs ops m E0 prev o Ei ∧ ∀ x,W.PutTy P n ((dj,T x) :: Ei) [A x] [B x] o
def kS (P : Program) (n : Nat) (ops : List Oper) (m : Nat) (E0 : cB) (H : Hp) (ps : kK) (pr : Nat → SA) : List (Nat × Ob) → Prop
 | []=>True
 | (d,b) :: prev=>(∃ o,ops[prev.length]? = some o ∧ vK P n ops m E0 H ps pr prev d o b) ∧ kS P n ops m E0 H ps pr prev
def Gf (Ho H:Hp) (pr:Nat → SA) (m:Nat):Prop:=∀ (base:Nat) (w:World) (V:aO),HH base w V Ho → HH base w V (H ++ (List.range m).map pr)
def Dr (P : Program) (R : eA) (cx : Cx) (n : Nat) (ops : List Oper) (m : Nat) (k : List It) (E0 : cB) (Ho H : Hp) (ps : kK) (pr : Nat → SA) (l : List Oper) (acc : List (Nat × Ob)) : Prop :=
 Gf Ho H pr m → ops = (ops.take acc.length) ++ l → kS P n ops m E0 H ps pr acc → ∀ id,Tr P R cx n (.code (.region id ops.toArray true) :: k) E0 Ho
def Fin' (P : Program) (R : eA) (cx : Cx) (n : Nat) (ops : Array Oper) (l : List Oper) (k : List It) : List (Nat × Ob) → cB → Hp → Prop
 | [],E,H=>Rg P R cx n ops l k E H
 | (d,.val T) :: r,E,H=>Fin' P R cx n ops l k r ((d,T) :: E) H
 | (d,.new γ T A) :: r,E,H=>∀ x:γ,Fin' P R cx n ops l k r ((d,T x) :: E) (H ++ [A x])
 | (d,.app γ T _ B) :: r,E,H=>∀ x:γ,Fin' P R cx n ops l k r ((d,T x) :: E) (H ++ [B x])
 | (d,.newp γ T _ B _) :: r,E,H=>∀ x:γ,Fin' P R cx n ops l k r ((d,T x) :: E) (H ++ [B x])
 | (_,.putI) :: r,E,H=>Fin' P R cx n ops l k r E H
 | (_,.putN _) :: r,E,H=>Fin' P R cx n ops l k r E H
theorem HH.emps {base:Nat} {w:World} {V:aO} {H:Hp} (m:Nat) (hh:HH base w V H):HH base w V (H ++ (List.range m).map fun _=>SA.emp):=by
 obtain ⟨F,f1,f2⟩:=hh
 refine ⟨fun i=>if i < H.length then F i else [],fun i A hA=>?_,fun i j b hi hj hbi hbj=>?_⟩
 ·by_cases e : i < H.length
  ·rw [List.getElem?_append_left e] at hA
   simp only [if_pos e]; exact f1 i A hA
  ·rw [List.getElem?_append_right (by omega)] at hA
   have : A = SA.emp := by
    rw [List.getElem?_map] at hA
    cases hq:(List.range m)[i - H.length]? with
    | none=>rw [hq] at hA; cases hA
    | some q=>rw [hq] at hA; simpa using hA.symm
   subst this
   simp only [if_neg e]
   exact ⟨rfl,fun b hb=>by simp at hb⟩
 ·by_cases e : i < H.length <;> by_cases e' : j < H.length
  ·simp only [if_pos e,if_pos e'] at hbi hbj; exact f2 i j b e e' hbi hbj
  ·simp [e'] at hbj
  ·simp [e] at hbi
  ·simp [e] at hbi
theorem Gf.none {m:Nat}:Gf H H (fun _=>SA.emp) m:=fun _ _ _ h=>HH.emps m h
theorem Gf.one {m e q : Nat} {A : SA} (hA : H[e]? = some A) (hq : q < m) : Gf H (H.set e SA.emp) (fun i => if i = q then A else SA.emp) m := fun base w V h => by
 have h1:=HH.emps m (h.last hA)
 have hel:=(List.getElem?_eq_some_iff.1 hA).1
 obtain ⟨F,f1,f2⟩:=h1
 have hl:(H.set e SA.emp).length = H.length:=by simp
 refine ⟨fun i=>if i < H.length then F i else if i = H.length + q then F H.length else [],fun i B hB=>?_,fun i j b hi hj hbi hbj=>?_⟩
 ·by_cases c : i < H.length
  ·rw [List.getElem?_append_left (by rw [hl]; exact c)] at hB
   simp only [if_pos c]
   exact f1 i B (by rw [List.getElem?_append_left (by simp; omega),List.getElem?_append_left (by rw [hl]; exact c)]; exact hB)
  ·rw [List.getElem?_append_right (by rw [hl]; omega), hl, List.getElem?_map] at hB
   simp only [if_neg c]
   cases hr:(List.range m)[i - H.length]? with
   | none=>rw [hr] at hB; cases hB
   | some r =>
    have hrr:r = i - H.length:=by have:=List.getElem?_eq_some_iff.1 hr; obtain ⟨_,h3⟩:=this; simpa using h3.symm
    rw [hr] at hB
    simp only [Option.map_some,Option.some.injEq] at hB
    by_cases c2:r = q
    ·rw [if_pos c2] at hB; subst hB
     rw [if_pos (by omega)]
     exact f1 H.length A (by rw [List.getElem?_append_left (by simp),List.getElem?_append_right (by rw [hl]; omega)]; simp)
    ·rw [if_neg c2] at hB; subst hB
     rw [if_neg (by omega)]
     exact ⟨rfl,fun b hb=>by simp at hb⟩
 ·simp at hi hj
  by_cases c:i < H.length <;> by_cases c':j < H.length
  ·simp only [if_pos c,if_pos c'] at hbi hbj; exact f2 i j b (by simp; omega) (by simp; omega) hbi hbj
  ·simp only [if_pos c, if_neg c'] at hbi hbj
   by_cases c2:j = H.length + q
   ·rw [if_pos c2] at hbj; have:=f2 i H.length b (by simp; omega) (by simp) hbi hbj; omega
   ·rw [if_neg c2] at hbj; simp at hbj
  ·simp only [if_neg c, if_pos c'] at hbi hbj
   by_cases c2:i = H.length + q
   ·rw [if_pos c2] at hbi; have:=f2 j H.length b (by simp; omega) (by simp) hbj hbi; omega
   ·rw [if_neg c2] at hbi; simp at hbi
  ·simp only [if_neg c, if_neg c'] at hbi hbj
   by_cases c2:i = H.length + q
   ·by_cases c3 : j = H.length + q
    ·omega
    ·rw [if_neg c3] at hbj; simp at hbj
   ·rw [if_neg c2] at hbi; simp at hbi
theorem D_start {ops:List Oper} {m:Nat} {id:Nat} (ps:kK) (h:Dr P R cx n ops m k E H H ps (fun _=>SA.emp) ops []):Tr P R cx n (.code (.region id ops.toArray true) :: k) E H:=h Gf.none (by simp) trivial id
theorem D_startA {ops:List Oper} {m:Nat} {id:Nat} (ps:kK) (q e:Nat) {A:SA} (hA:H[e]? = some A) (hq:Nat.blt q m = true) (h:Dr P R cx n ops m k E H (H.set e SA.emp) ps (fun i=>if i = q then A else SA.emp) ops []):Tr P R cx n (.code (.region id ops.toArray true) :: k) E H:=h (Gf.one hA (Nat.le_of_ble_eq_true hq)) (by simp) trivial id
theorem wX {ops l : List Oper} {m : Nat} {o : Oper} {acc : List (Nat × Ob)} (d : Nat) (b : Ob) (hb : vK P n ops m E H ps pr acc d o b)
  (h:Dr P R cx n ops m k E Ho H ps pr l ((d,b) :: acc)):Dr P R cx n ops m k E Ho H ps pr (o :: l) acc:=fun hin hops hobs=>by
 have hlen : acc.length ≤ ops.length := by
  have:=congrArg List.length hops
  simp at this; omega
 have ho : ops[acc.length]? = some o := by
  rw [hops,List.getElem?_append_right (by simp; omega)]
  simp [Nat.min_eq_left hlen]
 have hlt:acc.length < ops.length:=(List.getElem?_eq_some_iff.1 ho).1
 refine h hin ?_ ⟨⟨o,ho,hb⟩,hobs⟩
 rw [List.length_cons,List.take_succ_eq_append_getElem hlt]
 have:ops[acc.length] = o:=by simpa [hlt] using ho
 rw [this]
 simpa using hops
def kO (ps:kK) (i:Nat):Bool:=ps.all fun q=>!Nat.beq i q.1
theorem kO.ne {i : Nat} (h : kO ps i = true) : ∀ q, q ∈ ps → i ≠ q.1 := fun q hq e => by
 have:=List.all_eq_true.1 h q hq
 rw [e] at this; simp at this
theorem D_hide {ops l : List Oper} {m : Nat} {o : Oper} {acc : List (Nat × Ob)} {d : Nat} {T : Ty} {Ei : cB} (hd : o.dst = some d) (hn : Nat.blt d n = true) (hs : Srcs ops m E acc o Ei) (hp : kO ps acc.length = true) (hpr : pr acc.length = SA.emp) (hst : gH P n ops.toArray Ei (Ev ps H) o T)
  (h:Dr P R cx n ops m k E Ho H ps pr l ((d,.val T) :: acc)):Dr P R cx n ops m k E Ho H ps pr (o :: l) acc :=
 wX d (.val T) ⟨⟨hd,Nat.le_of_ble_eq_true hn,kO.ne hp⟩,hpr,Ei,hs,.inl hst⟩ h
def Lm (ops:List Oper) (ps:kK) (i:Nat):Bool:=ps.all fun q=>((nE ops []).getD q.1 0).testBit i && Nat.blt q.1 ops.length
theorem D_step {ops l : List Oper} {m : Nat} {o : Oper} {acc : List (Nat × Ob)} {d : Nat} {T : Ty} {Ei : cB} (hd : o.dst = some d) (hn : Nat.blt d n = true) (hs : Srcs ops m E acc o Ei) (hp : kO ps acc.length = true) (hpr : pr acc.length = SA.emp) (hb : Lm ops ps acc.length = true) (hst : gH P n ops.toArray Ei H o T)
  (h:Dr P R cx n ops m k E Ho H ps pr l ((d,.val T) :: acc)):Dr P R cx n ops m k E Ho H ps pr (o :: l) acc :=
 wX d (.val T) ⟨⟨hd, Nat.le_of_ble_eq_true hn, kO.ne hp⟩, hpr, Ei, hs, .inr ⟨hst, fun q hq => by
  have:=List.all_eq_true.1 hb q hq
  simp only [Bool.and_eq_true] at this
  exact ⟨this.1,Nat.le_of_ble_eq_true this.2⟩⟩⟩ h
theorem D_new {ops l : List Oper} {m : Nat} {o : Oper} {acc : List (Nat × Ob)} {d : Nat} {γ : Type} {T : γ → Ty} {A : γ → SA} {Ei : cB} (hg : o.guard = none) (hd : o.dst = some d) (hn : Nat.blt d n = true) (hs : Srcs ops m E acc o Ei) (hp : kO ps acc.length = true) (hpr : pr acc.length = SA.emp) (hst : gY P n Ei [] o γ T A)
  (h:Dr P R cx n ops m k E Ho H ps pr l ((d,.new γ T A) :: acc)):Dr P R cx n ops m k E Ho H ps pr (o :: l) acc :=
 wX d (.new γ T A) ⟨⟨hd,Nat.le_of_ble_eq_true hn,kO.ne hp⟩,hpr,hg,Ei,hs,hst⟩ h
theorem D_newp {ops l : List Oper} {m : Nat} {o : Oper} {acc : List (Nat × Ob)} {d : Nat} {γ : Type} {T : γ → Ty} {A : γ → SA} {Ei : cB} (B : γ → SA) (p : Nat) (hg : o.guard = none) (hd : o.dst = some d) (hn : Nat.blt d n = true) (hs : Srcs ops m E acc o Ei) (hp : kO ps acc.length = true) (hpr : pr acc.length = SA.emp)
  (hb:(((nE ops []).getD p 0).testBit acc.length && Nat.blt p ops.length) = true) (hst:gY P n Ei [] o γ T A)
  (h:Dr P R cx n ops m k E Ho H ps pr l ((d,.newp γ T A B p) :: acc)):Dr P R cx n ops m k E Ho H ps pr (o :: l) acc:=by
 simp only [Bool.and_eq_true] at hb
 exact wX d (.newp γ T A B p) ⟨⟨hd,Nat.le_of_ble_eq_true hn,kO.ne hp⟩,hpr,hg,⟨hb.1,Nat.le_of_ble_eq_true hb.2⟩,Ei,hs,hst⟩ h
theorem D_putI {ops l : List Oper} {m : Nat} {o : Oper} {acc : List (Nat × Ob)} {Ei : cB} (e : Nat) {A B : SA} (hpr : pr acc.length = SA.emp) (hg : o.guard = none) (hd : o.dst = none) (hs : Srcs ops m E acc o Ei) (hq : (acc.length, e, B) ∈ ps) (hH : H[e]? = some A) (hst : W.PutTy P n Ei [A] [B] o)
  (h:Dr P R cx n ops m k E Ho H ps pr l ((n,.putI) :: acc)):Dr P R cx n ops m k E Ho H ps pr (o :: l) acc :=
 wX n .putI ⟨hpr,hg,hd,(acc.length,e,B),A,Ei,hq,rfl,hH,hs,hst⟩ h
theorem D_putN {ops l : List Oper} {m : Nat} {o : Oper} {acc : List (Nat × Ob)} {Ei : cB} (j : Nat) {dj : Nat} {γ : Type} {T : γ → Ty} {A B : γ → SA} (hpr : pr acc.length = SA.emp) (hg : o.guard = none) (hd : o.dst = none) (hp : kO ps acc.length = true) (he : (o.after.toList.any fun e => Nat.beq e.on j && Region.binds .any e) = true)
  (hj:acc.reverse[j]? = some (dj,.newp γ T A B acc.length)) (hs:Srcs ops m E acc o Ei) (hst:∀ x,W.PutTy P n ((dj,T x) :: Ei) [A x] [B x] o)
  (h:Dr P R cx n ops m k E Ho H ps pr l ((n,.putN j) :: acc)):Dr P R cx n ops m k E Ho H ps pr (o :: l) acc :=
 wX n (.putN j) ⟨hpr,hg,hd,kO.ne hp,he,dj,γ,T,A,B,Ei,hj,hs,hst⟩ h
theorem D_app {ops l : List Oper} {m : Nat} {o : Oper} {acc : List (Nat × Ob)} {d : Nat} {γ : Type} {T : γ → Ty} {A : SA} {B : γ → SA} {Ei : cB} (hpr : pr acc.length = A) (hg : o.guard = none) (hd : o.dst = some d) (hn : Nat.blt d n = true) (hs : Srcs ops m E acc o Ei) (hp : kO ps acc.length = true) (hst : Dq P n Ei A o γ T B)
  (h:Dr P R cx n ops m k E Ho H ps pr l ((d,.app γ T A B) :: acc)):Dr P R cx n ops m k E Ho H ps pr (o :: l) acc :=
 wX d (.app γ T A B) ⟨⟨hd,Nat.le_of_ble_eq_true hn,kO.ne hp⟩,hpr,hg,Ei,hs,hst⟩ h
structure Cc where
 T:Ty
 A:SA
 B:SA
 p:Nat
def Cc.cur (L:Nat → Bool) (c:Cc):SA:=if L c.p then c.B else c.A
def iM : Ob → Cc → Prop
 | .val T,c=>c = ⟨T,SA.emp,SA.emp,0⟩
 | .new γ T A,c=>∃ x:γ,c = ⟨T x,A x,A x,0⟩
 | .app γ T _ B,c=>∃ x:γ,c = ⟨T x,B x,B x,0⟩
 | .newp γ T A B p,c=>∃ x:γ,c = ⟨T x,A x,B x,p⟩
 | .putI,c=>c.A = SA.emp ∧ c.B = SA.emp
 | .putN _,c=>c.A = SA.emp ∧ c.B = SA.emp
theorem kS.get {ops : List Oper} {m : Nat} : ∀ {acc : List (Nat × Ob)}, kS P n ops m E H ps pr acc → ∀ {i : Nat} {d : Nat} {b : Ob}, acc.reverse[i]? = some (d, b) →
  ∃ o,ops[i]? = some o ∧ vK P n ops m E H ps pr ((acc.reverse.take i).reverse) d o b
 | [],_,i,d,b,h=>by simp at h
 | (d', b') :: prev, ⟨⟨o, h1, h4⟩, hp⟩, i, d, b, h => by
  rw [List.reverse_cons] at h
  by_cases e:i < prev.reverse.length
  ·rw [List.getElem?_append_left e] at h
   obtain ⟨o',q1,q4⟩:=hp.get h
   refine ⟨o',q1,?_⟩
   rw [List.reverse_cons,List.take_append_of_le_length (by omega)]; exact q4
  ·have hi : i = prev.length := by
    have:=(List.getElem?_eq_some_iff.1 h).1
    simp at this e; omega
   subst hi
   rw [List.getElem?_append_right (by simp)] at h
   simp at h
   obtain ⟨rfl,rfl⟩:=h
   refine ⟨o,h1,?_⟩
   rw [List.reverse_cons,List.take_append_of_le_length (by simp),List.take_of_length_le (by simp),List.reverse_reverse]
   exact h4
theorem kS.len {ops : List Oper} {m : Nat} : ∀ {acc : List (Nat × Ob)}, kS P n ops m E H ps pr acc → ∀ i (h : i < acc.length), ∃ d b, acc.reverse[i]? = some (d, b) := fun {acc} _ i h =>
 ⟨_,_,by rw [List.getElem?_eq_getElem (by simpa using h)]⟩
theorem kS.dst {ops:List Oper} {m:Nat} {acc:List (Nat × Ob)} (h:kS P n ops m E H ps pr acc) {i d:Nat} {b:Ob} (hi:acc.reverse[i]? = some (d,b)) (hb:b.isPut = false):eM ops i = some d:=by
 obtain ⟨o,h1,h2⟩:=h.get hi
 cases b with
 | val T=>simp [eM,h1,h2.1.1]
 | new γ T A=>simp [eM,h1,h2.1.1]
 | newp γ T A B p=>simp [eM,h1,h2.1.1]
 | app γ T A B=>simp [eM,h1,h2.1.1]
 | putI=>cases hb
 | putN j=>cases hb
theorem kS.dst0 {ops:List Oper} {m:Nat} {acc:List (Nat × Ob)} (h:kS P n ops m E H ps pr acc) {i d:Nat} {b:Ob} (hi:acc.reverse[i]? = some (d,b)) (hb:b.isPut = true):eM ops i = none:=by
 obtain ⟨o,h1,h2⟩:=h.get hi
 cases b with
 | val T=>cases hb
 | new γ T A=>cases hb
 | newp γ T A B p=>cases hb
 | app γ T A B=>cases hb
 | putI=>simp [eM,h1,h2.2.2.1]
 | putN j=>simp [eM,h1,h2.2.2.1]
def okN (l:List (Nat × Ob)):Prop:=∀ (j d:Nat) (γ:Type) (T:γ → Ty) (A B:γ → SA) (p:Nat),l[j]? = some (d,.newp γ T A B p) → ∃ d',l[p]? = some (d',.putN j)
def Pj (l : List (Nat × Ob)) (j : Nat) : Ob → Bool
 | .newp _ _ _ _ p => match l[p]? with
  | some (_,.putN j')=>Nat.beq j' j
  | _=>false
 | _=>true
def Ef (l : List (Nat × Ob)) : Nat → List (Nat × Ob) → Bool
 | _,[]=>true
 | j,(_,b) :: r=>Pj l j b && Ef l (j + 1) r
theorem Ef.ok {l : List (Nat × Ob)} : ∀ (r : List (Nat × Ob)) (j : Nat), Ef l j r = true → ∀ (i d : Nat) (b : Ob), r[i]? = some (d, b) → Pj l (j + i) b = true
 | [],_,_,i,d,b,h=>by simp at h
 | (d', b') :: r, j, hc, i, d, b, h => by
  simp only [Ef,Bool.and_eq_true] at hc
  cases i with
  | zero=>simp at h; obtain ⟨rfl,rfl⟩:=h; exact hc.1
  | succ i=>have:=Ef.ok r (j + 1) hc.2 i d b (by simpa using h); rwa [show j + (i + 1) = j + 1 + i by omega]
theorem okN.of {l : List (Nat × Ob)} (h : Ef l 0 l = true) : okN l := fun j d γ T A B p hj => by
 have:=Ef.ok l 0 h j d _ hj
 rw [Nat.zero_add] at this
 simp only [Pj] at this
 split at this
 ·rename_i d' j' hp; exact ⟨d',by rw [hp,Nat.eq_of_beq_eq_true this]⟩
 ·cases this
structure rS (cx:Cx) (n:Nat) (ops:List Oper) (m:Nat) (E0:cB) (H:Hp) (ps:kK) (pr:Nat → SA) (L:Nat → Bool) (C:Nat → Cc) (V:aO) (a:Act) (w:World):Prop where
 inv:fN cx V (fC L ps H ++ (List.range m).map fun i=>if L i then (C i).cur L else pr i) w
 df:Ti n a.defers V
 sz:a.tmps.size = n
 old:∀ t T,fH E0 t = some T → (∀ j,j < m → eM ops j ≠ some t) → ∃ v,a.tmps[t]? = some v ∧ T.p v V
 now:∀ j d,j < m → L j = true → eM ops j = some d → ∃ v,a.tmps[d]? = some v ∧ (C j).T.p v V
theorem iA {ops : List Oper} {l : List Oper} : ∀ (r : List (Nat × Ob)) (E : cB) (H : Hp), Fin' P R cx n ops.toArray l k r E H → ∀ (C : Nat → Cc) (i0 : Nat), (∀ (i d : Nat) (b : Ob), r[i]? = some (d, b) → iM b (C (i0 + i))) →
  ∃ E' H', Rg P R cx n ops.toArray l k E' H' ∧ (∀ t T, fH E' t = some T → (fH E t = some T ∧ ∀ (i d : Nat) (b : Ob), r[i]? = some (d, b) → b.isPut = false → d ≠ t) ∨ ∃ (i d : Nat) (b : Ob), r[i]? = some (d, b) ∧ b.isPut = false ∧ d = t ∧ T = (C (i0 + i)).T) ∧
   List.Sublist H' (H ++ (List.range r.length).map fun i=>(C (i0 + i)).B)
 | [],E,H,h,_,_,_=>⟨E,H,h,fun t T hT=>.inl ⟨hT,fun i d b hb _=>by simp at hb⟩,by simp⟩
 | (d, b0) :: r, E, H, h, C, i0, hC => by
  have hC':∀ (i d:Nat) (b:Ob),r[i]? = some (d,b) → iM b (C (i0 + 1 + i)):=fun i d b hb=>by have:=hC (i + 1) d b (by simpa using hb); rwa [show i0 + (i + 1) = i0 + 1 + i by omega] at this
  have hfun : (fun i => (C (i0 + 1 + i)).B) = ((fun i => (C (i0 + i)).B) ∘ Nat.succ) := by
   funext i; simp [show i0 + (i + 1) = i0 + 1 + i by omega]
  -- a slot is written
  have slot : ∀ (E' : cB) (T0 : Ty), (C i0).T = T0 → b0.isPut = false → (∀ t T, fH E' t = some T → (fH ((d, T0) :: E) t = some T ∧ ∀ (i d : Nat) (b : Ob), r[i]? = some (d, b) → b.isPut = false → d ≠ t) ∨ ∃ (i d : Nat) (b : Ob), r[i]? = some (d, b) ∧ b.isPut = false ∧ d = t ∧ T = (C (i0 + 1 + i)).T) →
    ∀ t T,fH E' t = some T → (fH E t = some T ∧ ∀ (i d':Nat) (b:Ob),((d,b0) :: r)[i]? = some (d',b) → b.isPut = false → d' ≠ t) ∨ ∃ (i d':Nat) (b:Ob),((d,b0) :: r)[i]? = some (d',b) ∧ b.isPut = false ∧ d' = t ∧ T = (C (i0 + i)).T:=fun E' T0 h0 hb0 h2 t T hT=>by
   rcases h2 t T hT with ⟨q1,q2⟩ | ⟨i,d',b,q1,q0,q2,q3⟩
   ·rw [cM] at q1
    by_cases e:d = t
    ·rw [if_pos e] at q1; obtain rfl := Option.some.inj q1
     exact .inr ⟨0,d,_,rfl,hb0,e,by rw [Nat.add_zero,h0]⟩
    ·rw [if_neg e] at q1
     refine .inl ⟨q1,fun i d' b hb hnp=>?_⟩
     cases i with
     | zero=>simp at hb; exact hb.1 ▸ e
     | succ i=>exact q2 i d' b (by simpa using hb) hnp
   ·exact .inr ⟨i + 1,d',b,by simpa using q1,q0,q2,by rw [q3,show i0 + (i + 1) = i0 + 1 + i by omega]⟩
  have slot0 : ∀ (E' : cB), b0.isPut = true → (∀ t T, fH E' t = some T → (fH E t = some T ∧ ∀ (i d : Nat) (b : Ob), r[i]? = some (d, b) → b.isPut = false → d ≠ t) ∨ ∃ (i d : Nat) (b : Ob), r[i]? = some (d, b) ∧ b.isPut = false ∧ d = t ∧ T = (C (i0 + 1 + i)).T) →
    ∀ t T,fH E' t = some T → (fH E t = some T ∧ ∀ (i d':Nat) (b:Ob),((d,b0) :: r)[i]? = some (d',b) → b.isPut = false → d' ≠ t) ∨ ∃ (i d':Nat) (b:Ob),((d,b0) :: r)[i]? = some (d',b) ∧ b.isPut = false ∧ d' = t ∧ T = (C (i0 + i)).T:=fun E' hb0 h2 t T hT=>by
   rcases h2 t T hT with ⟨q1,q2⟩ | ⟨i,d',b,q1,q0,q2,q3⟩
   ·refine .inl ⟨q1, fun i d' b hb hnp => ?_⟩
    cases i with
    | zero=>simp at hb; rw [← hb.2,hb0] at hnp; cases hnp
    | succ i=>exact q2 i d' b (by simpa using hb) hnp
   ·exact .inr ⟨i + 1,d',b,by simpa using q1,q0,q2,by rw [q3,show i0 + (i + 1) = i0 + 1 + i by omega]⟩
  have Yb : ∀ H', List.Sublist H' (H ++ (List.range r.length).map fun i => (C (i0 + 1 + i)).B) → List.Sublist H' (H ++ (List.range ((d, b0) :: r).length).map fun i => (C (i0 + i)).B) := fun H' h3 => by
   refine h3.trans ?_
   simp only [List.length_cons,List.range_succ_eq_map,List.map_cons,List.map_map]
   refine List.Sublist.append (List.Sublist.refl H) (List.Sublist.cons _ ?_)
   rw [hfun]; exact List.Sublist.refl _
  have sub1 : ∀ H' (A0 : SA), (C i0).B = A0 → List.Sublist H' ((H ++ [A0]) ++ (List.range r.length).map fun i => (C (i0 + 1 + i)).B) → List.Sublist H' (H ++ (List.range ((d, b0) :: r).length).map fun i => (C (i0 + i)).B) := fun H' A0 e3 h3 => by
   refine h3.trans ?_
   simp only [List.length_cons,List.range_succ_eq_map,List.map_cons,List.map_map,List.append_assoc]
   refine List.Sublist.append (List.Sublist.refl H) ?_
   rw [hfun]
   simp only [Nat.add_zero,e3]
   exact List.Sublist.refl _
  cases b0 with
  | val T0 =>
   obtain ⟨E',H',h1,h2,h3⟩:=iA r _ H h C (i0 + 1) hC'
   have h0:C i0 = ⟨T0,SA.emp,SA.emp,0⟩:=hC 0 d (.val T0) rfl
   exact ⟨E',H',h1,slot E' T0 (by rw [h0]) rfl h2,Yb H' h3⟩
  | new γ T0 A0 =>
   obtain ⟨x,h0⟩:∃ x:γ,C i0 = ⟨T0 x,A0 x,A0 x,0⟩:=hC 0 d (.new γ T0 A0) rfl
   obtain ⟨E',H',h1,h2,h3⟩:=iA r _ _ (h x) C (i0 + 1) hC'
   exact ⟨E',H',h1,slot E' (T0 x) (by rw [h0]) rfl h2,sub1 H' (A0 x) (by rw [h0]) h3⟩
  | app γ T0 A0 B0 =>
   obtain ⟨x,h0⟩:∃ x:γ,C i0 = ⟨T0 x,B0 x,B0 x,0⟩:=hC 0 d (.app γ T0 A0 B0) rfl
   obtain ⟨E',H',h1,h2,h3⟩:=iA r _ _ (h x) C (i0 + 1) hC'
   exact ⟨E',H',h1,slot E' (T0 x) (by rw [h0]) rfl h2,sub1 H' (B0 x) (by rw [h0]) h3⟩
  | newp γ T0 A0 B0 p0 =>
   obtain ⟨x,h0⟩:∃ x:γ,C i0 = ⟨T0 x,A0 x,B0 x,p0⟩:=hC 0 d (.newp γ T0 A0 B0 p0) rfl
   obtain ⟨E',H',h1,h2,h3⟩:=iA r _ _ (h x) C (i0 + 1) hC'
   exact ⟨E',H',h1,slot E' (T0 x) (by rw [h0]) rfl h2,sub1 H' (B0 x) (by rw [h0]) h3⟩
  | putI =>
   obtain ⟨E',H',h1,h2,h3⟩:=iA r _ H h C (i0 + 1) hC'
   exact ⟨E',H',h1,slot0 E' rfl h2,Yb H' h3⟩
  | putN j =>
   obtain ⟨E',H',h1,h2,h3⟩:=iA r _ H h C (i0 + 1) hC'
   exact ⟨E',H',h1,slot0 E' rfl h2,Yb H' h3⟩
theorem oV {ops : List Oper} {m : Nat} {acc : List (Nat × Ob)} {E0 : cB} (hlen : acc.length = m) (hobs : kS P n ops m E0 H ps pr acc) (hokN : okN acc.reverse) (hpm : ∀ q, q ∈ ps → q.1 < m) {H1 : Hp} (hH1 : fC (fun _ => true) ps H = H1) (hfin : Fin' P R cx n ops.toArray (ops.drop m) k acc.reverse E0 H1)
  {L:Nat → Bool} {a:Act} {w:World} {V:aO} {C:Nat → Cc} (hall:∀ i,i < m → L i = true) (hC:∀ (i d:Nat) (b:Ob),acc.reverse[i]? = some (d,b) → iM b (C i)) (hM:rS cx n ops m E0 H ps pr L C V a w) :
  wpList P ops.toArray (den P R k) (ops.drop m) a w:=by
 obtain ⟨E',H',h1,h2,h3⟩:=iA acc.reverse E0 H1 hfin C 0 (fun i d b hb=>by rw [Nat.zero_add]; exact hC i d b hb)
 have hinv:=hM.inv
 have hs:fC L ps H = H1:=by rw [← hH1]; exact qE (fun q hq=>hall _ (hpm q hq))
 rw [hs] at hinv
 refine h1 a w ⟨V,hinv.hp_of (fun hh=>?_),hM.df,hM.sz,fun t T hT=>?_⟩
 ·refine HH.sublist (h3.trans ?_) hh
  rw [List.length_reverse,hlen]
  have : (List.range m).map (fun i => (C (0 + i)).B) = (List.range m).map fun i => if L i then (C i).cur L else pr i := by
   apply List.map_congr_left
   intro i hi
   have him:=List.mem_range.1 hi
   rw [hall i him,Nat.zero_add]
   obtain ⟨d,b,hb⟩:=kS.len hobs i (by omega)
   have ht:=hC i d b hb
   simp only [if_true,Cc.cur]
   cases b with
   | val T=>simp only [iM] at ht; rw [ht]; simp
   | new γ T A=>obtain ⟨x,ht⟩:=ht; rw [ht]; simp
   | app γ T A B=>obtain ⟨x,ht⟩:=ht; rw [ht]; simp
   | newp γ T A B p =>
    obtain ⟨x,ht⟩:=ht
    obtain ⟨d',hp⟩:=hokN i d γ T A B p hb
    have hpl:=(List.getElem?_eq_some_iff.1 hp).1
    rw [ht,hall p (by simpa [hlen] using hpl)]; simp
   | putI=>simp only [iM] at ht; rw [ht.1,ht.2]; simp
   | putN j=>simp only [iM] at ht; rw [ht.1,ht.2]; simp
  rw [this]; exact List.Sublist.refl _
 ·rcases h2 t T hT with ⟨q1, q2⟩ | ⟨i, d, b, q1, q0, q2, q3⟩
  ·refine hM.old t T q1 (fun j hj => ?_)
   obtain ⟨d,b,hb⟩:=kS.len hobs j (by omega)
   cases hbp:b.isPut with
   | true=>rw [hobs.dst0 hb hbp]; simp
   | false =>
    rw [hobs.dst hb hbp]
    intro e; exact q2 j d b hb hbp (Option.some.inj e)
  ·have hi : i < m := by have := (List.getElem?_eq_some_iff.1 q1).1; simpa [hlen] using this
   subst q2; rw [q3,Nat.zero_add]
   exact hM.now i d hi (hall i hi) (hobs.dst q1 q0)
theorem Ej {m i : Nat} (hi : i < m) {listed : Array Bool} (hil : i < listed.size) {C : Nat → Cc} {c : Cc} (hc : ∀ j, j < m → j ≠ i → listed[j]? = some true → (C j).p = i → (C j).A = (C j).B) (hcc : c.p = i → c.A = c.B) :
  ((List.range m).map fun j => if (listed[j]? == some true) = true then (C j).cur (fun q => listed[q]? == some true) else pr j).set i (c.cur (fun q => listed[q]? == some true)) =
   (List.range m).map fun j=>if ((listed.setIfInBounds i true)[j]? == some true) = true then (if j = i then c else C j).cur (fun q=>(listed.setIfInBounds i true)[q]? == some true) else pr j:=by
 have key : ∀ c : Cc, (c.p = i → c.A = c.B) → c.cur (fun q => (listed.setIfInBounds i true)[q]? == some true) = c.cur (fun q => listed[q]? == some true) := fun c h => by
  unfold Cc.cur
  by_cases e:c.p = i
  ·rw [h e]; simp
  ·simp only [Array.getElem?_setIfInBounds_ne (fun x=>e x.symm)]
 rw [lI hi]
 apply List.map_congr_left
 intro j hj
 by_cases e:j = i
 ·subst e; simp [hil,key c hcc]
 ·rw [Array.getElem?_setIfInBounds_ne (fun x => e x.symm), if_neg e, if_neg e]
  by_cases hl:(listed[j]? == some true) = true
  ·rw [if_pos hl,if_pos hl,key _ (hc j (List.mem_range.1 hj) e (by simpa using hl))]
  ·rw [if_neg hl,if_neg hl]
theorem rS.next {ops : List Oper} {m : Nat} {E0 : cB} (hd : Dn ops m) {listed : Array Bool} {a : Act} {w w' : World} {V V' : aO} {C : Nat → Cc} (hM : rS cx n ops m E0 H ps pr (fun i => listed[i]? == some true) C V a w) {i d : Nat} (hi : i < m) (hip : ∀ q, q ∈ ps → i ≠ q.1)
  (hdst:eM ops i = some d) (hdn:d < n) (hli:listed[i]? = some false) {c:Cc} (hc:∀ j,j < m → j ≠ i → listed[j]? = some true → (C j).p = i → (C j).A = (C j).B) (hcc:c.p = i → c.A = c.B) {v:Value} (hv:c.T.p v V') (hle:kC V V')
  (hinv:fN cx V' (fC (fun i=>listed[i]? == some true) ps H ++ ((List.range m).map fun i=>if (listed[i]? == some true) = true then (C i).cur (fun q=>listed[q]? == some true) else pr i).set i (c.cur (fun q=>listed[q]? == some true))) w') :
  rS cx n ops m E0 H ps pr (fun j=>(listed.setIfInBounds i true)[j]? == some true) (fun j=>if j = i then c else C j) V' (a.put (some d) v) w':=by
 have hil:i < listed.size:=(Array.getElem?_eq_some_iff.1 hli).1
 refine ⟨?_,hM.df.mono hle,by simp [Act.put,hM.sz],fun t U hU hn=>?_,fun j d' hj hL hdj=>?_⟩
 ·rw [Ej hi hil hc hcc] at hinv
  have e:fC (fun j=>(listed.setIfInBounds i true)[j]? == some true) ps H = fC (fun i=>listed[i]? == some true) ps H:=qE (fun q hq=>by rw [Array.getElem?_setIfInBounds_ne (hip q hq)])
  rw [e]; exact hinv
 ·obtain ⟨u, h1, h2⟩ := hM.old t U hU hn
  refine ⟨u,?_,U.mono h2 hle⟩
  rw [qR _ _ _ _ (fun e=>hn i hi (by rw [hdst,e]))]; exact h1
 ·by_cases e : j = i
  ·subst e
   rw [hdst] at hdj; obtain rfl:=Option.some.inj hdj
   exact ⟨v,by simp [Act.put,hM.sz,hdn],by simpa using hv⟩
  ·rw [Array.getElem?_setIfInBounds_ne (fun x => e x.symm)] at hL
   obtain ⟨u,h1,h2⟩:=hM.now j d' hj hL hdj
   refine ⟨u,?_,by simpa [e] using Ty.mono _ h2 hle⟩
   rw [qR _ _ _ _ (fun x=>?_)]
   ·exact h1
   ·subst x
    rcases Nat.lt_or_ge j i with q | q
    ·exact hd.dst i j hi q _ hdst hdj
    ·exact hd.dst j i hj (by omega) _ hdj hdst
theorem rS.put {ops : List Oper} {m : Nat} {E0 : cB} {listed : Array Bool} {a : Act} {w w' : World} {V : aO} {C : Nat → Cc} (hM : rS cx n ops m E0 H ps pr (fun i => listed[i]? == some true) C V a w) {i : Nat}
  (hdst:eM ops i = none)
  (hinv:fN cx V (fC (fun j=>(listed.setIfInBounds i true)[j]? == some true) ps H ++ (List.range m).map fun j=>if ((listed.setIfInBounds i true)[j]? == some true) = true then (if j = i then (⟨mA,SA.emp,SA.emp,0⟩:Cc) else C j).cur (fun q=>(listed.setIfInBounds i true)[q]? == some true) else pr j) w') :
  rS cx n ops m E0 H ps pr (fun j=>(listed.setIfInBounds i true)[j]? == some true) (fun j=>if j = i then ⟨mA,SA.emp,SA.emp,0⟩ else C j) V a w':=by
 refine ⟨hinv,hM.df,hM.sz,hM.old,fun j d' hj hL hdj=>?_⟩
 by_cases e:j = i
 ·subst e; rw [hdst] at hdj; cases hdj
 ·rw [Array.getElem?_setIfInBounds_ne (fun x => e x.symm)] at hL
  simpa [e] using hM.now j d' hj hL hdj
theorem lF {ops : List Oper} {m : Nat} {acc : List (Nat × Ob)} {E0 : cB} (hd : Dn ops m) (hlen : acc.length = m) (hobs : kS P n ops m E0 H ps pr acc) (hokN : okN acc.reverse) (hokP : okP ps) (hpm : ∀ q, q ∈ ps → q.1 < m) {H1 : Hp} (hH1 : fC (fun _ => true) ps H = H1) (hfin : Fin' P R cx n ops.toArray (ops.drop m) k acc.reverse E0 H1) :
  ∀ (fuel : Nat) (listed : Array Bool) (a : Act) (w : World) (V : aO) (C : Nat → Cc), LI ops listed → gP listed.toList ≤ fuel → (∀ i : Nat, m ≤ i → i < ops.length → listed[i]? = some false) →
   (∀ (i d:Nat) (b:Ob),acc.reverse[i]? = some (d,b) → listed[i]? = some true → iM b (C i)) → rS cx n ops m E0 H ps pr (fun i=>listed[i]? == some true) C V a w → wpAny P .any ops.toArray (den P R k) fuel listed a w:=by
 intro fuel
 have done : ∀ (listed : Array Bool) (a : Act) (w : World) (V : aO) (C : Nat → Cc), LI ops listed → ∀ fuel, gP listed.toList ≤ fuel → (∀ i : Nat, m ≤ i → i < ops.length → listed[i]? = some false) →
   (∀ (i d:Nat) (b:Ob),acc.reverse[i]? = some (d,b) → listed[i]? = some true → iM b (C i)) → rS cx n ops m E0 H ps pr (fun i=>listed[i]? == some true) C V a w → (∀ i:Nat,i < m → listed[i]? = some true) → wpAny P .any ops.toArray (den P R k) fuel listed a w:=by
  intro listed a w V C hL fuel hc hl hC hM hall
  have hge:=vS listed.toList m (by simpa [hL.sz] using hd.le) (fun i h1 h2=>by simpa using hl i h1 (by simpa [hL.sz] using h2))
  refine oJ hd fuel m listed a w (Nat.le_refl m) hd.le (by simp [hL.sz] at hge; omega) hL (fun i hi=>?_) ?_
  ·by_cases e : i < m
   ·rw [hall i e]; simp [e]
   ·rw [hl i (by omega) hi]; simp; omega
  ·refine oV hlen hobs hokN hpm hH1 hfin (fun i hi => by rw [hall i hi]; rfl) (fun i d b hb => hC i d b hb (hall i ?_)) hM
   have:=(List.getElem?_eq_some_iff.1 hb).1
   simpa [hlen] using this
 induction fuel with
 | zero =>
  intro listed a w V C hL hc hl hC hM
  refine done listed a w V C hL 0 hc hl hC hM (fun i hi=>?_)
  have hil:i < listed.size:=by rw [hL.sz]; have:=hd.le; omega
  cases hb:listed[i] with
  | true=>simp [hil,hb]
  | false =>
   have:=oA listed.toList i (by simp [hil,hb])
   omega
 | succ fuel ih =>
  intro listed a w V C hL hc hl hC hM
  by_cases hall:∀ i:Nat,i < m → listed[i]? = some true
  ·exact done listed a w V C hL _ hc hl hC hM hall
  refine ⟨fun hr=>absurd (fun i hi=>mQ hr hL.sz hd.back i (by have:=hd.le; omega)) hall,fun i hi=>?_⟩
  obtain ⟨o,h1,h2,h3⟩:=lB hi hL.sz
  have him : i < m := by
   rcases Nat.lt_or_ge i m with hx | hx
   ·exact hx
   ·exact absurd (fun j hj=>hL.before hd h1 h3 hx j (by omega)) hall
  have hil:i < listed.size:=(Array.getElem?_eq_some_iff.1 h2).1
  obtain ⟨d,b,hb⟩:=kS.len hobs i (by omega)
  obtain ⟨o',q1,q4⟩:=hobs.get hb
  rw [h1] at q1; obtain rfl:=Option.some.inj q1
  have hpl:(acc.reverse.take i).reverse.length = i:=by simp; omega
  have slots : ∀ Ei, Srcs ops m E0 (acc.reverse.take i).reverse o Ei → dA n Ei V a := fun Ei hS => by
   refine ⟨hM.df,hM.sz,fun t T hT=>?_⟩
   rcases hS t T hT with ⟨r1,r2⟩ | ⟨j,r1,r2⟩
   ·refine hM.old t T r1 (fun j hj e => ?_)
    have:=List.all_eq_true.1 r2 j (List.mem_range.2 hj)
    simp [e] at this
   ·rw [List.reverse_reverse, List.getElem?_take] at r1
    split at r1
    case isFalse=>cases r1
    case isTrue hji =>
    obtain ⟨e,he,hb'⟩:=List.any_eq_true.1 r2
    simp only [Bool.and_eq_true] at hb'
    have hon:e.on = j:=Nat.eq_of_beq_eq_true hb'.1
    have hlj:=h3 e he hb'.2
    rw [hon] at hlj
    have hc':C j = ⟨T,SA.emp,SA.emp,0⟩:=hC j t (.val T) r1 hlj
    obtain ⟨v,s1,s2⟩:=hM.now j t (by omega) (by rw [hlj]; rfl) (hobs.dst r1 rfl)
    exact ⟨v,s1,by rw [hc'] at s2; exact s2⟩
  have hcnt : gP (listed.setIfInBounds i true).toList ≤ fuel := by
   have:=oB listed.toList i (by simpa using h2)
   rw [Array.toList_setIfInBounds]; omega
  have hl' : ∀ j : Nat, m ≤ j → j < ops.length → (listed.setIfInBounds i true)[j]? = some false := fun j hj hjl => by
   rw [Array.getElem?_setIfInBounds_ne (by omega)]; exact hl j hj hjl
  have took : ∀ (c : Cc), iM b c → ∀ (j d : Nat) (b : Ob), acc.reverse[j]? = some (d, b) → (listed.setIfInBounds i true)[j]? = some true → iM b (if j = i then c else C j) := fun c ht j d' b' hb' hj => by
   by_cases e:j = i
   ·subst e
    rw [hb] at hb'; simp at hb'
    simp only [if_pos]; exact hb'.2 ▸ ht
   ·rw [Array.getElem?_setIfInBounds_ne (fun x => e x.symm)] at hj
    simp only [if_neg e]; exact hC j d' b' hb' hj
  -- only a store of its own changes a block of the region
  have other : (∀ j, b ≠ .putN j) → ∀ j, j < m → j ≠ i → listed[j]? = some true → (C j).p = i → (C j).A = (C j).B := fun hnp j hj _ hlj hpj => by
   obtain ⟨dj,bj,hbj⟩:=kS.len hobs j (by omega)
   have ht:=hC j dj bj hbj hlj
   cases bj with
   | val T=>simp only [iM] at ht; rw [ht]
   | new γ T A=>obtain ⟨x,ht⟩:=ht; rw [ht]
   | app γ T A B=>obtain ⟨x,ht⟩:=ht; rw [ht]
   | newp γ T A B p =>
    obtain ⟨x,ht⟩:=ht
    rw [ht] at hpj
    obtain ⟨d',hp⟩:=hokN j dj γ T A B p hbj
    rw [show p = i from hpj,hb] at hp
    simp at hp
    exact absurd hp.2 (hnp j)
   | putI=>simp only [iM] at ht; rw [ht.1,ht.2]
   | putN j'=>simp only [iM] at ht; rw [ht.1,ht.2]
  have notyet : ∀ p, ((nE ops []).getD p 0).testBit i = true → p < ops.length → listed[p]? ≠ some true := fun p hbit hpo Ql => by
   have ho:ops[p]? = some ops[p]:=List.getElem?_eq_getElem hpo
   have:=tE (fun j=>listed[j]? = some true) ops hL.cl ops [] (fun j o hj=>by simpa using hj) (fun k o hk=>by simp at hk) p ops[p] (by rw [mI]; simpa using hpo) ho (hL.cl p _ ho Ql) i hbit
   rw [h2] at this; simp at this
  have hx : pr i = SA.emp → ((List.range m).map fun i => if (listed[i]? == some true) = true then (C i).cur (fun q => listed[q]? == some true) else pr i).set i SA.emp = (List.range m).map fun i => if (listed[i]? == some true) = true then (C i).cur (fun q => listed[q]? == some true) else pr i := by
   intro hpr
   rw [lI him]
   apply List.map_congr_left
   intro j _
   by_cases e:j = i
   ·subst e; simp [h2,hpr]
   ·simp [e]
  have newc : ∀ (γ : Type) (T : γ → Ty) (A : γ → SA) (Ei : cB), b.isPut = false → (∀ j, b ≠ .putN j) → o.dst = some d → d < n → (∀ q, q ∈ ps → i ≠ q.1) → o.guard = none → Srcs ops m E0 (acc.reverse.take i).reverse o Ei → gY P n Ei [] o γ T A → (c : γ → Cc) → (∀ x, (c x).T = T x) → (∀ x, (c x).cur (fun q => listed[q]? == some true) = A x) → (∀ x, (c x).p = i → (c x).A = (c x).B) → (∀ x, iM b (c x)) →
    (if Region.wanted o (yielded ops.toArray a.tmps) = true then o.wp P a w (wpAny P .any ops.toArray (den P R k) fuel (listed.setIfInBounds i true)) (den P R k) ∨ (o.asks P a w ∧ LetsOut (den P R k)) else wpAny P .any ops.toArray (den P R k) fuel (listed.setIfInBounds i true) (a.put o.dst undef) w):=fun γ T A Ei hip hnp q2 q3 q5 hg hS hst c hcT hcur hcp htk=>by
   have hdst:=hobs.dst hb hip
   rw [if_pos (by simp [Region.wanted,hg])]
   left
   refine hst cx (fC (fun i=>listed[i]? == some true) ps H ++ (List.range m).map fun i=>if (listed[i]? == some true) = true then (C i).cur (fun q=>listed[q]? == some true) else pr i) a w V hM.inv (slots Ei hS) _ _ fun x v w' V' e3 hle e2=>?_
   rw [q2]
   refine ih _ _ _ V' _ (hL.set h1 h3) hcnt hl' (took (c x) (htk x)) (hM.next hd him q5 hdst q3 h2 (other hnp) (hcp x) (by rw [hcT]; exact e2) hle (e3.hp_of (fun hh=>?_)))
   rw [show ([] ++ (fC (fun i=>listed[i]? == some true) ps H ++ (List.range m).map fun i=>if (listed[i]? == some true) = true then (C i).cur (fun q=>listed[q]? == some true) else pr i) ++ [A x]:Hp) = (fC (fun i=>listed[i]? == some true) ps H ++ (List.range m).map fun i=>if (listed[i]? == some true) = true then (C i).cur (fun q=>listed[q]? == some true) else pr i) ++ [A x] from rfl] at hh
   have:=HH.move (p:=(fC (fun i=>listed[i]? == some true) ps H).length + i) hh (by simp; omega)
   rw [List.set_append_right _ _ (by omega),show (fC (fun i=>listed[i]? == some true) ps H).length + i - (fC (fun i=>listed[i]? == some true) ps H).length = i by omega] at this
   rw [hcur x]; exact this
  unfold wpOp
  simp only [List.getElem?_toArray,h1]
  cases b with
  | val T =>
   obtain ⟨⟨q2,q3,q5⟩,hpr,Ei,hS,hst⟩:=q4
   rw [hpl] at q5 hpr
   have hdst:=hobs.dst hb rfl
   have hst' : gH P n ops.toArray Ei (fC (fun i => listed[i]? == some true) ps H) o T := by
    rcases hst with hst | ⟨hst,hbit⟩
    ·exact Fv ps _ (by rw [Mg]; exact hst)
    ·rw [yL (fun q hq => by
      rw [hpl] at hbit
      cases Ql:(listed[q.1]? == some true) with
      | false=>rfl
      | true=>exact absurd (by simpa using Ql) (notyet q.1 (hbit q hq).1 (hbit q hq).2))]
     exact hst
   have := hst' cx _ a w V hM.inv (slots Ei hS) (wpAny P .any ops.toArray (den P R k) fuel (listed.setIfInBounds i true)) (den P R k) (fun v w' V' hi' hle hv => by
    rw [q2]
    exact ih _ _ _ V' _ (hL.set h1 h3) hcnt hl' (took ⟨T, SA.emp, SA.emp, 0⟩ rfl) (hM.next hd him q5 hdst q3 h2 (other (fun j e => by cases e)) (fun _ => rfl) hv hle (by
     have:(⟨T,SA.emp,SA.emp,0⟩:Cc).cur (fun q=>listed[q]? == some true) = SA.emp:=by simp [Cc.cur]
     rw [this,hx hpr]; exact hi')))
   split
   ·rename_i hw; rw [if_pos hw] at this; exact .inl this
   ·rename_i hw; rw [if_neg hw] at this; exact this
  | new γ T A =>
   obtain ⟨⟨q2,q3,q5⟩,_,hg,Ei,hS,hst⟩:=q4
   rw [hpl] at q5
   exact newc γ T A Ei rfl (fun j e=>by cases e) q2 q3 q5 hg hS hst (fun x=>⟨T x,A x,A x,0⟩) (fun x=>rfl) (fun x=>by simp [Cc.cur]) (fun x _=>rfl) (fun x=>⟨x,rfl⟩)
  | newp γ T A B p =>
   obtain ⟨⟨q2,q3,q5⟩,_,hg,hbit,Ei,hS,hst⟩:=q4
   rw [hpl] at q5 hbit
   have hnl:=notyet p hbit.1 hbit.2
   have Ql : (listed[p]? == some true) = false := by
    cases Ql:(listed[p]? == some true) with
    | false=>rfl
    | true=>exact absurd (by simpa using Ql) hnl
   refine newc γ T A Ei rfl (fun j e=>by cases e) q2 q3 q5 hg hS hst (fun x=>⟨T x,A x,B x,p⟩) (fun x=>rfl) (fun x=>by simp only [Cc.cur,Ql]; simp) (fun x hp=>?_) (fun x=>⟨x,rfl⟩)
   obtain ⟨d',hp'⟩:=hokN i d γ T A B p hb
   rw [show p = i from hp,hb] at hp'
   simp at hp'
  | app γ T A B =>
   obtain ⟨⟨q2,q3,q5⟩,hpr,hg,Ei,hS,hst⟩:=q4
   rw [hpl] at q5 hpr
   have hdst:=hobs.dst hb rfl
   have hAe : (fC (fun i => listed[i]? == some true) ps H ++ (List.range m).map fun i => if (listed[i]? == some true) = true then (C i).cur (fun q => listed[q]? == some true) else pr i)[(fC (fun i => listed[i]? == some true) ps H).length + i]? = some A := by
    rw [List.getElem?_append_right (by omega),show (fC (fun i=>listed[i]? == some true) ps H).length + i - (fC (fun i=>listed[i]? == some true) ps H).length = i by omega,List.getElem?_map,List.getElem?_range him]
    simp [h2,hpr]
   obtain ⟨x,v,w',e1,e2,e3⟩:=Yq hst hM.inv hAe (slots Ei hS)
   rw [if_pos (by simp [Region.wanted,hg])]
   left
   simp only [Oper.wp,e1,Oper.upon_value,q2]
   refine ih _ _ _ V _ (hL.set h1 h3) hcnt hl' (took ⟨T x,B x,B x,0⟩ ⟨x,rfl⟩) (hM.next hd him q5 hdst q3 h2 (other (fun j e=>by cases e)) (fun _=>rfl) e2 (kC.refl V) ?_)
   rw [List.set_append_right _ _ (by omega),show (fC (fun i=>listed[i]? == some true) ps H).length + i - (fC (fun i=>listed[i]? == some true) ps H).length = i by omega] at e3
   have:(⟨T x,B x,B x,0⟩:Cc).cur (fun q=>listed[q]? == some true) = B x:=by simp [Cc.cur]
   rw [this]; exact e3
  | putI =>
   obtain ⟨hpr,hg,q2,q,A,Ei,hq,q5,hH,hS,hst⟩:=q4
   rw [hpl] at q5 hpr
   have hpq:(listed[q.1]? == some true) = false:=by rw [q5,h2]; rfl
   have hAe : (fC (fun i => listed[i]? == some true) ps H ++ (List.range m).map fun i => if (listed[i]? == some true) = true then (C i).cur (fun q => listed[q]? == some true) else pr i)[q.2.1]? = some A := by
    have hl:=(List.getElem?_eq_some_iff.1 hH).1
    rw [List.getElem?_append_left (by rw [rA]; exact hl),lE,hH]
    simp only [Option.map_some,Option.some.injEq]
    have : ∀ {ps' : kK}, (∀ q', q' ∈ ps' → q'.2.1 = q.2.1 → q'.1 = q.1) → pK (fun i => listed[i]? == some true) q.2.1 A ps' = A := by
     intro ps'
     induction ps' with
     | nil=>intro _; rfl
     | cons r rs ihr =>
      intro h
      unfold pK
      by_cases e:r.2.1 = q.2.1
      ·rw [if_pos e,h r (by simp) e,if_neg (by rw [hpq]; simp)]
      ·rw [if_neg e]; exact ihr (fun q' hq'=>h q' (by simp [hq']))
    exact this (fun q' hq' e=>by rw [hokP.one hq' hq (.inr e)])
   obtain ⟨w',e1,e3⟩:=putAt hst hM.inv hAe (slots Ei hS)
   rw [if_pos (by simp [Region.wanted,hg])]
   left
   simp only [Oper.wp,e1,Oper.upon_skip]
   have ep:a.put o.dst undef = a:=by rw [q2]; rfl
   rw [ep]
   refine ih _ _ _ V _ (hL.set h1 h3) hcnt hl' (took ⟨mA,SA.emp,SA.emp,0⟩ ⟨rfl,rfl⟩) (hM.put (hobs.dst0 hb rfl) ?_)
   have hl:=(List.getElem?_eq_some_iff.1 hH).1
   rw [List.set_append_left _ _ (by rw [rA]; exact hl)] at e3
   rw [← My (L':=fun j=>(listed.setIfInBounds i true)[j]? == some true) hokP hq (by rw [q5]; simp [hil]) (fun j hj=>by rw [Array.getElem?_setIfInBounds_ne (fun x=>hj (by rw [q5,x]))])] at e3
   have e4:=Ej (pr:=pr) him hil (c:=⟨mA,SA.emp,SA.emp,0⟩) (other (fun j e=>by cases e)) (fun _=>rfl)
   have e5:(⟨mA,SA.emp,SA.emp,0⟩:Cc).cur (fun q=>listed[q]? == some true) = SA.emp:=by simp [Cc.cur]
   rw [e5,hx hpr] at e4
   rw [← e4]; exact e3
  | putN j =>
   obtain ⟨hpr,hg,q2,q5,hedge,dj,γ,T,A,B,Ei,hj,hS,hst⟩:=q4
   rw [hpl] at q5 hj hpr
   rw [List.reverse_reverse,List.getElem?_take] at hj
   split at hj
   case isFalse=>cases hj
   case isTrue hji =>
   obtain ⟨e,he,hb'⟩:=List.any_eq_true.1 hedge
   simp only [Bool.and_eq_true] at hb'
   have hon:e.on = j:=Nat.eq_of_beq_eq_true hb'.1
   have hlj:=h3 e he hb'.2
   rw [hon] at hlj
   obtain ⟨x,hcj⟩:=hC j dj _ hj hlj
   obtain ⟨v,s1,s2⟩:=hM.now j dj (by omega) (by rw [hlj]; rfl) (hobs.dst hj rfl)
   have hcurj:(C j).cur (fun q=>listed[q]? == some true) = A x:=by rw [hcj]; simp [Cc.cur,h2]
   have hAe : (fC (fun i => listed[i]? == some true) ps H ++ (List.range m).map fun i => if (listed[i]? == some true) = true then (C i).cur (fun q => listed[q]? == some true) else pr i)[(fC (fun i => listed[i]? == some true) ps H).length + j]? = some (A x) := by
    rw [List.getElem?_append_right (by omega),show (fC (fun i=>listed[i]? == some true) ps H).length + j - (fC (fun i=>listed[i]? == some true) ps H).length = j by omega,List.getElem?_map,List.getElem?_range (by omega)]
    simp [hlj,hcurj]
   have hsl : dA n ((dj, T x) :: Ei) V a := by
    have h0:=slots Ei hS
    refine ⟨h0.1,h0.2.1,fun t U hU=>?_⟩
    rw [cM] at hU
    by_cases e:dj = t
    ·subst e; rw [if_pos rfl] at hU; obtain rfl := Option.some.inj hU
     exact ⟨v,s1,by rw [hcj] at s2; exact s2⟩
    ·rw [if_neg e] at hU; exact h0.2.2 t U hU
   obtain ⟨w',e1,e3⟩:=putAt (hst x) hM.inv hAe hsl
   rw [if_pos (by simp [Region.wanted,hg])]
   left
   simp only [Oper.wp,e1,Oper.upon_skip]
   have ep:a.put o.dst undef = a:=by rw [q2]; rfl
   rw [ep]
   refine ih _ _ _ V _ (hL.set h1 h3) hcnt hl' (took ⟨mA,SA.emp,SA.emp,0⟩ ⟨rfl,rfl⟩) (hM.put (hobs.dst0 hb rfl) ?_)
   have es:fC (fun j=>(listed.setIfInBounds i true)[j]? == some true) ps H = fC (fun i=>listed[i]? == some true) ps H:=qE (fun q hq=>by rw [Array.getElem?_setIfInBounds_ne (q5 q hq)])
   rw [es]
   rw [List.set_append_right _ _ (by omega),show (fC (fun i=>listed[i]? == some true) ps H).length + j - (fC (fun i=>listed[i]? == some true) ps H).length = j by omega] at e3
   have e4 : ((List.range m).map fun i => if (listed[i]? == some true) = true then (C i).cur (fun q => listed[q]? == some true) else pr i).set j (B x) =
     (List.range m).map fun l=>if ((listed.setIfInBounds i true)[l]? == some true) = true then (if l = i then (⟨mA,SA.emp,SA.emp,0⟩:Cc) else C l).cur (fun q=>(listed.setIfInBounds i true)[q]? == some true) else pr l:=by
    rw [lI (by omega:j < m)]
    apply List.map_congr_left
    intro l hl2
    have hlm:=List.mem_range.1 hl2
    by_cases e1:l = j
    ·have hne : i ≠ j := by omega
     have hcu:(C j).cur (fun q=>(listed.setIfInBounds i true)[q]? == some true) = B x:=by rw [hcj]; simp [Cc.cur,hil]
     rw [e1,if_pos rfl,Array.getElem?_setIfInBounds_ne hne,if_neg (Ne.symm hne),hcu,hlj]; rfl
    ·rw [if_neg e1]
     by_cases e2:l = i
     ·have h5 : (⟨mA, SA.emp, SA.emp, 0⟩ : Cc).cur (fun q => (listed.setIfInBounds i true)[q]? == some true) = SA.emp := by simp [Cc.cur]
      rw [e2,h2,if_pos rfl,h5,hpr]; simp
     ·rw [Array.getElem?_setIfInBounds_ne (fun x => e2 x.symm), if_neg e2]
      by_cases hll:(listed[l]? == some true) = true
      ·rw [if_pos hll, if_pos hll]
       unfold Cc.cur
       by_cases e3:(C l).p = i
       ·have hll' : listed[l]? = some true := by simpa using hll
        obtain ⟨dl,bl',hbl⟩:=kS.len hobs l (by omega)
        have ht:=hC l dl bl' hbl hll'
        have : (C l).A = (C l).B := by
         cases bl' with
         | val T=>simp only [iM] at ht; rw [ht]
         | new γ T A=>obtain ⟨x,ht⟩:=ht; rw [ht]
         | app γ T A B=>obtain ⟨x,ht⟩:=ht; rw [ht]
         | newp γ T A B p =>
          obtain ⟨x,ht⟩:=ht
          rw [ht] at e3
          obtain ⟨d',hp⟩:=hokN l dl γ T A B p hbl
          rw [show p = i from e3,hb] at hp
          simp at hp
          exact absurd hp.2.symm e1
         | putI=>simp only [iM] at ht; rw [ht.1,ht.2]
         | putN j'=>simp only [iM] at ht; rw [ht.1,ht.2]
        rw [this]; simp
       ·simp only [Array.getElem?_setIfInBounds_ne (fun x=>e3 x.symm)]
      ·rw [if_neg hll,if_neg hll]
   rw [← e4]; exact e3
theorem D_done {ops l : List Oper} {m : Nat} {acc : List (Nat × Ob)} (hP : P.follows .mixedOrders = true) (hm : acc.length = m) (hchk : rX ops m = true) (hpm : (ps.all fun q => Nat.blt q.1 m) = true) (hokP : okP ps) (hokN : Ef acc.reverse 0 acc.reverse = true) {H1 : Hp} (hH1 : fC (fun _ => true) ps H = H1)
  (h:Fin' P R cx n ops.toArray l k acc.reverse E H1):Dr P R cx n ops m k E Ho H ps pr l acc:=fun hin hops hobs id a w ⟨V,hi,hs⟩=>by
 have hd:=Dn.of hchk
 have hl : ops.drop m = l := by
  conv=>lhs; rw [hops]
  rw [List.drop_append,List.drop_of_length_le (by simp; omega)]
  simp [hm,Nat.min_eq_left hd.le]
 refine wp_region_any hP ?_
 have hnone : ∀ i : Nat, (Array.replicate ops.toArray.size false)[i]? ≠ some true := fun i h => by
  rw [Array.getElem?_replicate] at h; split at h <;> simp at h
 have hfalse : ∀ i : Nat, ((Array.replicate ops.toArray.size false)[i]? == some true) = false := fun i => by
  cases hc:((Array.replicate ops.toArray.size false)[i]? == some true) with
  | false=>rfl
  | true=>exact absurd (by simpa using hc) (hnone i)
 refine lF (cx:=cx) (n:=n) (E0:=E) (H:=H) (ps:=ps) (pr:=pr) hd hm hobs (okN.of hokN) hokP (fun q hq=>Nat.le_of_ble_eq_true (List.all_eq_true.1 hpm q hq)) hH1 (by rw [hl]; exact h) _ _ a _ V (fun _=>⟨mA,SA.emp,SA.emp,0⟩) ⟨by simp,fun i o ho h=>absurd h (hnone i)⟩ ?_ (fun i h1 h2=>by simp [h2]) (fun i d b _ h=>absurd h (hnone i)) ?_
 ·have : ∀ j, gP (List.replicate j false) ≤ j := fun j => by
   induction j with
   | zero=>simp [gP]
   | succ j ih=>simp only [List.replicate_succ,gP]; simp; omega
  simpa using this _
 ·refine ⟨?_, hs.1, hs.2.1, fun t T hT _ => hs.2.2 t T hT, fun j d hj hL => ?_⟩
  ·rw [yL (fun q _ => hfalse q.1)]
   have e : ((List.range m).map fun i => if ((Array.replicate ops.toArray.size false)[i]? == some true) = true then Cc.cur (fun i => (Array.replicate ops.toArray.size false)[i]? == some true) ((fun _ => (⟨mA, SA.emp, SA.emp, 0⟩ : Cc)) i) else pr i) = (List.range m).map pr := by
    apply List.map_congr_left; intro i _; rw [if_neg (by rw [hfalse]; simp)]
   rw [e]
   exact hi.drew.withHH (hin _ _ _ hi.drew.hp)
  ·exact absurd (by simpa using hL) (hnone j)
theorem F_nil {ops:Array Oper} {l:List Oper} (h:Rg P R cx n ops l k E H):Fin' P R cx n ops l k [] E H:=h
theorem F_val {ops:Array Oper} {l:List Oper} {d:Nat} {T:Ty} {r:List (Nat × Ob)} (h:Fin' P R cx n ops l k r ((d,T) :: E) H):Fin' P R cx n ops l k ((d,.val T) :: r) E H:=h
theorem F_putI {ops:Array Oper} {l:List Oper} {d:Nat} {r:List (Nat × Ob)} (h:Fin' P R cx n ops l k r E H):Fin' P R cx n ops l k ((d,.putI) :: r) E H:=h
theorem F_putN {ops:Array Oper} {l:List Oper} {d j:Nat} {r:List (Nat × Ob)} (h:Fin' P R cx n ops l k r E H):Fin' P R cx n ops l k ((d,.putN j) :: r) E H:=h
theorem F_new {ops:Array Oper} {l:List Oper} {d:Nat} {γ:Type} {T:γ → Ty} {A:γ → SA} {r:List (Nat × Ob)} (h:∀ x:γ,Fin' P R cx n ops l k r ((d,T x) :: E) (H ++ [A x])):Fin' P R cx n ops l k ((d,.new γ T A) :: r) E H:=h
theorem F_app {ops:Array Oper} {l:List Oper} {d:Nat} {γ:Type} {T:γ → Ty} {A:SA} {B:γ → SA} {r:List (Nat × Ob)} (h:∀ x:γ,Fin' P R cx n ops l k r ((d,T x) :: E) (H ++ [B x])):Fin' P R cx n ops l k ((d,.app γ T A B) :: r) E H:=h
theorem F_newp {ops:Array Oper} {l:List Oper} {d:Nat} {γ:Type} {T:γ → Ty} {A B:γ → SA} {p:Nat} {r:List (Nat × Ob)} (h:∀ x:γ,Fin' P R cx n ops l k r ((d,T x) :: E) (H ++ [B x])):Fin' P R cx n ops l k ((d,.newp γ T A B p) :: r) E H:=h
end
end Y
section
variable {P:Program} {n:Nat} {E:cB} {H:Hp} {d:Option Tmp} {t:TypeId} {pos:String} {af:Array Edge} {g:Option (Nat × Bool)}
theorem sE {x y : Operand} {s e : Nat} {v : Value} {Ts Us : List Ty} {inf : TypeInfo} {z : Value} {dd : Nat} (ht : P.underlying t = some (.slice e)) (hi : P.info? e = some inf) (hz : inf.zero = some z) (hsize : inf.size = s) (hzs : z.cells.size = s)
  (hx:aA E x (Is v)) (hy:aA E y (kT s Us)) (hne:Us ≠ []) (hEl:∀ T,T ∈ Us → El s T) (hlen:(Ts.length + Us.length) * inf.bytes ≤ 140737488355328) (h63:Ts.length + Us.length ≤ 9223372036854775807) {t':TypeId} :
  Dq P n E (bN e s v Ts) ⟨some dd,.call ⟨.builtin .append,#[x,y],#[t,t]⟩,t',pos,af,none⟩ Value (fun v'=>Is v') (fun v'=>bN e s v' (Ts ++ Us)):=fun cx X a w V hinv hs=>by
 obtain ⟨v',w',hrun,hi'⟩:=rT (dd:=dd) (pos:=pos) (af:=af) (t':=t') (H:=[bN e s v Ts] ++ X) (i:=0) ht hi hz hsize hzs hx hy rfl hne hEl hlen h63 hinv hs
 exact ⟨v',v',w',hrun,rfl,hi'⟩
theorem nM {x y : Operand} {i B o' s : Nat} {BT : TypeId} {Ts Us Ws : List Ty} (hS : ∀ w, (sizeOf t).run P w = .ok s w) (hx : aA E x (eH B o')) (hy : aA E y (dL Us)) (hl : Us.length = s)
  (hH:H[i]? = some (box B BT Ts)) (hlt:o' + s ≤ Ts.length) (hW:Ts.take o' ++ Us ++ Ts.drop (o' + s) = Ws) {t':TypeId} {H':Hp} (hH':H.set i (box B BT Ws) = H') :
  W.PutTy P n E H H' ⟨none,.store t x y,t',pos,af,none⟩:=fun cx X a w V hi hs=>by
  have ex:a.eval x = .pointer (some ⟨B,o',none⟩):=hx n V a hs
  obtain ⟨us,hve,ey⟩:=hy n V a hs
  obtain ⟨S,_,cs,e2,e3⟩:=hi.hp.get hH
  have e2':w.heap[B]? = some (.cells cs.toArray BT (0,0)):=e2
  have hlen:us.length = s:=ey.length.trans hl
  obtain ⟨w',q1,⟨c',q2,q2'⟩,q3,q4,q5,q6,q7⟩:=lD (P:=P) us o' 0 w cs.toArray e2' (by simp [e3.length,hlen]; omega) ey.pl
  refine ⟨w',lX ex hve ?_,?_⟩
  ·unfold storeVar
   rw [Sem.run_bind,hS]
   simp [Result.andThen,Value.cells,hlen,q1]
  ·subst hH'
   rw [← wO hH]
   refine hi.upd (wB hH) q4 q5 q6 q7 (fun S hS'=>?_)
   obtain ⟨rfl,cs',e4,e5⟩:=hS'
   have hcs : cs' = cs := by
    have h1:w.heap[B]? = some (.cells cs'.toArray BT (0,0)):=e4
    rw [e2'] at h1; simpa using h1.symm
   subst hcs
   refine ⟨fun b hb=>q3 b (by simpa using hb),rfl,c'.toList,by show w'.heap[B]? = _; simpa using q2,?_⟩
   rw [q2',← hW]
   simp only [Nat.add_zero,hlen]
   exact ((e5.take o').append ey).append (e5.drop (o' + s))
end
end
section
open Go Go.RowKit
def IfT (t:TypeId) (T:Ty):Ty:=⟨fun v V=>∃ u,v = .iface t u ∧ T.p u V,fun h k=>let ⟨u,e,h⟩:=h; ⟨u,e,T.mono h k⟩⟩
section
variable {P:Program} {n:Nat} {E:cB} {H:Hp} {d:Option Tmp} {t tx:TypeId} {pos:String} {af:Array Edge} {g:Option (Nat × Bool)}
theorem aN {x : Operand} {T : Ty} (hI : ∀ v w, (Instr.makeInterface tx v).run P w = .ok (.iface tx v) w) (hx : aA E x T) : aM P n E H ⟨d, .makeInterface tx x, t, pos, af, g⟩ (IfT tx T) :=
 dF fun a V w hs=>⟨.iface tx (a.eval x),by simp [execOp,hI,Sem.run_bind,Result.andThen],_,rfl,hx n V a hs⟩
theorem aH {Xn : Operand} {xs : List Operand} {tys : Array TypeId} {name : String} {f : FuncId} {T : Ty} {Ts : List Ty} {U : Ty} (hm : ∀ v w, (method (P.types.size + Made.depth) tx v name).run P w = .ok (f, v) w)
  (hc:∀ args w,(callFunc f args).run P w = .ok (.enter f args) w) (hF:bA P f (T :: Ts) U) (hr:aA E Xn (IfT tx T)) (ha:kU E xs Ts) :
  aM P n E H ⟨d,.call ⟨.invoke Xn name,xs.toArray,tys⟩,t,pos,af,g⟩ U:=fun cx X a w V hi hs K Q hK=>by
 obtain ⟨u,e,hu⟩:=hr n V a hs
 have hrun : (execOp a.eval ⟨d, .call ⟨.invoke Xn name, xs.toArray, tys⟩, t, pos, af, g⟩).run P w = .ok (.enter f (u :: xs.map a.eval).toArray) w := by
  have h1 : ((#[Value.iface tx u] ++ (xs.map a.eval).toArray).extract 1 (xs.length + 1)) = (xs.map a.eval).toArray := by
   apply Array.ext'; simp [List.take_of_length_le]
  have hp:∀ w,(program).run P w = .ok P w:=fun w=>rfl
  simp [execOp,resolve,invoke,callMethod,e,Sem.run_bind,Result.andThen,hp,hm,hc,List.take_of_length_le]
 simp only [Oper.wp,hrun,Oper.upon_enter]
 refine (hF (u :: xs.map a.eval) V w hi.on ⟨hu,kU.all hs ha⟩).mono ?_
 rintro e' w' ⟨v,V',rfl,h1,h2,h3,h4,h5⟩
 exact hK v w' V' (hi.after h1 h2 h3 h4) h1 h5
end
end
section
open Go Go.RowKit
def ExB (q:Bool → Prop):Ty:=⟨fun v _=>∃ b,v = .bool b ∧ q b,fun h _=>h⟩
instance shExB (q:Bool → Prop):dI (ExB q) 1 false:=gB fun v V h=>by obtain ⟨b,rfl,_⟩:=h; trivial
abbrev dD (F:Qi → Ty) (m:List (List Qi)):List (List Ty):=m.map fun r=>r.map F
section
variable {P:Program} {R:eA} {cx:Cx} {n:Nat} {k:List It} {E:cB} {H:Hp} {ops:Array Oper} {o:Oper} {rest:List Oper}
variable {d:Option Tmp} {t tx ty:TypeId} {pos:String} {af:Array Edge} {g:Option (Nat × Bool)}
theorem Tt {c : Operand} {x y : Code} {q : Bool → Prop} (hc : aA E c (ExB q)) (ht : q true → Tr P R cx n (.code x :: k) E H)
  (hf:q false → Tr P R cx n (.code y :: k) E H):Tr P R cx n (.code (.cond c x y) :: k) E H:=fun a w hs=>by
 obtain ⟨V,hi,hl⟩:=hs
 obtain ⟨b,e,hq⟩:=hc n V a hl
 cases b with
 | true=>exact wp_cond_split e (fun _=>ht hq a w ⟨V,hi,hl⟩) (fun h=>by cases h)
 | false=>exact wp_cond_split e (fun h=>by cases h) (fun _=>hf hq a w ⟨V,hi,hl⟩)
theorem Kt {e:TypeId} (a:Option Addr) (l c:Nat) (hU:∀ w,(underlying tx).run P w = .ok (.slice e) w) (w:World):(Op.equal tx (.slice a l c) (.slice none 0 0)).run P w = .ok a.isNone w:=by
 show (Op.equalIn (9999 + 1) tx (.slice a l c) (.slice none 0 0)).run P w = _
 generalize 9999 = dd
 cases a <;> simp [Op.equalIn,Sem.run_bind,hU,Result.andThen]
theorem xR (a:Act) (v:Value):a.eval (.const v) = v:=rfl
theorem Au (tx:TypeId) (x y:Operand) (a b:Option Addr) (l c l' c':Nat):eqGuard .eql tx x y (.slice a l c) (.slice b l' c') = pure ():=rfl
theorem Rl {x : Operand} {s : Nat} {Ts : List Ty} {e : TypeId} (hU : ∀ w, (underlying tx).run P w = .ok (.slice e) w) (hx : aA E x (kT s Ts)) :
  aM P n E H ⟨d,.binOp .eql tx x (.const (.slice none 0 0)) ty,t,pos,af,g⟩ (ExB fun b=>b = true → Ts = []) :=
 dF fun a V w hs => by
  obtain ⟨ad,cap,e1,_,e3⟩:=hx n V a hs
  cases ad with
  | none =>
   have hT : Ts = [] := by
    cases Ts with
    | nil=>rfl
    | cons T Ts=>obtain ⟨b,o,x,h,_⟩:=e3 0 T rfl; cases h
   subst hT
   refine ⟨.bool true,?_,true,rfl,fun _=>rfl⟩
   have h:=Kt (P:=P) (tx:=tx) (e:=e) none 0 cap hU
   simp [execOp,e1,xR,Au,binOp,h,Sem.run_bind,Result.andThen] at h ⊢
  | some ad =>
   refine ⟨.bool false,?_,false,rfl,fun h=>by cases h⟩
   have h:=Kt (P:=P) (tx:=tx) (e:=e) (some ad) Ts.length cap hU
   simp [execOp,e1,xR,Au,binOp,h,Sem.run_bind,Result.andThen] at h ⊢
theorem Ff {e s : Nat} {z : Value} (hU : ∀ w, (underlying t).run P w = .ok (.slice e) w) (hS : ∀ w, (sizeOf e).run P w = .ok s w) (hz : ∀ w, (zeroValue e).run P w = .ok z w) {t' : TypeId} :
  gY P n E H ⟨d,.buildSlice t 0 #[],t',pos,af,g⟩ Value (fun v=>Is v) (fun v=>bN e s v []):=gY.of fun cx X a w V hi hs=>by
 refine ⟨.slice (some ⟨w.heap.size,0,none⟩) 0 0,_,w.alloc (.cells #[] e),?_,rfl,hi.alloc (ob:=.cells #[] e) (fun m hm=>⟨[],uG.nil,.inr ⟨w.heap.size,0,#[],rfl,rfl,hm,by simp,by simp [maxLen],by simp,by simp [cH]⟩⟩)⟩
 have h:=qC (P:=P) (t:=t) (xs:=[]) (w:=w) (len:=0) (parts:=#[]) hU hS hz rfl (by omega) (fun x hx=>by simp at hx) rfl
 simp only [execOp,Array.map_empty,Sem.run_bind,h,Result.andThen]; rfl
theorem Gk {a : Act} {w : World} {V : aO} {x y : Operand} {i s e : Nat} {v : Value} {Ts Us : List Ty} {inf : TypeInfo} {z : Value} {dd : Nat} (ht : P.underlying t = some (.slice e)) (hi : P.info? e = some inf) (hz : inf.zero = some z) (hsize : inf.size = s) (hzs : z.cells.size = s)
  (hx:aA E x (Is v)) (hy:aA E y (kT s Us)) (hH:H[i]? = some (bN e s v Ts)) (hEl:∀ T,T ∈ Us → El s T) (hlen:(Ts.length + Us.length) * inf.bytes ≤ 140737488355328) (h63:Ts.length + Us.length ≤ 9223372036854775807)
  {t':TypeId} (hinv:fN cx V H w) (hs:dA n E V a) :
  ∃ v' w',(execOp a.eval ⟨some dd,.call ⟨.builtin .append,#[x,y],#[t,t]⟩,t',pos,af,none⟩).run P w = .ok (.value v') w' ∧ fN cx V (H.set i (bN e s v' (Ts ++ Us))) w':=by
 by_cases hne:Us = []
 ·subst hne
  have ex:a.eval x = v:=hx n V a hs
  obtain ⟨ad,cap,ey,_,_⟩:=hy n V a hs
  have hset : H.set i (bN e s v (Ts ++ [])) = H := by
   rw [List.append_nil]
   apply List.ext_getElem?
   intro j
   by_cases c:i = j
   ·subst c; rw [List.getElem?_set_self (List.getElem?_eq_some_iff.1 hH).1,hH]
   ·rw [List.getElem?_set_ne c]
  refine ⟨v,w,?_,by rw [hset]; exact hinv⟩
  obtain ⟨S,xs,_,h2⟩:=(show HH cx.w0.heap.size w V (H ++ []) by simpa using hinv.hp).get hH
  have key : ∃ ad2 l2 c2, v = .slice ad2 l2 c2 ∧ l2 ≤ c2 := by
   rcases h2 with ⟨rfl,_,_⟩ | ⟨g,cap2,cur,rfl,_,_,hle,_⟩
   ·exact ⟨none,0,0,rfl,Nat.le_refl _⟩
   ·exact ⟨_,_,_,rfl,hle⟩
  obtain ⟨ad2,l2,c2,rfl,hle2⟩:=key
  have hu:∀ w,(underlying t).run P w = .ok (.slice e) w:=run_underlying ht
  have hsz:∀ w,(sizeOf e).run P w = .ok inf.size w:=fun w=>by simp [sizeOf,typeInfo,Sem.run_bind,show (program).run P w = .ok P w from rfl,hi,Result.andThen]
  have hr : (Builtin.append_ #[t, t] t' #[.slice ad2 l2 c2, .slice ad 0 cap]).run P w = .ok (.slice ad2 l2 c2) w := by
   have h0 : (Builtin.firstCells inf.size 0 (.slice ad 0 cap)).run P w = .ok #[] w := by
    cases ad with
    | none=>rfl
    | some b=>simp [Builtin.firstCells,loadCells,loadCellsFrom]
   cases ad2 <;> simp [Builtin.append_,Sem.run_bind,hu,hsz,Result.andThen,Builtin.lenOf,hle2,h0,storeCells]
  simp [execOp,resolve,invoke,builtin,ex,ey,hr,Sem.run_bind,Result.andThen]
 ·exact rT ht hi hz hsize hzs hx hy hH hne hEl hlen h63 hinv hs
theorem Lj {x y : Operand} {i s e : Nat} {v : Value} {Ts Us : List Ty} {inf : TypeInfo} {z : Value} {dd : Nat} (ht : P.underlying t = some (.slice e)) (hi : P.info? e = some inf) (hz : inf.zero = some z) (hsize : inf.size = s) (hzs : z.cells.size = s)
  (hx:aA E x (Is v)) (hy:aA E y (kT s Us)) (hH:H[i]? = some (bN e s v Ts)) (hEl:∀ T,T ∈ Us → El s T) (hlen:(Ts.length + Us.length) * inf.bytes ≤ 140737488355328) (h63:Ts.length + Us.length ≤ 9223372036854775807)
  (hn:Nat.blt dd n = true) {t':TypeId} (h:∀ v',Rg P R cx n ops rest k ((dd,Is v') :: E) (H.set i (bN e s v' (Ts ++ Us)))) :
  Rg P R cx n ops (⟨some dd,.call ⟨.builtin .append,#[x,y],#[t,t]⟩,t',pos,af,none⟩ :: rest) k E H:=by
 intro a w ⟨V,hinv,hs⟩
 unfold wpList
 rw [if_pos (by simp [Region.wanted])]
 left
 obtain ⟨v',w',hrun,hi'⟩:=Gk (dd:=dd) (pos:=pos) (af:=af) (t':=t') ht hi hz hsize hzs hx hy hH hEl hlen h63 hinv hs
 simp only [Oper.wp,hrun,Oper.upon_value]
 exact h v' _ _ ⟨V,hi',hs.put (Nat.le_of_ble_eq_true hn) rfl⟩
theorem Xa {x : Operand} {i B o : Nat} {BT : TypeId} {Ts : List Ty} {T : Ty} (hA : ∀ w, (isAgg t).run P w = .ok false w) (hS : ∀ w, (sizeOf t).run P w = .ok 1 w)
  (hx:aA E x (eH B o)) (hH:H[i]? = some (box B BT Ts)) (hT:Ts[o]? = some T) {t':TypeId}:aM P n E H ⟨d,.load t x,t',pos,af,g⟩ T :=
 fun cx X a w V hi hs K Q hK => by
  have e1:a.eval x = .pointer (some ⟨B,o,none⟩):=hx n V a hs
  obtain ⟨S,_,cs,e2,e3⟩:=hi.hp.get hH
  obtain ⟨v,e4,e5⟩:=e3.get hT
  have hpl:=e3.pl v (List.mem_of_getElem? e4)
  have := eP (P := P) (w := w) (b := B) (o := o) (x := v) hA hS ⟨by rw [hpl.cells]; rfl, by simp, fun _ => hpl⟩ (fun j u hu => by
   rw [dM e2]
   rw [hpl.cells] at hu
   cases j with
   | zero=>simp at hu; subst hu; simpa using e4
   | succ j=>simp at hu)
  have hrun : (execOp a.eval ⟨d, .load t x, t', pos, af, g⟩).run P w = .ok (.value v) w := by
   simp [execOp,e1,Instr.loadAt,Instr.sureAddr,Sem.run_bind,this,Result.andThen]
  simp only [Oper.wp,hrun,Oper.upon_value]
  exact hK v w V hi (kC.refl V) e5
theorem Ll (i l off : Nat) {B e s : Nat} {BT : TypeId} {Us Ts : List Ty} {v : Value} (hB : H[i]? = some (box B BT Us)) (hU : Us[off]? = some (Is v)) (hL : H[l]? = some (bN e s v Ts)) (hne : i ≠ l)
  (h:Tr P R cx n k E ((H.set l SA.emp).set i (box B BT (Us.set off (kT s Ts))))):Tr P R cx n k E H:=fun a w ⟨V,hi,hs⟩=>by
 obtain ⟨V',S,hle,hi',hA⟩:=hi.freeze hL
 have hT:=kN (e:=e) (s:=s) (v:=v) (Ts:=Ts) v S V' rfl hA
 refine h a w ⟨V',hi'.withHH ?_,hs.mono hle⟩
 obtain ⟨F,h1,h2⟩:=hi'.hp
 have hB':(H.set l SA.emp)[i]? = some (box B BT Us):=by rw [List.getElem?_set_ne (Ne.symm hne)]; exact hB
 have hil:=(List.getElem?_eq_some_iff.1 hB').1
 refine ⟨F,fun q A hq=>?_,fun q r b hq hr=>h2 q r b (by simpa using hq) (by simpa using hr)⟩
 by_cases c:i = q
 ·subst c
  rw [List.getElem?_set_self hil] at hq
  obtain rfl:=Option.some.inj hq
  obtain ⟨⟨k1,cs,k2,k3⟩,k4⟩:=h1 i _ hB'
  obtain ⟨u,u1,u2⟩:=k3.get hU
  obtain rfl:u = v:=u2
  have hset : cs.set off u = cs := by
   apply List.ext_getElem?
   intro j
   by_cases cj:off = j
   ·subst cj; rw [List.getElem?_set_self (List.getElem?_eq_some_iff.1 u1).1,u1]
   ·rw [List.getElem?_set_ne cj]
  refine ⟨⟨k1,cs,k2,?_⟩,k4⟩
  have:=k3.set off (v:=u) hT (k3.pl u (List.mem_of_getElem? u1))
  rwa [hset] at this
 ·rw [List.getElem?_set_ne c] at hq
  exact h1 q A hq
theorem dO {B e s:Nat} {q:Value → Prop} {BT:TypeId} {Rs Rs':List (List Ty)} (h:Rs = Rs'):∀ S m V,(tF q B BT e s Rs).h S m V → (tF q B BT e s Rs').h S m V:=fun _ _ _ k=>h ▸ k
theorem jZ {F:Qi → Ty} {m:List (List Qi)} {i:Nat} (h:i < m.length):(dD F m)[i]? = some ((m.getD i []).map F):=by simp [dD,List.getD,h]
theorem lW (F:Qi → Ty) (m:Nat):List.replicate m ([]:List Ty) = dD F (List.replicate m []):=by simp
theorem jJ (F:Qi → Ty) (m:List (List Qi)) (i:Nat) (r:List Qi):(dD F m).set i (r.map F) = dD F (m.set i r):=by simp [dD,List.map_set]
end
end
section
open Go Go.RowKit
abbrev gv (l:List Qi) (i:Nat):Qi:=l.getD i Qi.zero
abbrev gm (m:List (List Qi)) (i j:Nat):Qi:=(m.getD i []).getD j Qi.zero
def cD (l:List Qi) (L:Nat):Prop:=∀ x,x ∈ l → aI x L
def aS (m:List (List Qi)) (L:Nat):Prop:=∀ r,r ∈ m → cD r L
theorem aI.zero {L:Nat} (h:1 ≤ L):aI Qi.zero L:=⟨Qi.Fit.zero h⟩
theorem cD.get {l:List Qi} {L:Nat} (h:cD l L) (hL:1 ≤ L) (i:Nat):aI (gv l i) L:=by
 by_cases hi:i < l.length
 ·have e : gv l i = l[i] := by simp [gv, List.getD, hi]
  rw [e]; exact h _ (List.getElem_mem hi)
 ·have e : gv l i = Qi.zero := by simp [gv, List.getD, List.getElem?_eq_none (Nat.le_of_not_lt hi)]
  rw [e]; exact aI.zero hL
theorem aS.row {m:List (List Qi)} {L:Nat} (h:aS m L) (i:Nat):cD (m.getD i []) L:=by
 by_cases hi:i < m.length
 ·have e : m.getD i [] = m[i] := by simp [List.getD, hi]
  rw [e]; exact h _ (List.getElem_mem hi)
 ·have e : m.getD i [] = [] := by simp [List.getD, List.getElem?_eq_none (Nat.le_of_not_lt hi)]
  rw [e]; intro x hx; cases hx
theorem aS.get {m:List (List Qi)} {L:Nat} (h:aS m L) (hL:1 ≤ L) (i j:Nat):aI (gm m i j) L:=(h.row i).get hL j
theorem cD.tab {n L : Nat} {f : Nat → Qi} (h : ∀ i, i < n → aI (f i) L) : cD (tab n f) L := fun x hx => by
 obtain ⟨i,hi,rfl⟩:=iL.1 hx; exact h i hi
theorem aS.tab {n m L : Nat} {f : Nat → Nat → Qi} (h : ∀ i j, i < n → j < m → aI (f i j) L) : aS (tab n fun i => tab m (f i)) L := fun r hr => by
 obtain ⟨i,hi,rfl⟩:=iL.1 hr; exact cD.tab fun j hj=>h i j hi hj
theorem cD.nil {L:Nat}:cD [] L:=fun x hx=>by cases hx
theorem aS.nil {L:Nat}:aS [] L:=fun x hx=>by cases hx
theorem cD.le {l:List Qi} {L M:Nat} (h:cD l L) (k:L ≤ M):cD l M:=fun x hx=>(h x hx).le k
theorem aS.le {m:List (List Qi)} {L M:Nat} (h:aS m L) (k:L ≤ M):aS m M:=fun x hx=>(h x hx).le k
theorem oQ {n i:Nat} {f:Nat → Qi} (h:i < n):gv (tab n f) i = f i:=by simp [gv,List.getD,dC h]
theorem nC {n m i j:Nat} {f:Nat → Nat → Qi} (h:i < n) (k:j < m):gm (tab n fun i=>tab m (f i)) i j = f i j:=by
 have:(tab n fun i=>tab m (f i)).getD i [] = tab m (f i):=by simp [List.getD,dC (f:=fun i=>tab m (f i)) h]
 rw [gm,this]; exact oQ k
theorem Ey {l:List Qi} {n:Nat} (h:l.length = n):l = tab n (gv l):=Il (h:=h)
def cI (s:List (List Qi)) (n m:Nat):Prop:=s.length = n ∧ ∀ r,r ∈ s → r.length = m
theorem cI.row {s:List (List Qi)} {n m:Nat} (h:cI s n m) {i:Nat} (hi:i < n):(s.getD i []).length = m:=by
 have hl:i < s.length:=by rw [h.1]; exact hi
 have e:s.getD i [] = s[i]:=by simp [List.getD,hl]
 rw [e]; exact h.2 _ (List.getElem_mem hl)
theorem cI.tab {n m:Nat} {f:Nat → Nat → Qi}:cI (tab n fun i=>tab m (f i)) n m:=⟨bC _ _,fun r hr=>by obtain ⟨i,_,rfl⟩:=iL.1 hr; exact bC _ _⟩
theorem tG {s:List (List Qi)} {n m:Nat} (h:cI s n m):s = tab n fun i=>tab m (gm s i):=by
 apply List.ext_getElem?
 intro i
 by_cases hi:i < n
 ·rw [dC hi]
  have hl:i < s.length:=by rw [h.1]; exact hi
  have e:s.getD i [] = s[i]:=by simp [List.getD,hl]
  rw [List.getElem?_eq_getElem hl,← e]
  congr 1
  exact Ey (h.row hi)
 ·rw [List.getElem?_eq_none (by rw [h.1]; omega),List.getElem?_eq_none (by rw [bC]; omega)]
def zT {α:Type} (p:α → Bool) (l:List α):Int:=match l.findIdx? p with
 | some i=>(i:Int)
 | none=>-1
theorem Cm {α:Type} {p:α → Bool} {l:List α} {k:Nat} {x:α} (h:l[k]? = some x) (hp:p x = true) (hn:∀ (i:Nat) (y:α),i < k → l[i]? = some y → p y = false):zT p l = (k:Int):=by
 have : l.findIdx? p = some k := by
  rw [List.findIdx?_eq_some_iff_getElem]
  obtain ⟨hl,e⟩:=List.getElem?_eq_some_iff.1 h
  refine ⟨hl,by rw [e]; exact hp,fun j hj=>?_⟩
  have:=hn j l[j] hj (List.getElem?_eq_getElem (by omega))
  simp [this]
 rw [zT,this]
theorem uP {α:Type} {p:α → Bool} {l:List α} (hn:∀ (i:Nat) (y:α),l[i]? = some y → p y = false):zT p l = -1:=by
 have : l.findIdx? p = none := by
  rw [List.findIdx?_eq_none_iff]
  intro x hx
  obtain ⟨i,hi,e⟩:=List.getElem_of_mem hx
  exact hn i x (by rw [List.getElem?_eq_getElem hi,e])
 rw [zT,this]
theorem xZ {α:Type} (p:α → Bool) (l:List α):decide (0 ≤ zT p l) = l.any p:=by
 unfold zT
 cases h:l.findIdx? p with
 | some i =>
  obtain ⟨hl,e,_⟩:=List.findIdx?_eq_some_iff_getElem.1 h
  have:l.any p = true:=List.any_eq_true.2 ⟨l[i],List.getElem_mem hl,e⟩
  rw [this]; simp
 | none =>
  have : l.any p = false := by
   rw [List.findIdx?_eq_none_iff] at h
   simpa using h
  rw [this]; rfl
def nG (x:Qi):Bool:=decide (x.b = 0 ∧ 0 < x.a)
theorem Ir:Qi.zero.a = 0 ∧ Qi.zero.b = 0 ∧ Qi.zero.den = 1:=Qi.int_a 0
theorem Pm {x y:Int}:0 < rE x y ↔ y < x:=by
 unfold rE; split
 ·omega
 ·split <;> omega
theorem Lx (x:Qi) (h:x.b = 0):Hc x Qi.zero = rE x.a 0:=by
 obtain ⟨e1,e2,e3⟩:=Ir
 unfold Hc
 rw [e1,e2,e3,h]
 simp
 intro h0
 have:x.a = 0:=by have:=Aj.1 h0; omega
 rw [this]
theorem a0R (x:Qi):(decide (x.b = 0) && decide (0 < Hc x Qi.zero)) = nG x:=by
 by_cases h:x.b = 0
 ·rw [Lx x h,nG,Bool.eq_iff_iff]; simp [h,Pm]
 ·simp [nG,h]
def iU (z : List Qi) (s : List (List Qi)) : Int :=
 if z.length < 1 ∨ 8 < z.length ∨ s.length ≠ z.length ∨ (s.any fun r=>!decide (r.length = z.length)) = true then 4 else if z.all nG then 0 else 1
theorem Mn {z:List Qi} {s:List (List Qi)} (h:iU z s = 0):1 ≤ z.length ∧ z.length ≤ 8 ∧ cI s z.length z.length ∧ z.all nG = true:=by
 unfold iU at h
 split at h
 ·simp at h
 ·rename_i c
  split at h
  ·rename_i p
   refine ⟨by omega,by omega,⟨by omega,fun r hr=>?_⟩,p⟩
   have:¬ (s.any fun r=>!decide (r.length = z.length)) = true:=fun e=>c (.inr (.inr (.inr e)))
   simp at this
   exact this r hr
  ·simp at h
abbrev fA (z:List Qi) (s:List (List Qi)):Ty:=dL [bP z,bF s]
theorem lK:∀ v V,(dL [Is (.slice none 0 0),Is (.slice none 0 0)]).p v V → (fA [] []).p v V:=Jb ⟨lL,lL,trivial⟩
theorem Fe {z:List Qi} {s:List (List Qi)} (h:(decide (z.length < 1) || decide (8 < z.length) || !decide (s.length = z.length)) = true):iU z s = 4:=by
 rw [iU,if_pos]
 simp only [Bool.or_eq_true,decide_eq_true_eq,Bool.not_eq_true',decide_eq_false_iff_not] at h
 rcases h with (h | h) | h
 ·exact .inl h
 ·exact .inr (.inl h)
 ·exact .inr (.inr (.inl h))
theorem Hq {z r:List Qi} {s:List (List Qi)} {k:Nat} (h:s[k]? = some r) (hr:r.length ≠ z.length):iU z s = 4:=by
 rw [iU,if_pos]
 refine .inr (.inr (.inr (List.any_eq_true.2 ⟨r,List.mem_of_getElem? h,by simp [hr]⟩)))
theorem Hn {z:List Qi} {s:List (List Qi)} (h:(decide (z.length < 1) || decide (8 < z.length) || !decide (s.length = z.length)) = false) (hr:∀ (i:Nat) (r:List Qi),s[i]? = some r → r.length = z.length):iU z s = if z.all nG then 0 else 1:=by
 rw [iU,if_neg]
 simp only [Bool.or_eq_false_iff,decide_eq_false_iff_not,Bool.not_eq_false',decide_eq_true_eq] at h
 rintro (c | c | c | c)
 ·exact h.1.1 c
 ·exact h.1.2 c
 ·exact c h.2
 ·obtain ⟨r, hm, e⟩ := List.any_eq_true.1 c
  obtain ⟨i,hi,e2⟩:=List.getElem_of_mem hm
  have:=hr i r (by rw [List.getElem?_eq_getElem hi,e2])
  simp [this] at e
abbrev oG {α:Type} (e:Int) (l:List α):List α:=if e = 0 then l else []
theorem Cu {z:List Qi} {s:List (List Qi)} {e:Int} (he:iU z s = e) (h0:e ≠ 0):∀ v V,(fA [] []).p v V → (fA (oG (iU z s) z) (oG (iU z s) s)).p v V:=by
 rw [he,oG,oG,if_neg h0,if_neg h0]; exact fun _ _ h=>h
theorem Rc {z:List Qi} {s:List (List Qi)} (he:iU z s = 0):∀ v V,(fA z s).p v V → (fA (oG (iU z s) z) (oG (iU z s) s)).p v V:=by
 rw [he,oG,oG,if_pos rfl,if_pos rfl]; exact fun _ _ h=>h
def pkm (n:Nat) (m:List (List Qi)) (i j:Int):Qi:=if (1 ≤ i ∧ i ≤ n) ∧ 1 ≤ j ∧ j ≤ n then gm m (i - 1).toNat (j - 1).toNat else Qi.zero
theorem a0P {n:Nat} {m:List (List Qi)} {i j:Nat} (h:i < n) (k:j < n):pkm n m ((i:Int) + 1) ((j:Int) + 1) = gm m i j:=by
 rw [pkm,if_pos (by omega)]
 have e1:((i:Int) + 1 - 1).toNat = i:=by omega
 have e2:((j:Int) + 1 - 1).toNat = j:=by omega
 rw [e1,e2]
section
variable (z:List Rt) (s c:List (List Rt))
variable {z s c}
end
end
section
open Go Go.RowKit
def a1f (o:Obj):Prop:=∀ (c:Array Value) (e:TypeId) l,o = .cells c e l → ∀ (i:Nat) (k:IntKind) (m:Int),c[i]? ≠ some (.int k m)
def Ym (V V':aO):Prop:=∀ b o,V b = some o → V' b = some o ∨ a1f o
class Yl (T:Ty):Prop where
 ins:∀ {v V V'},T.p v V → Ym V V' → T.p v V'
instance insIs (v:Value):Yl (Is v):=⟨fun h _=>h⟩
instance insDs (ds : List Nat) : Yl (kT 1 (ds.map cP)) := ⟨fun {v V V'} h k => by
 obtain ⟨a,cap,h1,h2,h3⟩:=h
 refine ⟨a,cap,h1,h2,fun i T hT=>?_⟩
 obtain ⟨b,o,x,e1,⟨c,TT,fr,e2,e2'⟩,e3,e4⟩:=h3 i T hT
 refine ⟨b,o,x,e1,⟨c,TT,fr,?_,e2'⟩,e3,?_⟩
 ·rcases k b _ e2 with k | k
  ·exact k
  ·rw [List.getElem?_map] at hT
   obtain ⟨d,_,rfl⟩:=Option.map_eq_some_iff.1 hT
   have e5:x = .int .u32 (d:Int):=e4
   subst e5
   exact absurd (e2' 0 (.int .u32 (d:Int)) rfl) (k c TT fr rfl _ _ _)
 ·rw [List.getElem?_map] at hT
  obtain ⟨d,_,rfl⟩:=Option.map_eq_some_iff.1 hT
  exact e4⟩
inductive oK : List Ty → Prop
 | nil:oK []
 | cons {T Ts}:Yl T → oK Ts → oK (T :: Ts)
theorem fD.ins {V V' : aO} (k : Ym V V') : ∀ {Ts : List Ty} {vs : List Value}, oK Ts → fD Ts vs V → fD Ts vs V'
 | [],[],_,_=>trivial
 | _ :: _,_ :: _,.cons i is,h=>⟨i.ins h.1 k,fD.ins k is h.2⟩
 | [],_ :: _,_,h=>h.elim
 | _ :: _,[],_,h=>h.elim
theorem a0r {Ts:List Ty} (i:oK Ts):Yl (dL Ts):=⟨fun h k=>by obtain ⟨vs,h1,h2⟩:=h; exact ⟨vs,h1,h2.all.ins k i,h2.pl⟩⟩
theorem a0s {Ts:List Ty} (i:oK Ts):Yl (fB Ts):=⟨fun h k=>by obtain ⟨vs,h1,h2⟩:=h; exact ⟨vs,h1,h2.ins k i⟩⟩
instance insNum (x:Qi):Yl (aE x):=a0r (.cons inferInstance (.cons inferInstance (.cons inferInstance (.cons inferInstance (.cons inferInstance .nil)))))
theorem oK.map {α : Type} (F : α → Ty) [h : ∀ x, Yl (F x)] : ∀ l : List α, oK (l.map F)
 | []=>.nil
 | x :: l=>.cons (h x) (oK.map F l)
def uO (v:Value):Prop:=∃ a l,v = .slice a l l
section
variable {P:Program} {R:eA} {cx:Cx} {n:Nat} {k:List It} {E:cB} {H:Hp} {ops:Array Oper} {o:Oper} {rest:List Oper}
variable {d:Option Tmp} {t:TypeId} {pos:String} {af:Array Edge} {g:Option (Nat × Bool)}
theorem Mp {x : Operand} {m e s : Nat} {i : TypeInfo} {z : Value} {kd : IntKind} {j : Int} {T : Ty} (ht : P.underlying t = some (.slice e)) (hi : P.info? e = some i) (hz : i.zero = some z) (hs : i.size = s)
  (hx:aA E x (aF kd j)) (hj:j = (m:Int)) (hT:∀ V,T.p z V) (hEl:El s T) (hb:i.bytes * m ≤ 281474976710656) (hm:m ≤ 9223372036854775807) {t':TypeId} :
  gY P n E H ⟨d,.makeSlice t x x,t',pos,af,g⟩ {v:Value // uO v} (fun v=>Is v.1) (fun v=>bN e s v.1 (List.replicate m T)):=gY.of fun cx X a w V hi' hsl=>by
 obtain ⟨v,u,w',h1,h2,h3⟩:=yF (P:=P) (n:=n) (E:=E) (H:=H) (d:=d) (t:=t) (pos:=pos) (af:=af) (g:=g) (x:=x) (m:=m) (kd:=kd) (j:=j) (T:=T) ht hi hz hs hx hj hT hEl hb hm (t':=t') cx X a w V hi' hsl
 have ex:a.eval x = .int kd j:=hx n V a hsl
 refine ⟨⟨v,?_⟩,u,w',h1,h2,h3⟩
 have hv:u = v:=h2
 subst hv hj hs
 have hb' : (i.bytes : Int) * (m : Int) ≤ 281474976710656 := by
  have h:((i.bytes * m:Nat):Int) ≤ 281474976710656:=by omega
  rwa [Int.natCast_mul] at h
 have hr:=run_make (P:=P) w t e i z ht hi hz kd kd m m (by omega) (Int.le_refl _) hb' (by omega)
 simp only [Int.toNat_natCast] at hr
 simp only [execOp,ex,Sem.run_bind,hr,Result.andThen] at h1
 simp at h1
 exact ⟨_,_,h1.1.symm⟩
theorem Tm {x : Operand} {m e s : Nat} {i : TypeInfo} {z : Value} {kd : IntKind} {j : Int} {T : Ty} {dd : Nat} (ht : P.underlying t = some (.slice e)) (hi : P.info? e = some i) (hz : i.zero = some z) (hs : i.size = s)
  (hx:aA E x (aF kd j)) (hj:j = (m:Int)) (hT:∀ V,T.p z V) (hEl:El s T) (hb:i.bytes * m ≤ 281474976710656) (hm:m ≤ 9223372036854775807) {t':TypeId} (hn:Nat.blt dd n = true)
  (h:∀ v,uO v → Rg P R cx n ops rest k ((dd,Is v) :: E) (H ++ [bN e s v (List.replicate m T)])):Rg P R cx n ops (⟨some dd,.makeSlice t x x,t',pos,af,none⟩ :: rest) k E H :=
 dH rfl rfl hn (Mp ht hi hz hs hx hj hT hEl hb hm) fun x=>h x.1 x.2
end
end
section
open Go Go.RowKit
theorem a1V {s:Nat} {Ts Us:List Ty} (h:Ts = Us):∀ v V,(kT s Ts).p v V → (kT s Us).p v V:=fun _ _ k=>h ▸ k
theorem Xp {α:Type} (n:Nat) (x:α):List.replicate n x = tab n fun _=>x:=by
 apply List.ext_getElem?
 intro i
 by_cases h:i < n
 ·rw [dC h]; simp [h]
 ·rw [List.getElem?_eq_none (by simp; omega),List.getElem?_eq_none (by rw [bC]; omega)]
namespace Qi
theorem add_assoc' (x y z:Qi):x + y + z = x + (y + z):=ext' (by show x.re + y.re + z.re = x.re + (y.re + z.re); grind) (by show x.im + y.im + z.im = x.im + (y.im + z.im); grind)
theorem add_comm' (x y:Qi):x + y = y + x:=ext' (by show x.re + y.re = y.re + x.re; grind) (by show x.im + y.im = y.im + x.im; grind)
theorem mul_comm' (x y:Qi):x * y = y * x:=ext' (by show x.re * y.re - x.im * y.im = y.re * x.re - y.im * x.im; grind) (by show x.re * y.im + x.im * y.re = y.re * x.im + y.im * x.re; grind)
theorem mul_assoc' (x y z : Qi) : x * y * z = x * (y * z) := ext'
 (by show (x.re * y.re - x.im * y.im) * z.re - (x.re * y.im + x.im * y.re) * z.im = x.re * (y.re * z.re - y.im * z.im) - x.im * (y.re * z.im + y.im * z.re); grind)
 (by show (x.re * y.re - x.im * y.im) * z.im + (x.re * y.im + x.im * y.re) * z.re = x.re * (y.re * z.im + y.im * z.re) + x.im * (y.re * z.re - y.im * z.im); grind)
theorem mul_add' (x y z : Qi) : x * (y + z) = x * y + x * z := ext'
 (by show x.re * (y.re + z.re) - x.im * (y.im + z.im) = (x.re * y.re - x.im * y.im) + (x.re * z.re - x.im * z.im); grind)
 (by show x.re * (y.im + z.im) + x.im * (y.re + z.re) = (x.re * y.im + x.im * y.re) + (x.re * z.im + x.im * z.re); grind)
theorem add_mul' (x y z:Qi):(x + y) * z = x * z + y * z:=by rw [mul_comm',mul_add',mul_comm' z x,mul_comm' z y]
theorem rC:Qi.zero.re = 0 ∧ Qi.zero.im = 0:=⟨rfl,rfl⟩
theorem zero_add' (x:Qi):Qi.zero + x = x:=ext' (by show Qi.zero.re + x.re = x.re; rw [rC.1]; grind) (by show Qi.zero.im + x.im = x.im; rw [rC.2]; grind)
theorem add_zero' (x:Qi):x + Qi.zero = x:=by rw [add_comm',zero_add']
theorem zero_mul' (x : Qi) : Qi.zero * x = Qi.zero := ext'
 (by show Qi.zero.re * x.re - Qi.zero.im * x.im = Qi.zero.re; rw [rC.1,rC.2]; grind)
 (by show Qi.zero.re * x.im + Qi.zero.im * x.re = Qi.zero.im; rw [rC.1,rC.2]; grind)
theorem mul_zero' (x:Qi):x * Qi.zero = Qi.zero:=by rw [mul_comm',zero_mul']
end Qi
def bB : Nat → (Nat → Qi) → Qi
 | 0,_=>Qi.zero
 | n + 1,f=>bB n f + f n
theorem cE {n:Nat} {f g:Nat → Qi} (h:∀ i,i < n → f i = g i):bB n f = bB n g:=by
 induction n with
 | zero=>rfl
 | succ n ih=>rw [bB,bB,ih (fun i hi=>h i (by omega)),h n (by omega)]
theorem Sq (n:Nat) (f g:Nat → Qi):bB n (fun i=>f i + g i) = bB n f + bB n g:=by
 induction n with
 | zero=>exact (Qi.zero_add' _).symm
 | succ n ih =>
  simp only [bB,ih]
  rw [Qi.add_assoc',Qi.add_assoc',← Qi.add_assoc' (bB n g),Qi.add_comm' (bB n g) (f n),Qi.add_assoc']
theorem qJ (n:Nat) (f:Nat → Qi) (x:Qi):bB n (fun i=>f i * x) = bB n f * x:=by
 induction n with
 | zero=>exact (Qi.zero_mul' _).symm
 | succ n ih=>simp only [bB,ih,Qi.add_mul']
theorem uW (n:Nat):bB n (fun _=>Qi.zero) = Qi.zero:=by
 induction n with
 | zero=>rfl
 | succ n ih=>simp only [bB,ih,Qi.zero_add']
theorem Be (n m:Nat) (f:Nat → Nat → Qi):bB n (fun i=>bB m (f i)) = bB m (fun j=>bB n fun i=>f i j):=by
 induction n with
 | zero=>exact (uW m).symm
 | succ n ih=>simp only [bB,ih,← Sq]
theorem yM (f:Nat → Qi):bB 1 f = f 0:=Qi.zero_add' _
theorem aI.sum {n L:Nat} {f:Nat → Qi} (h:∀ i,i < n → aI (f i) L):aI (bB n f) (1 + n * (L + 1)):=by
 induction n with
 | zero=>exact aI.zero (by omega)
 | succ n ih =>
  have h1:=ih fun i hi=>h i (by omega)
  have h2:=h n (by omega)
  have h3:aI (bB n f + f n) (1 + n * (L + 1) + L + 1):=@fitAdd _ _ _ _ h1 h2
  exact h3.le (by rw [Nat.add_mul]; omega)
def lR {α:Type} (f:Nat → α) (z:α) (n k:Nat):List α:=tab n fun i=>if i < k then f i else z
theorem gL {α:Type} (f:Nat → α) (z:α) (n k:Nat):(lR f z n k).length = n:=bC _ _
theorem lS {α:Type} (f:Nat → α) (z:α) (n:Nat):(tab n fun _=>z) = lR f z n 0:=gC fun i _=>by rw [if_neg (by omega)]
theorem nR {α:Type} (f:Nat → α) (z:α) (n:Nat):lR f z n n = tab n f:=gC fun i hi=>by rw [if_pos hi]
theorem nS {α:Type} {f:Nat → α} {z:α} {n k:Nat}:(lR f z n k).set k (f k) = lR f z n (k + 1):=by
 apply List.ext_getElem?
 intro i
 by_cases hi:i < n
 ·by_cases e : k = i
  ·subst e
   rw [List.getElem?_set_self (by rw [gL]; exact hi),lR,dC hi,if_pos (by omega)]
  ·rw [List.getElem?_set_ne e, lR, lR, dC hi, dC hi]
   by_cases c:i < k
   ·rw [if_pos c,if_pos (by omega)]
   ·rw [if_neg c,if_neg (by omega)]
 ·rw [List.getElem?_eq_none (by rw [List.length_set,gL]; omega),List.getElem?_eq_none (by rw [gL]; omega)]
theorem We {α:Type} {f:Nat → α} {z:α} {n k:Nat} (h:k < n):(lR f z n k)[k]? = some z:=by rw [lR,dC h,if_neg (by omega)]
theorem pQ {F:Qi → Ty} {f:Nat → List Qi} {z:List Qi} {n k:Nat} (h:k < n):(dD F (lR f z n k))[k]? = some (z.map F):=by rw [dD,List.getElem?_map,We h]; rfl
theorem pS {F : Qi → Ty} {M : List (List Qi)} {q : Value → Prop} {B e s l : Nat} {BT : TypeId} (hl : l = M.length) : ∀ u S V, (Is (.slice (some ⟨B, 0, none⟩) l l)).p u V → (tF q B BT e s (dD F M)).h S V V → (kT 1 (M.map fun r => kT s (r.map F))).p u V := fun u S V h1 h2 =>
 a1V (by simp [dD,List.map_map,Function.comp_def]) u V (Ck (l:=l) (cap:=l) (by simp [dD,hl]) (Nat.le_refl _) u S V h1 h2)
def Zo (x:Qi):Bool:=decide (x.b = 0 ∧ 0 ≤ x.a)
def zR (a b:List (List Qi)) (k i c:Nat):Qi:=bB k fun j=>gm a i j * gm b j c
def kV (a b:List (List Qi)) (n k m:Nat):List (List Qi):=tab n fun i=>tab m fun c=>zR a b k i c
theorem lT {a b:List (List Qi)} {n k m:Nat}:cI (kV a b n k m) n m:=cI.tab
theorem Jx {a b : List (List Qi)} {L M k : Nat} (ha : aS a L) (hb : aS b M) (h1 : 1 ≤ L) (h2 : 1 ≤ M) (hk : k ≤ 8) (i c : Nat) : aI (zR a b k i c) (8 * (L + M) + 17) :=
 (aI.sum (L := L + M + 1) fun j _ => by haveI := ha.get h1 i j; haveI := hb.get h2 j c; exact fitMul).le (by
  have:k * (L + M + 1 + 1) ≤ 8 * (L + M + 2):=Nat.mul_le_mul hk (Nat.le_refl _)
  omega)
theorem Qw {a b:List (List Qi)} {L M n k m:Nat} (ha:aS a L) (hb:aS b M) (h1:1 ≤ L) (h2:1 ≤ M) (hk:k ≤ 8):aS (kV a b n k m) (8 * (L + M) + 17):=aS.tab fun i c _ _=>Jx ha hb h1 h2 hk i c
theorem Ve {a:List (List Qi)} {n k:Nat} (h:cI a n k):(a.any fun r=>!decide (r.length = k)) = false:=by
 rw [List.any_eq_false]; intro r hr; simp [h.2 r hr]
theorem a2j {T0 T1 U:Ty} {v:Value} {V:aO} (h:(fB [T0,U]).p v V) (f:∀ u,T0.p u V → T1.p u V):(fB [T1,U]).p v V:=by
 obtain ⟨vs,e,h2⟩:=h
 match vs,h2 with
 | [a,b],⟨x,y,z⟩=>exact ⟨[a,b],e,f a x,y,z⟩
instance insTup2 (u:Value) (k:IntKind) (n:Int):Yl (fB [Is u,aF k n]):=a0s (.cons inferInstance (.cons inferInstance .nil))
end
section
open Go Go.RowKit
def Xl:Rt:=⟨0,0,0,by decide,by decide,by decide,by decide,by decide,by decide⟩
end
section
open Go Go.RowKit Go.ChangeShapes Go.WideShapes Go.Deep
section
variable {H:Type} {enc:TypeId × Value → H} {W:World} {base:Nat} {sp:Nat → Bool} {held:Bool}
theorem Nk {n:Int} (h:(Lit.int .i64 n).wf = true):-9223372036854775808 ≤ n ∧ n ≤ 9223372036854775807:=by
 simp [Lit.wf,IntKind.min,IntKind.max,IntKind.signed,IntKind.bits] at h
 omega
theorem a1Y {α:Type} {cs:List α} (h:cs.length = 3):∃ a b c,cs = [a,b,c]:=by
 match cs,h with
 | [a,b,c],_=>exact ⟨a,b,c,rfl⟩
variable {P:Program}
structure S3 (P:Program) (t t0 t1 t2:TypeId):Prop where
 st:∃ f0 f1 f2:Field,P.underlying t = some (.struct #[f0,f1,f2]) ∧ f0.type = t0 ∧ f1.type = t1 ∧ f2.type = t2 ∧ f0.offset = 0 ∧ f1.offset = 1 ∧ f2.offset = 2
 c:P.cellsOf t = 3
 c0:P.cellsOf t0 = 1
 c1:P.cellsOf t1 = 1
 c2:P.cellsOf t2 = 1
theorem S3.open {t t0 t1 t2 : TypeId} (hS : S3 P t t0 t1 t2) {fuel : Nat} {cs : List Value} {x : DataW H × List MemPlace} (h : DataW.trod enc P W base sp held fuel t cs = some x) :
  ∃ a b c n y0 y1 y2,cs = [a,b,c] ∧ DataW.trod enc P W base sp held n t0 [a] = some y0 ∧ DataW.trod enc P W base sp held n t1 [b] = some y1 ∧ DataW.trod enc P W base sp held n t2 [c] = some y2:=by
 obtain ⟨⟨f0,f1,f2,hu,rfl,rfl,rfl,o0,o1,o2⟩,hc,c0,c1,c2⟩:=hS
 obtain ⟨y0,y1,y2,n,_,hl,h0,h1,h2⟩:=trod_struct3 hu h
 rw [hc] at hl
 obtain ⟨a,b,c,rfl⟩:=a1Y hl
 rw [o0,c0] at h0; rw [o1,c1] at h1; rw [o2,c2] at h2
 exact ⟨a,b,c,n,y0,y1,y2,rfl,by simpa using h0,by simpa using h1,by simpa using h2⟩
theorem wL {t ti : TypeId} (hS : S3 P t ti ti ti) (hi : P.underlying ti = some (.int .i64)) {fuel : Nat} {cs : List Value} {x : DataW H × List MemPlace} (h : DataW.trod enc P W base sp held fuel t cs = some x) :
  ∃ r:Rt,cs = [.int .i64 r.re,.int .i64 r.im,.int .i64 r.den]:=by
 obtain ⟨a,b,c,n,y0,y1,y2,rfl,h0,h1,h2⟩:=hS.open h
 obtain ⟨i0,e0,_,w0⟩:=DataW.trod_int hi h0
 obtain ⟨i1,e1,_,w1⟩:=DataW.trod_int hi h1
 obtain ⟨i2,e2,_,w2⟩:=DataW.trod_int hi h2
 simp only [List.cons.injEq,and_true] at e0 e1 e2
 subst e0 e1 e2
 exact ⟨⟨i0,i1,i2,(Nk w0).1,(Nk w0).2,(Nk w1).1,(Nk w1).2,(Nk w2).1,(Nk w2).2⟩,rfl⟩
end
end
section
open Go Go.ChangeShapes Go.WideShapes Go.ChangeAt Go.RowKit
theorem own:ownKnob Tryz.prog.godebug = none:=by kernel_rfl
theorem Cn:laidOutB Tryz.prog = true:=by kernel_rfl
theorem s27:S3 Tryz.prog 23 2 2 2:=⟨⟨_,_,_,Tryz.underlying23,rfl,rfl,rfl,rfl,rfl,rfl⟩,by kernel_rfl,by kernel_rfl,by kernel_rfl,by kernel_rfl⟩
section
variable {H:Type} {enc:TypeId × Value → H} {W:World} {base:Nat} {sp:Nat → Bool} {held:Bool}
end
theorem Lo {e:Ending} {v:Value} {V:aO} (h:(aD true).p v V) (he:e = .returned v):e = .returned (.bool true):=by rw [he]; exact congrArg _ h
end
section
open Go Go.RowKit
theorem aT:Tryz.prog.follows .mixedOrders = true:=by kernel_rfl
end
section
open Go Go.RowKit
theorem tB (a b:List Value):cH (a ++ b) = cH a ++ cH b:=by simp [cH]
theorem Cj {s:Nat} {xs:List Value} (h:∀ x,x ∈ xs → x.cells.size = s) (k:Nat) (hk:k ≤ xs.length):cH (xs.take k) = (cH xs).take (k * s):=by
 have h1:(cH (xs.take k)).length = k * s:=by rw [iC _ (fun x hx=>h x (List.mem_of_mem_take hx))]; simp [Nat.min_eq_left hk]
 have h2:cH xs = cH (xs.take k) ++ cH (xs.drop k):=by rw [← tB,List.take_append_drop]
 rw [h2,List.take_left' h1]
theorem Vr {s:Nat} {xs:List Value} (h:∀ x,x ∈ xs → x.cells.size = s) (k:Nat) (hk:k ≤ xs.length):cH (xs.drop k) = (cH xs).drop (k * s):=by
 have h1:(cH (xs.take k)).length = k * s:=by rw [iC _ (fun x hx=>h x (List.mem_of_mem_take hx))]; simp [Nat.min_eq_left hk]
 have h2:cH xs = cH (xs.take k) ++ cH (xs.drop k):=by rw [← tB,List.take_append_drop]
 rw [h2,List.drop_left' h1]
theorem Bt {T : Ty} {V : aO} : ∀ {xs : List Value} {m : Nat}, (∀ x, x ∈ xs → T.p x V) → xs.length = m → fD (List.replicate m T) xs V
 | [],0,_,_=>trivial
 | x :: xs,m + 1,h,hl=>⟨h x (by simp),Bt (fun y hy=>h y (by simp [hy])) (by simpa using hl)⟩
theorem wN {T : Ty} {V : aO} {xs : List Value} {m : Nat} (h : fD (List.replicate m T) xs V) : ∀ x, x ∈ xs → T.p x V := fun x hx => by
 obtain ⟨U,h1,h2⟩:=h.mem x hx
 rw [(List.mem_replicate.1 h1).2] at h2; exact h2
def Gh (s:Nat) (v:Value) (lo len:Nat):Ty:=⟨fun u _=>∃ g l0 cap,v = .slice (some ⟨g,0,none⟩) l0 cap ∧ lo + len ≤ l0 ∧ l0 ≤ cap ∧ u = .slice (some ⟨g,lo * s,none⟩) len (cap - lo),fun h _=>h⟩
instance shSec (s:Nat) (v:Value) (lo len:Nat):dI (Gh s v lo len) 1 false:=gB fun u V h=>by obtain ⟨_,_,_,_,_,_,rfl⟩:=h; trivial
section
variable {P:Program} {R:eA} {cx:Cx} {n:Nat} {k:List It} {E:cB} {H:Hp} {ops:Array Oper} {o:Oper} {rest:List Oper}
variable {d:Option Tmp} {t:TypeId} {pos:String} {af:Array Edge} {g:Option (Nat × Bool)}
theorem Ro {x lo : Operand} {i e e' s q : Nat} {v : Value} {Ts : List Ty} {kd : IntKind} {j : Int} (hU : ∀ w, (underlying t).run P w = .ok (.slice e) w) (hS : ∀ w, (sizeOf e).run P w = .ok s w)
  (hx:aA E x (Is v)) (hlo:aA E lo (aF kd j)) (hj:j = (q:Int)) (hH:H[i]? = some (bN e' s v Ts)) (hq:q < Ts.length) {t':TypeId}:aM P n E H ⟨d,.slice t x (some lo) none none,t',pos,af,g⟩ (Gh s v q (Ts.length - q)) :=
 kA hH fun a V w S hA _ hs => by
  have e1:a.eval x = v:=hx n V a hs
  have e2:a.eval lo = .int kd j:=hlo n V a hs
  subst hj
  obtain ⟨xs,_,h2⟩:=hA
  rcases h2 with ⟨_,h0,_⟩ | ⟨g1,cap,cur,rfl,_,_,hle,_⟩
  ·subst h0; simp at hq
  ·refine ⟨.slice (some ⟨g1, q * s, none⟩) (Ts.length - q) (cap - q), ?_, g1, Ts.length, cap, rfl, by omega, hle, rfl⟩
   have hne:¬ cap = q:=by omega
   have hb:q ≤ Ts.length:=by omega
   simp [execOp,e1,e2,Instr.sliceAt,Instr.slice,Instr.sliceBounds,Instr.sliceBound,asIntOf,Sem.run_bind,hU,hS,Result.andThen,hb,hne,Addr.add,hle]
   try exact fun h=>h.symm
theorem Rn {x hi : Operand} {i e e' s q : Nat} {v : Value} {Ts : List Ty} {kd : IntKind} {j : Int} (hU : ∀ w, (underlying t).run P w = .ok (.slice e) w) (hS : ∀ w, (sizeOf e).run P w = .ok s w)
  (hx:aA E x (Is v)) (hhi:aA E hi (aF kd j)) (hj:j = (q:Int)) (hH:H[i]? = some (bN e' s v Ts)) (hq:q ≤ Ts.length) (h0:0 < Ts.length) {t':TypeId}:aM P n E H ⟨d,.slice t x none (some hi) none,t',pos,af,g⟩ (Gh s v 0 q) :=
 kA hH fun a V w S hA _ hs => by
  have e1:a.eval x = v:=hx n V a hs
  have e2:a.eval hi = .int kd j:=hhi n V a hs
  subst hj
  obtain ⟨xs,_,h2⟩:=hA
  rcases h2 with ⟨_,h1,_⟩ | ⟨g1,cap,cur,rfl,_,_,hle,_⟩
  ·subst h1; simp at h0
  ·refine ⟨.slice (some ⟨g1, 0, none⟩) q cap, ?_, g1, Ts.length, cap, rfl, by omega, hle, by simp⟩
   have hb:q ≤ cap:=by omega
   simp [execOp,e1,e2,Instr.sliceAt,Instr.slice,Instr.sliceBounds,Instr.sliceBound,asIntOf,Sem.run_bind,hU,hS,Result.andThen,hb,Addr.add]
theorem Al {x y : Operand} {i e e' s m lo p q : Nat} {ta tb : TypeId} {v : Value} {T : Ty} {a : Act} {w : World} {V : aO} {b0 o0 cp dd : Nat} {ys : List Value} {t' : TypeId} (hU : ∀ w, (underlying ta).run P w = .ok (.slice e) w) (hS : ∀ w, (sizeOf e).run P w = .ok s w)
  (hinv:fN cx V H w) (hH:H[i]? = some (bN e' s v (List.replicate m T))) (hxv:(Gh s v lo p).p (a.eval x) V) (ey:a.eval y = .slice (some ⟨b0,o0,none⟩) q cp)
  (hrow:uG s (List.replicate q T) ys V) (hcells:∀ (j:Nat) u,(cH ys)[j]? = some u → w.cell? ((⟨b0,o0,none⟩:Addr).add j) = some u) :
  ∃ w',(execOp a.eval ⟨some dd,.call ⟨.builtin .copy,#[x,y],#[ta,tb]⟩,t',pos,af,g⟩).run P w = .ok (.value (goInt (Nat.min q p))) w' ∧ fN cx V H w':=by
 obtain ⟨S,hR⟩:=(show HH cx.w0.heap.size w V (H ++ []) by simpa using hinv.hp).get hH
 obtain ⟨xs,hrx,h2⟩:=hR
 obtain ⟨g1,l0,cap0,hv,hlo,hlc,ex⟩:=hxv
 rcases h2 with ⟨h0,_⟩ | ⟨g2,cap,cur,h3,hS',hg,hle,hcm,hcs,htake⟩
 ·rw [hv] at h0; cases h0
 rw [hv] at h3
 simp only [Value.slice.injEq,Option.some.injEq,Addr.mk.injEq,List.length_replicate] at h3
 obtain ⟨⟨rfl,_⟩,rfl,rfl⟩:=h3
 simp only [List.length_replicate] at hle htake
 have hk1:Nat.min q p ≤ q:=Nat.min_le_left _ _
 have hk2:Nat.min q p ≤ p:=Nat.min_le_right _ _
 generalize hkk:Nat.min q p = k at hk1 hk2
 have hyl:ys.length = q:=by rw [hrow.all.length]; simp
 have hxl:xs.length = l0:=by rw [hrx.all.length]; simp
 have hyk:∀ z,z ∈ ys.take k → z.cells.size = s:=fun z hz=>hrow.size z (List.mem_of_mem_take hz)
 have hfl:(cH (ys.take k)).length = k * s:=by rw [iC _ hyk]; simp [Nat.min_eq_left (show k ≤ ys.length by omega)]
 have hg':w.heap[g1]? = some (.cells cur e' (0,0)):=hg
 have h1s:(lo + k) * s ≤ l0 * s:=Nat.mul_le_mul_right _ (by omega)
 have h2s:l0 * s ≤ cap0 * s:=Nat.mul_le_mul_right _ hle
 have h3s:(lo + k) * s = lo * s + k * s:=Nat.add_mul _ _ _
 have hpl : ∀ u, u ∈ cH (ys.take k) → jA u := fun u hu => by
  obtain ⟨z,hz,hu'⟩:=iO.1 hu
  exact hrow.plain u (iO.2 ⟨z,List.mem_of_mem_take hz,hu'⟩)
 obtain ⟨w',q1,⟨c',q2,q2'⟩,q3,q4,q5,q6,q7⟩:=lD (P:=P) (cH (ys.take k)) (lo * s) 0 w cur hg' (by rw [hfl]; omega) hpl
 have hf := run_firstCells_some (P := P) w s k ⟨b0, o0, none⟩ q cp (cH (ys.take k)) hfl (fun j u hu => hcells j u (by
  rw [Cj hrow.size k (by omega),List.getElem?_take] at hu
  split at hu
  ·exact hu
  ·cases hu))
 refine ⟨w',?_,?_⟩
 ·simp [execOp,resolve,invoke,builtin,ex,ey,Builtin.copy_,Builtin.lenOf,Sem.run_bind,hU,hS,Result.andThen,hkk,hf,q1]
 ·have hset : H.set i (bN e' s v (List.replicate l0 T)) = H := by
   apply List.ext_getElem?
   intro j
   by_cases c:i = j
   ·subst c; rw [List.getElem?_set_self (List.getElem?_eq_some_iff.1 hH).1,hH]
   ·rw [List.getElem?_set_ne c]
  rw [← hset]
  refine hinv.upd hH q4 q5 q6 q7 (fun S2 hS2=>?_)
  obtain ⟨xs2,hrx2,h4⟩:=hS2
  rcases h4 with ⟨h0,_⟩ | ⟨g3,cap3,cur3,h5,hS3,hg3,hle3,hcm3,hcs3,htake3⟩
  ·rw [hv] at h0; cases h0
  rw [hv] at h5
  simp only [Value.slice.injEq,Option.some.injEq,Addr.mk.injEq] at h5
  obtain ⟨⟨rfl,_⟩,_,rfl⟩:=h5
  have hg4:w.heap[g1]? = some (.cells cur3 e' (0,0)):=hg3
  rw [hg'] at hg4; simp at hg4; subst hg4
  subst hS3
  have hx2l:xs2.length = l0:=by rw [hrx2.all.length]; simp
  simp only [List.length_replicate] at htake3
  refine ⟨fun b hb=>q3 b (by simpa using hb),xs2.take lo ++ ys.take k ++ xs2.drop (lo + k),⟨Bt (fun z hz=>?_) ?_,fun z hz=>?_,fun u hu=>?_⟩,.inr ⟨g1,cap0,c',by rw [hv]; simp,rfl,q2,by simpa using hle,hcm,?_,?_⟩⟩
  ·simp only [List.mem_append] at hz
   rcases hz with (hz | hz) | hz
   ·exact wN hrx2.all z (List.mem_of_mem_take hz)
   ·exact wN hrow.all z (List.mem_of_mem_take hz)
   ·exact wN hrx2.all z (List.mem_of_mem_drop hz)
  ·simp only [List.length_append,List.length_take,List.length_drop]; omega
  ·simp only [List.mem_append] at hz
   rcases hz with (hz | hz) | hz
   ·exact hrx2.size z (List.mem_of_mem_take hz)
   ·exact hrow.size z (List.mem_of_mem_take hz)
   ·exact hrx2.size z (List.mem_of_mem_drop hz)
  ·obtain ⟨z, hz, hu'⟩ := iO.1 hu
   simp only [List.mem_append] at hz
   rcases hz with (hz | hz) | hz
   ·exact hrx2.plain u (iO.2 ⟨z,List.mem_of_mem_take hz,hu'⟩)
   ·exact hrow.plain u (iO.2 ⟨z,List.mem_of_mem_take hz,hu'⟩)
   ·exact hrx2.plain u (iO.2 ⟨z,List.mem_of_mem_drop hz,hu'⟩)
  ·have : c'.toList.length = cur.toList.length := by
    rw [q2']; simp only [List.length_append,List.length_take,List.length_drop,Array.length_toList,hfl]; omega
   simpa [hcs] using this
  ·rw [q2', tB, tB, Cj hrx2.size lo (by omega), Vr hrx2.size (lo + k) (by omega), ← htake3, List.length_replicate, h3s]
   simp only [Nat.add_zero,hfl]
   exact Fz _ _ _ _ _ hfl (by omega) (by simp only [Array.length_toList]; omega)
theorem Hv {x y : Operand} {i e e' s m lo p q : Nat} {ta tb : TypeId} {v : Value} {T : Ty} {dd : Nat} (hU : ∀ w, (underlying ta).run P w = .ok (.slice e) w) (hS : ∀ w, (sizeOf e).run P w = .ok s w)
  (hH:H[i]? = some (bN e' s v (List.replicate m T))) (hx:aA E x (Gh s v lo p)) (hy:aA E y (Gh s v 0 q)) {t':TypeId} :
  aM P n E H ⟨some dd,.call ⟨.builtin .copy,#[x,y],#[ta,tb]⟩,t',pos,af,g⟩ (NT .i64 (Nat.min q p)):=fun cx X a w V hi hs K Q hK=>by
 have hil:=(List.getElem?_eq_some_iff.1 hH).1
 have hH':(H ++ X)[i]? = some (bN e' s v (List.replicate m T)):=by rw [List.getElem?_append_left hil]; exact hH
 obtain ⟨S,hR⟩:=(show HH cx.w0.heap.size w V ((H ++ X) ++ []) by simpa using hi.hp).get hH'
 obtain ⟨xs,hrx,h2⟩:=hR
 obtain ⟨g1,l0,cap0,hv,hlo,hlc,ey⟩:=hy n V a hs
 rcases h2 with ⟨h0,_⟩ | ⟨g2,cap,cur,h3,_,hg,hle,hcm,hcs,htake⟩
 ·rw [hv] at h0; cases h0
 rw [hv] at h3
 simp only [Value.slice.injEq,Option.some.injEq,Addr.mk.injEq,List.length_replicate] at h3
 obtain ⟨⟨rfl,_⟩,rfl,rfl⟩:=h3
 have hxl:xs.length = l0:=by rw [hrx.all.length]; simp
 rw [Nat.zero_mul] at ey
 have hrow : uG s (List.replicate q T) (xs.take q) V := ⟨Bt (fun z hz => wN hrx.all z (List.mem_of_mem_take hz)) (by simp; omega), fun z hz => hrx.size z (List.mem_of_mem_take hz), fun u hu => by
  obtain ⟨z,hz,hu'⟩:=iO.1 hu; exact hrx.plain u (iO.2 ⟨z,List.mem_of_mem_take hz,hu'⟩)⟩
 obtain ⟨w', h1, h4⟩ := Al (dd := dd) (pos := pos) (af := af) (g := g) (t' := t') (tb := tb) hU hS hi hH' (hx n V a hs) ey hrow (fun j u hu => by
  rw [Cj hrx.size q (by omega),← htake,List.getElem?_take,List.getElem?_take] at hu
  split at hu
  ·split at hu
   ·rw [fO,dM (show w.heap[g1]? = some (.cells cur e' (0,0)) from hg),Nat.zero_add]; simpa using hu
   ·cases hu
  ·cases hu)
 simp only [Oper.wp,h1,Oper.upon_value]
 exact hK _ w' V h4 (kC.refl V) rfl
theorem Rk {x y : Operand} {i e e' s m q : Nat} {ta tb : TypeId} {v : Value} {T : Ty} {dd : Nat} (hU : ∀ w, (underlying ta).run P w = .ok (.slice e) w) (hS : ∀ w, (sizeOf e).run P w = .ok s w)
  (hH:H[i]? = some (bN e' s v (List.replicate m T))) (hx:aA E x (Is v)) (hy:aA E y (kT s (List.replicate q T))) (hq:0 < q) (hEl:El s T) (hm:0 < m) {t':TypeId} :
  aM P n E H ⟨some dd,.call ⟨.builtin .copy,#[x,y],#[ta,tb]⟩,t',pos,af,g⟩ (NT .i64 (Nat.min q m)):=fun cx X a w V hi hs K Q hK=>by
 obtain ⟨b0,o0,cp,ys,ey,_,hrow,hcells⟩:=kT.row (hy n V a hs) (by intro h; have:=congrArg List.length h; simp at this; omega) (fun U hU=>by rw [(List.mem_replicate.1 hU).2]; exact hEl)
 simp only [List.length_replicate] at ey
 have hil:=(List.getElem?_eq_some_iff.1 hH).1
 have hH':(H ++ X)[i]? = some (bN e' s v (List.replicate m T)):=by rw [List.getElem?_append_left hil]; exact hH
 obtain ⟨S,hR⟩:=(show HH cx.w0.heap.size w V ((H ++ X) ++ []) by simpa using hi.hp).get hH'
 have hxv : (Gh s v 0 m).p (a.eval x) V := by
  obtain ⟨xs,_,h2⟩:=hR
  rcases h2 with ⟨_,h0,_⟩ | ⟨g1,cap,cur,hv,_,_,hle,_⟩
  ·have:=congrArg List.length h0; simp at this; omega
  ·simp only [List.length_replicate] at hv hle
   have ex:a.eval x = v:=hx n V a hs
   exact ⟨g1,m,cap,hv,by omega,hle,by rw [ex,hv]; simp⟩
 obtain ⟨w',h1,h2⟩:=Al (dd:=dd) (pos:=pos) (af:=af) (g:=g) (t':=t') (tb:=tb) hU hS hi hH' hxv ey hrow (hcells w hi.on)
 simp only [Oper.wp,h1,Oper.upon_value]
 exact hK _ w' V h2 (kC.refl V) rfl
end
end
section
open Go Go.RowKit
abbrev Cv:Value:=.slice none 0 0
abbrev hd (vs:List Value) (i:Nat):Value:=vs.getD i Cv
theorem oR {vs:List Value} {i:Nat} (h:i < vs.length):vs[i]? = some (hd vs i):=by simp [hd,List.getD,h]
def Zd (B:Nat) (BT:TypeId) (e s:Nat) (hs vs:List Value) (Rs:List (List Ty)):Hp:=box B BT (hs.map Is) :: List.zipWith (bN e s) vs Rs
def iZ (B:Nat) (BT:TypeId) (e s:Nat) (hs vs:List Value) (Rs:List (List Ty)):SA:=fP (Zd B BT e s hs vs Rs)
structure Yj (vs:List Value) (m:Nat):Prop where
 len:vs.length = m
 pl:∀ i,i < m → jA (hd vs i)
theorem wI {B:Nat} {BT:TypeId} {e s:Nat} {hs vs:List Value} {Rs:List (List Ty)} {i:Nat} {v:Value} {Ts:List Ty} (hv:vs[i]? = some v) (hR:Rs[i]? = some Ts):(Zd B BT e s hs vs Rs)[i + 1]? = some (bN e s v Ts):=by
 simp [Zd,List.getElem?_zipWith,hv,hR]
theorem vJ {e s : Nat} {v : Value} {Ts : List Ty} : ∀ (vs : List Value) (Rs : List (List Ty)) (i : Nat), (List.zipWith (bN e s) vs Rs).set i (bN e s v Ts) = List.zipWith (bN e s) (vs.set i v) (Rs.set i Ts)
 | [],Rs,i=>by simp
 | u :: vs,[],i=>by cases i <;> simp
 | u :: vs,R :: Rs,0=>rfl
 | u :: vs, R :: Rs, i + 1 => by
  simp only [List.zipWith_cons_cons,List.set_cons_succ]
  rw [vJ vs Rs i]
theorem iZ.row {B:Nat} {BT:TypeId} {e s:Nat} {hs vs:List Value} {Rs:List (List Ty)} {S:List Nat} {m V:aO} (h:(iZ B BT e s hs vs Rs).h S m V) {i:Nat} {v:Value} {Ts:List Ty} (hv:vs[i]? = some v) (hR:Rs[i]? = some Ts):∃ S2,(bN e s v Ts).h S2 m V:=by
 obtain ⟨F,h1,_⟩:=h
 exact ⟨_,h1 (i + 1) _ (wI hv hR)⟩
theorem iZ.hdr {B:Nat} {BT:TypeId} {e s:Nat} {hs vs:List Value} {Rs:List (List Ty)} {S:List Nat} {m V:aO} (h:(iZ B BT e s hs vs Rs).h S m V):∃ S2,(box B BT (hs.map Is)).h S2 m V:=by
 obtain ⟨F,h1,_⟩:=h
 exact ⟨_,h1 0 _ rfl⟩
theorem Nf {X:Hp} {a b:Nat} {A B:SA} {S:List Nat} {m V:aO} (hA:X[a]? = some A) (hB:X[b]? = some B) (h:(fP X).h S m V):(fP ((X.set a B).set b A)).h S m V:=by
 obtain ⟨F,h1,h2,h3⟩:=h
 have ha:=(List.getElem?_eq_some_iff.1 hA).1
 have hb:=(List.getElem?_eq_some_iff.1 hB).1
 have g1:∀ j,j < X.length → (if j = b then a else if j = a then b else j) < X.length:=fun j hj=>by split; exact ha; split; exact hb; exact hj
 have g2 : ∀ i j, (if i = b then a else if i = a then b else i) = (if j = b then a else if j = a then b else j) → i = j := fun i j e => by
  split at e <;> split at e <;> (try split at e) <;> (try split at e) <;> omega
 refine ⟨fun j=>F (if j = b then a else if j = a then b else j),fun j C hC=>?_,fun i j c hi hj hci hcj=>?_,fun c=>?_⟩
 ·by_cases e : j = b
  ·subst e
   simp [hb] at hC; subst hC
   simp only [if_pos]; exact h1 a A hA
  ·rw [List.getElem?_set_ne (Ne.symm e)] at hC
   simp only [if_neg e]
   by_cases e2:j = a
   ·subst e2
    simp [ha] at hC; subst hC
    simp only [if_pos]; exact h1 b B hB
   ·rw [List.getElem?_set_ne (Ne.symm e2)] at hC
    simp only [if_neg e2]; exact h1 j C hC
 ·simp only [List.length_set] at hi hj
  exact g2 i j (h2 _ _ c (g1 i hi) (g1 j hj) hci hcj)
 ·rw [h3 c]
  simp only [List.length_set]
  constructor
  ·rintro ⟨i, hi, hc⟩
   refine ⟨if i = b then a else if i = a then b else i,g1 i hi,?_⟩
   have : (if (if i = b then a else if i = a then b else i) = b then a else if (if i = b then a else if i = a then b else i) = a then b else (if i = b then a else if i = a then b else i)) = i := by
    split <;> split <;> (try split) <;> (try split) <;> omega
   rw [this]; exact hc
  ·rintro ⟨i,hi,hc⟩; exact ⟨_,g1 i hi,hc⟩
theorem HH.unpack' {base:Nat} {w:World} {V:aO} {X:Hp} {A:SA} (h:HH base w V [fP X,A]):HH base w V (X ++ [A]):=HH.unpack h
theorem HH.repack {base:Nat} {w:World} {V:aO} {X Y:Hp} (h:HH base w V (X ++ Y)):HH base w V (fP X :: Y):=by
 obtain ⟨F,h1,h2⟩:=h
 have key:∀ b,b ∈ (List.range X.length).flatMap F ↔ ∃ i,i < X.length ∧ b ∈ F i:=fun b=>by simp [List.mem_flatMap]
 have lx:∀ i A,X[i]? = some A → (X ++ Y)[i]? = some A:=fun i A hA=>by rw [List.getElem?_append_left (List.getElem?_eq_some_iff.1 hA).1]; exact hA
 refine ⟨fun i=>if i = 0 then (List.range X.length).flatMap F else F (X.length + (i - 1)),fun i A hA=>?_,fun i j b hi hj hbi hbj=>?_⟩
 ·cases i with
  | zero =>
   simp at hA; subst hA
   simp only [if_pos]
   refine ⟨⟨F,fun i A hA=>(h1 i A (lx i A hA)).1,fun i j b hi hj=>h2 i j b (by simp; omega) (by simp; omega),key⟩,fun b hb=>?_⟩
   obtain ⟨i,hi,hb⟩:=(key b).1 hb
   exact (h1 i X[i] (by rw [List.getElem?_append_left hi]; simp [hi])).2 b hb
  | succ i =>
   simp only [if_neg (Nat.succ_ne_zero i),Nat.add_sub_cancel]
   refine h1 (X.length + i) A ?_
   rw [List.getElem?_append_right (by omega)]
   simpa using hA
 ·simp at hi hj
  cases i with
  | zero =>
   cases j with
   | zero=>rfl
   | succ j =>
    simp only [if_pos,if_neg (Nat.succ_ne_zero j),Nat.add_sub_cancel] at hbi hbj
    obtain ⟨i,hi',hb⟩:=(key b).1 hbi
    have:=h2 i (X.length + j) b (by simp; omega) (by simp; omega) hb hbj
    omega
  | succ i =>
   cases j with
   | zero =>
    simp only [if_pos,if_neg (Nat.succ_ne_zero i),Nat.add_sub_cancel] at hbi hbj
    obtain ⟨j,hj',hb⟩:=(key b).1 hbj
    have:=h2 (X.length + i) j b (by simp; omega) (by simp; omega) hbi hb
    omega
   | succ j =>
    simp only [if_neg (Nat.succ_ne_zero j),if_neg (Nat.succ_ne_zero i),Nat.add_sub_cancel] at hbi hbj
    have:=h2 (X.length + i) (X.length + j) b (by simp; omega) (by simp; omega) hbi hbj
    omega
section
variable {P:Program} {R:eA} {cx:Cx} {n:Nat} {k:List It} {E:cB} {H:Hp} {ops:Array Oper} {o:Oper} {rest:List Oper}
variable {d:Option Tmp} {t:TypeId} {pos:String} {af:Array Edge} {g:Option (Nat × Bool)}
theorem Kp {X : Hp} {q : Nat} {A B : SA} (h : W.PutTy P n E [A] [B] o) (hA : X[q]? = some A) : W.PutTy P n E [fP X] [fP (X.set q B)] o := fun cx Y a w V hi hs => by
 have hi2:fN cx V (X ++ Y) w:=hi.withHH (HH.unpack hi.hp)
 obtain ⟨w',e1,e2⟩:=Go.Proofs.YthcmlodgnfekeaaGreat.putAt h hi2 (wB hA) hs
 rw [wO hA] at e2
 exact ⟨w',e1,e2.withHH (HH.repack e2.hp)⟩
theorem tQ {H H1 H2:Hp} (h:W.PutTy P n E H H1 o) (e:H1 = H2):W.PutTy P n E H H2 o:=e ▸ h
theorem Nu {x y : Operand} {i B e s : Nat} {BT : TypeId} {hs vs : List Value} {Rs : List (List Ty)} {v : Value} (hS : ∀ w, (sizeOf t).run P w = .ok 1 w) (hx : aA E x (eH B i)) (hy : aA E y (Is v)) (hp : jA v) (hi : i < hs.length) {t' : TypeId} :
  W.PutTy P n E [iZ B BT e s hs vs Rs] [iZ B BT e s (hs.set i v) vs Rs] ⟨none,.store t x y,t',pos,af,none⟩:=by
 haveI:dI (Is v) 1 false:=gB fun u V h=>by cases h; exact hp
 refine tQ (Kp (q:=0) (B:=box B BT ((hs.set i v).map Is)) (tQ (a1g (i:=0) (B:=B) (BT:=BT) (Ts:=hs.map Is) hS hx hy rfl (by simpa using hi)) ?_) rfl) ?_
 ·simp [List.map_set]
 ·simp [Zd,iZ]
theorem a1h {x y : Operand} {i B e s q : Nat} {BT : TypeId} {hs vs : List Value} {F : Qi → Ty} {M : List (List Qi)} {z : Qi} (hS : ∀ w, (sizeOf t).run P w = .ok s w) (hx : aA E x (Tj (hd vs i) (q * s))) (hy : aA E y (F z)) (hEl : El s (F z)) (hl : vs.length = M.length)
  (hi:i < M.length) (hq:q < (M.getD i []).length) {t':TypeId}:W.PutTy P n E [iZ B BT e s hs vs (dD F M)] [iZ B BT e s hs vs (dD F (M.set i ((M.getD i []).set q z)))] ⟨none,.store t x y,t',pos,af,none⟩:=by
 refine tQ (Kp (q:=i + 1) (B:=bN e s (hd vs i) (((M.getD i []).set q z).map F)) (tQ (Nv (i:=0) (e:=e) (Ts:=(M.getD i []).map F) hS hx hy hEl rfl rfl (by simpa using hq)) ?_) (wI (oR (by omega)) (jZ hi))) ?_
 ·simp [List.map_set]
 ·simp only [Zd, iZ, List.set_cons_succ]
  rw [Dm vs (dD F M) i (oR (by omega)) (by simpa using hi),jJ]
theorem Zv {x y : Operand} {j i B e s : Nat} {BT : TypeId} {hs vs : List Value} {Rs : List (List Ty)} {v : Value} (hS : ∀ w, (sizeOf t).run P w = .ok 1 w) (hx : aA E x (eH B i)) (hy : aA E y (Is v)) (hH : H[j]? = some (iZ B BT e s hs vs Rs)) (hp : jA v) (hi : i < hs.length) {t' : TypeId}
  {H':Hp} (hH':H.set j (iZ B BT e s (hs.set i v) vs Rs) = H') (h:Rg P R cx n ops rest k E H'):Rg P R cx n ops (⟨none,.store t x y,t',pos,af,none⟩ :: rest) k E H :=
 uF (fun a w V hi' hs'=>by subst hH'; exact Go.Proofs.YthcmlodgnfekeaaGreat.putAt (Nu hS hx hy hp hi) hi' hH hs') h
theorem a1k {x y : Operand} {j i B e s q : Nat} {BT : TypeId} {hs vs : List Value} {F : Qi → Ty} {M : List (List Qi)} {z : Qi} (hS : ∀ w, (sizeOf t).run P w = .ok s w) (hx : aA E x (Tj (hd vs i) (q * s))) (hy : aA E y (F z)) (hH : H[j]? = some (iZ B BT e s hs vs (dD F M))) (hEl : El s (F z)) (hl : vs.length = M.length)
  (hi:i < M.length) (hq:q < (M.getD i []).length) {t':TypeId} {H':Hp} (hH':H.set j (iZ B BT e s hs vs (dD F (M.set i ((M.getD i []).set q z)))) = H') (h:Rg P R cx n ops rest k E H'):Rg P R cx n ops (⟨none,.store t x y,t',pos,af,none⟩ :: rest) k E H :=
 uF (fun a w V hi' hs'=>by subst hH'; exact Go.Proofs.YthcmlodgnfekeaaGreat.putAt (a1h hS hx hy hEl hl hi hq) hi' hH hs') h
theorem kE {x : Operand} {j i B e s : Nat} {BT : TypeId} {hs vs : List Value} {Rs : List (List Ty)} (hA : ∀ w, (isAgg t).run P w = .ok false w) (hS : ∀ w, (sizeOf t).run P w = .ok 1 w)
  (hx:aA E x (eH B i)) (hH:H[j]? = some (iZ B BT e s hs vs Rs)) (hi:i < hs.length) {t':TypeId}:aM P n E H ⟨d,.load t x,t',pos,af,g⟩ (Is (hd hs i)) :=
 kA hH fun a V w S hM _ hs' => by
  have e1:a.eval x = .pointer (some ⟨B,i,none⟩):=hx n V a hs'
  obtain ⟨S2,_,cs,e2,e3⟩:=iZ.hdr hM
  obtain ⟨u,e4,e5⟩:=e3.get (i:=i) (T:=Is (hd hs i)) (by rw [List.getElem?_map,oR hi]; rfl)
  have hu:u = hd hs i:=e5
  have hpl:=e3.pl u (List.mem_of_getElem? e4)
  have := eP (P := P) (w := w) (b := B) (o := i) (x := u) hA hS ⟨by rw [hpl.cells]; rfl, by simp, fun _ => hpl⟩ (fun q u' hu' => by
   rw [dM (show w.heap[B]? = some (.cells cs.toArray BT (0,0)) from e2)]
   rw [hpl.cells] at hu'
   cases q with
   | zero=>simp at hu'; subst hu'; simpa using e4
   | succ q=>simp at hu')
  exact ⟨u,by simp [execOp,e1,Instr.loadAt,Instr.sureAddr,Sem.run_bind,this,Result.andThen],hu⟩
theorem Xb {x : Operand} {j i B e s : Nat} {BT : TypeId} {hs vs : List Value} {F : Qi → Ty} {M : List (List Qi)} {e' : TypeId} {ta : TypeId} (hU : ∀ w, (underlying ta).run P w = .ok (.slice e') w) (hx : aA E x (Is (hd vs i))) (hH : H[j]? = some (iZ B BT e s hs vs (dD F M)))
  (hl:vs.length = M.length) (hi:i < M.length):aM P n E H ⟨d,.call ⟨.builtin .len,#[x],#[ta]⟩,t,pos,af,g⟩ (NT .i64 (M.getD i []).length) :=
 kA hH fun a V w S hM _ hs' => by
  obtain ⟨S2,hA⟩:=iZ.row hM (oR (by omega)) (jZ (F:=F) hi)
  obtain ⟨ad,cap,hv⟩:=Fp hA
  have e1:a.eval x = .slice ad (M.getD i []).length cap:=by have:=hx n V a hs'; have el:((M.getD i []).map F).length = (M.getD i []).length:=List.length_map F; rw [← el,← hv]; exact this
  exact ⟨.int .i64 (M.getD i []).length,by simp [execOp,resolve,e1,invoke,builtin,Builtin.len_,Sem.run_bind,hU,Result.andThen,goInt],rfl⟩
theorem mJ {x y : Operand} {j i B e s q : Nat} {BT : TypeId} {hs vs : List Value} {F : Qi → Ty} {M : List (List Qi)} {kd : IntKind} {z : Int} {e' : TypeId} (hU : ∀ w, (underlying t).run P w = .ok (.slice e') w) (hS : ∀ w, (sizeOf e').run P w = .ok s w)
  (hx:aA E x (Is (hd vs i))) (hj:aA E y (aF kd z)) (hz:z = (q:Int)) (hH:H[j]? = some (iZ B BT e s hs vs (dD F M))) (hl:vs.length = M.length) (hi:i < M.length) (hq:q < (M.getD i []).length) {t':TypeId}:aM P n E H ⟨d,.indexAddr t x y,t',pos,af,g⟩ (Tj (hd vs i) (q * s)) :=
 kA hH fun a V w S hM _ hs' => by
  obtain ⟨S2,hA⟩:=iZ.row hM (oR (by omega)) (jZ (F:=F) hi)
  obtain ⟨gg,cap,hv⟩:=yK hA (by rw [List.length_map]; omega)
  rw [List.length_map] at hv
  have e1:a.eval x = .slice (some ⟨gg,0,none⟩) (M.getD i []).length cap:=by rw [← hv]; exact hx n V a hs'
  have ei:a.eval y = .int kd z:=hj n V a hs'
  refine ⟨.pointer (some ⟨gg,q * s,none⟩),?_,gg,_,cap,hv,rfl⟩
  subst hz
  obtain ⟨m,hm⟩:∃ m,(M.getD i []).length = m:=⟨_,rfl⟩
  rw [hm] at e1 hq
  simp [execOp,e1,ei,Instr.indexAt,asIntOf,Sem.run_bind,hU,hS,Result.andThen,hq,fO]
theorem qA {x : Operand} {j i B e s q : Nat} {BT : TypeId} {hs vs : List Value} {F : Qi → Ty} {M : List (List Qi)} {gg : Bool} [hsh : ∀ z, dI (F z) s gg] (hA : ∀ w, (isAgg t).run P w = .ok gg w) (hS : ∀ w, (sizeOf t).run P w = .ok s w)
  (hx:aA E x (Tj (hd vs i) (q * s))) (hH:H[j]? = some (iZ B BT e s hs vs (dD F M))) (hl:vs.length = M.length) (hi:i < M.length) (hq:q < (M.getD i []).length) {t':TypeId}:aM P n E H ⟨d,.load t x,t',pos,af,g⟩ (F ((M.getD i []).getD q Qi.zero)) :=
 kA hH fun a V w S hM _ hs' => by
  obtain ⟨S2,hR⟩:=iZ.row hM (oR (by omega)) (jZ (F:=F) hi)
  obtain ⟨g1,cap,xs,hv,hrow,hc⟩:=yI hR (by rw [List.length_map]; omega)
  obtain ⟨g2,l2,c2,e0,e1⟩:=hx n V a hs'
  have e00:=hv.symm.trans e0
  simp at e00; obtain ⟨rfl,_,_⟩:=e00
  obtain ⟨y,h1,h2,h3⟩:=hrow.get (q:=q) (T:=F ((M.getD i []).getD q Qi.zero)) (Kg (getD_some (d:=Qi.zero) hq))
  have:=eP (P:=P) (w:=w) (b:=g1) (o:=q * s) hA hS ((hsh _).ok y V h2) (fun j u hu=>hc _ _ (nB xs hrow.size q y h1 j u hu))
  exact ⟨y,by simp [execOp,e1,Instr.loadAt,Instr.sureAddr,Sem.run_bind,this,Result.andThen],h2⟩
theorem Xd {x y : Operand} {kd kd' : IntKind} {a b : Nat} {tys : Array TypeId} (hx : aA E x (NT kd a)) (hy : aA E y (NT kd' b)) : aM P n E H ⟨d, .call ⟨.builtin .max, #[x, y], tys⟩, t, pos, af, g⟩ (NT kd (max a b)) :=
 dF fun c V w hs => by
  have ex:c.eval x = .int kd (a:Int):=hx n V c hs
  have ey:c.eval y = .int kd' (b:Int):=hy n V c hs
  refine ⟨.int kd (if (b:Int) > a then b else a),?_,?_⟩
  ·simp [execOp,resolve,ex,ey,invoke,builtin,Builtin.max_,Builtin.max2,Sem.run_bind,Result.andThen]
  ·show Value.int kd _ = Value.int kd _
   congr 1
   split <;> omega
theorem Av {f : FuncId} {xs : List Operand} {tys : Array TypeId} {Ts : List Ty} {γ : Type} {U : γ → Ty} {A : γ → SA} {Q : γ → Prop} (hc : ∀ args w, (callFunc f args).run P w = .ok (.enter f args) w)
  (hF:iH P f Ts [] γ U (fun x=>[A x]) Q) (ha:kU E xs Ts):gY P n E H ⟨d,.call ⟨.value (.func f),xs.toArray,tys⟩,t,pos,af,g⟩ {x // Q x} (fun x=>U x.1) (fun x=>A x.1):=fun cx X a w V hi hs K Q' hK=>by
 have hrun : (execOp a.eval ⟨d, .call ⟨.value (.func f), xs.toArray, tys⟩, t, pos, af, g⟩).run P w = .ok (.enter f (xs.map a.eval).toArray) w := by
  simp [execOp,resolve,Act.eval,Deferred.ofValue,invoke,hc]
 simp only [Oper.wp,hrun,Oper.upon_enter]
 refine (hF cx (fP (H ++ X)) _ V w (hi.withHH hi.hp.pack) (kU.all hs ha)).mono ?_
 rintro e w' ⟨v,V',x,rfl,h1,h2,h3,h4⟩
 exact hK ⟨x,h4⟩ v w' V' (h2.withHH h2.hp.unpack') h1 h3
theorem Iy (j : Nat) {B e s : Nat} {q : Value → Prop} {BT : TypeId} {Rs : List (List Ty)} (hH : H[j]? = some (tF q B BT e s Rs)) (h : ∀ vs, Yj vs Rs.length → Tr P R cx n k E (H.set j (iZ B BT e s vs vs Rs))) : Tr P R cx n k E H := fun a w ⟨V, hi, hs⟩ => by
 obtain ⟨F,h1,h2⟩:=hi.hp
 obtain ⟨⟨vs,⟨k1,_⟩,k2⟩,k3⟩:=h1 j _ hH
 have hd0 : Yj vs Rs.length := ⟨k1, fun i hi' => by
  obtain ⟨S2,hr⟩:=iZ.row (hs:=vs) k2 (oR (by omega)) (List.getElem?_eq_getElem hi')
  exact yJ hr⟩
 refine h vs hd0 a w ⟨V,hi.withHH ⟨F,fun i A hA=>?_,fun x y b hx hy=>h2 x y b (by simpa using hx) (by simpa using hy)⟩,hs⟩
 by_cases e:i = j
 ·subst e
  rw [List.getElem?_set_self (List.getElem?_eq_some_iff.1 hH).1] at hA
  obtain rfl:=Option.some.inj hA
  exact ⟨k2,k3⟩
 ·rw [List.getElem?_set_ne (Ne.symm e)] at hA; exact h1 i A hA
theorem yD {B e s:Nat} {BT:TypeId} {vs:List Value} {Rs:List (List Ty)} (h:vs.length = Rs.length):∀ S w V,(iZ B BT e s vs vs Rs).h S w V → (nL B BT e s Rs).h S w V:=fun _ _ _ k=>⟨vs,⟨h,fun _ _=>trivial⟩,k⟩
theorem wG {B e s:Nat} {BT:TypeId} {hs vs:List Value} {Rs Rs':List (List Ty)} (h:Rs = Rs'):∀ S m V,(iZ B BT e s hs vs Rs).h S m V → (iZ B BT e s hs vs Rs').h S m V:=fun _ _ _ k=>h ▸ k
def swp {α:Type} (d:α) (l:List α) (p c:Nat):List α:=(l.set p (l.getD c d)).set c (l.getD p d)
theorem Mk {B e s : Nat} {BT : TypeId} {hs vs : List Value} {F : Qi → Ty} {M : List (List Qi)} {p c : Nat} (hl : vs.length = M.length) (hp : p < M.length) (hc : c < M.length) : ∀ S m V, (iZ B BT e s hs vs (dD F M)).h S m V → (iZ B BT e s hs (swp Cv vs p c) (dD F (swp [] M p c))).h S m V := fun S m V h => by
 have h1:=Nf (wI (oR (by omega)) (jZ (F:=F) hp)) (wI (oR (by omega)) (jZ (F:=F) hc)) h
 have e : ((Zd B BT e s hs vs (dD F M)).set (p + 1) (bN e s (hd vs c) ((M.getD c []).map F))).set (c + 1) (bN e s (hd vs p) ((M.getD p []).map F)) = Zd B BT e s hs (swp Cv vs p c) (dD F (swp [] M p c)) := by
  simp only [Zd,List.set_cons_succ,vJ,jJ,swp]
 rw [e] at h1; exact h1
theorem wQ {α:Type} (d:α) (l:List α) (p c:Nat):(swp d l p c).length = l.length:=by simp [swp]
theorem Yj.swp {vs : List Value} {m p c : Nat} (h : Yj vs m) (hp : p < m) (hc : c < m) : Yj (swp Cv vs p c) m := ⟨by rw [wQ]; exact h.len, fun i hi => by
 have hl:=h.len
 by_cases e:i = c
 ·subst e
  have:hd (Go.Proofs.YthcmlodgnfekeaaGreat.swp Cv vs p i) i = hd vs p:=by simp [hd,Go.Proofs.YthcmlodgnfekeaaGreat.swp,List.getD,hl,hi]
  rw [this]; exact h.pl p hp
 ·by_cases e2 : i = p
  ·subst e2
   have : hd (Go.Proofs.YthcmlodgnfekeaaGreat.swp Cv vs i c) i = hd vs c := by
    simp only [hd,Go.Proofs.YthcmlodgnfekeaaGreat.swp,List.getD]
    rw [List.getElem?_set_ne (Ne.symm e),List.getElem?_set_self (by omega)]; rfl
   rw [this]; exact h.pl c hc
  ·have : hd (Go.Proofs.YthcmlodgnfekeaaGreat.swp Cv vs p c) i = hd vs i := by
    simp only [hd,Go.Proofs.YthcmlodgnfekeaaGreat.swp,List.getD]
    rw [List.getElem?_set_ne (Ne.symm e),List.getElem?_set_ne (Ne.symm e2)]
   rw [this]; exact h.pl i hi⟩
end
end
section
open Go Go.RowKit
namespace C
inductive Ob:Type 1 where
 | val (T:Ty)
 | blk (src:Option Nat) (keep:Bool) (γ:Type) (T:γ → Ty) (A:γ → SA)
 | dep (t u:Nat) (F:Ty → Ty → Ty) (I:Ty → Prop)
def Src (ops : List Oper) (m : Nat) (E0 : cB) (prev : List (Nat × Ob)) (o : Oper) (t : Nat) (T : Ty) : Prop :=
 (fH E0 t = some T ∧ ((List.range m).all fun j=>!(eM ops j == some t)) = true) ∨
 ∃ j,prev.reverse[j]? = some (t,.val T) ∧ (o.after.toList.any fun e=>Nat.beq e.on j && Region.binds .any e) = true
theorem Src.pre {ops:List Oper} {m:Nat} {E0:cB} {prev:List (Nat × Ob)} {o:Oper} {t:Nat} {T:Ty} (h:fH E0 t = some T) (h':((List.range m).all fun j=>!(eM ops j == some t)) = true):Src ops m E0 prev o t T:=.inl ⟨h,h'⟩
theorem Src.op {ops:List Oper} {m:Nat} {E0:cB} {prev:List (Nat × Ob)} {o:Oper} {t:Nat} {T:Ty} (j:Nat) (h:prev.reverse[j]? = some (t,.val T)) (h':(o.after.toList.any fun e=>Nat.beq e.on j && Region.binds .any e) = true):Src ops m E0 prev o t T:=.inr ⟨j,h,h'⟩
def Srcs (ops:List Oper) (m:Nat) (E0:cB) (prev:List (Nat × Ob)) (o:Oper) (Ei:cB):Prop:=∀ t T,fH Ei t = some T → Src ops m E0 prev o t T
theorem Srcs.nil {ops:List Oper} {m:Nat} {E0:cB} {prev:List (Nat × Ob)} {o:Oper}:Srcs ops m E0 prev o []:=fun t T h=>by cases h
theorem Srcs.cons {ops : List Oper} {m : Nat} {E0 Ei : cB} {prev : List (Nat × Ob)} {o : Oper} {t : Nat} {T : Ty} (h : Src ops m E0 prev o t T) (k : Srcs ops m E0 prev o Ei) : Srcs ops m E0 prev o ((t, T) :: Ei) := fun u U hl => by
 rw [cM] at hl
 by_cases e:t = u
 ·subst e; rw [if_pos rfl] at hl; obtain rfl:=Option.some.inj hl; exact h
 ·rw [if_neg e] at hl; exact k u U hl
section
variable {P:Program} {R:eA} {cx:Cx} {n:Nat} {k:List It} {E:cB} {H:Hp}
def Nj : List (Nat × Ob) → Nat → Bool
 | [],_=>false
 | (_,.blk (some p) _ _ _ _) :: r,q=>Nat.beq p q || Nj r q
 | _ :: r,q=>Nj r q
theorem zG {q : Nat} : ∀ {l : List (Nat × Ob)}, Nj l q = false → ∀ {d : Nat} {kp : Bool} {γ : Type} {T : γ → Ty} {A : γ → SA}, (d, Ob.blk (some q) kp γ T A) ∈ l → False
 | [],_,_,_,_,_,_,h=>by cases h
 | (d', b) :: r, hu, d, kp, γ, T, A, h => by
  rcases List.mem_cons.1 h with e | e
  ·cases e
   simp [Nj,Nat.beq_refl] at hu
  ·refine zG (l := r) ?_ e
   cases b with
   | val T=>exact hu
   | dep t u F I=>exact hu
   | blk src kp' γ' T' A' =>
    cases src with
    | none=>exact hu
    | some p=>simp [Nj] at hu; exact hu.2
def Zt : Ob → Ty → Prop
 | .val T0,T=>T = T0
 | .blk _ _ _ T0 _,T=>∃ x,T = T0 x
 | .dep _ _ _ I,T=>I T
def vK (P : Program) (n : Nat) (ops : List Oper) (m : Nat) (E0 : cB) (H : Hp) (prev : List (Nat × Ob)) (o : Oper) : Ob → Prop
 | .val T=>∃ Ei,Srcs ops m E0 prev o Ei ∧ gH P n ops.toArray Ei H o T
 | .blk none _ γ T A=>o.guard = none ∧ ∃ Ei,Srcs ops m E0 prev o Ei ∧ gY P n Ei H o γ T A
 | .blk (some q) _ γ T A=>o.guard = none ∧ ∃ Ei t src γq Tq Aq,prev.reverse[q]? = some (t,.blk src false γq Tq Aq) ∧ (o.after.toList.any fun e=>Nat.beq e.on q && Region.binds .any e) = true ∧ Srcs ops m E0 prev o Ei ∧ (∀ x,Dq P n ((t,Tq x) :: Ei) (Aq x) o γ T A) ∧ Nj prev q = false
 | .dep t u F I => ∃ j b j' b', prev.reverse[j]? = some (t, b) ∧ (o.after.toList.any fun e => Nat.beq e.on j && Region.binds .any e) = true ∧ prev.reverse[j']? = some (u, b') ∧ (o.after.toList.any fun e => Nat.beq e.on j' && Region.binds .any e) = true ∧
   ∀ T U,Zt b T → Zt b' U → gH P n ops.toArray [(t,T),(u,U)] H o (F T U) ∧ I (F T U)
def kS (P : Program) (n : Nat) (ops : List Oper) (m : Nat) (E0 : cB) (H : Hp) : List (Nat × Ob) → Prop
 | []=>True
 | (d,b) :: prev=>(∃ o,ops[prev.length]? = some o ∧ o.dst = some d ∧ d < n ∧ vK P n ops m E0 H prev o b) ∧ kS P n ops m E0 H prev
def Dr (P : Program) (R : eA) (cx : Cx) (n : Nat) (ops : List Oper) (m : Nat) (k : List It) (E0 : cB) (H : Hp) (l : List Oper) (acc : List (Nat × Ob)) : Prop :=
 ops = (ops.take acc.length) ++ l → kS P n ops m E0 H acc → ∀ id,Tr P R cx n (.code (.region id ops.toArray true) :: k) E0 H
def Fin' (P : Program) (R : eA) (cx : Cx) (n : Nat) (ops : Array Oper) (l : List Oper) (k : List It) : List (Nat × Ob) → cB → Hp → Prop
 | [],E,H=>Rg P R cx n ops l k E H
 | (d,.val T) :: r,E,H=>Fin' P R cx n ops l k r ((d,T) :: E) H
 | (d,.blk _ true γ T A) :: r,E,H=>∀ x:γ,Fin' P R cx n ops l k r ((d,T x) :: E) (H ++ [A x])
 | (d,.blk _ false γ T A) :: r,E,H=>∀ x:γ,Fin' P R cx n ops l k r ((d,T x) :: E) H
 | (d,.dep t u F _) :: r,E,H=>∀ T U,fH E t = some T → fH E u = some U → Fin' P R cx n ops l k r ((d,F T U) :: E) H
theorem D_start {ops:List Oper} {m:Nat} {id:Nat} (h:Dr P R cx n ops m k E H ops []):Tr P R cx n (.code (.region id ops.toArray true) :: k) E H:=h (by simp) trivial id
theorem D_step {ops l : List Oper} {m : Nat} {o : Oper} {acc : List (Nat × Ob)} {d : Nat} {T : Ty} {Ei : cB} (hd : o.dst = some d) (hn : Nat.blt d n = true) (hs : Srcs ops m E acc o Ei) (hst : gH P n ops.toArray Ei H o T)
  (h:Dr P R cx n ops m k E H l ((d,.val T) :: acc)):Dr P R cx n ops m k E H (o :: l) acc:=fun hops hobs=>by
 have hlen : acc.length ≤ ops.length := by
  have:=congrArg List.length hops
  simp at this; omega
 have ho : ops[acc.length]? = some o := by
  rw [hops,List.getElem?_append_right (by simp; omega)]
  simp [Nat.min_eq_left hlen]
 have hlt:acc.length < ops.length:=(List.getElem?_eq_some_iff.1 ho).1
 refine h ?_ ⟨⟨o,ho,hd,Nat.le_of_ble_eq_true hn,Ei,hs,hst⟩,hobs⟩
 rw [List.length_cons,List.take_succ_eq_append_getElem hlt]
 have:ops[acc.length] = o:=by simpa [hlt] using ho
 rw [this]
 simpa using hops
theorem Zr (kp : Bool) {ops l : List Oper} {m : Nat} {o : Oper} {acc : List (Nat × Ob)} {d : Nat} {γ : Type} {T : γ → Ty} {A : γ → SA} {Ei : cB} (hg : o.guard = none) (hd : o.dst = some d) (hn : Nat.blt d n = true) (hs : Srcs ops m E acc o Ei) (hst : gY P n Ei H o γ T A)
  (h:Dr P R cx n ops m k E H l ((d,.blk none kp γ T A) :: acc)):Dr P R cx n ops m k E H (o :: l) acc:=fun hops hobs=>by
 have hlen : acc.length ≤ ops.length := by
  have:=congrArg List.length hops
  simp at this; omega
 have ho : ops[acc.length]? = some o := by
  rw [hops,List.getElem?_append_right (by simp; omega)]
  simp [Nat.min_eq_left hlen]
 have hlt:acc.length < ops.length:=(List.getElem?_eq_some_iff.1 ho).1
 refine h ?_ ⟨⟨o,ho,hd,Nat.le_of_ble_eq_true hn,hg,Ei,hs,hst⟩,hobs⟩
 rw [List.length_cons,List.take_succ_eq_append_getElem hlt]
 have:ops[acc.length] = o:=by simpa [hlt] using ho
 rw [this]
 simpa using hops
theorem D_new {ops l : List Oper} {m : Nat} {o : Oper} {acc : List (Nat × Ob)} {d : Nat} {γ : Type} {T : γ → Ty} {A : γ → SA} {Ei : cB} (hg : o.guard = none) (hd : o.dst = some d) (hn : Nat.blt d n = true) (hs : Srcs ops m E acc o Ei) (hst : gY P n Ei H o γ T A)
  (h:Dr P R cx n ops m k E H l ((d,.blk none true γ T A) :: acc)):Dr P R cx n ops m k E H (o :: l) acc:=Zr true hg hd hn hs hst h
def iM : Ob → Ty × SA → Prop
 | .val T,c=>c = (T,SA.emp)
 | .blk _ kp γ T A,c=>∃ x:γ,c.1 = T x ∧ (kp = true → c.2 = A x)
 | .dep _ _ _ I,c=>c.2 = SA.emp ∧ I c.1
theorem iM.fits : ∀ {b : Ob} {c : Ty × SA}, iM b c → Zt b c.1
 | .val T,c,h=>by rw [show c = (T,SA.emp) from h]; rfl
 | .blk _ _ _ _ _,c,h=>by obtain ⟨x,h1,_⟩:=h; exact ⟨x,h1⟩
 | .dep _ _ _ _,_,h=>h.2
theorem kS.get {ops : List Oper} {m : Nat} : ∀ {acc : List (Nat × Ob)}, kS P n ops m E H acc → ∀ {i : Nat} {d : Nat} {b : Ob}, acc.reverse[i]? = some (d, b) →
  ∃ o,ops[i]? = some o ∧ o.dst = some d ∧ d < n ∧ vK P n ops m E H ((acc.reverse.take i).reverse) o b
 | [],_,i,d,b,h=>by simp at h
 | (d', b') :: prev, ⟨⟨o, h1, h2, h3, h4⟩, hp⟩, i, d, b, h => by
  rw [List.reverse_cons] at h
  by_cases e:i < prev.reverse.length
  ·rw [List.getElem?_append_left e] at h
   obtain ⟨o',q1,q2,q3,q4⟩:=hp.get h
   refine ⟨o',q1,q2,q3,?_⟩
   rw [List.reverse_cons,List.take_append_of_le_length (by omega)]; exact q4
  ·have hi : i = prev.length := by
    have:=(List.getElem?_eq_some_iff.1 h).1
    simp at this e; omega
   subst hi
   rw [List.getElem?_append_right (by simp)] at h
   simp at h
   obtain ⟨rfl,rfl⟩:=h
   refine ⟨o,h1,h2,h3,?_⟩
   rw [List.reverse_cons,List.take_append_of_le_length (by simp),List.take_of_length_le (by simp),List.reverse_reverse]
   exact h4
theorem kS.len {ops : List Oper} {m : Nat} : ∀ {acc : List (Nat × Ob)}, kS P n ops m E H acc → ∀ i (h : i < acc.length), ∃ d b, acc.reverse[i]? = some (d, b) := fun {acc} _ i h =>
 ⟨_,_,by rw [List.getElem?_eq_getElem (by simpa using h)]⟩
def AtS (r : List (Nat × Ob)) (E : cB) (C : Nat → Ty × SA) (i0 i t : Nat) (T : Ty) : Prop :=
 (∃ q b,q < i ∧ r[q]? = some (t,b) ∧ T = (C (i0 + q)).1 ∧ ∀ q' d' b',q < q' → q' < i → r[q']? = some (d',b') → d' ≠ t) ∨ (fH E t = some T ∧ ∀ q' d' b',q' < i → r[q']? = some (d',b') → d' ≠ t)
theorem AtS.next {r:List (Nat × Ob)} {d0:Nat} {b0:Ob} {E:cB} {C:Nat → Ty × SA} {i0 i t:Nat} {T:Ty} (h:AtS ((d0,b0) :: r) E C i0 (i + 1) t T):AtS r ((d0,(C i0).1) :: E) C (i0 + 1) i t T:=by
 rcases h with ⟨q,b,h1,h2,h3,h4⟩ | ⟨h1,h2⟩
 ·cases q with
  | zero =>
   simp at h2
   obtain ⟨rfl,rfl⟩:=h2
   right
   refine ⟨?_,fun q' d' b' hq hr=>h4 (q' + 1) d' b' (by omega) (by omega) (by simpa using hr)⟩
   rw [cM,if_pos rfl,h3,Nat.add_zero]
  | succ q =>
   left
   refine ⟨q,b,by omega,by simpa using h2,?_,fun q' d' b' hq hq2 hr=>h4 (q' + 1) d' b' (by omega) (by omega) (by simpa using hr)⟩
   rw [h3,show i0 + (q + 1) = i0 + 1 + q by omega]
 ·right
  have h0:d0 ≠ t:=h2 0 d0 b0 (by omega) rfl
  refine ⟨?_,fun q' d' b' hq hr=>h2 (q' + 1) d' b' (by omega) (by simpa using hr)⟩
  rw [cM,if_neg h0,h1]
def Zs (r:List (Nat × Ob)) (E:cB) (C:Nat → Ty × SA) (i0:Nat):Prop:=∀ (i d t u:Nat) (F:Ty → Ty → Ty) (I:Ty → Prop),r[i]? = some (d,.dep t u F I) → ∃ T U,(C (i0 + i)).1 = F T U ∧ AtS r E C i0 i t T ∧ AtS r E C i0 i u U
theorem wD {r : List (Nat × Ob)} {d0 : Nat} {b0 : Ob} {E : cB} {C : Nat → Ty × SA} {i0 : Nat} (hG : Zs ((d0, b0) :: r) E C i0) : Zs r ((d0, (C i0).1) :: E) C (i0 + 1) := fun i d t u F I h => by
 obtain ⟨T,U,h1,h2,h3⟩:=hG (i + 1) d t u F I (by simpa using h)
 exact ⟨T,U,by rw [← h1,show i0 + (i + 1) = i0 + 1 + i by omega],h2.next,h3.next⟩
theorem iA {ops : List Oper} {l : List Oper} : ∀ (r : List (Nat × Ob)) (E : cB) (H : Hp), Fin' P R cx n ops.toArray l k r E H → ∀ (C : Nat → Ty × SA) (i0 : Nat), (∀ (i d : Nat) (b : Ob), r[i]? = some (d, b) → iM b (C (i0 + i))) → Zs r E C i0 →
  ∃ E' H', Rg P R cx n ops.toArray l k E' H' ∧ (∀ t T, fH E' t = some T → (fH E t = some T ∧ ∀ (i d : Nat) (b : Ob), r[i]? = some (d, b) → d ≠ t) ∨ ∃ (i d : Nat) (b : Ob), r[i]? = some (d, b) ∧ d = t ∧ T = (C (i0 + i)).1) ∧
   List.Sublist H' (H ++ (List.range r.length).map fun i=>(C (i0 + i)).2)
 | [],E,H,h,_,_,_,_=>⟨E,H,h,fun t T hT=>.inl ⟨hT,fun i d b hb=>by simp at hb⟩,by simp⟩
 | (d, .val T0) :: r, E, H, h, C, i0, hC, hG => by
  have h0':(C i0).1 = T0:=by rw [show C i0 = (T0,SA.emp) from hC 0 d (.val T0) rfl]
  obtain ⟨E',H',h1,h2,h3⟩:=iA r _ H h C (i0 + 1) (fun i d b hb=>by have:=hC (i + 1) d b (by simpa using hb); rwa [show i0 + (i + 1) = i0 + 1 + i by omega] at this) (by rw [← h0']; exact wD hG)
  have h0:C i0 = (T0,SA.emp):=hC 0 d (.val T0) rfl
  refine ⟨E',H',h1,fun t T hT=>?_,h3.trans ?_⟩
  ·rcases h2 t T hT with ⟨q1, q2⟩ | ⟨i, d', b, q1, q2, q3⟩
   ·rw [cM] at q1
    by_cases e:d = t
    ·rw [if_pos e] at q1; obtain rfl := Option.some.inj q1
     exact .inr ⟨0,d,_,rfl,e,by rw [Nat.add_zero,h0]⟩
    ·rw [if_neg e] at q1
     refine .inl ⟨q1,fun i d' b hb=>?_⟩
     cases i with
     | zero=>simp at hb; exact hb.1 ▸ e
     | succ i=>exact q2 i d' b (by simpa using hb)
   ·exact .inr ⟨i + 1,d',b,by simpa using q1,q2,by rw [q3,show i0 + (i + 1) = i0 + 1 + i by omega]⟩
  ·simp only [List.length_cons, List.range_succ_eq_map, List.map_cons, List.map_map]
   refine List.Sublist.append (List.Sublist.refl H) ?_
   refine List.Sublist.cons _ ?_
   have : (fun i => (C (i0 + 1 + i)).2) = ((fun i => (C (i0 + i)).2) ∘ Nat.succ) := by
    funext i; simp [show i0 + (i + 1) = i0 + 1 + i by omega]
   rw [this]; exact List.Sublist.refl _
 | (d, .dep t0 u0 F0 I0) :: r, E, H, h, C, i0, hC, hG => by
  obtain ⟨T0,U0,hF,hA,hB⟩:=hG 0 d t0 u0 F0 I0 rfl
  rw [Nat.add_zero] at hF
  have hl0 : fH E t0 = some T0 := by
   rcases hA with ⟨q,_,hq,_⟩ | ⟨h1,_⟩
   ·omega
   ·exact h1
  have hl1 : fH E u0 = some U0 := by
   rcases hB with ⟨q,_,hq,_⟩ | ⟨h1,_⟩
   ·omega
   ·exact h1
  obtain ⟨E',H',h1,h2,h3⟩:=iA r _ H (h _ _ hl0 hl1) C (i0 + 1) (fun i d b hb=>by have:=hC (i + 1) d b (by simpa using hb); rwa [show i0 + (i + 1) = i0 + 1 + i by omega] at this) (by rw [← hF]; exact wD hG)
  refine ⟨E',H',h1,fun t T hT=>?_,h3.trans ?_⟩
  ·rcases h2 t T hT with ⟨q1, q2⟩ | ⟨i, d', b, q1, q2, q3⟩
   ·rw [cM] at q1
    by_cases e:d = t
    ·rw [if_pos e] at q1; obtain rfl := Option.some.inj q1
     exact .inr ⟨0,d,_,rfl,e,by rw [Nat.add_zero,hF]⟩
    ·rw [if_neg e] at q1
     refine .inl ⟨q1,fun i d' b hb=>?_⟩
     cases i with
     | zero=>simp at hb; exact hb.1 ▸ e
     | succ i=>exact q2 i d' b (by simpa using hb)
   ·exact .inr ⟨i + 1,d',b,by simpa using q1,q2,by rw [q3,show i0 + (i + 1) = i0 + 1 + i by omega]⟩
  ·simp only [List.length_cons, List.range_succ_eq_map, List.map_cons, List.map_map]
   refine List.Sublist.append (List.Sublist.refl H) ?_
   refine List.Sublist.cons _ ?_
   have : (fun i => (C (i0 + 1 + i)).2) = ((fun i => (C (i0 + i)).2) ∘ Nat.succ) := by
    funext i; simp [show i0 + (i + 1) = i0 + 1 + i by omega]
   rw [this]; exact List.Sublist.refl _
 | (d, .blk src0 true γ T0 A0) :: r, E, H, h, C, i0, hC, hG => by
  obtain ⟨x, h0⟩ : ∃ x : γ, C i0 = (T0 x, A0 x) := by
   obtain ⟨x,q1,q2⟩:=hC 0 d (.blk src0 true γ T0 A0) rfl
   exact ⟨x,Prod.ext q1 (q2 rfl)⟩
  obtain ⟨E',H',h1,h2,h3⟩:=iA r _ _ (h x) C (i0 + 1) (fun i d b hb=>by have:=hC (i + 1) d b (by simpa using hb); rwa [show i0 + (i + 1) = i0 + 1 + i by omega] at this) (by rw [show T0 x = (C i0).1 by rw [h0]]; exact wD hG)
  refine ⟨E',H',h1,fun t T hT=>?_,h3.trans ?_⟩
  ·rcases h2 t T hT with ⟨q1, q2⟩ | ⟨i, d', b, q1, q2, q3⟩
   ·rw [cM] at q1
    by_cases e:d = t
    ·rw [if_pos e] at q1; obtain rfl := Option.some.inj q1
     exact .inr ⟨0,d,_,rfl,e,by rw [Nat.add_zero,h0]⟩
    ·rw [if_neg e] at q1
     refine .inl ⟨q1,fun i d' b hb=>?_⟩
     cases i with
     | zero=>simp at hb; exact hb.1 ▸ e
     | succ i=>exact q2 i d' b (by simpa using hb)
   ·exact .inr ⟨i + 1,d',b,by simpa using q1,q2,by rw [q3,show i0 + (i + 1) = i0 + 1 + i by omega]⟩
  ·simp only [List.length_cons, List.range_succ_eq_map, List.map_cons, List.map_map, List.append_assoc]
   refine List.Sublist.append (List.Sublist.refl H) ?_
   have : (fun i => (C (i0 + 1 + i)).2) = ((fun i => (C (i0 + i)).2) ∘ Nat.succ) := by
    funext i; simp [show i0 + (i + 1) = i0 + 1 + i by omega]
   rw [this]
   simp only [Nat.add_zero,h0]
   exact List.Sublist.refl _
 | (d, .blk src0 false γ T0 A0) :: r, E, H, h, C, i0, hC, hG => by
  obtain ⟨x,h0,_⟩:∃ x:γ,(C i0).1 = T0 x ∧ (false = true → (C i0).2 = A0 x):=hC 0 d (.blk src0 false γ T0 A0) rfl
  obtain ⟨E',H',h1,h2,h3⟩:=iA r _ H (h x) C (i0 + 1) (fun i d b hb=>by have:=hC (i + 1) d b (by simpa using hb); rwa [show i0 + (i + 1) = i0 + 1 + i by omega] at this) (by rw [← h0]; exact wD hG)
  refine ⟨E',H',h1,fun t T hT=>?_,h3.trans ?_⟩
  ·rcases h2 t T hT with ⟨q1, q2⟩ | ⟨i, d', b, q1, q2, q3⟩
   ·rw [cM] at q1
    by_cases e:d = t
    ·rw [if_pos e] at q1; obtain rfl := Option.some.inj q1
     exact .inr ⟨0,d,_,rfl,e,by rw [Nat.add_zero,h0]⟩
    ·rw [if_neg e] at q1
     refine .inl ⟨q1,fun i d' b hb=>?_⟩
     cases i with
     | zero=>simp at hb; exact hb.1 ▸ e
     | succ i=>exact q2 i d' b (by simpa using hb)
   ·exact .inr ⟨i + 1,d',b,by simpa using q1,q2,by rw [q3,show i0 + (i + 1) = i0 + 1 + i by omega]⟩
  ·simp only [List.length_cons, List.range_succ_eq_map, List.map_cons, List.map_map]
   refine List.Sublist.append (List.Sublist.refl H) ?_
   refine List.Sublist.cons _ ?_
   have : (fun i => (C (i0 + 1 + i)).2) = ((fun i => (C (i0 + i)).2) ∘ Nat.succ) := by
    funext i; simp [show i0 + (i + 1) = i0 + 1 + i by omega]
   rw [this]; exact List.Sublist.refl _
theorem kS.dst {ops:List Oper} {m:Nat} {acc:List (Nat × Ob)} (h:kS P n ops m E H acc) {i d:Nat} {b:Ob} (hi:acc.reverse[i]? = some (d,b)):eM ops i = some d:=by
 obtain ⟨o,h1,h2,_⟩:=h.get hi
 simp [eM,h1,h2]
theorem oV {ops : List Oper} {m : Nat} {acc : List (Nat × Ob)} {E0 : cB} (hd : Dn ops m) (hlen : acc.length = m) (hobs : kS P n ops m E0 H acc) (hfin : Fin' P R cx n ops.toArray (ops.drop m) k acc.reverse E0 H)
  {L:Nat → Bool} {a:Act} {w:World} {V:aO} {C:Nat → Ty × SA} (hall:∀ i,i < m → L i = true) (hC:∀ (i d:Nat) (b:Ob),acc.reverse[i]? = some (d,b) → iM b (C i)) (hP:∀ (i d t u:Nat) (F:Ty → Ty → Ty) (I:Ty → Prop),acc.reverse[i]? = some (d,.dep t u F I) → ∃ q b q' b',(q < i ∧ acc.reverse[q]? = some (t,b)) ∧ (q' < i ∧ acc.reverse[q']? = some (u,b')) ∧ (C i).1 = F (C q).1 (C q').1) (hM:rS cx n ops m E0 H L C V a w) :
  wpList P ops.toArray (den P R k) (ops.drop m) a w:=by
 obtain ⟨E', H', h1, h2, h3⟩ := iA acc.reverse E0 H hfin C 0 (fun i d b hb => by rw [Nat.zero_add]; exact hC i d b hb) (fun i d t u F I ht => by
  obtain ⟨q,b,q',b',⟨q1,q2⟩,⟨p1,p2⟩,q3⟩:=hP i d t u F I ht
  have hi:=(List.getElem?_eq_some_iff.1 ht).1
  rw [List.length_reverse,hlen] at hi
  refine ⟨(C q).1,(C q').1,by rw [Nat.zero_add]; exact q3,.inl ⟨q,b,q1,q2,by rw [Nat.zero_add],fun z d' b' h1 h2 h3 e=>?_⟩,.inl ⟨q',b',p1,p2,by rw [Nat.zero_add],fun z d' b' h1 h2 h3 e=>?_⟩⟩
  ·subst e; exact hd.dst z q (by omega) h1 _ (hobs.dst h3) (hobs.dst q2)
  ·subst e; exact hd.dst z q' (by omega) h1 _ (hobs.dst h3) (hobs.dst p2))
 refine h1 a w ⟨V,hM.inv.hp_of (fun hh=>?_),hM.df,hM.sz,fun t T hT=>?_⟩
 ·refine HH.sublist (h3.trans ?_) hh
  rw [List.length_reverse,hlen]
  have : (List.range m).map (fun i => (C (0 + i)).2) = (List.range m).map fun i => if L i then (C i).2 else SA.emp := by
   apply List.map_congr_left
   intro i hi
   rw [hall i (List.mem_range.1 hi)]; simp
  rw [this]; exact List.Sublist.refl _
 ·rcases h2 t T hT with ⟨q1, q2⟩ | ⟨i, d, b, q1, q2, q3⟩
  ·refine hM.old t T q1 (fun j hj => ?_)
   obtain ⟨d,b,hb⟩:=kS.len hobs j (by omega)
   rw [hobs.dst hb]
   intro e; exact q2 j d b hb (Option.some.inj e)
  ·have hi : i < m := by have := (List.getElem?_eq_some_iff.1 q1).1; simpa [hlen] using this
   subst q2; rw [q3,Nat.zero_add]
   exact hM.now i d hi (hall i hi) (hobs.dst q1)
theorem lF {ops : List Oper} {m : Nat} {acc : List (Nat × Ob)} {E0 : cB} (hd : Dn ops m) (hlen : acc.length = m) (hobs : kS P n ops m E0 H acc) (hfin : Fin' P R cx n ops.toArray (ops.drop m) k acc.reverse E0 H) :
  ∀ (fuel : Nat) (listed : Array Bool) (a : Act) (w : World) (V : aO) (C : Nat → Ty × SA), LI ops listed → gP listed.toList ≤ fuel → (∀ i : Nat, m ≤ i → i < ops.length → listed[i]? = some false) →
   (∀ (i d:Nat) (b:Ob),acc.reverse[i]? = some (d,b) → listed[i]? = some true → iM b (C i)) → (∀ (i d t u:Nat) (F:Ty → Ty → Ty) (I:Ty → Prop),acc.reverse[i]? = some (d,.dep t u F I) → listed[i]? = some true → ∃ q b q' b',(q < i ∧ acc.reverse[q]? = some (t,b) ∧ listed[q]? = some true) ∧ (q' < i ∧ acc.reverse[q']? = some (u,b') ∧ listed[q']? = some true) ∧ (C i).1 = F (C q).1 (C q').1) → (∀ (i d:Nat) (src:Option Nat) (γ:Type) (T:γ → Ty) (A:γ → SA),acc.reverse[i]? = some (d,.blk src false γ T A) → listed[i]? = some true → (∀ (j d':Nat) (kp:Bool) (γ':Type) (T':γ' → Ty) (A':γ' → SA),acc.reverse[j]? = some (d',.blk (some i) kp γ' T' A') → listed[j]? = some false) → ∃ x:γ,C i = (T x,A x)) → rS cx n ops m E0 H (fun i=>listed[i]? == some true) C V a w → wpAny P .any ops.toArray (den P R k) fuel listed a w:=by
 intro fuel
 have done : ∀ (listed : Array Bool) (a : Act) (w : World) (V : aO) (C : Nat → Ty × SA), LI ops listed → ∀ fuel, gP listed.toList ≤ fuel → (∀ i : Nat, m ≤ i → i < ops.length → listed[i]? = some false) →
   (∀ (i d:Nat) (b:Ob),acc.reverse[i]? = some (d,b) → listed[i]? = some true → iM b (C i)) → (∀ (i d t u:Nat) (F:Ty → Ty → Ty) (I:Ty → Prop),acc.reverse[i]? = some (d,.dep t u F I) → listed[i]? = some true → ∃ q b q' b',(q < i ∧ acc.reverse[q]? = some (t,b) ∧ listed[q]? = some true) ∧ (q' < i ∧ acc.reverse[q']? = some (u,b') ∧ listed[q']? = some true) ∧ (C i).1 = F (C q).1 (C q').1) → rS cx n ops m E0 H (fun i=>listed[i]? == some true) C V a w → (∀ i:Nat,i < m → listed[i]? = some true) → wpAny P .any ops.toArray (den P R k) fuel listed a w:=by
  intro listed a w V C hL fuel hc hl hC hP hM hall
  have hge:=vS listed.toList m (by simpa [hL.sz] using hd.le) (fun i h1 h2=>by simpa using hl i h1 (by simpa [hL.sz] using h2))
  refine oJ hd fuel m listed a w (Nat.le_refl m) hd.le (by simp [hL.sz] at hge; omega) hL (fun i hi=>?_) ?_
  ·by_cases e : i < m
   ·rw [hall i e]; simp [e]
   ·rw [hl i (by omega) hi]; simp; omega
  ·refine oV hd hlen hobs hfin (fun i hi => by rw [hall i hi]; rfl) (fun i d b hb => hC i d b hb (hall i ?_)) (fun i d t u F I ht => by
    obtain ⟨q,b,q',b',⟨q1,q2,_⟩,⟨p1,p2,_⟩,q3⟩:=hP i d t u F I ht (hall i (by have:=(List.getElem?_eq_some_iff.1 ht).1; simpa [hlen] using this))
    exact ⟨q,b,q',b',⟨q1,q2⟩,⟨p1,p2⟩,q3⟩) hM
   have:=(List.getElem?_eq_some_iff.1 hb).1
   simpa [hlen] using this
 induction fuel with
 | zero =>
  intro listed a w V C hL hc hl hC hP hA hM
  refine done listed a w V C hL 0 hc hl hC hP hM (fun i hi=>?_)
  have hil:i < listed.size:=by rw [hL.sz]; have:=hd.le; omega
  cases hb:listed[i] with
  | true=>simp [hil,hb]
  | false =>
   have:=oA listed.toList i (by simp [hil,hb])
   omega
 | succ fuel ih =>
  intro listed a w V C hL hc hl hC hP hA hM
  by_cases hall:∀ i:Nat,i < m → listed[i]? = some true
  ·exact done listed a w V C hL _ hc hl hC hP hM hall
  refine ⟨fun hr=>absurd (fun i hi=>mQ hr hL.sz hd.back i (by have:=hd.le; omega)) hall,fun i hi=>?_⟩
  obtain ⟨o,h1,h2,h3⟩:=lB hi hL.sz
  have him : i < m := by
   rcases Nat.lt_or_ge i m with hx | hx
   ·exact hx
   ·exact absurd (fun j hj=>hL.before hd h1 h3 hx j (by omega)) hall
  obtain ⟨d,b,hb⟩:=kS.len hobs i (by omega)
  obtain ⟨o',q1,q2,q3,q4⟩:=hobs.get hb
  rw [h1] at q1; obtain rfl:=Option.some.inj q1
  have hdst:=hobs.dst hb
  have slots : ∀ Ei, Srcs ops m E0 (acc.reverse.take i).reverse o Ei → dA n Ei V a := fun Ei hS => by
   refine ⟨hM.df,hM.sz,fun t T hT=>?_⟩
   rcases hS t T hT with ⟨r1,r2⟩ | ⟨j,r1,r2⟩
   ·refine hM.old t T r1 (fun j hj e => ?_)
    have:=List.all_eq_true.1 r2 j (List.mem_range.2 hj)
    simp [e] at this
   ·rw [List.reverse_reverse, List.getElem?_take] at r1
    split at r1
    case isFalse=>cases r1
    case isTrue hji =>
    obtain ⟨e,he,hb'⟩:=List.any_eq_true.1 r2
    simp only [Bool.and_eq_true] at hb'
    have hon:e.on = j:=Nat.eq_of_beq_eq_true hb'.1
    have hlj:=h3 e he hb'.2
    rw [hon] at hlj
    have hc':C j = (T,SA.emp):=hC j t (.val T) r1 hlj
    obtain ⟨v,s1,s2⟩:=hM.now j t (by omega) (by rw [hlj]; rfl) (hobs.dst r1)
    exact ⟨v,s1,by rw [hc'] at s2; exact s2⟩
  have hcnt : gP (listed.setIfInBounds i true).toList ≤ fuel := by
   have:=oB listed.toList i (by simpa using h2)
   rw [Array.toList_setIfInBounds]; omega
  have hl' : ∀ j : Nat, m ≤ j → j < ops.length → (listed.setIfInBounds i true)[j]? = some false := fun j hj hjl => by
   rw [Array.getElem?_setIfInBounds_ne (by omega)]; exact hl j hj hjl
  have took : ∀ (C : Nat → Ty × SA), (∀ (i d : Nat) (b : Ob), acc.reverse[i]? = some (d, b) → listed[i]? = some true → iM b (C i)) → ∀ (T : Ty) (A : SA), iM b (T, A) → ∀ (j d : Nat) (b : Ob), acc.reverse[j]? = some (d, b) → (listed.setIfInBounds i true)[j]? = some true → iM b (if j = i then (T, A) else C j) := fun C hC T A ht j d' b' hb' hj => by
   by_cases e:j = i
   ·subst e
    rw [hb] at hb'; simp at hb'
    simp only [if_pos]; exact hb'.2 ▸ ht
   ·rw [Array.getElem?_setIfInBounds_ne (fun x => e x.symm)] at hj
    simp only [if_neg e]; exact hC j d' b' hb' hj
  have keepP : ∀ (C : Nat → Ty × SA), (∀ (i d t u : Nat) (F : Ty → Ty → Ty) (I : Ty → Prop), acc.reverse[i]? = some (d, .dep t u F I) → listed[i]? = some true → ∃ q b q' b', (q < i ∧ acc.reverse[q]? = some (t, b) ∧ listed[q]? = some true) ∧ (q' < i ∧ acc.reverse[q']? = some (u, b') ∧ listed[q']? = some true) ∧ (C i).1 = F (C q).1 (C q').1) → ∀ (T : Ty) (A : SA), (∀ t u F I, b = .dep t u F I → ∃ q b' q' b'', (q < i ∧ acc.reverse[q]? = some (t, b') ∧ listed[q]? = some true) ∧ (q' < i ∧ acc.reverse[q']? = some (u, b'') ∧ listed[q']? = some true) ∧ T = F (C q).1 (C q').1) →
    ∀ (j d t u:Nat) (F:Ty → Ty → Ty) (I:Ty → Prop),acc.reverse[j]? = some (d,.dep t u F I) → (listed.setIfInBounds i true)[j]? = some true → ∃ q b q' b',(q < j ∧ acc.reverse[q]? = some (t,b) ∧ (listed.setIfInBounds i true)[q]? = some true) ∧ (q' < j ∧ acc.reverse[q']? = some (u,b') ∧ (listed.setIfInBounds i true)[q']? = some true) ∧ (if j = i then (T,A) else C j).1 = F (if q = i then (T,A) else C q).1 (if q' = i then (T,A) else C q').1:=fun C hP T A hT j d' t u F I hj hlj=>by
   have nei:∀ q,listed[q]? = some true → q ≠ i:=fun q h e=>by rw [e,h2] at h; cases h
   have up:∀ q,listed[q]? = some true → (listed.setIfInBounds i true)[q]? = some true:=fun q h=>by rw [Array.getElem?_setIfInBounds_ne (fun x=>nei q h x.symm)]; exact h
   by_cases e:j = i
   ·subst e
    rw [hb] at hj; simp at hj
    obtain ⟨q,b',q',b'',⟨e1,e2,e3⟩,⟨g1,g2,g3⟩,e4⟩:=hT t u F I hj.2
    exact ⟨q,b',q',b'',⟨e1,e2,up q e3⟩,⟨g1,g2,up q' g3⟩,by rw [if_pos rfl,if_neg (nei q e3),if_neg (nei q' g3)]; exact e4⟩
   ·rw [Array.getElem?_setIfInBounds_ne (fun x => e x.symm)] at hlj
    obtain ⟨q,b',q',b'',⟨e1,e2,e3⟩,⟨g1,g2,g3⟩,e4⟩:=hP j d' t u F I hj hlj
    exact ⟨q,b',q',b'',⟨e1,e2,up q e3⟩,⟨g1,g2,up q' g3⟩,by rw [if_neg e,if_neg (nei q e3),if_neg (nei q' g3)]; exact e4⟩
  have keepA : ∀ (C' : Nat → Ty × SA), (∀ j, j ≠ i → (∀ (d' : Nat) (kp : Bool) (γ' : Type) (T' : γ' → Ty) (A' : γ' → SA), acc.reverse[i]? = some (d', .blk (some j) kp γ' T' A') → False) → C' j = C j) → ∀ (T : Ty) (A : SA), (∀ src γ T' A', b = .blk src false γ T' A' → ∃ x, (T, A) = (T' x, A' x)) →
    ∀ (j d:Nat) (src:Option Nat) (γ:Type) (T':γ → Ty) (A':γ → SA),acc.reverse[j]? = some (d,.blk src false γ T' A') → (listed.setIfInBounds i true)[j]? = some true → (∀ (j' d':Nat) (kp:Bool) (γ':Type) (T':γ' → Ty) (A':γ' → SA),acc.reverse[j']? = some (d',.blk (some j) kp γ' T' A') → (listed.setIfInBounds i true)[j']? = some false) → ∃ x:γ,(if j = i then (T,A) else C' j) = (T' x,A' x):=fun C' hC' T A hT j d' src γ T' A' hj hlj hun=>by
   by_cases e:j = i
   ·subst e
    rw [hb] at hj; simp at hj
    simp only [if_pos]; exact hT src γ T' A' hj.2
   ·rw [Array.getElem?_setIfInBounds_ne (fun x => e x.symm)] at hlj
    have hil:i < listed.size:=(Array.getElem?_eq_some_iff.1 h2).1
    have hne : ∀ (j' d' : Nat) (kp : Bool) (γ' : Type) (T' : γ' → Ty) (A' : γ' → SA), acc.reverse[j']? = some (d', .blk (some j) kp γ' T' A') → j' ≠ i := fun j' d' kp γ' T' A' q1 q2 => by
     have:=hun j' d' kp γ' T' A' q1
     rw [q2,Array.getElem?_setIfInBounds_self_of_lt hil] at this
     cases this
    rw [if_neg e,hC' j e (fun d' kp γ' T' A' q=>hne i d' kp γ' T' A' q rfl)]
    refine hA j d' src γ T' A' hj hlj (fun j' d' kp γ' T' A' q=>?_)
    have:=hun j' d' kp γ' T' A' q
    rwa [Array.getElem?_setIfInBounds_ne (fun x=>hne j' d' kp γ' T' A' q x.symm)] at this
  have hx : ((List.range m).map fun i => if (listed[i]? == some true) = true then (C i).2 else SA.emp).set i SA.emp = (List.range m).map fun i => if (listed[i]? == some true) = true then (C i).2 else SA.emp := by
   rw [lI him]
   apply List.map_congr_left
   intro j _
   by_cases e:j = i
   ·subst e; simp [h2]
   ·simp [e]
  unfold wpOp
  simp only [List.getElem?_toArray,h1]
  cases b with
  | val T =>
   obtain ⟨Ei,hS,hst⟩:=q4
   have := hst cx _ a w V hM.inv (slots Ei hS) (wpAny P .any ops.toArray (den P R k) fuel (listed.setIfInBounds i true)) (den P R k) (fun v w' V' hi' hle hv => by
    rw [q2]
    exact ih _ _ _ V' _ (hL.set h1 h3) hcnt hl' (took C hC T SA.emp rfl) (keepP C hP T SA.emp (fun t u F I e=>by cases e)) (keepA C (fun _ _ _=>rfl) T SA.emp (fun src γ T' A' e=>by cases e)) (hM.next hd hL.sz him hdst q3 h2 hv hle (by rw [hx]; exact hi')))
   split
   ·rename_i hw; rw [if_pos hw] at this; exact .inl this
   ·rename_i hw; rw [if_neg hw] at this; exact this
  | blk src kp γ T A =>
   cases src with
   | none =>
    obtain ⟨hg,Ei,hS,hst⟩:=q4
    rw [if_pos (by simp [Region.wanted,hg])]
    left
    refine hst cx _ a w V hM.inv (slots Ei hS) _ _ fun x v w' V' e3 hle e2=>?_
    rw [q2]
    refine ih _ _ _ V' _ (hL.set h1 h3) hcnt hl' (took C hC (T x) (A x) ⟨x,rfl,fun _=>rfl⟩) (keepP C hP (T x) (A x) (fun t u F I e=>by cases e)) (keepA C (fun _ _ _=>rfl) (T x) (A x) (fun src γ T' A' e=>by cases e; exact ⟨x,rfl⟩)) (hM.next hd hL.sz him hdst q3 h2 e2 hle (e3.hp_of (fun hh=>?_)))
    have:=HH.move (p:=H.length + i) hh (by simp; omega)
    rw [List.set_append_right _ _ (by omega),show H.length + i - H.length = i by omega] at this
    exact this
   | some q =>
    obtain ⟨hg,Ei,t,src,γq,Tq,Aq,r1,r2,hS,hst,hu⟩:=q4
    rw [List.reverse_reverse,List.getElem?_take] at r1
    split at r1
    case isFalse=>cases r1
    case isTrue hqi =>
    obtain ⟨e,he,hb'⟩:=List.any_eq_true.1 r2
    simp only [Bool.and_eq_true] at hb'
    have hon:e.on = q:=Nat.eq_of_beq_eq_true hb'.1
    have hlq:=h3 e he hb'.2
    rw [hon] at hlq
    have hqm:q < m:=by omega
    obtain ⟨x, hx⟩ := hA q t src γq Tq Aq r1 hlq (fun j d' kp' γ' T' A' hj => by
     by_cases e:j = i
     ·rw [e]; exact h2
     rcases Nat.lt_or_ge j i with hji | hji
     ·exfalso
      have hmem : (d', Ob.blk (some q) kp' γ' T' A') ∈ (acc.reverse.take i) := by
       refine List.mem_of_getElem? (i:=j) ?_
       rw [List.getElem?_take,if_pos hji]; exact hj
      exact zG hu (by simpa using hmem)
     ·exfalso
      obtain ⟨o',_,_,_,z4⟩:=hobs.get hj
      obtain ⟨_,_,_,_,_,_,_,_,_,_,_,hu'⟩:=z4
      have hmem : (d, Ob.blk (some q) kp γ T A) ∈ (acc.reverse.take j) := by
       refine List.mem_of_getElem? (i:=i) ?_
       rw [List.getElem?_take,if_pos (by omega)]; exact hb
      exact zG hu' (by simpa using hmem))
    have hentry : (H ++ (List.range m).map fun i => if (listed[i]? == some true) = true then (C i).2 else SA.emp)[H.length + q]? = some (Aq x) := by
     rw [List.getElem?_append_right (by omega),show H.length + q - H.length = q by omega,List.getElem?_map,List.getElem?_range hqm]
     simp [hlq,hx]
    obtain ⟨v0,s1,s2⟩:=hM.now q t (by omega) (by rw [hlq]; rfl) (hobs.dst r1)
    rw [hx] at s2
    have hsl : dA n ((t, Tq x) :: Ei) V a := by
     have hs0:=slots Ei hS
     refine ⟨hs0.1,hs0.2.1,fun u U hU=>?_⟩
     rw [cM] at hU
     by_cases e:t = u
     ·rw [if_pos e] at hU; obtain rfl:=Option.some.inj hU; subst e; exact ⟨v0,s1,s2⟩
     ·rw [if_neg e] at hU; exact hs0.2.2 u U hU
    obtain ⟨y,v,w',e1,e2,e3⟩:=Yq (hst x) hM.inv hentry hsl
    rw [if_pos (by simp [Region.wanted,hg])]
    left
    simp only [Oper.wp,e1,Oper.upon_value,q2]
    obtain ⟨C1,hC1⟩:∃ C1:Nat → Ty × SA,C1 = fun j=>if j = q then ((C q).1,SA.emp) else C j:=⟨_,rfl⟩
    have hC1t : ∀ j, (C1 j).1 = (C j).1 := fun j => by
     rw [hC1]; by_cases e:j = q
     ·simp [e]
     ·simp [e]
    have hset : ((List.range m).map fun i => if (listed[i]? == some true) = true then (C1 i).2 else SA.emp) = ((List.range m).map fun i => if (listed[i]? == some true) = true then (C i).2 else SA.emp).set q SA.emp := by
     rw [lI hqm]
     apply List.map_congr_left
     intro j _
     by_cases e:j = q
     ·subst e; rw [hC1]; simp
     ·rw [hC1]; simp [e]
    have hM1 : rS cx n ops m E0 H (fun i => listed[i]? == some true) C1 V a w := by
     refine ⟨hM.inv.hp_of (fun hh=>?_),hM.df,hM.sz,hM.old,fun j d hj hL hd=>by rw [hC1t]; exact hM.now j d hj hL hd⟩
     rw [hset]
     have h5:=HH.last hh hentry
     rw [List.set_append_right _ _ (by omega),show H.length + q - H.length = q by omega] at h5
     exact HH.sublist (List.sublist_append_left _ _) h5
    refine ih _ _ _ V _ (hL.set h1 h3) hcnt hl' (took C1 (fun j d' b' hj hlj=>?_) (T y) (A y) ⟨y,rfl,fun _=>rfl⟩) (keepP C1 (fun j d' t' u' F' I' hj hlj=>?_) (T y) (A y) (fun t u F I e=>by cases e)) (keepA C1 (fun j hji hj=>?_) (T y) (A y) (fun src γ T' A' e=>by cases e; exact ⟨y,rfl⟩)) (hM1.next hd hL.sz him hdst q3 h2 e2 (kC.refl V) (e3.hp_of (fun hh=>?_)))
    ·by_cases e : j = q
     ·subst e
      rw [r1] at hj; simp at hj
      obtain ⟨_,rfl⟩:=hj
      exact ⟨x,by rw [hC1t,hx],fun e=>by cases e⟩
     ·have := hC j d' b' hj hlj
      rw [hC1]; simp only [if_neg e]; exact this
    ·obtain ⟨q', b', q'', b'', z1, z2, z4⟩ := hP j d' t' u' F' I' hj hlj
     exact ⟨q',b',q'',b'',z1,z2,by rw [hC1t,hC1t,hC1t]; exact z4⟩
    ·have : j ≠ q := fun e => hj d kp γ T A (by rw [e]; exact hb)
     rw [hC1]; simp [this]
    ·rw [hset]
     have hlen2:H.length + q < (H ++ (List.range m).map fun i=>if (listed[i]? == some true) = true then (C i).2 else SA.emp).length:=(List.getElem?_eq_some_iff.1 hentry).1
     have h5:=HH.last (i:=H.length + q) (A:=A y) hh (by rw [List.getElem?_set_self hlen2])
     rw [List.set_set,List.set_append_right _ _ (by omega),show H.length + q - H.length = q by omega] at h5
     have h6:=HH.move (p:=H.length + i) h5 (by simp; omega)
     rw [List.set_append_right _ _ (by omega),show H.length + i - H.length = i by omega] at h6
     exact h6
  | dep t u F I =>
   obtain ⟨q,b',q',b'',r1,r2,p1,p2,hst⟩:=q4
   have src : ∀ (q t : Nat) (b' : Ob), (acc.reverse.take i).reverse.reverse[q]? = some (t, b') → (o.after.toList.any fun e => Nat.beq e.on q && Region.binds .any e) = true → q < i ∧ acc.reverse[q]? = some (t, b') ∧ listed[q]? = some true := fun q t b' r1 r2 => by
    rw [List.reverse_reverse,List.getElem?_take] at r1
    split at r1
    case isFalse=>cases r1
    case isTrue hji =>
    obtain ⟨e,he,hb'⟩:=List.any_eq_true.1 r2
    simp only [Bool.and_eq_true] at hb'
    have hon:e.on = q:=Nat.eq_of_beq_eq_true hb'.1
    have hlj:=h3 e he hb'.2
    rw [hon] at hlj
    exact ⟨hji,r1,hlj⟩
   obtain ⟨a1,a2,a3⟩:=src q t b' r1 r2
   obtain ⟨c1,c2,c3⟩:=src q' u b'' p1 p2
   obtain ⟨v1,s1,s2⟩:=hM.now q t (by omega) (by rw [a3]; rfl) (hobs.dst a2)
   obtain ⟨v2,s3,s4⟩:=hM.now q' u (by omega) (by rw [c3]; rfl) (hobs.dst c2)
   have hsl : dA n [(t, (C q).1), (u, (C q').1)] V a := by
    refine ⟨hM.df,hM.sz,fun z Z hz=>?_⟩
    rw [cM] at hz
    by_cases e:t = z
    ·rw [if_pos e] at hz; obtain rfl:=Option.some.inj hz; subst e; exact ⟨v1,s1,s2⟩
    ·rw [if_neg e, cM] at hz
     by_cases e2:u = z
     ·rw [if_pos e2] at hz; obtain rfl:=Option.some.inj hz; subst e2; exact ⟨v2,s3,s4⟩
     ·rw [if_neg e2] at hz; cases hz
   obtain ⟨hst,hI⟩:=hst _ _ (hC q t b' a2 a3).fits (hC q' u b'' c2 c3).fits
   have := hst cx _ a w V hM.inv hsl (wpAny P .any ops.toArray (den P R k) fuel (listed.setIfInBounds i true)) (den P R k) (fun v w' V' hi' hle hv => by
    rw [q2]
    exact ih _ _ _ V' _ (hL.set h1 h3) hcnt hl' (took C hC (F (C q).1 (C q').1) SA.emp ⟨rfl, hI⟩) (keepP C hP (F (C q).1 (C q').1) SA.emp (fun t' u' F' I' e => by
     cases e; exact ⟨q,b',q',b'',⟨a1,a2,a3⟩,⟨c1,c2,c3⟩,rfl⟩)) (keepA C (fun _ _ _=>rfl) (F (C q).1 (C q').1) SA.emp (fun src γ T' A' e=>by cases e)) (hM.next hd hL.sz him hdst q3 h2 hv hle (by rw [hx]; exact hi')))
   split
   ·rename_i hw; rw [if_pos hw] at this; exact .inl this
   ·rename_i hw; rw [if_neg hw] at this; exact this
theorem D_done {ops l : List Oper} {m : Nat} {acc : List (Nat × Ob)} (hP : P.follows .mixedOrders = true) (hm : acc.length = m) (hchk : rX ops m = true) (h : Fin' P R cx n ops.toArray l k acc.reverse E H) : Dr P R cx n ops m k E H l acc := fun hops hobs id a w ⟨V, hi, hs⟩ => by
 have hd:=Dn.of hchk
 have hl : ops.drop m = l := by
  conv=>lhs; rw [hops]
  rw [List.drop_append,List.drop_of_length_le (by simp; omega)]
  simp [hm,Nat.min_eq_left hd.le]
 refine wp_region_any hP ?_
 have hnone : ∀ i : Nat, (Array.replicate ops.toArray.size false)[i]? ≠ some true := fun i h => by
  rw [Array.getElem?_replicate] at h; split at h <;> simp at h
 refine lF (cx:=cx) (n:=n) (E0:=E) (H:=H) hd hm hobs (by rw [hl]; exact h) _ _ a _ V (fun _=>(mA,SA.emp)) ⟨by simp,fun i o ho h=>absurd h (hnone i)⟩ ?_ (fun i h1 h2=>by simp [h2]) (fun i d b _ h=>absurd h (hnone i)) (fun i d t u F I _ h=>absurd h (hnone i)) (fun i _ _ _ _ _ _ h=>absurd h (hnone i)) ?_
 ·have : ∀ j, gP (List.replicate j false) ≤ j := fun j => by
   induction j with
   | zero=>simp [gP]
   | succ j ih=>simp only [List.replicate_succ,gP]; simp; omega
  simpa using this _
 ·refine ⟨?_, hs.1, hs.2.1, fun t T hT _ => hs.2.2 t T hT, fun j d hj hL => ?_⟩
  ·have e : ((List.range m).map fun i => if ((Array.replicate ops.toArray.size false)[i]? == some true) = true then ((fun _ => (mA, SA.emp)) i : Ty × SA).2 else SA.emp) = (List.range m).map fun _ => SA.emp := by
    apply List.map_congr_left; intro i _; split <;> rfl
   rw [e]
   have:=hi.drew
   refine this.hp_of (fun hh=>?_)
   obtain ⟨F,f1,f2⟩:=hh
   refine ⟨fun i=>if i < H.length then F i else [],fun i A hA=>?_,fun i j b hi hj hbi hbj=>?_⟩
   ·by_cases e : i < H.length
    ·rw [List.getElem?_append_left e] at hA
     simp only [if_pos e]; exact f1 i A hA
    ·rw [List.getElem?_append_right (by omega)] at hA
     have : A = SA.emp := by
      rw [List.getElem?_map] at hA
      cases hq:(List.range m)[i - H.length]? with
      | none=>rw [hq] at hA; cases hA
      | some q=>rw [hq] at hA; simpa using hA.symm
     subst this
     simp only [if_neg e]
     exact ⟨rfl,fun b hb=>by simp at hb⟩
   ·by_cases e : i < H.length <;> by_cases e' : j < H.length
    ·simp only [if_pos e,if_pos e'] at hbi hbj; exact f2 i j b e e' hbi hbj
    ·simp [e'] at hbj
    ·simp [e] at hbi
    ·simp [e] at hbi
  ·exact absurd (by simpa using hL) (hnone j)
theorem F_nil {ops:Array Oper} {l:List Oper} (h:Rg P R cx n ops l k E H):Fin' P R cx n ops l k [] E H:=h
theorem F_val {ops:Array Oper} {l:List Oper} {d:Nat} {T:Ty} {r:List (Nat × Ob)} (h:Fin' P R cx n ops l k r ((d,T) :: E) H):Fin' P R cx n ops l k ((d,.val T) :: r) E H:=h
theorem F_new {ops:Array Oper} {l:List Oper} {d:Nat} {src:Option Nat} {γ:Type} {T:γ → Ty} {A:γ → SA} {r:List (Nat × Ob)} (h:∀ x:γ,Fin' P R cx n ops l k r ((d,T x) :: E) (H ++ [A x])):Fin' P R cx n ops l k ((d,.blk src true γ T A) :: r) E H:=h
end
end C
section
variable {P:Program} {n:Nat} {E:cB} {t:TypeId} {pos:String} {af:Array Edge}
end
end
section
open Go Go.RowKit
section
variable {P:Program} {R:eA} {cx:Cx} {n:Nat} {k:List It} {E:cB} {H:Hp} {ops:Array Oper} {rest:List Oper} {o:Oper}
theorem Ht {t:Nat} {T:Ty} (h:fH E t = some T):aA E (.tmp t) T:=aA.t h
theorem ro {T:Ty} {d:Nat} (h0:(o.guard,o.dst,Nat.blt d n) = (none,some d,true)) (hs:aM P n E H o T) (h:Rg P R cx n ops rest k ((d,T) :: E) H):Rg P R cx n ops (o :: rest) k E H:=by
 simp only [Prod.mk.injEq] at h0
 exact aB h0.1 h0.2.1 h0.2.2 hs h
theorem rm {T:Ty} {d x:Nat} {t:TypeId} {pos:String} {af:Array Edge} (h0:(Nat.blt d n,fH E x) = (true,some T)) (h:Rg P R cx n ops rest k ((d,T) :: E) H):Rg P R cx n ops (⟨some d,.move (.tmp x),t,pos,af,none⟩ :: rest) k E H:=by
 simp only [Prod.mk.injEq] at h0
 exact aB rfl rfl h0.1 (Km (aA.t h0.2)) h
theorem ra {T:Ty} {d x:Nat} {t:TypeId} {pos:String} {af:Array Edge} (h0:(Nat.blt d n,fH E x) = (true,some T)) (h:Rg P R cx n ops rest k ((d,T) :: E) H):Rg P R cx n ops (⟨some d,.assign (.tmp x),t,pos,af,none⟩ :: rest) k E H:=by
 simp only [Prod.mk.injEq] at h0
 exact aB rfl rfl h0.1 (Aw (aA.t h0.2)) h
theorem rn {γ:Type} {T:γ → Ty} {A:γ → SA} {d:Nat} (h0:(o.guard,o.dst,Nat.blt d n) = (none,some d,true)) (hop:gY P n E H o γ T A) (h:∀ x,Rg P R cx n ops rest k ((d,T x) :: E) (H ++ [A x])):Rg P R cx n ops (o :: rest) k E H:=by
 simp only [Prod.mk.injEq] at h0
 exact dH h0.1 h0.2.1 h0.2.2 hop h
theorem ts {y:Code} {id:Nat} {l:List Oper} (h:Rg P R cx n l.toArray l (.code y :: k) E H):Tr P R cx n (.code (.seq (.region id l.toArray false) y) :: k) E H:=T_seq (T_region h)
end
section
variable {P:Program} {R:eA} {cx:Cx} {n:Nat} {k:List It} {E:cB} {H:Hp} {ops l:List Oper} {m:Nat} {o:Oper} {acc:List (Nat × C.Ob)} {d:Nat} {T U V:Ty}
theorem d0 (h0:(o.dst,Nat.blt d n,o.guard) = (some d,true,none)) (hs:aM P n [] H o T) (h:C.Dr P R cx n ops m k E H l ((d,.val T) :: acc)):C.Dr P R cx n ops m k E H (o :: l) acc:=by
 simp only [Prod.mk.injEq] at h0
 exact C.D_step h0.1 h0.2.1 C.Srcs.nil (qL h0.2.2 hs) h
theorem dp (t : Nat) (h0 : (o.dst, Nat.blt d n, fH E t, ((List.range m).all fun j => !(eM ops j == some t)), o.guard) = (some d, true, some U, true, none)) (hs : aM P n [(t, U)] H o T)
  (h:C.Dr P R cx n ops m k E H l ((d,.val T) :: acc)):C.Dr P R cx n ops m k E H (o :: l) acc:=by
 simp only [Prod.mk.injEq] at h0
 exact C.D_step h0.1 h0.2.1 (C.Srcs.cons (C.Src.pre h0.2.2.1 h0.2.2.2.1) C.Srcs.nil) (qL h0.2.2.2.2 hs) h
theorem dq (t j : Nat) (h0 : (o.dst, Nat.blt d n, acc.reverse[j]?, (o.after.toList.any fun e => Nat.beq e.on j && Region.binds .any e), o.guard) = (some d, true, some (t, C.Ob.val U), true, none)) (hs : aM P n [(t, U)] H o T)
  (h:C.Dr P R cx n ops m k E H l ((d,.val T) :: acc)):C.Dr P R cx n ops m k E H (o :: l) acc:=by
 simp only [Prod.mk.injEq] at h0
 exact C.D_step h0.1 h0.2.1 (C.Srcs.cons (C.Src.op j h0.2.2.1 h0.2.2.2.1) C.Srcs.nil) (qL h0.2.2.2.2 hs) h
theorem eD (t i u j : Nat) (h0 : (o.dst, Nat.blt d n, acc.reverse[i]?, (o.after.toList.any fun e => Nat.beq e.on i && Region.binds .any e), acc.reverse[j]?, (o.after.toList.any fun e => Nat.beq e.on j && Region.binds .any e), o.guard) = (some d, true, some (t, C.Ob.val U), true, some (u, C.Ob.val V), true, none)) (hs : aM P n [(t, U), (u, V)] H o T)
  (h:C.Dr P R cx n ops m k E H l ((d,.val T) :: acc)):C.Dr P R cx n ops m k E H (o :: l) acc:=by
 simp only [Prod.mk.injEq] at h0
 obtain ⟨a,b,c,e,f,g,q⟩:=h0
 exact C.D_step a b (C.Srcs.cons (C.Src.op i c e) (C.Srcs.cons (C.Src.op j f g) C.Srcs.nil)) (qL q hs) h
end
end
section
open Go Go.RowKit
section
variable {P:Program} {n:Nat} {E:cB} {H:Hp}
variable {d:Option Tmp} {t:TypeId} {pos:String} {af:Array Edge} {g:Option (Nat × Bool)}
theorem Mq {x : Operand} {m e s : Nat} {i : TypeInfo} {z : Value} {kd : IntKind} {j : Int} {T : Ty} (ht : P.underlying t = some (.slice e)) (hi : P.info? e = some i) (hz : i.zero = some z) (hs : i.size = s)
  (hx:aA E x (aF kd j)) (hj:j = (m:Int)) (hT:∀ V,T.p z V) (hEl:El s T) (hb:i.bytes * m ≤ 281474976710656) (hm:m ≤ 9223372036854775807) {t':TypeId} :
  gY P n E H ⟨d,.makeSlice t x x,t',pos,af,g⟩ Nat (fun b=>Is (.slice (some ⟨b,0,none⟩) m m)) (fun b=>bN e s (.slice (some ⟨b,0,none⟩) m m) (List.replicate m T)):=gY.of fun cx X a w V hi' hsl=>by
 have ex:a.eval x = .int kd j:=hx n V a hsl
 subst hj hs
 have hb' : (i.bytes : Int) * (m : Int) ≤ 281474976710656 := by
  have h:((i.bytes * m:Nat):Int) ≤ 281474976710656:=by omega
  rwa [Int.natCast_mul] at h
 have hr:=run_make (P:=P) w t e i z ht hi hz kd kd m m (by omega) (Int.le_refl _) hb' (by omega)
 simp only [Int.toNat_natCast] at hr
 have hzs:z.cells.size = i.size:=hEl.size z V (hT V)
 have hfl:=pY hzs m
 have hsz:∀ x,x ∈ List.replicate m z → x.cells.size = i.size:=fun x hx=>by rw [(List.mem_replicate.1 hx).2]; exact hzs
 refine ⟨w.heap.size,_,_,?_,rfl,hi'.alloc (ob:=.cells (madeCells z.cells (m * i.size)) e) (fun mm hm'=>⟨List.replicate m z,⟨fD.replicate (hT V) m,hsz,fun u hu=>?_⟩,.inr ⟨w.heap.size,m,madeCells z.cells (m * i.size),by simp,rfl,hm',by simp,hm,?_,?_⟩⟩)⟩
 ·simp [execOp,ex,Sem.run_bind,hr,Result.andThen]
 ·obtain ⟨y, hy, hu⟩ := iO.1 hu
  rw [(List.mem_replicate.1 hy).2] at hu
  exact hEl.plain z V (hT V) u hu
 ·rw [← Array.length_toList,hfl,iC _ hsz]; simp
 ·rw [hfl,List.length_replicate,List.take_of_length_le (by rw [iC _ hsz]; simp)]
end
end
section
open Go Go.RowKit
def zlk (E : cB) : cB → List (Option Ty)
 | []=>[]
 | x :: r=>fH E x.1 :: zlk E r
def zsm : cB → List (Option Ty)
 | []=>[]
 | x :: r=>some x.2 :: zsm r
theorem zS {E : cB} : ∀ {E' : cB}, zlk E E' = zsm E' → Sub E E'
 | [],_=>Sub.nil
 | _ :: _,h=>Sub.cons (List.cons.inj h).1 (zS (List.cons.inj h).2)
theorem z6 {a:Nat} (h:a < 9223372036854775808:=by first|omega|simp only[lQ];omega):a < 9223372036854775808:=h
theorem z7 {a:Nat} (h:a < 18446744073709551616:=by first|omega|simp only[lQ];omega):a < 18446744073709551616:=h
theorem zd {α:Type} {a:α}:a = a ∧ True:=⟨rfl,trivial⟩
theorem zF {P : Program} {R : eA} {cx : Cx} {n : Nat} {k : List It} {E : cB} {H : Hp} {ops : Array Oper} {l : List Oper} {a b c d : Nat} {T U V W : Ty} {r : List (Nat × C.Ob)}
  (h:C.Fin' P R cx n ops l k r ((d,W) :: (c,V) :: (b,U) :: (a,T) :: E) H):C.Fin' P R cx n ops l k ((a,.val T) :: (b,.val U) :: (c,.val V) :: (d,.val W) :: r) E H:=C.F_val (C.F_val (C.F_val (C.F_val h)))
end
section
open Go Go.RowKit
abbrev aQ:=@Sub.cons
abbrev aX:=@Sub.nil
abbrev aZ:=@Sub.to
abbrev aJ:=@C.F_val
abbrev aV:=@C.F_nil
abbrev aW:=@eE.cons'
abbrev aG:=@eE.nil
abbrev aK:=@Nat.le_of_ble_eq_true
abbrev aU:=@eS.cons
abbrev aY:=@eS.nil
abbrev bQ:=@Y.Srcs.cons
abbrev bX:=@Y.Srcs.nil
abbrev bZ:=@Y.Src.op
abbrev bJ:=@Y.Src.pre
abbrev bV:=@C.Srcs.cons
abbrev bW:=@C.Srcs.nil
abbrev bG:=@C.Src.op
abbrev bK:=@C.Src.pre
abbrev bU:=@Y.F_val
abbrev bY:=@Y.D_hide
abbrev cQ:=@Aw
abbrev cX:=@Km
abbrev cZ:=@Wu
abbrev cJ:=@aA.cN
abbrev cV:=@aA.c
abbrev cW:=@pF.cons
abbrev cG:=@pF.nil
abbrev cK:=@T_seq
abbrev cU:=@a03
abbrev cY:=@T_region
abbrev dQ:=@Gi
abbrev dX:=@qL
abbrev dZ:=@a0F
abbrev dJ:=@a0E
abbrev dV:=@a1M
abbrev dW:=@Wr
abbrev dG:=@Xg
abbrev dK:=@a0I
abbrev dU:=@Hx
abbrev dY:=@getD_some
abbrev eQ:=@Kg
abbrev eX:=@a1i
abbrev eZ:=@Wv
abbrev eJ:=@Wz
abbrev eW:=@Mo
abbrev eG:=@Tp
abbrev eK:=@Zy
abbrev eU:=@a0W
abbrev eY:=@a0H
abbrev fQ:=@Nw
abbrev fZ:=@a1T
abbrev fJ:=@C.D_start
abbrev fV:=@aA.w
abbrev fW:=@C.D_done
abbrev fG:=@a02
abbrev fK:=@Wl
abbrev fU:=@Xt
abbrev gQ:=@To
abbrev gX:=@Wx
abbrev gZ:=@a1j
abbrev gJ:=@Xc
abbrev gV:=@Ri
abbrev gW:=@Nz
abbrev gG:=@a00
end
section
open Go Go.RowKit
theorem zo {p:Prop} (h:p:=by omega):p:=h
end
section
open Go Go.RowKit
theorem oN (ds:List Nat) (hd:jE ds) (hl:ds.length ≤ 1152921504606846976):bA Tryz.prog 203 [Do ds] (aL (val ds)):=by
 refine bA.intro Tryz.func203 rfl Tryz.ntmps203 rfl (fun cx=>(ts (ro rfl (cQ cV) (eX (ts (rm rfl (ro rfl (dK U_28 (Ht rfl) aC) (ra rfl (eX (cK (eG ?_)))))))))))
 refine eL (fun (k : Nat) => k ≤ ds.length ∧ ∀ i, k ≤ i → i < ds.length → ds.getD i 0 = 0) (fun (k : Nat) => k) (fun (k : Nat) => [(0, Do ds), (3, NT .i64 k)]) (fun (k : Nat) => []) ds.length ⟨Nat.le_refl _, fun i h1 h2 => by omega⟩
  (zS rfl) aY (fun k ⟨hk,hz⟩=>?_)
 refine cK (ts (rm rfl (ro rfl (iW (Ht rfl) (cJ 0)) (rm rfl (fQ rfl rfl (eK rfl rfl (Ht rfl) (fun h=>cX (Ht rfl))) (fQ rfl rfl (eK rfl rfl (Ht rfl) (fun h=>cX (Ht rfl))) (fQ rfl rfl (eK rfl rfl (Ht rfl) (fun h=>dG (fV rfl h) (cJ 1) (by first | omega | (simp at h; omega)) (by show _ < 9223372036854775808; first | omega | (simp at h; omega)))) (fQ rfl rfl (eK rfl rfl (Ht rfl) (fun h=>dZ U_28 Z_24 (fV rfl h) (fV rfl h) rfl (eQ (bM (by first | omega | (simp at h; omega)))))) ?_))))))))
 refine fQ rfl rfl (eK rfl rfl (Ht rfl) (fun h=>dV A_24 Z_24 (fV rfl h))) (fQ rfl rfl (eK rfl rfl (Ht rfl) (fun h=>dN (fV rfl h) (cJ 0))) (ro rfl (gA (Ht rfl) (fun h=>(fV rfl h))) (eX (dQ (Ht rfl) (fun hb=>?_) (fun hb=>?_)))))
 ·simp at hb
  refine cU (eG (cY (rm rfl (ro rfl (dG (Ht rfl) (cJ 1) zo z6) (ra rfl (eX (cF (gQ (k - 1) ⟨by omega,fun i h1 h2=>?_⟩ zo (zS rfl) aY))))))))
  by_cases e2:i = k - 1
  ·subst e2; simpa using hb.2
  ·exact hz i zo h2
 ·have hn : k = 0 ∨ ds.getD (k - 1) 0 ≠ 0 := by
   simp only [Bool.and_eq_false_iff,decide_eq_false_iff_not] at hb
   rcases hb with h1 | h1
   ·left; omega
   ·right; exact h1
  have hfin:=Vi hd hk hz hn
  refine gG rfl (ts (rm rfl (rm rfl (rm rfl (ro rfl (Ax U_28 Z_24 (Ht rfl) (Ht rfl) (fun m e=>by cases e; exact (Ht rfl)) zo (by simp; omega) rfl) ?_)))))
  refine ra rfl (eX (fG rfl (fZ (eU rfl) ?_)))
  exact (Py (by rw [hfin]; simp))
theorem By {m:Nat} (hm:m < 18446744073709551616):bA Tryz.prog 207 [NT .u64 m] (aL m):=by
 refine bA.intro Tryz.func207 rfl Tryz.ntmps207 rfl (fun cx=>(ts (ro rfl (cQ cV) (eX (ts (rm rfl (ro rfl (jI rfl U_274 U_24 (Ht rfl)) (rm rfl (ro rfl (iG (Ht rfl) (cJ 32) (by decide)) (ro rfl (jI rfl U_274 U_24 (Ht rfl)) (ro rfl (eO (xs:=[.tmp 4,.tmp 7]) U_28 Z_24 Tryz.zeroValue24 (cW (Ht rfl) (cW (Ht rfl) cG)) rfl rfl rfl) (ro rfl (cZ K_203 (oN [m % 4294967296,m / 2 ^ 32 % 4294967296] (a27 _ _) (by simp)) ⟨(Ht rfl),trivial⟩) ?_))))))))))))
 refine ra rfl (eX (fG rfl (fZ (eU rfl) ?_)))
 exact (gF (Mm hm))
theorem Ys {m:Nat}:bA Tryz.prog 201 [aL m] (aD (decide (m = 1))):=by
 refine bA.intro Tryz.func201 rfl Tryz.ntmps201 rfl (fun cx=>(ts (ro rfl (cQ cV) (eX (ts (rm rfl (ro rfl (dK U_28 (Ht rfl) aC) (ro rfl (dN (Ht rfl) (cJ 1)) (rm rfl (fQ rfl rfl (eK rfl rfl (Ht rfl) (fun h=>cX (Ht rfl))) (fQ rfl rfl (eK rfl rfl (Ht rfl) (fun h=>dZ U_28 Z_24 (fV rfl h) (cJ 0) rfl (eQ (bM (by first | omega | (simp at h; omega)))))) (fQ rfl rfl (eK rfl rfl (Ht rfl) (fun h=>dV A_24 Z_24 (fV rfl h))) (fQ rfl rfl (eK rfl rfl (Ht rfl) (fun h=>dN (fV rfl h) (cJ 1))) ?_)))))))))))))
 refine ro rfl (gA (Ht rfl) (fun h=>(fV rfl h))) (ra rfl (eX (fG rfl (fZ (eU rfl) ?_))))
 exact (fE (a0B m))
theorem Uh {a b c:Nat} (ha:a < 4294967296) (hb:b < 4294967296) (hc:c < 4294967296):bA Tryz.prog 248 [cP a,cP b,cP c] (fB [cP ((a + b + c) % 4294967296),cP ((a + b + c) / 4294967296)]):=by
 refine bA.intro Tryz.func248 rfl Tryz.ntmps248 rfl (fun cx=>(ts (ro rfl (cQ (cJ 0)) (ro rfl (cQ (cJ 0)) (eX (ts (rm rfl (ro rfl (gV U_24 U_274 (Ht rfl) z7) (rm rfl (ro rfl (gV U_24 U_274 (Ht rfl) z7) (ro rfl (dW (Ht rfl) (Ht rfl) z7) (rm rfl (ro rfl (gV U_24 U_274 (Ht rfl) z7) ?_)))))))))))))
 refine ro rfl (dW (Ht rfl) (Ht rfl) z7) (ra rfl (eX (ts (rm rfl (ro rfl (jI rfl U_274 U_24 (Ht rfl)) (ra rfl (eX (ts (rm rfl (ro rfl (iG (Ht rfl) (cJ 32) (by decide)) (ro rfl (jI rfl U_274 U_24 (Ht rfl)) (ra rfl (eX (cT rfl (eU rfl) (fZ (eU rfl) ?_)))))))))))))))
 exact (mE (by simp only [lQ]; omega))
theorem Ut {a b c:Nat} (ha:a < 4294967296) (hb:b < 4294967296) (hc:c ≤ 1):bA Tryz.prog 249 [cP a,cP b,cP c] (fB [cP ((a + 8589934592 - b - c) % 4294967296),cP (if a < b + c then 1 else 0)]):=by
 refine bA.intro Tryz.func249 rfl Tryz.ntmps249 rfl (fun cx=>(ts (ro rfl (cQ (cJ 0)) (ro rfl (cQ (cJ 0)) (eX (ts (rm rfl (rm rfl (ro rfl (qZ rfl (Ht rfl) (Ht rfl) (by show _ ≤ 4294967296; first | omega | (simp only [lQ]; omega))) (rm rfl (ro rfl (qZ rfl (Ht rfl) (Ht rfl) (by show _ ≤ 4294967296; first | omega | (simp only [lQ]; omega))) (ra rfl (eX (ts (rm rfl (ro rfl (Kk rfl (Ht rfl) (by show _ < 4294967296; first | omega | (simp only [lQ]; omega))) (rm rfl (ro rfl (tI rfl (Ht rfl) (Ht rfl) (by show _ < 4294967296; simp only [lQ]; omega) (by show _ < 4294967296; omega)) ?_))))))))))))))))))
 refine rm rfl (rm rfl (ro rfl (Xh rfl (Ht rfl) (Ht rfl) (by show _ < 4294967296; omega) (by show _ < 4294967296; omega)) (ro rfl (Kk rfl (Ht rfl) (Nat.xor_lt_two_pow (n:=32) ha hb)) (rm rfl (ro rfl (tI rfl (Ht rfl) (Ht rfl) (by show _ < 4294967296; simp only [lQ]; omega) (by show _ < 4294967296; simp only [lQ]; omega)) (ro rfl (uR rfl (Ht rfl) (Ht rfl) (Nat.and_lt_two_pow (n:=32) _ hb) (Nat.and_lt_two_pow (n:=32) _ (by simp only [lQ]; omega))) (ro rfl (iG (Ht rfl) (cJ 31) (by decide)) (ra rfl (eX (cT rfl (fZ (eU rfl) ?_) (fZ (eU rfl) ?_)))))))))))
 ·exact (mE (by simp only [lQ]; omega))
 ·exact (mE (Dg ha hb hc (by simp only [lQ]; omega)))
theorem Pa {m n:Nat} (hm:(dg m).length ≤ 1152921504606846976) (hn:(dg n).length ≤ 1152921504606846976):bA Tryz.prog 129 [aL m,aL n] (aF .i64 (rV m n)):=by
 refine bA.intro Tryz.func129 rfl Tryz.ntmps129 rfl (fun cx=>(ts (ro rfl (cQ (cJ 0)) (eX (cK (ts (rm rfl (ro rfl (dK U_28 (Ht rfl) aC) (rm rfl (ro rfl (dK U_28 (Ht rfl) aC) (ro rfl (fR (Ht rfl) (Ht rfl)) (eX (dQ (Ht rfl) (fun hb=>?_) (fun hb=>?_))))))))))))))
 ·simp at hb
  refine cK (ts (rm rfl (ro rfl (dK U_28 (Ht rfl) aC) (rm rfl (ro rfl (dK U_28 (Ht rfl) aC) (ro rfl (gJ (Ht rfl) (Ht rfl)) (eX (dQ (Ht rfl) (fun hb2=>?_) (fun hb2=>?_)))))))))
  ·simp at hb2
   have hlt:=Hd hb2
   refine ts (ro rfl (cQ cV) (eX (fG rfl (fZ (eU rfl) ?_))))
   exact (bR (by simp [rV,hlt]))
  ·simp at hb2
   have hlt:=Hd (a:=n) (b:=m) zo
   refine cU (ts (ro rfl (cQ (cJ 1)) (eX (fG rfl (fZ (eU rfl) ?_)))))
   exact (bR (by simp [rV,hlt,Nat.lt_asymm hlt]))
 ·simp at hb
  refine cU (cK (ts (rm rfl (ro rfl (dK U_28 (Ht rfl) aC) (ro rfl (jU (Ht rfl) cV (Ip zo)) (ra rfl (eX (eG ?_))))))))
  refine eL (fun (k : Nat) => k ≤ (dg m).length ∧ ∀ i, k ≤ i → i < (dg m).length → (dg m).getD i 0 = (dg n).getD i 0) (fun (k : Nat) => k) (fun (k : Nat) => [(0, aL m), (1, aL n), (5, aF .i64 ((k : Int) - 1))]) (fun (k : Nat) => []) (dg m).length ⟨Nat.le_refl _, fun i h1 h2 => by omega⟩
   (zS rfl) aY (fun k ⟨hk,he⟩=>?_)
  refine cK (ts (rm rfl (ro rfl (nF (Ht rfl) cV) (eX (dQ (Ht rfl) (fun hk1=>?_) (fun hk1=>?_))))))
  ·simp at hk1
   refine cU (cK (eG (cK (cK (fJ (m:=8) (dp 0 rfl (cX (Ht rfl)) (dp 5 rfl (cX (Ht rfl)) (eD 23 0 24 1 rfl (dZ U_28 Z_24 (Ht rfl) (Ht rfl) (show ((k:Int) - 1) = ((k - 1:Nat):Int) by omega) (eQ (bM zo))) (dq 25 2 rfl (dV A_24 Z_24 (Ht rfl)) (dp 1 rfl (cX (Ht rfl)) (dp 5 rfl (cX (Ht rfl)) (eD 27 4 28 5 rfl (dZ U_28 Z_24 (Ht rfl) (Ht rfl) (show ((k:Int) - 1) = ((k - 1:Nat):Int) by omega) (eQ (bM zo))) (dq 29 6 rfl (dV A_24 Z_24 (Ht rfl)) ?_)))))))))))))
   refine fW aT rfl (by kernel_rfl) (zF (zF (aV (ro rfl (gJ (Ht rfl) (Ht rfl)) (eX (dQ (Ht rfl) (fun h1=>?_) (fun h1=>?_)))))))
   ·simp only [decide_eq_true_eq] at h1
    have hlt:=Ju (cO m) (cO n) hb (k:=k - 1) zo (fun i h2 h3=>he i zo h3) h1
    rw [eR,eR] at hlt
    refine ts (ro rfl (cQ cV) (eX (fG rfl (fZ (eU rfl) ?_))))
    exact (bR (by simp [rV,hlt]))
   ·simp only [decide_eq_false_iff_not] at h1
    refine cU (cK (fJ (m:=8) (dp 0 rfl (cX (Ht rfl)) (dp 5 rfl (cX (Ht rfl)) (eD 32 0 33 1 rfl (dZ U_28 Z_24 (Ht rfl) (Ht rfl) (show ((k:Int) - 1) = ((k - 1:Nat):Int) by omega) (eQ (bM zo))) (dq 34 2 rfl (dV A_24 Z_24 (Ht rfl)) (dp 1 rfl (cX (Ht rfl)) (dp 5 rfl (cX (Ht rfl)) (eD 36 4 37 5 rfl (dZ U_28 Z_24 (Ht rfl) (Ht rfl) (show ((k:Int) - 1) = ((k - 1:Nat):Int) by omega) (eQ (bM zo))) (dq 38 6 rfl (dV A_24 Z_24 (Ht rfl)) ?_))))))))))
    refine fW aT rfl (by kernel_rfl) (zF (zF (aV (ro rfl (iW (Ht rfl) (Ht rfl)) (eX (dQ (Ht rfl) (fun h2=>?_) (fun h2=>?_)))))))
    ·simp only [decide_eq_true_eq] at h2
     have hlt:=Ju (cO n) (cO m) hb.symm (k:=k - 1) zo (fun i h2 h3=>(he i zo zo).symm) h2
     rw [eR,eR] at hlt
     refine ts (ro rfl (cQ (cJ 1)) (eX (fG rfl (fZ (eU rfl) ?_))))
     exact (bR (by simp [rV,hlt,Nat.lt_asymm hlt]))
    ·simp only [decide_eq_false_iff_not] at h2
     refine cU (cF (cY (rm rfl (ro rfl (jU (Ht rfl) cV (Ip zo)) (ra rfl (eX (gQ (k - 1) ⟨by omega,fun i h3 h4=>(by by_cases e:i = k - 1; (· subst e; omega); exact he i zo h4)⟩ zo (aQ rfl (aQ rfl (aZ rfl (bR zo) aX))) aY)))))))
  ·simp at hk1
   have hk0:k = 0:=by omega
   have heq : m = n := by
    have : dg m = dg n := by
     apply List.ext_getElem?
     intro i
     by_cases hi:i < (dg m).length
     ·have h5 := he i zo hi
      have h6:i < (dg n).length:=by omega
      simp [List.getD,hi,h6] at h5
      simp [hi,h6,h5]
     ·rw [List.getElem?_eq_none zo,List.getElem?_eq_none zo]
    rw [← eR m,this,eR]
   refine gG rfl (ts (ro rfl (cQ (cJ 0)) (eX (fG rfl (fZ (eU rfl) ?_)))))
   exact (bR (by simp [rV,heq]))
end
section
open Go Go.RowKit
theorem nQ:Tryz.prog.info? 24 = some Tryz.t24:=by kernel_rfl
end
section
open Go Go.RowKit
theorem a1t {m n:Nat} (hm:(dg m).length ≤ 17592186044416) (hn:(dg n).length ≤ 17592186044416):bA Tryz.prog 198 [aL m,aL n] (aL (m + n)):=by
 refine bA.intro Tryz.func198 rfl Tryz.ntmps198 rfl (fun cx=>(ts (ro rfl (cQ cV) (eX (cK (sK (fun (p:Nat) (q:Nat)=>p + q = m + n ∧ (dg q).length ≤ (dg p).length ∧ (dg p).length ≤ 17592186044416) (fun (p:Nat) (q:Nat)=>[(0,aL p),(1,aL q)]) (fun (p:Nat) (q:Nat)=>[]) ?_ (fun p q ⟨hpq,hle,Ql⟩=>?_)))))))
 ·refine ts (rm rfl (ro rfl (dK U_28 (Ht rfl) aC) (rm rfl (ro rfl (dK U_28 (Ht rfl) aC) (ro rfl (gJ (Ht rfl) (Ht rfl)) (eX (dQ (Ht rfl) (fun hb => ?_) (fun hb => ?_))))))))
  ·simp at hb
   refine cY (rm rfl (rm rfl (ra rfl (ra rfl (eX (bT (n,m) ⟨Nat.add_comm _ _,Nat.le_of_lt hb,hn⟩ (zS rfl) aY))))))
  ·simp at hb
   refine cU (bT (m,n) ⟨rfl,hb,hm⟩ (zS rfl) aY)
 ·refine ts (rm rfl (ro rfl (dK U_28 (Ht rfl) aC) (ro rfl (dW (Ht rfl) (cJ 1) z6) (rn rfl (gN (T := cP 0) (i := Tryz.t24) V_28 nQ rfl rfl (Ht rfl) rfl (fun _ => rfl) trivial (by show 4 * _ ≤ _; omega) zo) fun B19 => (ra rfl (eX (ts (ro rfl (cQ (cJ 0)) (eX (cK (ts (rm rfl (ro rfl (dK U_28 (Ht rfl) aC) (ro rfl (cX (cJ 0)) (eX (eG ?_))))))))))))))))
  refine mF (fun (k : Nat) (out : List Nat) (c : Nat) => Bi (dg p) (dg q) out k c) (fun (k : Nat) (out : List Nat) (c : Nat) => (dg p).length - k) (fun (k : Nat) (out : List Nat) (c : Nat) => [(0, aL p), (1, aL q), (5, Is (.slice (some ⟨B19, 0, none⟩) ((dg p).length + 1) ((dg p).length + 1))), (6, cP c), (21, NT .i64 (dg p).length), (22, NT .i64 k)]) (fun (k : Nat) (out : List Nat) (c : Nat) => [box B19 24 (out.map cP)]) 0 (List.replicate ((dg p).length + 1) 0) 0 (Bi.start _ _)
   (zS rfl) (aU (aP (oZ _)) aY) (fun k out c hS=>?_)
  refine ts (ro rfl (gJ (Ht rfl) (Ht rfl)) (eX (cK (dQ (Ht rfl) (fun hb=>?_) (fun hb=>?_)))))
  ·simp at hb
   have hlen:=hS.len; have hcl:=hS.cle; have hxk:=bH (cO p) k; have hyk:=bH (cO q) k
   simp only [BB] at hxk hyk
   refine cU (cK (eG (ts (rm rfl (ra rfl (eX (ts (ro rfl (cQ (cJ 0)) (eX (cK (kX (fun (uu:Unit)=>True) (fun (uu:Unit)=>[(0,aL p),(1,aL q),(5,Is (.slice (some ⟨B19,0,none⟩) ((dg p).length + 1) ((dg p).length + 1))),(6,cP c),(7,NT .i64 k),(8,cP ((dg q).getD k 0)),(21,NT .i64 (dg p).length),(22,NT .i64 k)]) (fun (uu:Unit)=>[box B19 24 (out.map cP)]) ?_ (fun uu _=>?_))))))))))))
   ·refine ts (rm rfl (rm rfl (ro rfl (dK U_28 (Ht rfl) aC) (ro rfl (gJ (Ht rfl) (Ht rfl)) (eX (dQ (Ht rfl) (fun hk2 => ?_) (fun hk2 => ?_)))))))
    ·simp at hk2
     refine cY (rm rfl (rm rfl (ro rfl (dZ U_28 Z_24 (Ht rfl) (Ht rfl) rfl (eQ (bM zo))) (ro rfl (dV A_24 Z_24 (Ht rfl)) (ra rfl (eX (bT () trivial (zS rfl) (eS.refl _))))))))
    ·simp at hk2
     refine cU (bT () trivial (aQ rfl (aQ rfl (aQ rfl (aQ rfl (aQ rfl (aZ rfl (mE (by simp [List.getD,List.getElem?_eq_none hk2])) (zS rfl))))))) (eS.refl _))
   ·refine cY (rm rfl (rm rfl (rm rfl (rm rfl (ro rfl (dZ U_28 Z_24 (Ht rfl) (Ht rfl) rfl (eQ (bM zo))) (ro rfl (dV A_24 Z_24 (Ht rfl)) (rm rfl (rm rfl (ro rfl (cZ Tryz.call248 (Uh hxk hyk zo) ⟨(Ht rfl), (Ht rfl), (Ht rfl), trivial⟩) (rm rfl (ro rfl (dU (Ht rfl) rfl) (ro rfl (dU (Ht rfl) rfl) (ro rfl (gX U_28 Z_24 (Ht rfl) (Ht rfl) rfl zo (by rw [Nat.mul_one, Nat.zero_add])) ?_)))))))))))))
    refine jL Z_24 (Ht rfl) (Ht rfl) (i:=0) rfl (by first | omega | (simp; omega)) rfl (ra rfl (eX (cF (cY (ro rfl (dW (Ht rfl) (cJ 1) z6) (rm rfl (eX (gQ (k + 1,_,_) (hS.next (cO p) (cO q) hb) (by dsimp only; omega) (zS rfl) (aU (aP (jD _ _ _)) aY)))))))))
  ·simp at hb
   have hkl:k = (dg p).length:=Nat.le_antisymm hS.kle hb
   subst hkl
   have hlen:=hS.len; have hcl:=hS.cle
   refine gG rfl (ts (rm rfl (rm rfl (ro rfl (dK U_28 (Ht rfl) aC) (rm rfl (ro rfl (gX U_28 Z_24 (Ht rfl) (Ht rfl) rfl zo (by rw [Nat.mul_one,Nat.zero_add])) ?_))))))
   refine jL Z_24 (Ht rfl) (Ht rfl) (i:=0) rfl (by first | omega | (simp; omega)) rfl (eX (cK ?_))
   have hfin:=hS.fin hle
   refine gW (i:=0) (tt:=5) rfl rfl (pR (jD _ _ _) (by simp [hlen]) (Nat.le_refl _)) ?_
   refine cY (rm rfl (ro rfl (cZ K_203 (oN _ (jB hS.dig (by simp only [BB]; omega)) (by simp [hlen]; omega)) ⟨(Ht rfl),trivial⟩) ?_))
   refine ra rfl (eX (fG rfl (fZ (eU rfl) ?_)))
   exact (gF (by rw [hfin,eR,eR]; exact hpq))
theorem Yu {m n:Nat} (hm:(dg m).length ≤ 17592186044416) (hnm:n ≤ m):bA Tryz.prog 199 [aL m,aL n] (aL (m - n)):=by
 have hle:=jQ hnm
 refine bA.intro Tryz.func199 rfl Tryz.ntmps199 rfl (fun cx=>(ts (ro rfl (cQ cV) (eX (ts (rm rfl (ro rfl (dK U_28 (Ht rfl) aC) (rn rfl (gN (T:=cP 0) (i:=Tryz.t24) V_28 nQ rfl rfl (Ht rfl) rfl (fun _=>rfl) trivial (by show 4 * _ ≤ _; omega) zo) fun B11=>(ra rfl (eX (ts (ro rfl (cQ (cJ 0)) (eX (cK (ts (rm rfl (ro rfl (dK U_28 (Ht rfl) aC) (ro rfl (cX (cJ 0)) (eX (eG ?_))))))))))))))))))))
 refine mF (fun (k : Nat) (out : List Nat) (c : Nat) => Br (dg m) (dg n) out k c) (fun (k : Nat) (out : List Nat) (c : Nat) => (dg m).length - k) (fun (k : Nat) (out : List Nat) (c : Nat) => [(0, aL m), (1, aL n), (5, Is (.slice (some ⟨B11, 0, none⟩) (dg m).length (dg m).length)), (6, cP c), (13, NT .i64 (dg m).length), (14, NT .i64 k)]) (fun (k : Nat) (out : List Nat) (c : Nat) => [box B11 24 (out.map cP)]) 0 (List.replicate (dg m).length 0) 0 (Br.start _ _)
  (zS rfl) (aU (aP (oZ _)) aY) (fun k out c hS=>?_)
 refine ts (ro rfl (gJ (Ht rfl) (Ht rfl)) (eX (cK (dQ (Ht rfl) (fun hb=>?_) (fun hb=>?_)))))
 ·simp at hb
  have hlen:=hS.len; have hcl:=hS.cle; have hxk:=bH (cO m) k; have hyk:=bH (cO n) k
  simp only [BB] at hxk hyk
  refine cU (cK (eG (ts (rm rfl (ra rfl (eX (ts (ro rfl (cQ (cJ 0)) (eX (cK (kX (fun (uu:Unit)=>True) (fun (uu:Unit)=>[(0,aL m),(1,aL n),(5,Is (.slice (some ⟨B11,0,none⟩) (dg m).length (dg m).length)),(6,cP c),(7,NT .i64 k),(8,cP ((dg n).getD k 0)),(13,NT .i64 (dg m).length),(14,NT .i64 k)]) (fun (uu:Unit)=>[box B11 24 (out.map cP)]) ?_ (fun uu _=>?_))))))))))))
  ·refine ts (rm rfl (rm rfl (ro rfl (dK U_28 (Ht rfl) aC) (ro rfl (gJ (Ht rfl) (Ht rfl)) (eX (dQ (Ht rfl) (fun hk2 => ?_) (fun hk2 => ?_)))))))
   ·simp at hk2
    refine cY (rm rfl (rm rfl (ro rfl (dZ U_28 Z_24 (Ht rfl) (Ht rfl) rfl (eQ (bM zo))) (ro rfl (dV A_24 Z_24 (Ht rfl)) (ra rfl (eX (bT () trivial (zS rfl) (eS.refl _))))))))
   ·simp at hk2
    refine cU (bT () trivial (aQ rfl (aQ rfl (aQ rfl (aQ rfl (aQ rfl (aZ rfl (mE (by simp [List.getD,List.getElem?_eq_none hk2])) (zS rfl))))))) (eS.refl _))
  ·refine cY (rm rfl (rm rfl (rm rfl (rm rfl (ro rfl (dZ U_28 Z_24 (Ht rfl) (Ht rfl) rfl (eQ (bM zo))) (ro rfl (dV A_24 Z_24 (Ht rfl)) (rm rfl (rm rfl (ro rfl (cZ Tryz.call249 (Ut hxk hyk zo) ⟨(Ht rfl), (Ht rfl), (Ht rfl), trivial⟩) (rm rfl (ro rfl (dU (Ht rfl) rfl) (ro rfl (dU (Ht rfl) rfl) (ro rfl (gX U_28 Z_24 (Ht rfl) (Ht rfl) rfl zo (by rw [Nat.mul_one, Nat.zero_add])) ?_)))))))))))))
   refine jL Z_24 (Ht rfl) (Ht rfl) (i:=0) rfl (by first | omega | (simp; omega)) rfl (ra rfl (eX (cF (cY (ro rfl (dW (Ht rfl) (cJ 1) z6) (rm rfl (eX (gQ (k + 1,_,_) (hS.next (cO m) (cO n) hb) (by dsimp only; omega) (zS rfl) (aU (aP (jD _ _ _)) aY)))))))))
 ·simp at hb
  have hkl:k = (dg m).length:=Nat.le_antisymm hS.kle hb
  subst hkl
  have hlen:=hS.len
  have hfin:=hS.fin (cO m) hle (by rw [eR,eR]; exact hnm)
  rw [eR,eR] at hfin
  refine gG rfl (gW (i:=0) (tt:=5) rfl rfl (pR rfl hlen.symm (Nat.le_refl _)) (ts (rm rfl (ro rfl (cZ K_203 (oN _ hS.dig zo) ⟨(Ht rfl),trivial⟩) (ra rfl (eX (fG rfl (fZ (eU rfl) ?_))))))))
  exact (gF hfin)
theorem Ec {m n:Nat} (hm:(dg m).length ≤ 17592186044416) (hn:(dg n).length ≤ 17592186044416):bA Tryz.prog 110 [aL m,aL n] (aL (m * n)):=by
 refine bA.intro Tryz.func110 rfl Tryz.ntmps110 rfl (fun cx=>(ts (ro rfl (cQ cV) (eX (cK (ts (rm rfl (ro rfl (dK U_28 (Ht rfl) aC) (ro rfl (dN (Ht rfl) (cJ 0)) (rm rfl (fQ rfl rfl (eK rfl rfl (Ht rfl) (fun h=>cX (Ht rfl))) (fQ rfl rfl (eK rfl rfl (Ht rfl) (fun h=>dK U_28 (fV rfl h) aC)) (fQ rfl rfl (eK rfl rfl (Ht rfl) (fun h=>dN (fV rfl h) (cJ 0))) (ro rfl (iF (Ht rfl) (fun h=>(fV rfl h))) (eX (dQ (Ht rfl) (fun hb=>?_) (fun hb=>?_)))))))))))))))))
 ·simp [bD] at hb
  have h0 : m * n = 0 := by
   rcases hb with h | h <;> simp_all [uM]
  refine ts (ro rfl (cQ cV) (eX (fG rfl (fZ (eU rfl) ?_))))
  exact (fun v V h=>by rw [h0]; exact lU v V h)
 ·clear hb
  refine cU (ts (rm rfl (ro rfl (dK U_28 (Ht rfl) aC) (rm rfl (ro rfl (dK U_28 (Ht rfl) aC) (ro rfl (dW (Ht rfl) (Ht rfl) z6) (rn rfl (gN (T:=cP 0) (i:=Tryz.t24) V_28 nQ rfl rfl (Ht rfl) rfl (fun _=>rfl) trivial (by show 4 * _ ≤ _; omega) zo) fun B24=>(ra rfl (eX (cK (ts (rm rfl (ro rfl (dK U_28 (Ht rfl) aC) (ro rfl (cX (cJ 0)) (eX (eG ?_))))))))))))))))
  refine gO (fun (i : Nat) (out : List Nat) => Bm (dg m) (dg n) out i) (fun (i : Nat) (out : List Nat) => (dg m).length - i) (fun (i : Nat) (out : List Nat) => [(0, aL m), (1, aL n), (5, Is (.slice (some ⟨B24, 0, none⟩) ((dg m).length + (dg n).length) ((dg m).length + (dg n).length))), (25, aL m), (26, NT .i64 (dg m).length), (27, NT .i64 i)]) (fun (i : Nat) (out : List Nat) => [box B24 24 (out.map cP)]) 0 (List.replicate ((dg m).length + (dg n).length) 0) (Bm.start _ _)
   (zS rfl) (aU (aP (oZ _)) aY) (fun i out hS=>?_)
  refine ts (ro rfl (gJ (Ht rfl) (Ht rfl)) (eX (cK (dQ (Ht rfl) (fun hb=>?_) (fun hb=>?_)))))
  ·simp at hb
   have hxi:=bH (cO m) i
   simp only [BB] at hxi
   refine cU (cK (eG (ts (rm rfl (ro rfl (dZ U_28 Z_24 (Ht rfl) (Ht rfl) rfl (eQ (bM zo))) (ro rfl (dV A_24 Z_24 (Ht rfl)) (ra rfl (ra rfl (eX (ts (ro rfl (cQ (cJ 0)) (eX (cK (ts (rm rfl (ro rfl (dK U_28 (Ht rfl) aC) (ro rfl (cX (cJ 0)) (eX (eG ?_)))))))))))))))))))
   refine mF (fun (k : Nat) (out2 : List Nat) (c : Nat) => Gg (dg m) (dg n) out2 i k c) (fun (k : Nat) (out2 : List Nat) (c : Nat) => (dg n).length - k) (fun (k : Nat) (out2 : List Nat) (c : Nat) => [(0, aL m), (1, aL n), (5, Is (.slice (some ⟨B24, 0, none⟩) ((dg m).length + (dg n).length) ((dg m).length + (dg n).length))), (6, NT .i64 i), (7, cP ((dg m).getD i 0)), (8, NT .u64 c), (25, aL m), (26, NT .i64 (dg m).length), (27, NT .i64 i), (32, aL n), (33, NT .i64 (dg n).length), (34, NT .i64 k)]) (fun (k : Nat) (out2 : List Nat) (c : Nat) => [box B24 24 (out2.map cP)]) 0 out 0 (hS.row hb)
    (zS rfl) (eS.refl _) (fun k out2 c hR=>?_)
   refine ts (ro rfl (gJ (Ht rfl) (Ht rfl)) (eX (cK (dQ (Ht rfl) (fun hk=>?_) (fun hk=>?_)))))
   ·simp at hk
    have hlen:=hR.len; have hcl:=hR.clt; have hyk:=bH (cO n) k; have hok:=bH hR.dig (i + k)
    have hbnd:=uQ (bH (cO m) i) (bH (cO n) k) (bH hR.dig (i + k)) hR.clt
    simp only [BB] at hcl hyk hok hbnd
    refine cU (cK (eG (ts (rm rfl (ro rfl (dZ U_28 Z_24 (Ht rfl) (Ht rfl) rfl (eQ (bM zo))) (ro rfl (dV A_24 Z_24 (Ht rfl)) (ra rfl (ra rfl (eX (ts (rm rfl (rm rfl (ro rfl (gV U_24 U_274 (Ht rfl) z7) (rm rfl (ro rfl (gV U_24 U_274 (Ht rfl) z7) (ro rfl (mK (Ht rfl) (Ht rfl) (by show _ < 18446744073709551616; omega)) ?_))))))))))))))))
    refine rm rfl (rm rfl (rm rfl (ro rfl (dW (Ht rfl) (Ht rfl) z6) (ro rfl (gX U_28 Z_24 (Ht rfl) (Ht rfl) rfl zo (by rw [Nat.mul_one,Nat.zero_add])) ?_))))
    refine ro rfl (eY A_24 Z_24 (Ht rfl) (i:=0) rfl (eQ (bM zo))) (ro rfl (gV U_24 U_274 (Ht rfl) z7) (ro rfl (dW (Ht rfl) (Ht rfl) z7) (ro rfl (dW (Ht rfl) (Ht rfl) z7) (ra rfl (eX (ts (rm rfl (rm rfl (rm rfl (ro rfl (dW (Ht rfl) (Ht rfl) z6) ?_))))))))))
    refine rm rfl (ro rfl (jI rfl U_274 U_24 (Ht rfl)) (ro rfl (gX U_28 Z_24 (Ht rfl) (Ht rfl) rfl zo (by rw [Nat.mul_one,Nat.zero_add])) ?_))
    refine jL Z_24 (Ht rfl) (Ht rfl) (i:=0) rfl (by first | omega | (simp; omega)) rfl (eX (cY (rm rfl (ro rfl (iG (Ht rfl) (cJ 32) (by decide)) (ra rfl (eX (cF (cY (ro rfl (dW (Ht rfl) (cJ 1) z6) (rm rfl (eX (gQ (k + 1,_,_) (hR.next (cO m) (cO n) hk rfl) (by dsimp only; omega) (zS rfl) (aU (aP (jD _ _ _)) aY)))))))))))))
   ·simp at hk
    have hkl:k = (dg n).length:=Nat.le_antisymm hR.kle hk
    subst hkl
    have hlen:=hR.len; have hcl:=hR.clt
    simp only [BB] at hcl
    refine gG rfl (cY (rm rfl (rm rfl (rm rfl (ro rfl (dK U_28 (Ht rfl) aC) (ro rfl (dW (Ht rfl) (Ht rfl) z6) (rm rfl (ro rfl (gV U_274 U_24 (Ht rfl) (by show _ < 4294967296; first | omega | (simp only [lQ]; omega))) (ro rfl (gX U_28 Z_24 (Ht rfl) (Ht rfl) rfl zo (by rw [Nat.mul_one,Nat.zero_add])) ?_)))))))))
    refine jL Z_24 (Ht rfl) (Ht rfl) (i:=0) rfl (by first | omega | (simp; omega)) rfl (eX (cF (cY (ro rfl (dW (Ht rfl) (cJ 1) z6) (rm rfl (eX (gQ (i + 1,_) (hR.fin) (by dsimp only; omega) (zS rfl) (aU (aP (jD _ _ _)) aY))))))))
  ·simp at hb
   have hkl:i = (dg m).length:=Nat.le_antisymm hS.ile hb
   subst hkl
   have hlen:=hS.len
   have hfin:=hS.fin
   rw [eR,eR] at hfin
   refine gG rfl (gW (i:=0) (tt:=5) rfl rfl (pR rfl hlen.symm (Nat.le_refl _)) (ts (rm rfl (ro rfl (cZ K_203 (oN _ hS.dig zo) ⟨(Ht rfl),trivial⟩) (ra rfl (eX (fG rfl (fZ (eU rfl) ?_))))))))
   exact (gF hfin)
end
end Go.Proofs.YthcmlodgnfekeaaGreat
