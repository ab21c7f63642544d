/- What functions of the program compute, proved by walks over their code, and the plain mathematics of it; a part of the proof in the last text. -/
import Derived.Test.YthcmlodgnfekeaaGreatP01
set_option linter.unusedVariables false
set_option linter.unusedSimpArgs false
set_option maxRecDepth 100000
set_option maxHeartbeats 4000000
namespace Go.Proofs.YthcmlodgnfekeaaGreat
section
open Go Go.RowKit
namespace W
inductive Ob:Type 1 where
 | val (T:Ty)
 | new (γ:Type) (T:γ → Ty) (A:γ → SA)
 | put
def Src (ops : List Oper) (m : Nat) (E0 : bC) (prev : List (Nat × Ob)) (o : Oper) (t : Nat) (T : Ty) : Prop :=
 (cP E0 t = some T ∧ ((List.range m).all fun j=>!(cF ops j == some t)) = true) ∨
 ∃ j,prev.reverse[j]? = some (t,.val T) ∧ (o.after.toList.any fun e=>Nat.beq e.on j && Region.binds .any e) = true
theorem Src.pre {ops:List Oper} {m:Nat} {E0:bC} {prev:List (Nat × Ob)} {o:Oper} {t:Nat} {T:Ty} (h:cP E0 t = some T) (h':((List.range m).all fun j=>!(cF ops j == some t)) = true):Src ops m E0 prev o t T:=.inl ⟨h,h'⟩
theorem Src.op {ops:List Oper} {m:Nat} {E0:bC} {prev:List (Nat × Ob)} {o:Oper} {t:Nat} {T:Ty} (j:Nat) (h:prev.reverse[j]? = some (t,.val T)) (h':(o.after.toList.any fun e=>Nat.beq e.on j && Region.binds .any e) = true):Src ops m E0 prev o t T:=.inr ⟨j,h,h'⟩
def Srcs (ops:List Oper) (m:Nat) (E0:bC) (prev:List (Nat × Ob)) (o:Oper) (Ei:bC):Prop:=∀ t T,cP Ei t = some T → Src ops m E0 prev o t T
theorem Srcs.nil {ops:List Oper} {m:Nat} {E0:bC} {prev:List (Nat × Ob)} {o:Oper}:Srcs ops m E0 prev o []:=fun t T h=>by cases h
theorem Srcs.cons {ops : List Oper} {m : Nat} {E0 Ei : bC} {prev : List (Nat × Ob)} {o : Oper} {t : Nat} {T : Ty} (h : Src ops m E0 prev o t T) (k : Srcs ops m E0 prev o Ei) : Srcs ops m E0 prev o ((t, T) :: Ei) := fun u U hl => by
 rw [bD] at hl
 by_cases e:t = u
 ·subst e; rw [if_pos rfl] at hl; obtain rfl:=Option.some.inj hl; exact h
 ·rw [if_neg e] at hl; exact k u U hl
section
variable {P:Program} {R:dP} {cx:Cx} {n:Nat} {k:List It} {E:bC} {H:Hp} {Hf:Bool → Hp} {p:Nat}
def PutTy (P : Program) (n : Nat) (E : bC) (H H' : Hp) (o : Oper) : Prop :=
 ∀ (cx:Cx) (X:Hp) (a:Act) (w:World) (V:aD),dR cx V (H ++ X) w → bR n E V a → ∃ w',(execOp a.eval o).run P w = .ok .skip w' ∧ dR cx V (H' ++ X) w'
def rK (P : Program) (n : Nat) (ops : List Oper) (m : Nat) (E0 : bC) (Hf : Bool → Hp) (p : Nat) (prev : List (Nat × Ob)) (d : Nat) (o : Oper) : Ob → Prop
 | .val T=>(o.dst = some d ∧ d < n ∧ prev.length ≠ p) ∧ ∃ Ei,Srcs ops m E0 prev o Ei ∧ ((∀ b,eM P n ops.toArray Ei (Hf b) o T) ∨ (eM P n ops.toArray Ei (Hf false) o T ∧ ((kU ops []).getD p 0).testBit prev.length = true))
 | .new γ T A=>(o.dst = some d ∧ d < n ∧ prev.length ≠ p) ∧ o.guard = none ∧ ∃ Ei,Srcs ops m E0 prev o Ei ∧ ∀ b,fL P n Ei (Hf b) o γ T A
 | .put=>prev.length = p ∧ o.guard = none ∧ o.dst = none ∧ ∃ Ei,Srcs ops m E0 prev o Ei ∧ PutTy P n Ei (Hf false) (Hf true) o
def iS (P : Program) (n : Nat) (ops : List Oper) (m : Nat) (E0 : bC) (Hf : Bool → Hp) (p : Nat) : List (Nat × Ob) → Prop
 | []=>True
 | (d,b) :: prev=>(∃ o,ops[prev.length]? = some o ∧ rK P n ops m E0 Hf p prev d o b) ∧ iS P n ops m E0 Hf p prev
def Dr (P : Program) (R : dP) (cx : Cx) (n : Nat) (ops : List Oper) (m : Nat) (k : List It) (E0 : bC) (Hf : Bool → Hp) (p : Nat) (l : List Oper) (acc : List (Nat × Ob)) : Prop :=
 ops = (ops.take acc.length) ++ l → iS P n ops m E0 Hf p acc → ∀ id,Tr P R cx n (.code (.region id ops.toArray true) :: k) E0 (Hf false)
def Fin' (P : Program) (R : dP) (cx : Cx) (n : Nat) (ops : Array Oper) (l : List Oper) (k : List It) : List (Nat × Ob) → bC → Hp → Prop
 | [],E,H=>Rg P R cx n ops l k E H
 | (d,.val T) :: r,E,H=>Fin' P R cx n ops l k r ((d,T) :: E) H
 | (d,.new γ T A) :: r,E,H=>∀ x:γ,Fin' P R cx n ops l k r ((d,T x) :: E) (H ++ [A x])
 | (_,.put) :: r,E,H=>Fin' P R cx n ops l k r E H
theorem D_start {ops:List Oper} {m:Nat} {id:Nat} (Hf:Bool → Hp) (p:Nat) (h:Dr P R cx n ops m k E Hf p ops []):Tr P R cx n (.code (.region id ops.toArray true) :: k) E (Hf false):=h (by simp) trivial id
theorem D_step {ops l : List Oper} {m : Nat} {o : Oper} {acc : List (Nat × Ob)} {d : Nat} {T : Ty} {Ei : bC} (hd : o.dst = some d) (hn : Nat.blt d n = true) (hs : Srcs ops m E acc o Ei) (hp : Nat.beq acc.length p = false) (hb : ((kU ops []).getD p 0).testBit acc.length = true) (hst : eM P n ops.toArray Ei (Hf false) o T)
  (h:Dr P R cx n ops m k E Hf p l ((d,.val T) :: acc)):Dr P R cx n ops m k E Hf p (o :: l) acc:=fun hops hobs=>by
 have hlen : acc.length ≤ ops.length := by
  have:=congrArg List.length hops
  simp at this; omega
 have ho : ops[acc.length]? = some o := by
  rw [hops,List.getElem?_append_right (by simp; omega)]
  simp [Nat.min_eq_left hlen]
 have hlt:acc.length < ops.length:=(List.getElem?_eq_some_iff.1 ho).1
 refine h ?_ ⟨⟨o,ho,⟨hd,Nat.le_of_ble_eq_true hn,fun e=>by rw [e] at hp; simp at hp⟩,Ei,hs,.inr ⟨hst,hb⟩⟩,hobs⟩
 rw [List.length_cons,List.take_succ_eq_append_getElem hlt]
 have:ops[acc.length] = o:=by simpa [hlt] using ho
 rw [this]
 simpa using hops
theorem D_pure {ops l : List Oper} {m : Nat} {o : Oper} {acc : List (Nat × Ob)} {d : Nat} {T : Ty} {Ei : bC} (hd : o.dst = some d) (hn : Nat.blt d n = true) (hs : Srcs ops m E acc o Ei) (hp : Nat.beq acc.length p = false) (hst : ∀ H, eM P n ops.toArray Ei H o T)
  (h:Dr P R cx n ops m k E Hf p l ((d,.val T) :: acc)):Dr P R cx n ops m k E Hf p (o :: l) acc:=fun hops hobs=>by
 have hlen : acc.length ≤ ops.length := by
  have:=congrArg List.length hops
  simp at this; omega
 have ho : ops[acc.length]? = some o := by
  rw [hops,List.getElem?_append_right (by simp; omega)]
  simp [Nat.min_eq_left hlen]
 have hlt:acc.length < ops.length:=(List.getElem?_eq_some_iff.1 ho).1
 refine h ?_ ⟨⟨o,ho,⟨hd,Nat.le_of_ble_eq_true hn,fun e=>by rw [e] at hp; simp at hp⟩,Ei,hs,.inl (fun b=>hst (Hf b))⟩,hobs⟩
 rw [List.length_cons,List.take_succ_eq_append_getElem hlt]
 have:ops[acc.length] = o:=by simpa [hlt] using ho
 rw [this]
 simpa using hops
theorem D_put {ops l : List Oper} {m : Nat} {o : Oper} {acc : List (Nat × Ob)} {Ei : bC} (hg : o.guard = none) (hd : o.dst = none) (hs : Srcs ops m E acc o Ei) (hp : acc.length = p) (hst : PutTy P n Ei (Hf false) (Hf true) o)
  (h:Dr P R cx n ops m k E Hf p l ((n,.put) :: acc)):Dr P R cx n ops m k E Hf p (o :: l) acc:=fun hops hobs=>by
 have hlen : acc.length ≤ ops.length := by
  have:=congrArg List.length hops
  simp at this; omega
 have ho : ops[acc.length]? = some o := by
  rw [hops,List.getElem?_append_right (by simp; omega)]
  simp [Nat.min_eq_left hlen]
 have hlt:acc.length < ops.length:=(List.getElem?_eq_some_iff.1 ho).1
 refine h ?_ ⟨⟨o,ho,hp,hg,hd,Ei,hs,hst⟩,hobs⟩
 rw [List.length_cons,List.take_succ_eq_append_getElem hlt]
 have:ops[acc.length] = o:=by simpa [hlt] using ho
 rw [this]
 simpa using hops
def fO : Ob → Ty × SA → Prop
 | .val T,c=>c = (T,SA.emp)
 | .new γ T A,c=>∃ x:γ,c = (T x,A x)
 | .put,c=>c.2 = SA.emp
theorem iS.get {ops : List Oper} {m : Nat} : ∀ {acc : List (Nat × Ob)}, iS P n ops m E Hf p acc → ∀ {i : Nat} {d : Nat} {b : Ob}, acc.reverse[i]? = some (d, b) →
  ∃ o,ops[i]? = some o ∧ rK P n ops m E Hf p ((acc.reverse.take i).reverse) d o b
 | [],_,i,d,b,h=>by simp at h
 | (d', b') :: prev, ⟨⟨o, h1, h4⟩, hp⟩, i, d, b, h => by
  rw [List.reverse_cons] at h
  by_cases e:i < prev.reverse.length
  ·rw [List.getElem?_append_left e] at h
   obtain ⟨o',q1,q4⟩:=hp.get h
   refine ⟨o',q1,?_⟩
   rw [List.reverse_cons,List.take_append_of_le_length (by omega)]; exact q4
  ·have hi : i = prev.length := by
    have:=(List.getElem?_eq_some_iff.1 h).1
    simp at this e; omega
   subst hi
   rw [List.getElem?_append_right (by simp)] at h
   simp at h
   obtain ⟨rfl,rfl⟩:=h
   refine ⟨o,h1,?_⟩
   rw [List.reverse_cons,List.take_append_of_le_length (by simp),List.take_of_length_le (by simp),List.reverse_reverse]
   exact h4
theorem iS.len {ops : List Oper} {m : Nat} : ∀ {acc : List (Nat × Ob)}, iS P n ops m E Hf p acc → ∀ i (h : i < acc.length), ∃ d b, acc.reverse[i]? = some (d, b) := fun {acc} _ i h =>
 ⟨_,_,by rw [List.getElem?_eq_getElem (by simpa using h)]⟩
structure oX (cx:Cx) (n:Nat) (ops:List Oper) (m:Nat) (E0:bC) (Hf:Bool → Hp) (p:Nat) (L:Nat → Bool) (C:Nat → Ty × SA) (V:aD) (a:Act) (w:World):Prop where
 inv:dR cx V (Hf (L p) ++ (List.range m).map fun i=>if L i then (C i).2 else SA.emp) w
 df:Lm n a.defers V
 sz:a.tmps.size = n
 old:∀ t T,cP E0 t = some T → (∀ j,j < m → cF ops j ≠ some t) → ∃ v,a.tmps[t]? = some v ∧ T.p v V
 now:∀ j d,j < m → L j = true → cF ops j = some d → ∃ v,a.tmps[d]? = some v ∧ (C j).1.p v V
theorem eT {ops : List Oper} {l : List Oper} : ∀ (r : List (Nat × Ob)) (E : bC) (H : Hp), Fin' P R cx n ops.toArray l k r E H → ∀ (C : Nat → Ty × SA) (i0 : Nat), (∀ (i d : Nat) (b : Ob), r[i]? = some (d, b) → fO b (C (i0 + i))) →
  ∃ E' H', Rg P R cx n ops.toArray l k E' H' ∧ (∀ t T, cP E' t = some T → (cP E t = some T ∧ ∀ (i d : Nat) (b : Ob), r[i]? = some (d, b) → b ≠ .put → d ≠ t) ∨ ∃ (i d : Nat) (b : Ob), r[i]? = some (d, b) ∧ b ≠ .put ∧ d = t ∧ T = (C (i0 + i)).1) ∧
   List.Sublist H' (H ++ (List.range r.length).map fun i=>(C (i0 + i)).2)
 | [],E,H,h,_,_,_=>⟨E,H,h,fun t T hT=>.inl ⟨hT,fun i d b hb _=>by simp at hb⟩,by simp⟩
 | (d, .val T0) :: r, E, H, h, C, i0, hC => by
  obtain ⟨E',H',h1,h2,h3⟩:=eT r _ H h C (i0 + 1) (fun i d b hb=>by have:=hC (i + 1) d b (by simpa using hb); rwa [show i0 + (i + 1) = i0 + 1 + i by omega] at this)
  have h0:C i0 = (T0,SA.emp):=hC 0 d (.val T0) rfl
  refine ⟨E',H',h1,fun t T hT=>?_,h3.trans ?_⟩
  ·rcases h2 t T hT with ⟨q1, q2⟩ | ⟨i, d', b, q1, q0, q2, q3⟩
   ·rw [bD] at q1
    by_cases e:d = t
    ·rw [if_pos e] at q1; obtain rfl := Option.some.inj q1
     exact .inr ⟨0,d,_,rfl,by simp,e,by rw [Nat.add_zero,h0]⟩
    ·rw [if_neg e] at q1
     refine .inl ⟨q1,fun i d' b hb hnp=>?_⟩
     cases i with
     | zero=>simp at hb; exact hb.1 ▸ e
     | succ i=>exact q2 i d' b (by simpa using hb) hnp
   ·exact .inr ⟨i + 1,d',b,by simpa using q1,q0,q2,by rw [q3,show i0 + (i + 1) = i0 + 1 + i by omega]⟩
  ·simp only [List.length_cons, List.range_succ_eq_map, List.map_cons, List.map_map]
   refine List.Sublist.append (List.Sublist.refl H) ?_
   refine List.Sublist.cons _ ?_
   have : (fun i => (C (i0 + 1 + i)).2) = ((fun i => (C (i0 + i)).2) ∘ Nat.succ) := by
    funext i; simp [show i0 + (i + 1) = i0 + 1 + i by omega]
   rw [this]; exact List.Sublist.refl _
 | (d, .new γ T0 A0) :: r, E, H, h, C, i0, hC => by
  obtain ⟨x,h0⟩:∃ x:γ,C i0 = (T0 x,A0 x):=hC 0 d (.new γ T0 A0) rfl
  obtain ⟨E',H',h1,h2,h3⟩:=eT r _ _ (h x) C (i0 + 1) (fun i d b hb=>by have:=hC (i + 1) d b (by simpa using hb); rwa [show i0 + (i + 1) = i0 + 1 + i by omega] at this)
  refine ⟨E',H',h1,fun t T hT=>?_,h3.trans ?_⟩
  ·rcases h2 t T hT with ⟨q1, q2⟩ | ⟨i, d', b, q1, q0, q2, q3⟩
   ·rw [bD] at q1
    by_cases e:d = t
    ·rw [if_pos e] at q1; obtain rfl := Option.some.inj q1
     exact .inr ⟨0,d,_,rfl,by simp,e,by rw [Nat.add_zero,h0]⟩
    ·rw [if_neg e] at q1
     refine .inl ⟨q1,fun i d' b hb hnp=>?_⟩
     cases i with
     | zero=>simp at hb; exact hb.1 ▸ e
     | succ i=>exact q2 i d' b (by simpa using hb) hnp
   ·exact .inr ⟨i + 1,d',b,by simpa using q1,q0,q2,by rw [q3,show i0 + (i + 1) = i0 + 1 + i by omega]⟩
  ·simp only [List.length_cons, List.range_succ_eq_map, List.map_cons, List.map_map, List.append_assoc]
   refine List.Sublist.append (List.Sublist.refl H) ?_
   have : (fun i => (C (i0 + 1 + i)).2) = ((fun i => (C (i0 + i)).2) ∘ Nat.succ) := by
    funext i; simp [show i0 + (i + 1) = i0 + 1 + i by omega]
   rw [this]
   simp only [Nat.add_zero,h0]
   exact List.Sublist.refl _
 | (d, .put) :: r, E, H, h, C, i0, hC => by
  obtain ⟨E',H',h1,h2,h3⟩:=eT r _ H h C (i0 + 1) (fun i d b hb=>by have:=hC (i + 1) d b (by simpa using hb); rwa [show i0 + (i + 1) = i0 + 1 + i by omega] at this)
  refine ⟨E',H',h1,fun t T hT=>?_,h3.trans ?_⟩
  ·rcases h2 t T hT with ⟨q1, q2⟩ | ⟨i, d', b, q1, q0, q2, q3⟩
   ·refine .inl ⟨q1, fun i d' b hb hnp => ?_⟩
    cases i with
    | zero=>simp at hb; exact absurd hb.2.symm hnp
    | succ i=>exact q2 i d' b (by simpa using hb) hnp
   ·exact .inr ⟨i + 1,d',b,by simpa using q1,q0,q2,by rw [q3,show i0 + (i + 1) = i0 + 1 + i by omega]⟩
  ·simp only [List.length_cons, List.range_succ_eq_map, List.map_cons, List.map_map]
   refine List.Sublist.append (List.Sublist.refl H) ?_
   refine List.Sublist.cons _ ?_
   have : (fun i => (C (i0 + 1 + i)).2) = ((fun i => (C (i0 + i)).2) ∘ Nat.succ) := by
    funext i; simp [show i0 + (i + 1) = i0 + 1 + i by omega]
   rw [this]; exact List.Sublist.refl _
theorem iS.dst {ops:List Oper} {m:Nat} {acc:List (Nat × Ob)} (h:iS P n ops m E Hf p acc) {i d:Nat} {b:Ob} (hi:acc.reverse[i]? = some (d,b)) (hb:b ≠ .put):cF ops i = some d:=by
 obtain ⟨o,h1,h2⟩:=h.get hi
 cases b with
 | val T=>simp [cF,h1,h2.1.1]
 | new γ T A=>simp [cF,h1,h2.1.1]
 | put=>exact absurd rfl hb
theorem iS.dst0 {ops:List Oper} {m:Nat} {acc:List (Nat × Ob)} (h:iS P n ops m E Hf p acc) {i d:Nat} (hi:acc.reverse[i]? = some (d,.put)):cF ops i = none:=by
 obtain ⟨o,h1,h2⟩:=h.get hi
 simp [cF,h1,h2.2.2.1]
theorem mC {ops : List Oper} {m : Nat} {acc : List (Nat × Ob)} {E0 : bC} (hlen : acc.length = m) (hobs : iS P n ops m E0 Hf p acc) (hfin : Fin' P R cx n ops.toArray (ops.drop m) k acc.reverse E0 (Hf true)) (hpm : p < m)
  {L:Nat → Bool} {a:Act} {w:World} {V:aD} {C:Nat → Ty × SA} (hall:∀ i,i < m → L i = true) (hC:∀ (i d:Nat) (b:Ob),acc.reverse[i]? = some (d,b) → fO b (C i)) (hM:oX cx n ops m E0 Hf p L C V a w) :
  wpList P ops.toArray (den P R k) (ops.drop m) a w:=by
 obtain ⟨E',H',h1,h2,h3⟩:=eT acc.reverse E0 (Hf true) hfin C 0 (fun i d b hb=>by rw [Nat.zero_add]; exact hC i d b hb)
 have hinv:=hM.inv
 rw [hall p hpm] at hinv
 refine h1 a w ⟨V,hinv.hp_of (fun hh=>?_),hM.df,hM.sz,fun t T hT=>?_⟩
 ·refine HH.sublist (h3.trans ?_) hh
  rw [List.length_reverse,hlen]
  have : (List.range m).map (fun i => (C (0 + i)).2) = (List.range m).map fun i => if L i then (C i).2 else SA.emp := by
   apply List.map_congr_left
   intro i hi
   rw [hall i (List.mem_range.1 hi)]; simp
  rw [this]; exact List.Sublist.refl _
 ·rcases h2 t T hT with ⟨q1, q2⟩ | ⟨i, d, b, q1, q0, q2, q3⟩
  ·refine hM.old t T q1 (fun j hj => ?_)
   obtain ⟨d,b,hb⟩:=iS.len hobs j (by omega)
   by_cases hbp:b = .put
   ·subst hbp; rw [hobs.dst0 hb]; simp
   ·rw [hobs.dst hb hbp]
    intro e; exact q2 j d b hb hbp (Option.some.inj e)
  ·have hi : i < m := by have := (List.getElem?_eq_some_iff.1 q1).1; simpa [hlen] using this
   subst q2; rw [q3,Nat.zero_add]
   exact hM.now i d hi (hall i hi) (hobs.dst q1 q0)
theorem oX.next {ops : List Oper} {m : Nat} {E0 : bC} (hd : Ah ops m) {listed : Array Bool} {a : Act} {w w' : World} {V V' : aD} {C : Nat → Ty × SA} (hsz : listed.size = ops.length) (hM : oX cx n ops m E0 Hf p (fun i => listed[i]? == some true) C V a w) {i d : Nat} (hi : i < m) (hip : i ≠ p)
  (hdst:cF ops i = some d) (hdn:d < n) (hli:listed[i]? = some false) {T:Ty} {A:SA} {v:Value} (hv:T.p v V') (hle:iT V V')
  (hinv:dR cx V' (Hf (listed[p]? == some true) ++ ((List.range m).map fun i=>if (listed[i]? == some true) = true then (C i).2 else SA.emp).set i A) w') :
  oX cx n ops m E0 Hf p (fun j=>(listed.setIfInBounds i true)[j]? == some true) (fun j=>if j = i then (T,A) else C j) V' (a.put (some d) v) w':=by
 have hil:i < listed.size:=(Array.getElem?_eq_some_iff.1 hli).1
 refine ⟨?_,hM.df.mono hle,by simp [Act.put,hM.sz],fun t U hU hn=>?_,fun j d' hj hL hdj=>?_⟩
 ·rw [jM hi] at hinv
  have e : ((List.range m).map fun j => if j = i then A else if (listed[j]? == some true) = true then (C j).2 else SA.emp) = (List.range m).map fun j => if ((listed.setIfInBounds i true)[j]? == some true) = true then (if j = i then (T, A) else C j).2 else SA.emp := by
   apply List.map_congr_left
   intro j _
   by_cases e:j = i
   ·subst e; simp [hil]
   ·rw [Array.getElem?_setIfInBounds_ne (fun x => e x.symm)]
    simp [e]
  rw [e] at hinv
  show dR cx V' (Hf ((listed.setIfInBounds i true)[p]? == some true) ++ _) w'
  rw [Array.getElem?_setIfInBounds_ne hip]; exact hinv
 ·obtain ⟨u, h1, h2⟩ := hM.old t U hU hn
  refine ⟨u,?_,U.mono h2 hle⟩
  rw [nS _ _ _ _ (fun e=>hn i hi (by rw [hdst,e]))]; exact h1
 ·by_cases e : j = i
  ·subst e
   rw [hdst] at hdj; obtain rfl:=Option.some.inj hdj
   exact ⟨v,by simp [Act.put,hM.sz,hdn],by simpa using hv⟩
  ·rw [Array.getElem?_setIfInBounds_ne (fun x => e x.symm)] at hL
   obtain ⟨u,h1,h2⟩:=hM.now j d' hj hL hdj
   refine ⟨u,?_,by simpa [e] using Ty.mono _ h2 hle⟩
   rw [nS _ _ _ _ (fun x=>?_)]
   ·exact h1
   ·subst x
    rcases Nat.lt_or_ge j i with q | q
    ·exact hd.dst i j hi q _ hdst hdj
    ·exact hd.dst j i hj (by omega) _ hdj hdst
theorem oX.put {ops : List Oper} {m : Nat} {E0 : bC} {listed : Array Bool} {a : Act} {w w' : World} {V : aD} {C : Nat → Ty × SA} (hM : oX cx n ops m E0 Hf p (fun i => listed[i]? == some true) C V a w) (hi : p < m)
  (hdst:cF ops p = none) (hli:listed[p]? = some false)
  (hinv:dR cx V (Hf true ++ (List.range m).map fun i=>if (listed[i]? == some true) = true then (C i).2 else SA.emp) w') :
  oX cx n ops m E0 Hf p (fun j=>(listed.setIfInBounds p true)[j]? == some true) (fun j=>if j = p then (jV,SA.emp) else C j) V a w':=by
 have hil:p < listed.size:=(Array.getElem?_eq_some_iff.1 hli).1
 refine ⟨?_,hM.df,hM.sz,hM.old,fun j d' hj hL hdj=>?_⟩
 ·have e : ((List.range m).map fun i => if (listed[i]? == some true) = true then (C i).2 else SA.emp) = (List.range m).map fun j => if ((listed.setIfInBounds p true)[j]? == some true) = true then (if j = p then (jV, SA.emp) else C j).2 else SA.emp := by
   apply List.map_congr_left
   intro j _
   by_cases e:j = p
   ·subst e
    have hf:listed[j] = false:=by simpa [hil] using hli
    simp [hil,hf]
   ·rw [Array.getElem?_setIfInBounds_ne (fun x => e x.symm)]
    simp [e]
  rw [e] at hinv
  show dR cx V (Hf ((listed.setIfInBounds p true)[p]? == some true) ++ _) w'
  have:((listed.setIfInBounds p true)[p]? == some true) = true:=by simp [hil]
  rw [this]; exact hinv
 ·by_cases e : j = p
  ·subst e; rw [hdst] at hdj; cases hdj
  ·rw [Array.getElem?_setIfInBounds_ne (fun x => e x.symm)] at hL
   simpa [e] using hM.now j d' hj hL hdj
theorem jA {ops : List Oper} {m : Nat} {acc : List (Nat × Ob)} {E0 : bC} (hd : Ah ops m) (hlen : acc.length = m) (hobs : iS P n ops m E0 Hf p acc) (hfin : Fin' P R cx n ops.toArray (ops.drop m) k acc.reverse E0 (Hf true)) (hpm : p < m) (hpo : p < ops.length) :
  ∀ (fuel : Nat) (listed : Array Bool) (a : Act) (w : World) (V : aD) (C : Nat → Ty × SA), LI ops listed → fC listed.toList ≤ fuel → (∀ i : Nat, m ≤ i → i < ops.length → listed[i]? = some false) →
   (∀ (i d:Nat) (b:Ob),acc.reverse[i]? = some (d,b) → listed[i]? = some true → fO b (C i)) → oX cx n ops m E0 Hf p (fun i=>listed[i]? == some true) C V a w → wpAny P .any ops.toArray (den P R k) fuel listed a w:=by
 intro fuel
 have done : ∀ (listed : Array Bool) (a : Act) (w : World) (V : aD) (C : Nat → Ty × SA), LI ops listed → ∀ fuel, fC listed.toList ≤ fuel → (∀ i : Nat, m ≤ i → i < ops.length → listed[i]? = some false) →
   (∀ (i d:Nat) (b:Ob),acc.reverse[i]? = some (d,b) → listed[i]? = some true → fO b (C i)) → oX cx n ops m E0 Hf p (fun i=>listed[i]? == some true) C V a w → (∀ i:Nat,i < m → listed[i]? = some true) → wpAny P .any ops.toArray (den P R k) fuel listed a w:=by
  intro listed a w V C hL fuel hc hl hC hM hall
  have hge:=sH listed.toList m (by simpa [hL.sz] using hd.le) (fun i h1 h2=>by simpa using hl i h1 (by simpa [hL.sz] using h2))
  refine lS hd fuel m listed a w (Nat.le_refl m) hd.le (by simp [hL.sz] at hge; omega) hL (fun i hi=>?_) ?_
  ·by_cases e : i < m
   ·rw [hall i e]; simp [e]
   ·rw [hl i (by omega) hi]; simp; omega
  ·refine mC hlen hobs hfin hpm (fun i hi => by rw [hall i hi]; rfl) (fun i d b hb => hC i d b hb (hall i ?_)) hM
   have:=(List.getElem?_eq_some_iff.1 hb).1
   simpa [hlen] using this
 induction fuel with
 | zero =>
  intro listed a w V C hL hc hl hC hM
  refine done listed a w V C hL 0 hc hl hC hM (fun i hi=>?_)
  have hil:i < listed.size:=by rw [hL.sz]; have:=hd.le; omega
  cases hb:listed[i] with
  | true=>simp [hil,hb]
  | false =>
   have:=mP listed.toList i (by simp [hil,hb])
   omega
 | succ fuel ih =>
  intro listed a w V C hL hc hl hC hM
  by_cases hall:∀ i:Nat,i < m → listed[i]? = some true
  ·exact done listed a w V C hL _ hc hl hC hM hall
  refine ⟨fun hr=>absurd (fun i hi=>lO hr hL.sz hd.back i (by have:=hd.le; omega)) hall,fun i hi=>?_⟩
  obtain ⟨o,h1,h2,h3⟩:=jS hi hL.sz
  have him : i < m := by
   rcases Nat.lt_or_ge i m with hx | hx
   ·exact hx
   ·exact absurd (fun j hj=>hL.before hd h1 h3 hx j (by omega)) hall
  obtain ⟨d,b,hb⟩:=iS.len hobs i (by omega)
  obtain ⟨o',q1,q4⟩:=hobs.get hb
  rw [h1] at q1; obtain rfl:=Option.some.inj q1
  have hpl:(acc.reverse.take i).reverse.length = i:=by simp; omega
  have slots : ∀ Ei, Srcs ops m E0 (acc.reverse.take i).reverse o Ei → bR n Ei V a := fun Ei hS => by
   refine ⟨hM.df,hM.sz,fun t T hT=>?_⟩
   rcases hS t T hT with ⟨r1,r2⟩ | ⟨j,r1,r2⟩
   ·refine hM.old t T r1 (fun j hj e => ?_)
    have:=List.all_eq_true.1 r2 j (List.mem_range.2 hj)
    simp [e] at this
   ·rw [List.reverse_reverse, List.getElem?_take] at r1
    split at r1
    case isFalse=>cases r1
    case isTrue hji =>
    obtain ⟨e,he,hb'⟩:=List.any_eq_true.1 r2
    simp only [Bool.and_eq_true] at hb'
    have hon:e.on = j:=Nat.eq_of_beq_eq_true hb'.1
    have hlj:=h3 e he hb'.2
    rw [hon] at hlj
    have hc':C j = (T,SA.emp):=hC j t (.val T) r1 hlj
    obtain ⟨v,s1,s2⟩:=hM.now j t (by omega) (by rw [hlj]; rfl) (hobs.dst r1 (by simp))
    exact ⟨v,s1,by rw [hc'] at s2; exact s2⟩
  have hcnt : fC (listed.setIfInBounds i true).toList ≤ fuel := by
   have:=mQ listed.toList i (by simpa using h2)
   rw [Array.toList_setIfInBounds]; omega
  have hl' : ∀ j : Nat, m ≤ j → j < ops.length → (listed.setIfInBounds i true)[j]? = some false := fun j hj hjl => by
   rw [Array.getElem?_setIfInBounds_ne (by omega)]; exact hl j hj hjl
  have took : ∀ (T : Ty) (A : SA), fO b (T, A) → ∀ (j d : Nat) (b : Ob), acc.reverse[j]? = some (d, b) → (listed.setIfInBounds i true)[j]? = some true → fO b (if j = i then (T, A) else C j) := fun T A ht j d' b' hb' hj => by
   by_cases e:j = i
   ·subst e
    rw [hb] at hb'; simp at hb'
    simp only [if_pos]; exact hb'.2 ▸ ht
   ·rw [Array.getElem?_setIfInBounds_ne (fun x => e x.symm)] at hj
    simp only [if_neg e]; exact hC j d' b' hb' hj
  have hx : ((List.range m).map fun i => if (listed[i]? == some true) = true then (C i).2 else SA.emp).set i SA.emp = (List.range m).map fun i => if (listed[i]? == some true) = true then (C i).2 else SA.emp := by
   rw [jM him]
   apply List.map_congr_left
   intro j _
   by_cases e:j = i
   ·subst e; simp [h2]
   ·simp [e]
  unfold wpOp
  simp only [List.getElem?_toArray,h1]
  cases b with
  | val T =>
   obtain ⟨⟨q2,q3,q5⟩,Ei,hS,hst⟩:=q4
   rw [hpl] at q5
   have hdst:=hobs.dst hb (by simp)
   have hst' : eM P n ops.toArray Ei (Hf (listed[p]? == some true)) o T := by
    rcases hst with hst | ⟨hst,hbit⟩
    ·exact hst _
    ·have hnp : (listed[p]? == some true) = false := by
      cases hlp:(listed[p]? == some true) with
      | false=>rfl
      | true =>
       exfalso
       have hlp':listed[p]? = some true:=by simpa using hlp
       rw [hpl] at hbit
       have ho:ops[p]? = some ops[p]:=List.getElem?_eq_getElem hpo
       have:=pP (fun j=>listed[j]? = some true) ops hL.cl ops [] (fun j o hj=>by simpa using hj) (fun k o hk=>by simp at hk) p ops[p] (by rw [jN]; simpa using hpo) ho (hL.cl p _ ho hlp') i hbit
       rw [h2] at this; simp at this
     rw [hnp]; exact hst
   have := hst' cx _ a w V hM.inv (slots Ei hS) (wpAny P .any ops.toArray (den P R k) fuel (listed.setIfInBounds i true)) (den P R k) (fun v w' V' hi' hle hv => by
    rw [q2]
    exact ih _ _ _ V' _ (hL.set h1 h3) hcnt hl' (took T SA.emp rfl) (hM.next hd hL.sz him q5 hdst q3 h2 hv hle (by rw [hx]; exact hi')))
   split
   ·rename_i hw; rw [if_pos hw] at this; exact .inl this
   ·rename_i hw; rw [if_neg hw] at this; exact this
  | new γ T A =>
   obtain ⟨⟨q2,q3,q5⟩,hg,Ei,hS,hst⟩:=q4
   rw [hpl] at q5
   have hdst:=hobs.dst hb (by simp)
   rw [if_pos (by simp [Region.wanted,hg])]
   left
   refine hst (listed[p]? == some true) cx _ a w V hM.inv (slots Ei hS) _ _ fun x v w' V' e3 hle e2=>?_
   rw [q2]
   refine ih _ _ _ V' _ (hL.set h1 h3) hcnt hl' (took (T x) (A x) ⟨x,rfl⟩) (hM.next hd hL.sz him q5 hdst q3 h2 e2 hle (e3.hp_of (fun hh=>?_)))
   have:=HH.move (p:=(Hf (listed[p]? == some true)).length + i) hh (by simp; omega)
   rw [List.set_append_right _ _ (by omega),show (Hf (listed[p]? == some true)).length + i - (Hf (listed[p]? == some true)).length = i by omega] at this
   exact this
  | put =>
   obtain ⟨q5,hg,q2,Ei,hS,hst⟩:=q4
   rw [hpl] at q5
   subst q5
   have hnp:(listed[i]? == some true) = false:=by rw [h2]; rfl
   have hinv:=hM.inv
   rw [hnp] at hinv
   obtain ⟨w',e1,e3⟩:=hst cx _ a w V hinv (slots Ei hS)
   rw [if_pos (by simp [Region.wanted,hg])]
   left
   simp only [Oper.wp,e1,Oper.upon_skip]
   have ep:a.put o.dst undef = a:=by rw [q2]; rfl
   rw [ep]
   exact ih _ _ _ V _ (hL.set h1 h3) hcnt hl' (took jV SA.emp rfl) (hM.put him (hobs.dst0 hb) h2 e3)
theorem D_done {ops l : List Oper} {m : Nat} {acc : List (Nat × Ob)} (hP : P.follows .mixedOrders = true) (hm : acc.length = m) (hchk : qP ops m = true) (hpm : Nat.blt p m = true) (h : Fin' P R cx n ops.toArray l k acc.reverse E (Hf true)) : Dr P R cx n ops m k E Hf p l acc := fun hops hobs id a w ⟨V, hi, hs⟩ => by
 have hd:=Ah.of hchk
 have hl : ops.drop m = l := by
  conv=>lhs; rw [hops]
  rw [List.drop_append,List.drop_of_length_le (by simp; omega)]
  simp [hm,Nat.min_eq_left hd.le]
 refine wp_region_any hP ?_
 have hnone : ∀ i : Nat, (Array.replicate ops.toArray.size false)[i]? ≠ some true := fun i h => by
  rw [Array.getElem?_replicate] at h; split at h <;> simp at h
 have hpm':p < m:=Nat.le_of_ble_eq_true hpm
 refine jA (cx:=cx) (n:=n) (E0:=E) (Hf:=Hf) (p:=p) hd hm hobs (by rw [hl]; exact h) hpm' (by have:=hd.le; omega) _ _ a _ V (fun _=>(jV,SA.emp)) ⟨by simp,fun i o ho h=>absurd h (hnone i)⟩ ?_ (fun i h1 h2=>by simp [h2]) (fun i d b _ h=>absurd h (hnone i)) ?_
 ·have : ∀ j, fC (List.replicate j false) ≤ j := fun j => by
   induction j with
   | zero=>simp [fC]
   | succ j ih=>simp only [List.replicate_succ,fC]; simp; omega
  simpa using this _
 ·refine ⟨?_, hs.1, hs.2.1, fun t T hT _ => hs.2.2 t T hT, fun j d hj hL => ?_⟩
  ·have e : ((List.range m).map fun i => if ((Array.replicate ops.toArray.size false)[i]? == some true) = true then ((fun _ => (jV, SA.emp)) i : Ty × SA).2 else SA.emp) = (List.range m).map fun _ => SA.emp := by
    apply List.map_congr_left; intro i _; split <;> rfl
   rw [e]
   have h0 : ((Array.replicate ops.toArray.size false)[p]? == some true) = false := by
    cases hc:((Array.replicate ops.toArray.size false)[p]? == some true) with
    | false=>rfl
    | true=>exact absurd (by simpa using hc) (hnone p)
   simp only [h0]
   have:=hi.drew
   refine this.hp_of (fun hh=>?_)
   obtain ⟨F,f1,f2⟩:=hh
   refine ⟨fun i=>if i < (Hf false).length then F i else [],fun i A hA=>?_,fun i j b hi hj hbi hbj=>?_⟩
   ·by_cases e : i < (Hf false).length
    ·rw [List.getElem?_append_left e] at hA
     simp only [if_pos e]; exact f1 i A hA
    ·rw [List.getElem?_append_right (by omega)] at hA
     have : A = SA.emp := by
      rw [List.getElem?_map] at hA
      cases hq:(List.range m)[i - (Hf false).length]? with
      | none=>rw [hq] at hA; cases hA
      | some q=>rw [hq] at hA; simpa using hA.symm
     subst this
     simp only [if_neg e]
     exact ⟨rfl,fun b hb=>by simp at hb⟩
   ·by_cases e : i < (Hf false).length <;> by_cases e' : j < (Hf false).length
    ·simp only [if_pos e,if_pos e'] at hbi hbj; exact f2 i j b e e' hbi hbj
    ·simp [e'] at hbj
    ·simp [e] at hbi
    ·simp [e] at hbi
  ·exact absurd (by simpa using hL) (hnone j)
theorem F_nil {ops:Array Oper} {l:List Oper} (h:Rg P R cx n ops l k E H):Fin' P R cx n ops l k [] E H:=h
theorem F_val {ops:Array Oper} {l:List Oper} {d:Nat} {T:Ty} {r:List (Nat × Ob)} (h:Fin' P R cx n ops l k r ((d,T) :: E) H):Fin' P R cx n ops l k ((d,.val T) :: r) E H:=h
theorem F_put {ops:Array Oper} {l:List Oper} {d:Nat} {r:List (Nat × Ob)} (h:Fin' P R cx n ops l k r E H):Fin' P R cx n ops l k ((d,.put) :: r) E H:=h
end
end W
end
section
open Go Go.RowKit
section
variable {P:Program} {R:dP} {cx:Cx} {n:Nat} {k:List It} {E:bC} {H:Hp} {ops:Array Oper} {o:Oper} {rest:List Oper}
variable {d:Option Tmp} {t tx ty:TypeId} {pos:String} {af:Array Edge} {g:Option (Nat × Bool)}
theorem sL {H X:Hp} {i:Nat} {A:SA} (h:H[i]? = some A):(H ++ X)[i]? = some A:=by
 rw [List.getElem?_append_left (List.getElem?_eq_some_iff.1 h).1]; exact h
theorem Eb {H X:Hp} {i:Nat} {A B:SA} (h:H[i]? = some A):(H ++ X).set i B = H.set i B ++ X:=List.set_append_left _ _ (List.getElem?_eq_some_iff.1 h).1
theorem Ug {x y : Operand} {i e s q r : Nat} {v : Value} {Ts : List Ty} {T : Ty} (hS : ∀ w, (sizeOf t).run P w = .ok s w) (hx : aN E x (Ud v r)) (hy : aN E y T) (hEl : El s T)
  (hH:H[i]? = some (bA e s v Ts)) (hr:r = q * s) (hq:q < Ts.length) {t':TypeId}:W.PutTy P n E H (H.set i (bA e s v (Ts.set q T))) ⟨none,.store t x y,t',pos,af,none⟩ :=
 fun cx X a w V hi hs=>Ec (H:=H ++ X) hS hx hy hEl (sL hH) hr hq (Eb hH) a w V hi hs
def Ch (p:Prop) (T:Ty):Ty:=⟨fun v V=>(p → T.p v V) ∧ (¬p → v = undef),fun h k=>⟨fun x=>T.mono (h.1 x) k,h.2⟩⟩
theorem aN.wu {t : Nat} {p : Prop} {T : Ty} (h : cP E t = some (Ch p T)) (hp : p) : aN E (.tmp t) T := fun n V a hs => by
 obtain ⟨v,h1,h2⟩:=hs.2.2 t _ h
 have e:a.eval (.tmp t) = v:=by simp [Act.eval,h1]
 rw [e]; exact h2.1 hp
theorem pC {T : Ty} {j : Nat} {want : Bool} {tb : Nat} {b : Bool} (hg : o.guard = some (j, want)) (hj : (ops[j]?).bind (·.dst) = some tb) (hb : aN E (.tmp tb) (aB b))
  (h:b = want → aF P n E H o T):eM P n ops E H o (Ch (b = want) T):=fun cx X a w V hi hs K Q hK=>by
 have e:a.eval (.tmp tb) = .bool b:=hb n V a hs
 have hy : yielded ops a.tmps j = some b := by
  simp only [yielded,hj,Option.bind_some]
  simp only [Act.eval] at e
  have : a.tmps[tb]? = some (.bool b) := by
   cases h1:a.tmps[tb]? with
   | none=>simp [h1,undef] at e
   | some v=>simp [h1] at e; rw [e]
  rw [this]
 by_cases hw:b = want
 ·rw [if_pos (by simp [Region.wanted, hg, hy, hw])]
  exact h hw cx X a w V hi hs K Q (fun v w' V' h1 h2 h3=>hK v w' V' h1 h2 ⟨fun _=>h3,fun x=>absurd hw x⟩)
 ·rw [if_neg (by simp [Region.wanted, hg, hy, hw])]
  exact hK _ _ V hi (iT.refl V) ⟨fun x=>absurd x hw,fun _=>rfl⟩
theorem Cf {T : Ty} {j : Nat} {want : Bool} {tb : Nat} {b : Bool} {p : Prop} (hg : o.guard = some (j, want)) (hj : (ops[j]?).bind (·.dst) = some tb) (hb : cP E tb = some (Ch p (aB b)))
  (h:p → b = want → aF P n E H o T):eM P n ops E H o (Ch (p ∧ b = want) T):=fun cx X a w V hi hs K Q hK=>by
 obtain ⟨v,h1,h2,h3⟩:=hs.2.2 tb _ hb
 by_cases hp:p
 ·have hv : v = .bool b := h2 hp
  have hy : yielded ops a.tmps j = some b := by
   simp only [yielded,hj,Option.bind_some,h1,hv]
  by_cases hw:b = want
  ·rw [if_pos (by simp [Region.wanted, hg, hy, hw])]
   exact h hp hw cx X a w V hi hs K Q (fun v w' V' h1 h2 h3=>hK v w' V' h1 h2 ⟨fun _=>h3,fun x=>absurd ⟨hp,hw⟩ x⟩)
  ·rw [if_neg (by simp [Region.wanted, hg, hy, hw])]
   exact hK _ _ V hi (iT.refl V) ⟨fun x=>absurd x.2 hw,fun _=>rfl⟩
 ·have hv : v = undef := h3 hp
  have hy : yielded ops a.tmps j = none := by
   simp only [yielded,hj,Option.bind_some,h1,hv]; rfl
  rw [if_neg (by simp [Region.wanted,hg,hy])]
  exact hK _ _ V hi (iT.refl V) ⟨fun x=>absurd x.1 hp,fun _=>rfl⟩
theorem Qy {fn : Func} {Z : SA} {γ : Type} {U : γ → Ty} {As' : γ → Hp} {Q : γ → Prop} (x : γ) (hQ : Q x) (is : List Nat) (hp : qZ H is (Z :: As' x)) (nd : is.Nodup)
  (hr:∀ (a:Act) (w:World) (V:aD),dR cx V H w → bR n E V a → ∃ v,(results fn a.tmps).run P w = .ok v w ∧ (U x).p v V) (h206:Nat.beq n 206 = false:=by rfl):Tr P (Qw P fn cx Z γ U As' Q) cx n [] E H :=
 Uk fun a w ⟨V, hi, hs⟩ => by
  obtain ⟨v,h1,h2⟩:=hr a w V hi hs
  exact ⟨hs.1.nil h206,v,h1,v,V,x,rfl,hi.le,hi.withHH (hi.hp.pick hp nd),h2,hQ⟩
def oC (l:List Nat):Ty:=⟨fun v _=>∃ s:ByteArray,v = .string s ∧ s.data.toList.map UInt8.toNat = l,fun h _=>h⟩
instance shStrT (l:List Nat):bN (oC l) 1 false:=eI fun v V h=>by obtain ⟨s,rfl,_⟩:=h; trivial
abbrev uT (m:Nat):Ty:=NT .u8 m
theorem kK {l m:List Nat} (h:l = m):∀ v V,(oC l).p v V → (oC m).p v V:=fun v V e=>h ▸ e
theorem aN.cS {s:ByteArray} {l:List Nat} (h:s.data.toList.map UInt8.toNat = l):aN E (.const (.string s)) (oC l):=fun n V a _=>⟨s,rfl,h⟩
theorem aN.to {x:Operand} {T U:Ty} (h:aN E x T) (i:∀ v V,T.p v V → U.p v V):aN E x U:=fun n V a hs=>i _ _ (h n V a hs)
theorem nX {x y : Operand} {l m : List Nat} (hx : aN E x (oC l)) (hy : aN E y (oC m)) (hl : l.length + m.length ≤ 9223372036854775807) : aF P n E H ⟨d, .binOp .add tx x y ty, t, pos, af, g⟩ (oC (l ++ m)) :=
 cH fun a V w hs => by
  obtain ⟨s,e1,h1⟩:=hx n V a hs
  obtain ⟨s',e2,h2⟩:=hy n V a hs
  have l1:s.size = l.length:=by rw [← h1,List.length_map]; exact Array.length_toList.symm
  have l2:s'.size = m.length:=by rw [← h2,List.length_map]; exact Array.length_toList.symm
  have hr:=run_string_add_sum (P:=P) (w:=w) s s' (by omega)
  refine ⟨.string (s ++ s'),?_,s ++ s',rfl,?_⟩
  ·have g1 : eqGuard .add tx x y (.string s) (.string s') = pure () := rfl
   have g2:binOp .add tx (.string s) (.string s') = Op.stringOp .add s s':=rfl
   simp only [execOp,e1,e2]
   rw [g1,g2]
   simp [Sem.run_bind,hr,Result.andThen]
  ·rw [← h1,← h2,← List.map_append]; simp [ByteArray.data_append]
theorem toNat_inj {a b:List UInt8} (h:a.map UInt8.toNat = b.map UInt8.toNat):a = b:=by
 induction a generalizing b with
 | nil => cases b with
  | nil=>rfl
  | cons=>simp at h
 | cons x a ih => cases b with
  | nil=>simp at h
  | cons y b =>
   simp only [List.map_cons,List.cons.injEq] at h
   rw [ih h.2,UInt8.toNat_inj.1 h.1]
theorem Jm {x y : Operand} {l m : List Nat} (hx : aN E x (oC l)) (hy : aN E y (oC m)) : aF P n E H ⟨d, .binOp .eql tx x y ty, t, pos, af, g⟩ (aB (decide (l = m))) :=
 cH fun a V w hs => by
  obtain ⟨s,e1,h1⟩:=hx n V a hs
  obtain ⟨s',e2,h2⟩:=hy n V a hs
  refine ⟨.bool (s.toList == s'.toList),?_,?_⟩
  ·have g1 : eqGuard .eql tx x y (.string s) (.string s') = pure () := rfl
   have g2:binOp .eql tx (.string s) (.string s') = pure (.bool (s.toList == s'.toList)):=by rw [binOp_string_eql]
   simp only [execOp,e1,e2]
   rw [g1,g2]
   simp [Sem.run_bind,Result.andThen]
  ·show Value.bool _ = Value.bool _
   congr 1
   rw [ByteArray.toList_eq,ByteArray.toList_eq,Bool.eq_iff_iff]
   simp only [beq_iff_eq,decide_eq_true_eq]
   rw [← h1,← h2]
   exact ⟨fun e=>by rw [e],toNat_inj⟩
theorem Jk {x : Operand} {l : List Nat} {e : TypeId} (hs : P.underlying tx = some (.slice e)) (he : P.underlying e = some (.int .u8)) (hd : P.underlying ty = some .string) (hx : aN E x (jL 1 (l.map uT))) (hne : l ≠ []) (hl : ∀ b, b ∈ l → b < 256) :
  aF P n E H ⟨d,.convert tx ty x,t,pos,af,g⟩ (oC l) :=
 Dv fun a V w hV hsl => by
  have hne':l.map uT ≠ []:=fun e=>hne (by simpa using e)
  obtain ⟨b,ob,cap,xs,ex,_,hrow,hc⟩:=jL.row (hx n V a hsl) hne' (fun T hT=>by obtain ⟨q,_,rfl⟩:=List.mem_map.1 hT; exact El.one)
  have hpl : ∀ v, v ∈ xs → gO v := fun v hv => by
   obtain ⟨T,hT,hv⟩:=hrow.all.mem v hv
   obtain ⟨q,_,rfl⟩:=List.mem_map.1 hT
   cases hv; trivial
  have hcell:=hc w hV
  rw [oR xs hpl] at hcell
  have hr := run_convert_bytes_arg (P := P) w tx e hs he b ob (l.map uT).length cap (l.map (fun q : Nat => (q : Int))) (by simp) (fun i hi => by
   have hil:i < l.length:=by simpa using hi
   obtain ⟨v,h1,h2⟩:=hrow.all.get (i:=i) (T:=uT l[i]) (by simp [hil])
   have h3:=hcell i v h1
   rw [gE] at h3
   have h2':v = .int .u8 (l[i]:Int):=h2
   rw [h3,h2']; simp [List.getD,hil]) ty hd
  refine ⟨.string (strOfNums (l.map (fun q:Nat=>(q:Int)))),by simp only [execOp,ex,Sem.run_bind,hr,Result.andThen]; rfl,_,rfl,?_⟩
  rw [strOfNums_data,List.map_map,List.map_map]
  conv=>rhs; rw [← List.map_id l]
  apply List.map_congr_left
  intro q hq
  have:=hl q hq
  simp [UInt8.toNat_ofNat']
  omega
end
end
section
open Go Go.RowKit
structure wC (l o:List Nat) (k:Nat):Prop where
 len:o.length = l.length
 kle:2 * k ≤ l.length
 at_:∀ q,q < l.length → o.getD q 0 = if q < k ∨ l.length - k ≤ q then l.getD (l.length - 1 - q) 0 else l.getD q 0
theorem wC.start (l:List Nat):wC l l 0:=⟨rfl,Nat.zero_le _,fun q hq=>by rw [if_neg (by omega)]⟩
theorem wC.next {l o:List Nat} {k:Nat} (h:wC l o k) (hk:2 * k + 1 < l.length) {j:Nat} (hj:j = l.length - 1 - k):wC l ((o.set k (o.getD j 0)).set j (o.getD k 0)) (k + 1):=by
 have hl:=h.len
 refine ⟨by simp [hl],by omega,fun q hq=>?_⟩
 have ak:=h.at_ k (by omega); have aj:=h.at_ j (by omega); have aq:=h.at_ q hq
 rw [if_neg (by omega)] at ak aj
 by_cases e1:q = j
 ·subst e1
  rw [kR (by simp; omega),ak,if_pos (by omega)]
  congr 1; omega
 ·rw [bO (fun x => e1 x.symm)]
  by_cases e2:q = k
  ·subst e2
   rw [kR (by omega),aj,if_pos (by omega),hj]
  ·rw [bO (fun x => e2 x.symm), aq]
   by_cases c:q < k ∨ l.length - k ≤ q
   ·rw [if_pos c,if_pos (by omega)]
   ·rw [if_neg c,if_neg (by omega)]
theorem wC.fin {l o:List Nat} {k:Nat} (h:wC l o k) (hk:l.length ≤ 2 * k + 1):o = l.reverse:=by
 have hl:=h.len; have hkl:=h.kle
 apply List.ext_getElem
 ·simp [hl]
 ·intro q h1 h2
  have hq:=h.at_ q (by omega)
  rw [eA h1] at hq
  rw [hq,List.getElem_reverse]
  by_cases c:q < k ∨ l.length - k ≤ q
  ·rw [if_pos c,eA (by omega)]
  ·rw [if_neg c]
   have:l.length - 1 - q = q:=by omega
   rw [eA (by omega)]; congr 1; omega
theorem Vn (L:Nat):BB ^ L ≤ 10 ^ (10 * L):=by
 rw [Nat.pow_mul]; exact Nat.pow_le_pow_left (by decide) _
theorem mT (n:Nat):(mS n).length ≤ 10 * (dg n).length:=by
 have h:=fT (bF n)
 rw [cE] at h
 exact If (Nat.lt_of_lt_of_le h (Vn _))
theorem tB.len {N x r k:Nat} {out:List Nat} (h:tB N out x r k) (hp:0 < x ∨ 0 < r):out.length + 1 ≤ 10 * (dg N).length:=by
 have h1:=congrArg List.length h.sum
 have h2:=mT N
 have pp:0 < 10 ^ (9 - k):=Nat.pow_pos (by decide)
 have hne : x * 10 ^ (9 - k) + r ≠ 0 := by
  rcases hp with h3 | h3
  ·have:=Nat.mul_pos h3 pp; omega
  ·omega
 rw [mU hne,List.length_append,List.length_cons] at h1
 omega
theorem tB.r32 {N x r k:Nat} {out:List Nat} (h:tB N out x r k):r < 4294967296:=by
 have h1:=h.rlt
 have h2:10 ^ (9 - k) ≤ 10 ^ 9:=Nat.pow_le_pow_right (by decide) (by omega)
 omega
theorem Tw (l:List Nat) (d:Nat):l.map uT ++ [uT d] = (l ++ [d]).map uT:=by simp
theorem Lg (l:List Nat) (i d:Nat):(l.map uT).set i (uT d) = (l.set i d).map uT:=by rw [List.map_set]
theorem Pn (l:List Nat) (i d j e:Nat):((l.map uT).set i (uT d)).set j (uT e) = ((l.set i d).set j e).map uT:=by rw [Lg,Lg]
theorem sI {n:Nat} (h:n ≠ 0):tK n = (mS n).reverse:=by simp [tK,h]
theorem Sc {n : Nat} : ∀ b, b ∈ tK n → b < 256 := fun b hb => by
 by_cases h:n = 0
 ·subst h; simp [tK] at hb; omega
 ·rw [sI h] at hb
  have:=Ie (List.mem_reverse.1 hb); omega
theorem Mw {n:Nat} (h:n ≠ 0):mS n ≠ []:=by rw [mU h]; simp
theorem pH (n:Nat):(tK n).length ≤ 10 * (dg n).length + 1:=by
 by_cases h:n = 0
 ·subst h; simp [tK]
 ·rw [sI h,List.length_reverse]; have:=mT n; omega
end
section
structure Qi where
 re:Rat
 im:Rat
namespace Qi
theorem ext' {x y:Qi} (h:x.re = y.re) (k:x.im = y.im):x = y:=by cases x; cases y; simp at h k; rw [h,k]
def den (x:Qi):Nat:=Nat.lcm x.re.den x.im.den
def a (x:Qi):Int:=x.re.num * (x.den / x.re.den:Nat)
def b (x:Qi):Int:=x.im.num * (x.den / x.im.den:Nat)
def mk' (A B:Int) (D:Nat):Qi:=⟨(A:Rat) / (D:Rat),(B:Rat) / (D:Rat)⟩
theorem den_pos (x:Qi):0 < x.den:=Nat.lcm_pos x.re.den_pos x.im.den_pos
theorem nc {n:Nat} (h:0 < n):(n:Rat) ≠ 0:=by
 intro e; have:(n:Rat) = ((0:Nat):Rat):=e; have:=Rat.natCast_inj.1 this; omega
theorem vI {q:Rat} {A:Int} {D:Nat} (hD:0 < D):q = (A:Rat) / (D:Rat) ↔ q.num * D = A * q.den:=by
 have h1:=nc hD; have h2:=nc q.den_pos
 have h3:q = (q.num:Rat) / (q.den:Rat):=((Rat.num_divInt_den q).symm.trans (Rat.divInt_eq_div _ _))
 constructor
 ·intro h
  have : (q.num : Rat) * (D : Rat) = (A : Rat) * (q.den : Rat) := by
   have e:(q.num:Rat) = q * (q.den:Rat):=by grind
   have e2:(A:Rat) = q * (D:Rat):=by grind
   rw [e,e2]; grind
  have h5 : ((q.num * (D : Int) : Int) : Rat) = ((A * (q.den : Int) : Int) : Rat) := by
   rw [Rat.intCast_mul,Rat.intCast_mul]; exact this
  exact Rat.intCast_inj.1 h5
 ·intro h
  have h5:((q.num * (D:Int):Int):Rat) = ((A * (q.den:Int):Int):Rat):=by rw [h]
  rw [Rat.intCast_mul,Rat.intCast_mul] at h5
  have h6:(q.num:Rat) * (D:Rat) = (A:Rat) * (q.den:Rat):=h5
  rw [h3]; grind
theorem pI {q:Rat} {A:Int} {D:Nat} (h:q.num * D = A * q.den):q.den ∣ D:=by
 have h1:(q.den:Int) ∣ q.num * D:=⟨A,by rw [h,Int.mul_comm]⟩
 have h2 : q.den ∣ q.num.natAbs * D := by
  have:=Int.natAbs_dvd_natAbs.2 h1
  rwa [Int.natAbs_mul,Int.natAbs_natCast,Int.natAbs_natCast] at this
 exact (Nat.Coprime.dvd_of_dvd_mul_left q.reduced.symm h2)
theorem Ji {q:Rat} {A:Int} {D:Nat} (h:q.num * D = A * q.den):A = q.num * (D / q.den:Nat):=by
 obtain ⟨k,hk⟩:=pI h
 have hp:=q.den_pos
 rw [hk,Nat.mul_div_cancel_left _ hp]
 rw [hk] at h
 have h':(q.den:Int) * (q.num * k) = q.den * A:=by rw [Int.mul_comm (q.den:Int) A,← h]; push_cast; grind
 exact (Int.eq_of_mul_eq_mul_left (by omega) h').symm
theorem re_eq (x:Qi):x.re = (x.a:Rat) / (x.den:Rat):=by
 rw [vI x.den_pos]
 obtain ⟨k,hk⟩:x.re.den ∣ x.den:=Nat.dvd_lcm_left _ _
 rw [a,hk,Nat.mul_div_cancel_left _ x.re.den_pos]; push_cast; grind
theorem im_eq (x:Qi):x.im = (x.b:Rat) / (x.den:Rat):=by
 rw [vI x.den_pos]
 obtain ⟨k,hk⟩:x.im.den ∣ x.den:=Nat.dvd_lcm_right _ _
 rw [b,hk,Nat.mul_div_cancel_left _ x.im.den_pos]; push_cast; grind
theorem eq_mk (x:Qi):x = mk' x.a x.b x.den:=ext' x.re_eq x.im_eq
theorem mk_scale (A B:Int) {D:Nat} (hD:0 < D):∃ k,0 < k ∧ D = (mk' A B D).den * k ∧ A = (mk' A B D).a * k ∧ B = (mk' A B D).b * k:=by
 have ha:(mk' A B D).re.num * D = A * (mk' A B D).re.den:=(vI hD).1 rfl
 have hb:(mk' A B D).im.num * D = B * (mk' A B D).im.den:=(vI hD).1 rfl
 generalize mk' A B D = x at *
 obtain ⟨k,hk⟩:x.den ∣ D:=Nat.lcm_dvd (pI ha) (pI hb)
 refine ⟨k,Nat.pos_of_ne_zero (fun e=>by rw [e] at hk; omega),hk,?_,?_⟩
 ·rw [Ji ha, a, hk]
  obtain ⟨l,hl⟩:x.re.den ∣ x.den:=Nat.dvd_lcm_left _ _
  rw [hl,Nat.mul_assoc,Nat.mul_div_cancel_left _ x.re.den_pos,Nat.mul_div_cancel_left _ x.re.den_pos]; push_cast; grind
 ·rw [Ji hb, b, hk]
  obtain ⟨l,hl⟩:x.im.den ∣ x.den:=Nat.dvd_lcm_right _ _
  rw [hl,Nat.mul_assoc,Nat.mul_div_cancel_left _ x.im.den_pos,Nat.mul_div_cancel_left _ x.im.den_pos]; push_cast; grind
def g3 (A B:Int) (D:Nat):Nat:=Nat.gcd (Nat.gcd A.natAbs B.natAbs) D
theorem low (x:Qi):g3 x.a x.b x.den = 1:=by
 generalize hg:g3 x.a x.b x.den = g
 have h1:g ∣ x.den:=hg ▸ Nat.gcd_dvd_right _ _
 have h2:g ∣ x.a.natAbs:=hg ▸ Nat.dvd_trans (Nat.gcd_dvd_left _ _) (Nat.gcd_dvd_left _ _)
 have h3:g ∣ x.b.natAbs:=hg ▸ Nat.dvd_trans (Nat.gcd_dvd_left _ _) (Nat.gcd_dvd_right _ _)
 obtain ⟨d,hd⟩:=h1
 have hp:=x.den_pos
 have gp:0 < g:=Nat.pos_of_ne_zero (fun e=>by rw [e] at hd; omega)
 have dp:0 < d:=Nat.pos_of_ne_zero (fun e=>by rw [e] at hd; omega)
 obtain ⟨p,hp'⟩:=Int.ofNat_dvd_left.2 h2
 obtain ⟨q,hq'⟩:=Int.ofNat_dvd_left.2 h3
 have e1 : x.re = (p : Rat) / (d : Rat) := by
  have:=nc gp; have:=nc dp
  rw [re_eq,hp',hd]; push_cast; grind
 have e2 : x.im = (q : Rat) / (d : Rat) := by
  have:=nc gp; have:=nc dp
  rw [im_eq,hq',hd]; push_cast; grind
 have k:x.den ∣ d:=Nat.lcm_dvd (pI ((vI dp).1 e1)) (pI ((vI dp).1 e2))
 have:=Nat.le_of_dvd dp k
 rw [hd] at this
 have : g ≤ 1 := by
  refine Nat.le_of_mul_le_mul_right (c:=d) ?_ dp
  omega
 omega
theorem yW (A B:Int) (D k:Nat):g3 (A * k) (B * k) (D * k) = g3 A B D * k:=by
 simp only [g3,Int.natAbs_mul,Int.natAbs_natCast,Nat.gcd_mul_right]
theorem over {A B : Int} {D : Nat} (hD : 0 < D) : (mk' A B D).a.natAbs = A.natAbs / g3 A B D ∧ (mk' A B D).b.natAbs = B.natAbs / g3 A B D ∧ (mk' A B D).den = D / g3 A B D ∧
  (decide ((mk' A B D).a < 0) = decide (A < 0)) ∧ (decide ((mk' A B D).b < 0) = decide (B < 0)) ∧ 0 < g3 A B D:=by
 obtain ⟨k,kp,h1,h2,h3⟩:=mk_scale A B hD
 have h4:=low (mk' A B D)
 generalize mk' A B D = x at *
 have e:g3 A B D = k:=by rw [h1,h2,h3,yW,h4,Nat.one_mul]
 rw [e]
 subst h1 h2 h3
 refine ⟨?_,?_,?_,?_,?_,kp⟩
 ·rw [Int.natAbs_mul,Int.natAbs_natCast,Nat.mul_div_cancel _ kp]
 ·rw [Int.natAbs_mul,Int.natAbs_natCast,Nat.mul_div_cancel _ kp]
 ·rw [Nat.mul_div_cancel _ kp]
 ·congr 1; apply propext; constructor
  ·intro h; exact Int.mul_neg_of_neg_of_pos h (by omega)
  ·intro h; exact Int.neg_of_mul_neg_left h (by omega)
 ·congr 1; apply propext; constructor
  ·intro h; exact Int.mul_neg_of_neg_of_pos h (by omega)
  ·intro h; exact Int.neg_of_mul_neg_left h (by omega)
theorem Tz {A B:Int} {D:Nat} (hD:0 < D) (h:g3 A B D = 1):(mk' A B D).a = A ∧ (mk' A B D).b = B ∧ (mk' A B D).den = D:=by
 obtain ⟨k,kp,h1,h2,h3⟩:=mk_scale A B hD
 have h4:=low (mk' A B D)
 generalize mk' A B D = x at *
 have e:g3 A B D = k:=by rw [h1,h2,h3,yW,h4,Nat.one_mul]
 have:k = 1:=by omega
 subst this
 refine ⟨by rw [h2]; simp,by rw [h3]; simp,by rw [h1]; simp⟩
theorem inj {x y:Qi} (h1:x.a = y.a) (h2:x.b = y.b) (h3:x.den = y.den):x = y:=by rw [x.eq_mk,y.eq_mk,h1,h2,h3]
instance : Add Qi:=⟨fun x y=>⟨x.re + y.re,x.im + y.im⟩⟩
instance : Neg Qi:=⟨fun x=>⟨-x.re,-x.im⟩⟩
instance : _root_.Sub Qi:=⟨fun x y=>⟨x.re - y.re,x.im - y.im⟩⟩
instance : Mul Qi:=⟨fun x y=>⟨x.re * y.re - x.im * y.im,x.re * y.im + x.im * y.re⟩⟩
def ofInt (n:Int):Qi:=⟨n,0⟩
def conj (x:Qi):Qi:=⟨x.re,-x.im⟩
def imp (x:Qi):Qi:=⟨x.im,0⟩
def nrm (x:Qi):Rat:=x.re * x.re + x.im * x.im
def norm (x:Qi):Qi:=⟨x.nrm,0⟩
def inv (x:Qi):Qi:=⟨x.re / x.nrm,-x.im / x.nrm⟩
instance : Div Qi:=⟨fun x y=>x * inv y⟩
theorem add_re (x y:Qi):(x + y).re = x.re + y.re:=rfl
theorem add_im (x y:Qi):(x + y).im = x.im + y.im:=rfl
theorem Jd (x:Qi):(-x).re = -x.re:=rfl
theorem Jc (x:Qi):(-x).im = -x.im:=rfl
theorem sub_re (x y:Qi):(x - y).re = x.re - y.re:=rfl
theorem sub_im (x y:Qi):(x - y).im = x.im - y.im:=rfl
theorem mul_re (x y:Qi):(x * y).re = x.re * y.re - x.im * y.im:=rfl
theorem mul_im (x y:Qi):(x * y).im = x.re * y.im + x.im * y.re:=rfl
theorem div_def (x y:Qi):x / y = x * inv y:=rfl
theorem sub_def (x y:Qi):x - y = x + -y:=ext' (by rw [sub_re,add_re,Jd]; grind) (by rw [sub_im,add_im,Jc]; grind)
theorem mk_re (A B:Int) (D:Nat):(mk' A B D).re = (A:Rat) / (D:Rat):=rfl
theorem mk_im (A B:Int) (D:Nat):(mk' A B D).im = (B:Rat) / (D:Rat):=rfl
theorem mk_add (x y:Qi):mk' (x.a * y.den + y.a * x.den) (x.b * y.den + y.b * x.den) (x.den * y.den) = x + y:=by
 have h1:=nc x.den_pos; have h2:=nc y.den_pos
 refine ext' ?_ ?_
 ·rw [add_re,re_eq x,re_eq y,mk_re]; push_cast; grind
 ·rw [add_im,im_eq x,im_eq y,mk_im]; push_cast; grind
theorem mk_mul (x y:Qi):mk' (x.a * y.a + -(x.b * y.b)) (x.a * y.b + x.b * y.a) (x.den * y.den) = x * y:=by
 have h1:=nc x.den_pos; have h2:=nc y.den_pos
 refine ext' ?_ ?_
 ·rw [mul_re,re_eq x,re_eq y,im_eq x,im_eq y,mk_re]; push_cast; grind
 ·rw [mul_im,re_eq x,re_eq y,im_eq x,im_eq y,mk_im]; push_cast; grind
theorem Ss (x:Qi):mk' (-x.a) (-x.b) x.den = -x:=by
 refine ext' ?_ ?_
 ·rw [Jd,re_eq x,mk_re]; push_cast; grind
 ·rw [Jc,im_eq x,mk_im]; push_cast; grind
theorem Nm (x:Qi):mk' x.a (-x.b) x.den = x.conj:=by
 refine ext' ?_ ?_
 ·rw [mk_re,← re_eq x]; rfl
 ·show _ = -x.im; rw [im_eq x,mk_im]; push_cast; grind
theorem Sr (n:Int):mk' n 0 1 = ofInt n:=by
 refine ext' ?_ ?_
 ·rw [mk_re]; show _ = (n:Rat); push_cast; grind
 ·rw [mk_im]; show _ = (0:Rat); push_cast; grind
theorem Sq (x:Qi):mk' x.b 0 x.den = x.imp:=ext' (im_eq x).symm (by rw [mk_im]; show _ = (0:Rat); push_cast; grind)
theorem Do (x:Qi):mk' (x.a * x.a + x.b * x.b) 0 (x.den * x.den) = x.norm:=by
 have h1:=nc x.den_pos
 refine ext' ?_ ?_
 ·rw [mk_re]; show _ = x.re * x.re + x.im * x.im; rw [re_eq x,im_eq x]; push_cast; grind
 ·rw [mk_im]; show _ = (0:Rat); push_cast; grind
theorem Sh (A B:Int) (D:Nat):g3 (-A) (-B) D = g3 A B D:=by simp [g3]
theorem Nd (A B:Int) (D:Nat):g3 A (-B) D = g3 A B D:=by simp [g3]
theorem neg_a (x:Qi):(-x).a = -x.a ∧ (-x).b = -x.b ∧ (-x).den = x.den:=by rw [← Ss]; exact Tz x.den_pos (by rw [Sh]; exact x.low)
theorem conj_a (x:Qi):x.conj.a = x.a ∧ x.conj.b = -x.b ∧ x.conj.den = x.den:=by rw [← Nm]; exact Tz x.den_pos (by rw [Nd]; exact x.low)
theorem int_a (n:Int):(ofInt n).a = n ∧ (ofInt n).b = 0 ∧ (ofInt n).den = 1:=by rw [← Sr]; exact Tz (by decide) (by simp [g3])
def zero:Qi:=ofInt 0
theorem a_zero {x:Qi}:x.a = 0 ↔ x.re = 0:=by
 have h1:=nc x.den_pos
 rw [re_eq x]
 constructor
 ·intro h; rw [h]; push_cast; grind
 ·intro h
  have:(x.a:Rat) = ((0:Int):Rat):=by push_cast; grind
  exact Rat.intCast_inj.1 this
theorem b_zero {x:Qi}:x.b = 0 ↔ x.im = 0:=by
 have h1:=nc x.den_pos
 rw [im_eq x]
 constructor
 ·intro h; rw [h]; push_cast; grind
 ·intro h
  have:(x.b:Rat) = ((0:Int):Rat):=by push_cast; grind
  exact Rat.intCast_inj.1 this
theorem zero_iff {x:Qi}:x = zero ↔ x.a = 0 ∧ x.b = 0:=by
 rw [a_zero,b_zero]
 constructor
 ·intro h; rw [h]; exact ⟨rfl,rfl⟩
 ·intro ⟨h,k⟩; exact ext' h k
theorem vX (q:Rat):0 ≤ q * q:=by
 rcases Rat.le_total (a:=0) (b:=q) with h | h
 ·exact Rat.mul_nonneg h h
 ·have h1 : 0 ≤ -q := by grind
  have:=Rat.mul_nonneg h1 h1
  grind
theorem nrm_zero {x:Qi}:x.nrm = 0 ↔ x = zero:=by
 constructor
 ·intro h
  have h1:=vX x.re
  have h2:=vX x.im
  unfold nrm at h
  have h3:x.re * x.re = 0:=by grind
  have h4:x.im * x.im = 0:=by grind
  exact ext' (by show _ = (0:Rat); grind) (by show _ = (0:Rat); grind)
 ·intro h; rw [h]; simp [nrm,zero,ofInt]; grind
theorem nat_of_int {n:Int} (h:0 ≤ n):((n.natAbs:Nat):Rat) = (n:Rat):=by
 have:((n.natAbs:Int):Rat) = (n:Rat):=by rw [Int.natAbs_of_nonneg h]
 exact this
theorem Vj (y:Qi):y.nrm * (y.den:Rat) * (y.den:Rat) = ((y.a * y.a + y.b * y.b:Int):Rat):=by
 have h1:=nc y.den_pos
 rw [nrm,re_eq y,im_eq y]; push_cast; grind
theorem kV (n:Int):0 ≤ n * n:=by
 rcases Int.le_total 0 n with h | h
 ·exact Int.mul_nonneg h h
 ·have:=Int.mul_nonneg (a:=-n) (b:=-n) (by omega) (by omega); rwa [Int.neg_mul_neg] at this
theorem nrm_int_pos {y:Qi} (h:y ≠ zero):0 < y.a * y.a + y.b * y.b:=by
 have h1:=kV y.a
 have h2:=kV y.b
 rcases Int.lt_or_eq_of_le (Int.add_nonneg h1 h2) with h3 | h3
 ·exact h3
 ·exfalso; apply h; rw [zero_iff]
  have h4:y.a * y.a = 0:=by omega
  have h5:y.b * y.b = 0:=by omega
  exact ⟨(Int.mul_eq_zero.1 h4).elim id id,(Int.mul_eq_zero.1 h5).elim id id⟩
theorem mk_divP (x:Qi) {y z:Qi} {m:Nat} (hy:y ≠ zero) (hz:z = x * mk' y.a (-y.b) 1) (hm:(m:Int) = y.a * y.a + y.b * y.b):mk' (z.a * y.den) (z.b * y.den) (z.den * m) = x / y:=by
 have h1:=nc x.den_pos; have h2:=nc y.den_pos; have h4:=nc z.den_pos
 have h3:=Vj y
 have hn:y.nrm ≠ 0:=fun e=>hy (nrm_zero.1 e)
 rw [← hm] at h3
 have h3':y.nrm * (y.den:Rat) * (y.den:Rat) = (m:Rat):=h3
 have hmz:(m:Rat) ≠ 0:=by rw [← h3']; grind
 have e1:=re_eq z; have e2:=im_eq z
 rw [hz,mul_re,mk_re,mk_im] at e1
 rw [hz,mul_im,mk_re,mk_im] at e2
 rw [← hz] at e1 e2
 refine ext' ?_ ?_
 ·rw [mk_re, div_def, mul_re]
  show _ = x.re * (y.re / y.nrm) - x.im * (-y.im / y.nrm)
  rw [re_eq y,im_eq y]; push_cast at *
  have:(z.a:Rat) = (x.re * y.a + x.im * y.b) * z.den:=by grind
  rw [this,← h3']; grind
 ·rw [mk_im, div_def, mul_im]
  show _ = x.re * (-y.im / y.nrm) + x.im * (y.re / y.nrm)
  rw [re_eq y,im_eq y]; push_cast at *
  have:(z.b:Rat) = (x.im * y.a - x.re * y.b) * z.den:=by grind
  rw [this,← h3']; grind
theorem Nn (x:Qi) {y z n:Qi} {m:Nat} (hy:y ≠ zero) (hz:z = x * y.conj) (hn:n = y.norm) (hm:(m:Int) = n.a):mk' (z.a * n.den) (z.b * n.den) (z.den * m) = x / y:=by
 have h2:=nc n.den_pos; have h4:=nc z.den_pos
 have hnz:y.nrm ≠ 0:=fun e=>hy (nrm_zero.1 e)
 have h3:y.nrm = (n.a:Rat) / (n.den:Rat):=by rw [← re_eq n,hn]; rfl
 rw [← hm] at h3
 have h3':y.nrm = (m:Rat) / (n.den:Rat):=h3
 have hmz:(m:Rat) ≠ 0:=by intro e; rw [e] at h3'; apply hnz; grind
 have e1:=re_eq z; have e2:=im_eq z
 rw [hz,mul_re] at e1
 rw [hz,mul_im] at e2
 rw [← hz] at e1 e2
 have c1:y.conj.re = y.re:=rfl
 have c2:y.conj.im = -y.im:=rfl
 rw [c1,c2] at e1 e2
 refine ext' ?_ ?_
 ·rw [mk_re, div_def, mul_re]
  show _ = x.re * (y.re / y.nrm) - x.im * (-y.im / y.nrm)
  push_cast at *
  have:(z.a:Rat) = (x.re * y.re + x.im * y.im) * z.den:=by grind
  rw [this,h3']; grind
 ·rw [mk_im, div_def, mul_im]
  show _ = x.re * (-y.im / y.nrm) + x.im * (y.re / y.nrm)
  push_cast at *
  have:(z.b:Rat) = (x.im * y.re - x.re * y.im) * z.den:=by grind
  rw [this,h3']; grind
def Fit (x:Qi) (L:Nat):Prop:=x.a.natAbs < BB ^ L ∧ x.b.natAbs < BB ^ L ∧ x.den < BB ^ L
theorem Fit.mono {x : Qi} {L L' : Nat} (h : Fit x L) (hl : L ≤ L') : Fit x L' :=
 have p:=Nat.pow_le_pow_right cI hl
 ⟨Nat.lt_of_lt_of_le h.1 p,Nat.lt_of_lt_of_le h.2.1 p,Nat.lt_of_lt_of_le h.2.2 p⟩
theorem Fit.mk {A B:Int} {D L:Nat} (hD:0 < D) (h1:A.natAbs < BB ^ L) (h2:B.natAbs < BB ^ L) (h3:D < BB ^ L):Fit (mk' A B D) L:=by
 obtain ⟨e1,e2,e3,-,-,-⟩:=over (A:=A) (B:=B) hD
 refine ⟨?_,?_,?_⟩
 ·rw [e1]; exact Nat.lt_of_le_of_lt (Nat.div_le_self _ _) h1
 ·rw [e2]; exact Nat.lt_of_le_of_lt (Nat.div_le_self _ _) h2
 ·rw [e3]; exact Nat.lt_of_le_of_lt (Nat.div_le_self _ _) h3
theorem lt_mul {a b L M:Nat} (h:a < BB ^ L) (k:b < BB ^ M):a * b < BB ^ (L + M):=by
 rw [Nat.pow_add]; exact Nat.mul_lt_mul_of_lt_of_le h (Nat.le_of_lt k) (Nat.pos_of_ne_zero (fun e=>by rw [e] at k; omega))
theorem lt_mono {a L M:Nat} (h:a < BB ^ L) (k:L ≤ M):a < BB ^ M:=Nat.lt_of_lt_of_le h (Nat.pow_le_pow_right cI k)
theorem Sm {a b L:Nat} (h:a < BB ^ L) (k:b < BB ^ L):a + b < BB ^ (L + 1):=by
 have e:BB ^ (L + 1) = BB ^ L * 4294967296:=rfl
 rw [e]; omega
theorem abs_add {A B : Int} {L : Nat} (h : A.natAbs < BB ^ L) (k : B.natAbs < BB ^ L) : (A + B).natAbs < BB ^ (L + 1) :=
 Nat.lt_of_le_of_lt (Int.natAbs_add_le _ _) (Sm h k)
theorem iI {A B:Int} {L M:Nat} (h:A.natAbs < BB ^ L) (k:B.natAbs < BB ^ M):(A * B).natAbs < BB ^ (L + M):=by rw [Int.natAbs_mul]; exact lt_mul h k
theorem Fit.add {x y:Qi} {L M:Nat} (h:Fit x L) (k:Fit y M):Fit (x + y) (L + M + 1):=by
 rw [← mk_add]
 refine Fit.mk (Nat.mul_pos x.den_pos y.den_pos) ?_ ?_ (lt_mono (lt_mul h.2.2 k.2.2) (by omega))
 ·exact abs_add (iI h.1 k.2.2) (by rw [Nat.add_comm]; exact iI k.1 h.2.2)
 ·exact abs_add (iI h.2.1 k.2.2) (by rw [Nat.add_comm]; exact iI k.2.1 h.2.2)
theorem Fit.neg {x:Qi} {L:Nat} (h:Fit x L):Fit (-x) L:=by
 obtain ⟨e1,e2,e3⟩:=neg_a x
 refine ⟨?_,?_,?_⟩
 ·rw [e1,Int.natAbs_neg]; exact h.1
 ·rw [e2,Int.natAbs_neg]; exact h.2.1
 ·rw [e3]; exact h.2.2
theorem Fit.conj {x:Qi} {L:Nat} (h:Fit x L):Fit x.conj L:=by
 obtain ⟨e1,e2,e3⟩:=conj_a x
 refine ⟨?_,?_,?_⟩
 ·rw [e1]; exact h.1
 ·rw [e2,Int.natAbs_neg]; exact h.2.1
 ·rw [e3]; exact h.2.2
theorem Fit.sub {x y:Qi} {L M:Nat} (h:Fit x L) (k:Fit y M):Fit (x - y) (L + M + 1):=by rw [sub_def]; exact h.add k.neg
theorem Fit.mul {x y:Qi} {L M:Nat} (h:Fit x L) (k:Fit y M):Fit (x * y) (L + M + 1):=by
 rw [← mk_mul]
 refine Fit.mk (Nat.mul_pos x.den_pos y.den_pos) ?_ ?_ (lt_mono (lt_mul h.2.2 k.2.2) (by omega))
 ·exact abs_add (iI h.1 k.1) (by rw [Int.natAbs_neg]; exact iI h.2.1 k.2.1)
 ·exact abs_add (iI h.1 k.2.1) (iI h.2.1 k.1)
theorem one_lt {L:Nat} (h:1 ≤ L):1 < BB ^ L:=Nat.lt_of_lt_of_le (by decide:1 < BB ^ 1) (Nat.pow_le_pow_right cI h)
theorem Fit.int {n:Int} {L:Nat} (hL:1 ≤ L) (h:n.natAbs < BB ^ L):Fit (ofInt n) L:=by
 obtain ⟨e1,e2,e3⟩:=int_a n
 exact ⟨by rw [e1]; exact h,by rw [e2]; exact Nat.pow_pos cI,by rw [e3]; exact one_lt hL⟩
theorem Fit.imp {x:Qi} {L:Nat} (h:Fit x L):Fit x.imp L:=by rw [← Sq]; exact Fit.mk x.den_pos h.2.1 (Nat.pow_pos cI) h.2.2
theorem Fit.norm {x:Qi} {L:Nat} (h:Fit x L):Fit x.norm (L + L + 1):=by
 rw [← Do]
 exact Fit.mk (Nat.mul_pos x.den_pos x.den_pos) (abs_add (iI h.1 h.1) (iI h.2.1 h.2.1)) (Nat.pow_pos cI) (lt_mono (lt_mul h.2.2 h.2.2) (by omega))
theorem Ns (y:Qi):0 ≤ y.norm.a:=by
 have h1:y.norm.re = (y.norm.a:Rat) / (y.norm.den:Rat):=re_eq _
 have h2:=nc y.norm.den_pos
 obtain ⟨k,kp,e1,e2,e3⟩:=mk_scale (y.a * y.a + y.b * y.b) 0 (Nat.mul_pos y.den_pos y.den_pos)
 rw [Do] at e2
 have h3:=kV y.a
 have h4:=kV y.b
 rcases Int.lt_or_le y.norm.a 0 with h | h
 ·have := Int.mul_neg_of_neg_of_pos h (by omega : (0 : Int) < k)
  omega
 ·exact h
theorem Jh {y:Qi} (hy:y ≠ zero):0 < y.norm.a:=by
 rcases Int.lt_or_eq_of_le (Ns y) with h | h
 ·exact h
 ·exact absurd (nrm_zero.1 (a_zero.1 h.symm)) hy
theorem Fit.div {x y:Qi} {L M:Nat} (h:Fit x L) (k:Fit y M) (hy:y ≠ zero):Fit (x / y) (L + 3 * M + 2):=by
 have hn:=Jh hy
 have hm:((y.norm.a.natAbs:Nat):Int) = y.norm.a:=Int.natAbs_of_nonneg (by omega)
 rw [← Nn x hy rfl rfl hm]
 have f1:=h.mul k.conj
 have f2:=k.norm
 refine Fit.mk (Nat.mul_pos (den_pos _) (by omega)) (lt_mono (iI f1.1 f2.2.2) (by omega)) (lt_mono (iI f1.2.1 f2.2.2) (by omega)) (lt_mono (lt_mul f1.2.2 f2.1) (by omega))
end Qi
end
section
open Go Go.RowKit
abbrev fH (z:Int):Ty:=dO [aB (decide (z < 0)),aH z.natAbs]
def xN (b:Bool) (m:Nat):Int:=if b then -(m:Int) else (m:Int)
theorem Pe (b:Bool) (m:Nat):decide (xN b m < 0) = (b && decide (0 < m)):=by
 cases b
 ·simp [xN]
 ·simp [xN]
theorem Pc (b:Bool) (m:Nat):(xN b m).natAbs = m:=by cases b <;> simp [xN]
theorem nL (z:Int):xN (decide (z < 0)) z.natAbs = z:=by
 unfold xN
 by_cases h:z < 0
 ·simp [h]; omega
 ·simp [h]; omega
theorem Fo (z:Int):xN (!decide (z < 0)) z.natAbs = -z:=by
 unfold xN
 by_cases h:z < 0
 ·simp [h]; omega
 ·simp [h]; omega
theorem Fp (x y:Int):xN (decide (x < 0) != decide (y < 0)) (x.natAbs * y.natAbs) = x * y:=by
 have hx:=nL x; have hy:=nL y
 generalize decide (x < 0) = a at *; generalize decide (y < 0) = b at *
 generalize x.natAbs = m at *; generalize y.natAbs = n at *
 subst hx hy
 cases a <;> cases b <;> simp [xN,Int.mul_neg,Int.neg_mul]
theorem Bs (x:Int) (n:Nat):xN (decide (x < 0)) (x.natAbs * n) = x * n:=by
 have hx:=nL x
 generalize decide (x < 0) = a at *; generalize x.natAbs = m at *
 subst hx
 cases a <;> simp [xN,Int.neg_mul]
theorem Kt {x y:Int} (h:decide (x < 0) = decide (y < 0)):xN (decide (x < 0)) (x.natAbs + y.natAbs) = x + y:=by
 have hx:=nL x; have hy:=nL y
 rw [h] at *
 generalize decide (y < 0) = a at *; generalize x.natAbs = m at *; generalize y.natAbs = n at *
 subst hx hy
 cases a <;> simp [xN]; omega
theorem Aa {x y:Int} (h:decide (x < 0) ≠ decide (y < 0)) (hle:y.natAbs ≤ x.natAbs):xN (decide (x < 0)) (x.natAbs - y.natAbs) = x + y:=by
 unfold xN
 by_cases h1:x < 0 <;> by_cases h2:y < 0 <;> simp [h1,h2] at h ⊢ <;> omega
theorem qH {Ts Us:List Ty} (h:Ts = Us):∀ v V,(dO Ts).p v V → (dO Us).p v V:=fun v V k=>h ▸ k
theorem lR {z y:Int} (h:z = y):∀ v V,(fH z).p v V → (fH y).p v V:=fun v V k=>h ▸ k
theorem Tl {b : Bool} {m : Nat} : ∀ v V, (dO [aB (b && decide (0 < (dg m).length)), aH m]).p v V → (fH (xN b m)).p v V := qH (by
 have h : decide (0 < (dg m).length) = decide (0 < m) := by
  by_cases h0:m = 0
  ·subst h0; simp [cO]
  ·have h1 : 0 < (dg m).length := Nat.pos_of_ne_zero (fun e => h0 (aO.1 e))
   have h2:0 < m:=Nat.pos_of_ne_zero h0
   simp only [h1,h2]
 rw [h,Pe,Pc])
def du (x:Qi):Nat:=if x.den = 1 then 0 else x.den
abbrev aM (x:Qi):Ty:=dO [aB (decide (x.a < 0)),aH x.a.natAbs,aB (decide (x.b < 0)),aH x.b.natAbs,aH (du x)]
theorem iP {x y:Qi} (h:x = y):∀ v V,(aM x).p v V → (aM y).p v V:=fun v V k=>h ▸ k
theorem Om {A B : Int} {D : Nat} (hD : 0 < D) : ∀ v V, (dO [aB (decide (A < 0)), aH (A.natAbs / Qi.g3 A B D), aB (decide (B < 0)), aH (B.natAbs / Qi.g3 A B D), aH (if D / Qi.g3 A B D = 1 then 0 else D / Qi.g3 A B D)]).p v V → (aM (Qi.mk' A B D)).p v V := qH (by
 obtain ⟨e1,e2,e3,e4,e5,_⟩:=Qi.over (A:=A) (B:=B) hD
 rw [e4,e5,e1,e2,du,e3])
theorem Ca : ∀ v V, (dO [aB false, Is (.slice none 0 0)]).p v V → (fH 0).p v V := fun v V ⟨vs, e, h⟩ => by
 match vs,h.all,h with
 | [x,y],⟨hx,hy,_⟩,h=>exact ⟨[x,y],e,⟨hx,jG y V hy,trivial⟩,h.pl⟩
theorem vJ {n L:Nat} (h:n < BB ^ L):(dg n).length ≤ L:=gB h
theorem jW {x:Qi} {L:Nat} (h:Qi.Fit x L):(dg x.a.natAbs).length ≤ L:=vJ h.1
theorem jX {x:Qi} {L:Nat} (h:Qi.Fit x L):(dg x.b.natAbs).length ≤ L:=vJ h.2.1
theorem jY {x:Qi} {L:Nat} (h:Qi.Fit x L):(dg x.den).length ≤ L:=vJ h.2.2
theorem zB (n:Nat):n < BB ^ (dg n).length:=by have:=fT (bF n); rwa [cE] at this
theorem tM (m n:Nat):(dg (m * n)).length ≤ (dg m).length + (dg n).length:=vJ (Qi.lt_mul (zB m) (zB n))
theorem jR (x y:Int):(dg (x * y).natAbs).length ≤ (dg x.natAbs).length + (dg y.natAbs).length:=by rw [Int.natAbs_mul]; exact tM _ _
theorem dH (x:Int) (n:Nat):(dg (x * n).natAbs).length ≤ (dg x.natAbs).length + (dg n).length:=by rw [Int.natAbs_mul,Int.natAbs_natCast]; exact tM _ _
theorem jQ {x y : Int} {L : Nat} (hx : (dg x.natAbs).length ≤ L) (hy : (dg y.natAbs).length ≤ L) : (dg (x + y).natAbs).length ≤ L + 1 :=
 vJ (Qi.abs_add (Qi.lt_mono (zB _) hx) (Qi.lt_mono (zB _) hy))
theorem tN (x:Int):(dg (-x).natAbs).length = (dg x.natAbs).length:=by rw [Int.natAbs_neg]
theorem Ij {m n L:Nat} (hm:(dg m).length ≤ L) (hn:(dg n).length ≤ L):(dg (Nat.gcd m n)).length ≤ L:=by
 rcases Nat.eq_zero_or_pos m with e | e
 ·subst e; rw [Nat.gcd_zero_left]; exact hn
 ·exact Nat.le_trans (iD (Nat.gcd_le_left n e)) hm
section
variable {P:Program} {R:dP} {cx:Cx} {n:Nat} {k:List It} {E:bC} {H:Hp} {ops:Array Oper} {o:Oper} {rest:List Oper}
variable {d:Option Tmp} {t tx ty:TypeId} {pos:String} {af:Array Edge} {g:Option (Nat × Bool)}
theorem Og {x y : Operand} {kd kd' : IntKind} {a b : Nat} {tys : Array TypeId} (hx : aN E x (NT kd a)) (hy : aN E y (NT kd' b)) : aF P n E H ⟨d, .call ⟨.builtin .min, #[x, y], tys⟩, t, pos, af, g⟩ (NT kd (min a b)) :=
 cH fun c V w hs => by
  have ex:c.eval x = .int kd (a:Int):=hx n V c hs
  have ey:c.eval y = .int kd' (b:Int):=hy n V c hs
  refine ⟨.int kd (if (b:Int) < a then b else a),?_,?_⟩
  ·simp [execOp,resolve,ex,ey,invoke,builtin,Builtin.min_,Builtin.min2,Sem.run_bind,Result.andThen]
  ·show Value.int kd _ = Value.int kd _
   congr 1
   split <;> omega
end
end
section
open Go Go.RowKit
def xT (P:Program) (γ:Type) (Ts:γ → List Ty) (U:γ → Ty):Ty where
 p v V := ∃ (f : FuncId) (caps : List Value), v = .func (.func f) #[] caps.toArray ∧ (∀ args w, (callFunc f args).run P w = .ok (.enter f args) w) ∧
  ∀ (x : γ) (vs : List Value) (V' : aD) (w : World), iT V V' → (∀ b o, V' b = some o → w.heap[b]? = some o) → dS (Ts x) vs V' → Calls P f (vs ++ caps).toArray w fun e w' =>
   ∃ v V'',e = .returned v ∧ iT V' V'' ∧ (∀ b o,V'' b = some o → w'.heap[b]? = some o) ∧ (∀ b o,V'' b = some o → V' b = none → w.heap.size ≤ b) ∧ Below w.heap.size w w' ∧ (U x).p v V''
 mono h k := by
  obtain ⟨f,caps,e,hc,h⟩:=h
  exact ⟨f,caps,e,hc,fun x vs V' w hle=>h x vs V' w (k.trans hle)⟩
instance shCl (P:Program) (γ:Type) (Ts:γ → List Ty) (U:γ → Ty):bN (xT P γ Ts U) 1 false:=eI fun v V h=>by obtain ⟨f,caps,rfl,_⟩:=h; trivial
def rF (H : Hp) : List Nat → Option Hp
 | []=>some []
 | i :: is => match H[i]?, rF H is with
  | some A,some r=>some (A :: r)
  | _,_=>none
theorem rF.picks {H : Hp} : ∀ {is : List Nat} {H' : Hp}, rF H is = some H' → qZ H is H'
 | [],H',h=>by simp [rF] at h; subst h; trivial
 | i :: is, H', h => by
  unfold rF at h
  split at h
  ·rename_i A r h1 h2
   simp at h; subst h
   exact ⟨⟨A,h1,fun _ _ _ k=>k⟩,rF.picks h2⟩
  ·cases h
section
variable {P:Program} {R:dP} {cx:Cx} {n:Nat} {k:List It} {E:bC} {H:Hp} {ops:Array Oper} {o:Oper} {rest:List Oper}
variable {d:Option Tmp} {t tx ty:TypeId} {pos:String} {af:Array Edge} {g:Option (Nat × Bool)}
theorem dE {H':Hp} (is:List Nat) (hp:rF H is = some H') (nd:is.Nodup) (h:Tr P R cx n k E H'):Tr P R cx n k E H:=Ra is (rF.picks hp) nd h
theorem xE {f : FuncId} {xs : List Operand} {Cs : List Ty} {γ : Type} {Ts : γ → List Ty} {U : γ → Ty} (hc : ∀ args w, (callFunc f args).run P w = .ok (.enter f args) w)
  (hF:∀ x,bE P f (Ts x ++ Cs) (U x)) (ha:mK E xs Cs):aF P n E H ⟨d,.makeFunc (.func f) #[] xs.toArray,t,pos,af,g⟩ (xT P γ Ts U) :=
 cH fun a V w hs => by
  have hA:=mK.all hs ha
  refine ⟨.func (.func f) #[] (xs.map a.eval).toArray,by simp [execOp,Instr.makeFunc,Sem.run_bind,pure,Sem.run,bind,Sem.bind],f,xs.map a.eval,rfl,hc,fun x vs V' w' hle ho hv=>?_⟩
  exact hF x (vs ++ xs.map a.eval) V' w' ho (hv.append (hA.mono hle))
theorem aN.fn {f : FuncId} {γ : Type} {Ts : γ → List Ty} {U : γ → Ty} (hc : ∀ args w, (callFunc f args).run P w = .ok (.enter f args) w) (hF : ∀ x, bE P f (Ts x) (U x)) : aN E (.func f) (xT P γ Ts U) := fun n V a hs =>
 ⟨f,[],rfl,hc,fun x vs V' w' hle ho hv=>by simpa using hF x vs V' w' ho hv⟩
theorem iQ {f : Operand} {xs : List Operand} {tys : Array TypeId} {γ : Type} {Ts : γ → List Ty} {U : γ → Ty} (x : γ) (hf : aN E f (xT P γ Ts U)) (ha : mK E xs (Ts x)) :
  aF P n E H ⟨d,.call ⟨.value f,xs.toArray,tys⟩,t,pos,af,g⟩ (U x):=fun cx X a w V hi hs K Q hK=>by
 obtain ⟨fi,caps,e,hc,h⟩:=hf n V a hs
 have hrun : (execOp a.eval ⟨d, .call ⟨.value f, xs.toArray, tys⟩, t, pos, af, g⟩).run P w = .ok (.enter fi (xs.map a.eval ++ caps).toArray) w := by
  simp [execOp,resolve,e,Deferred.ofValue,invoke,hc]
 simp only [Oper.wp,hrun,Oper.upon_enter]
 refine (h x _ V w (iT.refl V) hi.on (mK.all hs ha)).mono ?_
 rintro e' w' ⟨v,V',rfl,h1,h2,h3,h4,h5⟩
 exact hK v w' V' (hi.after h1 h2 h3 h4) h1 h5
theorem iF.fun {f : FuncId} {Ts : List Ty} {γ : Type} {U : γ → Ty} {A : γ → SA} {Q : γ → Prop} {U' : Ty} (h : iF P f Ts [] γ U (fun x => [A x]) Q)
  (hc:∀ x,Q x → ∀ v S V,(U x).p v V → (A x).h S V V → U'.p v V):bE P f Ts U':=fun vs V w ho ha=>by
 have hinv : dR ⟨w, V⟩ V [SA.emp] w := ⟨ho, iT.refl V, fun b o h1 h2 => (by have h3 : V b = none := h2; rw [h1] at h3; cases h3), Below.refl _ _,
  ⟨fun _=>[],fun i A hA=>⟨by (cases i with | zero=>simp at hA; subst hA; rfl | succ i=>simp at hA),by simp⟩,fun i j b hi hj hb=>by simp at hb⟩⟩
 refine (h ⟨w,V⟩ SA.emp vs V w hinv ha).mono ?_
 rintro e w' ⟨v,V',x,rfl,hle,hi,hv,hq⟩
 obtain ⟨V'',S,hle2,hi2,hA⟩:=hi.freeze (i:=1) (A:=A x) rfl
 exact ⟨v,V'',rfl,hle.trans hle2,hi2.on,hi2.new,hi2.bel,hc x hq v S V'' (Ty.mono _ hv hle2) hA⟩
end
end
section
open Go Go.RowKit
instance decQi:DecidableEq Qi:=fun x y=>if h:x.re = y.re ∧ x.im = y.im then .isTrue (Qi.ext' h.1 h.2) else .isFalse (fun e=>h (e ▸ ⟨rfl,rfl⟩))
class aL (x:Qi) (L:outParam Nat):Prop where
 fit:Qi.Fit x L
instance fitAdd {x y:Qi} {L M:Nat} [hx:aL x L] [hy:aL y M]:aL (x + y) (L + M + 1):=⟨hx.fit.add hy.fit⟩
instance fitSub {x y:Qi} {L M:Nat} [hx:aL x L] [hy:aL y M]:aL (x - y) (L + M + 1):=⟨hx.fit.sub hy.fit⟩
instance fitMul {x y:Qi} {L M:Nat} [hx:aL x L] [hy:aL y M]:aL (x * y) (L + M + 1):=⟨hx.fit.mul hy.fit⟩
instance fitNeg {x:Qi} {L:Nat} [hx:aL x L]:aL (-x) L:=⟨hx.fit.neg⟩
instance fitConj {x:Qi} {L:Nat} [hx:aL x L]:aL x.conj L:=⟨hx.fit.conj⟩
instance fitImp {x:Qi} {L:Nat} [hx:aL x L]:aL x.imp L:=⟨hx.fit.imp⟩
instance fitNorm {x:Qi} {L:Nat} [hx:aL x L]:aL x.norm (L + L + 1):=⟨hx.fit.norm⟩
theorem Qi.div_zero (x:Qi):x / Qi.zero = Qi.zero:=by
 have h:Qi.inv Qi.zero = Qi.zero:=Qi.ext' (by show (0:Rat) / _ = 0; grind) (by show (-(0:Rat)) / _ = 0; grind)
 rw [Qi.div_def,h]
 exact Qi.ext' (by rw [Qi.mul_re]; show x.re * 0 - x.im * 0 = (0:Rat); grind) (by rw [Qi.mul_im]; show x.re * 0 + x.im * 0 = (0:Rat); grind)
theorem Qi.Fit.zero {L:Nat} (hL:1 ≤ L):Qi.Fit Qi.zero L:=Qi.Fit.int hL (Nat.pow_pos cI)
instance fitDiv {x y : Qi} {L M : Nat} [hx : aL x L] [hy : aL y M] : aL (x / y) (L + 3 * M + 2) := ⟨by
 by_cases h:y = Qi.zero
 ·rw [h,Qi.div_zero]; exact Qi.Fit.zero (by omega)
 ·exact hx.fit.div hy.fit h⟩
instance fitInt {n:Int}:aL (Qi.ofInt n) ((dg n.natAbs).length + 1):=⟨Qi.Fit.int (by omega) (Nat.lt_of_lt_of_le (zB _) (Nat.pow_le_pow_right cI (by omega)))⟩
theorem aL.pos {x:Qi} {L:Nat} (h:aL x L):1 ≤ L:=by
 rcases Nat.eq_zero_or_pos L with e | e
 ·subst e; have:=h.fit.2.2; have:=x.den_pos; simp at *; omega
 ·exact e
theorem aL.le {x:Qi} {L M:Nat} (h:aL x L) (k:L ≤ M):aL x M:=⟨h.fit.mono k⟩
theorem Mr {m n:Nat} (h:0 ≤ oP m n):n ≤ m:=by
 unfold oP at h
 split at h
 ·simp at h
 ·omega
theorem Ms {m n:Nat} (h:oP m n < 0):m < n:=by
 unfold oP at h
 split at h
 ·assumption
 ·split at h <;> simp at h
def eP (x y:Int):Int:=if x < y then -1 else if y < x then 1 else 0
theorem Mm {x y:Int} (h:x + -y < 0):-1 = eP x y:=by rw [eP,if_pos (by omega)]
theorem Ml {x y:Int} (h:¬ x + -y < 0):((min (dg (x + -y).natAbs).length 1:Nat):Int) = eP x y:=by
 rw [eP,if_neg (by omega)]
 by_cases e:y < x
 ·rw [if_pos e]
  have:0 < (dg (x + -y).natAbs).length:=Nat.pos_of_ne_zero (fun e'=>by have:=aO.1 e'; omega)
  omega
 ·rw [if_neg e]
  have:(x + -y).natAbs = 0:=by omega
  rw [this,cO]; rfl
theorem vF {x y:Int}:eP x y = 0 ↔ x = y:=by
 unfold eP
 split
 ·constructor
  ·intro h; simp at h
  ·intro h; omega
 ·split
  ·constructor
   ·intro h; simp at h
   ·intro h; omega
  ·constructor
   ·intro _; omega
   ·intro _; rfl
def lB (x y:Qi):Int:=if eP (x.a * y.den) (y.a * x.den) ≠ 0 then eP (x.a * y.den) (y.a * x.den) else eP (x.b * y.den) (y.b * x.den)
theorem sK {x:Qi} (h:du x = 0):x.den = 1:=by
 unfold du at h
 split at h
 ·assumption
 ·have:=x.den_pos; omega
theorem pK {x:Qi} (h:du x ≠ 0):du x = x.den:=by
 unfold du at h ⊢
 split at h
 ·exact absurd rfl h
 ·rename_i k; rw [if_neg k]
theorem Qh {x y:Qi} (h:x.den = y.den):du x = du y:=by rw [du,du,h]
theorem Ii (x:Qi):(dg (du x)).length ≤ (dg x.den).length:=by
 by_cases h:du x = 0
 ·rw [h,cO]; exact Nat.zero_le _
 ·rw [pK h]; exact Nat.le_refl _
theorem Ib {n:Nat} (h0:n ≠ 0) (h:n < BB):dg n = [n]:=by
 have hl:(dg n).length ≤ 1:=gB (k:=1) (by rw [Nat.pow_one]; exact h)
 have hne:(dg n).length ≠ 0:=fun e=>h0 (aO.1 e)
 obtain ⟨a,ha⟩:=Vg (show (dg n).length = 1 by omega)
 have:=cE n
 rw [ha] at this ⊢
 simp [val] at this
 rw [this]
theorem zL : ∀ v V, (jL 1 [bH 1]).p v V → (aH 1).p v V := fun v V h => by
 rw [aH,Ib (by decide) (by decide)]; exact h
def Ll : List Ty → List Ty → Prop
 | [],[]=>True
 | T :: Ts,U :: Us=>(∀ v V,T.p v V → U.p v V) ∧ Ll Ts Us
 | _,_=>False
theorem Ll.all {V : aD} : ∀ {Ts Us : List Ty} {vs : List Value}, Ll Ts Us → dS Ts vs V → dS Us vs V
 | [],[],[],_,_=>trivial
 | _ :: _,_ :: _,_ :: _,h,k=>⟨h.1 _ _ k.1,h.2.all k.2⟩
 | [],_ :: _,_,h,_=>h.elim
 | _ :: _,[],_,h,_=>h.elim
 | [],[],_ :: _,_,k=>k.elim
 | _ :: _,_ :: _,[],_,k=>k.elim
theorem wH {Ts Us:List Ty} (h:Ll Ts Us):∀ v V,(dO Ts).p v V → (dO Us).p v V:=fun v V ⟨vs,e,k⟩=>⟨vs,e,h.all k.all,k.pl⟩
theorem xM {T:Ty}:∀ v V,T.p v V → T.p v V:=fun _ _ h=>h
theorem Dq {n:Int}:∀ v V,(dO [aB (decide (n < 0)),aH n.natAbs,Is (.bool false),Is (.slice none 0 0),Is (.slice none 0 0)]).p v V → (aM (Qi.ofInt n)).p v V:=by
 obtain ⟨e1,e2,e3⟩:=Qi.int_a n
 have e4:du (Qi.ofInt n) = 0:=by rw [du,e3]; rfl
 rw [aM,e1,e2,e4]
 exact wH ⟨xM,xM,xM,jG,jG,trivial⟩
theorem Sf {n:Int} (h1:-9223372036854775808 ≤ n) (h2:n ≤ 9223372036854775807):(dg n.natAbs).length ≤ 2:=vJ (by show _ < 4294967296 ^ 2; omega)
def Qi.frac (p q d:Int):Qi:=⟨(p:Rat) / (d:Rat),(q:Rat) / (d:Rat)⟩
theorem Qi.frac_pos {p q d:Int} (h:¬ d < 0) (hd:d ≠ 0):Qi.mk' p q d.natAbs = Qi.frac p q d:=by
 have e:=Qi.nat_of_int (n:=d) (by omega)
 refine Qi.ext' ?_ ?_
 ·rw [Qi.mk_re,e]; rfl
 ·rw [Qi.mk_im,e]; rfl
theorem Qi.frac_neg {p q d:Int} (h:d < 0):Qi.mk' (-p) (-q) d.natAbs = Qi.frac p q d:=by
 have e:=Qi.nat_of_int (n:=-d) (by omega)
 rw [Int.natAbs_neg] at e
 refine Qi.ext' ?_ ?_
 ·rw [Qi.mk_re,e]; show _ = (p:Rat) / (d:Rat); push_cast; grind
 ·rw [Qi.mk_im,e]; show _ = (q:Rat) / (d:Rat); push_cast; grind
theorem Hv (x:Qi):decide (0 < (dg x.a.natAbs).length + (dg x.b.natAbs).length) = !decide (x = Qi.zero):=by
 have h1:=aO (n:=x.a.natAbs); have h2:=aO (n:=x.b.natAbs)
 have h3:=Qi.zero_iff (x:=x)
 by_cases h:x = Qi.zero
 ·have := h3.1 h
  have e1:=h1.2 (by omega); have e2:=h2.2 (by omega)
  rw [e1,e2]; simp [h]
 ·have : ¬ ((dg x.a.natAbs).length + (dg x.b.natAbs).length = 0) := fun e => h (h3.2 ⟨by have := h1.1 (by omega); omega, by have := h2.1 (by omega); omega⟩)
  simp only [h,decide_false,Bool.not_false,decide_eq_true_eq]; omega
theorem Ow (x:Qi):decide ((dg x.b.natAbs).length = 0) = decide (x.b = 0):=by
 have h2:=aO (n:=x.b.natAbs)
 congr 1; apply propext; rw [h2]; omega
theorem Ey {m n:Nat}:oP m n = 0 ↔ m = n:=by
 unfold oP
 split
 ·constructor
  ·intro h; simp at h
  ·intro h; omega
 ·split
  ·constructor
   ·intro h; simp at h
   ·intro h; omega
  ·constructor
   ·intro _; omega
   ·intro _; rfl
theorem Pb (x y:Qi):(decide (eP x.a y.a = 0) && decide (eP x.b y.b = 0) && decide (oP (du x) (du y) = 0)) = decide (x = y):=by
 rw [Bool.eq_iff_iff]
 simp only [Bool.and_eq_true,decide_eq_true_eq,vF,Ey]
 constructor
 ·rintro ⟨⟨h1, h2⟩, h3⟩
  refine Qi.inj h1 h2 ?_
  by_cases h:du x = 0
  ·rw [sK h,sK (h3 ▸ h)]
  ·rw [← pK h,← pK (h3 ▸ h),h3]
 ·intro h; subst h; exact ⟨⟨rfl,rfl⟩,rfl⟩
def qB (a : Int) (d : Nat) : List Nat :=
 (if (Qi.mk' a 0 d).a < 0 then 45 :: tK (Qi.mk' a 0 d).a.natAbs else tK (Qi.mk' a 0 d).a.natAbs) ++ (if (Qi.mk' a 0 d).den = 1 then [] else 47 :: tK (Qi.mk' a 0 d).den)
def Ub (x : Qi) : List Nat :=
 if x.b = 0 then qB x.a x.den
 else if x.a = 0 then qB x.b x.den ++ [105]
 else qB x.a x.den ++ ((if x.b < 0 then qB x.b x.den else 43 :: qB x.b x.den) ++ [105])
end
section
open Go Go.RowKit
theorem rM {α:Type} {l:List α} {i:Nat} (h:i < l.length):l[i]? = some l[i]:=List.getElem?_eq_getElem h
def tab {α:Type} (m:Nat) (f:Nat → α):List α:=(List.range m).map f
theorem bI {α:Type} (m:Nat) (f:Nat → α):(tab m f).length = m:=by simp [tab]
theorem eC {α:Type} {m:Nat} {f:Nat → α} {i:Nat} (h:i < m):(tab m f)[i]? = some (f i):=by simp [tab,h]
theorem gK {α:Type} {m:Nat} {f:Nat → α} {x:α}:x ∈ tab m f ↔ ∃ i,i < m ∧ f i = x:=by simp [tab]
theorem jT {α:Type} {m:Nat} {f g:Nat → α} (h:∀ i,i < m → f i = g i):tab m f = tab m g:=by
 apply List.ext_getElem?
 intro i
 by_cases hi:i < m
 ·rw [eC hi,eC hi,h i hi]
 ·rw [List.getElem?_eq_none (by rw [bI]; omega),List.getElem?_eq_none (by rw [bI]; omega)]
theorem uK {α:Type} (m:Nat) (f:Nat → α):tab (m + 1) f = tab m f ++ [f m]:=by simp [tab,List.range_succ]
theorem uJ {α β:Type} [Inhabited α] (l:List α) (g:α → β):tab l.length (fun i=>g (l.getD i default)) = l.map g:=by
 apply List.ext_getElem?
 intro i
 by_cases hi:i < l.length
 ·rw [eC hi]; simp [List.getD,hi]
 ·rw [List.getElem?_eq_none (by rw [bI]; omega),List.getElem?_eq_none (by simp; omega)]
theorem lQ {α:Type} (m:Nat) (x:α):tab m (fun _=>x) = List.replicate m x:=by
 apply List.ext_getElem?
 intro i
 by_cases hi:i < m
 ·rw [eC hi]; simp [hi]
 ·rw [List.getElem?_eq_none (by rw [bI]; omega),List.getElem?_eq_none (by simp; omega)]
theorem Tu {α:Type} [Inhabited α] {l:List α} {m:Nat} (h:l.length = m):l = tab m (fun i=>l.getD i default):=by
 subst h; rw [uJ l (fun x=>x)]; simp
structure jD {α:Type} (f:Nat → α) (m:Nat) (out:List α) (k:Nat):Prop where
 len:out.length = m
 kle:k ≤ m
 at_:∀ i,i < k → out[i]? = some (f i)
theorem jD.start {α:Type} (f:Nat → α) (m:Nat) (z:α):jD f m (List.replicate m z) 0:=⟨by simp,Nat.zero_le _,fun i h=>by omega⟩
theorem jD.next {α : Type} {f : Nat → α} {m k : Nat} {out : List α} (h : jD f m out k) (hk : k < m) {y : α} (hy : y = f k) : jD f m (out.set k y) (k + 1) :=
 ⟨by simp [h.len], hk, fun i hi => by
  by_cases e:i = k
  ·subst e; rw [List.getElem?_set_self (by rw [h.len]; exact hk),hy]
  ·rw [List.getElem?_set_ne (by omega)]; exact h.at_ i (by omega)⟩
theorem jD.fin {α:Type} {f:Nat → α} {m:Nat} {out:List α} (h:jD f m out m):out = tab m f:=by
 apply List.ext_getElem?
 intro i
 by_cases hi:i < m
 ·rw [eC hi,h.at_ i hi]
 ·rw [List.getElem?_eq_none (by rw [h.len]; omega),List.getElem?_eq_none (by rw [bI]; omega)]
theorem kJ {α:Type} (F:α → Ty) (l:List α) (i:Nat) (d:α):(l.map F).set i (F d) = (l.set i d).map F:=by rw [List.map_set]
theorem nG {α:Type} (F:α → Ty) (m:Nat) (z:α):List.replicate m (F z) = (List.replicate m z).map F:=by rw [List.map_replicate]
theorem yA {α:Type} (F:α → Ty) (l:List α) (d:α):l.map F ++ [F d] = (l ++ [d]).map F:=by simp
theorem oV {s:Nat} {Ts Us:List Ty} (h:Ts = Us):∀ v V,(jL s Ts).p v V → (jL s Us).p v V:=fun v V k=>h ▸ k
theorem kW {s : Nat} : ∀ v V, (Is (.slice none 0 0)).p v V → (jL s []).p v V := fun v V h => by
 cases h
 exact ⟨none,0,rfl,Nat.le_refl _,fun i T hT=>by simp at hT⟩
theorem kH : ∀ V, (aM Qi.zero).p (.agg #[.bool false, .slice none 0 0, .bool false, .slice none 0 0, .slice none 0 0]) V := fun V =>
 Dq (n := 0) _ V ⟨[.bool false, .slice none 0 0, .bool false, .slice none 0 0, .slice none 0 0], rfl,
  bM.cons' ⟨rfl,trivial⟩ (bM.cons' ⟨jG _ V rfl,trivial⟩ (bM.cons' ⟨rfl,trivial⟩ (bM.cons' ⟨rfl,trivial⟩ (bM.cons' ⟨rfl,trivial⟩ bM.nil))))⟩
theorem jH : ∀ v V, (dO [Is (.bool false), Is (.slice none 0 0), Is (.bool false), Is (.slice none 0 0), Is (.slice none 0 0)]).p v V → (aM Qi.zero).p v V := fun v V ⟨vs, e, h⟩ => by
 have e0 : vs = [.bool false, .slice none 0 0, .bool false, .slice none 0 0, .slice none 0 0] := by
  obtain ⟨a,b,c,d,f,rfl⟩:=Qj (by simpa using h.length)
  obtain ⟨h1,h2,h3,h4,h5,_⟩:=h.all
  cases h1; cases h2; cases h3; cases h4; cases h5; rfl
 subst e0; subst e; exact kH V
structure Rt where
 re:Int
 im:Int
 den:Int
 h1:-9223372036854775808 ≤ re
 h2:re ≤ 9223372036854775807
 h3:-9223372036854775808 ≤ im
 h4:im ≤ 9223372036854775807
 h5:-9223372036854775808 ≤ den
 h6:den ≤ 9223372036854775807
instance : Inhabited Rt:=⟨⟨0,0,0,by decide,by decide,by decide,by decide,by decide,by decide⟩⟩
instance : Inhabited Qi:=⟨Qi.zero⟩
abbrev Er (r:Rt):Ty:=dO [aC .i64 r.re,aC .i64 r.im,aC .i64 r.den]
def Rt.d (r:Rt):Int:=if r.den = 0 then 1 else r.den
theorem Rt.d0 (r:Rt):r.d ≠ 0:=by unfold Rt.d; split <;> omega
theorem Rt.d1 (r:Rt):-9223372036854775808 ≤ r.d:=by have:=r.h5; unfold Rt.d; split <;> omega
theorem Rt.d2 (r:Rt):r.d ≤ 9223372036854775807:=by have:=r.h6; unfold Rt.d; split <;> omega
def Rt.q (r:Rt):Qi:=Qi.frac r.re r.im r.d
theorem Qi.Fit.frac {p q d:Int} (p1:-9223372036854775808 ≤ p) (p2:p ≤ 9223372036854775807) (q1:-9223372036854775808 ≤ q) (q2:q ≤ 9223372036854775807) (d1:-9223372036854775808 ≤ d) (d2:d ≤ 9223372036854775807) (hd:d ≠ 0):Qi.Fit (Qi.frac p q d) 2:=by
 by_cases h:d < 0
 ·rw [← Qi.frac_neg h]
  exact Qi.Fit.mk (by omega) (by show _ < 4294967296 ^ 2; omega) (by show _ < 4294967296 ^ 2; omega) (by show _ < 4294967296 ^ 2; omega)
 ·rw [← Qi.frac_pos h hd]
  exact Qi.Fit.mk (by omega) (by show _ < 4294967296 ^ 2; omega) (by show _ < 4294967296 ^ 2; omega) (by show _ < 4294967296 ^ 2; omega)
instance fitRt {r:Rt}:aL r.q 2:=⟨Qi.Fit.frac r.h1 r.h2 r.h3 r.h4 r.d1 r.d2 r.d0⟩
abbrev fB (l:List Qi):Ty:=jL 5 (l.map aM)
abbrev Gl (l:List Rt):Ty:=jL 3 (l.map Er)
abbrev eL (m:List (List Qi)):Ty:=jL 1 (m.map fB)
abbrev Uj (m:List (List Rt)):Ty:=jL 1 (m.map Gl)
theorem Ih (n k:Nat):(dg (n / k)).length ≤ (dg n).length:=iD (Nat.div_le_self n k)
theorem zG (a:Int) {d:Nat} (hd:0 < d):(dg (Qi.mk' a 0 d).a.natAbs).length ≤ (dg a.natAbs).length:=by rw [(Qi.over (A:=a) (B:=0) hd).1]; exact Ih _ _
theorem zH (a:Int) {d:Nat} (hd:0 < d):(dg (Qi.mk' a 0 d).den).length ≤ (dg d).length:=by rw [(Qi.over (A:=a) (B:=0) hd).2.2.1]; exact Ih _ _
theorem zU (a:Int) {d:Nat} (hd:0 < d):(qB a d).length ≤ 10 * (dg a.natAbs).length + 10 * (dg d).length + 4:=by
 have h1:=zG a hd; have h2:=zH a hd
 have h3:=pH (Qi.mk' a 0 d).a.natAbs; have h4:=pH (Qi.mk' a 0 d).den
 unfold qB
 rw [List.length_append]
 have e1:(if (Qi.mk' a 0 d).a < 0 then 45 :: tK (Qi.mk' a 0 d).a.natAbs else tK (Qi.mk' a 0 d).a.natAbs).length ≤ (tK (Qi.mk' a 0 d).a.natAbs).length + 1:=by split <;> simp
 have e2:(if (Qi.mk' a 0 d).den = 1 then [] else 47 :: tK (Qi.mk' a 0 d).den).length ≤ (tK (Qi.mk' a 0 d).den).length + 1:=by split <;> simp
 omega
end
section
open Go Go.RowKit
theorem HH.rot {base:Nat} {w:World} {V:aD} {X:Hp} {A:SA} (h:HH base w V (X ++ [A])):HH base w V (A :: X):=by
 obtain ⟨F,h1,h2⟩:=h
 refine ⟨fun i=>if i = 0 then F X.length else F (i - 1),fun i B hB=>?_,fun i j b hi hj hbi hbj=>?_⟩
 ·cases i with
  | zero=>simp at hB; subst hB; simpa using h1 X.length A (by simp)
  | succ i =>
   simp at hB
   have hl:=(List.getElem?_eq_some_iff.1 hB).1
   simpa using h1 i B (by rw [List.getElem?_append_left hl]; exact hB)
 ·simp at hi hj
  cases i with
  | zero =>
   cases j with
   | zero=>rfl
   | succ j=>simp at hbi hbj; have:=h2 X.length j b (by simp) (by simp; omega) hbi hbj; omega
  | succ i =>
   cases j with
   | zero=>simp at hbi hbj; have:=h2 i X.length b (by simp; omega) (by simp) hbi hbj; omega
   | succ j=>simp at hbi hbj; have:=h2 i j b (by simp; omega) (by simp; omega) hbi hbj; omega
theorem HH.unrot {base:Nat} {w:World} {V:aD} {X:Hp} {A:SA} (h:HH base w V (A :: X)):HH base w V (X ++ [A]):=by
 obtain ⟨F,h1,h2⟩:=h
 refine ⟨fun i=>if i = X.length then F 0 else F (i + 1),fun i B hB=>?_,fun i j b hi hj hbi hbj=>?_⟩
 ·by_cases e : i = X.length
  ·subst e; simp at hB; subst hB; simpa using h1 0 A rfl
  ·have hl := (List.getElem?_eq_some_iff.1 hB).1
   simp at hl
   rw [List.getElem?_append_left (by omega)] at hB
   simpa [e] using h1 (i + 1) B (by simpa using hB)
 ·simp at hi hj
  by_cases e:i = X.length <;> by_cases e':j = X.length
  ·omega
  ·simp only [if_pos e,if_neg e'] at hbi hbj; have:=h2 0 (j + 1) b (by simp) (by simp; omega) hbi hbj; omega
  ·simp only [if_neg e,if_pos e'] at hbi hbj; have:=h2 (i + 1) 0 b (by simp; omega) (by simp) hbi hbj; omega
  ·simp only [if_neg e,if_neg e'] at hbi hbj; have:=h2 (i + 1) (j + 1) b (by simp; omega) (by simp; omega) hbi hbj; omega
section
variable {P:Program} {cx:Cx} {n:Nat} {E:bC} {o:Oper}
theorem Ql {Y : Hp} {q : Nat} {A B : SA} {a : Act} {w : World} {V : aD} (h : W.PutTy P n E [A] [B] o) (hi : dR cx V Y w) (hA : Y[q]? = some A) (hs : bR n E V a) :
  ∃ w',(execOp a.eval o).run P w = .ok .skip w' ∧ dR cx V (Y.set q B) w':=by
 obtain ⟨w',e1,e2⟩:=h cx (Y.set q SA.emp) a w V (hi.withHH (hi.hp.last hA).rot) hs
 exact ⟨w',e1,e2.withHH (HH.unlast (HH.unrot e2.hp) (List.getElem?_eq_some_iff.1 hA).1)⟩
def xS (P : Program) (n : Nat) (E : bC) (A : SA) (o : Oper) (γ : Type) (T : γ → Ty) (B : γ → SA) : Prop :=
 ∀ (cx:Cx) (X:Hp) (a:Act) (w:World) (V:aD),dR cx V ([A] ++ X) w → bR n E V a → ∃ (x:γ) (v:Value) (w':World),(execOp a.eval o).run P w = .ok (.value v) w' ∧ (T x).p v V ∧ dR cx V ([B x] ++ X) w'
theorem Py {Y : Hp} {q : Nat} {A : SA} {γ : Type} {T : γ → Ty} {B : γ → SA} {a : Act} {w : World} {V : aD} (h : xS P n E A o γ T B) (hi : dR cx V Y w) (hA : Y[q]? = some A) (hs : bR n E V a) :
  ∃ (x:γ) (v:Value) (w':World),(execOp a.eval o).run P w = .ok (.value v) w' ∧ (T x).p v V ∧ dR cx V (Y.set q (B x)) w':=by
 obtain ⟨x,v,w',e1,e2,e3⟩:=h cx (Y.set q SA.emp) a w V (hi.withHH (hi.hp.last hA).rot) hs
 exact ⟨x,v,w',e1,e2,e3.withHH (HH.unlast (HH.unrot e3.hp) (List.getElem?_eq_some_iff.1 hA).1)⟩
theorem Fw {ops:Array Oper} {H:Hp} {e:Nat} {T:Ty} (h:eM P n ops E (H.set e SA.emp) o T):eM P n ops E H o T:=by
 by_cases he:e < H.length
 ·intro cx X a w V hi hs K Q hK
  have hA:(H ++ X)[e]? = some H[e]:=by rw [List.getElem?_append_left he]; simp [he]
  have h1:=hi.hp.last hA
  rw [List.set_append_left _ _ he,List.append_assoc] at h1
  refine h cx (X ++ [H[e]]) a w V (hi.withHH h1) hs K Q (fun v w' V' hi' hle hv=>hK v w' V' (hi'.withHH ?_) hle hv)
  have h2:=hi'.hp
  rw [← List.append_assoc,← List.set_append_left _ _ he] at h2
  have h3:=HH.unlast h2 (by simp; omega)
  have e3:(H ++ X).set e H[e] = H ++ X:=by rw [List.set_append_left _ _ he]; simp
  rwa [e3] at h3
 ·rwa [List.set_eq_of_length_le (by omega)] at h
end
namespace Y
abbrev iO:=List (Nat × Nat × SA)
def mR (L : Nat → Bool) (e : Nat) (A : SA) : iO → SA
 | []=>A
 | q :: r=>if q.2.1 = e then (if L q.1 then q.2.2 else A) else mR L e A r
def rI (L : Nat → Bool) (ps : iO) : Nat → Hp → Hp
 | _,[]=>[]
 | e,A :: H=>mR L e A ps :: rI L ps (e + 1) H
def cL (L:Nat → Bool) (ps:iO) (H:Hp):Hp:=match ps with
 | []=>H
 | _ :: _=>rI L ps 0 H
theorem vW (L : Nat → Bool) (ps : iO) : ∀ (H : Hp) (e : Nat), (rI L ps e H).length = H.length
 | [],_=>rfl
 | _ :: H,e=>by simp [rI,vW L ps H (e + 1)]
theorem vV (L : Nat → Bool) (ps : iO) : ∀ (H : Hp) (e i : Nat), (rI L ps e H)[i]? = (H[i]?).map fun A => mR L (e + i) A ps
 | [],_,_=>by simp [rI]
 | A :: H,e,0=>by simp [rI]
 | A :: H,e,i + 1=>by simp only [rI,List.getElem?_cons_succ,vV L ps H (e + 1) i]; rw [show e + 1 + i = e + (i + 1) by omega]
theorem oA (L:Nat → Bool) (ps:iO) (H:Hp):(cL L ps H).length = H.length:=by
 cases ps with
 | nil=>rfl
 | cons q r=>exact vW _ _ _ _
theorem iY (L:Nat → Bool) (ps:iO) (H:Hp) (i:Nat):(cL L ps H)[i]? = (H[i]?).map fun A=>mR L i A ps:=by
 cases ps with
 | nil=>simp [cL,mR]
 | cons q r=>have:=vV L (q :: r) H 0 i; rwa [Nat.zero_add] at this
theorem oQ {L L' : Nat → Bool} {e : Nat} {A : SA} : ∀ {ps : iO}, (∀ q, q ∈ ps → q.2.1 = e → L q.1 = L' q.1) → mR L e A ps = mR L' e A ps
 | [],_=>rfl
 | q :: r, h => by
  unfold mR
  by_cases hq:q.2.1 = e
  ·rw [if_pos hq,if_pos hq,h q (by simp) hq]
  ·rw [if_neg hq,if_neg hq]; exact oQ (fun q hq=>h q (by simp [hq]))
theorem nK {L L':Nat → Bool} {ps:iO} {H:Hp} (h:∀ q,q ∈ ps → L q.1 = L' q.1):cL L ps H = cL L' ps H:=by
 apply List.ext_getElem?
 intro i
 rw [iY,iY]
 congr 1; funext A; exact oQ (fun q hq _=>h q hq)
theorem uH {ps:iO} {H:Hp} {L:Nat → Bool} (h:∀ q,q ∈ ps → L q.1 = false):cL L ps H = H:=by
 apply List.ext_getElem?
 intro i
 rw [iY]
 have : ∀ {ps : iO} (A : SA), (∀ q, q ∈ ps → L q.1 = false) → mR L i A ps = A := by
  intro ps A
  induction ps with
  | nil=>intro _; rfl
  | cons q r ih =>
   intro h
   unfold mR
   by_cases hq:q.2.1 = i
   ·rw [if_pos hq,h q (by simp)]; rfl
   ·rw [if_neg hq]; exact ih (fun q hq=>h q (by simp [hq]))
 cases hH:H[i]? with
 | none=>rfl
 | some A=>simp [this A h]
def okP (ps:iO):Prop:=List.Pairwise (fun a b=>a.1 ≠ b.1 ∧ a.2.1 ≠ b.2.1) ps
theorem okP.one {q q' : Nat × Nat × SA} : ∀ {ps : iO}, okP ps → q ∈ ps → q' ∈ ps → (q.1 = q'.1 ∨ q.2.1 = q'.2.1) → q = q'
 | [],_,h,_,_=>by cases h
 | r :: ps, ho, h, h', e => by
  have ho:=List.pairwise_cons.1 ho
  rcases List.mem_cons.1 h with k1 | k1
  ·rcases List.mem_cons.1 h' with k2 | k2
   ·rw [k1,k2]
   ·have := ho.1 q' k2
    rw [← k1] at this
    rcases e with e | e
    ·exact absurd e this.1
    ·exact absurd e this.2
  ·rcases List.mem_cons.1 h' with k2 | k2
   ·have := ho.1 q k1
    rw [← k2] at this
    rcases e with e | e
    ·exact absurd e.symm this.1
    ·exact absurd e.symm this.2
   ·exact okP.one (ps:=ps) ho.2 k1 k2 e
theorem yM {L : Nat → Bool} {q : Nat × Nat × SA} {A : SA} : ∀ {ps : iO}, okP ps → q ∈ ps → L q.1 = true → mR L q.2.1 A ps = q.2.2
 | [],_,h,_=>by cases h
 | r :: ps, ho, h, hL => by
  unfold mR
  rcases List.mem_cons.1 h with h1 | h1
  ·subst h1; rw [if_pos rfl,if_pos hL]
  ·have ho' := List.pairwise_cons.1 ho
   rw [if_neg (ho'.1 q h1).2]; exact yM (ps:=ps) ho'.2 h1 hL
theorem Fn {ps:iO} {H:Hp} {L L':Nat → Bool} (ho:okP ps) {q:Nat × Nat × SA} (hq:q ∈ ps) (h1:L' q.1 = true) (h2:∀ i,i ≠ q.1 → L' i = L i):cL L' ps H = (cL L ps H).set q.2.1 q.2.2:=by
 apply List.ext_getElem?
 intro i
 rw [iY]
 by_cases e:i = q.2.1
 ·subst e
  cases hH:H[q.2.1]? with
  | none =>
   have hl:H.length ≤ q.2.1:=List.getElem?_eq_none_iff.1 hH
   rw [List.getElem?_eq_none (by rw [List.length_set,oA]; exact hl)]; rfl
  | some A =>
   have hl:=(List.getElem?_eq_some_iff.1 hH).1
   rw [List.getElem?_set_self (by rw [oA]; exact hl)]
   simp [yM ho hq h1]
 ·rw [List.getElem?_set_ne (fun x => e x.symm), iY]
  congr 1; funext A
  exact oQ (fun q' hq' he=>h2 _ (fun x=>e (by rw [← he,ho.one hq' hq (.inl x)])))
def yX (ps:iO) (H:Hp):Hp:=ps.foldl (fun h q=>h.set q.2.1 SA.emp) H
theorem Ac {P : Program} {n : Nat} {E : bC} {o : Oper} {ops : Array Oper} {T : Ty} : ∀ (ps : iO) (H : Hp), eM P n ops E (yX ps H) o T → eM P n ops E H o T
 | [],_,h=>h
 | q :: r,H,h=>Fw (e:=q.2.1) (Ac r (H.set q.2.1 SA.emp) h)
theorem tW : ∀ (ps : iO) (H : Hp) (i : Nat), (yX ps H)[i]? = if ∃ q, q ∈ ps ∧ q.2.1 = i then (H[i]?).map fun _ => SA.emp else H[i]?
 | [],H,i=>by simp [yX]
 | q :: r, H, i => by
  have:=tW r (H.set q.2.1 SA.emp) i
  show (yX r (H.set q.2.1 SA.emp))[i]? = _
  rw [this]
  by_cases h1:∃ q,q ∈ r ∧ q.2.1 = i
  ·have h2 : ∃ q', q' ∈ q :: r ∧ q'.2.1 = i := let ⟨q', a, b⟩ := h1; ⟨q', by simp [a], b⟩
   rw [if_pos h1,if_pos h2]
   by_cases e:q.2.1 = i
   ·subst e; rw [List.getElem?_set_self']; cases H[q.2.1]? <;> rfl
   ·rw [List.getElem?_set_ne e]
  ·rw [if_neg h1]
   by_cases e:q.2.1 = i
   ·subst e
    rw [if_pos ⟨q,by simp,rfl⟩,List.getElem?_set_self']; cases H[q.2.1]? <;> rfl
   ·rw [if_neg (fun ⟨q',a,b⟩=>(List.mem_cons.1 a).elim (fun x=>e (x ▸ b)) (fun x=>h1 ⟨q',x,b⟩)),List.getElem?_set_ne e]
theorem Fc (ps:iO) (H:Hp) (L:Nat → Bool):yX ps (cL L ps H) = yX ps H:=by
 apply List.ext_getElem?
 intro i
 rw [tW,tW,iY]
 by_cases h:∃ q,q ∈ ps ∧ q.2.1 = i
 ·rw [if_pos h,if_pos h]; cases H[i]? <;> rfl
 ·rw [if_neg h, if_neg h]
  have : ∀ A, mR L i A ps = A := fun A => by
   have : ∀ {ps : iO}, ¬ (∃ q, q ∈ ps ∧ q.2.1 = i) → mR L i A ps = A := by
    intro ps
    induction ps with
    | nil=>intro _; rfl
    | cons q r ih =>
     intro h
     unfold mR
     rw [if_neg (fun e=>h ⟨q,by simp,e⟩)]
     exact ih (fun ⟨q',a,b⟩=>h ⟨q',by simp [a],b⟩)
   exact this h
  cases H[i]? <;> simp [this]
inductive Ob:Type 1 where
 | val (T:Ty)
 | new (γ:Type) (T:γ → Ty) (A:γ → SA)
 | newp (γ:Type) (T:γ → Ty) (A B:γ → SA) (p:Nat)
 | app (γ:Type) (T:γ → Ty) (A:SA) (B:γ → SA)
 | putI
 | putN (j:Nat)
def Ob.isPut : Ob → Bool
 | .putI=>true
 | .putN _=>true
 | _=>false
def Src (ops : List Oper) (m : Nat) (E0 : bC) (prev : List (Nat × Ob)) (o : Oper) (t : Nat) (T : Ty) : Prop :=
 (cP E0 t = some T ∧ ((List.range m).all fun j=>!(cF ops j == some t)) = true) ∨
 ∃ j,prev.reverse[j]? = some (t,.val T) ∧ (o.after.toList.any fun e=>Nat.beq e.on j && Region.binds .any e) = true
theorem Src.pre {ops:List Oper} {m:Nat} {E0:bC} {prev:List (Nat × Ob)} {o:Oper} {t:Nat} {T:Ty} (h:cP E0 t = some T) (h':((List.range m).all fun j=>!(cF ops j == some t)) = true):Src ops m E0 prev o t T:=.inl ⟨h,h'⟩
theorem Src.op {ops:List Oper} {m:Nat} {E0:bC} {prev:List (Nat × Ob)} {o:Oper} {t:Nat} {T:Ty} (j:Nat) (h:prev.reverse[j]? = some (t,.val T)) (h':(o.after.toList.any fun e=>Nat.beq e.on j && Region.binds .any e) = true):Src ops m E0 prev o t T:=.inr ⟨j,h,h'⟩
def Srcs (ops:List Oper) (m:Nat) (E0:bC) (prev:List (Nat × Ob)) (o:Oper) (Ei:bC):Prop:=∀ t T,cP Ei t = some T → Src ops m E0 prev o t T
theorem Srcs.nil {ops:List Oper} {m:Nat} {E0:bC} {prev:List (Nat × Ob)} {o:Oper}:Srcs ops m E0 prev o []:=fun t T h=>by cases h
theorem Srcs.cons {ops : List Oper} {m : Nat} {E0 Ei : bC} {prev : List (Nat × Ob)} {o : Oper} {t : Nat} {T : Ty} (h : Src ops m E0 prev o t T) (k : Srcs ops m E0 prev o Ei) : Srcs ops m E0 prev o ((t, T) :: Ei) := fun u U hl => by
 rw [bD] at hl
 by_cases e:t = u
 ·subst e; rw [if_pos rfl] at hl; obtain rfl:=Option.some.inj hl; exact h
 ·rw [if_neg e] at hl; exact k u U hl
section
variable {P:Program} {R:dP} {cx:Cx} {n:Nat} {k:List It} {E:bC} {H Ho:Hp} {ps:iO} {pr:Nat → SA}
def rK (P : Program) (n : Nat) (ops : List Oper) (m : Nat) (E0 : bC) (H : Hp) (ps : iO) (pr : Nat → SA) (prev : List (Nat × Ob)) (d : Nat) (o : Oper) : Ob → Prop
 | .val T=>(o.dst = some d ∧ d < n ∧ ∀ q,q ∈ ps → prev.length ≠ q.1) ∧ pr prev.length = SA.emp ∧ ∃ Ei,Srcs ops m E0 prev o Ei ∧ (eM P n ops.toArray Ei (yX ps H) o T ∨ (eM P n ops.toArray Ei H o T ∧ ∀ q,q ∈ ps → ((kU ops []).getD q.1 0).testBit prev.length = true ∧ q.1 < ops.length))
 | .app γ T A B=>(o.dst = some d ∧ d < n ∧ ∀ q,q ∈ ps → prev.length ≠ q.1) ∧ pr prev.length = A ∧ o.guard = none ∧ ∃ Ei,Srcs ops m E0 prev o Ei ∧ xS P n Ei A o γ T B
 | .new γ T A=>(o.dst = some d ∧ d < n ∧ ∀ q,q ∈ ps → prev.length ≠ q.1) ∧ pr prev.length = SA.emp ∧ o.guard = none ∧ ∃ Ei,Srcs ops m E0 prev o Ei ∧ fL P n Ei [] o γ T A
 | .newp γ T A B p=>(o.dst = some d ∧ d < n ∧ ∀ q,q ∈ ps → prev.length ≠ q.1) ∧ pr prev.length = SA.emp ∧ o.guard = none ∧ (((kU ops []).getD p 0).testBit prev.length = true ∧ p < ops.length) ∧ ∃ Ei,Srcs ops m E0 prev o Ei ∧ fL P n Ei [] o γ T A
 | .putI=>pr prev.length = SA.emp ∧ o.guard = none ∧ o.dst = none ∧ ∃ q A Ei,q ∈ ps ∧ q.1 = prev.length ∧ H[q.2.1]? = some A ∧ Srcs ops m E0 prev o Ei ∧ W.PutTy P n Ei [A] [q.2.2] o
 | .putN j => pr prev.length = SA.emp ∧ o.guard = none ∧ o.dst = none ∧ (∀ q, q ∈ ps → prev.length ≠ q.1) ∧ (o.after.toList.any fun e => Nat.beq e.on j && Region.binds .any e) = true ∧ ∃ (dj : Nat) (γ : Type) (T : γ → Ty) (A B : γ → SA) (Ei : bC), prev.reverse[j]? = some (dj, .newp γ T A B prev.length) ∧
   Srcs ops m E0 prev o Ei ∧ ∀ x,W.PutTy P n ((dj,T x) :: Ei) [A x] [B x] o
def iS (P : Program) (n : Nat) (ops : List Oper) (m : Nat) (E0 : bC) (H : Hp) (ps : iO) (pr : Nat → SA) : List (Nat × Ob) → Prop
 | []=>True
 | (d,b) :: prev=>(∃ o,ops[prev.length]? = some o ∧ rK P n ops m E0 H ps pr prev d o b) ∧ iS P n ops m E0 H ps pr prev
def Aj (Ho H:Hp) (pr:Nat → SA) (m:Nat):Prop:=∀ (base:Nat) (w:World) (V:aD),HH base w V Ho → HH base w V (H ++ (List.range m).map pr)
def Dr (P : Program) (R : dP) (cx : Cx) (n : Nat) (ops : List Oper) (m : Nat) (k : List It) (E0 : bC) (Ho H : Hp) (ps : iO) (pr : Nat → SA) (l : List Oper) (acc : List (Nat × Ob)) : Prop :=
 Aj Ho H pr m → ops = (ops.take acc.length) ++ l → iS P n ops m E0 H ps pr acc → ∀ id,Tr P R cx n (.code (.region id ops.toArray true) :: k) E0 Ho
def Fin' (P : Program) (R : dP) (cx : Cx) (n : Nat) (ops : Array Oper) (l : List Oper) (k : List It) : List (Nat × Ob) → bC → Hp → Prop
 | [],E,H=>Rg P R cx n ops l k E H
 | (d,.val T) :: r,E,H=>Fin' P R cx n ops l k r ((d,T) :: E) H
 | (d,.new γ T A) :: r,E,H=>∀ x:γ,Fin' P R cx n ops l k r ((d,T x) :: E) (H ++ [A x])
 | (d,.app γ T _ B) :: r,E,H=>∀ x:γ,Fin' P R cx n ops l k r ((d,T x) :: E) (H ++ [B x])
 | (d,.newp γ T _ B _) :: r,E,H=>∀ x:γ,Fin' P R cx n ops l k r ((d,T x) :: E) (H ++ [B x])
 | (_,.putI) :: r,E,H=>Fin' P R cx n ops l k r E H
 | (_,.putN _) :: r,E,H=>Fin' P R cx n ops l k r E H
theorem HH.emps {base:Nat} {w:World} {V:aD} {H:Hp} (m:Nat) (hh:HH base w V H):HH base w V (H ++ (List.range m).map fun _=>SA.emp):=by
 obtain ⟨F,f1,f2⟩:=hh
 refine ⟨fun i=>if i < H.length then F i else [],fun i A hA=>?_,fun i j b hi hj hbi hbj=>?_⟩
 ·by_cases e : i < H.length
  ·rw [List.getElem?_append_left e] at hA
   simp only [if_pos e]; exact f1 i A hA
  ·rw [List.getElem?_append_right (by omega)] at hA
   have : A = SA.emp := by
    rw [List.getElem?_map] at hA
    cases hq:(List.range m)[i - H.length]? with
    | none=>rw [hq] at hA; cases hA
    | some q=>rw [hq] at hA; simpa using hA.symm
   subst this
   simp only [if_neg e]
   exact ⟨rfl,fun b hb=>by simp at hb⟩
 ·by_cases e : i < H.length <;> by_cases e' : j < H.length
  ·simp only [if_pos e,if_pos e'] at hbi hbj; exact f2 i j b e e' hbi hbj
  ·simp [e'] at hbj
  ·simp [e] at hbi
  ·simp [e] at hbi
theorem Aj.none {m:Nat}:Aj H H (fun _=>SA.emp) m:=fun _ _ _ h=>HH.emps m h
theorem Aj.one {m e q : Nat} {A : SA} (hA : H[e]? = some A) (hq : q < m) : Aj H (H.set e SA.emp) (fun i => if i = q then A else SA.emp) m := fun base w V h => by
 have h1:=HH.emps m (h.last hA)
 have hel:=(List.getElem?_eq_some_iff.1 hA).1
 obtain ⟨F,f1,f2⟩:=h1
 have hl:(H.set e SA.emp).length = H.length:=by simp
 refine ⟨fun i=>if i < H.length then F i else if i = H.length + q then F H.length else [],fun i B hB=>?_,fun i j b hi hj hbi hbj=>?_⟩
 ·by_cases c : i < H.length
  ·rw [List.getElem?_append_left (by rw [hl]; exact c)] at hB
   simp only [if_pos c]
   exact f1 i B (by rw [List.getElem?_append_left (by simp; omega),List.getElem?_append_left (by rw [hl]; exact c)]; exact hB)
  ·rw [List.getElem?_append_right (by rw [hl]; omega), hl, List.getElem?_map] at hB
   simp only [if_neg c]
   cases hr:(List.range m)[i - H.length]? with
   | none=>rw [hr] at hB; cases hB
   | some r =>
    have hrr:r = i - H.length:=by have:=List.getElem?_eq_some_iff.1 hr; obtain ⟨_,h3⟩:=this; simpa using h3.symm
    rw [hr] at hB
    simp only [Option.map_some,Option.some.injEq] at hB
    by_cases c2:r = q
    ·rw [if_pos c2] at hB; subst hB
     rw [if_pos (by omega)]
     exact f1 H.length A (by rw [List.getElem?_append_left (by simp),List.getElem?_append_right (by rw [hl]; omega)]; simp)
    ·rw [if_neg c2] at hB; subst hB
     rw [if_neg (by omega)]
     exact ⟨rfl,fun b hb=>by simp at hb⟩
 ·simp at hi hj
  by_cases c:i < H.length <;> by_cases c':j < H.length
  ·simp only [if_pos c,if_pos c'] at hbi hbj; exact f2 i j b (by simp; omega) (by simp; omega) hbi hbj
  ·simp only [if_pos c, if_neg c'] at hbi hbj
   by_cases c2:j = H.length + q
   ·rw [if_pos c2] at hbj; have:=f2 i H.length b (by simp; omega) (by simp) hbi hbj; omega
   ·rw [if_neg c2] at hbj; simp at hbj
  ·simp only [if_neg c, if_pos c'] at hbi hbj
   by_cases c2:i = H.length + q
   ·rw [if_pos c2] at hbi; have:=f2 j H.length b (by simp; omega) (by simp) hbj hbi; omega
   ·rw [if_neg c2] at hbi; simp at hbi
  ·simp only [if_neg c, if_neg c'] at hbi hbj
   by_cases c2:i = H.length + q
   ·by_cases c3 : j = H.length + q
    ·omega
    ·rw [if_neg c3] at hbj; simp at hbj
   ·rw [if_neg c2] at hbi; simp at hbi
theorem D_start {ops:List Oper} {m:Nat} {id:Nat} (ps:iO) (h:Dr P R cx n ops m k E H H ps (fun _=>SA.emp) ops []):Tr P R cx n (.code (.region id ops.toArray true) :: k) E H:=h Aj.none (by simp) trivial id
theorem D_startA {ops:List Oper} {m:Nat} {id:Nat} (ps:iO) (q e:Nat) {A:SA} (hA:H[e]? = some A) (hq:Nat.blt q m = true) (h:Dr P R cx n ops m k E H (H.set e SA.emp) ps (fun i=>if i = q then A else SA.emp) ops []):Tr P R cx n (.code (.region id ops.toArray true) :: k) E H:=h (Aj.one hA (Nat.le_of_ble_eq_true hq)) (by simp) trivial id
theorem Cb {ops l : List Oper} {m : Nat} {o : Oper} {acc : List (Nat × Ob)} (d : Nat) (b : Ob) (hb : rK P n ops m E H ps pr acc d o b)
  (h:Dr P R cx n ops m k E Ho H ps pr l ((d,b) :: acc)):Dr P R cx n ops m k E Ho H ps pr (o :: l) acc:=fun hin hops hobs=>by
 have hlen : acc.length ≤ ops.length := by
  have:=congrArg List.length hops
  simp at this; omega
 have ho : ops[acc.length]? = some o := by
  rw [hops,List.getElem?_append_right (by simp; omega)]
  simp [Nat.min_eq_left hlen]
 have hlt:acc.length < ops.length:=(List.getElem?_eq_some_iff.1 ho).1
 refine h hin ?_ ⟨⟨o,ho,hb⟩,hobs⟩
 rw [List.length_cons,List.take_succ_eq_append_getElem hlt]
 have:ops[acc.length] = o:=by simpa [hlt] using ho
 rw [this]
 simpa using hops
def lC (ps:iO) (i:Nat):Bool:=ps.all fun q=>!Nat.beq i q.1
theorem lC.ne {i : Nat} (h : lC ps i = true) : ∀ q, q ∈ ps → i ≠ q.1 := fun q hq e => by
 have:=List.all_eq_true.1 h q hq
 rw [e] at this; simp at this
theorem D_hide {ops l : List Oper} {m : Nat} {o : Oper} {acc : List (Nat × Ob)} {d : Nat} {T : Ty} {Ei : bC} (hd : o.dst = some d) (hn : Nat.blt d n = true) (hs : Srcs ops m E acc o Ei) (hp : lC ps acc.length = true) (hpr : pr acc.length = SA.emp) (hst : eM P n ops.toArray Ei (yX ps H) o T)
  (h:Dr P R cx n ops m k E Ho H ps pr l ((d,.val T) :: acc)):Dr P R cx n ops m k E Ho H ps pr (o :: l) acc :=
 Cb d (.val T) ⟨⟨hd,Nat.le_of_ble_eq_true hn,lC.ne hp⟩,hpr,Ei,hs,.inl hst⟩ h
theorem D_newp {ops l : List Oper} {m : Nat} {o : Oper} {acc : List (Nat × Ob)} {d : Nat} {γ : Type} {T : γ → Ty} {A : γ → SA} {Ei : bC} (B : γ → SA) (p : Nat) (hg : o.guard = none) (hd : o.dst = some d) (hn : Nat.blt d n = true) (hs : Srcs ops m E acc o Ei) (hp : lC ps acc.length = true) (hpr : pr acc.length = SA.emp)
  (hb:(((kU ops []).getD p 0).testBit acc.length && Nat.blt p ops.length) = true) (hst:fL P n Ei [] o γ T A)
  (h:Dr P R cx n ops m k E Ho H ps pr l ((d,.newp γ T A B p) :: acc)):Dr P R cx n ops m k E Ho H ps pr (o :: l) acc:=by
 simp only [Bool.and_eq_true] at hb
 exact Cb d (.newp γ T A B p) ⟨⟨hd,Nat.le_of_ble_eq_true hn,lC.ne hp⟩,hpr,hg,⟨hb.1,Nat.le_of_ble_eq_true hb.2⟩,Ei,hs,hst⟩ h
theorem D_putN {ops l : List Oper} {m : Nat} {o : Oper} {acc : List (Nat × Ob)} {Ei : bC} (j : Nat) {dj : Nat} {γ : Type} {T : γ → Ty} {A B : γ → SA} (hpr : pr acc.length = SA.emp) (hg : o.guard = none) (hd : o.dst = none) (hp : lC ps acc.length = true) (he : (o.after.toList.any fun e => Nat.beq e.on j && Region.binds .any e) = true)
  (hj:acc.reverse[j]? = some (dj,.newp γ T A B acc.length)) (hs:Srcs ops m E acc o Ei) (hst:∀ x,W.PutTy P n ((dj,T x) :: Ei) [A x] [B x] o)
  (h:Dr P R cx n ops m k E Ho H ps pr l ((n,.putN j) :: acc)):Dr P R cx n ops m k E Ho H ps pr (o :: l) acc :=
 Cb n (.putN j) ⟨hpr,hg,hd,lC.ne hp,he,dj,γ,T,A,B,Ei,hj,hs,hst⟩ h
theorem D_app {ops l : List Oper} {m : Nat} {o : Oper} {acc : List (Nat × Ob)} {d : Nat} {γ : Type} {T : γ → Ty} {A : SA} {B : γ → SA} {Ei : bC} (hpr : pr acc.length = A) (hg : o.guard = none) (hd : o.dst = some d) (hn : Nat.blt d n = true) (hs : Srcs ops m E acc o Ei) (hp : lC ps acc.length = true) (hst : xS P n Ei A o γ T B)
  (h:Dr P R cx n ops m k E Ho H ps pr l ((d,.app γ T A B) :: acc)):Dr P R cx n ops m k E Ho H ps pr (o :: l) acc :=
 Cb d (.app γ T A B) ⟨⟨hd,Nat.le_of_ble_eq_true hn,lC.ne hp⟩,hpr,hg,Ei,hs,hst⟩ h
structure Cc where
 T:Ty
 A:SA
 B:SA
 p:Nat
def Cc.cur (L:Nat → Bool) (c:Cc):SA:=if L c.p then c.B else c.A
def fO : Ob → Cc → Prop
 | .val T,c=>c = ⟨T,SA.emp,SA.emp,0⟩
 | .new γ T A,c=>∃ x:γ,c = ⟨T x,A x,A x,0⟩
 | .app γ T _ B,c=>∃ x:γ,c = ⟨T x,B x,B x,0⟩
 | .newp γ T A B p,c=>∃ x:γ,c = ⟨T x,A x,B x,p⟩
 | .putI,c=>c.A = SA.emp ∧ c.B = SA.emp
 | .putN _,c=>c.A = SA.emp ∧ c.B = SA.emp
theorem iS.get {ops : List Oper} {m : Nat} : ∀ {acc : List (Nat × Ob)}, iS P n ops m E H ps pr acc → ∀ {i : Nat} {d : Nat} {b : Ob}, acc.reverse[i]? = some (d, b) →
  ∃ o,ops[i]? = some o ∧ rK P n ops m E H ps pr ((acc.reverse.take i).reverse) d o b
 | [],_,i,d,b,h=>by simp at h
 | (d', b') :: prev, ⟨⟨o, h1, h4⟩, hp⟩, i, d, b, h => by
  rw [List.reverse_cons] at h
  by_cases e:i < prev.reverse.length
  ·rw [List.getElem?_append_left e] at h
   obtain ⟨o',q1,q4⟩:=hp.get h
   refine ⟨o',q1,?_⟩
   rw [List.reverse_cons,List.take_append_of_le_length (by omega)]; exact q4
  ·have hi : i = prev.length := by
    have:=(List.getElem?_eq_some_iff.1 h).1
    simp at this e; omega
   subst hi
   rw [List.getElem?_append_right (by simp)] at h
   simp at h
   obtain ⟨rfl,rfl⟩:=h
   refine ⟨o,h1,?_⟩
   rw [List.reverse_cons,List.take_append_of_le_length (by simp),List.take_of_length_le (by simp),List.reverse_reverse]
   exact h4
theorem iS.len {ops : List Oper} {m : Nat} : ∀ {acc : List (Nat × Ob)}, iS P n ops m E H ps pr acc → ∀ i (h : i < acc.length), ∃ d b, acc.reverse[i]? = some (d, b) := fun {acc} _ i h =>
 ⟨_,_,by rw [List.getElem?_eq_getElem (by simpa using h)]⟩
theorem iS.dst {ops:List Oper} {m:Nat} {acc:List (Nat × Ob)} (h:iS P n ops m E H ps pr acc) {i d:Nat} {b:Ob} (hi:acc.reverse[i]? = some (d,b)) (hb:b.isPut = false):cF ops i = some d:=by
 obtain ⟨o,h1,h2⟩:=h.get hi
 cases b with
 | val T=>simp [cF,h1,h2.1.1]
 | new γ T A=>simp [cF,h1,h2.1.1]
 | newp γ T A B p=>simp [cF,h1,h2.1.1]
 | app γ T A B=>simp [cF,h1,h2.1.1]
 | putI=>cases hb
 | putN j=>cases hb
theorem iS.dst0 {ops:List Oper} {m:Nat} {acc:List (Nat × Ob)} (h:iS P n ops m E H ps pr acc) {i d:Nat} {b:Ob} (hi:acc.reverse[i]? = some (d,b)) (hb:b.isPut = true):cF ops i = none:=by
 obtain ⟨o,h1,h2⟩:=h.get hi
 cases b with
 | val T=>cases hb
 | new γ T A=>cases hb
 | newp γ T A B p=>cases hb
 | app γ T A B=>cases hb
 | putI=>simp [cF,h1,h2.2.2.1]
 | putN j=>simp [cF,h1,h2.2.2.1]
def Vk (l:List (Nat × Ob)):Prop:=∀ (j d:Nat) (γ:Type) (T:γ → Ty) (A B:γ → SA) (p:Nat),l[j]? = some (d,.newp γ T A B p) → ∃ d',l[p]? = some (d',.putN j)
def Hu (l : List (Nat × Ob)) (j : Nat) : Ob → Bool
 | .newp _ _ _ _ p => match l[p]? with
  | some (_,.putN j')=>Nat.beq j' j
  | _=>false
 | _=>true
def yJ (l : List (Nat × Ob)) : Nat → List (Nat × Ob) → Bool
 | _,[]=>true
 | j,(_,b) :: r=>Hu l j b && yJ l (j + 1) r
theorem yJ.ok {l : List (Nat × Ob)} : ∀ (r : List (Nat × Ob)) (j : Nat), yJ l j r = true → ∀ (i d : Nat) (b : Ob), r[i]? = some (d, b) → Hu l (j + i) b = true
 | [],_,_,i,d,b,h=>by simp at h
 | (d', b') :: r, j, hc, i, d, b, h => by
  simp only [yJ,Bool.and_eq_true] at hc
  cases i with
  | zero=>simp at h; obtain ⟨rfl,rfl⟩:=h; exact hc.1
  | succ i=>have:=yJ.ok r (j + 1) hc.2 i d b (by simpa using h); rwa [show j + (i + 1) = j + 1 + i by omega]
theorem Vk.of {l : List (Nat × Ob)} (h : yJ l 0 l = true) : Vk l := fun j d γ T A B p hj => by
 have:=yJ.ok l 0 h j d _ hj
 rw [Nat.zero_add] at this
 simp only [Hu] at this
 split at this
 ·rename_i d' j' hp; exact ⟨d',by rw [hp,Nat.eq_of_beq_eq_true this]⟩
 ·cases this
structure oX (cx:Cx) (n:Nat) (ops:List Oper) (m:Nat) (E0:bC) (H:Hp) (ps:iO) (pr:Nat → SA) (L:Nat → Bool) (C:Nat → Cc) (V:aD) (a:Act) (w:World):Prop where
 inv:dR cx V (cL L ps H ++ (List.range m).map fun i=>if L i then (C i).cur L else pr i) w
 df:Lm n a.defers V
 sz:a.tmps.size = n
 old:∀ t T,cP E0 t = some T → (∀ j,j < m → cF ops j ≠ some t) → ∃ v,a.tmps[t]? = some v ∧ T.p v V
 now:∀ j d,j < m → L j = true → cF ops j = some d → ∃ v,a.tmps[d]? = some v ∧ (C j).T.p v V
theorem eT {ops : List Oper} {l : List Oper} : ∀ (r : List (Nat × Ob)) (E : bC) (H : Hp), Fin' P R cx n ops.toArray l k r E H → ∀ (C : Nat → Cc) (i0 : Nat), (∀ (i d : Nat) (b : Ob), r[i]? = some (d, b) → fO b (C (i0 + i))) →
  ∃ E' H', Rg P R cx n ops.toArray l k E' H' ∧ (∀ t T, cP E' t = some T → (cP E t = some T ∧ ∀ (i d : Nat) (b : Ob), r[i]? = some (d, b) → b.isPut = false → d ≠ t) ∨ ∃ (i d : Nat) (b : Ob), r[i]? = some (d, b) ∧ b.isPut = false ∧ d = t ∧ T = (C (i0 + i)).T) ∧
   List.Sublist H' (H ++ (List.range r.length).map fun i=>(C (i0 + i)).B)
 | [],E,H,h,_,_,_=>⟨E,H,h,fun t T hT=>.inl ⟨hT,fun i d b hb _=>by simp at hb⟩,by simp⟩
 | (d, b0) :: r, E, H, h, C, i0, hC => by
  have hC':∀ (i d:Nat) (b:Ob),r[i]? = some (d,b) → fO b (C (i0 + 1 + i)):=fun i d b hb=>by have:=hC (i + 1) d b (by simpa using hb); rwa [show i0 + (i + 1) = i0 + 1 + i by omega] at this
  have hfun : (fun i => (C (i0 + 1 + i)).B) = ((fun i => (C (i0 + i)).B) ∘ Nat.succ) := by
   funext i; simp [show i0 + (i + 1) = i0 + 1 + i by omega]
  -- a slot is written
  have slot : ∀ (E' : bC) (T0 : Ty), (C i0).T = T0 → b0.isPut = false → (∀ t T, cP E' t = some T → (cP ((d, T0) :: E) t = some T ∧ ∀ (i d : Nat) (b : Ob), r[i]? = some (d, b) → b.isPut = false → d ≠ t) ∨ ∃ (i d : Nat) (b : Ob), r[i]? = some (d, b) ∧ b.isPut = false ∧ d = t ∧ T = (C (i0 + 1 + i)).T) →
    ∀ t T,cP E' t = some T → (cP E t = some T ∧ ∀ (i d':Nat) (b:Ob),((d,b0) :: r)[i]? = some (d',b) → b.isPut = false → d' ≠ t) ∨ ∃ (i d':Nat) (b:Ob),((d,b0) :: r)[i]? = some (d',b) ∧ b.isPut = false ∧ d' = t ∧ T = (C (i0 + i)).T:=fun E' T0 h0 hb0 h2 t T hT=>by
   rcases h2 t T hT with ⟨q1,q2⟩ | ⟨i,d',b,q1,q0,q2,q3⟩
   ·rw [bD] at q1
    by_cases e:d = t
    ·rw [if_pos e] at q1; obtain rfl := Option.some.inj q1
     exact .inr ⟨0,d,_,rfl,hb0,e,by rw [Nat.add_zero,h0]⟩
    ·rw [if_neg e] at q1
     refine .inl ⟨q1,fun i d' b hb hnp=>?_⟩
     cases i with
     | zero=>simp at hb; exact hb.1 ▸ e
     | succ i=>exact q2 i d' b (by simpa using hb) hnp
   ·exact .inr ⟨i + 1,d',b,by simpa using q1,q0,q2,by rw [q3,show i0 + (i + 1) = i0 + 1 + i by omega]⟩
  have slot0 : ∀ (E' : bC), b0.isPut = true → (∀ t T, cP E' t = some T → (cP E t = some T ∧ ∀ (i d : Nat) (b : Ob), r[i]? = some (d, b) → b.isPut = false → d ≠ t) ∨ ∃ (i d : Nat) (b : Ob), r[i]? = some (d, b) ∧ b.isPut = false ∧ d = t ∧ T = (C (i0 + 1 + i)).T) →
    ∀ t T,cP E' t = some T → (cP E t = some T ∧ ∀ (i d':Nat) (b:Ob),((d,b0) :: r)[i]? = some (d',b) → b.isPut = false → d' ≠ t) ∨ ∃ (i d':Nat) (b:Ob),((d,b0) :: r)[i]? = some (d',b) ∧ b.isPut = false ∧ d' = t ∧ T = (C (i0 + i)).T:=fun E' hb0 h2 t T hT=>by
   rcases h2 t T hT with ⟨q1,q2⟩ | ⟨i,d',b,q1,q0,q2,q3⟩
   ·refine .inl ⟨q1, fun i d' b hb hnp => ?_⟩
    cases i with
    | zero=>simp at hb; rw [← hb.2,hb0] at hnp; cases hnp
    | succ i=>exact q2 i d' b (by simpa using hb) hnp
   ·exact .inr ⟨i + 1,d',b,by simpa using q1,q0,q2,by rw [q3,show i0 + (i + 1) = i0 + 1 + i by omega]⟩
  have Pl : ∀ H', List.Sublist H' (H ++ (List.range r.length).map fun i => (C (i0 + 1 + i)).B) → List.Sublist H' (H ++ (List.range ((d, b0) :: r).length).map fun i => (C (i0 + i)).B) := fun H' h3 => by
   refine h3.trans ?_
   simp only [List.length_cons,List.range_succ_eq_map,List.map_cons,List.map_map]
   refine List.Sublist.append (List.Sublist.refl H) (List.Sublist.cons _ ?_)
   rw [hfun]; exact List.Sublist.refl _
  have sub1 : ∀ H' (A0 : SA), (C i0).B = A0 → List.Sublist H' ((H ++ [A0]) ++ (List.range r.length).map fun i => (C (i0 + 1 + i)).B) → List.Sublist H' (H ++ (List.range ((d, b0) :: r).length).map fun i => (C (i0 + i)).B) := fun H' A0 e3 h3 => by
   refine h3.trans ?_
   simp only [List.length_cons,List.range_succ_eq_map,List.map_cons,List.map_map,List.append_assoc]
   refine List.Sublist.append (List.Sublist.refl H) ?_
   rw [hfun]
   simp only [Nat.add_zero,e3]
   exact List.Sublist.refl _
  cases b0 with
  | val T0 =>
   obtain ⟨E',H',h1,h2,h3⟩:=eT r _ H h C (i0 + 1) hC'
   have h0:C i0 = ⟨T0,SA.emp,SA.emp,0⟩:=hC 0 d (.val T0) rfl
   exact ⟨E',H',h1,slot E' T0 (by rw [h0]) rfl h2,Pl H' h3⟩
  | new γ T0 A0 =>
   obtain ⟨x,h0⟩:∃ x:γ,C i0 = ⟨T0 x,A0 x,A0 x,0⟩:=hC 0 d (.new γ T0 A0) rfl
   obtain ⟨E',H',h1,h2,h3⟩:=eT r _ _ (h x) C (i0 + 1) hC'
   exact ⟨E',H',h1,slot E' (T0 x) (by rw [h0]) rfl h2,sub1 H' (A0 x) (by rw [h0]) h3⟩
  | app γ T0 A0 B0 =>
   obtain ⟨x,h0⟩:∃ x:γ,C i0 = ⟨T0 x,B0 x,B0 x,0⟩:=hC 0 d (.app γ T0 A0 B0) rfl
   obtain ⟨E',H',h1,h2,h3⟩:=eT r _ _ (h x) C (i0 + 1) hC'
   exact ⟨E',H',h1,slot E' (T0 x) (by rw [h0]) rfl h2,sub1 H' (B0 x) (by rw [h0]) h3⟩
  | newp γ T0 A0 B0 p0 =>
   obtain ⟨x,h0⟩:∃ x:γ,C i0 = ⟨T0 x,A0 x,B0 x,p0⟩:=hC 0 d (.newp γ T0 A0 B0 p0) rfl
   obtain ⟨E',H',h1,h2,h3⟩:=eT r _ _ (h x) C (i0 + 1) hC'
   exact ⟨E',H',h1,slot E' (T0 x) (by rw [h0]) rfl h2,sub1 H' (B0 x) (by rw [h0]) h3⟩
  | putI =>
   obtain ⟨E',H',h1,h2,h3⟩:=eT r _ H h C (i0 + 1) hC'
   exact ⟨E',H',h1,slot0 E' rfl h2,Pl H' h3⟩
  | putN j =>
   obtain ⟨E',H',h1,h2,h3⟩:=eT r _ H h C (i0 + 1) hC'
   exact ⟨E',H',h1,slot0 E' rfl h2,Pl H' h3⟩
theorem mC {ops : List Oper} {m : Nat} {acc : List (Nat × Ob)} {E0 : bC} (hlen : acc.length = m) (hobs : iS P n ops m E0 H ps pr acc) (hokN : Vk acc.reverse) (hpm : ∀ q, q ∈ ps → q.1 < m) {H1 : Hp} (hH1 : cL (fun _ => true) ps H = H1) (hfin : Fin' P R cx n ops.toArray (ops.drop m) k acc.reverse E0 H1)
  {L:Nat → Bool} {a:Act} {w:World} {V:aD} {C:Nat → Cc} (hall:∀ i,i < m → L i = true) (hC:∀ (i d:Nat) (b:Ob),acc.reverse[i]? = some (d,b) → fO b (C i)) (hM:oX cx n ops m E0 H ps pr L C V a w) :
  wpList P ops.toArray (den P R k) (ops.drop m) a w:=by
 obtain ⟨E',H',h1,h2,h3⟩:=eT acc.reverse E0 H1 hfin C 0 (fun i d b hb=>by rw [Nat.zero_add]; exact hC i d b hb)
 have hinv:=hM.inv
 have hs:cL L ps H = H1:=by rw [← hH1]; exact nK (fun q hq=>hall _ (hpm q hq))
 rw [hs] at hinv
 refine h1 a w ⟨V,hinv.hp_of (fun hh=>?_),hM.df,hM.sz,fun t T hT=>?_⟩
 ·refine HH.sublist (h3.trans ?_) hh
  rw [List.length_reverse,hlen]
  have : (List.range m).map (fun i => (C (0 + i)).B) = (List.range m).map fun i => if L i then (C i).cur L else pr i := by
   apply List.map_congr_left
   intro i hi
   have him:=List.mem_range.1 hi
   rw [hall i him,Nat.zero_add]
   obtain ⟨d,b,hb⟩:=iS.len hobs i (by omega)
   have ht:=hC i d b hb
   simp only [if_true,Cc.cur]
   cases b with
   | val T=>simp only [fO] at ht; rw [ht]; simp
   | new γ T A=>obtain ⟨x,ht⟩:=ht; rw [ht]; simp
   | app γ T A B=>obtain ⟨x,ht⟩:=ht; rw [ht]; simp
   | newp γ T A B p =>
    obtain ⟨x,ht⟩:=ht
    obtain ⟨d',hp⟩:=hokN i d γ T A B p hb
    have hpl:=(List.getElem?_eq_some_iff.1 hp).1
    rw [ht,hall p (by simpa [hlen] using hpl)]; simp
   | putI=>simp only [fO] at ht; rw [ht.1,ht.2]; simp
   | putN j=>simp only [fO] at ht; rw [ht.1,ht.2]; simp
  rw [this]; exact List.Sublist.refl _
 ·rcases h2 t T hT with ⟨q1, q2⟩ | ⟨i, d, b, q1, q0, q2, q3⟩
  ·refine hM.old t T q1 (fun j hj => ?_)
   obtain ⟨d,b,hb⟩:=iS.len hobs j (by omega)
   cases hbp:b.isPut with
   | true=>rw [hobs.dst0 hb hbp]; simp
   | false =>
    rw [hobs.dst hb hbp]
    intro e; exact q2 j d b hb hbp (Option.some.inj e)
  ·have hi : i < m := by have := (List.getElem?_eq_some_iff.1 q1).1; simpa [hlen] using this
   subst q2; rw [q3,Nat.zero_add]
   exact hM.now i d hi (hall i hi) (hobs.dst q1 q0)
theorem yN {m i : Nat} (hi : i < m) {listed : Array Bool} (hil : i < listed.size) {C : Nat → Cc} {c : Cc} (hc : ∀ j, j < m → j ≠ i → listed[j]? = some true → (C j).p = i → (C j).A = (C j).B) (hcc : c.p = i → c.A = c.B) :
  ((List.range m).map fun j => if (listed[j]? == some true) = true then (C j).cur (fun q => listed[q]? == some true) else pr j).set i (c.cur (fun q => listed[q]? == some true)) =
   (List.range m).map fun j=>if ((listed.setIfInBounds i true)[j]? == some true) = true then (if j = i then c else C j).cur (fun q=>(listed.setIfInBounds i true)[q]? == some true) else pr j:=by
 have key : ∀ c : Cc, (c.p = i → c.A = c.B) → c.cur (fun q => (listed.setIfInBounds i true)[q]? == some true) = c.cur (fun q => listed[q]? == some true) := fun c h => by
  unfold Cc.cur
  by_cases e:c.p = i
  ·rw [h e]; simp
  ·simp only [Array.getElem?_setIfInBounds_ne (fun x=>e x.symm)]
 rw [jM hi]
 apply List.map_congr_left
 intro j hj
 by_cases e:j = i
 ·subst e; simp [hil,key c hcc]
 ·rw [Array.getElem?_setIfInBounds_ne (fun x => e x.symm), if_neg e, if_neg e]
  by_cases hl:(listed[j]? == some true) = true
  ·rw [if_pos hl,if_pos hl,key _ (hc j (List.mem_range.1 hj) e (by simpa using hl))]
  ·rw [if_neg hl,if_neg hl]
theorem oX.next {ops : List Oper} {m : Nat} {E0 : bC} (hd : Ah ops m) {listed : Array Bool} {a : Act} {w w' : World} {V V' : aD} {C : Nat → Cc} (hM : oX cx n ops m E0 H ps pr (fun i => listed[i]? == some true) C V a w) {i d : Nat} (hi : i < m) (hip : ∀ q, q ∈ ps → i ≠ q.1)
  (hdst:cF ops i = some d) (hdn:d < n) (hli:listed[i]? = some false) {c:Cc} (hc:∀ j,j < m → j ≠ i → listed[j]? = some true → (C j).p = i → (C j).A = (C j).B) (hcc:c.p = i → c.A = c.B) {v:Value} (hv:c.T.p v V') (hle:iT V V')
  (hinv:dR cx V' (cL (fun i=>listed[i]? == some true) ps H ++ ((List.range m).map fun i=>if (listed[i]? == some true) = true then (C i).cur (fun q=>listed[q]? == some true) else pr i).set i (c.cur (fun q=>listed[q]? == some true))) w') :
  oX cx n ops m E0 H ps pr (fun j=>(listed.setIfInBounds i true)[j]? == some true) (fun j=>if j = i then c else C j) V' (a.put (some d) v) w':=by
 have hil:i < listed.size:=(Array.getElem?_eq_some_iff.1 hli).1
 refine ⟨?_,hM.df.mono hle,by simp [Act.put,hM.sz],fun t U hU hn=>?_,fun j d' hj hL hdj=>?_⟩
 ·rw [yN hi hil hc hcc] at hinv
  have e:cL (fun j=>(listed.setIfInBounds i true)[j]? == some true) ps H = cL (fun i=>listed[i]? == some true) ps H:=nK (fun q hq=>by rw [Array.getElem?_setIfInBounds_ne (hip q hq)])
  rw [e]; exact hinv
 ·obtain ⟨u, h1, h2⟩ := hM.old t U hU hn
  refine ⟨u,?_,U.mono h2 hle⟩
  rw [nS _ _ _ _ (fun e=>hn i hi (by rw [hdst,e]))]; exact h1
 ·by_cases e : j = i
  ·subst e
   rw [hdst] at hdj; obtain rfl:=Option.some.inj hdj
   exact ⟨v,by simp [Act.put,hM.sz,hdn],by simpa using hv⟩
  ·rw [Array.getElem?_setIfInBounds_ne (fun x => e x.symm)] at hL
   obtain ⟨u,h1,h2⟩:=hM.now j d' hj hL hdj
   refine ⟨u,?_,by simpa [e] using Ty.mono _ h2 hle⟩
   rw [nS _ _ _ _ (fun x=>?_)]
   ·exact h1
   ·subst x
    rcases Nat.lt_or_ge j i with q | q
    ·exact hd.dst i j hi q _ hdst hdj
    ·exact hd.dst j i hj (by omega) _ hdj hdst
theorem oX.put {ops : List Oper} {m : Nat} {E0 : bC} {listed : Array Bool} {a : Act} {w w' : World} {V : aD} {C : Nat → Cc} (hM : oX cx n ops m E0 H ps pr (fun i => listed[i]? == some true) C V a w) {i : Nat}
  (hdst:cF ops i = none)
  (hinv:dR cx V (cL (fun j=>(listed.setIfInBounds i true)[j]? == some true) ps H ++ (List.range m).map fun j=>if ((listed.setIfInBounds i true)[j]? == some true) = true then (if j = i then (⟨jV,SA.emp,SA.emp,0⟩:Cc) else C j).cur (fun q=>(listed.setIfInBounds i true)[q]? == some true) else pr j) w') :
  oX cx n ops m E0 H ps pr (fun j=>(listed.setIfInBounds i true)[j]? == some true) (fun j=>if j = i then ⟨jV,SA.emp,SA.emp,0⟩ else C j) V a w':=by
 refine ⟨hinv,hM.df,hM.sz,hM.old,fun j d' hj hL hdj=>?_⟩
 by_cases e:j = i
 ·subst e; rw [hdst] at hdj; cases hdj
 ·rw [Array.getElem?_setIfInBounds_ne (fun x => e x.symm)] at hL
  simpa [e] using hM.now j d' hj hL hdj
theorem jA {ops : List Oper} {m : Nat} {acc : List (Nat × Ob)} {E0 : bC} (hd : Ah ops m) (hlen : acc.length = m) (hobs : iS P n ops m E0 H ps pr acc) (hokN : Vk acc.reverse) (hokP : okP ps) (hpm : ∀ q, q ∈ ps → q.1 < m) {H1 : Hp} (hH1 : cL (fun _ => true) ps H = H1) (hfin : Fin' P R cx n ops.toArray (ops.drop m) k acc.reverse E0 H1) :
  ∀ (fuel : Nat) (listed : Array Bool) (a : Act) (w : World) (V : aD) (C : Nat → Cc), LI ops listed → fC listed.toList ≤ fuel → (∀ i : Nat, m ≤ i → i < ops.length → listed[i]? = some false) →
   (∀ (i d:Nat) (b:Ob),acc.reverse[i]? = some (d,b) → listed[i]? = some true → fO b (C i)) → oX cx n ops m E0 H ps pr (fun i=>listed[i]? == some true) C V a w → wpAny P .any ops.toArray (den P R k) fuel listed a w:=by
 intro fuel
 have done : ∀ (listed : Array Bool) (a : Act) (w : World) (V : aD) (C : Nat → Cc), LI ops listed → ∀ fuel, fC listed.toList ≤ fuel → (∀ i : Nat, m ≤ i → i < ops.length → listed[i]? = some false) →
   (∀ (i d:Nat) (b:Ob),acc.reverse[i]? = some (d,b) → listed[i]? = some true → fO b (C i)) → oX cx n ops m E0 H ps pr (fun i=>listed[i]? == some true) C V a w → (∀ i:Nat,i < m → listed[i]? = some true) → wpAny P .any ops.toArray (den P R k) fuel listed a w:=by
  intro listed a w V C hL fuel hc hl hC hM hall
  have hge:=sH listed.toList m (by simpa [hL.sz] using hd.le) (fun i h1 h2=>by simpa using hl i h1 (by simpa [hL.sz] using h2))
  refine lS hd fuel m listed a w (Nat.le_refl m) hd.le (by simp [hL.sz] at hge; omega) hL (fun i hi=>?_) ?_
  ·by_cases e : i < m
   ·rw [hall i e]; simp [e]
   ·rw [hl i (by omega) hi]; simp; omega
  ·refine mC hlen hobs hokN hpm hH1 hfin (fun i hi => by rw [hall i hi]; rfl) (fun i d b hb => hC i d b hb (hall i ?_)) hM
   have:=(List.getElem?_eq_some_iff.1 hb).1
   simpa [hlen] using this
 induction fuel with
 | zero =>
  intro listed a w V C hL hc hl hC hM
  refine done listed a w V C hL 0 hc hl hC hM (fun i hi=>?_)
  have hil:i < listed.size:=by rw [hL.sz]; have:=hd.le; omega
  cases hb:listed[i] with
  | true=>simp [hil,hb]
  | false =>
   have:=mP listed.toList i (by simp [hil,hb])
   omega
 | succ fuel ih =>
  intro listed a w V C hL hc hl hC hM
  by_cases hall:∀ i:Nat,i < m → listed[i]? = some true
  ·exact done listed a w V C hL _ hc hl hC hM hall
  refine ⟨fun hr=>absurd (fun i hi=>lO hr hL.sz hd.back i (by have:=hd.le; omega)) hall,fun i hi=>?_⟩
  obtain ⟨o,h1,h2,h3⟩:=jS hi hL.sz
  have him : i < m := by
   rcases Nat.lt_or_ge i m with hx | hx
   ·exact hx
   ·exact absurd (fun j hj=>hL.before hd h1 h3 hx j (by omega)) hall
  have hil:i < listed.size:=(Array.getElem?_eq_some_iff.1 h2).1
  obtain ⟨d,b,hb⟩:=iS.len hobs i (by omega)
  obtain ⟨o',q1,q4⟩:=hobs.get hb
  rw [h1] at q1; obtain rfl:=Option.some.inj q1
  have hpl:(acc.reverse.take i).reverse.length = i:=by simp; omega
  have slots : ∀ Ei, Srcs ops m E0 (acc.reverse.take i).reverse o Ei → bR n Ei V a := fun Ei hS => by
   refine ⟨hM.df,hM.sz,fun t T hT=>?_⟩
   rcases hS t T hT with ⟨r1,r2⟩ | ⟨j,r1,r2⟩
   ·refine hM.old t T r1 (fun j hj e => ?_)
    have:=List.all_eq_true.1 r2 j (List.mem_range.2 hj)
    simp [e] at this
   ·rw [List.reverse_reverse, List.getElem?_take] at r1
    split at r1
    case isFalse=>cases r1
    case isTrue hji =>
    obtain ⟨e,he,hb'⟩:=List.any_eq_true.1 r2
    simp only [Bool.and_eq_true] at hb'
    have hon:e.on = j:=Nat.eq_of_beq_eq_true hb'.1
    have hlj:=h3 e he hb'.2
    rw [hon] at hlj
    have hc':C j = ⟨T,SA.emp,SA.emp,0⟩:=hC j t (.val T) r1 hlj
    obtain ⟨v,s1,s2⟩:=hM.now j t (by omega) (by rw [hlj]; rfl) (hobs.dst r1 rfl)
    exact ⟨v,s1,by rw [hc'] at s2; exact s2⟩
  have hcnt : fC (listed.setIfInBounds i true).toList ≤ fuel := by
   have:=mQ listed.toList i (by simpa using h2)
   rw [Array.toList_setIfInBounds]; omega
  have hl' : ∀ j : Nat, m ≤ j → j < ops.length → (listed.setIfInBounds i true)[j]? = some false := fun j hj hjl => by
   rw [Array.getElem?_setIfInBounds_ne (by omega)]; exact hl j hj hjl
  have took : ∀ (c : Cc), fO b c → ∀ (j d : Nat) (b : Ob), acc.reverse[j]? = some (d, b) → (listed.setIfInBounds i true)[j]? = some true → fO b (if j = i then c else C j) := fun c ht j d' b' hb' hj => by
   by_cases e:j = i
   ·subst e
    rw [hb] at hb'; simp at hb'
    simp only [if_pos]; exact hb'.2 ▸ ht
   ·rw [Array.getElem?_setIfInBounds_ne (fun x => e x.symm)] at hj
    simp only [if_neg e]; exact hC j d' b' hb' hj
  -- only a store of its Xf changes a block of the region
  have other : (∀ j, b ≠ .putN j) → ∀ j, j < m → j ≠ i → listed[j]? = some true → (C j).p = i → (C j).A = (C j).B := fun hnp j hj _ hlj hpj => by
   obtain ⟨dj,bj,hbj⟩:=iS.len hobs j (by omega)
   have ht:=hC j dj bj hbj hlj
   cases bj with
   | val T=>simp only [fO] at ht; rw [ht]
   | new γ T A=>obtain ⟨x,ht⟩:=ht; rw [ht]
   | app γ T A B=>obtain ⟨x,ht⟩:=ht; rw [ht]
   | newp γ T A B p =>
    obtain ⟨x,ht⟩:=ht
    rw [ht] at hpj
    obtain ⟨d',hp⟩:=hokN j dj γ T A B p hbj
    rw [show p = i from hpj,hb] at hp
    simp at hp
    exact absurd hp.2 (hnp j)
   | putI=>simp only [fO] at ht; rw [ht.1,ht.2]
   | putN j'=>simp only [fO] at ht; rw [ht.1,ht.2]
  have notyet : ∀ p, ((kU ops []).getD p 0).testBit i = true → p < ops.length → listed[p]? ≠ some true := fun p hbit hpo hlp => by
   have ho:ops[p]? = some ops[p]:=List.getElem?_eq_getElem hpo
   have:=pP (fun j=>listed[j]? = some true) ops hL.cl ops [] (fun j o hj=>by simpa using hj) (fun k o hk=>by simp at hk) p ops[p] (by rw [jN]; simpa using hpo) ho (hL.cl p _ ho hlp) i hbit
   rw [h2] at this; simp at this
  have hx : pr i = SA.emp → ((List.range m).map fun i => if (listed[i]? == some true) = true then (C i).cur (fun q => listed[q]? == some true) else pr i).set i SA.emp = (List.range m).map fun i => if (listed[i]? == some true) = true then (C i).cur (fun q => listed[q]? == some true) else pr i := by
   intro hpr
   rw [jM him]
   apply List.map_congr_left
   intro j _
   by_cases e:j = i
   ·subst e; simp [h2,hpr]
   ·simp [e]
  have newc : ∀ (γ : Type) (T : γ → Ty) (A : γ → SA) (Ei : bC), b.isPut = false → (∀ j, b ≠ .putN j) → o.dst = some d → d < n → (∀ q, q ∈ ps → i ≠ q.1) → o.guard = none → Srcs ops m E0 (acc.reverse.take i).reverse o Ei → fL P n Ei [] o γ T A → (c : γ → Cc) → (∀ x, (c x).T = T x) → (∀ x, (c x).cur (fun q => listed[q]? == some true) = A x) → (∀ x, (c x).p = i → (c x).A = (c x).B) → (∀ x, fO b (c x)) →
    (if Region.wanted o (yielded ops.toArray a.tmps) = true then o.wp P a w (wpAny P .any ops.toArray (den P R k) fuel (listed.setIfInBounds i true)) (den P R k) ∨ (o.asks P a w ∧ LetsOut (den P R k)) else wpAny P .any ops.toArray (den P R k) fuel (listed.setIfInBounds i true) (a.put o.dst undef) w):=fun γ T A Ei hip hnp q2 q3 q5 hg hS hst c hcT hcur hcp htk=>by
   have hdst:=hobs.dst hb hip
   rw [if_pos (by simp [Region.wanted,hg])]
   left
   refine hst cx (cL (fun i=>listed[i]? == some true) ps H ++ (List.range m).map fun i=>if (listed[i]? == some true) = true then (C i).cur (fun q=>listed[q]? == some true) else pr i) a w V hM.inv (slots Ei hS) _ _ fun x v w' V' e3 hle e2=>?_
   rw [q2]
   refine ih _ _ _ V' _ (hL.set h1 h3) hcnt hl' (took (c x) (htk x)) (hM.next hd him q5 hdst q3 h2 (other hnp) (hcp x) (by rw [hcT]; exact e2) hle (e3.hp_of (fun hh=>?_)))
   rw [show ([] ++ (cL (fun i=>listed[i]? == some true) ps H ++ (List.range m).map fun i=>if (listed[i]? == some true) = true then (C i).cur (fun q=>listed[q]? == some true) else pr i) ++ [A x]:Hp) = (cL (fun i=>listed[i]? == some true) ps H ++ (List.range m).map fun i=>if (listed[i]? == some true) = true then (C i).cur (fun q=>listed[q]? == some true) else pr i) ++ [A x] from rfl] at hh
   have:=HH.move (p:=(cL (fun i=>listed[i]? == some true) ps H).length + i) hh (by simp; omega)
   rw [List.set_append_right _ _ (by omega),show (cL (fun i=>listed[i]? == some true) ps H).length + i - (cL (fun i=>listed[i]? == some true) ps H).length = i by omega] at this
   rw [hcur x]; exact this
  unfold wpOp
  simp only [List.getElem?_toArray,h1]
  cases b with
  | val T =>
   obtain ⟨⟨q2,q3,q5⟩,hpr,Ei,hS,hst⟩:=q4
   rw [hpl] at q5 hpr
   have hdst:=hobs.dst hb rfl
   have hst' : eM P n ops.toArray Ei (cL (fun i => listed[i]? == some true) ps H) o T := by
    rcases hst with hst | ⟨hst,hbit⟩
    ·exact Ac ps _ (by rw [Fc]; exact hst)
    ·rw [uH (fun q hq => by
      rw [hpl] at hbit
      cases hlp:(listed[q.1]? == some true) with
      | false=>rfl
      | true=>exact absurd (by simpa using hlp) (notyet q.1 (hbit q hq).1 (hbit q hq).2))]
     exact hst
   have := hst' cx _ a w V hM.inv (slots Ei hS) (wpAny P .any ops.toArray (den P R k) fuel (listed.setIfInBounds i true)) (den P R k) (fun v w' V' hi' hle hv => by
    rw [q2]
    exact ih _ _ _ V' _ (hL.set h1 h3) hcnt hl' (took ⟨T, SA.emp, SA.emp, 0⟩ rfl) (hM.next hd him q5 hdst q3 h2 (other (fun j e => by cases e)) (fun _ => rfl) hv hle (by
     have:(⟨T,SA.emp,SA.emp,0⟩:Cc).cur (fun q=>listed[q]? == some true) = SA.emp:=by simp [Cc.cur]
     rw [this,hx hpr]; exact hi')))
   split
   ·rename_i hw; rw [if_pos hw] at this; exact .inl this
   ·rename_i hw; rw [if_neg hw] at this; exact this
  | new γ T A =>
   obtain ⟨⟨q2,q3,q5⟩,_,hg,Ei,hS,hst⟩:=q4
   rw [hpl] at q5
   exact newc γ T A Ei rfl (fun j e=>by cases e) q2 q3 q5 hg hS hst (fun x=>⟨T x,A x,A x,0⟩) (fun x=>rfl) (fun x=>by simp [Cc.cur]) (fun x _=>rfl) (fun x=>⟨x,rfl⟩)
  | newp γ T A B p =>
   obtain ⟨⟨q2,q3,q5⟩,_,hg,hbit,Ei,hS,hst⟩:=q4
   rw [hpl] at q5 hbit
   have hnl:=notyet p hbit.1 hbit.2
   have hlp : (listed[p]? == some true) = false := by
    cases hlp:(listed[p]? == some true) with
    | false=>rfl
    | true=>exact absurd (by simpa using hlp) hnl
   refine newc γ T A Ei rfl (fun j e=>by cases e) q2 q3 q5 hg hS hst (fun x=>⟨T x,A x,B x,p⟩) (fun x=>rfl) (fun x=>by simp only [Cc.cur,hlp]; simp) (fun x hp=>?_) (fun x=>⟨x,rfl⟩)
   obtain ⟨d',hp'⟩:=hokN i d γ T A B p hb
   rw [show p = i from hp,hb] at hp'
   simp at hp'
  | app γ T A B =>
   obtain ⟨⟨q2,q3,q5⟩,hpr,hg,Ei,hS,hst⟩:=q4
   rw [hpl] at q5 hpr
   have hdst:=hobs.dst hb rfl
   have hAe : (cL (fun i => listed[i]? == some true) ps H ++ (List.range m).map fun i => if (listed[i]? == some true) = true then (C i).cur (fun q => listed[q]? == some true) else pr i)[(cL (fun i => listed[i]? == some true) ps H).length + i]? = some A := by
    rw [List.getElem?_append_right (by omega),show (cL (fun i=>listed[i]? == some true) ps H).length + i - (cL (fun i=>listed[i]? == some true) ps H).length = i by omega,List.getElem?_map,List.getElem?_range him]
    simp [h2,hpr]
   obtain ⟨x,v,w',e1,e2,e3⟩:=Py hst hM.inv hAe (slots Ei hS)
   rw [if_pos (by simp [Region.wanted,hg])]
   left
   simp only [Oper.wp,e1,Oper.upon_value,q2]
   refine ih _ _ _ V _ (hL.set h1 h3) hcnt hl' (took ⟨T x,B x,B x,0⟩ ⟨x,rfl⟩) (hM.next hd him q5 hdst q3 h2 (other (fun j e=>by cases e)) (fun _=>rfl) e2 (iT.refl V) ?_)
   rw [List.set_append_right _ _ (by omega),show (cL (fun i=>listed[i]? == some true) ps H).length + i - (cL (fun i=>listed[i]? == some true) ps H).length = i by omega] at e3
   have:(⟨T x,B x,B x,0⟩:Cc).cur (fun q=>listed[q]? == some true) = B x:=by simp [Cc.cur]
   rw [this]; exact e3
  | putI =>
   obtain ⟨hpr,hg,q2,q,A,Ei,hq,q5,hH,hS,hst⟩:=q4
   rw [hpl] at q5 hpr
   have hpq:(listed[q.1]? == some true) = false:=by rw [q5,h2]; rfl
   have hAe : (cL (fun i => listed[i]? == some true) ps H ++ (List.range m).map fun i => if (listed[i]? == some true) = true then (C i).cur (fun q => listed[q]? == some true) else pr i)[q.2.1]? = some A := by
    have hl:=(List.getElem?_eq_some_iff.1 hH).1
    rw [List.getElem?_append_left (by rw [oA]; exact hl),iY,hH]
    simp only [Option.map_some,Option.some.injEq]
    have : ∀ {ps' : iO}, (∀ q', q' ∈ ps' → q'.2.1 = q.2.1 → q'.1 = q.1) → mR (fun i => listed[i]? == some true) q.2.1 A ps' = A := by
     intro ps'
     induction ps' with
     | nil=>intro _; rfl
     | cons r rs ihr =>
      intro h
      unfold mR
      by_cases e:r.2.1 = q.2.1
      ·rw [if_pos e,h r (by simp) e,if_neg (by rw [hpq]; simp)]
      ·rw [if_neg e]; exact ihr (fun q' hq'=>h q' (by simp [hq']))
    exact this (fun q' hq' e=>by rw [hokP.one hq' hq (.inr e)])
   obtain ⟨w',e1,e3⟩:=Ql hst hM.inv hAe (slots Ei hS)
   rw [if_pos (by simp [Region.wanted,hg])]
   left
   simp only [Oper.wp,e1,Oper.upon_skip]
   have ep:a.put o.dst undef = a:=by rw [q2]; rfl
   rw [ep]
   refine ih _ _ _ V _ (hL.set h1 h3) hcnt hl' (took ⟨jV,SA.emp,SA.emp,0⟩ ⟨rfl,rfl⟩) (hM.put (hobs.dst0 hb rfl) ?_)
   have hl:=(List.getElem?_eq_some_iff.1 hH).1
   rw [List.set_append_left _ _ (by rw [oA]; exact hl)] at e3
   rw [← Fn (L':=fun j=>(listed.setIfInBounds i true)[j]? == some true) hokP hq (by rw [q5]; simp [hil]) (fun j hj=>by rw [Array.getElem?_setIfInBounds_ne (fun x=>hj (by rw [q5,x]))])] at e3
   have e4:=yN (pr:=pr) him hil (c:=⟨jV,SA.emp,SA.emp,0⟩) (other (fun j e=>by cases e)) (fun _=>rfl)
   have e5:(⟨jV,SA.emp,SA.emp,0⟩:Cc).cur (fun q=>listed[q]? == some true) = SA.emp:=by simp [Cc.cur]
   rw [e5,hx hpr] at e4
   rw [← e4]; exact e3
  | putN j =>
   obtain ⟨hpr,hg,q2,q5,hedge,dj,γ,T,A,B,Ei,hj,hS,hst⟩:=q4
   rw [hpl] at q5 hj hpr
   rw [List.reverse_reverse,List.getElem?_take] at hj
   split at hj
   case isFalse=>cases hj
   case isTrue hji =>
   obtain ⟨e,he,hb'⟩:=List.any_eq_true.1 hedge
   simp only [Bool.and_eq_true] at hb'
   have hon:e.on = j:=Nat.eq_of_beq_eq_true hb'.1
   have hlj:=h3 e he hb'.2
   rw [hon] at hlj
   obtain ⟨x,hcj⟩:=hC j dj _ hj hlj
   obtain ⟨v,s1,s2⟩:=hM.now j dj (by omega) (by rw [hlj]; rfl) (hobs.dst hj rfl)
   have hcurj:(C j).cur (fun q=>listed[q]? == some true) = A x:=by rw [hcj]; simp [Cc.cur,h2]
   have hAe : (cL (fun i => listed[i]? == some true) ps H ++ (List.range m).map fun i => if (listed[i]? == some true) = true then (C i).cur (fun q => listed[q]? == some true) else pr i)[(cL (fun i => listed[i]? == some true) ps H).length + j]? = some (A x) := by
    rw [List.getElem?_append_right (by omega),show (cL (fun i=>listed[i]? == some true) ps H).length + j - (cL (fun i=>listed[i]? == some true) ps H).length = j by omega,List.getElem?_map,List.getElem?_range (by omega)]
    simp [hlj,hcurj]
   have hsl : bR n ((dj, T x) :: Ei) V a := by
    have h0:=slots Ei hS
    refine ⟨h0.1,h0.2.1,fun t U hU=>?_⟩
    rw [bD] at hU
    by_cases e:dj = t
    ·subst e; rw [if_pos rfl] at hU; obtain rfl := Option.some.inj hU
     exact ⟨v,s1,by rw [hcj] at s2; exact s2⟩
    ·rw [if_neg e] at hU; exact h0.2.2 t U hU
   obtain ⟨w',e1,e3⟩:=Ql (hst x) hM.inv hAe hsl
   rw [if_pos (by simp [Region.wanted,hg])]
   left
   simp only [Oper.wp,e1,Oper.upon_skip]
   have ep:a.put o.dst undef = a:=by rw [q2]; rfl
   rw [ep]
   refine ih _ _ _ V _ (hL.set h1 h3) hcnt hl' (took ⟨jV,SA.emp,SA.emp,0⟩ ⟨rfl,rfl⟩) (hM.put (hobs.dst0 hb rfl) ?_)
   have es:cL (fun j=>(listed.setIfInBounds i true)[j]? == some true) ps H = cL (fun i=>listed[i]? == some true) ps H:=nK (fun q hq=>by rw [Array.getElem?_setIfInBounds_ne (q5 q hq)])
   rw [es]
   rw [List.set_append_right _ _ (by omega),show (cL (fun i=>listed[i]? == some true) ps H).length + j - (cL (fun i=>listed[i]? == some true) ps H).length = j by omega] at e3
   have e4 : ((List.range m).map fun i => if (listed[i]? == some true) = true then (C i).cur (fun q => listed[q]? == some true) else pr i).set j (B x) =
     (List.range m).map fun l=>if ((listed.setIfInBounds i true)[l]? == some true) = true then (if l = i then (⟨jV,SA.emp,SA.emp,0⟩:Cc) else C l).cur (fun q=>(listed.setIfInBounds i true)[q]? == some true) else pr l:=by
    rw [jM (by omega:j < m)]
    apply List.map_congr_left
    intro l hl2
    have hlm:=List.mem_range.1 hl2
    by_cases e1:l = j
    ·have hne : i ≠ j := by omega
     have hcu:(C j).cur (fun q=>(listed.setIfInBounds i true)[q]? == some true) = B x:=by rw [hcj]; simp [Cc.cur,hil]
     rw [e1,if_pos rfl,Array.getElem?_setIfInBounds_ne hne,if_neg (Ne.symm hne),hcu,hlj]; rfl
    ·rw [if_neg e1]
     by_cases e2:l = i
     ·have h5 : (⟨jV, SA.emp, SA.emp, 0⟩ : Cc).cur (fun q => (listed.setIfInBounds i true)[q]? == some true) = SA.emp := by simp [Cc.cur]
      rw [e2,h2,if_pos rfl,h5,hpr]; simp
     ·rw [Array.getElem?_setIfInBounds_ne (fun x => e2 x.symm), if_neg e2]
      by_cases hll:(listed[l]? == some true) = true
      ·rw [if_pos hll, if_pos hll]
       unfold Cc.cur
       by_cases e3:(C l).p = i
       ·have hll' : listed[l]? = some true := by simpa using hll
        obtain ⟨dl,bl',hbl⟩:=iS.len hobs l (by omega)
        have ht:=hC l dl bl' hbl hll'
        have : (C l).A = (C l).B := by
         cases bl' with
         | val T=>simp only [fO] at ht; rw [ht]
         | new γ T A=>obtain ⟨x,ht⟩:=ht; rw [ht]
         | app γ T A B=>obtain ⟨x,ht⟩:=ht; rw [ht]
         | newp γ T A B p =>
          obtain ⟨x,ht⟩:=ht
          rw [ht] at e3
          obtain ⟨d',hp⟩:=hokN l dl γ T A B p hbl
          rw [show p = i from e3,hb] at hp
          simp at hp
          exact absurd hp.2.symm e1
         | putI=>simp only [fO] at ht; rw [ht.1,ht.2]
         | putN j'=>simp only [fO] at ht; rw [ht.1,ht.2]
        rw [this]; simp
       ·simp only [Array.getElem?_setIfInBounds_ne (fun x=>e3 x.symm)]
      ·rw [if_neg hll,if_neg hll]
   rw [← e4]; exact e3
theorem D_done {ops l : List Oper} {m : Nat} {acc : List (Nat × Ob)} (hP : P.follows .mixedOrders = true) (hm : acc.length = m) (hchk : qP ops m = true) (hpm : (ps.all fun q => Nat.blt q.1 m) = true) (hokP : okP ps) (hokN : yJ acc.reverse 0 acc.reverse = true) {H1 : Hp} (hH1 : cL (fun _ => true) ps H = H1)
  (h:Fin' P R cx n ops.toArray l k acc.reverse E H1):Dr P R cx n ops m k E Ho H ps pr l acc:=fun hin hops hobs id a w ⟨V,hi,hs⟩=>by
 have hd:=Ah.of hchk
 have hl : ops.drop m = l := by
  conv=>lhs; rw [hops]
  rw [List.drop_append,List.drop_of_length_le (by simp; omega)]
  simp [hm,Nat.min_eq_left hd.le]
 refine wp_region_any hP ?_
 have hnone : ∀ i : Nat, (Array.replicate ops.toArray.size false)[i]? ≠ some true := fun i h => by
  rw [Array.getElem?_replicate] at h; split at h <;> simp at h
 have hfalse : ∀ i : Nat, ((Array.replicate ops.toArray.size false)[i]? == some true) = false := fun i => by
  cases hc:((Array.replicate ops.toArray.size false)[i]? == some true) with
  | false=>rfl
  | true=>exact absurd (by simpa using hc) (hnone i)
 refine jA (cx:=cx) (n:=n) (E0:=E) (H:=H) (ps:=ps) (pr:=pr) hd hm hobs (Vk.of hokN) hokP (fun q hq=>Nat.le_of_ble_eq_true (List.all_eq_true.1 hpm q hq)) hH1 (by rw [hl]; exact h) _ _ a _ V (fun _=>⟨jV,SA.emp,SA.emp,0⟩) ⟨by simp,fun i o ho h=>absurd h (hnone i)⟩ ?_ (fun i h1 h2=>by simp [h2]) (fun i d b _ h=>absurd h (hnone i)) ?_
 ·have : ∀ j, fC (List.replicate j false) ≤ j := fun j => by
   induction j with
   | zero=>simp [fC]
   | succ j ih=>simp only [List.replicate_succ,fC]; simp; omega
  simpa using this _
 ·refine ⟨?_, hs.1, hs.2.1, fun t T hT _ => hs.2.2 t T hT, fun j d hj hL => ?_⟩
  ·rw [uH (fun q _ => hfalse q.1)]
   have e : ((List.range m).map fun i => if ((Array.replicate ops.toArray.size false)[i]? == some true) = true then Cc.cur (fun i => (Array.replicate ops.toArray.size false)[i]? == some true) ((fun _ => (⟨jV, SA.emp, SA.emp, 0⟩ : Cc)) i) else pr i) = (List.range m).map pr := by
    apply List.map_congr_left; intro i _; rw [if_neg (by rw [hfalse]; simp)]
   rw [e]
   exact hi.drew.withHH (hin _ _ _ hi.drew.hp)
  ·exact absurd (by simpa using hL) (hnone j)
theorem F_nil {ops:Array Oper} {l:List Oper} (h:Rg P R cx n ops l k E H):Fin' P R cx n ops l k [] E H:=h
theorem F_val {ops:Array Oper} {l:List Oper} {d:Nat} {T:Ty} {r:List (Nat × Ob)} (h:Fin' P R cx n ops l k r ((d,T) :: E) H):Fin' P R cx n ops l k ((d,.val T) :: r) E H:=h
theorem F_putN {ops:Array Oper} {l:List Oper} {d j:Nat} {r:List (Nat × Ob)} (h:Fin' P R cx n ops l k r E H):Fin' P R cx n ops l k ((d,.putN j) :: r) E H:=h
theorem F_app {ops:Array Oper} {l:List Oper} {d:Nat} {γ:Type} {T:γ → Ty} {A:SA} {B:γ → SA} {r:List (Nat × Ob)} (h:∀ x:γ,Fin' P R cx n ops l k r ((d,T x) :: E) (H ++ [B x])):Fin' P R cx n ops l k ((d,.app γ T A B) :: r) E H:=h
theorem F_newp {ops:Array Oper} {l:List Oper} {d:Nat} {γ:Type} {T:γ → Ty} {A B:γ → SA} {p:Nat} {r:List (Nat × Ob)} (h:∀ x:γ,Fin' P R cx n ops l k r ((d,T x) :: E) (H ++ [B x])):Fin' P R cx n ops l k ((d,.newp γ T A B p) :: r) E H:=h
end
end Y
section
variable {P:Program} {n:Nat} {E:bC} {H:Hp} {d:Option Tmp} {t:TypeId} {pos:String} {af:Array Edge} {g:Option (Nat × Bool)}
theorem sY {x y : Operand} {s e : Nat} {v : Value} {Ts Us : List Ty} {inf : TypeInfo} {z : Value} {dd : Nat} (ht : P.underlying t = some (.slice e)) (hi : P.info? e = some inf) (hz : inf.zero = some z) (hsize : inf.size = s) (hzs : z.cells.size = s)
  (hx:aN E x (Is v)) (hy:aN E y (jL s Us)) (hne:Us ≠ []) (hEl:∀ T,T ∈ Us → El s T) (hlen:(Ts.length + Us.length) * inf.bytes ≤ 140737488355328) (h63:Ts.length + Us.length ≤ 9223372036854775807) {t':TypeId} :
  xS P n E (bA e s v Ts) ⟨some dd,.call ⟨.builtin .append,#[x,y],#[t,t]⟩,t',pos,af,none⟩ Value (fun v'=>Is v') (fun v'=>bA e s v' (Ts ++ Us)):=fun cx X a w V hinv hs=>by
 obtain ⟨v',w',hrun,hi'⟩:=oL (dd:=dd) (pos:=pos) (af:=af) (t':=t') (H:=[bA e s v Ts] ++ X) (i:=0) ht hi hz hsize hzs hx hy rfl hne hEl hlen h63 hinv hs
 exact ⟨v',v',w',hrun,rfl,hi'⟩
theorem Gh {x y : Operand} {i B o' s : Nat} {BT : TypeId} {Ts Us Ws : List Ty} (hS : ∀ w, (sizeOf t).run P w = .ok s w) (hx : aN E x (dB B o')) (hy : aN E y (dO Us)) (hl : Us.length = s)
  (hH:H[i]? = some (box B BT Ts)) (hlt:o' + s ≤ Ts.length) (hW:Ts.take o' ++ Us ++ Ts.drop (o' + s) = Ws) {t':TypeId} {H':Hp} (hH':H.set i (box B BT Ws) = H') :
  W.PutTy P n E H H' ⟨none,.store t x y,t',pos,af,none⟩:=fun cx X a w V hi hs=>by
  have ex:a.eval x = .pointer (some ⟨B,o',none⟩):=hx n V a hs
  obtain ⟨us,hve,ey⟩:=hy n V a hs
  obtain ⟨S,_,cs,e2,e3⟩:=hi.hp.get hH
  have e2':w.heap[B]? = some (.cells cs.toArray BT (0,0)):=e2
  have hlen:us.length = s:=ey.length.trans hl
  obtain ⟨w',q1,⟨c',q2,q2'⟩,q3,q4,q5,q6,q7⟩:=iX (P:=P) us o' 0 w cs.toArray e2' (by simp [e3.length,hlen]; omega) ey.pl
  refine ⟨w',jJ ex hve ?_,?_⟩
  ·unfold storeVar
   rw [Sem.run_bind,hS]
   simp [Result.andThen,Value.cells,hlen,q1]
  ·subst hH'
   rw [← Eb hH]
   refine hi.upd (sL hH) q4 q5 q6 q7 (fun S hS'=>?_)
   obtain ⟨rfl,cs',e4,e5⟩:=hS'
   have hcs : cs' = cs := by
    have h1:w.heap[B]? = some (.cells cs'.toArray BT (0,0)):=e4
    rw [e2'] at h1; simpa using h1.symm
   subst hcs
   refine ⟨fun b hb=>q3 b (by simpa using hb),rfl,c'.toList,by show w'.heap[B]? = _; simpa using q2,?_⟩
   rw [q2',← hW]
   simp only [Nat.add_zero,hlen]
   exact ((e5.take o').append ey).append (e5.drop (o' + s))
end
end
section
open Go Go.RowKit
def Xb (t:TypeId) (T:Ty):Ty:=⟨fun v V=>∃ u,v = .iface t u ∧ T.p u V,fun h k=>let ⟨u,e,h⟩:=h; ⟨u,e,T.mono h k⟩⟩
section
variable {P:Program} {n:Nat} {E:bC} {H:Hp} {d:Option Tmp} {t tx:TypeId} {pos:String} {af:Array Edge} {g:Option (Nat × Bool)}
theorem cT {x : Operand} {T : Ty} (hI : ∀ v w, (Instr.makeInterface tx v).run P w = .ok (.iface tx v) w) (hx : aN E x T) : aF P n E H ⟨d, .makeInterface tx x, t, pos, af, g⟩ (Xb tx T) :=
 cH fun a V w hs=>⟨.iface tx (a.eval x),by simp [execOp,hI,Sem.run_bind,Result.andThen],_,rfl,hx n V a hs⟩
theorem bT {Ox : Operand} {xs : List Operand} {tys : Array TypeId} {name : String} {f : FuncId} {T : Ty} {Ts : List Ty} {U : Ty} (hm : ∀ v w, (method (P.types.size + Made.depth) tx v name).run P w = .ok (f, v) w)
  (hc:∀ args w,(callFunc f args).run P w = .ok (.enter f args) w) (hF:bE P f (T :: Ts) U) (hr:aN E Ox (Xb tx T)) (ha:mK E xs Ts) :
  aF P n E H ⟨d,.call ⟨.invoke Ox name,xs.toArray,tys⟩,t,pos,af,g⟩ U:=fun cx X a w V hi hs K Q hK=>by
 obtain ⟨u,e,hu⟩:=hr n V a hs
 have hrun : (execOp a.eval ⟨d, .call ⟨.invoke Ox name, xs.toArray, tys⟩, t, pos, af, g⟩).run P w = .ok (.enter f (u :: xs.map a.eval).toArray) w := by
  have h1 : ((#[Value.iface tx u] ++ (xs.map a.eval).toArray).extract 1 (xs.length + 1)) = (xs.map a.eval).toArray := by
   apply Array.ext'; simp [List.take_of_length_le]
  have hp:∀ w,(program).run P w = .ok P w:=fun w=>rfl
  simp [execOp,resolve,invoke,callMethod,e,Sem.run_bind,Result.andThen,hp,hm,hc,List.take_of_length_le]
 simp only [Oper.wp,hrun,Oper.upon_enter]
 refine (hF (u :: xs.map a.eval) V w hi.on ⟨hu,mK.all hs ha⟩).mono ?_
 rintro e' w' ⟨v,V',rfl,h1,h2,h3,h4,h5⟩
 exact hK v w' V' (hi.after h1 h2 h3 h4) h1 h5
end
end
section
open Go Go.RowKit
def Wg (q:Bool → Prop):Ty:=⟨fun v _=>∃ b,v = .bool b ∧ q b,fun h _=>h⟩
instance shExB (q:Bool → Prop):bN (Wg q) 1 false:=eI fun v V h=>by obtain ⟨b,rfl,_⟩:=h; trivial
abbrev dF (F:Qi → Ty) (m:List (List Qi)):List (List Ty):=m.map fun r=>r.map F
section
variable {P:Program} {R:dP} {cx:Cx} {n:Nat} {k:List It} {E:bC} {H:Hp} {ops:Array Oper} {o:Oper} {rest:List Oper}
variable {d:Option Tmp} {t tx ty:TypeId} {pos:String} {af:Array Edge} {g:Option (Nat × Bool)}
theorem Lt {c : Operand} {x y : Code} {q : Bool → Prop} (hc : aN E c (Wg q)) (ht : q true → Tr P R cx n (.code x :: k) E H)
  (hf:q false → Tr P R cx n (.code y :: k) E H):Tr P R cx n (.code (.cond c x y) :: k) E H:=fun a w hs=>by
 obtain ⟨V,hi,hl⟩:=hs
 obtain ⟨b,e,hq⟩:=hc n V a hl
 cases b with
 | true=>exact wp_cond_split e (fun _=>ht hq a w ⟨V,hi,hl⟩) (fun h=>by cases h)
 | false=>exact wp_cond_split e (fun h=>by cases h) (fun _=>hf hq a w ⟨V,hi,hl⟩)
theorem Dz {e:TypeId} (a:Option Addr) (l c:Nat) (hU:∀ w,(underlying tx).run P w = .ok (.slice e) w) (w:World):(Op.equal tx (.slice a l c) (.slice none 0 0)).run P w = .ok a.isNone w:=by
 show (Op.equalIn (9999 + 1) tx (.slice a l c) (.slice none 0 0)).run P w = _
 generalize 9999 = dd
 cases a <;> simp [Op.equalIn,Sem.run_bind,hU,Result.andThen]
theorem tS (a:Act) (v:Value):a.eval (.const v) = v:=rfl
theorem vN (tx:TypeId) (x y:Operand) (a b:Option Addr) (l c l' c':Nat):eqGuard .eql tx x y (.slice a l c) (.slice b l' c') = pure ():=rfl
theorem Jo {x : Operand} {s : Nat} {Ts : List Ty} {e : TypeId} (hU : ∀ w, (underlying tx).run P w = .ok (.slice e) w) (hx : aN E x (jL s Ts)) :
  aF P n E H ⟨d,.binOp .eql tx x (.const (.slice none 0 0)) ty,t,pos,af,g⟩ (Wg fun b=>b = true → Ts = []) :=
 cH fun a V w hs => by
  obtain ⟨ad,cap,e1,_,e3⟩:=hx n V a hs
  cases ad with
  | none =>
   have hT : Ts = [] := by
    cases Ts with
    | nil=>rfl
    | cons T Ts=>obtain ⟨b,o,x,h,_⟩:=e3 0 T rfl; cases h
   subst hT
   refine ⟨.bool true,?_,true,rfl,fun _=>rfl⟩
   have h:=Dz (P:=P) (tx:=tx) (e:=e) none 0 cap hU
   simp [execOp,e1,tS,vN,binOp,h,Sem.run_bind,Result.andThen] at h ⊢
  | some ad =>
   refine ⟨.bool false,?_,false,rfl,fun h=>by cases h⟩
   have h:=Dz (P:=P) (tx:=tx) (e:=e) (some ad) Ts.length cap hU
   simp [execOp,e1,tS,vN,binOp,h,Sem.run_bind,Result.andThen] at h ⊢
theorem zJ {e s : Nat} {z : Value} (hU : ∀ w, (underlying t).run P w = .ok (.slice e) w) (hS : ∀ w, (sizeOf e).run P w = .ok s w) (hz : ∀ w, (zeroValue e).run P w = .ok z w) {t' : TypeId} :
  fL P n E H ⟨d,.buildSlice t 0 #[],t',pos,af,g⟩ Value (fun v=>Is v) (fun v=>bA e s v []):=fL.of fun cx X a w V hi hs=>by
 refine ⟨.slice (some ⟨w.heap.size,0,none⟩) 0 0,_,w.alloc (.cells #[] e),?_,rfl,hi.alloc (ob:=.cells #[] e) (fun m hm=>⟨[],oJ.nil,.inr ⟨w.heap.size,0,#[],rfl,rfl,hm,by simp,by simp [maxLen],by simp,by simp [aT]⟩⟩)⟩
 have h:=nH (P:=P) (t:=t) (xs:=[]) (w:=w) (len:=0) (parts:=#[]) hU hS hz rfl (by omega) (fun x hx=>by simp at hx) rfl
 simp only [execOp,Array.map_empty,Sem.run_bind,h,Result.andThen]; rfl
theorem Ao {a : Act} {w : World} {V : aD} {x y : Operand} {i s e : Nat} {v : Value} {Ts Us : List Ty} {inf : TypeInfo} {z : Value} {dd : Nat} (ht : P.underlying t = some (.slice e)) (hi : P.info? e = some inf) (hz : inf.zero = some z) (hsize : inf.size = s) (hzs : z.cells.size = s)
  (hx:aN E x (Is v)) (hy:aN E y (jL s Us)) (hH:H[i]? = some (bA e s v Ts)) (hEl:∀ T,T ∈ Us → El s T) (hlen:(Ts.length + Us.length) * inf.bytes ≤ 140737488355328) (h63:Ts.length + Us.length ≤ 9223372036854775807)
  {t':TypeId} (hinv:dR cx V H w) (hs:bR n E V a) :
  ∃ v' w',(execOp a.eval ⟨some dd,.call ⟨.builtin .append,#[x,y],#[t,t]⟩,t',pos,af,none⟩).run P w = .ok (.value v') w' ∧ dR cx V (H.set i (bA e s v' (Ts ++ Us))) w':=by
 by_cases hne:Us = []
 ·subst hne
  have ex:a.eval x = v:=hx n V a hs
  obtain ⟨ad,cap,ey,_,_⟩:=hy n V a hs
  have hset : H.set i (bA e s v (Ts ++ [])) = H := by
   rw [List.append_nil]
   apply List.ext_getElem?
   intro j
   by_cases c:i = j
   ·subst c; rw [List.getElem?_set_self (List.getElem?_eq_some_iff.1 hH).1,hH]
   ·rw [List.getElem?_set_ne c]
  refine ⟨v,w,?_,by rw [hset]; exact hinv⟩
  obtain ⟨S,xs,_,h2⟩:=(show HH cx.w0.heap.size w V (H ++ []) by simpa using hinv.hp).get hH
  have key : ∃ ad2 l2 c2, v = .slice ad2 l2 c2 ∧ l2 ≤ c2 := by
   rcases h2 with ⟨rfl,_,_⟩ | ⟨g,cap2,cur,rfl,_,_,hle,_⟩
   ·exact ⟨none,0,0,rfl,Nat.le_refl _⟩
   ·exact ⟨_,_,_,rfl,hle⟩
  obtain ⟨ad2,l2,c2,rfl,hle2⟩:=key
  have hu:∀ w,(underlying t).run P w = .ok (.slice e) w:=run_underlying ht
  have hsz:∀ w,(sizeOf e).run P w = .ok inf.size w:=fun w=>by simp [sizeOf,typeInfo,Sem.run_bind,show (program).run P w = .ok P w from rfl,hi,Result.andThen]
  have hr : (Builtin.append_ #[t, t] t' #[.slice ad2 l2 c2, .slice ad 0 cap]).run P w = .ok (.slice ad2 l2 c2) w := by
   have h0 : (Builtin.firstCells inf.size 0 (.slice ad 0 cap)).run P w = .ok #[] w := by
    cases ad with
    | none=>rfl
    | some b=>simp [Builtin.firstCells,loadCells,loadCellsFrom]
   cases ad2 <;> simp [Builtin.append_,Sem.run_bind,hu,hsz,Result.andThen,Builtin.lenOf,hle2,h0,storeCells]
  simp [execOp,resolve,invoke,builtin,ex,ey,hr,Sem.run_bind,Result.andThen]
 ·exact oL ht hi hz hsize hzs hx hy hH hne hEl hlen h63 hinv hs
theorem Eo {x y : Operand} {i s e : Nat} {v : Value} {Ts Us : List Ty} {inf : TypeInfo} {z : Value} {dd : Nat} (ht : P.underlying t = some (.slice e)) (hi : P.info? e = some inf) (hz : inf.zero = some z) (hsize : inf.size = s) (hzs : z.cells.size = s)
  (hx:aN E x (Is v)) (hy:aN E y (jL s Us)) (hH:H[i]? = some (bA e s v Ts)) (hEl:∀ T,T ∈ Us → El s T) (hlen:(Ts.length + Us.length) * inf.bytes ≤ 140737488355328) (h63:Ts.length + Us.length ≤ 9223372036854775807)
  (hn:Nat.blt dd n = true) {t':TypeId} (h:∀ v',Rg P R cx n ops rest k ((dd,Is v') :: E) (H.set i (bA e s v' (Ts ++ Us)))) :
  Rg P R cx n ops (⟨some dd,.call ⟨.builtin .append,#[x,y],#[t,t]⟩,t',pos,af,none⟩ :: rest) k E H:=by
 intro a w ⟨V,hinv,hs⟩
 unfold wpList
 rw [if_pos (by simp [Region.wanted])]
 left
 obtain ⟨v',w',hrun,hi'⟩:=Ao (dd:=dd) (pos:=pos) (af:=af) (t':=t') ht hi hz hsize hzs hx hy hH hEl hlen h63 hinv hs
 simp only [Oper.wp,hrun,Oper.upon_value]
 exact h v' _ _ ⟨V,hi',hs.put (Nat.le_of_ble_eq_true hn) rfl⟩
theorem cR {B e s:Nat} {q:Value → Prop} {BT:TypeId} {Rs Rs':List (List Ty)} (h:Rs = Rs'):∀ S m V,(lJ q B BT e s Rs).h S m V → (lJ q B BT e s Rs').h S m V:=fun _ _ _ k=>h ▸ k
theorem Ip {F:Qi → Ty} {m:List (List Qi)} {i:Nat} (h:i < m.length):(dF F m)[i]? = some ((m.getD i []).map F):=by simp [dF,List.getD,h]
theorem nF (F:Qi → Ty) (m:Nat):List.replicate m ([]:List Ty) = dF F (List.replicate m []):=by simp
theorem jK (F:Qi → Ty) (m:List (List Qi)) (i:Nat) (r:List Qi):(dF F m).set i (r.map F) = dF F (m.set i r):=by simp [dF,List.map_set]
end
end
section
open Go Go.RowKit
abbrev gv (l:List Qi) (i:Nat):Qi:=l.getD i Qi.zero
abbrev gm (m:List (List Qi)) (i j:Nat):Qi:=(m.getD i []).getD j Qi.zero
def eO (l:List Qi) (L:Nat):Prop:=∀ x,x ∈ l → aL x L
def bL (m:List (List Qi)) (L:Nat):Prop:=∀ r,r ∈ m → eO r L
theorem aL.zero {L:Nat} (h:1 ≤ L):aL Qi.zero L:=⟨Qi.Fit.zero h⟩
theorem eO.get {l:List Qi} {L:Nat} (h:eO l L) (hL:1 ≤ L) (i:Nat):aL (gv l i) L:=by
 by_cases hi:i < l.length
 ·have e : gv l i = l[i] := by simp [gv, List.getD, hi]
  rw [e]; exact h _ (List.getElem_mem hi)
 ·have e : gv l i = Qi.zero := by simp [gv, List.getD, List.getElem?_eq_none (Nat.le_of_not_lt hi)]
  rw [e]; exact aL.zero hL
theorem bL.row {m:List (List Qi)} {L:Nat} (h:bL m L) (i:Nat):eO (m.getD i []) L:=by
 by_cases hi:i < m.length
 ·have e : m.getD i [] = m[i] := by simp [List.getD, hi]
  rw [e]; exact h _ (List.getElem_mem hi)
 ·have e : m.getD i [] = [] := by simp [List.getD, List.getElem?_eq_none (Nat.le_of_not_lt hi)]
  rw [e]; intro x hx; cases hx
theorem bL.get {m:List (List Qi)} {L:Nat} (h:bL m L) (hL:1 ≤ L) (i j:Nat):aL (gm m i j) L:=(h.row i).get hL j
theorem eO.tab {n L : Nat} {f : Nat → Qi} (h : ∀ i, i < n → aL (f i) L) : eO (tab n f) L := fun x hx => by
 obtain ⟨i,hi,rfl⟩:=gK.1 hx; exact h i hi
theorem bL.tab {n m L : Nat} {f : Nat → Nat → Qi} (h : ∀ i j, i < n → j < m → aL (f i j) L) : bL (tab n fun i => tab m (f i)) L := fun r hr => by
 obtain ⟨i,hi,rfl⟩:=gK.1 hr; exact eO.tab fun j hj=>h i j hi hj
theorem eO.rt {l:List Rt}:eO (l.map Rt.q) 2:=fun x hx=>by obtain ⟨r,_,rfl⟩:=List.mem_map.1 hx; exact fitRt
theorem bL.rt {m:List (List Rt)}:bL (m.map fun r=>r.map Rt.q) 2:=fun x hx=>by obtain ⟨r,_,rfl⟩:=List.mem_map.1 hx; exact eO.rt
theorem eO.nil {L:Nat}:eO [] L:=fun x hx=>by cases hx
theorem bL.nil {L:Nat}:bL [] L:=fun x hx=>by cases hx
theorem eO.le {l:List Qi} {L M:Nat} (h:eO l L) (k:L ≤ M):eO l M:=fun x hx=>(h x hx).le k
theorem bL.le {m:List (List Qi)} {L M:Nat} (h:bL m L) (k:L ≤ M):bL m M:=fun x hx=>(h x hx).le k
theorem wX {n i:Nat} {f:Nat → Qi} (h:i < n):gv (tab n f) i = f i:=by simp [gv,List.getD,eC h]
theorem Iv {n m i j:Nat} {f:Nat → Nat → Qi} (h:i < n) (k:j < m):gm (tab n fun i=>tab m (f i)) i j = f i j:=by
 have:(tab n fun i=>tab m (f i)).getD i [] = tab m (f i):=by simp [List.getD,eC (f:=fun i=>tab m (f i)) h]
 rw [gm,this]; exact wX k
theorem zA {l:List Qi} {n:Nat} (h:l.length = n):l = tab n (gv l):=Tu (h:=h)
def gC (s:List (List Qi)) (n m:Nat):Prop:=s.length = n ∧ ∀ r,r ∈ s → r.length = m
theorem gC.row {s:List (List Qi)} {n m:Nat} (h:gC s n m) {i:Nat} (hi:i < n):(s.getD i []).length = m:=by
 have hl:i < s.length:=by rw [h.1]; exact hi
 have e:s.getD i [] = s[i]:=by simp [List.getD,hl]
 rw [e]; exact h.2 _ (List.getElem_mem hl)
theorem gC.tab {n m:Nat} {f:Nat → Nat → Qi}:gC (tab n fun i=>tab m (f i)) n m:=⟨bI _ _,fun r hr=>by obtain ⟨i,_,rfl⟩:=gK.1 hr; exact bI _ _⟩
theorem sR {s:List (List Qi)} {n m:Nat} (h:gC s n m):s = tab n fun i=>tab m (gm s i):=by
 apply List.ext_getElem?
 intro i
 by_cases hi:i < n
 ·rw [eC hi]
  have hl:i < s.length:=by rw [h.1]; exact hi
  have e:s.getD i [] = s[i]:=by simp [List.getD,hl]
  rw [List.getElem?_eq_getElem hl,← e]
  congr 1
  exact zA (h.row hi)
 ·rw [List.getElem?_eq_none (by rw [h.1]; omega),List.getElem?_eq_none (by rw [bI]; omega)]
def yY {α:Type} (p:α → Bool) (l:List α):Int:=match l.findIdx? p with
 | some i=>(i:Int)
 | none=>-1
theorem Dj {α:Type} {p:α → Bool} {l:List α} {k:Nat} {x:α} (h:l[k]? = some x) (hp:p x = true) (hn:∀ (i:Nat) (y:α),i < k → l[i]? = some y → p y = false):yY p l = (k:Int):=by
 have : l.findIdx? p = some k := by
  rw [List.findIdx?_eq_some_iff_getElem]
  obtain ⟨hl,e⟩:=List.getElem?_eq_some_iff.1 h
  refine ⟨hl,by rw [e]; exact hp,fun j hj=>?_⟩
  have:=hn j l[j] hj (List.getElem?_eq_getElem (by omega))
  simp [this]
 rw [yY,this]
theorem vO {α:Type} {p:α → Bool} {l:List α} (hn:∀ (i:Nat) (y:α),l[i]? = some y → p y = false):yY p l = -1:=by
 have : l.findIdx? p = none := by
  rw [List.findIdx?_eq_none_iff]
  intro x hx
  obtain ⟨i,hi,e⟩:=List.getElem_of_mem hx
  exact hn i x (by rw [List.getElem?_eq_getElem hi,e])
 rw [yY,this]
theorem yZ {α:Type} (p:α → Bool) (l:List α):decide (0 ≤ yY p l) = l.any p:=by
 unfold yY
 cases h:l.findIdx? p with
 | some i =>
  obtain ⟨hl,e,_⟩:=List.findIdx?_eq_some_iff_getElem.1 h
  have:l.any p = true:=List.any_eq_true.2 ⟨l[i],List.getElem_mem hl,e⟩
  rw [this]; simp
 | none =>
  have : l.any p = false := by
   rw [List.findIdx?_eq_none_iff] at h
   simpa using h
  rw [this]; rfl
def gL (x:Qi):Bool:=decide (x.b = 0 ∧ 0 < x.a)
theorem Bz:Qi.zero.a = 0 ∧ Qi.zero.b = 0 ∧ Qi.zero.den = 1:=Qi.int_a 0
theorem yL {x y:Int}:0 < eP x y ↔ y < x:=by
 unfold eP; split
 ·omega
 ·split <;> omega
theorem Hw {x y:Int}:eP x y < 0 ↔ x < y:=by
 unfold eP; split
 ·omega
 ·split <;> omega
theorem qL (x:Qi) (h:x.b = 0):lB x Qi.zero = eP x.a 0:=by
 obtain ⟨e1,e2,e3⟩:=Bz
 unfold lB
 rw [e1,e2,e3,h]
 simp
 intro h0
 have:x.a = 0:=by have:=vF.1 h0; omega
 rw [this]
theorem Bn (x:Qi):(decide (x.b = 0) && decide (0 < lB x Qi.zero)) = gL x:=by
 by_cases h:x.b = 0
 ·rw [qL x h,gL,Bool.eq_iff_iff]; simp [h,yL]
 ·simp [gL,h]
def fI (z : List Qi) (s : List (List Qi)) : Int :=
 if z.length < 1 ∨ 8 < z.length ∨ s.length ≠ z.length ∨ (s.any fun r=>!decide (r.length = z.length)) = true then 4 else if z.all gL then 0 else 1
theorem vP {z:List Qi} {s:List (List Qi)} (h:fI z s = 0):1 ≤ z.length ∧ z.length ≤ 8 ∧ gC s z.length z.length ∧ z.all gL = true:=by
 unfold fI at h
 split at h
 ·simp at h
 ·rename_i c
  split at h
  ·rename_i p
   refine ⟨by omega,by omega,⟨by omega,fun r hr=>?_⟩,p⟩
   have:¬ (s.any fun r=>!decide (r.length = z.length)) = true:=fun e=>c (.inr (.inr (.inr e)))
   simp at this
   exact this r hr
  ·simp at h
abbrev mL (z:List Qi) (s:List (List Qi)):Ty:=dO [fB z,eL s]
abbrev lA (z:List Qi) (s c:List (List Qi)):Ty:=dO [fB z,eL s,eL c]
theorem xB:∀ v V,(dO [Is (.slice none 0 0),Is (.slice none 0 0)]).p v V → (mL [] []).p v V:=wH ⟨kW,kW,trivial⟩
theorem Fg:∀ v V,(dO [Is (.slice none 0 0),Is (.slice none 0 0),Is (.slice none 0 0)]).p v V → (lA [] [] []).p v V:=wH ⟨kW,kW,kW,trivial⟩
theorem zI {z:List Qi} {s:List (List Qi)} (h:(decide (z.length < 1) || decide (8 < z.length) || !decide (s.length = z.length)) = true):fI z s = 4:=by
 rw [fI,if_pos]
 simp only [Bool.or_eq_true,decide_eq_true_eq,Bool.not_eq_true',decide_eq_false_iff_not] at h
 rcases h with (h | h) | h
 ·exact .inl h
 ·exact .inr (.inl h)
 ·exact .inr (.inr (.inl h))
theorem Bk {z r:List Qi} {s:List (List Qi)} {k:Nat} (h:s[k]? = some r) (hr:r.length ≠ z.length):fI z s = 4:=by
 rw [fI,if_pos]
 refine .inr (.inr (.inr (List.any_eq_true.2 ⟨r,List.mem_of_getElem? h,by simp [hr]⟩)))
theorem Bj {z:List Qi} {s:List (List Qi)} (h:(decide (z.length < 1) || decide (8 < z.length) || !decide (s.length = z.length)) = false) (hr:∀ (i:Nat) (r:List Qi),s[i]? = some r → r.length = z.length):fI z s = if z.all gL then 0 else 1:=by
 rw [fI,if_neg]
 simp only [Bool.or_eq_false_iff,decide_eq_false_iff_not,Bool.not_eq_false',decide_eq_true_eq] at h
 rintro (c | c | c | c)
 ·exact h.1.1 c
 ·exact h.1.2 c
 ·exact c h.2
 ·obtain ⟨r, hm, e⟩ := List.any_eq_true.1 c
  obtain ⟨i,hi,e2⟩:=List.getElem_of_mem hm
  have:=hr i r (by rw [List.getElem?_eq_getElem hi,e2])
  simp [this] at e
abbrev oY {α:Type} (e:Int) (l:List α):List α:=if e = 0 then l else []
theorem xA {z:List Qi} {s:List (List Qi)} {e:Int} (he:fI z s = e) (h0:e ≠ 0):∀ v V,(mL [] []).p v V → (mL (oY (fI z s) z) (oY (fI z s) s)).p v V:=by
 rw [he,oY,oY,if_neg h0,if_neg h0]; exact fun _ _ h=>h
theorem Je {z:List Qi} {s:List (List Qi)} (he:fI z s = 0):∀ v V,(mL z s).p v V → (mL (oY (fI z s) z) (oY (fI z s) s)).p v V:=by
 rw [he,oY,oY,if_pos rfl,if_pos rfl]; exact fun _ _ h=>h
def Lk (z:List Qi) (i:Int):Qi:=if 1 ≤ i ∧ i ≤ z.length then gv z (i - 1).toNat else Qi.zero
def Jw (n:Nat) (m:List (List Qi)) (i j:Int):Qi:=if (1 ≤ i ∧ i ≤ n) ∧ 1 ≤ j ∧ j ≤ n then gm m (i - 1).toNat (j - 1).toNat else Qi.zero
theorem Jx {z:List Qi} {i:Nat} (h:i < z.length):Lk z ((i:Int) + 1) = gv z i:=by
 rw [Lk,if_pos (by omega)]; congr 1; omega
theorem Ti {n:Nat} {m:List (List Qi)} {i j:Nat} (h:i < n) (k:j < n):Jw n m ((i:Int) + 1) ((j:Int) + 1) = gm m i j:=by
 rw [Jw,if_pos (by omega)]
 have e1:((i:Int) + 1 - 1).toNat = i:=by omega
 have e2:((j:Int) + 1 - 1).toNat = j:=by omega
 rw [e1,e2]
theorem zK {s:Nat}:∀ V,(jL s []).p (.slice none 0 0) V:=fun V=>kW _ V rfl
abbrev rq (m:List (List Rt)):List (List Qi):=m.map fun r=>r.map Rt.q
section
variable (z:List Rt) (s c:List (List Rt))
variable {z s c}
end
end
section
open Go Go.RowKit
def Pr (o:Obj):Prop:=∀ (c:Array Value) (e:TypeId) l,o = .cells c e l → ∀ (i:Nat) (k:IntKind) (m:Int),c[i]? ≠ some (.int k m)
def Cd (V V':aD):Prop:=∀ b o,V b = some o → V' b = some o ∨ Pr o
class Lh (T:Ty):Prop where
 ins:∀ {v V V'},T.p v V → Cd V V' → T.p v V'
instance insIs (v:Value):Lh (Is v):=⟨fun h _=>h⟩
instance insDs (ds : List Nat) : Lh (jL 1 (ds.map bH)) := ⟨fun {v V V'} h k => by
 obtain ⟨a,cap,h1,h2,h3⟩:=h
 refine ⟨a,cap,h1,h2,fun i T hT=>?_⟩
 obtain ⟨b,o,x,e1,⟨c,TT,fr,e2,e2'⟩,e3,e4⟩:=h3 i T hT
 refine ⟨b,o,x,e1,⟨c,TT,fr,?_,e2'⟩,e3,?_⟩
 ·rcases k b _ e2 with k | k
  ·exact k
  ·rw [List.getElem?_map] at hT
   obtain ⟨d,_,rfl⟩:=Option.map_eq_some_iff.1 hT
   have e5:x = .int .u32 (d:Int):=e4
   subst e5
   exact absurd (e2' 0 (.int .u32 (d:Int)) rfl) (k c TT fr rfl _ _ _)
 ·rw [List.getElem?_map] at hT
  obtain ⟨d,_,rfl⟩:=Option.map_eq_some_iff.1 hT
  exact e4⟩
inductive iU : List Ty → Prop
 | nil:iU []
 | cons {T Ts}:Lh T → iU Ts → iU (T :: Ts)
theorem dS.ins {V V' : aD} (k : Cd V V') : ∀ {Ts : List Ty} {vs : List Value}, iU Ts → dS Ts vs V → dS Ts vs V'
 | [],[],_,_=>trivial
 | _ :: _,_ :: _,.cons i is,h=>⟨i.ins h.1 k,dS.ins k is h.2⟩
 | [],_ :: _,_,h=>h.elim
 | _ :: _,[],_,h=>h.elim
theorem Sk {Ts:List Ty} (i:iU Ts):Lh (dO Ts):=⟨fun h k=>by obtain ⟨vs,h1,h2⟩:=h; exact ⟨vs,h1,h2.all.ins k i,h2.pl⟩⟩
theorem Sl {Ts:List Ty} (i:iU Ts):Lh (gA Ts):=⟨fun h k=>by obtain ⟨vs,h1,h2⟩:=h; exact ⟨vs,h1,h2.ins k i⟩⟩
instance insNum (x:Qi):Lh (aM x):=Sk (.cons inferInstance (.cons inferInstance (.cons inferInstance (.cons inferInstance (.cons inferInstance .nil)))))
theorem iU.map {α : Type} (F : α → Ty) [h : ∀ x, Lh (F x)] : ∀ l : List α, iU (l.map F)
 | []=>.nil
 | x :: l=>.cons (h x) (iU.map F l)
def Lq (A:SA):Prop:=∀ S m V V',A.h S m V → Cd V V' → A.h S m V'
theorem Ph {e s : Nat} {v : Value} {Ts : List Ty} (i : iU Ts) : Lq (bA e s v Ts) := fun S m V V' h k => by
 obtain ⟨xs,h1,h2⟩:=h
 exact ⟨xs,⟨h1.all.ins k i,h1.size,h1.plain⟩,h2⟩
theorem Pg {q : Value → Prop} {B e s : Nat} {BT : TypeId} {Rs : List (List Ty)} (i : ∀ R, R ∈ Rs → iU R) : Lq (lJ q B BT e s Rs) := fun S m V V' h k => by
 obtain ⟨vs,h1,F,h2,h3,h4⟩:=h
 refine ⟨vs,h1,F,fun r A hA=>?_,h3,h4⟩
 cases r with
 | zero=>simp [mx] at hA; subst hA; obtain ⟨e1,cs,e2,e3⟩:=h2 0 _ (by simp [mx]; rfl); exact ⟨e1,cs,e2,e3.all.ins k (iU.map Is vs),e3.pl⟩
 | succ r =>
  have hA':=hA
  simp only [mx,List.getElem?_cons_succ,List.getElem?_zipWith] at hA'
  cases hv:vs[r]? with
  | none=>simp [hv] at hA'
  | some v =>
   cases hR:Rs[r]? with
   | none=>simp [hv,hR] at hA'
   | some Ts =>
    simp [hv,hR] at hA'
    subst hA'
    exact Ph (i Ts (List.mem_of_getElem? hR)) _ _ _ _ (h2 (r + 1) _ hA) k
theorem Kv {q : Value → Prop} {B e s : Nat} {BT : TypeId} {F : Qi → Ty} [h : ∀ x, Lh (F x)] {m : List (List Qi)} : Lq (lJ q B BT e s (dF F m)) := Pg fun R hR => by
 obtain ⟨r,_,rfl⟩:=List.mem_map.1 hR; exact iU.map F r
def iW (v:Value):Prop:=∃ a l,v = .slice a l l
class NI (T:Ty):Prop where
 ni:∀ {v V},T.p v V → ∀ u,u ∈ v.cells.toList → ∀ k m,u ≠ .int k m
theorem Su {b c : Bool} {x y z : List Nat} : NI (dO [aB b, uQ x, aB c, uQ y, uQ z]) := ⟨fun {v V} h u hu k m e => by
 obtain ⟨vs,rfl,h2⟩:=h
 have ha:=h2.all
 match vs,ha with
 | [v0, v1, v2, v3, v4], ⟨e0, ⟨_, _, e1, _⟩, e2, ⟨_, _, e3, _⟩, ⟨_, _, e4, _⟩, _⟩ =>
  have e0:v0 = .bool b:=e0
  have e2:v2 = .bool c:=e2
  subst e0 e1 e2 e3 e4
  simp [Value.cells] at hu
  subst e
  rcases hu with h | h | h | h | h <;> cases h⟩
instance niNum (x:Qi):NI (aM x):=Su
def Xc (A:SA):Prop:=∀ S m V,A.h S m V → ∀ b,b ∈ S → ∀ o,m b = some o → Pr o
theorem Sv {B e s : Nat} {BT : TypeId} {F : Qi → Ty} [hF : ∀ x, NI (F x)] {ml : List (List Qi)} : Xc (lJ iW B BT e s (dF F ml)) := fun S m V h b hb o ho => by
 obtain ⟨vs,⟨h1,h1q⟩,G,h2,h3,h4⟩:=h
 obtain ⟨r,hr,hbr⟩:=(h4 b).1 hb
 cases r with
 | zero =>
  obtain ⟨e1,cs,e2,e3⟩:=h2 0 (box B BT (vs.map Is)) (by simp [mx])
  rw [e1] at hbr; simp at hbr; subst hbr
  rw [e2] at ho; obtain rfl:=Option.some.inj ho
  rintro c e l hc i k n hi
  cases hc
  have hi':cs[i]? = some (.int k n):=by simpa using hi
  have hil:=(List.getElem?_eq_some_iff.1 hi').1
  have hlen:i < vs.length:=by have:=e3.length; simp at this; omega
  obtain ⟨u,u1,u2⟩:=e3.get (i:=i) (T:=Is vs[i]) (by simp [hlen])
  rw [hi'] at u1; obtain rfl:=Option.some.inj u1
  obtain ⟨a,l,hv⟩:=h1q vs[i] (List.getElem_mem hlen)
  have u2:Value.int k n = vs[i]:=u2
  rw [hv] at u2; cases u2
 | succ r =>
  rw [uC h1] at hr
  have hrl:r < ml.length:=by simp [dF] at hr; omega
  have hrv:r < vs.length:=by rw [h1]; simp [dF]; exact hrl
  have hrow:=h2 (r + 1) _ (Bi (v:=vs[r]) (Ts:=ml[r].map F) (by simp [hrv]) (by simp [dF,hrl]))
  obtain ⟨xs,q1,q2⟩:=hrow
  obtain ⟨a,l,hv⟩:=h1q vs[r] (List.getElem_mem hrv)
  rcases q2 with ⟨_,_,q3⟩ | ⟨g,cap,cur,q3,q4,q5,q6,_,q7,q8⟩
  ·rw [q3] at hbr; simp at hbr
  ·rw [q4] at hbr; simp at hbr; subst hbr
   rw [q5] at ho; obtain rfl:=Option.some.inj ho
   rw [hv] at q3
   simp at q3
   have hcap:cap = (ml[r].map F).length:=by simp; omega
   rintro c e l hc i k n hi
   cases hc
   have hcur : cur.toList = aT xs := by
    rw [← q8,List.take_of_length_le]; simp [q7,hcap]
   have:Value.int k n ∈ aT xs:=by rw [← hcur]; exact List.mem_of_getElem? (i:=i) (by simpa using hi)
   obtain ⟨y,y1,y2⟩:=dT.1 this
   obtain ⟨t,t1,t2⟩:=List.getElem_of_mem y1
   have hlen:=q1.all.length
   have hty : (ml[r].map F)[t]? = some (F (ml[r][t]'(by simp at hlen; omega))) := by
    have:t < ml[r].length:=by simp at hlen; omega
    simp [this]
   obtain ⟨y',z1,z2⟩:=q1.all.get hty
   rw [List.getElem?_eq_getElem t1,t2] at z1
   obtain rfl:=Option.some.inj z1
   exact (hF _).ni z2 _ y2 k n rfl
section
variable {P:Program} {R:dP} {cx:Cx} {n:Nat} {k:List It} {E:bC} {H:Hp} {ops:Array Oper} {o:Oper} {rest:List Oper}
variable {d:Option Tmp} {t:TypeId} {pos:String} {af:Array Edge} {g:Option (Nat × Bool)}
def Jv (S0:List Nat) (m0:aD):SA:=⟨fun S m _=>S = S0 ∧ ∀ b,b ∈ S0 → m b = m0 b,fun ⟨h1,h2⟩ k=>⟨h1,fun b hb=>by rw [k b (by rw [h1]; exact hb)]; exact h2 b hb⟩,fun h _=>h⟩
theorem Qt {f : FuncId} {xs : List Operand} {tys : Array TypeId} {Ts : List Ty} {γ : Type} {U : γ → Ty} {As' : γ → Hp} {Q : γ → Prop} {dd j tt : Nat} {A : SA} {T0 T1 : Ty} (hc : ∀ args w, (callFunc f args).run P w = .ok (.enter f args) w)
  (hF:iF P f Ts [] γ U As' Q) (hA:H[j]? = some A) (hl:cP E tt = some T0) (hz:∀ v S V,T0.p v V → A.h S V V → T1.p v V) (hni:Xc A) (hU:∀ x,Lh (U x)) (hAs:∀ x B,B ∈ As' x → Lq B)
  (ha:mK ((tt,T1) :: E) xs Ts) (hn:Nat.blt dd n = true) (h:∀ x,Q x → Rg P R cx n ops rest k ((dd,U x) :: E) (H ++ As' x)) :
  Rg P R cx n ops (⟨some dd,.call ⟨.value (.func f),xs.toArray,tys⟩,t,pos,af,none⟩ :: rest) k E H:=by
 intro a w ⟨V,hi,hs⟩
 unfold wpList
 rw [if_pos (by simp [Region.wanted])]
 left
 have hrun : (execOp a.eval ⟨some dd, .call ⟨.value (.func f), xs.toArray, tys⟩, t, pos, af, none⟩).run P w = .ok (.enter f (xs.map a.eval).toArray) w := by
  simp [execOp,resolve,Act.eval,Deferred.ofValue,invoke,hc]
 simp only [Oper.wp,hrun,Oper.upon_enter]
 obtain ⟨F,h1,h2⟩:=hi.hp
 have hjl:=(List.getElem?_eq_some_iff.1 hA).1
 obtain ⟨k1,k2⟩:=h1 j A hA
 let V1:aD:=fun b=>if b ∈ F j then w.heap[b]? else V b
 have hle : iT V V1 := fun b o hb => by
  have:b ∉ F j:=fun hf=>by have:=(k2 b hf).1; rw [hb] at this; cases this
  simp only [V1,if_neg this]; exact hb
 let S0:=((List.range H.length).filter fun i=>i ≠ j).flatMap F
 have hS0 : ∀ b, b ∈ S0 ↔ ∃ i, i < H.length ∧ i ≠ j ∧ b ∈ F i := fun b => by
  simp only [S0,List.mem_flatMap,List.mem_filter,List.mem_range,decide_eq_true_eq]
  constructor
  ·rintro ⟨i,⟨q1,q2⟩,q3⟩; exact ⟨i,q1,q2,q3⟩
  ·rintro ⟨i,q1,q2,q3⟩; exact ⟨i,⟨q1,q2⟩,q3⟩
 have hb0:∀ i b,i < H.length → b ∈ F i → V b = none ∧ cx.w0.heap.size ≤ b ∧ b < w.heap.size:=fun i b hil hb=>(h1 i H[i] (by simp [hil])).2 b hb
 have hin : dR cx V1 [Jv S0 (hv w)] w := ⟨fun b o hb => by
   by_cases hf:b ∈ F j
   ·simp only [V1,if_pos hf] at hb; exact hb
   ·simp only [V1,if_neg hf] at hb; exact hi.on b o hb,hi.le.trans hle,fun b o hb h0=>by
   by_cases hf:b ∈ F j
   ·exact (k2 b hf).2.1
   ·simp only [V1,if_neg hf] at hb; exact hi.new b o hb h0,hi.bel,
  ⟨fun _ => S0, fun i B hB => by
   have hi0:i = 0:=by have:=(List.getElem?_eq_some_iff.1 hB).1; simp at this; exact this
   subst hi0; simp at hB; subst hB
   refine ⟨⟨rfl,fun b _=>rfl⟩,fun b hb=>?_⟩
   obtain ⟨i,q1,q2,q3⟩:=(hS0 b).1 hb
   have hnf:b ∉ F j:=fun hf=>q2 (h2 i j b q1 hjl q3 hf)
   have:=hb0 i b q1 q3
   exact ⟨by simp only [V1,if_neg hnf]; exact this.1,this.2⟩,fun i l b hi' hl' _ _=>by simp at hi' hl'; omega⟩⟩
 have hA1:A.h (F j) V1 V1:=A.mono (A.loc k1 fun b hb=>by simp only [V1,if_pos hb]; rfl) hle
 have hsl : bR n ((tt, T1) :: E) V1 a := by
  have hs':=hs.mono hle
  refine ⟨hs'.1,hs'.2.1,fun t' T hT=>?_⟩
  rw [bD] at hT
  by_cases e:tt = t'
  ·subst e
   rw [if_pos rfl] at hT; obtain rfl:=Option.some.inj hT
   obtain ⟨v,q1,q2⟩:=hs'.2.2 _ _ hl
   exact ⟨v,q1,hz v (F j) V1 q2 hA1⟩
  ·rw [if_neg e] at hT; exact hs'.2.2 t' T hT
 refine (hF cx (Jv S0 (hv w)) _ V1 w hin (mK.all hsl ha)).mono ?_
 rintro e w' ⟨v,V2,x,rfl,m1,m2,m3,m4⟩
 let V3:aD:=fun b=>if b ∈ F j then none else V2 b
 have hV13 : iT V V3 := fun b o hb => by
  have:b ∉ F j:=fun hf=>by have:=(k2 b hf).1; rw [hb] at this; cases this
  simp only [V3,if_neg this]; exact m1 _ _ (hle _ _ hb)
 have hFj : ∀ b, b ∈ F j → ∃ o, w.heap[b]? = some o ∧ V2 b = some o ∧ w'.heap[b]? = some o := fun b hb => by
  have hlt:=(k2 b hb).2.2
  have q:w.heap[b]? = some (w.heap[b]'hlt):=by simp [hlt]
  have q1:V1 b = some (w.heap[b]'hlt):=by simp only [V1,if_pos hb]; exact q
  exact ⟨_,q,m1 _ _ q1,m2.on _ _ (m1 _ _ q1)⟩
 have hkeep : Cd V2 V3 := fun b o hb => by
  by_cases hf:b ∈ F j
  ·obtain ⟨o', q1, q2, _⟩ := hFj b hf
   rw [hb] at q2; obtain rfl:=Option.some.inj q2
   exact .inr (hni _ _ _ k1 b hf o q1)
  ·exact .inl (by simp only [V3,if_neg hf]; exact hb)
 obtain ⟨G,g1,g2⟩:=m2.hp
 obtain ⟨⟨g3,g4⟩,g5⟩:=g1 0 (Jv S0 (hv w)) rfl
 refine h x m4 _ _ ⟨V3,⟨fun b o hb=>?_,fun b o hb=>?_,fun b o hb h0=>?_,m2.bel,fun i=>if i < H.length then F i else G (i - H.length + 1),fun i B hB=>?_,fun i l b hil hll hbi hbl=>?_⟩,(hs.mono hV13).put (Nat.le_of_ble_eq_true hn) ((hU x).ins m3 hkeep)⟩
 ·by_cases hf : b ∈ F j
  ·simp only [V3,if_pos hf] at hb; cases hb
  ·simp only [V3,if_neg hf] at hb; exact m2.on b o hb
 ·exact hV13 b o (hi.le b o hb)
 ·by_cases hf : b ∈ F j
  ·simp only [V3,if_pos hf] at hb; cases hb
  ·simp only [V3,if_neg hf] at hb; exact m2.new b o hb h0
 ·by_cases hlt : i < H.length
  ·simp only [if_pos hlt]
   rw [List.getElem?_append_left hlt] at hB
   obtain ⟨q1,q2⟩:=h1 i B hB
   by_cases ej:i = j
   ·subst ej
    rw [hA] at hB; obtain rfl:=Option.some.inj hB
    refine ⟨A.mono (A.loc k1 fun b hb=>?_) hV13,fun b hb=>?_⟩
    ·obtain ⟨o', p1, _, p3⟩ := hFj b hb
     show w'.heap[b]? = w.heap[b]?
     rw [p1,p3]
    ·obtain ⟨o', p1, _, p3⟩ := hFj b hb
     exact ⟨by simp only [V3,if_pos hb],(k2 b hb).2.1,(Array.getElem?_eq_some_iff.1 p3).1⟩
   ·have hsub : ∀ b, b ∈ F i → b ∈ S0 := fun b hb => (hS0 b).2 ⟨i, hlt, ej, hb⟩
    refine ⟨B.mono (B.loc q1 fun b hb=>g4 b (hsub b hb)) hV13,fun b hb=>?_⟩
    have hnf:b ∉ F j:=fun hf=>ej (h2 i j b hlt hjl hb hf)
    have:=g5 b (by rw [g3]; exact hsub b hb)
    exact ⟨by simp only [V3,if_neg hnf]; exact this.1,this.2⟩
  ·simp only [if_neg hlt]
   rw [List.getElem?_append_right (by omega)] at hB
   obtain ⟨q1,q2⟩:=g1 (i - H.length + 1) B (by simpa using hB)
   refine ⟨hAs x B (List.mem_of_getElem? hB) _ _ _ _ q1 hkeep,fun b hb=>?_⟩
   obtain ⟨r1,r2⟩:=q2 b hb
   refine ⟨?_,r2⟩
   by_cases hf:b ∈ F j
   ·simp only [V3,if_pos hf]
   ·simp only [V3,if_neg hf]; exact r1
 ·have hG : ∀ q, ¬ q < H.length → q < (H ++ As' x).length → ∀ b, b ∈ G (q - H.length + 1) → V2 b = none := fun q hq hq2 b hb => by
   have hlt2:q - H.length < (As' x).length:=by simp at hq2; omega
   exact ((g1 (q - H.length + 1) (As' x)[q - H.length] (by simp [hlt2])).2 b hb).1
  have hcross : ∀ p q, p < H.length → ¬ q < H.length → q < (H ++ As' x).length → ∀ b, b ∈ F p → b ∈ G (q - H.length + 1) → False := fun p q hp hq hq2 b hbp hbq => by
   by_cases ep:p = j
   ·subst ep
    obtain ⟨o',_,p2,_⟩:=hFj b hbp
    rw [hG q hq hq2 b hbq] at p2; cases p2
   ·have hb0 : b ∈ G 0 := by rw [g3]; exact (hS0 b).2 ⟨p, hp, ep, hbp⟩
    have hlt2:q - H.length < (As' x).length:=by simp at hq2; omega
    have:=g2 0 (q - H.length + 1) b (by simp) (by simp; omega) hb0 hbq
    omega
  by_cases ci:i < H.length <;> by_cases cl:l < H.length
  ·simp only [if_pos ci] at hbi; simp only [if_pos cl] at hbl; exact h2 i l b ci cl hbi hbl
  ·simp only [if_pos ci] at hbi; simp only [if_neg cl] at hbl; exact (hcross i l ci cl hll b hbi hbl).elim
  ·simp only [if_neg ci] at hbi; simp only [if_pos cl] at hbl; exact (hcross l i cl ci hil b hbl hbi).elim
  ·simp only [if_neg ci] at hbi; simp only [if_neg cl] at hbl
   have hil2:i - H.length < (As' x).length:=by simp at hil; omega
   have hll2:l - H.length < (As' x).length:=by simp at hll; omega
   have:=g2 (i - H.length + 1) (l - H.length + 1) b (by simp; omega) (by simp; omega) hbi hbl
   omega
theorem Ff {x : Operand} {m e s : Nat} {i : TypeInfo} {z : Value} {kd : IntKind} {j : Int} {T : Ty} (ht : P.underlying t = some (.slice e)) (hi : P.info? e = some i) (hz : i.zero = some z) (hs : i.size = s)
  (hx:aN E x (aC kd j)) (hj:j = (m:Int)) (hT:∀ V,T.p z V) (hEl:El s T) (hb:i.bytes * m ≤ 281474976710656) (hm:m ≤ 9223372036854775807) {t':TypeId} :
  fL P n E H ⟨d,.makeSlice t x x,t',pos,af,g⟩ {v:Value // iW v} (fun v=>Is v.1) (fun v=>bA e s v.1 (List.replicate m T)):=fL.of fun cx X a w V hi' hsl=>by
 obtain ⟨v,u,w',h1,h2,h3⟩:=uD (P:=P) (n:=n) (E:=E) (H:=H) (d:=d) (t:=t) (pos:=pos) (af:=af) (g:=g) (x:=x) (m:=m) (kd:=kd) (j:=j) (T:=T) ht hi hz hs hx hj hT hEl hb hm (t':=t') cx X a w V hi' hsl
 have ex:a.eval x = .int kd j:=hx n V a hsl
 refine ⟨⟨v,?_⟩,u,w',h1,h2,h3⟩
 have hv:u = v:=h2
 subst hv hj hs
 have hb' : (i.bytes : Int) * (m : Int) ≤ 281474976710656 := by
  have h:((i.bytes * m:Nat):Int) ≤ 281474976710656:=by omega
  rwa [Int.natCast_mul] at h
 have hr:=run_make (P:=P) w t e i z ht hi hz kd kd m m (by omega) (Int.le_refl _) hb' (by omega)
 simp only [Int.toNat_natCast] at hr
 simp only [execOp,ex,Sem.run_bind,hr,Result.andThen] at h1
 simp at h1
 exact ⟨_,_,h1.1.symm⟩
theorem Lo {x : Operand} {m e s : Nat} {i : TypeInfo} {z : Value} {kd : IntKind} {j : Int} {T : Ty} {dd : Nat} (ht : P.underlying t = some (.slice e)) (hi : P.info? e = some i) (hz : i.zero = some z) (hs : i.size = s)
  (hx:aN E x (aC kd j)) (hj:j = (m:Int)) (hT:∀ V,T.p z V) (hEl:El s T) (hb:i.bytes * m ≤ 281474976710656) (hm:m ≤ 9223372036854775807) {t':TypeId} (hn:Nat.blt dd n = true)
  (h:∀ v,iW v → Rg P R cx n ops rest k ((dd,Is v) :: E) (H ++ [bA e s v (List.replicate m T)])):Rg P R cx n ops (⟨some dd,.makeSlice t x x,t',pos,af,none⟩ :: rest) k E H :=
 Ps rfl rfl hn (Ff ht hi hz hs hx hj hT hEl hb hm) fun x=>h x.1 x.2
end
end
section
open Go Go.RowKit
theorem Vr {s:Nat} {Ts Us:List Ty} (h:Ts = Us):∀ v V,(jL s Ts).p v V → (jL s Us).p v V:=fun _ _ k=>h ▸ k
def Qp (n m:Nat):List (List Qi):=tab n fun _=>tab m fun _=>Qi.zero
namespace Qi
theorem add_assoc' (x y z:Qi):x + y + z = x + (y + z):=ext' (by show x.re + y.re + z.re = x.re + (y.re + z.re); grind) (by show x.im + y.im + z.im = x.im + (y.im + z.im); grind)
theorem add_comm' (x y:Qi):x + y = y + x:=ext' (by show x.re + y.re = y.re + x.re; grind) (by show x.im + y.im = y.im + x.im; grind)
theorem mul_comm' (x y:Qi):x * y = y * x:=ext' (by show x.re * y.re - x.im * y.im = y.re * x.re - y.im * x.im; grind) (by show x.re * y.im + x.im * y.re = y.re * x.im + y.im * x.re; grind)
theorem mul_assoc' (x y z : Qi) : x * y * z = x * (y * z) := ext'
 (by show (x.re * y.re - x.im * y.im) * z.re - (x.re * y.im + x.im * y.re) * z.im = x.re * (y.re * z.re - y.im * z.im) - x.im * (y.re * z.im + y.im * z.re); grind)
 (by show (x.re * y.re - x.im * y.im) * z.im + (x.re * y.im + x.im * y.re) * z.re = x.re * (y.re * z.im + y.im * z.re) + x.im * (y.re * z.re - y.im * z.im); grind)
theorem mul_add' (x y z : Qi) : x * (y + z) = x * y + x * z := ext'
 (by show x.re * (y.re + z.re) - x.im * (y.im + z.im) = (x.re * y.re - x.im * y.im) + (x.re * z.re - x.im * z.im); grind)
 (by show x.re * (y.im + z.im) + x.im * (y.re + z.re) = (x.re * y.im + x.im * y.re) + (x.re * z.im + x.im * z.re); grind)
theorem add_mul' (x y z:Qi):(x + y) * z = x * z + y * z:=by rw [mul_comm',mul_add',mul_comm' z x,mul_comm' z y]
theorem oB:Qi.zero.re = 0 ∧ Qi.zero.im = 0:=⟨rfl,rfl⟩
theorem zero_add' (x:Qi):Qi.zero + x = x:=ext' (by show Qi.zero.re + x.re = x.re; rw [oB.1]; grind) (by show Qi.zero.im + x.im = x.im; rw [oB.2]; grind)
theorem add_zero' (x:Qi):x + Qi.zero = x:=by rw [add_comm',zero_add']
theorem zero_mul' (x : Qi) : Qi.zero * x = Qi.zero := ext'
 (by show Qi.zero.re * x.re - Qi.zero.im * x.im = Qi.zero.re; rw [oB.1,oB.2]; grind)
 (by show Qi.zero.re * x.im + Qi.zero.im * x.re = Qi.zero.im; rw [oB.1,oB.2]; grind)
theorem mul_zero' (x:Qi):x * Qi.zero = Qi.zero:=by rw [mul_comm',zero_mul']
end Qi
def dD : Nat → (Nat → Qi) → Qi
 | 0,_=>Qi.zero
 | n + 1,f=>dD n f + f n
theorem iZ {n:Nat} {f g:Nat → Qi} (h:∀ i,i < n → f i = g i):dD n f = dD n g:=by
 induction n with
 | zero=>rfl
 | succ n ih=>rw [dD,dD,ih (fun i hi=>h i (by omega)),h n (by omega)]
theorem Ky (n:Nat) (f g:Nat → Qi):dD n (fun i=>f i + g i) = dD n f + dD n g:=by
 induction n with
 | zero=>exact (Qi.zero_add' _).symm
 | succ n ih =>
  simp only [dD,ih]
  rw [Qi.add_assoc',Qi.add_assoc',← Qi.add_assoc' (dD n g),Qi.add_comm' (dD n g) (f n),Qi.add_assoc']
theorem Kz (n:Nat) (f:Nat → Qi) (x:Qi):dD n (fun i=>f i * x) = dD n f * x:=by
 induction n with
 | zero=>exact (Qi.zero_mul' _).symm
 | succ n ih=>simp only [dD,ih,Qi.add_mul']
theorem Fy (n:Nat):dD n (fun _=>Qi.zero) = Qi.zero:=by
 induction n with
 | zero=>rfl
 | succ n ih=>simp only [dD,ih,Qi.zero_add']
theorem Fx (n m:Nat) (f:Nat → Nat → Qi):dD n (fun i=>dD m (f i)) = dD m (fun j=>dD n fun i=>f i j):=by
 induction n with
 | zero=>exact (Fy m).symm
 | succ n ih=>simp only [dD,ih,← Ky]
theorem La (f:Nat → Qi):dD 1 f = f 0:=Qi.zero_add' _
theorem aL.sum {n L:Nat} {f:Nat → Qi} (h:∀ i,i < n → aL (f i) L):aL (dD n f) (1 + n * (L + 1)):=by
 induction n with
 | zero=>exact aL.zero (by omega)
 | succ n ih =>
  have h1:=ih fun i hi=>h i (by omega)
  have h2:=h n (by omega)
  have h3:aL (dD n f + f n) (1 + n * (L + 1) + L + 1):=@fitAdd _ _ _ _ h1 h2
  exact h3.le (by rw [Nat.add_mul]; omega)
def Ew (p c:List (List Qi)) (i k a b:Nat):Qi:=gm p i a * gm c a b * (gm p k b).conj
def Vb (p c:List (List Qi)) (n i k:Nat):Qi:=dD n fun a=>dD n fun b=>Ew p c i k a b
def kD (p c:List (List Qi)):List (List Qi):=tab p.length fun i=>tab p.length fun k=>Vb p c c.length i k
def lK {α:Type} (f:Nat → α) (z:α) (n k:Nat):List α:=tab n fun i=>if i < k then f i else z
theorem iJ {α:Type} (f:Nat → α) (z:α) (n k:Nat):(lK f z n k).length = n:=bI _ _
theorem nD {α:Type} (f:Nat → α) (z:α) (n:Nat):(tab n fun _=>z) = lK f z n 0:=jT fun i _=>by rw [if_neg (by omega)]
theorem pT {α:Type} (f:Nat → α) (z:α) (n:Nat):lK f z n n = tab n f:=jT fun i hi=>by rw [if_pos hi]
theorem pU {α:Type} {f:Nat → α} {z:α} {n k:Nat}:(lK f z n k).set k (f k) = lK f z n (k + 1):=by
 apply List.ext_getElem?
 intro i
 by_cases hi:i < n
 ·by_cases e : k = i
  ·subst e
   rw [List.getElem?_set_self (by rw [iJ]; exact hi),lK,eC hi,if_pos (by omega)]
  ·rw [List.getElem?_set_ne e, lK, lK, eC hi, eC hi]
   by_cases c:i < k
   ·rw [if_pos c,if_pos (by omega)]
   ·rw [if_neg c,if_neg (by omega)]
 ·rw [List.getElem?_eq_none (by rw [List.length_set,iJ]; omega),List.getElem?_eq_none (by rw [iJ]; omega)]
theorem Nl {α:Type} {f:Nat → α} {z:α} {n k:Nat} (h:k < n):(lK f z n k)[k]? = some z:=by rw [lK,eC h,if_neg (by omega)]
theorem mY {F:Qi → Ty} {f:Nat → List Qi} {z:List Qi} {n k:Nat} (h:k < n):(dF F (lK f z n k))[k]? = some (z.map F):=by rw [dF,List.getElem?_map,Nl h]; rfl
theorem Hr {p c:List (List Qi)} {L:Nat} (hp:bL p L) (hc:bL c L) (hL:1 ≤ L) (i k a b:Nat):aL (Ew p c i k a b) (3 * L + 2):=by
 haveI:=hp.get hL i a; haveI:=hc.get hL a b; haveI:=hp.get hL k b
 have:aL (Ew p c i k a b) (L + L + 1 + L + 1):=by unfold Ew; infer_instance
 exact this.le (by omega)
theorem Mj {p c:List (List Qi)} {L n m:Nat} (hp:bL p L) (hc:bL c L) (hL:1 ≤ L) (hm:m ≤ 8) (hn:n ≤ 8) (i k:Nat):aL (dD n fun a=>dD m fun b=>Ew p c i k a b) (200 * L + 300):=by
 have h1 : ∀ a, aL (dD m fun b => Ew p c i k a b) (24 * L + 25) := fun a => (aL.sum fun b _ => Hr hp hc hL i k a b).le (by
  have:m * (3 * L + 2 + 1) ≤ 8 * (3 * L + 3):=Nat.mul_le_mul hm (Nat.le_refl _)
  omega)
 exact (aL.sum fun a _ => h1 a).le (by
  have:n * (24 * L + 25 + 1) ≤ 8 * (24 * L + 26):=Nat.mul_le_mul hn (Nat.le_refl _)
  omega)
theorem tG {p c:List (List Qi)} {L:Nat} (hp:bL p L) (hc:bL c L) (hL:1 ≤ L) (hn:c.length ≤ 8):bL (kD p c) (200 * L + 300):=bL.tab fun i k _ _=>Mj hp hc hL hn hn i k
def nC {α:Type} (f g:Nat → α) (n k:Nat):List α:=tab n fun i=>if i < k then f i else g i
theorem kG {α:Type} (f g:Nat → α) (n k:Nat):(nC f g n k).length = n:=bI _ _
theorem nV {α:Type} (f g:Nat → α) (n:Nat):tab n g = nC f g n 0:=jT fun i _=>by rw [if_neg (by omega)]
theorem pR {α:Type} (f g:Nat → α) (n:Nat):nC f g n n = tab n f:=jT fun i hi=>by rw [if_pos hi]
theorem pS {α:Type} {f g:Nat → α} {n k:Nat}:(nC f g n k).set k (f k) = nC f g n (k + 1):=by
 apply List.ext_getElem?
 intro i
 by_cases hi:i < n
 ·by_cases e : k = i
  ·subst e
   rw [List.getElem?_set_self (by rw [kG]; exact hi),nC,eC hi,if_pos (by omega)]
  ·rw [List.getElem?_set_ne e, nC, nC, eC hi, eC hi]
   by_cases c:i < k
   ·rw [if_pos c,if_pos (by omega)]
   ·rw [if_neg c,if_neg (by omega)]
 ·rw [List.getElem?_eq_none (by rw [List.length_set,kG]; omega),List.getElem?_eq_none (by rw [kG]; omega)]
theorem uA {α:Type} {f g:Nat → α} {n k:Nat} (h:k < n):(nC f g n k)[k]? = some (g k):=by rw [nC,eC h,if_neg (by omega)]
theorem vM {F:Qi → Ty} {f g:Nat → List Qi} {n k:Nat} (h:k < n):(dF F (nC f g n k))[k]? = some ((g k).map F):=by rw [dF,List.getElem?_map,uA h]; rfl
theorem kF {F : Qi → Ty} {M : List (List Qi)} {q : Value → Prop} {B e s l : Nat} {BT : TypeId} (hl : l = M.length) : ∀ u S V, (Is (.slice (some ⟨B, 0, none⟩) l l)).p u V → (lJ q B BT e s (dF F M)).h S V V → (jL 1 (M.map fun r => jL s (r.map F))).p u V := fun u S V h1 h2 =>
 Vr (by simp [dF,List.map_map,Function.comp_def]) u V (Df (l:=l) (cap:=l) (by simp [dF,hl]) (Nat.le_refl _) u S V h1 h2)
def eN (z:List Qi):List (List Qi):=tab z.length fun i=>(tab z.length fun _=>Qi.zero).set i (gv z i)
theorem yO (z:List Qi):gC (eN z) z.length z.length:=⟨bI _ _,fun r hr=>by obtain ⟨i,_,rfl⟩:=gK.1 hr; rw [List.length_set,bI]⟩
theorem tL {z : List Qi} {L : Nat} (h : eO z L) (hL : 1 ≤ L) : bL (eN z) L := fun r hr x hx => by
 obtain ⟨i,_,rfl⟩:=gK.1 hr
 rcases List.mem_or_eq_of_mem_set hx with h1 | h1
 ·obtain ⟨_,_,rfl⟩:=gK.1 h1; exact aL.zero hL
 ·subst h1; exact h.get hL i
def lM (z:List Qi) (s:List (List Qi)):List (List Qi):=tab z.length fun i=>tab z.length fun j=>gm (eN z) i j - gm (kD s (eN z)) i j
theorem Js (z:List Qi) (s:List (List Qi)):gC (lM z s) z.length z.length:=gC.tab
theorem tH {p c:List (List Qi)}:gC (kD p c) p.length p.length:=gC.tab
theorem zN {z : List Qi} {s : List (List Qi)} {L : Nat} (hz : eO z L) (hs : bL s L) (hL : 1 ≤ L) (hl : z.length ≤ 8) : bL (lM z s) (201 * L + 301) := bL.tab fun i j _ _ => by
 haveI:=(tL hz hL).get hL i j
 haveI:=(tG hs (tL hz hL) hL (by rw [(yO z).1]; exact hl)).get (by omega) i j
 have:aL (gm (eN z) i j - gm (kD s (eN z)) i j) (L + (200 * L + 300) + 1):=inferInstance
 exact this.le (by omega)
def Kr (t:Qi) (c:List (List Qi)) (n:Nat):List (List Qi):=tab n fun i=>tab n fun j=>t * gm c i j
theorem zZ {t:Qi} {c:List (List Qi)} {n:Nat}:gC (Kr t c n) n n:=gC.tab
def uM (x:Qi):Bool:=decide (x.b = 0 ∧ 0 ≤ x.a)
theorem Mn {x y:Int}:0 ≤ eP x y ↔ y ≤ x:=by unfold eP; split; omega; split <;> omega
theorem Pq (x:Qi):(decide (x.b = 0) && decide (0 ≤ lB x Qi.zero)) = uM x:=by
 by_cases h:x.b = 0
 ·rw [qL x h,uM,Bool.eq_iff_iff]; simp [h,Mn]
 ·simp [uM,h]
theorem Dp (x:Qi):(!decide (x.b = 0) || decide (lB x Qi.zero ≤ 0)) = !gL x:=by
 rw [← Bn,Bool.not_and]; congr 1
 rw [Bool.eq_iff_iff]; simp
def oW (t:Qi):Int:=if uM t = true then 0 else 1
theorem On {z:List Qi} {s c:List (List Qi)} {e:Int} (h:e ≠ 0):∀ v V,(lA [] [] []).p v V → (lA (oY e z) (oY e s) (oY e c)).p v V:=by
 rw [oY,oY,oY,if_neg h,if_neg h,if_neg h]; exact fun _ _ k=>k
theorem Jt {z:List Qi} {s c:List (List Qi)} {e:Int} (h:e = 0):∀ v V,(lA z s c).p v V → (lA (oY e z) (oY e s) (oY e c)).p v V:=by
 rw [oY,oY,oY,if_pos h,if_pos h,if_pos h]; exact fun _ _ k=>k
abbrev xC:Qi:=Qi.ofInt 1
def Im (s:List (List Qi)) (g:Qi):List (List Qi):=[[gm s 1 0 * g,xC - g * gm s 0 0]]
def In (s c:List (List Qi)) (g:Qi):Qi:=gm (kD (Im s g) c) 0 0
def yQ (z:List Qi) (s:List (List Qi)) (g t0:Qi):Qi:=(gm s 1 0).norm * (t0 * gv z 0 * (xC - g.norm))
def pM (z : List Qi) (s c : List (List Qi)) (g t0 : Qi) : Qi × Int :=
 if gL t0 = false then (Qi.zero,1) else if z.length ≠ 2 then (Qi.zero,4) else if yQ z s g t0 = Qi.zero then (Qi.zero,3) else (xC + In s c g / yQ z s g t0,0)
theorem yR {s : List (List Qi)} {g : Qi} {L : Nat} (hs : bL s L) (hg : aL g L) (hL : 1 ≤ L) : bL (Im s g) (2 * L + 4) := fun r hr x hx => by
 have:=List.mem_singleton.1 hr
 subst this
 haveI:=hs.get hL 1 0; haveI:=hs.get hL 0 0
 have h1:aL (gm s 1 0 * g) (L + L + 1):=inferInstance
 have h2:aL (xC - g * gm s 0 0) ((dg (1:Int).natAbs).length + 1 + (L + L + 1) + 1):=inferInstance
 have h3:(dg (1:Int).natAbs).length = 1:=by decide
 simp at hx
 rcases hx with rfl | rfl
 ·exact h1.le (by omega)
 ·exact h2.le (by omega)
theorem Io {s c : List (List Qi)} {g : Qi} {L : Nat} (hs : bL s L) (hc : bL c L) (hg : aL g L) (hL : 1 ≤ L) (hn : c.length ≤ 8) : aL (In s c g) (400 * L + 1100) :=
 ((tG (yR hs hg hL) (hc.le (by omega)) (by omega) hn).get (by omega) 0 0).le (by omega)
def rL (a b:List (List Qi)) (k i c:Nat):Qi:=dD k fun j=>gm a i j * gm b j c
def rN (a b:List (List Qi)) (n k m:Nat):List (List Qi):=tab n fun i=>tab m fun c=>rL a b k i c
def wG (a:List (List Qi)) (n m:Nat):List (List Qi):=tab m fun k=>tab n fun i=>(gm a i k).conj
theorem Jb {a b:List (List Qi)} {n k m:Nat}:gC (rN a b n k m) n m:=gC.tab
theorem Gr {a:List (List Qi)} {n m:Nat}:gC (wG a n m) m n:=gC.tab
theorem Db {a b : List (List Qi)} {L M k : Nat} (ha : bL a L) (hb : bL b M) (h1 : 1 ≤ L) (h2 : 1 ≤ M) (hk : k ≤ 8) (i c : Nat) : aL (rL a b k i c) (8 * (L + M) + 17) :=
 (aL.sum (L := L + M + 1) fun j _ => by haveI := ha.get h1 i j; haveI := hb.get h2 j c; exact fitMul).le (by
  have:k * (L + M + 1 + 1) ≤ 8 * (L + M + 2):=Nat.mul_le_mul hk (Nat.le_refl _)
  omega)
theorem Ja {a b:List (List Qi)} {L M n k m:Nat} (ha:bL a L) (hb:bL b M) (h1:1 ≤ L) (h2:1 ≤ M) (hk:k ≤ 8):bL (rN a b n k m) (8 * (L + M) + 17):=bL.tab fun i c _ _=>Db ha hb h1 h2 hk i c
theorem Gq {a:List (List Qi)} {L n m:Nat} (ha:bL a L) (h1:1 ≤ L):bL (wG a n m) L:=bL.tab fun k i _ _=>by haveI:=ha.get h1 i k; exact fitConj
theorem Mu {a:List (List Qi)} {n k:Nat} (h:gC a n k):(a.any fun r=>!decide (r.length = k)) = false:=by
 rw [List.any_eq_false]; intro r hr; simp [h.2 r hr]
theorem Vz {T0 T1 U:Ty} {v:Value} {V:aD} (h:(gA [T0,U]).p v V) (f:∀ u,T0.p u V → T1.p u V):(gA [T1,U]).p v V:=by
 obtain ⟨vs,e,h2⟩:=h
 match vs,h2 with
 | [a,b],⟨x,y,z⟩=>exact ⟨[a,b],e,f a x,y,z⟩
instance insTup2 (u:Value) (k:IntKind) (n:Int):Lh (gA [Is u,aC k n]):=Sl (.cons inferInstance (.cons inferInstance .nil))
theorem Rz {p c:List (List Qi)} {n m:Nat} (hp:gC p n m) (hc:gC c m m):rN (rN p c n m m) (wG p n m) n m n = kD p c:=by
 rw [rN,kD,hp.1,hc.1]
 refine jT fun i hi=>jT fun k hk=>?_
 rw [Vb,Fx]
 refine iZ fun b hb=>?_
 rw [show gm (rN p c n m m) i b = rL p c m i b from Iv hi hb,show gm (wG p n m) b k = (gm p k b).conj from Iv hb hk,rL,← Kz]
 rfl
theorem Qi.mul_conj_norm (x:Qi):x * x.conj = x.norm:=Qi.ext' (by show x.re * x.re - x.im * -x.im = x.nrm; unfold Qi.nrm; grind) (by show x.re * -x.im + x.im * x.re = 0; grind)
theorem Xl {z:List Qi} (h:0 < z.length):Lk z ((1:Nat):Int) = gv z 0:=Jx (i:=0) h
end
section
open Go Go.RowKit
def We:Rt:=⟨50,0,0,by decide,by decide,by decide,by decide,by decide,by decide⟩
def Ou:Rt:=⟨0,0,0,by decide,by decide,by decide,by decide,by decide,by decide⟩
def Dx:Rt:=⟨1,0,2,by decide,by decide,by decide,by decide,by decide,by decide⟩
def qI:List Qi:=[We,We].map Rt.q
def uO:List (List Qi):=rq [[Ou,Dx],[Dx,Ou]]
theorem Gs:fI qI uO = 0:=by decide +kernel
theorem Gv:gC uO qI.length qI.length:=(vP Gs).2.2.1
def vC:List (List Qi):=Kr (Qi.ofInt 290) (lM qI uO) qI.length
theorem Rj:oW (Qi.ofInt 290) = 0:=by decide +kernel
theorem Wl:Jw vC.length vC 2 2 = Qi.ofInt 10875:=by decide +kernel
theorem Wm:pM qI uO vC (Qi.ofInt 0) (Qi.ofInt 290) = (Qi.ofInt 4,0):=by decide +kernel
theorem Cj:eO qI 2:=eO.rt
theorem Gt:bL uO 2:=bL.rt
theorem Gu:aL (Qi.ofInt 290) 2:=(@fitInt 290).le (by decide)
theorem Um:aL (Qi.ofInt 0) 2:=(@fitInt 0).le (by decide)
theorem Ci:gC vC qI.length qI.length:=zZ
theorem Rd:gC vC vC.length vC.length:=by have h:=Ci; rw [h.1]; exact h
theorem Un : bL vC 1000 := bL.tab fun i j _ _ => by
 haveI:=Gu
 haveI:=(zN Cj Gt (by decide) (by decide)).get (by decide) i j
 have:aL (Qi.ofInt 290 * gm (lM qI uO) i j) (2 + (201 * 2 + 301) + 1):=inferInstance
 exact this.le (by decide)
theorem Rh:∀ v V,(gA [mL (oY (fI qI uO) qI) (oY (fI qI uO) uO),aC .i64 (fI qI uO)]).p v V → (gA [mL qI uO,aC .i64 0]).p v V:=by rw [Gs]; exact fun _ _ h=>h
theorem Ri:∀ v V,(gA [lA (oY (oW (Qi.ofInt 290)) qI) (oY (oW (Qi.ofInt 290)) uO) (oY (oW (Qi.ofInt 290)) (Kr (Qi.ofInt 290) (lM qI uO) qI.length)),aC .i64 (oW (Qi.ofInt 290))]).p v V → (gA [lA qI uO vC,aC .i64 0]).p v V:=by rw [Rj]; exact fun _ _ h=>h
theorem Ul:∀ v V,(gA [aM (Jw vC.length vC ((2:Nat):Int) ((2:Nat):Int)),aC .i64 (if (1 ≤ ((2:Nat):Int) ∧ ((2:Nat):Int) ≤ vC.length) ∧ 1 ≤ ((2:Nat):Int) ∧ ((2:Nat):Int) ≤ vC.length then 0 else 1)]).p v V → (gA [aM (Qi.ofInt 10875),aC .i64 0]).p v V:=by
 rw [show Jw vC.length vC ((2:Nat):Int) ((2:Nat):Int) = Qi.ofInt 10875 from Wl,if_pos (by rw [Ci.1]; decide)]; exact fun _ _ h=>h
theorem Rf:∀ v V,(gA [aM (pM qI uO vC (Qi.ofInt 0) (Qi.ofInt 290)).1,aC .i64 (pM qI uO vC (Qi.ofInt 0) (Qi.ofInt 290)).2]).p v V → (gA [aM (Qi.ofInt 4),aC .i64 0]).p v V:=by rw [Wm]; exact fun _ _ h=>h
theorem Uo:Ub (Qi.ofInt 10875) = [49,48,56,55,53]:=by decide +kernel
theorem Up:Ub (Qi.ofInt 4) = [52]:=by decide +kernel
end
section
open Go Go.RowKit Go.ChangeShapes Go.WideShapes Go.Deep
section
variable {H:Type} {enc:TypeId × Value → H} {W:World} {base:Nat} {sp:Nat → Bool} {held:Bool}
theorem Gc {n:Int} (h:(Lit.int .i64 n).wf = true):-9223372036854775808 ≤ n ∧ n ≤ 9223372036854775807:=by
 simp [Lit.wf,IntKind.min,IntKind.max,IntKind.signed,IntKind.bits] at h
 omega
theorem Vx {α:Type} {cs:List α} (h:cs.length = 3):∃ a b c,cs = [a,b,c]:=by
 match cs,h with
 | [a,b,c],_=>exact ⟨a,b,c,rfl⟩
variable {P:Program}
structure S3 (P:Program) (t t0 t1 t2:TypeId):Prop where
 st:∃ f0 f1 f2:Field,P.underlying t = some (.struct #[f0,f1,f2]) ∧ f0.type = t0 ∧ f1.type = t1 ∧ f2.type = t2 ∧ f0.offset = 0 ∧ f1.offset = 1 ∧ f2.offset = 2
 c:P.cellsOf t = 3
 c0:P.cellsOf t0 = 1
 c1:P.cellsOf t1 = 1
 c2:P.cellsOf t2 = 1
theorem S3.open {t t0 t1 t2 : TypeId} (hS : S3 P t t0 t1 t2) {fuel : Nat} {cs : List Value} {x : DataW H × List MemPlace} (h : DataW.trod enc P W base sp held fuel t cs = some x) :
  ∃ a b c n y0 y1 y2,cs = [a,b,c] ∧ DataW.trod enc P W base sp held n t0 [a] = some y0 ∧ DataW.trod enc P W base sp held n t1 [b] = some y1 ∧ DataW.trod enc P W base sp held n t2 [c] = some y2:=by
 obtain ⟨⟨f0,f1,f2,hu,rfl,rfl,rfl,o0,o1,o2⟩,hc,c0,c1,c2⟩:=hS
 obtain ⟨y0,y1,y2,n,_,hl,h0,h1,h2⟩:=trod_struct3 hu h
 rw [hc] at hl
 obtain ⟨a,b,c,rfl⟩:=Vx hl
 rw [o0,c0] at h0; rw [o1,c1] at h1; rw [o2,c2] at h2
 exact ⟨a,b,c,n,y0,y1,y2,rfl,by simpa using h0,by simpa using h1,by simpa using h2⟩
theorem Ok {t ti : TypeId} (hS : S3 P t ti ti ti) (hi : P.underlying ti = some (.int .i64)) {fuel : Nat} {cs : List Value} {x : DataW H × List MemPlace} (h : DataW.trod enc P W base sp held fuel t cs = some x) :
  ∃ r:Rt,cs = [.int .i64 r.re,.int .i64 r.im,.int .i64 r.den]:=by
 obtain ⟨a,b,c,n,y0,y1,y2,rfl,h0,h1,h2⟩:=hS.open h
 obtain ⟨i0,e0,_,w0⟩:=DataW.trod_int hi h0
 obtain ⟨i1,e1,_,w1⟩:=DataW.trod_int hi h1
 obtain ⟨i2,e2,_,w2⟩:=DataW.trod_int hi h2
 simp only [List.cons.injEq,and_true] at e0 e1 e2
 subst e0 e1 e2
 exact ⟨⟨i0,i1,i2,(Gc w0).1,(Gc w0).2,(Gc w1).1,(Gc w1).2,(Gc w2).1,(Gc w2).2⟩,rfl⟩
end
end
section
open Go Go.ChangeShapes Go.WideShapes Go.ChangeAt Go.RowKit
theorem Xf:ownKnob Tryz.prog.godebug = none:=by kernel_rfl
theorem sP:laidOutB Tryz.prog = true:=by kernel_rfl
theorem Xm:S3 Tryz.prog 23 2 2 2:=⟨⟨_,_,_,Tryz.underlying23,rfl,rfl,rfl,rfl,rfl,rfl⟩,by kernel_rfl,by kernel_rfl,by kernel_rfl,by kernel_rfl⟩
section
variable {H:Type} {enc:TypeId × Value → H} {W:World} {base:Nat} {sp:Nat → Bool} {held:Bool}
theorem Wx (r : Rt) (V : aD) : bM [aC .i64 r.re, aC .i64 r.im, aC .i64 r.den] [.int .i64 r.re, .int .i64 r.im, .int .i64 r.den] V :=
 bM.cons' ⟨rfl,trivial⟩ (bM.cons' ⟨rfl,trivial⟩ (bM.cons' ⟨rfl,trivial⟩ bM.nil))
theorem qY {b0:Nat} {v:Value} {d:DataW H} {p:List MemPlace} (ho:Value.okWide Tryz.prog W .any b0 23 v) (h:DataW.Trod enc Tryz.prog W base sp held 23 v d p):∃ r:Rt,(Er r).p v (hv W):=by
 obtain ⟨cs,rfl,_⟩:=okWide_struct Tryz.underlying23 ho
 obtain ⟨n,hn⟩:=h
 obtain ⟨r,hr⟩:=Ok Xm Tryz.underlying2 hn
 have hr2:cs.toList = [.int .i64 r.re,.int .i64 r.im,.int .i64 r.den]:=hr
 exact ⟨r,cs.toList,rfl,by rw [hr2]; exact Wx r _⟩
theorem Wc {n:Int} (h:(Lit.int .u8 n).wf = true):0 ≤ n ∧ n < 256:=by
 simp [Lit.wf,IntKind.min,IntKind.max,IntKind.signed,IntKind.bits] at h
 omega
theorem Fz {P:Program} {t:TypeId} {k:IntKind} (ht:P.underlying t = some (.int k)) {b0:Nat} {v:Value} {d:DataW H} {p:List MemPlace} (ho:Value.okWide P W .any b0 t v) (h:DataW.Trod enc P W base sp held t v d p):∃ i:Int,(aC k i).p v (hv W) ∧ (Lit.int k i).wf = true:=by
 obtain ⟨i,rfl⟩:=okWide_int ht ho
 obtain ⟨m,hm⟩:=h
 obtain ⟨j,e,_,w⟩:=DataW.trod_int ht hm
 have:[Value.int k i] = [.int k j]:=e
 simp only [List.cons.injEq,and_true,Value.int.injEq,true_and] at this
 subst this
 exact ⟨i,rfl,w⟩
theorem Lf {P:Program} {t:TypeId} (ht:P.underlying t = some (.int .u8)) {b0:Nat} {v:Value} {d:DataW H} {p:List MemPlace} (ho:Value.okWide P W .any b0 t v) (h:DataW.Trod enc P W base sp held t v d p):∃ n:Nat,(NT .u8 n).p v (hv W) ∧ n < 256:=by
 obtain ⟨i,hi,w⟩:=Fz ht ho h
 have hw:=Wc w
 refine ⟨i.toNat,?_,by omega⟩
 have e:((i.toNat:Nat):Int) = i:=by omega
 rw [show NT .u8 i.toNat = aC .u8 i from congrArg (aC .u8) e]; exact hi
end
theorem Eu {e:Ending} {v:Value} {V:aD} (h:(aB true).p v V) (he:e = .returned v):e = .returned (.bool true):=by rw [he]; exact congrArg _ h
end
section
open Go Go.RowKit
theorem mixed:Tryz.prog.follows .mixedOrders = true:=by kernel_rfl
end
section
open Go Go.RowKit
theorem pN (a b:List Value):aT (a ++ b) = aT a ++ aT b:=by simp [aT]
theorem wW {s:Nat} {xs:List Value} (h:∀ x,x ∈ xs → x.cells.size = s) (k:Nat) (hk:k ≤ xs.length):aT (xs.take k) = (aT xs).take (k * s):=by
 have h1:(aT (xs.take k)).length = k * s:=by rw [gD _ (fun x hx=>h x (List.mem_of_mem_take hx))]; simp [Nat.min_eq_left hk]
 have h2:aT xs = aT (xs.take k) ++ aT (xs.drop k):=by rw [← pN,List.take_append_drop]
 rw [h2,List.take_left' h1]
theorem Nc {s:Nat} {xs:List Value} (h:∀ x,x ∈ xs → x.cells.size = s) (k:Nat) (hk:k ≤ xs.length):aT (xs.drop k) = (aT xs).drop (k * s):=by
 have h1:(aT (xs.take k)).length = k * s:=by rw [gD _ (fun x hx=>h x (List.mem_of_mem_take hx))]; simp [Nat.min_eq_left hk]
 have h2:aT xs = aT (xs.take k) ++ aT (xs.drop k):=by rw [← pN,List.take_append_drop]
 rw [h2,List.drop_left' h1]
theorem wI {T : Ty} {V : aD} : ∀ {xs : List Value} {m : Nat}, (∀ x, x ∈ xs → T.p x V) → xs.length = m → dS (List.replicate m T) xs V
 | [],0,_,_=>trivial
 | x :: xs,m + 1,h,hl=>⟨h x (by simp),wI (fun y hy=>h y (by simp [hy])) (by simpa using hl)⟩
theorem sV {T : Ty} {V : aD} {xs : List Value} {m : Nat} (h : dS (List.replicate m T) xs V) : ∀ x, x ∈ xs → T.p x V := fun x hx => by
 obtain ⟨U,h1,h2⟩:=h.mem x hx
 rw [(List.mem_replicate.1 h1).2] at h2; exact h2
def Am (s:Nat) (v:Value) (lo len:Nat):Ty:=⟨fun u _=>∃ g l0 cap,v = .slice (some ⟨g,0,none⟩) l0 cap ∧ lo + len ≤ l0 ∧ l0 ≤ cap ∧ u = .slice (some ⟨g,lo * s,none⟩) len (cap - lo),fun h _=>h⟩
instance shSec (s:Nat) (v:Value) (lo len:Nat):bN (Am s v lo len) 1 false:=eI fun u V h=>by obtain ⟨_,_,_,_,_,_,rfl⟩:=h; trivial
section
variable {P:Program} {R:dP} {cx:Cx} {n:Nat} {k:List It} {E:bC} {H:Hp} {ops:Array Oper} {o:Oper} {rest:List Oper}
variable {d:Option Tmp} {t:TypeId} {pos:String} {af:Array Edge} {g:Option (Nat × Bool)}
theorem Jq {x lo : Operand} {i e e' s q : Nat} {v : Value} {Ts : List Ty} {kd : IntKind} {j : Int} (hU : ∀ w, (underlying t).run P w = .ok (.slice e) w) (hS : ∀ w, (sizeOf e).run P w = .ok s w)
  (hx:aN E x (Is v)) (hlo:aN E lo (aC kd j)) (hj:j = (q:Int)) (hH:H[i]? = some (bA e' s v Ts)) (hq:q < Ts.length) {t':TypeId}:aF P n E H ⟨d,.slice t x (some lo) none none,t',pos,af,g⟩ (Am s v q (Ts.length - q)) :=
 lL hH fun a V w S hA _ hs => by
  have e1:a.eval x = v:=hx n V a hs
  have e2:a.eval lo = .int kd j:=hlo n V a hs
  subst hj
  obtain ⟨xs,_,h2⟩:=hA
  rcases h2 with ⟨_,h0,_⟩ | ⟨g1,cap,cur,rfl,_,_,hle,_⟩
  ·subst h0; simp at hq
  ·refine ⟨.slice (some ⟨g1, q * s, none⟩) (Ts.length - q) (cap - q), ?_, g1, Ts.length, cap, rfl, by omega, hle, rfl⟩
   have hne:¬ cap = q:=by omega
   have hb:q ≤ Ts.length:=by omega
   simp [execOp,e1,e2,Instr.sliceAt,Instr.slice,Instr.sliceBounds,Instr.sliceBound,asIntOf,Sem.run_bind,hU,hS,Result.andThen,hb,hne,Addr.add,hle]
   try exact fun h=>h.symm
theorem Jp {x hi : Operand} {i e e' s q : Nat} {v : Value} {Ts : List Ty} {kd : IntKind} {j : Int} (hU : ∀ w, (underlying t).run P w = .ok (.slice e) w) (hS : ∀ w, (sizeOf e).run P w = .ok s w)
  (hx:aN E x (Is v)) (hhi:aN E hi (aC kd j)) (hj:j = (q:Int)) (hH:H[i]? = some (bA e' s v Ts)) (hq:q ≤ Ts.length) (h0:0 < Ts.length) {t':TypeId}:aF P n E H ⟨d,.slice t x none (some hi) none,t',pos,af,g⟩ (Am s v 0 q) :=
 lL hH fun a V w S hA _ hs => by
  have e1:a.eval x = v:=hx n V a hs
  have e2:a.eval hi = .int kd j:=hhi n V a hs
  subst hj
  obtain ⟨xs,_,h2⟩:=hA
  rcases h2 with ⟨_,h1,_⟩ | ⟨g1,cap,cur,rfl,_,_,hle,_⟩
  ·subst h1; simp at h0
  ·refine ⟨.slice (some ⟨g1, 0, none⟩) q cap, ?_, g1, Ts.length, cap, rfl, by omega, hle, by simp⟩
   have hb:q ≤ cap:=by omega
   simp [execOp,e1,e2,Instr.sliceAt,Instr.slice,Instr.sliceBounds,Instr.sliceBound,asIntOf,Sem.run_bind,hU,hS,Result.andThen,hb,Addr.add]
theorem vH {x y : Operand} {i e e' s m lo p q : Nat} {ta tb : TypeId} {v : Value} {T : Ty} {a : Act} {w : World} {V : aD} {b0 o0 cp dd : Nat} {ys : List Value} {t' : TypeId} (hU : ∀ w, (underlying ta).run P w = .ok (.slice e) w) (hS : ∀ w, (sizeOf e).run P w = .ok s w)
  (hinv:dR cx V H w) (hH:H[i]? = some (bA e' s v (List.replicate m T))) (hxv:(Am s v lo p).p (a.eval x) V) (ey:a.eval y = .slice (some ⟨b0,o0,none⟩) q cp)
  (hrow:oJ s (List.replicate q T) ys V) (hcells:∀ (j:Nat) u,(aT ys)[j]? = some u → w.cell? ((⟨b0,o0,none⟩:Addr).add j) = some u) :
  ∃ w',(execOp a.eval ⟨some dd,.call ⟨.builtin .copy,#[x,y],#[ta,tb]⟩,t',pos,af,g⟩).run P w = .ok (.value (goInt (Nat.min q p))) w' ∧ dR cx V H w':=by
 obtain ⟨S,hR⟩:=(show HH cx.w0.heap.size w V (H ++ []) by simpa using hinv.hp).get hH
 obtain ⟨xs,hrx,h2⟩:=hR
 obtain ⟨g1,l0,cap0,hv,hlo,hlc,ex⟩:=hxv
 rcases h2 with ⟨h0,_⟩ | ⟨g2,cap,cur,h3,hS',hg,hle,hcm,hcs,htake⟩
 ·rw [hv] at h0; cases h0
 rw [hv] at h3
 simp only [Value.slice.injEq,Option.some.injEq,Addr.mk.injEq,List.length_replicate] at h3
 obtain ⟨⟨rfl,_⟩,rfl,rfl⟩:=h3
 simp only [List.length_replicate] at hle htake
 have hk1:Nat.min q p ≤ q:=Nat.min_le_left _ _
 have hk2:Nat.min q p ≤ p:=Nat.min_le_right _ _
 generalize hkk:Nat.min q p = k at hk1 hk2
 have hyl:ys.length = q:=by rw [hrow.all.length]; simp
 have hxl:xs.length = l0:=by rw [hrx.all.length]; simp
 have hyk:∀ z,z ∈ ys.take k → z.cells.size = s:=fun z hz=>hrow.size z (List.mem_of_mem_take hz)
 have hfl:(aT (ys.take k)).length = k * s:=by rw [gD _ hyk]; simp [Nat.min_eq_left (show k ≤ ys.length by omega)]
 have hg':w.heap[g1]? = some (.cells cur e' (0,0)):=hg
 have h1s:(lo + k) * s ≤ l0 * s:=Nat.mul_le_mul_right _ (by omega)
 have h2s:l0 * s ≤ cap0 * s:=Nat.mul_le_mul_right _ hle
 have h3s:(lo + k) * s = lo * s + k * s:=Nat.add_mul _ _ _
 have hpl : ∀ u, u ∈ aT (ys.take k) → gO u := fun u hu => by
  obtain ⟨z,hz,hu'⟩:=dT.1 hu
  exact hrow.plain u (dT.2 ⟨z,List.mem_of_mem_take hz,hu'⟩)
 obtain ⟨w',q1,⟨c',q2,q2'⟩,q3,q4,q5,q6,q7⟩:=iX (P:=P) (aT (ys.take k)) (lo * s) 0 w cur hg' (by rw [hfl]; omega) hpl
 have hf := run_firstCells_some (P := P) w s k ⟨b0, o0, none⟩ q cp (aT (ys.take k)) hfl (fun j u hu => hcells j u (by
  rw [wW hrow.size k (by omega),List.getElem?_take] at hu
  split at hu
  ·exact hu
  ·cases hu))
 refine ⟨w',?_,?_⟩
 ·simp [execOp,resolve,invoke,builtin,ex,ey,Builtin.copy_,Builtin.lenOf,Sem.run_bind,hU,hS,Result.andThen,hkk,hf,q1]
 ·have hset : H.set i (bA e' s v (List.replicate l0 T)) = H := by
   apply List.ext_getElem?
   intro j
   by_cases c:i = j
   ·subst c; rw [List.getElem?_set_self (List.getElem?_eq_some_iff.1 hH).1,hH]
   ·rw [List.getElem?_set_ne c]
  rw [← hset]
  refine hinv.upd hH q4 q5 q6 q7 (fun S2 hS2=>?_)
  obtain ⟨xs2,hrx2,h4⟩:=hS2
  rcases h4 with ⟨h0,_⟩ | ⟨g3,cap3,cur3,h5,hS3,hg3,hle3,hcm3,hcs3,htake3⟩
  ·rw [hv] at h0; cases h0
  rw [hv] at h5
  simp only [Value.slice.injEq,Option.some.injEq,Addr.mk.injEq] at h5
  obtain ⟨⟨rfl,_⟩,_,rfl⟩:=h5
  have hg4:w.heap[g1]? = some (.cells cur3 e' (0,0)):=hg3
  rw [hg'] at hg4; simp at hg4; subst hg4
  subst hS3
  have hx2l:xs2.length = l0:=by rw [hrx2.all.length]; simp
  simp only [List.length_replicate] at htake3
  refine ⟨fun b hb=>q3 b (by simpa using hb),xs2.take lo ++ ys.take k ++ xs2.drop (lo + k),⟨wI (fun z hz=>?_) ?_,fun z hz=>?_,fun u hu=>?_⟩,.inr ⟨g1,cap0,c',by rw [hv]; simp,rfl,q2,by simpa using hle,hcm,?_,?_⟩⟩
  ·simp only [List.mem_append] at hz
   rcases hz with (hz | hz) | hz
   ·exact sV hrx2.all z (List.mem_of_mem_take hz)
   ·exact sV hrow.all z (List.mem_of_mem_take hz)
   ·exact sV hrx2.all z (List.mem_of_mem_drop hz)
  ·simp only [List.length_append,List.length_take,List.length_drop]; omega
  ·simp only [List.mem_append] at hz
   rcases hz with (hz | hz) | hz
   ·exact hrx2.size z (List.mem_of_mem_take hz)
   ·exact hrow.size z (List.mem_of_mem_take hz)
   ·exact hrx2.size z (List.mem_of_mem_drop hz)
  ·obtain ⟨z, hz, hu'⟩ := dT.1 hu
   simp only [List.mem_append] at hz
   rcases hz with (hz | hz) | hz
   ·exact hrx2.plain u (dT.2 ⟨z,List.mem_of_mem_take hz,hu'⟩)
   ·exact hrow.plain u (dT.2 ⟨z,List.mem_of_mem_take hz,hu'⟩)
   ·exact hrx2.plain u (dT.2 ⟨z,List.mem_of_mem_drop hz,hu'⟩)
  ·have : c'.toList.length = cur.toList.length := by
    rw [q2']; simp only [List.length_append,List.length_take,List.length_drop,Array.length_toList,hfl]; omega
   simpa [hcs] using this
  ·rw [q2', pN, pN, wW hrx2.size lo (by omega), Nc hrx2.size (lo + k) (by omega), ← htake3, List.length_replicate, h3s]
   simp only [Nat.add_zero,hfl]
   exact Af _ _ _ _ _ hfl (by omega) (by simp only [Array.length_toList]; omega)
theorem Bl {x y : Operand} {i e e' s m lo p q : Nat} {ta tb : TypeId} {v : Value} {T : Ty} {dd : Nat} (hU : ∀ w, (underlying ta).run P w = .ok (.slice e) w) (hS : ∀ w, (sizeOf e).run P w = .ok s w)
  (hH:H[i]? = some (bA e' s v (List.replicate m T))) (hx:aN E x (Am s v lo p)) (hy:aN E y (Am s v 0 q)) {t':TypeId} :
  aF P n E H ⟨some dd,.call ⟨.builtin .copy,#[x,y],#[ta,tb]⟩,t',pos,af,g⟩ (NT .i64 (Nat.min q p)):=fun cx X a w V hi hs K Q hK=>by
 have hil:=(List.getElem?_eq_some_iff.1 hH).1
 have hH':(H ++ X)[i]? = some (bA e' s v (List.replicate m T)):=by rw [List.getElem?_append_left hil]; exact hH
 obtain ⟨S,hR⟩:=(show HH cx.w0.heap.size w V ((H ++ X) ++ []) by simpa using hi.hp).get hH'
 obtain ⟨xs,hrx,h2⟩:=hR
 obtain ⟨g1,l0,cap0,hv,hlo,hlc,ey⟩:=hy n V a hs
 rcases h2 with ⟨h0,_⟩ | ⟨g2,cap,cur,h3,_,hg,hle,hcm,hcs,htake⟩
 ·rw [hv] at h0; cases h0
 rw [hv] at h3
 simp only [Value.slice.injEq,Option.some.injEq,Addr.mk.injEq,List.length_replicate] at h3
 obtain ⟨⟨rfl,_⟩,rfl,rfl⟩:=h3
 have hxl:xs.length = l0:=by rw [hrx.all.length]; simp
 rw [Nat.zero_mul] at ey
 have hrow : oJ s (List.replicate q T) (xs.take q) V := ⟨wI (fun z hz => sV hrx.all z (List.mem_of_mem_take hz)) (by simp; omega), fun z hz => hrx.size z (List.mem_of_mem_take hz), fun u hu => by
  obtain ⟨z,hz,hu'⟩:=dT.1 hu; exact hrx.plain u (dT.2 ⟨z,List.mem_of_mem_take hz,hu'⟩)⟩
 obtain ⟨w', h1, h4⟩ := vH (dd := dd) (pos := pos) (af := af) (g := g) (t' := t') (tb := tb) hU hS hi hH' (hx n V a hs) ey hrow (fun j u hu => by
  rw [wW hrx.size q (by omega),← htake,List.getElem?_take,List.getElem?_take] at hu
  split at hu
  ·split at hu
   ·rw [gE,cM (show w.heap[g1]? = some (.cells cur e' (0,0)) from hg),Nat.zero_add]; simpa using hu
   ·cases hu
  ·cases hu)
 simp only [Oper.wp,h1,Oper.upon_value]
 exact hK _ w' V h4 (iT.refl V) rfl
theorem Jl {x y : Operand} {i e e' s m q : Nat} {ta tb : TypeId} {v : Value} {T : Ty} {dd : Nat} (hU : ∀ w, (underlying ta).run P w = .ok (.slice e) w) (hS : ∀ w, (sizeOf e).run P w = .ok s w)
  (hH:H[i]? = some (bA e' s v (List.replicate m T))) (hx:aN E x (Is v)) (hy:aN E y (jL s (List.replicate q T))) (hq:0 < q) (hEl:El s T) (hm:0 < m) {t':TypeId} :
  aF P n E H ⟨some dd,.call ⟨.builtin .copy,#[x,y],#[ta,tb]⟩,t',pos,af,g⟩ (NT .i64 (Nat.min q m)):=fun cx X a w V hi hs K Q hK=>by
 obtain ⟨b0,o0,cp,ys,ey,_,hrow,hcells⟩:=jL.row (hy n V a hs) (by intro h; have:=congrArg List.length h; simp at this; omega) (fun U hU=>by rw [(List.mem_replicate.1 hU).2]; exact hEl)
 simp only [List.length_replicate] at ey
 have hil:=(List.getElem?_eq_some_iff.1 hH).1
 have hH':(H ++ X)[i]? = some (bA e' s v (List.replicate m T)):=by rw [List.getElem?_append_left hil]; exact hH
 obtain ⟨S,hR⟩:=(show HH cx.w0.heap.size w V ((H ++ X) ++ []) by simpa using hi.hp).get hH'
 have hxv : (Am s v 0 m).p (a.eval x) V := by
  obtain ⟨xs,_,h2⟩:=hR
  rcases h2 with ⟨_,h0,_⟩ | ⟨g1,cap,cur,hv,_,_,hle,_⟩
  ·have:=congrArg List.length h0; simp at this; omega
  ·simp only [List.length_replicate] at hv hle
   have ex:a.eval x = v:=hx n V a hs
   exact ⟨g1,m,cap,hv,by omega,hle,by rw [ex,hv]; simp⟩
 obtain ⟨w',h1,h2⟩:=vH (dd:=dd) (pos:=pos) (af:=af) (g:=g) (t':=t') (tb:=tb) hU hS hi hH' hxv ey hrow (hcells w hi.on)
 simp only [Oper.wp,h1,Oper.upon_value]
 exact hK _ w' V h2 (iT.refl V) rfl
end
end
section
open Go Go.RowKit
abbrev Jg:Value:=.slice none 0 0
abbrev hd (vs:List Value) (i:Nat):Value:=vs.getD i Jg
def Wt (B:Nat) (BT:TypeId) (e s:Nat) (hs vs:List Value) (Rs:List (List Ty)):Hp:=box B BT (hs.map Is) :: List.zipWith (bA e s) vs Rs
def Vh (B:Nat) (BT:TypeId) (e s:Nat) (hs vs:List Value) (Rs:List (List Ty)):SA:=gW (Wt B BT e s hs vs Rs)
structure Wh (vs:List Value) (m:Nat):Prop where
 len:vs.length = m
 pl:∀ i,i < m → gO (hd vs i)
theorem No {B:Nat} {BT:TypeId} {e s:Nat} {hs vs:List Value} {Rs:List (List Ty)} {i:Nat} {v:Value} {Ts:List Ty} (hv:vs[i]? = some v) (hR:Rs[i]? = some Ts):(Wt B BT e s hs vs Rs)[i + 1]? = some (bA e s v Ts):=by
 simp [Wt,List.getElem?_zipWith,hv,hR]
theorem Vh.row {B:Nat} {BT:TypeId} {e s:Nat} {hs vs:List Value} {Rs:List (List Ty)} {S:List Nat} {m V:aD} (h:(Vh B BT e s hs vs Rs).h S m V) {i:Nat} {v:Value} {Ts:List Ty} (hv:vs[i]? = some v) (hR:Rs[i]? = some Ts):∃ S2,(bA e s v Ts).h S2 m V:=by
 obtain ⟨F,h1,_⟩:=h
 exact ⟨_,h1 (i + 1) _ (No hv hR)⟩
section
variable {P:Program} {R:dP} {cx:Cx} {n:Nat} {k:List It} {E:bC} {H:Hp} {ops:Array Oper} {o:Oper} {rest:List Oper}
variable {d:Option Tmp} {t:TypeId} {pos:String} {af:Array Edge} {g:Option (Nat × Bool)}
def swp {α:Type} (d:α) (l:List α) (p c:Nat):List α:=(l.set p (l.getD c d)).set c (l.getD p d)
theorem xQ {α:Type} (d:α) (l:List α) (p c:Nat):(swp d l p c).length = l.length:=by simp [swp]
theorem Wh.swp {vs : List Value} {m p c : Nat} (h : Wh vs m) (hp : p < m) (hc : c < m) : Wh (swp Jg vs p c) m := ⟨by rw [xQ]; exact h.len, fun i hi => by
 have hl:=h.len
 by_cases e:i = c
 ·subst e
  have:hd (Go.Proofs.YthcmlodgnfekeaaGreat.swp Jg vs p i) i = hd vs p:=by simp [hd,Go.Proofs.YthcmlodgnfekeaaGreat.swp,List.getD,hl,hi]
  rw [this]; exact h.pl p hp
 ·by_cases e2 : i = p
  ·subst e2
   have : hd (Go.Proofs.YthcmlodgnfekeaaGreat.swp Jg vs i c) i = hd vs c := by
    simp only [hd,Go.Proofs.YthcmlodgnfekeaaGreat.swp,List.getD]
    rw [List.getElem?_set_ne (Ne.symm e),List.getElem?_set_self (by omega)]; rfl
   rw [this]; exact h.pl c hc
  ·have : hd (Go.Proofs.YthcmlodgnfekeaaGreat.swp Jg vs p c) i = hd vs i := by
    simp only [hd,Go.Proofs.YthcmlodgnfekeaaGreat.swp,List.getD]
    rw [List.getElem?_set_ne (Ne.symm e),List.getElem?_set_ne (Ne.symm e2)]
   rw [this]; exact h.pl i hi⟩
end
end
section
open Go Go.RowKit
namespace C
inductive Ob:Type 1 where
 | val (T:Ty)
 | blk (src:Option Nat) (keep:Bool) (γ:Type) (T:γ → Ty) (A:γ → SA)
 | dep (t u:Nat) (F:Ty → Ty → Ty) (I:Ty → Prop)
def Src (ops : List Oper) (m : Nat) (E0 : bC) (prev : List (Nat × Ob)) (o : Oper) (t : Nat) (T : Ty) : Prop :=
 (cP E0 t = some T ∧ ((List.range m).all fun j=>!(cF ops j == some t)) = true) ∨
 ∃ j,prev.reverse[j]? = some (t,.val T) ∧ (o.after.toList.any fun e=>Nat.beq e.on j && Region.binds .any e) = true
theorem Src.pre {ops:List Oper} {m:Nat} {E0:bC} {prev:List (Nat × Ob)} {o:Oper} {t:Nat} {T:Ty} (h:cP E0 t = some T) (h':((List.range m).all fun j=>!(cF ops j == some t)) = true):Src ops m E0 prev o t T:=.inl ⟨h,h'⟩
theorem Src.op {ops:List Oper} {m:Nat} {E0:bC} {prev:List (Nat × Ob)} {o:Oper} {t:Nat} {T:Ty} (j:Nat) (h:prev.reverse[j]? = some (t,.val T)) (h':(o.after.toList.any fun e=>Nat.beq e.on j && Region.binds .any e) = true):Src ops m E0 prev o t T:=.inr ⟨j,h,h'⟩
def Srcs (ops:List Oper) (m:Nat) (E0:bC) (prev:List (Nat × Ob)) (o:Oper) (Ei:bC):Prop:=∀ t T,cP Ei t = some T → Src ops m E0 prev o t T
theorem Srcs.nil {ops:List Oper} {m:Nat} {E0:bC} {prev:List (Nat × Ob)} {o:Oper}:Srcs ops m E0 prev o []:=fun t T h=>by cases h
theorem Srcs.cons {ops : List Oper} {m : Nat} {E0 Ei : bC} {prev : List (Nat × Ob)} {o : Oper} {t : Nat} {T : Ty} (h : Src ops m E0 prev o t T) (k : Srcs ops m E0 prev o Ei) : Srcs ops m E0 prev o ((t, T) :: Ei) := fun u U hl => by
 rw [bD] at hl
 by_cases e:t = u
 ·subst e; rw [if_pos rfl] at hl; obtain rfl:=Option.some.inj hl; exact h
 ·rw [if_neg e] at hl; exact k u U hl
section
variable {P:Program} {R:dP} {cx:Cx} {n:Nat} {k:List It} {E:bC} {H:Hp}
def Ga : List (Nat × Ob) → Nat → Bool
 | [],_=>false
 | (_,.blk (some p) _ _ _ _) :: r,q=>Nat.beq p q || Ga r q
 | _ :: r,q=>Ga r q
theorem uL {q : Nat} : ∀ {l : List (Nat × Ob)}, Ga l q = false → ∀ {d : Nat} {kp : Bool} {γ : Type} {T : γ → Ty} {A : γ → SA}, (d, Ob.blk (some q) kp γ T A) ∈ l → False
 | [],_,_,_,_,_,_,h=>by cases h
 | (d', b) :: r, hu, d, kp, γ, T, A, h => by
  rcases List.mem_cons.1 h with e | e
  ·cases e
   simp [Ga,Nat.beq_refl] at hu
  ·refine uL (l := r) ?_ e
   cases b with
   | val T=>exact hu
   | dep t u F I=>exact hu
   | blk src kp' γ' T' A' =>
    cases src with
    | none=>exact hu
    | some p=>simp [Ga] at hu; exact hu.2
def Qs : Ob → Ty → Prop
 | .val T0,T=>T = T0
 | .blk _ _ _ T0 _,T=>∃ x,T = T0 x
 | .dep _ _ _ I,T=>I T
def rK (P : Program) (n : Nat) (ops : List Oper) (m : Nat) (E0 : bC) (H : Hp) (prev : List (Nat × Ob)) (o : Oper) : Ob → Prop
 | .val T=>∃ Ei,Srcs ops m E0 prev o Ei ∧ eM P n ops.toArray Ei H o T
 | .blk none _ γ T A=>o.guard = none ∧ ∃ Ei,Srcs ops m E0 prev o Ei ∧ fL P n Ei H o γ T A
 | .blk (some q) _ γ T A=>o.guard = none ∧ ∃ Ei t src γq Tq Aq,prev.reverse[q]? = some (t,.blk src false γq Tq Aq) ∧ (o.after.toList.any fun e=>Nat.beq e.on q && Region.binds .any e) = true ∧ Srcs ops m E0 prev o Ei ∧ (∀ x,xS P n ((t,Tq x) :: Ei) (Aq x) o γ T A) ∧ Ga prev q = false
 | .dep t u F I => ∃ j b j' b', prev.reverse[j]? = some (t, b) ∧ (o.after.toList.any fun e => Nat.beq e.on j && Region.binds .any e) = true ∧ prev.reverse[j']? = some (u, b') ∧ (o.after.toList.any fun e => Nat.beq e.on j' && Region.binds .any e) = true ∧
   ∀ T U,Qs b T → Qs b' U → eM P n ops.toArray [(t,T),(u,U)] H o (F T U) ∧ I (F T U)
def iS (P : Program) (n : Nat) (ops : List Oper) (m : Nat) (E0 : bC) (H : Hp) : List (Nat × Ob) → Prop
 | []=>True
 | (d,b) :: prev=>(∃ o,ops[prev.length]? = some o ∧ o.dst = some d ∧ d < n ∧ rK P n ops m E0 H prev o b) ∧ iS P n ops m E0 H prev
def Dr (P : Program) (R : dP) (cx : Cx) (n : Nat) (ops : List Oper) (m : Nat) (k : List It) (E0 : bC) (H : Hp) (l : List Oper) (acc : List (Nat × Ob)) : Prop :=
 ops = (ops.take acc.length) ++ l → iS P n ops m E0 H acc → ∀ id,Tr P R cx n (.code (.region id ops.toArray true) :: k) E0 H
def Fin' (P : Program) (R : dP) (cx : Cx) (n : Nat) (ops : Array Oper) (l : List Oper) (k : List It) : List (Nat × Ob) → bC → Hp → Prop
 | [],E,H=>Rg P R cx n ops l k E H
 | (d,.val T) :: r,E,H=>Fin' P R cx n ops l k r ((d,T) :: E) H
 | (d,.blk _ true γ T A) :: r,E,H=>∀ x:γ,Fin' P R cx n ops l k r ((d,T x) :: E) (H ++ [A x])
 | (d,.blk _ false γ T A) :: r,E,H=>∀ x:γ,Fin' P R cx n ops l k r ((d,T x) :: E) H
 | (d,.dep t u F _) :: r,E,H=>∀ T U,cP E t = some T → cP E u = some U → Fin' P R cx n ops l k r ((d,F T U) :: E) H
theorem D_start {ops:List Oper} {m:Nat} {id:Nat} (h:Dr P R cx n ops m k E H ops []):Tr P R cx n (.code (.region id ops.toArray true) :: k) E H:=h (by simp) trivial id
theorem D_step {ops l : List Oper} {m : Nat} {o : Oper} {acc : List (Nat × Ob)} {d : Nat} {T : Ty} {Ei : bC} (hd : o.dst = some d) (hn : Nat.blt d n = true) (hs : Srcs ops m E acc o Ei) (hst : eM P n ops.toArray Ei H o T)
  (h:Dr P R cx n ops m k E H l ((d,.val T) :: acc)):Dr P R cx n ops m k E H (o :: l) acc:=fun hops hobs=>by
 have hlen : acc.length ≤ ops.length := by
  have:=congrArg List.length hops
  simp at this; omega
 have ho : ops[acc.length]? = some o := by
  rw [hops,List.getElem?_append_right (by simp; omega)]
  simp [Nat.min_eq_left hlen]
 have hlt:acc.length < ops.length:=(List.getElem?_eq_some_iff.1 ho).1
 refine h ?_ ⟨⟨o,ho,hd,Nat.le_of_ble_eq_true hn,Ei,hs,hst⟩,hobs⟩
 rw [List.length_cons,List.take_succ_eq_append_getElem hlt]
 have:ops[acc.length] = o:=by simpa [hlt] using ho
 rw [this]
 simpa using hops
theorem Qq (kp : Bool) {ops l : List Oper} {m : Nat} {o : Oper} {acc : List (Nat × Ob)} {d : Nat} {γ : Type} {T : γ → Ty} {A : γ → SA} {Ei : bC} (hg : o.guard = none) (hd : o.dst = some d) (hn : Nat.blt d n = true) (hs : Srcs ops m E acc o Ei) (hst : fL P n Ei H o γ T A)
  (h:Dr P R cx n ops m k E H l ((d,.blk none kp γ T A) :: acc)):Dr P R cx n ops m k E H (o :: l) acc:=fun hops hobs=>by
 have hlen : acc.length ≤ ops.length := by
  have:=congrArg List.length hops
  simp at this; omega
 have ho : ops[acc.length]? = some o := by
  rw [hops,List.getElem?_append_right (by simp; omega)]
  simp [Nat.min_eq_left hlen]
 have hlt:acc.length < ops.length:=(List.getElem?_eq_some_iff.1 ho).1
 refine h ?_ ⟨⟨o,ho,hd,Nat.le_of_ble_eq_true hn,hg,Ei,hs,hst⟩,hobs⟩
 rw [List.length_cons,List.take_succ_eq_append_getElem hlt]
 have:ops[acc.length] = o:=by simpa [hlt] using ho
 rw [this]
 simpa using hops
theorem D_new {ops l : List Oper} {m : Nat} {o : Oper} {acc : List (Nat × Ob)} {d : Nat} {γ : Type} {T : γ → Ty} {A : γ → SA} {Ei : bC} (hg : o.guard = none) (hd : o.dst = some d) (hn : Nat.blt d n = true) (hs : Srcs ops m E acc o Ei) (hst : fL P n Ei H o γ T A)
  (h:Dr P R cx n ops m k E H l ((d,.blk none true γ T A) :: acc)):Dr P R cx n ops m k E H (o :: l) acc:=Qq true hg hd hn hs hst h
def fO : Ob → Ty × SA → Prop
 | .val T,c=>c = (T,SA.emp)
 | .blk _ kp γ T A,c=>∃ x:γ,c.1 = T x ∧ (kp = true → c.2 = A x)
 | .dep _ _ _ I,c=>c.2 = SA.emp ∧ I c.1
theorem fO.fits : ∀ {b : Ob} {c : Ty × SA}, fO b c → Qs b c.1
 | .val T,c,h=>by rw [show c = (T,SA.emp) from h]; rfl
 | .blk _ _ _ _ _,c,h=>by obtain ⟨x,h1,_⟩:=h; exact ⟨x,h1⟩
 | .dep _ _ _ _,_,h=>h.2
theorem iS.get {ops : List Oper} {m : Nat} : ∀ {acc : List (Nat × Ob)}, iS P n ops m E H acc → ∀ {i : Nat} {d : Nat} {b : Ob}, acc.reverse[i]? = some (d, b) →
  ∃ o,ops[i]? = some o ∧ o.dst = some d ∧ d < n ∧ rK P n ops m E H ((acc.reverse.take i).reverse) o b
 | [],_,i,d,b,h=>by simp at h
 | (d', b') :: prev, ⟨⟨o, h1, h2, h3, h4⟩, hp⟩, i, d, b, h => by
  rw [List.reverse_cons] at h
  by_cases e:i < prev.reverse.length
  ·rw [List.getElem?_append_left e] at h
   obtain ⟨o',q1,q2,q3,q4⟩:=hp.get h
   refine ⟨o',q1,q2,q3,?_⟩
   rw [List.reverse_cons,List.take_append_of_le_length (by omega)]; exact q4
  ·have hi : i = prev.length := by
    have:=(List.getElem?_eq_some_iff.1 h).1
    simp at this e; omega
   subst hi
   rw [List.getElem?_append_right (by simp)] at h
   simp at h
   obtain ⟨rfl,rfl⟩:=h
   refine ⟨o,h1,h2,h3,?_⟩
   rw [List.reverse_cons,List.take_append_of_le_length (by simp),List.take_of_length_le (by simp),List.reverse_reverse]
   exact h4
theorem iS.len {ops : List Oper} {m : Nat} : ∀ {acc : List (Nat × Ob)}, iS P n ops m E H acc → ∀ i (h : i < acc.length), ∃ d b, acc.reverse[i]? = some (d, b) := fun {acc} _ i h =>
 ⟨_,_,by rw [List.getElem?_eq_getElem (by simpa using h)]⟩
def Uc (r : List (Nat × Ob)) (E : bC) (C : Nat → Ty × SA) (i0 i t : Nat) (T : Ty) : Prop :=
 (∃ q b,q < i ∧ r[q]? = some (t,b) ∧ T = (C (i0 + q)).1 ∧ ∀ q' d' b',q < q' → q' < i → r[q']? = some (d',b') → d' ≠ t) ∨ (cP E t = some T ∧ ∀ q' d' b',q' < i → r[q']? = some (d',b') → d' ≠ t)
theorem Uc.next {r:List (Nat × Ob)} {d0:Nat} {b0:Ob} {E:bC} {C:Nat → Ty × SA} {i0 i t:Nat} {T:Ty} (h:Uc ((d0,b0) :: r) E C i0 (i + 1) t T):Uc r ((d0,(C i0).1) :: E) C (i0 + 1) i t T:=by
 rcases h with ⟨q,b,h1,h2,h3,h4⟩ | ⟨h1,h2⟩
 ·cases q with
  | zero =>
   simp at h2
   obtain ⟨rfl,rfl⟩:=h2
   right
   refine ⟨?_,fun q' d' b' hq hr=>h4 (q' + 1) d' b' (by omega) (by omega) (by simpa using hr)⟩
   rw [bD,if_pos rfl,h3,Nat.add_zero]
  | succ q =>
   left
   refine ⟨q,b,by omega,by simpa using h2,?_,fun q' d' b' hq hq2 hr=>h4 (q' + 1) d' b' (by omega) (by omega) (by simpa using hr)⟩
   rw [h3,show i0 + (q + 1) = i0 + 1 + q by omega]
 ·right
  have h0:d0 ≠ t:=h2 0 d0 b0 (by omega) rfl
  refine ⟨?_,fun q' d' b' hq hr=>h2 (q' + 1) d' b' (by omega) (by simpa using hr)⟩
  rw [bD,if_neg h0,h1]
def Qr (r:List (Nat × Ob)) (E:bC) (C:Nat → Ty × SA) (i0:Nat):Prop:=∀ (i d t u:Nat) (F:Ty → Ty → Ty) (I:Ty → Prop),r[i]? = some (d,.dep t u F I) → ∃ T U,(C (i0 + i)).1 = F T U ∧ Uc r E C i0 i t T ∧ Uc r E C i0 i u U
theorem sN {r : List (Nat × Ob)} {d0 : Nat} {b0 : Ob} {E : bC} {C : Nat → Ty × SA} {i0 : Nat} (hG : Qr ((d0, b0) :: r) E C i0) : Qr r ((d0, (C i0).1) :: E) C (i0 + 1) := fun i d t u F I h => by
 obtain ⟨T,U,h1,h2,h3⟩:=hG (i + 1) d t u F I (by simpa using h)
 exact ⟨T,U,by rw [← h1,show i0 + (i + 1) = i0 + 1 + i by omega],h2.next,h3.next⟩
theorem eT {ops : List Oper} {l : List Oper} : ∀ (r : List (Nat × Ob)) (E : bC) (H : Hp), Fin' P R cx n ops.toArray l k r E H → ∀ (C : Nat → Ty × SA) (i0 : Nat), (∀ (i d : Nat) (b : Ob), r[i]? = some (d, b) → fO b (C (i0 + i))) → Qr r E C i0 →
  ∃ E' H', Rg P R cx n ops.toArray l k E' H' ∧ (∀ t T, cP E' t = some T → (cP E t = some T ∧ ∀ (i d : Nat) (b : Ob), r[i]? = some (d, b) → d ≠ t) ∨ ∃ (i d : Nat) (b : Ob), r[i]? = some (d, b) ∧ d = t ∧ T = (C (i0 + i)).1) ∧
   List.Sublist H' (H ++ (List.range r.length).map fun i=>(C (i0 + i)).2)
 | [],E,H,h,_,_,_,_=>⟨E,H,h,fun t T hT=>.inl ⟨hT,fun i d b hb=>by simp at hb⟩,by simp⟩
 | (d, .val T0) :: r, E, H, h, C, i0, hC, hG => by
  have h0':(C i0).1 = T0:=by rw [show C i0 = (T0,SA.emp) from hC 0 d (.val T0) rfl]
  obtain ⟨E',H',h1,h2,h3⟩:=eT r _ H h C (i0 + 1) (fun i d b hb=>by have:=hC (i + 1) d b (by simpa using hb); rwa [show i0 + (i + 1) = i0 + 1 + i by omega] at this) (by rw [← h0']; exact sN hG)
  have h0:C i0 = (T0,SA.emp):=hC 0 d (.val T0) rfl
  refine ⟨E',H',h1,fun t T hT=>?_,h3.trans ?_⟩
  ·rcases h2 t T hT with ⟨q1, q2⟩ | ⟨i, d', b, q1, q2, q3⟩
   ·rw [bD] at q1
    by_cases e:d = t
    ·rw [if_pos e] at q1; obtain rfl := Option.some.inj q1
     exact .inr ⟨0,d,_,rfl,e,by rw [Nat.add_zero,h0]⟩
    ·rw [if_neg e] at q1
     refine .inl ⟨q1,fun i d' b hb=>?_⟩
     cases i with
     | zero=>simp at hb; exact hb.1 ▸ e
     | succ i=>exact q2 i d' b (by simpa using hb)
   ·exact .inr ⟨i + 1,d',b,by simpa using q1,q2,by rw [q3,show i0 + (i + 1) = i0 + 1 + i by omega]⟩
  ·simp only [List.length_cons, List.range_succ_eq_map, List.map_cons, List.map_map]
   refine List.Sublist.append (List.Sublist.refl H) ?_
   refine List.Sublist.cons _ ?_
   have : (fun i => (C (i0 + 1 + i)).2) = ((fun i => (C (i0 + i)).2) ∘ Nat.succ) := by
    funext i; simp [show i0 + (i + 1) = i0 + 1 + i by omega]
   rw [this]; exact List.Sublist.refl _
 | (d, .dep t0 u0 F0 I0) :: r, E, H, h, C, i0, hC, hG => by
  obtain ⟨T0,U0,hF,hA,hB⟩:=hG 0 d t0 u0 F0 I0 rfl
  rw [Nat.add_zero] at hF
  have hl0 : cP E t0 = some T0 := by
   rcases hA with ⟨q,_,hq,_⟩ | ⟨h1,_⟩
   ·omega
   ·exact h1
  have hl1 : cP E u0 = some U0 := by
   rcases hB with ⟨q,_,hq,_⟩ | ⟨h1,_⟩
   ·omega
   ·exact h1
  obtain ⟨E',H',h1,h2,h3⟩:=eT r _ H (h _ _ hl0 hl1) C (i0 + 1) (fun i d b hb=>by have:=hC (i + 1) d b (by simpa using hb); rwa [show i0 + (i + 1) = i0 + 1 + i by omega] at this) (by rw [← hF]; exact sN hG)
  refine ⟨E',H',h1,fun t T hT=>?_,h3.trans ?_⟩
  ·rcases h2 t T hT with ⟨q1, q2⟩ | ⟨i, d', b, q1, q2, q3⟩
   ·rw [bD] at q1
    by_cases e:d = t
    ·rw [if_pos e] at q1; obtain rfl := Option.some.inj q1
     exact .inr ⟨0,d,_,rfl,e,by rw [Nat.add_zero,hF]⟩
    ·rw [if_neg e] at q1
     refine .inl ⟨q1,fun i d' b hb=>?_⟩
     cases i with
     | zero=>simp at hb; exact hb.1 ▸ e
     | succ i=>exact q2 i d' b (by simpa using hb)
   ·exact .inr ⟨i + 1,d',b,by simpa using q1,q2,by rw [q3,show i0 + (i + 1) = i0 + 1 + i by omega]⟩
  ·simp only [List.length_cons, List.range_succ_eq_map, List.map_cons, List.map_map]
   refine List.Sublist.append (List.Sublist.refl H) ?_
   refine List.Sublist.cons _ ?_
   have : (fun i => (C (i0 + 1 + i)).2) = ((fun i => (C (i0 + i)).2) ∘ Nat.succ) := by
    funext i; simp [show i0 + (i + 1) = i0 + 1 + i by omega]
   rw [this]; exact List.Sublist.refl _
 | (d, .blk src0 true γ T0 A0) :: r, E, H, h, C, i0, hC, hG => by
  obtain ⟨x, h0⟩ : ∃ x : γ, C i0 = (T0 x, A0 x) := by
   obtain ⟨x,q1,q2⟩:=hC 0 d (.blk src0 true γ T0 A0) rfl
   exact ⟨x,Prod.ext q1 (q2 rfl)⟩
  obtain ⟨E',H',h1,h2,h3⟩:=eT r _ _ (h x) C (i0 + 1) (fun i d b hb=>by have:=hC (i + 1) d b (by simpa using hb); rwa [show i0 + (i + 1) = i0 + 1 + i by omega] at this) (by rw [show T0 x = (C i0).1 by rw [h0]]; exact sN hG)
  refine ⟨E',H',h1,fun t T hT=>?_,h3.trans ?_⟩
  ·rcases h2 t T hT with ⟨q1, q2⟩ | ⟨i, d', b, q1, q2, q3⟩
   ·rw [bD] at q1
    by_cases e:d = t
    ·rw [if_pos e] at q1; obtain rfl := Option.some.inj q1
     exact .inr ⟨0,d,_,rfl,e,by rw [Nat.add_zero,h0]⟩
    ·rw [if_neg e] at q1
     refine .inl ⟨q1,fun i d' b hb=>?_⟩
     cases i with
     | zero=>simp at hb; exact hb.1 ▸ e
     | succ i=>exact q2 i d' b (by simpa using hb)
   ·exact .inr ⟨i + 1,d',b,by simpa using q1,q2,by rw [q3,show i0 + (i + 1) = i0 + 1 + i by omega]⟩
  ·simp only [List.length_cons, List.range_succ_eq_map, List.map_cons, List.map_map, List.append_assoc]
   refine List.Sublist.append (List.Sublist.refl H) ?_
   have : (fun i => (C (i0 + 1 + i)).2) = ((fun i => (C (i0 + i)).2) ∘ Nat.succ) := by
    funext i; simp [show i0 + (i + 1) = i0 + 1 + i by omega]
   rw [this]
   simp only [Nat.add_zero,h0]
   exact List.Sublist.refl _
 | (d, .blk src0 false γ T0 A0) :: r, E, H, h, C, i0, hC, hG => by
  obtain ⟨x,h0,_⟩:∃ x:γ,(C i0).1 = T0 x ∧ (false = true → (C i0).2 = A0 x):=hC 0 d (.blk src0 false γ T0 A0) rfl
  obtain ⟨E',H',h1,h2,h3⟩:=eT r _ H (h x) C (i0 + 1) (fun i d b hb=>by have:=hC (i + 1) d b (by simpa using hb); rwa [show i0 + (i + 1) = i0 + 1 + i by omega] at this) (by rw [← h0]; exact sN hG)
  refine ⟨E',H',h1,fun t T hT=>?_,h3.trans ?_⟩
  ·rcases h2 t T hT with ⟨q1, q2⟩ | ⟨i, d', b, q1, q2, q3⟩
   ·rw [bD] at q1
    by_cases e:d = t
    ·rw [if_pos e] at q1; obtain rfl := Option.some.inj q1
     exact .inr ⟨0,d,_,rfl,e,by rw [Nat.add_zero,h0]⟩
    ·rw [if_neg e] at q1
     refine .inl ⟨q1,fun i d' b hb=>?_⟩
     cases i with
     | zero=>simp at hb; exact hb.1 ▸ e
     | succ i=>exact q2 i d' b (by simpa using hb)
   ·exact .inr ⟨i + 1,d',b,by simpa using q1,q2,by rw [q3,show i0 + (i + 1) = i0 + 1 + i by omega]⟩
  ·simp only [List.length_cons, List.range_succ_eq_map, List.map_cons, List.map_map]
   refine List.Sublist.append (List.Sublist.refl H) ?_
   refine List.Sublist.cons _ ?_
   have : (fun i => (C (i0 + 1 + i)).2) = ((fun i => (C (i0 + i)).2) ∘ Nat.succ) := by
    funext i; simp [show i0 + (i + 1) = i0 + 1 + i by omega]
   rw [this]; exact List.Sublist.refl _
theorem iS.dst {ops:List Oper} {m:Nat} {acc:List (Nat × Ob)} (h:iS P n ops m E H acc) {i d:Nat} {b:Ob} (hi:acc.reverse[i]? = some (d,b)):cF ops i = some d:=by
 obtain ⟨o,h1,h2,_⟩:=h.get hi
 simp [cF,h1,h2]
theorem mC {ops : List Oper} {m : Nat} {acc : List (Nat × Ob)} {E0 : bC} (hd : Ah ops m) (hlen : acc.length = m) (hobs : iS P n ops m E0 H acc) (hfin : Fin' P R cx n ops.toArray (ops.drop m) k acc.reverse E0 H)
  {L:Nat → Bool} {a:Act} {w:World} {V:aD} {C:Nat → Ty × SA} (hall:∀ i,i < m → L i = true) (hC:∀ (i d:Nat) (b:Ob),acc.reverse[i]? = some (d,b) → fO b (C i)) (hP:∀ (i d t u:Nat) (F:Ty → Ty → Ty) (I:Ty → Prop),acc.reverse[i]? = some (d,.dep t u F I) → ∃ q b q' b',(q < i ∧ acc.reverse[q]? = some (t,b)) ∧ (q' < i ∧ acc.reverse[q']? = some (u,b')) ∧ (C i).1 = F (C q).1 (C q').1) (hM:oX cx n ops m E0 H L C V a w) :
  wpList P ops.toArray (den P R k) (ops.drop m) a w:=by
 obtain ⟨E', H', h1, h2, h3⟩ := eT acc.reverse E0 H hfin C 0 (fun i d b hb => by rw [Nat.zero_add]; exact hC i d b hb) (fun i d t u F I ht => by
  obtain ⟨q,b,q',b',⟨q1,q2⟩,⟨p1,p2⟩,q3⟩:=hP i d t u F I ht
  have hi:=(List.getElem?_eq_some_iff.1 ht).1
  rw [List.length_reverse,hlen] at hi
  refine ⟨(C q).1,(C q').1,by rw [Nat.zero_add]; exact q3,.inl ⟨q,b,q1,q2,by rw [Nat.zero_add],fun z d' b' h1 h2 h3 e=>?_⟩,.inl ⟨q',b',p1,p2,by rw [Nat.zero_add],fun z d' b' h1 h2 h3 e=>?_⟩⟩
  ·subst e; exact hd.dst z q (by omega) h1 _ (hobs.dst h3) (hobs.dst q2)
  ·subst e; exact hd.dst z q' (by omega) h1 _ (hobs.dst h3) (hobs.dst p2))
 refine h1 a w ⟨V,hM.inv.hp_of (fun hh=>?_),hM.df,hM.sz,fun t T hT=>?_⟩
 ·refine HH.sublist (h3.trans ?_) hh
  rw [List.length_reverse,hlen]
  have : (List.range m).map (fun i => (C (0 + i)).2) = (List.range m).map fun i => if L i then (C i).2 else SA.emp := by
   apply List.map_congr_left
   intro i hi
   rw [hall i (List.mem_range.1 hi)]; simp
  rw [this]; exact List.Sublist.refl _
 ·rcases h2 t T hT with ⟨q1, q2⟩ | ⟨i, d, b, q1, q2, q3⟩
  ·refine hM.old t T q1 (fun j hj => ?_)
   obtain ⟨d,b,hb⟩:=iS.len hobs j (by omega)
   rw [hobs.dst hb]
   intro e; exact q2 j d b hb (Option.some.inj e)
  ·have hi : i < m := by have := (List.getElem?_eq_some_iff.1 q1).1; simpa [hlen] using this
   subst q2; rw [q3,Nat.zero_add]
   exact hM.now i d hi (hall i hi) (hobs.dst q1)
theorem jA {ops : List Oper} {m : Nat} {acc : List (Nat × Ob)} {E0 : bC} (hd : Ah ops m) (hlen : acc.length = m) (hobs : iS P n ops m E0 H acc) (hfin : Fin' P R cx n ops.toArray (ops.drop m) k acc.reverse E0 H) :
  ∀ (fuel : Nat) (listed : Array Bool) (a : Act) (w : World) (V : aD) (C : Nat → Ty × SA), LI ops listed → fC listed.toList ≤ fuel → (∀ i : Nat, m ≤ i → i < ops.length → listed[i]? = some false) →
   (∀ (i d:Nat) (b:Ob),acc.reverse[i]? = some (d,b) → listed[i]? = some true → fO b (C i)) → (∀ (i d t u:Nat) (F:Ty → Ty → Ty) (I:Ty → Prop),acc.reverse[i]? = some (d,.dep t u F I) → listed[i]? = some true → ∃ q b q' b',(q < i ∧ acc.reverse[q]? = some (t,b) ∧ listed[q]? = some true) ∧ (q' < i ∧ acc.reverse[q']? = some (u,b') ∧ listed[q']? = some true) ∧ (C i).1 = F (C q).1 (C q').1) → (∀ (i d:Nat) (src:Option Nat) (γ:Type) (T:γ → Ty) (A:γ → SA),acc.reverse[i]? = some (d,.blk src false γ T A) → listed[i]? = some true → (∀ (j d':Nat) (kp:Bool) (γ':Type) (T':γ' → Ty) (A':γ' → SA),acc.reverse[j]? = some (d',.blk (some i) kp γ' T' A') → listed[j]? = some false) → ∃ x:γ,C i = (T x,A x)) → oX cx n ops m E0 H (fun i=>listed[i]? == some true) C V a w → wpAny P .any ops.toArray (den P R k) fuel listed a w:=by
 intro fuel
 have done : ∀ (listed : Array Bool) (a : Act) (w : World) (V : aD) (C : Nat → Ty × SA), LI ops listed → ∀ fuel, fC listed.toList ≤ fuel → (∀ i : Nat, m ≤ i → i < ops.length → listed[i]? = some false) →
   (∀ (i d:Nat) (b:Ob),acc.reverse[i]? = some (d,b) → listed[i]? = some true → fO b (C i)) → (∀ (i d t u:Nat) (F:Ty → Ty → Ty) (I:Ty → Prop),acc.reverse[i]? = some (d,.dep t u F I) → listed[i]? = some true → ∃ q b q' b',(q < i ∧ acc.reverse[q]? = some (t,b) ∧ listed[q]? = some true) ∧ (q' < i ∧ acc.reverse[q']? = some (u,b') ∧ listed[q']? = some true) ∧ (C i).1 = F (C q).1 (C q').1) → oX cx n ops m E0 H (fun i=>listed[i]? == some true) C V a w → (∀ i:Nat,i < m → listed[i]? = some true) → wpAny P .any ops.toArray (den P R k) fuel listed a w:=by
  intro listed a w V C hL fuel hc hl hC hP hM hall
  have hge:=sH listed.toList m (by simpa [hL.sz] using hd.le) (fun i h1 h2=>by simpa using hl i h1 (by simpa [hL.sz] using h2))
  refine lS hd fuel m listed a w (Nat.le_refl m) hd.le (by simp [hL.sz] at hge; omega) hL (fun i hi=>?_) ?_
  ·by_cases e : i < m
   ·rw [hall i e]; simp [e]
   ·rw [hl i (by omega) hi]; simp; omega
  ·refine mC hd hlen hobs hfin (fun i hi => by rw [hall i hi]; rfl) (fun i d b hb => hC i d b hb (hall i ?_)) (fun i d t u F I ht => by
    obtain ⟨q,b,q',b',⟨q1,q2,_⟩,⟨p1,p2,_⟩,q3⟩:=hP i d t u F I ht (hall i (by have:=(List.getElem?_eq_some_iff.1 ht).1; simpa [hlen] using this))
    exact ⟨q,b,q',b',⟨q1,q2⟩,⟨p1,p2⟩,q3⟩) hM
   have:=(List.getElem?_eq_some_iff.1 hb).1
   simpa [hlen] using this
 induction fuel with
 | zero =>
  intro listed a w V C hL hc hl hC hP hA hM
  refine done listed a w V C hL 0 hc hl hC hP hM (fun i hi=>?_)
  have hil:i < listed.size:=by rw [hL.sz]; have:=hd.le; omega
  cases hb:listed[i] with
  | true=>simp [hil,hb]
  | false =>
   have:=mP listed.toList i (by simp [hil,hb])
   omega
 | succ fuel ih =>
  intro listed a w V C hL hc hl hC hP hA hM
  by_cases hall:∀ i:Nat,i < m → listed[i]? = some true
  ·exact done listed a w V C hL _ hc hl hC hP hM hall
  refine ⟨fun hr=>absurd (fun i hi=>lO hr hL.sz hd.back i (by have:=hd.le; omega)) hall,fun i hi=>?_⟩
  obtain ⟨o,h1,h2,h3⟩:=jS hi hL.sz
  have him : i < m := by
   rcases Nat.lt_or_ge i m with hx | hx
   ·exact hx
   ·exact absurd (fun j hj=>hL.before hd h1 h3 hx j (by omega)) hall
  obtain ⟨d,b,hb⟩:=iS.len hobs i (by omega)
  obtain ⟨o',q1,q2,q3,q4⟩:=hobs.get hb
  rw [h1] at q1; obtain rfl:=Option.some.inj q1
  have hdst:=hobs.dst hb
  have slots : ∀ Ei, Srcs ops m E0 (acc.reverse.take i).reverse o Ei → bR n Ei V a := fun Ei hS => by
   refine ⟨hM.df,hM.sz,fun t T hT=>?_⟩
   rcases hS t T hT with ⟨r1,r2⟩ | ⟨j,r1,r2⟩
   ·refine hM.old t T r1 (fun j hj e => ?_)
    have:=List.all_eq_true.1 r2 j (List.mem_range.2 hj)
    simp [e] at this
   ·rw [List.reverse_reverse, List.getElem?_take] at r1
    split at r1
    case isFalse=>cases r1
    case isTrue hji =>
    obtain ⟨e,he,hb'⟩:=List.any_eq_true.1 r2
    simp only [Bool.and_eq_true] at hb'
    have hon:e.on = j:=Nat.eq_of_beq_eq_true hb'.1
    have hlj:=h3 e he hb'.2
    rw [hon] at hlj
    have hc':C j = (T,SA.emp):=hC j t (.val T) r1 hlj
    obtain ⟨v,s1,s2⟩:=hM.now j t (by omega) (by rw [hlj]; rfl) (hobs.dst r1)
    exact ⟨v,s1,by rw [hc'] at s2; exact s2⟩
  have hcnt : fC (listed.setIfInBounds i true).toList ≤ fuel := by
   have:=mQ listed.toList i (by simpa using h2)
   rw [Array.toList_setIfInBounds]; omega
  have hl' : ∀ j : Nat, m ≤ j → j < ops.length → (listed.setIfInBounds i true)[j]? = some false := fun j hj hjl => by
   rw [Array.getElem?_setIfInBounds_ne (by omega)]; exact hl j hj hjl
  have took : ∀ (C : Nat → Ty × SA), (∀ (i d : Nat) (b : Ob), acc.reverse[i]? = some (d, b) → listed[i]? = some true → fO b (C i)) → ∀ (T : Ty) (A : SA), fO b (T, A) → ∀ (j d : Nat) (b : Ob), acc.reverse[j]? = some (d, b) → (listed.setIfInBounds i true)[j]? = some true → fO b (if j = i then (T, A) else C j) := fun C hC T A ht j d' b' hb' hj => by
   by_cases e:j = i
   ·subst e
    rw [hb] at hb'; simp at hb'
    simp only [if_pos]; exact hb'.2 ▸ ht
   ·rw [Array.getElem?_setIfInBounds_ne (fun x => e x.symm)] at hj
    simp only [if_neg e]; exact hC j d' b' hb' hj
  have keepP : ∀ (C : Nat → Ty × SA), (∀ (i d t u : Nat) (F : Ty → Ty → Ty) (I : Ty → Prop), acc.reverse[i]? = some (d, .dep t u F I) → listed[i]? = some true → ∃ q b q' b', (q < i ∧ acc.reverse[q]? = some (t, b) ∧ listed[q]? = some true) ∧ (q' < i ∧ acc.reverse[q']? = some (u, b') ∧ listed[q']? = some true) ∧ (C i).1 = F (C q).1 (C q').1) → ∀ (T : Ty) (A : SA), (∀ t u F I, b = .dep t u F I → ∃ q b' q' b'', (q < i ∧ acc.reverse[q]? = some (t, b') ∧ listed[q]? = some true) ∧ (q' < i ∧ acc.reverse[q']? = some (u, b'') ∧ listed[q']? = some true) ∧ T = F (C q).1 (C q').1) →
    ∀ (j d t u:Nat) (F:Ty → Ty → Ty) (I:Ty → Prop),acc.reverse[j]? = some (d,.dep t u F I) → (listed.setIfInBounds i true)[j]? = some true → ∃ q b q' b',(q < j ∧ acc.reverse[q]? = some (t,b) ∧ (listed.setIfInBounds i true)[q]? = some true) ∧ (q' < j ∧ acc.reverse[q']? = some (u,b') ∧ (listed.setIfInBounds i true)[q']? = some true) ∧ (if j = i then (T,A) else C j).1 = F (if q = i then (T,A) else C q).1 (if q' = i then (T,A) else C q').1:=fun C hP T A hT j d' t u F I hj hlj=>by
   have nei:∀ q,listed[q]? = some true → q ≠ i:=fun q h e=>by rw [e,h2] at h; cases h
   have up:∀ q,listed[q]? = some true → (listed.setIfInBounds i true)[q]? = some true:=fun q h=>by rw [Array.getElem?_setIfInBounds_ne (fun x=>nei q h x.symm)]; exact h
   by_cases e:j = i
   ·subst e
    rw [hb] at hj; simp at hj
    obtain ⟨q,b',q',b'',⟨e1,e2,e3⟩,⟨g1,g2,g3⟩,e4⟩:=hT t u F I hj.2
    exact ⟨q,b',q',b'',⟨e1,e2,up q e3⟩,⟨g1,g2,up q' g3⟩,by rw [if_pos rfl,if_neg (nei q e3),if_neg (nei q' g3)]; exact e4⟩
   ·rw [Array.getElem?_setIfInBounds_ne (fun x => e x.symm)] at hlj
    obtain ⟨q,b',q',b'',⟨e1,e2,e3⟩,⟨g1,g2,g3⟩,e4⟩:=hP j d' t u F I hj hlj
    exact ⟨q,b',q',b'',⟨e1,e2,up q e3⟩,⟨g1,g2,up q' g3⟩,by rw [if_neg e,if_neg (nei q e3),if_neg (nei q' g3)]; exact e4⟩
  have keepA : ∀ (C' : Nat → Ty × SA), (∀ j, j ≠ i → (∀ (d' : Nat) (kp : Bool) (γ' : Type) (T' : γ' → Ty) (A' : γ' → SA), acc.reverse[i]? = some (d', .blk (some j) kp γ' T' A') → False) → C' j = C j) → ∀ (T : Ty) (A : SA), (∀ src γ T' A', b = .blk src false γ T' A' → ∃ x, (T, A) = (T' x, A' x)) →
    ∀ (j d:Nat) (src:Option Nat) (γ:Type) (T':γ → Ty) (A':γ → SA),acc.reverse[j]? = some (d,.blk src false γ T' A') → (listed.setIfInBounds i true)[j]? = some true → (∀ (j' d':Nat) (kp:Bool) (γ':Type) (T':γ' → Ty) (A':γ' → SA),acc.reverse[j']? = some (d',.blk (some j) kp γ' T' A') → (listed.setIfInBounds i true)[j']? = some false) → ∃ x:γ,(if j = i then (T,A) else C' j) = (T' x,A' x):=fun C' hC' T A hT j d' src γ T' A' hj hlj hun=>by
   by_cases e:j = i
   ·subst e
    rw [hb] at hj; simp at hj
    simp only [if_pos]; exact hT src γ T' A' hj.2
   ·rw [Array.getElem?_setIfInBounds_ne (fun x => e x.symm)] at hlj
    have hil:i < listed.size:=(Array.getElem?_eq_some_iff.1 h2).1
    have hne : ∀ (j' d' : Nat) (kp : Bool) (γ' : Type) (T' : γ' → Ty) (A' : γ' → SA), acc.reverse[j']? = some (d', .blk (some j) kp γ' T' A') → j' ≠ i := fun j' d' kp γ' T' A' q1 q2 => by
     have:=hun j' d' kp γ' T' A' q1
     rw [q2,Array.getElem?_setIfInBounds_self_of_lt hil] at this
     cases this
    rw [if_neg e,hC' j e (fun d' kp γ' T' A' q=>hne i d' kp γ' T' A' q rfl)]
    refine hA j d' src γ T' A' hj hlj (fun j' d' kp γ' T' A' q=>?_)
    have:=hun j' d' kp γ' T' A' q
    rwa [Array.getElem?_setIfInBounds_ne (fun x=>hne j' d' kp γ' T' A' q x.symm)] at this
  have hx : ((List.range m).map fun i => if (listed[i]? == some true) = true then (C i).2 else SA.emp).set i SA.emp = (List.range m).map fun i => if (listed[i]? == some true) = true then (C i).2 else SA.emp := by
   rw [jM him]
   apply List.map_congr_left
   intro j _
   by_cases e:j = i
   ·subst e; simp [h2]
   ·simp [e]
  unfold wpOp
  simp only [List.getElem?_toArray,h1]
  cases b with
  | val T =>
   obtain ⟨Ei,hS,hst⟩:=q4
   have := hst cx _ a w V hM.inv (slots Ei hS) (wpAny P .any ops.toArray (den P R k) fuel (listed.setIfInBounds i true)) (den P R k) (fun v w' V' hi' hle hv => by
    rw [q2]
    exact ih _ _ _ V' _ (hL.set h1 h3) hcnt hl' (took C hC T SA.emp rfl) (keepP C hP T SA.emp (fun t u F I e=>by cases e)) (keepA C (fun _ _ _=>rfl) T SA.emp (fun src γ T' A' e=>by cases e)) (hM.next hd hL.sz him hdst q3 h2 hv hle (by rw [hx]; exact hi')))
   split
   ·rename_i hw; rw [if_pos hw] at this; exact .inl this
   ·rename_i hw; rw [if_neg hw] at this; exact this
  | blk src kp γ T A =>
   cases src with
   | none =>
    obtain ⟨hg,Ei,hS,hst⟩:=q4
    rw [if_pos (by simp [Region.wanted,hg])]
    left
    refine hst cx _ a w V hM.inv (slots Ei hS) _ _ fun x v w' V' e3 hle e2=>?_
    rw [q2]
    refine ih _ _ _ V' _ (hL.set h1 h3) hcnt hl' (took C hC (T x) (A x) ⟨x,rfl,fun _=>rfl⟩) (keepP C hP (T x) (A x) (fun t u F I e=>by cases e)) (keepA C (fun _ _ _=>rfl) (T x) (A x) (fun src γ T' A' e=>by cases e; exact ⟨x,rfl⟩)) (hM.next hd hL.sz him hdst q3 h2 e2 hle (e3.hp_of (fun hh=>?_)))
    have:=HH.move (p:=H.length + i) hh (by simp; omega)
    rw [List.set_append_right _ _ (by omega),show H.length + i - H.length = i by omega] at this
    exact this
   | some q =>
    obtain ⟨hg,Ei,t,src,γq,Tq,Aq,r1,r2,hS,hst,hu⟩:=q4
    rw [List.reverse_reverse,List.getElem?_take] at r1
    split at r1
    case isFalse=>cases r1
    case isTrue hqi =>
    obtain ⟨e,he,hb'⟩:=List.any_eq_true.1 r2
    simp only [Bool.and_eq_true] at hb'
    have hon:e.on = q:=Nat.eq_of_beq_eq_true hb'.1
    have hlq:=h3 e he hb'.2
    rw [hon] at hlq
    have hqm:q < m:=by omega
    obtain ⟨x, hx⟩ := hA q t src γq Tq Aq r1 hlq (fun j d' kp' γ' T' A' hj => by
     by_cases e:j = i
     ·rw [e]; exact h2
     rcases Nat.lt_or_ge j i with hji | hji
     ·exfalso
      have hmem : (d', Ob.blk (some q) kp' γ' T' A') ∈ (acc.reverse.take i) := by
       refine List.mem_of_getElem? (i:=j) ?_
       rw [List.getElem?_take,if_pos hji]; exact hj
      exact uL hu (by simpa using hmem)
     ·exfalso
      obtain ⟨o',_,_,_,z4⟩:=hobs.get hj
      obtain ⟨_,_,_,_,_,_,_,_,_,_,_,hu'⟩:=z4
      have hmem : (d, Ob.blk (some q) kp γ T A) ∈ (acc.reverse.take j) := by
       refine List.mem_of_getElem? (i:=i) ?_
       rw [List.getElem?_take,if_pos (by omega)]; exact hb
      exact uL hu' (by simpa using hmem))
    have hentry : (H ++ (List.range m).map fun i => if (listed[i]? == some true) = true then (C i).2 else SA.emp)[H.length + q]? = some (Aq x) := by
     rw [List.getElem?_append_right (by omega),show H.length + q - H.length = q by omega,List.getElem?_map,List.getElem?_range hqm]
     simp [hlq,hx]
    obtain ⟨v0,s1,s2⟩:=hM.now q t (by omega) (by rw [hlq]; rfl) (hobs.dst r1)
    rw [hx] at s2
    have hsl : bR n ((t, Tq x) :: Ei) V a := by
     have hs0:=slots Ei hS
     refine ⟨hs0.1,hs0.2.1,fun u U hU=>?_⟩
     rw [bD] at hU
     by_cases e:t = u
     ·rw [if_pos e] at hU; obtain rfl:=Option.some.inj hU; subst e; exact ⟨v0,s1,s2⟩
     ·rw [if_neg e] at hU; exact hs0.2.2 u U hU
    obtain ⟨y,v,w',e1,e2,e3⟩:=Py (hst x) hM.inv hentry hsl
    rw [if_pos (by simp [Region.wanted,hg])]
    left
    simp only [Oper.wp,e1,Oper.upon_value,q2]
    obtain ⟨C1,hC1⟩:∃ C1:Nat → Ty × SA,C1 = fun j=>if j = q then ((C q).1,SA.emp) else C j:=⟨_,rfl⟩
    have hC1t : ∀ j, (C1 j).1 = (C j).1 := fun j => by
     rw [hC1]; by_cases e:j = q
     ·simp [e]
     ·simp [e]
    have hset : ((List.range m).map fun i => if (listed[i]? == some true) = true then (C1 i).2 else SA.emp) = ((List.range m).map fun i => if (listed[i]? == some true) = true then (C i).2 else SA.emp).set q SA.emp := by
     rw [jM hqm]
     apply List.map_congr_left
     intro j _
     by_cases e:j = q
     ·subst e; rw [hC1]; simp
     ·rw [hC1]; simp [e]
    have hM1 : oX cx n ops m E0 H (fun i => listed[i]? == some true) C1 V a w := by
     refine ⟨hM.inv.hp_of (fun hh=>?_),hM.df,hM.sz,hM.old,fun j d hj hL hd=>by rw [hC1t]; exact hM.now j d hj hL hd⟩
     rw [hset]
     have h5:=HH.last hh hentry
     rw [List.set_append_right _ _ (by omega),show H.length + q - H.length = q by omega] at h5
     exact HH.sublist (List.sublist_append_left _ _) h5
    refine ih _ _ _ V _ (hL.set h1 h3) hcnt hl' (took C1 (fun j d' b' hj hlj=>?_) (T y) (A y) ⟨y,rfl,fun _=>rfl⟩) (keepP C1 (fun j d' t' u' F' I' hj hlj=>?_) (T y) (A y) (fun t u F I e=>by cases e)) (keepA C1 (fun j hji hj=>?_) (T y) (A y) (fun src γ T' A' e=>by cases e; exact ⟨y,rfl⟩)) (hM1.next hd hL.sz him hdst q3 h2 e2 (iT.refl V) (e3.hp_of (fun hh=>?_)))
    ·by_cases e : j = q
     ·subst e
      rw [r1] at hj; simp at hj
      obtain ⟨_,rfl⟩:=hj
      exact ⟨x,by rw [hC1t,hx],fun e=>by cases e⟩
     ·have := hC j d' b' hj hlj
      rw [hC1]; simp only [if_neg e]; exact this
    ·obtain ⟨q', b', q'', b'', z1, z2, z4⟩ := hP j d' t' u' F' I' hj hlj
     exact ⟨q',b',q'',b'',z1,z2,by rw [hC1t,hC1t,hC1t]; exact z4⟩
    ·have : j ≠ q := fun e => hj d kp γ T A (by rw [e]; exact hb)
     rw [hC1]; simp [this]
    ·rw [hset]
     have hlen2:H.length + q < (H ++ (List.range m).map fun i=>if (listed[i]? == some true) = true then (C i).2 else SA.emp).length:=(List.getElem?_eq_some_iff.1 hentry).1
     have h5:=HH.last (i:=H.length + q) (A:=A y) hh (by rw [List.getElem?_set_self hlen2])
     rw [List.set_set,List.set_append_right _ _ (by omega),show H.length + q - H.length = q by omega] at h5
     have h6:=HH.move (p:=H.length + i) h5 (by simp; omega)
     rw [List.set_append_right _ _ (by omega),show H.length + i - H.length = i by omega] at h6
     exact h6
  | dep t u F I =>
   obtain ⟨q,b',q',b'',r1,r2,p1,p2,hst⟩:=q4
   have src : ∀ (q t : Nat) (b' : Ob), (acc.reverse.take i).reverse.reverse[q]? = some (t, b') → (o.after.toList.any fun e => Nat.beq e.on q && Region.binds .any e) = true → q < i ∧ acc.reverse[q]? = some (t, b') ∧ listed[q]? = some true := fun q t b' r1 r2 => by
    rw [List.reverse_reverse,List.getElem?_take] at r1
    split at r1
    case isFalse=>cases r1
    case isTrue hji =>
    obtain ⟨e,he,hb'⟩:=List.any_eq_true.1 r2
    simp only [Bool.and_eq_true] at hb'
    have hon:e.on = q:=Nat.eq_of_beq_eq_true hb'.1
    have hlj:=h3 e he hb'.2
    rw [hon] at hlj
    exact ⟨hji,r1,hlj⟩
   obtain ⟨a1,a2,a3⟩:=src q t b' r1 r2
   obtain ⟨c1,c2,c3⟩:=src q' u b'' p1 p2
   obtain ⟨v1,s1,s2⟩:=hM.now q t (by omega) (by rw [a3]; rfl) (hobs.dst a2)
   obtain ⟨v2,s3,s4⟩:=hM.now q' u (by omega) (by rw [c3]; rfl) (hobs.dst c2)
   have hsl : bR n [(t, (C q).1), (u, (C q').1)] V a := by
    refine ⟨hM.df,hM.sz,fun z Z hz=>?_⟩
    rw [bD] at hz
    by_cases e:t = z
    ·rw [if_pos e] at hz; obtain rfl:=Option.some.inj hz; subst e; exact ⟨v1,s1,s2⟩
    ·rw [if_neg e, bD] at hz
     by_cases e2:u = z
     ·rw [if_pos e2] at hz; obtain rfl:=Option.some.inj hz; subst e2; exact ⟨v2,s3,s4⟩
     ·rw [if_neg e2] at hz; cases hz
   obtain ⟨hst,hI⟩:=hst _ _ (hC q t b' a2 a3).fits (hC q' u b'' c2 c3).fits
   have := hst cx _ a w V hM.inv hsl (wpAny P .any ops.toArray (den P R k) fuel (listed.setIfInBounds i true)) (den P R k) (fun v w' V' hi' hle hv => by
    rw [q2]
    exact ih _ _ _ V' _ (hL.set h1 h3) hcnt hl' (took C hC (F (C q).1 (C q').1) SA.emp ⟨rfl, hI⟩) (keepP C hP (F (C q).1 (C q').1) SA.emp (fun t' u' F' I' e => by
     cases e; exact ⟨q,b',q',b'',⟨a1,a2,a3⟩,⟨c1,c2,c3⟩,rfl⟩)) (keepA C (fun _ _ _=>rfl) (F (C q).1 (C q').1) SA.emp (fun src γ T' A' e=>by cases e)) (hM.next hd hL.sz him hdst q3 h2 hv hle (by rw [hx]; exact hi')))
   split
   ·rename_i hw; rw [if_pos hw] at this; exact .inl this
   ·rename_i hw; rw [if_neg hw] at this; exact this
theorem D_done {ops l : List Oper} {m : Nat} {acc : List (Nat × Ob)} (hP : P.follows .mixedOrders = true) (hm : acc.length = m) (hchk : qP ops m = true) (h : Fin' P R cx n ops.toArray l k acc.reverse E H) : Dr P R cx n ops m k E H l acc := fun hops hobs id a w ⟨V, hi, hs⟩ => by
 have hd:=Ah.of hchk
 have hl : ops.drop m = l := by
  conv=>lhs; rw [hops]
  rw [List.drop_append,List.drop_of_length_le (by simp; omega)]
  simp [hm,Nat.min_eq_left hd.le]
 refine wp_region_any hP ?_
 have hnone : ∀ i : Nat, (Array.replicate ops.toArray.size false)[i]? ≠ some true := fun i h => by
  rw [Array.getElem?_replicate] at h; split at h <;> simp at h
 refine jA (cx:=cx) (n:=n) (E0:=E) (H:=H) hd hm hobs (by rw [hl]; exact h) _ _ a _ V (fun _=>(jV,SA.emp)) ⟨by simp,fun i o ho h=>absurd h (hnone i)⟩ ?_ (fun i h1 h2=>by simp [h2]) (fun i d b _ h=>absurd h (hnone i)) (fun i d t u F I _ h=>absurd h (hnone i)) (fun i _ _ _ _ _ _ h=>absurd h (hnone i)) ?_
 ·have : ∀ j, fC (List.replicate j false) ≤ j := fun j => by
   induction j with
   | zero=>simp [fC]
   | succ j ih=>simp only [List.replicate_succ,fC]; simp; omega
  simpa using this _
 ·refine ⟨?_, hs.1, hs.2.1, fun t T hT _ => hs.2.2 t T hT, fun j d hj hL => ?_⟩
  ·have e : ((List.range m).map fun i => if ((Array.replicate ops.toArray.size false)[i]? == some true) = true then ((fun _ => (jV, SA.emp)) i : Ty × SA).2 else SA.emp) = (List.range m).map fun _ => SA.emp := by
    apply List.map_congr_left; intro i _; split <;> rfl
   rw [e]
   have:=hi.drew
   refine this.hp_of (fun hh=>?_)
   obtain ⟨F,f1,f2⟩:=hh
   refine ⟨fun i=>if i < H.length then F i else [],fun i A hA=>?_,fun i j b hi hj hbi hbj=>?_⟩
   ·by_cases e : i < H.length
    ·rw [List.getElem?_append_left e] at hA
     simp only [if_pos e]; exact f1 i A hA
    ·rw [List.getElem?_append_right (by omega)] at hA
     have : A = SA.emp := by
      rw [List.getElem?_map] at hA
      cases hq:(List.range m)[i - H.length]? with
      | none=>rw [hq] at hA; cases hA
      | some q=>rw [hq] at hA; simpa using hA.symm
     subst this
     simp only [if_neg e]
     exact ⟨rfl,fun b hb=>by simp at hb⟩
   ·by_cases e : i < H.length <;> by_cases e' : j < H.length
    ·simp only [if_pos e,if_pos e'] at hbi hbj; exact f2 i j b e e' hbi hbj
    ·simp [e'] at hbj
    ·simp [e] at hbi
    ·simp [e] at hbi
  ·exact absurd (by simpa using hL) (hnone j)
theorem F_nil {ops:Array Oper} {l:List Oper} (h:Rg P R cx n ops l k E H):Fin' P R cx n ops l k [] E H:=h
theorem F_val {ops:Array Oper} {l:List Oper} {d:Nat} {T:Ty} {r:List (Nat × Ob)} (h:Fin' P R cx n ops l k r ((d,T) :: E) H):Fin' P R cx n ops l k ((d,.val T) :: r) E H:=h
theorem F_new {ops:Array Oper} {l:List Oper} {d:Nat} {src:Option Nat} {γ:Type} {T:γ → Ty} {A:γ → SA} {r:List (Nat × Ob)} (h:∀ x:γ,Fin' P R cx n ops l k r ((d,T x) :: E) (H ++ [A x])):Fin' P R cx n ops l k ((d,.blk src true γ T A) :: r) E H:=h
end
end C
section
variable {P:Program} {n:Nat} {E:bC} {t:TypeId} {pos:String} {af:Array Edge}
end
end
section
open Go Go.RowKit
section
variable {P:Program} {R:dP} {cx:Cx} {n:Nat} {k:List It} {E:bC} {H:Hp} {ops:Array Oper} {rest:List Oper} {o:Oper}
theorem Ht {t:Nat} {T:Ty} (h:cP E t = some T):aN E (.tmp t) T:=aN.t h
theorem ro {T:Ty} {d:Nat} (h0:(o.guard,o.dst,Nat.blt d n) = (none,some d,true)) (hs:aF P n E H o T) (h:Rg P R cx n ops rest k ((d,T) :: E) H):Rg P R cx n ops (o :: rest) k E H:=by
 simp only [Prod.mk.injEq] at h0
 exact Qu h0.1 h0.2.1 h0.2.2 hs h
theorem rm {T:Ty} {d x:Nat} {t:TypeId} {pos:String} {af:Array Edge} (h0:(Nat.blt d n,cP E x) = (true,some T)) (h:Rg P R cx n ops rest k ((d,T) :: E) H):Rg P R cx n ops (⟨some d,.move (.tmp x),t,pos,af,none⟩ :: rest) k E H:=by
 simp only [Prod.mk.injEq] at h0
 exact Qu rfl rfl h0.1 (Dt (aN.t h0.2)) h
theorem ra {T:Ty} {d x:Nat} {t:TypeId} {pos:String} {af:Array Edge} (h0:(Nat.blt d n,cP E x) = (true,some T)) (h:Rg P R cx n ops rest k ((d,T) :: E) H):Rg P R cx n ops (⟨some d,.assign (.tmp x),t,pos,af,none⟩ :: rest) k E H:=by
 simp only [Prod.mk.injEq] at h0
 exact Qu rfl rfl h0.1 (vQ (aN.t h0.2)) h
theorem rn {γ:Type} {T:γ → Ty} {A:γ → SA} {d:Nat} (h0:(o.guard,o.dst,Nat.blt d n) = (none,some d,true)) (hop:fL P n E H o γ T A) (h:∀ x,Rg P R cx n ops rest k ((d,T x) :: E) (H ++ [A x])):Rg P R cx n ops (o :: rest) k E H:=by
 simp only [Prod.mk.injEq] at h0
 exact Ps h0.1 h0.2.1 h0.2.2 hop h
theorem ts {y:Code} {id:Nat} {l:List Oper} (h:Rg P R cx n l.toArray l (.code y :: k) E H):Tr P R cx n (.code (.seq (.region id l.toArray false) y) :: k) E H:=Pu (xX h)
end
section
variable {P:Program} {R:dP} {cx:Cx} {n:Nat} {k:List It} {E:bC} {H:Hp} {ops l:List Oper} {m:Nat} {o:Oper} {acc:List (Nat × C.Ob)} {d:Nat} {T U V:Ty}
theorem d0 (h0:(o.dst,Nat.blt d n,o.guard) = (some d,true,none)) (hs:aF P n [] H o T) (h:C.Dr P R cx n ops m k E H l ((d,.val T) :: acc)):C.Dr P R cx n ops m k E H (o :: l) acc:=by
 simp only [Prod.mk.injEq] at h0
 exact C.D_step h0.1 h0.2.1 C.Srcs.nil (nO h0.2.2 hs) h
theorem dp (t : Nat) (h0 : (o.dst, Nat.blt d n, cP E t, ((List.range m).all fun j => !(cF ops j == some t)), o.guard) = (some d, true, some U, true, none)) (hs : aF P n [(t, U)] H o T)
  (h:C.Dr P R cx n ops m k E H l ((d,.val T) :: acc)):C.Dr P R cx n ops m k E H (o :: l) acc:=by
 simp only [Prod.mk.injEq] at h0
 exact C.D_step h0.1 h0.2.1 (C.Srcs.cons (C.Src.pre h0.2.2.1 h0.2.2.2.1) C.Srcs.nil) (nO h0.2.2.2.2 hs) h
theorem dq (t j : Nat) (h0 : (o.dst, Nat.blt d n, acc.reverse[j]?, (o.after.toList.any fun e => Nat.beq e.on j && Region.binds .any e), o.guard) = (some d, true, some (t, C.Ob.val U), true, none)) (hs : aF P n [(t, U)] H o T)
  (h:C.Dr P R cx n ops m k E H l ((d,.val T) :: acc)):C.Dr P R cx n ops m k E H (o :: l) acc:=by
 simp only [Prod.mk.injEq] at h0
 exact C.D_step h0.1 h0.2.1 (C.Srcs.cons (C.Src.op j h0.2.2.1 h0.2.2.2.1) C.Srcs.nil) (nO h0.2.2.2.2 hs) h
theorem fA (t i u j : Nat) (h0 : (o.dst, Nat.blt d n, acc.reverse[i]?, (o.after.toList.any fun e => Nat.beq e.on i && Region.binds .any e), acc.reverse[j]?, (o.after.toList.any fun e => Nat.beq e.on j && Region.binds .any e), o.guard) = (some d, true, some (t, C.Ob.val U), true, some (u, C.Ob.val V), true, none)) (hs : aF P n [(t, U), (u, V)] H o T)
  (h:C.Dr P R cx n ops m k E H l ((d,.val T) :: acc)):C.Dr P R cx n ops m k E H (o :: l) acc:=by
 simp only [Prod.mk.injEq] at h0
 obtain ⟨a,b,c,e,f,g,q⟩:=h0
 exact C.D_step a b (C.Srcs.cons (C.Src.op i c e) (C.Srcs.cons (C.Src.op j f g) C.Srcs.nil)) (nO q hs) h
end
end
section
open Go Go.RowKit
section
variable {P:Program} {n:Nat} {E:bC} {H:Hp}
variable {d:Option Tmp} {t:TypeId} {pos:String} {af:Array Edge} {g:Option (Nat × Bool)}
end
end
section
open Go Go.RowKit
def Xg (E : bC) : bC → List (Option Ty)
 | []=>[]
 | x :: r=>cP E x.1 :: Xg E r
def Xh : bC → List (Option Ty)
 | []=>[]
 | x :: r=>some x.2 :: Xh r
theorem zS {E : bC} : ∀ {E' : bC}, Xg E E' = Xh E' → Sub E E'
 | [],_=>Sub.nil
 | _ :: _,h=>Sub.cons (List.cons.inj h).1 (zS (List.cons.inj h).2)
theorem z6 {a:Nat} (h:a < 9223372036854775808:=by first|omega|simp only[jF];omega):a < 9223372036854775808:=h
theorem z7 {a:Nat} (h:a < 18446744073709551616:=by first|omega|simp only[jF];omega):a < 18446744073709551616:=h
theorem zd {α:Type} {a:α}:a = a ∧ True:=⟨rfl,trivial⟩
theorem zF {P : Program} {R : dP} {cx : Cx} {n : Nat} {k : List It} {E : bC} {H : Hp} {ops : Array Oper} {l : List Oper} {a b c d : Nat} {T U V W : Ty} {r : List (Nat × C.Ob)}
  (h:C.Fin' P R cx n ops l k r ((d,W) :: (c,V) :: (b,U) :: (a,T) :: E) H):C.Fin' P R cx n ops l k ((a,.val T) :: (b,.val U) :: (c,.val V) :: (d,.val W) :: r) E H:=C.F_val (C.F_val (C.F_val (C.F_val h)))
end
section
open Go Go.RowKit
abbrev aQ:=@Sub.cons
abbrev aX:=@Sub.nil
abbrev aZ:=@Sub.to
abbrev aJ:=@C.F_val
abbrev aV:=@C.F_nil
abbrev aW:=@bM.cons'
abbrev aG:=@bM.nil
abbrev aK:=@Nat.le_of_ble_eq_true
abbrev aU:=@dL.cons
abbrev aY:=@dL.nil
abbrev bQ:=@Y.Srcs.cons
abbrev bX:=@Y.Srcs.nil
abbrev bZ:=@Y.Src.op
abbrev bJ:=@Y.Src.pre
abbrev bV:=@C.Srcs.cons
abbrev bW:=@C.Srcs.nil
abbrev bG:=@C.Src.op
abbrev bK:=@C.Src.pre
abbrev bU:=@Y.F_val
abbrev bY:=@Y.D_hide
abbrev cQ:=@vQ
abbrev cX:=@Dt
abbrev cZ:=@Nw
abbrev cJ:=@aN.cN
abbrev cV:=@aN.c
abbrev cW:=@mI.cons
abbrev cG:=@mI.nil
abbrev cK:=@Pu
abbrev cU:=@Rc
abbrev cY:=@xX
abbrev dQ:=@An
abbrev dX:=@nO
abbrev dZ:=@Sz
abbrev dJ:=@Vm
abbrev dV:=@Nu
abbrev dW:=@Oi
abbrev dG:=@Tc
abbrev dK:=@Bm
abbrev dU:=@getD_some
abbrev dY:=@Ni
abbrev eQ:=@bE.imp
abbrev eX:=@Uh
abbrev eZ:=@Nx
abbrev eJ:=@Oc
abbrev eW:=@Fe
abbrev eG:=@Ls
abbrev eK:=@Qx
abbrev eU:=@Tk
abbrev eY:=@Tb
abbrev fQ:=@Gk
abbrev fX:=@Vo
abbrev fZ:=@C.D_start
abbrev fJ:=@aN.w
abbrev fV:=@C.D_done
abbrev fW:=@Rb
abbrev fG:=@Nq
abbrev fK:=@Pa
abbrev fU:=@Lr
abbrev fY:=@Nz
abbrev gQ:=@Ui
abbrev gX:=@Od
abbrev gZ:=@Jj
abbrev gJ:=@Gm
abbrev gV:=@Qz
end
section
open Go Go.RowKit
theorem zo {p:Prop} (h:p:=by omega):p:=h
end
section
open Go Go.RowKit
theorem lY (ds:List Nat) (hd:gN ds) (hl:ds.length ≤ 1152921504606846976):bE Tryz.prog 203 [uQ ds] (aH (val ds)):=by
 refine bE.intro Tryz.func203 rfl Tryz.ntmps203 rfl (fun cx=>(ts (ro rfl (cQ cV) (eX (ts (rm rfl (ro rfl (dG U_28 (Ht rfl) aA) (ra rfl (eX (cK (eG ?_)))))))))))
 refine eR (fun (k : Nat) => k ≤ ds.length ∧ ∀ i, k ≤ i → i < ds.length → ds.getD i 0 = 0) (fun (k : Nat) => k) (fun (k : Nat) => [(0, uQ ds), (3, NT .i64 k)]) (fun (k : Nat) => []) ds.length ⟨Nat.le_refl _, fun i h1 h2 => by omega⟩
  (zS rfl) aY (fun k ⟨hk,hz⟩=>?_)
 refine cK (ts (rm rfl (ro rfl (iB (Ht rfl) (cJ 0)) (rm rfl (fQ rfl rfl (eK rfl rfl (Ht rfl) (fun h=>cX (Ht rfl))) (fQ rfl rfl (eK rfl rfl (Ht rfl) (fun h=>cX (Ht rfl))) (fQ rfl rfl (eK rfl rfl (Ht rfl) (fun h=>dW (fJ rfl h) (cJ 1) (by first | omega | (simp at h; omega)) (by show _ < 9223372036854775808; first | omega | (simp at h; omega)))) (fQ rfl rfl (eK rfl rfl (Ht rfl) (fun h=>dZ U_28 Z_24 (fJ rfl h) (fJ rfl h) rfl (dY (aR (by first | omega | (simp at h; omega)))))) ?_))))))))
 refine fQ rfl rfl (eK rfl rfl (Ht rfl) (fun h=>dJ A_24 Z_24 (fJ rfl h))) (fQ rfl rfl (eK rfl rfl (Ht rfl) (fun h=>fN (fJ rfl h) (cJ 0))) (ro rfl (eS (Ht rfl) (fun h=>(fJ rfl h))) (eX (dQ (Ht rfl) (fun hb=>?_) (fun hb=>?_)))))
 ·simp at hb
  refine cU (eG (cY (rm rfl (ro rfl (dW (Ht rfl) (cJ 1) zo z6) (ra rfl (eX (cA (fU (k - 1) ⟨by omega,fun i h1 h2=>?_⟩ zo (zS rfl) aY))))))))
  by_cases e2:i = k - 1
  ·subst e2; simpa using hb.2
  ·exact hz i zo h2
 ·have hn : k = 0 ∨ ds.getD (k - 1) 0 ≠ 0 := by
   simp only [Bool.and_eq_false_iff,decide_eq_false_iff_not] at hb
   rcases hb with h1 | h1
   ·left; omega
   ·right; exact h1
  have hfin:=Mv hd hk hz hn
  refine gV rfl (ts (rm rfl (rm rfl (rm rfl (ro rfl (vR U_28 Z_24 (Ht rfl) (Ht rfl) (fun m e=>by cases e; exact (Ht rfl)) zo (by simp; omega) rfl) ?_)))))
  refine ra rfl (eX (fW rfl (fX (eU rfl) ?_)))
  exact (Ik (by rw [hfin]; simp))
theorem wP {m:Nat} (hm:m < 18446744073709551616):bE Tryz.prog 207 [NT .u64 m] (aH m):=by
 refine bE.intro Tryz.func207 rfl Tryz.ntmps207 rfl (fun cx=>(ts (ro rfl (cQ cV) (eX (ts (rm rfl (ro rfl (gS rfl U_274 U_24 (Ht rfl)) (rm rfl (ro rfl (fF (Ht rfl) (cJ 32) (by decide)) (ro rfl (gS rfl U_274 U_24 (Ht rfl)) (ro rfl (dA (xs:=[.tmp 4,.tmp 7]) U_28 Z_24 O_24 (cW (Ht rfl) (cW (Ht rfl) cG)) rfl rfl rfl) (ro rfl (cZ K_203 (lY [m % 4294967296,m / 2 ^ 32 % 4294967296] (Wq _ _) (by simp)) ⟨(Ht rfl),trivial⟩) ?_))))))))))))
 refine ra rfl (eX (fW rfl (fX (eU rfl) ?_)))
 exact (dI (Fd hm))
theorem Qb {m:Nat}:bE Tryz.prog 201 [aH m] (aB (decide (m = 1))):=by
 refine bE.intro Tryz.func201 rfl Tryz.ntmps201 rfl (fun cx=>(ts (ro rfl (cQ cV) (eX (ts (rm rfl (ro rfl (dG U_28 (Ht rfl) aA) (ro rfl (fN (Ht rfl) (cJ 1)) (rm rfl (fQ rfl rfl (eK rfl rfl (Ht rfl) (fun h=>cX (Ht rfl))) (fQ rfl rfl (eK rfl rfl (Ht rfl) (fun h=>dZ U_28 Z_24 (fJ rfl h) (cJ 0) rfl (dY (aR (by first | omega | (simp at h; omega)))))) (fQ rfl rfl (eK rfl rfl (Ht rfl) (fun h=>dJ A_24 Z_24 (fJ rfl h))) (fQ rfl rfl (eK rfl rfl (Ht rfl) (fun h=>fN (fJ rfl h) (cJ 1))) ?_)))))))))))))
 refine ro rfl (eS (Ht rfl) (fun h=>(fJ rfl h))) (ra rfl (eX (fW rfl (fX (eU rfl) ?_))))
 exact (hZ (Sw m))
theorem Mb {a b c:Nat} (ha:a < 4294967296) (hb:b < 4294967296) (hc:c < 4294967296):bE Tryz.prog 248 [bH a,bH b,bH c] (gA [bH ((a + b + c) % 4294967296),bH ((a + b + c) / 4294967296)]):=by
 refine bE.intro Tryz.func248 rfl Tryz.ntmps248 rfl (fun cx=>(ts (ro rfl (cQ (cJ 0)) (ro rfl (cQ (cJ 0)) (eX (ts (rm rfl (ro rfl (gZ U_24 U_274 (Ht rfl) z7) (rm rfl (ro rfl (gZ U_24 U_274 (Ht rfl) z7) (ro rfl (dV (Ht rfl) (Ht rfl) z7) (rm rfl (ro rfl (gZ U_24 U_274 (Ht rfl) z7) ?_)))))))))))))
 refine ro rfl (dV (Ht rfl) (Ht rfl) z7) (ra rfl (eX (ts (rm rfl (ro rfl (gS rfl U_274 U_24 (Ht rfl)) (ra rfl (eX (ts (rm rfl (ro rfl (fF (Ht rfl) (cJ 32) (by decide)) (ro rfl (gS rfl U_274 U_24 (Ht rfl)) (ra rfl (eX (cB rfl (eU rfl) (fX (eU rfl) ?_)))))))))))))))
 exact (kX (by simp only [jF]; omega))
theorem Mi {a b c:Nat} (ha:a < 4294967296) (hb:b < 4294967296) (hc:c ≤ 1):bE Tryz.prog 249 [bH a,bH b,bH c] (gA [bH ((a + 8589934592 - b - c) % 4294967296),bH (if a < b + c then 1 else 0)]):=by
 refine bE.intro Tryz.func249 rfl Tryz.ntmps249 rfl (fun cx=>(ts (ro rfl (cQ (cJ 0)) (ro rfl (cQ (cJ 0)) (eX (ts (rm rfl (rm rfl (ro rfl (nZ rfl (Ht rfl) (Ht rfl) (by show _ ≤ 4294967296; first | omega | (simp only [jF]; omega))) (rm rfl (ro rfl (nZ rfl (Ht rfl) (Ht rfl) (by show _ ≤ 4294967296; first | omega | (simp only [jF]; omega))) (ra rfl (eX (ts (rm rfl (ro rfl (Ds rfl (Ht rfl) (by show _ < 4294967296; first | omega | (simp only [jF]; omega))) (rm rfl (ro rfl (pV rfl (Ht rfl) (Ht rfl) (by show _ < 4294967296; simp only [jF]; omega) (by show _ < 4294967296; omega)) ?_))))))))))))))))))
 refine rm rfl (rm rfl (ro rfl (Oj rfl (Ht rfl) (Ht rfl) (by show _ < 4294967296; omega) (by show _ < 4294967296; omega)) (ro rfl (Ds rfl (Ht rfl) (Nat.xor_lt_two_pow (n:=32) ha hb)) (rm rfl (ro rfl (pV rfl (Ht rfl) (Ht rfl) (by show _ < 4294967296; simp only [jF]; omega) (by show _ < 4294967296; simp only [jF]; omega)) (ro rfl (qS rfl (Ht rfl) (Ht rfl) (Nat.and_lt_two_pow (n:=32) _ hb) (Nat.and_lt_two_pow (n:=32) _ (by simp only [jF]; omega))) (ro rfl (fF (Ht rfl) (cJ 31) (by decide)) (ra rfl (eX (cB rfl (fX (eU rfl) ?_) (fX (eU rfl) ?_)))))))))))
 ·exact (kX (by simp only [jF]; omega))
 ·exact (kX (xO ha hb hc (by simp only [jF]; omega)))
theorem Hi {m n:Nat} (hm:(dg m).length ≤ 1152921504606846976) (hn:(dg n).length ≤ 1152921504606846976):bE Tryz.prog 129 [aH m,aH n] (aC .i64 (oP m n)):=by
 refine bE.intro Tryz.func129 rfl Tryz.ntmps129 rfl (fun cx=>(ts (ro rfl (cQ (cJ 0)) (eX (cK (ts (rm rfl (ro rfl (dG U_28 (Ht rfl) aA) (rm rfl (ro rfl (dG U_28 (Ht rfl) aA) (ro rfl (jO (Ht rfl) (Ht rfl)) (eX (dQ (Ht rfl) (fun hb=>?_) (fun hb=>?_))))))))))))))
 ·simp at hb
  refine cK (ts (rm rfl (ro rfl (dG U_28 (Ht rfl) aA) (rm rfl (ro rfl (dG U_28 (Ht rfl) aA) (ro rfl (gX (Ht rfl) (Ht rfl)) (eX (dQ (Ht rfl) (fun hb2=>?_) (fun hb2=>?_)))))))))
  ·simp at hb2
   have hlt:=Bb hb2
   refine ts (ro rfl (cQ cV) (eX (fW rfl (fX (eU rfl) ?_))))
   exact (aS (by simp [oP,hlt]))
  ·simp at hb2
   have hlt:=Bb (a:=n) (b:=m) zo
   refine cU (ts (ro rfl (cQ (cJ 1)) (eX (fW rfl (fX (eU rfl) ?_)))))
   exact (aS (by simp [oP,hlt,Nat.lt_asymm hlt]))
 ·simp at hb
  refine cU (cK (ts (rm rfl (ro rfl (dG U_28 (Ht rfl) aA) (ro rfl (gT (Ht rfl) cV (sX zo)) (ra rfl (eX (eG ?_))))))))
  refine eR (fun (k : Nat) => k ≤ (dg m).length ∧ ∀ i, k ≤ i → i < (dg m).length → (dg m).getD i 0 = (dg n).getD i 0) (fun (k : Nat) => k) (fun (k : Nat) => [(0, aH m), (1, aH n), (5, aC .i64 ((k : Int) - 1))]) (fun (k : Nat) => []) (dg m).length ⟨Nat.le_refl _, fun i h1 h2 => by omega⟩
   (zS rfl) aY (fun k ⟨hk,he⟩=>?_)
  refine cK (ts (rm rfl (ro rfl (lE (Ht rfl) cV) (eX (dQ (Ht rfl) (fun hk1=>?_) (fun hk1=>?_))))))
  ·simp at hk1
   refine cU (cK (eG (cK (cK (fZ (m:=8) (dp 0 rfl (cX (Ht rfl)) (dp 5 rfl (cX (Ht rfl)) (fA 23 0 24 1 rfl (dZ U_28 Z_24 (Ht rfl) (Ht rfl) (show ((k:Int) - 1) = ((k - 1:Nat):Int) by omega) (dY (aR zo))) (dq 25 2 rfl (dJ A_24 Z_24 (Ht rfl)) (dp 1 rfl (cX (Ht rfl)) (dp 5 rfl (cX (Ht rfl)) (fA 27 4 28 5 rfl (dZ U_28 Z_24 (Ht rfl) (Ht rfl) (show ((k:Int) - 1) = ((k - 1:Nat):Int) by omega) (dY (aR zo))) (dq 29 6 rfl (dJ A_24 Z_24 (Ht rfl)) ?_)))))))))))))
   refine fV mixed rfl (by kernel_rfl) (zF (zF (aV (ro rfl (gX (Ht rfl) (Ht rfl)) (eX (dQ (Ht rfl) (fun h1=>?_) (fun h1=>?_)))))))
   ·simp only [decide_eq_true_eq] at h1
    have hlt:=Cz (bF m) (bF n) hb (k:=k - 1) zo (fun i h2 h3=>he i zo h3) h1
    rw [cE,cE] at hlt
    refine ts (ro rfl (cQ cV) (eX (fW rfl (fX (eU rfl) ?_))))
    exact (aS (by simp [oP,hlt]))
   ·simp only [decide_eq_false_iff_not] at h1
    refine cU (cK (fZ (m:=8) (dp 0 rfl (cX (Ht rfl)) (dp 5 rfl (cX (Ht rfl)) (fA 32 0 33 1 rfl (dZ U_28 Z_24 (Ht rfl) (Ht rfl) (show ((k:Int) - 1) = ((k - 1:Nat):Int) by omega) (dY (aR zo))) (dq 34 2 rfl (dJ A_24 Z_24 (Ht rfl)) (dp 1 rfl (cX (Ht rfl)) (dp 5 rfl (cX (Ht rfl)) (fA 36 4 37 5 rfl (dZ U_28 Z_24 (Ht rfl) (Ht rfl) (show ((k:Int) - 1) = ((k - 1:Nat):Int) by omega) (dY (aR zo))) (dq 38 6 rfl (dJ A_24 Z_24 (Ht rfl)) ?_))))))))))
    refine fV mixed rfl (by kernel_rfl) (zF (zF (aV (ro rfl (iB (Ht rfl) (Ht rfl)) (eX (dQ (Ht rfl) (fun h2=>?_) (fun h2=>?_)))))))
    ·simp only [decide_eq_true_eq] at h2
     have hlt:=Cz (bF n) (bF m) hb.symm (k:=k - 1) zo (fun i h2 h3=>(he i zo zo).symm) h2
     rw [cE,cE] at hlt
     refine ts (ro rfl (cQ (cJ 1)) (eX (fW rfl (fX (eU rfl) ?_))))
     exact (aS (by simp [oP,hlt,Nat.lt_asymm hlt]))
    ·simp only [decide_eq_false_iff_not] at h2
     refine cU (cA (cY (rm rfl (ro rfl (gT (Ht rfl) cV (sX zo)) (ra rfl (eX (fU (k - 1) ⟨by omega,fun i h3 h4=>(by by_cases e:i = k - 1; (· subst e; omega); exact he i zo h4)⟩ zo (aQ rfl (aQ rfl (aZ rfl (aS zo) aX))) aY)))))))
  ·simp at hk1
   have hk0:k = 0:=by omega
   have heq : m = n := by
    have : dg m = dg n := by
     apply List.ext_getElem?
     intro i
     by_cases hi:i < (dg m).length
     ·have h5 := he i zo hi
      have h6:i < (dg n).length:=by omega
      simp [List.getD,hi,h6] at h5
      simp [hi,h6,h5]
     ·rw [List.getElem?_eq_none zo,List.getElem?_eq_none zo]
    rw [← cE m,this,cE]
   refine gV rfl (ts (ro rfl (cQ (cJ 0)) (eX (fW rfl (fX (eU rfl) ?_)))))
   exact (aS (by simp [oP,heq]))
end
section
open Go Go.RowKit
theorem kS:Tryz.prog.info? 24 = some Tryz.t24:=by kernel_rfl
end
section
open Go Go.RowKit
theorem Ux {m n:Nat} (hm:(dg m).length ≤ 17592186044416) (hn:(dg n).length ≤ 17592186044416):bE Tryz.prog 198 [aH m,aH n] (aH (m + n)):=by
 refine bE.intro Tryz.func198 rfl Tryz.ntmps198 rfl (fun cx=>(ts (ro rfl (cQ cV) (eX (cK (pE (fun (p:Nat) (q:Nat)=>p + q = m + n ∧ (dg q).length ≤ (dg p).length ∧ (dg p).length ≤ 17592186044416) (fun (p:Nat) (q:Nat)=>[(0,aH p),(1,aH q)]) (fun (p:Nat) (q:Nat)=>[]) ?_ (fun p q ⟨hpq,hle,hlp⟩=>?_)))))))
 ·refine ts (rm rfl (ro rfl (dG U_28 (Ht rfl) aA) (rm rfl (ro rfl (dG U_28 (Ht rfl) aA) (ro rfl (gX (Ht rfl) (Ht rfl)) (eX (dQ (Ht rfl) (fun hb => ?_) (fun hb => ?_))))))))
  ·simp at hb
   refine cY (rm rfl (rm rfl (ra rfl (ra rfl (eX (bB (n,m) ⟨Nat.add_comm _ _,Nat.le_of_lt hb,hn⟩ (zS rfl) aY))))))
  ·simp at hb
   refine cU (bB (m,n) ⟨rfl,hb,hm⟩ (zS rfl) aY)
 ·refine ts (rm rfl (ro rfl (dG U_28 (Ht rfl) aA) (ro rfl (dV (Ht rfl) (cJ 1) z6) (rn rfl (fP (T := bH 0) (i := Tryz.t24) V_28 kS rfl rfl (Ht rfl) rfl (fun _ => rfl) trivial (by show 4 * _ ≤ _; omega) zo) fun B19 => (ra rfl (eX (ts (ro rfl (cQ (cJ 0)) (eX (cK (ts (rm rfl (ro rfl (dG U_28 (Ht rfl) aA) (ro rfl (cX (cJ 0)) (eX (eG ?_))))))))))))))))
  refine lW (fun (k : Nat) (out : List Nat) (c : Nat) => vY (dg p) (dg q) out k c) (fun (k : Nat) (out : List Nat) (c : Nat) => (dg p).length - k) (fun (k : Nat) (out : List Nat) (c : Nat) => [(0, aH p), (1, aH q), (5, Is (.slice (some ⟨B19, 0, none⟩) ((dg p).length + 1) ((dg p).length + 1))), (6, bH c), (21, NT .i64 (dg p).length), (22, NT .i64 k)]) (fun (k : Nat) (out : List Nat) (c : Nat) => [box B19 24 (out.map bH)]) 0 (List.replicate ((dg p).length + 1) 0) 0 (vY.start _ _)
   (zS rfl) (aU (aI (mF _)) aY) (fun k out c hS=>?_)
  refine ts (ro rfl (gX (Ht rfl) (Ht rfl)) (eX (cK (dQ (Ht rfl) (fun hb=>?_) (fun hb=>?_)))))
  ·simp at hb
   have hlen:=hS.len; have hcl:=hS.cle; have hxk:=aP (bF p) k; have hyk:=aP (bF q) k
   simp only [BB] at hxk hyk
   refine cU (cK (eG (ts (rm rfl (ra rfl (eX (ts (ro rfl (cQ (cJ 0)) (eX (cK (jZ (fun (uu:Unit)=>True) (fun (uu:Unit)=>[(0,aH p),(1,aH q),(5,Is (.slice (some ⟨B19,0,none⟩) ((dg p).length + 1) ((dg p).length + 1))),(6,bH c),(7,NT .i64 k),(8,bH ((dg q).getD k 0)),(21,NT .i64 (dg p).length),(22,NT .i64 k)]) (fun (uu:Unit)=>[box B19 24 (out.map bH)]) ?_ (fun uu _=>?_))))))))))))
   ·refine ts (rm rfl (rm rfl (ro rfl (dG U_28 (Ht rfl) aA) (ro rfl (gX (Ht rfl) (Ht rfl)) (eX (dQ (Ht rfl) (fun hk2 => ?_) (fun hk2 => ?_)))))))
    ·simp at hk2
     refine cY (rm rfl (rm rfl (ro rfl (dZ U_28 Z_24 (Ht rfl) (Ht rfl) rfl (dY (aR zo))) (ro rfl (dJ A_24 Z_24 (Ht rfl)) (ra rfl (eX (bB () trivial (zS rfl) (dL.refl _))))))))
    ·simp at hk2
     refine cU (bB () trivial (aQ rfl (aQ rfl (aQ rfl (aQ rfl (aQ rfl (aZ rfl (kX (by simp [List.getD,List.getElem?_eq_none hk2])) (zS rfl))))))) (dL.refl _))
   ·refine cY (rm rfl (rm rfl (rm rfl (rm rfl (ro rfl (dZ U_28 Z_24 (Ht rfl) (Ht rfl) rfl (dY (aR zo))) (ro rfl (dJ A_24 Z_24 (Ht rfl)) (rm rfl (rm rfl (ro rfl (cZ Tryz.call248 (Mb hxk hyk zo) ⟨(Ht rfl), (Ht rfl), (Ht rfl), trivial⟩) (rm rfl (ro rfl (dK (Ht rfl) rfl) (ro rfl (dK (Ht rfl) rfl) (ro rfl (fY U_28 Z_24 (Ht rfl) (Ht rfl) rfl zo (by rw [Nat.mul_one, Nat.zero_add])) ?_)))))))))))))
    refine lT Z_24 (Ht rfl) (Ht rfl) (i:=0) rfl (by first | omega | (simp; omega)) rfl (ra rfl (eX (cA (cY (ro rfl (dV (Ht rfl) (cJ 1) z6) (rm rfl (eX (fU (k + 1,_,_) (hS.next (bF p) (bF q) hb) (by dsimp only; omega) (zS rfl) (aU (aI (gI _ _ _)) aY)))))))))
  ·simp at hb
   have hkl:k = (dg p).length:=Nat.le_antisymm hS.kle hb
   subst hkl
   have hlen:=hS.len; have hcl:=hS.cle
   refine gV rfl (ts (rm rfl (rm rfl (ro rfl (dG U_28 (Ht rfl) aA) (rm rfl (ro rfl (fY U_28 Z_24 (Ht rfl) (Ht rfl) rfl zo (by rw [Nat.mul_one,Nat.zero_add])) ?_))))))
   refine lT Z_24 (Ht rfl) (Ht rfl) (i:=0) rfl (by first | omega | (simp; omega)) rfl (eX (cK ?_))
   have hfin:=hS.fin hle
   refine gJ (i:=0) (tt:=5) rfl rfl (mZ (gI _ _ _) (by simp [hlen]) (Nat.le_refl _)) ?_
   refine cY (rm rfl (ro rfl (cZ K_203 (lY _ (gG hS.dig (by simp only [BB]; omega)) (by simp [hlen]; omega)) ⟨(Ht rfl),trivial⟩) ?_))
   refine ra rfl (eX (fW rfl (fX (eU rfl) ?_)))
   exact (dI (by rw [hfin,cE,cE]; exact hpq))
theorem Qd {m n:Nat} (hm:(dg m).length ≤ 17592186044416) (hnm:n ≤ m):bE Tryz.prog 199 [aH m,aH n] (aH (m - n)):=by
 have hle:=iD hnm
 refine bE.intro Tryz.func199 rfl Tryz.ntmps199 rfl (fun cx=>(ts (ro rfl (cQ cV) (eX (ts (rm rfl (ro rfl (dG U_28 (Ht rfl) aA) (rn rfl (fP (T:=bH 0) (i:=Tryz.t24) V_28 kS rfl rfl (Ht rfl) rfl (fun _=>rfl) trivial (by show 4 * _ ≤ _; omega) zo) fun B11=>(ra rfl (eX (ts (ro rfl (cQ (cJ 0)) (eX (cK (ts (rm rfl (ro rfl (dG U_28 (Ht rfl) aA) (ro rfl (cX (cJ 0)) (eX (eG ?_))))))))))))))))))))
 refine lW (fun (k : Nat) (out : List Nat) (c : Nat) => wF (dg m) (dg n) out k c) (fun (k : Nat) (out : List Nat) (c : Nat) => (dg m).length - k) (fun (k : Nat) (out : List Nat) (c : Nat) => [(0, aH m), (1, aH n), (5, Is (.slice (some ⟨B11, 0, none⟩) (dg m).length (dg m).length)), (6, bH c), (13, NT .i64 (dg m).length), (14, NT .i64 k)]) (fun (k : Nat) (out : List Nat) (c : Nat) => [box B11 24 (out.map bH)]) 0 (List.replicate (dg m).length 0) 0 (wF.start _ _)
  (zS rfl) (aU (aI (mF _)) aY) (fun k out c hS=>?_)
 refine ts (ro rfl (gX (Ht rfl) (Ht rfl)) (eX (cK (dQ (Ht rfl) (fun hb=>?_) (fun hb=>?_)))))
 ·simp at hb
  have hlen:=hS.len; have hcl:=hS.cle; have hxk:=aP (bF m) k; have hyk:=aP (bF n) k
  simp only [BB] at hxk hyk
  refine cU (cK (eG (ts (rm rfl (ra rfl (eX (ts (ro rfl (cQ (cJ 0)) (eX (cK (jZ (fun (uu:Unit)=>True) (fun (uu:Unit)=>[(0,aH m),(1,aH n),(5,Is (.slice (some ⟨B11,0,none⟩) (dg m).length (dg m).length)),(6,bH c),(7,NT .i64 k),(8,bH ((dg n).getD k 0)),(13,NT .i64 (dg m).length),(14,NT .i64 k)]) (fun (uu:Unit)=>[box B11 24 (out.map bH)]) ?_ (fun uu _=>?_))))))))))))
  ·refine ts (rm rfl (rm rfl (ro rfl (dG U_28 (Ht rfl) aA) (ro rfl (gX (Ht rfl) (Ht rfl)) (eX (dQ (Ht rfl) (fun hk2 => ?_) (fun hk2 => ?_)))))))
   ·simp at hk2
    refine cY (rm rfl (rm rfl (ro rfl (dZ U_28 Z_24 (Ht rfl) (Ht rfl) rfl (dY (aR zo))) (ro rfl (dJ A_24 Z_24 (Ht rfl)) (ra rfl (eX (bB () trivial (zS rfl) (dL.refl _))))))))
   ·simp at hk2
    refine cU (bB () trivial (aQ rfl (aQ rfl (aQ rfl (aQ rfl (aQ rfl (aZ rfl (kX (by simp [List.getD,List.getElem?_eq_none hk2])) (zS rfl))))))) (dL.refl _))
  ·refine cY (rm rfl (rm rfl (rm rfl (rm rfl (ro rfl (dZ U_28 Z_24 (Ht rfl) (Ht rfl) rfl (dY (aR zo))) (ro rfl (dJ A_24 Z_24 (Ht rfl)) (rm rfl (rm rfl (ro rfl (cZ Tryz.call249 (Mi hxk hyk zo) ⟨(Ht rfl), (Ht rfl), (Ht rfl), trivial⟩) (rm rfl (ro rfl (dK (Ht rfl) rfl) (ro rfl (dK (Ht rfl) rfl) (ro rfl (fY U_28 Z_24 (Ht rfl) (Ht rfl) rfl zo (by rw [Nat.mul_one, Nat.zero_add])) ?_)))))))))))))
   refine lT Z_24 (Ht rfl) (Ht rfl) (i:=0) rfl (by first | omega | (simp; omega)) rfl (ra rfl (eX (cA (cY (ro rfl (dV (Ht rfl) (cJ 1) z6) (rm rfl (eX (fU (k + 1,_,_) (hS.next (bF m) (bF n) hb) (by dsimp only; omega) (zS rfl) (aU (aI (gI _ _ _)) aY)))))))))
 ·simp at hb
  have hkl:k = (dg m).length:=Nat.le_antisymm hS.kle hb
  subst hkl
  have hlen:=hS.len
  have hfin:=hS.fin (bF m) hle (by rw [cE,cE]; exact hnm)
  rw [cE,cE] at hfin
  refine gV rfl (gJ (i:=0) (tt:=5) rfl rfl (mZ rfl hlen.symm (Nat.le_refl _)) (ts (rm rfl (ro rfl (cZ K_203 (lY _ hS.dig zo) ⟨(Ht rfl),trivial⟩) (ra rfl (eX (fW rfl (fX (eU rfl) ?_))))))))
  exact (dI hfin)
theorem yG {m n:Nat} (hm:(dg m).length ≤ 17592186044416) (hn:(dg n).length ≤ 17592186044416):bE Tryz.prog 110 [aH m,aH n] (aH (m * n)):=by
 refine bE.intro Tryz.func110 rfl Tryz.ntmps110 rfl (fun cx=>(ts (ro rfl (cQ cV) (eX (cK (ts (rm rfl (ro rfl (dG U_28 (Ht rfl) aA) (ro rfl (fN (Ht rfl) (cJ 0)) (rm rfl (fQ rfl rfl (eK rfl rfl (Ht rfl) (fun h=>cX (Ht rfl))) (fQ rfl rfl (eK rfl rfl (Ht rfl) (fun h=>dG U_28 (fJ rfl h) aA)) (fQ rfl rfl (eK rfl rfl (Ht rfl) (fun h=>fN (fJ rfl h) (cJ 0))) (ro rfl (gH (Ht rfl) (fun h=>(fJ rfl h))) (eX (dQ (Ht rfl) (fun hb=>?_) (fun hb=>?_)))))))))))))))))
 ·simp [aO] at hb
  have h0 : m * n = 0 := by
   rcases hb with h | h <;> simp_all [qO]
  refine ts (ro rfl (cQ cV) (eX (fW rfl (fX (eU rfl) ?_))))
  exact (fun v V h=>by rw [h0]; exact jG v V h)
 ·clear hb
  refine cU (ts (rm rfl (ro rfl (dG U_28 (Ht rfl) aA) (rm rfl (ro rfl (dG U_28 (Ht rfl) aA) (ro rfl (dV (Ht rfl) (Ht rfl) z6) (rn rfl (fP (T:=bH 0) (i:=Tryz.t24) V_28 kS rfl rfl (Ht rfl) rfl (fun _=>rfl) trivial (by show 4 * _ ≤ _; omega) zo) fun B24=>(ra rfl (eX (cK (ts (rm rfl (ro rfl (dG U_28 (Ht rfl) aA) (ro rfl (cX (cJ 0)) (eX (eG ?_))))))))))))))))
  refine fM (fun (i : Nat) (out : List Nat) => wA (dg m) (dg n) out i) (fun (i : Nat) (out : List Nat) => (dg m).length - i) (fun (i : Nat) (out : List Nat) => [(0, aH m), (1, aH n), (5, Is (.slice (some ⟨B24, 0, none⟩) ((dg m).length + (dg n).length) ((dg m).length + (dg n).length))), (25, aH m), (26, NT .i64 (dg m).length), (27, NT .i64 i)]) (fun (i : Nat) (out : List Nat) => [box B24 24 (out.map bH)]) 0 (List.replicate ((dg m).length + (dg n).length) 0) (wA.start _ _)
   (zS rfl) (aU (aI (mF _)) aY) (fun i out hS=>?_)
  refine ts (ro rfl (gX (Ht rfl) (Ht rfl)) (eX (cK (dQ (Ht rfl) (fun hb=>?_) (fun hb=>?_)))))
  ·simp at hb
   have hxi:=aP (bF m) i
   simp only [BB] at hxi
   refine cU (cK (eG (ts (rm rfl (ro rfl (dZ U_28 Z_24 (Ht rfl) (Ht rfl) rfl (dY (aR zo))) (ro rfl (dJ A_24 Z_24 (Ht rfl)) (ra rfl (ra rfl (eX (ts (ro rfl (cQ (cJ 0)) (eX (cK (ts (rm rfl (ro rfl (dG U_28 (Ht rfl) aA) (ro rfl (cX (cJ 0)) (eX (eG ?_)))))))))))))))))))
   refine lW (fun (k : Nat) (out2 : List Nat) (c : Nat) => Ak (dg m) (dg n) out2 i k c) (fun (k : Nat) (out2 : List Nat) (c : Nat) => (dg n).length - k) (fun (k : Nat) (out2 : List Nat) (c : Nat) => [(0, aH m), (1, aH n), (5, Is (.slice (some ⟨B24, 0, none⟩) ((dg m).length + (dg n).length) ((dg m).length + (dg n).length))), (6, NT .i64 i), (7, bH ((dg m).getD i 0)), (8, NT .u64 c), (25, aH m), (26, NT .i64 (dg m).length), (27, NT .i64 i), (32, aH n), (33, NT .i64 (dg n).length), (34, NT .i64 k)]) (fun (k : Nat) (out2 : List Nat) (c : Nat) => [box B24 24 (out2.map bH)]) 0 out 0 (hS.row hb)
    (zS rfl) (dL.refl _) (fun k out2 c hR=>?_)
   refine ts (ro rfl (gX (Ht rfl) (Ht rfl)) (eX (cK (dQ (Ht rfl) (fun hk=>?_) (fun hk=>?_)))))
   ·simp at hk
    have hlen:=hR.len; have hcl:=hR.clt; have hyk:=aP (bF n) k; have hok:=aP hR.dig (i + k)
    have hbnd:=qQ (aP (bF m) i) (aP (bF n) k) (aP hR.dig (i + k)) hR.clt
    simp only [BB] at hcl hyk hok hbnd
    refine cU (cK (eG (ts (rm rfl (ro rfl (dZ U_28 Z_24 (Ht rfl) (Ht rfl) rfl (dY (aR zo))) (ro rfl (dJ A_24 Z_24 (Ht rfl)) (ra rfl (ra rfl (eX (ts (rm rfl (rm rfl (ro rfl (gZ U_24 U_274 (Ht rfl) z7) (rm rfl (ro rfl (gZ U_24 U_274 (Ht rfl) z7) (ro rfl (kY (Ht rfl) (Ht rfl) (by show _ < 18446744073709551616; omega)) ?_))))))))))))))))
    refine rm rfl (rm rfl (rm rfl (ro rfl (dV (Ht rfl) (Ht rfl) z6) (ro rfl (fY U_28 Z_24 (Ht rfl) (Ht rfl) rfl zo (by rw [Nat.mul_one,Nat.zero_add])) ?_))))
    refine ro rfl (eY A_24 Z_24 (Ht rfl) (i:=0) rfl (dY (aR zo))) (ro rfl (gZ U_24 U_274 (Ht rfl) z7) (ro rfl (dV (Ht rfl) (Ht rfl) z7) (ro rfl (dV (Ht rfl) (Ht rfl) z7) (ra rfl (eX (ts (rm rfl (rm rfl (rm rfl (ro rfl (dV (Ht rfl) (Ht rfl) z6) ?_))))))))))
    refine rm rfl (ro rfl (gS rfl U_274 U_24 (Ht rfl)) (ro rfl (fY U_28 Z_24 (Ht rfl) (Ht rfl) rfl zo (by rw [Nat.mul_one,Nat.zero_add])) ?_))
    refine lT Z_24 (Ht rfl) (Ht rfl) (i:=0) rfl (by first | omega | (simp; omega)) rfl (eX (cY (rm rfl (ro rfl (fF (Ht rfl) (cJ 32) (by decide)) (ra rfl (eX (cA (cY (ro rfl (dV (Ht rfl) (cJ 1) z6) (rm rfl (eX (fU (k + 1,_,_) (hR.next (bF m) (bF n) hk rfl) (by dsimp only; omega) (zS rfl) (aU (aI (gI _ _ _)) aY)))))))))))))
   ·simp at hk
    have hkl:k = (dg n).length:=Nat.le_antisymm hR.kle hk
    subst hkl
    have hlen:=hR.len; have hcl:=hR.clt
    simp only [BB] at hcl
    refine gV rfl (cY (rm rfl (rm rfl (rm rfl (ro rfl (dG U_28 (Ht rfl) aA) (ro rfl (dV (Ht rfl) (Ht rfl) z6) (rm rfl (ro rfl (gZ U_274 U_24 (Ht rfl) (by show _ < 4294967296; first | omega | (simp only [jF]; omega))) (ro rfl (fY U_28 Z_24 (Ht rfl) (Ht rfl) rfl zo (by rw [Nat.mul_one,Nat.zero_add])) ?_)))))))))
    refine lT Z_24 (Ht rfl) (Ht rfl) (i:=0) rfl (by first | omega | (simp; omega)) rfl (eX (cA (cY (ro rfl (dV (Ht rfl) (cJ 1) z6) (rm rfl (eX (fU (i + 1,_) (hR.fin) (by dsimp only; omega) (zS rfl) (aU (aI (gI _ _ _)) aY))))))))
  ·simp at hb
   have hkl:i = (dg m).length:=Nat.le_antisymm hS.ile hb
   subst hkl
   have hlen:=hS.len
   have hfin:=hS.fin
   rw [cE,cE] at hfin
   refine gV rfl (gJ (i:=0) (tt:=5) rfl rfl (mZ rfl hlen.symm (Nat.le_refl _)) (ts (rm rfl (ro rfl (cZ K_203 (lY _ hS.dig zo) ⟨(Ht rfl),trivial⟩) (ra rfl (eX (fW rfl (fX (eU rfl) ?_))))))))
   exact (dI hfin)
end
end Go.Proofs.YthcmlodgnfekeaaGreat
