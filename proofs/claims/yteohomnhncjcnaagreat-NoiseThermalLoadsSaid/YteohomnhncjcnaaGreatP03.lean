/- What functions of the program compute, proved by walks over their code, and the plain mathematics of it; a part of the proof in the last text. -/
import Derived.Test.YteohomnhncjcnaaGreatP02
set_option linter.unusedVariables false
set_option linter.unusedSimpArgs false
set_option maxRecDepth 100000
set_option maxHeartbeats 4000000
namespace Go.Proofs.YteohomnhncjcnaaGreat
section
open Go Go.RowKit
namespace C
inductive Ob:Type 1 where
 | val (T:Ty)
 | blk (src:Option Nat) (keep:Bool) (γ:Type) (T:γ → Ty) (A:γ → SA)
 | dep (t u:Nat) (F:Ty → Ty → Ty) (I:Ty → Prop)
def Src (ops : List Oper) (m : Nat) (E0 : dI) (prev : List (Nat × Ob)) (o : Oper) (t : Nat) (T : Ty) : Prop :=
 (gK E0 t = some T ∧ ((List.range m).all fun j=>!(gF ops j == some t)) = true) ∨
 ∃ j,prev.reverse[j]? = some (t,.val T) ∧ (o.after.toList.any fun e=>Nat.beq e.on j && Region.binds .any e) = true
theorem Src.pre {ops:List Oper} {m:Nat} {E0:dI} {prev:List (Nat × Ob)} {o:Oper} {t:Nat} {T:Ty} (h:gK E0 t = some T) (h':((List.range m).all fun j=>!(gF ops j == some t)) = true):Src ops m E0 prev o t T:=.inl ⟨h,h'⟩
theorem Src.op {ops:List Oper} {m:Nat} {E0:dI} {prev:List (Nat × Ob)} {o:Oper} {t:Nat} {T:Ty} (j:Nat) (h:prev.reverse[j]? = some (t,.val T)) (h':(o.after.toList.any fun e=>Nat.beq e.on j && Region.binds .any e) = true):Src ops m E0 prev o t T:=.inr ⟨j,h,h'⟩
def Srcs (ops:List Oper) (m:Nat) (E0:dI) (prev:List (Nat × Ob)) (o:Oper) (Ei:dI):Prop:=∀ t T,gK Ei t = some T → Src ops m E0 prev o t T
theorem Srcs.nil {ops:List Oper} {m:Nat} {E0:dI} {prev:List (Nat × Ob)} {o:Oper}:Srcs ops m E0 prev o []:=fun t T h=>by cases h
theorem Srcs.cons {ops : List Oper} {m : Nat} {E0 Ei : dI} {prev : List (Nat × Ob)} {o : Oper} {t : Nat} {T : Ty} (h : Src ops m E0 prev o t T) (k : Srcs ops m E0 prev o Ei) : Srcs ops m E0 prev o ((t, T) :: Ei) := fun u U hl => by
 rw [dP] at hl
 by_cases e:t = u
 ·subst e; rw [if_pos rfl] at hl; obtain rfl:=Option.some.inj hl; exact h
 ·rw [if_neg e] at hl; exact k u U hl
section
variable {P:Program} {R:iW} {cx:Cx} {n:Nat} {k:List It} {E:dI} {H:Hp}
def Zk : List (Nat × Ob) → Nat → Bool
 | [],_=>false
 | (_,.blk (some p) _ _ _ _) :: r,q=>Nat.beq p q || Zk r q
 | _ :: r,q=>Zk r q
theorem Hi {q : Nat} : ∀ {l : List (Nat × Ob)}, Zk l q = false → ∀ {d : Nat} {kp : Bool} {γ : Type} {T : γ → Ty} {A : γ → SA}, (d, Ob.blk (some q) kp γ T A) ∈ l → False
 | [],_,_,_,_,_,_,h=>by cases h
 | (d', b) :: r, hu, d, kp, γ, T, A, h => by
  rcases List.mem_cons.1 h with e | e
  ·cases e
   simp [Zk,Nat.beq_refl] at hu
  ·refine Hi (l := r) ?_ e
   cases b with
   | val T=>exact hu
   | dep t u F I=>exact hu
   | blk src kp' γ' T' A' =>
    cases src with
    | none=>exact hu
    | some p=>simp [Zk] at hu; exact hu.2
def Qj : Ob → Ty → Prop
 | .val T0,T=>T = T0
 | .blk _ _ _ T0 _,T=>∃ x,T = T0 x
 | .dep _ _ _ I,T=>I T
def Da (P : Program) (n : Nat) (ops : List Oper) (m : Nat) (E0 : dI) (H : Hp) (prev : List (Nat × Ob)) (o : Oper) : Ob → Prop
 | .val T=>∃ Ei,Srcs ops m E0 prev o Ei ∧ iX P n ops.toArray Ei H o T
 | .blk none _ γ T A=>o.guard = none ∧ ∃ Ei,Srcs ops m E0 prev o Ei ∧ jR P n Ei H o γ T A
 | .blk (some q) _ γ T A=>o.guard = none ∧ ∃ Ei t src γq Tq Aq,prev.reverse[q]? = some (t,.blk src false γq Tq Aq) ∧ (o.after.toList.any fun e=>Nat.beq e.on q && Region.binds .any e) = true ∧ Srcs ops m E0 prev o Ei ∧ (∀ x,Mh P n ((t,Tq x) :: Ei) (Aq x) o γ T A) ∧ Zk prev q = false
 | .dep t u F I => ∃ j b j' b', prev.reverse[j]? = some (t, b) ∧ (o.after.toList.any fun e => Nat.beq e.on j && Region.binds .any e) = true ∧ prev.reverse[j']? = some (u, b') ∧ (o.after.toList.any fun e => Nat.beq e.on j' && Region.binds .any e) = true ∧
   ∀ T U,Qj b T → Qj b' U → iX P n ops.toArray [(t,T),(u,U)] H o (F T U) ∧ I (F T U)
def oL (P : Program) (n : Nat) (ops : List Oper) (m : Nat) (E0 : dI) (H : Hp) : List (Nat × Ob) → Prop
 | []=>True
 | (d,b) :: prev=>(∃ o,ops[prev.length]? = some o ∧ o.dst = some d ∧ d < n ∧ Da P n ops m E0 H prev o b) ∧ oL P n ops m E0 H prev
def Dr (P : Program) (R : iW) (cx : Cx) (n : Nat) (ops : List Oper) (m : Nat) (k : List It) (E0 : dI) (H : Hp) (l : List Oper) (acc : List (Nat × Ob)) : Prop :=
 ops = (ops.take acc.length) ++ l → oL P n ops m E0 H acc → ∀ id,Tr P R cx n (.code (.region id ops.toArray true) :: k) E0 H
def Fin' (P : Program) (R : iW) (cx : Cx) (n : Nat) (ops : Array Oper) (l : List Oper) (k : List It) : List (Nat × Ob) → dI → Hp → Prop
 | [],E,H=>Rg P R cx n ops l k E H
 | (d,.val T) :: r,E,H=>Fin' P R cx n ops l k r ((d,T) :: E) H
 | (d,.blk _ true γ T A) :: r,E,H=>∀ x:γ,Fin' P R cx n ops l k r ((d,T x) :: E) (H ++ [A x])
 | (d,.blk _ false γ T A) :: r,E,H=>∀ x:γ,Fin' P R cx n ops l k r ((d,T x) :: E) H
 | (d,.dep t u F _) :: r,E,H=>∀ T U,gK E t = some T → gK E u = some U → Fin' P R cx n ops l k r ((d,F T U) :: E) H
theorem D_start {ops:List Oper} {m:Nat} {id:Nat} (h:Dr P R cx n ops m k E H ops []):Tr P R cx n (.code (.region id ops.toArray true) :: k) E H:=h (by simp) trivial id
theorem D_step {ops l : List Oper} {m : Nat} {o : Oper} {acc : List (Nat × Ob)} {d : Nat} {T : Ty} {Ei : dI} (hd : o.dst = some d) (hn : Nat.blt d n = true) (hs : Srcs ops m E acc o Ei) (hst : iX P n ops.toArray Ei H o T)
  (h:Dr P R cx n ops m k E H l ((d,.val T) :: acc)):Dr P R cx n ops m k E H (o :: l) acc:=fun hops hobs=>by
 have hlen : acc.length ≤ ops.length := by
  have:=congrArg List.length hops
  simp at this; omega
 have ho : ops[acc.length]? = some o := by
  rw [hops,List.getElem?_append_right (by simp; omega)]
  simp [Nat.min_eq_left hlen]
 have hlt:acc.length < ops.length:=(List.getElem?_eq_some_iff.1 ho).1
 refine h ?_ ⟨⟨o,ho,hd,Nat.le_of_ble_eq_true hn,Ei,hs,hst⟩,hobs⟩
 rw [List.length_cons,List.take_succ_eq_append_getElem hlt]
 have:ops[acc.length] = o:=by simpa [hlt] using ho
 rw [this]
 simpa using hops
theorem a5e (kp : Bool) {ops l : List Oper} {m : Nat} {o : Oper} {acc : List (Nat × Ob)} {d : Nat} {γ : Type} {T : γ → Ty} {A : γ → SA} {Ei : dI} (hg : o.guard = none) (hd : o.dst = some d) (hn : Nat.blt d n = true) (hs : Srcs ops m E acc o Ei) (hst : jR P n Ei H o γ T A)
  (h:Dr P R cx n ops m k E H l ((d,.blk none kp γ T A) :: acc)):Dr P R cx n ops m k E H (o :: l) acc:=fun hops hobs=>by
 have hlen : acc.length ≤ ops.length := by
  have:=congrArg List.length hops
  simp at this; omega
 have ho : ops[acc.length]? = some o := by
  rw [hops,List.getElem?_append_right (by simp; omega)]
  simp [Nat.min_eq_left hlen]
 have hlt:acc.length < ops.length:=(List.getElem?_eq_some_iff.1 ho).1
 refine h ?_ ⟨⟨o,ho,hd,Nat.le_of_ble_eq_true hn,hg,Ei,hs,hst⟩,hobs⟩
 rw [List.length_cons,List.take_succ_eq_append_getElem hlt]
 have:ops[acc.length] = o:=by simpa [hlt] using ho
 rw [this]
 simpa using hops
theorem D_new {ops l : List Oper} {m : Nat} {o : Oper} {acc : List (Nat × Ob)} {d : Nat} {γ : Type} {T : γ → Ty} {A : γ → SA} {Ei : dI} (hg : o.guard = none) (hd : o.dst = some d) (hn : Nat.blt d n = true) (hs : Srcs ops m E acc o Ei) (hst : jR P n Ei H o γ T A)
  (h:Dr P R cx n ops m k E H l ((d,.blk none true γ T A) :: acc)):Dr P R cx n ops m k E H (o :: l) acc:=a5e true hg hd hn hs hst h
theorem a74 {ops l : List Oper} {m : Nat} {o : Oper} {acc : List (Nat × Ob)} {d t u : Nat} {b b' : Ob} (F : Ty → Ty → Ty) (I : Ty → Prop) (j j' : Nat) (hd : o.dst = some d) (hn : Nat.blt d n = true) (hj : acc.reverse[j]? = some (t, b)) (he : (o.after.toList.any fun e => Nat.beq e.on j && Region.binds .any e) = true)
  (hj':acc.reverse[j']? = some (u,b')) (he':(o.after.toList.any fun e=>Nat.beq e.on j' && Region.binds .any e) = true) (hst:∀ T U,Qj b T → Qj b' U → iX P n ops.toArray [(t,T),(u,U)] H o (F T U) ∧ I (F T U))
  (h:Dr P R cx n ops m k E H l ((d,.dep t u F I) :: acc)):Dr P R cx n ops m k E H (o :: l) acc:=fun hops hobs=>by
 have hlen : acc.length ≤ ops.length := by
  have:=congrArg List.length hops
  simp at this; omega
 have ho : ops[acc.length]? = some o := by
  rw [hops,List.getElem?_append_right (by simp; omega)]
  simp [Nat.min_eq_left hlen]
 have hlt:acc.length < ops.length:=(List.getElem?_eq_some_iff.1 ho).1
 refine h ?_ ⟨⟨o,ho,hd,Nat.le_of_ble_eq_true hn,j,b,j',b',hj,he,hj',he',hst⟩,hobs⟩
 rw [List.length_cons,List.take_succ_eq_append_getElem hlt]
 have:ops[acc.length] = o:=by simpa [hlt] using ho
 rw [this]
 simpa using hops
def kW : Ob → Ty × SA → Prop
 | .val T,c=>c = (T,SA.emp)
 | .blk _ kp γ T A,c=>∃ x:γ,c.1 = T x ∧ (kp = true → c.2 = A x)
 | .dep _ _ _ I,c=>c.2 = SA.emp ∧ I c.1
theorem kW.fits : ∀ {b : Ob} {c : Ty × SA}, kW b c → Qj b c.1
 | .val T,c,h=>by rw [show c = (T,SA.emp) from h]; rfl
 | .blk _ _ _ _ _,c,h=>by obtain ⟨x,h1,_⟩:=h; exact ⟨x,h1⟩
 | .dep _ _ _ _,_,h=>h.2
theorem oL.get {ops : List Oper} {m : Nat} : ∀ {acc : List (Nat × Ob)}, oL P n ops m E H acc → ∀ {i : Nat} {d : Nat} {b : Ob}, acc.reverse[i]? = some (d, b) →
  ∃ o,ops[i]? = some o ∧ o.dst = some d ∧ d < n ∧ Da P n ops m E H ((acc.reverse.take i).reverse) o b
 | [],_,i,d,b,h=>by simp at h
 | (d', b') :: prev, ⟨⟨o, h1, h2, h3, h4⟩, hp⟩, i, d, b, h => by
  rw [List.reverse_cons] at h
  by_cases e:i < prev.reverse.length
  ·rw [List.getElem?_append_left e] at h
   obtain ⟨o',q1,q2,q3,q4⟩:=hp.get h
   refine ⟨o',q1,q2,q3,?_⟩
   rw [List.reverse_cons,List.take_append_of_le_length (by omega)]; exact q4
  ·have hi : i = prev.length := by
    have:=(List.getElem?_eq_some_iff.1 h).1
    simp at this e; omega
   subst hi
   rw [List.getElem?_append_right (by simp)] at h
   simp at h
   obtain ⟨rfl,rfl⟩:=h
   refine ⟨o,h1,h2,h3,?_⟩
   rw [List.reverse_cons,List.take_append_of_le_length (by simp),List.take_of_length_le (by simp),List.reverse_reverse]
   exact h4
theorem oL.len {ops : List Oper} {m : Nat} : ∀ {acc : List (Nat × Ob)}, oL P n ops m E H acc → ∀ i (h : i < acc.length), ∃ d b, acc.reverse[i]? = some (d, b) := fun {acc} _ i h =>
 ⟨_,_,by rw [List.getElem?_eq_getElem (by simpa using h)]⟩
def AtS (r : List (Nat × Ob)) (E : dI) (C : Nat → Ty × SA) (i0 i t : Nat) (T : Ty) : Prop :=
 (∃ q b,q < i ∧ r[q]? = some (t,b) ∧ T = (C (i0 + q)).1 ∧ ∀ q' d' b',q < q' → q' < i → r[q']? = some (d',b') → d' ≠ t) ∨ (gK E t = some T ∧ ∀ q' d' b',q' < i → r[q']? = some (d',b') → d' ≠ t)
theorem AtS.next {r:List (Nat × Ob)} {d0:Nat} {b0:Ob} {E:dI} {C:Nat → Ty × SA} {i0 i t:Nat} {T:Ty} (h:AtS ((d0,b0) :: r) E C i0 (i + 1) t T):AtS r ((d0,(C i0).1) :: E) C (i0 + 1) i t T:=by
 rcases h with ⟨q,b,h1,h2,h3,h4⟩ | ⟨h1,h2⟩
 ·cases q with
  | zero =>
   simp at h2
   obtain ⟨rfl,rfl⟩:=h2
   right
   refine ⟨?_,fun q' d' b' hq hr=>h4 (q' + 1) d' b' (by omega) (by omega) (by simpa using hr)⟩
   rw [dP,if_pos rfl,h3,Nat.add_zero]
  | succ q =>
   left
   refine ⟨q,b,by omega,by simpa using h2,?_,fun q' d' b' hq hq2 hr=>h4 (q' + 1) d' b' (by omega) (by omega) (by simpa using hr)⟩
   rw [h3,show i0 + (q + 1) = i0 + 1 + q by omega]
 ·right
  have h0:d0 ≠ t:=h2 0 d0 b0 (by omega) rfl
  refine ⟨?_,fun q' d' b' hq hr=>h2 (q' + 1) d' b' (by omega) (by simpa using hr)⟩
  rw [dP,if_neg h0,h1]
def a5f (r:List (Nat × Ob)) (E:dI) (C:Nat → Ty × SA) (i0:Nat):Prop:=∀ (i d t u:Nat) (F:Ty → Ty → Ty) (I:Ty → Prop),r[i]? = some (d,.dep t u F I) → ∃ T U,(C (i0 + i)).1 = F T U ∧ AtS r E C i0 i t T ∧ AtS r E C i0 i u U
theorem Dv {r : List (Nat × Ob)} {d0 : Nat} {b0 : Ob} {E : dI} {C : Nat → Ty × SA} {i0 : Nat} (hG : a5f ((d0, b0) :: r) E C i0) : a5f r ((d0, (C i0).1) :: E) C (i0 + 1) := fun i d t u F I h => by
 obtain ⟨T,U,h1,h2,h3⟩:=hG (i + 1) d t u F I (by simpa using h)
 exact ⟨T,U,by rw [← h1,show i0 + (i + 1) = i0 + 1 + i by omega],h2.next,h3.next⟩
theorem kB {ops : List Oper} {l : List Oper} : ∀ (r : List (Nat × Ob)) (E : dI) (H : Hp), Fin' P R cx n ops.toArray l k r E H → ∀ (C : Nat → Ty × SA) (i0 : Nat), (∀ (i d : Nat) (b : Ob), r[i]? = some (d, b) → kW b (C (i0 + i))) → a5f r E C i0 →
  ∃ E' H', Rg P R cx n ops.toArray l k E' H' ∧ (∀ t T, gK E' t = some T → (gK E t = some T ∧ ∀ (i d : Nat) (b : Ob), r[i]? = some (d, b) → d ≠ t) ∨ ∃ (i d : Nat) (b : Ob), r[i]? = some (d, b) ∧ d = t ∧ T = (C (i0 + i)).1) ∧
   List.Sublist H' (H ++ (List.range r.length).map fun i=>(C (i0 + i)).2)
 | [],E,H,h,_,_,_,_=>⟨E,H,h,fun t T hT=>.inl ⟨hT,fun i d b hb=>by simp at hb⟩,by simp⟩
 | (d, .val T0) :: r, E, H, h, C, i0, hC, hG => by
  have h0':(C i0).1 = T0:=by rw [show C i0 = (T0,SA.emp) from hC 0 d (.val T0) rfl]
  obtain ⟨E',H',h1,h2,h3⟩:=kB r _ H h C (i0 + 1) (fun i d b hb=>by have:=hC (i + 1) d b (by simpa using hb); rwa [show i0 + (i + 1) = i0 + 1 + i by omega] at this) (by rw [← h0']; exact Dv hG)
  have h0:C i0 = (T0,SA.emp):=hC 0 d (.val T0) rfl
  refine ⟨E',H',h1,fun t T hT=>?_,h3.trans ?_⟩
  ·rcases h2 t T hT with ⟨q1, q2⟩ | ⟨i, d', b, q1, q2, q3⟩
   ·rw [dP] at q1
    by_cases e:d = t
    ·rw [if_pos e] at q1; obtain rfl := Option.some.inj q1
     exact .inr ⟨0,d,_,rfl,e,by rw [Nat.add_zero,h0]⟩
    ·rw [if_neg e] at q1
     refine .inl ⟨q1,fun i d' b hb=>?_⟩
     cases i with
     | zero=>simp at hb; exact hb.1 ▸ e
     | succ i=>exact q2 i d' b (by simpa using hb)
   ·exact .inr ⟨i + 1,d',b,by simpa using q1,q2,by rw [q3,show i0 + (i + 1) = i0 + 1 + i by omega]⟩
  ·simp only [List.length_cons, List.range_succ_eq_map, List.map_cons, List.map_map]
   refine List.Sublist.append (List.Sublist.refl H) ?_
   refine List.Sublist.cons _ ?_
   have : (fun i => (C (i0 + 1 + i)).2) = ((fun i => (C (i0 + i)).2) ∘ Nat.succ) := by
    funext i; simp [show i0 + (i + 1) = i0 + 1 + i by omega]
   rw [this]; exact List.Sublist.refl _
 | (d, .dep t0 u0 F0 I0) :: r, E, H, h, C, i0, hC, hG => by
  obtain ⟨T0,U0,hF,hA,hB⟩:=hG 0 d t0 u0 F0 I0 rfl
  rw [Nat.add_zero] at hF
  have hl0 : gK E t0 = some T0 := by
   rcases hA with ⟨q,_,hq,_⟩ | ⟨h1,_⟩
   ·omega
   ·exact h1
  have hl1 : gK E u0 = some U0 := by
   rcases hB with ⟨q,_,hq,_⟩ | ⟨h1,_⟩
   ·omega
   ·exact h1
  obtain ⟨E',H',h1,h2,h3⟩:=kB r _ H (h _ _ hl0 hl1) C (i0 + 1) (fun i d b hb=>by have:=hC (i + 1) d b (by simpa using hb); rwa [show i0 + (i + 1) = i0 + 1 + i by omega] at this) (by rw [← hF]; exact Dv hG)
  refine ⟨E',H',h1,fun t T hT=>?_,h3.trans ?_⟩
  ·rcases h2 t T hT with ⟨q1, q2⟩ | ⟨i, d', b, q1, q2, q3⟩
   ·rw [dP] at q1
    by_cases e:d = t
    ·rw [if_pos e] at q1; obtain rfl := Option.some.inj q1
     exact .inr ⟨0,d,_,rfl,e,by rw [Nat.add_zero,hF]⟩
    ·rw [if_neg e] at q1
     refine .inl ⟨q1,fun i d' b hb=>?_⟩
     cases i with
     | zero=>simp at hb; exact hb.1 ▸ e
     | succ i=>exact q2 i d' b (by simpa using hb)
   ·exact .inr ⟨i + 1,d',b,by simpa using q1,q2,by rw [q3,show i0 + (i + 1) = i0 + 1 + i by omega]⟩
  ·simp only [List.length_cons, List.range_succ_eq_map, List.map_cons, List.map_map]
   refine List.Sublist.append (List.Sublist.refl H) ?_
   refine List.Sublist.cons _ ?_
   have : (fun i => (C (i0 + 1 + i)).2) = ((fun i => (C (i0 + i)).2) ∘ Nat.succ) := by
    funext i; simp [show i0 + (i + 1) = i0 + 1 + i by omega]
   rw [this]; exact List.Sublist.refl _
 | (d, .blk src0 true γ T0 A0) :: r, E, H, h, C, i0, hC, hG => by
  obtain ⟨x, h0⟩ : ∃ x : γ, C i0 = (T0 x, A0 x) := by
   obtain ⟨x,q1,q2⟩:=hC 0 d (.blk src0 true γ T0 A0) rfl
   exact ⟨x,Prod.ext q1 (q2 rfl)⟩
  obtain ⟨E',H',h1,h2,h3⟩:=kB r _ _ (h x) C (i0 + 1) (fun i d b hb=>by have:=hC (i + 1) d b (by simpa using hb); rwa [show i0 + (i + 1) = i0 + 1 + i by omega] at this) (by rw [show T0 x = (C i0).1 by rw [h0]]; exact Dv hG)
  refine ⟨E',H',h1,fun t T hT=>?_,h3.trans ?_⟩
  ·rcases h2 t T hT with ⟨q1, q2⟩ | ⟨i, d', b, q1, q2, q3⟩
   ·rw [dP] at q1
    by_cases e:d = t
    ·rw [if_pos e] at q1; obtain rfl := Option.some.inj q1
     exact .inr ⟨0,d,_,rfl,e,by rw [Nat.add_zero,h0]⟩
    ·rw [if_neg e] at q1
     refine .inl ⟨q1,fun i d' b hb=>?_⟩
     cases i with
     | zero=>simp at hb; exact hb.1 ▸ e
     | succ i=>exact q2 i d' b (by simpa using hb)
   ·exact .inr ⟨i + 1,d',b,by simpa using q1,q2,by rw [q3,show i0 + (i + 1) = i0 + 1 + i by omega]⟩
  ·simp only [List.length_cons, List.range_succ_eq_map, List.map_cons, List.map_map, List.append_assoc]
   refine List.Sublist.append (List.Sublist.refl H) ?_
   have : (fun i => (C (i0 + 1 + i)).2) = ((fun i => (C (i0 + i)).2) ∘ Nat.succ) := by
    funext i; simp [show i0 + (i + 1) = i0 + 1 + i by omega]
   rw [this]
   simp only [Nat.add_zero,h0]
   exact List.Sublist.refl _
 | (d, .blk src0 false γ T0 A0) :: r, E, H, h, C, i0, hC, hG => by
  obtain ⟨x,h0,_⟩:∃ x:γ,(C i0).1 = T0 x ∧ (false = true → (C i0).2 = A0 x):=hC 0 d (.blk src0 false γ T0 A0) rfl
  obtain ⟨E',H',h1,h2,h3⟩:=kB r _ H (h x) C (i0 + 1) (fun i d b hb=>by have:=hC (i + 1) d b (by simpa using hb); rwa [show i0 + (i + 1) = i0 + 1 + i by omega] at this) (by rw [← h0]; exact Dv hG)
  refine ⟨E',H',h1,fun t T hT=>?_,h3.trans ?_⟩
  ·rcases h2 t T hT with ⟨q1, q2⟩ | ⟨i, d', b, q1, q2, q3⟩
   ·rw [dP] at q1
    by_cases e:d = t
    ·rw [if_pos e] at q1; obtain rfl := Option.some.inj q1
     exact .inr ⟨0,d,_,rfl,e,by rw [Nat.add_zero,h0]⟩
    ·rw [if_neg e] at q1
     refine .inl ⟨q1,fun i d' b hb=>?_⟩
     cases i with
     | zero=>simp at hb; exact hb.1 ▸ e
     | succ i=>exact q2 i d' b (by simpa using hb)
   ·exact .inr ⟨i + 1,d',b,by simpa using q1,q2,by rw [q3,show i0 + (i + 1) = i0 + 1 + i by omega]⟩
  ·simp only [List.length_cons, List.range_succ_eq_map, List.map_cons, List.map_map]
   refine List.Sublist.append (List.Sublist.refl H) ?_
   refine List.Sublist.cons _ ?_
   have : (fun i => (C (i0 + 1 + i)).2) = ((fun i => (C (i0 + i)).2) ∘ Nat.succ) := by
    funext i; simp [show i0 + (i + 1) = i0 + 1 + i by omega]
   rw [this]; exact List.Sublist.refl _
theorem oL.dst {ops:List Oper} {m:Nat} {acc:List (Nat × Ob)} (h:oL P n ops m E H acc) {i d:Nat} {b:Ob} (hi:acc.reverse[i]? = some (d,b)):gF ops i = some d:=by
 obtain ⟨o,h1,h2,_⟩:=h.get hi
 simp [gF,h1,h2]
theorem tV {ops : List Oper} {m : Nat} {acc : List (Nat × Ob)} {E0 : dI} (hd : Qg ops m) (hlen : acc.length = m) (hobs : oL P n ops m E0 H acc) (hfin : Fin' P R cx n ops.toArray (ops.drop m) k acc.reverse E0 H)
  {L:Nat → Bool} {a:Act} {w:World} {V:bN} {C:Nat → Ty × SA} (hall:∀ i,i < m → L i = true) (hC:∀ (i d:Nat) (b:Ob),acc.reverse[i]? = some (d,b) → kW b (C i)) (hP:∀ (i d t u:Nat) (F:Ty → Ty → Ty) (I:Ty → Prop),acc.reverse[i]? = some (d,.dep t u F I) → ∃ q b q' b',(q < i ∧ acc.reverse[q]? = some (t,b)) ∧ (q' < i ∧ acc.reverse[q']? = some (u,b')) ∧ (C i).1 = F (C q).1 (C q').1) (hM:zI cx n ops m E0 H L C V a w) :
  wpList P ops.toArray (den P R k) (ops.drop m) a w:=by
 obtain ⟨E', H', h1, h2, h3⟩ := kB acc.reverse E0 H hfin C 0 (fun i d b hb => by rw [Nat.zero_add]; exact hC i d b hb) (fun i d t u F I ht => by
  obtain ⟨q,b,q',b',⟨q1,q2⟩,⟨p1,p2⟩,q3⟩:=hP i d t u F I ht
  have hi:=(List.getElem?_eq_some_iff.1 ht).1
  rw [List.length_reverse,hlen] at hi
  refine ⟨(C q).1,(C q').1,by rw [Nat.zero_add]; exact q3,.inl ⟨q,b,q1,q2,by rw [Nat.zero_add],fun z d' b' h1 h2 h3 e=>?_⟩,.inl ⟨q',b',p1,p2,by rw [Nat.zero_add],fun z d' b' h1 h2 h3 e=>?_⟩⟩
  ·subst e; exact hd.dst z q (by omega) h1 _ (hobs.dst h3) (hobs.dst q2)
  ·subst e; exact hd.dst z q' (by omega) h1 _ (hobs.dst h3) (hobs.dst p2))
 refine h1 a w ⟨V,hM.inv.hp_of (fun hh=>?_),hM.df,hM.sz,fun t T hT=>?_⟩
 ·refine HH.sublist (h3.trans ?_) hh
  rw [List.length_reverse,hlen]
  have : (List.range m).map (fun i => (C (0 + i)).2) = (List.range m).map fun i => if L i then (C i).2 else SA.emp := by
   apply List.map_congr_left
   intro i hi
   rw [hall i (List.mem_range.1 hi)]; simp
  rw [this]; exact List.Sublist.refl _
 ·rcases h2 t T hT with ⟨q1, q2⟩ | ⟨i, d, b, q1, q2, q3⟩
  ·refine hM.old t T q1 (fun j hj => ?_)
   obtain ⟨d,b,hb⟩:=oL.len hobs j (by omega)
   rw [hobs.dst hb]
   intro e; exact q2 j d b hb (Option.some.inj e)
  ·have hi : i < m := by have := (List.getElem?_eq_some_iff.1 q1).1; simpa [hlen] using this
   subst q2; rw [q3,Nat.zero_add]
   exact hM.now i d hi (hall i hi) (hobs.dst q1)
theorem pF {ops : List Oper} {m : Nat} {acc : List (Nat × Ob)} {E0 : dI} (hd : Qg ops m) (hlen : acc.length = m) (hobs : oL P n ops m E0 H acc) (hfin : Fin' P R cx n ops.toArray (ops.drop m) k acc.reverse E0 H) :
  ∀ (fuel : Nat) (listed : Array Bool) (a : Act) (w : World) (V : bN) (C : Nat → Ty × SA), LI ops listed → kG listed.toList ≤ fuel → (∀ i : Nat, m ≤ i → i < ops.length → listed[i]? = some false) →
   (∀ (i d:Nat) (b:Ob),acc.reverse[i]? = some (d,b) → listed[i]? = some true → kW b (C i)) → (∀ (i d t u:Nat) (F:Ty → Ty → Ty) (I:Ty → Prop),acc.reverse[i]? = some (d,.dep t u F I) → listed[i]? = some true → ∃ q b q' b',(q < i ∧ acc.reverse[q]? = some (t,b) ∧ listed[q]? = some true) ∧ (q' < i ∧ acc.reverse[q']? = some (u,b') ∧ listed[q']? = some true) ∧ (C i).1 = F (C q).1 (C q').1) → (∀ (i d:Nat) (src:Option Nat) (γ:Type) (T:γ → Ty) (A:γ → SA),acc.reverse[i]? = some (d,.blk src false γ T A) → listed[i]? = some true → (∀ (j d':Nat) (kp:Bool) (γ':Type) (T':γ' → Ty) (A':γ' → SA),acc.reverse[j]? = some (d',.blk (some i) kp γ' T' A') → listed[j]? = some false) → ∃ x:γ,C i = (T x,A x)) → zI cx n ops m E0 H (fun i=>listed[i]? == some true) C V a w → wpAny P .any ops.toArray (den P R k) fuel listed a w:=by
 intro fuel
 have done : ∀ (listed : Array Bool) (a : Act) (w : World) (V : bN) (C : Nat → Ty × SA), LI ops listed → ∀ fuel, kG listed.toList ≤ fuel → (∀ i : Nat, m ≤ i → i < ops.length → listed[i]? = some false) →
   (∀ (i d:Nat) (b:Ob),acc.reverse[i]? = some (d,b) → listed[i]? = some true → kW b (C i)) → (∀ (i d t u:Nat) (F:Ty → Ty → Ty) (I:Ty → Prop),acc.reverse[i]? = some (d,.dep t u F I) → listed[i]? = some true → ∃ q b q' b',(q < i ∧ acc.reverse[q]? = some (t,b) ∧ listed[q]? = some true) ∧ (q' < i ∧ acc.reverse[q']? = some (u,b') ∧ listed[q']? = some true) ∧ (C i).1 = F (C q).1 (C q').1) → zI cx n ops m E0 H (fun i=>listed[i]? == some true) C V a w → (∀ i:Nat,i < m → listed[i]? = some true) → wpAny P .any ops.toArray (den P R k) fuel listed a w:=by
  intro listed a w V C hL fuel hc hl hC hP hM hall
  have hge:=Di listed.toList m (by simpa [hL.sz] using hd.le) (fun i h1 h2=>by simpa using hl i h1 (by simpa [hL.sz] using h2))
  refine tI hd fuel m listed a w (Nat.le_refl m) hd.le (by simp [hL.sz] at hge; omega) hL (fun i hi=>?_) ?_
  ·by_cases e : i < m
   ·rw [hall i e]; simp [e]
   ·rw [hl i (by omega) hi]; simp; omega
  ·refine tV hd hlen hobs hfin (fun i hi => by rw [hall i hi]; rfl) (fun i d b hb => hC i d b hb (hall i ?_)) (fun i d t u F I ht => by
    obtain ⟨q,b,q',b',⟨q1,q2,_⟩,⟨p1,p2,_⟩,q3⟩:=hP i d t u F I ht (hall i (by have:=(List.getElem?_eq_some_iff.1 ht).1; simpa [hlen] using this))
    exact ⟨q,b,q',b',⟨q1,q2⟩,⟨p1,p2⟩,q3⟩) hM
   have:=(List.getElem?_eq_some_iff.1 hb).1
   simpa [hlen] using this
 induction fuel with
 | zero =>
  intro listed a w V C hL hc hl hC hP hA hM
  refine done listed a w V C hL 0 hc hl hC hP hM (fun i hi=>?_)
  have hil:i < listed.size:=by rw [hL.sz]; have:=hd.le; omega
  cases hb:listed[i] with
  | true=>simp [hil,hb]
  | false =>
   have:=uM listed.toList i (by simp [hil,hb])
   omega
 | succ fuel ih =>
  intro listed a w V C hL hc hl hC hP hA hM
  by_cases hall:∀ i:Nat,i < m → listed[i]? = some true
  ·exact done listed a w V C hL _ hc hl hC hP hM hall
  refine ⟨fun hr=>absurd (fun i hi=>tC hr hL.sz hd.back i (by have:=hd.le; omega)) hall,fun i hi=>?_⟩
  obtain ⟨o,h1,h2,h3⟩:=qS hi hL.sz
  have him : i < m := by
   rcases Nat.lt_or_ge i m with hx | hx
   ·exact hx
   ·exact absurd (fun j hj=>hL.before hd h1 h3 hx j (by omega)) hall
  obtain ⟨d,b,hb⟩:=oL.len hobs i (by omega)
  obtain ⟨o',q1,q2,q3,q4⟩:=hobs.get hb
  rw [h1] at q1; obtain rfl:=Option.some.inj q1
  have hdst:=hobs.dst hb
  have slots : ∀ Ei, Srcs ops m E0 (acc.reverse.take i).reverse o Ei → fO n Ei V a := fun Ei hS => by
   refine ⟨hM.df,hM.sz,fun t T hT=>?_⟩
   rcases hS t T hT with ⟨r1,r2⟩ | ⟨j,r1,r2⟩
   ·refine hM.old t T r1 (fun j hj e => ?_)
    have:=List.all_eq_true.1 r2 j (List.mem_range.2 hj)
    simp [e] at this
   ·rw [List.reverse_reverse, List.getElem?_take] at r1
    split at r1
    case isFalse=>cases r1
    case isTrue hji =>
    obtain ⟨e,he,hb'⟩:=List.any_eq_true.1 r2
    simp only [Bool.and_eq_true] at hb'
    have hon:e.on = j:=Nat.eq_of_beq_eq_true hb'.1
    have hlj:=h3 e he hb'.2
    rw [hon] at hlj
    have hc':C j = (T,SA.emp):=hC j t (.val T) r1 hlj
    obtain ⟨v,s1,s2⟩:=hM.now j t (by omega) (by rw [hlj]; rfl) (hobs.dst r1)
    exact ⟨v,s1,by rw [hc'] at s2; exact s2⟩
  have hcnt : kG (listed.setIfInBounds i true).toList ≤ fuel := by
   have:=uN listed.toList i (by simpa using h2)
   rw [Array.toList_setIfInBounds]; omega
  have hl' : ∀ j : Nat, m ≤ j → j < ops.length → (listed.setIfInBounds i true)[j]? = some false := fun j hj hjl => by
   rw [Array.getElem?_setIfInBounds_ne (by omega)]; exact hl j hj hjl
  have took : ∀ (C : Nat → Ty × SA), (∀ (i d : Nat) (b : Ob), acc.reverse[i]? = some (d, b) → listed[i]? = some true → kW b (C i)) → ∀ (T : Ty) (A : SA), kW b (T, A) → ∀ (j d : Nat) (b : Ob), acc.reverse[j]? = some (d, b) → (listed.setIfInBounds i true)[j]? = some true → kW b (if j = i then (T, A) else C j) := fun C hC T A ht j d' b' hb' hj => by
   by_cases e:j = i
   ·subst e
    rw [hb] at hb'; simp at hb'
    simp only [if_pos]; exact hb'.2 ▸ ht
   ·rw [Array.getElem?_setIfInBounds_ne (fun x => e x.symm)] at hj
    simp only [if_neg e]; exact hC j d' b' hb' hj
  have keepP : ∀ (C : Nat → Ty × SA), (∀ (i d t u : Nat) (F : Ty → Ty → Ty) (I : Ty → Prop), acc.reverse[i]? = some (d, .dep t u F I) → listed[i]? = some true → ∃ q b q' b', (q < i ∧ acc.reverse[q]? = some (t, b) ∧ listed[q]? = some true) ∧ (q' < i ∧ acc.reverse[q']? = some (u, b') ∧ listed[q']? = some true) ∧ (C i).1 = F (C q).1 (C q').1) → ∀ (T : Ty) (A : SA), (∀ t u F I, b = .dep t u F I → ∃ q b' q' b'', (q < i ∧ acc.reverse[q]? = some (t, b') ∧ listed[q]? = some true) ∧ (q' < i ∧ acc.reverse[q']? = some (u, b'') ∧ listed[q']? = some true) ∧ T = F (C q).1 (C q').1) →
    ∀ (j d t u:Nat) (F:Ty → Ty → Ty) (I:Ty → Prop),acc.reverse[j]? = some (d,.dep t u F I) → (listed.setIfInBounds i true)[j]? = some true → ∃ q b q' b',(q < j ∧ acc.reverse[q]? = some (t,b) ∧ (listed.setIfInBounds i true)[q]? = some true) ∧ (q' < j ∧ acc.reverse[q']? = some (u,b') ∧ (listed.setIfInBounds i true)[q']? = some true) ∧ (if j = i then (T,A) else C j).1 = F (if q = i then (T,A) else C q).1 (if q' = i then (T,A) else C q').1:=fun C hP T A hT j d' t u F I hj hlj=>by
   have nei:∀ q,listed[q]? = some true → q ≠ i:=fun q h e=>by rw [e,h2] at h; cases h
   have up:∀ q,listed[q]? = some true → (listed.setIfInBounds i true)[q]? = some true:=fun q h=>by rw [Array.getElem?_setIfInBounds_ne (fun x=>nei q h x.symm)]; exact h
   by_cases e:j = i
   ·subst e
    rw [hb] at hj; simp at hj
    obtain ⟨q,b',q',b'',⟨e1,e2,e3⟩,⟨g1,g2,g3⟩,e4⟩:=hT t u F I hj.2
    exact ⟨q,b',q',b'',⟨e1,e2,up q e3⟩,⟨g1,g2,up q' g3⟩,by rw [if_pos rfl,if_neg (nei q e3),if_neg (nei q' g3)]; exact e4⟩
   ·rw [Array.getElem?_setIfInBounds_ne (fun x => e x.symm)] at hlj
    obtain ⟨q,b',q',b'',⟨e1,e2,e3⟩,⟨g1,g2,g3⟩,e4⟩:=hP j d' t u F I hj hlj
    exact ⟨q,b',q',b'',⟨e1,e2,up q e3⟩,⟨g1,g2,up q' g3⟩,by rw [if_neg e,if_neg (nei q e3),if_neg (nei q' g3)]; exact e4⟩
  have keepA : ∀ (C' : Nat → Ty × SA), (∀ j, j ≠ i → (∀ (d' : Nat) (kp : Bool) (γ' : Type) (T' : γ' → Ty) (A' : γ' → SA), acc.reverse[i]? = some (d', .blk (some j) kp γ' T' A') → False) → C' j = C j) → ∀ (T : Ty) (A : SA), (∀ src γ T' A', b = .blk src false γ T' A' → ∃ x, (T, A) = (T' x, A' x)) →
    ∀ (j d:Nat) (src:Option Nat) (γ:Type) (T':γ → Ty) (A':γ → SA),acc.reverse[j]? = some (d,.blk src false γ T' A') → (listed.setIfInBounds i true)[j]? = some true → (∀ (j' d':Nat) (kp:Bool) (γ':Type) (T':γ' → Ty) (A':γ' → SA),acc.reverse[j']? = some (d',.blk (some j) kp γ' T' A') → (listed.setIfInBounds i true)[j']? = some false) → ∃ x:γ,(if j = i then (T,A) else C' j) = (T' x,A' x):=fun C' hC' T A hT j d' src γ T' A' hj hlj hun=>by
   by_cases e:j = i
   ·subst e
    rw [hb] at hj; simp at hj
    simp only [if_pos]; exact hT src γ T' A' hj.2
   ·rw [Array.getElem?_setIfInBounds_ne (fun x => e x.symm)] at hlj
    have hil:i < listed.size:=(Array.getElem?_eq_some_iff.1 h2).1
    have hne : ∀ (j' d' : Nat) (kp : Bool) (γ' : Type) (T' : γ' → Ty) (A' : γ' → SA), acc.reverse[j']? = some (d', .blk (some j) kp γ' T' A') → j' ≠ i := fun j' d' kp γ' T' A' q1 q2 => by
     have:=hun j' d' kp γ' T' A' q1
     rw [q2,Array.getElem?_setIfInBounds_self_of_lt hil] at this
     cases this
    rw [if_neg e,hC' j e (fun d' kp γ' T' A' q=>hne i d' kp γ' T' A' q rfl)]
    refine hA j d' src γ T' A' hj hlj (fun j' d' kp γ' T' A' q=>?_)
    have:=hun j' d' kp γ' T' A' q
    rwa [Array.getElem?_setIfInBounds_ne (fun x=>hne j' d' kp γ' T' A' q x.symm)] at this
  have hx : ((List.range m).map fun i => if (listed[i]? == some true) = true then (C i).2 else SA.emp).set i SA.emp = (List.range m).map fun i => if (listed[i]? == some true) = true then (C i).2 else SA.emp := by
   rw [qF him]
   apply List.map_congr_left
   intro j _
   by_cases e:j = i
   ·subst e; simp [h2]
   ·simp [e]
  unfold wpOp
  simp only [List.getElem?_toArray,h1]
  cases b with
  | val T =>
   obtain ⟨Ei,hS,hst⟩:=q4
   have := hst cx _ a w V hM.inv (slots Ei hS) (wpAny P .any ops.toArray (den P R k) fuel (listed.setIfInBounds i true)) (den P R k) (fun v w' V' hi' hle hv => by
    rw [q2]
    exact ih _ _ _ V' _ (hL.set h1 h3) hcnt hl' (took C hC T SA.emp rfl) (keepP C hP T SA.emp (fun t u F I e=>by cases e)) (keepA C (fun _ _ _=>rfl) T SA.emp (fun src γ T' A' e=>by cases e)) (hM.next hd hL.sz him hdst q3 h2 hv hle (by rw [hx]; exact hi')))
   split
   ·rename_i hw; rw [if_pos hw] at this; exact .inl this
   ·rename_i hw; rw [if_neg hw] at this; exact this
  | blk src kp γ T A =>
   cases src with
   | none =>
    obtain ⟨hg,Ei,hS,hst⟩:=q4
    rw [if_pos (by simp [Region.wanted,hg])]
    left
    refine hst cx _ a w V hM.inv (slots Ei hS) _ _ fun x v w' V' e3 hle e2=>?_
    rw [q2]
    refine ih _ _ _ V' _ (hL.set h1 h3) hcnt hl' (took C hC (T x) (A x) ⟨x,rfl,fun _=>rfl⟩) (keepP C hP (T x) (A x) (fun t u F I e=>by cases e)) (keepA C (fun _ _ _=>rfl) (T x) (A x) (fun src γ T' A' e=>by cases e; exact ⟨x,rfl⟩)) (hM.next hd hL.sz him hdst q3 h2 e2 hle (e3.hp_of (fun hh=>?_)))
    have:=HH.move (p:=H.length + i) hh (by simp; omega)
    rw [List.set_append_right _ _ (by omega),show H.length + i - H.length = i by omega] at this
    exact this
   | some q =>
    obtain ⟨hg,Ei,t,src,γq,Tq,Aq,r1,r2,hS,hst,hu⟩:=q4
    rw [List.reverse_reverse,List.getElem?_take] at r1
    split at r1
    case isFalse=>cases r1
    case isTrue hqi =>
    obtain ⟨e,he,hb'⟩:=List.any_eq_true.1 r2
    simp only [Bool.and_eq_true] at hb'
    have hon:e.on = q:=Nat.eq_of_beq_eq_true hb'.1
    have hlq:=h3 e he hb'.2
    rw [hon] at hlq
    have hqm:q < m:=by omega
    obtain ⟨x, hx⟩ := hA q t src γq Tq Aq r1 hlq (fun j d' kp' γ' T' A' hj => by
     by_cases e:j = i
     ·rw [e]; exact h2
     rcases Nat.lt_or_ge j i with hji | hji
     ·exfalso
      have hmem : (d', Ob.blk (some q) kp' γ' T' A') ∈ (acc.reverse.take i) := by
       refine List.mem_of_getElem? (i:=j) ?_
       rw [List.getElem?_take,if_pos hji]; exact hj
      exact Hi hu (by simpa using hmem)
     ·exfalso
      obtain ⟨o',_,_,_,z4⟩:=hobs.get hj
      obtain ⟨_,_,_,_,_,_,_,_,_,_,_,hu'⟩:=z4
      have hmem : (d, Ob.blk (some q) kp γ T A) ∈ (acc.reverse.take j) := by
       refine List.mem_of_getElem? (i:=i) ?_
       rw [List.getElem?_take,if_pos (by omega)]; exact hb
      exact Hi hu' (by simpa using hmem))
    have hentry : (H ++ (List.range m).map fun i => if (listed[i]? == some true) = true then (C i).2 else SA.emp)[H.length + q]? = some (Aq x) := by
     rw [List.getElem?_append_right (by omega),show H.length + q - H.length = q by omega,List.getElem?_map,List.getElem?_range hqm]
     simp [hlq,hx]
    obtain ⟨v0,s1,s2⟩:=hM.now q t (by omega) (by rw [hlq]; rfl) (hobs.dst r1)
    rw [hx] at s2
    have hsl : fO n ((t, Tq x) :: Ei) V a := by
     have hs0:=slots Ei hS
     refine ⟨hs0.1,hs0.2.1,fun u U hU=>?_⟩
     rw [dP] at hU
     by_cases e:t = u
     ·rw [if_pos e] at hU; obtain rfl:=Option.some.inj hU; subst e; exact ⟨v0,s1,s2⟩
     ·rw [if_neg e] at hU; exact hs0.2.2 u U hU
    obtain ⟨y,v,w',e1,e2,e3⟩:=a4L (hst x) hM.inv hentry hsl
    rw [if_pos (by simp [Region.wanted,hg])]
    left
    simp only [Oper.wp,e1,Oper.upon_value,q2]
    obtain ⟨C1,hC1⟩:∃ C1:Nat → Ty × SA,C1 = fun j=>if j = q then ((C q).1,SA.emp) else C j:=⟨_,rfl⟩
    have hC1t : ∀ j, (C1 j).1 = (C j).1 := fun j => by
     rw [hC1]; by_cases e:j = q
     ·simp [e]
     ·simp [e]
    have hset : ((List.range m).map fun i => if (listed[i]? == some true) = true then (C1 i).2 else SA.emp) = ((List.range m).map fun i => if (listed[i]? == some true) = true then (C i).2 else SA.emp).set q SA.emp := by
     rw [qF hqm]
     apply List.map_congr_left
     intro j _
     by_cases e:j = q
     ·subst e; rw [hC1]; simp
     ·rw [hC1]; simp [e]
    have hM1 : zI cx n ops m E0 H (fun i => listed[i]? == some true) C1 V a w := by
     refine ⟨hM.inv.hp_of (fun hh=>?_),hM.df,hM.sz,hM.old,fun j d hj hL hd=>by rw [hC1t]; exact hM.now j d hj hL hd⟩
     rw [hset]
     have h5:=HH.last hh hentry
     rw [List.set_append_right _ _ (by omega),show H.length + q - H.length = q by omega] at h5
     exact HH.sublist (List.sublist_append_left _ _) h5
    refine ih _ _ _ V _ (hL.set h1 h3) hcnt hl' (took C1 (fun j d' b' hj hlj=>?_) (T y) (A y) ⟨y,rfl,fun _=>rfl⟩) (keepP C1 (fun j d' t' u' F' I' hj hlj=>?_) (T y) (A y) (fun t u F I e=>by cases e)) (keepA C1 (fun j hji hj=>?_) (T y) (A y) (fun src γ T' A' e=>by cases e; exact ⟨y,rfl⟩)) (hM1.next hd hL.sz him hdst q3 h2 e2 (oO.refl V) (e3.hp_of (fun hh=>?_)))
    ·by_cases e : j = q
     ·subst e
      rw [r1] at hj; simp at hj
      obtain ⟨_,rfl⟩:=hj
      exact ⟨x,by rw [hC1t,hx],fun e=>by cases e⟩
     ·have := hC j d' b' hj hlj
      rw [hC1]; simp only [if_neg e]; exact this
    ·obtain ⟨q', b', q'', b'', z1, z2, z4⟩ := hP j d' t' u' F' I' hj hlj
     exact ⟨q',b',q'',b'',z1,z2,by rw [hC1t,hC1t,hC1t]; exact z4⟩
    ·have : j ≠ q := fun e => hj d kp γ T A (by rw [e]; exact hb)
     rw [hC1]; simp [this]
    ·rw [hset]
     have hlen2:H.length + q < (H ++ (List.range m).map fun i=>if (listed[i]? == some true) = true then (C i).2 else SA.emp).length:=(List.getElem?_eq_some_iff.1 hentry).1
     have h5:=HH.last (i:=H.length + q) (A:=A y) hh (by rw [List.getElem?_set_self hlen2])
     rw [List.set_set,List.set_append_right _ _ (by omega),show H.length + q - H.length = q by omega] at h5
     have h6:=HH.move (p:=H.length + i) h5 (by simp; omega)
     rw [List.set_append_right _ _ (by omega),show H.length + i - H.length = i by omega] at h6
     exact h6
  | dep t u F I =>
   obtain ⟨q,b',q',b'',r1,r2,p1,p2,hst⟩:=q4
   have src : ∀ (q t : Nat) (b' : Ob), (acc.reverse.take i).reverse.reverse[q]? = some (t, b') → (o.after.toList.any fun e => Nat.beq e.on q && Region.binds .any e) = true → q < i ∧ acc.reverse[q]? = some (t, b') ∧ listed[q]? = some true := fun q t b' r1 r2 => by
    rw [List.reverse_reverse,List.getElem?_take] at r1
    split at r1
    case isFalse=>cases r1
    case isTrue hji =>
    obtain ⟨e,he,hb'⟩:=List.any_eq_true.1 r2
    simp only [Bool.and_eq_true] at hb'
    have hon:e.on = q:=Nat.eq_of_beq_eq_true hb'.1
    have hlj:=h3 e he hb'.2
    rw [hon] at hlj
    exact ⟨hji,r1,hlj⟩
   obtain ⟨a1,a2,a3⟩:=src q t b' r1 r2
   obtain ⟨c1,c2,c3⟩:=src q' u b'' p1 p2
   obtain ⟨v1,s1,s2⟩:=hM.now q t (by omega) (by rw [a3]; rfl) (hobs.dst a2)
   obtain ⟨v2,s3,s4⟩:=hM.now q' u (by omega) (by rw [c3]; rfl) (hobs.dst c2)
   have hsl : fO n [(t, (C q).1), (u, (C q').1)] V a := by
    refine ⟨hM.df,hM.sz,fun z Z hz=>?_⟩
    rw [dP] at hz
    by_cases e:t = z
    ·rw [if_pos e] at hz; obtain rfl:=Option.some.inj hz; subst e; exact ⟨v1,s1,s2⟩
    ·rw [if_neg e, dP] at hz
     by_cases e2:u = z
     ·rw [if_pos e2] at hz; obtain rfl:=Option.some.inj hz; subst e2; exact ⟨v2,s3,s4⟩
     ·rw [if_neg e2] at hz; cases hz
   obtain ⟨hst,hI⟩:=hst _ _ (hC q t b' a2 a3).fits (hC q' u b'' c2 c3).fits
   have := hst cx _ a w V hM.inv hsl (wpAny P .any ops.toArray (den P R k) fuel (listed.setIfInBounds i true)) (den P R k) (fun v w' V' hi' hle hv => by
    rw [q2]
    exact ih _ _ _ V' _ (hL.set h1 h3) hcnt hl' (took C hC (F (C q).1 (C q').1) SA.emp ⟨rfl, hI⟩) (keepP C hP (F (C q).1 (C q').1) SA.emp (fun t' u' F' I' e => by
     cases e; exact ⟨q,b',q',b'',⟨a1,a2,a3⟩,⟨c1,c2,c3⟩,rfl⟩)) (keepA C (fun _ _ _=>rfl) (F (C q).1 (C q').1) SA.emp (fun src γ T' A' e=>by cases e)) (hM.next hd hL.sz him hdst q3 h2 hv hle (by rw [hx]; exact hi')))
   split
   ·rename_i hw; rw [if_pos hw] at this; exact .inl this
   ·rename_i hw; rw [if_neg hw] at this; exact this
theorem D_done {ops l : List Oper} {m : Nat} {acc : List (Nat × Ob)} (hP : P.follows .mixedOrders = true) (hm : acc.length = m) (hchk : Bp ops m = true) (h : Fin' P R cx n ops.toArray l k acc.reverse E H) : Dr P R cx n ops m k E H l acc := fun hops hobs id a w ⟨V, hi, hs⟩ => by
 have hd:=Qg.of hchk
 have hl : ops.drop m = l := by
  conv=>lhs; rw [hops]
  rw [List.drop_append,List.drop_of_length_le (by simp; omega)]
  simp [hm,Nat.min_eq_left hd.le]
 refine wp_region_any hP ?_
 have hnone : ∀ i : Nat, (Array.replicate ops.toArray.size false)[i]? ≠ some true := fun i h => by
  rw [Array.getElem?_replicate] at h; split at h <;> simp at h
 refine pF (cx:=cx) (n:=n) (E0:=E) (H:=H) hd hm hobs (by rw [hl]; exact h) _ _ a _ V (fun _=>(rP,SA.emp)) ⟨by simp,fun i o ho h=>absurd h (hnone i)⟩ ?_ (fun i h1 h2=>by simp [h2]) (fun i d b _ h=>absurd h (hnone i)) (fun i d t u F I _ h=>absurd h (hnone i)) (fun i _ _ _ _ _ _ h=>absurd h (hnone i)) ?_
 ·have : ∀ j, kG (List.replicate j false) ≤ j := fun j => by
   induction j with
   | zero=>simp [kG]
   | succ j ih=>simp only [List.replicate_succ,kG]; simp; omega
  simpa using this _
 ·refine ⟨?_, hs.1, hs.2.1, fun t T hT _ => hs.2.2 t T hT, fun j d hj hL => ?_⟩
  ·have e : ((List.range m).map fun i => if ((Array.replicate ops.toArray.size false)[i]? == some true) = true then ((fun _ => (rP, SA.emp)) i : Ty × SA).2 else SA.emp) = (List.range m).map fun _ => SA.emp := by
    apply List.map_congr_left; intro i _; split <;> rfl
   rw [e]
   have:=hi.drew
   refine this.hp_of (fun hh=>?_)
   obtain ⟨F,f1,f2⟩:=hh
   refine ⟨fun i=>if i < H.length then F i else [],fun i A hA=>?_,fun i j b hi hj hbi hbj=>?_⟩
   ·by_cases e : i < H.length
    ·rw [List.getElem?_append_left e] at hA
     simp only [if_pos e]; exact f1 i A hA
    ·rw [List.getElem?_append_right (by omega)] at hA
     have : A = SA.emp := by
      rw [List.getElem?_map] at hA
      cases hq:(List.range m)[i - H.length]? with
      | none=>rw [hq] at hA; cases hA
      | some q=>rw [hq] at hA; simpa using hA.symm
     subst this
     simp only [if_neg e]
     exact ⟨rfl,fun b hb=>by simp at hb⟩
   ·by_cases e : i < H.length <;> by_cases e' : j < H.length
    ·simp only [if_pos e,if_pos e'] at hbi hbj; exact f2 i j b e e' hbi hbj
    ·simp [e'] at hbj
    ·simp [e] at hbi
    ·simp [e] at hbi
  ·exact absurd (by simpa using hL) (hnone j)
theorem F_nil {ops:Array Oper} {l:List Oper} (h:Rg P R cx n ops l k E H):Fin' P R cx n ops l k [] E H:=h
theorem F_val {ops:Array Oper} {l:List Oper} {d:Nat} {T:Ty} {r:List (Nat × Ob)} (h:Fin' P R cx n ops l k r ((d,T) :: E) H):Fin' P R cx n ops l k ((d,.val T) :: r) E H:=h
theorem F_new {ops:Array Oper} {l:List Oper} {d:Nat} {src:Option Nat} {γ:Type} {T:γ → Ty} {A:γ → SA} {r:List (Nat × Ob)} (h:∀ x:γ,Fin' P R cx n ops l k r ((d,T x) :: E) (H ++ [A x])):Fin' P R cx n ops l k ((d,.blk src true γ T A) :: r) E H:=h
theorem a75 {ops : Array Oper} {l : List Oper} {d t u : Nat} {T U : Ty} {F : Ty → Ty → Ty} {I : Ty → Prop} {r : List (Nat × Ob)} (hl : gK E t = some T) (hl' : gK E u = some U) (h : Fin' P R cx n ops l k r ((d, F T U) :: E) H) : Fin' P R cx n ops l k ((d, .dep t u F I) :: r) E H := fun T' U' hT hU => by
 rw [hl] at hT; obtain rfl:=Option.some.inj hT
 rw [hl'] at hU; obtain rfl:=Option.some.inj hU; exact h
theorem D_cpy {ops l : List Oper} {m : Nat} {o : Oper} {acc : List (Nat × Ob)} {d t : Nat} {b : Ob} (j : Nat) (hg : o.guard = none) (hd : o.dst = some d) (hn : Nat.blt d n = true) (hj : acc.reverse[j]? = some (t, b)) (he : (o.after.toList.any fun e => Nat.beq e.on j && Region.binds .any e) = true) (hx : ∀ a w, (execOp a o).run P w = .ok (.value (a (.tmp t))) w)
  (h:Dr P R cx n ops m k E H l ((d,.dep t t (fun T _=>T) (Qj b)) :: acc)):Dr P R cx n ops m k E H (o :: l) acc :=
 a74 (fun T _ => T) (Qj b) j j hd hn hj he hj he (fun T U hf _ => ⟨fun cx X a w V hi hs K Q hK => by
  obtain ⟨v,s1,s2⟩:=hs.2.2 t T (by rw [dP,if_pos rfl])
  have ev:a.eval (.tmp t) = v:=by simp [Act.eval,s1]
  rw [if_pos (by simp [Region.wanted,hg])]
  simp only [Oper.wp,hx,Oper.upon_value,ev]
  exact hK v w V hi (oO.refl V) s2,hf⟩) h
theorem F_cpy {ops:Array Oper} {l:List Oper} {d t:Nat} {T:Ty} {I:Ty → Prop} {r:List (Nat × Ob)} (hl:gK E t = some T) (h:Fin' P R cx n ops l k r ((d,T) :: E) H):Fin' P R cx n ops l k ((d,.dep t t (fun T _=>T) I) :: r) E H:=a75 (F:=fun T _=>T) hl hl h
theorem cpy_assign {d:Option Tmp} {t:Nat} {ty:TypeId} {pos:String} {af:Array Edge} {g:Option (Nat × Bool)}:∀ a w,(execOp a ⟨d,.assign (.tmp t),ty,pos,af,g⟩).run P w = .ok (.value (a (.tmp t))) w:=fun a w=>by simp [execOp,pure,Sem.run]
end
end C
section
variable {P:Program} {n:Nat} {E:dI} {t:TypeId} {pos:String} {af:Array Edge}
end
end
section
open Go Go.RowKit
section
variable {P:Program} {R:iW} {cx:Cx} {n:Nat} {k:List It} {E:dI} {H:Hp} {ops:Array Oper} {rest:List Oper} {o:Oper}
theorem Ht {t:Nat} {T:Ty} (h:gK E t = some T):bT E (.tmp t) T:=bT.t h
theorem ro {T:Ty} {d:Nat} (h0:(o.guard,o.dst,Nat.blt d n) = (none,some d,true)) (hs:aM P n E H o T) (h:Rg P R cx n ops rest k ((d,T) :: E) H):Rg P R cx n ops (o :: rest) k E H:=by
 simp only [Prod.mk.injEq] at h0
 exact a5i h0.1 h0.2.1 h0.2.2 hs h
theorem rm {T:Ty} {d x:Nat} {t:TypeId} {pos:String} {af:Array Edge} (h0:(Nat.blt d n,gK E x) = (true,some T)) (h:Rg P R cx n ops rest k ((d,T) :: E) H):Rg P R cx n ops (⟨some d,.move (.tmp x),t,pos,af,none⟩ :: rest) k E H:=by
 simp only [Prod.mk.injEq] at h0
 exact a5i rfl rfl h0.1 (Vx (bT.t h0.2)) h
theorem ra {T:Ty} {d x:Nat} {t:TypeId} {pos:String} {af:Array Edge} (h0:(Nat.blt d n,gK E x) = (true,some T)) (h:Rg P R cx n ops rest k ((d,T) :: E) H):Rg P R cx n ops (⟨some d,.assign (.tmp x),t,pos,af,none⟩ :: rest) k E H:=by
 simp only [Prod.mk.injEq] at h0
 exact a5i rfl rfl h0.1 (Je (bT.t h0.2)) h
theorem rn {γ:Type} {T:γ → Ty} {A:γ → SA} {d:Nat} (h0:(o.guard,o.dst,Nat.blt d n) = (none,some d,true)) (hop:jR P n E H o γ T A) (h:∀ x,Rg P R cx n ops rest k ((d,T x) :: E) (H ++ [A x])):Rg P R cx n ops (o :: rest) k E H:=by
 simp only [Prod.mk.injEq] at h0
 exact a4F h0.1 h0.2.1 h0.2.2 hop h
theorem ts {y:Code} {id:Nat} {l:List Oper} (h:Rg P R cx n l.toArray l (.code y :: k) E H):Tr P R cx n (.code (.seq (.region id l.toArray false) y) :: k) E H:=a4I (Mj h)
end
section
variable {P:Program} {R:iW} {cx:Cx} {n:Nat} {k:List It} {E:dI} {H:Hp} {ops l:List Oper} {m:Nat} {o:Oper} {acc:List (Nat × C.Ob)} {d:Nat} {T U V:Ty}
theorem d0 (h0:(o.dst,Nat.blt d n,o.guard) = (some d,true,none)) (hs:aM P n [] H o T) (h:C.Dr P R cx n ops m k E H l ((d,.val T) :: acc)):C.Dr P R cx n ops m k E H (o :: l) acc:=by
 simp only [Prod.mk.injEq] at h0
 exact C.D_step h0.1 h0.2.1 C.Srcs.nil (wW h0.2.2 hs) h
theorem dp (t : Nat) (h0 : (o.dst, Nat.blt d n, gK E t, ((List.range m).all fun j => !(gF ops j == some t)), o.guard) = (some d, true, some U, true, none)) (hs : aM P n [(t, U)] H o T)
  (h:C.Dr P R cx n ops m k E H l ((d,.val T) :: acc)):C.Dr P R cx n ops m k E H (o :: l) acc:=by
 simp only [Prod.mk.injEq] at h0
 exact C.D_step h0.1 h0.2.1 (C.Srcs.cons (C.Src.pre h0.2.2.1 h0.2.2.2.1) C.Srcs.nil) (wW h0.2.2.2.2 hs) h
theorem dq (t j : Nat) (h0 : (o.dst, Nat.blt d n, acc.reverse[j]?, (o.after.toList.any fun e => Nat.beq e.on j && Region.binds .any e), o.guard) = (some d, true, some (t, C.Ob.val U), true, none)) (hs : aM P n [(t, U)] H o T)
  (h:C.Dr P R cx n ops m k E H l ((d,.val T) :: acc)):C.Dr P R cx n ops m k E H (o :: l) acc:=by
 simp only [Prod.mk.injEq] at h0
 exact C.D_step h0.1 h0.2.1 (C.Srcs.cons (C.Src.op j h0.2.2.1 h0.2.2.2.1) C.Srcs.nil) (wW h0.2.2.2.2 hs) h
theorem cP (t i u j : Nat) (h0 : (o.dst, Nat.blt d n, acc.reverse[i]?, (o.after.toList.any fun e => Nat.beq e.on i && Region.binds .any e), acc.reverse[j]?, (o.after.toList.any fun e => Nat.beq e.on j && Region.binds .any e), o.guard) = (some d, true, some (t, C.Ob.val U), true, some (u, C.Ob.val V), true, none)) (hs : aM P n [(t, U), (u, V)] H o T)
  (h:C.Dr P R cx n ops m k E H l ((d,.val T) :: acc)):C.Dr P R cx n ops m k E H (o :: l) acc:=by
 simp only [Prod.mk.injEq] at h0
 obtain ⟨a,b,c,e,f,g,q⟩:=h0
 exact C.D_step a b (C.Srcs.cons (C.Src.op i c e) (C.Srcs.cons (C.Src.op j f g) C.Srcs.nil)) (wW q hs) h
end
end
section
open Go Go.RowKit
section
variable {P:Program} {n:Nat} {E:dI} {H:Hp}
variable {d:Option Tmp} {t:TypeId} {pos:String} {af:Array Edge} {g:Option (Nat × Bool)}
end
end
section
open Go Go.RowKit
def zlk (E : dI) : dI → List (Option Ty)
 | []=>[]
 | x :: r=>gK E x.1 :: zlk E r
def zsm : dI → List (Option Ty)
 | []=>[]
 | x :: r=>some x.2 :: zsm r
theorem zS {E : dI} : ∀ {E' : dI}, zlk E E' = zsm E' → Sub E E'
 | [],_=>Sub.nil
 | _ :: _,h=>Sub.cons (List.cons.inj h).1 (zS (List.cons.inj h).2)
theorem z6 {a:Nat} (h:a < 9223372036854775808:=by first|omega|simp only[mT];omega):a < 9223372036854775808:=h
theorem z7 {a:Nat} (h:a < 18446744073709551616:=by first|omega|simp only[mT];omega):a < 18446744073709551616:=h
theorem zd {α:Type} {a:α}:a = a ∧ True:=⟨rfl,trivial⟩
theorem zF {P : Program} {R : iW} {cx : Cx} {n : Nat} {k : List It} {E : dI} {H : Hp} {ops : Array Oper} {l : List Oper} {a b c d : Nat} {T U V W : Ty} {r : List (Nat × C.Ob)}
  (h:C.Fin' P R cx n ops l k r ((d,W) :: (c,V) :: (b,U) :: (a,T) :: E) H):C.Fin' P R cx n ops l k ((a,.val T) :: (b,.val U) :: (c,.val V) :: (d,.val W) :: r) E H:=C.F_val (C.F_val (C.F_val (C.F_val h)))
end
section
open Go Go.RowKit
abbrev aQ:=@Sub.cons
abbrev aX:=@Sub.nil
abbrev aZ:=@Sub.to
abbrev aJ:=@C.F_val
abbrev aV:=@C.F_nil
abbrev aW:=@dS.cons'
abbrev aG:=@dS.nil
abbrev aK:=@Nat.le_of_ble_eq_true
abbrev aU:=@dE.cons
abbrev aY:=@dE.nil
abbrev bQ:=@Y.Srcs.cons
abbrev bX:=@Y.Srcs.nil
abbrev bZ:=@Y.Src.op
abbrev bJ:=@Y.Src.pre
abbrev bV:=@C.Srcs.cons
abbrev bW:=@C.Srcs.nil
abbrev bG:=@C.Src.op
abbrev bK:=@C.Src.pre
abbrev bU:=@Y.F_val
abbrev cQ:=@Y.D_hide
abbrev cX:=@Je
abbrev cZ:=@Vx
abbrev cJ:=@a3Q
abbrev cV:=@bT.cN
abbrev cW:=@bT.c
abbrev cG:=@uC.cons
abbrev cK:=@uC.nil
abbrev cU:=@a4I
abbrev cY:=@a5q
abbrev dQ:=@Mj
abbrev dX:=@Qo
abbrev dZ:=@wW
abbrev dJ:=@a6t
abbrev dV:=@a7K
abbrev dW:=@a3P
abbrev dG:=@a41
abbrev dK:=@a6w
abbrev dU:=@Se
abbrev dY:=@getD_some
abbrev eQ:=@Vj
abbrev eX:=@bE.imp
abbrev eZ:=@a78
abbrev eJ:=@a3R
abbrev eW:=@a3V
abbrev eG:=@Yg
abbrev eK:=@a2u
abbrev eU:=@a5k
abbrev eY:=@a6M
abbrev fQ:=@a6v
abbrev fX:=@Zx
abbrev fZ:=@a7R
abbrev fJ:=@C.D_start
abbrev fV:=@bT.w
abbrev fW:=@C.D_done
abbrev fG:=@a5o
abbrev fK:=@a3G
abbrev fU:=@a4m
abbrev fY:=@a2t
abbrev gQ:=@a3T
abbrev gX:=@a79
abbrev gZ:=@a3Y
abbrev gJ:=@a1z
abbrev gV:=@Zz
abbrev gW:=@a5m
end
section
open Go Go.RowKit
theorem zo {p:Prop} (h:p:=by omega):p:=h
end
section
open Go Go.RowKit
theorem tO (ds:List Nat) (hd:lV ds) (hl:ds.length ≤ 1152921504606846976):bE Tryz.prog 221 [yP ds] (aH (val ds)):=by
 refine bE.intro Tryz.func221 rfl Tryz.ntmps221 rfl (fun cx=>(ts (ro rfl (cX cW) (eZ (ts (rm rfl (ro rfl (dK U_47 (Ht rfl) aA) (ra rfl (eZ (cU (eK ?_)))))))))))
 refine bS (fun (k : Nat) => k ≤ ds.length ∧ ∀ i, k ≤ i → i < ds.length → ds.getD i 0 = 0) (fun (k : Nat) => k) (fun (k : Nat) => [(0, yP ds), (3, NT .i64 k)]) (fun (k : Nat) => []) ds.length ⟨Nat.le_refl _, fun i h1 h2 => by omega⟩
  (zS rfl) aY (fun k ⟨hk,hz⟩=>?_)
 refine cU (ts (rm rfl (ro rfl (eH (Ht rfl) (cV 0)) (rm rfl (fX rfl rfl (eU rfl rfl (Ht rfl) (fun h=>cZ (Ht rfl))) (fX rfl rfl (eU rfl rfl (Ht rfl) (fun h=>cZ (Ht rfl))) (fX rfl rfl (eU rfl rfl (Ht rfl) (fun h=>dG (fV rfl h) (cV 1) (by first | omega | (simp at h; omega)) (by show _ < 9223372036854775808; first | omega | (simp at h; omega)))) (fX rfl rfl (eU rfl rfl (Ht rfl) (fun h=>dJ U_47 Z_189 (fV rfl h) (fV rfl h) rfl (eQ (aO (by first | omega | (simp at h; omega)))))) ?_))))))))
 refine fX rfl rfl (eU rfl rfl (Ht rfl) (fun h=>dV A_189 Z_189 (fV rfl h))) (fX rfl rfl (eU rfl rfl (Ht rfl) (fun h=>cT (fV rfl h) (cV 0))) (ro rfl (fC (Ht rfl) (fun h=>(fV rfl h))) (eZ (dX (Ht rfl) (fun hb=>?_) (fun hb=>?_)))))
 ·simp at hb
  refine cY (eK (dQ (rm rfl (ro rfl (dG (Ht rfl) (cV 1) zo z6) (ra rfl (eZ (bC (fY (k - 1) ⟨by omega,fun i h1 h2=>?_⟩ zo (zS rfl) aY))))))))
  by_cases e2:i = k - 1
  ·subst e2; simpa using hb.2
  ·exact hz i zo h2
 ·have hn : k = 0 ∨ ds.getD (k - 1) 0 ≠ 0 := by
   simp only [Bool.and_eq_false_iff,decide_eq_false_iff_not] at hb
   rcases hb with h1 | h1
   ·left; omega
   ·right; exact h1
  have hfin:=Uk hd hk hz hn
  refine gW rfl (ts (rm rfl (rm rfl (rm rfl (ro rfl (qR U_47 Z_189 (Ht rfl) (Ht rfl) (fun m e=>by cases e; exact (Ht rfl)) zo (by simp; omega) rfl) ?_)))))
  refine ra rfl (eZ (fG rfl (fZ (eY rfl) ?_)))
  exact (Nm (by rw [hfin]; simp))
theorem Kj {m:Nat} (hm:m < 18446744073709551616):bE Tryz.prog 241 [NT .u64 m] (aH m):=by
 refine bE.intro Tryz.func241 rfl Tryz.ntmps241 rfl (fun cx=>(ts (ro rfl (cX cW) (eZ (ts (rm rfl (ro rfl (gD rfl U_254 U_189 (Ht rfl)) (rm rfl (ro rfl (fF (Ht rfl) (cV 32) (by decide)) (ro rfl (gD rfl U_254 U_189 (Ht rfl)) (ro rfl (dB (xs:=[.tmp 4,.tmp 7]) U_47 Z_189 O_189 (cG (Ht rfl) (cG (Ht rfl) cK)) rfl rfl rfl) (ro rfl (cJ K_221 (tO [m % 4294967296,m / 2 ^ 32 % 4294967296] (a7v _ _) (by simp)) ⟨(Ht rfl),trivial⟩) ?_))))))))))))
 refine ra rfl (eZ (fG rfl (fZ (eY rfl) ?_)))
 exact (dO (Jc hm))
theorem a4S {m:Nat}:bE Tryz.prog 219 [aH m] (aD (decide (m = 1))):=by
 refine bE.intro Tryz.func219 rfl Tryz.ntmps219 rfl (fun cx=>(ts (ro rfl (cX cW) (eZ (ts (rm rfl (ro rfl (dK U_47 (Ht rfl) aA) (ro rfl (cT (Ht rfl) (cV 1)) (rm rfl (fX rfl rfl (eU rfl rfl (Ht rfl) (fun h=>cZ (Ht rfl))) (fX rfl rfl (eU rfl rfl (Ht rfl) (fun h=>dJ U_47 Z_189 (fV rfl h) (cV 0) rfl (eQ (aO (by first | omega | (simp at h; omega)))))) (fX rfl rfl (eU rfl rfl (Ht rfl) (fun h=>dV A_189 Z_189 (fV rfl h))) (fX rfl rfl (eU rfl rfl (Ht rfl) (fun h=>cT (fV rfl h) (cV 1))) ?_)))))))))))))
 refine ro rfl (fC (Ht rfl) (fun h=>(fV rfl h))) (ra rfl (eZ (fG rfl (fZ (eY rfl) ?_))))
 exact (dN (Ln m))
theorem a2I {a b c:Nat} (ha:a < 4294967296) (hb:b < 4294967296) (hc:c < 4294967296):bE Tryz.prog 255 [cO a,cO b,cO c] (eS [cO ((a + b + c) % 4294967296),cO ((a + b + c) / 4294967296)]):=by
 refine bE.intro Tryz.func255 rfl Tryz.ntmps255 rfl (fun cx=>(ts (ro rfl (cX (cV 0)) (ro rfl (cX (cV 0)) (eZ (ts (rm rfl (ro rfl (gJ U_189 U_254 (Ht rfl) z7) (rm rfl (ro rfl (gJ U_189 U_254 (Ht rfl) z7) (ro rfl (dW (Ht rfl) (Ht rfl) z7) (rm rfl (ro rfl (gJ U_189 U_254 (Ht rfl) z7) ?_)))))))))))))
 refine ro rfl (dW (Ht rfl) (Ht rfl) z7) (ra rfl (eZ (ts (rm rfl (ro rfl (gD rfl U_254 U_189 (Ht rfl)) (ra rfl (eZ (ts (rm rfl (ro rfl (fF (Ht rfl) (cV 32) (by decide)) (ro rfl (gD rfl U_254 U_189 (Ht rfl)) (ra rfl (eZ (bM rfl (eY rfl) (fZ (eY rfl) ?_)))))))))))))))
 exact (lO (by simp only [mT]; omega))
theorem a2W {a b c:Nat} (ha:a < 4294967296) (hb:b < 4294967296) (hc:c ≤ 1):bE Tryz.prog 256 [cO a,cO b,cO c] (eS [cO ((a + 8589934592 - b - c) % 4294967296),cO (if a < b + c then 1 else 0)]):=by
 refine bE.intro Tryz.func256 rfl Tryz.ntmps256 rfl (fun cx=>(ts (ro rfl (cX (cV 0)) (ro rfl (cX (cV 0)) (eZ (ts (rm rfl (rm rfl (ro rfl (nJ rfl (Ht rfl) (Ht rfl) (by show _ ≤ 4294967296; first | omega | (simp only [mT]; omega))) (rm rfl (ro rfl (nJ rfl (Ht rfl) (Ht rfl) (by show _ ≤ 4294967296; first | omega | (simp only [mT]; omega))) (ra rfl (eZ (ts (rm rfl (ro rfl (Vw rfl (Ht rfl) (by show _ < 4294967296; first | omega | (simp only [mT]; omega))) (rm rfl (ro rfl (xP rfl (Ht rfl) (Ht rfl) (by show _ < 4294967296; simp only [mT]; omega) (by show _ < 4294967296; omega)) ?_))))))))))))))))))
 refine rm rfl (rm rfl (ro rfl (a42 rfl (Ht rfl) (Ht rfl) (by show _ < 4294967296; omega) (by show _ < 4294967296; omega)) (ro rfl (Vw rfl (Ht rfl) (Nat.xor_lt_two_pow (n:=32) ha hb)) (rm rfl (ro rfl (xP rfl (Ht rfl) (Ht rfl) (by show _ < 4294967296; simp only [mT]; omega) (by show _ < 4294967296; simp only [mT]; omega)) (ro rfl (rK rfl (Ht rfl) (Ht rfl) (Nat.and_lt_two_pow (n:=32) _ hb) (Nat.and_lt_two_pow (n:=32) _ (by simp only [mT]; omega))) (ro rfl (fF (Ht rfl) (cV 31) (by decide)) (ra rfl (eZ (bM rfl (fZ (eY rfl) ?_) (fZ (eY rfl) ?_)))))))))))
 ·exact (lO (by simp only [mT]; omega))
 ·exact (lO (Ma ha hb hc (by simp only [mT]; omega)))
theorem a0l {m n:Nat} (hm:(dg m).length ≤ 1152921504606846976) (hn:(dg n).length ≤ 1152921504606846976):bE Tryz.prog 216 [aH m,aH n] (aT .i64 (sI m n)):=by
 refine bE.intro Tryz.func216 rfl Tryz.ntmps216 rfl (fun cx=>(ts (ro rfl (cX (cV 0)) (eZ (cU (ts (rm rfl (ro rfl (dK U_47 (Ht rfl) aA) (rm rfl (ro rfl (dK U_47 (Ht rfl) aA) (ro rfl (fB (Ht rfl) (Ht rfl)) (eZ (dX (Ht rfl) (fun hb=>?_) (fun hb=>?_))))))))))))))
 ·simp at hb
  refine cU (ts (rm rfl (ro rfl (dK U_47 (Ht rfl) aA) (rm rfl (ro rfl (dK U_47 (Ht rfl) aA) (ro rfl (gZ (Ht rfl) (Ht rfl)) (eZ (dX (Ht rfl) (fun hb2=>?_) (fun hb2=>?_)))))))))
  ·simp at hb2
   have hlt:=Ks hb2
   refine ts (ro rfl (cX cW) (eZ (fG rfl (fZ (eY rfl) ?_))))
   exact (aS (by simp [sI,hlt]))
  ·simp at hb2
   have hlt:=Ks (a:=n) (b:=m) zo
   refine cY (ts (ro rfl (cX (cV 1)) (eZ (fG rfl (fZ (eY rfl) ?_)))))
   exact (aS (by simp [sI,hlt,Nat.lt_asymm hlt]))
 ·simp at hb
  refine cY (cU (ts (rm rfl (ro rfl (dK U_47 (Ht rfl) aA) (ro rfl (iY (Ht rfl) cW (Ej zo)) (ra rfl (eZ (eK ?_))))))))
  refine bS (fun (k : Nat) => k ≤ (dg m).length ∧ ∀ i, k ≤ i → i < (dg m).length → (dg m).getD i 0 = (dg n).getD i 0) (fun (k : Nat) => k) (fun (k : Nat) => [(0, aH m), (1, aH n), (5, aT .i64 ((k : Int) - 1))]) (fun (k : Nat) => []) (dg m).length ⟨Nat.le_refl _, fun i h1 h2 => by omega⟩
   (zS rfl) aY (fun k ⟨hk,he⟩=>?_)
  refine cU (ts (rm rfl (ro rfl (mV (Ht rfl) cW) (eZ (dX (Ht rfl) (fun hk1=>?_) (fun hk1=>?_))))))
  ·simp at hk1
   refine cY (cU (eK (cU (cU (fJ (m:=8) (dp 0 rfl (cZ (Ht rfl)) (dp 5 rfl (cZ (Ht rfl)) (cP 23 0 24 1 rfl (dJ U_47 Z_189 (Ht rfl) (Ht rfl) (show ((k:Int) - 1) = ((k - 1:Nat):Int) by omega) (eQ (aO zo))) (dq 25 2 rfl (dV A_189 Z_189 (Ht rfl)) (dp 1 rfl (cZ (Ht rfl)) (dp 5 rfl (cZ (Ht rfl)) (cP 27 4 28 5 rfl (dJ U_47 Z_189 (Ht rfl) (Ht rfl) (show ((k:Int) - 1) = ((k - 1:Nat):Int) by omega) (eQ (aO zo))) (dq 29 6 rfl (dV A_189 Z_189 (Ht rfl)) ?_)))))))))))))
   refine fW aL rfl (by kernel_rfl) (zF (zF (aV (ro rfl (gZ (Ht rfl) (Ht rfl)) (eZ (dX (Ht rfl) (fun h1=>?_) (fun h1=>?_)))))))
   ·simp only [decide_eq_true_eq] at h1
    have hlt:=Dh (cA m) (cA n) hb (k:=k - 1) zo (fun i h2 h3=>he i zo h3) h1
    rw [dH,dH] at hlt
    refine ts (ro rfl (cX cW) (eZ (fG rfl (fZ (eY rfl) ?_))))
    exact (aS (by simp [sI,hlt]))
   ·simp only [decide_eq_false_iff_not] at h1
    refine cY (cU (fJ (m:=8) (dp 0 rfl (cZ (Ht rfl)) (dp 5 rfl (cZ (Ht rfl)) (cP 32 0 33 1 rfl (dJ U_47 Z_189 (Ht rfl) (Ht rfl) (show ((k:Int) - 1) = ((k - 1:Nat):Int) by omega) (eQ (aO zo))) (dq 34 2 rfl (dV A_189 Z_189 (Ht rfl)) (dp 1 rfl (cZ (Ht rfl)) (dp 5 rfl (cZ (Ht rfl)) (cP 36 4 37 5 rfl (dJ U_47 Z_189 (Ht rfl) (Ht rfl) (show ((k:Int) - 1) = ((k - 1:Nat):Int) by omega) (eQ (aO zo))) (dq 38 6 rfl (dV A_189 Z_189 (Ht rfl)) ?_))))))))))
    refine fW aL rfl (by kernel_rfl) (zF (zF (aV (ro rfl (eH (Ht rfl) (Ht rfl)) (eZ (dX (Ht rfl) (fun h2=>?_) (fun h2=>?_)))))))
    ·simp only [decide_eq_true_eq] at h2
     have hlt:=Dh (cA n) (cA m) hb.symm (k:=k - 1) zo (fun i h2 h3=>(he i zo zo).symm) h2
     rw [dH,dH] at hlt
     refine ts (ro rfl (cX (cV 1)) (eZ (fG rfl (fZ (eY rfl) ?_))))
     exact (aS (by simp [sI,hlt,Nat.lt_asymm hlt]))
    ·simp only [decide_eq_false_iff_not] at h2
     refine cY (bC (dQ (rm rfl (ro rfl (iY (Ht rfl) cW (Ej zo)) (ra rfl (eZ (fY (k - 1) ⟨by omega,fun i h3 h4=>(by by_cases e:i = k - 1; (· subst e; omega); exact he i zo h4)⟩ zo (aQ rfl (aQ rfl (aZ rfl (aS zo) aX))) aY)))))))
  ·simp at hk1
   have hk0:k = 0:=by omega
   have heq : m = n := by
    have : dg m = dg n := by
     apply List.ext_getElem?
     intro i
     by_cases hi:i < (dg m).length
     ·have h5 := he i zo hi
      have h6:i < (dg n).length:=by omega
      simp [List.getD,hi,h6] at h5
      simp [hi,h6,h5]
     ·rw [List.getElem?_eq_none zo,List.getElem?_eq_none zo]
    rw [← dH m,this,dH]
   refine gW rfl (ts (ro rfl (cX (cV 0)) (eZ (fG rfl (fZ (eY rfl) ?_)))))
   exact (aS (by simp [sI,heq]))
end
section
open Go Go.RowKit
theorem jB:Tryz.prog.info? 189 = some Tryz.t189:=by kernel_rfl
end
section
open Go Go.RowKit
theorem a7n {m n:Nat} (hm:(dg m).length ≤ 17592186044416) (hn:(dg n).length ≤ 17592186044416):bE Tryz.prog 215 [aH m,aH n] (aH (m + n)):=by
 refine bE.intro Tryz.func215 rfl Tryz.ntmps215 rfl (fun cx=>(ts (ro rfl (cX cW) (eZ (cU (rR (fun (p:Nat) (q:Nat)=>p + q = m + n ∧ (dg q).length ≤ (dg p).length ∧ (dg p).length ≤ 17592186044416) (fun (p:Nat) (q:Nat)=>[(0,aH p),(1,aH q)]) (fun (p:Nat) (q:Nat)=>[]) ?_ (fun p q ⟨hpq,hle,hlp⟩=>?_)))))))
 ·refine ts (rm rfl (ro rfl (dK U_47 (Ht rfl) aA) (rm rfl (ro rfl (dK U_47 (Ht rfl) aA) (ro rfl (gZ (Ht rfl) (Ht rfl)) (eZ (dX (Ht rfl) (fun hb => ?_) (fun hb => ?_))))))))
  ·simp at hb
   refine dQ (rm rfl (rm rfl (ra rfl (ra rfl (eZ (bD (n,m) ⟨Nat.add_comm _ _,Nat.le_of_lt hb,hn⟩ (zS rfl) aY))))))
  ·simp at hb
   refine cY (bD (m,n) ⟨rfl,hb,hm⟩ (zS rfl) aY)
 ·refine ts (rm rfl (ro rfl (dK U_47 (Ht rfl) aA) (ro rfl (dW (Ht rfl) (cV 1) z6) (rn rfl (eM (T := cO 0) (i := Tryz.t189) V_47 jB rfl rfl (Ht rfl) rfl (fun _ => rfl) trivial (by show 4 * _ ≤ _; omega) zo) fun B19 => (ra rfl (eZ (ts (ro rfl (cX (cV 0)) (eZ (cU (ts (rm rfl (ro rfl (dK U_47 (Ht rfl) aA) (ro rfl (cZ (cV 0)) (eZ (eK ?_))))))))))))))))
  refine jF (fun (k : Nat) (out : List Nat) (c : Nat) => Cy (dg p) (dg q) out k c) (fun (k : Nat) (out : List Nat) (c : Nat) => (dg p).length - k) (fun (k : Nat) (out : List Nat) (c : Nat) => [(0, aH p), (1, aH q), (5, Is (.slice (some ⟨B19, 0, none⟩) ((dg p).length + 1) ((dg p).length + 1))), (6, cO c), (21, NT .i64 (dg p).length), (22, NT .i64 k)]) (fun (k : Nat) (out : List Nat) (c : Nat) => [box B19 189 (out.map cO)]) 0 (List.replicate ((dg p).length + 1) 0) 0 (Cy.start _ _)
   (zS rfl) (aU (aB (lX _)) aY) (fun k out c hS=>?_)
  refine ts (ro rfl (gZ (Ht rfl) (Ht rfl)) (eZ (cU (dX (Ht rfl) (fun hb=>?_) (fun hb=>?_)))))
  ·simp at hb
   have hlen:=hS.len; have hcl:=hS.cle; have hxk:=bH (cA p) k; have hyk:=bH (cA q) k
   simp only [BB] at hxk hyk
   refine cY (cU (eK (ts (rm rfl (ra rfl (eZ (ts (ro rfl (cX (cV 0)) (eZ (cU (jS (fun (uu:Unit)=>True) (fun (uu:Unit)=>[(0,aH p),(1,aH q),(5,Is (.slice (some ⟨B19,0,none⟩) ((dg p).length + 1) ((dg p).length + 1))),(6,cO c),(7,NT .i64 k),(8,cO ((dg q).getD k 0)),(21,NT .i64 (dg p).length),(22,NT .i64 k)]) (fun (uu:Unit)=>[box B19 189 (out.map cO)]) ?_ (fun uu _=>?_))))))))))))
   ·refine ts (rm rfl (rm rfl (ro rfl (dK U_47 (Ht rfl) aA) (ro rfl (gZ (Ht rfl) (Ht rfl)) (eZ (dX (Ht rfl) (fun hk2 => ?_) (fun hk2 => ?_)))))))
    ·simp at hk2
     refine dQ (rm rfl (rm rfl (ro rfl (dJ U_47 Z_189 (Ht rfl) (Ht rfl) rfl (eQ (aO zo))) (ro rfl (dV A_189 Z_189 (Ht rfl)) (ra rfl (eZ (bD () trivial (zS rfl) (dE.refl _))))))))
    ·simp at hk2
     refine cY (bD () trivial (aQ rfl (aQ rfl (aQ rfl (aQ rfl (aQ rfl (aZ rfl (lO (by simp [List.getD,List.getElem?_eq_none hk2])) (zS rfl))))))) (dE.refl _))
   ·refine dQ (rm rfl (rm rfl (rm rfl (rm rfl (ro rfl (dJ U_47 Z_189 (Ht rfl) (Ht rfl) rfl (eQ (aO zo))) (ro rfl (dV A_189 Z_189 (Ht rfl)) (rm rfl (rm rfl (ro rfl (cJ Tryz.call255 (a2I hxk hyk zo) ⟨(Ht rfl), (Ht rfl), (Ht rfl), trivial⟩) (rm rfl (ro rfl (dU (Ht rfl) rfl) (ro rfl (dU (Ht rfl) rfl) (ro rfl (gQ U_47 Z_189 (Ht rfl) (Ht rfl) rfl zo (by rw [Nat.mul_one, Nat.zero_add])) ?_)))))))))))))
    refine lY Z_189 (Ht rfl) (Ht rfl) (i:=0) rfl (by first | omega | (simp; omega)) rfl (ra rfl (eZ (bC (dQ (ro rfl (dW (Ht rfl) (cV 1) z6) (rm rfl (eZ (fY (k + 1,_,_) (hS.next (cA p) (cA q) hb) (by dsimp only; omega) (zS rfl) (aU (aB (fS _ _ _)) aY)))))))))
  ·simp at hb
   have hkl:k = (dg p).length:=Nat.le_antisymm hS.kle hb
   subst hkl
   have hlen:=hS.len; have hcl:=hS.cle
   refine gW rfl (ts (rm rfl (rm rfl (ro rfl (dK U_47 (Ht rfl) aA) (rm rfl (ro rfl (gQ U_47 Z_189 (Ht rfl) (Ht rfl) rfl zo (by rw [Nat.mul_one,Nat.zero_add])) ?_))))))
   refine lY Z_189 (Ht rfl) (Ht rfl) (i:=0) rfl (by first | omega | (simp; omega)) rfl (eZ (cU ?_))
   have hfin:=hS.fin hle
   refine gV (i:=0) (tt:=5) rfl rfl (mS (fS _ _ _) (by simp [hlen]) (Nat.le_refl _)) ?_
   refine dQ (rm rfl (ro rfl (cJ K_221 (tO _ (lF hS.dig (by simp only [BB]; omega)) (by simp [hlen]; omega)) ⟨(Ht rfl),trivial⟩) ?_))
   refine ra rfl (eZ (fG rfl (fZ (eY rfl) ?_)))
   exact (dO (by rw [hfin,dH,dH]; exact hpq))
theorem a4V {m n:Nat} (hm:(dg m).length ≤ 17592186044416) (hnm:n ≤ m):bE Tryz.prog 217 [aH m,aH n] (aH (m - n)):=by
 have hle:=iM hnm
 refine bE.intro Tryz.func217 rfl Tryz.ntmps217 rfl (fun cx=>(ts (ro rfl (cX cW) (eZ (ts (rm rfl (ro rfl (dK U_47 (Ht rfl) aA) (rn rfl (eM (T:=cO 0) (i:=Tryz.t189) V_47 jB rfl rfl (Ht rfl) rfl (fun _=>rfl) trivial (by show 4 * _ ≤ _; omega) zo) fun B11=>(ra rfl (eZ (ts (ro rfl (cX (cV 0)) (eZ (cU (ts (rm rfl (ro rfl (dK U_47 (Ht rfl) aA) (ro rfl (cZ (cV 0)) (eZ (eK ?_))))))))))))))))))))
 refine jF (fun (k : Nat) (out : List Nat) (c : Nat) => Db (dg m) (dg n) out k c) (fun (k : Nat) (out : List Nat) (c : Nat) => (dg m).length - k) (fun (k : Nat) (out : List Nat) (c : Nat) => [(0, aH m), (1, aH n), (5, Is (.slice (some ⟨B11, 0, none⟩) (dg m).length (dg m).length)), (6, cO c), (13, NT .i64 (dg m).length), (14, NT .i64 k)]) (fun (k : Nat) (out : List Nat) (c : Nat) => [box B11 189 (out.map cO)]) 0 (List.replicate (dg m).length 0) 0 (Db.start _ _)
  (zS rfl) (aU (aB (lX _)) aY) (fun k out c hS=>?_)
 refine ts (ro rfl (gZ (Ht rfl) (Ht rfl)) (eZ (cU (dX (Ht rfl) (fun hb=>?_) (fun hb=>?_)))))
 ·simp at hb
  have hlen:=hS.len; have hcl:=hS.cle; have hxk:=bH (cA m) k; have hyk:=bH (cA n) k
  simp only [BB] at hxk hyk
  refine cY (cU (eK (ts (rm rfl (ra rfl (eZ (ts (ro rfl (cX (cV 0)) (eZ (cU (jS (fun (uu:Unit)=>True) (fun (uu:Unit)=>[(0,aH m),(1,aH n),(5,Is (.slice (some ⟨B11,0,none⟩) (dg m).length (dg m).length)),(6,cO c),(7,NT .i64 k),(8,cO ((dg n).getD k 0)),(13,NT .i64 (dg m).length),(14,NT .i64 k)]) (fun (uu:Unit)=>[box B11 189 (out.map cO)]) ?_ (fun uu _=>?_))))))))))))
  ·refine ts (rm rfl (rm rfl (ro rfl (dK U_47 (Ht rfl) aA) (ro rfl (gZ (Ht rfl) (Ht rfl)) (eZ (dX (Ht rfl) (fun hk2 => ?_) (fun hk2 => ?_)))))))
   ·simp at hk2
    refine dQ (rm rfl (rm rfl (ro rfl (dJ U_47 Z_189 (Ht rfl) (Ht rfl) rfl (eQ (aO zo))) (ro rfl (dV A_189 Z_189 (Ht rfl)) (ra rfl (eZ (bD () trivial (zS rfl) (dE.refl _))))))))
   ·simp at hk2
    refine cY (bD () trivial (aQ rfl (aQ rfl (aQ rfl (aQ rfl (aQ rfl (aZ rfl (lO (by simp [List.getD,List.getElem?_eq_none hk2])) (zS rfl))))))) (dE.refl _))
  ·refine dQ (rm rfl (rm rfl (rm rfl (rm rfl (ro rfl (dJ U_47 Z_189 (Ht rfl) (Ht rfl) rfl (eQ (aO zo))) (ro rfl (dV A_189 Z_189 (Ht rfl)) (rm rfl (rm rfl (ro rfl (cJ Tryz.call256 (a2W hxk hyk zo) ⟨(Ht rfl), (Ht rfl), (Ht rfl), trivial⟩) (rm rfl (ro rfl (dU (Ht rfl) rfl) (ro rfl (dU (Ht rfl) rfl) (ro rfl (gQ U_47 Z_189 (Ht rfl) (Ht rfl) rfl zo (by rw [Nat.mul_one, Nat.zero_add])) ?_)))))))))))))
   refine lY Z_189 (Ht rfl) (Ht rfl) (i:=0) rfl (by first | omega | (simp; omega)) rfl (ra rfl (eZ (bC (dQ (ro rfl (dW (Ht rfl) (cV 1) z6) (rm rfl (eZ (fY (k + 1,_,_) (hS.next (cA m) (cA n) hb) (by dsimp only; omega) (zS rfl) (aU (aB (fS _ _ _)) aY)))))))))
 ·simp at hb
  have hkl:k = (dg m).length:=Nat.le_antisymm hS.kle hb
  subst hkl
  have hlen:=hS.len
  have hfin:=hS.fin (cA m) hle (by rw [dH,dH]; exact hnm)
  rw [dH,dH] at hfin
  refine gW rfl (gV (i:=0) (tt:=5) rfl rfl (mS rfl hlen.symm (Nat.le_refl _)) (ts (rm rfl (ro rfl (cJ K_221 (tO _ hS.dig zo) ⟨(Ht rfl),trivial⟩) (ra rfl (eZ (fG rfl (fZ (eY rfl) ?_))))))))
  exact (dO hfin)
theorem Mt {m n:Nat} (hm:(dg m).length ≤ 17592186044416) (hn:(dg n).length ≤ 17592186044416):bE Tryz.prog 138 [aH m,aH n] (aH (m * n)):=by
 refine bE.intro Tryz.func138 rfl Tryz.ntmps138 rfl (fun cx=>(ts (ro rfl (cX cW) (eZ (cU (ts (rm rfl (ro rfl (dK U_47 (Ht rfl) aA) (ro rfl (cT (Ht rfl) (cV 0)) (rm rfl (fX rfl rfl (eU rfl rfl (Ht rfl) (fun h=>cZ (Ht rfl))) (fX rfl rfl (eU rfl rfl (Ht rfl) (fun h=>dK U_47 (fV rfl h) aA)) (fX rfl rfl (eU rfl rfl (Ht rfl) (fun h=>cT (fV rfl h) (cV 0))) (ro rfl (gN (Ht rfl) (fun h=>(fV rfl h))) (eZ (dX (Ht rfl) (fun hb=>?_) (fun hb=>?_)))))))))))))))))
 ·simp [aR] at hb
  have h0 : m * n = 0 := by
   rcases hb with h | h <;> simp_all [sT]
  refine ts (ro rfl (cX cW) (eZ (fG rfl (fZ (eY rfl) ?_))))
  exact (fun v V h=>by rw [h0]; exact lN v V h)
 ·clear hb
  refine cY (ts (rm rfl (ro rfl (dK U_47 (Ht rfl) aA) (rm rfl (ro rfl (dK U_47 (Ht rfl) aA) (ro rfl (dW (Ht rfl) (Ht rfl) z6) (rn rfl (eM (T:=cO 0) (i:=Tryz.t189) V_47 jB rfl rfl (Ht rfl) rfl (fun _=>rfl) trivial (by show 4 * _ ≤ _; omega) zo) fun B24=>(ra rfl (eZ (cU (ts (rm rfl (ro rfl (dK U_47 (Ht rfl) aA) (ro rfl (cZ (cV 0)) (eZ (eK ?_))))))))))))))))
  refine gA (fun (i : Nat) (out : List Nat) => Ep (dg m) (dg n) out i) (fun (i : Nat) (out : List Nat) => (dg m).length - i) (fun (i : Nat) (out : List Nat) => [(0, aH m), (1, aH n), (5, Is (.slice (some ⟨B24, 0, none⟩) ((dg m).length + (dg n).length) ((dg m).length + (dg n).length))), (25, aH m), (26, NT .i64 (dg m).length), (27, NT .i64 i)]) (fun (i : Nat) (out : List Nat) => [box B24 189 (out.map cO)]) 0 (List.replicate ((dg m).length + (dg n).length) 0) (Ep.start _ _)
   (zS rfl) (aU (aB (lX _)) aY) (fun i out hS=>?_)
  refine ts (ro rfl (gZ (Ht rfl) (Ht rfl)) (eZ (cU (dX (Ht rfl) (fun hb=>?_) (fun hb=>?_)))))
  ·simp at hb
   have hxi:=bH (cA m) i
   simp only [BB] at hxi
   refine cY (cU (eK (ts (rm rfl (ro rfl (dJ U_47 Z_189 (Ht rfl) (Ht rfl) rfl (eQ (aO zo))) (ro rfl (dV A_189 Z_189 (Ht rfl)) (ra rfl (ra rfl (eZ (ts (ro rfl (cX (cV 0)) (eZ (cU (ts (rm rfl (ro rfl (dK U_47 (Ht rfl) aA) (ro rfl (cZ (cV 0)) (eZ (eK ?_)))))))))))))))))))
   refine jF (fun (k : Nat) (out2 : List Nat) (c : Nat) => Mi (dg m) (dg n) out2 i k c) (fun (k : Nat) (out2 : List Nat) (c : Nat) => (dg n).length - k) (fun (k : Nat) (out2 : List Nat) (c : Nat) => [(0, aH m), (1, aH n), (5, Is (.slice (some ⟨B24, 0, none⟩) ((dg m).length + (dg n).length) ((dg m).length + (dg n).length))), (6, NT .i64 i), (7, cO ((dg m).getD i 0)), (8, NT .u64 c), (25, aH m), (26, NT .i64 (dg m).length), (27, NT .i64 i), (32, aH n), (33, NT .i64 (dg n).length), (34, NT .i64 k)]) (fun (k : Nat) (out2 : List Nat) (c : Nat) => [box B24 189 (out2.map cO)]) 0 out 0 (hS.row hb)
    (zS rfl) (dE.refl _) (fun k out2 c hR=>?_)
   refine ts (ro rfl (gZ (Ht rfl) (Ht rfl)) (eZ (cU (dX (Ht rfl) (fun hk=>?_) (fun hk=>?_)))))
   ·simp at hk
    have hlen:=hR.len; have hcl:=hR.clt; have hyk:=bH (cA n) k; have hok:=bH hR.dig (i + k)
    have hbnd:=xM (bH (cA m) i) (bH (cA n) k) (bH hR.dig (i + k)) hR.clt
    simp only [BB] at hcl hyk hok hbnd
    refine cY (cU (eK (ts (rm rfl (ro rfl (dJ U_47 Z_189 (Ht rfl) (Ht rfl) rfl (eQ (aO zo))) (ro rfl (dV A_189 Z_189 (Ht rfl)) (ra rfl (ra rfl (eZ (ts (rm rfl (rm rfl (ro rfl (gJ U_189 U_254 (Ht rfl) z7) (rm rfl (ro rfl (gJ U_189 U_254 (Ht rfl) z7) (ro rfl (mN (Ht rfl) (Ht rfl) (by show _ < 18446744073709551616; omega)) ?_))))))))))))))))
    refine rm rfl (rm rfl (rm rfl (ro rfl (dW (Ht rfl) (Ht rfl) z6) (ro rfl (gQ U_47 Z_189 (Ht rfl) (Ht rfl) rfl zo (by rw [Nat.mul_one,Nat.zero_add])) ?_))))
    refine ro rfl (fQ A_189 Z_189 (Ht rfl) (i:=0) rfl (eQ (aO zo))) (ro rfl (gJ U_189 U_254 (Ht rfl) z7) (ro rfl (dW (Ht rfl) (Ht rfl) z7) (ro rfl (dW (Ht rfl) (Ht rfl) z7) (ra rfl (eZ (ts (rm rfl (rm rfl (rm rfl (ro rfl (dW (Ht rfl) (Ht rfl) z6) ?_))))))))))
    refine rm rfl (ro rfl (gD rfl U_254 U_189 (Ht rfl)) (ro rfl (gQ U_47 Z_189 (Ht rfl) (Ht rfl) rfl zo (by rw [Nat.mul_one,Nat.zero_add])) ?_))
    refine lY Z_189 (Ht rfl) (Ht rfl) (i:=0) rfl (by first | omega | (simp; omega)) rfl (eZ (dQ (rm rfl (ro rfl (fF (Ht rfl) (cV 32) (by decide)) (ra rfl (eZ (bC (dQ (ro rfl (dW (Ht rfl) (cV 1) z6) (rm rfl (eZ (fY (k + 1,_,_) (hR.next (cA m) (cA n) hk rfl) (by dsimp only; omega) (zS rfl) (aU (aB (fS _ _ _)) aY)))))))))))))
   ·simp at hk
    have hkl:k = (dg n).length:=Nat.le_antisymm hR.kle hk
    subst hkl
    have hlen:=hR.len; have hcl:=hR.clt
    simp only [BB] at hcl
    refine gW rfl (dQ (rm rfl (rm rfl (rm rfl (ro rfl (dK U_47 (Ht rfl) aA) (ro rfl (dW (Ht rfl) (Ht rfl) z6) (rm rfl (ro rfl (gJ U_254 U_189 (Ht rfl) (by show _ < 4294967296; first | omega | (simp only [mT]; omega))) (ro rfl (gQ U_47 Z_189 (Ht rfl) (Ht rfl) rfl zo (by rw [Nat.mul_one,Nat.zero_add])) ?_)))))))))
    refine lY Z_189 (Ht rfl) (Ht rfl) (i:=0) rfl (by first | omega | (simp; omega)) rfl (eZ (bC (dQ (ro rfl (dW (Ht rfl) (cV 1) z6) (rm rfl (eZ (fY (i + 1,_) (hR.fin) (by dsimp only; omega) (zS rfl) (aU (aB (fS _ _ _)) aY))))))))
  ·simp at hb
   have hkl:i = (dg m).length:=Nat.le_antisymm hS.ile hb
   subst hkl
   have hlen:=hS.len
   have hfin:=hS.fin
   rw [dH,dH] at hfin
   refine gW rfl (gV (i:=0) (tt:=5) rfl rfl (mS rfl hlen.symm (Nat.le_refl _)) (ts (rm rfl (ro rfl (cJ K_221 (tO _ hS.dig zo) ⟨(Ht rfl),trivial⟩) (ra rfl (eZ (fG rfl (fZ (eY rfl) ?_))))))))
   exact (dO hfin)
end
section
open Go Go.RowKit
theorem a2N {v:Nat} (hv:v < 4294967296):bE Tryz.prog 280 [cO v] (NT .i64 (bl v)):=by
 refine bE.intro Tryz.func280 rfl Tryz.ntmps280 rfl (fun cx=>(ts (ro rfl (cX (cV 0)) (eZ (cU (rR (fun (q:Nat) (x:Nat)=>bl v = q + bl x ∧ x < 65536 ∧ q ≤ 16) (fun (q:Nat) (x:Nat)=>[(0,cO x),(2,NT .i64 q)]) (fun (q:Nat) (x:Nat)=>[]) ?_ (fun q x ⟨hq1,hq2,hq3⟩=>?_)))))))
 ·refine ts (rm rfl (ro rfl (sE (Ht rfl) (cV 65536)) (eZ (dX (Ht rfl) (fun hb => ?_) (fun hb => ?_)))))
  ·simp at hb
   refine ts (rm rfl (ro rfl (fF (Ht rfl) (cV 16) (by decide)) (ra rfl (eZ (dQ (ro rfl (cX (cV 16)) (eZ (bD (16,v / 2 ^ 16) ⟨a7Z hb,by dsimp only; omega,Nat.le_refl _⟩ (zS rfl) aY))))))))
  ·simp at hb
   refine cY (bD (0,v) ⟨(Nat.zero_add _).symm,hb,by dsimp only; omega⟩ (zS rfl) aY)
 ·refine cU (rR (fun (r : Nat) (z : Nat) => bl v = r + bl z ∧ z < 256 ∧ r ≤ 24) (fun (r : Nat) (z : Nat) => [(0, cO z), (2, NT .i64 r)]) (fun (r : Nat) (z : Nat) => []) ?_ (fun r z ⟨hr1, hr2, hr3⟩ => ?_))
  ·refine ts (rm rfl (ro rfl (sE (Ht rfl) (cV 256)) (eZ (dX (Ht rfl) (fun hb => ?_) (fun hb => ?_)))))
   ·simp at hb
    refine ts (rm rfl (ro rfl (fF (Ht rfl) (cV 8) (by decide)) (ra rfl (eZ (dQ (rm rfl (ro rfl (dW (Ht rfl) (cV 8) z6) (ra rfl (eZ (bD (q + 8,x / 2 ^ 8) ⟨by have:=bl8 hb; dsimp only; omega,by dsimp only; omega,by dsimp only; omega⟩ (zS rfl) aY))))))))))
   ·simp at hb
    refine cY (bD (q,x) ⟨hq1,hb,by dsimp only; omega⟩ (zS rfl) aY)
  ·have hbl := pN (k := 8) hr2
   refine ts (rm rfl (rm rfl (ro rfl (gJ U_189 U_5 (Ht rfl) (by show _ < 256; first | omega | (simp only [mT]; omega))) (ro rfl (a40 Tryz.runUnderlying9 cW (Ht rfl) (a84 hr2 (by kernel_rfl))) (ro rfl (gJ U_5 U_3 (Ht rfl) z6) (ro rfl (dW (Ht rfl) (Ht rfl) z6) (ra rfl (eZ (fG rfl (fZ (eY rfl) ?_))))))))))
   exact (lO zo)
theorem a5K {v:Nat} (hv:v < 4294967296):bE Tryz.prog 258 [cO v] (NT .i64 (32 - bl v)):=by
 refine bE.intro Tryz.func258 rfl Tryz.ntmps258 rfl (fun cx=>(ts (ro rfl (cX (cV 0)) (eZ (ts (rm rfl (ro rfl (cJ Tryz.call280 (a2N hv) ⟨(Ht rfl),trivial⟩) (ro rfl (dG (cV 32) (Ht rfl) (pN hv) z6) (ra rfl (eZ ?_))))))))))
 exact fG rfl (eY rfl)
theorem a2J {hi lo y:Nat} (hy:hi < y) (hl:lo < BB) (hyb:y < BB):bE Tryz.prog 279 [cO hi,cO lo,cO y] (eS [cO ((hi * BB + lo) / y),cO ((hi * BB + lo) % y)]):=by
 have hq:=Jq hy hl; have hm:=Nat.mod_lt (hi * BB + lo) (by omega:y > 0); have hz:hi * BB + lo < 18446744073709551616:=by simp only [BB] at *; omega
 have hsh : hi * 2 ^ 32 < 18446744073709551616 := by
  have h1:hi < BB:=by omega
  show hi * BB < _
  simp only [BB] at h1 ⊢; omega
 refine bE.intro Tryz.func279 rfl Tryz.ntmps279 rfl (fun cx=>(ts (ro rfl (cX (cV 0)) (ro rfl (cX (cV 0)) (eZ (cU (ts (rm rfl (ro rfl (fB (Ht rfl) (cV 0)) (rm rfl (fX rfl rfl (eU rfl rfl (Ht rfl) (fun h=>cZ (Ht rfl))) (fX rfl rfl (eU rfl rfl (Ht rfl) (fun h=>cZ (Ht rfl))) (fX rfl rfl (eU rfl rfl (Ht rfl) (fun h=>Am (fV rfl h) (fV rfl h))) (ro rfl (fC (Ht rfl) (fun h=>(fV rfl h))) (eZ (iA (Ht rfl) (by simp; omega) ?_))))))))))))))))
 have hl2:lo < 18446744073709551616:=by simp only [BB] at hl; omega
 have hy2:y < 18446744073709551616:=by simp only [BB] at hyb; omega
 refine cY (ts (rm rfl (ro rfl (gJ U_189 U_254 (Ht rfl) (by show _ < 18446744073709551616; simp only [BB] at *; omega)) (ro rfl (pK (Ht rfl) (cV 32) (by decide) hsh) (rm rfl (ro rfl (gJ U_189 U_254 (Ht rfl) (by show _ < 18446744073709551616; simp only [BB] at *; omega)) (ro rfl (aM.nat (rK rfl (Ht rfl) (Ht rfl) z7 z7) (zA hl)) (ra rfl (eZ ?_)))))))))
 refine cU (fJ (m:=11) (dp 8 rfl (cZ (Ht rfl)) (dp 2 rfl (cZ (Ht rfl)) (dq 24 1 rfl (gJ U_189 U_254 (Ht rfl) (by show _ < 18446744073709551616; simp only [BB] at *; omega)) (cP 23 0 25 2 rfl (kL (Ht rfl) (Ht rfl) zo (by show _ < 18446744073709551616; exact hz)) (dq 26 3 rfl (gJ U_254 U_189 (Ht rfl) (by show _ < 4294967296; exact hq)) (dp 8 rfl (cZ (Ht rfl)) (dp 2 rfl (cZ (Ht rfl)) (dq 29 6 rfl (gJ U_189 U_254 (Ht rfl) (by show _ < 18446744073709551616; simp only [BB] at *; omega)) ?_)))))))))
 refine cP 28 5 30 7 rfl (pJ (Ht rfl) (Ht rfl) zo) (dq 31 8 rfl (gJ U_254 U_189 (Ht rfl) (by show _ < 4294967296; simp only [BB] at *; omega)) (dq 27 4 rfl (cX (Ht rfl)) (fW aL rfl (by kernel_rfl) (zF (zF (aJ (aJ (aJ (aV (ra rfl (eZ ?_)))))))))))
 exact bM rfl (eY rfl) (eY rfl)
theorem a4U {m k:Nat} (hm:(dg m).length ≤ 17592186044416) (hk:k ≤ 562949953421312):bE Tryz.prog 259 [aH m,NT .i64 k] (aH (m * 2 ^ k)):=by
 refine bE.intro Tryz.func259 rfl Tryz.ntmps259 rfl (fun cx=>(ts (ro rfl (cX cW) (eZ (cU (ts (rm rfl (ro rfl (dK U_47 (Ht rfl) aA) (ro rfl (cT (Ht rfl) (cV 0)) (rm rfl (fX rfl rfl (eU rfl rfl (Ht rfl) (fun h=>cZ (Ht rfl))) (fX rfl rfl (eU rfl rfl (Ht rfl) (fun h=>cT (fV rfl h) (cV 0))) (ro rfl (gN (Ht rfl) (fun h=>(fV rfl h))) (eZ (dX (Ht rfl) (fun hb=>?_) (fun hb=>?_))))))))))))))))
 ·simp [aR] at hb
  have h0 : m * 2 ^ k = m := by
   rcases hb with h | h
   ·simp_all [sT]
   ·rw [h,Nat.pow_zero,Nat.mul_one]
  refine ts (rm rfl (ra rfl (eZ (fG rfl (fZ (eY rfl) ?_)))))
  exact (dO h0.symm)
 ·clear hb
  have hr:=Nat.mod_lt k (by decide:32 > 0)
  refine cY (ts (rm rfl (ro rfl (kL (Ht rfl) (cV 32) zo z6) (rm rfl (ro rfl (pJ (Ht rfl) (cV 32) zo) (ro rfl (gJ U_3 U_255 (Ht rfl) z7) (ra rfl (ra rfl (eZ (ts (rm rfl (ro rfl (dK U_47 (Ht rfl) aA) (rm rfl (ro rfl (dW (Ht rfl) (Ht rfl) z6) (ro rfl (dW (Ht rfl) (cV 1) z6) ?_)))))))))))))))
  refine rn rfl (eM (T:=cO 0) (i:=Tryz.t189) V_47 jB rfl rfl (Ht rfl) rfl (fun _=>rfl) trivial (by show 4 * _ ≤ _; omega) zo) fun B29=>ra rfl (eZ (cU (ts (rm rfl (ro rfl (dK U_47 (Ht rfl) aA) (ro rfl (cZ (cV 0)) (eZ (eK ?_))))))))
  refine gA (fun (i : Nat) (out : List Nat) => Eu (dg m) (k / 32) (k % 32) out i) (fun (i : Nat) (out : List Nat) => (dg m).length - i) (fun (i : Nat) (out : List Nat) => [(5, NT .i64 (k / 32)), (6, NT .u64 (k % 32)), (7, Is (.slice (some ⟨B29, 0, none⟩) ((dg m).length + k / 32 + 1) ((dg m).length + k / 32 + 1))), (30, aH m), (31, NT .i64 (dg m).length), (32, NT .i64 i)]) (fun (i : Nat) (out : List Nat) => [box B29 189 (out.map cO)]) 0 (List.replicate ((dg m).length + k / 32 + 1) 0) (Eu.start _ _ _)
   (zS rfl) (aU (aB (lX _)) aY) (fun i out hS=>?_)
  refine ts (ro rfl (gZ (Ht rfl) (Ht rfl)) (eZ (cU (dX (Ht rfl) (fun hb=>?_) (fun hb=>?_)))))
  ·simp at hb
   have hlen:=hS.len; have hxi:=bH (cA m) i; have hok:=bH hS.dig (i + k / 32)
   have hv:=Jp hxi hr
   have hd:(dg m).getD i 0 * 2 ^ (k % 32) / 2 ^ 32 < 4294967296:=Nat.div_lt_of_lt_mul hv
   simp only [BB] at hxi hok
   refine cY (cU (eK (ts (rm rfl (ro rfl (dJ U_47 Z_189 (Ht rfl) (Ht rfl) rfl (eQ (aO zo))) (ro rfl (dV A_189 Z_189 (Ht rfl)) (ra rfl (ra rfl (eZ (ts (rm rfl (ro rfl (gJ U_189 U_254 (Ht rfl) z7) (rm rfl (ro rfl (pK (Ht rfl) (Ht rfl) (by show _ ≤ _; simp [IntKind.bits]; omega) (by show _ < 18446744073709551616; exact hv)) (ra rfl (eZ (ts (rm rfl (rm rfl (rm rfl (ro rfl (dW (Ht rfl) (Ht rfl) z6) ?_)))))))))))))))))))))
   refine ro rfl (gQ U_47 Z_189 (Ht rfl) (Ht rfl) rfl zo (by rw [Nat.mul_one,Nat.zero_add])) ?_
   refine ro rfl (fQ A_189 Z_189 (Ht rfl) (i:=0) rfl (eQ (aO zo))) (rm rfl (ro rfl (gD rfl U_254 U_189 (Ht rfl)) (ro rfl (rK rfl (Ht rfl) (Ht rfl) (by show _ < 4294967296; omega) (by show _ % 4294967296 < 4294967296; omega)) (ro rfl (gQ U_47 Z_189 (Ht rfl) (Ht rfl) rfl zo (by rw [Nat.mul_one,Nat.zero_add])) ?_))))
   refine lY Z_189 (Ht rfl) (Ht rfl) (i:=0) rfl (by first | omega | (simp; omega)) rfl (eZ (dQ (rm rfl (rm rfl (rm rfl (ro rfl (dW (Ht rfl) (Ht rfl) z6) (ro rfl (dW (Ht rfl) (cV 1) z6) (rm rfl (ro rfl (fF (Ht rfl) (cV 32) (by decide)) (ro rfl (gJ U_254 U_189 (Ht rfl) (by show _ < 4294967296; exact hd)) (ro rfl (gQ U_47 Z_189 (Ht rfl) (Ht rfl) rfl zo (by rw [Nat.mul_one,Nat.zero_add])) ?_)))))))))))
   refine lY Z_189 (Ht rfl) (Ht rfl) (i:=0) rfl (by first | omega | (simp; omega)) rfl (eZ (bC (dQ (ro rfl (dW (Ht rfl) (cV 1) z6) (rm rfl (eZ (fY (i + 1,_) (hS.next (cA m) hr hb rfl rfl) (by dsimp only; omega) (zS rfl) (aU (aB (Pq _ _ _ _ _)) aY))))))))
  ·simp at hb
   have hkl:i = (dg m).length:=Nat.le_antisymm hS.kle hb
   subst hkl
   have hlen:=hS.len
   have hfin:=hS.fin
   rw [dH,nW] at hfin
   refine gW rfl (gV (i:=0) (tt:=7) rfl rfl (mS rfl hlen.symm (Nat.le_refl _)) (ts (rm rfl (ro rfl (cJ K_221 (tO _ hS.dig zo) ⟨(Ht rfl),trivial⟩) (ra rfl (eZ (fG rfl (fZ (eY rfl) ?_))))))))
   exact (dO hfin)
theorem a7s {m k:Nat} (hm:(dg m).length ≤ 17592186044416) (hk:k ≤ 562949953421312):bE Tryz.prog 261 [aH m,NT .i64 k] (aH (m / 2 ^ k)):=by
 refine bE.intro Tryz.func261 rfl Tryz.ntmps261 rfl (fun cx=>?_)
 have hr:=Nat.mod_lt k (by decide:32 > 0)
 refine ts (ro rfl (cX cW) (eZ (ts (rm rfl (ro rfl (kL (Ht rfl) (cV 32) zo z6) (rm rfl (ro rfl (pJ (Ht rfl) (cV 32) zo) (ro rfl (gJ U_3 U_255 (Ht rfl) z7) (ra rfl (ra rfl (eZ (cU (ts (rm rfl (rm rfl (ro rfl (dK U_47 (Ht rfl) aA) (ro rfl (sE (Ht rfl) (Ht rfl)) (eZ (dX (Ht rfl) (fun hb=>?_) (fun hb=>?_))))))))))))))))))))
 ·simp at hb
  have h0:=Pv (cA m) hb (r:=k % 32)
  rw [dH,nW] at h0
  refine ts (ro rfl (cX cW) (eZ (fG rfl (fZ (eY rfl) ?_))))
  exact (fun v V h=>dO h0.symm v V (lN v V h))
 ·simp at hb
  refine cY (ts (rm rfl (ro rfl (dK U_47 (Ht rfl) aA) (rm rfl (ro rfl (dG (Ht rfl) (Ht rfl) zo z6) (rn rfl (eM (T:=cO 0) (i:=Tryz.t189) V_47 jB rfl rfl (Ht rfl) rfl (fun _=>rfl) trivial (by show 4 * _ ≤ _; omega) zo) fun B23=>(ra rfl (eZ (cU (ts (rm rfl (ro rfl (iD U_47 (Ht rfl)) (ro rfl (cZ (cV 0)) (eZ (eK ?_)))))))))))))))
  refine gA (fun (i : Nat) (out : List Nat) => Ev (dg m) (k / 32) (k % 32) out i) (fun (i : Nat) (out : List Nat) => (dg m).length - i) (fun (i : Nat) (out : List Nat) => [(0, aH m), (5, NT .i64 (k / 32)), (6, NT .u64 (k % 32)), (7, Is (.slice (some ⟨B23, 0, none⟩) ((dg m).length - k / 32) ((dg m).length - k / 32))), (25, NT .i64 ((dg m).length - k / 32 : Nat)), (26, NT .i64 i)]) (fun (i : Nat) (out : List Nat) => [box B23 189 (out.map cO)]) 0 (List.replicate ((dg m).length - k / 32) 0) (Ev.start _ _ _)
   (zS rfl) (aU (aB (lX _)) aY) (fun i out hS=>?_)
  refine ts (ro rfl (gZ (Ht rfl) (Ht rfl)) (eZ (cU (dX (Ht rfl) (fun hb=>?_) (fun hb=>?_)))))
  ·simp at hb
   have hlen:=hS.len; have hx0:=bH (cA m) (i + k / 32); have hx1:=bH (cA m) (i + k / 32 + 1)
   have hio:i < out.length:=by omega
   simp only [BB] at hx0 hx1
   refine cY (cU (eK (ts (rm rfl (ra rfl (eZ (ts (rm rfl (rm rfl (rm rfl (ro rfl (dW (Ht rfl) (Ht rfl) z6) (ro rfl (dJ U_47 Z_189 (Ht rfl) (Ht rfl) rfl (eQ (aO zo))) (ro rfl (dV A_189 Z_189 (Ht rfl)) (ro rfl (gJ U_189 U_254 (Ht rfl) z7) (ra rfl (eZ (cU (jS (fun (v:Nat)=>v = (dg m).getD (i + k / 32) 0 + BB * (dg m).getD (i + k / 32 + 1) 0) (fun (v:Nat)=>[(0,aH m),(5,NT .i64 (k / 32)),(6,NT .u64 (k % 32)),(7,Is (.slice (some ⟨B23,0,none⟩) ((dg m).length - k / 32) ((dg m).length - k / 32))),(8,NT .i64 i),(9,NT .u64 v),(25,NT .i64 ((dg m).length - k / 32:Nat)),(26,NT .i64 i)]) (fun (v:Nat)=>[box B23 189 (out.map cO)]) ?_ (fun v hv=>?_)))))))))))))))))))
   ·refine ts (rm rfl (rm rfl (ro rfl (dW (Ht rfl) (Ht rfl) z6) (ro rfl (dW (Ht rfl) (cV 1) z6) (rm rfl (ro rfl (dK U_47 (Ht rfl) aA) (ro rfl (gZ (Ht rfl) (Ht rfl)) (eZ (dX (Ht rfl) (fun hk2 => ?_) (fun hk2 => ?_))))))))))
    ·simp at hk2
     refine dQ (rm rfl (rm rfl (rm rfl (rm rfl (ro rfl (dW (Ht rfl) (Ht rfl) z6) (ro rfl (dW (Ht rfl) (cV 1) z6) (ro rfl (dJ U_47 Z_189 (Ht rfl) (Ht rfl) rfl (eQ (aO zo))) (ro rfl (dV A_189 Z_189 (Ht rfl)) (ro rfl (gJ U_189 U_254 (Ht rfl) z7) (ro rfl (pK (Ht rfl) (cV 32) (by decide) (by show _ < 18446744073709551616; omega)) ?_))))))))))
     refine ro rfl (aM.nat (rK rfl (Ht rfl) (Ht rfl) z7 z7) (Wb hx0)) (ra rfl (eZ (bD ((dg m).getD (i + k / 32) 0 + BB * (dg m).getD (i + k / 32 + 1) 0) rfl (zS rfl) (dE.refl _))))
    ·simp at hk2
     refine cY (bD ((dg m).getD (i + k / 32) 0) (by simp [List.getD,List.getElem?_eq_none hk2]) (zS rfl) (dE.refl _))
   ·refine dQ (rm rfl (rm rfl (rm rfl (rm rfl (ro rfl (fF (Ht rfl) (Ht rfl) (by show _ ≤ 64; omega)) (ro rfl (gD rfl U_254 U_189 (Ht rfl)) (ro rfl (gQ U_47 Z_189 (Ht rfl) (Ht rfl) rfl zo (by rw [Nat.mul_one, Nat.zero_add])) ?_)))))))
    refine lY Z_189 (Ht rfl) (Ht rfl) (i:=0) rfl (by first | omega | (simp; omega)) rfl (eZ (bC (dQ (ro rfl (dW (Ht rfl) (cV 1) z6) (rm rfl (eZ (fY (i + 1,_) (hS.next (cA m) hr hio (by rw [hv]; rfl)) (by dsimp only; omega) (zS rfl) (aU (aB (fS _ _ _)) aY))))))))
  ·simp at hb
   have hlen:=hS.len
   have hkl:i = out.length:=Nat.le_antisymm hS.kle zo
   subst hkl
   have hfin:=hS.fin (cA m) zo
   rw [dH,nW] at hfin
   refine gW rfl (gV (i:=0) (tt:=7) rfl rfl (mS rfl hlen.symm (Nat.le_refl _)) (ts (rm rfl (ro rfl (cJ K_221 (tO _ hS.dig zo) ⟨(Ht rfl),trivial⟩) (ra rfl (eZ (fG rfl (fZ (eY rfl) ?_))))))))
   exact (dO hfin)
theorem Uf {m y:Nat} (hm:(dg m).length ≤ 17592186044416) (hy:0 < y) (hyb:y < BB):bE Tryz.prog 257 [aH m,cO y] (eS [aH (m / y),cO (m % y)]):=by
 refine bE.intro Tryz.func257 rfl Tryz.ntmps257 rfl (fun cx=>(ts (ro rfl (cX cW) (ro rfl (cX (cV 0)) (eZ (ts (rm rfl (ro rfl (dK U_47 (Ht rfl) aA) (rn rfl (eM (T:=cO 0) (i:=Tryz.t189) V_47 jB rfl rfl (Ht rfl) rfl (fun _=>rfl) trivial (by show 4 * _ ≤ _; omega) zo) fun B11=>(ra rfl (eZ (ts (ro rfl (cX (cV 0)) (eZ (cU (ts (rm rfl (ro rfl (dK U_47 (Ht rfl) aA) (ro rfl (iY (Ht rfl) cW (Ej zo)) (ra rfl (eZ (eK ?_))))))))))))))))))))))
 refine jF (fun (k : Nat) (out : List Nat) (r : Nat) => qZ (dg m) y out k r) (fun (k : Nat) (out : List Nat) (r : Nat) => k) (fun (k : Nat) (out : List Nat) (r : Nat) => [(0, aH m), (1, cO y), (6, Is (.slice (some ⟨B11, 0, none⟩) (dg m).length (dg m).length)), (7, cO r), (8, aT .i64 ((k : Int) - 1))]) (fun (k : Nat) (out : List Nat) (r : Nat) => [box B11 189 (out.map cO)]) (dg m).length (List.replicate (dg m).length 0) 0 (qZ.start _ hy)
  (zS rfl) (aU (aB (lX _)) aY) (fun k out r hS=>?_)
 refine cU (ts (rm rfl (ro rfl (mV (Ht rfl) cW) (eZ (dX (Ht rfl) (fun hb=>?_) (fun hb=>?_))))))
 ·simp at hb
  have hlen:=hS.len; have hkl:=hS.kle
  refine cY (cU (eK (dQ (rm rfl (rm rfl (rm rfl (rm rfl (rm rfl (ro rfl (dJ U_47 Z_189 (Ht rfl) (Ht rfl) (show ((k:Int) - 1) = ((k - 1:Nat):Int) by omega) (eQ (aO zo))) (ro rfl (dV A_189 Z_189 (Ht rfl)) (rm rfl (ro rfl (cJ Tryz.call279 (a2J hS.rlt (bH (cA m) (k - 1)) hyb) ⟨(Ht rfl),(Ht rfl),(Ht rfl),trivial⟩) (rm rfl (ro rfl (dU (Ht rfl) rfl) (ro rfl (dU (Ht rfl) rfl) (ro rfl (gQ U_47 Z_189 (Ht rfl) (Ht rfl) (show ((k:Int) - 1) = ((k - 1:Nat):Int) by omega) zo (by rw [Nat.mul_one,Nat.zero_add])) ?_))))))))))))))))
  refine lY Z_189 (Ht rfl) (Ht rfl) (i:=0) rfl (by first | omega | (simp; omega)) rfl (ra rfl (eZ (bC (dQ (rm rfl (ro rfl (iY (Ht rfl) cW (Ej zo)) (ra rfl (eZ (fY (k - 1,_,_) (hS.next (cA m) zo rfl) (by dsimp only; omega) (aQ rfl (aQ rfl (aQ rfl (aQ rfl (aZ rfl (aS zo) aX))))) (aU (aB (fS _ _ _)) aY))))))))))
 ·simp at hb
  have hk0:k = 0:=by omega
  subst hk0
  have hlen:=hS.len
  have hfin:=hS.fin
  rw [dH] at hfin
  refine gW rfl (gV (i:=0) (tt:=6) rfl rfl (mS rfl hlen.symm (Nat.le_refl _)) (ts (rm rfl (ro rfl (cJ K_221 (tO _ hS.dig zo) ⟨(Ht rfl),trivial⟩) (rm rfl (ra rfl (ra rfl (eZ (bM rfl (fZ (eY rfl) ?_) (fZ (eY rfl) ?_))))))))))
  ·exact (dO hfin.1)
  ·exact (lO hfin.2)
end
section
open Go Go.RowKit
theorem a5S {us vs : List Nat} {q j B l : Nat} (hul : us.length = l) (hu : lV us) (hv : lV vs) (hq : q < BB) (hl : j + vs.length < us.length) (hL : us.length ≤ 1152921504606846976) :
    gG Tryz.prog 260 [Is (.slice (some ⟨B,0,none⟩) l l),yP vs,NT .u64 q,NT .i64 j] [box B 189 (us.map cO)] (List Nat × Bool) (fun x=>aD x.2) (fun x=>[box B 189 (x.1.map cO)]) (fun x=>Mk us vs q j x.1 x.2):=by
 refine gG.intro Tryz.func260 rfl Tryz.ntmps260 rfl (fun cx Z=>(ts (ro rfl (cX cW) (eZ (ts (ro rfl (cX (cV 0)) (ro rfl (cX (cV 0)) (eZ (cU (ts (rm rfl (ro rfl (dK U_47 (Ht rfl) aA) (ro rfl (cZ (cV 0)) (eZ (eK ?_)))))))))))))))
 refine zN (fun (i : Nat) (out : List Nat) (c : Nat) (b : Nat) => uK us vs q j out i c b) (fun (i : Nat) (out : List Nat) (c : Nat) (b : Nat) => vs.length - i) (fun (i : Nat) (out : List Nat) (c : Nat) (b : Nat) => [(0, Is (.slice (some ⟨B, 0, none⟩) l l)), (1, yP vs), (2, NT .u64 q), (3, NT .i64 j), (9, NT .u64 c), (10, NT .u64 b), (16, yP vs), (17, NT .i64 vs.length), (18, NT .i64 i)]) (fun (i : Nat) (out : List Nat) (c : Nat) (b : Nat) => [Z, box B 189 (out.map cO)]) 0 us 0 0 (uK.start hu vs q j)
  (zS rfl) (dE.refl _) (fun i out c b hS=>?_)
 refine ts (ro rfl (gZ (Ht rfl) (Ht rfl)) (eZ (cU (dX (Ht rfl) (fun hb=>?_) (fun hb=>?_)))))
 ·simp at hb
  have hlen:=hS.len; have hcl:=hS.clt; have hbl:=hS.ble; have hvi:=bH hv i; have hok:=bH hS.dig (i + j)
  have hp:=Sx hq hvi hS.clt
  simp only [BB] at hp hcl hvi hok
  obtain ⟨p,hp1⟩:∃ p,p = q * vs.getD i 0 + c:=⟨_,rfl⟩
  obtain ⟨x,hx1⟩:∃ x,x = ((out.getD (i + j) 0 + 18446744073709551616 - p % 4294967296) % 18446744073709551616 + 18446744073709551616 - b) % 18446744073709551616:=⟨_,rfl⟩
  refine cY (cU (eK (ts (rm rfl (ro rfl (dJ U_47 Z_189 (Ht rfl) (Ht rfl) rfl (eQ (aO zo))) (ro rfl (dV A_189 Z_189 (Ht rfl)) (ra rfl (ra rfl (eZ (ts (rm rfl (rm rfl (ro rfl (gJ U_189 U_254 (Ht rfl) z7) (ro rfl (mN (Ht rfl) (Ht rfl) z7) (rm rfl (ro rfl (aM.nat (dW (Ht rfl) (Ht rfl) z7) hp1.symm) ?_))))))))))))))))
  refine ra rfl (eZ (ts (rm rfl (ro rfl (fF (Ht rfl) (cV 32) (by decide)) (ra rfl (eZ (ts (rm rfl (rm rfl (rm rfl (ro rfl (dW (Ht rfl) (Ht rfl) z6) (ro rfl (gQ U_47 Z_189 (Ht rfl) (Ht rfl) rfl zo (by rw [Nat.mul_one,Nat.zero_add])) ?_))))))))))))
  refine ro rfl (fQ A_189 Z_189 (Ht rfl) (i:=1) rfl (eQ (aO zo))) (ro rfl (gJ U_189 U_254 (Ht rfl) z7) (rm rfl (ro rfl (gD rfl U_254 U_189 (Ht rfl)) (ro rfl (gJ U_189 U_254 (Ht rfl) z7) (ro rfl (nJ rfl (Ht rfl) (Ht rfl) (by show _ ≤ 18446744073709551616; first | omega | (simp only [mT]; omega))) ?_)))))
  refine rm rfl (ro rfl (aM.nat (nJ rfl (Ht rfl) (Ht rfl) (by show _ ≤ 18446744073709551616; first | omega | (simp only [mT]; omega))) hx1.symm) (ra rfl (eZ (ts (rm rfl (rm rfl (rm rfl (ro rfl (dW (Ht rfl) (Ht rfl) z6) (rm rfl (ro rfl (gD rfl U_254 U_189 (Ht rfl)) (ro rfl (gQ U_47 Z_189 (Ht rfl) (Ht rfl) rfl zo (by rw [Nat.mul_one,Nat.zero_add])) ?_)))))))))))
  refine lY Z_189 (Ht rfl) (Ht rfl) (i:=1) rfl (by first | omega | (simp; omega)) rfl (eZ (dQ (rm rfl (ro rfl (fF (Ht rfl) (cV 63) (by decide)) (ra rfl (eZ (bC (dQ (ro rfl (dW (Ht rfl) (cV 1) z6) (rm rfl (eZ (fY (i + 1,_,_,_) (hS.next hu hv hq hb hl hp1 (Ha hok hbl hx1) rfl) (by dsimp only; omega) (zS rfl) (aU (fun _ _ _ h=>h) (aU (aB (fS _ _ _)) aY))))))))))))))
 ·simp at hb
  have hkl:i = vs.length:=Nat.le_antisymm hS.ile hb
  subst hkl
  have hlen:=hS.len; have hcl:=hS.clt; have hbl:=hS.ble; have hok:=bH hS.dig (j + vs.length)
  obtain ⟨x,hx1⟩:∃ x,x = ((out.getD (j + vs.length) 0 + 18446744073709551616 - c) % 18446744073709551616 + 18446744073709551616 - b) % 18446744073709551616:=⟨_,rfl⟩
  have hfin:=hS.fin hl (Hd hok hcl hbl hx1) rfl
  simp only [BB] at hcl hok
  refine gW rfl (ts (rm rfl (rm rfl (rm rfl (ro rfl (dK U_47 (Ht rfl) aA) (ro rfl (dW (Ht rfl) (Ht rfl) z6) (ro rfl (gQ U_47 Z_189 (Ht rfl) (Ht rfl) rfl zo (by rw [Nat.mul_one,Nat.zero_add])) ?_)))))))
  refine ro rfl (fQ A_189 Z_189 (Ht rfl) (i:=1) rfl (eQ (aO zo))) (ro rfl (gJ U_189 U_254 (Ht rfl) z7) (rm rfl (ro rfl (nJ rfl (Ht rfl) (Ht rfl) (by show _ ≤ 18446744073709551616; first | omega | (simp only [mT]; omega))) (rm rfl (ro rfl (aM.nat (nJ rfl (Ht rfl) (Ht rfl) (by show _ ≤ 18446744073709551616; first | omega | (simp only [mT]; omega))) hx1.symm) (ra rfl (eZ (ts (rm rfl (rm rfl (rm rfl (ro rfl (dK U_47 (Ht rfl) aA) ?_))))))))))))
  refine ro rfl (dW (Ht rfl) (Ht rfl) z6) (rm rfl (ro rfl (gD rfl U_254 U_189 (Ht rfl)) (ro rfl (gQ U_47 Z_189 (Ht rfl) (Ht rfl) rfl zo (by rw [Nat.mul_one,Nat.zero_add])) ?_)))
  refine lY Z_189 (Ht rfl) (Ht rfl) (i:=1) rfl (by first | omega | (simp; omega)) rfl (eZ (ts (rm rfl (ro rfl (fF (Ht rfl) (cV 63) (by decide)) (ro rfl (fB (Ht rfl) (cV 0)) (ra rfl (eZ ?_)))))))
  exact jT (_,_) hfin [0,1] ⟨⟨_,rfl,fun _ _ _ h=>h⟩,⟨_,rfl,(aB (fS _ _ _))⟩,trivial⟩ (by decide) (wN rfl (eY rfl))
theorem Tw {m n:Nat} (hm:(dg m).length ≤ 17592186044415) (hn1:(dg n).length ≤ 17592186044416) (hn:n ≠ 0):bE Tryz.prog 220 [aH m,aH n] (eS [aH (m / n),aH (m % n)]):=by
 refine bE.intro Tryz.func220 rfl Tryz.ntmps220 rfl (fun cx=>(ts (ro rfl (cX cW) (ro rfl (cX cW) (eZ (cU (ts (rm rfl (rm rfl (ro rfl (cJ Tryz.call216 (a0l zo zo) ⟨(Ht rfl),(Ht rfl),trivial⟩) (ro rfl (tX (Ht rfl) cW) (eZ (dX (Ht rfl) (fun hb=>?_) (fun hb=>?_))))))))))))))
 ·simp only [decide_eq_true_eq] at hb
  have hlt : m < n := by
   unfold sI at hb
   split at hb
   ·assumption
   ·split at hb <;> simp at hb
  refine ts (rm rfl (ro rfl (cX cW) (ra rfl (eZ (bM rfl (fZ (eY rfl) ?_) (fZ (eY rfl) ?_))))))
  ·exact (fun v V h=>dO (Nat.div_eq_of_lt hlt).symm v V (lN v V h))
  ·exact (dO (Nat.mod_eq_of_lt hlt).symm)
 ·simp only [decide_eq_false_iff_not] at hb
  have hle : n ≤ m := by
   unfold sI at hb
   split at hb
   ·simp at hb
   ·omega
  clear hb
  refine cY (cU (ts (rm rfl (ro rfl (dK U_47 (Ht rfl) aA) (ro rfl (cT (Ht rfl) (cV 1)) (eZ (dX (Ht rfl) (fun h1=>?_) (fun h1=>?_))))))))
  ·simp at h1
   have hy0:=a0L h1
   have hyb:=bH (cA n) 0
   have hmod:=Nat.mod_lt m (show (dg n).getD 0 0 > 0 by omega)
   simp only [BB] at hyb
   refine ts (rm rfl (rm rfl (ro rfl (dJ U_47 Z_189 (Ht rfl) (cV 0) rfl (eQ (aO zo))) (ro rfl (dV A_189 Z_189 (Ht rfl)) (ro rfl (cJ Tryz.call257 (Uf zo zo hyb) ⟨(Ht rfl),(Ht rfl),trivial⟩) (rm rfl (ro rfl (dU (Ht rfl) rfl) (ro rfl (dU (Ht rfl) rfl) (ra rfl (ra rfl (eZ (ts (rm rfl (rm rfl (ro rfl (gJ U_189 U_254 (Ht rfl) z7) (ro rfl (cJ Tryz.call241 (Kj zo) ⟨(Ht rfl),trivial⟩) ?_))))))))))))))))
   refine ra rfl (ra rfl (eZ (bM rfl (fZ (eY rfl) ?_) (fZ (eY rfl) ?_))))
   ·exact (dO (by rw [hy0]))
   ·exact (dO (by rw [hy0]))
  ·simp at h1
   have hl0:(dg n).length ≠ 0:=fun e=>hn (aR.1 e)
   have hyb:=bH (cA n) ((dg n).length - 1)
   obtain ⟨s,hs⟩:∃ s,s = 32 - bl ((dg n).getD ((dg n).length - 1) 0):=⟨_,rfl⟩
   obtain ⟨hs1,hvl,hvb⟩:=Nk hn hs
   obtain ⟨hc1,hc2,hc3,hc4⟩:=Ng (m:=m) hs1
   simp only [BB] at hyb
   have hp2:0 < 2 ^ s:=Nat.pow_pos (by decide)
   have hX0:(dg (m * 2 ^ s)).length ≠ 0:=fun e=>(Nat.ne_of_gt (Nat.mul_pos (show 0 < m by omega) hp2)) (aR.1 e)
   have hmono:=iM hle
   refine cY (ts (rm rfl (ro rfl (dK U_47 (Ht rfl) aA) (rm rfl (rm rfl (ro rfl (dK U_47 (Ht rfl) aA) (ro rfl (dG (Ht rfl) (cV 1) zo z6) (ro rfl (dJ U_47 Z_189 (Ht rfl) (Ht rfl) rfl (eQ (aO zo))) (ro rfl (dV A_189 Z_189 (Ht rfl)) (ro rfl (aM.nat (cJ Tryz.call258 (a5K zo) ⟨(Ht rfl),trivial⟩) hs.symm) (ra rfl (ra rfl (eZ (ts (rm rfl (rm rfl (ro rfl (cJ Tryz.call259 (a4U zo zo) ⟨(Ht rfl),(Ht rfl),trivial⟩) ?_)))))))))))))))))
   refine ra rfl (eZ (ts (rm rfl (ro rfl (dK U_47 (Ht rfl) aA) (ro rfl (dW (Ht rfl) (cV 1) z6) (rn rfl (eM (T:=cO 0) (i:=Tryz.t189) V_47 jB rfl rfl (Ht rfl) rfl (fun _=>rfl) trivial (by show 4 * _ ≤ _; omega) zo) fun B55=>(ra rfl (eZ (ts (rm rfl (rm rfl (rm rfl (ro rfl (cJ Tryz.call259 (a4U zo zo) ⟨(Ht rfl),(Ht rfl),trivial⟩) (Tf U_47 Z_189 (Ht rfl) (Ht rfl) (a1m hX0) a59 (i:=0) rfl (by simp) (by simp; omega) (Nh _ _) rfl rfl ?_))))))))))))))
   refine eZ (ts (rm rfl (ro rfl (iD U_47 (Ht rfl)) (rm rfl (ro rfl (dG (Ht rfl) (Ht rfl) zo z6) (rn rfl (eM (T:=cO 0) (i:=Tryz.t189) V_47 jB rfl rfl (Ht rfl) rfl (fun _=>rfl) trivial (by show 4 * _ ≤ _; omega) zo) fun B65=>(ra rfl (eZ (cU (ts (rm rfl (ro rfl (iD U_47 (Ht rfl)) (ro rfl (iY (Ht rfl) cW (Ej zo)) (ra rfl (eZ (eK ?_))))))))))))))))
   obtain ⟨vs,hvs⟩:∃ vs,vs = dg (n * 2 ^ s):=⟨_,rfl⟩
   rw [← hvs] at hvl hvb
   have hv:lV vs:=hvs ▸ cA _
   have hvv:val vs = n * 2 ^ s:=by rw [hvs,dH]
   have hV0:0 < val vs:=by rw [hvv]; exact Nat.mul_pos zo hp2
   have hnr:=Vp hv zo hvb
   have hv1:=hnr.v1lt; have hv2:=hnr.v2lt; have hbig:=hnr.big
   simp only [BB] at hv1 hv2 hbig
   refine jF (fun (k : Nat) (us : List Nat) (qs : List Nat) => pX (m * 2 ^ s) vs us qs k ∧ us.length = (dg m).length + 1) (fun (k : Nat) (us : List Nat) (qs : List Nat) => k) (fun (k : Nat) (us : List Nat) (qs : List Nat) => [(8, NT .i64 vs.length), (9, NT .i64 s), (10, yP vs), (11, Is (.slice (some ⟨B55, 0, none⟩) ((dg m).length + 1) ((dg m).length + 1))), (12, Is (.slice (some ⟨B65, 0, none⟩) ((dg m).length + 1 - (dg n).length) ((dg m).length + 1 - (dg n).length))), (13, aT .i64 ((k : Int) - 1))]) (fun (k : Nat) (us : List Nat) (qs : List Nat) => [box B55 189 (us.map cO), box B65 189 (qs.map cO)]) ((dg m).length + 1 - (dg n).length) (Fj m s) (List.replicate ((dg m).length + 1 - (dg n).length) 0) ⟨pX.start hv zo hvb hs1 (by have := kA (cA m); rwa [dH] at this) hc3 hc2 hc4 zo, hc2⟩
    (aZ rfl (lO hvl.symm) (aQ rfl (aZ rfl (fun v V h=>by rw [hvs]; exact h) (aQ rfl (aQ rfl (aZ rfl (aS zo) aX)))))) (aU (fun _ _ _ h=>h) (aU (aB (lX _)) aY)) (fun k us qs ⟨hS,hus⟩=>?_)
   refine cU (ts (rm rfl (ro rfl (mV (Ht rfl) cW) (eZ (dX (Ht rfl) (fun hk=>?_) (fun hk=>?_))))))
   ·simp at hk
    obtain ⟨j,rfl⟩:∃ j,k = j + 1:=⟨k - 1,by omega⟩
    have htp:=hS.top hv zo (Nat.succ_pos j) rfl
    have hkq:=hS.kle; have hlq:=hS.lenq
    rw [Nat.add_sub_cancel] at htp
    have hu0:=bH hS.dig (j + vs.length); have hu1:=bH hS.dig (j + vs.length - 1); have hu2:=bH hS.dig (j + vs.length - 2)
    have ht64:=a2i hu0 hu1; have hsh:=Pt hu0
    obtain ⟨top,htop⟩:∃ top,top = us.getD (j + vs.length) 0 * BB + us.getD (j + vs.length - 1) 0:=⟨_,rfl⟩
    have hor:=(zA (a:=us.getD (j + vs.length) 0) hu1).trans htop.symm
    rw [← htop] at htp ht64
    have hu2b:=hu2
    simp only [BB] at hu0 hu1 hu2
    refine qC (E':=[(8,_),(9,_),(10,_),(11,_),(12,_),(13,_),(69,_),(70,_)]) (aQ rfl (aQ rfl (aQ rfl (aQ rfl (aQ rfl (aZ rfl (aS (show ((j + 1:Nat):Int) - 1 = (j:Int) by omega)) (zS rfl))))))) (cY (cU (eK (cU (fJ (m:=16) (dp 11 rfl (cZ (Ht rfl)) (dp 13 rfl (cZ (Ht rfl)) (dp 8 rfl (cZ (Ht rfl)) (cP 74 1 75 2 rfl (dW (Ht rfl) (Ht rfl) z6) (cP 73 0 76 3 rfl (gQ U_47 Z_189 (Ht rfl) (Ht rfl) rfl zo (by rw [Nat.mul_one,Nat.zero_add])) ?_))))))))))
    refine dq 77 4 rfl (fQ A_189 Z_189 (Ht rfl) (i:=0) rfl (eQ (aO zo))) (dq 78 5 rfl (gJ U_189 U_254 (Ht rfl) z7) (dq 79 6 rfl (pK (Ht rfl) (cV 32) (by decide) hsh) (dp 11 rfl (cZ (Ht rfl)) (dp 13 rfl (cZ (Ht rfl)) (dp 8 rfl (cZ (Ht rfl)) (cP 82 9 83 10 rfl (dW (Ht rfl) (Ht rfl) z6) (dq 84 11 rfl (dG (Ht rfl) (cV 1) zo z6) ?_)))))))
    refine cP 81 8 85 12 rfl (gQ U_47 Z_189 (Ht rfl) (Ht rfl) rfl zo (by rw [Nat.mul_one,Nat.zero_add])) ?_
    refine dq 86 13 rfl (fQ A_189 Z_189 (Ht rfl) (i:=0) rfl (eQ (aO zo))) (dq 87 14 rfl (gJ U_189 U_254 (Ht rfl) z7) (fW aL rfl (by kernel_rfl) (zF (zF (zF (zF (aV (ro rfl (aM.nat (rK rfl (Ht rfl) (Ht rfl) z7 z7) hor) ?_))))))))
    refine ra rfl (eZ (cU (fJ (m:=17) (dp 14 rfl (cZ (Ht rfl)) (dp 10 rfl (cZ (Ht rfl)) (dp 8 rfl (cZ (Ht rfl)) (dq 92 2 rfl (dG (Ht rfl) (cV 1) zo z6) (cP 91 1 93 3 rfl (dJ U_47 Z_189 (Ht rfl) (Ht rfl) rfl (eQ (aO zo))) (dq 94 4 rfl (dV A_189 Z_189 (Ht rfl)) (dq 95 5 rfl (gJ U_189 U_254 (Ht rfl) z7) ?_))))))))))
    refine cP 90 0 96 6 rfl (kL (Ht rfl) (Ht rfl) zo (by show _ < 18446744073709551616; exact ht64)) (dp 14 rfl (cZ (Ht rfl)) (dp 10 rfl (cZ (Ht rfl)) (dp 8 rfl (cZ (Ht rfl)) (dq 100 10 rfl (dG (Ht rfl) (cV 1) zo z6) (cP 99 9 101 11 rfl (dJ U_47 Z_189 (Ht rfl) (Ht rfl) rfl (eQ (aO zo))) (dq 102 12 rfl (dV A_189 Z_189 (Ht rfl)) (dq 103 13 rfl (gJ U_189 U_254 (Ht rfl) z7) ?_)))))))
    refine cP 98 8 104 14 rfl (pJ (Ht rfl) (Ht rfl) zo) (dq 97 7 rfl (cX (Ht rfl)) (fW aL rfl (by kernel_rfl) (zF (zF (zF (zF (aJ (aV (ra rfl (eZ (cU (jS (fun (g:Nat)=>Ql (val (us.drop j)) (val vs) g) (fun (g:Nat)=>[(8,NT .i64 vs.length),(9,NT .i64 s),(10,yP vs),(11,Is (.slice (some ⟨B55,0,none⟩) ((dg m).length + 1) ((dg m).length + 1))),(12,Is (.slice (some ⟨B65,0,none⟩) ((dg m).length + 1 - (dg n).length) ((dg m).length + 1 - (dg n).length))),(13,NT .i64 j),(15,NT .u64 g)]) (fun (g:Nat)=>[box B55 189 (us.map cO),box B65 189 (qs.map cO)]) ?_ (fun g hg=>?_)))))))))))))
    ·refine eK ?_
     refine gA (fun (g : Nat) (r : Nat) => nL (val (us.drop j)) (val vs) (vs.getD (vs.length - 1) 0) top g r ∧ r < 4294967296) (fun (g : Nat) (r : Nat) => g) (fun (g : Nat) (r : Nat) => [(8, NT .i64 vs.length), (9, NT .i64 s), (10, yP vs), (11, Is (.slice (some ⟨B55, 0, none⟩) ((dg m).length + 1) ((dg m).length + 1))), (12, Is (.slice (some ⟨B65, 0, none⟩) ((dg m).length + 1 - (dg n).length) ((dg m).length + 1 - (dg n).length))), (13, NT .i64 j), (15, NT .u64 g), (16, NT .u64 r)]) (fun (g : Nat) (r : Nat) => [box B55 189 (us.map cO), box B65 189 (qs.map cO)]) (top / vs.getD (vs.length - 1) 0) (top % vs.getD (vs.length - 1) 0) ⟨nL.start hnr htp, Nat.lt_trans (Nat.mod_lt _ zo) hv1⟩
      (zS rfl) (dE.refl _) (fun g r ⟨hG,hr⟩=>?_)
     have hgl:=(hG.glt hnr htp).1
     have hrs:=Pt (a:=r) hr
     have horr:=zA (a:=r) hu2b
     simp only [BB] at hgl
     refine cU (cU (fJ (m:=22) (dp 15 rfl (cZ (Ht rfl)) (dq 106 0 rfl (sE (Ht rfl) (cV 4294967296)) (dq 107 1 rfl (cZ (Ht rfl)) (C.D_step (Ei:=[(15,_),(108,_)]) rfl rfl (bV (bK rfl rfl) (bV (bG 2 rfl rfl) bW)) (eU rfl rfl (Ht rfl) (fun h=>cZ (Ht rfl))) (C.D_step (Ei:=[(10,_),(108,_)]) rfl rfl (bV (bK rfl rfl) (bV (bG 2 rfl rfl) bW)) (eU rfl rfl (Ht rfl) (fun h=>cZ (Ht rfl))) (C.D_step (Ei:=[(8,_),(108,_)]) rfl rfl (bV (bK rfl rfl) (bV (bG 2 rfl rfl) bW)) (eU rfl rfl (Ht rfl) (fun h=>cZ (Ht rfl))) ?_))))))))
     refine C.D_step (Ei:=[(111,_),(108,_)]) rfl rfl (bV (bG 5 rfl rfl) (bV (bG 2 rfl rfl) bW)) (eU rfl rfl (Ht rfl) (fun h=>dG (fV rfl h) (cV 2) (by first | omega | (simp at h; omega)) (by show _ < 9223372036854775808; first | omega | (simp at h; omega)))) (C.D_step (Ei:=[(110,_),(112,_),(108,_)]) rfl rfl (bV (bG 4 rfl rfl) (bV (bG 6 rfl rfl) (bV (bG 2 rfl rfl) bW))) (eU rfl rfl (Ht rfl) (fun h=>dJ U_47 Z_189 (fV rfl h) (fV rfl h) rfl (eQ (aO (by first | omega | (simp at h; omega)))))) ?_)
     refine C.D_step (Ei:=[(113,_),(108,_)]) rfl rfl (bV (bG 7 rfl rfl) (bV (bG 2 rfl rfl) bW)) (eU rfl rfl (Ht rfl) (fun h=>dV A_189 Z_189 (fV rfl h))) (C.D_step (Ei:=[(114,_),(108,_)]) rfl rfl (bV (bG 8 rfl rfl) (bV (bG 2 rfl rfl) bW)) (eU rfl rfl (Ht rfl) (fun h=>gJ U_189 U_254 (fV rfl h) (by show _ < 18446744073709551616; first | omega | (simp at h; omega)))) (C.D_step (Ei:=[(109,_),(115,_),(108,_)]) rfl rfl (bV (bG 3 rfl rfl) (bV (bG 9 rfl rfl) (bV (bG 2 rfl rfl) bW))) (eU rfl rfl (Ht rfl) (fun h=>mN (fV rfl h) (fV rfl h) (by show _ < 18446744073709551616; simp at h; exact a54 h hv2))) ?_))
     refine C.D_step (Ei:=[(16,_),(108,_)]) rfl rfl (bV (bK rfl rfl) (bV (bG 2 rfl rfl) bW)) (eU rfl rfl (Ht rfl) (fun h=>cZ (Ht rfl))) (C.D_step (Ei:=[(117,_),(108,_)]) rfl rfl (bV (bG 11 rfl rfl) (bV (bG 2 rfl rfl) bW)) (eU rfl rfl (Ht rfl) (fun h=>pK (fV rfl h) (cV 32) (by decide) hrs)) (C.D_step (Ei:=[(11,_),(108,_)]) rfl rfl (bV (bK rfl rfl) (bV (bG 2 rfl rfl) bW)) (eU rfl rfl (Ht rfl) (fun h=>cZ (Ht rfl))) (C.D_step (Ei:=[(13,_),(108,_)]) rfl rfl (bV (bK rfl rfl) (bV (bG 2 rfl rfl) bW)) (eU rfl rfl (Ht rfl) (fun h=>cZ (Ht rfl))) ?_)))
     refine C.D_step (Ei:=[(8,_),(108,_)]) rfl rfl (bV (bK rfl rfl) (bV (bG 2 rfl rfl) bW)) (eU rfl rfl (Ht rfl) (fun h=>cZ (Ht rfl))) (C.D_step (Ei:=[(120,_),(121,_),(108,_)]) rfl rfl (bV (bG 14 rfl rfl) (bV (bG 15 rfl rfl) (bV (bG 2 rfl rfl) bW))) (eU rfl rfl (Ht rfl) (fun h=>dW (fV rfl h) (fV rfl h) (by show _ < 9223372036854775808; first | omega | (simp at h; omega)))) (C.D_step (Ei:=[(122,_),(108,_)]) rfl rfl (bV (bG 16 rfl rfl) (bV (bG 2 rfl rfl) bW)) (eU rfl rfl (Ht rfl) (fun h=>dG (fV rfl h) (cV 2) (by first | omega | (simp at h; omega)) (by show _ < 9223372036854775808; first | omega | (simp at h; omega)))) ?_))
     refine C.D_step (Ei:=[(119,_),(123,_),(108,_)]) rfl rfl (bV (bG 13 rfl rfl) (bV (bG 17 rfl rfl) (bV (bG 2 rfl rfl) bW))) (eU rfl rfl (Ht rfl) (fun h=>gQ U_47 Z_189 (fV rfl h) (fV rfl h) rfl (by first | omega | (simp at h; omega)) (by rw [Nat.mul_one,Nat.zero_add]))) ?_
     refine C.D_step (Ei:=[(124,_),(108,_)]) rfl rfl (bV (bG 18 rfl rfl) (bV (bG 2 rfl rfl) bW)) (eU rfl rfl (Ht rfl) (fun h=>fQ A_189 Z_189 (fV rfl h) (i:=0) rfl (eQ (aO zo)))) (C.D_step (Ei:=[(125,_),(108,_)]) rfl rfl (bV (bG 19 rfl rfl) (bV (bG 2 rfl rfl) bW)) (eU rfl rfl (Ht rfl) (fun h=>gJ U_189 U_254 (fV rfl h) (by show _ < 18446744073709551616; first | omega | (simp at h; omega)))) (C.D_step (Ei:=[(118,_),(126,_),(108,_)]) rfl rfl (bV (bG 12 rfl rfl) (bV (bG 20 rfl rfl) (bV (bG 2 rfl rfl) bW))) (eU rfl rfl (Ht rfl) (fun h=>aM.nat (rK rfl (fV rfl h) (fV rfl h) (by show _ < 18446744073709551616; first | omega | (simp at h; omega)) (by show _ < 18446744073709551616; first | omega | (simp at h; omega))) horr)) ?_))
     refine fW aL rfl (by kernel_rfl) (zF (zF (zF (zF (zF (aJ (aJ (aV (fX rfl rfl (eU rfl rfl (Ht rfl) (fun h=>eH (fV rfl h) (fV rfl h))) (ro rfl (gN (Ht rfl) (fun h=>(fV rfl h))) (eZ (dX (Ht rfl) (fun hc=>?_) (fun hc=>?_)))))))))))))
     ·have hn2 := hG.next hnr htp (by simpa [BB] using hc)
      have hg1:=hn2.2
      refine cY (eK (ts (rm rfl (ro rfl (dG (Ht rfl) (cV 1) zo z7) (ra rfl (eZ (ts (rm rfl (rm rfl (rm rfl (ro rfl (dG (Ht rfl) (cV 1) zo z6) (ro rfl (dJ U_47 Z_189 (Ht rfl) (Ht rfl) rfl (eQ (aO zo))) (ro rfl (dV A_189 Z_189 (Ht rfl)) (ro rfl (gJ U_189 U_254 (Ht rfl) z7) ?_))))))))))))))
      refine ro rfl (dW (Ht rfl) (Ht rfl) z7) (ra rfl (eZ (ts (rm rfl (ro rfl (sE (Ht rfl) (cV 4294967296)) (eZ (dX (Ht rfl) (fun hr2=>?_) (fun hr2=>?_))))))))
      ·simp at hr2
       refine gW rfl (bD (g - 1) (hn2.1.stop hnr htp hr2) (zS rfl) (dE.refl _))
      ·simp at hr2
       refine cY (bC (fY (g - 1,_) ⟨hn2.1,hr2⟩ (by dsimp only; omega) (zS rfl) (dE.refl _)))
     ·simp at hc
      refine gW rfl (bD g (hG.done hnr htp hc.1 hc.2) (zS rfl) (dE.refl _))
    ·have hglt := hg.lt
     simp only [BB] at hglt
     refine cU (rR (fun (us2:List Nat) (g2:Nat)=>pX (m * 2 ^ s) vs us2 (qs.set j g2) j ∧ g2 < 4294967296 ∧ us2.length = (dg m).length + 1) (fun (us2:List Nat) (g2:Nat)=>[(8,NT .i64 vs.length),(9,NT .i64 s),(10,yP vs),(11,Is (.slice (some ⟨B55,0,none⟩) ((dg m).length + 1) ((dg m).length + 1))),(12,Is (.slice (some ⟨B65,0,none⟩) ((dg m).length + 1 - (dg n).length) ((dg m).length + 1 - (dg n).length))),(13,NT .i64 j),(15,NT .u64 g2)]) (fun (us2:List Nat) (g2:Nat)=>[box B55 189 (us2.map cO),box B65 189 (qs.map cO)]) ?_ (fun us2 g2 ⟨hD,hg2,hus2⟩=>?_))
     ·refine ts (rm rfl (rm rfl (rm rfl (rm rfl (Jv Tryz.call260 (a5S hus hS.dig hv hg.lt zo zo) (i := 0) rfl ⟨(Ht rfl), (Ht rfl), (Ht rfl), (Ht rfl), trivial⟩ rfl (fun ⟨out, b⟩ hT => ?_))))))
      dsimp only at hT
      refine eZ (dX (Ht rfl) (fun hbb=>?_) (fun hbb=>?_))
      ·have hbb : b = true := hbb
       subst hbb
       have hg0:=hS.gpos hv rfl zo hT
       have hol:=hT.len
       refine ts (rm rfl (ro rfl (dG (Ht rfl) (cV 1) zo z7) (ra rfl (eZ (ts (ro rfl (cX (cV 0)) (eZ (cU (ts (rm rfl (ro rfl (dK U_47 (Ht rfl) aA) (ro rfl (cZ (cV 0)) (eZ (eK ?_))))))))))))))
       refine jF (fun (i : Nat) (out2 : List Nat) (c : Nat) => uJ out vs j out2 i c) (fun (i : Nat) (out2 : List Nat) (c : Nat) => vs.length - i) (fun (i : Nat) (out2 : List Nat) (c : Nat) => [(8, NT .i64 vs.length), (9, NT .i64 s), (10, yP vs), (11, Is (.slice (some ⟨B55, 0, none⟩) ((dg m).length + 1) ((dg m).length + 1))), (12, Is (.slice (some ⟨B65, 0, none⟩) ((dg m).length + 1 - (dg n).length) ((dg m).length + 1 - (dg n).length))), (13, NT .i64 j), (15, NT .u64 (g - 1 : Nat)), (17, NT .u64 c), (149, yP vs), (150, NT .i64 vs.length), (151, NT .i64 i)]) (fun (i : Nat) (out2 : List Nat) (c : Nat) => [box B55 189 (out2.map cO), box B65 189 (qs.map cO)]) 0 out 0 (uJ.start hT.dig vs j)
        (zS rfl) (dE.refl _) (fun i out2 c hB=>?_)
       refine ts (ro rfl (gZ (Ht rfl) (Ht rfl)) (eZ (cU (dX (Ht rfl) (fun hi=>?_) (fun hi=>?_)))))
       ·simp at hi
        have hlen:=hB.len; have hcl:=hB.cle; have hvi:=bH hv i; have hok:=bH hB.dig (i + j)
        simp only [BB] at hvi hok
        refine cY (cU (eK (ts (rm rfl (ro rfl (dJ U_47 Z_189 (Ht rfl) (Ht rfl) rfl (eQ (aO zo))) (ro rfl (dV A_189 Z_189 (Ht rfl)) (ra rfl (ra rfl (eZ (ts (rm rfl (rm rfl (rm rfl (rm rfl (ro rfl (dW (Ht rfl) (Ht rfl) z6) (ro rfl (gQ U_47 Z_189 (Ht rfl) (Ht rfl) rfl zo (by rw [Nat.mul_one,Nat.zero_add])) ?_))))))))))))))))
        refine ro rfl (fQ A_189 Z_189 (Ht rfl) (i:=0) rfl (eQ (aO zo))) (ro rfl (gJ U_189 U_254 (Ht rfl) z7) (rm rfl (ro rfl (gJ U_189 U_254 (Ht rfl) z7) (ro rfl (dW (Ht rfl) (Ht rfl) z7) (ro rfl (dW (Ht rfl) (Ht rfl) z7) ?_)))))
        refine ra rfl (eZ (ts (rm rfl (rm rfl (rm rfl (ro rfl (dW (Ht rfl) (Ht rfl) z6) (rm rfl (ro rfl (gD rfl U_254 U_189 (Ht rfl)) (ro rfl (gQ U_47 Z_189 (Ht rfl) (Ht rfl) rfl zo (by rw [Nat.mul_one,Nat.zero_add])) ?_)))))))))
        refine lY Z_189 (Ht rfl) (Ht rfl) (i:=0) rfl (by first | omega | (simp; omega)) rfl (eZ (dQ (rm rfl (ro rfl (fF (Ht rfl) (cV 32) (by decide)) (ra rfl (eZ (bC (dQ (ro rfl (dW (Ht rfl) (cV 1) z6) (rm rfl (eZ (fY (i + 1,_,_) (hB.next hv hi zo rfl) (by dsimp only; omega) (zS rfl) (aU (aB (fS _ _ _)) (aU (fun _ _ _ h=>h) aY))))))))))))))
       ·simp at hi
        have hil:i = vs.length:=Nat.le_antisymm hB.ile hi
        subst hil
        have hlen:=hB.len; have hcl:=hB.cle; have hok:=bH hB.dig (j + vs.length)
        have hBk:=hB.fin zo rfl
        obtain ⟨_,hDn⟩:=hS.wrong hv hV0 (Nat.succ_pos j) rfl hg hT hBk
        simp only [BB] at hok
        refine gW rfl (dQ (rm rfl (rm rfl (rm rfl (ro rfl (dW (Ht rfl) (Ht rfl) z6) (ro rfl (gQ U_47 Z_189 (Ht rfl) (Ht rfl) rfl zo (by rw [Nat.mul_one,Nat.zero_add])) ?_))))))
        refine ro rfl (fQ A_189 Z_189 (Ht rfl) (i:=0) rfl (eQ (aO zo))) (rm rfl (ro rfl (gJ U_254 U_189 (Ht rfl) (by show _ < 4294967296; first | omega | (simp only [mT]; omega))) (ro rfl (Vv rfl (Ht rfl) (Ht rfl)) (ro rfl (gQ U_47 Z_189 (Ht rfl) (Ht rfl) rfl zo (by rw [Nat.mul_one,Nat.zero_add])) ?_))))
        refine lY Z_189 (Ht rfl) (Ht rfl) (i:=0) rfl (by first | omega | (simp; omega)) rfl (eZ (bD (_,g - 1) ⟨hDn,by dsimp only; omega,by simp; omega⟩ (zS rfl) (aU (aB (fS _ _ _)) (aU (fun _ _ _ h=>h) aY))))
      ·have hbb : b = false := hbb
       subst hbb
       have hol:=hT.len
       refine cY (bD (out,g) ⟨hS.right hv hV0 (Nat.succ_pos j) rfl hg hT,hglt,by dsimp only; omega⟩ (zS rfl) (dE.refl _))
     ·refine dQ (rm rfl (rm rfl (rm rfl (ro rfl (gJ U_254 U_189 (Ht rfl) (by show _ < 4294967296; first | omega | (simp only [mT]; omega))) (ro rfl (gQ U_47 Z_189 (Ht rfl) (Ht rfl) rfl zo (by rw [Nat.mul_one, Nat.zero_add])) ?_)))))
      refine lY Z_189 (Ht rfl) (Ht rfl) (i:=1) rfl (by first | omega | (simp; omega)) rfl (eZ (bC (dQ (rm rfl (ro rfl (iY (Ht rfl) cW (Ej zo)) (ra rfl (eZ (fY (j,us2,_) ⟨hD,hus2⟩ (by dsimp only; omega) (zS rfl) (aU (fun _ _ _ h=>h) (aU (aB (fS _ _ _)) aY))))))))))
   ·simp at hk
    have hk0:k = 0:=by omega
    subst hk0
    have hfin:=hS.fin hV0
    have hlq:=hS.lenq
    rw [hvv] at hfin
    have hdiv:val qs = m / n:=by rw [hfin.1]; exact Nat.mul_div_mul_right _ _ hp2
    have hsm:val us < BB ^ vs.length:=by have h1:=hS.small; rw [List.drop_zero] at h1; exact Nat.lt_trans h1 (kA hv)
    have hmod : val (us.take vs.length) / 2 ^ s = m % n := by
     rw [qL hsm zo,hfin.2,Nat.mul_mod_mul_right,Nat.mul_div_cancel _ hp2]
    have hru : (dg (val (us.take vs.length))).length ≤ 17592186044416 := by
     refine Nat.le_trans (lE (k:=vs.length) ?_) zo
     rw [qL hsm zo]; exact hsm
    refine gW rfl (gV (i:=1) (tt:=12) rfl rfl (mS rfl zo (Nat.le_refl _)) (gV (i:=0) (tt:=11) rfl rfl (mS rfl zo (Nat.le_refl _)) (cU (fJ (m:=7) (dp 12 rfl (cZ (Ht rfl)) (dq 193 0 rfl (cJ K_221 (tO _ hS.digq zo) ⟨(Ht rfl),trivial⟩) (dp 11 rfl (cZ (Ht rfl)) (dp 8 rfl (cZ (Ht rfl)) (cP 195 2 196 3 rfl (aM.imp (qR U_47 Z_189 (Ht rfl) (Ht rfl) (fun m e=>by cases e) zo (by simp; omega) rfl) (Uo _ _)) ?_)))))))))
    refine dq 197 4 rfl (cJ K_221 (tO _ (hS.dig.take' vs.length) (by simp; omega)) ⟨(Ht rfl),trivial⟩) ?_
    refine dp 9 rfl (cZ (Ht rfl)) (fW aL rfl (by kernel_rfl) (zF (aJ (aJ (aJ (aV (ro rfl (cJ Tryz.call261 (a7s hru zo) ⟨(Ht rfl),(Ht rfl),trivial⟩) (ra rfl (ra rfl (eZ (bM rfl (fZ (eY rfl) ?_) (fZ (eY rfl) ?_))))))))))))
    ·exact (dO hdiv)
    ·exact (dO hmod)
end
section
open Go Go.RowKit
theorem a16:Tryz.prog.info? 5 = some Tryz.t5:=by kernel_rfl
theorem Eg:Tryz.prog.underlying 293 = some (.slice 5):=by kernel_rfl
theorem a5b:Tryz.prog.underlying 5 = some (.int .u8):=by kernel_rfl
theorem a5c:Tryz.prog.underlying 9 = some (.string):=by kernel_rfl
end
section
open Go Go.RowKit
theorem a4R {m n:Nat} (hm:(dg m).length ≤ 17592186044415) (hn:(dg n).length ≤ 17592186044415):bE Tryz.prog 218 [aH m,aH n] (aH (Nat.gcd m n)):=by
 refine bE.intro Tryz.func218 rfl Tryz.ntmps218 rfl (fun cx=>(ts (ro rfl (cX cW) (eZ (cU (eK ?_))))))
 refine gA (fun (x : Nat) (y : Nat) => Nat.gcd x y = Nat.gcd m n ∧ (dg x).length ≤ 17592186044415 ∧ (dg y).length ≤ 17592186044415) (fun (x : Nat) (y : Nat) => y) (fun (x : Nat) (y : Nat) => [(0, aH x), (1, aH y)]) (fun (x : Nat) (y : Nat) => []) m n ⟨rfl, hm, hn⟩
  (zS rfl) aY (fun x y ⟨hg,hx,hy⟩=>?_)
 refine cU (ts (rm rfl (ro rfl (dK U_47 (Ht rfl) aA) (ro rfl (eH (Ht rfl) (cV 0)) (eZ (dX (Ht rfl) (fun hb=>?_) (fun hb=>?_)))))))
 ·simp at hb
  have hy0:y ≠ 0:=fun e=>by rw [e,eT] at hb; simp at hb
  have hlt:=Nat.mod_lt x (Nat.pos_of_ne_zero hy0)
  refine cY (eK (ts (rm rfl (rm rfl (ro rfl (cJ Tryz.call220 (Tw hx zo hy0) ⟨(Ht rfl),(Ht rfl),trivial⟩) (rm rfl (ro rfl (dU (Ht rfl) rfl) (ro rfl (dU (Ht rfl) rfl) (ra rfl (ra rfl (eZ (dQ (rm rfl (rm rfl (ra rfl (ra rfl (eZ (bC (fY (y,x % y) ⟨by rw [← hg,Nat.gcd_comm x y,Nat.gcd_rec y x,Nat.gcd_comm],hy,Nat.le_trans (iM (Nat.le_of_lt hlt)) hy⟩ hlt (zS rfl) aY)))))))))))))))))))
 ·simp at hb
  have hy0:y = 0:=aR.1 (by simpa using hb)
  subst hy0
  rw [Nat.gcd_zero_right] at hg
  refine gW rfl (ts (rm rfl (ra rfl (eZ (fG rfl (fZ (eY rfl) ?_))))))
  exact (dO hg)
theorem a7r {l:List Nat} {v:Value} (hl:l.length ≤ 1152921504606846976):gG Tryz.prog 276 [Is v] [cL 5 1 v (l.map Cj)] Unit (fun _=>rP) (fun _=>[cL 5 1 v (l.reverse.map Cj)]) (fun _=>True):=by
 refine gG.intro Tryz.func276 rfl Tryz.ntmps276 rfl (fun cx Z=>(ts (rm rfl (ro rfl (sF U_293 (Ht rfl) (i:=1) rfl aA) (ro rfl (iY (Ht rfl) cW (Ej zo)) (ro rfl (cX (cV 0)) (ra rfl (eZ (eK ?_)))))))))
 refine gA (fun (k : Nat) (o : List Nat) => Et l o k) (fun (k : Nat) (o : List Nat) => l.length - k) (fun (k : Nat) (o : List Nat) => [(0, Is v), (2, NT .i64 k), (3, aT .i64 ((l.length : Int) - 1 - (k : Int)))]) (fun (k : Nat) (o : List Nat) => [Z, cL 5 1 v (o.map Cj)]) 0 l (Et.start l)
  (aQ rfl (aQ rfl (aZ rfl (aS zo) aX))) (dE.refl _) (fun k o hS=>?_)
 refine cU (ts (rm rfl (rm rfl (ro rfl (tX (Ht rfl) (Ht rfl)) (eZ (dX (Ht rfl) (fun hb=>?_) (fun hb=>?_)))))))
 ·simp only [decide_eq_true_eq] at hb
  have hk:2 * k + 1 < l.length:=by omega
  obtain ⟨j,hj⟩:∃ j,j = l.length - 1 - k:=⟨_,rfl⟩
  have hlen:=hS.len
  refine qC (E':=[(0,_),(2,_),(3,_),(7,_),(8,_),(9,_)]) (aQ rfl (aQ rfl (aZ rfl (aS (show (l.length:Int) - 1 - (k:Int) = (j:Int) by omega)) (zS rfl)))) (cY (cU (eK (W.D_start (m:=14) (fun b=>cond b ([Z,cL 5 1 v ((o.map Cj).set k (Cj (o.getD j 0)))]) _) 13 (W.D_step (Ei:=[(0,_)]) rfl rfl (W.Srcs.cons (W.Src.pre rfl rfl) W.Srcs.nil) rfl (by kernel_rfl) (dZ rfl (cZ (Ht rfl))) (W.D_step (Ei:=[(2,_)]) rfl rfl (W.Srcs.cons (W.Src.pre rfl rfl) W.Srcs.nil) rfl (by kernel_rfl) (dZ rfl (cZ (Ht rfl))) ?_))))))
  refine W.D_pure (Ei:=[(0,_)]) rfl rfl (W.Srcs.cons (W.Src.pre rfl rfl) W.Srcs.nil) rfl (fun _=>dZ rfl (cZ (Ht rfl))) (W.D_pure (Ei:=[(3,_)]) rfl rfl (W.Srcs.cons (W.Src.pre rfl rfl) W.Srcs.nil) rfl (fun _=>dZ rfl (cZ (Ht rfl))) (W.D_step (Ei:=[(0,_)]) rfl rfl (W.Srcs.cons (W.Src.pre rfl rfl) W.Srcs.nil) rfl (by kernel_rfl) (dZ rfl (cZ (Ht rfl))) (W.D_step (Ei:=[(3,_)]) rfl rfl (W.Srcs.cons (W.Src.pre rfl rfl) W.Srcs.nil) rfl (by kernel_rfl) (dZ rfl (cZ (Ht rfl))) (W.D_step (Ei:=[(18,_),(19,_)]) rfl rfl (W.Srcs.cons (W.Src.op 4 rfl rfl) (W.Srcs.cons (W.Src.op 5 rfl rfl) W.Srcs.nil)) rfl (by kernel_rfl) (dZ rfl (cR U_293 Z_5 (Ht rfl) (Ht rfl) rfl (i:=1) rfl (by first | omega | (simp; omega)) rfl)) ?_))))
  refine W.D_step (Ei:=[(20,_)]) rfl rfl (W.Srcs.cons (W.Src.op 6 rfl rfl) W.Srcs.nil) rfl (by kernel_rfl) (dZ rfl (oX Tryz.isAgg5 Z_5 (Ht rfl) (i:=1) rfl rfl (eQ (aO zo)))) (W.D_step (Ei:=[(0,_)]) rfl rfl (W.Srcs.cons (W.Src.pre rfl rfl) W.Srcs.nil) rfl (by kernel_rfl) (dZ rfl (cZ (Ht rfl))) (W.D_step (Ei:=[(2,_)]) rfl rfl (W.Srcs.cons (W.Src.pre rfl rfl) W.Srcs.nil) rfl (by kernel_rfl) (dZ rfl (cZ (Ht rfl))) (W.D_step (Ei:=[(22,_),(23,_)]) rfl rfl (W.Srcs.cons (W.Src.op 8 rfl rfl) (W.Srcs.cons (W.Src.op 9 rfl rfl) W.Srcs.nil)) rfl (by kernel_rfl) (dZ rfl (cR U_293 Z_5 (Ht rfl) (Ht rfl) rfl (i:=1) rfl (by first | omega | (simp; omega)) rfl)) ?_)))
  refine W.D_step (Ei:=[(24,_)]) rfl rfl (W.Srcs.cons (W.Src.op 10 rfl rfl) W.Srcs.nil) rfl (by kernel_rfl) (dZ rfl (oX Tryz.isAgg5 Z_5 (Ht rfl) (i:=1) rfl rfl (eQ (aO zo)))) (W.D_step (Ei:=[(14,_),(15,_)]) rfl rfl (W.Srcs.cons (W.Src.op 0 rfl rfl) (W.Srcs.cons (W.Src.op 1 rfl rfl) W.Srcs.nil)) rfl (by kernel_rfl) (dZ rfl (cR U_293 Z_5 (Ht rfl) (Ht rfl) rfl (i:=1) rfl (by first | omega | (simp; omega)) rfl)) (W.D_put (Ei:=[(26,_),(21,_)]) rfl rfl (W.Srcs.cons (W.Src.op 12 rfl rfl) (W.Srcs.cons (W.Src.op 7 rfl rfl) W.Srcs.nil)) rfl (Er Z_5 (Ht rfl) (Ht rfl) El.one (i:=1) rfl rfl (by first | omega | (simp; omega))) ?_))
  refine W.D_done aL rfl (by kernel_rfl) rfl (W.F_val (W.F_val (W.F_val (W.F_val (W.F_val (W.F_val (W.F_val (W.F_val (W.F_val (W.F_val (W.F_val (W.F_val (W.F_val (W.F_put (W.F_nil (ro rfl (cR U_293 Z_5 (Ht rfl) (Ht rfl) rfl (i:=1) rfl (by first | omega | (simp; omega)) rfl) (kV Z_5 (Ht rfl) (Ht rfl) El.one (i:=1) rfl rfl (by first | omega | (simp; omega)) rfl (eZ (bC (dQ (rm rfl (ro rfl (dW (Ht rfl) (cV 1) z6) (rm rfl (ro rfl (iY (Ht rfl) cW (Ej zo)) ?_))))))))))))))))))))))))
  refine ra rfl (ra rfl (eZ (fY (k + 1,_) (hS.next hk hj) (by dsimp only; omega) (aQ rfl (aQ rfl (aZ rfl (aS zo) aX))) (aU (fun _ _ _ h=>h) (aU (bO (Wu _ _ _ _ _)) aY)))))
 ·simp only [decide_eq_false_iff_not] at hb
  have hfin:=hS.fin (by have:=hS.kle; omega)
  refine gW rfl ?_
  exact a5l () trivial [0,1] ⟨⟨_,rfl,fun _ _ _ h=>h⟩,⟨_,rfl,(bO (by rw [hfin]))⟩,trivial⟩ (by decide) (a87 rfl (fun _=>trivial))
theorem Mr {m:Nat} (hm:(dg m).length ≤ 8796093022208):bE Tryz.prog 249 [aH m] (sQ (yJ m)):=by
 refine bE.intro Tryz.func249 rfl Tryz.ntmps249 rfl (fun cx=>(ts (ro rfl (cX (bT.cS (l:=[]) rfl)) (eZ (cU (ts (rm rfl (ro rfl (dK U_47 (Ht rfl) aA) (ro rfl (cT (Ht rfl) (cV 0)) (eZ (dX (Ht rfl) (fun hb=>?_) (fun hb=>?_))))))))))))
 ·simp at hb
  have h0:m = 0:=aR.1 (by simpa using hb)
  subst h0
  refine ts (ro rfl (cX (bT.cS (l:=[48]) rfl)) (eZ (fG rfl (fZ (eY rfl) ?_))))
  exact (kP rfl)
 ·simp at hb
  have h0:m ≠ 0:=fun e=>hb (by rw [e,eT])
  refine cY (ts (ro rfl (cX cW) (eZ (cU (eK (zO 5 1 ?_))))))
  refine jF (fun (x : Nat) (out : List Nat) (v : Value) => Eo m out x ∧ x ≤ m) (fun (x : Nat) (out : List Nat) (v : Value) => x) (fun (x : Nat) (out : List Nat) (v : Value) => [(0, aH x), (3, Is v)]) (fun (x : Nat) (out : List Nat) (v : Value) => [cL 5 1 v (out.map Cj)]) m [] (.slice none 0 0) ⟨Eo.start m, Nat.le_refl m⟩
   (zS rfl) (dE.refl _) (fun x out v ⟨hO,hle⟩=>?_)
  refine cU (ts (rm rfl (ro rfl (dK U_47 (Ht rfl) aA) (ro rfl (eH (Ht rfl) (cV 0)) (eZ (dX (Ht rfl) (fun hc=>?_) (fun hc=>?_)))))))
  ·simp at hc
   have hx0:x ≠ 0:=fun e=>by rw [e,eT] at hc; simp at hc
   have hxm:=iM hle
   refine cY (eK (ts (ro rfl (cX (cV 0)) (eZ (ts (rm rfl (ro rfl (cJ Tryz.call257 (Uf zo (by decide) (by decide)) ⟨(Ht rfl),(cV 1000000000),trivial⟩) (rm rfl (ro rfl (dU (Ht rfl) rfl) (ro rfl (dU (Ht rfl) rfl) (ra rfl (ra rfl (eZ (ts (ro rfl (cX (cV 0)) (eZ (eK ?_)))))))))))))))))
   refine zN (fun (r : Nat) (k : Nat) (out : List Nat) (v : Value) => Cz m out (x / 1000000000) r k) (fun (r : Nat) (k : Nat) (out : List Nat) (v : Value) => 9 - k) (fun (r : Nat) (k : Nat) (out : List Nat) (v : Value) => [(0, aH (x / 1000000000)), (3, Is v), (4, cO r), (5, NT .i64 k)]) (fun (r : Nat) (k : Nat) (out : List Nat) (v : Value) => [cL 5 1 v (out.map Cj)]) (x % 1000000000) 0 out v (hO.inner)
    (zS rfl) (dE.refl _) (fun r k out v hI=>?_)
   refine cU (ts (rm rfl (ro rfl (gZ (Ht rfl) (cV 9)) (rm rfl (fX rfl rfl (mJ rfl rfl (Ht rfl) (fun h=>cZ (Ht rfl))) (fX rfl rfl (mJ rfl rfl (Ht rfl) (fun h=>dK U_47 (bT.wu rfl h) aA)) (fX rfl rfl (mJ rfl rfl (Ht rfl) (fun h=>eH (bT.wu rfl h) (cV 0))) (fX rfl rfl (mJ rfl rfl (Ht rfl) (fun h=>cZ (bT.wu rfl h))) (fX rfl rfl (rQ rfl rfl rfl (fun h h2=>cZ (Ht rfl))) (fX rfl rfl (rQ rfl rfl rfl (fun h h2=>eH (bT.wu rfl ⟨h,h2⟩) (cV 0))) (fX rfl rfl (mJ rfl rfl (Ht rfl) (fun h=>gN (bT.wu rfl h) (fun h2=>(bT.wu rfl ⟨h,h2⟩)))) ?_)))))))))))
   refine ro rfl (fC (Ht rfl) (fun h=>(bT.wu rfl h))) (eZ (dX (Ht rfl) (fun hd=>?_) (fun hd=>?_)))
   ·simp at hd
    have hxr:0 < x / 1000000000 ∨ 0 < r:=hd.2.imp (fun h=>Nat.pos_of_ne_zero (fun e=>by rw [e,eT] at h; simp at h)) id
    have hln:=hI.len hxr
    have hr32:=hI.r32
    refine cY (cU (eK (ts (rm rfl (rm rfl (ro rfl (pJ (Ht rfl) (cV 10) zo) (ro rfl (dW (cV 48) (Ht rfl) (by show _ < 4294967296; first | omega | (simp only [mT]; omega))) (ro rfl (gJ U_189 U_5 (Ht rfl) (by show _ < 256; first | omega | (simp only [mT]; omega))) (ro rfl (dB (xs:=[.tmp 34]) U_293 Z_5 Tryz.zeroValue5 (cG (Ht rfl) cK) rfl rfl rfl) (qX (inf:=Tryz.t5) Eg a16 rfl rfl rfl (Ht rfl) (Ht rfl) (i:=0) rfl (by simp) (fun T hT=>by simp at hT; subst hT; exact El.one) (by show _ * 1 ≤ _; simp only [List.length_map,List.length_cons,List.length_nil]; omega) (by simp only [List.length_map,List.length_cons,List.length_nil]; omega) rfl (fun v2=>?_)))))))))))
    refine ra rfl (eZ (dQ (rm rfl (ro rfl (kL (Ht rfl) (cV 10) zo (by show _ < 4294967296; first | omega | (simp only [mT]; omega))) (ra rfl (eZ (bC (dQ (rm rfl (ro rfl (dW (Ht rfl) (cV 1) z6) (ra rfl (eZ (fY (r / 10,k + 1,_,v2) (hI.next hd.1 hxr) (by dsimp only; omega) (zS rfl) (aU (bO (a2n _ _)) aY))))))))))))))
   ·simp at hd
    have hO2 := hI.fin (fun ⟨h1, h2⟩ => by
     have h3:=hd h1
     rcases h2 with h2 | h2
     ·have:=sT.1 h3.1; omega
     ·omega)
    refine gW rfl (bC (fY (x / 1000000000,_,_) ⟨hO2,Nat.le_trans (Nat.div_le_self _ _) hle⟩ (Nat.div_lt_self (Nat.pos_of_ne_zero hx0) (by decide)) (zS rfl) (dE.refl _)))
  ·simp at hc
   have hx0:x = 0:=aR.1 (by simpa using hc)
   subst hx0
   have hfin:=hO.fin
   have hdl:=rV m
   rw [hfin] at hdl
   refine gW rfl (ts (rm rfl (Jv Tryz.call276 (a7r zo) (i:=0) rfl ⟨(Ht rfl),trivial⟩ rfl (fun _ _=>(eZ (cU (gV (i:=0) (tt:=3) rfl rfl jG (dQ (rm rfl (ro rfl (Oy Eg a5b a5c (Ht rfl) (by rw [← hfin]; simpa using Um h0) (fun b hb=>a0J (n:=m) b (by rw [xE h0,hfin]; exact hb))) ?_))))))))))
   refine ra rfl (eZ (fG rfl (fZ (eY rfl) ?_)))
   exact (kP (by rw [xE h0,hfin]))
end
section
open Go Go.RowKit
theorem yS {n : Nat} {E : dI} {H : Hp} {d : Option Tmp} {t : TypeId} {pos : String} {af : Array Edge} {g : Option (Nat × Bool)} {x0 x1 : Operand} {T0 T1 : Ty} [s0 : eI T0 1 false] (h0 : bT E x0 T0) [s1 : eI T1 1 false] (h1 : bT E x1 T1) :
  aM Tryz.prog n E H ⟨d,.build 49 #[(0,x0),(1,x1)],t,pos,af,g⟩ (fE [T0,T1]) :=
 gL (parts := [(0, x0), (1, x1)]) fun a V w hs => by
  have p0:=h0 n V a hs
  generalize e0:a.eval x0 = v0 at p0
  have q0:=(s0.ok v0 V p0).2.2 rfl
  have p1:=h1 n V a hs
  generalize e1:a.eval x1 = v1 at p1
  have q1:=(s1.ok v1 V p1).2.2 rfl
  refine ⟨.agg #[v0,v1],?_,[v0,v1],rfl,aW (⟨p0,q0⟩) (aW (⟨p1,q1⟩) (aG))⟩
  simp [e0,e1,Instr.build,Instr.fill,Sem.run_bind,Result.andThen,fD,q0.cells,q1.cells,O_49,U_49,Z_4,Z_47]
theorem mL (a:Addr) (w:World):(Instr.fieldAt 49 (.pointer (some a)) 0).run Tryz.prog w = .ok (.pointer (some (a.add 0))) w:=by
 simp [Instr.fieldAt,Instr.sureAddr,fieldPlace,Sem.run_bind,Result.andThen,U_49,Z_4]
theorem gB (a:Addr) (w:World):(Instr.fieldAt 49 (.pointer (some a)) 1).run Tryz.prog w = .ok (.pointer (some (a.add 1))) w:=by
 simp [Instr.fieldAt,Instr.sureAddr,fieldPlace,Sem.run_bind,Result.andThen,U_49,Z_47]
end
section
open Go Go.RowKit
theorem Kk {n:Int} (h1:-9223372036854775808 ≤ n) (h2:n ≤ 9223372036854775807):bE Tryz.prog 177 [aT .i64 n] (eP n):=by
 refine bE.intro Tryz.func177 rfl Tryz.ntmps177 rfl (fun cx=>(ts (rn rfl (eG (Ts:=[Is (.bool false),Is (.slice none 0 0)]) O_49 rfl (fun V=>aW zd (aW zd (aG)))) fun B2=>(eZ (cU (ts (rm rfl (ro rfl (tX (Ht rfl) cW) (eZ (dX (Ht rfl) (fun hb=>?_) (fun hb=>?_)))))))))))
 ·have hn : n < 0 := by simpa using hb
  refine ts (rm rfl (ro rfl (xQ U_2 U_254 (Ht rfl) (r:=((18446744073709551616 - n.natAbs:Nat):Int)) (by rw [IntKind.wrap_u64]; omega)) ?_))
  refine ro rfl (a1C (Ht rfl) (r:=((n.natAbs:Nat):Int)) (by rw [IntKind.wrap_u64]; omega)) ?_
  refine ro rfl (cJ Tryz.call241 (Kj zo) ⟨(Ht rfl),trivial⟩) (ro rfl (yS cW (Ht rfl)) (gX Z_49 (Ht rfl) (Ht rfl) rfl (i:=0) rfl (aK rfl) rfl rfl (eZ (fG rfl (fZ (fU A_49 Z_49 rfl (i:=0) rfl rfl) ?_)))))
  exact (oP (by rw [hb]; rfl))
 ·have hn : ¬ n < 0 := by simpa using hb
  refine cY (ts (rm rfl (ro rfl (xQ U_2 U_254 (Ht rfl) (r:=((n.natAbs:Nat):Int)) (by rw [IntKind.wrap_u64]; omega)) ?_)))
  refine ro rfl (cJ Tryz.call241 (Kj zo) ⟨(Ht rfl),trivial⟩) (ro rfl (yS cW (Ht rfl)) (gX Z_49 (Ht rfl) (Ht rfl) rfl (i:=0) rfl (aK rfl) rfl rfl (eZ (fG rfl (fZ (fU A_49 Z_49 rfl (i:=0) rfl rfl) ?_)))))
  exact (oP (by rw [hb]; rfl))
theorem qO {b:Bool} {m:Nat}:bE Tryz.prog 214 [aD b,aH m] (eP (Cu b m)):=by
 refine bE.intro Tryz.func214 rfl Tryz.ntmps214 rfl (fun cx=>(ts (rn rfl (eG (Ts:=[Is (.bool false),Is (.slice none 0 0)]) O_49 rfl (fun V=>aW zd (aW zd (aG)))) fun B4=>(eZ (ts (rm rfl (rm rfl (fX rfl rfl (eU rfl rfl (Ht rfl) (fun h=>cZ (Ht rfl))) (fX rfl rfl (eU rfl rfl (Ht rfl) (fun h=>dK U_47 (fV rfl h) aA)) (fX rfl rfl (eU rfl rfl (Ht rfl) (fun h=>eH (fV rfl h) (cV 0))) (ro rfl (fC (Ht rfl) (fun h=>(fV rfl h))) (rm rfl ?_))))))))))))
 refine ro rfl (yS (Ht rfl) (Ht rfl)) (gX Z_49 (Ht rfl) (Ht rfl) rfl (i:=0) rfl (aK rfl) rfl rfl (eZ (fG rfl (fZ (fU A_49 Z_49 rfl (i:=0) rfl rfl) ?_))))
 exact a24
theorem rT {x:Int}:bE Tryz.prog 135 [eP x] (eP (-x)):=by
 refine bE.intro Tryz.func135 rfl Tryz.ntmps135 rfl (fun cx=>(ts (rn rfl (fK (Ht rfl)) fun B1=>(rn rfl (eG (Ts:=[Is (.bool false),Is (.slice none 0 0)]) O_49 rfl (fun V=>aW zd (aW zd (aG)))) fun B2=>(eZ (ts (ro rfl (eJ mL (Ht rfl) rfl) (ro rfl (fQ A_4 Z_4 (Ht rfl) (i:=0) rfl rfl) (ro rfl (dR (Ht rfl)) (ro rfl (eJ gB (Ht rfl) rfl) (ro rfl (fQ A_47 Z_47 (Ht rfl) (i:=0) rfl rfl) (ro rfl (cJ K_214 qO ⟨(Ht rfl),(Ht rfl),trivial⟩) ?_))))))))))))
 refine gX Z_49 (Ht rfl) (Ht rfl) rfl (i:=1) rfl (aK rfl) rfl rfl (eZ (fG rfl (fZ (fU A_49 Z_49 rfl (i:=1) rfl rfl) ?_)))
 exact (mH (Jm x))
theorem Bk {x y:Int} (hx:(dg x.natAbs).length ≤ 17592186044416) (hy:(dg y.natAbs).length ≤ 17592186044416):bE Tryz.prog 133 [eP x,eP y] (eP (x + y)):=by
 refine bE.intro Tryz.func133 rfl Tryz.ntmps133 rfl (fun cx=>(ts (rn rfl (fK (Ht rfl)) fun B2=>(rn rfl (fK (Ht rfl)) fun B3=>(rn rfl (eG (Ts:=[Is (.bool false),Is (.slice none 0 0)]) O_49 rfl (fun V=>aW zd (aW zd (aG)))) fun B4=>(eZ (cU (ts (ro rfl (eJ mL (Ht rfl) rfl) (ro rfl (fQ A_4 Z_4 (Ht rfl) (i:=0) rfl rfl) (ro rfl (eJ mL (Ht rfl) rfl) (ro rfl (fQ A_4 Z_4 (Ht rfl) (i:=1) rfl rfl) (ro rfl (a1x U_4 (Ht rfl) (Ht rfl)) ?_)))))))))))))
 refine eZ (dX (Ht rfl) (fun hb=>?_) (fun hb=>?_))
 ·have he : decide (x < 0) = decide (y < 0) := by simpa using hb
  refine cU (fJ (m:=7) (dp 2 rfl (eJ mL (Ht rfl) rfl) (dq 10 0 rfl (fQ A_4 Z_4 (Ht rfl) (i:=0) rfl rfl) (dp 2 rfl (eJ gB (Ht rfl) rfl) (dq 12 2 rfl (fQ A_47 Z_47 (Ht rfl) (i:=0) rfl rfl) (dp 3 rfl (eJ gB (Ht rfl) rfl) (dq 14 4 rfl (fQ A_47 Z_47 (Ht rfl) (i:=1) rfl rfl) (cP 13 3 15 5 rfl (cJ Tryz.call215 (a7n zo zo) ⟨(Ht rfl),(Ht rfl),trivial⟩) (fW aL rfl (by kernel_rfl) (zF (aJ (aJ (aJ (aV ?_))))))))))))))
  refine ro rfl (cJ K_214 qO ⟨(Ht rfl),(Ht rfl),trivial⟩) (gX Z_49 (Ht rfl) (Ht rfl) rfl (i:=2) rfl (aK rfl) rfl rfl (eZ (fG rfl (fZ (fU A_49 Z_49 rfl (i:=2) rfl rfl) ?_))))
  exact (mH (Ps he))
 ·have he : decide (x < 0) ≠ decide (y < 0) := by simpa using hb
  refine cY (cU (ts (ro rfl (eJ gB (Ht rfl) rfl) (ro rfl (fQ A_47 Z_47 (Ht rfl) (i:=0) rfl rfl) (ro rfl (eJ gB (Ht rfl) rfl) (ro rfl (fQ A_47 Z_47 (Ht rfl) (i:=1) rfl rfl) (ro rfl (cJ Tryz.call216 (a0l zo zo) ⟨(Ht rfl),(Ht rfl),trivial⟩) (ro rfl (mV (Ht rfl) cW) (eZ (dX (Ht rfl) (fun hc=>?_) (fun hc=>?_)))))))))))
  ·have hle : y.natAbs ≤ x.natAbs := Kq (by simpa using hc)
   refine cU (fJ (m:=7) (dp 2 rfl (eJ mL (Ht rfl) rfl) (dq 24 0 rfl (fQ A_4 Z_4 (Ht rfl) (i:=0) rfl rfl) (dp 2 rfl (eJ gB (Ht rfl) rfl) (dq 26 2 rfl (fQ A_47 Z_47 (Ht rfl) (i:=0) rfl rfl) (dp 3 rfl (eJ gB (Ht rfl) rfl) (dq 28 4 rfl (fQ A_47 Z_47 (Ht rfl) (i:=1) rfl rfl) (cP 27 3 29 5 rfl (cJ Tryz.call217 (a4V zo zo) ⟨(Ht rfl),(Ht rfl),trivial⟩) (fW aL rfl (by kernel_rfl) (zF (aJ (aJ (aJ (aV ?_))))))))))))))
   refine ro rfl (cJ K_214 qO ⟨(Ht rfl),(Ht rfl),trivial⟩) (gX Z_49 (Ht rfl) (Ht rfl) rfl (i:=2) rfl (aK rfl) rfl rfl (eZ (fG rfl (fZ (fU A_49 Z_49 rfl (i:=2) rfl rfl) ?_))))
   exact (mH (Au he hle))
  ·have hle : x.natAbs ≤ y.natAbs := Nat.le_of_lt (Kr (by simpa using hc))
   refine cY (cU (fJ (m:=7) (dp 3 rfl (eJ mL (Ht rfl) rfl) (dq 32 0 rfl (fQ A_4 Z_4 (Ht rfl) (i:=1) rfl rfl) (dp 3 rfl (eJ gB (Ht rfl) rfl) (dq 34 2 rfl (fQ A_47 Z_47 (Ht rfl) (i:=1) rfl rfl) (dp 2 rfl (eJ gB (Ht rfl) rfl) (dq 36 4 rfl (fQ A_47 Z_47 (Ht rfl) (i:=0) rfl rfl) (cP 35 3 37 5 rfl (cJ Tryz.call217 (a4V zo zo) ⟨(Ht rfl),(Ht rfl),trivial⟩) (fW aL rfl (by kernel_rfl) (zF (aJ (aJ (aJ (aV ?_)))))))))))))))
   refine ro rfl (cJ K_214 qO ⟨(Ht rfl),(Ht rfl),trivial⟩) (gX Z_49 (Ht rfl) (Ht rfl) rfl (i:=2) rfl (aK rfl) rfl rfl (eZ (fG rfl (fZ (fU A_49 Z_49 rfl (i:=2) rfl rfl) ?_))))
   exact (mH (by rw [Au (Ne.symm he) hle,Int.add_comm]))
theorem xB {x y:Int} (hx:(dg x.natAbs).length ≤ 17592186044416) (hy:(dg y.natAbs).length ≤ 17592186044416):bE Tryz.prog 132 [eP x,eP y] (eP (x * y)):=by
 refine bE.intro Tryz.func132 rfl Tryz.ntmps132 rfl (fun cx=>(ts (rn rfl (fK (Ht rfl)) fun B2=>(rn rfl (fK (Ht rfl)) fun B3=>(rn rfl (eG (Ts:=[Is (.bool false),Is (.slice none 0 0)]) O_49 rfl (fun V=>aW zd (aW zd (aG)))) fun B4=>(eZ (cU (fJ (m:=10) (dp 2 rfl (eJ mL (Ht rfl) rfl) (dq 5 0 rfl (fQ A_4 Z_4 (Ht rfl) (i:=0) rfl rfl) (dp 3 rfl (eJ mL (Ht rfl) rfl) (dq 7 2 rfl (fQ A_4 Z_4 (Ht rfl) (i:=1) rfl rfl) (cP 6 1 8 3 rfl (a1y U_4 (Ht rfl) (Ht rfl)) ?_)))))))))))))
 refine dp 2 rfl (eJ gB (Ht rfl) rfl) (dq 10 5 rfl (fQ A_47 Z_47 (Ht rfl) (i:=0) rfl rfl) (dp 3 rfl (eJ gB (Ht rfl) rfl) (dq 12 7 rfl (fQ A_47 Z_47 (Ht rfl) (i:=1) rfl rfl) (cP 11 6 13 8 rfl (cJ Tryz.call138 (Mt zo zo) ⟨(Ht rfl),(Ht rfl),trivial⟩) (fW aL rfl (by kernel_rfl) (zF (zF (aJ (aJ (aV (ro rfl (cJ K_214 qO ⟨(Ht rfl),(Ht rfl),trivial⟩) (gX Z_49 (Ht rfl) (Ht rfl) rfl (i:=2) rfl (aK rfl) rfl rfl ?_))))))))))))
 refine eZ (fG rfl (fZ (fU A_49 Z_49 rfl (i:=2) rfl rfl) ?_))
 exact (mH (Jo x y))
theorem mZ {x:Int} {n:Nat} (hx:(dg x.natAbs).length ≤ 17592186044416) (hn:(dg n).length ≤ 17592186044416):bE Tryz.prog 136 [eP x,aH n] (eP (x * n)):=by
 refine bE.intro Tryz.func136 rfl Tryz.ntmps136 rfl (fun cx=>(ts (rn rfl (fK (Ht rfl)) fun B2=>(rn rfl (eG (Ts:=[Is (.bool false),Is (.slice none 0 0)]) O_49 rfl (fun V=>aW zd (aW zd (aG)))) fun B4=>(eZ (cU (fJ (m:=6) (dp 2 rfl (eJ mL (Ht rfl) rfl) (dq 5 0 rfl (fQ A_4 Z_4 (Ht rfl) (i:=0) rfl rfl) (dp 2 rfl (eJ gB (Ht rfl) rfl) (dq 7 2 rfl (fQ A_47 Z_47 (Ht rfl) (i:=0) rfl rfl) (dp 1 rfl (cZ (Ht rfl)) (cP 8 3 9 4 rfl (cJ Tryz.call138 (Mt zo zo) ⟨(Ht rfl),(Ht rfl),trivial⟩) ?_)))))))))))))
 refine fW aL rfl (by kernel_rfl) (zF (aJ (aJ (aV (ro rfl (cJ K_214 qO ⟨(Ht rfl),(Ht rfl),trivial⟩) (gX Z_49 (Ht rfl) (Ht rfl) rfl (i:=1) rfl (aK rfl) rfl rfl (eZ (fG rfl (fZ (fU A_49 Z_49 rfl (i:=1) rfl rfl) ?_)))))))))
 exact (mH (So x n))
theorem Kp {x y:Int} (hx:(dg x.natAbs).length ≤ 17592186044415) (hy:(dg y.natAbs).length ≤ 17592186044415):bE Tryz.prog 176 [eP x,eP y] (aT .i64 (oT x y)):=by
 have hny:=tQ y
 have hs:=lR (x:=x) (y:=-y) hx zo
 refine bE.intro Tryz.func176 rfl Tryz.ntmps176 rfl (fun cx=>(ts (rn rfl (fK (Ht rfl)) fun B2=>(rn rfl (fK (Ht rfl)) fun B3=>(ro rfl (cX (cV 0)) (eZ (cU (fJ (m:=5) (dp 2 rfl (eW A_49 Z_49 (Ht rfl) (i:=0) rfl rfl rfl) (dp 3 rfl (eW A_49 Z_49 (Ht rfl) (i:=1) rfl rfl rfl) (dq 7 1 rfl (cJ K_135 rT ⟨(Ht rfl),trivial⟩) (cP 6 0 8 2 rfl (cJ K_133 (Bk zo zo) ⟨(Ht rfl),(Ht rfl),trivial⟩) (C.D_new (Ei:=[]) rfl rfl rfl bW (eG (Ts:=[Is (.bool false),Is (.slice none 0 0)]) O_49 rfl (fun V=>aW zd (aW zd (aG)))) ?_)))))))))))))
 refine fW aL rfl (by kernel_rfl) (zF (C.F_new (fun B5=>aV (gX Z_49 (Ht rfl) (Ht rfl) rfl (i:=2) rfl (aK rfl) rfl rfl (eZ (cU (ts (ro rfl (eJ mL (Ht rfl) rfl) (ro rfl (fQ A_4 Z_4 (Ht rfl) (i:=2) rfl rfl) (eZ (dX (Ht rfl) (fun hb=>?_) (fun hb=>?_))))))))))))
 ·have hn : x + -y < 0 := by simpa using hb
  refine ts (ro rfl (cX cW) (eZ (fG rfl (fZ (eY rfl) ?_))))
  exact (aS (a31 hn))
 ·have hn : ¬ x + -y < 0 := by simpa using hb
  refine cY (ts (ro rfl (eJ gB (Ht rfl) rfl) (ro rfl (fQ A_47 Z_47 (Ht rfl) (i:=2) rfl rfl) (ro rfl (dK U_47 (Ht rfl) aA) (ro rfl (Lp (Ht rfl) (cV 1)) (ra rfl (eZ (fG rfl (fZ (eY rfl) ?_)))))))))
  exact (aS (a30 hn))
end
section
open Go Go.RowKit
theorem a0f {n : Nat} {E : dI} {H : Hp} {d : Option Tmp} {t : TypeId} {pos : String} {af : Array Edge} {g : Option (Nat × Bool)} {x0 : Operand} {T0 T1 : Ty} (h0 : bT E x0 (fE [T0, T1])) :
  aM Tryz.prog n E H ⟨d,.build 51 #[(0,x0)],t,pos,af,g⟩ (fE [T0,T1,Is (.bool false),Is (.slice none 0 0),Is (.slice none 0 0)]) :=
 gL (parts := [(0, x0)]) fun a V w hs => by
  obtain ⟨v0,e0,c0⟩:=h0 n V a hs
  obtain ⟨c0_0,c0_1,rfl⟩:∃ c0_0 c0_1,v0 = [c0_0,c0_1]:=Cn (by simpa using c0.length)
  refine ⟨.agg #[c0_0,c0_1,(.bool false),(.slice none 0 0),(.slice none 0 0)],?_,[c0_0,c0_1,(.bool false),(.slice none 0 0),(.slice none 0 0)],rfl,aW (c0.at (i:=0) rfl rfl) (aW (c0.at (i:=1) rfl rfl) (aW (⟨rfl,trivial⟩) (aW (⟨rfl,trivial⟩) (aW (⟨rfl,trivial⟩) (aG)))))⟩
  simp [e0,Instr.build,Instr.fill,Sem.run_bind,Result.andThen,fD,O_51,U_51,Z_47,Z_49]
theorem tM {n : Nat} {E : dI} {H : Hp} {d : Option Tmp} {t : TypeId} {pos : String} {af : Array Edge} {g : Option (Nat × Bool)} {x0 x1 x2 : Operand} {T0 T1 T2 T3 T4 : Ty} (h0 : bT E x0 (fE [T0, T1])) (h1 : bT E x1 (fE [T2, T3])) [s2 : eI T4 1 false] (h2 : bT E x2 T4) :
  aM Tryz.prog n E H ⟨d,.build 51 #[(0,x0),(1,x1),(2,x2)],t,pos,af,g⟩ (fE [T0,T1,T2,T3,T4]) :=
 gL (parts := [(0, x0), (1, x1), (2, x2)]) fun a V w hs => by
  obtain ⟨v0,e0,c0⟩:=h0 n V a hs
  obtain ⟨c0_0,c0_1,rfl⟩:∃ c0_0 c0_1,v0 = [c0_0,c0_1]:=Cn (by simpa using c0.length)
  obtain ⟨v1,e1,c1⟩:=h1 n V a hs
  obtain ⟨c1_0,c1_1,rfl⟩:∃ c1_0 c1_1,v1 = [c1_0,c1_1]:=Cn (by simpa using c1.length)
  have p2:=h2 n V a hs
  generalize e2:a.eval x2 = v2 at p2
  have q2:=(s2.ok v2 V p2).2.2 rfl
  refine ⟨.agg #[c0_0,c0_1,c1_0,c1_1,v2],?_,[c0_0,c0_1,c1_0,c1_1,v2],rfl,aW (c0.at (i:=0) rfl rfl) (aW (c0.at (i:=1) rfl rfl) (aW (c1.at (i:=0) rfl rfl) (aW (c1.at (i:=1) rfl rfl) (aW (⟨p2,q2⟩) (aG)))))⟩
  simp [e0,e1,e2,Instr.build,Instr.fill,Sem.run_bind,Result.andThen,fD,q2.cells,O_51,U_51,Z_47,Z_49]
theorem iB (a:Addr) (w:World):(Instr.fieldAt 51 (.pointer (some a)) 0).run Tryz.prog w = .ok (.pointer (some (a.add 0))) w:=by
 simp [Instr.fieldAt,Instr.sureAddr,fieldPlace,Sem.run_bind,Result.andThen,U_51,Z_49]
theorem iV (a:Addr) (w:World):(Instr.fieldAt 51 (.pointer (some a)) 1).run Tryz.prog w = .ok (.pointer (some (a.add 2))) w:=by
 simp [Instr.fieldAt,Instr.sureAddr,fieldPlace,Sem.run_bind,Result.andThen,U_51,Z_49]
theorem rX (a:Addr) (w:World):(Instr.fieldAt 51 (.pointer (some a)) 2).run Tryz.prog w = .ok (.pointer (some (a.add 4))) w:=by
 simp [Instr.fieldAt,Instr.sureAddr,fieldPlace,Sem.run_bind,Result.andThen,U_51,Z_47]
end
section
open Go Go.RowKit
theorem Bj {A B:Int} {D:Nat} (hD:0 < D) (hA:(dg A.natAbs).length ≤ 17592186044415) (hB:(dg B.natAbs).length ≤ 17592186044415) (hD2:(dg D).length ≤ 17592186044415):bE Tryz.prog 134 [eP A,eP B,aH D] (aI (Qi.mk' A B D)):=by
 have hg1:=Fn hA hB
 have hg2:=Fn hg1 hD2
 have hgp:Nat.gcd (Nat.gcd A.natAbs B.natAbs) D ≠ 0:=fun e=>by have:=Nat.gcd_eq_zero_iff.1 e; omega
 refine bE.intro Tryz.func134 rfl Tryz.ntmps134 rfl (fun cx=>(ts (rn rfl (fK (Ht rfl)) fun B3=>(rn rfl (fK (Ht rfl)) fun B4=>(rn rfl (eG (Ts:=[Is (.bool false),Is (.slice none 0 0),Is (.bool false),Is (.slice none 0 0),Is (.slice none 0 0)]) O_51 rfl (fun V=>aW zd (aW zd (aW zd (aW zd (aW zd (aG))))))) fun B6=>(eZ (ts (ro rfl (eJ gB (Ht rfl) rfl) (ro rfl (fQ A_47 Z_47 (Ht rfl) (i:=0) rfl rfl) ?_)))))))))
 refine ro rfl (eJ gB (Ht rfl) rfl) (ro rfl (fQ A_47 Z_47 (Ht rfl) (i:=1) rfl rfl) (ro rfl (cJ Tryz.call218 (a4R zo zo) ⟨(Ht rfl),(Ht rfl),trivial⟩) (rm rfl (ro rfl (cJ Tryz.call218 (a4R zo zo) ⟨(Ht rfl),(Ht rfl),trivial⟩) (ra rfl (eZ (cU (jS (fun (uu:Unit)=>True) (fun (uu:Unit)=>[(2,aH (D / (Nat.gcd (Nat.gcd A.natAbs B.natAbs) D))),(3,cC B3 0),(4,cC B4 0),(6,cC B6 0)]) (fun (uu:Unit)=>[box B3 49 [aD (decide (A < 0)),aH (A.natAbs / (Nat.gcd (Nat.gcd A.natAbs B.natAbs) D))],box B4 49 [aD (decide (B < 0)),aH (B.natAbs / (Nat.gcd (Nat.gcd A.natAbs B.natAbs) D))],box B6 51 [Is (.bool false),Is (.slice none 0 0),Is (.bool false),Is (.slice none 0 0),Is (.slice none 0 0)]]) ?_ (fun uu _=>?_)))))))))
 ·refine ts (rm rfl (ro rfl (cJ Tryz.call219 a4S ⟨(Ht rfl), trivial⟩) (ro rfl (dR (Ht rfl)) (eZ (dX (Ht rfl) (fun hb => ?_) (fun hb => ?_))))))
  ·simp at hb
   refine ts (ro rfl (eJ gB (Ht rfl) rfl) (ro rfl (fQ A_47 Z_47 (Ht rfl) (i:=0) rfl rfl) (rm rfl (ro rfl (cJ Tryz.call220 (Tw zo zo zo) ⟨(Ht rfl),(Ht rfl),trivial⟩) (rm rfl (ro rfl (dU (Ht rfl) rfl) (ro rfl (dU (Ht rfl) rfl) (ro rfl (eJ gB (Ht rfl) rfl) (lY Z_47 (Ht rfl) (Ht rfl) (i:=0) rfl (aK rfl) rfl (eZ (ts (ro rfl (eJ gB (Ht rfl) rfl) (ro rfl (fQ A_47 Z_47 (Ht rfl) (i:=1) rfl rfl) (rm rfl (ro rfl (cJ Tryz.call220 (Tw zo zo zo) ⟨(Ht rfl),(Ht rfl),trivial⟩) ?_)))))))))))))))
   refine rm rfl (ro rfl (dU (Ht rfl) rfl) (ro rfl (dU (Ht rfl) rfl) (ro rfl (eJ gB (Ht rfl) rfl) (lY Z_47 (Ht rfl) (Ht rfl) (i:=1) rfl (aK rfl) rfl (eZ (dQ (rm rfl (rm rfl (ro rfl (cJ Tryz.call220 (Tw zo zo zo) ⟨(Ht rfl),(Ht rfl),trivial⟩) (rm rfl (ro rfl (dU (Ht rfl) rfl) (ro rfl (dU (Ht rfl) rfl) (ra rfl (eZ (bD () trivial (zS rfl) (aU (aB (by first | rfl | simp)) (aU (aB (by first | rfl | simp)) (aU (aB rfl) aY))))))))))))))))))
  ·simp at hb
   refine cY (bD () trivial (aZ rfl (dO (by rw [hb,Nat.div_one])) (zS rfl)) (aU (aB (by rw [hb,Nat.div_one])) (aU (aB (by rw [hb,Nat.div_one])) (aU (aB rfl) aY))))
 ·refine cU (jS (fun (uu : Unit) => True) (fun (uu : Unit) => [(2, aH (if D / (Nat.gcd (Nat.gcd A.natAbs B.natAbs) D) = 1 then 0 else D / (Nat.gcd (Nat.gcd A.natAbs B.natAbs) D))), (3, cC B3 0), (4, cC B4 0), (6, cC B6 0)]) (fun (uu : Unit) => [box B3 49 [aD (decide (A < 0)), aH (A.natAbs / (Nat.gcd (Nat.gcd A.natAbs B.natAbs) D))], box B4 49 [aD (decide (B < 0)), aH (B.natAbs / (Nat.gcd (Nat.gcd A.natAbs B.natAbs) D))], box B6 51 [Is (.bool false), Is (.slice none 0 0), Is (.bool false), Is (.slice none 0 0), Is (.slice none 0 0)]]) ?_ (fun uu _ => ?_))
  ·refine ts (rm rfl (ro rfl (cJ Tryz.call219 a4S ⟨(Ht rfl), trivial⟩) (eZ (dX (Ht rfl) (fun hb => ?_) (fun hb => ?_)))))
   ·simp only [decide_eq_true_eq] at hb
    refine dQ (ro rfl (cX cW) (eZ (bD () trivial (aZ rfl (fun v V h=>dO (by rw [if_pos hb]) v V (lN v V h)) (zS rfl)) (dE.refl _))))
   ·simp only [decide_eq_false_iff_not] at hb
    refine cY (bD () trivial (aZ rfl (dO (by rw [if_neg hb])) (zS rfl)) (dE.refl _))
  ·refine ts (ro rfl (eW A_49 Z_49 (Ht rfl) (i := 0) rfl rfl rfl) (ro rfl (eW A_49 Z_49 (Ht rfl) (i := 1) rfl rfl rfl) (rm rfl (ro rfl (tM (Ht rfl) (Ht rfl) (Ht rfl)) (gX Z_51 (Ht rfl) (Ht rfl) rfl (i := 2) rfl (aK rfl) rfl rfl (eZ (fG rfl (fZ (fU A_51 Z_51 rfl (i := 2) rfl rfl) ?_))))))))
   exact (a44 hD)
theorem rS {x:Qi}:bE Tryz.prog 137 [aI x] (aH x.den):=by
 refine bE.intro Tryz.func137 rfl Tryz.ntmps137 rfl (fun cx=>(ts (rn rfl (fK (Ht rfl)) fun B1=>(ro rfl (cX cW) (eZ (cU (ts (ro rfl (eJ rX (Ht rfl) rfl) (ro rfl (fQ A_47 Z_47 (Ht rfl) (i:=0) rfl rfl) (ro rfl (dK U_47 (Ht rfl) aA) (ro rfl (cT (Ht rfl) (cV 0)) (eZ (dX (Ht rfl) (fun hb=>?_) (fun hb=>?_))))))))))))))
 ·simp at hb
  have h1:x.den = 1:=Dk (aR.1 (by simpa using hb))
  refine ts (ro rfl (dB (xs:=[_]) U_47 Z_189 O_189 (cG (cV 1) cK) rfl rfl rfl) (ra rfl (eZ (fG rfl (fZ (eY rfl) ?_)))))
  exact (fun v V h=>dO h1.symm v V (Gi v V h))
 ·simp at hb
  have h1:du x = x.den:=zY (fun e=>hb (by simp [e,eT]))
  refine cY (ts (ro rfl (eJ rX (Ht rfl) rfl) (ro rfl (fQ A_47 Z_47 (Ht rfl) (i:=0) rfl rfl) (ra rfl (eZ (fG rfl (fZ (eY rfl) ?_)))))))
  exact (dO h1)
theorem qD {n:Int} (h1:-9223372036854775808 ≤ n) (h2:n ≤ 9223372036854775807):bE Tryz.prog 77 [aT .i64 n] (aI (Qi.ofInt n)):=by
 refine bE.intro Tryz.func77 rfl Tryz.ntmps77 rfl (fun cx=>(ts (rn rfl (eG (Ts:=[Is (.bool false),Is (.slice none 0 0),Is (.bool false),Is (.slice none 0 0),Is (.slice none 0 0)]) O_51 rfl (fun V=>aW zd (aW zd (aW zd (aW zd (aW zd (aG))))))) fun B2=>(eZ (ts (rm rfl (ro rfl (cJ Tryz.call177 (Kk h1 h2) ⟨(Ht rfl),trivial⟩) (ro rfl (a0f (Ht rfl)) (gX Z_51 (Ht rfl) (Ht rfl) rfl (i:=0) rfl (aK rfl) rfl rfl ?_)))))))))
 refine eZ (fG rfl (fZ (fU A_51 Z_51 rfl (i:=0) rfl rfl) ?_))
 exact Vs
theorem a4N {p q d:Int} (p1:-9223372036854775808 ≤ p) (p2:p ≤ 9223372036854775807) (q1:-9223372036854775808 ≤ q) (q2:q ≤ 9223372036854775807) (d1:-9223372036854775808 ≤ d) (d2:d ≤ 9223372036854775807) (hd:d ≠ 0):bE Tryz.prog 141 [aT .i64 p,aT .i64 q,aT .i64 d] (eS [aI (Qi.frac p q d),aT .i64 0]):=by
 have lp:=Xs p1 p2; have lq:=Xs q1 q2; have ld:=Xs d1 d2; have np:=tQ p; have nq:=tQ q
 refine bE.intro Tryz.func141 rfl Tryz.ntmps141 rfl (fun cx=>(ts (rn rfl (eG (Ts:=[Is (.bool false),Is (.slice none 0 0),Is (.bool false),Is (.slice none 0 0),Is (.slice none 0 0)]) O_51 rfl (fun V=>aW zd (aW zd (aW zd (aW zd (aW zd (aG))))))) fun B6=>(ro rfl (cX (cV 0)) (eZ (cU (ts (rm rfl (ro rfl (kN (Ht rfl) cW) (eZ (iA (Ht rfl) (by simp [hd]) ?_)))))))))))
 refine cY (ts (rm rfl (ro rfl (cJ Tryz.call177 (Kk p1 p2) ⟨(Ht rfl),trivial⟩) (rm rfl (ro rfl (cJ Tryz.call177 (Kk q1 q2) ⟨(Ht rfl),trivial⟩) (rm rfl (ro rfl (cJ Tryz.call177 (Kk d1 d2) ⟨(Ht rfl),trivial⟩) (rn rfl (eG (Ts:=[Is (.bool false),Is (.slice none 0 0)]) O_49 rfl (fun V=>aW zd (aW zd (aG)))) fun B8=>(rn rfl (eG (Ts:=[Is (.bool false),Is (.slice none 0 0)]) O_49 rfl (fun V=>aW zd (aW zd (aG)))) fun B9=>?_)))))))))
 refine rn rfl (eG (Ts:=[Is (.bool false),Is (.slice none 0 0)]) O_49 rfl (fun V=>aW zd (aW zd (aG)))) fun B10=>gX Z_49 (Ht rfl) (Ht rfl) rfl (i:=1) rfl (aK rfl) rfl rfl (gX Z_49 (Ht rfl) (Ht rfl) rfl (i:=2) rfl (aK rfl) rfl rfl (gX Z_49 (Ht rfl) (Ht rfl) rfl (i:=3) rfl (aK rfl) rfl rfl (eZ (cU (rR (fun (a:Int) (b:Int)=>Qi.mk' a b d.natAbs = Qi.frac p q d ∧ (dg a.natAbs).length ≤ 2 ∧ (dg b.natAbs).length ≤ 2) (fun (a:Int) (b:Int)=>[(6,cC B6 0),(8,cC B8 0),(9,cC B9 0),(10,cC B10 0)]) (fun (a:Int) (b:Int)=>[box B6 51 [Is (.bool false),Is (.slice none 0 0),Is (.bool false),Is (.slice none 0 0),Is (.slice none 0 0)],box B8 49 [aD (decide (a < 0)),aH (a).natAbs],box B9 49 [aD (decide (b < 0)),aH (b).natAbs],box B10 49 [aD (decide (d < 0)),aH (d).natAbs]]) ?_ (fun a b ⟨hab,ha,hb⟩=>?_))))))
 ·refine ts (ro rfl (eJ mL (Ht rfl) rfl) (ro rfl (fQ A_4 Z_4 (Ht rfl) (i := 3) rfl rfl) (eZ (dX (Ht rfl) (fun hn => ?_) (fun hn => ?_)))))
  ·simp only [decide_eq_true_eq] at hn
   refine fJ (m:=3) (dp 8 rfl (eW A_49 Z_49 (Ht rfl) (i:=1) rfl rfl rfl) (dq 22 0 rfl (cJ K_135 rT ⟨(Ht rfl),trivial⟩) (dp 9 rfl (eW A_49 Z_49 (Ht rfl) (i:=2) rfl rfl rfl) (fW aL rfl (by kernel_rfl) (aJ (aJ (aJ (aV (ro rfl (cJ K_135 rT ⟨(Ht rfl),trivial⟩) (gX Z_49 (Ht rfl) (Ht rfl) rfl (i:=1) rfl (aK rfl) rfl rfl (gX Z_49 (Ht rfl) (Ht rfl) rfl (i:=2) rfl (aK rfl) rfl rfl (eZ (bD (-p,-q) ⟨Qi.frac_neg hn,by dsimp only; omega,by dsimp only; omega⟩ (zS rfl) (aU (aB rfl) (aU (aB rfl) (aU (aB rfl) (aU (aB rfl) aY)))))))))))))))))
  ·simp only [decide_eq_false_iff_not] at hn
   refine cY (bD (p,q) ⟨Qi.frac_pos hn hd,by omega,by omega⟩ (zS rfl) (dE.refl _))
 ·refine ts (ro rfl (eW A_49 Z_49 (Ht rfl) (i := 1) rfl rfl rfl) (ro rfl (eW A_49 Z_49 (Ht rfl) (i := 2) rfl rfl rfl) (ro rfl (eJ gB (Ht rfl) rfl) (ro rfl (fQ A_47 Z_47 (Ht rfl) (i := 3) rfl rfl) (ro rfl (cJ K_134 (Bj zo zo zo zo) ⟨(Ht rfl), (Ht rfl), (Ht rfl), trivial⟩) (gX Z_51 (Ht rfl) (Ht rfl) rfl (i := 0) rfl (aK rfl) rfl rfl (ro rfl (cX (cV 0)) (eZ (bM rfl (fZ (fU A_51 Z_51 rfl (i := 0) rfl rfl) ?_) (eY rfl))))))))))
  exact (nO hab)
theorem Ck {x y:Qi} {L M:Nat} [hx:aE x L] [hy:aE y M] (h:L + M + 1 ≤ 17592186044415):bE Tryz.prog 46 [aI x,aI y] (aI (x + y)):=by
 have hxa:=kT hx.fit; have hxb:=lC hx.fit; have hxd:=kU hx.fit
 have hya:=kT hy.fit; have hyb:=lC hy.fit; have hyd:=kU hy.fit
 have hxp:=x.den_pos; have hyp:=y.den_pos; have hdp:=Nat.mul_pos hxp hyp
 have e1:=eL x.a y.den; have e2:=eL y.a x.den; have e3:=eL x.b y.den; have e4:=eL y.b x.den; have e5:=uR x.den y.den
 have e6:=lR (x:=x.a * y.den) (y:=y.a * x.den) (L:=L + M) zo zo; have e7:=lR (x:=x.b * y.den) (y:=y.b * x.den) (L:=L + M) zo zo
 refine bE.intro Tryz.func46 rfl Tryz.ntmps46 rfl (fun cx=>(ts (rn rfl (fK (Ht rfl)) fun B2=>(rn rfl (fK (Ht rfl)) fun B3=>(rn rfl (eG (Ts:=[Is (.bool false),Is (.slice none 0 0),Is (.bool false),Is (.slice none 0 0),Is (.slice none 0 0)]) O_51 rfl (fun V=>aW zd (aW zd (aW zd (aW zd (aW zd (aG))))))) fun B4=>(eZ (cU (fJ (m:=3) (dp 2 rfl (eW A_51 Z_51 (Ht rfl) (i:=0) rfl rfl rfl) (dq 7 0 rfl (cJ K_137 rS ⟨(Ht rfl),trivial⟩) ?_))))))))))
 refine dp 3 rfl (eW A_51 Z_51 (Ht rfl) (i:=1) rfl rfl rfl) (fW aL rfl (by kernel_rfl) (aJ (aJ (aJ (aV (ro rfl (cJ K_137 rS ⟨(Ht rfl),trivial⟩) (ra rfl (ra rfl (eZ (cU (fJ (m:=20) (dp 2 rfl (eJ iB (Ht rfl) rfl) (dq 11 0 rfl (eW A_49 Z_49 (Ht rfl) (i:=0) rfl rfl rfl) (dp 6 rfl (cZ (Ht rfl)) (cP 12 1 13 2 rfl (cJ K_136 (mZ zo zo) ⟨(Ht rfl),(Ht rfl),trivial⟩) (dp 3 rfl (eJ iB (Ht rfl) rfl) (dq 15 4 rfl (eW A_49 Z_49 (Ht rfl) (i:=1) rfl rfl rfl) ?_)))))))))))))))))
 refine dp 5 rfl (cZ (Ht rfl)) (cP 16 5 17 6 rfl (cJ K_136 (mZ zo zo) ⟨(Ht rfl),(Ht rfl),trivial⟩) (cP 14 3 18 7 rfl (cJ K_133 (Bk zo zo) ⟨(Ht rfl),(Ht rfl),trivial⟩) (dp 2 rfl (eJ iV (Ht rfl) rfl) (dq 20 9 rfl (eW A_49 Z_49 (Ht rfl) (i:=0) rfl rfl rfl) (dp 6 rfl (cZ (Ht rfl)) (cP 21 10 22 11 rfl (cJ K_136 (mZ zo zo) ⟨(Ht rfl),(Ht rfl),trivial⟩) (dp 3 rfl (eJ iV (Ht rfl) rfl) (dq 24 13 rfl (eW A_49 Z_49 (Ht rfl) (i:=1) rfl rfl rfl) ?_))))))))
 refine dp 5 rfl (cZ (Ht rfl)) (cP 25 14 26 15 rfl (cJ K_136 (mZ zo zo) ⟨(Ht rfl),(Ht rfl),trivial⟩) (cP 23 12 27 16 rfl (cJ K_133 (Bk zo zo) ⟨(Ht rfl),(Ht rfl),trivial⟩) (dp 5 rfl (cZ (Ht rfl)) (dp 6 rfl (cZ (Ht rfl)) (fW aL rfl (by kernel_rfl) (zF (zF (zF (zF (zF (aV (ro rfl (cJ Tryz.call138 (Mt zo zo) ⟨(Ht rfl),(Ht rfl),trivial⟩) ?_))))))))))))
 refine ro rfl (cJ K_134 (Bj (by first | assumption | omega) zo zo zo) ⟨(Ht rfl),(Ht rfl),(Ht rfl),trivial⟩) (gX Z_51 (Ht rfl) (Ht rfl) rfl (i:=2) rfl (aK rfl) rfl rfl (eZ (fG rfl (fZ (fU A_51 Z_51 rfl (i:=2) rfl rfl) ?_))))
 exact (nO (Qi.mk_add x y))
theorem a4M {x:Qi}:bE Tryz.prog 140 [aI x] (aI (-x)):=by
 refine bE.intro Tryz.func140 rfl Tryz.ntmps140 rfl (fun cx=>(ts (rn rfl (fK (Ht rfl)) fun B1=>(rn rfl (eG (Ts:=[Is (.bool false),Is (.slice none 0 0),Is (.bool false),Is (.slice none 0 0),Is (.slice none 0 0)]) O_51 rfl (fun V=>aW zd (aW zd (aW zd (aW zd (aW zd (aG))))))) fun B2=>(eZ (cU (fJ (m:=8) (dp 1 rfl (eJ iB (Ht rfl) rfl) (dq 3 0 rfl (eW A_49 Z_49 (Ht rfl) (i:=0) rfl rfl rfl) (dq 4 1 rfl (cJ K_135 rT ⟨(Ht rfl),trivial⟩) ?_))))))))))
 refine dp 1 rfl (eJ iV (Ht rfl) rfl) (dq 6 3 rfl (eW A_49 Z_49 (Ht rfl) (i:=0) rfl rfl rfl) (dq 7 4 rfl (cJ K_135 rT ⟨(Ht rfl),trivial⟩) (dp 1 rfl (eJ rX (Ht rfl) rfl) (dq 9 6 rfl (fQ A_47 Z_47 (Ht rfl) (i:=0) rfl rfl) (fW aL rfl (by kernel_rfl) (zF (zF (aV (ro rfl (tM (Ht rfl) (Ht rfl) (Ht rfl)) (gX Z_51 (Ht rfl) (Ht rfl) rfl (i:=1) rfl (aK rfl) rfl rfl (eZ (fG rfl (fZ (fU A_51 Z_51 rfl (i:=1) rfl rfl) ?_)))))))))))))
 exact (oP (by obtain ⟨e1,e2,e3⟩:=Qi.neg_a x; rw [e1,e2,a4Y e3]; rfl))
theorem Bf {x:Qi}:bE Tryz.prog 175 [aI x] (aI x.conj):=by
 refine bE.intro Tryz.func175 rfl Tryz.ntmps175 rfl (fun cx=>(ts (rn rfl (fK (Ht rfl)) fun B1=>(rn rfl (eG (Ts:=[Is (.bool false),Is (.slice none 0 0),Is (.bool false),Is (.slice none 0 0),Is (.slice none 0 0)]) O_51 rfl (fun V=>aW zd (aW zd (aW zd (aW zd (aW zd (aG))))))) fun B2=>(eZ (cU (fJ (m:=7) (dp 1 rfl (eJ iB (Ht rfl) rfl) (dq 3 0 rfl (eW A_49 Z_49 (Ht rfl) (i:=0) rfl rfl rfl) (dp 1 rfl (eJ iV (Ht rfl) rfl) ?_))))))))))
 refine dq 5 2 rfl (eW A_49 Z_49 (Ht rfl) (i:=0) rfl rfl rfl) (dq 6 3 rfl (cJ K_135 rT ⟨(Ht rfl),trivial⟩) (dp 1 rfl (eJ rX (Ht rfl) rfl) (dq 8 5 rfl (fQ A_47 Z_47 (Ht rfl) (i:=0) rfl rfl) (fW aL rfl (by kernel_rfl) (zF (aJ (aJ (aJ (aV (ro rfl (tM (Ht rfl) (Ht rfl) (Ht rfl)) (gX Z_51 (Ht rfl) (Ht rfl) rfl (i:=1) rfl (aK rfl) rfl rfl (eZ (fG rfl (fZ (fU A_51 Z_51 rfl (i:=1) rfl rfl) ?_))))))))))))))
 exact (oP (by obtain ⟨e1,e2,e3⟩:=Qi.conj_a x; rw [e1,e2,a4Y e3]; rfl))
theorem uD {x y:Qi} {L M:Nat} [hx:aE x L] [hy:aE y M] (h:L + M + 1 ≤ 17592186044415):bE Tryz.prog 44 [aI x,aI y] (aI (x - y)):=by
 have hxa:=kT hx.fit; have hxb:=lC hx.fit; have hxd:=kU hx.fit
 have hya:=kT hy.fit; have hyb:=lC hy.fit; have hyd:=kU hy.fit
 have hxp:=x.den_pos; have hyp:=y.den_pos; have hdp:=Nat.mul_pos hxp hyp
 refine bE.intro Tryz.func44 rfl Tryz.ntmps44 rfl (fun cx=>(ts (rn rfl (fK (Ht rfl)) fun B2=>(rn rfl (fK (Ht rfl)) fun B3=>(rn rfl (eG (Ts:=[Is (.bool false),Is (.slice none 0 0),Is (.bool false),Is (.slice none 0 0),Is (.slice none 0 0)]) O_51 rfl (fun V=>aW zd (aW zd (aW zd (aW zd (aW zd (aG))))))) fun B4=>(eZ (cU (fJ (m:=3) (dp 2 rfl (eW A_51 Z_51 (Ht rfl) (i:=0) rfl rfl rfl) (dp 3 rfl (eW A_51 Z_51 (Ht rfl) (i:=1) rfl rfl rfl) ?_))))))))))
 refine dq 6 1 rfl (cJ Tryz.call140 a4M ⟨(Ht rfl),trivial⟩) (fW aL rfl (by kernel_rfl) (aJ (aJ (aJ (aV (ro rfl (cJ K_46 (Ck zo) ⟨(Ht rfl),(Ht rfl),trivial⟩) (gX Z_51 (Ht rfl) (Ht rfl) rfl (i:=2) rfl (aK rfl) rfl rfl (eZ (fG rfl (fZ (fU A_51 Z_51 rfl (i:=2) rfl rfl) ?_))))))))))
 exact (nO (Qi.sub_def x y).symm)
theorem kF {x y:Qi} {L M:Nat} [hx:aE x L] [hy:aE y M] (h:L + M + 1 ≤ 17592186044415):bE Tryz.prog 45 [aI x,aI y] (aI (x * y)):=by
 have hxa:=kT hx.fit; have hxb:=lC hx.fit; have hxd:=kU hx.fit
 have hya:=kT hy.fit; have hyb:=lC hy.fit; have hyd:=kU hy.fit
 have hxp:=x.den_pos; have hyp:=y.den_pos; have hdp:=Nat.mul_pos hxp hyp
 have e1:=lS x.a y.a; have e2:=lS x.b y.b; have e3:=lS x.a y.b; have e4:=lS x.b y.a; have e5:=uR x.den y.den; have e8:=tQ (x.b * y.b)
 have e6:=lR (x:=x.a * y.a) (y:=-(x.b * y.b)) (L:=L + M) zo zo; have e7:=lR (x:=x.a * y.b) (y:=x.b * y.a) (L:=L + M) zo zo
 refine bE.intro Tryz.func45 rfl Tryz.ntmps45 rfl (fun cx=>(ts (rn rfl (fK (Ht rfl)) fun B2=>(rn rfl (fK (Ht rfl)) fun B3=>(rn rfl (eG (Ts:=[Is (.bool false),Is (.slice none 0 0),Is (.bool false),Is (.slice none 0 0),Is (.slice none 0 0)]) O_51 rfl (fun V=>aW zd (aW zd (aW zd (aW zd (aW zd (aG))))))) fun B4=>(eZ (cU (fJ (m:=13) (dp 2 rfl (eJ iB (Ht rfl) rfl) (dq 7 0 rfl (eW A_49 Z_49 (Ht rfl) (i:=0) rfl rfl rfl) ?_))))))))))
 refine dp 3 rfl (eJ iB (Ht rfl) rfl) (dq 9 2 rfl (eW A_49 Z_49 (Ht rfl) (i:=1) rfl rfl rfl) (cP 8 1 10 3 rfl (cJ K_132 (xB zo zo) ⟨(Ht rfl),(Ht rfl),trivial⟩) (dp 2 rfl (eJ iV (Ht rfl) rfl) (dq 12 5 rfl (eW A_49 Z_49 (Ht rfl) (i:=0) rfl rfl rfl) (dp 3 rfl (eJ iV (Ht rfl) rfl) (dq 14 7 rfl (eW A_49 Z_49 (Ht rfl) (i:=1) rfl rfl rfl) (cP 13 6 15 8 rfl (cJ K_132 (xB zo zo) ⟨(Ht rfl),(Ht rfl),trivial⟩) (dq 16 9 rfl (cJ K_135 rT ⟨(Ht rfl),trivial⟩) ?_))))))))
 refine cP 11 4 17 10 rfl (cJ K_133 (Bk zo zo) ⟨(Ht rfl),(Ht rfl),trivial⟩) (C.D_new (Ei:=[]) rfl rfl rfl bW (eG (Ts:=[Is (.bool false),Is (.slice none 0 0)]) O_49 rfl (fun V=>aW zd (aW zd (aG)))) (fW aL rfl (by kernel_rfl) (zF (zF (zF (C.F_new (fun B5=>aV (gX Z_49 (Ht rfl) (Ht rfl) rfl (i:=3) rfl (aK rfl) rfl rfl (eZ ?_)))))))))
 refine cU (fJ (m:=12) (dp 2 rfl (eJ iB (Ht rfl) rfl) (dq 19 0 rfl (eW A_49 Z_49 (Ht rfl) (i:=0) rfl rfl rfl) (dp 3 rfl (eJ iV (Ht rfl) rfl) (dq 21 2 rfl (eW A_49 Z_49 (Ht rfl) (i:=1) rfl rfl rfl) (cP 20 1 22 3 rfl (cJ K_132 (xB zo zo) ⟨(Ht rfl),(Ht rfl),trivial⟩) (dp 2 rfl (eJ iV (Ht rfl) rfl) (dq 24 5 rfl (eW A_49 Z_49 (Ht rfl) (i:=0) rfl rfl rfl) (dp 3 rfl (eJ iB (Ht rfl) rfl) (dq 26 7 rfl (eW A_49 Z_49 (Ht rfl) (i:=1) rfl rfl rfl) ?_))))))))))
 refine cP 25 6 27 8 rfl (cJ K_132 (xB zo zo) ⟨(Ht rfl),(Ht rfl),trivial⟩) (cP 23 4 28 9 rfl (cJ K_133 (Bk zo zo) ⟨(Ht rfl),(Ht rfl),trivial⟩) (C.D_new (Ei:=[]) rfl rfl rfl bW (eG (Ts:=[Is (.bool false),Is (.slice none 0 0)]) O_49 rfl (fun V=>aW zd (aW zd (aG)))) (fW aL rfl (by kernel_rfl) (zF (zF (aJ (aJ (aJ (C.F_new (fun B6=>aV (gX Z_49 (Ht rfl) (Ht rfl) rfl (i:=4) rfl (aK rfl) rfl rfl ?_)))))))))))
 refine eZ (cU (fJ (m:=7) (dp 5 rfl (eW A_49 Z_49 (Ht rfl) (i:=3) rfl rfl rfl) (dp 6 rfl (eW A_49 Z_49 (Ht rfl) (i:=4) rfl rfl rfl) (dp 2 rfl (eW A_51 Z_51 (Ht rfl) (i:=0) rfl rfl rfl) (dq 32 2 rfl (cJ K_137 rS ⟨(Ht rfl),trivial⟩) (dp 3 rfl (eW A_51 Z_51 (Ht rfl) (i:=1) rfl rfl rfl) (dq 34 4 rfl (cJ K_137 rS ⟨(Ht rfl),trivial⟩) (cP 33 3 35 5 rfl (cJ Tryz.call138 (Mt zo zo) ⟨(Ht rfl),(Ht rfl),trivial⟩) (fW aL rfl (by kernel_rfl) (zF (aJ (aJ (aJ (aV ?_)))))))))))))))
 refine ro rfl (cJ K_134 (Bj (by first | assumption | omega) zo zo zo) ⟨(Ht rfl),(Ht rfl),(Ht rfl),trivial⟩) (gX Z_51 (Ht rfl) (Ht rfl) rfl (i:=2) rfl (aK rfl) rfl rfl (eZ (fG rfl (fZ (fU A_51 Z_51 rfl (i:=2) rfl rfl) ?_))))
 exact (nO (Qi.mk_mul x y))
theorem Kd {x:Qi} {L:Nat} [hx:aE x L] (h:L ≤ 17592186044415):bE Tryz.prog 27 [aI x] (aD (!decide (x = Qi.zero))):=by
 have hxa:=kT hx.fit; have hxb:=lC hx.fit; have hxd:=kU hx.fit
 refine bE.intro Tryz.func27 rfl Tryz.ntmps27 rfl (fun cx=>(ts (rn rfl (fK (Ht rfl)) fun B1=>(ro rfl (cX cW) (eZ (ts (ro rfl (eJ iB (Ht rfl) rfl) (ro rfl (eJ gB (Ht rfl) rfl) (ro rfl (fQ A_47 Z_47 (Ht rfl) (i:=0) rfl rfl) (ro rfl (dK U_47 (Ht rfl) aA) (ro rfl (eJ iV (Ht rfl) rfl) (ro rfl (eJ gB (Ht rfl) rfl) (ro rfl (fQ A_47 Z_47 (Ht rfl) (i:=0) rfl rfl) (ro rfl (dK U_47 (Ht rfl) aA) (ro rfl (dW (Ht rfl) (Ht rfl) z6) ?_)))))))))))))))
 refine ro rfl (eH (Ht rfl) (cV 0)) (ra rfl (eZ (fG rfl (fZ (eY rfl) ?_))))
 exact (dN (a0F x))
theorem Kg {x:Qi}:bE Tryz.prog 169 [aI x] (aD (decide (x.b = 0))):=by
 refine bE.intro Tryz.func169 rfl Tryz.ntmps169 rfl (fun cx=>(ts (rn rfl (fK (Ht rfl)) fun B1=>(ro rfl (cX cW) (eZ (ts (ro rfl (eJ iV (Ht rfl) rfl) (ro rfl (eJ gB (Ht rfl) rfl) (ro rfl (fQ A_47 Z_47 (Ht rfl) (i:=0) rfl rfl) (ro rfl (dK U_47 (Ht rfl) aA) (ro rfl (cT (Ht rfl) (cV 0)) (ra rfl (eZ (fG rfl (fZ (eY rfl) ?_)))))))))))))))
 exact (dN (a4b x))
theorem Qw {x y:Qi} {L M:Nat} [hx:aE x L] [hy:aE y M] (h:L ≤ 17592186044415) (h2:M ≤ 17592186044415):bE Tryz.prog 139 [aI x,aI y] (aD (decide (x = y))):=by
 have hxa:=kT hx.fit; have hxb:=lC hx.fit; have hxd:=kU hx.fit
 have hya:=kT hy.fit; have hyb:=lC hy.fit; have hyd:=kU hy.fit
 have hxu:=a0P x; have hyu:=a0P y
 refine bE.intro Tryz.func139 rfl Tryz.ntmps139 rfl (fun cx=>(ts (rn rfl (fK (Ht rfl)) fun B2=>(rn rfl (fK (Ht rfl)) fun B3=>(ro rfl (cX cW) (eZ (ts (ro rfl (eJ iB (Ht rfl) rfl) (ro rfl (eW A_49 Z_49 (Ht rfl) (i:=0) rfl rfl rfl) (ro rfl (eJ iB (Ht rfl) rfl) (ro rfl (eW A_49 Z_49 (Ht rfl) (i:=1) rfl rfl rfl) (ro rfl (cJ Tryz.call176 (Kp zo zo) ⟨(Ht rfl),(Ht rfl),trivial⟩) (ro rfl (kN (Ht rfl) cW) (rm rfl (fX rfl rfl (eU rfl rfl (Ht rfl) (fun h=>eJ iV (Ht rfl) rfl)) ?_)))))))))))))))
 refine fX rfl rfl (eU rfl rfl (Ht rfl) (fun h=>eW A_49 Z_49 (fV rfl h) (i:=0) rfl rfl rfl)) (fX rfl rfl (eU rfl rfl (Ht rfl) (fun h=>eJ iV (Ht rfl) rfl)) (fX rfl rfl (eU rfl rfl (Ht rfl) (fun h=>eW A_49 Z_49 (fV rfl h) (i:=1) rfl rfl rfl)) (fX rfl rfl (eU rfl rfl (Ht rfl) (fun h=>cJ Tryz.call176 (Kp zo zo) ⟨(fV rfl h),(fV rfl h),trivial⟩)) (fX rfl rfl (eU rfl rfl (Ht rfl) (fun h=>kN (fV rfl h) cW)) (ro rfl (fC (Ht rfl) (fun h=>(fV rfl h))) ?_)))))
 refine rm rfl (fX rfl rfl (eU rfl rfl (Ht rfl) (fun h=>eJ rX (Ht rfl) rfl)) (fX rfl rfl (eU rfl rfl (Ht rfl) (fun h=>fQ A_47 Z_47 (fV rfl h) (i:=0) rfl rfl)) (fX rfl rfl (eU rfl rfl (Ht rfl) (fun h=>eJ rX (Ht rfl) rfl)) (fX rfl rfl (eU rfl rfl (Ht rfl) (fun h=>fQ A_47 Z_47 (fV rfl h) (i:=1) rfl rfl)) (fX rfl rfl (eU rfl rfl (Ht rfl) (fun h=>cJ Tryz.call216 (a0l zo zo) ⟨(fV rfl h),(fV rfl h),trivial⟩)) (fX rfl rfl (eU rfl rfl (Ht rfl) (fun h=>kN (fV rfl h) cW)) ?_))))))
 refine ro rfl (fC (Ht rfl) (fun h=>(fV rfl h))) (ra rfl (eZ (fG rfl (fZ (eY rfl) ?_))))
 exact (dN (a4n x y))
theorem a0h {x y:Qi} {L M:Nat} [hx:aE x L] [hy:aE y M] (h:L + M ≤ 17592186044415):bE Tryz.prog 76 [aI x,aI y] (aT .i64 (Nd x y)):=by
 have hxa:=kT hx.fit; have hxb:=lC hx.fit; have hxd:=kU hx.fit
 have hya:=kT hy.fit; have hyb:=lC hy.fit; have hyd:=kU hy.fit
 have e1:=eL x.a y.den; have e2:=eL y.a x.den; have e3:=eL x.b y.den; have e4:=eL y.b x.den
 refine bE.intro Tryz.func76 rfl Tryz.ntmps76 rfl (fun cx=>(ts (rn rfl (fK (Ht rfl)) fun B2=>(rn rfl (fK (Ht rfl)) fun B3=>(ro rfl (cX (cV 0)) (eZ (cU (cU (fJ (m:=9) (dp 2 rfl (eJ iB (Ht rfl) rfl) (dq 6 0 rfl (eW A_49 Z_49 (Ht rfl) (i:=0) rfl rfl rfl) (dp 3 rfl (eW A_51 Z_51 (Ht rfl) (i:=1) rfl rfl rfl) (dq 8 2 rfl (cJ K_137 rS ⟨(Ht rfl),trivial⟩) (cP 7 1 9 3 rfl (cJ K_136 (mZ zo zo) ⟨(Ht rfl),(Ht rfl),trivial⟩) (dp 3 rfl (eJ iB (Ht rfl) rfl) ?_)))))))))))))))
 refine dq 11 5 rfl (eW A_49 Z_49 (Ht rfl) (i:=1) rfl rfl rfl) (dp 2 rfl (eW A_51 Z_51 (Ht rfl) (i:=0) rfl rfl rfl) (dq 13 7 rfl (cJ K_137 rS ⟨(Ht rfl),trivial⟩) (fW aL rfl (by kernel_rfl) (zF (zF (aJ (aV (ro rfl (cJ K_136 (mZ zo zo) ⟨(Ht rfl),(Ht rfl),trivial⟩) (ro rfl (cJ Tryz.call176 (Kp zo zo) ⟨(Ht rfl),(Ht rfl),trivial⟩) (ra rfl (eZ (ts (rm rfl (ro rfl (iR (Ht rfl) cW) ?_))))))))))))))
 refine eZ (dX (Ht rfl) (fun hb=>?_) (fun hb=>?_))
 ·simp only [Bool.not_eq_true', decide_eq_false_iff_not] at hb
  refine ts (rm rfl (ra rfl (eZ (fG rfl (fZ (eY rfl) ?_)))))
  exact (aS (by rw [Nd,if_pos hb]))
 ·simp only [Bool.not_eq_false', decide_eq_true_eq] at hb
  refine cY (cU (fJ (m:=9) (dp 2 rfl (eJ iV (Ht rfl) rfl) (dq 20 0 rfl (eW A_49 Z_49 (Ht rfl) (i:=0) rfl rfl rfl) (dp 3 rfl (eW A_51 Z_51 (Ht rfl) (i:=1) rfl rfl rfl) (dq 22 2 rfl (cJ K_137 rS ⟨(Ht rfl),trivial⟩) (cP 21 1 23 3 rfl (cJ K_136 (mZ zo zo) ⟨(Ht rfl),(Ht rfl),trivial⟩) (dp 3 rfl (eJ iV (Ht rfl) rfl) (dq 25 5 rfl (eW A_49 Z_49 (Ht rfl) (i:=1) rfl rfl rfl) (dp 2 rfl (eW A_51 Z_51 (Ht rfl) (i:=0) rfl rfl rfl) ?_))))))))))
  refine dq 27 7 rfl (cJ K_137 rS ⟨(Ht rfl),trivial⟩) (fW aL rfl (by kernel_rfl) (zF (zF (aJ (aV (ro rfl (cJ K_136 (mZ zo zo) ⟨(Ht rfl),(Ht rfl),trivial⟩) (ro rfl (cJ Tryz.call176 (Kp zo zo) ⟨(Ht rfl),(Ht rfl),trivial⟩) (ra rfl (eZ (fG rfl (fZ (eY rfl) ?_)))))))))))
  exact (aS (by rw [Nd,if_neg (by simpa using hb)]))
end
section
open Go Go.RowKit
theorem a2C {n : Nat} {E : dI} {H : Hp} {d : Option Tmp} {t : TypeId} {pos : String} {af : Array Edge} {g : Option (Nat × Bool)}  :
  aM Tryz.prog n E H ⟨d,.build 49 #[],t,pos,af,g⟩ (fE [Is (.bool false),Is (.slice none 0 0)]) :=
 gL (parts := []) fun a V w hs => by
  refine ⟨.agg #[(.bool false),(.slice none 0 0)],?_,[(.bool false),(.slice none 0 0)],rfl,aW (⟨rfl,trivial⟩) (aW (⟨rfl,trivial⟩) (aG))⟩
  simp [Instr.build,Instr.fill,Sem.run_bind,Result.andThen,fD,O_49,U_49,Z_4,Z_47]
theorem Nn (a:Addr) (w:World):(Instr.fieldAt 102 (.pointer (some a)) 0).run Tryz.prog w = .ok (.pointer (some (a.add 0))) w:=by
 simp [Instr.fieldAt,Instr.sureAddr,fieldPlace,Sem.run_bind,Result.andThen,U_102,Z_2]
theorem No (a:Addr) (w:World):(Instr.fieldAt 102 (.pointer (some a)) 1).run Tryz.prog w = .ok (.pointer (some (a.add 1))) w:=by
 simp [Instr.fieldAt,Instr.sureAddr,fieldPlace,Sem.run_bind,Result.andThen,U_102,Z_2]
theorem sV (a:Addr) (w:World):(Instr.fieldAt 102 (.pointer (some a)) 2).run Tryz.prog w = .ok (.pointer (some (a.add 2))) w:=by
 simp [Instr.fieldAt,Instr.sureAddr,fieldPlace,Sem.run_bind,Result.andThen,U_102,Z_2]
theorem lH:Tryz.prog.info? 51 = some Tryz.t51:=by kernel_rfl
theorem nR:Tryz.prog.underlying 29 = some (.slice 51):=by kernel_rfl
end
section
open Go Go.RowKit
theorem Rd {a:Int} {d:Nat} (hd:0 < d) (ha:(dg a.natAbs).length ≤ 8796093022208) (hd2:(dg d).length ≤ 8796093022208):bE Tryz.prog 188 [eP a,aH d] (sQ (wG a d)):=by
 have h1:=On a hd; have h2:=Oo a hd
 obtain ⟨x,hx⟩:∃ x,x = Qi.mk' a 0 d:=⟨_,rfl⟩
 rw [wG,← hx]
 rw [← hx] at h1 h2
 have h3:=tP x.a.natAbs; have h4:=tP x.den
 have h5:(dg (0:Int).natAbs).length ≤ 0:=by rw [show (0:Int).natAbs = 0 from rfl,eT]; exact Nat.le_refl _
 refine bE.intro Tryz.func188 rfl Tryz.ntmps188 rfl (fun cx=>(ts (rn rfl (fK (Ht rfl)) fun B2=>(ro rfl (cX (bT.cS (l:=[]) rfl)) (eZ (ts (ro rfl (eW A_49 Z_49 (Ht rfl) (i:=0) rfl rfl rfl) (ro rfl (aM.imp (a2C ) Hk) (rm rfl (ro rfl (aM.imp (cJ K_134 (Bj (by first | assumption | omega) zo zo zo) ⟨(Ht rfl),(Ht rfl),(Ht rfl),trivial⟩) (nO hx.symm)) (rn rfl (eG (Ts:=[Is (.bool false),Is (.slice none 0 0),Is (.bool false),Is (.slice none 0 0),Is (.slice none 0 0)]) O_51 rfl (fun V=>aW zd (aW zd (aW zd (aW zd (aW zd (aG))))))) fun B5=>?_)))))))))))
 refine gX Z_51 (Ht rfl) (Ht rfl) rfl (i:=1) rfl (aK rfl) rfl rfl (eZ (ts (ro rfl (eJ iB (Ht rfl) rfl) (ro rfl (eJ gB (Ht rfl) rfl) (ro rfl (fQ A_47 Z_47 (Ht rfl) (i:=1) rfl rfl) (ro rfl (cJ Tryz.call249 (Mr zo) ⟨(Ht rfl),trivial⟩) (ra rfl (eZ (cU (jS (fun (uu:Unit)=>True) (fun (uu:Unit)=>[(5,cC B5 0),(6,sQ (if x.a < 0 then 45 :: yJ x.a.natAbs else yJ x.a.natAbs))]) (fun (uu:Unit)=>[box B2 49 [aD (decide (a < 0)),aH (a).natAbs],box B5 51 [aD (decide ((x).a < 0)),aH (x).a.natAbs,aD (decide ((x).b < 0)),aH (x).b.natAbs,aH (du (x))]]) ?_ (fun uu _=>?_)))))))))))
 ·refine ts (ro rfl (eJ iB (Ht rfl) rfl) (ro rfl (eJ mL (Ht rfl) rfl) (ro rfl (fQ A_4 Z_4 (Ht rfl) (i := 1) rfl rfl) (eZ (dX (Ht rfl) (fun hb => ?_) (fun hb => ?_))))))
  ·simp only [decide_eq_true_eq] at hb
   refine dQ (rm rfl (ro rfl (lK (bT.cS (l:=[45]) rfl) (Ht rfl) (by first | omega | (simp; omega))) (ra rfl (eZ (bD () trivial (aQ rfl (aZ rfl (kP (by rw [if_pos hb]; rfl)) aX)) (aU (aB rfl) (aU (aB rfl) aY)))))))
  ·simp only [decide_eq_false_iff_not] at hb
   refine cY (bD () trivial (aQ rfl (aZ rfl (kP (by rw [if_neg hb])) aX)) (aU (aB rfl) (aU (aB rfl) aY)))
 ·have h6 : (if x.a < 0 then 45 :: yJ x.a.natAbs else yJ x.a.natAbs).length ≤ (yJ x.a.natAbs).length + 1 := by split <;> simp
  have h7:=a0P x
  refine cU (jS (fun (uu:Unit)=>True) (fun (uu:Unit)=>[(6,sQ ((if x.a < 0 then 45 :: yJ x.a.natAbs else yJ x.a.natAbs) ++ (if x.den = 1 then [] else 47 :: yJ x.den)))]) (fun (uu:Unit)=>[box B2 49 [aD (decide (a < 0)),aH (a).natAbs],box B5 51 [aD (decide ((x).a < 0)),aH (x).a.natAbs,aD (decide ((x).b < 0)),aH (x).b.natAbs,aH (du (x))]]) ?_ (fun uu _=>?_))
  ·refine ts (ro rfl (eJ rX (Ht rfl) rfl) (ro rfl (fQ A_47 Z_47 (Ht rfl) (i := 1) rfl rfl) (ro rfl (dK U_47 (Ht rfl) aA) (ro rfl (eH (Ht rfl) (cV 0)) (eZ (dX (Ht rfl) (fun hb => ?_) (fun hb => ?_)))))))
   ·simp only [decide_eq_true_eq] at hb
    have h8:du x = x.den:=zY (fun e=>by rw [e,eT] at hb; simp at hb)
    have h9:x.den ≠ 1:=fun e=>by rw [du,if_pos e,eT] at hb; simp at hb
    have h10:=tP (du x)
    refine dQ (rm rfl (ro rfl (eJ rX (Ht rfl) rfl) (ro rfl (fQ A_47 Z_47 (Ht rfl) (i:=1) rfl rfl) (ro rfl (cJ Tryz.call249 (Mr zo) ⟨(Ht rfl),trivial⟩) (ro rfl (lK (bT.cS (l:=[47]) rfl) (Ht rfl) (by simp only [List.length_cons,List.length_nil]; omega)) ?_)))))
    refine ro rfl (lK (Ht rfl) (Ht rfl) (by simp only [List.length_append,List.length_cons,List.length_nil]; omega)) ?_
    refine ra rfl (eZ (bD () trivial (aZ rfl (kP (by rw [if_neg h9,h8]; rfl)) aX) (dE.refl _)))
   ·simp only [decide_eq_false_iff_not] at hb
    have h9:x.den = 1:=Dk (aR.1 zo)
    refine cY (bD () trivial (aZ rfl (kP (by rw [if_pos h9,List.append_nil])) aX) (dE.refl _))
  ·refine ts (rm rfl (ra rfl (eZ ?_)))
   exact fG rfl (eY rfl)
theorem Qx {x:Qi} {L:Nat} [hx:aE x L] (h:L ≤ 8796093022208):bE Tryz.prog 89 [aI x] (sQ (Zi x)):=by
 have hxa:=kT hx.fit; have hxb:=lC hx.fit; have hxd:=kU hx.fit; have hdp:=x.den_pos
 have l1:=An x.a hdp; have l2:=An x.b hdp
 refine bE.intro Tryz.func89 rfl Tryz.ntmps89 rfl (fun cx=>(ts (rn rfl (fK (Ht rfl)) fun B1=>(ro rfl (cX (bT.cS (l:=[]) rfl)) (eZ (cU (ts (ro rfl (eW A_51 Z_51 (Ht rfl) (i:=0) rfl rfl rfl) (ro rfl (cJ Tryz.call169 Kg ⟨(Ht rfl),trivial⟩) (eZ (dX (Ht rfl) (fun hb=>?_) (fun hb=>?_))))))))))))
 ·simp only [decide_eq_true_eq] at hb
  refine cU (fJ (m:=4) (dp 1 rfl (eJ iB (Ht rfl) rfl) (dq 6 0 rfl (eW A_49 Z_49 (Ht rfl) (i:=0) rfl rfl rfl) (dp 1 rfl (eW A_51 Z_51 (Ht rfl) (i:=0) rfl rfl rfl) (dq 8 2 rfl (cJ K_137 rS ⟨(Ht rfl),trivial⟩) (fW aL rfl (by kernel_rfl) (zF (aV (ro rfl (cJ Tryz.call188 (Rd (by assumption) zo zo) ⟨(Ht rfl),(Ht rfl),trivial⟩) ?_)))))))))
  refine ra rfl (eZ (fG rfl (fZ (eY rfl) ?_)))
  exact (kP (by rw [Zi,if_pos hb]))
 ·simp only [decide_eq_false_iff_not] at hb
  refine cY (cU (fJ (m:=4) (dp 1 rfl (eJ iV (Ht rfl) rfl) (dq 11 0 rfl (eW A_49 Z_49 (Ht rfl) (i:=0) rfl rfl rfl) (dp 1 rfl (eW A_51 Z_51 (Ht rfl) (i:=0) rfl rfl rfl) (dq 13 2 rfl (cJ K_137 rS ⟨(Ht rfl),trivial⟩) (fW aL rfl (by kernel_rfl) (zF (aV (ro rfl (cJ Tryz.call188 (Rd (by assumption) zo zo) ⟨(Ht rfl),(Ht rfl),trivial⟩) ?_))))))))))
  refine ro rfl (lK (Ht rfl) (bT.cS (l:=[105]) rfl) (by simp only [List.length_append,List.length_cons,List.length_nil]; omega)) ?_
  refine ra rfl (eZ (cU (ts (ro rfl (eJ iB (Ht rfl) rfl) (ro rfl (eJ gB (Ht rfl) rfl) (ro rfl (fQ A_47 Z_47 (Ht rfl) (i:=0) rfl rfl) (ro rfl (dK U_47 (Ht rfl) aA) (ro rfl (cT (Ht rfl) (cV 0)) (eZ (dX (Ht rfl) (fun hc=>?_) (fun hc=>?_)))))))))))
  ·simp only [decide_eq_true_eq] at hc
   have ha:x.a = 0:=by have:=aR.1 hc; omega
   refine ts (rm rfl (ra rfl (eZ (fG rfl (fZ (eY rfl) ?_)))))
   exact (kP (by rw [Zi,if_neg hb,if_pos ha]))
  ·simp only [decide_eq_false_iff_not] at hc
   have ha:x.a ≠ 0:=fun e=>hc (by rw [e]; exact aR.2 rfl)
   refine cY (cU (jS (fun (uu:Unit)=>True) (fun (uu:Unit)=>[(1,cC B1 0),(3,sQ ((if x.b < 0 then wG x.b x.den else 43 :: wG x.b x.den) ++ [105]))]) (fun (uu:Unit)=>[box B1 51 [aD (decide ((x).a < 0)),aH (x).a.natAbs,aD (decide ((x).b < 0)),aH (x).b.natAbs,aH (du (x))]]) ?_ (fun uu _=>?_)))
   ·refine ts (ro rfl (eJ iV (Ht rfl) rfl) (ro rfl (eJ mL (Ht rfl) rfl) (ro rfl (fQ A_4 Z_4 (Ht rfl) (i := 0) rfl rfl) (ro rfl (dR (Ht rfl)) (eZ (dX (Ht rfl) (fun hd => ?_) (fun hd => ?_)))))))
    ·have hn : ¬ x.b < 0 := by simpa using hd
     refine dQ (rm rfl (ro rfl (lK (bT.cS (l:=[43]) rfl) (Ht rfl) (by simp only [List.length_append,List.length_cons,List.length_nil]; omega)) ?_))
     refine ra rfl (eZ (bD () trivial (aQ rfl (aZ rfl (kP (by rw [if_neg hn]; rfl)) aX)) (aU (aB rfl) aY)))
    ·have hn : x.b < 0 := by simpa using hd
     refine cY (bD () trivial (aQ rfl (aZ rfl (kP (by rw [if_pos hn])) aX)) (aU (aB rfl) aY))
   ·have l3 : ((if x.b < 0 then wG x.b x.den else 43 :: wG x.b x.den) ++ [105]).length ≤ (wG x.b x.den).length + 2 := by split <;> simp
    refine cU (fJ (m:=6) (dp 1 rfl (eJ iB (Ht rfl) rfl) (dq 29 0 rfl (eW A_49 Z_49 (Ht rfl) (i:=0) rfl rfl rfl) (dp 1 rfl (eW A_51 Z_51 (Ht rfl) (i:=0) rfl rfl rfl) (dq 31 2 rfl (cJ K_137 rS ⟨(Ht rfl),trivial⟩) (cP 30 1 32 3 rfl (cJ Tryz.call188 (Rd (by assumption) zo zo) ⟨(Ht rfl),(Ht rfl),trivial⟩) ?_))))))
    refine dp 3 rfl (cZ (Ht rfl)) (fW aL rfl (by kernel_rfl) (zF (aJ (aJ (aV (ro rfl (lK (Ht rfl) (Ht rfl) zo) (ra rfl (eZ (fG rfl (fZ (eY rfl) ?_))))))))))
    exact (kP (by rw [Zi,if_neg hb,if_neg ha]))
theorem Ki {r:Rt}:bE Tryz.prog 58 [Jw r] (aI r.q):=by
 have hr1:=r.h1; have hr2:=r.h2; have hr3:=r.h3; have hr4:=r.h4; have hr5:=r.d1; have hr6:=r.d2; have hr0:=r.d0
 refine bE.intro Tryz.func58 rfl Tryz.ntmps58 rfl (fun cx=>(ts (rn rfl (fK (Ht rfl)) fun B1=>(rn rfl (eG (Ts:=[Is (.bool false),Is (.slice none 0 0),Is (.bool false),Is (.slice none 0 0),Is (.slice none 0 0)]) O_51 rfl (fun V=>aW zd (aW zd (aW zd (aW zd (aW zd (aG))))))) fun B2=>(eZ (cU (jS (fun (uu:Unit)=>True) (fun (uu:Unit)=>[(1,cC B1 0),(2,cC B2 0)]) (fun (uu:Unit)=>[box B1 102 [aT .i64 r.re,aT .i64 r.im,aT .i64 r.d],box B2 51 [Is (.bool false),Is (.slice none 0 0),Is (.bool false),Is (.slice none 0 0),Is (.slice none 0 0)]]) ?_ (fun uu _=>?_))))))))
 ·refine ts (ro rfl (eJ sV (Ht rfl) rfl) (ro rfl (fQ A_2 Z_2 (Ht rfl) (i := 0) rfl rfl) (ro rfl (kN (Ht rfl) cW) (eZ (dX (Ht rfl) (fun hb => ?_) (fun hb => ?_))))))
  ·simp only [decide_eq_true_eq] at hb
   refine dQ (ro rfl (eJ sV (Ht rfl) rfl) (lY Z_2 (Ht rfl) (cV 1) (i:=0) rfl (aK rfl) rfl (eZ (bD () trivial (zS rfl) (aU (aB (by rw [Rt.d,if_pos hb]; rfl)) (aU (aB rfl) aY))))))
  ·simp only [decide_eq_false_iff_not] at hb
   refine cY (bD () trivial (zS rfl) (aU (aB (by rw [Rt.d,if_neg hb])) (aU (aB rfl) aY)))
 ·refine ts (ro rfl (eJ Nn (Ht rfl) rfl) (ro rfl (fQ A_2 Z_2 (Ht rfl) (i := 0) rfl rfl) (ro rfl (eJ No (Ht rfl) rfl) (ro rfl (fQ A_2 Z_2 (Ht rfl) (i := 0) rfl rfl) (ro rfl (eJ sV (Ht rfl) rfl) (ro rfl (fQ A_2 Z_2 (Ht rfl) (i := 0) rfl rfl) (ro rfl (cJ Tryz.call141 (a4N hr1 hr2 hr3 hr4 hr5 hr6 hr0) ⟨(Ht rfl), (Ht rfl), (Ht rfl), trivial⟩) (rm rfl (ro rfl (dU (Ht rfl) rfl) (ro rfl (dU (Ht rfl) rfl) (rn rfl (eG (Ts := [Is (.bool false), Is (.slice none 0 0), Is (.bool false), Is (.slice none 0 0), Is (.slice none 0 0)]) O_51 rfl (fun V => aW zd (aW zd (aW zd (aW zd (aW zd (aG))))))) fun B3 => ?_)))))))))))
  refine gX Z_51 (Ht rfl) (Ht rfl) rfl (i:=2) rfl (aK rfl) rfl rfl (ra rfl (eZ (ts (ro rfl (eW A_51 Z_51 (Ht rfl) (i:=2) rfl rfl rfl) (gX Z_51 (Ht rfl) (Ht rfl) rfl (i:=1) rfl (aK rfl) rfl rfl (eZ ?_))))))
  exact fG rfl (fU A_51 Z_51 rfl (i:=1) rfl rfl)
theorem qM {l:List Rt} (hl:l.length ≤ 1000000):bE Tryz.prog 48 [qY l] (bB (l.map Rt.q)):=by
 refine bE.intro Tryz.func48 rfl Tryz.ntmps48 rfl (fun cx=>(ts (ro rfl (cX cW) (eZ (ts (rm rfl (ro rfl (dK U_22 (Ht rfl) aA) (rn rfl (mM (T:=aI Qi.zero) (i:=Tryz.t51) nR lH rfl rfl (Ht rfl) rfl lJ (El.ag rfl) (by show 88 * _ ≤ _; omega) zo) fun B8=>(ra rfl (eZ (cU (ts (rm rfl (ro rfl (dK U_22 (Ht rfl) aA) (ro rfl (cZ (cV 0)) (eZ (eK ?_)))))))))))))))))
 refine gA (fun (k : Nat) (out : List Qi) => mX (fun i => (l.getD i default).q) l.length out k) (fun (k : Nat) (out : List Qi) => l.length - k) (fun (k : Nat) (out : List Qi) => [(3, Is B8), (9, qY l), (10, NT .i64 l.length), (11, NT .i64 k)]) (fun (k : Nat) (out : List Qi) => [cL 51 5 B8 (out.map aI)]) 0 (List.replicate l.length Qi.zero) (mX.start _ _ _)
  (zS rfl) (aU (bO (wJ aI _ _)) aY) (fun k out hS=>?_)
 refine ts (ro rfl (gZ (Ht rfl) (Ht rfl)) (eZ (cU (dX (Ht rfl) (fun hk=>?_) (fun hk=>?_)))))
 ·simp only [decide_eq_true_eq] at hk
  have hlen:=hS.len
  refine cY (cU (eK (ts (rm rfl (ro rfl (dJ U_22 Z_102 (Ht rfl) (Ht rfl) rfl (eQ (dY (d:=default) hk))) (ro rfl (dV A_102 Z_102 (Ht rfl)) (rn rfl (eG (Ts:=[Is (.int .i64 0),Is (.int .i64 0),Is (.int .i64 0)]) O_102 rfl (fun V=>aW zd (aW zd (aW zd (aG))))) fun B5=>(ra rfl (gX Z_102 (Ht rfl) (Ht rfl) rfl (i:=1) rfl (aK rfl) rfl rfl (eZ (dQ (rm rfl (rm rfl (ro rfl (eW A_102 Z_102 (Ht rfl) (i:=1) rfl rfl rfl) ?_))))))))))))))
  refine ro rfl (cJ Tryz.call58 Ki ⟨(Ht rfl),trivial⟩) (ro rfl (cR U_29 Z_51 (Ht rfl) (Ht rfl) rfl (i:=0) rfl (by first | omega | (simp; omega)) rfl) (kV Z_51 (Ht rfl) (Ht rfl) (El.ag rfl) (i:=0) rfl rfl (by first | omega | (simp; omega)) rfl (eZ (bC (dQ (ro rfl (dW (Ht rfl) (cV 1) z6) (rm rfl (eZ (bR [0] rfl (by decide) (fY (k + 1,_) (hS.next hk rfl) (by dsimp only; omega) (zS rfl) (aU (bO (eN aI _ _ _)) aY)))))))))))
 ·simp only [decide_eq_false_iff_not] at hk
  obtain rfl:k = l.length:=Nat.le_antisymm hS.kle zo
  have hfin:=hS.fin
  rw [Gz l Rt.q] at hfin
  refine gW rfl (gV (i:=0) (tt:=3) rfl rfl jG (ts (rm rfl (ra rfl (eZ (fG rfl (fZ (eY rfl) ?_)))))))
  exact (kO (by rw [hfin]))
end
section
open Go Go.RowKit
theorem qE (ds:List Nat) (hd:lV ds) (hl:ds.length ≤ 1152921504606846976):bE Tryz.prog 267 [yP ds] (aH (val ds)):=by
 refine bE.intro Tryz.func267 rfl Tryz.ntmps267 rfl (fun cx=>(ts (ro rfl (cX cW) (eZ (ts (rm rfl (ro rfl (dK U_46 (Ht rfl) aA) (ra rfl (eZ (cU (eK ?_)))))))))))
 refine bS (fun (k : Nat) => k ≤ ds.length ∧ ∀ i, k ≤ i → i < ds.length → ds.getD i 0 = 0) (fun (k : Nat) => k) (fun (k : Nat) => [(0, yP ds), (3, NT .i64 k)]) (fun (k : Nat) => []) ds.length ⟨Nat.le_refl _, fun i h1 h2 => by omega⟩
  (zS rfl) aY (fun k ⟨hk,hz⟩=>?_)
 refine cU (ts (rm rfl (ro rfl (eH (Ht rfl) (cV 0)) (rm rfl (fX rfl rfl (eU rfl rfl (Ht rfl) (fun h=>cZ (Ht rfl))) (fX rfl rfl (eU rfl rfl (Ht rfl) (fun h=>cZ (Ht rfl))) (fX rfl rfl (eU rfl rfl (Ht rfl) (fun h=>dG (fV rfl h) (cV 1) (by first | omega | (simp at h; omega)) (by show _ < 9223372036854775808; first | omega | (simp at h; omega)))) (fX rfl rfl (eU rfl rfl (Ht rfl) (fun h=>dJ U_46 Z_189 (fV rfl h) (fV rfl h) rfl (eQ (aO (by first | omega | (simp at h; omega)))))) ?_))))))))
 refine fX rfl rfl (eU rfl rfl (Ht rfl) (fun h=>dV A_189 Z_189 (fV rfl h))) (fX rfl rfl (eU rfl rfl (Ht rfl) (fun h=>cT (fV rfl h) (cV 0))) (ro rfl (fC (Ht rfl) (fun h=>(fV rfl h))) (eZ (dX (Ht rfl) (fun hb=>?_) (fun hb=>?_)))))
 ·simp at hb
  refine cY (eK (dQ (rm rfl (ro rfl (dG (Ht rfl) (cV 1) zo z6) (ra rfl (eZ (bC (fY (k - 1) ⟨by omega,fun i h1 h2=>?_⟩ zo (zS rfl) aY))))))))
  by_cases e2:i = k - 1
  ·subst e2; simpa using hb.2
  ·exact hz i zo h2
 ·have hn : k = 0 ∨ ds.getD (k - 1) 0 ≠ 0 := by
   simp only [Bool.and_eq_false_iff,decide_eq_false_iff_not] at hb
   rcases hb with h1 | h1
   ·left; omega
   ·right; exact h1
  have hfin:=Uk hd hk hz hn
  refine gW rfl (ts (rm rfl (rm rfl (ro rfl (qR U_46 Z_189 (Ht rfl) (Ht rfl) (fun m e=>by cases e) zo (by simp; omega) rfl) ?_))))
  refine ra rfl (eZ (fG rfl (fZ (eY rfl) ?_)))
  exact (Nm (by rw [hfin]; simp))
theorem Fd {m:Nat} (hm:m < 18446744073709551616):bE Tryz.prog 268 [NT .u64 m] (aH m):=by
 refine bE.intro Tryz.func268 rfl Tryz.ntmps268 rfl (fun cx=>(ts (ro rfl (cX cW) (eZ (ts (rm rfl (ro rfl (gD rfl U_254 U_189 (Ht rfl)) (rm rfl (ro rfl (fF (Ht rfl) (cV 32) (by decide)) (ro rfl (gD rfl U_254 U_189 (Ht rfl)) (ro rfl (dB (xs:=[.tmp 4,.tmp 7]) U_46 Z_189 O_189 (cG (Ht rfl) (cG (Ht rfl) cK)) rfl rfl rfl) (ro rfl (cJ K_267 (qE [m % 4294967296,m / 2 ^ 32 % 4294967296] (a7v _ _) (by simp)) ⟨(Ht rfl),trivial⟩) ?_))))))))))))
 refine ra rfl (eZ (fG rfl (fZ (eY rfl) ?_)))
 exact (dO (Jc hm))
theorem Ij {m n:Nat} (hm:(dg m).length ≤ 1152921504606846976) (hn:(dg n).length ≤ 1152921504606846976):bE Tryz.prog 237 [aH m,aH n] (aT .i64 (sI m n)):=by
 refine bE.intro Tryz.func237 rfl Tryz.ntmps237 rfl (fun cx=>(ts (ro rfl (cX (cV 0)) (eZ (cU (ts (rm rfl (ro rfl (dK U_46 (Ht rfl) aA) (rm rfl (ro rfl (dK U_46 (Ht rfl) aA) (ro rfl (fB (Ht rfl) (Ht rfl)) (eZ (dX (Ht rfl) (fun hb=>?_) (fun hb=>?_))))))))))))))
 ·simp at hb
  refine cU (ts (rm rfl (ro rfl (dK U_46 (Ht rfl) aA) (rm rfl (ro rfl (dK U_46 (Ht rfl) aA) (ro rfl (gZ (Ht rfl) (Ht rfl)) (eZ (dX (Ht rfl) (fun hb2=>?_) (fun hb2=>?_)))))))))
  ·simp at hb2
   have hlt:=Ks hb2
   refine ts (ro rfl (cX cW) (eZ (fG rfl (fZ (eY rfl) ?_))))
   exact (aS (by simp [sI,hlt]))
  ·simp at hb2
   have hlt:=Ks (a:=n) (b:=m) zo
   refine cY (ts (ro rfl (cX (cV 1)) (eZ (fG rfl (fZ (eY rfl) ?_)))))
   exact (aS (by simp [sI,hlt,Nat.lt_asymm hlt]))
 ·simp at hb
  refine cY (cU (ts (rm rfl (ro rfl (dK U_46 (Ht rfl) aA) (ro rfl (iY (Ht rfl) cW (Ej zo)) (ra rfl (eZ (eK ?_))))))))
  refine bS (fun (k : Nat) => k ≤ (dg m).length ∧ ∀ i, k ≤ i → i < (dg m).length → (dg m).getD i 0 = (dg n).getD i 0) (fun (k : Nat) => k) (fun (k : Nat) => [(0, aH m), (1, aH n), (5, aT .i64 ((k : Int) - 1))]) (fun (k : Nat) => []) (dg m).length ⟨Nat.le_refl _, fun i h1 h2 => by omega⟩
   (zS rfl) aY (fun k ⟨hk,he⟩=>?_)
  refine cU (ts (rm rfl (ro rfl (mV (Ht rfl) cW) (eZ (dX (Ht rfl) (fun hk1=>?_) (fun hk1=>?_))))))
  ·simp at hk1
   refine cY (cU (eK (cU (fJ (m:=8) (dp 0 rfl (cZ (Ht rfl)) (dp 5 rfl (cZ (Ht rfl)) (cP 23 0 24 1 rfl (dJ U_46 Z_189 (Ht rfl) (Ht rfl) (show ((k:Int) - 1) = ((k - 1:Nat):Int) by omega) (eQ (aO zo))) (dq 25 2 rfl (dV A_189 Z_189 (Ht rfl)) (dp 1 rfl (cZ (Ht rfl)) (dp 5 rfl (cZ (Ht rfl)) (cP 27 4 28 5 rfl (dJ U_46 Z_189 (Ht rfl) (Ht rfl) (show ((k:Int) - 1) = ((k - 1:Nat):Int) by omega) (eQ (aO zo))) (dq 29 6 rfl (dV A_189 Z_189 (Ht rfl)) ?_))))))))))))
   refine fW aL rfl (by kernel_rfl) (zF (zF (aV (ro rfl (fB (Ht rfl) (Ht rfl)) (eZ (dX (Ht rfl) (fun h1=>?_) (fun h1=>?_)))))))
   ·simp only [Bool.not_eq_true', decide_eq_false_iff_not] at h1
    refine cU (cU (fJ (m:=8) (dp 0 rfl (cZ (Ht rfl)) (dp 5 rfl (cZ (Ht rfl)) (cP 32 0 33 1 rfl (dJ U_46 Z_189 (Ht rfl) (Ht rfl) (show ((k:Int) - 1) = ((k - 1:Nat):Int) by omega) (eQ (aO zo))) (dq 34 2 rfl (dV A_189 Z_189 (Ht rfl)) (dp 1 rfl (cZ (Ht rfl)) (dp 5 rfl (cZ (Ht rfl)) (cP 36 4 37 5 rfl (dJ U_46 Z_189 (Ht rfl) (Ht rfl) (show ((k:Int) - 1) = ((k - 1:Nat):Int) by omega) (eQ (aO zo))) (dq 38 6 rfl (dV A_189 Z_189 (Ht rfl)) ?_))))))))))
    refine fW aL rfl (by kernel_rfl) (zF (zF (aV (ro rfl (gZ (Ht rfl) (Ht rfl)) (eZ (dX (Ht rfl) (fun h2=>?_) (fun h2=>?_)))))))
    ·simp only [decide_eq_true_eq] at h2
     have hlt:=Dh (cA m) (cA n) hb (k:=k - 1) zo (fun i h2 h3=>he i zo h3) h2
     rw [dH,dH] at hlt
     refine ts (ro rfl (cX cW) (eZ (fG rfl (fZ (eY rfl) ?_))))
     exact (aS (by simp [sI,hlt]))
    ·simp only [decide_eq_false_iff_not] at h2
     have hlt:=Dh (cA n) (cA m) hb.symm (k:=k - 1) zo (fun i h2 h3=>(he i zo zo).symm) zo
     rw [dH,dH] at hlt
     refine cY (ts (ro rfl (cX (cV 1)) (eZ (fG rfl (fZ (eY rfl) ?_)))))
     exact (aS (by simp [sI,hlt,Nat.lt_asymm hlt]))
   ·simp only [Bool.not_eq_false', decide_eq_true_eq] at h1
    refine cY (bC (dQ (rm rfl (ro rfl (iY (Ht rfl) cW (Ej zo)) (ra rfl (eZ (fY (k - 1) ⟨by omega,fun i h3 h4=>(by by_cases e:i = k - 1; (· subst e; omega); exact he i zo h4)⟩ zo (aQ rfl (aQ rfl (aZ rfl (aS zo) aX))) aY)))))))
  ·simp at hk1
   have hk0:k = 0:=by omega
   have heq : m = n := by
    have : dg m = dg n := by
     apply List.ext_getElem?
     intro i
     by_cases hi:i < (dg m).length
     ·have h5 := he i zo hi
      have h6:i < (dg n).length:=by omega
      simp [List.getD,hi,h6] at h5
      simp [hi,h6,h5]
     ·rw [List.getElem?_eq_none zo,List.getElem?_eq_none zo]
    rw [← dH m,this,dH]
   refine gW rfl (ts (ro rfl (cX (cV 0)) (eZ (fG rfl (fZ (eY rfl) ?_)))))
   exact (aS (by simp [sI,heq]))
theorem Xf {m n:Nat} (hm:(dg m).length ≤ 17592186044416) (hn:(dg n).length ≤ 17592186044416):bE Tryz.prog 269 [aH m,aH n] (aH (m + n)):=by
 refine bE.intro Tryz.func269 rfl Tryz.ntmps269 rfl (fun cx=>(ts (ro rfl (cX cW) (eZ (cU (rR (fun (p:Nat) (q:Nat)=>p + q = m + n ∧ (dg q).length ≤ (dg p).length ∧ (dg p).length ≤ 17592186044416) (fun (p:Nat) (q:Nat)=>[(0,aH p),(1,aH q)]) (fun (p:Nat) (q:Nat)=>[]) ?_ (fun p q ⟨hpq,hle,hlp⟩=>?_)))))))
 ·refine ts (rm rfl (ro rfl (dK U_46 (Ht rfl) aA) (rm rfl (ro rfl (dK U_46 (Ht rfl) aA) (ro rfl (gZ (Ht rfl) (Ht rfl)) (eZ (dX (Ht rfl) (fun hb => ?_) (fun hb => ?_))))))))
  ·simp at hb
   refine dQ (rm rfl (rm rfl (ra rfl (ra rfl (eZ (bD (n,m) ⟨Nat.add_comm _ _,Nat.le_of_lt hb,hn⟩ (zS rfl) aY))))))
  ·simp at hb
   refine cY (bD (m,n) ⟨rfl,hb,hm⟩ (zS rfl) aY)
 ·refine ts (rm rfl (ro rfl (dK U_46 (Ht rfl) aA) (ro rfl (dW (Ht rfl) (cV 1) z6) (rn rfl (eM (T := cO 0) (i := Tryz.t189) V_46 jB rfl rfl (Ht rfl) rfl (fun _ => rfl) trivial (by show 4 * _ ≤ _; omega) zo) fun B19 => (ra rfl (eZ (ts (ro rfl (cX (cV 0)) (eZ (cU (ts (ro rfl (cX (cV 0)) (eZ (eK ?_))))))))))))))
  refine jF (fun (k : Nat) (out : List Nat) (c : Nat) => Cy (dg p) (dg q) out k c) (fun (k : Nat) (out : List Nat) (c : Nat) => (dg p).length - k) (fun (k : Nat) (out : List Nat) (c : Nat) => [(0, aH p), (1, aH q), (5, Is (.slice (some ⟨B19, 0, none⟩) ((dg p).length + 1) ((dg p).length + 1))), (6, NT .u64 c), (7, NT .i64 k)]) (fun (k : Nat) (out : List Nat) (c : Nat) => [box B19 189 (out.map cO)]) 0 (List.replicate ((dg p).length + 1) 0) 0 (Cy.start _ _)
   (zS rfl) (aU (aB (lX _)) aY) (fun k out c hS=>?_)
  refine cU (ts (rm rfl (rm rfl (ro rfl (dK U_46 (Ht rfl) aA) (ro rfl (gZ (Ht rfl) (Ht rfl)) (eZ (dX (Ht rfl) (fun hb=>?_) (fun hb=>?_))))))))
  ·simp at hb
   have hlen:=hS.len; have hcl:=hS.cle; have hxk:=bH (cA p) k; have hyk:=bH (cA q) k
   simp only [BB] at hxk hyk
   refine cY (cU (eK (ts (rm rfl (rm rfl (ro rfl (dJ U_46 Z_189 (Ht rfl) (Ht rfl) rfl (eQ (aO zo))) (ro rfl (dV A_189 Z_189 (Ht rfl)) (ro rfl (gJ U_189 U_254 (Ht rfl) z7) (rm rfl (ro rfl (dW (Ht rfl) (Ht rfl) z7) (ra rfl (eZ (cU (jS (fun (s:Nat)=>s = (dg p).getD k 0 + (dg q).getD k 0 + c) (fun (s:Nat)=>[(0,aH p),(1,aH q),(5,Is (.slice (some ⟨B19,0,none⟩) ((dg p).length + 1) ((dg p).length + 1))),(7,NT .i64 k),(8,NT .u64 s)]) (fun (s:Nat)=>[box B19 189 (out.map cO)]) ?_ (fun s hs=>?_)))))))))))))))
   ·refine ts (rm rfl (rm rfl (ro rfl (dK U_46 (Ht rfl) aA) (ro rfl (gZ (Ht rfl) (Ht rfl)) (eZ (dX (Ht rfl) (fun hk2 => ?_) (fun hk2 => ?_)))))))
    ·simp at hk2
     refine dQ (rm rfl (rm rfl (rm rfl (ro rfl (dJ U_46 Z_189 (Ht rfl) (Ht rfl) rfl (eQ (aO zo))) (ro rfl (dV A_189 Z_189 (Ht rfl)) (ro rfl (gJ U_189 U_254 (Ht rfl) z7) (ro rfl (dW (Ht rfl) (Ht rfl) z7) (ra rfl (eZ (bD ((dg p).getD k 0 + c + (dg q).getD k 0) zo (zS rfl) (dE.refl _)))))))))))
    ·simp at hk2
     have hq0:(dg q).getD k 0 = 0:=by simp [List.getD,List.getElem?_eq_none hk2]
     refine cY (bD ((dg p).getD k 0 + c) zo (zS rfl) (dE.refl _))
   ·refine ts (rm rfl (rm rfl (rm rfl (ro rfl (gD rfl U_254 U_189 (Ht rfl)) (ro rfl (gQ U_46 Z_189 (Ht rfl) (Ht rfl) rfl zo (by rw [Nat.mul_one, Nat.zero_add])) ?_)))))
    refine lY Z_189 (Ht rfl) (Ht rfl) (i:=0) rfl (by first | omega | (simp; omega)) rfl (eZ (dQ (rm rfl (ro rfl (fF (Ht rfl) (cV 32) (by decide)) (ra rfl (eZ (bC (dQ (rm rfl (ro rfl (dW (Ht rfl) (cV 1) z6) (ra rfl (eZ (fY (k + 1,out.set k (s % 4294967296),s / 4294967296) (by show Cy _ _ (out.set k (s % 4294967296)) (k + 1) (s / 4294967296); rw [hs]; exact hS.next (cA p) (cA q) hb) (by dsimp only; omega) (zS rfl) (aU (aB (fS _ _ _)) aY))))))))))))))
  ·simp at hb
   have hkl:k = (dg p).length:=Nat.le_antisymm hS.kle hb
   subst hkl
   have hlen:=hS.len; have hcl:=hS.cle
   refine gW rfl (ts (rm rfl (rm rfl (ro rfl (dK U_46 (Ht rfl) aA) (rm rfl (ro rfl (gJ U_254 U_189 (Ht rfl) (by show _ < 4294967296; first | omega | (simp only [mT]; omega))) (ro rfl (gQ U_46 Z_189 (Ht rfl) (Ht rfl) rfl zo (by rw [Nat.mul_one,Nat.zero_add])) ?_)))))))
   refine lY Z_189 (Ht rfl) (Ht rfl) (i:=0) rfl (by first | omega | (simp; omega)) rfl (eZ (cU ?_))
   have hfin:=hS.fin hle
   refine gV (i:=0) (tt:=5) rfl rfl (mS (fS _ _ _) (by simp [hlen]) (Nat.le_refl _)) ?_
   refine dQ (rm rfl (ro rfl (cJ K_267 (qE _ (lF hS.dig (by simp only [BB]; omega)) (by simp [hlen]; omega)) ⟨(Ht rfl),trivial⟩) ?_))
   refine ra rfl (eZ (fG rfl (fZ (eY rfl) ?_)))
   exact (dO (by rw [hfin,dH,dH]; exact hpq))
theorem Ik {m n:Nat} (hm:(dg m).length ≤ 17592186044416) (hnm:n ≤ m):bE Tryz.prog 270 [aH m,aH n] (aH (m - n)):=by
 have hle:=iM hnm
 refine bE.intro Tryz.func270 rfl Tryz.ntmps270 rfl (fun cx=>(ts (ro rfl (cX cW) (eZ (ts (rm rfl (ro rfl (dK U_46 (Ht rfl) aA) (rn rfl (eM (T:=cO 0) (i:=Tryz.t189) V_46 jB rfl rfl (Ht rfl) rfl (fun _=>rfl) trivial (by show 4 * _ ≤ _; omega) zo) fun B11=>(ra rfl (eZ (ts (ro rfl (cX (cV 0)) (eZ (cU (ts (ro rfl (cX (cV 0)) (eZ (eK ?_))))))))))))))))))
 refine jF (fun (k : Nat) (out : List Nat) (c : Nat) => Db (dg m) (dg n) out k c) (fun (k : Nat) (out : List Nat) (c : Nat) => (dg m).length - k) (fun (k : Nat) (out : List Nat) (c : Nat) => [(0, aH m), (1, aH n), (5, Is (.slice (some ⟨B11, 0, none⟩) (dg m).length (dg m).length)), (6, NT .u64 c), (7, NT .i64 k)]) (fun (k : Nat) (out : List Nat) (c : Nat) => [box B11 189 (out.map cO)]) 0 (List.replicate (dg m).length 0) 0 (Db.start _ _)
  (zS rfl) (aU (aB (lX _)) aY) (fun k out c hS=>?_)
 refine cU (ts (rm rfl (rm rfl (ro rfl (dK U_46 (Ht rfl) aA) (ro rfl (gZ (Ht rfl) (Ht rfl)) (eZ (dX (Ht rfl) (fun hb=>?_) (fun hb=>?_))))))))
 ·simp at hb
  have hlen:=hS.len; have hcl:=hS.cle; have hxk:=bH (cA m) k; have hyk:=bH (cA n) k
  simp only [BB] at hxk hyk
  refine cY (cU (eK (ts (rm rfl (rm rfl (ro rfl (dJ U_46 Z_189 (Ht rfl) (Ht rfl) rfl (eQ (aO zo))) (ro rfl (dV A_189 Z_189 (Ht rfl)) (ro rfl (gJ U_189 U_254 (Ht rfl) z7) (rm rfl (ro rfl (nJ rfl (Ht rfl) (Ht rfl) (by show _ ≤ 18446744073709551616; first | omega | (simp only [mT]; omega))) (ra rfl (eZ (cU (jS (fun (s:Nat)=>s = (((dg m).getD k 0 + 18446744073709551616 - c) % 18446744073709551616 + 18446744073709551616 - (dg n).getD k 0) % 18446744073709551616) (fun (s:Nat)=>[(0,aH m),(1,aH n),(5,Is (.slice (some ⟨B11,0,none⟩) (dg m).length (dg m).length)),(7,NT .i64 k),(8,NT .u64 s)]) (fun (s:Nat)=>[box B11 189 (out.map cO)]) ?_ (fun s hs=>?_)))))))))))))))
  ·refine ts (rm rfl (rm rfl (ro rfl (dK U_46 (Ht rfl) aA) (ro rfl (gZ (Ht rfl) (Ht rfl)) (eZ (dX (Ht rfl) (fun hk2 => ?_) (fun hk2 => ?_)))))))
   ·simp at hk2
    refine dQ (rm rfl (rm rfl (rm rfl (ro rfl (dJ U_46 Z_189 (Ht rfl) (Ht rfl) rfl (eQ (aO zo))) (ro rfl (dV A_189 Z_189 (Ht rfl)) (ro rfl (gJ U_189 U_254 (Ht rfl) z7) (ro rfl (nJ rfl (Ht rfl) (Ht rfl) (by show _ ≤ 18446744073709551616; first | omega | (simp only [mT]; omega))) (ra rfl (eZ (bD _ rfl (zS rfl) (dE.refl _)))))))))))
   ·simp at hk2
    have hq0:(dg n).getD k 0 = 0:=by simp [List.getD,List.getElem?_eq_none hk2]
    refine cY (bD (((dg m).getD k 0 + 18446744073709551616 - c) % 18446744073709551616) zo (zS rfl) (dE.refl _))
  ·refine ts (rm rfl (rm rfl (rm rfl (ro rfl (gD rfl U_254 U_189 (Ht rfl)) (ro rfl (gQ U_46 Z_189 (Ht rfl) (Ht rfl) rfl zo (by rw [Nat.mul_one, Nat.zero_add])) ?_)))))
   refine lY Z_189 (Ht rfl) (Ht rfl) (i:=0) rfl (by first | omega | (simp; omega)) rfl (eZ (dQ (rm rfl (ro rfl (fF (Ht rfl) (cV 63) (by decide)) (ra rfl (eZ (bC (dQ (rm rfl (ro rfl (dW (Ht rfl) (cV 1) z6) (ra rfl (eZ ?_))))))))))))
   refine fY (k + 1, out.set k (s % 4294967296), s / 9223372036854775808) (by
     show Db _ _ (out.set k (s % 4294967296)) (k + 1) (s / 9223372036854775808)
     have h1:=hS.next (cA m) (cA n) hb
     rw [← show s % 4294967296 = ((dg m).getD k 0 + 8589934592 - (dg n).getD k 0 - c) % 4294967296 by omega,← show s / 9223372036854775808 = (if (dg m).getD k 0 < (dg n).getD k 0 + c then 1 else 0) by (split <;> omega)] at h1
     exact h1) (by dsimp only; omega) (zS rfl) (aU (aB (fS _ _ _)) aY)
 ·simp at hb
  have hkl:k = (dg m).length:=Nat.le_antisymm hS.kle hb
  subst hkl
  have hlen:=hS.len
  have hfin:=hS.fin (cA m) hle (by rw [dH,dH]; exact hnm)
  rw [dH,dH] at hfin
  refine gW rfl (gV (i:=0) (tt:=5) rfl rfl (mS rfl hlen.symm (Nat.le_refl _)) (ts (rm rfl (ro rfl (cJ K_267 (qE _ hS.dig zo) ⟨(Ht rfl),trivial⟩) (ra rfl (eZ (fG rfl (fZ (eY rfl) ?_))))))))
  exact (dO hfin)
theorem wZ {m n:Nat} (hm:(dg m).length ≤ 17592186044416) (hn:(dg n).length ≤ 17592186044416):bE Tryz.prog 226 [aH m,aH n] (aH (m * n)):=by
 refine bE.intro Tryz.func226 rfl Tryz.ntmps226 rfl (fun cx=>(ts (ro rfl (cX cW) (eZ (ts (rm rfl (ro rfl (dK U_46 (Ht rfl) aA) (rm rfl (ro rfl (dK U_46 (Ht rfl) aA) (ro rfl (dW (Ht rfl) (Ht rfl) z6) (rn rfl (eM (T:=cO 0) (i:=Tryz.t189) V_46 jB rfl rfl (Ht rfl) rfl (fun _=>rfl) trivial (by show 4 * _ ≤ _; omega) zo) fun B15=>(ra rfl (eZ (cU (ts (ro rfl (cX (cV 0)) (eZ (eK ?_))))))))))))))))))
 refine gA (fun (i : Nat) (out : List Nat) => Ep (dg m) (dg n) out i) (fun (i : Nat) (out : List Nat) => (dg m).length - i) (fun (i : Nat) (out : List Nat) => [(0, aH m), (1, aH n), (5, Is (.slice (some ⟨B15, 0, none⟩) ((dg m).length + (dg n).length) ((dg m).length + (dg n).length))), (6, NT .i64 i)]) (fun (i : Nat) (out : List Nat) => [box B15 189 (out.map cO)]) 0 (List.replicate ((dg m).length + (dg n).length) 0) (Ep.start _ _)
  (zS rfl) (aU (aB (lX _)) aY) (fun i out hS=>?_)
 refine cU (ts (rm rfl (rm rfl (ro rfl (dK U_46 (Ht rfl) aA) (ro rfl (gZ (Ht rfl) (Ht rfl)) (eZ (dX (Ht rfl) (fun hb=>?_) (fun hb=>?_))))))))
 ·simp at hb
  have hxi:=bH (cA m) i
  simp only [BB] at hxi
  refine cY (cU (eK (ts (ro rfl (cX (cV 0)) (eZ (cU (ts (ro rfl (cX (cV 0)) (eZ (eK ?_))))))))))
  refine jF (fun (k : Nat) (out2 : List Nat) (c : Nat) => Mi (dg m) (dg n) out2 i k c) (fun (k : Nat) (out2 : List Nat) (c : Nat) => (dg n).length - k) (fun (k : Nat) (out2 : List Nat) (c : Nat) => [(0, aH m), (1, aH n), (5, Is (.slice (some ⟨B15, 0, none⟩) ((dg m).length + (dg n).length) ((dg m).length + (dg n).length))), (6, NT .i64 i), (7, NT .u64 c), (8, NT .i64 k)]) (fun (k : Nat) (out2 : List Nat) (c : Nat) => [box B15 189 (out2.map cO)]) 0 out 0 (hS.row hb)
   (zS rfl) (dE.refl _) (fun k out2 c hR=>?_)
  refine cU (ts (rm rfl (rm rfl (ro rfl (dK U_46 (Ht rfl) aA) (ro rfl (gZ (Ht rfl) (Ht rfl)) (eZ (dX (Ht rfl) (fun hk=>?_) (fun hk=>?_))))))))
  ·simp at hk
   have hlen:=hR.len; have hcl:=hR.clt; have hyk:=bH (cA n) k; have hok:=bH hR.dig (i + k)
   have hbnd:=xM (bH (cA m) i) (bH (cA n) k) (bH hR.dig (i + k)) hR.clt
   simp only [BB] at hcl hyk hok hbnd
   refine cY (cU (eK (cU (fJ (m:=20) (dp 0 rfl (cZ (Ht rfl)) (dp 6 rfl (cZ (Ht rfl)) (cP 28 0 29 1 rfl (dJ U_46 Z_189 (Ht rfl) (Ht rfl) rfl (eQ (aO zo))) (dq 30 2 rfl (dV A_189 Z_189 (Ht rfl)) (dq 31 3 rfl (gJ U_189 U_254 (Ht rfl) z7) (dp 1 rfl (cZ (Ht rfl)) (dp 8 rfl (cZ (Ht rfl)) (cP 33 5 34 6 rfl (dJ U_46 Z_189 (Ht rfl) (Ht rfl) rfl (eQ (aO zo))) ?_))))))))))))
   refine dq 35 7 rfl (dV A_189 Z_189 (Ht rfl)) (dq 36 8 rfl (gJ U_189 U_254 (Ht rfl) z7) (cP 32 4 37 9 rfl (mN (Ht rfl) (Ht rfl) z7) (dp 5 rfl (cZ (Ht rfl)) (dp 6 rfl (cZ (Ht rfl)) (dp 8 rfl (cZ (Ht rfl)) (cP 40 12 41 13 rfl (dW (Ht rfl) (Ht rfl) z6) (cP 39 11 42 14 rfl (gQ U_46 Z_189 (Ht rfl) (Ht rfl) rfl zo (by rw [Nat.mul_one,Nat.zero_add])) ?_)))))))
   refine dq 43 15 rfl (fQ A_189 Z_189 (Ht rfl) (i:=0) rfl (eQ (aO zo))) (dq 44 16 rfl (gJ U_189 U_254 (Ht rfl) z7) (cP 38 10 45 17 rfl (dW (Ht rfl) (Ht rfl) z7) (dp 7 rfl (cZ (Ht rfl)) (fW aL rfl (by kernel_rfl) (zF (zF (zF (zF (zF (aV ?_))))))))))
   refine ro rfl (dW (Ht rfl) (Ht rfl) z7) (ra rfl (eZ (ts (rm rfl (rm rfl (rm rfl (ro rfl (dW (Ht rfl) (Ht rfl) z6) (rm rfl (ro rfl (gD rfl U_254 U_189 (Ht rfl)) (ro rfl (gQ U_46 Z_189 (Ht rfl) (Ht rfl) rfl zo (by rw [Nat.mul_one,Nat.zero_add])) ?_))))))))))
   refine lY Z_189 (Ht rfl) (Ht rfl) (i:=0) rfl (by first | omega | (simp; omega)) rfl (eZ (dQ (rm rfl (ro rfl (fF (Ht rfl) (cV 32) (by decide)) (ra rfl (eZ (bC (dQ (rm rfl (ro rfl (dW (Ht rfl) (cV 1) z6) (ra rfl (eZ (fY (k + 1,_,_) (hR.next (cA m) (cA n) hk (Nat.add_comm _ _)) (by dsimp only; omega) (zS rfl) (aU (aB (fS _ _ _)) aY))))))))))))))
  ·simp at hk
   have hkl:k = (dg n).length:=Nat.le_antisymm hR.kle hk
   subst hkl
   have hlen:=hR.len; have hcl:=hR.clt
   simp only [BB] at hcl
   refine gW rfl (dQ (rm rfl (rm rfl (rm rfl (ro rfl (dK U_46 (Ht rfl) aA) (ro rfl (dW (Ht rfl) (Ht rfl) z6) (rm rfl (ro rfl (gJ U_254 U_189 (Ht rfl) (by show _ < 4294967296; first | omega | (simp only [mT]; omega))) (ro rfl (gQ U_46 Z_189 (Ht rfl) (Ht rfl) rfl zo (by rw [Nat.mul_one,Nat.zero_add])) ?_)))))))))
   refine lY Z_189 (Ht rfl) (Ht rfl) (i:=0) rfl (by first | omega | (simp; omega)) rfl (eZ (bC (dQ (rm rfl (ro rfl (dW (Ht rfl) (cV 1) z6) (ra rfl (eZ (fY (i + 1,_) (hR.fin) (by dsimp only; omega) (zS rfl) (aU (aB (fS _ _ _)) aY)))))))))
 ·simp at hb
  have hkl:i = (dg m).length:=Nat.le_antisymm hS.ile hb
  subst hkl
  have hlen:=hS.len
  have hfin:=hS.fin
  rw [dH,dH] at hfin
  refine gW rfl (gV (i:=0) (tt:=5) rfl rfl (mS rfl hlen.symm (Nat.le_refl _)) (ts (rm rfl (ro rfl (cJ K_267 (qE _ hS.dig zo) ⟨(Ht rfl),trivial⟩) (ra rfl (eZ (fG rfl (fZ (eY rfl) ?_))))))))
  exact (dO hfin)
theorem Mw {m y:Nat} (hm:(dg m).length ≤ 17592186044416) (hy:0 < y) (hyb:y < BB):bE Tryz.prog 281 [aH m,cO y] (eS [aH (m / y),cO (m % y)]):=by
 refine bE.intro Tryz.func281 rfl Tryz.ntmps281 rfl (fun cx=>?_)
 have hyb2:=hyb
 simp only [BB] at hyb2
 refine ts (ro rfl (cX cW) (ro rfl (cX (cV 0)) (eZ (ts (rm rfl (ro rfl (dK U_46 (Ht rfl) aA) (rn rfl (eM (T:=cO 0) (i:=Tryz.t189) V_46 jB rfl rfl (Ht rfl) rfl (fun _=>rfl) trivial (by show 4 * _ ≤ _; omega) zo) fun B12=>(ra rfl (eZ (ts (ro rfl (cX (cV 0)) (eZ (cU (ts (rm rfl (ro rfl (dK U_46 (Ht rfl) aA) (ro rfl (iY (Ht rfl) cW (Ej zo)) (ra rfl (eZ (eK ?_))))))))))))))))))))
 refine jF (fun (k : Nat) (out : List Nat) (r : Nat) => qZ (dg m) y out k r) (fun (k : Nat) (out : List Nat) (r : Nat) => k) (fun (k : Nat) (out : List Nat) (r : Nat) => [(0, aH m), (1, cO y), (6, Is (.slice (some ⟨B12, 0, none⟩) (dg m).length (dg m).length)), (7, NT .u64 r), (8, aT .i64 ((k : Int) - 1))]) (fun (k : Nat) (out : List Nat) (r : Nat) => [box B12 189 (out.map cO)]) (dg m).length (List.replicate (dg m).length 0) 0 (qZ.start _ hy)
  (zS rfl) (aU (aB (lX _)) aY) (fun k out r hS=>?_)
 refine cU (ts (rm rfl (ro rfl (mV (Ht rfl) cW) (eZ (dX (Ht rfl) (fun hb=>?_) (fun hb=>?_))))))
 ·simp at hb
  have hlen:=hS.len; have hkl:=hS.kle; have hrl:=hS.rlt; have hxk:=bH (cA m) (k - 1)
  have hz2:=a2i (Nat.lt_trans hrl hyb) hxk; have hsh:=Pt (Nat.lt_trans hrl hyb); have hq:=Jq hrl hxk; have hor:=zA (a:=r) hxk; have hmod:=Nat.mod_lt (r * BB + (dg m).getD (k - 1) 0) hy
  have hxk2:=hxk
  simp only [BB] at hxk2
  refine cY (cU (eK (ts (rm rfl (ro rfl (pK (Ht rfl) (cV 32) (by decide) hsh) (rm rfl (rm rfl (ro rfl (dJ U_46 Z_189 (Ht rfl) (Ht rfl) (show ((k:Int) - 1) = ((k - 1:Nat):Int) by omega) (eQ (aO zo))) (ro rfl (dV A_189 Z_189 (Ht rfl)) (ro rfl (gJ U_189 U_254 (Ht rfl) z7) (ro rfl (aM.nat (rK rfl (Ht rfl) (Ht rfl) z7 z7) hor) ?_)))))))))))
  refine ra rfl (eZ (ts (rm rfl (rm rfl (rm rfl (rm rfl (ro rfl (gJ U_189 U_254 (Ht rfl) z7) (ro rfl (kL (Ht rfl) (Ht rfl) zo (by show _ < 18446744073709551616; exact hz2)) (ro rfl (gJ U_254 U_189 (Ht rfl) (by show _ < 4294967296; exact hq)) (ro rfl (gQ U_46 Z_189 (Ht rfl) (Ht rfl) (show ((k:Int) - 1) = ((k - 1:Nat):Int) by omega) zo (by rw [Nat.mul_one,Nat.zero_add])) ?_))))))))))
  refine lY Z_189 (Ht rfl) (Ht rfl) (i:=0) rfl (by first | omega | (simp; omega)) rfl (eZ (dQ (rm rfl (rm rfl (ro rfl (gJ U_189 U_254 (Ht rfl) z7) (ro rfl (pJ (Ht rfl) (Ht rfl) zo) (ra rfl (eZ (bC (dQ (rm rfl (ro rfl (iY (Ht rfl) cW (Ej zo)) (ra rfl (eZ (fY (k - 1,_,_) (hS.next (cA m) zo rfl) (by dsimp only; omega) (aQ rfl (aQ rfl (aQ rfl (aQ rfl (aZ rfl (aS zo) aX))))) (aU (aB (fS _ _ _)) aY))))))))))))))))
 ·simp at hb
  have hk0:k = 0:=by omega
  subst hk0
  have hlen:=hS.len; have hrl:=hS.rlt
  have hfin:=hS.fin
  rw [dH] at hfin
  refine gW rfl (gV (i:=0) (tt:=6) rfl rfl (mS rfl hlen.symm (Nat.le_refl _)) (ts (rm rfl (ro rfl (cJ K_267 (qE _ hS.dig zo) ⟨(Ht rfl),trivial⟩) (rm rfl (ro rfl (gJ U_254 U_189 (Ht rfl) (by show _ < 4294967296; first | omega | (simp only [mT]; omega))) (ra rfl (ra rfl (eZ (bM rfl (fZ (eY rfl) ?_) (fZ (eY rfl) ?_)))))))))))
  ·exact (dO hfin.1)
  ·exact (lO hfin.2)
end
section
open Go Go.RowKit
theorem a2R {m:Nat} (hm:(dg m).length ≤ 17592186044416) (h0:m ≠ 0):bE Tryz.prog 282 [aH m] (NT .i64 (32 * ((dg m).length - 1) + bl ((dg m).getD ((dg m).length - 1) 0))):=by
 have hl:(dg m).length ≠ 0:=fun e=>h0 (aR.1 e)
 have htl:=bH (cA m) ((dg m).length - 1)
 obtain ⟨v,hv⟩:∃ v,v = (dg m).getD ((dg m).length - 1) 0:=⟨_,rfl⟩
 rw [← hv] at htl ⊢
 simp only [BB] at htl
 have hb32:=pN (k:=32) htl
 refine bE.intro Tryz.func282 rfl Tryz.ntmps282 rfl (fun cx=>(ts (ro rfl (cX (cV 0)) (eZ (cU (ts (rm rfl (ro rfl (dK U_46 (Ht rfl) aA) (ro rfl (cT (Ht rfl) (cV 0)) (eZ (iA (Ht rfl) (by simpa using hl) ?_)))))))))))
 refine cY (ts (ro rfl (cX (cV 0)) (eZ (cU (ts (rm rfl (rm rfl (ro rfl (dK U_46 (Ht rfl) aA) (ro rfl (dG (Ht rfl) (cV 1) zo z6) (ro rfl (dJ U_46 Z_189 (Ht rfl) (Ht rfl) rfl (eQ (aO zo))) (ro rfl (dV A_189 Z_189 (Ht rfl)) (ra rfl (eZ (eK ?_))))))))))))))
 refine gA (fun (x : Nat) (q : Nat) => bl v = q + bl x ∧ x < 4294967296) (fun (x : Nat) (q : Nat) => x) (fun (x : Nat) (q : Nat) => [(0, aH m), (3, NT .i64 q), (4, cO x)]) (fun (x : Nat) (q : Nat) => []) v 0 ⟨(Nat.zero_add _).symm, htl⟩
  (aQ rfl (aQ rfl (aZ rfl (lO hv.symm) aX))) aY (fun x q ⟨hq,hx⟩=>?_)
 refine cU (ts (rm rfl (ro rfl (eH (Ht rfl) (cV 0)) (eZ (dX (Ht rfl) (fun hb=>?_) (fun hb=>?_))))))
 ·simp at hb
  have hsh:=a2A (v:=x) zo
  refine cY (cU (eK (dQ (rm rfl (ro rfl (dW (Ht rfl) (cV 1) z6) (ra rfl (eZ (bC (dQ (rm rfl (ro rfl (fF (Ht rfl) (cV 1) (by decide)) (ra rfl (eZ (fY (x / 2 ^ 1,q + 1) ⟨by dsimp only; omega,by dsimp only; omega⟩ (by dsimp only; omega) (zS rfl) aY))))))))))))))
 ·simp at hb
  subst hb
  rw [a2B] at hq
  refine gW rfl (ts (rm rfl (ro rfl (dK U_46 (Ht rfl) aA) (ro rfl (dG (Ht rfl) (cV 1) zo z6) (ro rfl (mN (cV 32) (Ht rfl) z6) (rm rfl (ro rfl (dW (Ht rfl) (Ht rfl) z6) (ra rfl (eZ (fG rfl (fZ (eY rfl) ?_)))))))))))
  exact (lO zo)
theorem a0y {m k:Nat} (hm:(dg m).length ≤ 17592186044416) (hk:k ≤ 562949953421312):bE Tryz.prog 283 [aH m,NT .i64 k] (aH (m * 2 ^ k)):=by
 refine bE.intro Tryz.func283 rfl Tryz.ntmps283 rfl (fun cx=>(ts (ro rfl (cX cW) (eZ (cU (ts (rm rfl (ro rfl (dK U_46 (Ht rfl) aA) (ro rfl (cT (Ht rfl) (cV 0)) (eZ (dX (Ht rfl) (fun hb=>?_) (fun hb=>?_))))))))))))
 ·simp [aR] at hb
  have h0:m * 2 ^ k = 0:=by simp_all [sT]
  refine ts (ro rfl (cX cW) (eZ (fG rfl (fZ (eY rfl) ?_))))
  exact (fun v V h=>by rw [h0]; exact lN v V h)
 ·clear hb
  have hr:=Nat.mod_lt k (by decide:32 > 0)
  refine cY (ts (rm rfl (ro rfl (dK U_46 (Ht rfl) aA) (rm rfl (ro rfl (kL (Ht rfl) (cV 32) zo z6) (ro rfl (dW (Ht rfl) (Ht rfl) z6) (ro rfl (dW (Ht rfl) (cV 1) z6) (rn rfl (eM (T:=cO 0) (i:=Tryz.t189) V_46 jB rfl rfl (Ht rfl) rfl (fun _=>rfl) trivial (by show 4 * _ ≤ _; omega) zo) fun B17=>?_))))))))
  refine ra rfl (eZ (cU (ts (ro rfl (cX (cV 0)) (eZ (eK ?_))))))
  refine gA (fun (i : Nat) (out : List Nat) => Eu (dg m) (k / 32) (k % 32) out i) (fun (i : Nat) (out : List Nat) => (dg m).length - i) (fun (i : Nat) (out : List Nat) => [(0, aH m), (1, NT .i64 k), (5, Is (.slice (some ⟨B17, 0, none⟩) ((dg m).length + k / 32 + 1) ((dg m).length + k / 32 + 1))), (6, NT .i64 i)]) (fun (i : Nat) (out : List Nat) => [box B17 189 (out.map cO)]) 0 (List.replicate ((dg m).length + k / 32 + 1) 0) (Eu.start _ _ _)
   (zS rfl) (aU (aB (lX _)) aY) (fun i out hS=>?_)
  refine cU (ts (rm rfl (rm rfl (ro rfl (dK U_46 (Ht rfl) aA) (ro rfl (gZ (Ht rfl) (Ht rfl)) (eZ (dX (Ht rfl) (fun hb=>?_) (fun hb=>?_))))))))
  ·simp at hb
   have hlen:=hS.len; have hxi:=bH (cA m) i; have hok:=bH hS.dig (i + k / 32)
   have hv:=Jp hxi hr
   have hd:(dg m).getD i 0 * 2 ^ (k % 32) / 2 ^ 32 < 4294967296:=Nat.div_lt_of_lt_mul hv
   simp only [BB] at hxi hok
   refine cY (cU (eK (ts (rm rfl (rm rfl (ro rfl (dJ U_46 Z_189 (Ht rfl) (Ht rfl) rfl (eQ (aO zo))) (ro rfl (dV A_189 Z_189 (Ht rfl)) (ro rfl (gJ U_189 U_254 (Ht rfl) z7) (rm rfl (ro rfl (pJ (Ht rfl) (cV 32) zo) (ro rfl (gJ U_3 U_255 (Ht rfl) z7) (ro rfl (pK (Ht rfl) (Ht rfl) (by show _ ≤ _; simp [IntKind.bits]; omega) (by show _ < 18446744073709551616; exact hv)) ?_))))))))))))
   refine ra rfl (eZ (ts (rm rfl (rm rfl (rm rfl (ro rfl (kL (Ht rfl) (cV 32) zo z6) (ro rfl (dW (Ht rfl) (Ht rfl) z6) (rm rfl (rm rfl (rm rfl (ro rfl (kL (Ht rfl) (cV 32) zo z6) (ro rfl (dW (Ht rfl) (Ht rfl) z6) (ro rfl (gQ U_46 Z_189 (Ht rfl) (Ht rfl) rfl zo (by rw [Nat.mul_one,Nat.zero_add])) ?_)))))))))))))
   refine ro rfl (fQ A_189 Z_189 (Ht rfl) (i:=0) rfl (eQ (aO zo))) (rm rfl (ro rfl (gD rfl U_254 U_189 (Ht rfl)) (ro rfl (rK rfl (Ht rfl) (Ht rfl) (by show _ < 4294967296; omega) (by show _ % 4294967296 < 4294967296; omega)) (ro rfl (gQ U_46 Z_189 (Ht rfl) (Ht rfl) rfl zo (by rw [Nat.mul_one,Nat.zero_add])) ?_))))
   refine lY Z_189 (Ht rfl) (Ht rfl) (i:=0) rfl (by first | omega | (simp; omega)) rfl (eZ (dQ (rm rfl (rm rfl (rm rfl (ro rfl (kL (Ht rfl) (cV 32) zo z6) (ro rfl (dW (Ht rfl) (Ht rfl) z6) (ro rfl (dW (Ht rfl) (cV 1) z6) (rm rfl (ro rfl (fF (Ht rfl) (cV 32) (by decide)) (ro rfl (gJ U_254 U_189 (Ht rfl) (by show _ < 4294967296; exact hd)) ?_)))))))))))
   refine ro rfl (gQ U_46 Z_189 (Ht rfl) (Ht rfl) rfl zo (by rw [Nat.mul_one,Nat.zero_add])) ?_
   refine lY Z_189 (Ht rfl) (Ht rfl) (i:=0) rfl (by first | omega | (simp; omega)) rfl (eZ (bC (dQ (rm rfl (ro rfl (dW (Ht rfl) (cV 1) z6) (ra rfl (eZ (fY (i + 1,_) (hS.next (cA m) hr hb rfl rfl) (by dsimp only; omega) (zS rfl) (aU (aB (Pq _ _ _ _ _)) aY)))))))))
  ·simp at hb
   have hkl:i = (dg m).length:=Nat.le_antisymm hS.kle hb
   subst hkl
   have hlen:=hS.len
   have hfin:=hS.fin
   rw [dH,nW] at hfin
   refine gW rfl (gV (i:=0) (tt:=5) rfl rfl (mS rfl hlen.symm (Nat.le_refl _)) (ts (rm rfl (ro rfl (cJ K_267 (qE _ hS.dig zo) ⟨(Ht rfl),trivial⟩) (ra rfl (eZ (fG rfl (fZ (eY rfl) ?_))))))))
   exact (dO hfin)
theorem a5O {m k:Nat} (hm:(dg m).length ≤ 17592186044416) (hk:k ≤ 562949953421312):bE Tryz.prog 284 [aH m,NT .i64 k] (aH (m / 2 ^ k)):=by
 refine bE.intro Tryz.func284 rfl Tryz.ntmps284 rfl (fun cx=>?_)
 have hr:=Nat.mod_lt k (by decide:32 > 0)
 refine ts (ro rfl (cX cW) (eZ (cU (ts (rm rfl (ro rfl (kL (Ht rfl) (cV 32) zo z6) (rm rfl (ro rfl (dK U_46 (Ht rfl) aA) (ro rfl (sE (Ht rfl) (Ht rfl)) (eZ (dX (Ht rfl) (fun hb=>?_) (fun hb=>?_))))))))))))
 ·simp at hb
  have h0:=Pv (cA m) hb (r:=k % 32)
  rw [dH,nW] at h0
  refine ts (ro rfl (cX cW) (eZ (fG rfl (fZ (eY rfl) ?_))))
  exact (fun v V h=>dO h0.symm v V (lN v V h))
 ·simp at hb
  refine cY (ts (rm rfl (ro rfl (dK U_46 (Ht rfl) aA) (rm rfl (ro rfl (kL (Ht rfl) (cV 32) zo z6) (ro rfl (dG (Ht rfl) (Ht rfl) zo z6) (rn rfl (eM (T:=cO 0) (i:=Tryz.t189) V_46 jB rfl rfl (Ht rfl) rfl (fun _=>rfl) trivial (by show 4 * _ ≤ _; omega) zo) fun B18=>(ra rfl (eZ (cU (ts (ro rfl (cX (cV 0)) (eZ (eK ?_))))))))))))))
  refine gA (fun (i : Nat) (out : List Nat) => Ev (dg m) (k / 32) (k % 32) out i) (fun (i : Nat) (out : List Nat) => (dg m).length - i) (fun (i : Nat) (out : List Nat) => [(0, aH m), (1, NT .i64 k), (5, Is (.slice (some ⟨B18, 0, none⟩) ((dg m).length - k / 32) ((dg m).length - k / 32))), (6, NT .i64 i)]) (fun (i : Nat) (out : List Nat) => [box B18 189 (out.map cO)]) 0 (List.replicate ((dg m).length - k / 32) 0) (Ev.start _ _ _)
   (zS rfl) (aU (aB (lX _)) aY) (fun i out hS=>?_)
  refine cU (ts (rm rfl (rm rfl (ro rfl (iD U_46 (Ht rfl)) (ro rfl (gZ (Ht rfl) (Ht rfl)) (eZ (dX (Ht rfl) (fun hb=>?_) (fun hb=>?_))))))))
  ·simp at hb
   have hlen:=hS.len; have hx0:=bH (cA m) (i + k / 32); have hx1:=bH (cA m) (i + k / 32 + 1)
   have hio:i < out.length:=by omega
   simp only [BB] at hx0 hx1
   refine cY (cU (eK (ts (rm rfl (rm rfl (rm rfl (ro rfl (kL (Ht rfl) (cV 32) zo z6) (ro rfl (dW (Ht rfl) (Ht rfl) z6) (ro rfl (dJ U_46 Z_189 (Ht rfl) (Ht rfl) rfl (eQ (aO zo))) (ro rfl (dV A_189 Z_189 (Ht rfl)) (ro rfl (gJ U_189 U_254 (Ht rfl) z7) ?_)))))))))))
   refine ra rfl (eZ (cU (jS (fun (v:Nat)=>v = (dg m).getD (i + k / 32) 0 + BB * (dg m).getD (i + k / 32 + 1) 0) (fun (v:Nat)=>[(0,aH m),(1,NT .i64 k),(5,Is (.slice (some ⟨B18,0,none⟩) ((dg m).length - k / 32) ((dg m).length - k / 32))),(6,NT .i64 i),(7,NT .u64 v)]) (fun (v:Nat)=>[box B18 189 (out.map cO)]) ?_ (fun v hv=>?_))))
   ·refine ts (rm rfl (rm rfl (ro rfl (kL (Ht rfl) (cV 32) zo z6) (ro rfl (dW (Ht rfl) (Ht rfl) z6) (ro rfl (dW (Ht rfl) (cV 1) z6) (rm rfl (ro rfl (dK U_46 (Ht rfl) aA) (ro rfl (gZ (Ht rfl) (Ht rfl)) (eZ (dX (Ht rfl) (fun hk2 => ?_) (fun hk2 => ?_)))))))))))
    ·simp at hk2
     refine dQ (rm rfl (rm rfl (rm rfl (rm rfl (ro rfl (kL (Ht rfl) (cV 32) zo z6) (ro rfl (dW (Ht rfl) (Ht rfl) z6) (ro rfl (dW (Ht rfl) (cV 1) z6) (ro rfl (dJ U_46 Z_189 (Ht rfl) (Ht rfl) rfl (eQ (aO zo))) (ro rfl (dV A_189 Z_189 (Ht rfl)) (ro rfl (gJ U_189 U_254 (Ht rfl) z7) ?_))))))))))
     refine ro rfl (pK (Ht rfl) (cV 32) (by decide) (by show _ < 18446744073709551616; omega)) (ro rfl (aM.nat (rK rfl (Ht rfl) (Ht rfl) z7 z7) (Wb hx0)) (ra rfl (eZ (bD ((dg m).getD (i + k / 32) 0 + BB * (dg m).getD (i + k / 32 + 1) 0) rfl (zS rfl) (dE.refl _)))))
    ·simp at hk2
     refine cY (bD ((dg m).getD (i + k / 32) 0) (by simp [List.getD,List.getElem?_eq_none hk2]) (zS rfl) (dE.refl _))
   ·refine dQ (rm rfl (rm rfl (rm rfl (rm rfl (ro rfl (pJ (Ht rfl) (cV 32) zo) (ro rfl (gJ U_3 U_255 (Ht rfl) z7) (ro rfl (fF (Ht rfl) (Ht rfl) (by show _ ≤ 64; omega)) (ro rfl (gD rfl U_254 U_189 (Ht rfl)) (ro rfl (gQ U_46 Z_189 (Ht rfl) (Ht rfl) rfl zo (by rw [Nat.mul_one, Nat.zero_add])) ?_)))))))))
    refine lY Z_189 (Ht rfl) (Ht rfl) (i:=0) rfl (by first | omega | (simp; omega)) rfl (eZ (bC (dQ (rm rfl (ro rfl (dW (Ht rfl) (cV 1) z6) (ra rfl (eZ (fY (i + 1,_) (hS.next (cA m) hr hio (by rw [hv]; rfl)) (by dsimp only; omega) (zS rfl) (aU (aB (fS _ _ _)) aY)))))))))
  ·simp at hb
   have hlen:=hS.len
   have hkl:i = out.length:=Nat.le_antisymm hS.kle zo
   subst hkl
   have hfin:=hS.fin (cA m) zo
   rw [dH,nW] at hfin
   refine gW rfl (gV (i:=0) (tt:=5) rfl rfl (mS rfl hlen.symm (Nat.le_refl _)) (ts (rm rfl (ro rfl (cJ K_267 (qE _ hS.dig zo) ⟨(Ht rfl),trivial⟩) (ra rfl (eZ (fG rfl (fZ (eY rfl) ?_))))))))
   exact (dO hfin)
theorem Bl {m n:Nat} (hm:(dg m).length ≤ 17592186044415) (hn1:(dg n).length ≤ 17592186044416) (hn:n ≠ 0):bE Tryz.prog 265 [aH m,aH n] (eS [aH (m / n),aH (m % n)]):=by
 refine bE.intro Tryz.func265 rfl Tryz.ntmps265 rfl (fun cx=>(ts (ro rfl (cX cW) (ro rfl (cX cW) (eZ (cU (ts (rm rfl (rm rfl (ro rfl (cJ Tryz.call237 (Ij zo zo) ⟨(Ht rfl),(Ht rfl),trivial⟩) (ro rfl (tX (Ht rfl) cW) (eZ (dX (Ht rfl) (fun hb=>?_) (fun hb=>?_))))))))))))))
 ·simp only [decide_eq_true_eq] at hb
  have hlt:m < n:=Kr hb
  refine ts (rm rfl (ro rfl (cX cW) (ra rfl (eZ (bM rfl (fZ (eY rfl) ?_) (fZ (eY rfl) ?_))))))
  ·exact (fun v V h=>dO (Nat.div_eq_of_lt hlt).symm v V (lN v V h))
  ·exact (dO (Nat.mod_eq_of_lt hlt).symm)
 ·simp only [decide_eq_false_iff_not] at hb
  have hle:n ≤ m:=Kq zo
  clear hb
  refine cY (cU (ts (rm rfl (ro rfl (dK U_46 (Ht rfl) aA) (ro rfl (cT (Ht rfl) (cV 1)) (eZ (dX (Ht rfl) (fun h1=>?_) (fun h1=>?_))))))))
  ·simp at h1
   have hy0:=a0L h1
   have hyb:=bH (cA n) 0
   have hmod:=Nat.mod_lt m (show (dg n).getD 0 0 > 0 by omega)
   have hyb2:=hyb
   simp only [BB] at hyb
   refine ts (rm rfl (rm rfl (ro rfl (dJ U_46 Z_189 (Ht rfl) (cV 0) rfl (eQ (aO zo))) (ro rfl (dV A_189 Z_189 (Ht rfl)) (ro rfl (cJ Tryz.call281 (Mw zo zo hyb2) ⟨(Ht rfl),(Ht rfl),trivial⟩) (rm rfl (ro rfl (dU (Ht rfl) rfl) (ro rfl (dU (Ht rfl) rfl) (ra rfl (ra rfl (eZ (ts (rm rfl (rm rfl (ro rfl (gJ U_189 U_254 (Ht rfl) z7) (ro rfl (cJ Tryz.call268 (Fd zo) ⟨(Ht rfl),trivial⟩) ?_))))))))))))))))
   refine ra rfl (ra rfl (eZ (bM rfl (fZ (eY rfl) ?_) (fZ (eY rfl) ?_))))
   ·exact (dO (by rw [hy0]))
   ·exact (dO (by rw [hy0]))
  ·simp at h1
   have hl0:(dg n).length ≠ 0:=fun e=>hn (aR.1 e)
   have hyb:=bH (cA n) ((dg n).length - 1)
   obtain ⟨s,hs⟩:∃ s,s = 32 - bl ((dg n).getD ((dg n).length - 1) 0):=⟨_,rfl⟩
   obtain ⟨hs1,hvl,hvb⟩:=Nk hn hs
   obtain ⟨hc1,hc2,hc3,hc4⟩:=Ng (m:=m) hs1
   have hbl:=pN (k:=32) hyb
   simp only [BB] at hyb
   have hp2:0 < 2 ^ s:=Nat.pow_pos (by decide)
   have hX0:(dg (m * 2 ^ s)).length ≠ 0:=fun e=>(Nat.ne_of_gt (Nat.mul_pos (show 0 < m by omega) hp2)) (aR.1 e)
   have hmono:=iM hle
   refine cY (ts (rm rfl (ro rfl (dK U_46 (Ht rfl) aA) (ro rfl (mN (cV 32) (Ht rfl) z6) (rm rfl (ro rfl (cJ Tryz.call282 (a2R zo hn) ⟨(Ht rfl),trivial⟩) (ro rfl (aM.nat (dG (Ht rfl) (Ht rfl) zo z6) (show 32 * (dg n).length - (32 * ((dg n).length - 1) + bl ((dg n).getD ((dg n).length - 1) 0)) = s by omega)) (ra rfl (eZ (ts (rm rfl (rm rfl (ro rfl (cJ Tryz.call283 (a0y zo zo) ⟨(Ht rfl),(Ht rfl),trivial⟩) ?_)))))))))))))
   refine ra rfl (eZ (ts (rm rfl (ro rfl (dK U_46 (Ht rfl) aA) (ro rfl (dW (Ht rfl) (cV 1) z6) (rn rfl (eM (T:=cO 0) (i:=Tryz.t189) V_46 jB rfl rfl (Ht rfl) rfl (fun _=>rfl) trivial (by show 4 * _ ≤ _; omega) zo) fun B57=>(ra rfl (eZ (ts (rm rfl (rm rfl (rm rfl (ro rfl (cJ Tryz.call283 (a0y zo zo) ⟨(Ht rfl),(Ht rfl),trivial⟩) (Tf U_46 Z_189 (Ht rfl) (Ht rfl) (a1m hX0) a59 (i:=0) rfl (by simp) (by simp; omega) (Nh _ _) rfl rfl ?_))))))))))))))
   refine eZ (cU ?_)
   obtain ⟨vs,hvs⟩:∃ vs,vs = dg (n * 2 ^ s):=⟨_,rfl⟩
   rw [← hvs] at hvl hvb
   have hv:lV vs:=hvs ▸ cA _
   have hvv:val vs = n * 2 ^ s:=by rw [hvs,dH]
   have hV0:0 < val vs:=by rw [hvv]; exact Nat.mul_pos zo hp2
   have hnr:=Vp hv zo hvb
   have hv1:=hnr.v1lt; have hv2:=hnr.v2lt; have hbig:=hnr.big
   simp only [BB] at hv1 hv2 hbig
   refine qC (E':=[(8,_),(9,_),(10,_)]) (aQ rfl (aZ rfl (a5V hvs.symm) (zS rfl))) (dQ (rm rfl (ro rfl (dK U_46 (Ht rfl) aA) (ra rfl (eZ (ts (rm rfl (ro rfl (iD U_46 (Ht rfl)) (rm rfl (ro rfl (dG (Ht rfl) (Ht rfl) zo z6) (rn rfl (eM (T:=cO 0) (i:=Tryz.t189) V_46 jB rfl rfl (Ht rfl) rfl (fun _=>rfl) trivial (by show 4 * _ ≤ _; omega) zo) fun B69=>(ra rfl (eZ (cU ?_))))))))))))))
   refine ts (rm rfl (ro rfl (iD U_46 (Ht rfl)) (ro rfl (iY (Ht rfl) cW (Ej zo)) (ra rfl (eZ (eK ?_))))))
   refine jF (fun (k : Nat) (us : List Nat) (qs : List Nat) => pX (m * 2 ^ s) vs us qs k ∧ us.length = (dg m).length + 1) (fun (k : Nat) (us : List Nat) (qs : List Nat) => k) (fun (k : Nat) (us : List Nat) (qs : List Nat) => [(8, NT .i64 s), (9, yP vs), (10, Is (.slice (some ⟨B57, 0, none⟩) ((dg m).length + 1) ((dg m).length + 1))), (11, NT .i64 vs.length), (12, Is (.slice (some ⟨B69, 0, none⟩) ((dg m).length + 1 - vs.length) ((dg m).length + 1 - vs.length))), (13, aT .i64 ((k : Int) - 1))]) (fun (k : Nat) (us : List Nat) (qs : List Nat) => [box B57 189 (us.map cO), box B69 189 (qs.map cO)]) ((dg m).length + 1 - vs.length) (Fj m s) (List.replicate ((dg m).length + 1 - vs.length) 0) ⟨pX.start hv zo hvb hs1 (by have := kA (cA m); rwa [dH] at this) hc3 hc2 hc4 zo, hc2⟩
    (aQ rfl (aQ rfl (aQ rfl (aQ rfl (aQ rfl (aZ rfl (aS zo) aX)))))) (aU (fun _ _ _ h=>h) (aU (aB (lX _)) aY)) (fun k us qs ⟨hS,hus⟩=>?_)
   refine cU (ts (rm rfl (ro rfl (mV (Ht rfl) cW) (eZ (dX (Ht rfl) (fun hk=>?_) (fun hk=>?_))))))
   ·simp at hk
    obtain ⟨j,rfl⟩:∃ j,k = j + 1:=⟨k - 1,by omega⟩
    have htp:=hS.top hv zo (Nat.succ_pos j) rfl
    have hkq:=hS.kle; have hlq:=hS.lenq
    rw [Nat.add_sub_cancel] at htp
    have hu0:=bH hS.dig (j + vs.length); have hu1:=bH hS.dig (j + vs.length - 1); have hu2:=bH hS.dig (j + vs.length - 2)
    have ht64:=a2i hu0 hu1; have hsh:=Pt hu0
    obtain ⟨top,htop⟩:∃ top,top = us.getD (j + vs.length) 0 * BB + us.getD (j + vs.length - 1) 0:=⟨_,rfl⟩
    have hor:=(zA (a:=us.getD (j + vs.length) 0) hu1).trans htop.symm
    rw [← htop] at htp ht64
    have hu2b:=hu2
    simp only [BB] at hu0 hu1 hu2
    refine qC (E':=[(8,_),(9,_),(10,_),(11,_),(12,_),(13,_),(73,_),(74,_)]) (aQ rfl (aQ rfl (aQ rfl (aQ rfl (aQ rfl (aZ rfl (aS (show ((j + 1:Nat):Int) - 1 = (j:Int) by omega)) (zS rfl))))))) (cY (cU (eK (cU (fJ (m:=16) (dp 10 rfl (cZ (Ht rfl)) (dp 13 rfl (cZ (Ht rfl)) (dp 11 rfl (cZ (Ht rfl)) (cP 78 1 79 2 rfl (dW (Ht rfl) (Ht rfl) z6) (cP 77 0 80 3 rfl (gQ U_46 Z_189 (Ht rfl) (Ht rfl) rfl zo (by rw [Nat.mul_one,Nat.zero_add])) ?_))))))))))
    refine dq 81 4 rfl (fQ A_189 Z_189 (Ht rfl) (i:=0) rfl (eQ (aO zo))) (dq 82 5 rfl (gJ U_189 U_254 (Ht rfl) z7) (dq 83 6 rfl (pK (Ht rfl) (cV 32) (by decide) hsh) (dp 10 rfl (cZ (Ht rfl)) (dp 13 rfl (cZ (Ht rfl)) (dp 11 rfl (cZ (Ht rfl)) (cP 86 9 87 10 rfl (dW (Ht rfl) (Ht rfl) z6) (dq 88 11 rfl (dG (Ht rfl) (cV 1) zo z6) ?_)))))))
    refine cP 85 8 89 12 rfl (gQ U_46 Z_189 (Ht rfl) (Ht rfl) rfl zo (by rw [Nat.mul_one,Nat.zero_add])) ?_
    refine dq 90 13 rfl (fQ A_189 Z_189 (Ht rfl) (i:=0) rfl (eQ (aO zo))) (dq 91 14 rfl (gJ U_189 U_254 (Ht rfl) z7) (fW aL rfl (by kernel_rfl) (zF (zF (zF (zF (aV (ro rfl (aM.nat (rK rfl (Ht rfl) (Ht rfl) z7 z7) hor) ?_))))))))
    refine ra rfl (eZ (ts (rm rfl (rm rfl (rm rfl (ro rfl (dG (Ht rfl) (cV 1) zo z6) (ro rfl (dJ U_46 Z_189 (Ht rfl) (Ht rfl) rfl (eQ (aO zo))) (ro rfl (dV A_189 Z_189 (Ht rfl)) (ro rfl (gJ U_189 U_254 (Ht rfl) z7) (ro rfl (kL (Ht rfl) (Ht rfl) zo (by show _ < 18446744073709551616; exact ht64)) (ra rfl (eZ ?_))))))))))))
    refine ts (rm rfl (rm rfl (rm rfl (ro rfl (dG (Ht rfl) (cV 1) zo z6) (ro rfl (dJ U_46 Z_189 (Ht rfl) (Ht rfl) rfl (eQ (aO zo))) (ro rfl (dV A_189 Z_189 (Ht rfl)) (ro rfl (gJ U_189 U_254 (Ht rfl) z7) (ro rfl (pJ (Ht rfl) (Ht rfl) zo) (ra rfl (eZ (cU (jS (fun (g:Nat)=>Ql (val (us.drop j)) (val vs) g) (fun (g:Nat)=>[(8,NT .i64 s),(9,yP vs),(10,Is (.slice (some ⟨B57,0,none⟩) ((dg m).length + 1) ((dg m).length + 1))),(11,NT .i64 vs.length),(12,Is (.slice (some ⟨B69,0,none⟩) ((dg m).length + 1 - vs.length) ((dg m).length + 1 - vs.length))),(13,NT .i64 j),(15,NT .u64 g)]) (fun (g:Nat)=>[box B57 189 (us.map cO),box B69 189 (qs.map cO)]) ?_ (fun g hg=>?_)))))))))))))
    ·refine eK ?_
     refine gA (fun (g : Nat) (r : Nat) => nL (val (us.drop j)) (val vs) (vs.getD (vs.length - 1) 0) top g r ∧ r < 4294967296) (fun (g : Nat) (r : Nat) => g) (fun (g : Nat) (r : Nat) => [(8, NT .i64 s), (9, yP vs), (10, Is (.slice (some ⟨B57, 0, none⟩) ((dg m).length + 1) ((dg m).length + 1))), (11, NT .i64 vs.length), (12, Is (.slice (some ⟨B69, 0, none⟩) ((dg m).length + 1 - vs.length) ((dg m).length + 1 - vs.length))), (13, NT .i64 j), (15, NT .u64 g), (16, NT .u64 r)]) (fun (g : Nat) (r : Nat) => [box B57 189 (us.map cO), box B69 189 (qs.map cO)]) (top / vs.getD (vs.length - 1) 0) (top % vs.getD (vs.length - 1) 0) ⟨nL.start hnr htp, Nat.lt_trans (Nat.mod_lt _ zo) hv1⟩
      (zS rfl) (dE.refl _) (fun g r ⟨hG,hr⟩=>?_)
     have hgl:=(hG.glt hnr htp).1
     have hrs:=Pt (a:=r) hr
     have horr:=zA (a:=r) hu2b
     simp only [BB] at hgl
     refine cU (cU (fJ (m:=22) (dp 15 rfl (cZ (Ht rfl)) (dq 110 0 rfl (sE (Ht rfl) (cV 4294967296)) (dq 111 1 rfl (cZ (Ht rfl)) (C.D_step (Ei:=[(15,_),(112,_)]) rfl rfl (bV (bK rfl rfl) (bV (bG 2 rfl rfl) bW)) (eU rfl rfl (Ht rfl) (fun h=>cZ (Ht rfl))) (C.D_step (Ei:=[(9,_),(112,_)]) rfl rfl (bV (bK rfl rfl) (bV (bG 2 rfl rfl) bW)) (eU rfl rfl (Ht rfl) (fun h=>cZ (Ht rfl))) (C.D_step (Ei:=[(11,_),(112,_)]) rfl rfl (bV (bK rfl rfl) (bV (bG 2 rfl rfl) bW)) (eU rfl rfl (Ht rfl) (fun h=>cZ (Ht rfl))) ?_))))))))
     refine C.D_step (Ei:=[(115,_),(112,_)]) rfl rfl (bV (bG 5 rfl rfl) (bV (bG 2 rfl rfl) bW)) (eU rfl rfl (Ht rfl) (fun h=>dG (fV rfl h) (cV 2) (by first | omega | (simp at h; omega)) (by show _ < 9223372036854775808; first | omega | (simp at h; omega)))) (C.D_step (Ei:=[(114,_),(116,_),(112,_)]) rfl rfl (bV (bG 4 rfl rfl) (bV (bG 6 rfl rfl) (bV (bG 2 rfl rfl) bW))) (eU rfl rfl (Ht rfl) (fun h=>dJ U_46 Z_189 (fV rfl h) (fV rfl h) rfl (eQ (aO (by first | omega | (simp at h; omega)))))) ?_)
     refine C.D_step (Ei:=[(117,_),(112,_)]) rfl rfl (bV (bG 7 rfl rfl) (bV (bG 2 rfl rfl) bW)) (eU rfl rfl (Ht rfl) (fun h=>dV A_189 Z_189 (fV rfl h))) (C.D_step (Ei:=[(118,_),(112,_)]) rfl rfl (bV (bG 8 rfl rfl) (bV (bG 2 rfl rfl) bW)) (eU rfl rfl (Ht rfl) (fun h=>gJ U_189 U_254 (fV rfl h) (by show _ < 18446744073709551616; first | omega | (simp at h; omega)))) (C.D_step (Ei:=[(113,_),(119,_),(112,_)]) rfl rfl (bV (bG 3 rfl rfl) (bV (bG 9 rfl rfl) (bV (bG 2 rfl rfl) bW))) (eU rfl rfl (Ht rfl) (fun h=>mN (fV rfl h) (fV rfl h) (by show _ < 18446744073709551616; simp at h; exact a54 h hv2))) ?_))
     refine C.D_step (Ei:=[(16,_),(112,_)]) rfl rfl (bV (bK rfl rfl) (bV (bG 2 rfl rfl) bW)) (eU rfl rfl (Ht rfl) (fun h=>cZ (Ht rfl))) (C.D_step (Ei:=[(121,_),(112,_)]) rfl rfl (bV (bG 11 rfl rfl) (bV (bG 2 rfl rfl) bW)) (eU rfl rfl (Ht rfl) (fun h=>pK (fV rfl h) (cV 32) (by decide) hrs)) (C.D_step (Ei:=[(10,_),(112,_)]) rfl rfl (bV (bK rfl rfl) (bV (bG 2 rfl rfl) bW)) (eU rfl rfl (Ht rfl) (fun h=>cZ (Ht rfl))) (C.D_step (Ei:=[(13,_),(112,_)]) rfl rfl (bV (bK rfl rfl) (bV (bG 2 rfl rfl) bW)) (eU rfl rfl (Ht rfl) (fun h=>cZ (Ht rfl))) ?_)))
     refine C.D_step (Ei:=[(11,_),(112,_)]) rfl rfl (bV (bK rfl rfl) (bV (bG 2 rfl rfl) bW)) (eU rfl rfl (Ht rfl) (fun h=>cZ (Ht rfl))) (C.D_step (Ei:=[(124,_),(125,_),(112,_)]) rfl rfl (bV (bG 14 rfl rfl) (bV (bG 15 rfl rfl) (bV (bG 2 rfl rfl) bW))) (eU rfl rfl (Ht rfl) (fun h=>dW (fV rfl h) (fV rfl h) (by show _ < 9223372036854775808; first | omega | (simp at h; omega)))) (C.D_step (Ei:=[(126,_),(112,_)]) rfl rfl (bV (bG 16 rfl rfl) (bV (bG 2 rfl rfl) bW)) (eU rfl rfl (Ht rfl) (fun h=>dG (fV rfl h) (cV 2) (by first | omega | (simp at h; omega)) (by show _ < 9223372036854775808; first | omega | (simp at h; omega)))) ?_))
     refine C.D_step (Ei:=[(123,_),(127,_),(112,_)]) rfl rfl (bV (bG 13 rfl rfl) (bV (bG 17 rfl rfl) (bV (bG 2 rfl rfl) bW))) (eU rfl rfl (Ht rfl) (fun h=>gQ U_46 Z_189 (fV rfl h) (fV rfl h) rfl (by first | omega | (simp at h; omega)) (by rw [Nat.mul_one,Nat.zero_add]))) ?_
     refine C.D_step (Ei:=[(128,_),(112,_)]) rfl rfl (bV (bG 18 rfl rfl) (bV (bG 2 rfl rfl) bW)) (eU rfl rfl (Ht rfl) (fun h=>fQ A_189 Z_189 (fV rfl h) (i:=0) rfl (eQ (aO zo)))) (C.D_step (Ei:=[(129,_),(112,_)]) rfl rfl (bV (bG 19 rfl rfl) (bV (bG 2 rfl rfl) bW)) (eU rfl rfl (Ht rfl) (fun h=>gJ U_189 U_254 (fV rfl h) (by show _ < 18446744073709551616; first | omega | (simp at h; omega)))) (C.D_step (Ei:=[(122,_),(130,_),(112,_)]) rfl rfl (bV (bG 12 rfl rfl) (bV (bG 20 rfl rfl) (bV (bG 2 rfl rfl) bW))) (eU rfl rfl (Ht rfl) (fun h=>aM.nat (rK rfl (fV rfl h) (fV rfl h) (by show _ < 18446744073709551616; first | omega | (simp at h; omega)) (by show _ < 18446744073709551616; first | omega | (simp at h; omega))) horr)) ?_))
     refine fW aL rfl (by kernel_rfl) (zF (zF (zF (zF (zF (aJ (aJ (aV (fX rfl rfl (eU rfl rfl (Ht rfl) (fun h=>eH (fV rfl h) (fV rfl h))) (ro rfl (gN (Ht rfl) (fun h=>(fV rfl h))) (eZ (dX (Ht rfl) (fun hc=>?_) (fun hc=>?_)))))))))))))
     ·have hn2 := hG.next hnr htp (by simpa [BB] using hc)
      have hg1:=hn2.2
      refine cY (eK (ts (rm rfl (ro rfl (dG (Ht rfl) (cV 1) zo z7) (ra rfl (eZ (ts (rm rfl (rm rfl (rm rfl (ro rfl (dG (Ht rfl) (cV 1) zo z6) (ro rfl (dJ U_46 Z_189 (Ht rfl) (Ht rfl) rfl (eQ (aO zo))) (ro rfl (dV A_189 Z_189 (Ht rfl)) (ro rfl (gJ U_189 U_254 (Ht rfl) z7) ?_))))))))))))))
      refine ro rfl (dW (Ht rfl) (Ht rfl) z7) (ra rfl (eZ (ts (rm rfl (ro rfl (sE (Ht rfl) (cV 4294967296)) (eZ (dX (Ht rfl) (fun hr2=>?_) (fun hr2=>?_))))))))
      ·simp at hr2
       refine gW rfl (bD (g - 1) (hn2.1.stop hnr htp hr2) (zS rfl) (dE.refl _))
      ·simp at hr2
       refine cY (bC (fY (g - 1,_) ⟨hn2.1,hr2⟩ (by dsimp only; omega) (zS rfl) (dE.refl _)))
     ·simp at hc
      refine gW rfl (bD g (hG.done hnr htp hc.1 hc.2) (zS rfl) (dE.refl _))
    ·have hglt := hg.lt
     have hglt2:=hg.lt
     simp only [BB] at hglt
     have hjl:j + vs.length < us.length:=by omega
     refine ts (ro rfl (cX (cV 0)) (eZ (ts (ro rfl (cX (cV 0)) (eZ (cU (ts (ro rfl (cX (cV 0)) (eZ (eK ?_))))))))))
     refine zN (fun (i : Nat) (out : List Nat) (c : Nat) (b : Nat) => uK us vs g j out i c b) (fun (i : Nat) (out : List Nat) (c : Nat) (b : Nat) => vs.length - i) (fun (i : Nat) (out : List Nat) (c : Nat) (b : Nat) => [(8, NT .i64 s), (9, yP vs), (10, Is (.slice (some ⟨B57, 0, none⟩) ((dg m).length + 1) ((dg m).length + 1))), (11, NT .i64 vs.length), (12, Is (.slice (some ⟨B69, 0, none⟩) ((dg m).length + 1 - vs.length) ((dg m).length + 1 - vs.length))), (13, NT .i64 j), (15, NT .u64 g), (17, NT .u64 b), (18, NT .u64 c), (19, NT .i64 i)]) (fun (i : Nat) (out : List Nat) (c : Nat) (b : Nat) => [box B57 189 (out.map cO), box B69 189 (qs.map cO)]) 0 us 0 0 (uK.start hS.dig vs g j)
      (zS rfl) (dE.refl _) (fun i out c b hT=>?_)
     refine cU (ts (rm rfl (rm rfl (ro rfl (gZ (Ht rfl) (Ht rfl)) (eZ (dX (Ht rfl) (fun hi=>?_) (fun hi=>?_)))))))
     ·simp at hi
      have hlen:=hT.len; have hcl:=hT.clt; have hbl:=hT.ble; have hvi:=bH hv i; have hok:=bH hT.dig (i + j)
      have hp:=Sx hglt2 hvi hT.clt
      simp only [BB] at hp hcl hvi hok
      obtain ⟨p,hp1⟩:∃ p,p = g * vs.getD i 0 + c:=⟨_,rfl⟩
      obtain ⟨x,hx1⟩:∃ x,x = ((out.getD (i + j) 0 + 18446744073709551616 - p % 4294967296) % 18446744073709551616 + 18446744073709551616 - b) % 18446744073709551616:=⟨_,rfl⟩
      refine cY (cU (eK (ts (rm rfl (rm rfl (rm rfl (ro rfl (dJ U_46 Z_189 (Ht rfl) (Ht rfl) rfl (eQ (aO zo))) (ro rfl (dV A_189 Z_189 (Ht rfl)) (ro rfl (gJ U_189 U_254 (Ht rfl) z7) (ro rfl (mN (Ht rfl) (Ht rfl) z7) (rm rfl (ro rfl (aM.nat (dW (Ht rfl) (Ht rfl) z7) hp1.symm) ?_))))))))))))
      refine ra rfl (eZ (ts (rm rfl (ro rfl (fF (Ht rfl) (cV 32) (by decide)) (ra rfl (eZ (ts (rm rfl (rm rfl (rm rfl (ro rfl (dW (Ht rfl) (Ht rfl) z6) (ro rfl (gQ U_46 Z_189 (Ht rfl) (Ht rfl) rfl zo (by rw [Nat.mul_one,Nat.zero_add])) ?_))))))))))))
      refine ro rfl (fQ A_189 Z_189 (Ht rfl) (i:=0) rfl (eQ (aO zo))) (ro rfl (gJ U_189 U_254 (Ht rfl) z7) (rm rfl (ro rfl (aM.nat (xP rfl (Ht rfl) (cV 4294967295) z7 z7) (a7c p)) (ro rfl (nJ rfl (Ht rfl) (Ht rfl) (by show _ ≤ 18446744073709551616; first | omega | (simp only [mT]; omega))) ?_))))
      refine rm rfl (ro rfl (aM.nat (nJ rfl (Ht rfl) (Ht rfl) (by show _ ≤ 18446744073709551616; first | omega | (simp only [mT]; omega))) hx1.symm) (ra rfl (eZ (ts (rm rfl (rm rfl (rm rfl (ro rfl (dW (Ht rfl) (Ht rfl) z6) (rm rfl (ro rfl (gD rfl U_254 U_189 (Ht rfl)) (ro rfl (gQ U_46 Z_189 (Ht rfl) (Ht rfl) rfl zo (by rw [Nat.mul_one,Nat.zero_add])) ?_)))))))))))
      refine lY Z_189 (Ht rfl) (Ht rfl) (i:=0) rfl (by first | omega | (simp; omega)) rfl (eZ (dQ (rm rfl (ro rfl (fF (Ht rfl) (cV 63) (by decide)) (ra rfl (eZ (bC (dQ (rm rfl (ro rfl (dW (Ht rfl) (cV 1) z6) (ra rfl (eZ (fY (i + 1,_,_,_) (hT.next hS.dig hv hglt2 hi hjl hp1 (Ha hok hbl hx1) rfl) (by dsimp only; omega) (zS rfl) (aU (aB (fS _ _ _)) (aU (fun _ _ _ h=>h) aY)))))))))))))))
     ·simp at hi
      have hkl:i = vs.length:=Nat.le_antisymm hT.ile hi
      subst hkl
      have hlen:=hT.len; have hcl:=hT.clt; have hbl:=hT.ble; have hok:=bH hT.dig (j + vs.length)
      obtain ⟨x,hx1⟩:∃ x,x = ((out.getD (j + vs.length) 0 + 18446744073709551616 - c) % 18446744073709551616 + 18446744073709551616 - b) % 18446744073709551616:=⟨_,rfl⟩
      have htd:=Hd hok hcl hbl hx1
      have hTk:=hT.fin hjl htd rfl
      have hx2:=htd.2
      simp only [BB] at hcl hok
      refine gW rfl (ts (rm rfl (rm rfl (rm rfl (ro rfl (dW (Ht rfl) (Ht rfl) z6) (ro rfl (gQ U_46 Z_189 (Ht rfl) (Ht rfl) rfl zo (by rw [Nat.mul_one,Nat.zero_add])) ?_))))))
      refine ro rfl (fQ A_189 Z_189 (Ht rfl) (i:=0) rfl (eQ (aO zo))) (ro rfl (gJ U_189 U_254 (Ht rfl) z7) (rm rfl (ro rfl (nJ rfl (Ht rfl) (Ht rfl) (by show _ ≤ 18446744073709551616; first | omega | (simp only [mT]; omega))) (rm rfl (ro rfl (aM.nat (nJ rfl (Ht rfl) (Ht rfl) (by show _ ≤ 18446744073709551616; first | omega | (simp only [mT]; omega))) hx1.symm) (ra rfl (eZ (ts (rm rfl (rm rfl (rm rfl (ro rfl (dW (Ht rfl) (Ht rfl) z6) ?_))))))))))))
      refine rm rfl (ro rfl (gD rfl U_254 U_189 (Ht rfl)) (ro rfl (gQ U_46 Z_189 (Ht rfl) (Ht rfl) rfl zo (by rw [Nat.mul_one,Nat.zero_add])) ?_))
      refine lY Z_189 (Ht rfl) (Ht rfl) (i:=0) rfl (by first | omega | (simp; omega)) rfl (eZ (cU (rR (fun (us2:List Nat) (g2:Nat)=>pX (m * 2 ^ s) vs us2 (qs.set j g2) j ∧ g2 < 4294967296 ∧ us2.length = (dg m).length + 1) (fun (us2:List Nat) (g2:Nat)=>[(8,NT .i64 s),(9,yP vs),(10,Is (.slice (some ⟨B57,0,none⟩) ((dg m).length + 1) ((dg m).length + 1))),(11,NT .i64 vs.length),(12,Is (.slice (some ⟨B69,0,none⟩) ((dg m).length + 1 - vs.length) ((dg m).length + 1 - vs.length))),(13,NT .i64 j),(15,NT .u64 g2)]) (fun (us2:List Nat) (g2:Nat)=>[box B57 189 (us2.map cO),box B69 189 (qs.map cO)]) ?_ (fun us2 g2 ⟨hD,hg2,hus2⟩=>?_))))
      ·refine ts (rm rfl (ro rfl (fF (Ht rfl) (cV 63) (by decide)) (ro rfl (cT (Ht rfl) (cV 1)) (eZ (dX (Ht rfl) (fun hbb => ?_) (fun hbb => ?_))))))
       ·simp only [decide_eq_true_eq] at hbb
        have hdec:(!decide (x / 2 ^ 63 = 0)) = true:=by rw [hbb]; rfl
        rw [hdec] at hTk
        obtain ⟨o1,ho1⟩:∃ o1,o1 = out.set (j + vs.length) (x % BB):=⟨_,rfl⟩
        rw [← ho1] at hTk
        have hg0:=hS.gpos hv rfl zo hTk
        have hol:=hTk.len
        refine ts (rm rfl (ro rfl (dG (Ht rfl) (cV 1) zo z7) (ra rfl (eZ (ts (ro rfl (cX (cV 0)) (eZ (cU (ts (ro rfl (cX (cV 0)) (eZ (eK ?_))))))))))))
        refine jF (fun (i : Nat) (out2 : List Nat) (c : Nat) => uJ o1 vs j out2 i c) (fun (i : Nat) (out2 : List Nat) (c : Nat) => vs.length - i) (fun (i : Nat) (out2 : List Nat) (c : Nat) => [(8, NT .i64 s), (9, yP vs), (10, Is (.slice (some ⟨B57, 0, none⟩) ((dg m).length + 1) ((dg m).length + 1))), (11, NT .i64 vs.length), (12, Is (.slice (some ⟨B69, 0, none⟩) ((dg m).length + 1 - vs.length) ((dg m).length + 1 - vs.length))), (13, NT .i64 j), (15, NT .u64 (g - 1 : Nat)), (18, NT .u64 c), (23, NT .i64 i)]) (fun (i : Nat) (out2 : List Nat) (c : Nat) => [box B57 189 (out2.map cO), box B69 189 (qs.map cO)]) 0 o1 0 (uJ.start hTk.dig vs j)
         (zS rfl) (aU (aB (by rw [ho1]; exact fS _ _ _)) (aU (fun _ _ _ h=>h) aY)) (fun i out2 c hB=>?_)
        refine cU (ts (rm rfl (rm rfl (ro rfl (gZ (Ht rfl) (Ht rfl)) (eZ (dX (Ht rfl) (fun hi=>?_) (fun hi=>?_)))))))
        ·simp at hi
         have hlen:=hB.len; have hcl:=hB.cle; have hvi:=bH hv i; have hok:=bH hB.dig (i + j)
         simp only [BB] at hvi hok
         refine cY (cU (eK (cU (fJ (m:=14) (dp 10 rfl (cZ (Ht rfl)) (dp 23 rfl (cZ (Ht rfl)) (dp 13 rfl (cZ (Ht rfl)) (cP 212 1 213 2 rfl (dW (Ht rfl) (Ht rfl) z6) (cP 211 0 214 3 rfl (gQ U_46 Z_189 (Ht rfl) (Ht rfl) rfl zo (by rw [Nat.mul_one,Nat.zero_add])) ?_)))))))))
         refine dq 215 4 rfl (fQ A_189 Z_189 (Ht rfl) (i:=0) rfl (eQ (aO zo))) (dq 216 5 rfl (gJ U_189 U_254 (Ht rfl) z7) (dp 9 rfl (cZ (Ht rfl)) (dp 23 rfl (cZ (Ht rfl)) (cP 218 7 219 8 rfl (dJ U_46 Z_189 (Ht rfl) (Ht rfl) rfl (eQ (aO zo))) (dq 220 9 rfl (dV A_189 Z_189 (Ht rfl)) (dq 221 10 rfl (gJ U_189 U_254 (Ht rfl) z7) ?_))))))
         refine cP 217 6 222 11 rfl (dW (Ht rfl) (Ht rfl) z7) (dp 18 rfl (cZ (Ht rfl)) (fW aL rfl (by kernel_rfl) (zF (zF (zF (aJ (aJ (aV (ro rfl (dW (Ht rfl) (Ht rfl) z7) (ra rfl (eZ (ts (rm rfl (rm rfl (rm rfl (ro rfl (dW (Ht rfl) (Ht rfl) z6) ?_))))))))))))))))
         refine rm rfl (ro rfl (gD rfl U_254 U_189 (Ht rfl)) (ro rfl (gQ U_46 Z_189 (Ht rfl) (Ht rfl) rfl zo (by rw [Nat.mul_one,Nat.zero_add])) ?_))
         refine lY Z_189 (Ht rfl) (Ht rfl) (i:=0) rfl (by first | omega | (simp; omega)) rfl (eZ (dQ (rm rfl (ro rfl (fF (Ht rfl) (cV 32) (by decide)) (ra rfl (eZ (bC (dQ (rm rfl (ro rfl (dW (Ht rfl) (cV 1) z6) (ra rfl (eZ (fY (i + 1,_,_) (hB.next hv hi zo (Nat.add_comm _ _)) (by dsimp only; omega) (zS rfl) (aU (aB (fS _ _ _)) (aU (fun _ _ _ h=>h) aY)))))))))))))))
        ·simp at hi
         have hil:i = vs.length:=Nat.le_antisymm hB.ile hi
         subst hil
         have hlen:=hB.len; have hcl:=hB.cle; have hok:=bH hB.dig (j + vs.length)
         have hBk:=hB.fin zo rfl
         obtain ⟨_,hDn⟩:=hS.wrong hv hV0 (Nat.succ_pos j) rfl hg hTk hBk
         simp only [BB] at hok
         refine gW rfl (dQ (rm rfl (rm rfl (rm rfl (ro rfl (dW (Ht rfl) (Ht rfl) z6) (rm rfl (rm rfl (rm rfl (ro rfl (dW (Ht rfl) (Ht rfl) z6) (ro rfl (gQ U_46 Z_189 (Ht rfl) (Ht rfl) rfl zo (by rw [Nat.mul_one,Nat.zero_add])) ?_))))))))))
         refine ro rfl (fQ A_189 Z_189 (Ht rfl) (i:=0) rfl (eQ (aO zo))) (rm rfl (ro rfl (gJ U_254 U_189 (Ht rfl) (by show _ < 4294967296; first | omega | (simp only [mT]; omega))) (ro rfl (Vv rfl (Ht rfl) (Ht rfl)) (ro rfl (gQ U_46 Z_189 (Ht rfl) (Ht rfl) rfl zo (by rw [Nat.mul_one,Nat.zero_add])) ?_))))
         refine lY Z_189 (Ht rfl) (Ht rfl) (i:=0) rfl (by first | omega | (simp; omega)) rfl (eZ (bD (_,g - 1) ⟨hDn,by dsimp only; omega,by simp; omega⟩ (zS rfl) (aU (aB (fS _ _ _)) (aU (fun _ _ _ h=>h) aY))))
       ·simp only [decide_eq_false_iff_not] at hbb
        have hdec:(!decide (x / 2 ^ 63 = 0)) = false:=by rw [show x / 2 ^ 63 = 0 by omega]; rfl
        rw [hdec] at hTk
        have hol:=hTk.len
        refine cY (bD (_,g) ⟨hS.right hv hV0 (Nat.succ_pos j) rfl hg hTk,hglt,by dsimp only; omega⟩ (zS rfl) (aU (aB (fS _ _ _)) (aU (fun _ _ _ h=>h) aY)))
      ·refine dQ (rm rfl (rm rfl (rm rfl (ro rfl (gJ U_254 U_189 (Ht rfl) (by show _ < 4294967296; first | omega | (simp only [mT]; omega))) (ro rfl (gQ U_46 Z_189 (Ht rfl) (Ht rfl) rfl zo (by rw [Nat.mul_one, Nat.zero_add])) ?_)))))
       refine lY Z_189 (Ht rfl) (Ht rfl) (i:=1) rfl (by first | omega | (simp; omega)) rfl (eZ (bC (dQ (rm rfl (ro rfl (iY (Ht rfl) cW (Ej zo)) (ra rfl (eZ (fY (j,us2,_) ⟨hD,hus2⟩ (by dsimp only; omega) (zS rfl) (aU (fun _ _ _ h=>h) (aU (aB (fS _ _ _)) aY))))))))))
   ·simp at hk
    have hk0:k = 0:=by omega
    subst hk0
    have hfin:=hS.fin hV0
    have hlq:=hS.lenq
    rw [hvv] at hfin
    have hdiv:val qs = m / n:=by rw [hfin.1]; exact Nat.mul_div_mul_right _ _ hp2
    have hsm:val us < BB ^ vs.length:=by have h1:=hS.small; rw [List.drop_zero] at h1; exact Nat.lt_trans h1 (kA hv)
    have hmod : val (us.take vs.length) / 2 ^ s = m % n := by
     rw [qL hsm zo,hfin.2,Nat.mul_mod_mul_right,Nat.mul_div_cancel _ hp2]
    have hru : (dg (val (us.take vs.length))).length ≤ 17592186044416 := by
     refine Nat.le_trans (lE (k:=vs.length) ?_) zo
     rw [qL hsm zo]; exact hsm
    refine gW rfl (gV (i:=1) (tt:=12) rfl rfl (mS rfl zo (Nat.le_refl _)) (gV (i:=0) (tt:=10) rfl rfl (mS rfl zo (Nat.le_refl _)) (cU (fJ (m:=7) (dp 12 rfl (cZ (Ht rfl)) (dq 254 0 rfl (cJ K_267 (qE _ hS.digq zo) ⟨(Ht rfl),trivial⟩) (dp 10 rfl (cZ (Ht rfl)) (dp 11 rfl (cZ (Ht rfl)) (cP 256 2 257 3 rfl (aM.imp (qR U_46 Z_189 (Ht rfl) (Ht rfl) (fun m e=>by cases e) zo (by simp; omega) rfl) (Uo _ _)) ?_)))))))))
    refine dq 258 4 rfl (cJ K_267 (qE _ (hS.dig.take' vs.length) (by simp; omega)) ⟨(Ht rfl),trivial⟩) ?_
    refine dp 8 rfl (cZ (Ht rfl)) (fW aL rfl (by kernel_rfl) (zF (aJ (aJ (aJ (aV (ro rfl (cJ Tryz.call284 (a5O hru zo) ⟨(Ht rfl),(Ht rfl),trivial⟩) (ra rfl (ra rfl (eZ (bM rfl (fZ (eY rfl) ?_) (fZ (eY rfl) ?_))))))))))))
    ·exact (dO hdiv)
    ·exact (dO hmod)
theorem Rh {m n:Nat} (hm:(dg m).length ≤ 17592186044415) (hn:(dg n).length ≤ 17592186044415):bE Tryz.prog 264 [aH m,aH n] (aH (Nat.gcd m n)):=by
 refine bE.intro Tryz.func264 rfl Tryz.ntmps264 rfl (fun cx=>(ts (ro rfl (cX cW) (eZ (cU (eK ?_))))))
 refine gA (fun (x : Nat) (y : Nat) => Nat.gcd x y = Nat.gcd m n ∧ (dg x).length ≤ 17592186044415 ∧ (dg y).length ≤ 17592186044415) (fun (x : Nat) (y : Nat) => y) (fun (x : Nat) (y : Nat) => [(0, aH x), (1, aH y)]) (fun (x : Nat) (y : Nat) => []) m n ⟨rfl, hm, hn⟩
  (zS rfl) aY (fun x y ⟨hg,hx,hy⟩=>?_)
 refine cU (ts (rm rfl (ro rfl (dK U_46 (Ht rfl) aA) (ro rfl (eH (Ht rfl) (cV 0)) (eZ (dX (Ht rfl) (fun hb=>?_) (fun hb=>?_)))))))
 ·simp at hb
  have hy0:y ≠ 0:=fun e=>by rw [e,eT] at hb; simp at hb
  have hlt:=Nat.mod_lt x (Nat.pos_of_ne_zero hy0)
  refine cY (eK (ts (rm rfl (rm rfl (ro rfl (cJ K_265 (Bl hx zo hy0) ⟨(Ht rfl),(Ht rfl),trivial⟩) (rm rfl (ro rfl (dU (Ht rfl) rfl) (ro rfl (dU (Ht rfl) rfl) (ra rfl (ra rfl (eZ (dQ (rm rfl (rm rfl (ra rfl (ra rfl (eZ (bC (fY (y,x % y) ⟨by rw [← hg,Nat.gcd_comm x y,Nat.gcd_rec y x,Nat.gcd_comm],hy,Nat.le_trans (iM (Nat.le_of_lt hlt)) hy⟩ hlt (zS rfl) aY)))))))))))))))))))
 ·simp at hb
  have hy0:y = 0:=aR.1 (by simpa using hb)
  subst hy0
  rw [Nat.gcd_zero_right] at hg
  refine gW rfl (ts (rm rfl (ra rfl (eZ (fG rfl (fZ (eY rfl) ?_))))))
  exact (dO hg)
theorem Uc {m:Nat} (hm:(dg m).length ≤ 8796093022208):bE Tryz.prog 275 [aH m] (sQ (yJ m)):=by
 refine bE.intro Tryz.func275 rfl Tryz.ntmps275 rfl (fun cx=>(ts (ro rfl (cX (bT.cS (l:=[]) rfl)) (eZ (cU (ts (rm rfl (ro rfl (dK U_46 (Ht rfl) aA) (ro rfl (cT (Ht rfl) (cV 0)) (eZ (dX (Ht rfl) (fun hb=>?_) (fun hb=>?_))))))))))))
 ·simp at hb
  have h0:m = 0:=aR.1 (by simpa using hb)
  subst h0
  refine ts (ro rfl (cX (bT.cS (l:=[48]) rfl)) (eZ (fG rfl (fZ (eY rfl) ?_))))
  exact (kP rfl)
 ·simp at hb
  have h0:m ≠ 0:=fun e=>hb (by rw [e,eT])
  refine cY (ts (ro rfl (cX cW) (eZ (cU (eK (zO 5 1 ?_))))))
  refine jF (fun (x : Nat) (out : List Nat) (v : Value) => Eo m out x ∧ x ≤ m) (fun (x : Nat) (out : List Nat) (v : Value) => x) (fun (x : Nat) (out : List Nat) (v : Value) => [(0, aH x), (3, Is v)]) (fun (x : Nat) (out : List Nat) (v : Value) => [cL 5 1 v (out.map Cj)]) m [] (.slice none 0 0) ⟨Eo.start m, Nat.le_refl m⟩
   (zS rfl) (dE.refl _) (fun x out v ⟨hO,hle⟩=>?_)
  refine cU (ts (rm rfl (ro rfl (dK U_46 (Ht rfl) aA) (ro rfl (eH (Ht rfl) (cV 0)) (eZ (dX (Ht rfl) (fun hc=>?_) (fun hc=>?_)))))))
  ·simp at hc
   have hx0:x ≠ 0:=fun e=>by rw [e,eT] at hc; simp at hc
   have hxm:=iM hle
   refine cY (eK (ts (rm rfl (ro rfl (cJ Tryz.call281 (Mw zo (by decide) (by decide)) ⟨(Ht rfl),(cV 1000000000),trivial⟩) (rm rfl (ro rfl (dU (Ht rfl) rfl) (ro rfl (dU (Ht rfl) rfl) (ra rfl (ra rfl (eZ (cU (ts (ro rfl (cX (cV 0)) (eZ (eK ?_)))))))))))))))
   refine zN (fun (r : Nat) (k : Nat) (out : List Nat) (v : Value) => Cz m out (x / 1000000000) r k) (fun (r : Nat) (k : Nat) (out : List Nat) (v : Value) => 9 - k) (fun (r : Nat) (k : Nat) (out : List Nat) (v : Value) => [(3, Is v), (4, aH (x / 1000000000)), (5, cO r), (6, NT .i64 k)]) (fun (r : Nat) (k : Nat) (out : List Nat) (v : Value) => [cL 5 1 v (out.map Cj)]) (x % 1000000000) 0 out v (hO.inner)
    (zS rfl) (dE.refl _) (fun r k out v hI=>?_)
   refine cU (ts (rm rfl (ro rfl (gZ (Ht rfl) (cV 9)) (rm rfl (fX rfl rfl (mJ rfl rfl (Ht rfl) (fun h=>cZ (Ht rfl))) (fX rfl rfl (mJ rfl rfl (Ht rfl) (fun h=>eH (bT.wu rfl h) (cV 0))) (fX rfl rfl (mJ rfl rfl (Ht rfl) (fun h=>cZ (bT.wu rfl h))) (fX rfl rfl (rQ rfl rfl rfl (fun h h2=>cZ (Ht rfl))) (fX rfl rfl (rQ rfl rfl rfl (fun h h2=>dK U_46 (bT.wu rfl ⟨h,h2⟩) aA)) (fX rfl rfl (rQ rfl rfl rfl (fun h h2=>eH (bT.wu rfl ⟨h,h2⟩) (cV 0))) (fX rfl rfl (mJ rfl rfl (Ht rfl) (fun h=>gN (bT.wu rfl h) (fun h2=>(bT.wu rfl ⟨h,h2⟩)))) ?_)))))))))))
   refine ro rfl (fC (Ht rfl) (fun h=>(bT.wu rfl h))) (eZ (dX (Ht rfl) (fun hd=>?_) (fun hd=>?_)))
   ·simp at hd
    have hxr:0 < x / 1000000000 ∨ 0 < r:=hd.2.elim (fun h=>.inr h) (fun h=>.inl (Nat.pos_of_ne_zero (fun e=>by rw [e,eT] at h; simp at h)))
    have hln:=hI.len hxr
    have hr32:=hI.r32
    refine cY (cU (eK (ts (rm rfl (rm rfl (ro rfl (pJ (Ht rfl) (cV 10) zo) (ro rfl (dW (cV 48) (Ht rfl) (by show _ < 4294967296; first | omega | (simp only [mT]; omega))) (ro rfl (gJ U_189 U_5 (Ht rfl) (by show _ < 256; first | omega | (simp only [mT]; omega))) (ro rfl (dB (xs:=[.tmp 37]) U_293 Z_5 Tryz.zeroValue5 (cG (Ht rfl) cK) rfl rfl rfl) (qX (inf:=Tryz.t5) Eg a16 rfl rfl rfl (Ht rfl) (Ht rfl) (i:=0) rfl (by simp) (fun T hT=>by simp at hT; subst hT; exact El.one) (by show _ * 1 ≤ _; simp only [List.length_map,List.length_cons,List.length_nil]; omega) (by simp only [List.length_map,List.length_cons,List.length_nil]; omega) rfl (fun v2=>?_)))))))))))
    refine ra rfl (eZ (dQ (rm rfl (ro rfl (kL (Ht rfl) (cV 10) zo (by show _ < 4294967296; first | omega | (simp only [mT]; omega))) (ra rfl (eZ (bC (dQ (rm rfl (ro rfl (dW (Ht rfl) (cV 1) z6) (ra rfl (eZ (fY (r / 10,k + 1,_,v2) (hI.next hd.1 hxr) (by dsimp only; omega) (zS rfl) (aU (bO (a2n _ _)) aY))))))))))))))
   ·simp at hd
    have hO2 := hI.fin (fun ⟨h1, h2⟩ => by
     have h3:=hd h1
     rcases h2 with h2 | h2
     ·have:=sT.1 h3.2; omega
     ·omega)
    refine gW rfl (dQ (rm rfl (ra rfl (eZ (bC (fY (x / 1000000000,_,_) ⟨hO2,Nat.le_trans (Nat.div_le_self _ _) hle⟩ (Nat.div_lt_self (Nat.pos_of_ne_zero hx0) (by decide)) (zS rfl) (dE.refl _)))))))
  ·simp at hc
   have hx0:x = 0:=aR.1 (by simpa using hc)
   subst hx0
   have hfin:=hO.fin
   have hdl:=rV m
   rw [hfin] at hdl
   refine gW rfl (cU (ts (rm rfl (ro rfl (sF U_293 (Ht rfl) (i:=0) rfl aA) (ro rfl (iY (Ht rfl) cW (Ej zo)) (ro rfl (cX (cV 0)) (ra rfl (eZ (eK ?_)))))))))
   refine gA (fun (k : Nat) (o : List Nat) => Et out o k) (fun (k : Nat) (o : List Nat) => out.length - k) (fun (k : Nat) (o : List Nat) => [(3, Is v), (7, NT .i64 k), (8, aT .i64 ((out.length : Int) - 1 - (k : Int)))]) (fun (k : Nat) (o : List Nat) => [cL 5 1 v (o.map Cj)]) 0 out (Et.start out)
    (aQ rfl (aQ rfl (aZ rfl (aS zo) aX))) (dE.refl _) (fun k o hR=>?_)
   refine cU (ts (rm rfl (rm rfl (ro rfl (tX (Ht rfl) (Ht rfl)) (eZ (dX (Ht rfl) (fun hk=>?_) (fun hk=>?_)))))))
   ·simp only [decide_eq_true_eq] at hk
    have hk2:2 * k + 1 < out.length:=by omega
    obtain ⟨j,hj⟩:∃ j,j = out.length - 1 - k:=⟨_,rfl⟩
    have hlen:=hR.len
    refine qC (E':=[(3,_),(7,_),(8,_),(46,_),(47,_),(48,_)]) (aQ rfl (aQ rfl (aZ rfl (aS (show (out.length:Int) - 1 - (k:Int) = (j:Int) by omega)) (zS rfl)))) (cY (cU (eK (W.D_start (m:=14) (fun b=>cond b ([cL 5 1 v ((o.map Cj).set k (Cj (o.getD j 0)))]) _) 13 (W.D_step (Ei:=[(3,_)]) rfl rfl (W.Srcs.cons (W.Src.pre rfl rfl) W.Srcs.nil) rfl (by kernel_rfl) (dZ rfl (cZ (Ht rfl))) (W.D_step (Ei:=[(7,_)]) rfl rfl (W.Srcs.cons (W.Src.pre rfl rfl) W.Srcs.nil) rfl (by kernel_rfl) (dZ rfl (cZ (Ht rfl))) ?_))))))
    refine W.D_pure (Ei:=[(3,_)]) rfl rfl (W.Srcs.cons (W.Src.pre rfl rfl) W.Srcs.nil) rfl (fun _=>dZ rfl (cZ (Ht rfl))) (W.D_pure (Ei:=[(8,_)]) rfl rfl (W.Srcs.cons (W.Src.pre rfl rfl) W.Srcs.nil) rfl (fun _=>dZ rfl (cZ (Ht rfl))) (W.D_step (Ei:=[(3,_)]) rfl rfl (W.Srcs.cons (W.Src.pre rfl rfl) W.Srcs.nil) rfl (by kernel_rfl) (dZ rfl (cZ (Ht rfl))) (W.D_step (Ei:=[(8,_)]) rfl rfl (W.Srcs.cons (W.Src.pre rfl rfl) W.Srcs.nil) rfl (by kernel_rfl) (dZ rfl (cZ (Ht rfl))) (W.D_step (Ei:=[(57,_),(58,_)]) rfl rfl (W.Srcs.cons (W.Src.op 4 rfl rfl) (W.Srcs.cons (W.Src.op 5 rfl rfl) W.Srcs.nil)) rfl (by kernel_rfl) (dZ rfl (cR U_293 Z_5 (Ht rfl) (Ht rfl) rfl (i:=0) rfl (by first | omega | (simp; omega)) rfl)) ?_))))
    refine W.D_step (Ei:=[(59,_)]) rfl rfl (W.Srcs.cons (W.Src.op 6 rfl rfl) W.Srcs.nil) rfl (by kernel_rfl) (dZ rfl (oX Tryz.isAgg5 Z_5 (Ht rfl) (i:=0) rfl rfl (eQ (aO zo)))) (W.D_step (Ei:=[(3,_)]) rfl rfl (W.Srcs.cons (W.Src.pre rfl rfl) W.Srcs.nil) rfl (by kernel_rfl) (dZ rfl (cZ (Ht rfl))) (W.D_step (Ei:=[(7,_)]) rfl rfl (W.Srcs.cons (W.Src.pre rfl rfl) W.Srcs.nil) rfl (by kernel_rfl) (dZ rfl (cZ (Ht rfl))) (W.D_step (Ei:=[(61,_),(62,_)]) rfl rfl (W.Srcs.cons (W.Src.op 8 rfl rfl) (W.Srcs.cons (W.Src.op 9 rfl rfl) W.Srcs.nil)) rfl (by kernel_rfl) (dZ rfl (cR U_293 Z_5 (Ht rfl) (Ht rfl) rfl (i:=0) rfl (by first | omega | (simp; omega)) rfl)) ?_)))
    refine W.D_step (Ei:=[(63,_)]) rfl rfl (W.Srcs.cons (W.Src.op 10 rfl rfl) W.Srcs.nil) rfl (by kernel_rfl) (dZ rfl (oX Tryz.isAgg5 Z_5 (Ht rfl) (i:=0) rfl rfl (eQ (aO zo)))) (W.D_step (Ei:=[(53,_),(54,_)]) rfl rfl (W.Srcs.cons (W.Src.op 0 rfl rfl) (W.Srcs.cons (W.Src.op 1 rfl rfl) W.Srcs.nil)) rfl (by kernel_rfl) (dZ rfl (cR U_293 Z_5 (Ht rfl) (Ht rfl) rfl (i:=0) rfl (by first | omega | (simp; omega)) rfl)) (W.D_put (Ei:=[(65,_),(60,_)]) rfl rfl (W.Srcs.cons (W.Src.op 12 rfl rfl) (W.Srcs.cons (W.Src.op 7 rfl rfl) W.Srcs.nil)) rfl (Er Z_5 (Ht rfl) (Ht rfl) El.one (i:=0) rfl rfl (by first | omega | (simp; omega))) ?_))
    refine W.D_done aL rfl (by kernel_rfl) rfl (W.F_val (W.F_val (W.F_val (W.F_val (W.F_val (W.F_val (W.F_val (W.F_val (W.F_val (W.F_val (W.F_val (W.F_val (W.F_val (W.F_put (W.F_nil (ro rfl (cR U_293 Z_5 (Ht rfl) (Ht rfl) rfl (i:=0) rfl (by first | omega | (simp; omega)) rfl) (kV Z_5 (Ht rfl) (Ht rfl) El.one (i:=0) rfl rfl (by first | omega | (simp; omega)) rfl (eZ (bC (dQ (rm rfl (ro rfl (dW (Ht rfl) (cV 1) z6) (rm rfl (ro rfl (iY (Ht rfl) cW (Ej zo)) ?_))))))))))))))))))))))))
    refine ra rfl (ra rfl (eZ (fY (k + 1,_) (hR.next hk2 hj) (by dsimp only; omega) (aQ rfl (aQ rfl (aZ rfl (aS zo) aX))) (aU (bO (Wu _ _ _ _ _)) aY))))
   ·simp only [decide_eq_false_iff_not] at hk
    have hrev:=hR.fin zo
    subst hrev
    refine gW rfl (gV (i:=0) (tt:=3) rfl rfl jG (ts (rm rfl (ro rfl (Oy Eg a5b a5c (Ht rfl) (by rw [← hfin]; simpa using Um h0) (fun b hb=>a0J (n:=m) b (by rw [xE h0,hfin]; exact hb))) ?_))))
    refine ra rfl (eZ (fG rfl (fZ (eY rfl) ?_)))
    exact (kP (by rw [xE h0,hfin]))
end
section
open Go Go.RowKit
theorem Mo {n : Nat} {E : dI} {H : Hp} {d : Option Tmp} {t : TypeId} {pos : String} {af : Array Edge} {g : Option (Nat × Bool)}  :
  aM Tryz.prog n E H ⟨d,.build 129 #[],t,pos,af,g⟩ (fE [Is (.bool false),Is (.slice none 0 0)]) :=
 gL (parts := []) fun a V w hs => by
  refine ⟨.agg #[(.bool false),(.slice none 0 0)],?_,[(.bool false),(.slice none 0 0)],rfl,aW (⟨rfl,trivial⟩) (aW (⟨rfl,trivial⟩) (aG))⟩
  simp [Instr.build,Instr.fill,Sem.run_bind,Result.andThen,fD,O_129,U_129,Z_4,Z_46]
theorem nS {n : Nat} {E : dI} {H : Hp} {d : Option Tmp} {t : TypeId} {pos : String} {af : Array Edge} {g : Option (Nat × Bool)} {x0 x1 : Operand} {T0 T1 : Ty} [s0 : eI T0 1 false] (h0 : bT E x0 T0) [s1 : eI T1 1 false] (h1 : bT E x1 T1) :
  aM Tryz.prog n E H ⟨d,.build 129 #[(0,x0),(1,x1)],t,pos,af,g⟩ (fE [T0,T1]) :=
 gL (parts := [(0, x0), (1, x1)]) fun a V w hs => by
  have p0:=h0 n V a hs
  generalize e0:a.eval x0 = v0 at p0
  have q0:=(s0.ok v0 V p0).2.2 rfl
  have p1:=h1 n V a hs
  generalize e1:a.eval x1 = v1 at p1
  have q1:=(s1.ok v1 V p1).2.2 rfl
  refine ⟨.agg #[v0,v1],?_,[v0,v1],rfl,aW (⟨p0,q0⟩) (aW (⟨p1,q1⟩) (aG))⟩
  simp [e0,e1,Instr.build,Instr.fill,Sem.run_bind,Result.andThen,fD,q0.cells,q1.cells,O_129,U_129,Z_4,Z_46]
theorem mY {n : Nat} {E : dI} {H : Hp} {d : Option Tmp} {t : TypeId} {pos : String} {af : Array Edge} {g : Option (Nat × Bool)} {x0 x1 x2 : Operand} {T0 T1 T2 T3 T4 : Ty} (h0 : bT E x0 (fE [T0, T1])) (h1 : bT E x1 (fE [T2, T3])) [s2 : eI T4 1 false] (h2 : bT E x2 T4) :
  aM Tryz.prog n E H ⟨d,.build 131 #[(0,x0),(1,x1),(2,x2)],t,pos,af,g⟩ (fE [T0,T1,T2,T3,T4]) :=
 gL (parts := [(0, x0), (1, x1), (2, x2)]) fun a V w hs => by
  obtain ⟨v0,e0,c0⟩:=h0 n V a hs
  obtain ⟨c0_0,c0_1,rfl⟩:∃ c0_0 c0_1,v0 = [c0_0,c0_1]:=Cn (by simpa using c0.length)
  obtain ⟨v1,e1,c1⟩:=h1 n V a hs
  obtain ⟨c1_0,c1_1,rfl⟩:∃ c1_0 c1_1,v1 = [c1_0,c1_1]:=Cn (by simpa using c1.length)
  have p2:=h2 n V a hs
  generalize e2:a.eval x2 = v2 at p2
  have q2:=(s2.ok v2 V p2).2.2 rfl
  refine ⟨.agg #[c0_0,c0_1,c1_0,c1_1,v2],?_,[c0_0,c0_1,c1_0,c1_1,v2],rfl,aW (c0.at (i:=0) rfl rfl) (aW (c0.at (i:=1) rfl rfl) (aW (c1.at (i:=0) rfl rfl) (aW (c1.at (i:=1) rfl rfl) (aW (⟨p2,q2⟩) (aG)))))⟩
  simp [e0,e1,e2,Instr.build,Instr.fill,Sem.run_bind,Result.andThen,fD,q2.cells,O_131,U_131,Z_46,Z_129]
theorem Df {n : Nat} {E : dI} {H : Hp} {d : Option Tmp} {t : TypeId} {pos : String} {af : Array Edge} {g : Option (Nat × Bool)}  :
  aM Tryz.prog n E H ⟨d,.build 51 #[],t,pos,af,g⟩ (fE [Is (.bool false),Is (.slice none 0 0),Is (.bool false),Is (.slice none 0 0),Is (.slice none 0 0)]) :=
 gL (parts := []) fun a V w hs => by
  refine ⟨.agg #[(.bool false),(.slice none 0 0),(.bool false),(.slice none 0 0),(.slice none 0 0)],?_,[(.bool false),(.slice none 0 0),(.bool false),(.slice none 0 0),(.slice none 0 0)],rfl,aW (⟨rfl,trivial⟩) (aW (⟨rfl,trivial⟩) (aW (⟨rfl,trivial⟩) (aW (⟨rfl,trivial⟩) (aW (⟨rfl,trivial⟩) (aG)))))⟩
  simp [Instr.build,Instr.fill,Sem.run_bind,Result.andThen,fD,O_51,U_51,Z_47,Z_49]
theorem kH (a:Addr) (w:World):(Instr.fieldAt 129 (.pointer (some a)) 0).run Tryz.prog w = .ok (.pointer (some (a.add 0))) w:=by
 simp [Instr.fieldAt,Instr.sureAddr,fieldPlace,Sem.run_bind,Result.andThen,U_129,Z_4]
theorem fA (a:Addr) (w:World):(Instr.fieldAt 129 (.pointer (some a)) 1).run Tryz.prog w = .ok (.pointer (some (a.add 1))) w:=by
 simp [Instr.fieldAt,Instr.sureAddr,fieldPlace,Sem.run_bind,Result.andThen,U_129,Z_46]
theorem iO (a:Addr) (w:World):(Instr.fieldAt 131 (.pointer (some a)) 0).run Tryz.prog w = .ok (.pointer (some (a.add 0))) w:=by
 simp [Instr.fieldAt,Instr.sureAddr,fieldPlace,Sem.run_bind,Result.andThen,U_131,Z_129]
theorem jA (a:Addr) (w:World):(Instr.fieldAt 131 (.pointer (some a)) 1).run Tryz.prog w = .ok (.pointer (some (a.add 2))) w:=by
 simp [Instr.fieldAt,Instr.sureAddr,fieldPlace,Sem.run_bind,Result.andThen,U_131,Z_129]
theorem iP (a:Addr) (w:World):(Instr.fieldAt 131 (.pointer (some a)) 2).run Tryz.prog w = .ok (.pointer (some (a.add 4))) w:=by
 simp [Instr.fieldAt,Instr.sureAddr,fieldPlace,Sem.run_bind,Result.andThen,U_131,Z_46]
end
end Go.Proofs.YteohomnhncjcnaaGreat
