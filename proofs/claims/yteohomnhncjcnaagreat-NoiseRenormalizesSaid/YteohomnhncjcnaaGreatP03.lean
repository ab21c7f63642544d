/- What functions of the program compute, proved by walks over their code, and the plain mathematics of it; a part of the proof in the last text. -/
import Derived.Test.YteohomnhncjcnaaGreatP02
set_option linter.unusedVariables false
set_option linter.unusedSimpArgs false
set_option maxRecDepth 100000
set_option maxHeartbeats 4000000
namespace Go.Proofs.YteohomnhncjcnaaGreat
section
open Go Go.RowKit
namespace C
inductive Ob:Type 1 where
 | val (T:Ty)
 | blk (src:Option Nat) (keep:Bool) (γ:Type) (T:γ → Ty) (A:γ → SA)
 | dep (t u:Nat) (F:Ty → Ty → Ty) (I:Ty → Prop)
def Src (ops : List Oper) (m : Nat) (E0 : dC) (prev : List (Nat × Ob)) (o : Oper) (t : Nat) (T : Ty) : Prop :=
 (fR E0 t = some T ∧ ((List.range m).all fun j=>!(fO ops j == some t)) = true) ∨
 ∃ j,prev.reverse[j]? = some (t,.val T) ∧ (o.after.toList.any fun e=>Nat.beq e.on j && Region.binds .any e) = true
theorem Src.pre {ops:List Oper} {m:Nat} {E0:dC} {prev:List (Nat × Ob)} {o:Oper} {t:Nat} {T:Ty} (h:fR E0 t = some T) (h':((List.range m).all fun j=>!(fO ops j == some t)) = true):Src ops m E0 prev o t T:=.inl ⟨h,h'⟩
theorem Src.op {ops:List Oper} {m:Nat} {E0:dC} {prev:List (Nat × Ob)} {o:Oper} {t:Nat} {T:Ty} (j:Nat) (h:prev.reverse[j]? = some (t,.val T)) (h':(o.after.toList.any fun e=>Nat.beq e.on j && Region.binds .any e) = true):Src ops m E0 prev o t T:=.inr ⟨j,h,h'⟩
def Srcs (ops:List Oper) (m:Nat) (E0:dC) (prev:List (Nat × Ob)) (o:Oper) (Ei:dC):Prop:=∀ t T,fR Ei t = some T → Src ops m E0 prev o t T
theorem Srcs.nil {ops:List Oper} {m:Nat} {E0:dC} {prev:List (Nat × Ob)} {o:Oper}:Srcs ops m E0 prev o []:=fun t T h=>by cases h
theorem Srcs.cons {ops : List Oper} {m : Nat} {E0 Ei : dC} {prev : List (Nat × Ob)} {o : Oper} {t : Nat} {T : Ty} (h : Src ops m E0 prev o t T) (k : Srcs ops m E0 prev o Ei) : Srcs ops m E0 prev o ((t, T) :: Ei) := fun u U hl => by
 rw [dH] at hl
 by_cases e:t = u
 ·subst e; rw [if_pos rfl] at hl; obtain rfl:=Option.some.inj hl; exact h
 ·rw [if_neg e] at hl; exact k u U hl
section
variable {P:Program} {R:iA} {cx:Cx} {n:Nat} {k:List It} {E:dC} {H:Hp}
def Ry : List (Nat × Ob) → Nat → Bool
 | [],_=>false
 | (_,.blk (some p) _ _ _ _) :: r,q=>Nat.beq p q || Ry r q
 | _ :: r,q=>Ry r q
theorem Cg {q : Nat} : ∀ {l : List (Nat × Ob)}, Ry l q = false → ∀ {d : Nat} {kp : Bool} {γ : Type} {T : γ → Ty} {A : γ → SA}, (d, Ob.blk (some q) kp γ T A) ∈ l → False
 | [],_,_,_,_,_,_,h=>by cases h
 | (d', b) :: r, hu, d, kp, γ, T, A, h => by
  rcases List.mem_cons.1 h with e | e
  ·cases e
   simp [Ry,Nat.beq_refl] at hu
  ·refine Cg (l := r) ?_ e
   cases b with
   | val T=>exact hu
   | dep t u F I=>exact hu
   | blk src kp' γ' T' A' =>
    cases src with
    | none=>exact hu
    | some p=>simp [Ry] at hu; exact hu.2
def Kh : Ob → Ty → Prop
 | .val T0,T=>T = T0
 | .blk _ _ _ T0 _,T=>∃ x,T = T0 x
 | .dep _ _ _ I,T=>I T
def yS (P : Program) (n : Nat) (ops : List Oper) (m : Nat) (E0 : dC) (H : Hp) (prev : List (Nat × Ob)) (o : Oper) : Ob → Prop
 | .val T=>∃ Ei,Srcs ops m E0 prev o Ei ∧ iB P n ops.toArray Ei H o T
 | .blk none _ γ T A=>o.guard = none ∧ ∃ Ei,Srcs ops m E0 prev o Ei ∧ iV P n Ei H o γ T A
 | .blk (some q) _ γ T A=>o.guard = none ∧ ∃ Ei t src γq Tq Aq,prev.reverse[q]? = some (t,.blk src false γq Tq Aq) ∧ (o.after.toList.any fun e=>Nat.beq e.on q && Region.binds .any e) = true ∧ Srcs ops m E0 prev o Ei ∧ (∀ x,Gm P n ((t,Tq x) :: Ei) (Aq x) o γ T A) ∧ Ry prev q = false
 | .dep t u F I => ∃ j b j' b', prev.reverse[j]? = some (t, b) ∧ (o.after.toList.any fun e => Nat.beq e.on j && Region.binds .any e) = true ∧ prev.reverse[j']? = some (u, b') ∧ (o.after.toList.any fun e => Nat.beq e.on j' && Region.binds .any e) = true ∧
   ∀ T U,Kh b T → Kh b' U → iB P n ops.toArray [(t,T),(u,U)] H o (F T U) ∧ I (F T U)
def mL (P : Program) (n : Nat) (ops : List Oper) (m : Nat) (E0 : dC) (H : Hp) : List (Nat × Ob) → Prop
 | []=>True
 | (d,b) :: prev=>(∃ o,ops[prev.length]? = some o ∧ o.dst = some d ∧ d < n ∧ yS P n ops m E0 H prev o b) ∧ mL P n ops m E0 H prev
def Dr (P : Program) (R : iA) (cx : Cx) (n : Nat) (ops : List Oper) (m : Nat) (k : List It) (E0 : dC) (H : Hp) (l : List Oper) (acc : List (Nat × Ob)) : Prop :=
 ops = (ops.take acc.length) ++ l → mL P n ops m E0 H acc → ∀ id,Tr P R cx n (.code (.region id ops.toArray true) :: k) E0 H
def Fin' (P : Program) (R : iA) (cx : Cx) (n : Nat) (ops : Array Oper) (l : List Oper) (k : List It) : List (Nat × Ob) → dC → Hp → Prop
 | [],E,H=>Rg P R cx n ops l k E H
 | (d,.val T) :: r,E,H=>Fin' P R cx n ops l k r ((d,T) :: E) H
 | (d,.blk _ true γ T A) :: r,E,H=>∀ x:γ,Fin' P R cx n ops l k r ((d,T x) :: E) (H ++ [A x])
 | (d,.blk _ false γ T A) :: r,E,H=>∀ x:γ,Fin' P R cx n ops l k r ((d,T x) :: E) H
 | (d,.dep t u F _) :: r,E,H=>∀ T U,fR E t = some T → fR E u = some U → Fin' P R cx n ops l k r ((d,F T U) :: E) H
theorem D_start {ops:List Oper} {m:Nat} {id:Nat} (h:Dr P R cx n ops m k E H ops []):Tr P R cx n (.code (.region id ops.toArray true) :: k) E H:=h (by simp) trivial id
theorem D_step {ops l : List Oper} {m : Nat} {o : Oper} {acc : List (Nat × Ob)} {d : Nat} {T : Ty} {Ei : dC} (hd : o.dst = some d) (hn : Nat.blt d n = true) (hs : Srcs ops m E acc o Ei) (hst : iB P n ops.toArray Ei H o T)
  (h:Dr P R cx n ops m k E H l ((d,.val T) :: acc)):Dr P R cx n ops m k E H (o :: l) acc:=fun hops hobs=>by
 have hlen : acc.length ≤ ops.length := by
  have:=congrArg List.length hops
  simp at this; omega
 have ho : ops[acc.length]? = some o := by
  rw [hops,List.getElem?_append_right (by simp; omega)]
  simp [Nat.min_eq_left hlen]
 have hlt:acc.length < ops.length:=(List.getElem?_eq_some_iff.1 ho).1
 refine h ?_ ⟨⟨o,ho,hd,Nat.le_of_ble_eq_true hn,Ei,hs,hst⟩,hobs⟩
 rw [List.length_cons,List.take_succ_eq_append_getElem hlt]
 have:ops[acc.length] = o:=by simpa [hlt] using ho
 rw [this]
 simpa using hops
theorem a1D (kp : Bool) {ops l : List Oper} {m : Nat} {o : Oper} {acc : List (Nat × Ob)} {d : Nat} {γ : Type} {T : γ → Ty} {A : γ → SA} {Ei : dC} (hg : o.guard = none) (hd : o.dst = some d) (hn : Nat.blt d n = true) (hs : Srcs ops m E acc o Ei) (hst : iV P n Ei H o γ T A)
  (h:Dr P R cx n ops m k E H l ((d,.blk none kp γ T A) :: acc)):Dr P R cx n ops m k E H (o :: l) acc:=fun hops hobs=>by
 have hlen : acc.length ≤ ops.length := by
  have:=congrArg List.length hops
  simp at this; omega
 have ho : ops[acc.length]? = some o := by
  rw [hops,List.getElem?_append_right (by simp; omega)]
  simp [Nat.min_eq_left hlen]
 have hlt:acc.length < ops.length:=(List.getElem?_eq_some_iff.1 ho).1
 refine h ?_ ⟨⟨o,ho,hd,Nat.le_of_ble_eq_true hn,hg,Ei,hs,hst⟩,hobs⟩
 rw [List.length_cons,List.take_succ_eq_append_getElem hlt]
 have:ops[acc.length] = o:=by simpa [hlt] using ho
 rw [this]
 simpa using hops
theorem D_new {ops l : List Oper} {m : Nat} {o : Oper} {acc : List (Nat × Ob)} {d : Nat} {γ : Type} {T : γ → Ty} {A : γ → SA} {Ei : dC} (hg : o.guard = none) (hd : o.dst = some d) (hn : Nat.blt d n = true) (hs : Srcs ops m E acc o Ei) (hst : iV P n Ei H o γ T A)
  (h:Dr P R cx n ops m k E H l ((d,.blk none true γ T A) :: acc)):Dr P R cx n ops m k E H (o :: l) acc:=a1D true hg hd hn hs hst h
theorem a35 {ops l : List Oper} {m : Nat} {o : Oper} {acc : List (Nat × Ob)} {d t u : Nat} {b b' : Ob} (F : Ty → Ty → Ty) (I : Ty → Prop) (j j' : Nat) (hd : o.dst = some d) (hn : Nat.blt d n = true) (hj : acc.reverse[j]? = some (t, b)) (he : (o.after.toList.any fun e => Nat.beq e.on j && Region.binds .any e) = true)
  (hj':acc.reverse[j']? = some (u,b')) (he':(o.after.toList.any fun e=>Nat.beq e.on j' && Region.binds .any e) = true) (hst:∀ T U,Kh b T → Kh b' U → iB P n ops.toArray [(t,T),(u,U)] H o (F T U) ∧ I (F T U))
  (h:Dr P R cx n ops m k E H l ((d,.dep t u F I) :: acc)):Dr P R cx n ops m k E H (o :: l) acc:=fun hops hobs=>by
 have hlen : acc.length ≤ ops.length := by
  have:=congrArg List.length hops
  simp at this; omega
 have ho : ops[acc.length]? = some o := by
  rw [hops,List.getElem?_append_right (by simp; omega)]
  simp [Nat.min_eq_left hlen]
 have hlt:acc.length < ops.length:=(List.getElem?_eq_some_iff.1 ho).1
 refine h ?_ ⟨⟨o,ho,hd,Nat.le_of_ble_eq_true hn,j,b,j',b',hj,he,hj',he',hst⟩,hobs⟩
 rw [List.length_cons,List.take_succ_eq_append_getElem hlt]
 have:ops[acc.length] = o:=by simpa [hlt] using ho
 rw [this]
 simpa using hops
def jN : Ob → Ty × SA → Prop
 | .val T,c=>c = (T,SA.emp)
 | .blk _ kp γ T A,c=>∃ x:γ,c.1 = T x ∧ (kp = true → c.2 = A x)
 | .dep _ _ _ I,c=>c.2 = SA.emp ∧ I c.1
theorem jN.fits : ∀ {b : Ob} {c : Ty × SA}, jN b c → Kh b c.1
 | .val T,c,h=>by rw [show c = (T,SA.emp) from h]; rfl
 | .blk _ _ _ _ _,c,h=>by obtain ⟨x,h1,_⟩:=h; exact ⟨x,h1⟩
 | .dep _ _ _ _,_,h=>h.2
theorem mL.get {ops : List Oper} {m : Nat} : ∀ {acc : List (Nat × Ob)}, mL P n ops m E H acc → ∀ {i : Nat} {d : Nat} {b : Ob}, acc.reverse[i]? = some (d, b) →
  ∃ o,ops[i]? = some o ∧ o.dst = some d ∧ d < n ∧ yS P n ops m E H ((acc.reverse.take i).reverse) o b
 | [],_,i,d,b,h=>by simp at h
 | (d', b') :: prev, ⟨⟨o, h1, h2, h3, h4⟩, hp⟩, i, d, b, h => by
  rw [List.reverse_cons] at h
  by_cases e:i < prev.reverse.length
  ·rw [List.getElem?_append_left e] at h
   obtain ⟨o',q1,q2,q3,q4⟩:=hp.get h
   refine ⟨o',q1,q2,q3,?_⟩
   rw [List.reverse_cons,List.take_append_of_le_length (by omega)]; exact q4
  ·have hi : i = prev.length := by
    have:=(List.getElem?_eq_some_iff.1 h).1
    simp at this e; omega
   subst hi
   rw [List.getElem?_append_right (by simp)] at h
   simp at h
   obtain ⟨rfl,rfl⟩:=h
   refine ⟨o,h1,h2,h3,?_⟩
   rw [List.reverse_cons,List.take_append_of_le_length (by simp),List.take_of_length_le (by simp),List.reverse_reverse]
   exact h4
theorem mL.len {ops : List Oper} {m : Nat} : ∀ {acc : List (Nat × Ob)}, mL P n ops m E H acc → ∀ i (h : i < acc.length), ∃ d b, acc.reverse[i]? = some (d, b) := fun {acc} _ i h =>
 ⟨_,_,by rw [List.getElem?_eq_getElem (by simpa using h)]⟩
def AtS (r : List (Nat × Ob)) (E : dC) (C : Nat → Ty × SA) (i0 i t : Nat) (T : Ty) : Prop :=
 (∃ q b,q < i ∧ r[q]? = some (t,b) ∧ T = (C (i0 + q)).1 ∧ ∀ q' d' b',q < q' → q' < i → r[q']? = some (d',b') → d' ≠ t) ∨ (fR E t = some T ∧ ∀ q' d' b',q' < i → r[q']? = some (d',b') → d' ≠ t)
theorem AtS.next {r:List (Nat × Ob)} {d0:Nat} {b0:Ob} {E:dC} {C:Nat → Ty × SA} {i0 i t:Nat} {T:Ty} (h:AtS ((d0,b0) :: r) E C i0 (i + 1) t T):AtS r ((d0,(C i0).1) :: E) C (i0 + 1) i t T:=by
 rcases h with ⟨q,b,h1,h2,h3,h4⟩ | ⟨h1,h2⟩
 ·cases q with
  | zero =>
   simp at h2
   obtain ⟨rfl,rfl⟩:=h2
   right
   refine ⟨?_,fun q' d' b' hq hr=>h4 (q' + 1) d' b' (by omega) (by omega) (by simpa using hr)⟩
   rw [dH,if_pos rfl,h3,Nat.add_zero]
  | succ q =>
   left
   refine ⟨q,b,by omega,by simpa using h2,?_,fun q' d' b' hq hq2 hr=>h4 (q' + 1) d' b' (by omega) (by omega) (by simpa using hr)⟩
   rw [h3,show i0 + (q + 1) = i0 + 1 + q by omega]
 ·right
  have h0:d0 ≠ t:=h2 0 d0 b0 (by omega) rfl
  refine ⟨?_,fun q' d' b' hq hr=>h2 (q' + 1) d' b' (by omega) (by simpa using hr)⟩
  rw [dH,if_neg h0,h1]
def a1E (r:List (Nat × Ob)) (E:dC) (C:Nat → Ty × SA) (i0:Nat):Prop:=∀ (i d t u:Nat) (F:Ty → Ty → Ty) (I:Ty → Prop),r[i]? = some (d,.dep t u F I) → ∃ T U,(C (i0 + i)).1 = F T U ∧ AtS r E C i0 i t T ∧ AtS r E C i0 i u U
theorem zK {r : List (Nat × Ob)} {d0 : Nat} {b0 : Ob} {E : dC} {C : Nat → Ty × SA} {i0 : Nat} (hG : a1E ((d0, b0) :: r) E C i0) : a1E r ((d0, (C i0).1) :: E) C (i0 + 1) := fun i d t u F I h => by
 obtain ⟨T,U,h1,h2,h3⟩:=hG (i + 1) d t u F I (by simpa using h)
 exact ⟨T,U,by rw [← h1,show i0 + (i + 1) = i0 + 1 + i by omega],h2.next,h3.next⟩
theorem iX {ops : List Oper} {l : List Oper} : ∀ (r : List (Nat × Ob)) (E : dC) (H : Hp), Fin' P R cx n ops.toArray l k r E H → ∀ (C : Nat → Ty × SA) (i0 : Nat), (∀ (i d : Nat) (b : Ob), r[i]? = some (d, b) → jN b (C (i0 + i))) → a1E r E C i0 →
  ∃ E' H', Rg P R cx n ops.toArray l k E' H' ∧ (∀ t T, fR E' t = some T → (fR E t = some T ∧ ∀ (i d : Nat) (b : Ob), r[i]? = some (d, b) → d ≠ t) ∨ ∃ (i d : Nat) (b : Ob), r[i]? = some (d, b) ∧ d = t ∧ T = (C (i0 + i)).1) ∧
   List.Sublist H' (H ++ (List.range r.length).map fun i=>(C (i0 + i)).2)
 | [],E,H,h,_,_,_,_=>⟨E,H,h,fun t T hT=>.inl ⟨hT,fun i d b hb=>by simp at hb⟩,by simp⟩
 | (d, .val T0) :: r, E, H, h, C, i0, hC, hG => by
  have h0':(C i0).1 = T0:=by rw [show C i0 = (T0,SA.emp) from hC 0 d (.val T0) rfl]
  obtain ⟨E',H',h1,h2,h3⟩:=iX r _ H h C (i0 + 1) (fun i d b hb=>by have:=hC (i + 1) d b (by simpa using hb); rwa [show i0 + (i + 1) = i0 + 1 + i by omega] at this) (by rw [← h0']; exact zK hG)
  have h0:C i0 = (T0,SA.emp):=hC 0 d (.val T0) rfl
  refine ⟨E',H',h1,fun t T hT=>?_,h3.trans ?_⟩
  ·rcases h2 t T hT with ⟨q1, q2⟩ | ⟨i, d', b, q1, q2, q3⟩
   ·rw [dH] at q1
    by_cases e:d = t
    ·rw [if_pos e] at q1; obtain rfl := Option.some.inj q1
     exact .inr ⟨0,d,_,rfl,e,by rw [Nat.add_zero,h0]⟩
    ·rw [if_neg e] at q1
     refine .inl ⟨q1,fun i d' b hb=>?_⟩
     cases i with
     | zero=>simp at hb; exact hb.1 ▸ e
     | succ i=>exact q2 i d' b (by simpa using hb)
   ·exact .inr ⟨i + 1,d',b,by simpa using q1,q2,by rw [q3,show i0 + (i + 1) = i0 + 1 + i by omega]⟩
  ·simp only [List.length_cons, List.range_succ_eq_map, List.map_cons, List.map_map]
   refine List.Sublist.append (List.Sublist.refl H) ?_
   refine List.Sublist.cons _ ?_
   have : (fun i => (C (i0 + 1 + i)).2) = ((fun i => (C (i0 + i)).2) ∘ Nat.succ) := by
    funext i; simp [show i0 + (i + 1) = i0 + 1 + i by omega]
   rw [this]; exact List.Sublist.refl _
 | (d, .dep t0 u0 F0 I0) :: r, E, H, h, C, i0, hC, hG => by
  obtain ⟨T0,U0,hF,hA,hB⟩:=hG 0 d t0 u0 F0 I0 rfl
  rw [Nat.add_zero] at hF
  have hl0 : fR E t0 = some T0 := by
   rcases hA with ⟨q,_,hq,_⟩ | ⟨h1,_⟩
   ·omega
   ·exact h1
  have hl1 : fR E u0 = some U0 := by
   rcases hB with ⟨q,_,hq,_⟩ | ⟨h1,_⟩
   ·omega
   ·exact h1
  obtain ⟨E',H',h1,h2,h3⟩:=iX r _ H (h _ _ hl0 hl1) C (i0 + 1) (fun i d b hb=>by have:=hC (i + 1) d b (by simpa using hb); rwa [show i0 + (i + 1) = i0 + 1 + i by omega] at this) (by rw [← hF]; exact zK hG)
  refine ⟨E',H',h1,fun t T hT=>?_,h3.trans ?_⟩
  ·rcases h2 t T hT with ⟨q1, q2⟩ | ⟨i, d', b, q1, q2, q3⟩
   ·rw [dH] at q1
    by_cases e:d = t
    ·rw [if_pos e] at q1; obtain rfl := Option.some.inj q1
     exact .inr ⟨0,d,_,rfl,e,by rw [Nat.add_zero,hF]⟩
    ·rw [if_neg e] at q1
     refine .inl ⟨q1,fun i d' b hb=>?_⟩
     cases i with
     | zero=>simp at hb; exact hb.1 ▸ e
     | succ i=>exact q2 i d' b (by simpa using hb)
   ·exact .inr ⟨i + 1,d',b,by simpa using q1,q2,by rw [q3,show i0 + (i + 1) = i0 + 1 + i by omega]⟩
  ·simp only [List.length_cons, List.range_succ_eq_map, List.map_cons, List.map_map]
   refine List.Sublist.append (List.Sublist.refl H) ?_
   refine List.Sublist.cons _ ?_
   have : (fun i => (C (i0 + 1 + i)).2) = ((fun i => (C (i0 + i)).2) ∘ Nat.succ) := by
    funext i; simp [show i0 + (i + 1) = i0 + 1 + i by omega]
   rw [this]; exact List.Sublist.refl _
 | (d, .blk src0 true γ T0 A0) :: r, E, H, h, C, i0, hC, hG => by
  obtain ⟨x, h0⟩ : ∃ x : γ, C i0 = (T0 x, A0 x) := by
   obtain ⟨x,q1,q2⟩:=hC 0 d (.blk src0 true γ T0 A0) rfl
   exact ⟨x,Prod.ext q1 (q2 rfl)⟩
  obtain ⟨E',H',h1,h2,h3⟩:=iX r _ _ (h x) C (i0 + 1) (fun i d b hb=>by have:=hC (i + 1) d b (by simpa using hb); rwa [show i0 + (i + 1) = i0 + 1 + i by omega] at this) (by rw [show T0 x = (C i0).1 by rw [h0]]; exact zK hG)
  refine ⟨E',H',h1,fun t T hT=>?_,h3.trans ?_⟩
  ·rcases h2 t T hT with ⟨q1, q2⟩ | ⟨i, d', b, q1, q2, q3⟩
   ·rw [dH] at q1
    by_cases e:d = t
    ·rw [if_pos e] at q1; obtain rfl := Option.some.inj q1
     exact .inr ⟨0,d,_,rfl,e,by rw [Nat.add_zero,h0]⟩
    ·rw [if_neg e] at q1
     refine .inl ⟨q1,fun i d' b hb=>?_⟩
     cases i with
     | zero=>simp at hb; exact hb.1 ▸ e
     | succ i=>exact q2 i d' b (by simpa using hb)
   ·exact .inr ⟨i + 1,d',b,by simpa using q1,q2,by rw [q3,show i0 + (i + 1) = i0 + 1 + i by omega]⟩
  ·simp only [List.length_cons, List.range_succ_eq_map, List.map_cons, List.map_map, List.append_assoc]
   refine List.Sublist.append (List.Sublist.refl H) ?_
   have : (fun i => (C (i0 + 1 + i)).2) = ((fun i => (C (i0 + i)).2) ∘ Nat.succ) := by
    funext i; simp [show i0 + (i + 1) = i0 + 1 + i by omega]
   rw [this]
   simp only [Nat.add_zero,h0]
   exact List.Sublist.refl _
 | (d, .blk src0 false γ T0 A0) :: r, E, H, h, C, i0, hC, hG => by
  obtain ⟨x,h0,_⟩:∃ x:γ,(C i0).1 = T0 x ∧ (false = true → (C i0).2 = A0 x):=hC 0 d (.blk src0 false γ T0 A0) rfl
  obtain ⟨E',H',h1,h2,h3⟩:=iX r _ H (h x) C (i0 + 1) (fun i d b hb=>by have:=hC (i + 1) d b (by simpa using hb); rwa [show i0 + (i + 1) = i0 + 1 + i by omega] at this) (by rw [← h0]; exact zK hG)
  refine ⟨E',H',h1,fun t T hT=>?_,h3.trans ?_⟩
  ·rcases h2 t T hT with ⟨q1, q2⟩ | ⟨i, d', b, q1, q2, q3⟩
   ·rw [dH] at q1
    by_cases e:d = t
    ·rw [if_pos e] at q1; obtain rfl := Option.some.inj q1
     exact .inr ⟨0,d,_,rfl,e,by rw [Nat.add_zero,h0]⟩
    ·rw [if_neg e] at q1
     refine .inl ⟨q1,fun i d' b hb=>?_⟩
     cases i with
     | zero=>simp at hb; exact hb.1 ▸ e
     | succ i=>exact q2 i d' b (by simpa using hb)
   ·exact .inr ⟨i + 1,d',b,by simpa using q1,q2,by rw [q3,show i0 + (i + 1) = i0 + 1 + i by omega]⟩
  ·simp only [List.length_cons, List.range_succ_eq_map, List.map_cons, List.map_map]
   refine List.Sublist.append (List.Sublist.refl H) ?_
   refine List.Sublist.cons _ ?_
   have : (fun i => (C (i0 + 1 + i)).2) = ((fun i => (C (i0 + i)).2) ∘ Nat.succ) := by
    funext i; simp [show i0 + (i + 1) = i0 + 1 + i by omega]
   rw [this]; exact List.Sublist.refl _
theorem mL.dst {ops:List Oper} {m:Nat} {acc:List (Nat × Ob)} (h:mL P n ops m E H acc) {i d:Nat} {b:Ob} (hi:acc.reverse[i]? = some (d,b)):fO ops i = some d:=by
 obtain ⟨o,h1,h2,_⟩:=h.get hi
 simp [fO,h1,h2]
theorem rI {ops : List Oper} {m : Nat} {acc : List (Nat × Ob)} {E0 : dC} (hd : Kg ops m) (hlen : acc.length = m) (hobs : mL P n ops m E0 H acc) (hfin : Fin' P R cx n ops.toArray (ops.drop m) k acc.reverse E0 H)
  {L:Nat → Bool} {a:Act} {w:World} {V:aT} {C:Nat → Ty × SA} (hall:∀ i,i < m → L i = true) (hC:∀ (i d:Nat) (b:Ob),acc.reverse[i]? = some (d,b) → jN b (C i)) (hP:∀ (i d t u:Nat) (F:Ty → Ty → Ty) (I:Ty → Prop),acc.reverse[i]? = some (d,.dep t u F I) → ∃ q b q' b',(q < i ∧ acc.reverse[q]? = some (t,b)) ∧ (q' < i ∧ acc.reverse[q']? = some (u,b')) ∧ (C i).1 = F (C q).1 (C q').1) (hM:vP cx n ops m E0 H L C V a w) :
  wpList P ops.toArray (den P R k) (ops.drop m) a w:=by
 obtain ⟨E', H', h1, h2, h3⟩ := iX acc.reverse E0 H hfin C 0 (fun i d b hb => by rw [Nat.zero_add]; exact hC i d b hb) (fun i d t u F I ht => by
  obtain ⟨q,b,q',b',⟨q1,q2⟩,⟨p1,p2⟩,q3⟩:=hP i d t u F I ht
  have hi:=(List.getElem?_eq_some_iff.1 ht).1
  rw [List.length_reverse,hlen] at hi
  refine ⟨(C q).1,(C q').1,by rw [Nat.zero_add]; exact q3,.inl ⟨q,b,q1,q2,by rw [Nat.zero_add],fun z d' b' h1 h2 h3 e=>?_⟩,.inl ⟨q',b',p1,p2,by rw [Nat.zero_add],fun z d' b' h1 h2 h3 e=>?_⟩⟩
  ·subst e; exact hd.dst z q (by omega) h1 _ (hobs.dst h3) (hobs.dst q2)
  ·subst e; exact hd.dst z q' (by omega) h1 _ (hobs.dst h3) (hobs.dst p2))
 refine h1 a w ⟨V,hM.inv.hp_of (fun hh=>?_),hM.df,hM.sz,fun t T hT=>?_⟩
 ·refine HH.sublist (h3.trans ?_) hh
  rw [List.length_reverse,hlen]
  have : (List.range m).map (fun i => (C (0 + i)).2) = (List.range m).map fun i => if L i then (C i).2 else SA.emp := by
   apply List.map_congr_left
   intro i hi
   rw [hall i (List.mem_range.1 hi)]; simp
  rw [this]; exact List.Sublist.refl _
 ·rcases h2 t T hT with ⟨q1, q2⟩ | ⟨i, d, b, q1, q2, q3⟩
  ·refine hM.old t T q1 (fun j hj => ?_)
   obtain ⟨d,b,hb⟩:=mL.len hobs j (by omega)
   rw [hobs.dst hb]
   intro e; exact q2 j d b hb (Option.some.inj e)
  ·have hi : i < m := by have := (List.getElem?_eq_some_iff.1 q1).1; simpa [hlen] using this
   subst q2; rw [q3,Nat.zero_add]
   exact hM.now i d hi (hall i hi) (hobs.dst q1)
theorem mY {ops : List Oper} {m : Nat} {acc : List (Nat × Ob)} {E0 : dC} (hd : Kg ops m) (hlen : acc.length = m) (hobs : mL P n ops m E0 H acc) (hfin : Fin' P R cx n ops.toArray (ops.drop m) k acc.reverse E0 H) :
  ∀ (fuel : Nat) (listed : Array Bool) (a : Act) (w : World) (V : aT) (C : Nat → Ty × SA), LI ops listed → iZ listed.toList ≤ fuel → (∀ i : Nat, m ≤ i → i < ops.length → listed[i]? = some false) →
   (∀ (i d:Nat) (b:Ob),acc.reverse[i]? = some (d,b) → listed[i]? = some true → jN b (C i)) → (∀ (i d t u:Nat) (F:Ty → Ty → Ty) (I:Ty → Prop),acc.reverse[i]? = some (d,.dep t u F I) → listed[i]? = some true → ∃ q b q' b',(q < i ∧ acc.reverse[q]? = some (t,b) ∧ listed[q]? = some true) ∧ (q' < i ∧ acc.reverse[q']? = some (u,b') ∧ listed[q']? = some true) ∧ (C i).1 = F (C q).1 (C q').1) → (∀ (i d:Nat) (src:Option Nat) (γ:Type) (T:γ → Ty) (A:γ → SA),acc.reverse[i]? = some (d,.blk src false γ T A) → listed[i]? = some true → (∀ (j d':Nat) (kp:Bool) (γ':Type) (T':γ' → Ty) (A':γ' → SA),acc.reverse[j]? = some (d',.blk (some i) kp γ' T' A') → listed[j]? = some false) → ∃ x:γ,C i = (T x,A x)) → vP cx n ops m E0 H (fun i=>listed[i]? == some true) C V a w → wpAny P .any ops.toArray (den P R k) fuel listed a w:=by
 intro fuel
 have done : ∀ (listed : Array Bool) (a : Act) (w : World) (V : aT) (C : Nat → Ty × SA), LI ops listed → ∀ fuel, iZ listed.toList ≤ fuel → (∀ i : Nat, m ≤ i → i < ops.length → listed[i]? = some false) →
   (∀ (i d:Nat) (b:Ob),acc.reverse[i]? = some (d,b) → listed[i]? = some true → jN b (C i)) → (∀ (i d t u:Nat) (F:Ty → Ty → Ty) (I:Ty → Prop),acc.reverse[i]? = some (d,.dep t u F I) → listed[i]? = some true → ∃ q b q' b',(q < i ∧ acc.reverse[q]? = some (t,b) ∧ listed[q]? = some true) ∧ (q' < i ∧ acc.reverse[q']? = some (u,b') ∧ listed[q']? = some true) ∧ (C i).1 = F (C q).1 (C q').1) → vP cx n ops m E0 H (fun i=>listed[i]? == some true) C V a w → (∀ i:Nat,i < m → listed[i]? = some true) → wpAny P .any ops.toArray (den P R k) fuel listed a w:=by
  intro listed a w V C hL fuel hc hl hC hP hM hall
  have hge:=yX listed.toList m (by simpa [hL.sz] using hd.le) (fun i h1 h2=>by simpa using hl i h1 (by simpa [hL.sz] using h2))
  refine qT hd fuel m listed a w (Nat.le_refl m) hd.le (by simp [hL.sz] at hge; omega) hL (fun i hi=>?_) ?_
  ·by_cases e : i < m
   ·rw [hall i e]; simp [e]
   ·rw [hl i (by omega) hi]; simp; omega
  ·refine rI hd hlen hobs hfin (fun i hi => by rw [hall i hi]; rfl) (fun i d b hb => hC i d b hb (hall i ?_)) (fun i d t u F I ht => by
    obtain ⟨q,b,q',b',⟨q1,q2,_⟩,⟨p1,p2,_⟩,q3⟩:=hP i d t u F I ht (hall i (by have:=(List.getElem?_eq_some_iff.1 ht).1; simpa [hlen] using this))
    exact ⟨q,b,q',b',⟨q1,q2⟩,⟨p1,p2⟩,q3⟩) hM
   have:=(List.getElem?_eq_some_iff.1 hb).1
   simpa [hlen] using this
 induction fuel with
 | zero =>
  intro listed a w V C hL hc hl hC hP hA hM
  refine done listed a w V C hL 0 hc hl hC hP hM (fun i hi=>?_)
  have hil:i < listed.size:=by rw [hL.sz]; have:=hd.le; omega
  cases hb:listed[i] with
  | true=>simp [hil,hb]
  | false =>
   have:=rZ listed.toList i (by simp [hil,hb])
   omega
 | succ fuel ih =>
  intro listed a w V C hL hc hl hC hP hA hM
  by_cases hall:∀ i:Nat,i < m → listed[i]? = some true
  ·exact done listed a w V C hL _ hc hl hC hP hM hall
  refine ⟨fun hr=>absurd (fun i hi=>qQ hr hL.sz hd.back i (by have:=hd.le; omega)) hall,fun i hi=>?_⟩
  obtain ⟨o,h1,h2,h3⟩:=oE hi hL.sz
  have him : i < m := by
   rcases Nat.lt_or_ge i m with hx | hx
   ·exact hx
   ·exact absurd (fun j hj=>hL.before hd h1 h3 hx j (by omega)) hall
  obtain ⟨d,b,hb⟩:=mL.len hobs i (by omega)
  obtain ⟨o',q1,q2,q3,q4⟩:=hobs.get hb
  rw [h1] at q1; obtain rfl:=Option.some.inj q1
  have hdst:=hobs.dst hb
  have slots : ∀ Ei, Srcs ops m E0 (acc.reverse.take i).reverse o Ei → fC n Ei V a := fun Ei hS => by
   refine ⟨hM.df,hM.sz,fun t T hT=>?_⟩
   rcases hS t T hT with ⟨r1,r2⟩ | ⟨j,r1,r2⟩
   ·refine hM.old t T r1 (fun j hj e => ?_)
    have:=List.all_eq_true.1 r2 j (List.mem_range.2 hj)
    simp [e] at this
   ·rw [List.reverse_reverse, List.getElem?_take] at r1
    split at r1
    case isFalse=>cases r1
    case isTrue hji =>
    obtain ⟨e,he,hb'⟩:=List.any_eq_true.1 r2
    simp only [Bool.and_eq_true] at hb'
    have hon:e.on = j:=Nat.eq_of_beq_eq_true hb'.1
    have hlj:=h3 e he hb'.2
    rw [hon] at hlj
    have hc':C j = (T,SA.emp):=hC j t (.val T) r1 hlj
    obtain ⟨v,s1,s2⟩:=hM.now j t (by omega) (by rw [hlj]; rfl) (hobs.dst r1)
    exact ⟨v,s1,by rw [hc'] at s2; exact s2⟩
  have hcnt : iZ (listed.setIfInBounds i true).toList ≤ fuel := by
   have:=sA listed.toList i (by simpa using h2)
   rw [Array.toList_setIfInBounds]; omega
  have hl' : ∀ j : Nat, m ≤ j → j < ops.length → (listed.setIfInBounds i true)[j]? = some false := fun j hj hjl => by
   rw [Array.getElem?_setIfInBounds_ne (by omega)]; exact hl j hj hjl
  have took : ∀ (C : Nat → Ty × SA), (∀ (i d : Nat) (b : Ob), acc.reverse[i]? = some (d, b) → listed[i]? = some true → jN b (C i)) → ∀ (T : Ty) (A : SA), jN b (T, A) → ∀ (j d : Nat) (b : Ob), acc.reverse[j]? = some (d, b) → (listed.setIfInBounds i true)[j]? = some true → jN b (if j = i then (T, A) else C j) := fun C hC T A ht j d' b' hb' hj => by
   by_cases e:j = i
   ·subst e
    rw [hb] at hb'; simp at hb'
    simp only [if_pos]; exact hb'.2 ▸ ht
   ·rw [Array.getElem?_setIfInBounds_ne (fun x => e x.symm)] at hj
    simp only [if_neg e]; exact hC j d' b' hb' hj
  have keepP : ∀ (C : Nat → Ty × SA), (∀ (i d t u : Nat) (F : Ty → Ty → Ty) (I : Ty → Prop), acc.reverse[i]? = some (d, .dep t u F I) → listed[i]? = some true → ∃ q b q' b', (q < i ∧ acc.reverse[q]? = some (t, b) ∧ listed[q]? = some true) ∧ (q' < i ∧ acc.reverse[q']? = some (u, b') ∧ listed[q']? = some true) ∧ (C i).1 = F (C q).1 (C q').1) → ∀ (T : Ty) (A : SA), (∀ t u F I, b = .dep t u F I → ∃ q b' q' b'', (q < i ∧ acc.reverse[q]? = some (t, b') ∧ listed[q]? = some true) ∧ (q' < i ∧ acc.reverse[q']? = some (u, b'') ∧ listed[q']? = some true) ∧ T = F (C q).1 (C q').1) →
    ∀ (j d t u:Nat) (F:Ty → Ty → Ty) (I:Ty → Prop),acc.reverse[j]? = some (d,.dep t u F I) → (listed.setIfInBounds i true)[j]? = some true → ∃ q b q' b',(q < j ∧ acc.reverse[q]? = some (t,b) ∧ (listed.setIfInBounds i true)[q]? = some true) ∧ (q' < j ∧ acc.reverse[q']? = some (u,b') ∧ (listed.setIfInBounds i true)[q']? = some true) ∧ (if j = i then (T,A) else C j).1 = F (if q = i then (T,A) else C q).1 (if q' = i then (T,A) else C q').1:=fun C hP T A hT j d' t u F I hj hlj=>by
   have nei:∀ q,listed[q]? = some true → q ≠ i:=fun q h e=>by rw [e,h2] at h; cases h
   have up:∀ q,listed[q]? = some true → (listed.setIfInBounds i true)[q]? = some true:=fun q h=>by rw [Array.getElem?_setIfInBounds_ne (fun x=>nei q h x.symm)]; exact h
   by_cases e:j = i
   ·subst e
    rw [hb] at hj; simp at hj
    obtain ⟨q,b',q',b'',⟨e1,e2,e3⟩,⟨g1,g2,g3⟩,e4⟩:=hT t u F I hj.2
    exact ⟨q,b',q',b'',⟨e1,e2,up q e3⟩,⟨g1,g2,up q' g3⟩,by rw [if_pos rfl,if_neg (nei q e3),if_neg (nei q' g3)]; exact e4⟩
   ·rw [Array.getElem?_setIfInBounds_ne (fun x => e x.symm)] at hlj
    obtain ⟨q,b',q',b'',⟨e1,e2,e3⟩,⟨g1,g2,g3⟩,e4⟩:=hP j d' t u F I hj hlj
    exact ⟨q,b',q',b'',⟨e1,e2,up q e3⟩,⟨g1,g2,up q' g3⟩,by rw [if_neg e,if_neg (nei q e3),if_neg (nei q' g3)]; exact e4⟩
  have keepA : ∀ (C' : Nat → Ty × SA), (∀ j, j ≠ i → (∀ (d' : Nat) (kp : Bool) (γ' : Type) (T' : γ' → Ty) (A' : γ' → SA), acc.reverse[i]? = some (d', .blk (some j) kp γ' T' A') → False) → C' j = C j) → ∀ (T : Ty) (A : SA), (∀ src γ T' A', b = .blk src false γ T' A' → ∃ x, (T, A) = (T' x, A' x)) →
    ∀ (j d:Nat) (src:Option Nat) (γ:Type) (T':γ → Ty) (A':γ → SA),acc.reverse[j]? = some (d,.blk src false γ T' A') → (listed.setIfInBounds i true)[j]? = some true → (∀ (j' d':Nat) (kp:Bool) (γ':Type) (T':γ' → Ty) (A':γ' → SA),acc.reverse[j']? = some (d',.blk (some j) kp γ' T' A') → (listed.setIfInBounds i true)[j']? = some false) → ∃ x:γ,(if j = i then (T,A) else C' j) = (T' x,A' x):=fun C' hC' T A hT j d' src γ T' A' hj hlj hun=>by
   by_cases e:j = i
   ·subst e
    rw [hb] at hj; simp at hj
    simp only [if_pos]; exact hT src γ T' A' hj.2
   ·rw [Array.getElem?_setIfInBounds_ne (fun x => e x.symm)] at hlj
    have hil:i < listed.size:=(Array.getElem?_eq_some_iff.1 h2).1
    have hne : ∀ (j' d' : Nat) (kp : Bool) (γ' : Type) (T' : γ' → Ty) (A' : γ' → SA), acc.reverse[j']? = some (d', .blk (some j) kp γ' T' A') → j' ≠ i := fun j' d' kp γ' T' A' q1 q2 => by
     have:=hun j' d' kp γ' T' A' q1
     rw [q2,Array.getElem?_setIfInBounds_self_of_lt hil] at this
     cases this
    rw [if_neg e,hC' j e (fun d' kp γ' T' A' q=>hne i d' kp γ' T' A' q rfl)]
    refine hA j d' src γ T' A' hj hlj (fun j' d' kp γ' T' A' q=>?_)
    have:=hun j' d' kp γ' T' A' q
    rwa [Array.getElem?_setIfInBounds_ne (fun x=>hne j' d' kp γ' T' A' q x.symm)] at this
  have hx : ((List.range m).map fun i => if (listed[i]? == some true) = true then (C i).2 else SA.emp).set i SA.emp = (List.range m).map fun i => if (listed[i]? == some true) = true then (C i).2 else SA.emp := by
   rw [nX him]
   apply List.map_congr_left
   intro j _
   by_cases e:j = i
   ·subst e; simp [h2]
   ·simp [e]
  unfold wpOp
  simp only [List.getElem?_toArray,h1]
  cases b with
  | val T =>
   obtain ⟨Ei,hS,hst⟩:=q4
   have := hst cx _ a w V hM.inv (slots Ei hS) (wpAny P .any ops.toArray (den P R k) fuel (listed.setIfInBounds i true)) (den P R k) (fun v w' V' hi' hle hv => by
    rw [q2]
    exact ih _ _ _ V' _ (hL.set h1 h3) hcnt hl' (took C hC T SA.emp rfl) (keepP C hP T SA.emp (fun t u F I e=>by cases e)) (keepA C (fun _ _ _=>rfl) T SA.emp (fun src γ T' A' e=>by cases e)) (hM.next hd hL.sz him hdst q3 h2 hv hle (by rw [hx]; exact hi')))
   split
   ·rename_i hw; rw [if_pos hw] at this; exact .inl this
   ·rename_i hw; rw [if_neg hw] at this; exact this
  | blk src kp γ T A =>
   cases src with
   | none =>
    obtain ⟨hg,Ei,hS,hst⟩:=q4
    rw [if_pos (by simp [Region.wanted,hg])]
    left
    refine hst cx _ a w V hM.inv (slots Ei hS) _ _ fun x v w' V' e3 hle e2=>?_
    rw [q2]
    refine ih _ _ _ V' _ (hL.set h1 h3) hcnt hl' (took C hC (T x) (A x) ⟨x,rfl,fun _=>rfl⟩) (keepP C hP (T x) (A x) (fun t u F I e=>by cases e)) (keepA C (fun _ _ _=>rfl) (T x) (A x) (fun src γ T' A' e=>by cases e; exact ⟨x,rfl⟩)) (hM.next hd hL.sz him hdst q3 h2 e2 hle (e3.hp_of (fun hh=>?_)))
    have:=HH.move (p:=H.length + i) hh (by simp; omega)
    rw [List.set_append_right _ _ (by omega),show H.length + i - H.length = i by omega] at this
    exact this
   | some q =>
    obtain ⟨hg,Ei,t,src,γq,Tq,Aq,r1,r2,hS,hst,hu⟩:=q4
    rw [List.reverse_reverse,List.getElem?_take] at r1
    split at r1
    case isFalse=>cases r1
    case isTrue hqi =>
    obtain ⟨e,he,hb'⟩:=List.any_eq_true.1 r2
    simp only [Bool.and_eq_true] at hb'
    have hon:e.on = q:=Nat.eq_of_beq_eq_true hb'.1
    have hlq:=h3 e he hb'.2
    rw [hon] at hlq
    have hqm:q < m:=by omega
    obtain ⟨x, hx⟩ := hA q t src γq Tq Aq r1 hlq (fun j d' kp' γ' T' A' hj => by
     by_cases e:j = i
     ·rw [e]; exact h2
     rcases Nat.lt_or_ge j i with hji | hji
     ·exfalso
      have hmem : (d', Ob.blk (some q) kp' γ' T' A') ∈ (acc.reverse.take i) := by
       refine List.mem_of_getElem? (i:=j) ?_
       rw [List.getElem?_take,if_pos hji]; exact hj
      exact Cg hu (by simpa using hmem)
     ·exfalso
      obtain ⟨o',_,_,_,z4⟩:=hobs.get hj
      obtain ⟨_,_,_,_,_,_,_,_,_,_,_,hu'⟩:=z4
      have hmem : (d, Ob.blk (some q) kp γ T A) ∈ (acc.reverse.take j) := by
       refine List.mem_of_getElem? (i:=i) ?_
       rw [List.getElem?_take,if_pos (by omega)]; exact hb
      exact Cg hu' (by simpa using hmem))
    have hentry : (H ++ (List.range m).map fun i => if (listed[i]? == some true) = true then (C i).2 else SA.emp)[H.length + q]? = some (Aq x) := by
     rw [List.getElem?_append_right (by omega),show H.length + q - H.length = q by omega,List.getElem?_map,List.getElem?_range hqm]
     simp [hlq,hx]
    obtain ⟨v0,s1,s2⟩:=hM.now q t (by omega) (by rw [hlq]; rfl) (hobs.dst r1)
    rw [hx] at s2
    have hsl : fC n ((t, Tq x) :: Ei) V a := by
     have hs0:=slots Ei hS
     refine ⟨hs0.1,hs0.2.1,fun u U hU=>?_⟩
     rw [dH] at hU
     by_cases e:t = u
     ·rw [if_pos e] at hU; obtain rfl:=Option.some.inj hU; subst e; exact ⟨v0,s1,s2⟩
     ·rw [if_neg e] at hU; exact hs0.2.2 u U hU
    obtain ⟨y,v,w',e1,e2,e3⟩:=a1i (hst x) hM.inv hentry hsl
    rw [if_pos (by simp [Region.wanted,hg])]
    left
    simp only [Oper.wp,e1,Oper.upon_value,q2]
    obtain ⟨C1,hC1⟩:∃ C1:Nat → Ty × SA,C1 = fun j=>if j = q then ((C q).1,SA.emp) else C j:=⟨_,rfl⟩
    have hC1t : ∀ j, (C1 j).1 = (C j).1 := fun j => by
     rw [hC1]; by_cases e:j = q
     ·simp [e]
     ·simp [e]
    have hset : ((List.range m).map fun i => if (listed[i]? == some true) = true then (C1 i).2 else SA.emp) = ((List.range m).map fun i => if (listed[i]? == some true) = true then (C i).2 else SA.emp).set q SA.emp := by
     rw [nX hqm]
     apply List.map_congr_left
     intro j _
     by_cases e:j = q
     ·subst e; rw [hC1]; simp
     ·rw [hC1]; simp [e]
    have hM1 : vP cx n ops m E0 H (fun i => listed[i]? == some true) C1 V a w := by
     refine ⟨hM.inv.hp_of (fun hh=>?_),hM.df,hM.sz,hM.old,fun j d hj hL hd=>by rw [hC1t]; exact hM.now j d hj hL hd⟩
     rw [hset]
     have h5:=HH.last hh hentry
     rw [List.set_append_right _ _ (by omega),show H.length + q - H.length = q by omega] at h5
     exact HH.sublist (List.sublist_append_left _ _) h5
    refine ih _ _ _ V _ (hL.set h1 h3) hcnt hl' (took C1 (fun j d' b' hj hlj=>?_) (T y) (A y) ⟨y,rfl,fun _=>rfl⟩) (keepP C1 (fun j d' t' u' F' I' hj hlj=>?_) (T y) (A y) (fun t u F I e=>by cases e)) (keepA C1 (fun j hji hj=>?_) (T y) (A y) (fun src γ T' A' e=>by cases e; exact ⟨y,rfl⟩)) (hM1.next hd hL.sz him hdst q3 h2 e2 (mO.refl V) (e3.hp_of (fun hh=>?_)))
    ·by_cases e : j = q
     ·subst e
      rw [r1] at hj; simp at hj
      obtain ⟨_,rfl⟩:=hj
      exact ⟨x,by rw [hC1t,hx],fun e=>by cases e⟩
     ·have := hC j d' b' hj hlj
      rw [hC1]; simp only [if_neg e]; exact this
    ·obtain ⟨q', b', q'', b'', z1, z2, z4⟩ := hP j d' t' u' F' I' hj hlj
     exact ⟨q',b',q'',b'',z1,z2,by rw [hC1t,hC1t,hC1t]; exact z4⟩
    ·have : j ≠ q := fun e => hj d kp γ T A (by rw [e]; exact hb)
     rw [hC1]; simp [this]
    ·rw [hset]
     have hlen2:H.length + q < (H ++ (List.range m).map fun i=>if (listed[i]? == some true) = true then (C i).2 else SA.emp).length:=(List.getElem?_eq_some_iff.1 hentry).1
     have h5:=HH.last (i:=H.length + q) (A:=A y) hh (by rw [List.getElem?_set_self hlen2])
     rw [List.set_set,List.set_append_right _ _ (by omega),show H.length + q - H.length = q by omega] at h5
     have h6:=HH.move (p:=H.length + i) h5 (by simp; omega)
     rw [List.set_append_right _ _ (by omega),show H.length + i - H.length = i by omega] at h6
     exact h6
  | dep t u F I =>
   obtain ⟨q,b',q',b'',r1,r2,p1,p2,hst⟩:=q4
   have src : ∀ (q t : Nat) (b' : Ob), (acc.reverse.take i).reverse.reverse[q]? = some (t, b') → (o.after.toList.any fun e => Nat.beq e.on q && Region.binds .any e) = true → q < i ∧ acc.reverse[q]? = some (t, b') ∧ listed[q]? = some true := fun q t b' r1 r2 => by
    rw [List.reverse_reverse,List.getElem?_take] at r1
    split at r1
    case isFalse=>cases r1
    case isTrue hji =>
    obtain ⟨e,he,hb'⟩:=List.any_eq_true.1 r2
    simp only [Bool.and_eq_true] at hb'
    have hon:e.on = q:=Nat.eq_of_beq_eq_true hb'.1
    have hlj:=h3 e he hb'.2
    rw [hon] at hlj
    exact ⟨hji,r1,hlj⟩
   obtain ⟨a1,a2,a3⟩:=src q t b' r1 r2
   obtain ⟨c1,c2,c3⟩:=src q' u b'' p1 p2
   obtain ⟨v1,s1,s2⟩:=hM.now q t (by omega) (by rw [a3]; rfl) (hobs.dst a2)
   obtain ⟨v2,s3,s4⟩:=hM.now q' u (by omega) (by rw [c3]; rfl) (hobs.dst c2)
   have hsl : fC n [(t, (C q).1), (u, (C q').1)] V a := by
    refine ⟨hM.df,hM.sz,fun z Z hz=>?_⟩
    rw [dH] at hz
    by_cases e:t = z
    ·rw [if_pos e] at hz; obtain rfl:=Option.some.inj hz; subst e; exact ⟨v1,s1,s2⟩
    ·rw [if_neg e, dH] at hz
     by_cases e2:u = z
     ·rw [if_pos e2] at hz; obtain rfl:=Option.some.inj hz; subst e2; exact ⟨v2,s3,s4⟩
     ·rw [if_neg e2] at hz; cases hz
   obtain ⟨hst,hI⟩:=hst _ _ (hC q t b' a2 a3).fits (hC q' u b'' c2 c3).fits
   have := hst cx _ a w V hM.inv hsl (wpAny P .any ops.toArray (den P R k) fuel (listed.setIfInBounds i true)) (den P R k) (fun v w' V' hi' hle hv => by
    rw [q2]
    exact ih _ _ _ V' _ (hL.set h1 h3) hcnt hl' (took C hC (F (C q).1 (C q').1) SA.emp ⟨rfl, hI⟩) (keepP C hP (F (C q).1 (C q').1) SA.emp (fun t' u' F' I' e => by
     cases e; exact ⟨q,b',q',b'',⟨a1,a2,a3⟩,⟨c1,c2,c3⟩,rfl⟩)) (keepA C (fun _ _ _=>rfl) (F (C q).1 (C q').1) SA.emp (fun src γ T' A' e=>by cases e)) (hM.next hd hL.sz him hdst q3 h2 hv hle (by rw [hx]; exact hi')))
   split
   ·rename_i hw; rw [if_pos hw] at this; exact .inl this
   ·rename_i hw; rw [if_neg hw] at this; exact this
theorem D_done {ops l : List Oper} {m : Nat} {acc : List (Nat × Ob)} (hP : P.follows .mixedOrders = true) (hm : acc.length = m) (hchk : xP ops m = true) (h : Fin' P R cx n ops.toArray l k acc.reverse E H) : Dr P R cx n ops m k E H l acc := fun hops hobs id a w ⟨V, hi, hs⟩ => by
 have hd:=Kg.of hchk
 have hl : ops.drop m = l := by
  conv=>lhs; rw [hops]
  rw [List.drop_append,List.drop_of_length_le (by simp; omega)]
  simp [hm,Nat.min_eq_left hd.le]
 refine wp_region_any hP ?_
 have hnone : ∀ i : Nat, (Array.replicate ops.toArray.size false)[i]? ≠ some true := fun i h => by
  rw [Array.getElem?_replicate] at h; split at h <;> simp at h
 refine mY (cx:=cx) (n:=n) (E0:=E) (H:=H) hd hm hobs (by rw [hl]; exact h) _ _ a _ V (fun _=>(pD,SA.emp)) ⟨by simp,fun i o ho h=>absurd h (hnone i)⟩ ?_ (fun i h1 h2=>by simp [h2]) (fun i d b _ h=>absurd h (hnone i)) (fun i d t u F I _ h=>absurd h (hnone i)) (fun i _ _ _ _ _ _ h=>absurd h (hnone i)) ?_
 ·have : ∀ j, iZ (List.replicate j false) ≤ j := fun j => by
   induction j with
   | zero=>simp [iZ]
   | succ j ih=>simp only [List.replicate_succ,iZ]; simp; omega
  simpa using this _
 ·refine ⟨?_, hs.1, hs.2.1, fun t T hT _ => hs.2.2 t T hT, fun j d hj hL => ?_⟩
  ·have e : ((List.range m).map fun i => if ((Array.replicate ops.toArray.size false)[i]? == some true) = true then ((fun _ => (pD, SA.emp)) i : Ty × SA).2 else SA.emp) = (List.range m).map fun _ => SA.emp := by
    apply List.map_congr_left; intro i _; split <;> rfl
   rw [e]
   have:=hi.drew
   refine this.hp_of (fun hh=>?_)
   obtain ⟨F,f1,f2⟩:=hh
   refine ⟨fun i=>if i < H.length then F i else [],fun i A hA=>?_,fun i j b hi hj hbi hbj=>?_⟩
   ·by_cases e : i < H.length
    ·rw [List.getElem?_append_left e] at hA
     simp only [if_pos e]; exact f1 i A hA
    ·rw [List.getElem?_append_right (by omega)] at hA
     have : A = SA.emp := by
      rw [List.getElem?_map] at hA
      cases hq:(List.range m)[i - H.length]? with
      | none=>rw [hq] at hA; cases hA
      | some q=>rw [hq] at hA; simpa using hA.symm
     subst this
     simp only [if_neg e]
     exact ⟨rfl,fun b hb=>by simp at hb⟩
   ·by_cases e : i < H.length <;> by_cases e' : j < H.length
    ·simp only [if_pos e,if_pos e'] at hbi hbj; exact f2 i j b e e' hbi hbj
    ·simp [e'] at hbj
    ·simp [e] at hbi
    ·simp [e] at hbi
  ·exact absurd (by simpa using hL) (hnone j)
theorem F_nil {ops:Array Oper} {l:List Oper} (h:Rg P R cx n ops l k E H):Fin' P R cx n ops l k [] E H:=h
theorem F_val {ops:Array Oper} {l:List Oper} {d:Nat} {T:Ty} {r:List (Nat × Ob)} (h:Fin' P R cx n ops l k r ((d,T) :: E) H):Fin' P R cx n ops l k ((d,.val T) :: r) E H:=h
theorem F_new {ops:Array Oper} {l:List Oper} {d:Nat} {src:Option Nat} {γ:Type} {T:γ → Ty} {A:γ → SA} {r:List (Nat × Ob)} (h:∀ x:γ,Fin' P R cx n ops l k r ((d,T x) :: E) (H ++ [A x])):Fin' P R cx n ops l k ((d,.blk src true γ T A) :: r) E H:=h
theorem a36 {ops : Array Oper} {l : List Oper} {d t u : Nat} {T U : Ty} {F : Ty → Ty → Ty} {I : Ty → Prop} {r : List (Nat × Ob)} (hl : fR E t = some T) (hl' : fR E u = some U) (h : Fin' P R cx n ops l k r ((d, F T U) :: E) H) : Fin' P R cx n ops l k ((d, .dep t u F I) :: r) E H := fun T' U' hT hU => by
 rw [hl] at hT; obtain rfl:=Option.some.inj hT
 rw [hl'] at hU; obtain rfl:=Option.some.inj hU; exact h
theorem D_cpy {ops l : List Oper} {m : Nat} {o : Oper} {acc : List (Nat × Ob)} {d t : Nat} {b : Ob} (j : Nat) (hg : o.guard = none) (hd : o.dst = some d) (hn : Nat.blt d n = true) (hj : acc.reverse[j]? = some (t, b)) (he : (o.after.toList.any fun e => Nat.beq e.on j && Region.binds .any e) = true) (hx : ∀ a w, (execOp a o).run P w = .ok (.value (a (.tmp t))) w)
  (h:Dr P R cx n ops m k E H l ((d,.dep t t (fun T _=>T) (Kh b)) :: acc)):Dr P R cx n ops m k E H (o :: l) acc :=
 a35 (fun T _ => T) (Kh b) j j hd hn hj he hj he (fun T U hf _ => ⟨fun cx X a w V hi hs K Q hK => by
  obtain ⟨v,s1,s2⟩:=hs.2.2 t T (by rw [dH,if_pos rfl])
  have ev:a.eval (.tmp t) = v:=by simp [Act.eval,s1]
  rw [if_pos (by simp [Region.wanted,hg])]
  simp only [Oper.wp,hx,Oper.upon_value,ev]
  exact hK v w V hi (mO.refl V) s2,hf⟩) h
theorem F_cpy {ops:Array Oper} {l:List Oper} {d t:Nat} {T:Ty} {I:Ty → Prop} {r:List (Nat × Ob)} (hl:fR E t = some T) (h:Fin' P R cx n ops l k r ((d,T) :: E) H):Fin' P R cx n ops l k ((d,.dep t t (fun T _=>T) I) :: r) E H:=a36 (F:=fun T _=>T) hl hl h
theorem cpy_assign {d:Option Tmp} {t:Nat} {ty:TypeId} {pos:String} {af:Array Edge} {g:Option (Nat × Bool)}:∀ a w,(execOp a ⟨d,.assign (.tmp t),ty,pos,af,g⟩).run P w = .ok (.value (a (.tmp t))) w:=fun a w=>by simp [execOp,pure,Sem.run]
end
end C
section
variable {P:Program} {n:Nat} {E:dC} {t:TypeId} {pos:String} {af:Array Edge}
end
end
section
open Go Go.RowKit
section
variable {P:Program} {R:iA} {cx:Cx} {n:Nat} {k:List It} {E:dC} {H:Hp} {ops:Array Oper} {rest:List Oper} {o:Oper}
theorem Ht {t:Nat} {T:Ty} (h:fR E t = some T):bF E (.tmp t) T:=bF.t h
theorem ro {T:Ty} {d:Nat} (h0:(o.guard,o.dst,Nat.blt d n) = (none,some d,true)) (hs:aL P n E H o T) (h:Rg P R cx n ops rest k ((d,T) :: E) H):Rg P R cx n ops (o :: rest) k E H:=by
 simp only [Prod.mk.injEq] at h0
 exact a1G h0.1 h0.2.1 h0.2.2 hs h
theorem rm {T:Ty} {d x:Nat} {t:TypeId} {pos:String} {af:Array Edge} (h0:(Nat.blt d n,fR E x) = (true,some T)) (h:Rg P R cx n ops rest k ((d,T) :: E) H):Rg P R cx n ops (⟨some d,.move (.tmp x),t,pos,af,none⟩ :: rest) k E H:=by
 simp only [Prod.mk.injEq] at h0
 exact a1G rfl rfl h0.1 (Ou (bF.t h0.2)) h
theorem ra {T:Ty} {d x:Nat} {t:TypeId} {pos:String} {af:Array Edge} (h0:(Nat.blt d n,fR E x) = (true,some T)) (h:Rg P R cx n ops rest k ((d,T) :: E) H):Rg P R cx n ops (⟨some d,.assign (.tmp x),t,pos,af,none⟩ :: rest) k E H:=by
 simp only [Prod.mk.injEq] at h0
 exact a1G rfl rfl h0.1 (Ec (bF.t h0.2)) h
theorem rn {γ:Type} {T:γ → Ty} {A:γ → SA} {d:Nat} (h0:(o.guard,o.dst,Nat.blt d n) = (none,some d,true)) (hop:iV P n E H o γ T A) (h:∀ x,Rg P R cx n ops rest k ((d,T x) :: E) (H ++ [A x])):Rg P R cx n ops (o :: rest) k E H:=by
 simp only [Prod.mk.injEq] at h0
 exact a1c h0.1 h0.2.1 h0.2.2 hop h
theorem ts {y:Code} {id:Nat} {l:List Oper} (h:Rg P R cx n l.toArray l (.code y :: k) E H):Tr P R cx n (.code (.seq (.region id l.toArray false) y) :: k) E H:=a1f (Gp h)
end
section
variable {P:Program} {R:iA} {cx:Cx} {n:Nat} {k:List It} {E:dC} {H:Hp} {ops l:List Oper} {m:Nat} {o:Oper} {acc:List (Nat × C.Ob)} {d:Nat} {T U V:Ty}
theorem d0 (h0:(o.dst,Nat.blt d n,o.guard) = (some d,true,none)) (hs:aL P n [] H o T) (h:C.Dr P R cx n ops m k E H l ((d,.val T) :: acc)):C.Dr P R cx n ops m k E H (o :: l) acc:=by
 simp only [Prod.mk.injEq] at h0
 exact C.D_step h0.1 h0.2.1 C.Srcs.nil (tQ h0.2.2 hs) h
theorem dp (t : Nat) (h0 : (o.dst, Nat.blt d n, fR E t, ((List.range m).all fun j => !(fO ops j == some t)), o.guard) = (some d, true, some U, true, none)) (hs : aL P n [(t, U)] H o T)
  (h:C.Dr P R cx n ops m k E H l ((d,.val T) :: acc)):C.Dr P R cx n ops m k E H (o :: l) acc:=by
 simp only [Prod.mk.injEq] at h0
 exact C.D_step h0.1 h0.2.1 (C.Srcs.cons (C.Src.pre h0.2.2.1 h0.2.2.2.1) C.Srcs.nil) (tQ h0.2.2.2.2 hs) h
theorem dq (t j : Nat) (h0 : (o.dst, Nat.blt d n, acc.reverse[j]?, (o.after.toList.any fun e => Nat.beq e.on j && Region.binds .any e), o.guard) = (some d, true, some (t, C.Ob.val U), true, none)) (hs : aL P n [(t, U)] H o T)
  (h:C.Dr P R cx n ops m k E H l ((d,.val T) :: acc)):C.Dr P R cx n ops m k E H (o :: l) acc:=by
 simp only [Prod.mk.injEq] at h0
 exact C.D_step h0.1 h0.2.1 (C.Srcs.cons (C.Src.op j h0.2.2.1 h0.2.2.2.1) C.Srcs.nil) (tQ h0.2.2.2.2 hs) h
theorem cP (t i u j : Nat) (h0 : (o.dst, Nat.blt d n, acc.reverse[i]?, (o.after.toList.any fun e => Nat.beq e.on i && Region.binds .any e), acc.reverse[j]?, (o.after.toList.any fun e => Nat.beq e.on j && Region.binds .any e), o.guard) = (some d, true, some (t, C.Ob.val U), true, some (u, C.Ob.val V), true, none)) (hs : aL P n [(t, U), (u, V)] H o T)
  (h:C.Dr P R cx n ops m k E H l ((d,.val T) :: acc)):C.Dr P R cx n ops m k E H (o :: l) acc:=by
 simp only [Prod.mk.injEq] at h0
 obtain ⟨a,b,c,e,f,g,q⟩:=h0
 exact C.D_step a b (C.Srcs.cons (C.Src.op i c e) (C.Srcs.cons (C.Src.op j f g) C.Srcs.nil)) (tQ q hs) h
end
end
section
open Go Go.RowKit
section
variable {P:Program} {n:Nat} {E:dC} {H:Hp}
variable {d:Option Tmp} {t:TypeId} {pos:String} {af:Array Edge} {g:Option (Nat × Bool)}
end
end
section
open Go Go.RowKit
def zlk (E : dC) : dC → List (Option Ty)
 | []=>[]
 | x :: r=>fR E x.1 :: zlk E r
def zsm : dC → List (Option Ty)
 | []=>[]
 | x :: r=>some x.2 :: zsm r
theorem zS {E : dC} : ∀ {E' : dC}, zlk E E' = zsm E' → Sub E E'
 | [],_=>Sub.nil
 | _ :: _,h=>Sub.cons (List.cons.inj h).1 (zS (List.cons.inj h).2)
theorem z6 {a:Nat} (h:a < 9223372036854775808:=by first|omega|simp only[lF];omega):a < 9223372036854775808:=h
theorem z7 {a:Nat} (h:a < 18446744073709551616:=by first|omega|simp only[lF];omega):a < 18446744073709551616:=h
theorem zd {α:Type} {a:α}:a = a ∧ True:=⟨rfl,trivial⟩
theorem zF {P : Program} {R : iA} {cx : Cx} {n : Nat} {k : List It} {E : dC} {H : Hp} {ops : Array Oper} {l : List Oper} {a b c d : Nat} {T U V W : Ty} {r : List (Nat × C.Ob)}
  (h:C.Fin' P R cx n ops l k r ((d,W) :: (c,V) :: (b,U) :: (a,T) :: E) H):C.Fin' P R cx n ops l k ((a,.val T) :: (b,.val U) :: (c,.val V) :: (d,.val W) :: r) E H:=C.F_val (C.F_val (C.F_val (C.F_val h)))
end
section
open Go Go.RowKit
abbrev aQ:=@Sub.cons
abbrev aX:=@Sub.nil
abbrev aZ:=@Sub.to
abbrev aJ:=@C.F_val
abbrev aV:=@C.F_nil
abbrev aW:=@dI.cons'
abbrev aG:=@dI.nil
abbrev aK:=@Nat.le_of_ble_eq_true
abbrev aU:=@cT.cons
abbrev aY:=@cT.nil
abbrev bQ:=@Y.Srcs.cons
abbrev bX:=@Y.Srcs.nil
abbrev bZ:=@Y.Src.op
abbrev bJ:=@Y.Src.pre
abbrev bV:=@C.Srcs.cons
abbrev bW:=@C.Srcs.nil
abbrev bG:=@C.Src.op
abbrev bK:=@C.Src.pre
abbrev bU:=@Y.F_val
abbrev bY:=@Y.D_hide
abbrev cQ:=@Ec
abbrev cX:=@Ou
abbrev cZ:=@a0u
abbrev cJ:=@bF.cN
abbrev cV:=@bF.c
abbrev cW:=@rR.cons
abbrev cG:=@rR.nil
abbrev cK:=@a1f
abbrev cU:=@a1O
abbrev cY:=@Gp
abbrev dQ:=@Km
abbrev dX:=@tQ
abbrev dZ:=@a2B
abbrev dJ:=@a3L
abbrev dV:=@a0t
abbrev dW:=@a0G
abbrev dG:=@a2E
abbrev dK:=@Ls
abbrev dU:=@getD_some
abbrev dY:=@Oe
abbrev eQ:=@bB.imp
abbrev eX:=@a39
abbrev eZ:=@a0w
abbrev eJ:=@a0A
abbrev eW:=@Qx
abbrev eG:=@Yt
abbrev eK:=@a1I
abbrev eU:=@a2S
abbrev eY:=@a2D
abbrev fQ:=@Sn
abbrev fX:=@a3R
abbrev fZ:=@C.D_start
abbrev fJ:=@bF.w
abbrev fV:=@C.D_done
abbrev fW:=@a1M
abbrev fG:=@a0n
abbrev fK:=@a0X
abbrev fU:=@Ys
abbrev fY:=@a0y
abbrev gQ:=@a3a
abbrev gX:=@a0D
abbrev gZ:=@Wk
abbrev gJ:=@Sq
abbrev gV:=@a1K
end
section
open Go Go.RowKit
theorem zo {p:Prop} (h:p:=by omega):p:=h
end
section
open Go Go.RowKit
theorem qZ (ds:List Nat) (hd:kG ds) (hl:ds.length ≤ 1152921504606846976):bB Tryz.prog 221 [uY ds] (aE (val ds)):=by
 refine bB.intro Tryz.func221 rfl Tryz.ntmps221 rfl (fun cx=>(ts (ro rfl (cQ cV) (eX (ts (rm rfl (ro rfl (dG U_47 (Ht rfl) aA) (ra rfl (eX (cK (eG ?_)))))))))))
 refine bS (fun (k : Nat) => k ≤ ds.length ∧ ∀ i, k ≤ i → i < ds.length → ds.getD i 0 = 0) (fun (k : Nat) => k) (fun (k : Nat) => [(0, uY ds), (3, NT .i64 k)]) (fun (k : Nat) => []) ds.length ⟨Nat.le_refl _, fun i h1 h2 => by omega⟩
  (zS rfl) aY (fun k ⟨hk,hz⟩=>?_)
 refine cK (ts (rm rfl (ro rfl (eC (Ht rfl) (cJ 0)) (rm rfl (fQ rfl rfl (eK rfl rfl (Ht rfl) (fun h=>cX (Ht rfl))) (fQ rfl rfl (eK rfl rfl (Ht rfl) (fun h=>cX (Ht rfl))) (fQ rfl rfl (eK rfl rfl (Ht rfl) (fun h=>dW (fJ rfl h) (cJ 1) (by first | omega | (simp at h; omega)) (by show _ < 9223372036854775808; first | omega | (simp at h; omega)))) (fQ rfl rfl (eK rfl rfl (Ht rfl) (fun h=>dZ U_47 Z_189 (fJ rfl h) (fJ rfl h) rfl (dY (aF (by first | omega | (simp at h; omega)))))) ?_))))))))
 refine fQ rfl rfl (eK rfl rfl (Ht rfl) (fun h=>dJ A_189 Z_189 (fJ rfl h))) (fQ rfl rfl (eK rfl rfl (Ht rfl) (fun h=>cR (fJ rfl h) (cJ 0))) (ro rfl (fE (Ht rfl) (fun h=>(fJ rfl h))) (eX (dQ (Ht rfl) (fun hb=>?_) (fun hb=>?_)))))
 ·simp at hb
  refine cU (eG (cY (rm rfl (ro rfl (dW (Ht rfl) (cJ 1) zo z6) (ra rfl (eX (bA (fU (k - 1) ⟨by omega,fun i h1 h2=>?_⟩ zo (zS rfl) aY))))))))
  by_cases e2:i = k - 1
  ·subst e2; simpa using hb.2
  ·exact hz i zo h2
 ·have hn : k = 0 ∨ ds.getD (k - 1) 0 ≠ 0 := by
   simp only [Bool.and_eq_false_iff,decide_eq_false_iff_not] at hb
   rcases hb with h1 | h1
   ·left; omega
   ·right; exact h1
  have hfin:=Nm hd hk hz hn
  refine gV rfl (ts (rm rfl (rm rfl (rm rfl (ro rfl (qO U_47 Z_189 (Ht rfl) (Ht rfl) (fun m e=>by cases e; exact (Ht rfl)) zo (by simp; omega) rfl) ?_)))))
  refine ra rfl (eX (fW rfl (fX (eU rfl) ?_)))
  exact (Hw (by rw [hfin]; simp))
theorem Fg {m:Nat} (hm:m < 18446744073709551616):bB Tryz.prog 241 [NT .u64 m] (aE m):=by
 refine bB.intro Tryz.func241 rfl Tryz.ntmps241 rfl (fun cx=>(ts (ro rfl (cQ cV) (eX (ts (rm rfl (ro rfl (fM rfl U_254 U_189 (Ht rfl)) (rm rfl (ro rfl (eP (Ht rfl) (cJ 32) (by decide)) (ro rfl (fM rfl U_254 U_189 (Ht rfl)) (ro rfl (dN (xs:=[.tmp 4,.tmp 7]) U_47 Z_189 O_189 (cW (Ht rfl) (cW (Ht rfl) cG)) rfl rfl rfl) (ro rfl (cZ K_221 (qZ [m % 4294967296,m / 2 ^ 32 % 4294967296] (a3y _ _) (by simp)) ⟨(Ht rfl),trivial⟩) ?_))))))))))))
 refine ra rfl (eX (fW rfl (fX (eU rfl) ?_)))
 exact (dF (Eb hm))
theorem a1n {m:Nat}:bB Tryz.prog 219 [aE m] (aC (decide (m = 1))):=by
 refine bB.intro Tryz.func219 rfl Tryz.ntmps219 rfl (fun cx=>(ts (ro rfl (cQ cV) (eX (ts (rm rfl (ro rfl (dG U_47 (Ht rfl) aA) (ro rfl (cR (Ht rfl) (cJ 1)) (rm rfl (fQ rfl rfl (eK rfl rfl (Ht rfl) (fun h=>cX (Ht rfl))) (fQ rfl rfl (eK rfl rfl (Ht rfl) (fun h=>dZ U_47 Z_189 (fJ rfl h) (cJ 0) rfl (dY (aF (by first | omega | (simp at h; omega)))))) (fQ rfl rfl (eK rfl rfl (Ht rfl) (fun h=>dJ A_189 Z_189 (fJ rfl h))) (fQ rfl rfl (eK rfl rfl (Ht rfl) (fun h=>cR (fJ rfl h) (cJ 1))) ?_)))))))))))))
 refine ro rfl (fE (Ht rfl) (fun h=>(fJ rfl h))) (ra rfl (eX (fW rfl (fX (eU rfl) ?_))))
 exact (dM (Gc m))
theorem Zf {a b c:Nat} (ha:a < 4294967296) (hb:b < 4294967296) (hc:c < 4294967296):bB Tryz.prog 255 [cB a,cB b,cB c] (fH [cB ((a + b + c) % 4294967296),cB ((a + b + c) / 4294967296)]):=by
 refine bB.intro Tryz.func255 rfl Tryz.ntmps255 rfl (fun cx=>(ts (ro rfl (cQ (cJ 0)) (ro rfl (cQ (cJ 0)) (eX (ts (rm rfl (ro rfl (gZ U_189 U_254 (Ht rfl) z7) (rm rfl (ro rfl (gZ U_189 U_254 (Ht rfl) z7) (ro rfl (dV (Ht rfl) (Ht rfl) z7) (rm rfl (ro rfl (gZ U_189 U_254 (Ht rfl) z7) ?_)))))))))))))
 refine ro rfl (dV (Ht rfl) (Ht rfl) z7) (ra rfl (eX (ts (rm rfl (ro rfl (fM rfl U_254 U_189 (Ht rfl)) (ra rfl (eX (ts (rm rfl (ro rfl (eP (Ht rfl) (cJ 32) (by decide)) (ro rfl (fM rfl U_254 U_189 (Ht rfl)) (ra rfl (eX (bM rfl (eU rfl) (fX (eU rfl) ?_)))))))))))))))
 exact (kI (by simp only [lF]; omega))
theorem Zq {a b c:Nat} (ha:a < 4294967296) (hb:b < 4294967296) (hc:c ≤ 1):bB Tryz.prog 256 [cB a,cB b,cB c] (fH [cB ((a + 8589934592 - b - c) % 4294967296),cB (if a < b + c then 1 else 0)]):=by
 refine bB.intro Tryz.func256 rfl Tryz.ntmps256 rfl (fun cx=>(ts (ro rfl (cQ (cJ 0)) (ro rfl (cQ (cJ 0)) (eX (ts (rm rfl (rm rfl (ro rfl (lP rfl (Ht rfl) (Ht rfl) (by show _ ≤ 4294967296; first | omega | (simp only [lF]; omega))) (rm rfl (ro rfl (lP rfl (Ht rfl) (Ht rfl) (by show _ ≤ 4294967296; first | omega | (simp only [lF]; omega))) (ra rfl (eX (ts (rm rfl (ro rfl (Ot rfl (Ht rfl) (by show _ < 4294967296; first | omega | (simp only [lF]; omega))) (rm rfl (ro rfl (uI rfl (Ht rfl) (Ht rfl) (by show _ < 4294967296; simp only [lF]; omega) (by show _ < 4294967296; omega)) ?_))))))))))))))))))
 refine rm rfl (rm rfl (ro rfl (a0H rfl (Ht rfl) (Ht rfl) (by show _ < 4294967296; omega) (by show _ < 4294967296; omega)) (ro rfl (Ot rfl (Ht rfl) (Nat.xor_lt_two_pow (n:=32) ha hb)) (rm rfl (ro rfl (uI rfl (Ht rfl) (Ht rfl) (by show _ < 4294967296; simp only [lF]; omega) (by show _ < 4294967296; simp only [lF]; omega)) (ro rfl (oY rfl (Ht rfl) (Ht rfl) (Nat.and_lt_two_pow (n:=32) _ hb) (Nat.and_lt_two_pow (n:=32) _ (by simp only [lF]; omega))) (ro rfl (eP (Ht rfl) (cJ 31) (by decide)) (ra rfl (eX (bM rfl (fX (eU rfl) ?_) (fX (eU rfl) ?_)))))))))))
 ·exact (kI (by simp only [lF]; omega))
 ·exact (kI (Gi ha hb hc (by simp only [lF]; omega)))
theorem Tn {m n:Nat} (hm:(dg m).length ≤ 1152921504606846976) (hn:(dg n).length ≤ 1152921504606846976):bB Tryz.prog 216 [aE m,aE n] (bD .i64 (pV m n)):=by
 refine bB.intro Tryz.func216 rfl Tryz.ntmps216 rfl (fun cx=>(ts (ro rfl (cQ (cJ 0)) (eX (cK (ts (rm rfl (ro rfl (dG U_47 (Ht rfl) aA) (rm rfl (ro rfl (dG U_47 (Ht rfl) aA) (ro rfl (eO (Ht rfl) (Ht rfl)) (eX (dQ (Ht rfl) (fun hb=>?_) (fun hb=>?_))))))))))))))
 ·simp at hb
  refine cK (ts (rm rfl (ro rfl (dG U_47 (Ht rfl) aA) (rm rfl (ro rfl (dG U_47 (Ht rfl) aA) (ro rfl (gX (Ht rfl) (Ht rfl)) (eX (dQ (Ht rfl) (fun hb2=>?_) (fun hb2=>?_)))))))))
  ·simp at hb2
   have hlt:=Fo hb2
   refine ts (ro rfl (cQ cV) (eX (fW rfl (fX (eU rfl) ?_))))
   exact (aR (by simp [pV,hlt]))
  ·simp at hb2
   have hlt:=Fo (a:=n) (b:=m) zo
   refine cU (ts (ro rfl (cQ (cJ 1)) (eX (fW rfl (fX (eU rfl) ?_)))))
   exact (aR (by simp [pV,hlt,Nat.lt_asymm hlt]))
 ·simp at hb
  refine cU (cK (ts (rm rfl (ro rfl (dG U_47 (Ht rfl) aA) (ro rfl (iL (Ht rfl) cV (Ch zo)) (ra rfl (eX (eG ?_))))))))
  refine bS (fun (k : Nat) => k ≤ (dg m).length ∧ ∀ i, k ≤ i → i < (dg m).length → (dg m).getD i 0 = (dg n).getD i 0) (fun (k : Nat) => k) (fun (k : Nat) => [(0, aE m), (1, aE n), (5, bD .i64 ((k : Int) - 1))]) (fun (k : Nat) => []) (dg m).length ⟨Nat.le_refl _, fun i h1 h2 => by omega⟩
   (zS rfl) aY (fun k ⟨hk,he⟩=>?_)
  refine cK (ts (rm rfl (ro rfl (lT (Ht rfl) cV) (eX (dQ (Ht rfl) (fun hk1=>?_) (fun hk1=>?_))))))
  ·simp at hk1
   refine cU (cK (eG (cK (cK (fZ (m:=8) (dp 0 rfl (cX (Ht rfl)) (dp 5 rfl (cX (Ht rfl)) (cP 23 0 24 1 rfl (dZ U_47 Z_189 (Ht rfl) (Ht rfl) (show ((k:Int) - 1) = ((k - 1:Nat):Int) by omega) (dY (aF zo))) (dq 25 2 rfl (dJ A_189 Z_189 (Ht rfl)) (dp 1 rfl (cX (Ht rfl)) (dp 5 rfl (cX (Ht rfl)) (cP 27 4 28 5 rfl (dZ U_47 Z_189 (Ht rfl) (Ht rfl) (show ((k:Int) - 1) = ((k - 1:Nat):Int) by omega) (dY (aF zo))) (dq 29 6 rfl (dJ A_189 Z_189 (Ht rfl)) ?_)))))))))))))
   refine fV aO rfl (by kernel_rfl) (zF (zF (aV (ro rfl (gX (Ht rfl) (Ht rfl)) (eX (dQ (Ht rfl) (fun h1=>?_) (fun h1=>?_)))))))
   ·simp only [decide_eq_true_eq] at h1
    have hlt:=yW (bH m) (bH n) hb (k:=k - 1) zo (fun i h2 h3=>he i zo h3) h1
    rw [cO,cO] at hlt
    refine ts (ro rfl (cQ cV) (eX (fW rfl (fX (eU rfl) ?_))))
    exact (aR (by simp [pV,hlt]))
   ·simp only [decide_eq_false_iff_not] at h1
    refine cU (cK (fZ (m:=8) (dp 0 rfl (cX (Ht rfl)) (dp 5 rfl (cX (Ht rfl)) (cP 32 0 33 1 rfl (dZ U_47 Z_189 (Ht rfl) (Ht rfl) (show ((k:Int) - 1) = ((k - 1:Nat):Int) by omega) (dY (aF zo))) (dq 34 2 rfl (dJ A_189 Z_189 (Ht rfl)) (dp 1 rfl (cX (Ht rfl)) (dp 5 rfl (cX (Ht rfl)) (cP 36 4 37 5 rfl (dZ U_47 Z_189 (Ht rfl) (Ht rfl) (show ((k:Int) - 1) = ((k - 1:Nat):Int) by omega) (dY (aF zo))) (dq 38 6 rfl (dJ A_189 Z_189 (Ht rfl)) ?_))))))))))
    refine fV aO rfl (by kernel_rfl) (zF (zF (aV (ro rfl (eC (Ht rfl) (Ht rfl)) (eX (dQ (Ht rfl) (fun h2=>?_) (fun h2=>?_)))))))
    ·simp only [decide_eq_true_eq] at h2
     have hlt:=yW (bH n) (bH m) hb.symm (k:=k - 1) zo (fun i h2 h3=>(he i zo zo).symm) h2
     rw [cO,cO] at hlt
     refine ts (ro rfl (cQ (cJ 1)) (eX (fW rfl (fX (eU rfl) ?_))))
     exact (aR (by simp [pV,hlt,Nat.lt_asymm hlt]))
    ·simp only [decide_eq_false_iff_not] at h2
     refine cU (bA (cY (rm rfl (ro rfl (iL (Ht rfl) cV (Ch zo)) (ra rfl (eX (fU (k - 1) ⟨by omega,fun i h3 h4=>(by by_cases e:i = k - 1; (· subst e; omega); exact he i zo h4)⟩ zo (aQ rfl (aQ rfl (aZ rfl (aR zo) aX))) aY)))))))
  ·simp at hk1
   have hk0:k = 0:=by omega
   have heq : m = n := by
    have : dg m = dg n := by
     apply List.ext_getElem?
     intro i
     by_cases hi:i < (dg m).length
     ·have h5 := he i zo hi
      have h6:i < (dg n).length:=by omega
      simp [List.getD,hi,h6] at h5
      simp [hi,h6,h5]
     ·rw [List.getElem?_eq_none zo,List.getElem?_eq_none zo]
    rw [← cO m,this,cO]
   refine gV rfl (ts (ro rfl (cQ (cJ 0)) (eX (fW rfl (fX (eU rfl) ?_)))))
   exact (aR (by simp [pV,heq]))
end
section
open Go Go.RowKit
theorem iE:Tryz.prog.info? 189 = some Tryz.t189:=by kernel_rfl
end
section
open Go Go.RowKit
theorem a3p {m n:Nat} (hm:(dg m).length ≤ 17592186044416) (hn:(dg n).length ≤ 17592186044416):bB Tryz.prog 215 [aE m,aE n] (aE (m + n)):=by
 refine bB.intro Tryz.func215 rfl Tryz.ntmps215 rfl (fun cx=>(ts (ro rfl (cQ cV) (eX (cK (pF (fun (p:Nat) (q:Nat)=>p + q = m + n ∧ (dg q).length ≤ (dg p).length ∧ (dg p).length ≤ 17592186044416) (fun (p:Nat) (q:Nat)=>[(0,aE p),(1,aE q)]) (fun (p:Nat) (q:Nat)=>[]) ?_ (fun p q ⟨hpq,hle,hlp⟩=>?_)))))))
 ·refine ts (rm rfl (ro rfl (dG U_47 (Ht rfl) aA) (rm rfl (ro rfl (dG U_47 (Ht rfl) aA) (ro rfl (gX (Ht rfl) (Ht rfl)) (eX (dQ (Ht rfl) (fun hb => ?_) (fun hb => ?_))))))))
  ·simp at hb
   refine cY (rm rfl (rm rfl (ra rfl (ra rfl (eX (bC (n,m) ⟨Nat.add_comm _ _,Nat.le_of_lt hb,hn⟩ (zS rfl) aY))))))
  ·simp at hb
   refine cU (bC (m,n) ⟨rfl,hb,hm⟩ (zS rfl) aY)
 ·refine ts (rm rfl (ro rfl (dG U_47 (Ht rfl) aA) (ro rfl (dV (Ht rfl) (cJ 1) z6) (rn rfl (eE (T := cB 0) (i := Tryz.t189) V_47 iE rfl rfl (Ht rfl) rfl (fun _ => rfl) trivial (by show 4 * _ ≤ _; omega) zo) fun B19 => (ra rfl (eX (ts (ro rfl (cQ (cJ 0)) (eX (cK (ts (rm rfl (ro rfl (dG U_47 (Ht rfl) aA) (ro rfl (cX (cJ 0)) (eX (eG ?_))))))))))))))))
  refine iS (fun (k : Nat) (out : List Nat) (c : Nat) => yQ (dg p) (dg q) out k c) (fun (k : Nat) (out : List Nat) (c : Nat) => (dg p).length - k) (fun (k : Nat) (out : List Nat) (c : Nat) => [(0, aE p), (1, aE q), (5, Is (.slice (some ⟨B19, 0, none⟩) ((dg p).length + 1) ((dg p).length + 1))), (6, cB c), (21, NT .i64 (dg p).length), (22, NT .i64 k)]) (fun (k : Nat) (out : List Nat) (c : Nat) => [box B19 189 (out.map cB)]) 0 (List.replicate ((dg p).length + 1) 0) 0 (yQ.start _ _)
   (zS rfl) (aU (aB (kJ _)) aY) (fun k out c hS=>?_)
  refine ts (ro rfl (gX (Ht rfl) (Ht rfl)) (eX (cK (dQ (Ht rfl) (fun hb=>?_) (fun hb=>?_)))))
  ·simp at hb
   have hlen:=hS.len; have hcl:=hS.cle; have hxk:=aP (bH p) k; have hyk:=aP (bH q) k
   simp only [BB] at hxk hyk
   refine cU (cK (eG (ts (rm rfl (ra rfl (eX (ts (ro rfl (cQ (cJ 0)) (eX (cK (jL (fun (uu:Unit)=>True) (fun (uu:Unit)=>[(0,aE p),(1,aE q),(5,Is (.slice (some ⟨B19,0,none⟩) ((dg p).length + 1) ((dg p).length + 1))),(6,cB c),(7,NT .i64 k),(8,cB ((dg q).getD k 0)),(21,NT .i64 (dg p).length),(22,NT .i64 k)]) (fun (uu:Unit)=>[box B19 189 (out.map cB)]) ?_ (fun uu _=>?_))))))))))))
   ·refine ts (rm rfl (rm rfl (ro rfl (dG U_47 (Ht rfl) aA) (ro rfl (gX (Ht rfl) (Ht rfl)) (eX (dQ (Ht rfl) (fun hk2 => ?_) (fun hk2 => ?_)))))))
    ·simp at hk2
     refine cY (rm rfl (rm rfl (ro rfl (dZ U_47 Z_189 (Ht rfl) (Ht rfl) rfl (dY (aF zo))) (ro rfl (dJ A_189 Z_189 (Ht rfl)) (ra rfl (eX (bC () trivial (zS rfl) (cT.refl _))))))))
    ·simp at hk2
     refine cU (bC () trivial (aQ rfl (aQ rfl (aQ rfl (aQ rfl (aQ rfl (aZ rfl (kI (by simp [List.getD,List.getElem?_eq_none hk2])) (zS rfl))))))) (cT.refl _))
   ·refine cY (rm rfl (rm rfl (rm rfl (rm rfl (ro rfl (dZ U_47 Z_189 (Ht rfl) (Ht rfl) rfl (dY (aF zo))) (ro rfl (dJ A_189 Z_189 (Ht rfl)) (rm rfl (rm rfl (ro rfl (cZ Tryz.call255 (Zf hxk hyk zo) ⟨(Ht rfl), (Ht rfl), (Ht rfl), trivial⟩) (rm rfl (ro rfl (dK (Ht rfl) rfl) (ro rfl (dK (Ht rfl) rfl) (ro rfl (fY U_47 Z_189 (Ht rfl) (Ht rfl) rfl zo (by rw [Nat.mul_one, Nat.zero_add])) ?_)))))))))))))
    refine kK Z_189 (Ht rfl) (Ht rfl) (i:=0) rfl (by first | omega | (simp; omega)) rfl (ra rfl (eX (bA (cY (ro rfl (dV (Ht rfl) (cJ 1) z6) (rm rfl (eX (fU (k + 1,_,_) (hS.next (bH p) (bH q) hb) (by dsimp only; omega) (zS rfl) (aU (aB (fF _ _ _)) aY)))))))))
  ·simp at hb
   have hkl:k = (dg p).length:=Nat.le_antisymm hS.kle hb
   subst hkl
   have hlen:=hS.len; have hcl:=hS.cle
   refine gV rfl (ts (rm rfl (rm rfl (ro rfl (dG U_47 (Ht rfl) aA) (rm rfl (ro rfl (fY U_47 Z_189 (Ht rfl) (Ht rfl) rfl zo (by rw [Nat.mul_one,Nat.zero_add])) ?_))))))
   refine kK Z_189 (Ht rfl) (Ht rfl) (i:=0) rfl (by first | omega | (simp; omega)) rfl (eX (cK ?_))
   have hfin:=hS.fin hle
   refine gJ (i:=0) (tt:=5) rfl rfl (lE (fF _ _ _) (by simp [hlen]) (Nat.le_refl _)) ?_
   refine cY (rm rfl (ro rfl (cZ K_221 (qZ _ (jT hS.dig (by simp only [BB]; omega)) (by simp [hlen]; omega)) ⟨(Ht rfl),trivial⟩) ?_))
   refine ra rfl (eX (fW rfl (fX (eU rfl) ?_)))
   exact (dF (by rw [hfin,cO,cO]; exact hpq))
theorem a1q {m n:Nat} (hm:(dg m).length ≤ 17592186044416) (hnm:n ≤ m):bB Tryz.prog 217 [aE m,aE n] (aE (m - n)):=by
 have hle:=gO hnm
 refine bB.intro Tryz.func217 rfl Tryz.ntmps217 rfl (fun cx=>(ts (ro rfl (cQ cV) (eX (ts (rm rfl (ro rfl (dG U_47 (Ht rfl) aA) (rn rfl (eE (T:=cB 0) (i:=Tryz.t189) V_47 iE rfl rfl (Ht rfl) rfl (fun _=>rfl) trivial (by show 4 * _ ≤ _; omega) zo) fun B11=>(ra rfl (eX (ts (ro rfl (cQ (cJ 0)) (eX (cK (ts (rm rfl (ro rfl (dG U_47 (Ht rfl) aA) (ro rfl (cX (cJ 0)) (eX (eG ?_))))))))))))))))))))
 refine iS (fun (k : Nat) (out : List Nat) (c : Nat) => yT (dg m) (dg n) out k c) (fun (k : Nat) (out : List Nat) (c : Nat) => (dg m).length - k) (fun (k : Nat) (out : List Nat) (c : Nat) => [(0, aE m), (1, aE n), (5, Is (.slice (some ⟨B11, 0, none⟩) (dg m).length (dg m).length)), (6, cB c), (13, NT .i64 (dg m).length), (14, NT .i64 k)]) (fun (k : Nat) (out : List Nat) (c : Nat) => [box B11 189 (out.map cB)]) 0 (List.replicate (dg m).length 0) 0 (yT.start _ _)
  (zS rfl) (aU (aB (kJ _)) aY) (fun k out c hS=>?_)
 refine ts (ro rfl (gX (Ht rfl) (Ht rfl)) (eX (cK (dQ (Ht rfl) (fun hb=>?_) (fun hb=>?_)))))
 ·simp at hb
  have hlen:=hS.len; have hcl:=hS.cle; have hxk:=aP (bH m) k; have hyk:=aP (bH n) k
  simp only [BB] at hxk hyk
  refine cU (cK (eG (ts (rm rfl (ra rfl (eX (ts (ro rfl (cQ (cJ 0)) (eX (cK (jL (fun (uu:Unit)=>True) (fun (uu:Unit)=>[(0,aE m),(1,aE n),(5,Is (.slice (some ⟨B11,0,none⟩) (dg m).length (dg m).length)),(6,cB c),(7,NT .i64 k),(8,cB ((dg n).getD k 0)),(13,NT .i64 (dg m).length),(14,NT .i64 k)]) (fun (uu:Unit)=>[box B11 189 (out.map cB)]) ?_ (fun uu _=>?_))))))))))))
  ·refine ts (rm rfl (rm rfl (ro rfl (dG U_47 (Ht rfl) aA) (ro rfl (gX (Ht rfl) (Ht rfl)) (eX (dQ (Ht rfl) (fun hk2 => ?_) (fun hk2 => ?_)))))))
   ·simp at hk2
    refine cY (rm rfl (rm rfl (ro rfl (dZ U_47 Z_189 (Ht rfl) (Ht rfl) rfl (dY (aF zo))) (ro rfl (dJ A_189 Z_189 (Ht rfl)) (ra rfl (eX (bC () trivial (zS rfl) (cT.refl _))))))))
   ·simp at hk2
    refine cU (bC () trivial (aQ rfl (aQ rfl (aQ rfl (aQ rfl (aQ rfl (aZ rfl (kI (by simp [List.getD,List.getElem?_eq_none hk2])) (zS rfl))))))) (cT.refl _))
  ·refine cY (rm rfl (rm rfl (rm rfl (rm rfl (ro rfl (dZ U_47 Z_189 (Ht rfl) (Ht rfl) rfl (dY (aF zo))) (ro rfl (dJ A_189 Z_189 (Ht rfl)) (rm rfl (rm rfl (ro rfl (cZ Tryz.call256 (Zq hxk hyk zo) ⟨(Ht rfl), (Ht rfl), (Ht rfl), trivial⟩) (rm rfl (ro rfl (dK (Ht rfl) rfl) (ro rfl (dK (Ht rfl) rfl) (ro rfl (fY U_47 Z_189 (Ht rfl) (Ht rfl) rfl zo (by rw [Nat.mul_one, Nat.zero_add])) ?_)))))))))))))
   refine kK Z_189 (Ht rfl) (Ht rfl) (i:=0) rfl (by first | omega | (simp; omega)) rfl (ra rfl (eX (bA (cY (ro rfl (dV (Ht rfl) (cJ 1) z6) (rm rfl (eX (fU (k + 1,_,_) (hS.next (bH m) (bH n) hb) (by dsimp only; omega) (zS rfl) (aU (aB (fF _ _ _)) aY)))))))))
 ·simp at hb
  have hkl:k = (dg m).length:=Nat.le_antisymm hS.kle hb
  subst hkl
  have hlen:=hS.len
  have hfin:=hS.fin (bH m) hle (by rw [cO,cO]; exact hnm)
  rw [cO,cO] at hfin
  refine gV rfl (gJ (i:=0) (tt:=5) rfl rfl (lE rfl hlen.symm (Nat.le_refl _)) (ts (rm rfl (ro rfl (cZ K_221 (qZ _ hS.dig zo) ⟨(Ht rfl),trivial⟩) (ra rfl (eX (fW rfl (fX (eU rfl) ?_))))))))
  exact (dF hfin)
theorem Gz {m n:Nat} (hm:(dg m).length ≤ 17592186044416) (hn:(dg n).length ≤ 17592186044416):bB Tryz.prog 138 [aE m,aE n] (aE (m * n)):=by
 refine bB.intro Tryz.func138 rfl Tryz.ntmps138 rfl (fun cx=>(ts (ro rfl (cQ cV) (eX (cK (ts (rm rfl (ro rfl (dG U_47 (Ht rfl) aA) (ro rfl (cR (Ht rfl) (cJ 0)) (rm rfl (fQ rfl rfl (eK rfl rfl (Ht rfl) (fun h=>cX (Ht rfl))) (fQ rfl rfl (eK rfl rfl (Ht rfl) (fun h=>dG U_47 (fJ rfl h) aA)) (fQ rfl rfl (eK rfl rfl (Ht rfl) (fun h=>cR (fJ rfl h) (cJ 0))) (ro rfl (gT (Ht rfl) (fun h=>(fJ rfl h))) (eX (dQ (Ht rfl) (fun hb=>?_) (fun hb=>?_)))))))))))))))))
 ·simp [aM] at hb
  have h0 : m * n = 0 := by
   rcases hb with h | h <;> simp_all [qE]
  refine ts (ro rfl (cQ cV) (eX (fW rfl (fX (eU rfl) ?_))))
  exact (fun v V h=>by rw [h0]; exact jY v V h)
 ·clear hb
  refine cU (ts (rm rfl (ro rfl (dG U_47 (Ht rfl) aA) (rm rfl (ro rfl (dG U_47 (Ht rfl) aA) (ro rfl (dV (Ht rfl) (Ht rfl) z6) (rn rfl (eE (T:=cB 0) (i:=Tryz.t189) V_47 iE rfl rfl (Ht rfl) rfl (fun _=>rfl) trivial (by show 4 * _ ≤ _; omega) zo) fun B24=>(ra rfl (eX (cK (ts (rm rfl (ro rfl (dG U_47 (Ht rfl) aA) (ro rfl (cX (cJ 0)) (eX (eG ?_))))))))))))))))
  refine gB (fun (i : Nat) (out : List Nat) => Ab (dg m) (dg n) out i) (fun (i : Nat) (out : List Nat) => (dg m).length - i) (fun (i : Nat) (out : List Nat) => [(0, aE m), (1, aE n), (5, Is (.slice (some ⟨B24, 0, none⟩) ((dg m).length + (dg n).length) ((dg m).length + (dg n).length))), (25, aE m), (26, NT .i64 (dg m).length), (27, NT .i64 i)]) (fun (i : Nat) (out : List Nat) => [box B24 189 (out.map cB)]) 0 (List.replicate ((dg m).length + (dg n).length) 0) (Ab.start _ _)
   (zS rfl) (aU (aB (kJ _)) aY) (fun i out hS=>?_)
  refine ts (ro rfl (gX (Ht rfl) (Ht rfl)) (eX (cK (dQ (Ht rfl) (fun hb=>?_) (fun hb=>?_)))))
  ·simp at hb
   have hxi:=aP (bH m) i
   simp only [BB] at hxi
   refine cU (cK (eG (ts (rm rfl (ro rfl (dZ U_47 Z_189 (Ht rfl) (Ht rfl) rfl (dY (aF zo))) (ro rfl (dJ A_189 Z_189 (Ht rfl)) (ra rfl (ra rfl (eX (ts (ro rfl (cQ (cJ 0)) (eX (cK (ts (rm rfl (ro rfl (dG U_47 (Ht rfl) aA) (ro rfl (cX (cJ 0)) (eX (eG ?_)))))))))))))))))))
   refine iS (fun (k : Nat) (out2 : List Nat) (c : Nat) => Gn (dg m) (dg n) out2 i k c) (fun (k : Nat) (out2 : List Nat) (c : Nat) => (dg n).length - k) (fun (k : Nat) (out2 : List Nat) (c : Nat) => [(0, aE m), (1, aE n), (5, Is (.slice (some ⟨B24, 0, none⟩) ((dg m).length + (dg n).length) ((dg m).length + (dg n).length))), (6, NT .i64 i), (7, cB ((dg m).getD i 0)), (8, NT .u64 c), (25, aE m), (26, NT .i64 (dg m).length), (27, NT .i64 i), (32, aE n), (33, NT .i64 (dg n).length), (34, NT .i64 k)]) (fun (k : Nat) (out2 : List Nat) (c : Nat) => [box B24 189 (out2.map cB)]) 0 out 0 (hS.row hb)
    (zS rfl) (cT.refl _) (fun k out2 c hR=>?_)
   refine ts (ro rfl (gX (Ht rfl) (Ht rfl)) (eX (cK (dQ (Ht rfl) (fun hk=>?_) (fun hk=>?_)))))
   ·simp at hk
    have hlen:=hR.len; have hcl:=hR.clt; have hyk:=aP (bH n) k; have hok:=aP hR.dig (i + k)
    have hbnd:=uE (aP (bH m) i) (aP (bH n) k) (aP hR.dig (i + k)) hR.clt
    simp only [BB] at hcl hyk hok hbnd
    refine cU (cK (eG (ts (rm rfl (ro rfl (dZ U_47 Z_189 (Ht rfl) (Ht rfl) rfl (dY (aF zo))) (ro rfl (dJ A_189 Z_189 (Ht rfl)) (ra rfl (ra rfl (eX (ts (rm rfl (rm rfl (ro rfl (gZ U_189 U_254 (Ht rfl) z7) (rm rfl (ro rfl (gZ U_189 U_254 (Ht rfl) z7) (ro rfl (kZ (Ht rfl) (Ht rfl) (by show _ < 18446744073709551616; omega)) ?_))))))))))))))))
    refine rm rfl (rm rfl (rm rfl (ro rfl (dV (Ht rfl) (Ht rfl) z6) (ro rfl (fY U_47 Z_189 (Ht rfl) (Ht rfl) rfl zo (by rw [Nat.mul_one,Nat.zero_add])) ?_))))
    refine ro rfl (eY A_189 Z_189 (Ht rfl) (i:=0) rfl (dY (aF zo))) (ro rfl (gZ U_189 U_254 (Ht rfl) z7) (ro rfl (dV (Ht rfl) (Ht rfl) z7) (ro rfl (dV (Ht rfl) (Ht rfl) z7) (ra rfl (eX (ts (rm rfl (rm rfl (rm rfl (ro rfl (dV (Ht rfl) (Ht rfl) z6) ?_))))))))))
    refine rm rfl (ro rfl (fM rfl U_254 U_189 (Ht rfl)) (ro rfl (fY U_47 Z_189 (Ht rfl) (Ht rfl) rfl zo (by rw [Nat.mul_one,Nat.zero_add])) ?_))
    refine kK Z_189 (Ht rfl) (Ht rfl) (i:=0) rfl (by first | omega | (simp; omega)) rfl (eX (cY (rm rfl (ro rfl (eP (Ht rfl) (cJ 32) (by decide)) (ra rfl (eX (bA (cY (ro rfl (dV (Ht rfl) (cJ 1) z6) (rm rfl (eX (fU (k + 1,_,_) (hR.next (bH m) (bH n) hk rfl) (by dsimp only; omega) (zS rfl) (aU (aB (fF _ _ _)) aY)))))))))))))
   ·simp at hk
    have hkl:k = (dg n).length:=Nat.le_antisymm hR.kle hk
    subst hkl
    have hlen:=hR.len; have hcl:=hR.clt
    simp only [BB] at hcl
    refine gV rfl (cY (rm rfl (rm rfl (rm rfl (ro rfl (dG U_47 (Ht rfl) aA) (ro rfl (dV (Ht rfl) (Ht rfl) z6) (rm rfl (ro rfl (gZ U_254 U_189 (Ht rfl) (by show _ < 4294967296; first | omega | (simp only [lF]; omega))) (ro rfl (fY U_47 Z_189 (Ht rfl) (Ht rfl) rfl zo (by rw [Nat.mul_one,Nat.zero_add])) ?_)))))))))
    refine kK Z_189 (Ht rfl) (Ht rfl) (i:=0) rfl (by first | omega | (simp; omega)) rfl (eX (bA (cY (ro rfl (dV (Ht rfl) (cJ 1) z6) (rm rfl (eX (fU (i + 1,_) (hR.fin) (by dsimp only; omega) (zS rfl) (aU (aB (fF _ _ _)) aY))))))))
  ·simp at hb
   have hkl:i = (dg m).length:=Nat.le_antisymm hS.ile hb
   subst hkl
   have hlen:=hS.len
   have hfin:=hS.fin
   rw [cO,cO] at hfin
   refine gV rfl (gJ (i:=0) (tt:=5) rfl rfl (lE rfl hlen.symm (Nat.le_refl _)) (ts (rm rfl (ro rfl (cZ K_221 (qZ _ hS.dig zo) ⟨(Ht rfl),trivial⟩) (ra rfl (eX (fW rfl (fX (eU rfl) ?_))))))))
   exact (dF hfin)
end
section
open Go Go.RowKit
theorem Zk {v:Nat} (hv:v < 4294967296):bB Tryz.prog 280 [cB v] (NT .i64 (bl v)):=by
 refine bB.intro Tryz.func280 rfl Tryz.ntmps280 rfl (fun cx=>(ts (ro rfl (cQ (cJ 0)) (eX (cK (pF (fun (q:Nat) (x:Nat)=>bl v = q + bl x ∧ x < 65536 ∧ q ≤ 16) (fun (q:Nat) (x:Nat)=>[(0,cB x),(2,NT .i64 q)]) (fun (q:Nat) (x:Nat)=>[]) ?_ (fun q x ⟨hq1,hq2,hq3⟩=>?_)))))))
 ·refine ts (rm rfl (ro rfl (pS (Ht rfl) (cJ 65536)) (eX (dQ (Ht rfl) (fun hb => ?_) (fun hb => ?_)))))
  ·simp at hb
   refine ts (rm rfl (ro rfl (eP (Ht rfl) (cJ 16) (by decide)) (ra rfl (eX (cY (ro rfl (cQ (cJ 16)) (eX (bC (16,v / 2 ^ 16) ⟨a3Z hb,by dsimp only; omega,Nat.le_refl _⟩ (zS rfl) aY))))))))
  ·simp at hb
   refine cU (bC (0,v) ⟨(Nat.zero_add _).symm,hb,by dsimp only; omega⟩ (zS rfl) aY)
 ·refine cK (pF (fun (r : Nat) (z : Nat) => bl v = r + bl z ∧ z < 256 ∧ r ≤ 24) (fun (r : Nat) (z : Nat) => [(0, cB z), (2, NT .i64 r)]) (fun (r : Nat) (z : Nat) => []) ?_ (fun r z ⟨hr1, hr2, hr3⟩ => ?_))
  ·refine ts (rm rfl (ro rfl (pS (Ht rfl) (cJ 256)) (eX (dQ (Ht rfl) (fun hb => ?_) (fun hb => ?_)))))
   ·simp at hb
    refine ts (rm rfl (ro rfl (eP (Ht rfl) (cJ 8) (by decide)) (ra rfl (eX (cY (rm rfl (ro rfl (dV (Ht rfl) (cJ 8) z6) (ra rfl (eX (bC (q + 8,x / 2 ^ 8) ⟨by have:=bl8 hb; dsimp only; omega,by dsimp only; omega,by dsimp only; omega⟩ (zS rfl) aY))))))))))
   ·simp at hb
    refine cU (bC (q,x) ⟨hq1,hb,by dsimp only; omega⟩ (zS rfl) aY)
  ·have hbl := nG (k := 8) hr2
   refine ts (rm rfl (rm rfl (ro rfl (gZ U_189 U_5 (Ht rfl) (by show _ < 256; first | omega | (simp only [lF]; omega))) (ro rfl (a0F Tryz.runUnderlying9 cV (Ht rfl) (a42 hr2 (by kernel_rfl))) (ro rfl (gZ U_5 U_3 (Ht rfl) z6) (ro rfl (dV (Ht rfl) (Ht rfl) z6) (ra rfl (eX (fW rfl (fX (eU rfl) ?_))))))))))
   exact (kI zo)
theorem a24 {v:Nat} (hv:v < 4294967296):bB Tryz.prog 258 [cB v] (NT .i64 (32 - bl v)):=by
 refine bB.intro Tryz.func258 rfl Tryz.ntmps258 rfl (fun cx=>(ts (ro rfl (cQ (cJ 0)) (eX (ts (rm rfl (ro rfl (cZ Tryz.call280 (Zk hv) ⟨(Ht rfl),trivial⟩) (ro rfl (dW (cJ 32) (Ht rfl) (nG hv) z6) (ra rfl (eX ?_))))))))))
 exact fW rfl (eU rfl)
theorem Zg {hi lo y:Nat} (hy:hi < y) (hl:lo < BB) (hyb:y < BB):bB Tryz.prog 279 [cB hi,cB lo,cB y] (fH [cB ((hi * BB + lo) / y),cB ((hi * BB + lo) % y)]):=by
 have hq:=En hy hl; have hm:=Nat.mod_lt (hi * BB + lo) (by omega:y > 0); have hz:hi * BB + lo < 18446744073709551616:=by simp only [BB] at *; omega
 have hsh : hi * 2 ^ 32 < 18446744073709551616 := by
  have h1:hi < BB:=by omega
  show hi * BB < _
  simp only [BB] at h1 ⊢; omega
 refine bB.intro Tryz.func279 rfl Tryz.ntmps279 rfl (fun cx=>(ts (ro rfl (cQ (cJ 0)) (ro rfl (cQ (cJ 0)) (eX (cK (ts (rm rfl (ro rfl (eO (Ht rfl) (cJ 0)) (rm rfl (fQ rfl rfl (eK rfl rfl (Ht rfl) (fun h=>cX (Ht rfl))) (fQ rfl rfl (eK rfl rfl (Ht rfl) (fun h=>cX (Ht rfl))) (fQ rfl rfl (eK rfl rfl (Ht rfl) (fun h=>zM (fJ rfl h) (fJ rfl h))) (ro rfl (fE (Ht rfl) (fun h=>(fJ rfl h))) (eX (iR (Ht rfl) (by simp; omega) ?_))))))))))))))))
 have hl2:lo < 18446744073709551616:=by simp only [BB] at hl; omega
 have hy2:y < 18446744073709551616:=by simp only [BB] at hyb; omega
 refine cU (ts (rm rfl (ro rfl (gZ U_189 U_254 (Ht rfl) (by show _ < 18446744073709551616; simp only [BB] at *; omega)) (ro rfl (nD (Ht rfl) (cJ 32) (by decide) hsh) (rm rfl (ro rfl (gZ U_189 U_254 (Ht rfl) (by show _ < 18446744073709551616; simp only [BB] at *; omega)) (ro rfl (aL.nat (oY rfl (Ht rfl) (Ht rfl) z7 z7) (vG hl)) (ra rfl (eX ?_)))))))))
 refine cK (fZ (m:=11) (dp 8 rfl (cX (Ht rfl)) (dp 2 rfl (cX (Ht rfl)) (dq 24 1 rfl (gZ U_189 U_254 (Ht rfl) (by show _ < 18446744073709551616; simp only [BB] at *; omega)) (cP 23 0 25 2 rfl (jC (Ht rfl) (Ht rfl) zo (by show _ < 18446744073709551616; exact hz)) (dq 26 3 rfl (gZ U_254 U_189 (Ht rfl) (by show _ < 4294967296; exact hq)) (dp 8 rfl (cX (Ht rfl)) (dp 2 rfl (cX (Ht rfl)) (dq 29 6 rfl (gZ U_189 U_254 (Ht rfl) (by show _ < 18446744073709551616; simp only [BB] at *; omega)) ?_)))))))))
 refine cP 28 5 30 7 rfl (nC (Ht rfl) (Ht rfl) zo) (dq 31 8 rfl (gZ U_254 U_189 (Ht rfl) (by show _ < 4294967296; simp only [BB] at *; omega)) (dq 27 4 rfl (cQ (Ht rfl)) (fV aO rfl (by kernel_rfl) (zF (zF (aJ (aJ (aJ (aV (ra rfl (eX ?_)))))))))))
 exact bM rfl (eU rfl) (eU rfl)
theorem a1p {m k:Nat} (hm:(dg m).length ≤ 17592186044416) (hk:k ≤ 562949953421312):bB Tryz.prog 259 [aE m,NT .i64 k] (aE (m * 2 ^ k)):=by
 refine bB.intro Tryz.func259 rfl Tryz.ntmps259 rfl (fun cx=>(ts (ro rfl (cQ cV) (eX (cK (ts (rm rfl (ro rfl (dG U_47 (Ht rfl) aA) (ro rfl (cR (Ht rfl) (cJ 0)) (rm rfl (fQ rfl rfl (eK rfl rfl (Ht rfl) (fun h=>cX (Ht rfl))) (fQ rfl rfl (eK rfl rfl (Ht rfl) (fun h=>cR (fJ rfl h) (cJ 0))) (ro rfl (gT (Ht rfl) (fun h=>(fJ rfl h))) (eX (dQ (Ht rfl) (fun hb=>?_) (fun hb=>?_))))))))))))))))
 ·simp [aM] at hb
  have h0 : m * 2 ^ k = m := by
   rcases hb with h | h
   ·simp_all [qE]
   ·rw [h,Nat.pow_zero,Nat.mul_one]
  refine ts (rm rfl (ra rfl (eX (fW rfl (fX (eU rfl) ?_)))))
  exact (dF h0.symm)
 ·clear hb
  have hr:=Nat.mod_lt k (by decide:32 > 0)
  refine cU (ts (rm rfl (ro rfl (jC (Ht rfl) (cJ 32) zo z6) (rm rfl (ro rfl (nC (Ht rfl) (cJ 32) zo) (ro rfl (gZ U_3 U_255 (Ht rfl) z7) (ra rfl (ra rfl (eX (ts (rm rfl (ro rfl (dG U_47 (Ht rfl) aA) (rm rfl (ro rfl (dV (Ht rfl) (Ht rfl) z6) (ro rfl (dV (Ht rfl) (cJ 1) z6) ?_)))))))))))))))
  refine rn rfl (eE (T:=cB 0) (i:=Tryz.t189) V_47 iE rfl rfl (Ht rfl) rfl (fun _=>rfl) trivial (by show 4 * _ ≤ _; omega) zo) fun B29=>ra rfl (eX (cK (ts (rm rfl (ro rfl (dG U_47 (Ht rfl) aA) (ro rfl (cX (cJ 0)) (eX (eG ?_))))))))
  refine gB (fun (i : Nat) (out : List Nat) => Ad (dg m) (k / 32) (k % 32) out i) (fun (i : Nat) (out : List Nat) => (dg m).length - i) (fun (i : Nat) (out : List Nat) => [(5, NT .i64 (k / 32)), (6, NT .u64 (k % 32)), (7, Is (.slice (some ⟨B29, 0, none⟩) ((dg m).length + k / 32 + 1) ((dg m).length + k / 32 + 1))), (30, aE m), (31, NT .i64 (dg m).length), (32, NT .i64 i)]) (fun (i : Nat) (out : List Nat) => [box B29 189 (out.map cB)]) 0 (List.replicate ((dg m).length + k / 32 + 1) 0) (Ad.start _ _ _)
   (zS rfl) (aU (aB (kJ _)) aY) (fun i out hS=>?_)
  refine ts (ro rfl (gX (Ht rfl) (Ht rfl)) (eX (cK (dQ (Ht rfl) (fun hb=>?_) (fun hb=>?_)))))
  ·simp at hb
   have hlen:=hS.len; have hxi:=aP (bH m) i; have hok:=aP hS.dig (i + k / 32)
   have hv:=Em hxi hr
   have hd:(dg m).getD i 0 * 2 ^ (k % 32) / 2 ^ 32 < 4294967296:=Nat.div_lt_of_lt_mul hv
   simp only [BB] at hxi hok
   refine cU (cK (eG (ts (rm rfl (ro rfl (dZ U_47 Z_189 (Ht rfl) (Ht rfl) rfl (dY (aF zo))) (ro rfl (dJ A_189 Z_189 (Ht rfl)) (ra rfl (ra rfl (eX (ts (rm rfl (ro rfl (gZ U_189 U_254 (Ht rfl) z7) (rm rfl (ro rfl (nD (Ht rfl) (Ht rfl) (by show _ ≤ _; simp [IntKind.bits]; omega) (by show _ < 18446744073709551616; exact hv)) (ra rfl (eX (ts (rm rfl (rm rfl (rm rfl (ro rfl (dV (Ht rfl) (Ht rfl) z6) ?_)))))))))))))))))))))
   refine ro rfl (fY U_47 Z_189 (Ht rfl) (Ht rfl) rfl zo (by rw [Nat.mul_one,Nat.zero_add])) ?_
   refine ro rfl (eY A_189 Z_189 (Ht rfl) (i:=0) rfl (dY (aF zo))) (rm rfl (ro rfl (fM rfl U_254 U_189 (Ht rfl)) (ro rfl (oY rfl (Ht rfl) (Ht rfl) (by show _ < 4294967296; omega) (by show _ % 4294967296 < 4294967296; omega)) (ro rfl (fY U_47 Z_189 (Ht rfl) (Ht rfl) rfl zo (by rw [Nat.mul_one,Nat.zero_add])) ?_))))
   refine kK Z_189 (Ht rfl) (Ht rfl) (i:=0) rfl (by first | omega | (simp; omega)) rfl (eX (cY (rm rfl (rm rfl (rm rfl (ro rfl (dV (Ht rfl) (Ht rfl) z6) (ro rfl (dV (Ht rfl) (cJ 1) z6) (rm rfl (ro rfl (eP (Ht rfl) (cJ 32) (by decide)) (ro rfl (gZ U_254 U_189 (Ht rfl) (by show _ < 4294967296; exact hd)) (ro rfl (fY U_47 Z_189 (Ht rfl) (Ht rfl) rfl zo (by rw [Nat.mul_one,Nat.zero_add])) ?_)))))))))))
   refine kK Z_189 (Ht rfl) (Ht rfl) (i:=0) rfl (by first | omega | (simp; omega)) rfl (eX (bA (cY (ro rfl (dV (Ht rfl) (cJ 1) z6) (rm rfl (eX (fU (i + 1,_) (hS.next (bH m) hr hb rfl rfl) (by dsimp only; omega) (zS rfl) (aU (aB (Js _ _ _ _ _)) aY))))))))
  ·simp at hb
   have hkl:i = (dg m).length:=Nat.le_antisymm hS.kle hb
   subst hkl
   have hlen:=hS.len
   have hfin:=hS.fin
   rw [cO,mA] at hfin
   refine gV rfl (gJ (i:=0) (tt:=7) rfl rfl (lE rfl hlen.symm (Nat.le_refl _)) (ts (rm rfl (ro rfl (cZ K_221 (qZ _ hS.dig zo) ⟨(Ht rfl),trivial⟩) (ra rfl (eX (fW rfl (fX (eU rfl) ?_))))))))
   exact (dF hfin)
theorem a3v {m k:Nat} (hm:(dg m).length ≤ 17592186044416) (hk:k ≤ 562949953421312):bB Tryz.prog 261 [aE m,NT .i64 k] (aE (m / 2 ^ k)):=by
 refine bB.intro Tryz.func261 rfl Tryz.ntmps261 rfl (fun cx=>?_)
 have hr:=Nat.mod_lt k (by decide:32 > 0)
 refine ts (ro rfl (cQ cV) (eX (ts (rm rfl (ro rfl (jC (Ht rfl) (cJ 32) zo z6) (rm rfl (ro rfl (nC (Ht rfl) (cJ 32) zo) (ro rfl (gZ U_3 U_255 (Ht rfl) z7) (ra rfl (ra rfl (eX (cK (ts (rm rfl (rm rfl (ro rfl (dG U_47 (Ht rfl) aA) (ro rfl (pS (Ht rfl) (Ht rfl)) (eX (dQ (Ht rfl) (fun hb=>?_) (fun hb=>?_))))))))))))))))))))
 ·simp at hb
  have h0:=Jx (bH m) hb (r:=k % 32)
  rw [cO,mA] at h0
  refine ts (ro rfl (cQ cV) (eX (fW rfl (fX (eU rfl) ?_))))
  exact (fun v V h=>dF h0.symm v V (jY v V h))
 ·simp at hb
  refine cU (ts (rm rfl (ro rfl (dG U_47 (Ht rfl) aA) (rm rfl (ro rfl (dW (Ht rfl) (Ht rfl) zo z6) (rn rfl (eE (T:=cB 0) (i:=Tryz.t189) V_47 iE rfl rfl (Ht rfl) rfl (fun _=>rfl) trivial (by show 4 * _ ≤ _; omega) zo) fun B23=>(ra rfl (eX (cK (ts (rm rfl (ro rfl (hJ U_47 (Ht rfl)) (ro rfl (cX (cJ 0)) (eX (eG ?_)))))))))))))))
  refine gB (fun (i : Nat) (out : List Nat) => Ae (dg m) (k / 32) (k % 32) out i) (fun (i : Nat) (out : List Nat) => (dg m).length - i) (fun (i : Nat) (out : List Nat) => [(0, aE m), (5, NT .i64 (k / 32)), (6, NT .u64 (k % 32)), (7, Is (.slice (some ⟨B23, 0, none⟩) ((dg m).length - k / 32) ((dg m).length - k / 32))), (25, NT .i64 ((dg m).length - k / 32 : Nat)), (26, NT .i64 i)]) (fun (i : Nat) (out : List Nat) => [box B23 189 (out.map cB)]) 0 (List.replicate ((dg m).length - k / 32) 0) (Ae.start _ _ _)
   (zS rfl) (aU (aB (kJ _)) aY) (fun i out hS=>?_)
  refine ts (ro rfl (gX (Ht rfl) (Ht rfl)) (eX (cK (dQ (Ht rfl) (fun hb=>?_) (fun hb=>?_)))))
  ·simp at hb
   have hlen:=hS.len; have hx0:=aP (bH m) (i + k / 32); have hx1:=aP (bH m) (i + k / 32 + 1)
   have hio:i < out.length:=by omega
   simp only [BB] at hx0 hx1
   refine cU (cK (eG (ts (rm rfl (ra rfl (eX (ts (rm rfl (rm rfl (rm rfl (ro rfl (dV (Ht rfl) (Ht rfl) z6) (ro rfl (dZ U_47 Z_189 (Ht rfl) (Ht rfl) rfl (dY (aF zo))) (ro rfl (dJ A_189 Z_189 (Ht rfl)) (ro rfl (gZ U_189 U_254 (Ht rfl) z7) (ra rfl (eX (cK (jL (fun (v:Nat)=>v = (dg m).getD (i + k / 32) 0 + BB * (dg m).getD (i + k / 32 + 1) 0) (fun (v:Nat)=>[(0,aE m),(5,NT .i64 (k / 32)),(6,NT .u64 (k % 32)),(7,Is (.slice (some ⟨B23,0,none⟩) ((dg m).length - k / 32) ((dg m).length - k / 32))),(8,NT .i64 i),(9,NT .u64 v),(25,NT .i64 ((dg m).length - k / 32:Nat)),(26,NT .i64 i)]) (fun (v:Nat)=>[box B23 189 (out.map cB)]) ?_ (fun v hv=>?_)))))))))))))))))))
   ·refine ts (rm rfl (rm rfl (ro rfl (dV (Ht rfl) (Ht rfl) z6) (ro rfl (dV (Ht rfl) (cJ 1) z6) (rm rfl (ro rfl (dG U_47 (Ht rfl) aA) (ro rfl (gX (Ht rfl) (Ht rfl)) (eX (dQ (Ht rfl) (fun hk2 => ?_) (fun hk2 => ?_))))))))))
    ·simp at hk2
     refine cY (rm rfl (rm rfl (rm rfl (rm rfl (ro rfl (dV (Ht rfl) (Ht rfl) z6) (ro rfl (dV (Ht rfl) (cJ 1) z6) (ro rfl (dZ U_47 Z_189 (Ht rfl) (Ht rfl) rfl (dY (aF zo))) (ro rfl (dJ A_189 Z_189 (Ht rfl)) (ro rfl (gZ U_189 U_254 (Ht rfl) z7) (ro rfl (nD (Ht rfl) (cJ 32) (by decide) (by show _ < 18446744073709551616; omega)) ?_))))))))))
     refine ro rfl (aL.nat (oY rfl (Ht rfl) (Ht rfl) z7 z7) (Oy hx0)) (ra rfl (eX (bC ((dg m).getD (i + k / 32) 0 + BB * (dg m).getD (i + k / 32 + 1) 0) rfl (zS rfl) (cT.refl _))))
    ·simp at hk2
     refine cU (bC ((dg m).getD (i + k / 32) 0) (by simp [List.getD,List.getElem?_eq_none hk2]) (zS rfl) (cT.refl _))
   ·refine cY (rm rfl (rm rfl (rm rfl (rm rfl (ro rfl (eP (Ht rfl) (Ht rfl) (by show _ ≤ 64; omega)) (ro rfl (fM rfl U_254 U_189 (Ht rfl)) (ro rfl (fY U_47 Z_189 (Ht rfl) (Ht rfl) rfl zo (by rw [Nat.mul_one, Nat.zero_add])) ?_)))))))
    refine kK Z_189 (Ht rfl) (Ht rfl) (i:=0) rfl (by first | omega | (simp; omega)) rfl (eX (bA (cY (ro rfl (dV (Ht rfl) (cJ 1) z6) (rm rfl (eX (fU (i + 1,_) (hS.next (bH m) hr hio (by rw [hv]; rfl)) (by dsimp only; omega) (zS rfl) (aU (aB (fF _ _ _)) aY))))))))
  ·simp at hb
   have hlen:=hS.len
   have hkl:i = out.length:=Nat.le_antisymm hS.kle zo
   subst hkl
   have hfin:=hS.fin (bH m) zo
   rw [cO,mA] at hfin
   refine gV rfl (gJ (i:=0) (tt:=7) rfl rfl (lE rfl hlen.symm (Nat.le_refl _)) (ts (rm rfl (ro rfl (cZ K_221 (qZ _ hS.dig zo) ⟨(Ht rfl),trivial⟩) (ra rfl (eX (fW rfl (fX (eU rfl) ?_))))))))
   exact (dF hfin)
theorem Nj {m y:Nat} (hm:(dg m).length ≤ 17592186044416) (hy:0 < y) (hyb:y < BB):bB Tryz.prog 257 [aE m,cB y] (fH [aE (m / y),cB (m % y)]):=by
 refine bB.intro Tryz.func257 rfl Tryz.ntmps257 rfl (fun cx=>(ts (ro rfl (cQ cV) (ro rfl (cQ (cJ 0)) (eX (ts (rm rfl (ro rfl (dG U_47 (Ht rfl) aA) (rn rfl (eE (T:=cB 0) (i:=Tryz.t189) V_47 iE rfl rfl (Ht rfl) rfl (fun _=>rfl) trivial (by show 4 * _ ≤ _; omega) zo) fun B11=>(ra rfl (eX (ts (ro rfl (cQ (cJ 0)) (eX (cK (ts (rm rfl (ro rfl (dG U_47 (Ht rfl) aA) (ro rfl (iL (Ht rfl) cV (Ch zo)) (ra rfl (eX (eG ?_))))))))))))))))))))))
 refine iS (fun (k : Nat) (out : List Nat) (r : Nat) => oI (dg m) y out k r) (fun (k : Nat) (out : List Nat) (r : Nat) => k) (fun (k : Nat) (out : List Nat) (r : Nat) => [(0, aE m), (1, cB y), (6, Is (.slice (some ⟨B11, 0, none⟩) (dg m).length (dg m).length)), (7, cB r), (8, bD .i64 ((k : Int) - 1))]) (fun (k : Nat) (out : List Nat) (r : Nat) => [box B11 189 (out.map cB)]) (dg m).length (List.replicate (dg m).length 0) 0 (oI.start _ hy)
  (zS rfl) (aU (aB (kJ _)) aY) (fun k out r hS=>?_)
 refine cK (ts (rm rfl (ro rfl (lT (Ht rfl) cV) (eX (dQ (Ht rfl) (fun hb=>?_) (fun hb=>?_))))))
 ·simp at hb
  have hlen:=hS.len; have hkl:=hS.kle
  refine cU (cK (eG (cY (rm rfl (rm rfl (rm rfl (rm rfl (rm rfl (ro rfl (dZ U_47 Z_189 (Ht rfl) (Ht rfl) (show ((k:Int) - 1) = ((k - 1:Nat):Int) by omega) (dY (aF zo))) (ro rfl (dJ A_189 Z_189 (Ht rfl)) (rm rfl (ro rfl (cZ Tryz.call279 (Zg hS.rlt (aP (bH m) (k - 1)) hyb) ⟨(Ht rfl),(Ht rfl),(Ht rfl),trivial⟩) (rm rfl (ro rfl (dK (Ht rfl) rfl) (ro rfl (dK (Ht rfl) rfl) (ro rfl (fY U_47 Z_189 (Ht rfl) (Ht rfl) (show ((k:Int) - 1) = ((k - 1:Nat):Int) by omega) zo (by rw [Nat.mul_one,Nat.zero_add])) ?_))))))))))))))))
  refine kK Z_189 (Ht rfl) (Ht rfl) (i:=0) rfl (by first | omega | (simp; omega)) rfl (ra rfl (eX (bA (cY (rm rfl (ro rfl (iL (Ht rfl) cV (Ch zo)) (ra rfl (eX (fU (k - 1,_,_) (hS.next (bH m) zo rfl) (by dsimp only; omega) (aQ rfl (aQ rfl (aQ rfl (aQ rfl (aZ rfl (aR zo) aX))))) (aU (aB (fF _ _ _)) aY))))))))))
 ·simp at hb
  have hk0:k = 0:=by omega
  subst hk0
  have hlen:=hS.len
  have hfin:=hS.fin
  rw [cO] at hfin
  refine gV rfl (gJ (i:=0) (tt:=6) rfl rfl (lE rfl hlen.symm (Nat.le_refl _)) (ts (rm rfl (ro rfl (cZ K_221 (qZ _ hS.dig zo) ⟨(Ht rfl),trivial⟩) (rm rfl (ra rfl (ra rfl (eX (bM rfl (fX (eU rfl) ?_) (fX (eU rfl) ?_))))))))))
  ·exact (dF hfin.1)
  ·exact (kI hfin.2)
end
section
open Go Go.RowKit
theorem a2b {us vs : List Nat} {q j B l : Nat} (hul : us.length = l) (hu : kG us) (hv : kG vs) (hq : q < BB) (hl : j + vs.length < us.length) (hL : us.length ≤ 1152921504606846976) :
    gF Tryz.prog 260 [Is (.slice (some ⟨B,0,none⟩) l l),uY vs,NT .u64 q,NT .i64 j] [box B 189 (us.map cB)] (List Nat × Bool) (fun x=>aC x.2) (fun x=>[box B 189 (x.1.map cB)]) (fun x=>Gq us vs q j x.1 x.2):=by
 refine gF.intro Tryz.func260 rfl Tryz.ntmps260 rfl (fun cx Z=>(ts (ro rfl (cQ cV) (eX (ts (ro rfl (cQ (cJ 0)) (ro rfl (cQ (cJ 0)) (eX (cK (ts (rm rfl (ro rfl (dG U_47 (Ht rfl) aA) (ro rfl (cX (cJ 0)) (eX (eG ?_)))))))))))))))
 refine vV (fun (i : Nat) (out : List Nat) (c : Nat) (b : Nat) => rY us vs q j out i c b) (fun (i : Nat) (out : List Nat) (c : Nat) (b : Nat) => vs.length - i) (fun (i : Nat) (out : List Nat) (c : Nat) (b : Nat) => [(0, Is (.slice (some ⟨B, 0, none⟩) l l)), (1, uY vs), (2, NT .u64 q), (3, NT .i64 j), (9, NT .u64 c), (10, NT .u64 b), (16, uY vs), (17, NT .i64 vs.length), (18, NT .i64 i)]) (fun (i : Nat) (out : List Nat) (c : Nat) (b : Nat) => [Z, box B 189 (out.map cB)]) 0 us 0 0 (rY.start hu vs q j)
  (zS rfl) (cT.refl _) (fun i out c b hS=>?_)
 refine ts (ro rfl (gX (Ht rfl) (Ht rfl)) (eX (cK (dQ (Ht rfl) (fun hb=>?_) (fun hb=>?_)))))
 ·simp at hb
  have hlen:=hS.len; have hcl:=hS.clt; have hbl:=hS.ble; have hvi:=aP hv i; have hok:=aP hS.dig (i + j)
  have hp:=Mi hq hvi hS.clt
  simp only [BB] at hp hcl hvi hok
  obtain ⟨p,hp1⟩:∃ p,p = q * vs.getD i 0 + c:=⟨_,rfl⟩
  obtain ⟨x,hx1⟩:∃ x,x = ((out.getD (i + j) 0 + 18446744073709551616 - p % 4294967296) % 18446744073709551616 + 18446744073709551616 - b) % 18446744073709551616:=⟨_,rfl⟩
  refine cU (cK (eG (ts (rm rfl (ro rfl (dZ U_47 Z_189 (Ht rfl) (Ht rfl) rfl (dY (aF zo))) (ro rfl (dJ A_189 Z_189 (Ht rfl)) (ra rfl (ra rfl (eX (ts (rm rfl (rm rfl (ro rfl (gZ U_189 U_254 (Ht rfl) z7) (ro rfl (kZ (Ht rfl) (Ht rfl) z7) (rm rfl (ro rfl (aL.nat (dV (Ht rfl) (Ht rfl) z7) hp1.symm) ?_))))))))))))))))
  refine ra rfl (eX (ts (rm rfl (ro rfl (eP (Ht rfl) (cJ 32) (by decide)) (ra rfl (eX (ts (rm rfl (rm rfl (rm rfl (ro rfl (dV (Ht rfl) (Ht rfl) z6) (ro rfl (fY U_47 Z_189 (Ht rfl) (Ht rfl) rfl zo (by rw [Nat.mul_one,Nat.zero_add])) ?_))))))))))))
  refine ro rfl (eY A_189 Z_189 (Ht rfl) (i:=1) rfl (dY (aF zo))) (ro rfl (gZ U_189 U_254 (Ht rfl) z7) (rm rfl (ro rfl (fM rfl U_254 U_189 (Ht rfl)) (ro rfl (gZ U_189 U_254 (Ht rfl) z7) (ro rfl (lP rfl (Ht rfl) (Ht rfl) (by show _ ≤ 18446744073709551616; first | omega | (simp only [lF]; omega))) ?_)))))
  refine rm rfl (ro rfl (aL.nat (lP rfl (Ht rfl) (Ht rfl) (by show _ ≤ 18446744073709551616; first | omega | (simp only [lF]; omega))) hx1.symm) (ra rfl (eX (ts (rm rfl (rm rfl (rm rfl (ro rfl (dV (Ht rfl) (Ht rfl) z6) (rm rfl (ro rfl (fM rfl U_254 U_189 (Ht rfl)) (ro rfl (fY U_47 Z_189 (Ht rfl) (Ht rfl) rfl zo (by rw [Nat.mul_one,Nat.zero_add])) ?_)))))))))))
  refine kK Z_189 (Ht rfl) (Ht rfl) (i:=1) rfl (by first | omega | (simp; omega)) rfl (eX (cY (rm rfl (ro rfl (eP (Ht rfl) (cJ 63) (by decide)) (ra rfl (eX (bA (cY (ro rfl (dV (Ht rfl) (cJ 1) z6) (rm rfl (eX (fU (i + 1,_,_,_) (hS.next hu hv hq hb hl hp1 (Ca hok hbl hx1) rfl) (by dsimp only; omega) (zS rfl) (aU (fun _ _ _ h=>h) (aU (aB (fF _ _ _)) aY))))))))))))))
 ·simp at hb
  have hkl:i = vs.length:=Nat.le_antisymm hS.ile hb
  subst hkl
  have hlen:=hS.len; have hcl:=hS.clt; have hbl:=hS.ble; have hok:=aP hS.dig (j + vs.length)
  obtain ⟨x,hx1⟩:∃ x,x = ((out.getD (j + vs.length) 0 + 18446744073709551616 - c) % 18446744073709551616 + 18446744073709551616 - b) % 18446744073709551616:=⟨_,rfl⟩
  have hfin:=hS.fin hl (Ce hok hcl hbl hx1) rfl
  simp only [BB] at hcl hok
  refine gV rfl (ts (rm rfl (rm rfl (rm rfl (ro rfl (dG U_47 (Ht rfl) aA) (ro rfl (dV (Ht rfl) (Ht rfl) z6) (ro rfl (fY U_47 Z_189 (Ht rfl) (Ht rfl) rfl zo (by rw [Nat.mul_one,Nat.zero_add])) ?_)))))))
  refine ro rfl (eY A_189 Z_189 (Ht rfl) (i:=1) rfl (dY (aF zo))) (ro rfl (gZ U_189 U_254 (Ht rfl) z7) (rm rfl (ro rfl (lP rfl (Ht rfl) (Ht rfl) (by show _ ≤ 18446744073709551616; first | omega | (simp only [lF]; omega))) (rm rfl (ro rfl (aL.nat (lP rfl (Ht rfl) (Ht rfl) (by show _ ≤ 18446744073709551616; first | omega | (simp only [lF]; omega))) hx1.symm) (ra rfl (eX (ts (rm rfl (rm rfl (rm rfl (ro rfl (dG U_47 (Ht rfl) aA) ?_))))))))))))
  refine ro rfl (dV (Ht rfl) (Ht rfl) z6) (rm rfl (ro rfl (fM rfl U_254 U_189 (Ht rfl)) (ro rfl (fY U_47 Z_189 (Ht rfl) (Ht rfl) rfl zo (by rw [Nat.mul_one,Nat.zero_add])) ?_)))
  refine kK Z_189 (Ht rfl) (Ht rfl) (i:=1) rfl (by first | omega | (simp; omega)) rfl (eX (ts (rm rfl (ro rfl (eP (Ht rfl) (cJ 63) (by decide)) (ro rfl (eO (Ht rfl) (cJ 0)) (ra rfl (eX ?_)))))))
  exact jM (_,_) hfin [0,1] ⟨⟨_,rfl,fun _ _ _ h=>h⟩,⟨_,rfl,(aB (fF _ _ _))⟩,trivial⟩ (by decide) (vM rfl (eU rfl))
theorem Nc {m n:Nat} (hm:(dg m).length ≤ 17592186044415) (hn1:(dg n).length ≤ 17592186044416) (hn:n ≠ 0):bB Tryz.prog 220 [aE m,aE n] (fH [aE (m / n),aE (m % n)]):=by
 refine bB.intro Tryz.func220 rfl Tryz.ntmps220 rfl (fun cx=>(ts (ro rfl (cQ cV) (ro rfl (cQ cV) (eX (cK (ts (rm rfl (rm rfl (ro rfl (cZ Tryz.call216 (Tn zo zo) ⟨(Ht rfl),(Ht rfl),trivial⟩) (ro rfl (rM (Ht rfl) cV) (eX (dQ (Ht rfl) (fun hb=>?_) (fun hb=>?_))))))))))))))
 ·simp only [decide_eq_true_eq] at hb
  have hlt : m < n := by
   unfold pV at hb
   split at hb
   ·assumption
   ·split at hb <;> simp at hb
  refine ts (rm rfl (ro rfl (cQ cV) (ra rfl (eX (bM rfl (fX (eU rfl) ?_) (fX (eU rfl) ?_))))))
  ·exact (fun v V h=>dF (Nat.div_eq_of_lt hlt).symm v V (jY v V h))
  ·exact (dF (Nat.mod_eq_of_lt hlt).symm)
 ·simp only [decide_eq_false_iff_not] at hb
  have hle : n ≤ m := by
   unfold pV at hb
   split at hb
   ·simp at hb
   ·omega
  clear hb
  refine cU (cK (ts (rm rfl (ro rfl (dG U_47 (Ht rfl) aA) (ro rfl (cR (Ht rfl) (cJ 1)) (eX (dQ (Ht rfl) (fun h1=>?_) (fun h1=>?_))))))))
  ·simp at h1
   have hy0:=Uu h1
   have hyb:=aP (bH n) 0
   have hmod:=Nat.mod_lt m (show (dg n).getD 0 0 > 0 by omega)
   simp only [BB] at hyb
   refine ts (rm rfl (rm rfl (ro rfl (dZ U_47 Z_189 (Ht rfl) (cJ 0) rfl (dY (aF zo))) (ro rfl (dJ A_189 Z_189 (Ht rfl)) (ro rfl (cZ Tryz.call257 (Nj zo zo hyb) ⟨(Ht rfl),(Ht rfl),trivial⟩) (rm rfl (ro rfl (dK (Ht rfl) rfl) (ro rfl (dK (Ht rfl) rfl) (ra rfl (ra rfl (eX (ts (rm rfl (rm rfl (ro rfl (gZ U_189 U_254 (Ht rfl) z7) (ro rfl (cZ Tryz.call241 (Fg zo) ⟨(Ht rfl),trivial⟩) ?_))))))))))))))))
   refine ra rfl (ra rfl (eX (bM rfl (fX (eU rfl) ?_) (fX (eU rfl) ?_))))
   ·exact (dF (by rw [hy0]))
   ·exact (dF (by rw [hy0]))
  ·simp at h1
   have hl0:(dg n).length ≠ 0:=fun e=>hn (aM.1 e)
   have hyb:=aP (bH n) ((dg n).length - 1)
   obtain ⟨s,hs⟩:∃ s,s = 32 - bl ((dg n).getD ((dg n).length - 1) 0):=⟨_,rfl⟩
   obtain ⟨hs1,hvl,hvb⟩:=Hu hn hs
   obtain ⟨hc1,hc2,hc3,hc4⟩:=Hl (m:=m) hs1
   simp only [BB] at hyb
   have hp2:0 < 2 ^ s:=Nat.pow_pos (by decide)
   have hX0:(dg (m * 2 ^ s)).length ≠ 0:=fun e=>(Nat.ne_of_gt (Nat.mul_pos (show 0 < m by omega) hp2)) (aM.1 e)
   have hmono:=gO hle
   refine cU (ts (rm rfl (ro rfl (dG U_47 (Ht rfl) aA) (rm rfl (rm rfl (ro rfl (dG U_47 (Ht rfl) aA) (ro rfl (dW (Ht rfl) (cJ 1) zo z6) (ro rfl (dZ U_47 Z_189 (Ht rfl) (Ht rfl) rfl (dY (aF zo))) (ro rfl (dJ A_189 Z_189 (Ht rfl)) (ro rfl (aL.nat (cZ Tryz.call258 (a24 zo) ⟨(Ht rfl),trivial⟩) hs.symm) (ra rfl (ra rfl (eX (ts (rm rfl (rm rfl (ro rfl (cZ Tryz.call259 (a1p zo zo) ⟨(Ht rfl),(Ht rfl),trivial⟩) ?_)))))))))))))))))
   refine ra rfl (eX (ts (rm rfl (ro rfl (dG U_47 (Ht rfl) aA) (ro rfl (dV (Ht rfl) (cJ 1) z6) (rn rfl (eE (T:=cB 0) (i:=Tryz.t189) V_47 iE rfl rfl (Ht rfl) rfl (fun _=>rfl) trivial (by show 4 * _ ≤ _; omega) zo) fun B55=>(ra rfl (eX (ts (rm rfl (rm rfl (rm rfl (ro rfl (cZ Tryz.call259 (a1p zo zo) ⟨(Ht rfl),(Ht rfl),trivial⟩) (Mp U_47 Z_189 (Ht rfl) (Ht rfl) (Vz hX0) a1z (i:=0) rfl (by simp) (by simp; omega) (Hm _ _) rfl rfl ?_))))))))))))))
   refine eX (ts (rm rfl (ro rfl (hJ U_47 (Ht rfl)) (rm rfl (ro rfl (dW (Ht rfl) (Ht rfl) zo z6) (rn rfl (eE (T:=cB 0) (i:=Tryz.t189) V_47 iE rfl rfl (Ht rfl) rfl (fun _=>rfl) trivial (by show 4 * _ ≤ _; omega) zo) fun B65=>(ra rfl (eX (cK (ts (rm rfl (ro rfl (hJ U_47 (Ht rfl)) (ro rfl (iL (Ht rfl) cV (Ch zo)) (ra rfl (eX (eG ?_))))))))))))))))
   obtain ⟨vs,hvs⟩:∃ vs,vs = dg (n * 2 ^ s):=⟨_,rfl⟩
   rw [← hvs] at hvl hvb
   have hv:kG vs:=hvs ▸ bH _
   have hvv:val vs = n * 2 ^ s:=by rw [hvs,cO]
   have hV0:0 < val vs:=by rw [hvv]; exact Nat.mul_pos zo hp2
   have hnr:=Ol hv zo hvb
   have hv1:=hnr.v1lt; have hv2:=hnr.v2lt; have hbig:=hnr.big
   simp only [BB] at hv1 hv2 hbig
   refine iS (fun (k : Nat) (us : List Nat) (qs : List Nat) => nN (m * 2 ^ s) vs us qs k ∧ us.length = (dg m).length + 1) (fun (k : Nat) (us : List Nat) (qs : List Nat) => k) (fun (k : Nat) (us : List Nat) (qs : List Nat) => [(8, NT .i64 vs.length), (9, NT .i64 s), (10, uY vs), (11, Is (.slice (some ⟨B55, 0, none⟩) ((dg m).length + 1) ((dg m).length + 1))), (12, Is (.slice (some ⟨B65, 0, none⟩) ((dg m).length + 1 - (dg n).length) ((dg m).length + 1 - (dg n).length))), (13, bD .i64 ((k : Int) - 1))]) (fun (k : Nat) (us : List Nat) (qs : List Nat) => [box B55 189 (us.map cB), box B65 189 (qs.map cB)]) ((dg m).length + 1 - (dg n).length) (At m s) (List.replicate ((dg m).length + 1 - (dg n).length) 0) ⟨nN.start hv zo hvb hs1 (by have := iW (bH m); rwa [cO] at this) hc3 hc2 hc4 zo, hc2⟩
    (aZ rfl (kI hvl.symm) (aQ rfl (aZ rfl (fun v V h=>by rw [hvs]; exact h) (aQ rfl (aQ rfl (aZ rfl (aR zo) aX)))))) (aU (fun _ _ _ h=>h) (aU (aB (kJ _)) aY)) (fun k us qs ⟨hS,hus⟩=>?_)
   refine cK (ts (rm rfl (ro rfl (lT (Ht rfl) cV) (eX (dQ (Ht rfl) (fun hk=>?_) (fun hk=>?_))))))
   ·simp at hk
    obtain ⟨j,rfl⟩:∃ j,k = j + 1:=⟨k - 1,by omega⟩
    have htp:=hS.top hv zo (Nat.succ_pos j) rfl
    have hkq:=hS.kle; have hlq:=hS.lenq
    rw [Nat.add_sub_cancel] at htp
    have hu0:=aP hS.dig (j + vs.length); have hu1:=aP hS.dig (j + vs.length - 1); have hu2:=aP hS.dig (j + vs.length - 2)
    have ht64:=Xz hu0 hu1; have hsh:=Jv hu0
    obtain ⟨top,htop⟩:∃ top,top = us.getD (j + vs.length) 0 * BB + us.getD (j + vs.length - 1) 0:=⟨_,rfl⟩
    have hor:=(vG (a:=us.getD (j + vs.length) 0) hu1).trans htop.symm
    rw [← htop] at htp ht64
    have hu2b:=hu2
    simp only [BB] at hu0 hu1 hu2
    refine oJ (E':=[(8,_),(9,_),(10,_),(11,_),(12,_),(13,_),(69,_),(70,_)]) (aQ rfl (aQ rfl (aQ rfl (aQ rfl (aQ rfl (aZ rfl (aR (show ((j + 1:Nat):Int) - 1 = (j:Int) by omega)) (zS rfl))))))) (cU (cK (eG (cK (fZ (m:=16) (dp 11 rfl (cX (Ht rfl)) (dp 13 rfl (cX (Ht rfl)) (dp 8 rfl (cX (Ht rfl)) (cP 74 1 75 2 rfl (dV (Ht rfl) (Ht rfl) z6) (cP 73 0 76 3 rfl (fY U_47 Z_189 (Ht rfl) (Ht rfl) rfl zo (by rw [Nat.mul_one,Nat.zero_add])) ?_))))))))))
    refine dq 77 4 rfl (eY A_189 Z_189 (Ht rfl) (i:=0) rfl (dY (aF zo))) (dq 78 5 rfl (gZ U_189 U_254 (Ht rfl) z7) (dq 79 6 rfl (nD (Ht rfl) (cJ 32) (by decide) hsh) (dp 11 rfl (cX (Ht rfl)) (dp 13 rfl (cX (Ht rfl)) (dp 8 rfl (cX (Ht rfl)) (cP 82 9 83 10 rfl (dV (Ht rfl) (Ht rfl) z6) (dq 84 11 rfl (dW (Ht rfl) (cJ 1) zo z6) ?_)))))))
    refine cP 81 8 85 12 rfl (fY U_47 Z_189 (Ht rfl) (Ht rfl) rfl zo (by rw [Nat.mul_one,Nat.zero_add])) ?_
    refine dq 86 13 rfl (eY A_189 Z_189 (Ht rfl) (i:=0) rfl (dY (aF zo))) (dq 87 14 rfl (gZ U_189 U_254 (Ht rfl) z7) (fV aO rfl (by kernel_rfl) (zF (zF (zF (zF (aV (ro rfl (aL.nat (oY rfl (Ht rfl) (Ht rfl) z7 z7) hor) ?_))))))))
    refine ra rfl (eX (cK (fZ (m:=17) (dp 14 rfl (cX (Ht rfl)) (dp 10 rfl (cX (Ht rfl)) (dp 8 rfl (cX (Ht rfl)) (dq 92 2 rfl (dW (Ht rfl) (cJ 1) zo z6) (cP 91 1 93 3 rfl (dZ U_47 Z_189 (Ht rfl) (Ht rfl) rfl (dY (aF zo))) (dq 94 4 rfl (dJ A_189 Z_189 (Ht rfl)) (dq 95 5 rfl (gZ U_189 U_254 (Ht rfl) z7) ?_))))))))))
    refine cP 90 0 96 6 rfl (jC (Ht rfl) (Ht rfl) zo (by show _ < 18446744073709551616; exact ht64)) (dp 14 rfl (cX (Ht rfl)) (dp 10 rfl (cX (Ht rfl)) (dp 8 rfl (cX (Ht rfl)) (dq 100 10 rfl (dW (Ht rfl) (cJ 1) zo z6) (cP 99 9 101 11 rfl (dZ U_47 Z_189 (Ht rfl) (Ht rfl) rfl (dY (aF zo))) (dq 102 12 rfl (dJ A_189 Z_189 (Ht rfl)) (dq 103 13 rfl (gZ U_189 U_254 (Ht rfl) z7) ?_)))))))
    refine cP 98 8 104 14 rfl (nC (Ht rfl) (Ht rfl) zo) (dq 97 7 rfl (cQ (Ht rfl)) (fV aO rfl (by kernel_rfl) (zF (zF (zF (zF (aJ (aV (ra rfl (eX (cK (jL (fun (g:Nat)=>Kj (val (us.drop j)) (val vs) g) (fun (g:Nat)=>[(8,NT .i64 vs.length),(9,NT .i64 s),(10,uY vs),(11,Is (.slice (some ⟨B55,0,none⟩) ((dg m).length + 1) ((dg m).length + 1))),(12,Is (.slice (some ⟨B65,0,none⟩) ((dg m).length + 1 - (dg n).length) ((dg m).length + 1 - (dg n).length))),(13,NT .i64 j),(15,NT .u64 g)]) (fun (g:Nat)=>[box B55 189 (us.map cB),box B65 189 (qs.map cB)]) ?_ (fun g hg=>?_)))))))))))))
    ·refine eG ?_
     refine gB (fun (g : Nat) (r : Nat) => lR (val (us.drop j)) (val vs) (vs.getD (vs.length - 1) 0) top g r ∧ r < 4294967296) (fun (g : Nat) (r : Nat) => g) (fun (g : Nat) (r : Nat) => [(8, NT .i64 vs.length), (9, NT .i64 s), (10, uY vs), (11, Is (.slice (some ⟨B55, 0, none⟩) ((dg m).length + 1) ((dg m).length + 1))), (12, Is (.slice (some ⟨B65, 0, none⟩) ((dg m).length + 1 - (dg n).length) ((dg m).length + 1 - (dg n).length))), (13, NT .i64 j), (15, NT .u64 g), (16, NT .u64 r)]) (fun (g : Nat) (r : Nat) => [box B55 189 (us.map cB), box B65 189 (qs.map cB)]) (top / vs.getD (vs.length - 1) 0) (top % vs.getD (vs.length - 1) 0) ⟨lR.start hnr htp, Nat.lt_trans (Nat.mod_lt _ zo) hv1⟩
      (zS rfl) (cT.refl _) (fun g r ⟨hG,hr⟩=>?_)
     have hgl:=(hG.glt hnr htp).1
     have hrs:=Jv (a:=r) hr
     have horr:=vG (a:=r) hu2b
     simp only [BB] at hgl
     refine cK (cK (fZ (m:=22) (dp 15 rfl (cX (Ht rfl)) (dq 106 0 rfl (pS (Ht rfl) (cJ 4294967296)) (dq 107 1 rfl (cX (Ht rfl)) (C.D_step (Ei:=[(15,_),(108,_)]) rfl rfl (bV (bK rfl rfl) (bV (bG 2 rfl rfl) bW)) (eK rfl rfl (Ht rfl) (fun h=>cX (Ht rfl))) (C.D_step (Ei:=[(10,_),(108,_)]) rfl rfl (bV (bK rfl rfl) (bV (bG 2 rfl rfl) bW)) (eK rfl rfl (Ht rfl) (fun h=>cX (Ht rfl))) (C.D_step (Ei:=[(8,_),(108,_)]) rfl rfl (bV (bK rfl rfl) (bV (bG 2 rfl rfl) bW)) (eK rfl rfl (Ht rfl) (fun h=>cX (Ht rfl))) ?_))))))))
     refine C.D_step (Ei:=[(111,_),(108,_)]) rfl rfl (bV (bG 5 rfl rfl) (bV (bG 2 rfl rfl) bW)) (eK rfl rfl (Ht rfl) (fun h=>dW (fJ rfl h) (cJ 2) (by first | omega | (simp at h; omega)) (by show _ < 9223372036854775808; first | omega | (simp at h; omega)))) (C.D_step (Ei:=[(110,_),(112,_),(108,_)]) rfl rfl (bV (bG 4 rfl rfl) (bV (bG 6 rfl rfl) (bV (bG 2 rfl rfl) bW))) (eK rfl rfl (Ht rfl) (fun h=>dZ U_47 Z_189 (fJ rfl h) (fJ rfl h) rfl (dY (aF (by first | omega | (simp at h; omega)))))) ?_)
     refine C.D_step (Ei:=[(113,_),(108,_)]) rfl rfl (bV (bG 7 rfl rfl) (bV (bG 2 rfl rfl) bW)) (eK rfl rfl (Ht rfl) (fun h=>dJ A_189 Z_189 (fJ rfl h))) (C.D_step (Ei:=[(114,_),(108,_)]) rfl rfl (bV (bG 8 rfl rfl) (bV (bG 2 rfl rfl) bW)) (eK rfl rfl (Ht rfl) (fun h=>gZ U_189 U_254 (fJ rfl h) (by show _ < 18446744073709551616; first | omega | (simp at h; omega)))) (C.D_step (Ei:=[(109,_),(115,_),(108,_)]) rfl rfl (bV (bG 3 rfl rfl) (bV (bG 9 rfl rfl) (bV (bG 2 rfl rfl) bW))) (eK rfl rfl (Ht rfl) (fun h=>kZ (fJ rfl h) (fJ rfl h) (by show _ < 18446744073709551616; simp at h; exact a1w h hv2))) ?_))
     refine C.D_step (Ei:=[(16,_),(108,_)]) rfl rfl (bV (bK rfl rfl) (bV (bG 2 rfl rfl) bW)) (eK rfl rfl (Ht rfl) (fun h=>cX (Ht rfl))) (C.D_step (Ei:=[(117,_),(108,_)]) rfl rfl (bV (bG 11 rfl rfl) (bV (bG 2 rfl rfl) bW)) (eK rfl rfl (Ht rfl) (fun h=>nD (fJ rfl h) (cJ 32) (by decide) hrs)) (C.D_step (Ei:=[(11,_),(108,_)]) rfl rfl (bV (bK rfl rfl) (bV (bG 2 rfl rfl) bW)) (eK rfl rfl (Ht rfl) (fun h=>cX (Ht rfl))) (C.D_step (Ei:=[(13,_),(108,_)]) rfl rfl (bV (bK rfl rfl) (bV (bG 2 rfl rfl) bW)) (eK rfl rfl (Ht rfl) (fun h=>cX (Ht rfl))) ?_)))
     refine C.D_step (Ei:=[(8,_),(108,_)]) rfl rfl (bV (bK rfl rfl) (bV (bG 2 rfl rfl) bW)) (eK rfl rfl (Ht rfl) (fun h=>cX (Ht rfl))) (C.D_step (Ei:=[(120,_),(121,_),(108,_)]) rfl rfl (bV (bG 14 rfl rfl) (bV (bG 15 rfl rfl) (bV (bG 2 rfl rfl) bW))) (eK rfl rfl (Ht rfl) (fun h=>dV (fJ rfl h) (fJ rfl h) (by show _ < 9223372036854775808; first | omega | (simp at h; omega)))) (C.D_step (Ei:=[(122,_),(108,_)]) rfl rfl (bV (bG 16 rfl rfl) (bV (bG 2 rfl rfl) bW)) (eK rfl rfl (Ht rfl) (fun h=>dW (fJ rfl h) (cJ 2) (by first | omega | (simp at h; omega)) (by show _ < 9223372036854775808; first | omega | (simp at h; omega)))) ?_))
     refine C.D_step (Ei:=[(119,_),(123,_),(108,_)]) rfl rfl (bV (bG 13 rfl rfl) (bV (bG 17 rfl rfl) (bV (bG 2 rfl rfl) bW))) (eK rfl rfl (Ht rfl) (fun h=>fY U_47 Z_189 (fJ rfl h) (fJ rfl h) rfl (by first | omega | (simp at h; omega)) (by rw [Nat.mul_one,Nat.zero_add]))) ?_
     refine C.D_step (Ei:=[(124,_),(108,_)]) rfl rfl (bV (bG 18 rfl rfl) (bV (bG 2 rfl rfl) bW)) (eK rfl rfl (Ht rfl) (fun h=>eY A_189 Z_189 (fJ rfl h) (i:=0) rfl (dY (aF zo)))) (C.D_step (Ei:=[(125,_),(108,_)]) rfl rfl (bV (bG 19 rfl rfl) (bV (bG 2 rfl rfl) bW)) (eK rfl rfl (Ht rfl) (fun h=>gZ U_189 U_254 (fJ rfl h) (by show _ < 18446744073709551616; first | omega | (simp at h; omega)))) (C.D_step (Ei:=[(118,_),(126,_),(108,_)]) rfl rfl (bV (bG 12 rfl rfl) (bV (bG 20 rfl rfl) (bV (bG 2 rfl rfl) bW))) (eK rfl rfl (Ht rfl) (fun h=>aL.nat (oY rfl (fJ rfl h) (fJ rfl h) (by show _ < 18446744073709551616; first | omega | (simp at h; omega)) (by show _ < 18446744073709551616; first | omega | (simp at h; omega))) horr)) ?_))
     refine fV aO rfl (by kernel_rfl) (zF (zF (zF (zF (zF (aJ (aJ (aV (fQ rfl rfl (eK rfl rfl (Ht rfl) (fun h=>eC (fJ rfl h) (fJ rfl h))) (ro rfl (gT (Ht rfl) (fun h=>(fJ rfl h))) (eX (dQ (Ht rfl) (fun hc=>?_) (fun hc=>?_)))))))))))))
     ·have hn2 := hG.next hnr htp (by simpa [BB] using hc)
      have hg1:=hn2.2
      refine cU (eG (ts (rm rfl (ro rfl (dW (Ht rfl) (cJ 1) zo z7) (ra rfl (eX (ts (rm rfl (rm rfl (rm rfl (ro rfl (dW (Ht rfl) (cJ 1) zo z6) (ro rfl (dZ U_47 Z_189 (Ht rfl) (Ht rfl) rfl (dY (aF zo))) (ro rfl (dJ A_189 Z_189 (Ht rfl)) (ro rfl (gZ U_189 U_254 (Ht rfl) z7) ?_))))))))))))))
      refine ro rfl (dV (Ht rfl) (Ht rfl) z7) (ra rfl (eX (ts (rm rfl (ro rfl (pS (Ht rfl) (cJ 4294967296)) (eX (dQ (Ht rfl) (fun hr2=>?_) (fun hr2=>?_))))))))
      ·simp at hr2
       refine gV rfl (bC (g - 1) (hn2.1.stop hnr htp hr2) (zS rfl) (cT.refl _))
      ·simp at hr2
       refine cU (bA (fU (g - 1,_) ⟨hn2.1,hr2⟩ (by dsimp only; omega) (zS rfl) (cT.refl _)))
     ·simp at hc
      refine gV rfl (bC g (hG.done hnr htp hc.1 hc.2) (zS rfl) (cT.refl _))
    ·have hglt := hg.lt
     simp only [BB] at hglt
     refine cK (pF (fun (us2:List Nat) (g2:Nat)=>nN (m * 2 ^ s) vs us2 (qs.set j g2) j ∧ g2 < 4294967296 ∧ us2.length = (dg m).length + 1) (fun (us2:List Nat) (g2:Nat)=>[(8,NT .i64 vs.length),(9,NT .i64 s),(10,uY vs),(11,Is (.slice (some ⟨B55,0,none⟩) ((dg m).length + 1) ((dg m).length + 1))),(12,Is (.slice (some ⟨B65,0,none⟩) ((dg m).length + 1 - (dg n).length) ((dg m).length + 1 - (dg n).length))),(13,NT .i64 j),(15,NT .u64 g2)]) (fun (us2:List Nat) (g2:Nat)=>[box B55 189 (us2.map cB),box B65 189 (qs.map cB)]) ?_ (fun us2 g2 ⟨hD,hg2,hus2⟩=>?_))
     ·refine ts (rm rfl (rm rfl (rm rfl (rm rfl (Er Tryz.call260 (a2b hus hS.dig hv hg.lt zo zo) (i := 0) rfl ⟨(Ht rfl), (Ht rfl), (Ht rfl), (Ht rfl), trivial⟩ rfl (fun ⟨out, b⟩ hT => ?_))))))
      dsimp only at hT
      refine eX (dQ (Ht rfl) (fun hbb=>?_) (fun hbb=>?_))
      ·have hbb : b = true := hbb
       subst hbb
       have hg0:=hS.gpos hv rfl zo hT
       have hol:=hT.len
       refine ts (rm rfl (ro rfl (dW (Ht rfl) (cJ 1) zo z7) (ra rfl (eX (ts (ro rfl (cQ (cJ 0)) (eX (cK (ts (rm rfl (ro rfl (dG U_47 (Ht rfl) aA) (ro rfl (cX (cJ 0)) (eX (eG ?_))))))))))))))
       refine iS (fun (i : Nat) (out2 : List Nat) (c : Nat) => rV out vs j out2 i c) (fun (i : Nat) (out2 : List Nat) (c : Nat) => vs.length - i) (fun (i : Nat) (out2 : List Nat) (c : Nat) => [(8, NT .i64 vs.length), (9, NT .i64 s), (10, uY vs), (11, Is (.slice (some ⟨B55, 0, none⟩) ((dg m).length + 1) ((dg m).length + 1))), (12, Is (.slice (some ⟨B65, 0, none⟩) ((dg m).length + 1 - (dg n).length) ((dg m).length + 1 - (dg n).length))), (13, NT .i64 j), (15, NT .u64 (g - 1 : Nat)), (17, NT .u64 c), (149, uY vs), (150, NT .i64 vs.length), (151, NT .i64 i)]) (fun (i : Nat) (out2 : List Nat) (c : Nat) => [box B55 189 (out2.map cB), box B65 189 (qs.map cB)]) 0 out 0 (rV.start hT.dig vs j)
        (zS rfl) (cT.refl _) (fun i out2 c hB=>?_)
       refine ts (ro rfl (gX (Ht rfl) (Ht rfl)) (eX (cK (dQ (Ht rfl) (fun hi=>?_) (fun hi=>?_)))))
       ·simp at hi
        have hlen:=hB.len; have hcl:=hB.cle; have hvi:=aP hv i; have hok:=aP hB.dig (i + j)
        simp only [BB] at hvi hok
        refine cU (cK (eG (ts (rm rfl (ro rfl (dZ U_47 Z_189 (Ht rfl) (Ht rfl) rfl (dY (aF zo))) (ro rfl (dJ A_189 Z_189 (Ht rfl)) (ra rfl (ra rfl (eX (ts (rm rfl (rm rfl (rm rfl (rm rfl (ro rfl (dV (Ht rfl) (Ht rfl) z6) (ro rfl (fY U_47 Z_189 (Ht rfl) (Ht rfl) rfl zo (by rw [Nat.mul_one,Nat.zero_add])) ?_))))))))))))))))
        refine ro rfl (eY A_189 Z_189 (Ht rfl) (i:=0) rfl (dY (aF zo))) (ro rfl (gZ U_189 U_254 (Ht rfl) z7) (rm rfl (ro rfl (gZ U_189 U_254 (Ht rfl) z7) (ro rfl (dV (Ht rfl) (Ht rfl) z7) (ro rfl (dV (Ht rfl) (Ht rfl) z7) ?_)))))
        refine ra rfl (eX (ts (rm rfl (rm rfl (rm rfl (ro rfl (dV (Ht rfl) (Ht rfl) z6) (rm rfl (ro rfl (fM rfl U_254 U_189 (Ht rfl)) (ro rfl (fY U_47 Z_189 (Ht rfl) (Ht rfl) rfl zo (by rw [Nat.mul_one,Nat.zero_add])) ?_)))))))))
        refine kK Z_189 (Ht rfl) (Ht rfl) (i:=0) rfl (by first | omega | (simp; omega)) rfl (eX (cY (rm rfl (ro rfl (eP (Ht rfl) (cJ 32) (by decide)) (ra rfl (eX (bA (cY (ro rfl (dV (Ht rfl) (cJ 1) z6) (rm rfl (eX (fU (i + 1,_,_) (hB.next hv hi zo rfl) (by dsimp only; omega) (zS rfl) (aU (aB (fF _ _ _)) (aU (fun _ _ _ h=>h) aY))))))))))))))
       ·simp at hi
        have hil:i = vs.length:=Nat.le_antisymm hB.ile hi
        subst hil
        have hlen:=hB.len; have hcl:=hB.cle; have hok:=aP hB.dig (j + vs.length)
        have hBk:=hB.fin zo rfl
        obtain ⟨_,hDn⟩:=hS.wrong hv hV0 (Nat.succ_pos j) rfl hg hT hBk
        simp only [BB] at hok
        refine gV rfl (cY (rm rfl (rm rfl (rm rfl (ro rfl (dV (Ht rfl) (Ht rfl) z6) (ro rfl (fY U_47 Z_189 (Ht rfl) (Ht rfl) rfl zo (by rw [Nat.mul_one,Nat.zero_add])) ?_))))))
        refine ro rfl (eY A_189 Z_189 (Ht rfl) (i:=0) rfl (dY (aF zo))) (rm rfl (ro rfl (gZ U_254 U_189 (Ht rfl) (by show _ < 4294967296; first | omega | (simp only [lF]; omega))) (ro rfl (Oq rfl (Ht rfl) (Ht rfl)) (ro rfl (fY U_47 Z_189 (Ht rfl) (Ht rfl) rfl zo (by rw [Nat.mul_one,Nat.zero_add])) ?_))))
        refine kK Z_189 (Ht rfl) (Ht rfl) (i:=0) rfl (by first | omega | (simp; omega)) rfl (eX (bC (_,g - 1) ⟨hDn,by dsimp only; omega,by simp; omega⟩ (zS rfl) (aU (aB (fF _ _ _)) (aU (fun _ _ _ h=>h) aY))))
      ·have hbb : b = false := hbb
       subst hbb
       have hol:=hT.len
       refine cU (bC (out,g) ⟨hS.right hv hV0 (Nat.succ_pos j) rfl hg hT,hglt,by dsimp only; omega⟩ (zS rfl) (cT.refl _))
     ·refine cY (rm rfl (rm rfl (rm rfl (ro rfl (gZ U_254 U_189 (Ht rfl) (by show _ < 4294967296; first | omega | (simp only [lF]; omega))) (ro rfl (fY U_47 Z_189 (Ht rfl) (Ht rfl) rfl zo (by rw [Nat.mul_one, Nat.zero_add])) ?_)))))
      refine kK Z_189 (Ht rfl) (Ht rfl) (i:=1) rfl (by first | omega | (simp; omega)) rfl (eX (bA (cY (rm rfl (ro rfl (iL (Ht rfl) cV (Ch zo)) (ra rfl (eX (fU (j,us2,_) ⟨hD,hus2⟩ (by dsimp only; omega) (zS rfl) (aU (fun _ _ _ h=>h) (aU (aB (fF _ _ _)) aY))))))))))
   ·simp at hk
    have hk0:k = 0:=by omega
    subst hk0
    have hfin:=hS.fin hV0
    have hlq:=hS.lenq
    rw [hvv] at hfin
    have hdiv:val qs = m / n:=by rw [hfin.1]; exact Nat.mul_div_mul_right _ _ hp2
    have hsm:val us < BB ^ vs.length:=by have h1:=hS.small; rw [List.drop_zero] at h1; exact Nat.lt_trans h1 (iW hv)
    have hmod : val (us.take vs.length) / 2 ^ s = m % n := by
     rw [oA hsm zo,hfin.2,Nat.mul_mod_mul_right,Nat.mul_div_cancel _ hp2]
    have hru : (dg (val (us.take vs.length))).length ≤ 17592186044416 := by
     refine Nat.le_trans (jS (k:=vs.length) ?_) zo
     rw [oA hsm zo]; exact hsm
    refine gV rfl (gJ (i:=1) (tt:=12) rfl rfl (lE rfl zo (Nat.le_refl _)) (gJ (i:=0) (tt:=11) rfl rfl (lE rfl zo (Nat.le_refl _)) (cK (fZ (m:=7) (dp 12 rfl (cX (Ht rfl)) (dq 193 0 rfl (cZ K_221 (qZ _ hS.digq zo) ⟨(Ht rfl),trivial⟩) (dp 11 rfl (cX (Ht rfl)) (dp 8 rfl (cX (Ht rfl)) (cP 195 2 196 3 rfl (aL.imp (qO U_47 Z_189 (Ht rfl) (Ht rfl) (fun m e=>by cases e) zo (by simp; omega) rfl) (Np _ _)) ?_)))))))))
    refine dq 197 4 rfl (cZ K_221 (qZ _ (hS.dig.take' vs.length) (by simp; omega)) ⟨(Ht rfl),trivial⟩) ?_
    refine dp 9 rfl (cX (Ht rfl)) (fV aO rfl (by kernel_rfl) (zF (aJ (aJ (aJ (aV (ro rfl (cZ Tryz.call261 (a3v hru zo) ⟨(Ht rfl),(Ht rfl),trivial⟩) (ra rfl (ra rfl (eX (bM rfl (fX (eU rfl) ?_) (fX (eU rfl) ?_))))))))))))
    ·exact (dF hdiv)
    ·exact (dF hmod)
end
section
open Go Go.RowKit
theorem Vp:Tryz.prog.info? 5 = some Tryz.t5:=by kernel_rfl
theorem zV:Tryz.prog.underlying 293 = some (.slice 5):=by kernel_rfl
theorem a1A:Tryz.prog.underlying 5 = some (.int .u8):=by kernel_rfl
theorem a1B:Tryz.prog.underlying 9 = some (.string):=by kernel_rfl
end
section
open Go Go.RowKit
theorem a1m {m n:Nat} (hm:(dg m).length ≤ 17592186044415) (hn:(dg n).length ≤ 17592186044415):bB Tryz.prog 218 [aE m,aE n] (aE (Nat.gcd m n)):=by
 refine bB.intro Tryz.func218 rfl Tryz.ntmps218 rfl (fun cx=>(ts (ro rfl (cQ cV) (eX (cK (eG ?_))))))
 refine gB (fun (x : Nat) (y : Nat) => Nat.gcd x y = Nat.gcd m n ∧ (dg x).length ≤ 17592186044415 ∧ (dg y).length ≤ 17592186044415) (fun (x : Nat) (y : Nat) => y) (fun (x : Nat) (y : Nat) => [(0, aE x), (1, aE y)]) (fun (x : Nat) (y : Nat) => []) m n ⟨rfl, hm, hn⟩
  (zS rfl) aY (fun x y ⟨hg,hx,hy⟩=>?_)
 refine cK (ts (rm rfl (ro rfl (dG U_47 (Ht rfl) aA) (ro rfl (eC (Ht rfl) (cJ 0)) (eX (dQ (Ht rfl) (fun hb=>?_) (fun hb=>?_)))))))
 ·simp at hb
  have hy0:y ≠ 0:=fun e=>by rw [e,eI] at hb; simp at hb
  have hlt:=Nat.mod_lt x (Nat.pos_of_ne_zero hy0)
  refine cU (eG (ts (rm rfl (rm rfl (ro rfl (cZ Tryz.call220 (Nc hx zo hy0) ⟨(Ht rfl),(Ht rfl),trivial⟩) (rm rfl (ro rfl (dK (Ht rfl) rfl) (ro rfl (dK (Ht rfl) rfl) (ra rfl (ra rfl (eX (cY (rm rfl (rm rfl (ra rfl (ra rfl (eX (bA (fU (y,x % y) ⟨by rw [← hg,Nat.gcd_comm x y,Nat.gcd_rec y x,Nat.gcd_comm],hy,Nat.le_trans (gO (Nat.le_of_lt hlt)) hy⟩ hlt (zS rfl) aY)))))))))))))))))))
 ·simp at hb
  have hy0:y = 0:=aM.1 (by simpa using hb)
  subst hy0
  rw [Nat.gcd_zero_right] at hg
  refine gV rfl (ts (rm rfl (ra rfl (eX (fW rfl (fX (eU rfl) ?_))))))
  exact (dF hg)
theorem a3u {l:List Nat} {v:Value} (hl:l.length ≤ 1152921504606846976):gF Tryz.prog 276 [Is v] [cD 5 1 v (l.map yE)] Unit (fun _=>pD) (fun _=>[cD 5 1 v (l.reverse.map yE)]) (fun _=>True):=by
 refine gF.intro Tryz.func276 rfl Tryz.ntmps276 rfl (fun cx Z=>(ts (rm rfl (ro rfl (rL U_293 (Ht rfl) (i:=1) rfl aA) (ro rfl (iL (Ht rfl) cV (Ch zo)) (ro rfl (cQ (cJ 0)) (ra rfl (eX (eG ?_)))))))))
 refine gB (fun (k : Nat) (o : List Nat) => Ac l o k) (fun (k : Nat) (o : List Nat) => l.length - k) (fun (k : Nat) (o : List Nat) => [(0, Is v), (2, NT .i64 k), (3, bD .i64 ((l.length : Int) - 1 - (k : Int)))]) (fun (k : Nat) (o : List Nat) => [Z, cD 5 1 v (o.map yE)]) 0 l (Ac.start l)
  (aQ rfl (aQ rfl (aZ rfl (aR zo) aX))) (cT.refl _) (fun k o hS=>?_)
 refine cK (ts (rm rfl (rm rfl (ro rfl (rM (Ht rfl) (Ht rfl)) (eX (dQ (Ht rfl) (fun hb=>?_) (fun hb=>?_)))))))
 ·simp only [decide_eq_true_eq] at hb
  have hk:2 * k + 1 < l.length:=by omega
  obtain ⟨j,hj⟩:∃ j,j = l.length - 1 - k:=⟨_,rfl⟩
  have hlen:=hS.len
  refine oJ (E':=[(0,_),(2,_),(3,_),(7,_),(8,_),(9,_)]) (aQ rfl (aQ rfl (aZ rfl (aR (show (l.length:Int) - 1 - (k:Int) = (j:Int) by omega)) (zS rfl)))) (cU (cK (eG (W.D_start (m:=14) (fun b=>cond b ([Z,cD 5 1 v ((o.map yE).set k (yE (o.getD j 0)))]) _) 13 (W.D_step (Ei:=[(0,_)]) rfl rfl (W.Srcs.cons (W.Src.pre rfl rfl) W.Srcs.nil) rfl (by kernel_rfl) (dX rfl (cX (Ht rfl))) (W.D_step (Ei:=[(2,_)]) rfl rfl (W.Srcs.cons (W.Src.pre rfl rfl) W.Srcs.nil) rfl (by kernel_rfl) (dX rfl (cX (Ht rfl))) ?_))))))
  refine W.D_pure (Ei:=[(0,_)]) rfl rfl (W.Srcs.cons (W.Src.pre rfl rfl) W.Srcs.nil) rfl (fun _=>dX rfl (cX (Ht rfl))) (W.D_pure (Ei:=[(3,_)]) rfl rfl (W.Srcs.cons (W.Src.pre rfl rfl) W.Srcs.nil) rfl (fun _=>dX rfl (cX (Ht rfl))) (W.D_step (Ei:=[(0,_)]) rfl rfl (W.Srcs.cons (W.Src.pre rfl rfl) W.Srcs.nil) rfl (by kernel_rfl) (dX rfl (cX (Ht rfl))) (W.D_step (Ei:=[(3,_)]) rfl rfl (W.Srcs.cons (W.Src.pre rfl rfl) W.Srcs.nil) rfl (by kernel_rfl) (dX rfl (cX (Ht rfl))) (W.D_step (Ei:=[(18,_),(19,_)]) rfl rfl (W.Srcs.cons (W.Src.op 4 rfl rfl) (W.Srcs.cons (W.Src.op 5 rfl rfl) W.Srcs.nil)) rfl (by kernel_rfl) (dX rfl (dB U_293 Z_5 (Ht rfl) (Ht rfl) rfl (i:=1) rfl (by first | omega | (simp; omega)) rfl)) ?_))))
  refine W.D_step (Ei:=[(20,_)]) rfl rfl (W.Srcs.cons (W.Src.op 6 rfl rfl) W.Srcs.nil) rfl (by kernel_rfl) (dX rfl (oX Tryz.isAgg5 Z_5 (Ht rfl) (i:=1) rfl rfl (dY (aF zo)))) (W.D_step (Ei:=[(0,_)]) rfl rfl (W.Srcs.cons (W.Src.pre rfl rfl) W.Srcs.nil) rfl (by kernel_rfl) (dX rfl (cX (Ht rfl))) (W.D_step (Ei:=[(2,_)]) rfl rfl (W.Srcs.cons (W.Src.pre rfl rfl) W.Srcs.nil) rfl (by kernel_rfl) (dX rfl (cX (Ht rfl))) (W.D_step (Ei:=[(22,_),(23,_)]) rfl rfl (W.Srcs.cons (W.Src.op 8 rfl rfl) (W.Srcs.cons (W.Src.op 9 rfl rfl) W.Srcs.nil)) rfl (by kernel_rfl) (dX rfl (dB U_293 Z_5 (Ht rfl) (Ht rfl) rfl (i:=1) rfl (by first | omega | (simp; omega)) rfl)) ?_)))
  refine W.D_step (Ei:=[(24,_)]) rfl rfl (W.Srcs.cons (W.Src.op 10 rfl rfl) W.Srcs.nil) rfl (by kernel_rfl) (dX rfl (oX Tryz.isAgg5 Z_5 (Ht rfl) (i:=1) rfl rfl (dY (aF zo)))) (W.D_step (Ei:=[(14,_),(15,_)]) rfl rfl (W.Srcs.cons (W.Src.op 0 rfl rfl) (W.Srcs.cons (W.Src.op 1 rfl rfl) W.Srcs.nil)) rfl (by kernel_rfl) (dX rfl (dB U_293 Z_5 (Ht rfl) (Ht rfl) rfl (i:=1) rfl (by first | omega | (simp; omega)) rfl)) (W.D_put (Ei:=[(26,_),(21,_)]) rfl rfl (W.Srcs.cons (W.Src.op 12 rfl rfl) (W.Srcs.cons (W.Src.op 7 rfl rfl) W.Srcs.nil)) rfl (Cy Z_5 (Ht rfl) (Ht rfl) El.one (i:=1) rfl rfl (by first | omega | (simp; omega))) ?_))
  refine W.D_done aO rfl (by kernel_rfl) rfl (W.F_val (W.F_val (W.F_val (W.F_val (W.F_val (W.F_val (W.F_val (W.F_val (W.F_val (W.F_val (W.F_val (W.F_val (W.F_val (W.F_put (W.F_nil (ro rfl (dB U_293 Z_5 (Ht rfl) (Ht rfl) rfl (i:=1) rfl (by first | omega | (simp; omega)) rfl) (kM Z_5 (Ht rfl) (Ht rfl) El.one (i:=1) rfl rfl (by first | omega | (simp; omega)) rfl (eX (bA (cY (rm rfl (ro rfl (dV (Ht rfl) (cJ 1) z6) (rm rfl (ro rfl (iL (Ht rfl) cV (Ch zo)) ?_))))))))))))))))))))))))
  refine ra rfl (ra rfl (eX (fU (k + 1,_) (hS.next hk hj) (by dsimp only; omega) (aQ rfl (aQ rfl (aZ rfl (aR zo) aX))) (aU (fun _ _ _ h=>h) (aU (cA (Pn _ _ _ _ _)) aY)))))
 ·simp only [decide_eq_false_iff_not] at hb
  have hfin:=hS.fin (by have:=hS.kle; omega)
  refine gV rfl ?_
  exact a1J () trivial [0,1] ⟨⟨_,rfl,fun _ _ _ h=>h⟩,⟨_,rfl,(cA (by rw [hfin]))⟩,trivial⟩ (by decide) (a45 rfl (fun _=>trivial))
theorem Gy {m:Nat} (hm:(dg m).length ≤ 8796093022208):bB Tryz.prog 249 [aE m] (pZ (uS m)):=by
 refine bB.intro Tryz.func249 rfl Tryz.ntmps249 rfl (fun cx=>(ts (ro rfl (cQ (bF.cS (l:=[]) rfl)) (eX (cK (ts (rm rfl (ro rfl (dG U_47 (Ht rfl) aA) (ro rfl (cR (Ht rfl) (cJ 0)) (eX (dQ (Ht rfl) (fun hb=>?_) (fun hb=>?_))))))))))))
 ·simp at hb
  have h0:m = 0:=aM.1 (by simpa using hb)
  subst h0
  refine ts (ro rfl (cQ (bF.cS (l:=[48]) rfl)) (eX (fW rfl (fX (eU rfl) ?_))))
  exact (jE rfl)
 ·simp at hb
  have h0:m ≠ 0:=fun e=>hb (by rw [e,eI])
  refine cU (ts (ro rfl (cQ cV) (eX (cK (eG (Db 5 1 ?_))))))
  refine iS (fun (x : Nat) (out : List Nat) (v : Value) => Aa m out x ∧ x ≤ m) (fun (x : Nat) (out : List Nat) (v : Value) => x) (fun (x : Nat) (out : List Nat) (v : Value) => [(0, aE x), (3, Is v)]) (fun (x : Nat) (out : List Nat) (v : Value) => [cD 5 1 v (out.map yE)]) m [] (.slice none 0 0) ⟨Aa.start m, Nat.le_refl m⟩
   (zS rfl) (cT.refl _) (fun x out v ⟨hO,hle⟩=>?_)
  refine cK (ts (rm rfl (ro rfl (dG U_47 (Ht rfl) aA) (ro rfl (eC (Ht rfl) (cJ 0)) (eX (dQ (Ht rfl) (fun hc=>?_) (fun hc=>?_)))))))
  ·simp at hc
   have hx0:x ≠ 0:=fun e=>by rw [e,eI] at hc; simp at hc
   have hxm:=gO hle
   refine cU (eG (ts (ro rfl (cQ (cJ 0)) (eX (ts (rm rfl (ro rfl (cZ Tryz.call257 (Nj zo (by decide) (by decide)) ⟨(Ht rfl),(cJ 1000000000),trivial⟩) (rm rfl (ro rfl (dK (Ht rfl) rfl) (ro rfl (dK (Ht rfl) rfl) (ra rfl (ra rfl (eX (ts (ro rfl (cQ (cJ 0)) (eX (eG ?_)))))))))))))))))
   refine vV (fun (r : Nat) (k : Nat) (out : List Nat) (v : Value) => yR m out (x / 1000000000) r k) (fun (r : Nat) (k : Nat) (out : List Nat) (v : Value) => 9 - k) (fun (r : Nat) (k : Nat) (out : List Nat) (v : Value) => [(0, aE (x / 1000000000)), (3, Is v), (4, cB r), (5, NT .i64 k)]) (fun (r : Nat) (k : Nat) (out : List Nat) (v : Value) => [cD 5 1 v (out.map yE)]) (x % 1000000000) 0 out v (hO.inner)
    (zS rfl) (cT.refl _) (fun r k out v hI=>?_)
   refine cK (ts (rm rfl (ro rfl (gX (Ht rfl) (cJ 9)) (rm rfl (fQ rfl rfl (kX rfl rfl (Ht rfl) (fun h=>cX (Ht rfl))) (fQ rfl rfl (kX rfl rfl (Ht rfl) (fun h=>dG U_47 (bF.wu rfl h) aA)) (fQ rfl rfl (kX rfl rfl (Ht rfl) (fun h=>eC (bF.wu rfl h) (cJ 0))) (fQ rfl rfl (kX rfl rfl (Ht rfl) (fun h=>cX (bF.wu rfl h))) (fQ rfl rfl (pE rfl rfl rfl (fun h h2=>cX (Ht rfl))) (fQ rfl rfl (pE rfl rfl rfl (fun h h2=>eC (bF.wu rfl ⟨h,h2⟩) (cJ 0))) (fQ rfl rfl (kX rfl rfl (Ht rfl) (fun h=>gT (bF.wu rfl h) (fun h2=>(bF.wu rfl ⟨h,h2⟩)))) ?_)))))))))))
   refine ro rfl (fE (Ht rfl) (fun h=>(bF.wu rfl h))) (eX (dQ (Ht rfl) (fun hd=>?_) (fun hd=>?_)))
   ·simp at hd
    have hxr:0 < x / 1000000000 ∨ 0 < r:=hd.2.imp (fun h=>Nat.pos_of_ne_zero (fun e=>by rw [e,eI] at h; simp at h)) id
    have hln:=hI.len hxr
    have hr32:=hI.r32
    refine cU (cK (eG (ts (rm rfl (rm rfl (ro rfl (nC (Ht rfl) (cJ 10) zo) (ro rfl (dV (cJ 48) (Ht rfl) (by show _ < 4294967296; first | omega | (simp only [lF]; omega))) (ro rfl (gZ U_189 U_5 (Ht rfl) (by show _ < 256; first | omega | (simp only [lF]; omega))) (ro rfl (dN (xs:=[.tmp 34]) U_293 Z_5 Tryz.zeroValue5 (cW (Ht rfl) cG) rfl rfl rfl) (rW (inf:=Tryz.t5) zV Vp rfl rfl rfl (Ht rfl) (Ht rfl) (i:=0) rfl (by simp) (fun T hT=>by simp at hT; subst hT; exact El.one) (by show _ * 1 ≤ _; simp only [List.length_map,List.length_cons,List.length_nil]; omega) (by simp only [List.length_map,List.length_cons,List.length_nil]; omega) rfl (fun v2=>?_)))))))))))
    refine ra rfl (eX (cY (rm rfl (ro rfl (jC (Ht rfl) (cJ 10) zo (by show _ < 4294967296; first | omega | (simp only [lF]; omega))) (ra rfl (eX (bA (cY (rm rfl (ro rfl (dV (Ht rfl) (cJ 1) z6) (ra rfl (eX (fU (r / 10,k + 1,_,v2) (hI.next hd.1 hxr) (by dsimp only; omega) (zS rfl) (aU (cA (Yb _ _)) aY))))))))))))))
   ·simp at hd
    have hO2 := hI.fin (fun ⟨h1, h2⟩ => by
     have h3:=hd h1
     rcases h2 with h2 | h2
     ·have:=qE.1 h3.1; omega
     ·omega)
    refine gV rfl (bA (fU (x / 1000000000,_,_) ⟨hO2,Nat.le_trans (Nat.div_le_self _ _) hle⟩ (Nat.div_lt_self (Nat.pos_of_ne_zero hx0) (by decide)) (zS rfl) (cT.refl _)))
  ·simp at hc
   have hx0:x = 0:=aM.1 (by simpa using hc)
   subst hx0
   have hfin:=hO.fin
   have hdl:=pJ m
   rw [hfin] at hdl
   refine gV rfl (ts (rm rfl (Er Tryz.call276 (a3u zo) (i:=0) rfl ⟨(Ht rfl),trivial⟩ rfl (fun _ _=>(eX (cK (gJ (i:=0) (tt:=3) rfl rfl kH (cY (rm rfl (ro rfl (Jb zV a1A a1B (Ht rfl) (by rw [← hfin]; simpa using Nn h0) (fun b hb=>Ur (n:=m) b (by rw [tY h0,hfin]; exact hb))) ?_))))))))))
   refine ra rfl (eX (fW rfl (fX (eU rfl) ?_)))
   exact (jE (by rw [tY h0,hfin]))
end
section
open Go Go.RowKit
theorem vA {n : Nat} {E : dC} {H : Hp} {d : Option Tmp} {t : TypeId} {pos : String} {af : Array Edge} {g : Option (Nat × Bool)} {x0 x1 : Operand} {T0 T1 : Ty} [s0 : dO T0 1 false] (h0 : bF E x0 T0) [s1 : dO T1 1 false] (h1 : bF E x1 T1) :
  aL Tryz.prog n E H ⟨d,.build 49 #[(0,x0),(1,x1)],t,pos,af,g⟩ (fB [T0,T1]) :=
 fT (parts := [(0, x0), (1, x1)]) fun a V w hs => by
  have p0:=h0 n V a hs
  generalize e0:a.eval x0 = v0 at p0
  have q0:=(s0.ok v0 V p0).2.2 rfl
  have p1:=h1 n V a hs
  generalize e1:a.eval x1 = v1 at p1
  have q1:=(s1.ok v1 V p1).2.2 rfl
  refine ⟨.agg #[v0,v1],?_,[v0,v1],rfl,aW (⟨p0,q0⟩) (aW (⟨p1,q1⟩) (aG))⟩
  simp [e0,e1,Instr.build,Instr.fill,Sem.run_bind,Result.andThen,eN,q0.cells,q1.cells,O_49,U_49,Z_4,Z_47]
theorem kY (a:Addr) (w:World):(Instr.fieldAt 49 (.pointer (some a)) 0).run Tryz.prog w = .ok (.pointer (some (a.add 0))) w:=by
 simp [Instr.fieldAt,Instr.sureAddr,fieldPlace,Sem.run_bind,Result.andThen,U_49,Z_4]
theorem fL (a:Addr) (w:World):(Instr.fieldAt 49 (.pointer (some a)) 1).run Tryz.prog w = .ok (.pointer (some (a.add 1))) w:=by
 simp [Instr.fieldAt,Instr.sureAddr,fieldPlace,Sem.run_bind,Result.andThen,U_49,Z_47]
end
section
open Go Go.RowKit
theorem Fh {n:Int} (h1:-9223372036854775808 ≤ n) (h2:n ≤ 9223372036854775807):bB Tryz.prog 177 [bD .i64 n] (eD n):=by
 refine bB.intro Tryz.func177 rfl Tryz.ntmps177 rfl (fun cx=>(ts (rn rfl (eW (Ts:=[Is (.bool false),Is (.slice none 0 0)]) O_49 rfl (fun V=>aW zd (aW zd (aG)))) fun B2=>(eX (cK (ts (rm rfl (ro rfl (rM (Ht rfl) cV) (eX (dQ (Ht rfl) (fun hb=>?_) (fun hb=>?_)))))))))))
 ·have hn : n < 0 := by simpa using hb
  refine ts (rm rfl (ro rfl (uJ U_2 U_254 (Ht rfl) (r:=((18446744073709551616 - n.natAbs:Nat):Int)) (by rw [IntKind.wrap_u64]; omega)) ?_))
  refine ro rfl (Wn (Ht rfl) (r:=((n.natAbs:Nat):Int)) (by rw [IntKind.wrap_u64]; omega)) ?_
  refine ro rfl (cZ Tryz.call241 (Fg zo) ⟨(Ht rfl),trivial⟩) (ro rfl (vA cV (Ht rfl)) (gQ Z_49 (Ht rfl) (Ht rfl) rfl (i:=0) rfl (aK rfl) rfl rfl (eX (fW rfl (fX (fK A_49 Z_49 rfl (i:=0) rfl rfl) ?_)))))
  exact (mP (by rw [hb]; rfl))
 ·have hn : ¬ n < 0 := by simpa using hb
  refine cU (ts (rm rfl (ro rfl (uJ U_2 U_254 (Ht rfl) (r:=((n.natAbs:Nat):Int)) (by rw [IntKind.wrap_u64]; omega)) ?_)))
  refine ro rfl (cZ Tryz.call241 (Fg zo) ⟨(Ht rfl),trivial⟩) (ro rfl (vA cV (Ht rfl)) (gQ Z_49 (Ht rfl) (Ht rfl) rfl (i:=0) rfl (aK rfl) rfl rfl (eX (fW rfl (fX (fK A_49 Z_49 rfl (i:=0) rfl rfl) ?_)))))
  exact (mP (by rw [hb]; rfl))
theorem oC {b:Bool} {m:Nat}:bB Tryz.prog 214 [aC b,aE m] (eD (yN b m)):=by
 refine bB.intro Tryz.func214 rfl Tryz.ntmps214 rfl (fun cx=>(ts (rn rfl (eW (Ts:=[Is (.bool false),Is (.slice none 0 0)]) O_49 rfl (fun V=>aW zd (aW zd (aG)))) fun B4=>(eX (ts (rm rfl (rm rfl (fQ rfl rfl (eK rfl rfl (Ht rfl) (fun h=>cX (Ht rfl))) (fQ rfl rfl (eK rfl rfl (Ht rfl) (fun h=>dG U_47 (fJ rfl h) aA)) (fQ rfl rfl (eK rfl rfl (Ht rfl) (fun h=>eC (fJ rfl h) (cJ 0))) (ro rfl (fE (Ht rfl) (fun h=>(fJ rfl h))) (rm rfl ?_))))))))))))
 refine ro rfl (vA (Ht rfl) (Ht rfl)) (gQ Z_49 (Ht rfl) (Ht rfl) rfl (i:=0) rfl (aK rfl) rfl rfl (eX (fW rfl (fX (fK A_49 Z_49 rfl (i:=0) rfl rfl) ?_))))
 exact Xm
theorem pH {x:Int}:bB Tryz.prog 135 [eD x] (eD (-x)):=by
 refine bB.intro Tryz.func135 rfl Tryz.ntmps135 rfl (fun cx=>(ts (rn rfl (fG (Ht rfl)) fun B1=>(rn rfl (eW (Ts:=[Is (.bool false),Is (.slice none 0 0)]) O_49 rfl (fun V=>aW zd (aW zd (aG)))) fun B2=>(eX (ts (ro rfl (eZ kY (Ht rfl) rfl) (ro rfl (eY A_4 Z_4 (Ht rfl) (i:=0) rfl rfl) (ro rfl (eT (Ht rfl)) (ro rfl (eZ fL (Ht rfl) rfl) (ro rfl (eY A_47 Z_47 (Ht rfl) (i:=0) rfl rfl) (ro rfl (cZ K_214 oC ⟨(Ht rfl),(Ht rfl),trivial⟩) ?_))))))))))))
 refine gQ Z_49 (Ht rfl) (Ht rfl) rfl (i:=1) rfl (aK rfl) rfl rfl (eX (fW rfl (fX (fK A_49 Z_49 rfl (i:=1) rfl rfl) ?_)))
 exact (kW (Ej x))
theorem xJ {x y:Int} (hx:(dg x.natAbs).length ≤ 17592186044416) (hy:(dg y.natAbs).length ≤ 17592186044416):bB Tryz.prog 133 [eD x,eD y] (eD (x + y)):=by
 refine bB.intro Tryz.func133 rfl Tryz.ntmps133 rfl (fun cx=>(ts (rn rfl (fG (Ht rfl)) fun B2=>(rn rfl (fG (Ht rfl)) fun B3=>(rn rfl (eW (Ts:=[Is (.bool false),Is (.slice none 0 0)]) O_49 rfl (fun V=>aW zd (aW zd (aG)))) fun B4=>(eX (cK (ts (ro rfl (eZ kY (Ht rfl) rfl) (ro rfl (eY A_4 Z_4 (Ht rfl) (i:=0) rfl rfl) (ro rfl (eZ kY (Ht rfl) rfl) (ro rfl (eY A_4 Z_4 (Ht rfl) (i:=1) rfl rfl) (ro rfl (Wi U_4 (Ht rfl) (Ht rfl)) ?_)))))))))))))
 refine eX (dQ (Ht rfl) (fun hb=>?_) (fun hb=>?_))
 ·have he : decide (x < 0) = decide (y < 0) := by simpa using hb
  refine cK (fZ (m:=7) (dp 2 rfl (eZ kY (Ht rfl) rfl) (dq 10 0 rfl (eY A_4 Z_4 (Ht rfl) (i:=0) rfl rfl) (dp 2 rfl (eZ fL (Ht rfl) rfl) (dq 12 2 rfl (eY A_47 Z_47 (Ht rfl) (i:=0) rfl rfl) (dp 3 rfl (eZ fL (Ht rfl) rfl) (dq 14 4 rfl (eY A_47 Z_47 (Ht rfl) (i:=1) rfl rfl) (cP 13 3 15 5 rfl (cZ Tryz.call215 (a3p zo zo) ⟨(Ht rfl),(Ht rfl),trivial⟩) (fV aO rfl (by kernel_rfl) (zF (aJ (aJ (aJ (aV ?_))))))))))))))
  refine ro rfl (cZ K_214 oC ⟨(Ht rfl),(Ht rfl),trivial⟩) (gQ Z_49 (Ht rfl) (Ht rfl) rfl (i:=2) rfl (aK rfl) rfl rfl (eX (fW rfl (fX (fK A_49 Z_49 rfl (i:=2) rfl rfl) ?_))))
  exact (kW (Ju he))
 ·have he : decide (x < 0) ≠ decide (y < 0) := by simpa using hb
  refine cU (cK (ts (ro rfl (eZ fL (Ht rfl) rfl) (ro rfl (eY A_47 Z_47 (Ht rfl) (i:=0) rfl rfl) (ro rfl (eZ fL (Ht rfl) rfl) (ro rfl (eY A_47 Z_47 (Ht rfl) (i:=1) rfl rfl) (ro rfl (cZ Tryz.call216 (Tn zo zo) ⟨(Ht rfl),(Ht rfl),trivial⟩) (ro rfl (lT (Ht rfl) cV) (eX (dQ (Ht rfl) (fun hc=>?_) (fun hc=>?_)))))))))))
  ·have hle : y.natAbs ≤ x.natAbs := Fm (by simpa using hc)
   refine cK (fZ (m:=7) (dp 2 rfl (eZ kY (Ht rfl) rfl) (dq 24 0 rfl (eY A_4 Z_4 (Ht rfl) (i:=0) rfl rfl) (dp 2 rfl (eZ fL (Ht rfl) rfl) (dq 26 2 rfl (eY A_47 Z_47 (Ht rfl) (i:=0) rfl rfl) (dp 3 rfl (eZ fL (Ht rfl) rfl) (dq 28 4 rfl (eY A_47 Z_47 (Ht rfl) (i:=1) rfl rfl) (cP 27 3 29 5 rfl (cZ Tryz.call217 (a1q zo zo) ⟨(Ht rfl),(Ht rfl),trivial⟩) (fV aO rfl (by kernel_rfl) (zF (aJ (aJ (aJ (aV ?_))))))))))))))
   refine ro rfl (cZ K_214 oC ⟨(Ht rfl),(Ht rfl),trivial⟩) (gQ Z_49 (Ht rfl) (Ht rfl) rfl (i:=2) rfl (aK rfl) rfl rfl (eX (fW rfl (fX (fK A_49 Z_49 rfl (i:=2) rfl rfl) ?_))))
   exact (kW (wV he hle))
  ·have hle : x.natAbs ≤ y.natAbs := Nat.le_of_lt (Fn (by simpa using hc))
   refine cU (cK (fZ (m:=7) (dp 3 rfl (eZ kY (Ht rfl) rfl) (dq 32 0 rfl (eY A_4 Z_4 (Ht rfl) (i:=1) rfl rfl) (dp 3 rfl (eZ fL (Ht rfl) rfl) (dq 34 2 rfl (eY A_47 Z_47 (Ht rfl) (i:=1) rfl rfl) (dp 2 rfl (eZ fL (Ht rfl) rfl) (dq 36 4 rfl (eY A_47 Z_47 (Ht rfl) (i:=0) rfl rfl) (cP 35 3 37 5 rfl (cZ Tryz.call217 (a1q zo zo) ⟨(Ht rfl),(Ht rfl),trivial⟩) (fV aO rfl (by kernel_rfl) (zF (aJ (aJ (aJ (aV ?_)))))))))))))))
   refine ro rfl (cZ K_214 oC ⟨(Ht rfl),(Ht rfl),trivial⟩) (gQ Z_49 (Ht rfl) (Ht rfl) rfl (i:=2) rfl (aK rfl) rfl rfl (eX (fW rfl (fX (fK A_49 Z_49 rfl (i:=2) rfl rfl) ?_))))
   exact (kW (by rw [wV (Ne.symm he) hle,Int.add_comm]))
theorem tW {x y:Int} (hx:(dg x.natAbs).length ≤ 17592186044416) (hy:(dg y.natAbs).length ≤ 17592186044416):bB Tryz.prog 132 [eD x,eD y] (eD (x * y)):=by
 refine bB.intro Tryz.func132 rfl Tryz.ntmps132 rfl (fun cx=>(ts (rn rfl (fG (Ht rfl)) fun B2=>(rn rfl (fG (Ht rfl)) fun B3=>(rn rfl (eW (Ts:=[Is (.bool false),Is (.slice none 0 0)]) O_49 rfl (fun V=>aW zd (aW zd (aG)))) fun B4=>(eX (cK (fZ (m:=10) (dp 2 rfl (eZ kY (Ht rfl) rfl) (dq 5 0 rfl (eY A_4 Z_4 (Ht rfl) (i:=0) rfl rfl) (dp 3 rfl (eZ kY (Ht rfl) rfl) (dq 7 2 rfl (eY A_4 Z_4 (Ht rfl) (i:=1) rfl rfl) (cP 6 1 8 3 rfl (Wj U_4 (Ht rfl) (Ht rfl)) ?_)))))))))))))
 refine dp 2 rfl (eZ fL (Ht rfl) rfl) (dq 10 5 rfl (eY A_47 Z_47 (Ht rfl) (i:=0) rfl rfl) (dp 3 rfl (eZ fL (Ht rfl) rfl) (dq 12 7 rfl (eY A_47 Z_47 (Ht rfl) (i:=1) rfl rfl) (cP 11 6 13 8 rfl (cZ Tryz.call138 (Gz zo zo) ⟨(Ht rfl),(Ht rfl),trivial⟩) (fV aO rfl (by kernel_rfl) (zF (zF (aJ (aJ (aV (ro rfl (cZ K_214 oC ⟨(Ht rfl),(Ht rfl),trivial⟩) (gQ Z_49 (Ht rfl) (Ht rfl) rfl (i:=2) rfl (aK rfl) rfl rfl ?_))))))))))))
 refine eX (fW rfl (fX (fK A_49 Z_49 rfl (i:=2) rfl rfl) ?_))
 exact (kW (Ek x y))
theorem lL {x:Int} {n:Nat} (hx:(dg x.natAbs).length ≤ 17592186044416) (hn:(dg n).length ≤ 17592186044416):bB Tryz.prog 136 [eD x,aE n] (eD (x * n)):=by
 refine bB.intro Tryz.func136 rfl Tryz.ntmps136 rfl (fun cx=>(ts (rn rfl (fG (Ht rfl)) fun B2=>(rn rfl (eW (Ts:=[Is (.bool false),Is (.slice none 0 0)]) O_49 rfl (fun V=>aW zd (aW zd (aG)))) fun B4=>(eX (cK (fZ (m:=6) (dp 2 rfl (eZ kY (Ht rfl) rfl) (dq 5 0 rfl (eY A_4 Z_4 (Ht rfl) (i:=0) rfl rfl) (dp 2 rfl (eZ fL (Ht rfl) rfl) (dq 7 2 rfl (eY A_47 Z_47 (Ht rfl) (i:=0) rfl rfl) (dp 1 rfl (cX (Ht rfl)) (cP 8 3 9 4 rfl (cZ Tryz.call138 (Gz zo zo) ⟨(Ht rfl),(Ht rfl),trivial⟩) ?_)))))))))))))
 refine fV aO rfl (by kernel_rfl) (zF (aJ (aJ (aV (ro rfl (cZ K_214 oC ⟨(Ht rfl),(Ht rfl),trivial⟩) (gQ Z_49 (Ht rfl) (Ht rfl) rfl (i:=1) rfl (aK rfl) rfl rfl (eX (fW rfl (fX (fK A_49 Z_49 rfl (i:=1) rfl rfl) ?_)))))))))
 exact (kW (Mc x n))
theorem Fl {x y:Int} (hx:(dg x.natAbs).length ≤ 17592186044415) (hy:(dg y.natAbs).length ≤ 17592186044415):bB Tryz.prog 176 [eD x,eD y] (bD .i64 (mR x y)):=by
 have hny:=rC y
 have hs:=kA (x:=x) (y:=-y) hx zo
 refine bB.intro Tryz.func176 rfl Tryz.ntmps176 rfl (fun cx=>(ts (rn rfl (fG (Ht rfl)) fun B2=>(rn rfl (fG (Ht rfl)) fun B3=>(ro rfl (cQ (cJ 0)) (eX (cK (fZ (m:=5) (dp 2 rfl (eJ A_49 Z_49 (Ht rfl) (i:=0) rfl rfl rfl) (dp 3 rfl (eJ A_49 Z_49 (Ht rfl) (i:=1) rfl rfl rfl) (dq 7 1 rfl (cZ K_135 pH ⟨(Ht rfl),trivial⟩) (cP 6 0 8 2 rfl (cZ K_133 (xJ zo zo) ⟨(Ht rfl),(Ht rfl),trivial⟩) (C.D_new (Ei:=[]) rfl rfl rfl bW (eW (Ts:=[Is (.bool false),Is (.slice none 0 0)]) O_49 rfl (fun V=>aW zd (aW zd (aG)))) ?_)))))))))))))
 refine fV aO rfl (by kernel_rfl) (zF (C.F_new (fun B5=>aV (gQ Z_49 (Ht rfl) (Ht rfl) rfl (i:=2) rfl (aK rfl) rfl rfl (eX (cK (ts (ro rfl (eZ kY (Ht rfl) rfl) (ro rfl (eY A_4 Z_4 (Ht rfl) (i:=2) rfl rfl) (eX (dQ (Ht rfl) (fun hb=>?_) (fun hb=>?_))))))))))))
 ·have hn : x + -y < 0 := by simpa using hb
  refine ts (ro rfl (cQ cV) (eX (fW rfl (fX (eU rfl) ?_))))
  exact (aR (Zu hn))
 ·have hn : ¬ x + -y < 0 := by simpa using hb
  refine cU (ts (ro rfl (eZ fL (Ht rfl) rfl) (ro rfl (eY A_47 Z_47 (Ht rfl) (i:=2) rfl rfl) (ro rfl (dG U_47 (Ht rfl) aA) (ro rfl (Ge (Ht rfl) (cJ 1)) (ra rfl (eX (fW rfl (fX (eU rfl) ?_)))))))))
  exact (aR (Zt hn))
end
section
open Go Go.RowKit
theorem Tg {n : Nat} {E : dC} {H : Hp} {d : Option Tmp} {t : TypeId} {pos : String} {af : Array Edge} {g : Option (Nat × Bool)} {x0 : Operand} {T0 T1 : Ty} (h0 : bF E x0 (fB [T0, T1])) :
  aL Tryz.prog n E H ⟨d,.build 51 #[(0,x0)],t,pos,af,g⟩ (fB [T0,T1,Is (.bool false),Is (.slice none 0 0),Is (.slice none 0 0)]) :=
 fT (parts := [(0, x0)]) fun a V w hs => by
  obtain ⟨v0,e0,c0⟩:=h0 n V a hs
  obtain ⟨c0_0,c0_1,rfl⟩:∃ c0_0 c0_1,v0 = [c0_0,c0_1]:=yJ (by simpa using c0.length)
  refine ⟨.agg #[c0_0,c0_1,(.bool false),(.slice none 0 0),(.slice none 0 0)],?_,[c0_0,c0_1,(.bool false),(.slice none 0 0),(.slice none 0 0)],rfl,aW (c0.at (i:=0) rfl rfl) (aW (c0.at (i:=1) rfl rfl) (aW (⟨rfl,trivial⟩) (aW (⟨rfl,trivial⟩) (aW (⟨rfl,trivial⟩) (aG)))))⟩
  simp [e0,Instr.build,Instr.fill,Sem.run_bind,Result.andThen,eN,O_51,U_51,Z_47,Z_49]
theorem qX {n : Nat} {E : dC} {H : Hp} {d : Option Tmp} {t : TypeId} {pos : String} {af : Array Edge} {g : Option (Nat × Bool)} {x0 x1 x2 : Operand} {T0 T1 T2 T3 T4 : Ty} (h0 : bF E x0 (fB [T0, T1])) (h1 : bF E x1 (fB [T2, T3])) [s2 : dO T4 1 false] (h2 : bF E x2 T4) :
  aL Tryz.prog n E H ⟨d,.build 51 #[(0,x0),(1,x1),(2,x2)],t,pos,af,g⟩ (fB [T0,T1,T2,T3,T4]) :=
 fT (parts := [(0, x0), (1, x1), (2, x2)]) fun a V w hs => by
  obtain ⟨v0,e0,c0⟩:=h0 n V a hs
  obtain ⟨c0_0,c0_1,rfl⟩:∃ c0_0 c0_1,v0 = [c0_0,c0_1]:=yJ (by simpa using c0.length)
  obtain ⟨v1,e1,c1⟩:=h1 n V a hs
  obtain ⟨c1_0,c1_1,rfl⟩:∃ c1_0 c1_1,v1 = [c1_0,c1_1]:=yJ (by simpa using c1.length)
  have p2:=h2 n V a hs
  generalize e2:a.eval x2 = v2 at p2
  have q2:=(s2.ok v2 V p2).2.2 rfl
  refine ⟨.agg #[c0_0,c0_1,c1_0,c1_1,v2],?_,[c0_0,c0_1,c1_0,c1_1,v2],rfl,aW (c0.at (i:=0) rfl rfl) (aW (c0.at (i:=1) rfl rfl) (aW (c1.at (i:=0) rfl rfl) (aW (c1.at (i:=1) rfl rfl) (aW (⟨p2,q2⟩) (aG)))))⟩
  simp [e0,e1,e2,Instr.build,Instr.fill,Sem.run_bind,Result.andThen,eN,q2.cells,O_51,U_51,Z_47,Z_49]
theorem gG (a:Addr) (w:World):(Instr.fieldAt 51 (.pointer (some a)) 0).run Tryz.prog w = .ok (.pointer (some (a.add 0))) w:=by
 simp [Instr.fieldAt,Instr.sureAddr,fieldPlace,Sem.run_bind,Result.andThen,U_51,Z_49]
theorem gW (a:Addr) (w:World):(Instr.fieldAt 51 (.pointer (some a)) 1).run Tryz.prog w = .ok (.pointer (some (a.add 2))) w:=by
 simp [Instr.fieldAt,Instr.sureAddr,fieldPlace,Sem.run_bind,Result.andThen,U_51,Z_49]
theorem pL (a:Addr) (w:World):(Instr.fieldAt 51 (.pointer (some a)) 2).run Tryz.prog w = .ok (.pointer (some (a.add 4))) w:=by
 simp [Instr.fieldAt,Instr.sureAddr,fieldPlace,Sem.run_bind,Result.andThen,U_51,Z_47]
end
section
open Go Go.RowKit
theorem xI {A B:Int} {D:Nat} (hD:0 < D) (hA:(dg A.natAbs).length ≤ 17592186044415) (hB:(dg B.natAbs).length ≤ 17592186044415) (hD2:(dg D).length ≤ 17592186044415):bB Tryz.prog 134 [eD A,eD B,aE D] (aN (Qi.mk' A B D)):=by
 have hg1:=Aw hA hB
 have hg2:=Aw hg1 hD2
 have hgp:Nat.gcd (Nat.gcd A.natAbs B.natAbs) D ≠ 0:=fun e=>by have:=Nat.gcd_eq_zero_iff.1 e; omega
 refine bB.intro Tryz.func134 rfl Tryz.ntmps134 rfl (fun cx=>(ts (rn rfl (fG (Ht rfl)) fun B3=>(rn rfl (fG (Ht rfl)) fun B4=>(rn rfl (eW (Ts:=[Is (.bool false),Is (.slice none 0 0),Is (.bool false),Is (.slice none 0 0),Is (.slice none 0 0)]) O_51 rfl (fun V=>aW zd (aW zd (aW zd (aW zd (aW zd (aG))))))) fun B6=>(eX (ts (ro rfl (eZ fL (Ht rfl) rfl) (ro rfl (eY A_47 Z_47 (Ht rfl) (i:=0) rfl rfl) ?_)))))))))
 refine ro rfl (eZ fL (Ht rfl) rfl) (ro rfl (eY A_47 Z_47 (Ht rfl) (i:=1) rfl rfl) (ro rfl (cZ Tryz.call218 (a1m zo zo) ⟨(Ht rfl),(Ht rfl),trivial⟩) (rm rfl (ro rfl (cZ Tryz.call218 (a1m zo zo) ⟨(Ht rfl),(Ht rfl),trivial⟩) (ra rfl (eX (cK (jL (fun (uu:Unit)=>True) (fun (uu:Unit)=>[(2,aE (D / (Nat.gcd (Nat.gcd A.natAbs B.natAbs) D))),(3,dA B3 0),(4,dA B4 0),(6,dA B6 0)]) (fun (uu:Unit)=>[box B3 49 [aC (decide (A < 0)),aE (A.natAbs / (Nat.gcd (Nat.gcd A.natAbs B.natAbs) D))],box B4 49 [aC (decide (B < 0)),aE (B.natAbs / (Nat.gcd (Nat.gcd A.natAbs B.natAbs) D))],box B6 51 [Is (.bool false),Is (.slice none 0 0),Is (.bool false),Is (.slice none 0 0),Is (.slice none 0 0)]]) ?_ (fun uu _=>?_)))))))))
 ·refine ts (rm rfl (ro rfl (cZ Tryz.call219 a1n ⟨(Ht rfl), trivial⟩) (ro rfl (eT (Ht rfl)) (eX (dQ (Ht rfl) (fun hb => ?_) (fun hb => ?_))))))
  ·simp at hb
   refine ts (ro rfl (eZ fL (Ht rfl) rfl) (ro rfl (eY A_47 Z_47 (Ht rfl) (i:=0) rfl rfl) (rm rfl (ro rfl (cZ Tryz.call220 (Nc zo zo zo) ⟨(Ht rfl),(Ht rfl),trivial⟩) (rm rfl (ro rfl (dK (Ht rfl) rfl) (ro rfl (dK (Ht rfl) rfl) (ro rfl (eZ fL (Ht rfl) rfl) (kK Z_47 (Ht rfl) (Ht rfl) (i:=0) rfl (aK rfl) rfl (eX (ts (ro rfl (eZ fL (Ht rfl) rfl) (ro rfl (eY A_47 Z_47 (Ht rfl) (i:=1) rfl rfl) (rm rfl (ro rfl (cZ Tryz.call220 (Nc zo zo zo) ⟨(Ht rfl),(Ht rfl),trivial⟩) ?_)))))))))))))))
   refine rm rfl (ro rfl (dK (Ht rfl) rfl) (ro rfl (dK (Ht rfl) rfl) (ro rfl (eZ fL (Ht rfl) rfl) (kK Z_47 (Ht rfl) (Ht rfl) (i:=1) rfl (aK rfl) rfl (eX (cY (rm rfl (rm rfl (ro rfl (cZ Tryz.call220 (Nc zo zo zo) ⟨(Ht rfl),(Ht rfl),trivial⟩) (rm rfl (ro rfl (dK (Ht rfl) rfl) (ro rfl (dK (Ht rfl) rfl) (ra rfl (eX (bC () trivial (zS rfl) (aU (aB (by first | rfl | simp)) (aU (aB (by first | rfl | simp)) (aU (aB rfl) aY))))))))))))))))))
  ·simp at hb
   refine cU (bC () trivial (aZ rfl (dF (by rw [hb,Nat.div_one])) (zS rfl)) (aU (aB (by rw [hb,Nat.div_one])) (aU (aB (by rw [hb,Nat.div_one])) (aU (aB rfl) aY))))
 ·refine cK (jL (fun (uu : Unit) => True) (fun (uu : Unit) => [(2, aE (if D / (Nat.gcd (Nat.gcd A.natAbs B.natAbs) D) = 1 then 0 else D / (Nat.gcd (Nat.gcd A.natAbs B.natAbs) D))), (3, dA B3 0), (4, dA B4 0), (6, dA B6 0)]) (fun (uu : Unit) => [box B3 49 [aC (decide (A < 0)), aE (A.natAbs / (Nat.gcd (Nat.gcd A.natAbs B.natAbs) D))], box B4 49 [aC (decide (B < 0)), aE (B.natAbs / (Nat.gcd (Nat.gcd A.natAbs B.natAbs) D))], box B6 51 [Is (.bool false), Is (.slice none 0 0), Is (.bool false), Is (.slice none 0 0), Is (.slice none 0 0)]]) ?_ (fun uu _ => ?_))
  ·refine ts (rm rfl (ro rfl (cZ Tryz.call219 a1n ⟨(Ht rfl), trivial⟩) (eX (dQ (Ht rfl) (fun hb => ?_) (fun hb => ?_)))))
   ·simp only [decide_eq_true_eq] at hb
    refine cY (ro rfl (cQ cV) (eX (bC () trivial (aZ rfl (fun v V h=>dF (by rw [if_pos hb]) v V (jY v V h)) (zS rfl)) (cT.refl _))))
   ·simp only [decide_eq_false_iff_not] at hb
    refine cU (bC () trivial (aZ rfl (dF (by rw [if_neg hb])) (zS rfl)) (cT.refl _))
  ·refine ts (ro rfl (eJ A_49 Z_49 (Ht rfl) (i := 0) rfl rfl rfl) (ro rfl (eJ A_49 Z_49 (Ht rfl) (i := 1) rfl rfl rfl) (rm rfl (ro rfl (qX (Ht rfl) (Ht rfl) (Ht rfl)) (gQ Z_51 (Ht rfl) (Ht rfl) rfl (i := 2) rfl (aK rfl) rfl rfl (eX (fW rfl (fX (fK A_51 Z_51 rfl (i := 2) rfl rfl) ?_))))))))
   exact (a0K hD)
theorem pG {x:Qi}:bB Tryz.prog 137 [aN x] (aE x.den):=by
 refine bB.intro Tryz.func137 rfl Tryz.ntmps137 rfl (fun cx=>(ts (rn rfl (fG (Ht rfl)) fun B1=>(ro rfl (cQ cV) (eX (cK (ts (ro rfl (eZ pL (Ht rfl) rfl) (ro rfl (eY A_47 Z_47 (Ht rfl) (i:=0) rfl rfl) (ro rfl (dG U_47 (Ht rfl) aA) (ro rfl (cR (Ht rfl) (cJ 0)) (eX (dQ (Ht rfl) (fun hb=>?_) (fun hb=>?_))))))))))))))
 ·simp at hb
  have h1:x.den = 1:=yZ (aM.1 (by simpa using hb))
  refine ts (ro rfl (dN (xs:=[_]) U_47 Z_189 O_189 (cW (cJ 1) cG) rfl rfl rfl) (ra rfl (eX (fW rfl (fX (eU rfl) ?_)))))
  exact (fun v V h=>dF h1.symm v V (Bn v V h))
 ·simp at hb
  have h1:du x = x.den:=wF (fun e=>hb (by simp [e,eI]))
  refine cU (ts (ro rfl (eZ pL (Ht rfl) rfl) (ro rfl (eY A_47 Z_47 (Ht rfl) (i:=0) rfl rfl) (ra rfl (eX (fW rfl (fX (eU rfl) ?_)))))))
  exact (dF h1)
theorem qA {n:Int} (h1:-9223372036854775808 ≤ n) (h2:n ≤ 9223372036854775807):bB Tryz.prog 77 [bD .i64 n] (aN (Qi.ofInt n)):=by
 refine bB.intro Tryz.func77 rfl Tryz.ntmps77 rfl (fun cx=>(ts (rn rfl (eW (Ts:=[Is (.bool false),Is (.slice none 0 0),Is (.bool false),Is (.slice none 0 0),Is (.slice none 0 0)]) O_51 rfl (fun V=>aW zd (aW zd (aW zd (aW zd (aW zd (aG))))))) fun B2=>(eX (ts (rm rfl (ro rfl (cZ Tryz.call177 (Fh h1 h2) ⟨(Ht rfl),trivial⟩) (ro rfl (Tg (Ht rfl)) (gQ Z_51 (Ht rfl) (Ht rfl) rfl (i:=0) rfl (aK rfl) rfl rfl ?_)))))))))
 refine eX (fW rfl (fX (fK A_51 Z_51 rfl (i:=0) rfl rfl) ?_))
 exact On
theorem a1k {p q d:Int} (p1:-9223372036854775808 ≤ p) (p2:p ≤ 9223372036854775807) (q1:-9223372036854775808 ≤ q) (q2:q ≤ 9223372036854775807) (d1:-9223372036854775808 ≤ d) (d2:d ≤ 9223372036854775807) (hd:d ≠ 0):bB Tryz.prog 141 [bD .i64 p,bD .i64 q,bD .i64 d] (fH [aN (Qi.frac p q d),bD .i64 0]):=by
 have lp:=Ql p1 p2; have lq:=Ql q1 q2; have ld:=Ql d1 d2; have np:=rC p; have nq:=rC q
 refine bB.intro Tryz.func141 rfl Tryz.ntmps141 rfl (fun cx=>(ts (rn rfl (eW (Ts:=[Is (.bool false),Is (.slice none 0 0),Is (.bool false),Is (.slice none 0 0),Is (.slice none 0 0)]) O_51 rfl (fun V=>aW zd (aW zd (aW zd (aW zd (aW zd (aG))))))) fun B6=>(ro rfl (cQ (cJ 0)) (eX (cK (ts (rm rfl (ro rfl (lH (Ht rfl) cV) (eX (iR (Ht rfl) (by simp [hd]) ?_)))))))))))
 refine cU (ts (rm rfl (ro rfl (cZ Tryz.call177 (Fh p1 p2) ⟨(Ht rfl),trivial⟩) (rm rfl (ro rfl (cZ Tryz.call177 (Fh q1 q2) ⟨(Ht rfl),trivial⟩) (rm rfl (ro rfl (cZ Tryz.call177 (Fh d1 d2) ⟨(Ht rfl),trivial⟩) (rn rfl (eW (Ts:=[Is (.bool false),Is (.slice none 0 0)]) O_49 rfl (fun V=>aW zd (aW zd (aG)))) fun B8=>(rn rfl (eW (Ts:=[Is (.bool false),Is (.slice none 0 0)]) O_49 rfl (fun V=>aW zd (aW zd (aG)))) fun B9=>?_)))))))))
 refine rn rfl (eW (Ts:=[Is (.bool false),Is (.slice none 0 0)]) O_49 rfl (fun V=>aW zd (aW zd (aG)))) fun B10=>gQ Z_49 (Ht rfl) (Ht rfl) rfl (i:=1) rfl (aK rfl) rfl rfl (gQ Z_49 (Ht rfl) (Ht rfl) rfl (i:=2) rfl (aK rfl) rfl rfl (gQ Z_49 (Ht rfl) (Ht rfl) rfl (i:=3) rfl (aK rfl) rfl rfl (eX (cK (pF (fun (a:Int) (b:Int)=>Qi.mk' a b d.natAbs = Qi.frac p q d ∧ (dg a.natAbs).length ≤ 2 ∧ (dg b.natAbs).length ≤ 2) (fun (a:Int) (b:Int)=>[(6,dA B6 0),(8,dA B8 0),(9,dA B9 0),(10,dA B10 0)]) (fun (a:Int) (b:Int)=>[box B6 51 [Is (.bool false),Is (.slice none 0 0),Is (.bool false),Is (.slice none 0 0),Is (.slice none 0 0)],box B8 49 [aC (decide (a < 0)),aE (a).natAbs],box B9 49 [aC (decide (b < 0)),aE (b).natAbs],box B10 49 [aC (decide (d < 0)),aE (d).natAbs]]) ?_ (fun a b ⟨hab,ha,hb⟩=>?_))))))
 ·refine ts (ro rfl (eZ kY (Ht rfl) rfl) (ro rfl (eY A_4 Z_4 (Ht rfl) (i := 3) rfl rfl) (eX (dQ (Ht rfl) (fun hn => ?_) (fun hn => ?_)))))
  ·simp only [decide_eq_true_eq] at hn
   refine fZ (m:=3) (dp 8 rfl (eJ A_49 Z_49 (Ht rfl) (i:=1) rfl rfl rfl) (dq 22 0 rfl (cZ K_135 pH ⟨(Ht rfl),trivial⟩) (dp 9 rfl (eJ A_49 Z_49 (Ht rfl) (i:=2) rfl rfl rfl) (fV aO rfl (by kernel_rfl) (aJ (aJ (aJ (aV (ro rfl (cZ K_135 pH ⟨(Ht rfl),trivial⟩) (gQ Z_49 (Ht rfl) (Ht rfl) rfl (i:=1) rfl (aK rfl) rfl rfl (gQ Z_49 (Ht rfl) (Ht rfl) rfl (i:=2) rfl (aK rfl) rfl rfl (eX (bC (-p,-q) ⟨Qi.frac_neg hn,by dsimp only; omega,by dsimp only; omega⟩ (zS rfl) (aU (aB rfl) (aU (aB rfl) (aU (aB rfl) (aU (aB rfl) aY)))))))))))))))))
  ·simp only [decide_eq_false_iff_not] at hn
   refine cU (bC (p,q) ⟨Qi.frac_pos hn hd,by omega,by omega⟩ (zS rfl) (cT.refl _))
 ·refine ts (ro rfl (eJ A_49 Z_49 (Ht rfl) (i := 1) rfl rfl rfl) (ro rfl (eJ A_49 Z_49 (Ht rfl) (i := 2) rfl rfl rfl) (ro rfl (eZ fL (Ht rfl) rfl) (ro rfl (eY A_47 Z_47 (Ht rfl) (i := 3) rfl rfl) (ro rfl (cZ K_134 (xI zo zo zo zo) ⟨(Ht rfl), (Ht rfl), (Ht rfl), trivial⟩) (gQ Z_51 (Ht rfl) (Ht rfl) rfl (i := 0) rfl (aK rfl) rfl rfl (ro rfl (cQ (cJ 0)) (eX (bM rfl (fX (fK A_51 Z_51 rfl (i := 0) rfl rfl) ?_) (eU rfl))))))))))
  exact (lS hab)
theorem De {x y:Qi} {L M:Nat} [hx:aD x L] [hy:aD y M] (h:L + M + 1 ≤ 17592186044415):bB Tryz.prog 46 [aN x,aN y] (aN (x + y)):=by
 have hxa:=jI hx.fit; have hxb:=jR hx.fit; have hxd:=jJ hx.fit
 have hya:=jI hy.fit; have hyb:=jR hy.fit; have hyd:=jJ hy.fit
 have hxp:=x.den_pos; have hyp:=y.den_pos; have hdp:=Nat.mul_pos hxp hyp
 have e1:=dR x.a y.den; have e2:=dR y.a x.den; have e3:=dR x.b y.den; have e4:=dR y.b x.den; have e5:=sE x.den y.den
 have e6:=kA (x:=x.a * y.den) (y:=y.a * x.den) (L:=L + M) zo zo; have e7:=kA (x:=x.b * y.den) (y:=y.b * x.den) (L:=L + M) zo zo
 refine bB.intro Tryz.func46 rfl Tryz.ntmps46 rfl (fun cx=>(ts (rn rfl (fG (Ht rfl)) fun B2=>(rn rfl (fG (Ht rfl)) fun B3=>(rn rfl (eW (Ts:=[Is (.bool false),Is (.slice none 0 0),Is (.bool false),Is (.slice none 0 0),Is (.slice none 0 0)]) O_51 rfl (fun V=>aW zd (aW zd (aW zd (aW zd (aW zd (aG))))))) fun B4=>(eX (cK (fZ (m:=3) (dp 2 rfl (eJ A_51 Z_51 (Ht rfl) (i:=0) rfl rfl rfl) (dq 7 0 rfl (cZ K_137 pG ⟨(Ht rfl),trivial⟩) ?_))))))))))
 refine dp 3 rfl (eJ A_51 Z_51 (Ht rfl) (i:=1) rfl rfl rfl) (fV aO rfl (by kernel_rfl) (aJ (aJ (aJ (aV (ro rfl (cZ K_137 pG ⟨(Ht rfl),trivial⟩) (ra rfl (ra rfl (eX (cK (fZ (m:=20) (dp 2 rfl (eZ gG (Ht rfl) rfl) (dq 11 0 rfl (eJ A_49 Z_49 (Ht rfl) (i:=0) rfl rfl rfl) (dp 6 rfl (cX (Ht rfl)) (cP 12 1 13 2 rfl (cZ K_136 (lL zo zo) ⟨(Ht rfl),(Ht rfl),trivial⟩) (dp 3 rfl (eZ gG (Ht rfl) rfl) (dq 15 4 rfl (eJ A_49 Z_49 (Ht rfl) (i:=1) rfl rfl rfl) ?_)))))))))))))))))
 refine dp 5 rfl (cX (Ht rfl)) (cP 16 5 17 6 rfl (cZ K_136 (lL zo zo) ⟨(Ht rfl),(Ht rfl),trivial⟩) (cP 14 3 18 7 rfl (cZ K_133 (xJ zo zo) ⟨(Ht rfl),(Ht rfl),trivial⟩) (dp 2 rfl (eZ gW (Ht rfl) rfl) (dq 20 9 rfl (eJ A_49 Z_49 (Ht rfl) (i:=0) rfl rfl rfl) (dp 6 rfl (cX (Ht rfl)) (cP 21 10 22 11 rfl (cZ K_136 (lL zo zo) ⟨(Ht rfl),(Ht rfl),trivial⟩) (dp 3 rfl (eZ gW (Ht rfl) rfl) (dq 24 13 rfl (eJ A_49 Z_49 (Ht rfl) (i:=1) rfl rfl rfl) ?_))))))))
 refine dp 5 rfl (cX (Ht rfl)) (cP 25 14 26 15 rfl (cZ K_136 (lL zo zo) ⟨(Ht rfl),(Ht rfl),trivial⟩) (cP 23 12 27 16 rfl (cZ K_133 (xJ zo zo) ⟨(Ht rfl),(Ht rfl),trivial⟩) (dp 5 rfl (cX (Ht rfl)) (dp 6 rfl (cX (Ht rfl)) (fV aO rfl (by kernel_rfl) (zF (zF (zF (zF (zF (aV (ro rfl (cZ Tryz.call138 (Gz zo zo) ⟨(Ht rfl),(Ht rfl),trivial⟩) ?_))))))))))))
 refine ro rfl (cZ K_134 (xI (by first | assumption | omega) zo zo zo) ⟨(Ht rfl),(Ht rfl),(Ht rfl),trivial⟩) (gQ Z_51 (Ht rfl) (Ht rfl) rfl (i:=2) rfl (aK rfl) rfl rfl (eX (fW rfl (fX (fK A_51 Z_51 rfl (i:=2) rfl rfl) ?_))))
 exact (lS (Qi.mk_add x y))
theorem a1j {x:Qi}:bB Tryz.prog 140 [aN x] (aN (-x)):=by
 refine bB.intro Tryz.func140 rfl Tryz.ntmps140 rfl (fun cx=>(ts (rn rfl (fG (Ht rfl)) fun B1=>(rn rfl (eW (Ts:=[Is (.bool false),Is (.slice none 0 0),Is (.bool false),Is (.slice none 0 0),Is (.slice none 0 0)]) O_51 rfl (fun V=>aW zd (aW zd (aW zd (aW zd (aW zd (aG))))))) fun B2=>(eX (cK (fZ (m:=8) (dp 1 rfl (eZ gG (Ht rfl) rfl) (dq 3 0 rfl (eJ A_49 Z_49 (Ht rfl) (i:=0) rfl rfl rfl) (dq 4 1 rfl (cZ K_135 pH ⟨(Ht rfl),trivial⟩) ?_))))))))))
 refine dp 1 rfl (eZ gW (Ht rfl) rfl) (dq 6 3 rfl (eJ A_49 Z_49 (Ht rfl) (i:=0) rfl rfl rfl) (dq 7 4 rfl (cZ K_135 pH ⟨(Ht rfl),trivial⟩) (dp 1 rfl (eZ pL (Ht rfl) rfl) (dq 9 6 rfl (eY A_47 Z_47 (Ht rfl) (i:=0) rfl rfl) (fV aO rfl (by kernel_rfl) (zF (zF (aV (ro rfl (qX (Ht rfl) (Ht rfl) (Ht rfl)) (gQ Z_51 (Ht rfl) (Ht rfl) rfl (i:=1) rfl (aK rfl) rfl rfl (eX (fW rfl (fX (fK A_51 Z_51 rfl (i:=1) rfl rfl) ?_)))))))))))))
 exact (mP (by obtain ⟨e1,e2,e3⟩:=Qi.neg_a x; rw [e1,e2,a1t e3]; rfl))
theorem Kp {x:Qi}:bB Tryz.prog 175 [aN x] (aN x.conj):=by
 refine bB.intro Tryz.func175 rfl Tryz.ntmps175 rfl (fun cx=>(ts (rn rfl (fG (Ht rfl)) fun B1=>(rn rfl (eW (Ts:=[Is (.bool false),Is (.slice none 0 0),Is (.bool false),Is (.slice none 0 0),Is (.slice none 0 0)]) O_51 rfl (fun V=>aW zd (aW zd (aW zd (aW zd (aW zd (aG))))))) fun B2=>(eX (cK (fZ (m:=7) (dp 1 rfl (eZ gG (Ht rfl) rfl) (dq 3 0 rfl (eJ A_49 Z_49 (Ht rfl) (i:=0) rfl rfl rfl) (dp 1 rfl (eZ gW (Ht rfl) rfl) ?_))))))))))
 refine dq 5 2 rfl (eJ A_49 Z_49 (Ht rfl) (i:=0) rfl rfl rfl) (dq 6 3 rfl (cZ K_135 pH ⟨(Ht rfl),trivial⟩) (dp 1 rfl (eZ pL (Ht rfl) rfl) (dq 8 5 rfl (eY A_47 Z_47 (Ht rfl) (i:=0) rfl rfl) (fV aO rfl (by kernel_rfl) (zF (aJ (aJ (aJ (aV (ro rfl (qX (Ht rfl) (Ht rfl) (Ht rfl)) (gQ Z_51 (Ht rfl) (Ht rfl) rfl (i:=1) rfl (aK rfl) rfl rfl (eX (fW rfl (fX (fK A_51 Z_51 rfl (i:=1) rfl rfl) ?_))))))))))))))
 exact (mP (by obtain ⟨e1,e2,e3⟩:=Qi.conj_a x; rw [e1,e2,a1t e3]; rfl))
theorem yF {x y:Qi} {L M:Nat} [hx:aD x L] [hy:aD y M] (h:L + M + 1 ≤ 17592186044415):bB Tryz.prog 44 [aN x,aN y] (aN (x - y)):=by
 have hxa:=jI hx.fit; have hxb:=jR hx.fit; have hxd:=jJ hx.fit
 have hya:=jI hy.fit; have hyb:=jR hy.fit; have hyd:=jJ hy.fit
 have hxp:=x.den_pos; have hyp:=y.den_pos; have hdp:=Nat.mul_pos hxp hyp
 refine bB.intro Tryz.func44 rfl Tryz.ntmps44 rfl (fun cx=>(ts (rn rfl (fG (Ht rfl)) fun B2=>(rn rfl (fG (Ht rfl)) fun B3=>(rn rfl (eW (Ts:=[Is (.bool false),Is (.slice none 0 0),Is (.bool false),Is (.slice none 0 0),Is (.slice none 0 0)]) O_51 rfl (fun V=>aW zd (aW zd (aW zd (aW zd (aW zd (aG))))))) fun B4=>(eX (cK (fZ (m:=3) (dp 2 rfl (eJ A_51 Z_51 (Ht rfl) (i:=0) rfl rfl rfl) (dp 3 rfl (eJ A_51 Z_51 (Ht rfl) (i:=1) rfl rfl rfl) ?_))))))))))
 refine dq 6 1 rfl (cZ Tryz.call140 a1j ⟨(Ht rfl),trivial⟩) (fV aO rfl (by kernel_rfl) (aJ (aJ (aJ (aV (ro rfl (cZ K_46 (De zo) ⟨(Ht rfl),(Ht rfl),trivial⟩) (gQ Z_51 (Ht rfl) (Ht rfl) rfl (i:=2) rfl (aK rfl) rfl rfl (eX (fW rfl (fX (fK A_51 Z_51 rfl (i:=2) rfl rfl) ?_))))))))))
 exact (lS (Qi.sub_def x y).symm)
theorem nH {x y:Qi} {L M:Nat} [hx:aD x L] [hy:aD y M] (h:L + M + 1 ≤ 17592186044415):bB Tryz.prog 45 [aN x,aN y] (aN (x * y)):=by
 have hxa:=jI hx.fit; have hxb:=jR hx.fit; have hxd:=jJ hx.fit
 have hya:=jI hy.fit; have hyb:=jR hy.fit; have hyd:=jJ hy.fit
 have hxp:=x.den_pos; have hyp:=y.den_pos; have hdp:=Nat.mul_pos hxp hyp
 have e1:=kB x.a y.a; have e2:=kB x.b y.b; have e3:=kB x.a y.b; have e4:=kB x.b y.a; have e5:=sE x.den y.den; have e8:=rC (x.b * y.b)
 have e6:=kA (x:=x.a * y.a) (y:=-(x.b * y.b)) (L:=L + M) zo zo; have e7:=kA (x:=x.a * y.b) (y:=x.b * y.a) (L:=L + M) zo zo
 refine bB.intro Tryz.func45 rfl Tryz.ntmps45 rfl (fun cx=>(ts (rn rfl (fG (Ht rfl)) fun B2=>(rn rfl (fG (Ht rfl)) fun B3=>(rn rfl (eW (Ts:=[Is (.bool false),Is (.slice none 0 0),Is (.bool false),Is (.slice none 0 0),Is (.slice none 0 0)]) O_51 rfl (fun V=>aW zd (aW zd (aW zd (aW zd (aW zd (aG))))))) fun B4=>(eX (cK (fZ (m:=13) (dp 2 rfl (eZ gG (Ht rfl) rfl) (dq 7 0 rfl (eJ A_49 Z_49 (Ht rfl) (i:=0) rfl rfl rfl) ?_))))))))))
 refine dp 3 rfl (eZ gG (Ht rfl) rfl) (dq 9 2 rfl (eJ A_49 Z_49 (Ht rfl) (i:=1) rfl rfl rfl) (cP 8 1 10 3 rfl (cZ K_132 (tW zo zo) ⟨(Ht rfl),(Ht rfl),trivial⟩) (dp 2 rfl (eZ gW (Ht rfl) rfl) (dq 12 5 rfl (eJ A_49 Z_49 (Ht rfl) (i:=0) rfl rfl rfl) (dp 3 rfl (eZ gW (Ht rfl) rfl) (dq 14 7 rfl (eJ A_49 Z_49 (Ht rfl) (i:=1) rfl rfl rfl) (cP 13 6 15 8 rfl (cZ K_132 (tW zo zo) ⟨(Ht rfl),(Ht rfl),trivial⟩) (dq 16 9 rfl (cZ K_135 pH ⟨(Ht rfl),trivial⟩) ?_))))))))
 refine cP 11 4 17 10 rfl (cZ K_133 (xJ zo zo) ⟨(Ht rfl),(Ht rfl),trivial⟩) (C.D_new (Ei:=[]) rfl rfl rfl bW (eW (Ts:=[Is (.bool false),Is (.slice none 0 0)]) O_49 rfl (fun V=>aW zd (aW zd (aG)))) (fV aO rfl (by kernel_rfl) (zF (zF (zF (C.F_new (fun B5=>aV (gQ Z_49 (Ht rfl) (Ht rfl) rfl (i:=3) rfl (aK rfl) rfl rfl (eX ?_)))))))))
 refine cK (fZ (m:=12) (dp 2 rfl (eZ gG (Ht rfl) rfl) (dq 19 0 rfl (eJ A_49 Z_49 (Ht rfl) (i:=0) rfl rfl rfl) (dp 3 rfl (eZ gW (Ht rfl) rfl) (dq 21 2 rfl (eJ A_49 Z_49 (Ht rfl) (i:=1) rfl rfl rfl) (cP 20 1 22 3 rfl (cZ K_132 (tW zo zo) ⟨(Ht rfl),(Ht rfl),trivial⟩) (dp 2 rfl (eZ gW (Ht rfl) rfl) (dq 24 5 rfl (eJ A_49 Z_49 (Ht rfl) (i:=0) rfl rfl rfl) (dp 3 rfl (eZ gG (Ht rfl) rfl) (dq 26 7 rfl (eJ A_49 Z_49 (Ht rfl) (i:=1) rfl rfl rfl) ?_))))))))))
 refine cP 25 6 27 8 rfl (cZ K_132 (tW zo zo) ⟨(Ht rfl),(Ht rfl),trivial⟩) (cP 23 4 28 9 rfl (cZ K_133 (xJ zo zo) ⟨(Ht rfl),(Ht rfl),trivial⟩) (C.D_new (Ei:=[]) rfl rfl rfl bW (eW (Ts:=[Is (.bool false),Is (.slice none 0 0)]) O_49 rfl (fun V=>aW zd (aW zd (aG)))) (fV aO rfl (by kernel_rfl) (zF (zF (aJ (aJ (aJ (C.F_new (fun B6=>aV (gQ Z_49 (Ht rfl) (Ht rfl) rfl (i:=4) rfl (aK rfl) rfl rfl ?_)))))))))))
 refine eX (cK (fZ (m:=7) (dp 5 rfl (eJ A_49 Z_49 (Ht rfl) (i:=3) rfl rfl rfl) (dp 6 rfl (eJ A_49 Z_49 (Ht rfl) (i:=4) rfl rfl rfl) (dp 2 rfl (eJ A_51 Z_51 (Ht rfl) (i:=0) rfl rfl rfl) (dq 32 2 rfl (cZ K_137 pG ⟨(Ht rfl),trivial⟩) (dp 3 rfl (eJ A_51 Z_51 (Ht rfl) (i:=1) rfl rfl rfl) (dq 34 4 rfl (cZ K_137 pG ⟨(Ht rfl),trivial⟩) (cP 33 3 35 5 rfl (cZ Tryz.call138 (Gz zo zo) ⟨(Ht rfl),(Ht rfl),trivial⟩) (fV aO rfl (by kernel_rfl) (zF (aJ (aJ (aJ (aV ?_)))))))))))))))
 refine ro rfl (cZ K_134 (xI (by first | assumption | omega) zo zo zo) ⟨(Ht rfl),(Ht rfl),(Ht rfl),trivial⟩) (gQ Z_51 (Ht rfl) (Ht rfl) rfl (i:=2) rfl (aK rfl) rfl rfl (eX (fW rfl (fX (fK A_51 Z_51 rfl (i:=2) rfl rfl) ?_))))
 exact (lS (Qi.mk_mul x y))
theorem Mz {x:Qi} {L:Nat} [hx:aD x L] (h:L ≤ 17592186044415):bB Tryz.prog 27 [aN x] (aC (!decide (x = Qi.zero))):=by
 have hxa:=jI hx.fit; have hxb:=jR hx.fit; have hxd:=jJ hx.fit
 refine bB.intro Tryz.func27 rfl Tryz.ntmps27 rfl (fun cx=>(ts (rn rfl (fG (Ht rfl)) fun B1=>(ro rfl (cQ cV) (eX (ts (ro rfl (eZ gG (Ht rfl) rfl) (ro rfl (eZ fL (Ht rfl) rfl) (ro rfl (eY A_47 Z_47 (Ht rfl) (i:=0) rfl rfl) (ro rfl (dG U_47 (Ht rfl) aA) (ro rfl (eZ gW (Ht rfl) rfl) (ro rfl (eZ fL (Ht rfl) rfl) (ro rfl (eY A_47 Z_47 (Ht rfl) (i:=0) rfl rfl) (ro rfl (dG U_47 (Ht rfl) aA) (ro rfl (dV (Ht rfl) (Ht rfl) z6) ?_)))))))))))))))
 refine ro rfl (eC (Ht rfl) (cJ 0)) (ra rfl (eX (fW rfl (fX (eU rfl) ?_))))
 exact (dM (Um x))
theorem Fd {x:Qi}:bB Tryz.prog 169 [aN x] (aC (decide (x.b = 0))):=by
 refine bB.intro Tryz.func169 rfl Tryz.ntmps169 rfl (fun cx=>(ts (rn rfl (fG (Ht rfl)) fun B1=>(ro rfl (cQ cV) (eX (ts (ro rfl (eZ gW (Ht rfl) rfl) (ro rfl (eZ fL (Ht rfl) rfl) (ro rfl (eY A_47 Z_47 (Ht rfl) (i:=0) rfl rfl) (ro rfl (dG U_47 (Ht rfl) aA) (ro rfl (cR (Ht rfl) (cJ 0)) (ra rfl (eX (fW rfl (fX (eU rfl) ?_)))))))))))))))
 exact (dM (a0P x))
theorem Ks {x y:Qi} {L M:Nat} [hx:aD x L] [hy:aD y M] (h:L ≤ 17592186044415) (h2:M ≤ 17592186044415):bB Tryz.prog 139 [aN x,aN y] (aC (decide (x = y))):=by
 have hxa:=jI hx.fit; have hxb:=jR hx.fit; have hxd:=jJ hx.fit
 have hya:=jI hy.fit; have hyb:=jR hy.fit; have hyd:=jJ hy.fit
 have hxu:=Uy x; have hyu:=Uy y
 refine bB.intro Tryz.func139 rfl Tryz.ntmps139 rfl (fun cx=>(ts (rn rfl (fG (Ht rfl)) fun B2=>(rn rfl (fG (Ht rfl)) fun B3=>(ro rfl (cQ cV) (eX (ts (ro rfl (eZ gG (Ht rfl) rfl) (ro rfl (eJ A_49 Z_49 (Ht rfl) (i:=0) rfl rfl rfl) (ro rfl (eZ gG (Ht rfl) rfl) (ro rfl (eJ A_49 Z_49 (Ht rfl) (i:=1) rfl rfl rfl) (ro rfl (cZ Tryz.call176 (Fl zo zo) ⟨(Ht rfl),(Ht rfl),trivial⟩) (ro rfl (lH (Ht rfl) cV) (rm rfl (fQ rfl rfl (eK rfl rfl (Ht rfl) (fun h=>eZ gW (Ht rfl) rfl)) ?_)))))))))))))))
 refine fQ rfl rfl (eK rfl rfl (Ht rfl) (fun h=>eJ A_49 Z_49 (fJ rfl h) (i:=0) rfl rfl rfl)) (fQ rfl rfl (eK rfl rfl (Ht rfl) (fun h=>eZ gW (Ht rfl) rfl)) (fQ rfl rfl (eK rfl rfl (Ht rfl) (fun h=>eJ A_49 Z_49 (fJ rfl h) (i:=1) rfl rfl rfl)) (fQ rfl rfl (eK rfl rfl (Ht rfl) (fun h=>cZ Tryz.call176 (Fl zo zo) ⟨(fJ rfl h),(fJ rfl h),trivial⟩)) (fQ rfl rfl (eK rfl rfl (Ht rfl) (fun h=>lH (fJ rfl h) cV)) (ro rfl (fE (Ht rfl) (fun h=>(fJ rfl h))) ?_)))))
 refine rm rfl (fQ rfl rfl (eK rfl rfl (Ht rfl) (fun h=>eZ pL (Ht rfl) rfl)) (fQ rfl rfl (eK rfl rfl (Ht rfl) (fun h=>eY A_47 Z_47 (fJ rfl h) (i:=0) rfl rfl)) (fQ rfl rfl (eK rfl rfl (Ht rfl) (fun h=>eZ pL (Ht rfl) rfl)) (fQ rfl rfl (eK rfl rfl (Ht rfl) (fun h=>eY A_47 Z_47 (fJ rfl h) (i:=1) rfl rfl)) (fQ rfl rfl (eK rfl rfl (Ht rfl) (fun h=>cZ Tryz.call216 (Tn zo zo) ⟨(fJ rfl h),(fJ rfl h),trivial⟩)) (fQ rfl rfl (eK rfl rfl (Ht rfl) (fun h=>lH (fJ rfl h) cV)) ?_))))))
 refine ro rfl (fE (Ht rfl) (fun h=>(fJ rfl h))) (ra rfl (eX (fW rfl (fX (eU rfl) ?_))))
 exact (dM (a0Y x y))
theorem Th {x y:Qi} {L M:Nat} [hx:aD x L] [hy:aD y M] (h:L + M ≤ 17592186044415):bB Tryz.prog 76 [aN x,aN y] (bD .i64 (Hk x y)):=by
 have hxa:=jI hx.fit; have hxb:=jR hx.fit; have hxd:=jJ hx.fit
 have hya:=jI hy.fit; have hyb:=jR hy.fit; have hyd:=jJ hy.fit
 have e1:=dR x.a y.den; have e2:=dR y.a x.den; have e3:=dR x.b y.den; have e4:=dR y.b x.den
 refine bB.intro Tryz.func76 rfl Tryz.ntmps76 rfl (fun cx=>(ts (rn rfl (fG (Ht rfl)) fun B2=>(rn rfl (fG (Ht rfl)) fun B3=>(ro rfl (cQ (cJ 0)) (eX (cK (cK (fZ (m:=9) (dp 2 rfl (eZ gG (Ht rfl) rfl) (dq 6 0 rfl (eJ A_49 Z_49 (Ht rfl) (i:=0) rfl rfl rfl) (dp 3 rfl (eJ A_51 Z_51 (Ht rfl) (i:=1) rfl rfl rfl) (dq 8 2 rfl (cZ K_137 pG ⟨(Ht rfl),trivial⟩) (cP 7 1 9 3 rfl (cZ K_136 (lL zo zo) ⟨(Ht rfl),(Ht rfl),trivial⟩) (dp 3 rfl (eZ gG (Ht rfl) rfl) ?_)))))))))))))))
 refine dq 11 5 rfl (eJ A_49 Z_49 (Ht rfl) (i:=1) rfl rfl rfl) (dp 2 rfl (eJ A_51 Z_51 (Ht rfl) (i:=0) rfl rfl rfl) (dq 13 7 rfl (cZ K_137 pG ⟨(Ht rfl),trivial⟩) (fV aO rfl (by kernel_rfl) (zF (zF (aJ (aV (ro rfl (cZ K_136 (lL zo zo) ⟨(Ht rfl),(Ht rfl),trivial⟩) (ro rfl (cZ Tryz.call176 (Fl zo zo) ⟨(Ht rfl),(Ht rfl),trivial⟩) (ra rfl (eX (ts (rm rfl (ro rfl (kE (Ht rfl) cV) ?_))))))))))))))
 refine eX (dQ (Ht rfl) (fun hb=>?_) (fun hb=>?_))
 ·simp only [Bool.not_eq_true', decide_eq_false_iff_not] at hb
  refine ts (rm rfl (ra rfl (eX (fW rfl (fX (eU rfl) ?_)))))
  exact (aR (by rw [Hk,if_pos hb]))
 ·simp only [Bool.not_eq_false', decide_eq_true_eq] at hb
  refine cU (cK (fZ (m:=9) (dp 2 rfl (eZ gW (Ht rfl) rfl) (dq 20 0 rfl (eJ A_49 Z_49 (Ht rfl) (i:=0) rfl rfl rfl) (dp 3 rfl (eJ A_51 Z_51 (Ht rfl) (i:=1) rfl rfl rfl) (dq 22 2 rfl (cZ K_137 pG ⟨(Ht rfl),trivial⟩) (cP 21 1 23 3 rfl (cZ K_136 (lL zo zo) ⟨(Ht rfl),(Ht rfl),trivial⟩) (dp 3 rfl (eZ gW (Ht rfl) rfl) (dq 25 5 rfl (eJ A_49 Z_49 (Ht rfl) (i:=1) rfl rfl rfl) (dp 2 rfl (eJ A_51 Z_51 (Ht rfl) (i:=0) rfl rfl rfl) ?_))))))))))
  refine dq 27 7 rfl (cZ K_137 pG ⟨(Ht rfl),trivial⟩) (fV aO rfl (by kernel_rfl) (zF (zF (aJ (aV (ro rfl (cZ K_136 (lL zo zo) ⟨(Ht rfl),(Ht rfl),trivial⟩) (ro rfl (cZ Tryz.call176 (Fl zo zo) ⟨(Ht rfl),(Ht rfl),trivial⟩) (ra rfl (eX (fW rfl (fX (eU rfl) ?_)))))))))))
  exact (aR (by rw [Hk,if_neg (by simpa using hb)]))
end
section
open Go Go.RowKit
theorem Zc {n : Nat} {E : dC} {H : Hp} {d : Option Tmp} {t : TypeId} {pos : String} {af : Array Edge} {g : Option (Nat × Bool)}  :
  aL Tryz.prog n E H ⟨d,.build 49 #[],t,pos,af,g⟩ (fB [Is (.bool false),Is (.slice none 0 0)]) :=
 fT (parts := []) fun a V w hs => by
  refine ⟨.agg #[(.bool false),(.slice none 0 0)],?_,[(.bool false),(.slice none 0 0)],rfl,aW (⟨rfl,trivial⟩) (aW (⟨rfl,trivial⟩) (aG))⟩
  simp [Instr.build,Instr.fill,Sem.run_bind,Result.andThen,eN,O_49,U_49,Z_4,Z_47]
theorem Hx (a:Addr) (w:World):(Instr.fieldAt 102 (.pointer (some a)) 0).run Tryz.prog w = .ok (.pointer (some (a.add 0))) w:=by
 simp [Instr.fieldAt,Instr.sureAddr,fieldPlace,Sem.run_bind,Result.andThen,U_102,Z_2]
theorem Hy (a:Addr) (w:World):(Instr.fieldAt 102 (.pointer (some a)) 1).run Tryz.prog w = .ok (.pointer (some (a.add 1))) w:=by
 simp [Instr.fieldAt,Instr.sureAddr,fieldPlace,Sem.run_bind,Result.andThen,U_102,Z_2]
theorem qG (a:Addr) (w:World):(Instr.fieldAt 102 (.pointer (some a)) 2).run Tryz.prog w = .ok (.pointer (some (a.add 2))) w:=by
 simp [Instr.fieldAt,Instr.sureAddr,fieldPlace,Sem.run_bind,Result.andThen,U_102,Z_2]
theorem lO:Tryz.prog.info? 51 = some Tryz.t51:=by kernel_rfl
theorem nS:Tryz.prog.underlying 29 = some (.slice 51):=by kernel_rfl
end
section
open Go Go.RowKit
theorem Kz {a:Int} {d:Nat} (hd:0 < d) (ha:(dg a.natAbs).length ≤ 8796093022208) (hd2:(dg d).length ≤ 8796093022208):bB Tryz.prog 188 [eD a,aE d] (pZ (tD a d)):=by
 have h1:=Iu a hd; have h2:=Iv a hd
 obtain ⟨x,hx⟩:∃ x,x = Qi.mk' a 0 d:=⟨_,rfl⟩
 rw [tD,← hx]
 rw [← hx] at h1 h2
 have h3:=rA x.a.natAbs; have h4:=rA x.den
 have h5:(dg (0:Int).natAbs).length ≤ 0:=by rw [show (0:Int).natAbs = 0 from rfl,eI]; exact Nat.le_refl _
 refine bB.intro Tryz.func188 rfl Tryz.ntmps188 rfl (fun cx=>(ts (rn rfl (fG (Ht rfl)) fun B2=>(ro rfl (cQ (bF.cS (l:=[]) rfl)) (eX (ts (ro rfl (eJ A_49 Z_49 (Ht rfl) (i:=0) rfl rfl rfl) (ro rfl (aL.imp (Zc ) Cj) (rm rfl (ro rfl (aL.imp (cZ K_134 (xI (by first | assumption | omega) zo zo zo) ⟨(Ht rfl),(Ht rfl),(Ht rfl),trivial⟩) (lS hx.symm)) (rn rfl (eW (Ts:=[Is (.bool false),Is (.slice none 0 0),Is (.bool false),Is (.slice none 0 0),Is (.slice none 0 0)]) O_51 rfl (fun V=>aW zd (aW zd (aW zd (aW zd (aW zd (aG))))))) fun B5=>?_)))))))))))
 refine gQ Z_51 (Ht rfl) (Ht rfl) rfl (i:=1) rfl (aK rfl) rfl rfl (eX (ts (ro rfl (eZ gG (Ht rfl) rfl) (ro rfl (eZ fL (Ht rfl) rfl) (ro rfl (eY A_47 Z_47 (Ht rfl) (i:=1) rfl rfl) (ro rfl (cZ Tryz.call249 (Gy zo) ⟨(Ht rfl),trivial⟩) (ra rfl (eX (cK (jL (fun (uu:Unit)=>True) (fun (uu:Unit)=>[(5,dA B5 0),(6,pZ (if x.a < 0 then 45 :: uS x.a.natAbs else uS x.a.natAbs))]) (fun (uu:Unit)=>[box B2 49 [aC (decide (a < 0)),aE (a).natAbs],box B5 51 [aC (decide ((x).a < 0)),aE (x).a.natAbs,aC (decide ((x).b < 0)),aE (x).b.natAbs,aE (du (x))]]) ?_ (fun uu _=>?_)))))))))))
 ·refine ts (ro rfl (eZ gG (Ht rfl) rfl) (ro rfl (eZ kY (Ht rfl) rfl) (ro rfl (eY A_4 Z_4 (Ht rfl) (i := 1) rfl rfl) (eX (dQ (Ht rfl) (fun hb => ?_) (fun hb => ?_))))))
  ·simp only [decide_eq_true_eq] at hb
   refine cY (rm rfl (ro rfl (jW (bF.cS (l:=[45]) rfl) (Ht rfl) (by first | omega | (simp; omega))) (ra rfl (eX (bC () trivial (aQ rfl (aZ rfl (jE (by rw [if_pos hb]; rfl)) aX)) (aU (aB rfl) (aU (aB rfl) aY)))))))
  ·simp only [decide_eq_false_iff_not] at hb
   refine cU (bC () trivial (aQ rfl (aZ rfl (jE (by rw [if_neg hb])) aX)) (aU (aB rfl) (aU (aB rfl) aY)))
 ·have h6 : (if x.a < 0 then 45 :: uS x.a.natAbs else uS x.a.natAbs).length ≤ (uS x.a.natAbs).length + 1 := by split <;> simp
  have h7:=Uy x
  refine cK (jL (fun (uu:Unit)=>True) (fun (uu:Unit)=>[(6,pZ ((if x.a < 0 then 45 :: uS x.a.natAbs else uS x.a.natAbs) ++ (if x.den = 1 then [] else 47 :: uS x.den)))]) (fun (uu:Unit)=>[box B2 49 [aC (decide (a < 0)),aE (a).natAbs],box B5 51 [aC (decide ((x).a < 0)),aE (x).a.natAbs,aC (decide ((x).b < 0)),aE (x).b.natAbs,aE (du (x))]]) ?_ (fun uu _=>?_))
  ·refine ts (ro rfl (eZ pL (Ht rfl) rfl) (ro rfl (eY A_47 Z_47 (Ht rfl) (i := 1) rfl rfl) (ro rfl (dG U_47 (Ht rfl) aA) (ro rfl (eC (Ht rfl) (cJ 0)) (eX (dQ (Ht rfl) (fun hb => ?_) (fun hb => ?_)))))))
   ·simp only [decide_eq_true_eq] at hb
    have h8:du x = x.den:=wF (fun e=>by rw [e,eI] at hb; simp at hb)
    have h9:x.den ≠ 1:=fun e=>by rw [du,if_pos e,eI] at hb; simp at hb
    have h10:=rA (du x)
    refine cY (rm rfl (ro rfl (eZ pL (Ht rfl) rfl) (ro rfl (eY A_47 Z_47 (Ht rfl) (i:=1) rfl rfl) (ro rfl (cZ Tryz.call249 (Gy zo) ⟨(Ht rfl),trivial⟩) (ro rfl (jW (bF.cS (l:=[47]) rfl) (Ht rfl) (by simp only [List.length_cons,List.length_nil]; omega)) ?_)))))
    refine ro rfl (jW (Ht rfl) (Ht rfl) (by simp only [List.length_append,List.length_cons,List.length_nil]; omega)) ?_
    refine ra rfl (eX (bC () trivial (aZ rfl (jE (by rw [if_neg h9,h8]; rfl)) aX) (cT.refl _)))
   ·simp only [decide_eq_false_iff_not] at hb
    have h9:x.den = 1:=yZ (aM.1 zo)
    refine cU (bC () trivial (aZ rfl (jE (by rw [if_pos h9,List.append_nil])) aX) (cT.refl _))
  ·refine ts (rm rfl (ra rfl (eX ?_)))
   exact fW rfl (eU rfl)
theorem Kt {x:Qi} {L:Nat} [hx:aD x L] (h:L ≤ 8796093022208):bB Tryz.prog 89 [aN x] (pZ (Rw x)):=by
 have hxa:=jI hx.fit; have hxb:=jR hx.fit; have hxd:=jJ hx.fit; have hdp:=x.den_pos
 have l1:=wQ x.a hdp; have l2:=wQ x.b hdp
 refine bB.intro Tryz.func89 rfl Tryz.ntmps89 rfl (fun cx=>(ts (rn rfl (fG (Ht rfl)) fun B1=>(ro rfl (cQ (bF.cS (l:=[]) rfl)) (eX (cK (ts (ro rfl (eJ A_51 Z_51 (Ht rfl) (i:=0) rfl rfl rfl) (ro rfl (cZ Tryz.call169 Fd ⟨(Ht rfl),trivial⟩) (eX (dQ (Ht rfl) (fun hb=>?_) (fun hb=>?_))))))))))))
 ·simp only [decide_eq_true_eq] at hb
  refine cK (fZ (m:=4) (dp 1 rfl (eZ gG (Ht rfl) rfl) (dq 6 0 rfl (eJ A_49 Z_49 (Ht rfl) (i:=0) rfl rfl rfl) (dp 1 rfl (eJ A_51 Z_51 (Ht rfl) (i:=0) rfl rfl rfl) (dq 8 2 rfl (cZ K_137 pG ⟨(Ht rfl),trivial⟩) (fV aO rfl (by kernel_rfl) (zF (aV (ro rfl (cZ Tryz.call188 (Kz (by assumption) zo zo) ⟨(Ht rfl),(Ht rfl),trivial⟩) ?_)))))))))
  refine ra rfl (eX (fW rfl (fX (eU rfl) ?_)))
  exact (jE (by rw [Rw,if_pos hb]))
 ·simp only [decide_eq_false_iff_not] at hb
  refine cU (cK (fZ (m:=4) (dp 1 rfl (eZ gW (Ht rfl) rfl) (dq 11 0 rfl (eJ A_49 Z_49 (Ht rfl) (i:=0) rfl rfl rfl) (dp 1 rfl (eJ A_51 Z_51 (Ht rfl) (i:=0) rfl rfl rfl) (dq 13 2 rfl (cZ K_137 pG ⟨(Ht rfl),trivial⟩) (fV aO rfl (by kernel_rfl) (zF (aV (ro rfl (cZ Tryz.call188 (Kz (by assumption) zo zo) ⟨(Ht rfl),(Ht rfl),trivial⟩) ?_))))))))))
  refine ro rfl (jW (Ht rfl) (bF.cS (l:=[105]) rfl) (by simp only [List.length_append,List.length_cons,List.length_nil]; omega)) ?_
  refine ra rfl (eX (cK (ts (ro rfl (eZ gG (Ht rfl) rfl) (ro rfl (eZ fL (Ht rfl) rfl) (ro rfl (eY A_47 Z_47 (Ht rfl) (i:=0) rfl rfl) (ro rfl (dG U_47 (Ht rfl) aA) (ro rfl (cR (Ht rfl) (cJ 0)) (eX (dQ (Ht rfl) (fun hc=>?_) (fun hc=>?_)))))))))))
  ·simp only [decide_eq_true_eq] at hc
   have ha:x.a = 0:=by have:=aM.1 hc; omega
   refine ts (rm rfl (ra rfl (eX (fW rfl (fX (eU rfl) ?_)))))
   exact (jE (by rw [Rw,if_neg hb,if_pos ha]))
  ·simp only [decide_eq_false_iff_not] at hc
   have ha:x.a ≠ 0:=fun e=>hc (by rw [e]; exact aM.2 rfl)
   refine cU (cK (jL (fun (uu:Unit)=>True) (fun (uu:Unit)=>[(1,dA B1 0),(3,pZ ((if x.b < 0 then tD x.b x.den else 43 :: tD x.b x.den) ++ [105]))]) (fun (uu:Unit)=>[box B1 51 [aC (decide ((x).a < 0)),aE (x).a.natAbs,aC (decide ((x).b < 0)),aE (x).b.natAbs,aE (du (x))]]) ?_ (fun uu _=>?_)))
   ·refine ts (ro rfl (eZ gW (Ht rfl) rfl) (ro rfl (eZ kY (Ht rfl) rfl) (ro rfl (eY A_4 Z_4 (Ht rfl) (i := 0) rfl rfl) (ro rfl (eT (Ht rfl)) (eX (dQ (Ht rfl) (fun hd => ?_) (fun hd => ?_)))))))
    ·have hn : ¬ x.b < 0 := by simpa using hd
     refine cY (rm rfl (ro rfl (jW (bF.cS (l:=[43]) rfl) (Ht rfl) (by simp only [List.length_append,List.length_cons,List.length_nil]; omega)) ?_))
     refine ra rfl (eX (bC () trivial (aQ rfl (aZ rfl (jE (by rw [if_neg hn]; rfl)) aX)) (aU (aB rfl) aY)))
    ·have hn : x.b < 0 := by simpa using hd
     refine cU (bC () trivial (aQ rfl (aZ rfl (jE (by rw [if_pos hn])) aX)) (aU (aB rfl) aY))
   ·have l3 : ((if x.b < 0 then tD x.b x.den else 43 :: tD x.b x.den) ++ [105]).length ≤ (tD x.b x.den).length + 2 := by split <;> simp
    refine cK (fZ (m:=6) (dp 1 rfl (eZ gG (Ht rfl) rfl) (dq 29 0 rfl (eJ A_49 Z_49 (Ht rfl) (i:=0) rfl rfl rfl) (dp 1 rfl (eJ A_51 Z_51 (Ht rfl) (i:=0) rfl rfl rfl) (dq 31 2 rfl (cZ K_137 pG ⟨(Ht rfl),trivial⟩) (cP 30 1 32 3 rfl (cZ Tryz.call188 (Kz (by assumption) zo zo) ⟨(Ht rfl),(Ht rfl),trivial⟩) ?_))))))
    refine dp 3 rfl (cX (Ht rfl)) (fV aO rfl (by kernel_rfl) (zF (aJ (aJ (aV (ro rfl (jW (Ht rfl) (Ht rfl) zo) (ra rfl (eX (fW rfl (fX (eU rfl) ?_))))))))))
    exact (jE (by rw [Rw,if_neg hb,if_neg ha]))
theorem Zj {r:Rt}:bB Tryz.prog 58 [Pr r] (aN r.q):=by
 have hr1:=r.h1; have hr2:=r.h2; have hr3:=r.h3; have hr4:=r.h4; have hr5:=r.d1; have hr6:=r.d2; have hr0:=r.d0
 refine bB.intro Tryz.func58 rfl Tryz.ntmps58 rfl (fun cx=>(ts (rn rfl (fG (Ht rfl)) fun B1=>(rn rfl (eW (Ts:=[Is (.bool false),Is (.slice none 0 0),Is (.bool false),Is (.slice none 0 0),Is (.slice none 0 0)]) O_51 rfl (fun V=>aW zd (aW zd (aW zd (aW zd (aW zd (aG))))))) fun B2=>(eX (cK (jL (fun (uu:Unit)=>True) (fun (uu:Unit)=>[(1,dA B1 0),(2,dA B2 0)]) (fun (uu:Unit)=>[box B1 102 [bD .i64 r.re,bD .i64 r.im,bD .i64 r.d],box B2 51 [Is (.bool false),Is (.slice none 0 0),Is (.bool false),Is (.slice none 0 0),Is (.slice none 0 0)]]) ?_ (fun uu _=>?_))))))))
 ·refine ts (ro rfl (eZ qG (Ht rfl) rfl) (ro rfl (eY A_2 Z_2 (Ht rfl) (i := 0) rfl rfl) (ro rfl (lH (Ht rfl) cV) (eX (dQ (Ht rfl) (fun hb => ?_) (fun hb => ?_))))))
  ·simp only [decide_eq_true_eq] at hb
   refine cY (ro rfl (eZ qG (Ht rfl) rfl) (kK Z_2 (Ht rfl) (cJ 1) (i:=0) rfl (aK rfl) rfl (eX (bC () trivial (zS rfl) (aU (aB (by rw [Rt.d,if_pos hb]; rfl)) (aU (aB rfl) aY))))))
  ·simp only [decide_eq_false_iff_not] at hb
   refine cU (bC () trivial (zS rfl) (aU (aB (by rw [Rt.d,if_neg hb])) (aU (aB rfl) aY)))
 ·refine ts (ro rfl (eZ Hx (Ht rfl) rfl) (ro rfl (eY A_2 Z_2 (Ht rfl) (i := 0) rfl rfl) (ro rfl (eZ Hy (Ht rfl) rfl) (ro rfl (eY A_2 Z_2 (Ht rfl) (i := 0) rfl rfl) (ro rfl (eZ qG (Ht rfl) rfl) (ro rfl (eY A_2 Z_2 (Ht rfl) (i := 0) rfl rfl) (ro rfl (cZ Tryz.call141 (a1k hr1 hr2 hr3 hr4 hr5 hr6 hr0) ⟨(Ht rfl), (Ht rfl), (Ht rfl), trivial⟩) (rm rfl (ro rfl (dK (Ht rfl) rfl) (ro rfl (dK (Ht rfl) rfl) (rn rfl (eW (Ts := [Is (.bool false), Is (.slice none 0 0), Is (.bool false), Is (.slice none 0 0), Is (.slice none 0 0)]) O_51 rfl (fun V => aW zd (aW zd (aW zd (aW zd (aW zd (aG))))))) fun B3 => ?_)))))))))))
  refine gQ Z_51 (Ht rfl) (Ht rfl) rfl (i:=2) rfl (aK rfl) rfl rfl (ra rfl (eX (ts (ro rfl (eJ A_51 Z_51 (Ht rfl) (i:=2) rfl rfl rfl) (gQ Z_51 (Ht rfl) (Ht rfl) rfl (i:=1) rfl (aK rfl) rfl rfl (eX ?_))))))
  exact fW rfl (fK A_51 Z_51 rfl (i:=1) rfl rfl)
theorem qB {l:List Rt} (hl:l.length ≤ 1000000):bB Tryz.prog 48 [rS l] (bN (l.map Rt.q)):=by
 refine bB.intro Tryz.func48 rfl Tryz.ntmps48 rfl (fun cx=>(ts (ro rfl (cQ cV) (eX (ts (rm rfl (ro rfl (dG U_22 (Ht rfl) aA) (rn rfl (lY (T:=aN Qi.zero) (i:=Tryz.t51) nS lO rfl rfl (Ht rfl) rfl kT (El.ag rfl) (by show 88 * _ ≤ _; omega) zo) fun B8=>(ra rfl (eX (cK (ts (rm rfl (ro rfl (dG U_22 (Ht rfl) aA) (ro rfl (cX (cJ 0)) (eX (eG ?_)))))))))))))))))
 refine gB (fun (k : Nat) (out : List Qi) => lJ (fun i => (l.getD i default).q) l.length out k) (fun (k : Nat) (out : List Qi) => l.length - k) (fun (k : Nat) (out : List Qi) => [(3, Is B8), (9, rS l), (10, NT .i64 l.length), (11, NT .i64 k)]) (fun (k : Nat) (out : List Qi) => [cD 51 5 B8 (out.map aN)]) 0 (List.replicate l.length Qi.zero) (lJ.start _ _ _)
  (zS rfl) (aU (cA (tG aN _ _)) aY) (fun k out hS=>?_)
 refine ts (ro rfl (gX (Ht rfl) (Ht rfl)) (eX (cK (dQ (Ht rfl) (fun hk=>?_) (fun hk=>?_)))))
 ·simp only [decide_eq_true_eq] at hk
  have hlen:=hS.len
  refine cU (cK (eG (ts (rm rfl (ro rfl (dZ U_22 Z_102 (Ht rfl) (Ht rfl) rfl (dY (dU (d:=default) hk))) (ro rfl (dJ A_102 Z_102 (Ht rfl)) (rn rfl (eW (Ts:=[Is (.int .i64 0),Is (.int .i64 0),Is (.int .i64 0)]) O_102 rfl (fun V=>aW zd (aW zd (aW zd (aG))))) fun B5=>(ra rfl (gQ Z_102 (Ht rfl) (Ht rfl) rfl (i:=1) rfl (aK rfl) rfl rfl (eX (cY (rm rfl (rm rfl (ro rfl (eJ A_102 Z_102 (Ht rfl) (i:=1) rfl rfl rfl) ?_))))))))))))))
  refine ro rfl (cZ Tryz.call58 Zj ⟨(Ht rfl),trivial⟩) (ro rfl (dB U_29 Z_51 (Ht rfl) (Ht rfl) rfl (i:=0) rfl (by first | omega | (simp; omega)) rfl) (kM Z_51 (Ht rfl) (Ht rfl) (El.ag rfl) (i:=0) rfl rfl (by first | omega | (simp; omega)) rfl (eX (bA (cY (ro rfl (dV (Ht rfl) (cJ 1) z6) (rm rfl (eX (cH [0] rfl (by decide) (fU (k + 1,_) (hS.next hk rfl) (by dsimp only; omega) (zS rfl) (aU (cA (fI aN _ _ _)) aY)))))))))))
 ·simp only [decide_eq_false_iff_not] at hk
  obtain rfl:k = l.length:=Nat.le_antisymm hS.kle zo
  have hfin:=hS.fin
  rw [By l Rt.q] at hfin
  refine gV rfl (gJ (i:=0) (tt:=3) rfl rfl kH (ts (rm rfl (ra rfl (eX (fW rfl (fX (eU rfl) ?_)))))))
  exact (kF (by rw [hfin]))
end
section
open Go Go.RowKit
theorem nU (ds:List Nat) (hd:kG ds) (hl:ds.length ≤ 1152921504606846976):bB Tryz.prog 267 [uY ds] (aE (val ds)):=by
 refine bB.intro Tryz.func267 rfl Tryz.ntmps267 rfl (fun cx=>(ts (ro rfl (cQ cV) (eX (ts (rm rfl (ro rfl (dG U_46 (Ht rfl) aA) (ra rfl (eX (cK (eG ?_)))))))))))
 refine bS (fun (k : Nat) => k ≤ ds.length ∧ ∀ i, k ≤ i → i < ds.length → ds.getD i 0 = 0) (fun (k : Nat) => k) (fun (k : Nat) => [(0, uY ds), (3, NT .i64 k)]) (fun (k : Nat) => []) ds.length ⟨Nat.le_refl _, fun i h1 h2 => by omega⟩
  (zS rfl) aY (fun k ⟨hk,hz⟩=>?_)
 refine cK (ts (rm rfl (ro rfl (eC (Ht rfl) (cJ 0)) (rm rfl (fQ rfl rfl (eK rfl rfl (Ht rfl) (fun h=>cX (Ht rfl))) (fQ rfl rfl (eK rfl rfl (Ht rfl) (fun h=>cX (Ht rfl))) (fQ rfl rfl (eK rfl rfl (Ht rfl) (fun h=>dW (fJ rfl h) (cJ 1) (by first | omega | (simp at h; omega)) (by show _ < 9223372036854775808; first | omega | (simp at h; omega)))) (fQ rfl rfl (eK rfl rfl (Ht rfl) (fun h=>dZ U_46 Z_189 (fJ rfl h) (fJ rfl h) rfl (dY (aF (by first | omega | (simp at h; omega)))))) ?_))))))))
 refine fQ rfl rfl (eK rfl rfl (Ht rfl) (fun h=>dJ A_189 Z_189 (fJ rfl h))) (fQ rfl rfl (eK rfl rfl (Ht rfl) (fun h=>cR (fJ rfl h) (cJ 0))) (ro rfl (fE (Ht rfl) (fun h=>(fJ rfl h))) (eX (dQ (Ht rfl) (fun hb=>?_) (fun hb=>?_)))))
 ·simp at hb
  refine cU (eG (cY (rm rfl (ro rfl (dW (Ht rfl) (cJ 1) zo z6) (ra rfl (eX (bA (fU (k - 1) ⟨by omega,fun i h1 h2=>?_⟩ zo (zS rfl) aY))))))))
  by_cases e2:i = k - 1
  ·subst e2; simpa using hb.2
  ·exact hz i zo h2
 ·have hn : k = 0 ∨ ds.getD (k - 1) 0 ≠ 0 := by
   simp only [Bool.and_eq_false_iff,decide_eq_false_iff_not] at hb
   rcases hb with h1 | h1
   ·left; omega
   ·right; exact h1
  have hfin:=Nm hd hk hz hn
  refine gV rfl (ts (rm rfl (rm rfl (ro rfl (qO U_46 Z_189 (Ht rfl) (Ht rfl) (fun m e=>by cases e) zo (by simp; omega) rfl) ?_))))
  refine ra rfl (eX (fW rfl (fX (eU rfl) ?_)))
  exact (Hw (by rw [hfin]; simp))
theorem An {m:Nat} (hm:m < 18446744073709551616):bB Tryz.prog 268 [NT .u64 m] (aE m):=by
 refine bB.intro Tryz.func268 rfl Tryz.ntmps268 rfl (fun cx=>(ts (ro rfl (cQ cV) (eX (ts (rm rfl (ro rfl (fM rfl U_254 U_189 (Ht rfl)) (rm rfl (ro rfl (eP (Ht rfl) (cJ 32) (by decide)) (ro rfl (fM rfl U_254 U_189 (Ht rfl)) (ro rfl (dN (xs:=[.tmp 4,.tmp 7]) U_46 Z_189 O_189 (cW (Ht rfl) (cW (Ht rfl) cG)) rfl rfl rfl) (ro rfl (cZ K_267 (nU [m % 4294967296,m / 2 ^ 32 % 4294967296] (a3y _ _) (by simp)) ⟨(Ht rfl),trivial⟩) ?_))))))))))))
 refine ra rfl (eX (fW rfl (fX (eU rfl) ?_)))
 exact (dF (Eb hm))
theorem Di {m n:Nat} (hm:(dg m).length ≤ 1152921504606846976) (hn:(dg n).length ≤ 1152921504606846976):bB Tryz.prog 237 [aE m,aE n] (bD .i64 (pV m n)):=by
 refine bB.intro Tryz.func237 rfl Tryz.ntmps237 rfl (fun cx=>(ts (ro rfl (cQ (cJ 0)) (eX (cK (ts (rm rfl (ro rfl (dG U_46 (Ht rfl) aA) (rm rfl (ro rfl (dG U_46 (Ht rfl) aA) (ro rfl (eO (Ht rfl) (Ht rfl)) (eX (dQ (Ht rfl) (fun hb=>?_) (fun hb=>?_))))))))))))))
 ·simp at hb
  refine cK (ts (rm rfl (ro rfl (dG U_46 (Ht rfl) aA) (rm rfl (ro rfl (dG U_46 (Ht rfl) aA) (ro rfl (gX (Ht rfl) (Ht rfl)) (eX (dQ (Ht rfl) (fun hb2=>?_) (fun hb2=>?_)))))))))
  ·simp at hb2
   have hlt:=Fo hb2
   refine ts (ro rfl (cQ cV) (eX (fW rfl (fX (eU rfl) ?_))))
   exact (aR (by simp [pV,hlt]))
  ·simp at hb2
   have hlt:=Fo (a:=n) (b:=m) zo
   refine cU (ts (ro rfl (cQ (cJ 1)) (eX (fW rfl (fX (eU rfl) ?_)))))
   exact (aR (by simp [pV,hlt,Nat.lt_asymm hlt]))
 ·simp at hb
  refine cU (cK (ts (rm rfl (ro rfl (dG U_46 (Ht rfl) aA) (ro rfl (iL (Ht rfl) cV (Ch zo)) (ra rfl (eX (eG ?_))))))))
  refine bS (fun (k : Nat) => k ≤ (dg m).length ∧ ∀ i, k ≤ i → i < (dg m).length → (dg m).getD i 0 = (dg n).getD i 0) (fun (k : Nat) => k) (fun (k : Nat) => [(0, aE m), (1, aE n), (5, bD .i64 ((k : Int) - 1))]) (fun (k : Nat) => []) (dg m).length ⟨Nat.le_refl _, fun i h1 h2 => by omega⟩
   (zS rfl) aY (fun k ⟨hk,he⟩=>?_)
  refine cK (ts (rm rfl (ro rfl (lT (Ht rfl) cV) (eX (dQ (Ht rfl) (fun hk1=>?_) (fun hk1=>?_))))))
  ·simp at hk1
   refine cU (cK (eG (cK (fZ (m:=8) (dp 0 rfl (cX (Ht rfl)) (dp 5 rfl (cX (Ht rfl)) (cP 23 0 24 1 rfl (dZ U_46 Z_189 (Ht rfl) (Ht rfl) (show ((k:Int) - 1) = ((k - 1:Nat):Int) by omega) (dY (aF zo))) (dq 25 2 rfl (dJ A_189 Z_189 (Ht rfl)) (dp 1 rfl (cX (Ht rfl)) (dp 5 rfl (cX (Ht rfl)) (cP 27 4 28 5 rfl (dZ U_46 Z_189 (Ht rfl) (Ht rfl) (show ((k:Int) - 1) = ((k - 1:Nat):Int) by omega) (dY (aF zo))) (dq 29 6 rfl (dJ A_189 Z_189 (Ht rfl)) ?_))))))))))))
   refine fV aO rfl (by kernel_rfl) (zF (zF (aV (ro rfl (eO (Ht rfl) (Ht rfl)) (eX (dQ (Ht rfl) (fun h1=>?_) (fun h1=>?_)))))))
   ·simp only [Bool.not_eq_true', decide_eq_false_iff_not] at h1
    refine cK (cK (fZ (m:=8) (dp 0 rfl (cX (Ht rfl)) (dp 5 rfl (cX (Ht rfl)) (cP 32 0 33 1 rfl (dZ U_46 Z_189 (Ht rfl) (Ht rfl) (show ((k:Int) - 1) = ((k - 1:Nat):Int) by omega) (dY (aF zo))) (dq 34 2 rfl (dJ A_189 Z_189 (Ht rfl)) (dp 1 rfl (cX (Ht rfl)) (dp 5 rfl (cX (Ht rfl)) (cP 36 4 37 5 rfl (dZ U_46 Z_189 (Ht rfl) (Ht rfl) (show ((k:Int) - 1) = ((k - 1:Nat):Int) by omega) (dY (aF zo))) (dq 38 6 rfl (dJ A_189 Z_189 (Ht rfl)) ?_))))))))))
    refine fV aO rfl (by kernel_rfl) (zF (zF (aV (ro rfl (gX (Ht rfl) (Ht rfl)) (eX (dQ (Ht rfl) (fun h2=>?_) (fun h2=>?_)))))))
    ·simp only [decide_eq_true_eq] at h2
     have hlt:=yW (bH m) (bH n) hb (k:=k - 1) zo (fun i h2 h3=>he i zo h3) h2
     rw [cO,cO] at hlt
     refine ts (ro rfl (cQ cV) (eX (fW rfl (fX (eU rfl) ?_))))
     exact (aR (by simp [pV,hlt]))
    ·simp only [decide_eq_false_iff_not] at h2
     have hlt:=yW (bH n) (bH m) hb.symm (k:=k - 1) zo (fun i h2 h3=>(he i zo zo).symm) zo
     rw [cO,cO] at hlt
     refine cU (ts (ro rfl (cQ (cJ 1)) (eX (fW rfl (fX (eU rfl) ?_)))))
     exact (aR (by simp [pV,hlt,Nat.lt_asymm hlt]))
   ·simp only [Bool.not_eq_false', decide_eq_true_eq] at h1
    refine cU (bA (cY (rm rfl (ro rfl (iL (Ht rfl) cV (Ch zo)) (ra rfl (eX (fU (k - 1) ⟨by omega,fun i h3 h4=>(by by_cases e:i = k - 1; (· subst e; omega); exact he i zo h4)⟩ zo (aQ rfl (aQ rfl (aZ rfl (aR zo) aX))) aY)))))))
  ·simp at hk1
   have hk0:k = 0:=by omega
   have heq : m = n := by
    have : dg m = dg n := by
     apply List.ext_getElem?
     intro i
     by_cases hi:i < (dg m).length
     ·have h5 := he i zo hi
      have h6:i < (dg n).length:=by omega
      simp [List.getD,hi,h6] at h5
      simp [hi,h6,h5]
     ·rw [List.getElem?_eq_none zo,List.getElem?_eq_none zo]
    rw [← cO m,this,cO]
   refine gV rfl (ts (ro rfl (cQ (cJ 0)) (eX (fW rfl (fX (eU rfl) ?_)))))
   exact (aR (by simp [pV,heq]))
theorem Pz {m n:Nat} (hm:(dg m).length ≤ 17592186044416) (hn:(dg n).length ≤ 17592186044416):bB Tryz.prog 269 [aE m,aE n] (aE (m + n)):=by
 refine bB.intro Tryz.func269 rfl Tryz.ntmps269 rfl (fun cx=>(ts (ro rfl (cQ cV) (eX (cK (pF (fun (p:Nat) (q:Nat)=>p + q = m + n ∧ (dg q).length ≤ (dg p).length ∧ (dg p).length ≤ 17592186044416) (fun (p:Nat) (q:Nat)=>[(0,aE p),(1,aE q)]) (fun (p:Nat) (q:Nat)=>[]) ?_ (fun p q ⟨hpq,hle,hlp⟩=>?_)))))))
 ·refine ts (rm rfl (ro rfl (dG U_46 (Ht rfl) aA) (rm rfl (ro rfl (dG U_46 (Ht rfl) aA) (ro rfl (gX (Ht rfl) (Ht rfl)) (eX (dQ (Ht rfl) (fun hb => ?_) (fun hb => ?_))))))))
  ·simp at hb
   refine cY (rm rfl (rm rfl (ra rfl (ra rfl (eX (bC (n,m) ⟨Nat.add_comm _ _,Nat.le_of_lt hb,hn⟩ (zS rfl) aY))))))
  ·simp at hb
   refine cU (bC (m,n) ⟨rfl,hb,hm⟩ (zS rfl) aY)
 ·refine ts (rm rfl (ro rfl (dG U_46 (Ht rfl) aA) (ro rfl (dV (Ht rfl) (cJ 1) z6) (rn rfl (eE (T := cB 0) (i := Tryz.t189) V_46 iE rfl rfl (Ht rfl) rfl (fun _ => rfl) trivial (by show 4 * _ ≤ _; omega) zo) fun B19 => (ra rfl (eX (ts (ro rfl (cQ (cJ 0)) (eX (cK (ts (ro rfl (cQ (cJ 0)) (eX (eG ?_))))))))))))))
  refine iS (fun (k : Nat) (out : List Nat) (c : Nat) => yQ (dg p) (dg q) out k c) (fun (k : Nat) (out : List Nat) (c : Nat) => (dg p).length - k) (fun (k : Nat) (out : List Nat) (c : Nat) => [(0, aE p), (1, aE q), (5, Is (.slice (some ⟨B19, 0, none⟩) ((dg p).length + 1) ((dg p).length + 1))), (6, NT .u64 c), (7, NT .i64 k)]) (fun (k : Nat) (out : List Nat) (c : Nat) => [box B19 189 (out.map cB)]) 0 (List.replicate ((dg p).length + 1) 0) 0 (yQ.start _ _)
   (zS rfl) (aU (aB (kJ _)) aY) (fun k out c hS=>?_)
  refine cK (ts (rm rfl (rm rfl (ro rfl (dG U_46 (Ht rfl) aA) (ro rfl (gX (Ht rfl) (Ht rfl)) (eX (dQ (Ht rfl) (fun hb=>?_) (fun hb=>?_))))))))
  ·simp at hb
   have hlen:=hS.len; have hcl:=hS.cle; have hxk:=aP (bH p) k; have hyk:=aP (bH q) k
   simp only [BB] at hxk hyk
   refine cU (cK (eG (ts (rm rfl (rm rfl (ro rfl (dZ U_46 Z_189 (Ht rfl) (Ht rfl) rfl (dY (aF zo))) (ro rfl (dJ A_189 Z_189 (Ht rfl)) (ro rfl (gZ U_189 U_254 (Ht rfl) z7) (rm rfl (ro rfl (dV (Ht rfl) (Ht rfl) z7) (ra rfl (eX (cK (jL (fun (s:Nat)=>s = (dg p).getD k 0 + (dg q).getD k 0 + c) (fun (s:Nat)=>[(0,aE p),(1,aE q),(5,Is (.slice (some ⟨B19,0,none⟩) ((dg p).length + 1) ((dg p).length + 1))),(7,NT .i64 k),(8,NT .u64 s)]) (fun (s:Nat)=>[box B19 189 (out.map cB)]) ?_ (fun s hs=>?_)))))))))))))))
   ·refine ts (rm rfl (rm rfl (ro rfl (dG U_46 (Ht rfl) aA) (ro rfl (gX (Ht rfl) (Ht rfl)) (eX (dQ (Ht rfl) (fun hk2 => ?_) (fun hk2 => ?_)))))))
    ·simp at hk2
     refine cY (rm rfl (rm rfl (rm rfl (ro rfl (dZ U_46 Z_189 (Ht rfl) (Ht rfl) rfl (dY (aF zo))) (ro rfl (dJ A_189 Z_189 (Ht rfl)) (ro rfl (gZ U_189 U_254 (Ht rfl) z7) (ro rfl (dV (Ht rfl) (Ht rfl) z7) (ra rfl (eX (bC ((dg p).getD k 0 + c + (dg q).getD k 0) zo (zS rfl) (cT.refl _)))))))))))
    ·simp at hk2
     have hq0:(dg q).getD k 0 = 0:=by simp [List.getD,List.getElem?_eq_none hk2]
     refine cU (bC ((dg p).getD k 0 + c) zo (zS rfl) (cT.refl _))
   ·refine ts (rm rfl (rm rfl (rm rfl (ro rfl (fM rfl U_254 U_189 (Ht rfl)) (ro rfl (fY U_46 Z_189 (Ht rfl) (Ht rfl) rfl zo (by rw [Nat.mul_one, Nat.zero_add])) ?_)))))
    refine kK Z_189 (Ht rfl) (Ht rfl) (i:=0) rfl (by first | omega | (simp; omega)) rfl (eX (cY (rm rfl (ro rfl (eP (Ht rfl) (cJ 32) (by decide)) (ra rfl (eX (bA (cY (rm rfl (ro rfl (dV (Ht rfl) (cJ 1) z6) (ra rfl (eX (fU (k + 1,out.set k (s % 4294967296),s / 4294967296) (by show yQ _ _ (out.set k (s % 4294967296)) (k + 1) (s / 4294967296); rw [hs]; exact hS.next (bH p) (bH q) hb) (by dsimp only; omega) (zS rfl) (aU (aB (fF _ _ _)) aY))))))))))))))
  ·simp at hb
   have hkl:k = (dg p).length:=Nat.le_antisymm hS.kle hb
   subst hkl
   have hlen:=hS.len; have hcl:=hS.cle
   refine gV rfl (ts (rm rfl (rm rfl (ro rfl (dG U_46 (Ht rfl) aA) (rm rfl (ro rfl (gZ U_254 U_189 (Ht rfl) (by show _ < 4294967296; first | omega | (simp only [lF]; omega))) (ro rfl (fY U_46 Z_189 (Ht rfl) (Ht rfl) rfl zo (by rw [Nat.mul_one,Nat.zero_add])) ?_)))))))
   refine kK Z_189 (Ht rfl) (Ht rfl) (i:=0) rfl (by first | omega | (simp; omega)) rfl (eX (cK ?_))
   have hfin:=hS.fin hle
   refine gJ (i:=0) (tt:=5) rfl rfl (lE (fF _ _ _) (by simp [hlen]) (Nat.le_refl _)) ?_
   refine cY (rm rfl (ro rfl (cZ K_267 (nU _ (jT hS.dig (by simp only [BB]; omega)) (by simp [hlen]; omega)) ⟨(Ht rfl),trivial⟩) ?_))
   refine ra rfl (eX (fW rfl (fX (eU rfl) ?_)))
   exact (dF (by rw [hfin,cO,cO]; exact hpq))
theorem Dj {m n:Nat} (hm:(dg m).length ≤ 17592186044416) (hnm:n ≤ m):bB Tryz.prog 270 [aE m,aE n] (aE (m - n)):=by
 have hle:=gO hnm
 refine bB.intro Tryz.func270 rfl Tryz.ntmps270 rfl (fun cx=>(ts (ro rfl (cQ cV) (eX (ts (rm rfl (ro rfl (dG U_46 (Ht rfl) aA) (rn rfl (eE (T:=cB 0) (i:=Tryz.t189) V_46 iE rfl rfl (Ht rfl) rfl (fun _=>rfl) trivial (by show 4 * _ ≤ _; omega) zo) fun B11=>(ra rfl (eX (ts (ro rfl (cQ (cJ 0)) (eX (cK (ts (ro rfl (cQ (cJ 0)) (eX (eG ?_))))))))))))))))))
 refine iS (fun (k : Nat) (out : List Nat) (c : Nat) => yT (dg m) (dg n) out k c) (fun (k : Nat) (out : List Nat) (c : Nat) => (dg m).length - k) (fun (k : Nat) (out : List Nat) (c : Nat) => [(0, aE m), (1, aE n), (5, Is (.slice (some ⟨B11, 0, none⟩) (dg m).length (dg m).length)), (6, NT .u64 c), (7, NT .i64 k)]) (fun (k : Nat) (out : List Nat) (c : Nat) => [box B11 189 (out.map cB)]) 0 (List.replicate (dg m).length 0) 0 (yT.start _ _)
  (zS rfl) (aU (aB (kJ _)) aY) (fun k out c hS=>?_)
 refine cK (ts (rm rfl (rm rfl (ro rfl (dG U_46 (Ht rfl) aA) (ro rfl (gX (Ht rfl) (Ht rfl)) (eX (dQ (Ht rfl) (fun hb=>?_) (fun hb=>?_))))))))
 ·simp at hb
  have hlen:=hS.len; have hcl:=hS.cle; have hxk:=aP (bH m) k; have hyk:=aP (bH n) k
  simp only [BB] at hxk hyk
  refine cU (cK (eG (ts (rm rfl (rm rfl (ro rfl (dZ U_46 Z_189 (Ht rfl) (Ht rfl) rfl (dY (aF zo))) (ro rfl (dJ A_189 Z_189 (Ht rfl)) (ro rfl (gZ U_189 U_254 (Ht rfl) z7) (rm rfl (ro rfl (lP rfl (Ht rfl) (Ht rfl) (by show _ ≤ 18446744073709551616; first | omega | (simp only [lF]; omega))) (ra rfl (eX (cK (jL (fun (s:Nat)=>s = (((dg m).getD k 0 + 18446744073709551616 - c) % 18446744073709551616 + 18446744073709551616 - (dg n).getD k 0) % 18446744073709551616) (fun (s:Nat)=>[(0,aE m),(1,aE n),(5,Is (.slice (some ⟨B11,0,none⟩) (dg m).length (dg m).length)),(7,NT .i64 k),(8,NT .u64 s)]) (fun (s:Nat)=>[box B11 189 (out.map cB)]) ?_ (fun s hs=>?_)))))))))))))))
  ·refine ts (rm rfl (rm rfl (ro rfl (dG U_46 (Ht rfl) aA) (ro rfl (gX (Ht rfl) (Ht rfl)) (eX (dQ (Ht rfl) (fun hk2 => ?_) (fun hk2 => ?_)))))))
   ·simp at hk2
    refine cY (rm rfl (rm rfl (rm rfl (ro rfl (dZ U_46 Z_189 (Ht rfl) (Ht rfl) rfl (dY (aF zo))) (ro rfl (dJ A_189 Z_189 (Ht rfl)) (ro rfl (gZ U_189 U_254 (Ht rfl) z7) (ro rfl (lP rfl (Ht rfl) (Ht rfl) (by show _ ≤ 18446744073709551616; first | omega | (simp only [lF]; omega))) (ra rfl (eX (bC _ rfl (zS rfl) (cT.refl _)))))))))))
   ·simp at hk2
    have hq0:(dg n).getD k 0 = 0:=by simp [List.getD,List.getElem?_eq_none hk2]
    refine cU (bC (((dg m).getD k 0 + 18446744073709551616 - c) % 18446744073709551616) zo (zS rfl) (cT.refl _))
  ·refine ts (rm rfl (rm rfl (rm rfl (ro rfl (fM rfl U_254 U_189 (Ht rfl)) (ro rfl (fY U_46 Z_189 (Ht rfl) (Ht rfl) rfl zo (by rw [Nat.mul_one, Nat.zero_add])) ?_)))))
   refine kK Z_189 (Ht rfl) (Ht rfl) (i:=0) rfl (by first | omega | (simp; omega)) rfl (eX (cY (rm rfl (ro rfl (eP (Ht rfl) (cJ 63) (by decide)) (ra rfl (eX (bA (cY (rm rfl (ro rfl (dV (Ht rfl) (cJ 1) z6) (ra rfl (eX ?_))))))))))))
   refine fU (k + 1, out.set k (s % 4294967296), s / 9223372036854775808) (by
     show yT _ _ (out.set k (s % 4294967296)) (k + 1) (s / 9223372036854775808)
     have h1:=hS.next (bH m) (bH n) hb
     rw [← show s % 4294967296 = ((dg m).getD k 0 + 8589934592 - (dg n).getD k 0 - c) % 4294967296 by omega,← show s / 9223372036854775808 = (if (dg m).getD k 0 < (dg n).getD k 0 + c then 1 else 0) by (split <;> omega)] at h1
     exact h1) (by dsimp only; omega) (zS rfl) (aU (aB (fF _ _ _)) aY)
 ·simp at hb
  have hkl:k = (dg m).length:=Nat.le_antisymm hS.kle hb
  subst hkl
  have hlen:=hS.len
  have hfin:=hS.fin (bH m) hle (by rw [cO,cO]; exact hnm)
  rw [cO,cO] at hfin
  refine gV rfl (gJ (i:=0) (tt:=5) rfl rfl (lE rfl hlen.symm (Nat.le_refl _)) (ts (rm rfl (ro rfl (cZ K_267 (nU _ hS.dig zo) ⟨(Ht rfl),trivial⟩) (ra rfl (eX (fW rfl (fX (eU rfl) ?_))))))))
  exact (dF hfin)
theorem tU {m n:Nat} (hm:(dg m).length ≤ 17592186044416) (hn:(dg n).length ≤ 17592186044416):bB Tryz.prog 226 [aE m,aE n] (aE (m * n)):=by
 refine bB.intro Tryz.func226 rfl Tryz.ntmps226 rfl (fun cx=>(ts (ro rfl (cQ cV) (eX (ts (rm rfl (ro rfl (dG U_46 (Ht rfl) aA) (rm rfl (ro rfl (dG U_46 (Ht rfl) aA) (ro rfl (dV (Ht rfl) (Ht rfl) z6) (rn rfl (eE (T:=cB 0) (i:=Tryz.t189) V_46 iE rfl rfl (Ht rfl) rfl (fun _=>rfl) trivial (by show 4 * _ ≤ _; omega) zo) fun B15=>(ra rfl (eX (cK (ts (ro rfl (cQ (cJ 0)) (eX (eG ?_))))))))))))))))))
 refine gB (fun (i : Nat) (out : List Nat) => Ab (dg m) (dg n) out i) (fun (i : Nat) (out : List Nat) => (dg m).length - i) (fun (i : Nat) (out : List Nat) => [(0, aE m), (1, aE n), (5, Is (.slice (some ⟨B15, 0, none⟩) ((dg m).length + (dg n).length) ((dg m).length + (dg n).length))), (6, NT .i64 i)]) (fun (i : Nat) (out : List Nat) => [box B15 189 (out.map cB)]) 0 (List.replicate ((dg m).length + (dg n).length) 0) (Ab.start _ _)
  (zS rfl) (aU (aB (kJ _)) aY) (fun i out hS=>?_)
 refine cK (ts (rm rfl (rm rfl (ro rfl (dG U_46 (Ht rfl) aA) (ro rfl (gX (Ht rfl) (Ht rfl)) (eX (dQ (Ht rfl) (fun hb=>?_) (fun hb=>?_))))))))
 ·simp at hb
  have hxi:=aP (bH m) i
  simp only [BB] at hxi
  refine cU (cK (eG (ts (ro rfl (cQ (cJ 0)) (eX (cK (ts (ro rfl (cQ (cJ 0)) (eX (eG ?_))))))))))
  refine iS (fun (k : Nat) (out2 : List Nat) (c : Nat) => Gn (dg m) (dg n) out2 i k c) (fun (k : Nat) (out2 : List Nat) (c : Nat) => (dg n).length - k) (fun (k : Nat) (out2 : List Nat) (c : Nat) => [(0, aE m), (1, aE n), (5, Is (.slice (some ⟨B15, 0, none⟩) ((dg m).length + (dg n).length) ((dg m).length + (dg n).length))), (6, NT .i64 i), (7, NT .u64 c), (8, NT .i64 k)]) (fun (k : Nat) (out2 : List Nat) (c : Nat) => [box B15 189 (out2.map cB)]) 0 out 0 (hS.row hb)
   (zS rfl) (cT.refl _) (fun k out2 c hR=>?_)
  refine cK (ts (rm rfl (rm rfl (ro rfl (dG U_46 (Ht rfl) aA) (ro rfl (gX (Ht rfl) (Ht rfl)) (eX (dQ (Ht rfl) (fun hk=>?_) (fun hk=>?_))))))))
  ·simp at hk
   have hlen:=hR.len; have hcl:=hR.clt; have hyk:=aP (bH n) k; have hok:=aP hR.dig (i + k)
   have hbnd:=uE (aP (bH m) i) (aP (bH n) k) (aP hR.dig (i + k)) hR.clt
   simp only [BB] at hcl hyk hok hbnd
   refine cU (cK (eG (cK (fZ (m:=20) (dp 0 rfl (cX (Ht rfl)) (dp 6 rfl (cX (Ht rfl)) (cP 28 0 29 1 rfl (dZ U_46 Z_189 (Ht rfl) (Ht rfl) rfl (dY (aF zo))) (dq 30 2 rfl (dJ A_189 Z_189 (Ht rfl)) (dq 31 3 rfl (gZ U_189 U_254 (Ht rfl) z7) (dp 1 rfl (cX (Ht rfl)) (dp 8 rfl (cX (Ht rfl)) (cP 33 5 34 6 rfl (dZ U_46 Z_189 (Ht rfl) (Ht rfl) rfl (dY (aF zo))) ?_))))))))))))
   refine dq 35 7 rfl (dJ A_189 Z_189 (Ht rfl)) (dq 36 8 rfl (gZ U_189 U_254 (Ht rfl) z7) (cP 32 4 37 9 rfl (kZ (Ht rfl) (Ht rfl) z7) (dp 5 rfl (cX (Ht rfl)) (dp 6 rfl (cX (Ht rfl)) (dp 8 rfl (cX (Ht rfl)) (cP 40 12 41 13 rfl (dV (Ht rfl) (Ht rfl) z6) (cP 39 11 42 14 rfl (fY U_46 Z_189 (Ht rfl) (Ht rfl) rfl zo (by rw [Nat.mul_one,Nat.zero_add])) ?_)))))))
   refine dq 43 15 rfl (eY A_189 Z_189 (Ht rfl) (i:=0) rfl (dY (aF zo))) (dq 44 16 rfl (gZ U_189 U_254 (Ht rfl) z7) (cP 38 10 45 17 rfl (dV (Ht rfl) (Ht rfl) z7) (dp 7 rfl (cX (Ht rfl)) (fV aO rfl (by kernel_rfl) (zF (zF (zF (zF (zF (aV ?_))))))))))
   refine ro rfl (dV (Ht rfl) (Ht rfl) z7) (ra rfl (eX (ts (rm rfl (rm rfl (rm rfl (ro rfl (dV (Ht rfl) (Ht rfl) z6) (rm rfl (ro rfl (fM rfl U_254 U_189 (Ht rfl)) (ro rfl (fY U_46 Z_189 (Ht rfl) (Ht rfl) rfl zo (by rw [Nat.mul_one,Nat.zero_add])) ?_))))))))))
   refine kK Z_189 (Ht rfl) (Ht rfl) (i:=0) rfl (by first | omega | (simp; omega)) rfl (eX (cY (rm rfl (ro rfl (eP (Ht rfl) (cJ 32) (by decide)) (ra rfl (eX (bA (cY (rm rfl (ro rfl (dV (Ht rfl) (cJ 1) z6) (ra rfl (eX (fU (k + 1,_,_) (hR.next (bH m) (bH n) hk (Nat.add_comm _ _)) (by dsimp only; omega) (zS rfl) (aU (aB (fF _ _ _)) aY))))))))))))))
  ·simp at hk
   have hkl:k = (dg n).length:=Nat.le_antisymm hR.kle hk
   subst hkl
   have hlen:=hR.len; have hcl:=hR.clt
   simp only [BB] at hcl
   refine gV rfl (cY (rm rfl (rm rfl (rm rfl (ro rfl (dG U_46 (Ht rfl) aA) (ro rfl (dV (Ht rfl) (Ht rfl) z6) (rm rfl (ro rfl (gZ U_254 U_189 (Ht rfl) (by show _ < 4294967296; first | omega | (simp only [lF]; omega))) (ro rfl (fY U_46 Z_189 (Ht rfl) (Ht rfl) rfl zo (by rw [Nat.mul_one,Nat.zero_add])) ?_)))))))))
   refine kK Z_189 (Ht rfl) (Ht rfl) (i:=0) rfl (by first | omega | (simp; omega)) rfl (eX (bA (cY (rm rfl (ro rfl (dV (Ht rfl) (cJ 1) z6) (ra rfl (eX (fU (i + 1,_) (hR.fin) (by dsimp only; omega) (zS rfl) (aU (aB (fF _ _ _)) aY)))))))))
 ·simp at hb
  have hkl:i = (dg m).length:=Nat.le_antisymm hS.ile hb
  subst hkl
  have hlen:=hS.len
  have hfin:=hS.fin
  rw [cO,cO] at hfin
  refine gV rfl (gJ (i:=0) (tt:=5) rfl rfl (lE rfl hlen.symm (Nat.le_refl _)) (ts (rm rfl (ro rfl (cZ K_267 (nU _ hS.dig zo) ⟨(Ht rfl),trivial⟩) (ra rfl (eX (fW rfl (fX (eU rfl) ?_))))))))
  exact (dF hfin)
theorem Hd {m y:Nat} (hm:(dg m).length ≤ 17592186044416) (hy:0 < y) (hyb:y < BB):bB Tryz.prog 281 [aE m,cB y] (fH [aE (m / y),cB (m % y)]):=by
 refine bB.intro Tryz.func281 rfl Tryz.ntmps281 rfl (fun cx=>?_)
 have hyb2:=hyb
 simp only [BB] at hyb2
 refine ts (ro rfl (cQ cV) (ro rfl (cQ (cJ 0)) (eX (ts (rm rfl (ro rfl (dG U_46 (Ht rfl) aA) (rn rfl (eE (T:=cB 0) (i:=Tryz.t189) V_46 iE rfl rfl (Ht rfl) rfl (fun _=>rfl) trivial (by show 4 * _ ≤ _; omega) zo) fun B12=>(ra rfl (eX (ts (ro rfl (cQ (cJ 0)) (eX (cK (ts (rm rfl (ro rfl (dG U_46 (Ht rfl) aA) (ro rfl (iL (Ht rfl) cV (Ch zo)) (ra rfl (eX (eG ?_))))))))))))))))))))
 refine iS (fun (k : Nat) (out : List Nat) (r : Nat) => oI (dg m) y out k r) (fun (k : Nat) (out : List Nat) (r : Nat) => k) (fun (k : Nat) (out : List Nat) (r : Nat) => [(0, aE m), (1, cB y), (6, Is (.slice (some ⟨B12, 0, none⟩) (dg m).length (dg m).length)), (7, NT .u64 r), (8, bD .i64 ((k : Int) - 1))]) (fun (k : Nat) (out : List Nat) (r : Nat) => [box B12 189 (out.map cB)]) (dg m).length (List.replicate (dg m).length 0) 0 (oI.start _ hy)
  (zS rfl) (aU (aB (kJ _)) aY) (fun k out r hS=>?_)
 refine cK (ts (rm rfl (ro rfl (lT (Ht rfl) cV) (eX (dQ (Ht rfl) (fun hb=>?_) (fun hb=>?_))))))
 ·simp at hb
  have hlen:=hS.len; have hkl:=hS.kle; have hrl:=hS.rlt; have hxk:=aP (bH m) (k - 1)
  have hz2:=Xz (Nat.lt_trans hrl hyb) hxk; have hsh:=Jv (Nat.lt_trans hrl hyb); have hq:=En hrl hxk; have hor:=vG (a:=r) hxk; have hmod:=Nat.mod_lt (r * BB + (dg m).getD (k - 1) 0) hy
  have hxk2:=hxk
  simp only [BB] at hxk2
  refine cU (cK (eG (ts (rm rfl (ro rfl (nD (Ht rfl) (cJ 32) (by decide) hsh) (rm rfl (rm rfl (ro rfl (dZ U_46 Z_189 (Ht rfl) (Ht rfl) (show ((k:Int) - 1) = ((k - 1:Nat):Int) by omega) (dY (aF zo))) (ro rfl (dJ A_189 Z_189 (Ht rfl)) (ro rfl (gZ U_189 U_254 (Ht rfl) z7) (ro rfl (aL.nat (oY rfl (Ht rfl) (Ht rfl) z7 z7) hor) ?_)))))))))))
  refine ra rfl (eX (ts (rm rfl (rm rfl (rm rfl (rm rfl (ro rfl (gZ U_189 U_254 (Ht rfl) z7) (ro rfl (jC (Ht rfl) (Ht rfl) zo (by show _ < 18446744073709551616; exact hz2)) (ro rfl (gZ U_254 U_189 (Ht rfl) (by show _ < 4294967296; exact hq)) (ro rfl (fY U_46 Z_189 (Ht rfl) (Ht rfl) (show ((k:Int) - 1) = ((k - 1:Nat):Int) by omega) zo (by rw [Nat.mul_one,Nat.zero_add])) ?_))))))))))
  refine kK Z_189 (Ht rfl) (Ht rfl) (i:=0) rfl (by first | omega | (simp; omega)) rfl (eX (cY (rm rfl (rm rfl (ro rfl (gZ U_189 U_254 (Ht rfl) z7) (ro rfl (nC (Ht rfl) (Ht rfl) zo) (ra rfl (eX (bA (cY (rm rfl (ro rfl (iL (Ht rfl) cV (Ch zo)) (ra rfl (eX (fU (k - 1,_,_) (hS.next (bH m) zo rfl) (by dsimp only; omega) (aQ rfl (aQ rfl (aQ rfl (aQ rfl (aZ rfl (aR zo) aX))))) (aU (aB (fF _ _ _)) aY))))))))))))))))
 ·simp at hb
  have hk0:k = 0:=by omega
  subst hk0
  have hlen:=hS.len; have hrl:=hS.rlt
  have hfin:=hS.fin
  rw [cO] at hfin
  refine gV rfl (gJ (i:=0) (tt:=6) rfl rfl (lE rfl hlen.symm (Nat.le_refl _)) (ts (rm rfl (ro rfl (cZ K_267 (nU _ hS.dig zo) ⟨(Ht rfl),trivial⟩) (rm rfl (ro rfl (gZ U_254 U_189 (Ht rfl) (by show _ < 4294967296; first | omega | (simp only [lF]; omega))) (ra rfl (ra rfl (eX (bM rfl (fX (eU rfl) ?_) (fX (eU rfl) ?_)))))))))))
  ·exact (dF hfin.1)
  ·exact (kI hfin.2)
end
section
open Go Go.RowKit
theorem Zl {m:Nat} (hm:(dg m).length ≤ 17592186044416) (h0:m ≠ 0):bB Tryz.prog 282 [aE m] (NT .i64 (32 * ((dg m).length - 1) + bl ((dg m).getD ((dg m).length - 1) 0))):=by
 have hl:(dg m).length ≠ 0:=fun e=>h0 (aM.1 e)
 have htl:=aP (bH m) ((dg m).length - 1)
 obtain ⟨v,hv⟩:∃ v,v = (dg m).getD ((dg m).length - 1) 0:=⟨_,rfl⟩
 rw [← hv] at htl ⊢
 simp only [BB] at htl
 have hb32:=nG (k:=32) htl
 refine bB.intro Tryz.func282 rfl Tryz.ntmps282 rfl (fun cx=>(ts (ro rfl (cQ (cJ 0)) (eX (cK (ts (rm rfl (ro rfl (dG U_46 (Ht rfl) aA) (ro rfl (cR (Ht rfl) (cJ 0)) (eX (iR (Ht rfl) (by simpa using hl) ?_)))))))))))
 refine cU (ts (ro rfl (cQ (cJ 0)) (eX (cK (ts (rm rfl (rm rfl (ro rfl (dG U_46 (Ht rfl) aA) (ro rfl (dW (Ht rfl) (cJ 1) zo z6) (ro rfl (dZ U_46 Z_189 (Ht rfl) (Ht rfl) rfl (dY (aF zo))) (ro rfl (dJ A_189 Z_189 (Ht rfl)) (ra rfl (eX (eG ?_))))))))))))))
 refine gB (fun (x : Nat) (q : Nat) => bl v = q + bl x ∧ x < 4294967296) (fun (x : Nat) (q : Nat) => x) (fun (x : Nat) (q : Nat) => [(0, aE m), (3, NT .i64 q), (4, cB x)]) (fun (x : Nat) (q : Nat) => []) v 0 ⟨(Nat.zero_add _).symm, htl⟩
  (aQ rfl (aQ rfl (aZ rfl (kI hv.symm) aX))) aY (fun x q ⟨hq,hx⟩=>?_)
 refine cK (ts (rm rfl (ro rfl (eC (Ht rfl) (cJ 0)) (eX (dQ (Ht rfl) (fun hb=>?_) (fun hb=>?_))))))
 ·simp at hb
  have hsh:=Za (v:=x) zo
  refine cU (cK (eG (cY (rm rfl (ro rfl (dV (Ht rfl) (cJ 1) z6) (ra rfl (eX (bA (cY (rm rfl (ro rfl (eP (Ht rfl) (cJ 1) (by decide)) (ra rfl (eX (fU (x / 2 ^ 1,q + 1) ⟨by dsimp only; omega,by dsimp only; omega⟩ (by dsimp only; omega) (zS rfl) aY))))))))))))))
 ·simp at hb
  subst hb
  rw [Zb] at hq
  refine gV rfl (ts (rm rfl (ro rfl (dG U_46 (Ht rfl) aA) (ro rfl (dW (Ht rfl) (cJ 1) zo z6) (ro rfl (kZ (cJ 32) (Ht rfl) z6) (rm rfl (ro rfl (dV (Ht rfl) (Ht rfl) z6) (ra rfl (eX (fW rfl (fX (eU rfl) ?_)))))))))))
  exact (kI zo)
theorem Ue {m k:Nat} (hm:(dg m).length ≤ 17592186044416) (hk:k ≤ 562949953421312):bB Tryz.prog 283 [aE m,NT .i64 k] (aE (m * 2 ^ k)):=by
 refine bB.intro Tryz.func283 rfl Tryz.ntmps283 rfl (fun cx=>(ts (ro rfl (cQ cV) (eX (cK (ts (rm rfl (ro rfl (dG U_46 (Ht rfl) aA) (ro rfl (cR (Ht rfl) (cJ 0)) (eX (dQ (Ht rfl) (fun hb=>?_) (fun hb=>?_))))))))))))
 ·simp [aM] at hb
  have h0:m * 2 ^ k = 0:=by simp_all [qE]
  refine ts (ro rfl (cQ cV) (eX (fW rfl (fX (eU rfl) ?_))))
  exact (fun v V h=>by rw [h0]; exact jY v V h)
 ·clear hb
  have hr:=Nat.mod_lt k (by decide:32 > 0)
  refine cU (ts (rm rfl (ro rfl (dG U_46 (Ht rfl) aA) (rm rfl (ro rfl (jC (Ht rfl) (cJ 32) zo z6) (ro rfl (dV (Ht rfl) (Ht rfl) z6) (ro rfl (dV (Ht rfl) (cJ 1) z6) (rn rfl (eE (T:=cB 0) (i:=Tryz.t189) V_46 iE rfl rfl (Ht rfl) rfl (fun _=>rfl) trivial (by show 4 * _ ≤ _; omega) zo) fun B17=>?_))))))))
  refine ra rfl (eX (cK (ts (ro rfl (cQ (cJ 0)) (eX (eG ?_))))))
  refine gB (fun (i : Nat) (out : List Nat) => Ad (dg m) (k / 32) (k % 32) out i) (fun (i : Nat) (out : List Nat) => (dg m).length - i) (fun (i : Nat) (out : List Nat) => [(0, aE m), (1, NT .i64 k), (5, Is (.slice (some ⟨B17, 0, none⟩) ((dg m).length + k / 32 + 1) ((dg m).length + k / 32 + 1))), (6, NT .i64 i)]) (fun (i : Nat) (out : List Nat) => [box B17 189 (out.map cB)]) 0 (List.replicate ((dg m).length + k / 32 + 1) 0) (Ad.start _ _ _)
   (zS rfl) (aU (aB (kJ _)) aY) (fun i out hS=>?_)
  refine cK (ts (rm rfl (rm rfl (ro rfl (dG U_46 (Ht rfl) aA) (ro rfl (gX (Ht rfl) (Ht rfl)) (eX (dQ (Ht rfl) (fun hb=>?_) (fun hb=>?_))))))))
  ·simp at hb
   have hlen:=hS.len; have hxi:=aP (bH m) i; have hok:=aP hS.dig (i + k / 32)
   have hv:=Em hxi hr
   have hd:(dg m).getD i 0 * 2 ^ (k % 32) / 2 ^ 32 < 4294967296:=Nat.div_lt_of_lt_mul hv
   simp only [BB] at hxi hok
   refine cU (cK (eG (ts (rm rfl (rm rfl (ro rfl (dZ U_46 Z_189 (Ht rfl) (Ht rfl) rfl (dY (aF zo))) (ro rfl (dJ A_189 Z_189 (Ht rfl)) (ro rfl (gZ U_189 U_254 (Ht rfl) z7) (rm rfl (ro rfl (nC (Ht rfl) (cJ 32) zo) (ro rfl (gZ U_3 U_255 (Ht rfl) z7) (ro rfl (nD (Ht rfl) (Ht rfl) (by show _ ≤ _; simp [IntKind.bits]; omega) (by show _ < 18446744073709551616; exact hv)) ?_))))))))))))
   refine ra rfl (eX (ts (rm rfl (rm rfl (rm rfl (ro rfl (jC (Ht rfl) (cJ 32) zo z6) (ro rfl (dV (Ht rfl) (Ht rfl) z6) (rm rfl (rm rfl (rm rfl (ro rfl (jC (Ht rfl) (cJ 32) zo z6) (ro rfl (dV (Ht rfl) (Ht rfl) z6) (ro rfl (fY U_46 Z_189 (Ht rfl) (Ht rfl) rfl zo (by rw [Nat.mul_one,Nat.zero_add])) ?_)))))))))))))
   refine ro rfl (eY A_189 Z_189 (Ht rfl) (i:=0) rfl (dY (aF zo))) (rm rfl (ro rfl (fM rfl U_254 U_189 (Ht rfl)) (ro rfl (oY rfl (Ht rfl) (Ht rfl) (by show _ < 4294967296; omega) (by show _ % 4294967296 < 4294967296; omega)) (ro rfl (fY U_46 Z_189 (Ht rfl) (Ht rfl) rfl zo (by rw [Nat.mul_one,Nat.zero_add])) ?_))))
   refine kK Z_189 (Ht rfl) (Ht rfl) (i:=0) rfl (by first | omega | (simp; omega)) rfl (eX (cY (rm rfl (rm rfl (rm rfl (ro rfl (jC (Ht rfl) (cJ 32) zo z6) (ro rfl (dV (Ht rfl) (Ht rfl) z6) (ro rfl (dV (Ht rfl) (cJ 1) z6) (rm rfl (ro rfl (eP (Ht rfl) (cJ 32) (by decide)) (ro rfl (gZ U_254 U_189 (Ht rfl) (by show _ < 4294967296; exact hd)) ?_)))))))))))
   refine ro rfl (fY U_46 Z_189 (Ht rfl) (Ht rfl) rfl zo (by rw [Nat.mul_one,Nat.zero_add])) ?_
   refine kK Z_189 (Ht rfl) (Ht rfl) (i:=0) rfl (by first | omega | (simp; omega)) rfl (eX (bA (cY (rm rfl (ro rfl (dV (Ht rfl) (cJ 1) z6) (ra rfl (eX (fU (i + 1,_) (hS.next (bH m) hr hb rfl rfl) (by dsimp only; omega) (zS rfl) (aU (aB (Js _ _ _ _ _)) aY)))))))))
  ·simp at hb
   have hkl:i = (dg m).length:=Nat.le_antisymm hS.kle hb
   subst hkl
   have hlen:=hS.len
   have hfin:=hS.fin
   rw [cO,mA] at hfin
   refine gV rfl (gJ (i:=0) (tt:=5) rfl rfl (lE rfl hlen.symm (Nat.le_refl _)) (ts (rm rfl (ro rfl (cZ K_267 (nU _ hS.dig zo) ⟨(Ht rfl),trivial⟩) (ra rfl (eX (fW rfl (fX (eU rfl) ?_))))))))
   exact (dF hfin)
theorem a27 {m k:Nat} (hm:(dg m).length ≤ 17592186044416) (hk:k ≤ 562949953421312):bB Tryz.prog 284 [aE m,NT .i64 k] (aE (m / 2 ^ k)):=by
 refine bB.intro Tryz.func284 rfl Tryz.ntmps284 rfl (fun cx=>?_)
 have hr:=Nat.mod_lt k (by decide:32 > 0)
 refine ts (ro rfl (cQ cV) (eX (cK (ts (rm rfl (ro rfl (jC (Ht rfl) (cJ 32) zo z6) (rm rfl (ro rfl (dG U_46 (Ht rfl) aA) (ro rfl (pS (Ht rfl) (Ht rfl)) (eX (dQ (Ht rfl) (fun hb=>?_) (fun hb=>?_))))))))))))
 ·simp at hb
  have h0:=Jx (bH m) hb (r:=k % 32)
  rw [cO,mA] at h0
  refine ts (ro rfl (cQ cV) (eX (fW rfl (fX (eU rfl) ?_))))
  exact (fun v V h=>dF h0.symm v V (jY v V h))
 ·simp at hb
  refine cU (ts (rm rfl (ro rfl (dG U_46 (Ht rfl) aA) (rm rfl (ro rfl (jC (Ht rfl) (cJ 32) zo z6) (ro rfl (dW (Ht rfl) (Ht rfl) zo z6) (rn rfl (eE (T:=cB 0) (i:=Tryz.t189) V_46 iE rfl rfl (Ht rfl) rfl (fun _=>rfl) trivial (by show 4 * _ ≤ _; omega) zo) fun B18=>(ra rfl (eX (cK (ts (ro rfl (cQ (cJ 0)) (eX (eG ?_))))))))))))))
  refine gB (fun (i : Nat) (out : List Nat) => Ae (dg m) (k / 32) (k % 32) out i) (fun (i : Nat) (out : List Nat) => (dg m).length - i) (fun (i : Nat) (out : List Nat) => [(0, aE m), (1, NT .i64 k), (5, Is (.slice (some ⟨B18, 0, none⟩) ((dg m).length - k / 32) ((dg m).length - k / 32))), (6, NT .i64 i)]) (fun (i : Nat) (out : List Nat) => [box B18 189 (out.map cB)]) 0 (List.replicate ((dg m).length - k / 32) 0) (Ae.start _ _ _)
   (zS rfl) (aU (aB (kJ _)) aY) (fun i out hS=>?_)
  refine cK (ts (rm rfl (rm rfl (ro rfl (hJ U_46 (Ht rfl)) (ro rfl (gX (Ht rfl) (Ht rfl)) (eX (dQ (Ht rfl) (fun hb=>?_) (fun hb=>?_))))))))
  ·simp at hb
   have hlen:=hS.len; have hx0:=aP (bH m) (i + k / 32); have hx1:=aP (bH m) (i + k / 32 + 1)
   have hio:i < out.length:=by omega
   simp only [BB] at hx0 hx1
   refine cU (cK (eG (ts (rm rfl (rm rfl (rm rfl (ro rfl (jC (Ht rfl) (cJ 32) zo z6) (ro rfl (dV (Ht rfl) (Ht rfl) z6) (ro rfl (dZ U_46 Z_189 (Ht rfl) (Ht rfl) rfl (dY (aF zo))) (ro rfl (dJ A_189 Z_189 (Ht rfl)) (ro rfl (gZ U_189 U_254 (Ht rfl) z7) ?_)))))))))))
   refine ra rfl (eX (cK (jL (fun (v:Nat)=>v = (dg m).getD (i + k / 32) 0 + BB * (dg m).getD (i + k / 32 + 1) 0) (fun (v:Nat)=>[(0,aE m),(1,NT .i64 k),(5,Is (.slice (some ⟨B18,0,none⟩) ((dg m).length - k / 32) ((dg m).length - k / 32))),(6,NT .i64 i),(7,NT .u64 v)]) (fun (v:Nat)=>[box B18 189 (out.map cB)]) ?_ (fun v hv=>?_))))
   ·refine ts (rm rfl (rm rfl (ro rfl (jC (Ht rfl) (cJ 32) zo z6) (ro rfl (dV (Ht rfl) (Ht rfl) z6) (ro rfl (dV (Ht rfl) (cJ 1) z6) (rm rfl (ro rfl (dG U_46 (Ht rfl) aA) (ro rfl (gX (Ht rfl) (Ht rfl)) (eX (dQ (Ht rfl) (fun hk2 => ?_) (fun hk2 => ?_)))))))))))
    ·simp at hk2
     refine cY (rm rfl (rm rfl (rm rfl (rm rfl (ro rfl (jC (Ht rfl) (cJ 32) zo z6) (ro rfl (dV (Ht rfl) (Ht rfl) z6) (ro rfl (dV (Ht rfl) (cJ 1) z6) (ro rfl (dZ U_46 Z_189 (Ht rfl) (Ht rfl) rfl (dY (aF zo))) (ro rfl (dJ A_189 Z_189 (Ht rfl)) (ro rfl (gZ U_189 U_254 (Ht rfl) z7) ?_))))))))))
     refine ro rfl (nD (Ht rfl) (cJ 32) (by decide) (by show _ < 18446744073709551616; omega)) (ro rfl (aL.nat (oY rfl (Ht rfl) (Ht rfl) z7 z7) (Oy hx0)) (ra rfl (eX (bC ((dg m).getD (i + k / 32) 0 + BB * (dg m).getD (i + k / 32 + 1) 0) rfl (zS rfl) (cT.refl _)))))
    ·simp at hk2
     refine cU (bC ((dg m).getD (i + k / 32) 0) (by simp [List.getD,List.getElem?_eq_none hk2]) (zS rfl) (cT.refl _))
   ·refine cY (rm rfl (rm rfl (rm rfl (rm rfl (ro rfl (nC (Ht rfl) (cJ 32) zo) (ro rfl (gZ U_3 U_255 (Ht rfl) z7) (ro rfl (eP (Ht rfl) (Ht rfl) (by show _ ≤ 64; omega)) (ro rfl (fM rfl U_254 U_189 (Ht rfl)) (ro rfl (fY U_46 Z_189 (Ht rfl) (Ht rfl) rfl zo (by rw [Nat.mul_one, Nat.zero_add])) ?_)))))))))
    refine kK Z_189 (Ht rfl) (Ht rfl) (i:=0) rfl (by first | omega | (simp; omega)) rfl (eX (bA (cY (rm rfl (ro rfl (dV (Ht rfl) (cJ 1) z6) (ra rfl (eX (fU (i + 1,_) (hS.next (bH m) hr hio (by rw [hv]; rfl)) (by dsimp only; omega) (zS rfl) (aU (aB (fF _ _ _)) aY)))))))))
  ·simp at hb
   have hlen:=hS.len
   have hkl:i = out.length:=Nat.le_antisymm hS.kle zo
   subst hkl
   have hfin:=hS.fin (bH m) zo
   rw [cO,mA] at hfin
   refine gV rfl (gJ (i:=0) (tt:=5) rfl rfl (lE rfl hlen.symm (Nat.le_refl _)) (ts (rm rfl (ro rfl (cZ K_267 (nU _ hS.dig zo) ⟨(Ht rfl),trivial⟩) (ra rfl (eX (fW rfl (fX (eU rfl) ?_))))))))
   exact (dF hfin)
theorem xK {m n:Nat} (hm:(dg m).length ≤ 17592186044415) (hn1:(dg n).length ≤ 17592186044416) (hn:n ≠ 0):bB Tryz.prog 265 [aE m,aE n] (fH [aE (m / n),aE (m % n)]):=by
 refine bB.intro Tryz.func265 rfl Tryz.ntmps265 rfl (fun cx=>(ts (ro rfl (cQ cV) (ro rfl (cQ cV) (eX (cK (ts (rm rfl (rm rfl (ro rfl (cZ Tryz.call237 (Di zo zo) ⟨(Ht rfl),(Ht rfl),trivial⟩) (ro rfl (rM (Ht rfl) cV) (eX (dQ (Ht rfl) (fun hb=>?_) (fun hb=>?_))))))))))))))
 ·simp only [decide_eq_true_eq] at hb
  have hlt:m < n:=Fn hb
  refine ts (rm rfl (ro rfl (cQ cV) (ra rfl (eX (bM rfl (fX (eU rfl) ?_) (fX (eU rfl) ?_))))))
  ·exact (fun v V h=>dF (Nat.div_eq_of_lt hlt).symm v V (jY v V h))
  ·exact (dF (Nat.mod_eq_of_lt hlt).symm)
 ·simp only [decide_eq_false_iff_not] at hb
  have hle:n ≤ m:=Fm zo
  clear hb
  refine cU (cK (ts (rm rfl (ro rfl (dG U_46 (Ht rfl) aA) (ro rfl (cR (Ht rfl) (cJ 1)) (eX (dQ (Ht rfl) (fun h1=>?_) (fun h1=>?_))))))))
  ·simp at h1
   have hy0:=Uu h1
   have hyb:=aP (bH n) 0
   have hmod:=Nat.mod_lt m (show (dg n).getD 0 0 > 0 by omega)
   have hyb2:=hyb
   simp only [BB] at hyb
   refine ts (rm rfl (rm rfl (ro rfl (dZ U_46 Z_189 (Ht rfl) (cJ 0) rfl (dY (aF zo))) (ro rfl (dJ A_189 Z_189 (Ht rfl)) (ro rfl (cZ Tryz.call281 (Hd zo zo hyb2) ⟨(Ht rfl),(Ht rfl),trivial⟩) (rm rfl (ro rfl (dK (Ht rfl) rfl) (ro rfl (dK (Ht rfl) rfl) (ra rfl (ra rfl (eX (ts (rm rfl (rm rfl (ro rfl (gZ U_189 U_254 (Ht rfl) z7) (ro rfl (cZ Tryz.call268 (An zo) ⟨(Ht rfl),trivial⟩) ?_))))))))))))))))
   refine ra rfl (ra rfl (eX (bM rfl (fX (eU rfl) ?_) (fX (eU rfl) ?_))))
   ·exact (dF (by rw [hy0]))
   ·exact (dF (by rw [hy0]))
  ·simp at h1
   have hl0:(dg n).length ≠ 0:=fun e=>hn (aM.1 e)
   have hyb:=aP (bH n) ((dg n).length - 1)
   obtain ⟨s,hs⟩:∃ s,s = 32 - bl ((dg n).getD ((dg n).length - 1) 0):=⟨_,rfl⟩
   obtain ⟨hs1,hvl,hvb⟩:=Hu hn hs
   obtain ⟨hc1,hc2,hc3,hc4⟩:=Hl (m:=m) hs1
   have hbl:=nG (k:=32) hyb
   simp only [BB] at hyb
   have hp2:0 < 2 ^ s:=Nat.pow_pos (by decide)
   have hX0:(dg (m * 2 ^ s)).length ≠ 0:=fun e=>(Nat.ne_of_gt (Nat.mul_pos (show 0 < m by omega) hp2)) (aM.1 e)
   have hmono:=gO hle
   refine cU (ts (rm rfl (ro rfl (dG U_46 (Ht rfl) aA) (ro rfl (kZ (cJ 32) (Ht rfl) z6) (rm rfl (ro rfl (cZ Tryz.call282 (Zl zo hn) ⟨(Ht rfl),trivial⟩) (ro rfl (aL.nat (dW (Ht rfl) (Ht rfl) zo z6) (show 32 * (dg n).length - (32 * ((dg n).length - 1) + bl ((dg n).getD ((dg n).length - 1) 0)) = s by omega)) (ra rfl (eX (ts (rm rfl (rm rfl (ro rfl (cZ Tryz.call283 (Ue zo zo) ⟨(Ht rfl),(Ht rfl),trivial⟩) ?_)))))))))))))
   refine ra rfl (eX (ts (rm rfl (ro rfl (dG U_46 (Ht rfl) aA) (ro rfl (dV (Ht rfl) (cJ 1) z6) (rn rfl (eE (T:=cB 0) (i:=Tryz.t189) V_46 iE rfl rfl (Ht rfl) rfl (fun _=>rfl) trivial (by show 4 * _ ≤ _; omega) zo) fun B57=>(ra rfl (eX (ts (rm rfl (rm rfl (rm rfl (ro rfl (cZ Tryz.call283 (Ue zo zo) ⟨(Ht rfl),(Ht rfl),trivial⟩) (Mp U_46 Z_189 (Ht rfl) (Ht rfl) (Vz hX0) a1z (i:=0) rfl (by simp) (by simp; omega) (Hm _ _) rfl rfl ?_))))))))))))))
   refine eX (cK ?_)
   obtain ⟨vs,hvs⟩:∃ vs,vs = dg (n * 2 ^ s):=⟨_,rfl⟩
   rw [← hvs] at hvl hvb
   have hv:kG vs:=hvs ▸ bH _
   have hvv:val vs = n * 2 ^ s:=by rw [hvs,cO]
   have hV0:0 < val vs:=by rw [hvv]; exact Nat.mul_pos zo hp2
   have hnr:=Ol hv zo hvb
   have hv1:=hnr.v1lt; have hv2:=hnr.v2lt; have hbig:=hnr.big
   simp only [BB] at hv1 hv2 hbig
   refine oJ (E':=[(8,_),(9,_),(10,_)]) (aQ rfl (aZ rfl (a2f hvs.symm) (zS rfl))) (cY (rm rfl (ro rfl (dG U_46 (Ht rfl) aA) (ra rfl (eX (ts (rm rfl (ro rfl (hJ U_46 (Ht rfl)) (rm rfl (ro rfl (dW (Ht rfl) (Ht rfl) zo z6) (rn rfl (eE (T:=cB 0) (i:=Tryz.t189) V_46 iE rfl rfl (Ht rfl) rfl (fun _=>rfl) trivial (by show 4 * _ ≤ _; omega) zo) fun B69=>(ra rfl (eX (cK ?_))))))))))))))
   refine ts (rm rfl (ro rfl (hJ U_46 (Ht rfl)) (ro rfl (iL (Ht rfl) cV (Ch zo)) (ra rfl (eX (eG ?_))))))
   refine iS (fun (k : Nat) (us : List Nat) (qs : List Nat) => nN (m * 2 ^ s) vs us qs k ∧ us.length = (dg m).length + 1) (fun (k : Nat) (us : List Nat) (qs : List Nat) => k) (fun (k : Nat) (us : List Nat) (qs : List Nat) => [(8, NT .i64 s), (9, uY vs), (10, Is (.slice (some ⟨B57, 0, none⟩) ((dg m).length + 1) ((dg m).length + 1))), (11, NT .i64 vs.length), (12, Is (.slice (some ⟨B69, 0, none⟩) ((dg m).length + 1 - vs.length) ((dg m).length + 1 - vs.length))), (13, bD .i64 ((k : Int) - 1))]) (fun (k : Nat) (us : List Nat) (qs : List Nat) => [box B57 189 (us.map cB), box B69 189 (qs.map cB)]) ((dg m).length + 1 - vs.length) (At m s) (List.replicate ((dg m).length + 1 - vs.length) 0) ⟨nN.start hv zo hvb hs1 (by have := iW (bH m); rwa [cO] at this) hc3 hc2 hc4 zo, hc2⟩
    (aQ rfl (aQ rfl (aQ rfl (aQ rfl (aQ rfl (aZ rfl (aR zo) aX)))))) (aU (fun _ _ _ h=>h) (aU (aB (kJ _)) aY)) (fun k us qs ⟨hS,hus⟩=>?_)
   refine cK (ts (rm rfl (ro rfl (lT (Ht rfl) cV) (eX (dQ (Ht rfl) (fun hk=>?_) (fun hk=>?_))))))
   ·simp at hk
    obtain ⟨j,rfl⟩:∃ j,k = j + 1:=⟨k - 1,by omega⟩
    have htp:=hS.top hv zo (Nat.succ_pos j) rfl
    have hkq:=hS.kle; have hlq:=hS.lenq
    rw [Nat.add_sub_cancel] at htp
    have hu0:=aP hS.dig (j + vs.length); have hu1:=aP hS.dig (j + vs.length - 1); have hu2:=aP hS.dig (j + vs.length - 2)
    have ht64:=Xz hu0 hu1; have hsh:=Jv hu0
    obtain ⟨top,htop⟩:∃ top,top = us.getD (j + vs.length) 0 * BB + us.getD (j + vs.length - 1) 0:=⟨_,rfl⟩
    have hor:=(vG (a:=us.getD (j + vs.length) 0) hu1).trans htop.symm
    rw [← htop] at htp ht64
    have hu2b:=hu2
    simp only [BB] at hu0 hu1 hu2
    refine oJ (E':=[(8,_),(9,_),(10,_),(11,_),(12,_),(13,_),(73,_),(74,_)]) (aQ rfl (aQ rfl (aQ rfl (aQ rfl (aQ rfl (aZ rfl (aR (show ((j + 1:Nat):Int) - 1 = (j:Int) by omega)) (zS rfl))))))) (cU (cK (eG (cK (fZ (m:=16) (dp 10 rfl (cX (Ht rfl)) (dp 13 rfl (cX (Ht rfl)) (dp 11 rfl (cX (Ht rfl)) (cP 78 1 79 2 rfl (dV (Ht rfl) (Ht rfl) z6) (cP 77 0 80 3 rfl (fY U_46 Z_189 (Ht rfl) (Ht rfl) rfl zo (by rw [Nat.mul_one,Nat.zero_add])) ?_))))))))))
    refine dq 81 4 rfl (eY A_189 Z_189 (Ht rfl) (i:=0) rfl (dY (aF zo))) (dq 82 5 rfl (gZ U_189 U_254 (Ht rfl) z7) (dq 83 6 rfl (nD (Ht rfl) (cJ 32) (by decide) hsh) (dp 10 rfl (cX (Ht rfl)) (dp 13 rfl (cX (Ht rfl)) (dp 11 rfl (cX (Ht rfl)) (cP 86 9 87 10 rfl (dV (Ht rfl) (Ht rfl) z6) (dq 88 11 rfl (dW (Ht rfl) (cJ 1) zo z6) ?_)))))))
    refine cP 85 8 89 12 rfl (fY U_46 Z_189 (Ht rfl) (Ht rfl) rfl zo (by rw [Nat.mul_one,Nat.zero_add])) ?_
    refine dq 90 13 rfl (eY A_189 Z_189 (Ht rfl) (i:=0) rfl (dY (aF zo))) (dq 91 14 rfl (gZ U_189 U_254 (Ht rfl) z7) (fV aO rfl (by kernel_rfl) (zF (zF (zF (zF (aV (ro rfl (aL.nat (oY rfl (Ht rfl) (Ht rfl) z7 z7) hor) ?_))))))))
    refine ra rfl (eX (ts (rm rfl (rm rfl (rm rfl (ro rfl (dW (Ht rfl) (cJ 1) zo z6) (ro rfl (dZ U_46 Z_189 (Ht rfl) (Ht rfl) rfl (dY (aF zo))) (ro rfl (dJ A_189 Z_189 (Ht rfl)) (ro rfl (gZ U_189 U_254 (Ht rfl) z7) (ro rfl (jC (Ht rfl) (Ht rfl) zo (by show _ < 18446744073709551616; exact ht64)) (ra rfl (eX ?_))))))))))))
    refine ts (rm rfl (rm rfl (rm rfl (ro rfl (dW (Ht rfl) (cJ 1) zo z6) (ro rfl (dZ U_46 Z_189 (Ht rfl) (Ht rfl) rfl (dY (aF zo))) (ro rfl (dJ A_189 Z_189 (Ht rfl)) (ro rfl (gZ U_189 U_254 (Ht rfl) z7) (ro rfl (nC (Ht rfl) (Ht rfl) zo) (ra rfl (eX (cK (jL (fun (g:Nat)=>Kj (val (us.drop j)) (val vs) g) (fun (g:Nat)=>[(8,NT .i64 s),(9,uY vs),(10,Is (.slice (some ⟨B57,0,none⟩) ((dg m).length + 1) ((dg m).length + 1))),(11,NT .i64 vs.length),(12,Is (.slice (some ⟨B69,0,none⟩) ((dg m).length + 1 - vs.length) ((dg m).length + 1 - vs.length))),(13,NT .i64 j),(15,NT .u64 g)]) (fun (g:Nat)=>[box B57 189 (us.map cB),box B69 189 (qs.map cB)]) ?_ (fun g hg=>?_)))))))))))))
    ·refine eG ?_
     refine gB (fun (g : Nat) (r : Nat) => lR (val (us.drop j)) (val vs) (vs.getD (vs.length - 1) 0) top g r ∧ r < 4294967296) (fun (g : Nat) (r : Nat) => g) (fun (g : Nat) (r : Nat) => [(8, NT .i64 s), (9, uY vs), (10, Is (.slice (some ⟨B57, 0, none⟩) ((dg m).length + 1) ((dg m).length + 1))), (11, NT .i64 vs.length), (12, Is (.slice (some ⟨B69, 0, none⟩) ((dg m).length + 1 - vs.length) ((dg m).length + 1 - vs.length))), (13, NT .i64 j), (15, NT .u64 g), (16, NT .u64 r)]) (fun (g : Nat) (r : Nat) => [box B57 189 (us.map cB), box B69 189 (qs.map cB)]) (top / vs.getD (vs.length - 1) 0) (top % vs.getD (vs.length - 1) 0) ⟨lR.start hnr htp, Nat.lt_trans (Nat.mod_lt _ zo) hv1⟩
      (zS rfl) (cT.refl _) (fun g r ⟨hG,hr⟩=>?_)
     have hgl:=(hG.glt hnr htp).1
     have hrs:=Jv (a:=r) hr
     have horr:=vG (a:=r) hu2b
     simp only [BB] at hgl
     refine cK (cK (fZ (m:=22) (dp 15 rfl (cX (Ht rfl)) (dq 110 0 rfl (pS (Ht rfl) (cJ 4294967296)) (dq 111 1 rfl (cX (Ht rfl)) (C.D_step (Ei:=[(15,_),(112,_)]) rfl rfl (bV (bK rfl rfl) (bV (bG 2 rfl rfl) bW)) (eK rfl rfl (Ht rfl) (fun h=>cX (Ht rfl))) (C.D_step (Ei:=[(9,_),(112,_)]) rfl rfl (bV (bK rfl rfl) (bV (bG 2 rfl rfl) bW)) (eK rfl rfl (Ht rfl) (fun h=>cX (Ht rfl))) (C.D_step (Ei:=[(11,_),(112,_)]) rfl rfl (bV (bK rfl rfl) (bV (bG 2 rfl rfl) bW)) (eK rfl rfl (Ht rfl) (fun h=>cX (Ht rfl))) ?_))))))))
     refine C.D_step (Ei:=[(115,_),(112,_)]) rfl rfl (bV (bG 5 rfl rfl) (bV (bG 2 rfl rfl) bW)) (eK rfl rfl (Ht rfl) (fun h=>dW (fJ rfl h) (cJ 2) (by first | omega | (simp at h; omega)) (by show _ < 9223372036854775808; first | omega | (simp at h; omega)))) (C.D_step (Ei:=[(114,_),(116,_),(112,_)]) rfl rfl (bV (bG 4 rfl rfl) (bV (bG 6 rfl rfl) (bV (bG 2 rfl rfl) bW))) (eK rfl rfl (Ht rfl) (fun h=>dZ U_46 Z_189 (fJ rfl h) (fJ rfl h) rfl (dY (aF (by first | omega | (simp at h; omega)))))) ?_)
     refine C.D_step (Ei:=[(117,_),(112,_)]) rfl rfl (bV (bG 7 rfl rfl) (bV (bG 2 rfl rfl) bW)) (eK rfl rfl (Ht rfl) (fun h=>dJ A_189 Z_189 (fJ rfl h))) (C.D_step (Ei:=[(118,_),(112,_)]) rfl rfl (bV (bG 8 rfl rfl) (bV (bG 2 rfl rfl) bW)) (eK rfl rfl (Ht rfl) (fun h=>gZ U_189 U_254 (fJ rfl h) (by show _ < 18446744073709551616; first | omega | (simp at h; omega)))) (C.D_step (Ei:=[(113,_),(119,_),(112,_)]) rfl rfl (bV (bG 3 rfl rfl) (bV (bG 9 rfl rfl) (bV (bG 2 rfl rfl) bW))) (eK rfl rfl (Ht rfl) (fun h=>kZ (fJ rfl h) (fJ rfl h) (by show _ < 18446744073709551616; simp at h; exact a1w h hv2))) ?_))
     refine C.D_step (Ei:=[(16,_),(112,_)]) rfl rfl (bV (bK rfl rfl) (bV (bG 2 rfl rfl) bW)) (eK rfl rfl (Ht rfl) (fun h=>cX (Ht rfl))) (C.D_step (Ei:=[(121,_),(112,_)]) rfl rfl (bV (bG 11 rfl rfl) (bV (bG 2 rfl rfl) bW)) (eK rfl rfl (Ht rfl) (fun h=>nD (fJ rfl h) (cJ 32) (by decide) hrs)) (C.D_step (Ei:=[(10,_),(112,_)]) rfl rfl (bV (bK rfl rfl) (bV (bG 2 rfl rfl) bW)) (eK rfl rfl (Ht rfl) (fun h=>cX (Ht rfl))) (C.D_step (Ei:=[(13,_),(112,_)]) rfl rfl (bV (bK rfl rfl) (bV (bG 2 rfl rfl) bW)) (eK rfl rfl (Ht rfl) (fun h=>cX (Ht rfl))) ?_)))
     refine C.D_step (Ei:=[(11,_),(112,_)]) rfl rfl (bV (bK rfl rfl) (bV (bG 2 rfl rfl) bW)) (eK rfl rfl (Ht rfl) (fun h=>cX (Ht rfl))) (C.D_step (Ei:=[(124,_),(125,_),(112,_)]) rfl rfl (bV (bG 14 rfl rfl) (bV (bG 15 rfl rfl) (bV (bG 2 rfl rfl) bW))) (eK rfl rfl (Ht rfl) (fun h=>dV (fJ rfl h) (fJ rfl h) (by show _ < 9223372036854775808; first | omega | (simp at h; omega)))) (C.D_step (Ei:=[(126,_),(112,_)]) rfl rfl (bV (bG 16 rfl rfl) (bV (bG 2 rfl rfl) bW)) (eK rfl rfl (Ht rfl) (fun h=>dW (fJ rfl h) (cJ 2) (by first | omega | (simp at h; omega)) (by show _ < 9223372036854775808; first | omega | (simp at h; omega)))) ?_))
     refine C.D_step (Ei:=[(123,_),(127,_),(112,_)]) rfl rfl (bV (bG 13 rfl rfl) (bV (bG 17 rfl rfl) (bV (bG 2 rfl rfl) bW))) (eK rfl rfl (Ht rfl) (fun h=>fY U_46 Z_189 (fJ rfl h) (fJ rfl h) rfl (by first | omega | (simp at h; omega)) (by rw [Nat.mul_one,Nat.zero_add]))) ?_
     refine C.D_step (Ei:=[(128,_),(112,_)]) rfl rfl (bV (bG 18 rfl rfl) (bV (bG 2 rfl rfl) bW)) (eK rfl rfl (Ht rfl) (fun h=>eY A_189 Z_189 (fJ rfl h) (i:=0) rfl (dY (aF zo)))) (C.D_step (Ei:=[(129,_),(112,_)]) rfl rfl (bV (bG 19 rfl rfl) (bV (bG 2 rfl rfl) bW)) (eK rfl rfl (Ht rfl) (fun h=>gZ U_189 U_254 (fJ rfl h) (by show _ < 18446744073709551616; first | omega | (simp at h; omega)))) (C.D_step (Ei:=[(122,_),(130,_),(112,_)]) rfl rfl (bV (bG 12 rfl rfl) (bV (bG 20 rfl rfl) (bV (bG 2 rfl rfl) bW))) (eK rfl rfl (Ht rfl) (fun h=>aL.nat (oY rfl (fJ rfl h) (fJ rfl h) (by show _ < 18446744073709551616; first | omega | (simp at h; omega)) (by show _ < 18446744073709551616; first | omega | (simp at h; omega))) horr)) ?_))
     refine fV aO rfl (by kernel_rfl) (zF (zF (zF (zF (zF (aJ (aJ (aV (fQ rfl rfl (eK rfl rfl (Ht rfl) (fun h=>eC (fJ rfl h) (fJ rfl h))) (ro rfl (gT (Ht rfl) (fun h=>(fJ rfl h))) (eX (dQ (Ht rfl) (fun hc=>?_) (fun hc=>?_)))))))))))))
     ·have hn2 := hG.next hnr htp (by simpa [BB] using hc)
      have hg1:=hn2.2
      refine cU (eG (ts (rm rfl (ro rfl (dW (Ht rfl) (cJ 1) zo z7) (ra rfl (eX (ts (rm rfl (rm rfl (rm rfl (ro rfl (dW (Ht rfl) (cJ 1) zo z6) (ro rfl (dZ U_46 Z_189 (Ht rfl) (Ht rfl) rfl (dY (aF zo))) (ro rfl (dJ A_189 Z_189 (Ht rfl)) (ro rfl (gZ U_189 U_254 (Ht rfl) z7) ?_))))))))))))))
      refine ro rfl (dV (Ht rfl) (Ht rfl) z7) (ra rfl (eX (ts (rm rfl (ro rfl (pS (Ht rfl) (cJ 4294967296)) (eX (dQ (Ht rfl) (fun hr2=>?_) (fun hr2=>?_))))))))
      ·simp at hr2
       refine gV rfl (bC (g - 1) (hn2.1.stop hnr htp hr2) (zS rfl) (cT.refl _))
      ·simp at hr2
       refine cU (bA (fU (g - 1,_) ⟨hn2.1,hr2⟩ (by dsimp only; omega) (zS rfl) (cT.refl _)))
     ·simp at hc
      refine gV rfl (bC g (hG.done hnr htp hc.1 hc.2) (zS rfl) (cT.refl _))
    ·have hglt := hg.lt
     have hglt2:=hg.lt
     simp only [BB] at hglt
     have hjl:j + vs.length < us.length:=by omega
     refine ts (ro rfl (cQ (cJ 0)) (eX (ts (ro rfl (cQ (cJ 0)) (eX (cK (ts (ro rfl (cQ (cJ 0)) (eX (eG ?_))))))))))
     refine vV (fun (i : Nat) (out : List Nat) (c : Nat) (b : Nat) => rY us vs g j out i c b) (fun (i : Nat) (out : List Nat) (c : Nat) (b : Nat) => vs.length - i) (fun (i : Nat) (out : List Nat) (c : Nat) (b : Nat) => [(8, NT .i64 s), (9, uY vs), (10, Is (.slice (some ⟨B57, 0, none⟩) ((dg m).length + 1) ((dg m).length + 1))), (11, NT .i64 vs.length), (12, Is (.slice (some ⟨B69, 0, none⟩) ((dg m).length + 1 - vs.length) ((dg m).length + 1 - vs.length))), (13, NT .i64 j), (15, NT .u64 g), (17, NT .u64 b), (18, NT .u64 c), (19, NT .i64 i)]) (fun (i : Nat) (out : List Nat) (c : Nat) (b : Nat) => [box B57 189 (out.map cB), box B69 189 (qs.map cB)]) 0 us 0 0 (rY.start hS.dig vs g j)
      (zS rfl) (cT.refl _) (fun i out c b hT=>?_)
     refine cK (ts (rm rfl (rm rfl (ro rfl (gX (Ht rfl) (Ht rfl)) (eX (dQ (Ht rfl) (fun hi=>?_) (fun hi=>?_)))))))
     ·simp at hi
      have hlen:=hT.len; have hcl:=hT.clt; have hbl:=hT.ble; have hvi:=aP hv i; have hok:=aP hT.dig (i + j)
      have hp:=Mi hglt2 hvi hT.clt
      simp only [BB] at hp hcl hvi hok
      obtain ⟨p,hp1⟩:∃ p,p = g * vs.getD i 0 + c:=⟨_,rfl⟩
      obtain ⟨x,hx1⟩:∃ x,x = ((out.getD (i + j) 0 + 18446744073709551616 - p % 4294967296) % 18446744073709551616 + 18446744073709551616 - b) % 18446744073709551616:=⟨_,rfl⟩
      refine cU (cK (eG (ts (rm rfl (rm rfl (rm rfl (ro rfl (dZ U_46 Z_189 (Ht rfl) (Ht rfl) rfl (dY (aF zo))) (ro rfl (dJ A_189 Z_189 (Ht rfl)) (ro rfl (gZ U_189 U_254 (Ht rfl) z7) (ro rfl (kZ (Ht rfl) (Ht rfl) z7) (rm rfl (ro rfl (aL.nat (dV (Ht rfl) (Ht rfl) z7) hp1.symm) ?_))))))))))))
      refine ra rfl (eX (ts (rm rfl (ro rfl (eP (Ht rfl) (cJ 32) (by decide)) (ra rfl (eX (ts (rm rfl (rm rfl (rm rfl (ro rfl (dV (Ht rfl) (Ht rfl) z6) (ro rfl (fY U_46 Z_189 (Ht rfl) (Ht rfl) rfl zo (by rw [Nat.mul_one,Nat.zero_add])) ?_))))))))))))
      refine ro rfl (eY A_189 Z_189 (Ht rfl) (i:=0) rfl (dY (aF zo))) (ro rfl (gZ U_189 U_254 (Ht rfl) z7) (rm rfl (ro rfl (aL.nat (uI rfl (Ht rfl) (cJ 4294967295) z7 z7) (a3d p)) (ro rfl (lP rfl (Ht rfl) (Ht rfl) (by show _ ≤ 18446744073709551616; first | omega | (simp only [lF]; omega))) ?_))))
      refine rm rfl (ro rfl (aL.nat (lP rfl (Ht rfl) (Ht rfl) (by show _ ≤ 18446744073709551616; first | omega | (simp only [lF]; omega))) hx1.symm) (ra rfl (eX (ts (rm rfl (rm rfl (rm rfl (ro rfl (dV (Ht rfl) (Ht rfl) z6) (rm rfl (ro rfl (fM rfl U_254 U_189 (Ht rfl)) (ro rfl (fY U_46 Z_189 (Ht rfl) (Ht rfl) rfl zo (by rw [Nat.mul_one,Nat.zero_add])) ?_)))))))))))
      refine kK Z_189 (Ht rfl) (Ht rfl) (i:=0) rfl (by first | omega | (simp; omega)) rfl (eX (cY (rm rfl (ro rfl (eP (Ht rfl) (cJ 63) (by decide)) (ra rfl (eX (bA (cY (rm rfl (ro rfl (dV (Ht rfl) (cJ 1) z6) (ra rfl (eX (fU (i + 1,_,_,_) (hT.next hS.dig hv hglt2 hi hjl hp1 (Ca hok hbl hx1) rfl) (by dsimp only; omega) (zS rfl) (aU (aB (fF _ _ _)) (aU (fun _ _ _ h=>h) aY)))))))))))))))
     ·simp at hi
      have hkl:i = vs.length:=Nat.le_antisymm hT.ile hi
      subst hkl
      have hlen:=hT.len; have hcl:=hT.clt; have hbl:=hT.ble; have hok:=aP hT.dig (j + vs.length)
      obtain ⟨x,hx1⟩:∃ x,x = ((out.getD (j + vs.length) 0 + 18446744073709551616 - c) % 18446744073709551616 + 18446744073709551616 - b) % 18446744073709551616:=⟨_,rfl⟩
      have htd:=Ce hok hcl hbl hx1
      have hTk:=hT.fin hjl htd rfl
      have hx2:=htd.2
      simp only [BB] at hcl hok
      refine gV rfl (ts (rm rfl (rm rfl (rm rfl (ro rfl (dV (Ht rfl) (Ht rfl) z6) (ro rfl (fY U_46 Z_189 (Ht rfl) (Ht rfl) rfl zo (by rw [Nat.mul_one,Nat.zero_add])) ?_))))))
      refine ro rfl (eY A_189 Z_189 (Ht rfl) (i:=0) rfl (dY (aF zo))) (ro rfl (gZ U_189 U_254 (Ht rfl) z7) (rm rfl (ro rfl (lP rfl (Ht rfl) (Ht rfl) (by show _ ≤ 18446744073709551616; first | omega | (simp only [lF]; omega))) (rm rfl (ro rfl (aL.nat (lP rfl (Ht rfl) (Ht rfl) (by show _ ≤ 18446744073709551616; first | omega | (simp only [lF]; omega))) hx1.symm) (ra rfl (eX (ts (rm rfl (rm rfl (rm rfl (ro rfl (dV (Ht rfl) (Ht rfl) z6) ?_))))))))))))
      refine rm rfl (ro rfl (fM rfl U_254 U_189 (Ht rfl)) (ro rfl (fY U_46 Z_189 (Ht rfl) (Ht rfl) rfl zo (by rw [Nat.mul_one,Nat.zero_add])) ?_))
      refine kK Z_189 (Ht rfl) (Ht rfl) (i:=0) rfl (by first | omega | (simp; omega)) rfl (eX (cK (pF (fun (us2:List Nat) (g2:Nat)=>nN (m * 2 ^ s) vs us2 (qs.set j g2) j ∧ g2 < 4294967296 ∧ us2.length = (dg m).length + 1) (fun (us2:List Nat) (g2:Nat)=>[(8,NT .i64 s),(9,uY vs),(10,Is (.slice (some ⟨B57,0,none⟩) ((dg m).length + 1) ((dg m).length + 1))),(11,NT .i64 vs.length),(12,Is (.slice (some ⟨B69,0,none⟩) ((dg m).length + 1 - vs.length) ((dg m).length + 1 - vs.length))),(13,NT .i64 j),(15,NT .u64 g2)]) (fun (us2:List Nat) (g2:Nat)=>[box B57 189 (us2.map cB),box B69 189 (qs.map cB)]) ?_ (fun us2 g2 ⟨hD,hg2,hus2⟩=>?_))))
      ·refine ts (rm rfl (ro rfl (eP (Ht rfl) (cJ 63) (by decide)) (ro rfl (cR (Ht rfl) (cJ 1)) (eX (dQ (Ht rfl) (fun hbb => ?_) (fun hbb => ?_))))))
       ·simp only [decide_eq_true_eq] at hbb
        have hdec:(!decide (x / 2 ^ 63 = 0)) = true:=by rw [hbb]; rfl
        rw [hdec] at hTk
        obtain ⟨o1,ho1⟩:∃ o1,o1 = out.set (j + vs.length) (x % BB):=⟨_,rfl⟩
        rw [← ho1] at hTk
        have hg0:=hS.gpos hv rfl zo hTk
        have hol:=hTk.len
        refine ts (rm rfl (ro rfl (dW (Ht rfl) (cJ 1) zo z7) (ra rfl (eX (ts (ro rfl (cQ (cJ 0)) (eX (cK (ts (ro rfl (cQ (cJ 0)) (eX (eG ?_))))))))))))
        refine iS (fun (i : Nat) (out2 : List Nat) (c : Nat) => rV o1 vs j out2 i c) (fun (i : Nat) (out2 : List Nat) (c : Nat) => vs.length - i) (fun (i : Nat) (out2 : List Nat) (c : Nat) => [(8, NT .i64 s), (9, uY vs), (10, Is (.slice (some ⟨B57, 0, none⟩) ((dg m).length + 1) ((dg m).length + 1))), (11, NT .i64 vs.length), (12, Is (.slice (some ⟨B69, 0, none⟩) ((dg m).length + 1 - vs.length) ((dg m).length + 1 - vs.length))), (13, NT .i64 j), (15, NT .u64 (g - 1 : Nat)), (18, NT .u64 c), (23, NT .i64 i)]) (fun (i : Nat) (out2 : List Nat) (c : Nat) => [box B57 189 (out2.map cB), box B69 189 (qs.map cB)]) 0 o1 0 (rV.start hTk.dig vs j)
         (zS rfl) (aU (aB (by rw [ho1]; exact fF _ _ _)) (aU (fun _ _ _ h=>h) aY)) (fun i out2 c hB=>?_)
        refine cK (ts (rm rfl (rm rfl (ro rfl (gX (Ht rfl) (Ht rfl)) (eX (dQ (Ht rfl) (fun hi=>?_) (fun hi=>?_)))))))
        ·simp at hi
         have hlen:=hB.len; have hcl:=hB.cle; have hvi:=aP hv i; have hok:=aP hB.dig (i + j)
         simp only [BB] at hvi hok
         refine cU (cK (eG (cK (fZ (m:=14) (dp 10 rfl (cX (Ht rfl)) (dp 23 rfl (cX (Ht rfl)) (dp 13 rfl (cX (Ht rfl)) (cP 212 1 213 2 rfl (dV (Ht rfl) (Ht rfl) z6) (cP 211 0 214 3 rfl (fY U_46 Z_189 (Ht rfl) (Ht rfl) rfl zo (by rw [Nat.mul_one,Nat.zero_add])) ?_)))))))))
         refine dq 215 4 rfl (eY A_189 Z_189 (Ht rfl) (i:=0) rfl (dY (aF zo))) (dq 216 5 rfl (gZ U_189 U_254 (Ht rfl) z7) (dp 9 rfl (cX (Ht rfl)) (dp 23 rfl (cX (Ht rfl)) (cP 218 7 219 8 rfl (dZ U_46 Z_189 (Ht rfl) (Ht rfl) rfl (dY (aF zo))) (dq 220 9 rfl (dJ A_189 Z_189 (Ht rfl)) (dq 221 10 rfl (gZ U_189 U_254 (Ht rfl) z7) ?_))))))
         refine cP 217 6 222 11 rfl (dV (Ht rfl) (Ht rfl) z7) (dp 18 rfl (cX (Ht rfl)) (fV aO rfl (by kernel_rfl) (zF (zF (zF (aJ (aJ (aV (ro rfl (dV (Ht rfl) (Ht rfl) z7) (ra rfl (eX (ts (rm rfl (rm rfl (rm rfl (ro rfl (dV (Ht rfl) (Ht rfl) z6) ?_))))))))))))))))
         refine rm rfl (ro rfl (fM rfl U_254 U_189 (Ht rfl)) (ro rfl (fY U_46 Z_189 (Ht rfl) (Ht rfl) rfl zo (by rw [Nat.mul_one,Nat.zero_add])) ?_))
         refine kK Z_189 (Ht rfl) (Ht rfl) (i:=0) rfl (by first | omega | (simp; omega)) rfl (eX (cY (rm rfl (ro rfl (eP (Ht rfl) (cJ 32) (by decide)) (ra rfl (eX (bA (cY (rm rfl (ro rfl (dV (Ht rfl) (cJ 1) z6) (ra rfl (eX (fU (i + 1,_,_) (hB.next hv hi zo (Nat.add_comm _ _)) (by dsimp only; omega) (zS rfl) (aU (aB (fF _ _ _)) (aU (fun _ _ _ h=>h) aY)))))))))))))))
        ·simp at hi
         have hil:i = vs.length:=Nat.le_antisymm hB.ile hi
         subst hil
         have hlen:=hB.len; have hcl:=hB.cle; have hok:=aP hB.dig (j + vs.length)
         have hBk:=hB.fin zo rfl
         obtain ⟨_,hDn⟩:=hS.wrong hv hV0 (Nat.succ_pos j) rfl hg hTk hBk
         simp only [BB] at hok
         refine gV rfl (cY (rm rfl (rm rfl (rm rfl (ro rfl (dV (Ht rfl) (Ht rfl) z6) (rm rfl (rm rfl (rm rfl (ro rfl (dV (Ht rfl) (Ht rfl) z6) (ro rfl (fY U_46 Z_189 (Ht rfl) (Ht rfl) rfl zo (by rw [Nat.mul_one,Nat.zero_add])) ?_))))))))))
         refine ro rfl (eY A_189 Z_189 (Ht rfl) (i:=0) rfl (dY (aF zo))) (rm rfl (ro rfl (gZ U_254 U_189 (Ht rfl) (by show _ < 4294967296; first | omega | (simp only [lF]; omega))) (ro rfl (Oq rfl (Ht rfl) (Ht rfl)) (ro rfl (fY U_46 Z_189 (Ht rfl) (Ht rfl) rfl zo (by rw [Nat.mul_one,Nat.zero_add])) ?_))))
         refine kK Z_189 (Ht rfl) (Ht rfl) (i:=0) rfl (by first | omega | (simp; omega)) rfl (eX (bC (_,g - 1) ⟨hDn,by dsimp only; omega,by simp; omega⟩ (zS rfl) (aU (aB (fF _ _ _)) (aU (fun _ _ _ h=>h) aY))))
       ·simp only [decide_eq_false_iff_not] at hbb
        have hdec:(!decide (x / 2 ^ 63 = 0)) = false:=by rw [show x / 2 ^ 63 = 0 by omega]; rfl
        rw [hdec] at hTk
        have hol:=hTk.len
        refine cU (bC (_,g) ⟨hS.right hv hV0 (Nat.succ_pos j) rfl hg hTk,hglt,by dsimp only; omega⟩ (zS rfl) (aU (aB (fF _ _ _)) (aU (fun _ _ _ h=>h) aY)))
      ·refine cY (rm rfl (rm rfl (rm rfl (ro rfl (gZ U_254 U_189 (Ht rfl) (by show _ < 4294967296; first | omega | (simp only [lF]; omega))) (ro rfl (fY U_46 Z_189 (Ht rfl) (Ht rfl) rfl zo (by rw [Nat.mul_one, Nat.zero_add])) ?_)))))
       refine kK Z_189 (Ht rfl) (Ht rfl) (i:=1) rfl (by first | omega | (simp; omega)) rfl (eX (bA (cY (rm rfl (ro rfl (iL (Ht rfl) cV (Ch zo)) (ra rfl (eX (fU (j,us2,_) ⟨hD,hus2⟩ (by dsimp only; omega) (zS rfl) (aU (fun _ _ _ h=>h) (aU (aB (fF _ _ _)) aY))))))))))
   ·simp at hk
    have hk0:k = 0:=by omega
    subst hk0
    have hfin:=hS.fin hV0
    have hlq:=hS.lenq
    rw [hvv] at hfin
    have hdiv:val qs = m / n:=by rw [hfin.1]; exact Nat.mul_div_mul_right _ _ hp2
    have hsm:val us < BB ^ vs.length:=by have h1:=hS.small; rw [List.drop_zero] at h1; exact Nat.lt_trans h1 (iW hv)
    have hmod : val (us.take vs.length) / 2 ^ s = m % n := by
     rw [oA hsm zo,hfin.2,Nat.mul_mod_mul_right,Nat.mul_div_cancel _ hp2]
    have hru : (dg (val (us.take vs.length))).length ≤ 17592186044416 := by
     refine Nat.le_trans (jS (k:=vs.length) ?_) zo
     rw [oA hsm zo]; exact hsm
    refine gV rfl (gJ (i:=1) (tt:=12) rfl rfl (lE rfl zo (Nat.le_refl _)) (gJ (i:=0) (tt:=10) rfl rfl (lE rfl zo (Nat.le_refl _)) (cK (fZ (m:=7) (dp 12 rfl (cX (Ht rfl)) (dq 254 0 rfl (cZ K_267 (nU _ hS.digq zo) ⟨(Ht rfl),trivial⟩) (dp 10 rfl (cX (Ht rfl)) (dp 11 rfl (cX (Ht rfl)) (cP 256 2 257 3 rfl (aL.imp (qO U_46 Z_189 (Ht rfl) (Ht rfl) (fun m e=>by cases e) zo (by simp; omega) rfl) (Np _ _)) ?_)))))))))
    refine dq 258 4 rfl (cZ K_267 (nU _ (hS.dig.take' vs.length) (by simp; omega)) ⟨(Ht rfl),trivial⟩) ?_
    refine dp 8 rfl (cX (Ht rfl)) (fV aO rfl (by kernel_rfl) (zF (aJ (aJ (aJ (aV (ro rfl (cZ Tryz.call284 (a27 hru zo) ⟨(Ht rfl),(Ht rfl),trivial⟩) (ra rfl (ra rfl (eX (bM rfl (fX (eU rfl) ?_) (fX (eU rfl) ?_))))))))))))
    ·exact (dF hdiv)
    ·exact (dF hmod)
theorem Lc {m n:Nat} (hm:(dg m).length ≤ 17592186044415) (hn:(dg n).length ≤ 17592186044415):bB Tryz.prog 264 [aE m,aE n] (aE (Nat.gcd m n)):=by
 refine bB.intro Tryz.func264 rfl Tryz.ntmps264 rfl (fun cx=>(ts (ro rfl (cQ cV) (eX (cK (eG ?_))))))
 refine gB (fun (x : Nat) (y : Nat) => Nat.gcd x y = Nat.gcd m n ∧ (dg x).length ≤ 17592186044415 ∧ (dg y).length ≤ 17592186044415) (fun (x : Nat) (y : Nat) => y) (fun (x : Nat) (y : Nat) => [(0, aE x), (1, aE y)]) (fun (x : Nat) (y : Nat) => []) m n ⟨rfl, hm, hn⟩
  (zS rfl) aY (fun x y ⟨hg,hx,hy⟩=>?_)
 refine cK (ts (rm rfl (ro rfl (dG U_46 (Ht rfl) aA) (ro rfl (eC (Ht rfl) (cJ 0)) (eX (dQ (Ht rfl) (fun hb=>?_) (fun hb=>?_)))))))
 ·simp at hb
  have hy0:y ≠ 0:=fun e=>by rw [e,eI] at hb; simp at hb
  have hlt:=Nat.mod_lt x (Nat.pos_of_ne_zero hy0)
  refine cU (eG (ts (rm rfl (rm rfl (ro rfl (cZ K_265 (xK hx zo hy0) ⟨(Ht rfl),(Ht rfl),trivial⟩) (rm rfl (ro rfl (dK (Ht rfl) rfl) (ro rfl (dK (Ht rfl) rfl) (ra rfl (ra rfl (eX (cY (rm rfl (rm rfl (ra rfl (ra rfl (eX (bA (fU (y,x % y) ⟨by rw [← hg,Nat.gcd_comm x y,Nat.gcd_rec y x,Nat.gcd_comm],hy,Nat.le_trans (gO (Nat.le_of_lt hlt)) hy⟩ hlt (zS rfl) aY)))))))))))))))))))
 ·simp at hb
  have hy0:y = 0:=aM.1 (by simpa using hb)
  subst hy0
  rw [Nat.gcd_zero_right] at hg
  refine gV rfl (ts (rm rfl (ra rfl (eX (fW rfl (fX (eU rfl) ?_))))))
  exact (dF hg)
theorem Ng {m:Nat} (hm:(dg m).length ≤ 8796093022208):bB Tryz.prog 275 [aE m] (pZ (uS m)):=by
 refine bB.intro Tryz.func275 rfl Tryz.ntmps275 rfl (fun cx=>(ts (ro rfl (cQ (bF.cS (l:=[]) rfl)) (eX (cK (ts (rm rfl (ro rfl (dG U_46 (Ht rfl) aA) (ro rfl (cR (Ht rfl) (cJ 0)) (eX (dQ (Ht rfl) (fun hb=>?_) (fun hb=>?_))))))))))))
 ·simp at hb
  have h0:m = 0:=aM.1 (by simpa using hb)
  subst h0
  refine ts (ro rfl (cQ (bF.cS (l:=[48]) rfl)) (eX (fW rfl (fX (eU rfl) ?_))))
  exact (jE rfl)
 ·simp at hb
  have h0:m ≠ 0:=fun e=>hb (by rw [e,eI])
  refine cU (ts (ro rfl (cQ cV) (eX (cK (eG (Db 5 1 ?_))))))
  refine iS (fun (x : Nat) (out : List Nat) (v : Value) => Aa m out x ∧ x ≤ m) (fun (x : Nat) (out : List Nat) (v : Value) => x) (fun (x : Nat) (out : List Nat) (v : Value) => [(0, aE x), (3, Is v)]) (fun (x : Nat) (out : List Nat) (v : Value) => [cD 5 1 v (out.map yE)]) m [] (.slice none 0 0) ⟨Aa.start m, Nat.le_refl m⟩
   (zS rfl) (cT.refl _) (fun x out v ⟨hO,hle⟩=>?_)
  refine cK (ts (rm rfl (ro rfl (dG U_46 (Ht rfl) aA) (ro rfl (eC (Ht rfl) (cJ 0)) (eX (dQ (Ht rfl) (fun hc=>?_) (fun hc=>?_)))))))
  ·simp at hc
   have hx0:x ≠ 0:=fun e=>by rw [e,eI] at hc; simp at hc
   have hxm:=gO hle
   refine cU (eG (ts (rm rfl (ro rfl (cZ Tryz.call281 (Hd zo (by decide) (by decide)) ⟨(Ht rfl),(cJ 1000000000),trivial⟩) (rm rfl (ro rfl (dK (Ht rfl) rfl) (ro rfl (dK (Ht rfl) rfl) (ra rfl (ra rfl (eX (cK (ts (ro rfl (cQ (cJ 0)) (eX (eG ?_)))))))))))))))
   refine vV (fun (r : Nat) (k : Nat) (out : List Nat) (v : Value) => yR m out (x / 1000000000) r k) (fun (r : Nat) (k : Nat) (out : List Nat) (v : Value) => 9 - k) (fun (r : Nat) (k : Nat) (out : List Nat) (v : Value) => [(3, Is v), (4, aE (x / 1000000000)), (5, cB r), (6, NT .i64 k)]) (fun (r : Nat) (k : Nat) (out : List Nat) (v : Value) => [cD 5 1 v (out.map yE)]) (x % 1000000000) 0 out v (hO.inner)
    (zS rfl) (cT.refl _) (fun r k out v hI=>?_)
   refine cK (ts (rm rfl (ro rfl (gX (Ht rfl) (cJ 9)) (rm rfl (fQ rfl rfl (kX rfl rfl (Ht rfl) (fun h=>cX (Ht rfl))) (fQ rfl rfl (kX rfl rfl (Ht rfl) (fun h=>eC (bF.wu rfl h) (cJ 0))) (fQ rfl rfl (kX rfl rfl (Ht rfl) (fun h=>cX (bF.wu rfl h))) (fQ rfl rfl (pE rfl rfl rfl (fun h h2=>cX (Ht rfl))) (fQ rfl rfl (pE rfl rfl rfl (fun h h2=>dG U_46 (bF.wu rfl ⟨h,h2⟩) aA)) (fQ rfl rfl (pE rfl rfl rfl (fun h h2=>eC (bF.wu rfl ⟨h,h2⟩) (cJ 0))) (fQ rfl rfl (kX rfl rfl (Ht rfl) (fun h=>gT (bF.wu rfl h) (fun h2=>(bF.wu rfl ⟨h,h2⟩)))) ?_)))))))))))
   refine ro rfl (fE (Ht rfl) (fun h=>(bF.wu rfl h))) (eX (dQ (Ht rfl) (fun hd=>?_) (fun hd=>?_)))
   ·simp at hd
    have hxr:0 < x / 1000000000 ∨ 0 < r:=hd.2.elim (fun h=>.inr h) (fun h=>.inl (Nat.pos_of_ne_zero (fun e=>by rw [e,eI] at h; simp at h)))
    have hln:=hI.len hxr
    have hr32:=hI.r32
    refine cU (cK (eG (ts (rm rfl (rm rfl (ro rfl (nC (Ht rfl) (cJ 10) zo) (ro rfl (dV (cJ 48) (Ht rfl) (by show _ < 4294967296; first | omega | (simp only [lF]; omega))) (ro rfl (gZ U_189 U_5 (Ht rfl) (by show _ < 256; first | omega | (simp only [lF]; omega))) (ro rfl (dN (xs:=[.tmp 37]) U_293 Z_5 Tryz.zeroValue5 (cW (Ht rfl) cG) rfl rfl rfl) (rW (inf:=Tryz.t5) zV Vp rfl rfl rfl (Ht rfl) (Ht rfl) (i:=0) rfl (by simp) (fun T hT=>by simp at hT; subst hT; exact El.one) (by show _ * 1 ≤ _; simp only [List.length_map,List.length_cons,List.length_nil]; omega) (by simp only [List.length_map,List.length_cons,List.length_nil]; omega) rfl (fun v2=>?_)))))))))))
    refine ra rfl (eX (cY (rm rfl (ro rfl (jC (Ht rfl) (cJ 10) zo (by show _ < 4294967296; first | omega | (simp only [lF]; omega))) (ra rfl (eX (bA (cY (rm rfl (ro rfl (dV (Ht rfl) (cJ 1) z6) (ra rfl (eX (fU (r / 10,k + 1,_,v2) (hI.next hd.1 hxr) (by dsimp only; omega) (zS rfl) (aU (cA (Yb _ _)) aY))))))))))))))
   ·simp at hd
    have hO2 := hI.fin (fun ⟨h1, h2⟩ => by
     have h3:=hd h1
     rcases h2 with h2 | h2
     ·have:=qE.1 h3.2; omega
     ·omega)
    refine gV rfl (cY (rm rfl (ra rfl (eX (bA (fU (x / 1000000000,_,_) ⟨hO2,Nat.le_trans (Nat.div_le_self _ _) hle⟩ (Nat.div_lt_self (Nat.pos_of_ne_zero hx0) (by decide)) (zS rfl) (cT.refl _)))))))
  ·simp at hc
   have hx0:x = 0:=aM.1 (by simpa using hc)
   subst hx0
   have hfin:=hO.fin
   have hdl:=pJ m
   rw [hfin] at hdl
   refine gV rfl (cK (ts (rm rfl (ro rfl (rL U_293 (Ht rfl) (i:=0) rfl aA) (ro rfl (iL (Ht rfl) cV (Ch zo)) (ro rfl (cQ (cJ 0)) (ra rfl (eX (eG ?_)))))))))
   refine gB (fun (k : Nat) (o : List Nat) => Ac out o k) (fun (k : Nat) (o : List Nat) => out.length - k) (fun (k : Nat) (o : List Nat) => [(3, Is v), (7, NT .i64 k), (8, bD .i64 ((out.length : Int) - 1 - (k : Int)))]) (fun (k : Nat) (o : List Nat) => [cD 5 1 v (o.map yE)]) 0 out (Ac.start out)
    (aQ rfl (aQ rfl (aZ rfl (aR zo) aX))) (cT.refl _) (fun k o hR=>?_)
   refine cK (ts (rm rfl (rm rfl (ro rfl (rM (Ht rfl) (Ht rfl)) (eX (dQ (Ht rfl) (fun hk=>?_) (fun hk=>?_)))))))
   ·simp only [decide_eq_true_eq] at hk
    have hk2:2 * k + 1 < out.length:=by omega
    obtain ⟨j,hj⟩:∃ j,j = out.length - 1 - k:=⟨_,rfl⟩
    have hlen:=hR.len
    refine oJ (E':=[(3,_),(7,_),(8,_),(46,_),(47,_),(48,_)]) (aQ rfl (aQ rfl (aZ rfl (aR (show (out.length:Int) - 1 - (k:Int) = (j:Int) by omega)) (zS rfl)))) (cU (cK (eG (W.D_start (m:=14) (fun b=>cond b ([cD 5 1 v ((o.map yE).set k (yE (o.getD j 0)))]) _) 13 (W.D_step (Ei:=[(3,_)]) rfl rfl (W.Srcs.cons (W.Src.pre rfl rfl) W.Srcs.nil) rfl (by kernel_rfl) (dX rfl (cX (Ht rfl))) (W.D_step (Ei:=[(7,_)]) rfl rfl (W.Srcs.cons (W.Src.pre rfl rfl) W.Srcs.nil) rfl (by kernel_rfl) (dX rfl (cX (Ht rfl))) ?_))))))
    refine W.D_pure (Ei:=[(3,_)]) rfl rfl (W.Srcs.cons (W.Src.pre rfl rfl) W.Srcs.nil) rfl (fun _=>dX rfl (cX (Ht rfl))) (W.D_pure (Ei:=[(8,_)]) rfl rfl (W.Srcs.cons (W.Src.pre rfl rfl) W.Srcs.nil) rfl (fun _=>dX rfl (cX (Ht rfl))) (W.D_step (Ei:=[(3,_)]) rfl rfl (W.Srcs.cons (W.Src.pre rfl rfl) W.Srcs.nil) rfl (by kernel_rfl) (dX rfl (cX (Ht rfl))) (W.D_step (Ei:=[(8,_)]) rfl rfl (W.Srcs.cons (W.Src.pre rfl rfl) W.Srcs.nil) rfl (by kernel_rfl) (dX rfl (cX (Ht rfl))) (W.D_step (Ei:=[(57,_),(58,_)]) rfl rfl (W.Srcs.cons (W.Src.op 4 rfl rfl) (W.Srcs.cons (W.Src.op 5 rfl rfl) W.Srcs.nil)) rfl (by kernel_rfl) (dX rfl (dB U_293 Z_5 (Ht rfl) (Ht rfl) rfl (i:=0) rfl (by first | omega | (simp; omega)) rfl)) ?_))))
    refine W.D_step (Ei:=[(59,_)]) rfl rfl (W.Srcs.cons (W.Src.op 6 rfl rfl) W.Srcs.nil) rfl (by kernel_rfl) (dX rfl (oX Tryz.isAgg5 Z_5 (Ht rfl) (i:=0) rfl rfl (dY (aF zo)))) (W.D_step (Ei:=[(3,_)]) rfl rfl (W.Srcs.cons (W.Src.pre rfl rfl) W.Srcs.nil) rfl (by kernel_rfl) (dX rfl (cX (Ht rfl))) (W.D_step (Ei:=[(7,_)]) rfl rfl (W.Srcs.cons (W.Src.pre rfl rfl) W.Srcs.nil) rfl (by kernel_rfl) (dX rfl (cX (Ht rfl))) (W.D_step (Ei:=[(61,_),(62,_)]) rfl rfl (W.Srcs.cons (W.Src.op 8 rfl rfl) (W.Srcs.cons (W.Src.op 9 rfl rfl) W.Srcs.nil)) rfl (by kernel_rfl) (dX rfl (dB U_293 Z_5 (Ht rfl) (Ht rfl) rfl (i:=0) rfl (by first | omega | (simp; omega)) rfl)) ?_)))
    refine W.D_step (Ei:=[(63,_)]) rfl rfl (W.Srcs.cons (W.Src.op 10 rfl rfl) W.Srcs.nil) rfl (by kernel_rfl) (dX rfl (oX Tryz.isAgg5 Z_5 (Ht rfl) (i:=0) rfl rfl (dY (aF zo)))) (W.D_step (Ei:=[(53,_),(54,_)]) rfl rfl (W.Srcs.cons (W.Src.op 0 rfl rfl) (W.Srcs.cons (W.Src.op 1 rfl rfl) W.Srcs.nil)) rfl (by kernel_rfl) (dX rfl (dB U_293 Z_5 (Ht rfl) (Ht rfl) rfl (i:=0) rfl (by first | omega | (simp; omega)) rfl)) (W.D_put (Ei:=[(65,_),(60,_)]) rfl rfl (W.Srcs.cons (W.Src.op 12 rfl rfl) (W.Srcs.cons (W.Src.op 7 rfl rfl) W.Srcs.nil)) rfl (Cy Z_5 (Ht rfl) (Ht rfl) El.one (i:=0) rfl rfl (by first | omega | (simp; omega))) ?_))
    refine W.D_done aO rfl (by kernel_rfl) rfl (W.F_val (W.F_val (W.F_val (W.F_val (W.F_val (W.F_val (W.F_val (W.F_val (W.F_val (W.F_val (W.F_val (W.F_val (W.F_val (W.F_put (W.F_nil (ro rfl (dB U_293 Z_5 (Ht rfl) (Ht rfl) rfl (i:=0) rfl (by first | omega | (simp; omega)) rfl) (kM Z_5 (Ht rfl) (Ht rfl) El.one (i:=0) rfl rfl (by first | omega | (simp; omega)) rfl (eX (bA (cY (rm rfl (ro rfl (dV (Ht rfl) (cJ 1) z6) (rm rfl (ro rfl (iL (Ht rfl) cV (Ch zo)) ?_))))))))))))))))))))))))
    refine ra rfl (ra rfl (eX (fU (k + 1,_) (hR.next hk2 hj) (by dsimp only; omega) (aQ rfl (aQ rfl (aZ rfl (aR zo) aX))) (aU (cA (Pn _ _ _ _ _)) aY))))
   ·simp only [decide_eq_false_iff_not] at hk
    have hrev:=hR.fin zo
    subst hrev
    refine gV rfl (gJ (i:=0) (tt:=3) rfl rfl kH (ts (rm rfl (ro rfl (Jb zV a1A a1B (Ht rfl) (by rw [← hfin]; simpa using Nn h0) (fun b hb=>Ur (n:=m) b (by rw [tY h0,hfin]; exact hb))) ?_))))
    refine ra rfl (eX (fW rfl (fX (eU rfl) ?_)))
    exact (jE (by rw [tY h0,hfin]))
end
section
open Go Go.RowKit
theorem Gu {n : Nat} {E : dC} {H : Hp} {d : Option Tmp} {t : TypeId} {pos : String} {af : Array Edge} {g : Option (Nat × Bool)}  :
  aL Tryz.prog n E H ⟨d,.build 129 #[],t,pos,af,g⟩ (fB [Is (.bool false),Is (.slice none 0 0)]) :=
 fT (parts := []) fun a V w hs => by
  refine ⟨.agg #[(.bool false),(.slice none 0 0)],?_,[(.bool false),(.slice none 0 0)],rfl,aW (⟨rfl,trivial⟩) (aW (⟨rfl,trivial⟩) (aG))⟩
  simp [Instr.build,Instr.fill,Sem.run_bind,Result.andThen,eN,O_129,U_129,Z_4,Z_46]
theorem lV {n : Nat} {E : dC} {H : Hp} {d : Option Tmp} {t : TypeId} {pos : String} {af : Array Edge} {g : Option (Nat × Bool)} {x0 x1 : Operand} {T0 T1 : Ty} [s0 : dO T0 1 false] (h0 : bF E x0 T0) [s1 : dO T1 1 false] (h1 : bF E x1 T1) :
  aL Tryz.prog n E H ⟨d,.build 129 #[(0,x0),(1,x1)],t,pos,af,g⟩ (fB [T0,T1]) :=
 fT (parts := [(0, x0), (1, x1)]) fun a V w hs => by
  have p0:=h0 n V a hs
  generalize e0:a.eval x0 = v0 at p0
  have q0:=(s0.ok v0 V p0).2.2 rfl
  have p1:=h1 n V a hs
  generalize e1:a.eval x1 = v1 at p1
  have q1:=(s1.ok v1 V p1).2.2 rfl
  refine ⟨.agg #[v0,v1],?_,[v0,v1],rfl,aW (⟨p0,q0⟩) (aW (⟨p1,q1⟩) (aG))⟩
  simp [e0,e1,Instr.build,Instr.fill,Sem.run_bind,Result.andThen,eN,q0.cells,q1.cells,O_129,U_129,Z_4,Z_46]
theorem lK {n : Nat} {E : dC} {H : Hp} {d : Option Tmp} {t : TypeId} {pos : String} {af : Array Edge} {g : Option (Nat × Bool)} {x0 x1 x2 : Operand} {T0 T1 T2 T3 T4 : Ty} (h0 : bF E x0 (fB [T0, T1])) (h1 : bF E x1 (fB [T2, T3])) [s2 : dO T4 1 false] (h2 : bF E x2 T4) :
  aL Tryz.prog n E H ⟨d,.build 131 #[(0,x0),(1,x1),(2,x2)],t,pos,af,g⟩ (fB [T0,T1,T2,T3,T4]) :=
 fT (parts := [(0, x0), (1, x1), (2, x2)]) fun a V w hs => by
  obtain ⟨v0,e0,c0⟩:=h0 n V a hs
  obtain ⟨c0_0,c0_1,rfl⟩:∃ c0_0 c0_1,v0 = [c0_0,c0_1]:=yJ (by simpa using c0.length)
  obtain ⟨v1,e1,c1⟩:=h1 n V a hs
  obtain ⟨c1_0,c1_1,rfl⟩:∃ c1_0 c1_1,v1 = [c1_0,c1_1]:=yJ (by simpa using c1.length)
  have p2:=h2 n V a hs
  generalize e2:a.eval x2 = v2 at p2
  have q2:=(s2.ok v2 V p2).2.2 rfl
  refine ⟨.agg #[c0_0,c0_1,c1_0,c1_1,v2],?_,[c0_0,c0_1,c1_0,c1_1,v2],rfl,aW (c0.at (i:=0) rfl rfl) (aW (c0.at (i:=1) rfl rfl) (aW (c1.at (i:=0) rfl rfl) (aW (c1.at (i:=1) rfl rfl) (aW (⟨p2,q2⟩) (aG)))))⟩
  simp [e0,e1,e2,Instr.build,Instr.fill,Sem.run_bind,Result.andThen,eN,q2.cells,O_131,U_131,Z_46,Z_129]
theorem Fa {n : Nat} {E : dC} {H : Hp} {d : Option Tmp} {t : TypeId} {pos : String} {af : Array Edge} {g : Option (Nat × Bool)}  :
  aL Tryz.prog n E H ⟨d,.build 51 #[],t,pos,af,g⟩ (fB [Is (.bool false),Is (.slice none 0 0),Is (.bool false),Is (.slice none 0 0),Is (.slice none 0 0)]) :=
 fT (parts := []) fun a V w hs => by
  refine ⟨.agg #[(.bool false),(.slice none 0 0),(.bool false),(.slice none 0 0),(.slice none 0 0)],?_,[(.bool false),(.slice none 0 0),(.bool false),(.slice none 0 0),(.slice none 0 0)],rfl,aW (⟨rfl,trivial⟩) (aW (⟨rfl,trivial⟩) (aW (⟨rfl,trivial⟩) (aW (⟨rfl,trivial⟩) (aW (⟨rfl,trivial⟩) (aG)))))⟩
  simp [Instr.build,Instr.fill,Sem.run_bind,Result.andThen,eN,O_51,U_51,Z_47,Z_49]
theorem jA (a:Addr) (w:World):(Instr.fieldAt 129 (.pointer (some a)) 0).run Tryz.prog w = .ok (.pointer (some (a.add 0))) w:=by
 simp [Instr.fieldAt,Instr.sureAddr,fieldPlace,Sem.run_bind,Result.andThen,U_129,Z_4]
theorem eL (a:Addr) (w:World):(Instr.fieldAt 129 (.pointer (some a)) 1).run Tryz.prog w = .ok (.pointer (some (a.add 1))) w:=by
 simp [Instr.fieldAt,Instr.sureAddr,fieldPlace,Sem.run_bind,Result.andThen,U_129,Z_46]
theorem gP (a:Addr) (w:World):(Instr.fieldAt 131 (.pointer (some a)) 0).run Tryz.prog w = .ok (.pointer (some (a.add 0))) w:=by
 simp [Instr.fieldAt,Instr.sureAddr,fieldPlace,Sem.run_bind,Result.andThen,U_131,Z_129]
theorem iD (a:Addr) (w:World):(Instr.fieldAt 131 (.pointer (some a)) 1).run Tryz.prog w = .ok (.pointer (some (a.add 2))) w:=by
 simp [Instr.fieldAt,Instr.sureAddr,fieldPlace,Sem.run_bind,Result.andThen,U_131,Z_129]
theorem gR (a:Addr) (w:World):(Instr.fieldAt 131 (.pointer (some a)) 2).run Tryz.prog w = .ok (.pointer (some (a.add 4))) w:=by
 simp [Instr.fieldAt,Instr.sureAddr,fieldPlace,Sem.run_bind,Result.andThen,U_131,Z_46]
end
end Go.Proofs.YteohomnhncjcnaaGreat
