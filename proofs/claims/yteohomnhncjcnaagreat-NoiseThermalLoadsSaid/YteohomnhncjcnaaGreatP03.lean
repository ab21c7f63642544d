/- What functions of the program compute, proved by walks over their code, and the plain mathematics of it; a part of the proof in the last text. -/
import Derived.Test.YteohomnhncjcnaaGreatP02
set_option linter.unusedVariables false
set_option linter.unusedSimpArgs false
set_option maxRecDepth 100000
set_option maxHeartbeats 4000000
namespace Go.Proofs.YteohomnhncjcnaaGreat
section
open Go Go.RowKit
namespace C
inductive Ob:Type 1 where
 | val (T:Ty)
 | blk (src:Option Nat) (keep:Bool) (γ:Type) (T:γ → Ty) (A:γ → SA)
 | dep (t u:Nat) (F:Ty → Ty → Ty) (I:Ty → Prop)
def Src (ops : List Oper) (m : Nat) (E0 : cT) (prev : List (Nat × Ob)) (o : Oper) (t : Nat) (T : Ty) : Prop :=
 (fF E0 t = some T ∧ ((List.range m).all fun j=>!(fC ops j == some t)) = true) ∨
 ∃ j,prev.reverse[j]? = some (t,.val T) ∧ (o.after.toList.any fun e=>Nat.beq e.on j && Region.binds .any e) = true
theorem Src.pre {ops:List Oper} {m:Nat} {E0:cT} {prev:List (Nat × Ob)} {o:Oper} {t:Nat} {T:Ty} (h:fF E0 t = some T) (h':((List.range m).all fun j=>!(fC ops j == some t)) = true):Src ops m E0 prev o t T:=.inl ⟨h,h'⟩
theorem Src.op {ops:List Oper} {m:Nat} {E0:cT} {prev:List (Nat × Ob)} {o:Oper} {t:Nat} {T:Ty} (j:Nat) (h:prev.reverse[j]? = some (t,.val T)) (h':(o.after.toList.any fun e=>Nat.beq e.on j && Region.binds .any e) = true):Src ops m E0 prev o t T:=.inr ⟨j,h,h'⟩
def Srcs (ops:List Oper) (m:Nat) (E0:cT) (prev:List (Nat × Ob)) (o:Oper) (Ei:cT):Prop:=∀ t T,fF Ei t = some T → Src ops m E0 prev o t T
theorem Srcs.nil {ops:List Oper} {m:Nat} {E0:cT} {prev:List (Nat × Ob)} {o:Oper}:Srcs ops m E0 prev o []:=fun t T h=>by cases h
theorem Srcs.cons {ops : List Oper} {m : Nat} {E0 Ei : cT} {prev : List (Nat × Ob)} {o : Oper} {t : Nat} {T : Ty} (h : Src ops m E0 prev o t T) (k : Srcs ops m E0 prev o Ei) : Srcs ops m E0 prev o ((t, T) :: Ei) := fun u U hl => by
 rw [dC] at hl
 by_cases e:t = u
 ·subst e; rw [if_pos rfl] at hl; obtain rfl:=Option.some.inj hl; exact h
 ·rw [if_neg e] at hl; exact k u U hl
section
variable {P:Program} {R:hJ} {cx:Cx} {n:Nat} {k:List It} {E:cT} {H:Hp}
def Tz : List (Nat × Ob) → Nat → Bool
 | [],_=>false
 | (_,.blk (some p) _ _ _ _) :: r,q=>Nat.beq p q || Tz r q
 | _ :: r,q=>Tz r q
theorem Cv {q : Nat} : ∀ {l : List (Nat × Ob)}, Tz l q = false → ∀ {d : Nat} {kp : Bool} {γ : Type} {T : γ → Ty} {A : γ → SA}, (d, Ob.blk (some q) kp γ T A) ∈ l → False
 | [],_,_,_,_,_,_,h=>by cases h
 | (d', b) :: r, hu, d, kp, γ, T, A, h => by
  rcases List.mem_cons.1 h with e | e
  ·cases e
   simp [Tz,Nat.beq_refl] at hu
  ·refine Cv (l := r) ?_ e
   cases b with
   | val T=>exact hu
   | dep t u F I=>exact hu
   | blk src kp' γ' T' A' =>
    cases src with
    | none=>exact hu
    | some p=>simp [Tz] at hu; exact hu.2
def Lk : Ob → Ty → Prop
 | .val T0,T=>T = T0
 | .blk _ _ _ T0 _,T=>∃ x,T = T0 x
 | .dep _ _ _ I,T=>I T
def yW (P : Program) (n : Nat) (ops : List Oper) (m : Nat) (E0 : cT) (H : Hp) (prev : List (Nat × Ob)) (o : Oper) : Ob → Prop
 | .val T=>∃ Ei,Srcs ops m E0 prev o Ei ∧ iA P n ops.toArray Ei H o T
 | .blk none _ γ T A=>o.guard = none ∧ ∃ Ei,Srcs ops m E0 prev o Ei ∧ iS P n Ei H o γ T A
 | .blk (some q) _ γ T A=>o.guard = none ∧ ∃ Ei t src γq Tq Aq,prev.reverse[q]? = some (t,.blk src false γq Tq Aq) ∧ (o.after.toList.any fun e=>Nat.beq e.on q && Region.binds .any e) = true ∧ Srcs ops m E0 prev o Ei ∧ (∀ x,Hk P n ((t,Tq x) :: Ei) (Aq x) o γ T A) ∧ Tz prev q = false
 | .dep t u F I => ∃ j b j' b', prev.reverse[j]? = some (t, b) ∧ (o.after.toList.any fun e => Nat.beq e.on j && Region.binds .any e) = true ∧ prev.reverse[j']? = some (u, b') ∧ (o.after.toList.any fun e => Nat.beq e.on j' && Region.binds .any e) = true ∧
   ∀ T U,Lk b T → Lk b' U → iA P n ops.toArray [(t,T),(u,U)] H o (F T U) ∧ I (F T U)
def mP (P : Program) (n : Nat) (ops : List Oper) (m : Nat) (E0 : cT) (H : Hp) : List (Nat × Ob) → Prop
 | []=>True
 | (d,b) :: prev=>(∃ o,ops[prev.length]? = some o ∧ o.dst = some d ∧ d < n ∧ yW P n ops m E0 H prev o b) ∧ mP P n ops m E0 H prev
def Dr (P : Program) (R : hJ) (cx : Cx) (n : Nat) (ops : List Oper) (m : Nat) (k : List It) (E0 : cT) (H : Hp) (l : List Oper) (acc : List (Nat × Ob)) : Prop :=
 ops = (ops.take acc.length) ++ l → mP P n ops m E0 H acc → ∀ id,Tr P R cx n (.code (.region id ops.toArray true) :: k) E0 H
def Fin' (P : Program) (R : hJ) (cx : Cx) (n : Nat) (ops : Array Oper) (l : List Oper) (k : List It) : List (Nat × Ob) → cT → Hp → Prop
 | [],E,H=>Rg P R cx n ops l k E H
 | (d,.val T) :: r,E,H=>Fin' P R cx n ops l k r ((d,T) :: E) H
 | (d,.blk _ true γ T A) :: r,E,H=>∀ x:γ,Fin' P R cx n ops l k r ((d,T x) :: E) (H ++ [A x])
 | (d,.blk _ false γ T A) :: r,E,H=>∀ x:γ,Fin' P R cx n ops l k r ((d,T x) :: E) H
 | (d,.dep t u F _) :: r,E,H=>∀ T U,fF E t = some T → fF E u = some U → Fin' P R cx n ops l k r ((d,F T U) :: E) H
theorem D_start {ops:List Oper} {m:Nat} {id:Nat} (h:Dr P R cx n ops m k E H ops []):Tr P R cx n (.code (.region id ops.toArray true) :: k) E H:=h (by simp) trivial id
theorem D_step {ops l : List Oper} {m : Nat} {o : Oper} {acc : List (Nat × Ob)} {d : Nat} {T : Ty} {Ei : cT} (hd : o.dst = some d) (hn : Nat.blt d n = true) (hs : Srcs ops m E acc o Ei) (hst : iA P n ops.toArray Ei H o T)
  (h:Dr P R cx n ops m k E H l ((d,.val T) :: acc)):Dr P R cx n ops m k E H (o :: l) acc:=fun hops hobs=>by
 have hlen : acc.length ≤ ops.length := by
  have:=congrArg List.length hops
  simp at this; omega
 have ho : ops[acc.length]? = some o := by
  rw [hops,List.getElem?_append_right (by simp; omega)]
  simp [Nat.min_eq_left hlen]
 have hlt:acc.length < ops.length:=(List.getElem?_eq_some_iff.1 ho).1
 refine h ?_ ⟨⟨o,ho,hd,Nat.le_of_ble_eq_true hn,Ei,hs,hst⟩,hobs⟩
 rw [List.length_cons,List.take_succ_eq_append_getElem hlt]
 have:ops[acc.length] = o:=by simpa [hlt] using ho
 rw [this]
 simpa using hops
theorem a2I (kp : Bool) {ops l : List Oper} {m : Nat} {o : Oper} {acc : List (Nat × Ob)} {d : Nat} {γ : Type} {T : γ → Ty} {A : γ → SA} {Ei : cT} (hg : o.guard = none) (hd : o.dst = some d) (hn : Nat.blt d n = true) (hs : Srcs ops m E acc o Ei) (hst : iS P n Ei H o γ T A)
  (h:Dr P R cx n ops m k E H l ((d,.blk none kp γ T A) :: acc)):Dr P R cx n ops m k E H (o :: l) acc:=fun hops hobs=>by
 have hlen : acc.length ≤ ops.length := by
  have:=congrArg List.length hops
  simp at this; omega
 have ho : ops[acc.length]? = some o := by
  rw [hops,List.getElem?_append_right (by simp; omega)]
  simp [Nat.min_eq_left hlen]
 have hlt:acc.length < ops.length:=(List.getElem?_eq_some_iff.1 ho).1
 refine h ?_ ⟨⟨o,ho,hd,Nat.le_of_ble_eq_true hn,hg,Ei,hs,hst⟩,hobs⟩
 rw [List.length_cons,List.take_succ_eq_append_getElem hlt]
 have:ops[acc.length] = o:=by simpa [hlt] using ho
 rw [this]
 simpa using hops
theorem D_new {ops l : List Oper} {m : Nat} {o : Oper} {acc : List (Nat × Ob)} {d : Nat} {γ : Type} {T : γ → Ty} {A : γ → SA} {Ei : cT} (hg : o.guard = none) (hd : o.dst = some d) (hn : Nat.blt d n = true) (hs : Srcs ops m E acc o Ei) (hst : iS P n Ei H o γ T A)
  (h:Dr P R cx n ops m k E H l ((d,.blk none true γ T A) :: acc)):Dr P R cx n ops m k E H (o :: l) acc:=a2I true hg hd hn hs hst h
theorem a4F {ops l : List Oper} {m : Nat} {o : Oper} {acc : List (Nat × Ob)} {d t u : Nat} {b b' : Ob} (F : Ty → Ty → Ty) (I : Ty → Prop) (j j' : Nat) (hd : o.dst = some d) (hn : Nat.blt d n = true) (hj : acc.reverse[j]? = some (t, b)) (he : (o.after.toList.any fun e => Nat.beq e.on j && Region.binds .any e) = true)
  (hj':acc.reverse[j']? = some (u,b')) (he':(o.after.toList.any fun e=>Nat.beq e.on j' && Region.binds .any e) = true) (hst:∀ T U,Lk b T → Lk b' U → iA P n ops.toArray [(t,T),(u,U)] H o (F T U) ∧ I (F T U))
  (h:Dr P R cx n ops m k E H l ((d,.dep t u F I) :: acc)):Dr P R cx n ops m k E H (o :: l) acc:=fun hops hobs=>by
 have hlen : acc.length ≤ ops.length := by
  have:=congrArg List.length hops
  simp at this; omega
 have ho : ops[acc.length]? = some o := by
  rw [hops,List.getElem?_append_right (by simp; omega)]
  simp [Nat.min_eq_left hlen]
 have hlt:acc.length < ops.length:=(List.getElem?_eq_some_iff.1 ho).1
 refine h ?_ ⟨⟨o,ho,hd,Nat.le_of_ble_eq_true hn,j,b,j',b',hj,he,hj',he',hst⟩,hobs⟩
 rw [List.length_cons,List.take_succ_eq_append_getElem hlt]
 have:ops[acc.length] = o:=by simpa [hlt] using ho
 rw [this]
 simpa using hops
def jC : Ob → Ty × SA → Prop
 | .val T,c=>c = (T,SA.emp)
 | .blk _ kp γ T A,c=>∃ x:γ,c.1 = T x ∧ (kp = true → c.2 = A x)
 | .dep _ _ _ I,c=>c.2 = SA.emp ∧ I c.1
theorem jC.fits : ∀ {b : Ob} {c : Ty × SA}, jC b c → Lk b c.1
 | .val T,c,h=>by rw [show c = (T,SA.emp) from h]; rfl
 | .blk _ _ _ _ _,c,h=>by obtain ⟨x,h1,_⟩:=h; exact ⟨x,h1⟩
 | .dep _ _ _ _,_,h=>h.2
theorem mP.get {ops : List Oper} {m : Nat} : ∀ {acc : List (Nat × Ob)}, mP P n ops m E H acc → ∀ {i : Nat} {d : Nat} {b : Ob}, acc.reverse[i]? = some (d, b) →
  ∃ o,ops[i]? = some o ∧ o.dst = some d ∧ d < n ∧ yW P n ops m E H ((acc.reverse.take i).reverse) o b
 | [],_,i,d,b,h=>by simp at h
 | (d', b') :: prev, ⟨⟨o, h1, h2, h3, h4⟩, hp⟩, i, d, b, h => by
  rw [List.reverse_cons] at h
  by_cases e:i < prev.reverse.length
  ·rw [List.getElem?_append_left e] at h
   obtain ⟨o',q1,q2,q3,q4⟩:=hp.get h
   refine ⟨o',q1,q2,q3,?_⟩
   rw [List.reverse_cons,List.take_append_of_le_length (by omega)]; exact q4
  ·have hi : i = prev.length := by
    have:=(List.getElem?_eq_some_iff.1 h).1
    simp at this e; omega
   subst hi
   rw [List.getElem?_append_right (by simp)] at h
   simp at h
   obtain ⟨rfl,rfl⟩:=h
   refine ⟨o,h1,h2,h3,?_⟩
   rw [List.reverse_cons,List.take_append_of_le_length (by simp),List.take_of_length_le (by simp),List.reverse_reverse]
   exact h4
theorem mP.len {ops : List Oper} {m : Nat} : ∀ {acc : List (Nat × Ob)}, mP P n ops m E H acc → ∀ i (h : i < acc.length), ∃ d b, acc.reverse[i]? = some (d, b) := fun {acc} _ i h =>
 ⟨_,_,by rw [List.getElem?_eq_getElem (by simpa using h)]⟩
def AtS (r : List (Nat × Ob)) (E : cT) (C : Nat → Ty × SA) (i0 i t : Nat) (T : Ty) : Prop :=
 (∃ q b,q < i ∧ r[q]? = some (t,b) ∧ T = (C (i0 + q)).1 ∧ ∀ q' d' b',q < q' → q' < i → r[q']? = some (d',b') → d' ≠ t) ∨ (fF E t = some T ∧ ∀ q' d' b',q' < i → r[q']? = some (d',b') → d' ≠ t)
theorem AtS.next {r:List (Nat × Ob)} {d0:Nat} {b0:Ob} {E:cT} {C:Nat → Ty × SA} {i0 i t:Nat} {T:Ty} (h:AtS ((d0,b0) :: r) E C i0 (i + 1) t T):AtS r ((d0,(C i0).1) :: E) C (i0 + 1) i t T:=by
 rcases h with ⟨q,b,h1,h2,h3,h4⟩ | ⟨h1,h2⟩
 ·cases q with
  | zero =>
   simp at h2
   obtain ⟨rfl,rfl⟩:=h2
   right
   refine ⟨?_,fun q' d' b' hq hr=>h4 (q' + 1) d' b' (by omega) (by omega) (by simpa using hr)⟩
   rw [dC,if_pos rfl,h3,Nat.add_zero]
  | succ q =>
   left
   refine ⟨q,b,by omega,by simpa using h2,?_,fun q' d' b' hq hq2 hr=>h4 (q' + 1) d' b' (by omega) (by omega) (by simpa using hr)⟩
   rw [h3,show i0 + (q + 1) = i0 + 1 + q by omega]
 ·right
  have h0:d0 ≠ t:=h2 0 d0 b0 (by omega) rfl
  refine ⟨?_,fun q' d' b' hq hr=>h2 (q' + 1) d' b' (by omega) (by simpa using hr)⟩
  rw [dC,if_neg h0,h1]
def a2J (r:List (Nat × Ob)) (E:cT) (C:Nat → Ty × SA) (i0:Nat):Prop:=∀ (i d t u:Nat) (F:Ty → Ty → Ty) (I:Ty → Prop),r[i]? = some (d,.dep t u F I) → ∃ T U,(C (i0 + i)).1 = F T U ∧ AtS r E C i0 i t T ∧ AtS r E C i0 i u U
theorem zR {r : List (Nat × Ob)} {d0 : Nat} {b0 : Ob} {E : cT} {C : Nat → Ty × SA} {i0 : Nat} (hG : a2J ((d0, b0) :: r) E C i0) : a2J r ((d0, (C i0).1) :: E) C (i0 + 1) := fun i d t u F I h => by
 obtain ⟨T,U,h1,h2,h3⟩:=hG (i + 1) d t u F I (by simpa using h)
 exact ⟨T,U,by rw [← h1,show i0 + (i + 1) = i0 + 1 + i by omega],h2.next,h3.next⟩
theorem iQ {ops : List Oper} {l : List Oper} : ∀ (r : List (Nat × Ob)) (E : cT) (H : Hp), Fin' P R cx n ops.toArray l k r E H → ∀ (C : Nat → Ty × SA) (i0 : Nat), (∀ (i d : Nat) (b : Ob), r[i]? = some (d, b) → jC b (C (i0 + i))) → a2J r E C i0 →
  ∃ E' H', Rg P R cx n ops.toArray l k E' H' ∧ (∀ t T, fF E' t = some T → (fF E t = some T ∧ ∀ (i d : Nat) (b : Ob), r[i]? = some (d, b) → d ≠ t) ∨ ∃ (i d : Nat) (b : Ob), r[i]? = some (d, b) ∧ d = t ∧ T = (C (i0 + i)).1) ∧
   List.Sublist H' (H ++ (List.range r.length).map fun i=>(C (i0 + i)).2)
 | [],E,H,h,_,_,_,_=>⟨E,H,h,fun t T hT=>.inl ⟨hT,fun i d b hb=>by simp at hb⟩,by simp⟩
 | (d, .val T0) :: r, E, H, h, C, i0, hC, hG => by
  have h0':(C i0).1 = T0:=by rw [show C i0 = (T0,SA.emp) from hC 0 d (.val T0) rfl]
  obtain ⟨E',H',h1,h2,h3⟩:=iQ r _ H h C (i0 + 1) (fun i d b hb=>by have:=hC (i + 1) d b (by simpa using hb); rwa [show i0 + (i + 1) = i0 + 1 + i by omega] at this) (by rw [← h0']; exact zR hG)
  have h0:C i0 = (T0,SA.emp):=hC 0 d (.val T0) rfl
  refine ⟨E',H',h1,fun t T hT=>?_,h3.trans ?_⟩
  ·rcases h2 t T hT with ⟨q1, q2⟩ | ⟨i, d', b, q1, q2, q3⟩
   ·rw [dC] at q1
    by_cases e:d = t
    ·rw [if_pos e] at q1; obtain rfl := Option.some.inj q1
     exact .inr ⟨0,d,_,rfl,e,by rw [Nat.add_zero,h0]⟩
    ·rw [if_neg e] at q1
     refine .inl ⟨q1,fun i d' b hb=>?_⟩
     cases i with
     | zero=>simp at hb; exact hb.1 ▸ e
     | succ i=>exact q2 i d' b (by simpa using hb)
   ·exact .inr ⟨i + 1,d',b,by simpa using q1,q2,by rw [q3,show i0 + (i + 1) = i0 + 1 + i by omega]⟩
  ·simp only [List.length_cons, List.range_succ_eq_map, List.map_cons, List.map_map]
   refine List.Sublist.append (List.Sublist.refl H) ?_
   refine List.Sublist.cons _ ?_
   have : (fun i => (C (i0 + 1 + i)).2) = ((fun i => (C (i0 + i)).2) ∘ Nat.succ) := by
    funext i; simp [show i0 + (i + 1) = i0 + 1 + i by omega]
   rw [this]; exact List.Sublist.refl _
 | (d, .dep t0 u0 F0 I0) :: r, E, H, h, C, i0, hC, hG => by
  obtain ⟨T0,U0,hF,hA,hB⟩:=hG 0 d t0 u0 F0 I0 rfl
  rw [Nat.add_zero] at hF
  have hl0 : fF E t0 = some T0 := by
   rcases hA with ⟨q,_,hq,_⟩ | ⟨h1,_⟩
   ·omega
   ·exact h1
  have hl1 : fF E u0 = some U0 := by
   rcases hB with ⟨q,_,hq,_⟩ | ⟨h1,_⟩
   ·omega
   ·exact h1
  obtain ⟨E',H',h1,h2,h3⟩:=iQ r _ H (h _ _ hl0 hl1) C (i0 + 1) (fun i d b hb=>by have:=hC (i + 1) d b (by simpa using hb); rwa [show i0 + (i + 1) = i0 + 1 + i by omega] at this) (by rw [← hF]; exact zR hG)
  refine ⟨E',H',h1,fun t T hT=>?_,h3.trans ?_⟩
  ·rcases h2 t T hT with ⟨q1, q2⟩ | ⟨i, d', b, q1, q2, q3⟩
   ·rw [dC] at q1
    by_cases e:d = t
    ·rw [if_pos e] at q1; obtain rfl := Option.some.inj q1
     exact .inr ⟨0,d,_,rfl,e,by rw [Nat.add_zero,hF]⟩
    ·rw [if_neg e] at q1
     refine .inl ⟨q1,fun i d' b hb=>?_⟩
     cases i with
     | zero=>simp at hb; exact hb.1 ▸ e
     | succ i=>exact q2 i d' b (by simpa using hb)
   ·exact .inr ⟨i + 1,d',b,by simpa using q1,q2,by rw [q3,show i0 + (i + 1) = i0 + 1 + i by omega]⟩
  ·simp only [List.length_cons, List.range_succ_eq_map, List.map_cons, List.map_map]
   refine List.Sublist.append (List.Sublist.refl H) ?_
   refine List.Sublist.cons _ ?_
   have : (fun i => (C (i0 + 1 + i)).2) = ((fun i => (C (i0 + i)).2) ∘ Nat.succ) := by
    funext i; simp [show i0 + (i + 1) = i0 + 1 + i by omega]
   rw [this]; exact List.Sublist.refl _
 | (d, .blk src0 true γ T0 A0) :: r, E, H, h, C, i0, hC, hG => by
  obtain ⟨x, h0⟩ : ∃ x : γ, C i0 = (T0 x, A0 x) := by
   obtain ⟨x,q1,q2⟩:=hC 0 d (.blk src0 true γ T0 A0) rfl
   exact ⟨x,Prod.ext q1 (q2 rfl)⟩
  obtain ⟨E',H',h1,h2,h3⟩:=iQ r _ _ (h x) C (i0 + 1) (fun i d b hb=>by have:=hC (i + 1) d b (by simpa using hb); rwa [show i0 + (i + 1) = i0 + 1 + i by omega] at this) (by rw [show T0 x = (C i0).1 by rw [h0]]; exact zR hG)
  refine ⟨E',H',h1,fun t T hT=>?_,h3.trans ?_⟩
  ·rcases h2 t T hT with ⟨q1, q2⟩ | ⟨i, d', b, q1, q2, q3⟩
   ·rw [dC] at q1
    by_cases e:d = t
    ·rw [if_pos e] at q1; obtain rfl := Option.some.inj q1
     exact .inr ⟨0,d,_,rfl,e,by rw [Nat.add_zero,h0]⟩
    ·rw [if_neg e] at q1
     refine .inl ⟨q1,fun i d' b hb=>?_⟩
     cases i with
     | zero=>simp at hb; exact hb.1 ▸ e
     | succ i=>exact q2 i d' b (by simpa using hb)
   ·exact .inr ⟨i + 1,d',b,by simpa using q1,q2,by rw [q3,show i0 + (i + 1) = i0 + 1 + i by omega]⟩
  ·simp only [List.length_cons, List.range_succ_eq_map, List.map_cons, List.map_map, List.append_assoc]
   refine List.Sublist.append (List.Sublist.refl H) ?_
   have : (fun i => (C (i0 + 1 + i)).2) = ((fun i => (C (i0 + i)).2) ∘ Nat.succ) := by
    funext i; simp [show i0 + (i + 1) = i0 + 1 + i by omega]
   rw [this]
   simp only [Nat.add_zero,h0]
   exact List.Sublist.refl _
 | (d, .blk src0 false γ T0 A0) :: r, E, H, h, C, i0, hC, hG => by
  obtain ⟨x,h0,_⟩:∃ x:γ,(C i0).1 = T0 x ∧ (false = true → (C i0).2 = A0 x):=hC 0 d (.blk src0 false γ T0 A0) rfl
  obtain ⟨E',H',h1,h2,h3⟩:=iQ r _ H (h x) C (i0 + 1) (fun i d b hb=>by have:=hC (i + 1) d b (by simpa using hb); rwa [show i0 + (i + 1) = i0 + 1 + i by omega] at this) (by rw [← h0]; exact zR hG)
  refine ⟨E',H',h1,fun t T hT=>?_,h3.trans ?_⟩
  ·rcases h2 t T hT with ⟨q1, q2⟩ | ⟨i, d', b, q1, q2, q3⟩
   ·rw [dC] at q1
    by_cases e:d = t
    ·rw [if_pos e] at q1; obtain rfl := Option.some.inj q1
     exact .inr ⟨0,d,_,rfl,e,by rw [Nat.add_zero,h0]⟩
    ·rw [if_neg e] at q1
     refine .inl ⟨q1,fun i d' b hb=>?_⟩
     cases i with
     | zero=>simp at hb; exact hb.1 ▸ e
     | succ i=>exact q2 i d' b (by simpa using hb)
   ·exact .inr ⟨i + 1,d',b,by simpa using q1,q2,by rw [q3,show i0 + (i + 1) = i0 + 1 + i by omega]⟩
  ·simp only [List.length_cons, List.range_succ_eq_map, List.map_cons, List.map_map]
   refine List.Sublist.append (List.Sublist.refl H) ?_
   refine List.Sublist.cons _ ?_
   have : (fun i => (C (i0 + 1 + i)).2) = ((fun i => (C (i0 + i)).2) ∘ Nat.succ) := by
    funext i; simp [show i0 + (i + 1) = i0 + 1 + i by omega]
   rw [this]; exact List.Sublist.refl _
theorem mP.dst {ops:List Oper} {m:Nat} {acc:List (Nat × Ob)} (h:mP P n ops m E H acc) {i d:Nat} {b:Ob} (hi:acc.reverse[i]? = some (d,b)):fC ops i = some d:=by
 obtain ⟨o,h1,h2,_⟩:=h.get hi
 simp [fC,h1,h2]
theorem rN {ops : List Oper} {m : Nat} {acc : List (Nat × Ob)} {E0 : cT} (hd : Lh ops m) (hlen : acc.length = m) (hobs : mP P n ops m E0 H acc) (hfin : Fin' P R cx n ops.toArray (ops.drop m) k acc.reverse E0 H)
  {L:Nat → Bool} {a:Act} {w:World} {V:bA} {C:Nat → Ty × SA} (hall:∀ i,i < m → L i = true) (hC:∀ (i d:Nat) (b:Ob),acc.reverse[i]? = some (d,b) → jC b (C i)) (hP:∀ (i d t u:Nat) (F:Ty → Ty → Ty) (I:Ty → Prop),acc.reverse[i]? = some (d,.dep t u F I) → ∃ q b q' b',(q < i ∧ acc.reverse[q]? = some (t,b)) ∧ (q' < i ∧ acc.reverse[q']? = some (u,b')) ∧ (C i).1 = F (C q).1 (C q').1) (hM:vT cx n ops m E0 H L C V a w) :
  wpList P ops.toArray (den P R k) (ops.drop m) a w:=by
 obtain ⟨E', H', h1, h2, h3⟩ := iQ acc.reverse E0 H hfin C 0 (fun i d b hb => by rw [Nat.zero_add]; exact hC i d b hb) (fun i d t u F I ht => by
  obtain ⟨q,b,q',b',⟨q1,q2⟩,⟨p1,p2⟩,q3⟩:=hP i d t u F I ht
  have hi:=(List.getElem?_eq_some_iff.1 ht).1
  rw [List.length_reverse,hlen] at hi
  refine ⟨(C q).1,(C q').1,by rw [Nat.zero_add]; exact q3,.inl ⟨q,b,q1,q2,by rw [Nat.zero_add],fun z d' b' h1 h2 h3 e=>?_⟩,.inl ⟨q',b',p1,p2,by rw [Nat.zero_add],fun z d' b' h1 h2 h3 e=>?_⟩⟩
  ·subst e; exact hd.dst z q (by omega) h1 _ (hobs.dst h3) (hobs.dst q2)
  ·subst e; exact hd.dst z q' (by omega) h1 _ (hobs.dst h3) (hobs.dst p2))
 refine h1 a w ⟨V,hM.inv.hp_of (fun hh=>?_),hM.df,hM.sz,fun t T hT=>?_⟩
 ·refine HH.sublist (h3.trans ?_) hh
  rw [List.length_reverse,hlen]
  have : (List.range m).map (fun i => (C (0 + i)).2) = (List.range m).map fun i => if L i then (C i).2 else SA.emp := by
   apply List.map_congr_left
   intro i hi
   rw [hall i (List.mem_range.1 hi)]; simp
  rw [this]; exact List.Sublist.refl _
 ·rcases h2 t T hT with ⟨q1, q2⟩ | ⟨i, d, b, q1, q2, q3⟩
  ·refine hM.old t T q1 (fun j hj => ?_)
   obtain ⟨d,b,hb⟩:=mP.len hobs j (by omega)
   rw [hobs.dst hb]
   intro e; exact q2 j d b hb (Option.some.inj e)
  ·have hi : i < m := by have := (List.getElem?_eq_some_iff.1 q1).1; simpa [hlen] using this
   subst q2; rw [q3,Nat.zero_add]
   exact hM.now i d hi (hall i hi) (hobs.dst q1)
theorem nE {ops : List Oper} {m : Nat} {acc : List (Nat × Ob)} {E0 : cT} (hd : Lh ops m) (hlen : acc.length = m) (hobs : mP P n ops m E0 H acc) (hfin : Fin' P R cx n ops.toArray (ops.drop m) k acc.reverse E0 H) :
  ∀ (fuel : Nat) (listed : Array Bool) (a : Act) (w : World) (V : bA) (C : Nat → Ty × SA), LI ops listed → iU listed.toList ≤ fuel → (∀ i : Nat, m ≤ i → i < ops.length → listed[i]? = some false) →
   (∀ (i d:Nat) (b:Ob),acc.reverse[i]? = some (d,b) → listed[i]? = some true → jC b (C i)) → (∀ (i d t u:Nat) (F:Ty → Ty → Ty) (I:Ty → Prop),acc.reverse[i]? = some (d,.dep t u F I) → listed[i]? = some true → ∃ q b q' b',(q < i ∧ acc.reverse[q]? = some (t,b) ∧ listed[q]? = some true) ∧ (q' < i ∧ acc.reverse[q']? = some (u,b') ∧ listed[q']? = some true) ∧ (C i).1 = F (C q).1 (C q').1) → (∀ (i d:Nat) (src:Option Nat) (γ:Type) (T:γ → Ty) (A:γ → SA),acc.reverse[i]? = some (d,.blk src false γ T A) → listed[i]? = some true → (∀ (j d':Nat) (kp:Bool) (γ':Type) (T':γ' → Ty) (A':γ' → SA),acc.reverse[j]? = some (d',.blk (some i) kp γ' T' A') → listed[j]? = some false) → ∃ x:γ,C i = (T x,A x)) → vT cx n ops m E0 H (fun i=>listed[i]? == some true) C V a w → wpAny P .any ops.toArray (den P R k) fuel listed a w:=by
 intro fuel
 have done : ∀ (listed : Array Bool) (a : Act) (w : World) (V : bA) (C : Nat → Ty × SA), LI ops listed → ∀ fuel, iU listed.toList ≤ fuel → (∀ i : Nat, m ≤ i → i < ops.length → listed[i]? = some false) →
   (∀ (i d:Nat) (b:Ob),acc.reverse[i]? = some (d,b) → listed[i]? = some true → jC b (C i)) → (∀ (i d t u:Nat) (F:Ty → Ty → Ty) (I:Ty → Prop),acc.reverse[i]? = some (d,.dep t u F I) → listed[i]? = some true → ∃ q b q' b',(q < i ∧ acc.reverse[q]? = some (t,b) ∧ listed[q]? = some true) ∧ (q' < i ∧ acc.reverse[q']? = some (u,b') ∧ listed[q']? = some true) ∧ (C i).1 = F (C q).1 (C q').1) → vT cx n ops m E0 H (fun i=>listed[i]? == some true) C V a w → (∀ i:Nat,i < m → listed[i]? = some true) → wpAny P .any ops.toArray (den P R k) fuel listed a w:=by
  intro listed a w V C hL fuel hc hl hC hP hM hall
  have hge:=zE listed.toList m (by simpa [hL.sz] using hd.le) (fun i h1 h2=>by simpa using hl i h1 (by simpa [hL.sz] using h2))
  refine rE hd fuel m listed a w (Nat.le_refl m) hd.le (by simp [hL.sz] at hge; omega) hL (fun i hi=>?_) ?_
  ·by_cases e : i < m
   ·rw [hall i e]; simp [e]
   ·rw [hl i (by omega) hi]; simp; omega
  ·refine rN hd hlen hobs hfin (fun i hi => by rw [hall i hi]; rfl) (fun i d b hb => hC i d b hb (hall i ?_)) (fun i d t u F I ht => by
    obtain ⟨q,b,q',b',⟨q1,q2,_⟩,⟨p1,p2,_⟩,q3⟩:=hP i d t u F I ht (hall i (by have:=(List.getElem?_eq_some_iff.1 ht).1; simpa [hlen] using this))
    exact ⟨q,b,q',b',⟨q1,q2⟩,⟨p1,p2⟩,q3⟩) hM
   have:=(List.getElem?_eq_some_iff.1 hb).1
   simpa [hlen] using this
 induction fuel with
 | zero =>
  intro listed a w V C hL hc hl hC hP hA hM
  refine done listed a w V C hL 0 hc hl hC hP hM (fun i hi=>?_)
  have hil:i < listed.size:=by rw [hL.sz]; have:=hd.le; omega
  cases hb:listed[i] with
  | true=>simp [hil,hb]
  | false =>
   have:=sE listed.toList i (by simp [hil,hb])
   omega
 | succ fuel ih =>
  intro listed a w V C hL hc hl hC hP hA hM
  by_cases hall:∀ i:Nat,i < m → listed[i]? = some true
  ·exact done listed a w V C hL _ hc hl hC hP hM hall
  refine ⟨fun hr=>absurd (fun i hi=>qY hr hL.sz hd.back i (by have:=hd.le; omega)) hall,fun i hi=>?_⟩
  obtain ⟨o,h1,h2,h3⟩:=oV hi hL.sz
  have him : i < m := by
   rcases Nat.lt_or_ge i m with hx | hx
   ·exact hx
   ·exact absurd (fun j hj=>hL.before hd h1 h3 hx j (by omega)) hall
  obtain ⟨d,b,hb⟩:=mP.len hobs i (by omega)
  obtain ⟨o',q1,q2,q3,q4⟩:=hobs.get hb
  rw [h1] at q1; obtain rfl:=Option.some.inj q1
  have hdst:=hobs.dst hb
  have slots : ∀ Ei, Srcs ops m E0 (acc.reverse.take i).reverse o Ei → eE n Ei V a := fun Ei hS => by
   refine ⟨hM.df,hM.sz,fun t T hT=>?_⟩
   rcases hS t T hT with ⟨r1,r2⟩ | ⟨j,r1,r2⟩
   ·refine hM.old t T r1 (fun j hj e => ?_)
    have:=List.all_eq_true.1 r2 j (List.mem_range.2 hj)
    simp [e] at this
   ·rw [List.reverse_reverse, List.getElem?_take] at r1
    split at r1
    case isFalse=>cases r1
    case isTrue hji =>
    obtain ⟨e,he,hb'⟩:=List.any_eq_true.1 r2
    simp only [Bool.and_eq_true] at hb'
    have hon:e.on = j:=Nat.eq_of_beq_eq_true hb'.1
    have hlj:=h3 e he hb'.2
    rw [hon] at hlj
    have hc':C j = (T,SA.emp):=hC j t (.val T) r1 hlj
    obtain ⟨v,s1,s2⟩:=hM.now j t (by omega) (by rw [hlj]; rfl) (hobs.dst r1)
    exact ⟨v,s1,by rw [hc'] at s2; exact s2⟩
  have hcnt : iU (listed.setIfInBounds i true).toList ≤ fuel := by
   have:=sF listed.toList i (by simpa using h2)
   rw [Array.toList_setIfInBounds]; omega
  have hl' : ∀ j : Nat, m ≤ j → j < ops.length → (listed.setIfInBounds i true)[j]? = some false := fun j hj hjl => by
   rw [Array.getElem?_setIfInBounds_ne (by omega)]; exact hl j hj hjl
  have took : ∀ (C : Nat → Ty × SA), (∀ (i d : Nat) (b : Ob), acc.reverse[i]? = some (d, b) → listed[i]? = some true → jC b (C i)) → ∀ (T : Ty) (A : SA), jC b (T, A) → ∀ (j d : Nat) (b : Ob), acc.reverse[j]? = some (d, b) → (listed.setIfInBounds i true)[j]? = some true → jC b (if j = i then (T, A) else C j) := fun C hC T A ht j d' b' hb' hj => by
   by_cases e:j = i
   ·subst e
    rw [hb] at hb'; simp at hb'
    simp only [if_pos]; exact hb'.2 ▸ ht
   ·rw [Array.getElem?_setIfInBounds_ne (fun x => e x.symm)] at hj
    simp only [if_neg e]; exact hC j d' b' hb' hj
  have keepP : ∀ (C : Nat → Ty × SA), (∀ (i d t u : Nat) (F : Ty → Ty → Ty) (I : Ty → Prop), acc.reverse[i]? = some (d, .dep t u F I) → listed[i]? = some true → ∃ q b q' b', (q < i ∧ acc.reverse[q]? = some (t, b) ∧ listed[q]? = some true) ∧ (q' < i ∧ acc.reverse[q']? = some (u, b') ∧ listed[q']? = some true) ∧ (C i).1 = F (C q).1 (C q').1) → ∀ (T : Ty) (A : SA), (∀ t u F I, b = .dep t u F I → ∃ q b' q' b'', (q < i ∧ acc.reverse[q]? = some (t, b') ∧ listed[q]? = some true) ∧ (q' < i ∧ acc.reverse[q']? = some (u, b'') ∧ listed[q']? = some true) ∧ T = F (C q).1 (C q').1) →
    ∀ (j d t u:Nat) (F:Ty → Ty → Ty) (I:Ty → Prop),acc.reverse[j]? = some (d,.dep t u F I) → (listed.setIfInBounds i true)[j]? = some true → ∃ q b q' b',(q < j ∧ acc.reverse[q]? = some (t,b) ∧ (listed.setIfInBounds i true)[q]? = some true) ∧ (q' < j ∧ acc.reverse[q']? = some (u,b') ∧ (listed.setIfInBounds i true)[q']? = some true) ∧ (if j = i then (T,A) else C j).1 = F (if q = i then (T,A) else C q).1 (if q' = i then (T,A) else C q').1:=fun C hP T A hT j d' t u F I hj hlj=>by
   have nei:∀ q,listed[q]? = some true → q ≠ i:=fun q h e=>by rw [e,h2] at h; cases h
   have up:∀ q,listed[q]? = some true → (listed.setIfInBounds i true)[q]? = some true:=fun q h=>by rw [Array.getElem?_setIfInBounds_ne (fun x=>nei q h x.symm)]; exact h
   by_cases e:j = i
   ·subst e
    rw [hb] at hj; simp at hj
    obtain ⟨q,b',q',b'',⟨e1,e2,e3⟩,⟨g1,g2,g3⟩,e4⟩:=hT t u F I hj.2
    exact ⟨q,b',q',b'',⟨e1,e2,up q e3⟩,⟨g1,g2,up q' g3⟩,by rw [if_pos rfl,if_neg (nei q e3),if_neg (nei q' g3)]; exact e4⟩
   ·rw [Array.getElem?_setIfInBounds_ne (fun x => e x.symm)] at hlj
    obtain ⟨q,b',q',b'',⟨e1,e2,e3⟩,⟨g1,g2,g3⟩,e4⟩:=hP j d' t u F I hj hlj
    exact ⟨q,b',q',b'',⟨e1,e2,up q e3⟩,⟨g1,g2,up q' g3⟩,by rw [if_neg e,if_neg (nei q e3),if_neg (nei q' g3)]; exact e4⟩
  have keepA : ∀ (C' : Nat → Ty × SA), (∀ j, j ≠ i → (∀ (d' : Nat) (kp : Bool) (γ' : Type) (T' : γ' → Ty) (A' : γ' → SA), acc.reverse[i]? = some (d', .blk (some j) kp γ' T' A') → False) → C' j = C j) → ∀ (T : Ty) (A : SA), (∀ src γ T' A', b = .blk src false γ T' A' → ∃ x, (T, A) = (T' x, A' x)) →
    ∀ (j d:Nat) (src:Option Nat) (γ:Type) (T':γ → Ty) (A':γ → SA),acc.reverse[j]? = some (d,.blk src false γ T' A') → (listed.setIfInBounds i true)[j]? = some true → (∀ (j' d':Nat) (kp:Bool) (γ':Type) (T':γ' → Ty) (A':γ' → SA),acc.reverse[j']? = some (d',.blk (some j) kp γ' T' A') → (listed.setIfInBounds i true)[j']? = some false) → ∃ x:γ,(if j = i then (T,A) else C' j) = (T' x,A' x):=fun C' hC' T A hT j d' src γ T' A' hj hlj hun=>by
   by_cases e:j = i
   ·subst e
    rw [hb] at hj; simp at hj
    simp only [if_pos]; exact hT src γ T' A' hj.2
   ·rw [Array.getElem?_setIfInBounds_ne (fun x => e x.symm)] at hlj
    have hil:i < listed.size:=(Array.getElem?_eq_some_iff.1 h2).1
    have hne : ∀ (j' d' : Nat) (kp : Bool) (γ' : Type) (T' : γ' → Ty) (A' : γ' → SA), acc.reverse[j']? = some (d', .blk (some j) kp γ' T' A') → j' ≠ i := fun j' d' kp γ' T' A' q1 q2 => by
     have:=hun j' d' kp γ' T' A' q1
     rw [q2,Array.getElem?_setIfInBounds_self_of_lt hil] at this
     cases this
    rw [if_neg e,hC' j e (fun d' kp γ' T' A' q=>hne i d' kp γ' T' A' q rfl)]
    refine hA j d' src γ T' A' hj hlj (fun j' d' kp γ' T' A' q=>?_)
    have:=hun j' d' kp γ' T' A' q
    rwa [Array.getElem?_setIfInBounds_ne (fun x=>hne j' d' kp γ' T' A' q x.symm)] at this
  have hx : ((List.range m).map fun i => if (listed[i]? == some true) = true then (C i).2 else SA.emp).set i SA.emp = (List.range m).map fun i => if (listed[i]? == some true) = true then (C i).2 else SA.emp := by
   rw [oL him]
   apply List.map_congr_left
   intro j _
   by_cases e:j = i
   ·subst e; simp [h2]
   ·simp [e]
  unfold wpOp
  simp only [List.getElem?_toArray,h1]
  cases b with
  | val T =>
   obtain ⟨Ei,hS,hst⟩:=q4
   have := hst cx _ a w V hM.inv (slots Ei hS) (wpAny P .any ops.toArray (den P R k) fuel (listed.setIfInBounds i true)) (den P R k) (fun v w' V' hi' hle hv => by
    rw [q2]
    exact ih _ _ _ V' _ (hL.set h1 h3) hcnt hl' (took C hC T SA.emp rfl) (keepP C hP T SA.emp (fun t u F I e=>by cases e)) (keepA C (fun _ _ _=>rfl) T SA.emp (fun src γ T' A' e=>by cases e)) (hM.next hd hL.sz him hdst q3 h2 hv hle (by rw [hx]; exact hi')))
   split
   ·rename_i hw; rw [if_pos hw] at this; exact .inl this
   ·rename_i hw; rw [if_neg hw] at this; exact this
  | blk src kp γ T A =>
   cases src with
   | none =>
    obtain ⟨hg,Ei,hS,hst⟩:=q4
    rw [if_pos (by simp [Region.wanted,hg])]
    left
    refine hst cx _ a w V hM.inv (slots Ei hS) _ _ fun x v w' V' e3 hle e2=>?_
    rw [q2]
    refine ih _ _ _ V' _ (hL.set h1 h3) hcnt hl' (took C hC (T x) (A x) ⟨x,rfl,fun _=>rfl⟩) (keepP C hP (T x) (A x) (fun t u F I e=>by cases e)) (keepA C (fun _ _ _=>rfl) (T x) (A x) (fun src γ T' A' e=>by cases e; exact ⟨x,rfl⟩)) (hM.next hd hL.sz him hdst q3 h2 e2 hle (e3.hp_of (fun hh=>?_)))
    have:=HH.move (p:=H.length + i) hh (by simp; omega)
    rw [List.set_append_right _ _ (by omega),show H.length + i - H.length = i by omega] at this
    exact this
   | some q =>
    obtain ⟨hg,Ei,t,src,γq,Tq,Aq,r1,r2,hS,hst,hu⟩:=q4
    rw [List.reverse_reverse,List.getElem?_take] at r1
    split at r1
    case isFalse=>cases r1
    case isTrue hqi =>
    obtain ⟨e,he,hb'⟩:=List.any_eq_true.1 r2
    simp only [Bool.and_eq_true] at hb'
    have hon:e.on = q:=Nat.eq_of_beq_eq_true hb'.1
    have hlq:=h3 e he hb'.2
    rw [hon] at hlq
    have hqm:q < m:=by omega
    obtain ⟨x, hx⟩ := hA q t src γq Tq Aq r1 hlq (fun j d' kp' γ' T' A' hj => by
     by_cases e:j = i
     ·rw [e]; exact h2
     rcases Nat.lt_or_ge j i with hji | hji
     ·exfalso
      have hmem : (d', Ob.blk (some q) kp' γ' T' A') ∈ (acc.reverse.take i) := by
       refine List.mem_of_getElem? (i:=j) ?_
       rw [List.getElem?_take,if_pos hji]; exact hj
      exact Cv hu (by simpa using hmem)
     ·exfalso
      obtain ⟨o',_,_,_,z4⟩:=hobs.get hj
      obtain ⟨_,_,_,_,_,_,_,_,_,_,_,hu'⟩:=z4
      have hmem : (d, Ob.blk (some q) kp γ T A) ∈ (acc.reverse.take j) := by
       refine List.mem_of_getElem? (i:=i) ?_
       rw [List.getElem?_take,if_pos (by omega)]; exact hb
      exact Cv hu' (by simpa using hmem))
    have hentry : (H ++ (List.range m).map fun i => if (listed[i]? == some true) = true then (C i).2 else SA.emp)[H.length + q]? = some (Aq x) := by
     rw [List.getElem?_append_right (by omega),show H.length + q - H.length = q by omega,List.getElem?_map,List.getElem?_range hqm]
     simp [hlq,hx]
    obtain ⟨v0,s1,s2⟩:=hM.now q t (by omega) (by rw [hlq]; rfl) (hobs.dst r1)
    rw [hx] at s2
    have hsl : eE n ((t, Tq x) :: Ei) V a := by
     have hs0:=slots Ei hS
     refine ⟨hs0.1,hs0.2.1,fun u U hU=>?_⟩
     rw [dC] at hU
     by_cases e:t = u
     ·rw [if_pos e] at hU; obtain rfl:=Option.some.inj hU; subst e; exact ⟨v0,s1,s2⟩
     ·rw [if_neg e] at hU; exact hs0.2.2 u U hU
    obtain ⟨y,v,w',e1,e2,e3⟩:=a2i (hst x) hM.inv hentry hsl
    rw [if_pos (by simp [Region.wanted,hg])]
    left
    simp only [Oper.wp,e1,Oper.upon_value,q2]
    obtain ⟨C1,hC1⟩:∃ C1:Nat → Ty × SA,C1 = fun j=>if j = q then ((C q).1,SA.emp) else C j:=⟨_,rfl⟩
    have hC1t : ∀ j, (C1 j).1 = (C j).1 := fun j => by
     rw [hC1]; by_cases e:j = q
     ·simp [e]
     ·simp [e]
    have hset : ((List.range m).map fun i => if (listed[i]? == some true) = true then (C1 i).2 else SA.emp) = ((List.range m).map fun i => if (listed[i]? == some true) = true then (C i).2 else SA.emp).set q SA.emp := by
     rw [oL hqm]
     apply List.map_congr_left
     intro j _
     by_cases e:j = q
     ·subst e; rw [hC1]; simp
     ·rw [hC1]; simp [e]
    have hM1 : vT cx n ops m E0 H (fun i => listed[i]? == some true) C1 V a w := by
     refine ⟨hM.inv.hp_of (fun hh=>?_),hM.df,hM.sz,hM.old,fun j d hj hL hd=>by rw [hC1t]; exact hM.now j d hj hL hd⟩
     rw [hset]
     have h5:=HH.last hh hentry
     rw [List.set_append_right _ _ (by omega),show H.length + q - H.length = q by omega] at h5
     exact HH.sublist (List.sublist_append_left _ _) h5
    refine ih _ _ _ V _ (hL.set h1 h3) hcnt hl' (took C1 (fun j d' b' hj hlj=>?_) (T y) (A y) ⟨y,rfl,fun _=>rfl⟩) (keepP C1 (fun j d' t' u' F' I' hj hlj=>?_) (T y) (A y) (fun t u F I e=>by cases e)) (keepA C1 (fun j hji hj=>?_) (T y) (A y) (fun src γ T' A' e=>by cases e; exact ⟨y,rfl⟩)) (hM1.next hd hL.sz him hdst q3 h2 e2 (mR.refl V) (e3.hp_of (fun hh=>?_)))
    ·by_cases e : j = q
     ·subst e
      rw [r1] at hj; simp at hj
      obtain ⟨_,rfl⟩:=hj
      exact ⟨x,by rw [hC1t,hx],fun e=>by cases e⟩
     ·have := hC j d' b' hj hlj
      rw [hC1]; simp only [if_neg e]; exact this
    ·obtain ⟨q', b', q'', b'', z1, z2, z4⟩ := hP j d' t' u' F' I' hj hlj
     exact ⟨q',b',q'',b'',z1,z2,by rw [hC1t,hC1t,hC1t]; exact z4⟩
    ·have : j ≠ q := fun e => hj d kp γ T A (by rw [e]; exact hb)
     rw [hC1]; simp [this]
    ·rw [hset]
     have hlen2:H.length + q < (H ++ (List.range m).map fun i=>if (listed[i]? == some true) = true then (C i).2 else SA.emp).length:=(List.getElem?_eq_some_iff.1 hentry).1
     have h5:=HH.last (i:=H.length + q) (A:=A y) hh (by rw [List.getElem?_set_self hlen2])
     rw [List.set_set,List.set_append_right _ _ (by omega),show H.length + q - H.length = q by omega] at h5
     have h6:=HH.move (p:=H.length + i) h5 (by simp; omega)
     rw [List.set_append_right _ _ (by omega),show H.length + i - H.length = i by omega] at h6
     exact h6
  | dep t u F I =>
   obtain ⟨q,b',q',b'',r1,r2,p1,p2,hst⟩:=q4
   have src : ∀ (q t : Nat) (b' : Ob), (acc.reverse.take i).reverse.reverse[q]? = some (t, b') → (o.after.toList.any fun e => Nat.beq e.on q && Region.binds .any e) = true → q < i ∧ acc.reverse[q]? = some (t, b') ∧ listed[q]? = some true := fun q t b' r1 r2 => by
    rw [List.reverse_reverse,List.getElem?_take] at r1
    split at r1
    case isFalse=>cases r1
    case isTrue hji =>
    obtain ⟨e,he,hb'⟩:=List.any_eq_true.1 r2
    simp only [Bool.and_eq_true] at hb'
    have hon:e.on = q:=Nat.eq_of_beq_eq_true hb'.1
    have hlj:=h3 e he hb'.2
    rw [hon] at hlj
    exact ⟨hji,r1,hlj⟩
   obtain ⟨a1,a2,a3⟩:=src q t b' r1 r2
   obtain ⟨c1,c2,c3⟩:=src q' u b'' p1 p2
   obtain ⟨v1,s1,s2⟩:=hM.now q t (by omega) (by rw [a3]; rfl) (hobs.dst a2)
   obtain ⟨v2,s3,s4⟩:=hM.now q' u (by omega) (by rw [c3]; rfl) (hobs.dst c2)
   have hsl : eE n [(t, (C q).1), (u, (C q').1)] V a := by
    refine ⟨hM.df,hM.sz,fun z Z hz=>?_⟩
    rw [dC] at hz
    by_cases e:t = z
    ·rw [if_pos e] at hz; obtain rfl:=Option.some.inj hz; subst e; exact ⟨v1,s1,s2⟩
    ·rw [if_neg e, dC] at hz
     by_cases e2:u = z
     ·rw [if_pos e2] at hz; obtain rfl:=Option.some.inj hz; subst e2; exact ⟨v2,s3,s4⟩
     ·rw [if_neg e2] at hz; cases hz
   obtain ⟨hst,hI⟩:=hst _ _ (hC q t b' a2 a3).fits (hC q' u b'' c2 c3).fits
   have := hst cx _ a w V hM.inv hsl (wpAny P .any ops.toArray (den P R k) fuel (listed.setIfInBounds i true)) (den P R k) (fun v w' V' hi' hle hv => by
    rw [q2]
    exact ih _ _ _ V' _ (hL.set h1 h3) hcnt hl' (took C hC (F (C q).1 (C q').1) SA.emp ⟨rfl, hI⟩) (keepP C hP (F (C q).1 (C q').1) SA.emp (fun t' u' F' I' e => by
     cases e; exact ⟨q,b',q',b'',⟨a1,a2,a3⟩,⟨c1,c2,c3⟩,rfl⟩)) (keepA C (fun _ _ _=>rfl) (F (C q).1 (C q').1) SA.emp (fun src γ T' A' e=>by cases e)) (hM.next hd hL.sz him hdst q3 h2 hv hle (by rw [hx]; exact hi')))
   split
   ·rename_i hw; rw [if_pos hw] at this; exact .inl this
   ·rename_i hw; rw [if_neg hw] at this; exact this
theorem D_done {ops l : List Oper} {m : Nat} {acc : List (Nat × Ob)} (hP : P.follows .mixedOrders = true) (hm : acc.length = m) (hchk : xR ops m = true) (h : Fin' P R cx n ops.toArray l k acc.reverse E H) : Dr P R cx n ops m k E H l acc := fun hops hobs id a w ⟨V, hi, hs⟩ => by
 have hd:=Lh.of hchk
 have hl : ops.drop m = l := by
  conv=>lhs; rw [hops]
  rw [List.drop_append,List.drop_of_length_le (by simp; omega)]
  simp [hm,Nat.min_eq_left hd.le]
 refine wp_region_any hP ?_
 have hnone : ∀ i : Nat, (Array.replicate ops.toArray.size false)[i]? ≠ some true := fun i h => by
  rw [Array.getElem?_replicate] at h; split at h <;> simp at h
 refine nE (cx:=cx) (n:=n) (E0:=E) (H:=H) hd hm hobs (by rw [hl]; exact h) _ _ a _ V (fun _=>(pO,SA.emp)) ⟨by simp,fun i o ho h=>absurd h (hnone i)⟩ ?_ (fun i h1 h2=>by simp [h2]) (fun i d b _ h=>absurd h (hnone i)) (fun i d t u F I _ h=>absurd h (hnone i)) (fun i _ _ _ _ _ _ h=>absurd h (hnone i)) ?_
 ·have : ∀ j, iU (List.replicate j false) ≤ j := fun j => by
   induction j with
   | zero=>simp [iU]
   | succ j ih=>simp only [List.replicate_succ,iU]; simp; omega
  simpa using this _
 ·refine ⟨?_, hs.1, hs.2.1, fun t T hT _ => hs.2.2 t T hT, fun j d hj hL => ?_⟩
  ·have e : ((List.range m).map fun i => if ((Array.replicate ops.toArray.size false)[i]? == some true) = true then ((fun _ => (pO, SA.emp)) i : Ty × SA).2 else SA.emp) = (List.range m).map fun _ => SA.emp := by
    apply List.map_congr_left; intro i _; split <;> rfl
   rw [e]
   have:=hi.drew
   refine this.hp_of (fun hh=>?_)
   obtain ⟨F,f1,f2⟩:=hh
   refine ⟨fun i=>if i < H.length then F i else [],fun i A hA=>?_,fun i j b hi hj hbi hbj=>?_⟩
   ·by_cases e : i < H.length
    ·rw [List.getElem?_append_left e] at hA
     simp only [if_pos e]; exact f1 i A hA
    ·rw [List.getElem?_append_right (by omega)] at hA
     have : A = SA.emp := by
      rw [List.getElem?_map] at hA
      cases hq:(List.range m)[i - H.length]? with
      | none=>rw [hq] at hA; cases hA
      | some q=>rw [hq] at hA; simpa using hA.symm
     subst this
     simp only [if_neg e]
     exact ⟨rfl,fun b hb=>by simp at hb⟩
   ·by_cases e : i < H.length <;> by_cases e' : j < H.length
    ·simp only [if_pos e,if_pos e'] at hbi hbj; exact f2 i j b e e' hbi hbj
    ·simp [e'] at hbj
    ·simp [e] at hbi
    ·simp [e] at hbi
  ·exact absurd (by simpa using hL) (hnone j)
theorem F_nil {ops:Array Oper} {l:List Oper} (h:Rg P R cx n ops l k E H):Fin' P R cx n ops l k [] E H:=h
theorem F_val {ops:Array Oper} {l:List Oper} {d:Nat} {T:Ty} {r:List (Nat × Ob)} (h:Fin' P R cx n ops l k r ((d,T) :: E) H):Fin' P R cx n ops l k ((d,.val T) :: r) E H:=h
theorem F_new {ops:Array Oper} {l:List Oper} {d:Nat} {src:Option Nat} {γ:Type} {T:γ → Ty} {A:γ → SA} {r:List (Nat × Ob)} (h:∀ x:γ,Fin' P R cx n ops l k r ((d,T x) :: E) (H ++ [A x])):Fin' P R cx n ops l k ((d,.blk src true γ T A) :: r) E H:=h
theorem a4G {ops : Array Oper} {l : List Oper} {d t u : Nat} {T U : Ty} {F : Ty → Ty → Ty} {I : Ty → Prop} {r : List (Nat × Ob)} (hl : fF E t = some T) (hl' : fF E u = some U) (h : Fin' P R cx n ops l k r ((d, F T U) :: E) H) : Fin' P R cx n ops l k ((d, .dep t u F I) :: r) E H := fun T' U' hT hU => by
 rw [hl] at hT; obtain rfl:=Option.some.inj hT
 rw [hl'] at hU; obtain rfl:=Option.some.inj hU; exact h
theorem D_cpy {ops l : List Oper} {m : Nat} {o : Oper} {acc : List (Nat × Ob)} {d t : Nat} {b : Ob} (j : Nat) (hg : o.guard = none) (hd : o.dst = some d) (hn : Nat.blt d n = true) (hj : acc.reverse[j]? = some (t, b)) (he : (o.after.toList.any fun e => Nat.beq e.on j && Region.binds .any e) = true) (hx : ∀ a w, (execOp a o).run P w = .ok (.value (a (.tmp t))) w)
  (h:Dr P R cx n ops m k E H l ((d,.dep t t (fun T _=>T) (Lk b)) :: acc)):Dr P R cx n ops m k E H (o :: l) acc :=
 a4F (fun T _ => T) (Lk b) j j hd hn hj he hj he (fun T U hf _ => ⟨fun cx X a w V hi hs K Q hK => by
  obtain ⟨v,s1,s2⟩:=hs.2.2 t T (by rw [dC,if_pos rfl])
  have ev:a.eval (.tmp t) = v:=by simp [Act.eval,s1]
  rw [if_pos (by simp [Region.wanted,hg])]
  simp only [Oper.wp,hx,Oper.upon_value,ev]
  exact hK v w V hi (mR.refl V) s2,hf⟩) h
theorem F_cpy {ops:Array Oper} {l:List Oper} {d t:Nat} {T:Ty} {I:Ty → Prop} {r:List (Nat × Ob)} (hl:fF E t = some T) (h:Fin' P R cx n ops l k r ((d,T) :: E) H):Fin' P R cx n ops l k ((d,.dep t t (fun T _=>T) I) :: r) E H:=a4G (F:=fun T _=>T) hl hl h
theorem cpy_assign {d:Option Tmp} {t:Nat} {ty:TypeId} {pos:String} {af:Array Edge} {g:Option (Nat × Bool)}:∀ a w,(execOp a ⟨d,.assign (.tmp t),ty,pos,af,g⟩).run P w = .ok (.value (a (.tmp t))) w:=fun a w=>by simp [execOp,pure,Sem.run]
end
end C
section
variable {P:Program} {n:Nat} {E:cT} {t:TypeId} {pos:String} {af:Array Edge}
end
end
section
open Go Go.RowKit
section
variable {P:Program} {R:hJ} {cx:Cx} {n:Nat} {k:List It} {E:cT} {H:Hp} {ops:Array Oper} {rest:List Oper} {o:Oper}
theorem Ht {t:Nat} {T:Ty} (h:fF E t = some T):bM E (.tmp t) T:=bM.t h
theorem ro {T:Ty} {d:Nat} (h0:(o.guard,o.dst,Nat.blt d n) = (none,some d,true)) (hs:aM P n E H o T) (h:Rg P R cx n ops rest k ((d,T) :: E) H):Rg P R cx n ops (o :: rest) k E H:=by
 simp only [Prod.mk.injEq] at h0
 exact a2M h0.1 h0.2.1 h0.2.2 hs h
theorem rm {T:Ty} {d x:Nat} {t:TypeId} {pos:String} {af:Array Edge} (h0:(Nat.blt d n,fF E x) = (true,some T)) (h:Rg P R cx n ops rest k ((d,T) :: E) H):Rg P R cx n ops (⟨some d,.move (.tmp x),t,pos,af,none⟩ :: rest) k E H:=by
 simp only [Prod.mk.injEq] at h0
 exact a2M rfl rfl h0.1 (Qm (bM.t h0.2)) h
theorem ra {T:Ty} {d x:Nat} {t:TypeId} {pos:String} {af:Array Edge} (h0:(Nat.blt d n,fF E x) = (true,some T)) (h:Rg P R cx n ops rest k ((d,T) :: E) H):Rg P R cx n ops (⟨some d,.assign (.tmp x),t,pos,af,none⟩ :: rest) k E H:=by
 simp only [Prod.mk.injEq] at h0
 exact a2M rfl rfl h0.1 (Ek (bM.t h0.2)) h
theorem rn {γ:Type} {T:γ → Ty} {A:γ → SA} {d:Nat} (h0:(o.guard,o.dst,Nat.blt d n) = (none,some d,true)) (hop:iS P n E H o γ T A) (h:∀ x,Rg P R cx n ops rest k ((d,T x) :: E) (H ++ [A x])):Rg P R cx n ops (o :: rest) k E H:=by
 simp only [Prod.mk.injEq] at h0
 exact a2d h0.1 h0.2.1 h0.2.2 hop h
theorem ts {y:Code} {id:Nat} {l:List Oper} (h:Rg P R cx n l.toArray l (.code y :: k) E H):Tr P R cx n (.code (.seq (.region id l.toArray false) y) :: k) E H:=a2f (Hn h)
end
section
variable {P:Program} {R:hJ} {cx:Cx} {n:Nat} {k:List It} {E:cT} {H:Hp} {ops l:List Oper} {m:Nat} {o:Oper} {acc:List (Nat × C.Ob)} {d:Nat} {T U V:Ty}
theorem d0 (h0:(o.dst,Nat.blt d n,o.guard) = (some d,true,none)) (hs:aM P n [] H o T) (h:C.Dr P R cx n ops m k E H l ((d,.val T) :: acc)):C.Dr P R cx n ops m k E H (o :: l) acc:=by
 simp only [Prod.mk.injEq] at h0
 exact C.D_step h0.1 h0.2.1 C.Srcs.nil (tU h0.2.2 hs) h
theorem dp (t : Nat) (h0 : (o.dst, Nat.blt d n, fF E t, ((List.range m).all fun j => !(fC ops j == some t)), o.guard) = (some d, true, some U, true, none)) (hs : aM P n [(t, U)] H o T)
  (h:C.Dr P R cx n ops m k E H l ((d,.val T) :: acc)):C.Dr P R cx n ops m k E H (o :: l) acc:=by
 simp only [Prod.mk.injEq] at h0
 exact C.D_step h0.1 h0.2.1 (C.Srcs.cons (C.Src.pre h0.2.2.1 h0.2.2.2.1) C.Srcs.nil) (tU h0.2.2.2.2 hs) h
theorem dq (t j : Nat) (h0 : (o.dst, Nat.blt d n, acc.reverse[j]?, (o.after.toList.any fun e => Nat.beq e.on j && Region.binds .any e), o.guard) = (some d, true, some (t, C.Ob.val U), true, none)) (hs : aM P n [(t, U)] H o T)
  (h:C.Dr P R cx n ops m k E H l ((d,.val T) :: acc)):C.Dr P R cx n ops m k E H (o :: l) acc:=by
 simp only [Prod.mk.injEq] at h0
 exact C.D_step h0.1 h0.2.1 (C.Srcs.cons (C.Src.op j h0.2.2.1 h0.2.2.2.1) C.Srcs.nil) (tU h0.2.2.2.2 hs) h
theorem dR (t i u j : Nat) (h0 : (o.dst, Nat.blt d n, acc.reverse[i]?, (o.after.toList.any fun e => Nat.beq e.on i && Region.binds .any e), acc.reverse[j]?, (o.after.toList.any fun e => Nat.beq e.on j && Region.binds .any e), o.guard) = (some d, true, some (t, C.Ob.val U), true, some (u, C.Ob.val V), true, none)) (hs : aM P n [(t, U), (u, V)] H o T)
  (h:C.Dr P R cx n ops m k E H l ((d,.val T) :: acc)):C.Dr P R cx n ops m k E H (o :: l) acc:=by
 simp only [Prod.mk.injEq] at h0
 obtain ⟨a,b,c,e,f,g,q⟩:=h0
 exact C.D_step a b (C.Srcs.cons (C.Src.op i c e) (C.Srcs.cons (C.Src.op j f g) C.Srcs.nil)) (tU q hs) h
end
end
section
open Go Go.RowKit
section
variable {P:Program} {n:Nat} {E:cT} {H:Hp}
variable {d:Option Tmp} {t:TypeId} {pos:String} {af:Array Edge} {g:Option (Nat × Bool)}
end
end
section
open Go Go.RowKit
def zlk (E : cT) : cT → List (Option Ty)
 | []=>[]
 | x :: r=>fF E x.1 :: zlk E r
def zsm : cT → List (Option Ty)
 | []=>[]
 | x :: r=>some x.2 :: zsm r
theorem zS {E : cT} : ∀ {E' : cT}, zlk E E' = zsm E' → Sub E E'
 | [],_=>Sub.nil
 | _ :: _,h=>Sub.cons (List.cons.inj h).1 (zS (List.cons.inj h).2)
theorem z6 {a:Nat} (h:a < 9223372036854775808:=by first|omega|simp only[mB];omega):a < 9223372036854775808:=h
theorem z7 {a:Nat} (h:a < 18446744073709551616:=by first|omega|simp only[mB];omega):a < 18446744073709551616:=h
theorem zd {α:Type} {a:α}:a = a ∧ True:=⟨rfl,trivial⟩
theorem zF {P : Program} {R : hJ} {cx : Cx} {n : Nat} {k : List It} {E : cT} {H : Hp} {ops : Array Oper} {l : List Oper} {a b c d : Nat} {T U V W : Ty} {r : List (Nat × C.Ob)}
  (h:C.Fin' P R cx n ops l k r ((d,W) :: (c,V) :: (b,U) :: (a,T) :: E) H):C.Fin' P R cx n ops l k ((a,.val T) :: (b,.val U) :: (c,.val V) :: (d,.val W) :: r) E H:=C.F_val (C.F_val (C.F_val (C.F_val h)))
end
section
open Go Go.RowKit
abbrev aQ:=@Sub.cons
abbrev aX:=@Sub.nil
abbrev aZ:=@Sub.to
abbrev aJ:=@C.F_val
abbrev aV:=@C.F_nil
abbrev aW:=@dN.cons'
abbrev aG:=@dN.nil
abbrev aK:=@Nat.le_of_ble_eq_true
abbrev aU:=@dM.cons
abbrev aY:=@dM.nil
abbrev bQ:=@Y.Srcs.cons
abbrev bX:=@Y.Srcs.nil
abbrev bZ:=@Y.Src.op
abbrev bJ:=@Y.Src.pre
abbrev bV:=@C.Srcs.cons
abbrev bW:=@C.Srcs.nil
abbrev bG:=@C.Src.op
abbrev bK:=@C.Src.pre
abbrev bU:=@Y.F_val
abbrev cQ:=@Y.D_hide
abbrev cX:=@Ek
abbrev cZ:=@Qm
abbrev cJ:=@a1s
abbrev cV:=@bM.cN
abbrev cW:=@bM.c
abbrev cG:=@rU.cons
abbrev cK:=@rU.nil
abbrev cU:=@a2f
abbrev cY:=@a2V
abbrev dQ:=@Hn
abbrev dX:=@Lq
abbrev dZ:=@tU
abbrev dJ:=@a3Y
abbrev dV:=@a5j
abbrev dW:=@a1r
abbrev dG:=@a1D
abbrev dK:=@a41
abbrev dU:=@Na
abbrev dY:=@getD_some
abbrev eQ:=@Pz
abbrev eX:=@bH.imp
abbrev eZ:=@a4J
abbrev eJ:=@a1t
abbrev eW:=@a1x
abbrev eG:=@Sw
abbrev eK:=@a09
abbrev eU:=@a2P
abbrev eY:=@a4h
abbrev fQ:=@a40
abbrev fX:=@Uj
abbrev fZ:=@a5q
abbrev fJ:=@C.D_start
abbrev fV:=@bM.w
abbrev fW:=@C.D_done
abbrev fG:=@a2T
abbrev fK:=@a1j
abbrev fU:=@a1U
abbrev fY:=@a08
abbrev gQ:=@a1v
abbrev gX:=@a4K
abbrev gZ:=@a1A
abbrev gJ:=@Yf
abbrev gV:=@Ul
abbrev gW:=@a2R
end
section
open Go Go.RowKit
theorem zo {p:Prop} (h:p:=by omega):p:=h
end
section
open Go Go.RowKit
theorem rJ (ds:List Nat) (hd:kB ds) (hl:ds.length ≤ 1152921504606846976):bH Tryz.prog 221 [vF ds] (aI (val ds)):=by
 refine bH.intro Tryz.func221 rfl Tryz.ntmps221 rfl (fun cx=>(ts (ro rfl (cX cW) (eZ (ts (rm rfl (ro rfl (dK U_47 (Ht rfl) aA) (ra rfl (eZ (cU (eK ?_)))))))))))
 refine cF (fun (k : Nat) => k ≤ ds.length ∧ ∀ i, k ≤ i → i < ds.length → ds.getD i 0 = 0) (fun (k : Nat) => k) (fun (k : Nat) => [(0, vF ds), (3, NT .i64 k)]) (fun (k : Nat) => []) ds.length ⟨Nat.le_refl _, fun i h1 h2 => by omega⟩
  (zS rfl) aY (fun k ⟨hk,hz⟩=>?_)
 refine cU (ts (rm rfl (ro rfl (eL (Ht rfl) (cV 0)) (rm rfl (fX rfl rfl (eU rfl rfl (Ht rfl) (fun h=>cZ (Ht rfl))) (fX rfl rfl (eU rfl rfl (Ht rfl) (fun h=>cZ (Ht rfl))) (fX rfl rfl (eU rfl rfl (Ht rfl) (fun h=>dG (fV rfl h) (cV 1) (by first | omega | (simp at h; omega)) (by show _ < 9223372036854775808; first | omega | (simp at h; omega)))) (fX rfl rfl (eU rfl rfl (Ht rfl) (fun h=>dJ U_47 Z_189 (fV rfl h) (fV rfl h) rfl (eQ (aP (by first | omega | (simp at h; omega)))))) ?_))))))))
 refine fX rfl rfl (eU rfl rfl (Ht rfl) (fun h=>dV A_189 Z_189 (fV rfl h))) (fX rfl rfl (eU rfl rfl (Ht rfl) (fun h=>dO (fV rfl h) (cV 0))) (ro rfl (fM (Ht rfl) (fun h=>(fV rfl h))) (eZ (dX (Ht rfl) (fun hb=>?_) (fun hb=>?_)))))
 ·simp at hb
  refine cY (eK (dQ (rm rfl (ro rfl (dG (Ht rfl) (cV 1) zo z6) (ra rfl (eZ (bO (fY (k - 1) ⟨by omega,fun i h1 h2=>?_⟩ zo (zS rfl) aY))))))))
  by_cases e2:i = k - 1
  ·subst e2; simpa using hb.2
  ·exact hz i zo h2
 ·have hn : k = 0 ∨ ds.getD (k - 1) 0 ≠ 0 := by
   simp only [Bool.and_eq_false_iff,decide_eq_false_iff_not] at hb
   rcases hb with h1 | h1
   ·left; omega
   ·right; exact h1
  have hfin:=Pd hd hk hz hn
  refine gW rfl (ts (rm rfl (rm rfl (rm rfl (ro rfl (qX U_47 Z_189 (Ht rfl) (Ht rfl) (fun m e=>by cases e; exact (Ht rfl)) zo (by simp; omega) rfl) ?_)))))
  refine ra rfl (eZ (fG rfl (fZ (eY rfl) ?_)))
  exact (Ir (by rw [hfin]; simp))
theorem Fp {m:Nat} (hm:m < 18446744073709551616):bH Tryz.prog 241 [NT .u64 m] (aI m):=by
 refine bH.intro Tryz.func241 rfl Tryz.ntmps241 rfl (fun cx=>(ts (ro rfl (cX cW) (eZ (ts (rm rfl (ro rfl (gF rfl U_254 U_189 (Ht rfl)) (rm rfl (ro rfl (fA (Ht rfl) (cV 32) (by decide)) (ro rfl (gF rfl U_254 U_189 (Ht rfl)) (ro rfl (cR (xs:=[.tmp 4,.tmp 7]) U_47 Z_189 O_189 (cG (Ht rfl) (cG (Ht rfl) cK)) rfl rfl rfl) (ro rfl (cJ K_221 (rJ [m % 4294967296,m / 2 ^ 32 % 4294967296] (a56 _ _) (by simp)) ⟨(Ht rfl),trivial⟩) ?_))))))))))))
 refine ra rfl (eZ (fG rfl (fZ (eY rfl) ?_)))
 exact (dL (Eh hm))
theorem a2o {m:Nat}:bH Tryz.prog 219 [aI m] (aD (decide (m = 1))):=by
 refine bH.intro Tryz.func219 rfl Tryz.ntmps219 rfl (fun cx=>(ts (ro rfl (cX cW) (eZ (ts (rm rfl (ro rfl (dK U_47 (Ht rfl) aA) (ro rfl (dO (Ht rfl) (cV 1)) (rm rfl (fX rfl rfl (eU rfl rfl (Ht rfl) (fun h=>cZ (Ht rfl))) (fX rfl rfl (eU rfl rfl (Ht rfl) (fun h=>dJ U_47 Z_189 (fV rfl h) (cV 0) rfl (eQ (aP (by first | omega | (simp at h; omega)))))) (fX rfl rfl (eU rfl rfl (Ht rfl) (fun h=>dV A_189 Z_189 (fV rfl h))) (fX rfl rfl (eU rfl rfl (Ht rfl) (fun h=>dO (fV rfl h) (cV 1))) ?_)))))))))))))
 refine ro rfl (fM (Ht rfl) (fun h=>(fV rfl h))) (ra rfl (eZ (fG rfl (fZ (eY rfl) ?_))))
 exact (dH (Ye m))
theorem a0m {a b c:Nat} (ha:a < 4294967296) (hb:b < 4294967296) (hc:c < 4294967296):bH Tryz.prog 255 [cH a,cH b,cH c] (fI [cH ((a + b + c) % 4294967296),cH ((a + b + c) / 4294967296)]):=by
 refine bH.intro Tryz.func255 rfl Tryz.ntmps255 rfl (fun cx=>(ts (ro rfl (cX (cV 0)) (ro rfl (cX (cV 0)) (eZ (ts (rm rfl (ro rfl (gJ U_189 U_254 (Ht rfl) z7) (rm rfl (ro rfl (gJ U_189 U_254 (Ht rfl) z7) (ro rfl (dW (Ht rfl) (Ht rfl) z7) (rm rfl (ro rfl (gJ U_189 U_254 (Ht rfl) z7) ?_)))))))))))))
 refine ro rfl (dW (Ht rfl) (Ht rfl) z7) (ra rfl (eZ (ts (rm rfl (ro rfl (gF rfl U_254 U_189 (Ht rfl)) (ra rfl (eZ (ts (rm rfl (ro rfl (fA (Ht rfl) (cV 32) (by decide)) (ro rfl (gF rfl U_254 U_189 (Ht rfl)) (ra rfl (eZ (bN rfl (eY rfl) (fZ (eY rfl) ?_)))))))))))))))
 exact (kU (by simp only [mB]; omega))
theorem a0y {a b c:Nat} (ha:a < 4294967296) (hb:b < 4294967296) (hc:c ≤ 1):bH Tryz.prog 256 [cH a,cH b,cH c] (fI [cH ((a + 8589934592 - b - c) % 4294967296),cH (if a < b + c then 1 else 0)]):=by
 refine bH.intro Tryz.func256 rfl Tryz.ntmps256 rfl (fun cx=>(ts (ro rfl (cX (cV 0)) (ro rfl (cX (cV 0)) (eZ (ts (rm rfl (rm rfl (ro rfl (nJ rfl (Ht rfl) (Ht rfl) (by show _ ≤ 4294967296; first | omega | (simp only [mB]; omega))) (rm rfl (ro rfl (nJ rfl (Ht rfl) (Ht rfl) (by show _ ≤ 4294967296; first | omega | (simp only [mB]; omega))) (ra rfl (eZ (ts (rm rfl (ro rfl (Qk rfl (Ht rfl) (by show _ < 4294967296; first | omega | (simp only [mB]; omega))) (rm rfl (ro rfl (uL rfl (Ht rfl) (Ht rfl) (by show _ < 4294967296; simp only [mB]; omega) (by show _ < 4294967296; omega)) ?_))))))))))))))))))
 refine rm rfl (rm rfl (ro rfl (a1E rfl (Ht rfl) (Ht rfl) (by show _ < 4294967296; omega) (by show _ < 4294967296; omega)) (ro rfl (Qk rfl (Ht rfl) (Nat.xor_lt_two_pow (n:=32) ha hb)) (rm rfl (ro rfl (uL rfl (Ht rfl) (Ht rfl) (by show _ < 4294967296; simp only [mB]; omega) (by show _ < 4294967296; simp only [mB]; omega)) (ro rfl (pG rfl (Ht rfl) (Ht rfl) (Nat.and_lt_two_pow (n:=32) _ hb) (Nat.and_lt_two_pow (n:=32) _ (by simp only [mB]; omega))) (ro rfl (fA (Ht rfl) (cV 31) (by decide)) (ra rfl (eZ (bN rfl (fZ (eY rfl) ?_) (fZ (eY rfl) ?_)))))))))))
 ·exact (kU (by simp only [mB]; omega))
 ·exact (kU (Hc ha hb hc (by simp only [mB]; omega)))
theorem Vk {m n:Nat} (hm:(dg m).length ≤ 1152921504606846976) (hn:(dg n).length ≤ 1152921504606846976):bH Tryz.prog 216 [aI m,aI n] (aO .i64 (qC m n)):=by
 refine bH.intro Tryz.func216 rfl Tryz.ntmps216 rfl (fun cx=>(ts (ro rfl (cX (cV 0)) (eZ (cU (ts (rm rfl (ro rfl (dK U_47 (Ht rfl) aA) (rm rfl (ro rfl (dK U_47 (Ht rfl) aA) (ro rfl (gB (Ht rfl) (Ht rfl)) (eZ (dX (Ht rfl) (fun hb=>?_) (fun hb=>?_))))))))))))))
 ·simp at hb
  refine cU (ts (rm rfl (ro rfl (dK U_47 (Ht rfl) aA) (rm rfl (ro rfl (dK U_47 (Ht rfl) aA) (ro rfl (gZ (Ht rfl) (Ht rfl)) (eZ (dX (Ht rfl) (fun hb2=>?_) (fun hb2=>?_)))))))))
  ·simp at hb2
   have hlt:=Fv hb2
   refine ts (ro rfl (cX cW) (eZ (fG rfl (fZ (eY rfl) ?_))))
   exact (aS (by simp [qC,hlt]))
  ·simp at hb2
   have hlt:=Fv (a:=n) (b:=m) zo
   refine cY (ts (ro rfl (cX (cV 1)) (eZ (fG rfl (fZ (eY rfl) ?_)))))
   exact (aS (by simp [qC,hlt,Nat.lt_asymm hlt]))
 ·simp at hb
  refine cY (cU (ts (rm rfl (ro rfl (dK U_47 (Ht rfl) aA) (ro rfl (iK (Ht rfl) cW (Db zo)) (ra rfl (eZ (eK ?_))))))))
  refine cF (fun (k : Nat) => k ≤ (dg m).length ∧ ∀ i, k ≤ i → i < (dg m).length → (dg m).getD i 0 = (dg n).getD i 0) (fun (k : Nat) => k) (fun (k : Nat) => [(0, aI m), (1, aI n), (5, aO .i64 ((k : Int) - 1))]) (fun (k : Nat) => []) (dg m).length ⟨Nat.le_refl _, fun i h1 h2 => by omega⟩
   (zS rfl) aY (fun k ⟨hk,he⟩=>?_)
  refine cU (ts (rm rfl (ro rfl (lQ (Ht rfl) cW) (eZ (dX (Ht rfl) (fun hk1=>?_) (fun hk1=>?_))))))
  ·simp at hk1
   refine cY (cU (eK (cU (cU (fJ (m:=8) (dp 0 rfl (cZ (Ht rfl)) (dp 5 rfl (cZ (Ht rfl)) (dR 23 0 24 1 rfl (dJ U_47 Z_189 (Ht rfl) (Ht rfl) (show ((k:Int) - 1) = ((k - 1:Nat):Int) by omega) (eQ (aP zo))) (dq 25 2 rfl (dV A_189 Z_189 (Ht rfl)) (dp 1 rfl (cZ (Ht rfl)) (dp 5 rfl (cZ (Ht rfl)) (dR 27 4 28 5 rfl (dJ U_47 Z_189 (Ht rfl) (Ht rfl) (show ((k:Int) - 1) = ((k - 1:Nat):Int) by omega) (eQ (aP zo))) (dq 29 6 rfl (dV A_189 Z_189 (Ht rfl)) ?_)))))))))))))
   refine fW bE rfl (by kernel_rfl) (zF (zF (aV (ro rfl (gZ (Ht rfl) (Ht rfl)) (eZ (dX (Ht rfl) (fun h1=>?_) (fun h1=>?_)))))))
   ·simp only [decide_eq_true_eq] at h1
    have hlt:=zD (cA m) (cA n) hb (k:=k - 1) zo (fun i h2 h3=>he i zo h3) h1
    rw [dF,dF] at hlt
    refine ts (ro rfl (cX cW) (eZ (fG rfl (fZ (eY rfl) ?_))))
    exact (aS (by simp [qC,hlt]))
   ·simp only [decide_eq_false_iff_not] at h1
    refine cY (cU (fJ (m:=8) (dp 0 rfl (cZ (Ht rfl)) (dp 5 rfl (cZ (Ht rfl)) (dR 32 0 33 1 rfl (dJ U_47 Z_189 (Ht rfl) (Ht rfl) (show ((k:Int) - 1) = ((k - 1:Nat):Int) by omega) (eQ (aP zo))) (dq 34 2 rfl (dV A_189 Z_189 (Ht rfl)) (dp 1 rfl (cZ (Ht rfl)) (dp 5 rfl (cZ (Ht rfl)) (dR 36 4 37 5 rfl (dJ U_47 Z_189 (Ht rfl) (Ht rfl) (show ((k:Int) - 1) = ((k - 1:Nat):Int) by omega) (eQ (aP zo))) (dq 38 6 rfl (dV A_189 Z_189 (Ht rfl)) ?_))))))))))
    refine fW bE rfl (by kernel_rfl) (zF (zF (aV (ro rfl (eL (Ht rfl) (Ht rfl)) (eZ (dX (Ht rfl) (fun h2=>?_) (fun h2=>?_)))))))
    ·simp only [decide_eq_true_eq] at h2
     have hlt:=zD (cA n) (cA m) hb.symm (k:=k - 1) zo (fun i h2 h3=>(he i zo zo).symm) h2
     rw [dF,dF] at hlt
     refine ts (ro rfl (cX (cV 1)) (eZ (fG rfl (fZ (eY rfl) ?_))))
     exact (aS (by simp [qC,hlt,Nat.lt_asymm hlt]))
    ·simp only [decide_eq_false_iff_not] at h2
     refine cY (bO (dQ (rm rfl (ro rfl (iK (Ht rfl) cW (Db zo)) (ra rfl (eZ (fY (k - 1) ⟨by omega,fun i h3 h4=>(by by_cases e:i = k - 1; (· subst e; omega); exact he i zo h4)⟩ zo (aQ rfl (aQ rfl (aZ rfl (aS zo) aX))) aY)))))))
  ·simp at hk1
   have hk0:k = 0:=by omega
   have heq : m = n := by
    have : dg m = dg n := by
     apply List.ext_getElem?
     intro i
     by_cases hi:i < (dg m).length
     ·have h5 := he i zo hi
      have h6:i < (dg n).length:=by omega
      simp [List.getD,hi,h6] at h5
      simp [hi,h6,h5]
     ·rw [List.getElem?_eq_none zo,List.getElem?_eq_none zo]
    rw [← dF m,this,dF]
   refine gW rfl (ts (ro rfl (cX (cV 0)) (eZ (fG rfl (fZ (eY rfl) ?_)))))
   exact (aS (by simp [qC,heq]))
end
section
open Go Go.RowKit
theorem jF:Tryz.prog.info? 189 = some Tryz.t189:=by kernel_rfl
end
section
open Go Go.RowKit
theorem a4Y {m n:Nat} (hm:(dg m).length ≤ 17592186044416) (hn:(dg n).length ≤ 17592186044416):bH Tryz.prog 215 [aI m,aI n] (aI (m + n)):=by
 refine bH.intro Tryz.func215 rfl Tryz.ntmps215 rfl (fun cx=>(ts (ro rfl (cX cW) (eZ (cU (rG (fun (p:Nat) (q:Nat)=>p + q = m + n ∧ (dg q).length ≤ (dg p).length ∧ (dg p).length ≤ 17592186044416) (fun (p:Nat) (q:Nat)=>[(0,aI p),(1,aI q)]) (fun (p:Nat) (q:Nat)=>[]) ?_ (fun p q ⟨hpq,hle,hlp⟩=>?_)))))))
 ·refine ts (rm rfl (ro rfl (dK U_47 (Ht rfl) aA) (rm rfl (ro rfl (dK U_47 (Ht rfl) aA) (ro rfl (gZ (Ht rfl) (Ht rfl)) (eZ (dX (Ht rfl) (fun hb => ?_) (fun hb => ?_))))))))
  ·simp at hb
   refine dQ (rm rfl (rm rfl (ra rfl (ra rfl (eZ (bD (n,m) ⟨Nat.add_comm _ _,Nat.le_of_lt hb,hn⟩ (zS rfl) aY))))))
  ·simp at hb
   refine cY (bD (m,n) ⟨rfl,hb,hm⟩ (zS rfl) aY)
 ·refine ts (rm rfl (ro rfl (dK U_47 (Ht rfl) aA) (ro rfl (dW (Ht rfl) (cV 1) z6) (rn rfl (eM (T := cH 0) (i := Tryz.t189) V_47 jF rfl rfl (Ht rfl) rfl (fun _ => rfl) trivial (by show 4 * _ ≤ _; omega) zo) fun B19 => (ra rfl (eZ (ts (ro rfl (cX (cV 0)) (eZ (cU (ts (rm rfl (ro rfl (dK U_47 (Ht rfl) aA) (ro rfl (cZ (cV 0)) (eZ (eK ?_))))))))))))))))
  refine kD (fun (k : Nat) (out : List Nat) (c : Nat) => Ez (dg p) (dg q) out k c) (fun (k : Nat) (out : List Nat) (c : Nat) => (dg p).length - k) (fun (k : Nat) (out : List Nat) (c : Nat) => [(0, aI p), (1, aI q), (5, Is (.slice (some ⟨B19, 0, none⟩) ((dg p).length + 1) ((dg p).length + 1))), (6, cH c), (21, NT .i64 (dg p).length), (22, NT .i64 k)]) (fun (k : Nat) (out : List Nat) (c : Nat) => [box B19 189 (out.map cH)]) 0 (List.replicate ((dg p).length + 1) 0) 0 (Ez.start _ _)
   (zS rfl) (aU (aB (mM _)) aY) (fun k out c hS=>?_)
  refine ts (ro rfl (gZ (Ht rfl) (Ht rfl)) (eZ (cU (dX (Ht rfl) (fun hb=>?_) (fun hb=>?_)))))
  ·simp at hb
   have hlen:=hS.len; have hcl:=hS.cle; have hxk:=bI (cA p) k; have hyk:=bI (cA q) k
   simp only [BB] at hxk hyk
   refine cY (cU (eK (ts (rm rfl (ra rfl (eZ (ts (ro rfl (cX (cV 0)) (eZ (cU (jW (fun (uu:Unit)=>True) (fun (uu:Unit)=>[(0,aI p),(1,aI q),(5,Is (.slice (some ⟨B19,0,none⟩) ((dg p).length + 1) ((dg p).length + 1))),(6,cH c),(7,NT .i64 k),(8,cH ((dg q).getD k 0)),(21,NT .i64 (dg p).length),(22,NT .i64 k)]) (fun (uu:Unit)=>[box B19 189 (out.map cH)]) ?_ (fun uu _=>?_))))))))))))
   ·refine ts (rm rfl (rm rfl (ro rfl (dK U_47 (Ht rfl) aA) (ro rfl (gZ (Ht rfl) (Ht rfl)) (eZ (dX (Ht rfl) (fun hk2 => ?_) (fun hk2 => ?_)))))))
    ·simp at hk2
     refine dQ (rm rfl (rm rfl (ro rfl (dJ U_47 Z_189 (Ht rfl) (Ht rfl) rfl (eQ (aP zo))) (ro rfl (dV A_189 Z_189 (Ht rfl)) (ra rfl (eZ (bD () trivial (zS rfl) (dM.refl _))))))))
    ·simp at hk2
     refine cY (bD () trivial (aQ rfl (aQ rfl (aQ rfl (aQ rfl (aQ rfl (aZ rfl (kU (by simp [List.getD,List.getElem?_eq_none hk2])) (zS rfl))))))) (dM.refl _))
   ·refine dQ (rm rfl (rm rfl (rm rfl (rm rfl (ro rfl (dJ U_47 Z_189 (Ht rfl) (Ht rfl) rfl (eQ (aP zo))) (ro rfl (dV A_189 Z_189 (Ht rfl)) (rm rfl (rm rfl (ro rfl (cJ Tryz.call255 (a0m hxk hyk zo) ⟨(Ht rfl), (Ht rfl), (Ht rfl), trivial⟩) (rm rfl (ro rfl (dU (Ht rfl) rfl) (ro rfl (dU (Ht rfl) rfl) (ro rfl (gQ U_47 Z_189 (Ht rfl) (Ht rfl) rfl zo (by rw [Nat.mul_one, Nat.zero_add])) ?_)))))))))))))
    refine lO Z_189 (Ht rfl) (Ht rfl) (i:=0) rfl (by first | omega | (simp; omega)) rfl (ra rfl (eZ (bO (dQ (ro rfl (dW (Ht rfl) (cV 1) z6) (rm rfl (eZ (fY (k + 1,_,_) (hS.next (cA p) (cA q) hb) (by dsimp only; omega) (zS rfl) (aU (aB (gC _ _ _)) aY)))))))))
  ·simp at hb
   have hkl:k = (dg p).length:=Nat.le_antisymm hS.kle hb
   subst hkl
   have hlen:=hS.len; have hcl:=hS.cle
   refine gW rfl (ts (rm rfl (rm rfl (ro rfl (dK U_47 (Ht rfl) aA) (rm rfl (ro rfl (gQ U_47 Z_189 (Ht rfl) (Ht rfl) rfl zo (by rw [Nat.mul_one,Nat.zero_add])) ?_))))))
   refine lO Z_189 (Ht rfl) (Ht rfl) (i:=0) rfl (by first | omega | (simp; omega)) rfl (eZ (cU ?_))
   have hfin:=hS.fin hle
   refine gV (i:=0) (tt:=5) rfl rfl (mU (gC _ _ _) (by simp [hlen]) (Nat.le_refl _)) ?_
   refine dQ (rm rfl (ro rfl (cJ K_221 (rJ _ (kE hS.dig (by simp only [BB]; omega)) (by simp [hlen]; omega)) ⟨(Ht rfl),trivial⟩) ?_))
   refine ra rfl (eZ (fG rfl (fZ (eY rfl) ?_)))
   exact (dL (by rw [hfin,dF,dF]; exact hpq))
theorem a2r {m n:Nat} (hm:(dg m).length ≤ 17592186044416) (hnm:n ≤ m):bH Tryz.prog 217 [aI m,aI n] (aI (m - n)):=by
 have hle:=iZ hnm
 refine bH.intro Tryz.func217 rfl Tryz.ntmps217 rfl (fun cx=>(ts (ro rfl (cX cW) (eZ (ts (rm rfl (ro rfl (dK U_47 (Ht rfl) aA) (rn rfl (eM (T:=cH 0) (i:=Tryz.t189) V_47 jF rfl rfl (Ht rfl) rfl (fun _=>rfl) trivial (by show 4 * _ ≤ _; omega) zo) fun B11=>(ra rfl (eZ (ts (ro rfl (cX (cV 0)) (eZ (cU (ts (rm rfl (ro rfl (dK U_47 (Ht rfl) aA) (ro rfl (cZ (cV 0)) (eZ (eK ?_))))))))))))))))))))
 refine kD (fun (k : Nat) (out : List Nat) (c : Nat) => Fe (dg m) (dg n) out k c) (fun (k : Nat) (out : List Nat) (c : Nat) => (dg m).length - k) (fun (k : Nat) (out : List Nat) (c : Nat) => [(0, aI m), (1, aI n), (5, Is (.slice (some ⟨B11, 0, none⟩) (dg m).length (dg m).length)), (6, cH c), (13, NT .i64 (dg m).length), (14, NT .i64 k)]) (fun (k : Nat) (out : List Nat) (c : Nat) => [box B11 189 (out.map cH)]) 0 (List.replicate (dg m).length 0) 0 (Fe.start _ _)
  (zS rfl) (aU (aB (mM _)) aY) (fun k out c hS=>?_)
 refine ts (ro rfl (gZ (Ht rfl) (Ht rfl)) (eZ (cU (dX (Ht rfl) (fun hb=>?_) (fun hb=>?_)))))
 ·simp at hb
  have hlen:=hS.len; have hcl:=hS.cle; have hxk:=bI (cA m) k; have hyk:=bI (cA n) k
  simp only [BB] at hxk hyk
  refine cY (cU (eK (ts (rm rfl (ra rfl (eZ (ts (ro rfl (cX (cV 0)) (eZ (cU (jW (fun (uu:Unit)=>True) (fun (uu:Unit)=>[(0,aI m),(1,aI n),(5,Is (.slice (some ⟨B11,0,none⟩) (dg m).length (dg m).length)),(6,cH c),(7,NT .i64 k),(8,cH ((dg n).getD k 0)),(13,NT .i64 (dg m).length),(14,NT .i64 k)]) (fun (uu:Unit)=>[box B11 189 (out.map cH)]) ?_ (fun uu _=>?_))))))))))))
  ·refine ts (rm rfl (rm rfl (ro rfl (dK U_47 (Ht rfl) aA) (ro rfl (gZ (Ht rfl) (Ht rfl)) (eZ (dX (Ht rfl) (fun hk2 => ?_) (fun hk2 => ?_)))))))
   ·simp at hk2
    refine dQ (rm rfl (rm rfl (ro rfl (dJ U_47 Z_189 (Ht rfl) (Ht rfl) rfl (eQ (aP zo))) (ro rfl (dV A_189 Z_189 (Ht rfl)) (ra rfl (eZ (bD () trivial (zS rfl) (dM.refl _))))))))
   ·simp at hk2
    refine cY (bD () trivial (aQ rfl (aQ rfl (aQ rfl (aQ rfl (aQ rfl (aZ rfl (kU (by simp [List.getD,List.getElem?_eq_none hk2])) (zS rfl))))))) (dM.refl _))
  ·refine dQ (rm rfl (rm rfl (rm rfl (rm rfl (ro rfl (dJ U_47 Z_189 (Ht rfl) (Ht rfl) rfl (eQ (aP zo))) (ro rfl (dV A_189 Z_189 (Ht rfl)) (rm rfl (rm rfl (ro rfl (cJ Tryz.call256 (a0y hxk hyk zo) ⟨(Ht rfl), (Ht rfl), (Ht rfl), trivial⟩) (rm rfl (ro rfl (dU (Ht rfl) rfl) (ro rfl (dU (Ht rfl) rfl) (ro rfl (gQ U_47 Z_189 (Ht rfl) (Ht rfl) rfl zo (by rw [Nat.mul_one, Nat.zero_add])) ?_)))))))))))))
   refine lO Z_189 (Ht rfl) (Ht rfl) (i:=0) rfl (by first | omega | (simp; omega)) rfl (ra rfl (eZ (bO (dQ (ro rfl (dW (Ht rfl) (cV 1) z6) (rm rfl (eZ (fY (k + 1,_,_) (hS.next (cA m) (cA n) hb) (by dsimp only; omega) (zS rfl) (aU (aB (gC _ _ _)) aY)))))))))
 ·simp at hb
  have hkl:k = (dg m).length:=Nat.le_antisymm hS.kle hb
  subst hkl
  have hlen:=hS.len
  have hfin:=hS.fin (cA m) hle (by rw [dF,dF]; exact hnm)
  rw [dF,dF] at hfin
  refine gW rfl (gV (i:=0) (tt:=5) rfl rfl (mU rfl hlen.symm (Nat.le_refl _)) (ts (rm rfl (ro rfl (cJ K_221 (rJ _ hS.dig zo) ⟨(Ht rfl),trivial⟩) (ra rfl (eZ (fG rfl (fZ (eY rfl) ?_))))))))
  exact (dL hfin)
theorem Ia {m n:Nat} (hm:(dg m).length ≤ 17592186044416) (hn:(dg n).length ≤ 17592186044416):bH Tryz.prog 138 [aI m,aI n] (aI (m * n)):=by
 refine bH.intro Tryz.func138 rfl Tryz.ntmps138 rfl (fun cx=>(ts (ro rfl (cX cW) (eZ (cU (ts (rm rfl (ro rfl (dK U_47 (Ht rfl) aA) (ro rfl (dO (Ht rfl) (cV 0)) (rm rfl (fX rfl rfl (eU rfl rfl (Ht rfl) (fun h=>cZ (Ht rfl))) (fX rfl rfl (eU rfl rfl (Ht rfl) (fun h=>dK U_47 (fV rfl h) aA)) (fX rfl rfl (eU rfl rfl (Ht rfl) (fun h=>dO (fV rfl h) (cV 0))) (ro rfl (jI (Ht rfl) (fun h=>(fV rfl h))) (eZ (dX (Ht rfl) (fun hb=>?_) (fun hb=>?_)))))))))))))))))
 ·simp [bF] at hb
  have h0 : m * n = 0 := by
   rcases hb with h | h <;> simp_all [uB]
  refine ts (ro rfl (cX cW) (eZ (fG rfl (fZ (eY rfl) ?_))))
  exact (fun v V h=>by rw [h0]; exact kN v V h)
 ·clear hb
  refine cY (ts (rm rfl (ro rfl (dK U_47 (Ht rfl) aA) (rm rfl (ro rfl (dK U_47 (Ht rfl) aA) (ro rfl (dW (Ht rfl) (Ht rfl) z6) (rn rfl (eM (T:=cH 0) (i:=Tryz.t189) V_47 jF rfl rfl (Ht rfl) rfl (fun _=>rfl) trivial (by show 4 * _ ≤ _; omega) zo) fun B24=>(ra rfl (eZ (cU (ts (rm rfl (ro rfl (dK U_47 (Ht rfl) aA) (ro rfl (cZ (cV 0)) (eZ (eK ?_))))))))))))))))
  refine fS (fun (i : Nat) (out : List Nat) => Fb (dg m) (dg n) out i) (fun (i : Nat) (out : List Nat) => (dg m).length - i) (fun (i : Nat) (out : List Nat) => [(0, aI m), (1, aI n), (5, Is (.slice (some ⟨B24, 0, none⟩) ((dg m).length + (dg n).length) ((dg m).length + (dg n).length))), (25, aI m), (26, NT .i64 (dg m).length), (27, NT .i64 i)]) (fun (i : Nat) (out : List Nat) => [box B24 189 (out.map cH)]) 0 (List.replicate ((dg m).length + (dg n).length) 0) (Fb.start _ _)
   (zS rfl) (aU (aB (mM _)) aY) (fun i out hS=>?_)
  refine ts (ro rfl (gZ (Ht rfl) (Ht rfl)) (eZ (cU (dX (Ht rfl) (fun hb=>?_) (fun hb=>?_)))))
  ·simp at hb
   have hxi:=bI (cA m) i
   simp only [BB] at hxi
   refine cY (cU (eK (ts (rm rfl (ro rfl (dJ U_47 Z_189 (Ht rfl) (Ht rfl) rfl (eQ (aP zo))) (ro rfl (dV A_189 Z_189 (Ht rfl)) (ra rfl (ra rfl (eZ (ts (ro rfl (cX (cV 0)) (eZ (cU (ts (rm rfl (ro rfl (dK U_47 (Ht rfl) aA) (ro rfl (cZ (cV 0)) (eZ (eK ?_)))))))))))))))))))
   refine kD (fun (k : Nat) (out2 : List Nat) (c : Nat) => Lm (dg m) (dg n) out2 i k c) (fun (k : Nat) (out2 : List Nat) (c : Nat) => (dg n).length - k) (fun (k : Nat) (out2 : List Nat) (c : Nat) => [(0, aI m), (1, aI n), (5, Is (.slice (some ⟨B24, 0, none⟩) ((dg m).length + (dg n).length) ((dg m).length + (dg n).length))), (6, NT .i64 i), (7, cH ((dg m).getD i 0)), (8, NT .u64 c), (25, aI m), (26, NT .i64 (dg m).length), (27, NT .i64 i), (32, aI n), (33, NT .i64 (dg n).length), (34, NT .i64 k)]) (fun (k : Nat) (out2 : List Nat) (c : Nat) => [box B24 189 (out2.map cH)]) 0 out 0 (hS.row hb)
    (zS rfl) (dM.refl _) (fun k out2 c hR=>?_)
   refine ts (ro rfl (gZ (Ht rfl) (Ht rfl)) (eZ (cU (dX (Ht rfl) (fun hk=>?_) (fun hk=>?_)))))
   ·simp at hk
    have hlen:=hR.len; have hcl:=hR.clt; have hyk:=bI (cA n) k; have hok:=bI hR.dig (i + k)
    have hbnd:=xW (bI (cA m) i) (bI (cA n) k) (bI hR.dig (i + k)) hR.clt
    simp only [BB] at hcl hyk hok hbnd
    refine cY (cU (eK (ts (rm rfl (ro rfl (dJ U_47 Z_189 (Ht rfl) (Ht rfl) rfl (eQ (aP zo))) (ro rfl (dV A_189 Z_189 (Ht rfl)) (ra rfl (ra rfl (eZ (ts (rm rfl (rm rfl (ro rfl (gJ U_189 U_254 (Ht rfl) z7) (rm rfl (ro rfl (gJ U_189 U_254 (Ht rfl) z7) (ro rfl (lL (Ht rfl) (Ht rfl) (by show _ < 18446744073709551616; omega)) ?_))))))))))))))))
    refine rm rfl (rm rfl (rm rfl (ro rfl (dW (Ht rfl) (Ht rfl) z6) (ro rfl (gQ U_47 Z_189 (Ht rfl) (Ht rfl) rfl zo (by rw [Nat.mul_one,Nat.zero_add])) ?_))))
    refine ro rfl (fQ A_189 Z_189 (Ht rfl) (i:=0) rfl (eQ (aP zo))) (ro rfl (gJ U_189 U_254 (Ht rfl) z7) (ro rfl (dW (Ht rfl) (Ht rfl) z7) (ro rfl (dW (Ht rfl) (Ht rfl) z7) (ra rfl (eZ (ts (rm rfl (rm rfl (rm rfl (ro rfl (dW (Ht rfl) (Ht rfl) z6) ?_))))))))))
    refine rm rfl (ro rfl (gF rfl U_254 U_189 (Ht rfl)) (ro rfl (gQ U_47 Z_189 (Ht rfl) (Ht rfl) rfl zo (by rw [Nat.mul_one,Nat.zero_add])) ?_))
    refine lO Z_189 (Ht rfl) (Ht rfl) (i:=0) rfl (by first | omega | (simp; omega)) rfl (eZ (dQ (rm rfl (ro rfl (fA (Ht rfl) (cV 32) (by decide)) (ra rfl (eZ (bO (dQ (ro rfl (dW (Ht rfl) (cV 1) z6) (rm rfl (eZ (fY (k + 1,_,_) (hR.next (cA m) (cA n) hk rfl) (by dsimp only; omega) (zS rfl) (aU (aB (gC _ _ _)) aY)))))))))))))
   ·simp at hk
    have hkl:k = (dg n).length:=Nat.le_antisymm hR.kle hk
    subst hkl
    have hlen:=hR.len; have hcl:=hR.clt
    simp only [BB] at hcl
    refine gW rfl (dQ (rm rfl (rm rfl (rm rfl (ro rfl (dK U_47 (Ht rfl) aA) (ro rfl (dW (Ht rfl) (Ht rfl) z6) (rm rfl (ro rfl (gJ U_254 U_189 (Ht rfl) (by show _ < 4294967296; first | omega | (simp only [mB]; omega))) (ro rfl (gQ U_47 Z_189 (Ht rfl) (Ht rfl) rfl zo (by rw [Nat.mul_one,Nat.zero_add])) ?_)))))))))
    refine lO Z_189 (Ht rfl) (Ht rfl) (i:=0) rfl (by first | omega | (simp; omega)) rfl (eZ (bO (dQ (ro rfl (dW (Ht rfl) (cV 1) z6) (rm rfl (eZ (fY (i + 1,_) (hR.fin) (by dsimp only; omega) (zS rfl) (aU (aB (gC _ _ _)) aY))))))))
  ·simp at hb
   have hkl:i = (dg m).length:=Nat.le_antisymm hS.ile hb
   subst hkl
   have hlen:=hS.len
   have hfin:=hS.fin
   rw [dF,dF] at hfin
   refine gW rfl (gV (i:=0) (tt:=5) rfl rfl (mU rfl hlen.symm (Nat.le_refl _)) (ts (rm rfl (ro rfl (cJ K_221 (rJ _ hS.dig zo) ⟨(Ht rfl),trivial⟩) (ra rfl (eZ (fG rfl (fZ (eY rfl) ?_))))))))
   exact (dL hfin)
end
section
open Go Go.RowKit
theorem a0r {v:Nat} (hv:v < 4294967296):bH Tryz.prog 280 [cH v] (NT .i64 (bl v)):=by
 refine bH.intro Tryz.func280 rfl Tryz.ntmps280 rfl (fun cx=>(ts (ro rfl (cX (cV 0)) (eZ (cU (rG (fun (q:Nat) (x:Nat)=>bl v = q + bl x ∧ x < 65536 ∧ q ≤ 16) (fun (q:Nat) (x:Nat)=>[(0,cH x),(2,NT .i64 q)]) (fun (q:Nat) (x:Nat)=>[]) ?_ (fun q x ⟨hq1,hq2,hq3⟩=>?_)))))))
 ·refine ts (rm rfl (ro rfl (pY (Ht rfl) (cV 65536)) (eZ (dX (Ht rfl) (fun hb => ?_) (fun hb => ?_)))))
  ·simp at hb
   refine ts (rm rfl (ro rfl (fA (Ht rfl) (cV 16) (by decide)) (ra rfl (eZ (dQ (ro rfl (cX (cV 16)) (eZ (bD (16,v / 2 ^ 16) ⟨a5y hb,by dsimp only; omega,Nat.le_refl _⟩ (zS rfl) aY))))))))
  ·simp at hb
   refine cY (bD (0,v) ⟨(Nat.zero_add _).symm,hb,by dsimp only; omega⟩ (zS rfl) aY)
 ·refine cU (rG (fun (r : Nat) (z : Nat) => bl v = r + bl z ∧ z < 256 ∧ r ≤ 24) (fun (r : Nat) (z : Nat) => [(0, cH z), (2, NT .i64 r)]) (fun (r : Nat) (z : Nat) => []) ?_ (fun r z ⟨hr1, hr2, hr3⟩ => ?_))
  ·refine ts (rm rfl (ro rfl (pY (Ht rfl) (cV 256)) (eZ (dX (Ht rfl) (fun hb => ?_) (fun hb => ?_)))))
   ·simp at hb
    refine ts (rm rfl (ro rfl (fA (Ht rfl) (cV 8) (by decide)) (ra rfl (eZ (dQ (rm rfl (ro rfl (dW (Ht rfl) (cV 8) z6) (ra rfl (eZ (bD (q + 8,x / 2 ^ 8) ⟨by have:=bl8 hb; dsimp only; omega,by dsimp only; omega,by dsimp only; omega⟩ (zS rfl) aY))))))))))
   ·simp at hb
    refine cY (bD (q,x) ⟨hq1,hb,by dsimp only; omega⟩ (zS rfl) aY)
  ·have hbl := nP (k := 8) hr2
   refine ts (rm rfl (rm rfl (ro rfl (gJ U_189 U_5 (Ht rfl) (by show _ < 256; first | omega | (simp only [mB]; omega))) (ro rfl (a1C Tryz.runUnderlying9 cW (Ht rfl) (a5E hr2 (by kernel_rfl))) (ro rfl (gJ U_5 U_3 (Ht rfl) z6) (ro rfl (dW (Ht rfl) (Ht rfl) z6) (ra rfl (eZ (fG rfl (fZ (eY rfl) ?_))))))))))
   exact (kU zo)
theorem a3e {v:Nat} (hv:v < 4294967296):bH Tryz.prog 258 [cH v] (NT .i64 (32 - bl v)):=by
 refine bH.intro Tryz.func258 rfl Tryz.ntmps258 rfl (fun cx=>(ts (ro rfl (cX (cV 0)) (eZ (ts (rm rfl (ro rfl (cJ Tryz.call280 (a0r hv) ⟨(Ht rfl),trivial⟩) (ro rfl (dG (cV 32) (Ht rfl) (nP hv) z6) (ra rfl (eZ ?_))))))))))
 exact fG rfl (eY rfl)
theorem a0n {hi lo y:Nat} (hy:hi < y) (hl:lo < BB) (hyb:y < BB):bH Tryz.prog 279 [cH hi,cH lo,cH y] (fI [cH ((hi * BB + lo) / y),cH ((hi * BB + lo) % y)]):=by
 have hq:=Ev hy hl; have hm:=Nat.mod_lt (hi * BB + lo) (by omega:y > 0); have hz:hi * BB + lo < 18446744073709551616:=by simp only [BB] at *; omega
 have hsh : hi * 2 ^ 32 < 18446744073709551616 := by
  have h1:hi < BB:=by omega
  show hi * BB < _
  simp only [BB] at h1 ⊢; omega
 refine bH.intro Tryz.func279 rfl Tryz.ntmps279 rfl (fun cx=>(ts (ro rfl (cX (cV 0)) (ro rfl (cX (cV 0)) (eZ (cU (ts (rm rfl (ro rfl (gB (Ht rfl) (cV 0)) (rm rfl (fX rfl rfl (eU rfl rfl (Ht rfl) (fun h=>cZ (Ht rfl))) (fX rfl rfl (eU rfl rfl (Ht rfl) (fun h=>cZ (Ht rfl))) (fX rfl rfl (eU rfl rfl (Ht rfl) (fun h=>zX (fV rfl h) (fV rfl h))) (ro rfl (fM (Ht rfl) (fun h=>(fV rfl h))) (eZ (nF (Ht rfl) (by simp; omega) ?_))))))))))))))))
 have hl2:lo < 18446744073709551616:=by simp only [BB] at hl; omega
 have hy2:y < 18446744073709551616:=by simp only [BB] at hyb; omega
 refine cY (ts (rm rfl (ro rfl (gJ U_189 U_254 (Ht rfl) (by show _ < 18446744073709551616; simp only [BB] at *; omega)) (ro rfl (nI (Ht rfl) (cV 32) (by decide) hsh) (rm rfl (ro rfl (gJ U_189 U_254 (Ht rfl) (by show _ < 18446744073709551616; simp only [BB] at *; omega)) (ro rfl (aM.nat (pG rfl (Ht rfl) (Ht rfl) z7 z7) (vN hl)) (ra rfl (eZ ?_)))))))))
 refine cU (fJ (m:=11) (dp 8 rfl (cZ (Ht rfl)) (dp 2 rfl (cZ (Ht rfl)) (dq 24 1 rfl (gJ U_189 U_254 (Ht rfl) (by show _ < 18446744073709551616; simp only [BB] at *; omega)) (dR 23 0 25 2 rfl (jB (Ht rfl) (Ht rfl) zo (by show _ < 18446744073709551616; exact hz)) (dq 26 3 rfl (gJ U_254 U_189 (Ht rfl) (by show _ < 4294967296; exact hq)) (dp 8 rfl (cZ (Ht rfl)) (dp 2 rfl (cZ (Ht rfl)) (dq 29 6 rfl (gJ U_189 U_254 (Ht rfl) (by show _ < 18446744073709551616; simp only [BB] at *; omega)) ?_)))))))))
 refine dR 28 5 30 7 rfl (oQ (Ht rfl) (Ht rfl) zo) (dq 31 8 rfl (gJ U_254 U_189 (Ht rfl) (by show _ < 4294967296; simp only [BB] at *; omega)) (dq 27 4 rfl (cX (Ht rfl)) (fW bE rfl (by kernel_rfl) (zF (zF (aJ (aJ (aJ (aV (ra rfl (eZ ?_)))))))))))
 exact bN rfl (eY rfl) (eY rfl)
theorem a2q {m k:Nat} (hm:(dg m).length ≤ 17592186044416) (hk:k ≤ 562949953421312):bH Tryz.prog 259 [aI m,NT .i64 k] (aI (m * 2 ^ k)):=by
 refine bH.intro Tryz.func259 rfl Tryz.ntmps259 rfl (fun cx=>(ts (ro rfl (cX cW) (eZ (cU (ts (rm rfl (ro rfl (dK U_47 (Ht rfl) aA) (ro rfl (dO (Ht rfl) (cV 0)) (rm rfl (fX rfl rfl (eU rfl rfl (Ht rfl) (fun h=>cZ (Ht rfl))) (fX rfl rfl (eU rfl rfl (Ht rfl) (fun h=>dO (fV rfl h) (cV 0))) (ro rfl (jI (Ht rfl) (fun h=>(fV rfl h))) (eZ (dX (Ht rfl) (fun hb=>?_) (fun hb=>?_))))))))))))))))
 ·simp [bF] at hb
  have h0 : m * 2 ^ k = m := by
   rcases hb with h | h
   ·simp_all [uB]
   ·rw [h,Nat.pow_zero,Nat.mul_one]
  refine ts (rm rfl (ra rfl (eZ (fG rfl (fZ (eY rfl) ?_)))))
  exact (dL h0.symm)
 ·clear hb
  have hr:=Nat.mod_lt k (by decide:32 > 0)
  refine cY (ts (rm rfl (ro rfl (jB (Ht rfl) (cV 32) zo z6) (rm rfl (ro rfl (oQ (Ht rfl) (cV 32) zo) (ro rfl (gJ U_3 U_255 (Ht rfl) z7) (ra rfl (ra rfl (eZ (ts (rm rfl (ro rfl (dK U_47 (Ht rfl) aA) (rm rfl (ro rfl (dW (Ht rfl) (Ht rfl) z6) (ro rfl (dW (Ht rfl) (cV 1) z6) ?_)))))))))))))))
  refine rn rfl (eM (T:=cH 0) (i:=Tryz.t189) V_47 jF rfl rfl (Ht rfl) rfl (fun _=>rfl) trivial (by show 4 * _ ≤ _; omega) zo) fun B29=>ra rfl (eZ (cU (ts (rm rfl (ro rfl (dK U_47 (Ht rfl) aA) (ro rfl (cZ (cV 0)) (eZ (eK ?_))))))))
  refine fS (fun (i : Nat) (out : List Nat) => Am (dg m) (k / 32) (k % 32) out i) (fun (i : Nat) (out : List Nat) => (dg m).length - i) (fun (i : Nat) (out : List Nat) => [(5, NT .i64 (k / 32)), (6, NT .u64 (k % 32)), (7, Is (.slice (some ⟨B29, 0, none⟩) ((dg m).length + k / 32 + 1) ((dg m).length + k / 32 + 1))), (30, aI m), (31, NT .i64 (dg m).length), (32, NT .i64 i)]) (fun (i : Nat) (out : List Nat) => [box B29 189 (out.map cH)]) 0 (List.replicate ((dg m).length + k / 32 + 1) 0) (Am.start _ _ _)
   (zS rfl) (aU (aB (mM _)) aY) (fun i out hS=>?_)
  refine ts (ro rfl (gZ (Ht rfl) (Ht rfl)) (eZ (cU (dX (Ht rfl) (fun hb=>?_) (fun hb=>?_)))))
  ·simp at hb
   have hlen:=hS.len; have hxi:=bI (cA m) i; have hok:=bI hS.dig (i + k / 32)
   have hv:=Eu hxi hr
   have hd:(dg m).getD i 0 * 2 ^ (k % 32) / 2 ^ 32 < 4294967296:=Nat.div_lt_of_lt_mul hv
   simp only [BB] at hxi hok
   refine cY (cU (eK (ts (rm rfl (ro rfl (dJ U_47 Z_189 (Ht rfl) (Ht rfl) rfl (eQ (aP zo))) (ro rfl (dV A_189 Z_189 (Ht rfl)) (ra rfl (ra rfl (eZ (ts (rm rfl (ro rfl (gJ U_189 U_254 (Ht rfl) z7) (rm rfl (ro rfl (nI (Ht rfl) (Ht rfl) (by show _ ≤ _; simp [IntKind.bits]; omega) (by show _ < 18446744073709551616; exact hv)) (ra rfl (eZ (ts (rm rfl (rm rfl (rm rfl (ro rfl (dW (Ht rfl) (Ht rfl) z6) ?_)))))))))))))))))))))
   refine ro rfl (gQ U_47 Z_189 (Ht rfl) (Ht rfl) rfl zo (by rw [Nat.mul_one,Nat.zero_add])) ?_
   refine ro rfl (fQ A_189 Z_189 (Ht rfl) (i:=0) rfl (eQ (aP zo))) (rm rfl (ro rfl (gF rfl U_254 U_189 (Ht rfl)) (ro rfl (pG rfl (Ht rfl) (Ht rfl) (by show _ < 4294967296; omega) (by show _ % 4294967296 < 4294967296; omega)) (ro rfl (gQ U_47 Z_189 (Ht rfl) (Ht rfl) rfl zo (by rw [Nat.mul_one,Nat.zero_add])) ?_))))
   refine lO Z_189 (Ht rfl) (Ht rfl) (i:=0) rfl (by first | omega | (simp; omega)) rfl (eZ (dQ (rm rfl (rm rfl (rm rfl (ro rfl (dW (Ht rfl) (Ht rfl) z6) (ro rfl (dW (Ht rfl) (cV 1) z6) (rm rfl (ro rfl (fA (Ht rfl) (cV 32) (by decide)) (ro rfl (gJ U_254 U_189 (Ht rfl) (by show _ < 4294967296; exact hd)) (ro rfl (gQ U_47 Z_189 (Ht rfl) (Ht rfl) rfl zo (by rw [Nat.mul_one,Nat.zero_add])) ?_)))))))))))
   refine lO Z_189 (Ht rfl) (Ht rfl) (i:=0) rfl (by first | omega | (simp; omega)) rfl (eZ (bO (dQ (ro rfl (dW (Ht rfl) (cV 1) z6) (rm rfl (eZ (fY (i + 1,_) (hS.next (cA m) hr hb rfl rfl) (by dsimp only; omega) (zS rfl) (aU (aB (Kp _ _ _ _ _)) aY))))))))
  ·simp at hb
   have hkl:i = (dg m).length:=Nat.le_antisymm hS.kle hb
   subst hkl
   have hlen:=hS.len
   have hfin:=hS.fin
   rw [dF,lX] at hfin
   refine gW rfl (gV (i:=0) (tt:=7) rfl rfl (mU rfl hlen.symm (Nat.le_refl _)) (ts (rm rfl (ro rfl (cJ K_221 (rJ _ hS.dig zo) ⟨(Ht rfl),trivial⟩) (ra rfl (eZ (fG rfl (fZ (eY rfl) ?_))))))))
   exact (dL hfin)
theorem a53 {m k:Nat} (hm:(dg m).length ≤ 17592186044416) (hk:k ≤ 562949953421312):bH Tryz.prog 261 [aI m,NT .i64 k] (aI (m / 2 ^ k)):=by
 refine bH.intro Tryz.func261 rfl Tryz.ntmps261 rfl (fun cx=>?_)
 have hr:=Nat.mod_lt k (by decide:32 > 0)
 refine ts (ro rfl (cX cW) (eZ (ts (rm rfl (ro rfl (jB (Ht rfl) (cV 32) zo z6) (rm rfl (ro rfl (oQ (Ht rfl) (cV 32) zo) (ro rfl (gJ U_3 U_255 (Ht rfl) z7) (ra rfl (ra rfl (eZ (cU (ts (rm rfl (rm rfl (ro rfl (dK U_47 (Ht rfl) aA) (ro rfl (pY (Ht rfl) (Ht rfl)) (eZ (dX (Ht rfl) (fun hb=>?_) (fun hb=>?_))))))))))))))))))))
 ·simp at hb
  have h0:=Kt (cA m) hb (r:=k % 32)
  rw [dF,lX] at h0
  refine ts (ro rfl (cX cW) (eZ (fG rfl (fZ (eY rfl) ?_))))
  exact (fun v V h=>dL h0.symm v V (kN v V h))
 ·simp at hb
  refine cY (ts (rm rfl (ro rfl (dK U_47 (Ht rfl) aA) (rm rfl (ro rfl (dG (Ht rfl) (Ht rfl) zo z6) (rn rfl (eM (T:=cH 0) (i:=Tryz.t189) V_47 jF rfl rfl (Ht rfl) rfl (fun _=>rfl) trivial (by show 4 * _ ≤ _; omega) zo) fun B23=>(ra rfl (eZ (cU (ts (rm rfl (ro rfl (gA U_47 (Ht rfl)) (ro rfl (cZ (cV 0)) (eZ (eK ?_)))))))))))))))
  refine fS (fun (i : Nat) (out : List Nat) => An (dg m) (k / 32) (k % 32) out i) (fun (i : Nat) (out : List Nat) => (dg m).length - i) (fun (i : Nat) (out : List Nat) => [(0, aI m), (5, NT .i64 (k / 32)), (6, NT .u64 (k % 32)), (7, Is (.slice (some ⟨B23, 0, none⟩) ((dg m).length - k / 32) ((dg m).length - k / 32))), (25, NT .i64 ((dg m).length - k / 32 : Nat)), (26, NT .i64 i)]) (fun (i : Nat) (out : List Nat) => [box B23 189 (out.map cH)]) 0 (List.replicate ((dg m).length - k / 32) 0) (An.start _ _ _)
   (zS rfl) (aU (aB (mM _)) aY) (fun i out hS=>?_)
  refine ts (ro rfl (gZ (Ht rfl) (Ht rfl)) (eZ (cU (dX (Ht rfl) (fun hb=>?_) (fun hb=>?_)))))
  ·simp at hb
   have hlen:=hS.len; have hx0:=bI (cA m) (i + k / 32); have hx1:=bI (cA m) (i + k / 32 + 1)
   have hio:i < out.length:=by omega
   simp only [BB] at hx0 hx1
   refine cY (cU (eK (ts (rm rfl (ra rfl (eZ (ts (rm rfl (rm rfl (rm rfl (ro rfl (dW (Ht rfl) (Ht rfl) z6) (ro rfl (dJ U_47 Z_189 (Ht rfl) (Ht rfl) rfl (eQ (aP zo))) (ro rfl (dV A_189 Z_189 (Ht rfl)) (ro rfl (gJ U_189 U_254 (Ht rfl) z7) (ra rfl (eZ (cU (jW (fun (v:Nat)=>v = (dg m).getD (i + k / 32) 0 + BB * (dg m).getD (i + k / 32 + 1) 0) (fun (v:Nat)=>[(0,aI m),(5,NT .i64 (k / 32)),(6,NT .u64 (k % 32)),(7,Is (.slice (some ⟨B23,0,none⟩) ((dg m).length - k / 32) ((dg m).length - k / 32))),(8,NT .i64 i),(9,NT .u64 v),(25,NT .i64 ((dg m).length - k / 32:Nat)),(26,NT .i64 i)]) (fun (v:Nat)=>[box B23 189 (out.map cH)]) ?_ (fun v hv=>?_)))))))))))))))))))
   ·refine ts (rm rfl (rm rfl (ro rfl (dW (Ht rfl) (Ht rfl) z6) (ro rfl (dW (Ht rfl) (cV 1) z6) (rm rfl (ro rfl (dK U_47 (Ht rfl) aA) (ro rfl (gZ (Ht rfl) (Ht rfl)) (eZ (dX (Ht rfl) (fun hk2 => ?_) (fun hk2 => ?_))))))))))
    ·simp at hk2
     refine dQ (rm rfl (rm rfl (rm rfl (rm rfl (ro rfl (dW (Ht rfl) (Ht rfl) z6) (ro rfl (dW (Ht rfl) (cV 1) z6) (ro rfl (dJ U_47 Z_189 (Ht rfl) (Ht rfl) rfl (eQ (aP zo))) (ro rfl (dV A_189 Z_189 (Ht rfl)) (ro rfl (gJ U_189 U_254 (Ht rfl) z7) (ro rfl (nI (Ht rfl) (cV 32) (by decide) (by show _ < 18446744073709551616; omega)) ?_))))))))))
     refine ro rfl (aM.nat (pG rfl (Ht rfl) (Ht rfl) z7 z7) (Qq hx0)) (ra rfl (eZ (bD ((dg m).getD (i + k / 32) 0 + BB * (dg m).getD (i + k / 32 + 1) 0) rfl (zS rfl) (dM.refl _))))
    ·simp at hk2
     refine cY (bD ((dg m).getD (i + k / 32) 0) (by simp [List.getD,List.getElem?_eq_none hk2]) (zS rfl) (dM.refl _))
   ·refine dQ (rm rfl (rm rfl (rm rfl (rm rfl (ro rfl (fA (Ht rfl) (Ht rfl) (by show _ ≤ 64; omega)) (ro rfl (gF rfl U_254 U_189 (Ht rfl)) (ro rfl (gQ U_47 Z_189 (Ht rfl) (Ht rfl) rfl zo (by rw [Nat.mul_one, Nat.zero_add])) ?_)))))))
    refine lO Z_189 (Ht rfl) (Ht rfl) (i:=0) rfl (by first | omega | (simp; omega)) rfl (eZ (bO (dQ (ro rfl (dW (Ht rfl) (cV 1) z6) (rm rfl (eZ (fY (i + 1,_) (hS.next (cA m) hr hio (by rw [hv]; rfl)) (by dsimp only; omega) (zS rfl) (aU (aB (gC _ _ _)) aY))))))))
  ·simp at hb
   have hlen:=hS.len
   have hkl:i = out.length:=Nat.le_antisymm hS.kle zo
   subst hkl
   have hfin:=hS.fin (cA m) zo
   rw [dF,lX] at hfin
   refine gW rfl (gV (i:=0) (tt:=7) rfl rfl (mU rfl hlen.symm (Nat.le_refl _)) (ts (rm rfl (ro rfl (cJ K_221 (rJ _ hS.dig zo) ⟨(Ht rfl),trivial⟩) (ra rfl (eZ (fG rfl (fZ (eY rfl) ?_))))))))
   exact (dL hfin)
theorem Ox {m y:Nat} (hm:(dg m).length ≤ 17592186044416) (hy:0 < y) (hyb:y < BB):bH Tryz.prog 257 [aI m,cH y] (fI [aI (m / y),cH (m % y)]):=by
 refine bH.intro Tryz.func257 rfl Tryz.ntmps257 rfl (fun cx=>(ts (ro rfl (cX cW) (ro rfl (cX (cV 0)) (eZ (ts (rm rfl (ro rfl (dK U_47 (Ht rfl) aA) (rn rfl (eM (T:=cH 0) (i:=Tryz.t189) V_47 jF rfl rfl (Ht rfl) rfl (fun _=>rfl) trivial (by show 4 * _ ≤ _; omega) zo) fun B11=>(ra rfl (eZ (ts (ro rfl (cX (cV 0)) (eZ (cU (ts (rm rfl (ro rfl (dK U_47 (Ht rfl) aA) (ro rfl (iK (Ht rfl) cW (Db zo)) (ra rfl (eZ (eK ?_))))))))))))))))))))))
 refine kD (fun (k : Nat) (out : List Nat) (r : Nat) => oX (dg m) y out k r) (fun (k : Nat) (out : List Nat) (r : Nat) => k) (fun (k : Nat) (out : List Nat) (r : Nat) => [(0, aI m), (1, cH y), (6, Is (.slice (some ⟨B11, 0, none⟩) (dg m).length (dg m).length)), (7, cH r), (8, aO .i64 ((k : Int) - 1))]) (fun (k : Nat) (out : List Nat) (r : Nat) => [box B11 189 (out.map cH)]) (dg m).length (List.replicate (dg m).length 0) 0 (oX.start _ hy)
  (zS rfl) (aU (aB (mM _)) aY) (fun k out r hS=>?_)
 refine cU (ts (rm rfl (ro rfl (lQ (Ht rfl) cW) (eZ (dX (Ht rfl) (fun hb=>?_) (fun hb=>?_))))))
 ·simp at hb
  have hlen:=hS.len; have hkl:=hS.kle
  refine cY (cU (eK (dQ (rm rfl (rm rfl (rm rfl (rm rfl (rm rfl (ro rfl (dJ U_47 Z_189 (Ht rfl) (Ht rfl) (show ((k:Int) - 1) = ((k - 1:Nat):Int) by omega) (eQ (aP zo))) (ro rfl (dV A_189 Z_189 (Ht rfl)) (rm rfl (ro rfl (cJ Tryz.call279 (a0n hS.rlt (bI (cA m) (k - 1)) hyb) ⟨(Ht rfl),(Ht rfl),(Ht rfl),trivial⟩) (rm rfl (ro rfl (dU (Ht rfl) rfl) (ro rfl (dU (Ht rfl) rfl) (ro rfl (gQ U_47 Z_189 (Ht rfl) (Ht rfl) (show ((k:Int) - 1) = ((k - 1:Nat):Int) by omega) zo (by rw [Nat.mul_one,Nat.zero_add])) ?_))))))))))))))))
  refine lO Z_189 (Ht rfl) (Ht rfl) (i:=0) rfl (by first | omega | (simp; omega)) rfl (ra rfl (eZ (bO (dQ (rm rfl (ro rfl (iK (Ht rfl) cW (Db zo)) (ra rfl (eZ (fY (k - 1,_,_) (hS.next (cA m) zo rfl) (by dsimp only; omega) (aQ rfl (aQ rfl (aQ rfl (aQ rfl (aZ rfl (aS zo) aX))))) (aU (aB (gC _ _ _)) aY))))))))))
 ·simp at hb
  have hk0:k = 0:=by omega
  subst hk0
  have hlen:=hS.len
  have hfin:=hS.fin
  rw [dF] at hfin
  refine gW rfl (gV (i:=0) (tt:=6) rfl rfl (mU rfl hlen.symm (Nat.le_refl _)) (ts (rm rfl (ro rfl (cJ K_221 (rJ _ hS.dig zo) ⟨(Ht rfl),trivial⟩) (rm rfl (ra rfl (ra rfl (eZ (bN rfl (fZ (eY rfl) ?_) (fZ (eY rfl) ?_))))))))))
  ·exact (dL hfin.1)
  ·exact (kU hfin.2)
end
section
open Go Go.RowKit
theorem a3l {us vs : List Nat} {q j B l : Nat} (hul : us.length = l) (hu : kB us) (hv : kB vs) (hq : q < BB) (hl : j + vs.length < us.length) (hL : us.length ≤ 1152921504606846976) :
    gO Tryz.prog 260 [Is (.slice (some ⟨B,0,none⟩) l l),vF vs,NT .u64 q,NT .i64 j] [box B 189 (us.map cH)] (List Nat × Bool) (fun x=>aD x.2) (fun x=>[box B 189 (x.1.map cH)]) (fun x=>Hq us vs q j x.1 x.2):=by
 refine gO.intro Tryz.func260 rfl Tryz.ntmps260 rfl (fun cx Z=>(ts (ro rfl (cX cW) (eZ (ts (ro rfl (cX (cV 0)) (ro rfl (cX (cV 0)) (eZ (cU (ts (rm rfl (ro rfl (dK U_47 (Ht rfl) aA) (ro rfl (cZ (cV 0)) (eZ (eK ?_)))))))))))))))
 refine zA (fun (i : Nat) (out : List Nat) (c : Nat) (b : Nat) => sA us vs q j out i c b) (fun (i : Nat) (out : List Nat) (c : Nat) (b : Nat) => vs.length - i) (fun (i : Nat) (out : List Nat) (c : Nat) (b : Nat) => [(0, Is (.slice (some ⟨B, 0, none⟩) l l)), (1, vF vs), (2, NT .u64 q), (3, NT .i64 j), (9, NT .u64 c), (10, NT .u64 b), (16, vF vs), (17, NT .i64 vs.length), (18, NT .i64 i)]) (fun (i : Nat) (out : List Nat) (c : Nat) (b : Nat) => [Z, box B 189 (out.map cH)]) 0 us 0 0 (sA.start hu vs q j)
  (zS rfl) (dM.refl _) (fun i out c b hS=>?_)
 refine ts (ro rfl (gZ (Ht rfl) (Ht rfl)) (eZ (cU (dX (Ht rfl) (fun hb=>?_) (fun hb=>?_)))))
 ·simp at hb
  have hlen:=hS.len; have hcl:=hS.clt; have hbl:=hS.ble; have hvi:=bI hv i; have hok:=bI hS.dig (i + j)
  have hp:=Np hq hvi hS.clt
  simp only [BB] at hp hcl hvi hok
  obtain ⟨p,hp1⟩:∃ p,p = q * vs.getD i 0 + c:=⟨_,rfl⟩
  obtain ⟨x,hx1⟩:∃ x,x = ((out.getD (i + j) 0 + 18446744073709551616 - p % 4294967296) % 18446744073709551616 + 18446744073709551616 - b) % 18446744073709551616:=⟨_,rfl⟩
  refine cY (cU (eK (ts (rm rfl (ro rfl (dJ U_47 Z_189 (Ht rfl) (Ht rfl) rfl (eQ (aP zo))) (ro rfl (dV A_189 Z_189 (Ht rfl)) (ra rfl (ra rfl (eZ (ts (rm rfl (rm rfl (ro rfl (gJ U_189 U_254 (Ht rfl) z7) (ro rfl (lL (Ht rfl) (Ht rfl) z7) (rm rfl (ro rfl (aM.nat (dW (Ht rfl) (Ht rfl) z7) hp1.symm) ?_))))))))))))))))
  refine ra rfl (eZ (ts (rm rfl (ro rfl (fA (Ht rfl) (cV 32) (by decide)) (ra rfl (eZ (ts (rm rfl (rm rfl (rm rfl (ro rfl (dW (Ht rfl) (Ht rfl) z6) (ro rfl (gQ U_47 Z_189 (Ht rfl) (Ht rfl) rfl zo (by rw [Nat.mul_one,Nat.zero_add])) ?_))))))))))))
  refine ro rfl (fQ A_189 Z_189 (Ht rfl) (i:=1) rfl (eQ (aP zo))) (ro rfl (gJ U_189 U_254 (Ht rfl) z7) (rm rfl (ro rfl (gF rfl U_254 U_189 (Ht rfl)) (ro rfl (gJ U_189 U_254 (Ht rfl) z7) (ro rfl (nJ rfl (Ht rfl) (Ht rfl) (by show _ ≤ 18446744073709551616; first | omega | (simp only [mB]; omega))) ?_)))))
  refine rm rfl (ro rfl (aM.nat (nJ rfl (Ht rfl) (Ht rfl) (by show _ ≤ 18446744073709551616; first | omega | (simp only [mB]; omega))) hx1.symm) (ra rfl (eZ (ts (rm rfl (rm rfl (rm rfl (ro rfl (dW (Ht rfl) (Ht rfl) z6) (rm rfl (ro rfl (gF rfl U_254 U_189 (Ht rfl)) (ro rfl (gQ U_47 Z_189 (Ht rfl) (Ht rfl) rfl zo (by rw [Nat.mul_one,Nat.zero_add])) ?_)))))))))))
  refine lO Z_189 (Ht rfl) (Ht rfl) (i:=1) rfl (by first | omega | (simp; omega)) rfl (eZ (dQ (rm rfl (ro rfl (fA (Ht rfl) (cV 63) (by decide)) (ra rfl (eZ (bO (dQ (ro rfl (dW (Ht rfl) (cV 1) z6) (rm rfl (eZ (fY (i + 1,_,_,_) (hS.next hu hv hq hb hl hp1 (Co hok hbl hx1) rfl) (by dsimp only; omega) (zS rfl) (aU (fun _ _ _ h=>h) (aU (aB (gC _ _ _)) aY))))))))))))))
 ·simp at hb
  have hkl:i = vs.length:=Nat.le_antisymm hS.ile hb
  subst hkl
  have hlen:=hS.len; have hcl:=hS.clt; have hbl:=hS.ble; have hok:=bI hS.dig (j + vs.length)
  obtain ⟨x,hx1⟩:∃ x,x = ((out.getD (j + vs.length) 0 + 18446744073709551616 - c) % 18446744073709551616 + 18446744073709551616 - b) % 18446744073709551616:=⟨_,rfl⟩
  have hfin:=hS.fin hl (Cr hok hcl hbl hx1) rfl
  simp only [BB] at hcl hok
  refine gW rfl (ts (rm rfl (rm rfl (rm rfl (ro rfl (dK U_47 (Ht rfl) aA) (ro rfl (dW (Ht rfl) (Ht rfl) z6) (ro rfl (gQ U_47 Z_189 (Ht rfl) (Ht rfl) rfl zo (by rw [Nat.mul_one,Nat.zero_add])) ?_)))))))
  refine ro rfl (fQ A_189 Z_189 (Ht rfl) (i:=1) rfl (eQ (aP zo))) (ro rfl (gJ U_189 U_254 (Ht rfl) z7) (rm rfl (ro rfl (nJ rfl (Ht rfl) (Ht rfl) (by show _ ≤ 18446744073709551616; first | omega | (simp only [mB]; omega))) (rm rfl (ro rfl (aM.nat (nJ rfl (Ht rfl) (Ht rfl) (by show _ ≤ 18446744073709551616; first | omega | (simp only [mB]; omega))) hx1.symm) (ra rfl (eZ (ts (rm rfl (rm rfl (rm rfl (ro rfl (dK U_47 (Ht rfl) aA) ?_))))))))))))
  refine ro rfl (dW (Ht rfl) (Ht rfl) z6) (rm rfl (ro rfl (gF rfl U_254 U_189 (Ht rfl)) (ro rfl (gQ U_47 Z_189 (Ht rfl) (Ht rfl) rfl zo (by rw [Nat.mul_one,Nat.zero_add])) ?_)))
  refine lO Z_189 (Ht rfl) (Ht rfl) (i:=1) rfl (by first | omega | (simp; omega)) rfl (eZ (ts (rm rfl (ro rfl (fA (Ht rfl) (cV 63) (by decide)) (ro rfl (gB (Ht rfl) (cV 0)) (ra rfl (eZ ?_)))))))
  exact kH (_,_) hfin [0,1] ⟨⟨_,rfl,fun _ _ _ h=>h⟩,⟨_,rfl,(aB (gC _ _ _))⟩,trivial⟩ (by decide) (yB rfl (eY rfl))
theorem Oo {m n:Nat} (hm:(dg m).length ≤ 17592186044415) (hn1:(dg n).length ≤ 17592186044416) (hn:n ≠ 0):bH Tryz.prog 220 [aI m,aI n] (fI [aI (m / n),aI (m % n)]):=by
 refine bH.intro Tryz.func220 rfl Tryz.ntmps220 rfl (fun cx=>(ts (ro rfl (cX cW) (ro rfl (cX cW) (eZ (cU (ts (rm rfl (rm rfl (ro rfl (cJ Tryz.call216 (Vk zo zo) ⟨(Ht rfl),(Ht rfl),trivial⟩) (ro rfl (tI (Ht rfl) cW) (eZ (dX (Ht rfl) (fun hb=>?_) (fun hb=>?_))))))))))))))
 ·simp only [decide_eq_true_eq] at hb
  have hlt : m < n := by
   unfold qC at hb
   split at hb
   ·assumption
   ·split at hb <;> simp at hb
  refine ts (rm rfl (ro rfl (cX cW) (ra rfl (eZ (bN rfl (fZ (eY rfl) ?_) (fZ (eY rfl) ?_))))))
  ·exact (fun v V h=>dL (Nat.div_eq_of_lt hlt).symm v V (kN v V h))
  ·exact (dL (Nat.mod_eq_of_lt hlt).symm)
 ·simp only [decide_eq_false_iff_not] at hb
  have hle : n ≤ m := by
   unfold qC at hb
   split at hb
   ·simp at hb
   ·omega
  clear hb
  refine cY (cU (ts (rm rfl (ro rfl (dK U_47 (Ht rfl) aA) (ro rfl (dO (Ht rfl) (cV 1)) (eZ (dX (Ht rfl) (fun h1=>?_) (fun h1=>?_))))))))
  ·simp at h1
   have hy0:=Wf h1
   have hyb:=bI (cA n) 0
   have hmod:=Nat.mod_lt m (show (dg n).getD 0 0 > 0 by omega)
   simp only [BB] at hyb
   refine ts (rm rfl (rm rfl (ro rfl (dJ U_47 Z_189 (Ht rfl) (cV 0) rfl (eQ (aP zo))) (ro rfl (dV A_189 Z_189 (Ht rfl)) (ro rfl (cJ Tryz.call257 (Ox zo zo hyb) ⟨(Ht rfl),(Ht rfl),trivial⟩) (rm rfl (ro rfl (dU (Ht rfl) rfl) (ro rfl (dU (Ht rfl) rfl) (ra rfl (ra rfl (eZ (ts (rm rfl (rm rfl (ro rfl (gJ U_189 U_254 (Ht rfl) z7) (ro rfl (cJ Tryz.call241 (Fp zo) ⟨(Ht rfl),trivial⟩) ?_))))))))))))))))
   refine ra rfl (ra rfl (eZ (bN rfl (fZ (eY rfl) ?_) (fZ (eY rfl) ?_))))
   ·exact (dL (by rw [hy0]))
   ·exact (dL (by rw [hy0]))
  ·simp at h1
   have hl0:(dg n).length ≠ 0:=fun e=>hn (bF.1 e)
   have hyb:=bI (cA n) ((dg n).length - 1)
   obtain ⟨s,hs⟩:∃ s,s = 32 - bl ((dg n).getD ((dg n).length - 1) 0):=⟨_,rfl⟩
   obtain ⟨hs1,hvl,hvb⟩:=Ip hn hs
   obtain ⟨hc1,hc2,hc3,hc4⟩:=Ik (m:=m) hs1
   simp only [BB] at hyb
   have hp2:0 < 2 ^ s:=Nat.pow_pos (by decide)
   have hX0:(dg (m * 2 ^ s)).length ≠ 0:=fun e=>(Nat.ne_of_gt (Nat.mul_pos (show 0 < m by omega) hp2)) (bF.1 e)
   have hmono:=iZ hle
   refine cY (ts (rm rfl (ro rfl (dK U_47 (Ht rfl) aA) (rm rfl (rm rfl (ro rfl (dK U_47 (Ht rfl) aA) (ro rfl (dG (Ht rfl) (cV 1) zo z6) (ro rfl (dJ U_47 Z_189 (Ht rfl) (Ht rfl) rfl (eQ (aP zo))) (ro rfl (dV A_189 Z_189 (Ht rfl)) (ro rfl (aM.nat (cJ Tryz.call258 (a3e zo) ⟨(Ht rfl),trivial⟩) hs.symm) (ra rfl (ra rfl (eZ (ts (rm rfl (rm rfl (ro rfl (cJ Tryz.call259 (a2q zo zo) ⟨(Ht rfl),(Ht rfl),trivial⟩) ?_)))))))))))))))))
   refine ra rfl (eZ (ts (rm rfl (ro rfl (dK U_47 (Ht rfl) aA) (ro rfl (dW (Ht rfl) (cV 1) z6) (rn rfl (eM (T:=cH 0) (i:=Tryz.t189) V_47 jF rfl rfl (Ht rfl) rfl (fun _=>rfl) trivial (by show 4 * _ ≤ _; omega) zo) fun B55=>(ra rfl (eZ (ts (rm rfl (rm rfl (rm rfl (ro rfl (cJ Tryz.call259 (a2q zo zo) ⟨(Ht rfl),(Ht rfl),trivial⟩) (Nx U_47 Z_189 (Ht rfl) (Ht rfl) (Xr hX0) a2F (i:=0) rfl (by simp) (by simp; omega) (Il _ _) rfl rfl ?_))))))))))))))
   refine eZ (ts (rm rfl (ro rfl (gA U_47 (Ht rfl)) (rm rfl (ro rfl (dG (Ht rfl) (Ht rfl) zo z6) (rn rfl (eM (T:=cH 0) (i:=Tryz.t189) V_47 jF rfl rfl (Ht rfl) rfl (fun _=>rfl) trivial (by show 4 * _ ≤ _; omega) zo) fun B65=>(ra rfl (eZ (cU (ts (rm rfl (ro rfl (gA U_47 (Ht rfl)) (ro rfl (iK (Ht rfl) cW (Db zo)) (ra rfl (eZ (eK ?_))))))))))))))))
   obtain ⟨vs,hvs⟩:∃ vs,vs = dg (n * 2 ^ s):=⟨_,rfl⟩
   rw [← hvs] at hvl hvb
   have hv:kB vs:=hvs ▸ cA _
   have hvv:val vs = n * 2 ^ s:=by rw [hvs,dF]
   have hV0:0 < val vs:=by rw [hvv]; exact Nat.mul_pos zo hp2
   have hnr:=Qc hv zo hvb
   have hv1:=hnr.v1lt; have hv2:=hnr.v2lt; have hbig:=hnr.big
   simp only [BB] at hv1 hv2 hbig
   refine kD (fun (k : Nat) (us : List Nat) (qs : List Nat) => nY (m * 2 ^ s) vs us qs k ∧ us.length = (dg m).length + 1) (fun (k : Nat) (us : List Nat) (qs : List Nat) => k) (fun (k : Nat) (us : List Nat) (qs : List Nat) => [(8, NT .i64 vs.length), (9, NT .i64 s), (10, vF vs), (11, Is (.slice (some ⟨B55, 0, none⟩) ((dg m).length + 1) ((dg m).length + 1))), (12, Is (.slice (some ⟨B65, 0, none⟩) ((dg m).length + 1 - (dg n).length) ((dg m).length + 1 - (dg n).length))), (13, aO .i64 ((k : Int) - 1))]) (fun (k : Nat) (us : List Nat) (qs : List Nat) => [box B55 189 (us.map cH), box B65 189 (qs.map cH)]) ((dg m).length + 1 - (dg n).length) (Bb m s) (List.replicate ((dg m).length + 1 - (dg n).length) 0) ⟨nY.start hv zo hvb hs1 (by have := iP (cA m); rwa [dF] at this) hc3 hc2 hc4 zo, hc2⟩
    (aZ rfl (kU hvl.symm) (aQ rfl (aZ rfl (fun v V h=>by rw [hvs]; exact h) (aQ rfl (aQ rfl (aZ rfl (aS zo) aX)))))) (aU (fun _ _ _ h=>h) (aU (aB (mM _)) aY)) (fun k us qs ⟨hS,hus⟩=>?_)
   refine cU (ts (rm rfl (ro rfl (lQ (Ht rfl) cW) (eZ (dX (Ht rfl) (fun hk=>?_) (fun hk=>?_))))))
   ·simp at hk
    obtain ⟨j,rfl⟩:∃ j,k = j + 1:=⟨k - 1,by omega⟩
    have htp:=hS.top hv zo (Nat.succ_pos j) rfl
    have hkq:=hS.kle; have hlq:=hS.lenq
    rw [Nat.add_sub_cancel] at htp
    have hu0:=bI hS.dig (j + vs.length); have hu1:=bI hS.dig (j + vs.length - 1); have hu2:=bI hS.dig (j + vs.length - 2)
    have ht64:=Zw hu0 hu1; have hsh:=Kr hu0
    obtain ⟨top,htop⟩:∃ top,top = us.getD (j + vs.length) 0 * BB + us.getD (j + vs.length - 1) 0:=⟨_,rfl⟩
    have hor:=(vN (a:=us.getD (j + vs.length) 0) hu1).trans htop.symm
    rw [← htop] at htp ht64
    have hu2b:=hu2
    simp only [BB] at hu0 hu1 hu2
    refine qJ (E':=[(8,_),(9,_),(10,_),(11,_),(12,_),(13,_),(69,_),(70,_)]) (aQ rfl (aQ rfl (aQ rfl (aQ rfl (aQ rfl (aZ rfl (aS (show ((j + 1:Nat):Int) - 1 = (j:Int) by omega)) (zS rfl))))))) (cY (cU (eK (cU (fJ (m:=16) (dp 11 rfl (cZ (Ht rfl)) (dp 13 rfl (cZ (Ht rfl)) (dp 8 rfl (cZ (Ht rfl)) (dR 74 1 75 2 rfl (dW (Ht rfl) (Ht rfl) z6) (dR 73 0 76 3 rfl (gQ U_47 Z_189 (Ht rfl) (Ht rfl) rfl zo (by rw [Nat.mul_one,Nat.zero_add])) ?_))))))))))
    refine dq 77 4 rfl (fQ A_189 Z_189 (Ht rfl) (i:=0) rfl (eQ (aP zo))) (dq 78 5 rfl (gJ U_189 U_254 (Ht rfl) z7) (dq 79 6 rfl (nI (Ht rfl) (cV 32) (by decide) hsh) (dp 11 rfl (cZ (Ht rfl)) (dp 13 rfl (cZ (Ht rfl)) (dp 8 rfl (cZ (Ht rfl)) (dR 82 9 83 10 rfl (dW (Ht rfl) (Ht rfl) z6) (dq 84 11 rfl (dG (Ht rfl) (cV 1) zo z6) ?_)))))))
    refine dR 81 8 85 12 rfl (gQ U_47 Z_189 (Ht rfl) (Ht rfl) rfl zo (by rw [Nat.mul_one,Nat.zero_add])) ?_
    refine dq 86 13 rfl (fQ A_189 Z_189 (Ht rfl) (i:=0) rfl (eQ (aP zo))) (dq 87 14 rfl (gJ U_189 U_254 (Ht rfl) z7) (fW bE rfl (by kernel_rfl) (zF (zF (zF (zF (aV (ro rfl (aM.nat (pG rfl (Ht rfl) (Ht rfl) z7 z7) hor) ?_))))))))
    refine ra rfl (eZ (cU (fJ (m:=17) (dp 14 rfl (cZ (Ht rfl)) (dp 10 rfl (cZ (Ht rfl)) (dp 8 rfl (cZ (Ht rfl)) (dq 92 2 rfl (dG (Ht rfl) (cV 1) zo z6) (dR 91 1 93 3 rfl (dJ U_47 Z_189 (Ht rfl) (Ht rfl) rfl (eQ (aP zo))) (dq 94 4 rfl (dV A_189 Z_189 (Ht rfl)) (dq 95 5 rfl (gJ U_189 U_254 (Ht rfl) z7) ?_))))))))))
    refine dR 90 0 96 6 rfl (jB (Ht rfl) (Ht rfl) zo (by show _ < 18446744073709551616; exact ht64)) (dp 14 rfl (cZ (Ht rfl)) (dp 10 rfl (cZ (Ht rfl)) (dp 8 rfl (cZ (Ht rfl)) (dq 100 10 rfl (dG (Ht rfl) (cV 1) zo z6) (dR 99 9 101 11 rfl (dJ U_47 Z_189 (Ht rfl) (Ht rfl) rfl (eQ (aP zo))) (dq 102 12 rfl (dV A_189 Z_189 (Ht rfl)) (dq 103 13 rfl (gJ U_189 U_254 (Ht rfl) z7) ?_)))))))
    refine dR 98 8 104 14 rfl (oQ (Ht rfl) (Ht rfl) zo) (dq 97 7 rfl (cX (Ht rfl)) (fW bE rfl (by kernel_rfl) (zF (zF (zF (zF (aJ (aV (ra rfl (eZ (cU (jW (fun (g:Nat)=>Ln (val (us.drop j)) (val vs) g) (fun (g:Nat)=>[(8,NT .i64 vs.length),(9,NT .i64 s),(10,vF vs),(11,Is (.slice (some ⟨B55,0,none⟩) ((dg m).length + 1) ((dg m).length + 1))),(12,Is (.slice (some ⟨B65,0,none⟩) ((dg m).length + 1 - (dg n).length) ((dg m).length + 1 - (dg n).length))),(13,NT .i64 j),(15,NT .u64 g)]) (fun (g:Nat)=>[box B55 189 (us.map cH),box B65 189 (qs.map cH)]) ?_ (fun g hg=>?_)))))))))))))
    ·refine eK ?_
     refine fS (fun (g : Nat) (r : Nat) => lN (val (us.drop j)) (val vs) (vs.getD (vs.length - 1) 0) top g r ∧ r < 4294967296) (fun (g : Nat) (r : Nat) => g) (fun (g : Nat) (r : Nat) => [(8, NT .i64 vs.length), (9, NT .i64 s), (10, vF vs), (11, Is (.slice (some ⟨B55, 0, none⟩) ((dg m).length + 1) ((dg m).length + 1))), (12, Is (.slice (some ⟨B65, 0, none⟩) ((dg m).length + 1 - (dg n).length) ((dg m).length + 1 - (dg n).length))), (13, NT .i64 j), (15, NT .u64 g), (16, NT .u64 r)]) (fun (g : Nat) (r : Nat) => [box B55 189 (us.map cH), box B65 189 (qs.map cH)]) (top / vs.getD (vs.length - 1) 0) (top % vs.getD (vs.length - 1) 0) ⟨lN.start hnr htp, Nat.lt_trans (Nat.mod_lt _ zo) hv1⟩
      (zS rfl) (dM.refl _) (fun g r ⟨hG,hr⟩=>?_)
     have hgl:=(hG.glt hnr htp).1
     have hrs:=Kr (a:=r) hr
     have horr:=vN (a:=r) hu2b
     simp only [BB] at hgl
     refine cU (cU (fJ (m:=22) (dp 15 rfl (cZ (Ht rfl)) (dq 106 0 rfl (pY (Ht rfl) (cV 4294967296)) (dq 107 1 rfl (cZ (Ht rfl)) (C.D_step (Ei:=[(15,_),(108,_)]) rfl rfl (bV (bK rfl rfl) (bV (bG 2 rfl rfl) bW)) (eU rfl rfl (Ht rfl) (fun h=>cZ (Ht rfl))) (C.D_step (Ei:=[(10,_),(108,_)]) rfl rfl (bV (bK rfl rfl) (bV (bG 2 rfl rfl) bW)) (eU rfl rfl (Ht rfl) (fun h=>cZ (Ht rfl))) (C.D_step (Ei:=[(8,_),(108,_)]) rfl rfl (bV (bK rfl rfl) (bV (bG 2 rfl rfl) bW)) (eU rfl rfl (Ht rfl) (fun h=>cZ (Ht rfl))) ?_))))))))
     refine C.D_step (Ei:=[(111,_),(108,_)]) rfl rfl (bV (bG 5 rfl rfl) (bV (bG 2 rfl rfl) bW)) (eU rfl rfl (Ht rfl) (fun h=>dG (fV rfl h) (cV 2) (by first | omega | (simp at h; omega)) (by show _ < 9223372036854775808; first | omega | (simp at h; omega)))) (C.D_step (Ei:=[(110,_),(112,_),(108,_)]) rfl rfl (bV (bG 4 rfl rfl) (bV (bG 6 rfl rfl) (bV (bG 2 rfl rfl) bW))) (eU rfl rfl (Ht rfl) (fun h=>dJ U_47 Z_189 (fV rfl h) (fV rfl h) rfl (eQ (aP (by first | omega | (simp at h; omega)))))) ?_)
     refine C.D_step (Ei:=[(113,_),(108,_)]) rfl rfl (bV (bG 7 rfl rfl) (bV (bG 2 rfl rfl) bW)) (eU rfl rfl (Ht rfl) (fun h=>dV A_189 Z_189 (fV rfl h))) (C.D_step (Ei:=[(114,_),(108,_)]) rfl rfl (bV (bG 8 rfl rfl) (bV (bG 2 rfl rfl) bW)) (eU rfl rfl (Ht rfl) (fun h=>gJ U_189 U_254 (fV rfl h) (by show _ < 18446744073709551616; first | omega | (simp at h; omega)))) (C.D_step (Ei:=[(109,_),(115,_),(108,_)]) rfl rfl (bV (bG 3 rfl rfl) (bV (bG 9 rfl rfl) (bV (bG 2 rfl rfl) bW))) (eU rfl rfl (Ht rfl) (fun h=>lL (fV rfl h) (fV rfl h) (by show _ < 18446744073709551616; simp at h; exact a2B h hv2))) ?_))
     refine C.D_step (Ei:=[(16,_),(108,_)]) rfl rfl (bV (bK rfl rfl) (bV (bG 2 rfl rfl) bW)) (eU rfl rfl (Ht rfl) (fun h=>cZ (Ht rfl))) (C.D_step (Ei:=[(117,_),(108,_)]) rfl rfl (bV (bG 11 rfl rfl) (bV (bG 2 rfl rfl) bW)) (eU rfl rfl (Ht rfl) (fun h=>nI (fV rfl h) (cV 32) (by decide) hrs)) (C.D_step (Ei:=[(11,_),(108,_)]) rfl rfl (bV (bK rfl rfl) (bV (bG 2 rfl rfl) bW)) (eU rfl rfl (Ht rfl) (fun h=>cZ (Ht rfl))) (C.D_step (Ei:=[(13,_),(108,_)]) rfl rfl (bV (bK rfl rfl) (bV (bG 2 rfl rfl) bW)) (eU rfl rfl (Ht rfl) (fun h=>cZ (Ht rfl))) ?_)))
     refine C.D_step (Ei:=[(8,_),(108,_)]) rfl rfl (bV (bK rfl rfl) (bV (bG 2 rfl rfl) bW)) (eU rfl rfl (Ht rfl) (fun h=>cZ (Ht rfl))) (C.D_step (Ei:=[(120,_),(121,_),(108,_)]) rfl rfl (bV (bG 14 rfl rfl) (bV (bG 15 rfl rfl) (bV (bG 2 rfl rfl) bW))) (eU rfl rfl (Ht rfl) (fun h=>dW (fV rfl h) (fV rfl h) (by show _ < 9223372036854775808; first | omega | (simp at h; omega)))) (C.D_step (Ei:=[(122,_),(108,_)]) rfl rfl (bV (bG 16 rfl rfl) (bV (bG 2 rfl rfl) bW)) (eU rfl rfl (Ht rfl) (fun h=>dG (fV rfl h) (cV 2) (by first | omega | (simp at h; omega)) (by show _ < 9223372036854775808; first | omega | (simp at h; omega)))) ?_))
     refine C.D_step (Ei:=[(119,_),(123,_),(108,_)]) rfl rfl (bV (bG 13 rfl rfl) (bV (bG 17 rfl rfl) (bV (bG 2 rfl rfl) bW))) (eU rfl rfl (Ht rfl) (fun h=>gQ U_47 Z_189 (fV rfl h) (fV rfl h) rfl (by first | omega | (simp at h; omega)) (by rw [Nat.mul_one,Nat.zero_add]))) ?_
     refine C.D_step (Ei:=[(124,_),(108,_)]) rfl rfl (bV (bG 18 rfl rfl) (bV (bG 2 rfl rfl) bW)) (eU rfl rfl (Ht rfl) (fun h=>fQ A_189 Z_189 (fV rfl h) (i:=0) rfl (eQ (aP zo)))) (C.D_step (Ei:=[(125,_),(108,_)]) rfl rfl (bV (bG 19 rfl rfl) (bV (bG 2 rfl rfl) bW)) (eU rfl rfl (Ht rfl) (fun h=>gJ U_189 U_254 (fV rfl h) (by show _ < 18446744073709551616; first | omega | (simp at h; omega)))) (C.D_step (Ei:=[(118,_),(126,_),(108,_)]) rfl rfl (bV (bG 12 rfl rfl) (bV (bG 20 rfl rfl) (bV (bG 2 rfl rfl) bW))) (eU rfl rfl (Ht rfl) (fun h=>aM.nat (pG rfl (fV rfl h) (fV rfl h) (by show _ < 18446744073709551616; first | omega | (simp at h; omega)) (by show _ < 18446744073709551616; first | omega | (simp at h; omega))) horr)) ?_))
     refine fW bE rfl (by kernel_rfl) (zF (zF (zF (zF (zF (aJ (aJ (aV (fX rfl rfl (eU rfl rfl (Ht rfl) (fun h=>eL (fV rfl h) (fV rfl h))) (ro rfl (jI (Ht rfl) (fun h=>(fV rfl h))) (eZ (dX (Ht rfl) (fun hc=>?_) (fun hc=>?_)))))))))))))
     ·have hn2 := hG.next hnr htp (by simpa [BB] using hc)
      have hg1:=hn2.2
      refine cY (eK (ts (rm rfl (ro rfl (dG (Ht rfl) (cV 1) zo z7) (ra rfl (eZ (ts (rm rfl (rm rfl (rm rfl (ro rfl (dG (Ht rfl) (cV 1) zo z6) (ro rfl (dJ U_47 Z_189 (Ht rfl) (Ht rfl) rfl (eQ (aP zo))) (ro rfl (dV A_189 Z_189 (Ht rfl)) (ro rfl (gJ U_189 U_254 (Ht rfl) z7) ?_))))))))))))))
      refine ro rfl (dW (Ht rfl) (Ht rfl) z7) (ra rfl (eZ (ts (rm rfl (ro rfl (pY (Ht rfl) (cV 4294967296)) (eZ (dX (Ht rfl) (fun hr2=>?_) (fun hr2=>?_))))))))
      ·simp at hr2
       refine gW rfl (bD (g - 1) (hn2.1.stop hnr htp hr2) (zS rfl) (dM.refl _))
      ·simp at hr2
       refine cY (bO (fY (g - 1,_) ⟨hn2.1,hr2⟩ (by dsimp only; omega) (zS rfl) (dM.refl _)))
     ·simp at hc
      refine gW rfl (bD g (hG.done hnr htp hc.1 hc.2) (zS rfl) (dM.refl _))
    ·have hglt := hg.lt
     simp only [BB] at hglt
     refine cU (rG (fun (us2:List Nat) (g2:Nat)=>nY (m * 2 ^ s) vs us2 (qs.set j g2) j ∧ g2 < 4294967296 ∧ us2.length = (dg m).length + 1) (fun (us2:List Nat) (g2:Nat)=>[(8,NT .i64 vs.length),(9,NT .i64 s),(10,vF vs),(11,Is (.slice (some ⟨B55,0,none⟩) ((dg m).length + 1) ((dg m).length + 1))),(12,Is (.slice (some ⟨B65,0,none⟩) ((dg m).length + 1 - (dg n).length) ((dg m).length + 1 - (dg n).length))),(13,NT .i64 j),(15,NT .u64 g2)]) (fun (us2:List Nat) (g2:Nat)=>[box B55 189 (us2.map cH),box B65 189 (qs.map cH)]) ?_ (fun us2 g2 ⟨hD,hg2,hus2⟩=>?_))
     ·refine ts (rm rfl (rm rfl (rm rfl (rm rfl (Fc Tryz.call260 (a3l hus hS.dig hv hg.lt zo zo) (i := 0) rfl ⟨(Ht rfl), (Ht rfl), (Ht rfl), (Ht rfl), trivial⟩ rfl (fun ⟨out, b⟩ hT => ?_))))))
      dsimp only at hT
      refine eZ (dX (Ht rfl) (fun hbb=>?_) (fun hbb=>?_))
      ·have hbb : b = true := hbb
       subst hbb
       have hg0:=hS.gpos hv rfl zo hT
       have hol:=hT.len
       refine ts (rm rfl (ro rfl (dG (Ht rfl) (cV 1) zo z7) (ra rfl (eZ (ts (ro rfl (cX (cV 0)) (eZ (cU (ts (rm rfl (ro rfl (dK U_47 (Ht rfl) aA) (ro rfl (cZ (cV 0)) (eZ (eK ?_))))))))))))))
       refine kD (fun (i : Nat) (out2 : List Nat) (c : Nat) => rZ out vs j out2 i c) (fun (i : Nat) (out2 : List Nat) (c : Nat) => vs.length - i) (fun (i : Nat) (out2 : List Nat) (c : Nat) => [(8, NT .i64 vs.length), (9, NT .i64 s), (10, vF vs), (11, Is (.slice (some ⟨B55, 0, none⟩) ((dg m).length + 1) ((dg m).length + 1))), (12, Is (.slice (some ⟨B65, 0, none⟩) ((dg m).length + 1 - (dg n).length) ((dg m).length + 1 - (dg n).length))), (13, NT .i64 j), (15, NT .u64 (g - 1 : Nat)), (17, NT .u64 c), (149, vF vs), (150, NT .i64 vs.length), (151, NT .i64 i)]) (fun (i : Nat) (out2 : List Nat) (c : Nat) => [box B55 189 (out2.map cH), box B65 189 (qs.map cH)]) 0 out 0 (rZ.start hT.dig vs j)
        (zS rfl) (dM.refl _) (fun i out2 c hB=>?_)
       refine ts (ro rfl (gZ (Ht rfl) (Ht rfl)) (eZ (cU (dX (Ht rfl) (fun hi=>?_) (fun hi=>?_)))))
       ·simp at hi
        have hlen:=hB.len; have hcl:=hB.cle; have hvi:=bI hv i; have hok:=bI hB.dig (i + j)
        simp only [BB] at hvi hok
        refine cY (cU (eK (ts (rm rfl (ro rfl (dJ U_47 Z_189 (Ht rfl) (Ht rfl) rfl (eQ (aP zo))) (ro rfl (dV A_189 Z_189 (Ht rfl)) (ra rfl (ra rfl (eZ (ts (rm rfl (rm rfl (rm rfl (rm rfl (ro rfl (dW (Ht rfl) (Ht rfl) z6) (ro rfl (gQ U_47 Z_189 (Ht rfl) (Ht rfl) rfl zo (by rw [Nat.mul_one,Nat.zero_add])) ?_))))))))))))))))
        refine ro rfl (fQ A_189 Z_189 (Ht rfl) (i:=0) rfl (eQ (aP zo))) (ro rfl (gJ U_189 U_254 (Ht rfl) z7) (rm rfl (ro rfl (gJ U_189 U_254 (Ht rfl) z7) (ro rfl (dW (Ht rfl) (Ht rfl) z7) (ro rfl (dW (Ht rfl) (Ht rfl) z7) ?_)))))
        refine ra rfl (eZ (ts (rm rfl (rm rfl (rm rfl (ro rfl (dW (Ht rfl) (Ht rfl) z6) (rm rfl (ro rfl (gF rfl U_254 U_189 (Ht rfl)) (ro rfl (gQ U_47 Z_189 (Ht rfl) (Ht rfl) rfl zo (by rw [Nat.mul_one,Nat.zero_add])) ?_)))))))))
        refine lO Z_189 (Ht rfl) (Ht rfl) (i:=0) rfl (by first | omega | (simp; omega)) rfl (eZ (dQ (rm rfl (ro rfl (fA (Ht rfl) (cV 32) (by decide)) (ra rfl (eZ (bO (dQ (ro rfl (dW (Ht rfl) (cV 1) z6) (rm rfl (eZ (fY (i + 1,_,_) (hB.next hv hi zo rfl) (by dsimp only; omega) (zS rfl) (aU (aB (gC _ _ _)) (aU (fun _ _ _ h=>h) aY))))))))))))))
       ·simp at hi
        have hil:i = vs.length:=Nat.le_antisymm hB.ile hi
        subst hil
        have hlen:=hB.len; have hcl:=hB.cle; have hok:=bI hB.dig (j + vs.length)
        have hBk:=hB.fin zo rfl
        obtain ⟨_,hDn⟩:=hS.wrong hv hV0 (Nat.succ_pos j) rfl hg hT hBk
        simp only [BB] at hok
        refine gW rfl (dQ (rm rfl (rm rfl (rm rfl (ro rfl (dW (Ht rfl) (Ht rfl) z6) (ro rfl (gQ U_47 Z_189 (Ht rfl) (Ht rfl) rfl zo (by rw [Nat.mul_one,Nat.zero_add])) ?_))))))
        refine ro rfl (fQ A_189 Z_189 (Ht rfl) (i:=0) rfl (eQ (aP zo))) (rm rfl (ro rfl (gJ U_254 U_189 (Ht rfl) (by show _ < 4294967296; first | omega | (simp only [mB]; omega))) (ro rfl (Qj rfl (Ht rfl) (Ht rfl)) (ro rfl (gQ U_47 Z_189 (Ht rfl) (Ht rfl) rfl zo (by rw [Nat.mul_one,Nat.zero_add])) ?_))))
        refine lO Z_189 (Ht rfl) (Ht rfl) (i:=0) rfl (by first | omega | (simp; omega)) rfl (eZ (bD (_,g - 1) ⟨hDn,by dsimp only; omega,by simp; omega⟩ (zS rfl) (aU (aB (gC _ _ _)) (aU (fun _ _ _ h=>h) aY))))
      ·have hbb : b = false := hbb
       subst hbb
       have hol:=hT.len
       refine cY (bD (out,g) ⟨hS.right hv hV0 (Nat.succ_pos j) rfl hg hT,hglt,by dsimp only; omega⟩ (zS rfl) (dM.refl _))
     ·refine dQ (rm rfl (rm rfl (rm rfl (ro rfl (gJ U_254 U_189 (Ht rfl) (by show _ < 4294967296; first | omega | (simp only [mB]; omega))) (ro rfl (gQ U_47 Z_189 (Ht rfl) (Ht rfl) rfl zo (by rw [Nat.mul_one, Nat.zero_add])) ?_)))))
      refine lO Z_189 (Ht rfl) (Ht rfl) (i:=1) rfl (by first | omega | (simp; omega)) rfl (eZ (bO (dQ (rm rfl (ro rfl (iK (Ht rfl) cW (Db zo)) (ra rfl (eZ (fY (j,us2,_) ⟨hD,hus2⟩ (by dsimp only; omega) (zS rfl) (aU (fun _ _ _ h=>h) (aU (aB (gC _ _ _)) aY))))))))))
   ·simp at hk
    have hk0:k = 0:=by omega
    subst hk0
    have hfin:=hS.fin hV0
    have hlq:=hS.lenq
    rw [hvv] at hfin
    have hdiv:val qs = m / n:=by rw [hfin.1]; exact Nat.mul_div_mul_right _ _ hp2
    have hsm:val us < BB ^ vs.length:=by have h1:=hS.small; rw [List.drop_zero] at h1; exact Nat.lt_trans h1 (iP hv)
    have hmod : val (us.take vs.length) / 2 ^ s = m % n := by
     rw [oR hsm zo,hfin.2,Nat.mul_mod_mul_right,Nat.mul_div_cancel _ hp2]
    have hru : (dg (val (us.take vs.length))).length ≤ 17592186044416 := by
     refine Nat.le_trans (jM (k:=vs.length) ?_) zo
     rw [oR hsm zo]; exact hsm
    refine gW rfl (gV (i:=1) (tt:=12) rfl rfl (mU rfl zo (Nat.le_refl _)) (gV (i:=0) (tt:=11) rfl rfl (mU rfl zo (Nat.le_refl _)) (cU (fJ (m:=7) (dp 12 rfl (cZ (Ht rfl)) (dq 193 0 rfl (cJ K_221 (rJ _ hS.digq zo) ⟨(Ht rfl),trivial⟩) (dp 11 rfl (cZ (Ht rfl)) (dp 8 rfl (cZ (Ht rfl)) (dR 195 2 196 3 rfl (aM.imp (qX U_47 Z_189 (Ht rfl) (Ht rfl) (fun m e=>by cases e) zo (by simp; omega) rfl) (Pg _ _)) ?_)))))))))
    refine dq 197 4 rfl (cJ K_221 (rJ _ (hS.dig.take' vs.length) (by simp; omega)) ⟨(Ht rfl),trivial⟩) ?_
    refine dp 9 rfl (cZ (Ht rfl)) (fW bE rfl (by kernel_rfl) (zF (aJ (aJ (aJ (aV (ro rfl (cJ Tryz.call261 (a53 hru zo) ⟨(Ht rfl),(Ht rfl),trivial⟩) (ra rfl (ra rfl (eZ (bN rfl (fZ (eY rfl) ?_) (fZ (eY rfl) ?_))))))))))))
    ·exact (dL hdiv)
    ·exact (dL hmod)
end
section
open Go Go.RowKit
theorem a3B:Tryz.prog.info? 5 = some Tryz.t5:=by kernel_rfl
theorem Rh:Tryz.prog.underlying 293 = some (.slice 5):=by kernel_rfl
theorem a5t:Tryz.prog.underlying 5 = some (.int .u8):=by kernel_rfl
theorem a5u:Tryz.prog.underlying 9 = some (.string):=by kernel_rfl
end
section
open Go Go.RowKit
theorem a2n {m n:Nat} (hm:(dg m).length ≤ 17592186044415) (hn:(dg n).length ≤ 17592186044415):bH Tryz.prog 218 [aI m,aI n] (aI (Nat.gcd m n)):=by
 refine bH.intro Tryz.func218 rfl Tryz.ntmps218 rfl (fun cx=>(ts (ro rfl (cX cW) (eZ (cU (eK ?_))))))
 refine fS (fun (x : Nat) (y : Nat) => Nat.gcd x y = Nat.gcd m n ∧ (dg x).length ≤ 17592186044415 ∧ (dg y).length ≤ 17592186044415) (fun (x : Nat) (y : Nat) => y) (fun (x : Nat) (y : Nat) => [(0, aI x), (1, aI y)]) (fun (x : Nat) (y : Nat) => []) m n ⟨rfl, hm, hn⟩
  (zS rfl) aY (fun x y ⟨hg,hx,hy⟩=>?_)
 refine cU (ts (rm rfl (ro rfl (dK U_47 (Ht rfl) aA) (ro rfl (eL (Ht rfl) (cV 0)) (eZ (dX (Ht rfl) (fun hb=>?_) (fun hb=>?_)))))))
 ·simp at hb
  have hy0:y ≠ 0:=fun e=>by rw [e,eO] at hb; simp at hb
  have hlt:=Nat.mod_lt x (Nat.pos_of_ne_zero hy0)
  refine cY (eK (ts (rm rfl (rm rfl (ro rfl (cJ Tryz.call220 (Oo hx zo hy0) ⟨(Ht rfl),(Ht rfl),trivial⟩) (rm rfl (ro rfl (dU (Ht rfl) rfl) (ro rfl (dU (Ht rfl) rfl) (ra rfl (ra rfl (eZ (dQ (rm rfl (rm rfl (ra rfl (ra rfl (eZ (bO (fY (y,x % y) ⟨by rw [← hg,Nat.gcd_comm x y,Nat.gcd_rec y x,Nat.gcd_comm],hy,Nat.le_trans (iZ (Nat.le_of_lt hlt)) hy⟩ hlt (zS rfl) aY)))))))))))))))))))
 ·simp at hb
  have hy0:y = 0:=bF.1 (by simpa using hb)
  subst hy0
  rw [Nat.gcd_zero_right] at hg
  refine gW rfl (ts (rm rfl (ra rfl (eZ (fG rfl (fZ (eY rfl) ?_))))))
  exact (dL hg)
theorem a52 {l:List Nat} {v:Value} (hl:l.length ≤ 1152921504606846976):gO Tryz.prog 276 [Is v] [cC 5 1 v (l.map De)] Unit (fun _=>pO) (fun _=>[cC 5 1 v (l.reverse.map De)]) (fun _=>True):=by
 refine gO.intro Tryz.func276 rfl Tryz.ntmps276 rfl (fun cx Z=>(ts (rm rfl (ro rfl (rO U_293 (Ht rfl) (i:=1) rfl aA) (ro rfl (iK (Ht rfl) cW (Db zo)) (ro rfl (cX (cV 0)) (ra rfl (eZ (eK ?_)))))))))
 refine fS (fun (k : Nat) (o : List Nat) => Fd l o k) (fun (k : Nat) (o : List Nat) => l.length - k) (fun (k : Nat) (o : List Nat) => [(0, Is v), (2, NT .i64 k), (3, aO .i64 ((l.length : Int) - 1 - (k : Int)))]) (fun (k : Nat) (o : List Nat) => [Z, cC 5 1 v (o.map De)]) 0 l (Fd.start l)
  (aQ rfl (aQ rfl (aZ rfl (aS zo) aX))) (dM.refl _) (fun k o hS=>?_)
 refine cU (ts (rm rfl (rm rfl (ro rfl (tI (Ht rfl) (Ht rfl)) (eZ (dX (Ht rfl) (fun hb=>?_) (fun hb=>?_)))))))
 ·simp only [decide_eq_true_eq] at hb
  have hk:2 * k + 1 < l.length:=by omega
  obtain ⟨j,hj⟩:∃ j,j = l.length - 1 - k:=⟨_,rfl⟩
  have hlen:=hS.len
  refine qJ (E':=[(0,_),(2,_),(3,_),(7,_),(8,_),(9,_)]) (aQ rfl (aQ rfl (aZ rfl (aS (show (l.length:Int) - 1 - (k:Int) = (j:Int) by omega)) (zS rfl)))) (cY (cU (eK (W.D_start (m:=14) (fun b=>cond b ([Z,cC 5 1 v ((o.map De).set k (De (o.getD j 0)))]) _) 13 (W.D_step (Ei:=[(0,_)]) rfl rfl (W.Srcs.cons (W.Src.pre rfl rfl) W.Srcs.nil) rfl (by kernel_rfl) (dZ rfl (cZ (Ht rfl))) (W.D_step (Ei:=[(2,_)]) rfl rfl (W.Srcs.cons (W.Src.pre rfl rfl) W.Srcs.nil) rfl (by kernel_rfl) (dZ rfl (cZ (Ht rfl))) ?_))))))
  refine W.D_pure (Ei:=[(0,_)]) rfl rfl (W.Srcs.cons (W.Src.pre rfl rfl) W.Srcs.nil) rfl (fun _=>dZ rfl (cZ (Ht rfl))) (W.D_pure (Ei:=[(3,_)]) rfl rfl (W.Srcs.cons (W.Src.pre rfl rfl) W.Srcs.nil) rfl (fun _=>dZ rfl (cZ (Ht rfl))) (W.D_step (Ei:=[(0,_)]) rfl rfl (W.Srcs.cons (W.Src.pre rfl rfl) W.Srcs.nil) rfl (by kernel_rfl) (dZ rfl (cZ (Ht rfl))) (W.D_step (Ei:=[(3,_)]) rfl rfl (W.Srcs.cons (W.Src.pre rfl rfl) W.Srcs.nil) rfl (by kernel_rfl) (dZ rfl (cZ (Ht rfl))) (W.D_step (Ei:=[(18,_),(19,_)]) rfl rfl (W.Srcs.cons (W.Src.op 4 rfl rfl) (W.Srcs.cons (W.Src.op 5 rfl rfl) W.Srcs.nil)) rfl (by kernel_rfl) (dZ rfl (dP U_293 Z_5 (Ht rfl) (Ht rfl) rfl (i:=1) rfl (by first | omega | (simp; omega)) rfl)) ?_))))
  refine W.D_step (Ei:=[(20,_)]) rfl rfl (W.Srcs.cons (W.Src.op 6 rfl rfl) W.Srcs.nil) rfl (by kernel_rfl) (dZ rfl (tG Tryz.isAgg5 Z_5 (Ht rfl) (i:=1) rfl rfl (eQ (aP zo)))) (W.D_step (Ei:=[(0,_)]) rfl rfl (W.Srcs.cons (W.Src.pre rfl rfl) W.Srcs.nil) rfl (by kernel_rfl) (dZ rfl (cZ (Ht rfl))) (W.D_step (Ei:=[(2,_)]) rfl rfl (W.Srcs.cons (W.Src.pre rfl rfl) W.Srcs.nil) rfl (by kernel_rfl) (dZ rfl (cZ (Ht rfl))) (W.D_step (Ei:=[(22,_),(23,_)]) rfl rfl (W.Srcs.cons (W.Src.op 8 rfl rfl) (W.Srcs.cons (W.Src.op 9 rfl rfl) W.Srcs.nil)) rfl (by kernel_rfl) (dZ rfl (dP U_293 Z_5 (Ht rfl) (Ht rfl) rfl (i:=1) rfl (by first | omega | (simp; omega)) rfl)) ?_)))
  refine W.D_step (Ei:=[(24,_)]) rfl rfl (W.Srcs.cons (W.Src.op 10 rfl rfl) W.Srcs.nil) rfl (by kernel_rfl) (dZ rfl (tG Tryz.isAgg5 Z_5 (Ht rfl) (i:=1) rfl rfl (eQ (aP zo)))) (W.D_step (Ei:=[(14,_),(15,_)]) rfl rfl (W.Srcs.cons (W.Src.op 0 rfl rfl) (W.Srcs.cons (W.Src.op 1 rfl rfl) W.Srcs.nil)) rfl (by kernel_rfl) (dZ rfl (dP U_293 Z_5 (Ht rfl) (Ht rfl) rfl (i:=1) rfl (by first | omega | (simp; omega)) rfl)) (W.D_put (Ei:=[(26,_),(21,_)]) rfl rfl (W.Srcs.cons (W.Src.op 12 rfl rfl) (W.Srcs.cons (W.Src.op 7 rfl rfl) W.Srcs.nil)) rfl (Hl Z_5 (Ht rfl) (Ht rfl) El.one (i:=1) rfl rfl (by first | omega | (simp; omega))) ?_))
  refine W.D_done bE rfl (by kernel_rfl) rfl (W.F_val (W.F_val (W.F_val (W.F_val (W.F_val (W.F_val (W.F_val (W.F_val (W.F_val (W.F_val (W.F_val (W.F_val (W.F_val (W.F_put (W.F_nil (ro rfl (dP U_293 Z_5 (Ht rfl) (Ht rfl) rfl (i:=1) rfl (by first | omega | (simp; omega)) rfl) (nO Z_5 (Ht rfl) (Ht rfl) El.one (i:=1) rfl rfl (by first | omega | (simp; omega)) rfl (eZ (bO (dQ (rm rfl (ro rfl (dW (Ht rfl) (cV 1) z6) (rm rfl (ro rfl (iK (Ht rfl) cW (Db zo)) ?_))))))))))))))))))))))))
  refine ra rfl (ra rfl (eZ (fY (k + 1,_) (hS.next hk hj) (by dsimp only; omega) (aQ rfl (aQ rfl (aZ rfl (aS zo) aX))) (aU (fun _ _ _ h=>h) (aU (bR (a28 _ _ _ _ _)) aY)))))
 ·simp only [decide_eq_false_iff_not] at hb
  have hfin:=hS.fin (by have:=hS.kle; omega)
  refine gW rfl ?_
  exact a2Q () trivial [0,1] ⟨⟨_,rfl,fun _ _ _ h=>h⟩,⟨_,rfl,(bR (by rw [hfin]))⟩,trivial⟩ (by decide) (a5G rfl (fun _=>trivial))
theorem Hy {m:Nat} (hm:(dg m).length ≤ 8796093022208):bH Tryz.prog 249 [aI m] (uR (Bc m)):=by
 refine bH.intro Tryz.func249 rfl Tryz.ntmps249 rfl (fun cx=>(ts (ro rfl (cX (bM.cS (l:=[]) rfl)) (eZ (cU (ts (rm rfl (ro rfl (dK U_47 (Ht rfl) aA) (ro rfl (dO (Ht rfl) (cV 0)) (eZ (dX (Ht rfl) (fun hb=>?_) (fun hb=>?_))))))))))))
 ·simp at hb
  have h0:m = 0:=bF.1 (by simpa using hb)
  subst h0
  refine ts (ro rfl (cX (bM.cS (l:=[48]) rfl)) (eZ (fG rfl (fZ (eY rfl) ?_))))
  exact (pJ rfl)
 ·simp at hb
  have h0:m ≠ 0:=fun e=>hb (by rw [e,eO])
  refine cY (ts (ro rfl (cX cW) (eZ (cU (eK (yK 5 1 ?_))))))
  refine kD (fun (x : Nat) (out : List Nat) (v : Value) => Fa m out x ∧ x ≤ m) (fun (x : Nat) (out : List Nat) (v : Value) => x) (fun (x : Nat) (out : List Nat) (v : Value) => [(0, aI x), (3, Is v)]) (fun (x : Nat) (out : List Nat) (v : Value) => [cC 5 1 v (out.map De)]) m [] (.slice none 0 0) ⟨Fa.start m, Nat.le_refl m⟩
   (zS rfl) (dM.refl _) (fun x out v ⟨hO,hle⟩=>?_)
  refine cU (ts (rm rfl (ro rfl (dK U_47 (Ht rfl) aA) (ro rfl (eL (Ht rfl) (cV 0)) (eZ (dX (Ht rfl) (fun hc=>?_) (fun hc=>?_)))))))
  ·simp at hc
   have hx0:x ≠ 0:=fun e=>by rw [e,eO] at hc; simp at hc
   have hxm:=iZ hle
   refine cY (eK (ts (ro rfl (cX (cV 0)) (eZ (ts (rm rfl (ro rfl (cJ Tryz.call257 (Ox zo (by decide) (by decide)) ⟨(Ht rfl),(cV 1000000000),trivial⟩) (rm rfl (ro rfl (dU (Ht rfl) rfl) (ro rfl (dU (Ht rfl) rfl) (ra rfl (ra rfl (eZ (ts (ro rfl (cX (cV 0)) (eZ (eK ?_)))))))))))))))))
   refine zA (fun (r : Nat) (k : Nat) (out : List Nat) (v : Value) => Ak m out (x / 1000000000) r k) (fun (r : Nat) (k : Nat) (out : List Nat) (v : Value) => 9 - k) (fun (r : Nat) (k : Nat) (out : List Nat) (v : Value) => [(0, aI (x / 1000000000)), (3, Is v), (4, cH r), (5, NT .i64 k)]) (fun (r : Nat) (k : Nat) (out : List Nat) (v : Value) => [cC 5 1 v (out.map De)]) (x % 1000000000) 0 out v (hO.inner)
    (zS rfl) (dM.refl _) (fun r k out v hI=>?_)
   refine cU (ts (rm rfl (ro rfl (gZ (Ht rfl) (cV 9)) (rm rfl (fX rfl rfl (oJ rfl rfl (Ht rfl) (fun h=>cZ (Ht rfl))) (fX rfl rfl (oJ rfl rfl (Ht rfl) (fun h=>dK U_47 (bM.wu rfl h) aA)) (fX rfl rfl (oJ rfl rfl (Ht rfl) (fun h=>eL (bM.wu rfl h) (cV 0))) (fX rfl rfl (oJ rfl rfl (Ht rfl) (fun h=>cZ (bM.wu rfl h))) (fX rfl rfl (vY rfl rfl rfl (fun h h2=>cZ (Ht rfl))) (fX rfl rfl (vY rfl rfl rfl (fun h h2=>eL (bM.wu rfl ⟨h,h2⟩) (cV 0))) (fX rfl rfl (oJ rfl rfl (Ht rfl) (fun h=>jI (bM.wu rfl h) (fun h2=>(bM.wu rfl ⟨h,h2⟩)))) ?_)))))))))))
   refine ro rfl (fM (Ht rfl) (fun h=>(bM.wu rfl h))) (eZ (dX (Ht rfl) (fun hd=>?_) (fun hd=>?_)))
   ·simp at hd
    have hxr:0 < x / 1000000000 ∨ 0 < r:=hd.2.imp (fun h=>Nat.pos_of_ne_zero (fun e=>by rw [e,eO] at h; simp at h)) id
    have hln:=hI.len hxr
    have hr32:=hI.r32
    refine cY (cU (eK (ts (rm rfl (rm rfl (ro rfl (oQ (Ht rfl) (cV 10) zo) (ro rfl (dW (cV 48) (Ht rfl) (by show _ < 4294967296; first | omega | (simp only [mB]; omega))) (ro rfl (gJ U_189 U_5 (Ht rfl) (by show _ < 256; first | omega | (simp only [mB]; omega))) (ro rfl (cR (xs:=[.tmp 34]) U_293 Z_5 Tryz.zeroValue5 (cG (Ht rfl) cK) rfl rfl rfl) (qH (inf:=Tryz.t5) Rh a3B rfl rfl rfl (Ht rfl) (Ht rfl) (i:=0) rfl (by simp) (fun T hT=>by simp at hT; subst hT; exact El.one) (by show _ * 1 ≤ _; simp only [List.length_map,List.length_cons,List.length_nil]; omega) (by simp only [List.length_map,List.length_cons,List.length_nil]; omega) rfl (fun v2=>?_)))))))))))
    refine ra rfl (eZ (dQ (rm rfl (ro rfl (jB (Ht rfl) (cV 10) zo (by show _ < 4294967296; first | omega | (simp only [mB]; omega))) (ra rfl (eZ (bO (dQ (rm rfl (ro rfl (dW (Ht rfl) (cV 1) z6) (ra rfl (eZ (fY (r / 10,k + 1,_,v2) (hI.next hd.1 hxr) (by dsimp only; omega) (zS rfl) (aU (bR (a4A _ _)) aY))))))))))))))
   ·simp at hd
    have hO2 := hI.fin (fun ⟨h1, h2⟩ => by
     have h3:=hd h1
     rcases h2 with h2 | h2
     ·have:=uB.1 h3.1; omega
     ·omega)
    refine gW rfl (bO (fY (x / 1000000000,_,_) ⟨hO2,Nat.le_trans (Nat.div_le_self _ _) hle⟩ (Nat.div_lt_self (Nat.pos_of_ne_zero hx0) (by decide)) (zS rfl) (dM.refl _)))
  ·simp at hc
   have hx0:x = 0:=bF.1 (by simpa using hc)
   subst hx0
   have hfin:=hO.fin
   have hdl:=sI m
   rw [hfin] at hdl
   refine gW rfl (ts (rm rfl (Fc Tryz.call276 (a52 zo) (i:=0) rfl ⟨(Ht rfl),trivial⟩ rfl (fun _ _=>(eZ (cU (gV (i:=0) (tt:=3) rfl rfl iW (dQ (rm rfl (ro rfl (Yg Rh a5t a5u (Ht rfl) (by rw [← hfin]; simpa using a0K h0) (fun b hb=>a3n (n:=m) b (by rw [zG h0,hfin]; exact hb))) ?_))))))))))
   refine ra rfl (eZ (fG rfl (fZ (eY rfl) ?_)))
   exact (pJ (by rw [zG h0,hfin]))
end
section
open Go Go.RowKit
theorem vI {n : Nat} {E : cT} {H : Hp} {d : Option Tmp} {t : TypeId} {pos : String} {af : Array Edge} {g : Option (Nat × Bool)} {x0 x1 : Operand} {T0 T1 : Ty} [s0 : dI T0 1 false] (h0 : bM E x0 T0) [s1 : dI T1 1 false] (h1 : bM E x1 T1) :
  aM Tryz.prog n E H ⟨d,.build 49 #[(0,x0),(1,x1)],t,pos,af,g⟩ (eH [T0,T1]) :=
 fH (parts := [(0, x0), (1, x1)]) fun a V w hs => by
  have p0:=h0 n V a hs
  generalize e0:a.eval x0 = v0 at p0
  have q0:=(s0.ok v0 V p0).2.2 rfl
  have p1:=h1 n V a hs
  generalize e1:a.eval x1 = v1 at p1
  have q1:=(s1.ok v1 V p1).2.2 rfl
  refine ⟨.agg #[v0,v1],?_,[v0,v1],rfl,aW (⟨p0,q0⟩) (aW (⟨p1,q1⟩) (aG))⟩
  simp [e0,e1,Instr.build,Instr.fill,Sem.run_bind,Result.andThen,dS,q0.cells,q1.cells,O_49,U_49,Z_4,Z_47]
theorem kQ (a:Addr) (w:World):(Instr.fieldAt 49 (.pointer (some a)) 0).run Tryz.prog w = .ok (.pointer (some (a.add 0))) w:=by
 simp [Instr.fieldAt,Instr.sureAddr,fieldPlace,Sem.run_bind,Result.andThen,U_49,Z_4]
theorem eP (a:Addr) (w:World):(Instr.fieldAt 49 (.pointer (some a)) 1).run Tryz.prog w = .ok (.pointer (some (a.add 1))) w:=by
 simp [Instr.fieldAt,Instr.sureAddr,fieldPlace,Sem.run_bind,Result.andThen,U_49,Z_47]
end
section
open Go Go.RowKit
theorem Fq {n:Int} (h1:-9223372036854775808 ≤ n) (h2:n ≤ 9223372036854775807):bH Tryz.prog 177 [aO .i64 n] (gI n):=by
 refine bH.intro Tryz.func177 rfl Tryz.ntmps177 rfl (fun cx=>(ts (rn rfl (eG (Ts:=[Is (.bool false),Is (.slice none 0 0)]) O_49 rfl (fun V=>aW zd (aW zd (aG)))) fun B2=>(eZ (cU (ts (rm rfl (ro rfl (tI (Ht rfl) cW) (eZ (dX (Ht rfl) (fun hb=>?_) (fun hb=>?_)))))))))))
 ·have hn : n < 0 := by simpa using hb
  refine ts (rm rfl (ro rfl (uM U_2 U_254 (Ht rfl) (r:=((18446744073709551616 - n.natAbs:Nat):Int)) (by rw [IntKind.wrap_u64]; omega)) ?_))
  refine ro rfl (Yk (Ht rfl) (r:=((n.natAbs:Nat):Int)) (by rw [IntKind.wrap_u64]; omega)) ?_
  refine ro rfl (cJ Tryz.call241 (Fp zo) ⟨(Ht rfl),trivial⟩) (ro rfl (vI cW (Ht rfl)) (gX Z_49 (Ht rfl) (Ht rfl) rfl (i:=0) rfl (aK rfl) rfl rfl (eZ (fG rfl (fZ (fU A_49 Z_49 rfl (i:=0) rfl rfl) ?_)))))
  exact (qB (by rw [hb]; rfl))
 ·have hn : ¬ n < 0 := by simpa using hb
  refine cY (ts (rm rfl (ro rfl (uM U_2 U_254 (Ht rfl) (r:=((n.natAbs:Nat):Int)) (by rw [IntKind.wrap_u64]; omega)) ?_)))
  refine ro rfl (cJ Tryz.call241 (Fp zo) ⟨(Ht rfl),trivial⟩) (ro rfl (vI cW (Ht rfl)) (gX Z_49 (Ht rfl) (Ht rfl) rfl (i:=0) rfl (aK rfl) rfl rfl (eZ (fG rfl (fZ (fU A_49 Z_49 rfl (i:=0) rfl rfl) ?_)))))
  exact (qB (by rw [hb]; rfl))
theorem oS {b:Bool} {m:Nat}:bH Tryz.prog 214 [aD b,aI m] (gI (yT b m)):=by
 refine bH.intro Tryz.func214 rfl Tryz.ntmps214 rfl (fun cx=>(ts (rn rfl (eG (Ts:=[Is (.bool false),Is (.slice none 0 0)]) O_49 rfl (fun V=>aW zd (aW zd (aG)))) fun B4=>(eZ (ts (rm rfl (rm rfl (fX rfl rfl (eU rfl rfl (Ht rfl) (fun h=>cZ (Ht rfl))) (fX rfl rfl (eU rfl rfl (Ht rfl) (fun h=>dK U_47 (fV rfl h) aA)) (fX rfl rfl (eU rfl rfl (Ht rfl) (fun h=>eL (fV rfl h) (cV 0))) (ro rfl (fM (Ht rfl) (fun h=>(fV rfl h))) (rm rfl ?_))))))))))))
 refine ro rfl (vI (Ht rfl) (Ht rfl)) (gX Z_49 (Ht rfl) (Ht rfl) rfl (i:=0) rfl (aK rfl) rfl rfl (eZ (fG rfl (fZ (fU A_49 Z_49 rfl (i:=0) rfl rfl) ?_))))
 exact Zl
theorem pR {x:Int}:bH Tryz.prog 135 [gI x] (gI (-x)):=by
 refine bH.intro Tryz.func135 rfl Tryz.ntmps135 rfl (fun cx=>(ts (rn rfl (fK (Ht rfl)) fun B1=>(rn rfl (eG (Ts:=[Is (.bool false),Is (.slice none 0 0)]) O_49 rfl (fun V=>aW zd (aW zd (aG)))) fun B2=>(eZ (ts (ro rfl (eJ kQ (Ht rfl) rfl) (ro rfl (fQ A_4 Z_4 (Ht rfl) (i:=0) rfl rfl) (ro rfl (eN (Ht rfl)) (ro rfl (eJ eP (Ht rfl) rfl) (ro rfl (fQ A_47 Z_47 (Ht rfl) (i:=0) rfl rfl) (ro rfl (cJ K_214 oS ⟨(Ht rfl),(Ht rfl),trivial⟩) ?_))))))))))))
 refine gX Z_49 (Ht rfl) (Ht rfl) rfl (i:=1) rfl (aK rfl) rfl rfl (eZ (fG rfl (fZ (fU A_49 Z_49 rfl (i:=1) rfl rfl) ?_)))
 exact (pN (Et x))
theorem xN {x y:Int} (hx:(dg x.natAbs).length ≤ 17592186044416) (hy:(dg y.natAbs).length ≤ 17592186044416):bH Tryz.prog 133 [gI x,gI y] (gI (x + y)):=by
 refine bH.intro Tryz.func133 rfl Tryz.ntmps133 rfl (fun cx=>(ts (rn rfl (fK (Ht rfl)) fun B2=>(rn rfl (fK (Ht rfl)) fun B3=>(rn rfl (eG (Ts:=[Is (.bool false),Is (.slice none 0 0)]) O_49 rfl (fun V=>aW zd (aW zd (aG)))) fun B4=>(eZ (cU (ts (ro rfl (eJ kQ (Ht rfl) rfl) (ro rfl (fQ A_4 Z_4 (Ht rfl) (i:=0) rfl rfl) (ro rfl (eJ kQ (Ht rfl) rfl) (ro rfl (fQ A_4 Z_4 (Ht rfl) (i:=1) rfl rfl) (ro rfl (a3W Tryz.runUnderlying4 (Ht rfl) (Ht rfl)) ?_)))))))))))))
 refine eZ (dX (Ht rfl) (fun hb=>?_) (fun hb=>?_))
 ·have he : decide (x < 0) = decide (y < 0) := by simpa using hb
  refine cU (fJ (m:=7) (dp 2 rfl (eJ kQ (Ht rfl) rfl) (dq 10 0 rfl (fQ A_4 Z_4 (Ht rfl) (i:=0) rfl rfl) (dp 2 rfl (eJ eP (Ht rfl) rfl) (dq 12 2 rfl (fQ A_47 Z_47 (Ht rfl) (i:=0) rfl rfl) (dp 3 rfl (eJ eP (Ht rfl) rfl) (dq 14 4 rfl (fQ A_47 Z_47 (Ht rfl) (i:=1) rfl rfl) (dR 13 3 15 5 rfl (cJ Tryz.call215 (a4Y zo zo) ⟨(Ht rfl),(Ht rfl),trivial⟩) (fW bE rfl (by kernel_rfl) (zF (aJ (aJ (aJ (aV ?_))))))))))))))
  refine ro rfl (cJ K_214 oS ⟨(Ht rfl),(Ht rfl),trivial⟩) (gX Z_49 (Ht rfl) (Ht rfl) rfl (i:=2) rfl (aK rfl) rfl rfl (eZ (fG rfl (fZ (fU A_49 Z_49 rfl (i:=2) rfl rfl) ?_))))
  exact (pN (Zm he))
 ·have he : decide (x < 0) ≠ decide (y < 0) := by simpa using hb
  refine cY (cU (ts (ro rfl (eJ eP (Ht rfl) rfl) (ro rfl (fQ A_47 Z_47 (Ht rfl) (i:=0) rfl rfl) (ro rfl (eJ eP (Ht rfl) rfl) (ro rfl (fQ A_47 Z_47 (Ht rfl) (i:=1) rfl rfl) (ro rfl (cJ Tryz.call216 (Vk zo zo) ⟨(Ht rfl),(Ht rfl),trivial⟩) (ro rfl (lQ (Ht rfl) cW) (eZ (dX (Ht rfl) (fun hc=>?_) (fun hc=>?_)))))))))))
  ·have hle : y.natAbs ≤ x.natAbs := Oz (by simpa using hc)
   refine cU (fJ (m:=7) (dp 2 rfl (eJ kQ (Ht rfl) rfl) (dq 24 0 rfl (fQ A_4 Z_4 (Ht rfl) (i:=0) rfl rfl) (dp 2 rfl (eJ eP (Ht rfl) rfl) (dq 26 2 rfl (fQ A_47 Z_47 (Ht rfl) (i:=0) rfl rfl) (dp 3 rfl (eJ eP (Ht rfl) rfl) (dq 28 4 rfl (fQ A_47 Z_47 (Ht rfl) (i:=1) rfl rfl) (dR 27 3 29 5 rfl (cJ Tryz.call217 (a2r zo zo) ⟨(Ht rfl),(Ht rfl),trivial⟩) (fW bE rfl (by kernel_rfl) (zF (aJ (aJ (aJ (aV ?_))))))))))))))
   refine ro rfl (cJ K_214 oS ⟨(Ht rfl),(Ht rfl),trivial⟩) (gX Z_49 (Ht rfl) (Ht rfl) rfl (i:=2) rfl (aK rfl) rfl rfl (eZ (fG rfl (fZ (fU A_49 Z_49 rfl (i:=2) rfl rfl) ?_))))
   exact (pN (Kq he hle))
  ·have hle : x.natAbs ≤ y.natAbs := Nat.le_of_lt (Pa (by simpa using hc))
   refine cY (cU (fJ (m:=7) (dp 3 rfl (eJ kQ (Ht rfl) rfl) (dq 32 0 rfl (fQ A_4 Z_4 (Ht rfl) (i:=1) rfl rfl) (dp 3 rfl (eJ eP (Ht rfl) rfl) (dq 34 2 rfl (fQ A_47 Z_47 (Ht rfl) (i:=1) rfl rfl) (dp 2 rfl (eJ eP (Ht rfl) rfl) (dq 36 4 rfl (fQ A_47 Z_47 (Ht rfl) (i:=0) rfl rfl) (dR 35 3 37 5 rfl (cJ Tryz.call217 (a2r zo zo) ⟨(Ht rfl),(Ht rfl),trivial⟩) (fW bE rfl (by kernel_rfl) (zF (aJ (aJ (aJ (aV ?_)))))))))))))))
   refine ro rfl (cJ K_214 oS ⟨(Ht rfl),(Ht rfl),trivial⟩) (gX Z_49 (Ht rfl) (Ht rfl) rfl (i:=2) rfl (aK rfl) rfl rfl (eZ (fG rfl (fZ (fU A_49 Z_49 rfl (i:=2) rfl rfl) ?_))))
   exact (pN (by rw [Kq (Ne.symm he) hle,Int.add_comm]))
theorem tY {x y:Int} (hx:(dg x.natAbs).length ≤ 17592186044416) (hy:(dg y.natAbs).length ≤ 17592186044416):bH Tryz.prog 132 [gI x,gI y] (gI (x * y)):=by
 refine bH.intro Tryz.func132 rfl Tryz.ntmps132 rfl (fun cx=>(ts (rn rfl (fK (Ht rfl)) fun B2=>(rn rfl (fK (Ht rfl)) fun B3=>(rn rfl (eG (Ts:=[Is (.bool false),Is (.slice none 0 0)]) O_49 rfl (fun V=>aW zd (aW zd (aG)))) fun B4=>(eZ (cU (fJ (m:=10) (dp 2 rfl (eJ kQ (Ht rfl) rfl) (dq 5 0 rfl (fQ A_4 Z_4 (Ht rfl) (i:=0) rfl rfl) (dp 3 rfl (eJ kQ (Ht rfl) rfl) (dq 7 2 rfl (fQ A_4 Z_4 (Ht rfl) (i:=1) rfl rfl) (dR 6 1 8 3 rfl (a3X Tryz.runUnderlying4 (Ht rfl) (Ht rfl)) ?_)))))))))))))
 refine dp 2 rfl (eJ eP (Ht rfl) rfl) (dq 10 5 rfl (fQ A_47 Z_47 (Ht rfl) (i:=0) rfl rfl) (dp 3 rfl (eJ eP (Ht rfl) rfl) (dq 12 7 rfl (fQ A_47 Z_47 (Ht rfl) (i:=1) rfl rfl) (dR 11 6 13 8 rfl (cJ Tryz.call138 (Ia zo zo) ⟨(Ht rfl),(Ht rfl),trivial⟩) (fW bE rfl (by kernel_rfl) (zF (zF (aJ (aJ (aV (ro rfl (cJ K_214 oS ⟨(Ht rfl),(Ht rfl),trivial⟩) (gX Z_49 (Ht rfl) (Ht rfl) rfl (i:=2) rfl (aK rfl) rfl rfl ?_))))))))))))
 refine eZ (fG rfl (fZ (fU A_49 Z_49 rfl (i:=2) rfl rfl) ?_))
 exact (pN (Tn x y))
theorem lB {x:Int} {n:Nat} (hx:(dg x.natAbs).length ≤ 17592186044416) (hn:(dg n).length ≤ 17592186044416):bH Tryz.prog 136 [gI x,aI n] (gI (x * n)):=by
 refine bH.intro Tryz.func136 rfl Tryz.ntmps136 rfl (fun cx=>(ts (rn rfl (fK (Ht rfl)) fun B2=>(rn rfl (eG (Ts:=[Is (.bool false),Is (.slice none 0 0)]) O_49 rfl (fun V=>aW zd (aW zd (aG)))) fun B4=>(eZ (cU (fJ (m:=6) (dp 2 rfl (eJ kQ (Ht rfl) rfl) (dq 5 0 rfl (fQ A_4 Z_4 (Ht rfl) (i:=0) rfl rfl) (dp 2 rfl (eJ eP (Ht rfl) rfl) (dq 7 2 rfl (fQ A_47 Z_47 (Ht rfl) (i:=0) rfl rfl) (dp 1 rfl (cZ (Ht rfl)) (dR 8 3 9 4 rfl (cJ Tryz.call138 (Ia zo zo) ⟨(Ht rfl),(Ht rfl),trivial⟩) ?_)))))))))))))
 refine fW bE rfl (by kernel_rfl) (zF (aJ (aJ (aV (ro rfl (cJ K_214 oS ⟨(Ht rfl),(Ht rfl),trivial⟩) (gX Z_49 (Ht rfl) (Ht rfl) rfl (i:=1) rfl (aK rfl) rfl rfl (eZ (fG rfl (fZ (fU A_49 Z_49 rfl (i:=1) rfl rfl) ?_)))))))))
 exact (pN (Ni x n))
theorem Fu {x y:Int} (hx:(dg x.natAbs).length ≤ 17592186044415) (hy:(dg y.natAbs).length ≤ 17592186044415):bH Tryz.prog 176 [gI x,gI y] (aO .i64 (mT x y)):=by
 have hny:=vK y
 have hs:=oT (x:=x) (y:=-y) hx zo
 refine bH.intro Tryz.func176 rfl Tryz.ntmps176 rfl (fun cx=>(ts (rn rfl (fK (Ht rfl)) fun B2=>(rn rfl (fK (Ht rfl)) fun B3=>(ro rfl (cX (cV 0)) (eZ (cU (fJ (m:=5) (dp 2 rfl (eW A_49 Z_49 (Ht rfl) (i:=0) rfl rfl rfl) (dp 3 rfl (eW A_49 Z_49 (Ht rfl) (i:=1) rfl rfl rfl) (dq 7 1 rfl (cJ K_135 pR ⟨(Ht rfl),trivial⟩) (dR 6 0 8 2 rfl (cJ K_133 (xN zo zo) ⟨(Ht rfl),(Ht rfl),trivial⟩) (C.D_new (Ei:=[]) rfl rfl rfl bW (eG (Ts:=[Is (.bool false),Is (.slice none 0 0)]) O_49 rfl (fun V=>aW zd (aW zd (aG)))) ?_)))))))))))))
 refine fW bE rfl (by kernel_rfl) (zF (C.F_new (fun B5=>aV (gX Z_49 (Ht rfl) (Ht rfl) rfl (i:=2) rfl (aK rfl) rfl rfl (eZ (cU (ts (ro rfl (eJ kQ (Ht rfl) rfl) (ro rfl (fQ A_4 Z_4 (Ht rfl) (i:=2) rfl rfl) (eZ (dX (Ht rfl) (fun hb=>?_) (fun hb=>?_))))))))))))
 ·have hn : x + -y < 0 := by simpa using hb
  refine ts (ro rfl (cX cW) (eZ (fG rfl (fZ (eY rfl) ?_))))
  exact (aS (a0F hn))
 ·have hn : ¬ x + -y < 0 := by simpa using hb
  refine cY (ts (ro rfl (eJ eP (Ht rfl) rfl) (ro rfl (fQ A_47 Z_47 (Ht rfl) (i:=2) rfl rfl) (ro rfl (dK U_47 (Ht rfl) aA) (ro rfl (Ql (Ht rfl) (cV 1)) (ra rfl (eZ (fG rfl (fZ (eY rfl) ?_)))))))))
  exact (aS (a0E hn))
end
section
open Go Go.RowKit
theorem Vc {n : Nat} {E : cT} {H : Hp} {d : Option Tmp} {t : TypeId} {pos : String} {af : Array Edge} {g : Option (Nat × Bool)} {x0 : Operand} {T0 T1 : Ty} (h0 : bM E x0 (eH [T0, T1])) :
  aM Tryz.prog n E H ⟨d,.build 51 #[(0,x0)],t,pos,af,g⟩ (eH [T0,T1,Is (.bool false),Is (.slice none 0 0),Is (.slice none 0 0)]) :=
 fH (parts := [(0, x0)]) fun a V w hs => by
  obtain ⟨v0,e0,c0⟩:=h0 n V a hs
  obtain ⟨c0_0,c0_1,rfl⟩:∃ c0_0 c0_1,v0 = [c0_0,c0_1]:=yO (by simpa using c0.length)
  refine ⟨.agg #[c0_0,c0_1,(.bool false),(.slice none 0 0),(.slice none 0 0)],?_,[c0_0,c0_1,(.bool false),(.slice none 0 0),(.slice none 0 0)],rfl,aW (c0.at (i:=0) rfl rfl) (aW (c0.at (i:=1) rfl rfl) (aW (⟨rfl,trivial⟩) (aW (⟨rfl,trivial⟩) (aW (⟨rfl,trivial⟩) (aG)))))⟩
  simp [e0,Instr.build,Instr.fill,Sem.run_bind,Result.andThen,dS,O_51,U_51,Z_47,Z_49]
theorem rI {n : Nat} {E : cT} {H : Hp} {d : Option Tmp} {t : TypeId} {pos : String} {af : Array Edge} {g : Option (Nat × Bool)} {x0 x1 x2 : Operand} {T0 T1 T2 T3 T4 : Ty} (h0 : bM E x0 (eH [T0, T1])) (h1 : bM E x1 (eH [T2, T3])) [s2 : dI T4 1 false] (h2 : bM E x2 T4) :
  aM Tryz.prog n E H ⟨d,.build 51 #[(0,x0),(1,x1),(2,x2)],t,pos,af,g⟩ (eH [T0,T1,T2,T3,T4]) :=
 fH (parts := [(0, x0), (1, x1), (2, x2)]) fun a V w hs => by
  obtain ⟨v0,e0,c0⟩:=h0 n V a hs
  obtain ⟨c0_0,c0_1,rfl⟩:∃ c0_0 c0_1,v0 = [c0_0,c0_1]:=yO (by simpa using c0.length)
  obtain ⟨v1,e1,c1⟩:=h1 n V a hs
  obtain ⟨c1_0,c1_1,rfl⟩:∃ c1_0 c1_1,v1 = [c1_0,c1_1]:=yO (by simpa using c1.length)
  have p2:=h2 n V a hs
  generalize e2:a.eval x2 = v2 at p2
  have q2:=(s2.ok v2 V p2).2.2 rfl
  refine ⟨.agg #[c0_0,c0_1,c1_0,c1_1,v2],?_,[c0_0,c0_1,c1_0,c1_1,v2],rfl,aW (c0.at (i:=0) rfl rfl) (aW (c0.at (i:=1) rfl rfl) (aW (c1.at (i:=0) rfl rfl) (aW (c1.at (i:=1) rfl rfl) (aW (⟨p2,q2⟩) (aG)))))⟩
  simp [e0,e1,e2,Instr.build,Instr.fill,Sem.run_bind,Result.andThen,dS,q2.cells,O_51,U_51,Z_47,Z_49]
theorem fT (a:Addr) (w:World):(Instr.fieldAt 51 (.pointer (some a)) 0).run Tryz.prog w = .ok (.pointer (some (a.add 0))) w:=by
 simp [Instr.fieldAt,Instr.sureAddr,fieldPlace,Sem.run_bind,Result.andThen,U_51,Z_49]
theorem gY (a:Addr) (w:World):(Instr.fieldAt 51 (.pointer (some a)) 1).run Tryz.prog w = .ok (.pointer (some (a.add 2))) w:=by
 simp [Instr.fieldAt,Instr.sureAddr,fieldPlace,Sem.run_bind,Result.andThen,U_51,Z_49]
theorem pS (a:Addr) (w:World):(Instr.fieldAt 51 (.pointer (some a)) 2).run Tryz.prog w = .ok (.pointer (some (a.add 4))) w:=by
 simp [Instr.fieldAt,Instr.sureAddr,fieldPlace,Sem.run_bind,Result.andThen,U_51,Z_47]
end
section
open Go Go.RowKit
theorem xM {A B:Int} {D:Nat} (hD:0 < D) (hA:(dg A.natAbs).length ≤ 17592186044415) (hB:(dg B.natAbs).length ≤ 17592186044415) (hD2:(dg D).length ≤ 17592186044415):bH Tryz.prog 134 [gI A,gI B,aI D] (aH (Qi.mk' A B D)):=by
 have hg1:=Fw hA hB
 have hg2:=Fw hg1 hD2
 have hgp:Nat.gcd (Nat.gcd A.natAbs B.natAbs) D ≠ 0:=fun e=>by have:=Nat.gcd_eq_zero_iff.1 e; omega
 refine bH.intro Tryz.func134 rfl Tryz.ntmps134 rfl (fun cx=>(ts (rn rfl (fK (Ht rfl)) fun B3=>(rn rfl (fK (Ht rfl)) fun B4=>(rn rfl (eG (Ts:=[Is (.bool false),Is (.slice none 0 0),Is (.bool false),Is (.slice none 0 0),Is (.slice none 0 0)]) O_51 rfl (fun V=>aW zd (aW zd (aW zd (aW zd (aW zd (aG))))))) fun B6=>(eZ (ts (ro rfl (eJ eP (Ht rfl) rfl) (ro rfl (fQ A_47 Z_47 (Ht rfl) (i:=0) rfl rfl) ?_)))))))))
 refine ro rfl (eJ eP (Ht rfl) rfl) (ro rfl (fQ A_47 Z_47 (Ht rfl) (i:=1) rfl rfl) (ro rfl (cJ Tryz.call218 (a2n zo zo) ⟨(Ht rfl),(Ht rfl),trivial⟩) (rm rfl (ro rfl (cJ Tryz.call218 (a2n zo zo) ⟨(Ht rfl),(Ht rfl),trivial⟩) (ra rfl (eZ (cU (jW (fun (uu:Unit)=>True) (fun (uu:Unit)=>[(2,aI (D / (Nat.gcd (Nat.gcd A.natAbs B.natAbs) D))),(3,bT B3 0),(4,bT B4 0),(6,bT B6 0)]) (fun (uu:Unit)=>[box B3 49 [aD (decide (A < 0)),aI (A.natAbs / (Nat.gcd (Nat.gcd A.natAbs B.natAbs) D))],box B4 49 [aD (decide (B < 0)),aI (B.natAbs / (Nat.gcd (Nat.gcd A.natAbs B.natAbs) D))],box B6 51 [Is (.bool false),Is (.slice none 0 0),Is (.bool false),Is (.slice none 0 0),Is (.slice none 0 0)]]) ?_ (fun uu _=>?_)))))))))
 ·refine ts (rm rfl (ro rfl (cJ Tryz.call219 a2o ⟨(Ht rfl), trivial⟩) (ro rfl (eN (Ht rfl)) (eZ (dX (Ht rfl) (fun hb => ?_) (fun hb => ?_))))))
  ·simp at hb
   refine ts (ro rfl (eJ eP (Ht rfl) rfl) (ro rfl (fQ A_47 Z_47 (Ht rfl) (i:=0) rfl rfl) (rm rfl (ro rfl (cJ Tryz.call220 (Oo zo zo zo) ⟨(Ht rfl),(Ht rfl),trivial⟩) (rm rfl (ro rfl (dU (Ht rfl) rfl) (ro rfl (dU (Ht rfl) rfl) (ro rfl (eJ eP (Ht rfl) rfl) (lO Z_47 (Ht rfl) (Ht rfl) (i:=0) rfl (aK rfl) rfl (eZ (ts (ro rfl (eJ eP (Ht rfl) rfl) (ro rfl (fQ A_47 Z_47 (Ht rfl) (i:=1) rfl rfl) (rm rfl (ro rfl (cJ Tryz.call220 (Oo zo zo zo) ⟨(Ht rfl),(Ht rfl),trivial⟩) ?_)))))))))))))))
   refine rm rfl (ro rfl (dU (Ht rfl) rfl) (ro rfl (dU (Ht rfl) rfl) (ro rfl (eJ eP (Ht rfl) rfl) (lO Z_47 (Ht rfl) (Ht rfl) (i:=1) rfl (aK rfl) rfl (eZ (dQ (rm rfl (rm rfl (ro rfl (cJ Tryz.call220 (Oo zo zo zo) ⟨(Ht rfl),(Ht rfl),trivial⟩) (rm rfl (ro rfl (dU (Ht rfl) rfl) (ro rfl (dU (Ht rfl) rfl) (ra rfl (eZ (bD () trivial (zS rfl) (aU (aB (by first | rfl | simp)) (aU (aB (by first | rfl | simp)) (aU (aB rfl) aY))))))))))))))))))
  ·simp at hb
   refine cY (bD () trivial (aZ rfl (dL (by rw [hb,Nat.div_one])) (zS rfl)) (aU (aB (by rw [hb,Nat.div_one])) (aU (aB (by rw [hb,Nat.div_one])) (aU (aB rfl) aY))))
 ·refine cU (jW (fun (uu : Unit) => True) (fun (uu : Unit) => [(2, aI (if D / (Nat.gcd (Nat.gcd A.natAbs B.natAbs) D) = 1 then 0 else D / (Nat.gcd (Nat.gcd A.natAbs B.natAbs) D))), (3, bT B3 0), (4, bT B4 0), (6, bT B6 0)]) (fun (uu : Unit) => [box B3 49 [aD (decide (A < 0)), aI (A.natAbs / (Nat.gcd (Nat.gcd A.natAbs B.natAbs) D))], box B4 49 [aD (decide (B < 0)), aI (B.natAbs / (Nat.gcd (Nat.gcd A.natAbs B.natAbs) D))], box B6 51 [Is (.bool false), Is (.slice none 0 0), Is (.bool false), Is (.slice none 0 0), Is (.slice none 0 0)]]) ?_ (fun uu _ => ?_))
  ·refine ts (rm rfl (ro rfl (cJ Tryz.call219 a2o ⟨(Ht rfl), trivial⟩) (eZ (dX (Ht rfl) (fun hb => ?_) (fun hb => ?_)))))
   ·simp only [decide_eq_true_eq] at hb
    refine dQ (ro rfl (cX cW) (eZ (bD () trivial (aZ rfl (fun v V h=>dL (by rw [if_pos hb]) v V (kN v V h)) (zS rfl)) (dM.refl _))))
   ·simp only [decide_eq_false_iff_not] at hb
    refine cY (bD () trivial (aZ rfl (dL (by rw [if_neg hb])) (zS rfl)) (dM.refl _))
  ·refine ts (ro rfl (eW A_49 Z_49 (Ht rfl) (i := 0) rfl rfl rfl) (ro rfl (eW A_49 Z_49 (Ht rfl) (i := 1) rfl rfl rfl) (rm rfl (ro rfl (rI (Ht rfl) (Ht rfl) (Ht rfl)) (gX Z_51 (Ht rfl) (Ht rfl) rfl (i := 2) rfl (aK rfl) rfl rfl (eZ (fG rfl (fZ (fU A_51 Z_51 rfl (i := 2) rfl rfl) ?_))))))))
   exact (a1F hD)
theorem pQ {x:Qi}:bH Tryz.prog 137 [aH x] (aI x.den):=by
 refine bH.intro Tryz.func137 rfl Tryz.ntmps137 rfl (fun cx=>(ts (rn rfl (fK (Ht rfl)) fun B1=>(ro rfl (cX cW) (eZ (cU (ts (ro rfl (eJ pS (Ht rfl) rfl) (ro rfl (fQ A_47 Z_47 (Ht rfl) (i:=0) rfl rfl) (ro rfl (dK U_47 (Ht rfl) aA) (ro rfl (dO (Ht rfl) (cV 0)) (eZ (dX (Ht rfl) (fun hb=>?_) (fun hb=>?_))))))))))))))
 ·simp at hb
  have h1:x.den = 1:=zI (bF.1 (by simpa using hb))
  refine ts (ro rfl (cR (xs:=[_]) U_47 Z_189 O_189 (cG (cV 1) cK) rfl rfl rfl) (ra rfl (eZ (fG rfl (fZ (eY rfl) ?_)))))
  exact (fun v V h=>dL h1.symm v V (Jy v V h))
 ·simp at hb
  have h1:du x = x.den:=wE (fun e=>hb (by simp [e,eO]))
  refine cY (ts (ro rfl (eJ pS (Ht rfl) rfl) (ro rfl (fQ A_47 Z_47 (Ht rfl) (i:=0) rfl rfl) (ra rfl (eZ (fG rfl (fZ (eY rfl) ?_)))))))
  exact (dL h1)
theorem oI {n:Int} (h1:-9223372036854775808 ≤ n) (h2:n ≤ 9223372036854775807):bH Tryz.prog 77 [aO .i64 n] (aH (Qi.ofInt n)):=by
 refine bH.intro Tryz.func77 rfl Tryz.ntmps77 rfl (fun cx=>(ts (rn rfl (eG (Ts:=[Is (.bool false),Is (.slice none 0 0),Is (.bool false),Is (.slice none 0 0),Is (.slice none 0 0)]) O_51 rfl (fun V=>aW zd (aW zd (aW zd (aW zd (aW zd (aG))))))) fun B2=>(eZ (ts (rm rfl (ro rfl (cJ Tryz.call177 (Fq h1 h2) ⟨(Ht rfl),trivial⟩) (ro rfl (Vc (Ht rfl)) (gX Z_51 (Ht rfl) (Ht rfl) rfl (i:=0) rfl (aK rfl) rfl rfl ?_)))))))))
 refine eZ (fG rfl (fZ (fU A_51 Z_51 rfl (i:=0) rfl rfl) ?_))
 exact Qf
theorem a2k {p q d:Int} (p1:-9223372036854775808 ≤ p) (p2:p ≤ 9223372036854775807) (q1:-9223372036854775808 ≤ q) (q2:q ≤ 9223372036854775807) (d1:-9223372036854775808 ≤ d) (d2:d ≤ 9223372036854775807) (hd:d ≠ 0):bH Tryz.prog 141 [aO .i64 p,aO .i64 q,aO .i64 d] (fI [aH (Qi.frac p q d),aO .i64 0]):=by
 have lp:=Se p1 p2; have lq:=Se q1 q2; have ld:=Se d1 d2; have np:=vK p; have nq:=vK q
 refine bH.intro Tryz.func141 rfl Tryz.ntmps141 rfl (fun cx=>(ts (rn rfl (eG (Ts:=[Is (.bool false),Is (.slice none 0 0),Is (.bool false),Is (.slice none 0 0),Is (.slice none 0 0)]) O_51 rfl (fun V=>aW zd (aW zd (aW zd (aW zd (aW zd (aG))))))) fun B6=>(ro rfl (cX (cV 0)) (eZ (cU (ts (rm rfl (ro rfl (jH (Ht rfl) cW) (eZ (nF (Ht rfl) (by simp [hd]) ?_)))))))))))
 refine cY (ts (rm rfl (ro rfl (cJ Tryz.call177 (Fq p1 p2) ⟨(Ht rfl),trivial⟩) (rm rfl (ro rfl (cJ Tryz.call177 (Fq q1 q2) ⟨(Ht rfl),trivial⟩) (rm rfl (ro rfl (cJ Tryz.call177 (Fq d1 d2) ⟨(Ht rfl),trivial⟩) (rn rfl (eG (Ts:=[Is (.bool false),Is (.slice none 0 0)]) O_49 rfl (fun V=>aW zd (aW zd (aG)))) fun B8=>(rn rfl (eG (Ts:=[Is (.bool false),Is (.slice none 0 0)]) O_49 rfl (fun V=>aW zd (aW zd (aG)))) fun B9=>?_)))))))))
 refine rn rfl (eG (Ts:=[Is (.bool false),Is (.slice none 0 0)]) O_49 rfl (fun V=>aW zd (aW zd (aG)))) fun B10=>gX Z_49 (Ht rfl) (Ht rfl) rfl (i:=1) rfl (aK rfl) rfl rfl (gX Z_49 (Ht rfl) (Ht rfl) rfl (i:=2) rfl (aK rfl) rfl rfl (gX Z_49 (Ht rfl) (Ht rfl) rfl (i:=3) rfl (aK rfl) rfl rfl (eZ (cU (rG (fun (a:Int) (b:Int)=>Qi.mk' a b d.natAbs = Qi.frac p q d ∧ (dg a.natAbs).length ≤ 2 ∧ (dg b.natAbs).length ≤ 2) (fun (a:Int) (b:Int)=>[(6,bT B6 0),(8,bT B8 0),(9,bT B9 0),(10,bT B10 0)]) (fun (a:Int) (b:Int)=>[box B6 51 [Is (.bool false),Is (.slice none 0 0),Is (.bool false),Is (.slice none 0 0),Is (.slice none 0 0)],box B8 49 [aD (decide (a < 0)),aI (a).natAbs],box B9 49 [aD (decide (b < 0)),aI (b).natAbs],box B10 49 [aD (decide (d < 0)),aI (d).natAbs]]) ?_ (fun a b ⟨hab,ha,hb⟩=>?_))))))
 ·refine ts (ro rfl (eJ kQ (Ht rfl) rfl) (ro rfl (fQ A_4 Z_4 (Ht rfl) (i := 3) rfl rfl) (eZ (dX (Ht rfl) (fun hn => ?_) (fun hn => ?_)))))
  ·simp only [decide_eq_true_eq] at hn
   refine fJ (m:=3) (dp 8 rfl (eW A_49 Z_49 (Ht rfl) (i:=1) rfl rfl rfl) (dq 22 0 rfl (cJ K_135 pR ⟨(Ht rfl),trivial⟩) (dp 9 rfl (eW A_49 Z_49 (Ht rfl) (i:=2) rfl rfl rfl) (fW bE rfl (by kernel_rfl) (aJ (aJ (aJ (aV (ro rfl (cJ K_135 pR ⟨(Ht rfl),trivial⟩) (gX Z_49 (Ht rfl) (Ht rfl) rfl (i:=1) rfl (aK rfl) rfl rfl (gX Z_49 (Ht rfl) (Ht rfl) rfl (i:=2) rfl (aK rfl) rfl rfl (eZ (bD (-p,-q) ⟨Qi.frac_neg hn,by dsimp only; omega,by dsimp only; omega⟩ (zS rfl) (aU (aB rfl) (aU (aB rfl) (aU (aB rfl) (aU (aB rfl) aY)))))))))))))))))
  ·simp only [decide_eq_false_iff_not] at hn
   refine cY (bD (p,q) ⟨Qi.frac_pos hn hd,by omega,by omega⟩ (zS rfl) (dM.refl _))
 ·refine ts (ro rfl (eW A_49 Z_49 (Ht rfl) (i := 1) rfl rfl rfl) (ro rfl (eW A_49 Z_49 (Ht rfl) (i := 2) rfl rfl rfl) (ro rfl (eJ eP (Ht rfl) rfl) (ro rfl (fQ A_47 Z_47 (Ht rfl) (i := 3) rfl rfl) (ro rfl (cJ K_134 (xM zo zo zo zo) ⟨(Ht rfl), (Ht rfl), (Ht rfl), trivial⟩) (gX Z_51 (Ht rfl) (Ht rfl) rfl (i := 0) rfl (aK rfl) rfl rfl (ro rfl (cX (cV 0)) (eZ (bN rfl (fZ (fU A_51 Z_51 rfl (i := 0) rfl rfl) ?_) (eY rfl))))))))))
  exact (lP hab)
theorem yL {x y:Qi} {L M:Nat} [hx:aE x L] [hy:aE y M] (h:L + M + 1 ≤ 17592186044415):bH Tryz.prog 46 [aH x,aH y] (aH (x + y)):=by
 have hxa:=oE hx.fit; have hxb:=oF hx.fit; have hxd:=oG hx.fit
 have hya:=oE hy.fit; have hyb:=oF hy.fit; have hyd:=oG hy.fit
 have hxp:=x.den_pos; have hyp:=y.den_pos; have hdp:=Nat.mul_pos hxp hyp
 have e1:=gN x.a y.den; have e2:=gN y.a x.den; have e3:=gN x.b y.den; have e4:=gN y.b x.den; have e5:=Bf x.den y.den
 have e6:=oT (x:=x.a * y.den) (y:=y.a * x.den) (L:=L + M) zo zo; have e7:=oT (x:=x.b * y.den) (y:=y.b * x.den) (L:=L + M) zo zo
 refine bH.intro Tryz.func46 rfl Tryz.ntmps46 rfl (fun cx=>(ts (rn rfl (fK (Ht rfl)) fun B2=>(rn rfl (fK (Ht rfl)) fun B3=>(rn rfl (eG (Ts:=[Is (.bool false),Is (.slice none 0 0),Is (.bool false),Is (.slice none 0 0),Is (.slice none 0 0)]) O_51 rfl (fun V=>aW zd (aW zd (aW zd (aW zd (aW zd (aG))))))) fun B4=>(eZ (cU (fJ (m:=3) (dp 2 rfl (eW A_51 Z_51 (Ht rfl) (i:=0) rfl rfl rfl) (dq 7 0 rfl (cJ K_137 pQ ⟨(Ht rfl),trivial⟩) ?_))))))))))
 refine dp 3 rfl (eW A_51 Z_51 (Ht rfl) (i:=1) rfl rfl rfl) (fW bE rfl (by kernel_rfl) (aJ (aJ (aJ (aV (ro rfl (cJ K_137 pQ ⟨(Ht rfl),trivial⟩) (ra rfl (ra rfl (eZ (cU (fJ (m:=20) (dp 2 rfl (eJ fT (Ht rfl) rfl) (dq 11 0 rfl (eW A_49 Z_49 (Ht rfl) (i:=0) rfl rfl rfl) (dp 6 rfl (cZ (Ht rfl)) (dR 12 1 13 2 rfl (cJ K_136 (lB zo zo) ⟨(Ht rfl),(Ht rfl),trivial⟩) (dp 3 rfl (eJ fT (Ht rfl) rfl) (dq 15 4 rfl (eW A_49 Z_49 (Ht rfl) (i:=1) rfl rfl rfl) ?_)))))))))))))))))
 refine dp 5 rfl (cZ (Ht rfl)) (dR 16 5 17 6 rfl (cJ K_136 (lB zo zo) ⟨(Ht rfl),(Ht rfl),trivial⟩) (dR 14 3 18 7 rfl (cJ K_133 (xN zo zo) ⟨(Ht rfl),(Ht rfl),trivial⟩) (dp 2 rfl (eJ gY (Ht rfl) rfl) (dq 20 9 rfl (eW A_49 Z_49 (Ht rfl) (i:=0) rfl rfl rfl) (dp 6 rfl (cZ (Ht rfl)) (dR 21 10 22 11 rfl (cJ K_136 (lB zo zo) ⟨(Ht rfl),(Ht rfl),trivial⟩) (dp 3 rfl (eJ gY (Ht rfl) rfl) (dq 24 13 rfl (eW A_49 Z_49 (Ht rfl) (i:=1) rfl rfl rfl) ?_))))))))
 refine dp 5 rfl (cZ (Ht rfl)) (dR 25 14 26 15 rfl (cJ K_136 (lB zo zo) ⟨(Ht rfl),(Ht rfl),trivial⟩) (dR 23 12 27 16 rfl (cJ K_133 (xN zo zo) ⟨(Ht rfl),(Ht rfl),trivial⟩) (dp 5 rfl (cZ (Ht rfl)) (dp 6 rfl (cZ (Ht rfl)) (fW bE rfl (by kernel_rfl) (zF (zF (zF (zF (zF (aV (ro rfl (cJ Tryz.call138 (Ia zo zo) ⟨(Ht rfl),(Ht rfl),trivial⟩) ?_))))))))))))
 refine ro rfl (cJ K_134 (xM (by first | assumption | omega) zo zo zo) ⟨(Ht rfl),(Ht rfl),(Ht rfl),trivial⟩) (gX Z_51 (Ht rfl) (Ht rfl) rfl (i:=2) rfl (aK rfl) rfl rfl (eZ (fG rfl (fZ (fU A_51 Z_51 rfl (i:=2) rfl rfl) ?_))))
 exact (lP (Qi.mk_add x y))
theorem a2j {x:Qi}:bH Tryz.prog 140 [aH x] (aH (-x)):=by
 refine bH.intro Tryz.func140 rfl Tryz.ntmps140 rfl (fun cx=>(ts (rn rfl (fK (Ht rfl)) fun B1=>(rn rfl (eG (Ts:=[Is (.bool false),Is (.slice none 0 0),Is (.bool false),Is (.slice none 0 0),Is (.slice none 0 0)]) O_51 rfl (fun V=>aW zd (aW zd (aW zd (aW zd (aW zd (aG))))))) fun B2=>(eZ (cU (fJ (m:=8) (dp 1 rfl (eJ fT (Ht rfl) rfl) (dq 3 0 rfl (eW A_49 Z_49 (Ht rfl) (i:=0) rfl rfl rfl) (dq 4 1 rfl (cJ K_135 pR ⟨(Ht rfl),trivial⟩) ?_))))))))))
 refine dp 1 rfl (eJ gY (Ht rfl) rfl) (dq 6 3 rfl (eW A_49 Z_49 (Ht rfl) (i:=0) rfl rfl rfl) (dq 7 4 rfl (cJ K_135 pR ⟨(Ht rfl),trivial⟩) (dp 1 rfl (eJ pS (Ht rfl) rfl) (dq 9 6 rfl (fQ A_47 Z_47 (Ht rfl) (i:=0) rfl rfl) (fW bE rfl (by kernel_rfl) (zF (zF (aV (ro rfl (rI (Ht rfl) (Ht rfl) (Ht rfl)) (gX Z_51 (Ht rfl) (Ht rfl) rfl (i:=1) rfl (aK rfl) rfl rfl (eZ (fG rfl (fZ (fU A_51 Z_51 rfl (i:=1) rfl rfl) ?_)))))))))))))
 exact (qB (by obtain ⟨e1,e2,e3⟩:=Qi.neg_a x; rw [e1,e2,a2u e3]; rfl))
theorem xJ {x:Qi}:bH Tryz.prog 175 [aH x] (aH x.conj):=by
 refine bH.intro Tryz.func175 rfl Tryz.ntmps175 rfl (fun cx=>(ts (rn rfl (fK (Ht rfl)) fun B1=>(rn rfl (eG (Ts:=[Is (.bool false),Is (.slice none 0 0),Is (.bool false),Is (.slice none 0 0),Is (.slice none 0 0)]) O_51 rfl (fun V=>aW zd (aW zd (aW zd (aW zd (aW zd (aG))))))) fun B2=>(eZ (cU (fJ (m:=7) (dp 1 rfl (eJ fT (Ht rfl) rfl) (dq 3 0 rfl (eW A_49 Z_49 (Ht rfl) (i:=0) rfl rfl rfl) (dp 1 rfl (eJ gY (Ht rfl) rfl) ?_))))))))))
 refine dq 5 2 rfl (eW A_49 Z_49 (Ht rfl) (i:=0) rfl rfl rfl) (dq 6 3 rfl (cJ K_135 pR ⟨(Ht rfl),trivial⟩) (dp 1 rfl (eJ pS (Ht rfl) rfl) (dq 8 5 rfl (fQ A_47 Z_47 (Ht rfl) (i:=0) rfl rfl) (fW bE rfl (by kernel_rfl) (zF (aJ (aJ (aJ (aV (ro rfl (rI (Ht rfl) (Ht rfl) (Ht rfl)) (gX Z_51 (Ht rfl) (Ht rfl) rfl (i:=1) rfl (aK rfl) rfl rfl (eZ (fG rfl (fZ (fU A_51 Z_51 rfl (i:=1) rfl rfl) ?_))))))))))))))
 exact (qB (by obtain ⟨e1,e2,e3⟩:=Qi.conj_a x; rw [e1,e2,a2u e3]; rfl))
theorem rV {x y:Qi} {L M:Nat} [hx:aE x L] [hy:aE y M] (h:L + M + 1 ≤ 17592186044415):bH Tryz.prog 44 [aH x,aH y] (aH (x - y)):=by
 have hxa:=oE hx.fit; have hxb:=oF hx.fit; have hxd:=oG hx.fit
 have hya:=oE hy.fit; have hyb:=oF hy.fit; have hyd:=oG hy.fit
 have hxp:=x.den_pos; have hyp:=y.den_pos; have hdp:=Nat.mul_pos hxp hyp
 refine bH.intro Tryz.func44 rfl Tryz.ntmps44 rfl (fun cx=>(ts (rn rfl (fK (Ht rfl)) fun B2=>(rn rfl (fK (Ht rfl)) fun B3=>(rn rfl (eG (Ts:=[Is (.bool false),Is (.slice none 0 0),Is (.bool false),Is (.slice none 0 0),Is (.slice none 0 0)]) O_51 rfl (fun V=>aW zd (aW zd (aW zd (aW zd (aW zd (aG))))))) fun B4=>(eZ (cU (fJ (m:=3) (dp 2 rfl (eW A_51 Z_51 (Ht rfl) (i:=0) rfl rfl rfl) (dp 3 rfl (eW A_51 Z_51 (Ht rfl) (i:=1) rfl rfl rfl) ?_))))))))))
 refine dq 6 1 rfl (cJ Tryz.call140 a2j ⟨(Ht rfl),trivial⟩) (fW bE rfl (by kernel_rfl) (aJ (aJ (aJ (aV (ro rfl (cJ K_46 (yL zo) ⟨(Ht rfl),(Ht rfl),trivial⟩) (gX Z_51 (Ht rfl) (Ht rfl) rfl (i:=2) rfl (aK rfl) rfl rfl (eZ (fG rfl (fZ (fU A_51 Z_51 rfl (i:=2) rfl rfl) ?_))))))))))
 exact (lP (Qi.sub_def x y).symm)
theorem iT {x y:Qi} {L M:Nat} [hx:aE x L] [hy:aE y M] (h:L + M + 1 ≤ 17592186044415):bH Tryz.prog 45 [aH x,aH y] (aH (x * y)):=by
 have hxa:=oE hx.fit; have hxb:=oF hx.fit; have hxd:=oG hx.fit
 have hya:=oE hy.fit; have hyb:=oF hy.fit; have hyd:=oG hy.fit
 have hxp:=x.den_pos; have hyp:=y.den_pos; have hdp:=Nat.mul_pos hxp hyp
 have e1:=oU x.a y.a; have e2:=oU x.b y.b; have e3:=oU x.a y.b; have e4:=oU x.b y.a; have e5:=Bf x.den y.den; have e8:=vK (x.b * y.b)
 have e6:=oT (x:=x.a * y.a) (y:=-(x.b * y.b)) (L:=L + M) zo zo; have e7:=oT (x:=x.a * y.b) (y:=x.b * y.a) (L:=L + M) zo zo
 refine bH.intro Tryz.func45 rfl Tryz.ntmps45 rfl (fun cx=>(ts (rn rfl (fK (Ht rfl)) fun B2=>(rn rfl (fK (Ht rfl)) fun B3=>(rn rfl (eG (Ts:=[Is (.bool false),Is (.slice none 0 0),Is (.bool false),Is (.slice none 0 0),Is (.slice none 0 0)]) O_51 rfl (fun V=>aW zd (aW zd (aW zd (aW zd (aW zd (aG))))))) fun B4=>(eZ (cU (fJ (m:=13) (dp 2 rfl (eJ fT (Ht rfl) rfl) (dq 7 0 rfl (eW A_49 Z_49 (Ht rfl) (i:=0) rfl rfl rfl) ?_))))))))))
 refine dp 3 rfl (eJ fT (Ht rfl) rfl) (dq 9 2 rfl (eW A_49 Z_49 (Ht rfl) (i:=1) rfl rfl rfl) (dR 8 1 10 3 rfl (cJ K_132 (tY zo zo) ⟨(Ht rfl),(Ht rfl),trivial⟩) (dp 2 rfl (eJ gY (Ht rfl) rfl) (dq 12 5 rfl (eW A_49 Z_49 (Ht rfl) (i:=0) rfl rfl rfl) (dp 3 rfl (eJ gY (Ht rfl) rfl) (dq 14 7 rfl (eW A_49 Z_49 (Ht rfl) (i:=1) rfl rfl rfl) (dR 13 6 15 8 rfl (cJ K_132 (tY zo zo) ⟨(Ht rfl),(Ht rfl),trivial⟩) (dq 16 9 rfl (cJ K_135 pR ⟨(Ht rfl),trivial⟩) ?_))))))))
 refine dR 11 4 17 10 rfl (cJ K_133 (xN zo zo) ⟨(Ht rfl),(Ht rfl),trivial⟩) (C.D_new (Ei:=[]) rfl rfl rfl bW (eG (Ts:=[Is (.bool false),Is (.slice none 0 0)]) O_49 rfl (fun V=>aW zd (aW zd (aG)))) (fW bE rfl (by kernel_rfl) (zF (zF (zF (C.F_new (fun B5=>aV (gX Z_49 (Ht rfl) (Ht rfl) rfl (i:=3) rfl (aK rfl) rfl rfl (eZ ?_)))))))))
 refine cU (fJ (m:=12) (dp 2 rfl (eJ fT (Ht rfl) rfl) (dq 19 0 rfl (eW A_49 Z_49 (Ht rfl) (i:=0) rfl rfl rfl) (dp 3 rfl (eJ gY (Ht rfl) rfl) (dq 21 2 rfl (eW A_49 Z_49 (Ht rfl) (i:=1) rfl rfl rfl) (dR 20 1 22 3 rfl (cJ K_132 (tY zo zo) ⟨(Ht rfl),(Ht rfl),trivial⟩) (dp 2 rfl (eJ gY (Ht rfl) rfl) (dq 24 5 rfl (eW A_49 Z_49 (Ht rfl) (i:=0) rfl rfl rfl) (dp 3 rfl (eJ fT (Ht rfl) rfl) (dq 26 7 rfl (eW A_49 Z_49 (Ht rfl) (i:=1) rfl rfl rfl) ?_))))))))))
 refine dR 25 6 27 8 rfl (cJ K_132 (tY zo zo) ⟨(Ht rfl),(Ht rfl),trivial⟩) (dR 23 4 28 9 rfl (cJ K_133 (xN zo zo) ⟨(Ht rfl),(Ht rfl),trivial⟩) (C.D_new (Ei:=[]) rfl rfl rfl bW (eG (Ts:=[Is (.bool false),Is (.slice none 0 0)]) O_49 rfl (fun V=>aW zd (aW zd (aG)))) (fW bE rfl (by kernel_rfl) (zF (zF (aJ (aJ (aJ (C.F_new (fun B6=>aV (gX Z_49 (Ht rfl) (Ht rfl) rfl (i:=4) rfl (aK rfl) rfl rfl ?_)))))))))))
 refine eZ (cU (fJ (m:=7) (dp 5 rfl (eW A_49 Z_49 (Ht rfl) (i:=3) rfl rfl rfl) (dp 6 rfl (eW A_49 Z_49 (Ht rfl) (i:=4) rfl rfl rfl) (dp 2 rfl (eW A_51 Z_51 (Ht rfl) (i:=0) rfl rfl rfl) (dq 32 2 rfl (cJ K_137 pQ ⟨(Ht rfl),trivial⟩) (dp 3 rfl (eW A_51 Z_51 (Ht rfl) (i:=1) rfl rfl rfl) (dq 34 4 rfl (cJ K_137 pQ ⟨(Ht rfl),trivial⟩) (dR 33 3 35 5 rfl (cJ Tryz.call138 (Ia zo zo) ⟨(Ht rfl),(Ht rfl),trivial⟩) (fW bE rfl (by kernel_rfl) (zF (aJ (aJ (aJ (aV ?_)))))))))))))))
 refine ro rfl (cJ K_134 (xM (by first | assumption | omega) zo zo zo) ⟨(Ht rfl),(Ht rfl),(Ht rfl),trivial⟩) (gX Z_51 (Ht rfl) (Ht rfl) rfl (i:=2) rfl (aK rfl) rfl rfl (eZ (fG rfl (fZ (fU A_51 Z_51 rfl (i:=2) rfl rfl) ?_))))
 exact (lP (Qi.mk_mul x y))
theorem Fk {x:Qi} {L:Nat} [hx:aE x L] (h:L ≤ 17592186044415):bH Tryz.prog 27 [aH x] (aD (!decide (x = Qi.zero))):=by
 have hxa:=oE hx.fit; have hxb:=oF hx.fit; have hxd:=oG hx.fit
 refine bH.intro Tryz.func27 rfl Tryz.ntmps27 rfl (fun cx=>(ts (rn rfl (fK (Ht rfl)) fun B1=>(ro rfl (cX cW) (eZ (ts (ro rfl (eJ fT (Ht rfl) rfl) (ro rfl (eJ eP (Ht rfl) rfl) (ro rfl (fQ A_47 Z_47 (Ht rfl) (i:=0) rfl rfl) (ro rfl (dK U_47 (Ht rfl) aA) (ro rfl (eJ gY (Ht rfl) rfl) (ro rfl (eJ eP (Ht rfl) rfl) (ro rfl (fQ A_47 Z_47 (Ht rfl) (i:=0) rfl rfl) (ro rfl (dK U_47 (Ht rfl) aA) (ro rfl (dW (Ht rfl) (Ht rfl) z6) ?_)))))))))))))))
 refine ro rfl (eL (Ht rfl) (cV 0)) (ra rfl (eZ (fG rfl (fZ (eY rfl) ?_))))
 exact (dH (Wa x))
theorem Fn {x:Qi}:bH Tryz.prog 169 [aH x] (aD (decide (x.b = 0))):=by
 refine bH.intro Tryz.func169 rfl Tryz.ntmps169 rfl (fun cx=>(ts (rn rfl (fK (Ht rfl)) fun B1=>(ro rfl (cX cW) (eZ (ts (ro rfl (eJ gY (Ht rfl) rfl) (ro rfl (eJ eP (Ht rfl) rfl) (ro rfl (fQ A_47 Z_47 (Ht rfl) (i:=0) rfl rfl) (ro rfl (dK U_47 (Ht rfl) aA) (ro rfl (dO (Ht rfl) (cV 0)) (ra rfl (eZ (fG rfl (fZ (eY rfl) ?_)))))))))))))))
 exact (dH (a1K x))
theorem Ma {x y:Qi} {L M:Nat} [hx:aE x L] [hy:aE y M] (h:L ≤ 17592186044415) (h2:M ≤ 17592186044415):bH Tryz.prog 139 [aH x,aH y] (aD (decide (x = y))):=by
 have hxa:=oE hx.fit; have hxb:=oF hx.fit; have hxd:=oG hx.fit
 have hya:=oE hy.fit; have hyb:=oF hy.fit; have hyd:=oG hy.fit
 have hxu:=Wk x; have hyu:=Wk y
 refine bH.intro Tryz.func139 rfl Tryz.ntmps139 rfl (fun cx=>(ts (rn rfl (fK (Ht rfl)) fun B2=>(rn rfl (fK (Ht rfl)) fun B3=>(ro rfl (cX cW) (eZ (ts (ro rfl (eJ fT (Ht rfl) rfl) (ro rfl (eW A_49 Z_49 (Ht rfl) (i:=0) rfl rfl rfl) (ro rfl (eJ fT (Ht rfl) rfl) (ro rfl (eW A_49 Z_49 (Ht rfl) (i:=1) rfl rfl rfl) (ro rfl (cJ Tryz.call176 (Fu zo zo) ⟨(Ht rfl),(Ht rfl),trivial⟩) (ro rfl (jH (Ht rfl) cW) (rm rfl (fX rfl rfl (eU rfl rfl (Ht rfl) (fun h=>eJ gY (Ht rfl) rfl)) ?_)))))))))))))))
 refine fX rfl rfl (eU rfl rfl (Ht rfl) (fun h=>eW A_49 Z_49 (fV rfl h) (i:=0) rfl rfl rfl)) (fX rfl rfl (eU rfl rfl (Ht rfl) (fun h=>eJ gY (Ht rfl) rfl)) (fX rfl rfl (eU rfl rfl (Ht rfl) (fun h=>eW A_49 Z_49 (fV rfl h) (i:=1) rfl rfl rfl)) (fX rfl rfl (eU rfl rfl (Ht rfl) (fun h=>cJ Tryz.call176 (Fu zo zo) ⟨(fV rfl h),(fV rfl h),trivial⟩)) (fX rfl rfl (eU rfl rfl (Ht rfl) (fun h=>jH (fV rfl h) cW)) (ro rfl (fM (Ht rfl) (fun h=>(fV rfl h))) ?_)))))
 refine rm rfl (fX rfl rfl (eU rfl rfl (Ht rfl) (fun h=>eJ pS (Ht rfl) rfl)) (fX rfl rfl (eU rfl rfl (Ht rfl) (fun h=>fQ A_47 Z_47 (fV rfl h) (i:=0) rfl rfl)) (fX rfl rfl (eU rfl rfl (Ht rfl) (fun h=>eJ pS (Ht rfl) rfl)) (fX rfl rfl (eU rfl rfl (Ht rfl) (fun h=>fQ A_47 Z_47 (fV rfl h) (i:=1) rfl rfl)) (fX rfl rfl (eU rfl rfl (Ht rfl) (fun h=>cJ Tryz.call216 (Vk zo zo) ⟨(fV rfl h),(fV rfl h),trivial⟩)) (fX rfl rfl (eU rfl rfl (Ht rfl) (fun h=>jH (fV rfl h) cW)) ?_))))))
 refine ro rfl (fM (Ht rfl) (fun h=>(fV rfl h))) (ra rfl (eZ (fG rfl (fZ (eY rfl) ?_))))
 exact (dH (a1W x y))
theorem Ve {x y:Qi} {L M:Nat} [hx:aE x L] [hy:aE y M] (h:L + M ≤ 17592186044415):bH Tryz.prog 76 [aH x,aH y] (aO .i64 (Ii x y)):=by
 have hxa:=oE hx.fit; have hxb:=oF hx.fit; have hxd:=oG hx.fit
 have hya:=oE hy.fit; have hyb:=oF hy.fit; have hyd:=oG hy.fit
 have e1:=gN x.a y.den; have e2:=gN y.a x.den; have e3:=gN x.b y.den; have e4:=gN y.b x.den
 refine bH.intro Tryz.func76 rfl Tryz.ntmps76 rfl (fun cx=>(ts (rn rfl (fK (Ht rfl)) fun B2=>(rn rfl (fK (Ht rfl)) fun B3=>(ro rfl (cX (cV 0)) (eZ (cU (cU (fJ (m:=9) (dp 2 rfl (eJ fT (Ht rfl) rfl) (dq 6 0 rfl (eW A_49 Z_49 (Ht rfl) (i:=0) rfl rfl rfl) (dp 3 rfl (eW A_51 Z_51 (Ht rfl) (i:=1) rfl rfl rfl) (dq 8 2 rfl (cJ K_137 pQ ⟨(Ht rfl),trivial⟩) (dR 7 1 9 3 rfl (cJ K_136 (lB zo zo) ⟨(Ht rfl),(Ht rfl),trivial⟩) (dp 3 rfl (eJ fT (Ht rfl) rfl) ?_)))))))))))))))
 refine dq 11 5 rfl (eW A_49 Z_49 (Ht rfl) (i:=1) rfl rfl rfl) (dp 2 rfl (eW A_51 Z_51 (Ht rfl) (i:=0) rfl rfl rfl) (dq 13 7 rfl (cJ K_137 pQ ⟨(Ht rfl),trivial⟩) (fW bE rfl (by kernel_rfl) (zF (zF (aJ (aV (ro rfl (cJ K_136 (lB zo zo) ⟨(Ht rfl),(Ht rfl),trivial⟩) (ro rfl (cJ Tryz.call176 (Fu zo zo) ⟨(Ht rfl),(Ht rfl),trivial⟩) (ra rfl (eZ (ts (rm rfl (ro rfl (kA (Ht rfl) cW) ?_))))))))))))))
 refine eZ (dX (Ht rfl) (fun hb=>?_) (fun hb=>?_))
 ·simp only [Bool.not_eq_true', decide_eq_false_iff_not] at hb
  refine ts (rm rfl (ra rfl (eZ (fG rfl (fZ (eY rfl) ?_)))))
  exact (aS (by rw [Ii,if_pos hb]))
 ·simp only [Bool.not_eq_false', decide_eq_true_eq] at hb
  refine cY (cU (fJ (m:=9) (dp 2 rfl (eJ gY (Ht rfl) rfl) (dq 20 0 rfl (eW A_49 Z_49 (Ht rfl) (i:=0) rfl rfl rfl) (dp 3 rfl (eW A_51 Z_51 (Ht rfl) (i:=1) rfl rfl rfl) (dq 22 2 rfl (cJ K_137 pQ ⟨(Ht rfl),trivial⟩) (dR 21 1 23 3 rfl (cJ K_136 (lB zo zo) ⟨(Ht rfl),(Ht rfl),trivial⟩) (dp 3 rfl (eJ gY (Ht rfl) rfl) (dq 25 5 rfl (eW A_49 Z_49 (Ht rfl) (i:=1) rfl rfl rfl) (dp 2 rfl (eW A_51 Z_51 (Ht rfl) (i:=0) rfl rfl rfl) ?_))))))))))
  refine dq 27 7 rfl (cJ K_137 pQ ⟨(Ht rfl),trivial⟩) (fW bE rfl (by kernel_rfl) (zF (zF (aJ (aV (ro rfl (cJ K_136 (lB zo zo) ⟨(Ht rfl),(Ht rfl),trivial⟩) (ro rfl (cJ Tryz.call176 (Fu zo zo) ⟨(Ht rfl),(Ht rfl),trivial⟩) (ra rfl (eZ (fG rfl (fZ (eY rfl) ?_)))))))))))
  exact (aS (by rw [Ii,if_neg (by simpa using hb)]))
end
section
open Go Go.RowKit
theorem a0g {n : Nat} {E : cT} {H : Hp} {d : Option Tmp} {t : TypeId} {pos : String} {af : Array Edge} {g : Option (Nat × Bool)}  :
  aM Tryz.prog n E H ⟨d,.build 49 #[],t,pos,af,g⟩ (eH [Is (.bool false),Is (.slice none 0 0)]) :=
 fH (parts := []) fun a V w hs => by
  refine ⟨.agg #[(.bool false),(.slice none 0 0)],?_,[(.bool false),(.slice none 0 0)],rfl,aW (⟨rfl,trivial⟩) (aW (⟨rfl,trivial⟩) (aG))⟩
  simp [Instr.build,Instr.fill,Sem.run_bind,Result.andThen,dS,O_49,U_49,Z_4,Z_47]
theorem Iu (a:Addr) (w:World):(Instr.fieldAt 102 (.pointer (some a)) 0).run Tryz.prog w = .ok (.pointer (some (a.add 0))) w:=by
 simp [Instr.fieldAt,Instr.sureAddr,fieldPlace,Sem.run_bind,Result.andThen,U_102,Z_2]
theorem Iv (a:Addr) (w:World):(Instr.fieldAt 102 (.pointer (some a)) 1).run Tryz.prog w = .ok (.pointer (some (a.add 1))) w:=by
 simp [Instr.fieldAt,Instr.sureAddr,fieldPlace,Sem.run_bind,Result.andThen,U_102,Z_2]
theorem qP (a:Addr) (w:World):(Instr.fieldAt 102 (.pointer (some a)) 2).run Tryz.prog w = .ok (.pointer (some (a.add 2))) w:=by
 simp [Instr.fieldAt,Instr.sureAddr,fieldPlace,Sem.run_bind,Result.andThen,U_102,Z_2]
theorem jO:Tryz.prog.info? 51 = some Tryz.t51:=by kernel_rfl
theorem lR:Tryz.prog.underlying 29 = some (.slice 51):=by kernel_rfl
end
section
open Go Go.RowKit
theorem Mg {a:Int} {d:Nat} (hd:0 < d) (ha:(dg a.natAbs).length ≤ 8796093022208) (hd2:(dg d).length ≤ 8796093022208):bH Tryz.prog 188 [gI a,aI d] (uR (wT a d)):=by
 have h1:=Jp a hd; have h2:=Jq a hd
 obtain ⟨x,hx⟩:∃ x,x = Qi.mk' a 0 d:=⟨_,rfl⟩
 rw [wT,← hx]
 rw [← hx] at h1 h2
 have h3:=wB x.a.natAbs; have h4:=wB x.den
 have h5:(dg (0:Int).natAbs).length ≤ 0:=by rw [show (0:Int).natAbs = 0 from rfl,eO]; exact Nat.le_refl _
 refine bH.intro Tryz.func188 rfl Tryz.ntmps188 rfl (fun cx=>(ts (rn rfl (fK (Ht rfl)) fun B2=>(ro rfl (cX (bM.cS (l:=[]) rfl)) (eZ (ts (ro rfl (eW A_49 Z_49 (Ht rfl) (i:=0) rfl rfl rfl) (ro rfl (aM.imp (a0g ) Cz) (rm rfl (ro rfl (aM.imp (cJ K_134 (xM (by first | assumption | omega) zo zo zo) ⟨(Ht rfl),(Ht rfl),(Ht rfl),trivial⟩) (lP hx.symm)) (rn rfl (eG (Ts:=[Is (.bool false),Is (.slice none 0 0),Is (.bool false),Is (.slice none 0 0),Is (.slice none 0 0)]) O_51 rfl (fun V=>aW zd (aW zd (aW zd (aW zd (aW zd (aG))))))) fun B5=>?_)))))))))))
 refine gX Z_51 (Ht rfl) (Ht rfl) rfl (i:=1) rfl (aK rfl) rfl rfl (eZ (ts (ro rfl (eJ fT (Ht rfl) rfl) (ro rfl (eJ eP (Ht rfl) rfl) (ro rfl (fQ A_47 Z_47 (Ht rfl) (i:=1) rfl rfl) (ro rfl (cJ Tryz.call249 (Hy zo) ⟨(Ht rfl),trivial⟩) (ra rfl (eZ (cU (jW (fun (uu:Unit)=>True) (fun (uu:Unit)=>[(5,bT B5 0),(6,uR (if x.a < 0 then 45 :: Bc x.a.natAbs else Bc x.a.natAbs))]) (fun (uu:Unit)=>[box B2 49 [aD (decide (a < 0)),aI (a).natAbs],box B5 51 [aD (decide ((x).a < 0)),aI (x).a.natAbs,aD (decide ((x).b < 0)),aI (x).b.natAbs,aI (du (x))]]) ?_ (fun uu _=>?_)))))))))))
 ·refine ts (ro rfl (eJ fT (Ht rfl) rfl) (ro rfl (eJ kQ (Ht rfl) rfl) (ro rfl (fQ A_4 Z_4 (Ht rfl) (i := 1) rfl rfl) (eZ (dX (Ht rfl) (fun hb => ?_) (fun hb => ?_))))))
  ·simp only [decide_eq_true_eq] at hb
   refine dQ (rm rfl (ro rfl (uK (bM.cS (l:=[45]) rfl) (Ht rfl) (by first | omega | (simp; omega))) (ra rfl (eZ (bD () trivial (aQ rfl (aZ rfl (pJ (by rw [if_pos hb]; rfl)) aX)) (aU (aB rfl) (aU (aB rfl) aY)))))))
  ·simp only [decide_eq_false_iff_not] at hb
   refine cY (bD () trivial (aQ rfl (aZ rfl (pJ (by rw [if_neg hb])) aX)) (aU (aB rfl) (aU (aB rfl) aY)))
 ·have h6 : (if x.a < 0 then 45 :: Bc x.a.natAbs else Bc x.a.natAbs).length ≤ (Bc x.a.natAbs).length + 1 := by split <;> simp
  have h7:=Wk x
  refine cU (jW (fun (uu:Unit)=>True) (fun (uu:Unit)=>[(6,uR ((if x.a < 0 then 45 :: Bc x.a.natAbs else Bc x.a.natAbs) ++ (if x.den = 1 then [] else 47 :: Bc x.den)))]) (fun (uu:Unit)=>[box B2 49 [aD (decide (a < 0)),aI (a).natAbs],box B5 51 [aD (decide ((x).a < 0)),aI (x).a.natAbs,aD (decide ((x).b < 0)),aI (x).b.natAbs,aI (du (x))]]) ?_ (fun uu _=>?_))
  ·refine ts (ro rfl (eJ pS (Ht rfl) rfl) (ro rfl (fQ A_47 Z_47 (Ht rfl) (i := 1) rfl rfl) (ro rfl (dK U_47 (Ht rfl) aA) (ro rfl (eL (Ht rfl) (cV 0)) (eZ (dX (Ht rfl) (fun hb => ?_) (fun hb => ?_)))))))
   ·simp only [decide_eq_true_eq] at hb
    have h8:du x = x.den:=wE (fun e=>by rw [e,eO] at hb; simp at hb)
    have h9:x.den ≠ 1:=fun e=>by rw [du,if_pos e,eO] at hb; simp at hb
    have h10:=wB (du x)
    refine dQ (rm rfl (ro rfl (eJ pS (Ht rfl) rfl) (ro rfl (fQ A_47 Z_47 (Ht rfl) (i:=1) rfl rfl) (ro rfl (cJ Tryz.call249 (Hy zo) ⟨(Ht rfl),trivial⟩) (ro rfl (uK (bM.cS (l:=[47]) rfl) (Ht rfl) (by simp only [List.length_cons,List.length_nil]; omega)) ?_)))))
    refine ro rfl (uK (Ht rfl) (Ht rfl) (by simp only [List.length_append,List.length_cons,List.length_nil]; omega)) ?_
    refine ra rfl (eZ (bD () trivial (aZ rfl (pJ (by rw [if_neg h9,h8]; rfl)) aX) (dM.refl _)))
   ·simp only [decide_eq_false_iff_not] at hb
    have h9:x.den = 1:=zI (bF.1 zo)
    refine cY (bD () trivial (aZ rfl (pJ (by rw [if_pos h9,List.append_nil])) aX) (dM.refl _))
  ·refine ts (rm rfl (ra rfl (eZ ?_)))
   exact fG rfl (eY rfl)
theorem Vj {x:Qi} {L:Nat} [hx:aE x L] (h:L ≤ 8796093022208):bH Tryz.prog 89 [aH x] (uR (txt x)):=by
 have hxa:=oE hx.fit; have hxb:=oF hx.fit; have hxd:=oG hx.fit; have hdp:=x.den_pos
 have l1:=Kc x.a hdp; have l2:=Kc x.b hdp
 refine bH.intro Tryz.func89 rfl Tryz.ntmps89 rfl (fun cx=>(ts (rn rfl (fK (Ht rfl)) fun B1=>(ro rfl (cX (bM.cS (l:=[]) rfl)) (eZ (cU (ts (ro rfl (eW A_51 Z_51 (Ht rfl) (i:=0) rfl rfl rfl) (ro rfl (cJ Tryz.call169 Fn ⟨(Ht rfl),trivial⟩) (eZ (dX (Ht rfl) (fun hb=>?_) (fun hb=>?_))))))))))))
 ·simp only [decide_eq_true_eq] at hb
  refine cU (fJ (m:=4) (dp 1 rfl (eJ fT (Ht rfl) rfl) (dq 6 0 rfl (eW A_49 Z_49 (Ht rfl) (i:=0) rfl rfl rfl) (dp 1 rfl (eW A_51 Z_51 (Ht rfl) (i:=0) rfl rfl rfl) (dq 8 2 rfl (cJ K_137 pQ ⟨(Ht rfl),trivial⟩) (fW bE rfl (by kernel_rfl) (zF (aV (ro rfl (cJ Tryz.call188 (Mg (by assumption) zo zo) ⟨(Ht rfl),(Ht rfl),trivial⟩) ?_)))))))))
  refine ra rfl (eZ (fG rfl (fZ (eY rfl) ?_)))
  exact (pJ (by rw [txt,if_pos hb]))
 ·simp only [decide_eq_false_iff_not] at hb
  refine cY (cU (fJ (m:=4) (dp 1 rfl (eJ gY (Ht rfl) rfl) (dq 11 0 rfl (eW A_49 Z_49 (Ht rfl) (i:=0) rfl rfl rfl) (dp 1 rfl (eW A_51 Z_51 (Ht rfl) (i:=0) rfl rfl rfl) (dq 13 2 rfl (cJ K_137 pQ ⟨(Ht rfl),trivial⟩) (fW bE rfl (by kernel_rfl) (zF (aV (ro rfl (cJ Tryz.call188 (Mg (by assumption) zo zo) ⟨(Ht rfl),(Ht rfl),trivial⟩) ?_))))))))))
  refine ro rfl (uK (Ht rfl) (bM.cS (l:=[105]) rfl) (by simp only [List.length_append,List.length_cons,List.length_nil]; omega)) ?_
  refine ra rfl (eZ (cU (ts (ro rfl (eJ fT (Ht rfl) rfl) (ro rfl (eJ eP (Ht rfl) rfl) (ro rfl (fQ A_47 Z_47 (Ht rfl) (i:=0) rfl rfl) (ro rfl (dK U_47 (Ht rfl) aA) (ro rfl (dO (Ht rfl) (cV 0)) (eZ (dX (Ht rfl) (fun hc=>?_) (fun hc=>?_)))))))))))
  ·simp only [decide_eq_true_eq] at hc
   have ha:x.a = 0:=by have:=bF.1 hc; omega
   refine ts (rm rfl (ra rfl (eZ (fG rfl (fZ (eY rfl) ?_)))))
   exact (pJ (by rw [txt,if_neg hb,if_pos ha]))
  ·simp only [decide_eq_false_iff_not] at hc
   have ha:x.a ≠ 0:=fun e=>hc (by rw [e]; exact bF.2 rfl)
   refine cY (cU (jW (fun (uu:Unit)=>True) (fun (uu:Unit)=>[(1,bT B1 0),(3,uR ((if x.b < 0 then wT x.b x.den else 43 :: wT x.b x.den) ++ [105]))]) (fun (uu:Unit)=>[box B1 51 [aD (decide ((x).a < 0)),aI (x).a.natAbs,aD (decide ((x).b < 0)),aI (x).b.natAbs,aI (du (x))]]) ?_ (fun uu _=>?_)))
   ·refine ts (ro rfl (eJ gY (Ht rfl) rfl) (ro rfl (eJ kQ (Ht rfl) rfl) (ro rfl (fQ A_4 Z_4 (Ht rfl) (i := 0) rfl rfl) (ro rfl (eN (Ht rfl)) (eZ (dX (Ht rfl) (fun hd => ?_) (fun hd => ?_)))))))
    ·have hn : ¬ x.b < 0 := by simpa using hd
     refine dQ (rm rfl (ro rfl (uK (bM.cS (l:=[43]) rfl) (Ht rfl) (by simp only [List.length_append,List.length_cons,List.length_nil]; omega)) ?_))
     refine ra rfl (eZ (bD () trivial (aQ rfl (aZ rfl (pJ (by rw [if_neg hn]; rfl)) aX)) (aU (aB rfl) aY)))
    ·have hn : x.b < 0 := by simpa using hd
     refine cY (bD () trivial (aQ rfl (aZ rfl (pJ (by rw [if_pos hn])) aX)) (aU (aB rfl) aY))
   ·have l3 : ((if x.b < 0 then wT x.b x.den else 43 :: wT x.b x.den) ++ [105]).length ≤ (wT x.b x.den).length + 2 := by split <;> simp
    refine cU (fJ (m:=6) (dp 1 rfl (eJ fT (Ht rfl) rfl) (dq 29 0 rfl (eW A_49 Z_49 (Ht rfl) (i:=0) rfl rfl rfl) (dp 1 rfl (eW A_51 Z_51 (Ht rfl) (i:=0) rfl rfl rfl) (dq 31 2 rfl (cJ K_137 pQ ⟨(Ht rfl),trivial⟩) (dR 30 1 32 3 rfl (cJ Tryz.call188 (Mg (by assumption) zo zo) ⟨(Ht rfl),(Ht rfl),trivial⟩) ?_))))))
    refine dp 3 rfl (cZ (Ht rfl)) (fW bE rfl (by kernel_rfl) (zF (aJ (aJ (aV (ro rfl (uK (Ht rfl) (Ht rfl) zo) (ra rfl (eZ (fG rfl (fZ (eY rfl) ?_))))))))))
    exact (pJ (by rw [txt,if_neg hb,if_neg ha]))
theorem Fo {r:Rt}:bH Tryz.prog 58 [Hm r] (aH r.q):=by
 have hr1:=r.h1; have hr2:=r.h2; have hr3:=r.h3; have hr4:=r.h4; have hr5:=r.d1; have hr6:=r.d2; have hr0:=r.d0
 refine bH.intro Tryz.func58 rfl Tryz.ntmps58 rfl (fun cx=>(ts (rn rfl (fK (Ht rfl)) fun B1=>(rn rfl (eG (Ts:=[Is (.bool false),Is (.slice none 0 0),Is (.bool false),Is (.slice none 0 0),Is (.slice none 0 0)]) O_51 rfl (fun V=>aW zd (aW zd (aW zd (aW zd (aW zd (aG))))))) fun B2=>(eZ (cU (jW (fun (uu:Unit)=>True) (fun (uu:Unit)=>[(1,bT B1 0),(2,bT B2 0)]) (fun (uu:Unit)=>[box B1 102 [aO .i64 r.re,aO .i64 r.im,aO .i64 r.d],box B2 51 [Is (.bool false),Is (.slice none 0 0),Is (.bool false),Is (.slice none 0 0),Is (.slice none 0 0)]]) ?_ (fun uu _=>?_))))))))
 ·refine ts (ro rfl (eJ qP (Ht rfl) rfl) (ro rfl (fQ A_2 Z_2 (Ht rfl) (i := 0) rfl rfl) (ro rfl (jH (Ht rfl) cW) (eZ (dX (Ht rfl) (fun hb => ?_) (fun hb => ?_))))))
  ·simp only [decide_eq_true_eq] at hb
   refine dQ (ro rfl (eJ qP (Ht rfl) rfl) (lO Z_2 (Ht rfl) (cV 1) (i:=0) rfl (aK rfl) rfl (eZ (bD () trivial (zS rfl) (aU (aB (by rw [Rt.d,if_pos hb]; rfl)) (aU (aB rfl) aY))))))
  ·simp only [decide_eq_false_iff_not] at hb
   refine cY (bD () trivial (zS rfl) (aU (aB (by rw [Rt.d,if_neg hb])) (aU (aB rfl) aY)))
 ·refine ts (ro rfl (eJ Iu (Ht rfl) rfl) (ro rfl (fQ A_2 Z_2 (Ht rfl) (i := 0) rfl rfl) (ro rfl (eJ Iv (Ht rfl) rfl) (ro rfl (fQ A_2 Z_2 (Ht rfl) (i := 0) rfl rfl) (ro rfl (eJ qP (Ht rfl) rfl) (ro rfl (fQ A_2 Z_2 (Ht rfl) (i := 0) rfl rfl) (ro rfl (cJ Tryz.call141 (a2k hr1 hr2 hr3 hr4 hr5 hr6 hr0) ⟨(Ht rfl), (Ht rfl), (Ht rfl), trivial⟩) (rm rfl (ro rfl (dU (Ht rfl) rfl) (ro rfl (dU (Ht rfl) rfl) (rn rfl (eG (Ts := [Is (.bool false), Is (.slice none 0 0), Is (.bool false), Is (.slice none 0 0), Is (.slice none 0 0)]) O_51 rfl (fun V => aW zd (aW zd (aW zd (aW zd (aW zd (aG))))))) fun B3 => ?_)))))))))))
  refine gX Z_51 (Ht rfl) (Ht rfl) rfl (i:=2) rfl (aK rfl) rfl rfl (ra rfl (eZ (ts (ro rfl (eW A_51 Z_51 (Ht rfl) (i:=2) rfl rfl rfl) (gX Z_51 (Ht rfl) (Ht rfl) rfl (i:=1) rfl (aK rfl) rfl rfl (eZ ?_))))))
  exact fG rfl (fU A_51 Z_51 rfl (i:=1) rfl rfl)
theorem tW {l:List Rt} (hl:l.length ≤ 1000000):bH Tryz.prog 48 [pP l] (aR (l.map Rt.q)):=by
 refine bH.intro Tryz.func48 rfl Tryz.ntmps48 rfl (fun cx=>(ts (ro rfl (cX cW) (eZ (ts (rm rfl (ro rfl (dK U_22 (Ht rfl) aA) (rn rfl (lV (T:=aH Qi.zero) (i:=Tryz.t51) lR jO rfl rfl (Ht rfl) rfl jQ (El.ag rfl) (by show 88 * _ ≤ _; omega) zo) fun B8=>(ra rfl (eZ (cU (ts (rm rfl (ro rfl (dK U_22 (Ht rfl) aA) (ro rfl (cZ (cV 0)) (eZ (eK ?_)))))))))))))))))
 refine fS (fun (k : Nat) (out : List Qi) => nM (fun i => (l.getD i default).q) l.length out k) (fun (k : Nat) (out : List Qi) => l.length - k) (fun (k : Nat) (out : List Qi) => [(3, Is B8), (9, pP l), (10, NT .i64 l.length), (11, NT .i64 k)]) (fun (k : Nat) (out : List Qi) => [cC 51 5 B8 (out.map aH)]) 0 (List.replicate l.length Qi.zero) (nM.start _ _ _)
  (zS rfl) (aU (bR (tM aH _ _)) aY) (fun k out hS=>?_)
 refine ts (ro rfl (gZ (Ht rfl) (Ht rfl)) (eZ (cU (dX (Ht rfl) (fun hk=>?_) (fun hk=>?_)))))
 ·simp only [decide_eq_true_eq] at hk
  have hlen:=hS.len
  refine cY (cU (eK (ts (rm rfl (ro rfl (dJ U_22 Z_102 (Ht rfl) (Ht rfl) rfl (eQ (dY (d:=default) hk))) (ro rfl (dV A_102 Z_102 (Ht rfl)) (rn rfl (eG (Ts:=[Is (.int .i64 0),Is (.int .i64 0),Is (.int .i64 0)]) O_102 rfl (fun V=>aW zd (aW zd (aW zd (aG))))) fun B5=>(ra rfl (gX Z_102 (Ht rfl) (Ht rfl) rfl (i:=1) rfl (aK rfl) rfl rfl (eZ (dQ (rm rfl (rm rfl (ro rfl (eW A_102 Z_102 (Ht rfl) (i:=1) rfl rfl rfl) ?_))))))))))))))
  refine ro rfl (cJ Tryz.call58 Fo ⟨(Ht rfl),trivial⟩) (ro rfl (dP U_29 Z_51 (Ht rfl) (Ht rfl) rfl (i:=0) rfl (by first | omega | (simp; omega)) rfl) (nO Z_51 (Ht rfl) (Ht rfl) (El.ag rfl) (i:=0) rfl rfl (by first | omega | (simp; omega)) rfl (eZ (bO (dQ (ro rfl (dW (Ht rfl) (cV 1) z6) (rm rfl (eZ (cD [0] rfl (by decide) (fY (k + 1,_) (hS.next hk rfl) (by dsimp only; omega) (zS rfl) (aU (bR (fO aH _ _ _)) aY)))))))))))
 ·simp only [decide_eq_false_iff_not] at hk
  obtain rfl:k = l.length:=Nat.le_antisymm hS.kle zo
  have hfin:=hS.fin
  rw [Cn l Rt.q] at hfin
  refine gW rfl (gV (i:=0) (tt:=3) rfl rfl iW (ts (rm rfl (ra rfl (eZ (fG rfl (fZ (eY rfl) ?_)))))))
  exact (kY (by rw [hfin]))
end
section
open Go Go.RowKit
theorem tX (ds:List Nat) (hd:kB ds) (hl:ds.length ≤ 1152921504606846976):bH Tryz.prog 267 [vF ds] (aI (val ds)):=by
 refine bH.intro Tryz.func267 rfl Tryz.ntmps267 rfl (fun cx=>(ts (ro rfl (cX cW) (eZ (ts (rm rfl (ro rfl (dK U_46 (Ht rfl) aA) (ra rfl (eZ (cU (eK ?_)))))))))))
 refine cF (fun (k : Nat) => k ≤ ds.length ∧ ∀ i, k ≤ i → i < ds.length → ds.getD i 0 = 0) (fun (k : Nat) => k) (fun (k : Nat) => [(0, vF ds), (3, NT .i64 k)]) (fun (k : Nat) => []) ds.length ⟨Nat.le_refl _, fun i h1 h2 => by omega⟩
  (zS rfl) aY (fun k ⟨hk,hz⟩=>?_)
 refine cU (ts (rm rfl (ro rfl (eL (Ht rfl) (cV 0)) (rm rfl (fX rfl rfl (eU rfl rfl (Ht rfl) (fun h=>cZ (Ht rfl))) (fX rfl rfl (eU rfl rfl (Ht rfl) (fun h=>cZ (Ht rfl))) (fX rfl rfl (eU rfl rfl (Ht rfl) (fun h=>dG (fV rfl h) (cV 1) (by first | omega | (simp at h; omega)) (by show _ < 9223372036854775808; first | omega | (simp at h; omega)))) (fX rfl rfl (eU rfl rfl (Ht rfl) (fun h=>dJ U_46 Z_189 (fV rfl h) (fV rfl h) rfl (eQ (aP (by first | omega | (simp at h; omega)))))) ?_))))))))
 refine fX rfl rfl (eU rfl rfl (Ht rfl) (fun h=>dV A_189 Z_189 (fV rfl h))) (fX rfl rfl (eU rfl rfl (Ht rfl) (fun h=>dO (fV rfl h) (cV 0))) (ro rfl (fM (Ht rfl) (fun h=>(fV rfl h))) (eZ (dX (Ht rfl) (fun hb=>?_) (fun hb=>?_)))))
 ·simp at hb
  refine cY (eK (dQ (rm rfl (ro rfl (dG (Ht rfl) (cV 1) zo z6) (ra rfl (eZ (bO (fY (k - 1) ⟨by omega,fun i h1 h2=>?_⟩ zo (zS rfl) aY))))))))
  by_cases e2:i = k - 1
  ·subst e2; simpa using hb.2
  ·exact hz i zo h2
 ·have hn : k = 0 ∨ ds.getD (k - 1) 0 ≠ 0 := by
   simp only [Bool.and_eq_false_iff,decide_eq_false_iff_not] at hb
   rcases hb with h1 | h1
   ·left; omega
   ·right; exact h1
  have hfin:=Pd hd hk hz hn
  refine gW rfl (ts (rm rfl (rm rfl (ro rfl (qX U_46 Z_189 (Ht rfl) (Ht rfl) (fun m e=>by cases e) zo (by simp; omega) rfl) ?_))))
  refine ra rfl (eZ (fG rfl (fZ (eY rfl) ?_)))
  exact (Ir (by rw [hfin]; simp))
theorem Aw {m:Nat} (hm:m < 18446744073709551616):bH Tryz.prog 268 [NT .u64 m] (aI m):=by
 refine bH.intro Tryz.func268 rfl Tryz.ntmps268 rfl (fun cx=>(ts (ro rfl (cX cW) (eZ (ts (rm rfl (ro rfl (gF rfl U_254 U_189 (Ht rfl)) (rm rfl (ro rfl (fA (Ht rfl) (cV 32) (by decide)) (ro rfl (gF rfl U_254 U_189 (Ht rfl)) (ro rfl (cR (xs:=[.tmp 4,.tmp 7]) U_46 Z_189 O_189 (cG (Ht rfl) (cG (Ht rfl) cK)) rfl rfl rfl) (ro rfl (cJ K_267 (tX [m % 4294967296,m / 2 ^ 32 % 4294967296] (a56 _ _) (by simp)) ⟨(Ht rfl),trivial⟩) ?_))))))))))))
 refine ra rfl (eZ (fG rfl (fZ (eY rfl) ?_)))
 exact (dL (Eh hm))
theorem Rv {m n:Nat} (hm:(dg m).length ≤ 1152921504606846976) (hn:(dg n).length ≤ 1152921504606846976):bH Tryz.prog 237 [aI m,aI n] (aO .i64 (qC m n)):=by
 refine bH.intro Tryz.func237 rfl Tryz.ntmps237 rfl (fun cx=>(ts (ro rfl (cX (cV 0)) (eZ (cU (ts (rm rfl (ro rfl (dK U_46 (Ht rfl) aA) (rm rfl (ro rfl (dK U_46 (Ht rfl) aA) (ro rfl (gB (Ht rfl) (Ht rfl)) (eZ (dX (Ht rfl) (fun hb=>?_) (fun hb=>?_))))))))))))))
 ·simp at hb
  refine cU (ts (rm rfl (ro rfl (dK U_46 (Ht rfl) aA) (rm rfl (ro rfl (dK U_46 (Ht rfl) aA) (ro rfl (gZ (Ht rfl) (Ht rfl)) (eZ (dX (Ht rfl) (fun hb2=>?_) (fun hb2=>?_)))))))))
  ·simp at hb2
   have hlt:=Fv hb2
   refine ts (ro rfl (cX cW) (eZ (fG rfl (fZ (eY rfl) ?_))))
   exact (aS (by simp [qC,hlt]))
  ·simp at hb2
   have hlt:=Fv (a:=n) (b:=m) zo
   refine cY (ts (ro rfl (cX (cV 1)) (eZ (fG rfl (fZ (eY rfl) ?_)))))
   exact (aS (by simp [qC,hlt,Nat.lt_asymm hlt]))
 ·simp at hb
  refine cY (cU (ts (rm rfl (ro rfl (dK U_46 (Ht rfl) aA) (ro rfl (iK (Ht rfl) cW (Db zo)) (ra rfl (eZ (eK ?_))))))))
  refine cF (fun (k : Nat) => k ≤ (dg m).length ∧ ∀ i, k ≤ i → i < (dg m).length → (dg m).getD i 0 = (dg n).getD i 0) (fun (k : Nat) => k) (fun (k : Nat) => [(0, aI m), (1, aI n), (5, aO .i64 ((k : Int) - 1))]) (fun (k : Nat) => []) (dg m).length ⟨Nat.le_refl _, fun i h1 h2 => by omega⟩
   (zS rfl) aY (fun k ⟨hk,he⟩=>?_)
  refine cU (ts (rm rfl (ro rfl (lQ (Ht rfl) cW) (eZ (dX (Ht rfl) (fun hk1=>?_) (fun hk1=>?_))))))
  ·simp at hk1
   refine cY (cU (eK (cU (fJ (m:=8) (dp 0 rfl (cZ (Ht rfl)) (dp 5 rfl (cZ (Ht rfl)) (dR 23 0 24 1 rfl (dJ U_46 Z_189 (Ht rfl) (Ht rfl) (show ((k:Int) - 1) = ((k - 1:Nat):Int) by omega) (eQ (aP zo))) (dq 25 2 rfl (dV A_189 Z_189 (Ht rfl)) (dp 1 rfl (cZ (Ht rfl)) (dp 5 rfl (cZ (Ht rfl)) (dR 27 4 28 5 rfl (dJ U_46 Z_189 (Ht rfl) (Ht rfl) (show ((k:Int) - 1) = ((k - 1:Nat):Int) by omega) (eQ (aP zo))) (dq 29 6 rfl (dV A_189 Z_189 (Ht rfl)) ?_))))))))))))
   refine fW bE rfl (by kernel_rfl) (zF (zF (aV (ro rfl (gB (Ht rfl) (Ht rfl)) (eZ (dX (Ht rfl) (fun h1=>?_) (fun h1=>?_)))))))
   ·simp only [Bool.not_eq_true', decide_eq_false_iff_not] at h1
    refine cU (cU (fJ (m:=8) (dp 0 rfl (cZ (Ht rfl)) (dp 5 rfl (cZ (Ht rfl)) (dR 32 0 33 1 rfl (dJ U_46 Z_189 (Ht rfl) (Ht rfl) (show ((k:Int) - 1) = ((k - 1:Nat):Int) by omega) (eQ (aP zo))) (dq 34 2 rfl (dV A_189 Z_189 (Ht rfl)) (dp 1 rfl (cZ (Ht rfl)) (dp 5 rfl (cZ (Ht rfl)) (dR 36 4 37 5 rfl (dJ U_46 Z_189 (Ht rfl) (Ht rfl) (show ((k:Int) - 1) = ((k - 1:Nat):Int) by omega) (eQ (aP zo))) (dq 38 6 rfl (dV A_189 Z_189 (Ht rfl)) ?_))))))))))
    refine fW bE rfl (by kernel_rfl) (zF (zF (aV (ro rfl (gZ (Ht rfl) (Ht rfl)) (eZ (dX (Ht rfl) (fun h2=>?_) (fun h2=>?_)))))))
    ·simp only [decide_eq_true_eq] at h2
     have hlt:=zD (cA m) (cA n) hb (k:=k - 1) zo (fun i h2 h3=>he i zo h3) h2
     rw [dF,dF] at hlt
     refine ts (ro rfl (cX cW) (eZ (fG rfl (fZ (eY rfl) ?_))))
     exact (aS (by simp [qC,hlt]))
    ·simp only [decide_eq_false_iff_not] at h2
     have hlt:=zD (cA n) (cA m) hb.symm (k:=k - 1) zo (fun i h2 h3=>(he i zo zo).symm) zo
     rw [dF,dF] at hlt
     refine cY (ts (ro rfl (cX (cV 1)) (eZ (fG rfl (fZ (eY rfl) ?_)))))
     exact (aS (by simp [qC,hlt,Nat.lt_asymm hlt]))
   ·simp only [Bool.not_eq_false', decide_eq_true_eq] at h1
    refine cY (bO (dQ (rm rfl (ro rfl (iK (Ht rfl) cW (Db zo)) (ra rfl (eZ (fY (k - 1) ⟨by omega,fun i h3 h4=>(by by_cases e:i = k - 1; (· subst e; omega); exact he i zo h4)⟩ zo (aQ rfl (aQ rfl (aZ rfl (aS zo) aX))) aY)))))))
  ·simp at hk1
   have hk0:k = 0:=by omega
   have heq : m = n := by
    have : dg m = dg n := by
     apply List.ext_getElem?
     intro i
     by_cases hi:i < (dg m).length
     ·have h5 := he i zo hi
      have h6:i < (dg n).length:=by omega
      simp [List.getD,hi,h6] at h5
      simp [hi,h6,h5]
     ·rw [List.getElem?_eq_none zo,List.getElem?_eq_none zo]
    rw [← dF m,this,dF]
   refine gW rfl (ts (ro rfl (cX (cV 0)) (eZ (fG rfl (fZ (eY rfl) ?_)))))
   exact (aS (by simp [qC,heq]))
theorem Vr {m y:Nat} (hm:(dg m).length ≤ 17592186044416) (hy:0 < y) (hyb:y < BB):bH Tryz.prog 281 [aI m,cH y] (fI [aI (m / y),cH (m % y)]):=by
 refine bH.intro Tryz.func281 rfl Tryz.ntmps281 rfl (fun cx=>?_)
 have hyb2:=hyb
 simp only [BB] at hyb2
 refine ts (ro rfl (cX cW) (ro rfl (cX (cV 0)) (eZ (ts (rm rfl (ro rfl (dK U_46 (Ht rfl) aA) (rn rfl (eM (T:=cH 0) (i:=Tryz.t189) V_46 jF rfl rfl (Ht rfl) rfl (fun _=>rfl) trivial (by show 4 * _ ≤ _; omega) zo) fun B12=>(ra rfl (eZ (ts (ro rfl (cX (cV 0)) (eZ (cU (ts (rm rfl (ro rfl (dK U_46 (Ht rfl) aA) (ro rfl (iK (Ht rfl) cW (Db zo)) (ra rfl (eZ (eK ?_))))))))))))))))))))
 refine kD (fun (k : Nat) (out : List Nat) (r : Nat) => oX (dg m) y out k r) (fun (k : Nat) (out : List Nat) (r : Nat) => k) (fun (k : Nat) (out : List Nat) (r : Nat) => [(0, aI m), (1, cH y), (6, Is (.slice (some ⟨B12, 0, none⟩) (dg m).length (dg m).length)), (7, NT .u64 r), (8, aO .i64 ((k : Int) - 1))]) (fun (k : Nat) (out : List Nat) (r : Nat) => [box B12 189 (out.map cH)]) (dg m).length (List.replicate (dg m).length 0) 0 (oX.start _ hy)
  (zS rfl) (aU (aB (mM _)) aY) (fun k out r hS=>?_)
 refine cU (ts (rm rfl (ro rfl (lQ (Ht rfl) cW) (eZ (dX (Ht rfl) (fun hb=>?_) (fun hb=>?_))))))
 ·simp at hb
  have hlen:=hS.len; have hkl:=hS.kle; have hrl:=hS.rlt; have hxk:=bI (cA m) (k - 1)
  have hz2:=Zw (Nat.lt_trans hrl hyb) hxk; have hsh:=Kr (Nat.lt_trans hrl hyb); have hq:=Ev hrl hxk; have hor:=vN (a:=r) hxk; have hmod:=Nat.mod_lt (r * BB + (dg m).getD (k - 1) 0) hy
  have hxk2:=hxk
  simp only [BB] at hxk2
  refine cY (cU (eK (ts (rm rfl (ro rfl (nI (Ht rfl) (cV 32) (by decide) hsh) (rm rfl (rm rfl (ro rfl (dJ U_46 Z_189 (Ht rfl) (Ht rfl) (show ((k:Int) - 1) = ((k - 1:Nat):Int) by omega) (eQ (aP zo))) (ro rfl (dV A_189 Z_189 (Ht rfl)) (ro rfl (gJ U_189 U_254 (Ht rfl) z7) (ro rfl (aM.nat (pG rfl (Ht rfl) (Ht rfl) z7 z7) hor) ?_)))))))))))
  refine ra rfl (eZ (ts (rm rfl (rm rfl (rm rfl (rm rfl (ro rfl (gJ U_189 U_254 (Ht rfl) z7) (ro rfl (jB (Ht rfl) (Ht rfl) zo (by show _ < 18446744073709551616; exact hz2)) (ro rfl (gJ U_254 U_189 (Ht rfl) (by show _ < 4294967296; exact hq)) (ro rfl (gQ U_46 Z_189 (Ht rfl) (Ht rfl) (show ((k:Int) - 1) = ((k - 1:Nat):Int) by omega) zo (by rw [Nat.mul_one,Nat.zero_add])) ?_))))))))))
  refine lO Z_189 (Ht rfl) (Ht rfl) (i:=0) rfl (by first | omega | (simp; omega)) rfl (eZ (dQ (rm rfl (rm rfl (ro rfl (gJ U_189 U_254 (Ht rfl) z7) (ro rfl (oQ (Ht rfl) (Ht rfl) zo) (ra rfl (eZ (bO (dQ (rm rfl (ro rfl (iK (Ht rfl) cW (Db zo)) (ra rfl (eZ (fY (k - 1,_,_) (hS.next (cA m) zo rfl) (by dsimp only; omega) (aQ rfl (aQ rfl (aQ rfl (aQ rfl (aZ rfl (aS zo) aX))))) (aU (aB (gC _ _ _)) aY))))))))))))))))
 ·simp at hb
  have hk0:k = 0:=by omega
  subst hk0
  have hlen:=hS.len; have hrl:=hS.rlt
  have hfin:=hS.fin
  rw [dF] at hfin
  refine gW rfl (gV (i:=0) (tt:=6) rfl rfl (mU rfl hlen.symm (Nat.le_refl _)) (ts (rm rfl (ro rfl (cJ K_267 (tX _ hS.dig zo) ⟨(Ht rfl),trivial⟩) (rm rfl (ro rfl (gJ U_254 U_189 (Ht rfl) (by show _ < 4294967296; first | omega | (simp only [mB]; omega))) (ra rfl (ra rfl (eZ (bN rfl (fZ (eY rfl) ?_) (fZ (eY rfl) ?_)))))))))))
  ·exact (dL hfin.1)
  ·exact (kU hfin.2)
end
section
open Go Go.RowKit
theorem a0w {m:Nat} (hm:(dg m).length ≤ 17592186044416) (h0:m ≠ 0):bH Tryz.prog 282 [aI m] (NT .i64 (32 * ((dg m).length - 1) + bl ((dg m).getD ((dg m).length - 1) 0))):=by
 have hl:(dg m).length ≠ 0:=fun e=>h0 (bF.1 e)
 have htl:=bI (cA m) ((dg m).length - 1)
 obtain ⟨v,hv⟩:∃ v,v = (dg m).getD ((dg m).length - 1) 0:=⟨_,rfl⟩
 rw [← hv] at htl ⊢
 simp only [BB] at htl
 have hb32:=nP (k:=32) htl
 refine bH.intro Tryz.func282 rfl Tryz.ntmps282 rfl (fun cx=>(ts (ro rfl (cX (cV 0)) (eZ (cU (ts (rm rfl (ro rfl (dK U_46 (Ht rfl) aA) (ro rfl (dO (Ht rfl) (cV 0)) (eZ (nF (Ht rfl) (by simpa using hl) ?_)))))))))))
 refine cY (ts (ro rfl (cX (cV 0)) (eZ (cU (ts (rm rfl (rm rfl (ro rfl (dK U_46 (Ht rfl) aA) (ro rfl (dG (Ht rfl) (cV 1) zo z6) (ro rfl (dJ U_46 Z_189 (Ht rfl) (Ht rfl) rfl (eQ (aP zo))) (ro rfl (dV A_189 Z_189 (Ht rfl)) (ra rfl (eZ (eK ?_))))))))))))))
 refine fS (fun (x : Nat) (q : Nat) => bl v = q + bl x ∧ x < 4294967296) (fun (x : Nat) (q : Nat) => x) (fun (x : Nat) (q : Nat) => [(0, aI m), (3, NT .i64 q), (4, cH x)]) (fun (x : Nat) (q : Nat) => []) v 0 ⟨(Nat.zero_add _).symm, htl⟩
  (aQ rfl (aQ rfl (aZ rfl (kU hv.symm) aX))) aY (fun x q ⟨hq,hx⟩=>?_)
 refine cU (ts (rm rfl (ro rfl (eL (Ht rfl) (cV 0)) (eZ (dX (Ht rfl) (fun hb=>?_) (fun hb=>?_))))))
 ·simp at hb
  have hsh:=a0e (v:=x) zo
  refine cY (cU (eK (dQ (rm rfl (ro rfl (dW (Ht rfl) (cV 1) z6) (ra rfl (eZ (bO (dQ (rm rfl (ro rfl (fA (Ht rfl) (cV 1) (by decide)) (ra rfl (eZ (fY (x / 2 ^ 1,q + 1) ⟨by dsimp only; omega,by dsimp only; omega⟩ (by dsimp only; omega) (zS rfl) aY))))))))))))))
 ·simp at hb
  subst hb
  rw [a0f] at hq
  refine gW rfl (ts (rm rfl (ro rfl (dK U_46 (Ht rfl) aA) (ro rfl (dG (Ht rfl) (cV 1) zo z6) (ro rfl (lL (cV 32) (Ht rfl) z6) (rm rfl (ro rfl (dW (Ht rfl) (Ht rfl) z6) (ra rfl (eZ (fG rfl (fZ (eY rfl) ?_)))))))))))
  exact (kU zo)
theorem Vt {m k:Nat} (hm:(dg m).length ≤ 17592186044416) (hk:k ≤ 562949953421312):bH Tryz.prog 283 [aI m,NT .i64 k] (aI (m * 2 ^ k)):=by
 refine bH.intro Tryz.func283 rfl Tryz.ntmps283 rfl (fun cx=>(ts (ro rfl (cX cW) (eZ (cU (ts (rm rfl (ro rfl (dK U_46 (Ht rfl) aA) (ro rfl (dO (Ht rfl) (cV 0)) (eZ (dX (Ht rfl) (fun hb=>?_) (fun hb=>?_))))))))))))
 ·simp [bF] at hb
  have h0:m * 2 ^ k = 0:=by simp_all [uB]
  refine ts (ro rfl (cX cW) (eZ (fG rfl (fZ (eY rfl) ?_))))
  exact (fun v V h=>by rw [h0]; exact kN v V h)
 ·clear hb
  have hr:=Nat.mod_lt k (by decide:32 > 0)
  refine cY (ts (rm rfl (ro rfl (dK U_46 (Ht rfl) aA) (rm rfl (ro rfl (jB (Ht rfl) (cV 32) zo z6) (ro rfl (dW (Ht rfl) (Ht rfl) z6) (ro rfl (dW (Ht rfl) (cV 1) z6) (rn rfl (eM (T:=cH 0) (i:=Tryz.t189) V_46 jF rfl rfl (Ht rfl) rfl (fun _=>rfl) trivial (by show 4 * _ ≤ _; omega) zo) fun B17=>?_))))))))
  refine ra rfl (eZ (cU (ts (ro rfl (cX (cV 0)) (eZ (eK ?_))))))
  refine fS (fun (i : Nat) (out : List Nat) => Am (dg m) (k / 32) (k % 32) out i) (fun (i : Nat) (out : List Nat) => (dg m).length - i) (fun (i : Nat) (out : List Nat) => [(0, aI m), (1, NT .i64 k), (5, Is (.slice (some ⟨B17, 0, none⟩) ((dg m).length + k / 32 + 1) ((dg m).length + k / 32 + 1))), (6, NT .i64 i)]) (fun (i : Nat) (out : List Nat) => [box B17 189 (out.map cH)]) 0 (List.replicate ((dg m).length + k / 32 + 1) 0) (Am.start _ _ _)
   (zS rfl) (aU (aB (mM _)) aY) (fun i out hS=>?_)
  refine cU (ts (rm rfl (rm rfl (ro rfl (dK U_46 (Ht rfl) aA) (ro rfl (gZ (Ht rfl) (Ht rfl)) (eZ (dX (Ht rfl) (fun hb=>?_) (fun hb=>?_))))))))
  ·simp at hb
   have hlen:=hS.len; have hxi:=bI (cA m) i; have hok:=bI hS.dig (i + k / 32)
   have hv:=Eu hxi hr
   have hd:(dg m).getD i 0 * 2 ^ (k % 32) / 2 ^ 32 < 4294967296:=Nat.div_lt_of_lt_mul hv
   simp only [BB] at hxi hok
   refine cY (cU (eK (ts (rm rfl (rm rfl (ro rfl (dJ U_46 Z_189 (Ht rfl) (Ht rfl) rfl (eQ (aP zo))) (ro rfl (dV A_189 Z_189 (Ht rfl)) (ro rfl (gJ U_189 U_254 (Ht rfl) z7) (rm rfl (ro rfl (oQ (Ht rfl) (cV 32) zo) (ro rfl (gJ U_3 U_255 (Ht rfl) z7) (ro rfl (nI (Ht rfl) (Ht rfl) (by show _ ≤ _; simp [IntKind.bits]; omega) (by show _ < 18446744073709551616; exact hv)) ?_))))))))))))
   refine ra rfl (eZ (ts (rm rfl (rm rfl (rm rfl (ro rfl (jB (Ht rfl) (cV 32) zo z6) (ro rfl (dW (Ht rfl) (Ht rfl) z6) (rm rfl (rm rfl (rm rfl (ro rfl (jB (Ht rfl) (cV 32) zo z6) (ro rfl (dW (Ht rfl) (Ht rfl) z6) (ro rfl (gQ U_46 Z_189 (Ht rfl) (Ht rfl) rfl zo (by rw [Nat.mul_one,Nat.zero_add])) ?_)))))))))))))
   refine ro rfl (fQ A_189 Z_189 (Ht rfl) (i:=0) rfl (eQ (aP zo))) (rm rfl (ro rfl (gF rfl U_254 U_189 (Ht rfl)) (ro rfl (pG rfl (Ht rfl) (Ht rfl) (by show _ < 4294967296; omega) (by show _ % 4294967296 < 4294967296; omega)) (ro rfl (gQ U_46 Z_189 (Ht rfl) (Ht rfl) rfl zo (by rw [Nat.mul_one,Nat.zero_add])) ?_))))
   refine lO Z_189 (Ht rfl) (Ht rfl) (i:=0) rfl (by first | omega | (simp; omega)) rfl (eZ (dQ (rm rfl (rm rfl (rm rfl (ro rfl (jB (Ht rfl) (cV 32) zo z6) (ro rfl (dW (Ht rfl) (Ht rfl) z6) (ro rfl (dW (Ht rfl) (cV 1) z6) (rm rfl (ro rfl (fA (Ht rfl) (cV 32) (by decide)) (ro rfl (gJ U_254 U_189 (Ht rfl) (by show _ < 4294967296; exact hd)) ?_)))))))))))
   refine ro rfl (gQ U_46 Z_189 (Ht rfl) (Ht rfl) rfl zo (by rw [Nat.mul_one,Nat.zero_add])) ?_
   refine lO Z_189 (Ht rfl) (Ht rfl) (i:=0) rfl (by first | omega | (simp; omega)) rfl (eZ (bO (dQ (rm rfl (ro rfl (dW (Ht rfl) (cV 1) z6) (ra rfl (eZ (fY (i + 1,_) (hS.next (cA m) hr hb rfl rfl) (by dsimp only; omega) (zS rfl) (aU (aB (Kp _ _ _ _ _)) aY)))))))))
  ·simp at hb
   have hkl:i = (dg m).length:=Nat.le_antisymm hS.kle hb
   subst hkl
   have hlen:=hS.len
   have hfin:=hS.fin
   rw [dF,lX] at hfin
   refine gW rfl (gV (i:=0) (tt:=5) rfl rfl (mU rfl hlen.symm (Nat.le_refl _)) (ts (rm rfl (ro rfl (cJ K_267 (tX _ hS.dig zo) ⟨(Ht rfl),trivial⟩) (ra rfl (eZ (fG rfl (fZ (eY rfl) ?_))))))))
   exact (dL hfin)
theorem a3j {m k:Nat} (hm:(dg m).length ≤ 17592186044416) (hk:k ≤ 562949953421312):bH Tryz.prog 284 [aI m,NT .i64 k] (aI (m / 2 ^ k)):=by
 refine bH.intro Tryz.func284 rfl Tryz.ntmps284 rfl (fun cx=>?_)
 have hr:=Nat.mod_lt k (by decide:32 > 0)
 refine ts (ro rfl (cX cW) (eZ (cU (ts (rm rfl (ro rfl (jB (Ht rfl) (cV 32) zo z6) (rm rfl (ro rfl (dK U_46 (Ht rfl) aA) (ro rfl (pY (Ht rfl) (Ht rfl)) (eZ (dX (Ht rfl) (fun hb=>?_) (fun hb=>?_))))))))))))
 ·simp at hb
  have h0:=Kt (cA m) hb (r:=k % 32)
  rw [dF,lX] at h0
  refine ts (ro rfl (cX cW) (eZ (fG rfl (fZ (eY rfl) ?_))))
  exact (fun v V h=>dL h0.symm v V (kN v V h))
 ·simp at hb
  refine cY (ts (rm rfl (ro rfl (dK U_46 (Ht rfl) aA) (rm rfl (ro rfl (jB (Ht rfl) (cV 32) zo z6) (ro rfl (dG (Ht rfl) (Ht rfl) zo z6) (rn rfl (eM (T:=cH 0) (i:=Tryz.t189) V_46 jF rfl rfl (Ht rfl) rfl (fun _=>rfl) trivial (by show 4 * _ ≤ _; omega) zo) fun B18=>(ra rfl (eZ (cU (ts (ro rfl (cX (cV 0)) (eZ (eK ?_))))))))))))))
  refine fS (fun (i : Nat) (out : List Nat) => An (dg m) (k / 32) (k % 32) out i) (fun (i : Nat) (out : List Nat) => (dg m).length - i) (fun (i : Nat) (out : List Nat) => [(0, aI m), (1, NT .i64 k), (5, Is (.slice (some ⟨B18, 0, none⟩) ((dg m).length - k / 32) ((dg m).length - k / 32))), (6, NT .i64 i)]) (fun (i : Nat) (out : List Nat) => [box B18 189 (out.map cH)]) 0 (List.replicate ((dg m).length - k / 32) 0) (An.start _ _ _)
   (zS rfl) (aU (aB (mM _)) aY) (fun i out hS=>?_)
  refine cU (ts (rm rfl (rm rfl (ro rfl (gA U_46 (Ht rfl)) (ro rfl (gZ (Ht rfl) (Ht rfl)) (eZ (dX (Ht rfl) (fun hb=>?_) (fun hb=>?_))))))))
  ·simp at hb
   have hlen:=hS.len; have hx0:=bI (cA m) (i + k / 32); have hx1:=bI (cA m) (i + k / 32 + 1)
   have hio:i < out.length:=by omega
   simp only [BB] at hx0 hx1
   refine cY (cU (eK (ts (rm rfl (rm rfl (rm rfl (ro rfl (jB (Ht rfl) (cV 32) zo z6) (ro rfl (dW (Ht rfl) (Ht rfl) z6) (ro rfl (dJ U_46 Z_189 (Ht rfl) (Ht rfl) rfl (eQ (aP zo))) (ro rfl (dV A_189 Z_189 (Ht rfl)) (ro rfl (gJ U_189 U_254 (Ht rfl) z7) ?_)))))))))))
   refine ra rfl (eZ (cU (jW (fun (v:Nat)=>v = (dg m).getD (i + k / 32) 0 + BB * (dg m).getD (i + k / 32 + 1) 0) (fun (v:Nat)=>[(0,aI m),(1,NT .i64 k),(5,Is (.slice (some ⟨B18,0,none⟩) ((dg m).length - k / 32) ((dg m).length - k / 32))),(6,NT .i64 i),(7,NT .u64 v)]) (fun (v:Nat)=>[box B18 189 (out.map cH)]) ?_ (fun v hv=>?_))))
   ·refine ts (rm rfl (rm rfl (ro rfl (jB (Ht rfl) (cV 32) zo z6) (ro rfl (dW (Ht rfl) (Ht rfl) z6) (ro rfl (dW (Ht rfl) (cV 1) z6) (rm rfl (ro rfl (dK U_46 (Ht rfl) aA) (ro rfl (gZ (Ht rfl) (Ht rfl)) (eZ (dX (Ht rfl) (fun hk2 => ?_) (fun hk2 => ?_)))))))))))
    ·simp at hk2
     refine dQ (rm rfl (rm rfl (rm rfl (rm rfl (ro rfl (jB (Ht rfl) (cV 32) zo z6) (ro rfl (dW (Ht rfl) (Ht rfl) z6) (ro rfl (dW (Ht rfl) (cV 1) z6) (ro rfl (dJ U_46 Z_189 (Ht rfl) (Ht rfl) rfl (eQ (aP zo))) (ro rfl (dV A_189 Z_189 (Ht rfl)) (ro rfl (gJ U_189 U_254 (Ht rfl) z7) ?_))))))))))
     refine ro rfl (nI (Ht rfl) (cV 32) (by decide) (by show _ < 18446744073709551616; omega)) (ro rfl (aM.nat (pG rfl (Ht rfl) (Ht rfl) z7 z7) (Qq hx0)) (ra rfl (eZ (bD ((dg m).getD (i + k / 32) 0 + BB * (dg m).getD (i + k / 32 + 1) 0) rfl (zS rfl) (dM.refl _)))))
    ·simp at hk2
     refine cY (bD ((dg m).getD (i + k / 32) 0) (by simp [List.getD,List.getElem?_eq_none hk2]) (zS rfl) (dM.refl _))
   ·refine dQ (rm rfl (rm rfl (rm rfl (rm rfl (ro rfl (oQ (Ht rfl) (cV 32) zo) (ro rfl (gJ U_3 U_255 (Ht rfl) z7) (ro rfl (fA (Ht rfl) (Ht rfl) (by show _ ≤ 64; omega)) (ro rfl (gF rfl U_254 U_189 (Ht rfl)) (ro rfl (gQ U_46 Z_189 (Ht rfl) (Ht rfl) rfl zo (by rw [Nat.mul_one, Nat.zero_add])) ?_)))))))))
    refine lO Z_189 (Ht rfl) (Ht rfl) (i:=0) rfl (by first | omega | (simp; omega)) rfl (eZ (bO (dQ (rm rfl (ro rfl (dW (Ht rfl) (cV 1) z6) (ra rfl (eZ (fY (i + 1,_) (hS.next (cA m) hr hio (by rw [hv]; rfl)) (by dsimp only; omega) (zS rfl) (aU (aB (gC _ _ _)) aY)))))))))
  ·simp at hb
   have hlen:=hS.len
   have hkl:i = out.length:=Nat.le_antisymm hS.kle zo
   subst hkl
   have hfin:=hS.fin (cA m) zo
   rw [dF,lX] at hfin
   refine gW rfl (gV (i:=0) (tt:=5) rfl rfl (mU rfl hlen.symm (Nat.le_refl _)) (ts (rm rfl (ro rfl (cJ K_267 (tX _ hS.dig zo) ⟨(Ht rfl),trivial⟩) (ra rfl (eZ (fG rfl (fZ (eY rfl) ?_))))))))
   exact (dL hfin)
theorem Fs {m n:Nat} (hm:(dg m).length ≤ 17592186044415) (hn1:(dg n).length ≤ 17592186044416) (hn:n ≠ 0):bH Tryz.prog 265 [aI m,aI n] (fI [aI (m / n),aI (m % n)]):=by
 refine bH.intro Tryz.func265 rfl Tryz.ntmps265 rfl (fun cx=>(ts (ro rfl (cX cW) (ro rfl (cX cW) (eZ (cU (ts (rm rfl (rm rfl (ro rfl (cJ Tryz.call237 (Rv zo zo) ⟨(Ht rfl),(Ht rfl),trivial⟩) (ro rfl (tI (Ht rfl) cW) (eZ (dX (Ht rfl) (fun hb=>?_) (fun hb=>?_))))))))))))))
 ·simp only [decide_eq_true_eq] at hb
  have hlt:m < n:=Pa hb
  refine ts (rm rfl (ro rfl (cX cW) (ra rfl (eZ (bN rfl (fZ (eY rfl) ?_) (fZ (eY rfl) ?_))))))
  ·exact (fun v V h=>dL (Nat.div_eq_of_lt hlt).symm v V (kN v V h))
  ·exact (dL (Nat.mod_eq_of_lt hlt).symm)
 ·simp only [decide_eq_false_iff_not] at hb
  have hle:n ≤ m:=Oz zo
  clear hb
  refine cY (cU (ts (rm rfl (ro rfl (dK U_46 (Ht rfl) aA) (ro rfl (dO (Ht rfl) (cV 1)) (eZ (dX (Ht rfl) (fun h1=>?_) (fun h1=>?_))))))))
  ·simp at h1
   have hy0:=Wf h1
   have hyb:=bI (cA n) 0
   have hmod:=Nat.mod_lt m (show (dg n).getD 0 0 > 0 by omega)
   have hyb2:=hyb
   simp only [BB] at hyb
   refine ts (rm rfl (rm rfl (ro rfl (dJ U_46 Z_189 (Ht rfl) (cV 0) rfl (eQ (aP zo))) (ro rfl (dV A_189 Z_189 (Ht rfl)) (ro rfl (cJ Tryz.call281 (Vr zo zo hyb2) ⟨(Ht rfl),(Ht rfl),trivial⟩) (rm rfl (ro rfl (dU (Ht rfl) rfl) (ro rfl (dU (Ht rfl) rfl) (ra rfl (ra rfl (eZ (ts (rm rfl (rm rfl (ro rfl (gJ U_189 U_254 (Ht rfl) z7) (ro rfl (cJ Tryz.call268 (Aw zo) ⟨(Ht rfl),trivial⟩) ?_))))))))))))))))
   refine ra rfl (ra rfl (eZ (bN rfl (fZ (eY rfl) ?_) (fZ (eY rfl) ?_))))
   ·exact (dL (by rw [hy0]))
   ·exact (dL (by rw [hy0]))
  ·simp at h1
   have hl0:(dg n).length ≠ 0:=fun e=>hn (bF.1 e)
   have hyb:=bI (cA n) ((dg n).length - 1)
   obtain ⟨s,hs⟩:∃ s,s = 32 - bl ((dg n).getD ((dg n).length - 1) 0):=⟨_,rfl⟩
   obtain ⟨hs1,hvl,hvb⟩:=Ip hn hs
   obtain ⟨hc1,hc2,hc3,hc4⟩:=Ik (m:=m) hs1
   have hbl:=nP (k:=32) hyb
   simp only [BB] at hyb
   have hp2:0 < 2 ^ s:=Nat.pow_pos (by decide)
   have hX0:(dg (m * 2 ^ s)).length ≠ 0:=fun e=>(Nat.ne_of_gt (Nat.mul_pos (show 0 < m by omega) hp2)) (bF.1 e)
   have hmono:=iZ hle
   refine cY (ts (rm rfl (ro rfl (dK U_46 (Ht rfl) aA) (ro rfl (lL (cV 32) (Ht rfl) z6) (rm rfl (ro rfl (cJ Tryz.call282 (a0w zo hn) ⟨(Ht rfl),trivial⟩) (ro rfl (aM.nat (dG (Ht rfl) (Ht rfl) zo z6) (show 32 * (dg n).length - (32 * ((dg n).length - 1) + bl ((dg n).getD ((dg n).length - 1) 0)) = s by omega)) (ra rfl (eZ (ts (rm rfl (rm rfl (ro rfl (cJ Tryz.call283 (Vt zo zo) ⟨(Ht rfl),(Ht rfl),trivial⟩) ?_)))))))))))))
   refine ra rfl (eZ (ts (rm rfl (ro rfl (dK U_46 (Ht rfl) aA) (ro rfl (dW (Ht rfl) (cV 1) z6) (rn rfl (eM (T:=cH 0) (i:=Tryz.t189) V_46 jF rfl rfl (Ht rfl) rfl (fun _=>rfl) trivial (by show 4 * _ ≤ _; omega) zo) fun B57=>(ra rfl (eZ (ts (rm rfl (rm rfl (rm rfl (ro rfl (cJ Tryz.call283 (Vt zo zo) ⟨(Ht rfl),(Ht rfl),trivial⟩) (Nx U_46 Z_189 (Ht rfl) (Ht rfl) (Xr hX0) a2F (i:=0) rfl (by simp) (by simp; omega) (Il _ _) rfl rfl ?_))))))))))))))
   refine eZ (cU ?_)
   obtain ⟨vs,hvs⟩:∃ vs,vs = dg (n * 2 ^ s):=⟨_,rfl⟩
   rw [← hvs] at hvl hvb
   have hv:kB vs:=hvs ▸ cA _
   have hvv:val vs = n * 2 ^ s:=by rw [hvs,dF]
   have hV0:0 < val vs:=by rw [hvv]; exact Nat.mul_pos zo hp2
   have hnr:=Qc hv zo hvb
   have hv1:=hnr.v1lt; have hv2:=hnr.v2lt; have hbig:=hnr.big
   simp only [BB] at hv1 hv2 hbig
   refine qJ (E':=[(8,_),(9,_),(10,_)]) (aQ rfl (aZ rfl (a3r hvs.symm) (zS rfl))) (dQ (rm rfl (ro rfl (dK U_46 (Ht rfl) aA) (ra rfl (eZ (ts (rm rfl (ro rfl (gA U_46 (Ht rfl)) (rm rfl (ro rfl (dG (Ht rfl) (Ht rfl) zo z6) (rn rfl (eM (T:=cH 0) (i:=Tryz.t189) V_46 jF rfl rfl (Ht rfl) rfl (fun _=>rfl) trivial (by show 4 * _ ≤ _; omega) zo) fun B69=>(ra rfl (eZ (cU ?_))))))))))))))
   refine ts (rm rfl (ro rfl (gA U_46 (Ht rfl)) (ro rfl (iK (Ht rfl) cW (Db zo)) (ra rfl (eZ (eK ?_))))))
   refine kD (fun (k : Nat) (us : List Nat) (qs : List Nat) => nY (m * 2 ^ s) vs us qs k ∧ us.length = (dg m).length + 1) (fun (k : Nat) (us : List Nat) (qs : List Nat) => k) (fun (k : Nat) (us : List Nat) (qs : List Nat) => [(8, NT .i64 s), (9, vF vs), (10, Is (.slice (some ⟨B57, 0, none⟩) ((dg m).length + 1) ((dg m).length + 1))), (11, NT .i64 vs.length), (12, Is (.slice (some ⟨B69, 0, none⟩) ((dg m).length + 1 - vs.length) ((dg m).length + 1 - vs.length))), (13, aO .i64 ((k : Int) - 1))]) (fun (k : Nat) (us : List Nat) (qs : List Nat) => [box B57 189 (us.map cH), box B69 189 (qs.map cH)]) ((dg m).length + 1 - vs.length) (Bb m s) (List.replicate ((dg m).length + 1 - vs.length) 0) ⟨nY.start hv zo hvb hs1 (by have := iP (cA m); rwa [dF] at this) hc3 hc2 hc4 zo, hc2⟩
    (aQ rfl (aQ rfl (aQ rfl (aQ rfl (aQ rfl (aZ rfl (aS zo) aX)))))) (aU (fun _ _ _ h=>h) (aU (aB (mM _)) aY)) (fun k us qs ⟨hS,hus⟩=>?_)
   refine cU (ts (rm rfl (ro rfl (lQ (Ht rfl) cW) (eZ (dX (Ht rfl) (fun hk=>?_) (fun hk=>?_))))))
   ·simp at hk
    obtain ⟨j,rfl⟩:∃ j,k = j + 1:=⟨k - 1,by omega⟩
    have htp:=hS.top hv zo (Nat.succ_pos j) rfl
    have hkq:=hS.kle; have hlq:=hS.lenq
    rw [Nat.add_sub_cancel] at htp
    have hu0:=bI hS.dig (j + vs.length); have hu1:=bI hS.dig (j + vs.length - 1); have hu2:=bI hS.dig (j + vs.length - 2)
    have ht64:=Zw hu0 hu1; have hsh:=Kr hu0
    obtain ⟨top,htop⟩:∃ top,top = us.getD (j + vs.length) 0 * BB + us.getD (j + vs.length - 1) 0:=⟨_,rfl⟩
    have hor:=(vN (a:=us.getD (j + vs.length) 0) hu1).trans htop.symm
    rw [← htop] at htp ht64
    have hu2b:=hu2
    simp only [BB] at hu0 hu1 hu2
    refine qJ (E':=[(8,_),(9,_),(10,_),(11,_),(12,_),(13,_),(73,_),(74,_)]) (aQ rfl (aQ rfl (aQ rfl (aQ rfl (aQ rfl (aZ rfl (aS (show ((j + 1:Nat):Int) - 1 = (j:Int) by omega)) (zS rfl))))))) (cY (cU (eK (cU (fJ (m:=16) (dp 10 rfl (cZ (Ht rfl)) (dp 13 rfl (cZ (Ht rfl)) (dp 11 rfl (cZ (Ht rfl)) (dR 78 1 79 2 rfl (dW (Ht rfl) (Ht rfl) z6) (dR 77 0 80 3 rfl (gQ U_46 Z_189 (Ht rfl) (Ht rfl) rfl zo (by rw [Nat.mul_one,Nat.zero_add])) ?_))))))))))
    refine dq 81 4 rfl (fQ A_189 Z_189 (Ht rfl) (i:=0) rfl (eQ (aP zo))) (dq 82 5 rfl (gJ U_189 U_254 (Ht rfl) z7) (dq 83 6 rfl (nI (Ht rfl) (cV 32) (by decide) hsh) (dp 10 rfl (cZ (Ht rfl)) (dp 13 rfl (cZ (Ht rfl)) (dp 11 rfl (cZ (Ht rfl)) (dR 86 9 87 10 rfl (dW (Ht rfl) (Ht rfl) z6) (dq 88 11 rfl (dG (Ht rfl) (cV 1) zo z6) ?_)))))))
    refine dR 85 8 89 12 rfl (gQ U_46 Z_189 (Ht rfl) (Ht rfl) rfl zo (by rw [Nat.mul_one,Nat.zero_add])) ?_
    refine dq 90 13 rfl (fQ A_189 Z_189 (Ht rfl) (i:=0) rfl (eQ (aP zo))) (dq 91 14 rfl (gJ U_189 U_254 (Ht rfl) z7) (fW bE rfl (by kernel_rfl) (zF (zF (zF (zF (aV (ro rfl (aM.nat (pG rfl (Ht rfl) (Ht rfl) z7 z7) hor) ?_))))))))
    refine ra rfl (eZ (ts (rm rfl (rm rfl (rm rfl (ro rfl (dG (Ht rfl) (cV 1) zo z6) (ro rfl (dJ U_46 Z_189 (Ht rfl) (Ht rfl) rfl (eQ (aP zo))) (ro rfl (dV A_189 Z_189 (Ht rfl)) (ro rfl (gJ U_189 U_254 (Ht rfl) z7) (ro rfl (jB (Ht rfl) (Ht rfl) zo (by show _ < 18446744073709551616; exact ht64)) (ra rfl (eZ ?_))))))))))))
    refine ts (rm rfl (rm rfl (rm rfl (ro rfl (dG (Ht rfl) (cV 1) zo z6) (ro rfl (dJ U_46 Z_189 (Ht rfl) (Ht rfl) rfl (eQ (aP zo))) (ro rfl (dV A_189 Z_189 (Ht rfl)) (ro rfl (gJ U_189 U_254 (Ht rfl) z7) (ro rfl (oQ (Ht rfl) (Ht rfl) zo) (ra rfl (eZ (cU (jW (fun (g:Nat)=>Ln (val (us.drop j)) (val vs) g) (fun (g:Nat)=>[(8,NT .i64 s),(9,vF vs),(10,Is (.slice (some ⟨B57,0,none⟩) ((dg m).length + 1) ((dg m).length + 1))),(11,NT .i64 vs.length),(12,Is (.slice (some ⟨B69,0,none⟩) ((dg m).length + 1 - vs.length) ((dg m).length + 1 - vs.length))),(13,NT .i64 j),(15,NT .u64 g)]) (fun (g:Nat)=>[box B57 189 (us.map cH),box B69 189 (qs.map cH)]) ?_ (fun g hg=>?_)))))))))))))
    ·refine eK ?_
     refine fS (fun (g : Nat) (r : Nat) => lN (val (us.drop j)) (val vs) (vs.getD (vs.length - 1) 0) top g r ∧ r < 4294967296) (fun (g : Nat) (r : Nat) => g) (fun (g : Nat) (r : Nat) => [(8, NT .i64 s), (9, vF vs), (10, Is (.slice (some ⟨B57, 0, none⟩) ((dg m).length + 1) ((dg m).length + 1))), (11, NT .i64 vs.length), (12, Is (.slice (some ⟨B69, 0, none⟩) ((dg m).length + 1 - vs.length) ((dg m).length + 1 - vs.length))), (13, NT .i64 j), (15, NT .u64 g), (16, NT .u64 r)]) (fun (g : Nat) (r : Nat) => [box B57 189 (us.map cH), box B69 189 (qs.map cH)]) (top / vs.getD (vs.length - 1) 0) (top % vs.getD (vs.length - 1) 0) ⟨lN.start hnr htp, Nat.lt_trans (Nat.mod_lt _ zo) hv1⟩
      (zS rfl) (dM.refl _) (fun g r ⟨hG,hr⟩=>?_)
     have hgl:=(hG.glt hnr htp).1
     have hrs:=Kr (a:=r) hr
     have horr:=vN (a:=r) hu2b
     simp only [BB] at hgl
     refine cU (cU (fJ (m:=22) (dp 15 rfl (cZ (Ht rfl)) (dq 110 0 rfl (pY (Ht rfl) (cV 4294967296)) (dq 111 1 rfl (cZ (Ht rfl)) (C.D_step (Ei:=[(15,_),(112,_)]) rfl rfl (bV (bK rfl rfl) (bV (bG 2 rfl rfl) bW)) (eU rfl rfl (Ht rfl) (fun h=>cZ (Ht rfl))) (C.D_step (Ei:=[(9,_),(112,_)]) rfl rfl (bV (bK rfl rfl) (bV (bG 2 rfl rfl) bW)) (eU rfl rfl (Ht rfl) (fun h=>cZ (Ht rfl))) (C.D_step (Ei:=[(11,_),(112,_)]) rfl rfl (bV (bK rfl rfl) (bV (bG 2 rfl rfl) bW)) (eU rfl rfl (Ht rfl) (fun h=>cZ (Ht rfl))) ?_))))))))
     refine C.D_step (Ei:=[(115,_),(112,_)]) rfl rfl (bV (bG 5 rfl rfl) (bV (bG 2 rfl rfl) bW)) (eU rfl rfl (Ht rfl) (fun h=>dG (fV rfl h) (cV 2) (by first | omega | (simp at h; omega)) (by show _ < 9223372036854775808; first | omega | (simp at h; omega)))) (C.D_step (Ei:=[(114,_),(116,_),(112,_)]) rfl rfl (bV (bG 4 rfl rfl) (bV (bG 6 rfl rfl) (bV (bG 2 rfl rfl) bW))) (eU rfl rfl (Ht rfl) (fun h=>dJ U_46 Z_189 (fV rfl h) (fV rfl h) rfl (eQ (aP (by first | omega | (simp at h; omega)))))) ?_)
     refine C.D_step (Ei:=[(117,_),(112,_)]) rfl rfl (bV (bG 7 rfl rfl) (bV (bG 2 rfl rfl) bW)) (eU rfl rfl (Ht rfl) (fun h=>dV A_189 Z_189 (fV rfl h))) (C.D_step (Ei:=[(118,_),(112,_)]) rfl rfl (bV (bG 8 rfl rfl) (bV (bG 2 rfl rfl) bW)) (eU rfl rfl (Ht rfl) (fun h=>gJ U_189 U_254 (fV rfl h) (by show _ < 18446744073709551616; first | omega | (simp at h; omega)))) (C.D_step (Ei:=[(113,_),(119,_),(112,_)]) rfl rfl (bV (bG 3 rfl rfl) (bV (bG 9 rfl rfl) (bV (bG 2 rfl rfl) bW))) (eU rfl rfl (Ht rfl) (fun h=>lL (fV rfl h) (fV rfl h) (by show _ < 18446744073709551616; simp at h; exact a2B h hv2))) ?_))
     refine C.D_step (Ei:=[(16,_),(112,_)]) rfl rfl (bV (bK rfl rfl) (bV (bG 2 rfl rfl) bW)) (eU rfl rfl (Ht rfl) (fun h=>cZ (Ht rfl))) (C.D_step (Ei:=[(121,_),(112,_)]) rfl rfl (bV (bG 11 rfl rfl) (bV (bG 2 rfl rfl) bW)) (eU rfl rfl (Ht rfl) (fun h=>nI (fV rfl h) (cV 32) (by decide) hrs)) (C.D_step (Ei:=[(10,_),(112,_)]) rfl rfl (bV (bK rfl rfl) (bV (bG 2 rfl rfl) bW)) (eU rfl rfl (Ht rfl) (fun h=>cZ (Ht rfl))) (C.D_step (Ei:=[(13,_),(112,_)]) rfl rfl (bV (bK rfl rfl) (bV (bG 2 rfl rfl) bW)) (eU rfl rfl (Ht rfl) (fun h=>cZ (Ht rfl))) ?_)))
     refine C.D_step (Ei:=[(11,_),(112,_)]) rfl rfl (bV (bK rfl rfl) (bV (bG 2 rfl rfl) bW)) (eU rfl rfl (Ht rfl) (fun h=>cZ (Ht rfl))) (C.D_step (Ei:=[(124,_),(125,_),(112,_)]) rfl rfl (bV (bG 14 rfl rfl) (bV (bG 15 rfl rfl) (bV (bG 2 rfl rfl) bW))) (eU rfl rfl (Ht rfl) (fun h=>dW (fV rfl h) (fV rfl h) (by show _ < 9223372036854775808; first | omega | (simp at h; omega)))) (C.D_step (Ei:=[(126,_),(112,_)]) rfl rfl (bV (bG 16 rfl rfl) (bV (bG 2 rfl rfl) bW)) (eU rfl rfl (Ht rfl) (fun h=>dG (fV rfl h) (cV 2) (by first | omega | (simp at h; omega)) (by show _ < 9223372036854775808; first | omega | (simp at h; omega)))) ?_))
     refine C.D_step (Ei:=[(123,_),(127,_),(112,_)]) rfl rfl (bV (bG 13 rfl rfl) (bV (bG 17 rfl rfl) (bV (bG 2 rfl rfl) bW))) (eU rfl rfl (Ht rfl) (fun h=>gQ U_46 Z_189 (fV rfl h) (fV rfl h) rfl (by first | omega | (simp at h; omega)) (by rw [Nat.mul_one,Nat.zero_add]))) ?_
     refine C.D_step (Ei:=[(128,_),(112,_)]) rfl rfl (bV (bG 18 rfl rfl) (bV (bG 2 rfl rfl) bW)) (eU rfl rfl (Ht rfl) (fun h=>fQ A_189 Z_189 (fV rfl h) (i:=0) rfl (eQ (aP zo)))) (C.D_step (Ei:=[(129,_),(112,_)]) rfl rfl (bV (bG 19 rfl rfl) (bV (bG 2 rfl rfl) bW)) (eU rfl rfl (Ht rfl) (fun h=>gJ U_189 U_254 (fV rfl h) (by show _ < 18446744073709551616; first | omega | (simp at h; omega)))) (C.D_step (Ei:=[(122,_),(130,_),(112,_)]) rfl rfl (bV (bG 12 rfl rfl) (bV (bG 20 rfl rfl) (bV (bG 2 rfl rfl) bW))) (eU rfl rfl (Ht rfl) (fun h=>aM.nat (pG rfl (fV rfl h) (fV rfl h) (by show _ < 18446744073709551616; first | omega | (simp at h; omega)) (by show _ < 18446744073709551616; first | omega | (simp at h; omega))) horr)) ?_))
     refine fW bE rfl (by kernel_rfl) (zF (zF (zF (zF (zF (aJ (aJ (aV (fX rfl rfl (eU rfl rfl (Ht rfl) (fun h=>eL (fV rfl h) (fV rfl h))) (ro rfl (jI (Ht rfl) (fun h=>(fV rfl h))) (eZ (dX (Ht rfl) (fun hc=>?_) (fun hc=>?_)))))))))))))
     ·have hn2 := hG.next hnr htp (by simpa [BB] using hc)
      have hg1:=hn2.2
      refine cY (eK (ts (rm rfl (ro rfl (dG (Ht rfl) (cV 1) zo z7) (ra rfl (eZ (ts (rm rfl (rm rfl (rm rfl (ro rfl (dG (Ht rfl) (cV 1) zo z6) (ro rfl (dJ U_46 Z_189 (Ht rfl) (Ht rfl) rfl (eQ (aP zo))) (ro rfl (dV A_189 Z_189 (Ht rfl)) (ro rfl (gJ U_189 U_254 (Ht rfl) z7) ?_))))))))))))))
      refine ro rfl (dW (Ht rfl) (Ht rfl) z7) (ra rfl (eZ (ts (rm rfl (ro rfl (pY (Ht rfl) (cV 4294967296)) (eZ (dX (Ht rfl) (fun hr2=>?_) (fun hr2=>?_))))))))
      ·simp at hr2
       refine gW rfl (bD (g - 1) (hn2.1.stop hnr htp hr2) (zS rfl) (dM.refl _))
      ·simp at hr2
       refine cY (bO (fY (g - 1,_) ⟨hn2.1,hr2⟩ (by dsimp only; omega) (zS rfl) (dM.refl _)))
     ·simp at hc
      refine gW rfl (bD g (hG.done hnr htp hc.1 hc.2) (zS rfl) (dM.refl _))
    ·have hglt := hg.lt
     have hglt2:=hg.lt
     simp only [BB] at hglt
     have hjl:j + vs.length < us.length:=by omega
     refine ts (ro rfl (cX (cV 0)) (eZ (ts (ro rfl (cX (cV 0)) (eZ (cU (ts (ro rfl (cX (cV 0)) (eZ (eK ?_))))))))))
     refine zA (fun (i : Nat) (out : List Nat) (c : Nat) (b : Nat) => sA us vs g j out i c b) (fun (i : Nat) (out : List Nat) (c : Nat) (b : Nat) => vs.length - i) (fun (i : Nat) (out : List Nat) (c : Nat) (b : Nat) => [(8, NT .i64 s), (9, vF vs), (10, Is (.slice (some ⟨B57, 0, none⟩) ((dg m).length + 1) ((dg m).length + 1))), (11, NT .i64 vs.length), (12, Is (.slice (some ⟨B69, 0, none⟩) ((dg m).length + 1 - vs.length) ((dg m).length + 1 - vs.length))), (13, NT .i64 j), (15, NT .u64 g), (17, NT .u64 b), (18, NT .u64 c), (19, NT .i64 i)]) (fun (i : Nat) (out : List Nat) (c : Nat) (b : Nat) => [box B57 189 (out.map cH), box B69 189 (qs.map cH)]) 0 us 0 0 (sA.start hS.dig vs g j)
      (zS rfl) (dM.refl _) (fun i out c b hT=>?_)
     refine cU (ts (rm rfl (rm rfl (ro rfl (gZ (Ht rfl) (Ht rfl)) (eZ (dX (Ht rfl) (fun hi=>?_) (fun hi=>?_)))))))
     ·simp at hi
      have hlen:=hT.len; have hcl:=hT.clt; have hbl:=hT.ble; have hvi:=bI hv i; have hok:=bI hT.dig (i + j)
      have hp:=Np hglt2 hvi hT.clt
      simp only [BB] at hp hcl hvi hok
      obtain ⟨p,hp1⟩:∃ p,p = g * vs.getD i 0 + c:=⟨_,rfl⟩
      obtain ⟨x,hx1⟩:∃ x,x = ((out.getD (i + j) 0 + 18446744073709551616 - p % 4294967296) % 18446744073709551616 + 18446744073709551616 - b) % 18446744073709551616:=⟨_,rfl⟩
      refine cY (cU (eK (ts (rm rfl (rm rfl (rm rfl (ro rfl (dJ U_46 Z_189 (Ht rfl) (Ht rfl) rfl (eQ (aP zo))) (ro rfl (dV A_189 Z_189 (Ht rfl)) (ro rfl (gJ U_189 U_254 (Ht rfl) z7) (ro rfl (lL (Ht rfl) (Ht rfl) z7) (rm rfl (ro rfl (aM.nat (dW (Ht rfl) (Ht rfl) z7) hp1.symm) ?_))))))))))))
      refine ra rfl (eZ (ts (rm rfl (ro rfl (fA (Ht rfl) (cV 32) (by decide)) (ra rfl (eZ (ts (rm rfl (rm rfl (rm rfl (ro rfl (dW (Ht rfl) (Ht rfl) z6) (ro rfl (gQ U_46 Z_189 (Ht rfl) (Ht rfl) rfl zo (by rw [Nat.mul_one,Nat.zero_add])) ?_))))))))))))
      refine ro rfl (fQ A_189 Z_189 (Ht rfl) (i:=0) rfl (eQ (aP zo))) (ro rfl (gJ U_189 U_254 (Ht rfl) z7) (rm rfl (ro rfl (aM.nat (uL rfl (Ht rfl) (cV 4294967295) z7 z7) (a4O p)) (ro rfl (nJ rfl (Ht rfl) (Ht rfl) (by show _ ≤ 18446744073709551616; first | omega | (simp only [mB]; omega))) ?_))))
      refine rm rfl (ro rfl (aM.nat (nJ rfl (Ht rfl) (Ht rfl) (by show _ ≤ 18446744073709551616; first | omega | (simp only [mB]; omega))) hx1.symm) (ra rfl (eZ (ts (rm rfl (rm rfl (rm rfl (ro rfl (dW (Ht rfl) (Ht rfl) z6) (rm rfl (ro rfl (gF rfl U_254 U_189 (Ht rfl)) (ro rfl (gQ U_46 Z_189 (Ht rfl) (Ht rfl) rfl zo (by rw [Nat.mul_one,Nat.zero_add])) ?_)))))))))))
      refine lO Z_189 (Ht rfl) (Ht rfl) (i:=0) rfl (by first | omega | (simp; omega)) rfl (eZ (dQ (rm rfl (ro rfl (fA (Ht rfl) (cV 63) (by decide)) (ra rfl (eZ (bO (dQ (rm rfl (ro rfl (dW (Ht rfl) (cV 1) z6) (ra rfl (eZ (fY (i + 1,_,_,_) (hT.next hS.dig hv hglt2 hi hjl hp1 (Co hok hbl hx1) rfl) (by dsimp only; omega) (zS rfl) (aU (aB (gC _ _ _)) (aU (fun _ _ _ h=>h) aY)))))))))))))))
     ·simp at hi
      have hkl:i = vs.length:=Nat.le_antisymm hT.ile hi
      subst hkl
      have hlen:=hT.len; have hcl:=hT.clt; have hbl:=hT.ble; have hok:=bI hT.dig (j + vs.length)
      obtain ⟨x,hx1⟩:∃ x,x = ((out.getD (j + vs.length) 0 + 18446744073709551616 - c) % 18446744073709551616 + 18446744073709551616 - b) % 18446744073709551616:=⟨_,rfl⟩
      have htd:=Cr hok hcl hbl hx1
      have hTk:=hT.fin hjl htd rfl
      have hx2:=htd.2
      simp only [BB] at hcl hok
      refine gW rfl (ts (rm rfl (rm rfl (rm rfl (ro rfl (dW (Ht rfl) (Ht rfl) z6) (ro rfl (gQ U_46 Z_189 (Ht rfl) (Ht rfl) rfl zo (by rw [Nat.mul_one,Nat.zero_add])) ?_))))))
      refine ro rfl (fQ A_189 Z_189 (Ht rfl) (i:=0) rfl (eQ (aP zo))) (ro rfl (gJ U_189 U_254 (Ht rfl) z7) (rm rfl (ro rfl (nJ rfl (Ht rfl) (Ht rfl) (by show _ ≤ 18446744073709551616; first | omega | (simp only [mB]; omega))) (rm rfl (ro rfl (aM.nat (nJ rfl (Ht rfl) (Ht rfl) (by show _ ≤ 18446744073709551616; first | omega | (simp only [mB]; omega))) hx1.symm) (ra rfl (eZ (ts (rm rfl (rm rfl (rm rfl (ro rfl (dW (Ht rfl) (Ht rfl) z6) ?_))))))))))))
      refine rm rfl (ro rfl (gF rfl U_254 U_189 (Ht rfl)) (ro rfl (gQ U_46 Z_189 (Ht rfl) (Ht rfl) rfl zo (by rw [Nat.mul_one,Nat.zero_add])) ?_))
      refine lO Z_189 (Ht rfl) (Ht rfl) (i:=0) rfl (by first | omega | (simp; omega)) rfl (eZ (cU (rG (fun (us2:List Nat) (g2:Nat)=>nY (m * 2 ^ s) vs us2 (qs.set j g2) j ∧ g2 < 4294967296 ∧ us2.length = (dg m).length + 1) (fun (us2:List Nat) (g2:Nat)=>[(8,NT .i64 s),(9,vF vs),(10,Is (.slice (some ⟨B57,0,none⟩) ((dg m).length + 1) ((dg m).length + 1))),(11,NT .i64 vs.length),(12,Is (.slice (some ⟨B69,0,none⟩) ((dg m).length + 1 - vs.length) ((dg m).length + 1 - vs.length))),(13,NT .i64 j),(15,NT .u64 g2)]) (fun (us2:List Nat) (g2:Nat)=>[box B57 189 (us2.map cH),box B69 189 (qs.map cH)]) ?_ (fun us2 g2 ⟨hD,hg2,hus2⟩=>?_))))
      ·refine ts (rm rfl (ro rfl (fA (Ht rfl) (cV 63) (by decide)) (ro rfl (dO (Ht rfl) (cV 1)) (eZ (dX (Ht rfl) (fun hbb => ?_) (fun hbb => ?_))))))
       ·simp only [decide_eq_true_eq] at hbb
        have hdec:(!decide (x / 2 ^ 63 = 0)) = true:=by rw [hbb]; rfl
        rw [hdec] at hTk
        obtain ⟨o1,ho1⟩:∃ o1,o1 = out.set (j + vs.length) (x % BB):=⟨_,rfl⟩
        rw [← ho1] at hTk
        have hg0:=hS.gpos hv rfl zo hTk
        have hol:=hTk.len
        refine ts (rm rfl (ro rfl (dG (Ht rfl) (cV 1) zo z7) (ra rfl (eZ (ts (ro rfl (cX (cV 0)) (eZ (cU (ts (ro rfl (cX (cV 0)) (eZ (eK ?_))))))))))))
        refine kD (fun (i : Nat) (out2 : List Nat) (c : Nat) => rZ o1 vs j out2 i c) (fun (i : Nat) (out2 : List Nat) (c : Nat) => vs.length - i) (fun (i : Nat) (out2 : List Nat) (c : Nat) => [(8, NT .i64 s), (9, vF vs), (10, Is (.slice (some ⟨B57, 0, none⟩) ((dg m).length + 1) ((dg m).length + 1))), (11, NT .i64 vs.length), (12, Is (.slice (some ⟨B69, 0, none⟩) ((dg m).length + 1 - vs.length) ((dg m).length + 1 - vs.length))), (13, NT .i64 j), (15, NT .u64 (g - 1 : Nat)), (18, NT .u64 c), (23, NT .i64 i)]) (fun (i : Nat) (out2 : List Nat) (c : Nat) => [box B57 189 (out2.map cH), box B69 189 (qs.map cH)]) 0 o1 0 (rZ.start hTk.dig vs j)
         (zS rfl) (aU (aB (by rw [ho1]; exact gC _ _ _)) (aU (fun _ _ _ h=>h) aY)) (fun i out2 c hB=>?_)
        refine cU (ts (rm rfl (rm rfl (ro rfl (gZ (Ht rfl) (Ht rfl)) (eZ (dX (Ht rfl) (fun hi=>?_) (fun hi=>?_)))))))
        ·simp at hi
         have hlen:=hB.len; have hcl:=hB.cle; have hvi:=bI hv i; have hok:=bI hB.dig (i + j)
         simp only [BB] at hvi hok
         refine cY (cU (eK (cU (fJ (m:=14) (dp 10 rfl (cZ (Ht rfl)) (dp 23 rfl (cZ (Ht rfl)) (dp 13 rfl (cZ (Ht rfl)) (dR 212 1 213 2 rfl (dW (Ht rfl) (Ht rfl) z6) (dR 211 0 214 3 rfl (gQ U_46 Z_189 (Ht rfl) (Ht rfl) rfl zo (by rw [Nat.mul_one,Nat.zero_add])) ?_)))))))))
         refine dq 215 4 rfl (fQ A_189 Z_189 (Ht rfl) (i:=0) rfl (eQ (aP zo))) (dq 216 5 rfl (gJ U_189 U_254 (Ht rfl) z7) (dp 9 rfl (cZ (Ht rfl)) (dp 23 rfl (cZ (Ht rfl)) (dR 218 7 219 8 rfl (dJ U_46 Z_189 (Ht rfl) (Ht rfl) rfl (eQ (aP zo))) (dq 220 9 rfl (dV A_189 Z_189 (Ht rfl)) (dq 221 10 rfl (gJ U_189 U_254 (Ht rfl) z7) ?_))))))
         refine dR 217 6 222 11 rfl (dW (Ht rfl) (Ht rfl) z7) (dp 18 rfl (cZ (Ht rfl)) (fW bE rfl (by kernel_rfl) (zF (zF (zF (aJ (aJ (aV (ro rfl (dW (Ht rfl) (Ht rfl) z7) (ra rfl (eZ (ts (rm rfl (rm rfl (rm rfl (ro rfl (dW (Ht rfl) (Ht rfl) z6) ?_))))))))))))))))
         refine rm rfl (ro rfl (gF rfl U_254 U_189 (Ht rfl)) (ro rfl (gQ U_46 Z_189 (Ht rfl) (Ht rfl) rfl zo (by rw [Nat.mul_one,Nat.zero_add])) ?_))
         refine lO Z_189 (Ht rfl) (Ht rfl) (i:=0) rfl (by first | omega | (simp; omega)) rfl (eZ (dQ (rm rfl (ro rfl (fA (Ht rfl) (cV 32) (by decide)) (ra rfl (eZ (bO (dQ (rm rfl (ro rfl (dW (Ht rfl) (cV 1) z6) (ra rfl (eZ (fY (i + 1,_,_) (hB.next hv hi zo (Nat.add_comm _ _)) (by dsimp only; omega) (zS rfl) (aU (aB (gC _ _ _)) (aU (fun _ _ _ h=>h) aY)))))))))))))))
        ·simp at hi
         have hil:i = vs.length:=Nat.le_antisymm hB.ile hi
         subst hil
         have hlen:=hB.len; have hcl:=hB.cle; have hok:=bI hB.dig (j + vs.length)
         have hBk:=hB.fin zo rfl
         obtain ⟨_,hDn⟩:=hS.wrong hv hV0 (Nat.succ_pos j) rfl hg hTk hBk
         simp only [BB] at hok
         refine gW rfl (dQ (rm rfl (rm rfl (rm rfl (ro rfl (dW (Ht rfl) (Ht rfl) z6) (rm rfl (rm rfl (rm rfl (ro rfl (dW (Ht rfl) (Ht rfl) z6) (ro rfl (gQ U_46 Z_189 (Ht rfl) (Ht rfl) rfl zo (by rw [Nat.mul_one,Nat.zero_add])) ?_))))))))))
         refine ro rfl (fQ A_189 Z_189 (Ht rfl) (i:=0) rfl (eQ (aP zo))) (rm rfl (ro rfl (gJ U_254 U_189 (Ht rfl) (by show _ < 4294967296; first | omega | (simp only [mB]; omega))) (ro rfl (Qj rfl (Ht rfl) (Ht rfl)) (ro rfl (gQ U_46 Z_189 (Ht rfl) (Ht rfl) rfl zo (by rw [Nat.mul_one,Nat.zero_add])) ?_))))
         refine lO Z_189 (Ht rfl) (Ht rfl) (i:=0) rfl (by first | omega | (simp; omega)) rfl (eZ (bD (_,g - 1) ⟨hDn,by dsimp only; omega,by simp; omega⟩ (zS rfl) (aU (aB (gC _ _ _)) (aU (fun _ _ _ h=>h) aY))))
       ·simp only [decide_eq_false_iff_not] at hbb
        have hdec:(!decide (x / 2 ^ 63 = 0)) = false:=by rw [show x / 2 ^ 63 = 0 by omega]; rfl
        rw [hdec] at hTk
        have hol:=hTk.len
        refine cY (bD (_,g) ⟨hS.right hv hV0 (Nat.succ_pos j) rfl hg hTk,hglt,by dsimp only; omega⟩ (zS rfl) (aU (aB (gC _ _ _)) (aU (fun _ _ _ h=>h) aY)))
      ·refine dQ (rm rfl (rm rfl (rm rfl (ro rfl (gJ U_254 U_189 (Ht rfl) (by show _ < 4294967296; first | omega | (simp only [mB]; omega))) (ro rfl (gQ U_46 Z_189 (Ht rfl) (Ht rfl) rfl zo (by rw [Nat.mul_one, Nat.zero_add])) ?_)))))
       refine lO Z_189 (Ht rfl) (Ht rfl) (i:=1) rfl (by first | omega | (simp; omega)) rfl (eZ (bO (dQ (rm rfl (ro rfl (iK (Ht rfl) cW (Db zo)) (ra rfl (eZ (fY (j,us2,_) ⟨hD,hus2⟩ (by dsimp only; omega) (zS rfl) (aU (fun _ _ _ h=>h) (aU (aB (gC _ _ _)) aY))))))))))
   ·simp at hk
    have hk0:k = 0:=by omega
    subst hk0
    have hfin:=hS.fin hV0
    have hlq:=hS.lenq
    rw [hvv] at hfin
    have hdiv:val qs = m / n:=by rw [hfin.1]; exact Nat.mul_div_mul_right _ _ hp2
    have hsm:val us < BB ^ vs.length:=by have h1:=hS.small; rw [List.drop_zero] at h1; exact Nat.lt_trans h1 (iP hv)
    have hmod : val (us.take vs.length) / 2 ^ s = m % n := by
     rw [oR hsm zo,hfin.2,Nat.mul_mod_mul_right,Nat.mul_div_cancel _ hp2]
    have hru : (dg (val (us.take vs.length))).length ≤ 17592186044416 := by
     refine Nat.le_trans (jM (k:=vs.length) ?_) zo
     rw [oR hsm zo]; exact hsm
    refine gW rfl (gV (i:=1) (tt:=12) rfl rfl (mU rfl zo (Nat.le_refl _)) (gV (i:=0) (tt:=10) rfl rfl (mU rfl zo (Nat.le_refl _)) (cU (fJ (m:=7) (dp 12 rfl (cZ (Ht rfl)) (dq 254 0 rfl (cJ K_267 (tX _ hS.digq zo) ⟨(Ht rfl),trivial⟩) (dp 10 rfl (cZ (Ht rfl)) (dp 11 rfl (cZ (Ht rfl)) (dR 256 2 257 3 rfl (aM.imp (qX U_46 Z_189 (Ht rfl) (Ht rfl) (fun m e=>by cases e) zo (by simp; omega) rfl) (Pg _ _)) ?_)))))))))
    refine dq 258 4 rfl (cJ K_267 (tX _ (hS.dig.take' vs.length) (by simp; omega)) ⟨(Ht rfl),trivial⟩) ?_
    refine dp 8 rfl (cZ (Ht rfl)) (fW bE rfl (by kernel_rfl) (zF (aJ (aJ (aJ (aV (ro rfl (cJ Tryz.call284 (a3j hru zo) ⟨(Ht rfl),(Ht rfl),trivial⟩) (ra rfl (ra rfl (eZ (bN rfl (fZ (eY rfl) ?_) (fZ (eY rfl) ?_))))))))))))
    ·exact (dL hdiv)
    ·exact (dL hmod)
theorem Vs {m n:Nat} (hm:(dg m).length ≤ 17592186044415) (hn:(dg n).length ≤ 17592186044415):bH Tryz.prog 264 [aI m,aI n] (aI (Nat.gcd m n)):=by
 refine bH.intro Tryz.func264 rfl Tryz.ntmps264 rfl (fun cx=>(ts (ro rfl (cX cW) (eZ (cU (eK ?_))))))
 refine fS (fun (x : Nat) (y : Nat) => Nat.gcd x y = Nat.gcd m n ∧ (dg x).length ≤ 17592186044415 ∧ (dg y).length ≤ 17592186044415) (fun (x : Nat) (y : Nat) => y) (fun (x : Nat) (y : Nat) => [(0, aI x), (1, aI y)]) (fun (x : Nat) (y : Nat) => []) m n ⟨rfl, hm, hn⟩
  (zS rfl) aY (fun x y ⟨hg,hx,hy⟩=>?_)
 refine cU (ts (rm rfl (ro rfl (dK U_46 (Ht rfl) aA) (ro rfl (eL (Ht rfl) (cV 0)) (eZ (dX (Ht rfl) (fun hb=>?_) (fun hb=>?_)))))))
 ·simp at hb
  have hy0:y ≠ 0:=fun e=>by rw [e,eO] at hb; simp at hb
  have hlt:=Nat.mod_lt x (Nat.pos_of_ne_zero hy0)
  refine cY (eK (ts (rm rfl (rm rfl (ro rfl (cJ Tryz.call265 (Fs hx zo hy0) ⟨(Ht rfl),(Ht rfl),trivial⟩) (rm rfl (ro rfl (dU (Ht rfl) rfl) (ro rfl (dU (Ht rfl) rfl) (ra rfl (ra rfl (eZ (dQ (rm rfl (rm rfl (ra rfl (ra rfl (eZ (bO (fY (y,x % y) ⟨by rw [← hg,Nat.gcd_comm x y,Nat.gcd_rec y x,Nat.gcd_comm],hy,Nat.le_trans (iZ (Nat.le_of_lt hlt)) hy⟩ hlt (zS rfl) aY)))))))))))))))))))
 ·simp at hb
  have hy0:y = 0:=bF.1 (by simpa using hb)
  subst hy0
  rw [Nat.gcd_zero_right] at hg
  refine gW rfl (ts (rm rfl (ra rfl (eZ (fG rfl (fZ (eY rfl) ?_))))))
  exact (dL hg)
end
section
open Go Go.RowKit
theorem Va {n : Nat} {E : cT} {H : Hp} {d : Option Tmp} {t : TypeId} {pos : String} {af : Array Edge} {g : Option (Nat × Bool)}  :
  aM Tryz.prog n E H ⟨d,.build 129 #[],t,pos,af,g⟩ (eH [Is (.bool false),Is (.slice none 0 0)]) :=
 fH (parts := []) fun a V w hs => by
  refine ⟨.agg #[(.bool false),(.slice none 0 0)],?_,[(.bool false),(.slice none 0 0)],rfl,aW (⟨rfl,trivial⟩) (aW (⟨rfl,trivial⟩) (aG))⟩
  simp [Instr.build,Instr.fill,Sem.run_bind,Result.andThen,dS,O_129,U_129,Z_4,Z_46]
theorem sC {n : Nat} {E : cT} {H : Hp} {d : Option Tmp} {t : TypeId} {pos : String} {af : Array Edge} {g : Option (Nat × Bool)} {x0 x1 : Operand} {T0 T1 : Ty} [s0 : dI T0 1 false] (h0 : bM E x0 T0) [s1 : dI T1 1 false] (h1 : bM E x1 T1) :
  aM Tryz.prog n E H ⟨d,.build 129 #[(0,x0),(1,x1)],t,pos,af,g⟩ (eH [T0,T1]) :=
 fH (parts := [(0, x0), (1, x1)]) fun a V w hs => by
  have p0:=h0 n V a hs
  generalize e0:a.eval x0 = v0 at p0
  have q0:=(s0.ok v0 V p0).2.2 rfl
  have p1:=h1 n V a hs
  generalize e1:a.eval x1 = v1 at p1
  have q1:=(s1.ok v1 V p1).2.2 rfl
  refine ⟨.agg #[v0,v1],?_,[v0,v1],rfl,aW (⟨p0,q0⟩) (aW (⟨p1,q1⟩) (aG))⟩
  simp [e0,e1,Instr.build,Instr.fill,Sem.run_bind,Result.andThen,dS,q0.cells,q1.cells,O_129,U_129,Z_4,Z_46]
theorem uW {n : Nat} {E : cT} {H : Hp} {d : Option Tmp} {t : TypeId} {pos : String} {af : Array Edge} {g : Option (Nat × Bool)} {x0 x1 x2 : Operand} {T0 T1 T2 T3 T4 : Ty} (h0 : bM E x0 (eH [T0, T1])) (h1 : bM E x1 (eH [T2, T3])) [s2 : dI T4 1 false] (h2 : bM E x2 T4) :
  aM Tryz.prog n E H ⟨d,.build 131 #[(0,x0),(1,x1),(2,x2)],t,pos,af,g⟩ (eH [T0,T1,T2,T3,T4]) :=
 fH (parts := [(0, x0), (1, x1), (2, x2)]) fun a V w hs => by
  obtain ⟨v0,e0,c0⟩:=h0 n V a hs
  obtain ⟨c0_0,c0_1,rfl⟩:∃ c0_0 c0_1,v0 = [c0_0,c0_1]:=yO (by simpa using c0.length)
  obtain ⟨v1,e1,c1⟩:=h1 n V a hs
  obtain ⟨c1_0,c1_1,rfl⟩:∃ c1_0 c1_1,v1 = [c1_0,c1_1]:=yO (by simpa using c1.length)
  have p2:=h2 n V a hs
  generalize e2:a.eval x2 = v2 at p2
  have q2:=(s2.ok v2 V p2).2.2 rfl
  refine ⟨.agg #[c0_0,c0_1,c1_0,c1_1,v2],?_,[c0_0,c0_1,c1_0,c1_1,v2],rfl,aW (c0.at (i:=0) rfl rfl) (aW (c0.at (i:=1) rfl rfl) (aW (c1.at (i:=0) rfl rfl) (aW (c1.at (i:=1) rfl rfl) (aW (⟨p2,q2⟩) (aG)))))⟩
  simp [e0,e1,e2,Instr.build,Instr.fill,Sem.run_bind,Result.andThen,dS,q2.cells,O_131,U_131,Z_46,Z_129]
theorem zB {n : Nat} {E : cT} {H : Hp} {d : Option Tmp} {t : TypeId} {pos : String} {af : Array Edge} {g : Option (Nat × Bool)}  :
  aM Tryz.prog n E H ⟨d,.build 51 #[],t,pos,af,g⟩ (eH [Is (.bool false),Is (.slice none 0 0),Is (.bool false),Is (.slice none 0 0),Is (.slice none 0 0)]) :=
 fH (parts := []) fun a V w hs => by
  refine ⟨.agg #[(.bool false),(.slice none 0 0),(.bool false),(.slice none 0 0),(.slice none 0 0)],?_,[(.bool false),(.slice none 0 0),(.bool false),(.slice none 0 0),(.slice none 0 0)],rfl,aW (⟨rfl,trivial⟩) (aW (⟨rfl,trivial⟩) (aW (⟨rfl,trivial⟩) (aW (⟨rfl,trivial⟩) (aW (⟨rfl,trivial⟩) (aG)))))⟩
  simp [Instr.build,Instr.fill,Sem.run_bind,Result.andThen,dS,O_51,U_51,Z_47,Z_49]
theorem sK (a:Addr) (w:World):(Instr.fieldAt 129 (.pointer (some a)) 0).run Tryz.prog w = .ok (.pointer (some (a.add 0))) w:=by
 simp [Instr.fieldAt,Instr.sureAddr,fieldPlace,Sem.run_bind,Result.andThen,U_129,Z_4]
theorem pD (a:Addr) (w:World):(Instr.fieldAt 129 (.pointer (some a)) 1).run Tryz.prog w = .ok (.pointer (some (a.add 1))) w:=by
 simp [Instr.fieldAt,Instr.sureAddr,fieldPlace,Sem.run_bind,Result.andThen,U_129,Z_46]
theorem Iw (a:Addr) (w:World):(Instr.fieldAt 131 (.pointer (some a)) 0).run Tryz.prog w = .ok (.pointer (some (a.add 0))) w:=by
 simp [Instr.fieldAt,Instr.sureAddr,fieldPlace,Sem.run_bind,Result.andThen,U_131,Z_129]
theorem Wn (a:Addr) (w:World):(Instr.fieldAt 131 (.pointer (some a)) 1).run Tryz.prog w = .ok (.pointer (some (a.add 2))) w:=by
 simp [Instr.fieldAt,Instr.sureAddr,fieldPlace,Sem.run_bind,Result.andThen,U_131,Z_129]
theorem Wo (a:Addr) (w:World):(Instr.fieldAt 131 (.pointer (some a)) 2).run Tryz.prog w = .ok (.pointer (some (a.add 4))) w:=by
 simp [Instr.fieldAt,Instr.sureAddr,fieldPlace,Sem.run_bind,Result.andThen,U_131,Z_46]
end
section
open Go Go.RowKit
theorem xO {b:Bool} {m:Nat}:bH Tryz.prog 266 [aD b,aI m] (gI (yT b m)):=by
 refine bH.intro Tryz.func266 rfl Tryz.ntmps266 rfl (fun cx=>(ts (rn rfl (eG (Ts:=[Is (.bool false),Is (.slice none 0 0)]) O_129 rfl (fun V=>aW zd (aW zd (aG)))) fun B4=>(eZ (ts (rm rfl (rm rfl (fX rfl rfl (eU rfl rfl (Ht rfl) (fun h=>cZ (Ht rfl))) (fX rfl rfl (eU rfl rfl (Ht rfl) (fun h=>dK U_46 (fV rfl h) aA)) (fX rfl rfl (eU rfl rfl (Ht rfl) (fun h=>eL (fV rfl h) (cV 0))) (ro rfl (fM (Ht rfl) (fun h=>(fV rfl h))) (rm rfl ?_))))))))))))
 refine ro rfl (sC (Ht rfl) (Ht rfl)) (gX Z_129 (Ht rfl) (Ht rfl) rfl (i:=0) rfl (aK rfl) rfl rfl (eZ (fG rfl (fZ (fU A_129 Z_129 rfl (i:=0) rfl rfl) ?_))))
 exact Zl
theorem Av {n:Int} (h1:-9223372036854775808 ≤ n) (h2:n ≤ 9223372036854775807):bH Tryz.prog 227 [aO .i64 n] (gI n):=by
 refine bH.intro Tryz.func227 rfl Tryz.ntmps227 rfl (fun cx=>(ts (rn rfl (eG (Ts:=[Is (.bool false),Is (.slice none 0 0)]) O_129 rfl (fun V=>aW zd (aW zd (aG)))) fun B2=>(eZ (cU (ts (rm rfl (ro rfl (tI (Ht rfl) cW) (eZ (dX (Ht rfl) (fun hb=>?_) (fun hb=>?_)))))))))))
 ·have hn : n < 0 := by simpa using hb
  refine ts (rm rfl (ro rfl (Yk (Ht rfl) (r:=IntKind.i64.wrap (-n)) rfl) ?_))
  refine ro rfl (uM U_2 U_254 (Ht rfl) (r:=((n.natAbs:Nat):Int)) (by rw [IntKind.wrap_u64,IntKind.wrap_i64]; omega)) ?_
  refine ro rfl (cJ Tryz.call268 (Aw zo) ⟨(Ht rfl),trivial⟩) (ro rfl (sC cW (Ht rfl)) (gX Z_129 (Ht rfl) (Ht rfl) rfl (i:=0) rfl (aK rfl) rfl rfl (eZ (fG rfl (fZ (fU A_129 Z_129 rfl (i:=0) rfl rfl) ?_)))))
  exact (qB (by rw [hb]; rfl))
 ·have hn : ¬ n < 0 := by simpa using hb
  refine cY (ts (rm rfl (ro rfl (uM U_2 U_254 (Ht rfl) (r:=((n.natAbs:Nat):Int)) (by rw [IntKind.wrap_u64]; omega)) ?_)))
  refine ro rfl (cJ Tryz.call268 (Aw zo) ⟨(Ht rfl),trivial⟩) (ro rfl (sC cW (Ht rfl)) (gX Z_129 (Ht rfl) (Ht rfl) rfl (i:=0) rfl (aK rfl) rfl rfl (eZ (fG rfl (fZ (fU A_129 Z_129 rfl (i:=0) rfl rfl) ?_)))))
  exact (qB (by rw [hb]; rfl))
theorem Ds {x:Int}:bH Tryz.prog 228 [gI x] (gI (-x)):=by
 refine bH.intro Tryz.func228 rfl Tryz.ntmps228 rfl (fun cx=>(ts (rn rfl (fK (Ht rfl)) fun B1=>(rn rfl (eG (Ts:=[Is (.bool false),Is (.slice none 0 0)]) O_129 rfl (fun V=>aW zd (aW zd (aG)))) fun B2=>(eZ (ts (ro rfl (eJ sK (Ht rfl) rfl) (ro rfl (fQ A_4 Z_4 (Ht rfl) (i:=0) rfl rfl) (ro rfl (eN (Ht rfl)) (ro rfl (eJ pD (Ht rfl) rfl) (ro rfl (fQ A_46 Z_46 (Ht rfl) (i:=0) rfl rfl) (ro rfl (cJ Tryz.call266 xO ⟨(Ht rfl),(Ht rfl),trivial⟩) ?_))))))))))))
 refine gX Z_129 (Ht rfl) (Ht rfl) rfl (i:=1) rfl (aK rfl) rfl rfl (eZ (fG rfl (fZ (fU A_129 Z_129 rfl (i:=1) rfl rfl) ?_)))
 exact (pN (Et x))
theorem Ou {A B:Int} {D:Nat} (hD:0 < D) (hA:(dg A.natAbs).length ≤ 17592186044415) (hB:(dg B.natAbs).length ≤ 17592186044415) (hD2:(dg D).length ≤ 17592186044415):bH Tryz.prog 224 [gI A,gI B,aI D] (QT (Qi.mk' A B D)):=by
 have hg1:=Fw hA hB
 have hg2:=Fw hg1 hD2
 have hgp:Nat.gcd (Nat.gcd A.natAbs B.natAbs) D ≠ 0:=fun e=>by have:=Nat.gcd_eq_zero_iff.1 e; omega
 refine bH.intro Tryz.func224 rfl Tryz.ntmps224 rfl (fun cx=>(ts (rn rfl (fK (Ht rfl)) fun B3=>(rn rfl (fK (Ht rfl)) fun B4=>(rn rfl (eG (Ts:=[Is (.bool false),Is (.slice none 0 0),Is (.bool false),Is (.slice none 0 0),Is (.slice none 0 0)]) O_131 rfl (fun V=>aW zd (aW zd (aW zd (aW zd (aW zd (aG))))))) fun B6=>(eZ (ts (ro rfl (eJ pD (Ht rfl) rfl) (ro rfl (fQ A_46 Z_46 (Ht rfl) (i:=0) rfl rfl) ?_)))))))))
 refine ro rfl (eJ pD (Ht rfl) rfl) (ro rfl (fQ A_46 Z_46 (Ht rfl) (i:=1) rfl rfl) (ro rfl (cJ Tryz.call264 (Vs zo zo) ⟨(Ht rfl),(Ht rfl),trivial⟩) (rm rfl (ro rfl (cJ Tryz.call264 (Vs zo zo) ⟨(Ht rfl),(Ht rfl),trivial⟩) (ra rfl (eZ (cU (ts (rm rfl (ro rfl (dK U_46 (Ht rfl) aA) (ro rfl (dO (Ht rfl) (cV 1)) (rm rfl (fX rfl rfl (eU rfl rfl (Ht rfl) (fun h=>cZ (Ht rfl))) (fX rfl rfl (eU rfl rfl (Ht rfl) (fun h=>dJ U_46 Z_189 (fV rfl h) (cV 0) rfl (eQ (aP (by first | omega | (simp at h; omega)))))) ?_))))))))))))))
 refine fX rfl rfl (eU rfl rfl (Ht rfl) (fun h=>dV A_189 Z_189 (fV rfl h))) (fX rfl rfl (eU rfl rfl (Ht rfl) (fun h=>dO (fV rfl h) (cV 1))) (ro rfl (fM (Ht rfl) (fun h=>(fV rfl h))) (eZ (dX (Ht rfl) (fun hb=>?_) (fun hb=>?_)))))
 ·rw [Ye] at hb
  have hg:Qi.g3 A B D = 1:=by simpa [Qi.g3] using hb
  refine ts (ro rfl (eW A_129 Z_129 (Ht rfl) (i:=0) rfl rfl rfl) (ro rfl (eW A_129 Z_129 (Ht rfl) (i:=1) rfl rfl rfl) (rm rfl (ro rfl (uW (Ht rfl) (Ht rfl) (Ht rfl)) (gX Z_131 (Ht rfl) (Ht rfl) rfl (i:=2) rfl (aK rfl) rfl rfl (eZ (fG rfl (fZ (fU A_131 Z_131 rfl (i:=2) rfl rfl) ?_))))))))
  exact (Xp hD hg)
 ·refine cY (ts (ro rfl (eJ pD (Ht rfl) rfl) (ro rfl (fQ A_46 Z_46 (Ht rfl) (i := 0) rfl rfl) (rm rfl (ro rfl (cJ Tryz.call265 (Fs zo zo zo) ⟨(Ht rfl), (Ht rfl), trivial⟩) (rm rfl (ro rfl (dU (Ht rfl) rfl) (ro rfl (dU (Ht rfl) rfl) (ra rfl (ra rfl (eZ (ts (ro rfl (eJ pD (Ht rfl) rfl) (ro rfl (fQ A_46 Z_46 (Ht rfl) (i := 1) rfl rfl) (rm rfl (ro rfl (cJ Tryz.call265 (Fs zo zo zo) ⟨(Ht rfl), (Ht rfl), trivial⟩) (rm rfl (ro rfl (dU (Ht rfl) rfl) ?_))))))))))))))))))
  refine ro rfl (dU (Ht rfl) rfl) (ra rfl (ra rfl (eZ (ts (rm rfl (rm rfl (ro rfl (cJ Tryz.call265 (Fs zo zo zo) ⟨(Ht rfl),(Ht rfl),trivial⟩) (rm rfl (ro rfl (dU (Ht rfl) rfl) (ro rfl (dU (Ht rfl) rfl) (ra rfl (ra rfl (eZ (cU (fJ (m:=9) (dp 3 rfl (eJ sK (Ht rfl) rfl) (dq 54 0 rfl (fQ A_4 Z_4 (Ht rfl) (i:=0) rfl rfl) (dp 8 rfl (cZ (Ht rfl)) (dR 55 1 56 2 rfl (cJ Tryz.call266 xO ⟨(Ht rfl),(Ht rfl),trivial⟩) (dp 4 rfl (eJ sK (Ht rfl) rfl) ?_))))))))))))))))))))
  refine dq 58 4 rfl (fQ A_4 Z_4 (Ht rfl) (i:=1) rfl rfl) (dp 10 rfl (cZ (Ht rfl)) (dR 59 5 60 6 rfl (cJ Tryz.call266 xO ⟨(Ht rfl),(Ht rfl),trivial⟩) (dp 12 rfl (cZ (Ht rfl)) (fW bE rfl (by kernel_rfl) (zF (zF (aJ (aV (ro rfl (uW (Ht rfl) (Ht rfl) (Ht rfl)) (gX Z_131 (Ht rfl) (Ht rfl) rfl (i:=2) rfl (aK rfl) rfl rfl (eZ (fG rfl (fZ (fU A_131 Z_131 rfl (i:=2) rfl rfl) ?_)))))))))))))
  exact (Xq hD rfl)
theorem a3i {p q d:Int} (p1:-9223372036854775808 ≤ p) (p2:p ≤ 9223372036854775807) (q1:-9223372036854775808 ≤ q) (q2:q ≤ 9223372036854775807) (d1:-9223372036854775808 ≤ d) (d2:d ≤ 9223372036854775807) (hd:d ≠ 0):bH Tryz.prog 145 [aO .i64 p,aO .i64 q,aO .i64 d] (fI [QT (Qi.frac p q d),aO .i64 0]):=by
 have lp:=Se p1 p2; have lq:=Se q1 q2; have ld:=Se d1 d2; have np:=vK p; have nq:=vK q
 refine bH.intro Tryz.func145 rfl Tryz.ntmps145 rfl (fun cx=>(ts (rn rfl (eG (Ts:=[Is (.bool false),Is (.slice none 0 0),Is (.bool false),Is (.slice none 0 0),Is (.slice none 0 0)]) O_131 rfl (fun V=>aW zd (aW zd (aW zd (aW zd (aW zd (aG))))))) fun B6=>(ro rfl (cX (cV 0)) (eZ (cU (ts (rm rfl (ro rfl (jH (Ht rfl) cW) (eZ (nF (Ht rfl) (by simp [hd]) ?_)))))))))))
 refine cY (ts (rm rfl (ro rfl (cJ Tryz.call227 (Av d1 d2) ⟨(Ht rfl),trivial⟩) (rn rfl (eG (Ts:=[Is (.bool false),Is (.slice none 0 0)]) O_129 rfl (fun V=>aW zd (aW zd (aG)))) fun B8=>(gX Z_129 (Ht rfl) (Ht rfl) rfl (i:=1) rfl (aK rfl) rfl rfl (eZ (ts (rm rfl (ro rfl (cJ Tryz.call227 (Av p1 p2) ⟨(Ht rfl),trivial⟩) (rm rfl (ro rfl (cJ Tryz.call227 (Av q1 q2) ⟨(Ht rfl),trivial⟩) (rn rfl (eG (Ts:=[Is (.bool false),Is (.slice none 0 0)]) O_129 rfl (fun V=>aW zd (aW zd (aG)))) fun B9=>?_))))))))))))
 refine rn rfl (eG (Ts:=[Is (.bool false),Is (.slice none 0 0)]) O_129 rfl (fun V=>aW zd (aW zd (aG)))) fun B10=>gX Z_129 (Ht rfl) (Ht rfl) rfl (i:=2) rfl (aK rfl) rfl rfl (gX Z_129 (Ht rfl) (Ht rfl) rfl (i:=3) rfl (aK rfl) rfl rfl (eZ (cU (rG (fun (a:Int) (b:Int)=>Qi.mk' a b d.natAbs = Qi.frac p q d ∧ (dg a.natAbs).length ≤ 2 ∧ (dg b.natAbs).length ≤ 2) (fun (a:Int) (b:Int)=>[(6,bT B6 0),(8,bT B8 0),(9,bT B9 0),(10,bT B10 0)]) (fun (a:Int) (b:Int)=>[box B6 131 [Is (.bool false),Is (.slice none 0 0),Is (.bool false),Is (.slice none 0 0),Is (.slice none 0 0)],box B8 129 [aD (decide (d < 0)),aI (d).natAbs],box B9 129 [aD (decide (a < 0)),aI (a).natAbs],box B10 129 [aD (decide (b < 0)),aI (b).natAbs]]) ?_ (fun a b ⟨hab,ha,hb⟩=>?_)))))
 ·refine ts (ro rfl (eJ sK (Ht rfl) rfl) (ro rfl (fQ A_4 Z_4 (Ht rfl) (i := 1) rfl rfl) (eZ (dX (Ht rfl) (fun hn => ?_) (fun hn => ?_)))))
  ·simp only [decide_eq_true_eq] at hn
   refine fJ (m:=3) (dp 9 rfl (eW A_129 Z_129 (Ht rfl) (i:=2) rfl rfl rfl) (dq 22 0 rfl (cJ Tryz.call228 Ds ⟨(Ht rfl),trivial⟩) (dp 10 rfl (eW A_129 Z_129 (Ht rfl) (i:=3) rfl rfl rfl) (fW bE rfl (by kernel_rfl) (aJ (aJ (aJ (aV (ro rfl (cJ Tryz.call228 Ds ⟨(Ht rfl),trivial⟩) (gX Z_129 (Ht rfl) (Ht rfl) rfl (i:=2) rfl (aK rfl) rfl rfl (gX Z_129 (Ht rfl) (Ht rfl) rfl (i:=3) rfl (aK rfl) rfl rfl (eZ (bD (-p,-q) ⟨Qi.frac_neg hn,by dsimp only; omega,by dsimp only; omega⟩ (zS rfl) (aU (aB rfl) (aU (aB rfl) (aU (aB rfl) (aU (aB rfl) aY)))))))))))))))))
  ·simp only [decide_eq_false_iff_not] at hn
   refine cY (bD (p,q) ⟨Qi.frac_pos hn hd,by omega,by omega⟩ (zS rfl) (dM.refl _))
 ·refine ts (ro rfl (eW A_129 Z_129 (Ht rfl) (i := 2) rfl rfl rfl) (ro rfl (eW A_129 Z_129 (Ht rfl) (i := 3) rfl rfl rfl) (ro rfl (eJ pD (Ht rfl) rfl) (ro rfl (fQ A_46 Z_46 (Ht rfl) (i := 1) rfl rfl) (ro rfl (cJ Tryz.call224 (Ou zo zo zo zo) ⟨(Ht rfl), (Ht rfl), (Ht rfl), trivial⟩) (gX Z_131 (Ht rfl) (Ht rfl) rfl (i := 0) rfl (aK rfl) rfl rfl (ro rfl (cX (cV 0)) (eZ (bN rfl (fZ (fU A_131 Z_131 rfl (i := 0) rfl rfl) ?_) (eY rfl))))))))))
  exact (a5n hab)
theorem a51 {r:Rt}:bH Tryz.prog 151 [Hm r] (QT r.q):=by
 have hr1:=r.h1; have hr2:=r.h2; have hr3:=r.h3; have hr4:=r.h4; have hr5:=r.d1; have hr6:=r.d2; have hr0:=r.d0
 refine bH.intro Tryz.func151 rfl Tryz.ntmps151 rfl (fun cx=>(ts (rn rfl (fK (Ht rfl)) fun B1=>(rn rfl (eG (Ts:=[Is (.bool false),Is (.slice none 0 0),Is (.bool false),Is (.slice none 0 0),Is (.slice none 0 0)]) O_131 rfl (fun V=>aW zd (aW zd (aW zd (aW zd (aW zd (aG))))))) fun B2=>(eZ (cU (jW (fun (uu:Unit)=>True) (fun (uu:Unit)=>[(1,bT B1 0),(2,bT B2 0)]) (fun (uu:Unit)=>[box B1 102 [aO .i64 r.re,aO .i64 r.im,aO .i64 r.d],box B2 131 [Is (.bool false),Is (.slice none 0 0),Is (.bool false),Is (.slice none 0 0),Is (.slice none 0 0)]]) ?_ (fun uu _=>?_))))))))
 ·refine ts (ro rfl (eJ qP (Ht rfl) rfl) (ro rfl (fQ A_2 Z_2 (Ht rfl) (i := 0) rfl rfl) (ro rfl (jH (Ht rfl) cW) (eZ (dX (Ht rfl) (fun hb => ?_) (fun hb => ?_))))))
  ·simp only [decide_eq_true_eq] at hb
   refine dQ (ro rfl (eJ qP (Ht rfl) rfl) (lO Z_2 (Ht rfl) (cV 1) (i:=0) rfl (aK rfl) rfl (eZ (bD () trivial (zS rfl) (aU (aB (by rw [Rt.d,if_pos hb]; rfl)) (aU (aB rfl) aY))))))
  ·simp only [decide_eq_false_iff_not] at hb
   refine cY (bD () trivial (zS rfl) (aU (aB (by rw [Rt.d,if_neg hb])) (aU (aB rfl) aY)))
 ·refine ts (ro rfl (eJ Iu (Ht rfl) rfl) (ro rfl (fQ A_2 Z_2 (Ht rfl) (i := 0) rfl rfl) (ro rfl (eJ Iv (Ht rfl) rfl) (ro rfl (fQ A_2 Z_2 (Ht rfl) (i := 0) rfl rfl) (ro rfl (eJ qP (Ht rfl) rfl) (ro rfl (fQ A_2 Z_2 (Ht rfl) (i := 0) rfl rfl) (ro rfl (cJ Tryz.call145 (a3i hr1 hr2 hr3 hr4 hr5 hr6 hr0) ⟨(Ht rfl), (Ht rfl), (Ht rfl), trivial⟩) (rm rfl (ro rfl (dU (Ht rfl) rfl) (ro rfl (dU (Ht rfl) rfl) (rn rfl (eG (Ts := [Is (.bool false), Is (.slice none 0 0), Is (.bool false), Is (.slice none 0 0), Is (.slice none 0 0)]) O_131 rfl (fun V => aW zd (aW zd (aW zd (aW zd (aW zd (aG))))))) fun B3 => ?_)))))))))))
  refine gX Z_131 (Ht rfl) (Ht rfl) rfl (i:=2) rfl (aK rfl) rfl rfl (ra rfl (eZ (ts (ro rfl (eW A_131 Z_131 (Ht rfl) (i:=2) rfl rfl rfl) (gX Z_131 (Ht rfl) (Ht rfl) rfl (i:=1) rfl (aK rfl) rfl rfl (eZ ?_))))))
  exact fG rfl (fU A_131 Z_131 rfl (i:=1) rfl rfl)
theorem a50 {x:Qi} {L:Nat} [hx:aE x L] (h:L ≤ 17592186044415):bH Tryz.prog 274 [QT x] (QT x.imp):=by
 have hxa:=oE hx.fit; have hxb:=oF hx.fit; have hxd:=oG hx.fit
 have hxp:=x.den_pos
 have h5:(dg (0:Int).natAbs).length ≤ 0:=by rw [show (0:Int).natAbs = 0 from rfl,eO]; exact Nat.le_refl _
 refine bH.intro Tryz.func274 rfl Tryz.ntmps274 rfl (fun cx=>(ts (rn rfl (fK (Ht rfl)) fun B1=>(rn rfl (eG (Ts:=[Is (.bool false),Is (.slice none 0 0),Is (.bool false),Is (.slice none 0 0),Is (.slice none 0 0)]) O_131 rfl (fun V=>aW zd (aW zd (aW zd (aW zd (aW zd (aG))))))) fun B2=>(eZ (ts (ro rfl (eJ Wn (Ht rfl) rfl) (ro rfl (eW A_129 Z_129 (Ht rfl) (i:=0) rfl rfl rfl) (ro rfl (aM.imp (Va ) Cz) ?_)))))))))
 refine ro rfl (eJ Wo (Ht rfl) rfl) (ro rfl (fQ A_46 Z_46 (Ht rfl) (i:=0) rfl rfl) (ro rfl (cJ Tryz.call224 (Ou (by first | assumption | omega) zo zo zo) ⟨(Ht rfl),(Ht rfl),(Ht rfl),trivial⟩) (gX Z_131 (Ht rfl) (Ht rfl) rfl (i:=1) rfl (aK rfl) rfl rfl (eZ (fG rfl (fZ (fU A_131 Z_131 rfl (i:=1) rfl rfl) ?_))))))
 exact (a5n (Qi.mk_im0 x))
theorem Ov {x:Qi}:bH Tryz.prog 239 [QT x] (aO .i64 (mT x.a 0)):=by
 refine bH.intro Tryz.func239 rfl Tryz.ntmps239 rfl (fun cx=>(ts (rn rfl (fK (Ht rfl)) fun B1=>(ro rfl (cX (cV 0)) (eZ (cU (ts (ro rfl (eJ Iw (Ht rfl) rfl) (ro rfl (eJ sK (Ht rfl) rfl) (ro rfl (fQ A_4 Z_4 (Ht rfl) (i:=0) rfl rfl) (eZ (dX (Ht rfl) (fun hb=>?_) (fun hb=>?_)))))))))))))
 ·simp only [decide_eq_true_eq] at hb
  refine ts (ro rfl (cX cW) (eZ (fG rfl (fZ (eY rfl) ?_))))
  exact (aS (by rw [mT,if_pos hb]))
 ·simp only [decide_eq_false_iff_not] at hb
  refine cY (cU (ts (ro rfl (eJ Iw (Ht rfl) rfl) (ro rfl (eJ pD (Ht rfl) rfl) (ro rfl (fQ A_46 Z_46 (Ht rfl) (i:=0) rfl rfl) (ro rfl (dK U_46 (Ht rfl) aA) (ro rfl (eL (Ht rfl) (cV 0)) (eZ (dX (Ht rfl) (fun hc=>?_) (fun hc=>?_))))))))))
  ·simp only [decide_eq_true_eq] at hc
   have h0:x.a ≠ 0:=fun e=>by rw [e] at hc; simp [eO] at hc
   refine ts (ro rfl (cX (cV 1)) (eZ (fG rfl (fZ (eY rfl) ?_))))
   exact (aS (by rw [mT,if_neg hb,if_pos zo]; rfl))
  ·simp only [decide_eq_false_iff_not] at hc
   have h0:x.a = 0:=by have:=bF.1 (Nat.eq_zero_of_not_pos hc); omega
   refine cY (ts (ro rfl (cX (cV 0)) (eZ (fG rfl (fZ (eY rfl) ?_)))))
   exact (aS (by rw [mT,if_neg hb,if_neg zo]; rfl))
theorem a0x {x:Qi} {L:Nat} [hx:aE x L] (h:L ≤ 17592186044415):bH Tryz.prog 242 [QT x] (aO .i64 (mT x.b 0)):=by
 refine bH.intro Tryz.func242 rfl Tryz.ntmps242 rfl (fun cx=>(ts (rn rfl (fK (Ht rfl)) fun B1=>(ro rfl (cX (cV 0)) (eZ (ts (ro rfl (eW A_131 Z_131 (Ht rfl) (i:=0) rfl rfl rfl) (ro rfl (cJ Tryz.call274 (a50 zo) ⟨(Ht rfl),trivial⟩) (ro rfl (cJ Tryz.call239 Ov ⟨(Ht rfl),trivial⟩) (ra rfl (eZ (fG rfl (fZ (eY rfl) ?_)))))))))))))
 exact (aS (a1Z x))
theorem vB {x y:Qi} {L M:Nat} [hx:aE x L] [hy:aE y M] (h:L + 3 * M + 2 ≤ 17592186044415):bH Tryz.prog 40 [aH x,aH y] (fI [aH (x / y),aO .i64 (if y = Qi.zero then 3 else 0)]):=by
 have hxa:=oE hx.fit; have hxb:=oF hx.fit; have hxd:=oG hx.fit
 have hya:=oE hy.fit; have hyb:=oF hy.fit; have hyd:=oG hy.fit
 have hxp:=x.den_pos; have hyp:=y.den_pos; have hMp:=hy.pos
 refine bH.intro Tryz.func40 rfl Tryz.ntmps40 rfl (fun cx=>(ts (rn rfl (fK (Ht rfl)) fun B2=>(rn rfl (fK (Ht rfl)) fun B3=>(rn rfl (eG (Ts:=[Is (.bool false),Is (.slice none 0 0),Is (.bool false),Is (.slice none 0 0),Is (.slice none 0 0)]) O_51 rfl (fun V=>aW zd (aW zd (aW zd (aW zd (aW zd (aG))))))) fun B4=>(ro rfl (cX (cV 0)) (eZ (cU (ts (ro rfl (eW A_51 Z_51 (Ht rfl) (i:=1) rfl rfl rfl) ?_))))))))))
 refine ro rfl (cJ Tryz.call27 (Fk zo) ⟨(Ht rfl),trivial⟩) (ro rfl (eN (Ht rfl)) (eZ (dX (Ht rfl) (fun hb=>?_) (fun hb=>?_))))
 ·have h0 : y = Qi.zero := by simpa using hb
  refine ts (ro rfl (aM.imp (zB ) mJ) (gX Z_51 (Ht rfl) (Ht rfl) rfl (i:=2) rfl (aK rfl) rfl rfl (ro rfl (cX (cV 3)) (eZ (bN rfl (fZ (fU A_51 Z_51 rfl (i:=2) rfl rfl) ?_) (fZ (eY rfl) ?_))))))
  ·exact (lP (by rw [h0,Qi.div_zero]))
  ·exact (aS (by rw [if_pos h0]; rfl))
 ·have h0 : y ≠ Qi.zero := by simpa using hb
  have g1:=oU y.a y.a; have g2:=oU y.b y.b; have g3:=vK y.b
  have g4:=oT (x:=y.a * y.a) (y:=y.b * y.b) (L:=M + M) zo zo
  obtain ⟨c,hc⟩:∃ c,c = Qi.mk' y.a (-y.b) 1:=⟨_,rfl⟩
  obtain ⟨z,hz⟩:∃ z,z = x * c:=⟨_,rfl⟩
  have l1:(dg 1).length ≤ 1:=by rw [We (by decide) (by decide)]; exact Nat.le_refl _
  haveI fc:aE c M:=hc ▸ ⟨Qi.Fit.mk (by decide) hy.fit.1 (by rw [Int.natAbs_neg]; exact hy.fit.2.1) (Qi.one_lt hMp)⟩
  haveI fz:aE z (L + M + 1):=hz ▸ fitMul
  have hza:=oE fz.fit; have hzb:=oF fz.fit; have hzd:=oG fz.fit
  have hnp:=Qi.nrm_int_pos h0
  have hm:(((y.a * y.a + y.b * y.b).natAbs:Nat):Int) = y.a * y.a + y.b * y.b:=Int.natAbs_of_nonneg zo
  have hdp2:=Nat.mul_pos z.den_pos (show 0 < (y.a * y.a + y.b * y.b).natAbs by omega)
  have e1:=gN z.a y.den; have e2:=gN z.b y.den; have e3:=Bf z.den (y.a * y.a + y.b * y.b).natAbs
  refine cY (cU (fJ (m:=12) (dp 3 rfl (eJ fT (Ht rfl) rfl) (dq 12 0 rfl (eW A_49 Z_49 (Ht rfl) (i:=1) rfl rfl rfl) (dp 3 rfl (eJ fT (Ht rfl) rfl) (dq 14 2 rfl (eW A_49 Z_49 (Ht rfl) (i:=1) rfl rfl rfl) (dR 13 1 15 3 rfl (cJ K_132 (tY zo zo) ⟨(Ht rfl),(Ht rfl),trivial⟩) (dp 3 rfl (eJ gY (Ht rfl) rfl) (dq 17 5 rfl (eW A_49 Z_49 (Ht rfl) (i:=1) rfl rfl rfl) (dp 3 rfl (eJ gY (Ht rfl) rfl) (dq 19 7 rfl (eW A_49 Z_49 (Ht rfl) (i:=1) rfl rfl rfl) ?_)))))))))))
  refine dR 18 6 20 8 rfl (cJ K_132 (tY zo zo) ⟨(Ht rfl),(Ht rfl),trivial⟩) (dR 16 4 21 9 rfl (cJ K_133 (xN zo zo) ⟨(Ht rfl),(Ht rfl),trivial⟩) (C.D_new (Ei:=[]) rfl rfl rfl bW (eG (Ts:=[Is (.bool false),Is (.slice none 0 0)]) O_49 rfl (fun V=>aW zd (aW zd (aG)))) (fW bE rfl (by kernel_rfl) (zF (zF (aJ (aJ (aJ (C.F_new (fun B6=>aV (gX Z_49 (Ht rfl) (Ht rfl) rfl (i:=3) rfl (aK rfl) rfl rfl ?_)))))))))))
  refine eZ (cU (fJ (m:=10) (dp 2 rfl (eW A_51 Z_51 (Ht rfl) (i:=0) rfl rfl rfl) (dp 3 rfl (eJ fT (Ht rfl) rfl) (dq 24 1 rfl (eW A_49 Z_49 (Ht rfl) (i:=1) rfl rfl rfl) (dp 3 rfl (eJ gY (Ht rfl) rfl) (dq 26 3 rfl (eW A_49 Z_49 (Ht rfl) (i:=1) rfl rfl rfl) (dq 27 4 rfl (cJ K_135 pR ⟨(Ht rfl),trivial⟩) (d0 rfl (aM.imp (cR (xs:=[_]) U_47 Z_189 O_189 (cG (cV 1) cK) rfl rfl rfl) Jy) (C.D_step (Ei:=[(25,_),(28,_),(29,_)]) rfl rfl (bV (bG 2 rfl rfl) (bV (bG 5 rfl rfl) (bV (bG 6 rfl rfl) bW))) (dZ rfl (aM.imp (cJ K_134 (xM (by first | assumption | omega) zo zo zo) ⟨(Ht rfl),(Ht rfl),(Ht rfl),trivial⟩) (lP hc.symm))) ?_))))))))))
  refine dR 23 0 30 7 rfl (aM.imp (cJ K_45 (iT zo) ⟨(Ht rfl),(Ht rfl),trivial⟩) (lP hz.symm)) (C.D_new (Ei:=[]) rfl rfl rfl bW (eG (Ts:=[Is (.bool false),Is (.slice none 0 0),Is (.bool false),Is (.slice none 0 0),Is (.slice none 0 0)]) O_51 rfl (fun V=>aW zd (aW zd (aW zd (aW zd (aW zd (aG))))))) (fW bE rfl (by kernel_rfl) (zF (zF (aJ (C.F_new (fun B7=>aV ?_)))))))
  refine gX Z_51 (Ht rfl) (Ht rfl) rfl (i:=4) rfl (aK rfl) rfl rfl (eZ (cU (fJ (m:=14) (dp 7 rfl (eJ fT (Ht rfl) rfl) (dq 32 0 rfl (eW A_49 Z_49 (Ht rfl) (i:=4) rfl rfl rfl) (dp 3 rfl (eW A_51 Z_51 (Ht rfl) (i:=1) rfl rfl rfl) (dq 34 2 rfl (cJ K_137 pQ ⟨(Ht rfl),trivial⟩) (dR 33 1 35 3 rfl (cJ K_136 (lB zo zo) ⟨(Ht rfl),(Ht rfl),trivial⟩) (dp 7 rfl (eJ gY (Ht rfl) rfl) (dq 37 5 rfl (eW A_49 Z_49 (Ht rfl) (i:=4) rfl rfl rfl) ?_))))))))))
  refine dp 3 rfl (eW A_51 Z_51 (Ht rfl) (i:=1) rfl rfl rfl) (dq 39 7 rfl (cJ K_137 pQ ⟨(Ht rfl),trivial⟩) (dR 38 6 40 8 rfl (cJ K_136 (lB zo zo) ⟨(Ht rfl),(Ht rfl),trivial⟩) (dp 7 rfl (eW A_51 Z_51 (Ht rfl) (i:=4) rfl rfl rfl) (dq 42 10 rfl (cJ K_137 pQ ⟨(Ht rfl),trivial⟩) (dp 6 rfl (eJ eP (Ht rfl) rfl) (dq 44 12 rfl (fQ A_47 Z_47 (Ht rfl) (i:=3) rfl rfl) (fW bE rfl (by kernel_rfl) (zF (zF (zF (aJ (aJ (aV ?_)))))))))))))
  refine ro rfl (cJ Tryz.call138 (Ia zo zo) ⟨(Ht rfl),(Ht rfl),trivial⟩) (ro rfl (cJ K_134 (xM (by first | assumption | omega) zo zo zo) ⟨(Ht rfl),(Ht rfl),(Ht rfl),trivial⟩) (gX Z_51 (Ht rfl) (Ht rfl) rfl (i:=2) rfl (aK rfl) rfl rfl (ro rfl (cX (cV 0)) (eZ (bN rfl (fZ (fU A_51 Z_51 rfl (i:=2) rfl rfl) ?_) (fZ (eY rfl) ?_))))))
  ·exact (lP (Qi.mk_divP x h0 (hc ▸ hz) hm))
  ·exact (aS (by rw [if_neg h0]; rfl))
end
section
open Go Go.RowKit
theorem lH:Tryz.prog.info? 29 = some Tryz.t29:=by kernel_rfl
end
section
open Go Go.RowKit
theorem Lw {γ:Type} {l:List γ} {T:γ → Ty} {p:γ → Bool} [sh:∀ x,dI (T x) 5 true] (hl:l.length ≤ 1000000):bH Tryz.prog 233 [jT 5 (l.map T),Dk Tryz.prog γ (fun x=>[T x]) (fun x=>aD (p x))] (aO .i64 (Ge p l)):=by
 refine bH.intro Tryz.func233 rfl Tryz.ntmps233 rfl (fun cx=>(ts (ro rfl (cX (cV 0)) (eZ (cU (ts (rm rfl (ro rfl (dK U_29 (Ht rfl) aA) (ro rfl (cZ (cV 0)) (eZ (eK ?_)))))))))))
 refine cF (fun (k : Nat) => k ≤ l.length ∧ ∀ (i : Nat) (x : γ), i < k → l[i]? = some x → p x = false) (fun (k : Nat) => l.length - k) (fun (k : Nat) => [(0, jT 5 (l.map T)), (1, Dk Tryz.prog γ (fun x => [T x]) (fun x => aD (p x))), (7, NT .i64 l.length), (8, NT .i64 k)]) (fun (k : Nat) => []) 0 ⟨Nat.zero_le _, fun i x h => by omega⟩
  (zS rfl) aY (fun k ⟨hk,hn⟩=>?_)
 refine ts (ro rfl (gZ (Ht rfl) (Ht rfl)) (eZ (cU (dX (Ht rfl) (fun hb=>?_) (fun hb=>?_)))))
 ·simp only [decide_eq_true_eq] at hb
  refine cY (cU (eK (ts (rm rfl (ra rfl (eZ (ts (rm rfl (rm rfl (rm rfl (ro rfl (dJ U_29 Z_51 (Ht rfl) (Ht rfl) rfl (eQ (mV hb))) (ro rfl (dV A_51 Z_51 (Ht rfl)) (ro rfl (pF (l[k]) (Ht rfl) ⟨(Ht rfl),trivial⟩) (eZ (dX (Ht rfl) (fun hc=>?_) (fun hc=>?_))))))))))))))))
  ·have hp : p l[k] = true := hc
   refine ts (rm rfl (ra rfl (eZ (fG rfl (fZ (eY rfl) ?_)))))
   exact (aS (Gf (mV hb) hp hn).symm)
  ·have hp : p l[k] = false := hc
   refine cY (bO (dQ (ro rfl (dW (Ht rfl) (cV 1) z6) (rm rfl (eZ ?_)))))
   refine fY (k + 1) ⟨hb, fun i x h1 h2 => by
    by_cases e:i = k
    ·subst e; rw [mV hb] at h2; obtain rfl:=Option.some.inj h2; exact hp
    ·exact hn i x zo h2⟩ zo (zS rfl) aY
 ·simp only [decide_eq_false_iff_not] at hb
  refine gW rfl (ts (ro rfl (cX cW) (eZ (fG rfl (fZ (eY rfl) ?_)))))
  exact (aS (xV (fun i x h=>hn i x (by have:=(List.getElem?_eq_some_iff.1 h).1; omega) h)).symm)
theorem uY {γ:Type} {l:List γ} {T:γ → Ty} {p:γ → Bool} [sh:∀ x,dI (T x) 5 true] (hl:l.length ≤ 1000000):bH Tryz.prog 162 [jT 5 (l.map T),Dk Tryz.prog γ (fun x=>[T x]) (fun x=>aD (p x))] (aD (l.any p)):=by
 refine bH.intro Tryz.func162 rfl Tryz.ntmps162 rfl (fun cx=>(ts (ro rfl (cX cW) (eZ (ts (rm rfl (rm rfl (ro rfl (cJ Tryz.call233 (Lw zo) ⟨(Ht rfl),(Ht rfl),trivial⟩) (ro rfl (lQ (Ht rfl) cW) (ra rfl (eZ (fG rfl (fZ (eY rfl) ?_)))))))))))))
 exact (dH (Bj p l))
theorem Lx {γ:Type} {l:List γ} {T:γ → Ty} {p:γ → Bool} [sh:∀ x,dI (T x) 1 false] (hl:l.length ≤ 1000000):bH Tryz.prog 231 [jT 1 (l.map T),Dk Tryz.prog γ (fun x=>[T x]) (fun x=>aD (p x))] (aO .i64 (Ge p l)):=by
 refine bH.intro Tryz.func231 rfl Tryz.ntmps231 rfl (fun cx=>(ts (ro rfl (cX (cV 0)) (eZ (cU (ts (rm rfl (ro rfl (dK U_30 (Ht rfl) aA) (ro rfl (cZ (cV 0)) (eZ (eK ?_)))))))))))
 refine cF (fun (k : Nat) => k ≤ l.length ∧ ∀ (i : Nat) (x : γ), i < k → l[i]? = some x → p x = false) (fun (k : Nat) => l.length - k) (fun (k : Nat) => [(0, jT 1 (l.map T)), (1, Dk Tryz.prog γ (fun x => [T x]) (fun x => aD (p x))), (7, NT .i64 l.length), (8, NT .i64 k)]) (fun (k : Nat) => []) 0 ⟨Nat.zero_le _, fun i x h => by omega⟩
  (zS rfl) aY (fun k ⟨hk,hn⟩=>?_)
 refine ts (ro rfl (gZ (Ht rfl) (Ht rfl)) (eZ (cU (dX (Ht rfl) (fun hb=>?_) (fun hb=>?_)))))
 ·simp only [decide_eq_true_eq] at hb
  refine cY (cU (eK (ts (rm rfl (ra rfl (eZ (ts (rm rfl (rm rfl (rm rfl (ro rfl (dJ U_30 Z_29 (Ht rfl) (Ht rfl) rfl (eQ (mV hb))) (ro rfl (dV A_29 Z_29 (Ht rfl)) (ro rfl (pF (l[k]) (Ht rfl) ⟨(Ht rfl),trivial⟩) (eZ (dX (Ht rfl) (fun hc=>?_) (fun hc=>?_))))))))))))))))
  ·have hp : p l[k] = true := hc
   refine ts (rm rfl (ra rfl (eZ (fG rfl (fZ (eY rfl) ?_)))))
   exact (aS (Gf (mV hb) hp hn).symm)
  ·have hp : p l[k] = false := hc
   refine cY (bO (dQ (ro rfl (dW (Ht rfl) (cV 1) z6) (rm rfl (eZ ?_)))))
   refine fY (k + 1) ⟨hb, fun i x h1 h2 => by
    by_cases e:i = k
    ·subst e; rw [mV hb] at h2; obtain rfl:=Option.some.inj h2; exact hp
    ·exact hn i x zo h2⟩ zo (zS rfl) aY
 ·simp only [decide_eq_false_iff_not] at hb
  refine gW rfl (ts (ro rfl (cX cW) (eZ (fG rfl (fZ (eY rfl) ?_)))))
  exact (aS (xV (fun i x h=>hn i x (by have:=(List.getElem?_eq_some_iff.1 h).1; omega) h)).symm)
theorem uZ {γ:Type} {l:List γ} {T:γ → Ty} {p:γ → Bool} [sh:∀ x,dI (T x) 1 false] (hl:l.length ≤ 1000000):bH Tryz.prog 156 [jT 1 (l.map T),Dk Tryz.prog γ (fun x=>[T x]) (fun x=>aD (p x))] (aD (l.any p)):=by
 refine bH.intro Tryz.func156 rfl Tryz.ntmps156 rfl (fun cx=>(ts (ro rfl (cX cW) (eZ (ts (rm rfl (rm rfl (ro rfl (cJ Tryz.call231 (Lx zo) ⟨(Ht rfl),(Ht rfl),trivial⟩) (ro rfl (lQ (Ht rfl) cW) (ra rfl (eZ (fG rfl (fZ (eY rfl) ?_)))))))))))))
 exact (dH (Bj p l))
theorem Mh {x:Qi} {L:Nat} [hx:aE x L] (h:L ≤ 8796093022208):bH Tryz.prog 247 [aH x] (aD (fB x)):=by
 haveI hz:aE Qi.zero 1:=aE.zero (Nat.le_refl 1)
 refine bH.intro Tryz.func247 rfl Tryz.ntmps247 rfl (fun cx=>(ts (rn rfl (fK (Ht rfl)) fun B1=>(ro rfl (cX cW) (eZ (ts (ro rfl (eW A_51 Z_51 (Ht rfl) (i:=0) rfl rfl rfl) (ro rfl (cJ Tryz.call169 Fn ⟨(Ht rfl),trivial⟩) (rm rfl (fX rfl rfl (eU rfl rfl (Ht rfl) (fun h=>eW A_51 Z_51 (Ht rfl) (i:=0) rfl rfl rfl)) (fX rfl rfl (eU rfl rfl (Ht rfl) (fun h=>aM.imp (zB ) mJ)) (fX rfl rfl (eU rfl rfl (Ht rfl) (fun h=>cJ Tryz.call76 (Ve zo) ⟨(fV rfl h),(fV rfl h),trivial⟩)) ?_))))))))))))
 refine fX rfl rfl (eU rfl rfl (Ht rfl) (fun h=>Bz (fV rfl h) cW)) (ro rfl (fM (Ht rfl) (fun h=>(fV rfl h))) (ra rfl (eZ (fG rfl (fZ (eY rfl) ?_)))))
 exact (dH (Yv x))
theorem Fr {x:Qi} {L:Nat} [hx:aE x L] (h:L ≤ 8796093022208):bH Tryz.prog 246 [aH x] (aD (!fB x)):=by
 refine bH.intro Tryz.func246 rfl Tryz.ntmps246 rfl (fun cx=>(ts (rn rfl (fK (Ht rfl)) fun B1=>(ro rfl (cX cW) (eZ (ts (ro rfl (eW A_51 Z_51 (Ht rfl) (i:=0) rfl rfl rfl) (ro rfl (cJ Tryz.call247 (Mh zo) ⟨(Ht rfl),trivial⟩) (ro rfl (eN (Ht rfl)) (ra rfl (eZ ?_)))))))))))
 exact fG rfl (eY rfl)
theorem yM {z:List Qi} {L:Nat} (hz:bP z L) (h:L ≤ 8796093022208) (hl:z.length ≤ 1000):bH Tryz.prog 183 [aR z] (aO .i64 (if z.all fB then 0 else 1)):=by
 obtain ⟨l,hzl⟩:∃ l:List {x:Qi // aE x L},z = l.map Subtype.val:=⟨z.attach.map fun x=>⟨x.1,hz x.1 x.2⟩,by simp⟩
 subst hzl
 have hll:l.length ≤ 1000:=by simpa using hl
 refine bH.intro Tryz.func183 rfl Tryz.ntmps183 rfl (fun cx=>(qJ (E':=[(0,_)]) (aZ rfl (kY (Us:=l.map fun x=>aH x.1) (by simp [List.map_map,Function.comp_def])) aX) ?_))
 refine ts (ro rfl (cX (cV 0)) (eZ (cU (ts (rm rfl (ro rfl (cJ Tryz.call162 (uY (l:=l) (T:=fun x=>aH x.1) (p:=fun x=>!fB x.1) zo) ⟨(Ht rfl),(bM.fn Tryz.call246 (γ:={x:Qi // aE x L}) (Ts:=fun x=>[aH x.1]) (U:=fun x=>aD (!fB x.1)) (fun x=>haveI:=x.2; Fr h)),trivial⟩) (eZ (dX (Ht rfl) (fun hb=>?_) (fun hb=>?_)))))))))
 ·have hn : ¬ (l.map Subtype.val).all fB = true := by simp at hb ⊢; exact hb
  refine ts (ro rfl (cX (cV 1)) (eZ (fG rfl (fZ (eY rfl) ?_))))
  exact (aS (by rw [if_neg hn]; rfl))
 ·have hn : (l.map Subtype.val).all fB = true := by simp at hb ⊢; exact hb
  refine cY (ts (ro rfl (cX (cV 0)) (eZ (fG rfl (fZ (eY rfl) ?_)))))
  exact (aS (by rw [if_pos hn]; rfl))
theorem Hw {l:List Qi} (hl:l.length ≤ 1000):gO Tryz.prog 158 [aR l] [] (Value) (fun v=>Is v) (fun v=>[cC 51 5 v (l.map aH)]) (fun _=>True):=by
 refine gO.intro Tryz.func158 rfl Tryz.ntmps158 rfl (fun cx Z=>(ts (ro rfl (cX cW) (eZ (cU (ts (rm rfl (ro rfl (Yj U_29 (Ht rfl)) (eZ (a0a (Ht rfl) (fun hb=>?_) (fun hb=>?_)))))))))))
 ·have hT : l.map aH = [] := hb rfl
  refine ts (ro rfl (cX cW) (eZ (yK 51 5 ?_)))
  exact kH (.slice none 0 0) trivial [0,1] ⟨⟨_,rfl,fun _ _ _ h=>h⟩,⟨_,rfl,(bR hT.symm)⟩,trivial⟩ (by decide) (yB rfl (eY rfl))
 ·refine cY (ts (rn rfl (Jt U_29 Z_51 O_51) fun B5 => (rm rfl (Rl (inf := Tryz.t51) lR jO rfl rfl rfl (Ht rfl) (Ht rfl) (i := 1) rfl (fun T hT => by obtain ⟨x, _, rfl⟩ := List.mem_map.1 hT; exact El.ag rfl) (by show _ * 88 ≤ _; simp only [List.length_map, List.length_nil]; omega) (by simp only [List.length_map, List.length_nil]; omega) rfl (fun v2 => ?_)))))
  refine ra rfl (eZ ?_)
  exact kH v2 trivial [0,1] ⟨⟨_,rfl,fun _ _ _ h=>h⟩,⟨_,rfl,fun _ _ _ h=>h⟩,trivial⟩ (by decide) (yB rfl (eY rfl))
theorem Fl {l:List Qi} (hl:l.length ≤ 1000):bH Tryz.prog 158 [aR l] (aR l):=(Hw hl).fun fun v _=>iW
theorem Oq {n:Nat} {f:Nat → Nat → Qi} (hn:n ≤ 1000):gO Tryz.prog 114 [NT .i64 n,Dk Tryz.prog (Fin n × Fin n) (fun x=>[NT .i64 x.1.1,NT .i64 x.2.1]) (fun x=>aH (f x.1.1 x.2.1))] [] (Nat) (fun B=>Is (.slice (some ⟨B,0,none⟩) n n)) (fun B=>[nR B 29 51 5 (cE aH (tab n fun i=>tab n (f i)))]) (fun _=>True):=by
 refine gO.intro Tryz.func114 rfl Tryz.ntmps114 rfl (fun cx Z=>(ts (ro rfl (cX cW) (eZ (ts (rm rfl (rn rfl (eM (T:=Is (.slice none 0 0)) (i:=Tryz.t29) V_30 lH rfl rfl (Ht rfl) rfl (fun _=>rfl) trivial (by show 24 * _ ≤ _; omega) zo) fun B9=>(ra rfl (eZ (cU (ts (rm rfl (ro rfl (gA U_30 (Ht rfl)) (ro rfl (cZ (cV 0)) (eZ (eK (nZ 1 rfl (uI (e:=51) (s:=5)) ?_)))))))))))))))))
 refine fS (fun (k : Nat) (m : List (List Qi)) => nM (fun i => tab n (f i)) n m k) (fun (k : Nat) (m : List (List Qi)) => n - k) (fun (k : Nat) (m : List (List Qi)) => [(0, NT .i64 n), (1, Dk Tryz.prog (Fin n × Fin n) (fun x => [NT .i64 x.1.1, NT .i64 x.2.1]) (fun x => aH (f x.1.1 x.2.1))), (5, Is (.slice (some ⟨B9, 0, none⟩) n n)), (11, NT .i64 n), (12, NT .i64 k)]) (fun (k : Nat) (m : List (List Qi)) => [Z, nR B9 29 51 5 (cE aH m)]) 0 (List.replicate n []) (nM.start _ _ _)
  (zS rfl) (aU (fun _ _ _ h=>h) (aU (cB (mL aH n)) aY)) (fun k m hS=>?_)
 refine ts (ro rfl (gZ (Ht rfl) (Ht rfl)) (eZ (cU (dX (Ht rfl) (fun hk=>?_) (fun hk=>?_)))))
 ·simp only [decide_eq_true_eq] at hk
  have hlen:=hS.len
  refine nG 1 (k) rfl (nQ (m:=m) (i:=k) zo) (fun v=>(cY (cU (eK (ts (rm rfl (ra rfl (eZ (ts (rm rfl (rm rfl (rm rfl (rn rfl (lV (T:=aH Qi.zero) (i:=Tryz.t51) lR jO rfl rfl (Ht rfl) rfl jQ (El.ag rfl) (by show 88 * _ ≤ _; omega) zo) fun B18=>(ro rfl (gQ U_30 Z_29 (Ht rfl) (Ht rfl) rfl zo (by rw [Nat.mul_one,Nat.zero_add])) ?_))))))))))))))
  refine uV Z_29 (Ht rfl) (Ht rfl) (by simp; omega) (j:=1) (l:=3) rfl rfl rfl ?_
  refine eZ (cU (cD [0,1,3] rfl (by decide) (dQ (rm rfl (rm rfl (ro rfl (gQ U_30 Z_29 (Ht rfl) (Ht rfl) rfl zo (by rw [Nat.mul_one,Nat.zero_add])) ?_))))))
  refine ro rfl (jZ A_29 Z_29 (Ht rfl) (j:=1) rfl) (ro rfl (rO U_29 (Ht rfl) (i:=2) rfl (show ((List.replicate n (aH Qi.zero)).length:Int) = ((n:Nat):Int) by simp)) (ro rfl (cZ (cV 0)) (eZ (eK ?_))))
  refine fS (fun (j : Nat) (out : List Qi) => nM (f k) n out j) (fun (j : Nat) (out : List Qi) => n - j) (fun (j : Nat) (out : List Qi) => [(0, NT .i64 n), (1, Dk Tryz.prog (Fin n × Fin n) (fun x => [NT .i64 x.1.1, NT .i64 x.2.1]) (fun x => aH (f x.1.1 x.2.1))), (5, Is (.slice (some ⟨B9, 0, none⟩) n n)), (6, NT .i64 k), (11, NT .i64 n), (12, NT .i64 k), (24, NT .i64 n), (25, NT .i64 j)]) (fun (j : Nat) (out : List Qi) => [Z, Di B9 29 51 5 (cE aH m) k B18, cC 51 5 B18 (out.map aH)]) 0 (List.replicate n Qi.zero) (nM.start _ _ _)
   (zS rfl) (aU (fun _ _ _ h=>h) (aU (fun _ _ _ h=>h) (aU (bR (tM aH _ _)) aY))) (fun j out hT=>?_)
  refine ts (ro rfl (gZ (Ht rfl) (Ht rfl)) (eZ (cU (dX (Ht rfl) (fun hj=>?_) (fun hj=>?_)))))
  ·simp only [decide_eq_true_eq] at hj
   have hlen2:=hT.len
   refine cY (cU (eK (ts (rm rfl (ra rfl (eZ (fJ (m:=9) (dp 5 rfl (cZ (Ht rfl)) (dp 6 rfl (cZ (Ht rfl)) (dR 28 0 29 1 rfl (gQ U_30 Z_29 (Ht rfl) (Ht rfl) rfl zo (by rw [Nat.mul_one,Nat.zero_add])) ?_))))))))))
   refine dq 30 2 rfl (jZ A_29 Z_29 (Ht rfl) (j:=1) rfl) (dp 7 rfl (cZ (Ht rfl)) (dp 1 rfl (cZ (Ht rfl)) (dp 6 rfl (cZ (Ht rfl)) (dp 7 rfl (cZ (Ht rfl)) (C.D_step (Ei:=[(33,_),(34,_),(35,_)]) rfl rfl (bV (bG 5 rfl rfl) (bV (bG 6 rfl rfl) (bV (bG 7 rfl rfl) bW))) (dZ rfl (pF ((⟨k,hk⟩,⟨j,hj⟩):Fin n × Fin n) (Ht rfl) ⟨(Ht rfl),(Ht rfl),trivial⟩)) (fW bE rfl (by kernel_rfl) (zF (zF (aJ (aV ?_))))))))))
   refine ro rfl (dP U_29 Z_51 (Ht rfl) (Ht rfl) rfl (i:=2) rfl (by first | omega | (simp; omega)) rfl) (nO Z_51 (Ht rfl) (Ht rfl) (El.ag rfl) (i:=2) rfl rfl (by first | omega | (simp; omega)) rfl (eZ (bO (dQ (ro rfl (dW (Ht rfl) (cV 1) z6) (rm rfl (eZ (fY (j + 1,_) (hT.next hj rfl) (by dsimp only; omega) (zS rfl) (aU (fun _ _ _ h=>h) (aU (fun _ _ _ h=>h) (aU (bR (fO aH _ _ _)) aY)))))))))))
  ·simp only [decide_eq_false_iff_not] at hj
   obtain rfl:j = n:=Nat.le_antisymm hT.kle zo
   have hfin:=hT.fin
   refine gW rfl (bO (fP 1 2 rfl rfl (by decide) (by simp; omega) ?_))
   refine dQ (ro rfl (dW (Ht rfl) (cV 1) z6) (rm rfl (eZ (cD [0,1] rfl (by decide) (fY (k + 1,_) (hS.next hk hfin) (by dsimp only; omega) (zS rfl) (aU (fun _ _ _ h=>h) (aU (cB (gH aH _ _ _)) aY)))))))
 ·simp only [decide_eq_false_iff_not] at hk
  obtain rfl:k = n:=Nat.le_antisymm hS.kle zo
  have hfin:=hS.fin
  refine gW rfl (ts (rm rfl (ra rfl (eZ ?_))))
  exact kH B9 trivial [0,1] ⟨⟨_,rfl,fun _ _ _ h=>h⟩,⟨_,rfl,(cB (by rw [hfin]))⟩,trivial⟩ (by decide) (yB rfl (eY rfl))
theorem Md {n:Nat} {f:Nat → Nat → Qi} (hn:n ≤ 1000):bH Tryz.prog 114 [NT .i64 n,Dk Tryz.prog (Fin n × Fin n) (fun x=>[NT .i64 x.1.1,NT .i64 x.2.1]) (fun x=>aH (f x.1.1 x.2.1))] (bB (tab n fun i=>tab n (f i))):=(Oq hn).fun fun B _ v S V h1 h2=>kY (by simp [cE,List.map_map,Function.comp_def]) v V (Pj (by simp [cE,aN]) (Nat.le_refl _) v S V h1 h2)
end
section
open Go Go.RowKit
theorem mC {n : Nat} {E : cT} {H : Hp} {d : Option Tmp} {t : TypeId} {pos : String} {af : Array Edge} {g : Option (Nat × Bool)}  :
  aM Tryz.prog n E H ⟨d,.build 32 #[],t,pos,af,g⟩ (eH [Is (.slice none 0 0),Is (.slice none 0 0)]) :=
 fH (parts := []) fun a V w hs => by
  refine ⟨.agg #[(.slice none 0 0),(.slice none 0 0)],?_,[(.slice none 0 0),(.slice none 0 0)],rfl,aW (⟨rfl,trivial⟩) (aW (⟨rfl,trivial⟩) (aG))⟩
  simp [Instr.build,Instr.fill,Sem.run_bind,Result.andThen,dS,O_32,U_32,Z_29,Z_30]
theorem vH {n : Nat} {E : cT} {H : Hp} {d : Option Tmp} {t : TypeId} {pos : String} {af : Array Edge} {g : Option (Nat × Bool)} {x0 x1 : Operand} {T0 T1 : Ty} [s0 : dI T0 1 false] (h0 : bM E x0 T0) [s1 : dI T1 1 false] (h1 : bM E x1 T1) :
  aM Tryz.prog n E H ⟨d,.build 32 #[(0,x0),(1,x1)],t,pos,af,g⟩ (eH [T0,T1]) :=
 fH (parts := [(0, x0), (1, x1)]) fun a V w hs => by
  have p0:=h0 n V a hs
  generalize e0:a.eval x0 = v0 at p0
  have q0:=(s0.ok v0 V p0).2.2 rfl
  have p1:=h1 n V a hs
  generalize e1:a.eval x1 = v1 at p1
  have q1:=(s1.ok v1 V p1).2.2 rfl
  refine ⟨.agg #[v0,v1],?_,[v0,v1],rfl,aW (⟨p0,q0⟩) (aW (⟨p1,q1⟩) (aG))⟩
  simp [e0,e1,Instr.build,Instr.fill,Sem.run_bind,Result.andThen,dS,q0.cells,q1.cells,O_32,U_32,Z_29,Z_30]
theorem kF (a:Addr) (w:World):(Instr.fieldAt 32 (.pointer (some a)) 0).run Tryz.prog w = .ok (.pointer (some (a.add 0))) w:=by
 simp [Instr.fieldAt,Instr.sureAddr,fieldPlace,Sem.run_bind,Result.andThen,U_32,Z_29]
end
section
open Go Go.RowKit
theorem a35 {s:List (List Qi)} {n i j:Nat} (hs:cM s n n) (hi:i < n) (hj:j < n):bH Tryz.prog 187 [NT .i64 i,NT .i64 j,PT (bB s)] (aH (gm s i j)):=by
 have h1:=hs.1; have h2:=hs.row hi
 refine bH.intro Tryz.func187 rfl Tryz.ntmps187 rfl (fun cx=>(ts (rn rfl (eG (Ts:=[Is (.bool false),Is (.slice none 0 0),Is (.bool false),Is (.slice none 0 0),Is (.slice none 0 0)]) O_51 rfl (fun V=>aW zd (aW zd (aW zd (aW zd (aW zd (aG))))))) fun B5=>(eZ (ts (ro rfl (dV A_30 Z_30 (Ht rfl)) (rm rfl (ro rfl (dJ U_30 Z_29 (Ht rfl) (Ht rfl) rfl (eQ (dY (d:=[]) zo))) (ro rfl (dV A_29 Z_29 (Ht rfl)) ?_)))))))))
 refine rm rfl (ro rfl (dJ U_29 Z_51 (Ht rfl) (Ht rfl) rfl (eQ (dY (d:=Qi.zero) zo))) (ro rfl (dV A_51 Z_51 (Ht rfl)) (gX Z_51 (Ht rfl) (Ht rfl) rfl (i:=0) rfl (aK rfl) rfl rfl (eZ ?_))))
 exact fG rfl (fU A_51 Z_51 rfl (i:=0) rfl rfl)
theorem Ib {z:List Qi} {s:List (List Qi)} {L:Nat} (hz:bP z L) (h:L ≤ 8796093022208) (hl:z.length ≤ 1000) (hl2:s.length ≤ 1000):bH Tryz.prog 85 [aR z,bB s] (fI [gT (dA (bS z s) z) (dA (bS z s) s),aO .i64 (bS z s)]):=by
 refine bH.intro Tryz.func85 rfl Tryz.ntmps85 rfl (fun cx=>(ts (rn rfl (qW (Ht rfl)) fun B3=>(rn rfl (eG (Ts:=[Is (.slice none 0 0),Is (.slice none 0 0)]) O_32 rfl (fun V=>aW zd (aW zd (aG)))) fun B4=>(ro rfl (cX (cV 0)) (eZ (cU (cU (gV (i:=0) (tt:=3) rfl rfl mF (dQ (rm rfl (ro rfl (dK U_29 (Ht rfl) aA) (ro rfl (gZ (Ht rfl) (cV 1)) (rm rfl (fX rfl rfl (eU rfl rfl (Ht rfl) (fun h=>cZ (Ht rfl))) (fX rfl rfl (eU rfl rfl (Ht rfl) (fun h=>dK U_29 (fV rfl h) aA)) ?_))))))))))))))))
 refine fX rfl rfl (eU rfl rfl (Ht rfl) (fun h=>eL (fV rfl h) (cV 8))) (ro rfl (jI (Ht rfl) (fun h=>(fV rfl h))) (rm rfl (fX rfl rfl (eU rfl rfl (Ht rfl) (fun h=>dV A_30 Z_30 (Ht rfl))) (fX rfl rfl (eU rfl rfl (Ht rfl) (fun h=>dK U_30 (fV rfl h) aA)) (fX rfl rfl (eU rfl rfl (Ht rfl) (fun h=>cZ (Ht rfl))) (fX rfl rfl (eU rfl rfl (Ht rfl) (fun h=>dK U_29 (fV rfl h) aA)) (fX rfl rfl (eU rfl rfl (Ht rfl) (fun h=>gB (fV rfl h) (fV rfl h))) ?_)))))))
 refine ro rfl (jI (Ht rfl) (fun h=>(fV rfl h))) (eZ (dX (Ht rfl) (fun hb=>?_) (fun hb=>?_)))
 ·have he := Js hb
  refine ts (ro rfl (aM.imp (mC ) mI) (gX Z_32 (Ht rfl) (Ht rfl) rfl (i:=1) rfl (aK rfl) rfl rfl (ro rfl (cX (cV 4)) (eZ (bN rfl (fZ (fU A_32 Z_32 rfl (i:=1) rfl rfl) ?_) (fZ (eY rfl) ?_))))))
  ·exact (Gk he (by decide))
  ·exact (aS he.symm)
 ·refine cY (cU (ts (ro rfl (dV A_30 Z_30 (Ht rfl)) (ro rfl (dK U_30 (Ht rfl) aA) (ro rfl (cZ (cV 0)) (eZ (eK ?_)))))))
  refine cF (fun (k : Nat) => k ≤ s.length ∧ ∀ (i : Nat) (r : List Qi), i < k → s[i]? = some r → r.length = z.length) (fun (k : Nat) => s.length - k) (fun (k : Nat) => [(0, aR z), (3, PT (bB s)), (4, bT B4 0), (25, bB s), (26, NT .i64 s.length), (27, NT .i64 k)]) (fun (k : Nat) => [SA.emp, box B4 32 [Is (.slice none 0 0), Is (.slice none 0 0)]]) 0 ⟨Nat.zero_le _, fun i r h => by omega⟩
   (zS rfl) (dM.refl _) (fun k ⟨hk,hr⟩=>?_)
  refine ts (ro rfl (gZ (Ht rfl) (Ht rfl)) (eZ (cU (dX (Ht rfl) (fun hc=>?_) (fun hc=>?_)))))
  ·simp only [decide_eq_true_eq] at hc
   refine cY (cU (eK (ts (ro rfl (dJ U_30 Z_29 (Ht rfl) (Ht rfl) rfl (eQ (mV hc))) (ro rfl (dV A_29 Z_29 (Ht rfl)) (ra rfl (eZ (ts (rm rfl (ro rfl (dK U_29 (Ht rfl) aA) (rm rfl (ro rfl (dK U_29 (Ht rfl) aA) (ro rfl (gB (Ht rfl) (Ht rfl)) (eZ (dX (Ht rfl) (fun hd=>?_) (fun hd=>?_))))))))))))))))
   ·have hd2 : ¬ (s[k]).length = z.length := by simpa using hd
    have he:=Mv (mV hc) hd2
    refine ts (ro rfl (aM.imp (mC ) mI) (gX Z_32 (Ht rfl) (Ht rfl) rfl (i:=1) rfl (aK rfl) rfl rfl (ro rfl (cX (cV 4)) (eZ (bN rfl (fZ (fU A_32 Z_32 rfl (i:=1) rfl rfl) ?_) (fZ (eY rfl) ?_))))))
    ·exact (Gk he (by decide))
    ·exact (aS he.symm)
   ·have hd2 : (s[k]).length = z.length := by simpa using hd
    refine cY (bO (dQ (ro rfl (dW (Ht rfl) (cV 1) z6) (rm rfl (eZ ?_)))))
    refine fY (k + 1) ⟨hc, fun i r h1 h2 => by
      by_cases e:i = k
      ·subst e; rw [mV hc] at h2; obtain rfl:=Option.some.inj h2; exact hd2
      ·exact hr i r zo h2⟩ zo (zS rfl) (dM.refl _)
  ·simp only [decide_eq_false_iff_not] at hc
   have hall:∀ (i:Nat) (r:List Qi),s[i]? = some r → r.length = z.length:=fun i r h=>hr i r (by have:=(List.getElem?_eq_some_iff.1 h).1; omega) h
   have hpos:=Mu hb hall
   refine gW rfl (cU (ts (rm rfl (ro rfl (cJ Tryz.call183 (yM hz h zo) ⟨(Ht rfl),trivial⟩) (ra rfl (eZ (ts (rm rfl (ro rfl (kA (Ht rfl) cW) (eZ (dX (Ht rfl) (fun hd=>?_) (fun hd=>?_))))))))))))
   ·have hd2 : ¬ (if z.all fB = true then (0 : Int) else 1) = 0 := by simpa using hd
    refine ts (ro rfl (aM.imp (mC ) mI) (rm rfl (gX Z_32 (Ht rfl) (Ht rfl) rfl (i:=1) rfl (aK rfl) rfl rfl (ra rfl (eZ (bN rfl (fZ (fU A_32 Z_32 rfl (i:=1) rfl rfl) ?_) (fZ (eY rfl) ?_)))))))
    ·exact (Gk hpos hd2)
    ·exact (aS hpos.symm)
   ·have hd2 : (if z.all fB = true then (0 : Int) else 1) = 0 := by simpa using hd
    have he:=hpos.trans hd2
    obtain ⟨h1,h2,hsh,_⟩:=uJ he
    refine cY (ts (rm rfl (ro rfl (cJ Tryz.call158 (Fl zo) ⟨(Ht rfl),trivial⟩) (rm rfl (ro rfl (dK U_29 (Ht rfl) aA) (ro rfl (oN (γ:=Fin z.length × Fin z.length) (Ts:=fun x=>[NT .i64 x.1.1,NT .i64 x.2.1]) (U:=fun x=>aH (gm s x.1.1 x.2.1)) Tryz.call187 (fun x=>a35 hsh x.1.2 x.2.2) ⟨(Ht rfl),trivial⟩) (ro rfl (cJ Tryz.call114 (eX (Md (n:=z.length) (f:=gm s) zo) (kY (by rw [← pV hsh]))) ⟨(Ht rfl),(Ht rfl),trivial⟩) ?_)))))))
    refine ro rfl (vH (Ht rfl) (Ht rfl)) (gX Z_32 (Ht rfl) (Ht rfl) rfl (i:=1) rfl (aK rfl) rfl rfl (ro rfl (cX (cV 0)) (eZ (bN rfl (fZ (fU A_32 Z_32 rfl (i:=1) rfl rfl) ?_) (fZ (eY rfl) ?_)))))
    ·exact (Xv he)
    ·exact (aS he.symm)
theorem oK {z:List Qi} {s:List (List Qi)}:bH Tryz.prog 22 [gT z s] (NT .i64 z.length):=by
 refine bH.intro Tryz.func22 rfl Tryz.ntmps22 rfl (fun cx=>(ts (rn rfl (fK (Ht rfl)) fun B1=>(ro rfl (cX (cV 0)) (eZ (ts (ro rfl (eJ kF (Ht rfl) rfl) (ro rfl (fQ A_29 Z_29 (Ht rfl) (i:=0) rfl rfl) (ro rfl (dK U_29 (Ht rfl) aA) (ra rfl (eZ ?_)))))))))))
 exact fG rfl (eY rfl)
theorem Hz {z:List Qi} {s:List (List Qi)} {i:Int}:bH Tryz.prog 106 [gT z s,aO .i64 i] (aD (decide (1 ≤ i ∧ i ≤ z.length))):=by
 refine bH.intro Tryz.func106 rfl Tryz.ntmps106 rfl (fun cx=>(ts (rn rfl (fK (Ht rfl)) fun B2=>(ro rfl (cX cW) (eZ (ts (rm rfl (ro rfl (lQ (Ht rfl) cW) (rm rfl (fX rfl rfl (eU rfl rfl (Ht rfl) (fun h=>cZ (Ht rfl))) (fX rfl rfl (eU rfl rfl (Ht rfl) (fun h=>eJ kF (Ht rfl) rfl)) (fX rfl rfl (eU rfl rfl (Ht rfl) (fun h=>fQ A_29 Z_29 (fV rfl h) (i:=0) rfl rfl)) (fX rfl rfl (eU rfl rfl (Ht rfl) (fun h=>dK U_29 (fV rfl h) aA)) (fX rfl rfl (eU rfl rfl (Ht rfl) (fun h=>Nb (fV rfl h) (fV rfl h))) ?_))))))))))))))
 refine ro rfl (fM (Ht rfl) (fun h=>(fV rfl h))) (ra rfl (eZ (fG rfl (fZ (eY rfl) ?_))))
 exact (dH (by rw [Bool.eq_iff_iff]; simp))
end
section
open Go Go.RowKit
theorem kP (a:Addr) (w:World):(Instr.fieldAt 32 (.pointer (some a)) 1).run Tryz.prog w = .ok (.pointer (some (a.add 1))) w:=by
 simp [Instr.fieldAt,Instr.sureAddr,fieldPlace,Sem.run_bind,Result.andThen,U_32,Z_30]
theorem mD (a:Addr) (w:World):(Instr.fieldAt 34 (.pointer (some a)) 0).run Tryz.prog w = .ok (.pointer (some (a.add 0))) w:=by
 simp [Instr.fieldAt,Instr.sureAddr,fieldPlace,Sem.run_bind,Result.andThen,U_34,Z_32]
theorem lG (a:Addr) (w:World):(Instr.fieldAt 34 (.pointer (some a)) 1).run Tryz.prog w = .ok (.pointer (some (a.add 2))) w:=by
 simp [Instr.fieldAt,Instr.sureAddr,fieldPlace,Sem.run_bind,Result.andThen,U_34,Z_30]
end
section
open Go Go.RowKit
theorem Vh {z:List Qi} {s:List (List Qi)} {i:Int} (hl:z.length ≤ 1000):bH Tryz.prog 23 [gT z s,aO .i64 i] (fI [aH (Yu z i),aO .i64 (if 1 ≤ i ∧ i ≤ z.length then 0 else 1)]):=by
 refine bH.intro Tryz.func23 rfl Tryz.ntmps23 rfl (fun cx=>(ts (rn rfl (fK (Ht rfl)) fun B2=>(rn rfl (eG (Ts:=[Is (.bool false),Is (.slice none 0 0),Is (.bool false),Is (.slice none 0 0),Is (.slice none 0 0)]) O_51 rfl (fun V=>aW zd (aW zd (aW zd (aW zd (aW zd (aG))))))) fun B4=>(ro rfl (cX (cV 0)) (eZ (cU (ts (ro rfl (eW A_32 Z_32 (Ht rfl) (i:=0) rfl rfl rfl) (rm rfl (ro rfl (cJ Tryz.call106 Hz ⟨(Ht rfl),(Ht rfl),trivial⟩) ?_)))))))))))
 refine ro rfl (eN (Ht rfl)) (eZ (dX (Ht rfl) (fun hb=>?_) (fun hb=>?_)))
 ·have hn : ¬ (1 ≤ i ∧ i ≤ (z.length : Int)) := by simpa only [Bool.not_eq_true', decide_eq_false_iff_not] using hb
  refine ts (ro rfl (aM.imp (zB ) mJ) (gX Z_51 (Ht rfl) (Ht rfl) rfl (i:=1) rfl (aK rfl) rfl rfl (ro rfl (cX (cV 1)) (eZ (bN rfl (fZ (fU A_51 Z_51 rfl (i:=1) rfl rfl) ?_) (fZ (eY rfl) ?_))))))
  ·exact (lP (by rw [Yu,if_neg hn]))
  ·exact (aS (by rw [if_neg hn]; rfl))
 ·have hp : 1 ≤ i ∧ i ≤ (z.length : Int) := by simpa only [Bool.not_eq_false', decide_eq_true_eq] using hb
  have hq:(i - 1).toNat < z.length:=by omega
  refine cY (ts (ro rfl (eJ kF (Ht rfl) rfl) (ro rfl (fQ A_29 Z_29 (Ht rfl) (i:=0) rfl rfl) (rm rfl (ro rfl (iK (Ht rfl) cW (Db zo)) (ro rfl (dJ U_29 Z_51 (Ht rfl) (Ht rfl) (by omega:i - 1 = (((i - 1).toNat:Nat):Int)) (eQ (dY (d:=Qi.zero) hq))) (ro rfl (dV A_51 Z_51 (Ht rfl)) (gX Z_51 (Ht rfl) (Ht rfl) rfl (i:=1) rfl (aK rfl) rfl rfl (ro rfl (cX (cV 0)) (eZ (bN rfl (fZ (fU A_51 Z_51 rfl (i:=1) rfl rfl) ?_) (fZ (eY rfl) ?_))))))))))))
  ·exact (lP (by rw [Yu,if_pos hp]))
  ·exact (aS (by rw [if_pos hp]; rfl))
theorem a5z {z:List Qi} {s:List (List Qi)} {i j:Int} (hs:cM s z.length z.length) (hl:z.length ≤ 1000):bH Tryz.prog 25 [gT z s,aO .i64 i,aO .i64 j] (fI [aH (Yt z.length s i j),aO .i64 (if (1 ≤ i ∧ i ≤ z.length) ∧ 1 ≤ j ∧ j ≤ z.length then 0 else 1)]):=by
 have hs1:=hs.1
 refine bH.intro Tryz.func25 rfl Tryz.ntmps25 rfl (fun cx=>(ts (rn rfl (fK (Ht rfl)) fun B3=>(rn rfl (eG (Ts:=[Is (.bool false),Is (.slice none 0 0),Is (.bool false),Is (.slice none 0 0),Is (.slice none 0 0)]) O_51 rfl (fun V=>aW zd (aW zd (aW zd (aW zd (aW zd (aG))))))) fun B6=>(ro rfl (cX (cV 0)) (eZ (cU (ts (ro rfl (eW A_32 Z_32 (Ht rfl) (i:=0) rfl rfl rfl) (rm rfl (ro rfl (cJ Tryz.call106 Hz ⟨(Ht rfl),(Ht rfl),trivial⟩) ?_)))))))))))
 refine ro rfl (eN (Ht rfl)) (rm rfl (fX rfl rfl (eU rfl rfl (Ht rfl) (fun h=>eW A_32 Z_32 (Ht rfl) (i:=0) rfl rfl rfl)) (fX rfl rfl (eU rfl rfl (Ht rfl) (fun h=>cZ (Ht rfl))) (fX rfl rfl (eU rfl rfl (Ht rfl) (fun h=>cJ Tryz.call106 Hz ⟨(fV rfl h),(fV rfl h),trivial⟩)) (fX rfl rfl (eU rfl rfl (Ht rfl) (fun h=>eN (fV rfl h))) (ro rfl (jI (Ht rfl) (fun h=>(fV rfl h))) (eZ (dX (Ht rfl) (fun hb=>?_) (fun hb=>?_)))))))))
 ·have hn : ¬ ((1 ≤ i ∧ i ≤ (z.length : Int)) ∧ 1 ≤ j ∧ j ≤ (z.length : Int)) := by simp only [Bool.or_eq_true, Bool.not_eq_true', decide_eq_false_iff_not] at hb; exact fun k => hb.elim (fun h => h k.1) (fun h => h k.2)
  refine ts (rn rfl (eG (Ts:=[Is (.bool false),Is (.slice none 0 0),Is (.bool false),Is (.slice none 0 0),Is (.slice none 0 0)]) O_51 rfl (fun V=>aW zd (aW zd (aW zd (aW zd (aW zd (aG))))))) fun B8=>(eZ (ts (ro rfl (eW A_51 Z_51 (Ht rfl) (i:=2) rfl rfl rfl) (gX Z_51 (Ht rfl) (Ht rfl) rfl (i:=1) rfl (aK rfl) rfl rfl (ro rfl (cX (cV 1)) (eZ (bN rfl (fZ (fU A_51 Z_51 rfl (i:=1) rfl rfl) ?_) (fZ (eY rfl) ?_)))))))))
  ·exact (fun v V k=>by rw [Yt,if_neg hn]; exact mJ v V k)
  ·exact (aS (by rw [if_neg hn]; rfl))
 ·have hp : (1 ≤ i ∧ i ≤ (z.length : Int)) ∧ 1 ≤ j ∧ j ≤ (z.length : Int) := by simpa only [Bool.or_eq_false_iff, Bool.not_eq_false', decide_eq_true_eq] using hb
  have hq:(i - 1).toNat < s.length:=by omega
  have hq2:(j - 1).toNat < (s.getD (i - 1).toNat []).length:=by rw [hs.row zo]; omega
  refine cY (ts (ro rfl (eJ kP (Ht rfl) rfl) (ro rfl (fQ A_30 Z_30 (Ht rfl) (i:=0) rfl rfl) (rm rfl (ro rfl (iK (Ht rfl) cW (Db zo)) (ro rfl (dJ U_30 Z_29 (Ht rfl) (Ht rfl) (by omega:i - 1 = (((i - 1).toNat:Nat):Int)) (eQ (dY (d:=[]) hq))) (ro rfl (dV A_29 Z_29 (Ht rfl)) (rm rfl (ro rfl (iK (Ht rfl) cW (Db zo)) (ro rfl (dJ U_29 Z_51 (Ht rfl) (Ht rfl) (by omega:j - 1 = (((j - 1).toNat:Nat):Int)) (eQ (dY (d:=Qi.zero) hq2))) ?_))))))))))
  refine ro rfl (dV A_51 Z_51 (Ht rfl)) (gX Z_51 (Ht rfl) (Ht rfl) rfl (i:=1) rfl (aK rfl) rfl rfl (ro rfl (cX (cV 0)) (eZ (bN rfl (fZ (fU A_51 Z_51 rfl (i:=1) rfl rfl) ?_) (fZ (eY rfl) ?_)))))
  ·exact (lP (by rw [Yt,if_pos hp]))
  ·exact (aS (by rw [if_pos hp]; rfl))
theorem qL {z:List Qi} {s c:List (List Qi)}:bH Tryz.prog 51 [fD z s c] (gT z s):=by
 refine bH.intro Tryz.func51 rfl Tryz.ntmps51 rfl (fun cx=>(ts (rn rfl (fK (Ht rfl)) fun B1=>(rn rfl (eG (Ts:=[Is (.slice none 0 0),Is (.slice none 0 0)]) O_32 rfl (fun V=>aW zd (aW zd (aG)))) fun B2=>(eZ (ts (ro rfl (eJ mD (Ht rfl) rfl) (ro rfl (eW A_32 Z_32 (Ht rfl) (i:=0) rfl rfl rfl) (gX Z_32 (Ht rfl) (Ht rfl) rfl (i:=1) rfl (aK rfl) rfl rfl (eZ ?_))))))))))
 exact fG rfl (fU A_32 Z_32 rfl (i:=1) rfl rfl)
theorem a0s {z:List Qi} {s c:List (List Qi)} {i j:Int} (hs:cM c c.length c.length) (hl:c.length ≤ 1000):bH Tryz.prog 87 [fD z s c,aO .i64 i,aO .i64 j] (fI [aH (Yt c.length c i j),aO .i64 (if (1 ≤ i ∧ i ≤ c.length) ∧ 1 ≤ j ∧ j ≤ c.length then 0 else 1)]):=by
 refine bH.intro Tryz.func87 rfl Tryz.ntmps87 rfl (fun cx=>(ts (rn rfl (fK (Ht rfl)) fun B3=>(rn rfl (eG (Ts:=[Is (.bool false),Is (.slice none 0 0),Is (.bool false),Is (.slice none 0 0),Is (.slice none 0 0)]) O_51 rfl (fun V=>aW zd (aW zd (aW zd (aW zd (aW zd (aG))))))) fun B6=>(ro rfl (cX (cV 0)) (eZ (cU (ts (rm rfl (ro rfl (tI (Ht rfl) cW) (rm rfl (fX rfl rfl (eU rfl rfl (Ht rfl) (fun h=>cZ (Ht rfl))) ?_))))))))))))
 refine fX rfl rfl (eU rfl rfl (Ht rfl) (fun h=>eJ lG (Ht rfl) rfl)) (fX rfl rfl (eU rfl rfl (Ht rfl) (fun h=>fQ A_30 Z_30 (fV rfl h) (i:=0) rfl rfl)) (fX rfl rfl (eU rfl rfl (Ht rfl) (fun h=>dK U_30 (fV rfl h) aA)) (fX rfl rfl (eU rfl rfl (Ht rfl) (fun h=>Bz (fV rfl h) (fV rfl h))) (ro rfl (jI (Ht rfl) (fun h=>(fV rfl h))) (rm rfl (fX rfl rfl (eU rfl rfl (Ht rfl) (fun h=>cZ (Ht rfl))) (fX rfl rfl (eU rfl rfl (Ht rfl) (fun h=>tI (fV rfl h) cW)) ?_)))))))
 refine ro rfl (jI (Ht rfl) (fun h=>(fV rfl h))) (rm rfl (fX rfl rfl (eU rfl rfl (Ht rfl) (fun h=>cZ (Ht rfl))) (fX rfl rfl (eU rfl rfl (Ht rfl) (fun h=>eJ lG (Ht rfl) rfl)) (fX rfl rfl (eU rfl rfl (Ht rfl) (fun h=>fQ A_30 Z_30 (fV rfl h) (i:=0) rfl rfl)) (fX rfl rfl (eU rfl rfl (Ht rfl) (fun h=>dK U_30 (fV rfl h) aA)) (fX rfl rfl (eU rfl rfl (Ht rfl) (fun h=>Bz (fV rfl h) (fV rfl h))) (ro rfl (jI (Ht rfl) (fun h=>(fV rfl h))) (eZ (dX (Ht rfl) (fun hb=>?_) (fun hb=>?_))))))))))
 ·have hn : ¬ ((1 ≤ i ∧ i ≤ (c.length : Int)) ∧ 1 ≤ j ∧ j ≤ (c.length : Int)) := by simp only [Bool.or_eq_true, decide_eq_true_eq] at hb; omega
  refine ts (rn rfl (eG (Ts:=[Is (.bool false),Is (.slice none 0 0),Is (.bool false),Is (.slice none 0 0),Is (.slice none 0 0)]) O_51 rfl (fun V=>aW zd (aW zd (aW zd (aW zd (aW zd (aG))))))) fun B8=>(eZ (ts (ro rfl (eW A_51 Z_51 (Ht rfl) (i:=2) rfl rfl rfl) (gX Z_51 (Ht rfl) (Ht rfl) rfl (i:=1) rfl (aK rfl) rfl rfl (ro rfl (cX (cV 1)) (eZ (bN rfl (fZ (fU A_51 Z_51 rfl (i:=1) rfl rfl) ?_) (fZ (eY rfl) ?_)))))))))
  ·exact (fun v V k=>by rw [Yt,if_neg hn]; exact mJ v V k)
  ·exact (aS (by rw [if_neg hn]; rfl))
 ·have hp : (1 ≤ i ∧ i ≤ (c.length : Int)) ∧ 1 ≤ j ∧ j ≤ (c.length : Int) := by simp only [Bool.or_eq_false_iff, decide_eq_false_iff_not] at hb; omega
  have hq:(i - 1).toNat < c.length:=by omega
  have hq2:(j - 1).toNat < (c.getD (i - 1).toNat []).length:=by rw [hs.row zo]; omega
  refine cY (ts (ro rfl (eJ lG (Ht rfl) rfl) (ro rfl (fQ A_30 Z_30 (Ht rfl) (i:=0) rfl rfl) (rm rfl (ro rfl (iK (Ht rfl) cW (Db zo)) (ro rfl (dJ U_30 Z_29 (Ht rfl) (Ht rfl) (by omega:i - 1 = (((i - 1).toNat:Nat):Int)) (eQ (dY (d:=[]) hq))) (ro rfl (dV A_29 Z_29 (Ht rfl)) (rm rfl (ro rfl (iK (Ht rfl) cW (Db zo)) (ro rfl (dJ U_29 Z_51 (Ht rfl) (Ht rfl) (by omega:j - 1 = (((j - 1).toNat:Nat):Int)) (eQ (dY (d:=Qi.zero) hq2))) ?_))))))))))
  refine ro rfl (dV A_51 Z_51 (Ht rfl)) (gX Z_51 (Ht rfl) (Ht rfl) rfl (i:=1) rfl (aK rfl) rfl rfl (ro rfl (cX (cV 0)) (eZ (bN rfl (fZ (fU A_51 Z_51 rfl (i:=1) rfl rfl) ?_) (fZ (eY rfl) ?_)))))
  ·exact (lP (by rw [Yt,if_pos hp]))
  ·exact (aS (by rw [if_pos hp]; rfl))
end
section
open Go Go.RowKit
theorem Fz (a:Addr) (w:World):(Instr.fieldAt 25 (.pointer (some a)) 0).run Tryz.prog w = .ok (.pointer (some (a.add 0))) w:=by
 simp [Instr.fieldAt,Instr.sureAddr,fieldPlace,Sem.run_bind,Result.andThen,U_25,Z_22]
theorem zJ (a:Addr) (w:World):(Instr.fieldAt 25 (.pointer (some a)) 1).run Tryz.prog w = .ok (.pointer (some (a.add 1))) w:=by
 simp [Instr.fieldAt,Instr.sureAddr,fieldPlace,Sem.run_bind,Result.andThen,U_25,Z_23]
theorem zK (a:Addr) (w:World):(Instr.fieldAt 25 (.pointer (some a)) 2).run Tryz.prog w = .ok (.pointer (some (a.add 2))) w:=by
 simp [Instr.fieldAt,Instr.sureAddr,fieldPlace,Sem.run_bind,Result.andThen,U_25,Z_23]
theorem Xd:Tryz.prog.info? 131 = some Tryz.t131:=by kernel_rfl
theorem a0V:Tryz.prog.info? 35 = some Tryz.t35:=by kernel_rfl
theorem Nt:Tryz.prog.underlying 30 = some (.slice 29):=by kernel_rfl
theorem a4B:Tryz.prog.underlying 35 = some (.slice 131):=by kernel_rfl
theorem a4C:Tryz.prog.underlying 36 = some (.slice 35):=by kernel_rfl
end
section
open Go Go.RowKit
theorem xL {m:List (List Rt)} (hm:m.length ≤ 1000) (hr:∀ r,r ∈ m → r.length ≤ 1000):bH Tryz.prog 86 [xG m] (bB (rq m)):=by
 refine bH.intro Tryz.func86 rfl Tryz.ntmps86 rfl (fun cx=>(ts (ro rfl (cX cW) (eZ (ts (rm rfl (ro rfl (dK U_23 (Ht rfl) aA) (rn rfl (lV (T:=aR []) (i:=Tryz.t29) Nt lH rfl rfl (Ht rfl) rfl Jw El.one (by show 24 * _ ≤ _; omega) zo) fun B8=>(ra rfl (eZ (cU (ts (rm rfl (ro rfl (dK U_23 (Ht rfl) aA) (ro rfl (cZ (cV 0)) (eZ (eK ?_)))))))))))))))))
 refine fS (fun (k : Nat) (out : List (List Qi)) => nM (fun i => (m.getD i default).map Rt.q) m.length out k) (fun (k : Nat) (out : List (List Qi)) => m.length - k) (fun (k : Nat) (out : List (List Qi)) => [(3, Is B8), (9, xG m), (10, NT .i64 m.length), (11, NT .i64 k)]) (fun (k : Nat) (out : List (List Qi)) => [cC 29 1 B8 (out.map aR)]) 0 (List.replicate m.length []) (nM.start _ _ _)
  (zS rfl) (aU (bR (tM aR _ _)) aY) (fun k out hS=>?_)
 refine ts (ro rfl (gZ (Ht rfl) (Ht rfl)) (eZ (cU (dX (Ht rfl) (fun hk=>?_) (fun hk=>?_)))))
 ·simp only [decide_eq_true_eq] at hk
  have hlen:=hS.len
  have hrk : (m.getD k default).length ≤ 1000 := by
   have e:m.getD k default = m[k]:=by simp [List.getD,hk]
   rw [e]; exact hr _ (List.getElem_mem hk)
  refine cY (cU (eK (ts (rm rfl (ro rfl (dJ U_23 Z_22 (Ht rfl) (Ht rfl) rfl (eQ (dY (d:=default) hk))) (ro rfl (dV A_22 Z_22 (Ht rfl)) (ra rfl (ra rfl (eZ (dQ (rm rfl (rm rfl (rm rfl (ro rfl (cJ Tryz.call48 (tW zo) ⟨(Ht rfl),trivial⟩) (ro rfl (dP U_30 Z_29 (Ht rfl) (Ht rfl) rfl (i:=0) rfl (by first | omega | (simp; omega)) rfl) (nO Z_29 (Ht rfl) (Ht rfl) El.one (i:=0) rfl rfl (by first | omega | (simp; omega)) rfl (eZ (bO ?_))))))))))))))))))
  refine dQ (ro rfl (dW (Ht rfl) (cV 1) z6) (rm rfl (eZ (fY (k + 1,_) (hS.next hk rfl) (by dsimp only; omega) (zS rfl) (aU (bR (fO aR _ _ _)) aY)))))
 ·simp only [decide_eq_false_iff_not] at hk
  obtain rfl:k = m.length:=Nat.le_antisymm hS.kle zo
  have hfin:=hS.fin
  rw [Cn m (fun r=>r.map Rt.q)] at hfin
  refine gW rfl (gV (i:=0) (tt:=3) rfl rfl iW (ts (rm rfl (ra rfl (eZ (fG rfl (fZ (eY rfl) ?_)))))))
  exact (kY (by rw [hfin]))
theorem a4Z {z:List Rt} {s c:List (List Rt)}:bH Tryz.prog 15 [Ug z s c] (aD (xS z s c)):=by
 refine bH.intro Tryz.func15 rfl Tryz.ntmps15 rfl (fun cx=>(ts (rn rfl (fK (Ht rfl)) fun B1=>(ro rfl (cX cW) (eZ (cU (ts (ro rfl (eJ Fz (Ht rfl) rfl) (ro rfl (fQ A_22 Z_22 (Ht rfl) (i:=0) rfl rfl) (ro rfl (dK U_22 (Ht rfl) aA) (ro rfl (eL (Ht rfl) (cV 9)) (rm rfl (fX rfl rfl (eU rfl rfl (Ht rfl) (fun h=>eJ zJ (Ht rfl) rfl)) (fX rfl rfl (eU rfl rfl (Ht rfl) (fun h=>fQ A_23 Z_23 (fV rfl h) (i:=0) rfl rfl)) (fX rfl rfl (eU rfl rfl (Ht rfl) (fun h=>dK U_23 (fV rfl h) aA)) ?_)))))))))))))))
 refine fX rfl rfl (eU rfl rfl (Ht rfl) (fun h=>eL (fV rfl h) (cV 9))) (ro rfl (jI (Ht rfl) (fun h=>(fV rfl h))) (rm rfl (fX rfl rfl (eU rfl rfl (Ht rfl) (fun h=>eJ zK (Ht rfl) rfl)) (fX rfl rfl (eU rfl rfl (Ht rfl) (fun h=>fQ A_23 Z_23 (fV rfl h) (i:=0) rfl rfl)) (fX rfl rfl (eU rfl rfl (Ht rfl) (fun h=>dK U_23 (fV rfl h) aA)) (fX rfl rfl (eU rfl rfl (Ht rfl) (fun h=>eL (fV rfl h) (cV 9))) (ro rfl (jI (Ht rfl) (fun h=>(fV rfl h))) (eZ ?_))))))))
 refine dX (Ht rfl) (fun hb=>?_) (fun hb=>?_)
 ·refine ts (ro rfl (cX cW) (eZ (fG rfl (fZ (eY rfl) ?_))))
  exact (dH (Sj hb).symm)
 ·have hbl : z.length ≤ 9 ∧ s.length ≤ 9 ∧ c.length ≤ 9 := by have hb2 := hb; simp only [Bool.or_eq_false_iff, decide_eq_false_iff_not] at hb2; omega
  refine cY (cU (ts (ro rfl (eJ zJ (Ht rfl) rfl) (ro rfl (fQ A_23 Z_23 (Ht rfl) (i:=0) rfl rfl) (ro rfl (dK U_23 (Ht rfl) aA) (ro rfl (cZ (cV 0)) (eZ (eK ?_))))))))
  refine cF (fun (k : Nat) => k ≤ s.length ∧ ∀ (i : Nat) (r : List Rt), i < k → s[i]? = some r → r.length ≤ 9) (fun (k : Nat) => s.length - k) (fun (k : Nat) => [(1, bT B1 0), (24, xG s), (25, NT .i64 s.length), (26, NT .i64 k)]) (fun (k : Nat) => [box B1 25 [pP z, xG s, xG c]]) 0 ⟨Nat.zero_le _, fun i r h => by omega⟩
   (zS rfl) (dM.refl _) (fun k ⟨hk,hr⟩=>?_)
  refine ts (ro rfl (gZ (Ht rfl) (Ht rfl)) (eZ (cU (dX (Ht rfl) (fun hd=>?_) (fun hd=>?_)))))
  ·simp only [decide_eq_true_eq] at hd
   refine cY (cU (eK (ts (ro rfl (dJ U_23 Z_22 (Ht rfl) (Ht rfl) rfl (eQ (mV hd))) (ro rfl (dV A_22 Z_22 (Ht rfl)) (ra rfl (eZ (ts (rm rfl (ro rfl (dK U_22 (Ht rfl) aA) (ro rfl (eL (Ht rfl) (cV 9)) (eZ (dX (Ht rfl) (fun he=>?_) (fun he=>?_))))))))))))))
   ·simp only [decide_eq_true_eq] at he
    refine ts (ro rfl (cX cW) (eZ (fG rfl (fZ (eY rfl) ?_))))
    exact (dH (Si (mV hd) he).symm)
   ·simp only [decide_eq_false_iff_not] at he
    refine cY (bO (dQ (ro rfl (dW (Ht rfl) (cV 1) z6) (rm rfl (eZ ?_)))))
    refine fY (k + 1) ⟨hd, fun i r h1 h2 => by
      by_cases e:i = k
      ·subst e; rw [mV hd] at h2; obtain rfl:=Option.some.inj h2; omega
      ·exact hr i r zo h2⟩ zo (zS rfl) (dM.refl _)
  ·simp only [decide_eq_false_iff_not] at hd
   have hall:∀ (i:Nat) (r:List Rt),s[i]? = some r → r.length ≤ 9:=fun i r h=>hr i r (by have:=(List.getElem?_eq_some_iff.1 h).1; omega) h
   refine gW rfl (cU (ts (ro rfl (eJ zK (Ht rfl) rfl) (ro rfl (fQ A_23 Z_23 (Ht rfl) (i:=0) rfl rfl) (ro rfl (dK U_23 (Ht rfl) aA) (ro rfl (cZ (cV 0)) (eZ (eK ?_))))))))
   refine cF (fun (k : Nat) => k ≤ c.length ∧ ∀ (i : Nat) (r : List Rt), i < k → c[i]? = some r → r.length ≤ 9) (fun (k : Nat) => c.length - k) (fun (k : Nat) => [(1, bT B1 0), (35, xG c), (36, NT .i64 c.length), (37, NT .i64 k)]) (fun (k : Nat) => [box B1 25 [pP z, xG s, xG c]]) 0 ⟨Nat.zero_le _, fun i r h => by omega⟩
    (zS rfl) (dM.refl _) (fun k ⟨hk2,hr2⟩=>?_)
   refine ts (ro rfl (gZ (Ht rfl) (Ht rfl)) (eZ (cU (dX (Ht rfl) (fun hd2=>?_) (fun hd2=>?_)))))
   ·simp only [decide_eq_true_eq] at hd2
    refine cY (cU (eK (ts (ro rfl (dJ U_23 Z_22 (Ht rfl) (Ht rfl) rfl (eQ (mV hd2))) (ro rfl (dV A_22 Z_22 (Ht rfl)) (ra rfl (eZ (ts (rm rfl (ro rfl (dK U_22 (Ht rfl) aA) (ro rfl (eL (Ht rfl) (cV 9)) (eZ (dX (Ht rfl) (fun he=>?_) (fun he=>?_))))))))))))))
    ·simp only [decide_eq_true_eq] at he
     refine ts (ro rfl (cX cW) (eZ (fG rfl (fZ (eY rfl) ?_))))
     exact (dH (Sh (mV hd2) he).symm)
    ·simp only [decide_eq_false_iff_not] at he
     refine cY (bO (dQ (ro rfl (dW (Ht rfl) (cV 1) z6) (rm rfl (eZ ?_)))))
     refine fY (k + 1) ⟨hd2, fun i r h1 h2 => by
       by_cases e:i = k
       ·subst e; rw [mV hd2] at h2; obtain rfl:=Option.some.inj h2; omega
       ·exact hr2 i r zo h2⟩ zo (zS rfl) (dM.refl _)
   ·simp only [decide_eq_false_iff_not] at hd2
    have hall2:∀ (i:Nat) (r:List Rt),c[i]? = some r → r.length ≤ 9:=fun i r h=>hr2 i r (by have:=(List.getElem?_eq_some_iff.1 h).1; omega) h
    refine gW rfl (ts (ro rfl (cX cW) (eZ (fG rfl (fZ (eY rfl) ?_)))))
    exact (dH (Wt hb hall hall2).symm)
theorem Dt {m:List Rt} (hm:m.length ≤ 1000):bH Tryz.prog 50 [pP m] (jT 5 ((m.map Rt.q).map QT)):=by
 refine bH.intro Tryz.func50 rfl Tryz.ntmps50 rfl (fun cx=>(ts (ro rfl (cX cW) (eZ (ts (ro rfl (cX cW) (eZ (cU (ts (rm rfl (ro rfl (dK U_22 (Ht rfl) aA) (ro rfl (cZ (cV 0)) (eZ (eK (yK 131 5 ?_)))))))))))))))
 refine kD (fun (k : Nat) (out : List (Qi)) (v : Value) => k ≤ m.length ∧ out = (m.map Rt.q).take k) (fun (k : Nat) (out : List (Qi)) (v : Value) => m.length - k) (fun (k : Nat) (out : List (Qi)) (v : Value) => [(3, Is v), (6, pP m), (7, NT .i64 m.length), (8, NT .i64 k)]) (fun (k : Nat) (out : List (Qi)) (v : Value) => [cC 131 5 v (out.map QT)]) 0 [] (.slice none 0 0) ⟨Nat.zero_le _, rfl⟩
  (zS rfl) (dM.refl _) (fun k out v ⟨hk,ho⟩=>?_)
 refine ts (ro rfl (gZ (Ht rfl) (Ht rfl)) (eZ (cU (dX (Ht rfl) (fun hd=>?_) (fun hd=>?_)))))
 ·simp only [decide_eq_true_eq] at hd
  have hol:out.length ≤ 1000:=by rw [ho,List.length_take]; omega
  refine cY (cU (eK (ts (ro rfl (dJ U_22 Z_102 (Ht rfl) (Ht rfl) rfl (eQ (dY (d:=default) hd))) (ro rfl (dV A_102 Z_102 (Ht rfl)) (rn rfl (eG (Ts:=[Is (.int .i64 0),Is (.int .i64 0),Is (.int .i64 0)]) O_102 rfl (fun V=>aW zd (aW zd (aW zd (aG))))) fun B5=>(gX Z_102 (Ht rfl) (Ht rfl) rfl (i:=1) rfl (aK rfl) rfl rfl (eZ (dQ (rm rfl (ro rfl (eW A_102 Z_102 (Ht rfl) (i:=1) rfl rfl rfl) ?_)))))))))))
  refine ro rfl (cJ Tryz.call151 a51 ⟨(Ht rfl),trivial⟩) (ro rfl (cR (xs:=[.tmp 14]) U_35 Z_131 O_131 (cG (Ht rfl) cK) rfl rfl rfl) (qH (inf:=Tryz.t131) a4B Xd rfl rfl rfl (Ht rfl) (Ht rfl) (i:=0) rfl (by simp) (fun T hT=>by simp at hT; subst hT; exact El.ag rfl) (by show _ * 88 ≤ _; simp only [List.length_map,List.length_cons,List.length_nil]; omega) (by simp only [List.length_map,List.length_cons,List.length_nil]; omega) rfl (fun v2=>?_)))
  refine ra rfl (eZ (bO (dQ (ro rfl (dW (Ht rfl) (cV 1) z6) (rm rfl (eZ (cD [0] rfl (by decide) (fY (k + 1,_,v2) ⟨by omega,Cq (g:=Rt.q) hd ho⟩ (by dsimp only; omega) (zS rfl) (aU (bR (qK QT _ _)) aY)))))))))
 ·simp only [decide_eq_false_iff_not] at hd
  have hfin:=Cp ho (by simp only [List.length_map]; omega)
  refine gW rfl (gV (i:=0) (tt:=3) rfl rfl iW (ts (rm rfl (ra rfl (eZ (fG rfl (fZ (eY rfl) ?_)))))))
  exact (kY (by rw [hfin]))
theorem Du {m:List (List Rt)} (hm:m.length ≤ 1000) (hr:∀ r,r ∈ m → r.length ≤ 1000):bH Tryz.prog 91 [xG m] (jT 1 ((rq m).map Lo)):=by
 refine bH.intro Tryz.func91 rfl Tryz.ntmps91 rfl (fun cx=>(ts (ro rfl (cX cW) (eZ (ts (ro rfl (cX cW) (eZ (cU (ts (rm rfl (ro rfl (dK U_23 (Ht rfl) aA) (ro rfl (cZ (cV 0)) (eZ (eK (yK 35 1 ?_)))))))))))))))
 refine kD (fun (k : Nat) (out : List (List Qi)) (v : Value) => k ≤ m.length ∧ out = (rq m).take k) (fun (k : Nat) (out : List (List Qi)) (v : Value) => m.length - k) (fun (k : Nat) (out : List (List Qi)) (v : Value) => [(3, Is v), (6, xG m), (7, NT .i64 m.length), (8, NT .i64 k)]) (fun (k : Nat) (out : List (List Qi)) (v : Value) => [cC 35 1 v (out.map Lo)]) 0 [] (.slice none 0 0) ⟨Nat.zero_le _, rfl⟩
  (zS rfl) (dM.refl _) (fun k out v ⟨hk,ho⟩=>?_)
 refine ts (ro rfl (gZ (Ht rfl) (Ht rfl)) (eZ (cU (dX (Ht rfl) (fun hd=>?_) (fun hd=>?_)))))
 ·simp only [decide_eq_true_eq] at hd
  have hol:out.length ≤ 1000:=by rw [ho,List.length_take]; omega
  have hrk : (m.getD k default).length ≤ 1000 := by
   have e:m.getD k default = m[k]:=by simp [List.getD,hd]
   rw [e]; exact hr _ (List.getElem_mem hd)
  refine cY (cU (eK (ts (ro rfl (dJ U_23 Z_22 (Ht rfl) (Ht rfl) rfl (eQ (dY (d:=default) hd))) (ro rfl (dV A_22 Z_22 (Ht rfl)) (ra rfl (eZ (dQ (rm rfl (rm rfl (ro rfl (cJ Tryz.call50 (Dt zo) ⟨(Ht rfl),trivial⟩) (ro rfl (cR (xs:=[.tmp 14]) U_36 Z_35 Tryz.zeroValue35 (cG (Ht rfl) cK) rfl rfl rfl) (qH (inf:=Tryz.t35) a4C a0V rfl rfl rfl (Ht rfl) (Ht rfl) (i:=0) rfl (by simp) (fun T hT=>by simp at hT; subst hT; exact El.one) (by show _ * 24 ≤ _; simp only [List.length_map,List.length_cons,List.length_nil]; omega) (by simp only [List.length_map,List.length_cons,List.length_nil]; omega) rfl (fun v2=>?_))))))))))))))
  refine ra rfl (eZ (bO (dQ (ro rfl (dW (Ht rfl) (cV 1) z6) (rm rfl (eZ (cD [0] rfl (by decide) (fY (k + 1,_,v2) ⟨by omega,Cq (g:=(fun r=>r.map Rt.q)) hd ho⟩ (by dsimp only; omega) (zS rfl) (aU (bR (qK Lo _ _)) aY)))))))))
 ·simp only [decide_eq_false_iff_not] at hd
  have hfin:=Cp ho (by simp only [List.length_map]; omega)
  refine gW rfl (gV (i:=0) (tt:=3) rfl rfl iW (ts (rm rfl (ra rfl (eZ (fG rfl (fZ (eY rfl) ?_)))))))
  exact (kY (by rw [hfin]))
end
end Go.Proofs.YteohomnhncjcnaaGreat
