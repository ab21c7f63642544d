/- What functions of the program compute, proved by walks over their code, and the plain mathematics of it; a part of the proof in the last text. -/
import Derived.Test.YthcmlodgnfekeaaGreatP04
set_option linter.unusedVariables false
set_option linter.unusedSimpArgs false
set_option maxRecDepth 100000
set_option maxHeartbeats 4000000
namespace Go.Proofs.YthcmlodgnfekeaaGreat
section
open Go Go.RowKit
open Fl
theorem Ea {l:List (Nat × Nat)} {f:Qi} {L:Nat} (hf:aH f L):aH (iZ l f).1 (20 * L + 2000):=by
 by_cases h:bM l = 0
 ·by_cases h2 : fS f = true
  ·have ok := oO h
   by_cases h3:mS l f < 0
   ·rw [iE h h2 h3]; exact aH.zero zo
   ·obtain ⟨m, hm⟩ : ∃ m : Nat, mS l f = (m : Int) := ⟨(mS l f).toNat, by omega⟩
    obtain ⟨h4,h5,-,-,-⟩:=wE ok h2 hm
    rw [wI h h2 hm]
    obtain ⟨f1,f2⟩:=ok.fit h5
    obtain ⟨f3,f4⟩:=ok.fit (show m - 1 < l.length by omega)
    haveI fb:=vZ ok hf
    obtain ⟨K,hK⟩:∃ K,K = 38 + L + 1:=⟨_,rfl⟩
    rw [← hK] at fb
    have g : aH (cR (eF (lv l) (m - 1)) (eV (lv l) (m - 1)) (eF (lv l) m) (eV (lv l) m) (iY l f)) (((9 + ((K + 9 + 1) + 9 + 1) + 1) + (9 + (9 + (K + 9 + 1) + 1) + 1) + 1) + 3 * ((9 + (K + 9 + 1) + 1) + ((K + 9 + 1) + 9 + 1) + 1) + 2) := by
     unfold cR; infer_instance
    exact g.le zo
  ·rw [jI h (by simpa using h2)]; exact aH.zero zo
 ·rw [kD rfl h]; exact aH.zero zo
theorem Mc (l:List (Nat × Nat)):fM (pV l) 38:=by
 by_cases h:bM l = 0
 ·rw [nU h]; exact xY (oO h)
 ·rw [qT rfl h]; intro x hx; cases hx
theorem An (l:List (Nat × Nat)):(pV l).length ≤ l.length:=by
 by_cases h:bM l = 0
 ·rw [nU h,eA]; exact Nat.le_refl _
 ·rw [qT rfl h]; exact Nat.zero_le _
theorem zV {l:List (Nat × Nat)} {f:Rt}:bA Tryz.prog 4 [Lj l,Ll f] (aB true):=by
 have f1:aH f.q 2:=inferInstance
 have gC:=Ea (l:=l) f1
 have gG:=Mc l
 refine bA.intro Tryz.func4 rfl Tryz.ntmps4 rfl (fun cx=>(ts (rn rfl (fG (Ht rfl)) fun B3=>(ro rfl (cQ cV) (eX (cK (ts (rm rfl (ro rfl (dG U_51 (Ht rfl) aA) (ro rfl (dA (Ht rfl) (cJ 300)) (eX (dQ (Ht rfl) (fun hb=>?_) (fun hb=>?_)))))))))))))
 ·refine ts (ro rfl (cZ Tryz.call22 tC trivial) (ra rfl (eX ?_)))
  exact fW rfl (eU rfl)
 ·have hn : l.length ≤ 300 := by simpa using hb
  have hgl:=An l
  refine cU (ts (rm rfl (ro rfl (cZ Tryz.call23 (uX zo) ⟨(Ht rfl),trivial⟩) (ra rfl (eX (ts (rm rfl (ro rfl (cZ Tryz.call24 (Oc zo) ⟨(Ht rfl),trivial⟩) (rm rfl (ro rfl (dK (Ht rfl) rfl) (ro rfl (dK (Ht rfl) rfl) (ra rfl (ra rfl (eX (ts (rm rfl (ro rfl (cZ Tryz.call25 (Jj zo) ⟨(Ht rfl),trivial⟩) (rm rfl (ro rfl (dK (Ht rfl) rfl) (ro rfl (dK (Ht rfl) rfl) (ra rfl (ra rfl (eX (ts (rm rfl (ro rfl (eJ A_23 Z_23 (Ht rfl) (i:=0) rfl rfl rfl) (ro rfl (cZ Tryz.call14 (Bn (r:=f)) ⟨(Ht rfl),trivial⟩) ?_)))))))))))))))))))))))))))
  refine ro rfl (cZ Tryz.call26 (nN (l:=l) (f:=f.q) (L:=2) f1 (by decide) (by decide) zo) ⟨(Ht rfl),(Ht rfl),trivial⟩) (rm rfl (ro rfl (dK (Ht rfl) rfl) (ro rfl (dK (Ht rfl) rfl) (rn rfl (eW (Ts:=[Is (.bool false),Is (.slice none 0 0),Is (.bool false),Is (.slice none 0 0),Is (.slice none 0 0)]) O_32 rfl (fun V=>aW zd (aW zd (aW zd (aW zd (aW zd (aG))))))) fun B10=>(gQ Z_32 (Ht rfl) (Ht rfl) rfl (i:=1) rfl (aK rfl) rfl rfl ?_)))))
  refine ra rfl (eX (ts (rm rfl (ro rfl (eJ A_23 Z_23 (Ht rfl) (i:=0) rfl rfl rfl) (ro rfl (cZ Tryz.call16 (a12 (r:=f)) ⟨(Ht rfl),trivial⟩) ?_)))))
  refine ro rfl (cZ Tryz.call27 (xM (l:=l) (f:=f.q) (L:=2) f1 (by decide) (by decide) zo) ⟨(Ht rfl),(Ht rfl),trivial⟩) (rm rfl (ro rfl (dK (Ht rfl) rfl) (ro rfl (dK (Ht rfl) rfl) (rn rfl (eW (Ts:=[Is (.bool false),Is (.slice none 0 0),Is (.bool false),Is (.slice none 0 0),Is (.slice none 0 0)]) O_40 rfl (fun V=>aW zd (aW zd (aW zd (aW zd (aW zd (aG))))))) fun B12=>(gQ Z_40 (Ht rfl) (Ht rfl) rfl (i:=2) rfl (aK rfl) rfl rfl ?_)))))
  refine ra rfl (eX (ts (rm rfl (rm rfl (ro rfl (kB (Ht rfl) (Ht rfl)) (rm rfl (fQ rfl rfl (eK rfl rfl (Ht rfl) (fun h=>cX (Ht rfl))) (fQ rfl rfl (eK rfl rfl (Ht rfl) (fun h=>cX (Ht rfl))) (fQ rfl rfl (eK rfl rfl (Ht rfl) (fun h=>cZ Tryz.call28 (Nx (l:=pV l) gG (by decide) (by decide) zo) ⟨(fJ rfl h),(fJ rfl h),trivial⟩)) (ro rfl (cO (Ht rfl) (fun h=>(fJ rfl h))) (rm rfl (fQ rfl rfl (eK rfl rfl (Ht rfl) (fun h=>cX (Ht rfl))) (fQ rfl rfl (eK rfl rfl (Ht rfl) (fun h=>cX (Ht rfl))) ?_)))))))))))))
  refine fQ rfl rfl (eK rfl rfl (Ht rfl) (fun h=>kB (fJ rfl h) (fJ rfl h))) (ro rfl (cO (Ht rfl) (fun h=>(fJ rfl h))) (rm rfl (fQ rfl rfl (eK rfl rfl (Ht rfl) (fun h=>eJ A_32 Z_32 (Ht rfl) (i:=1) rfl rfl rfl)) (fQ rfl rfl (eK rfl rfl (Ht rfl) (fun h=>eJ A_40 Z_40 (Ht rfl) (i:=2) rfl rfl rfl)) (fQ rfl rfl (eK rfl rfl (Ht rfl) (fun h=>cZ Tryz.call17 (Jg (x:=(iZ l f.q).1) (y:=(iZ l f.q).1) (hx:=gC) (hy:=gC) (by decide) (by decide)) ⟨(fJ rfl h),(fJ rfl h),trivial⟩)) ?_)))))
  refine ro rfl (cO (Ht rfl) (fun h=>(fJ rfl h))) (rm rfl (fQ rfl rfl (eK rfl rfl (Ht rfl) (fun h=>cZ Tryz.call22 tC trivial)) (ro rfl (cO (Ht rfl) (fun h=>(fJ rfl h))) (ra rfl (eX (fW rfl (fX (eU rfl) ?_)))))))
  exact (fA (by simp))
end
section
open Go Go.ChangeShapes Go.WideShapes Go.ChangeAt Go.RowKit Go.Deep
section
variable {H:Type} {enc:TypeId × Value → H} {W:World} {base:Nat} {sp:Nat → Bool} {held:Bool}
theorem zY {P : Program} {t : TypeId} {f0 f1 : Field} {fuel : Nat} {cs : List Value} {x : DataW H × List MemPlace} (ht : P.underlying t = some (.struct #[f0, f1])) (h : DataW.trod enc P W base sp held fuel t cs = some x) :
  ∃ y0 y1 n, cs.length = P.cellsOf t ∧ DataW.trod enc P W base sp held n f0.type ((cs.drop f0.offset).take (P.cellsOf f0.type)) = some y0 ∧
   DataW.trod enc P W base sp held n f1.type ((cs.drop f1.offset).take (P.cellsOf f1.type)) = some y1:=by
 obtain ⟨xs,n,_,rfl,hl,hlen,hf⟩:=DataW.trod_struct ht h
 match xs,hlen with
 | [y0,y1],_=>exact ⟨y0,y1,n,hl,by simpa using hf 0 f0 rfl,by simpa using hf 1 f1 rfl⟩
theorem a0T:Tryz.prog.cellsOf 184 = 2:=by kernel_rfl
theorem a1y:Tryz.prog.cellsOf 24 = 1:=by kernel_rfl
theorem Sr {i : Int} (w : 0 ≤ i ∧ i < 4294967296) : ∀ V, (NT .u32 i.toNat).p (.int .u32 i) V := fun V => by
 have e:((i.toNat:Nat):Int) = i:=by omega
 rw [show NT .u32 i.toNat = aM .u32 i from congrArg (aM .u32) e]; rfl
theorem two {α:Type} {cs:List α} (h:cs.length = 2):∃ a b,cs = [a,b]:=by
 match cs,h with
 | [a,b],_=>exact ⟨a,b,rfl⟩
theorem Ri {n:Nat} {cs:List Value} {y:DataW H × List MemPlace} (h:DataW.trod enc Tryz.prog W base sp held n 184 cs = some y):∃ (e:Nat × Nat) (x:Value),x.cells.toList = cs ∧ (LwT e).p x (hv W):=by
 obtain ⟨y0,y1,m,hl,h0,h1⟩:=zY Tryz.underlying184 h
 rw [a0T] at hl
 obtain ⟨a,b,rfl⟩:=two hl
 have h0':DataW.trod enc Tryz.prog W base sp held m 24 (List.take (Tryz.prog.cellsOf 24) ([a,b].drop 0)) = some y0:=h0
 have h1':DataW.trod enc Tryz.prog W base sp held m 24 (List.take (Tryz.prog.cellsOf 24) ([a,b].drop 1)) = some y1:=h1
 rw [a1y] at h0' h1'
 obtain ⟨i0,q0,_,w0⟩:=DataW.trod_int Tryz.underlying24 h0'
 obtain ⟨i1,q1,_,w1⟩:=DataW.trod_int Tryz.underlying24 h1'
 simp only [List.drop_zero,List.take_succ_cons,List.take_zero,List.drop_succ_cons,List.cons.injEq,and_true] at q0 q1
 subst q0 q1
 exact ⟨(i0.toNat,i1.toNat),.agg #[.int .u32 i0,.int .u32 i1],rfl,_,rfl,aW ⟨Sr (Sx w0) _,trivial⟩ (aW ⟨Sr (Sx w1) _,trivial⟩ aG)⟩
theorem Mk {n : Nat} {cs : List Value} {y : DataW H × List MemPlace} (h : DataW.trod enc Tryz.prog W base sp held n 51 cs = some y) : ∃ (v : Value) (l : List (Nat × Nat)), cs = [v] ∧ (Lj l).p v (hv W) :=
 Wj (F:=LwT) Tryz.underlying51 a0T (by decide) (fun n cs y h=>Ri h) h
theorem zH {b0:Nat} {v:Value} {d:DataW H} {p:List MemPlace} (ho:Value.okWide Tryz.prog W .any b0 51 v) (h:DataW.Trod enc Tryz.prog W base sp held 51 v d p):∃ l:List (Nat × Nat),(Lj l).p v (hv W):=by
 obtain ⟨a,n,k,rfl⟩:=okWide_slice Tryz.underlying51 ho
 obtain ⟨m,hm⟩:=h
 obtain ⟨v,l,e,hl⟩:=Mk hm
 have:[Value.slice a n k] = [v]:=e
 simp only [List.cons.injEq,and_true] at this
 subst this
 exact ⟨l,hl⟩
end
end
section
open Go Go.RowKit
open Fl
theorem wX {Ts Us:List Ty} (h:Ts = Us):∀ v V,(eL Ts).p v V → (eL Us).p v V:=fun v V k=>h ▸ k
theorem yI (n:Nat):FloatKind.f32.nearest ((n:Nat):Int) = Ieee.single.nearest false n 0:=by
 show Ieee.single.nearest (decide ((n:Int) < 0)) (n:Int).natAbs 0 = _
 rw [decide_eq_false zo,Int.natAbs_natCast]
theorem Pp {i c:Nat} (hi:i < 10) (h0:0 < c) (hc:c ≤ 16):floatBits .mul .f32 (FloatKind.f32.nearest ((i:Nat) + 1:Nat)) (FloatKind.f32.nearest ((c:Nat):Int)) = some (Ieee.single.nearest false ((i + 1) * c) 0):=by
 rw [yI,yI]
 exact Qn zo h0 (rW hc hi)
theorem Lu {l:List (Nat × Nat)} {f:Qi} (h:(iZ l f).2 = 0):bM l = 0 ∧ fS f = true ∧ ∃ m:Nat,mS l f = m:=by
 by_cases h1:bM l = 0
 ·by_cases h2 : fS f = true
  ·by_cases h3 : mS l f < 0
   ·rw [iE h1 h2 h3] at h; exact absurd h (by decide)
   ·exact ⟨h1,h2,(mS l f).toNat,by omega⟩
  ·rw [jI h1 (by simpa using h2)] at h; exact absurd h (by decide)
 ·rw [kD rfl h1] at h; exact absurd h h1
theorem Pu {l:List (Nat × Nat)} {f:Qi} (h:LevOk l) (hf:fS f = true) {i:Nat} (hi:i < l.length):kR (gv (eN l) i) (iY l f) ≤ 0 ↔ (eV (lv l) i).re ≤ (iY l f).re * (eF (lv l) i).re:=by
 obtain ⟨r1,r2,p1,p2⟩:=h.re hi
 have rb:=(pJ h hf).1
 rw [nV hi,← Ke h hf hi,mJ (r2.div r1).b rb.b,uQ (r2.div r1).b rb.b]
theorem Dz {l:List (Nat × Nat)} {f:Qi} (h:LevOk l) (hf:fS f = true) {m i:Nat} (hm:mS l f = m) (hi:i < m):¬ (eV (lv l) i).re ≤ (iY l f).re * (eF (lv l) i).re:=by
 obtain ⟨x,h1,h2,h3⟩:=Ex hm
 have hl:=(List.getElem?_eq_some_iff.1 h1).1
 rw [gH] at hl
 have:=h3 i _ hi (Ih (by rw [gH]; omega))
 exact fun k=>of_decide_eq_false this ((uJ h hf zo).2 k)
theorem Pq {f:Qi}:((decide (f.b = 0) && decide (0 < kR f (Qi.ofInt 0))) && decide (kR f (Qi.ofInt 1) < 0)) = fS f:=by
 rw [show (decide (f.b = 0) && decide (0 < kR f (Qi.ofInt 0))) = jU f from Cp f]
 unfold fS
 cases h:jU f with
 | false=>rfl
 | true=>rw [Bool.true_and,Bool.true_and,decide_eq_decide]; exact a16 (Fl.pos_re h)
theorem tB {l:List (Nat × Nat)} {f:Rt} {g:Nat} (hg:g < 256):bA Tryz.prog 5 [Lj l,Ll f,NT .u8 g] (aB true):=by
 have f1:aH f.q 2:=inferInstance
 have gC:=Ea (l:=l) f1
 refine bA.intro Tryz.func5 rfl Tryz.ntmps5 rfl (fun cx=>(ts (rn rfl (fG (Ht rfl)) fun B4=>(ro rfl (cQ cV) (eX (cK (ts (rm rfl (ro rfl (dG U_51 (Ht rfl) aA) (ro rfl (dA (Ht rfl) (cJ 40)) (eX (dQ (Ht rfl) (fun hb=>?_) (fun hb=>?_)))))))))))))
 ·refine ts (ro rfl (cZ Tryz.call22 tC trivial) (ra rfl (eX ?_)))
  exact fW rfl (eU rfl)
 ·have hn : l.length ≤ 40 := by simpa using hb
  have hgl:=An l
  refine cU (ts (rm rfl (ro rfl (cZ Tryz.call23 (uX zo) ⟨(Ht rfl),trivial⟩) (ra rfl (eX (ts (ro rfl (eJ A_23 Z_23 (Ht rfl) (i:=0) rfl rfl rfl) (ro rfl (cZ Tryz.call14 (Bn (r:=f)) ⟨(Ht rfl),trivial⟩) ?_))))))))
  refine rn rfl (eW (Ts:=[Is (.bool false),Is (.slice none 0 0),Is (.bool false),Is (.slice none 0 0),Is (.slice none 0 0)]) O_32 rfl (fun V=>aW zd (aW zd (aW zd (aW zd (aW zd (aG))))))) fun B8=>gQ Z_32 (Ht rfl) (Ht rfl) rfl (i:=1) rfl (aK rfl) rfl rfl (eX (ts (rm rfl (ro rfl (eJ A_32 Z_32 (Ht rfl) (i:=1) rfl rfl rfl) (ro rfl (cZ Tryz.call26 (nN (l:=l) (f:=f.q) (L:=2) f1 (by decide) (by decide) zo) ⟨(Ht rfl),(Ht rfl),trivial⟩) ?_)))))
  refine rm rfl (ro rfl (dK (Ht rfl) rfl) (ro rfl (dK (Ht rfl) rfl) (rn rfl (eW (Ts:=[Is (.bool false),Is (.slice none 0 0),Is (.bool false),Is (.slice none 0 0),Is (.slice none 0 0)]) O_32 rfl (fun V=>aW zd (aW zd (aW zd (aW zd (aW zd (aG))))))) fun B9=>(gQ Z_32 (Ht rfl) (Ht rfl) rfl (i:=2) rfl (aK rfl) rfl rfl (ra rfl (eX (cK (iC (fun (uu:Unit)=>True) (fun (uu:Unit)=>[(2,NT .u8 g),(8,eB B8 0)]) (fun (uu:Unit)=>[box B8 32 [aB (decide (f.q.a < 0)),aD f.q.a.natAbs,aB (decide (f.q.b < 0)),aD f.q.b.natAbs,aD (du f.q)]]) ?_ (fun uu _=>?_)))))))))
  ·refine ts (rm rfl (ro rfl (kB (Ht rfl) cV) (eX (dQ (Ht rfl) (fun hz => ?_) (fun hz => ?_)))))
   ·have hz2 : (iZ l f.q).2 = 0 := by simpa using hz
    obtain ⟨he,hf,m,hm⟩:=Lu hz2
    have ok:=oO he
    obtain ⟨m0,m1,m2,m3,m4⟩:=wE ok hf hm
    have hcp:=wI he hf hm
    have hgn:pV l = eN l:=nU he
    have hgs:=eA l
    have fg:=xY ok
    haveI fb:=vZ ok f1
    obtain ⟨g1,g2⟩:=ok.fit m1
    obtain ⟨g3,g4⟩:=ok.fit (show m - 1 < l.length by omega)
    obtain ⟨v1,v2⟩:=ok.vf m1
    obtain ⟨v3,v4⟩:=ok.vf (show m - 1 < l.length by omega)
    obtain ⟨r1,r2,-,-⟩:=ok.re m1
    obtain ⟨r3,r4,-,-⟩:=ok.re (show m - 1 < l.length by omega)
    have rb:=(pJ ok hf).1
    have hbt:=Gu r3 r4 r1 r2 rb m4 m3 m2
    rw [← show (iZ l f.q).1 = cR (eF (lv l) (m - 1)) (eV (lv l) (m - 1)) (eF (lv l) m) (eV (lv l) m) (iY l f.q) from congrArg Prod.fst hcp] at hbt
    have rp:Re (iZ l f.q).1:=by rw [hcp]; exact Xx r3 r4 r1 r2 rb
    obtain ⟨hb1,hb2,hb3⟩:=hbt
    have hg0:gv (eN l) 0 = eV (lv l) 0 / eF (lv l) 0:=nV ok.n0
    have hmul:gv (eN l) 0 * f.q = iY l f.q:=by rw [hg0]; rfl
    have hgl0:0 < (eN l).length:=by omega
    haveI fg0:aH (gv (eN l) 0) 38:=fg.get (by decide) 0
    refine ts (rm rfl (ro rfl (cZ Tryz.call24 (Oc zo) ⟨(Ht rfl),trivial⟩) (rm rfl (ro rfl (dK (Ht rfl) rfl) (ro rfl (dK (Ht rfl) rfl) (ra rfl (ra rfl (eX (cK (ts (rm rfl (ro rfl (nO (Ht rfl) cV) (rm rfl (fQ rfl rfl (eK rfl rfl (Ht rfl) (fun h=>cX (Ht rfl))) (fQ rfl rfl (eK rfl rfl (Ht rfl) (fun h=>dG U_54 (fJ rfl h) aA)) (fQ rfl rfl (eK rfl rfl (Ht rfl) (fun h=>cX (Ht rfl))) (fQ rfl rfl (eK rfl rfl (Ht rfl) (fun h=>dG U_52 (fJ rfl h) aA)) ?_)))))))))))))))))
    refine fQ rfl rfl (eK rfl rfl (Ht rfl) (fun h=>jT (fJ rfl h) (fJ rfl h))) (ro rfl (iJ (Ht rfl) (fun h=>(fJ rfl h))) (eX (nE (E':=[(0,_),(1,_),(2,_),(4,_),(6,_),(7,_),(8,_),(9,_),(10,_),(11,_),(12,_),(26,_),(27,_),(28,_),(30,_),(31,_),(32,_),(33,_),(34,_),(35,_),(36,_),(37,_),(38,_),(39,_),(40,_),(41,_),(42,_),(43,_),(44,_),(45,_),(46,_),(47,_),(48,_),(49,_),(50,_),(51,_),(52,_),(53,_),(54,_),(55,_)]) (aQ rfl (aQ rfl (aQ rfl (aQ rfl (aQ rfl (aQ rfl (aQ rfl (aQ rfl (aQ rfl (aZ rfl (kN (by rw [hgn])) (zS rfl))))))))))) ?_)))
    refine lN (Ht rfl) (by rw [he,hgn,hgs]; simp) ?_
    refine cU (cK (fZ (m:=6) (dp 11 rfl (cX (Ht rfl)) (dq 56 0 rfl (dZ U_54 Z_32 (Ht rfl) (cJ 0) rfl (dY (dU (d:=Qi.zero) hgl0))) (dq 57 1 rfl (dJ A_32 Z_32 (Ht rfl)) (dp 8 rfl (eJ A_32 Z_32 (Ht rfl) (i:=1) rfl rfl rfl) (cL 58 2 59 3 rfl (cZ K_29 (eQ (lB (x:=gv (eN l) 0) (y:=f.q) (L:=38) (M:=2) zo) (gK hmul)) ⟨(Ht rfl),(Ht rfl),trivial⟩) (C.D_new (Ei:=[]) rfl rfl rfl bW (eW (Ts:=[Is (.bool false),Is (.slice none 0 0),Is (.bool false),Is (.slice none 0 0),Is (.slice none 0 0)]) O_32 rfl (fun V=>aW zd (aW zd (aW zd (aW zd (aW zd (aG))))))) ?_))))))))
    refine fV aR rfl (by kernel_rfl) (zF (aJ (C.F_new (fun B13=>aV (gQ Z_32 (Ht rfl) (Ht rfl) rfl (i:=3) rfl (aK rfl) rfl rfl (eX (ts (ro rfl (cQ (cJ 1)) (eX (cK (eG (gE [1,2,3] rfl (by decide) ?_))))))))))))
    refine fD (fun (i : Nat) => i ≤ m ∧ 1 ≤ i) (fun (i : Nat) => m - i) (fun (i : Nat) => [(2, NT .u8 g), (7, uC l), (8, eB B8 0), (9, eB B9 0), (11, fF (eN l)), (13, eB B13 0), (14, NT .i64 i)]) (fun (i : Nat) => [box B8 32 [aB (decide (f.q.a < 0)), aD f.q.a.natAbs, aB (decide (f.q.b < 0)), aD f.q.b.natAbs, aD (du f.q)], box B9 32 [aB (decide ((iZ l f.q).1.a < 0)), aD (iZ l f.q).1.a.natAbs, aB (decide ((iZ l f.q).1.b < 0)), aD (iZ l f.q).1.b.natAbs, aD (du (iZ l f.q).1)], box B13 32 [aB (decide ((iY l f.q).a < 0)), aD (iY l f.q).a.natAbs, aB (decide ((iY l f.q).b < 0)), aD (iY l f.q).b.natAbs, aD (du (iY l f.q))]]) 1 ⟨m0, Nat.le_refl _⟩
     (zS rfl) (aU (aP rfl) (aU (aP rfl) (aU (aP rfl) aY))) (fun i ⟨hi,hi1⟩=>?_)
    have hil:i < l.length:=by omega
    have hig:i < (eN l).length:=by omega
    haveI fgi:aH (gv (eN l) i) 38:=fg.get (by decide) i
    have hle:=Pu ok hf hil
    refine cK (cK (fZ (m:=10) (dp 14 rfl (cX (Ht rfl)) (dp 7 rfl (cX (Ht rfl)) (dq 62 1 rfl (dG U_52 (Ht rfl) aA) (cL 61 0 63 2 rfl (gX (Ht rfl) (Ht rfl)) (dq 64 3 rfl (cX (Ht rfl)) (C.D_step (Ei:=[(11,_),(65,_)]) rfl rfl (bV (bK rfl rfl) (bV (bG 4 rfl rfl) bW)) (eK rfl rfl (Ht rfl) (fun h=>cX (Ht rfl))) (C.D_step (Ei:=[(14,_),(65,_)]) rfl rfl (bV (bK rfl rfl) (bV (bG 4 rfl rfl) bW)) (eK rfl rfl (Ht rfl) (fun h=>cX (Ht rfl))) ?_)))))))))
    refine C.D_step (Ei:=[(66,_),(67,_),(65,_)]) rfl rfl (bV (bG 5 rfl rfl) (bV (bG 6 rfl rfl) (bV (bG 4 rfl rfl) bW))) (eK rfl rfl (Ht rfl) (fun h=>dZ U_54 Z_32 (fJ rfl h) (fJ rfl h) rfl (dY (dU (d:=Qi.zero) hig)))) (C.D_step (Ei:=[(68,_),(65,_)]) rfl rfl (bV (bG 7 rfl rfl) (bV (bG 4 rfl rfl) bW)) (eK rfl rfl (Ht rfl) (fun h=>dJ A_32 Z_32 (fJ rfl h))) (C.D_step (Ei:=[(13,_),(65,_)]) rfl rfl (bV (bK rfl rfl) (bV (bG 4 rfl rfl) bW)) (eK rfl rfl (Ht rfl) (fun h=>eJ A_32 Z_32 (Ht rfl) (i:=2) rfl rfl rfl)) ?_))
    refine fV aR rfl (by kernel_rfl) (zF (zF (aJ (aJ (aV (fQ rfl rfl (eK rfl rfl (Ht rfl) (fun h=>cZ K_30 (oX (x:=gv (eN l) i) (y:=iY l f.q) (L:=38) (M:=38 + 2 + 1) zo) ⟨(fJ rfl h),(fJ rfl h),trivial⟩)) (fQ rfl rfl (eK rfl rfl (Ht rfl) (fun h=>mX (fJ rfl h) cV)) (ro rfl (cO (Ht rfl) (fun h=>(fJ rfl h))) (eX (dQ (Ht rfl) (fun hs=>?_) (fun hs=>?_)))))))))))
    ·have hs2 : 0 < kR (gv (eN l) i) (iY l f.q) := by simp only [Bool.and_eq_true, decide_eq_true_eq] at hs; exact hs.2
     have him : i < m := by
      rcases Nat.eq_or_lt_of_le hi with k | k
      ·subst k; have:=hle.2 m2; omega
      ·exact k
     refine cU (eG (cY (rm rfl (ro rfl (dV (Ht rfl) (cJ 1) z6) (ra rfl (eX (bF (fU (i + 1) ⟨him,by omega⟩ zo (zS rfl) (cE.refl _)))))))))
    ·have him : i = m := by
      rcases Nat.eq_or_lt_of_le hi with k | k
      ·exact k
      ·exfalso
       have h1:=Dz ok hf hm k
       have h2 : ¬ 0 < kR (gv (eN l) i) (iY l f.q) := by
        intro h3; simp only [Bool.and_eq_false_iff,decide_eq_false_iff_not] at hs
        rcases hs with h4 | h4
        ·exact h4 hil
        ·exact h4 h3
       exact h1 (hle.1 zo)
     subst him
     refine gV rfl (cK (ts (rm rfl (rm rfl (ro rfl (dG U_52 (Ht rfl) aA) (ro rfl (lP (Ht rfl) (Ht rfl)) (eX (lN (Ht rfl) (by rw [decide_eq_false_iff_not]; omega) ?_))))))))
     refine cU (ts (rm rfl (rm rfl (ro rfl (dW (Ht rfl) (cJ 1) zo z6) (ro rfl (dZ U_52 Z_69 (Ht rfl) (Ht rfl) rfl (dY (dU (d:=((0:Nat),(0:Nat))) zo))) (ro rfl (iQ kU (Ht rfl) rfl) (ro rfl (dJ A_25 Z_25 (Ht rfl)) (ro rfl (kL (Ht rfl) aS.cF) (ro rfl (cZ Tryz.call31 (eQ (lU (p:=(bI l (i - 1)))) (wX (by rw [v3]))) ⟨(Ht rfl),trivial⟩) ?_)))))))))
     refine rm rfl (ro rfl (dK (Ht rfl) rfl) (ro rfl (dK (Ht rfl) rfl) (rn rfl (eW (Ts:=[Is (.bool false),Is (.slice none 0 0),Is (.bool false),Is (.slice none 0 0),Is (.slice none 0 0)]) O_32 rfl (fun V=>aW zd (aW zd (aW zd (aW zd (aW zd (aG))))))) fun B15=>(gQ Z_32 (Ht rfl) (Ht rfl) rfl (i:=3) rfl (aK rfl) rfl rfl (ra rfl (eX (ts (rm rfl (rm rfl (ro rfl (dZ U_52 Z_69 (Ht rfl) (Ht rfl) rfl (dY (dU (d:=((0:Nat),(0:Nat))) hil))) ?_))))))))))
     refine ro rfl (iQ kU (Ht rfl) rfl) (ro rfl (dJ A_25 Z_25 (Ht rfl)) (ro rfl (kL (Ht rfl) aS.cF) (ro rfl (cZ Tryz.call31 (eQ (lU (p:=(bI l i))) (wX (by rw [v1]))) ⟨(Ht rfl),trivial⟩) ?_)))
     refine rm rfl (ro rfl (dK (Ht rfl) rfl) (ro rfl (dK (Ht rfl) rfl) (rn rfl (eW (Ts:=[Is (.bool false),Is (.slice none 0 0),Is (.bool false),Is (.slice none 0 0),Is (.slice none 0 0)]) O_32 rfl (fun V=>aW zd (aW zd (aW zd (aW zd (aW zd (aG))))))) fun B17=>(gQ Z_32 (Ht rfl) (Ht rfl) rfl (i:=4) rfl (aK rfl) rfl rfl (ra rfl (eX (ts (rm rfl (rm rfl (ro rfl (dW (Ht rfl) (cJ 1) zo z6) ?_))))))))))
     refine ro rfl (dZ U_52 Z_69 (Ht rfl) (Ht rfl) rfl (dY (dU (d:=((0:Nat),(0:Nat))) zo))) (ro rfl (iQ oN (Ht rfl) rfl) (ro rfl (dJ A_25 Z_25 (Ht rfl)) (ro rfl (kL (Ht rfl) aS.cF) (ro rfl (cZ Tryz.call31 (eQ (lU (p:=(bO l (i - 1)))) (wX (by rw [v4]))) ⟨(Ht rfl),trivial⟩) ?_))))
     refine rm rfl (ro rfl (dK (Ht rfl) rfl) (ro rfl (dK (Ht rfl) rfl) (rn rfl (eW (Ts:=[Is (.bool false),Is (.slice none 0 0),Is (.bool false),Is (.slice none 0 0),Is (.slice none 0 0)]) O_32 rfl (fun V=>aW zd (aW zd (aW zd (aW zd (aW zd (aG))))))) fun B19=>(gQ Z_32 (Ht rfl) (Ht rfl) rfl (i:=5) rfl (aK rfl) rfl rfl (ra rfl (eX (ts (rm rfl (rm rfl (ro rfl (dZ U_52 Z_69 (Ht rfl) (Ht rfl) rfl (dY (dU (d:=((0:Nat),(0:Nat))) hil))) ?_))))))))))
     refine ro rfl (iQ oN (Ht rfl) rfl) (ro rfl (dJ A_25 Z_25 (Ht rfl)) (ro rfl (kL (Ht rfl) aS.cF) (ro rfl (cZ Tryz.call31 (eQ (lU (p:=(bO l i))) (wX (by rw [v2]))) ⟨(Ht rfl),trivial⟩) ?_)))
     refine rm rfl (ro rfl (dK (Ht rfl) rfl) (ro rfl (dK (Ht rfl) rfl) (rn rfl (eW (Ts:=[Is (.bool false),Is (.slice none 0 0),Is (.bool false),Is (.slice none 0 0),Is (.slice none 0 0)]) O_32 rfl (fun V=>aW zd (aW zd (aW zd (aW zd (aW zd (aG))))))) fun B21=>(gQ Z_32 (Ht rfl) (Ht rfl) rfl (i:=6) rfl (aK rfl) rfl rfl (ra rfl (eX (cK (ts (ro rfl (eJ A_32 Z_32 (Ht rfl) (i:=1) rfl rfl rfl) ?_)))))))))
     refine ro rfl (eJ A_32 Z_32 (Ht rfl) (i:=3) rfl rfl rfl) (ro rfl (cZ K_30 (oX (x:=(iZ l f.q).1) (y:=(eF (lv l) (i - 1))) (L:=20 * 2 + 2000) (M:=9) (hx:=gC) zo) ⟨(Ht rfl),(Ht rfl),trivial⟩) (ro rfl (yZ (Ht rfl) cV) (rm rfl (fQ rfl rfl (eK rfl rfl (Ht rfl) (fun h=>eJ A_32 Z_32 (Ht rfl) (i:=1) rfl rfl rfl)) (fQ rfl rfl (eK rfl rfl (Ht rfl) (fun h=>eJ A_32 Z_32 (Ht rfl) (i:=4) rfl rfl rfl)) (fQ rfl rfl (eK rfl rfl (Ht rfl) (fun h=>cZ K_30 (oX (x:=(iZ l f.q).1) (y:=(eF (lv l) i)) (L:=20 * 2 + 2000) (M:=9) (hx:=gC) zo) ⟨(fJ rfl h),(fJ rfl h),trivial⟩)) ?_))))))
     refine fQ rfl rfl (eK rfl rfl (Ht rfl) (fun h=>mX (fJ rfl h) cV)) (ro rfl (iJ (Ht rfl) (fun h=>(fJ rfl h))) (eX ?_))
     refine lN (Ht rfl) (by
       have c1:¬ kR (iZ l f.q).1 (eF (lv l) (i - 1)) ≤ 0:=by rw [mJ rp.b r3.b,Bu]; exact Rat.not_le.2 hb1
       have c2:¬ 0 < kR (iZ l f.q).1 (eF (lv l) i):=by rw [mJ rp.b r1.b,Bt]; exact Rat.not_lt.2 hb2
       rw [decide_eq_false c1,decide_eq_false c2]; rfl) ?_
     haveI:=gC
     refine cU (cK (fZ (m:=14) (dp 19 rfl (eJ A_32 Z_32 (Ht rfl) (i:=5) rfl rfl rfl) (dp 13 rfl (eJ A_32 Z_32 (Ht rfl) (i:=2) rfl rfl rfl) (dp 9 rfl (eJ A_32 Z_32 (Ht rfl) (i:=1) rfl rfl rfl) (cL 133 1 134 2 rfl (cZ K_29 (lB (x:=(iY l f.q)) (y:=(iZ l f.q).1) (L:=(38 + 2 + 1)) (M:=(20 * 2 + 2000)) zo) ⟨(Ht rfl),(Ht rfl),trivial⟩) (cL 132 0 135 3 rfl (cZ K_32 (pK (x:=(eV (lv l) (i - 1))) (y:=(iY l f.q) * (iZ l f.q).1) (L:=9) (M:=(38 + 2 + 1) + (20 * 2 + 2000) + 1) zo) ⟨(Ht rfl),(Ht rfl),trivial⟩) ?_)))))))
     refine dp 17 rfl (eJ A_32 Z_32 (Ht rfl) (i:=4) rfl rfl rfl) (dp 15 rfl (eJ A_32 Z_32 (Ht rfl) (i:=3) rfl rfl rfl) (cL 137 5 138 6 rfl (cZ K_32 (pK (x:=(eF (lv l) i)) (y:=(eF (lv l) (i - 1))) (L:=9) (M:=9) zo) ⟨(Ht rfl),(Ht rfl),trivial⟩) (cL 136 4 139 7 rfl (cZ K_29 (lB (x:=(eV (lv l) (i - 1)) - (iY l f.q) * (iZ l f.q).1) (y:=(eF (lv l) i) - (eF (lv l) (i - 1))) zo) ⟨(Ht rfl),(Ht rfl),trivial⟩) (dp 21 rfl (eJ A_32 Z_32 (Ht rfl) (i:=6) rfl rfl rfl) (dp 19 rfl (eJ A_32 Z_32 (Ht rfl) (i:=5) rfl rfl rfl) ?_)))))
     refine cL 141 9 142 10 rfl (cZ K_32 (pK (x:=(eV (lv l) i)) (y:=(eV (lv l) (i - 1))) (L:=9) (M:=9) zo) ⟨(Ht rfl),(Ht rfl),trivial⟩) (dp 9 rfl (eJ A_32 Z_32 (Ht rfl) (i:=1) rfl rfl rfl) (dp 15 rfl (eJ A_32 Z_32 (Ht rfl) (i:=3) rfl rfl rfl) (fV aR rfl (by kernel_rfl) (zF (zF (zF (aJ (aJ (aV (ro rfl (cZ K_32 (pK (x:=(iZ l f.q).1) (y:=(eF (lv l) (i - 1))) (L:=(20 * 2 + 2000)) (M:=9) zo) ⟨(Ht rfl),(Ht rfl),trivial⟩) ?_))))))))))
     refine ro rfl (cZ K_29 (lB (x:=(eV (lv l) i) - (eV (lv l) (i - 1))) (y:=(iZ l f.q).1 - (eF (lv l) (i - 1))) zo) ⟨(Ht rfl),(Ht rfl),trivial⟩) (ro rfl (cZ Tryz.call33 (eQ (Jb (x:=((eV (lv l) (i - 1)) - (iY l f.q) * (iZ l f.q).1) * ((eF (lv l) i) - (eF (lv l) (i - 1)))) (y:=((eV (lv l) i) - (eV (lv l) (i - 1))) * ((iZ l f.q).1 - (eF (lv l) (i - 1)))) zo) (gK hb3)) ⟨(Ht rfl),(Ht rfl),trivial⟩) (ro rfl (cZ Tryz.call34 (Jc (x:=Qi.zero) (L:=1) (hx:=aH.zero (Nat.le_refl 1)) (by decide)) ⟨(Ht rfl),trivial⟩) (eX ?_)))
     refine lN (Ht rfl) (by simp) ?_
     refine cU (gE [0] rfl (by decide) (aO () trivial (zS rfl) (cE.refl _)))
   ·refine cU (gE [1] rfl (by decide) (aO () trivial (zS rfl) (aU (aP rfl) aY)))
  ·obtain ⟨q, hq⟩ : ∃ q, q = 1 + g % 16 := ⟨_, rfl⟩
   have hq0:0 < q:=by omega
   have hq1:q ≤ 16:=by omega
   have hfc:=Ma hq0 hq1 f.q
   have hfl:=Fl.flat_len q 10
   refine ts (ro rfl (cQ cV) (eX (cK (ts (ro rfl (cX (cJ 0)) (eX (eG (uV 69 2 ?_))))))))
   refine dN (fun (i : Nat) (v : Value) => i ≤ 10) (fun (i : Nat) (v : Value) => 10 - i) (fun (i : Nat) (v : Value) => [(2, NT .u8 g), (8, eB B8 0), (23, Is v), (150, NT .i64 i)]) (fun (i : Nat) (v : Value) => [box B8 32 [aB (decide (f.q.a < 0)), aD f.q.a.natAbs, aB (decide (f.q.b < 0)), aD f.q.b.natAbs, aD (du f.q)], bN 69 2 v ((Fl.flat q i).map LvT)]) 0 (.slice none 0 0) (Nat.zero_le _)
    (zS rfl) (cE.refl _) (fun i v hi=>?_)
   refine ts (ro rfl (gX (Ht rfl) (cJ 10)) (eX (cK (dQ (Ht rfl) (fun hd=>?_) (fun hd=>?_)))))
   ·simp only [decide_eq_true_eq] at hd
    have hln:=Fl.flat_len q i
    refine cU (cK (eG (ts (rm rfl (ra rfl (eX (ts (rm rfl (ro rfl (dV (Ht rfl) (cJ 1) z6) (ro rfl (aC.imp (Ax U_3 U_25 (Ht rfl)) (jP (Q:=_) (R:=fun x=>x = FloatKind.f32.nearest ((i + 1:Nat):Int)) (fun _ h=>h))) (ra rfl (eX (cY (rm rfl (rm rfl (rm rfl (rm rfl (ro rfl (kX (Ht rfl) (cJ 16) (by decide)) (ro rfl (aC.nat (dV (cJ 1) (Ht rfl) (by show _ < 256; first | omega | (simp only [jX]; omega))) hq.symm) ?_)))))))))))))))))))
    refine ro rfl (Ax U_5 U_25 (Ht rfl)) (ro rfl (Mj (Ht rfl) (Ht rfl) (Pp hd hq0 hq1)) (ro rfl (aC.imp (xK (Ht rfl) (Ht rfl)) (kT (by rw [yI]))) ?_))
    refine ro rfl (bP (xs:=[.tmp 164]) U_52 Z_69 O_69 (cW (Ht rfl) cG) rfl rfl rfl) (mN (inf:=Tryz.t69) Sv Kg rfl rfl rfl (Ht rfl) (Ht rfl) (i:=1) rfl (by simp) (fun T hT=>by simp at hT; subst hT; exact El.ag rfl) (by show _ * 8 ≤ _; simp only [List.length_map,hln,List.length_cons,List.length_nil]; omega) (by simp only [List.length_map,hln,List.length_cons,List.length_nil]; omega) rfl (fun v2=>?_))
    refine ra rfl (eX (bF (cY (ro rfl (dV (Ht rfl) (cJ 1) z6) (rm rfl (eX (fU (i + 1,v2) hd (by dsimp only; omega) (zS rfl) (aU (fun _ _ _ h=>h) (aU (dI ((mQ LvT (Fl.flat q i) (Ieee.single.nearest false (i + 1) 0,Ieee.single.nearest false ((i + 1) * q) 0)).trans (congrArg _ (Fl.flat_next q i).symm))) aY)))))))))
   ·simp only [decide_eq_false_iff_not] at hd
    obtain rfl:i = 10:=by omega
    refine gV rfl (gJ (i:=1) (tt:=23) rfl rfl kF (ts (rm rfl (ro rfl (eJ A_32 Z_32 (Ht rfl) (i:=0) rfl rfl rfl) (ro rfl (cZ Tryz.call26 (nN (l:=Fl.flat q 10) (f:=f.q) (L:=2) f1 (by decide) (by decide) zo) ⟨(Ht rfl),(Ht rfl),trivial⟩) (rm rfl (ro rfl (dK (Ht rfl) rfl) (ro rfl (dK (Ht rfl) rfl) (ra rfl (eX (cK (cK (fZ (m:=11) (dp 8 rfl (eJ A_32 Z_32 (Ht rfl) (i:=0) rfl rfl rfl) (dq 174 0 rfl (cZ K_35 (uG (x:=f.q)) ⟨(Ht rfl),trivial⟩) ?_)))))))))))))))
    refine dq 175 1 rfl (cX (Ht rfl)) (C.D_step (Ei:=[(8,_),(176,_)]) rfl rfl (bV (bK rfl rfl) (bV (bG 2 rfl rfl) bW)) (eK rfl rfl (Ht rfl) (fun h=>eJ A_32 Z_32 (Ht rfl) (i:=0) rfl rfl rfl)) (C.D_step (Ei:=[(176,_)]) rfl rfl (bV (bG 2 rfl rfl) bW) (eK rfl rfl (Ht rfl) (fun h=>cZ K_36 (oY (n:=0) (by decide) (by decide)) ⟨(cJ 0),trivial⟩)) (C.D_step (Ei:=[(177,_),(178,_),(176,_)]) rfl rfl (bV (bG 3 rfl rfl) (bV (bG 4 rfl rfl) (bV (bG 2 rfl rfl) bW))) (eK rfl rfl (Ht rfl) (fun h=>cZ K_30 (oX (x:=f.q) (y:=Qi.ofInt 0) (L:=2) (M:=1) (hy:=a1A) (by decide)) ⟨(fJ rfl h),(fJ rfl h),trivial⟩)) ?_)))
    refine C.D_step (Ei:=[(179,_),(176,_)]) rfl rfl (bV (bG 5 rfl rfl) (bV (bG 2 rfl rfl) bW)) (eK rfl rfl (Ht rfl) (fun h=>mX (fJ rfl h) cV)) (cL 176 2 180 6 rfl (cO (Ht rfl) (fun h=>(fJ rfl h))) (dq 181 7 rfl (cX (Ht rfl)) (C.D_step (Ei:=[(8,_),(182,_)]) rfl rfl (bV (bK rfl rfl) (bV (bG 8 rfl rfl) bW)) (eK rfl rfl (Ht rfl) (fun h=>eJ A_32 Z_32 (Ht rfl) (i:=0) rfl rfl rfl)) (C.D_step (Ei:=[(182,_)]) rfl rfl (bV (bG 8 rfl rfl) bW) (eK rfl rfl (Ht rfl) (fun h=>cZ K_36 (oY (n:=1) (by decide) (by decide)) ⟨(cJ 1),trivial⟩)) ?_))))
    refine fV aR rfl (by kernel_rfl) (zF (zF (aJ (aJ (aJ (aV (fQ rfl rfl (eK rfl rfl (Ht rfl) (fun h=>cZ K_30 (oX (x:=f.q) (y:=Qi.ofInt 1) (L:=2) (M:=1) (hy:=Hj) (by decide)) ⟨(fJ rfl h),(fJ rfl h),trivial⟩)) (fQ rfl rfl (eK rfl rfl (Ht rfl) (fun h=>mY (fJ rfl h) cV)) (ro rfl (cO (Ht rfl) (fun h=>(fJ rfl h))) (eX (dQ (Ht rfl) (fun hs=>?_) (fun hs=>?_))))))))))))
    ·have hs2 : fS f.q = true := (Pq (f := f.q)).symm.trans hs
     refine ts (rm rfl (ro rfl (kB (Ht rfl) cV) (rm rfl (fQ rfl rfl (eK rfl rfl (Ht rfl) (fun h=>cZ Tryz.call22 tC trivial)) (ro rfl (cO (Ht rfl) (fun h=>(fJ rfl h))) (ra rfl (eX (fW rfl (fX (eU rfl) ?_)))))))))
     exact (fA (by rw [hfc,hs2]; rfl))
    ·have hs2 : fS f.q = false := (Pq (f := f.q)).symm.trans hs
     refine cU (ts (rm rfl (ro rfl (kB (Ht rfl) cV) (rm rfl (fQ rfl rfl (eK rfl rfl (Ht rfl) (fun h=>cZ Tryz.call22 tC trivial)) (ro rfl (cO (Ht rfl) (fun h=>(fJ rfl h))) (ra rfl (eX (fW rfl (fX (eU rfl) ?_))))))))))
     exact (fA (by rw [hfc,hs2]; rfl))
end
end Go.Proofs.YthcmlodgnfekeaaGreat
