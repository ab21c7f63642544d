/- What functions of the program compute, proved by walks over their code, and the plain mathematics of it; a part of the proof in the last text. -/
import Derived.Test.YthcmlodgnfekeaaGreatP03
set_option linter.unusedVariables false
set_option linter.unusedSimpArgs false
set_option maxRecDepth 100000
set_option maxHeartbeats 4000000
namespace Go.Proofs.YthcmlodgnfekeaaGreat
section
open Go Go.RowKit
open Fl
abbrev Gi (x:Pd):Ty:=dO [aC .i64 x.m,aC .i64 x.n,aB (decide (x.f.a < 0)),aH x.f.a.natAbs,aB (decide (x.f.b < 0)),aH x.f.b.natAbs,aH (du x.f)]
abbrev Al (l:List Pd):Ty:=jL 7 (l.map Gi)
abbrev Wk:Ty:=xT Tryz.prog {n:Int // -15 ≤ n ∧ n ≤ 15} (fun n=>[aC .i64 n.1]) (fun n=>aC .i64 (sz n.1))
def Lj : List Int → Int
 | []=>0
 | x :: r=>if x ≠ 0 then x else Lj r
theorem Jr : ∀ {l : List Int} {k : Nat} {x : Int}, l[k]? = some x → x ≠ 0 → (∀ (i : Nat) (y : Int), i < k → l[i]? = some y → y = 0) → Lj l = x
 | y :: r,0,x,h,hx,_=>by simp at h; subst h; rw [Lj,if_pos hx]
 | y :: r, k + 1, x, h, hx, hn => by
  have h0:=hn 0 y zo rfl
  rw [Lj,if_neg (fun h=>h h0)]
  exact Jr (k:=k) (by simpa using h) hx (fun i z hi hz=>hn (i + 1) z zo (by simpa using hz))
theorem zM : ∀ {l : List Int}, (∀ (i : Nat) (y : Int), l[i]? = some y → y = 0) → Lj l = 0
 | [],_=>rfl
 | y :: r, hn => by
  have h0:=hn 0 y rfl
  rw [Lj,if_neg (fun h=>h h0)]
  exact zM (fun i z hz=>hn (i + 1) z (by simpa using hz))
theorem Xk (a b c:Int):Lj [a,b,c] = if a ≠ 0 then a else if b ≠ 0 then b else c:=by
 by_cases ha:a = 0 <;> by_cases hb:b = 0 <;> by_cases hc:c = 0 <;> simp [Lj,ha,hb,hc]
theorem Vc {x y:Pd} (hx:Re x.f) (hy:Re y.f):Lj [lB x.f y.f,eP (sz x.m + sz x.n) (sz y.m + sz y.n),eP x.m y.m] = Sa x y:=by
 rw [Ex hx.b hy.b,Xk]; rfl
theorem Wz (L : Nat) : Go.Sort.SWO (Go.Proofs.ltOf fun x y : {x : Pd // Li L x} => Sa x.1 y.1) :=
 ⟨fun x=>Cl x.1,fun x y z=>Gy (x:=x.1) (y:=y.1) (z:=z.1),fun x y z=>Cm (x:=x.1) (y:=y.1) (z:=z.1)⟩
theorem Cu {a:Int}:bE Tryz.prog 234 [aC .i64 a] (aB false):=by
 refine bE.intro Tryz.func234 rfl Tryz.ntmps234 rfl (fun cx=>(ts (ro rfl (cQ cV) (eX (ts (rm rfl (rm rfl (ro rfl (lF (Ht rfl) (Ht rfl)) (ra rfl (eX (fW rfl (fX (eU rfl) ?_))))))))))))
 exact (hZ (by simp))
theorem tC {a b:Int}:bE Tryz.prog 176 [aC .i64 a,aC .i64 b] (aC .i64 (eP a b)):=by
 refine bE.intro Tryz.func176 rfl Tryz.ntmps176 rfl (fun cx=>(ts (ro rfl (cQ (cJ 0)) (eX (ts (rm rfl (ro rfl (cZ Tryz.call234 Cu ⟨(Ht rfl),trivial⟩) (ra rfl (eX (ts (rm rfl (ro rfl (cZ Tryz.call234 Cu ⟨(Ht rfl),trivial⟩) (ra rfl (eX (cK (ts (rm rfl (eX (lV (Ht rfl) rfl (cU (cK (ts (rm rfl (eX (lV (Ht rfl) rfl (cU (cK (ts (rm rfl (rm rfl (ro rfl (nE (Ht rfl) (Ht rfl)) (eX (dQ (Ht rfl) (fun hb=>?_) (fun hb=>?_))))))))))))))))))))))))))))))))))
 ·simp only [decide_eq_true_eq] at hb
  refine ts (ro rfl (cQ cV) (eX (fW rfl (fX (eU rfl) ?_))))
  exact (aS (by simp [eP,hb]))
 ·simp only [decide_eq_false_iff_not] at hb
  refine cU (cK (ts (rm rfl (rm rfl (ro rfl (mD (Ht rfl) (Ht rfl)) (eX (dQ (Ht rfl) (fun hc=>?_) (fun hc=>?_))))))))
  ·simp only [decide_eq_true_eq] at hc
   refine ts (ro rfl (cQ (cJ 1)) (eX (fW rfl (fX (eU rfl) ?_))))
   exact (aS (by simp [eP,hb,hc]))
  ·simp only [decide_eq_false_iff_not] at hc
   refine cU (ts (ro rfl (cQ (cJ 0)) (eX (fW rfl (fX (eU rfl) ?_)))))
   exact (aS (by simp [eP,hb,hc]))
theorem Wp {l:List Int} (hl:l.length ≤ 1000000):bE Tryz.prog 175 [jL 1 (l.map (aC .i64))] (aC .i64 (Lj l)):=by
 refine bE.intro Tryz.func175 rfl Tryz.ntmps175 rfl (fun cx=>(ts (ro rfl (cQ (cJ 0)) (eX (ts (ro rfl (cQ (cJ 0)) (eX (cK (ts (rm rfl (ro rfl (dG U_283 (Ht rfl) aA) (ro rfl (cX (cJ 0)) (eX (eG ?_))))))))))))))
 refine eR (fun (k : Nat) => k ≤ l.length ∧ ∀ (i : Nat) (y : Int), i < k → l[i]? = some y → y = 0) (fun (k : Nat) => l.length - k) (fun (k : Nat) => [(0, jL 1 (l.map (aC .i64))), (3, aC .i64 0), (6, jL 1 (l.map (aC .i64))), (7, NT .i64 l.length), (8, NT .i64 k)]) (fun (k : Nat) => []) 0 ⟨Nat.zero_le _, fun i y h => by omega⟩
  (zS rfl) aY (fun k ⟨hk,hn⟩=>?_)
 refine ts (ro rfl (gX (Ht rfl) (Ht rfl)) (eX (cK (dQ (Ht rfl) (fun hb=>?_) (fun hb=>?_)))))
 ·simp only [decide_eq_true_eq] at hb
  refine cU (cK (eG (ts (ro rfl (dZ U_283 Z_3 (Ht rfl) (Ht rfl) rfl (dY (rM hb))) (ro rfl (dJ A_3 Z_3 (Ht rfl)) (ra rfl (eX (ts (rm rfl (rm rfl (ro rfl (lF (Ht rfl) (Ht rfl)) (eX (dQ (Ht rfl) (fun hc=>?_) (fun hc=>?_))))))))))))))
  ·have hc2 : ¬ l[k] = 0 := by simpa using hc
   refine ts (rm rfl (ra rfl (eX (fW rfl (fX (eU rfl) ?_)))))
   exact (aS (Jr (rM hb) hc2 hn).symm)
  ·have hc2 : l[k] = 0 := by simpa using hc
   refine cU (cA (cY (ro rfl (dV (Ht rfl) (cJ 1) z6) (rm rfl (eX ?_)))))
   refine fU (k + 1) ⟨hb, fun i y h1 h2 => by
    by_cases e:i = k
    ·subst e; rw [rM hb] at h2; obtain rfl:=Option.some.inj h2; exact hc2
    ·exact hn i y zo h2⟩ zo (zS rfl) aY
 ·simp only [decide_eq_false_iff_not] at hb
  refine gV rfl (ts (rm rfl (ra rfl (eX (fW rfl (fX (eU rfl) ?_))))))
  exact (aS (zM (fun i y h=>hn i y (by have:=(List.getElem?_eq_some_iff.1 h).1; omega) h)).symm)
theorem Mg {n:Int} (h:-15 ≤ n ∧ n ≤ 15):bE Tryz.prog 172 [aC .i64 n] (aC .i64 (sz n)):=by
 refine bE.intro Tryz.func172 rfl Tryz.ntmps172 rfl (fun cx=>(ts (ro rfl (cQ (cJ 0)) (eX (ts (rm rfl (rm rfl (ro rfl (uF (Ht rfl) (sX zo)) (ro rfl (Oe (Ht rfl) (Ht rfl)) (ra rfl (eX (fW rfl (fX (eU rfl) ?_)))))))))))))
 exact (aS rfl)
theorem Ma {x y:Pd} {L:Nat} (hx:Li L x) (hy:Li L y) (hL:L ≤ 1000000):bE Tryz.prog 174 [Gi x,Gi y,PT Wk] (aC .i64 (Sa x y)):=by
 haveI:=hx.fit; haveI:=hy.fit
 have bm:∀ m:Int,-15 ≤ m → m ≤ 15 → 0 ≤ sz m ∧ sz m ≤ 15:=fun m h1 h2=>by unfold sz; omega
 obtain ⟨b1,b1'⟩:=bm _ hx.m1 hx.m2; obtain ⟨b2,b2'⟩:=bm _ hx.n1 hx.n2; obtain ⟨b3,b3'⟩:=bm _ hy.m1 hy.m2; obtain ⟨b4,b4'⟩:=bm _ hy.n1 hy.n2
 refine bE.intro Tryz.func174 rfl Tryz.ntmps174 rfl (fun cx=>(ts (rn rfl (fG (Ht rfl)) fun B3=>(rn rfl (fG (Ht rfl)) fun B4=>(ro rfl (cQ (cJ 0)) (eX (cK (fZ (m:=28) (dp 3 rfl (eZ mV (Ht rfl) rfl) (dq 6 0 rfl (eJ A_32 Z_32 (Ht rfl) (i:=0) rfl rfl rfl) (dp 4 rfl (eZ mV (Ht rfl) rfl) (dq 8 2 rfl (eJ A_32 Z_32 (Ht rfl) (i:=1) rfl rfl rfl) (fA 7 1 9 3 rfl (cZ K_30 (oF (x:=x.f) (y:=y.f) (L:=L) (M:=L) zo) ⟨(Ht rfl),(Ht rfl),trivial⟩) (dp 2 rfl (dJ A_255 Z_255 (Ht rfl)) ?_))))))))))))))
 refine dp 3 rfl (eZ jE (Ht rfl) rfl) (dq 12 6 rfl (eY A_3 Z_3 (Ht rfl) (i:=0) rfl rfl) (fA 11 5 13 7 rfl (aF.imp (U:=aC .i64 (sz x.m)) (iQ (γ:={n:Int // -15 ≤ n ∧ n ≤ 15}) (Ts:=fun n=>[aC .i64 n.1]) (U:=fun n=>aC .i64 (sz n.1)) ⟨x.m,⟨hx.m1,hx.m2⟩⟩ (Ht rfl) ⟨(Ht rfl),trivial⟩) (fun v V h=>h)) (dp 2 rfl (dJ A_255 Z_255 (Ht rfl)) (dp 3 rfl (eZ lH (Ht rfl) rfl) (dq 16 10 rfl (eY A_3 Z_3 (Ht rfl) (i:=0) rfl rfl) (fA 15 9 17 11 rfl (aF.imp (U:=aC .i64 (sz x.n)) (iQ (γ:={n:Int // -15 ≤ n ∧ n ≤ 15}) (Ts:=fun n=>[aC .i64 n.1]) (U:=fun n=>aC .i64 (sz n.1)) ⟨x.n,⟨hx.n1,hx.n2⟩⟩ (Ht rfl) ⟨(Ht rfl),trivial⟩) (fun v V h=>h)) ?_))))))
 refine fA 14 8 18 12 rfl (oS (Ht rfl) (Ht rfl) (sX zo)) (dp 2 rfl (dJ A_255 Z_255 (Ht rfl)) (dp 4 rfl (eZ jE (Ht rfl) rfl) (dq 21 15 rfl (eY A_3 Z_3 (Ht rfl) (i:=1) rfl rfl) (fA 20 14 22 16 rfl (aF.imp (U:=aC .i64 (sz y.m)) (iQ (γ:={n:Int // -15 ≤ n ∧ n ≤ 15}) (Ts:=fun n=>[aC .i64 n.1]) (U:=fun n=>aC .i64 (sz n.1)) ⟨y.m,⟨hy.m1,hy.m2⟩⟩ (Ht rfl) ⟨(Ht rfl),trivial⟩) (fun v V h=>h)) (dp 2 rfl (dJ A_255 Z_255 (Ht rfl)) (dp 4 rfl (eZ lH (Ht rfl) rfl) (dq 25 19 rfl (eY A_3 Z_3 (Ht rfl) (i:=1) rfl rfl) ?_)))))))
 refine fA 24 18 26 20 rfl (aF.imp (U:=aC .i64 (sz y.n)) (iQ (γ:={n:Int // -15 ≤ n ∧ n ≤ 15}) (Ts:=fun n=>[aC .i64 n.1]) (U:=fun n=>aC .i64 (sz n.1)) ⟨y.n,⟨hy.n1,hy.n2⟩⟩ (Ht rfl) ⟨(Ht rfl),trivial⟩) (fun v V h=>h)) (fA 23 17 27 21 rfl (oS (Ht rfl) (Ht rfl) (sX zo)) (fA 19 13 28 22 rfl (cZ Tryz.call176 (tC (a:=sz x.m + sz x.n) (b:=sz y.m + sz y.n)) ⟨(Ht rfl),(Ht rfl),trivial⟩) (dp 3 rfl (eZ jE (Ht rfl) rfl) (dq 30 24 rfl (eY A_3 Z_3 (Ht rfl) (i:=0) rfl rfl) (dp 4 rfl (eZ jE (Ht rfl) rfl) ?_)))))
 refine dq 32 26 rfl (eY A_3 Z_3 (Ht rfl) (i:=1) rfl rfl) (fV mixed rfl (by kernel_rfl) (zF (zF (zF (zF (zF (zF (zF (aV (ro rfl (cZ Tryz.call176 (tC (a:=x.m) (b:=y.m)) ⟨(Ht rfl),(Ht rfl),trivial⟩) (ro rfl (dA (xs:=[.tmp 10,.tmp 29,.tmp 34]) U_283 Z_3 Tryz.zeroValue3 (cW (Ht rfl) (cW (Ht rfl) (cW (Ht rfl) cG))) rfl rfl rfl) ?_)))))))))))
 refine ro rfl (cZ Tryz.call175 (eQ (Wp (l:=[lB x.f y.f,eP (sz x.m + sz x.n) (sz y.m + sz y.n),eP x.m y.m]) (by simp)) (aS (Vc hx.re hy.re))) ⟨(Ht rfl),trivial⟩) ?_
 refine ra rfl (eX ?_)
 exact fW rfl (eU rfl)
theorem tE {f g lo hi:Qi} {o:Int} {L:Nat} (hf:aL f L) (hg:aL g L) (hlo:aL lo L) (hhi:aL hi L) (hL:L ≤ 100000):bE Tryz.prog 74 [aM f,aM g,aM lo,aM hi,aC .i64 o] (gA [Al (bS f g lo hi o),aC .i64 (gU f g lo hi o)]):=by
 haveI:=hf; haveI:=hg; haveI:=hlo; haveI:=hhi
 refine bE.intro Tryz.func74 rfl Tryz.ntmps74 rfl (fun cx=>(ts (rn rfl (fG (Ht rfl)) fun B5=>(rn rfl (fG (Ht rfl)) fun B6=>(rn rfl (fG (Ht rfl)) fun B7=>(rn rfl (fG (Ht rfl)) fun B8=>(ro rfl (cQ cV) (ro rfl (cQ (cJ 0)) (eX (cK (ts (ro rfl (eJ A_32 Z_32 (Ht rfl) (i:=0) rfl rfl rfl) (ro rfl (cZ Tryz.call94 (wO (x:=f) (L:=L) zo) ⟨(Ht rfl),trivial⟩) (ro rfl (fR (Ht rfl)) (rm rfl (fQ rfl rfl (eK rfl rfl (Ht rfl) (fun h=>eJ A_32 Z_32 (Ht rfl) (i:=1) rfl rfl rfl)) ?_))))))))))))))))
 refine fQ rfl rfl (eK rfl rfl (Ht rfl) (fun h=>cZ Tryz.call94 (wO (x:=g) (L:=L) zo) ⟨(fJ rfl h),trivial⟩)) (fQ rfl rfl (eK rfl rfl (Ht rfl) (fun h=>fR (fJ rfl h))) (ro rfl (gH (Ht rfl) (fun h=>(fJ rfl h))) (rm rfl (fQ rfl rfl (eK rfl rfl (Ht rfl) (fun h=>eJ A_32 Z_32 (Ht rfl) (i:=2) rfl rfl rfl)) (fQ rfl rfl (eK rfl rfl (Ht rfl) (fun h=>cZ K_35 (oN (x:=lo)) ⟨(fJ rfl h),trivial⟩)) (fQ rfl rfl (eK rfl rfl (Ht rfl) (fun h=>fR (fJ rfl h))) (ro rfl (gH (Ht rfl) (fun h=>(fJ rfl h))) ?_)))))))
 refine rm rfl (fQ rfl rfl (eK rfl rfl (Ht rfl) (fun h=>eJ A_32 Z_32 (Ht rfl) (i:=3) rfl rfl rfl)) (fQ rfl rfl (eK rfl rfl (Ht rfl) (fun h=>cZ K_35 (oN (x:=hi)) ⟨(fJ rfl h),trivial⟩)) (fQ rfl rfl (eK rfl rfl (Ht rfl) (fun h=>fR (fJ rfl h))) (ro rfl (gH (Ht rfl) (fun h=>(fJ rfl h))) (rm rfl (fQ rfl rfl (eK rfl rfl (Ht rfl) (fun h=>cX (Ht rfl))) (fQ rfl rfl (eK rfl rfl (Ht rfl) (fun h=>nE (fJ rfl h) cV)) (ro rfl (gH (Ht rfl) (fun h=>(fJ rfl h))) (rm rfl ?_)))))))))
 refine fQ rfl rfl (eK rfl rfl (Ht rfl) (fun h=>cX (Ht rfl))) (fQ rfl rfl (eK rfl rfl (Ht rfl) (fun h=>mD (fJ rfl h) cV)) (ro rfl (gH (Ht rfl) (fun h=>(fJ rfl h))) (eX (dQ (Ht rfl) (fun hb=>?_) (fun hb=>?_)))))
 ·have he : gU f g lo hi o = 1 := qA hb
  refine ts (ro rfl (cQ cV) (ro rfl (cQ (cJ 1)) (eX (cB rfl (fX (eU rfl) ?_) (fX (eU rfl) ?_)))))
  ·exact (fun v V h=>by rw [zQ (by rw [he]; decide)]; exact kW v V h)
  ·exact (aS he.symm)
 ·have hb2 : oD f g lo hi o = false := hb
  obtain ⟨pf1,pg1,l0,h0,o1,o2⟩:=wJ hb2
  refine cU (cK (ts (ro rfl (eJ A_32 Z_32 (Ht rfl) (i:=2) rfl rfl rfl) (ro rfl (eJ A_32 Z_32 (Ht rfl) (i:=3) rfl rfl rfl) (ro rfl (cZ K_30 (oF (x:=lo) (y:=hi) (L:=L) (M:=L) zo) ⟨(Ht rfl),(Ht rfl),trivial⟩) (ro rfl (mD (Ht rfl) cV) (eX (dQ (Ht rfl) (fun hgt=>?_) (fun hgt=>?_)))))))))
  ·simp only [decide_eq_true_eq] at hgt
   have he:gU f g lo hi o = 7:=Kf hb2 hgt
   refine ts (ro rfl (cQ cV) (ro rfl (cQ (cJ 7)) (eX (cB rfl (fX (eU rfl) ?_) (fX (eU rfl) ?_)))))
   ·exact (fun v V h=>by rw [zQ (by rw [he]; decide)]; exact kW v V h)
   ·exact (aS he.symm)
  ·simp only [decide_eq_false_iff_not] at hgt
   have he:gU f g lo hi o = 0:=Oq hb2 hgt
   obtain ⟨q,rfl⟩:∃ q:Nat,o = q:=⟨o.toNat,by omega⟩
   have rf:=Fl.pos_re pf1
   have rg:=Fl.pos_re pg1
   have g0:0 < g.re:=Fl.posQ_pos pg1
   refine cU (ts (rn rfl (eW (Ts:=[Is (.nilFunc)]) Tryz.zeroValue255 rfl (fun V=>aW zd (aG))) fun B12=>(lT Z_255 (Ht rfl) (aN.fn Tryz.call172 (γ:={n:Int // -15 ≤ n ∧ n ≤ 15}) (Ts:=fun n=>[aC .i64 n.1]) (U:=fun n=>aC .i64 (sz n.1)) (fun n=>Mg n.2)) (i:=4) rfl (aK rfl) rfl (eX (cK (gJ (i:=4) (tt:=12) rfl rfl tV (cY (ro rfl (cQ cV) (eX (cK (cK (Gp 158 7 (cY (rm rfl (ro rfl (uF (Ht rfl) (sX zo)) (ra rfl (eX (eG ?_))))))))))))))))))
   refine dE [0,1,2,3,5] rfl (by decide) ?_
   refine fM (fun (i : Nat) (v : Value) => i ≤ 2 * q + 1) (fun (i : Nat) (v : Value) => 2 * q + 1 - i) (fun (i : Nat) (v : Value) => [(4, aC .i64 (q : Int)), (5, dB B5 0), (6, dB B6 0), (7, dB B7 0), (8, dB B8 0), (12, PT Wk), (13, Is v), (14, aC .i64 (-(q : Int) + i))]) (fun (i : Nat) (v : Value) => [box B5 32 [aB (decide (f.a < 0)), aH f.a.natAbs, aB (decide (f.b < 0)), aH f.b.natAbs, aH (du f)], box B6 32 [aB (decide (g.a < 0)), aH g.a.natAbs, aB (decide (g.b < 0)), aH g.b.natAbs, aH (du g)], box B7 32 [aB (decide (lo.a < 0)), aH lo.a.natAbs, aB (decide (lo.b < 0)), aH lo.b.natAbs, aH (du lo)], box B8 32 [aB (decide (hi.a < 0)), aH hi.a.natAbs, aB (decide (hi.b < 0)), aH hi.b.natAbs, aH (du hi)], bA 158 7 v ((lN (qD f g lo hi q) (-(q : Int)) i).map Gi)]) 0 (.slice none 0 0) (Nat.zero_le _)
    (aQ rfl (aQ rfl (aQ rfl (aQ rfl (aQ rfl (aQ rfl (aQ rfl (aZ rfl (aS (by simp)) aX)))))))) (aU (aI rfl) (aU (aI rfl) (aU (aI rfl) (aU (aI rfl) (aU (cD rfl) aY))))) (fun i v hi1=>?_)
   refine cK (ts (rm rfl (rm rfl (ro rfl (oT (Ht rfl) (Ht rfl)) (eX (dQ (Ht rfl) (fun hc=>?_) (fun hc=>?_)))))))
   ·simp only [decide_eq_true_eq] at hc
    obtain ⟨m,hm⟩:∃ m:Int,m = -(q:Int) + i:=⟨_,rfl⟩
    have hm1:-15 ≤ m ∧ m ≤ 15:=by omega
    obtain ⟨k,hk⟩:∃ k:Nat,sz m = k:=⟨(sz m).toNat,by have:=Ae m; omega⟩
    have hkq:k ≤ q:=by have h9:sz m = max m (-m):=rfl; omega
    haveI fm:=tT hm1.1 hm1.2
    refine oE (E':=[(4,_),(5,_),(6,_),(7,_),(8,_),(12,_),(13,_),(14,_),(49,_),(50,_),(51,_)]) (aQ rfl (aQ rfl (aQ rfl (aQ rfl (aQ rfl (aQ rfl (aQ rfl (aZ rfl (aS hm.symm) (zS rfl))))))))) (cU (cK (eG (ts (ro rfl (dJ A_255 Z_255 (Ht rfl)) (rm rfl (ro rfl (aF.imp (U:=aC .i64 (sz m)) (iQ (γ:={n:Int // -15 ≤ n ∧ n ≤ 15}) (Ts:=fun n=>[aC .i64 n.1]) (U:=fun n=>aC .i64 (sz n.1)) ⟨m,hm1⟩ (Ht rfl) ⟨(Ht rfl),trivial⟩) (fun v V h=>h)) ?_)))))))
    refine rm rfl (ro rfl (gT (Ht rfl) (Ht rfl) (sX (by rw [hk]; omega))) ?_)
    refine ra rfl (eX (eG ?_))
    refine fM (fun (j : Nat) (v2 : Value) => j ≤ 2 * (q - k) + 1) (fun (j : Nat) (v2 : Value) => 2 * (q - k) + 1 - j) (fun (j : Nat) (v2 : Value) => [(4, aC .i64 (q : Int)), (5, dB B5 0), (6, dB B6 0), (7, dB B7 0), (8, dB B8 0), (12, PT Wk), (13, Is v2), (14, aC .i64 m), (15, aC .i64 ((k : Int) - q + j))]) (fun (j : Nat) (v2 : Value) => [box B5 32 [aB (decide (f.a < 0)), aH f.a.natAbs, aB (decide (f.b < 0)), aH f.b.natAbs, aH (du f)], box B6 32 [aB (decide (g.a < 0)), aH g.a.natAbs, aB (decide (g.b < 0)), aH g.b.natAbs, aH (du g)], box B7 32 [aB (decide (lo.a < 0)), aH lo.a.natAbs, aB (decide (lo.b < 0)), aH lo.b.natAbs, aH (du lo)], box B8 32 [aB (decide (hi.a < 0)), aH hi.a.natAbs, aB (decide (hi.b < 0)), aH hi.b.natAbs, aH (du hi)], bA 158 7 v2 ((lN (qD f g lo hi q) (-(q : Int)) i ++ lN (Dl f g lo hi m) ((k : Int) - q) j).map Gi)]) 0 v (Nat.zero_le _)
     (aQ rfl (aQ rfl (aQ rfl (aQ rfl (aQ rfl (aQ rfl (aQ rfl (aQ rfl (aZ rfl (aS (by rw [hk]; simp)) aX))))))))) (aU (aI rfl) (aU (aI rfl) (aU (aI rfl) (aU (aI rfl) (aU (cD (by simp [lN])) aY))))) (fun j v2 hj1=>?_)
    refine cK (ts (rm rfl (rm rfl (ro rfl (dJ A_255 Z_255 (Ht rfl)) (rm rfl (ro rfl (aF.imp (U:=aC .i64 (sz m)) (iQ (γ:={n:Int // -15 ≤ n ∧ n ≤ 15}) (Ts:=fun n=>[aC .i64 n.1]) (U:=fun n=>aC .i64 (sz n.1)) ⟨m,hm1⟩ (Ht rfl) ⟨(Ht rfl),trivial⟩) (fun v V h=>h)) (ro rfl (gT (Ht rfl) (Ht rfl) (sX (by rw [hk]; omega))) ?_)))))))
    refine ro rfl (oT (Ht rfl) (Ht rfl)) (eX (dQ (Ht rfl) (fun hd=>?_) (fun hd=>?_)))
    ·simp only [decide_eq_true_eq] at hd
     rw [hk] at hd
     obtain ⟨n,hn⟩:∃ n:Int,n = (k:Int) - q + j:=⟨_,rfl⟩
     have hn1:-15 ≤ n ∧ n ≤ 15:=by omega
     haveI fn:=tT hn1.1 hn1.2
     haveI fp:aL (f * Qi.ofInt m + g * Qi.ofInt n) (2 * L + 8):=Ju (m:=m) (n:=n) hf hg hm1.1 hm1.2 hn1.1 hn1.2
     refine oE (E':=[(4,_),(5,_),(6,_),(7,_),(8,_),(12,_),(13,_),(14,_),(15,_),(59,_),(60,_),(61,_),(62,_),(63,_),(64,_),(65,_)]) (aQ rfl (aQ rfl (aQ rfl (aQ rfl (aQ rfl (aQ rfl (aQ rfl (aQ rfl (aZ rfl (aS hn.symm) (zS rfl)))))))))) (cU (cK (eG (cK (fZ (m:=10) (dp 5 rfl (eJ A_32 Z_32 (Ht rfl) (i:=0) rfl rfl rfl) (dp 14 rfl (cX (Ht rfl)) (dq 69 1 rfl (cZ K_36 (kB (n:=m) zo zo) ⟨(Ht rfl),trivial⟩) ?_))))))))
     refine fA 68 0 70 2 rfl (cZ K_29 (kC (x:=f) (y:=Qi.ofInt m) (L:=L) (M:=2) zo) ⟨(Ht rfl),(Ht rfl),trivial⟩) (dp 6 rfl (eJ A_32 Z_32 (Ht rfl) (i:=1) rfl rfl rfl) (dp 15 rfl (cX (Ht rfl)) (dq 73 5 rfl (cZ K_36 (kB (n:=n) zo zo) ⟨(Ht rfl),trivial⟩) (fA 72 4 74 6 rfl (cZ K_29 (kC (x:=g) (y:=Qi.ofInt n) (L:=L) (M:=2) zo) ⟨(Ht rfl),(Ht rfl),trivial⟩) (fA 71 3 75 7 rfl (cZ Tryz.call33 (yE (x:=f * Qi.ofInt m) (y:=g * Qi.ofInt n) (L:=L + 2 + 1) (M:=L + 2 + 1) zo) ⟨(Ht rfl),(Ht rfl),trivial⟩) ?_)))))
     refine C.D_new (Ei:=[]) rfl rfl rfl bW (eW (Ts:=[Is (.bool false),Is (.slice none 0 0),Is (.bool false),Is (.slice none 0 0),Is (.slice none 0 0)]) O_32 rfl (fun V=>aW zd (aW zd (aW zd (aW zd (aW zd (aG))))))) (fV mixed rfl (by kernel_rfl) (zF (zF (aJ (C.F_new (fun B16=>aV (gQ Z_32 (Ht rfl) (Ht rfl) rfl (i:=5) rfl (aK rfl) rfl rfl ?_)))))))
     refine eX (cK (dE [0,1,2,3,4,5] rfl (by decide) (cY (rm rfl (ro rfl (lF (Ht rfl) cV) (rm rfl (fQ rfl rfl (eK rfl rfl (Ht rfl) (fun h=>cX (Ht rfl))) (fQ rfl rfl (eK rfl rfl (Ht rfl) (fun h=>lF (fJ rfl h) cV)) (ro rfl (gH (Ht rfl) (fun h=>(fJ rfl h))) (rm rfl (fQ rfl rfl (eK rfl rfl (Ht rfl) (fun h=>eJ A_32 Z_32 (Ht rfl) (i:=5) rfl rfl rfl)) (fQ rfl rfl (eK rfl rfl (Ht rfl) (fun h=>cZ Tryz.call94 (wO (x:=(f * Qi.ofInt m + g * Qi.ofInt n)) (L:=2 * L + 8) zo) ⟨(fJ rfl h),trivial⟩)) ?_))))))))))))
     refine ro rfl (eS (Ht rfl) (fun h=>(fJ rfl h))) (rm rfl (fQ rfl rfl (eK rfl rfl (Ht rfl) (fun h=>eJ A_32 Z_32 (Ht rfl) (i:=5) rfl rfl rfl)) (fQ rfl rfl (eK rfl rfl (Ht rfl) (fun h=>eJ A_32 Z_32 (Ht rfl) (i:=2) rfl rfl rfl)) (fQ rfl rfl (eK rfl rfl (Ht rfl) (fun h=>cZ K_30 (oF (x:=(f * Qi.ofInt m + g * Qi.ofInt n)) (y:=lo) (L:=2 * L + 8) (M:=L) zo) ⟨(fJ rfl h),(fJ rfl h),trivial⟩)) (fQ rfl rfl (eK rfl rfl (Ht rfl) (fun h=>lE (fJ rfl h) cV)) (ro rfl (eS (Ht rfl) (fun h=>(fJ rfl h))) ?_))))))
     refine rm rfl (fQ rfl rfl (eK rfl rfl (Ht rfl) (fun h=>eJ A_32 Z_32 (Ht rfl) (i:=5) rfl rfl rfl)) (fQ rfl rfl (eK rfl rfl (Ht rfl) (fun h=>eJ A_32 Z_32 (Ht rfl) (i:=3) rfl rfl rfl)) (fQ rfl rfl (eK rfl rfl (Ht rfl) (fun h=>cZ K_30 (oF (x:=(f * Qi.ofInt m + g * Qi.ofInt n)) (y:=hi) (L:=2 * L + 8) (M:=L) zo) ⟨(fJ rfl h),(fJ rfl h),trivial⟩)) (fQ rfl rfl (eK rfl rfl (Ht rfl) (fun h=>oT (fJ rfl h) cV)) (ro rfl (eS (Ht rfl) (fun h=>(fJ rfl h))) (eX ?_))))))
     refine dQ (Ht rfl) (fun hh=>?_) (fun hh=>?_)
     ·have hok : sC f g lo hi m n = true := hh
      have hqq:q ≤ 15:=by omega
      refine cY (rm rfl (rm rfl (rm rfl (ro rfl (eJ A_32 Z_32 (Ht rfl) (i:=5) rfl rfl rfl) (ro rfl (uU (Ht rfl) (Ht rfl) (Ht rfl)) (ro rfl (dA (xs:=[.tmp 103]) U_151 Z_158 O_158 (cW (Ht rfl) cG) rfl rfl rfl) (xV (inf:=Tryz.t158) Po Iw rfl rfl rfl (Ht rfl) (Ht rfl) (i:=4) rfl (by simp) (fun T hT=>by simp at hT; subst hT; exact El.ag rfl) (by show _ * 104 ≤ _; have:=Dy (f:=f) (g:=g) (lo:=lo) (hi:=hi) (k:=k) (m:=m) hqq hi1 hj1; simp only [List.length_map,List.length_cons,List.length_nil]; omega) (by have:=Dy (f:=f) (g:=g) (lo:=lo) (hi:=hi) (k:=k) (m:=m) hqq hi1 hj1; simp only [List.length_map,List.length_cons,List.length_nil]; omega) rfl (fun v3=>?_))))))))
      refine ra rfl (eX (cA (cY (rm rfl (ro rfl (oS (Ht rfl) cV (sX zo)) (ra rfl (eX (dE [0,1,2,3,4] rfl (by decide) (fU (j + 1,v3) (by dsimp only; omega) (by dsimp only; omega) (aQ rfl (aQ rfl (aQ rfl (aQ rfl (aQ rfl (aQ rfl (aQ rfl (aQ rfl (aZ rfl (aS zo) aX))))))))) (aU (aI rfl) (aU (aI rfl) (aU (aI rfl) (aU (aI rfl) (aU (cD (by rw [yI,← hn,Dl,if_pos hok,List.map_append,List.map_append,List.map_append,List.append_assoc]; rfl)) aY))))))))))))))
     ·have hok : sC f g lo hi m n = false := hh
      refine cU (cA (cY (rm rfl (ro rfl (oS (Ht rfl) cV (sX zo)) (ra rfl (eX (dE [0,1,2,3,4] rfl (by decide) (fU (j + 1,v2) (by dsimp only; omega) (by dsimp only; omega) (aQ rfl (aQ rfl (aQ rfl (aQ rfl (aQ rfl (aQ rfl (aQ rfl (aQ rfl (aZ rfl (aS zo) aX))))))))) (aU (aI rfl) (aU (aI rfl) (aU (aI rfl) (aU (aI rfl) (aU (cD (by rw [yI,← hn,Dl,if_neg (by rw [hok]; decide),List.append_nil])) aY)))))))))))))
    ·simp only [decide_eq_false_iff_not] at hd
     rw [hk] at hd
     have hj2:j = 2 * (q - k) + 1:=by omega
     subst hj2
     refine gV rfl (cA (cY (rm rfl (ro rfl (oS (Ht rfl) cV (sX zo)) (ra rfl (eX (fU (i + 1,v2) (by dsimp only; omega) (by dsimp only; omega) (aQ rfl (aQ rfl (aQ rfl (aQ rfl (aQ rfl (aQ rfl (aQ rfl (aZ rfl (aS zo) aX)))))))) (aU (aI rfl) (aU (aI rfl) (aU (aI rfl) (aU (aI rfl) (aU (cD (by show _ = List.map Gi (lN (qD f g lo hi q) (-(q:Int)) i ++ qD f g lo hi q (-(q:Int) + i)); rw [← hm,qD,hk,Int.toNat_natCast])) aY))))))))))))
   ·simp only [decide_eq_false_iff_not] at hc
    have hi2:i = 2 * q + 1:=by omega
    subst hi2
    have hqq:q ≤ 15:=by omega
    have hgl:=Dh (f:=f) (g:=g) (lo:=lo) (hi:=hi) hqq
    obtain ⟨l,hl⟩:∃ l:List {x:Pd // Li (2 * L + 8) x},kM f g lo hi q = l.map Subtype.val:=⟨(kM f g lo hi q).attach.map fun x=>⟨x.1,Di hf hg rf rg hqq x.1 x.2⟩,by rw [List.map_map]; exact (List.attach_map_subtype_val (kM f g lo hi q)).symm⟩
    have hll:l.length ≤ 961:=by rw [hl,List.length_map] at hgl; exact hgl
    refine oK 4 rfl (cD (show (kM f g lo hi q).map Gi = l.map fun x=>Gi x.1 by rw [hl,List.map_map]; rfl)) (dE [4] rfl (by decide) (gV rfl (ts (rm rfl (ro rfl (xE (γ:={x:Pd // Li (2 * L + 8) x} × {x:Pd // Li (2 * L + 8) x}) (Ts:=fun p=>[Gi p.1.1,Gi p.2.1]) (U:=fun p=>aC .i64 (Sa p.1.1 p.2.1)) Tryz.call174 (fun p=>Ma p.1.2 p.2.2 zo) ⟨(Ht rfl),trivial⟩) (Qv (T:=(fun x:{x:Pd // Li (2 * L + 8) x}=>Gi x.1)) (cf:=(fun x y:{x:Pd // Li (2 * L + 8) x}=>Sa x.1 y.1)) Vt rfl (fun x v V h=>by obtain ⟨cs,rfl,_⟩:=h; exact ⟨_,rfl⟩) Tryz.isAgg158 Z_158 (Wz (2 * L + 8)) Tryz.call173 (Ht rfl) (Ht rfl) (i:=0) rfl zo rfl (fun l2 hp hs=>?_)))))))
    refine eX (cK ?_)
    have hres : bS f g lo hi q = l2.map Subtype.val := by
     rw [Kb he]
     refine (Tp (Iq rf rg g0) ?_ ?_).symm
     ·rw [hl]; exact hp.map _
     ·unfold Wj; rw [List.pairwise_map]; exact hs
    refine gJ (i:=0) (tt:=13) rfl rfl lZ (cY (rm rfl (ra rfl (ro rfl (cQ (cJ 0)) (eX (cB rfl (fX (eU rfl) ?_) (fX (eU rfl) ?_)))))))
    ·exact (oV (by rw [hres,List.map_map]; rfl))
    ·exact (aS he.symm)
end
section
open Go Go.RowKit
theorem Ad (m:Nat) (f:Qi) (a b:Nat → Qi):dD m (fun k=>a k - f * b k) = dD m a - f * dD m b:=by
 induction m with
 | zero=>simp only [dD,q0]; grind
 | succ m ih=>simp only [dD,ih]; grind
def Ua (M:List (List Qi)) (n m:Nat) (x:Nat → Qi):Prop:=∀ i,i < n → dD m (fun k=>gm M i k * x k) = 0
def rG (rr rc:List Qi) (c k:Nat):List Qi:=tab rr.length fun j=>if c ≤ j ∧ j < k then gv rr j - gv rr c / gv rc c * gv rc j else gv rr j
def redJ (M:List (List Qi)) (c r:Nat):List (List Qi):=tab M.length fun i=>if i ≠ c ∧ i < r then rG (hJ M i) (hJ M c) c (hJ M i).length else hJ M i
def Fb (M : List (List Qi)) : Nat → Option (List (List Qi))
 | 0=>some M
 | c + 1=>(Fb M c).bind fun A=>if pv A c M.length = M.length then none else some (redJ (swp [] A (pv A c M.length) c) c M.length)
theorem Kl (M:List (List Qi)) (c r:Nat):(redJ M c r).length = M.length:=bI _ _
theorem Fj (rr rc:List Qi) (c k:Nat):(rG rr rc c k).length = rr.length:=bI _ _
theorem Km {M:List (List Qi)} {c r i:Nat} (hi:i < M.length):hJ (redJ M c r) i = if i ≠ c ∧ i < r then rG (hJ M i) (hJ M c) c (hJ M i).length else hJ M i:=by
 simp only [hJ,redJ,List.getD]; rw [eC hi]; rfl
theorem Kn {M:List (List Qi)} {n m c r:Nat} (h:gC M n m):gC (redJ M c r) n m:=by
 refine ⟨(Kl _ _ _).trans h.1,fun x hx=>?_⟩
 obtain ⟨i,hi,rfl⟩:=gK.1 hx
 have hr:=h.row (i:=i) (by rw [← h.1]; exact hi)
 show (if i ≠ c ∧ i < r then rG (hJ M i) (hJ M c) c (hJ M i).length else hJ M i).length = m
 split
 ·rw [Fj]; exact hr
 ·exact hr
theorem sU {M:List (List Qi)} {n m c i j:Nat} (h:gC M n m) (hi:i < n) (hj:j < m):gm (redJ M c n) i j = if i ≠ c ∧ c ≤ j then gm M i j - gm M i c / gm M c c * gm M c j else gm M i j:=by
 have hr:(hJ M i).length = m:=h.row hi
 show gv (hJ (redJ M c n) i) j = _
 rw [Km (by rw [h.1]; exact hi)]
 by_cases e:i = c
 ·rw [if_neg (fun k=>k.1 e),if_neg (fun k=>k.1 e)]
 ·rw [if_pos ⟨e, hi⟩, rG, wX zo]
  by_cases e2:c ≤ j
  ·rw [if_pos ⟨e2,by omega⟩,if_pos ⟨e,e2⟩]
  ·rw [if_neg (fun k=>e2 k.1),if_neg (fun k=>e2 k.2)]
theorem Bu {M:List (List Qi)} {p c i:Nat} (hp:p < M.length) (hc:c < M.length):hJ (swp [] M p c) i = hJ M (if i = c then p else if i = p then c else i):=by
 simp only [hJ,swp,List.getD]
 by_cases e:i = c
 ·subst e; rw [List.getElem?_set_self (by simpa using hc),if_pos rfl]; rfl
 ·rw [List.getElem?_set_ne (Ne.symm e), if_neg e]
  by_cases e2:i = p
  ·subst e2; rw [List.getElem?_set_self hp,if_pos rfl]; rfl
  ·rw [List.getElem?_set_ne (Ne.symm e2),if_neg e2]
theorem Nh {M:List (List Qi)} {n m p c:Nat} {x:Nat → Qi} (hl:M.length = n) (hp:p < n) (hc:c < n):Ua (swp [] M p c) n m x ↔ Ua M n m x:=by
 have key : ∀ i, gm (swp [] M p c) i = gm M (if i = c then p else if i = p then c else i) := fun i => by
  funext j; exact congrArg (fun r=>gv r j) (Bu zo zo)
 constructor
 ·intro h i hi
  have h1:=h (if i = c then p else if i = p then c else i) (by split <;> (try split) <;> omega)
  rw [key] at h1
  have e : (if (if i = c then p else if i = p then c else i) = c then p else if (if i = c then p else if i = p then c else i) = p then c else (if i = c then p else if i = p then c else i)) = i := by
   by_cases e1:i = c
   ·subst e1; rw [if_pos rfl]
    by_cases e2:p = i
    ·rw [if_pos e2]; exact e2
    ·rw [if_neg e2,if_pos rfl]
   ·rw [if_neg e1]
    by_cases e2:i = p
    ·subst e2; rw [if_pos rfl,if_pos rfl]
    ·rw [if_neg e2,if_neg e1,if_neg e2]
  rw [e] at h1; exact h1
 ·intro h i hi
  rw [key]; exact h _ (by split <;> (try split) <;> omega)
theorem Ng {M:List (List Qi)} {n m c:Nat} {x:Nat → Qi} (hs:gC M n m) (hc:c < n) (hz:∀ j,j < c → gm M c j = 0):Ua (redJ M c n) n m x ↔ Ua M n m x:=by
 have key : ∀ i, i < n → i ≠ c → dD m (fun k => gm (redJ M c n) i k * x k) = dD m (fun k => gm M i k * x k) - gm M i c / gm M c c * dD m (fun k => gm M c k * x k) := fun i hi e => by
  rw [← Ad]
  refine iZ fun k hk=>?_
  rw [sU hs hi hk]
  by_cases e2:c ≤ k
  ·rw [if_pos ⟨e,e2⟩]; grind
  ·rw [if_neg (fun h=>e2 h.2),hz k zo]; grind
 have keyc:dD m (fun k=>gm (redJ M c n) c k * x k) = dD m (fun k=>gm M c k * x k):=iZ fun k hk=>by rw [sU hs hc hk,if_neg (fun h=>h.1 rfl)]
 constructor
 ·intro h i hi
  have h0:=h c hc
  rw [keyc] at h0
  by_cases e:i = c
  ·rw [e]; exact h0
  ·have h1 := h i hi
   rw [key i hi e,h0] at h1
   grind
 ·intro h i hi
  have h0:=h c hc
  by_cases e:i = c
  ·rw [e,keyc]; exact h0
  ·rw [key i hi e,h0,h i hi]; grind
structure GJ (M A:List (List Qi)) (n m c:Nat):Prop where
 sh:gC A n m
 ker:∀ x,Ua A n m x ↔ Ua M n m x
 off:∀ j,j < c → ∀ i,i < n → i ≠ j → gm A i j = 0
 dg:∀ j,j < c → gm A j j ≠ 0
theorem GJ.next {M A:List (List Qi)} {n m c p:Nat} (h:GJ M A n m c) (hc:c < n) (hnm:n ≤ m) (hcp:c ≤ p) (hp:p < n) (hz:gm A p c ≠ 0):GJ M (redJ (swp [] A p c) c n) n m (c + 1):=by
 have hs:gC (swp [] A p c) n m:=xR h.sh hp hc
 have hl:=h.sh.1
 have key : ∀ i, gm (swp [] A p c) i = gm A (if i = c then p else if i = p then c else i) := fun i => by
  funext j; exact congrArg (fun r=>gv r j) (Bu zo zo)
 have hcc:gm (swp [] A p c) c c ≠ 0:=by rw [key,if_pos rfl]; exact hz
 have hoff : ∀ j, j < c → ∀ i, i < n → i ≠ j → gm (swp [] A p c) i j = 0 := fun j hj i hi hij => by
  rw [key]
  by_cases e1:i = c
  ·rw [if_pos e1]; exact h.off j hj p hp zo
  ·rw [if_neg e1]
   by_cases e2:i = p
   ·rw [if_pos e2]; exact h.off j hj c hc zo
   ·rw [if_neg e2]; exact h.off j hj i hi hij
 refine ⟨Kn hs,fun x=>(Ng hs hc (fun j hj=>hoff j hj c hc zo)).trans ((Nh hl hp hc).trans (h.ker x)),fun j hj i hi hij=>?_,fun j hj=>?_⟩
 ·rw [sU hs hi zo]
  by_cases e:j = c
  ·subst e
   rw [if_pos ⟨hij,Nat.le_refl _⟩]
   have:=wT (x:=gm (swp [] A p j) i j) hcc
   grind
  ·rw [if_neg (fun k=>by omega)]; exact hoff j zo i hi hij
 ·rw [sU hs zo zo]
  by_cases e:j = c
  ·subst e; rw [if_neg (fun k=>k.1 rfl)]; exact hcc
  ·rw [if_neg (fun k=>by omega),key,if_neg zo,if_neg zo]; exact h.dg j zo
theorem Iu {M : List (List Qi)} {n m : Nat} (hs : gC M n m) (hnm : n ≤ m) : ∀ {c : Nat} {A : List (List Qi)}, c ≤ n → Fb M c = some A → GJ M A n m c
 | 0, A, _, h => by
  obtain rfl:=Option.some.inj h
  exact ⟨hs,fun _=>Iff.rfl,fun j hj=>by omega,fun j hj=>by omega⟩
 | c + 1, A, hc, h => by
  simp only [Fb] at h
  obtain ⟨B,h1,h2⟩:=Option.bind_eq_some_iff.1 h
  split at h2
  ·cases h2
  ·rename_i e
   obtain rfl:=Option.some.inj h2
   have ih:=Iu hs hnm (c:=c) zo h1
   rw [hs.1] at e ⊢
   obtain ⟨_,i2,i3,i4⟩:=qC (M:=B) (c:=c) (n:=n) zo
   exact ih.next zo hnm i2 zo (i4 zo)
theorem Fi {rr rc : List Qi} {L c k : Nat} (h1 : eO rr L) (h2 : eO rc L) (hL : 1 ≤ L) (hp : gv rc c ≠ Qi.zero) : eO (rG rr rc c k) (6 * L + 4) := eO.tab fun j _ => by
 split
 ·exact Dd h1 h2 hL hp
 ·exact (h1.get hL j).le zo
theorem Kk {M : List (List Qi)} {L c r : Nat} (h : bL M L) (hL : 1 ≤ L) (hp : gm M c c ≠ Qi.zero) : bL (redJ M c r) (6 * L + 4) := fun x hx => by
 obtain ⟨i,hi,rfl⟩:=gK.1 hx
 show eO (if i ≠ c ∧ i < r then rG (hJ M i) (hJ M c) c (hJ M i).length else hJ M i) _
 split
 ·exact Fi (h.row i) (h.row c) hL hp
 ·exact (h.row i).le zo
theorem Ir {M : List (List Qi)} {n m L : Nat} (hs : gC M n m) (hnm : n ≤ m) (h : bL M L) (hL : 1 ≤ L) : ∀ {c : Nat} {A : List (List Qi)}, c ≤ n → Fb M c = some A → bL A (grow L c)
 | 0,A,_,e=>by obtain rfl:=Option.some.inj e; exact h
 | c + 1, A, hc, e => by
  simp only [Fb] at e
  obtain ⟨B,h1,h2⟩:=Option.bind_eq_some_iff.1 e
  split at h2
  ·cases h2
  ·rename_i e3
   obtain rfl:=Option.some.inj h2
   have ih:=Ir hs hnm h hL (c:=c) zo h1
   have hsB:=(Iu hs hnm (c:=c) zo h1).sh
   rw [hs.1] at e3 ⊢
   obtain ⟨_,i2,i3,i4⟩:=qC (M:=B) (c:=c) (n:=n) zo
   refine Kk (Ee ih) (Nat.le_trans hL (sM L c)) ?_
   show gv (hJ (swp [] _ _ c) c) c ≠ _
   rw [xP (by rw [hsB.1]; omega)]
   exact i4 zo
end
section
open Go Go.RowKit
abbrev pA (ps:List (Nat × Nat)) (k:Nat):Nat:=(ps.getD k (0,0)).1
abbrev pB (ps:List (Nat × Nat)) (k:Nat):Nat:=(ps.getD k (0,0)).2
end
section
open Go Go.RowKit
def Sb (A:List (List Qi)) (c i j:Nat):Qi:=if j < c ∧ j < i then 0 else gm A i j
def uR (F:Nat → Nat → Qi) (n m:Nat) (x:Nat → Qi):Prop:=∀ i,i < n → dD m (fun k=>F i k * x k) = 0
theorem Bg {F G:Nat → Nat → Qi} {n m:Nat} {x:Nat → Qi} (h:∀ i,i < n → ∀ j,j < m → F i j = G i j):uR F n m x ↔ uR G n m x:=by
 have e:∀ i,i < n → dD m (fun k=>F i k * x k) = dD m (fun k=>G i k * x k):=fun i hi=>iZ fun k hk=>by rw [h i hi k hk]
 exact ⟨fun k i hi=>by rw [← e i hi]; exact k i hi,fun k i hi=>by rw [e i hi]; exact k i hi⟩
def Lc (p c i:Nat):Nat:=if i = c then p else if i = p then c else i
theorem Ld {p c i n:Nat} (hp:p < n) (hc:c < n) (hi:i < n):Lc p c i < n:=by unfold Lc; split <;> (try split) <;> omega
theorem Pm (p c i:Nat):Lc p c (Lc p c i) = i:=by
 unfold Lc
 by_cases e1:i = c
 ·subst e1
  rw [if_pos rfl]
  by_cases e2:p = i
  ·rw [if_pos e2]; exact e2
  ·rw [if_neg e2,if_pos rfl]
 ·rw [if_neg e1]
  by_cases e2:i = p
  ·subst e2; rw [if_pos rfl,if_pos rfl]
  ·rw [if_neg e2,if_neg e1,if_neg e2]
theorem Iy {F : Nat → Nat → Qi} {n m p c : Nat} {x : Nat → Qi} (hp : p < n) (hc : c < n) : uR (fun i => F (Lc p c i)) n m x ↔ uR F n m x :=
 ⟨fun h i hi=>by have:=h _ (Ld hp hc hi); simp only [Pm] at this; exact this,fun h i hi=>h _ (Ld hp hc hi)⟩
theorem Ix {F G:Nat → Nat → Qi} {n m c:Nat} {x f:Nat → Qi} (hc:c < n) (hG:∀ i,i < n → ∀ j,j < m → G i j = if c < i then F i j - f i * F c j else F i j):uR G n m x ↔ uR F n m x:=by
 have key : ∀ i, i < n → dD m (fun k => G i k * x k) = if c < i then dD m (fun k => F i k * x k) - f i * dD m (fun k => F c k * x k) else dD m (fun k => F i k * x k) := fun i hi => by
  by_cases e:c < i
  ·rw [if_pos e, ← Ad]
   exact iZ fun k hk=>by rw [hG i hi k hk,if_pos e]; grind
  ·rw [if_neg e]
   exact iZ fun k hk=>by rw [hG i hi k hk,if_neg e]
 have kc:=key c hc
 rw [if_neg zo] at kc
 constructor
 ·intro h i hi
  have h0:=h c hc
  rw [kc] at h0
  have h1:=h i hi
  rw [key i hi] at h1
  by_cases e:c < i
  ·rw [if_pos e,h0] at h1; grind
  ·rw [if_neg e] at h1; exact h1
 ·intro h i hi
  rw [key i hi]
  by_cases e:c < i
  ·rw [if_pos e,h i hi,h c hc]; grind
  ·rw [if_neg e]; exact h i hi
theorem Oz {M:List (List Qi)} {n m c i j:Nat} (h:gC M n m) (hi:i < n) (hj:j < m):gm (redM M c n) i j = if c < i ∧ c < j then gm M i j - gm M i c / gm M c c * gm M c j else gm M i j:=by
 have hr:(hJ M i).length = m:=h.row hi
 have e0 : hJ (redM M c n) i = if c < i ∧ i < n then zY (hJ M i) (hJ M c) c (hJ M i).length else hJ M i := by
  simp only [hJ,redM,List.getD]; rw [eC (by rw [h.1]; exact hi)]; rfl
 show gv (hJ (redM M c n) i) j = _
 rw [e0]
 by_cases e:c < i
 ·rw [if_pos ⟨e, hi⟩, zY, wX zo]
  by_cases e2:c < j
  ·rw [if_pos ⟨e2,by omega⟩,if_pos ⟨e,e2⟩]
  ·rw [if_neg (fun k=>e2 k.1),if_neg (fun k=>e2 k.2)]
 ·rw [if_neg (fun k=>e k.1),if_neg (fun k=>e k.1)]
theorem Mk {A:List (List Qi)} {p c i j:Nat} (hc:c < A.length) (hp:p < A.length) (hcp:c ≤ p):Sb (swp [] A p c) c i j = Sb A c (Lc p c i) j:=by
 have key:gm (swp [] A p c) i j = gm A (Lc p c i) j:=congrArg (fun r=>gv r j) (Bu zo zo)
 unfold Sb
 rw [key]
 have e:(j < c ∧ j < i) ↔ (j < c ∧ j < Lc p c i):=by unfold Lc; split <;> (try split) <;> omega
 by_cases h:j < c ∧ j < i
 ·rw [if_pos h,if_pos (e.1 h)]
 ·rw [if_neg h,if_neg (fun k=>h (e.2 k))]
structure EL (M A:List (List Qi)) (n m c:Nat):Prop where
 sh:gC A n m
 ker:∀ x,uR (Sb A c) n m x ↔ uR (gm M) n m x
theorem EL.next {M A:List (List Qi)} {n m c p:Nat} (h:EL M A n m c) (hc:c < n) (hcm:c < m) (hcp:c ≤ p) (hp:p < n) (hz:gm A p c ≠ 0):EL M (redM (if p = c then A else swp [] A p c) c n) n m (c + 1):=by
 have hl:=h.sh.1
 obtain ⟨B,hB⟩:∃ B,B = if p = c then A else swp [] A p c:=⟨_,rfl⟩
 have hs : gC B n m := by
  rw [hB]; split
  ·exact h.sh
  ·exact xR h.sh hp hc
 have hBk : ∀ x, uR (Sb B c) n m x ↔ uR (gm M) n m x := fun x => by
  rw [hB]; split
  ·exact h.ker x
  ·exact (Bg (G:=fun i=>Sb A c (Lc p c i)) fun i hi j hj=>Mk zo zo hcp).trans ((Iy hp hc).trans (h.ker x))
 have hBz : gm B c c ≠ 0 := by
  rw [hB]; split
  ·rename_i e; rw [← e] at hz ⊢; exact hz
  ·show gv (hJ (swp [] A p c) c) c ≠ 0
   rw [xP zo]; exact hz
 rw [← hB]
 refine ⟨zX hs,fun x=>(Ix (f:=fun i=>gm B i c / gm B c c) hc fun i hi j hj=>?_).trans (hBk x)⟩
 have hd:=wT (x:=gm B i c) hBz
 unfold Sb
 rw [Oz hs hi hj]
 by_cases e:c < i
 ·rw [if_pos e]
  by_cases e1:j < c
  ·rw [if_pos zo,if_pos zo,if_pos zo]; grind
  ·by_cases e2 : j = c
   ·subst e2
    rw [if_pos zo,if_neg zo,if_neg zo]; grind
   ·rw [if_neg zo,if_pos zo,if_neg zo,if_neg zo]
 ·rw [if_neg e, if_neg (show ¬ (c < i ∧ c < j) from fun k => e k.1)]
  by_cases e1:j < i
  ·rw [if_pos (show j < c + 1 ∧ j < i by omega),if_pos (show j < c ∧ j < i by omega)]
  ·rw [if_neg (show ¬ (j < c + 1 ∧ j < i) by omega),if_neg (show ¬ (j < c ∧ j < i) by omega)]
end
section
open Go Go.RowKit
def Gd (G : List Nat) : Nat → List Nat
 | 0=>[]
 | k + 1=>Gd G k ++ (if k ∈ G then [] else [k])
abbrev Ww (Q:List Nat) (i:Nat):Nat:=Q.getD i 0
end
section
open Go Go.RowKit
def gq (ps:List (Nat × Nat)) (x:Nat):Nat:=if x % 2 = 0 then pA ps (x / 2) else pB ps (x / 2)
structure Jn (ps:List (Nat × Nat)) (n K:Nat):Prop where
 lt:∀ x,x < 2 * K → gq ps x < n
 inj:∀ x y,x < 2 * K → y < 2 * K → gq ps x = gq ps y → x = y
theorem Jn.le {ps:List (Nat × Nat)} {n K k:Nat} (h:Jn ps n K) (hk:k ≤ K):Jn ps n k:=⟨fun x hx=>h.lt x zo,fun x y hx hy=>h.inj x y zo zo⟩
end
section
open Go Go.RowKit
theorem Wv : ∀ {n m : Nat} {f : Nat → Nat}, (∀ x, x < m → f x < n) → (∀ x y, x < m → y < m → f x = f y → x = y) → m ≤ n
 | 0, m, f, h, _ => by
  cases m with
  | zero=>exact Nat.le_refl 0
  | succ m=>exact absurd (h 0 zo) zo
 | n + 1,0,_,_,_=>by omega
 | n + 1, k + 1, f, h, i => by
  have := Wv (n := n) (m := k) (f := fun x => if f x = n then f k else f x) (fun x hx => by
   have h1:=h x zo
   have h2:=h k zo
   by_cases c:f x = n
   ·simp only [if_pos c]
    have:f k ≠ n:=fun e=>by have:=i x k zo zo (by rw [c,e]); omega
    omega
   ·simp only [if_neg c]; omega) (fun x y hx hy e=>by
   by_cases c:f x = n <;> by_cases d:f y = n
   ·exact i x y zo zo (by rw [c,d])
   ·simp only [if_pos c, if_neg d] at e
    have:=i k y zo zo e; omega
   ·simp only [if_neg c, if_pos d] at e
    have:=i x k zo zo e; omega
   ·simp only [if_neg c, if_neg d] at e
    exact i x y zo zo e)
  omega
end
section
open Go Go.RowKit
theorem Nb {x y:Qi} {L M:Nat} (hx:aL x L) (hy:aL y M) (h:y ≠ 0):aL (x / y) (L + 3 * M + 2):=⟨hx.fit.div hy.fit h⟩
end
section
open Go Go.RowKit
structure vA (O:List Nat) (n:Nat):Prop where
 nd:O.Nodup
 all:∀ x,x ∈ O ↔ 1 ≤ x ∧ x ≤ n
theorem vA.len {O:List Nat} {n:Nat} (h:vA O n):O.length = n:=by
 refine Nat.le_antisymm ?_ ?_
 ·refine Wv (n := n) (f := fun i => O.getD i 0 - 1) (fun x hx => ?_) (fun x y hx hy e => ?_)
  ·have := (h.all (O.getD x 0)).1 (by rw [show O.getD x 0 = O[x] by simp [List.getD, hx]]; exact List.getElem_mem hx)
   show O.getD x 0 - 1 < n; omega
  ·have a := (h.all (O.getD x 0)).1 (by rw [show O.getD x 0 = O[x] by simp [List.getD, hx]]; exact List.getElem_mem hx)
   have b:=(h.all (O.getD y 0)).1 (by rw [show O.getD y 0 = O[y] by simp [List.getD,hy]]; exact List.getElem_mem hy)
   have e2:O.getD x 0 = O.getD y 0:=by have:O.getD x 0 - 1 = O.getD y 0 - 1:=e; omega
   rw [show O.getD x 0 = O[x] by simp [List.getD,hx],show O.getD y 0 = O[y] by simp [List.getD,hy]] at e2
   exact (List.getElem_inj h.nd).1 e2
 ·have key : ∀ j, j < n → ∃ i, i < O.length ∧ O.getD i 0 = j + 1 := fun j hj => by
   obtain ⟨i,hi,e⟩:=List.getElem_of_mem ((h.all (j + 1)).2 ⟨by omega,by omega⟩)
   exact ⟨i,hi,by simp [List.getD,hi,e]⟩
  refine Wv (n:=O.length) (f:=fun j=>if hj:j < n then Classical.choose (key j hj) else 0) (fun x hx=>by simp only [dif_pos hx]; exact (Classical.choose_spec (key x hx)).1) (fun x y hx hy e=>?_)
  simp only [dif_pos hx,dif_pos hy] at e
  have a:=(Classical.choose_spec (key x hx)).2
  have b:=(Classical.choose_spec (key y hy)).2
  rw [e] at a; omega
section
variable {O:List Nat} {n:Nat}
theorem vA.at (h:vA O n) {i:Nat} (hi:i < n):1 ≤ O.getD i 0 ∧ O.getD i 0 ≤ n:=by
 have hl:=h.len
 exact (h.all _).1 (by rw [show O.getD i 0 = O[i] by simp [List.getD,show i < O.length by omega]]; exact List.getElem_mem _)
theorem vA.inj (h:vA O n) {i j:Nat} (hi:i < n) (hj:j < n) (e:O.getD i 0 = O.getD j 0):i = j:=by
 have hl:=h.len
 rw [show O.getD i 0 = O[i] by simp [List.getD,show i < O.length by omega],show O.getD j 0 = O[j] by simp [List.getD,show j < O.length by omega]] at e
 exact (List.getElem_inj h.nd).1 e
end
end
section
open Go Go.RowKit
section
variable {S:List (List Qi)} {p q r t a b:Nat}
theorem Pl {x y:Qi} (h:x - y = 0):x = y:=by grind
end
section
variable {S:Nat → Nat → Qi} {p q r t a b:Nat}
def S1 (S:Nat → Nat → Qi) (p q:Nat) (V:Nat → Qi × Qi) (a b:Nat):Qi:=S a b + (S a p * (V b).1 + S a q * (V b).2)
variable {V:Nat → Qi × Qi}
end
end
section
open Go Go.RowKit
def low (c a b:Nat):Nat:=c - (if a < c then 1 else 0) - (if b < c then 1 else 0)
def okP (N p q r t : Nat) : Bool :=
 decide ((Gd [p,q] N).length = N - 2) && decide (low r p q < N - 2) && decide (low t p q < N - 2) && decide (low r p q ≠ low t p q) && decide (Ww (Gd [p,q] N) (low r p q) = r) && decide (Ww (Gd [p,q] N) (low t p q) = t)
 && decide ((Gd [low r p q,low t p q] (N - 2)).map (Ww (Gd [p,q] N)) = Gd [p,q,r,t] N) && decide ((Gd [p,q,r,t] N).length = N - 4) && decide (Gd [t,r,p,q] N = Gd [p,q,r,t] N) && decide (Gd [r,t,p,q] N = Gd [p,q,r,t] N)
section
variable {z:List Qi} {S:List (List Qi)} {N p q r t:Nat} {ζ:Qi}
end
end
section
open Go Go.RowKit
def Gb (x:Qi) (N:Nat):Prop:=∃ p q:Int,x = Qi.mk (p:Rat) (q:Rat) ∧ p.natAbs ≤ N ∧ q.natAbs ≤ N
theorem Gb.le {x:Qi} {N M:Nat} (h:Gb x N) (k:N ≤ M):Gb x M:=by
 obtain ⟨p,q,e,h1,h2⟩:=h; exact ⟨p,q,e,by omega,by omega⟩
theorem Gb.add {x y:Qi} {N M:Nat} (h:Gb x N) (k:Gb y M):Gb (x + y) (N + M):=by
 obtain ⟨p,q,rfl,h1,h2⟩:=h; obtain ⟨r,s,rfl,k1,k2⟩:=k
 refine ⟨p + r,q + s,Qi.ext' ?_ ?_,by omega,by omega⟩
 ·show (p:Rat) + (r:Rat) = ((p + r:Int):Rat); push_cast; rfl
 ·show (q:Rat) + (s:Rat) = ((q + s:Int):Rat); push_cast; rfl
theorem Gb.neg {x:Qi} {N:Nat} (h:Gb x N):Gb (-x) N:=by
 obtain ⟨p,q,rfl,h1,h2⟩:=h
 refine ⟨-p,-q,Qi.ext' ?_ ?_,by omega,by omega⟩
 ·show -(p:Rat) = ((-p:Int):Rat); push_cast; rfl
 ·show -(q:Rat) = ((-q:Int):Rat); push_cast; rfl
theorem Gb.sub {x y:Qi} {N M:Nat} (h:Gb x N) (k:Gb y M):Gb (x - y) (N + M):=by rw [Qi.sub_def]; exact h.add k.neg
theorem sS {p q:Int} {N M:Nat} (h:p.natAbs ≤ N) (k:q.natAbs ≤ M):(p * q).natAbs ≤ N * M:=by rw [Int.natAbs_mul]; exact Nat.mul_le_mul h k
theorem Gb.mul {x y:Qi} {N M:Nat} (h:Gb x N) (k:Gb y M):Gb (x * y) (2 * N * M):=by
 obtain ⟨p,q,rfl,h1,h2⟩:=h; obtain ⟨r,s,rfl,k1,k2⟩:=k
 have a1:=sS h1 k1; have a2:=sS h2 k2; have a3:=sS h1 k2; have a4:=sS h2 k1
 have e:2 * N * M = N * M + N * M:=by rw [Nat.mul_assoc,Nat.two_mul]
 refine ⟨p * r - q * s,p * s + q * r,Qi.ext' ?_ ?_,by omega,by omega⟩
 ·rw [Qi.mul_re]; show (p:Rat) * (r:Rat) - (q:Rat) * (s:Rat) = ((p * r - q * s:Int):Rat); push_cast; rfl
 ·rw [Qi.mul_im]; show (p:Rat) * (s:Rat) + (q:Rat) * (r:Rat) = ((p * s + q * r:Int):Rat); push_cast; rfl
theorem Gb.sum {f : Nat → Qi} {N : Nat} : ∀ {n : Nat}, (∀ k, k < n → Gb (f k) N) → Gb (dD n f) (n * N)
 | 0,_=>⟨0,0,Qi.ext' rfl rfl,by simp,by simp⟩
 | n + 1, h => by
  rw [dD,Nat.succ_mul]
  exact (Gb.sum fun k hk=>h k zo).add (h n zo)
theorem Gb.fit {x:Qi} {N L:Nat} (h:Gb x N) (hN:N < BB ^ L) (hL:1 ≤ L):aL x L:=by
 obtain ⟨p,q,rfl,h1,h2⟩:=h
 have e:Qi.mk (p:Rat) (q:Rat) = Qi.mk' p q 1:=Qi.ext' (by rw [Qi.mk_re]; show (p:Rat) = p / ((1:Nat):Rat); grind) (by rw [Qi.mk_im]; show (q:Rat) = q / ((1:Nat):Rat); grind)
 rw [e]
 exact ⟨Qi.Fit.mk (by decide) zo zo (Qi.one_lt hL)⟩
end
section
open Go Go.RowKit
section
variable {a b:Qi} {A B C:List (List Qi)} {d e:Nat → Qi} {n:Nat}
end
theorem q2:Qi.ofInt 2 = 2:=rfl
section
variable {z:List Qi} {s:List (List Qi)}
end
end
section
open Go Go.RowKit
def qG (r:List Qi) (w:Nat):Prop:=∃ d:Qi,d ≠ 0 ∧ Gb d (BB ^ w) ∧ ∀ j,Gb (d * gv r j) (BB ^ w)
theorem qG.le {r:List Qi} {w v:Nat} (h:qG r w) (k:w ≤ v):qG r v:=by
 obtain ⟨d,d0,dg,dj⟩:=h
 have hp:BB ^ w ≤ BB ^ v:=Nat.pow_le_pow_right cI k
 exact ⟨d,d0,dg.le hp,fun j=>(dj j).le hp⟩
theorem Bx (w:Nat):2 * BB ^ w * BB ^ w + 2 * BB ^ w * BB ^ w ≤ BB ^ (2 * w + 1):=by
 have e:BB ^ (2 * w + 1) = BB ^ w * BB ^ w * BB:=by rw [Nat.pow_succ,Nat.two_mul,Nat.pow_add]
 rw [e,Nat.mul_assoc 2,← Nat.two_mul,← Nat.mul_assoc 2 2,Nat.mul_comm (2 * 2)]
 exact Nat.mul_le_mul_left _ (by decide)
theorem Si {l:List Qi} {j:Nat} (h:l.length ≤ j):gv l j = 0:=by simp [gv,List.getD,List.getElem?_eq_none h]; rfl
theorem Nf (N:Nat):Gb 0 N:=⟨0,0,Qi.ext' rfl rfl,by simp,by simp⟩
theorem qG.red {rr rc:List Qi} {c w:Nat} {P:Nat → Prop} [DecidablePred P] (h1:qG rr w) (h2:qG rc w) (hp:gv rc c ≠ 0):qG (tab rr.length fun j=>if P j then gv rr j - gv rr c / gv rc c * gv rc j else gv rr j) (2 * w + 1):=by
 obtain ⟨d,d0,dg,dj⟩:=h1
 obtain ⟨e,e0,eg,ej⟩:=h2
 have t:=Bx w
 refine ⟨d * (e * gv rc c),fun k=>?_,(dg.mul (ej c)).le zo,fun j=>?_⟩
 ·rcases rE k with k | k
  ·exact d0 k
  ·rcases rE k with k | k
   ·exact e0 k
   ·exact hp k
 ·by_cases hj : j < rr.length
  ·rw [wX hj]
   by_cases hP:P j
   ·rw [if_pos hP]
    have hd:=wT (x:=gv rr c) hp
    have ee : d * (e * gv rc c) * (gv rr j - gv rr c / gv rc c * gv rc j) = d * gv rr j * (e * gv rc c) - d * gv rr c * (e * gv rc j) := by
     have e2:d * (e * gv rc c) * (gv rr c / gv rc c * gv rc j) = d * (gv rr c / gv rc c * gv rc c) * (e * gv rc j):=by grind
     rw [hd] at e2
     grind
    rw [ee]
    exact (((dj j).mul (ej c)).sub ((dj c).mul (ej j))).le t
   ·rw [if_neg hP]
    have ee:d * (e * gv rc c) * gv rr j = d * gv rr j * (e * gv rc c):=by grind
    rw [ee]
    exact ((dj j).mul (ej c)).le zo
  ·rw [Si (l := tab rr.length fun j => if P j then gv rr j - gv rr c / gv rc c * gv rc j else gv rr j) (by rw [bI]; omega)]
   have ee:d * (e * gv rc c) * 0 = 0:=by grind
   rw [ee]; exact Nf _
theorem qG.fit {r : List Qi} {w : Nat} (h : qG r w) : eO r (4 * (w + 1) + 2) := fun x hx => by
 obtain ⟨d,d0,dg,dj⟩:=h
 obtain ⟨j,hj,e⟩:=List.getElem_of_mem hx
 have e2:gv r j = x:=by simp [gv,List.getD,hj,e]
 have hlt:BB ^ w < BB ^ (w + 1):=Nat.pow_lt_pow_right (by decide) zo
 have f1:aL (d * gv r j) (w + 1):=(dj j).fit hlt zo
 have f2:aL d (w + 1):=dg.fit hlt zo
 have f3:aL (d * gv r j / d) (w + 1 + 3 * (w + 1) + 2):=Nb f1 f2 d0
 rw [Sg (z:=x) d0 (by rw [e2]; grind)] at f3
 exact f3.le zo
abbrev mM (M:List (List Qi)) (w:Nat):Prop:=∀ r,r ∈ M → qG r w
theorem mM.row {M : List (List Qi)} {w i : Nat} (h : mM M w) (hi : i < M.length) : qG (hJ M i) w := h _ (by
 rw [show hJ M i = M[i] by simp [hJ,List.getD,hi]]; exact List.getElem_mem hi)
theorem mM.swp {M : List (List Qi)} {w p c : Nat} (h : mM M w) (hp : p < M.length) (hc : c < M.length) : mM (swp [] M p c) w := fun x hx => by
 unfold Go.Proofs.YthcmlodgnfekeaaGreat.swp at hx
 rcases List.mem_or_eq_of_mem_set hx with h1 | h1
 ·rcases List.mem_or_eq_of_mem_set h1 with h2 | h2
  ·exact h x h2
  ·rw [h2]; exact h.row hc
 ·rw [h1]; exact h.row hp
theorem mM.redM {M : List (List Qi)} {w c r : Nat} (h : mM M w) (hc : c < M.length) (hp : gm M c c ≠ Qi.zero) : mM (redM M c r) (2 * w + 1) := fun x hx => by
 obtain ⟨i,hi,rfl⟩:=gK.1 hx
 show qG (if c < i ∧ i < r then zY (hJ M i) (hJ M c) c (hJ M i).length else hJ M i) _
 split
 ·exact (h.row hi).red (h.row hc) hp
 ·exact (h.row hi).le zo
theorem mM.redJ {M : List (List Qi)} {w c r : Nat} (h : mM M w) (hc : c < M.length) (hp : gm M c c ≠ Qi.zero) : mM (redJ M c r) (2 * w + 1) := fun x hx => by
 obtain ⟨i,hi,rfl⟩:=gK.1 hx
 show qG (if i ≠ c ∧ i < r then rG (hJ M i) (hJ M c) c (hJ M i).length else hJ M i) _
 split
 ·exact (h.row hi).red (h.row hc) hp
 ·exact (h.row hi).le zo
structure Xe (M:List (List Qi)) (b:List Qi) (n G X:Nat):Prop where
 st:∀ c,c ≤ n → bL (gF (rC M [b] n) c).1 G
 bk:Vs M b n = 0 → ∀ j,j ≤ n → eO (Wd (Ft M b n).1 n j) X
 g1:1 ≤ G
 x1:1 ≤ X
 g:6 * G + 4 ≤ 17592186044415
 x:n * (X + G + 2) + 4 * G + 2 ≤ 17592186044415
theorem Xe.old {M:List (List Qi)} {b:List Qi} {n L:Nat} (hM:gC M n n) (hf:bL M L) (hfb:eO b L) (hL:1 ≤ L) (hg:6 * grow L n + 4 ≤ 17592186044415) (hx:Ej (grow L n) (n + 1) ≤ 17592186044415):Xe M b n (grow L n) (Ej (grow L n) n):=by
 have hcs:gC (rC M [b] n) n (n + 1):=qN hM
 have hcf:bL (rC M [b] n) L:=qM hf (fun r hr=>by simp at hr; subst hr; exact hfb) hL
 have hG1:1 ≤ grow L n:=Nat.le_trans hL (sM L n)
 refine ⟨fun c hc=>(tO hcs hcf hL hc).le (nT L hc),fun hE j hj=>?_,hG1,Nat.le_trans hG1 (By _ _),hg,hx⟩
 have hst:¬ 0 ≤ (Ft M b n).2.2:=fun h=>by rw [Vs,if_pos h] at hE; omega
 have hf2:=Gz (Kw hM hf hfb hL) hG1 (vK hcs (Nat.le_refl n) (Pi hst)) j hj
 exact fun y hy=>(hf2 y hy).le (Ag _ hj)
structure Xd (M:List (List Qi)) (b:List Qi) (n G:Nat):Prop where
 st:∀ c A,c ≤ n → Fb (rC M [b] n) c = some A → bL A G
 g1:1 ≤ G
 g:6 * G + 4 ≤ 17592186044415
theorem Xd.old {M : List (List Qi)} {b : List Qi} {n L : Nat} (hM : gC M n n) (hf : bL M L) (hfb : eO b L) (hL : 1 ≤ L) (hg : 6 * grow L n + 4 ≤ 17592186044415) : Xd M b n (grow L n) :=
 ⟨fun _ _ hc hA=>(Ir (show gC (rC M [b] n) n (n + 1) from qN hM) (Nat.le_succ n) (qM hf (fun r hr=>by simp at hr; subst hr; exact hfb) hL) hL hc hA).le (nT L hc),Nat.le_trans hL (sM L n),hg⟩
end
section
open Go Go.RowKit
open Fl
theorem zR {f g lo hi : Qi} {o : Int} {L : Nat} (hf : aL f L) (hg : aL g L) : ∀ x, x ∈ bS f g lo hi o → Li (2 * L + 8) x := fun x hx => by
 unfold bS at hx
 split at hx
 ·rename_i he
  have hb : oD f g lo hi o = false := by
   cases h:oD f g lo hi o with
   | false=>rfl
   | true=>rw [qA h] at he; cases he
  obtain ⟨pf1,pg1,-,-,o1,o2⟩:=wJ hb
  exact Di hf hg (Fl.pos_re pf1) (Fl.pos_re pg1) zo x ((iR _).mem_iff.1 hx)
 ·cases hx
theorem Ke (f g lo hi:Qi) (o:Int):(bS f g lo hi o).length ≤ 961:=by
 unfold bS
 split
 ·rename_i he
  have hb : oD f g lo hi o = false := by
   cases h:oD f g lo hi o with
   | false=>rfl
   | true=>rw [qA h] at he; cases he
  obtain ⟨-,-,-,-,o1,o2⟩:=wJ hb
  rw [(iR _).length_eq]; exact Dh zo
 ·exact Nat.zero_le _
end
section
open Fl
abbrev Jz (x:Pd):Int × Int:=(x.m,x.n)
def Wf (x:Pd):Pd:=⟨x.n,x.m,x.f⟩
theorem xJ {R : Pd → Pd → Prop} {G : Int → List Pd} {a : Int} : ∀ {k : Nat}, (∀ j : Nat, j < k → (G (a + j)).Pairwise R) → (∀ i j : Nat, i < j → j < k → ∀ x y, x ∈ G (a + i) → y ∈ G (a + j) → R x y) → (lN G a k).Pairwise R
 | 0,_,_=>List.Pairwise.nil
 | k + 1, h, h2 => by
  rw [lN,List.pairwise_append]
  refine ⟨xJ (fun j hj=>h j zo) (fun i j hij hj=>h2 i j hij zo),h k zo,fun x hx y hy=>?_⟩
  obtain ⟨i,hi,hx⟩:=pG hx
  exact h2 i k hi zo x y hx hy
theorem xI {G : Int → List Pd} {a : Int} {x : Pd} : ∀ {k j : Nat}, j < k → x ∈ G (a + j) → x ∈ lN G a k
 | 0,j,h,_=>by omega
 | k + 1, j, h, hx => by
  rw [lN,List.mem_append]
  by_cases e:j = k
  ·subst e; exact .inr hx
  ·exact .inl (xI zo hx)
section
variable {f g lo hi:Qi} {o:Nat}
theorem Qm {m:Int} {x:Pd} (h:x ∈ qD f g lo hi o m):x.m = m:=by
 obtain ⟨j,_,h2⟩:=pG h
 obtain ⟨rfl,_⟩:=sO h2; rfl
theorem Be:((kM f g lo hi o).map Jz).Nodup:=by
 rw [List.Nodup,List.pairwise_map]
 refine xJ (fun j _=>?_) fun i j hij _ x y hx hy=>?_
 ·refine xJ (fun k _ => ?_) fun i k hik _ x y hx hy => ?_
  ·unfold Dl; split
   ·exact List.pairwise_singleton _ _
   ·exact List.Pairwise.nil
  ·obtain ⟨rfl, _⟩ := sO hx; obtain ⟨rfl, _⟩ := sO hy
   intro e; simp at e; omega
 ·have h1 := Qm hx; have h2 := Qm hy
  intro e; simp at e; omega
theorem Dg {x:Pd}:x ∈ kM f g lo hi o ↔ x.f = pf f g x.m x.n ∧ sC f g lo hi x.m x.n = true ∧ sz x.m + sz x.n ≤ o:=by
 refine ⟨mA,fun ⟨h1,h2,h3⟩=>?_⟩
 have hm:=Ae x.m; have hn:=Ae x.n
 obtain ⟨a1,a2⟩:=Ef (m:=x.m) (k:=o) zo
 obtain ⟨k,hk⟩:∃ k:Nat,sz x.m = k:=⟨(sz x.m).toNat,by omega⟩
 obtain ⟨b1,b2⟩:=Ef (m:=x.n) (k:=o - k) zo
 refine xI (j:=(x.m + o).toNat) zo ?_
 rw [show -(o:Int) + ((x.m + o).toNat:Nat) = x.m by omega]
 refine xI (j:=(x.n - (k:Int) + o).toNat) (by rw [hk]; omega) ?_
 rw [hk,show (k:Int) - o + ((x.n - (k:Int) + o).toNat:Nat) = x.n by omega]
 unfold Dl
 rw [if_pos h2]
 obtain ⟨xm,xn,xf⟩:=x
 simp only at h1
 simp [h1]
theorem Qk (f g:Qi) (m n:Int):pf g f n m = pf f g m n:=Qi.add_comm' _ _
theorem Vl {m n:Int}:sC g f lo hi n m = sC f g lo hi m n:=by
 unfold sC; rw [Qk,Bool.or_comm]
theorem Bf {x:Pd}:Wf x ∈ kM g f lo hi o ↔ x ∈ kM f g lo hi o:=by
 rw [Dg,Dg]
 show x.f = pf g f x.n x.m ∧ sC g f lo hi x.n x.m = true ∧ sz x.n + sz x.m ≤ o ↔ _
 rw [Qk,Vl,Int.add_comm (sz x.n)]
theorem Rk {q:Int}:oD g f lo hi q = oD f g lo hi q:=by
 unfold oD; rw [Bool.or_comm (!gL g)]
theorem uG {q:Int}:gU g f lo hi q = gU f g lo hi q:=by
 unfold gU; rw [Rk]
theorem Bd:(kM g f lo hi o).length = (kM f g lo hi o).length:=by
 have h : ((kM f g lo hi o).map Jz).Perm ((kM g f lo hi o).map fun x => (x.n, x.m)) := by
  rw [List.perm_ext_iff_of_nodup Be]
  ·intro p
   rw [List.mem_map,List.mem_map]
   constructor
   ·rintro ⟨x,hx,rfl⟩; exact ⟨Wf x,Bf.2 hx,rfl⟩
   ·rintro ⟨x,hx,rfl⟩; exact ⟨Wf x,Bf.2 hx,rfl⟩
  ·have h1 := @Be g f lo hi o
   rw [List.Nodup,List.pairwise_map] at h1 ⊢
   exact h1.imp fun {a b} h e=>h (by simp at e; simp [e])
 have:=h.length_eq
 simpa using this.symm
theorem zT {q:Int}:(bS g f lo hi q).length = (bS f g lo hi q).length:=by
 unfold bS
 rw [uG]
 split
 ·rw [(iR _).length_eq,(iR _).length_eq,Bd]
 ·rfl
theorem qT {q:Int} {x:Pd} (h:x ∈ bS f g lo hi q):gU f g lo hi q = 0 ∧ x ∈ kM f g lo hi q.toNat:=by
 unfold bS at h
 split at h
 ·rename_i he; exact ⟨he,(iR _).mem_iff.1 h⟩
 ·cases h
theorem Kc {q:Int} {x:Pd} (he:gU f g lo hi q = 0) (h:x ∈ kM f g lo hi q.toNat):x ∈ bS f g lo hi q:=by
 unfold bS; rw [if_pos he]; exact (iR _).mem_iff.2 h
theorem Kd {q:Int}:((bS f g lo hi q).map Jz).Nodup:=by
 unfold bS
 split
 ·exact (((iR _).map Jz).nodup_iff).2 Be
 ·exact List.nodup_nil
theorem Ka {q:Int} (he:gU f g lo hi q = 0):gL f = true ∧ gL g = true ∧ lo.b = 0 ∧ hi.b = 0 ∧ 1 ≤ q ∧ q ≤ 15:=by
 have hb : oD f g lo hi q = false := by
  cases h:oD f g lo hi q with
  | false=>rfl
  | true=>rw [qA h] at he; cases he
 exact wJ hb
theorem Nj {q:Int} {x:Pd} (h:x ∈ bS f g lo hi q):x.f = f * Qi.ofInt x.m + g * Qi.ofInt x.n ∧ ¬ lB x.f (Qi.ofInt 0) ≤ 0 ∧ ¬ 0 < lB x.f hi:=by
 obtain ⟨he,hx⟩:=qT h
 obtain ⟨h1,h2,_⟩:=mA hx
 simp only [sC,Bool.and_eq_true,decide_eq_true_eq] at h2
 obtain ⟨⟨⟨_,hp⟩,_⟩,h3⟩:=h2
 rw [← h1] at hp h3
 refine ⟨h1,fun h=>?_,by omega⟩
 have hz:lB x.f (Qi.ofInt 0) = lB x.f Qi.zero:=rfl
 rw [hz,qL x.f (Jy hp)] at h
 simp only [gL,decide_eq_true_eq] at hp
 have:=@tI 0 x.f.a
 unfold eP at h this
 split at h <;> omega
theorem Nk {q:Int} {x:Pd} (h:x ∈ bS g f lo hi q):(x.n,x.m) ∈ (bS f g lo hi q).map Jz ∧ (-x.n,-x.m) ∉ (bS f g lo hi q).map Jz:=by
 obtain ⟨he,hx⟩:=qT h
 have he2:gU f g lo hi q = 0:=by rw [← uG]; exact he
 obtain ⟨pg,pf',_⟩:=Ka he
 refine ⟨List.mem_map.2 ⟨Wf x,Kc he2 (Bf.2 hx),rfl⟩,fun hm=>?_⟩
 obtain ⟨y,hy,e⟩:=List.mem_map.1 hm
 obtain ⟨_,hy2⟩:=qT hy
 obtain ⟨y1,y2,_⟩:=mA hy2
 obtain ⟨x1,x2,_⟩:=mA hx
 simp only [sC,Bool.and_eq_true] at x2 y2
 have px:=posQ_pos x2.1.1.2
 have py:=posQ_pos y2.1.1.2
 have rf:=Fl.pos_re pf'; have rg:=Fl.pos_re pg
 rw [Dw rg rf] at px
 rw [Dw rf rg] at py
 simp only [Jz,Prod.mk.injEq] at e
 rw [e.1,e.2,Rat.intCast_neg,Rat.intCast_neg] at py
 grind
end
end
section
open Go Go.RowKit
abbrev Ai (p:Int × Int):Value:=.agg #[.int .i64 p.1,.int .i64 p.2]
def uY (v:Value) (ks:List (Int × Int)):SA where
 h S m V:=∃ r es clock,v = .map (some r) ∧ S = [r] ∧ m r = some (.map es clock) ∧ es.toList.map (fun e=>(e.key,e.val)) = ks.map (fun p=>(Ai p,Value.bool true))
 loc h k := by
  obtain ⟨r,es,cl,e,rfl,h1,h2⟩:=h
  exact ⟨r,es,cl,e,rfl,by rw [k r (by simp)]; exact h1,h2⟩
 mono h _:=h
theorem pO {v:Value} {ks ls:List (Int × Int)} (h:ks = ls):∀ S m V,(uY v ks).h S m V → (uY v ls).h S m V:=fun _ _ _ k=>h ▸ k
section
variable {P:Program} {w:World} {kt e mt vt:TypeId}
structure mJ (P:Program) (mt kt e vt:TypeId):Prop where
 m:∀ w,(underlying mt).run P w = .ok (.map kt vt) w
 k:∀ w,(underlying kt).run P w = .ok (.array 2 e) w
 ei:∀ w,(underlying e).run P w = .ok (.int .i64) w
 s:∀ w,(sizeOf e).run P w = .ok 1 w
 a:∀ w,(isAgg e).run P w = .ok false w
 b:∀ w,(underlying vt).run P w = .ok .bool w
 z:∀ w,(zeroValue vt).run P w = .ok (.bool false) w
theorem qV (h:mJ P mt kt e vt) (x y:Value):(part e #[x,y] 0).run P w = .ok x w:=by
 simp [part,Sem.run_bind,h.a,Result.andThen]
theorem qW (h:mJ P mt kt e vt) (x y:Value):(part e #[x,y] 1).run P w = .ok y w:=by
 simp [part,Sem.run_bind,h.a,Result.andThen]
theorem vU (h:mJ P mt kt e vt) (n:Nat) (a b:Int):(Op.equalIn (n + 1) e (.int .i64 a) (.int .i64 b)).run P w = .ok (a == b) w:=by
 simp [Op.equalIn,Sem.run_bind,h.ei,Result.andThen]
theorem Fm (h:mJ P mt kt e vt) (p q:Int × Int):(Op.equal kt (Ai p) (Ai q)).run P w = .ok (decide (p = q)) w:=by
 have hx:∀ (i:Nat),i < 2 → True:=fun _ _=>trivial
 show (Op.equalIn (9998 + 1 + 1) kt (Ai p) (Ai q)).run P w = _
 rw [Op.equalIn]
 simp only [Sem.run_bind,h.k,Result.andThen,Ai,h.s]
 simp [Std.Legacy.Range.forIn_eq_forIn_range',List.range',Sem.run_bind,qV h,qW h,vU h,Result.andThen]
 obtain ⟨a,b⟩:=p
 obtain ⟨c,d⟩:=q
 by_cases h1:a = c <;> by_cases h2:b = d <;> simp [h1,h2,Sem.run_bind,qV h,qW h,vU h,Result.andThen]
theorem xK (h:mJ P mt kt e vt) (em:Bool) (n:Nat) (a:Int):(Instr.checkKey em (n + 1) e (.int .i64 a)).run P w = .ok () w:=by
 simp [Instr.checkKey,Sem.run_bind,h.ei,Result.andThen]
theorem mG (h:mJ P mt kt e vt) (em:Bool) (p:Int × Int):(Instr.checkKey em 10000 kt (Ai p)).run P w = .ok () w:=by
 show (Instr.checkKey em (9998 + 1 + 1) kt (Ai p)).run P w = _
 rw [Instr.checkKey]
 simp only [Sem.run_bind,h.k,Result.andThen,Ai]
 simp [Std.Legacy.Range.forIn_eq_forIn_range',List.range',Sem.run_bind,qV h,qW h,xK h,h.s,Result.andThen]
theorem nJ (h : mJ P mt kt e vt) (p : Int × Int) : ∀ (es : List MapEntry) (ks : List (Int × Int)) (i : Nat), es.map (fun x => (x.key, x.val)) = ks.map (fun p => (Ai p, Value.bool true)) →
  ∃ r,(Instr.findAsking kt (Ai p) es i).run P w = .ok r w ∧ (p ∈ ks → ∃ j,r = some (j,.bool true)) ∧ (p ∉ ks → r = none)
 | [],[],i,_=>⟨none,by simp [Instr.findAsking],by simp,by simp⟩
 | x :: es, q :: ks, i, he => by
  simp only [List.map_cons,List.cons.injEq,Prod.mk.injEq] at he
  obtain ⟨⟨hk,hv⟩,ht⟩:=he
  obtain ⟨r,h1,h2,h3⟩:=nJ h p es ks (i + 1) ht
  rw [Instr.findAsking]
  simp only [Sem.run_bind,hk,Fm h,Result.andThen]
  by_cases hpq:p = q
  ·exact ⟨some (i,.bool true),by simp [hpq,hv],fun _=>⟨i,rfl⟩,fun k=>absurd (by simp [hpq]) k⟩
  ·refine ⟨r,by simp [hpq,h1],fun k=>h2 (by simpa [hpq] using k),fun k=>h3 (fun z=>k (by simp [z]))⟩
 | [],_ :: _,_,he=>by simp at he
 | _ :: _,[],_,he=>by simp at he
theorem rH (h : mJ P mt kt e vt) (p : Int × Int) (es : List MapEntry) (ks : List (Int × Int)) (he : es.map (fun x => (x.key, x.val)) = ks.map (fun p => (Ai p, Value.bool true))) :
  ∃ r,(Instr.findKey kt (Ai p) es).run P w = .ok r w ∧ (p ∈ ks → ∃ j,r = some (j,.bool true)) ∧ (p ∉ ks → r = none):=by
 obtain ⟨r,h1,h2⟩:=nJ (w:=w) h p es ks 0 he
 refine ⟨r,?_,h2⟩
 unfold Instr.findKey
 simp only [Sem.run_bind,h.k,Result.andThen]
 cases es with
 | nil =>
  simp only [Instr.findNow]
  cases ks with
  | nil =>
   have:=h2.2 (by simp)
   subst this; simp
  | cons=>simp at he
 | cons x es =>
  simp only [Instr.findNow,Instr.sameNow]
  exact h1
end
section
variable {P:Program} {R:dP} {cx:Cx} {n:Nat} {k:List It} {E:bC} {H:Hp} {ops:Array Oper} {rest:List Oper}
variable {pos:String} {af:Array Edge} {mt kt e vt t':TypeId} {g:Option (Nat × Bool)} {d:Option Tmp}
theorem Ep {dd : Nat} (hn : Nat.blt dd n = true) (h : ∀ v, Rg P R cx n ops rest k ((dd, Is v) :: E) (H ++ [uY v []])) :
  Rg P R cx n ops (⟨some dd,.makeMap mt none,t',pos,af,none⟩ :: rest) k E H:=by
 intro a w ⟨V,hinv,hs⟩
 unfold wpList
 rw [if_pos (by simp [Region.wanted])]
 left
 have hrun : (execOp a.eval ⟨some dd, .makeMap mt none, t', pos, af, none⟩).run P w = .ok (.value (.map (some w.heap.size))) (w.alloc (.map #[] 0)) := by
  simp [execOp,Instr.makeMap,Sem.run_bind,Result.andThen]
 simp only [Oper.wp,hrun,Oper.upon_value]
 exact h _ _ _ ⟨V,hinv.alloc (A:=uY (.map (some w.heap.size)) []) (fun m hm=>⟨_,_,_,rfl,rfl,hm,rfl⟩),hs.put (aK hn) rfl⟩
theorem zO {a b:Int} {v:Value} {V:aD} (h:(dO [aC .i64 a,aC .i64 b]).p v V):v = Ai (a,b):=by
 obtain ⟨cs,rfl,hc⟩:=h
 obtain ⟨x,e1,e2⟩:=hc.get (i:=0) rfl
 obtain ⟨y,e3,e4⟩:=hc.get (i:=1) rfl
 have hl:cs.length = 2:=hc.length
 cases e2; cases e4
 match cs,hl,e1,e3 with
 | [x,y],_,e1,e3=>simp at e1 e3; subst e1; subst e3; rfl
theorem Gj {x y : Operand} {i : Nat} {v : Value} {ks : List (Int × Int)} {a b : Int} (hK : mJ P mt kt e vt) (hx : aN E x (Is v)) (hy : aN E y (dO [aC .i64 a, aC .i64 b])) (hH : H[i]? = some (uY v ks)) (hnew : (a, b) ∉ ks)
  (h:Rg P R cx n ops rest k E (H.set i (uY v (ks ++ [(a,b)])))):Rg P R cx n ops (⟨none,.mapUpdate mt x y (.const (.bool true)),t',pos,af,none⟩ :: rest) k E H:=by
 intro ac w ⟨V,hinv,hs⟩
 unfold wpList
 rw [if_pos (by simp [Region.wanted])]
 left
 have ex:ac.eval x = v:=hx n V ac hs
 have ey:=zO (hy n V ac hs)
 obtain ⟨F,f1,f2⟩:=hinv.hp
 obtain ⟨⟨r,es,cl,rfl,hS,hm,hes⟩,hx3⟩:=f1 i _ hH
 have hm':w.heap[r]? = some (.map es cl):=hm
 obtain ⟨q,h1,_,h3⟩:=rH (w:=w) hK (a,b) es.toList ks hes
 obtain rfl:=h3 hnew
 have hrun : (execOp ac.eval ⟨none, .mapUpdate mt x y (.const (.bool true)), t', pos, af, none⟩).run P w = .ok .skip { w with heap := w.heap.setIfInBounds r (.map (es.push { key := Ai (a, b), val := .bool true, born := cl }) (cl + 1)) } := by
  simp [execOp,Instr.mapUpdate,ex,ey,Sem.run_bind,Result.andThen,hK.m,getObj,Sem.run,hm',mG hK,h1,setObj,show ac.eval (.const (.bool true)) = .bool true from rfl]
 simp only [Oper.wp,hrun,Oper.upon_skip]
 refine h _ _ ⟨V,hinv.upd' hH (by simp) rfl rfl ⟨rfl,Nat.le_refl _⟩ (fun S hS' _=>?_),hs⟩
 obtain ⟨r',es',cl',e1,rfl,hm2,hes2⟩:=hS'
 simp at e1; subst e1
 have hm3:w.heap[r]? = some (.map es' cl'):=hm2
 rw [hm'] at hm3; simp at hm3; obtain ⟨rfl,rfl⟩:=hm3
 refine ⟨[r],fun b hb=>.inl hb,fun b hb _=>?_,r,es.push { key:=Ai (a,b),val:=.bool true,born:=cl },cl + 1,rfl,rfl,?_,?_⟩
 ·have : ¬ r = b := fun e => hb (by simp [e])
  simp [Array.getElem?_setIfInBounds_ne this]
 ·have hlt : r < w.heap.size := (Array.getElem?_eq_some_iff.1 hm').1
  simp [hv,hlt]
 ·simp [hes]
theorem uE {x y : Operand} {i : Nat} {v : Value} {ks : List (Int × Int)} {a b : Int} (hK : mJ P mt kt e vt) (hx : aN E x (Is v)) (hy : aN E y (dO [aC .i64 a, aC .i64 b])) (hH : H[i]? = some (uY v ks)) :
  aF P n E H ⟨d,.lookup mt x y false,t',pos,af,g⟩ (aB (decide ((a,b) ∈ ks))):=fun cx X ac w V hinv hs K Q hKK=>by
 have ex:ac.eval x = v:=hx n V ac hs
 have ey:=zO (hy n V ac hs)
 obtain ⟨F,f1,f2⟩:=hinv.hp
 obtain ⟨⟨r,es,cl,rfl,hS,hm,hes⟩,hx3⟩:=f1 i _ (sL hH)
 have hm':w.heap[r]? = some (.map es cl):=hm
 obtain ⟨q,h1,h2,h3⟩:=rH (w:=w) hK (a,b) es.toList ks hes
 have hrun : (execOp ac.eval ⟨d, .lookup mt x y false, t', pos, af, g⟩).run P w = .ok (.value (.bool (decide ((a, b) ∈ ks)))) w := by
  by_cases hin:(a,b) ∈ ks
  ·obtain ⟨j, rfl⟩ := h2 hin
   simp [execOp,Instr.lookup,ex,ey,Sem.run_bind,Result.andThen,hK.m,getObj,Sem.run,hm',mG hK,h1,hin]
  ·obtain rfl := h3 hin
   simp [execOp,Instr.lookup,ex,ey,Sem.run_bind,Result.andThen,hK.m,getObj,Sem.run,hm',mG hK,h1,hin,hK.z]
 simp only [Oper.wp,hrun,Oper.upon_value]
 exact hKK _ w V hinv (iT.refl V) rfl
theorem Fh {x : Operand} {i : Nat} {v : Value} {ks : List (Int × Int)} (hK : mJ P mt kt e vt) (hx : aN E x (Is v)) (hH : H[i]? = some (uY v ks)) :
  aF P n E H ⟨d,.call ⟨.builtin .len,#[x],#[mt]⟩,t',pos,af,g⟩ (NT .i64 ks.length):=fun cx X ac w V hinv hs K Q hKK=>by
 have ex:ac.eval x = v:=hx n V ac hs
 obtain ⟨F,f1,f2⟩:=hinv.hp
 obtain ⟨⟨r,es,cl,rfl,hS,hm,hes⟩,hx3⟩:=f1 i _ (sL hH)
 have hm':w.heap[r]? = some (.map es cl):=hm
 have hlen : es.size = ks.length := by
  have:=congrArg List.length hes
  simpa using this
 have hrun : (execOp ac.eval ⟨d, .call ⟨.builtin .len, #[x], #[mt]⟩, t', pos, af, g⟩).run P w = .ok (.value (.int .i64 ks.length)) w := by
  simp [execOp,resolve,ex,invoke,builtin,Builtin.len_,Sem.run_bind,hK.m,Result.andThen,goInt,getObj,Sem.run,hm',hlen]
 simp only [Oper.wp,hrun,Oper.upon_value]
 exact hKK _ w V hinv (iT.refl V) rfl
end
end
section
open Go Go.RowKit
theorem mO {n : Nat} {E : bC} {H : Hp} {d : Option Tmp} {t : TypeId} {pos : String} {af : Array Edge} {g : Option (Nat × Bool)} {x0 x1 : Operand} {T0 T1 : Ty} [s0 : bN T0 1 false] (h0 : aN E x0 T0) [s1 : bN T1 1 false] (h1 : aN E x1 T1) :
  aF Tryz.prog n E H ⟨d,.build 163 #[(0,x0),(1,x1)],t,pos,af,g⟩ (dO [T0,T1]) :=
 fE (parts := [(0, x0), (1, x1)]) fun a V w hs => by
  have p0:=h0 n V a hs
  generalize e0:a.eval x0 = v0 at p0
  have q0:=(s0.ok v0 V p0).2.2 rfl
  have p1:=h1 n V a hs
  generalize e1:a.eval x1 = v1 at p1
  have q1:=(s1.ok v1 V p1).2.2 rfl
  refine ⟨.agg #[v0,v1],?_,[v0,v1],rfl,aW (⟨p0,q0⟩) (aW (⟨p1,q1⟩) (aG))⟩
  simp [e0,e1,Instr.build,Instr.fill,Sem.run_bind,Result.andThen,dM,q0.cells,q1.cells,Tryz.zeroValue163,Tryz.runUnderlying163,Z_3]
end
section
open Go Go.RowKit
theorem wZ:mJ Tryz.prog 162 163 3 4:=⟨Tryz.runUnderlying162,Tryz.runUnderlying163,U_3,Z_3,A_3,U_4,Tryz.zeroValue4⟩
theorem tD {a b hi:Rt} {g:Nat} (hg:g < 256):bE Tryz.prog 11 [Er a,Er b,Er hi,NT .u8 g] (aB true):=by
 have f1:aL a.q 2:=inferInstance
 have f2:aL b.q 2:=inferInstance
 have f3:aL hi.q 2:=inferInstance
 have f0:aL (Qi.ofInt 0) 2:=tT (by decide) (by decide)
 have hE:(gU b.q a.q (Qi.ofInt 0) hi.q ((1 + g % 9):Nat)) = (gU a.q b.q (Qi.ofInt 0) hi.q ((1 + g % 9):Nat)):=uG
 have hL:(bS b.q a.q (Qi.ofInt 0) hi.q ((1 + g % 9):Nat)).length = (bS a.q b.q (Qi.ofInt 0) hi.q ((1 + g % 9):Nat)).length:=zT
 have gP:=zR (lo:=Qi.ofInt 0) (hi:=hi.q) (o:=((1 + g % 9):Nat)) f1 f2
 have gM:=zR (lo:=Qi.ofInt 0) (hi:=hi.q) (o:=((1 + g % 9):Nat)) f2 f1
 have gl:=Ke a.q b.q (Qi.ofInt 0) hi.q ((1 + g % 9):Nat)
 have nd:=Kd (f:=a.q) (g:=b.q) (lo:=Qi.ofInt 0) (hi:=hi.q) (q:=((1 + g % 9):Nat))
 refine bE.intro Tryz.func11 rfl Tryz.ntmps11 rfl (fun cx=>(ts (rn rfl (fG (Ht rfl)) fun B4=>(rn rfl (fG (Ht rfl)) fun B5=>(rn rfl (fG (Ht rfl)) fun B6=>(ro rfl (cQ cV) (eX (cK (fZ (m:=9) (dp 4 rfl (eJ A_23 Z_23 (Ht rfl) (i:=0) rfl rfl rfl) (dq 22 0 rfl (cZ Tryz.call14 (sG (r:=a)) ⟨(Ht rfl),trivial⟩) ?_)))))))))))
 refine dp 5 rfl (eJ A_23 Z_23 (Ht rfl) (i:=1) rfl rfl rfl) (dq 24 2 rfl (cZ Tryz.call14 (sG (r:=b)) ⟨(Ht rfl),trivial⟩) ?_)
 refine dp 6 rfl (eJ A_23 Z_23 (Ht rfl) (i:=2) rfl rfl rfl) (dq 26 4 rfl (cZ Tryz.call14 (sG (r:=hi)) ⟨(Ht rfl),trivial⟩) ?_)
 refine C.D_new (Ei:=[]) rfl rfl rfl bW (eW (Ts:=[Is (.bool false),Is (.slice none 0 0),Is (.bool false),Is (.slice none 0 0),Is (.slice none 0 0)]) O_32 rfl (fun V=>aW zd (aW zd (aW zd (aW zd (aW zd (aG))))))) (C.D_new (Ei:=[]) rfl rfl rfl bW (eW (Ts:=[Is (.bool false),Is (.slice none 0 0),Is (.bool false),Is (.slice none 0 0),Is (.slice none 0 0)]) O_32 rfl (fun V=>aW zd (aW zd (aW zd (aW zd (aW zd (aG))))))) ?_)
 refine C.D_new (Ei:=[]) rfl rfl rfl bW (eW (Ts:=[Is (.bool false),Is (.slice none 0 0),Is (.bool false),Is (.slice none 0 0),Is (.slice none 0 0)]) O_32 rfl (fun V=>aW zd (aW zd (aW zd (aW zd (aW zd (aG))))))) (fV mixed rfl (by kernel_rfl) (zF (aJ (aJ (C.F_new (fun B9=>C.F_new (fun B10=>C.F_new (fun B11=>aV (gQ Z_32 (Ht rfl) (Ht rfl) rfl (i:=3) rfl (aK rfl) rfl rfl ?_)))))))))
 refine gQ Z_32 (Ht rfl) (Ht rfl) rfl (i:=4) rfl (aK rfl) rfl rfl (gQ Z_32 (Ht rfl) (Ht rfl) rfl (i:=5) rfl (aK rfl) rfl rfl (eX (cK (dE [0,1,2,3,4,5] rfl (by decide) (cY (rm rfl (ro rfl (gZ U_5 U_3 (Ht rfl) z6) (ro rfl (nY (Ht rfl) (cJ 9) zo) (ro rfl (dV (cJ 1) (Ht rfl) z6) (ra rfl (eX ?_)))))))))))
 refine cK (dE [0,1,2,3,4,5] rfl (by decide) (fZ (m:=10) (dp 9 rfl (eJ A_32 Z_32 (Ht rfl) (i:=3) rfl rfl rfl) (dp 10 rfl (eJ A_32 Z_32 (Ht rfl) (i:=4) rfl rfl rfl) (d0 rfl (cZ K_36 (kB (n:=0) (by decide) (by decide)) ⟨(cJ 0),trivial⟩) (dp 11 rfl (eJ A_32 Z_32 (Ht rfl) (i:=5) rfl rfl rfl) (dp 12 rfl (cX (Ht rfl)) (C.D_step (Ei:=[(33,_),(34,_),(35,_),(36,_),(37,_)]) rfl rfl (bV (bG 0 rfl rfl) (bV (bG 1 rfl rfl) (bV (bG 2 rfl rfl) (bV (bG 3 rfl rfl) (bV (bG 4 rfl rfl) bW))))) (dX rfl (cZ Tryz.call74 (tE (f:=a.q) (g:=b.q) (lo:=Qi.ofInt 0) (hi:=hi.q) (o:=((1 + g % 9):Nat)) (L:=2) f1 f2 f0 f3 (by decide)) ⟨(Ht rfl),(Ht rfl),(Ht rfl),(Ht rfl),(Ht rfl),trivial⟩)) ?_))))))))
 refine dq 38 5 rfl (cX (Ht rfl)) (dq 32 6 rfl (dK (Ht rfl) rfl) (dq 32 6 rfl (dK (Ht rfl) rfl) (dq 39 7 rfl (cQ (Ht rfl)) (fV mixed rfl (by kernel_rfl) (zF (zF (aJ (aJ (aV (ra rfl (eX (cK (dE [0,1,2,3,4,5] rfl (by decide) (fZ (m:=10) (dp 10 rfl (eJ A_32 Z_32 (Ht rfl) (i:=4) rfl rfl rfl) (dp 9 rfl (eJ A_32 Z_32 (Ht rfl) (i:=3) rfl rfl rfl) (d0 rfl (cZ K_36 (kB (n:=0) (by decide) (by decide)) ⟨(cJ 0),trivial⟩) ?_)))))))))))))))))
 refine dp 11 rfl (eJ A_32 Z_32 (Ht rfl) (i:=5) rfl rfl rfl) (dp 12 rfl (cX (Ht rfl)) (C.D_step (Ei:=[(42,_),(43,_),(44,_),(45,_),(46,_)]) rfl rfl (bV (bG 0 rfl rfl) (bV (bG 1 rfl rfl) (bV (bG 2 rfl rfl) (bV (bG 3 rfl rfl) (bV (bG 4 rfl rfl) bW))))) (dX rfl (cZ Tryz.call74 (tE (f:=b.q) (g:=a.q) (lo:=Qi.ofInt 0) (hi:=hi.q) (o:=((1 + g % 9):Nat)) (L:=2) f2 f1 f0 f3 (by decide)) ⟨(Ht rfl),(Ht rfl),(Ht rfl),(Ht rfl),(Ht rfl),trivial⟩)) (dq 47 5 rfl (cX (Ht rfl)) ?_)))
 refine dq 41 6 rfl (dK (Ht rfl) rfl) (dq 41 6 rfl (dK (Ht rfl) rfl) (dq 48 7 rfl (cQ (Ht rfl)) (fV mixed rfl (by kernel_rfl) (zF (zF (aJ (aJ (aV (ra rfl (eX (cK (cK (dE [0,1,2,3,4,5] rfl (by decide) (cY (rm rfl (rm rfl (ro rfl (lF (Ht rfl) (Ht rfl)) (rm rfl (fQ rfl rfl (eK rfl rfl (Ht rfl) (fun h=>cX (Ht rfl))) (fQ rfl rfl (eK rfl rfl (Ht rfl) (fun h=>dG U_151 (fJ rfl h) aA)) (fQ rfl rfl (eK rfl rfl (Ht rfl) (fun h=>cX (Ht rfl))) ?_)))))))))))))))))))))
 refine fQ rfl rfl (eK rfl rfl (Ht rfl) (fun h=>dG U_151 (fJ rfl h) aA)) (fQ rfl rfl (eK rfl rfl (Ht rfl) (fun h=>jO (fJ rfl h) (fJ rfl h))) (ro rfl (gH (Ht rfl) (fun h=>(fJ rfl h))) (eX (lV (Ht rfl) (by rw [hE,hL]; simp) ?_))))
 refine cU (cK (ts (rm rfl (ro rfl (lF (Ht rfl) cV) (eX (dQ (Ht rfl) (fun he=>?_) (fun he=>?_)))))))
 ·refine ts (ro rfl (cZ Tryz.call22 Cr trivial) (ra rfl (eX ?_)))
  exact fW rfl (eU rfl)
 ·have he2 : (gU a.q b.q (Qi.ofInt 0) hi.q ((1 + g % 9) : Nat)) = 0 := by simpa using he
  refine cU (ts (Ep rfl (fun M63=>(ra rfl (eX (cK (cK (dE [3,4,5,6] rfl (by decide) (cY (rm rfl (ro rfl (dG U_151 (Ht rfl) aA) (ro rfl (cX (cJ 0)) (eX (eG ?_))))))))))))))
  refine eR (fun (k : Nat) => k ≤ (bS a.q b.q (Qi.ofInt 0) hi.q ((1 + g % 9) : Nat)).length) (fun (k : Nat) => (bS a.q b.q (Qi.ofInt 0) hi.q ((1 + g % 9) : Nat)).length - k) (fun (k : Nat) => [(9, dB B9 0), (10, dB B10 0), (11, dB B11 0), (13, Al (bS a.q b.q (Qi.ofInt 0) hi.q ((1 + g % 9) : Nat))), (15, Al (bS b.q a.q (Qi.ofInt 0) hi.q ((1 + g % 9) : Nat))), (17, Is M63), (64, Al (bS a.q b.q (Qi.ofInt 0) hi.q ((1 + g % 9) : Nat))), (65, NT .i64 (bS a.q b.q (Qi.ofInt 0) hi.q ((1 + g % 9) : Nat)).length), (66, NT .i64 k)]) (fun (k : Nat) => [box B9 32 [aB (decide (a.q.a < 0)), aH a.q.a.natAbs, aB (decide (a.q.b < 0)), aH a.q.b.natAbs, aH (du a.q)], box B10 32 [aB (decide (b.q.a < 0)), aH b.q.a.natAbs, aB (decide (b.q.b < 0)), aH b.q.b.natAbs, aH (du b.q)], box B11 32 [aB (decide (hi.q.a < 0)), aH hi.q.a.natAbs, aB (decide (hi.q.b < 0)), aH hi.q.b.natAbs, aH (du hi.q)], uY M63 (((bS a.q b.q (Qi.ofInt 0) hi.q ((1 + g % 9) : Nat)).take k).map Jz)]) 0 (Nat.zero_le _)
   (zS rfl) (aU (aI rfl) (aU (aI rfl) (aU (aI rfl) (aU (pO rfl) aY)))) (fun k hk=>?_)
  refine ts (ro rfl (gX (Ht rfl) (Ht rfl)) (eX (cK (dQ (Ht rfl) (fun hc=>?_) (fun hc=>?_)))))
  ·simp only [decide_eq_true_eq] at hc
   obtain ⟨X,hX⟩:∃ X,(bS a.q b.q (Qi.ofInt 0) hi.q ((1 + g % 9):Nat))[k]? = some X:=⟨_,List.getElem?_eq_getElem hc⟩
   have hXm:X ∈ (bS a.q b.q (Qi.ofInt 0) hi.q ((1 + g % 9):Nat)):=List.mem_of_getElem? hX
   have hok:=gP X hXm
   have xm1:=hok.m1; have xm2:=hok.m2; have xn1:=hok.n1; have xn2:=hok.n2
   haveI hf1:=hok.fit; haveI i1:=tT hok.m1 hok.m2; haveI i2:=tT hok.n1 hok.n2; haveI:=f0; haveI:=f1; haveI:=f2; haveI:=f3
   obtain ⟨t1,t2,t3⟩:=Nj hXm
   have hnew : (X.m, X.n) ∉ ((bS a.q b.q (Qi.ofInt 0) hi.q ((1 + g % 9) : Nat)).take k).map Jz := fun hin => by
    obtain ⟨Y,hY,e⟩:=List.mem_map.1 hin
    obtain ⟨i,hi2⟩:=List.mem_iff_getElem?.1 hY
    rw [List.getElem?_take] at hi2
    by_cases hik:i < k
    ·rw [if_pos hik] at hi2
     have h1:=(List.pairwise_map.1 nd)
     obtain ⟨q1,q2⟩:=List.getElem?_eq_some_iff.1 hi2
     obtain ⟨q3,q4⟩:=List.getElem?_eq_some_iff.1 hX
     have:=List.pairwise_iff_getElem.1 h1 i k q1 q3 hik
     rw [q2,q4] at this; exact this e
    ·rw [if_neg hik] at hi2; cases hi2
   refine cU (cK (eG (ts (ro rfl (dZ U_151 Z_158 (Ht rfl) (Ht rfl) rfl (dY hX)) (ro rfl (dJ Tryz.isAgg158 Z_158 (Ht rfl)) (rn rfl (eW (Ts:=[Is (.int .i64 0),Is (.int .i64 0),Is (.bool false),Is (.slice none 0 0),Is (.bool false),Is (.slice none 0 0),Is (.slice none 0 0)]) O_158 rfl (fun V=>aW zd (aW zd (aW zd (aW zd (aW zd (aW zd (aW zd (aG))))))))) fun B19=>?_))))))
   refine gQ Z_158 (Ht rfl) (Ht rfl) rfl (i:=4) rfl (aK rfl) rfl rfl (eX (ts (rm rfl (ro rfl (eZ jE (Ht rfl) rfl) (ro rfl (eY A_3 Z_3 (Ht rfl) (i:=4) rfl rfl) (ro rfl (eZ lH (Ht rfl) rfl) (ro rfl (eY A_3 Z_3 (Ht rfl) (i:=4) rfl rfl) (ro rfl (mO (Ht rfl) (Ht rfl)) (Gj wZ (Ht rfl) (Ht rfl) (i:=3) rfl hnew (eX (cK (dE [0,1,2,3,4] rfl (by decide) (fZ (m:=26) (dp 19 rfl (eZ mV (Ht rfl) rfl) (dq 76 0 rfl (eJ A_32 Z_32 (Ht rfl) (i:=4) rfl rfl rfl) ?_)))))))))))))))
   refine dp 9 rfl (eJ A_32 Z_32 (Ht rfl) (i:=0) rfl rfl rfl) (dp 19 rfl (eZ jE (Ht rfl) rfl) (dq 79 3 rfl (eY A_3 Z_3 (Ht rfl) (i:=4) rfl rfl) (dq 80 4 rfl (cZ K_36 (kB (n:=X.m) zo zo) ⟨(Ht rfl),trivial⟩) (fA 78 2 81 5 rfl (cZ K_29 (kC (x:=a.q) (y:=Qi.ofInt X.m) (L:=2) (M:=2) (by decide)) ⟨(Ht rfl),(Ht rfl),trivial⟩) (dp 10 rfl (eJ A_32 Z_32 (Ht rfl) (i:=1) rfl rfl rfl) (dp 19 rfl (eZ lH (Ht rfl) rfl) (dq 84 8 rfl (eY A_3 Z_3 (Ht rfl) (i:=4) rfl rfl) ?_)))))))
   refine dq 85 9 rfl (cZ K_36 (kB (n:=X.n) zo zo) ⟨(Ht rfl),trivial⟩) (fA 83 7 86 10 rfl (cZ K_29 (kC (x:=b.q) (y:=Qi.ofInt X.n) (L:=2) (M:=2) (by decide)) ⟨(Ht rfl),(Ht rfl),trivial⟩) (fA 82 6 87 11 rfl (cZ Tryz.call33 (yE (x:=a.q * Qi.ofInt X.m) (y:=b.q * Qi.ofInt X.n) (L:=5) (M:=5) (by decide)) ⟨(Ht rfl),(Ht rfl),trivial⟩) (fA 77 1 88 12 rfl (cZ Tryz.call45 (Rq (x:=X.f) (y:=a.q * Qi.ofInt X.m + b.q * Qi.ofInt X.n) (L:=12) (M:=11) (by decide) (by decide)) ⟨(Ht rfl),(Ht rfl),trivial⟩) (dq 89 13 rfl (fR (Ht rfl)) ?_))))
   refine dq 90 14 rfl (cX (Ht rfl)) (C.D_step (Ei:=[(19,_),(91,_)]) rfl rfl (bV (bK rfl rfl) (bV (bG 15 rfl rfl) bW)) (eK rfl rfl (Ht rfl) (fun h=>eZ mV (Ht rfl) rfl)) (C.D_step (Ei:=[(92,_),(91,_)]) rfl rfl (bV (bG 16 rfl rfl) (bV (bG 15 rfl rfl) bW)) (eK rfl rfl (Ht rfl) (fun h=>eJ A_32 Z_32 (fJ rfl h) (i:=4) rfl rfl rfl)) (C.D_step (Ei:=[(91,_)]) rfl rfl (bV (bG 15 rfl rfl) bW) (eK rfl rfl (Ht rfl) (fun h=>cZ K_36 (kB (n:=0) (by decide) (by decide)) ⟨(cJ 0),trivial⟩)) ?_)))
   refine C.D_step (Ei:=[(93,_),(94,_),(91,_)]) rfl rfl (bV (bG 17 rfl rfl) (bV (bG 18 rfl rfl) (bV (bG 15 rfl rfl) bW))) (eK rfl rfl (Ht rfl) (fun h=>cZ K_30 (oF (x:=X.f) (y:=Qi.ofInt 0) (L:=12) (M:=2) (by decide)) ⟨(fJ rfl h),(fJ rfl h),trivial⟩)) (C.D_step (Ei:=[(95,_),(91,_)]) rfl rfl (bV (bG 19 rfl rfl) (bV (bG 15 rfl rfl) bW)) (eK rfl rfl (Ht rfl) (fun h=>oT (fJ rfl h) cV)) (fA 91 15 96 20 rfl (gH (Ht rfl) (fun h=>(fJ rfl h))) ?_))
   refine dq 97 21 rfl (cX (Ht rfl)) (C.D_step (Ei:=[(19,_),(98,_)]) rfl rfl (bV (bK rfl rfl) (bV (bG 22 rfl rfl) bW)) (eK rfl rfl (Ht rfl) (fun h=>eZ mV (Ht rfl) rfl)) (C.D_step (Ei:=[(99,_),(98,_)]) rfl rfl (bV (bG 23 rfl rfl) (bV (bG 22 rfl rfl) bW)) (eK rfl rfl (Ht rfl) (fun h=>eJ A_32 Z_32 (fJ rfl h) (i:=4) rfl rfl rfl)) (C.D_step (Ei:=[(11,_),(98,_)]) rfl rfl (bV (bK rfl rfl) (bV (bG 22 rfl rfl) bW)) (eK rfl rfl (Ht rfl) (fun h=>eJ A_32 Z_32 (Ht rfl) (i:=2) rfl rfl rfl)) ?_)))
   refine fV mixed rfl (by kernel_rfl) (zF (zF (zF (zF (zF (zF (aJ (aJ (aV (fQ rfl rfl (eK rfl rfl (Ht rfl) (fun h=>cZ K_30 (oF (x:=X.f) (y:=hi.q) (L:=12) (M:=2) (by decide)) ⟨(fJ rfl h),(fJ rfl h),trivial⟩)) (fQ rfl rfl (eK rfl rfl (Ht rfl) (fun h=>mD (fJ rfl h) cV)) (ro rfl (gH (Ht rfl) (fun h=>(fJ rfl h))) ?_))))))))))))
   refine eX (lV (Ht rfl) (by rw [decide_eq_true t1,decide_eq_false t2,decide_eq_false t3]; rfl) ?_)
   refine cU (cA (cY (ro rfl (dV (Ht rfl) (cJ 1) z6) (rm rfl (eX (dE [0,1,2,3] rfl (by decide) (fU (k + 1) hc zo (zS rfl) (aU (aI rfl) (aU (aI rfl) (aU (aI rfl) (aU (pO (by rw [List.take_add_one,hX,List.map_append]; rfl)) aY)))))))))))
  ·simp only [decide_eq_false_iff_not] at hc
   have hk2:k = (bS a.q b.q (Qi.ofInt 0) hi.q ((1 + g % 9):Nat)).length:=by omega
   subst hk2
   refine oK 3 rfl (pO (show _ = (bS a.q b.q (Qi.ofInt 0) hi.q ((1 + g % 9):Nat)).map Jz by rw [List.take_length])) (gV rfl (cK (ts (rm rfl (ro rfl (dG U_151 (Ht rfl) aA) (ro rfl (cX (cJ 0)) (eX (eG ?_))))))))
   refine eR (fun (j : Nat) => j ≤ (bS b.q a.q (Qi.ofInt 0) hi.q ((1 + g % 9) : Nat)).length) (fun (j : Nat) => (bS b.q a.q (Qi.ofInt 0) hi.q ((1 + g % 9) : Nat)).length - j) (fun (j : Nat) => [(9, dB B9 0), (10, dB B10 0), (11, dB B11 0), (13, Al (bS a.q b.q (Qi.ofInt 0) hi.q ((1 + g % 9) : Nat))), (15, Al (bS b.q a.q (Qi.ofInt 0) hi.q ((1 + g % 9) : Nat))), (17, Is M63), (106, Al (bS b.q a.q (Qi.ofInt 0) hi.q ((1 + g % 9) : Nat))), (107, NT .i64 (bS b.q a.q (Qi.ofInt 0) hi.q ((1 + g % 9) : Nat)).length), (108, NT .i64 j)]) (fun (j : Nat) => [box B9 32 [aB (decide (a.q.a < 0)), aH a.q.a.natAbs, aB (decide (a.q.b < 0)), aH a.q.b.natAbs, aH (du a.q)], box B10 32 [aB (decide (b.q.a < 0)), aH b.q.a.natAbs, aB (decide (b.q.b < 0)), aH b.q.b.natAbs, aH (du b.q)], box B11 32 [aB (decide (hi.q.a < 0)), aH hi.q.a.natAbs, aB (decide (hi.q.b < 0)), aH hi.q.b.natAbs, aH (du hi.q)], uY M63 ((bS a.q b.q (Qi.ofInt 0) hi.q ((1 + g % 9) : Nat)).map Jz)]) 0 (Nat.zero_le _)
    (zS rfl) (aU (aI rfl) (aU (aI rfl) (aU (aI rfl) (aU (pO rfl) aY)))) (fun j hj=>?_)
   refine ts (ro rfl (gX (Ht rfl) (Ht rfl)) (eX (cK (dQ (Ht rfl) (fun hd=>?_) (fun hd=>?_)))))
   ·simp only [decide_eq_true_eq] at hd
    obtain ⟨X,hX⟩:∃ X,(bS b.q a.q (Qi.ofInt 0) hi.q ((1 + g % 9):Nat))[j]? = some X:=⟨_,List.getElem?_eq_getElem hd⟩
    have hXm:X ∈ (bS b.q a.q (Qi.ofInt 0) hi.q ((1 + g % 9):Nat)):=List.mem_of_getElem? hX
    have hok:=gM X hXm
    have xm1:=hok.m1; have xm2:=hok.m2; have xn1:=hok.n1; have xn2:=hok.n2
    obtain ⟨t1,t2⟩:=Nk hXm
    refine cU (cK (eG (ts (ro rfl (dZ U_151 Z_158 (Ht rfl) (Ht rfl) rfl (dY hX)) (ro rfl (dJ Tryz.isAgg158 Z_158 (Ht rfl)) (rn rfl (eW (Ts:=[Is (.int .i64 0),Is (.int .i64 0),Is (.bool false),Is (.slice none 0 0),Is (.bool false),Is (.slice none 0 0),Is (.slice none 0 0)]) O_158 rfl (fun V=>aW zd (aW zd (aW zd (aW zd (aW zd (aW zd (aW zd (aG))))))))) fun B21=>?_))))))
    refine gQ Z_158 (Ht rfl) (Ht rfl) rfl (i:=4) rfl (aK rfl) rfl rfl (eX (ts (rm rfl (ro rfl (eZ lH (Ht rfl) rfl) (ro rfl (eY A_3 Z_3 (Ht rfl) (i:=4) rfl rfl) (ro rfl (eZ jE (Ht rfl) rfl) (ro rfl (eY A_3 Z_3 (Ht rfl) (i:=4) rfl rfl) (ro rfl (mO (Ht rfl) (Ht rfl)) (ro rfl (uE wZ (Ht rfl) (Ht rfl) (i:=3) rfl) (ro rfl (fR (Ht rfl)) (rm rfl (fQ rfl rfl (eK rfl rfl (Ht rfl) (fun h=>cX (Ht rfl))) (fQ rfl rfl (eK rfl rfl (Ht rfl) (fun h=>eZ lH (Ht rfl) rfl)) ?_)))))))))))))
    refine fQ rfl rfl (eK rfl rfl (Ht rfl) (fun h=>eY A_3 Z_3 (fJ rfl h) (i:=4) rfl rfl)) (fQ rfl rfl (eK rfl rfl (Ht rfl) (fun h=>uF (fJ rfl h) (sX zo))) (fQ rfl rfl (eK rfl rfl (Ht rfl) (fun h=>eZ jE (Ht rfl) rfl)) (fQ rfl rfl (eK rfl rfl (Ht rfl) (fun h=>eY A_3 Z_3 (fJ rfl h) (i:=4) rfl rfl)) (fQ rfl rfl (eK rfl rfl (Ht rfl) (fun h=>uF (fJ rfl h) (sX zo))) (fQ rfl rfl (eK rfl rfl (Ht rfl) (fun h=>mO (fJ rfl h) (fJ rfl h))) ?_)))))
    refine fQ rfl rfl (eK rfl rfl (Ht rfl) (fun h=>uE wZ (fJ rfl h) (fJ rfl h) (i:=3) rfl)) (ro rfl (gH (Ht rfl) (fun h=>(fJ rfl h))) (eX (lV (Ht rfl) (by rw [decide_eq_true t1,decide_eq_false t2]; rfl) ?_)))
    refine cU (cA (cY (ro rfl (dV (Ht rfl) (cJ 1) z6) (rm rfl (eX (dE [0,1,2,3] rfl (by decide) (fU (j + 1) hd zo (zS rfl) (aU (aI rfl) (aU (aI rfl) (aU (aI rfl) (aU (pO rfl) aY)))))))))))
   ·refine gV rfl (ts (rm rfl (ro rfl (Fh wZ (Ht rfl) (i := 3) rfl) (rm rfl (ro rfl (dG U_151 (Ht rfl) aA) (ro rfl (fN (Ht rfl) (Ht rfl)) (rm rfl (fQ rfl rfl (eK rfl rfl (Ht rfl) (fun h => cZ Tryz.call22 Cr trivial)) (ro rfl (eS (Ht rfl) (fun h => (fJ rfl h))) (ra rfl (eX (fW rfl (fX (eU rfl) ?_)))))))))))))
    exact (hZ (by simp))
end
end Go.Proofs.YthcmlodgnfekeaaGreat
