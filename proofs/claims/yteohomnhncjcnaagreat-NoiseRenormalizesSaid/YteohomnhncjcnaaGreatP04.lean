/- What functions of the program compute, proved by walks over their code, and the plain mathematics of it; a part of the proof in the last text. -/
import Derived.Test.YteohomnhncjcnaaGreatP03
set_option linter.unusedVariables false
set_option linter.unusedSimpArgs false
set_option maxRecDepth 100000
set_option maxHeartbeats 4000000
namespace Go.Proofs.YteohomnhncjcnaaGreat
section
open Go Go.RowKit
theorem mQ {b:Bool} {m:Nat}:bB Tryz.prog 266 [aC b,aE m] (eD (yN b m)):=by
 refine bB.intro Tryz.func266 rfl Tryz.ntmps266 rfl (fun cx=>(ts (rn rfl (eW (Ts:=[Is (.bool false),Is (.slice none 0 0)]) O_129 rfl (fun V=>aW zd (aW zd (aG)))) fun B4=>(eX (ts (rm rfl (rm rfl (fQ rfl rfl (eK rfl rfl (Ht rfl) (fun h=>cX (Ht rfl))) (fQ rfl rfl (eK rfl rfl (Ht rfl) (fun h=>dG U_46 (fJ rfl h) aA)) (fQ rfl rfl (eK rfl rfl (Ht rfl) (fun h=>eC (fJ rfl h) (cJ 0))) (ro rfl (fE (Ht rfl) (fun h=>(fJ rfl h))) (rm rfl ?_))))))))))))
 refine ro rfl (lV (Ht rfl) (Ht rfl)) (gQ Z_129 (Ht rfl) (Ht rfl) rfl (i:=0) rfl (aK rfl) rfl rfl (eX (fW rfl (fX (fK A_129 Z_129 rfl (i:=0) rfl rfl) ?_))))
 exact Xm
theorem vX {n:Int} (h1:-9223372036854775808 ≤ n) (h2:n ≤ 9223372036854775807):bB Tryz.prog 227 [bD .i64 n] (eD n):=by
 refine bB.intro Tryz.func227 rfl Tryz.ntmps227 rfl (fun cx=>(ts (rn rfl (eW (Ts:=[Is (.bool false),Is (.slice none 0 0)]) O_129 rfl (fun V=>aW zd (aW zd (aG)))) fun B2=>(eX (cK (ts (rm rfl (ro rfl (rM (Ht rfl) cV) (eX (dQ (Ht rfl) (fun hb=>?_) (fun hb=>?_)))))))))))
 ·have hn : n < 0 := by simpa using hb
  refine ts (rm rfl (ro rfl (Wn (Ht rfl) (r:=IntKind.i64.wrap (-n)) rfl) ?_))
  refine ro rfl (uJ U_2 U_254 (Ht rfl) (r:=((n.natAbs:Nat):Int)) (by rw [IntKind.wrap_u64,IntKind.wrap_i64]; omega)) ?_
  refine ro rfl (cZ Tryz.call268 (An zo) ⟨(Ht rfl),trivial⟩) (ro rfl (lV cV (Ht rfl)) (gQ Z_129 (Ht rfl) (Ht rfl) rfl (i:=0) rfl (aK rfl) rfl rfl (eX (fW rfl (fX (fK A_129 Z_129 rfl (i:=0) rfl rfl) ?_)))))
  exact (mP (by rw [hb]; rfl))
 ·have hn : ¬ n < 0 := by simpa using hb
  refine cU (ts (rm rfl (ro rfl (uJ U_2 U_254 (Ht rfl) (r:=((n.natAbs:Nat):Int)) (by rw [IntKind.wrap_u64]; omega)) ?_)))
  refine ro rfl (cZ Tryz.call268 (An zo) ⟨(Ht rfl),trivial⟩) (ro rfl (lV cV (Ht rfl)) (gQ Z_129 (Ht rfl) (Ht rfl) rfl (i:=0) rfl (aK rfl) rfl rfl (eX (fW rfl (fX (fK A_129 Z_129 rfl (i:=0) rfl rfl) ?_)))))
  exact (mP (by rw [hb]; rfl))
theorem oB {x:Int}:bB Tryz.prog 228 [eD x] (eD (-x)):=by
 refine bB.intro Tryz.func228 rfl Tryz.ntmps228 rfl (fun cx=>(ts (rn rfl (fG (Ht rfl)) fun B1=>(rn rfl (eW (Ts:=[Is (.bool false),Is (.slice none 0 0)]) O_129 rfl (fun V=>aW zd (aW zd (aG)))) fun B2=>(eX (ts (ro rfl (eZ jA (Ht rfl) rfl) (ro rfl (eY A_4 Z_4 (Ht rfl) (i:=0) rfl rfl) (ro rfl (eT (Ht rfl)) (ro rfl (eZ eL (Ht rfl) rfl) (ro rfl (eY A_46 Z_46 (Ht rfl) (i:=0) rfl rfl) (ro rfl (cZ K_266 mQ ⟨(Ht rfl),(Ht rfl),trivial⟩) ?_))))))))))))
 refine gQ Z_129 (Ht rfl) (Ht rfl) rfl (i:=1) rfl (aK rfl) rfl rfl (eX (fW rfl (fX (fK A_129 Z_129 rfl (i:=1) rfl rfl) ?_)))
 exact (kW (Ej x))
theorem tT {x y:Int} (hx:(dg x.natAbs).length ≤ 17592186044416) (hy:(dg y.natAbs).length ≤ 17592186044416):bB Tryz.prog 230 [eD x,eD y] (eD (x + y)):=by
 refine bB.intro Tryz.func230 rfl Tryz.ntmps230 rfl (fun cx=>(ts (rn rfl (fG (Ht rfl)) fun B2=>(rn rfl (fG (Ht rfl)) fun B3=>(rn rfl (eW (Ts:=[Is (.bool false),Is (.slice none 0 0)]) O_129 rfl (fun V=>aW zd (aW zd (aG)))) fun B4=>(eX (cK (ts (ro rfl (eZ jA (Ht rfl) rfl) (ro rfl (eY A_4 Z_4 (Ht rfl) (i:=0) rfl rfl) (ro rfl (eZ jA (Ht rfl) rfl) (ro rfl (eY A_4 Z_4 (Ht rfl) (i:=1) rfl rfl) (ro rfl (Wi U_4 (Ht rfl) (Ht rfl)) ?_)))))))))))))
 refine eX (dQ (Ht rfl) (fun hb=>?_) (fun hb=>?_))
 ·have he : decide (x < 0) = decide (y < 0) := by simpa using hb
  refine cK (fZ (m:=7) (dp 2 rfl (eZ jA (Ht rfl) rfl) (dq 10 0 rfl (eY A_4 Z_4 (Ht rfl) (i:=0) rfl rfl) (dp 2 rfl (eZ eL (Ht rfl) rfl) (dq 12 2 rfl (eY A_46 Z_46 (Ht rfl) (i:=0) rfl rfl) (dp 3 rfl (eZ eL (Ht rfl) rfl) (dq 14 4 rfl (eY A_46 Z_46 (Ht rfl) (i:=1) rfl rfl) (cP 13 3 15 5 rfl (cZ Tryz.call269 (Pz zo zo) ⟨(Ht rfl),(Ht rfl),trivial⟩) (fV aO rfl (by kernel_rfl) (zF (aJ (aJ (aJ (aV ?_))))))))))))))
  refine ro rfl (cZ K_266 mQ ⟨(Ht rfl),(Ht rfl),trivial⟩) (gQ Z_129 (Ht rfl) (Ht rfl) rfl (i:=2) rfl (aK rfl) rfl rfl (eX (fW rfl (fX (fK A_129 Z_129 rfl (i:=2) rfl rfl) ?_))))
  exact (kW (Ju he))
 ·have he : decide (x < 0) ≠ decide (y < 0) := by simpa using hb
  refine cU (cK (ts (ro rfl (eZ eL (Ht rfl) rfl) (ro rfl (eY A_46 Z_46 (Ht rfl) (i:=0) rfl rfl) (ro rfl (eZ eL (Ht rfl) rfl) (ro rfl (eY A_46 Z_46 (Ht rfl) (i:=1) rfl rfl) (ro rfl (cZ Tryz.call237 (Di zo zo) ⟨(Ht rfl),(Ht rfl),trivial⟩) (ro rfl (lT (Ht rfl) cV) (eX (dQ (Ht rfl) (fun hc=>?_) (fun hc=>?_)))))))))))
  ·have hle : y.natAbs ≤ x.natAbs := Fm (by simpa using hc)
   refine cK (fZ (m:=7) (dp 2 rfl (eZ jA (Ht rfl) rfl) (dq 24 0 rfl (eY A_4 Z_4 (Ht rfl) (i:=0) rfl rfl) (dp 2 rfl (eZ eL (Ht rfl) rfl) (dq 26 2 rfl (eY A_46 Z_46 (Ht rfl) (i:=0) rfl rfl) (dp 3 rfl (eZ eL (Ht rfl) rfl) (dq 28 4 rfl (eY A_46 Z_46 (Ht rfl) (i:=1) rfl rfl) (cP 27 3 29 5 rfl (cZ Tryz.call270 (Dj zo zo) ⟨(Ht rfl),(Ht rfl),trivial⟩) (fV aO rfl (by kernel_rfl) (zF (aJ (aJ (aJ (aV ?_))))))))))))))
   refine ro rfl (cZ K_266 mQ ⟨(Ht rfl),(Ht rfl),trivial⟩) (gQ Z_129 (Ht rfl) (Ht rfl) rfl (i:=2) rfl (aK rfl) rfl rfl (eX (fW rfl (fX (fK A_129 Z_129 rfl (i:=2) rfl rfl) ?_))))
   exact (kW (wV he hle))
  ·have hle : x.natAbs ≤ y.natAbs := Nat.le_of_lt (Fn (by simpa using hc))
   refine cU (cK (fZ (m:=7) (dp 3 rfl (eZ jA (Ht rfl) rfl) (dq 32 0 rfl (eY A_4 Z_4 (Ht rfl) (i:=1) rfl rfl) (dp 3 rfl (eZ eL (Ht rfl) rfl) (dq 34 2 rfl (eY A_46 Z_46 (Ht rfl) (i:=1) rfl rfl) (dp 2 rfl (eZ eL (Ht rfl) rfl) (dq 36 4 rfl (eY A_46 Z_46 (Ht rfl) (i:=0) rfl rfl) (cP 35 3 37 5 rfl (cZ Tryz.call270 (Dj zo zo) ⟨(Ht rfl),(Ht rfl),trivial⟩) (fV aO rfl (by kernel_rfl) (zF (aJ (aJ (aJ (aV ?_)))))))))))))))
   refine ro rfl (cZ K_266 mQ ⟨(Ht rfl),(Ht rfl),trivial⟩) (gQ Z_129 (Ht rfl) (Ht rfl) rfl (i:=2) rfl (aK rfl) rfl rfl (eX (fW rfl (fX (fK A_129 Z_129 rfl (i:=2) rfl rfl) ?_))))
   exact (kW (by rw [wV (Ne.symm he) hle,Int.add_comm]))
theorem Py {x y:Int} (hx:(dg x.natAbs).length ≤ 17592186044416) (hy:(dg y.natAbs).length ≤ 17592186044416):bB Tryz.prog 229 [eD x,eD y] (eD (x + -y)):=by
 have hny:=rC y
 refine bB.intro Tryz.func229 rfl Tryz.ntmps229 rfl (fun cx=>(ts (rn rfl (fG (Ht rfl)) fun B2=>(rn rfl (fG (Ht rfl)) fun B3=>(rn rfl (eW (Ts:=[Is (.bool false),Is (.slice none 0 0)]) O_129 rfl (fun V=>aW zd (aW zd (aG)))) fun B4=>(eX (cK (fZ (m:=3) (dp 2 rfl (eJ A_129 Z_129 (Ht rfl) (i:=0) rfl rfl rfl) (dp 3 rfl (eJ A_129 Z_129 (Ht rfl) (i:=1) rfl rfl rfl) (dq 6 1 rfl (cZ K_228 oB ⟨(Ht rfl),trivial⟩) (fV aO rfl (by kernel_rfl) (aJ (aJ (aJ (aV ?_))))))))))))))))
 refine ro rfl (cZ Tryz.call230 (tT zo zo) ⟨(Ht rfl),(Ht rfl),trivial⟩) (gQ Z_129 (Ht rfl) (Ht rfl) rfl (i:=2) rfl (aK rfl) rfl rfl (eX ?_))
 exact fW rfl (fK A_129 Z_129 rfl (i:=2) rfl rfl)
theorem jZ {x y:Int} (hx:(dg x.natAbs).length ≤ 17592186044416) (hy:(dg y.natAbs).length ≤ 17592186044416):bB Tryz.prog 225 [eD x,eD y] (eD (x * y)):=by
 refine bB.intro Tryz.func225 rfl Tryz.ntmps225 rfl (fun cx=>(ts (rn rfl (fG (Ht rfl)) fun B2=>(rn rfl (fG (Ht rfl)) fun B3=>(rn rfl (eW (Ts:=[Is (.bool false),Is (.slice none 0 0)]) O_129 rfl (fun V=>aW zd (aW zd (aG)))) fun B4=>(eX (cK (fZ (m:=10) (dp 2 rfl (eZ jA (Ht rfl) rfl) (dq 5 0 rfl (eY A_4 Z_4 (Ht rfl) (i:=0) rfl rfl) (dp 3 rfl (eZ jA (Ht rfl) rfl) (dq 7 2 rfl (eY A_4 Z_4 (Ht rfl) (i:=1) rfl rfl) (cP 6 1 8 3 rfl (Wj U_4 (Ht rfl) (Ht rfl)) ?_)))))))))))))
 refine dp 2 rfl (eZ eL (Ht rfl) rfl) (dq 10 5 rfl (eY A_46 Z_46 (Ht rfl) (i:=0) rfl rfl) (dp 3 rfl (eZ eL (Ht rfl) rfl) (dq 12 7 rfl (eY A_46 Z_46 (Ht rfl) (i:=1) rfl rfl) (cP 11 6 13 8 rfl (cZ Tryz.call226 (tU zo zo) ⟨(Ht rfl),(Ht rfl),trivial⟩) (fV aO rfl (by kernel_rfl) (zF (zF (aJ (aJ (aV (ro rfl (cZ K_266 mQ ⟨(Ht rfl),(Ht rfl),trivial⟩) (gQ Z_129 (Ht rfl) (Ht rfl) rfl (i:=2) rfl (aK rfl) rfl rfl ?_))))))))))))
 refine eX (fW rfl (fX (fK A_129 Z_129 rfl (i:=2) rfl rfl) ?_))
 exact (kW (Ek x y))
theorem vY {A B:Int} {D:Nat} (hD:0 < D) (hA:(dg A.natAbs).length ≤ 17592186044415) (hB:(dg B.natAbs).length ≤ 17592186044415) (hD2:(dg D).length ≤ 17592186044415):bB Tryz.prog 224 [eD A,eD B,aE D] (QT (Qi.mk' A B D)):=by
 have hg1:=Aw hA hB
 have hg2:=Aw hg1 hD2
 have hgp:Nat.gcd (Nat.gcd A.natAbs B.natAbs) D ≠ 0:=fun e=>by have:=Nat.gcd_eq_zero_iff.1 e; omega
 refine bB.intro Tryz.func224 rfl Tryz.ntmps224 rfl (fun cx=>(ts (rn rfl (fG (Ht rfl)) fun B3=>(rn rfl (fG (Ht rfl)) fun B4=>(rn rfl (eW (Ts:=[Is (.bool false),Is (.slice none 0 0),Is (.bool false),Is (.slice none 0 0),Is (.slice none 0 0)]) O_131 rfl (fun V=>aW zd (aW zd (aW zd (aW zd (aW zd (aG))))))) fun B6=>(eX (ts (ro rfl (eZ eL (Ht rfl) rfl) (ro rfl (eY A_46 Z_46 (Ht rfl) (i:=0) rfl rfl) ?_)))))))))
 refine ro rfl (eZ eL (Ht rfl) rfl) (ro rfl (eY A_46 Z_46 (Ht rfl) (i:=1) rfl rfl) (ro rfl (cZ Tryz.call264 (Lc zo zo) ⟨(Ht rfl),(Ht rfl),trivial⟩) (rm rfl (ro rfl (cZ Tryz.call264 (Lc zo zo) ⟨(Ht rfl),(Ht rfl),trivial⟩) (ra rfl (eX (cK (ts (rm rfl (ro rfl (dG U_46 (Ht rfl) aA) (ro rfl (cR (Ht rfl) (cJ 1)) (rm rfl (fQ rfl rfl (eK rfl rfl (Ht rfl) (fun h=>cX (Ht rfl))) (fQ rfl rfl (eK rfl rfl (Ht rfl) (fun h=>dZ U_46 Z_189 (fJ rfl h) (cJ 0) rfl (dY (aF (by first | omega | (simp at h; omega)))))) ?_))))))))))))))
 refine fQ rfl rfl (eK rfl rfl (Ht rfl) (fun h=>dJ A_189 Z_189 (fJ rfl h))) (fQ rfl rfl (eK rfl rfl (Ht rfl) (fun h=>cR (fJ rfl h) (cJ 1))) (ro rfl (fE (Ht rfl) (fun h=>(fJ rfl h))) (eX (dQ (Ht rfl) (fun hb=>?_) (fun hb=>?_)))))
 ·rw [Gc] at hb
  have hg:Qi.g3 A B D = 1:=by simpa [Qi.g3] using hb
  refine ts (ro rfl (eJ A_129 Z_129 (Ht rfl) (i:=0) rfl rfl rfl) (ro rfl (eJ A_129 Z_129 (Ht rfl) (i:=1) rfl rfl rfl) (rm rfl (ro rfl (lK (Ht rfl) (Ht rfl) (Ht rfl)) (gQ Z_131 (Ht rfl) (Ht rfl) rfl (i:=2) rfl (aK rfl) rfl rfl (eX (fW rfl (fX (fK A_131 Z_131 rfl (i:=2) rfl rfl) ?_))))))))
  exact (Vx hD hg)
 ·refine cU (ts (ro rfl (eZ eL (Ht rfl) rfl) (ro rfl (eY A_46 Z_46 (Ht rfl) (i := 0) rfl rfl) (rm rfl (ro rfl (cZ K_265 (xK zo zo zo) ⟨(Ht rfl), (Ht rfl), trivial⟩) (rm rfl (ro rfl (dK (Ht rfl) rfl) (ro rfl (dK (Ht rfl) rfl) (ra rfl (ra rfl (eX (ts (ro rfl (eZ eL (Ht rfl) rfl) (ro rfl (eY A_46 Z_46 (Ht rfl) (i := 1) rfl rfl) (rm rfl (ro rfl (cZ K_265 (xK zo zo zo) ⟨(Ht rfl), (Ht rfl), trivial⟩) (rm rfl (ro rfl (dK (Ht rfl) rfl) ?_))))))))))))))))))
  refine ro rfl (dK (Ht rfl) rfl) (ra rfl (ra rfl (eX (ts (rm rfl (rm rfl (ro rfl (cZ K_265 (xK zo zo zo) ⟨(Ht rfl),(Ht rfl),trivial⟩) (rm rfl (ro rfl (dK (Ht rfl) rfl) (ro rfl (dK (Ht rfl) rfl) (ra rfl (ra rfl (eX (cK (fZ (m:=9) (dp 3 rfl (eZ jA (Ht rfl) rfl) (dq 54 0 rfl (eY A_4 Z_4 (Ht rfl) (i:=0) rfl rfl) (dp 8 rfl (cX (Ht rfl)) (cP 55 1 56 2 rfl (cZ K_266 mQ ⟨(Ht rfl),(Ht rfl),trivial⟩) (dp 4 rfl (eZ jA (Ht rfl) rfl) ?_))))))))))))))))))))
  refine dq 58 4 rfl (eY A_4 Z_4 (Ht rfl) (i:=1) rfl rfl) (dp 10 rfl (cX (Ht rfl)) (cP 59 5 60 6 rfl (cZ K_266 mQ ⟨(Ht rfl),(Ht rfl),trivial⟩) (dp 12 rfl (cX (Ht rfl)) (fV aO rfl (by kernel_rfl) (zF (zF (aJ (aV (ro rfl (lK (Ht rfl) (Ht rfl) (Ht rfl)) (gQ Z_131 (Ht rfl) (Ht rfl) rfl (i:=2) rfl (aK rfl) rfl rfl (eX (fW rfl (fX (fK A_131 Z_131 rfl (i:=2) rfl rfl) ?_)))))))))))))
  exact (Vy hD rfl)
theorem oN {n:Int} (h1:-9223372036854775808 ≤ n) (h2:n ≤ 9223372036854775807):bB Tryz.prog 148 [bD .i64 n] (QT (Qi.ofInt n)):=by
 refine bB.intro Tryz.func148 rfl Tryz.ntmps148 rfl (fun cx=>(ts (rn rfl (eW (Ts:=[Is (.bool false),Is (.slice none 0 0),Is (.bool false),Is (.slice none 0 0),Is (.slice none 0 0)]) O_131 rfl (fun V=>aW zd (aW zd (aW zd (aW zd (aW zd (aG))))))) fun B2=>(eX (ts (rm rfl (ro rfl (cZ Tryz.call227 (vX h1 h2) ⟨(Ht rfl),trivial⟩) (ro rfl (Gu ) (ro rfl (dN (xs:=[_]) U_46 Z_189 O_189 (cW (cJ 1) cG) rfl rfl rfl) ?_)))))))))
 refine ro rfl (lK (Ht rfl) (Ht rfl) (Ht rfl)) (gQ Z_131 (Ht rfl) (Ht rfl) rfl (i:=0) rfl (aK rfl) rfl rfl (eX (fW rfl (fX (fK A_131 Z_131 rfl (i:=0) rfl rfl) ?_))))
 exact a3N
theorem Ub {p q d:Int} (p1:-9223372036854775808 ≤ p) (p2:p ≤ 9223372036854775807) (q1:-9223372036854775808 ≤ q) (q2:q ≤ 9223372036854775807) (d1:-9223372036854775808 ≤ d) (d2:d ≤ 9223372036854775807) (hd:d ≠ 0):bB Tryz.prog 145 [bD .i64 p,bD .i64 q,bD .i64 d] (fH [QT (Qi.frac p q d),bD .i64 0]):=by
 have lp:=Ql p1 p2; have lq:=Ql q1 q2; have ld:=Ql d1 d2; have np:=rC p; have nq:=rC q
 refine bB.intro Tryz.func145 rfl Tryz.ntmps145 rfl (fun cx=>(ts (rn rfl (eW (Ts:=[Is (.bool false),Is (.slice none 0 0),Is (.bool false),Is (.slice none 0 0),Is (.slice none 0 0)]) O_131 rfl (fun V=>aW zd (aW zd (aW zd (aW zd (aW zd (aG))))))) fun B6=>(ro rfl (cQ (cJ 0)) (eX (cK (ts (rm rfl (ro rfl (lH (Ht rfl) cV) (eX (iR (Ht rfl) (by simp [hd]) ?_)))))))))))
 refine cU (ts (rm rfl (ro rfl (cZ Tryz.call227 (vX d1 d2) ⟨(Ht rfl),trivial⟩) (rn rfl (eW (Ts:=[Is (.bool false),Is (.slice none 0 0)]) O_129 rfl (fun V=>aW zd (aW zd (aG)))) fun B8=>(gQ Z_129 (Ht rfl) (Ht rfl) rfl (i:=1) rfl (aK rfl) rfl rfl (eX (ts (rm rfl (ro rfl (cZ Tryz.call227 (vX p1 p2) ⟨(Ht rfl),trivial⟩) (rm rfl (ro rfl (cZ Tryz.call227 (vX q1 q2) ⟨(Ht rfl),trivial⟩) (rn rfl (eW (Ts:=[Is (.bool false),Is (.slice none 0 0)]) O_129 rfl (fun V=>aW zd (aW zd (aG)))) fun B9=>?_))))))))))))
 refine rn rfl (eW (Ts:=[Is (.bool false),Is (.slice none 0 0)]) O_129 rfl (fun V=>aW zd (aW zd (aG)))) fun B10=>gQ Z_129 (Ht rfl) (Ht rfl) rfl (i:=2) rfl (aK rfl) rfl rfl (gQ Z_129 (Ht rfl) (Ht rfl) rfl (i:=3) rfl (aK rfl) rfl rfl (eX (cK (pF (fun (a:Int) (b:Int)=>Qi.mk' a b d.natAbs = Qi.frac p q d ∧ (dg a.natAbs).length ≤ 2 ∧ (dg b.natAbs).length ≤ 2) (fun (a:Int) (b:Int)=>[(6,dA B6 0),(8,dA B8 0),(9,dA B9 0),(10,dA B10 0)]) (fun (a:Int) (b:Int)=>[box B6 131 [Is (.bool false),Is (.slice none 0 0),Is (.bool false),Is (.slice none 0 0),Is (.slice none 0 0)],box B8 129 [aC (decide (d < 0)),aE (d).natAbs],box B9 129 [aC (decide (a < 0)),aE (a).natAbs],box B10 129 [aC (decide (b < 0)),aE (b).natAbs]]) ?_ (fun a b ⟨hab,ha,hb⟩=>?_)))))
 ·refine ts (ro rfl (eZ jA (Ht rfl) rfl) (ro rfl (eY A_4 Z_4 (Ht rfl) (i := 1) rfl rfl) (eX (dQ (Ht rfl) (fun hn => ?_) (fun hn => ?_)))))
  ·simp only [decide_eq_true_eq] at hn
   refine fZ (m:=3) (dp 9 rfl (eJ A_129 Z_129 (Ht rfl) (i:=2) rfl rfl rfl) (dq 22 0 rfl (cZ K_228 oB ⟨(Ht rfl),trivial⟩) (dp 10 rfl (eJ A_129 Z_129 (Ht rfl) (i:=3) rfl rfl rfl) (fV aO rfl (by kernel_rfl) (aJ (aJ (aJ (aV (ro rfl (cZ K_228 oB ⟨(Ht rfl),trivial⟩) (gQ Z_129 (Ht rfl) (Ht rfl) rfl (i:=2) rfl (aK rfl) rfl rfl (gQ Z_129 (Ht rfl) (Ht rfl) rfl (i:=3) rfl (aK rfl) rfl rfl (eX (bC (-p,-q) ⟨Qi.frac_neg hn,by dsimp only; omega,by dsimp only; omega⟩ (zS rfl) (aU (aB rfl) (aU (aB rfl) (aU (aB rfl) (aU (aB rfl) aY)))))))))))))))))
  ·simp only [decide_eq_false_iff_not] at hn
   refine cU (bC (p,q) ⟨Qi.frac_pos hn hd,by omega,by omega⟩ (zS rfl) (cT.refl _))
 ·refine ts (ro rfl (eJ A_129 Z_129 (Ht rfl) (i := 2) rfl rfl rfl) (ro rfl (eJ A_129 Z_129 (Ht rfl) (i := 3) rfl rfl rfl) (ro rfl (eZ eL (Ht rfl) rfl) (ro rfl (eY A_46 Z_46 (Ht rfl) (i := 1) rfl rfl) (ro rfl (cZ Tryz.call224 (vY zo zo zo zo) ⟨(Ht rfl), (Ht rfl), (Ht rfl), trivial⟩) (gQ Z_131 (Ht rfl) (Ht rfl) rfl (i := 0) rfl (aK rfl) rfl rfl (ro rfl (cQ (cJ 0)) (eX (bM rfl (fX (fK A_131 Z_131 rfl (i := 0) rfl rfl) ?_) (eU rfl))))))))))
  exact (Cu hab)
theorem a3t {r:Rt}:bB Tryz.prog 151 [Pr r] (QT r.q):=by
 have hr1:=r.h1; have hr2:=r.h2; have hr3:=r.h3; have hr4:=r.h4; have hr5:=r.d1; have hr6:=r.d2; have hr0:=r.d0
 refine bB.intro Tryz.func151 rfl Tryz.ntmps151 rfl (fun cx=>(ts (rn rfl (fG (Ht rfl)) fun B1=>(rn rfl (eW (Ts:=[Is (.bool false),Is (.slice none 0 0),Is (.bool false),Is (.slice none 0 0),Is (.slice none 0 0)]) O_131 rfl (fun V=>aW zd (aW zd (aW zd (aW zd (aW zd (aG))))))) fun B2=>(eX (cK (jL (fun (uu:Unit)=>True) (fun (uu:Unit)=>[(1,dA B1 0),(2,dA B2 0)]) (fun (uu:Unit)=>[box B1 102 [bD .i64 r.re,bD .i64 r.im,bD .i64 r.d],box B2 131 [Is (.bool false),Is (.slice none 0 0),Is (.bool false),Is (.slice none 0 0),Is (.slice none 0 0)]]) ?_ (fun uu _=>?_))))))))
 ·refine ts (ro rfl (eZ qG (Ht rfl) rfl) (ro rfl (eY A_2 Z_2 (Ht rfl) (i := 0) rfl rfl) (ro rfl (lH (Ht rfl) cV) (eX (dQ (Ht rfl) (fun hb => ?_) (fun hb => ?_))))))
  ·simp only [decide_eq_true_eq] at hb
   refine cY (ro rfl (eZ qG (Ht rfl) rfl) (kK Z_2 (Ht rfl) (cJ 1) (i:=0) rfl (aK rfl) rfl (eX (bC () trivial (zS rfl) (aU (aB (by rw [Rt.d,if_pos hb]; rfl)) (aU (aB rfl) aY))))))
  ·simp only [decide_eq_false_iff_not] at hb
   refine cU (bC () trivial (zS rfl) (aU (aB (by rw [Rt.d,if_neg hb])) (aU (aB rfl) aY)))
 ·refine ts (ro rfl (eZ Hx (Ht rfl) rfl) (ro rfl (eY A_2 Z_2 (Ht rfl) (i := 0) rfl rfl) (ro rfl (eZ Hy (Ht rfl) rfl) (ro rfl (eY A_2 Z_2 (Ht rfl) (i := 0) rfl rfl) (ro rfl (eZ qG (Ht rfl) rfl) (ro rfl (eY A_2 Z_2 (Ht rfl) (i := 0) rfl rfl) (ro rfl (cZ Tryz.call145 (Ub hr1 hr2 hr3 hr4 hr5 hr6 hr0) ⟨(Ht rfl), (Ht rfl), (Ht rfl), trivial⟩) (rm rfl (ro rfl (dK (Ht rfl) rfl) (ro rfl (dK (Ht rfl) rfl) (rn rfl (eW (Ts := [Is (.bool false), Is (.slice none 0 0), Is (.bool false), Is (.slice none 0 0), Is (.slice none 0 0)]) O_131 rfl (fun V => aW zd (aW zd (aW zd (aW zd (aW zd (aG))))))) fun B3 => ?_)))))))))))
  refine gQ Z_131 (Ht rfl) (Ht rfl) rfl (i:=2) rfl (aK rfl) rfl rfl (ra rfl (eX (ts (ro rfl (eJ A_131 Z_131 (Ht rfl) (i:=2) rfl rfl rfl) (gQ Z_131 (Ht rfl) (Ht rfl) rfl (i:=1) rfl (aK rfl) rfl rfl (eX ?_))))))
  exact fW rfl (fK A_131 Z_131 rfl (i:=1) rfl rfl)
theorem vB {x y:Qi} {L M:Nat} [hx:aD x L] [hy:aD y M] (h:L + M + 1 ≤ 17592186044415):bB Tryz.prog 149 [QT x,QT y] (QT (x + y)):=by
 have hxa:=jI hx.fit; have hxb:=jR hx.fit; have hxd:=jJ hx.fit
 have hya:=jI hy.fit; have hyb:=jR hy.fit; have hyd:=jJ hy.fit
 have hxp:=x.den_pos; have hyp:=y.den_pos; have hdp:=Nat.mul_pos hxp hyp
 have e1:=dR x.a y.den; have e2:=dR y.a x.den; have e3:=dR x.b y.den; have e4:=dR y.b x.den; have e5:=sE x.den y.den
 have e6:=kA (x:=x.a * y.den) (y:=y.a * x.den) (L:=L + M) zo zo; have e7:=kA (x:=x.b * y.den) (y:=y.b * x.den) (L:=L + M) zo zo
 refine bB.intro Tryz.func149 rfl Tryz.ntmps149 rfl (fun cx=>?_)
 have n1:(dg ((x.den:Nat):Int).natAbs).length ≤ L:=by rw [Int.natAbs_natCast]; exact hxd
 have n2:(dg ((y.den:Nat):Int).natAbs).length ≤ M:=by rw [Int.natAbs_natCast]; exact hyd
 refine ts (rn rfl (fG (Ht rfl)) fun B2=>(rn rfl (fG (Ht rfl)) fun B3=>(rn rfl (eW (Ts:=[Is (.bool false),Is (.slice none 0 0),Is (.bool false),Is (.slice none 0 0),Is (.slice none 0 0)]) O_131 rfl (fun V=>aW zd (aW zd (aW zd (aW zd (aW zd (aG))))))) fun B4=>(eX (cK (Y.D_start (m:=9) [] (bY (Ei:=[(2,_)]) rfl rfl (bQ (bJ rfl rfl) bX) rfl rfl (dX rfl (eZ gR (Ht rfl) rfl)) (bY (Ei:=[(7,_)]) rfl rfl (bQ (bZ 0 rfl rfl) bX) rfl rfl (dX rfl (eY A_46 Z_46 (Ht rfl) (i:=0) rfl rfl)) ?_))))))))
 refine bY (Ei:=[(8,_)]) rfl rfl (bQ (bZ 1 rfl rfl) bX) rfl rfl (dX rfl (aL.imp (lV cV (Ht rfl)) xS)) (bY (Ei:=[(3,_)]) rfl rfl (bQ (bJ rfl rfl) bX) rfl rfl (dX rfl (eZ gR (Ht rfl) rfl)) (bY (Ei:=[(10,_)]) rfl rfl (bQ (bZ 3 rfl rfl) bX) rfl rfl (dX rfl (eY A_46 Z_46 (Ht rfl) (i:=1) rfl rfl)) (bY (Ei:=[(11,_)]) rfl rfl (bQ (bZ 4 rfl rfl) bX) rfl rfl (dX rfl (aL.imp (lV cV (Ht rfl)) xS)) ?_)))
 refine Y.D_newp (Ei:=[]) (fun bb=>box bb 129 [aC (decide (((x.den:Nat):Int) < 0)),aE (((x.den:Nat):Int)).natAbs]) 8 rfl rfl rfl bX rfl rfl (by kernel_rfl) (eW (Ts:=[Is (.bool false),Is (.slice none 0 0)]) O_129 rfl (fun V=>aW zd (aW zd (aG)))) (Y.D_new (Ei:=[]) rfl rfl rfl bX rfl rfl (eW (Ts:=[Is (.bool false),Is (.slice none 0 0)]) O_129 rfl (fun V=>aW zd (aW zd (aG)))) (Y.D_putN (Ei:=[(9,_)]) 6 rfl rfl rfl rfl rfl rfl (bQ (bZ 2 rfl rfl) bX) (fun bb=>mE Z_129 (Ht rfl) (Ht rfl) rfl (i:=0) rfl (aK rfl) rfl rfl) ?_))
 refine Y.D_done aO rfl (by kernel_rfl) rfl (by simp [Y.okP]) rfl rfl (bU (bU (bU (bU (bU (bU (Y.F_newp (fun B5=>Y.F_new (fun B6=>Y.F_putN (Y.F_nil ?_))))))))))
 refine gQ Z_129 (Ht rfl) (Ht rfl) rfl (i:=4) rfl (aK rfl) rfl rfl (eX (cK (fZ (m:=22) (dp 2 rfl (eZ gP (Ht rfl) rfl) (dq 13 0 rfl (eJ A_129 Z_129 (Ht rfl) (i:=0) rfl rfl rfl) (dp 6 rfl (eJ A_129 Z_129 (Ht rfl) (i:=4) rfl rfl rfl) (cP 14 1 15 2 rfl (cZ K_225 (jZ zo zo) ⟨(Ht rfl),(Ht rfl),trivial⟩) (dp 3 rfl (eZ gP (Ht rfl) rfl) (dq 17 4 rfl (eJ A_129 Z_129 (Ht rfl) (i:=1) rfl rfl rfl) (dp 5 rfl (eJ A_129 Z_129 (Ht rfl) (i:=3) rfl rfl rfl) ?_))))))))))
 refine cP 18 5 19 6 rfl (cZ K_225 (jZ zo zo) ⟨(Ht rfl),(Ht rfl),trivial⟩) (cP 16 3 20 7 rfl (cZ Tryz.call230 (tT zo zo) ⟨(Ht rfl),(Ht rfl),trivial⟩) (dp 2 rfl (eZ iD (Ht rfl) rfl) (dq 22 9 rfl (eJ A_129 Z_129 (Ht rfl) (i:=0) rfl rfl rfl) (dp 6 rfl (eJ A_129 Z_129 (Ht rfl) (i:=4) rfl rfl rfl) (cP 23 10 24 11 rfl (cZ K_225 (jZ zo zo) ⟨(Ht rfl),(Ht rfl),trivial⟩) (dp 3 rfl (eZ iD (Ht rfl) rfl) (dq 26 13 rfl (eJ A_129 Z_129 (Ht rfl) (i:=1) rfl rfl rfl) ?_)))))))
 refine dp 5 rfl (eJ A_129 Z_129 (Ht rfl) (i:=3) rfl rfl rfl) (cP 27 14 28 15 rfl (cZ K_225 (jZ zo zo) ⟨(Ht rfl),(Ht rfl),trivial⟩) (cP 25 12 29 16 rfl (cZ Tryz.call230 (tT zo zo) ⟨(Ht rfl),(Ht rfl),trivial⟩) (dp 2 rfl (eZ gR (Ht rfl) rfl) (dq 31 18 rfl (eY A_46 Z_46 (Ht rfl) (i:=0) rfl rfl) (dp 3 rfl (eZ gR (Ht rfl) rfl) (dq 33 20 rfl (eY A_46 Z_46 (Ht rfl) (i:=1) rfl rfl) (fV aO rfl (by kernel_rfl) (zF (zF (zF (zF (zF (aJ (aJ (aV ?_)))))))))))))))
 refine ro rfl (cZ Tryz.call226 (tU zo zo) ⟨(Ht rfl),(Ht rfl),trivial⟩) (ro rfl (cZ Tryz.call224 (vY (by first | assumption | omega) zo zo zo) ⟨(Ht rfl),(Ht rfl),(Ht rfl),trivial⟩) (gQ Z_131 (Ht rfl) (Ht rfl) rfl (i:=2) rfl (aK rfl) rfl rfl (eX (fW rfl (fX (fK A_131 Z_131 rfl (i:=2) rfl rfl) ?_)))))
 exact (Cu (Qi.mk_add x y))
theorem Ua {x:Qi}:bB Tryz.prog 150 [QT x] (QT (-x)):=by
 refine bB.intro Tryz.func150 rfl Tryz.ntmps150 rfl (fun cx=>(ts (rn rfl (fG (Ht rfl)) fun B1=>(rn rfl (eW (Ts:=[Is (.bool false),Is (.slice none 0 0),Is (.bool false),Is (.slice none 0 0),Is (.slice none 0 0)]) O_131 rfl (fun V=>aW zd (aW zd (aW zd (aW zd (aW zd (aG))))))) fun B2=>(eX (cK (fZ (m:=8) (dp 1 rfl (eZ gP (Ht rfl) rfl) (dq 3 0 rfl (eJ A_129 Z_129 (Ht rfl) (i:=0) rfl rfl rfl) ?_)))))))))
 refine dq 4 1 rfl (cZ K_228 oB ⟨(Ht rfl),trivial⟩) (dp 1 rfl (eZ iD (Ht rfl) rfl) (dq 6 3 rfl (eJ A_129 Z_129 (Ht rfl) (i:=0) rfl rfl rfl) (dq 7 4 rfl (cZ K_228 oB ⟨(Ht rfl),trivial⟩) (dp 1 rfl (eZ gR (Ht rfl) rfl) (dq 9 6 rfl (eY A_46 Z_46 (Ht rfl) (i:=0) rfl rfl) (fV aO rfl (by kernel_rfl) (zF (zF (aV (ro rfl (lK (Ht rfl) (Ht rfl) (Ht rfl)) (gQ Z_131 (Ht rfl) (Ht rfl) rfl (i:=1) rfl (aK rfl) rfl rfl ?_)))))))))))
 refine eX (fW rfl (fX (fK A_131 Z_131 rfl (i:=1) rfl rfl) ?_))
 exact (mP (by obtain ⟨e1,e2,e3⟩:=Qi.neg_a x; rw [e1,e2,e3]; rfl))
theorem Fj {x:Qi}:bB Tryz.prog 173 [QT x] (QT x.conj):=by
 refine bB.intro Tryz.func173 rfl Tryz.ntmps173 rfl (fun cx=>(ts (rn rfl (fG (Ht rfl)) fun B1=>(rn rfl (eW (Ts:=[Is (.bool false),Is (.slice none 0 0),Is (.bool false),Is (.slice none 0 0),Is (.slice none 0 0)]) O_131 rfl (fun V=>aW zd (aW zd (aW zd (aW zd (aW zd (aG))))))) fun B2=>(eX (cK (fZ (m:=7) (dp 1 rfl (eZ gP (Ht rfl) rfl) (dq 3 0 rfl (eJ A_129 Z_129 (Ht rfl) (i:=0) rfl rfl rfl) ?_)))))))))
 refine dp 1 rfl (eZ iD (Ht rfl) rfl) (dq 5 2 rfl (eJ A_129 Z_129 (Ht rfl) (i:=0) rfl rfl rfl) (dq 6 3 rfl (cZ K_228 oB ⟨(Ht rfl),trivial⟩) (dp 1 rfl (eZ gR (Ht rfl) rfl) (dq 8 5 rfl (eY A_46 Z_46 (Ht rfl) (i:=0) rfl rfl) (fV aO rfl (by kernel_rfl) (zF (aJ (aJ (aJ (aV (ro rfl (lK (Ht rfl) (Ht rfl) (Ht rfl)) (gQ Z_131 (Ht rfl) (Ht rfl) rfl (i:=1) rfl (aK rfl) rfl rfl (eX (fW rfl (fX (fK A_131 Z_131 rfl (i:=1) rfl rfl) ?_)))))))))))))))
 exact (mP (by obtain ⟨e1,e2,e3⟩:=Qi.conj_a x; rw [e1,e2,e3]; rfl))
theorem Fk {x y:Qi} {L M:Nat} [hx:aD x L] [hy:aD y M] (h:L + M + 1 ≤ 17592186044415):bB Tryz.prog 147 [QT x,QT y] (QT (x - y)):=by
 have hxa:=jI hx.fit; have hxb:=jR hx.fit; have hxd:=jJ hx.fit
 have hya:=jI hy.fit; have hyb:=jR hy.fit; have hyd:=jJ hy.fit
 have hxp:=x.den_pos; have hyp:=y.den_pos; have hdp:=Nat.mul_pos hxp hyp
 refine bB.intro Tryz.func147 rfl Tryz.ntmps147 rfl (fun cx=>(ts (rn rfl (fG (Ht rfl)) fun B2=>(rn rfl (fG (Ht rfl)) fun B3=>(rn rfl (eW (Ts:=[Is (.bool false),Is (.slice none 0 0),Is (.bool false),Is (.slice none 0 0),Is (.slice none 0 0)]) O_131 rfl (fun V=>aW zd (aW zd (aW zd (aW zd (aW zd (aG))))))) fun B4=>(eX (cK (fZ (m:=3) (dp 2 rfl (eJ A_131 Z_131 (Ht rfl) (i:=0) rfl rfl rfl) (dp 3 rfl (eJ A_131 Z_131 (Ht rfl) (i:=1) rfl rfl rfl) ?_))))))))))
 refine dq 6 1 rfl (cZ Tryz.call150 Ua ⟨(Ht rfl),trivial⟩) (fV aO rfl (by kernel_rfl) (aJ (aJ (aJ (aV (ro rfl (cZ K_149 (vB zo) ⟨(Ht rfl),(Ht rfl),trivial⟩) (gQ Z_131 (Ht rfl) (Ht rfl) rfl (i:=2) rfl (aK rfl) rfl rfl (eX (fW rfl (fX (fK A_131 Z_131 rfl (i:=2) rfl rfl) ?_))))))))))
 exact (Cu (Qi.sub_def x y).symm)
theorem oM {x y:Qi} {L M:Nat} [hx:aD x L] [hy:aD y M] (h:L + M + 1 ≤ 17592186044415):bB Tryz.prog 146 [QT x,QT y] (QT (x * y)):=by
 have hxa:=jI hx.fit; have hxb:=jR hx.fit; have hxd:=jJ hx.fit
 have hya:=jI hy.fit; have hyb:=jR hy.fit; have hyd:=jJ hy.fit
 have hxp:=x.den_pos; have hyp:=y.den_pos; have hdp:=Nat.mul_pos hxp hyp
 have e1:=kB x.a y.a; have e2:=kB x.b y.b; have e3:=kB x.a y.b; have e4:=kB x.b y.a; have e5:=sE x.den y.den; have e8:=rC (x.b * y.b)
 have e6:=kA (x:=x.a * y.a) (y:=-(x.b * y.b)) (L:=L + M) zo zo; have e7:=kA (x:=x.a * y.b) (y:=x.b * y.a) (L:=L + M) zo zo
 refine bB.intro Tryz.func146 rfl Tryz.ntmps146 rfl (fun cx=>(ts (rn rfl (fG (Ht rfl)) fun B2=>(rn rfl (fG (Ht rfl)) fun B3=>(rn rfl (eW (Ts:=[Is (.bool false),Is (.slice none 0 0),Is (.bool false),Is (.slice none 0 0),Is (.slice none 0 0)]) O_131 rfl (fun V=>aW zd (aW zd (aW zd (aW zd (aW zd (aG))))))) fun B4=>(eX (cK (fZ (m:=26) (dp 2 rfl (eZ gP (Ht rfl) rfl) (dq 5 0 rfl (eJ A_129 Z_129 (Ht rfl) (i:=0) rfl rfl rfl) ?_))))))))))
 refine dp 3 rfl (eZ gP (Ht rfl) rfl) (dq 7 2 rfl (eJ A_129 Z_129 (Ht rfl) (i:=1) rfl rfl rfl) (cP 6 1 8 3 rfl (cZ K_225 (jZ zo zo) ⟨(Ht rfl),(Ht rfl),trivial⟩) (dp 2 rfl (eZ iD (Ht rfl) rfl) (dq 10 5 rfl (eJ A_129 Z_129 (Ht rfl) (i:=0) rfl rfl rfl) (dp 3 rfl (eZ iD (Ht rfl) rfl) (dq 12 7 rfl (eJ A_129 Z_129 (Ht rfl) (i:=1) rfl rfl rfl) (cP 11 6 13 8 rfl (cZ K_225 (jZ zo zo) ⟨(Ht rfl),(Ht rfl),trivial⟩) (cP 9 4 14 9 rfl (cZ Tryz.call229 (Py zo zo) ⟨(Ht rfl),(Ht rfl),trivial⟩) ?_))))))))
 refine dp 2 rfl (eZ gP (Ht rfl) rfl) (dq 16 11 rfl (eJ A_129 Z_129 (Ht rfl) (i:=0) rfl rfl rfl) (dp 3 rfl (eZ iD (Ht rfl) rfl) (dq 18 13 rfl (eJ A_129 Z_129 (Ht rfl) (i:=1) rfl rfl rfl) (cP 17 12 19 14 rfl (cZ K_225 (jZ zo zo) ⟨(Ht rfl),(Ht rfl),trivial⟩) (dp 2 rfl (eZ iD (Ht rfl) rfl) (dq 21 16 rfl (eJ A_129 Z_129 (Ht rfl) (i:=0) rfl rfl rfl) (dp 3 rfl (eZ gP (Ht rfl) rfl) (dq 23 18 rfl (eJ A_129 Z_129 (Ht rfl) (i:=1) rfl rfl rfl) ?_))))))))
 refine cP 22 17 24 19 rfl (cZ K_225 (jZ zo zo) ⟨(Ht rfl),(Ht rfl),trivial⟩) (cP 20 15 25 20 rfl (cZ Tryz.call230 (tT zo zo) ⟨(Ht rfl),(Ht rfl),trivial⟩) (dp 2 rfl (eZ gR (Ht rfl) rfl) (dq 27 22 rfl (eY A_46 Z_46 (Ht rfl) (i:=0) rfl rfl) (dp 3 rfl (eZ gR (Ht rfl) rfl) (dq 29 24 rfl (eY A_46 Z_46 (Ht rfl) (i:=1) rfl rfl) (fV aO rfl (by kernel_rfl) (zF (zF (zF (zF (zF (zF (aJ (aJ (aV ?_)))))))))))))))
 refine ro rfl (cZ Tryz.call226 (tU zo zo) ⟨(Ht rfl),(Ht rfl),trivial⟩) (ro rfl (cZ Tryz.call224 (vY (by first | assumption | omega) zo zo zo) ⟨(Ht rfl),(Ht rfl),(Ht rfl),trivial⟩) (gQ Z_131 (Ht rfl) (Ht rfl) rfl (i:=2) rfl (aK rfl) rfl rfl (eX (fW rfl (fX (fK A_131 Z_131 rfl (i:=2) rfl rfl) ?_)))))
 exact (Cu (Qi.mk_mul x y))
theorem Nh {x:Qi}:bB Tryz.prog 166 [QT x] (aC (decide (x = Qi.zero))):=by
 refine bB.intro Tryz.func166 rfl Tryz.ntmps166 rfl (fun cx=>(ts (rn rfl (fG (Ht rfl)) fun B1=>(ro rfl (cQ cV) (eX (ts (ro rfl (eZ gP (Ht rfl) rfl) (ro rfl (eZ eL (Ht rfl) rfl) (ro rfl (eY A_46 Z_46 (Ht rfl) (i:=0) rfl rfl) (ro rfl (dG U_46 (Ht rfl) aA) (ro rfl (cR (Ht rfl) (cJ 0)) (rm rfl (fQ rfl rfl (eK rfl rfl (Ht rfl) (fun h=>eZ iD (Ht rfl) rfl)) (fQ rfl rfl (eK rfl rfl (Ht rfl) (fun h=>eZ eL (fJ rfl h) rfl)) (fQ rfl rfl (eK rfl rfl (Ht rfl) (fun h=>eY A_46 Z_46 (fJ rfl h) (i:=0) rfl rfl)) ?_)))))))))))))))
 refine fQ rfl rfl (eK rfl rfl (Ht rfl) (fun h=>dG U_46 (fJ rfl h) aA)) (fQ rfl rfl (eK rfl rfl (Ht rfl) (fun h=>cR (fJ rfl h) (cJ 0))) (ro rfl (fE (Ht rfl) (fun h=>(fJ rfl h))) (ra rfl (eX (fW rfl (fX (eU rfl) ?_))))))
 exact (dM (Xi x))
theorem a3s {x:Qi} {L:Nat} [hx:aD x L] (h:L ≤ 17592186044415):bB Tryz.prog 274 [QT x] (QT x.imp):=by
 have hxa:=jI hx.fit; have hxb:=jR hx.fit; have hxd:=jJ hx.fit
 have hxp:=x.den_pos
 have h5:(dg (0:Int).natAbs).length ≤ 0:=by rw [show (0:Int).natAbs = 0 from rfl,eI]; exact Nat.le_refl _
 refine bB.intro Tryz.func274 rfl Tryz.ntmps274 rfl (fun cx=>(ts (rn rfl (fG (Ht rfl)) fun B1=>(rn rfl (eW (Ts:=[Is (.bool false),Is (.slice none 0 0),Is (.bool false),Is (.slice none 0 0),Is (.slice none 0 0)]) O_131 rfl (fun V=>aW zd (aW zd (aW zd (aW zd (aW zd (aG))))))) fun B2=>(eX (ts (ro rfl (eZ iD (Ht rfl) rfl) (ro rfl (eJ A_129 Z_129 (Ht rfl) (i:=0) rfl rfl rfl) (ro rfl (aL.imp (Gu ) Cj) ?_)))))))))
 refine ro rfl (eZ gR (Ht rfl) rfl) (ro rfl (eY A_46 Z_46 (Ht rfl) (i:=0) rfl rfl) (ro rfl (cZ Tryz.call224 (vY (by first | assumption | omega) zo zo zo) ⟨(Ht rfl),(Ht rfl),(Ht rfl),trivial⟩) (gQ Z_131 (Ht rfl) (Ht rfl) rfl (i:=1) rfl (aK rfl) rfl rfl (eX (fW rfl (fX (fK A_131 Z_131 rfl (i:=1) rfl rfl) ?_))))))
 exact (Cu (Qi.mk_im0 x))
theorem Zn {x:Qi} {L:Nat} [hx:aD x L] (h:L + L + 1 ≤ 17592186044415):bB Tryz.prog 223 [QT x] (QT x.norm):=by
 refine bB.intro Tryz.func223 rfl Tryz.ntmps223 rfl (fun cx=>(ts (rn rfl (fG (Ht rfl)) fun B1=>(rn rfl (eW (Ts:=[Is (.bool false),Is (.slice none 0 0),Is (.bool false),Is (.slice none 0 0),Is (.slice none 0 0)]) O_131 rfl (fun V=>aW zd (aW zd (aW zd (aW zd (aW zd (aG))))))) fun B2=>(eX (cK (fZ (m:=3) (dp 1 rfl (eJ A_131 Z_131 (Ht rfl) (i:=0) rfl rfl rfl) (dp 1 rfl (eJ A_131 Z_131 (Ht rfl) (i:=0) rfl rfl rfl) ?_)))))))))
 refine dq 4 1 rfl (cZ Tryz.call173 Fj ⟨(Ht rfl),trivial⟩) (fV aO rfl (by kernel_rfl) (aJ (aJ (aJ (aV (ro rfl (cZ K_146 (oM zo) ⟨(Ht rfl),(Ht rfl),trivial⟩) (gQ Z_131 (Ht rfl) (Ht rfl) rfl (i:=1) rfl (aK rfl) rfl rfl (eX (fW rfl (fX (fK A_131 Z_131 rfl (i:=1) rfl rfl) ?_))))))))))
 exact (Cu (Qi.mul_conj x))
theorem Nf {x:Qi}:bB Tryz.prog 239 [QT x] (bD .i64 (mR x.a 0)):=by
 refine bB.intro Tryz.func239 rfl Tryz.ntmps239 rfl (fun cx=>(ts (rn rfl (fG (Ht rfl)) fun B1=>(ro rfl (cQ (cJ 0)) (eX (cK (ts (ro rfl (eZ gP (Ht rfl) rfl) (ro rfl (eZ jA (Ht rfl) rfl) (ro rfl (eY A_4 Z_4 (Ht rfl) (i:=0) rfl rfl) (eX (dQ (Ht rfl) (fun hb=>?_) (fun hb=>?_)))))))))))))
 ·simp only [decide_eq_true_eq] at hb
  refine ts (ro rfl (cQ cV) (eX (fW rfl (fX (eU rfl) ?_))))
  exact (aR (by rw [mR,if_pos hb]))
 ·simp only [decide_eq_false_iff_not] at hb
  refine cU (cK (ts (ro rfl (eZ gP (Ht rfl) rfl) (ro rfl (eZ eL (Ht rfl) rfl) (ro rfl (eY A_46 Z_46 (Ht rfl) (i:=0) rfl rfl) (ro rfl (dG U_46 (Ht rfl) aA) (ro rfl (eC (Ht rfl) (cJ 0)) (eX (dQ (Ht rfl) (fun hc=>?_) (fun hc=>?_))))))))))
  ·simp only [decide_eq_true_eq] at hc
   have h0:x.a ≠ 0:=fun e=>by rw [e] at hc; simp [eI] at hc
   refine ts (ro rfl (cQ (cJ 1)) (eX (fW rfl (fX (eU rfl) ?_))))
   exact (aR (by rw [mR,if_neg hb,if_pos zo]; rfl))
  ·simp only [decide_eq_false_iff_not] at hc
   have h0:x.a = 0:=by have:=aM.1 (Nat.eq_zero_of_not_pos hc); omega
   refine cU (ts (ro rfl (cQ (cJ 0)) (eX (fW rfl (fX (eU rfl) ?_)))))
   exact (aR (by rw [mR,if_neg hb,if_neg zo]; rfl))
theorem Zo {x:Qi} {L:Nat} [hx:aD x L] (h:L ≤ 17592186044415):bB Tryz.prog 242 [QT x] (bD .i64 (mR x.b 0)):=by
 refine bB.intro Tryz.func242 rfl Tryz.ntmps242 rfl (fun cx=>(ts (rn rfl (fG (Ht rfl)) fun B1=>(ro rfl (cQ (cJ 0)) (eX (ts (ro rfl (eJ A_131 Z_131 (Ht rfl) (i:=0) rfl rfl rfl) (ro rfl (cZ Tryz.call274 (a3s zo) ⟨(Ht rfl),trivial⟩) (ro rfl (cZ Tryz.call239 Nf ⟨(Ht rfl),trivial⟩) (ra rfl (eX (fW rfl (fX (eU rfl) ?_)))))))))))))
 exact (aR (a11 x))
theorem yV {x y:Qi} {L M:Nat} [hx:aD x L] [hy:aD y M] (h:L + 3 * M + 2 ≤ 17592186044415):bB Tryz.prog 144 [QT x,QT y] (fH [QT (x / y),bD .i64 (if y = Qi.zero then 3 else 0)]):=by
 have hxa:=jI hx.fit; have hxb:=jR hx.fit; have hxd:=jJ hx.fit
 have hya:=jI hy.fit; have hyb:=jR hy.fit; have hyd:=jJ hy.fit
 have hxp:=x.den_pos; have hyp:=y.den_pos; have hdp:=Nat.mul_pos hxp hyp
 refine bB.intro Tryz.func144 rfl Tryz.ntmps144 rfl (fun cx=>(ts (rn rfl (fG (Ht rfl)) fun B2=>(rn rfl (fG (Ht rfl)) fun B3=>(rn rfl (eW (Ts:=[Is (.bool false),Is (.slice none 0 0),Is (.bool false),Is (.slice none 0 0),Is (.slice none 0 0)]) O_131 rfl (fun V=>aW zd (aW zd (aW zd (aW zd (aW zd (aG))))))) fun B4=>(ro rfl (cQ (cJ 0)) (eX (cK (ts (ro rfl (eJ A_131 Z_131 (Ht rfl) (i:=1) rfl rfl rfl) ?_))))))))))
 refine ro rfl (cZ Tryz.call166 Nh ⟨(Ht rfl),trivial⟩) (eX (dQ (Ht rfl) (fun hb=>?_) (fun hb=>?_)))
 ·simp only [decide_eq_true_eq] at hb
  refine ts (ro rfl (cZ K_148 (oN (by decide) (by decide)) ⟨(cJ 0),trivial⟩) (gQ Z_131 (Ht rfl) (Ht rfl) rfl (i:=2) rfl (aK rfl) rfl rfl (ro rfl (cQ (cJ 3)) (eX (bM rfl (fX (fK A_131 Z_131 rfl (i:=2) rfl rfl) ?_) (fX (eU rfl) ?_))))))
  ·exact (Cu (by rw [hb,Qi.div_zero]; rfl))
  ·exact (aR (by rw [if_pos hb]; rfl))
 ·simp only [decide_eq_false_iff_not] at hb
  obtain ⟨n,hn⟩:∃ n,n = y.norm:=⟨_,rfl⟩
  obtain ⟨z,hz⟩:∃ z,z = x * y.conj:=⟨_,rfl⟩
  haveI fn:aD n (M + M + 1):=hn ▸ fitNorm
  haveI fz:aD z (L + M + 1):=hz ▸ fitMul
  have hna:=jI fn.fit; have hnd:=jJ fn.fit; have hza:=jI fz.fit; have hzb:=jR fz.fit; have hzd:=jJ fz.fit
  have hnp:0 < n.a:=hn ▸ Qi.norm_pos hb
  have hm:((n.a.natAbs:Nat):Int) = n.a:=Int.natAbs_of_nonneg zo
  have hdp2:=Nat.mul_pos z.den_pos (show 0 < n.a.natAbs by omega)
  have n1:(dg ((n.den:Nat):Int).natAbs).length ≤ M + M + 1:=by rw [Int.natAbs_natCast]; exact hnd
  have e1:=dR z.a n.den; have e2:=dR z.b n.den; have e3:=sE z.den n.a.natAbs
  refine cU (ts (ro rfl (eJ A_131 Z_131 (Ht rfl) (i:=1) rfl rfl rfl) (ro rfl (aL.imp (cZ Tryz.call223 (Zn zo) ⟨(Ht rfl),trivial⟩) (Cu hn.symm)) (rn rfl (eW (Ts:=[Is (.bool false),Is (.slice none 0 0),Is (.bool false),Is (.slice none 0 0),Is (.slice none 0 0)]) O_131 rfl (fun V=>aW zd (aW zd (aW zd (aW zd (aW zd (aG))))))) fun B6=>(gQ Z_131 (Ht rfl) (Ht rfl) rfl (i:=3) rfl (aK rfl) rfl rfl ?_)))))
  refine eX (cK (fZ (m:=5) (dp 2 rfl (eJ A_131 Z_131 (Ht rfl) (i:=0) rfl rfl rfl) (dp 3 rfl (eJ A_131 Z_131 (Ht rfl) (i:=1) rfl rfl rfl) (dq 15 1 rfl (cZ Tryz.call173 Fj ⟨(Ht rfl),trivial⟩) (cP 14 0 16 2 rfl (aL.imp (cZ K_146 (oM zo) ⟨(Ht rfl),(Ht rfl),trivial⟩) (Cu hz.symm)) (C.D_new (Ei:=[]) rfl rfl rfl bW (eW (Ts:=[Is (.bool false),Is (.slice none 0 0),Is (.bool false),Is (.slice none 0 0),Is (.slice none 0 0)]) O_131 rfl (fun V=>aW zd (aW zd (aW zd (aW zd (aW zd (aG))))))) ?_)))))))
  refine fV aO rfl (by kernel_rfl) (zF (C.F_new (fun B7=>aV (gQ Z_131 (Ht rfl) (Ht rfl) rfl (i:=4) rfl (aK rfl) rfl rfl (eX (ts (ro rfl (eZ gR (Ht rfl) rfl) (ro rfl (eY A_46 Z_46 (Ht rfl) (i:=3) rfl rfl) (ro rfl (aL.imp (lV cV (Ht rfl)) xS) (rn rfl (eW (Ts:=[Is (.bool false),Is (.slice none 0 0)]) O_129 rfl (fun V=>aW zd (aW zd (aG)))) fun B8=>(gQ Z_129 (Ht rfl) (Ht rfl) rfl (i:=5) rfl (aK rfl) rfl rfl ?_)))))))))))
  refine eX (cK (fZ (m:=13) (dp 7 rfl (eZ gP (Ht rfl) rfl) (dq 21 0 rfl (eJ A_129 Z_129 (Ht rfl) (i:=4) rfl rfl rfl) (dp 8 rfl (eJ A_129 Z_129 (Ht rfl) (i:=5) rfl rfl rfl) (cP 22 1 23 2 rfl (cZ K_225 (jZ zo zo) ⟨(Ht rfl),(Ht rfl),trivial⟩) (dp 7 rfl (eZ iD (Ht rfl) rfl) (dq 25 4 rfl (eJ A_129 Z_129 (Ht rfl) (i:=4) rfl rfl rfl) (dp 8 rfl (eJ A_129 Z_129 (Ht rfl) (i:=5) rfl rfl rfl) (cP 26 5 27 6 rfl (cZ K_225 (jZ zo zo) ⟨(Ht rfl),(Ht rfl),trivial⟩) ?_))))))))))
  refine dp 7 rfl (eZ gR (Ht rfl) rfl) (dq 29 8 rfl (eY A_46 Z_46 (Ht rfl) (i:=4) rfl rfl) (dp 6 rfl (eZ gP (Ht rfl) rfl) (dq 31 10 rfl (eZ eL (Ht rfl) rfl) (dq 32 11 rfl (eY A_46 Z_46 (Ht rfl) (i:=3) rfl rfl) (fV aO rfl (by kernel_rfl) (zF (zF (zF (aJ (aV (ro rfl (cZ Tryz.call226 (tU zo zo) ⟨(Ht rfl),(Ht rfl),trivial⟩) (ro rfl (cZ Tryz.call224 (vY (by first | assumption | omega) zo zo zo) ⟨(Ht rfl),(Ht rfl),(Ht rfl),trivial⟩) ?_))))))))))))
  refine gQ Z_131 (Ht rfl) (Ht rfl) rfl (i:=2) rfl (aK rfl) rfl rfl (ro rfl (cQ (cJ 0)) (eX (bM rfl (fX (fK A_131 Z_131 rfl (i:=2) rfl rfl) ?_) (fX (eU rfl) ?_))))
  ·exact (Cu (Qi.mk_divR x hb hz hn hm))
  ·exact (aR (by rw [if_neg hb]; rfl))
theorem Gw {x y:Qi} {L M:Nat} [hx:aD x L] [hy:aD y M] (h:L + 3 * M + 2 ≤ 17592186044415):bB Tryz.prog 40 [aN x,aN y] (fH [aN (x / y),bD .i64 (if y = Qi.zero then 3 else 0)]):=by
 have hxa:=jI hx.fit; have hxb:=jR hx.fit; have hxd:=jJ hx.fit
 have hya:=jI hy.fit; have hyb:=jR hy.fit; have hyd:=jJ hy.fit
 have hxp:=x.den_pos; have hyp:=y.den_pos; have hMp:=hy.pos
 refine bB.intro Tryz.func40 rfl Tryz.ntmps40 rfl (fun cx=>(ts (rn rfl (fG (Ht rfl)) fun B2=>(rn rfl (fG (Ht rfl)) fun B3=>(rn rfl (eW (Ts:=[Is (.bool false),Is (.slice none 0 0),Is (.bool false),Is (.slice none 0 0),Is (.slice none 0 0)]) O_51 rfl (fun V=>aW zd (aW zd (aW zd (aW zd (aW zd (aG))))))) fun B4=>(ro rfl (cQ (cJ 0)) (eX (cK (ts (ro rfl (eJ A_51 Z_51 (Ht rfl) (i:=1) rfl rfl rfl) ?_))))))))))
 refine ro rfl (cZ Tryz.call27 (Mz zo) ⟨(Ht rfl),trivial⟩) (ro rfl (eT (Ht rfl)) (eX (dQ (Ht rfl) (fun hb=>?_) (fun hb=>?_))))
 ·have h0 : y = Qi.zero := by simpa using hb
  refine ts (ro rfl (aL.imp (Fa ) nK) (gQ Z_51 (Ht rfl) (Ht rfl) rfl (i:=2) rfl (aK rfl) rfl rfl (ro rfl (cQ (cJ 3)) (eX (bM rfl (fX (fK A_51 Z_51 rfl (i:=2) rfl rfl) ?_) (fX (eU rfl) ?_))))))
  ·exact (lS (by rw [h0,Qi.div_zero]))
  ·exact (aR (by rw [if_pos h0]; rfl))
 ·have h0 : y ≠ Qi.zero := by simpa using hb
  have g1:=kB y.a y.a; have g2:=kB y.b y.b; have g3:=rC y.b
  have g4:=kA (x:=y.a * y.a) (y:=y.b * y.b) (L:=M + M) zo zo
  obtain ⟨c,hc⟩:∃ c,c = Qi.mk' y.a (-y.b) 1:=⟨_,rfl⟩
  obtain ⟨z,hz⟩:∃ z,z = x * c:=⟨_,rfl⟩
  have l1:(dg 1).length ≤ 1:=by rw [Ut (by decide) (by decide)]; exact Nat.le_refl _
  haveI fc:aD c M:=hc ▸ ⟨Qi.Fit.mk (by decide) hy.fit.1 (by rw [Int.natAbs_neg]; exact hy.fit.2.1) (Qi.one_lt hMp)⟩
  haveI fz:aD z (L + M + 1):=hz ▸ fitMul
  have hza:=jI fz.fit; have hzb:=jR fz.fit; have hzd:=jJ fz.fit
  have hnp:=Qi.nrm_int_pos h0
  have hm:(((y.a * y.a + y.b * y.b).natAbs:Nat):Int) = y.a * y.a + y.b * y.b:=Int.natAbs_of_nonneg zo
  have hdp2:=Nat.mul_pos z.den_pos (show 0 < (y.a * y.a + y.b * y.b).natAbs by omega)
  have e1:=dR z.a y.den; have e2:=dR z.b y.den; have e3:=sE z.den (y.a * y.a + y.b * y.b).natAbs
  refine cU (cK (fZ (m:=12) (dp 3 rfl (eZ gG (Ht rfl) rfl) (dq 12 0 rfl (eJ A_49 Z_49 (Ht rfl) (i:=1) rfl rfl rfl) (dp 3 rfl (eZ gG (Ht rfl) rfl) (dq 14 2 rfl (eJ A_49 Z_49 (Ht rfl) (i:=1) rfl rfl rfl) (cP 13 1 15 3 rfl (cZ K_132 (tW zo zo) ⟨(Ht rfl),(Ht rfl),trivial⟩) (dp 3 rfl (eZ gW (Ht rfl) rfl) (dq 17 5 rfl (eJ A_49 Z_49 (Ht rfl) (i:=1) rfl rfl rfl) (dp 3 rfl (eZ gW (Ht rfl) rfl) (dq 19 7 rfl (eJ A_49 Z_49 (Ht rfl) (i:=1) rfl rfl rfl) ?_)))))))))))
  refine cP 18 6 20 8 rfl (cZ K_132 (tW zo zo) ⟨(Ht rfl),(Ht rfl),trivial⟩) (cP 16 4 21 9 rfl (cZ K_133 (xJ zo zo) ⟨(Ht rfl),(Ht rfl),trivial⟩) (C.D_new (Ei:=[]) rfl rfl rfl bW (eW (Ts:=[Is (.bool false),Is (.slice none 0 0)]) O_49 rfl (fun V=>aW zd (aW zd (aG)))) (fV aO rfl (by kernel_rfl) (zF (zF (aJ (aJ (aJ (C.F_new (fun B6=>aV (gQ Z_49 (Ht rfl) (Ht rfl) rfl (i:=3) rfl (aK rfl) rfl rfl ?_)))))))))))
  refine eX (cK (fZ (m:=10) (dp 2 rfl (eJ A_51 Z_51 (Ht rfl) (i:=0) rfl rfl rfl) (dp 3 rfl (eZ gG (Ht rfl) rfl) (dq 24 1 rfl (eJ A_49 Z_49 (Ht rfl) (i:=1) rfl rfl rfl) (dp 3 rfl (eZ gW (Ht rfl) rfl) (dq 26 3 rfl (eJ A_49 Z_49 (Ht rfl) (i:=1) rfl rfl rfl) (dq 27 4 rfl (cZ K_135 pH ⟨(Ht rfl),trivial⟩) (d0 rfl (aL.imp (dN (xs:=[_]) U_47 Z_189 O_189 (cW (cJ 1) cG) rfl rfl rfl) Bn) (C.D_step (Ei:=[(25,_),(28,_),(29,_)]) rfl rfl (bV (bG 2 rfl rfl) (bV (bG 5 rfl rfl) (bV (bG 6 rfl rfl) bW))) (dX rfl (aL.imp (cZ K_134 (xI (by first | assumption | omega) zo zo zo) ⟨(Ht rfl),(Ht rfl),(Ht rfl),trivial⟩) (lS hc.symm))) ?_))))))))))
  refine cP 23 0 30 7 rfl (aL.imp (cZ K_45 (nH zo) ⟨(Ht rfl),(Ht rfl),trivial⟩) (lS hz.symm)) (C.D_new (Ei:=[]) rfl rfl rfl bW (eW (Ts:=[Is (.bool false),Is (.slice none 0 0),Is (.bool false),Is (.slice none 0 0),Is (.slice none 0 0)]) O_51 rfl (fun V=>aW zd (aW zd (aW zd (aW zd (aW zd (aG))))))) (fV aO rfl (by kernel_rfl) (zF (zF (aJ (C.F_new (fun B7=>aV ?_)))))))
  refine gQ Z_51 (Ht rfl) (Ht rfl) rfl (i:=4) rfl (aK rfl) rfl rfl (eX (cK (fZ (m:=14) (dp 7 rfl (eZ gG (Ht rfl) rfl) (dq 32 0 rfl (eJ A_49 Z_49 (Ht rfl) (i:=4) rfl rfl rfl) (dp 3 rfl (eJ A_51 Z_51 (Ht rfl) (i:=1) rfl rfl rfl) (dq 34 2 rfl (cZ K_137 pG ⟨(Ht rfl),trivial⟩) (cP 33 1 35 3 rfl (cZ K_136 (lL zo zo) ⟨(Ht rfl),(Ht rfl),trivial⟩) (dp 7 rfl (eZ gW (Ht rfl) rfl) (dq 37 5 rfl (eJ A_49 Z_49 (Ht rfl) (i:=4) rfl rfl rfl) ?_))))))))))
  refine dp 3 rfl (eJ A_51 Z_51 (Ht rfl) (i:=1) rfl rfl rfl) (dq 39 7 rfl (cZ K_137 pG ⟨(Ht rfl),trivial⟩) (cP 38 6 40 8 rfl (cZ K_136 (lL zo zo) ⟨(Ht rfl),(Ht rfl),trivial⟩) (dp 7 rfl (eJ A_51 Z_51 (Ht rfl) (i:=4) rfl rfl rfl) (dq 42 10 rfl (cZ K_137 pG ⟨(Ht rfl),trivial⟩) (dp 6 rfl (eZ fL (Ht rfl) rfl) (dq 44 12 rfl (eY A_47 Z_47 (Ht rfl) (i:=3) rfl rfl) (fV aO rfl (by kernel_rfl) (zF (zF (zF (aJ (aJ (aV ?_)))))))))))))
  refine ro rfl (cZ Tryz.call138 (Gz zo zo) ⟨(Ht rfl),(Ht rfl),trivial⟩) (ro rfl (cZ K_134 (xI (by first | assumption | omega) zo zo zo) ⟨(Ht rfl),(Ht rfl),(Ht rfl),trivial⟩) (gQ Z_51 (Ht rfl) (Ht rfl) rfl (i:=2) rfl (aK rfl) rfl rfl (ro rfl (cQ (cJ 0)) (eX (bM rfl (fX (fK A_51 Z_51 rfl (i:=2) rfl rfl) ?_) (fX (eU rfl) ?_))))))
  ·exact (lS (Qi.mk_divP x h0 (hc ▸ hz) hm))
  ·exact (aR (by rw [if_neg h0]; rfl))
theorem tV {a:Int} {d:Nat} (hd:0 < d) (ha:(dg a.natAbs).length ≤ 8796093022208) (hd2:(dg d).length ≤ 8796093022208):bB Tryz.prog 243 [eD a,aE d] (pZ (tD a d)):=by
 have hg:=Aw ha hd2
 have hg0:Nat.gcd a.natAbs d ≠ 0:=fun e=>by have:=Nat.gcd_eq_zero_iff.1 e; omega
 have h1:=Fp a.natAbs (Nat.gcd a.natAbs d); have h2:=Fp d (Nat.gcd a.natAbs d)
 rw [a0M a hd]
 obtain ⟨u,hu⟩:∃ u,u = a.natAbs / Nat.gcd a.natAbs d:=⟨_,rfl⟩
 obtain ⟨v,hv⟩:∃ v,v = d / Nat.gcd a.natAbs d:=⟨_,rfl⟩
 rw [← hu,← hv]
 rw [← hu] at h1
 rw [← hv] at h2
 have h3:=rA u; have h4:=rA v
 refine bB.intro Tryz.func243 rfl Tryz.ntmps243 rfl (fun cx=>(ts (rn rfl (fG (Ht rfl)) fun B2=>(ro rfl (cQ (bF.cS (l:=[]) rfl)) (eX (ts (ro rfl (eZ eL (Ht rfl) rfl) (ro rfl (eY A_46 Z_46 (Ht rfl) (i:=0) rfl rfl) (rm rfl (ro rfl (cZ Tryz.call264 (Lc zo zo) ⟨(Ht rfl),(Ht rfl),trivial⟩) (ra rfl (eX (ts (ro rfl (eZ eL (Ht rfl) rfl) (ro rfl (eY A_46 Z_46 (Ht rfl) (i:=0) rfl rfl) (rm rfl (ro rfl (cZ K_265 (xK zo zo zo) ⟨(Ht rfl),(Ht rfl),trivial⟩) ?_)))))))))))))))))
 refine rm rfl (ro rfl (aL.imp (dK (Ht rfl) rfl) (dF hu.symm)) (ro rfl (dK (Ht rfl) rfl) (ra rfl (ra rfl (eX (ts (rm rfl (rm rfl (ro rfl (cZ K_265 (xK zo zo zo) ⟨(Ht rfl),(Ht rfl),trivial⟩) (rm rfl (ro rfl (aL.imp (dK (Ht rfl) rfl) (dF hv.symm)) (ro rfl (dK (Ht rfl) rfl) (ra rfl (ra rfl (eX (ts (rm rfl (ro rfl (cZ Tryz.call275 (Ng zo) ⟨(Ht rfl),trivial⟩) (ra rfl (eX (cK (jL (fun (uu:Unit)=>True) (fun (uu:Unit)=>[(8,aE v),(10,pZ (if a < 0 then 45 :: uS u else uS u))]) (fun (uu:Unit)=>[box B2 129 [aC (decide (a < 0)),aE (a).natAbs]]) ?_ (fun uu _=>?_)))))))))))))))))))))))
 ·refine ts (ro rfl (eZ jA (Ht rfl) rfl) (ro rfl (eY A_4 Z_4 (Ht rfl) (i := 0) rfl rfl) (eX (dQ (Ht rfl) (fun hb => ?_) (fun hb => ?_)))))
  ·simp only [decide_eq_true_eq] at hb
   refine cY (rm rfl (ro rfl (jW (bF.cS (l:=[45]) rfl) (Ht rfl) (by first | omega | (simp; omega))) (ra rfl (eX (bC () trivial (aQ rfl (aZ rfl (jE (by rw [if_pos hb]; rfl)) aX)) (cT.refl _))))))
  ·simp only [decide_eq_false_iff_not] at hb
   refine cU (bC () trivial (aQ rfl (aZ rfl (jE (by rw [if_neg hb])) aX)) (cT.refl _))
 ·have h6 : (if a < 0 then 45 :: uS u else uS u).length ≤ (uS u).length + 1 := by split <;> simp
  refine cK (ts (rm rfl (ro rfl (dG U_46 (Ht rfl) aA) (ro rfl (cR (Ht rfl) (cJ 1)) (rm rfl (fQ rfl rfl (eK rfl rfl (Ht rfl) (fun h=>cX (Ht rfl))) (fQ rfl rfl (eK rfl rfl (Ht rfl) (fun h=>dZ U_46 Z_189 (fJ rfl h) (cJ 0) rfl (dY (aF (by first | omega | (simp at h; omega)))))) (fQ rfl rfl (eK rfl rfl (Ht rfl) (fun h=>dJ A_189 Z_189 (fJ rfl h))) (fQ rfl rfl (eK rfl rfl (Ht rfl) (fun h=>cR (fJ rfl h) (cJ 1))) (ro rfl (fE (Ht rfl) (fun h=>(fJ rfl h))) ?_))))))))))
  refine eX (dQ (Ht rfl) (fun hc=>?_) (fun hc=>?_))
  ·rw [Gc] at hc
   have hv1:v = 1:=by simpa using hc
   refine ts (rm rfl (ra rfl (eX (fW rfl (fX (eU rfl) ?_)))))
   exact (jE (by rw [if_pos hv1,List.append_nil]))
  ·rw [Gc] at hc
   have hv1:v ≠ 1:=by simpa using hc
   refine cU (ts (rm rfl (ro rfl (jW (Ht rfl) (bF.cS (l:=[47]) rfl) (by simp only [List.length_cons,List.length_nil]; omega)) ?_)))
   refine rm rfl (ro rfl (cZ Tryz.call275 (Ng zo) ⟨(Ht rfl),trivial⟩) (ro rfl (jW (Ht rfl) (Ht rfl) (by simp only [List.length_append,List.length_cons,List.length_nil]; omega)) ?_))
   refine ra rfl (eX (fW rfl (fX (eU rfl) ?_)))
   exact (jE (by rw [if_neg hv1,List.append_assoc]; rfl))
theorem a28 {x:Qi} {L:Nat} [hx:aD x L] (h:L ≤ 8796093022208):bB Tryz.prog 181 [QT x] (pZ (Rw x)):=by
 have hxa:=jI hx.fit; have hxb:=jR hx.fit; have hxd:=jJ hx.fit
 have hdp:=x.den_pos
 have l1:=wQ x.a hdp; have l2:=wQ x.b hdp
 refine bB.intro Tryz.func181 rfl Tryz.ntmps181 rfl (fun cx=>(ts (rn rfl (fG (Ht rfl)) fun B1=>(ro rfl (cQ (bF.cS (l:=[]) rfl)) (eX (cK (ts (ro rfl (eZ iD (Ht rfl) rfl) (ro rfl (eZ eL (Ht rfl) rfl) (ro rfl (eY A_46 Z_46 (Ht rfl) (i:=0) rfl rfl) (ro rfl (dG U_46 (Ht rfl) aA) (ro rfl (cR (Ht rfl) (cJ 0)) (eX (dQ (Ht rfl) (fun hb=>?_) (fun hb=>?_)))))))))))))))
 ·simp only [decide_eq_true_eq] at hb
  have h0:x.b = 0:=by have:=aM.1 hb; omega
  refine ts (ro rfl (eZ gP (Ht rfl) rfl) (ro rfl (eJ A_129 Z_129 (Ht rfl) (i:=0) rfl rfl rfl) (ro rfl (eZ gR (Ht rfl) rfl) (ro rfl (eY A_46 Z_46 (Ht rfl) (i:=0) rfl rfl) (ro rfl (cZ K_243 (tV (by assumption) zo zo) ⟨(Ht rfl),(Ht rfl),trivial⟩) ?_)))))
  refine ra rfl (eX (fW rfl (fX (eU rfl) ?_)))
  exact (jE (by rw [Rw,if_pos h0]))
 ·simp only [decide_eq_false_iff_not] at hb
  have h0:x.b ≠ 0:=fun e=>hb (by rw [e]; exact aM.2 rfl)
  refine cU (cK (ts (ro rfl (eZ gP (Ht rfl) rfl) (ro rfl (eZ eL (Ht rfl) rfl) (ro rfl (eY A_46 Z_46 (Ht rfl) (i:=0) rfl rfl) (ro rfl (dG U_46 (Ht rfl) aA) (ro rfl (cR (Ht rfl) (cJ 0)) (eX (dQ (Ht rfl) (fun hc=>?_) (fun hc=>?_))))))))))
  ·simp only [decide_eq_true_eq] at hc
   have h1:x.a = 0:=by have:=aM.1 hc; omega
   refine ts (ro rfl (eZ iD (Ht rfl) rfl) (ro rfl (eJ A_129 Z_129 (Ht rfl) (i:=0) rfl rfl rfl) (ro rfl (eZ gR (Ht rfl) rfl) (ro rfl (eY A_46 Z_46 (Ht rfl) (i:=0) rfl rfl) (ro rfl (cZ K_243 (tV (by assumption) zo zo) ⟨(Ht rfl),(Ht rfl),trivial⟩) ?_)))))
   refine ro rfl (jW (Ht rfl) (bF.cS (l:=[105]) rfl) (by first | omega | (simp only [List.length_append,List.length_cons,List.length_nil]; omega))) (ra rfl (eX (fW rfl (fX (eU rfl) ?_))))
   exact (jE (by rw [Rw,if_neg h0,if_pos h1]))
  ·simp only [decide_eq_false_iff_not] at hc
   have h1:x.a ≠ 0:=fun e=>hc (by rw [e]; exact aM.2 rfl)
   refine cU (cK (ts (ro rfl (eZ iD (Ht rfl) rfl) (ro rfl (eZ jA (Ht rfl) rfl) (ro rfl (eY A_4 Z_4 (Ht rfl) (i:=0) rfl rfl) (eX (dQ (Ht rfl) (fun hd=>?_) (fun hd=>?_))))))))
   ·simp only [decide_eq_true_eq] at hd
    refine cK (fZ (m:=9) (dp 1 rfl (eZ gP (Ht rfl) rfl) (dq 27 0 rfl (eJ A_129 Z_129 (Ht rfl) (i:=0) rfl rfl rfl) (dp 1 rfl (eZ gR (Ht rfl) rfl) (dq 29 2 rfl (eY A_46 Z_46 (Ht rfl) (i:=0) rfl rfl) (cP 28 1 30 3 rfl (cZ K_243 (tV (by assumption) zo zo) ⟨(Ht rfl),(Ht rfl),trivial⟩) ?_))))))
    refine dp 1 rfl (eZ iD (Ht rfl) rfl) (dq 32 5 rfl (eJ A_129 Z_129 (Ht rfl) (i:=0) rfl rfl rfl) (dp 1 rfl (eZ gR (Ht rfl) rfl) (dq 34 7 rfl (eY A_46 Z_46 (Ht rfl) (i:=0) rfl rfl) (fV aO rfl (by kernel_rfl) (zF (zF (aJ (aV (ro rfl (cZ K_243 (tV (by assumption) zo zo) ⟨(Ht rfl),(Ht rfl),trivial⟩) ?_)))))))))
    refine ro rfl (jW (Ht rfl) (Ht rfl) (by first | omega | (simp only [List.length_append,List.length_cons,List.length_nil]; omega))) (ro rfl (jW (Ht rfl) (bF.cS (l:=[105]) rfl) (by first | omega | (simp only [List.length_append,List.length_cons,List.length_nil]; omega))) (ra rfl (eX (fW rfl (fX (eU rfl) ?_)))))
    exact (jE (by rw [Rw,if_neg h0,if_neg h1,if_pos hd,List.append_assoc]))
   ·simp only [decide_eq_false_iff_not] at hd
    refine cU (cK (fZ (m:=11) (dp 1 rfl (eZ gP (Ht rfl) rfl) (dq 39 0 rfl (eJ A_129 Z_129 (Ht rfl) (i:=0) rfl rfl rfl) (dp 1 rfl (eZ gR (Ht rfl) rfl) (dq 41 2 rfl (eY A_46 Z_46 (Ht rfl) (i:=0) rfl rfl) (cP 40 1 42 3 rfl (cZ K_243 (tV (by assumption) zo zo) ⟨(Ht rfl),(Ht rfl),trivial⟩) ?_)))))))
    refine dq 43 4 rfl (jW (Ht rfl) (bF.cS (l:=[43]) rfl) (by first | omega | (simp only [List.length_append,List.length_cons,List.length_nil]; omega))) (dp 1 rfl (eZ iD (Ht rfl) rfl) (dq 45 6 rfl (eJ A_129 Z_129 (Ht rfl) (i:=0) rfl rfl rfl) (dp 1 rfl (eZ gR (Ht rfl) rfl) (dq 47 8 rfl (eY A_46 Z_46 (Ht rfl) (i:=0) rfl rfl) (cP 46 7 48 9 rfl (cZ K_243 (tV (by assumption) zo zo) ⟨(Ht rfl),(Ht rfl),trivial⟩) ?_)))))
    refine fV aO rfl (by kernel_rfl) (zF (zF (aJ (aJ (aJ (aV (ro rfl (jW (Ht rfl) (Ht rfl) (by first | omega | (simp only [List.length_append,List.length_cons,List.length_nil]; omega))) (ro rfl (jW (Ht rfl) (bF.cS (l:=[105]) rfl) (by first | omega | (simp only [List.length_append,List.length_cons,List.length_nil]; omega))) (ra rfl (eX (fW rfl (fX (eU rfl) ?_))))))))))))
    exact (jE (by rw [Rw,if_neg h0,if_neg h1,if_neg hd,List.append_assoc,List.append_assoc]; rfl))
theorem Ff {x y:Qi} {L M:Nat} [hx:aD x L] [hy:aD y M] (h:L ≤ 8796093022208) (h2:M ≤ 8796093022208):bB Tryz.prog 80 [aN x,QT y] (aC (decide (Rw x = Rw y))):=by
 refine bB.intro Tryz.func80 rfl Tryz.ntmps80 rfl (fun cx=>(ts (rn rfl (fG (Ht rfl)) fun B2=>(rn rfl (fG (Ht rfl)) fun B3=>(ro rfl (cQ cV) (eX (cK (fZ (m:=3) (dp 2 rfl (eJ A_51 Z_51 (Ht rfl) (i:=0) rfl rfl rfl) (dq 5 0 rfl (cZ Tryz.call89 (Kt zo) ⟨(Ht rfl),trivial⟩) (dp 3 rfl (eJ A_131 Z_131 (Ht rfl) (i:=1) rfl rfl rfl) (fV aO rfl (by kernel_rfl) (aJ (aJ (aJ (aV (ro rfl (cZ Tryz.call181 (a28 zo) ⟨(Ht rfl),trivial⟩) (ro rfl (Lr (Ht rfl) (Ht rfl)) ?_))))))))))))))))))
 refine ra rfl (eX ?_)
 exact fW rfl (eU rfl)
end
section
open Go Go.RowKit
theorem nW:Tryz.prog.info? 29 = some Tryz.t29:=by kernel_rfl
end
section
open Go Go.RowKit
theorem Kq {γ:Type} {l:List γ} {T:γ → Ty} {p:γ → Bool} [sh:∀ x,dO (T x) 5 true] (hl:l.length ≤ 1000000):bB Tryz.prog 233 [mM 5 (l.map T),Cw Tryz.prog γ (fun x=>[T x]) (fun x=>aC (p x))] (bD .i64 (Ik p l)):=by
 refine bB.intro Tryz.func233 rfl Tryz.ntmps233 rfl (fun cx=>(ts (ro rfl (cQ (cJ 0)) (eX (cK (ts (rm rfl (ro rfl (dG U_29 (Ht rfl) aA) (ro rfl (cX (cJ 0)) (eX (eG ?_)))))))))))
 refine bS (fun (k : Nat) => k ≤ l.length ∧ ∀ (i : Nat) (x : γ), i < k → l[i]? = some x → p x = false) (fun (k : Nat) => l.length - k) (fun (k : Nat) => [(0, mM 5 (l.map T)), (1, Cw Tryz.prog γ (fun x => [T x]) (fun x => aC (p x))), (7, NT .i64 l.length), (8, NT .i64 k)]) (fun (k : Nat) => []) 0 ⟨Nat.zero_le _, fun i x h => by omega⟩
  (zS rfl) aY (fun k ⟨hk,hn⟩=>?_)
 refine ts (ro rfl (gX (Ht rfl) (Ht rfl)) (eX (cK (dQ (Ht rfl) (fun hb=>?_) (fun hb=>?_)))))
 ·simp only [decide_eq_true_eq] at hb
  refine cU (cK (eG (ts (rm rfl (ra rfl (eX (ts (rm rfl (rm rfl (rm rfl (ro rfl (dZ U_29 Z_51 (Ht rfl) (Ht rfl) rfl (dY (nV hb))) (ro rfl (dJ A_51 Z_51 (Ht rfl)) (ro rfl (oW (l[k]) (Ht rfl) ⟨(Ht rfl),trivial⟩) (eX (dQ (Ht rfl) (fun hc=>?_) (fun hc=>?_))))))))))))))))
  ·have hp : p l[k] = true := hc
   refine ts (rm rfl (ra rfl (eX (fW rfl (fX (eU rfl) ?_)))))
   exact (aR (Nw (nV hb) hp hn).symm)
  ·have hp : p l[k] = false := hc
   refine cU (bA (cY (ro rfl (dV (Ht rfl) (cJ 1) z6) (rm rfl (eX ?_)))))
   refine fU (k + 1) ⟨hb, fun i x h1 h2 => by
    by_cases e:i = k
    ·subst e; rw [nV hb] at h2; obtain rfl:=Option.some.inj h2; exact hp
    ·exact hn i x zo h2⟩ zo (zS rfl) aY
 ·simp only [decide_eq_false_iff_not] at hb
  refine gV rfl (ts (ro rfl (cQ cV) (eX (fW rfl (fX (eU rfl) ?_)))))
  exact (aR (Dx (fun i x h=>hn i x (by have:=(List.getElem?_eq_some_iff.1 h).1; omega) h)).symm)
theorem Cp {γ:Type} {l:List γ} {T:γ → Ty} {p:γ → Bool} [sh:∀ x,dO (T x) 5 true] (hl:l.length ≤ 1000000):bB Tryz.prog 162 [mM 5 (l.map T),Cw Tryz.prog γ (fun x=>[T x]) (fun x=>aC (p x))] (aC (l.any p)):=by
 refine bB.intro Tryz.func162 rfl Tryz.ntmps162 rfl (fun cx=>(ts (ro rfl (cQ cV) (eX (ts (rm rfl (rm rfl (ro rfl (cZ Tryz.call233 (Kq zo) ⟨(Ht rfl),(Ht rfl),trivial⟩) (ro rfl (lT (Ht rfl) cV) (ra rfl (eX (fW rfl (fX (eU rfl) ?_)))))))))))))
 exact (dM (Il p l))
theorem Kr {γ:Type} {l:List γ} {T:γ → Ty} {p:γ → Bool} [sh:∀ x,dO (T x) 1 false] (hl:l.length ≤ 1000000):bB Tryz.prog 231 [mM 1 (l.map T),Cw Tryz.prog γ (fun x=>[T x]) (fun x=>aC (p x))] (bD .i64 (Ik p l)):=by
 refine bB.intro Tryz.func231 rfl Tryz.ntmps231 rfl (fun cx=>(ts (ro rfl (cQ (cJ 0)) (eX (cK (ts (rm rfl (ro rfl (dG U_30 (Ht rfl) aA) (ro rfl (cX (cJ 0)) (eX (eG ?_)))))))))))
 refine bS (fun (k : Nat) => k ≤ l.length ∧ ∀ (i : Nat) (x : γ), i < k → l[i]? = some x → p x = false) (fun (k : Nat) => l.length - k) (fun (k : Nat) => [(0, mM 1 (l.map T)), (1, Cw Tryz.prog γ (fun x => [T x]) (fun x => aC (p x))), (7, NT .i64 l.length), (8, NT .i64 k)]) (fun (k : Nat) => []) 0 ⟨Nat.zero_le _, fun i x h => by omega⟩
  (zS rfl) aY (fun k ⟨hk,hn⟩=>?_)
 refine ts (ro rfl (gX (Ht rfl) (Ht rfl)) (eX (cK (dQ (Ht rfl) (fun hb=>?_) (fun hb=>?_)))))
 ·simp only [decide_eq_true_eq] at hb
  refine cU (cK (eG (ts (rm rfl (ra rfl (eX (ts (rm rfl (rm rfl (rm rfl (ro rfl (dZ U_30 Z_29 (Ht rfl) (Ht rfl) rfl (dY (nV hb))) (ro rfl (dJ A_29 Z_29 (Ht rfl)) (ro rfl (oW (l[k]) (Ht rfl) ⟨(Ht rfl),trivial⟩) (eX (dQ (Ht rfl) (fun hc=>?_) (fun hc=>?_))))))))))))))))
  ·have hp : p l[k] = true := hc
   refine ts (rm rfl (ra rfl (eX (fW rfl (fX (eU rfl) ?_)))))
   exact (aR (Nw (nV hb) hp hn).symm)
  ·have hp : p l[k] = false := hc
   refine cU (bA (cY (ro rfl (dV (Ht rfl) (cJ 1) z6) (rm rfl (eX ?_)))))
   refine fU (k + 1) ⟨hb, fun i x h1 h2 => by
    by_cases e:i = k
    ·subst e; rw [nV hb] at h2; obtain rfl:=Option.some.inj h2; exact hp
    ·exact hn i x zo h2⟩ zo (zS rfl) aY
 ·simp only [decide_eq_false_iff_not] at hb
  refine gV rfl (ts (ro rfl (cQ cV) (eX (fW rfl (fX (eU rfl) ?_)))))
  exact (aR (Dx (fun i x h=>hn i x (by have:=(List.getElem?_eq_some_iff.1 h).1; omega) h)).symm)
theorem uQ {γ:Type} {l:List γ} {T:γ → Ty} {p:γ → Bool} [sh:∀ x,dO (T x) 1 false] (hl:l.length ≤ 1000000):bB Tryz.prog 156 [mM 1 (l.map T),Cw Tryz.prog γ (fun x=>[T x]) (fun x=>aC (p x))] (aC (l.any p)):=by
 refine bB.intro Tryz.func156 rfl Tryz.ntmps156 rfl (fun cx=>(ts (ro rfl (cQ cV) (eX (ts (rm rfl (rm rfl (ro rfl (cZ Tryz.call231 (Kr zo) ⟨(Ht rfl),(Ht rfl),trivial⟩) (ro rfl (lT (Ht rfl) cV) (ra rfl (eX (fW rfl (fX (eU rfl) ?_)))))))))))))
 exact (dM (Il p l))
theorem La {x:Qi} {L:Nat} [hx:aD x L] (h:L ≤ 8796093022208):bB Tryz.prog 247 [aN x] (aC (fP x)):=by
 haveI hz:aD Qi.zero 1:=aD.zero (Nat.le_refl 1)
 refine bB.intro Tryz.func247 rfl Tryz.ntmps247 rfl (fun cx=>(ts (rn rfl (fG (Ht rfl)) fun B1=>(ro rfl (cQ cV) (eX (ts (ro rfl (eJ A_51 Z_51 (Ht rfl) (i:=0) rfl rfl rfl) (ro rfl (cZ Tryz.call169 Fd ⟨(Ht rfl),trivial⟩) (rm rfl (fQ rfl rfl (eK rfl rfl (Ht rfl) (fun h=>eJ A_51 Z_51 (Ht rfl) (i:=0) rfl rfl rfl)) (fQ rfl rfl (eK rfl rfl (Ht rfl) (fun h=>aL.imp (Fa ) nK)) (fQ rfl rfl (eK rfl rfl (Ht rfl) (fun h=>cZ Tryz.call76 (Th zo) ⟨(fJ rfl h),(fJ rfl h),trivial⟩)) ?_))))))))))))
 refine fQ rfl rfl (eK rfl rfl (Ht rfl) (fun h=>Bo (fJ rfl h) cV)) (ro rfl (fE (Ht rfl) (fun h=>(fJ rfl h))) (ra rfl (eX (fW rfl (fX (eU rfl) ?_)))))
 exact (dM (Wx x))
theorem Fi {x:Qi} {L:Nat} [hx:aD x L] (h:L ≤ 8796093022208):bB Tryz.prog 246 [aN x] (aC (!fP x)):=by
 refine bB.intro Tryz.func246 rfl Tryz.ntmps246 rfl (fun cx=>(ts (rn rfl (fG (Ht rfl)) fun B1=>(ro rfl (cQ cV) (eX (ts (ro rfl (eJ A_51 Z_51 (Ht rfl) (i:=0) rfl rfl rfl) (ro rfl (cZ Tryz.call247 (La zo) ⟨(Ht rfl),trivial⟩) (ro rfl (eT (Ht rfl)) (ra rfl (eX ?_)))))))))))
 exact fW rfl (eU rfl)
theorem yG {z:List Qi} {L:Nat} (hz:bP z L) (h:L ≤ 8796093022208) (hl:z.length ≤ 1000):bB Tryz.prog 183 [bN z] (bD .i64 (if z.all fP then 0 else 1)):=by
 obtain ⟨l,hzl⟩:∃ l:List {x:Qi // aD x L},z = l.map Subtype.val:=⟨z.attach.map fun x=>⟨x.1,hz x.1 x.2⟩,by simp⟩
 subst hzl
 have hll:l.length ≤ 1000:=by simpa using hl
 refine bB.intro Tryz.func183 rfl Tryz.ntmps183 rfl (fun cx=>(oJ (E':=[(0,_)]) (aZ rfl (kF (Us:=l.map fun x=>aN x.1) (by simp [List.map_map,Function.comp_def])) aX) ?_))
 refine ts (ro rfl (cQ (cJ 0)) (eX (cK (ts (rm rfl (ro rfl (cZ Tryz.call162 (Cp (l:=l) (T:=fun x=>aN x.1) (p:=fun x=>!fP x.1) zo) ⟨(Ht rfl),(bF.fn Tryz.call246 (γ:={x:Qi // aD x L}) (Ts:=fun x=>[aN x.1]) (U:=fun x=>aC (!fP x.1)) (fun x=>haveI:=x.2; Fi h)),trivial⟩) (eX (dQ (Ht rfl) (fun hb=>?_) (fun hb=>?_)))))))))
 ·have hn : ¬ (l.map Subtype.val).all fP = true := by simp at hb ⊢; exact hb
  refine ts (ro rfl (cQ (cJ 1)) (eX (fW rfl (fX (eU rfl) ?_))))
  exact (aR (by rw [if_neg hn]; rfl))
 ·have hn : (l.map Subtype.val).all fP = true := by simp at hb ⊢; exact hb
  refine cU (ts (ro rfl (cQ (cJ 0)) (eX (fW rfl (fX (eU rfl) ?_)))))
  exact (aR (by rw [if_pos hn]; rfl))
theorem Gv {l:List Qi} (hl:l.length ≤ 1000):gF Tryz.prog 158 [bN l] [] (Value) (fun v=>Is v) (fun v=>[cD 51 5 v (l.map aN)]) (fun _=>True):=by
 refine gF.intro Tryz.func158 rfl Tryz.ntmps158 rfl (fun cx Z=>(ts (ro rfl (cQ cV) (eX (cK (ts (rm rfl (ro rfl (Wm U_29 (Ht rfl)) (eX (Yu (Ht rfl) (fun hb=>?_) (fun hb=>?_)))))))))))
 ·have hT : l.map aN = [] := hb rfl
  refine ts (ro rfl (cQ cV) (eX (Db 51 5 ?_)))
  exact jM (.slice none 0 0) trivial [0,1] ⟨⟨_,rfl,fun _ _ _ h=>h⟩,⟨_,rfl,(cA hT.symm)⟩,trivial⟩ (by decide) (vM rfl (eU rfl))
 ·refine cU (ts (rn rfl (yK U_29 Z_51 O_51) fun B5 => (rm rfl (Da (inf := Tryz.t51) nS lO rfl rfl rfl (Ht rfl) (Ht rfl) (i := 1) rfl (fun T hT => by obtain ⟨x, _, rfl⟩ := List.mem_map.1 hT; exact El.ag rfl) (by show _ * 88 ≤ _; simp only [List.length_map, List.length_nil]; omega) (by simp only [List.length_map, List.length_nil]; omega) rfl (fun v2 => ?_)))))
  refine ra rfl (eX ?_)
  exact jM v2 trivial [0,1] ⟨⟨_,rfl,fun _ _ _ h=>h⟩,⟨_,rfl,fun _ _ _ h=>h⟩,trivial⟩ (by decide) (vM rfl (eU rfl))
theorem Fb {l:List Qi} (hl:l.length ≤ 1000):bB Tryz.prog 158 [bN l] (bN l):=(Gv hl).fun fun v _=>kH
theorem Zi {n:Nat} {f:Nat → Nat → Qi} (hn:n ≤ 1000):gF Tryz.prog 114 [NT .i64 n,Cw Tryz.prog (Fin n × Fin n) (fun x=>[NT .i64 x.1.1,NT .i64 x.2.1]) (fun x=>aN (f x.1.1 x.2.1))] [] (Nat) (fun B=>Is (.slice (some ⟨B,0,none⟩) n n)) (fun B=>[oU B 29 51 5 (bL aN (tab n fun i=>tab n (f i)))]) (fun _=>True):=by
 refine gF.intro Tryz.func114 rfl Tryz.ntmps114 rfl (fun cx Z=>(ts (ro rfl (cQ cV) (eX (ts (rm rfl (rn rfl (eE (T:=Is (.slice none 0 0)) (i:=Tryz.t29) V_30 nW rfl rfl (Ht rfl) rfl (fun _=>rfl) trivial (by show 24 * _ ≤ _; omega) zo) fun B9=>(ra rfl (eX (cK (ts (rm rfl (ro rfl (hJ U_30 (Ht rfl)) (ro rfl (cX (cJ 0)) (eX (eG (nO 1 rfl (uD (e:=51) (s:=5)) ?_)))))))))))))))))
 refine gB (fun (k : Nat) (m : List (List Qi)) => lJ (fun i => tab n (f i)) n m k) (fun (k : Nat) (m : List (List Qi)) => n - k) (fun (k : Nat) (m : List (List Qi)) => [(0, NT .i64 n), (1, Cw Tryz.prog (Fin n × Fin n) (fun x => [NT .i64 x.1.1, NT .i64 x.2.1]) (fun x => aN (f x.1.1 x.2.1))), (5, Is (.slice (some ⟨B9, 0, none⟩) n n)), (11, NT .i64 n), (12, NT .i64 k)]) (fun (k : Nat) (m : List (List Qi)) => [Z, oU B9 29 51 5 (bL aN m)]) 0 (List.replicate n []) (lJ.start _ _ _)
  (zS rfl) (aU (fun _ _ _ h=>h) (aU (bE (mK aN n)) aY)) (fun k m hS=>?_)
 refine ts (ro rfl (gX (Ht rfl) (Ht rfl)) (eX (cK (dQ (Ht rfl) (fun hk=>?_) (fun hk=>?_)))))
 ·simp only [decide_eq_true_eq] at hk
  have hlen:=hS.len
  refine nT 1 (k) rfl (jP (m:=m) (i:=k) zo) (fun v=>(cU (cK (eG (ts (rm rfl (ra rfl (eX (ts (rm rfl (rm rfl (rm rfl (rn rfl (lY (T:=aN Qi.zero) (i:=Tryz.t51) nS lO rfl rfl (Ht rfl) rfl kT (El.ag rfl) (by show 88 * _ ≤ _; omega) zo) fun B18=>(ro rfl (fY U_30 Z_29 (Ht rfl) (Ht rfl) rfl zo (by rw [Nat.mul_one,Nat.zero_add])) ?_))))))))))))))
  refine rX Z_29 (Ht rfl) (Ht rfl) (by simp; omega) (j:=1) (l:=3) rfl rfl rfl ?_
  refine eX (cK (cH [0,1,3] rfl (by decide) (cY (rm rfl (rm rfl (ro rfl (fY U_30 Z_29 (Ht rfl) (Ht rfl) rfl zo (by rw [Nat.mul_one,Nat.zero_add])) ?_))))))
  refine ro rfl (gS A_29 Z_29 (Ht rfl) (j:=1) rfl) (ro rfl (rL U_29 (Ht rfl) (i:=2) rfl (show ((List.replicate n (aN Qi.zero)).length:Int) = ((n:Nat):Int) by simp)) (ro rfl (cX (cJ 0)) (eX (eG ?_))))
  refine gB (fun (j : Nat) (out : List Qi) => lJ (f k) n out j) (fun (j : Nat) (out : List Qi) => n - j) (fun (j : Nat) (out : List Qi) => [(0, NT .i64 n), (1, Cw Tryz.prog (Fin n × Fin n) (fun x => [NT .i64 x.1.1, NT .i64 x.2.1]) (fun x => aN (f x.1.1 x.2.1))), (5, Is (.slice (some ⟨B9, 0, none⟩) n n)), (6, NT .i64 k), (11, NT .i64 n), (12, NT .i64 k), (24, NT .i64 n), (25, NT .i64 j)]) (fun (j : Nat) (out : List Qi) => [Z, Li B9 29 51 5 (bL aN m) k B18, cD 51 5 B18 (out.map aN)]) 0 (List.replicate n Qi.zero) (lJ.start _ _ _)
   (zS rfl) (aU (fun _ _ _ h=>h) (aU (fun _ _ _ h=>h) (aU (cA (tG aN _ _)) aY))) (fun j out hT=>?_)
  refine ts (ro rfl (gX (Ht rfl) (Ht rfl)) (eX (cK (dQ (Ht rfl) (fun hj=>?_) (fun hj=>?_)))))
  ·simp only [decide_eq_true_eq] at hj
   have hlen2:=hT.len
   refine cU (cK (eG (ts (rm rfl (ra rfl (eX (fZ (m:=9) (dp 5 rfl (cX (Ht rfl)) (dp 6 rfl (cX (Ht rfl)) (cP 28 0 29 1 rfl (fY U_30 Z_29 (Ht rfl) (Ht rfl) rfl zo (by rw [Nat.mul_one,Nat.zero_add])) ?_))))))))))
   refine dq 30 2 rfl (gS A_29 Z_29 (Ht rfl) (j:=1) rfl) (dp 7 rfl (cX (Ht rfl)) (dp 1 rfl (cX (Ht rfl)) (dp 6 rfl (cX (Ht rfl)) (dp 7 rfl (cX (Ht rfl)) (C.D_step (Ei:=[(33,_),(34,_),(35,_)]) rfl rfl (bV (bG 5 rfl rfl) (bV (bG 6 rfl rfl) (bV (bG 7 rfl rfl) bW))) (dX rfl (oW ((⟨k,hk⟩,⟨j,hj⟩):Fin n × Fin n) (Ht rfl) ⟨(Ht rfl),(Ht rfl),trivial⟩)) (fV aO rfl (by kernel_rfl) (zF (zF (aJ (aV ?_))))))))))
   refine ro rfl (dB U_29 Z_51 (Ht rfl) (Ht rfl) rfl (i:=2) rfl (by first | omega | (simp; omega)) rfl) (kM Z_51 (Ht rfl) (Ht rfl) (El.ag rfl) (i:=2) rfl rfl (by first | omega | (simp; omega)) rfl (eX (bA (cY (ro rfl (dV (Ht rfl) (cJ 1) z6) (rm rfl (eX (fU (j + 1,_) (hT.next hj rfl) (by dsimp only; omega) (zS rfl) (aU (fun _ _ _ h=>h) (aU (fun _ _ _ h=>h) (aU (cA (fI aN _ _ _)) aY)))))))))))
  ·simp only [decide_eq_false_iff_not] at hj
   obtain rfl:j = n:=Nat.le_antisymm hT.kle zo
   have hfin:=hT.fin
   refine gV rfl (bA (dS 1 2 rfl rfl (by decide) (by simp; omega) ?_))
   refine cY (ro rfl (dV (Ht rfl) (cJ 1) z6) (rm rfl (eX (cH [0,1] rfl (by decide) (fU (k + 1,_) (hS.next hk hfin) (by dsimp only; omega) (zS rfl) (aU (fun _ _ _ h=>h) (aU (bE (eH aN _ _ _)) aY)))))))
 ·simp only [decide_eq_false_iff_not] at hk
  obtain rfl:k = n:=Nat.le_antisymm hS.kle zo
  have hfin:=hS.fin
  refine gV rfl (ts (rm rfl (ra rfl (eX ?_))))
  exact jM B9 trivial [0,1] ⟨⟨_,rfl,fun _ _ _ h=>h⟩,⟨_,rfl,(bE (by rw [hfin]))⟩,trivial⟩ (by decide) (vM rfl (eU rfl))
theorem To {n:Nat} {f:Nat → Nat → Qi} (hn:n ≤ 1000):bB Tryz.prog 114 [NT .i64 n,Cw Tryz.prog (Fin n × Fin n) (fun x=>[NT .i64 x.1.1,NT .i64 x.2.1]) (fun x=>aN (f x.1.1 x.2.1))] (cE (tab n fun i=>tab n (f i))):=(Zi hn).fun fun B _ v S V h1 h2=>kF (by simp [bL,List.map_map,Function.comp_def]) v V (Nr (by simp [bL,bI]) (Nat.le_refl _) v S V h1 h2)
end
section
open Go Go.RowKit
theorem tS {n : Nat} {E : dC} {H : Hp} {d : Option Tmp} {t : TypeId} {pos : String} {af : Array Edge} {g : Option (Nat × Bool)}  :
  aL Tryz.prog n E H ⟨d,.build 32 #[],t,pos,af,g⟩ (fB [Is (.slice none 0 0),Is (.slice none 0 0)]) :=
 fT (parts := []) fun a V w hs => by
  refine ⟨.agg #[(.slice none 0 0),(.slice none 0 0)],?_,[(.slice none 0 0),(.slice none 0 0)],rfl,aW (⟨rfl,trivial⟩) (aW (⟨rfl,trivial⟩) (aG))⟩
  simp [Instr.build,Instr.fill,Sem.run_bind,Result.andThen,eN,O_32,U_32,Z_29,Z_30]
theorem Ah {n : Nat} {E : dC} {H : Hp} {d : Option Tmp} {t : TypeId} {pos : String} {af : Array Edge} {g : Option (Nat × Bool)} {x0 x1 : Operand} {T0 T1 : Ty} [s0 : dO T0 1 false] (h0 : bF E x0 T0) [s1 : dO T1 1 false] (h1 : bF E x1 T1) :
  aL Tryz.prog n E H ⟨d,.build 32 #[(0,x0),(1,x1)],t,pos,af,g⟩ (fB [T0,T1]) :=
 fT (parts := [(0, x0), (1, x1)]) fun a V w hs => by
  have p0:=h0 n V a hs
  generalize e0:a.eval x0 = v0 at p0
  have q0:=(s0.ok v0 V p0).2.2 rfl
  have p1:=h1 n V a hs
  generalize e1:a.eval x1 = v1 at p1
  have q1:=(s1.ok v1 V p1).2.2 rfl
  refine ⟨.agg #[v0,v1],?_,[v0,v1],rfl,aW (⟨p0,q0⟩) (aW (⟨p1,q1⟩) (aG))⟩
  simp [e0,e1,Instr.build,Instr.fill,Sem.run_bind,Result.andThen,eN,q0.cells,q1.cells,O_32,U_32,Z_29,Z_30]
theorem rD (a:Addr) (w:World):(Instr.fieldAt 32 (.pointer (some a)) 0).run Tryz.prog w = .ok (.pointer (some (a.add 0))) w:=by
 simp [Instr.fieldAt,Instr.sureAddr,fieldPlace,Sem.run_bind,Result.andThen,U_32,Z_29]
end
section
open Go Go.RowKit
theorem a1Z {s:List (List Qi)} {n i j:Nat} (hs:cM s n n) (hi:i < n) (hj:j < n):bB Tryz.prog 187 [NT .i64 i,NT .i64 j,PT (cE s)] (aN (gm s i j)):=by
 have h1:=hs.1; have h2:=hs.row hi
 refine bB.intro Tryz.func187 rfl Tryz.ntmps187 rfl (fun cx=>(ts (rn rfl (eW (Ts:=[Is (.bool false),Is (.slice none 0 0),Is (.bool false),Is (.slice none 0 0),Is (.slice none 0 0)]) O_51 rfl (fun V=>aW zd (aW zd (aW zd (aW zd (aW zd (aG))))))) fun B5=>(eX (ts (ro rfl (dJ A_30 Z_30 (Ht rfl)) (rm rfl (ro rfl (dZ U_30 Z_29 (Ht rfl) (Ht rfl) rfl (dY (dU (d:=[]) zo))) (ro rfl (dJ A_29 Z_29 (Ht rfl)) ?_)))))))))
 refine rm rfl (ro rfl (dZ U_29 Z_51 (Ht rfl) (Ht rfl) rfl (dY (dU (d:=Qi.zero) zo))) (ro rfl (dJ A_51 Z_51 (Ht rfl)) (gQ Z_51 (Ht rfl) (Ht rfl) rfl (i:=0) rfl (aK rfl) rfl rfl (eX ?_))))
 exact fW rfl (fK A_51 Z_51 rfl (i:=0) rfl rfl)
theorem Ha {z:List Qi} {s:List (List Qi)} {L:Nat} (hz:bP z L) (h:L ≤ 8796093022208) (hl:z.length ≤ 1000) (hl2:s.length ≤ 1000):bB Tryz.prog 85 [bN z,cE s] (fH [nF (dP (bT z s) z) (dP (bT z s) s),bD .i64 (bT z s)]):=by
 refine bB.intro Tryz.func85 rfl Tryz.ntmps85 rfl (fun cx=>(ts (rn rfl (sO (Ht rfl)) fun B3=>(rn rfl (eW (Ts:=[Is (.slice none 0 0),Is (.slice none 0 0)]) O_32 rfl (fun V=>aW zd (aW zd (aG)))) fun B4=>(ro rfl (cQ (cJ 0)) (eX (cK (cK (gJ (i:=0) (tt:=3) rfl rfl nI (cY (rm rfl (ro rfl (dG U_29 (Ht rfl) aA) (ro rfl (gX (Ht rfl) (cJ 1)) (rm rfl (fQ rfl rfl (eK rfl rfl (Ht rfl) (fun h=>cX (Ht rfl))) (fQ rfl rfl (eK rfl rfl (Ht rfl) (fun h=>dG U_29 (fJ rfl h) aA)) ?_))))))))))))))))
 refine fQ rfl rfl (eK rfl rfl (Ht rfl) (fun h=>eC (fJ rfl h) (cJ 8))) (ro rfl (gT (Ht rfl) (fun h=>(fJ rfl h))) (rm rfl (fQ rfl rfl (eK rfl rfl (Ht rfl) (fun h=>dJ A_30 Z_30 (Ht rfl))) (fQ rfl rfl (eK rfl rfl (Ht rfl) (fun h=>dG U_30 (fJ rfl h) aA)) (fQ rfl rfl (eK rfl rfl (Ht rfl) (fun h=>cX (Ht rfl))) (fQ rfl rfl (eK rfl rfl (Ht rfl) (fun h=>dG U_29 (fJ rfl h) aA)) (fQ rfl rfl (eK rfl rfl (Ht rfl) (fun h=>eO (fJ rfl h) (fJ rfl h))) ?_)))))))
 refine ro rfl (gT (Ht rfl) (fun h=>(fJ rfl h))) (eX (dQ (Ht rfl) (fun hb=>?_) (fun hb=>?_)))
 ·have he := Ix hb
  refine ts (ro rfl (aL.imp (tS ) uH) (gQ Z_32 (Ht rfl) (Ht rfl) rfl (i:=1) rfl (aK rfl) rfl rfl (ro rfl (cQ (cJ 4)) (eX (bM rfl (fX (fK A_32 Z_32 rfl (i:=1) rfl rfl) ?_) (fX (eU rfl) ?_))))))
  ·exact (Fw he (by decide))
  ·exact (aR he.symm)
 ·refine cU (cK (ts (ro rfl (dJ A_30 Z_30 (Ht rfl)) (ro rfl (dG U_30 (Ht rfl) aA) (ro rfl (cX (cJ 0)) (eX (eG ?_)))))))
  refine bS (fun (k : Nat) => k ≤ s.length ∧ ∀ (i : Nat) (r : List Qi), i < k → s[i]? = some r → r.length = z.length) (fun (k : Nat) => s.length - k) (fun (k : Nat) => [(0, bN z), (3, PT (cE s)), (4, dA B4 0), (25, cE s), (26, NT .i64 s.length), (27, NT .i64 k)]) (fun (k : Nat) => [SA.emp, box B4 32 [Is (.slice none 0 0), Is (.slice none 0 0)]]) 0 ⟨Nat.zero_le _, fun i r h => by omega⟩
   (zS rfl) (cT.refl _) (fun k ⟨hk,hr⟩=>?_)
  refine ts (ro rfl (gX (Ht rfl) (Ht rfl)) (eX (cK (dQ (Ht rfl) (fun hc=>?_) (fun hc=>?_)))))
  ·simp only [decide_eq_true_eq] at hc
   refine cU (cK (eG (ts (ro rfl (dZ U_30 Z_29 (Ht rfl) (Ht rfl) rfl (dY (nV hc))) (ro rfl (dJ A_29 Z_29 (Ht rfl)) (ra rfl (eX (ts (rm rfl (ro rfl (dG U_29 (Ht rfl) aA) (rm rfl (ro rfl (dG U_29 (Ht rfl) aA) (ro rfl (eO (Ht rfl) (Ht rfl)) (eX (dQ (Ht rfl) (fun hd=>?_) (fun hd=>?_))))))))))))))))
   ·have hd2 : ¬ (s[k]).length = z.length := by simpa using hd
    have he:=Lm (nV hc) hd2
    refine ts (ro rfl (aL.imp (tS ) uH) (gQ Z_32 (Ht rfl) (Ht rfl) rfl (i:=1) rfl (aK rfl) rfl rfl (ro rfl (cQ (cJ 4)) (eX (bM rfl (fX (fK A_32 Z_32 rfl (i:=1) rfl rfl) ?_) (fX (eU rfl) ?_))))))
    ·exact (Fw he (by decide))
    ·exact (aR he.symm)
   ·have hd2 : (s[k]).length = z.length := by simpa using hd
    refine cU (bA (cY (ro rfl (dV (Ht rfl) (cJ 1) z6) (rm rfl (eX ?_)))))
    refine fU (k + 1) ⟨hc, fun i r h1 h2 => by
      by_cases e:i = k
      ·subst e; rw [nV hc] at h2; obtain rfl:=Option.some.inj h2; exact hd2
      ·exact hr i r zo h2⟩ zo (zS rfl) (cT.refl _)
  ·simp only [decide_eq_false_iff_not] at hc
   have hall:∀ (i:Nat) (r:List Qi),s[i]? = some r → r.length = z.length:=fun i r h=>hr i r (by have:=(List.getElem?_eq_some_iff.1 h).1; omega) h
   have hpos:=Ll hb hall
   refine gV rfl (cK (ts (rm rfl (ro rfl (cZ Tryz.call183 (yG hz h zo) ⟨(Ht rfl),trivial⟩) (ra rfl (eX (ts (rm rfl (ro rfl (kE (Ht rfl) cV) (eX (dQ (Ht rfl) (fun hd=>?_) (fun hd=>?_))))))))))))
   ·have hd2 : ¬ (if z.all fP = true then (0 : Int) else 1) = 0 := by simpa using hd
    refine ts (ro rfl (aL.imp (tS ) uH) (rm rfl (gQ Z_32 (Ht rfl) (Ht rfl) rfl (i:=1) rfl (aK rfl) rfl rfl (ra rfl (eX (bM rfl (fX (fK A_32 Z_32 rfl (i:=1) rfl rfl) ?_) (fX (eU rfl) ?_)))))))
    ·exact (Fw hpos hd2)
    ·exact (aR hpos.symm)
   ·have hd2 : (if z.all fP = true then (0 : Int) else 1) = 0 := by simpa using hd
    have he:=hpos.trans hd2
    obtain ⟨h1,h2,hsh,_⟩:=uG he
    refine cU (ts (rm rfl (ro rfl (cZ Tryz.call158 (Fb zo) ⟨(Ht rfl),trivial⟩) (rm rfl (ro rfl (dG U_29 (Ht rfl) aA) (ro rfl (rK (γ:=Fin z.length × Fin z.length) (Ts:=fun x=>[NT .i64 x.1.1,NT .i64 x.2.1]) (U:=fun x=>aN (gm s x.1.1 x.2.1)) Tryz.call187 (fun x=>a1Z hsh x.1.2 x.2.2) ⟨(Ht rfl),trivial⟩) (ro rfl (cZ Tryz.call114 (eQ (To (n:=z.length) (f:=gm s) zo) (kF (by rw [← rG hsh]))) ⟨(Ht rfl),(Ht rfl),trivial⟩) ?_)))))))
    refine ro rfl (Ah (Ht rfl) (Ht rfl)) (gQ Z_32 (Ht rfl) (Ht rfl) rfl (i:=1) rfl (aK rfl) rfl rfl (ro rfl (cQ (cJ 0)) (eX (bM rfl (fX (fK A_32 Z_32 rfl (i:=1) rfl rfl) ?_) (fX (eU rfl) ?_)))))
    ·exact (We he)
    ·exact (aR he.symm)
theorem qY {z:List Qi} {s:List (List Qi)}:bB Tryz.prog 22 [nF z s] (NT .i64 z.length):=by
 refine bB.intro Tryz.func22 rfl Tryz.ntmps22 rfl (fun cx=>(ts (rn rfl (fG (Ht rfl)) fun B1=>(ro rfl (cQ (cJ 0)) (eX (ts (ro rfl (eZ rD (Ht rfl) rfl) (ro rfl (eY A_29 Z_29 (Ht rfl) (i:=0) rfl rfl) (ro rfl (dG U_29 (Ht rfl) aA) (ra rfl (eX ?_)))))))))))
 exact fW rfl (eU rfl)
theorem Tp {z:List Qi} {s:List (List Qi)} {i:Int}:bB Tryz.prog 106 [nF z s,bD .i64 i] (aC (decide (1 ≤ i ∧ i ≤ z.length))):=by
 refine bB.intro Tryz.func106 rfl Tryz.ntmps106 rfl (fun cx=>(ts (rn rfl (fG (Ht rfl)) fun B2=>(ro rfl (cQ cV) (eX (ts (rm rfl (ro rfl (lT (Ht rfl) cV) (rm rfl (fQ rfl rfl (eK rfl rfl (Ht rfl) (fun h=>cX (Ht rfl))) (fQ rfl rfl (eK rfl rfl (Ht rfl) (fun h=>eZ rD (Ht rfl) rfl)) (fQ rfl rfl (eK rfl rfl (Ht rfl) (fun h=>eY A_29 Z_29 (fJ rfl h) (i:=0) rfl rfl)) (fQ rfl rfl (eK rfl rfl (Ht rfl) (fun h=>dG U_29 (fJ rfl h) aA)) (fQ rfl rfl (eK rfl rfl (Ht rfl) (fun h=>Lt (fJ rfl h) (fJ rfl h))) ?_))))))))))))))
 refine ro rfl (fE (Ht rfl) (fun h=>(fJ rfl h))) (ra rfl (eX (fW rfl (fX (eU rfl) ?_))))
 exact (dM (by rw [Bool.eq_iff_iff]; simp))
end
section
open Go Go.RowKit
theorem zC (a:Addr) (w:World):(Instr.fieldAt 32 (.pointer (some a)) 1).run Tryz.prog w = .ok (.pointer (some (a.add 1))) w:=by
 simp [Instr.fieldAt,Instr.sureAddr,fieldPlace,Sem.run_bind,Result.andThen,U_32,Z_30]
theorem rE (a:Addr) (w:World):(Instr.fieldAt 34 (.pointer (some a)) 0).run Tryz.prog w = .ok (.pointer (some (a.add 0))) w:=by
 simp [Instr.fieldAt,Instr.sureAddr,fieldPlace,Sem.run_bind,Result.andThen,U_34,Z_32]
theorem nB (a:Addr) (w:World):(Instr.fieldAt 34 (.pointer (some a)) 1).run Tryz.prog w = .ok (.pointer (some (a.add 2))) w:=by
 simp [Instr.fieldAt,Instr.sureAddr,fieldPlace,Sem.run_bind,Result.andThen,U_34,Z_30]
end
section
open Go Go.RowKit
theorem Tj {z:List Qi} {s:List (List Qi)} {i:Int} (hl:z.length ≤ 1000):bB Tryz.prog 23 [nF z s,bD .i64 i] (fH [aN (Sd z i),bD .i64 (if 1 ≤ i ∧ i ≤ z.length then 0 else 1)]):=by
 refine bB.intro Tryz.func23 rfl Tryz.ntmps23 rfl (fun cx=>(ts (rn rfl (fG (Ht rfl)) fun B2=>(rn rfl (eW (Ts:=[Is (.bool false),Is (.slice none 0 0),Is (.bool false),Is (.slice none 0 0),Is (.slice none 0 0)]) O_51 rfl (fun V=>aW zd (aW zd (aW zd (aW zd (aW zd (aG))))))) fun B4=>(ro rfl (cQ (cJ 0)) (eX (cK (ts (ro rfl (eJ A_32 Z_32 (Ht rfl) (i:=0) rfl rfl rfl) (rm rfl (ro rfl (cZ Tryz.call106 Tp ⟨(Ht rfl),(Ht rfl),trivial⟩) ?_)))))))))))
 refine ro rfl (eT (Ht rfl)) (eX (dQ (Ht rfl) (fun hb=>?_) (fun hb=>?_)))
 ·have hn : ¬ (1 ≤ i ∧ i ≤ (z.length : Int)) := by simpa only [Bool.not_eq_true', decide_eq_false_iff_not] using hb
  refine ts (ro rfl (aL.imp (Fa ) nK) (gQ Z_51 (Ht rfl) (Ht rfl) rfl (i:=1) rfl (aK rfl) rfl rfl (ro rfl (cQ (cJ 1)) (eX (bM rfl (fX (fK A_51 Z_51 rfl (i:=1) rfl rfl) ?_) (fX (eU rfl) ?_))))))
  ·exact (lS (by rw [Sd,if_neg hn]))
  ·exact (aR (by rw [if_neg hn]; rfl))
 ·have hp : 1 ≤ i ∧ i ≤ (z.length : Int) := by simpa only [Bool.not_eq_false', decide_eq_true_eq] using hb
  have hq:(i - 1).toNat < z.length:=by omega
  refine cU (ts (ro rfl (eZ rD (Ht rfl) rfl) (ro rfl (eY A_29 Z_29 (Ht rfl) (i:=0) rfl rfl) (rm rfl (ro rfl (iL (Ht rfl) cV (Ch zo)) (ro rfl (dZ U_29 Z_51 (Ht rfl) (Ht rfl) (by omega:i - 1 = (((i - 1).toNat:Nat):Int)) (dY (dU (d:=Qi.zero) hq))) (ro rfl (dJ A_51 Z_51 (Ht rfl)) (gQ Z_51 (Ht rfl) (Ht rfl) rfl (i:=1) rfl (aK rfl) rfl rfl (ro rfl (cQ (cJ 0)) (eX (bM rfl (fX (fK A_51 Z_51 rfl (i:=1) rfl rfl) ?_) (fX (eU rfl) ?_))))))))))))
  ·exact (lS (by rw [Sd,if_pos hp]))
  ·exact (aR (by rw [if_pos hp]; rfl))
theorem a3m {z:List Qi} {s:List (List Qi)} {i j:Int} (hs:cM s z.length z.length) (hl:z.length ≤ 1000):bB Tryz.prog 25 [nF z s,bD .i64 i,bD .i64 j] (fH [aN (Rc z.length s i j),bD .i64 (if (1 ≤ i ∧ i ≤ z.length) ∧ 1 ≤ j ∧ j ≤ z.length then 0 else 1)]):=by
 have hs1:=hs.1
 refine bB.intro Tryz.func25 rfl Tryz.ntmps25 rfl (fun cx=>(ts (rn rfl (fG (Ht rfl)) fun B3=>(rn rfl (eW (Ts:=[Is (.bool false),Is (.slice none 0 0),Is (.bool false),Is (.slice none 0 0),Is (.slice none 0 0)]) O_51 rfl (fun V=>aW zd (aW zd (aW zd (aW zd (aW zd (aG))))))) fun B6=>(ro rfl (cQ (cJ 0)) (eX (cK (ts (ro rfl (eJ A_32 Z_32 (Ht rfl) (i:=0) rfl rfl rfl) (rm rfl (ro rfl (cZ Tryz.call106 Tp ⟨(Ht rfl),(Ht rfl),trivial⟩) ?_)))))))))))
 refine ro rfl (eT (Ht rfl)) (rm rfl (fQ rfl rfl (eK rfl rfl (Ht rfl) (fun h=>eJ A_32 Z_32 (Ht rfl) (i:=0) rfl rfl rfl)) (fQ rfl rfl (eK rfl rfl (Ht rfl) (fun h=>cX (Ht rfl))) (fQ rfl rfl (eK rfl rfl (Ht rfl) (fun h=>cZ Tryz.call106 Tp ⟨(fJ rfl h),(fJ rfl h),trivial⟩)) (fQ rfl rfl (eK rfl rfl (Ht rfl) (fun h=>eT (fJ rfl h))) (ro rfl (gT (Ht rfl) (fun h=>(fJ rfl h))) (eX (dQ (Ht rfl) (fun hb=>?_) (fun hb=>?_)))))))))
 ·have hn : ¬ ((1 ≤ i ∧ i ≤ (z.length : Int)) ∧ 1 ≤ j ∧ j ≤ (z.length : Int)) := by simp only [Bool.or_eq_true, Bool.not_eq_true', decide_eq_false_iff_not] at hb; exact fun k => hb.elim (fun h => h k.1) (fun h => h k.2)
  refine ts (rn rfl (eW (Ts:=[Is (.bool false),Is (.slice none 0 0),Is (.bool false),Is (.slice none 0 0),Is (.slice none 0 0)]) O_51 rfl (fun V=>aW zd (aW zd (aW zd (aW zd (aW zd (aG))))))) fun B8=>(eX (ts (ro rfl (eJ A_51 Z_51 (Ht rfl) (i:=2) rfl rfl rfl) (gQ Z_51 (Ht rfl) (Ht rfl) rfl (i:=1) rfl (aK rfl) rfl rfl (ro rfl (cQ (cJ 1)) (eX (bM rfl (fX (fK A_51 Z_51 rfl (i:=1) rfl rfl) ?_) (fX (eU rfl) ?_)))))))))
  ·exact (fun v V k=>by rw [Rc,if_neg hn]; exact nK v V k)
  ·exact (aR (by rw [if_neg hn]; rfl))
 ·have hp : (1 ≤ i ∧ i ≤ (z.length : Int)) ∧ 1 ≤ j ∧ j ≤ (z.length : Int) := by simpa only [Bool.or_eq_false_iff, Bool.not_eq_false', decide_eq_true_eq] using hb
  have hq:(i - 1).toNat < s.length:=by omega
  have hq2:(j - 1).toNat < (s.getD (i - 1).toNat []).length:=by rw [hs.row zo]; omega
  refine cU (ts (ro rfl (eZ zC (Ht rfl) rfl) (ro rfl (eY A_30 Z_30 (Ht rfl) (i:=0) rfl rfl) (rm rfl (ro rfl (iL (Ht rfl) cV (Ch zo)) (ro rfl (dZ U_30 Z_29 (Ht rfl) (Ht rfl) (by omega:i - 1 = (((i - 1).toNat:Nat):Int)) (dY (dU (d:=[]) hq))) (ro rfl (dJ A_29 Z_29 (Ht rfl)) (rm rfl (ro rfl (iL (Ht rfl) cV (Ch zo)) (ro rfl (dZ U_29 Z_51 (Ht rfl) (Ht rfl) (by omega:j - 1 = (((j - 1).toNat:Nat):Int)) (dY (dU (d:=Qi.zero) hq2))) ?_))))))))))
  refine ro rfl (dJ A_51 Z_51 (Ht rfl)) (gQ Z_51 (Ht rfl) (Ht rfl) rfl (i:=1) rfl (aK rfl) rfl rfl (ro rfl (cQ (cJ 0)) (eX (bM rfl (fX (fK A_51 Z_51 rfl (i:=1) rfl rfl) ?_) (fX (eU rfl) ?_)))))
  ·exact (lS (by rw [Rc,if_pos hp]))
  ·exact (aR (by rw [if_pos hp]; rfl))
theorem Hb {z:List Qi} {s c:List (List Qi)}:bB Tryz.prog 51 [iJ z s c] (nF z s):=by
 refine bB.intro Tryz.func51 rfl Tryz.ntmps51 rfl (fun cx=>(ts (rn rfl (fG (Ht rfl)) fun B1=>(rn rfl (eW (Ts:=[Is (.slice none 0 0),Is (.slice none 0 0)]) O_32 rfl (fun V=>aW zd (aW zd (aG)))) fun B2=>(eX (ts (ro rfl (eZ rE (Ht rfl) rfl) (ro rfl (eJ A_32 Z_32 (Ht rfl) (i:=0) rfl rfl rfl) (gQ Z_32 (Ht rfl) (Ht rfl) rfl (i:=1) rfl (aK rfl) rfl rfl (eX ?_))))))))))
 exact fW rfl (fK A_32 Z_32 rfl (i:=1) rfl rfl)
theorem Nd {z:List Qi} {s c:List (List Qi)} {i j:Int} (hs:cM c c.length c.length) (hl:c.length ≤ 1000):bB Tryz.prog 87 [iJ z s c,bD .i64 i,bD .i64 j] (fH [aN (Rc c.length c i j),bD .i64 (if (1 ≤ i ∧ i ≤ c.length) ∧ 1 ≤ j ∧ j ≤ c.length then 0 else 1)]):=by
 refine bB.intro Tryz.func87 rfl Tryz.ntmps87 rfl (fun cx=>(ts (rn rfl (fG (Ht rfl)) fun B3=>(rn rfl (eW (Ts:=[Is (.bool false),Is (.slice none 0 0),Is (.bool false),Is (.slice none 0 0),Is (.slice none 0 0)]) O_51 rfl (fun V=>aW zd (aW zd (aW zd (aW zd (aW zd (aG))))))) fun B6=>(ro rfl (cQ (cJ 0)) (eX (cK (ts (rm rfl (ro rfl (rM (Ht rfl) cV) (rm rfl (fQ rfl rfl (eK rfl rfl (Ht rfl) (fun h=>cX (Ht rfl))) ?_))))))))))))
 refine fQ rfl rfl (eK rfl rfl (Ht rfl) (fun h=>eZ nB (Ht rfl) rfl)) (fQ rfl rfl (eK rfl rfl (Ht rfl) (fun h=>eY A_30 Z_30 (fJ rfl h) (i:=0) rfl rfl)) (fQ rfl rfl (eK rfl rfl (Ht rfl) (fun h=>dG U_30 (fJ rfl h) aA)) (fQ rfl rfl (eK rfl rfl (Ht rfl) (fun h=>Bo (fJ rfl h) (fJ rfl h))) (ro rfl (gT (Ht rfl) (fun h=>(fJ rfl h))) (rm rfl (fQ rfl rfl (eK rfl rfl (Ht rfl) (fun h=>cX (Ht rfl))) (fQ rfl rfl (eK rfl rfl (Ht rfl) (fun h=>rM (fJ rfl h) cV)) ?_)))))))
 refine ro rfl (gT (Ht rfl) (fun h=>(fJ rfl h))) (rm rfl (fQ rfl rfl (eK rfl rfl (Ht rfl) (fun h=>cX (Ht rfl))) (fQ rfl rfl (eK rfl rfl (Ht rfl) (fun h=>eZ nB (Ht rfl) rfl)) (fQ rfl rfl (eK rfl rfl (Ht rfl) (fun h=>eY A_30 Z_30 (fJ rfl h) (i:=0) rfl rfl)) (fQ rfl rfl (eK rfl rfl (Ht rfl) (fun h=>dG U_30 (fJ rfl h) aA)) (fQ rfl rfl (eK rfl rfl (Ht rfl) (fun h=>Bo (fJ rfl h) (fJ rfl h))) (ro rfl (gT (Ht rfl) (fun h=>(fJ rfl h))) (eX (dQ (Ht rfl) (fun hb=>?_) (fun hb=>?_))))))))))
 ·have hn : ¬ ((1 ≤ i ∧ i ≤ (c.length : Int)) ∧ 1 ≤ j ∧ j ≤ (c.length : Int)) := by simp only [Bool.or_eq_true, decide_eq_true_eq] at hb; omega
  refine ts (rn rfl (eW (Ts:=[Is (.bool false),Is (.slice none 0 0),Is (.bool false),Is (.slice none 0 0),Is (.slice none 0 0)]) O_51 rfl (fun V=>aW zd (aW zd (aW zd (aW zd (aW zd (aG))))))) fun B8=>(eX (ts (ro rfl (eJ A_51 Z_51 (Ht rfl) (i:=2) rfl rfl rfl) (gQ Z_51 (Ht rfl) (Ht rfl) rfl (i:=1) rfl (aK rfl) rfl rfl (ro rfl (cQ (cJ 1)) (eX (bM rfl (fX (fK A_51 Z_51 rfl (i:=1) rfl rfl) ?_) (fX (eU rfl) ?_)))))))))
  ·exact (fun v V k=>by rw [Rc,if_neg hn]; exact nK v V k)
  ·exact (aR (by rw [if_neg hn]; rfl))
 ·have hp : (1 ≤ i ∧ i ≤ (c.length : Int)) ∧ 1 ≤ j ∧ j ≤ (c.length : Int) := by simp only [Bool.or_eq_false_iff, decide_eq_false_iff_not] at hb; omega
  have hq:(i - 1).toNat < c.length:=by omega
  have hq2:(j - 1).toNat < (c.getD (i - 1).toNat []).length:=by rw [hs.row zo]; omega
  refine cU (ts (ro rfl (eZ nB (Ht rfl) rfl) (ro rfl (eY A_30 Z_30 (Ht rfl) (i:=0) rfl rfl) (rm rfl (ro rfl (iL (Ht rfl) cV (Ch zo)) (ro rfl (dZ U_30 Z_29 (Ht rfl) (Ht rfl) (by omega:i - 1 = (((i - 1).toNat:Nat):Int)) (dY (dU (d:=[]) hq))) (ro rfl (dJ A_29 Z_29 (Ht rfl)) (rm rfl (ro rfl (iL (Ht rfl) cV (Ch zo)) (ro rfl (dZ U_29 Z_51 (Ht rfl) (Ht rfl) (by omega:j - 1 = (((j - 1).toNat:Nat):Int)) (dY (dU (d:=Qi.zero) hq2))) ?_))))))))))
  refine ro rfl (dJ A_51 Z_51 (Ht rfl)) (gQ Z_51 (Ht rfl) (Ht rfl) rfl (i:=1) rfl (aK rfl) rfl rfl (ro rfl (cQ (cJ 0)) (eX (bM rfl (fX (fK A_51 Z_51 rfl (i:=1) rfl rfl) ?_) (fX (eU rfl) ?_)))))
  ·exact (lS (by rw [Rc,if_pos hp]))
  ·exact (aR (by rw [if_pos hp]; rfl))
end
section
open Go Go.RowKit
theorem wG (a:Addr) (w:World):(Instr.fieldAt 25 (.pointer (some a)) 0).run Tryz.prog w = .ok (.pointer (some (a.add 0))) w:=by
 simp [Instr.fieldAt,Instr.sureAddr,fieldPlace,Sem.run_bind,Result.andThen,U_25,Z_22]
theorem zA (a:Addr) (w:World):(Instr.fieldAt 25 (.pointer (some a)) 1).run Tryz.prog w = .ok (.pointer (some (a.add 1))) w:=by
 simp [Instr.fieldAt,Instr.sureAddr,fieldPlace,Sem.run_bind,Result.andThen,U_25,Z_23]
theorem zB (a:Addr) (w:World):(Instr.fieldAt 25 (.pointer (some a)) 2).run Tryz.prog w = .ok (.pointer (some (a.add 2))) w:=by
 simp [Instr.fieldAt,Instr.sureAddr,fieldPlace,Sem.run_bind,Result.andThen,U_25,Z_23]
theorem sJ:Tryz.prog.info? 131 = some Tryz.t131:=by kernel_rfl
theorem Fv:Tryz.prog.info? 35 = some Tryz.t35:=by kernel_rfl
theorem Yd:Tryz.prog.underlying 30 = some (.slice 29):=by kernel_rfl
theorem Cf:Tryz.prog.underlying 35 = some (.slice 131):=by kernel_rfl
theorem a33:Tryz.prog.underlying 36 = some (.slice 35):=by kernel_rfl
end
section
open Go Go.RowKit
theorem xH {m:List (List Rt)} (hm:m.length ≤ 1000) (hr:∀ r,r ∈ m → r.length ≤ 1000):bB Tryz.prog 86 [xD m] (cE (rq m)):=by
 refine bB.intro Tryz.func86 rfl Tryz.ntmps86 rfl (fun cx=>(ts (ro rfl (cQ cV) (eX (ts (rm rfl (ro rfl (dG U_23 (Ht rfl) aA) (rn rfl (lY (T:=bN []) (i:=Tryz.t29) Yd nW rfl rfl (Ht rfl) rfl Iz El.one (by show 24 * _ ≤ _; omega) zo) fun B8=>(ra rfl (eX (cK (ts (rm rfl (ro rfl (dG U_23 (Ht rfl) aA) (ro rfl (cX (cJ 0)) (eX (eG ?_)))))))))))))))))
 refine gB (fun (k : Nat) (out : List (List Qi)) => lJ (fun i => (m.getD i default).map Rt.q) m.length out k) (fun (k : Nat) (out : List (List Qi)) => m.length - k) (fun (k : Nat) (out : List (List Qi)) => [(3, Is B8), (9, xD m), (10, NT .i64 m.length), (11, NT .i64 k)]) (fun (k : Nat) (out : List (List Qi)) => [cD 29 1 B8 (out.map bN)]) 0 (List.replicate m.length []) (lJ.start _ _ _)
  (zS rfl) (aU (cA (tG bN _ _)) aY) (fun k out hS=>?_)
 refine ts (ro rfl (gX (Ht rfl) (Ht rfl)) (eX (cK (dQ (Ht rfl) (fun hk=>?_) (fun hk=>?_)))))
 ·simp only [decide_eq_true_eq] at hk
  have hlen:=hS.len
  have hrk : (m.getD k default).length ≤ 1000 := by
   have e:m.getD k default = m[k]:=by simp [List.getD,hk]
   rw [e]; exact hr _ (List.getElem_mem hk)
  refine cU (cK (eG (ts (rm rfl (ro rfl (dZ U_23 Z_22 (Ht rfl) (Ht rfl) rfl (dY (dU (d:=default) hk))) (ro rfl (dJ A_22 Z_22 (Ht rfl)) (ra rfl (ra rfl (eX (cY (rm rfl (rm rfl (rm rfl (ro rfl (cZ Tryz.call48 (qB zo) ⟨(Ht rfl),trivial⟩) (ro rfl (dB U_30 Z_29 (Ht rfl) (Ht rfl) rfl (i:=0) rfl (by first | omega | (simp; omega)) rfl) (kM Z_29 (Ht rfl) (Ht rfl) El.one (i:=0) rfl rfl (by first | omega | (simp; omega)) rfl (eX (bA ?_))))))))))))))))))
  refine cY (ro rfl (dV (Ht rfl) (cJ 1) z6) (rm rfl (eX (fU (k + 1,_) (hS.next hk rfl) (by dsimp only; omega) (zS rfl) (aU (cA (fI bN _ _ _)) aY)))))
 ·simp only [decide_eq_false_iff_not] at hk
  obtain rfl:k = m.length:=Nat.le_antisymm hS.kle zo
  have hfin:=hS.fin
  rw [By m (fun r=>r.map Rt.q)] at hfin
  refine gV rfl (gJ (i:=0) (tt:=3) rfl rfl kH (ts (rm rfl (ra rfl (eX (fW rfl (fX (eU rfl) ?_)))))))
  exact (kF (by rw [hfin]))
theorem a3q {z:List Rt} {s c:List (List Rt)}:bB Tryz.prog 15 [Sk z s c] (aC (vD z s c)):=by
 refine bB.intro Tryz.func15 rfl Tryz.ntmps15 rfl (fun cx=>(ts (rn rfl (fG (Ht rfl)) fun B1=>(ro rfl (cQ cV) (eX (cK (ts (ro rfl (eZ wG (Ht rfl) rfl) (ro rfl (eY A_22 Z_22 (Ht rfl) (i:=0) rfl rfl) (ro rfl (dG U_22 (Ht rfl) aA) (ro rfl (eC (Ht rfl) (cJ 9)) (rm rfl (fQ rfl rfl (eK rfl rfl (Ht rfl) (fun h=>eZ zA (Ht rfl) rfl)) (fQ rfl rfl (eK rfl rfl (Ht rfl) (fun h=>eY A_23 Z_23 (fJ rfl h) (i:=0) rfl rfl)) (fQ rfl rfl (eK rfl rfl (Ht rfl) (fun h=>dG U_23 (fJ rfl h) aA)) ?_)))))))))))))))
 refine fQ rfl rfl (eK rfl rfl (Ht rfl) (fun h=>eC (fJ rfl h) (cJ 9))) (ro rfl (gT (Ht rfl) (fun h=>(fJ rfl h))) (rm rfl (fQ rfl rfl (eK rfl rfl (Ht rfl) (fun h=>eZ zB (Ht rfl) rfl)) (fQ rfl rfl (eK rfl rfl (Ht rfl) (fun h=>eY A_23 Z_23 (fJ rfl h) (i:=0) rfl rfl)) (fQ rfl rfl (eK rfl rfl (Ht rfl) (fun h=>dG U_23 (fJ rfl h) aA)) (fQ rfl rfl (eK rfl rfl (Ht rfl) (fun h=>eC (fJ rfl h) (cJ 9))) (ro rfl (gT (Ht rfl) (fun h=>(fJ rfl h))) (eX ?_))))))))
 refine dQ (Ht rfl) (fun hb=>?_) (fun hb=>?_)
 ·refine ts (ro rfl (cQ cV) (eX (fW rfl (fX (eU rfl) ?_))))
  exact (dM (Qq hb).symm)
 ·have hbl : z.length ≤ 9 ∧ s.length ≤ 9 ∧ c.length ≤ 9 := by have hb2 := hb; simp only [Bool.or_eq_false_iff, decide_eq_false_iff_not] at hb2; omega
  refine cU (cK (ts (ro rfl (eZ zA (Ht rfl) rfl) (ro rfl (eY A_23 Z_23 (Ht rfl) (i:=0) rfl rfl) (ro rfl (dG U_23 (Ht rfl) aA) (ro rfl (cX (cJ 0)) (eX (eG ?_))))))))
  refine bS (fun (k : Nat) => k ≤ s.length ∧ ∀ (i : Nat) (r : List Rt), i < k → s[i]? = some r → r.length ≤ 9) (fun (k : Nat) => s.length - k) (fun (k : Nat) => [(1, dA B1 0), (24, xD s), (25, NT .i64 s.length), (26, NT .i64 k)]) (fun (k : Nat) => [box B1 25 [rS z, xD s, xD c]]) 0 ⟨Nat.zero_le _, fun i r h => by omega⟩
   (zS rfl) (cT.refl _) (fun k ⟨hk,hr⟩=>?_)
  refine ts (ro rfl (gX (Ht rfl) (Ht rfl)) (eX (cK (dQ (Ht rfl) (fun hd=>?_) (fun hd=>?_)))))
  ·simp only [decide_eq_true_eq] at hd
   refine cU (cK (eG (ts (ro rfl (dZ U_23 Z_22 (Ht rfl) (Ht rfl) rfl (dY (nV hd))) (ro rfl (dJ A_22 Z_22 (Ht rfl)) (ra rfl (eX (ts (rm rfl (ro rfl (dG U_22 (Ht rfl) aA) (ro rfl (eC (Ht rfl) (cJ 9)) (eX (dQ (Ht rfl) (fun he=>?_) (fun he=>?_))))))))))))))
   ·simp only [decide_eq_true_eq] at he
    refine ts (ro rfl (cQ cV) (eX (fW rfl (fX (eU rfl) ?_))))
    exact (dM (Qp (nV hd) he).symm)
   ·simp only [decide_eq_false_iff_not] at he
    refine cU (bA (cY (ro rfl (dV (Ht rfl) (cJ 1) z6) (rm rfl (eX ?_)))))
    refine fU (k + 1) ⟨hd, fun i r h1 h2 => by
      by_cases e:i = k
      ·subst e; rw [nV hd] at h2; obtain rfl:=Option.some.inj h2; omega
      ·exact hr i r zo h2⟩ zo (zS rfl) (cT.refl _)
  ·simp only [decide_eq_false_iff_not] at hd
   have hall:∀ (i:Nat) (r:List Rt),s[i]? = some r → r.length ≤ 9:=fun i r h=>hr i r (by have:=(List.getElem?_eq_some_iff.1 h).1; omega) h
   refine gV rfl (cK (ts (ro rfl (eZ zB (Ht rfl) rfl) (ro rfl (eY A_23 Z_23 (Ht rfl) (i:=0) rfl rfl) (ro rfl (dG U_23 (Ht rfl) aA) (ro rfl (cX (cJ 0)) (eX (eG ?_))))))))
   refine bS (fun (k : Nat) => k ≤ c.length ∧ ∀ (i : Nat) (r : List Rt), i < k → c[i]? = some r → r.length ≤ 9) (fun (k : Nat) => c.length - k) (fun (k : Nat) => [(1, dA B1 0), (35, xD c), (36, NT .i64 c.length), (37, NT .i64 k)]) (fun (k : Nat) => [box B1 25 [rS z, xD s, xD c]]) 0 ⟨Nat.zero_le _, fun i r h => by omega⟩
    (zS rfl) (cT.refl _) (fun k ⟨hk2,hr2⟩=>?_)
   refine ts (ro rfl (gX (Ht rfl) (Ht rfl)) (eX (cK (dQ (Ht rfl) (fun hd2=>?_) (fun hd2=>?_)))))
   ·simp only [decide_eq_true_eq] at hd2
    refine cU (cK (eG (ts (ro rfl (dZ U_23 Z_22 (Ht rfl) (Ht rfl) rfl (dY (nV hd2))) (ro rfl (dJ A_22 Z_22 (Ht rfl)) (ra rfl (eX (ts (rm rfl (ro rfl (dG U_22 (Ht rfl) aA) (ro rfl (eC (Ht rfl) (cJ 9)) (eX (dQ (Ht rfl) (fun he=>?_) (fun he=>?_))))))))))))))
    ·simp only [decide_eq_true_eq] at he
     refine ts (ro rfl (cQ cV) (eX (fW rfl (fX (eU rfl) ?_))))
     exact (dM (Qo (nV hd2) he).symm)
    ·simp only [decide_eq_false_iff_not] at he
     refine cU (bA (cY (ro rfl (dV (Ht rfl) (cJ 1) z6) (rm rfl (eX ?_)))))
     refine fU (k + 1) ⟨hd2, fun i r h1 h2 => by
       by_cases e:i = k
       ·subst e; rw [nV hd2] at h2; obtain rfl:=Option.some.inj h2; omega
       ·exact hr2 i r zo h2⟩ zo (zS rfl) (cT.refl _)
   ·simp only [decide_eq_false_iff_not] at hd2
    have hall2:∀ (i:Nat) (r:List Rt),c[i]? = some r → r.length ≤ 9:=fun i r h=>hr2 i r (by have:=(List.getElem?_eq_some_iff.1 h).1; omega) h
    refine gV rfl (ts (ro rfl (cQ cV) (eX (fW rfl (fX (eU rfl) ?_)))))
    exact (dM (Vf hb hall hall2).symm)
theorem xL {m:List Rt} (hm:m.length ≤ 1000):bB Tryz.prog 50 [rS m] (mM 5 ((m.map Rt.q).map QT)):=by
 refine bB.intro Tryz.func50 rfl Tryz.ntmps50 rfl (fun cx=>(ts (ro rfl (cQ cV) (eX (ts (ro rfl (cQ cV) (eX (cK (ts (rm rfl (ro rfl (dG U_22 (Ht rfl) aA) (ro rfl (cX (cJ 0)) (eX (eG (Db 131 5 ?_)))))))))))))))
 refine iS (fun (k : Nat) (out : List (Qi)) (v : Value) => k ≤ m.length ∧ out = (m.map Rt.q).take k) (fun (k : Nat) (out : List (Qi)) (v : Value) => m.length - k) (fun (k : Nat) (out : List (Qi)) (v : Value) => [(3, Is v), (6, rS m), (7, NT .i64 m.length), (8, NT .i64 k)]) (fun (k : Nat) (out : List (Qi)) (v : Value) => [cD 131 5 v (out.map QT)]) 0 [] (.slice none 0 0) ⟨Nat.zero_le _, rfl⟩
  (zS rfl) (cT.refl _) (fun k out v ⟨hk,ho⟩=>?_)
 refine ts (ro rfl (gX (Ht rfl) (Ht rfl)) (eX (cK (dQ (Ht rfl) (fun hd=>?_) (fun hd=>?_)))))
 ·simp only [decide_eq_true_eq] at hd
  have hol:out.length ≤ 1000:=by rw [ho,List.length_take]; omega
  refine cU (cK (eG (ts (ro rfl (dZ U_22 Z_102 (Ht rfl) (Ht rfl) rfl (dY (dU (d:=default) hd))) (ro rfl (dJ A_102 Z_102 (Ht rfl)) (rn rfl (eW (Ts:=[Is (.int .i64 0),Is (.int .i64 0),Is (.int .i64 0)]) O_102 rfl (fun V=>aW zd (aW zd (aW zd (aG))))) fun B5=>(gQ Z_102 (Ht rfl) (Ht rfl) rfl (i:=1) rfl (aK rfl) rfl rfl (eX (cY (rm rfl (ro rfl (eJ A_102 Z_102 (Ht rfl) (i:=1) rfl rfl rfl) ?_)))))))))))
  refine ro rfl (cZ Tryz.call151 a3t ⟨(Ht rfl),trivial⟩) (ro rfl (dN (xs:=[.tmp 14]) U_35 Z_131 O_131 (cW (Ht rfl) cG) rfl rfl rfl) (rW (inf:=Tryz.t131) Cf sJ rfl rfl rfl (Ht rfl) (Ht rfl) (i:=0) rfl (by simp) (fun T hT=>by simp at hT; subst hT; exact El.ag rfl) (by show _ * 88 ≤ _; simp only [List.length_map,List.length_cons,List.length_nil]; omega) (by simp only [List.length_map,List.length_cons,List.length_nil]; omega) rfl (fun v2=>?_)))
  refine ra rfl (eX (bA (cY (ro rfl (dV (Ht rfl) (cJ 1) z6) (rm rfl (eX (cH [0] rfl (by decide) (fU (k + 1,_,v2) ⟨by omega,Cd (g:=Rt.q) hd ho⟩ (by dsimp only; omega) (zS rfl) (aU (cA (oK QT _ _)) aY)))))))))
 ·simp only [decide_eq_false_iff_not] at hd
  have hfin:=Cb ho (by simp only [List.length_map]; omega)
  refine gV rfl (gJ (i:=0) (tt:=3) rfl rfl kH (ts (rm rfl (ra rfl (eX (fW rfl (fX (eU rfl) ?_)))))))
  exact (kF (by rw [hfin]))
theorem Dk {m:List (List Rt)} (hm:m.length ≤ 1000) (hr:∀ r,r ∈ m → r.length ≤ 1000):bB Tryz.prog 91 [xD m] (mM 1 ((rq m).map qU)):=by
 refine bB.intro Tryz.func91 rfl Tryz.ntmps91 rfl (fun cx=>(ts (ro rfl (cQ cV) (eX (ts (ro rfl (cQ cV) (eX (cK (ts (rm rfl (ro rfl (dG U_23 (Ht rfl) aA) (ro rfl (cX (cJ 0)) (eX (eG (Db 35 1 ?_)))))))))))))))
 refine iS (fun (k : Nat) (out : List (List Qi)) (v : Value) => k ≤ m.length ∧ out = (rq m).take k) (fun (k : Nat) (out : List (List Qi)) (v : Value) => m.length - k) (fun (k : Nat) (out : List (List Qi)) (v : Value) => [(3, Is v), (6, xD m), (7, NT .i64 m.length), (8, NT .i64 k)]) (fun (k : Nat) (out : List (List Qi)) (v : Value) => [cD 35 1 v (out.map qU)]) 0 [] (.slice none 0 0) ⟨Nat.zero_le _, rfl⟩
  (zS rfl) (cT.refl _) (fun k out v ⟨hk,ho⟩=>?_)
 refine ts (ro rfl (gX (Ht rfl) (Ht rfl)) (eX (cK (dQ (Ht rfl) (fun hd=>?_) (fun hd=>?_)))))
 ·simp only [decide_eq_true_eq] at hd
  have hol:out.length ≤ 1000:=by rw [ho,List.length_take]; omega
  have hrk : (m.getD k default).length ≤ 1000 := by
   have e:m.getD k default = m[k]:=by simp [List.getD,hd]
   rw [e]; exact hr _ (List.getElem_mem hd)
  refine cU (cK (eG (ts (ro rfl (dZ U_23 Z_22 (Ht rfl) (Ht rfl) rfl (dY (dU (d:=default) hd))) (ro rfl (dJ A_22 Z_22 (Ht rfl)) (ra rfl (eX (cY (rm rfl (rm rfl (ro rfl (cZ Tryz.call50 (xL zo) ⟨(Ht rfl),trivial⟩) (ro rfl (dN (xs:=[.tmp 14]) U_36 Z_35 Tryz.zeroValue35 (cW (Ht rfl) cG) rfl rfl rfl) (rW (inf:=Tryz.t35) a33 Fv rfl rfl rfl (Ht rfl) (Ht rfl) (i:=0) rfl (by simp) (fun T hT=>by simp at hT; subst hT; exact El.one) (by show _ * 24 ≤ _; simp only [List.length_map,List.length_cons,List.length_nil]; omega) (by simp only [List.length_map,List.length_cons,List.length_nil]; omega) rfl (fun v2=>?_))))))))))))))
  refine ra rfl (eX (bA (cY (ro rfl (dV (Ht rfl) (cJ 1) z6) (rm rfl (eX (cH [0] rfl (by decide) (fU (k + 1,_,v2) ⟨by omega,Cd (g:=(fun r=>r.map Rt.q)) hd ho⟩ (by dsimp only; omega) (zS rfl) (aU (cA (oK qU _ _)) aY)))))))))
 ·simp only [decide_eq_false_iff_not] at hd
  have hfin:=Cb ho (by simp only [List.length_map]; omega)
  refine gV rfl (gJ (i:=0) (tt:=3) rfl rfl kH (ts (rm rfl (ra rfl (eX (fW rfl (fX (eU rfl) ?_)))))))
  exact (kF (by rw [hfin]))
end
section
open Go Go.RowKit
theorem Ey {n : Nat} {E : dC} {H : Hp} {d : Option Tmp} {t : TypeId} {pos : String} {af : Array Edge} {g : Option (Nat × Bool)}  :
  aL Tryz.prog n E H ⟨d,.build 34 #[],t,pos,af,g⟩ (fB [Is (.slice none 0 0),Is (.slice none 0 0),Is (.slice none 0 0)]) :=
 fT (parts := []) fun a V w hs => by
  refine ⟨.agg #[(.slice none 0 0),(.slice none 0 0),(.slice none 0 0)],?_,[(.slice none 0 0),(.slice none 0 0),(.slice none 0 0)],rfl,aW (⟨rfl,trivial⟩) (aW (⟨rfl,trivial⟩) (aW (⟨rfl,trivial⟩) (aG)))⟩
  simp [Instr.build,Instr.fill,Sem.run_bind,Result.andThen,eN,O_34,U_34,Z_30,Z_32]
theorem Tf {n : Nat} {E : dC} {H : Hp} {d : Option Tmp} {t : TypeId} {pos : String} {af : Array Edge} {g : Option (Nat × Bool)} {x0 : Operand} {T0 T1 : Ty} (h0 : bF E x0 (fB [T0, T1])) :
  aL Tryz.prog n E H ⟨d,.build 34 #[(0,x0)],t,pos,af,g⟩ (fB [T0,T1,Is (.slice none 0 0)]) :=
 fT (parts := [(0, x0)]) fun a V w hs => by
  obtain ⟨v0,e0,c0⟩:=h0 n V a hs
  obtain ⟨c0_0,c0_1,rfl⟩:∃ c0_0 c0_1,v0 = [c0_0,c0_1]:=yJ (by simpa using c0.length)
  refine ⟨.agg #[c0_0,c0_1,(.slice none 0 0)],?_,[c0_0,c0_1,(.slice none 0 0)],rfl,aW (c0.at (i:=0) rfl rfl) (aW (c0.at (i:=1) rfl rfl) (aW (⟨rfl,trivial⟩) (aG)))⟩
  simp [e0,Instr.build,Instr.fill,Sem.run_bind,Result.andThen,eN,O_34,U_34,Z_30,Z_32]
end
section
open Go Go.RowKit
theorem Px {r:List Qi} {c:List (List Qi)}:bB Tryz.prog 157 [bN r,PT (cE c)] (aC (!decide (r.length = c.length))):=by
 refine bB.intro Tryz.func157 rfl Tryz.ntmps157 rfl (fun cx=>(ts (ro rfl (cQ cV) (eX (ts (rm rfl (ro rfl (dG U_29 (Ht rfl) aA) (ro rfl (dJ A_30 Z_30 (Ht rfl)) (ro rfl (dG U_30 (Ht rfl) aA) (ro rfl (eO (Ht rfl) (Ht rfl)) (ra rfl (eX ?_))))))))))))
 exact fW rfl (eU rfl)
theorem Tx {z:List Qi} {s c:List (List Qi)} (hz:z.length ≤ 1000) (hc:c.length ≤ 1000):bB Tryz.prog 55 [nF z s,cE c] (fH [iJ (dP (dD z c) z) (dP (dD z c) s) (dP (dD z c) c),bD .i64 (dD z c)]):=by
 refine bB.intro Tryz.func55 rfl Tryz.ntmps55 rfl (fun cx=>(ts (rn rfl (fG (Ht rfl)) fun B2=>(rn rfl (sO (Ht rfl)) fun B3=>(rn rfl (eW (Ts:=[Is (.slice none 0 0),Is (.slice none 0 0),Is (.slice none 0 0)]) O_34 rfl (fun V=>aW zd (aW zd (aW zd (aG))))) fun B4=>(ro rfl (cQ (cJ 0)) (eX (cK (cK (gJ (i:=1) (tt:=3) rfl rfl nI (fZ (m:=8) (dp 3 rfl (dJ A_30 Z_30 (Ht rfl)) (dq 9 0 rfl (dG U_30 (Ht rfl) aA) ?_)))))))))))))
 refine dp 2 rfl (eJ A_32 Z_32 (Ht rfl) (i:=0) rfl rfl rfl) (dq 11 2 rfl (cZ K_22 qY ⟨(Ht rfl),trivial⟩) (cP 10 1 12 3 rfl (eO (Ht rfl) (Ht rfl)) (dq 13 4 rfl (cX (Ht rfl)) (C.D_step (Ei:=[(3,_),(14,_)]) rfl rfl (bV (bK rfl rfl) (bV (bG 5 rfl rfl) bW)) (eK rfl rfl (Ht rfl) (fun h=>dJ A_30 Z_30 (Ht rfl))) (C.D_step (Ei:=[(3,_),(14,_)]) rfl rfl (bV (bK rfl rfl) (bV (bG 5 rfl rfl) bW)) (eK rfl rfl (Ht rfl) (fun h=>rK (γ:=List Qi) (Ts:=fun r=>[bN r]) (U:=fun r=>aC (!decide (r.length = c.length))) Tryz.call157 (fun r=>Px) ⟨(Ht rfl),trivial⟩)) ?_)))))
 refine fV aO rfl (by kernel_rfl) (zF (zF (aV (fQ rfl rfl (eK rfl rfl (Ht rfl) (fun h=>cZ Tryz.call156 (uQ (l:=c) (T:=bN) (p:=fun r=>!decide (r.length = c.length)) zo) ⟨(fJ rfl h),(fJ rfl h),trivial⟩)) (ro rfl (gT (Ht rfl) (fun h=>(fJ rfl h))) (eX (dQ (Ht rfl) (fun hb=>?_) (fun hb=>?_))))))))
 ·have he := Ln hb
  refine ts (ro rfl (aL.imp (Ey ) xV) (gQ Z_34 (Ht rfl) (Ht rfl) rfl (i:=2) rfl (aK rfl) rfl rfl (ro rfl (cQ (cJ 4)) (eX (bM rfl (fX (fK A_34 Z_34 rfl (i:=2) rfl rfl) ?_) (fX (eU rfl) ?_))))))
  ·exact (Ra he)
  ·exact (aR he.symm)
 ·have he := Iy hb
  obtain ⟨hcl,hsh⟩:=xU he
  refine cU (ts (ro rfl (eJ A_32 Z_32 (Ht rfl) (i:=0) rfl rfl rfl) (ro rfl (Tf (Ht rfl)) (rn rfl (eW (Ts:=[Is (.slice none 0 0),Is (.slice none 0 0),Is (.slice none 0 0)]) O_34 rfl (fun V=>aW zd (aW zd (aW zd (aG))))) fun B6=>(gQ Z_34 (Ht rfl) (Ht rfl) rfl (i:=3) rfl (aK rfl) rfl rfl (eX (cK (ts (ro rfl (dJ A_30 Z_30 (Ht rfl)) (ro rfl (dG U_30 (Ht rfl) aA) (ro rfl (cX (cJ 0)) ?_)))))))))))
  refine eX (eG (cH [2,3] rfl (by decide) (Db 29 1 ?_)))
  refine iS (fun (k : Nat) (out : List (List Qi)) (v : Value) => k ≤ c.length ∧ out = c.take k) (fun (k : Nat) (out : List (List Qi)) (v : Value) => c.length - k) (fun (k : Nat) (out : List (List Qi)) (v : Value) => [(4, dA B4 0), (6, dA B6 0), (22, cE c), (23, NT .i64 c.length), (24, NT .i64 k)]) (fun (k : Nat) (out : List (List Qi)) (v : Value) => [box B4 34 [Is (.slice none 0 0), Is (.slice none 0 0), Is (.slice none 0 0)], box B6 34 [bN z, cE s, Is v], cD 29 1 v (out.map bN)]) 0 [] (.slice none 0 0) ⟨Nat.zero_le _, rfl⟩
   (zS rfl) (cT.refl _) (fun k out v ⟨hk,ho⟩=>?_)
  refine ts (ro rfl (gX (Ht rfl) (Ht rfl)) (eX (cK (dQ (Ht rfl) (fun hd=>?_) (fun hd=>?_)))))
  ·simp only [decide_eq_true_eq] at hd
   have hol:out.length ≤ 1000:=by rw [ho,List.length_take]; omega
   have hrk : (c.getD k default).length ≤ 1000 := by
    have e:c.getD k default = c.getD k []:=rfl
    rw [e,hsh.row zo]; omega
   refine cU (cK (eG (ts (ro rfl (dZ U_30 Z_29 (Ht rfl) (Ht rfl) rfl (dY (dU (d:=default) hd))) (ro rfl (dJ A_29 Z_29 (Ht rfl)) (ra rfl (eX (fZ (m:=5) (dp 6 rfl (eZ nB (Ht rfl) rfl) (dq 28 0 rfl (a0B A_30 Z_30 (Ht rfl) (i:=1) rfl rfl) (dp 8 rfl (cX (Ht rfl)) (dq 30 2 rfl (cZ Tryz.call158 (Fb zo) ⟨(Ht rfl),trivial⟩) (dq 31 3 rfl (dN (xs:=[.tmp 31]) U_30 Z_29 Tryz.zeroValue29 (cW (Ht rfl) cG) rfl rfl rfl) ?_)))))))))))))
   refine fV aO rfl (by kernel_rfl) (zF (aJ (aV (rW (inf:=Tryz.t29) Yd nW rfl rfl rfl (Ht rfl) (Ht rfl) (i:=2) rfl (by simp) (fun T hT=>by simp at hT; subst hT; exact El.one) (by show _ * 24 ≤ _; simp only [List.length_map,List.length_cons,List.length_nil]; omega) (by simp only [List.length_map,List.length_cons,List.length_nil]; omega) rfl (fun v2=>?_)))))
   refine ro rfl (eZ nB (Ht rfl) rfl) (a3b (l:=2) Z_30 (Ht rfl) (Ht rfl) (i:=1) rfl rfl (aK rfl) rfl (eX (bA (cY (ro rfl (dV (Ht rfl) (cJ 1) z6) (rm rfl (eX (fU (k + 1,_,v2) ⟨by omega,Mh hd ho⟩ (by dsimp only; omega) (zS rfl) (aU (aB rfl) (aU (aB rfl) (aU (cA (oK bN _ _)) aY)))))))))))
  ·simp only [decide_eq_false_iff_not] at hd
   have hfin:=Cb ho zo
   subst hfin
   refine gV rfl (cK (Ps 1 2 2 rfl rfl rfl (by decide) (cY (ro rfl (eJ A_34 Z_34 (Ht rfl) (i:=1) rfl rfl rfl) (gQ Z_34 (Ht rfl) (Ht rfl) rfl (i:=0) rfl (aK rfl) rfl rfl (ro rfl (cQ (cJ 0)) (eX (bM rfl (fX (fK A_34 Z_34 rfl (i:=0) rfl rfl) ?_) (fX (eU rfl) ?_)))))))))
   ·exact (Lo he)
   ·exact (aR he.symm)
end
section
open Go Go.RowKit
theorem vW {n : Nat} {E : dC} {H : Hp} {d : Option Tmp} {t : TypeId} {pos : String} {af : Array Edge} {g : Option (Nat × Bool)}  :
  aL Tryz.prog n E H ⟨d,.build 38 #[],t,pos,af,g⟩ (fB [Is (.slice none 0 0),Is (.slice none 0 0)]) :=
 fT (parts := []) fun a V w hs => by
  refine ⟨.agg #[(.slice none 0 0),(.slice none 0 0)],?_,[(.slice none 0 0),(.slice none 0 0)],rfl,aW (⟨rfl,trivial⟩) (aW (⟨rfl,trivial⟩) (aG))⟩
  simp [Instr.build,Instr.fill,Sem.run_bind,Result.andThen,eN,O_38,U_38,Z_35,Z_36]
theorem Aj {n : Nat} {E : dC} {H : Hp} {d : Option Tmp} {t : TypeId} {pos : String} {af : Array Edge} {g : Option (Nat × Bool)} {x0 x1 : Operand} {T0 T1 : Ty} [s0 : dO T0 1 false] (h0 : bF E x0 T0) [s1 : dO T1 1 false] (h1 : bF E x1 T1) :
  aL Tryz.prog n E H ⟨d,.build 38 #[(0,x0),(1,x1)],t,pos,af,g⟩ (fB [T0,T1]) :=
 fT (parts := [(0, x0), (1, x1)]) fun a V w hs => by
  have p0:=h0 n V a hs
  generalize e0:a.eval x0 = v0 at p0
  have q0:=(s0.ok v0 V p0).2.2 rfl
  have p1:=h1 n V a hs
  generalize e1:a.eval x1 = v1 at p1
  have q1:=(s1.ok v1 V p1).2.2 rfl
  refine ⟨.agg #[v0,v1],?_,[v0,v1],rfl,aW (⟨p0,q0⟩) (aW (⟨p1,q1⟩) (aG))⟩
  simp [e0,e1,Instr.build,Instr.fill,Sem.run_bind,Result.andThen,eN,q0.cells,q1.cells,O_38,U_38,Z_35,Z_36]
theorem Ez {n : Nat} {E : dC} {H : Hp} {d : Option Tmp} {t : TypeId} {pos : String} {af : Array Edge} {g : Option (Nat × Bool)}  :
  aL Tryz.prog n E H ⟨d,.build 40 #[],t,pos,af,g⟩ (fB [Is (.slice none 0 0),Is (.slice none 0 0),Is (.slice none 0 0)]) :=
 fT (parts := []) fun a V w hs => by
  refine ⟨.agg #[(.slice none 0 0),(.slice none 0 0),(.slice none 0 0)],?_,[(.slice none 0 0),(.slice none 0 0),(.slice none 0 0)],rfl,aW (⟨rfl,trivial⟩) (aW (⟨rfl,trivial⟩) (aW (⟨rfl,trivial⟩) (aG)))⟩
  simp [Instr.build,Instr.fill,Sem.run_bind,Result.andThen,eN,O_40,U_40,Z_36,Z_38]
theorem Ak {n : Nat} {E : dC} {H : Hp} {d : Option Tmp} {t : TypeId} {pos : String} {af : Array Edge} {g : Option (Nat × Bool)} {x0 x1 : Operand} {T0 T1 T2 : Ty} (h0 : bF E x0 (fB [T0, T1])) [s1 : dO T2 1 false] (h1 : bF E x1 T2) :
  aL Tryz.prog n E H ⟨d,.build 40 #[(0,x0),(1,x1)],t,pos,af,g⟩ (fB [T0,T1,T2]) :=
 fT (parts := [(0, x0), (1, x1)]) fun a V w hs => by
  obtain ⟨v0,e0,c0⟩:=h0 n V a hs
  obtain ⟨c0_0,c0_1,rfl⟩:∃ c0_0 c0_1,v0 = [c0_0,c0_1]:=yJ (by simpa using c0.length)
  have p1:=h1 n V a hs
  generalize e1:a.eval x1 = v1 at p1
  have q1:=(s1.ok v1 V p1).2.2 rfl
  refine ⟨.agg #[c0_0,c0_1,v1],?_,[c0_0,c0_1,v1],rfl,aW (c0.at (i:=0) rfl rfl) (aW (c0.at (i:=1) rfl rfl) (aW (⟨p1,q1⟩) (aG)))⟩
  simp [e0,e1,Instr.build,Instr.fill,Sem.run_bind,Result.andThen,eN,q1.cells,O_40,U_40,Z_36,Z_38]
theorem pK (a:Addr) (w:World):(Instr.fieldAt 38 (.pointer (some a)) 0).run Tryz.prog w = .ok (.pointer (some (a.add 0))) w:=by
 simp [Instr.fieldAt,Instr.sureAddr,fieldPlace,Sem.run_bind,Result.andThen,U_38,Z_35]
end
section
open Go Go.RowKit
theorem He {x:Qi} {L:Nat} [hx:aD x L] (h:L ≤ 17592186044415):bB Tryz.prog 250 [QT x] (aC (fP x)):=by
 refine bB.intro Tryz.func250 rfl Tryz.ntmps250 rfl (fun cx=>(ts (rn rfl (fG (Ht rfl)) fun B1=>(ro rfl (cQ cV) (eX (ts (ro rfl (eJ A_131 Z_131 (Ht rfl) (i:=0) rfl rfl rfl) (ro rfl (cZ Tryz.call242 (Zo zo) ⟨(Ht rfl),trivial⟩) (ro rfl (lH (Ht rfl) cV) (rm rfl (fQ rfl rfl (eK rfl rfl (Ht rfl) (fun h=>eJ A_131 Z_131 (Ht rfl) (i:=0) rfl rfl rfl)) (fQ rfl rfl (eK rfl rfl (Ht rfl) (fun h=>cZ Tryz.call239 Nf ⟨(fJ rfl h),trivial⟩)) (fQ rfl rfl (eK rfl rfl (Ht rfl) (fun h=>Bo (fJ rfl h) cV)) ?_)))))))))))))
 refine ro rfl (fE (Ht rfl) (fun h=>(fJ rfl h))) (ra rfl (eX (fW rfl (fX (eU rfl) ?_))))
 exact (dM (a0V x))
theorem Uh {z:List Qi} {s:List (List Qi)} (hz:z.length ≤ 100000) (hs:s.length ≤ 100000):bB Tryz.prog 189 [qU z,QM s] (aC (Bt z s)):=by
 refine bB.intro Tryz.func189 rfl Tryz.ntmps189 rfl (fun cx=>(ts (ro rfl (cQ cV) (eX (cK (ts (rm rfl (ro rfl (dG U_35 (Ht rfl) aA) (ro rfl (gX (Ht rfl) (cJ 1)) (rm rfl (fQ rfl rfl (eK rfl rfl (Ht rfl) (fun h=>cX (Ht rfl))) (fQ rfl rfl (eK rfl rfl (Ht rfl) (fun h=>dG U_35 (fJ rfl h) aA)) (fQ rfl rfl (eK rfl rfl (Ht rfl) (fun h=>eC (fJ rfl h) (cJ 8))) (ro rfl (gT (Ht rfl) (fun h=>(fJ rfl h))) (rm rfl (fQ rfl rfl (eK rfl rfl (Ht rfl) (fun h=>cX (Ht rfl))) ?_))))))))))))))))
 refine fQ rfl rfl (eK rfl rfl (Ht rfl) (fun h=>dG U_36 (fJ rfl h) aA)) (fQ rfl rfl (eK rfl rfl (Ht rfl) (fun h=>cX (Ht rfl))) (fQ rfl rfl (eK rfl rfl (Ht rfl) (fun h=>dG U_35 (fJ rfl h) aA)) (fQ rfl rfl (eK rfl rfl (Ht rfl) (fun h=>eO (fJ rfl h) (fJ rfl h))) (ro rfl (gT (Ht rfl) (fun h=>(fJ rfl h))) (eX (dQ (Ht rfl) (fun hb=>?_) (fun hb=>?_)))))))
 ·refine ts (ro rfl (cQ cV) (eX (fW rfl (fX (eU rfl) ?_))))
  exact (dM (by rw [Bt,hb]; rfl))
 ·refine cU (cK (ts (ro rfl (cQ (cJ 0)) (eX (eG ?_)))))
  refine bS (fun (k : Nat) => k ≤ s.length ∧ ∀ (i : Nat) (r : List Qi), i < k → s[i]? = some r → r.length = z.length) (fun (k : Nat) => s.length - k) (fun (k : Nat) => [(0, qU z), (1, QM s), (5, NT .i64 k)]) (fun (k : Nat) => []) 0 ⟨Nat.zero_le _, fun i r h => by omega⟩
   (zS rfl) aY (fun k ⟨hk,hr⟩=>?_)
  refine cK (ts (rm rfl (rm rfl (ro rfl (dG U_36 (Ht rfl) aA) (ro rfl (gX (Ht rfl) (Ht rfl)) (eX (dQ (Ht rfl) (fun hc=>?_) (fun hc=>?_))))))))
  ·simp only [decide_eq_true_eq] at hc
   refine cU (cK (eG (ts (rm rfl (rm rfl (ro rfl (dZ U_36 Z_35 (Ht rfl) (Ht rfl) rfl (dY (nV hc))) (ro rfl (dJ A_35 Z_35 (Ht rfl)) (ro rfl (dG U_35 (Ht rfl) aA) (rm rfl (ro rfl (dG U_35 (Ht rfl) aA) (ro rfl (eO (Ht rfl) (Ht rfl)) (eX (dQ (Ht rfl) (fun hd=>?_) (fun hd=>?_))))))))))))))
   ·have hd2 : ¬ (s[k]).length = z.length := by simpa using hd
    refine ts (ro rfl (cQ cV) (eX (fW rfl (fX (eU rfl) ?_))))
    exact (dM (by rw [Bt,Ms (nV hc) hd2,Bool.or_true]; rfl))
   ·have hd2 : (s[k]).length = z.length := by simpa using hd
    refine cU (bA (cY (rm rfl (ro rfl (dV (Ht rfl) (cJ 1) z6) (ra rfl (eX ?_))))))
    refine fU (k + 1) ⟨hc, fun i r h1 h2 => by
     by_cases e:i = k
     ·subst e; rw [nV hc] at h2; obtain rfl:=Option.some.inj h2; exact hd2
     ·exact hr i r zo h2⟩ zo (zS rfl) aY
  ·simp only [decide_eq_false_iff_not] at hc
   have hall:∀ (i:Nat) (r:List Qi),s[i]? = some r → r.length = z.length:=fun i r h=>hr i r (by have:=(List.getElem?_eq_some_iff.1 h).1; omega) h
   refine gV rfl (ts (ro rfl (cQ cV) (eX (fW rfl (fX (eU rfl) ?_)))))
   exact (dM (by rw [Bt,Gr hall,hb]; rfl))
theorem uR {z:List Qi} {L:Nat} (hz:bP z L) (h:L ≤ 17592186044415) (hl:z.length ≤ 100000):bB Tryz.prog 190 [qU z] (aC (z.all fP)):=by
 refine bB.intro Tryz.func190 rfl Tryz.ntmps190 rfl (fun cx=>(ts (ro rfl (cQ cV) (eX (cK (ts (ro rfl (cQ (cJ 0)) (eX (eG ?_)))))))))
 refine bS (fun (k : Nat) => k ≤ z.length ∧ ∀ (i : Nat) (r : Qi), i < k → z[i]? = some r → fP r = true) (fun (k : Nat) => z.length - k) (fun (k : Nat) => [(0, qU z), (3, NT .i64 k)]) (fun (k : Nat) => []) 0 ⟨Nat.zero_le _, fun i r h => by omega⟩
  (zS rfl) aY (fun k ⟨hk,hr⟩=>?_)
 refine cK (ts (rm rfl (rm rfl (ro rfl (dG U_35 (Ht rfl) aA) (ro rfl (gX (Ht rfl) (Ht rfl)) (eX (dQ (Ht rfl) (fun hc=>?_) (fun hc=>?_))))))))
 ·simp only [decide_eq_true_eq] at hc
  haveI hf:aD z[k] L:=hz _ (List.getElem_mem hc)
  refine cU (cK (eG (ts (rm rfl (rm rfl (ro rfl (dZ U_35 Z_131 (Ht rfl) (Ht rfl) rfl (dY (nV hc))) (ro rfl (dJ A_131 Z_131 (Ht rfl)) (ro rfl (cZ Tryz.call250 (He (L:=L) h) ⟨(Ht rfl),trivial⟩) (ro rfl (eT (Ht rfl)) (eX (dQ (Ht rfl) (fun hd=>?_) (fun hd=>?_))))))))))))
  ·have hd2 : fP z[k] = false := by simpa using hd
   refine ts (ro rfl (cQ cV) (eX (fW rfl (fX (eU rfl) ?_))))
   exact (dM (a1P (nV hc) hd2).symm)
  ·have hd2 : fP z[k] = true := by simpa using hd
   refine cU (bA (cY (rm rfl (ro rfl (dV (Ht rfl) (cJ 1) z6) (ra rfl (eX ?_))))))
   refine fU (k + 1) ⟨hc, fun i r h1 h2 => by
    by_cases e:i = k
    ·subst e; rw [nV hc] at h2; obtain rfl:=Option.some.inj h2; exact hd2
    ·exact hr i r zo h2⟩ zo (zS rfl) aY
 ·simp only [decide_eq_false_iff_not] at hc
  have hall:∀ (i:Nat) (r:Qi),z[i]? = some r → fP r = true:=fun i r h=>hr i r (by have:=(List.getElem?_eq_some_iff.1 h).1; omega) h
  refine gV rfl (ts (ro rfl (cQ cV) (eX (fW rfl (fX (eU rfl) ?_)))))
  exact (dM (Yx hall).symm)
theorem Qd {z:List Qi} {s:List (List Qi)} {L:Nat} (hz:bP z L) (h:L ≤ 17592186044415) (hl:z.length ≤ 1000) (hl2:s.length ≤ 1000):bB Tryz.prog 90 [qU z,QM s] (fH [vT (dP (bT z s) z) (dP (bT z s) s),bD .i64 (bT z s)]):=by
 refine bB.intro Tryz.func90 rfl Tryz.ntmps90 rfl (fun cx=>(ts (rn rfl (eW (Ts:=[Is (.slice none 0 0),Is (.slice none 0 0)]) O_38 rfl (fun V=>aW zd (aW zd (aG)))) fun B4=>(ro rfl (cQ (cJ 0)) (eX (cK (ts (rm rfl (rm rfl (ro rfl (cZ Tryz.call189 (Uh zo zo) ⟨(Ht rfl),(Ht rfl),trivial⟩) (ro rfl (eT (Ht rfl)) (eX (dQ (Ht rfl) (fun hb=>?_) (fun hb=>?_))))))))))))))
 ·have hb2 : ¬ Bt z s = true := by simpa using hb
  have he:bT z s = 4:=by rw [xT,if_neg hb2]
  refine ts (ro rfl (aL.imp (vW ) tH) (gQ Z_38 (Ht rfl) (Ht rfl) rfl (i:=0) rfl (aK rfl) rfl rfl (ro rfl (cQ (cJ 4)) (eX (bM rfl (fX (fK A_38 Z_38 rfl (i:=0) rfl rfl) ?_) (fX (eU rfl) ?_))))))
  ·exact (Jm he (by decide))
  ·exact (aR he.symm)
 ·have hb2 : Bt z s = true := by simpa using hb
  refine cU (cK (ts (rm rfl (ro rfl (cZ Tryz.call190 (uR (by assumption) (by assumption) zo) ⟨(Ht rfl),trivial⟩) ?_))))
  refine ro rfl (eT (Ht rfl)) (eX (dQ (Ht rfl) (fun hc=>?_) (fun hc=>?_)))
  ·have hc2 : ¬ z.all fP = true := by simp only [Bool.not_eq_true'] at hc; rw [hc]; exact Bool.noConfusion
   have he:bT z s = 1:=by rw [xT,if_pos hb2,if_neg hc2]
   refine ts (ro rfl (aL.imp (vW ) tH) (gQ Z_38 (Ht rfl) (Ht rfl) rfl (i:=0) rfl (aK rfl) rfl rfl (ro rfl (cQ (cJ 1)) (eX (bM rfl (fX (fK A_38 Z_38 rfl (i:=0) rfl rfl) ?_) (fX (eU rfl) ?_))))))
   ·exact (Jm he (by decide))
   ·exact (aR he.symm)
  ·have hc2 : z.all fP = true := by simp only [Bool.not_eq_false'] at hc; exact hc
   have he:bT z s = 0:=by rw [xT,if_pos hb2,if_pos hc2]
   refine cU (ts (rm rfl (rm rfl (ro rfl (Aj (Ht rfl) (Ht rfl)) (gQ Z_38 (Ht rfl) (Ht rfl) rfl (i:=0) rfl (aK rfl) rfl rfl (ro rfl (cQ (cJ 0)) (eX (bM rfl (fX (fK A_38 Z_38 rfl (i:=0) rfl rfl) ?_) (fX (eU rfl) ?_)))))))))
   ·exact (Rm he)
   ·exact (aR he.symm)
theorem Qe {z:List Qi} {s c:List (List Qi)} (hz:z.length ≤ 1000) (hc:c.length ≤ 1000):bB Tryz.prog 92 [vT z s,QM c] (fH [mZ (dP (dD z c) z) (dP (dD z c) s) (dP (dD z c) c),bD .i64 (dD z c)]):=by
 refine bB.intro Tryz.func92 rfl Tryz.ntmps92 rfl (fun cx=>(ts (rn rfl (fG (Ht rfl)) fun B2=>(rn rfl (eW (Ts:=[Is (.slice none 0 0),Is (.slice none 0 0),Is (.slice none 0 0)]) O_40 rfl (fun V=>aW zd (aW zd (aW zd (aG))))) fun B4=>(ro rfl (cQ (cJ 0)) (eX (cK (ts (rm rfl (ro rfl (dG U_36 (Ht rfl) aA) (ro rfl (eZ pK (Ht rfl) rfl) (ro rfl (eY A_35 Z_35 (Ht rfl) (i:=0) rfl rfl) (ro rfl (dG U_35 (Ht rfl) aA) ?_)))))))))))))
 refine ro rfl (eO (Ht rfl) (Ht rfl)) (eX (dQ (Ht rfl) (fun hb=>?_) (fun hb=>?_)))
 ·have hb2 : ¬ c.length = z.length := by simpa using hb
  have he:dD z c = 4:=by rw [← vI,wU,if_pos (.inl hb2)]
  refine ts (ro rfl (aL.imp (Ez ) vJ) (gQ Z_40 (Ht rfl) (Ht rfl) rfl (i:=1) rfl (aK rfl) rfl rfl (ro rfl (cQ (cJ 4)) (eX (bM rfl (fX (fK A_40 Z_40 rfl (i:=1) rfl rfl) ?_) (fX (eU rfl) ?_))))))
  ·exact (Bp he)
  ·exact (aR he.symm)
 ·have hb2 : c.length = z.length := by simpa using hb
  refine cU (cK (ts (ro rfl (cQ (cJ 0)) (eX (eG ?_)))))
  refine bS (fun (k : Nat) => k ≤ c.length ∧ ∀ (i : Nat) (r : List Qi), i < k → c[i]? = some r → r.length = z.length) (fun (k : Nat) => c.length - k) (fun (k : Nat) => [(1, QM c), (2, dA B2 0), (4, dA B4 0), (6, NT .i64 k)]) (fun (k : Nat) => [box B2 38 [qU z, QM s], box B4 40 [Is (.slice none 0 0), Is (.slice none 0 0), Is (.slice none 0 0)]]) 0 ⟨Nat.zero_le _, fun i r h => by omega⟩
   (zS rfl) (cT.refl _) (fun k ⟨hk,hr⟩=>?_)
  refine cK (ts (rm rfl (rm rfl (ro rfl (dG U_36 (Ht rfl) aA) (ro rfl (gX (Ht rfl) (Ht rfl)) (eX (dQ (Ht rfl) (fun hd=>?_) (fun hd=>?_))))))))
  ·simp only [decide_eq_true_eq] at hd
   refine cU (cK (eG (cK (fZ (m:=8) (dp 1 rfl (cX (Ht rfl)) (dp 6 rfl (cX (Ht rfl)) (cP 20 0 21 1 rfl (dZ U_36 Z_35 (Ht rfl) (Ht rfl) rfl (dY (nV hd))) (dq 22 2 rfl (dJ A_35 Z_35 (Ht rfl)) (dq 23 3 rfl (dG U_35 (Ht rfl) aA) (dp 2 rfl (eZ pK (Ht rfl) rfl) (dq 25 5 rfl (eY A_35 Z_35 (Ht rfl) (i:=0) rfl rfl) (dq 26 6 rfl (dG U_35 (Ht rfl) aA) (fV aO rfl (by kernel_rfl) (zF (zF (aV ?_))))))))))))))))
   refine ro rfl (eO (Ht rfl) (Ht rfl)) (eX (dQ (Ht rfl) (fun he=>?_) (fun he=>?_)))
   ·have hd2 : ¬ (c[k]).length = z.length := by simpa using he
    have he:dD z c = 4:=by rw [← vI,wU,if_pos (.inr (Ms (nV hd) hd2))]
    refine ts (ro rfl (aL.imp (Ez ) vJ) (gQ Z_40 (Ht rfl) (Ht rfl) rfl (i:=1) rfl (aK rfl) rfl rfl (ro rfl (cQ (cJ 4)) (eX (bM rfl (fX (fK A_40 Z_40 rfl (i:=1) rfl rfl) ?_) (fX (eU rfl) ?_))))))
    ·exact (Bp he)
    ·exact (aR he.symm)
   ·have hd2 : (c[k]).length = z.length := by simpa using he
    refine cU (bA (cY (rm rfl (ro rfl (dV (Ht rfl) (cJ 1) z6) (ra rfl (eX ?_))))))
    refine fU (k + 1) ⟨hd, fun i r h1 h2 => by
      by_cases e:i = k
      ·subst e; rw [nV hd] at h2; obtain rfl:=Option.some.inj h2; exact hd2
      ·exact hr i r zo h2⟩ zo (zS rfl) (cT.refl _)
  ·simp only [decide_eq_false_iff_not] at hd
   have hall:∀ (i:Nat) (r:List Qi),c[i]? = some r → r.length = z.length:=fun i r h=>hr i r (by have:=(List.getElem?_eq_some_iff.1 h).1; omega) h
   have he:dD z c = 0:=by rw [← vI,wU,if_neg (by rintro (h | h); exact h hb2; rw [Gr hall] at h; cases h)]
   refine gV rfl (ts (ro rfl (eJ A_38 Z_38 (Ht rfl) (i:=0) rfl rfl rfl) (rm rfl (ro rfl (Ak (Ht rfl) (Ht rfl)) (gQ Z_40 (Ht rfl) (Ht rfl) rfl (i:=1) rfl (aK rfl) rfl rfl (ro rfl (cQ (cJ 0)) (eX (bM rfl (fX (fK A_40 Z_40 rfl (i:=1) rfl rfl) ?_) (fX (eU rfl) ?_)))))))))
   ·exact (Jo he)
   ·exact (aR he.symm)
end
section
open Go Go.RowKit
theorem a25 {z:List Rt} {s c:List (List Rt)} (hf:vD z s c = true):bB Tryz.prog 17 [Sk z s c] (fH [iJ (Cr z s c) (Yj z s c) (Yi z s c),mZ (Cr z s c) (Yj z s c) (Yi z s c),aC true]):=by
 obtain ⟨hz,hs,hc,hsr,hcr⟩:=zE hf
 have hsr2:∀ r,r ∈ s → r.length ≤ 1000:=fun r h=>Nat.le_trans (hsr r h) (by decide)
 have hcr2:∀ r,r ∈ c → r.length ≤ 1000:=fun r h=>Nat.le_trans (hcr r h) (by decide)
 have hz1:(z.map Rt.q).length ≤ 1000:=by simp; omega
 have hs1:(rq s).length ≤ 1000:=by simp; omega
 have hc1:(rq c).length ≤ 1000:=by simp; omega
 have hz2:(dP (bT (z.map Rt.q) (rq s)) (z.map Rt.q)).length ≤ 1000:=Nat.le_trans (Oo _ _) hz1
 have hfit:bP (z.map Rt.q) 2:=bP.rt
 refine bB.intro Tryz.func17 rfl Tryz.ntmps17 rfl (fun cx=>(ts (rn rfl (fG (Ht rfl)) fun B1=>(rn rfl (eW (Ts:=[Is (.slice none 0 0),Is (.slice none 0 0),Is (.slice none 0 0)]) O_34 rfl (fun V=>aW zd (aW zd (aW zd (aG))))) fun B2=>(rn rfl (eW (Ts:=[Is (.slice none 0 0),Is (.slice none 0 0),Is (.slice none 0 0)]) O_40 rfl (fun V=>aW zd (aW zd (aW zd (aG))))) fun B3=>(ro rfl (cQ cV) ?_))))))
 refine eX (cK (Y.D_start (m:=12) [] (bY (Ei:=[(1,_)]) rfl rfl (bQ (bJ rfl rfl) bX) rfl rfl (dX rfl (eZ wG (Ht rfl) rfl)) (bY (Ei:=[(14,_)]) rfl rfl (bQ (bZ 0 rfl rfl) bX) rfl rfl (dX rfl (eY A_22 Z_22 (Ht rfl) (i:=0) rfl rfl)) (bY (Ei:=[(15,_)]) rfl rfl (bQ (bZ 1 rfl rfl) bX) rfl rfl (dX rfl (cZ Tryz.call48 (qB zo) ⟨(Ht rfl),trivial⟩)) (bY (Ei:=[(1,_)]) rfl rfl (bQ (bJ rfl rfl) bX) rfl rfl (dX rfl (eZ zA (Ht rfl) rfl)) ?_))))))
 refine bY (Ei:=[(17,_)]) rfl rfl (bQ (bZ 3 rfl rfl) bX) rfl rfl (dX rfl (eY A_23 Z_23 (Ht rfl) (i:=0) rfl rfl)) (bY (Ei:=[(18,_)]) rfl rfl (bQ (bZ 4 rfl rfl) bX) rfl rfl (dX rfl (cZ Tryz.call86 (xH zo (by assumption)) ⟨(Ht rfl),trivial⟩)) ?_)
 refine bY (Ei:=[(16,_),(19,_)]) rfl rfl (bQ (bZ 2 rfl rfl) (bQ (bZ 5 rfl rfl) bX)) rfl rfl (dX rfl (cZ Tryz.call85 (Ha (L:=2) (by assumption) zo zo zo) ⟨(Ht rfl),(Ht rfl),trivial⟩)) ?_
 refine bY (Ei:=[(20,_)]) rfl rfl (bQ (bZ 6 rfl rfl) bX) rfl rfl (dX rfl (cX (Ht rfl))) (bY (Ei:=[(13,_)]) rfl rfl (bQ (bZ 7 rfl rfl) bX) rfl rfl (dX rfl (dK (Ht rfl) rfl)) (bY (Ei:=[(13,_)]) rfl rfl (bQ (bZ 7 rfl rfl) bX) rfl rfl (dX rfl (dK (Ht rfl) rfl)) (Y.D_newp (Ei:=[]) (fun bb=>box bb 32 [bN (dP (bT (z.map Rt.q) (rq s)) (z.map Rt.q)),cE (dP (bT (z.map Rt.q) (rq s)) (rq s))]) 11 rfl rfl rfl bX rfl rfl (by kernel_rfl) (eW (Ts:=[Is (.slice none 0 0),Is (.slice none 0 0)]) O_32 rfl (fun V=>aW zd (aW zd (aG)))) ?_)))
 refine Y.D_putN (Ei:=[(21,_)]) 10 rfl rfl rfl rfl rfl rfl (bQ (bZ 8 rfl rfl) bX) (fun bb=>mE Z_32 (Ht rfl) (Ht rfl) rfl (i:=0) rfl (aK rfl) rfl rfl) (Y.D_done aO rfl (by kernel_rfl) rfl (by simp [Y.okP]) rfl rfl (bU (bU (bU (bU (bU (bU (bU (bU (bU (bU (Y.F_newp (fun B5=>Y.F_putN (Y.F_nil ?_))))))))))))))
 refine ra rfl (eX (cK (Y.D_start (m:=10) [] (bY (Ei:=[(5,_)]) rfl rfl (bQ (bJ rfl rfl) bX) rfl rfl (dX rfl (eJ A_32 Z_32 (Ht rfl) (i:=3) rfl rfl rfl)) (bY (Ei:=[(1,_)]) rfl rfl (bQ (bJ rfl rfl) bX) rfl rfl (dX rfl (eZ zB (Ht rfl) rfl)) (bY (Ei:=[(25,_)]) rfl rfl (bQ (bZ 1 rfl rfl) bX) rfl rfl (dX rfl (eY A_23 Z_23 (Ht rfl) (i:=0) rfl rfl)) (bY (Ei:=[(26,_)]) rfl rfl (bQ (bZ 2 rfl rfl) bX) rfl rfl (dX rfl (cZ Tryz.call86 (xH zo (by assumption)) ⟨(Ht rfl),trivial⟩)) ?_)))))))
 refine bY (Ei:=[(24,_),(27,_)]) rfl rfl (bQ (bZ 0 rfl rfl) (bQ (bZ 3 rfl rfl) bX)) rfl rfl (dX rfl (cZ Tryz.call55 (Tx zo zo) ⟨(Ht rfl),(Ht rfl),trivial⟩)) (bY (Ei:=[(28,_)]) rfl rfl (bQ (bZ 4 rfl rfl) bX) rfl rfl (dX rfl (cX (Ht rfl))) (bY (Ei:=[(23,_)]) rfl rfl (bQ (bZ 5 rfl rfl) bX) rfl rfl (dX rfl (dK (Ht rfl) rfl)) (bY (Ei:=[(23,_)]) rfl rfl (bQ (bZ 5 rfl rfl) bX) rfl rfl (dX rfl (dK (Ht rfl) rfl)) ?_)))
 refine Y.D_newp (Ei:=[]) (fun bb=>box bb 34 [bN (dP (dD (dP (bT (z.map Rt.q) (rq s)) (z.map Rt.q)) (rq c)) (dP (bT (z.map Rt.q) (rq s)) (z.map Rt.q))),cE (dP (dD (dP (bT (z.map Rt.q) (rq s)) (z.map Rt.q)) (rq c)) (dP (bT (z.map Rt.q) (rq s)) (rq s))),cE (dP (dD (dP (bT (z.map Rt.q) (rq s)) (z.map Rt.q)) (rq c)) (rq c))]) 9 rfl rfl rfl bX rfl rfl (by kernel_rfl) (eW (Ts:=[Is (.slice none 0 0),Is (.slice none 0 0),Is (.slice none 0 0)]) O_34 rfl (fun V=>aW zd (aW zd (aW zd (aG))))) ?_
 refine Y.D_putN (Ei:=[(29,_)]) 8 rfl rfl rfl rfl rfl rfl (bQ (bZ 6 rfl rfl) bX) (fun bb=>mE Z_34 (Ht rfl) (Ht rfl) rfl (i:=0) rfl (aK rfl) rfl rfl) (Y.D_done aO rfl (by kernel_rfl) rfl (by simp [Y.okP]) rfl rfl (bU (bU (bU (bU (bU (bU (bU (bU (Y.F_newp (fun B7=>Y.F_putN (Y.F_nil ?_))))))))))))
 refine ra rfl (eX (cK (Y.D_start (m:=12) [] (bY (Ei:=[(1,_)]) rfl rfl (bQ (bJ rfl rfl) bX) rfl rfl (dX rfl (eZ wG (Ht rfl) rfl)) (bY (Ei:=[(32,_)]) rfl rfl (bQ (bZ 0 rfl rfl) bX) rfl rfl (dX rfl (eY A_22 Z_22 (Ht rfl) (i:=0) rfl rfl)) (bY (Ei:=[(33,_)]) rfl rfl (bQ (bZ 1 rfl rfl) bX) rfl rfl (dX rfl (cZ Tryz.call50 (xL zo) ⟨(Ht rfl),trivial⟩)) (bY (Ei:=[(1,_)]) rfl rfl (bQ (bJ rfl rfl) bX) rfl rfl (dX rfl (eZ zA (Ht rfl) rfl)) ?_)))))))
 refine bY (Ei:=[(35,_)]) rfl rfl (bQ (bZ 3 rfl rfl) bX) rfl rfl (dX rfl (eY A_23 Z_23 (Ht rfl) (i:=0) rfl rfl)) (bY (Ei:=[(36,_)]) rfl rfl (bQ (bZ 4 rfl rfl) bX) rfl rfl (dX rfl (cZ Tryz.call91 (Dk zo (by assumption)) ⟨(Ht rfl),trivial⟩)) ?_)
 refine bY (Ei:=[(34,_),(37,_)]) rfl rfl (bQ (bZ 2 rfl rfl) (bQ (bZ 5 rfl rfl) bX)) rfl rfl (dX rfl (cZ Tryz.call90 (Qd (L:=2) (by assumption) zo zo zo) ⟨(Ht rfl),(Ht rfl),trivial⟩)) ?_
 refine bY (Ei:=[(38,_)]) rfl rfl (bQ (bZ 6 rfl rfl) bX) rfl rfl (dX rfl (cX (Ht rfl))) (bY (Ei:=[(31,_)]) rfl rfl (bQ (bZ 7 rfl rfl) bX) rfl rfl (dX rfl (dK (Ht rfl) rfl)) (bY (Ei:=[(31,_)]) rfl rfl (bQ (bZ 7 rfl rfl) bX) rfl rfl (dX rfl (dK (Ht rfl) rfl)) (Y.D_newp (Ei:=[]) (fun bb=>box bb 38 [qU (dP (bT (z.map Rt.q) (rq s)) (z.map Rt.q)),QM (dP (bT (z.map Rt.q) (rq s)) (rq s))]) 11 rfl rfl rfl bX rfl rfl (by kernel_rfl) (eW (Ts:=[Is (.slice none 0 0),Is (.slice none 0 0)]) O_38 rfl (fun V=>aW zd (aW zd (aG)))) ?_)))
 refine Y.D_putN (Ei:=[(39,_)]) 10 rfl rfl rfl rfl rfl rfl (bQ (bZ 8 rfl rfl) bX) (fun bb=>mE Z_38 (Ht rfl) (Ht rfl) rfl (i:=0) rfl (aK rfl) rfl rfl) (Y.D_done aO rfl (by kernel_rfl) rfl (by simp [Y.okP]) rfl rfl (bU (bU (bU (bU (bU (bU (bU (bU (bU (bU (Y.F_newp (fun B9=>Y.F_putN (Y.F_nil ?_))))))))))))))
 refine ra rfl (eX (cK (Y.D_start (m:=10) [] (bY (Ei:=[(9,_)]) rfl rfl (bQ (bJ rfl rfl) bX) rfl rfl (dX rfl (eJ A_38 Z_38 (Ht rfl) (i:=5) rfl rfl rfl)) (bY (Ei:=[(1,_)]) rfl rfl (bQ (bJ rfl rfl) bX) rfl rfl (dX rfl (eZ zB (Ht rfl) rfl)) (bY (Ei:=[(43,_)]) rfl rfl (bQ (bZ 1 rfl rfl) bX) rfl rfl (dX rfl (eY A_23 Z_23 (Ht rfl) (i:=0) rfl rfl)) (bY (Ei:=[(44,_)]) rfl rfl (bQ (bZ 2 rfl rfl) bX) rfl rfl (dX rfl (cZ Tryz.call91 (Dk zo (by assumption)) ⟨(Ht rfl),trivial⟩)) ?_)))))))
 refine bY (Ei:=[(42,_),(45,_)]) rfl rfl (bQ (bZ 0 rfl rfl) (bQ (bZ 3 rfl rfl) bX)) rfl rfl (dX rfl (cZ Tryz.call92 (Qe zo zo) ⟨(Ht rfl),(Ht rfl),trivial⟩)) (bY (Ei:=[(46,_)]) rfl rfl (bQ (bZ 4 rfl rfl) bX) rfl rfl (dX rfl (cX (Ht rfl))) (bY (Ei:=[(41,_)]) rfl rfl (bQ (bZ 5 rfl rfl) bX) rfl rfl (dX rfl (dK (Ht rfl) rfl)) (bY (Ei:=[(41,_)]) rfl rfl (bQ (bZ 5 rfl rfl) bX) rfl rfl (dX rfl (dK (Ht rfl) rfl)) ?_)))
 refine Y.D_newp (Ei:=[]) (fun bb=>box bb 40 [qU (dP (dD (dP (bT (z.map Rt.q) (rq s)) (z.map Rt.q)) (rq c)) (dP (bT (z.map Rt.q) (rq s)) (z.map Rt.q))),QM (dP (dD (dP (bT (z.map Rt.q) (rq s)) (z.map Rt.q)) (rq c)) (dP (bT (z.map Rt.q) (rq s)) (rq s))),QM (dP (dD (dP (bT (z.map Rt.q) (rq s)) (z.map Rt.q)) (rq c)) (rq c))]) 9 rfl rfl rfl bX rfl rfl (by kernel_rfl) (eW (Ts:=[Is (.slice none 0 0),Is (.slice none 0 0),Is (.slice none 0 0)]) O_40 rfl (fun V=>aW zd (aW zd (aW zd (aG))))) ?_
 refine Y.D_putN (Ei:=[(47,_)]) 8 rfl rfl rfl rfl rfl rfl (bQ (bZ 6 rfl rfl) bX) (fun bb=>mE Z_40 (Ht rfl) (Ht rfl) rfl (i:=0) rfl (aK rfl) rfl rfl) (Y.D_done aO rfl (by kernel_rfl) rfl (by simp [Y.okP]) rfl rfl (bU (bU (bU (bU (bU (bU (bU (bU (Y.F_newp (fun B11=>Y.F_putN (Y.F_nil ?_))))))))))))
 refine ra rfl (eX (cK (Y.D_start (m:=16) [(14,1,box B2 34 [bN (dP (dD (dP (bT (z.map Rt.q) (rq s)) (z.map Rt.q)) (rq c)) (dP (bT (z.map Rt.q) (rq s)) (z.map Rt.q))),cE (dP (dD (dP (bT (z.map Rt.q) (rq s)) (z.map Rt.q)) (rq c)) (dP (bT (z.map Rt.q) (rq s)) (rq s))),cE (dP (dD (dP (bT (z.map Rt.q) (rq s)) (z.map Rt.q)) (rq c)) (rq c))]),(15,2,box B3 40 [qU (dP (dD (dP (bT (z.map Rt.q) (rq s)) (z.map Rt.q)) (rq c)) (dP (bT (z.map Rt.q) (rq s)) (z.map Rt.q))),QM (dP (dD (dP (bT (z.map Rt.q) (rq s)) (z.map Rt.q)) (rq c)) (dP (bT (z.map Rt.q) (rq s)) (rq s))),QM (dP (dD (dP (bT (z.map Rt.q) (rq s)) (z.map Rt.q)) (rq c)) (rq c))])] ?_)))
 refine Y.D_step (Ei:=[(7,_)]) rfl rfl (bQ (bJ rfl rfl) bX) rfl rfl (by kernel_rfl) (dX rfl (eJ A_34 Z_34 (Ht rfl) (i:=4) rfl rfl rfl)) (bY (Ei:=[(11,_)]) rfl rfl (bQ (bJ rfl rfl) bX) rfl rfl (dX rfl (eJ A_40 Z_40 (Ht rfl) (i:=6) rfl rfl rfl)) (Y.D_step (Ei:=[(6,_)]) rfl rfl (bQ (bJ rfl rfl) bX) rfl rfl (by kernel_rfl) (dX rfl (cX (Ht rfl))) (Y.D_step (Ei:=[(10,_)]) rfl rfl (bQ (bJ rfl rfl) bX) rfl rfl (by kernel_rfl) (dX rfl (cX (Ht rfl))) ?_)))
 refine Y.D_step (Ei:=[(51,_),(52,_)]) rfl rfl (bQ (bZ 2 rfl rfl) (bQ (bZ 3 rfl rfl) bX)) rfl rfl (by kernel_rfl) (dX rfl (lH (Ht rfl) (Ht rfl))) (Y.D_step (Ei:=[(53,_)]) rfl rfl (bQ (bZ 4 rfl rfl) bX) rfl rfl (by kernel_rfl) (dX rfl (cX (Ht rfl))) (Y.D_step (Ei:=[(6,_),(54,_)]) rfl rfl (bQ (bJ rfl rfl) (bQ (bZ 5 rfl rfl) bX)) rfl rfl (by kernel_rfl) (kX rfl rfl (Ht rfl) (fun h=>cX (Ht rfl))) (Y.D_step (Ei:=[(55,_),(54,_)]) rfl rfl (bQ (bZ 6 rfl rfl) (bQ (bZ 5 rfl rfl) bX)) rfl rfl (by kernel_rfl) (kX rfl rfl (Ht rfl) (fun h=>kE (bF.wu rfl h) cV)) ?_)))
 refine Y.D_step (Ei:=[(56,_),(54,_)]) rfl rfl (bQ (bZ 7 rfl rfl) (bQ (bZ 5 rfl rfl) bX)) rfl rfl (by kernel_rfl) (kX rfl rfl (Ht rfl) (fun h=>cX (bF.wu rfl h))) (bY (Ei:=[(8,_),(57,_)]) rfl rfl (bQ (bJ rfl rfl) (bQ (bZ 8 rfl rfl) bX)) rfl rfl (pE rfl rfl rfl (fun h h2=>cX (Ht rfl))) (bY (Ei:=[(12,_),(57,_)]) rfl rfl (bQ (bJ rfl rfl) (bQ (bZ 8 rfl rfl) bX)) rfl rfl (pE rfl rfl rfl (fun h h2=>cX (Ht rfl))) (bY (Ei:=[(58,_),(59,_),(57,_)]) rfl rfl (bQ (bZ 9 rfl rfl) (bQ (bZ 10 rfl rfl) (bQ (bZ 8 rfl rfl) bX))) rfl rfl (pE rfl rfl rfl (fun h h2=>lH (bF.wu rfl ⟨h,h2⟩) (bF.wu rfl ⟨h,h2⟩))) ?_)))
 refine bY (Ei:=[(57,_),(60,_),(54,_)]) rfl rfl (bQ (bZ 8 rfl rfl) (bQ (bZ 11 rfl rfl) (bQ (bZ 5 rfl rfl) bX))) rfl rfl (kX rfl rfl (Ht rfl) (fun h=>gT (bF.wu rfl h) (fun h2=>(bF.wu rfl ⟨h,h2⟩)))) (bY (Ei:=[(54,_),(61,_)]) rfl rfl (bQ (bZ 5 rfl rfl) (bQ (bZ 12 rfl rfl) bX)) rfl rfl (dX rfl (fE (Ht rfl) (fun h=>(bF.wu rfl h)))) (Y.D_putI (Ei:=[(2,_),(49,_)]) 1 rfl rfl rfl (bQ (bJ rfl rfl) (bQ (bZ 0 rfl rfl) bX)) (.head _) rfl (mE Z_34 (Ht rfl) (Ht rfl) rfl (i:=0) rfl (aK rfl) rfl rfl) ?_))
 refine Y.D_putI (Ei:=[(3,_),(50,_)]) 2 rfl rfl rfl (bQ (bJ rfl rfl) (bQ (bZ 1 rfl rfl) bX)) (.tail _ (.head _)) rfl (mE Z_40 (Ht rfl) (Ht rfl) rfl (i:=0) rfl (aK rfl) rfl rfl) (Y.D_done aO rfl (by kernel_rfl) rfl (by simp [Y.okP]) rfl rfl (bU (bU (bU (bU (bU (bU (bU (bU (bU (bU (bU (bU (bU (bU (Y.F_putI (Y.F_putI (Y.F_nil ?_))))))))))))))))))
 refine ra rfl (eX (a1N rfl (fK A_34 Z_34 rfl (i:=1) rfl rfl) (fK A_40 Z_40 rfl (i:=2) rfl rfl) (fX (eU rfl) ?_)))
 exact (dM (by simp))
end
section
open Go Go.RowKit
theorem zD (a:Addr) (w:World):(Instr.fieldAt 38 (.pointer (some a)) 1).run Tryz.prog w = .ok (.pointer (some (a.add 1))) w:=by
 simp [Instr.fieldAt,Instr.sureAddr,fieldPlace,Sem.run_bind,Result.andThen,U_38,Z_36]
end
section
open Go Go.RowKit
theorem oL {n m:Nat} (hn:n ≤ 1000) (hm:m ≤ 1000):gF Tryz.prog 129 [NT .i64 n,NT .i64 m] [] (Nat) (fun B=>Is (.slice (some ⟨B,0,none⟩) n n)) (fun B=>[jQ dT B 35 131 5 (bL QT (tP n m))]) (fun _=>True):=by
 refine gF.intro Tryz.func129 rfl Tryz.ntmps129 rfl (fun cx Z=>(ts (ro rfl (cQ cV) (eX (ts (rm rfl (rn rfl (eE (T:=Is (.slice none 0 0)) (i:=Tryz.t35) Tryz.underlying36 Fv rfl rfl (Ht rfl) rfl (fun _=>rfl) trivial (by show 24 * _ ≤ _; omega) zo) fun B9=>(ra rfl (eX (cK (ts (ro rfl (cQ (cJ 0)) (eX (eG (nO 1 rfl (wM dT ⟨none,0,rfl⟩ (e:=131) (s:=5)) ?_)))))))))))))))
 refine gB (fun (k : Nat) (M : List (List Qi)) => lJ (fun _ => tab m fun _ => Qi.zero) n M k) (fun (k : Nat) (M : List (List Qi)) => n - k) (fun (k : Nat) (M : List (List Qi)) => [(0, NT .i64 n), (1, NT .i64 m), (5, Is (.slice (some ⟨B9, 0, none⟩) n n)), (6, NT .i64 k)]) (fun (k : Nat) (M : List (List Qi)) => [Z, jQ dT B9 35 131 5 (bL QT M)]) 0 (List.replicate n []) (lJ.start _ _ _)
  (zS rfl) (aU (fun _ _ _ h=>h) (aU (bE (mK QT n)) aY)) (fun k M hS=>?_)
 refine cK (ts (rm rfl (rm rfl (ro rfl (gX (Ht rfl) (Ht rfl)) (eX (dQ (Ht rfl) (fun hk=>?_) (fun hk=>?_)))))))
 ·simp only [decide_eq_true_eq] at hk
  have hlen:=hS.len
  refine jK 1 (k) rfl (jP (m:=M) (i:=k) zo) (fun v hv=>(cU (cK (eG (ts (rm rfl (rm rfl (rm rfl (Mq (T:=ZQ) (i:=Tryz.t131) Cf sJ rfl rfl (Ht rfl) rfl a3V (El.ag rfl) (by show 88 * _ ≤ _; omega) zo rfl (fun B18 hB18=>(ro rfl (fY U_36 Z_35 (Ht rfl) (Ht rfl) rfl zo (by rw [Nat.mul_one,Nat.zero_add])) ?_)))))))))))
  refine rX Z_35 (Ht rfl) (Ht rfl) (by simp; omega) (j:=1) (l:=3) rfl rfl rfl ?_
  refine eX (cK (cH [0,1,3] rfl (by decide) (cY (ro rfl (cQ (cJ 0)) (eX (eG ?_))))))
  refine gB (fun (j : Nat) (out : List Ty) => lJ (fun _ => QT Qi.zero) m out j) (fun (j : Nat) (out : List Ty) => m - j) (fun (j : Nat) (out : List Ty) => [(0, NT .i64 n), (1, NT .i64 m), (5, Is (.slice (some ⟨B9, 0, none⟩) n n)), (6, NT .i64 k), (7, NT .i64 j)]) (fun (j : Nat) (out : List Ty) => [Z, qK dT B9 35 131 5 (bL QT M) k B18, cD 131 5 B18 out]) 0 (List.replicate m ZQ) (lJ.start _ _ _)
   (zS rfl) (cT.refl _) (fun j out hT=>?_)
  refine cK (ts (rm rfl (rm rfl (ro rfl (gX (Ht rfl) (Ht rfl)) (eX (dQ (Ht rfl) (fun hj=>?_) (fun hj=>?_)))))))
  ·simp only [decide_eq_true_eq] at hj
   have hlen2:=hT.len
   refine cU (cK (eG (fZ (m:=6) (dp 5 rfl (cX (Ht rfl)) (dp 6 rfl (cX (Ht rfl)) (cP 25 0 26 1 rfl (fY U_36 Z_35 (Ht rfl) (Ht rfl) rfl zo (by rw [Nat.mul_one,Nat.zero_add])) ?_))))))
   refine dq 27 2 rfl (gS A_35 Z_35 (Ht rfl) (j:=1) rfl) (dp 7 rfl (cX (Ht rfl)) (d0 rfl (cZ K_148 (oN (by decide) (by decide)) ⟨(cJ 0),trivial⟩) (fV aO rfl (by kernel_rfl) (zF (aJ (aJ (aV (ro rfl (dB U_35 Z_131 (Ht rfl) (Ht rfl) rfl (i:=2) rfl zo rfl) (kM Z_131 (Ht rfl) (Ht rfl) (El.ag rfl) (i:=2) rfl rfl (by first | omega | (simp; omega)) rfl (eX (bA (cY (rm rfl (ro rfl (dV (Ht rfl) (cJ 1) z6) ?_))))))))))))))
   refine ra rfl (eX (fU (j + 1,_) (hT.next hj rfl) (by dsimp only; omega) (zS rfl) (cT.refl _)))
  ·simp only [decide_eq_false_iff_not] at hj
   obtain rfl:j = m:=Nat.le_antisymm hT.kle zo
   have hfin:=hT.fin
   rw [← zU _ (fun _=>Qi.zero) QT] at hfin
   subst hfin
   refine gV rfl (bA (dS 1 2 rfl rfl (by decide) (by show k < (bL QT M).length; simp only [bL,List.length_map]; omega) (cY (rm rfl (ro rfl (dV (Ht rfl) (cJ 1) z6) (ra rfl (eX (cH [0,1] rfl (by decide) (fU (k + 1,_) (hS.next hk rfl) (by dsimp only; omega) (zS rfl) (aU (fun _ _ _ h=>h) (aU (bE (eH QT _ _ _)) aY)))))))))))
 ·simp only [decide_eq_false_iff_not] at hk
  obtain rfl:k = n:=Nat.le_antisymm hS.kle zo
  have hfin:=hS.fin
  refine gV rfl (ts (rm rfl (ra rfl (eX ?_))))
  exact jM B9 trivial [0,1] ⟨⟨_,rfl,fun _ _ _ h=>h⟩,⟨_,rfl,(bE (by rw [hfin]; rfl))⟩,trivial⟩ (by decide) (vM rfl (eU rfl))
theorem Zp {p c:List (List Qi)} {L:Nat} (hp:aS p L) (hc:aS c L) (hL1:1 ≤ L) (hL:L ≤ 1000000000) (hps:cM p p.length c.length) (hcs:cM c c.length c.length) (hpl:p.length ≤ 8) (hcl:c.length ≤ 8):gF Tryz.prog 102 [QM p,QM c] [] (Nat) (fun B=>Is (.slice (some ⟨B,0,none⟩) p.length p.length)) (fun B=>[jQ dT B 35 131 5 (bL QT (kC p c))]) (fun _=>True):=by
 refine gF.intro Tryz.func102 rfl Tryz.ntmps102 rfl (fun cx Z=>(ts (ro rfl (cQ cV) (eX (ts (rm rfl (ro rfl (dG U_36 (Ht rfl) aA) (rm rfl (ro rfl (dG U_36 (Ht rfl) aA) (jF K_129 (oL (n:=p.length) (m:=p.length) zo zo) ⟨(Ht rfl),(Ht rfl),trivial⟩ rfl (fun B14 _=>(ra rfl (eX (cK (ts (ro rfl (cQ (cJ 0)) (eX (eG ?_))))))))))))))))))
 refine bS (fun (i : Nat) => i ≤ p.length) (fun (i : Nat) => p.length - i) (fun (i : Nat) => [(0, QM p), (1, QM c), (5, Is (.slice (some ⟨B14, 0, none⟩) p.length p.length)), (6, NT .i64 i)]) (fun (i : Nat) => [Z, jQ dT B14 35 131 5 (bL QT (iU (fun i => tab p.length fun k => xM p c c.length i k) (tab p.length fun _ => Qi.zero) p.length i))]) 0 (Nat.zero_le _)
  (zS rfl) (aU (fun _ _ _ h=>h) (aU (bE (by rw [tP,iF])) aY)) (fun i hi=>?_)
 refine cK (ts (rm rfl (rm rfl (ro rfl (dG U_36 (Ht rfl) aA) (ro rfl (gX (Ht rfl) (Ht rfl)) (eX (dQ (Ht rfl) (fun hd=>?_) (fun hd=>?_))))))))
 ·simp only [decide_eq_true_eq] at hd
  refine jK 1 (i) rfl (kQ hd) (fun v hv=>(cU (cK (eG (ts (ro rfl (cQ (cJ 0)) (eX (eG ?_))))))))
  refine bS (fun (k : Nat) => k ≤ p.length) (fun (k : Nat) => p.length - k) (fun (k : Nat) => [(0, QM p), (1, QM c), (5, Is (.slice (some ⟨B14, 0, none⟩) p.length p.length)), (6, NT .i64 i), (7, NT .i64 k)]) (fun (k : Nat) => [Z, qK dT B14 35 131 5 (bL QT (iU (fun i => tab p.length fun k => xM p c c.length i k) (tab p.length fun _ => Qi.zero) p.length i)) i v, cD 131 5 v ((iU (fun k => xM p c c.length i k) Qi.zero p.length k).map QT)]) 0 (Nat.zero_le _)
   (zS rfl) (aU (fun _ _ _ h=>h) (aU (fun _ _ _ h=>h) (aU (cA (by rw [iF])) aY))) (fun k hk=>?_)
  refine cK (ts (rm rfl (rm rfl (ro rfl (dG U_36 (Ht rfl) aA) (ro rfl (gX (Ht rfl) (Ht rfl)) (eX (dQ (Ht rfl) (fun he=>?_) (fun he=>?_))))))))
  ·simp only [decide_eq_true_eq] at he
   have hrl:=eM (fun k=>xM p c c.length i k) Qi.zero p.length k
   refine cU (cK (eG (ts (ro rfl (cQ (cJ 0)) (eX (eG ?_))))))
   refine bS (fun (a : Nat) => a ≤ c.length) (fun (a : Nat) => c.length - a) (fun (a : Nat) => [(0, QM p), (1, QM c), (5, Is (.slice (some ⟨B14, 0, none⟩) p.length p.length)), (6, NT .i64 i), (7, NT .i64 k), (8, NT .i64 a)]) (fun (a : Nat) => [Z, qK dT B14 35 131 5 (bL QT (iU (fun i => tab p.length fun k => xM p c c.length i k) (tab p.length fun _ => Qi.zero) p.length i)) i v, cD 131 5 v (((iU (fun k => xM p c c.length i k) Qi.zero p.length k).set k (aH a fun a => aH c.length fun b => wA p c i k a b)).map QT)]) 0 (Nat.zero_le _)
    (zS rfl) (aU (fun _ _ _ h=>h) (aU (fun _ _ _ h=>h) (aU (cA (by rw [aH,Ir he])) aY))) (fun a ha=>?_)
   refine cK (ts (rm rfl (rm rfl (ro rfl (dG U_36 (Ht rfl) aA) (ro rfl (gX (Ht rfl) (Ht rfl)) (eX (dQ (Ht rfl) (fun hf=>?_) (fun hf=>?_))))))))
   ·simp only [decide_eq_true_eq] at hf
    refine cU (cK (eG (ts (ro rfl (cQ (cJ 0)) (eX (eG ?_))))))
    refine bS (fun (b : Nat) => b ≤ c.length) (fun (b : Nat) => c.length - b) (fun (b : Nat) => [(0, QM p), (1, QM c), (5, Is (.slice (some ⟨B14, 0, none⟩) p.length p.length)), (6, NT .i64 i), (7, NT .i64 k), (8, NT .i64 a), (9, NT .i64 b)]) (fun (b : Nat) => [Z, qK dT B14 35 131 5 (bL QT (iU (fun i => tab p.length fun k => xM p c c.length i k) (tab p.length fun _ => Qi.zero) p.length i)) i v, cD 131 5 v (((iU (fun k => xM p c c.length i k) Qi.zero p.length k).set k ((aH a fun a => aH c.length fun b => wA p c i k a b) + aH b fun b => wA p c i k a b)).map QT)]) 0 (Nat.zero_le _)
     (zS rfl) (aU (fun _ _ _ h=>h) (aU (fun _ _ _ h=>h) (aU (cA (by rw [aH,Qi.add_zero'])) aY))) (fun b hb=>?_)
    refine cK (ts (rm rfl (rm rfl (ro rfl (dG U_36 (Ht rfl) aA) (ro rfl (gX (Ht rfl) (Ht rfl)) (eX (dQ (Ht rfl) (fun hg=>?_) (fun hg=>?_))))))))
    ·simp only [decide_eq_true_eq] at hg
     have hpr:=hps.row hd
     have hpk:=hps.row he
     have hcr:=hcs.row hf
     haveI f1:aD (gm p i a) L:=hp.get hL1 i a
     haveI f2:aD (gm c a b) L:=hc.get hL1 a b
     haveI f3:aD (gm p k b) L:=hp.get hL1 k b
     haveI f4:aD (aH a fun a=>aH c.length fun b=>wA p c i k a b) (200 * L + 300):=Nk hp hc hL1 hcl zo i k
     haveI f5:aD (aH b fun b=>wA p c i k a b) (24 * L + 25):=Uk hp hc hL1 zo i k a
     have hsl:((iU (fun k=>xM p c c.length i k) Qi.zero p.length k).set k ((aH a fun a=>aH c.length fun b=>wA p c i k a b) + aH b fun b=>wA p c i k a b)).length = p.length:=by rw [List.length_set,hrl]
     refine cU (cK (eG (fZ (m:=37) (dp 5 rfl (cX (Ht rfl)) (dp 6 rfl (cX (Ht rfl)) (cP 39 0 40 1 rfl (fY U_36 Z_35 (Ht rfl) (Ht rfl) rfl zo (by rw [Nat.mul_one,Nat.zero_add])) ?_))))))
     refine dq 41 2 rfl (gS A_35 Z_35 (Ht rfl) (j:=1) rfl) (dp 7 rfl (cX (Ht rfl)) (dp 5 rfl (cX (Ht rfl)) (dp 6 rfl (cX (Ht rfl)) (cP 44 5 45 6 rfl (fY U_36 Z_35 (Ht rfl) (Ht rfl) rfl zo (by rw [Nat.mul_one,Nat.zero_add])) ?_))))
     refine dq 46 7 rfl (gS A_35 Z_35 (Ht rfl) (j:=1) rfl) (dp 7 rfl (cX (Ht rfl)) (cP 47 8 48 9 rfl (dB U_35 Z_131 (Ht rfl) (Ht rfl) rfl (i:=2) rfl (by simp only [List.length_map]; omega) rfl) ?_))
     refine dq 49 10 rfl (oX A_131 Z_131 (Ht rfl) (i:=2) rfl rfl (dY (a0Z (by rw [hrl]; exact he)))) ?_
     refine dp 0 rfl (cX (Ht rfl)) (dp 6 rfl (cX (Ht rfl)) (cP 51 12 52 13 rfl (dZ U_36 Z_35 (Ht rfl) (Ht rfl) rfl (dY (dU (d:=[]) hd))) (dq 53 14 rfl (dJ A_35 Z_35 (Ht rfl)) (dp 8 rfl (cX (Ht rfl)) (cP 54 15 55 16 rfl (dZ U_35 Z_131 (Ht rfl) (Ht rfl) rfl (dY (dU (d:=Qi.zero) (by rw [hpr]; exact hf)))) ?_)))))
     refine dq 56 17 rfl (dJ A_131 Z_131 (Ht rfl)) (dp 1 rfl (cX (Ht rfl)) (dp 8 rfl (cX (Ht rfl)) (cP 58 19 59 20 rfl (dZ U_36 Z_35 (Ht rfl) (Ht rfl) rfl (dY (dU (d:=[]) hf))) (dq 60 21 rfl (dJ A_35 Z_35 (Ht rfl)) (dp 9 rfl (cX (Ht rfl)) (cP 61 22 62 23 rfl (dZ U_35 Z_131 (Ht rfl) (Ht rfl) rfl (dY (dU (d:=Qi.zero) (by rw [hcr]; exact hg)))) ?_))))))
     refine dq 63 24 rfl (dJ A_131 Z_131 (Ht rfl)) (cP 57 18 64 25 rfl (cZ K_146 (oM zo) ⟨(Ht rfl),(Ht rfl),trivial⟩) (dp 0 rfl (cX (Ht rfl)) (dp 7 rfl (cX (Ht rfl)) (cP 66 27 67 28 rfl (dZ U_36 Z_35 (Ht rfl) (Ht rfl) rfl (dY (dU (d:=[]) he))) (dq 68 29 rfl (dJ A_35 Z_35 (Ht rfl)) (dp 9 rfl (cX (Ht rfl)) (cP 69 30 70 31 rfl (dZ U_35 Z_131 (Ht rfl) (Ht rfl) rfl (dY (dU (d:=Qi.zero) (by rw [hpk]; exact hg)))) ?_)))))))
     refine dq 71 32 rfl (dJ A_131 Z_131 (Ht rfl)) (dq 72 33 rfl (cZ Tryz.call173 Fj ⟨(Ht rfl),trivial⟩) (cP 65 26 73 34 rfl (cZ K_146 (oM zo) ⟨(Ht rfl),(Ht rfl),trivial⟩) (cP 50 11 74 35 rfl (cZ K_149 (vB zo) ⟨(Ht rfl),(Ht rfl),trivial⟩) (fV aO rfl (by kernel_rfl) (zF (zF (zF (zF (zF (zF (zF (zF (zF (aJ (aV ?_)))))))))))))))
     refine ro rfl (dB U_35 Z_131 (Ht rfl) (Ht rfl) rfl (i:=2) rfl (by simp only [List.length_map]; omega) rfl) ?_
     refine kM Z_131 (Ht rfl) (Ht rfl) (El.ag rfl) (i:=2) rfl rfl (by simp only [List.length_map]; omega) rfl ?_
     refine eX (bA (cY (rm rfl (ro rfl (dV (Ht rfl) (cJ 1) z6) (ra rfl (eX (fU (b + 1) hg zo (zS rfl) (aU (fun _ _ _ h=>h) (aU (fun _ _ _ h=>h) (aU (cA (by rw [fI,List.set_set,Qi.add_assoc',aH]; rfl)) aY))))))))))
    ·simp only [decide_eq_false_iff_not] at hg
     obtain rfl:b = c.length:=Nat.le_antisymm hb zo
     refine gV rfl (bA (cY (rm rfl (ro rfl (dV (Ht rfl) (cJ 1) z6) (ra rfl (eX (fU (a + 1) hf zo (zS rfl) (aU (fun _ _ _ h=>h) (aU (fun _ _ _ h=>h) (aU (cA (by rw [aH])) aY))))))))))
   ·simp only [decide_eq_false_iff_not] at hf
    obtain rfl:a = c.length:=Nat.le_antisymm ha zo
    refine gV rfl (bA (cY (rm rfl (ro rfl (dV (Ht rfl) (cJ 1) z6) (ra rfl (eX (fU (k + 1) he zo (zS rfl) (aU (fun _ _ _ h=>h) (aU (fun _ _ _ h=>h) (aU (cA (by rw [← jH (f:=fun k=>xM p c c.length i k)]; rfl)) aY))))))))))
  ·simp only [decide_eq_false_iff_not] at he
   obtain rfl:k = p.length:=Nat.le_antisymm hk zo
   refine gV rfl (bA (dS 1 2 rfl rfl (by decide) (by simp only [bL,List.length_map,eM]; omega) ?_))
   refine cY (rm rfl (ro rfl (dV (Ht rfl) (cJ 1) z6) (ra rfl (eX (cH [0,1] rfl (by decide) (fU (i + 1) hd zo (zS rfl) (aU (fun _ _ _ h=>h) (aU (bE (by rw [eH,jG,← jH (f:=(fun i=>tab p.length fun k=>xM p c c.length i k))])) aY))))))))
 ·simp only [decide_eq_false_iff_not] at hd
  obtain rfl:i = p.length:=Nat.le_antisymm hi zo
  refine gV rfl (ts (rm rfl (ra rfl (eX ?_))))
  exact jM B14 trivial [0,1] ⟨⟨_,rfl,fun _ _ _ h=>h⟩,⟨_,rfl,(bE (by rw [jG]; rfl))⟩,trivial⟩ (by decide) (vM rfl (eU rfl))
end
section
open Go Go.RowKit
theorem a29 {p c:List (List Qi)} {L:Nat} (hp:aS p L) (hc:aS c L) (hL1:1 ≤ L) (hL:L ≤ 1000000000) (hps:cM p p.length c.length) (hcs:cM c c.length c.length) (hpl:p.length ≤ 8) (hcl:c.length ≤ 8):bB Tryz.prog 102 [QM p,QM c] (QM (kC p c)):=(Zp hp hc hL1 hL hps hcs hpl hcl).fun fun B _ v S V h1 h2=>gK (s:=5) (M:=kC p c) oO.1.symm v S V h1 h2
end
section
open Go Go.RowKit
theorem mT (v : Value) (w : World) : (method (Tryz.prog.types.size + Made.depth) 51 v "Of").run Tryz.prog w = .ok (302, v) w := by kernel_rfl
theorem dE (v:Value) (w:World):(Instr.makeInterface 51 v).run Tryz.prog w = .ok (.iface 51 v) w:=by
 simp [Instr.makeInterface,Sem.run_bind,Result.andThen,U_51]
end
section
open Go Go.RowKit
theorem a2c {x:Qi} {L:Nat} [hx:aD x L] (h:L ≤ 8796093022208):bB Tryz.prog 159 [aN x] (aC (Ke x)):=by
 haveI hz:aD Qi.zero 1:=aD.zero (Nat.le_refl 1)
 rw [← a1a]
 refine bB.intro Tryz.func159 rfl Tryz.ntmps159 rfl (fun cx=>(ts (rn rfl (fG (Ht rfl)) fun B1=>(ro rfl (cQ cV) (eX (cK (fZ (m:=5) (dp 1 rfl (eJ A_51 Z_51 (Ht rfl) (i:=0) rfl rfl rfl) (dq 3 0 rfl (cZ Tryz.call169 Fd ⟨(Ht rfl),trivial⟩) (dq 4 1 rfl (cX (Ht rfl)) (C.D_step (Ei:=[(1,_),(5,_)]) rfl rfl (bV (bK rfl rfl) (bV (bG 2 rfl rfl) bW)) (eK rfl rfl (Ht rfl) (fun h=>eJ A_51 Z_51 (Ht rfl) (i:=0) rfl rfl rfl)) (C.D_step (Ei:=[(5,_)]) rfl rfl (bV (bG 2 rfl rfl) bW) (eK rfl rfl (Ht rfl) (fun h=>cZ K_77 (qA (n:=0) (by decide) (by decide)) ⟨(cJ 0),trivial⟩)) ?_))))))))))))
 refine fV aO rfl (by kernel_rfl) (zF (aJ (aV (fQ rfl rfl (eK rfl rfl (Ht rfl) (fun h=>cZ Tryz.call76 (Th (x:=x) (y:=Qi.zero) (M:=1) zo) ⟨(fJ rfl h),(fJ rfl h),trivial⟩)) (fQ rfl rfl (eK rfl rfl (Ht rfl) (fun h=>lT (fJ rfl h) cV)) (ro rfl (fE (Ht rfl) (fun h=>(fJ rfl h))) (ra rfl (eX ?_))))))))
 exact fW rfl (eU rfl)
theorem Df {y:Qi}:bB Tryz.prog 302 [fB [Is (.bool false),Is (.slice none 0 0),Is (.bool false),Is (.slice none 0 0),Is (.slice none 0 0)],aN y] (aN y):=by
 refine bB.intro Tryz.func302 rfl Tryz.ntmps302 rfl (fun cx=>(ts (rn rfl (fG (Ht rfl)) fun B2=>(rn rfl (fG (Ht rfl)) fun B3=>(rn rfl (eW (Ts:=[Is (.bool false),Is (.slice none 0 0),Is (.bool false),Is (.slice none 0 0),Is (.slice none 0 0)]) O_51 rfl (fun V=>aW zd (aW zd (aW zd (aW zd (aW zd (aG))))))) fun B4=>(eX (ts (ro rfl (eJ A_51 Z_51 (Ht rfl) (i:=1) rfl rfl rfl) (gQ Z_51 (Ht rfl) (Ht rfl) rfl (i:=2) rfl (aK rfl) rfl rfl ?_)))))))))
 refine eX ?_
 exact fW rfl (fK A_51 Z_51 rfl (i:=2) rfl rfl)
theorem Ky {x:Qi}:bB Tryz.prog 98 [aN x] (aN x):=by
 refine bB.intro Tryz.func98 rfl Tryz.ntmps98 rfl (fun cx=>(ts (rn rfl (fG (Ht rfl)) fun B1=>(rn rfl (eW (Ts:=[Is (.bool false),Is (.slice none 0 0),Is (.bool false),Is (.slice none 0 0),Is (.slice none 0 0)]) O_51 rfl (fun V=>aW zd (aW zd (aW zd (aW zd (aW zd (aG))))))) fun B2=>(eX (ts (rn rfl (eW (Ts:=[Is (.bool false),Is (.slice none 0 0),Is (.bool false),Is (.slice none 0 0),Is (.slice none 0 0)]) O_51 rfl (fun V=>aW zd (aW zd (aW zd (aW zd (aW zd (aG))))))) fun B3=>?_)))))))
 refine eX (ts (ro rfl (eJ A_51 Z_51 (Ht rfl) (i:=2) rfl rfl rfl) (ro rfl (cC dE (Ht rfl)) (ro rfl (eJ A_51 Z_51 (Ht rfl) (i:=0) rfl rfl rfl) (ro rfl (bO mT K_302 Df (Ht rfl) ⟨(Ht rfl),trivial⟩) (gQ Z_51 (Ht rfl) (Ht rfl) rfl (i:=1) rfl (aK rfl) rfl rfl (eX ?_)))))))
 exact fW rfl (fK A_51 Z_51 rfl (i:=1) rfl rfl)
theorem Ku {r:List Qi} {k:Nat}:bB Tryz.prog 273 [bN r,PT (NT .i64 k)] (aC (!decide (r.length = k))):=by
 refine bB.intro Tryz.func273 rfl Tryz.ntmps273 rfl (fun cx=>(ts (ro rfl (cQ cV) (eX (ts (rm rfl (ro rfl (dG U_29 (Ht rfl) aA) (ro rfl (dJ Tryz.isAgg3 Tryz.sizeOf3 (Ht rfl)) (ro rfl (eO (Ht rfl) (Ht rfl)) (ra rfl (eX ?_)))))))))))
 exact fW rfl (eU rfl)
theorem Al  : bB Tryz.prog 240 [cE []] (fH [NT .i64 0,aC true]):=by
 refine bB.intro Tryz.func240 rfl Tryz.ntmps240 rfl (fun cx=>(ts (ro rfl (cQ (cJ 0)) (ro rfl (cQ cV) (eX (cK (ts (rm rfl (ro rfl (dG U_30 (Ht rfl) aA) (ro rfl (cR (Ht rfl) (cJ 0)) (eX (Et (Ht rfl) (by rfl) ?_))))))))))))
 refine ts (ro rfl (cQ (cJ 0)) (ro rfl (cQ cV) (eX ?_)))
 exact bM rfl (eU rfl) (eU rfl)
theorem xG {a:List (List Qi)} {n k:Nat} (h:cM a n k) (h1:1 ≤ n) (hn:n ≤ 32) (hk:k ≤ 32):bB Tryz.prog 240 [cE a] (fH [NT .i64 k,aC true]):=by
 obtain ⟨rfl,h2⟩:=h
 have hr0:(a.getD 0 []).length = k:=cM.row ⟨rfl,h2⟩ zo
 refine bB.intro Tryz.func240 rfl Tryz.ntmps240 rfl (fun cx=>(ts (ro rfl (cQ (cJ 0)) (ro rfl (cQ cV) (eX (cK (ts (rm rfl (ro rfl (dG U_30 (Ht rfl) aA) (ro rfl (cR (Ht rfl) (cJ 0)) (eX (dQ (Ht rfl) (fun hb=>?_) (fun hb=>?_)))))))))))))
 ·simp only [decide_eq_true_eq] at hb
  omega
 ·refine cU (ts (rm rfl (ro rfl (dZ U_30 Z_29 (Ht rfl) (cJ 0) rfl (dY (dU (d := []) zo))) (ro rfl (dJ A_29 Z_29 (Ht rfl)) (ro rfl (dG U_29 (Ht rfl) aA) (rn rfl (eW (Ts := [Is (.int .i64 0)]) Tryz.zeroValue3 rfl (fun V => aW zd (aG))) fun B4 => (kK Tryz.sizeOf3 (Ht rfl) (Ht rfl) (i := 0) rfl (aK rfl) rfl (eX (cK (gJ (i := 0) (tt := 4) rfl rfl nI (fZ (m := 15) (dp 4 rfl (dJ Tryz.isAgg3 Tryz.sizeOf3 (Ht rfl)) ?_))))))))))))
  refine dp 0 rfl (cX (Ht rfl)) (dq 13 1 rfl (dG U_30 (Ht rfl) aA) (dq 14 2 rfl (zM (Ht rfl) (cJ 32)) (dq 15 3 rfl (cX (Ht rfl)) (C.D_step (Ei:=[(4,_),(16,_)]) rfl rfl (bV (bK rfl rfl) (bV (bG 4 rfl rfl) bW)) (eK rfl rfl (Ht rfl) (fun h=>dJ Tryz.isAgg3 Tryz.sizeOf3 (Ht rfl))) (C.D_step (Ei:=[(17,_),(16,_)]) rfl rfl (bV (bG 5 rfl rfl) (bV (bG 4 rfl rfl) bW)) (eK rfl rfl (Ht rfl) (fun h=>zM (fJ rfl h) (cJ 32))) (cP 16 4 18 6 rfl (fE (Ht rfl) (fun h=>(fJ rfl h))) ?_))))))
  refine dq 19 7 rfl (cX (Ht rfl)) (C.D_step (Ei:=[(0,_),(20,_)]) rfl rfl (bV (bK rfl rfl) (bV (bG 8 rfl rfl) bW)) (eK rfl rfl (Ht rfl) (fun h=>cX (Ht rfl))) (C.D_step (Ei:=[(4,_),(20,_)]) rfl rfl (bV (bK rfl rfl) (bV (bG 8 rfl rfl) bW)) (eK rfl rfl (Ht rfl) (fun h=>rK (γ:=List Qi) (Ts:=fun r=>[bN r]) (U:=fun r=>aC (!decide (r.length = (a.getD 0 []).length))) Tryz.call273 (fun r=>Ku) ⟨(Ht rfl),trivial⟩)) (C.D_step (Ei:=[(21,_),(22,_),(20,_)]) rfl rfl (bV (bG 9 rfl rfl) (bV (bG 10 rfl rfl) (bV (bG 8 rfl rfl) bW))) (eK rfl rfl (Ht rfl) (fun h=>cZ Tryz.call156 (uQ (l:=a) (T:=bN) (p:=fun r=>!decide (r.length = (a.getD 0 []).length)) zo) ⟨(fJ rfl h),(fJ rfl h),trivial⟩)) ?_)))
  refine C.D_step (Ei:=[(23,_),(20,_)]) rfl rfl (bV (bG 11 rfl rfl) (bV (bG 8 rfl rfl) bW)) (eK rfl rfl (Ht rfl) (fun h=>eT (fJ rfl h))) (cP 20 8 24 12 rfl (fE (Ht rfl) (fun h=>(fJ rfl h))) (dq 12 0 rfl (cQ (Ht rfl)) (fV aO rfl (by kernel_rfl) (zF (zF (zF (aJ (aJ (aJ (aV (ra rfl (eX (bM rfl (fX (eU rfl) ?_) (fX (eU rfl) ?_))))))))))))))
  ·exact (kI hr0)
  ·exact (dM (by rw [hr0,Zx ⟨rfl,h2⟩]; simp; omega))
theorem Am {a:List (List Qi)} {n k:Nat} (h:cM a n k) (h1:1 ≤ n ∨ k = 0) (hn:n ≤ 32) (hk:k ≤ 32):bB Tryz.prog 240 [cE a] (fH [NT .i64 k,aC true]):=by
 by_cases e:n = 0
 ·subst e
  obtain rfl:=List.length_eq_zero_iff.1 h.1
  rw [show k = 0 by omega]; exact Al
 ·exact xG h zo hn hk
end
section
open Go Go.RowKit
theorem sM (v : Value) (w : World) : (method (Tryz.prog.types.size + Made.depth) 51 v "Add").run Tryz.prog w = .ok (46, v) w := by kernel_rfl
theorem rH (v : Value) (w : World) : (method (Tryz.prog.types.size + Made.depth) 51 v "Conj").run Tryz.prog w = .ok (175, v) w := by kernel_rfl
theorem fS (v : Value) (w : World) : (method (Tryz.prog.types.size + Made.depth) 51 v "Mul").run Tryz.prog w = .ok (45, v) w := by kernel_rfl
end
section
open Go Go.RowKit
theorem Gx {a b:List (List Qi)} {n k m L M:Nat} (ha:cM a n k) (hb:cM b k m) (hfa:aS a L) (hfb:aS b M) (hL1:1 ≤ L) (hM1:1 ≤ M) (hL:L ≤ 900000000000) (hM:M ≤ 900000000000) (hn1:1 ≤ n ∨ k = 0) (hk1:1 ≤ k ∨ m = 0) (hn:n ≤ 8) (hk:k ≤ 8) (hm:m ≤ 8):gF Tryz.prog 195 [cE a,cE b] [] (Nat) (fun B=>fH [Is (.slice (some ⟨B,0,none⟩) n n),bD .i64 0]) (fun B=>[oU B 29 51 5 (bL aN (iC a b n k m))]) (fun _=>True):=by
 have hal:=ha.1
 have hbl:=hb.1
 refine gF.intro Tryz.func195 rfl Tryz.ntmps195 rfl (fun cx Z=>(ts (ro rfl (cQ cV) (ro rfl (cQ (cJ 0)) (eX (ts (rm rfl (ro rfl (cZ Tryz.call240 (Am ha hn1 zo zo) ⟨(Ht rfl),trivial⟩) (rm rfl (ro rfl (dK (Ht rfl) rfl) (ro rfl (dK (Ht rfl) rfl) (ra rfl (ra rfl (eX (ts (rm rfl (ro rfl (cZ Tryz.call240 (Am hb hk1 zo zo) ⟨(Ht rfl),trivial⟩) (rm rfl (ro rfl (dK (Ht rfl) rfl) (ro rfl (dK (Ht rfl) rfl) (ra rfl (ra rfl (eX (cK (ts (rm rfl (ro rfl (eT (Ht rfl)) ?_)))))))))))))))))))))))))))
 refine rm rfl (fQ rfl rfl (eK rfl rfl (Ht rfl) (fun h=>cX (Ht rfl))) (fQ rfl rfl (eK rfl rfl (Ht rfl) (fun h=>eT (fJ rfl h))) (ro rfl (gT (Ht rfl) (fun h=>(fJ rfl h))) (rm rfl (fQ rfl rfl (eK rfl rfl (Ht rfl) (fun h=>cX (Ht rfl))) (fQ rfl rfl (eK rfl rfl (Ht rfl) (fun h=>cX (Ht rfl))) (fQ rfl rfl (eK rfl rfl (Ht rfl) (fun h=>dG U_30 (fJ rfl h) aA)) (fQ rfl rfl (eK rfl rfl (Ht rfl) (fun h=>eO (fJ rfl h) (fJ rfl h))) (ro rfl (gT (Ht rfl) (fun h=>(fJ rfl h))) ?_)))))))))
 refine eX (dQ (Ht rfl) (fun h0=>?_) (fun h0=>?_))
 ·exact absurd h0 (by simp [hbl])
 ·refine cU (ts (rm rfl (ro rfl (dG U_30 (Ht rfl) aA) (rn rfl (eE (T := Is (.slice none 0 0)) (i := Tryz.t29) V_30 nW rfl rfl (Ht rfl) rfl (fun _ => rfl) trivial (by show 24 * _ ≤ _; omega) zo) fun B39 => (ra rfl (eX (cK (ts (rm rfl (ro rfl (hJ U_30 (Ht rfl)) (ro rfl (cX (cJ 0)) (eX (eG (nO 1 rfl (uD (e := 51) (s := 5)) ?_))))))))))))))
  refine bS (fun (i : Nat) => i ≤ n) (fun (i : Nat) => n - i) (fun (i : Nat) => [(0, cE a), (1, cE b), (6, NT .i64 k), (8, NT .i64 m), (10, Is (.slice (some ⟨B39, 0, none⟩) n n)), (41, NT .i64 n), (42, NT .i64 i)]) (fun (i : Nat) => [Z, oU B39 29 51 5 (bL aN (iU (fun i => tab m fun c => pW a b k i c) [] n i))]) 0 (Nat.zero_le _)
   (aQ rfl (aQ rfl (aQ rfl (aQ rfl (aZ rfl (fun v V h=>by rw [← hal]; exact h) (aZ rfl (kI hal) (zS rfl))))))) (aU (fun _ _ _ h=>h) (aU (bE (by rw [← iF,mC,hal]; exact mK aN n)) aY)) (fun i hi=>?_)
  refine ts (ro rfl (gX (Ht rfl) (Ht rfl)) (eX (cK (dQ (Ht rfl) (fun hd=>?_) (fun hd=>?_)))))
  ·simp only [decide_eq_true_eq] at hd
   have har:=ha.row hd
   refine nT 1 (i) rfl (kQ hd) (fun v=>(cU (cK (eG (ts (rm rfl (ra rfl (eX (ts (rm rfl (ro rfl (cX (cJ 0)) (eX (eG ?_)))))))))))))
   refine gB (fun (c : Nat) (v : Value) => c ≤ m) (fun (c : Nat) (v : Value) => m - c) (fun (c : Nat) (v : Value) => [(0, cE a), (1, cE b), (6, NT .i64 k), (8, NT .i64 m), (10, Is (.slice (some ⟨B39, 0, none⟩) n n)), (11, NT .i64 i), (41, NT .i64 n), (42, NT .i64 i), (45, NT .i64 m), (46, NT .i64 c)]) (fun (c : Nat) (v : Value) => [Z, Li B39 29 51 5 (bL aN (iU (fun i => tab m fun c => pW a b k i c) [] n i)) i v, cD 51 5 v ((tab c fun c => pW a b k i c).map aN)]) 0 v (Nat.zero_le _)
    (zS rfl) (cT.refl _) (fun c v hc=>?_)
   refine ts (ro rfl (gX (Ht rfl) (Ht rfl)) (eX (cK (dQ (Ht rfl) (fun he=>?_) (fun he=>?_)))))
   ·simp only [decide_eq_true_eq] at he
    have hk1:1 ≤ k:=by omega
    have hb0:=hb.row (i:=0) zo
    haveI f1:aD (gm a i 0) L:=hfa.get hL1 i 0
    haveI f2:aD (gm b 0 c) M:=hfb.get hM1 0 c
    refine cU (cK (eG (ts (rm rfl (ra rfl (eX (cK (fZ (m:=15) (dp 0 rfl (cX (Ht rfl)) (dp 11 rfl (cX (Ht rfl)) (cP 49 0 50 1 rfl (dZ U_30 Z_29 (Ht rfl) (Ht rfl) rfl (dY (dU (d:=[]) zo))) (dq 51 2 rfl (dJ A_29 Z_29 (Ht rfl)) (dq 52 3 rfl (dZ U_29 Z_51 (Ht rfl) (cJ 0) rfl (dY (dU (d:=Qi.zero) (by rw [har]; omega)))) ?_)))))))))))))
    refine dq 53 4 rfl (dJ A_51 Z_51 (Ht rfl)) (dq 54 5 rfl (cC dE (Ht rfl)) (dp 1 rfl (cX (Ht rfl)) (dq 56 7 rfl (dZ U_30 Z_29 (Ht rfl) (cJ 0) rfl (dY (dU (d:=[]) zo))) (dq 57 8 rfl (dJ A_29 Z_29 (Ht rfl)) (dp 12 rfl (cX (Ht rfl)) (cP 58 9 59 10 rfl (dZ U_29 Z_51 (Ht rfl) (Ht rfl) rfl (dY (dU (d:=Qi.zero) (by rw [hb0]; omega)))) ?_))))))
    refine dq 60 11 rfl (dJ A_51 Z_51 (Ht rfl)) (cP 55 6 61 12 rfl (bO fS K_45 (nH zo) (Ht rfl) ⟨(Ht rfl),trivial⟩) (C.D_new (Ei:=[]) rfl rfl rfl bW (eW (Ts:=[Is (.bool false),Is (.slice none 0 0),Is (.bool false),Is (.slice none 0 0),Is (.slice none 0 0)]) O_51 rfl (fun V=>aW zd (aW zd (aW zd (aW zd (aW zd (aG))))))) (fV aO rfl (by kernel_rfl) (zF (zF (zF (aJ (aJ (C.F_new (fun B13=>aV ?_))))))))))
    refine gQ Z_51 (Ht rfl) (Ht rfl) rfl (i:=3) rfl (aK rfl) rfl rfl (eX (cK (ts (ro rfl (cQ (cJ 1)) (eX (eG ?_))))))
    refine bS (fun (j : Nat) => 1 ≤ j ∧ j ≤ k) (fun (j : Nat) => k - j) (fun (j : Nat) => [(0, cE a), (1, cE b), (6, NT .i64 k), (8, NT .i64 m), (10, Is (.slice (some ⟨B39, 0, none⟩) n n)), (11, NT .i64 i), (12, NT .i64 c), (13, dA B13 0), (14, NT .i64 j), (41, NT .i64 n), (42, NT .i64 i), (45, NT .i64 m), (46, NT .i64 c)]) (fun (j : Nat) => [Z, Li B39 29 51 5 (bL aN (iU (fun i => tab m fun c => pW a b k i c) [] n i)) i v, cD 51 5 v ((tab c fun c => pW a b k i c).map aN), box B13 51 [aC (decide ((aH j fun j => gm a i j * gm b j c).a < 0)), aE (aH j fun j => gm a i j * gm b j c).a.natAbs, aC (decide ((aH j fun j => gm a i j * gm b j c).b < 0)), aE (aH j fun j => gm a i j * gm b j c).b.natAbs, aE (du (aH j fun j => gm a i j * gm b j c))]]) 1 ⟨Nat.le_refl _, hk1⟩
     (zS rfl) (aU (fun _ _ _ h=>h) (aU (fun _ _ _ h=>h) (aU (fun _ _ _ h=>h) (aU (aB (by rw [Bw]; rfl)) aY)))) (fun j ⟨hj1,hj⟩=>?_)
    refine cK (ts (rm rfl (rm rfl (ro rfl (gX (Ht rfl) (Ht rfl)) (eX (dQ (Ht rfl) (fun hf=>?_) (fun hf=>?_)))))))
    ·simp only [decide_eq_true_eq] at hf
     haveI f3:aD (gm a i j) L:=hfa.get hL1 i j
     haveI f4:aD (gm b j c) M:=hfb.get hM1 j c
     haveI f5:aD (aH j fun j=>gm a i j * gm b j c) (8 * (L + M) + 17):=No hfa hfb hL1 hM1 zo i c
     have hbj:=hb.row (i:=j) zo
     refine cU (cK (eG (fZ (m:=18) (dp 13 rfl (eJ A_51 Z_51 (Ht rfl) (i:=3) rfl rfl rfl) (dq 68 0 rfl (cC dE (Ht rfl)) (dp 0 rfl (cX (Ht rfl)) (dp 11 rfl (cX (Ht rfl)) (cP 70 2 71 3 rfl (dZ U_30 Z_29 (Ht rfl) (Ht rfl) rfl (dY (dU (d:=[]) zo))) (dq 72 4 rfl (dJ A_29 Z_29 (Ht rfl)) (dp 14 rfl (cX (Ht rfl)) (cP 73 5 74 6 rfl (dZ U_29 Z_51 (Ht rfl) (Ht rfl) rfl (dY (dU (d:=Qi.zero) (by rw [har]; omega)))) ?_)))))))))))
     refine dq 75 7 rfl (dJ A_51 Z_51 (Ht rfl)) (dq 76 8 rfl (cC dE (Ht rfl)) (dp 1 rfl (cX (Ht rfl)) (dp 14 rfl (cX (Ht rfl)) (cP 78 10 79 11 rfl (dZ U_30 Z_29 (Ht rfl) (Ht rfl) rfl (dY (dU (d:=[]) zo))) (dq 80 12 rfl (dJ A_29 Z_29 (Ht rfl)) (dp 12 rfl (cX (Ht rfl)) (cP 81 13 82 14 rfl (dZ U_29 Z_51 (Ht rfl) (Ht rfl) rfl (dY (dU (d:=Qi.zero) (by rw [hbj]; omega)))) ?_)))))))
     refine dq 83 15 rfl (dJ A_51 Z_51 (Ht rfl)) (cP 77 9 84 16 rfl (bO fS K_45 (nH zo) (Ht rfl) ⟨(Ht rfl),trivial⟩) (fV aO rfl (by kernel_rfl) (zF (zF (zF (zF (aJ (aJ (aV (ro rfl (bO sM K_46 (De zo) (Ht rfl) ⟨(Ht rfl),trivial⟩) (gQ Z_51 (Ht rfl) (Ht rfl) rfl (i:=3) rfl (aK rfl) rfl rfl (eX (bA ?_)))))))))))))
     refine cY (rm rfl (ro rfl (dV (Ht rfl) (cJ 1) z6) (ra rfl (eX (fU (j + 1) ⟨by omega,hf⟩ zo (zS rfl) (aU (fun _ _ _ h=>h) (aU (fun _ _ _ h=>h) (aU (fun _ _ _ h=>h) (aU (aB rfl) aY)))))))))
    ·simp only [decide_eq_false_iff_not] at hf
     obtain rfl:k = j:=Nat.le_antisymm zo hj
     refine gV rfl (Y.D_startA (m:=9) [] 8 2 rfl rfl (bY (Ei:=[(10,_)]) rfl rfl (bQ (bJ rfl rfl) bX) rfl rfl (dX rfl (cX (Ht rfl))) (bY (Ei:=[(11,_)]) rfl rfl (bQ (bJ rfl rfl) bX) rfl rfl (dX rfl (cX (Ht rfl))) (bY (Ei:=[(10,_)]) rfl rfl (bQ (bJ rfl rfl) bX) rfl rfl (dX rfl (cX (Ht rfl))) (bY (Ei:=[(11,_)]) rfl rfl (bQ (bJ rfl rfl) bX) rfl rfl (dX rfl (cX (Ht rfl))) (bY (Ei:=[(89,_),(90,_)]) rfl rfl (bQ (bZ 2 rfl rfl) (bQ (bZ 3 rfl rfl) bX)) rfl rfl (dX rfl (fY U_30 Z_29 (Ht rfl) (Ht rfl) rfl zo (by rw [Nat.mul_one,Nat.zero_add]))) ?_))))))
     refine bY (Ei:=[(91,_)]) rfl rfl (bQ (bZ 4 rfl rfl) bX) rfl rfl (dX rfl (gS A_29 Z_29 (Ht rfl) (j:=1) rfl)) (bY (Ei:=[(13,_)]) rfl rfl (bQ (bJ rfl rfl) bX) rfl rfl (dX rfl (eJ A_51 Z_51 (Ht rfl) (i:=3) rfl rfl rfl)) (bY (Ei:=[(93,_)]) rfl rfl (bQ (bZ 6 rfl rfl) bX) rfl rfl (dX rfl (dN (xs:=[.tmp 93]) U_29 Z_51 O_51 (cW (Ht rfl) cG) rfl rfl rfl)) (Y.D_app (Ei:=[(92,_),(94,_)]) rfl rfl rfl rfl (bQ (bZ 5 rfl rfl) (bQ (bZ 7 rfl rfl) bX)) rfl (rU (inf:=Tryz.t51) nS lO rfl rfl rfl (Ht rfl) (Ht rfl) (by simp) (fun T hT=>by simp at hT; subst hT; exact El.ag rfl) (by show _ * 88 ≤ _; simp only [List.length_map,bI,List.length_cons,List.length_nil]; omega) (by simp only [List.length_map,bI,List.length_cons,List.length_nil]; omega)) ?_)))
     refine Y.D_done aO rfl (by kernel_rfl) rfl (by simp [Y.okP]) rfl rfl (bU (bU (bU (bU (bU (bU (bU (bU (Y.F_app (fun v2=>Y.F_nil ?_))))))))))
     refine ro rfl (fY U_30 Z_29 (Ht rfl) (Ht rfl) rfl zo (by rw [Nat.mul_one,Nat.zero_add])) ?_
     refine rX Z_29 (Ht rfl) (Ht rfl) (by simp only [bL,List.length_map,eM]; omega) (j:=1) (l:=4) rfl rfl rfl ?_
     refine eX (bA (cY (ro rfl (dV (Ht rfl) (cJ 1) z6) (rm rfl (eX (cH [0,1,4] rfl (by decide) (fU (c + 1,v2) he (by dsimp only; omega) (zS rfl) (aU (fun _ _ _ h=>h) (aU (fun _ _ _ h=>h) (aU (cA ((oK aN _ (pW a b k i c)).trans (congrArg _ (Bz c (fun c=>pW a b k i c)).symm))) aY))))))))))
   ·simp only [decide_eq_false_iff_not] at he
    obtain rfl:m = c:=Nat.le_antisymm zo hc
    refine gV rfl (bA (dS 1 2 rfl rfl (by decide) (by simp only [bL,List.length_map,eM]; omega) ?_))
    refine cY (ro rfl (dV (Ht rfl) (cJ 1) z6) (rm rfl (eX (cH [0,1] rfl (by decide) (fU (i + 1) hd zo (zS rfl) (aU (fun _ _ _ h=>h) (aU (bE (by rw [eH,← jH (f:=(fun i=>tab m fun c=>pW a b k i c))])) aY)))))))
  ·simp only [decide_eq_false_iff_not] at hd
   obtain rfl:n = i:=Nat.le_antisymm zo hi
   refine gV rfl (ts (rm rfl (ra rfl (ro rfl (cQ (cJ 0)) (eX ?_)))))
   exact jM B39 trivial [0,1] ⟨⟨_,rfl,fun _ _ _ h=>h⟩,⟨_,rfl,(bE (by rw [jG]; rfl))⟩,trivial⟩ (by decide) (Xh rfl (eU rfl) (eU rfl))
theorem Nb {a b:List (List Qi)} {n k m L M:Nat} (ha:cM a n k) (hb:cM b k m) (hfa:aS a L) (hfb:aS b M) (hL1:1 ≤ L) (hM1:1 ≤ M) (hL:L ≤ 900000000000) (hM:M ≤ 900000000000) (hn1:1 ≤ n) (hk1:1 ≤ k) (hn:n ≤ 8) (hk:k ≤ 8) (hm:m ≤ 8):gF Tryz.prog 195 [cE a,cE b] [] Nat (fun B=>fH [Is (.slice (some ⟨B,0,none⟩) n n),bD .i64 0]) (fun B=>[oU B 29 51 5 (bL aN (iC a b n k m))]) (fun _=>True):=Gx ha hb hfa hfb hL1 hM1 hL hM (.inl hn1) (.inl hk1) hn hk hm
theorem Ze {a b:List (List Qi)} {n k m L M:Nat} (ha:cM a n k) (hb:cM b k m) (hfa:aS a L) (hfb:aS b M) (hL1:1 ≤ L) (hM1:1 ≤ M) (hL:L ≤ 900000000000) (hM:M ≤ 900000000000) (hn1:1 ≤ n ∨ k = 0) (hk1:1 ≤ k ∨ m = 0) (hn:n ≤ 8) (hk:k ≤ 8) (hm:m ≤ 8):bB Tryz.prog 195 [cE a,cE b] (fH [cE (iC a b n k m),bD .i64 0]):=(Gx ha hb hfa hfb hL1 hM1 hL hM hn1 hk1 hn hk hm).fun fun B _ v S V h1 h2=>a18 h1 fun u hu=>gK (s:=5) (M:=iC a b n k m) (bI _ _).symm u S V hu h2
theorem a20 {a b:List (List Qi)} {n k m L M:Nat} (ha:cM a n k) (hb:cM b k m) (hfa:aS a L) (hfb:aS b M) (hL1:1 ≤ L) (hM1:1 ≤ M) (hL:L ≤ 900000000000) (hM:M ≤ 900000000000) (hn1:1 ≤ n) (hk1:1 ≤ k) (hn:n ≤ 8) (hk:k ≤ 8) (hm:m ≤ 8):bB Tryz.prog 195 [cE a,cE b] (fH [cE (iC a b n k m),bD .i64 0]):=(Nb ha hb hfa hfb hL1 hM1 hL hM hn1 hk1 hn hk hm).fun fun B _ v S V h1 h2=>a18 h1 fun u hu=>gK (s:=5) (M:=iC a b n k m) (bI _ _).symm u S V hu h2
theorem a1X {a:List (List Qi)} {n m:Nat} (ha:cM a n m) (hn1:1 ≤ n) (hn:n ≤ 8) (hm:m ≤ 8):gF Tryz.prog 196 [cE a] [] (Nat) (fun B=>fH [Is (.slice (some ⟨B,0,none⟩) m m),bD .i64 0]) (fun B=>[oU B 29 51 5 (bL aN (Ev a n m))]) (fun _=>True):=by
 have hal:=ha.1
 refine gF.intro Tryz.func196 rfl Tryz.ntmps196 rfl (fun cx Z=>(ts (ro rfl (cQ cV) (ro rfl (cQ (cJ 0)) (eX (ts (rm rfl (ro rfl (cZ Tryz.call240 (xG ha hn1 zo zo) ⟨(Ht rfl),trivial⟩) (rm rfl (ro rfl (dK (Ht rfl) rfl) (ro rfl (dK (Ht rfl) rfl) (ra rfl (ra rfl (eX (cK (ts (rm rfl (ro rfl (eT (Ht rfl)) (eX (dQ (Ht rfl) (fun h0=>?_) (fun h0=>?_)))))))))))))))))))))
 ·exact absurd h0 (by simp)
 ·refine cU (ts (rm rfl (rn rfl (eE (T := Is (.slice none 0 0)) (i := Tryz.t29) V_30 nW rfl rfl (Ht rfl) rfl (fun _ => rfl) trivial (by show 24 * _ ≤ _; omega) zo) fun B17 => (ra rfl (eX (cK (ts (rm rfl (ro rfl (hJ U_30 (Ht rfl)) (ro rfl (cX (cJ 0)) (eX (eG (nO 1 rfl (uD (e := 51) (s := 5)) ?_)))))))))))))
  refine bS (fun (k : Nat) => k ≤ m) (fun (k : Nat) => m - k) (fun (k : Nat) => [(0, cE a), (6, Is (.slice (some ⟨B17, 0, none⟩) m m)), (19, NT .i64 m), (20, NT .i64 k)]) (fun (k : Nat) => [Z, oU B17 29 51 5 (bL aN (iU (fun k => tab n fun i => (gm a i k).conj) [] m k))]) 0 (Nat.zero_le _)
   (zS rfl) (aU (fun _ _ _ h=>h) (aU (bE (by rw [← iF,mC]; exact mK aN m)) aY)) (fun k hk=>?_)
  refine ts (ro rfl (gX (Ht rfl) (Ht rfl)) (eX (cK (dQ (Ht rfl) (fun hd=>?_) (fun hd=>?_)))))
  ·simp only [decide_eq_true_eq] at hd
   refine nT 1 (k) rfl (kQ hd) (fun v=>(cU (cK (eG (ts (rm rfl (ra rfl (eX (ts (rm rfl (ro rfl (dG U_30 (Ht rfl) aA) (ro rfl (cX (cJ 0)) (eX (eG ?_))))))))))))))
   refine gB (fun (i : Nat) (v : Value) => i ≤ n) (fun (i : Nat) (v : Value) => n - i) (fun (i : Nat) (v : Value) => [(0, cE a), (6, Is (.slice (some ⟨B17, 0, none⟩) m m)), (7, NT .i64 k), (19, NT .i64 m), (20, NT .i64 k), (24, NT .i64 n), (25, NT .i64 i)]) (fun (i : Nat) (v : Value) => [Z, Li B17 29 51 5 (bL aN (iU (fun k => tab n fun i => (gm a i k).conj) [] m k)) k v, cD 51 5 v ((tab i fun i => (gm a i k).conj).map aN)]) 0 v (Nat.zero_le _)
    (aQ rfl (aQ rfl (aQ rfl (aQ rfl (aQ rfl (aZ rfl (kI hal) (zS rfl))))))) (cT.refl _) (fun i v hi=>?_)
   refine ts (ro rfl (gX (Ht rfl) (Ht rfl)) (eX (cK (dQ (Ht rfl) (fun he=>?_) (fun he=>?_)))))
   ·simp only [decide_eq_true_eq] at he
    have har:=ha.row he
    refine cU (cK (eG (ts (rm rfl (ra rfl (eX (Y.D_startA (m:=17) [] 16 2 rfl rfl (bY (Ei:=[(6,_)]) rfl rfl (bQ (bJ rfl rfl) bX) rfl rfl (dX rfl (cX (Ht rfl))) (bY (Ei:=[(7,_)]) rfl rfl (bQ (bJ rfl rfl) bX) rfl rfl (dX rfl (cX (Ht rfl))) (bY (Ei:=[(6,_)]) rfl rfl (bQ (bJ rfl rfl) bX) rfl rfl (dX rfl (cX (Ht rfl))) (bY (Ei:=[(7,_)]) rfl rfl (bQ (bJ rfl rfl) bX) rfl rfl (dX rfl (cX (Ht rfl))) (bY (Ei:=[(30,_),(31,_)]) rfl rfl (bQ (bZ 2 rfl rfl) (bQ (bZ 3 rfl rfl) bX)) rfl rfl (dX rfl (fY U_30 Z_29 (Ht rfl) (Ht rfl) rfl zo (by rw [Nat.mul_one,Nat.zero_add]))) ?_))))))))))))
    refine bY (Ei:=[(32,_)]) rfl rfl (bQ (bZ 4 rfl rfl) bX) rfl rfl (dX rfl (gS A_29 Z_29 (Ht rfl) (j:=1) rfl)) (bY (Ei:=[(0,_)]) rfl rfl (bQ (bJ rfl rfl) bX) rfl rfl (dX rfl (cX (Ht rfl))) (bY (Ei:=[(8,_)]) rfl rfl (bQ (bJ rfl rfl) bX) rfl rfl (dX rfl (cX (Ht rfl))) (bY (Ei:=[(34,_),(35,_)]) rfl rfl (bQ (bZ 6 rfl rfl) (bQ (bZ 7 rfl rfl) bX)) rfl rfl (dX rfl (dZ U_30 Z_29 (Ht rfl) (Ht rfl) rfl (dY (dU (d:=[]) zo)))) ?_)))
    refine bY (Ei:=[(36,_)]) rfl rfl (bQ (bZ 8 rfl rfl) bX) rfl rfl (dX rfl (dJ A_29 Z_29 (Ht rfl))) (bY (Ei:=[(7,_)]) rfl rfl (bQ (bJ rfl rfl) bX) rfl rfl (dX rfl (cX (Ht rfl))) (bY (Ei:=[(37,_),(38,_)]) rfl rfl (bQ (bZ 9 rfl rfl) (bQ (bZ 10 rfl rfl) bX)) rfl rfl (dX rfl (dZ U_29 Z_51 (Ht rfl) (Ht rfl) rfl (dY (dU (d:=Qi.zero) (by rw [har]; omega))))) ?_))
    refine bY (Ei:=[(39,_)]) rfl rfl (bQ (bZ 11 rfl rfl) bX) rfl rfl (dX rfl (dJ A_51 Z_51 (Ht rfl))) (bY (Ei:=[(40,_)]) rfl rfl (bQ (bZ 12 rfl rfl) bX) rfl rfl (dX rfl (cC dE (Ht rfl))) (bY (Ei:=[(41,_)]) rfl rfl (bQ (bZ 13 rfl rfl) bX) rfl rfl (dX rfl (bO rH Tryz.call175 Kp (Ht rfl) trivial)) (bY (Ei:=[(42,_)]) rfl rfl (bQ (bZ 14 rfl rfl) bX) rfl rfl (dX rfl (dN (xs:=[.tmp 42]) U_29 Z_51 O_51 (cW (Ht rfl) cG) rfl rfl rfl)) ?_)))
    refine Y.D_app (Ei:=[(33,_),(43,_)]) rfl rfl rfl rfl (bQ (bZ 5 rfl rfl) (bQ (bZ 15 rfl rfl) bX)) rfl (rU (inf:=Tryz.t51) nS lO rfl rfl rfl (Ht rfl) (Ht rfl) (by simp) (fun T hT=>by simp at hT; subst hT; exact El.ag rfl) (by show _ * 88 ≤ _; simp only [List.length_map,bI,List.length_cons,List.length_nil]; omega) (by simp only [List.length_map,bI,List.length_cons,List.length_nil]; omega)) ?_
    refine Y.D_done aO rfl (by kernel_rfl) rfl (by simp [Y.okP]) rfl rfl (bU (bU (bU (bU (bU (bU (bU (bU (bU (bU (bU (bU (bU (bU (bU (bU (Y.F_app (fun v2=>Y.F_nil ?_))))))))))))))))))
    refine ro rfl (fY U_30 Z_29 (Ht rfl) (Ht rfl) rfl zo (by rw [Nat.mul_one,Nat.zero_add])) ?_
    refine rX Z_29 (Ht rfl) (Ht rfl) (by simp only [bL,List.length_map,eM]; omega) (j:=1) (l:=3) rfl rfl rfl ?_
    refine eX (bA (cY (ro rfl (dV (Ht rfl) (cJ 1) z6) (rm rfl (eX (cH [0,1,3] rfl (by decide) (fU (i + 1,v2) he (by dsimp only; omega) (zS rfl) (aU (fun _ _ _ h=>h) (aU (fun _ _ _ h=>h) (aU (cA ((oK aN _ (gm a i k).conj).trans (congrArg _ (Bz i (fun i=>(gm a i k).conj)).symm))) aY))))))))))
   ·simp only [decide_eq_false_iff_not] at he
    obtain rfl:n = i:=Nat.le_antisymm zo hi
    refine gV rfl (bA (dS 1 2 rfl rfl (by decide) (by simp only [bL,List.length_map,eM]; omega) ?_))
    refine cY (ro rfl (dV (Ht rfl) (cJ 1) z6) (rm rfl (eX (cH [0,1] rfl (by decide) (fU (k + 1) hd zo (zS rfl) (aU (fun _ _ _ h=>h) (aU (bE (by rw [eH,← jH (f:=(fun k=>tab n fun i=>(gm a i k).conj))])) aY)))))))
  ·simp only [decide_eq_false_iff_not] at hd
   obtain rfl:m = k:=Nat.le_antisymm zo hk
   refine gV rfl (ts (rm rfl (ra rfl (ro rfl (cQ (cJ 0)) (eX ?_)))))
   exact jM B17 trivial [0,1] ⟨⟨_,rfl,fun _ _ _ h=>h⟩,⟨_,rfl,(bE (by rw [jG]; rfl))⟩,trivial⟩ (by decide) (Xh rfl (eU rfl) (eU rfl))
theorem a3l {a:List (List Qi)} {n m:Nat} (ha:cM a n m) (hn1:1 ≤ n) (hn:n ≤ 8) (hm:m ≤ 8):bB Tryz.prog 196 [cE a] (fH [cE (Ev a n m),bD .i64 0]):=(a1X ha hn1 hn hm).fun fun B _ v S V h1 h2=>a18 h1 fun u hu=>gK (s:=5) (M:=Ev a n m) (bI _ _).symm u S V hu h2
theorem Ni {z:List Qi} {s:List (List Qi)} (hsh:cM s z.length z.length) (hl:z.length ≤ 8):gF Tryz.prog 93 [nF z s] [] (Nat) (fun B=>Is (.slice (some ⟨B,0,none⟩) z.length z.length)) (fun B=>[oU B 29 51 5 (bL aN (tab z.length fun i=>tab z.length fun k=>gm s i k))]) (fun _=>True):=by
 refine gF.intro Tryz.func93 rfl Tryz.ntmps93 rfl (fun cx Z=>(ts (rn rfl (fG (Ht rfl)) fun B1=>(ro rfl (cQ cV) (eX (ts (ro rfl (eJ A_32 Z_32 (Ht rfl) (i:=1) rfl rfl rfl) (ro rfl (cZ K_22 qY ⟨(Ht rfl),trivial⟩) (rn rfl (eE (T:=Is (.slice none 0 0)) (i:=Tryz.t29) V_30 nW rfl rfl (Ht rfl) rfl (fun _=>rfl) trivial (by show 24 * _ ≤ _; omega) zo) fun B10=>(ra rfl (eX (cK (ts (rm rfl (ro rfl (hJ U_30 (Ht rfl)) (ro rfl (cX (cJ 0)) (eX (eG ?_))))))))))))))))))
 refine nO 2 rfl (uD (e:=51) (s:=5)) ?_
 refine bS (fun (i : Nat) => i ≤ z.length) (fun (i : Nat) => z.length - i) (fun (i : Nat) => [(1, dA B1 0), (3, Is (.slice (some ⟨B10, 0, none⟩) z.length z.length)), (12, NT .i64 z.length), (13, NT .i64 i)]) (fun (i : Nat) => [Z, box B1 32 [bN z, cE s], oU B10 29 51 5 (bL aN (iU (fun i => tab z.length fun k => gm s i k) [] z.length i))]) 0 (Nat.zero_le _)
  (zS rfl) (aU (fun _ _ _ h=>h) (aU (fun _ _ _ h=>h) (aU (bE (by rw [← iF,mC]; exact mK aN z.length)) aY))) (fun i hi=>?_)
 refine ts (ro rfl (gX (Ht rfl) (Ht rfl)) (eX (cK (dQ (Ht rfl) (fun hd=>?_) (fun hd=>?_)))))
 ·simp only [decide_eq_true_eq] at hd
  refine nT 2 (i) rfl (kQ hd) (fun v=>(cU (cK (eG (ts (rm rfl (ra rfl (eX (ts (rm rfl (ro rfl (hJ U_30 (Ht rfl)) (ro rfl (cX (cJ 0)) (eX (eG ?_))))))))))))))
  refine gB (fun (k : Nat) (v : Value) => k ≤ z.length) (fun (k : Nat) (v : Value) => z.length - k) (fun (k : Nat) (v : Value) => [(1, dA B1 0), (3, Is (.slice (some ⟨B10, 0, none⟩) z.length z.length)), (4, NT .i64 i), (12, NT .i64 z.length), (13, NT .i64 i), (17, NT .i64 z.length), (18, NT .i64 k)]) (fun (k : Nat) (v : Value) => [Z, box B1 32 [bN z, cE s], Li B10 29 51 5 (bL aN (iU (fun i => tab z.length fun k => gm s i k) [] z.length i)) i v, cD 51 5 v ((tab k fun k => gm s i k).map aN)]) 0 v (Nat.zero_le _)
   (zS rfl) (cT.refl _) (fun k v hk=>?_)
  refine ts (ro rfl (gX (Ht rfl) (Ht rfl)) (eX (cK (dQ (Ht rfl) (fun he=>?_) (fun he=>?_)))))
  ·simp only [decide_eq_true_eq] at he
   refine cU (cK (eG (ts (rm rfl (ra rfl (eX (ts (ro rfl (eJ A_32 Z_32 (Ht rfl) (i:=1) rfl rfl rfl) (rm rfl (ro rfl (dV (Ht rfl) (cJ 1) z6) (rm rfl (ro rfl (dV (Ht rfl) (cJ 1) z6) (ro rfl (cZ Tryz.call25 (a3m (i:=(i:Int) + 1) (j:=(k:Int) + 1) hsh zo) ⟨(Ht rfl),(Ht rfl),(Ht rfl),trivial⟩) (rm rfl (ro rfl (dK (Ht rfl) rfl) (ro rfl (dK (Ht rfl) rfl) ?_))))))))))))))))
   refine rn rfl (eW (Ts:=[Is (.bool false),Is (.slice none 0 0),Is (.bool false),Is (.slice none 0 0),Is (.slice none 0 0)]) O_51 rfl (fun V=>aW zd (aW zd (aW zd (aW zd (aW zd (aG))))))) fun B6=>gQ Z_51 (Ht rfl) (Ht rfl) rfl (i:=4) rfl (aK rfl) rfl rfl (ra rfl (eX (Y.D_startA (m:=9) [] 8 3 rfl rfl (bY (Ei:=[(3,_)]) rfl rfl (bQ (bJ rfl rfl) bX) rfl rfl (dX rfl (cX (Ht rfl))) ?_))))
   refine bY (Ei:=[(4,_)]) rfl rfl (bQ (bJ rfl rfl) bX) rfl rfl (dX rfl (cX (Ht rfl))) (bY (Ei:=[(3,_)]) rfl rfl (bQ (bJ rfl rfl) bX) rfl rfl (dX rfl (cX (Ht rfl))) (bY (Ei:=[(4,_)]) rfl rfl (bQ (bJ rfl rfl) bX) rfl rfl (dX rfl (cX (Ht rfl))) (bY (Ei:=[(32,_),(33,_)]) rfl rfl (bQ (bZ 2 rfl rfl) (bQ (bZ 3 rfl rfl) bX)) rfl rfl (dX rfl (fY U_30 Z_29 (Ht rfl) (Ht rfl) rfl zo (by rw [Nat.mul_one,Nat.zero_add]))) ?_)))
   refine bY (Ei:=[(34,_)]) rfl rfl (bQ (bZ 4 rfl rfl) bX) rfl rfl (dX rfl (gS A_29 Z_29 (Ht rfl) (j:=2) rfl)) (bY (Ei:=[(6,_)]) rfl rfl (bQ (bJ rfl rfl) bX) rfl rfl (dX rfl (eJ A_51 Z_51 (Ht rfl) (i:=4) rfl rfl rfl)) (bY (Ei:=[(36,_)]) rfl rfl (bQ (bZ 6 rfl rfl) bX) rfl rfl (dX rfl (dN (xs:=[.tmp 36]) U_29 Z_51 O_51 (cW (Ht rfl) cG) rfl rfl rfl)) (Y.D_app (Ei:=[(35,_),(37,_)]) rfl rfl rfl rfl (bQ (bZ 5 rfl rfl) (bQ (bZ 7 rfl rfl) bX)) rfl (rU (inf:=Tryz.t51) nS lO rfl rfl rfl (Ht rfl) (Ht rfl) (by simp) (fun T hT=>by simp at hT; subst hT; exact El.ag rfl) (by show _ * 88 ≤ _; simp only [List.length_map,bI,List.length_cons,List.length_nil]; omega) (by simp only [List.length_map,bI,List.length_cons,List.length_nil]; omega)) ?_)))
   refine Y.D_done aO rfl (by kernel_rfl) rfl (by simp [Y.okP]) rfl rfl (bU (bU (bU (bU (bU (bU (bU (bU (Y.F_app (fun v2=>Y.F_nil ?_))))))))))
   refine ro rfl (fY U_30 Z_29 (Ht rfl) (Ht rfl) rfl zo (by rw [Nat.mul_one,Nat.zero_add])) ?_
   refine rX Z_29 (Ht rfl) (Ht rfl) (by simp only [bL,List.length_map,eM]; omega) (j:=2) (l:=5) rfl rfl rfl ?_
   refine eX (bA (cY (ro rfl (dV (Ht rfl) (cJ 1) z6) (rm rfl (eX (cH [0,1,2,5] rfl (by decide) (fU (k + 1,v2) he (by dsimp only; omega) (zS rfl) (aU (fun _ _ _ h=>h) (aU (fun _ _ _ h=>h) (aU (fun _ _ _ h=>h) (aU (cA (by rw [Bz,List.map_append,Ww hd he]; rfl)) aY)))))))))))
  ·simp only [decide_eq_false_iff_not] at he
   obtain rfl:k = z.length:=Nat.le_antisymm hk zo
   refine gV rfl (bA (dS 2 3 rfl rfl (by decide) (by simp only [bL,List.length_map,eM]; omega) ?_))
   refine cY (ro rfl (dV (Ht rfl) (cJ 1) z6) (rm rfl (eX (cH [0,1,2] rfl (by decide) (fU (i + 1) hd zo (zS rfl) (aU (fun _ _ _ h=>h) (aU (fun _ _ _ h=>h) (aU (bE (by rw [eH,← jH (f:=(fun i=>tab z.length fun k=>gm s i k))])) aY))))))))
 ·simp only [decide_eq_false_iff_not] at hd
  obtain rfl:i = z.length:=Nat.le_antisymm hi zo
  refine gV rfl (ts (rm rfl (ra rfl (eX ?_))))
  exact jM B10 trivial [0,2] ⟨⟨_,rfl,fun _ _ _ h=>h⟩,⟨_,rfl,(bE (by rw [jG]))⟩,trivial⟩ (by decide) (vM rfl (eU rfl))
theorem Ug {z : List Qi} {s : List (List Qi)} (hsh : cM s z.length z.length) (hl : z.length ≤ 8) : bB Tryz.prog 93 [nF z s] (cE s) := (Ni hsh hl).fun fun B _ v S V h1 h2 => by
 have h3:=gK (s:=5) (M:=tab z.length fun i=>tab z.length fun k=>gm s i k) (bI _ _).symm v S V h1 h2
 rw [← rG hsh] at h3; exact h3
theorem Uf {z:List Qi} {s:List (List Qi)} (hl:z.length ≤ 8):bB Tryz.prog 142 [nF z s] (bN z):=by
 refine bB.intro Tryz.func142 rfl Tryz.ntmps142 rfl (fun cx=>(ts (rn rfl (fG (Ht rfl)) fun B1=>(ro rfl (cQ cV) (eX (ts (ro rfl (eJ A_32 Z_32 (Ht rfl) (i:=0) rfl rfl rfl) (ro rfl (cZ K_22 qY ⟨(Ht rfl),trivial⟩) (rn rfl (lY (T:=aN Qi.zero) (i:=Tryz.t51) nS lO rfl rfl (Ht rfl) rfl kT (El.ag rfl) (by show 88 * _ ≤ _; omega) zo) fun B7=>(ra rfl (eX (cK (ts (rm rfl (ro rfl (rL U_29 (Ht rfl) (i:=1) rfl (show ((List.replicate z.length (aN Qi.zero)).length:Int) = ((z.length:Nat):Int) by simp)) ?_)))))))))))))))
 refine ro rfl (cX (cJ 0)) (eX (eG ?_))
 refine gB (fun (k : Nat) (out : List Qi) => lJ (fun i => gv z i) z.length out k) (fun (k : Nat) (out : List Qi) => z.length - k) (fun (k : Nat) (out : List Qi) => [(1, dA B1 0), (3, Is B7), (9, NT .i64 z.length), (10, NT .i64 k)]) (fun (k : Nat) (out : List Qi) => [box B1 32 [bN z, cE s], cD 51 5 B7 (out.map aN)]) 0 (List.replicate z.length Qi.zero) (lJ.start _ _ _)
  (zS rfl) (aU (fun _ _ _ h=>h) (aU (cA (tG aN _ _)) aY)) (fun k out hS=>?_)
 refine ts (ro rfl (gX (Ht rfl) (Ht rfl)) (eX (cK (dQ (Ht rfl) (fun hk=>?_) (fun hk=>?_)))))
 ·simp only [decide_eq_true_eq] at hk
  have hlen:=hS.len
  refine cU (cK (eG (ts (rm rfl (ra rfl (eX (cY (rm rfl (rm rfl (ro rfl (eJ A_32 Z_32 (Ht rfl) (i:=0) rfl rfl rfl) (rm rfl (ro rfl (dV (Ht rfl) (cJ 1) z6) (ro rfl (cZ Tryz.call23 (Tj (i:=(k:Int) + 1) zo) ⟨(Ht rfl),(Ht rfl),trivial⟩) (rm rfl (ro rfl (dK (Ht rfl) rfl) (ro rfl (dK (Ht rfl) rfl) (ro rfl (dB U_29 Z_51 (Ht rfl) (Ht rfl) rfl (i:=1) rfl (by first | omega | (simp; omega)) rfl) ?_)))))))))))))))))
  refine kM Z_51 (Ht rfl) (Ht rfl) (El.ag rfl) (i:=1) rfl rfl (by first | omega | (simp; omega)) rfl (eX (bA (cY (ro rfl (dV (Ht rfl) (cJ 1) z6) (rm rfl (eX (fU (k + 1,_) (hS.next hk (Lu hk)) (by dsimp only; omega) (zS rfl) (aU (fun _ _ _ h=>h) (aU (cA (fI aN _ _ _)) aY)))))))))
 ·simp only [decide_eq_false_iff_not] at hk
  obtain rfl:k = z.length:=Nat.le_antisymm hS.kle zo
  have hfin:=hS.fin.trans (wK (l:=z) rfl).symm
  refine gV rfl (gJ (i:=1) (tt:=3) rfl rfl kH (ts (rm rfl (ra rfl (eX (fW rfl (fX (eU rfl) ?_)))))))
  exact (kF (by rw [hfin]))
end
section
open Go Go.RowKit
theorem sN (v : Value) (w : World) : (method (Tryz.prog.types.size + Made.depth) 51 v "Div").run Tryz.prog w = .ok (40, v) w := by kernel_rfl
theorem lX (v : Value) (w : World) : (method (Tryz.prog.types.size + Made.depth) 51 v "Sub").run Tryz.prog w = .ok (44, v) w := by kernel_rfl
end
section
open Go Go.RowKit
theorem a23 {c:List (List Qi)}:bB Tryz.prog 99 [cE [],cE c] (cE []):=by
 refine bB.intro Tryz.func99 rfl Tryz.ntmps99 rfl (fun cx=>(ts (ro rfl (cQ cV) (eX (cK (ts (rm rfl (ro rfl (dG U_30 (Ht rfl) aA) (ro rfl (cR (Ht rfl) (cJ 0)) (eX (Et (Ht rfl) (by rfl) ?_)))))))))))
 refine ts (ro rfl (cQ cV) (eX (fW rfl (fX (eU rfl) ?_))))
 exact (fun v V h=>gY v V h)
theorem Tm {p c:List (List Qi)} {n m L:Nat} (hp:cM p n m) (hc:cM c m m) (hfp:aS p L) (hfc:aS c L) (hL1:1 ≤ L) (hL:L ≤ 1000000000) (hn1:1 ≤ n) (hm1:1 ≤ m) (hn:n ≤ 8) (hm:m ≤ 8):gF Tryz.prog 99 [cE p,cE c] [] (Nat) (fun B=>Is (.slice (some ⟨B,0,none⟩) n n)) (fun B=>[oU B 29 51 5 (bL aN (kC p c))]) (fun _=>True):=by
 have hpl:=hp.1
 have hf1:=Iw (n:=n) (m:=m) hfp hfc hL1 hL1 hm
 have hf2:=Su (n:=n) (m:=m) hfp hL1
 have hs1:cM (iC p c n m m) n m:=iQ
 have hs2:cM (Ev p n m) m n:=Sv
 refine gF.intro Tryz.func99 rfl Tryz.ntmps99 rfl (fun cx Z=>(ts (ro rfl (cQ cV) (eX (cK (ts (rm rfl (ro rfl (dG U_30 (Ht rfl) aA) (ro rfl (cR (Ht rfl) (cJ 0)) (eX (dQ (Ht rfl) (fun h0=>?_) (fun h0=>?_))))))))))))
 ·simp only [decide_eq_true_eq] at h0
  omega
 ·refine cU (ts (rm rfl (rm rfl (ro rfl (cZ Tryz.call195 (a20 hp hc hfp hfc hL1 hL1 zo zo hn1 hm1 hn hm hm) ⟨(Ht rfl), (Ht rfl), trivial⟩) (rm rfl (ro rfl (dK (Ht rfl) rfl) (ro rfl (dK (Ht rfl) rfl) (ra rfl (ra rfl (eX (ts (rm rfl (ro rfl (cZ Tryz.call196 (a3l hp hn1 hn hm) ⟨(Ht rfl), trivial⟩) (rm rfl (ro rfl (dK (Ht rfl) rfl) (ro rfl (dK (Ht rfl) rfl) (ra rfl (ra rfl (eX (ts (rm rfl (rm rfl (jF Tryz.call195 (Nb (a := iC p c n m m) (b := Ev p n m) hs1 hs2 hf1 hf2 zo hL1 zo zo hn1 hm1 hn hm hn) ⟨(Ht rfl), (Ht rfl), trivial⟩ rfl (fun B28 _ => ?_))))))))))))))))))))))))
  refine rm rfl (ro rfl (dK (Ht rfl) rfl) (ro rfl (dK (Ht rfl) rfl) (ra rfl (ra rfl (eX (ts (rm rfl (ra rfl (eX ?_)))))))))
  exact jM B28 trivial [0,1] ⟨⟨_,rfl,fun _ _ _ h=>h⟩,⟨_,rfl,(bE (by rw [a2d hp hc]))⟩,trivial⟩ (by decide) (vM rfl (eU rfl))
theorem a1l {p c:List (List Qi)} {n m L:Nat} (hp:cM p n m) (hc:cM c m m) (hfp:aS p L) (hfc:aS c L) (hL1:1 ≤ L) (hL:L ≤ 1000000000) (hn1:1 ≤ n) (hm1:1 ≤ m) (hn:n ≤ 8) (hm:m ≤ 8):bB Tryz.prog 99 [cE p,cE c] (cE (kC p c)):=(Tm hp hc hfp hfc hL1 hL hn1 hm1 hn hm).fun fun B _ v S V h1 h2=>gK (s:=5) (M:=kC p c) (by rw [oO.1,hp.1]) v S V h1 h2
theorem a22 {p c:List (List Qi)} {n m L:Nat} (hp:cM p n m) (hc:cM c m m) (hfp:aS p L) (hfc:aS c L) (hL1:1 ≤ L) (hL:L ≤ 1000000000) (hn1:n = m) (hn:n ≤ 8) (hm:m ≤ 8):bB Tryz.prog 99 [cE p,cE c] (cE (kC p c)):=by
 by_cases e:n = 0
 ·subst e
  obtain rfl:=List.length_eq_zero_iff.1 hp.1
  exact a23
 ·exact a1l hp hc hfp hfc hL1 hL zo zo hn hm
theorem Ti {z:List Qi} {s c:List (List Qi)} {g t0:Qi} {L:Nat} (hz:bP z L) (hs:aS s L) (hc:aS c L) (hg:aD g L) (ht:aD t0 L) (hL1:1 ≤ L) (hL:L ≤ 4000) (hsh:cM s z.length z.length) (hch:cM c z.length z.length) (hl:z.length ≤ 8):bB Tryz.prog 88 [iJ z s c,aN g,aN t0] (fH [aN (wI z s c g t0).1,bD .i64 (wI z s c g t0).2]):=by
 haveI:=hg; haveI:=ht
 haveI hz0:aD Qi.zero 1:=aD.zero (Nat.le_refl 1)
 have d1:(dg (((1:Nat):Int)).natAbs).length = 1:=by decide
 have d2:(dg (Int.natAbs 1)).length = 1:=by decide
 have hcl:=hch.1
 refine bB.intro Tryz.func88 rfl Tryz.ntmps88 rfl (fun cx=>(ts (rn rfl (fG (Ht rfl)) fun B3=>(rn rfl (fG (Ht rfl)) fun B4=>(rn rfl (fG (Ht rfl)) fun B5=>(rn rfl (eW (Ts:=[Is (.bool false),Is (.slice none 0 0),Is (.bool false),Is (.slice none 0 0),Is (.slice none 0 0)]) O_51 rfl (fun V=>aW zd (aW zd (aW zd (aW zd (aW zd (aG))))))) fun B6=>(ro rfl (cQ (cJ 0)) (eX (ts (rn rfl (eW (Ts:=[Is (.bool false),Is (.slice none 0 0),Is (.bool false),Is (.slice none 0 0),Is (.slice none 0 0)]) O_51 rfl (fun V=>aW zd (aW zd (aW zd (aW zd (aW zd (aG))))))) fun B8=>?_))))))))))
 refine eX (cK (cK (fZ (m:=6) (dp 5 rfl (eJ A_51 Z_51 (Ht rfl) (i:=2) rfl rfl rfl) (dq 18 0 rfl (cZ Tryz.call169 Fd ⟨(Ht rfl),trivial⟩) (dq 19 1 rfl (eT (Ht rfl)) (dq 20 2 rfl (cX (Ht rfl)) (C.D_step (Ei:=[(5,_),(21,_)]) rfl rfl (bV (bK rfl rfl) (bV (bG 3 rfl rfl) bW)) (eK rfl rfl (Ht rfl) (fun h=>eJ A_51 Z_51 (Ht rfl) (i:=2) rfl rfl rfl)) (C.D_step (Ei:=[(21,_)]) rfl rfl (bV (bG 3 rfl rfl) bW) (eK rfl rfl (Ht rfl) (fun h=>cZ K_77 (qA (n:=0) (by decide) (by decide)) ⟨(cJ 0),trivial⟩)) ?_)))))))))
 refine fV aO rfl (by kernel_rfl) (zF (aJ (aJ (aV (fQ rfl rfl (eK rfl rfl (Ht rfl) (fun h=>cZ Tryz.call76 (Th (x:=t0) (y:=Qi.zero) (M:=1) zo) ⟨(fJ rfl h),(fJ rfl h),trivial⟩)) (fQ rfl rfl (eK rfl rfl (Ht rfl) (fun h=>Lt (fJ rfl h) cV)) (ro rfl (gT (Ht rfl) (fun h=>(fJ rfl h))) (eX (dQ (Ht rfl) (fun hb=>?_) (fun hb=>?_))))))))))
 ·rw [Om] at hb
  simp only [Bool.not_eq_true'] at hb
  have he:wI z s c g t0 = (Qi.zero,1):=by rw [wI,if_pos hb]
  refine ts (ro rfl (eJ A_51 Z_51 (Ht rfl) (i:=4) rfl rfl rfl) (gQ Z_51 (Ht rfl) (Ht rfl) rfl (i:=3) rfl (aK rfl) rfl rfl (ro rfl (cQ (cJ 1)) (eX (bM rfl (fX (fK A_51 Z_51 rfl (i:=3) rfl rfl) ?_) (fX (eU rfl) ?_))))))
  ·exact (fun v V k=>by rw [he]; exact nK v V k)
  ·exact (fun v V k=>by rw [he]; exact k)
 ·rw [Om] at hb
  simp only [Bool.not_eq_false'] at hb
  have hb2:¬ fP t0 = false:=by rw [hb]; decide
  refine cU (cK (ts (ro rfl (eZ nB (Ht rfl) rfl) (ro rfl (eY A_30 Z_30 (Ht rfl) (i:=0) rfl rfl) (ro rfl (dG U_30 (Ht rfl) aA) (ro rfl (eO (Ht rfl) (cJ 2)) (eX (dQ (Ht rfl) (fun hd=>?_) (fun hd=>?_)))))))))
  ·have hd2 : z.length ≠ 2 := by rw [← hcl]; simpa using hd
   have he:wI z s c g t0 = (Qi.zero,4):=by rw [wI,if_neg hb2,if_pos hd2]
   refine ts (ro rfl (eJ A_51 Z_51 (Ht rfl) (i:=4) rfl rfl rfl) (gQ Z_51 (Ht rfl) (Ht rfl) rfl (i:=3) rfl (aK rfl) rfl rfl (ro rfl (cQ (cJ 4)) (eX (bM rfl (fX (fK A_51 Z_51 rfl (i:=3) rfl rfl) ?_) (fX (eU rfl) ?_))))))
   ·exact (fun v V k=>by rw [he]; exact nK v V k)
   ·exact (fun v V k=>by rw [he]; exact k)
  ·have hd2 : z.length = 2 := by rw [← hcl]; simpa using hd
   have hd3:¬ z.length ≠ 2:=fun h=>h hd2
   have hsh2:=hsh
   rw [hd2] at hsh hch
   have hs1:=hsh.1
   have hc1:=hch.1
   have hr0:=hsh.row (i:=0) (by decide)
   have hr1:=hsh.row (i:=1) (by decide)
   have hWf:=Ia hs hg hL1
   have hW:cM (Vc s g) 1 2:=⟨rfl,fun r hr=>by have:=List.mem_singleton.1 hr; subst this; rfl⟩
   have hXs:cM (kC (Vc s g) c) 1 1:=oO
   have hX0:=hXs.row (i:=0) (by decide)
   have hp1:=pk1 (z:=z) zo
   haveI f1:aD (gm s 1 0) L:=hs.get hL1 1 0
   haveI f2:aD (gm s 0 0) L:=hs.get hL1 0 0
   haveI f3:aD (Sd z ((1:Nat):Int)) L:=by rw [hp1]; exact hz.get hL1 0
   haveI f4:=Ve hs hc hg hL1 zo
   have hpd:gm s 1 0 * (gm s 1 0).conj * (t0 * Sd z ((1:Nat):Int)) * (Ga - g * g.conj) = Hz z s g t0:=by rw [hp1,Qi.mul_conj_norm,Qi.mul_conj_norm,Hz,Qi.mul_assoc']
   refine cU (ts (ro rfl (eZ rE (Ht rfl) rfl) (ro rfl (eJ A_32 Z_32 (Ht rfl) (i:=0) rfl rfl rfl) (ro rfl (cZ Tryz.call93 (Ug hsh2 zo) ⟨(Ht rfl),trivial⟩) (ro rfl (cZ K_77 (qA (n:=1) (by decide) (by decide)) ⟨(cJ 1),trivial⟩) (ro rfl (cZ K_98 Ky ⟨(Ht rfl),trivial⟩) (rn rfl (eW (Ts:=[Is (.bool false),Is (.slice none 0 0),Is (.bool false),Is (.slice none 0 0),Is (.slice none 0 0)]) O_51 rfl (fun V=>aW zd (aW zd (aW zd (aW zd (aW zd (aG))))))) fun B10=>?_)))))))
   refine ra rfl (gQ Z_51 (Ht rfl) (Ht rfl) rfl (i:=5) rfl (aK rfl) rfl rfl (eX (ts (ro rfl (eZ rE (Ht rfl) rfl) (ro rfl (eJ A_32 Z_32 (Ht rfl) (i:=0) rfl rfl rfl) (ro rfl (cZ Tryz.call23 (Tj (i:=((1:Nat):Int)) zo) ⟨(Ht rfl),(cJ 1),trivial⟩) (rm rfl (ro rfl (dK (Ht rfl) rfl) (ro rfl (dK (Ht rfl) rfl) (rn rfl (eW (Ts:=[Is (.bool false),Is (.slice none 0 0),Is (.bool false),Is (.slice none 0 0),Is (.slice none 0 0)]) O_51 rfl (fun V=>aW zd (aW zd (aW zd (aW zd (aW zd (aG))))))) fun B11=>?_))))))))))
   refine gQ Z_51 (Ht rfl) (Ht rfl) rfl (i:=6) rfl (aK rfl) rfl rfl (ra rfl (eX (cK (oJ (E':=[(3,_),(4,_),(5,_),(6,_),(7,_),(8,_),(9,_),(10,_),(11,_)]) (zS rfl) (fZ (m:=18) (dp 9 rfl (cX (Ht rfl)) (dq 44 0 rfl (dZ U_30 Z_29 (Ht rfl) (cJ 1) rfl (dY (dU (d:=[]) zo))) (dq 45 1 rfl (dJ A_29 Z_29 (Ht rfl)) (dq 46 2 rfl (dZ U_29 Z_51 (Ht rfl) (cJ 0) rfl (dY (dU (d:=Qi.zero) (by rw [hr1]; decide)))) ?_)))))))))
   refine dq 47 3 rfl (dJ A_51 Z_51 (Ht rfl)) (dq 48 4 rfl (cC dE (Ht rfl)) (dp 4 rfl (eJ A_51 Z_51 (Ht rfl) (i:=1) rfl rfl rfl) (cP 49 5 50 6 rfl (bO fS K_45 (nH zo) (Ht rfl) ⟨(Ht rfl),trivial⟩) (dp 10 rfl (eJ A_51 Z_51 (Ht rfl) (i:=5) rfl rfl rfl) (dq 52 8 rfl (cC dE (Ht rfl)) (dp 4 rfl (eJ A_51 Z_51 (Ht rfl) (i:=1) rfl rfl rfl) (dq 54 10 rfl (cC dE (Ht rfl)) (dp 9 rfl (cX (Ht rfl)) (dq 56 12 rfl (dZ U_30 Z_29 (Ht rfl) (cJ 0) rfl (dY (dU (d:=[]) zo))) ?_)))))))))
   refine dq 57 13 rfl (dJ A_29 Z_29 (Ht rfl)) (dq 58 14 rfl (dZ U_29 Z_51 (Ht rfl) (cJ 0) rfl (dY (dU (d:=Qi.zero) (by rw [hr0]; decide)))) ?_)
   refine dq 59 15 rfl (dJ A_51 Z_51 (Ht rfl)) (cP 55 11 60 16 rfl (bO fS K_45 (nH zo) (Ht rfl) ⟨(Ht rfl),trivial⟩) (fV aO rfl (by kernel_rfl) (zF (zF (zF (zF (aJ (aJ (aV (ro rfl (bO lX K_44 (yF zo) (Ht rfl) ⟨(Ht rfl),trivial⟩) (ro rfl (dN (xs:=[.tmp 51,.tmp 62]) U_29 Z_51 O_51 (cW (Ht rfl) (cW (Ht rfl) cG)) rfl rfl rfl) ?_)))))))))))
   refine ro rfl (dN (xs:=[.tmp 63]) U_30 Z_29 Tryz.zeroValue29 (cW (Ht rfl) cG) rfl rfl rfl) (ra rfl (eX (cK (oJ (E':=[(3,_),(4,_),(5,_),(6,_),(7,_),(8,_),(9,_),(10,_),(11,_),(13,_)]) (zS rfl) (cY (rm rfl (ro rfl (eZ nB (Ht rfl) rfl) (ro rfl (eY A_30 Z_30 (Ht rfl) (i:=0) rfl rfl) (ro rfl (cZ Tryz.call99 (a1l (p:=Vc s g) (c:=c) (n:=1) (m:=2) (L:=2 * L + 4) hW hch hWf (hc.le zo) zo zo (by decide) (by decide) (by decide) (by decide)) ⟨(Ht rfl),(Ht rfl),trivial⟩) ?_)))))))))
   refine ro rfl (dZ U_30 Z_29 (Ht rfl) (cJ 0) rfl (dY (dU (d:=[]) (by rw [hXs.1]; decide)))) ?_
   refine ro rfl (dJ A_29 Z_29 (Ht rfl)) (ro rfl (dZ U_29 Z_51 (Ht rfl) (cJ 0) rfl (dY (dU (d:=Qi.zero) (by rw [hX0]; decide)))) ?_)
   refine ro rfl (dJ A_51 Z_51 (Ht rfl)) (rn rfl (eW (Ts:=[Is (.bool false),Is (.slice none 0 0),Is (.bool false),Is (.slice none 0 0),Is (.slice none 0 0)]) O_51 rfl (fun V=>aW zd (aW zd (aW zd (aW zd (aW zd (aG))))))) fun B14=>(gQ Z_51 (Ht rfl) (Ht rfl) rfl (i:=7) rfl (aK rfl) rfl rfl (eX (cK (oJ (E':=[(3,_),(4,_),(5,_),(6,_),(7,_),(8,_),(9,_),(10,_),(11,_),(14,_)]) (zS rfl) ?_)))))
   refine fZ (m:=32) (dp 9 rfl (cX (Ht rfl)) (dq 73 0 rfl (dZ U_30 Z_29 (Ht rfl) (cJ 1) rfl (dY (dU (d:=[]) zo))) (dq 74 1 rfl (dJ A_29 Z_29 (Ht rfl)) (dq 75 2 rfl (dZ U_29 Z_51 (Ht rfl) (cJ 0) rfl (dY (dU (d:=Qi.zero) (by rw [hr1]; decide)))) ?_))))
   refine dq 76 3 rfl (dJ A_51 Z_51 (Ht rfl)) (dq 77 4 rfl (cC dE (Ht rfl)) (dp 9 rfl (cX (Ht rfl)) (dq 79 6 rfl (dZ U_30 Z_29 (Ht rfl) (cJ 1) rfl (dY (dU (d:=[]) zo))) (dq 80 7 rfl (dJ A_29 Z_29 (Ht rfl)) (dq 81 8 rfl (dZ U_29 Z_51 (Ht rfl) (cJ 0) rfl (dY (dU (d:=Qi.zero) (by rw [hr1]; decide)))) ?_)))))
   refine dq 82 9 rfl (dJ A_51 Z_51 (Ht rfl)) (dq 83 10 rfl (cC dE (Ht rfl)) (dq 84 11 rfl (bO rH Tryz.call175 Kp (Ht rfl) trivial) (cP 78 5 85 12 rfl (bO fS K_45 (nH zo) (Ht rfl) ⟨(Ht rfl),trivial⟩) (dq 86 13 rfl (cC dE (Ht rfl)) (dp 5 rfl (eJ A_51 Z_51 (Ht rfl) (i:=2) rfl rfl rfl) (dp 11 rfl (eJ A_51 Z_51 (Ht rfl) (i:=6) rfl rfl rfl) (cP 88 15 89 16 rfl (cZ K_45 (nH zo) ⟨(Ht rfl),(Ht rfl),trivial⟩) (dq 90 17 rfl (cZ K_98 Ky ⟨(Ht rfl),trivial⟩) ?_))))))))
   refine cP 87 14 91 18 rfl (bO fS K_45 (nH zo) (Ht rfl) ⟨(Ht rfl),trivial⟩) (dq 92 19 rfl (cC dE (Ht rfl)) (dp 10 rfl (eJ A_51 Z_51 (Ht rfl) (i:=5) rfl rfl rfl) (dq 94 21 rfl (cC dE (Ht rfl)) (dp 4 rfl (eJ A_51 Z_51 (Ht rfl) (i:=1) rfl rfl rfl) (dq 96 23 rfl (cC dE (Ht rfl)) (dp 4 rfl (eJ A_51 Z_51 (Ht rfl) (i:=1) rfl rfl rfl) (dq 98 25 rfl (cC dE (Ht rfl)) (dq 99 26 rfl (bO rH Tryz.call175 Kp (Ht rfl) trivial) (cP 97 24 100 27 rfl (bO fS K_45 (nH zo) (Ht rfl) ⟨(Ht rfl),trivial⟩) ?_)))))))))
   refine cP 95 22 101 28 rfl (bO lX K_44 (yF zo) (Ht rfl) ⟨(Ht rfl),trivial⟩) (cP 93 20 102 29 rfl (bO fS K_45 (nH zo) (Ht rfl) ⟨(Ht rfl),trivial⟩) (C.D_new (Ei:=[]) rfl rfl rfl bW (eW (Ts:=[Is (.bool false),Is (.slice none 0 0),Is (.bool false),Is (.slice none 0 0),Is (.slice none 0 0)]) O_51 rfl (fun V=>aW zd (aW zd (aW zd (aW zd (aW zd (aG))))))) (fV aO rfl (by kernel_rfl) (zF (zF (zF (zF (zF (zF (zF (aJ (aJ (aJ (C.F_new (fun B15=>aV ?_)))))))))))))))
   refine gQ Z_51 (Ht rfl) (Ht rfl) rfl (i:=8) rfl (aK rfl) rfl rfl (eX (cK (oJ (E':=[(6,_),(7,_),(8,_),(10,_),(14,_),(15,_)]) (zS rfl) (cY (ro rfl (eJ A_51 Z_51 (Ht rfl) (i:=7) rfl rfl rfl) (ro rfl (cC dE (Ht rfl)) (ro rfl (eJ A_51 Z_51 (Ht rfl) (i:=8) rfl rfl rfl) (ro rfl (bO sN Tryz.call40 (Gw (x:=Vd s c g) (y:=gm s 1 0 * (gm s 1 0).conj * (t0 * Sd z ((1:Nat):Int)) * (Ga - g * g.conj)) zo) (Ht rfl) ⟨(Ht rfl),trivial⟩) ?_))))))))
   refine rm rfl (ro rfl (dK (Ht rfl) rfl) (ro rfl (dK (Ht rfl) rfl) (rn rfl (eW (Ts:=[Is (.bool false),Is (.slice none 0 0),Is (.bool false),Is (.slice none 0 0),Is (.slice none 0 0)]) O_51 rfl (fun V=>aW zd (aW zd (aW zd (aW zd (aW zd (aG))))))) fun B16=>(gQ Z_51 (Ht rfl) (Ht rfl) rfl (i:=9) rfl (aK rfl) rfl rfl (ra rfl (eX (cK (cK (oJ (E':=[(6,_),(7,_),(8,_),(10,_),(16,_),(17,_)]) (zS rfl) ?_)))))))))
   refine cY (rm rfl (ro rfl (kE (Ht rfl) cV) (eX (dQ (Ht rfl) (fun hk=>?_) (fun hk=>?_)))))
   ·rw [hpd] at hk
    have hk2 : Hz z s g t0 = Qi.zero := by
     by_cases h:Hz z s g t0 = Qi.zero
     ·exact h
     ·rw [if_neg h] at hk; exact absurd hk (by decide)
    have he:wI z s c g t0 = (Qi.zero,3):=by rw [wI,if_neg hb2,if_neg hd3,if_pos hk2]
    refine ts (ro rfl (eJ A_51 Z_51 (Ht rfl) (i:=4) rfl rfl rfl) (gQ Z_51 (Ht rfl) (Ht rfl) rfl (i:=3) rfl (aK rfl) rfl rfl (ro rfl (cQ (cJ 3)) (eX (bM rfl (fX (fK A_51 Z_51 rfl (i:=3) rfl rfl) ?_) (fX (eU rfl) ?_))))))
    ·exact (fun v V k=>by rw [he]; exact nK v V k)
    ·exact (fun v V k=>by rw [he]; exact k)
   ·have hk2 : ¬ Hz z s g t0 = Qi.zero := fun h => by rw [hpd, if_pos h] at hk; exact absurd hk (by decide)
    have he:wI z s c g t0 = (Ga + Vd s c g / Hz z s g t0,0):=by rw [wI,if_neg hb2,if_neg hd3,if_neg hk2]
    have hv:Ga + Vd s c g / (gm s 1 0 * (gm s 1 0).conj * (t0 * Sd z ((1:Nat):Int)) * (Ga - g * g.conj)) = (wI z s c g t0).1:=by rw [he,hpd]
    refine cU (ts (ro rfl (eJ A_51 Z_51 (Ht rfl) (i:=5) rfl rfl rfl) (ro rfl (cC dE (Ht rfl)) (ro rfl (eJ A_51 Z_51 (Ht rfl) (i:=9) rfl rfl rfl) (ro rfl (bO sM K_46 (De zo) (Ht rfl) ⟨(Ht rfl),trivial⟩) (gQ Z_51 (Ht rfl) (Ht rfl) rfl (i:=3) rfl (aK rfl) rfl rfl (ro rfl (cQ (cJ 0)) (eX (bM rfl (fX (fK A_51 Z_51 rfl (i:=3) rfl rfl) ?_) (fX (eU rfl) ?_))))))))))
    ·exact (lS hv)
    ·exact (fun v V k=>by rw [he]; exact k)
end
section
open Go Go.RowKit
theorem Zd {n:Nat} (h:n < 4294967296):bB Tryz.prog 278 [NT .u64 1,NT .u64 n] (fH [NT .u64 0,NT .u64 n]):=by
 refine bB.intro Tryz.func278 rfl Tryz.ntmps278 rfl (fun cx=>(ts (ro rfl (cQ (cJ 0)) (ro rfl (cQ (cJ 0)) (eX (ts (rm rfl (ro rfl (aL.nat (uI rfl (Ht rfl) (cJ 4294967295) z7 z7) (show (1:Nat) &&& 4294967295 = 1 by decide)) (ra rfl (eX (ts (rm rfl (ro rfl (aL.nat (eP (Ht rfl) (cJ 32) (by decide)) (show (1:Nat) / 2 ^ 32 = 0 by decide)) (ra rfl (eX (ts (rm rfl (ro rfl (aL.nat (uI rfl (Ht rfl) (cJ 4294967295) z7 z7) (show n &&& 4294967295 = n from (Nat.and_two_pow_sub_one_eq_mod n 32).trans (Nat.mod_eq_of_lt h))) ?_))))))))))))))))))
 refine ra rfl (eX (ts (rm rfl (ro rfl (aL.nat (eP (Ht rfl) (cJ 32) (by decide)) (show n / 2 ^ 32 = 0 from Nat.div_eq_of_lt h)) (ra rfl (eX (ts (rm rfl (rm rfl (ro rfl (aL.nat (kZ (Ht rfl) (Ht rfl) z7) (Nat.one_mul n)) (ra rfl (eX (ts (rm rfl (rm rfl (ro rfl (aL.nat (kZ (Ht rfl) (Ht rfl) z7) (Nat.zero_mul n)) (rm rfl (ro rfl (aL.nat (eP (Ht rfl) (cJ 32) (by decide)) (show n / 2 ^ 32 = 0 from Nat.div_eq_of_lt h)) ?_))))))))))))))))))
 refine ro rfl (dV (Ht rfl) (Ht rfl) z7) (ra rfl (eX (ts (rm rfl (ro rfl (aL.nat (uI rfl (Ht rfl) (cJ 4294967295) z7 z7) (show (0 + 0:Nat) &&& 4294967295 = 0 by decide)) (ra rfl (eX (ts (rm rfl (ro rfl (aL.nat (eP (Ht rfl) (cJ 32) (by decide)) (show (0 + 0:Nat) / 2 ^ 32 = 0 by decide)) (ra rfl (eX (ts (rm rfl (rm rfl (rm rfl ?_))))))))))))))))
 refine ro rfl (aL.nat (kZ (Ht rfl) (Ht rfl) z7) (show (1 * 0:Nat) = 0 by decide)) (ro rfl (dV (Ht rfl) (Ht rfl) z7) (ra rfl (eX (ts (rm rfl (rm rfl (ro rfl (aL.nat (kZ (Ht rfl) (Ht rfl) z7) (show (0 * 0:Nat) = 0 by decide)) (rm rfl (ro rfl (dV (Ht rfl) (Ht rfl) z7) ?_)))))))))
 refine rm rfl (ro rfl (aL.nat (eP (Ht rfl) (cJ 32) (by decide)) (show (0 + 0:Nat) / 2 ^ 32 = 0 by decide)) (ro rfl (dV (Ht rfl) (Ht rfl) z7) (ra rfl (eX (ts (rm rfl (rm rfl (ro rfl (aL.nat (kZ (Ht rfl) (Ht rfl) z7) (Nat.one_mul n)) (ra rfl (eX (bM rfl (fX (eU rfl) ?_) (eU rfl))))))))))))
 exact (kI (by decide))
theorem a21 {n:Nat} (h:n < 4294967296):bB Tryz.prog 251 [NT .u64 1,NT .u64 n] (fH [NT .u64 0,NT .u64 n]):=by
 refine bB.intro Tryz.func251 rfl Tryz.ntmps251 rfl (fun cx=>(ts (ro rfl (cQ (cJ 0)) (ro rfl (cQ (cJ 0)) (eX (cK (dQ cV (fun hf=>?_) (fun hf=>?_))))))))
 ·exact absurd hf (by decide)
 ·refine cU (ts (rm rfl (rm rfl (ro rfl (cZ Tryz.call278 (Zd h) ⟨(Ht rfl), (Ht rfl), trivial⟩) (rm rfl (ro rfl (dK (Ht rfl) rfl) (ro rfl (dK (Ht rfl) rfl) (ra rfl (ra rfl (eX (ts (rm rfl (rm rfl (ra rfl (ra rfl (eX ?_))))))))))))))))
  exact bM rfl (eU rfl) (eU rfl)
theorem Tk {m:Nat} (h1:1 ≤ m) (hm:m ≤ 1000):gF Tryz.prog 191 [bN [Qi.zero],NT .i64 m] [] ({v:Value // dT v}) (fun v=>Is v.1) (fun v=>[cD 51 5 v.1 ((tab m fun _=>Qi.zero).map aN)]) (fun _=>True):=by
 refine gF.intro Tryz.func191 rfl Tryz.ntmps191 rfl (fun cx Z=>(ts (ro rfl (cQ cV) (eX (cK (ts (rm rfl (ro rfl (gX (Ht rfl) (cJ 0)) (eX (dQ (Ht rfl) (fun h0=>?_) (fun h0=>?_)))))))))))
 ·simp only [decide_eq_true_eq] at h0
  omega
 ·refine cU (ts (rm rfl (ro rfl (dG U_29 (Ht rfl) (show (([Qi.zero].map aN).length : Int) = ((1 : Nat) : Int) from rfl)) (ro rfl (gZ U_3 U_255 (Ht rfl) z7) (rm rfl (ro rfl (gZ U_3 U_255 (Ht rfl) z7) (ro rfl (cZ Tryz.call251 (a21 zo) ⟨(Ht rfl), (Ht rfl), trivial⟩) (rm rfl (ro rfl (dK (Ht rfl) rfl) (ro rfl (dK (Ht rfl) rfl) ?_))))))))))
  refine ra rfl (ra rfl (eX (cK (ts (rm rfl (ro rfl (eC (Ht rfl) (cJ 0)) (rm rfl (fQ rfl rfl (eK rfl rfl (Ht rfl) (fun h=>cX (Ht rfl))) (fQ rfl rfl (eK rfl rfl (Ht rfl) (fun h=>eC (fJ rfl h) (cJ 9223372036854775807))) (ro rfl (gT (Ht rfl) (fun h=>(fJ rfl h))) (eX (dQ (Ht rfl) (fun h2=>?_) (fun h2=>?_)))))))))))))
  ·simp only [Bool.or_eq_true, decide_eq_true_eq] at h2
   omega
  ·refine cU (ts (rm rfl (ro rfl (gZ U_255 U_3 (Ht rfl) z6) (Mq (T := aN Qi.zero) (i := Tryz.t51) nS lO rfl rfl (Ht rfl) rfl kT (El.ag rfl) (by show 88 * _ ≤ _; omega) zo rfl (fun B30 hB30 => (ra rfl (eX (ts (rm rfl (rm rfl (ro rfl (Wl (q := 1) (T := aN Qi.zero) U_29 Z_51 (i := 1) rfl (Ht rfl) (Ht rfl) (by decide) (El.ag rfl) zo) (ra rfl (eX (cK (eG ?_)))))))))))))))
   refine bS (fun (k : Nat) => 1 ≤ k ∧ k ≤ m) (fun (k : Nat) => m - k) (fun (k : Nat) => [(7, Is B30), (8, NT .i64 k)]) (fun (k : Nat) => [Z, cD 51 5 B30 (List.replicate m (aN Qi.zero))]) (Nat.min 1 m) ⟨by show 1 ≤ min 1 m; omega, by show min 1 m ≤ m; omega⟩
    (zS rfl) (cT.refl _) (fun k ⟨hk1,hk⟩=>?_)
   refine cK (ts (rm rfl (rm rfl (ro rfl (rL U_29 (Ht rfl) (i:=1) rfl (show ((List.replicate m (aN Qi.zero)).length:Int) = ((m:Nat):Int) by simp)) (ro rfl (gX (Ht rfl) (Ht rfl)) (eX (dQ (Ht rfl) (fun hd=>?_) (fun hd=>?_))))))))
   ·simp only [decide_eq_true_eq] at hd
    have hlen:(List.replicate m (aN Qi.zero)).length = m:=by simp
    have h5:Nat.min k ((List.replicate m (aN Qi.zero)).length - k) = min k (m - k):=by rw [hlen]
    refine cU (eG (fZ (m:=8) (dp 8 rfl (cX (Ht rfl)) (dp 7 rfl (cX (Ht rfl)) (dp 8 rfl (cX (Ht rfl)) (cP 39 1 40 2 rfl (Wp U_29 Z_51 (Ht rfl) (Ht rfl) rfl (i:=1) rfl (by rw [hlen]; exact hd)) ?_))))))
    refine dp 7 rfl (cX (Ht rfl)) (dp 8 rfl (cX (Ht rfl)) (cP 42 4 43 5 rfl (Wo U_29 Z_51 (Ht rfl) (Ht rfl) rfl (i:=1) rfl (by rw [hlen]; omega) (by rw [hlen]; omega)) ?_))
    refine cP 41 3 44 6 rfl (Lq (T:=aN Qi.zero) U_29 Z_51 (i:=1) rfl (Ht rfl) (Ht rfl)) (fV aO rfl (by kernel_rfl) (zF (zF (aV (ro rfl (dV (Ht rfl) (Ht rfl) (by show _ < 9223372036854775808; omega)) (ra rfl (eX (bA (fU (k + Nat.min k ((List.replicate m (aN Qi.zero)).length - k)) ⟨by omega,by omega⟩ zo (zS rfl) (cT.refl _))))))))))
   ·refine gV rfl (ts (rm rfl (ra rfl (eX ?_))))
    exact jM ⟨B30,hB30⟩ trivial [0,1] ⟨⟨_,rfl,fun _ _ _ h=>h⟩,⟨_,rfl,(cA (by rw [mC,tG]))⟩,trivial⟩ (by decide) (vM rfl (eU rfl))
end
section
open Go Go.RowKit
theorem Ai {n : Nat} {E : dC} {H : Hp} {d : Option Tmp} {t : TypeId} {pos : String} {af : Array Edge} {g : Option (Nat × Bool)} {x0 x1 : Operand} {T0 T1 T2 : Ty} (h0 : bF E x0 (fB [T0, T1])) [s1 : dO T2 1 false] (h1 : bF E x1 T2) :
  aL Tryz.prog n E H ⟨d,.build 34 #[(0,x0),(1,x1)],t,pos,af,g⟩ (fB [T0,T1,T2]) :=
 fT (parts := [(0, x0), (1, x1)]) fun a V w hs => by
  obtain ⟨v0,e0,c0⟩:=h0 n V a hs
  obtain ⟨c0_0,c0_1,rfl⟩:∃ c0_0 c0_1,v0 = [c0_0,c0_1]:=yJ (by simpa using c0.length)
  have p1:=h1 n V a hs
  generalize e1:a.eval x1 = v1 at p1
  have q1:=(s1.ok v1 V p1).2.2 rfl
  refine ⟨.agg #[c0_0,c0_1,v1],?_,[c0_0,c0_1,v1],rfl,aW (c0.at (i:=0) rfl rfl) (aW (c0.at (i:=1) rfl rfl) (aW (⟨p1,q1⟩) (aG)))⟩
  simp [e0,e1,Instr.build,Instr.fill,Sem.run_bind,Result.andThen,eN,q1.cells,O_34,U_34,Z_30,Z_32]
end
section
open Go Go.RowKit
theorem Uj {n:Nat} (hn:n ≤ 1000):gF Tryz.prog 97 [NT .i64 n,NT .i64 n] [] (Nat) (fun B=>Is (.slice (some ⟨B,0,none⟩) n n)) (fun B=>[jQ dT B 29 51 5 (bL aN (tP n n))]) (fun _=>True):=by
 refine gF.intro Tryz.func97 rfl Tryz.ntmps97 rfl (fun cx Z=>(ts (ro rfl (cQ cV) (eX (ts (rm rfl (rn rfl (eE (T:=Is (.slice none 0 0)) (i:=Tryz.t29) V_30 nW rfl rfl (Ht rfl) rfl (fun _=>rfl) trivial (by show 24 * _ ≤ _; omega) zo) fun B8=>(ra rfl (eX (cK (ts (rm rfl (ro rfl (hJ U_30 (Ht rfl)) (ro rfl (cX (cJ 0)) (eX (eG (nO 1 rfl (wM dT ⟨none,0,rfl⟩ (e:=51) (s:=5)) ?_)))))))))))))))))
 refine bS (fun (k : Nat) => k ≤ n) (fun (k : Nat) => n - k) (fun (k : Nat) => [(1, NT .i64 n), (5, Is (.slice (some ⟨B8, 0, none⟩) n n)), (10, NT .i64 n), (11, NT .i64 k)]) (fun (k : Nat) => [Z, jQ dT B8 29 51 5 (bL aN (iU (fun _ => (tab n fun _ => Qi.zero)) [] n k))]) 0 (Nat.zero_le _)
  (zS rfl) (aU (fun _ _ _ h=>h) (aU (bE (by rw [← iF,mC]; exact mK aN n)) aY)) (fun k hk=>?_)
 refine ts (ro rfl (gX (Ht rfl) (Ht rfl)) (eX (cK (dQ (Ht rfl) (fun hd=>?_) (fun hd=>?_)))))
 ·simp only [decide_eq_true_eq] at hd
  refine jK 1 (k) rfl (kQ hd) (fun v hv=>(cU (cK (eG (ts (rm rfl (ra rfl (eX (cY (rm rfl (rm rfl (ro rfl (cZ K_77 (qA (n:=0) (by decide) (by decide)) ⟨(cJ 0),trivial⟩) (ro rfl (cZ K_98 Ky ⟨(Ht rfl),trivial⟩) (ro rfl (dN (xs:=[.tmp 17]) U_29 Z_51 O_51 (cW (Ht rfl) cG) rfl rfl rfl) (rm rfl (jF Tryz.call191 (Tk (m:=n) zo hn) ⟨(Ht rfl),(Ht rfl),trivial⟩ rfl (fun B20 _=>?_)))))))))))))))))
  have hB20:=B20.2
  refine ro rfl (fY U_30 Z_29 (Ht rfl) (Ht rfl) rfl zo (by rw [Nat.mul_one,Nat.zero_add])) ?_
  refine rX Z_29 (Ht rfl) (Ht rfl) (by simp only [bL,List.length_map,eM]; omega) (j:=1) (l:=3) rfl rfl rfl ?_
  refine eX (bA (dS 1 3 rfl rfl (by decide) (by simp only [bL,List.length_map,eM]; omega) ?_))
  refine cY (ro rfl (dV (Ht rfl) (cJ 1) z6) (rm rfl (eX (cH [0,1] rfl (by decide) (fU (k + 1) hd zo (zS rfl) (aU (fun _ _ _ h=>h) (aU (bE (by rw [eH,← jH (f:=fun _=>(tab n fun _=>Qi.zero))])) aY)))))))
 ·simp only [decide_eq_false_iff_not] at hd
  obtain rfl:n = k:=Nat.le_antisymm zo hk
  refine gV rfl (ts (rm rfl (ra rfl (eX ?_))))
  exact jM B8 trivial [0,1] ⟨⟨_,rfl,fun _ _ _ h=>h⟩,⟨_,rfl,(bE (by rw [jG]; rfl))⟩,trivial⟩ (by decide) (vM rfl (eU rfl))
theorem Ui {z:List Qi} {s:List (List Qi)} {L:Nat} (hz:bP z L) (hs:aS s L) (hL1:1 ≤ L) (hL:L ≤ 10000000) (hsh:cM s z.length z.length) (hl1:1 ≤ z.length) (hl:z.length ≤ 8):gF Tryz.prog 160 [nF z s] [] (Nat) (fun B=>Is (.slice (some ⟨B,0,none⟩) z.length z.length)) (fun B=>[jQ dT B 29 51 5 (bL aN (qP z s))]) (fun _=>True):=by
 have hs1:=hs.le (Nat.le_refl L)
 have hsl:=hsh.1
 have hD:=Hr z
 have hDf:=Av hz hL1
 have hXf:=vZ hs hDf hL1 (by rw [hD.1]; exact hl)
 have hX:cM (kC s (iP z)) s.length s.length:=oO
 refine gF.intro Tryz.func160 rfl Tryz.ntmps160 rfl (fun cx Z=>(ts (rn rfl (fG (Ht rfl)) fun B1=>(ro rfl (cQ cV) (eX (cK (fZ (m:=3) (dp 1 rfl (eJ A_32 Z_32 (Ht rfl) (i:=1) rfl rfl rfl) (dq 10 0 rfl (cZ K_22 qY ⟨(Ht rfl),trivial⟩) (dp 1 rfl (eJ A_32 Z_32 (Ht rfl) (i:=1) rfl rfl rfl) (fV aO rfl (by kernel_rfl) (aJ (aJ (aJ (aV (ro rfl (cZ K_22 qY ⟨(Ht rfl),trivial⟩) (jF Tryz.call97 (Uj (n:=z.length) zo) ⟨(Ht rfl),(Ht rfl),trivial⟩ rfl (fun B14 _=>?_))))))))))))))))))
 refine ra rfl (eX (cK (ts (ro rfl (eJ A_32 Z_32 (Ht rfl) (i:=1) rfl rfl rfl) (ro rfl (cZ Tryz.call142 (Uf zo) ⟨(Ht rfl),trivial⟩) (ro rfl (dG U_29 (Ht rfl) aA) (ro rfl (cX (cJ 0)) (eX (eG ?_)))))))))
 refine bS (fun (i : Nat) => i ≤ z.length) (fun (i : Nat) => z.length - i) (fun (i : Nat) => [(1, dA B1 0), (3, Is (.slice (some ⟨B14, 0, none⟩) z.length z.length)), (16, bN z), (17, NT .i64 z.length), (18, NT .i64 i)]) (fun (i : Nat) => [Z, box B1 32 [bN z, cE s], jQ dT B14 29 51 5 (bL aN (iU (fun i => (tab z.length fun _ => Qi.zero).set i (gv z i)) (tab z.length fun _ => Qi.zero) z.length i))]) 0 (Nat.zero_le _)
  (zS rfl) (aU (fun _ _ _ h=>h) (aU (fun _ _ _ h=>h) (aU (bE (by rw [tP,iF])) aY))) (fun i hi=>?_)
 refine ts (ro rfl (gX (Ht rfl) (Ht rfl)) (eX (cK (dQ (Ht rfl) (fun hd=>?_) (fun hd=>?_)))))
 ·simp only [decide_eq_true_eq] at hd
  have hzl:=bI z.length fun _=>Qi.zero
  refine jK 2 (i) rfl (kQ hd) (fun v hv=>(cU (cK (eG (ts (rm rfl (ro rfl (dZ U_29 Z_51 (Ht rfl) (Ht rfl) rfl (dY (dU (d:=Qi.zero) hd))) (ro rfl (dJ A_51 Z_51 (Ht rfl)) (rn rfl (eW (Ts:=[Is (.bool false),Is (.slice none 0 0),Is (.bool false),Is (.slice none 0 0),Is (.slice none 0 0)]) O_51 rfl (fun V=>aW zd (aW zd (aW zd (aW zd (aW zd (aG))))))) fun B5=>(ra rfl ?_))))))))))
  refine gQ Z_51 (Ht rfl) (Ht rfl) rfl (i:=4) rfl (aK rfl) rfl rfl (eX (fZ (m:=7) (dp 3 rfl (cX (Ht rfl)) (dp 4 rfl (cX (Ht rfl)) (cP 23 0 24 1 rfl (fY U_30 Z_29 (Ht rfl) (Ht rfl) rfl zo (by rw [Nat.mul_one,Nat.zero_add])) ?_)))))
  refine dq 25 2 rfl (gS A_29 Z_29 (Ht rfl) (j:=2) rfl) (dp 4 rfl (cX (Ht rfl)) (dp 5 rfl (eJ A_51 Z_51 (Ht rfl) (i:=4) rfl rfl rfl) (dq 28 5 rfl (cZ K_98 Ky ⟨(Ht rfl),trivial⟩) (fV aO rfl (by kernel_rfl) (zF (aJ (aJ (aJ (aV (ro rfl (dB U_29 Z_51 (Ht rfl) (Ht rfl) rfl (i:=3) rfl (by simp only [List.length_map,bI]; omega) rfl) ?_))))))))))
  refine kM Z_51 (Ht rfl) (Ht rfl) (El.ag rfl) (i:=3) rfl rfl (by simp only [List.length_map,bI]; omega) rfl ?_
  refine eX (bA (dS 2 3 rfl rfl (by decide) (by simp only [bL,List.length_map,eM]; omega) ?_))
  refine cY (ro rfl (dV (Ht rfl) (cJ 1) z6) (rm rfl (eX (cH [0,1,2] rfl (by decide) (fU (i + 1) hd zo (zS rfl) (aU (fun _ _ _ h=>h) (aU (fun _ _ _ h=>h) (aU (bE (by rw [← jH (f:=(fun i=>(tab z.length fun _=>Qi.zero).set i (gv z i))),← eH,← fI])) aY))))))))
 ·simp only [decide_eq_false_iff_not] at hd
  obtain rfl:i = z.length:=Nat.le_antisymm hi zo
  rw [jG]
  refine gV rfl (ts (ro rfl (eJ A_32 Z_32 (Ht rfl) (i:=1) rfl rfl rfl) (ro rfl (cZ Tryz.call93 (Ug hsh hl) ⟨(Ht rfl),trivial⟩) (rm rfl (a1F Tryz.call99 (Tm (p:=s) (c:=iP z) (n:=z.length) (m:=z.length) (L:=L) hsh hD hs hDf hL1 zo hl1 hl1 hl hl) (j:=2) (tt:=34) rfl rfl (gK (s:=5) (M:=iP z) hD.1.symm) a2z (fun _=>inferInstance) (fun _ B hB=>by simp only [List.mem_singleton] at hB; subst hB; exact Xn) ⟨(Ht rfl),(Ht rfl),trivial⟩ rfl (fun B35 _=>(ra rfl (eX (cK (cK (gJ (i:=3) (tt:=6) rfl rfl (gK (s:=5) (M:=kC s (iP z)) (hX.1.trans hsl).symm) ?_)))))))))))
  refine cY (rm rfl (ro rfl (dG U_30 (Ht rfl) aA) (ro rfl (cX (cJ 0)) (eX (eG (cH [0,2] rfl (by decide) ?_))))))
  refine bS (fun (i : Nat) => i ≤ z.length) (fun (i : Nat) => z.length - i) (fun (i : Nat) => [(3, Is (.slice (some ⟨B14, 0, none⟩) z.length z.length)), (36, cE (kC s (iP z))), (37, NT .i64 z.length), (38, NT .i64 i)]) (fun (i : Nat) => [Z, jQ dT B14 29 51 5 (bL aN (qL (fun i => tab z.length fun j => gm (iP z) i j - gm (kC s (iP z)) i j) (fun i => tab z.length fun j => gm (iP z) i j) z.length i))]) 0 (Nat.zero_le _)
   (aQ rfl (aQ rfl (aZ rfl (kI (hX.1.trans hsl)) (zS rfl)))) (aU (fun _ _ _ h=>h) (aU (bE (by rw [← oD]; exact congrArg _ (rG hD))) aY)) (fun i hi=>?_)
  refine ts (ro rfl (gX (Ht rfl) (Ht rfl)) (eX (cK (dQ (Ht rfl) (fun he=>?_) (fun he=>?_)))))
  ·simp only [decide_eq_true_eq] at he
   have hxr:=hX.row (i:=i) zo
   refine jK 1 (i) rfl (xQ he) (fun v hv=>(cU (cK (eG (ts (rm rfl (ro rfl (dZ U_30 Z_29 (Ht rfl) (Ht rfl) rfl (dY (dU (d:=[]) (by rw [hX.1]; omega)))) ?_)))))))
   refine ro rfl (dJ A_29 Z_29 (Ht rfl)) (ra rfl (ra rfl (eX (ts (rm rfl (ro rfl (dG U_29 (Ht rfl) aA) (ro rfl (cX (cJ 0)) (eX (eG ?_)))))))))
   refine bS (fun (j : Nat) => j ≤ z.length) (fun (j : Nat) => z.length - j) (fun (j : Nat) => [(3, Is (.slice (some ⟨B14, 0, none⟩) z.length z.length)), (7, NT .i64 i), (8, bN ((kC s (iP z)).getD i [])), (36, cE (kC s (iP z))), (37, NT .i64 z.length), (38, NT .i64 i), (44, NT .i64 z.length), (45, NT .i64 j)]) (fun (j : Nat) => [Z, qK dT B14 29 51 5 (bL aN (qL (fun i => tab z.length fun j => gm (iP z) i j - gm (kC s (iP z)) i j) (fun i => tab z.length fun j => gm (iP z) i j) z.length i)) i v, cD 51 5 v ((qL (fun j => gm (iP z) i j - gm (kC s (iP z)) i j) (fun j => gm (iP z) i j) z.length j).map aN)]) 0 (Nat.zero_le _)
    (aQ rfl (aQ rfl (aQ rfl (aQ rfl (aQ rfl (aQ rfl (aZ rfl (kI (hxr.trans hsl)) (zS rfl)))))))) (aU (fun _ _ _ h=>h) (aU (fun _ _ _ h=>h) (aU (cA (by rw [← oD])) aY))) (fun j hj=>?_)
   refine ts (ro rfl (gX (Ht rfl) (Ht rfl)) (eX (cK (dQ (Ht rfl) (fun hf=>?_) (fun hf=>?_)))))
   ·simp only [decide_eq_true_eq] at hf
    have hrl:=mI (fun j=>gm (iP z) i j - gm (kC s (iP z)) i j) (fun j=>gm (iP z) i j) z.length j
    haveI f1:aD (gm (iP z) i j) L:=hDf.get hL1 i j
    haveI f2:aD (gm (kC s (iP z)) i j) (200 * L + 300):=hXf.get zo i j
    refine cU (cK (eG (ts (rm rfl (ra rfl (eX (fZ (m:=18) (dp 3 rfl (cX (Ht rfl)) (dp 7 rfl (cX (Ht rfl)) (cP 48 0 49 1 rfl (fY U_30 Z_29 (Ht rfl) (Ht rfl) rfl zo (by rw [Nat.mul_one,Nat.zero_add])) ?_))))))))))
    refine dq 50 2 rfl (gS A_29 Z_29 (Ht rfl) (j:=1) rfl) (dp 9 rfl (cX (Ht rfl)) (dp 3 rfl (cX (Ht rfl)) (dp 7 rfl (cX (Ht rfl)) (cP 53 5 54 6 rfl (fY U_30 Z_29 (Ht rfl) (Ht rfl) rfl zo (by rw [Nat.mul_one,Nat.zero_add])) ?_))))
    refine dq 55 7 rfl (gS A_29 Z_29 (Ht rfl) (j:=1) rfl) (dp 9 rfl (cX (Ht rfl)) (cP 56 8 57 9 rfl (dB U_29 Z_51 (Ht rfl) (Ht rfl) rfl (i:=2) rfl (by simp only [List.length_map,hrl]; omega) rfl) ?_))
    refine dq 58 10 rfl (oX A_51 Z_51 (Ht rfl) (i:=2) rfl rfl (dY (wO hf))) (dq 59 11 rfl (cC dE (Ht rfl)) (dp 8 rfl (cX (Ht rfl)) (dp 9 rfl (cX (Ht rfl)) (cP 61 13 62 14 rfl (dZ U_29 Z_51 (Ht rfl) (Ht rfl) rfl (dY (dU (d:=Qi.zero) (by rw [hxr]; omega)))) ?_))))
    refine dq 63 15 rfl (dJ A_51 Z_51 (Ht rfl)) (cP 60 12 64 16 rfl (bO lX K_44 (yF zo) (Ht rfl) ⟨(Ht rfl),trivial⟩) (fV aO rfl (by kernel_rfl) (zF (zF (zF (zF (aJ (aJ (aV (ro rfl (dB U_29 Z_51 (Ht rfl) (Ht rfl) rfl (i:=2) rfl (by simp only [List.length_map,hrl]; omega) rfl) ?_))))))))))
    refine kM Z_51 (Ht rfl) (Ht rfl) (El.ag rfl) (i:=2) rfl rfl (by simp only [List.length_map,hrl]; omega) rfl ?_
    refine eX (bA (cY (ro rfl (dV (Ht rfl) (cJ 1) z6) (rm rfl (eX (fU (j + 1) hf zo (zS rfl) (aU (fun _ _ _ h=>h) (aU (fun _ _ _ h=>h) (aU (cA (by rw [fI,← oV (f:=fun j=>gm (iP z) i j - gm (kC s (iP z)) i j)])) aY)))))))))
   ·simp only [decide_eq_false_iff_not] at hf
    obtain rfl:j = z.length:=Nat.le_antisymm hj zo
    refine gV rfl (bA (dS 1 2 rfl rfl (by decide) (by simp only [bL,List.length_map,mI]; omega) ?_))
    refine cY (ro rfl (dV (Ht rfl) (cJ 1) z6) (rm rfl (eX (cH [0,1] rfl (by decide) (fU (i + 1) he zo (zS rfl) (aU (fun _ _ _ h=>h) (aU (bE (by rw [eH,qM,← oV (f:=(fun i=>tab z.length fun j=>gm (iP z) i j - gm (kC s (iP z)) i j))])) aY)))))))
  ·simp only [decide_eq_false_iff_not] at he
   obtain rfl:i = z.length:=Nat.le_antisymm hi zo
   refine gV rfl (ts (rm rfl (ra rfl (eX ?_))))
   exact jM B14 trivial [0,1] ⟨⟨_,rfl,fun _ _ _ h=>h⟩,⟨_,rfl,(bE (by rw [qM]; rfl))⟩,trivial⟩ (by decide) (vM rfl (eU rfl))
theorem a3o {z:List Qi} {s:List (List Qi)} {t:Qi} {L:Nat} (hz:bP z L) (hs:aS s L) (ht:aD t L) (hL1:1 ≤ L) (hL:L ≤ 10000000) (hsh:cM s z.length z.length) (hl1:1 ≤ z.length) (hl:z.length ≤ 8):bB Tryz.prog 57 [nF z s,aN t] (fH [iJ (dP (vO t) z) (dP (vO t) s) (dP (vO t) (Xj t (qP z s) z.length)),bD .i64 (vO t)]):=by
 haveI:=ht
 have hOs:=Wt z s
 have hOf:=Jc hz hs hL1 hl
 refine bB.intro Tryz.func57 rfl Tryz.ntmps57 rfl (fun cx=>(ts (rn rfl (fG (Ht rfl)) fun B2=>(rn rfl (fG (Ht rfl)) fun B3=>(rn rfl (eW (Ts:=[Is (.slice none 0 0),Is (.slice none 0 0),Is (.slice none 0 0)]) O_34 rfl (fun V=>aW zd (aW zd (aW zd (aG))))) fun B4=>(ro rfl (cQ (cJ 0)) (eX (cK (ts (ro rfl (eJ A_51 Z_51 (Ht rfl) (i:=1) rfl rfl rfl) (ro rfl (cZ Tryz.call159 (a2c zo) ⟨(Ht rfl),trivial⟩) (ro rfl (eT (Ht rfl)) ?_))))))))))))
 refine eX (dQ (Ht rfl) (fun hb=>?_) (fun hb=>?_))
 ·have he : vO t ≠ 0 := by simp only [Bool.not_eq_true'] at hb; rw [vO, hb]; decide
  have he1:vO t = 1:=by simp only [Bool.not_eq_true'] at hb; rw [vO,hb]; rfl
  refine ts (ro rfl (aL.imp (Ey ) xV) (gQ Z_34 (Ht rfl) (Ht rfl) rfl (i:=2) rfl (aK rfl) rfl rfl (ro rfl (cQ (cJ 1)) (eX (bM rfl (fX (fK A_34 Z_34 rfl (i:=2) rfl rfl) ?_) (fX (eU rfl) ?_))))))
  ·exact (a0L he)
  ·exact (aR he1.symm)
 ·have he : vO t = 0 := by simp only [Bool.not_eq_false'] at hb; rw [vO, hb]; rfl
  refine cU (ts (ro rfl (eJ A_32 Z_32 (Ht rfl) (i:=0) rfl rfl rfl) (jF Tryz.call160 (Ui hz hs hL1 hL hsh hl1 hl) ⟨(Ht rfl),trivial⟩ rfl (fun B15 _=>(ra rfl (eX (cK (ts (rm rfl (ro rfl (hJ U_30 (Ht rfl)) (ro rfl (cX (cJ 0)) (eX (eG ?_)))))))))))))
  refine bS (fun (i : Nat) => i ≤ z.length) (fun (i : Nat) => z.length - i) (fun (i : Nat) => [(2, dA B2 0), (3, dA B3 0), (4, dA B4 0), (6, Is (.slice (some ⟨B15, 0, none⟩) z.length z.length)), (16, Is (.slice (some ⟨B15, 0, none⟩) z.length z.length)), (17, NT .i64 z.length), (18, NT .i64 i)]) (fun (i : Nat) => [box B2 32 [bN z, cE s], box B3 51 [aC (decide (t.a < 0)), aE t.a.natAbs, aC (decide (t.b < 0)), aE t.b.natAbs, aE (du t)], box B4 34 [Is (.slice none 0 0), Is (.slice none 0 0), Is (.slice none 0 0)], jQ dT B15 29 51 5 (bL aN (qL (fun i => tab z.length fun j => t * gm (qP z s) i j) (fun i => tab z.length fun j => gm (qP z s) i j) z.length i))]) 0 (Nat.zero_le _)
   (zS rfl) (aU (fun _ _ _ h=>h) (aU (fun _ _ _ h=>h) (aU (fun _ _ _ h=>h) (aU (bE (by rw [← oD]; exact congrArg _ (rG hOs))) aY)))) (fun i hi=>?_)
  refine ts (ro rfl (gX (Ht rfl) (Ht rfl)) (eX (cK (dQ (Ht rfl) (fun he2=>?_) (fun he2=>?_)))))
  ·simp only [decide_eq_true_eq] at he2
   refine jK 3 (i) rfl (xQ he2) (fun v hv=>(cU (cK (eG (ts (ro rfl (fY U_30 Z_29 (Ht rfl) (Ht rfl) rfl zo (by rw [Nat.mul_one,Nat.zero_add])) ?_))))))
   refine ro rfl (gS A_29 Z_29 (Ht rfl) (j:=3) rfl) (ra rfl (eX (ts (rm rfl (ro rfl (rL U_29 (Ht rfl) (i:=4) rfl (show (((tab z.length fun j=>gm (qP z s) i j).map aN).length:Int) = ((z.length:Nat):Int) by rw [List.length_map,bI])) (ro rfl (cX (cJ 0)) (eX (eG ?_))))))))
   refine bS (fun (j : Nat) => j ≤ z.length) (fun (j : Nat) => z.length - j) (fun (j : Nat) => [(2, dA B2 0), (3, dA B3 0), (4, dA B4 0), (6, Is (.slice (some ⟨B15, 0, none⟩) z.length z.length)), (8, Is v), (16, Is (.slice (some ⟨B15, 0, none⟩) z.length z.length)), (17, NT .i64 z.length), (18, NT .i64 i), (23, NT .i64 z.length), (24, NT .i64 j)]) (fun (j : Nat) => [box B2 32 [bN z, cE s], box B3 51 [aC (decide (t.a < 0)), aE t.a.natAbs, aC (decide (t.b < 0)), aE t.b.natAbs, aE (du t)], box B4 34 [Is (.slice none 0 0), Is (.slice none 0 0), Is (.slice none 0 0)], qK dT B15 29 51 5 (bL aN (qL (fun i => tab z.length fun j => t * gm (qP z s) i j) (fun i => tab z.length fun j => gm (qP z s) i j) z.length i)) i v, cD 51 5 v ((qL (fun j => t * gm (qP z s) i j) (fun j => gm (qP z s) i j) z.length j).map aN)]) 0 (Nat.zero_le _)
    (zS rfl) (aU (fun _ _ _ h=>h) (aU (fun _ _ _ h=>h) (aU (fun _ _ _ h=>h) (aU (fun _ _ _ h=>h) (aU (cA (by rw [← oD])) aY))))) (fun j hj=>?_)
   refine ts (ro rfl (gX (Ht rfl) (Ht rfl)) (eX (cK (dQ (Ht rfl) (fun hf=>?_) (fun hf=>?_)))))
   ·simp only [decide_eq_true_eq] at hf
    have hrl:=mI (fun j=>t * gm (qP z s) i j) (fun j=>gm (qP z s) i j) z.length j
    haveI f1:aD (gm (qP z s) i j) (201 * L + 301):=hOf.get zo i j
    refine cU (cK (eG (ts (rm rfl (ra rfl (eX (fZ (m:=10) (dp 8 rfl (cX (Ht rfl)) (dp 9 rfl (cX (Ht rfl)) (dp 3 rfl (eJ A_51 Z_51 (Ht rfl) (i:=1) rfl rfl rfl) (dq 29 2 rfl (cZ K_98 Ky ⟨(Ht rfl),trivial⟩) (dq 30 3 rfl (cC dE (Ht rfl)) (dp 8 rfl (cX (Ht rfl)) (dp 9 rfl (cX (Ht rfl)) (cP 32 5 33 6 rfl (dB U_29 Z_51 (Ht rfl) (Ht rfl) rfl (i:=4) rfl (by simp only [List.length_map,hrl]; omega) rfl) ?_)))))))))))))))
    refine dq 34 7 rfl (oX A_51 Z_51 (Ht rfl) (i:=4) rfl rfl (dY (wO hf))) (cP 31 4 35 8 rfl (bO fS K_45 (nH zo) (Ht rfl) ⟨(Ht rfl),trivial⟩) (fV aO rfl (by kernel_rfl) (zF (zF (aJ (aJ (aV (ro rfl (dB U_29 Z_51 (Ht rfl) (Ht rfl) rfl (i:=4) rfl (by simp only [List.length_map,hrl]; omega) rfl) ?_))))))))
    refine kM Z_51 (Ht rfl) (Ht rfl) (El.ag rfl) (i:=4) rfl rfl (by simp only [List.length_map,hrl]; omega) rfl ?_
    refine eX (bA (cY (ro rfl (dV (Ht rfl) (cJ 1) z6) (rm rfl (eX (fU (j + 1) hf zo (zS rfl) (aU (fun _ _ _ h=>h) (aU (fun _ _ _ h=>h) (aU (fun _ _ _ h=>h) (aU (fun _ _ _ h=>h) (aU (cA (by rw [fI,← oV (f:=fun j=>t * gm (qP z s) i j)])) aY)))))))))))
   ·simp only [decide_eq_false_iff_not] at hf
    obtain rfl:j = z.length:=Nat.le_antisymm hj zo
    refine gV rfl (bA (dS 3 4 rfl rfl (by decide) (by simp only [bL,List.length_map,mI]; omega) ?_))
    refine cY (ro rfl (dV (Ht rfl) (cJ 1) z6) (rm rfl (eX (cH [0,1,2,3] rfl (by decide) (fU (i + 1) he2 zo (zS rfl) (aU (fun _ _ _ h=>h) (aU (fun _ _ _ h=>h) (aU (fun _ _ _ h=>h) (aU (bE (by rw [eH,qM,← oV (f:=(fun i=>tab z.length fun j=>t * gm (qP z s) i j))])) aY)))))))))
  ·simp only [decide_eq_false_iff_not] at he2
   obtain rfl:i = z.length:=Nat.le_antisymm hi zo
   rw [qM]
   refine gV rfl (cK (gJ (i:=3) (tt:=6) rfl rfl (gK (s:=5) (M:=(Xj t (qP z s) z.length)) Jr.1.symm) (cY (ro rfl (eJ A_32 Z_32 (Ht rfl) (i:=0) rfl rfl rfl) (rm rfl (ro rfl (Ai (Ht rfl) (Ht rfl)) (gQ Z_34 (Ht rfl) (Ht rfl) rfl (i:=2) rfl (aK rfl) rfl rfl (ro rfl (cQ (cJ 0)) (eX (bM rfl (fX (fK A_34 Z_34 rfl (i:=2) rfl rfl) ?_) (fX (eU rfl) ?_)))))))))))
   ·exact (Wu he)
   ·exact (aR he.symm)
end
section
open Go Go.RowKit
theorem Gs {n : Nat} {E : dC} {H : Hp} {d : Option Tmp} {t : TypeId} {pos : String} {af : Array Edge} {g : Option (Nat × Bool)}  :
  aL Tryz.prog n E H ⟨d,.build 102 #[],t,pos,af,g⟩ (fB [Is (.int .i64 0),Is (.int .i64 0),Is (.int .i64 0)]) :=
 fT (parts := []) fun a V w hs => by
  refine ⟨.agg #[(.int .i64 0),(.int .i64 0),(.int .i64 0)],?_,[(.int .i64 0),(.int .i64 0),(.int .i64 0)],rfl,aW (⟨rfl,trivial⟩) (aW (⟨rfl,trivial⟩) (aW (⟨rfl,trivial⟩) (aG)))⟩
  simp [Instr.build,Instr.fill,Sem.run_bind,Result.andThen,eN,O_102,U_102,Z_2]
theorem Dd {n : Nat} {E : dC} {H : Hp} {d : Option Tmp} {t : TypeId} {pos : String} {af : Array Edge} {g : Option (Nat × Bool)} {x0 : Operand} {T0 : Ty} [s0 : dO T0 1 false] (h0 : bF E x0 T0) :
  aL Tryz.prog n E H ⟨d,.build 102 #[(0,x0)],t,pos,af,g⟩ (fB [T0,Is (.int .i64 0),Is (.int .i64 0)]) :=
 fT (parts := [(0, x0)]) fun a V w hs => by
  have p0:=h0 n V a hs
  generalize e0:a.eval x0 = v0 at p0
  have q0:=(s0.ok v0 V p0).2.2 rfl
  refine ⟨.agg #[v0,(.int .i64 0),(.int .i64 0)],?_,[v0,(.int .i64 0),(.int .i64 0)],rfl,aW (⟨p0,q0⟩) (aW (⟨rfl,trivial⟩) (aW (⟨rfl,trivial⟩) (aG)))⟩
  simp [e0,Instr.build,Instr.fill,Sem.run_bind,Result.andThen,eN,q0.cells,O_102,U_102,Z_2]
theorem Gt {n : Nat} {E : dC} {H : Hp} {d : Option Tmp} {t : TypeId} {pos : String} {af : Array Edge} {g : Option (Nat × Bool)} {x0 x2 : Operand} {T0 T2 : Ty} [s0 : dO T0 1 false] (h0 : bF E x0 T0) [s2 : dO T2 1 false] (h2 : bF E x2 T2) :
  aL Tryz.prog n E H ⟨d,.build 102 #[(0,x0),(2,x2)],t,pos,af,g⟩ (fB [T0,Is (.int .i64 0),T2]) :=
 fT (parts := [(0, x0), (2, x2)]) fun a V w hs => by
  have p0:=h0 n V a hs
  generalize e0:a.eval x0 = v0 at p0
  have q0:=(s0.ok v0 V p0).2.2 rfl
  have p2:=h2 n V a hs
  generalize e2:a.eval x2 = v2 at p2
  have q2:=(s2.ok v2 V p2).2.2 rfl
  refine ⟨.agg #[v0,(.int .i64 0),v2],?_,[v0,(.int .i64 0),v2],rfl,aW (⟨p0,q0⟩) (aW (⟨rfl,trivial⟩) (aW (⟨p2,q2⟩) (aG)))⟩
  simp [e0,e2,Instr.build,Instr.fill,Sem.run_bind,Result.andThen,eN,q0.cells,q2.cells,O_102,U_102,Z_2]
end
section
open Go Go.RowKit
theorem Fe  : bB Tryz.prog 16 [] (aC true):=by
 refine bB.intro Tryz.func16 rfl Tryz.ntmps16 rfl (fun cx=>(ts (ro rfl (cQ cV) (eX (ts (ro rfl (Gt cV cV) (rn rfl (eW (Ts:=[Is (.int .i64 0),Is (.int .i64 0),Is (.int .i64 0)]) O_102 rfl (fun V=>aW zd (aW zd (aW zd (aG))))) fun B1=>(gQ Z_102 (Ht rfl) (Ht rfl) rfl (i:=0) rfl (aK rfl) rfl rfl (eX (cK (Y.D_start (m:=18) [] (bY (Ei:=[]) rfl rfl bX rfl rfl (dX rfl (Dd cV)) (bY (Ei:=[]) rfl rfl bX rfl rfl (dX rfl (Dd cV)) ?_)))))))))))))
 refine bY (Ei:=[(12,_),(13,_)]) rfl rfl (bQ (bZ 0 rfl rfl) (bQ (bZ 1 rfl rfl) bX)) rfl rfl (dX rfl (dN (xs:=[.tmp 12,.tmp 13]) U_22 Z_102 O_102 (cW (Ht rfl) (cW (Ht rfl) cG)) rfl rfl rfl)) (bY (Ei:=[(14,_)]) rfl rfl (bQ (bZ 2 rfl rfl) bX) rfl rfl (dX rfl (cZ Tryz.call48 (qB (l:=[r50,r50]) (by decide)) ⟨(Ht rfl),trivial⟩)) (bY (Ei:=[]) rfl rfl bX rfl rfl (dX rfl (Gs )) (bY (Ei:=[(1,_)]) rfl rfl (bQ (bJ rfl rfl) bX) rfl rfl (dX rfl (eJ A_102 Z_102 (Ht rfl) (i:=0) rfl rfl rfl)) ?_)))
 refine bY (Ei:=[(16,_),(17,_)]) rfl rfl (bQ (bZ 4 rfl rfl) (bQ (bZ 5 rfl rfl) bX)) rfl rfl (dX rfl (dN (xs:=[.tmp 16,.tmp 17]) U_22 Z_102 O_102 (cW (Ht rfl) (cW (Ht rfl) cG)) rfl rfl rfl)) (bY (Ei:=[(1,_)]) rfl rfl (bQ (bJ rfl rfl) bX) rfl rfl (dX rfl (eJ A_102 Z_102 (Ht rfl) (i:=0) rfl rfl rfl)) (bY (Ei:=[]) rfl rfl bX rfl rfl (dX rfl (Gs )) (bY (Ei:=[(19,_),(20,_)]) rfl rfl (bQ (bZ 7 rfl rfl) (bQ (bZ 8 rfl rfl) bX)) rfl rfl (dX rfl (dN (xs:=[.tmp 19,.tmp 20]) U_22 Z_102 O_102 (cW (Ht rfl) (cW (Ht rfl) cG)) rfl rfl rfl)) ?_)))
 refine bY (Ei:=[(18,_),(21,_)]) rfl rfl (bQ (bZ 6 rfl rfl) (bQ (bZ 9 rfl rfl) bX)) rfl rfl (dX rfl (dN (xs:=[.tmp 18,.tmp 21]) U_23 Z_22 Tryz.zeroValue22 (cW (Ht rfl) (cW (Ht rfl) cG)) rfl rfl rfl)) (bY (Ei:=[(22,_)]) rfl rfl (bQ (bZ 10 rfl rfl) bX) rfl rfl (dX rfl (cZ Tryz.call86 (xH (m:=[[a0N,Pa],[Pa,a0N]]) (by decide) (by intro r hr; simp at hr; rcases hr with rfl | rfl <;> decide)) ⟨(Ht rfl),trivial⟩)) ?_)
 refine bY (Ei:=[(15,_),(23,_)]) rfl rfl (bQ (bZ 3 rfl rfl) (bQ (bZ 11 rfl rfl) bX)) rfl rfl (dX rfl (cZ Tryz.call85 (eQ (Ha (z:=xF) (s:=Ck) (L:=2) Mu (by decide) (by decide) (by decide)) a1T) ⟨(Ht rfl),(Ht rfl),trivial⟩)) (bY (Ei:=[(24,_)]) rfl rfl (bQ (bZ 12 rfl rfl) bX) rfl rfl (dX rfl (cX (Ht rfl))) (bY (Ei:=[(11,_)]) rfl rfl (bQ (bZ 13 rfl rfl) bX) rfl rfl (dX rfl (dK (Ht rfl) rfl)) (bY (Ei:=[(11,_)]) rfl rfl (bQ (bZ 13 rfl rfl) bX) rfl rfl (dX rfl (dK (Ht rfl) rfl)) ?_)))
 refine Y.D_newp (Ei:=[]) (fun bb=>box bb 32 [bN xF,cE Ck]) 17 rfl rfl rfl bX rfl rfl (by kernel_rfl) (eW (Ts:=[Is (.slice none 0 0),Is (.slice none 0 0)]) O_32 rfl (fun V=>aW zd (aW zd (aG)))) (Y.D_putN (Ei:=[(25,_)]) 16 rfl rfl rfl rfl rfl rfl (bQ (bZ 14 rfl rfl) bX) (fun bb=>mE Z_32 (Ht rfl) (Ht rfl) rfl (i:=0) rfl (aK rfl) rfl rfl) (Y.D_done aO rfl (by kernel_rfl) rfl (by simp [Y.okP]) rfl rfl (bU (bU (bU (bU (bU (bU (bU (bU (bU (bU (bU (bU (bU (bU (bU (bU (Y.F_newp (fun B2=>Y.F_putN (Y.F_nil ?_)))))))))))))))))))))
 refine ra rfl (eX (cK (Y.D_start (m:=8) [] (bY (Ei:=[(2,_)]) rfl rfl (bQ (bJ rfl rfl) bX) rfl rfl (dX rfl (eJ A_32 Z_32 (Ht rfl) (i:=1) rfl rfl rfl)) (bY (Ei:=[]) rfl rfl bX rfl rfl (dX rfl (cZ K_77 (qA (n:=290) (by decide) (by decide)) ⟨(cJ 290),trivial⟩)) (bY (Ei:=[(28,_),(29,_)]) rfl rfl (bQ (bZ 0 rfl rfl) (bQ (bZ 1 rfl rfl) bX)) rfl rfl (dX rfl (cZ Tryz.call57 (eQ (a3o (z:=xF) (s:=Ck) (t:=Qi.ofInt 290) (L:=2) Mu Sz Ta (by decide) (by decide) Tb (by decide) (by decide)) a1U) ⟨(Ht rfl),(Ht rfl),trivial⟩)) ?_))))))
 refine bY (Ei:=[(30,_)]) rfl rfl (bQ (bZ 2 rfl rfl) bX) rfl rfl (dX rfl (cX (Ht rfl))) (bY (Ei:=[(27,_)]) rfl rfl (bQ (bZ 3 rfl rfl) bX) rfl rfl (dX rfl (dK (Ht rfl) rfl)) (bY (Ei:=[(27,_)]) rfl rfl (bQ (bZ 3 rfl rfl) bX) rfl rfl (dX rfl (dK (Ht rfl) rfl)) (Y.D_newp (Ei:=[]) (fun bb=>box bb 34 [bN xF,cE Ck,cE Dc]) 7 rfl rfl rfl bX rfl rfl (by kernel_rfl) (eW (Ts:=[Is (.slice none 0 0),Is (.slice none 0 0),Is (.slice none 0 0)]) O_34 rfl (fun V=>aW zd (aW zd (aW zd (aG))))) ?_)))
 refine Y.D_putN (Ei:=[(31,_)]) 6 rfl rfl rfl rfl rfl rfl (bQ (bZ 4 rfl rfl) bX) (fun bb=>mE Z_34 (Ht rfl) (Ht rfl) rfl (i:=0) rfl (aK rfl) rfl rfl) (Y.D_done aO rfl (by kernel_rfl) rfl (by simp [Y.okP]) rfl rfl (bU (bU (bU (bU (bU (bU (Y.F_newp (fun B4=>Y.F_putN (Y.F_nil ?_))))))))))
 refine ra rfl (eX (ts (ro rfl (eJ A_34 Z_34 (Ht rfl) (i:=2) rfl rfl rfl) (ro rfl (cZ Tryz.call87 (eQ (Nd (z:=xF) (s:=Ck) (c:=Dc) (i:=((2:Nat):Int)) (j:=((2:Nat):Int)) a1R (by rw [Mt.1]; decide)) a3e) ⟨(Ht rfl),(cJ 2),(cJ 2),trivial⟩) ?_))))
 refine rm rfl (ro rfl (dK (Ht rfl) rfl) (ro rfl (dK (Ht rfl) rfl) (rn rfl (eW (Ts:=[Is (.bool false),Is (.slice none 0 0),Is (.bool false),Is (.slice none 0 0),Is (.slice none 0 0)]) O_51 rfl (fun V=>aW zd (aW zd (aW zd (aW zd (aW zd (aG))))))) fun B6=>(gQ Z_51 (Ht rfl) (Ht rfl) rfl (i:=3) rfl (aK rfl) rfl rfl (ra rfl (eX (cK (Y.D_start (m:=9) [] (bY (Ei:=[(4,_)]) rfl rfl (bQ (bJ rfl rfl) bX) rfl rfl (dX rfl (eJ A_34 Z_34 (Ht rfl) (i:=2) rfl rfl rfl)) ?_)))))))))
 refine bY (Ei:=[]) rfl rfl bX rfl rfl (dX rfl (cZ K_77 (qA (n:=0) (by decide) (by decide)) ⟨(cJ 0),trivial⟩)) (bY (Ei:=[]) rfl rfl bX rfl rfl (dX rfl (cZ K_77 (qA (n:=290) (by decide) (by decide)) ⟨(cJ 290),trivial⟩)) (bY (Ei:=[(39,_),(40,_),(41,_)]) rfl rfl (bQ (bZ 0 rfl rfl) (bQ (bZ 1 rfl rfl) (bQ (bZ 2 rfl rfl) bX))) rfl rfl (dX rfl (cZ Tryz.call88 (eQ (Ti (z:=xF) (s:=Ck) (c:=Dc) (g:=Qi.ofInt 0) (t0:=Qi.ofInt 290) (L:=1000) (Mu.le (by decide)) (Sz.le (by decide)) a3g (a3f.le (by decide)) (Ta.le (by decide)) (by decide) (by decide) Tb Mt (by decide)) a1S) ⟨(Ht rfl),(Ht rfl),(Ht rfl),trivial⟩)) ?_))
 refine bY (Ei:=[(42,_)]) rfl rfl (bQ (bZ 3 rfl rfl) bX) rfl rfl (dX rfl (cX (Ht rfl))) (bY (Ei:=[(38,_)]) rfl rfl (bQ (bZ 4 rfl rfl) bX) rfl rfl (dX rfl (dK (Ht rfl) rfl)) (bY (Ei:=[(38,_)]) rfl rfl (bQ (bZ 4 rfl rfl) bX) rfl rfl (dX rfl (dK (Ht rfl) rfl)) (Y.D_newp (Ei:=[]) (fun bb=>box bb 51 [aC (decide ((Qi.ofInt 4).a < 0)),aE (Qi.ofInt 4).a.natAbs,aC (decide ((Qi.ofInt 4).b < 0)),aE (Qi.ofInt 4).b.natAbs,aE (du (Qi.ofInt 4))]) 8 rfl rfl rfl bX rfl rfl (by kernel_rfl) (eW (Ts:=[Is (.bool false),Is (.slice none 0 0),Is (.bool false),Is (.slice none 0 0),Is (.slice none 0 0)]) O_51 rfl (fun V=>aW zd (aW zd (aW zd (aW zd (aW zd (aG))))))) ?_)))
 refine Y.D_putN (Ei:=[(43,_)]) 7 rfl rfl rfl rfl rfl rfl (bQ (bZ 5 rfl rfl) bX) (fun bb=>mE Z_51 (Ht rfl) (Ht rfl) rfl (i:=0) rfl (aK rfl) rfl rfl) (Y.D_done aO rfl (by kernel_rfl) rfl (by simp [Y.okP]) rfl rfl (bU (bU (bU (bU (bU (bU (bU (Y.F_newp (fun B8=>Y.F_putN (Y.F_nil ?_)))))))))))
 refine ra rfl (eX (ts (rm rfl (ro rfl (lH (Ht rfl) cV) (rm rfl (fQ rfl rfl (eK rfl rfl (Ht rfl) (fun h=>cX (Ht rfl))) (fQ rfl rfl (eK rfl rfl (Ht rfl) (fun h=>lH (fJ rfl h) cV)) (ro rfl (fE (Ht rfl) (fun h=>(fJ rfl h))) (rm rfl (fQ rfl rfl (eK rfl rfl (Ht rfl) (fun h=>cX (Ht rfl))) (fQ rfl rfl (eK rfl rfl (Ht rfl) (fun h=>lH (fJ rfl h) cV)) (ro rfl (fE (Ht rfl) (fun h=>(fJ rfl h))) (rm rfl (fQ rfl rfl (eK rfl rfl (Ht rfl) (fun h=>cX (Ht rfl))) (fQ rfl rfl (eK rfl rfl (Ht rfl) (fun h=>lH (fJ rfl h) cV)) ?_)))))))))))))))
 refine ro rfl (fE (Ht rfl) (fun h=>(fJ rfl h))) (rm rfl (fQ rfl rfl (eK rfl rfl (Ht rfl) (fun h=>eJ A_51 Z_51 (Ht rfl) (i:=3) rfl rfl rfl)) (fQ rfl rfl (eK rfl rfl (Ht rfl) (fun h=>cZ Tryz.call89 (Kt (x:=Qi.ofInt 10875) (L:=2) (hx:=(@fitInt 10875).le (by decide)) (by decide)) ⟨(fJ rfl h),trivial⟩)) (fQ rfl rfl (eK rfl rfl (Ht rfl) (fun h=>Lr (fJ rfl h) (bF.cS (l:=[49,48,56,55,53]) rfl))) (ro rfl (fE (Ht rfl) (fun h=>(fJ rfl h))) (rm rfl (fQ rfl rfl (eK rfl rfl (Ht rfl) (fun h=>eJ A_51 Z_51 (Ht rfl) (i:=4) rfl rfl rfl)) ?_)))))))
 refine fQ rfl rfl (eK rfl rfl (Ht rfl) (fun h=>cZ Tryz.call89 (Kt (x:=Qi.ofInt 4) (L:=2) (hx:=(@fitInt 4).le (by decide)) (by decide)) ⟨(fJ rfl h),trivial⟩)) (fQ rfl rfl (eK rfl rfl (Ht rfl) (fun h=>Lr (fJ rfl h) (bF.cS (l:=[52]) rfl))) (ro rfl (fE (Ht rfl) (fun h=>(fJ rfl h))) (ra rfl (eX (fW rfl (fX (eU rfl) ?_))))))
 exact (dM (by rw [a3h,a3i]; rfl))
end
section
open Go Go.RowKit
theorem uA (a:Addr) (w:World):(Instr.fieldAt 40 (.pointer (some a)) 0).run Tryz.prog w = .ok (.pointer (some (a.add 0))) w:=by
 simp [Instr.fieldAt,Instr.sureAddr,fieldPlace,Sem.run_bind,Result.andThen,U_40,Z_38]
theorem wH (a:Addr) (w:World):(Instr.fieldAt 40 (.pointer (some a)) 1).run Tryz.prog w = .ok (.pointer (some (a.add 2))) w:=by
 simp [Instr.fieldAt,Instr.sureAddr,fieldPlace,Sem.run_bind,Result.andThen,U_40,Z_36]
end
section
open Go Go.RowKit
theorem a2s {z:List Qi} {i:Nat} (h:i < z.length):∀ v V,(fH [aN (Sd z ((i + 1:Nat):Int)),bD .i64 (if 1 ≤ ((i + 1:Nat):Int) ∧ ((i + 1:Nat):Int) ≤ z.length then 0 else 1)]).p v V → (fH [aN (gv z i),bD .i64 0]).p v V:=by
 rw [show Sd z ((i + 1:Nat):Int) = gv z i from Lu h,if_pos zo]; exact fun _ _ h=>h
theorem a1v {n:Nat} {s:List (List Qi)} {i j:Nat} (h:i < n) (k:j < n):∀ v V,(fH [aN (Rc n s ((i + 1:Nat):Int) ((j + 1:Nat):Int)),bD .i64 (if (1 ≤ ((i + 1:Nat):Int) ∧ ((i + 1:Nat):Int) ≤ n) ∧ 1 ≤ ((j + 1:Nat):Int) ∧ ((j + 1:Nat):Int) ≤ n then 0 else 1)]).p v V → (fH [aN (gm s i j),bD .i64 0]).p v V:=by
 rw [show Rc n s ((i + 1:Nat):Int) ((j + 1:Nat):Int) = gm s i j from Ww h k,if_pos zo]; exact fun _ _ h=>h
theorem a3r {z:List Qi} {s c:List (List Qi)} {L:Nat} (hz:bP z L) (hs:aS s L) (hc:aS c L) (hL1:1 ≤ L) (hL:L ≤ 8796093022208) (hsh:cM s z.length z.length) (hch:cM c z.length z.length) (hl:z.length ≤ 1000):bB Tryz.prog 20 [iJ z s c,mZ z s c] (aC true):=by
 have hcl:=hch.1
 have hch2:cM c c.length c.length:=by rw [hcl]; exact hch
 refine bB.intro Tryz.func20 rfl Tryz.ntmps20 rfl (fun cx=>(ts (rn rfl (fG (Ht rfl)) fun B2=>(rn rfl (fG (Ht rfl)) fun B3=>(ro rfl (cQ cV) (eX (ts (ro rfl (eJ A_34 Z_34 (Ht rfl) (i:=0) rfl rfl rfl) (ro rfl (cZ Tryz.call51 Hb ⟨(Ht rfl),trivial⟩) (rn rfl (eW (Ts:=[Is (.slice none 0 0),Is (.slice none 0 0)]) O_32 rfl (fun V=>aW zd (aW zd (aG)))) fun B5=>(gQ Z_32 (Ht rfl) (Ht rfl) rfl (i:=2) rfl (aK rfl) rfl rfl (eX ?_))))))))))))
 refine cK (cK (fZ (m:=15) (dp 5 rfl (eJ A_32 Z_32 (Ht rfl) (i:=2) rfl rfl rfl) (dq 16 0 rfl (cZ K_22 qY ⟨(Ht rfl),trivial⟩) (dp 3 rfl (eZ uA (Ht rfl) rfl) (dq 18 2 rfl (eZ pK (Ht rfl) rfl) (dq 19 3 rfl (eY A_35 Z_35 (Ht rfl) (i:=1) rfl rfl) (dq 20 4 rfl (dG U_35 (Ht rfl) aA) (cP 17 1 21 5 rfl (eO (Ht rfl) (Ht rfl)) (dq 22 6 rfl (cX (Ht rfl)) (C.D_step (Ei:=[(3,_),(23,_)]) rfl rfl (bV (bK rfl rfl) (bV (bG 7 rfl rfl) bW)) (eK rfl rfl (Ht rfl) (fun h=>eZ wH (Ht rfl) rfl)) ?_)))))))))))
 refine C.D_step (Ei:=[(24,_),(23,_)]) rfl rfl (bV (bG 8 rfl rfl) (bV (bG 7 rfl rfl) bW)) (eK rfl rfl (Ht rfl) (fun h=>eY A_36 Z_36 (fJ rfl h) (i:=1) rfl rfl)) (C.D_step (Ei:=[(25,_),(23,_)]) rfl rfl (bV (bG 9 rfl rfl) (bV (bG 7 rfl rfl) bW)) (eK rfl rfl (Ht rfl) (fun h=>dG U_36 (fJ rfl h) aA)) (C.D_step (Ei:=[(3,_),(23,_)]) rfl rfl (bV (bK rfl rfl) (bV (bG 7 rfl rfl) bW)) (eK rfl rfl (Ht rfl) (fun h=>eZ uA (Ht rfl) rfl)) ?_))
 refine C.D_step (Ei:=[(27,_),(23,_)]) rfl rfl (bV (bG 11 rfl rfl) (bV (bG 7 rfl rfl) bW)) (eK rfl rfl (Ht rfl) (fun h=>eZ pK (fJ rfl h) rfl)) (C.D_step (Ei:=[(28,_),(23,_)]) rfl rfl (bV (bG 12 rfl rfl) (bV (bG 7 rfl rfl) bW)) (eK rfl rfl (Ht rfl) (fun h=>eY A_35 Z_35 (fJ rfl h) (i:=1) rfl rfl)) (C.D_step (Ei:=[(29,_),(23,_)]) rfl rfl (bV (bG 13 rfl rfl) (bV (bG 7 rfl rfl) bW)) (eK rfl rfl (Ht rfl) (fun h=>dG U_35 (fJ rfl h) aA)) ?_))
 refine fV aO rfl (by kernel_rfl) (zF (zF (zF (aJ (aJ (aJ (aV (fQ rfl rfl (eK rfl rfl (Ht rfl) (fun h=>eO (fJ rfl h) (fJ rfl h))) (ro rfl (gT (Ht rfl) (fun h=>(fJ rfl h))) (eX (iR (Ht rfl) (by simp [hcl]) ?_)))))))))))
 refine cU (cK (ts (ro rfl (eZ wH (Ht rfl) rfl) (ro rfl (eY A_36 Z_36 (Ht rfl) (i:=1) rfl rfl) (ro rfl (dG U_36 (Ht rfl) aA) (ro rfl (cX (cJ 0)) (eX (eG ?_))))))))
 refine bS (fun (i : Nat) => i ≤ z.length) (fun (i : Nat) => z.length - i) (fun (i : Nat) => [(2, dA B2 0), (3, dA B3 0), (5, dA B5 0), (35, NT .i64 z.length), (36, NT .i64 i)]) (fun (i : Nat) => [box B2 34 [bN z, cE s, cE c], box B3 40 [qU z, QM s, QM c], box B5 32 [bN z, cE s]]) 0 (Nat.zero_le _)
  (aQ rfl (aQ rfl (aQ rfl (aZ rfl (kI hcl) (zS rfl))))) (cT.refl _) (fun i hi=>?_)
 refine ts (ro rfl (gX (Ht rfl) (Ht rfl)) (eX (cK (dQ (Ht rfl) (fun hd=>?_) (fun hd=>?_)))))
 ·simp only [decide_eq_true_eq] at hd
  haveI f1:aD (gv z i) L:=hz.get hL1 i
  refine cU (cK (eG (ts (rm rfl (ra rfl (eX (ts (ro rfl (eJ A_32 Z_32 (Ht rfl) (i:=2) rfl rfl rfl) (rm rfl (ro rfl (dV (Ht rfl) (cJ 1) z6) (ro rfl (cZ Tryz.call23 (eQ (Tj (z:=z) (s:=s) (i:=((i + 1:Nat):Int)) zo) (a2s hd)) ⟨(Ht rfl),(Ht rfl),trivial⟩) (rm rfl (ro rfl (dK (Ht rfl) rfl) (ro rfl (dK (Ht rfl) rfl) (rn rfl (eW (Ts:=[Is (.bool false),Is (.slice none 0 0),Is (.bool false),Is (.slice none 0 0),Is (.slice none 0 0)]) O_51 rfl (fun V=>aW zd (aW zd (aW zd (aW zd (aW zd (aG))))))) fun B7=>?_)))))))))))))))
  refine gQ Z_51 (Ht rfl) (Ht rfl) rfl (i:=3) rfl (aK rfl) rfl rfl (ra rfl (eX (cK (cK (fZ (m:=10) (dp 8 rfl (cX (Ht rfl)) (dq 46 0 rfl (kE (Ht rfl) cV) (dq 47 1 rfl (cX (Ht rfl)) (C.D_step (Ei:=[(7,_),(48,_)]) rfl rfl (bV (bK rfl rfl) (bV (bG 2 rfl rfl) bW)) (eK rfl rfl (Ht rfl) (fun h=>eJ A_51 Z_51 (Ht rfl) (i:=3) rfl rfl rfl)) (C.D_step (Ei:=[(3,_),(48,_)]) rfl rfl (bV (bK rfl rfl) (bV (bG 2 rfl rfl) bW)) (eK rfl rfl (Ht rfl) (fun h=>eZ uA (Ht rfl) rfl)) ?_))))))))))
  refine C.D_step (Ei:=[(50,_),(48,_)]) rfl rfl (bV (bG 4 rfl rfl) (bV (bG 2 rfl rfl) bW)) (eK rfl rfl (Ht rfl) (fun h=>eZ pK (fJ rfl h) rfl)) (C.D_step (Ei:=[(51,_),(48,_)]) rfl rfl (bV (bG 5 rfl rfl) (bV (bG 2 rfl rfl) bW)) (eK rfl rfl (Ht rfl) (fun h=>eY A_35 Z_35 (fJ rfl h) (i:=1) rfl rfl)) (C.D_step (Ei:=[(6,_),(48,_)]) rfl rfl (bV (bK rfl rfl) (bV (bG 2 rfl rfl) bW)) (eK rfl rfl (Ht rfl) (fun h=>cX (Ht rfl))) ?_))
  refine C.D_step (Ei:=[(52,_),(53,_),(48,_)]) rfl rfl (bV (bG 6 rfl rfl) (bV (bG 7 rfl rfl) (bV (bG 2 rfl rfl) bW))) (eK rfl rfl (Ht rfl) (fun h=>dZ U_35 Z_131 (fJ rfl h) (fJ rfl h) rfl (dY (dU (d:=Qi.zero) (by first | omega | (simp at h; omega)))))) (C.D_step (Ei:=[(54,_),(48,_)]) rfl rfl (bV (bG 8 rfl rfl) (bV (bG 2 rfl rfl) bW)) (eK rfl rfl (Ht rfl) (fun h=>dJ A_131 Z_131 (fJ rfl h))) (fV aO rfl (by kernel_rfl) (zF (zF (aJ (aJ (aV ?_)))))))
  refine fQ rfl rfl (eK rfl rfl (Ht rfl) (fun h=>cZ Tryz.call80 (Ff (x:=gv z i) (y:=gv z i) (L:=L) (M:=L) hL hL) ⟨(fJ rfl h),(fJ rfl h),trivial⟩)) (fQ rfl rfl (eK rfl rfl (Ht rfl) (fun h=>eT (fJ rfl h))) (ro rfl (gT (Ht rfl) (fun h=>(fJ rfl h))) (eX (iR (Ht rfl) (by simp) ?_))))
  refine cU (ts (ro rfl (eZ wH (Ht rfl) rfl) (ro rfl (eY A_36 Z_36 (Ht rfl) (i:=1) rfl rfl) (ro rfl (dG U_36 (Ht rfl) aA) (ro rfl (cX (cJ 0)) (eX (eG (cH [0,1,2] rfl (by decide) ?_))))))))
  refine bS (fun (j : Nat) => j ≤ z.length) (fun (j : Nat) => z.length - j) (fun (j : Nat) => [(2, dA B2 0), (3, dA B3 0), (5, dA B5 0), (6, NT .i64 i), (35, NT .i64 z.length), (36, NT .i64 i), (61, NT .i64 z.length), (62, NT .i64 j)]) (fun (j : Nat) => [box B2 34 [bN z, cE s, cE c], box B3 40 [qU z, QM s, QM c], box B5 32 [bN z, cE s]]) 0 (Nat.zero_le _)
   (aQ rfl (aQ rfl (aQ rfl (aQ rfl (aQ rfl (aQ rfl (aZ rfl (kI hcl) (zS rfl)))))))) (cT.refl _) (fun j hj=>?_)
  refine ts (ro rfl (gX (Ht rfl) (Ht rfl)) (eX (cK (dQ (Ht rfl) (fun hf=>?_) (fun hf=>?_)))))
  ·simp only [decide_eq_true_eq] at hf
   haveI f2:aD (gm s i j) L:=hs.get hL1 i j
   haveI f3:aD (gm c i j) L:=hc.get hL1 i j
   have hsr:=hsh.row hd
   have hcr:=hch.row hd
   have hs1:=hsh.1
   refine cU (cK (eG (ts (rm rfl (ra rfl (eX (ts (ro rfl (eJ A_32 Z_32 (Ht rfl) (i:=2) rfl rfl rfl) (rm rfl (ro rfl (dV (Ht rfl) (cJ 1) z6) (rm rfl (ro rfl (dV (Ht rfl) (cJ 1) z6) (ro rfl (cZ Tryz.call25 (eQ (a3m (z:=z) (s:=s) (i:=((i + 1:Nat):Int)) (j:=((j + 1:Nat):Int)) hsh zo) (a1v hd hf)) ⟨(Ht rfl),(Ht rfl),(Ht rfl),trivial⟩) (rm rfl (ro rfl (dK (Ht rfl) rfl) ?_)))))))))))))))
   refine ro rfl (dK (Ht rfl) rfl) (rn rfl (eW (Ts:=[Is (.bool false),Is (.slice none 0 0),Is (.bool false),Is (.slice none 0 0),Is (.slice none 0 0)]) O_51 rfl (fun V=>aW zd (aW zd (aW zd (aW zd (aW zd (aG))))))) fun B10=>(gQ Z_51 (Ht rfl) (Ht rfl) rfl (i:=3) rfl (aK rfl) rfl rfl (ra rfl (eX (ts (ro rfl (eJ A_34 Z_34 (Ht rfl) (i:=0) rfl rfl rfl) (rm rfl (ro rfl (dV (Ht rfl) (cJ 1) z6) ?_))))))))
   refine rm rfl (ro rfl (dV (Ht rfl) (cJ 1) z6) (ro rfl (cZ Tryz.call87 (eQ (Nd (z:=z) (s:=s) (c:=c) (i:=((i + 1:Nat):Int)) (j:=((j + 1:Nat):Int)) hch2 zo) (a1v zo zo)) ⟨(Ht rfl),(Ht rfl),(Ht rfl),trivial⟩) (rm rfl (ro rfl (dK (Ht rfl) rfl) (ro rfl (dK (Ht rfl) rfl) (rn rfl (eW (Ts:=[Is (.bool false),Is (.slice none 0 0),Is (.bool false),Is (.slice none 0 0),Is (.slice none 0 0)]) O_51 rfl (fun V=>aW zd (aW zd (aW zd (aW zd (aW zd (aG))))))) fun B12=>?_))))))
   refine gQ Z_51 (Ht rfl) (Ht rfl) rfl (i:=4) rfl (aK rfl) rfl rfl (ra rfl (eX (cK (fZ (m:=30) (dp 11 rfl (cX (Ht rfl)) (dq 83 0 rfl (kE (Ht rfl) cV) (dq 84 1 rfl (cX (Ht rfl)) (C.D_step (Ei:=[(13,_),(85,_)]) rfl rfl (bV (bK rfl rfl) (bV (bG 2 rfl rfl) bW)) (eK rfl rfl (Ht rfl) (fun h=>cX (Ht rfl))) (C.D_step (Ei:=[(86,_),(85,_)]) rfl rfl (bV (bG 3 rfl rfl) (bV (bG 2 rfl rfl) bW)) (eK rfl rfl (Ht rfl) (fun h=>kE (fJ rfl h) cV)) ?_)))))))))
   refine cP 85 2 87 4 rfl (gT (Ht rfl) (fun h=>(fJ rfl h))) (dq 88 5 rfl (cX (Ht rfl)) (C.D_step (Ei:=[(10,_),(89,_)]) rfl rfl (bV (bK rfl rfl) (bV (bG 6 rfl rfl) bW)) (eK rfl rfl (Ht rfl) (fun h=>eJ A_51 Z_51 (Ht rfl) (i:=3) rfl rfl rfl)) (C.D_step (Ei:=[(3,_),(89,_)]) rfl rfl (bV (bK rfl rfl) (bV (bG 6 rfl rfl) bW)) (eK rfl rfl (Ht rfl) (fun h=>eZ uA (Ht rfl) rfl)) (C.D_step (Ei:=[(91,_),(89,_)]) rfl rfl (bV (bG 8 rfl rfl) (bV (bG 6 rfl rfl) bW)) (eK rfl rfl (Ht rfl) (fun h=>eZ zD (fJ rfl h) rfl)) ?_))))
   refine C.D_step (Ei:=[(92,_),(89,_)]) rfl rfl (bV (bG 9 rfl rfl) (bV (bG 6 rfl rfl) bW)) (eK rfl rfl (Ht rfl) (fun h=>eY A_36 Z_36 (fJ rfl h) (i:=1) rfl rfl)) (C.D_step (Ei:=[(6,_),(89,_)]) rfl rfl (bV (bK rfl rfl) (bV (bG 6 rfl rfl) bW)) (eK rfl rfl (Ht rfl) (fun h=>cX (Ht rfl))) (C.D_step (Ei:=[(93,_),(94,_),(89,_)]) rfl rfl (bV (bG 10 rfl rfl) (bV (bG 11 rfl rfl) (bV (bG 6 rfl rfl) bW))) (eK rfl rfl (Ht rfl) (fun h=>dZ U_36 Z_35 (fJ rfl h) (fJ rfl h) rfl (dY (dU (d:=[]) zo)))) ?_))
   refine C.D_step (Ei:=[(95,_),(89,_)]) rfl rfl (bV (bG 12 rfl rfl) (bV (bG 6 rfl rfl) bW)) (eK rfl rfl (Ht rfl) (fun h=>dJ A_35 Z_35 (fJ rfl h))) (C.D_step (Ei:=[(9,_),(89,_)]) rfl rfl (bV (bK rfl rfl) (bV (bG 6 rfl rfl) bW)) (eK rfl rfl (Ht rfl) (fun h=>cX (Ht rfl))) (C.D_step (Ei:=[(96,_),(97,_),(89,_)]) rfl rfl (bV (bG 13 rfl rfl) (bV (bG 14 rfl rfl) (bV (bG 6 rfl rfl) bW))) (eK rfl rfl (Ht rfl) (fun h=>dZ U_35 Z_131 (fJ rfl h) (fJ rfl h) rfl (dY (dU (d:=Qi.zero) zo)))) ?_))
   refine C.D_step (Ei:=[(98,_),(89,_)]) rfl rfl (bV (bG 15 rfl rfl) (bV (bG 6 rfl rfl) bW)) (eK rfl rfl (Ht rfl) (fun h=>dJ A_131 Z_131 (fJ rfl h))) (C.D_step (Ei:=[(90,_),(99,_),(89,_)]) rfl rfl (bV (bG 7 rfl rfl) (bV (bG 16 rfl rfl) (bV (bG 6 rfl rfl) bW))) (eK rfl rfl (Ht rfl) (fun h=>cZ Tryz.call80 (Ff (x:=gm s i j) (y:=gm s i j) (L:=L) (M:=L) hL hL) ⟨(fJ rfl h),(fJ rfl h),trivial⟩)) (C.D_step (Ei:=[(100,_),(89,_)]) rfl rfl (bV (bG 17 rfl rfl) (bV (bG 6 rfl rfl) bW)) (eK rfl rfl (Ht rfl) (fun h=>eT (fJ rfl h))) ?_))
   refine cP 89 6 101 18 rfl (gT (Ht rfl) (fun h=>(fJ rfl h))) (dq 102 19 rfl (cX (Ht rfl)) (C.D_step (Ei:=[(12,_),(103,_)]) rfl rfl (bV (bK rfl rfl) (bV (bG 20 rfl rfl) bW)) (eK rfl rfl (Ht rfl) (fun h=>eJ A_51 Z_51 (Ht rfl) (i:=4) rfl rfl rfl)) (C.D_step (Ei:=[(3,_),(103,_)]) rfl rfl (bV (bK rfl rfl) (bV (bG 20 rfl rfl) bW)) (eK rfl rfl (Ht rfl) (fun h=>eZ wH (Ht rfl) rfl)) (C.D_step (Ei:=[(105,_),(103,_)]) rfl rfl (bV (bG 22 rfl rfl) (bV (bG 20 rfl rfl) bW)) (eK rfl rfl (Ht rfl) (fun h=>eY A_36 Z_36 (fJ rfl h) (i:=1) rfl rfl)) ?_))))
   refine C.D_step (Ei:=[(6,_),(103,_)]) rfl rfl (bV (bK rfl rfl) (bV (bG 20 rfl rfl) bW)) (eK rfl rfl (Ht rfl) (fun h=>cX (Ht rfl))) (C.D_step (Ei:=[(106,_),(107,_),(103,_)]) rfl rfl (bV (bG 23 rfl rfl) (bV (bG 24 rfl rfl) (bV (bG 20 rfl rfl) bW))) (eK rfl rfl (Ht rfl) (fun h=>dZ U_36 Z_35 (fJ rfl h) (fJ rfl h) rfl (dY (dU (d:=[]) zo)))) (C.D_step (Ei:=[(108,_),(103,_)]) rfl rfl (bV (bG 25 rfl rfl) (bV (bG 20 rfl rfl) bW)) (eK rfl rfl (Ht rfl) (fun h=>dJ A_35 Z_35 (fJ rfl h))) ?_))
   refine C.D_step (Ei:=[(9,_),(103,_)]) rfl rfl (bV (bK rfl rfl) (bV (bG 20 rfl rfl) bW)) (eK rfl rfl (Ht rfl) (fun h=>cX (Ht rfl))) (C.D_step (Ei:=[(109,_),(110,_),(103,_)]) rfl rfl (bV (bG 26 rfl rfl) (bV (bG 27 rfl rfl) (bV (bG 20 rfl rfl) bW))) (eK rfl rfl (Ht rfl) (fun h=>dZ U_35 Z_131 (fJ rfl h) (fJ rfl h) rfl (dY (dU (d:=Qi.zero) zo)))) (C.D_step (Ei:=[(111,_),(103,_)]) rfl rfl (bV (bG 28 rfl rfl) (bV (bG 20 rfl rfl) bW)) (eK rfl rfl (Ht rfl) (fun h=>dJ A_131 Z_131 (fJ rfl h))) ?_))
   refine fV aO rfl (by kernel_rfl) (zF (zF (zF (zF (zF (zF (zF (aJ (aJ (aV (fQ rfl rfl (eK rfl rfl (Ht rfl) (fun h=>cZ Tryz.call80 (Ff (x:=gm c i j) (y:=gm c i j) (L:=L) (M:=L) hL hL) ⟨(fJ rfl h),(fJ rfl h),trivial⟩)) (fQ rfl rfl (eK rfl rfl (Ht rfl) (fun h=>eT (fJ rfl h))) ?_))))))))))))
   refine ro rfl (gT (Ht rfl) (fun h=>(fJ rfl h))) (eX (iR (Ht rfl) (by simp) ?_))
   refine cU (bA (cY (ro rfl (dV (Ht rfl) (cJ 1) z6) (rm rfl (eX (cH [0,1,2] rfl (by decide) (fU (j + 1) hf zo (zS rfl) (cT.refl _))))))))
  ·refine gV rfl (bA (cY (ro rfl (dV (Ht rfl) (cJ 1) z6) (rm rfl (eX (cH [0,1,2] rfl (by decide) (fU (i + 1) hd zo (zS rfl) (cT.refl _))))))))
 ·refine gV rfl (ts (ro rfl (cQ cV) (eX ?_)))
  exact fW rfl (eU rfl)
end
section
open Go Go.RowKit
theorem Qi.zero_div (y:Qi):Qi.zero / y = Qi.zero:=by rw [Qi.div_def,Qi.zero_mul']
theorem a2M {x:Qi} (h:fP x = true):x.im = 0 ∧ x.re ≠ 0:=by
 simp only [fP,decide_eq_true_eq] at h
 exact ⟨Qi.b_zero.1 h.1,fun e=>by have:=Qi.a_zero.2 e; omega⟩
end
section
open Go Go.RowKit
theorem Ft {α:Type} {l:List α} {d:α} {k:Nat} (h:k < l.length):l.getD k d = l[k]:=by simp [List.getD,h]
theorem a3E {l m:List Qi} (h:l.length = m.length) (k:∀ i,i < l.length → gv l i = gv m i):l = m:=by
 apply List.ext_getElem h
 intro i h1 h2
 have:=k i h1
 simpa [gv,List.getD,h1,h2] using this
theorem a01 {l m:List (List Qi)} (h:l.length = m.length) (k:∀ i,i < l.length → l.getD i [] = m.getD i []):l = m:=by
 apply List.ext_getElem h
 intro i h1 h2
 have:=k i h1
 simpa [List.getD,h1,h2] using this
theorem a3J {l m:List Qi} {i:Nat} (h:gv l i ≠ gv m i):l ≠ m:=fun e=>h (by rw [e])
theorem a0l {l m:List (List Qi)} {i:Nat} (h:l.getD i [] ≠ m.getD i []):l ≠ m:=fun e=>h (by rw [e])
def Ok (z z':List Qi) (s s':List (List Qi)):Bool:=decide (z = z') && decide (s = s')
theorem Lk (z:List Qi) (s:List (List Qi)):Ok z z s s = true:=by simp [Ok]
end
section
open Go Go.RowKit
theorem wN (v : Value) (w : World) : (method (Tryz.prog.types.size + Made.depth) 51 v "Same").run Tryz.prog w = .ok (139, v) w := by kernel_rfl
end
section
open Go Go.RowKit
theorem Fc {l m:List Qi} {L:Nat} (hl:bP l L) (hm:bP m L) (hL:1 ≤ L) (h1:l.length ≤ 1000) (h2:m.length ≤ 1000):bB Tryz.prog 155 [bN l,bN m,Cw Tryz.prog {x:Qi × Qi // aD x.1 L ∧ aD x.2 L} (fun x=>[aN x.1.1,aN x.1.2]) (fun x=>aC (decide (x.1.1 = x.1.2)))] (aC (decide (l = m))):=by
 refine bB.intro Tryz.func155 rfl Tryz.ntmps155 rfl (fun cx=>(ts (ro rfl (cQ cV) (eX (cK (ts (rm rfl (ro rfl (dG U_29 (Ht rfl) aA) (rm rfl (ro rfl (dG U_29 (Ht rfl) aA) (ro rfl (eO (Ht rfl) (Ht rfl)) (eX (dQ (Ht rfl) (fun hb=>?_) (fun hb=>?_))))))))))))))
 ·have hn : ¬ l = m := fun e => by rw [e] at hb; simp at hb
  refine ts (ro rfl (cQ cV) (eX (fW rfl (fX (eU rfl) ?_))))
  exact (dM (decide_eq_false hn).symm)
 ·have he : l.length = m.length := by simpa using hb
  refine cU (cK (ts (rm rfl (ro rfl (dG U_29 (Ht rfl) aA) (ro rfl (cX (cJ 0)) (eX (eG ?_)))))))
  refine bS (fun (k : Nat) => k ≤ l.length ∧ ∀ i, i < k → gv l i = gv m i) (fun (k : Nat) => l.length - k) (fun (k : Nat) => [(0, bN l), (1, bN m), (2, Cw Tryz.prog {x : Qi × Qi // aD x.1 L ∧ aD x.2 L} (fun x => [aN x.1.1, aN x.1.2]) (fun x => aC (decide (x.1.1 = x.1.2)))), (15, bN l), (16, NT .i64 l.length), (17, NT .i64 k)]) (fun (k : Nat) => []) 0 ⟨Nat.zero_le _, fun i h => by omega⟩
   (zS rfl) aY (fun k ⟨hk,hr⟩=>?_)
  refine ts (ro rfl (gX (Ht rfl) (Ht rfl)) (eX (cK (dQ (Ht rfl) (fun hc=>?_) (fun hc=>?_)))))
  ·simp only [decide_eq_true_eq] at hc
   refine cU (cK (eG (ts (rm rfl (ro rfl (dZ U_29 Z_51 (Ht rfl) (Ht rfl) rfl (dY (dU (d:=Qi.zero) zo))) (ro rfl (dJ A_51 Z_51 (Ht rfl)) (rn rfl (eW (Ts:=[Is (.bool false),Is (.slice none 0 0),Is (.bool false),Is (.slice none 0 0),Is (.slice none 0 0)]) O_51 rfl (fun V=>aW zd (aW zd (aW zd (aW zd (aW zd (aG))))))) fun B8=>(ra rfl (gQ Z_51 (Ht rfl) (Ht rfl) rfl (i:=0) rfl (aK rfl) rfl rfl ?_)))))))))
   refine eX (ts (rm rfl (rm rfl (ro rfl (dZ U_29 Z_51 (Ht rfl) (Ht rfl) rfl (dY (dU (d:=Qi.zero) zo))) (ro rfl (dJ A_51 Z_51 (Ht rfl)) (rn rfl (eW (Ts:=[Is (.bool false),Is (.slice none 0 0),Is (.bool false),Is (.slice none 0 0),Is (.slice none 0 0)]) O_51 rfl (fun V=>aW zd (aW zd (aW zd (aW zd (aW zd (aG))))))) fun B9=>(gQ Z_51 (Ht rfl) (Ht rfl) rfl (i:=1) rfl (aK rfl) rfl rfl ?_)))))))
   refine eX (ts (rm rfl (ro rfl (eJ A_51 Z_51 (Ht rfl) (i:=0) rfl rfl rfl) (ro rfl (eJ A_51 Z_51 (Ht rfl) (i:=1) rfl rfl rfl) (ro rfl (oW (⟨(gv l k,gv m k),hl.get hL k,hm.get hL k⟩:{x:Qi × Qi // aD x.1 L ∧ aD x.2 L}) (Ht rfl) ⟨(Ht rfl),(Ht rfl),trivial⟩) (ro rfl (eT (Ht rfl)) (eX (dQ (Ht rfl) (fun hd=>?_) (fun hd=>?_)))))))))
   ·have hn : ¬ l = m := a3J (i := k) (by simpa using hd)
    refine ts (ro rfl (cQ cV) (eX (fW rfl (fX (eU rfl) ?_))))
    exact (dM (decide_eq_false hn).symm)
   ·have hq : gv l k = gv m k := by simpa using hd
    refine cU (bA (cY (ro rfl (dV (Ht rfl) (cJ 1) z6) (rm rfl (eX (cH [] rfl (by decide) ?_))))))
    refine fU (k + 1) ⟨hc, fun i h => by
     by_cases e:i = k
     ·rw [e]; exact hq
     ·exact hr i zo⟩ zo (zS rfl) aY
  ·simp only [decide_eq_false_iff_not] at hc
   refine gV rfl (ts (ro rfl (cQ cV) (eX (fW rfl (fX (eU rfl) ?_)))))
   exact (dM (decide_eq_true (a3E he (fun i h=>hr i zo))).symm)
theorem Na {l m:List (List Qi)} {L:Nat} (hl:aS l L) (hm:aS m L) (h3:∀ r,r ∈ l → r.length ≤ 1000) (h4:∀ r,r ∈ m → r.length ≤ 1000) (h1:l.length ≤ 1000) (h2:m.length ≤ 1000):bB Tryz.prog 153 [cE l,cE m,Cw Tryz.prog {x:List Qi × List Qi // (bP x.1 L ∧ x.1.length ≤ 1000) ∧ bP x.2 L ∧ x.2.length ≤ 1000} (fun x=>[bN x.1.1,bN x.1.2]) (fun x=>aC (decide (x.1.1 = x.1.2)))] (aC (decide (l = m))):=by
 refine bB.intro Tryz.func153 rfl Tryz.ntmps153 rfl (fun cx=>(ts (ro rfl (cQ cV) (eX (cK (ts (rm rfl (ro rfl (dG U_30 (Ht rfl) aA) (rm rfl (ro rfl (dG U_30 (Ht rfl) aA) (ro rfl (eO (Ht rfl) (Ht rfl)) (eX (dQ (Ht rfl) (fun hb=>?_) (fun hb=>?_))))))))))))))
 ·have hn : ¬ l = m := fun e => by rw [e] at hb; simp at hb
  refine ts (ro rfl (cQ cV) (eX (fW rfl (fX (eU rfl) ?_))))
  exact (dM (decide_eq_false hn).symm)
 ·have he : l.length = m.length := by simpa using hb
  refine cU (cK (ts (rm rfl (ro rfl (dG U_30 (Ht rfl) aA) (ro rfl (cX (cJ 0)) (eX (eG ?_)))))))
  refine bS (fun (k : Nat) => k ≤ l.length ∧ ∀ i, i < k → l.getD i [] = m.getD i []) (fun (k : Nat) => l.length - k) (fun (k : Nat) => [(0, cE l), (1, cE m), (2, Cw Tryz.prog {x : List Qi × List Qi // (bP x.1 L ∧ x.1.length ≤ 1000) ∧ bP x.2 L ∧ x.2.length ≤ 1000} (fun x => [bN x.1.1, bN x.1.2]) (fun x => aC (decide (x.1.1 = x.1.2)))), (15, cE l), (16, NT .i64 l.length), (17, NT .i64 k)]) (fun (k : Nat) => []) 0 ⟨Nat.zero_le _, fun i h => by omega⟩
   (zS rfl) aY (fun k ⟨hk,hr⟩=>?_)
  refine ts (ro rfl (gX (Ht rfl) (Ht rfl)) (eX (cK (dQ (Ht rfl) (fun hc=>?_) (fun hc=>?_)))))
  ·simp only [decide_eq_true_eq] at hc
   refine cU (cK (eG (ts (rm rfl (ro rfl (dZ U_30 Z_29 (Ht rfl) (Ht rfl) rfl (dY (dU (d:=[]) hc))) (ro rfl (dJ A_29 Z_29 (Ht rfl)) (ra rfl (ra rfl (eX (ts (rm rfl (rm rfl (ro rfl (dZ U_30 Z_29 (Ht rfl) (Ht rfl) rfl (dY (dU (d:=[]) zo))) (ro rfl (dJ A_29 Z_29 (Ht rfl)) (ra rfl (eX (ts (rm rfl (rm rfl (rm rfl (ro rfl (oW (⟨(l.getD k [],m.getD k []),⟨hl.row k,by rw [Ft hc]; exact h3 _ (List.getElem_mem hc)⟩,hm.row k,by rw [Ft (by omega:k < m.length)]; exact h4 _ (List.getElem_mem _)⟩:{x:List Qi × List Qi // (bP x.1 L ∧ x.1.length ≤ 1000) ∧ bP x.2 L ∧ x.2.length ≤ 1000}) (Ht rfl) ⟨(Ht rfl),(Ht rfl),trivial⟩) ?_)))))))))))))))))))))
   refine ro rfl (eT (Ht rfl)) (eX (dQ (Ht rfl) (fun hd=>?_) (fun hd=>?_)))
   ·have hn : ¬ l = m := a0l (i := k) (by simpa using hd)
    refine ts (ro rfl (cQ cV) (eX (fW rfl (fX (eU rfl) ?_))))
    exact (dM (decide_eq_false hn).symm)
   ·have hq : l.getD k [] = m.getD k [] := by simpa using hd
    refine cU (bA (cY (ro rfl (dV (Ht rfl) (cJ 1) z6) (rm rfl (eX ?_)))))
    refine fU (k + 1) ⟨hc, fun i h => by
     by_cases e:i = k
     ·rw [e]; exact hq
     ·exact hr i zo⟩ zo (zS rfl) aY
  ·simp only [decide_eq_false_iff_not] at hc
   refine gV rfl (ts (ro rfl (cQ cV) (eX (fW rfl (fX (eU rfl) ?_)))))
   exact (dM (decide_eq_true (a01 he (fun i h=>hr i zo))).symm)
theorem Tt {x y:Qi} {L:Nat} [hx:aD x L] [hy:aD y L] (h:L ≤ 8796093022208):bB Tryz.prog 203 [aN x,aN y] (aC (decide (x = y))):=by
 refine bB.intro Tryz.func203 rfl Tryz.ntmps203 rfl (fun cx=>(ts (rn rfl (fG (Ht rfl)) fun B2=>(rn rfl (fG (Ht rfl)) fun B3=>(ro rfl (cQ cV) (eX (ts (ro rfl (eJ A_51 Z_51 (Ht rfl) (i:=0) rfl rfl rfl) (ro rfl (cC dE (Ht rfl)) (ro rfl (eJ A_51 Z_51 (Ht rfl) (i:=1) rfl rfl rfl) (ro rfl (bO wN Tryz.call139 (Ks zo zo) (Ht rfl) ⟨(Ht rfl),trivial⟩) (ra rfl (eX ?_)))))))))))))
 exact fW rfl (eU rfl)
theorem Tu {l m:List Qi} {L:Nat} (hl:bP l L) (hm:bP m L) (hL:1 ≤ L) (h1:l.length ≤ 1000) (h2:m.length ≤ 1000):bB Tryz.prog 204 [bN l,bN m,PT (Cw Tryz.prog {x:Qi × Qi // aD x.1 L ∧ aD x.2 L} (fun x=>[aN x.1.1,aN x.1.2]) (fun x=>aC (decide (x.1.1 = x.1.2))))] (aC (decide (l = m))):=by
 refine bB.intro Tryz.func204 rfl Tryz.ntmps204 rfl (fun cx=>(ts (ro rfl (cQ cV) (eX (ts (rm rfl (rm rfl (ro rfl (dJ Tryz.isAgg205 Tryz.sizeOf205 (Ht rfl)) (ro rfl (cZ Tryz.call155 (Fc hl hm hL h1 h2) ⟨(Ht rfl),(Ht rfl),(Ht rfl),trivial⟩) (ra rfl (eX ?_)))))))))))
 exact fW rfl (eU rfl)
theorem Tv {x y:Qi} {L:Nat} [hx:aD x L] [hy:aD y L] (h:L ≤ 8796093022208):bB Tryz.prog 152 [aN x,aN y] (aC (decide (x = y))):=by
 refine bB.intro Tryz.func152 rfl Tryz.ntmps152 rfl (fun cx=>(ts (rn rfl (fG (Ht rfl)) fun B2=>(rn rfl (fG (Ht rfl)) fun B3=>(ro rfl (cQ cV) (eX (ts (ro rfl (eJ A_51 Z_51 (Ht rfl) (i:=0) rfl rfl rfl) (ro rfl (cC dE (Ht rfl)) (ro rfl (eJ A_51 Z_51 (Ht rfl) (i:=1) rfl rfl rfl) (ro rfl (bO wN Tryz.call139 (Ks zo zo) (Ht rfl) ⟨(Ht rfl),trivial⟩) (ra rfl (eX ?_)))))))))))))
 exact fW rfl (eU rfl)
theorem Tw {l m:List Qi} {L:Nat} (hl:bP l L) (hm:bP m L) (hL:1 ≤ L) (h1:l.length ≤ 1000) (h2:m.length ≤ 1000):bB Tryz.prog 154 [bN l,bN m,PT (Cw Tryz.prog {x:Qi × Qi // aD x.1 L ∧ aD x.2 L} (fun x=>[aN x.1.1,aN x.1.2]) (fun x=>aC (decide (x.1.1 = x.1.2))))] (aC (decide (l = m))):=by
 refine bB.intro Tryz.func154 rfl Tryz.ntmps154 rfl (fun cx=>(ts (ro rfl (cQ cV) (eX (ts (rm rfl (rm rfl (ro rfl (dJ Tryz.isAgg205 Tryz.sizeOf205 (Ht rfl)) (ro rfl (cZ Tryz.call155 (Fc hl hm hL h1 h2) ⟨(Ht rfl),(Ht rfl),(Ht rfl),trivial⟩) (ra rfl (eX ?_)))))))))))
 exact fW rfl (eU rfl)
theorem Kv {z z':List Qi} {s s':List (List Qi)} {L:Nat} (hz:bP z L) (hz2:bP z' L) (hs:aS s L) (hs2:aS s' L) (hL:1 ≤ L) (h:L ≤ 8796093022208) (hsh:cM s z.length z.length) (hsh2:cM s' z'.length z'.length) (hl:z.length ≤ 1000) (hl2:z'.length ≤ 1000):bB Tryz.prog 113 [nF z s,nF z' s'] (aC (Ok z z' s s')):=by
 have e1:∀ r,r ∈ s → r.length ≤ 1000:=fun r hr=>by rw [hsh.2 r hr]; exact hl
 have e2:∀ r,r ∈ s' → r.length ≤ 1000:=fun r hr=>by rw [hsh2.2 r hr]; exact hl2
 have e3:s.length ≤ 1000:=by rw [hsh.1]; exact hl
 have e4:s'.length ≤ 1000:=by rw [hsh2.1]; exact hl2
 refine bB.intro Tryz.func113 rfl Tryz.ntmps113 rfl (fun cx=>(ts (rn rfl (fG (Ht rfl)) fun B2=>(rn rfl (fG (Ht rfl)) fun B3=>(ro rfl (cQ cV) (eX (ts (rn rfl (eW (Ts:=[Is (.nilFunc)]) Tryz.zeroValue205 rfl (fun V=>aW zd (aG))) fun B5=>(kK Tryz.sizeOf205 (Ht rfl) (bF.fn Tryz.call203 (γ:={x:Qi × Qi // aD x.1 L ∧ aD x.2 L}) (Ts:=fun x=>[aN x.1.1,aN x.1.2]) (U:=fun x=>aC (decide (x.1.1 = x.1.2))) (fun x=>haveI:=x.2.1; haveI:=x.2.2; Tt (L:=L) h)) (i:=2) rfl (aK rfl) rfl ?_)))))))))
 refine eX (cK (gJ (i:=2) (tt:=5) rfl rfl nI (cY (ro rfl (rK (γ:={x:List Qi × List Qi // (bP x.1 L ∧ x.1.length ≤ 1000) ∧ bP x.2 L ∧ x.2.length ≤ 1000}) (Ts:=fun x=>[bN x.1.1,bN x.1.2]) (U:=fun x=>aC (decide (x.1.1 = x.1.2))) Tryz.call204 (fun x=>Tu x.2.1.1 x.2.2.1 hL x.2.1.2 x.2.2.2) ⟨(Ht rfl),trivial⟩) (ra rfl (eX (ts (ro rfl (eZ rD (Ht rfl) rfl) (ro rfl (eY A_29 Z_29 (Ht rfl) (i:=0) rfl rfl) (ro rfl (eZ rD (Ht rfl) rfl) (ro rfl (eY A_29 Z_29 (Ht rfl) (i:=1) rfl rfl) ?_)))))))))))
 refine ro rfl (cZ Tryz.call155 (Fc hz hz2 hL hl hl2) ⟨(Ht rfl),(Ht rfl),(bF.fn Tryz.call139 (γ:={x:Qi × Qi // aD x.1 L ∧ aD x.2 L}) (Ts:=fun x=>[aN x.1.1,aN x.1.2]) (U:=fun x=>aC (decide (x.1.1 = x.1.2))) (fun x=>haveI:=x.2.1; haveI:=x.2.2; Ks (L:=L) (M:=L) zo zo)),trivial⟩) (rm rfl (fQ rfl rfl (eK rfl rfl (Ht rfl) (fun h=>eZ zC (Ht rfl) rfl)) (fQ rfl rfl (eK rfl rfl (Ht rfl) (fun h=>eY A_30 Z_30 (fJ rfl h) (i:=0) rfl rfl)) (fQ rfl rfl (eK rfl rfl (Ht rfl) (fun h=>eZ zC (Ht rfl) rfl)) ?_))))
 refine fQ rfl rfl (eK rfl rfl (Ht rfl) (fun h=>eY A_30 Z_30 (fJ rfl h) (i:=1) rfl rfl)) (fQ rfl rfl (eK rfl rfl (Ht rfl) (fun h=>cX (Ht rfl))) (fQ rfl rfl (eK rfl rfl (Ht rfl) (fun h=>cZ Tryz.call153 (Na hs hs2 e1 e2 e3 e4) ⟨(fJ rfl h),(fJ rfl h),(fJ rfl h),trivial⟩)) (ro rfl (fE (Ht rfl) (fun h=>(fJ rfl h))) (ra rfl (eX (fW rfl (fX (eU rfl) ?_)))))))
 exact (dM rfl)
theorem Kx {z z':List Qi} {s s' c c':List (List Qi)} {L:Nat} (hz:bP z L) (hz2:bP z' L) (hs:aS s L) (hs2:aS s' L) (hL:1 ≤ L) (h:L ≤ 8796093022208) (hsh:cM s z.length z.length) (hsh2:cM s' z'.length z'.length) (hl:z.length ≤ 1000) (hl2:z'.length ≤ 1000) (hc:aS c L) (hc2:aS c' L) (hch:cM c z.length z.length) (hch2:cM c' z'.length z'.length):bB Tryz.prog 52 [iJ z s c,iJ z' s' c'] (aC (Ok z z' s s' && decide (c = c'))):=by
 have e1:∀ r,r ∈ c → r.length ≤ 1000:=fun r hr=>by rw [hch.2 r hr]; exact hl
 have e2:∀ r,r ∈ c' → r.length ≤ 1000:=fun r hr=>by rw [hch2.2 r hr]; exact hl2
 have e3:c.length ≤ 1000:=by rw [hch.1]; exact hl
 have e4:c'.length ≤ 1000:=by rw [hch2.1]; exact hl2
 refine bB.intro Tryz.func52 rfl Tryz.ntmps52 rfl (fun cx=>(ts (rn rfl (fG (Ht rfl)) fun B2=>(rn rfl (fG (Ht rfl)) fun B3=>(ro rfl (cQ cV) (eX (ts (rn rfl (eW (Ts:=[Is (.nilFunc)]) Tryz.zeroValue205 rfl (fun V=>aW zd (aG))) fun B5=>(kK Tryz.sizeOf205 (Ht rfl) (bF.fn Tryz.call152 (γ:={x:Qi × Qi // aD x.1 L ∧ aD x.2 L}) (Ts:=fun x=>[aN x.1.1,aN x.1.2]) (U:=fun x=>aC (decide (x.1.1 = x.1.2))) (fun x=>haveI:=x.2.1; haveI:=x.2.2; Tv (L:=L) h)) (i:=2) rfl (aK rfl) rfl ?_)))))))))
 refine eX (cK (gJ (i:=2) (tt:=5) rfl rfl nI (cY (ro rfl (eZ rE (Ht rfl) rfl) (ro rfl (eJ A_32 Z_32 (Ht rfl) (i:=0) rfl rfl rfl) (ro rfl (eZ rE (Ht rfl) rfl) (ro rfl (eJ A_32 Z_32 (Ht rfl) (i:=1) rfl rfl rfl) (ro rfl (cZ Tryz.call113 (Kv hz hz2 hs hs2 hL h hsh hsh2 hl hl2) ⟨(Ht rfl),(Ht rfl),trivial⟩) (rm rfl (fQ rfl rfl (eK rfl rfl (Ht rfl) (fun h=>eZ nB (Ht rfl) rfl)) (fQ rfl rfl (eK rfl rfl (Ht rfl) (fun h=>eY A_30 Z_30 (fJ rfl h) (i:=0) rfl rfl)) ?_)))))))))))
 refine fQ rfl rfl (eK rfl rfl (Ht rfl) (fun h=>eZ nB (Ht rfl) rfl)) (fQ rfl rfl (eK rfl rfl (Ht rfl) (fun h=>eY A_30 Z_30 (fJ rfl h) (i:=1) rfl rfl)) (fQ rfl rfl (eK rfl rfl (Ht rfl) (fun h=>rK (γ:={x:List Qi × List Qi // (bP x.1 L ∧ x.1.length ≤ 1000) ∧ bP x.2 L ∧ x.2.length ≤ 1000}) (Ts:=fun x=>[bN x.1.1,bN x.1.2]) (U:=fun x=>aC (decide (x.1.1 = x.1.2))) Tryz.call154 (fun x=>Tw x.2.1.1 x.2.2.1 hL x.2.1.2 x.2.2.2) ⟨(Ht rfl),trivial⟩)) (fQ rfl rfl (eK rfl rfl (Ht rfl) (fun h=>cZ Tryz.call153 (Na hc hc2 e1 e2 e3 e4) ⟨(fJ rfl h),(fJ rfl h),(fJ rfl h),trivial⟩)) ?_)))
 refine ro rfl (fE (Ht rfl) (fun h=>(fJ rfl h))) (ra rfl (eX ?_))
 exact fW rfl (eU rfl)
end
section
open Go Go.RowKit
namespace Qi
end Qi
def nP (f : Nat → Int) : Nat → Int
 | 0=>0
 | n + 1=>if nP f n ≠ 0 then nP f n else f n
theorem Qr {f:Nat → Int} {k:Nat} (h:∀ i,i < k → f i = 0) (hk:f k ≠ 0):∀ {n:Nat},k < n → nP f n = f k:=by
 have hz : nP f k = 0 := by
  clear hk
  induction k with
  | zero=>rfl
  | succ k ih=>rw [nP,ih (fun i hi=>h i zo),if_neg (by simp),h k zo]
 intro n
 induction n with
 | zero=>intro h; omega
 | succ n ih =>
  intro hn
  by_cases e:n = k
  ·rw [e,nP,hz,if_neg (by simp)]
  ·rw [nP,ih zo,if_pos hk]
theorem sF {f : Nat → Int} : ∀ {n : Nat}, (∀ i, i < n → f i = 0) → nP f n = 0
 | 0,_=>rfl
 | n + 1,h=>by rw [nP,sF (fun i hi=>h i zo),if_neg (by simp),h n zo]
theorem yI {f : Nat → Int} : ∀ {n : Nat}, nP f n = 0 → ∀ i, i < n → f i = 0
 | 0,_,i,hi=>by omega
 | n + 1, h, i, hi => by
  rw [nP] at h
  split at h
  ·rename_i c; exact absurd h c
  ·rename_i c
   by_cases e:i = n
   ·rw [e]; exact h
   ·exact yI (Decidable.not_not.1 c) i zo
abbrev eF (l:List (Qi × Qi)) (i:Nat):Qi:=(l.getD i (Qi.zero,Qi.zero)).1
abbrev eV (l:List (Qi × Qi)) (i:Nat):Qi:=(l.getD i (Qi.zero,Qi.zero)).2
structure a1g (l:List (Qi × Qi)) (f:Qi):Prop where
 real:∀ i,i < l.length → (eF l i).b = 0 ∧ (eV l i).b = 0
 up:∀ i,0 < i → i < l.length → (eF l (i - 1)).re < (eF l i).re
 fr:f.b = 0
theorem a1g.mono {l : List (Qi × Qi)} {f : Qi} (h : a1g l f) {i : Nat} : ∀ {j : Nat}, i < j → j < l.length → (eF l i).re < (eF l j).re
 | 0,h1,_=>by omega
 | j + 1, h1, h2 => by
  have h3:=h.up (j + 1) zo h2
  rw [Nat.add_sub_cancel] at h3
  by_cases e:i = j
  ·rw [e]; exact h3
  ·have := h.mono (i := i) (j := j) zo zo
   grind
def a37 (l:List (Qi × Qi)) (L:Nat):Prop:=∀ e,e ∈ l → aD e.1 L ∧ aD e.2 L
theorem a37.get {l:List (Qi × Qi)} {L:Nat} (h:a37 l L) (hL:1 ≤ L) (i:Nat):aD (eF l i) L ∧ aD (eV l i) L:=by
 by_cases hi:i < l.length
 ·have e : l.getD i (Qi.zero, Qi.zero) = l[i] := by simp [List.getD, hi]
  show aD (l.getD i _).1 L ∧ aD (l.getD i _).2 L
  rw [e]; exact h _ (List.getElem_mem hi)
 ·have e : l.getD i (Qi.zero, Qi.zero) = (Qi.zero, Qi.zero) := by simp [List.getD, List.getElem?_eq_none (Nat.le_of_not_lt hi)]
  show aD (l.getD i _).1 L ∧ aD (l.getD i _).2 L
  rw [e]; exact ⟨aD.zero hL,aD.zero hL⟩
end
section
open Go Go.RowKit
abbrev cL (M:List (List Qi)) (i:Nat):List Qi:=M.getD i []
def Se (M : List (List Qi)) (c n : Nat) : Nat → Nat
 | 0=>n
 | k + 1=>if gm M (n - (k + 1)) c = Qi.zero then Se M c n k else n - (k + 1)
def pv (M:List (List Qi)) (c n:Nat):Nat:=Se M c n (n - c)
theorem Je {M : List (List Qi)} {c n : Nat} : ∀ {k : Nat}, k ≤ n → (∀ r, n - k ≤ r → r < Se M c n k → gm M r c = Qi.zero) ∧ n - k ≤ Se M c n k ∧ Se M c n k ≤ n ∧ (Se M c n k < n → gm M (Se M c n k) c ≠ Qi.zero)
 | 0,_=>⟨fun r h1 h2=>by simp [Se] at h2; omega,by simp [Se],by simp [Se],fun h=>by simp [Se] at h⟩
 | k + 1, hk => by
  obtain ⟨i1,i2,i3,i4⟩:=Je (M:=M) (c:=c) (n:=n) (k:=k) zo
  unfold Se
  by_cases e:gm M (n - (k + 1)) c = Qi.zero
  ·rw [if_pos e]
   refine ⟨fun r h1 h2=>?_,by omega,i3,i4⟩
   by_cases e2:r = n - (k + 1)
   ·rw [e2]; exact e
   ·exact i1 r zo h2
  ·rw [if_neg e]
   exact ⟨fun r h1 h2=>by omega,Nat.le_refl _,by omega,fun _=>e⟩
theorem lA {M:List (List Qi)} {c n:Nat} (hc:c ≤ n):(∀ r,c ≤ r → r < pv M c n → gm M r c = Qi.zero) ∧ c ≤ pv M c n ∧ pv M c n ≤ n ∧ (pv M c n < n → gm M (pv M c n) c ≠ Qi.zero):=by
 have h:=Je (M:=M) (c:=c) (n:=n) (k:=n - c) zo
 rw [show n - (n - c) = c by omega] at h
 exact h
theorem a1x {M:List (List Qi)} {c n p:Nat} (hc:c ≤ p) (hp:p ≤ n) (h1:∀ r,c ≤ r → r < p → gm M r c = Qi.zero) (h2:p < n → gm M p c ≠ Qi.zero):pv M c n = p:=by
 obtain ⟨i1,i2,i3,i4⟩:=lA (M:=M) (n:=n) (show c ≤ n by omega)
 rcases Nat.lt_trichotomy (pv M c n) p with h | h | h
 ·exact absurd (h1 _ i2 h) (i4 zo)
 ·exact h
 ·exact absurd (i1 p hc h) (h2 zo)
def lI (rr rc:List Qi) (c k:Nat):List Qi:=tab rr.length fun j=>if c < j ∧ j < k then gv rr j - gv rr c / gv rc c * gv rc j else gv rr j
def redM (M:List (List Qi)) (c r:Nat):List (List Qi):=tab M.length fun i=>if c < i ∧ i < r then lI (cL M i) (cL M c) c (cL M i).length else cL M i
def cI (M : List (List Qi)) : Nat → List (List Qi) × Nat × Int
 | 0=>(M,0,-1)
 | c + 1 =>
  let s:=cI M c
  if 0 ≤ s.2.2 then s else
  if pv s.1 c M.length = M.length then (s.1,s.2.1,(c:Int)) else
  (redM (if pv s.1 c M.length = c then s.1 else swp [] s.1 (pv s.1 c M.length) c) c M.length,s.2.1 + (if pv s.1 c M.length = c then 0 else 1),-1)
theorem Du {M : List (List Qi)} {c : Nat} (h : 0 ≤ (cI M c).2.2) : ∀ {d : Nat}, c ≤ d → cI M d = cI M c
 | 0,hd=>by rw [show c = 0 by omega]
 | d + 1, hd => by
  by_cases e:c = d + 1
  ·rw [e]
  ·have := Du h (d := d) zo
   simp only [cI,this]
   rw [if_pos h]
theorem tF (M:List (List Qi)) (c r:Nat):(redM M c r).length = M.length:=bI _ _
theorem Jj {M:List (List Qi)} {n m c r:Nat} (h:cM M n m):cM (redM M c r) n m:=by
 refine ⟨(tF _ _ _).trans h.1,fun x hx=>?_⟩
 obtain ⟨i,hi,rfl⟩:=iT.1 hx
 have hr:=h.row (i:=i) (by rw [← h.1]; exact hi)
 show (if c < i ∧ i < r then lI (cL M i) (cL M c) c (cL M i).length else cL M i).length = m
 split
 ·rw [lI,bI]; exact hr
 ·exact hr
theorem wZ {M:List (List Qi)} {n m p c:Nat} (h:cM M n m) (hp:p < n) (hc:c < n):cM (swp [] M p c) n m:=by
 refine ⟨(wY _ _ _ _).trans h.1,fun x hx=>?_⟩
 unfold swp at hx
 rcases List.mem_or_eq_of_mem_set hx with h1 | h1
 ·rcases List.mem_or_eq_of_mem_set h1 with h2 | h2
  ·exact h.2 x h2
  ·rw [h2]; exact h.row hc
 ·rw [h1]; exact h.row hp
theorem oQ {M : List (List Qi)} {n m : Nat} (h : cM M n m) : ∀ {c : Nat}, c ≤ n → cM (cI M c).1 n m
 | 0,_=>h
 | c + 1, hc => by
  have ih:=oQ h (c:=c) zo
  obtain ⟨_,_,i3,_⟩:=lA (M:=(cI M c).1) (c:=c) (n:=M.length) (by rw [h.1]; omega)
  simp only [cI]
  split
  ·exact ih
  ·split
   ·exact ih
   ·rename_i e
    apply Jj
    split
    ·exact ih
    ·exact wZ ih (by rw [← h.1]; omega) zo
def sH (L : Nat) : Nat → Nat
 | 0=>L
 | c + 1=>6 * sH L c + 4
theorem uC (L : Nat) : ∀ {c d : Nat}, c ≤ d → sH L c ≤ sH L d
 | c,0,h=>by rw [show c = 0 by omega]; exact Nat.le_refl _
 | c, d + 1, h => by
  by_cases e:c = d + 1
  ·rw [e]; exact Nat.le_refl _
  ·have := uC L (c := c) (d := d) zo
   simp only [sH]; omega
theorem zJ (L c:Nat):L ≤ sH L c:=uC L (Nat.zero_le c)
theorem Nq {rr rc:List Qi} {L c j:Nat} (h1:bP rr L) (h2:bP rc L) (hL:1 ≤ L) (hp:gv rc c ≠ Qi.zero):aD (gv rr j - gv rr c / gv rc c * gv rc j) (6 * L + 4):=by
 haveI f1:=h1.get hL j; haveI f2:=h1.get hL c; haveI f3:=h2.get hL c; haveI f4:=h2.get hL j
 haveI g:aD (gv rr c / gv rc c) (L + 3 * L + 2):=⟨f2.fit.div f3.fit hp⟩
 have:aD (gv rr j - gv rr c / gv rc c * gv rc j) (L + (L + 3 * L + 2 + L + 1) + 1):=inferInstance
 exact this.le zo
theorem Xb {rr rc : List Qi} {L c k : Nat} (h1 : bP rr L) (h2 : bP rc L) (hL : 1 ≤ L) (hp : gv rc c ≠ Qi.zero) : bP (lI rr rc c k) (6 * L + 4) := bP.tab fun j _ => by
 split
 ·exact Nq h1 h2 hL hp
 ·exact (h1.get hL j).le zo
theorem Ji {M : List (List Qi)} {L c r : Nat} (h : aS M L) (hL : 1 ≤ L) (hp : gm M c c ≠ Qi.zero) : aS (redM M c r) (6 * L + 4) := fun x hx => by
 obtain ⟨i,hi,rfl⟩:=iT.1 hx
 show bP (if c < i ∧ i < r then lI (cL M i) (cL M c) c (cL M i).length else cL M i) _
 split
 ·exact Xb (h.row i) (h.row c) hL hp
 ·exact (h.row i).le zo
theorem zT {M : List (List Qi)} {L p c : Nat} (h : aS M L) : aS (swp [] M p c) L := fun x hx => by
 unfold swp at hx
 rcases List.mem_or_eq_of_mem_set hx with h1 | h1
 ·rcases List.mem_or_eq_of_mem_set h1 with h2 | h2
  ·exact h x h2
  ·rw [h2]; exact h.row c
 ·rw [h1]; exact h.row p
theorem tN {M:List (List Qi)} {p c:Nat} (hc:c < M.length):cL (swp [] M p c) c = cL M p:=by
 simp [cL,swp,List.getD,hc]
theorem Ax {M : List (List Qi)} {n m L : Nat} (hs : cM M n m) (h : aS M L) (hL : 1 ≤ L) : ∀ {c : Nat}, c ≤ n → aS (cI M c).1 (sH L c)
 | 0,_=>h
 | c + 1, hc => by
  have ih:=Ax hs h hL (c:=c) zo
  have hg:1 ≤ sH L c:=Nat.le_trans hL (zJ L c)
  have sh:=oQ hs (c:=c) zo
  obtain ⟨_,i2,i3,i4⟩:=lA (M:=(cI M c).1) (c:=c) (n:=M.length) (by rw [hs.1]; omega)
  simp only [cI,sH]
  split
  ·exact ih.le zo
  ·split
   ·exact ih.le zo
   ·rename_i e
    split
    ·rename_i e2
     refine Ji ih hg ?_
     have:=i4 zo
     rw [e2] at this; exact this
    ·refine Ji (zT ih) hg ?_
     show gv (cL (swp [] _ _ c) c) c ≠ _
     rw [tN (by rw [sh.1]; omega)]
     exact i4 zo
theorem Lz {rr rc:List Qi} {c:Nat}:rr = lI rr rc c (c + 1):=by
 unfold lI
 have:(tab rr.length fun j=>if c < j ∧ j < c + 1 then gv rr j - gv rr c / gv rc c * gv rc j else gv rr j) = tab rr.length (gv rr):=cF fun j _=>by rw [if_neg zo]
 rw [this]; exact wK rfl
theorem wT (rr rc:List Qi) (c k:Nat):(lI rr rc c k).length = rr.length:=bI _ _
theorem Jk {rr rc:List Qi} {c k:Nat} (hk:k < rr.length) (h:c < k):gv (lI rr rc c k) k = gv rr k:=by
 rw [lI,kR hk,if_neg zo]
theorem Rk {rr rc:List Qi} {c k:Nat} (hk:k < rr.length) (h:c < k):(lI rr rc c k).set k (gv (lI rr rc c k) k - gv rr c / gv rc c * gv rc k) = lI rr rc c (k + 1):=by
 rw [Jk hk h]
 apply List.ext_getElem?
 intro j
 by_cases hj:j < rr.length
 ·by_cases e : j = k
  ·subst e
   rw [List.getElem?_set_self (by rw [wT]; exact hj),lI,bR hj,if_pos zo]
  ·rw [List.getElem?_set_ne (Ne.symm e), lI, lI, bR hj, bR hj]
   by_cases e2:c < j ∧ j < k
   ·rw [if_pos e2,if_pos zo]
   ·rw [if_neg e2,if_neg zo]
 ·rw [List.getElem?_eq_none (by rw [List.length_set,wT]; omega),List.getElem?_eq_none (by rw [wT]; omega)]
theorem Ly {M:List (List Qi)} {c:Nat}:M = redM M c (c + 1):=by
 unfold redM
 have:(tab M.length fun i=>if c < i ∧ i < c + 1 then lI (cL M i) (cL M c) c (cL M i).length else cL M i) = tab M.length (cL M):=cF fun i _=>by rw [if_neg zo]
 rw [this]; exact yB (h:=rfl)
theorem wS {M:List (List Qi)} {c r i:Nat} (hi:i < M.length) (h:¬ (c < i ∧ i < r)):cL (redM M c r) i = cL M i:=by
 simp only [cL,redM,List.getD]
 rw [bR hi,if_neg h]; rfl
theorem Rj {M:List (List Qi)} {c r:Nat} (hr:r < M.length) (h:c < r):(redM M c r).set r (lI (cL M r) (cL M c) c (cL M r).length) = redM M c (r + 1):=by
 apply List.ext_getElem?
 intro j
 by_cases hj:j < M.length
 ·by_cases e : j = r
  ·subst e
   rw [List.getElem?_set_self (by rw [tF]; exact hj),redM,bR hj,if_pos zo]
  ·rw [List.getElem?_set_ne (Ne.symm e), redM, redM, bR hj, bR hj]
   by_cases e2:c < j ∧ j < r
   ·rw [if_pos e2,if_pos zo]
   ·rw [if_neg e2,if_neg zo]
 ·rw [List.getElem?_eq_none (by rw [List.length_set,tF]; omega),List.getElem?_eq_none (by rw [tF]; omega)]
theorem Jt {M:List (List Qi)} {r:Nat} {x y:List Qi}:(M.set r x).set r y = M.set r y:=List.set_set ..
theorem tK {M:List (List Qi)} {r:Nat} {x:List Qi} (h:r < M.length):cL (M.set r x) r = x:=by simp [cL,List.getD,h]
theorem oG {M:List (List Qi)} {r i:Nat} {x:List Qi} (h:r ≠ i):cL (M.set r x) i = cL M i:=by simp [cL,List.getD,List.getElem?_set_ne h]
theorem Xl {M:List (List Qi)} {r:Nat} (h:r < M.length):M.set r (cL M r) = M:=by
 apply List.ext_getElem?
 intro j
 by_cases e:j = r
 ·subst e; rw [List.getElem?_set_self h]; simp [cL,List.getD,h]
 ·rw [List.getElem?_set_ne (Ne.symm e)]
theorem Xu {X : List (List Qi)} {r c k : Nat} (hr : r < X.length) (hne : r ≠ c) (hk : k < (cL X r).length) (hck : c < k) :
  (X.set r (lI (cL X r) (cL X c) c k)).set r ((cL (X.set r (lI (cL X r) (cL X c) c k)) r).set k (gm (X.set r (lI (cL X r) (cL X c) c k)) r k - gm X r c / gm X c c * gm (X.set r (lI (cL X r) (cL X c) c k)) c k)) = X.set r (lI (cL X r) (cL X c) c (k + 1)):=by
 rw [Jt,tK hr]
 have e1:gm (X.set r (lI (cL X r) (cL X c) c k)) r k = gv (lI (cL X r) (cL X c) c k) k:=by show gv (cL (X.set r _) r) k = _; rw [tK hr]
 have e2:gm (X.set r (lI (cL X r) (cL X c) c k)) c k = gv (cL X c) k:=by show gv (cL (X.set r _) c) k = _; rw [oG hne]
 rw [e1,e2]
 exact congrArg _ (Rk hk hck)
theorem Xv {D:List (List Qi)} {r c:Nat} (hr:r < D.length) (hc:c < r):(redM D c r).set r (lI (cL (redM D c r) r) (cL (redM D c r) c) c (cL D r).length) = redM D c (r + 1):=by
 rw [wS hr zo,wS zo zo]
 exact Rj hr hc
theorem a3D {X:List (List Qi)} {r c k:Nat} (hr:r < X.length) (hk:k < (cL X r).length) (hck:c < k):gm (X.set r (lI (cL X r) (cL X c) c k)) r k = gv (cL X r) k:=by
 show gv (cL (X.set r _) r) k = _; rw [tK hr,Jk hk hck]
theorem a3C {X:List (List Qi)} {r c k:Nat} {y:List Qi} (hne:r ≠ c):gm (X.set r y) c k = gv (cL X c) k:=by show gv (cL (X.set r _) c) k = _; rw [oG hne]
theorem Qn {M A:List (List Qi)} {n c sw p:Nat} (hl:M.length = n) (h:cI M c = (A,sw,-1)) (hp:pv A c n = p) (hpn:p < n):cI M (c + 1) = (redM (if p = c then A else swp [] A p c) c n,sw + (if p = c then 0 else 1),-1):=by
 simp only [cI,h,hl,hp]
 rw [if_neg (by decide),if_neg zo]
theorem Va {M A:List (List Qi)} {n c sw:Nat} (hl:M.length = n) (h:cI M c = (A,sw,-1)) (hp:pv A c n = n) (hc:c < n):cI M n = (A,sw,(c:Int)):=by
 have e : cI M (c + 1) = (A, sw, (c : Int)) := by
  simp only [cI,h,hl,hp]
  rw [if_neg (by decide)]; simp
 rw [Du (c:=c + 1) (by rw [e]; show (0:Int) ≤ (c:Int); omega) hc,e]
end
section
open Go Go.RowKit
theorem Ct (v : Value) (w : World) : (method (Tryz.prog.types.size + Made.depth) 51 v "Clear").run Tryz.prog w = .ok (27, v) w := by kernel_rfl
end
section
open Go Go.RowKit
theorem Zh {M:List (List Qi)} {n m G B:Nat} (hs:cM M n m) (hstg:∀ c,c ≤ n → aS (cI M c).1 G) (hG1:1 ≤ G) (hg:6 * G + 4 ≤ 17592186044415) (hnm:n ≤ m) (hm:m ≤ 1000):gF Tryz.prog 194 [Is (.slice (some ⟨B,0,none⟩) n n)] [oU B 29 51 5 (bL aN M)] (Unit) (fun _=>fH [NT .i64 (cI M n).2.1,bD .i64 (cI M n).2.2]) (fun _=>[oU B 29 51 5 (bL aN (cI M n).1)]) (fun _=>True):=by
 have hs1:=hs.1
 refine gF.intro Tryz.func194 rfl Tryz.ntmps194 rfl (fun cx Z=>(ts (ro rfl (cQ (cJ 0)) (ro rfl (cQ (cJ 0)) (eX (ts (ro rfl (cQ (cJ 0)) (eX (cK (ts (rm rfl (ro rfl (hJ U_30 (Ht rfl)) (ro rfl (cX (cJ 0)) (eX (eG (Eu 1 rfl (fun vs hvs=>?_)))))))))))))))))
 have hvs2:Ye vs n:=by have h:=hvs; rw [List.length_map,hs1] at h; exact h
 refine vV (fun (c : Nat) (sw : Nat) (vs : List Value) (A : List (List Qi)) => (c ≤ n ∧ sw ≤ c) ∧ cI M c = (A, sw, -1) ∧ Ye vs n) (fun (c : Nat) (sw : Nat) (vs : List Value) (A : List (List Qi)) => n - c) (fun (c : Nat) (sw : Nat) (vs : List Value) (A : List (List Qi)) => [(0, Is (.slice (some ⟨B, 0, none⟩) n n)), (4, NT .i64 sw), (12, NT .i64 n), (13, NT .i64 c)]) (fun (c : Nat) (sw : Nat) (vs : List Value) (A : List (List Qi)) => [Z, jD B 29 51 5 vs vs (bL aN A)]) 0 0 vs M ⟨⟨Nat.zero_le _, Nat.le_refl _⟩, rfl, hvs2⟩
  (zS rfl) (cT.refl _) (fun c sw vs A ⟨⟨hc,hsw⟩,hA,hvs⟩=>?_)
 refine ts (ro rfl (gX (Ht rfl) (Ht rfl)) (eX (cK (dQ (Ht rfl) (fun hcn=>?_) (fun hcn=>?_)))))
 ·simp only [decide_eq_true_eq] at hcn
  have hvl:=hvs.len
  have hAs:cM A n m:=by have h:=oQ hs hc; rw [hA] at h; exact h
  have hAf:aS A G:=by have h:=hstg c hc; rw [hA] at h; exact h
  have hAl:=hAs.1
  refine cU (cK (eG (ts (rm rfl (ra rfl (eX (ts (rm rfl (ra rfl (eX (cK (eG ?_))))))))))))
  refine bS (fun (p : Nat) => (c ≤ p ∧ p ≤ n) ∧ ∀ r, c ≤ r → r < p → gm A r c = Qi.zero) (fun (p : Nat) => n - p) (fun (p : Nat) => [(0, Is (.slice (some ⟨B, 0, none⟩) n n)), (4, NT .i64 sw), (5, NT .i64 c), (6, NT .i64 p), (12, NT .i64 n), (13, NT .i64 c)]) (fun (p : Nat) => [Z, jD B 29 51 5 vs vs (bL aN A)]) c ⟨⟨Nat.le_refl _, hc⟩, fun r h1 h2 => by omega⟩
   (zS rfl) (cT.refl _) (fun p ⟨⟨hcp,hpn⟩,hz⟩=>?_)
  haveI fp:aD (gm A p c) G:=hAf.get hG1 p c
  refine cK (ts (rm rfl (rm rfl (ro rfl (hJ U_30 (Ht rfl)) (ro rfl (gX (Ht rfl) (Ht rfl)) (rm rfl (fQ rfl rfl (eK rfl rfl (Ht rfl) (fun h=>cX (Ht rfl))) (fQ rfl rfl (eK rfl rfl (Ht rfl) (fun h=>cX (Ht rfl))) (fQ rfl rfl (eK rfl rfl (Ht rfl) (fun h=>fY U_30 Z_29 (fJ rfl h) (fJ rfl h) rfl (by first | omega | (simp at h; omega)) (by rw [Nat.mul_one,Nat.zero_add]))) ?_)))))))))
  refine fQ rfl rfl (eK rfl rfl (Ht rfl) (fun h=>gH A_29 Z_29 (fJ rfl h) (j:=1) rfl (by simp at h; omega))) ?_
  refine fQ rfl rfl (eK rfl rfl (Ht rfl) (fun h=>cX (Ht rfl))) (fQ rfl rfl (eK rfl rfl (Ht rfl) (fun h=>jB U_29 Z_51 (fJ rfl h) (fJ rfl h) rfl (j:=1) rfl zo (by simp at h; omega) (by simp at h; rw [hAs.row h]; omega))) ?_)
  refine fQ rfl rfl (eK rfl rfl (Ht rfl) (fun h=>lU A_51 Z_51 (fJ rfl h) (j:=1) rfl zo (by simp at h; omega) (by simp at h; rw [hAs.row h]; omega))) ?_
  refine fQ rfl rfl (eK rfl rfl (Ht rfl) (fun h=>cC dE (fJ rfl h))) (fQ rfl rfl (eK rfl rfl (Ht rfl) (fun h=>bO Ct Tryz.call27 (Mz (x:=gm A p c) (L:=G) zo) (fJ rfl h) trivial)) (fQ rfl rfl (eK rfl rfl (Ht rfl) (fun h=>eT (fJ rfl h))) (ro rfl (fE (Ht rfl) (fun h=>(fJ rfl h))) (eX (dQ (Ht rfl) (fun he=>?_) (fun he=>?_))))))
  ·have he2 : p < n ∧ gm A p c = Qi.zero := by simpa using he
   refine cU (eG (cY (rm rfl (ro rfl (dV (Ht rfl) (cJ 1) z6) (ra rfl (eX (bA ?_)))))))
   refine fU (p + 1) ⟨⟨by omega, by omega⟩, fun r h1 h2 => by
     by_cases e:r = p
     ·rw [e]; exact he2.2
     ·exact hz r h1 zo⟩ zo (zS rfl) (cT.refl _)
  ·have hpv : pv A c n = p := a1x hcp hpn hz (fun h => by simp at he; exact he h)
   refine gV rfl (cK (ts (rm rfl (rm rfl (ro rfl (hJ U_30 (Ht rfl)) (ro rfl (cR (Ht rfl) (Ht rfl)) (eX (dQ (Ht rfl) (fun hp=>?_) (fun hp=>?_)))))))))
   ·have hp2 : p = n := by simpa using hp
    have hend:=Va hs1 hA (by rw [hpv]; exact hp2) hcn
    refine ts (rm rfl (rm rfl (ra rfl (ra rfl (eX ?_)))))
    exact jM () trivial [0,1] ⟨⟨_,rfl,fun _ _ _ h=>h⟩,⟨_,rfl,(fun S w V h=>bE (by rw [hend]) S w V (Bg (by rw [List.length_map]; omega) S w V h))⟩,trivial⟩ (by decide) (Xh rfl (fX (eU rfl) (kI (by rw [hend]))) (fX (eU rfl) (aR (by rw [hend]))))
   ·have hp2 : p < n := by simp at hp; omega
    have hpz:=(lA (M:=A) (c:=c) (n:=n) hc).2.2.2 (by rw [hpv]; exact hp2)
    rw [hpv] at hpz
    have hnx:=Qn hs1 hA hpv hp2
    refine cU (cK (Yv (fun (q:Nat) (us:List Value) (D:List (List Qi))=>(q = sw + (if p = c then 0 else 1) ∧ D = (if p = c then A else swp [] A p c)) ∧ Ye us n) (fun (q:Nat) (us:List Value) (D:List (List Qi))=>[(0,Is (.slice (some ⟨B,0,none⟩) n n)),(4,NT .i64 q),(5,NT .i64 c),(12,NT .i64 n),(13,NT .i64 c)]) (fun (q:Nat) (us:List Value) (D:List (List Qi))=>[Z,jD B 29 51 5 us us (bL aN D)]) ?_ (fun q us D ⟨⟨hq,hD⟩,hus⟩=>?_)))
    ·refine ts (rm rfl (rm rfl (ro rfl (eO (Ht rfl) (Ht rfl)) (eX (dQ (Ht rfl) (fun hpc => ?_) (fun hpc => ?_))))))
     ·have hpc2 : ¬ p = c := by simpa using hpc
      refine cK (Y.D_start (m:=14) [(13,1,jD B 29 51 5 (vs.set p (hd vs c)) vs (bL aN A))] (Y.D_step (Ei:=[(0,_)]) rfl rfl (bQ (bJ rfl rfl) bX) rfl rfl (by kernel_rfl) (dX rfl (cX (Ht rfl))) (Y.D_step (Ei:=[(6,_)]) rfl rfl (bQ (bJ rfl rfl) bX) rfl rfl (by kernel_rfl) (dX rfl (cX (Ht rfl))) (bY (Ei:=[(0,_)]) rfl rfl (bQ (bJ rfl rfl) bX) rfl rfl (dX rfl (cX (Ht rfl))) (bY (Ei:=[(5,_)]) rfl rfl (bQ (bJ rfl rfl) bX) rfl rfl (dX rfl (cX (Ht rfl))) ?_)))))
      refine Y.D_step (Ei:=[(0,_)]) rfl rfl (bQ (bJ rfl rfl) bX) rfl rfl (by kernel_rfl) (dX rfl (cX (Ht rfl))) (Y.D_step (Ei:=[(5,_)]) rfl rfl (bQ (bJ rfl rfl) bX) rfl rfl (by kernel_rfl) (dX rfl (cX (Ht rfl))) (Y.D_step (Ei:=[(48,_),(49,_)]) rfl rfl (bQ (bZ 4 rfl rfl) (bQ (bZ 5 rfl rfl) bX)) rfl rfl (by kernel_rfl) (dX rfl (fY U_30 Z_29 (Ht rfl) (Ht rfl) rfl zo (by rw [Nat.mul_one,Nat.zero_add]))) ?_))
      refine Y.D_step (Ei:=[(50,_)]) rfl rfl (bQ (bZ 6 rfl rfl) bX) rfl rfl (by kernel_rfl) (dX rfl (gH A_29 Z_29 (Ht rfl) (j:=1) rfl zo)) (Y.D_step (Ei:=[(0,_)]) rfl rfl (bQ (bJ rfl rfl) bX) rfl rfl (by kernel_rfl) (dX rfl (cX (Ht rfl))) (Y.D_step (Ei:=[(6,_)]) rfl rfl (bQ (bJ rfl rfl) bX) rfl rfl (by kernel_rfl) (dX rfl (cX (Ht rfl))) (Y.D_step (Ei:=[(52,_),(53,_)]) rfl rfl (bQ (bZ 8 rfl rfl) (bQ (bZ 9 rfl rfl) bX)) rfl rfl (by kernel_rfl) (dX rfl (fY U_30 Z_29 (Ht rfl) (Ht rfl) rfl zo (by rw [Nat.mul_one,Nat.zero_add]))) ?_)))
      refine Y.D_step (Ei:=[(54,_)]) rfl rfl (bQ (bZ 10 rfl rfl) bX) rfl rfl (by kernel_rfl) (dX rfl (gH A_29 Z_29 (Ht rfl) (j:=1) rfl zo)) (Y.D_step (Ei:=[(44,_),(45,_)]) rfl rfl (bQ (bZ 0 rfl rfl) (bQ (bZ 1 rfl rfl) bX)) rfl rfl (by kernel_rfl) (dX rfl (fY U_30 Z_29 (Ht rfl) (Ht rfl) rfl zo (by rw [Nat.mul_one,Nat.zero_add]))) ?_)
      refine Y.D_putI (Ei:=[(56,_),(51,_)]) 1 rfl rfl rfl (bQ (bZ 12 rfl rfl) (bQ (bZ 7 rfl rfl) bX)) (.head _) rfl (Kk Z_29 (Ht rfl) (Ht rfl) (hvs.pl c zo) (i:=p) (hs:=vs) zo) (Y.D_done aO rfl (by kernel_rfl) rfl (by simp [Y.okP]) rfl rfl (bU (bU (bU (bU (bU (bU (bU (bU (bU (bU (bU (bU (bU (Y.F_putI (Y.F_nil ?_))))))))))))))))
      refine ro rfl (fY U_30 Z_29 (Ht rfl) (Ht rfl) rfl zo (by rw [Nat.mul_one,Nat.zero_add])) ?_
      refine Sm Z_29 (Ht rfl) (Ht rfl) (j:=1) rfl (hvs.pl p zo) (by rw [List.length_set]; omega) rfl ?_
      refine eX (nO 1 rfl (Ea (hs:=swp Bk vs p c) (p:=p) (c:=c) zo zo zo) (cY (rm rfl (ro rfl (dV (Ht rfl) (cJ 1) z6) (ra rfl (eX (bC (sw + 1,swp Bk vs p c,swp [] A p c) ⟨⟨by rw [if_neg hpc2],by rw [if_neg hpc2]⟩,hvs.swp hp2 hcn⟩ (zS rfl) (cT.refl _))))))))
     ·have hpc2 : p = c := by simpa using hpc
      refine cU (bC (sw,vs,A) ⟨⟨by rw [if_pos hpc2]; rfl,by rw [if_pos hpc2]⟩,hvs⟩ (zS rfl) (cT.refl _))
    ·have hul := hus.len
     rw [← hq,← hD] at hnx
     have hDs:cM D n m:=by rw [hD]; split; exact hAs; exact wZ hAs hp2 hcn
     have hDf:aS D G:=by rw [hD]; split; exact hAf; exact zT hAf
     have hDl:=hDs.1
     have hDz : gm D c c ≠ Qi.zero := by
      rw [hD]; split
      ·rename_i e; rw [e] at hpz; exact hpz
      ·show gv (cL (swp [] A p c) c) c ≠ _
       rw [tN zo]; exact hpz
     refine ts (rm rfl (ro rfl (dV (Ht rfl) (cJ 1) z6) (ra rfl (eX (eG ?_)))))
     refine bS (fun (r : Nat) => c < r ∧ r ≤ n) (fun (r : Nat) => n - r) (fun (r : Nat) => [(0, Is (.slice (some ⟨B, 0, none⟩) n n)), (4, NT .i64 q), (5, NT .i64 c), (7, NT .i64 r), (12, NT .i64 n), (13, NT .i64 c)]) (fun (r : Nat) => [Z, jD B 29 51 5 us us (bL aN (redM D c r))]) (c + 1) ⟨Nat.lt_succ_self _, hcn⟩
      (zS rfl) (aU (fun _ _ _ h=>h) (aU (nZ (congrArg _ Ly)) aY)) (fun r ⟨hcr,hrn⟩=>?_)
     refine cK (ts (rm rfl (rm rfl (ro rfl (hJ U_30 (Ht rfl)) (ro rfl (gX (Ht rfl) (Ht rfl)) (eX (dQ (Ht rfl) (fun hr=>?_) (fun hr=>?_))))))))
     ·simp only [decide_eq_true_eq] at hr
      obtain ⟨X,hX⟩:∃ X,X = redM D c r:=⟨_,rfl⟩
      have hXr:cL X r = cL D r:=by rw [hX]; exact wS zo zo
      have hXc:cL X c = cL D c:=by rw [hX]; exact wS zo zo
      have hXl:X.length = n:=by rw [hX,tF]; exact hDl
      have hXrl:(cL X r).length = m:=by rw [hXr]; exact hDs.row hr
      have hXcl:(cL X c).length = m:=by rw [hXc]; exact hDs.row hcn
      have hXrg:(X.getD r []).length = m:=hXrl
      have hXcg:(X.getD c []).length = m:=hXcl
      have hXfr:bP (cL X r) G:=by rw [hXr]; exact hDf.row r
      have hXfc:bP (cL X c) G:=by rw [hXc]; exact hDf.row c
      haveI g1:aD (gm X r c) G:=hXfr.get hG1 c
      haveI g2:aD (gm X c c) G:=hXfc.get hG1 c
      have hXz:gm X c c ≠ Qi.zero:=by show gv (cL X c) c ≠ _; rw [hXc]; exact hDz
      haveI g3:aD (gm X r c / gm X c c) (G + 3 * G + 2):=⟨g1.fit.div g2.fit hXz⟩
      have hend:=Xv (D:=D) (r:=r) (c:=c) zo hcr
      rw [← hX] at hend ⊢
      refine cU (cK (eG (cK (Y.D_start (m:=21) [] (bY (Ei:=[(0,_)]) rfl rfl (bQ (bJ rfl rfl) bX) rfl rfl (dX rfl (cX (Ht rfl))) (bY (Ei:=[(7,_)]) rfl rfl (bQ (bJ rfl rfl) bX) rfl rfl (dX rfl (cX (Ht rfl))) (bY (Ei:=[(69,_),(70,_)]) rfl rfl (bQ (bZ 0 rfl rfl) (bQ (bZ 1 rfl rfl) bX)) rfl rfl (dX rfl (fY U_30 Z_29 (Ht rfl) (Ht rfl) rfl zo (by rw [Nat.mul_one,Nat.zero_add]))) ?_)))))))
      refine bY (Ei:=[(71,_)]) rfl rfl (bQ (bZ 2 rfl rfl) bX) rfl rfl (dX rfl (gH A_29 Z_29 (Ht rfl) (j:=1) rfl zo)) (bY (Ei:=[(5,_)]) rfl rfl (bQ (bJ rfl rfl) bX) rfl rfl (dX rfl (cX (Ht rfl))) (bY (Ei:=[(72,_),(73,_)]) rfl rfl (bQ (bZ 3 rfl rfl) (bQ (bZ 4 rfl rfl) bX)) rfl rfl (dX rfl (jB U_29 Z_51 (Ht rfl) (Ht rfl) rfl (j:=1) rfl zo zo zo)) (bY (Ei:=[(74,_)]) rfl rfl (bQ (bZ 5 rfl rfl) bX) rfl rfl (dX rfl (lU A_51 Z_51 (Ht rfl) (j:=1) rfl zo zo zo)) ?_)))
      refine bY (Ei:=[(75,_)]) rfl rfl (bQ (bZ 6 rfl rfl) bX) rfl rfl (dX rfl (cC dE (Ht rfl))) (bY (Ei:=[(0,_)]) rfl rfl (bQ (bJ rfl rfl) bX) rfl rfl (dX rfl (cX (Ht rfl))) (bY (Ei:=[(5,_)]) rfl rfl (bQ (bJ rfl rfl) bX) rfl rfl (dX rfl (cX (Ht rfl))) (bY (Ei:=[(77,_),(78,_)]) rfl rfl (bQ (bZ 8 rfl rfl) (bQ (bZ 9 rfl rfl) bX)) rfl rfl (dX rfl (fY U_30 Z_29 (Ht rfl) (Ht rfl) rfl zo (by rw [Nat.mul_one,Nat.zero_add]))) ?_)))
      refine bY (Ei:=[(79,_)]) rfl rfl (bQ (bZ 10 rfl rfl) bX) rfl rfl (dX rfl (gH A_29 Z_29 (Ht rfl) (j:=1) rfl zo)) (bY (Ei:=[(5,_)]) rfl rfl (bQ (bJ rfl rfl) bX) rfl rfl (dX rfl (cX (Ht rfl))) (bY (Ei:=[(80,_),(81,_)]) rfl rfl (bQ (bZ 11 rfl rfl) (bQ (bZ 12 rfl rfl) bX)) rfl rfl (dX rfl (jB U_29 Z_51 (Ht rfl) (Ht rfl) rfl (j:=1) rfl zo zo zo)) (bY (Ei:=[(82,_)]) rfl rfl (bQ (bZ 13 rfl rfl) bX) rfl rfl (dX rfl (lU A_51 Z_51 (Ht rfl) (j:=1) rfl zo zo zo)) ?_)))
      refine bY (Ei:=[(76,_),(83,_)]) rfl rfl (bQ (bZ 7 rfl rfl) (bQ (bZ 14 rfl rfl) bX)) rfl rfl (dX rfl (bO sN Tryz.call40 (Gw (x:=gm X r c) (y:=gm X c c) (L:=G) (M:=G) zo) (Ht rfl) ⟨(Ht rfl),trivial⟩)) (bY (Ei:=[(84,_)]) rfl rfl (bQ (bZ 15 rfl rfl) bX) rfl rfl (dX rfl (cX (Ht rfl))) (bY (Ei:=[(68,_)]) rfl rfl (bQ (bZ 16 rfl rfl) bX) rfl rfl (dX rfl (dK (Ht rfl) rfl)) (bY (Ei:=[(68,_)]) rfl rfl (bQ (bZ 16 rfl rfl) bX) rfl rfl (dX rfl (dK (Ht rfl) rfl)) ?_)))
      refine Y.D_newp (Ei:=[]) (fun bb=>box bb 51 [aC (decide ((gm X r c / gm X c c).a < 0)),aE (gm X r c / gm X c c).a.natAbs,aC (decide ((gm X r c / gm X c c).b < 0)),aE (gm X r c / gm X c c).b.natAbs,aE (du (gm X r c / gm X c c))]) 20 rfl rfl rfl bX rfl rfl (by kernel_rfl) (eW (Ts:=[Is (.bool false),Is (.slice none 0 0),Is (.bool false),Is (.slice none 0 0),Is (.slice none 0 0)]) O_51 rfl (fun V=>aW zd (aW zd (aW zd (aW zd (aW zd (aG))))))) ?_
      refine Y.D_putN (Ei:=[(85,_)]) 19 rfl rfl rfl rfl rfl rfl (bQ (bZ 17 rfl rfl) bX) (fun bb=>mE Z_51 (Ht rfl) (Ht rfl) rfl (i:=0) rfl (aK rfl) rfl rfl) (Y.D_done aO rfl (by kernel_rfl) rfl (by simp [Y.okP]) rfl rfl (bU (bU (bU (bU (bU (bU (bU (bU (bU (bU (bU (bU (bU (bU (bU (bU (bU (bU (bU (Y.F_newp (fun B8=>Y.F_putN (Y.F_nil ?_)))))))))))))))))))))))
      refine ra rfl (eX (ts (rm rfl (ro rfl (dV (Ht rfl) (cJ 1) z6) (ra rfl (eX (eG ?_)))))))
      refine bS (fun (k : Nat) => c < k ∧ k ≤ m) (fun (k : Nat) => m - k) (fun (k : Nat) => [(0, Is (.slice (some ⟨B, 0, none⟩) n n)), (4, NT .i64 q), (5, NT .i64 c), (7, NT .i64 r), (8, dA B8 0), (10, NT .i64 k), (12, NT .i64 n), (13, NT .i64 c)]) (fun (k : Nat) => [Z, jD B 29 51 5 us us (bL aN (X.set r (lI (cL X r) (cL X c) c k))), box B8 51 [aC (decide ((gm X r c / gm X c c).a < 0)), aE (gm X r c / gm X c c).a.natAbs, aC (decide ((gm X r c / gm X c c).b < 0)), aE (gm X r c / gm X c c).b.natAbs, aE (du (gm X r c / gm X c c))]]) (c + 1) ⟨Nat.lt_succ_self _, by omega⟩
       (zS rfl) (aU (fun _ _ _ h=>h) (aU (nZ (by rw [← Lz,Xl zo])) (aU (aB rfl) aY))) (fun k ⟨hck,hkm⟩=>?_)
      obtain ⟨Y,hY⟩:∃ Y,Y = (X.set r (lI (cL X r) (cL X c) c k)):=⟨_,rfl⟩
      have hYl:Y.length = n:=by rw [hY,List.length_set]; exact hXl
      have hYrl:(cL Y r).length = m:=by rw [hY,tK zo,wT]; exact hXrl
      have hYcl:(cL Y c).length = m:=by rw [hY,oG zo]; exact hXcl
      have hYrg:(Y.getD r []).length = m:=hYrl
      have hYcg:(Y.getD c []).length = m:=hYcl
      rw [← hY]
      refine cK (ts (rm rfl (rm rfl (rm rfl (ro rfl (fY U_30 Z_29 (Ht rfl) (Ht rfl) rfl zo (by rw [Nat.mul_one,Nat.zero_add])) ?_)))))
      refine ro rfl (gH A_29 Z_29 (Ht rfl) (j:=1) rfl zo) (ro rfl (a0C U_29 (Ht rfl) (j:=1) rfl zo zo) (ro rfl (gX (Ht rfl) (Ht rfl)) (eX (dQ (Ht rfl) (fun hk=>?_) (fun hk=>?_)))))
      ·have hk2 : k < m := by simp only [decide_eq_true_eq] at hk; omega
       have e1:gm Y r k = gv (cL X r) k:=by rw [hY]; exact a3D zo zo hck
       have e2:gm Y c k = gv (cL X c) k:=by rw [hY]; exact a3C zo
       haveI y1:aD (gm Y r k) G:=by rw [e1]; exact hXfr.get hG1 k
       haveI y2:aD (gm Y c k) G:=by rw [e2]; exact hXfc.get hG1 k
       have hst:=Xu (X:=X) (r:=r) (c:=c) (k:=k) zo zo zo hck
       rw [← hY] at hst
       refine cU (cK (eG (fZ (m:=24) (dp 0 rfl (cX (Ht rfl)) (dp 7 rfl (cX (Ht rfl)) (cP 98 0 99 1 rfl (fY U_30 Z_29 (Ht rfl) (Ht rfl) rfl zo (by rw [Nat.mul_one,Nat.zero_add])) ?_))))))
       refine dq 100 2 rfl (gH A_29 Z_29 (Ht rfl) (j:=1) rfl zo) (dp 10 rfl (cX (Ht rfl)) (dp 0 rfl (cX (Ht rfl)) (dp 7 rfl (cX (Ht rfl)) (cP 103 5 104 6 rfl (fY U_30 Z_29 (Ht rfl) (Ht rfl) rfl zo (by rw [Nat.mul_one,Nat.zero_add])) ?_))))
       refine dq 105 7 rfl (gH A_29 Z_29 (Ht rfl) (j:=1) rfl zo) (dp 10 rfl (cX (Ht rfl)) (cP 106 8 107 9 rfl (jB U_29 Z_51 (Ht rfl) (Ht rfl) rfl (j:=1) rfl zo zo zo) (dq 108 10 rfl (lU A_51 Z_51 (Ht rfl) (j:=1) rfl zo zo zo) (dq 109 11 rfl (cC dE (Ht rfl)) (dp 8 rfl (eJ A_51 Z_51 (Ht rfl) (i:=2) rfl rfl rfl) (dq 111 13 rfl (cC dE (Ht rfl)) (dp 0 rfl (cX (Ht rfl)) (dp 5 rfl (cX (Ht rfl)) (cP 113 15 114 16 rfl (fY U_30 Z_29 (Ht rfl) (Ht rfl) rfl zo (by rw [Nat.mul_one,Nat.zero_add])) ?_)))))))))
       refine dq 115 17 rfl (gH A_29 Z_29 (Ht rfl) (j:=1) rfl zo) (dp 10 rfl (cX (Ht rfl)) (cP 116 18 117 19 rfl (jB U_29 Z_51 (Ht rfl) (Ht rfl) rfl (j:=1) rfl zo zo zo) (dq 118 20 rfl (lU A_51 Z_51 (Ht rfl) (j:=1) rfl zo zo zo) (cP 112 14 119 21 rfl (bO fS K_45 (nH (x:=gm X r c / gm X c c) (y:=gm Y c k) (L:=G + 3 * G + 2) (M:=G) zo) (Ht rfl) ⟨(Ht rfl),trivial⟩) (cP 110 12 120 22 rfl (bO lX K_44 (yF (x:=gm Y r k) (y:=gm X r c / gm X c c * gm Y c k) (L:=G) (M:=G + 3 * G + 2 + G + 1) zo) (Ht rfl) ⟨(Ht rfl),trivial⟩) ?_)))))
       refine fV aO rfl (by kernel_rfl) (zF (zF (zF (zF (zF (zF (aV (ro rfl (jB U_29 Z_51 (Ht rfl) (Ht rfl) rfl (j:=1) rfl zo zo zo) (a1d Z_51 (Ht rfl) (Ht rfl) (j:=1) rfl (El.ag rfl) (F:=aN) (z:=gm Y r k - gm X r c / gm X c c * gm Y c k) zo zo zo rfl (eX (bA (cY ?_))))))))))))
       refine rm rfl (ro rfl (dV (Ht rfl) (cJ 1) z6) (ra rfl (eX (fU (k + 1) ⟨by omega,hk2⟩ zo (zS rfl) (aU (fun _ _ _ h=>h) (aU (nZ (congrArg _ hst)) (aU (aB rfl) aY)))))))
      ·have hk3 : k = m := by simp only [decide_eq_false_iff_not] at hk; omega
       subst hk3
       refine gV rfl (bA (cY (rm rfl (ro rfl (dV (Ht rfl) (cJ 1) z6) (ra rfl (eX (cH [0,1] rfl (by decide) (fU (r + 1) ⟨by omega,hr⟩ zo (zS rfl) (aU (fun _ _ _ h=>h) (aU (nZ (by rw [hY,← hend,hDs.row hr])) aY))))))))))
     ·simp only [decide_eq_false_iff_not] at hr
      obtain rfl:r = n:=Nat.le_antisymm hrn zo
      refine gV rfl (bA (cY (ro rfl (dV (Ht rfl) (cJ 1) z6) (rm rfl (eX (fU (c + 1,q,us,redM D c r) ⟨⟨hcn,by show q ≤ c + 1; rw [hq]; split <;> omega⟩,hnx,hus⟩ (by dsimp only; omega) (zS rfl) (cT.refl _)))))))
 ·simp only [decide_eq_false_iff_not] at hcn
  obtain rfl:c = n:=Nat.le_antisymm hc zo
  have hvl:=hvs.len
  have hAs:cM A c m:=by have h:=oQ hs hc; rw [hA] at h; exact h
  refine gV rfl (ts (rm rfl (ra rfl (ro rfl (cQ cV) (eX ?_)))))
  exact jM () trivial [0,1] ⟨⟨_,rfl,fun _ _ _ h=>h⟩,⟨_,rfl,(fun S w V h=>bE (by rw [hA]) S w V (Bg (by rw [List.length_map,hAs.1]; exact hvl) S w V h))⟩,trivial⟩ (by decide) (Xh rfl (fX (eU rfl) (kI (by rw [hA]))) (fX (eU rfl) (aR (by rw [hA]))))
end
section
open Go Go.RowKit
abbrev Au (M bs:List (List Qi)) (i:Nat):List Qi:=cL M i ++ bs.map fun b=>gv b i
def gN (M bs:List (List Qi)) (n:Nat):List (List Qi):=tab n (Au M bs)
theorem Zy {r:List Qi} {bs:List (List Qi)} {i j:Nat} (h:j < bs.length):(r ++ (bs.take j).map fun b=>gv b i) ++ [gv (bs.getD j []) i] = r ++ (bs.take (j + 1)).map fun b=>gv b i:=by
 rw [List.append_assoc,List.take_add_one,List.map_append]
 simp [List.getD,h]
theorem iY {M bs:List (List Qi)} {n m:Nat} (h:cM M n m):cM (gN M bs n) n (m + bs.length):=by
 refine ⟨bI _ _,fun r hr=>?_⟩
 obtain ⟨i,hi,rfl⟩:=iT.1 hr
 rw [List.length_append,List.length_map,h.row hi]
theorem qD {M bs : List (List Qi)} {n L : Nat} (h : aS M L) (hb : aS bs L) (hL : 1 ≤ L) : aS (gN M bs n) L := fun r hr x hx => by
 obtain ⟨i,hi,rfl⟩:=iT.1 hr
 rcases List.mem_append.1 hx with h1 | h1
 ·exact h.row i x h1
 ·obtain ⟨b, hb1, rfl⟩ := List.mem_map.1 h1
  exact bP.get (hb b hb1) hL i
theorem Qk {M:List (List Qi)} {n m:Nat} (h:cM M n m):gN M [] n = M:=by
 have:gN M [] n = tab n (cL M):=cF fun i _=>by simp [Au]
 rw [this]; exact (yB (h:=h.1)).symm
def nR (U : List (List Qi)) (x : List Qi) (n c : Nat) : Nat → Qi
 | 0=>gm U c n
 | k + 1=>nR U x n c k - gm U c (c + 1 + k) * gv x (c + 1 + k)
def nA (U : List (List Qi)) (n : Nat) : Nat → List Qi
 | 0=>tab n fun _=>Qi.zero
 | j + 1=>(nA U n j).set (n - (j + 1)) (nR U (nA U n j) n (n - (j + 1)) j / gm U (n - (j + 1)) (n - (j + 1)))
theorem qW (U : List (List Qi)) (n : Nat) : ∀ j, (nA U n j).length = n
 | 0=>bI _ _
 | j + 1=>by rw [nA,List.length_set,qW U n j]
def rO (M:List (List Qi)) (b:List Qi) (n:Nat):List (List Qi) × Nat × Int:=cI (gN M [b] n) n
def kU (M:List (List Qi)) (b:List Qi) (n:Nat):Int:=if 0 ≤ (rO M b n).2.2 then 6 else 0
def kL (M:List (List Qi)) (b:List Qi) (n:Nat):List Qi:=nA (rO M b n).1 n n
def Pp (G : Nat) : Nat → Nat
 | 0=>G
 | j + 1=>j * (Pp G j + G + 2) + 4 * G + 2
theorem Ci (G j:Nat):Pp G j ≤ Pp G (j + 1):=by
 cases j with
 | zero=>simp only [Pp]; omega
 | succ j =>
  have:Pp G (j + 1) + G + 2 ≤ (j + 1) * (Pp G (j + 1) + G + 2):=Nat.le_mul_of_pos_left _ zo
  rw [show Pp G (j + 1 + 1) = (j + 1) * (Pp G (j + 1) + G + 2) + 4 * G + 2 from rfl]
  omega
theorem Mm (G : Nat) : ∀ j, G ≤ Pp G j
 | 0=>Nat.le_refl _
 | j + 1=>Nat.le_trans (Mm G j) (Ci G j)
theorem Kf (G : Nat) : ∀ {i j : Nat}, i ≤ j → Pp G i ≤ Pp G j
 | i,0,h=>by rw [show i = 0 by omega]; exact Nat.le_refl _
 | i, j + 1, h => by
  by_cases e:i = j + 1
  ·rw [e]; exact Nat.le_refl _
  ·exact Nat.le_trans (Kf G (show i ≤ j by omega)) (Ci G j)
theorem qF {M : List (List Qi)} {n m : Nat} (hs : cM M n m) : ∀ {c : Nat}, c ≤ n → (cI M c).2.2 < 0 → ∀ i, i < c → gm (cI M c).1 i i ≠ Qi.zero
 | 0,_,_,i,hi=>by omega
 | c + 1, hc, hst, i, hi => by
  have sh:=oQ hs (c:=c) zo
  obtain ⟨_,i2,i3,i4⟩:=lA (M:=(cI M c).1) (c:=c) (n:=M.length) (by rw [hs.1]; omega)
  simp only [cI] at hst ⊢
  split at hst
  ·rename_i h0; omega
  ·rename_i h0
   rw [if_neg h0]
   split at hst
   ·simp at hst; omega
   ·rename_i h1
    rw [if_neg h1]
    have ih:=qF hs (c:=c) zo zo
    have hl : ∀ X : List (List Qi), X.length = n → gm (redM X c M.length) i i = gm X i i := fun X hX => by
     show gv (cL (redM X c M.length) i) i = _
     rw [wS zo zo]
    by_cases e:pv (cI M c).1 c M.length = c
    ·rw [if_pos e, hl _ sh.1]
     by_cases e2:i = c
     ·rw [e2]; have:=i4 (by have:=hs.1; omega); rw [e] at this; exact this
     ·exact ih i zo
    ·have hpl : pv (cI M c).1 c M.length < n := by rw [← hs.1]; omega
     rw [if_neg e,hl _ ((wY _ _ _ _).trans sh.1)]
     by_cases e2:i = c
     ·rw [e2]
      show gv (cL (swp [] _ _ c) c) c ≠ _
      rw [tN (by rw [sh.1]; omega)]
      exact i4 (by have:=hs.1; omega)
     ·have : cL (swp [] (cI M c).1 (pv (cI M c).1 c M.length) c) i = cL (cI M c).1 i := by
       simp only [cL,swp,List.getD]
       rw [List.getElem?_set_ne (Ne.symm e2),List.getElem?_set_ne zo]
      show gv (cL (swp [] _ _ c) i) i ≠ _
      rw [this]; exact ih i zo
theorem zR {U : List (List Qi)} {x : List Qi} {n c G X : Nat} (hU : aS U G) (hx : bP x X) (hG : 1 ≤ G) (hX : 1 ≤ X) : ∀ k, aD (nR U x n c k) (G + k * (G + X + 2))
 | 0=>(hU.get hG c n).le zo
 | k + 1 => by
  haveI f1:=zR (n:=n) (c:=c) hU hx hG hX k
  haveI f2:=hU.get hG c (c + 1 + k)
  haveI f3:=hx.get hX (c + 1 + k)
  have:aD (nR U x n c (k + 1)) (G + k * (G + X + 2) + (G + X + 1) + 1):=by unfold nR; infer_instance
  exact this.le (by rw [Nat.add_mul]; omega)
theorem a1W {U:List (List Qi)} {x:List Qi} {n c G X j:Nat} (hU:aS U G) (hx:bP x X) (hG:1 ≤ G) (hX:1 ≤ X) (hz:gm U c c ≠ Qi.zero):aD (nR U x n c j / gm U c c) (j * (X + G + 2) + 4 * G + 2):=by
 have f1:=zR (n:=n) (c:=c) hU hx hG hX j
 have f2:=hU.get hG c c
 have:aD (nR U x n c j / gm U c c) (G + j * (G + X + 2) + 3 * G + 2):=⟨f1.fit.div f2.fit hz⟩
 exact this.le (by rw [Nat.add_comm X G]; omega)
theorem Te {U : List (List Qi)} {n G : Nat} (hU : aS U G) (hG : 1 ≤ G) (hz : ∀ i, i < n → gm U i i ≠ Qi.zero) : ∀ j, j ≤ n → bP (nA U n j) (Pp G j)
 | 0,_=>bP.tab fun _ _=>aD.zero hG
 | j + 1, hj => fun y hy => by
  have ih:=Te hU hG hz j zo
  rcases List.mem_or_eq_of_mem_set hy with h1 | h1
  ·exact (ih y h1).le (Ci G j)
  ·rw [h1]; exact a1W hU ih hG (Nat.le_trans hG (Mm G j)) (hz _ zo)
theorem Xq {M:List (List Qi)} {b:List Qi} {n:Nat} (h:cM M n n):cM (rO M b n).1 n (n + 1):=oQ (iY h) (Nat.le_refl n)
theorem Xp {M:List (List Qi)} {b:List Qi} {n L:Nat} (h:cM M n n) (hM:aS M L) (hb:bP b L) (hL:1 ≤ L):aS (rO M b n).1 (sH L n):=Ax (iY h) (qD hM (fun r hr=>by simp at hr; subst hr; exact hb) hL) hL (Nat.le_refl n)
def uU (n i:Nat):List Qi:=(tab n fun _=>Qi.zero).set i (Qi.ofInt 1)
def sI (n:Nat):List (List Qi):=tab n (uU n)
theorem pO (n:Nat):cM (sI n) n n:=⟨bI _ _,fun r hr=>by obtain ⟨i,_,rfl⟩:=iT.1 hr; rw [uU,List.length_set,bI]⟩
theorem pM:aD (Qi.ofInt 1) 1:=⟨Qi.Fit.int (L:=1) (by decide) (by decide)⟩
theorem Rx {n i L : Nat} (h : 1 ≤ L) : bP (uU n i) L := fun x hx => by
 rcases List.mem_or_eq_of_mem_set hx with h1 | h1
 ·obtain ⟨_,_,rfl⟩:=iT.1 h1; exact aD.zero h
 ·rw [h1]; exact pM.le h
theorem a0c {n L:Nat} (h:1 ≤ L):aS (sI n) L:=fun r hr=>by obtain ⟨i,_,rfl⟩:=iT.1 hr; exact Rx h
theorem Ph {M:List (List Qi)} {b:List Qi} {n:Nat} (h:¬ 0 ≤ (rO M b n).2.2):(rO M b n).2.2 < 0:=by omega
theorem Gj (F:Qi → Ty) (n:Nat):List.replicate n (F Qi.zero) = (tab n fun _=>Qi.zero).map F:=by rw [zU,Pc]
theorem a3j {n j:Nat} (h:(0:Int) ≤ (n:Int) - 1 - (j:Int)):j < n:=by omega
theorem a3k {n j:Nat} (h:(n:Int) - 1 - (j:Int) < 0):n ≤ j:=by omega
end
end Go.Proofs.YteohomnhncjcnaaGreat
