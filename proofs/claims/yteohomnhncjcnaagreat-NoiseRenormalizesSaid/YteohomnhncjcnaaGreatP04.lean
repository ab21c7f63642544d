/- What functions of the program compute, proved by walks over their code, and the plain mathematics of it; a part of the proof in the last text. -/
import Derived.Test.YteohomnhncjcnaaGreatP03
set_option linter.unusedVariables false
set_option linter.unusedSimpArgs false
set_option maxRecDepth 100000
set_option maxHeartbeats 4000000
namespace Go.Proofs.YteohomnhncjcnaaGreat
section
open Go Go.RowKit
theorem oR {b:Bool} {m:Nat}:bE Tryz.prog 266 [aD b,aH m] (eP (Cu b m)):=by
 refine bE.intro Tryz.func266 rfl Tryz.ntmps266 rfl (fun cx=>(ts (rn rfl (eG (Ts:=[Is (.bool false),Is (.slice none 0 0)]) O_129 rfl (fun V=>aW zd (aW zd (aG)))) fun B4=>(eZ (ts (rm rfl (rm rfl (fX rfl rfl (eU rfl rfl (Ht rfl) (fun h=>cZ (Ht rfl))) (fX rfl rfl (eU rfl rfl (Ht rfl) (fun h=>dK U_46 (fV rfl h) aA)) (fX rfl rfl (eU rfl rfl (Ht rfl) (fun h=>eH (fV rfl h) (cV 0))) (ro rfl (fC (Ht rfl) (fun h=>(fV rfl h))) (rm rfl ?_))))))))))))
 refine ro rfl (nS (Ht rfl) (Ht rfl)) (gX Z_129 (Ht rfl) (Ht rfl) rfl (i:=0) rfl (aK rfl) rfl rfl (eZ (fG rfl (fZ (fU A_129 Z_129 rfl (i:=0) rfl rfl) ?_))))
 exact a24
theorem zQ {n:Int} (h1:-9223372036854775808 ≤ n) (h2:n ≤ 9223372036854775807):bE Tryz.prog 227 [aT .i64 n] (eP n):=by
 refine bE.intro Tryz.func227 rfl Tryz.ntmps227 rfl (fun cx=>(ts (rn rfl (eG (Ts:=[Is (.bool false),Is (.slice none 0 0)]) O_129 rfl (fun V=>aW zd (aW zd (aG)))) fun B2=>(eZ (cU (ts (rm rfl (ro rfl (tX (Ht rfl) cW) (eZ (dX (Ht rfl) (fun hb=>?_) (fun hb=>?_)))))))))))
 ·have hn : n < 0 := by simpa using hb
  refine ts (rm rfl (ro rfl (a1C (Ht rfl) (r:=IntKind.i64.wrap (-n)) rfl) ?_))
  refine ro rfl (xQ U_2 U_254 (Ht rfl) (r:=((n.natAbs:Nat):Int)) (by rw [IntKind.wrap_u64,IntKind.wrap_i64]; omega)) ?_
  refine ro rfl (cJ Tryz.call268 (Fd zo) ⟨(Ht rfl),trivial⟩) (ro rfl (nS cW (Ht rfl)) (gX Z_129 (Ht rfl) (Ht rfl) rfl (i:=0) rfl (aK rfl) rfl rfl (eZ (fG rfl (fZ (fU A_129 Z_129 rfl (i:=0) rfl rfl) ?_)))))
  exact (oP (by rw [hb]; rfl))
 ·have hn : ¬ n < 0 := by simpa using hb
  refine cY (ts (rm rfl (ro rfl (xQ U_2 U_254 (Ht rfl) (r:=((n.natAbs:Nat):Int)) (by rw [IntKind.wrap_u64]; omega)) ?_)))
  refine ro rfl (cJ Tryz.call268 (Fd zo) ⟨(Ht rfl),trivial⟩) (ro rfl (nS cW (Ht rfl)) (gX Z_129 (Ht rfl) (Ht rfl) rfl (i:=0) rfl (aK rfl) rfl rfl (eZ (fG rfl (fZ (fU A_129 Z_129 rfl (i:=0) rfl rfl) ?_)))))
  exact (oP (by rw [hb]; rfl))
theorem qN {x:Int}:bE Tryz.prog 228 [eP x] (eP (-x)):=by
 refine bE.intro Tryz.func228 rfl Tryz.ntmps228 rfl (fun cx=>(ts (rn rfl (fK (Ht rfl)) fun B1=>(rn rfl (eG (Ts:=[Is (.bool false),Is (.slice none 0 0)]) O_129 rfl (fun V=>aW zd (aW zd (aG)))) fun B2=>(eZ (ts (ro rfl (eJ kH (Ht rfl) rfl) (ro rfl (fQ A_4 Z_4 (Ht rfl) (i:=0) rfl rfl) (ro rfl (dR (Ht rfl)) (ro rfl (eJ fA (Ht rfl) rfl) (ro rfl (fQ A_46 Z_46 (Ht rfl) (i:=0) rfl rfl) (ro rfl (cJ K_266 oR ⟨(Ht rfl),(Ht rfl),trivial⟩) ?_))))))))))))
 refine gX Z_129 (Ht rfl) (Ht rfl) rfl (i:=1) rfl (aK rfl) rfl rfl (eZ (fG rfl (fZ (fU A_129 Z_129 rfl (i:=1) rfl rfl) ?_)))
 exact (mH (Jm x))
theorem wY {x y:Int} (hx:(dg x.natAbs).length ≤ 17592186044416) (hy:(dg y.natAbs).length ≤ 17592186044416):bE Tryz.prog 230 [eP x,eP y] (eP (x + y)):=by
 refine bE.intro Tryz.func230 rfl Tryz.ntmps230 rfl (fun cx=>(ts (rn rfl (fK (Ht rfl)) fun B2=>(rn rfl (fK (Ht rfl)) fun B3=>(rn rfl (eG (Ts:=[Is (.bool false),Is (.slice none 0 0)]) O_129 rfl (fun V=>aW zd (aW zd (aG)))) fun B4=>(eZ (cU (ts (ro rfl (eJ kH (Ht rfl) rfl) (ro rfl (fQ A_4 Z_4 (Ht rfl) (i:=0) rfl rfl) (ro rfl (eJ kH (Ht rfl) rfl) (ro rfl (fQ A_4 Z_4 (Ht rfl) (i:=1) rfl rfl) (ro rfl (a1x U_4 (Ht rfl) (Ht rfl)) ?_)))))))))))))
 refine eZ (dX (Ht rfl) (fun hb=>?_) (fun hb=>?_))
 ·have he : decide (x < 0) = decide (y < 0) := by simpa using hb
  refine cU (fJ (m:=7) (dp 2 rfl (eJ kH (Ht rfl) rfl) (dq 10 0 rfl (fQ A_4 Z_4 (Ht rfl) (i:=0) rfl rfl) (dp 2 rfl (eJ fA (Ht rfl) rfl) (dq 12 2 rfl (fQ A_46 Z_46 (Ht rfl) (i:=0) rfl rfl) (dp 3 rfl (eJ fA (Ht rfl) rfl) (dq 14 4 rfl (fQ A_46 Z_46 (Ht rfl) (i:=1) rfl rfl) (cP 13 3 15 5 rfl (cJ Tryz.call269 (Xf zo zo) ⟨(Ht rfl),(Ht rfl),trivial⟩) (fW aL rfl (by kernel_rfl) (zF (aJ (aJ (aJ (aV ?_))))))))))))))
  refine ro rfl (cJ K_266 oR ⟨(Ht rfl),(Ht rfl),trivial⟩) (gX Z_129 (Ht rfl) (Ht rfl) rfl (i:=2) rfl (aK rfl) rfl rfl (eZ (fG rfl (fZ (fU A_129 Z_129 rfl (i:=2) rfl rfl) ?_))))
  exact (mH (Ps he))
 ·have he : decide (x < 0) ≠ decide (y < 0) := by simpa using hb
  refine cY (cU (ts (ro rfl (eJ fA (Ht rfl) rfl) (ro rfl (fQ A_46 Z_46 (Ht rfl) (i:=0) rfl rfl) (ro rfl (eJ fA (Ht rfl) rfl) (ro rfl (fQ A_46 Z_46 (Ht rfl) (i:=1) rfl rfl) (ro rfl (cJ Tryz.call237 (Ij zo zo) ⟨(Ht rfl),(Ht rfl),trivial⟩) (ro rfl (mV (Ht rfl) cW) (eZ (dX (Ht rfl) (fun hc=>?_) (fun hc=>?_)))))))))))
  ·have hle : y.natAbs ≤ x.natAbs := Kq (by simpa using hc)
   refine cU (fJ (m:=7) (dp 2 rfl (eJ kH (Ht rfl) rfl) (dq 24 0 rfl (fQ A_4 Z_4 (Ht rfl) (i:=0) rfl rfl) (dp 2 rfl (eJ fA (Ht rfl) rfl) (dq 26 2 rfl (fQ A_46 Z_46 (Ht rfl) (i:=0) rfl rfl) (dp 3 rfl (eJ fA (Ht rfl) rfl) (dq 28 4 rfl (fQ A_46 Z_46 (Ht rfl) (i:=1) rfl rfl) (cP 27 3 29 5 rfl (cJ Tryz.call270 (Ik zo zo) ⟨(Ht rfl),(Ht rfl),trivial⟩) (fW aL rfl (by kernel_rfl) (zF (aJ (aJ (aJ (aV ?_))))))))))))))
   refine ro rfl (cJ K_266 oR ⟨(Ht rfl),(Ht rfl),trivial⟩) (gX Z_129 (Ht rfl) (Ht rfl) rfl (i:=2) rfl (aK rfl) rfl rfl (eZ (fG rfl (fZ (fU A_129 Z_129 rfl (i:=2) rfl rfl) ?_))))
   exact (mH (Au he hle))
  ·have hle : x.natAbs ≤ y.natAbs := Nat.le_of_lt (Kr (by simpa using hc))
   refine cY (cU (fJ (m:=7) (dp 3 rfl (eJ kH (Ht rfl) rfl) (dq 32 0 rfl (fQ A_4 Z_4 (Ht rfl) (i:=1) rfl rfl) (dp 3 rfl (eJ fA (Ht rfl) rfl) (dq 34 2 rfl (fQ A_46 Z_46 (Ht rfl) (i:=1) rfl rfl) (dp 2 rfl (eJ fA (Ht rfl) rfl) (dq 36 4 rfl (fQ A_46 Z_46 (Ht rfl) (i:=0) rfl rfl) (cP 35 3 37 5 rfl (cJ Tryz.call270 (Ik zo zo) ⟨(Ht rfl),(Ht rfl),trivial⟩) (fW aL rfl (by kernel_rfl) (zF (aJ (aJ (aJ (aV ?_)))))))))))))))
   refine ro rfl (cJ K_266 oR ⟨(Ht rfl),(Ht rfl),trivial⟩) (gX Z_129 (Ht rfl) (Ht rfl) rfl (i:=2) rfl (aK rfl) rfl rfl (eZ (fG rfl (fZ (fU A_129 Z_129 rfl (i:=2) rfl rfl) ?_))))
   exact (mH (by rw [Au (Ne.symm he) hle,Int.add_comm]))
theorem Xe {x y:Int} (hx:(dg x.natAbs).length ≤ 17592186044416) (hy:(dg y.natAbs).length ≤ 17592186044416):bE Tryz.prog 229 [eP x,eP y] (eP (x + -y)):=by
 have hny:=tQ y
 refine bE.intro Tryz.func229 rfl Tryz.ntmps229 rfl (fun cx=>(ts (rn rfl (fK (Ht rfl)) fun B2=>(rn rfl (fK (Ht rfl)) fun B3=>(rn rfl (eG (Ts:=[Is (.bool false),Is (.slice none 0 0)]) O_129 rfl (fun V=>aW zd (aW zd (aG)))) fun B4=>(eZ (cU (fJ (m:=3) (dp 2 rfl (eW A_129 Z_129 (Ht rfl) (i:=0) rfl rfl rfl) (dp 3 rfl (eW A_129 Z_129 (Ht rfl) (i:=1) rfl rfl rfl) (dq 6 1 rfl (cJ K_228 qN ⟨(Ht rfl),trivial⟩) (fW aL rfl (by kernel_rfl) (aJ (aJ (aJ (aV ?_))))))))))))))))
 refine ro rfl (cJ Tryz.call230 (wY zo zo) ⟨(Ht rfl),(Ht rfl),trivial⟩) (gX Z_129 (Ht rfl) (Ht rfl) rfl (i:=2) rfl (aK rfl) rfl rfl (eZ ?_))
 exact fG rfl (fU A_129 Z_129 rfl (i:=2) rfl rfl)
theorem lQ {x y:Int} (hx:(dg x.natAbs).length ≤ 17592186044416) (hy:(dg y.natAbs).length ≤ 17592186044416):bE Tryz.prog 225 [eP x,eP y] (eP (x * y)):=by
 refine bE.intro Tryz.func225 rfl Tryz.ntmps225 rfl (fun cx=>(ts (rn rfl (fK (Ht rfl)) fun B2=>(rn rfl (fK (Ht rfl)) fun B3=>(rn rfl (eG (Ts:=[Is (.bool false),Is (.slice none 0 0)]) O_129 rfl (fun V=>aW zd (aW zd (aG)))) fun B4=>(eZ (cU (fJ (m:=10) (dp 2 rfl (eJ kH (Ht rfl) rfl) (dq 5 0 rfl (fQ A_4 Z_4 (Ht rfl) (i:=0) rfl rfl) (dp 3 rfl (eJ kH (Ht rfl) rfl) (dq 7 2 rfl (fQ A_4 Z_4 (Ht rfl) (i:=1) rfl rfl) (cP 6 1 8 3 rfl (a1y U_4 (Ht rfl) (Ht rfl)) ?_)))))))))))))
 refine dp 2 rfl (eJ fA (Ht rfl) rfl) (dq 10 5 rfl (fQ A_46 Z_46 (Ht rfl) (i:=0) rfl rfl) (dp 3 rfl (eJ fA (Ht rfl) rfl) (dq 12 7 rfl (fQ A_46 Z_46 (Ht rfl) (i:=1) rfl rfl) (cP 11 6 13 8 rfl (cJ Tryz.call226 (wZ zo zo) ⟨(Ht rfl),(Ht rfl),trivial⟩) (fW aL rfl (by kernel_rfl) (zF (zF (aJ (aJ (aV (ro rfl (cJ K_266 oR ⟨(Ht rfl),(Ht rfl),trivial⟩) (gX Z_129 (Ht rfl) (Ht rfl) rfl (i:=2) rfl (aK rfl) rfl rfl ?_))))))))))))
 refine eZ (fG rfl (fZ (fU A_129 Z_129 rfl (i:=2) rfl rfl) ?_))
 exact (mH (Jo x y))
theorem zR {A B:Int} {D:Nat} (hD:0 < D) (hA:(dg A.natAbs).length ≤ 17592186044415) (hB:(dg B.natAbs).length ≤ 17592186044415) (hD2:(dg D).length ≤ 17592186044415):bE Tryz.prog 224 [eP A,eP B,aH D] (QT (Qi.mk' A B D)):=by
 have hg1:=Fn hA hB
 have hg2:=Fn hg1 hD2
 have hgp:Nat.gcd (Nat.gcd A.natAbs B.natAbs) D ≠ 0:=fun e=>by have:=Nat.gcd_eq_zero_iff.1 e; omega
 refine bE.intro Tryz.func224 rfl Tryz.ntmps224 rfl (fun cx=>(ts (rn rfl (fK (Ht rfl)) fun B3=>(rn rfl (fK (Ht rfl)) fun B4=>(rn rfl (eG (Ts:=[Is (.bool false),Is (.slice none 0 0),Is (.bool false),Is (.slice none 0 0),Is (.slice none 0 0)]) O_131 rfl (fun V=>aW zd (aW zd (aW zd (aW zd (aW zd (aG))))))) fun B6=>(eZ (ts (ro rfl (eJ fA (Ht rfl) rfl) (ro rfl (fQ A_46 Z_46 (Ht rfl) (i:=0) rfl rfl) ?_)))))))))
 refine ro rfl (eJ fA (Ht rfl) rfl) (ro rfl (fQ A_46 Z_46 (Ht rfl) (i:=1) rfl rfl) (ro rfl (cJ Tryz.call264 (Rh zo zo) ⟨(Ht rfl),(Ht rfl),trivial⟩) (rm rfl (ro rfl (cJ Tryz.call264 (Rh zo zo) ⟨(Ht rfl),(Ht rfl),trivial⟩) (ra rfl (eZ (cU (ts (rm rfl (ro rfl (dK U_46 (Ht rfl) aA) (ro rfl (cT (Ht rfl) (cV 1)) (rm rfl (fX rfl rfl (eU rfl rfl (Ht rfl) (fun h=>cZ (Ht rfl))) (fX rfl rfl (eU rfl rfl (Ht rfl) (fun h=>dJ U_46 Z_189 (fV rfl h) (cV 0) rfl (eQ (aO (by first | omega | (simp at h; omega)))))) ?_))))))))))))))
 refine fX rfl rfl (eU rfl rfl (Ht rfl) (fun h=>dV A_189 Z_189 (fV rfl h))) (fX rfl rfl (eU rfl rfl (Ht rfl) (fun h=>cT (fV rfl h) (cV 1))) (ro rfl (fC (Ht rfl) (fun h=>(fV rfl h))) (eZ (dX (Ht rfl) (fun hb=>?_) (fun hb=>?_)))))
 ·rw [Ln] at hb
  have hg:Qi.g3 A B D = 1:=by simpa [Qi.g3] using hb
  refine ts (ro rfl (eW A_129 Z_129 (Ht rfl) (i:=0) rfl rfl rfl) (ro rfl (eW A_129 Z_129 (Ht rfl) (i:=1) rfl rfl rfl) (rm rfl (ro rfl (mY (Ht rfl) (Ht rfl) (Ht rfl)) (gX Z_131 (Ht rfl) (Ht rfl) rfl (i:=2) rfl (aK rfl) rfl rfl (eZ (fG rfl (fZ (fU A_131 Z_131 rfl (i:=2) rfl rfl) ?_))))))))
  exact (a1k hD hg)
 ·refine cY (ts (ro rfl (eJ fA (Ht rfl) rfl) (ro rfl (fQ A_46 Z_46 (Ht rfl) (i := 0) rfl rfl) (rm rfl (ro rfl (cJ K_265 (Bl zo zo zo) ⟨(Ht rfl), (Ht rfl), trivial⟩) (rm rfl (ro rfl (dU (Ht rfl) rfl) (ro rfl (dU (Ht rfl) rfl) (ra rfl (ra rfl (eZ (ts (ro rfl (eJ fA (Ht rfl) rfl) (ro rfl (fQ A_46 Z_46 (Ht rfl) (i := 1) rfl rfl) (rm rfl (ro rfl (cJ K_265 (Bl zo zo zo) ⟨(Ht rfl), (Ht rfl), trivial⟩) (rm rfl (ro rfl (dU (Ht rfl) rfl) ?_))))))))))))))))))
  refine ro rfl (dU (Ht rfl) rfl) (ra rfl (ra rfl (eZ (ts (rm rfl (rm rfl (ro rfl (cJ K_265 (Bl zo zo zo) ⟨(Ht rfl),(Ht rfl),trivial⟩) (rm rfl (ro rfl (dU (Ht rfl) rfl) (ro rfl (dU (Ht rfl) rfl) (ra rfl (ra rfl (eZ (cU (fJ (m:=9) (dp 3 rfl (eJ kH (Ht rfl) rfl) (dq 54 0 rfl (fQ A_4 Z_4 (Ht rfl) (i:=0) rfl rfl) (dp 8 rfl (cZ (Ht rfl)) (cP 55 1 56 2 rfl (cJ K_266 oR ⟨(Ht rfl),(Ht rfl),trivial⟩) (dp 4 rfl (eJ kH (Ht rfl) rfl) ?_))))))))))))))))))))
  refine dq 58 4 rfl (fQ A_4 Z_4 (Ht rfl) (i:=1) rfl rfl) (dp 10 rfl (cZ (Ht rfl)) (cP 59 5 60 6 rfl (cJ K_266 oR ⟨(Ht rfl),(Ht rfl),trivial⟩) (dp 12 rfl (cZ (Ht rfl)) (fW aL rfl (by kernel_rfl) (zF (zF (aJ (aV (ro rfl (mY (Ht rfl) (Ht rfl) (Ht rfl)) (gX Z_131 (Ht rfl) (Ht rfl) rfl (i:=2) rfl (aK rfl) rfl rfl (eZ (fG rfl (fZ (fU A_131 Z_131 rfl (i:=2) rfl rfl) ?_)))))))))))))
  exact (a1l hD rfl)
theorem rD {n:Int} (h1:-9223372036854775808 ≤ n) (h2:n ≤ 9223372036854775807):bE Tryz.prog 148 [aT .i64 n] (QT (Qi.ofInt n)):=by
 refine bE.intro Tryz.func148 rfl Tryz.ntmps148 rfl (fun cx=>(ts (rn rfl (eG (Ts:=[Is (.bool false),Is (.slice none 0 0),Is (.bool false),Is (.slice none 0 0),Is (.slice none 0 0)]) O_131 rfl (fun V=>aW zd (aW zd (aW zd (aW zd (aW zd (aG))))))) fun B2=>(eZ (ts (rm rfl (ro rfl (cJ Tryz.call227 (zQ h1 h2) ⟨(Ht rfl),trivial⟩) (ro rfl (Mo ) (ro rfl (dB (xs:=[_]) U_46 Z_189 O_189 (cG (cV 1) cK) rfl rfl rfl) ?_)))))))))
 refine ro rfl (mY (Ht rfl) (Ht rfl) (Ht rfl)) (gX Z_131 (Ht rfl) (Ht rfl) rfl (i:=0) rfl (aK rfl) rfl rfl (eZ (fG rfl (fZ (fU A_131 Z_131 rfl (i:=0) rfl rfl) ?_))))
 exact a7N
theorem a0v {p q d:Int} (p1:-9223372036854775808 ≤ p) (p2:p ≤ 9223372036854775807) (q1:-9223372036854775808 ≤ q) (q2:q ≤ 9223372036854775807) (d1:-9223372036854775808 ≤ d) (d2:d ≤ 9223372036854775807) (hd:d ≠ 0):bE Tryz.prog 145 [aT .i64 p,aT .i64 q,aT .i64 d] (eS [QT (Qi.frac p q d),aT .i64 0]):=by
 have lp:=Xs p1 p2; have lq:=Xs q1 q2; have ld:=Xs d1 d2; have np:=tQ p; have nq:=tQ q
 refine bE.intro Tryz.func145 rfl Tryz.ntmps145 rfl (fun cx=>(ts (rn rfl (eG (Ts:=[Is (.bool false),Is (.slice none 0 0),Is (.bool false),Is (.slice none 0 0),Is (.slice none 0 0)]) O_131 rfl (fun V=>aW zd (aW zd (aW zd (aW zd (aW zd (aG))))))) fun B6=>(ro rfl (cX (cV 0)) (eZ (cU (ts (rm rfl (ro rfl (kN (Ht rfl) cW) (eZ (iA (Ht rfl) (by simp [hd]) ?_)))))))))))
 refine cY (ts (rm rfl (ro rfl (cJ Tryz.call227 (zQ d1 d2) ⟨(Ht rfl),trivial⟩) (rn rfl (eG (Ts:=[Is (.bool false),Is (.slice none 0 0)]) O_129 rfl (fun V=>aW zd (aW zd (aG)))) fun B8=>(gX Z_129 (Ht rfl) (Ht rfl) rfl (i:=1) rfl (aK rfl) rfl rfl (eZ (ts (rm rfl (ro rfl (cJ Tryz.call227 (zQ p1 p2) ⟨(Ht rfl),trivial⟩) (rm rfl (ro rfl (cJ Tryz.call227 (zQ q1 q2) ⟨(Ht rfl),trivial⟩) (rn rfl (eG (Ts:=[Is (.bool false),Is (.slice none 0 0)]) O_129 rfl (fun V=>aW zd (aW zd (aG)))) fun B9=>?_))))))))))))
 refine rn rfl (eG (Ts:=[Is (.bool false),Is (.slice none 0 0)]) O_129 rfl (fun V=>aW zd (aW zd (aG)))) fun B10=>gX Z_129 (Ht rfl) (Ht rfl) rfl (i:=2) rfl (aK rfl) rfl rfl (gX Z_129 (Ht rfl) (Ht rfl) rfl (i:=3) rfl (aK rfl) rfl rfl (eZ (cU (rR (fun (a:Int) (b:Int)=>Qi.mk' a b d.natAbs = Qi.frac p q d ∧ (dg a.natAbs).length ≤ 2 ∧ (dg b.natAbs).length ≤ 2) (fun (a:Int) (b:Int)=>[(6,cC B6 0),(8,cC B8 0),(9,cC B9 0),(10,cC B10 0)]) (fun (a:Int) (b:Int)=>[box B6 131 [Is (.bool false),Is (.slice none 0 0),Is (.bool false),Is (.slice none 0 0),Is (.slice none 0 0)],box B8 129 [aD (decide (d < 0)),aH (d).natAbs],box B9 129 [aD (decide (a < 0)),aH (a).natAbs],box B10 129 [aD (decide (b < 0)),aH (b).natAbs]]) ?_ (fun a b ⟨hab,ha,hb⟩=>?_)))))
 ·refine ts (ro rfl (eJ kH (Ht rfl) rfl) (ro rfl (fQ A_4 Z_4 (Ht rfl) (i := 1) rfl rfl) (eZ (dX (Ht rfl) (fun hn => ?_) (fun hn => ?_)))))
  ·simp only [decide_eq_true_eq] at hn
   refine fJ (m:=3) (dp 9 rfl (eW A_129 Z_129 (Ht rfl) (i:=2) rfl rfl rfl) (dq 22 0 rfl (cJ K_228 qN ⟨(Ht rfl),trivial⟩) (dp 10 rfl (eW A_129 Z_129 (Ht rfl) (i:=3) rfl rfl rfl) (fW aL rfl (by kernel_rfl) (aJ (aJ (aJ (aV (ro rfl (cJ K_228 qN ⟨(Ht rfl),trivial⟩) (gX Z_129 (Ht rfl) (Ht rfl) rfl (i:=2) rfl (aK rfl) rfl rfl (gX Z_129 (Ht rfl) (Ht rfl) rfl (i:=3) rfl (aK rfl) rfl rfl (eZ (bD (-p,-q) ⟨Qi.frac_neg hn,by dsimp only; omega,by dsimp only; omega⟩ (zS rfl) (aU (aB rfl) (aU (aB rfl) (aU (aB rfl) (aU (aB rfl) aY)))))))))))))))))
  ·simp only [decide_eq_false_iff_not] at hn
   refine cY (bD (p,q) ⟨Qi.frac_pos hn hd,by omega,by omega⟩ (zS rfl) (dE.refl _))
 ·refine ts (ro rfl (eW A_129 Z_129 (Ht rfl) (i := 2) rfl rfl rfl) (ro rfl (eW A_129 Z_129 (Ht rfl) (i := 3) rfl rfl rfl) (ro rfl (eJ fA (Ht rfl) rfl) (ro rfl (fQ A_46 Z_46 (Ht rfl) (i := 1) rfl rfl) (ro rfl (cJ Tryz.call224 (zR zo zo zo zo) ⟨(Ht rfl), (Ht rfl), (Ht rfl), trivial⟩) (gX Z_131 (Ht rfl) (Ht rfl) rfl (i := 0) rfl (aK rfl) rfl rfl (ro rfl (cX (cV 0)) (eZ (bM rfl (fZ (fU A_131 Z_131 rfl (i := 0) rfl rfl) ?_) (eY rfl))))))))))
  exact (Hy hab)
theorem a7q {r:Rt}:bE Tryz.prog 151 [Jw r] (QT r.q):=by
 have hr1:=r.h1; have hr2:=r.h2; have hr3:=r.h3; have hr4:=r.h4; have hr5:=r.d1; have hr6:=r.d2; have hr0:=r.d0
 refine bE.intro Tryz.func151 rfl Tryz.ntmps151 rfl (fun cx=>(ts (rn rfl (fK (Ht rfl)) fun B1=>(rn rfl (eG (Ts:=[Is (.bool false),Is (.slice none 0 0),Is (.bool false),Is (.slice none 0 0),Is (.slice none 0 0)]) O_131 rfl (fun V=>aW zd (aW zd (aW zd (aW zd (aW zd (aG))))))) fun B2=>(eZ (cU (jS (fun (uu:Unit)=>True) (fun (uu:Unit)=>[(1,cC B1 0),(2,cC B2 0)]) (fun (uu:Unit)=>[box B1 102 [aT .i64 r.re,aT .i64 r.im,aT .i64 r.d],box B2 131 [Is (.bool false),Is (.slice none 0 0),Is (.bool false),Is (.slice none 0 0),Is (.slice none 0 0)]]) ?_ (fun uu _=>?_))))))))
 ·refine ts (ro rfl (eJ sV (Ht rfl) rfl) (ro rfl (fQ A_2 Z_2 (Ht rfl) (i := 0) rfl rfl) (ro rfl (kN (Ht rfl) cW) (eZ (dX (Ht rfl) (fun hb => ?_) (fun hb => ?_))))))
  ·simp only [decide_eq_true_eq] at hb
   refine dQ (ro rfl (eJ sV (Ht rfl) rfl) (lY Z_2 (Ht rfl) (cV 1) (i:=0) rfl (aK rfl) rfl (eZ (bD () trivial (zS rfl) (aU (aB (by rw [Rt.d,if_pos hb]; rfl)) (aU (aB rfl) aY))))))
  ·simp only [decide_eq_false_iff_not] at hb
   refine cY (bD () trivial (zS rfl) (aU (aB (by rw [Rt.d,if_neg hb])) (aU (aB rfl) aY)))
 ·refine ts (ro rfl (eJ Nn (Ht rfl) rfl) (ro rfl (fQ A_2 Z_2 (Ht rfl) (i := 0) rfl rfl) (ro rfl (eJ No (Ht rfl) rfl) (ro rfl (fQ A_2 Z_2 (Ht rfl) (i := 0) rfl rfl) (ro rfl (eJ sV (Ht rfl) rfl) (ro rfl (fQ A_2 Z_2 (Ht rfl) (i := 0) rfl rfl) (ro rfl (cJ Tryz.call145 (a0v hr1 hr2 hr3 hr4 hr5 hr6 hr0) ⟨(Ht rfl), (Ht rfl), (Ht rfl), trivial⟩) (rm rfl (ro rfl (dU (Ht rfl) rfl) (ro rfl (dU (Ht rfl) rfl) (rn rfl (eG (Ts := [Is (.bool false), Is (.slice none 0 0), Is (.bool false), Is (.slice none 0 0), Is (.slice none 0 0)]) O_131 rfl (fun V => aW zd (aW zd (aW zd (aW zd (aW zd (aG))))))) fun B3 => ?_)))))))))))
  refine gX Z_131 (Ht rfl) (Ht rfl) rfl (i:=2) rfl (aK rfl) rfl rfl (ra rfl (eZ (ts (ro rfl (eW A_131 Z_131 (Ht rfl) (i:=2) rfl rfl rfl) (gX Z_131 (Ht rfl) (Ht rfl) rfl (i:=1) rfl (aK rfl) rfl rfl (eZ ?_))))))
  exact fG rfl (fU A_131 Z_131 rfl (i:=1) rfl rfl)
theorem yU {x y:Qi} {L M:Nat} [hx:aE x L] [hy:aE y M] (h:L + M + 1 ≤ 17592186044415):bE Tryz.prog 149 [QT x,QT y] (QT (x + y)):=by
 have hxa:=kT hx.fit; have hxb:=lC hx.fit; have hxd:=kU hx.fit
 have hya:=kT hy.fit; have hyb:=lC hy.fit; have hyd:=kU hy.fit
 have hxp:=x.den_pos; have hyp:=y.den_pos; have hdp:=Nat.mul_pos hxp hyp
 have e1:=eL x.a y.den; have e2:=eL y.a x.den; have e3:=eL x.b y.den; have e4:=eL y.b x.den; have e5:=uR x.den y.den
 have e6:=lR (x:=x.a * y.den) (y:=y.a * x.den) (L:=L + M) zo zo; have e7:=lR (x:=x.b * y.den) (y:=y.b * x.den) (L:=L + M) zo zo
 refine bE.intro Tryz.func149 rfl Tryz.ntmps149 rfl (fun cx=>?_)
 have n1:(dg ((x.den:Nat):Int).natAbs).length ≤ L:=by rw [Int.natAbs_natCast]; exact hxd
 have n2:(dg ((y.den:Nat):Int).natAbs).length ≤ M:=by rw [Int.natAbs_natCast]; exact hyd
 refine ts (rn rfl (fK (Ht rfl)) fun B2=>(rn rfl (fK (Ht rfl)) fun B3=>(rn rfl (eG (Ts:=[Is (.bool false),Is (.slice none 0 0),Is (.bool false),Is (.slice none 0 0),Is (.slice none 0 0)]) O_131 rfl (fun V=>aW zd (aW zd (aW zd (aW zd (aW zd (aG))))))) fun B4=>(eZ (cU (Y.D_start (m:=9) [] (cQ (Ei:=[(2,_)]) rfl rfl (bQ (bJ rfl rfl) bX) rfl rfl (dZ rfl (eJ iP (Ht rfl) rfl)) (cQ (Ei:=[(7,_)]) rfl rfl (bQ (bZ 0 rfl rfl) bX) rfl rfl (dZ rfl (fQ A_46 Z_46 (Ht rfl) (i:=0) rfl rfl)) ?_))))))))
 refine cQ (Ei:=[(8,_)]) rfl rfl (bQ (bZ 1 rfl rfl) bX) rfl rfl (dZ rfl (aM.imp (nS cW (Ht rfl)) Bu)) (cQ (Ei:=[(3,_)]) rfl rfl (bQ (bJ rfl rfl) bX) rfl rfl (dZ rfl (eJ iP (Ht rfl) rfl)) (cQ (Ei:=[(10,_)]) rfl rfl (bQ (bZ 3 rfl rfl) bX) rfl rfl (dZ rfl (fQ A_46 Z_46 (Ht rfl) (i:=1) rfl rfl)) (cQ (Ei:=[(11,_)]) rfl rfl (bQ (bZ 4 rfl rfl) bX) rfl rfl (dZ rfl (aM.imp (nS cW (Ht rfl)) Bu)) ?_)))
 refine Y.D_newp (Ei:=[]) (fun bb=>box bb 129 [aD (decide (((x.den:Nat):Int) < 0)),aH (((x.den:Nat):Int)).natAbs]) 8 rfl rfl rfl bX rfl rfl (by kernel_rfl) (eG (Ts:=[Is (.bool false),Is (.slice none 0 0)]) O_129 rfl (fun V=>aW zd (aW zd (aG)))) (Y.D_new (Ei:=[]) rfl rfl rfl bX rfl rfl (eG (Ts:=[Is (.bool false),Is (.slice none 0 0)]) O_129 rfl (fun V=>aW zd (aW zd (aG)))) (Y.D_putN (Ei:=[(9,_)]) 6 rfl rfl rfl rfl rfl rfl (bQ (bZ 2 rfl rfl) bX) (fun bb=>kQ Z_129 (Ht rfl) (Ht rfl) rfl (i:=0) rfl (aK rfl) rfl rfl) ?_))
 refine Y.D_done aL rfl (by kernel_rfl) rfl (by simp [Y.okP]) rfl rfl (bU (bU (bU (bU (bU (bU (Y.F_newp (fun B5=>Y.F_new (fun B6=>Y.F_putN (Y.F_nil ?_))))))))))
 refine gX Z_129 (Ht rfl) (Ht rfl) rfl (i:=4) rfl (aK rfl) rfl rfl (eZ (cU (fJ (m:=22) (dp 2 rfl (eJ iO (Ht rfl) rfl) (dq 13 0 rfl (eW A_129 Z_129 (Ht rfl) (i:=0) rfl rfl rfl) (dp 6 rfl (eW A_129 Z_129 (Ht rfl) (i:=4) rfl rfl rfl) (cP 14 1 15 2 rfl (cJ K_225 (lQ zo zo) ⟨(Ht rfl),(Ht rfl),trivial⟩) (dp 3 rfl (eJ iO (Ht rfl) rfl) (dq 17 4 rfl (eW A_129 Z_129 (Ht rfl) (i:=1) rfl rfl rfl) (dp 5 rfl (eW A_129 Z_129 (Ht rfl) (i:=3) rfl rfl rfl) ?_))))))))))
 refine cP 18 5 19 6 rfl (cJ K_225 (lQ zo zo) ⟨(Ht rfl),(Ht rfl),trivial⟩) (cP 16 3 20 7 rfl (cJ Tryz.call230 (wY zo zo) ⟨(Ht rfl),(Ht rfl),trivial⟩) (dp 2 rfl (eJ jA (Ht rfl) rfl) (dq 22 9 rfl (eW A_129 Z_129 (Ht rfl) (i:=0) rfl rfl rfl) (dp 6 rfl (eW A_129 Z_129 (Ht rfl) (i:=4) rfl rfl rfl) (cP 23 10 24 11 rfl (cJ K_225 (lQ zo zo) ⟨(Ht rfl),(Ht rfl),trivial⟩) (dp 3 rfl (eJ jA (Ht rfl) rfl) (dq 26 13 rfl (eW A_129 Z_129 (Ht rfl) (i:=1) rfl rfl rfl) ?_)))))))
 refine dp 5 rfl (eW A_129 Z_129 (Ht rfl) (i:=3) rfl rfl rfl) (cP 27 14 28 15 rfl (cJ K_225 (lQ zo zo) ⟨(Ht rfl),(Ht rfl),trivial⟩) (cP 25 12 29 16 rfl (cJ Tryz.call230 (wY zo zo) ⟨(Ht rfl),(Ht rfl),trivial⟩) (dp 2 rfl (eJ iP (Ht rfl) rfl) (dq 31 18 rfl (fQ A_46 Z_46 (Ht rfl) (i:=0) rfl rfl) (dp 3 rfl (eJ iP (Ht rfl) rfl) (dq 33 20 rfl (fQ A_46 Z_46 (Ht rfl) (i:=1) rfl rfl) (fW aL rfl (by kernel_rfl) (zF (zF (zF (zF (zF (aJ (aJ (aV ?_)))))))))))))))
 refine ro rfl (cJ Tryz.call226 (wZ zo zo) ⟨(Ht rfl),(Ht rfl),trivial⟩) (ro rfl (cJ Tryz.call224 (zR (by first | assumption | omega) zo zo zo) ⟨(Ht rfl),(Ht rfl),(Ht rfl),trivial⟩) (gX Z_131 (Ht rfl) (Ht rfl) rfl (i:=2) rfl (aK rfl) rfl rfl (eZ (fG rfl (fZ (fU A_131 Z_131 rfl (i:=2) rfl rfl) ?_)))))
 exact (Hy (Qi.mk_add x y))
theorem a0u {x:Qi}:bE Tryz.prog 150 [QT x] (QT (-x)):=by
 refine bE.intro Tryz.func150 rfl Tryz.ntmps150 rfl (fun cx=>(ts (rn rfl (fK (Ht rfl)) fun B1=>(rn rfl (eG (Ts:=[Is (.bool false),Is (.slice none 0 0),Is (.bool false),Is (.slice none 0 0),Is (.slice none 0 0)]) O_131 rfl (fun V=>aW zd (aW zd (aW zd (aW zd (aW zd (aG))))))) fun B2=>(eZ (cU (fJ (m:=8) (dp 1 rfl (eJ iO (Ht rfl) rfl) (dq 3 0 rfl (eW A_129 Z_129 (Ht rfl) (i:=0) rfl rfl rfl) ?_)))))))))
 refine dq 4 1 rfl (cJ K_228 qN ⟨(Ht rfl),trivial⟩) (dp 1 rfl (eJ jA (Ht rfl) rfl) (dq 6 3 rfl (eW A_129 Z_129 (Ht rfl) (i:=0) rfl rfl rfl) (dq 7 4 rfl (cJ K_228 qN ⟨(Ht rfl),trivial⟩) (dp 1 rfl (eJ iP (Ht rfl) rfl) (dq 9 6 rfl (fQ A_46 Z_46 (Ht rfl) (i:=0) rfl rfl) (fW aL rfl (by kernel_rfl) (zF (zF (aV (ro rfl (mY (Ht rfl) (Ht rfl) (Ht rfl)) (gX Z_131 (Ht rfl) (Ht rfl) rfl (i:=1) rfl (aK rfl) rfl rfl ?_)))))))))))
 refine eZ (fG rfl (fZ (fU A_131 Z_131 rfl (i:=1) rfl rfl) ?_))
 exact (oP (by obtain ⟨e1,e2,e3⟩:=Qi.neg_a x; rw [e1,e2,e3]; rfl))
theorem Km {x:Qi}:bE Tryz.prog 173 [QT x] (QT x.conj):=by
 refine bE.intro Tryz.func173 rfl Tryz.ntmps173 rfl (fun cx=>(ts (rn rfl (fK (Ht rfl)) fun B1=>(rn rfl (eG (Ts:=[Is (.bool false),Is (.slice none 0 0),Is (.bool false),Is (.slice none 0 0),Is (.slice none 0 0)]) O_131 rfl (fun V=>aW zd (aW zd (aW zd (aW zd (aW zd (aG))))))) fun B2=>(eZ (cU (fJ (m:=7) (dp 1 rfl (eJ iO (Ht rfl) rfl) (dq 3 0 rfl (eW A_129 Z_129 (Ht rfl) (i:=0) rfl rfl rfl) ?_)))))))))
 refine dp 1 rfl (eJ jA (Ht rfl) rfl) (dq 5 2 rfl (eW A_129 Z_129 (Ht rfl) (i:=0) rfl rfl rfl) (dq 6 3 rfl (cJ K_228 qN ⟨(Ht rfl),trivial⟩) (dp 1 rfl (eJ iP (Ht rfl) rfl) (dq 8 5 rfl (fQ A_46 Z_46 (Ht rfl) (i:=0) rfl rfl) (fW aL rfl (by kernel_rfl) (zF (aJ (aJ (aJ (aV (ro rfl (mY (Ht rfl) (Ht rfl) (Ht rfl)) (gX Z_131 (Ht rfl) (Ht rfl) rfl (i:=1) rfl (aK rfl) rfl rfl (eZ (fG rfl (fZ (fU A_131 Z_131 rfl (i:=1) rfl rfl) ?_)))))))))))))))
 exact (oP (by obtain ⟨e1,e2,e3⟩:=Qi.conj_a x; rw [e1,e2,e3]; rfl))
theorem Kn {x y:Qi} {L M:Nat} [hx:aE x L] [hy:aE y M] (h:L + M + 1 ≤ 17592186044415):bE Tryz.prog 147 [QT x,QT y] (QT (x - y)):=by
 have hxa:=kT hx.fit; have hxb:=lC hx.fit; have hxd:=kU hx.fit
 have hya:=kT hy.fit; have hyb:=lC hy.fit; have hyd:=kU hy.fit
 have hxp:=x.den_pos; have hyp:=y.den_pos; have hdp:=Nat.mul_pos hxp hyp
 refine bE.intro Tryz.func147 rfl Tryz.ntmps147 rfl (fun cx=>(ts (rn rfl (fK (Ht rfl)) fun B2=>(rn rfl (fK (Ht rfl)) fun B3=>(rn rfl (eG (Ts:=[Is (.bool false),Is (.slice none 0 0),Is (.bool false),Is (.slice none 0 0),Is (.slice none 0 0)]) O_131 rfl (fun V=>aW zd (aW zd (aW zd (aW zd (aW zd (aG))))))) fun B4=>(eZ (cU (fJ (m:=3) (dp 2 rfl (eW A_131 Z_131 (Ht rfl) (i:=0) rfl rfl rfl) (dp 3 rfl (eW A_131 Z_131 (Ht rfl) (i:=1) rfl rfl rfl) ?_))))))))))
 refine dq 6 1 rfl (cJ Tryz.call150 a0u ⟨(Ht rfl),trivial⟩) (fW aL rfl (by kernel_rfl) (aJ (aJ (aJ (aV (ro rfl (cJ K_149 (yU zo) ⟨(Ht rfl),(Ht rfl),trivial⟩) (gX Z_131 (Ht rfl) (Ht rfl) rfl (i:=2) rfl (aK rfl) rfl rfl (eZ (fG rfl (fZ (fU A_131 Z_131 rfl (i:=2) rfl rfl) ?_))))))))))
 exact (Hy (Qi.sub_def x y).symm)
theorem rC {x y:Qi} {L M:Nat} [hx:aE x L] [hy:aE y M] (h:L + M + 1 ≤ 17592186044415):bE Tryz.prog 146 [QT x,QT y] (QT (x * y)):=by
 have hxa:=kT hx.fit; have hxb:=lC hx.fit; have hxd:=kU hx.fit
 have hya:=kT hy.fit; have hyb:=lC hy.fit; have hyd:=kU hy.fit
 have hxp:=x.den_pos; have hyp:=y.den_pos; have hdp:=Nat.mul_pos hxp hyp
 have e1:=lS x.a y.a; have e2:=lS x.b y.b; have e3:=lS x.a y.b; have e4:=lS x.b y.a; have e5:=uR x.den y.den; have e8:=tQ (x.b * y.b)
 have e6:=lR (x:=x.a * y.a) (y:=-(x.b * y.b)) (L:=L + M) zo zo; have e7:=lR (x:=x.a * y.b) (y:=x.b * y.a) (L:=L + M) zo zo
 refine bE.intro Tryz.func146 rfl Tryz.ntmps146 rfl (fun cx=>(ts (rn rfl (fK (Ht rfl)) fun B2=>(rn rfl (fK (Ht rfl)) fun B3=>(rn rfl (eG (Ts:=[Is (.bool false),Is (.slice none 0 0),Is (.bool false),Is (.slice none 0 0),Is (.slice none 0 0)]) O_131 rfl (fun V=>aW zd (aW zd (aW zd (aW zd (aW zd (aG))))))) fun B4=>(eZ (cU (fJ (m:=26) (dp 2 rfl (eJ iO (Ht rfl) rfl) (dq 5 0 rfl (eW A_129 Z_129 (Ht rfl) (i:=0) rfl rfl rfl) ?_))))))))))
 refine dp 3 rfl (eJ iO (Ht rfl) rfl) (dq 7 2 rfl (eW A_129 Z_129 (Ht rfl) (i:=1) rfl rfl rfl) (cP 6 1 8 3 rfl (cJ K_225 (lQ zo zo) ⟨(Ht rfl),(Ht rfl),trivial⟩) (dp 2 rfl (eJ jA (Ht rfl) rfl) (dq 10 5 rfl (eW A_129 Z_129 (Ht rfl) (i:=0) rfl rfl rfl) (dp 3 rfl (eJ jA (Ht rfl) rfl) (dq 12 7 rfl (eW A_129 Z_129 (Ht rfl) (i:=1) rfl rfl rfl) (cP 11 6 13 8 rfl (cJ K_225 (lQ zo zo) ⟨(Ht rfl),(Ht rfl),trivial⟩) (cP 9 4 14 9 rfl (cJ Tryz.call229 (Xe zo zo) ⟨(Ht rfl),(Ht rfl),trivial⟩) ?_))))))))
 refine dp 2 rfl (eJ iO (Ht rfl) rfl) (dq 16 11 rfl (eW A_129 Z_129 (Ht rfl) (i:=0) rfl rfl rfl) (dp 3 rfl (eJ jA (Ht rfl) rfl) (dq 18 13 rfl (eW A_129 Z_129 (Ht rfl) (i:=1) rfl rfl rfl) (cP 17 12 19 14 rfl (cJ K_225 (lQ zo zo) ⟨(Ht rfl),(Ht rfl),trivial⟩) (dp 2 rfl (eJ jA (Ht rfl) rfl) (dq 21 16 rfl (eW A_129 Z_129 (Ht rfl) (i:=0) rfl rfl rfl) (dp 3 rfl (eJ iO (Ht rfl) rfl) (dq 23 18 rfl (eW A_129 Z_129 (Ht rfl) (i:=1) rfl rfl rfl) ?_))))))))
 refine cP 22 17 24 19 rfl (cJ K_225 (lQ zo zo) ⟨(Ht rfl),(Ht rfl),trivial⟩) (cP 20 15 25 20 rfl (cJ Tryz.call230 (wY zo zo) ⟨(Ht rfl),(Ht rfl),trivial⟩) (dp 2 rfl (eJ iP (Ht rfl) rfl) (dq 27 22 rfl (fQ A_46 Z_46 (Ht rfl) (i:=0) rfl rfl) (dp 3 rfl (eJ iP (Ht rfl) rfl) (dq 29 24 rfl (fQ A_46 Z_46 (Ht rfl) (i:=1) rfl rfl) (fW aL rfl (by kernel_rfl) (zF (zF (zF (zF (zF (zF (aJ (aJ (aV ?_)))))))))))))))
 refine ro rfl (cJ Tryz.call226 (wZ zo zo) ⟨(Ht rfl),(Ht rfl),trivial⟩) (ro rfl (cJ Tryz.call224 (zR (by first | assumption | omega) zo zo zo) ⟨(Ht rfl),(Ht rfl),(Ht rfl),trivial⟩) (gX Z_131 (Ht rfl) (Ht rfl) rfl (i:=2) rfl (aK rfl) rfl rfl (eZ (fG rfl (fZ (fU A_131 Z_131 rfl (i:=2) rfl rfl) ?_)))))
 exact (Hy (Qi.mk_mul x y))
theorem Ud {x:Qi}:bE Tryz.prog 166 [QT x] (aD (decide (x = Qi.zero))):=by
 refine bE.intro Tryz.func166 rfl Tryz.ntmps166 rfl (fun cx=>(ts (rn rfl (fK (Ht rfl)) fun B1=>(ro rfl (cX cW) (eZ (ts (ro rfl (eJ iO (Ht rfl) rfl) (ro rfl (eJ fA (Ht rfl) rfl) (ro rfl (fQ A_46 Z_46 (Ht rfl) (i:=0) rfl rfl) (ro rfl (dK U_46 (Ht rfl) aA) (ro rfl (cT (Ht rfl) (cV 0)) (rm rfl (fX rfl rfl (eU rfl rfl (Ht rfl) (fun h=>eJ jA (Ht rfl) rfl)) (fX rfl rfl (eU rfl rfl (Ht rfl) (fun h=>eJ fA (fV rfl h) rfl)) (fX rfl rfl (eU rfl rfl (Ht rfl) (fun h=>fQ A_46 Z_46 (fV rfl h) (i:=0) rfl rfl)) ?_)))))))))))))))
 refine fX rfl rfl (eU rfl rfl (Ht rfl) (fun h=>dK U_46 (fV rfl h) aA)) (fX rfl rfl (eU rfl rfl (Ht rfl) (fun h=>cT (fV rfl h) (cV 0))) (ro rfl (fC (Ht rfl) (fun h=>(fV rfl h))) (ra rfl (eZ (fG rfl (fZ (eY rfl) ?_))))))
 exact (dN (a1Z x))
theorem a7p {x:Qi} {L:Nat} [hx:aE x L] (h:L ≤ 17592186044415):bE Tryz.prog 274 [QT x] (QT x.imp):=by
 have hxa:=kT hx.fit; have hxb:=lC hx.fit; have hxd:=kU hx.fit
 have hxp:=x.den_pos
 have h5:(dg (0:Int).natAbs).length ≤ 0:=by rw [show (0:Int).natAbs = 0 from rfl,eT]; exact Nat.le_refl _
 refine bE.intro Tryz.func274 rfl Tryz.ntmps274 rfl (fun cx=>(ts (rn rfl (fK (Ht rfl)) fun B1=>(rn rfl (eG (Ts:=[Is (.bool false),Is (.slice none 0 0),Is (.bool false),Is (.slice none 0 0),Is (.slice none 0 0)]) O_131 rfl (fun V=>aW zd (aW zd (aW zd (aW zd (aW zd (aG))))))) fun B2=>(eZ (ts (ro rfl (eJ jA (Ht rfl) rfl) (ro rfl (eW A_129 Z_129 (Ht rfl) (i:=0) rfl rfl rfl) (ro rfl (aM.imp (Mo ) Hk) ?_)))))))))
 refine ro rfl (eJ iP (Ht rfl) rfl) (ro rfl (fQ A_46 Z_46 (Ht rfl) (i:=0) rfl rfl) (ro rfl (cJ Tryz.call224 (zR (by first | assumption | omega) zo zo zo) ⟨(Ht rfl),(Ht rfl),(Ht rfl),trivial⟩) (gX Z_131 (Ht rfl) (Ht rfl) rfl (i:=1) rfl (aK rfl) rfl rfl (eZ (fG rfl (fZ (fU A_131 Z_131 rfl (i:=1) rfl rfl) ?_))))))
 exact (Hy (Qi.mk_im0 x))
theorem a2T {x:Qi} {L:Nat} [hx:aE x L] (h:L + L + 1 ≤ 17592186044415):bE Tryz.prog 223 [QT x] (QT x.norm):=by
 refine bE.intro Tryz.func223 rfl Tryz.ntmps223 rfl (fun cx=>(ts (rn rfl (fK (Ht rfl)) fun B1=>(rn rfl (eG (Ts:=[Is (.bool false),Is (.slice none 0 0),Is (.bool false),Is (.slice none 0 0),Is (.slice none 0 0)]) O_131 rfl (fun V=>aW zd (aW zd (aW zd (aW zd (aW zd (aG))))))) fun B2=>(eZ (cU (fJ (m:=3) (dp 1 rfl (eW A_131 Z_131 (Ht rfl) (i:=0) rfl rfl rfl) (dp 1 rfl (eW A_131 Z_131 (Ht rfl) (i:=0) rfl rfl rfl) ?_)))))))))
 refine dq 4 1 rfl (cJ Tryz.call173 Km ⟨(Ht rfl),trivial⟩) (fW aL rfl (by kernel_rfl) (aJ (aJ (aJ (aV (ro rfl (cJ K_146 (rC zo) ⟨(Ht rfl),(Ht rfl),trivial⟩) (gX Z_131 (Ht rfl) (Ht rfl) rfl (i:=1) rfl (aK rfl) rfl rfl (eZ (fG rfl (fZ (fU A_131 Z_131 rfl (i:=1) rfl rfl) ?_))))))))))
 exact (Hy (Qi.mul_conj x))
theorem Ub {x:Qi}:bE Tryz.prog 239 [QT x] (aT .i64 (oT x.a 0)):=by
 refine bE.intro Tryz.func239 rfl Tryz.ntmps239 rfl (fun cx=>(ts (rn rfl (fK (Ht rfl)) fun B1=>(ro rfl (cX (cV 0)) (eZ (cU (ts (ro rfl (eJ iO (Ht rfl) rfl) (ro rfl (eJ kH (Ht rfl) rfl) (ro rfl (fQ A_4 Z_4 (Ht rfl) (i:=0) rfl rfl) (eZ (dX (Ht rfl) (fun hb=>?_) (fun hb=>?_)))))))))))))
 ·simp only [decide_eq_true_eq] at hb
  refine ts (ro rfl (cX cW) (eZ (fG rfl (fZ (eY rfl) ?_))))
  exact (aS (by rw [oT,if_pos hb]))
 ·simp only [decide_eq_false_iff_not] at hb
  refine cY (cU (ts (ro rfl (eJ iO (Ht rfl) rfl) (ro rfl (eJ fA (Ht rfl) rfl) (ro rfl (fQ A_46 Z_46 (Ht rfl) (i:=0) rfl rfl) (ro rfl (dK U_46 (Ht rfl) aA) (ro rfl (eH (Ht rfl) (cV 0)) (eZ (dX (Ht rfl) (fun hc=>?_) (fun hc=>?_))))))))))
  ·simp only [decide_eq_true_eq] at hc
   have h0:x.a ≠ 0:=fun e=>by rw [e] at hc; simp [eT] at hc
   refine ts (ro rfl (cX (cV 1)) (eZ (fG rfl (fZ (eY rfl) ?_))))
   exact (aS (by rw [oT,if_neg hb,if_pos zo]; rfl))
  ·simp only [decide_eq_false_iff_not] at hc
   have h0:x.a = 0:=by have:=aR.1 (Nat.eq_zero_of_not_pos hc); omega
   refine cY (ts (ro rfl (cX (cV 0)) (eZ (fG rfl (fZ (eY rfl) ?_)))))
   exact (aS (by rw [oT,if_neg hb,if_neg zo]; rfl))
theorem a2U {x:Qi} {L:Nat} [hx:aE x L] (h:L ≤ 17592186044415):bE Tryz.prog 242 [QT x] (aT .i64 (oT x.b 0)):=by
 refine bE.intro Tryz.func242 rfl Tryz.ntmps242 rfl (fun cx=>(ts (rn rfl (fK (Ht rfl)) fun B1=>(ro rfl (cX (cV 0)) (eZ (ts (ro rfl (eW A_131 Z_131 (Ht rfl) (i:=0) rfl rfl rfl) (ro rfl (cJ Tryz.call274 (a7p zo) ⟨(Ht rfl),trivial⟩) (ro rfl (cJ Tryz.call239 Ub ⟨(Ht rfl),trivial⟩) (ra rfl (eZ (fG rfl (fZ (eY rfl) ?_)))))))))))))
 exact (aS (a4r x))
theorem Dg {x y:Qi} {L M:Nat} [hx:aE x L] [hy:aE y M] (h:L + 3 * M + 2 ≤ 17592186044415):bE Tryz.prog 144 [QT x,QT y] (eS [QT (x / y),aT .i64 (if y = Qi.zero then 3 else 0)]):=by
 have hxa:=kT hx.fit; have hxb:=lC hx.fit; have hxd:=kU hx.fit
 have hya:=kT hy.fit; have hyb:=lC hy.fit; have hyd:=kU hy.fit
 have hxp:=x.den_pos; have hyp:=y.den_pos; have hdp:=Nat.mul_pos hxp hyp
 refine bE.intro Tryz.func144 rfl Tryz.ntmps144 rfl (fun cx=>(ts (rn rfl (fK (Ht rfl)) fun B2=>(rn rfl (fK (Ht rfl)) fun B3=>(rn rfl (eG (Ts:=[Is (.bool false),Is (.slice none 0 0),Is (.bool false),Is (.slice none 0 0),Is (.slice none 0 0)]) O_131 rfl (fun V=>aW zd (aW zd (aW zd (aW zd (aW zd (aG))))))) fun B4=>(ro rfl (cX (cV 0)) (eZ (cU (ts (ro rfl (eW A_131 Z_131 (Ht rfl) (i:=1) rfl rfl rfl) ?_))))))))))
 refine ro rfl (cJ Tryz.call166 Ud ⟨(Ht rfl),trivial⟩) (eZ (dX (Ht rfl) (fun hb=>?_) (fun hb=>?_)))
 ·simp only [decide_eq_true_eq] at hb
  refine ts (ro rfl (cJ K_148 (rD (by decide) (by decide)) ⟨(cV 0),trivial⟩) (gX Z_131 (Ht rfl) (Ht rfl) rfl (i:=2) rfl (aK rfl) rfl rfl (ro rfl (cX (cV 3)) (eZ (bM rfl (fZ (fU A_131 Z_131 rfl (i:=2) rfl rfl) ?_) (fZ (eY rfl) ?_))))))
  ·exact (Hy (by rw [hb,Qi.div_zero]; rfl))
  ·exact (aS (by rw [if_pos hb]; rfl))
 ·simp only [decide_eq_false_iff_not] at hb
  obtain ⟨n,hn⟩:∃ n,n = y.norm:=⟨_,rfl⟩
  obtain ⟨z,hz⟩:∃ z,z = x * y.conj:=⟨_,rfl⟩
  haveI fn:aE n (M + M + 1):=hn ▸ fitNorm
  haveI fz:aE z (L + M + 1):=hz ▸ fitMul
  have hna:=kT fn.fit; have hnd:=kU fn.fit; have hza:=kT fz.fit; have hzb:=lC fz.fit; have hzd:=kU fz.fit
  have hnp:0 < n.a:=hn ▸ Qi.norm_pos hb
  have hm:((n.a.natAbs:Nat):Int) = n.a:=Int.natAbs_of_nonneg zo
  have hdp2:=Nat.mul_pos z.den_pos (show 0 < n.a.natAbs by omega)
  have n1:(dg ((n.den:Nat):Int).natAbs).length ≤ M + M + 1:=by rw [Int.natAbs_natCast]; exact hnd
  have e1:=eL z.a n.den; have e2:=eL z.b n.den; have e3:=uR z.den n.a.natAbs
  refine cY (ts (ro rfl (eW A_131 Z_131 (Ht rfl) (i:=1) rfl rfl rfl) (ro rfl (aM.imp (cJ Tryz.call223 (a2T zo) ⟨(Ht rfl),trivial⟩) (Hy hn.symm)) (rn rfl (eG (Ts:=[Is (.bool false),Is (.slice none 0 0),Is (.bool false),Is (.slice none 0 0),Is (.slice none 0 0)]) O_131 rfl (fun V=>aW zd (aW zd (aW zd (aW zd (aW zd (aG))))))) fun B6=>(gX Z_131 (Ht rfl) (Ht rfl) rfl (i:=3) rfl (aK rfl) rfl rfl ?_)))))
  refine eZ (cU (fJ (m:=5) (dp 2 rfl (eW A_131 Z_131 (Ht rfl) (i:=0) rfl rfl rfl) (dp 3 rfl (eW A_131 Z_131 (Ht rfl) (i:=1) rfl rfl rfl) (dq 15 1 rfl (cJ Tryz.call173 Km ⟨(Ht rfl),trivial⟩) (cP 14 0 16 2 rfl (aM.imp (cJ K_146 (rC zo) ⟨(Ht rfl),(Ht rfl),trivial⟩) (Hy hz.symm)) (C.D_new (Ei:=[]) rfl rfl rfl bW (eG (Ts:=[Is (.bool false),Is (.slice none 0 0),Is (.bool false),Is (.slice none 0 0),Is (.slice none 0 0)]) O_131 rfl (fun V=>aW zd (aW zd (aW zd (aW zd (aW zd (aG))))))) ?_)))))))
  refine fW aL rfl (by kernel_rfl) (zF (C.F_new (fun B7=>aV (gX Z_131 (Ht rfl) (Ht rfl) rfl (i:=4) rfl (aK rfl) rfl rfl (eZ (ts (ro rfl (eJ iP (Ht rfl) rfl) (ro rfl (fQ A_46 Z_46 (Ht rfl) (i:=3) rfl rfl) (ro rfl (aM.imp (nS cW (Ht rfl)) Bu) (rn rfl (eG (Ts:=[Is (.bool false),Is (.slice none 0 0)]) O_129 rfl (fun V=>aW zd (aW zd (aG)))) fun B8=>(gX Z_129 (Ht rfl) (Ht rfl) rfl (i:=5) rfl (aK rfl) rfl rfl ?_)))))))))))
  refine eZ (cU (fJ (m:=13) (dp 7 rfl (eJ iO (Ht rfl) rfl) (dq 21 0 rfl (eW A_129 Z_129 (Ht rfl) (i:=4) rfl rfl rfl) (dp 8 rfl (eW A_129 Z_129 (Ht rfl) (i:=5) rfl rfl rfl) (cP 22 1 23 2 rfl (cJ K_225 (lQ zo zo) ⟨(Ht rfl),(Ht rfl),trivial⟩) (dp 7 rfl (eJ jA (Ht rfl) rfl) (dq 25 4 rfl (eW A_129 Z_129 (Ht rfl) (i:=4) rfl rfl rfl) (dp 8 rfl (eW A_129 Z_129 (Ht rfl) (i:=5) rfl rfl rfl) (cP 26 5 27 6 rfl (cJ K_225 (lQ zo zo) ⟨(Ht rfl),(Ht rfl),trivial⟩) ?_))))))))))
  refine dp 7 rfl (eJ iP (Ht rfl) rfl) (dq 29 8 rfl (fQ A_46 Z_46 (Ht rfl) (i:=4) rfl rfl) (dp 6 rfl (eJ iO (Ht rfl) rfl) (dq 31 10 rfl (eJ fA (Ht rfl) rfl) (dq 32 11 rfl (fQ A_46 Z_46 (Ht rfl) (i:=3) rfl rfl) (fW aL rfl (by kernel_rfl) (zF (zF (zF (aJ (aV (ro rfl (cJ Tryz.call226 (wZ zo zo) ⟨(Ht rfl),(Ht rfl),trivial⟩) (ro rfl (cJ Tryz.call224 (zR (by first | assumption | omega) zo zo zo) ⟨(Ht rfl),(Ht rfl),(Ht rfl),trivial⟩) ?_))))))))))))
  refine gX Z_131 (Ht rfl) (Ht rfl) rfl (i:=2) rfl (aK rfl) rfl rfl (ro rfl (cX (cV 0)) (eZ (bM rfl (fZ (fU A_131 Z_131 rfl (i:=2) rfl rfl) ?_) (fZ (eY rfl) ?_))))
  ·exact (Hy (Qi.mk_divR x hb hz hn hm))
  ·exact (aS (by rw [if_neg hb]; rfl))
theorem yH {x y:Qi} {L M:Nat} [hx:aE x L] [hy:aE y M] (h:L + 3 * M + 2 ≤ 17592186044415):bE Tryz.prog 40 [aI x,aI y] (eS [aI (x / y),aT .i64 (if y = Qi.zero then 3 else 0)]):=by
 have hxa:=kT hx.fit; have hxb:=lC hx.fit; have hxd:=kU hx.fit
 have hya:=kT hy.fit; have hyb:=lC hy.fit; have hyd:=kU hy.fit
 have hxp:=x.den_pos; have hyp:=y.den_pos; have hMp:=hy.pos
 refine bE.intro Tryz.func40 rfl Tryz.ntmps40 rfl (fun cx=>(ts (rn rfl (fK (Ht rfl)) fun B2=>(rn rfl (fK (Ht rfl)) fun B3=>(rn rfl (eG (Ts:=[Is (.bool false),Is (.slice none 0 0),Is (.bool false),Is (.slice none 0 0),Is (.slice none 0 0)]) O_51 rfl (fun V=>aW zd (aW zd (aW zd (aW zd (aW zd (aG))))))) fun B4=>(ro rfl (cX (cV 0)) (eZ (cU (ts (ro rfl (eW A_51 Z_51 (Ht rfl) (i:=1) rfl rfl rfl) ?_))))))))))
 refine ro rfl (cJ Tryz.call27 (Kd zo) ⟨(Ht rfl),trivial⟩) (ro rfl (dR (Ht rfl)) (eZ (dX (Ht rfl) (fun hb=>?_) (fun hb=>?_))))
 ·have h0 : y = Qi.zero := by simpa using hb
  refine ts (ro rfl (aM.imp (Df ) oJ) (gX Z_51 (Ht rfl) (Ht rfl) rfl (i:=2) rfl (aK rfl) rfl rfl (ro rfl (cX (cV 3)) (eZ (bM rfl (fZ (fU A_51 Z_51 rfl (i:=2) rfl rfl) ?_) (fZ (eY rfl) ?_))))))
  ·exact (nO (by rw [h0,Qi.div_zero]))
  ·exact (aS (by rw [if_pos h0]; rfl))
 ·have h0 : y ≠ Qi.zero := by simpa using hb
  have g1:=lS y.a y.a; have g2:=lS y.b y.b; have g3:=tQ y.b
  have g4:=lR (x:=y.a * y.a) (y:=y.b * y.b) (L:=M + M) zo zo
  obtain ⟨c,hc⟩:∃ c,c = Qi.mk' y.a (-y.b) 1:=⟨_,rfl⟩
  obtain ⟨z,hz⟩:∃ z,z = x * c:=⟨_,rfl⟩
  have l1:(dg 1).length ≤ 1:=by rw [a0K (by decide) (by decide)]; exact Nat.le_refl _
  haveI fc:aE c M:=hc ▸ ⟨Qi.Fit.mk (by decide) hy.fit.1 (by rw [Int.natAbs_neg]; exact hy.fit.2.1) (Qi.one_lt hMp)⟩
  haveI fz:aE z (L + M + 1):=hz ▸ fitMul
  have hza:=kT fz.fit; have hzb:=lC fz.fit; have hzd:=kU fz.fit
  have hnp:=Qi.nrm_int_pos h0
  have hm:(((y.a * y.a + y.b * y.b).natAbs:Nat):Int) = y.a * y.a + y.b * y.b:=Int.natAbs_of_nonneg zo
  have hdp2:=Nat.mul_pos z.den_pos (show 0 < (y.a * y.a + y.b * y.b).natAbs by omega)
  have e1:=eL z.a y.den; have e2:=eL z.b y.den; have e3:=uR z.den (y.a * y.a + y.b * y.b).natAbs
  refine cY (cU (fJ (m:=12) (dp 3 rfl (eJ iB (Ht rfl) rfl) (dq 12 0 rfl (eW A_49 Z_49 (Ht rfl) (i:=1) rfl rfl rfl) (dp 3 rfl (eJ iB (Ht rfl) rfl) (dq 14 2 rfl (eW A_49 Z_49 (Ht rfl) (i:=1) rfl rfl rfl) (cP 13 1 15 3 rfl (cJ K_132 (xB zo zo) ⟨(Ht rfl),(Ht rfl),trivial⟩) (dp 3 rfl (eJ iV (Ht rfl) rfl) (dq 17 5 rfl (eW A_49 Z_49 (Ht rfl) (i:=1) rfl rfl rfl) (dp 3 rfl (eJ iV (Ht rfl) rfl) (dq 19 7 rfl (eW A_49 Z_49 (Ht rfl) (i:=1) rfl rfl rfl) ?_)))))))))))
  refine cP 18 6 20 8 rfl (cJ K_132 (xB zo zo) ⟨(Ht rfl),(Ht rfl),trivial⟩) (cP 16 4 21 9 rfl (cJ K_133 (Bk zo zo) ⟨(Ht rfl),(Ht rfl),trivial⟩) (C.D_new (Ei:=[]) rfl rfl rfl bW (eG (Ts:=[Is (.bool false),Is (.slice none 0 0)]) O_49 rfl (fun V=>aW zd (aW zd (aG)))) (fW aL rfl (by kernel_rfl) (zF (zF (aJ (aJ (aJ (C.F_new (fun B6=>aV (gX Z_49 (Ht rfl) (Ht rfl) rfl (i:=3) rfl (aK rfl) rfl rfl ?_)))))))))))
  refine eZ (cU (fJ (m:=10) (dp 2 rfl (eW A_51 Z_51 (Ht rfl) (i:=0) rfl rfl rfl) (dp 3 rfl (eJ iB (Ht rfl) rfl) (dq 24 1 rfl (eW A_49 Z_49 (Ht rfl) (i:=1) rfl rfl rfl) (dp 3 rfl (eJ iV (Ht rfl) rfl) (dq 26 3 rfl (eW A_49 Z_49 (Ht rfl) (i:=1) rfl rfl rfl) (dq 27 4 rfl (cJ K_135 rT ⟨(Ht rfl),trivial⟩) (d0 rfl (aM.imp (dB (xs:=[_]) U_47 Z_189 O_189 (cG (cV 1) cK) rfl rfl rfl) Gi) (C.D_step (Ei:=[(25,_),(28,_),(29,_)]) rfl rfl (bV (bG 2 rfl rfl) (bV (bG 5 rfl rfl) (bV (bG 6 rfl rfl) bW))) (dZ rfl (aM.imp (cJ K_134 (Bj (by first | assumption | omega) zo zo zo) ⟨(Ht rfl),(Ht rfl),(Ht rfl),trivial⟩) (nO hc.symm))) ?_))))))))))
  refine cP 23 0 30 7 rfl (aM.imp (cJ K_45 (kF zo) ⟨(Ht rfl),(Ht rfl),trivial⟩) (nO hz.symm)) (C.D_new (Ei:=[]) rfl rfl rfl bW (eG (Ts:=[Is (.bool false),Is (.slice none 0 0),Is (.bool false),Is (.slice none 0 0),Is (.slice none 0 0)]) O_51 rfl (fun V=>aW zd (aW zd (aW zd (aW zd (aW zd (aG))))))) (fW aL rfl (by kernel_rfl) (zF (zF (aJ (C.F_new (fun B7=>aV ?_)))))))
  refine gX Z_51 (Ht rfl) (Ht rfl) rfl (i:=4) rfl (aK rfl) rfl rfl (eZ (cU (fJ (m:=14) (dp 7 rfl (eJ iB (Ht rfl) rfl) (dq 32 0 rfl (eW A_49 Z_49 (Ht rfl) (i:=4) rfl rfl rfl) (dp 3 rfl (eW A_51 Z_51 (Ht rfl) (i:=1) rfl rfl rfl) (dq 34 2 rfl (cJ K_137 rS ⟨(Ht rfl),trivial⟩) (cP 33 1 35 3 rfl (cJ K_136 (mZ zo zo) ⟨(Ht rfl),(Ht rfl),trivial⟩) (dp 7 rfl (eJ iV (Ht rfl) rfl) (dq 37 5 rfl (eW A_49 Z_49 (Ht rfl) (i:=4) rfl rfl rfl) ?_))))))))))
  refine dp 3 rfl (eW A_51 Z_51 (Ht rfl) (i:=1) rfl rfl rfl) (dq 39 7 rfl (cJ K_137 rS ⟨(Ht rfl),trivial⟩) (cP 38 6 40 8 rfl (cJ K_136 (mZ zo zo) ⟨(Ht rfl),(Ht rfl),trivial⟩) (dp 7 rfl (eW A_51 Z_51 (Ht rfl) (i:=4) rfl rfl rfl) (dq 42 10 rfl (cJ K_137 rS ⟨(Ht rfl),trivial⟩) (dp 6 rfl (eJ gB (Ht rfl) rfl) (dq 44 12 rfl (fQ A_47 Z_47 (Ht rfl) (i:=3) rfl rfl) (fW aL rfl (by kernel_rfl) (zF (zF (zF (aJ (aJ (aV ?_)))))))))))))
  refine ro rfl (cJ Tryz.call138 (Mt zo zo) ⟨(Ht rfl),(Ht rfl),trivial⟩) (ro rfl (cJ K_134 (Bj (by first | assumption | omega) zo zo zo) ⟨(Ht rfl),(Ht rfl),(Ht rfl),trivial⟩) (gX Z_51 (Ht rfl) (Ht rfl) rfl (i:=2) rfl (aK rfl) rfl rfl (ro rfl (cX (cV 0)) (eZ (bM rfl (fZ (fU A_51 Z_51 rfl (i:=2) rfl rfl) ?_) (fZ (eY rfl) ?_))))))
  ·exact (nO (Qi.mk_divP x h0 (hc ▸ hz) hm))
  ·exact (aS (by rw [if_neg h0]; rfl))
theorem xA {a:Int} {d:Nat} (hd:0 < d) (ha:(dg a.natAbs).length ≤ 8796093022208) (hd2:(dg d).length ≤ 8796093022208):bE Tryz.prog 243 [eP a,aH d] (sQ (wG a d)):=by
 have hg:=Fn ha hd2
 have hg0:Nat.gcd a.natAbs d ≠ 0:=fun e=>by have:=Nat.gcd_eq_zero_iff.1 e; omega
 have h1:=Kt a.natAbs (Nat.gcd a.natAbs d); have h2:=Kt d (Nat.gcd a.natAbs d)
 rw [a46 a hd]
 obtain ⟨u,hu⟩:∃ u,u = a.natAbs / Nat.gcd a.natAbs d:=⟨_,rfl⟩
 obtain ⟨v,hv⟩:∃ v,v = d / Nat.gcd a.natAbs d:=⟨_,rfl⟩
 rw [← hu,← hv]
 rw [← hu] at h1
 rw [← hv] at h2
 have h3:=tP u; have h4:=tP v
 refine bE.intro Tryz.func243 rfl Tryz.ntmps243 rfl (fun cx=>(ts (rn rfl (fK (Ht rfl)) fun B2=>(ro rfl (cX (bT.cS (l:=[]) rfl)) (eZ (ts (ro rfl (eJ fA (Ht rfl) rfl) (ro rfl (fQ A_46 Z_46 (Ht rfl) (i:=0) rfl rfl) (rm rfl (ro rfl (cJ Tryz.call264 (Rh zo zo) ⟨(Ht rfl),(Ht rfl),trivial⟩) (ra rfl (eZ (ts (ro rfl (eJ fA (Ht rfl) rfl) (ro rfl (fQ A_46 Z_46 (Ht rfl) (i:=0) rfl rfl) (rm rfl (ro rfl (cJ K_265 (Bl zo zo zo) ⟨(Ht rfl),(Ht rfl),trivial⟩) ?_)))))))))))))))))
 refine rm rfl (ro rfl (aM.imp (dU (Ht rfl) rfl) (dO hu.symm)) (ro rfl (dU (Ht rfl) rfl) (ra rfl (ra rfl (eZ (ts (rm rfl (rm rfl (ro rfl (cJ K_265 (Bl zo zo zo) ⟨(Ht rfl),(Ht rfl),trivial⟩) (rm rfl (ro rfl (aM.imp (dU (Ht rfl) rfl) (dO hv.symm)) (ro rfl (dU (Ht rfl) rfl) (ra rfl (ra rfl (eZ (ts (rm rfl (ro rfl (cJ Tryz.call275 (Uc zo) ⟨(Ht rfl),trivial⟩) (ra rfl (eZ (cU (jS (fun (uu:Unit)=>True) (fun (uu:Unit)=>[(8,aH v),(10,sQ (if a < 0 then 45 :: yJ u else yJ u))]) (fun (uu:Unit)=>[box B2 129 [aD (decide (a < 0)),aH (a).natAbs]]) ?_ (fun uu _=>?_)))))))))))))))))))))))
 ·refine ts (ro rfl (eJ kH (Ht rfl) rfl) (ro rfl (fQ A_4 Z_4 (Ht rfl) (i := 0) rfl rfl) (eZ (dX (Ht rfl) (fun hb => ?_) (fun hb => ?_)))))
  ·simp only [decide_eq_true_eq] at hb
   refine dQ (rm rfl (ro rfl (lK (bT.cS (l:=[45]) rfl) (Ht rfl) (by first | omega | (simp; omega))) (ra rfl (eZ (bD () trivial (aQ rfl (aZ rfl (kP (by rw [if_pos hb]; rfl)) aX)) (dE.refl _))))))
  ·simp only [decide_eq_false_iff_not] at hb
   refine cY (bD () trivial (aQ rfl (aZ rfl (kP (by rw [if_neg hb])) aX)) (dE.refl _))
 ·have h6 : (if a < 0 then 45 :: yJ u else yJ u).length ≤ (yJ u).length + 1 := by split <;> simp
  refine cU (ts (rm rfl (ro rfl (dK U_46 (Ht rfl) aA) (ro rfl (cT (Ht rfl) (cV 1)) (rm rfl (fX rfl rfl (eU rfl rfl (Ht rfl) (fun h=>cZ (Ht rfl))) (fX rfl rfl (eU rfl rfl (Ht rfl) (fun h=>dJ U_46 Z_189 (fV rfl h) (cV 0) rfl (eQ (aO (by first | omega | (simp at h; omega)))))) (fX rfl rfl (eU rfl rfl (Ht rfl) (fun h=>dV A_189 Z_189 (fV rfl h))) (fX rfl rfl (eU rfl rfl (Ht rfl) (fun h=>cT (fV rfl h) (cV 1))) (ro rfl (fC (Ht rfl) (fun h=>(fV rfl h))) ?_))))))))))
  refine eZ (dX (Ht rfl) (fun hc=>?_) (fun hc=>?_))
  ·rw [Ln] at hc
   have hv1:v = 1:=by simpa using hc
   refine ts (rm rfl (ra rfl (eZ (fG rfl (fZ (eY rfl) ?_)))))
   exact (kP (by rw [if_pos hv1,List.append_nil]))
  ·rw [Ln] at hc
   have hv1:v ≠ 1:=by simpa using hc
   refine cY (ts (rm rfl (ro rfl (lK (Ht rfl) (bT.cS (l:=[47]) rfl) (by simp only [List.length_cons,List.length_nil]; omega)) ?_)))
   refine rm rfl (ro rfl (cJ Tryz.call275 (Uc zo) ⟨(Ht rfl),trivial⟩) (ro rfl (lK (Ht rfl) (Ht rfl) (by simp only [List.length_append,List.length_cons,List.length_nil]; omega)) ?_))
   refine ra rfl (eZ (fG rfl (fZ (eY rfl) ?_)))
   exact (kP (by rw [if_neg hv1,List.append_assoc]; rfl))
theorem a5P {x:Qi} {L:Nat} [hx:aE x L] (h:L ≤ 8796093022208):bE Tryz.prog 181 [QT x] (sQ (Zi x)):=by
 have hxa:=kT hx.fit; have hxb:=lC hx.fit; have hxd:=kU hx.fit
 have hdp:=x.den_pos
 have l1:=An x.a hdp; have l2:=An x.b hdp
 refine bE.intro Tryz.func181 rfl Tryz.ntmps181 rfl (fun cx=>(ts (rn rfl (fK (Ht rfl)) fun B1=>(ro rfl (cX (bT.cS (l:=[]) rfl)) (eZ (cU (ts (ro rfl (eJ jA (Ht rfl) rfl) (ro rfl (eJ fA (Ht rfl) rfl) (ro rfl (fQ A_46 Z_46 (Ht rfl) (i:=0) rfl rfl) (ro rfl (dK U_46 (Ht rfl) aA) (ro rfl (cT (Ht rfl) (cV 0)) (eZ (dX (Ht rfl) (fun hb=>?_) (fun hb=>?_)))))))))))))))
 ·simp only [decide_eq_true_eq] at hb
  have h0:x.b = 0:=by have:=aR.1 hb; omega
  refine ts (ro rfl (eJ iO (Ht rfl) rfl) (ro rfl (eW A_129 Z_129 (Ht rfl) (i:=0) rfl rfl rfl) (ro rfl (eJ iP (Ht rfl) rfl) (ro rfl (fQ A_46 Z_46 (Ht rfl) (i:=0) rfl rfl) (ro rfl (cJ K_243 (xA (by assumption) zo zo) ⟨(Ht rfl),(Ht rfl),trivial⟩) ?_)))))
  refine ra rfl (eZ (fG rfl (fZ (eY rfl) ?_)))
  exact (kP (by rw [Zi,if_pos h0]))
 ·simp only [decide_eq_false_iff_not] at hb
  have h0:x.b ≠ 0:=fun e=>hb (by rw [e]; exact aR.2 rfl)
  refine cY (cU (ts (ro rfl (eJ iO (Ht rfl) rfl) (ro rfl (eJ fA (Ht rfl) rfl) (ro rfl (fQ A_46 Z_46 (Ht rfl) (i:=0) rfl rfl) (ro rfl (dK U_46 (Ht rfl) aA) (ro rfl (cT (Ht rfl) (cV 0)) (eZ (dX (Ht rfl) (fun hc=>?_) (fun hc=>?_))))))))))
  ·simp only [decide_eq_true_eq] at hc
   have h1:x.a = 0:=by have:=aR.1 hc; omega
   refine ts (ro rfl (eJ jA (Ht rfl) rfl) (ro rfl (eW A_129 Z_129 (Ht rfl) (i:=0) rfl rfl rfl) (ro rfl (eJ iP (Ht rfl) rfl) (ro rfl (fQ A_46 Z_46 (Ht rfl) (i:=0) rfl rfl) (ro rfl (cJ K_243 (xA (by assumption) zo zo) ⟨(Ht rfl),(Ht rfl),trivial⟩) ?_)))))
   refine ro rfl (lK (Ht rfl) (bT.cS (l:=[105]) rfl) (by first | omega | (simp only [List.length_append,List.length_cons,List.length_nil]; omega))) (ra rfl (eZ (fG rfl (fZ (eY rfl) ?_))))
   exact (kP (by rw [Zi,if_neg h0,if_pos h1]))
  ·simp only [decide_eq_false_iff_not] at hc
   have h1:x.a ≠ 0:=fun e=>hc (by rw [e]; exact aR.2 rfl)
   refine cY (cU (ts (ro rfl (eJ jA (Ht rfl) rfl) (ro rfl (eJ kH (Ht rfl) rfl) (ro rfl (fQ A_4 Z_4 (Ht rfl) (i:=0) rfl rfl) (eZ (dX (Ht rfl) (fun hd=>?_) (fun hd=>?_))))))))
   ·simp only [decide_eq_true_eq] at hd
    refine cU (fJ (m:=9) (dp 1 rfl (eJ iO (Ht rfl) rfl) (dq 27 0 rfl (eW A_129 Z_129 (Ht rfl) (i:=0) rfl rfl rfl) (dp 1 rfl (eJ iP (Ht rfl) rfl) (dq 29 2 rfl (fQ A_46 Z_46 (Ht rfl) (i:=0) rfl rfl) (cP 28 1 30 3 rfl (cJ K_243 (xA (by assumption) zo zo) ⟨(Ht rfl),(Ht rfl),trivial⟩) ?_))))))
    refine dp 1 rfl (eJ jA (Ht rfl) rfl) (dq 32 5 rfl (eW A_129 Z_129 (Ht rfl) (i:=0) rfl rfl rfl) (dp 1 rfl (eJ iP (Ht rfl) rfl) (dq 34 7 rfl (fQ A_46 Z_46 (Ht rfl) (i:=0) rfl rfl) (fW aL rfl (by kernel_rfl) (zF (zF (aJ (aV (ro rfl (cJ K_243 (xA (by assumption) zo zo) ⟨(Ht rfl),(Ht rfl),trivial⟩) ?_)))))))))
    refine ro rfl (lK (Ht rfl) (Ht rfl) (by first | omega | (simp only [List.length_append,List.length_cons,List.length_nil]; omega))) (ro rfl (lK (Ht rfl) (bT.cS (l:=[105]) rfl) (by first | omega | (simp only [List.length_append,List.length_cons,List.length_nil]; omega))) (ra rfl (eZ (fG rfl (fZ (eY rfl) ?_)))))
    exact (kP (by rw [Zi,if_neg h0,if_neg h1,if_pos hd,List.append_assoc]))
   ·simp only [decide_eq_false_iff_not] at hd
    refine cY (cU (fJ (m:=11) (dp 1 rfl (eJ iO (Ht rfl) rfl) (dq 39 0 rfl (eW A_129 Z_129 (Ht rfl) (i:=0) rfl rfl rfl) (dp 1 rfl (eJ iP (Ht rfl) rfl) (dq 41 2 rfl (fQ A_46 Z_46 (Ht rfl) (i:=0) rfl rfl) (cP 40 1 42 3 rfl (cJ K_243 (xA (by assumption) zo zo) ⟨(Ht rfl),(Ht rfl),trivial⟩) ?_)))))))
    refine dq 43 4 rfl (lK (Ht rfl) (bT.cS (l:=[43]) rfl) (by first | omega | (simp only [List.length_append,List.length_cons,List.length_nil]; omega))) (dp 1 rfl (eJ jA (Ht rfl) rfl) (dq 45 6 rfl (eW A_129 Z_129 (Ht rfl) (i:=0) rfl rfl rfl) (dp 1 rfl (eJ iP (Ht rfl) rfl) (dq 47 8 rfl (fQ A_46 Z_46 (Ht rfl) (i:=0) rfl rfl) (cP 46 7 48 9 rfl (cJ K_243 (xA (by assumption) zo zo) ⟨(Ht rfl),(Ht rfl),trivial⟩) ?_)))))
    refine fW aL rfl (by kernel_rfl) (zF (zF (aJ (aJ (aJ (aV (ro rfl (lK (Ht rfl) (Ht rfl) (by first | omega | (simp only [List.length_append,List.length_cons,List.length_nil]; omega))) (ro rfl (lK (Ht rfl) (bT.cS (l:=[105]) rfl) (by first | omega | (simp only [List.length_append,List.length_cons,List.length_nil]; omega))) (ra rfl (eZ (fG rfl (fZ (eY rfl) ?_))))))))))))
    exact (kP (by rw [Zi,if_neg h0,if_neg h1,if_neg hd,List.append_assoc,List.append_assoc]; rfl))
theorem Kh {x y:Qi} {L M:Nat} [hx:aE x L] [hy:aE y M] (h:L ≤ 8796093022208) (h2:M ≤ 8796093022208):bE Tryz.prog 80 [aI x,QT y] (aD (decide (Zi x = Zi y))):=by
 refine bE.intro Tryz.func80 rfl Tryz.ntmps80 rfl (fun cx=>(ts (rn rfl (fK (Ht rfl)) fun B2=>(rn rfl (fK (Ht rfl)) fun B3=>(ro rfl (cX cW) (eZ (cU (fJ (m:=3) (dp 2 rfl (eW A_51 Z_51 (Ht rfl) (i:=0) rfl rfl rfl) (dq 5 0 rfl (cJ Tryz.call89 (Qx zo) ⟨(Ht rfl),trivial⟩) (dp 3 rfl (eW A_131 Z_131 (Ht rfl) (i:=1) rfl rfl rfl) (fW aL rfl (by kernel_rfl) (aJ (aJ (aJ (aV (ro rfl (cJ Tryz.call181 (a5P zo) ⟨(Ht rfl),trivial⟩) (ro rfl (Sd (Ht rfl) (Ht rfl)) ?_))))))))))))))))))
 refine ra rfl (eZ ?_)
 exact fG rfl (eY rfl)
end
section
open Go Go.RowKit
theorem nI:Tryz.prog.info? 29 = some Tryz.t29:=by kernel_rfl
end
section
open Go Go.RowKit
theorem Qs {γ:Type} {l:List γ} {T:γ → Ty} {p:γ → Bool} [sh:∀ x,eI (T x) 5 true] (hl:l.length ≤ 1000000):bE Tryz.prog 233 [lM 5 (l.map T),Ia Tryz.prog γ (fun x=>[T x]) (fun x=>aD (p x))] (aT .i64 (La p l)):=by
 refine bE.intro Tryz.func233 rfl Tryz.ntmps233 rfl (fun cx=>(ts (ro rfl (cX (cV 0)) (eZ (cU (ts (rm rfl (ro rfl (dK U_29 (Ht rfl) aA) (ro rfl (cZ (cV 0)) (eZ (eK ?_)))))))))))
 refine bS (fun (k : Nat) => k ≤ l.length ∧ ∀ (i : Nat) (x : γ), i < k → l[i]? = some x → p x = false) (fun (k : Nat) => l.length - k) (fun (k : Nat) => [(0, lM 5 (l.map T)), (1, Ia Tryz.prog γ (fun x => [T x]) (fun x => aD (p x))), (7, NT .i64 l.length), (8, NT .i64 k)]) (fun (k : Nat) => []) 0 ⟨Nat.zero_le _, fun i x h => by omega⟩
  (zS rfl) aY (fun k ⟨hk,hn⟩=>?_)
 refine ts (ro rfl (gZ (Ht rfl) (Ht rfl)) (eZ (cU (dX (Ht rfl) (fun hb=>?_) (fun hb=>?_)))))
 ·simp only [decide_eq_true_eq] at hb
  refine cY (cU (eK (ts (rm rfl (ra rfl (eZ (ts (rm rfl (rm rfl (rm rfl (ro rfl (dJ U_29 Z_51 (Ht rfl) (Ht rfl) rfl (eQ (oU hb))) (ro rfl (dV A_51 Z_51 (Ht rfl)) (ro rfl (rJ (l[k]) (Ht rfl) ⟨(Ht rfl),trivial⟩) (eZ (dX (Ht rfl) (fun hc=>?_) (fun hc=>?_))))))))))))))))
  ·have hp : p l[k] = true := hc
   refine ts (rm rfl (ra rfl (eZ (fG rfl (fZ (eY rfl) ?_)))))
   exact (aS (Lb (oU hb) hp hn).symm)
  ·have hp : p l[k] = false := hc
   refine cY (bC (dQ (ro rfl (dW (Ht rfl) (cV 1) z6) (rm rfl (eZ ?_)))))
   refine fY (k + 1) ⟨hb, fun i x h1 h2 => by
    by_cases e:i = k
    ·subst e; rw [oU hb] at h2; obtain rfl:=Option.some.inj h2; exact hp
    ·exact hn i x zo h2⟩ zo (zS rfl) aY
 ·simp only [decide_eq_false_iff_not] at hb
  refine gW rfl (ts (ro rfl (cX cW) (eZ (fG rfl (fZ (eY rfl) ?_)))))
  exact (aS (Bs (fun i x h=>hn i x (by have:=(List.getElem?_eq_some_iff.1 h).1; omega) h)).symm)
theorem yF {γ:Type} {l:List γ} {T:γ → Ty} {p:γ → Bool} [sh:∀ x,eI (T x) 5 true] (hl:l.length ≤ 1000000):bE Tryz.prog 162 [lM 5 (l.map T),Ia Tryz.prog γ (fun x=>[T x]) (fun x=>aD (p x))] (aD (l.any p)):=by
 refine bE.intro Tryz.func162 rfl Tryz.ntmps162 rfl (fun cx=>(ts (ro rfl (cX cW) (eZ (ts (rm rfl (rm rfl (ro rfl (cJ Tryz.call233 (Qs zo) ⟨(Ht rfl),(Ht rfl),trivial⟩) (ro rfl (mV (Ht rfl) cW) (ra rfl (eZ (fG rfl (fZ (eY rfl) ?_)))))))))))))
 exact (dN (Fr p l))
theorem Qt {γ:Type} {l:List γ} {T:γ → Ty} {p:γ → Bool} [sh:∀ x,eI (T x) 1 false] (hl:l.length ≤ 1000000):bE Tryz.prog 231 [lM 1 (l.map T),Ia Tryz.prog γ (fun x=>[T x]) (fun x=>aD (p x))] (aT .i64 (La p l)):=by
 refine bE.intro Tryz.func231 rfl Tryz.ntmps231 rfl (fun cx=>(ts (ro rfl (cX (cV 0)) (eZ (cU (ts (rm rfl (ro rfl (dK U_30 (Ht rfl) aA) (ro rfl (cZ (cV 0)) (eZ (eK ?_)))))))))))
 refine bS (fun (k : Nat) => k ≤ l.length ∧ ∀ (i : Nat) (x : γ), i < k → l[i]? = some x → p x = false) (fun (k : Nat) => l.length - k) (fun (k : Nat) => [(0, lM 1 (l.map T)), (1, Ia Tryz.prog γ (fun x => [T x]) (fun x => aD (p x))), (7, NT .i64 l.length), (8, NT .i64 k)]) (fun (k : Nat) => []) 0 ⟨Nat.zero_le _, fun i x h => by omega⟩
  (zS rfl) aY (fun k ⟨hk,hn⟩=>?_)
 refine ts (ro rfl (gZ (Ht rfl) (Ht rfl)) (eZ (cU (dX (Ht rfl) (fun hb=>?_) (fun hb=>?_)))))
 ·simp only [decide_eq_true_eq] at hb
  refine cY (cU (eK (ts (rm rfl (ra rfl (eZ (ts (rm rfl (rm rfl (rm rfl (ro rfl (dJ U_30 Z_29 (Ht rfl) (Ht rfl) rfl (eQ (oU hb))) (ro rfl (dV A_29 Z_29 (Ht rfl)) (ro rfl (rJ (l[k]) (Ht rfl) ⟨(Ht rfl),trivial⟩) (eZ (dX (Ht rfl) (fun hc=>?_) (fun hc=>?_))))))))))))))))
  ·have hp : p l[k] = true := hc
   refine ts (rm rfl (ra rfl (eZ (fG rfl (fZ (eY rfl) ?_)))))
   exact (aS (Lb (oU hb) hp hn).symm)
  ·have hp : p l[k] = false := hc
   refine cY (bC (dQ (ro rfl (dW (Ht rfl) (cV 1) z6) (rm rfl (eZ ?_)))))
   refine fY (k + 1) ⟨hb, fun i x h1 h2 => by
    by_cases e:i = k
    ·subst e; rw [oU hb] at h2; obtain rfl:=Option.some.inj h2; exact hp
    ·exact hn i x zo h2⟩ zo (zS rfl) aY
 ·simp only [decide_eq_false_iff_not] at hb
  refine gW rfl (ts (ro rfl (cX cW) (eZ (fG rfl (fZ (eY rfl) ?_)))))
  exact (aS (Bs (fun i x h=>hn i x (by have:=(List.getElem?_eq_some_iff.1 h).1; omega) h)).symm)
theorem yG {γ:Type} {l:List γ} {T:γ → Ty} {p:γ → Bool} [sh:∀ x,eI (T x) 1 false] (hl:l.length ≤ 1000000):bE Tryz.prog 156 [lM 1 (l.map T),Ia Tryz.prog γ (fun x=>[T x]) (fun x=>aD (p x))] (aD (l.any p)):=by
 refine bE.intro Tryz.func156 rfl Tryz.ntmps156 rfl (fun cx=>(ts (ro rfl (cX cW) (eZ (ts (rm rfl (rm rfl (ro rfl (cJ Tryz.call231 (Qt zo) ⟨(Ht rfl),(Ht rfl),trivial⟩) (ro rfl (mV (Ht rfl) cW) (ra rfl (eZ (fG rfl (fZ (eY rfl) ?_)))))))))))))
 exact (dN (Fr p l))
theorem Re {x:Qi} {L:Nat} [hx:aE x L] (h:L ≤ 8796093022208):bE Tryz.prog 247 [aI x] (aD (eO x)):=by
 haveI hz:aE Qi.zero 1:=aE.zero (Nat.le_refl 1)
 refine bE.intro Tryz.func247 rfl Tryz.ntmps247 rfl (fun cx=>(ts (rn rfl (fK (Ht rfl)) fun B1=>(ro rfl (cX cW) (eZ (ts (ro rfl (eW A_51 Z_51 (Ht rfl) (i:=0) rfl rfl rfl) (ro rfl (cJ Tryz.call169 Kg ⟨(Ht rfl),trivial⟩) (rm rfl (fX rfl rfl (eU rfl rfl (Ht rfl) (fun h=>eW A_51 Z_51 (Ht rfl) (i:=0) rfl rfl rfl)) (fX rfl rfl (eU rfl rfl (Ht rfl) (fun h=>aM.imp (Df ) oJ)) (fX rfl rfl (eU rfl rfl (Ht rfl) (fun h=>cJ Tryz.call76 (a0h zo) ⟨(fV rfl h),(fV rfl h),trivial⟩)) ?_))))))))))))
 refine fX rfl rfl (eU rfl rfl (Ht rfl) (fun h=>Gj (fV rfl h) cW)) (ro rfl (fC (Ht rfl) (fun h=>(fV rfl h))) (ra rfl (eZ (fG rfl (fZ (eY rfl) ?_)))))
 exact (dN (a1M x))
theorem Kl {x:Qi} {L:Nat} [hx:aE x L] (h:L ≤ 8796093022208):bE Tryz.prog 246 [aI x] (aD (!eO x)):=by
 refine bE.intro Tryz.func246 rfl Tryz.ntmps246 rfl (fun cx=>(ts (rn rfl (fK (Ht rfl)) fun B1=>(ro rfl (cX cW) (eZ (ts (ro rfl (eW A_51 Z_51 (Ht rfl) (i:=0) rfl rfl rfl) (ro rfl (cJ Tryz.call247 (Re zo) ⟨(Ht rfl),trivial⟩) (ro rfl (dR (Ht rfl)) (ra rfl (eZ ?_)))))))))))
 exact fG rfl (eY rfl)
theorem Cl {z:List Qi} {L:Nat} (hz:cB z L) (h:L ≤ 8796093022208) (hl:z.length ≤ 1000):bE Tryz.prog 183 [bB z] (aT .i64 (if z.all eO then 0 else 1)):=by
 obtain ⟨l,hzl⟩:∃ l:List {x:Qi // aE x L},z = l.map Subtype.val:=⟨z.attach.map fun x=>⟨x.1,hz x.1 x.2⟩,by simp⟩
 subst hzl
 have hll:l.length ≤ 1000:=by simpa using hl
 refine bE.intro Tryz.func183 rfl Tryz.ntmps183 rfl (fun cx=>(qC (E':=[(0,_)]) (aZ rfl (kO (Us:=l.map fun x=>aI x.1) (by simp [List.map_map,Function.comp_def])) aX) ?_))
 refine ts (ro rfl (cX (cV 0)) (eZ (cU (ts (rm rfl (ro rfl (cJ Tryz.call162 (yF (l:=l) (T:=fun x=>aI x.1) (p:=fun x=>!eO x.1) zo) ⟨(Ht rfl),(bT.fn Tryz.call246 (γ:={x:Qi // aE x L}) (Ts:=fun x=>[aI x.1]) (U:=fun x=>aD (!eO x.1)) (fun x=>haveI:=x.2; Kl h)),trivial⟩) (eZ (dX (Ht rfl) (fun hb=>?_) (fun hb=>?_)))))))))
 ·have hn : ¬ (l.map Subtype.val).all eO = true := by simp at hb ⊢; exact hb
  refine ts (ro rfl (cX (cV 1)) (eZ (fG rfl (fZ (eY rfl) ?_))))
  exact (aS (by rw [if_neg hn]; rfl))
 ·have hn : (l.map Subtype.val).all eO = true := by simp at hb ⊢; exact hb
  refine cY (ts (ro rfl (cX (cV 0)) (eZ (fG rfl (fZ (eY rfl) ?_)))))
  exact (aS (by rw [if_pos hn]; rfl))
theorem Mp {l:List Qi} (hl:l.length ≤ 1000):gG Tryz.prog 158 [bB l] [] (Value) (fun v=>Is v) (fun v=>[cL 51 5 v (l.map aI)]) (fun _=>True):=by
 refine gG.intro Tryz.func158 rfl Tryz.ntmps158 rfl (fun cx Z=>(ts (ro rfl (cX cW) (eZ (cU (ts (rm rfl (ro rfl (a1B U_29 (Ht rfl)) (eZ (a2v (Ht rfl) (fun hb=>?_) (fun hb=>?_)))))))))))
 ·have hT : l.map aI = [] := hb rfl
  refine ts (ro rfl (cX cW) (eZ (zO 51 5 ?_)))
  exact jT (.slice none 0 0) trivial [0,1] ⟨⟨_,rfl,fun _ _ _ h=>h⟩,⟨_,rfl,(bO hT.symm)⟩,trivial⟩ (by decide) (wN rfl (eY rfl))
 ·refine cY (ts (rn rfl (Co U_29 Z_51 O_51) fun B5 => (rm rfl (Ic (inf := Tryz.t51) nR lH rfl rfl rfl (Ht rfl) (Ht rfl) (i := 1) rfl (fun T hT => by obtain ⟨x, _, rfl⟩ := List.mem_map.1 hT; exact El.ag rfl) (by show _ * 88 ≤ _; simp only [List.length_map, List.length_nil]; omega) (by simp only [List.length_map, List.length_nil]; omega) rfl (fun v2 => ?_)))))
  refine ra rfl (eZ ?_)
  exact jT v2 trivial [0,1] ⟨⟨_,rfl,fun _ _ _ h=>h⟩,⟨_,rfl,fun _ _ _ h=>h⟩,trivial⟩ (by decide) (wN rfl (eY rfl))
theorem Ke {l:List Qi} (hl:l.length ≤ 1000):bE Tryz.prog 158 [bB l] (bB l):=(Mp hl).fun fun v _=>jG
theorem Tx {n:Nat} {f:Nat → Nat → Qi} (hn:n ≤ 1000):gG Tryz.prog 114 [NT .i64 n,Ia Tryz.prog (Fin n × Fin n) (fun x=>[NT .i64 x.1.1,NT .i64 x.2.1]) (fun x=>aI (f x.1.1 x.2.1))] [] (Nat) (fun B=>Is (.slice (some ⟨B,0,none⟩) n n)) (fun B=>[oF B 29 51 5 (bP aI (tab n fun i=>tab n (f i)))]) (fun _=>True):=by
 refine gG.intro Tryz.func114 rfl Tryz.ntmps114 rfl (fun cx Z=>(ts (ro rfl (cX cW) (eZ (ts (rm rfl (rn rfl (eM (T:=Is (.slice none 0 0)) (i:=Tryz.t29) V_30 nI rfl rfl (Ht rfl) rfl (fun _=>rfl) trivial (by show 24 * _ ≤ _; omega) zo) fun B9=>(ra rfl (eZ (cU (ts (rm rfl (ro rfl (iD U_30 (Ht rfl)) (ro rfl (cZ (cV 0)) (eZ (eK (nM 1 rfl (tU (e:=51) (s:=5)) ?_)))))))))))))))))
 refine gA (fun (k : Nat) (m : List (List Qi)) => mX (fun i => tab n (f i)) n m k) (fun (k : Nat) (m : List (List Qi)) => n - k) (fun (k : Nat) (m : List (List Qi)) => [(0, NT .i64 n), (1, Ia Tryz.prog (Fin n × Fin n) (fun x => [NT .i64 x.1.1, NT .i64 x.2.1]) (fun x => aI (f x.1.1 x.2.1))), (5, Is (.slice (some ⟨B9, 0, none⟩) n n)), (11, NT .i64 n), (12, NT .i64 k)]) (fun (k : Nat) (m : List (List Qi)) => [Z, oF B9 29 51 5 (bP aI m)]) 0 (List.replicate n []) (mX.start _ _ _)
  (zS rfl) (aU (fun _ _ _ h=>h) (aU (bF (mF aI n)) aY)) (fun k m hS=>?_)
 refine ts (ro rfl (gZ (Ht rfl) (Ht rfl)) (eZ (cU (dX (Ht rfl) (fun hk=>?_) (fun hk=>?_)))))
 ·simp only [decide_eq_true_eq] at hk
  have hlen:=hS.len
  refine nF 1 (k) rfl (kY (m:=m) (i:=k) zo) (fun v=>(cY (cU (eK (ts (rm rfl (ra rfl (eZ (ts (rm rfl (rm rfl (rm rfl (rn rfl (mM (T:=aI Qi.zero) (i:=Tryz.t51) nR lH rfl rfl (Ht rfl) rfl lJ (El.ag rfl) (by show 88 * _ ≤ _; omega) zo) fun B18=>(ro rfl (gQ U_30 Z_29 (Ht rfl) (Ht rfl) rfl zo (by rw [Nat.mul_one,Nat.zero_add])) ?_))))))))))))))
  refine sP Z_29 (Ht rfl) (Ht rfl) (by simp; omega) (j:=1) (l:=3) rfl rfl rfl ?_
  refine eZ (cU (bR [0,1,3] rfl (by decide) (dQ (rm rfl (rm rfl (ro rfl (gQ U_30 Z_29 (Ht rfl) (Ht rfl) rfl zo (by rw [Nat.mul_one,Nat.zero_add])) ?_))))))
  refine ro rfl (gI A_29 Z_29 (Ht rfl) (j:=1) rfl) (ro rfl (sF U_29 (Ht rfl) (i:=2) rfl (show ((List.replicate n (aI Qi.zero)).length:Int) = ((n:Nat):Int) by simp)) (ro rfl (cZ (cV 0)) (eZ (eK ?_))))
  refine gA (fun (j : Nat) (out : List Qi) => mX (f k) n out j) (fun (j : Nat) (out : List Qi) => n - j) (fun (j : Nat) (out : List Qi) => [(0, NT .i64 n), (1, Ia Tryz.prog (Fin n × Fin n) (fun x => [NT .i64 x.1.1, NT .i64 x.2.1]) (fun x => aI (f x.1.1 x.2.1))), (5, Is (.slice (some ⟨B9, 0, none⟩) n n)), (6, NT .i64 k), (11, NT .i64 n), (12, NT .i64 k), (24, NT .i64 n), (25, NT .i64 j)]) (fun (j : Nat) (out : List Qi) => [Z, Hw B9 29 51 5 (bP aI m) k B18, cL 51 5 B18 (out.map aI)]) 0 (List.replicate n Qi.zero) (mX.start _ _ _)
   (zS rfl) (aU (fun _ _ _ h=>h) (aU (fun _ _ _ h=>h) (aU (bO (wJ aI _ _)) aY))) (fun j out hT=>?_)
  refine ts (ro rfl (gZ (Ht rfl) (Ht rfl)) (eZ (cU (dX (Ht rfl) (fun hj=>?_) (fun hj=>?_)))))
  ·simp only [decide_eq_true_eq] at hj
   have hlen2:=hT.len
   refine cY (cU (eK (ts (rm rfl (ra rfl (eZ (fJ (m:=9) (dp 5 rfl (cZ (Ht rfl)) (dp 6 rfl (cZ (Ht rfl)) (cP 28 0 29 1 rfl (gQ U_30 Z_29 (Ht rfl) (Ht rfl) rfl zo (by rw [Nat.mul_one,Nat.zero_add])) ?_))))))))))
   refine dq 30 2 rfl (gI A_29 Z_29 (Ht rfl) (j:=1) rfl) (dp 7 rfl (cZ (Ht rfl)) (dp 1 rfl (cZ (Ht rfl)) (dp 6 rfl (cZ (Ht rfl)) (dp 7 rfl (cZ (Ht rfl)) (C.D_step (Ei:=[(33,_),(34,_),(35,_)]) rfl rfl (bV (bG 5 rfl rfl) (bV (bG 6 rfl rfl) (bV (bG 7 rfl rfl) bW))) (dZ rfl (rJ ((⟨k,hk⟩,⟨j,hj⟩):Fin n × Fin n) (Ht rfl) ⟨(Ht rfl),(Ht rfl),trivial⟩)) (fW aL rfl (by kernel_rfl) (zF (zF (aJ (aV ?_))))))))))
   refine ro rfl (cR U_29 Z_51 (Ht rfl) (Ht rfl) rfl (i:=2) rfl (by first | omega | (simp; omega)) rfl) (kV Z_51 (Ht rfl) (Ht rfl) (El.ag rfl) (i:=2) rfl rfl (by first | omega | (simp; omega)) rfl (eZ (bC (dQ (ro rfl (dW (Ht rfl) (cV 1) z6) (rm rfl (eZ (fY (j + 1,_) (hT.next hj rfl) (by dsimp only; omega) (zS rfl) (aU (fun _ _ _ h=>h) (aU (fun _ _ _ h=>h) (aU (bO (eN aI _ _ _)) aY)))))))))))
  ·simp only [decide_eq_false_iff_not] at hj
   obtain rfl:j = n:=Nat.le_antisymm hT.kle zo
   have hfin:=hT.fin
   refine gW rfl (bC (dL 1 2 rfl rfl (by decide) (by simp; omega) ?_))
   refine dQ (ro rfl (dW (Ht rfl) (cV 1) z6) (rm rfl (eZ (bR [0,1] rfl (by decide) (fY (k + 1,_) (hS.next hk hfin) (by dsimp only; omega) (zS rfl) (aU (fun _ _ _ h=>h) (aU (bF (eE aI _ _ _)) aY)))))))
 ·simp only [decide_eq_false_iff_not] at hk
  obtain rfl:k = n:=Nat.le_antisymm hS.kle zo
  have hfin:=hS.fin
  refine gW rfl (ts (rm rfl (ra rfl (eZ ?_))))
  exact jT B9 trivial [0,1] ⟨⟨_,rfl,fun _ _ _ h=>h⟩,⟨_,rfl,(bF (by rw [hfin]))⟩,trivial⟩ (by decide) (wN rfl (eY rfl))
theorem Ra {n:Nat} {f:Nat → Nat → Qi} (hn:n ≤ 1000):bE Tryz.prog 114 [NT .i64 n,Ia Tryz.prog (Fin n × Fin n) (fun x=>[NT .i64 x.1.1,NT .i64 x.2.1]) (fun x=>aI (f x.1.1 x.2.1))] (bL (tab n fun i=>tab n (f i))):=(Tx hn).fun fun B _ v S V h1 h2=>kO (by simp [bP,List.map_map,Function.comp_def]) v V (Uq (by simp [bP,aN]) (Nat.le_refl _) v S V h1 h2)
end
section
open Go Go.RowKit
theorem oA {n : Nat} {E : dI} {H : Hp} {d : Option Tmp} {t : TypeId} {pos : String} {af : Array Edge} {g : Option (Nat × Bool)}  :
  aM Tryz.prog n E H ⟨d,.build 32 #[],t,pos,af,g⟩ (fE [Is (.slice none 0 0),Is (.slice none 0 0)]) :=
 gL (parts := []) fun a V w hs => by
  refine ⟨.agg #[(.slice none 0 0),(.slice none 0 0)],?_,[(.slice none 0 0),(.slice none 0 0)],rfl,aW (⟨rfl,trivial⟩) (aW (⟨rfl,trivial⟩) (aG))⟩
  simp [Instr.build,Instr.fill,Sem.run_bind,Result.andThen,fD,O_32,U_32,Z_29,Z_30]
theorem yR {n : Nat} {E : dI} {H : Hp} {d : Option Tmp} {t : TypeId} {pos : String} {af : Array Edge} {g : Option (Nat × Bool)} {x0 x1 : Operand} {T0 T1 : Ty} [s0 : eI T0 1 false] (h0 : bT E x0 T0) [s1 : eI T1 1 false] (h1 : bT E x1 T1) :
  aM Tryz.prog n E H ⟨d,.build 32 #[(0,x0),(1,x1)],t,pos,af,g⟩ (fE [T0,T1]) :=
 gL (parts := [(0, x0), (1, x1)]) fun a V w hs => by
  have p0:=h0 n V a hs
  generalize e0:a.eval x0 = v0 at p0
  have q0:=(s0.ok v0 V p0).2.2 rfl
  have p1:=h1 n V a hs
  generalize e1:a.eval x1 = v1 at p1
  have q1:=(s1.ok v1 V p1).2.2 rfl
  refine ⟨.agg #[v0,v1],?_,[v0,v1],rfl,aW (⟨p0,q0⟩) (aW (⟨p1,q1⟩) (aG))⟩
  simp [e0,e1,Instr.build,Instr.fill,Sem.run_bind,Result.andThen,fD,q0.cells,q1.cells,O_32,U_32,Z_29,Z_30]
theorem lW (a:Addr) (w:World):(Instr.fieldAt 32 (.pointer (some a)) 0).run Tryz.prog w = .ok (.pointer (some (a.add 0))) w:=by
 simp [Instr.fieldAt,Instr.sureAddr,fieldPlace,Sem.run_bind,Result.andThen,U_32,Z_29]
end
section
open Go Go.RowKit
theorem a5B {s:List (List Qi)} {n i j:Nat} (hs:cI s n n) (hi:i < n) (hj:j < n):bE Tryz.prog 187 [NT .i64 i,NT .i64 j,PT (bL s)] (aI (gm s i j)):=by
 have h1:=hs.1; have h2:=hs.row hi
 refine bE.intro Tryz.func187 rfl Tryz.ntmps187 rfl (fun cx=>(ts (rn rfl (eG (Ts:=[Is (.bool false),Is (.slice none 0 0),Is (.bool false),Is (.slice none 0 0),Is (.slice none 0 0)]) O_51 rfl (fun V=>aW zd (aW zd (aW zd (aW zd (aW zd (aG))))))) fun B5=>(eZ (ts (ro rfl (dV A_30 Z_30 (Ht rfl)) (rm rfl (ro rfl (dJ U_30 Z_29 (Ht rfl) (Ht rfl) rfl (eQ (dY (d:=[]) zo))) (ro rfl (dV A_29 Z_29 (Ht rfl)) ?_)))))))))
 refine rm rfl (ro rfl (dJ U_29 Z_51 (Ht rfl) (Ht rfl) rfl (eQ (dY (d:=Qi.zero) zo))) (ro rfl (dV A_51 Z_51 (Ht rfl)) (gX Z_51 (Ht rfl) (Ht rfl) rfl (i:=0) rfl (aK rfl) rfl rfl (eZ ?_))))
 exact fG rfl (fU A_51 Z_51 rfl (i:=0) rfl rfl)
theorem Mu {z:List Qi} {s:List (List Qi)} {L:Nat} (hz:cB z L) (h:L ≤ 8796093022208) (hl:z.length ≤ 1000) (hl2:s.length ≤ 1000):bE Tryz.prog 85 [bB z,bL s] (eS [iT (dA (cM z s) z) (dA (cM z s) s),aT .i64 (cM z s)]):=by
 refine bE.intro Tryz.func85 rfl Tryz.ntmps85 rfl (fun cx=>(ts (rn rfl (tB (Ht rfl)) fun B3=>(rn rfl (eG (Ts:=[Is (.slice none 0 0),Is (.slice none 0 0)]) O_32 rfl (fun V=>aW zd (aW zd (aG)))) fun B4=>(ro rfl (cX (cV 0)) (eZ (cU (cU (gV (i:=0) (tt:=3) rfl rfl oE (dQ (rm rfl (ro rfl (dK U_29 (Ht rfl) aA) (ro rfl (gZ (Ht rfl) (cV 1)) (rm rfl (fX rfl rfl (eU rfl rfl (Ht rfl) (fun h=>cZ (Ht rfl))) (fX rfl rfl (eU rfl rfl (Ht rfl) (fun h=>dK U_29 (fV rfl h) aA)) ?_))))))))))))))))
 refine fX rfl rfl (eU rfl rfl (Ht rfl) (fun h=>eH (fV rfl h) (cV 8))) (ro rfl (gN (Ht rfl) (fun h=>(fV rfl h))) (rm rfl (fX rfl rfl (eU rfl rfl (Ht rfl) (fun h=>dV A_30 Z_30 (Ht rfl))) (fX rfl rfl (eU rfl rfl (Ht rfl) (fun h=>dK U_30 (fV rfl h) aA)) (fX rfl rfl (eU rfl rfl (Ht rfl) (fun h=>cZ (Ht rfl))) (fX rfl rfl (eU rfl rfl (Ht rfl) (fun h=>dK U_29 (fV rfl h) aA)) (fX rfl rfl (eU rfl rfl (Ht rfl) (fun h=>fB (fV rfl h) (fV rfl h))) ?_)))))))
 refine ro rfl (gN (Ht rfl) (fun h=>(fV rfl h))) (eZ (dX (Ht rfl) (fun hb=>?_) (fun hb=>?_)))
 ·have he := Ot hb
  refine ts (ro rfl (aM.imp (oA ) oH) (gX Z_32 (Ht rfl) (Ht rfl) rfl (i:=1) rfl (aK rfl) rfl rfl (ro rfl (cX (cV 4)) (eZ (bM rfl (fZ (fU A_32 Z_32 rfl (i:=1) rfl rfl) ?_) (fZ (eY rfl) ?_))))))
  ·exact (Lh he (by decide))
  ·exact (aS he.symm)
 ·refine cY (cU (ts (ro rfl (dV A_30 Z_30 (Ht rfl)) (ro rfl (dK U_30 (Ht rfl) aA) (ro rfl (cZ (cV 0)) (eZ (eK ?_)))))))
  refine bS (fun (k : Nat) => k ≤ s.length ∧ ∀ (i : Nat) (r : List Qi), i < k → s[i]? = some r → r.length = z.length) (fun (k : Nat) => s.length - k) (fun (k : Nat) => [(0, bB z), (3, PT (bL s)), (4, cC B4 0), (25, bL s), (26, NT .i64 s.length), (27, NT .i64 k)]) (fun (k : Nat) => [SA.emp, box B4 32 [Is (.slice none 0 0), Is (.slice none 0 0)]]) 0 ⟨Nat.zero_le _, fun i r h => by omega⟩
   (zS rfl) (dE.refl _) (fun k ⟨hk,hr⟩=>?_)
  refine ts (ro rfl (gZ (Ht rfl) (Ht rfl)) (eZ (cU (dX (Ht rfl) (fun hc=>?_) (fun hc=>?_)))))
  ·simp only [decide_eq_true_eq] at hc
   refine cY (cU (eK (ts (ro rfl (dJ U_30 Z_29 (Ht rfl) (Ht rfl) rfl (eQ (oU hc))) (ro rfl (dV A_29 Z_29 (Ht rfl)) (ra rfl (eZ (ts (rm rfl (ro rfl (dK U_29 (Ht rfl) aA) (rm rfl (ro rfl (dK U_29 (Ht rfl) aA) (ro rfl (fB (Ht rfl) (Ht rfl)) (eZ (dX (Ht rfl) (fun hd=>?_) (fun hd=>?_))))))))))))))))
   ·have hd2 : ¬ (s[k]).length = z.length := by simpa using hd
    have he:=Ry (oU hc) hd2
    refine ts (ro rfl (aM.imp (oA ) oH) (gX Z_32 (Ht rfl) (Ht rfl) rfl (i:=1) rfl (aK rfl) rfl rfl (ro rfl (cX (cV 4)) (eZ (bM rfl (fZ (fU A_32 Z_32 rfl (i:=1) rfl rfl) ?_) (fZ (eY rfl) ?_))))))
    ·exact (Lh he (by decide))
    ·exact (aS he.symm)
   ·have hd2 : (s[k]).length = z.length := by simpa using hd
    refine cY (bC (dQ (ro rfl (dW (Ht rfl) (cV 1) z6) (rm rfl (eZ ?_)))))
    refine fY (k + 1) ⟨hc, fun i r h1 h2 => by
      by_cases e:i = k
      ·subst e; rw [oU hc] at h2; obtain rfl:=Option.some.inj h2; exact hd2
      ·exact hr i r zo h2⟩ zo (zS rfl) (dE.refl _)
  ·simp only [decide_eq_false_iff_not] at hc
   have hall:∀ (i:Nat) (r:List Qi),s[i]? = some r → r.length = z.length:=fun i r h=>hr i r (by have:=(List.getElem?_eq_some_iff.1 h).1; omega) h
   have hpos:=Rx hb hall
   refine gW rfl (cU (ts (rm rfl (ro rfl (cJ Tryz.call183 (Cl hz h zo) ⟨(Ht rfl),trivial⟩) (ra rfl (eZ (ts (rm rfl (ro rfl (iR (Ht rfl) cW) (eZ (dX (Ht rfl) (fun hd=>?_) (fun hd=>?_))))))))))))
   ·have hd2 : ¬ (if z.all eO = true then (0 : Int) else 1) = 0 := by simpa using hd
    refine ts (ro rfl (aM.imp (oA ) oH) (rm rfl (gX Z_32 (Ht rfl) (Ht rfl) rfl (i:=1) rfl (aK rfl) rfl rfl (ra rfl (eZ (bM rfl (fZ (fU A_32 Z_32 rfl (i:=1) rfl rfl) ?_) (fZ (eY rfl) ?_)))))))
    ·exact (Lh hpos hd2)
    ·exact (aS hpos.symm)
   ·have hd2 : (if z.all eO = true then (0 : Int) else 1) = 0 := by simpa using hd
    have he:=hpos.trans hd2
    obtain ⟨h1,h2,hsh,_⟩:=xO he
    refine cY (ts (rm rfl (ro rfl (cJ Tryz.call158 (Ke zo) ⟨(Ht rfl),trivial⟩) (rm rfl (ro rfl (dK U_29 (Ht rfl) aA) (ro rfl (qI (γ:=Fin z.length × Fin z.length) (Ts:=fun x=>[NT .i64 x.1.1,NT .i64 x.2.1]) (U:=fun x=>aI (gm s x.1.1 x.2.1)) Tryz.call187 (fun x=>a5B hsh x.1.2 x.2.2) ⟨(Ht rfl),trivial⟩) (ro rfl (cJ Tryz.call114 (eX (Ra (n:=z.length) (f:=gm s) zo) (kO (by rw [← sB hsh]))) ⟨(Ht rfl),(Ht rfl),trivial⟩) ?_)))))))
    refine ro rfl (yR (Ht rfl) (Ht rfl)) (gX Z_32 (Ht rfl) (Ht rfl) rfl (i:=1) rfl (aK rfl) rfl rfl (ro rfl (cX (cV 0)) (eZ (bM rfl (fZ (fU A_32 Z_32 rfl (i:=1) rfl rfl) ?_) (fZ (eY rfl) ?_)))))
    ·exact (a1s he)
    ·exact (aS he.symm)
theorem oB {z:List Qi} {s:List (List Qi)}:bE Tryz.prog 22 [iT z s] (NT .i64 z.length):=by
 refine bE.intro Tryz.func22 rfl Tryz.ntmps22 rfl (fun cx=>(ts (rn rfl (fK (Ht rfl)) fun B1=>(ro rfl (cX (cV 0)) (eZ (ts (ro rfl (eJ lW (Ht rfl) rfl) (ro rfl (fQ A_29 Z_29 (Ht rfl) (i:=0) rfl rfl) (ro rfl (dK U_29 (Ht rfl) aA) (ra rfl (eZ ?_)))))))))))
 exact fG rfl (eY rfl)
theorem Ms {z:List Qi} {s:List (List Qi)} {i:Int}:bE Tryz.prog 106 [iT z s,aT .i64 i] (aD (decide (1 ≤ i ∧ i ≤ z.length))):=by
 refine bE.intro Tryz.func106 rfl Tryz.ntmps106 rfl (fun cx=>(ts (rn rfl (fK (Ht rfl)) fun B2=>(ro rfl (cX cW) (eZ (ts (rm rfl (ro rfl (mV (Ht rfl) cW) (rm rfl (fX rfl rfl (eU rfl rfl (Ht rfl) (fun h=>cZ (Ht rfl))) (fX rfl rfl (eU rfl rfl (Ht rfl) (fun h=>eJ lW (Ht rfl) rfl)) (fX rfl rfl (eU rfl rfl (Ht rfl) (fun h=>fQ A_29 Z_29 (fV rfl h) (i:=0) rfl rfl)) (fX rfl rfl (eU rfl rfl (Ht rfl) (fun h=>dK U_29 (fV rfl h) aA)) (fX rfl rfl (eU rfl rfl (Ht rfl) (fun h=>Sf (fV rfl h) (fV rfl h))) ?_))))))))))))))
 refine ro rfl (fC (Ht rfl) (fun h=>(fV rfl h))) (ra rfl (eZ (fG rfl (fZ (eY rfl) ?_))))
 exact (dN (by rw [Bool.eq_iff_iff]; simp))
end
section
open Go Go.RowKit
theorem mK (a:Addr) (w:World):(Instr.fieldAt 32 (.pointer (some a)) 1).run Tryz.prog w = .ok (.pointer (some (a.add 1))) w:=by
 simp [Instr.fieldAt,Instr.sureAddr,fieldPlace,Sem.run_bind,Result.andThen,U_32,Z_30]
theorem oD (a:Addr) (w:World):(Instr.fieldAt 34 (.pointer (some a)) 0).run Tryz.prog w = .ok (.pointer (some (a.add 0))) w:=by
 simp [Instr.fieldAt,Instr.sureAddr,fieldPlace,Sem.run_bind,Result.andThen,U_34,Z_32]
theorem nH (a:Addr) (w:World):(Instr.fieldAt 34 (.pointer (some a)) 1).run Tryz.prog w = .ok (.pointer (some (a.add 2))) w:=by
 simp [Instr.fieldAt,Instr.sureAddr,fieldPlace,Sem.run_bind,Result.andThen,U_34,Z_30]
end
section
open Go Go.RowKit
theorem Tv {z:List Qi} {s:List (List Qi)} {i:Int} (hl:z.length ≤ 1000):bE Tryz.prog 23 [iT z s,aT .i64 i] (eS [aI (Yp z i),aT .i64 (if 1 ≤ i ∧ i ≤ z.length then 0 else 1)]):=by
 refine bE.intro Tryz.func23 rfl Tryz.ntmps23 rfl (fun cx=>(ts (rn rfl (fK (Ht rfl)) fun B2=>(rn rfl (eG (Ts:=[Is (.bool false),Is (.slice none 0 0),Is (.bool false),Is (.slice none 0 0),Is (.slice none 0 0)]) O_51 rfl (fun V=>aW zd (aW zd (aW zd (aW zd (aW zd (aG))))))) fun B4=>(ro rfl (cX (cV 0)) (eZ (cU (ts (ro rfl (eW A_32 Z_32 (Ht rfl) (i:=0) rfl rfl rfl) (rm rfl (ro rfl (cJ Tryz.call106 Ms ⟨(Ht rfl),(Ht rfl),trivial⟩) ?_)))))))))))
 refine ro rfl (dR (Ht rfl)) (eZ (dX (Ht rfl) (fun hb=>?_) (fun hb=>?_)))
 ·have hn : ¬ (1 ≤ i ∧ i ≤ (z.length : Int)) := by simpa only [Bool.not_eq_true', decide_eq_false_iff_not] using hb
  refine ts (ro rfl (aM.imp (Df ) oJ) (gX Z_51 (Ht rfl) (Ht rfl) rfl (i:=1) rfl (aK rfl) rfl rfl (ro rfl (cX (cV 1)) (eZ (bM rfl (fZ (fU A_51 Z_51 rfl (i:=1) rfl rfl) ?_) (fZ (eY rfl) ?_))))))
  ·exact (nO (by rw [Yp,if_neg hn]))
  ·exact (aS (by rw [if_neg hn]; rfl))
 ·have hp : 1 ≤ i ∧ i ≤ (z.length : Int) := by simpa only [Bool.not_eq_false', decide_eq_true_eq] using hb
  have hq:(i - 1).toNat < z.length:=by omega
  refine cY (ts (ro rfl (eJ lW (Ht rfl) rfl) (ro rfl (fQ A_29 Z_29 (Ht rfl) (i:=0) rfl rfl) (rm rfl (ro rfl (iY (Ht rfl) cW (Ej zo)) (ro rfl (dJ U_29 Z_51 (Ht rfl) (Ht rfl) (by omega:i - 1 = (((i - 1).toNat:Nat):Int)) (eQ (dY (d:=Qi.zero) hq))) (ro rfl (dV A_51 Z_51 (Ht rfl)) (gX Z_51 (Ht rfl) (Ht rfl) rfl (i:=1) rfl (aK rfl) rfl rfl (ro rfl (cX (cV 0)) (eZ (bM rfl (fZ (fU A_51 Z_51 rfl (i:=1) rfl rfl) ?_) (fZ (eY rfl) ?_))))))))))))
  ·exact (nO (by rw [Yp,if_pos hp]))
  ·exact (aS (by rw [if_pos hp]; rfl))
theorem a7l {z:List Qi} {s:List (List Qi)} {i j:Int} (hs:cI s z.length z.length) (hl:z.length ≤ 1000):bE Tryz.prog 25 [iT z s,aT .i64 i,aT .i64 j] (eS [aI (Yo z.length s i j),aT .i64 (if (1 ≤ i ∧ i ≤ z.length) ∧ 1 ≤ j ∧ j ≤ z.length then 0 else 1)]):=by
 have hs1:=hs.1
 refine bE.intro Tryz.func25 rfl Tryz.ntmps25 rfl (fun cx=>(ts (rn rfl (fK (Ht rfl)) fun B3=>(rn rfl (eG (Ts:=[Is (.bool false),Is (.slice none 0 0),Is (.bool false),Is (.slice none 0 0),Is (.slice none 0 0)]) O_51 rfl (fun V=>aW zd (aW zd (aW zd (aW zd (aW zd (aG))))))) fun B6=>(ro rfl (cX (cV 0)) (eZ (cU (ts (ro rfl (eW A_32 Z_32 (Ht rfl) (i:=0) rfl rfl rfl) (rm rfl (ro rfl (cJ Tryz.call106 Ms ⟨(Ht rfl),(Ht rfl),trivial⟩) ?_)))))))))))
 refine ro rfl (dR (Ht rfl)) (rm rfl (fX rfl rfl (eU rfl rfl (Ht rfl) (fun h=>eW A_32 Z_32 (Ht rfl) (i:=0) rfl rfl rfl)) (fX rfl rfl (eU rfl rfl (Ht rfl) (fun h=>cZ (Ht rfl))) (fX rfl rfl (eU rfl rfl (Ht rfl) (fun h=>cJ Tryz.call106 Ms ⟨(fV rfl h),(fV rfl h),trivial⟩)) (fX rfl rfl (eU rfl rfl (Ht rfl) (fun h=>dR (fV rfl h))) (ro rfl (gN (Ht rfl) (fun h=>(fV rfl h))) (eZ (dX (Ht rfl) (fun hb=>?_) (fun hb=>?_)))))))))
 ·have hn : ¬ ((1 ≤ i ∧ i ≤ (z.length : Int)) ∧ 1 ≤ j ∧ j ≤ (z.length : Int)) := by simp only [Bool.or_eq_true, Bool.not_eq_true', decide_eq_false_iff_not] at hb; exact fun k => hb.elim (fun h => h k.1) (fun h => h k.2)
  refine ts (rn rfl (eG (Ts:=[Is (.bool false),Is (.slice none 0 0),Is (.bool false),Is (.slice none 0 0),Is (.slice none 0 0)]) O_51 rfl (fun V=>aW zd (aW zd (aW zd (aW zd (aW zd (aG))))))) fun B8=>(eZ (ts (ro rfl (eW A_51 Z_51 (Ht rfl) (i:=2) rfl rfl rfl) (gX Z_51 (Ht rfl) (Ht rfl) rfl (i:=1) rfl (aK rfl) rfl rfl (ro rfl (cX (cV 1)) (eZ (bM rfl (fZ (fU A_51 Z_51 rfl (i:=1) rfl rfl) ?_) (fZ (eY rfl) ?_)))))))))
  ·exact (fun v V k=>by rw [Yo,if_neg hn]; exact oJ v V k)
  ·exact (aS (by rw [if_neg hn]; rfl))
 ·have hp : (1 ≤ i ∧ i ≤ (z.length : Int)) ∧ 1 ≤ j ∧ j ≤ (z.length : Int) := by simpa only [Bool.or_eq_false_iff, Bool.not_eq_false', decide_eq_true_eq] using hb
  have hq:(i - 1).toNat < s.length:=by omega
  have hq2:(j - 1).toNat < (s.getD (i - 1).toNat []).length:=by rw [hs.row zo]; omega
  refine cY (ts (ro rfl (eJ mK (Ht rfl) rfl) (ro rfl (fQ A_30 Z_30 (Ht rfl) (i:=0) rfl rfl) (rm rfl (ro rfl (iY (Ht rfl) cW (Ej zo)) (ro rfl (dJ U_30 Z_29 (Ht rfl) (Ht rfl) (by omega:i - 1 = (((i - 1).toNat:Nat):Int)) (eQ (dY (d:=[]) hq))) (ro rfl (dV A_29 Z_29 (Ht rfl)) (rm rfl (ro rfl (iY (Ht rfl) cW (Ej zo)) (ro rfl (dJ U_29 Z_51 (Ht rfl) (Ht rfl) (by omega:j - 1 = (((j - 1).toNat:Nat):Int)) (eQ (dY (d:=Qi.zero) hq2))) ?_))))))))))
  refine ro rfl (dV A_51 Z_51 (Ht rfl)) (gX Z_51 (Ht rfl) (Ht rfl) rfl (i:=1) rfl (aK rfl) rfl rfl (ro rfl (cX (cV 0)) (eZ (bM rfl (fZ (fU A_51 Z_51 rfl (i:=1) rfl rfl) ?_) (fZ (eY rfl) ?_)))))
  ·exact (nO (by rw [Yo,if_pos hp]))
  ·exact (aS (by rw [if_pos hp]; rfl))
theorem pO {z:List Qi} {s c:List (List Qi)}:bE Tryz.prog 51 [fP z s c] (iT z s):=by
 refine bE.intro Tryz.func51 rfl Tryz.ntmps51 rfl (fun cx=>(ts (rn rfl (fK (Ht rfl)) fun B1=>(rn rfl (eG (Ts:=[Is (.slice none 0 0),Is (.slice none 0 0)]) O_32 rfl (fun V=>aW zd (aW zd (aG)))) fun B2=>(eZ (ts (ro rfl (eJ oD (Ht rfl) rfl) (ro rfl (eW A_32 Z_32 (Ht rfl) (i:=0) rfl rfl rfl) (gX Z_32 (Ht rfl) (Ht rfl) rfl (i:=1) rfl (aK rfl) rfl rfl (eZ ?_))))))))))
 exact fG rfl (fU A_32 Z_32 rfl (i:=1) rfl rfl)
theorem Tz {z:List Qi} {s c:List (List Qi)} {i j:Int} (hs:cI c c.length c.length) (hl:c.length ≤ 1000):bE Tryz.prog 87 [fP z s c,aT .i64 i,aT .i64 j] (eS [aI (Yo c.length c i j),aT .i64 (if (1 ≤ i ∧ i ≤ c.length) ∧ 1 ≤ j ∧ j ≤ c.length then 0 else 1)]):=by
 refine bE.intro Tryz.func87 rfl Tryz.ntmps87 rfl (fun cx=>(ts (rn rfl (fK (Ht rfl)) fun B3=>(rn rfl (eG (Ts:=[Is (.bool false),Is (.slice none 0 0),Is (.bool false),Is (.slice none 0 0),Is (.slice none 0 0)]) O_51 rfl (fun V=>aW zd (aW zd (aW zd (aW zd (aW zd (aG))))))) fun B6=>(ro rfl (cX (cV 0)) (eZ (cU (ts (rm rfl (ro rfl (tX (Ht rfl) cW) (rm rfl (fX rfl rfl (eU rfl rfl (Ht rfl) (fun h=>cZ (Ht rfl))) ?_))))))))))))
 refine fX rfl rfl (eU rfl rfl (Ht rfl) (fun h=>eJ nH (Ht rfl) rfl)) (fX rfl rfl (eU rfl rfl (Ht rfl) (fun h=>fQ A_30 Z_30 (fV rfl h) (i:=0) rfl rfl)) (fX rfl rfl (eU rfl rfl (Ht rfl) (fun h=>dK U_30 (fV rfl h) aA)) (fX rfl rfl (eU rfl rfl (Ht rfl) (fun h=>Gj (fV rfl h) (fV rfl h))) (ro rfl (gN (Ht rfl) (fun h=>(fV rfl h))) (rm rfl (fX rfl rfl (eU rfl rfl (Ht rfl) (fun h=>cZ (Ht rfl))) (fX rfl rfl (eU rfl rfl (Ht rfl) (fun h=>tX (fV rfl h) cW)) ?_)))))))
 refine ro rfl (gN (Ht rfl) (fun h=>(fV rfl h))) (rm rfl (fX rfl rfl (eU rfl rfl (Ht rfl) (fun h=>cZ (Ht rfl))) (fX rfl rfl (eU rfl rfl (Ht rfl) (fun h=>eJ nH (Ht rfl) rfl)) (fX rfl rfl (eU rfl rfl (Ht rfl) (fun h=>fQ A_30 Z_30 (fV rfl h) (i:=0) rfl rfl)) (fX rfl rfl (eU rfl rfl (Ht rfl) (fun h=>dK U_30 (fV rfl h) aA)) (fX rfl rfl (eU rfl rfl (Ht rfl) (fun h=>Gj (fV rfl h) (fV rfl h))) (ro rfl (gN (Ht rfl) (fun h=>(fV rfl h))) (eZ (dX (Ht rfl) (fun hb=>?_) (fun hb=>?_))))))))))
 ·have hn : ¬ ((1 ≤ i ∧ i ≤ (c.length : Int)) ∧ 1 ≤ j ∧ j ≤ (c.length : Int)) := by simp only [Bool.or_eq_true, decide_eq_true_eq] at hb; omega
  refine ts (rn rfl (eG (Ts:=[Is (.bool false),Is (.slice none 0 0),Is (.bool false),Is (.slice none 0 0),Is (.slice none 0 0)]) O_51 rfl (fun V=>aW zd (aW zd (aW zd (aW zd (aW zd (aG))))))) fun B8=>(eZ (ts (ro rfl (eW A_51 Z_51 (Ht rfl) (i:=2) rfl rfl rfl) (gX Z_51 (Ht rfl) (Ht rfl) rfl (i:=1) rfl (aK rfl) rfl rfl (ro rfl (cX (cV 1)) (eZ (bM rfl (fZ (fU A_51 Z_51 rfl (i:=1) rfl rfl) ?_) (fZ (eY rfl) ?_)))))))))
  ·exact (fun v V k=>by rw [Yo,if_neg hn]; exact oJ v V k)
  ·exact (aS (by rw [if_neg hn]; rfl))
 ·have hp : (1 ≤ i ∧ i ≤ (c.length : Int)) ∧ 1 ≤ j ∧ j ≤ (c.length : Int) := by simp only [Bool.or_eq_false_iff, decide_eq_false_iff_not] at hb; omega
  have hq:(i - 1).toNat < c.length:=by omega
  have hq2:(j - 1).toNat < (c.getD (i - 1).toNat []).length:=by rw [hs.row zo]; omega
  refine cY (ts (ro rfl (eJ nH (Ht rfl) rfl) (ro rfl (fQ A_30 Z_30 (Ht rfl) (i:=0) rfl rfl) (rm rfl (ro rfl (iY (Ht rfl) cW (Ej zo)) (ro rfl (dJ U_30 Z_29 (Ht rfl) (Ht rfl) (by omega:i - 1 = (((i - 1).toNat:Nat):Int)) (eQ (dY (d:=[]) hq))) (ro rfl (dV A_29 Z_29 (Ht rfl)) (rm rfl (ro rfl (iY (Ht rfl) cW (Ej zo)) (ro rfl (dJ U_29 Z_51 (Ht rfl) (Ht rfl) (by omega:j - 1 = (((j - 1).toNat:Nat):Int)) (eQ (dY (d:=Qi.zero) hq2))) ?_))))))))))
  refine ro rfl (dV A_51 Z_51 (Ht rfl)) (gX Z_51 (Ht rfl) (Ht rfl) rfl (i:=1) rfl (aK rfl) rfl rfl (ro rfl (cX (cV 0)) (eZ (bM rfl (fZ (fU A_51 Z_51 rfl (i:=1) rfl rfl) ?_) (fZ (eY rfl) ?_)))))
  ·exact (nO (by rw [Yo,if_pos hp]))
  ·exact (aS (by rw [if_pos hp]; rfl))
end
section
open Go Go.RowKit
theorem zZ (a:Addr) (w:World):(Instr.fieldAt 25 (.pointer (some a)) 0).run Tryz.prog w = .ok (.pointer (some (a.add 0))) w:=by
 simp [Instr.fieldAt,Instr.sureAddr,fieldPlace,Sem.run_bind,Result.andThen,U_25,Z_22]
theorem Dl (a:Addr) (w:World):(Instr.fieldAt 25 (.pointer (some a)) 1).run Tryz.prog w = .ok (.pointer (some (a.add 1))) w:=by
 simp [Instr.fieldAt,Instr.sureAddr,fieldPlace,Sem.run_bind,Result.andThen,U_25,Z_23]
theorem Dm (a:Addr) (w:World):(Instr.fieldAt 25 (.pointer (some a)) 2).run Tryz.prog w = .ok (.pointer (some (a.add 2))) w:=by
 simp [Instr.fieldAt,Instr.sureAddr,fieldPlace,Sem.run_bind,Result.andThen,U_25,Z_23]
theorem uW:Tryz.prog.info? 131 = some Tryz.t131:=by kernel_rfl
theorem Lc:Tryz.prog.info? 35 = some Tryz.t35:=by kernel_rfl
theorem Ta:Tryz.prog.underlying 30 = some (.slice 29):=by kernel_rfl
theorem Hh:Tryz.prog.underlying 35 = some (.slice 131):=by kernel_rfl
theorem a71:Tryz.prog.underlying 36 = some (.slice 35):=by kernel_rfl
end
section
open Go Go.RowKit
theorem Bh {m:List (List Rt)} (hm:m.length ≤ 1000) (hr:∀ r,r ∈ m → r.length ≤ 1000):bE Tryz.prog 86 [Bc m] (bL (rq m)):=by
 refine bE.intro Tryz.func86 rfl Tryz.ntmps86 rfl (fun cx=>(ts (ro rfl (cX cW) (eZ (ts (rm rfl (ro rfl (dK U_23 (Ht rfl) aA) (rn rfl (mM (T:=bB []) (i:=Tryz.t29) Ta nI rfl rfl (Ht rfl) rfl Ow El.one (by show 24 * _ ≤ _; omega) zo) fun B8=>(ra rfl (eZ (cU (ts (rm rfl (ro rfl (dK U_23 (Ht rfl) aA) (ro rfl (cZ (cV 0)) (eZ (eK ?_)))))))))))))))))
 refine gA (fun (k : Nat) (out : List (List Qi)) => mX (fun i => (m.getD i default).map Rt.q) m.length out k) (fun (k : Nat) (out : List (List Qi)) => m.length - k) (fun (k : Nat) (out : List (List Qi)) => [(3, Is B8), (9, Bc m), (10, NT .i64 m.length), (11, NT .i64 k)]) (fun (k : Nat) (out : List (List Qi)) => [cL 29 1 B8 (out.map bB)]) 0 (List.replicate m.length []) (mX.start _ _ _)
  (zS rfl) (aU (bO (wJ bB _ _)) aY) (fun k out hS=>?_)
 refine ts (ro rfl (gZ (Ht rfl) (Ht rfl)) (eZ (cU (dX (Ht rfl) (fun hk=>?_) (fun hk=>?_)))))
 ·simp only [decide_eq_true_eq] at hk
  have hlen:=hS.len
  have hrk : (m.getD k default).length ≤ 1000 := by
   have e:m.getD k default = m[k]:=by simp [List.getD,hk]
   rw [e]; exact hr _ (List.getElem_mem hk)
  refine cY (cU (eK (ts (rm rfl (ro rfl (dJ U_23 Z_22 (Ht rfl) (Ht rfl) rfl (eQ (dY (d:=default) hk))) (ro rfl (dV A_22 Z_22 (Ht rfl)) (ra rfl (ra rfl (eZ (dQ (rm rfl (rm rfl (rm rfl (ro rfl (cJ K_48 (qM zo) ⟨(Ht rfl),trivial⟩) (ro rfl (cR U_30 Z_29 (Ht rfl) (Ht rfl) rfl (i:=0) rfl (by first | omega | (simp; omega)) rfl) (kV Z_29 (Ht rfl) (Ht rfl) El.one (i:=0) rfl rfl (by first | omega | (simp; omega)) rfl (eZ (bC ?_))))))))))))))))))
  refine dQ (ro rfl (dW (Ht rfl) (cV 1) z6) (rm rfl (eZ (fY (k + 1,_) (hS.next hk rfl) (by dsimp only; omega) (zS rfl) (aU (bO (eN bB _ _ _)) aY)))))
 ·simp only [decide_eq_false_iff_not] at hk
  obtain rfl:k = m.length:=Nat.le_antisymm hS.kle zo
  have hfin:=hS.fin
  rw [Gz m (fun r=>r.map Rt.q)] at hfin
  refine gW rfl (gV (i:=0) (tt:=3) rfl rfl jG (ts (rm rfl (ra rfl (eZ (fG rfl (fZ (eY rfl) ?_)))))))
  exact (kO (by rw [hfin]))
theorem a4Q {z:List Rt} {s c:List (List Rt)}:bE Tryz.prog 15 [Wy z s c] (aD (yB z s c)):=by
 refine bE.intro Tryz.func15 rfl Tryz.ntmps15 rfl (fun cx=>(ts (rn rfl (fK (Ht rfl)) fun B1=>(ro rfl (cX cW) (eZ (cU (ts (ro rfl (eJ zZ (Ht rfl) rfl) (ro rfl (fQ A_22 Z_22 (Ht rfl) (i:=0) rfl rfl) (ro rfl (dK U_22 (Ht rfl) aA) (ro rfl (eH (Ht rfl) (cV 9)) (rm rfl (fX rfl rfl (eU rfl rfl (Ht rfl) (fun h=>eJ Dl (Ht rfl) rfl)) (fX rfl rfl (eU rfl rfl (Ht rfl) (fun h=>fQ A_23 Z_23 (fV rfl h) (i:=0) rfl rfl)) (fX rfl rfl (eU rfl rfl (Ht rfl) (fun h=>dK U_23 (fV rfl h) aA)) ?_)))))))))))))))
 refine fX rfl rfl (eU rfl rfl (Ht rfl) (fun h=>eH (fV rfl h) (cV 9))) (ro rfl (gN (Ht rfl) (fun h=>(fV rfl h))) (rm rfl (fX rfl rfl (eU rfl rfl (Ht rfl) (fun h=>eJ Dm (Ht rfl) rfl)) (fX rfl rfl (eU rfl rfl (Ht rfl) (fun h=>fQ A_23 Z_23 (fV rfl h) (i:=0) rfl rfl)) (fX rfl rfl (eU rfl rfl (Ht rfl) (fun h=>dK U_23 (fV rfl h) aA)) (fX rfl rfl (eU rfl rfl (Ht rfl) (fun h=>eH (fV rfl h) (cV 9))) (ro rfl (gN (Ht rfl) (fun h=>(fV rfl h))) (eZ ?_))))))))
 refine dX (Ht rfl) (fun hb=>?_) (fun hb=>?_)
 ·refine ts (ro rfl (cX cW) (eZ (fG rfl (fZ (eY rfl) ?_))))
  exact (dN (Xx hb).symm)
 ·have hbl : z.length ≤ 9 ∧ s.length ≤ 9 ∧ c.length ≤ 9 := by have hb2 := hb; simp only [Bool.or_eq_false_iff, decide_eq_false_iff_not] at hb2; omega
  refine cY (cU (ts (ro rfl (eJ Dl (Ht rfl) rfl) (ro rfl (fQ A_23 Z_23 (Ht rfl) (i:=0) rfl rfl) (ro rfl (dK U_23 (Ht rfl) aA) (ro rfl (cZ (cV 0)) (eZ (eK ?_))))))))
  refine bS (fun (k : Nat) => k ≤ s.length ∧ ∀ (i : Nat) (r : List Rt), i < k → s[i]? = some r → r.length ≤ 9) (fun (k : Nat) => s.length - k) (fun (k : Nat) => [(1, cC B1 0), (24, Bc s), (25, NT .i64 s.length), (26, NT .i64 k)]) (fun (k : Nat) => [box B1 25 [qY z, Bc s, Bc c]]) 0 ⟨Nat.zero_le _, fun i r h => by omega⟩
   (zS rfl) (dE.refl _) (fun k ⟨hk,hr⟩=>?_)
  refine ts (ro rfl (gZ (Ht rfl) (Ht rfl)) (eZ (cU (dX (Ht rfl) (fun hd=>?_) (fun hd=>?_)))))
  ·simp only [decide_eq_true_eq] at hd
   refine cY (cU (eK (ts (ro rfl (dJ U_23 Z_22 (Ht rfl) (Ht rfl) rfl (eQ (oU hd))) (ro rfl (dV A_22 Z_22 (Ht rfl)) (ra rfl (eZ (ts (rm rfl (ro rfl (dK U_22 (Ht rfl) aA) (ro rfl (eH (Ht rfl) (cV 9)) (eZ (dX (Ht rfl) (fun he=>?_) (fun he=>?_))))))))))))))
   ·simp only [decide_eq_true_eq] at he
    refine ts (ro rfl (cX cW) (eZ (fG rfl (fZ (eY rfl) ?_))))
    exact (dN (Xw (oU hd) he).symm)
   ·simp only [decide_eq_false_iff_not] at he
    refine cY (bC (dQ (ro rfl (dW (Ht rfl) (cV 1) z6) (rm rfl (eZ ?_)))))
    refine fY (k + 1) ⟨hd, fun i r h1 h2 => by
      by_cases e:i = k
      ·subst e; rw [oU hd] at h2; obtain rfl:=Option.some.inj h2; omega
      ·exact hr i r zo h2⟩ zo (zS rfl) (dE.refl _)
  ·simp only [decide_eq_false_iff_not] at hd
   have hall:∀ (i:Nat) (r:List Rt),s[i]? = some r → r.length ≤ 9:=fun i r h=>hr i r (by have:=(List.getElem?_eq_some_iff.1 h).1; omega) h
   refine gW rfl (cU (ts (ro rfl (eJ Dm (Ht rfl) rfl) (ro rfl (fQ A_23 Z_23 (Ht rfl) (i:=0) rfl rfl) (ro rfl (dK U_23 (Ht rfl) aA) (ro rfl (cZ (cV 0)) (eZ (eK ?_))))))))
   refine bS (fun (k : Nat) => k ≤ c.length ∧ ∀ (i : Nat) (r : List Rt), i < k → c[i]? = some r → r.length ≤ 9) (fun (k : Nat) => c.length - k) (fun (k : Nat) => [(1, cC B1 0), (35, Bc c), (36, NT .i64 c.length), (37, NT .i64 k)]) (fun (k : Nat) => [box B1 25 [qY z, Bc s, Bc c]]) 0 ⟨Nat.zero_le _, fun i r h => by omega⟩
    (zS rfl) (dE.refl _) (fun k ⟨hk2,hr2⟩=>?_)
   refine ts (ro rfl (gZ (Ht rfl) (Ht rfl)) (eZ (cU (dX (Ht rfl) (fun hd2=>?_) (fun hd2=>?_)))))
   ·simp only [decide_eq_true_eq] at hd2
    refine cY (cU (eK (ts (ro rfl (dJ U_23 Z_22 (Ht rfl) (Ht rfl) rfl (eQ (oU hd2))) (ro rfl (dV A_22 Z_22 (Ht rfl)) (ra rfl (eZ (ts (rm rfl (ro rfl (dK U_22 (Ht rfl) aA) (ro rfl (eH (Ht rfl) (cV 9)) (eZ (dX (Ht rfl) (fun he=>?_) (fun he=>?_))))))))))))))
    ·simp only [decide_eq_true_eq] at he
     refine ts (ro rfl (cX cW) (eZ (fG rfl (fZ (eY rfl) ?_))))
     exact (dN (Xv (oU hd2) he).symm)
    ·simp only [decide_eq_false_iff_not] at he
     refine cY (bC (dQ (ro rfl (dW (Ht rfl) (cV 1) z6) (rm rfl (eZ ?_)))))
     refine fY (k + 1) ⟨hd2, fun i r h1 h2 => by
       by_cases e:i = k
       ·subst e; rw [oU hd2] at h2; obtain rfl:=Option.some.inj h2; omega
       ·exact hr2 i r zo h2⟩ zo (zS rfl) (dE.refl _)
   ·simp only [decide_eq_false_iff_not] at hd2
    have hall2:∀ (i:Nat) (r:List Rt),c[i]? = some r → r.length ≤ 9:=fun i r h=>hr2 i r (by have:=(List.getElem?_eq_some_iff.1 h).1; omega) h
    refine gW rfl (ts (ro rfl (cX cW) (eZ (fG rfl (fZ (eY rfl) ?_)))))
    exact (dN (a0W hb hall hall2).symm)
theorem Bm {m:List Rt} (hm:m.length ≤ 1000):bE Tryz.prog 50 [qY m] (lM 5 ((m.map Rt.q).map QT)):=by
 refine bE.intro Tryz.func50 rfl Tryz.ntmps50 rfl (fun cx=>(ts (ro rfl (cX cW) (eZ (ts (ro rfl (cX cW) (eZ (cU (ts (rm rfl (ro rfl (dK U_22 (Ht rfl) aA) (ro rfl (cZ (cV 0)) (eZ (eK (zO 131 5 ?_)))))))))))))))
 refine jF (fun (k : Nat) (out : List (Qi)) (v : Value) => k ≤ m.length ∧ out = (m.map Rt.q).take k) (fun (k : Nat) (out : List (Qi)) (v : Value) => m.length - k) (fun (k : Nat) (out : List (Qi)) (v : Value) => [(3, Is v), (6, qY m), (7, NT .i64 m.length), (8, NT .i64 k)]) (fun (k : Nat) (out : List (Qi)) (v : Value) => [cL 131 5 v (out.map QT)]) 0 [] (.slice none 0 0) ⟨Nat.zero_le _, rfl⟩
  (zS rfl) (dE.refl _) (fun k out v ⟨hk,ho⟩=>?_)
 refine ts (ro rfl (gZ (Ht rfl) (Ht rfl)) (eZ (cU (dX (Ht rfl) (fun hd=>?_) (fun hd=>?_)))))
 ·simp only [decide_eq_true_eq] at hd
  have hol:out.length ≤ 1000:=by rw [ho,List.length_take]; omega
  refine cY (cU (eK (ts (ro rfl (dJ U_22 Z_102 (Ht rfl) (Ht rfl) rfl (eQ (dY (d:=default) hd))) (ro rfl (dV A_102 Z_102 (Ht rfl)) (rn rfl (eG (Ts:=[Is (.int .i64 0),Is (.int .i64 0),Is (.int .i64 0)]) O_102 rfl (fun V=>aW zd (aW zd (aW zd (aG))))) fun B5=>(gX Z_102 (Ht rfl) (Ht rfl) rfl (i:=1) rfl (aK rfl) rfl rfl (eZ (dQ (rm rfl (ro rfl (eW A_102 Z_102 (Ht rfl) (i:=1) rfl rfl rfl) ?_)))))))))))
  refine ro rfl (cJ Tryz.call151 a7q ⟨(Ht rfl),trivial⟩) (ro rfl (dB (xs:=[.tmp 14]) U_35 Z_131 O_131 (cG (Ht rfl) cK) rfl rfl rfl) (qX (inf:=Tryz.t131) Hh uW rfl rfl rfl (Ht rfl) (Ht rfl) (i:=0) rfl (by simp) (fun T hT=>by simp at hT; subst hT; exact El.ag rfl) (by show _ * 88 ≤ _; simp only [List.length_map,List.length_cons,List.length_nil]; omega) (by simp only [List.length_map,List.length_cons,List.length_nil]; omega) rfl (fun v2=>?_)))
  refine ra rfl (eZ (bC (dQ (ro rfl (dW (Ht rfl) (cV 1) z6) (rm rfl (eZ (bR [0] rfl (by decide) (fY (k + 1,_,v2) ⟨by omega,Hc (g:=Rt.q) hd ho⟩ (by dsimp only; omega) (zS rfl) (aU (bO (rA QT _ _)) aY)))))))))
 ·simp only [decide_eq_false_iff_not] at hd
  have hfin:=Hb ho (by simp only [List.length_map]; omega)
  refine gW rfl (gV (i:=0) (tt:=3) rfl rfl jG (ts (rm rfl (ra rfl (eZ (fG rfl (fZ (eY rfl) ?_)))))))
  exact (kO (by rw [hfin]))
theorem Il {m:List (List Rt)} (hm:m.length ≤ 1000) (hr:∀ r,r ∈ m → r.length ≤ 1000):bE Tryz.prog 91 [Bc m] (lM 1 ((rq m).map tJ)):=by
 refine bE.intro Tryz.func91 rfl Tryz.ntmps91 rfl (fun cx=>(ts (ro rfl (cX cW) (eZ (ts (ro rfl (cX cW) (eZ (cU (ts (rm rfl (ro rfl (dK U_23 (Ht rfl) aA) (ro rfl (cZ (cV 0)) (eZ (eK (zO 35 1 ?_)))))))))))))))
 refine jF (fun (k : Nat) (out : List (List Qi)) (v : Value) => k ≤ m.length ∧ out = (rq m).take k) (fun (k : Nat) (out : List (List Qi)) (v : Value) => m.length - k) (fun (k : Nat) (out : List (List Qi)) (v : Value) => [(3, Is v), (6, Bc m), (7, NT .i64 m.length), (8, NT .i64 k)]) (fun (k : Nat) (out : List (List Qi)) (v : Value) => [cL 35 1 v (out.map tJ)]) 0 [] (.slice none 0 0) ⟨Nat.zero_le _, rfl⟩
  (zS rfl) (dE.refl _) (fun k out v ⟨hk,ho⟩=>?_)
 refine ts (ro rfl (gZ (Ht rfl) (Ht rfl)) (eZ (cU (dX (Ht rfl) (fun hd=>?_) (fun hd=>?_)))))
 ·simp only [decide_eq_true_eq] at hd
  have hol:out.length ≤ 1000:=by rw [ho,List.length_take]; omega
  have hrk : (m.getD k default).length ≤ 1000 := by
   have e:m.getD k default = m[k]:=by simp [List.getD,hd]
   rw [e]; exact hr _ (List.getElem_mem hd)
  refine cY (cU (eK (ts (ro rfl (dJ U_23 Z_22 (Ht rfl) (Ht rfl) rfl (eQ (dY (d:=default) hd))) (ro rfl (dV A_22 Z_22 (Ht rfl)) (ra rfl (eZ (dQ (rm rfl (rm rfl (ro rfl (cJ Tryz.call50 (Bm zo) ⟨(Ht rfl),trivial⟩) (ro rfl (dB (xs:=[.tmp 14]) U_36 Z_35 Tryz.zeroValue35 (cG (Ht rfl) cK) rfl rfl rfl) (qX (inf:=Tryz.t35) a71 Lc rfl rfl rfl (Ht rfl) (Ht rfl) (i:=0) rfl (by simp) (fun T hT=>by simp at hT; subst hT; exact El.one) (by show _ * 24 ≤ _; simp only [List.length_map,List.length_cons,List.length_nil]; omega) (by simp only [List.length_map,List.length_cons,List.length_nil]; omega) rfl (fun v2=>?_))))))))))))))
  refine ra rfl (eZ (bC (dQ (ro rfl (dW (Ht rfl) (cV 1) z6) (rm rfl (eZ (bR [0] rfl (by decide) (fY (k + 1,_,v2) ⟨by omega,Hc (g:=(fun r=>r.map Rt.q)) hd ho⟩ (by dsimp only; omega) (zS rfl) (aU (bO (rA tJ _ _)) aY)))))))))
 ·simp only [decide_eq_false_iff_not] at hd
  have hfin:=Hb ho (by simp only [List.length_map]; omega)
  refine gW rfl (gV (i:=0) (tt:=3) rfl rfl jG (ts (rm rfl (ra rfl (eZ (fG rfl (fZ (eY rfl) ?_)))))))
  exact (kO (by rw [hfin]))
end
section
open Go Go.RowKit
theorem tL {n : Nat} {E : dI} {H : Hp} {d : Option Tmp} {t : TypeId} {pos : String} {af : Array Edge} {g : Option (Nat × Bool)}  :
  aM Tryz.prog n E H ⟨d,.build 34 #[],t,pos,af,g⟩ (fE [Is (.slice none 0 0),Is (.slice none 0 0),Is (.slice none 0 0)]) :=
 gL (parts := []) fun a V w hs => by
  refine ⟨.agg #[(.slice none 0 0),(.slice none 0 0),(.slice none 0 0)],?_,[(.slice none 0 0),(.slice none 0 0),(.slice none 0 0)],rfl,aW (⟨rfl,trivial⟩) (aW (⟨rfl,trivial⟩) (aW (⟨rfl,trivial⟩) (aG)))⟩
  simp [Instr.build,Instr.fill,Sem.run_bind,Result.andThen,fD,O_34,U_34,Z_30,Z_32]
theorem a0e {n : Nat} {E : dI} {H : Hp} {d : Option Tmp} {t : TypeId} {pos : String} {af : Array Edge} {g : Option (Nat × Bool)} {x0 : Operand} {T0 T1 : Ty} (h0 : bT E x0 (fE [T0, T1])) :
  aM Tryz.prog n E H ⟨d,.build 34 #[(0,x0)],t,pos,af,g⟩ (fE [T0,T1,Is (.slice none 0 0)]) :=
 gL (parts := [(0, x0)]) fun a V w hs => by
  obtain ⟨v0,e0,c0⟩:=h0 n V a hs
  obtain ⟨c0_0,c0_1,rfl⟩:∃ c0_0 c0_1,v0 = [c0_0,c0_1]:=Cn (by simpa using c0.length)
  refine ⟨.agg #[c0_0,c0_1,(.slice none 0 0)],?_,[c0_0,c0_1,(.slice none 0 0)],rfl,aW (c0.at (i:=0) rfl rfl) (aW (c0.at (i:=1) rfl rfl) (aW (⟨rfl,trivial⟩) (aG)))⟩
  simp [e0,Instr.build,Instr.fill,Sem.run_bind,Result.andThen,fD,O_34,U_34,Z_30,Z_32]
end
section
open Go Go.RowKit
theorem Xd {r:List Qi} {c:List (List Qi)}:bE Tryz.prog 157 [bB r,PT (bL c)] (aD (!decide (r.length = c.length))):=by
 refine bE.intro Tryz.func157 rfl Tryz.ntmps157 rfl (fun cx=>(ts (ro rfl (cX cW) (eZ (ts (rm rfl (ro rfl (dK U_29 (Ht rfl) aA) (ro rfl (dV A_30 Z_30 (Ht rfl)) (ro rfl (dK U_30 (Ht rfl) aA) (ro rfl (fB (Ht rfl) (Ht rfl)) (ra rfl (eZ ?_))))))))))))
 exact fG rfl (eY rfl)
theorem a0s {z:List Qi} {s c:List (List Qi)} (hz:z.length ≤ 1000) (hc:c.length ≤ 1000):bE Tryz.prog 55 [iT z s,bL c] (eS [fP (dA (dM z c) z) (dA (dM z c) s) (dA (dM z c) c),aT .i64 (dM z c)]):=by
 refine bE.intro Tryz.func55 rfl Tryz.ntmps55 rfl (fun cx=>(ts (rn rfl (fK (Ht rfl)) fun B2=>(rn rfl (tB (Ht rfl)) fun B3=>(rn rfl (eG (Ts:=[Is (.slice none 0 0),Is (.slice none 0 0),Is (.slice none 0 0)]) O_34 rfl (fun V=>aW zd (aW zd (aW zd (aG))))) fun B4=>(ro rfl (cX (cV 0)) (eZ (cU (cU (gV (i:=1) (tt:=3) rfl rfl oE (fJ (m:=8) (dp 3 rfl (dV A_30 Z_30 (Ht rfl)) (dq 9 0 rfl (dK U_30 (Ht rfl) aA) ?_)))))))))))))
 refine dp 2 rfl (eW A_32 Z_32 (Ht rfl) (i:=0) rfl rfl rfl) (dq 11 2 rfl (cJ K_22 oB ⟨(Ht rfl),trivial⟩) (cP 10 1 12 3 rfl (fB (Ht rfl) (Ht rfl)) (dq 13 4 rfl (cZ (Ht rfl)) (C.D_step (Ei:=[(3,_),(14,_)]) rfl rfl (bV (bK rfl rfl) (bV (bG 5 rfl rfl) bW)) (eU rfl rfl (Ht rfl) (fun h=>dV A_30 Z_30 (Ht rfl))) (C.D_step (Ei:=[(3,_),(14,_)]) rfl rfl (bV (bK rfl rfl) (bV (bG 5 rfl rfl) bW)) (eU rfl rfl (Ht rfl) (fun h=>qI (γ:=List Qi) (Ts:=fun r=>[bB r]) (U:=fun r=>aD (!decide (r.length = c.length))) Tryz.call157 (fun r=>Xd) ⟨(Ht rfl),trivial⟩)) ?_)))))
 refine fW aL rfl (by kernel_rfl) (zF (zF (aV (fX rfl rfl (eU rfl rfl (Ht rfl) (fun h=>cJ Tryz.call156 (yG (l:=c) (T:=bB) (p:=fun r=>!decide (r.length = c.length)) zo) ⟨(fV rfl h),(fV rfl h),trivial⟩)) (ro rfl (gN (Ht rfl) (fun h=>(fV rfl h))) (eZ (dX (Ht rfl) (fun hb=>?_) (fun hb=>?_))))))))
 ·have he := Rz hb
  refine ts (ro rfl (aM.imp (tL ) oW) (gX Z_34 (Ht rfl) (Ht rfl) rfl (i:=2) rfl (aK rfl) rfl rfl (ro rfl (cX (cV 4)) (eZ (bM rfl (fZ (fU A_34 Z_34 rfl (i:=2) rfl rfl) ?_) (fZ (eY rfl) ?_))))))
  ·exact (Yj he)
  ·exact (aS he.symm)
 ·have he := Ou hb
  obtain ⟨hcl,hsh⟩:=Bw he
  refine cY (ts (ro rfl (eW A_32 Z_32 (Ht rfl) (i:=0) rfl rfl rfl) (ro rfl (a0e (Ht rfl)) (rn rfl (eG (Ts:=[Is (.slice none 0 0),Is (.slice none 0 0),Is (.slice none 0 0)]) O_34 rfl (fun V=>aW zd (aW zd (aW zd (aG))))) fun B6=>(gX Z_34 (Ht rfl) (Ht rfl) rfl (i:=3) rfl (aK rfl) rfl rfl (eZ (cU (ts (ro rfl (dV A_30 Z_30 (Ht rfl)) (ro rfl (dK U_30 (Ht rfl) aA) (ro rfl (cZ (cV 0)) ?_)))))))))))
  refine eZ (eK (bR [2,3] rfl (by decide) (zO 29 1 ?_)))
  refine jF (fun (k : Nat) (out : List (List Qi)) (v : Value) => k ≤ c.length ∧ out = c.take k) (fun (k : Nat) (out : List (List Qi)) (v : Value) => c.length - k) (fun (k : Nat) (out : List (List Qi)) (v : Value) => [(4, cC B4 0), (6, cC B6 0), (22, bL c), (23, NT .i64 c.length), (24, NT .i64 k)]) (fun (k : Nat) (out : List (List Qi)) (v : Value) => [box B4 34 [Is (.slice none 0 0), Is (.slice none 0 0), Is (.slice none 0 0)], box B6 34 [bB z, bL s, Is v], cL 29 1 v (out.map bB)]) 0 [] (.slice none 0 0) ⟨Nat.zero_le _, rfl⟩
   (zS rfl) (dE.refl _) (fun k out v ⟨hk,ho⟩=>?_)
  refine ts (ro rfl (gZ (Ht rfl) (Ht rfl)) (eZ (cU (dX (Ht rfl) (fun hd=>?_) (fun hd=>?_)))))
  ·simp only [decide_eq_true_eq] at hd
   have hol:out.length ≤ 1000:=by rw [ho,List.length_take]; omega
   have hrk : (c.getD k default).length ≤ 1000 := by
    have e:c.getD k default = c.getD k []:=rfl
    rw [e,hsh.row zo]; omega
   refine cY (cU (eK (ts (ro rfl (dJ U_30 Z_29 (Ht rfl) (Ht rfl) rfl (eQ (dY (d:=default) hd))) (ro rfl (dV A_29 Z_29 (Ht rfl)) (ra rfl (eZ (fJ (m:=5) (dp 6 rfl (eJ nH (Ht rfl) rfl) (dq 28 0 rfl (a3W A_30 Z_30 (Ht rfl) (i:=1) rfl rfl) (dp 8 rfl (cZ (Ht rfl)) (dq 30 2 rfl (cJ Tryz.call158 (Ke zo) ⟨(Ht rfl),trivial⟩) (dq 31 3 rfl (dB (xs:=[.tmp 31]) U_30 Z_29 O_29 (cG (Ht rfl) cK) rfl rfl rfl) ?_)))))))))))))
   refine fW aL rfl (by kernel_rfl) (zF (aJ (aV (qX (inf:=Tryz.t29) Ta nI rfl rfl rfl (Ht rfl) (Ht rfl) (i:=2) rfl (by simp) (fun T hT=>by simp at hT; subst hT; exact El.one) (by show _ * 24 ≤ _; simp only [List.length_map,List.length_cons,List.length_nil]; omega) (by simp only [List.length_map,List.length_cons,List.length_nil]; omega) rfl (fun v2=>?_)))))
   refine ro rfl (eJ nH (Ht rfl) rfl) (a7a (l:=2) Z_30 (Ht rfl) (Ht rfl) (i:=1) rfl rfl (aK rfl) rfl (eZ (bC (dQ (ro rfl (dW (Ht rfl) (cV 1) z6) (rm rfl (eZ (fY (k + 1,_,v2) ⟨by omega,Sw hd ho⟩ (by dsimp only; omega) (zS rfl) (aU (aB rfl) (aU (aB rfl) (aU (bO (rA bB _ _)) aY)))))))))))
  ·simp only [decide_eq_false_iff_not] at hd
   have hfin:=Hb ho zo
   subst hfin
   refine gW rfl (cU (Wz 1 2 2 rfl rfl rfl (by decide) (dQ (ro rfl (eW A_34 Z_34 (Ht rfl) (i:=1) rfl rfl rfl) (gX Z_34 (Ht rfl) (Ht rfl) rfl (i:=0) rfl (aK rfl) rfl rfl (ro rfl (cX (cV 0)) (eZ (bM rfl (fZ (fU A_34 Z_34 rfl (i:=0) rfl rfl) ?_) (fZ (eY rfl) ?_)))))))))
   ·exact (Sa he)
   ·exact (aS he.symm)
end
section
open Go Go.RowKit
theorem zP {n : Nat} {E : dI} {H : Hp} {d : Option Tmp} {t : TypeId} {pos : String} {af : Array Edge} {g : Option (Nat × Bool)}  :
  aM Tryz.prog n E H ⟨d,.build 38 #[],t,pos,af,g⟩ (fE [Is (.slice none 0 0),Is (.slice none 0 0)]) :=
 gL (parts := []) fun a V w hs => by
  refine ⟨.agg #[(.slice none 0 0),(.slice none 0 0)],?_,[(.slice none 0 0),(.slice none 0 0)],rfl,aW (⟨rfl,trivial⟩) (aW (⟨rfl,trivial⟩) (aG))⟩
  simp [Instr.build,Instr.fill,Sem.run_bind,Result.andThen,fD,O_38,U_38,Z_35,Z_36]
theorem Ez {n : Nat} {E : dI} {H : Hp} {d : Option Tmp} {t : TypeId} {pos : String} {af : Array Edge} {g : Option (Nat × Bool)} {x0 x1 : Operand} {T0 T1 : Ty} [s0 : eI T0 1 false] (h0 : bT E x0 T0) [s1 : eI T1 1 false] (h1 : bT E x1 T1) :
  aM Tryz.prog n E H ⟨d,.build 38 #[(0,x0),(1,x1)],t,pos,af,g⟩ (fE [T0,T1]) :=
 gL (parts := [(0, x0), (1, x1)]) fun a V w hs => by
  have p0:=h0 n V a hs
  generalize e0:a.eval x0 = v0 at p0
  have q0:=(s0.ok v0 V p0).2.2 rfl
  have p1:=h1 n V a hs
  generalize e1:a.eval x1 = v1 at p1
  have q1:=(s1.ok v1 V p1).2.2 rfl
  refine ⟨.agg #[v0,v1],?_,[v0,v1],rfl,aW (⟨p0,q0⟩) (aW (⟨p1,q1⟩) (aG))⟩
  simp [e0,e1,Instr.build,Instr.fill,Sem.run_bind,Result.andThen,fD,q0.cells,q1.cells,O_38,U_38,Z_35,Z_36]
theorem Kc {n : Nat} {E : dI} {H : Hp} {d : Option Tmp} {t : TypeId} {pos : String} {af : Array Edge} {g : Option (Nat × Bool)}  :
  aM Tryz.prog n E H ⟨d,.build 40 #[],t,pos,af,g⟩ (fE [Is (.slice none 0 0),Is (.slice none 0 0),Is (.slice none 0 0)]) :=
 gL (parts := []) fun a V w hs => by
  refine ⟨.agg #[(.slice none 0 0),(.slice none 0 0),(.slice none 0 0)],?_,[(.slice none 0 0),(.slice none 0 0),(.slice none 0 0)],rfl,aW (⟨rfl,trivial⟩) (aW (⟨rfl,trivial⟩) (aW (⟨rfl,trivial⟩) (aG)))⟩
  simp [Instr.build,Instr.fill,Sem.run_bind,Result.andThen,fD,O_40,U_40,Z_36,Z_38]
theorem Fa {n : Nat} {E : dI} {H : Hp} {d : Option Tmp} {t : TypeId} {pos : String} {af : Array Edge} {g : Option (Nat × Bool)} {x0 x1 : Operand} {T0 T1 T2 : Ty} (h0 : bT E x0 (fE [T0, T1])) [s1 : eI T2 1 false] (h1 : bT E x1 T2) :
  aM Tryz.prog n E H ⟨d,.build 40 #[(0,x0),(1,x1)],t,pos,af,g⟩ (fE [T0,T1,T2]) :=
 gL (parts := [(0, x0), (1, x1)]) fun a V w hs => by
  obtain ⟨v0,e0,c0⟩:=h0 n V a hs
  obtain ⟨c0_0,c0_1,rfl⟩:∃ c0_0 c0_1,v0 = [c0_0,c0_1]:=Cn (by simpa using c0.length)
  have p1:=h1 n V a hs
  generalize e1:a.eval x1 = v1 at p1
  have q1:=(s1.ok v1 V p1).2.2 rfl
  refine ⟨.agg #[c0_0,c0_1,v1],?_,[c0_0,c0_1,v1],rfl,aW (c0.at (i:=0) rfl rfl) (aW (c0.at (i:=1) rfl rfl) (aW (⟨p1,q1⟩) (aG)))⟩
  simp [e0,e1,Instr.build,Instr.fill,Sem.run_bind,Result.andThen,fD,q1.cells,O_40,U_40,Z_36,Z_38]
theorem rW (a:Addr) (w:World):(Instr.fieldAt 38 (.pointer (some a)) 0).run Tryz.prog w = .ok (.pointer (some (a.add 0))) w:=by
 simp [Instr.fieldAt,Instr.sureAddr,fieldPlace,Sem.run_bind,Result.andThen,U_38,Z_35]
end
section
open Go Go.RowKit
theorem Mx {x:Qi} {L:Nat} [hx:aE x L] (h:L ≤ 17592186044415):bE Tryz.prog 250 [QT x] (aD (eO x)):=by
 refine bE.intro Tryz.func250 rfl Tryz.ntmps250 rfl (fun cx=>(ts (rn rfl (fK (Ht rfl)) fun B1=>(ro rfl (cX cW) (eZ (ts (ro rfl (eW A_131 Z_131 (Ht rfl) (i:=0) rfl rfl rfl) (ro rfl (cJ Tryz.call242 (a2U zo) ⟨(Ht rfl),trivial⟩) (ro rfl (kN (Ht rfl) cW) (rm rfl (fX rfl rfl (eU rfl rfl (Ht rfl) (fun h=>eW A_131 Z_131 (Ht rfl) (i:=0) rfl rfl rfl)) (fX rfl rfl (eU rfl rfl (Ht rfl) (fun h=>cJ Tryz.call239 Ub ⟨(fV rfl h),trivial⟩)) (fX rfl rfl (eU rfl rfl (Ht rfl) (fun h=>Gj (fV rfl h) cW)) ?_)))))))))))))
 refine ro rfl (fC (Ht rfl) (fun h=>(fV rfl h))) (ra rfl (eZ (fG rfl (fZ (eY rfl) ?_))))
 exact (dN (a4k x))
theorem a0z {z:List Qi} {s:List (List Qi)} (hz:z.length ≤ 100000) (hs:s.length ≤ 100000):bE Tryz.prog 189 [tJ z,QM s] (aD (Gv z s)):=by
 refine bE.intro Tryz.func189 rfl Tryz.ntmps189 rfl (fun cx=>(ts (ro rfl (cX cW) (eZ (cU (ts (rm rfl (ro rfl (dK U_35 (Ht rfl) aA) (ro rfl (gZ (Ht rfl) (cV 1)) (rm rfl (fX rfl rfl (eU rfl rfl (Ht rfl) (fun h=>cZ (Ht rfl))) (fX rfl rfl (eU rfl rfl (Ht rfl) (fun h=>dK U_35 (fV rfl h) aA)) (fX rfl rfl (eU rfl rfl (Ht rfl) (fun h=>eH (fV rfl h) (cV 8))) (ro rfl (gN (Ht rfl) (fun h=>(fV rfl h))) (rm rfl (fX rfl rfl (eU rfl rfl (Ht rfl) (fun h=>cZ (Ht rfl))) ?_))))))))))))))))
 refine fX rfl rfl (eU rfl rfl (Ht rfl) (fun h=>dK U_36 (fV rfl h) aA)) (fX rfl rfl (eU rfl rfl (Ht rfl) (fun h=>cZ (Ht rfl))) (fX rfl rfl (eU rfl rfl (Ht rfl) (fun h=>dK U_35 (fV rfl h) aA)) (fX rfl rfl (eU rfl rfl (Ht rfl) (fun h=>fB (fV rfl h) (fV rfl h))) (ro rfl (gN (Ht rfl) (fun h=>(fV rfl h))) (eZ (dX (Ht rfl) (fun hb=>?_) (fun hb=>?_)))))))
 ·refine ts (ro rfl (cX cW) (eZ (fG rfl (fZ (eY rfl) ?_))))
  exact (dN (by rw [Gv,hb]; rfl))
 ·refine cY (cU (ts (ro rfl (cX (cV 0)) (eZ (eK ?_)))))
  refine bS (fun (k : Nat) => k ≤ s.length ∧ ∀ (i : Nat) (r : List Qi), i < k → s[i]? = some r → r.length = z.length) (fun (k : Nat) => s.length - k) (fun (k : Nat) => [(0, tJ z), (1, QM s), (5, NT .i64 k)]) (fun (k : Nat) => []) 0 ⟨Nat.zero_le _, fun i r h => by omega⟩
   (zS rfl) aY (fun k ⟨hk,hr⟩=>?_)
  refine cU (ts (rm rfl (rm rfl (ro rfl (dK U_36 (Ht rfl) aA) (ro rfl (gZ (Ht rfl) (Ht rfl)) (eZ (dX (Ht rfl) (fun hc=>?_) (fun hc=>?_))))))))
  ·simp only [decide_eq_true_eq] at hc
   refine cY (cU (eK (ts (rm rfl (rm rfl (ro rfl (dJ U_36 Z_35 (Ht rfl) (Ht rfl) rfl (eQ (oU hc))) (ro rfl (dV A_35 Z_35 (Ht rfl)) (ro rfl (dK U_35 (Ht rfl) aA) (rm rfl (ro rfl (dK U_35 (Ht rfl) aA) (ro rfl (fB (Ht rfl) (Ht rfl)) (eZ (dX (Ht rfl) (fun hd=>?_) (fun hd=>?_))))))))))))))
   ·have hd2 : ¬ (s[k]).length = z.length := by simpa using hd
    refine ts (ro rfl (cX cW) (eZ (fG rfl (fZ (eY rfl) ?_))))
    exact (dN (by rw [Gv,Ti (oU hc) hd2,Bool.or_true]; rfl))
   ·have hd2 : (s[k]).length = z.length := by simpa using hd
    refine cY (bC (dQ (rm rfl (ro rfl (dW (Ht rfl) (cV 1) z6) (ra rfl (eZ ?_))))))
    refine fY (k + 1) ⟨hc, fun i r h1 h2 => by
     by_cases e:i = k
     ·subst e; rw [oU hc] at h2; obtain rfl:=Option.some.inj h2; exact hd2
     ·exact hr i r zo h2⟩ zo (zS rfl) aY
  ·simp only [decide_eq_false_iff_not] at hc
   have hall:∀ (i:Nat) (r:List Qi),s[i]? = some r → r.length = z.length:=fun i r h=>hr i r (by have:=(List.getElem?_eq_some_iff.1 h).1; omega) h
   refine gW rfl (ts (ro rfl (cX cW) (eZ (fG rfl (fZ (eY rfl) ?_)))))
   exact (dN (by rw [Gv,Ml hall,hb]; rfl))
theorem yI {z:List Qi} {L:Nat} (hz:cB z L) (h:L ≤ 17592186044415) (hl:z.length ≤ 100000):bE Tryz.prog 190 [tJ z] (aD (z.all eO)):=by
 refine bE.intro Tryz.func190 rfl Tryz.ntmps190 rfl (fun cx=>(ts (ro rfl (cX cW) (eZ (cU (ts (ro rfl (cX (cV 0)) (eZ (eK ?_)))))))))
 refine bS (fun (k : Nat) => k ≤ z.length ∧ ∀ (i : Nat) (r : Qi), i < k → z[i]? = some r → eO r = true) (fun (k : Nat) => z.length - k) (fun (k : Nat) => [(0, tJ z), (3, NT .i64 k)]) (fun (k : Nat) => []) 0 ⟨Nat.zero_le _, fun i r h => by omega⟩
  (zS rfl) aY (fun k ⟨hk,hr⟩=>?_)
 refine cU (ts (rm rfl (rm rfl (ro rfl (dK U_35 (Ht rfl) aA) (ro rfl (gZ (Ht rfl) (Ht rfl)) (eZ (dX (Ht rfl) (fun hc=>?_) (fun hc=>?_))))))))
 ·simp only [decide_eq_true_eq] at hc
  haveI hf:aE z[k] L:=hz _ (List.getElem_mem hc)
  refine cY (cU (eK (ts (rm rfl (rm rfl (ro rfl (dJ U_35 Z_131 (Ht rfl) (Ht rfl) rfl (eQ (oU hc))) (ro rfl (dV A_131 Z_131 (Ht rfl)) (ro rfl (cJ Tryz.call250 (Mx (L:=L) h) ⟨(Ht rfl),trivial⟩) (ro rfl (dR (Ht rfl)) (eZ (dX (Ht rfl) (fun hd=>?_) (fun hd=>?_))))))))))))
  ·have hd2 : eO z[k] = false := by simpa using hd
   refine ts (ro rfl (cX cW) (eZ (fG rfl (fZ (eY rfl) ?_))))
   exact (dN (a5r (oU hc) hd2).symm)
  ·have hd2 : eO z[k] = true := by simpa using hd
   refine cY (bC (dQ (rm rfl (ro rfl (dW (Ht rfl) (cV 1) z6) (ra rfl (eZ ?_))))))
   refine fY (k + 1) ⟨hc, fun i r h1 h2 => by
    by_cases e:i = k
    ·subst e; rw [oU hc] at h2; obtain rfl:=Option.some.inj h2; exact hd2
    ·exact hr i r zo h2⟩ zo (zS rfl) aY
 ·simp only [decide_eq_false_iff_not] at hc
  have hall:∀ (i:Nat) (r:Qi),z[i]? = some r → eO r = true:=fun i r h=>hr i r (by have:=(List.getElem?_eq_some_iff.1 h).1; omega) h
  refine gW rfl (ts (ro rfl (cX cW) (eZ (fG rfl (fZ (eY rfl) ?_)))))
  exact (dN (a2w hall).symm)
theorem Xj {z:List Qi} {s:List (List Qi)} {L:Nat} (hz:cB z L) (h:L ≤ 17592186044415) (hl:z.length ≤ 1000) (hl2:s.length ≤ 1000):bE Tryz.prog 90 [tJ z,QM s] (eS [zL (dA (cM z s) z) (dA (cM z s) s),aT .i64 (cM z s)]):=by
 refine bE.intro Tryz.func90 rfl Tryz.ntmps90 rfl (fun cx=>(ts (rn rfl (eG (Ts:=[Is (.slice none 0 0),Is (.slice none 0 0)]) O_38 rfl (fun V=>aW zd (aW zd (aG)))) fun B4=>(ro rfl (cX (cV 0)) (eZ (cU (ts (rm rfl (rm rfl (ro rfl (cJ Tryz.call189 (a0z zo zo) ⟨(Ht rfl),(Ht rfl),trivial⟩) (ro rfl (dR (Ht rfl)) (eZ (dX (Ht rfl) (fun hb=>?_) (fun hb=>?_))))))))))))))
 ·have hb2 : ¬ Gv z s = true := by simpa using hb
  have he:cM z s = 4:=by rw [Bv,if_neg hb2]
  refine ts (ro rfl (aM.imp (zP ) wK) (gX Z_38 (Ht rfl) (Ht rfl) rfl (i:=0) rfl (aK rfl) rfl rfl (ro rfl (cX (cV 4)) (eZ (bM rfl (fZ (fU A_38 Z_38 rfl (i:=0) rfl rfl) ?_) (fZ (eY rfl) ?_))))))
  ·exact (Pl he (by decide))
  ·exact (aS he.symm)
 ·have hb2 : Gv z s = true := by simpa using hb
  refine cY (cU (ts (rm rfl (ro rfl (cJ Tryz.call190 (yI (by assumption) (by assumption) zo) ⟨(Ht rfl),trivial⟩) ?_))))
  refine ro rfl (dR (Ht rfl)) (eZ (dX (Ht rfl) (fun hc=>?_) (fun hc=>?_)))
  ·have hc2 : ¬ z.all eO = true := by simp only [Bool.not_eq_true'] at hc; rw [hc]; exact Bool.noConfusion
   have he:cM z s = 1:=by rw [Bv,if_pos hb2,if_neg hc2]
   refine ts (ro rfl (aM.imp (zP ) wK) (gX Z_38 (Ht rfl) (Ht rfl) rfl (i:=0) rfl (aK rfl) rfl rfl (ro rfl (cX (cV 1)) (eZ (bM rfl (fZ (fU A_38 Z_38 rfl (i:=0) rfl rfl) ?_) (fZ (eY rfl) ?_))))))
   ·exact (Pl he (by decide))
   ·exact (aS he.symm)
  ·have hc2 : z.all eO = true := by simp only [Bool.not_eq_false'] at hc; exact hc
   have he:cM z s = 0:=by rw [Bv,if_pos hb2,if_pos hc2]
   refine cY (ts (rm rfl (rm rfl (ro rfl (Ez (Ht rfl) (Ht rfl)) (gX Z_38 (Ht rfl) (Ht rfl) rfl (i:=0) rfl (aK rfl) rfl rfl (ro rfl (cX (cV 0)) (eZ (bM rfl (fZ (fU A_38 Z_38 rfl (i:=0) rfl rfl) ?_) (fZ (eY rfl) ?_)))))))))
   ·exact (Yz he)
   ·exact (aS he.symm)
theorem Xk {z:List Qi} {s c:List (List Qi)} (hz:z.length ≤ 1000) (hc:c.length ≤ 1000):bE Tryz.prog 92 [zL z s,QM c] (eS [pG (dA (dM z c) z) (dA (dM z c) s) (dA (dM z c) c),aT .i64 (dM z c)]):=by
 refine bE.intro Tryz.func92 rfl Tryz.ntmps92 rfl (fun cx=>(ts (rn rfl (fK (Ht rfl)) fun B2=>(rn rfl (eG (Ts:=[Is (.slice none 0 0),Is (.slice none 0 0),Is (.slice none 0 0)]) O_40 rfl (fun V=>aW zd (aW zd (aW zd (aG))))) fun B4=>(ro rfl (cX (cV 0)) (eZ (cU (ts (rm rfl (ro rfl (dK U_36 (Ht rfl) aA) (ro rfl (eJ rW (Ht rfl) rfl) (ro rfl (fQ A_35 Z_35 (Ht rfl) (i:=0) rfl rfl) (ro rfl (dK U_35 (Ht rfl) aA) ?_)))))))))))))
 refine ro rfl (fB (Ht rfl) (Ht rfl)) (eZ (dX (Ht rfl) (fun hb=>?_) (fun hb=>?_)))
 ·have hb2 : ¬ c.length = z.length := by simpa using hb
  have he:dM z c = 4:=by rw [← zC,At,if_pos (.inl hb2)]
  refine ts (ro rfl (aM.imp (Kc ) zD) (gX Z_40 (Ht rfl) (Ht rfl) rfl (i:=1) rfl (aK rfl) rfl rfl (ro rfl (cX (cV 4)) (eZ (bM rfl (fZ (fU A_40 Z_40 rfl (i:=1) rfl rfl) ?_) (fZ (eY rfl) ?_))))))
  ·exact (Gq he)
  ·exact (aS he.symm)
 ·have hb2 : c.length = z.length := by simpa using hb
  refine cY (cU (ts (ro rfl (cX (cV 0)) (eZ (eK ?_)))))
  refine bS (fun (k : Nat) => k ≤ c.length ∧ ∀ (i : Nat) (r : List Qi), i < k → c[i]? = some r → r.length = z.length) (fun (k : Nat) => c.length - k) (fun (k : Nat) => [(1, QM c), (2, cC B2 0), (4, cC B4 0), (6, NT .i64 k)]) (fun (k : Nat) => [box B2 38 [tJ z, QM s], box B4 40 [Is (.slice none 0 0), Is (.slice none 0 0), Is (.slice none 0 0)]]) 0 ⟨Nat.zero_le _, fun i r h => by omega⟩
   (zS rfl) (dE.refl _) (fun k ⟨hk,hr⟩=>?_)
  refine cU (ts (rm rfl (rm rfl (ro rfl (dK U_36 (Ht rfl) aA) (ro rfl (gZ (Ht rfl) (Ht rfl)) (eZ (dX (Ht rfl) (fun hd=>?_) (fun hd=>?_))))))))
  ·simp only [decide_eq_true_eq] at hd
   refine cY (cU (eK (cU (fJ (m:=8) (dp 1 rfl (cZ (Ht rfl)) (dp 6 rfl (cZ (Ht rfl)) (cP 20 0 21 1 rfl (dJ U_36 Z_35 (Ht rfl) (Ht rfl) rfl (eQ (oU hd))) (dq 22 2 rfl (dV A_35 Z_35 (Ht rfl)) (dq 23 3 rfl (dK U_35 (Ht rfl) aA) (dp 2 rfl (eJ rW (Ht rfl) rfl) (dq 25 5 rfl (fQ A_35 Z_35 (Ht rfl) (i:=0) rfl rfl) (dq 26 6 rfl (dK U_35 (Ht rfl) aA) (fW aL rfl (by kernel_rfl) (zF (zF (aV ?_))))))))))))))))
   refine ro rfl (fB (Ht rfl) (Ht rfl)) (eZ (dX (Ht rfl) (fun he=>?_) (fun he=>?_)))
   ·have hd2 : ¬ (c[k]).length = z.length := by simpa using he
    have he:dM z c = 4:=by rw [← zC,At,if_pos (.inr (Ti (oU hd) hd2))]
    refine ts (ro rfl (aM.imp (Kc ) zD) (gX Z_40 (Ht rfl) (Ht rfl) rfl (i:=1) rfl (aK rfl) rfl rfl (ro rfl (cX (cV 4)) (eZ (bM rfl (fZ (fU A_40 Z_40 rfl (i:=1) rfl rfl) ?_) (fZ (eY rfl) ?_))))))
    ·exact (Gq he)
    ·exact (aS he.symm)
   ·have hd2 : (c[k]).length = z.length := by simpa using he
    refine cY (bC (dQ (rm rfl (ro rfl (dW (Ht rfl) (cV 1) z6) (ra rfl (eZ ?_))))))
    refine fY (k + 1) ⟨hd, fun i r h1 h2 => by
      by_cases e:i = k
      ·subst e; rw [oU hd] at h2; obtain rfl:=Option.some.inj h2; exact hd2
      ·exact hr i r zo h2⟩ zo (zS rfl) (dE.refl _)
  ·simp only [decide_eq_false_iff_not] at hd
   have hall:∀ (i:Nat) (r:List Qi),c[i]? = some r → r.length = z.length:=fun i r h=>hr i r (by have:=(List.getElem?_eq_some_iff.1 h).1; omega) h
   have he:dM z c = 0:=by rw [← zC,At,if_neg (by rintro (h | h); exact h hb2; rw [Ml hall] at h; cases h)]
   refine gW rfl (ts (ro rfl (eW A_38 Z_38 (Ht rfl) (i:=0) rfl rfl rfl) (rm rfl (ro rfl (Fa (Ht rfl) (Ht rfl)) (gX Z_40 (Ht rfl) (Ht rfl) rfl (i:=1) rfl (aK rfl) rfl rfl (ro rfl (cX (cV 0)) (eZ (bM rfl (fZ (fU A_40 Z_40 rfl (i:=1) rfl rfl) ?_) (fZ (eY rfl) ?_)))))))))
   ·exact (Pn he)
   ·exact (aS he.symm)
end
section
open Go Go.RowKit
theorem a0m {z:List Rt} {s c:List (List Rt)} (hf:yB z s c = true):bE Tryz.prog 17 [Wy z s c] (eS [fP (Hm z s c) (mdS z s c) (mdC z s c),pG (Hm z s c) (mdS z s c) (mdC z s c),aD true]):=by
 obtain ⟨hz,hs,hc,hsr,hcr⟩:=Do hf
 have hsr2:∀ r,r ∈ s → r.length ≤ 1000:=fun r h=>Nat.le_trans (hsr r h) (by decide)
 have hcr2:∀ r,r ∈ c → r.length ≤ 1000:=fun r h=>Nat.le_trans (hcr r h) (by decide)
 have hz1:(z.map Rt.q).length ≤ 1000:=by simp; omega
 have hs1:(rq s).length ≤ 1000:=by simp; omega
 have hc1:(rq c).length ≤ 1000:=by simp; omega
 have hz2:(dA (cM (z.map Rt.q) (rq s)) (z.map Rt.q)).length ≤ 1000:=Nat.le_trans (Vt _ _) hz1
 have hfit:cB (z.map Rt.q) 2:=cB.rt
 refine bE.intro Tryz.func17 rfl Tryz.ntmps17 rfl (fun cx=>(ts (rn rfl (fK (Ht rfl)) fun B1=>(rn rfl (eG (Ts:=[Is (.slice none 0 0),Is (.slice none 0 0),Is (.slice none 0 0)]) O_34 rfl (fun V=>aW zd (aW zd (aW zd (aG))))) fun B2=>(rn rfl (eG (Ts:=[Is (.slice none 0 0),Is (.slice none 0 0),Is (.slice none 0 0)]) O_40 rfl (fun V=>aW zd (aW zd (aW zd (aG))))) fun B3=>(ro rfl (cX cW) ?_))))))
 refine eZ (cU (Y.D_start (m:=12) [] (cQ (Ei:=[(1,_)]) rfl rfl (bQ (bJ rfl rfl) bX) rfl rfl (dZ rfl (eJ zZ (Ht rfl) rfl)) (cQ (Ei:=[(14,_)]) rfl rfl (bQ (bZ 0 rfl rfl) bX) rfl rfl (dZ rfl (fQ A_22 Z_22 (Ht rfl) (i:=0) rfl rfl)) (cQ (Ei:=[(15,_)]) rfl rfl (bQ (bZ 1 rfl rfl) bX) rfl rfl (dZ rfl (cJ K_48 (qM zo) ⟨(Ht rfl),trivial⟩)) (cQ (Ei:=[(1,_)]) rfl rfl (bQ (bJ rfl rfl) bX) rfl rfl (dZ rfl (eJ Dl (Ht rfl) rfl)) ?_))))))
 refine cQ (Ei:=[(17,_)]) rfl rfl (bQ (bZ 3 rfl rfl) bX) rfl rfl (dZ rfl (fQ A_23 Z_23 (Ht rfl) (i:=0) rfl rfl)) (cQ (Ei:=[(18,_)]) rfl rfl (bQ (bZ 4 rfl rfl) bX) rfl rfl (dZ rfl (cJ Tryz.call86 (Bh zo (by assumption)) ⟨(Ht rfl),trivial⟩)) ?_)
 refine cQ (Ei:=[(16,_),(19,_)]) rfl rfl (bQ (bZ 2 rfl rfl) (bQ (bZ 5 rfl rfl) bX)) rfl rfl (dZ rfl (cJ Tryz.call85 (Mu (L:=2) (by assumption) zo zo zo) ⟨(Ht rfl),(Ht rfl),trivial⟩)) ?_
 refine cQ (Ei:=[(20,_)]) rfl rfl (bQ (bZ 6 rfl rfl) bX) rfl rfl (dZ rfl (cZ (Ht rfl))) (cQ (Ei:=[(13,_)]) rfl rfl (bQ (bZ 7 rfl rfl) bX) rfl rfl (dZ rfl (dU (Ht rfl) rfl)) (cQ (Ei:=[(13,_)]) rfl rfl (bQ (bZ 7 rfl rfl) bX) rfl rfl (dZ rfl (dU (Ht rfl) rfl)) (Y.D_newp (Ei:=[]) (fun bb=>box bb 32 [bB (dA (cM (z.map Rt.q) (rq s)) (z.map Rt.q)),bL (dA (cM (z.map Rt.q) (rq s)) (rq s))]) 11 rfl rfl rfl bX rfl rfl (by kernel_rfl) (eG (Ts:=[Is (.slice none 0 0),Is (.slice none 0 0)]) O_32 rfl (fun V=>aW zd (aW zd (aG)))) ?_)))
 refine Y.D_putN (Ei:=[(21,_)]) 10 rfl rfl rfl rfl rfl rfl (bQ (bZ 8 rfl rfl) bX) (fun bb=>kQ Z_32 (Ht rfl) (Ht rfl) rfl (i:=0) rfl (aK rfl) rfl rfl) (Y.D_done aL rfl (by kernel_rfl) rfl (by simp [Y.okP]) rfl rfl (bU (bU (bU (bU (bU (bU (bU (bU (bU (bU (Y.F_newp (fun B5=>Y.F_putN (Y.F_nil ?_))))))))))))))
 refine ra rfl (eZ (cU (Y.D_start (m:=10) [] (cQ (Ei:=[(5,_)]) rfl rfl (bQ (bJ rfl rfl) bX) rfl rfl (dZ rfl (eW A_32 Z_32 (Ht rfl) (i:=3) rfl rfl rfl)) (cQ (Ei:=[(1,_)]) rfl rfl (bQ (bJ rfl rfl) bX) rfl rfl (dZ rfl (eJ Dm (Ht rfl) rfl)) (cQ (Ei:=[(25,_)]) rfl rfl (bQ (bZ 1 rfl rfl) bX) rfl rfl (dZ rfl (fQ A_23 Z_23 (Ht rfl) (i:=0) rfl rfl)) (cQ (Ei:=[(26,_)]) rfl rfl (bQ (bZ 2 rfl rfl) bX) rfl rfl (dZ rfl (cJ Tryz.call86 (Bh zo (by assumption)) ⟨(Ht rfl),trivial⟩)) ?_)))))))
 refine cQ (Ei:=[(24,_),(27,_)]) rfl rfl (bQ (bZ 0 rfl rfl) (bQ (bZ 3 rfl rfl) bX)) rfl rfl (dZ rfl (cJ Tryz.call55 (a0s zo zo) ⟨(Ht rfl),(Ht rfl),trivial⟩)) (cQ (Ei:=[(28,_)]) rfl rfl (bQ (bZ 4 rfl rfl) bX) rfl rfl (dZ rfl (cZ (Ht rfl))) (cQ (Ei:=[(23,_)]) rfl rfl (bQ (bZ 5 rfl rfl) bX) rfl rfl (dZ rfl (dU (Ht rfl) rfl)) (cQ (Ei:=[(23,_)]) rfl rfl (bQ (bZ 5 rfl rfl) bX) rfl rfl (dZ rfl (dU (Ht rfl) rfl)) ?_)))
 refine Y.D_newp (Ei:=[]) (fun bb=>box bb 34 [bB (dA (dM (dA (cM (z.map Rt.q) (rq s)) (z.map Rt.q)) (rq c)) (dA (cM (z.map Rt.q) (rq s)) (z.map Rt.q))),bL (dA (dM (dA (cM (z.map Rt.q) (rq s)) (z.map Rt.q)) (rq c)) (dA (cM (z.map Rt.q) (rq s)) (rq s))),bL (dA (dM (dA (cM (z.map Rt.q) (rq s)) (z.map Rt.q)) (rq c)) (rq c))]) 9 rfl rfl rfl bX rfl rfl (by kernel_rfl) (eG (Ts:=[Is (.slice none 0 0),Is (.slice none 0 0),Is (.slice none 0 0)]) O_34 rfl (fun V=>aW zd (aW zd (aW zd (aG))))) ?_
 refine Y.D_putN (Ei:=[(29,_)]) 8 rfl rfl rfl rfl rfl rfl (bQ (bZ 6 rfl rfl) bX) (fun bb=>kQ Z_34 (Ht rfl) (Ht rfl) rfl (i:=0) rfl (aK rfl) rfl rfl) (Y.D_done aL rfl (by kernel_rfl) rfl (by simp [Y.okP]) rfl rfl (bU (bU (bU (bU (bU (bU (bU (bU (Y.F_newp (fun B7=>Y.F_putN (Y.F_nil ?_))))))))))))
 refine ra rfl (eZ (cU (Y.D_start (m:=12) [] (cQ (Ei:=[(1,_)]) rfl rfl (bQ (bJ rfl rfl) bX) rfl rfl (dZ rfl (eJ zZ (Ht rfl) rfl)) (cQ (Ei:=[(32,_)]) rfl rfl (bQ (bZ 0 rfl rfl) bX) rfl rfl (dZ rfl (fQ A_22 Z_22 (Ht rfl) (i:=0) rfl rfl)) (cQ (Ei:=[(33,_)]) rfl rfl (bQ (bZ 1 rfl rfl) bX) rfl rfl (dZ rfl (cJ Tryz.call50 (Bm zo) ⟨(Ht rfl),trivial⟩)) (cQ (Ei:=[(1,_)]) rfl rfl (bQ (bJ rfl rfl) bX) rfl rfl (dZ rfl (eJ Dl (Ht rfl) rfl)) ?_)))))))
 refine cQ (Ei:=[(35,_)]) rfl rfl (bQ (bZ 3 rfl rfl) bX) rfl rfl (dZ rfl (fQ A_23 Z_23 (Ht rfl) (i:=0) rfl rfl)) (cQ (Ei:=[(36,_)]) rfl rfl (bQ (bZ 4 rfl rfl) bX) rfl rfl (dZ rfl (cJ Tryz.call91 (Il zo (by assumption)) ⟨(Ht rfl),trivial⟩)) ?_)
 refine cQ (Ei:=[(34,_),(37,_)]) rfl rfl (bQ (bZ 2 rfl rfl) (bQ (bZ 5 rfl rfl) bX)) rfl rfl (dZ rfl (cJ Tryz.call90 (Xj (L:=2) (by assumption) zo zo zo) ⟨(Ht rfl),(Ht rfl),trivial⟩)) ?_
 refine cQ (Ei:=[(38,_)]) rfl rfl (bQ (bZ 6 rfl rfl) bX) rfl rfl (dZ rfl (cZ (Ht rfl))) (cQ (Ei:=[(31,_)]) rfl rfl (bQ (bZ 7 rfl rfl) bX) rfl rfl (dZ rfl (dU (Ht rfl) rfl)) (cQ (Ei:=[(31,_)]) rfl rfl (bQ (bZ 7 rfl rfl) bX) rfl rfl (dZ rfl (dU (Ht rfl) rfl)) (Y.D_newp (Ei:=[]) (fun bb=>box bb 38 [tJ (dA (cM (z.map Rt.q) (rq s)) (z.map Rt.q)),QM (dA (cM (z.map Rt.q) (rq s)) (rq s))]) 11 rfl rfl rfl bX rfl rfl (by kernel_rfl) (eG (Ts:=[Is (.slice none 0 0),Is (.slice none 0 0)]) O_38 rfl (fun V=>aW zd (aW zd (aG)))) ?_)))
 refine Y.D_putN (Ei:=[(39,_)]) 10 rfl rfl rfl rfl rfl rfl (bQ (bZ 8 rfl rfl) bX) (fun bb=>kQ Z_38 (Ht rfl) (Ht rfl) rfl (i:=0) rfl (aK rfl) rfl rfl) (Y.D_done aL rfl (by kernel_rfl) rfl (by simp [Y.okP]) rfl rfl (bU (bU (bU (bU (bU (bU (bU (bU (bU (bU (Y.F_newp (fun B9=>Y.F_putN (Y.F_nil ?_))))))))))))))
 refine ra rfl (eZ (cU (Y.D_start (m:=10) [] (cQ (Ei:=[(9,_)]) rfl rfl (bQ (bJ rfl rfl) bX) rfl rfl (dZ rfl (eW A_38 Z_38 (Ht rfl) (i:=5) rfl rfl rfl)) (cQ (Ei:=[(1,_)]) rfl rfl (bQ (bJ rfl rfl) bX) rfl rfl (dZ rfl (eJ Dm (Ht rfl) rfl)) (cQ (Ei:=[(43,_)]) rfl rfl (bQ (bZ 1 rfl rfl) bX) rfl rfl (dZ rfl (fQ A_23 Z_23 (Ht rfl) (i:=0) rfl rfl)) (cQ (Ei:=[(44,_)]) rfl rfl (bQ (bZ 2 rfl rfl) bX) rfl rfl (dZ rfl (cJ Tryz.call91 (Il zo (by assumption)) ⟨(Ht rfl),trivial⟩)) ?_)))))))
 refine cQ (Ei:=[(42,_),(45,_)]) rfl rfl (bQ (bZ 0 rfl rfl) (bQ (bZ 3 rfl rfl) bX)) rfl rfl (dZ rfl (cJ Tryz.call92 (Xk zo zo) ⟨(Ht rfl),(Ht rfl),trivial⟩)) (cQ (Ei:=[(46,_)]) rfl rfl (bQ (bZ 4 rfl rfl) bX) rfl rfl (dZ rfl (cZ (Ht rfl))) (cQ (Ei:=[(41,_)]) rfl rfl (bQ (bZ 5 rfl rfl) bX) rfl rfl (dZ rfl (dU (Ht rfl) rfl)) (cQ (Ei:=[(41,_)]) rfl rfl (bQ (bZ 5 rfl rfl) bX) rfl rfl (dZ rfl (dU (Ht rfl) rfl)) ?_)))
 refine Y.D_newp (Ei:=[]) (fun bb=>box bb 40 [tJ (dA (dM (dA (cM (z.map Rt.q) (rq s)) (z.map Rt.q)) (rq c)) (dA (cM (z.map Rt.q) (rq s)) (z.map Rt.q))),QM (dA (dM (dA (cM (z.map Rt.q) (rq s)) (z.map Rt.q)) (rq c)) (dA (cM (z.map Rt.q) (rq s)) (rq s))),QM (dA (dM (dA (cM (z.map Rt.q) (rq s)) (z.map Rt.q)) (rq c)) (rq c))]) 9 rfl rfl rfl bX rfl rfl (by kernel_rfl) (eG (Ts:=[Is (.slice none 0 0),Is (.slice none 0 0),Is (.slice none 0 0)]) O_40 rfl (fun V=>aW zd (aW zd (aW zd (aG))))) ?_
 refine Y.D_putN (Ei:=[(47,_)]) 8 rfl rfl rfl rfl rfl rfl (bQ (bZ 6 rfl rfl) bX) (fun bb=>kQ Z_40 (Ht rfl) (Ht rfl) rfl (i:=0) rfl (aK rfl) rfl rfl) (Y.D_done aL rfl (by kernel_rfl) rfl (by simp [Y.okP]) rfl rfl (bU (bU (bU (bU (bU (bU (bU (bU (Y.F_newp (fun B11=>Y.F_putN (Y.F_nil ?_))))))))))))
 refine ra rfl (eZ (cU (Y.D_start (m:=16) [(14,1,box B2 34 [bB (dA (dM (dA (cM (z.map Rt.q) (rq s)) (z.map Rt.q)) (rq c)) (dA (cM (z.map Rt.q) (rq s)) (z.map Rt.q))),bL (dA (dM (dA (cM (z.map Rt.q) (rq s)) (z.map Rt.q)) (rq c)) (dA (cM (z.map Rt.q) (rq s)) (rq s))),bL (dA (dM (dA (cM (z.map Rt.q) (rq s)) (z.map Rt.q)) (rq c)) (rq c))]),(15,2,box B3 40 [tJ (dA (dM (dA (cM (z.map Rt.q) (rq s)) (z.map Rt.q)) (rq c)) (dA (cM (z.map Rt.q) (rq s)) (z.map Rt.q))),QM (dA (dM (dA (cM (z.map Rt.q) (rq s)) (z.map Rt.q)) (rq c)) (dA (cM (z.map Rt.q) (rq s)) (rq s))),QM (dA (dM (dA (cM (z.map Rt.q) (rq s)) (z.map Rt.q)) (rq c)) (rq c))])] ?_)))
 refine Y.D_step (Ei:=[(7,_)]) rfl rfl (bQ (bJ rfl rfl) bX) rfl rfl (by kernel_rfl) (dZ rfl (eW A_34 Z_34 (Ht rfl) (i:=4) rfl rfl rfl)) (cQ (Ei:=[(11,_)]) rfl rfl (bQ (bJ rfl rfl) bX) rfl rfl (dZ rfl (eW A_40 Z_40 (Ht rfl) (i:=6) rfl rfl rfl)) (Y.D_step (Ei:=[(6,_)]) rfl rfl (bQ (bJ rfl rfl) bX) rfl rfl (by kernel_rfl) (dZ rfl (cZ (Ht rfl))) (Y.D_step (Ei:=[(10,_)]) rfl rfl (bQ (bJ rfl rfl) bX) rfl rfl (by kernel_rfl) (dZ rfl (cZ (Ht rfl))) ?_)))
 refine Y.D_step (Ei:=[(51,_),(52,_)]) rfl rfl (bQ (bZ 2 rfl rfl) (bQ (bZ 3 rfl rfl) bX)) rfl rfl (by kernel_rfl) (dZ rfl (kN (Ht rfl) (Ht rfl))) (Y.D_step (Ei:=[(53,_)]) rfl rfl (bQ (bZ 4 rfl rfl) bX) rfl rfl (by kernel_rfl) (dZ rfl (cZ (Ht rfl))) (Y.D_step (Ei:=[(6,_),(54,_)]) rfl rfl (bQ (bJ rfl rfl) (bQ (bZ 5 rfl rfl) bX)) rfl rfl (by kernel_rfl) (mJ rfl rfl (Ht rfl) (fun h=>cZ (Ht rfl))) (Y.D_step (Ei:=[(55,_),(54,_)]) rfl rfl (bQ (bZ 6 rfl rfl) (bQ (bZ 5 rfl rfl) bX)) rfl rfl (by kernel_rfl) (mJ rfl rfl (Ht rfl) (fun h=>iR (bT.wu rfl h) cW)) ?_)))
 refine Y.D_step (Ei:=[(56,_),(54,_)]) rfl rfl (bQ (bZ 7 rfl rfl) (bQ (bZ 5 rfl rfl) bX)) rfl rfl (by kernel_rfl) (mJ rfl rfl (Ht rfl) (fun h=>cZ (bT.wu rfl h))) (cQ (Ei:=[(8,_),(57,_)]) rfl rfl (bQ (bJ rfl rfl) (bQ (bZ 8 rfl rfl) bX)) rfl rfl (rQ rfl rfl rfl (fun h h2=>cZ (Ht rfl))) (cQ (Ei:=[(12,_),(57,_)]) rfl rfl (bQ (bJ rfl rfl) (bQ (bZ 8 rfl rfl) bX)) rfl rfl (rQ rfl rfl rfl (fun h h2=>cZ (Ht rfl))) (cQ (Ei:=[(58,_),(59,_),(57,_)]) rfl rfl (bQ (bZ 9 rfl rfl) (bQ (bZ 10 rfl rfl) (bQ (bZ 8 rfl rfl) bX))) rfl rfl (rQ rfl rfl rfl (fun h h2=>kN (bT.wu rfl ⟨h,h2⟩) (bT.wu rfl ⟨h,h2⟩))) ?_)))
 refine cQ (Ei:=[(57,_),(60,_),(54,_)]) rfl rfl (bQ (bZ 8 rfl rfl) (bQ (bZ 11 rfl rfl) (bQ (bZ 5 rfl rfl) bX))) rfl rfl (mJ rfl rfl (Ht rfl) (fun h=>gN (bT.wu rfl h) (fun h2=>(bT.wu rfl ⟨h,h2⟩)))) (cQ (Ei:=[(54,_),(61,_)]) rfl rfl (bQ (bZ 5 rfl rfl) (bQ (bZ 12 rfl rfl) bX)) rfl rfl (dZ rfl (fC (Ht rfl) (fun h=>(bT.wu rfl h)))) (Y.D_putI (Ei:=[(2,_),(49,_)]) 1 rfl rfl rfl (bQ (bJ rfl rfl) (bQ (bZ 0 rfl rfl) bX)) (.head _) rfl (kQ Z_34 (Ht rfl) (Ht rfl) rfl (i:=0) rfl (aK rfl) rfl rfl) ?_))
 refine Y.D_putI (Ei:=[(3,_),(50,_)]) 2 rfl rfl rfl (bQ (bJ rfl rfl) (bQ (bZ 1 rfl rfl) bX)) (.tail _ (.head _)) rfl (kQ Z_40 (Ht rfl) (Ht rfl) rfl (i:=0) rfl (aK rfl) rfl rfl) (Y.D_done aL rfl (by kernel_rfl) rfl (by simp [Y.okP]) rfl rfl (bU (bU (bU (bU (bU (bU (bU (bU (bU (bU (bU (bU (bU (bU (Y.F_putI (Y.F_putI (Y.F_nil ?_))))))))))))))))))
 refine ra rfl (eZ (a5p rfl (fU A_34 Z_34 rfl (i:=1) rfl rfl) (fU A_40 Z_40 rfl (i:=2) rfl rfl) (fZ (eY rfl) ?_)))
 exact (dN (by simp))
end
section
open Go Go.RowKit
theorem Dn (a:Addr) (w:World):(Instr.fieldAt 38 (.pointer (some a)) 1).run Tryz.prog w = .ok (.pointer (some (a.add 1))) w:=by
 simp [Instr.fieldAt,Instr.sureAddr,fieldPlace,Sem.run_bind,Result.andThen,U_38,Z_36]
end
section
open Go Go.RowKit
theorem rB {n m:Nat} (hn:n ≤ 1000) (hm:m ≤ 1000):gG Tryz.prog 129 [NT .i64 n,NT .i64 m] [] (Nat) (fun B=>Is (.slice (some ⟨B,0,none⟩) n n)) (fun B=>[jU dT B 35 131 5 (bP QT (mI n m))]) (fun _=>True):=by
 refine gG.intro Tryz.func129 rfl Tryz.ntmps129 rfl (fun cx Z=>(ts (ro rfl (cX cW) (eZ (ts (rm rfl (rn rfl (eM (T:=Is (.slice none 0 0)) (i:=Tryz.t35) Tryz.underlying36 Lc rfl rfl (Ht rfl) rfl (fun _=>rfl) trivial (by show 24 * _ ≤ _; omega) zo) fun B9=>(ra rfl (eZ (cU (ts (ro rfl (cX (cV 0)) (eZ (eK (nM 1 rfl (uZ dT ⟨none,0,rfl⟩ (e:=131) (s:=5)) ?_)))))))))))))))
 refine gA (fun (k : Nat) (M : List (List Qi)) => mX (fun _ => tab m fun _ => Qi.zero) n M k) (fun (k : Nat) (M : List (List Qi)) => n - k) (fun (k : Nat) (M : List (List Qi)) => [(0, NT .i64 n), (1, NT .i64 m), (5, Is (.slice (some ⟨B9, 0, none⟩) n n)), (6, NT .i64 k)]) (fun (k : Nat) (M : List (List Qi)) => [Z, jU dT B9 35 131 5 (bP QT M)]) 0 (List.replicate n []) (mX.start _ _ _)
  (zS rfl) (aU (fun _ _ _ h=>h) (aU (bF (mF QT n)) aY)) (fun k M hS=>?_)
 refine cU (ts (rm rfl (rm rfl (ro rfl (gZ (Ht rfl) (Ht rfl)) (eZ (dX (Ht rfl) (fun hk=>?_) (fun hk=>?_)))))))
 ·simp only [decide_eq_true_eq] at hk
  have hlen:=hS.len
  refine kE 1 (k) rfl (kY (m:=M) (i:=k) zo) (fun v hv=>(cY (cU (eK (ts (rm rfl (rm rfl (rm rfl (Tg (T:=ZQ) (i:=Tryz.t131) Hh uW rfl rfl (Ht rfl) rfl a7V (El.ag rfl) (by show 88 * _ ≤ _; omega) zo rfl (fun B18 hB18=>(ro rfl (gQ U_36 Z_35 (Ht rfl) (Ht rfl) rfl zo (by rw [Nat.mul_one,Nat.zero_add])) ?_)))))))))))
  refine sP Z_35 (Ht rfl) (Ht rfl) (by simp; omega) (j:=1) (l:=3) rfl rfl rfl ?_
  refine eZ (cU (bR [0,1,3] rfl (by decide) (dQ (ro rfl (cX (cV 0)) (eZ (eK ?_))))))
  refine gA (fun (j : Nat) (out : List Ty) => mX (fun _ => QT Qi.zero) m out j) (fun (j : Nat) (out : List Ty) => m - j) (fun (j : Nat) (out : List Ty) => [(0, NT .i64 n), (1, NT .i64 m), (5, Is (.slice (some ⟨B9, 0, none⟩) n n)), (6, NT .i64 k), (7, NT .i64 j)]) (fun (j : Nat) (out : List Ty) => [Z, sL dT B9 35 131 5 (bP QT M) k B18, cL 131 5 B18 out]) 0 (List.replicate m ZQ) (mX.start _ _ _)
   (zS rfl) (dE.refl _) (fun j out hT=>?_)
  refine cU (ts (rm rfl (rm rfl (ro rfl (gZ (Ht rfl) (Ht rfl)) (eZ (dX (Ht rfl) (fun hj=>?_) (fun hj=>?_)))))))
  ·simp only [decide_eq_true_eq] at hj
   have hlen2:=hT.len
   refine cY (cU (eK (fJ (m:=6) (dp 5 rfl (cZ (Ht rfl)) (dp 6 rfl (cZ (Ht rfl)) (cP 25 0 26 1 rfl (gQ U_36 Z_35 (Ht rfl) (Ht rfl) rfl zo (by rw [Nat.mul_one,Nat.zero_add])) ?_))))))
   refine dq 27 2 rfl (gI A_35 Z_35 (Ht rfl) (j:=1) rfl) (dp 7 rfl (cZ (Ht rfl)) (d0 rfl (cJ K_148 (rD (by decide) (by decide)) ⟨(cV 0),trivial⟩) (fW aL rfl (by kernel_rfl) (zF (aJ (aJ (aV (ro rfl (cR U_35 Z_131 (Ht rfl) (Ht rfl) rfl (i:=2) rfl zo rfl) (kV Z_131 (Ht rfl) (Ht rfl) (El.ag rfl) (i:=2) rfl rfl (by first | omega | (simp; omega)) rfl (eZ (bC (dQ (rm rfl (ro rfl (dW (Ht rfl) (cV 1) z6) ?_))))))))))))))
   refine ra rfl (eZ (fY (j + 1,_) (hT.next hj rfl) (by dsimp only; omega) (zS rfl) (dE.refl _)))
  ·simp only [decide_eq_false_iff_not] at hj
   obtain rfl:j = m:=Nat.le_antisymm hT.kle zo
   have hfin:=hT.fin
   rw [← xW _ (fun _=>Qi.zero) QT] at hfin
   subst hfin
   refine gW rfl (bC (dL 1 2 rfl rfl (by decide) (by show k < (bP QT M).length; simp only [bP,List.length_map]; omega) (dQ (rm rfl (ro rfl (dW (Ht rfl) (cV 1) z6) (ra rfl (eZ (bR [0,1] rfl (by decide) (fY (k + 1,_) (hS.next hk rfl) (by dsimp only; omega) (zS rfl) (aU (fun _ _ _ h=>h) (aU (bF (eE QT _ _ _)) aY)))))))))))
 ·simp only [decide_eq_false_iff_not] at hk
  obtain rfl:k = n:=Nat.le_antisymm hS.kle zo
  have hfin:=hS.fin
  refine gW rfl (ts (rm rfl (ra rfl (eZ ?_))))
  exact jT B9 trivial [0,1] ⟨⟨_,rfl,fun _ _ _ h=>h⟩,⟨_,rfl,(bF (by rw [hfin]; rfl))⟩,trivial⟩ (by decide) (wN rfl (eY rfl))
theorem a2V {p c:List (List Qi)} {L:Nat} (hp:bA p L) (hc:bA c L) (hL1:1 ≤ L) (hL:L ≤ 1000000000) (hps:cI p p.length c.length) (hcs:cI c c.length c.length) (hpl:p.length ≤ 8) (hcl:c.length ≤ 8):gG Tryz.prog 102 [QM p,QM c] [] (Nat) (fun B=>Is (.slice (some ⟨B,0,none⟩) p.length p.length)) (fun B=>[jU dT B 35 131 5 (bP QT (iZ p c))]) (fun _=>True):=by
 refine gG.intro Tryz.func102 rfl Tryz.ntmps102 rfl (fun cx Z=>(ts (ro rfl (cX cW) (eZ (ts (rm rfl (ro rfl (dK U_36 (Ht rfl) aA) (rm rfl (ro rfl (dK U_36 (Ht rfl) aA) (hJ K_129 (rB (n:=p.length) (m:=p.length) zo zo) ⟨(Ht rfl),(Ht rfl),trivial⟩ rfl (fun B14 _=>(ra rfl (eZ (cU (ts (ro rfl (cX (cV 0)) (eZ (eK ?_))))))))))))))))))
 refine bS (fun (i : Nat) => i ≤ p.length) (fun (i : Nat) => p.length - i) (fun (i : Nat) => [(0, QM p), (1, QM c), (5, Is (.slice (some ⟨B14, 0, none⟩) p.length p.length)), (6, NT .i64 i)]) (fun (i : Nat) => [Z, jU dT B14 35 131 5 (bP QT (jC (fun i => tab p.length fun k => yV p c c.length i k) (tab p.length fun _ => Qi.zero) p.length i))]) 0 (Nat.zero_le _)
  (zS rfl) (aU (fun _ _ _ h=>h) (aU (bF (by rw [mI,gR])) aY)) (fun i hi=>?_)
 refine cU (ts (rm rfl (rm rfl (ro rfl (dK U_36 (Ht rfl) aA) (ro rfl (gZ (Ht rfl) (Ht rfl)) (eZ (dX (Ht rfl) (fun hd=>?_) (fun hd=>?_))))))))
 ·simp only [decide_eq_true_eq] at hd
  refine kE 1 (i) rfl (kZ hd) (fun v hv=>(cY (cU (eK (ts (ro rfl (cX (cV 0)) (eZ (eK ?_))))))))
  refine bS (fun (k : Nat) => k ≤ p.length) (fun (k : Nat) => p.length - k) (fun (k : Nat) => [(0, QM p), (1, QM c), (5, Is (.slice (some ⟨B14, 0, none⟩) p.length p.length)), (6, NT .i64 i), (7, NT .i64 k)]) (fun (k : Nat) => [Z, sL dT B14 35 131 5 (bP QT (jC (fun i => tab p.length fun k => yV p c c.length i k) (tab p.length fun _ => Qi.zero) p.length i)) i v, cL 131 5 v ((jC (fun k => yV p c c.length i k) Qi.zero p.length k).map QT)]) 0 (Nat.zero_le _)
   (zS rfl) (aU (fun _ _ _ h=>h) (aU (fun _ _ _ h=>h) (aU (bO (by rw [gR])) aY))) (fun k hk=>?_)
  refine cU (ts (rm rfl (rm rfl (ro rfl (dK U_36 (Ht rfl) aA) (ro rfl (gZ (Ht rfl) (Ht rfl)) (eZ (dX (Ht rfl) (fun he=>?_) (fun he=>?_))))))))
  ·simp only [decide_eq_true_eq] at he
   have hrl:=eD (fun k=>yV p c c.length i k) Qi.zero p.length k
   refine cY (cU (eK (ts (ro rfl (cX (cV 0)) (eZ (eK ?_))))))
   refine bS (fun (a : Nat) => a ≤ c.length) (fun (a : Nat) => c.length - a) (fun (a : Nat) => [(0, QM p), (1, QM c), (5, Is (.slice (some ⟨B14, 0, none⟩) p.length p.length)), (6, NT .i64 i), (7, NT .i64 k), (8, NT .i64 a)]) (fun (a : Nat) => [Z, sL dT B14 35 131 5 (bP QT (jC (fun i => tab p.length fun k => yV p c c.length i k) (tab p.length fun _ => Qi.zero) p.length i)) i v, cL 131 5 v (((jC (fun k => yV p c c.length i k) Qi.zero p.length k).set k (aF a fun a => aF c.length fun b => pY p c i k a b)).map QT)]) 0 (Nat.zero_le _)
    (zS rfl) (aU (fun _ _ _ h=>h) (aU (fun _ _ _ h=>h) (aU (bO (by rw [aF,Om he])) aY))) (fun a ha=>?_)
   refine cU (ts (rm rfl (rm rfl (ro rfl (dK U_36 (Ht rfl) aA) (ro rfl (gZ (Ht rfl) (Ht rfl)) (eZ (dX (Ht rfl) (fun hf=>?_) (fun hf=>?_))))))))
   ·simp only [decide_eq_true_eq] at hf
    refine cY (cU (eK (ts (ro rfl (cX (cV 0)) (eZ (eK ?_))))))
    refine bS (fun (b : Nat) => b ≤ c.length) (fun (b : Nat) => c.length - b) (fun (b : Nat) => [(0, QM p), (1, QM c), (5, Is (.slice (some ⟨B14, 0, none⟩) p.length p.length)), (6, NT .i64 i), (7, NT .i64 k), (8, NT .i64 a), (9, NT .i64 b)]) (fun (b : Nat) => [Z, sL dT B14 35 131 5 (bP QT (jC (fun i => tab p.length fun k => yV p c c.length i k) (tab p.length fun _ => Qi.zero) p.length i)) i v, cL 131 5 v (((jC (fun k => yV p c c.length i k) Qi.zero p.length k).set k ((aF a fun a => aF c.length fun b => pY p c i k a b) + aF b fun b => pY p c i k a b)).map QT)]) 0 (Nat.zero_le _)
     (zS rfl) (aU (fun _ _ _ h=>h) (aU (fun _ _ _ h=>h) (aU (bO (by rw [aF,Qi.add_zero'])) aY))) (fun b hb=>?_)
    refine cU (ts (rm rfl (rm rfl (ro rfl (dK U_36 (Ht rfl) aA) (ro rfl (gZ (Ht rfl) (Ht rfl)) (eZ (dX (Ht rfl) (fun hg=>?_) (fun hg=>?_))))))))
    ·simp only [decide_eq_true_eq] at hg
     have hpr:=hps.row hd
     have hpk:=hps.row he
     have hcr:=hcs.row hf
     haveI f1:aE (gm p i a) L:=hp.get hL1 i a
     haveI f2:aE (gm c a b) L:=hc.get hL1 a b
     haveI f3:aE (gm p k b) L:=hp.get hL1 k b
     haveI f4:aE (aF a fun a=>aF c.length fun b=>pY p c i k a b) (200 * L + 300):=Uh hp hc hL1 hcl zo i k
     haveI f5:aE (aF b fun b=>pY p c i k a b) (24 * L + 25):=a0D hp hc hL1 zo i k a
     have hsl:((jC (fun k=>yV p c c.length i k) Qi.zero p.length k).set k ((aF a fun a=>aF c.length fun b=>pY p c i k a b) + aF b fun b=>pY p c i k a b)).length = p.length:=by rw [List.length_set,hrl]
     refine cY (cU (eK (fJ (m:=37) (dp 5 rfl (cZ (Ht rfl)) (dp 6 rfl (cZ (Ht rfl)) (cP 39 0 40 1 rfl (gQ U_36 Z_35 (Ht rfl) (Ht rfl) rfl zo (by rw [Nat.mul_one,Nat.zero_add])) ?_))))))
     refine dq 41 2 rfl (gI A_35 Z_35 (Ht rfl) (j:=1) rfl) (dp 7 rfl (cZ (Ht rfl)) (dp 5 rfl (cZ (Ht rfl)) (dp 6 rfl (cZ (Ht rfl)) (cP 44 5 45 6 rfl (gQ U_36 Z_35 (Ht rfl) (Ht rfl) rfl zo (by rw [Nat.mul_one,Nat.zero_add])) ?_))))
     refine dq 46 7 rfl (gI A_35 Z_35 (Ht rfl) (j:=1) rfl) (dp 7 rfl (cZ (Ht rfl)) (cP 47 8 48 9 rfl (cR U_35 Z_131 (Ht rfl) (Ht rfl) rfl (i:=2) rfl (by simp only [List.length_map]; omega) rfl) ?_))
     refine dq 49 10 rfl (oX A_131 Z_131 (Ht rfl) (i:=2) rfl rfl (eQ (a4p (by rw [hrl]; exact he)))) ?_
     refine dp 0 rfl (cZ (Ht rfl)) (dp 6 rfl (cZ (Ht rfl)) (cP 51 12 52 13 rfl (dJ U_36 Z_35 (Ht rfl) (Ht rfl) rfl (eQ (dY (d:=[]) hd))) (dq 53 14 rfl (dV A_35 Z_35 (Ht rfl)) (dp 8 rfl (cZ (Ht rfl)) (cP 54 15 55 16 rfl (dJ U_35 Z_131 (Ht rfl) (Ht rfl) rfl (eQ (dY (d:=Qi.zero) (by rw [hpr]; exact hf)))) ?_)))))
     refine dq 56 17 rfl (dV A_131 Z_131 (Ht rfl)) (dp 1 rfl (cZ (Ht rfl)) (dp 8 rfl (cZ (Ht rfl)) (cP 58 19 59 20 rfl (dJ U_36 Z_35 (Ht rfl) (Ht rfl) rfl (eQ (dY (d:=[]) hf))) (dq 60 21 rfl (dV A_35 Z_35 (Ht rfl)) (dp 9 rfl (cZ (Ht rfl)) (cP 61 22 62 23 rfl (dJ U_35 Z_131 (Ht rfl) (Ht rfl) rfl (eQ (dY (d:=Qi.zero) (by rw [hcr]; exact hg)))) ?_))))))
     refine dq 63 24 rfl (dV A_131 Z_131 (Ht rfl)) (cP 57 18 64 25 rfl (cJ K_146 (rC zo) ⟨(Ht rfl),(Ht rfl),trivial⟩) (dp 0 rfl (cZ (Ht rfl)) (dp 7 rfl (cZ (Ht rfl)) (cP 66 27 67 28 rfl (dJ U_36 Z_35 (Ht rfl) (Ht rfl) rfl (eQ (dY (d:=[]) he))) (dq 68 29 rfl (dV A_35 Z_35 (Ht rfl)) (dp 9 rfl (cZ (Ht rfl)) (cP 69 30 70 31 rfl (dJ U_35 Z_131 (Ht rfl) (Ht rfl) rfl (eQ (dY (d:=Qi.zero) (by rw [hpk]; exact hg)))) ?_)))))))
     refine dq 71 32 rfl (dV A_131 Z_131 (Ht rfl)) (dq 72 33 rfl (cJ Tryz.call173 Km ⟨(Ht rfl),trivial⟩) (cP 65 26 73 34 rfl (cJ K_146 (rC zo) ⟨(Ht rfl),(Ht rfl),trivial⟩) (cP 50 11 74 35 rfl (cJ K_149 (yU zo) ⟨(Ht rfl),(Ht rfl),trivial⟩) (fW aL rfl (by kernel_rfl) (zF (zF (zF (zF (zF (zF (zF (zF (zF (aJ (aV ?_)))))))))))))))
     refine ro rfl (cR U_35 Z_131 (Ht rfl) (Ht rfl) rfl (i:=2) rfl (by simp only [List.length_map]; omega) rfl) ?_
     refine kV Z_131 (Ht rfl) (Ht rfl) (El.ag rfl) (i:=2) rfl rfl (by simp only [List.length_map]; omega) rfl ?_
     refine eZ (bC (dQ (rm rfl (ro rfl (dW (Ht rfl) (cV 1) z6) (ra rfl (eZ (fY (b + 1) hg zo (zS rfl) (aU (fun _ _ _ h=>h) (aU (fun _ _ _ h=>h) (aU (bO (by rw [eN,List.set_set,Qi.add_assoc',aF]; rfl)) aY))))))))))
    ·simp only [decide_eq_false_iff_not] at hg
     obtain rfl:b = c.length:=Nat.le_antisymm hb zo
     refine gW rfl (bC (dQ (rm rfl (ro rfl (dW (Ht rfl) (cV 1) z6) (ra rfl (eZ (fY (a + 1) hf zo (zS rfl) (aU (fun _ _ _ h=>h) (aU (fun _ _ _ h=>h) (aU (bO (by rw [aF])) aY))))))))))
   ·simp only [decide_eq_false_iff_not] at hf
    obtain rfl:a = c.length:=Nat.le_antisymm ha zo
    refine gW rfl (bC (dQ (rm rfl (ro rfl (dW (Ht rfl) (cV 1) z6) (ra rfl (eZ (fY (k + 1) he zo (zS rfl) (aU (fun _ _ _ h=>h) (aU (fun _ _ _ h=>h) (aU (bO (by rw [← jJ (f:=fun k=>yV p c c.length i k)]; rfl)) aY))))))))))
  ·simp only [decide_eq_false_iff_not] at he
   obtain rfl:k = p.length:=Nat.le_antisymm hk zo
   refine gW rfl (bC (dL 1 2 rfl rfl (by decide) (by simp only [bP,List.length_map,eD]; omega) ?_))
   refine dQ (rm rfl (ro rfl (dW (Ht rfl) (cV 1) z6) (ra rfl (eZ (bR [0,1] rfl (by decide) (fY (i + 1) hd zo (zS rfl) (aU (fun _ _ _ h=>h) (aU (bF (by rw [eE,jI,← jJ (f:=(fun i=>tab p.length fun k=>yV p c c.length i k))])) aY))))))))
 ·simp only [decide_eq_false_iff_not] at hd
  obtain rfl:i = p.length:=Nat.le_antisymm hi zo
  refine gW rfl (ts (rm rfl (ra rfl (eZ ?_))))
  exact jT B14 trivial [0,1] ⟨⟨_,rfl,fun _ _ _ h=>h⟩,⟨_,rfl,(bF (by rw [jI]; rfl))⟩,trivial⟩ (by decide) (wN rfl (eY rfl))
end
section
open Go Go.RowKit
theorem a5Q {p c:List (List Qi)} {L:Nat} (hp:bA p L) (hc:bA c L) (hL1:1 ≤ L) (hL:L ≤ 1000000000) (hps:cI p p.length c.length) (hcs:cI c c.length c.length) (hpl:p.length ≤ 8) (hcl:c.length ≤ 8):bE Tryz.prog 102 [QM p,QM c] (QM (iZ p c)):=(a2V hp hc hL1 hL hps hcs hpl hcl).fun fun B _ v S V h1 h2=>fL (s:=5) (M:=iZ p c) mA.1.symm v S V h1 h2
end
section
open Go Go.RowKit
theorem oV (v : Value) (w : World) : (method (Tryz.prog.types.size + Made.depth) 51 v "Of").run Tryz.prog w = .ok (302, v) w := by kernel_rfl
theorem cD (v:Value) (w:World):(Instr.makeInterface 51 v).run Tryz.prog w = .ok (.iface 51 v) w:=by
 simp [Instr.makeInterface,Sem.run_bind,Result.andThen,U_51]
end
section
open Go Go.RowKit
theorem Rl {x:Qi} {L:Nat} [hx:aE x L] (h:L ≤ 8796093022208):bE Tryz.prog 159 [aI x] (aD (Qe x)):=by
 haveI hz:aE Qi.zero 1:=aE.zero (Nat.le_refl 1)
 rw [← a4C]
 refine bE.intro Tryz.func159 rfl Tryz.ntmps159 rfl (fun cx=>(ts (rn rfl (fK (Ht rfl)) fun B1=>(ro rfl (cX cW) (eZ (cU (fJ (m:=5) (dp 1 rfl (eW A_51 Z_51 (Ht rfl) (i:=0) rfl rfl rfl) (dq 3 0 rfl (cJ Tryz.call169 Kg ⟨(Ht rfl),trivial⟩) (dq 4 1 rfl (cZ (Ht rfl)) (C.D_step (Ei:=[(1,_),(5,_)]) rfl rfl (bV (bK rfl rfl) (bV (bG 2 rfl rfl) bW)) (eU rfl rfl (Ht rfl) (fun h=>eW A_51 Z_51 (Ht rfl) (i:=0) rfl rfl rfl)) (C.D_step (Ei:=[(5,_)]) rfl rfl (bV (bG 2 rfl rfl) bW) (eU rfl rfl (Ht rfl) (fun h=>cJ K_77 (qD (n:=0) (by decide) (by decide)) ⟨(cV 0),trivial⟩)) ?_))))))))))))
 refine fW aL rfl (by kernel_rfl) (zF (aJ (aV (fX rfl rfl (eU rfl rfl (Ht rfl) (fun h=>cJ Tryz.call76 (a0h (x:=x) (y:=Qi.zero) (M:=1) zo) ⟨(fV rfl h),(fV rfl h),trivial⟩)) (fX rfl rfl (eU rfl rfl (Ht rfl) (fun h=>mV (fV rfl h) cW)) (ro rfl (fC (Ht rfl) (fun h=>(fV rfl h))) (ra rfl (eZ ?_))))))))
 exact fG rfl (eY rfl)
theorem Ih {y:Qi}:bE Tryz.prog 302 [fE [Is (.bool false),Is (.slice none 0 0),Is (.bool false),Is (.slice none 0 0),Is (.slice none 0 0)],aI y] (aI y):=by
 refine bE.intro Tryz.func302 rfl Tryz.ntmps302 rfl (fun cx=>(ts (rn rfl (fK (Ht rfl)) fun B2=>(rn rfl (fK (Ht rfl)) fun B3=>(rn rfl (eG (Ts:=[Is (.bool false),Is (.slice none 0 0),Is (.bool false),Is (.slice none 0 0),Is (.slice none 0 0)]) O_51 rfl (fun V=>aW zd (aW zd (aW zd (aW zd (aW zd (aG))))))) fun B4=>(eZ (ts (ro rfl (eW A_51 Z_51 (Ht rfl) (i:=1) rfl rfl rfl) (gX Z_51 (Ht rfl) (Ht rfl) rfl (i:=2) rfl (aK rfl) rfl rfl ?_)))))))))
 refine eZ ?_
 exact fG rfl (fU A_51 Z_51 rfl (i:=2) rfl rfl)
theorem Hu {x:Qi}:bE Tryz.prog 98 [aI x] (aI x):=by
 refine bE.intro Tryz.func98 rfl Tryz.ntmps98 rfl (fun cx=>(ts (rn rfl (fK (Ht rfl)) fun B1=>(rn rfl (eG (Ts:=[Is (.bool false),Is (.slice none 0 0),Is (.bool false),Is (.slice none 0 0),Is (.slice none 0 0)]) O_51 rfl (fun V=>aW zd (aW zd (aW zd (aW zd (aW zd (aG))))))) fun B2=>(eZ (ts (rn rfl (eG (Ts:=[Is (.bool false),Is (.slice none 0 0),Is (.bool false),Is (.slice none 0 0),Is (.slice none 0 0)]) O_51 rfl (fun V=>aW zd (aW zd (aW zd (aW zd (aW zd (aG))))))) fun B3=>?_)))))))
 refine eZ (ts (ro rfl (eW A_51 Z_51 (Ht rfl) (i:=2) rfl rfl rfl) (ro rfl (bI cD (Ht rfl)) (ro rfl (eW A_51 Z_51 (Ht rfl) (i:=0) rfl rfl rfl) (ro rfl (aP oV K_302 Ih (Ht rfl) ⟨(Ht rfl),trivial⟩) (gX Z_51 (Ht rfl) (Ht rfl) rfl (i:=1) rfl (aK rfl) rfl rfl (eZ ?_)))))))
 exact fG rfl (fU A_51 Z_51 rfl (i:=1) rfl rfl)
theorem Qz {r:List Qi} {k:Nat}:bE Tryz.prog 273 [bB r,PT (NT .i64 k)] (aD (!decide (r.length = k))):=by
 refine bE.intro Tryz.func273 rfl Tryz.ntmps273 rfl (fun cx=>(ts (ro rfl (cX cW) (eZ (ts (rm rfl (ro rfl (dK U_29 (Ht rfl) aA) (ro rfl (dV A_3 Z_3 (Ht rfl)) (ro rfl (fB (Ht rfl) (Ht rfl)) (ra rfl (eZ ?_)))))))))))
 exact fG rfl (eY rfl)
theorem Fb  : bE Tryz.prog 240 [bL []] (eS [NT .i64 0,aD true]):=by
 refine bE.intro Tryz.func240 rfl Tryz.ntmps240 rfl (fun cx=>(ts (ro rfl (cX (cV 0)) (ro rfl (cX cW) (eZ (cU (ts (rm rfl (ro rfl (dK U_30 (Ht rfl) aA) (ro rfl (cT (Ht rfl) (cV 0)) (eZ (De (Ht rfl) (by rfl) ?_))))))))))))
 refine ts (ro rfl (cX (cV 0)) (ro rfl (cX cW) (eZ ?_)))
 exact bM rfl (eY rfl) (eY rfl)
theorem Bg {a:List (List Qi)} {n k:Nat} (h:cI a n k) (h1:1 ≤ n) (hn:n ≤ 32) (hk:k ≤ 32):bE Tryz.prog 240 [bL a] (eS [NT .i64 k,aD true]):=by
 obtain ⟨rfl,h2⟩:=h
 have hr0:(a.getD 0 []).length = k:=cI.row ⟨rfl,h2⟩ zo
 refine bE.intro Tryz.func240 rfl Tryz.ntmps240 rfl (fun cx=>(ts (ro rfl (cX (cV 0)) (ro rfl (cX cW) (eZ (cU (ts (rm rfl (ro rfl (dK U_30 (Ht rfl) aA) (ro rfl (cT (Ht rfl) (cV 0)) (eZ (dX (Ht rfl) (fun hb=>?_) (fun hb=>?_)))))))))))))
 ·simp only [decide_eq_true_eq] at hb
  omega
 ·refine cY (ts (rm rfl (ro rfl (dJ U_30 Z_29 (Ht rfl) (cV 0) rfl (eQ (dY (d := []) zo))) (ro rfl (dV A_29 Z_29 (Ht rfl)) (ro rfl (dK U_29 (Ht rfl) aA) (rn rfl (eG (Ts := [Is (.int .i64 0)]) Tryz.zeroValue3 rfl (fun V => aW zd (aG))) fun B4 => (lY Z_3 (Ht rfl) (Ht rfl) (i := 0) rfl (aK rfl) rfl (eZ (cU (gV (i := 0) (tt := 4) rfl rfl oE (fJ (m := 15) (dp 4 rfl (dV A_3 Z_3 (Ht rfl)) ?_))))))))))))
  refine dp 0 rfl (cZ (Ht rfl)) (dq 13 1 rfl (dK U_30 (Ht rfl) aA) (dq 14 2 rfl (Am (Ht rfl) (cV 32)) (dq 15 3 rfl (cZ (Ht rfl)) (C.D_step (Ei:=[(4,_),(16,_)]) rfl rfl (bV (bK rfl rfl) (bV (bG 4 rfl rfl) bW)) (eU rfl rfl (Ht rfl) (fun h=>dV A_3 Z_3 (Ht rfl))) (C.D_step (Ei:=[(17,_),(16,_)]) rfl rfl (bV (bG 5 rfl rfl) (bV (bG 4 rfl rfl) bW)) (eU rfl rfl (Ht rfl) (fun h=>Am (fV rfl h) (cV 32))) (cP 16 4 18 6 rfl (fC (Ht rfl) (fun h=>(fV rfl h))) ?_))))))
  refine dq 19 7 rfl (cZ (Ht rfl)) (C.D_step (Ei:=[(0,_),(20,_)]) rfl rfl (bV (bK rfl rfl) (bV (bG 8 rfl rfl) bW)) (eU rfl rfl (Ht rfl) (fun h=>cZ (Ht rfl))) (C.D_step (Ei:=[(4,_),(20,_)]) rfl rfl (bV (bK rfl rfl) (bV (bG 8 rfl rfl) bW)) (eU rfl rfl (Ht rfl) (fun h=>qI (γ:=List Qi) (Ts:=fun r=>[bB r]) (U:=fun r=>aD (!decide (r.length = (a.getD 0 []).length))) Tryz.call273 (fun r=>Qz) ⟨(Ht rfl),trivial⟩)) (C.D_step (Ei:=[(21,_),(22,_),(20,_)]) rfl rfl (bV (bG 9 rfl rfl) (bV (bG 10 rfl rfl) (bV (bG 8 rfl rfl) bW))) (eU rfl rfl (Ht rfl) (fun h=>cJ Tryz.call156 (yG (l:=a) (T:=bB) (p:=fun r=>!decide (r.length = (a.getD 0 []).length)) zo) ⟨(fV rfl h),(fV rfl h),trivial⟩)) ?_)))
  refine C.D_step (Ei:=[(23,_),(20,_)]) rfl rfl (bV (bG 11 rfl rfl) (bV (bG 8 rfl rfl) bW)) (eU rfl rfl (Ht rfl) (fun h=>dR (fV rfl h))) (cP 20 8 24 12 rfl (fC (Ht rfl) (fun h=>(fV rfl h))) (dq 12 0 rfl (cX (Ht rfl)) (fW aL rfl (by kernel_rfl) (zF (zF (zF (aJ (aJ (aJ (aV (ra rfl (eZ (bM rfl (fZ (eY rfl) ?_) (fZ (eY rfl) ?_))))))))))))))
  ·exact (lO hr0)
  ·exact (dN (by rw [hr0,a34 ⟨rfl,h2⟩]; simp; omega))
theorem Fc {a:List (List Qi)} {n k:Nat} (h:cI a n k) (h1:1 ≤ n ∨ k = 0) (hn:n ≤ 32) (hk:k ≤ 32):bE Tryz.prog 240 [bL a] (eS [NT .i64 k,aD true]):=by
 by_cases e:n = 0
 ·subst e
  obtain rfl:=List.length_eq_zero_iff.1 h.1
  rw [show k = 0 by omega]; exact Fb
 ·exact Bg h zo hn hk
end
section
open Go Go.RowKit
theorem pQ (v : Value) (w : World) : (method (Tryz.prog.types.size + Made.depth) 51 v "Add").run Tryz.prog w = .ok (46, v) w := by kernel_rfl
theorem oG (v : Value) (w : World) : (method (Tryz.prog.types.size + Made.depth) 51 v "Conj").run Tryz.prog w = .ok (175, v) w := by kernel_rfl
theorem dD (v : Value) (w : World) : (method (Tryz.prog.types.size + Made.depth) 51 v "Mul").run Tryz.prog w = .ok (45, v) w := by kernel_rfl
end
section
open Go Go.RowKit
theorem Mq {a b:List (List Qi)} {n k m L M:Nat} (ha:cI a n k) (hb:cI b k m) (hfa:bA a L) (hfb:bA b M) (hL1:1 ≤ L) (hM1:1 ≤ M) (hL:L ≤ 900000000000) (hM:M ≤ 900000000000) (hn1:1 ≤ n ∨ k = 0) (hk1:1 ≤ k ∨ m = 0) (hn:n ≤ 8) (hk:k ≤ 8) (hm:m ≤ 8):gG Tryz.prog 195 [bL a,bL b] [] (Nat) (fun B=>eS [Is (.slice (some ⟨B,0,none⟩) n n),aT .i64 0]) (fun B=>[oF B 29 51 5 (bP aI (iK a b n k m))]) (fun _=>True):=by
 have hal:=ha.1
 have hbl:=hb.1
 refine gG.intro Tryz.func195 rfl Tryz.ntmps195 rfl (fun cx Z=>(ts (ro rfl (cX cW) (ro rfl (cX (cV 0)) (eZ (ts (rm rfl (ro rfl (cJ Tryz.call240 (Fc ha hn1 zo zo) ⟨(Ht rfl),trivial⟩) (rm rfl (ro rfl (dU (Ht rfl) rfl) (ro rfl (dU (Ht rfl) rfl) (ra rfl (ra rfl (eZ (ts (rm rfl (ro rfl (cJ Tryz.call240 (Fc hb hk1 zo zo) ⟨(Ht rfl),trivial⟩) (rm rfl (ro rfl (dU (Ht rfl) rfl) (ro rfl (dU (Ht rfl) rfl) (ra rfl (ra rfl (eZ (cU (ts (rm rfl (ro rfl (dR (Ht rfl)) ?_)))))))))))))))))))))))))))
 refine rm rfl (fX rfl rfl (eU rfl rfl (Ht rfl) (fun h=>cZ (Ht rfl))) (fX rfl rfl (eU rfl rfl (Ht rfl) (fun h=>dR (fV rfl h))) (ro rfl (gN (Ht rfl) (fun h=>(fV rfl h))) (rm rfl (fX rfl rfl (eU rfl rfl (Ht rfl) (fun h=>cZ (Ht rfl))) (fX rfl rfl (eU rfl rfl (Ht rfl) (fun h=>cZ (Ht rfl))) (fX rfl rfl (eU rfl rfl (Ht rfl) (fun h=>dK U_30 (fV rfl h) aA)) (fX rfl rfl (eU rfl rfl (Ht rfl) (fun h=>fB (fV rfl h) (fV rfl h))) (ro rfl (gN (Ht rfl) (fun h=>(fV rfl h))) ?_)))))))))
 refine eZ (dX (Ht rfl) (fun h0=>?_) (fun h0=>?_))
 ·exact absurd h0 (by simp [hbl])
 ·refine cY (ts (rm rfl (ro rfl (dK U_30 (Ht rfl) aA) (rn rfl (eM (T := Is (.slice none 0 0)) (i := Tryz.t29) V_30 nI rfl rfl (Ht rfl) rfl (fun _ => rfl) trivial (by show 24 * _ ≤ _; omega) zo) fun B39 => (ra rfl (eZ (cU (ts (rm rfl (ro rfl (iD U_30 (Ht rfl)) (ro rfl (cZ (cV 0)) (eZ (eK (nM 1 rfl (tU (e := 51) (s := 5)) ?_))))))))))))))
  refine bS (fun (i : Nat) => i ≤ n) (fun (i : Nat) => n - i) (fun (i : Nat) => [(0, bL a), (1, bL b), (6, NT .i64 k), (8, NT .i64 m), (10, Is (.slice (some ⟨B39, 0, none⟩) n n)), (41, NT .i64 n), (42, NT .i64 i)]) (fun (i : Nat) => [Z, oF B39 29 51 5 (bP aI (jC (fun i => tab m fun c => sK a b k i c) [] n i))]) 0 (Nat.zero_le _)
   (aQ rfl (aQ rfl (aQ rfl (aQ rfl (aZ rfl (fun v V h=>by rw [← hal]; exact h) (aZ rfl (lO hal) (zS rfl))))))) (aU (fun _ _ _ h=>h) (aU (bF (by rw [← gR,lU,hal]; exact mF aI n)) aY)) (fun i hi=>?_)
  refine ts (ro rfl (gZ (Ht rfl) (Ht rfl)) (eZ (cU (dX (Ht rfl) (fun hd=>?_) (fun hd=>?_)))))
  ·simp only [decide_eq_true_eq] at hd
   have har:=ha.row hd
   refine nF 1 (i) rfl (kZ hd) (fun v=>(cY (cU (eK (ts (rm rfl (ra rfl (eZ (ts (rm rfl (ro rfl (cZ (cV 0)) (eZ (eK ?_)))))))))))))
   refine gA (fun (c : Nat) (v : Value) => c ≤ m) (fun (c : Nat) (v : Value) => m - c) (fun (c : Nat) (v : Value) => [(0, bL a), (1, bL b), (6, NT .i64 k), (8, NT .i64 m), (10, Is (.slice (some ⟨B39, 0, none⟩) n n)), (11, NT .i64 i), (41, NT .i64 n), (42, NT .i64 i), (45, NT .i64 m), (46, NT .i64 c)]) (fun (c : Nat) (v : Value) => [Z, Hw B39 29 51 5 (bP aI (jC (fun i => tab m fun c => sK a b k i c) [] n i)) i v, cL 51 5 v ((tab c fun c => sK a b k i c).map aI)]) 0 v (Nat.zero_le _)
    (zS rfl) (dE.refl _) (fun c v hc=>?_)
   refine ts (ro rfl (gZ (Ht rfl) (Ht rfl)) (eZ (cU (dX (Ht rfl) (fun he=>?_) (fun he=>?_)))))
   ·simp only [decide_eq_true_eq] at he
    have hk1:1 ≤ k:=by omega
    have hb0:=hb.row (i:=0) zo
    haveI f1:aE (gm a i 0) L:=hfa.get hL1 i 0
    haveI f2:aE (gm b 0 c) M:=hfb.get hM1 0 c
    refine cY (cU (eK (ts (rm rfl (ra rfl (eZ (cU (fJ (m:=15) (dp 0 rfl (cZ (Ht rfl)) (dp 11 rfl (cZ (Ht rfl)) (cP 49 0 50 1 rfl (dJ U_30 Z_29 (Ht rfl) (Ht rfl) rfl (eQ (dY (d:=[]) zo))) (dq 51 2 rfl (dV A_29 Z_29 (Ht rfl)) (dq 52 3 rfl (dJ U_29 Z_51 (Ht rfl) (cV 0) rfl (eQ (dY (d:=Qi.zero) (by rw [har]; omega)))) ?_)))))))))))))
    refine dq 53 4 rfl (dV A_51 Z_51 (Ht rfl)) (dq 54 5 rfl (bI cD (Ht rfl)) (dp 1 rfl (cZ (Ht rfl)) (dq 56 7 rfl (dJ U_30 Z_29 (Ht rfl) (cV 0) rfl (eQ (dY (d:=[]) zo))) (dq 57 8 rfl (dV A_29 Z_29 (Ht rfl)) (dp 12 rfl (cZ (Ht rfl)) (cP 58 9 59 10 rfl (dJ U_29 Z_51 (Ht rfl) (Ht rfl) rfl (eQ (dY (d:=Qi.zero) (by rw [hb0]; omega)))) ?_))))))
    refine dq 60 11 rfl (dV A_51 Z_51 (Ht rfl)) (cP 55 6 61 12 rfl (aP dD K_45 (kF zo) (Ht rfl) ⟨(Ht rfl),trivial⟩) (C.D_new (Ei:=[]) rfl rfl rfl bW (eG (Ts:=[Is (.bool false),Is (.slice none 0 0),Is (.bool false),Is (.slice none 0 0),Is (.slice none 0 0)]) O_51 rfl (fun V=>aW zd (aW zd (aW zd (aW zd (aW zd (aG))))))) (fW aL rfl (by kernel_rfl) (zF (zF (zF (aJ (aJ (C.F_new (fun B13=>aV ?_))))))))))
    refine gX Z_51 (Ht rfl) (Ht rfl) rfl (i:=3) rfl (aK rfl) rfl rfl (eZ (cU (ts (ro rfl (cX (cV 1)) (eZ (eK ?_))))))
    refine bS (fun (j : Nat) => 1 ≤ j ∧ j ≤ k) (fun (j : Nat) => k - j) (fun (j : Nat) => [(0, bL a), (1, bL b), (6, NT .i64 k), (8, NT .i64 m), (10, Is (.slice (some ⟨B39, 0, none⟩) n n)), (11, NT .i64 i), (12, NT .i64 c), (13, cC B13 0), (14, NT .i64 j), (41, NT .i64 n), (42, NT .i64 i), (45, NT .i64 m), (46, NT .i64 c)]) (fun (j : Nat) => [Z, Hw B39 29 51 5 (bP aI (jC (fun i => tab m fun c => sK a b k i c) [] n i)) i v, cL 51 5 v ((tab c fun c => sK a b k i c).map aI), box B13 51 [aD (decide ((aF j fun j => gm a i j * gm b j c).a < 0)), aH (aF j fun j => gm a i j * gm b j c).a.natAbs, aD (decide ((aF j fun j => gm a i j * gm b j c).b < 0)), aH (aF j fun j => gm a i j * gm b j c).b.natAbs, aH (du (aF j fun j => gm a i j * gm b j c))]]) 1 ⟨Nat.le_refl _, hk1⟩
     (zS rfl) (aU (fun _ _ _ h=>h) (aU (fun _ _ _ h=>h) (aU (fun _ _ _ h=>h) (aU (aB (by rw [Gy]; rfl)) aY)))) (fun j ⟨hj1,hj⟩=>?_)
    refine cU (ts (rm rfl (rm rfl (ro rfl (gZ (Ht rfl) (Ht rfl)) (eZ (dX (Ht rfl) (fun hf=>?_) (fun hf=>?_)))))))
    ·simp only [decide_eq_true_eq] at hf
     haveI f3:aE (gm a i j) L:=hfa.get hL1 i j
     haveI f4:aE (gm b j c) M:=hfb.get hM1 j c
     haveI f5:aE (aF j fun j=>gm a i j * gm b j c) (8 * (L + M) + 17):=Un hfa hfb hL1 hM1 zo i c
     have hbj:=hb.row (i:=j) zo
     refine cY (cU (eK (fJ (m:=18) (dp 13 rfl (eW A_51 Z_51 (Ht rfl) (i:=3) rfl rfl rfl) (dq 68 0 rfl (bI cD (Ht rfl)) (dp 0 rfl (cZ (Ht rfl)) (dp 11 rfl (cZ (Ht rfl)) (cP 70 2 71 3 rfl (dJ U_30 Z_29 (Ht rfl) (Ht rfl) rfl (eQ (dY (d:=[]) zo))) (dq 72 4 rfl (dV A_29 Z_29 (Ht rfl)) (dp 14 rfl (cZ (Ht rfl)) (cP 73 5 74 6 rfl (dJ U_29 Z_51 (Ht rfl) (Ht rfl) rfl (eQ (dY (d:=Qi.zero) (by rw [har]; omega)))) ?_)))))))))))
     refine dq 75 7 rfl (dV A_51 Z_51 (Ht rfl)) (dq 76 8 rfl (bI cD (Ht rfl)) (dp 1 rfl (cZ (Ht rfl)) (dp 14 rfl (cZ (Ht rfl)) (cP 78 10 79 11 rfl (dJ U_30 Z_29 (Ht rfl) (Ht rfl) rfl (eQ (dY (d:=[]) zo))) (dq 80 12 rfl (dV A_29 Z_29 (Ht rfl)) (dp 12 rfl (cZ (Ht rfl)) (cP 81 13 82 14 rfl (dJ U_29 Z_51 (Ht rfl) (Ht rfl) rfl (eQ (dY (d:=Qi.zero) (by rw [hbj]; omega)))) ?_)))))))
     refine dq 83 15 rfl (dV A_51 Z_51 (Ht rfl)) (cP 77 9 84 16 rfl (aP dD K_45 (kF zo) (Ht rfl) ⟨(Ht rfl),trivial⟩) (fW aL rfl (by kernel_rfl) (zF (zF (zF (zF (aJ (aJ (aV (ro rfl (aP pQ K_46 (Ck zo) (Ht rfl) ⟨(Ht rfl),trivial⟩) (gX Z_51 (Ht rfl) (Ht rfl) rfl (i:=3) rfl (aK rfl) rfl rfl (eZ (bC ?_)))))))))))))
     refine dQ (rm rfl (ro rfl (dW (Ht rfl) (cV 1) z6) (ra rfl (eZ (fY (j + 1) ⟨by omega,hf⟩ zo (zS rfl) (aU (fun _ _ _ h=>h) (aU (fun _ _ _ h=>h) (aU (fun _ _ _ h=>h) (aU (aB rfl) aY)))))))))
    ·simp only [decide_eq_false_iff_not] at hf
     obtain rfl:k = j:=Nat.le_antisymm zo hj
     refine gW rfl (Y.D_startA (m:=9) [] 8 2 rfl rfl (cQ (Ei:=[(10,_)]) rfl rfl (bQ (bJ rfl rfl) bX) rfl rfl (dZ rfl (cZ (Ht rfl))) (cQ (Ei:=[(11,_)]) rfl rfl (bQ (bJ rfl rfl) bX) rfl rfl (dZ rfl (cZ (Ht rfl))) (cQ (Ei:=[(10,_)]) rfl rfl (bQ (bJ rfl rfl) bX) rfl rfl (dZ rfl (cZ (Ht rfl))) (cQ (Ei:=[(11,_)]) rfl rfl (bQ (bJ rfl rfl) bX) rfl rfl (dZ rfl (cZ (Ht rfl))) (cQ (Ei:=[(89,_),(90,_)]) rfl rfl (bQ (bZ 2 rfl rfl) (bQ (bZ 3 rfl rfl) bX)) rfl rfl (dZ rfl (gQ U_30 Z_29 (Ht rfl) (Ht rfl) rfl zo (by rw [Nat.mul_one,Nat.zero_add]))) ?_))))))
     refine cQ (Ei:=[(91,_)]) rfl rfl (bQ (bZ 4 rfl rfl) bX) rfl rfl (dZ rfl (gI A_29 Z_29 (Ht rfl) (j:=1) rfl)) (cQ (Ei:=[(13,_)]) rfl rfl (bQ (bJ rfl rfl) bX) rfl rfl (dZ rfl (eW A_51 Z_51 (Ht rfl) (i:=3) rfl rfl rfl)) (cQ (Ei:=[(93,_)]) rfl rfl (bQ (bZ 6 rfl rfl) bX) rfl rfl (dZ rfl (dB (xs:=[.tmp 93]) U_29 Z_51 O_51 (cG (Ht rfl) cK) rfl rfl rfl)) (Y.D_app (Ei:=[(92,_),(94,_)]) rfl rfl rfl rfl (bQ (bZ 5 rfl rfl) (bQ (bZ 7 rfl rfl) bX)) rfl (qW (inf:=Tryz.t51) nR lH rfl rfl rfl (Ht rfl) (Ht rfl) (by simp) (fun T hT=>by simp at hT; subst hT; exact El.ag rfl) (by show _ * 88 ≤ _; simp only [List.length_map,aN,List.length_cons,List.length_nil]; omega) (by simp only [List.length_map,aN,List.length_cons,List.length_nil]; omega)) ?_)))
     refine Y.D_done aL rfl (by kernel_rfl) rfl (by simp [Y.okP]) rfl rfl (bU (bU (bU (bU (bU (bU (bU (bU (Y.F_app (fun v2=>Y.F_nil ?_))))))))))
     refine ro rfl (gQ U_30 Z_29 (Ht rfl) (Ht rfl) rfl zo (by rw [Nat.mul_one,Nat.zero_add])) ?_
     refine sP Z_29 (Ht rfl) (Ht rfl) (by simp only [bP,List.length_map,eD]; omega) (j:=1) (l:=4) rfl rfl rfl ?_
     refine eZ (bC (dQ (ro rfl (dW (Ht rfl) (cV 1) z6) (rm rfl (eZ (bR [0,1,4] rfl (by decide) (fY (c + 1,v2) he (by dsimp only; omega) (zS rfl) (aU (fun _ _ _ h=>h) (aU (fun _ _ _ h=>h) (aU (bO ((rA aI _ (sK a b k i c)).trans (congrArg _ (wT c (fun c=>sK a b k i c)).symm))) aY))))))))))
   ·simp only [decide_eq_false_iff_not] at he
    obtain rfl:m = c:=Nat.le_antisymm zo hc
    refine gW rfl (bC (dL 1 2 rfl rfl (by decide) (by simp only [bP,List.length_map,eD]; omega) ?_))
    refine dQ (ro rfl (dW (Ht rfl) (cV 1) z6) (rm rfl (eZ (bR [0,1] rfl (by decide) (fY (i + 1) hd zo (zS rfl) (aU (fun _ _ _ h=>h) (aU (bF (by rw [eE,← jJ (f:=(fun i=>tab m fun c=>sK a b k i c))])) aY)))))))
  ·simp only [decide_eq_false_iff_not] at hd
   obtain rfl:n = i:=Nat.le_antisymm zo hi
   refine gW rfl (ts (rm rfl (ra rfl (ro rfl (cX (cV 0)) (eZ ?_)))))
   exact jT B39 trivial [0,1] ⟨⟨_,rfl,fun _ _ _ h=>h⟩,⟨_,rfl,(bF (by rw [jI]; rfl))⟩,trivial⟩ (by decide) (a1Y rfl (eY rfl) (eY rfl))
theorem Tu {a b:List (List Qi)} {n k m L M:Nat} (ha:cI a n k) (hb:cI b k m) (hfa:bA a L) (hfb:bA b M) (hL1:1 ≤ L) (hM1:1 ≤ M) (hL:L ≤ 900000000000) (hM:M ≤ 900000000000) (hn1:1 ≤ n) (hk1:1 ≤ k) (hn:n ≤ 8) (hk:k ≤ 8) (hm:m ≤ 8):gG Tryz.prog 195 [bL a,bL b] [] Nat (fun B=>eS [Is (.slice (some ⟨B,0,none⟩) n n),aT .i64 0]) (fun B=>[oF B 29 51 5 (bP aI (iK a b n k m))]) (fun _=>True):=Mq ha hb hfa hfb hL1 hM1 hL hM (.inl hn1) (.inl hk1) hn hk hm
theorem a2F {a b:List (List Qi)} {n k m L M:Nat} (ha:cI a n k) (hb:cI b k m) (hfa:bA a L) (hfb:bA b M) (hL1:1 ≤ L) (hM1:1 ≤ M) (hL:L ≤ 900000000000) (hM:M ≤ 900000000000) (hn1:1 ≤ n ∨ k = 0) (hk1:1 ≤ k ∨ m = 0) (hn:n ≤ 8) (hk:k ≤ 8) (hm:m ≤ 8):bE Tryz.prog 195 [bL a,bL b] (eS [bL (iK a b n k m),aT .i64 0]):=(Mq ha hb hfa hfb hL1 hM1 hL hM hn1 hk1 hn hk hm).fun fun B _ v S V h1 h2=>a4z h1 fun u hu=>fL (s:=5) (M:=iK a b n k m) (aN _ _).symm u S V hu h2
theorem a5D {a b:List (List Qi)} {n k m L M:Nat} (ha:cI a n k) (hb:cI b k m) (hfa:bA a L) (hfb:bA b M) (hL1:1 ≤ L) (hM1:1 ≤ M) (hL:L ≤ 900000000000) (hM:M ≤ 900000000000) (hn1:1 ≤ n) (hk1:1 ≤ k) (hn:n ≤ 8) (hk:k ≤ 8) (hm:m ≤ 8):bE Tryz.prog 195 [bL a,bL b] (eS [bL (iK a b n k m),aT .i64 0]):=(Tu ha hb hfa hfb hL1 hM1 hL hM hn1 hk1 hn hk hm).fun fun B _ v S V h1 h2=>a4z h1 fun u hu=>fL (s:=5) (M:=iK a b n k m) (aN _ _).symm u S V hu h2
theorem a5z {a:List (List Qi)} {n m:Nat} (ha:cI a n m) (hn1:1 ≤ n) (hn:n ≤ 8) (hm:m ≤ 8):gG Tryz.prog 196 [bL a] [] (Nat) (fun B=>eS [Is (.slice (some ⟨B,0,none⟩) m m),aT .i64 0]) (fun B=>[oF B 29 51 5 (bP aI (Jz a n m))]) (fun _=>True):=by
 have hal:=ha.1
 refine gG.intro Tryz.func196 rfl Tryz.ntmps196 rfl (fun cx Z=>(ts (ro rfl (cX cW) (ro rfl (cX (cV 0)) (eZ (ts (rm rfl (ro rfl (cJ Tryz.call240 (Bg ha hn1 zo zo) ⟨(Ht rfl),trivial⟩) (rm rfl (ro rfl (dU (Ht rfl) rfl) (ro rfl (dU (Ht rfl) rfl) (ra rfl (ra rfl (eZ (cU (ts (rm rfl (ro rfl (dR (Ht rfl)) (eZ (dX (Ht rfl) (fun h0=>?_) (fun h0=>?_)))))))))))))))))))))
 ·exact absurd h0 (by simp)
 ·refine cY (ts (rm rfl (rn rfl (eM (T := Is (.slice none 0 0)) (i := Tryz.t29) V_30 nI rfl rfl (Ht rfl) rfl (fun _ => rfl) trivial (by show 24 * _ ≤ _; omega) zo) fun B17 => (ra rfl (eZ (cU (ts (rm rfl (ro rfl (iD U_30 (Ht rfl)) (ro rfl (cZ (cV 0)) (eZ (eK (nM 1 rfl (tU (e := 51) (s := 5)) ?_)))))))))))))
  refine bS (fun (k : Nat) => k ≤ m) (fun (k : Nat) => m - k) (fun (k : Nat) => [(0, bL a), (6, Is (.slice (some ⟨B17, 0, none⟩) m m)), (19, NT .i64 m), (20, NT .i64 k)]) (fun (k : Nat) => [Z, oF B17 29 51 5 (bP aI (jC (fun k => tab n fun i => (gm a i k).conj) [] m k))]) 0 (Nat.zero_le _)
   (zS rfl) (aU (fun _ _ _ h=>h) (aU (bF (by rw [← gR,lU]; exact mF aI m)) aY)) (fun k hk=>?_)
  refine ts (ro rfl (gZ (Ht rfl) (Ht rfl)) (eZ (cU (dX (Ht rfl) (fun hd=>?_) (fun hd=>?_)))))
  ·simp only [decide_eq_true_eq] at hd
   refine nF 1 (k) rfl (kZ hd) (fun v=>(cY (cU (eK (ts (rm rfl (ra rfl (eZ (ts (rm rfl (ro rfl (dK U_30 (Ht rfl) aA) (ro rfl (cZ (cV 0)) (eZ (eK ?_))))))))))))))
   refine gA (fun (i : Nat) (v : Value) => i ≤ n) (fun (i : Nat) (v : Value) => n - i) (fun (i : Nat) (v : Value) => [(0, bL a), (6, Is (.slice (some ⟨B17, 0, none⟩) m m)), (7, NT .i64 k), (19, NT .i64 m), (20, NT .i64 k), (24, NT .i64 n), (25, NT .i64 i)]) (fun (i : Nat) (v : Value) => [Z, Hw B17 29 51 5 (bP aI (jC (fun k => tab n fun i => (gm a i k).conj) [] m k)) k v, cL 51 5 v ((tab i fun i => (gm a i k).conj).map aI)]) 0 v (Nat.zero_le _)
    (aQ rfl (aQ rfl (aQ rfl (aQ rfl (aQ rfl (aZ rfl (lO hal) (zS rfl))))))) (dE.refl _) (fun i v hi=>?_)
   refine ts (ro rfl (gZ (Ht rfl) (Ht rfl)) (eZ (cU (dX (Ht rfl) (fun he=>?_) (fun he=>?_)))))
   ·simp only [decide_eq_true_eq] at he
    have har:=ha.row he
    refine cY (cU (eK (ts (rm rfl (ra rfl (eZ (Y.D_startA (m:=17) [] 16 2 rfl rfl (cQ (Ei:=[(6,_)]) rfl rfl (bQ (bJ rfl rfl) bX) rfl rfl (dZ rfl (cZ (Ht rfl))) (cQ (Ei:=[(7,_)]) rfl rfl (bQ (bJ rfl rfl) bX) rfl rfl (dZ rfl (cZ (Ht rfl))) (cQ (Ei:=[(6,_)]) rfl rfl (bQ (bJ rfl rfl) bX) rfl rfl (dZ rfl (cZ (Ht rfl))) (cQ (Ei:=[(7,_)]) rfl rfl (bQ (bJ rfl rfl) bX) rfl rfl (dZ rfl (cZ (Ht rfl))) (cQ (Ei:=[(30,_),(31,_)]) rfl rfl (bQ (bZ 2 rfl rfl) (bQ (bZ 3 rfl rfl) bX)) rfl rfl (dZ rfl (gQ U_30 Z_29 (Ht rfl) (Ht rfl) rfl zo (by rw [Nat.mul_one,Nat.zero_add]))) ?_))))))))))))
    refine cQ (Ei:=[(32,_)]) rfl rfl (bQ (bZ 4 rfl rfl) bX) rfl rfl (dZ rfl (gI A_29 Z_29 (Ht rfl) (j:=1) rfl)) (cQ (Ei:=[(0,_)]) rfl rfl (bQ (bJ rfl rfl) bX) rfl rfl (dZ rfl (cZ (Ht rfl))) (cQ (Ei:=[(8,_)]) rfl rfl (bQ (bJ rfl rfl) bX) rfl rfl (dZ rfl (cZ (Ht rfl))) (cQ (Ei:=[(34,_),(35,_)]) rfl rfl (bQ (bZ 6 rfl rfl) (bQ (bZ 7 rfl rfl) bX)) rfl rfl (dZ rfl (dJ U_30 Z_29 (Ht rfl) (Ht rfl) rfl (eQ (dY (d:=[]) zo)))) ?_)))
    refine cQ (Ei:=[(36,_)]) rfl rfl (bQ (bZ 8 rfl rfl) bX) rfl rfl (dZ rfl (dV A_29 Z_29 (Ht rfl))) (cQ (Ei:=[(7,_)]) rfl rfl (bQ (bJ rfl rfl) bX) rfl rfl (dZ rfl (cZ (Ht rfl))) (cQ (Ei:=[(37,_),(38,_)]) rfl rfl (bQ (bZ 9 rfl rfl) (bQ (bZ 10 rfl rfl) bX)) rfl rfl (dZ rfl (dJ U_29 Z_51 (Ht rfl) (Ht rfl) rfl (eQ (dY (d:=Qi.zero) (by rw [har]; omega))))) ?_))
    refine cQ (Ei:=[(39,_)]) rfl rfl (bQ (bZ 11 rfl rfl) bX) rfl rfl (dZ rfl (dV A_51 Z_51 (Ht rfl))) (cQ (Ei:=[(40,_)]) rfl rfl (bQ (bZ 12 rfl rfl) bX) rfl rfl (dZ rfl (bI cD (Ht rfl))) (cQ (Ei:=[(41,_)]) rfl rfl (bQ (bZ 13 rfl rfl) bX) rfl rfl (dZ rfl (aP oG K_175 Bf (Ht rfl) trivial)) (cQ (Ei:=[(42,_)]) rfl rfl (bQ (bZ 14 rfl rfl) bX) rfl rfl (dZ rfl (dB (xs:=[.tmp 42]) U_29 Z_51 O_51 (cG (Ht rfl) cK) rfl rfl rfl)) ?_)))
    refine Y.D_app (Ei:=[(33,_),(43,_)]) rfl rfl rfl rfl (bQ (bZ 5 rfl rfl) (bQ (bZ 15 rfl rfl) bX)) rfl (qW (inf:=Tryz.t51) nR lH rfl rfl rfl (Ht rfl) (Ht rfl) (by simp) (fun T hT=>by simp at hT; subst hT; exact El.ag rfl) (by show _ * 88 ≤ _; simp only [List.length_map,aN,List.length_cons,List.length_nil]; omega) (by simp only [List.length_map,aN,List.length_cons,List.length_nil]; omega)) ?_
    refine Y.D_done aL rfl (by kernel_rfl) rfl (by simp [Y.okP]) rfl rfl (bU (bU (bU (bU (bU (bU (bU (bU (bU (bU (bU (bU (bU (bU (bU (bU (Y.F_app (fun v2=>Y.F_nil ?_))))))))))))))))))
    refine ro rfl (gQ U_30 Z_29 (Ht rfl) (Ht rfl) rfl zo (by rw [Nat.mul_one,Nat.zero_add])) ?_
    refine sP Z_29 (Ht rfl) (Ht rfl) (by simp only [bP,List.length_map,eD]; omega) (j:=1) (l:=3) rfl rfl rfl ?_
    refine eZ (bC (dQ (ro rfl (dW (Ht rfl) (cV 1) z6) (rm rfl (eZ (bR [0,1,3] rfl (by decide) (fY (i + 1,v2) he (by dsimp only; omega) (zS rfl) (aU (fun _ _ _ h=>h) (aU (fun _ _ _ h=>h) (aU (bO ((rA aI _ (gm a i k).conj).trans (congrArg _ (wT i (fun i=>(gm a i k).conj)).symm))) aY))))))))))
   ·simp only [decide_eq_false_iff_not] at he
    obtain rfl:n = i:=Nat.le_antisymm zo hi
    refine gW rfl (bC (dL 1 2 rfl rfl (by decide) (by simp only [bP,List.length_map,eD]; omega) ?_))
    refine dQ (ro rfl (dW (Ht rfl) (cV 1) z6) (rm rfl (eZ (bR [0,1] rfl (by decide) (fY (k + 1) hd zo (zS rfl) (aU (fun _ _ _ h=>h) (aU (bF (by rw [eE,← jJ (f:=(fun k=>tab n fun i=>(gm a i k).conj))])) aY)))))))
  ·simp only [decide_eq_false_iff_not] at hd
   obtain rfl:m = k:=Nat.le_antisymm zo hk
   refine gW rfl (ts (rm rfl (ra rfl (ro rfl (cX (cV 0)) (eZ ?_)))))
   exact jT B17 trivial [0,1] ⟨⟨_,rfl,fun _ _ _ h=>h⟩,⟨_,rfl,(bF (by rw [jI]; rfl))⟩,trivial⟩ (by decide) (a1Y rfl (eY rfl) (eY rfl))
theorem a7k {a:List (List Qi)} {n m:Nat} (ha:cI a n m) (hn1:1 ≤ n) (hn:n ≤ 8) (hm:m ≤ 8):bE Tryz.prog 196 [bL a] (eS [bL (Jz a n m),aT .i64 0]):=(a5z ha hn1 hn hm).fun fun B _ v S V h1 h2=>a4z h1 fun u hu=>fL (s:=5) (M:=Jz a n m) (aN _ _).symm u S V hu h2
theorem Ue {z:List Qi} {s:List (List Qi)} (hsh:cI s z.length z.length) (hl:z.length ≤ 8):gG Tryz.prog 93 [iT z s] [] (Nat) (fun B=>Is (.slice (some ⟨B,0,none⟩) z.length z.length)) (fun B=>[oF B 29 51 5 (bP aI (tab z.length fun i=>tab z.length fun k=>gm s i k))]) (fun _=>True):=by
 refine gG.intro Tryz.func93 rfl Tryz.ntmps93 rfl (fun cx Z=>(ts (rn rfl (fK (Ht rfl)) fun B1=>(ro rfl (cX cW) (eZ (ts (ro rfl (eW A_32 Z_32 (Ht rfl) (i:=1) rfl rfl rfl) (ro rfl (cJ K_22 oB ⟨(Ht rfl),trivial⟩) (rn rfl (eM (T:=Is (.slice none 0 0)) (i:=Tryz.t29) V_30 nI rfl rfl (Ht rfl) rfl (fun _=>rfl) trivial (by show 24 * _ ≤ _; omega) zo) fun B10=>(ra rfl (eZ (cU (ts (rm rfl (ro rfl (iD U_30 (Ht rfl)) (ro rfl (cZ (cV 0)) (eZ (eK ?_))))))))))))))))))
 refine nM 2 rfl (tU (e:=51) (s:=5)) ?_
 refine bS (fun (i : Nat) => i ≤ z.length) (fun (i : Nat) => z.length - i) (fun (i : Nat) => [(1, cC B1 0), (3, Is (.slice (some ⟨B10, 0, none⟩) z.length z.length)), (12, NT .i64 z.length), (13, NT .i64 i)]) (fun (i : Nat) => [Z, box B1 32 [bB z, bL s], oF B10 29 51 5 (bP aI (jC (fun i => tab z.length fun k => gm s i k) [] z.length i))]) 0 (Nat.zero_le _)
  (zS rfl) (aU (fun _ _ _ h=>h) (aU (fun _ _ _ h=>h) (aU (bF (by rw [← gR,lU]; exact mF aI z.length)) aY))) (fun i hi=>?_)
 refine ts (ro rfl (gZ (Ht rfl) (Ht rfl)) (eZ (cU (dX (Ht rfl) (fun hd=>?_) (fun hd=>?_)))))
 ·simp only [decide_eq_true_eq] at hd
  refine nF 2 (i) rfl (kZ hd) (fun v=>(cY (cU (eK (ts (rm rfl (ra rfl (eZ (ts (rm rfl (ro rfl (iD U_30 (Ht rfl)) (ro rfl (cZ (cV 0)) (eZ (eK ?_))))))))))))))
  refine gA (fun (k : Nat) (v : Value) => k ≤ z.length) (fun (k : Nat) (v : Value) => z.length - k) (fun (k : Nat) (v : Value) => [(1, cC B1 0), (3, Is (.slice (some ⟨B10, 0, none⟩) z.length z.length)), (4, NT .i64 i), (12, NT .i64 z.length), (13, NT .i64 i), (17, NT .i64 z.length), (18, NT .i64 k)]) (fun (k : Nat) (v : Value) => [Z, box B1 32 [bB z, bL s], Hw B10 29 51 5 (bP aI (jC (fun i => tab z.length fun k => gm s i k) [] z.length i)) i v, cL 51 5 v ((tab k fun k => gm s i k).map aI)]) 0 v (Nat.zero_le _)
   (zS rfl) (dE.refl _) (fun k v hk=>?_)
  refine ts (ro rfl (gZ (Ht rfl) (Ht rfl)) (eZ (cU (dX (Ht rfl) (fun he=>?_) (fun he=>?_)))))
  ·simp only [decide_eq_true_eq] at he
   refine cY (cU (eK (ts (rm rfl (ra rfl (eZ (ts (ro rfl (eW A_32 Z_32 (Ht rfl) (i:=1) rfl rfl rfl) (rm rfl (ro rfl (dW (Ht rfl) (cV 1) z6) (rm rfl (ro rfl (dW (Ht rfl) (cV 1) z6) (ro rfl (cJ Tryz.call25 (a7l (i:=(i:Int) + 1) (j:=(k:Int) + 1) hsh zo) ⟨(Ht rfl),(Ht rfl),(Ht rfl),trivial⟩) (rm rfl (ro rfl (dU (Ht rfl) rfl) (ro rfl (dU (Ht rfl) rfl) ?_))))))))))))))))
   refine rn rfl (eG (Ts:=[Is (.bool false),Is (.slice none 0 0),Is (.bool false),Is (.slice none 0 0),Is (.slice none 0 0)]) O_51 rfl (fun V=>aW zd (aW zd (aW zd (aW zd (aW zd (aG))))))) fun B6=>gX Z_51 (Ht rfl) (Ht rfl) rfl (i:=4) rfl (aK rfl) rfl rfl (ra rfl (eZ (Y.D_startA (m:=9) [] 8 3 rfl rfl (cQ (Ei:=[(3,_)]) rfl rfl (bQ (bJ rfl rfl) bX) rfl rfl (dZ rfl (cZ (Ht rfl))) ?_))))
   refine cQ (Ei:=[(4,_)]) rfl rfl (bQ (bJ rfl rfl) bX) rfl rfl (dZ rfl (cZ (Ht rfl))) (cQ (Ei:=[(3,_)]) rfl rfl (bQ (bJ rfl rfl) bX) rfl rfl (dZ rfl (cZ (Ht rfl))) (cQ (Ei:=[(4,_)]) rfl rfl (bQ (bJ rfl rfl) bX) rfl rfl (dZ rfl (cZ (Ht rfl))) (cQ (Ei:=[(32,_),(33,_)]) rfl rfl (bQ (bZ 2 rfl rfl) (bQ (bZ 3 rfl rfl) bX)) rfl rfl (dZ rfl (gQ U_30 Z_29 (Ht rfl) (Ht rfl) rfl zo (by rw [Nat.mul_one,Nat.zero_add]))) ?_)))
   refine cQ (Ei:=[(34,_)]) rfl rfl (bQ (bZ 4 rfl rfl) bX) rfl rfl (dZ rfl (gI A_29 Z_29 (Ht rfl) (j:=2) rfl)) (cQ (Ei:=[(6,_)]) rfl rfl (bQ (bJ rfl rfl) bX) rfl rfl (dZ rfl (eW A_51 Z_51 (Ht rfl) (i:=4) rfl rfl rfl)) (cQ (Ei:=[(36,_)]) rfl rfl (bQ (bZ 6 rfl rfl) bX) rfl rfl (dZ rfl (dB (xs:=[.tmp 36]) U_29 Z_51 O_51 (cG (Ht rfl) cK) rfl rfl rfl)) (Y.D_app (Ei:=[(35,_),(37,_)]) rfl rfl rfl rfl (bQ (bZ 5 rfl rfl) (bQ (bZ 7 rfl rfl) bX)) rfl (qW (inf:=Tryz.t51) nR lH rfl rfl rfl (Ht rfl) (Ht rfl) (by simp) (fun T hT=>by simp at hT; subst hT; exact El.ag rfl) (by show _ * 88 ≤ _; simp only [List.length_map,aN,List.length_cons,List.length_nil]; omega) (by simp only [List.length_map,aN,List.length_cons,List.length_nil]; omega)) ?_)))
   refine Y.D_done aL rfl (by kernel_rfl) rfl (by simp [Y.okP]) rfl rfl (bU (bU (bU (bU (bU (bU (bU (bU (Y.F_app (fun v2=>Y.F_nil ?_))))))))))
   refine ro rfl (gQ U_30 Z_29 (Ht rfl) (Ht rfl) rfl zo (by rw [Nat.mul_one,Nat.zero_add])) ?_
   refine sP Z_29 (Ht rfl) (Ht rfl) (by simp only [bP,List.length_map,eD]; omega) (j:=2) (l:=5) rfl rfl rfl ?_
   refine eZ (bC (dQ (ro rfl (dW (Ht rfl) (cV 1) z6) (rm rfl (eZ (bR [0,1,2,5] rfl (by decide) (fY (k + 1,v2) he (by dsimp only; omega) (zS rfl) (aU (fun _ _ _ h=>h) (aU (fun _ _ _ h=>h) (aU (fun _ _ _ h=>h) (aU (bO (by rw [wT,List.map_append,a1L hd he]; rfl)) aY)))))))))))
  ·simp only [decide_eq_false_iff_not] at he
   obtain rfl:k = z.length:=Nat.le_antisymm hk zo
   refine gW rfl (bC (dL 2 3 rfl rfl (by decide) (by simp only [bP,List.length_map,eD]; omega) ?_))
   refine dQ (ro rfl (dW (Ht rfl) (cV 1) z6) (rm rfl (eZ (bR [0,1,2] rfl (by decide) (fY (i + 1) hd zo (zS rfl) (aU (fun _ _ _ h=>h) (aU (fun _ _ _ h=>h) (aU (bF (by rw [eE,← jJ (f:=(fun i=>tab z.length fun k=>gm s i k))])) aY))))))))
 ·simp only [decide_eq_false_iff_not] at hd
  obtain rfl:i = z.length:=Nat.le_antisymm hi zo
  refine gW rfl (ts (rm rfl (ra rfl (eZ ?_))))
  exact jT B10 trivial [0,2] ⟨⟨_,rfl,fun _ _ _ h=>h⟩,⟨_,rfl,(bF (by rw [jI]))⟩,trivial⟩ (by decide) (wN rfl (eY rfl))
theorem Ko {z : List Qi} {s : List (List Qi)} (hsh : cI s z.length z.length) (hl : z.length ≤ 8) : bE Tryz.prog 93 [iT z s] (bL s) := (Ue hsh hl).fun fun B _ v S V h1 h2 => by
 have h3:=fL (s:=5) (M:=tab z.length fun i=>tab z.length fun k=>gm s i k) (aN _ _).symm v S V h1 h2
 rw [← sB hsh] at h3; exact h3
theorem Rj {z:List Qi} {s:List (List Qi)} (hl:z.length ≤ 8):bE Tryz.prog 142 [iT z s] (bB z):=by
 refine bE.intro Tryz.func142 rfl Tryz.ntmps142 rfl (fun cx=>(ts (rn rfl (fK (Ht rfl)) fun B1=>(ro rfl (cX cW) (eZ (ts (ro rfl (eW A_32 Z_32 (Ht rfl) (i:=0) rfl rfl rfl) (ro rfl (cJ K_22 oB ⟨(Ht rfl),trivial⟩) (rn rfl (mM (T:=aI Qi.zero) (i:=Tryz.t51) nR lH rfl rfl (Ht rfl) rfl lJ (El.ag rfl) (by show 88 * _ ≤ _; omega) zo) fun B7=>(ra rfl (eZ (cU (ts (rm rfl (ro rfl (sF U_29 (Ht rfl) (i:=1) rfl (show ((List.replicate z.length (aI Qi.zero)).length:Int) = ((z.length:Nat):Int) by simp)) ?_)))))))))))))))
 refine ro rfl (cZ (cV 0)) (eZ (eK ?_))
 refine gA (fun (k : Nat) (out : List Qi) => mX (fun i => gv z i) z.length out k) (fun (k : Nat) (out : List Qi) => z.length - k) (fun (k : Nat) (out : List Qi) => [(1, cC B1 0), (3, Is B7), (9, NT .i64 z.length), (10, NT .i64 k)]) (fun (k : Nat) (out : List Qi) => [box B1 32 [bB z, bL s], cL 51 5 B7 (out.map aI)]) 0 (List.replicate z.length Qi.zero) (mX.start _ _ _)
  (zS rfl) (aU (fun _ _ _ h=>h) (aU (bO (wJ aI _ _)) aY)) (fun k out hS=>?_)
 refine ts (ro rfl (gZ (Ht rfl) (Ht rfl)) (eZ (cU (dX (Ht rfl) (fun hk=>?_) (fun hk=>?_)))))
 ·simp only [decide_eq_true_eq] at hk
  have hlen:=hS.len
  refine cY (cU (eK (ts (rm rfl (ra rfl (eZ (dQ (rm rfl (rm rfl (ro rfl (eW A_32 Z_32 (Ht rfl) (i:=0) rfl rfl rfl) (rm rfl (ro rfl (dW (Ht rfl) (cV 1) z6) (ro rfl (cJ Tryz.call23 (Tv (i:=(k:Int) + 1) zo) ⟨(Ht rfl),(Ht rfl),trivial⟩) (rm rfl (ro rfl (dU (Ht rfl) rfl) (ro rfl (dU (Ht rfl) rfl) (ro rfl (cR U_29 Z_51 (Ht rfl) (Ht rfl) rfl (i:=1) rfl (by first | omega | (simp; omega)) rfl) ?_)))))))))))))))))
  refine kV Z_51 (Ht rfl) (Ht rfl) (El.ag rfl) (i:=1) rfl rfl (by first | omega | (simp; omega)) rfl (eZ (bC (dQ (ro rfl (dW (Ht rfl) (cV 1) z6) (rm rfl (eZ (fY (k + 1,_) (hS.next hk (Ls hk)) (by dsimp only; omega) (zS rfl) (aU (fun _ _ _ h=>h) (aU (bO (eN aI _ _ _)) aY)))))))))
 ·simp only [decide_eq_false_iff_not] at hk
  obtain rfl:k = z.length:=Nat.le_antisymm hS.kle zo
  have hfin:=hS.fin.trans (Ai (l:=z) rfl).symm
  refine gW rfl (gV (i:=1) (tt:=3) rfl rfl jG (ts (rm rfl (ra rfl (eZ (fG rfl (fZ (eY rfl) ?_)))))))
  exact (kO (by rw [hfin]))
end
section
open Go Go.RowKit
theorem nU (v : Value) (w : World) : (method (Tryz.prog.types.size + Made.depth) 51 v "Div").run Tryz.prog w = .ok (40, v) w := by kernel_rfl
theorem kJ (v : Value) (w : World) : (method (Tryz.prog.types.size + Made.depth) 51 v "Sub").run Tryz.prog w = .ok (44, v) w := by kernel_rfl
end
section
open Go Go.RowKit
theorem a5I {c:List (List Qi)}:bE Tryz.prog 99 [bL [],bL c] (bL []):=by
 refine bE.intro Tryz.func99 rfl Tryz.ntmps99 rfl (fun cx=>(ts (ro rfl (cX cW) (eZ (cU (ts (rm rfl (ro rfl (dK U_30 (Ht rfl) aA) (ro rfl (cT (Ht rfl) (cV 0)) (eZ (De (Ht rfl) (by rfl) ?_)))))))))))
 refine ts (ro rfl (cX cW) (eZ (fG rfl (fZ (eY rfl) ?_))))
 exact (fun v V h=>iL v V h)
theorem Qy {p c:List (List Qi)} {n m L:Nat} (hp:cI p n m) (hc:cI c m m) (hfp:bA p L) (hfc:bA c L) (hL1:1 ≤ L) (hL:L ≤ 1000000000) (hn1:1 ≤ n) (hm1:1 ≤ m) (hn:n ≤ 8) (hm:m ≤ 8):gG Tryz.prog 99 [bL p,bL c] [] (Nat) (fun B=>Is (.slice (some ⟨B,0,none⟩) n n)) (fun B=>[oF B 29 51 5 (bP aI (iZ p c))]) (fun _=>True):=by
 have hpl:=hp.1
 have hf1:=Oq (n:=n) (m:=m) hfp hfc hL1 hL1 hm
 have hf2:=a02 (n:=n) (m:=m) hfp hL1
 have hs1:cI (iK p c n m m) n m:=gS
 have hs2:cI (Jz p n m) m n:=a03
 refine gG.intro Tryz.func99 rfl Tryz.ntmps99 rfl (fun cx Z=>(ts (ro rfl (cX cW) (eZ (cU (ts (rm rfl (ro rfl (dK U_30 (Ht rfl) aA) (ro rfl (cT (Ht rfl) (cV 0)) (eZ (dX (Ht rfl) (fun h0=>?_) (fun h0=>?_))))))))))))
 ·simp only [decide_eq_true_eq] at h0
  omega
 ·refine cY (ts (rm rfl (rm rfl (ro rfl (cJ Tryz.call195 (a5D hp hc hfp hfc hL1 hL1 zo zo hn1 hm1 hn hm hm) ⟨(Ht rfl), (Ht rfl), trivial⟩) (rm rfl (ro rfl (dU (Ht rfl) rfl) (ro rfl (dU (Ht rfl) rfl) (ra rfl (ra rfl (eZ (ts (rm rfl (ro rfl (cJ Tryz.call196 (a7k hp hn1 hn hm) ⟨(Ht rfl), trivial⟩) (rm rfl (ro rfl (dU (Ht rfl) rfl) (ro rfl (dU (Ht rfl) rfl) (ra rfl (ra rfl (eZ (ts (rm rfl (rm rfl (hJ Tryz.call195 (Tu (a := iK p c n m m) (b := Jz p n m) hs1 hs2 hf1 hf2 zo hL1 zo zo hn1 hm1 hn hm hn) ⟨(Ht rfl), (Ht rfl), trivial⟩ rfl (fun B28 _ => ?_))))))))))))))))))))))))
  refine rm rfl (ro rfl (dU (Ht rfl) rfl) (ro rfl (dU (Ht rfl) rfl) (ra rfl (ra rfl (eZ (ts (rm rfl (ra rfl (eZ ?_)))))))))
  exact jT B28 trivial [0,1] ⟨⟨_,rfl,fun _ _ _ h=>h⟩,⟨_,rfl,(bF (by rw [a5T hp hc]))⟩,trivial⟩ (by decide) (wN rfl (eY rfl))
theorem a4P {p c:List (List Qi)} {n m L:Nat} (hp:cI p n m) (hc:cI c m m) (hfp:bA p L) (hfc:bA c L) (hL1:1 ≤ L) (hL:L ≤ 1000000000) (hn1:1 ≤ n) (hm1:1 ≤ m) (hn:n ≤ 8) (hm:m ≤ 8):bE Tryz.prog 99 [bL p,bL c] (bL (iZ p c)):=(Qy hp hc hfp hfc hL1 hL hn1 hm1 hn hm).fun fun B _ v S V h1 h2=>fL (s:=5) (M:=iZ p c) (by rw [mA.1,hp.1]) v S V h1 h2
theorem a5H {p c:List (List Qi)} {n m L:Nat} (hp:cI p n m) (hc:cI c m m) (hfp:bA p L) (hfc:bA c L) (hL1:1 ≤ L) (hL:L ≤ 1000000000) (hn1:n = m) (hn:n ≤ 8) (hm:m ≤ 8):bE Tryz.prog 99 [bL p,bL c] (bL (iZ p c)):=by
 by_cases e:n = 0
 ·subst e
  obtain rfl:=List.length_eq_zero_iff.1 hp.1
  exact a5I
 ·exact a4P hp hc hfp hfc hL1 hL zo zo hn hm
theorem a0i {z:List Qi} {s c:List (List Qi)} {g t0:Qi} {L:Nat} (hz:cB z L) (hs:bA s L) (hc:bA c L) (hg:aE g L) (ht:aE t0 L) (hL1:1 ≤ L) (hL:L ≤ 4000) (hsh:cI s z.length z.length) (hch:cI c z.length z.length) (hl:z.length ≤ 8):bE Tryz.prog 88 [fP z s c,aI g,aI t0] (eS [aI (Ab z s c g t0).1,aT .i64 (Ab z s c g t0).2]):=by
 haveI:=hg; haveI:=ht
 haveI hz0:aE Qi.zero 1:=aE.zero (Nat.le_refl 1)
 have d1:(dg (((1:Nat):Int)).natAbs).length = 1:=by decide
 have d2:(dg (Int.natAbs 1)).length = 1:=by decide
 have hcl:=hch.1
 refine bE.intro Tryz.func88 rfl Tryz.ntmps88 rfl (fun cx=>(ts (rn rfl (fK (Ht rfl)) fun B3=>(rn rfl (fK (Ht rfl)) fun B4=>(rn rfl (fK (Ht rfl)) fun B5=>(rn rfl (eG (Ts:=[Is (.bool false),Is (.slice none 0 0),Is (.bool false),Is (.slice none 0 0),Is (.slice none 0 0)]) O_51 rfl (fun V=>aW zd (aW zd (aW zd (aW zd (aW zd (aG))))))) fun B6=>(ro rfl (cX (cV 0)) (eZ (ts (rn rfl (eG (Ts:=[Is (.bool false),Is (.slice none 0 0),Is (.bool false),Is (.slice none 0 0),Is (.slice none 0 0)]) O_51 rfl (fun V=>aW zd (aW zd (aW zd (aW zd (aW zd (aG))))))) fun B8=>?_))))))))))
 refine eZ (cU (cU (fJ (m:=6) (dp 5 rfl (eW A_51 Z_51 (Ht rfl) (i:=2) rfl rfl rfl) (dq 18 0 rfl (cJ Tryz.call169 Kg ⟨(Ht rfl),trivial⟩) (dq 19 1 rfl (dR (Ht rfl)) (dq 20 2 rfl (cZ (Ht rfl)) (C.D_step (Ei:=[(5,_),(21,_)]) rfl rfl (bV (bK rfl rfl) (bV (bG 3 rfl rfl) bW)) (eU rfl rfl (Ht rfl) (fun h=>eW A_51 Z_51 (Ht rfl) (i:=2) rfl rfl rfl)) (C.D_step (Ei:=[(21,_)]) rfl rfl (bV (bG 3 rfl rfl) bW) (eU rfl rfl (Ht rfl) (fun h=>cJ K_77 (qD (n:=0) (by decide) (by decide)) ⟨(cV 0),trivial⟩)) ?_)))))))))
 refine fW aL rfl (by kernel_rfl) (zF (aJ (aJ (aV (fX rfl rfl (eU rfl rfl (Ht rfl) (fun h=>cJ Tryz.call76 (a0h (x:=t0) (y:=Qi.zero) (M:=1) zo) ⟨(fV rfl h),(fV rfl h),trivial⟩)) (fX rfl rfl (eU rfl rfl (Ht rfl) (fun h=>Sf (fV rfl h) cW)) (ro rfl (gN (Ht rfl) (fun h=>(fV rfl h))) (eZ (dX (Ht rfl) (fun hb=>?_) (fun hb=>?_))))))))))
 ·rw [Vq] at hb
  simp only [Bool.not_eq_true'] at hb
  have he:Ab z s c g t0 = (Qi.zero,1):=by rw [Ab,if_pos hb]
  refine ts (ro rfl (eW A_51 Z_51 (Ht rfl) (i:=4) rfl rfl rfl) (gX Z_51 (Ht rfl) (Ht rfl) rfl (i:=3) rfl (aK rfl) rfl rfl (ro rfl (cX (cV 1)) (eZ (bM rfl (fZ (fU A_51 Z_51 rfl (i:=3) rfl rfl) ?_) (fZ (eY rfl) ?_))))))
  ·exact (fun v V k=>by rw [he]; exact oJ v V k)
  ·exact (fun v V k=>by rw [he]; exact k)
 ·rw [Vq] at hb
  simp only [Bool.not_eq_false'] at hb
  have hb2:¬ eO t0 = false:=by rw [hb]; decide
  refine cY (cU (ts (ro rfl (eJ nH (Ht rfl) rfl) (ro rfl (fQ A_30 Z_30 (Ht rfl) (i:=0) rfl rfl) (ro rfl (dK U_30 (Ht rfl) aA) (ro rfl (fB (Ht rfl) (cV 2)) (eZ (dX (Ht rfl) (fun hd=>?_) (fun hd=>?_)))))))))
  ·have hd2 : z.length ≠ 2 := by rw [← hcl]; simpa using hd
   have he:Ab z s c g t0 = (Qi.zero,4):=by rw [Ab,if_neg hb2,if_pos hd2]
   refine ts (ro rfl (eW A_51 Z_51 (Ht rfl) (i:=4) rfl rfl rfl) (gX Z_51 (Ht rfl) (Ht rfl) rfl (i:=3) rfl (aK rfl) rfl rfl (ro rfl (cX (cV 4)) (eZ (bM rfl (fZ (fU A_51 Z_51 rfl (i:=3) rfl rfl) ?_) (fZ (eY rfl) ?_))))))
   ·exact (fun v V k=>by rw [he]; exact oJ v V k)
   ·exact (fun v V k=>by rw [he]; exact k)
  ·have hd2 : z.length = 2 := by rw [← hcl]; simpa using hd
   have hd3:¬ z.length ≠ 2:=fun h=>h hd2
   have hsh2:=hsh
   rw [hd2] at hsh hch
   have hs1:=hsh.1
   have hc1:=hch.1
   have hr0:=hsh.row (i:=0) (by decide)
   have hr1:=hsh.row (i:=1) (by decide)
   have hWf:=Nq hs hg hL1
   have hW:cI (a0T s g) 1 2:=⟨rfl,fun r hr=>by have:=List.mem_singleton.1 hr; subst this; rfl⟩
   have hXs:cI (iZ (a0T s g) c) 1 1:=mA
   have hX0:=hXs.row (i:=0) (by decide)
   have hp1:=pk1 (z:=z) zo
   haveI f1:aE (gm s 1 0) L:=hs.get hL1 1 0
   haveI f2:aE (gm s 0 0) L:=hs.get hL1 0 0
   haveI f3:aE (Yp z ((1:Nat):Int)) L:=by rw [hp1]; exact hz.get hL1 0
   haveI f4:=a0V hs hc hg hL1 zo
   have hpd:gm s 1 0 * (gm s 1 0).conj * (t0 * Yp z ((1:Nat):Int)) * (Lm - g * g.conj) = Np z s g t0:=by rw [hp1,Qi.mul_conj_norm,Qi.mul_conj_norm,Np,Qi.mul_assoc']
   refine cY (ts (ro rfl (eJ oD (Ht rfl) rfl) (ro rfl (eW A_32 Z_32 (Ht rfl) (i:=0) rfl rfl rfl) (ro rfl (cJ Tryz.call93 (Ko hsh2 zo) ⟨(Ht rfl),trivial⟩) (ro rfl (cJ K_77 (qD (n:=1) (by decide) (by decide)) ⟨(cV 1),trivial⟩) (ro rfl (cJ K_98 Hu ⟨(Ht rfl),trivial⟩) (rn rfl (eG (Ts:=[Is (.bool false),Is (.slice none 0 0),Is (.bool false),Is (.slice none 0 0),Is (.slice none 0 0)]) O_51 rfl (fun V=>aW zd (aW zd (aW zd (aW zd (aW zd (aG))))))) fun B10=>?_)))))))
   refine ra rfl (gX Z_51 (Ht rfl) (Ht rfl) rfl (i:=5) rfl (aK rfl) rfl rfl (eZ (ts (ro rfl (eJ oD (Ht rfl) rfl) (ro rfl (eW A_32 Z_32 (Ht rfl) (i:=0) rfl rfl rfl) (ro rfl (cJ Tryz.call23 (Tv (i:=((1:Nat):Int)) zo) ⟨(Ht rfl),(cV 1),trivial⟩) (rm rfl (ro rfl (dU (Ht rfl) rfl) (ro rfl (dU (Ht rfl) rfl) (rn rfl (eG (Ts:=[Is (.bool false),Is (.slice none 0 0),Is (.bool false),Is (.slice none 0 0),Is (.slice none 0 0)]) O_51 rfl (fun V=>aW zd (aW zd (aW zd (aW zd (aW zd (aG))))))) fun B11=>?_))))))))))
   refine gX Z_51 (Ht rfl) (Ht rfl) rfl (i:=6) rfl (aK rfl) rfl rfl (ra rfl (eZ (cU (qC (E':=[(3,_),(4,_),(5,_),(6,_),(7,_),(8,_),(9,_),(10,_),(11,_)]) (zS rfl) (fJ (m:=18) (dp 9 rfl (cZ (Ht rfl)) (dq 44 0 rfl (dJ U_30 Z_29 (Ht rfl) (cV 1) rfl (eQ (dY (d:=[]) zo))) (dq 45 1 rfl (dV A_29 Z_29 (Ht rfl)) (dq 46 2 rfl (dJ U_29 Z_51 (Ht rfl) (cV 0) rfl (eQ (dY (d:=Qi.zero) (by rw [hr1]; decide)))) ?_)))))))))
   refine dq 47 3 rfl (dV A_51 Z_51 (Ht rfl)) (dq 48 4 rfl (bI cD (Ht rfl)) (dp 4 rfl (eW A_51 Z_51 (Ht rfl) (i:=1) rfl rfl rfl) (cP 49 5 50 6 rfl (aP dD K_45 (kF zo) (Ht rfl) ⟨(Ht rfl),trivial⟩) (dp 10 rfl (eW A_51 Z_51 (Ht rfl) (i:=5) rfl rfl rfl) (dq 52 8 rfl (bI cD (Ht rfl)) (dp 4 rfl (eW A_51 Z_51 (Ht rfl) (i:=1) rfl rfl rfl) (dq 54 10 rfl (bI cD (Ht rfl)) (dp 9 rfl (cZ (Ht rfl)) (dq 56 12 rfl (dJ U_30 Z_29 (Ht rfl) (cV 0) rfl (eQ (dY (d:=[]) zo))) ?_)))))))))
   refine dq 57 13 rfl (dV A_29 Z_29 (Ht rfl)) (dq 58 14 rfl (dJ U_29 Z_51 (Ht rfl) (cV 0) rfl (eQ (dY (d:=Qi.zero) (by rw [hr0]; decide)))) ?_)
   refine dq 59 15 rfl (dV A_51 Z_51 (Ht rfl)) (cP 55 11 60 16 rfl (aP dD K_45 (kF zo) (Ht rfl) ⟨(Ht rfl),trivial⟩) (fW aL rfl (by kernel_rfl) (zF (zF (zF (zF (aJ (aJ (aV (ro rfl (aP kJ K_44 (uD zo) (Ht rfl) ⟨(Ht rfl),trivial⟩) (ro rfl (dB (xs:=[.tmp 51,.tmp 62]) U_29 Z_51 O_51 (cG (Ht rfl) (cG (Ht rfl) cK)) rfl rfl rfl) ?_)))))))))))
   refine ro rfl (dB (xs:=[.tmp 63]) U_30 Z_29 O_29 (cG (Ht rfl) cK) rfl rfl rfl) (ra rfl (eZ (cU (qC (E':=[(3,_),(4,_),(5,_),(6,_),(7,_),(8,_),(9,_),(10,_),(11,_),(13,_)]) (zS rfl) (dQ (rm rfl (ro rfl (eJ nH (Ht rfl) rfl) (ro rfl (fQ A_30 Z_30 (Ht rfl) (i:=0) rfl rfl) (ro rfl (cJ Tryz.call99 (a4P (p:=a0T s g) (c:=c) (n:=1) (m:=2) (L:=2 * L + 4) hW hch hWf (hc.le zo) zo zo (by decide) (by decide) (by decide) (by decide)) ⟨(Ht rfl),(Ht rfl),trivial⟩) ?_)))))))))
   refine ro rfl (dJ U_30 Z_29 (Ht rfl) (cV 0) rfl (eQ (dY (d:=[]) (by rw [hXs.1]; decide)))) ?_
   refine ro rfl (dV A_29 Z_29 (Ht rfl)) (ro rfl (dJ U_29 Z_51 (Ht rfl) (cV 0) rfl (eQ (dY (d:=Qi.zero) (by rw [hX0]; decide)))) ?_)
   refine ro rfl (dV A_51 Z_51 (Ht rfl)) (rn rfl (eG (Ts:=[Is (.bool false),Is (.slice none 0 0),Is (.bool false),Is (.slice none 0 0),Is (.slice none 0 0)]) O_51 rfl (fun V=>aW zd (aW zd (aW zd (aW zd (aW zd (aG))))))) fun B14=>(gX Z_51 (Ht rfl) (Ht rfl) rfl (i:=7) rfl (aK rfl) rfl rfl (eZ (cU (qC (E':=[(3,_),(4,_),(5,_),(6,_),(7,_),(8,_),(9,_),(10,_),(11,_),(14,_)]) (zS rfl) ?_)))))
   refine fJ (m:=32) (dp 9 rfl (cZ (Ht rfl)) (dq 73 0 rfl (dJ U_30 Z_29 (Ht rfl) (cV 1) rfl (eQ (dY (d:=[]) zo))) (dq 74 1 rfl (dV A_29 Z_29 (Ht rfl)) (dq 75 2 rfl (dJ U_29 Z_51 (Ht rfl) (cV 0) rfl (eQ (dY (d:=Qi.zero) (by rw [hr1]; decide)))) ?_))))
   refine dq 76 3 rfl (dV A_51 Z_51 (Ht rfl)) (dq 77 4 rfl (bI cD (Ht rfl)) (dp 9 rfl (cZ (Ht rfl)) (dq 79 6 rfl (dJ U_30 Z_29 (Ht rfl) (cV 1) rfl (eQ (dY (d:=[]) zo))) (dq 80 7 rfl (dV A_29 Z_29 (Ht rfl)) (dq 81 8 rfl (dJ U_29 Z_51 (Ht rfl) (cV 0) rfl (eQ (dY (d:=Qi.zero) (by rw [hr1]; decide)))) ?_)))))
   refine dq 82 9 rfl (dV A_51 Z_51 (Ht rfl)) (dq 83 10 rfl (bI cD (Ht rfl)) (dq 84 11 rfl (aP oG K_175 Bf (Ht rfl) trivial) (cP 78 5 85 12 rfl (aP dD K_45 (kF zo) (Ht rfl) ⟨(Ht rfl),trivial⟩) (dq 86 13 rfl (bI cD (Ht rfl)) (dp 5 rfl (eW A_51 Z_51 (Ht rfl) (i:=2) rfl rfl rfl) (dp 11 rfl (eW A_51 Z_51 (Ht rfl) (i:=6) rfl rfl rfl) (cP 88 15 89 16 rfl (cJ K_45 (kF zo) ⟨(Ht rfl),(Ht rfl),trivial⟩) (dq 90 17 rfl (cJ K_98 Hu ⟨(Ht rfl),trivial⟩) ?_))))))))
   refine cP 87 14 91 18 rfl (aP dD K_45 (kF zo) (Ht rfl) ⟨(Ht rfl),trivial⟩) (dq 92 19 rfl (bI cD (Ht rfl)) (dp 10 rfl (eW A_51 Z_51 (Ht rfl) (i:=5) rfl rfl rfl) (dq 94 21 rfl (bI cD (Ht rfl)) (dp 4 rfl (eW A_51 Z_51 (Ht rfl) (i:=1) rfl rfl rfl) (dq 96 23 rfl (bI cD (Ht rfl)) (dp 4 rfl (eW A_51 Z_51 (Ht rfl) (i:=1) rfl rfl rfl) (dq 98 25 rfl (bI cD (Ht rfl)) (dq 99 26 rfl (aP oG K_175 Bf (Ht rfl) trivial) (cP 97 24 100 27 rfl (aP dD K_45 (kF zo) (Ht rfl) ⟨(Ht rfl),trivial⟩) ?_)))))))))
   refine cP 95 22 101 28 rfl (aP kJ K_44 (uD zo) (Ht rfl) ⟨(Ht rfl),trivial⟩) (cP 93 20 102 29 rfl (aP dD K_45 (kF zo) (Ht rfl) ⟨(Ht rfl),trivial⟩) (C.D_new (Ei:=[]) rfl rfl rfl bW (eG (Ts:=[Is (.bool false),Is (.slice none 0 0),Is (.bool false),Is (.slice none 0 0),Is (.slice none 0 0)]) O_51 rfl (fun V=>aW zd (aW zd (aW zd (aW zd (aW zd (aG))))))) (fW aL rfl (by kernel_rfl) (zF (zF (zF (zF (zF (zF (zF (aJ (aJ (aJ (C.F_new (fun B15=>aV ?_)))))))))))))))
   refine gX Z_51 (Ht rfl) (Ht rfl) rfl (i:=8) rfl (aK rfl) rfl rfl (eZ (cU (qC (E':=[(6,_),(7,_),(8,_),(10,_),(14,_),(15,_)]) (zS rfl) (dQ (ro rfl (eW A_51 Z_51 (Ht rfl) (i:=7) rfl rfl rfl) (ro rfl (bI cD (Ht rfl)) (ro rfl (eW A_51 Z_51 (Ht rfl) (i:=8) rfl rfl rfl) (ro rfl (aP nU K_40 (yH (x:=a0U s c g) (y:=gm s 1 0 * (gm s 1 0).conj * (t0 * Yp z ((1:Nat):Int)) * (Lm - g * g.conj)) zo) (Ht rfl) ⟨(Ht rfl),trivial⟩) ?_))))))))
   refine rm rfl (ro rfl (dU (Ht rfl) rfl) (ro rfl (dU (Ht rfl) rfl) (rn rfl (eG (Ts:=[Is (.bool false),Is (.slice none 0 0),Is (.bool false),Is (.slice none 0 0),Is (.slice none 0 0)]) O_51 rfl (fun V=>aW zd (aW zd (aW zd (aW zd (aW zd (aG))))))) fun B16=>(gX Z_51 (Ht rfl) (Ht rfl) rfl (i:=9) rfl (aK rfl) rfl rfl (ra rfl (eZ (cU (cU (qC (E':=[(6,_),(7,_),(8,_),(10,_),(16,_),(17,_)]) (zS rfl) ?_)))))))))
   refine dQ (rm rfl (ro rfl (iR (Ht rfl) cW) (eZ (dX (Ht rfl) (fun hk=>?_) (fun hk=>?_)))))
   ·rw [hpd] at hk
    have hk2 : Np z s g t0 = Qi.zero := by
     by_cases h:Np z s g t0 = Qi.zero
     ·exact h
     ·rw [if_neg h] at hk; exact absurd hk (by decide)
    have he:Ab z s c g t0 = (Qi.zero,3):=by rw [Ab,if_neg hb2,if_neg hd3,if_pos hk2]
    refine ts (ro rfl (eW A_51 Z_51 (Ht rfl) (i:=4) rfl rfl rfl) (gX Z_51 (Ht rfl) (Ht rfl) rfl (i:=3) rfl (aK rfl) rfl rfl (ro rfl (cX (cV 3)) (eZ (bM rfl (fZ (fU A_51 Z_51 rfl (i:=3) rfl rfl) ?_) (fZ (eY rfl) ?_))))))
    ·exact (fun v V k=>by rw [he]; exact oJ v V k)
    ·exact (fun v V k=>by rw [he]; exact k)
   ·have hk2 : ¬ Np z s g t0 = Qi.zero := fun h => by rw [hpd, if_pos h] at hk; exact absurd hk (by decide)
    have he:Ab z s c g t0 = (Lm + a0U s c g / Np z s g t0,0):=by rw [Ab,if_neg hb2,if_neg hd3,if_neg hk2]
    have hv:Lm + a0U s c g / (gm s 1 0 * (gm s 1 0).conj * (t0 * Yp z ((1:Nat):Int)) * (Lm - g * g.conj)) = (Ab z s c g t0).1:=by rw [he,hpd]
    refine cY (ts (ro rfl (eW A_51 Z_51 (Ht rfl) (i:=5) rfl rfl rfl) (ro rfl (bI cD (Ht rfl)) (ro rfl (eW A_51 Z_51 (Ht rfl) (i:=9) rfl rfl rfl) (ro rfl (aP pQ K_46 (Ck zo) (Ht rfl) ⟨(Ht rfl),trivial⟩) (gX Z_51 (Ht rfl) (Ht rfl) rfl (i:=3) rfl (aK rfl) rfl rfl (ro rfl (cX (cV 0)) (eZ (bM rfl (fZ (fU A_51 Z_51 rfl (i:=3) rfl rfl) ?_) (fZ (eY rfl) ?_))))))))))
    ·exact (nO hv)
    ·exact (fun v V k=>by rw [he]; exact k)
end
section
open Go Go.RowKit
theorem a2E {n:Nat} (h:n < 4294967296):bE Tryz.prog 278 [NT .u64 1,NT .u64 n] (eS [NT .u64 0,NT .u64 n]):=by
 refine bE.intro Tryz.func278 rfl Tryz.ntmps278 rfl (fun cx=>(ts (ro rfl (cX (cV 0)) (ro rfl (cX (cV 0)) (eZ (ts (rm rfl (ro rfl (aM.nat (xP rfl (Ht rfl) (cV 4294967295) z7 z7) (show (1:Nat) &&& 4294967295 = 1 by decide)) (ra rfl (eZ (ts (rm rfl (ro rfl (aM.nat (fF (Ht rfl) (cV 32) (by decide)) (show (1:Nat) / 2 ^ 32 = 0 by decide)) (ra rfl (eZ (ts (rm rfl (ro rfl (aM.nat (xP rfl (Ht rfl) (cV 4294967295) z7 z7) (show n &&& 4294967295 = n from (Nat.and_two_pow_sub_one_eq_mod n 32).trans (Nat.mod_eq_of_lt h))) ?_))))))))))))))))))
 refine ra rfl (eZ (ts (rm rfl (ro rfl (aM.nat (fF (Ht rfl) (cV 32) (by decide)) (show n / 2 ^ 32 = 0 from Nat.div_eq_of_lt h)) (ra rfl (eZ (ts (rm rfl (rm rfl (ro rfl (aM.nat (mN (Ht rfl) (Ht rfl) z7) (Nat.one_mul n)) (ra rfl (eZ (ts (rm rfl (rm rfl (ro rfl (aM.nat (mN (Ht rfl) (Ht rfl) z7) (Nat.zero_mul n)) (rm rfl (ro rfl (aM.nat (fF (Ht rfl) (cV 32) (by decide)) (show n / 2 ^ 32 = 0 from Nat.div_eq_of_lt h)) ?_))))))))))))))))))
 refine ro rfl (dW (Ht rfl) (Ht rfl) z7) (ra rfl (eZ (ts (rm rfl (ro rfl (aM.nat (xP rfl (Ht rfl) (cV 4294967295) z7 z7) (show (0 + 0:Nat) &&& 4294967295 = 0 by decide)) (ra rfl (eZ (ts (rm rfl (ro rfl (aM.nat (fF (Ht rfl) (cV 32) (by decide)) (show (0 + 0:Nat) / 2 ^ 32 = 0 by decide)) (ra rfl (eZ (ts (rm rfl (rm rfl (rm rfl ?_))))))))))))))))
 refine ro rfl (aM.nat (mN (Ht rfl) (Ht rfl) z7) (show (1 * 0:Nat) = 0 by decide)) (ro rfl (dW (Ht rfl) (Ht rfl) z7) (ra rfl (eZ (ts (rm rfl (rm rfl (ro rfl (aM.nat (mN (Ht rfl) (Ht rfl) z7) (show (0 * 0:Nat) = 0 by decide)) (rm rfl (ro rfl (dW (Ht rfl) (Ht rfl) z7) ?_)))))))))
 refine rm rfl (ro rfl (aM.nat (fF (Ht rfl) (cV 32) (by decide)) (show (0 + 0:Nat) / 2 ^ 32 = 0 by decide)) (ro rfl (dW (Ht rfl) (Ht rfl) z7) (ra rfl (eZ (ts (rm rfl (rm rfl (ro rfl (aM.nat (mN (Ht rfl) (Ht rfl) z7) (Nat.one_mul n)) (ra rfl (eZ (bM rfl (fZ (eY rfl) ?_) (eY rfl))))))))))))
 exact (lO (by decide))
theorem a5F {n:Nat} (h:n < 4294967296):bE Tryz.prog 251 [NT .u64 1,NT .u64 n] (eS [NT .u64 0,NT .u64 n]):=by
 refine bE.intro Tryz.func251 rfl Tryz.ntmps251 rfl (fun cx=>(ts (ro rfl (cX (cV 0)) (ro rfl (cX (cV 0)) (eZ (cU (dX cW (fun hf=>?_) (fun hf=>?_))))))))
 ·exact absurd hf (by decide)
 ·refine cY (ts (rm rfl (rm rfl (ro rfl (cJ Tryz.call278 (a2E h) ⟨(Ht rfl), (Ht rfl), trivial⟩) (rm rfl (ro rfl (dU (Ht rfl) rfl) (ro rfl (dU (Ht rfl) rfl) (ra rfl (ra rfl (eZ (ts (rm rfl (rm rfl (ra rfl (ra rfl (eZ ?_))))))))))))))))
  exact bM rfl (eY rfl) (eY rfl)
theorem Qv {m:Nat} (h1:1 ≤ m) (hm:m ≤ 1000):gG Tryz.prog 191 [bB [Qi.zero],NT .i64 m] [] ({v:Value // dT v}) (fun v=>Is v.1) (fun v=>[cL 51 5 v.1 ((tab m fun _=>Qi.zero).map aI)]) (fun _=>True):=by
 refine gG.intro Tryz.func191 rfl Tryz.ntmps191 rfl (fun cx Z=>(ts (ro rfl (cX cW) (eZ (cU (ts (rm rfl (ro rfl (gZ (Ht rfl) (cV 0)) (eZ (dX (Ht rfl) (fun h0=>?_) (fun h0=>?_)))))))))))
 ·simp only [decide_eq_true_eq] at h0
  omega
 ·refine cY (ts (rm rfl (ro rfl (dK U_29 (Ht rfl) (show (([Qi.zero].map aI).length : Int) = ((1 : Nat) : Int) from rfl)) (ro rfl (gJ U_3 U_255 (Ht rfl) z7) (rm rfl (ro rfl (gJ U_3 U_255 (Ht rfl) z7) (ro rfl (cJ Tryz.call251 (a5F zo) ⟨(Ht rfl), (Ht rfl), trivial⟩) (rm rfl (ro rfl (dU (Ht rfl) rfl) (ro rfl (dU (Ht rfl) rfl) ?_))))))))))
  refine ra rfl (ra rfl (eZ (cU (ts (rm rfl (ro rfl (eH (Ht rfl) (cV 0)) (rm rfl (fX rfl rfl (eU rfl rfl (Ht rfl) (fun h=>cZ (Ht rfl))) (fX rfl rfl (eU rfl rfl (Ht rfl) (fun h=>eH (fV rfl h) (cV 9223372036854775807))) (ro rfl (gN (Ht rfl) (fun h=>(fV rfl h))) (eZ (dX (Ht rfl) (fun h2=>?_) (fun h2=>?_)))))))))))))
  ·simp only [Bool.or_eq_true, decide_eq_true_eq] at h2
   omega
  ·refine cY (ts (rm rfl (ro rfl (gJ U_255 U_3 (Ht rfl) z6) (Tg (T := aI Qi.zero) (i := Tryz.t51) nR lH rfl rfl (Ht rfl) rfl lJ (El.ag rfl) (by show 88 * _ ≤ _; omega) zo rfl (fun B30 hB30 => (ra rfl (eZ (ts (rm rfl (rm rfl (ro rfl (a1A (q := 1) (T := aI Qi.zero) U_29 Z_51 (i := 1) rfl (Ht rfl) (Ht rfl) (by decide) (El.ag rfl) zo) (ra rfl (eZ (cU (eK ?_)))))))))))))))
   refine bS (fun (k : Nat) => 1 ≤ k ∧ k ≤ m) (fun (k : Nat) => m - k) (fun (k : Nat) => [(7, Is B30), (8, NT .i64 k)]) (fun (k : Nat) => [Z, cL 51 5 B30 (List.replicate m (aI Qi.zero))]) (Nat.min 1 m) ⟨by show 1 ≤ min 1 m; omega, by show min 1 m ≤ m; omega⟩
    (zS rfl) (dE.refl _) (fun k ⟨hk1,hk⟩=>?_)
   refine cU (ts (rm rfl (rm rfl (ro rfl (sF U_29 (Ht rfl) (i:=1) rfl (show ((List.replicate m (aI Qi.zero)).length:Int) = ((m:Nat):Int) by simp)) (ro rfl (gZ (Ht rfl) (Ht rfl)) (eZ (dX (Ht rfl) (fun hd=>?_) (fun hd=>?_))))))))
   ·simp only [decide_eq_true_eq] at hd
    have hlen:(List.replicate m (aI Qi.zero)).length = m:=by simp
    have h5:Nat.min k ((List.replicate m (aI Qi.zero)).length - k) = min k (m - k):=by rw [hlen]
    refine cY (eK (fJ (m:=8) (dp 8 rfl (cZ (Ht rfl)) (dp 7 rfl (cZ (Ht rfl)) (dp 8 rfl (cZ (Ht rfl)) (cP 39 1 40 2 rfl (a1E U_29 Z_51 (Ht rfl) (Ht rfl) rfl (i:=1) rfl (by rw [hlen]; exact hd)) ?_))))))
    refine dp 7 rfl (cZ (Ht rfl)) (dp 8 rfl (cZ (Ht rfl)) (cP 42 4 43 5 rfl (a1D U_29 Z_51 (Ht rfl) (Ht rfl) rfl (i:=1) rfl (by rw [hlen]; omega) (by rw [hlen]; omega)) ?_))
    refine cP 41 3 44 6 rfl (Sc (T:=aI Qi.zero) U_29 Z_51 (i:=1) rfl (Ht rfl) (Ht rfl)) (fW aL rfl (by kernel_rfl) (zF (zF (aV (ro rfl (dW (Ht rfl) (Ht rfl) (by show _ < 9223372036854775808; omega)) (ra rfl (eZ (bC (fY (k + Nat.min k ((List.replicate m (aI Qi.zero)).length - k)) ⟨by omega,by omega⟩ zo (zS rfl) (dE.refl _))))))))))
   ·refine gW rfl (ts (rm rfl (ra rfl (eZ ?_))))
    exact jT ⟨B30,hB30⟩ trivial [0,1] ⟨⟨_,rfl,fun _ _ _ h=>h⟩,⟨_,rfl,(bO (by rw [lU,wJ]))⟩,trivial⟩ (by decide) (wN rfl (eY rfl))
end
section
open Go Go.RowKit
theorem oQ {n : Nat} {E : dI} {H : Hp} {d : Option Tmp} {t : TypeId} {pos : String} {af : Array Edge} {g : Option (Nat × Bool)} {x0 x1 : Operand} {T0 T1 T2 : Ty} (h0 : bT E x0 (fE [T0, T1])) [s1 : eI T2 1 false] (h1 : bT E x1 T2) :
  aM Tryz.prog n E H ⟨d,.build 34 #[(0,x0),(1,x1)],t,pos,af,g⟩ (fE [T0,T1,T2]) :=
 gL (parts := [(0, x0), (1, x1)]) fun a V w hs => by
  obtain ⟨v0,e0,c0⟩:=h0 n V a hs
  obtain ⟨c0_0,c0_1,rfl⟩:∃ c0_0 c0_1,v0 = [c0_0,c0_1]:=Cn (by simpa using c0.length)
  have p1:=h1 n V a hs
  generalize e1:a.eval x1 = v1 at p1
  have q1:=(s1.ok v1 V p1).2.2 rfl
  refine ⟨.agg #[c0_0,c0_1,v1],?_,[c0_0,c0_1,v1],rfl,aW (c0.at (i:=0) rfl rfl) (aW (c0.at (i:=1) rfl rfl) (aW (⟨p1,q1⟩) (aG)))⟩
  simp [e0,e1,Instr.build,Instr.fill,Sem.run_bind,Result.andThen,fD,q1.cells,O_34,U_34,Z_30,Z_32]
end
section
open Go Go.RowKit
theorem Fg {n:Nat} (hn:n ≤ 1000):gG Tryz.prog 97 [NT .i64 n,NT .i64 n] [] (Nat) (fun B=>Is (.slice (some ⟨B,0,none⟩) n n)) (fun B=>[jU dT B 29 51 5 (bP aI (mI n n))]) (fun _=>True):=by
 refine gG.intro Tryz.func97 rfl Tryz.ntmps97 rfl (fun cx Z=>(ts (ro rfl (cX cW) (eZ (ts (rm rfl (rn rfl (eM (T:=Is (.slice none 0 0)) (i:=Tryz.t29) V_30 nI rfl rfl (Ht rfl) rfl (fun _=>rfl) trivial (by show 24 * _ ≤ _; omega) zo) fun B8=>(ra rfl (eZ (cU (ts (rm rfl (ro rfl (iD U_30 (Ht rfl)) (ro rfl (cZ (cV 0)) (eZ (eK (nM 1 rfl (uZ dT ⟨none,0,rfl⟩ (e:=51) (s:=5)) ?_)))))))))))))))))
 refine bS (fun (k : Nat) => k ≤ n) (fun (k : Nat) => n - k) (fun (k : Nat) => [(1, NT .i64 n), (5, Is (.slice (some ⟨B8, 0, none⟩) n n)), (10, NT .i64 n), (11, NT .i64 k)]) (fun (k : Nat) => [Z, jU dT B8 29 51 5 (bP aI (jC (fun _ => (tab n fun _ => Qi.zero)) [] n k))]) 0 (Nat.zero_le _)
  (zS rfl) (aU (fun _ _ _ h=>h) (aU (bF (by rw [← gR,lU]; exact mF aI n)) aY)) (fun k hk=>?_)
 refine ts (ro rfl (gZ (Ht rfl) (Ht rfl)) (eZ (cU (dX (Ht rfl) (fun hd=>?_) (fun hd=>?_)))))
 ·simp only [decide_eq_true_eq] at hd
  refine kE 1 (k) rfl (kZ hd) (fun v hv=>(cY (cU (eK (ts (rm rfl (ra rfl (eZ (dQ (rm rfl (rm rfl (ro rfl (cJ K_77 (qD (n:=0) (by decide) (by decide)) ⟨(cV 0),trivial⟩) (ro rfl (cJ K_98 Hu ⟨(Ht rfl),trivial⟩) (ro rfl (dB (xs:=[.tmp 17]) U_29 Z_51 O_51 (cG (Ht rfl) cK) rfl rfl rfl) (rm rfl (hJ Tryz.call191 (Qv (m:=n) zo hn) ⟨(Ht rfl),(Ht rfl),trivial⟩ rfl (fun B20 _=>?_)))))))))))))))))
  have hB20:=B20.2
  refine ro rfl (gQ U_30 Z_29 (Ht rfl) (Ht rfl) rfl zo (by rw [Nat.mul_one,Nat.zero_add])) ?_
  refine sP Z_29 (Ht rfl) (Ht rfl) (by simp only [bP,List.length_map,eD]; omega) (j:=1) (l:=3) rfl rfl rfl ?_
  refine eZ (bC (dL 1 3 rfl rfl (by decide) (by simp only [bP,List.length_map,eD]; omega) ?_))
  refine dQ (ro rfl (dW (Ht rfl) (cV 1) z6) (rm rfl (eZ (bR [0,1] rfl (by decide) (fY (k + 1) hd zo (zS rfl) (aU (fun _ _ _ h=>h) (aU (bF (by rw [eE,← jJ (f:=fun _=>(tab n fun _=>Qi.zero))])) aY)))))))
 ·simp only [decide_eq_false_iff_not] at hd
  obtain rfl:n = k:=Nat.le_antisymm zo hk
  refine gW rfl (ts (rm rfl (ra rfl (eZ ?_))))
  exact jT B8 trivial [0,1] ⟨⟨_,rfl,fun _ _ _ h=>h⟩,⟨_,rfl,(bF (by rw [jI]; rfl))⟩,trivial⟩ (by decide) (wN rfl (eY rfl))
theorem a0B {z:List Qi} {s:List (List Qi)} {L:Nat} (hz:cB z L) (hs:bA s L) (hL1:1 ≤ L) (hL:L ≤ 10000000) (hsh:cI s z.length z.length) (hl1:1 ≤ z.length) (hl:z.length ≤ 8):gG Tryz.prog 160 [iT z s] [] (Nat) (fun B=>Is (.slice (some ⟨B,0,none⟩) z.length z.length)) (fun B=>[jU dT B 29 51 5 (bP aI (iG z s))]) (fun _=>True):=by
 have hs1:=hs.le (Nat.le_refl L)
 have hsl:=hsh.1
 have hD:=Fm z
 have hDf:=Fl hz hL1
 have hXf:=uL hs hDf hL1 (by rw [hD.1]; exact hl)
 have hX:cI (iZ s (iN z)) s.length s.length:=mA
 refine gG.intro Tryz.func160 rfl Tryz.ntmps160 rfl (fun cx Z=>(ts (rn rfl (fK (Ht rfl)) fun B1=>(ro rfl (cX cW) (eZ (cU (fJ (m:=3) (dp 1 rfl (eW A_32 Z_32 (Ht rfl) (i:=1) rfl rfl rfl) (dq 10 0 rfl (cJ K_22 oB ⟨(Ht rfl),trivial⟩) (dp 1 rfl (eW A_32 Z_32 (Ht rfl) (i:=1) rfl rfl rfl) (fW aL rfl (by kernel_rfl) (aJ (aJ (aJ (aV (ro rfl (cJ K_22 oB ⟨(Ht rfl),trivial⟩) (hJ Tryz.call97 (Fg (n:=z.length) zo) ⟨(Ht rfl),(Ht rfl),trivial⟩ rfl (fun B14 _=>?_))))))))))))))))))
 refine ra rfl (eZ (cU (ts (ro rfl (eW A_32 Z_32 (Ht rfl) (i:=1) rfl rfl rfl) (ro rfl (cJ Tryz.call142 (Rj zo) ⟨(Ht rfl),trivial⟩) (ro rfl (dK U_29 (Ht rfl) aA) (ro rfl (cZ (cV 0)) (eZ (eK ?_)))))))))
 refine bS (fun (i : Nat) => i ≤ z.length) (fun (i : Nat) => z.length - i) (fun (i : Nat) => [(1, cC B1 0), (3, Is (.slice (some ⟨B14, 0, none⟩) z.length z.length)), (16, bB z), (17, NT .i64 z.length), (18, NT .i64 i)]) (fun (i : Nat) => [Z, box B1 32 [bB z, bL s], jU dT B14 29 51 5 (bP aI (jC (fun i => (tab z.length fun _ => Qi.zero).set i (gv z i)) (tab z.length fun _ => Qi.zero) z.length i))]) 0 (Nat.zero_le _)
  (zS rfl) (aU (fun _ _ _ h=>h) (aU (fun _ _ _ h=>h) (aU (bF (by rw [mI,gR])) aY))) (fun i hi=>?_)
 refine ts (ro rfl (gZ (Ht rfl) (Ht rfl)) (eZ (cU (dX (Ht rfl) (fun hd=>?_) (fun hd=>?_)))))
 ·simp only [decide_eq_true_eq] at hd
  have hzl:=aN z.length fun _=>Qi.zero
  refine kE 2 (i) rfl (kZ hd) (fun v hv=>(cY (cU (eK (ts (rm rfl (ro rfl (dJ U_29 Z_51 (Ht rfl) (Ht rfl) rfl (eQ (dY (d:=Qi.zero) hd))) (ro rfl (dV A_51 Z_51 (Ht rfl)) (rn rfl (eG (Ts:=[Is (.bool false),Is (.slice none 0 0),Is (.bool false),Is (.slice none 0 0),Is (.slice none 0 0)]) O_51 rfl (fun V=>aW zd (aW zd (aW zd (aW zd (aW zd (aG))))))) fun B5=>(ra rfl ?_))))))))))
  refine gX Z_51 (Ht rfl) (Ht rfl) rfl (i:=4) rfl (aK rfl) rfl rfl (eZ (fJ (m:=7) (dp 3 rfl (cZ (Ht rfl)) (dp 4 rfl (cZ (Ht rfl)) (cP 23 0 24 1 rfl (gQ U_30 Z_29 (Ht rfl) (Ht rfl) rfl zo (by rw [Nat.mul_one,Nat.zero_add])) ?_)))))
  refine dq 25 2 rfl (gI A_29 Z_29 (Ht rfl) (j:=2) rfl) (dp 4 rfl (cZ (Ht rfl)) (dp 5 rfl (eW A_51 Z_51 (Ht rfl) (i:=4) rfl rfl rfl) (dq 28 5 rfl (cJ K_98 Hu ⟨(Ht rfl),trivial⟩) (fW aL rfl (by kernel_rfl) (zF (aJ (aJ (aJ (aV (ro rfl (cR U_29 Z_51 (Ht rfl) (Ht rfl) rfl (i:=3) rfl (by simp only [List.length_map,aN]; omega) rfl) ?_))))))))))
  refine kV Z_51 (Ht rfl) (Ht rfl) (El.ag rfl) (i:=3) rfl rfl (by simp only [List.length_map,aN]; omega) rfl ?_
  refine eZ (bC (dL 2 3 rfl rfl (by decide) (by simp only [bP,List.length_map,eD]; omega) ?_))
  refine dQ (ro rfl (dW (Ht rfl) (cV 1) z6) (rm rfl (eZ (bR [0,1,2] rfl (by decide) (fY (i + 1) hd zo (zS rfl) (aU (fun _ _ _ h=>h) (aU (fun _ _ _ h=>h) (aU (bF (by rw [← jJ (f:=(fun i=>(tab z.length fun _=>Qi.zero).set i (gv z i))),← eE,← eN])) aY))))))))
 ·simp only [decide_eq_false_iff_not] at hd
  obtain rfl:i = z.length:=Nat.le_antisymm hi zo
  rw [jI]
  refine gW rfl (ts (ro rfl (eW A_32 Z_32 (Ht rfl) (i:=1) rfl rfl rfl) (ro rfl (cJ Tryz.call93 (Ko hsh hl) ⟨(Ht rfl),trivial⟩) (rm rfl (a5h Tryz.call99 (Qy (p:=s) (c:=iN z) (n:=z.length) (m:=z.length) (L:=L) hsh hD hs hDf hL1 zo hl1 hl1 hl hl) (j:=2) (tt:=34) rfl rfl (fL (s:=5) (M:=iN z) hD.1.symm) a6p (fun _=>inferInstance) (fun _ B hB=>by simp only [List.mem_singleton] at hB; subst hB; exact a25) ⟨(Ht rfl),(Ht rfl),trivial⟩ rfl (fun B35 _=>(ra rfl (eZ (cU (cU (gV (i:=3) (tt:=6) rfl rfl (fL (s:=5) (M:=iZ s (iN z)) (hX.1.trans hsl).symm) ?_)))))))))))
  refine dQ (rm rfl (ro rfl (dK U_30 (Ht rfl) aA) (ro rfl (cZ (cV 0)) (eZ (eK (bR [0,2] rfl (by decide) ?_))))))
  refine bS (fun (i : Nat) => i ≤ z.length) (fun (i : Nat) => z.length - i) (fun (i : Nat) => [(3, Is (.slice (some ⟨B14, 0, none⟩) z.length z.length)), (36, bL (iZ s (iN z))), (37, NT .i64 z.length), (38, NT .i64 i)]) (fun (i : Nat) => [Z, jU dT B14 29 51 5 (bP aI (pR (fun i => tab z.length fun j => gm (iN z) i j - gm (iZ s (iN z)) i j) (fun i => tab z.length fun j => gm (iN z) i j) z.length i))]) 0 (Nat.zero_le _)
   (aQ rfl (aQ rfl (aZ rfl (lO (hX.1.trans hsl)) (zS rfl)))) (aU (fun _ _ _ h=>h) (aU (bF (by rw [← lT]; exact congrArg _ (sB hD))) aY)) (fun i hi=>?_)
  refine ts (ro rfl (gZ (Ht rfl) (Ht rfl)) (eZ (cU (dX (Ht rfl) (fun he=>?_) (fun he=>?_)))))
  ·simp only [decide_eq_true_eq] at he
   have hxr:=hX.row (i:=i) zo
   refine kE 1 (i) rfl (sX he) (fun v hv=>(cY (cU (eK (ts (rm rfl (ro rfl (dJ U_30 Z_29 (Ht rfl) (Ht rfl) rfl (eQ (dY (d:=[]) (by rw [hX.1]; omega)))) ?_)))))))
   refine ro rfl (dV A_29 Z_29 (Ht rfl)) (ra rfl (ra rfl (eZ (ts (rm rfl (ro rfl (dK U_29 (Ht rfl) aA) (ro rfl (cZ (cV 0)) (eZ (eK ?_)))))))))
   refine bS (fun (j : Nat) => j ≤ z.length) (fun (j : Nat) => z.length - j) (fun (j : Nat) => [(3, Is (.slice (some ⟨B14, 0, none⟩) z.length z.length)), (7, NT .i64 i), (8, bB ((iZ s (iN z)).getD i [])), (36, bL (iZ s (iN z))), (37, NT .i64 z.length), (38, NT .i64 i), (44, NT .i64 z.length), (45, NT .i64 j)]) (fun (j : Nat) => [Z, sL dT B14 29 51 5 (bP aI (pR (fun i => tab z.length fun j => gm (iN z) i j - gm (iZ s (iN z)) i j) (fun i => tab z.length fun j => gm (iN z) i j) z.length i)) i v, cL 51 5 v ((pR (fun j => gm (iN z) i j - gm (iZ s (iN z)) i j) (fun j => gm (iN z) i j) z.length j).map aI)]) 0 (Nat.zero_le _)
    (aQ rfl (aQ rfl (aQ rfl (aQ rfl (aQ rfl (aQ rfl (aZ rfl (lO (hxr.trans hsl)) (zS rfl)))))))) (aU (fun _ _ _ h=>h) (aU (fun _ _ _ h=>h) (aU (bO (by rw [← lT])) aY))) (fun j hj=>?_)
   refine ts (ro rfl (gZ (Ht rfl) (Ht rfl)) (eZ (cU (dX (Ht rfl) (fun hf=>?_) (fun hf=>?_)))))
   ·simp only [decide_eq_true_eq] at hf
    have hrl:=lA (fun j=>gm (iN z) i j - gm (iZ s (iN z)) i j) (fun j=>gm (iN z) i j) z.length j
    haveI f1:aE (gm (iN z) i j) L:=hDf.get hL1 i j
    haveI f2:aE (gm (iZ s (iN z)) i j) (200 * L + 300):=hXf.get zo i j
    refine cY (cU (eK (ts (rm rfl (ra rfl (eZ (fJ (m:=18) (dp 3 rfl (cZ (Ht rfl)) (dp 7 rfl (cZ (Ht rfl)) (cP 48 0 49 1 rfl (gQ U_30 Z_29 (Ht rfl) (Ht rfl) rfl zo (by rw [Nat.mul_one,Nat.zero_add])) ?_))))))))))
    refine dq 50 2 rfl (gI A_29 Z_29 (Ht rfl) (j:=1) rfl) (dp 9 rfl (cZ (Ht rfl)) (dp 3 rfl (cZ (Ht rfl)) (dp 7 rfl (cZ (Ht rfl)) (cP 53 5 54 6 rfl (gQ U_30 Z_29 (Ht rfl) (Ht rfl) rfl zo (by rw [Nat.mul_one,Nat.zero_add])) ?_))))
    refine dq 55 7 rfl (gI A_29 Z_29 (Ht rfl) (j:=1) rfl) (dp 9 rfl (cZ (Ht rfl)) (cP 56 8 57 9 rfl (cR U_29 Z_51 (Ht rfl) (Ht rfl) rfl (i:=2) rfl (by simp only [List.length_map,hrl]; omega) rfl) ?_))
    refine dq 58 10 rfl (oX A_51 Z_51 (Ht rfl) (i:=2) rfl rfl (eQ (tA hf))) (dq 59 11 rfl (bI cD (Ht rfl)) (dp 8 rfl (cZ (Ht rfl)) (dp 9 rfl (cZ (Ht rfl)) (cP 61 13 62 14 rfl (dJ U_29 Z_51 (Ht rfl) (Ht rfl) rfl (eQ (dY (d:=Qi.zero) (by rw [hxr]; omega)))) ?_))))
    refine dq 63 15 rfl (dV A_51 Z_51 (Ht rfl)) (cP 60 12 64 16 rfl (aP kJ K_44 (uD zo) (Ht rfl) ⟨(Ht rfl),trivial⟩) (fW aL rfl (by kernel_rfl) (zF (zF (zF (zF (aJ (aJ (aV (ro rfl (cR U_29 Z_51 (Ht rfl) (Ht rfl) rfl (i:=2) rfl (by simp only [List.length_map,hrl]; omega) rfl) ?_))))))))))
    refine kV Z_51 (Ht rfl) (Ht rfl) (El.ag rfl) (i:=2) rfl rfl (by simp only [List.length_map,hrl]; omega) rfl ?_
    refine eZ (bC (dQ (ro rfl (dW (Ht rfl) (cV 1) z6) (rm rfl (eZ (fY (j + 1) hf zo (zS rfl) (aU (fun _ _ _ h=>h) (aU (fun _ _ _ h=>h) (aU (bO (by rw [eN,← mE (f:=fun j=>gm (iN z) i j - gm (iZ s (iN z)) i j)])) aY)))))))))
   ·simp only [decide_eq_false_iff_not] at hf
    obtain rfl:j = z.length:=Nat.le_antisymm hj zo
    refine gW rfl (bC (dL 1 2 rfl rfl (by decide) (by simp only [bP,List.length_map,lA]; omega) ?_))
    refine dQ (ro rfl (dW (Ht rfl) (cV 1) z6) (rm rfl (eZ (bR [0,1] rfl (by decide) (fY (i + 1) he zo (zS rfl) (aU (fun _ _ _ h=>h) (aU (bF (by rw [eE,nA,← mE (f:=(fun i=>tab z.length fun j=>gm (iN z) i j - gm (iZ s (iN z)) i j))])) aY)))))))
  ·simp only [decide_eq_false_iff_not] at he
   obtain rfl:i = z.length:=Nat.le_antisymm hi zo
   refine gW rfl (ts (rm rfl (ra rfl (eZ ?_))))
   exact jT B14 trivial [0,1] ⟨⟨_,rfl,fun _ _ _ h=>h⟩,⟨_,rfl,(bF (by rw [nA]; rfl))⟩,trivial⟩ (by decide) (wN rfl (eY rfl))
theorem a4O {z:List Qi} {s:List (List Qi)} {t:Qi} {L:Nat} (hz:cB z L) (hs:bA s L) (ht:aE t L) (hL1:1 ≤ L) (hL:L ≤ 10000000) (hsh:cI s z.length z.length) (hl1:1 ≤ z.length) (hl:z.length ≤ 8):bE Tryz.prog 57 [iT z s,aI t] (eS [fP (dA (lB t) z) (dA (lB t) s) (dA (lB t) (kR t (iG z s) z.length)),aT .i64 (lB t)]):=by
 haveI:=ht
 have hOs:=nC z s
 have hOf:=wE hz hs hL1 hl
 refine bE.intro Tryz.func57 rfl Tryz.ntmps57 rfl (fun cx=>(ts (rn rfl (fK (Ht rfl)) fun B2=>(rn rfl (fK (Ht rfl)) fun B3=>(rn rfl (eG (Ts:=[Is (.slice none 0 0),Is (.slice none 0 0),Is (.slice none 0 0)]) O_34 rfl (fun V=>aW zd (aW zd (aW zd (aG))))) fun B4=>(ro rfl (cX (cV 0)) (eZ (cU (ts (ro rfl (eW A_51 Z_51 (Ht rfl) (i:=1) rfl rfl rfl) (ro rfl (cJ Tryz.call159 (Rl zo) ⟨(Ht rfl),trivial⟩) (ro rfl (dR (Ht rfl)) ?_))))))))))))
 refine eZ (dX (Ht rfl) (fun hb=>?_) (fun hb=>?_))
 ·have he : lB t ≠ 0 := by simp only [Bool.not_eq_true'] at hb; rw [lB, hb]; decide
  have he1:lB t = 1:=by simp only [Bool.not_eq_true'] at hb; rw [lB,hb]; rfl
  refine ts (ro rfl (aM.imp (tL ) oW) (gX Z_34 (Ht rfl) (Ht rfl) rfl (i:=2) rfl (aK rfl) rfl rfl (ro rfl (cX (cV 1)) (eZ (bM rfl (fZ (fU A_34 Z_34 rfl (i:=2) rfl rfl) ?_) (fZ (eY rfl) ?_))))))
  ·exact (a45 he)
  ·exact (aS he1.symm)
 ·have he : lB t = 0 := by simp only [Bool.not_eq_false'] at hb; rw [lB, hb]; rfl
  refine cY (ts (ro rfl (eW A_32 Z_32 (Ht rfl) (i:=0) rfl rfl rfl) (hJ Tryz.call160 (a0B hz hs hL1 hL hsh hl1 hl) ⟨(Ht rfl),trivial⟩ rfl (fun B15 _=>(ra rfl (eZ (cU (ts (rm rfl (ro rfl (iD U_30 (Ht rfl)) (ro rfl (cZ (cV 0)) (eZ (eK ?_)))))))))))))
  refine bS (fun (i : Nat) => i ≤ z.length) (fun (i : Nat) => z.length - i) (fun (i : Nat) => [(2, cC B2 0), (3, cC B3 0), (4, cC B4 0), (6, Is (.slice (some ⟨B15, 0, none⟩) z.length z.length)), (16, Is (.slice (some ⟨B15, 0, none⟩) z.length z.length)), (17, NT .i64 z.length), (18, NT .i64 i)]) (fun (i : Nat) => [box B2 32 [bB z, bL s], box B3 51 [aD (decide (t.a < 0)), aH t.a.natAbs, aD (decide (t.b < 0)), aH t.b.natAbs, aH (du t)], box B4 34 [Is (.slice none 0 0), Is (.slice none 0 0), Is (.slice none 0 0)], jU dT B15 29 51 5 (bP aI (pR (fun i => tab z.length fun j => t * gm (iG z s) i j) (fun i => tab z.length fun j => gm (iG z s) i j) z.length i))]) 0 (Nat.zero_le _)
   (zS rfl) (aU (fun _ _ _ h=>h) (aU (fun _ _ _ h=>h) (aU (fun _ _ _ h=>h) (aU (bF (by rw [← lT]; exact congrArg _ (sB hOs))) aY)))) (fun i hi=>?_)
  refine ts (ro rfl (gZ (Ht rfl) (Ht rfl)) (eZ (cU (dX (Ht rfl) (fun he2=>?_) (fun he2=>?_)))))
  ·simp only [decide_eq_true_eq] at he2
   refine kE 3 (i) rfl (sX he2) (fun v hv=>(cY (cU (eK (ts (ro rfl (gQ U_30 Z_29 (Ht rfl) (Ht rfl) rfl zo (by rw [Nat.mul_one,Nat.zero_add])) ?_))))))
   refine ro rfl (gI A_29 Z_29 (Ht rfl) (j:=3) rfl) (ra rfl (eZ (ts (rm rfl (ro rfl (sF U_29 (Ht rfl) (i:=4) rfl (show (((tab z.length fun j=>gm (iG z s) i j).map aI).length:Int) = ((z.length:Nat):Int) by rw [List.length_map,aN])) (ro rfl (cZ (cV 0)) (eZ (eK ?_))))))))
   refine bS (fun (j : Nat) => j ≤ z.length) (fun (j : Nat) => z.length - j) (fun (j : Nat) => [(2, cC B2 0), (3, cC B3 0), (4, cC B4 0), (6, Is (.slice (some ⟨B15, 0, none⟩) z.length z.length)), (8, Is v), (16, Is (.slice (some ⟨B15, 0, none⟩) z.length z.length)), (17, NT .i64 z.length), (18, NT .i64 i), (23, NT .i64 z.length), (24, NT .i64 j)]) (fun (j : Nat) => [box B2 32 [bB z, bL s], box B3 51 [aD (decide (t.a < 0)), aH t.a.natAbs, aD (decide (t.b < 0)), aH t.b.natAbs, aH (du t)], box B4 34 [Is (.slice none 0 0), Is (.slice none 0 0), Is (.slice none 0 0)], sL dT B15 29 51 5 (bP aI (pR (fun i => tab z.length fun j => t * gm (iG z s) i j) (fun i => tab z.length fun j => gm (iG z s) i j) z.length i)) i v, cL 51 5 v ((pR (fun j => t * gm (iG z s) i j) (fun j => gm (iG z s) i j) z.length j).map aI)]) 0 (Nat.zero_le _)
    (zS rfl) (aU (fun _ _ _ h=>h) (aU (fun _ _ _ h=>h) (aU (fun _ _ _ h=>h) (aU (fun _ _ _ h=>h) (aU (bO (by rw [← lT])) aY))))) (fun j hj=>?_)
   refine ts (ro rfl (gZ (Ht rfl) (Ht rfl)) (eZ (cU (dX (Ht rfl) (fun hf=>?_) (fun hf=>?_)))))
   ·simp only [decide_eq_true_eq] at hf
    have hrl:=lA (fun j=>t * gm (iG z s) i j) (fun j=>gm (iG z s) i j) z.length j
    haveI f1:aE (gm (iG z s) i j) (201 * L + 301):=hOf.get zo i j
    refine cY (cU (eK (ts (rm rfl (ra rfl (eZ (fJ (m:=10) (dp 8 rfl (cZ (Ht rfl)) (dp 9 rfl (cZ (Ht rfl)) (dp 3 rfl (eW A_51 Z_51 (Ht rfl) (i:=1) rfl rfl rfl) (dq 29 2 rfl (cJ K_98 Hu ⟨(Ht rfl),trivial⟩) (dq 30 3 rfl (bI cD (Ht rfl)) (dp 8 rfl (cZ (Ht rfl)) (dp 9 rfl (cZ (Ht rfl)) (cP 32 5 33 6 rfl (cR U_29 Z_51 (Ht rfl) (Ht rfl) rfl (i:=4) rfl (by simp only [List.length_map,hrl]; omega) rfl) ?_)))))))))))))))
    refine dq 34 7 rfl (oX A_51 Z_51 (Ht rfl) (i:=4) rfl rfl (eQ (tA hf))) (cP 31 4 35 8 rfl (aP dD K_45 (kF zo) (Ht rfl) ⟨(Ht rfl),trivial⟩) (fW aL rfl (by kernel_rfl) (zF (zF (aJ (aJ (aV (ro rfl (cR U_29 Z_51 (Ht rfl) (Ht rfl) rfl (i:=4) rfl (by simp only [List.length_map,hrl]; omega) rfl) ?_))))))))
    refine kV Z_51 (Ht rfl) (Ht rfl) (El.ag rfl) (i:=4) rfl rfl (by simp only [List.length_map,hrl]; omega) rfl ?_
    refine eZ (bC (dQ (ro rfl (dW (Ht rfl) (cV 1) z6) (rm rfl (eZ (fY (j + 1) hf zo (zS rfl) (aU (fun _ _ _ h=>h) (aU (fun _ _ _ h=>h) (aU (fun _ _ _ h=>h) (aU (fun _ _ _ h=>h) (aU (bO (by rw [eN,← mE (f:=fun j=>t * gm (iG z s) i j)])) aY)))))))))))
   ·simp only [decide_eq_false_iff_not] at hf
    obtain rfl:j = z.length:=Nat.le_antisymm hj zo
    refine gW rfl (bC (dL 3 4 rfl rfl (by decide) (by simp only [bP,List.length_map,lA]; omega) ?_))
    refine dQ (ro rfl (dW (Ht rfl) (cV 1) z6) (rm rfl (eZ (bR [0,1,2,3] rfl (by decide) (fY (i + 1) he2 zo (zS rfl) (aU (fun _ _ _ h=>h) (aU (fun _ _ _ h=>h) (aU (fun _ _ _ h=>h) (aU (bF (by rw [eE,nA,← mE (f:=(fun i=>tab z.length fun j=>t * gm (iG z s) i j))])) aY)))))))))
  ·simp only [decide_eq_false_iff_not] at he2
   obtain rfl:i = z.length:=Nat.le_antisymm hi zo
   rw [nA]
   refine gW rfl (cU (gV (i:=3) (tt:=6) rfl rfl (fL (s:=5) (M:=(kR t (iG z s) z.length)) oK.1.symm) (dQ (ro rfl (eW A_32 Z_32 (Ht rfl) (i:=0) rfl rfl rfl) (rm rfl (ro rfl (oQ (Ht rfl) (Ht rfl)) (gX Z_34 (Ht rfl) (Ht rfl) rfl (i:=2) rfl (aK rfl) rfl rfl (ro rfl (cX (cV 0)) (eZ (bM rfl (fZ (fU A_34 Z_34 rfl (i:=2) rfl rfl) ?_) (fZ (eY rfl) ?_)))))))))))
   ·exact (a1H he)
   ·exact (aS he.symm)
end
section
open Go Go.RowKit
theorem Mm {n : Nat} {E : dI} {H : Hp} {d : Option Tmp} {t : TypeId} {pos : String} {af : Array Edge} {g : Option (Nat × Bool)}  :
  aM Tryz.prog n E H ⟨d,.build 102 #[],t,pos,af,g⟩ (fE [Is (.int .i64 0),Is (.int .i64 0),Is (.int .i64 0)]) :=
 gL (parts := []) fun a V w hs => by
  refine ⟨.agg #[(.int .i64 0),(.int .i64 0),(.int .i64 0)],?_,[(.int .i64 0),(.int .i64 0),(.int .i64 0)],rfl,aW (⟨rfl,trivial⟩) (aW (⟨rfl,trivial⟩) (aW (⟨rfl,trivial⟩) (aG)))⟩
  simp [Instr.build,Instr.fill,Sem.run_bind,Result.andThen,fD,O_102,U_102,Z_2]
theorem If {n : Nat} {E : dI} {H : Hp} {d : Option Tmp} {t : TypeId} {pos : String} {af : Array Edge} {g : Option (Nat × Bool)} {x0 : Operand} {T0 : Ty} [s0 : eI T0 1 false] (h0 : bT E x0 T0) :
  aM Tryz.prog n E H ⟨d,.build 102 #[(0,x0)],t,pos,af,g⟩ (fE [T0,Is (.int .i64 0),Is (.int .i64 0)]) :=
 gL (parts := [(0, x0)]) fun a V w hs => by
  have p0:=h0 n V a hs
  generalize e0:a.eval x0 = v0 at p0
  have q0:=(s0.ok v0 V p0).2.2 rfl
  refine ⟨.agg #[v0,(.int .i64 0),(.int .i64 0)],?_,[v0,(.int .i64 0),(.int .i64 0)],rfl,aW (⟨p0,q0⟩) (aW (⟨rfl,trivial⟩) (aW (⟨rfl,trivial⟩) (aG)))⟩
  simp [e0,Instr.build,Instr.fill,Sem.run_bind,Result.andThen,fD,q0.cells,O_102,U_102,Z_2]
theorem Mn {n : Nat} {E : dI} {H : Hp} {d : Option Tmp} {t : TypeId} {pos : String} {af : Array Edge} {g : Option (Nat × Bool)} {x0 x2 : Operand} {T0 T2 : Ty} [s0 : eI T0 1 false] (h0 : bT E x0 T0) [s2 : eI T2 1 false] (h2 : bT E x2 T2) :
  aM Tryz.prog n E H ⟨d,.build 102 #[(0,x0),(2,x2)],t,pos,af,g⟩ (fE [T0,Is (.int .i64 0),T2]) :=
 gL (parts := [(0, x0), (2, x2)]) fun a V w hs => by
  have p0:=h0 n V a hs
  generalize e0:a.eval x0 = v0 at p0
  have q0:=(s0.ok v0 V p0).2.2 rfl
  have p2:=h2 n V a hs
  generalize e2:a.eval x2 = v2 at p2
  have q2:=(s2.ok v2 V p2).2.2 rfl
  refine ⟨.agg #[v0,(.int .i64 0),v2],?_,[v0,(.int .i64 0),v2],rfl,aW (⟨p0,q0⟩) (aW (⟨rfl,trivial⟩) (aW (⟨p2,q2⟩) (aG)))⟩
  simp [e0,e2,Instr.build,Instr.fill,Sem.run_bind,Result.andThen,fD,q0.cells,q2.cells,O_102,U_102,Z_2]
end
section
open Go Go.RowKit
theorem tN  : bE Tryz.prog 16 [] (aD true):=by
 refine bE.intro Tryz.func16 rfl Tryz.ntmps16 rfl (fun cx=>(ts (ro rfl (cX cW) (eZ (ts (ro rfl (Mn cW cW) (rn rfl (eG (Ts:=[Is (.int .i64 0),Is (.int .i64 0),Is (.int .i64 0)]) O_102 rfl (fun V=>aW zd (aW zd (aW zd (aG))))) fun B1=>(gX Z_102 (Ht rfl) (Ht rfl) rfl (i:=0) rfl (aK rfl) rfl rfl (eZ (cU (Y.D_start (m:=18) [] (cQ (Ei:=[]) rfl rfl bX rfl rfl (dZ rfl (If cW)) (cQ (Ei:=[]) rfl rfl bX rfl rfl (dZ rfl (If cW)) ?_)))))))))))))
 refine cQ (Ei:=[(12,_),(13,_)]) rfl rfl (bQ (bZ 0 rfl rfl) (bQ (bZ 1 rfl rfl) bX)) rfl rfl (dZ rfl (dB (xs:=[.tmp 12,.tmp 13]) U_22 Z_102 O_102 (cG (Ht rfl) (cG (Ht rfl) cK)) rfl rfl rfl)) (cQ (Ei:=[(14,_)]) rfl rfl (bQ (bZ 2 rfl rfl) bX) rfl rfl (dZ rfl (cJ K_48 (qM (l:=[r50,r50]) (by decide)) ⟨(Ht rfl),trivial⟩)) (cQ (Ei:=[]) rfl rfl bX rfl rfl (dZ rfl (Mm )) (cQ (Ei:=[(1,_)]) rfl rfl (bQ (bJ rfl rfl) bX) rfl rfl (dZ rfl (eW A_102 Z_102 (Ht rfl) (i:=0) rfl rfl rfl)) ?_)))
 refine cQ (Ei:=[(16,_),(17,_)]) rfl rfl (bQ (bZ 4 rfl rfl) (bQ (bZ 5 rfl rfl) bX)) rfl rfl (dZ rfl (dB (xs:=[.tmp 16,.tmp 17]) U_22 Z_102 O_102 (cG (Ht rfl) (cG (Ht rfl) cK)) rfl rfl rfl)) (cQ (Ei:=[(1,_)]) rfl rfl (bQ (bJ rfl rfl) bX) rfl rfl (dZ rfl (eW A_102 Z_102 (Ht rfl) (i:=0) rfl rfl rfl)) (cQ (Ei:=[]) rfl rfl bX rfl rfl (dZ rfl (Mm )) (cQ (Ei:=[(19,_),(20,_)]) rfl rfl (bQ (bZ 7 rfl rfl) (bQ (bZ 8 rfl rfl) bX)) rfl rfl (dZ rfl (dB (xs:=[.tmp 19,.tmp 20]) U_22 Z_102 O_102 (cG (Ht rfl) (cG (Ht rfl) cK)) rfl rfl rfl)) ?_)))
 refine cQ (Ei:=[(18,_),(21,_)]) rfl rfl (bQ (bZ 6 rfl rfl) (bQ (bZ 9 rfl rfl) bX)) rfl rfl (dZ rfl (dB (xs:=[.tmp 18,.tmp 21]) U_23 Z_22 Tryz.zeroValue22 (cG (Ht rfl) (cG (Ht rfl) cK)) rfl rfl rfl)) (cQ (Ei:=[(22,_)]) rfl rfl (bQ (bZ 10 rfl rfl) bX) rfl rfl (dZ rfl (cJ Tryz.call86 (Bh (m:=[[a49,Wg],[Wg,a49]]) (by decide) (by intro r hr; simp at hr; rcases hr with rfl | rfl <;> decide)) ⟨(Ht rfl),trivial⟩)) ?_)
 refine cQ (Ei:=[(15,_),(23,_)]) rfl rfl (bQ (bZ 3 rfl rfl) (bQ (bZ 11 rfl rfl) bX)) rfl rfl (dZ rfl (cJ Tryz.call85 (eX (Mu (z:=Be) (s:=Hl) (L:=2) Tk (by decide) (by decide) (by decide)) a5v) ⟨(Ht rfl),(Ht rfl),trivial⟩)) (cQ (Ei:=[(24,_)]) rfl rfl (bQ (bZ 12 rfl rfl) bX) rfl rfl (dZ rfl (cZ (Ht rfl))) (cQ (Ei:=[(11,_)]) rfl rfl (bQ (bZ 13 rfl rfl) bX) rfl rfl (dZ rfl (dU (Ht rfl) rfl)) (cQ (Ei:=[(11,_)]) rfl rfl (bQ (bZ 13 rfl rfl) bX) rfl rfl (dZ rfl (dU (Ht rfl) rfl)) ?_)))
 refine Y.D_newp (Ei:=[]) (fun bb=>box bb 32 [bB Be,bL Hl]) 17 rfl rfl rfl bX rfl rfl (by kernel_rfl) (eG (Ts:=[Is (.slice none 0 0),Is (.slice none 0 0)]) O_32 rfl (fun V=>aW zd (aW zd (aG)))) (Y.D_putN (Ei:=[(25,_)]) 16 rfl rfl rfl rfl rfl rfl (bQ (bZ 14 rfl rfl) bX) (fun bb=>kQ Z_32 (Ht rfl) (Ht rfl) rfl (i:=0) rfl (aK rfl) rfl rfl) (Y.D_done aL rfl (by kernel_rfl) rfl (by simp [Y.okP]) rfl rfl (bU (bU (bU (bU (bU (bU (bU (bU (bU (bU (bU (bU (bU (bU (bU (bU (Y.F_newp (fun B2=>Y.F_putN (Y.F_nil ?_)))))))))))))))))))))
 refine ra rfl (eZ (cU (Y.D_start (m:=8) [] (cQ (Ei:=[(2,_)]) rfl rfl (bQ (bJ rfl rfl) bX) rfl rfl (dZ rfl (eW A_32 Z_32 (Ht rfl) (i:=1) rfl rfl rfl)) (cQ (Ei:=[]) rfl rfl bX rfl rfl (dZ rfl (cJ K_77 (qD (n:=290) (by decide) (by decide)) ⟨(cV 290),trivial⟩)) (cQ (Ei:=[(28,_),(29,_)]) rfl rfl (bQ (bZ 0 rfl rfl) (bQ (bZ 1 rfl rfl) bX)) rfl rfl (dZ rfl (cJ Tryz.call57 (eX (a4O (z:=Be) (s:=Hl) (t:=Qi.ofInt 290) (L:=2) Tk a08 a09 (by decide) (by decide) a0a (by decide) (by decide)) a5w) ⟨(Ht rfl),(Ht rfl),trivial⟩)) ?_))))))
 refine cQ (Ei:=[(30,_)]) rfl rfl (bQ (bZ 2 rfl rfl) bX) rfl rfl (dZ rfl (cZ (Ht rfl))) (cQ (Ei:=[(27,_)]) rfl rfl (bQ (bZ 3 rfl rfl) bX) rfl rfl (dZ rfl (dU (Ht rfl) rfl)) (cQ (Ei:=[(27,_)]) rfl rfl (bQ (bZ 3 rfl rfl) bX) rfl rfl (dZ rfl (dU (Ht rfl) rfl)) (Y.D_newp (Ei:=[]) (fun bb=>box bb 34 [bB Be,bL Hl,bL Ie]) 7 rfl rfl rfl bX rfl rfl (by kernel_rfl) (eG (Ts:=[Is (.slice none 0 0),Is (.slice none 0 0),Is (.slice none 0 0)]) O_34 rfl (fun V=>aW zd (aW zd (aW zd (aG))))) ?_)))
 refine Y.D_putN (Ei:=[(31,_)]) 6 rfl rfl rfl rfl rfl rfl (bQ (bZ 4 rfl rfl) bX) (fun bb=>kQ Z_34 (Ht rfl) (Ht rfl) rfl (i:=0) rfl (aK rfl) rfl rfl) (Y.D_done aL rfl (by kernel_rfl) rfl (by simp [Y.okP]) rfl rfl (bU (bU (bU (bU (bU (bU (Y.F_newp (fun B4=>Y.F_putN (Y.F_nil ?_))))))))))
 refine ra rfl (eZ (ts (ro rfl (eW A_34 Z_34 (Ht rfl) (i:=2) rfl rfl rfl) (ro rfl (cJ Tryz.call87 (eX (Tz (z:=Be) (s:=Hl) (c:=Ie) (i:=((2:Nat):Int)) (j:=((2:Nat):Int)) a5t (by rw [Tj.1]; decide)) a7d) ⟨(Ht rfl),(cV 2),(cV 2),trivial⟩) ?_))))
 refine rm rfl (ro rfl (dU (Ht rfl) rfl) (ro rfl (dU (Ht rfl) rfl) (rn rfl (eG (Ts:=[Is (.bool false),Is (.slice none 0 0),Is (.bool false),Is (.slice none 0 0),Is (.slice none 0 0)]) O_51 rfl (fun V=>aW zd (aW zd (aW zd (aW zd (aW zd (aG))))))) fun B6=>(gX Z_51 (Ht rfl) (Ht rfl) rfl (i:=3) rfl (aK rfl) rfl rfl (ra rfl (eZ (cU (Y.D_start (m:=9) [] (cQ (Ei:=[(4,_)]) rfl rfl (bQ (bJ rfl rfl) bX) rfl rfl (dZ rfl (eW A_34 Z_34 (Ht rfl) (i:=2) rfl rfl rfl)) ?_)))))))))
 refine cQ (Ei:=[]) rfl rfl bX rfl rfl (dZ rfl (cJ K_77 (qD (n:=0) (by decide) (by decide)) ⟨(cV 0),trivial⟩)) (cQ (Ei:=[]) rfl rfl bX rfl rfl (dZ rfl (cJ K_77 (qD (n:=290) (by decide) (by decide)) ⟨(cV 290),trivial⟩)) (cQ (Ei:=[(39,_),(40,_),(41,_)]) rfl rfl (bQ (bZ 0 rfl rfl) (bQ (bZ 1 rfl rfl) (bQ (bZ 2 rfl rfl) bX))) rfl rfl (dZ rfl (cJ Tryz.call88 (eX (a0i (z:=Be) (s:=Hl) (c:=Ie) (g:=Qi.ofInt 0) (t0:=Qi.ofInt 290) (L:=1000) (Tk.le (by decide)) (a08.le (by decide)) a7f (a7e.le (by decide)) (a09.le (by decide)) (by decide) (by decide) a0a Tj (by decide)) a5u) ⟨(Ht rfl),(Ht rfl),(Ht rfl),trivial⟩)) ?_))
 refine cQ (Ei:=[(42,_)]) rfl rfl (bQ (bZ 3 rfl rfl) bX) rfl rfl (dZ rfl (cZ (Ht rfl))) (cQ (Ei:=[(38,_)]) rfl rfl (bQ (bZ 4 rfl rfl) bX) rfl rfl (dZ rfl (dU (Ht rfl) rfl)) (cQ (Ei:=[(38,_)]) rfl rfl (bQ (bZ 4 rfl rfl) bX) rfl rfl (dZ rfl (dU (Ht rfl) rfl)) (Y.D_newp (Ei:=[]) (fun bb=>box bb 51 [aD (decide ((Qi.ofInt 4).a < 0)),aH (Qi.ofInt 4).a.natAbs,aD (decide ((Qi.ofInt 4).b < 0)),aH (Qi.ofInt 4).b.natAbs,aH (du (Qi.ofInt 4))]) 8 rfl rfl rfl bX rfl rfl (by kernel_rfl) (eG (Ts:=[Is (.bool false),Is (.slice none 0 0),Is (.bool false),Is (.slice none 0 0),Is (.slice none 0 0)]) O_51 rfl (fun V=>aW zd (aW zd (aW zd (aW zd (aW zd (aG))))))) ?_)))
 refine Y.D_putN (Ei:=[(43,_)]) 7 rfl rfl rfl rfl rfl rfl (bQ (bZ 5 rfl rfl) bX) (fun bb=>kQ Z_51 (Ht rfl) (Ht rfl) rfl (i:=0) rfl (aK rfl) rfl rfl) (Y.D_done aL rfl (by kernel_rfl) rfl (by simp [Y.okP]) rfl rfl (bU (bU (bU (bU (bU (bU (bU (Y.F_newp (fun B8=>Y.F_putN (Y.F_nil ?_)))))))))))
 refine ra rfl (eZ (ts (rm rfl (ro rfl (kN (Ht rfl) cW) (rm rfl (fX rfl rfl (eU rfl rfl (Ht rfl) (fun h=>cZ (Ht rfl))) (fX rfl rfl (eU rfl rfl (Ht rfl) (fun h=>kN (fV rfl h) cW)) (ro rfl (fC (Ht rfl) (fun h=>(fV rfl h))) (rm rfl (fX rfl rfl (eU rfl rfl (Ht rfl) (fun h=>cZ (Ht rfl))) (fX rfl rfl (eU rfl rfl (Ht rfl) (fun h=>kN (fV rfl h) cW)) (ro rfl (fC (Ht rfl) (fun h=>(fV rfl h))) (rm rfl (fX rfl rfl (eU rfl rfl (Ht rfl) (fun h=>cZ (Ht rfl))) (fX rfl rfl (eU rfl rfl (Ht rfl) (fun h=>kN (fV rfl h) cW)) ?_)))))))))))))))
 refine ro rfl (fC (Ht rfl) (fun h=>(fV rfl h))) (rm rfl (fX rfl rfl (eU rfl rfl (Ht rfl) (fun h=>eW A_51 Z_51 (Ht rfl) (i:=3) rfl rfl rfl)) (fX rfl rfl (eU rfl rfl (Ht rfl) (fun h=>cJ Tryz.call89 (Qx (x:=Qi.ofInt 10875) (L:=2) (hx:=(@fitInt 10875).le (by decide)) (by decide)) ⟨(fV rfl h),trivial⟩)) (fX rfl rfl (eU rfl rfl (Ht rfl) (fun h=>Sd (fV rfl h) (bT.cS (l:=[49,48,56,55,53]) rfl))) (ro rfl (fC (Ht rfl) (fun h=>(fV rfl h))) (rm rfl (fX rfl rfl (eU rfl rfl (Ht rfl) (fun h=>eW A_51 Z_51 (Ht rfl) (i:=4) rfl rfl rfl)) ?_)))))))
 refine fX rfl rfl (eU rfl rfl (Ht rfl) (fun h=>cJ Tryz.call89 (Qx (x:=Qi.ofInt 4) (L:=2) (hx:=(@fitInt 4).le (by decide)) (by decide)) ⟨(fV rfl h),trivial⟩)) (fX rfl rfl (eU rfl rfl (Ht rfl) (fun h=>Sd (fV rfl h) (bT.cS (l:=[52]) rfl))) (ro rfl (fC (Ht rfl) (fun h=>(fV rfl h))) (ra rfl (eZ (fG rfl (fZ (eY rfl) ?_))))))
 exact (dN (by rw [a7g,a7h]; rfl))
end
section
open Go Go.RowKit
theorem xG (a:Addr) (w:World):(Instr.fieldAt 40 (.pointer (some a)) 0).run Tryz.prog w = .ok (.pointer (some (a.add 0))) w:=by
 simp [Instr.fieldAt,Instr.sureAddr,fieldPlace,Sem.run_bind,Result.andThen,U_40,Z_38]
theorem Aa (a:Addr) (w:World):(Instr.fieldAt 40 (.pointer (some a)) 1).run Tryz.prog w = .ok (.pointer (some (a.add 2))) w:=by
 simp [Instr.fieldAt,Instr.sureAddr,fieldPlace,Sem.run_bind,Result.andThen,U_40,Z_36]
end
section
open Go Go.RowKit
theorem a6c {z:List Qi} {i:Nat} (h:i < z.length):∀ v V,(eS [aI (Yp z ((i + 1:Nat):Int)),aT .i64 (if 1 ≤ ((i + 1:Nat):Int) ∧ ((i + 1:Nat):Int) ≤ z.length then 0 else 1)]).p v V → (eS [aI (gv z i),aT .i64 0]).p v V:=by
 rw [show Yp z ((i + 1:Nat):Int) = gv z i from Ls h,if_pos zo]; exact fun _ _ h=>h
theorem a50 {n:Nat} {s:List (List Qi)} {i j:Nat} (h:i < n) (k:j < n):∀ v V,(eS [aI (Yo n s ((i + 1:Nat):Int) ((j + 1:Nat):Int)),aT .i64 (if (1 ≤ ((i + 1:Nat):Int) ∧ ((i + 1:Nat):Int) ≤ n) ∧ 1 ≤ ((j + 1:Nat):Int) ∧ ((j + 1:Nat):Int) ≤ n then 0 else 1)]).p v V → (eS [aI (gm s i j),aT .i64 0]).p v V:=by
 rw [show Yo n s ((i + 1:Nat):Int) ((j + 1:Nat):Int) = gm s i j from a1L h k,if_pos zo]; exact fun _ _ h=>h
theorem a7o {z:List Qi} {s c:List (List Qi)} {L:Nat} (hz:cB z L) (hs:bA s L) (hc:bA c L) (hL1:1 ≤ L) (hL:L ≤ 8796093022208) (hsh:cI s z.length z.length) (hch:cI c z.length z.length) (hl:z.length ≤ 1000):bE Tryz.prog 20 [fP z s c,pG z s c] (aD true):=by
 have hcl:=hch.1
 have hch2:cI c c.length c.length:=by rw [hcl]; exact hch
 refine bE.intro Tryz.func20 rfl Tryz.ntmps20 rfl (fun cx=>(ts (rn rfl (fK (Ht rfl)) fun B2=>(rn rfl (fK (Ht rfl)) fun B3=>(ro rfl (cX cW) (eZ (ts (ro rfl (eW A_34 Z_34 (Ht rfl) (i:=0) rfl rfl rfl) (ro rfl (cJ K_51 pO ⟨(Ht rfl),trivial⟩) (rn rfl (eG (Ts:=[Is (.slice none 0 0),Is (.slice none 0 0)]) O_32 rfl (fun V=>aW zd (aW zd (aG)))) fun B5=>(gX Z_32 (Ht rfl) (Ht rfl) rfl (i:=2) rfl (aK rfl) rfl rfl (eZ ?_))))))))))))
 refine cU (cU (fJ (m:=15) (dp 5 rfl (eW A_32 Z_32 (Ht rfl) (i:=2) rfl rfl rfl) (dq 16 0 rfl (cJ K_22 oB ⟨(Ht rfl),trivial⟩) (dp 3 rfl (eJ xG (Ht rfl) rfl) (dq 18 2 rfl (eJ rW (Ht rfl) rfl) (dq 19 3 rfl (fQ A_35 Z_35 (Ht rfl) (i:=1) rfl rfl) (dq 20 4 rfl (dK U_35 (Ht rfl) aA) (cP 17 1 21 5 rfl (fB (Ht rfl) (Ht rfl)) (dq 22 6 rfl (cZ (Ht rfl)) (C.D_step (Ei:=[(3,_),(23,_)]) rfl rfl (bV (bK rfl rfl) (bV (bG 7 rfl rfl) bW)) (eU rfl rfl (Ht rfl) (fun h=>eJ Aa (Ht rfl) rfl)) ?_)))))))))))
 refine C.D_step (Ei:=[(24,_),(23,_)]) rfl rfl (bV (bG 8 rfl rfl) (bV (bG 7 rfl rfl) bW)) (eU rfl rfl (Ht rfl) (fun h=>fQ A_36 Z_36 (fV rfl h) (i:=1) rfl rfl)) (C.D_step (Ei:=[(25,_),(23,_)]) rfl rfl (bV (bG 9 rfl rfl) (bV (bG 7 rfl rfl) bW)) (eU rfl rfl (Ht rfl) (fun h=>dK U_36 (fV rfl h) aA)) (C.D_step (Ei:=[(3,_),(23,_)]) rfl rfl (bV (bK rfl rfl) (bV (bG 7 rfl rfl) bW)) (eU rfl rfl (Ht rfl) (fun h=>eJ xG (Ht rfl) rfl)) ?_))
 refine C.D_step (Ei:=[(27,_),(23,_)]) rfl rfl (bV (bG 11 rfl rfl) (bV (bG 7 rfl rfl) bW)) (eU rfl rfl (Ht rfl) (fun h=>eJ rW (fV rfl h) rfl)) (C.D_step (Ei:=[(28,_),(23,_)]) rfl rfl (bV (bG 12 rfl rfl) (bV (bG 7 rfl rfl) bW)) (eU rfl rfl (Ht rfl) (fun h=>fQ A_35 Z_35 (fV rfl h) (i:=1) rfl rfl)) (C.D_step (Ei:=[(29,_),(23,_)]) rfl rfl (bV (bG 13 rfl rfl) (bV (bG 7 rfl rfl) bW)) (eU rfl rfl (Ht rfl) (fun h=>dK U_35 (fV rfl h) aA)) ?_))
 refine fW aL rfl (by kernel_rfl) (zF (zF (zF (aJ (aJ (aJ (aV (fX rfl rfl (eU rfl rfl (Ht rfl) (fun h=>fB (fV rfl h) (fV rfl h))) (ro rfl (gN (Ht rfl) (fun h=>(fV rfl h))) (eZ (iA (Ht rfl) (by simp [hcl]) ?_)))))))))))
 refine cY (cU (ts (ro rfl (eJ Aa (Ht rfl) rfl) (ro rfl (fQ A_36 Z_36 (Ht rfl) (i:=1) rfl rfl) (ro rfl (dK U_36 (Ht rfl) aA) (ro rfl (cZ (cV 0)) (eZ (eK ?_))))))))
 refine bS (fun (i : Nat) => i ≤ z.length) (fun (i : Nat) => z.length - i) (fun (i : Nat) => [(2, cC B2 0), (3, cC B3 0), (5, cC B5 0), (35, NT .i64 z.length), (36, NT .i64 i)]) (fun (i : Nat) => [box B2 34 [bB z, bL s, bL c], box B3 40 [tJ z, QM s, QM c], box B5 32 [bB z, bL s]]) 0 (Nat.zero_le _)
  (aQ rfl (aQ rfl (aQ rfl (aZ rfl (lO hcl) (zS rfl))))) (dE.refl _) (fun i hi=>?_)
 refine ts (ro rfl (gZ (Ht rfl) (Ht rfl)) (eZ (cU (dX (Ht rfl) (fun hd=>?_) (fun hd=>?_)))))
 ·simp only [decide_eq_true_eq] at hd
  haveI f1:aE (gv z i) L:=hz.get hL1 i
  refine cY (cU (eK (ts (rm rfl (ra rfl (eZ (ts (ro rfl (eW A_32 Z_32 (Ht rfl) (i:=2) rfl rfl rfl) (rm rfl (ro rfl (dW (Ht rfl) (cV 1) z6) (ro rfl (cJ Tryz.call23 (eX (Tv (z:=z) (s:=s) (i:=((i + 1:Nat):Int)) zo) (a6c hd)) ⟨(Ht rfl),(Ht rfl),trivial⟩) (rm rfl (ro rfl (dU (Ht rfl) rfl) (ro rfl (dU (Ht rfl) rfl) (rn rfl (eG (Ts:=[Is (.bool false),Is (.slice none 0 0),Is (.bool false),Is (.slice none 0 0),Is (.slice none 0 0)]) O_51 rfl (fun V=>aW zd (aW zd (aW zd (aW zd (aW zd (aG))))))) fun B7=>?_)))))))))))))))
  refine gX Z_51 (Ht rfl) (Ht rfl) rfl (i:=3) rfl (aK rfl) rfl rfl (ra rfl (eZ (cU (cU (fJ (m:=10) (dp 8 rfl (cZ (Ht rfl)) (dq 46 0 rfl (iR (Ht rfl) cW) (dq 47 1 rfl (cZ (Ht rfl)) (C.D_step (Ei:=[(7,_),(48,_)]) rfl rfl (bV (bK rfl rfl) (bV (bG 2 rfl rfl) bW)) (eU rfl rfl (Ht rfl) (fun h=>eW A_51 Z_51 (Ht rfl) (i:=3) rfl rfl rfl)) (C.D_step (Ei:=[(3,_),(48,_)]) rfl rfl (bV (bK rfl rfl) (bV (bG 2 rfl rfl) bW)) (eU rfl rfl (Ht rfl) (fun h=>eJ xG (Ht rfl) rfl)) ?_))))))))))
  refine C.D_step (Ei:=[(50,_),(48,_)]) rfl rfl (bV (bG 4 rfl rfl) (bV (bG 2 rfl rfl) bW)) (eU rfl rfl (Ht rfl) (fun h=>eJ rW (fV rfl h) rfl)) (C.D_step (Ei:=[(51,_),(48,_)]) rfl rfl (bV (bG 5 rfl rfl) (bV (bG 2 rfl rfl) bW)) (eU rfl rfl (Ht rfl) (fun h=>fQ A_35 Z_35 (fV rfl h) (i:=1) rfl rfl)) (C.D_step (Ei:=[(6,_),(48,_)]) rfl rfl (bV (bK rfl rfl) (bV (bG 2 rfl rfl) bW)) (eU rfl rfl (Ht rfl) (fun h=>cZ (Ht rfl))) ?_))
  refine C.D_step (Ei:=[(52,_),(53,_),(48,_)]) rfl rfl (bV (bG 6 rfl rfl) (bV (bG 7 rfl rfl) (bV (bG 2 rfl rfl) bW))) (eU rfl rfl (Ht rfl) (fun h=>dJ U_35 Z_131 (fV rfl h) (fV rfl h) rfl (eQ (dY (d:=Qi.zero) (by first | omega | (simp at h; omega)))))) (C.D_step (Ei:=[(54,_),(48,_)]) rfl rfl (bV (bG 8 rfl rfl) (bV (bG 2 rfl rfl) bW)) (eU rfl rfl (Ht rfl) (fun h=>dV A_131 Z_131 (fV rfl h))) (fW aL rfl (by kernel_rfl) (zF (zF (aJ (aJ (aV ?_)))))))
  refine fX rfl rfl (eU rfl rfl (Ht rfl) (fun h=>cJ Tryz.call80 (Kh (x:=gv z i) (y:=gv z i) (L:=L) (M:=L) hL hL) ⟨(fV rfl h),(fV rfl h),trivial⟩)) (fX rfl rfl (eU rfl rfl (Ht rfl) (fun h=>dR (fV rfl h))) (ro rfl (gN (Ht rfl) (fun h=>(fV rfl h))) (eZ (iA (Ht rfl) (by simp) ?_))))
  refine cY (ts (ro rfl (eJ Aa (Ht rfl) rfl) (ro rfl (fQ A_36 Z_36 (Ht rfl) (i:=1) rfl rfl) (ro rfl (dK U_36 (Ht rfl) aA) (ro rfl (cZ (cV 0)) (eZ (eK (bR [0,1,2] rfl (by decide) ?_))))))))
  refine bS (fun (j : Nat) => j ≤ z.length) (fun (j : Nat) => z.length - j) (fun (j : Nat) => [(2, cC B2 0), (3, cC B3 0), (5, cC B5 0), (6, NT .i64 i), (35, NT .i64 z.length), (36, NT .i64 i), (61, NT .i64 z.length), (62, NT .i64 j)]) (fun (j : Nat) => [box B2 34 [bB z, bL s, bL c], box B3 40 [tJ z, QM s, QM c], box B5 32 [bB z, bL s]]) 0 (Nat.zero_le _)
   (aQ rfl (aQ rfl (aQ rfl (aQ rfl (aQ rfl (aQ rfl (aZ rfl (lO hcl) (zS rfl)))))))) (dE.refl _) (fun j hj=>?_)
  refine ts (ro rfl (gZ (Ht rfl) (Ht rfl)) (eZ (cU (dX (Ht rfl) (fun hf=>?_) (fun hf=>?_)))))
  ·simp only [decide_eq_true_eq] at hf
   haveI f2:aE (gm s i j) L:=hs.get hL1 i j
   haveI f3:aE (gm c i j) L:=hc.get hL1 i j
   have hsr:=hsh.row hd
   have hcr:=hch.row hd
   have hs1:=hsh.1
   refine cY (cU (eK (ts (rm rfl (ra rfl (eZ (ts (ro rfl (eW A_32 Z_32 (Ht rfl) (i:=2) rfl rfl rfl) (rm rfl (ro rfl (dW (Ht rfl) (cV 1) z6) (rm rfl (ro rfl (dW (Ht rfl) (cV 1) z6) (ro rfl (cJ Tryz.call25 (eX (a7l (z:=z) (s:=s) (i:=((i + 1:Nat):Int)) (j:=((j + 1:Nat):Int)) hsh zo) (a50 hd hf)) ⟨(Ht rfl),(Ht rfl),(Ht rfl),trivial⟩) (rm rfl (ro rfl (dU (Ht rfl) rfl) ?_)))))))))))))))
   refine ro rfl (dU (Ht rfl) rfl) (rn rfl (eG (Ts:=[Is (.bool false),Is (.slice none 0 0),Is (.bool false),Is (.slice none 0 0),Is (.slice none 0 0)]) O_51 rfl (fun V=>aW zd (aW zd (aW zd (aW zd (aW zd (aG))))))) fun B10=>(gX Z_51 (Ht rfl) (Ht rfl) rfl (i:=3) rfl (aK rfl) rfl rfl (ra rfl (eZ (ts (ro rfl (eW A_34 Z_34 (Ht rfl) (i:=0) rfl rfl rfl) (rm rfl (ro rfl (dW (Ht rfl) (cV 1) z6) ?_))))))))
   refine rm rfl (ro rfl (dW (Ht rfl) (cV 1) z6) (ro rfl (cJ Tryz.call87 (eX (Tz (z:=z) (s:=s) (c:=c) (i:=((i + 1:Nat):Int)) (j:=((j + 1:Nat):Int)) hch2 zo) (a50 zo zo)) ⟨(Ht rfl),(Ht rfl),(Ht rfl),trivial⟩) (rm rfl (ro rfl (dU (Ht rfl) rfl) (ro rfl (dU (Ht rfl) rfl) (rn rfl (eG (Ts:=[Is (.bool false),Is (.slice none 0 0),Is (.bool false),Is (.slice none 0 0),Is (.slice none 0 0)]) O_51 rfl (fun V=>aW zd (aW zd (aW zd (aW zd (aW zd (aG))))))) fun B12=>?_))))))
   refine gX Z_51 (Ht rfl) (Ht rfl) rfl (i:=4) rfl (aK rfl) rfl rfl (ra rfl (eZ (cU (fJ (m:=30) (dp 11 rfl (cZ (Ht rfl)) (dq 83 0 rfl (iR (Ht rfl) cW) (dq 84 1 rfl (cZ (Ht rfl)) (C.D_step (Ei:=[(13,_),(85,_)]) rfl rfl (bV (bK rfl rfl) (bV (bG 2 rfl rfl) bW)) (eU rfl rfl (Ht rfl) (fun h=>cZ (Ht rfl))) (C.D_step (Ei:=[(86,_),(85,_)]) rfl rfl (bV (bG 3 rfl rfl) (bV (bG 2 rfl rfl) bW)) (eU rfl rfl (Ht rfl) (fun h=>iR (fV rfl h) cW)) ?_)))))))))
   refine cP 85 2 87 4 rfl (gN (Ht rfl) (fun h=>(fV rfl h))) (dq 88 5 rfl (cZ (Ht rfl)) (C.D_step (Ei:=[(10,_),(89,_)]) rfl rfl (bV (bK rfl rfl) (bV (bG 6 rfl rfl) bW)) (eU rfl rfl (Ht rfl) (fun h=>eW A_51 Z_51 (Ht rfl) (i:=3) rfl rfl rfl)) (C.D_step (Ei:=[(3,_),(89,_)]) rfl rfl (bV (bK rfl rfl) (bV (bG 6 rfl rfl) bW)) (eU rfl rfl (Ht rfl) (fun h=>eJ xG (Ht rfl) rfl)) (C.D_step (Ei:=[(91,_),(89,_)]) rfl rfl (bV (bG 8 rfl rfl) (bV (bG 6 rfl rfl) bW)) (eU rfl rfl (Ht rfl) (fun h=>eJ Dn (fV rfl h) rfl)) ?_))))
   refine C.D_step (Ei:=[(92,_),(89,_)]) rfl rfl (bV (bG 9 rfl rfl) (bV (bG 6 rfl rfl) bW)) (eU rfl rfl (Ht rfl) (fun h=>fQ A_36 Z_36 (fV rfl h) (i:=1) rfl rfl)) (C.D_step (Ei:=[(6,_),(89,_)]) rfl rfl (bV (bK rfl rfl) (bV (bG 6 rfl rfl) bW)) (eU rfl rfl (Ht rfl) (fun h=>cZ (Ht rfl))) (C.D_step (Ei:=[(93,_),(94,_),(89,_)]) rfl rfl (bV (bG 10 rfl rfl) (bV (bG 11 rfl rfl) (bV (bG 6 rfl rfl) bW))) (eU rfl rfl (Ht rfl) (fun h=>dJ U_36 Z_35 (fV rfl h) (fV rfl h) rfl (eQ (dY (d:=[]) zo)))) ?_))
   refine C.D_step (Ei:=[(95,_),(89,_)]) rfl rfl (bV (bG 12 rfl rfl) (bV (bG 6 rfl rfl) bW)) (eU rfl rfl (Ht rfl) (fun h=>dV A_35 Z_35 (fV rfl h))) (C.D_step (Ei:=[(9,_),(89,_)]) rfl rfl (bV (bK rfl rfl) (bV (bG 6 rfl rfl) bW)) (eU rfl rfl (Ht rfl) (fun h=>cZ (Ht rfl))) (C.D_step (Ei:=[(96,_),(97,_),(89,_)]) rfl rfl (bV (bG 13 rfl rfl) (bV (bG 14 rfl rfl) (bV (bG 6 rfl rfl) bW))) (eU rfl rfl (Ht rfl) (fun h=>dJ U_35 Z_131 (fV rfl h) (fV rfl h) rfl (eQ (dY (d:=Qi.zero) zo)))) ?_))
   refine C.D_step (Ei:=[(98,_),(89,_)]) rfl rfl (bV (bG 15 rfl rfl) (bV (bG 6 rfl rfl) bW)) (eU rfl rfl (Ht rfl) (fun h=>dV A_131 Z_131 (fV rfl h))) (C.D_step (Ei:=[(90,_),(99,_),(89,_)]) rfl rfl (bV (bG 7 rfl rfl) (bV (bG 16 rfl rfl) (bV (bG 6 rfl rfl) bW))) (eU rfl rfl (Ht rfl) (fun h=>cJ Tryz.call80 (Kh (x:=gm s i j) (y:=gm s i j) (L:=L) (M:=L) hL hL) ⟨(fV rfl h),(fV rfl h),trivial⟩)) (C.D_step (Ei:=[(100,_),(89,_)]) rfl rfl (bV (bG 17 rfl rfl) (bV (bG 6 rfl rfl) bW)) (eU rfl rfl (Ht rfl) (fun h=>dR (fV rfl h))) ?_))
   refine cP 89 6 101 18 rfl (gN (Ht rfl) (fun h=>(fV rfl h))) (dq 102 19 rfl (cZ (Ht rfl)) (C.D_step (Ei:=[(12,_),(103,_)]) rfl rfl (bV (bK rfl rfl) (bV (bG 20 rfl rfl) bW)) (eU rfl rfl (Ht rfl) (fun h=>eW A_51 Z_51 (Ht rfl) (i:=4) rfl rfl rfl)) (C.D_step (Ei:=[(3,_),(103,_)]) rfl rfl (bV (bK rfl rfl) (bV (bG 20 rfl rfl) bW)) (eU rfl rfl (Ht rfl) (fun h=>eJ Aa (Ht rfl) rfl)) (C.D_step (Ei:=[(105,_),(103,_)]) rfl rfl (bV (bG 22 rfl rfl) (bV (bG 20 rfl rfl) bW)) (eU rfl rfl (Ht rfl) (fun h=>fQ A_36 Z_36 (fV rfl h) (i:=1) rfl rfl)) ?_))))
   refine C.D_step (Ei:=[(6,_),(103,_)]) rfl rfl (bV (bK rfl rfl) (bV (bG 20 rfl rfl) bW)) (eU rfl rfl (Ht rfl) (fun h=>cZ (Ht rfl))) (C.D_step (Ei:=[(106,_),(107,_),(103,_)]) rfl rfl (bV (bG 23 rfl rfl) (bV (bG 24 rfl rfl) (bV (bG 20 rfl rfl) bW))) (eU rfl rfl (Ht rfl) (fun h=>dJ U_36 Z_35 (fV rfl h) (fV rfl h) rfl (eQ (dY (d:=[]) zo)))) (C.D_step (Ei:=[(108,_),(103,_)]) rfl rfl (bV (bG 25 rfl rfl) (bV (bG 20 rfl rfl) bW)) (eU rfl rfl (Ht rfl) (fun h=>dV A_35 Z_35 (fV rfl h))) ?_))
   refine C.D_step (Ei:=[(9,_),(103,_)]) rfl rfl (bV (bK rfl rfl) (bV (bG 20 rfl rfl) bW)) (eU rfl rfl (Ht rfl) (fun h=>cZ (Ht rfl))) (C.D_step (Ei:=[(109,_),(110,_),(103,_)]) rfl rfl (bV (bG 26 rfl rfl) (bV (bG 27 rfl rfl) (bV (bG 20 rfl rfl) bW))) (eU rfl rfl (Ht rfl) (fun h=>dJ U_35 Z_131 (fV rfl h) (fV rfl h) rfl (eQ (dY (d:=Qi.zero) zo)))) (C.D_step (Ei:=[(111,_),(103,_)]) rfl rfl (bV (bG 28 rfl rfl) (bV (bG 20 rfl rfl) bW)) (eU rfl rfl (Ht rfl) (fun h=>dV A_131 Z_131 (fV rfl h))) ?_))
   refine fW aL rfl (by kernel_rfl) (zF (zF (zF (zF (zF (zF (zF (aJ (aJ (aV (fX rfl rfl (eU rfl rfl (Ht rfl) (fun h=>cJ Tryz.call80 (Kh (x:=gm c i j) (y:=gm c i j) (L:=L) (M:=L) hL hL) ⟨(fV rfl h),(fV rfl h),trivial⟩)) (fX rfl rfl (eU rfl rfl (Ht rfl) (fun h=>dR (fV rfl h))) ?_))))))))))))
   refine ro rfl (gN (Ht rfl) (fun h=>(fV rfl h))) (eZ (iA (Ht rfl) (by simp) ?_))
   refine cY (bC (dQ (ro rfl (dW (Ht rfl) (cV 1) z6) (rm rfl (eZ (bR [0,1,2] rfl (by decide) (fY (j + 1) hf zo (zS rfl) (dE.refl _))))))))
  ·refine gW rfl (bC (dQ (ro rfl (dW (Ht rfl) (cV 1) z6) (rm rfl (eZ (bR [0,1,2] rfl (by decide) (fY (i + 1) hd zo (zS rfl) (dE.refl _))))))))
 ·refine gW rfl (ts (ro rfl (cX cW) (eZ ?_)))
  exact fG rfl (eY rfl)
theorem a0C:bE Tryz.prog 97 [NT .i64 ([]:List Qi).length,NT .i64 ([]:List Qi).length] (bL []):=(Fg (n:=0) (by decide)).fun fun B _ v S V h1 h2=>fL (s:=5) (M:=[]) rfl v S V h1 h2
theorem a5G {c:List (List Qi)}:bE Tryz.prog 99 [bL [],bL c] (bL []):=by
 refine bE.intro Tryz.func99 rfl Tryz.ntmps99 rfl (fun cx=>(ts (ro rfl (cX cW) (eZ (cU (ts (rm rfl (ro rfl (dK U_30 (Ht rfl) aA) (ro rfl (cT (Ht rfl) (cV 0)) (eZ (De (Ht rfl) (by rfl) ?_)))))))))))
 refine ts (ro rfl (cX cW) (eZ (fG rfl (fZ (eY rfl) ?_))))
 exact (fun v V h=>iL _ _ h)
theorem a0A  : bE Tryz.prog 160 [iT [] []] (bL []):=by
 refine bE.intro Tryz.func160 rfl Tryz.ntmps160 rfl (fun cx=>(ts (rn rfl (fK (Ht rfl)) fun B1=>(ro rfl (cX cW) (eZ (cU (fJ (m:=3) (dp 1 rfl (eW A_32 Z_32 (Ht rfl) (i:=0) rfl rfl rfl) (dq 10 0 rfl (cJ K_22 oB ⟨(Ht rfl),trivial⟩) (dp 1 rfl (eW A_32 Z_32 (Ht rfl) (i:=0) rfl rfl rfl) (fW aL rfl (by kernel_rfl) (aJ (aJ (aJ (aV (ro rfl (cJ K_22 oB ⟨(Ht rfl),trivial⟩) (ro rfl (cJ Tryz.call97 a0C ⟨(Ht rfl),(Ht rfl),trivial⟩) (ra rfl ?_))))))))))))))))))
 refine eZ (cU (ts (ro rfl (eW A_32 Z_32 (Ht rfl) (i:=0) rfl rfl rfl) (ro rfl (cJ Tryz.call142 (Rj (z:=[]) (s:=[]) (by decide)) ⟨(Ht rfl),trivial⟩) (ro rfl (dK U_29 (Ht rfl) aA) (ro rfl (cZ (cV 0)) (eZ (eK ?_))))))))
 refine bS (fun (i : Nat) => i ≤ 0) (fun (i : Nat) => 0 - i) (fun (i : Nat) => [(1, cC B1 0), (3, bL []), (17, NT .i64 0), (18, NT .i64 i)]) (fun (i : Nat) => [box B1 32 [bB [], bL []]]) 0 (Nat.zero_le _)
  (zS rfl) (dE.refl _) (fun i hi=>?_)
 refine ts (ro rfl (gZ (Ht rfl) (Ht rfl)) (eZ (cU (dX (Ht rfl) (fun hd=>?_) (fun hd=>?_)))))
 ·simp only [decide_eq_true_eq] at hd
  omega
 ·refine gW rfl (ts (ro rfl (eW A_32 Z_32 (Ht rfl) (i := 0) rfl rfl rfl) (ro rfl (cJ Tryz.call93 (Ko (z := []) (s := []) ⟨rfl, fun r hr => by cases hr⟩ (by decide)) ⟨(Ht rfl), trivial⟩) (rm rfl (ro rfl (cJ Tryz.call99 (a5G (c := [])) ⟨(Ht rfl), (Ht rfl), trivial⟩) (ra rfl (eZ (cU (ts (rm rfl (ro rfl (dK U_30 (Ht rfl) aA) (ro rfl (cZ (cV 0)) (eZ (eK ?_))))))))))))))
  refine bS (fun (i : Nat) => i ≤ 0) (fun (i : Nat) => 0 - i) (fun (i : Nat) => [(1, cC B1 0), (3, bL []), (37, NT .i64 0), (38, NT .i64 i)]) (fun (i : Nat) => [box B1 32 [bB [], bL []]]) 0 (Nat.zero_le _)
   (zS rfl) (dE.refl _) (fun i hi=>?_)
  refine ts (ro rfl (gZ (Ht rfl) (Ht rfl)) (eZ (cU (dX (Ht rfl) (fun hd=>?_) (fun hd=>?_)))))
  ·simp only [decide_eq_true_eq] at hd
   omega
  ·refine gW rfl (ts (rm rfl (ra rfl (eZ ?_))))
   exact fG rfl (eY rfl)
theorem a5C {t:Qi} {L:Nat} (ht:aE t L) (hL:L ≤ 10000000):bE Tryz.prog 57 [iT [] [],aI t] (eS [fP [] [] [],aT .i64 (lB t)]):=by
 haveI:=ht
 refine bE.intro Tryz.func57 rfl Tryz.ntmps57 rfl (fun cx=>(ts (rn rfl (fK (Ht rfl)) fun B2=>(rn rfl (fK (Ht rfl)) fun B3=>(rn rfl (eG (Ts:=[Is (.slice none 0 0),Is (.slice none 0 0),Is (.slice none 0 0)]) O_34 rfl (fun V=>aW zd (aW zd (aW zd (aG))))) fun B4=>(ro rfl (cX (cV 0)) (eZ (cU (ts (ro rfl (eW A_51 Z_51 (Ht rfl) (i:=1) rfl rfl rfl) (ro rfl (cJ Tryz.call159 (Rl zo) ⟨(Ht rfl),trivial⟩) (ro rfl (dR (Ht rfl)) ?_))))))))))))
 refine eZ (dX (Ht rfl) (fun hb=>?_) (fun hb=>?_))
 ·have he : lB t ≠ 0 := by simp only [Bool.not_eq_true'] at hb; rw [lB, hb]; decide
  have he1:lB t = 1:=by simp only [Bool.not_eq_true'] at hb; rw [lB,hb]; rfl
  refine ts (ro rfl (aM.imp (tL ) oW) (gX Z_34 (Ht rfl) (Ht rfl) rfl (i:=2) rfl (aK rfl) rfl rfl (ro rfl (cX (cV 1)) (eZ (bM rfl (fU A_34 Z_34 rfl (i:=2) rfl rfl) (fZ (eY rfl) ?_))))))
  exact (aS he1.symm)
 ·have he : lB t = 0 := by simp only [Bool.not_eq_false'] at hb; rw [lB, hb]; rfl
  refine cY (ts (ro rfl (eW A_32 Z_32 (Ht rfl) (i:=0) rfl rfl rfl) (ro rfl (cJ Tryz.call160 a0A ⟨(Ht rfl),trivial⟩) (ra rfl (eZ (cU (ts (rm rfl (ro rfl (dK U_30 (Ht rfl) aA) (ro rfl (cZ (cV 0)) (eZ (eK ?_))))))))))))
  refine bS (fun (i : Nat) => i ≤ 0) (fun (i : Nat) => 0 - i) (fun (i : Nat) => [(2, cC B2 0), (3, cC B3 0), (4, cC B4 0), (6, bL []), (17, NT .i64 0), (18, NT .i64 i)]) (fun (i : Nat) => [box B2 32 [bB [], bL []], box B3 51 [aD (decide (t.a < 0)), aH t.a.natAbs, aD (decide (t.b < 0)), aH t.b.natAbs, aH (du t)], box B4 34 [Is (.slice none 0 0), Is (.slice none 0 0), Is (.slice none 0 0)]]) 0 (Nat.zero_le _)
   (zS rfl) (dE.refl _) (fun i hi=>?_)
  refine ts (ro rfl (gZ (Ht rfl) (Ht rfl)) (eZ (cU (dX (Ht rfl) (fun hd=>?_) (fun hd=>?_)))))
  ·simp only [decide_eq_true_eq] at hd
   omega
  ·refine gW rfl (ts (ro rfl (eW A_32 Z_32 (Ht rfl) (i := 0) rfl rfl rfl) (rm rfl (ro rfl (oQ (Ht rfl) (Ht rfl)) (gX Z_34 (Ht rfl) (Ht rfl) rfl (i := 2) rfl (aK rfl) rfl rfl (ro rfl (cX (cV 0)) (eZ (bM rfl (fU A_34 Z_34 rfl (i := 2) rfl rfl) (fZ (eY rfl) ?_)))))))))
   exact (aS he.symm)
end
section
open Go Go.RowKit
theorem Ll {α:Type} (e:Int):dA e ([]:List α) = []:=by unfold dA; split <;> rfl
theorem Gt {t : Qi} {c : List (List Qi)} {n L M : Nat} (ht : aE t L) (hc : bA c M) (hM : 1 ≤ M) : bA (kR t c n) (L + M + 1) := bA.tab fun i j _ _ => by
 haveI:=ht; haveI:=hc.get hM i j
 infer_instance
theorem a0j {z:List Qi} {s:List (List Qi)} {t:Qi} {L:Nat} (hz:cB z L) (hs:bA s L) (ht:aE t L) (hL1:1 ≤ L) (hL:L ≤ 10000000) (hsh:cI s z.length z.length) (hl:z.length ≤ 8):bE Tryz.prog 57 [iT z s,aI t] (eS [fP (dA (lB t) z) (dA (lB t) s) (dA (lB t) (kR t (iG z s) z.length)),aT .i64 (lB t)]):=by
 cases z with
 | nil =>
  have e:s = []:=List.length_eq_zero_iff.1 hsh.1
  subst e
  rw [Ll,Ll,show kR t (iG [] []) ([]:List Qi).length = [] from rfl,Ll]
  exact a5C ht hL
 | cons x z=>exact a4O hz hs ht hL1 hL hsh (by simp) hl
end
section
open Go Go.RowKit
theorem xX (n m:Nat):cI (mI n m) n m:=cI.tab
theorem Qi.zero_div (y:Qi):Qi.zero / y = Qi.zero:=by rw [Qi.div_def,Qi.zero_mul']
theorem a6F {x:Qi} (h:eO x = true):x.im = 0 ∧ x.re ≠ 0:=by
 simp only [eO,decide_eq_true_eq] at h
 exact ⟨Qi.b_zero.1 h.1,fun e=>by have:=Qi.a_zero.2 e; omega⟩
end
section
open Go Go.RowKit
theorem a2X {n:Nat} (hn:n ≤ 1000):bE Tryz.prog 97 [NT .i64 n,NT .i64 n] (bL (mI n n)):=(Fg hn).fun fun B _ v S V h1 h2=>fL (s:=5) (M:=mI n n) (xX n n).1.symm v S V h1 h2
theorem a2G {z:List Qi} {s:List (List Qi)} (hl:z.length ≤ 1000):bE Tryz.prog 60 [iT z s] (fP z s (mI z.length z.length)):=by
 refine bE.intro Tryz.func60 rfl Tryz.ntmps60 rfl (fun cx=>(ts (rn rfl (fK (Ht rfl)) fun B1=>(rn rfl (eG (Ts:=[Is (.slice none 0 0),Is (.slice none 0 0),Is (.slice none 0 0)]) O_34 rfl (fun V=>aW zd (aW zd (aW zd (aG))))) fun B2=>(eZ (cU (fJ (m:=6) (dp 1 rfl (eW A_32 Z_32 (Ht rfl) (i:=0) rfl rfl rfl) (dp 1 rfl (eW A_32 Z_32 (Ht rfl) (i:=0) rfl rfl rfl) (dq 4 1 rfl (cJ K_22 oB ⟨(Ht rfl),trivial⟩) (dp 1 rfl (eW A_32 Z_32 (Ht rfl) (i:=0) rfl rfl rfl) ?_)))))))))))
 refine dq 6 3 rfl (cJ K_22 oB ⟨(Ht rfl),trivial⟩) (cP 5 2 7 4 rfl (cJ Tryz.call97 (a2X hl) ⟨(Ht rfl),(Ht rfl),trivial⟩) (fW aL rfl (by kernel_rfl) (zF (aJ (aJ (aV (ro rfl (oQ (Ht rfl) (Ht rfl)) (gX Z_34 (Ht rfl) (Ht rfl) rfl (i:=1) rfl (aK rfl) rfl rfl (eZ ?_)))))))))
 exact fG rfl (fU A_34 Z_34 rfl (i:=1) rfl rfl)
end
section
open Go Go.RowKit
theorem Kx {α:Type} {l:List α} {d:α} {k:Nat} (h:k < l.length):l.getD k d = l[k]:=by simp [List.getD,h]
theorem a7y {l m:List Qi} (h:l.length = m.length) (k:∀ i,i < l.length → gv l i = gv m i):l = m:=by
 apply List.ext_getElem h
 intro i h1 h2
 have:=k i h1
 simpa [gv,List.getD,h1,h2] using this
theorem a3a {l m:List (List Qi)} (h:l.length = m.length) (k:∀ i,i < l.length → l.getD i [] = m.getD i []):l = m:=by
 apply List.ext_getElem h
 intro i h1 h2
 have:=k i h1
 simpa [List.getD,h1,h2] using this
theorem a7I {l m:List Qi} {i:Nat} (h:gv l i ≠ gv m i):l ≠ m:=fun e=>h (by rw [e])
theorem a3E {l m:List (List Qi)} {i:Nat} (h:l.getD i [] ≠ m.getD i []):l ≠ m:=fun e=>h (by rw [e])
def Vo (z z':List Qi) (s s':List (List Qi)):Bool:=decide (z = z') && decide (s = s')
theorem yZ (z:List Qi) (s:List (List Qi)):Vo z z s s = true:=by simp [Vo]
end
section
open Go Go.RowKit
theorem Ak (v : Value) (w : World) : (method (Tryz.prog.types.size + Made.depth) 51 v "Same").run Tryz.prog w = .ok (139, v) w := by kernel_rfl
end
section
open Go Go.RowKit
theorem Kf {l m:List Qi} {L:Nat} (hl:cB l L) (hm:cB m L) (hL:1 ≤ L) (h1:l.length ≤ 1000) (h2:m.length ≤ 1000):bE Tryz.prog 155 [bB l,bB m,Ia Tryz.prog {x:Qi × Qi // aE x.1 L ∧ aE x.2 L} (fun x=>[aI x.1.1,aI x.1.2]) (fun x=>aD (decide (x.1.1 = x.1.2)))] (aD (decide (l = m))):=by
 refine bE.intro Tryz.func155 rfl Tryz.ntmps155 rfl (fun cx=>(ts (ro rfl (cX cW) (eZ (cU (ts (rm rfl (ro rfl (dK U_29 (Ht rfl) aA) (rm rfl (ro rfl (dK U_29 (Ht rfl) aA) (ro rfl (fB (Ht rfl) (Ht rfl)) (eZ (dX (Ht rfl) (fun hb=>?_) (fun hb=>?_))))))))))))))
 ·have hn : ¬ l = m := fun e => by rw [e] at hb; simp at hb
  refine ts (ro rfl (cX cW) (eZ (fG rfl (fZ (eY rfl) ?_))))
  exact (dN (decide_eq_false hn).symm)
 ·have he : l.length = m.length := by simpa using hb
  refine cY (cU (ts (rm rfl (ro rfl (dK U_29 (Ht rfl) aA) (ro rfl (cZ (cV 0)) (eZ (eK ?_)))))))
  refine bS (fun (k : Nat) => k ≤ l.length ∧ ∀ i, i < k → gv l i = gv m i) (fun (k : Nat) => l.length - k) (fun (k : Nat) => [(0, bB l), (1, bB m), (2, Ia Tryz.prog {x : Qi × Qi // aE x.1 L ∧ aE x.2 L} (fun x => [aI x.1.1, aI x.1.2]) (fun x => aD (decide (x.1.1 = x.1.2)))), (15, bB l), (16, NT .i64 l.length), (17, NT .i64 k)]) (fun (k : Nat) => []) 0 ⟨Nat.zero_le _, fun i h => by omega⟩
   (zS rfl) aY (fun k ⟨hk,hr⟩=>?_)
  refine ts (ro rfl (gZ (Ht rfl) (Ht rfl)) (eZ (cU (dX (Ht rfl) (fun hc=>?_) (fun hc=>?_)))))
  ·simp only [decide_eq_true_eq] at hc
   refine cY (cU (eK (ts (rm rfl (ro rfl (dJ U_29 Z_51 (Ht rfl) (Ht rfl) rfl (eQ (dY (d:=Qi.zero) zo))) (ro rfl (dV A_51 Z_51 (Ht rfl)) (rn rfl (eG (Ts:=[Is (.bool false),Is (.slice none 0 0),Is (.bool false),Is (.slice none 0 0),Is (.slice none 0 0)]) O_51 rfl (fun V=>aW zd (aW zd (aW zd (aW zd (aW zd (aG))))))) fun B8=>(ra rfl (gX Z_51 (Ht rfl) (Ht rfl) rfl (i:=0) rfl (aK rfl) rfl rfl ?_)))))))))
   refine eZ (ts (rm rfl (rm rfl (ro rfl (dJ U_29 Z_51 (Ht rfl) (Ht rfl) rfl (eQ (dY (d:=Qi.zero) zo))) (ro rfl (dV A_51 Z_51 (Ht rfl)) (rn rfl (eG (Ts:=[Is (.bool false),Is (.slice none 0 0),Is (.bool false),Is (.slice none 0 0),Is (.slice none 0 0)]) O_51 rfl (fun V=>aW zd (aW zd (aW zd (aW zd (aW zd (aG))))))) fun B9=>(gX Z_51 (Ht rfl) (Ht rfl) rfl (i:=1) rfl (aK rfl) rfl rfl ?_)))))))
   refine eZ (ts (rm rfl (ro rfl (eW A_51 Z_51 (Ht rfl) (i:=0) rfl rfl rfl) (ro rfl (eW A_51 Z_51 (Ht rfl) (i:=1) rfl rfl rfl) (ro rfl (rJ (⟨(gv l k,gv m k),hl.get hL k,hm.get hL k⟩:{x:Qi × Qi // aE x.1 L ∧ aE x.2 L}) (Ht rfl) ⟨(Ht rfl),(Ht rfl),trivial⟩) (ro rfl (dR (Ht rfl)) (eZ (dX (Ht rfl) (fun hd=>?_) (fun hd=>?_)))))))))
   ·have hn : ¬ l = m := a7I (i := k) (by simpa using hd)
    refine ts (ro rfl (cX cW) (eZ (fG rfl (fZ (eY rfl) ?_))))
    exact (dN (decide_eq_false hn).symm)
   ·have hq : gv l k = gv m k := by simpa using hd
    refine cY (bC (dQ (ro rfl (dW (Ht rfl) (cV 1) z6) (rm rfl (eZ (bR [] rfl (by decide) ?_))))))
    refine fY (k + 1) ⟨hc, fun i h => by
     by_cases e:i = k
     ·rw [e]; exact hq
     ·exact hr i zo⟩ zo (zS rfl) aY
  ·simp only [decide_eq_false_iff_not] at hc
   refine gW rfl (ts (ro rfl (cX cW) (eZ (fG rfl (fZ (eY rfl) ?_)))))
   exact (dN (decide_eq_true (a7y he (fun i h=>hr i zo))).symm)
theorem Tt {l m:List (List Qi)} {L:Nat} (hl:bA l L) (hm:bA m L) (h3:∀ r,r ∈ l → r.length ≤ 1000) (h4:∀ r,r ∈ m → r.length ≤ 1000) (h1:l.length ≤ 1000) (h2:m.length ≤ 1000):bE Tryz.prog 153 [bL l,bL m,Ia Tryz.prog {x:List Qi × List Qi // (cB x.1 L ∧ x.1.length ≤ 1000) ∧ cB x.2 L ∧ x.2.length ≤ 1000} (fun x=>[bB x.1.1,bB x.1.2]) (fun x=>aD (decide (x.1.1 = x.1.2)))] (aD (decide (l = m))):=by
 refine bE.intro Tryz.func153 rfl Tryz.ntmps153 rfl (fun cx=>(ts (ro rfl (cX cW) (eZ (cU (ts (rm rfl (ro rfl (dK U_30 (Ht rfl) aA) (rm rfl (ro rfl (dK U_30 (Ht rfl) aA) (ro rfl (fB (Ht rfl) (Ht rfl)) (eZ (dX (Ht rfl) (fun hb=>?_) (fun hb=>?_))))))))))))))
 ·have hn : ¬ l = m := fun e => by rw [e] at hb; simp at hb
  refine ts (ro rfl (cX cW) (eZ (fG rfl (fZ (eY rfl) ?_))))
  exact (dN (decide_eq_false hn).symm)
 ·have he : l.length = m.length := by simpa using hb
  refine cY (cU (ts (rm rfl (ro rfl (dK U_30 (Ht rfl) aA) (ro rfl (cZ (cV 0)) (eZ (eK ?_)))))))
  refine bS (fun (k : Nat) => k ≤ l.length ∧ ∀ i, i < k → l.getD i [] = m.getD i []) (fun (k : Nat) => l.length - k) (fun (k : Nat) => [(0, bL l), (1, bL m), (2, Ia Tryz.prog {x : List Qi × List Qi // (cB x.1 L ∧ x.1.length ≤ 1000) ∧ cB x.2 L ∧ x.2.length ≤ 1000} (fun x => [bB x.1.1, bB x.1.2]) (fun x => aD (decide (x.1.1 = x.1.2)))), (15, bL l), (16, NT .i64 l.length), (17, NT .i64 k)]) (fun (k : Nat) => []) 0 ⟨Nat.zero_le _, fun i h => by omega⟩
   (zS rfl) aY (fun k ⟨hk,hr⟩=>?_)
  refine ts (ro rfl (gZ (Ht rfl) (Ht rfl)) (eZ (cU (dX (Ht rfl) (fun hc=>?_) (fun hc=>?_)))))
  ·simp only [decide_eq_true_eq] at hc
   refine cY (cU (eK (ts (rm rfl (ro rfl (dJ U_30 Z_29 (Ht rfl) (Ht rfl) rfl (eQ (dY (d:=[]) hc))) (ro rfl (dV A_29 Z_29 (Ht rfl)) (ra rfl (ra rfl (eZ (ts (rm rfl (rm rfl (ro rfl (dJ U_30 Z_29 (Ht rfl) (Ht rfl) rfl (eQ (dY (d:=[]) zo))) (ro rfl (dV A_29 Z_29 (Ht rfl)) (ra rfl (eZ (ts (rm rfl (rm rfl (rm rfl (ro rfl (rJ (⟨(l.getD k [],m.getD k []),⟨hl.row k,by rw [Kx hc]; exact h3 _ (List.getElem_mem hc)⟩,hm.row k,by rw [Kx (by omega:k < m.length)]; exact h4 _ (List.getElem_mem _)⟩:{x:List Qi × List Qi // (cB x.1 L ∧ x.1.length ≤ 1000) ∧ cB x.2 L ∧ x.2.length ≤ 1000}) (Ht rfl) ⟨(Ht rfl),(Ht rfl),trivial⟩) ?_)))))))))))))))))))))
   refine ro rfl (dR (Ht rfl)) (eZ (dX (Ht rfl) (fun hd=>?_) (fun hd=>?_)))
   ·have hn : ¬ l = m := a3E (i := k) (by simpa using hd)
    refine ts (ro rfl (cX cW) (eZ (fG rfl (fZ (eY rfl) ?_))))
    exact (dN (decide_eq_false hn).symm)
   ·have hq : l.getD k [] = m.getD k [] := by simpa using hd
    refine cY (bC (dQ (ro rfl (dW (Ht rfl) (cV 1) z6) (rm rfl (eZ ?_)))))
    refine fY (k + 1) ⟨hc, fun i h => by
     by_cases e:i = k
     ·rw [e]; exact hq
     ·exact hr i zo⟩ zo (zS rfl) aY
  ·simp only [decide_eq_false_iff_not] at hc
   refine gW rfl (ts (ro rfl (cX cW) (eZ (fG rfl (fZ (eY rfl) ?_)))))
   exact (dN (decide_eq_true (a3a he (fun i h=>hr i zo))).symm)
theorem a0o {x y:Qi} {L:Nat} [hx:aE x L] [hy:aE y L] (h:L ≤ 8796093022208):bE Tryz.prog 203 [aI x,aI y] (aD (decide (x = y))):=by
 refine bE.intro Tryz.func203 rfl Tryz.ntmps203 rfl (fun cx=>(ts (rn rfl (fK (Ht rfl)) fun B2=>(rn rfl (fK (Ht rfl)) fun B3=>(ro rfl (cX cW) (eZ (ts (ro rfl (eW A_51 Z_51 (Ht rfl) (i:=0) rfl rfl rfl) (ro rfl (bI cD (Ht rfl)) (ro rfl (eW A_51 Z_51 (Ht rfl) (i:=1) rfl rfl rfl) (ro rfl (aP Ak Tryz.call139 (Qw zo zo) (Ht rfl) ⟨(Ht rfl),trivial⟩) (ra rfl (eZ ?_)))))))))))))
 exact fG rfl (eY rfl)
theorem a0p {l m:List Qi} {L:Nat} (hl:cB l L) (hm:cB m L) (hL:1 ≤ L) (h1:l.length ≤ 1000) (h2:m.length ≤ 1000):bE Tryz.prog 204 [bB l,bB m,PT (Ia Tryz.prog {x:Qi × Qi // aE x.1 L ∧ aE x.2 L} (fun x=>[aI x.1.1,aI x.1.2]) (fun x=>aD (decide (x.1.1 = x.1.2))))] (aD (decide (l = m))):=by
 refine bE.intro Tryz.func204 rfl Tryz.ntmps204 rfl (fun cx=>(ts (ro rfl (cX cW) (eZ (ts (rm rfl (rm rfl (ro rfl (dV Tryz.isAgg205 Tryz.sizeOf205 (Ht rfl)) (ro rfl (cJ Tryz.call155 (Kf hl hm hL h1 h2) ⟨(Ht rfl),(Ht rfl),(Ht rfl),trivial⟩) (ra rfl (eZ ?_)))))))))))
 exact fG rfl (eY rfl)
theorem a0q {x y:Qi} {L:Nat} [hx:aE x L] [hy:aE y L] (h:L ≤ 8796093022208):bE Tryz.prog 152 [aI x,aI y] (aD (decide (x = y))):=by
 refine bE.intro Tryz.func152 rfl Tryz.ntmps152 rfl (fun cx=>(ts (rn rfl (fK (Ht rfl)) fun B2=>(rn rfl (fK (Ht rfl)) fun B3=>(ro rfl (cX cW) (eZ (ts (ro rfl (eW A_51 Z_51 (Ht rfl) (i:=0) rfl rfl rfl) (ro rfl (bI cD (Ht rfl)) (ro rfl (eW A_51 Z_51 (Ht rfl) (i:=1) rfl rfl rfl) (ro rfl (aP Ak Tryz.call139 (Qw zo zo) (Ht rfl) ⟨(Ht rfl),trivial⟩) (ra rfl (eZ ?_)))))))))))))
 exact fG rfl (eY rfl)
theorem a0r {l m:List Qi} {L:Nat} (hl:cB l L) (hm:cB m L) (hL:1 ≤ L) (h1:l.length ≤ 1000) (h2:m.length ≤ 1000):bE Tryz.prog 154 [bB l,bB m,PT (Ia Tryz.prog {x:Qi × Qi // aE x.1 L ∧ aE x.2 L} (fun x=>[aI x.1.1,aI x.1.2]) (fun x=>aD (decide (x.1.1 = x.1.2))))] (aD (decide (l = m))):=by
 refine bE.intro Tryz.func154 rfl Tryz.ntmps154 rfl (fun cx=>(ts (ro rfl (cX cW) (eZ (ts (rm rfl (rm rfl (ro rfl (dV Tryz.isAgg205 Tryz.sizeOf205 (Ht rfl)) (ro rfl (cJ Tryz.call155 (Kf hl hm hL h1 h2) ⟨(Ht rfl),(Ht rfl),(Ht rfl),trivial⟩) (ra rfl (eZ ?_)))))))))))
 exact fG rfl (eY rfl)
theorem Rb {z z':List Qi} {s s':List (List Qi)} {L:Nat} (hz:cB z L) (hz2:cB z' L) (hs:bA s L) (hs2:bA s' L) (hL:1 ≤ L) (h:L ≤ 8796093022208) (hsh:cI s z.length z.length) (hsh2:cI s' z'.length z'.length) (hl:z.length ≤ 1000) (hl2:z'.length ≤ 1000):bE Tryz.prog 113 [iT z s,iT z' s'] (aD (Vo z z' s s')):=by
 have e1:∀ r,r ∈ s → r.length ≤ 1000:=fun r hr=>by rw [hsh.2 r hr]; exact hl
 have e2:∀ r,r ∈ s' → r.length ≤ 1000:=fun r hr=>by rw [hsh2.2 r hr]; exact hl2
 have e3:s.length ≤ 1000:=by rw [hsh.1]; exact hl
 have e4:s'.length ≤ 1000:=by rw [hsh2.1]; exact hl2
 refine bE.intro Tryz.func113 rfl Tryz.ntmps113 rfl (fun cx=>(ts (rn rfl (fK (Ht rfl)) fun B2=>(rn rfl (fK (Ht rfl)) fun B3=>(ro rfl (cX cW) (eZ (ts (rn rfl (eG (Ts:=[Is (.nilFunc)]) Tryz.zeroValue205 rfl (fun V=>aW zd (aG))) fun B5=>(lY Tryz.sizeOf205 (Ht rfl) (bT.fn Tryz.call203 (γ:={x:Qi × Qi // aE x.1 L ∧ aE x.2 L}) (Ts:=fun x=>[aI x.1.1,aI x.1.2]) (U:=fun x=>aD (decide (x.1.1 = x.1.2))) (fun x=>haveI:=x.2.1; haveI:=x.2.2; a0o (L:=L) h)) (i:=2) rfl (aK rfl) rfl ?_)))))))))
 refine eZ (cU (gV (i:=2) (tt:=5) rfl rfl oE (dQ (ro rfl (qI (γ:={x:List Qi × List Qi // (cB x.1 L ∧ x.1.length ≤ 1000) ∧ cB x.2 L ∧ x.2.length ≤ 1000}) (Ts:=fun x=>[bB x.1.1,bB x.1.2]) (U:=fun x=>aD (decide (x.1.1 = x.1.2))) Tryz.call204 (fun x=>a0p x.2.1.1 x.2.2.1 hL x.2.1.2 x.2.2.2) ⟨(Ht rfl),trivial⟩) (ra rfl (eZ (ts (ro rfl (eJ lW (Ht rfl) rfl) (ro rfl (fQ A_29 Z_29 (Ht rfl) (i:=0) rfl rfl) (ro rfl (eJ lW (Ht rfl) rfl) (ro rfl (fQ A_29 Z_29 (Ht rfl) (i:=1) rfl rfl) ?_)))))))))))
 refine ro rfl (cJ Tryz.call155 (Kf hz hz2 hL hl hl2) ⟨(Ht rfl),(Ht rfl),(bT.fn Tryz.call139 (γ:={x:Qi × Qi // aE x.1 L ∧ aE x.2 L}) (Ts:=fun x=>[aI x.1.1,aI x.1.2]) (U:=fun x=>aD (decide (x.1.1 = x.1.2))) (fun x=>haveI:=x.2.1; haveI:=x.2.2; Qw (L:=L) (M:=L) zo zo)),trivial⟩) (rm rfl (fX rfl rfl (eU rfl rfl (Ht rfl) (fun h=>eJ mK (Ht rfl) rfl)) (fX rfl rfl (eU rfl rfl (Ht rfl) (fun h=>fQ A_30 Z_30 (fV rfl h) (i:=0) rfl rfl)) (fX rfl rfl (eU rfl rfl (Ht rfl) (fun h=>eJ mK (Ht rfl) rfl)) ?_))))
 refine fX rfl rfl (eU rfl rfl (Ht rfl) (fun h=>fQ A_30 Z_30 (fV rfl h) (i:=1) rfl rfl)) (fX rfl rfl (eU rfl rfl (Ht rfl) (fun h=>cZ (Ht rfl))) (fX rfl rfl (eU rfl rfl (Ht rfl) (fun h=>cJ Tryz.call153 (Tt hs hs2 e1 e2 e3 e4) ⟨(fV rfl h),(fV rfl h),(fV rfl h),trivial⟩)) (ro rfl (fC (Ht rfl) (fun h=>(fV rfl h))) (ra rfl (eZ (fG rfl (fZ (eY rfl) ?_)))))))
 exact (dN rfl)
theorem yT {z z':List Qi} {s s' c c':List (List Qi)} {L:Nat} (hz:cB z L) (hz2:cB z' L) (hs:bA s L) (hs2:bA s' L) (hL:1 ≤ L) (h:L ≤ 8796093022208) (hsh:cI s z.length z.length) (hsh2:cI s' z'.length z'.length) (hl:z.length ≤ 1000) (hl2:z'.length ≤ 1000) (hc:bA c L) (hc2:bA c' L) (hch:cI c z.length z.length) (hch2:cI c' z'.length z'.length):bE Tryz.prog 52 [fP z s c,fP z' s' c'] (aD (Vo z z' s s' && decide (c = c'))):=by
 have e1:∀ r,r ∈ c → r.length ≤ 1000:=fun r hr=>by rw [hch.2 r hr]; exact hl
 have e2:∀ r,r ∈ c' → r.length ≤ 1000:=fun r hr=>by rw [hch2.2 r hr]; exact hl2
 have e3:c.length ≤ 1000:=by rw [hch.1]; exact hl
 have e4:c'.length ≤ 1000:=by rw [hch2.1]; exact hl2
 refine bE.intro Tryz.func52 rfl Tryz.ntmps52 rfl (fun cx=>(ts (rn rfl (fK (Ht rfl)) fun B2=>(rn rfl (fK (Ht rfl)) fun B3=>(ro rfl (cX cW) (eZ (ts (rn rfl (eG (Ts:=[Is (.nilFunc)]) Tryz.zeroValue205 rfl (fun V=>aW zd (aG))) fun B5=>(lY Tryz.sizeOf205 (Ht rfl) (bT.fn Tryz.call152 (γ:={x:Qi × Qi // aE x.1 L ∧ aE x.2 L}) (Ts:=fun x=>[aI x.1.1,aI x.1.2]) (U:=fun x=>aD (decide (x.1.1 = x.1.2))) (fun x=>haveI:=x.2.1; haveI:=x.2.2; a0q (L:=L) h)) (i:=2) rfl (aK rfl) rfl ?_)))))))))
 refine eZ (cU (gV (i:=2) (tt:=5) rfl rfl oE (dQ (ro rfl (eJ oD (Ht rfl) rfl) (ro rfl (eW A_32 Z_32 (Ht rfl) (i:=0) rfl rfl rfl) (ro rfl (eJ oD (Ht rfl) rfl) (ro rfl (eW A_32 Z_32 (Ht rfl) (i:=1) rfl rfl rfl) (ro rfl (cJ Tryz.call113 (Rb hz hz2 hs hs2 hL h hsh hsh2 hl hl2) ⟨(Ht rfl),(Ht rfl),trivial⟩) (rm rfl (fX rfl rfl (eU rfl rfl (Ht rfl) (fun h=>eJ nH (Ht rfl) rfl)) (fX rfl rfl (eU rfl rfl (Ht rfl) (fun h=>fQ A_30 Z_30 (fV rfl h) (i:=0) rfl rfl)) ?_)))))))))))
 refine fX rfl rfl (eU rfl rfl (Ht rfl) (fun h=>eJ nH (Ht rfl) rfl)) (fX rfl rfl (eU rfl rfl (Ht rfl) (fun h=>fQ A_30 Z_30 (fV rfl h) (i:=1) rfl rfl)) (fX rfl rfl (eU rfl rfl (Ht rfl) (fun h=>qI (γ:={x:List Qi × List Qi // (cB x.1 L ∧ x.1.length ≤ 1000) ∧ cB x.2 L ∧ x.2.length ≤ 1000}) (Ts:=fun x=>[bB x.1.1,bB x.1.2]) (U:=fun x=>aD (decide (x.1.1 = x.1.2))) Tryz.call154 (fun x=>a0r x.2.1.1 x.2.2.1 hL x.2.1.2 x.2.2.2) ⟨(Ht rfl),trivial⟩)) (fX rfl rfl (eU rfl rfl (Ht rfl) (fun h=>cJ Tryz.call153 (Tt hc hc2 e1 e2 e3 e4) ⟨(fV rfl h),(fV rfl h),(fV rfl h),trivial⟩)) ?_)))
 refine ro rfl (fC (Ht rfl) (fun h=>(fV rfl h))) (ra rfl (eZ ?_))
 exact fG rfl (eY rfl)
end
section
open Go Go.RowKit
namespace Qi
end Qi
def mC (f : Nat → Int) : Nat → Int
 | 0=>0
 | n + 1=>if mC f n ≠ 0 then mC f n else f n
theorem Bq {f:Nat → Int} {k:Nat} (h:∀ i,i < k → f i = 0) (hk:f k ≠ 0):∀ {n:Nat},k < n → mC f n = f k:=by
 have hz : mC f k = 0 := by
  clear hk
  induction k with
  | zero=>rfl
  | succ k ih=>rw [mC,ih (fun i hi=>h i zo),if_neg (by simp),h k zo]
 intro n
 induction n with
 | zero=>intro h; omega
 | succ n ih =>
  intro hn
  by_cases e:n = k
  ·rw [e,mC,hz,if_neg (by simp)]
  ·rw [mC,ih zo,if_pos hk]
theorem lD {f : Nat → Int} : ∀ {n : Nat}, (∀ i, i < n → f i = 0) → mC f n = 0
 | 0,_=>rfl
 | n + 1,h=>by rw [mC,lD (fun i hi=>h i zo),if_neg (by simp),h n zo]
theorem kI {f : Nat → Int} : ∀ {n : Nat}, mC f n = 0 → ∀ i, i < n → f i = 0
 | 0,_,i,hi=>by omega
 | n + 1, h, i, hi => by
  rw [mC] at h
  split at h
  ·rename_i c; exact absurd h c
  ·rename_i c
   by_cases e:i = n
   ·rw [e]; exact h
   ·exact kI (Decidable.not_not.1 c) i zo
abbrev eF (l:List (Qi × Qi)) (i:Nat):Qi:=(l.getD i (Qi.zero,Qi.zero)).1
abbrev eV (l:List (Qi × Qi)) (i:Nat):Qi:=(l.getD i (Qi.zero,Qi.zero)).2
structure a4J (l:List (Qi × Qi)) (f:Qi):Prop where
 real:∀ i,i < l.length → (eF l i).b = 0 ∧ (eV l i).b = 0
 up:∀ i,0 < i → i < l.length → (eF l (i - 1)).re < (eF l i).re
 fr:f.b = 0
theorem a6D {x:Qi} (h:eO x = true):x.b = 0:=by simp only [eO,decide_eq_true_eq] at h; exact h.1
theorem a4J.mono {l : List (Qi × Qi)} {f : Qi} (h : a4J l f) {i : Nat} : ∀ {j : Nat}, i < j → j < l.length → (eF l i).re < (eF l j).re
 | 0,h1,_=>by omega
 | j + 1, h1, h2 => by
  have h3:=h.up (j + 1) zo h2
  rw [Nat.add_sub_cancel] at h3
  by_cases e:i = j
  ·rw [e]; exact h3
  ·have := h.mono (i := i) (j := j) zo zo
   grind
def a76 (l:List (Qi × Qi)) (L:Nat):Prop:=∀ e,e ∈ l → aE e.1 L ∧ aE e.2 L
theorem a76.get {l:List (Qi × Qi)} {L:Nat} (h:a76 l L) (hL:1 ≤ L) (i:Nat):aE (eF l i) L ∧ aE (eV l i) L:=by
 by_cases hi:i < l.length
 ·have e : l.getD i (Qi.zero, Qi.zero) = l[i] := by simp [List.getD, hi]
  show aE (l.getD i _).1 L ∧ aE (l.getD i _).2 L
  rw [e]; exact h _ (List.getElem_mem hi)
 ·have e : l.getD i (Qi.zero, Qi.zero) = (Qi.zero, Qi.zero) := by simp [List.getD, List.getElem?_eq_none (Nat.le_of_not_lt hi)]
  show aE (l.getD i _).1 L ∧ aE (l.getD i _).2 L
  rw [e]; exact ⟨aE.zero hL,aE.zero hL⟩
end
section
open Go Go.RowKit
abbrev dF (M:List (List Qi)) (i:Nat):List Qi:=M.getD i []
def Zp (M : List (List Qi)) (c n : Nat) : Nat → Nat
 | 0=>n
 | k + 1=>if gm M (n - (k + 1)) c = Qi.zero then Zp M c n k else n - (k + 1)
def pv (M:List (List Qi)) (c n:Nat):Nat:=Zp M c n (n - c)
theorem Pc {M : List (List Qi)} {c n : Nat} : ∀ {k : Nat}, k ≤ n → (∀ r, n - k ≤ r → r < Zp M c n k → gm M r c = Qi.zero) ∧ n - k ≤ Zp M c n k ∧ Zp M c n k ≤ n ∧ (Zp M c n k < n → gm M (Zp M c n k) c ≠ Qi.zero)
 | 0,_=>⟨fun r h1 h2=>by simp [Zp] at h2; omega,by simp [Zp],by simp [Zp],fun h=>by simp [Zp] at h⟩
 | k + 1, hk => by
  obtain ⟨i1,i2,i3,i4⟩:=Pc (M:=M) (c:=c) (n:=n) (k:=k) zo
  unfold Zp
  by_cases e:gm M (n - (k + 1)) c = Qi.zero
  ·rw [if_pos e]
   refine ⟨fun r h1 h2=>?_,by omega,i3,i4⟩
   by_cases e2:r = n - (k + 1)
   ·rw [e2]; exact e
   ·exact i1 r zo h2
  ·rw [if_neg e]
   exact ⟨fun r h1 h2=>by omega,Nat.le_refl _,by omega,fun _=>e⟩
theorem mO {M:List (List Qi)} {c n:Nat} (hc:c ≤ n):(∀ r,c ≤ r → r < pv M c n → gm M r c = Qi.zero) ∧ c ≤ pv M c n ∧ pv M c n ≤ n ∧ (pv M c n < n → gm M (pv M c n) c ≠ Qi.zero):=by
 have h:=Pc (M:=M) (c:=c) (n:=n) (k:=n - c) zo
 rw [show n - (n - c) = c by omega] at h
 exact h
theorem a56 {M:List (List Qi)} {c n p:Nat} (hc:c ≤ p) (hp:p ≤ n) (h1:∀ r,c ≤ r → r < p → gm M r c = Qi.zero) (h2:p < n → gm M p c ≠ Qi.zero):pv M c n = p:=by
 obtain ⟨i1,i2,i3,i4⟩:=mO (M:=M) (n:=n) (show c ≤ n by omega)
 rcases Nat.lt_trichotomy (pv M c n) p with h | h | h
 ·exact absurd (h1 _ i2 h) (i4 zo)
 ·exact h
 ·exact absurd (i1 p hc h) (h2 zo)
def mW (rr rc:List Qi) (c k:Nat):List Qi:=tab rr.length fun j=>if c < j ∧ j < k then gv rr j - gv rr c / gv rc c * gv rc j else gv rr j
def redM (M:List (List Qi)) (c r:Nat):List (List Qi):=tab M.length fun i=>if c < i ∧ i < r then mW (dF M i) (dF M c) c (dF M i).length else dF M i
def dC (M : List (List Qi)) : Nat → List (List Qi) × Nat × Int
 | 0=>(M,0,-1)
 | c + 1 =>
  let s:=dC M c
  if 0 ≤ s.2.2 then s else
  if pv s.1 c M.length = M.length then (s.1,s.2.1,(c:Int)) else
  (redM (if pv s.1 c M.length = c then s.1 else swp [] s.1 (pv s.1 c M.length) c) c M.length,s.2.1 + (if pv s.1 c M.length = c then 0 else 1),-1)
theorem Iu {M : List (List Qi)} {c : Nat} (h : 0 ≤ (dC M c).2.2) : ∀ {d : Nat}, c ≤ d → dC M d = dC M c
 | 0,hd=>by rw [show c = 0 by omega]
 | d + 1, hd => by
  by_cases e:c = d + 1
  ·rw [e]
  ·have := Iu h (d := d) zo
   simp only [dC,this]
   rw [if_pos h]
theorem wI (M:List (List Qi)) (c r:Nat):(redM M c r).length = M.length:=aN _ _
theorem Pj {M:List (List Qi)} {n m c r:Nat} (h:cI M n m):cI (redM M c r) n m:=by
 refine ⟨(wI _ _ _).trans h.1,fun x hx=>?_⟩
 obtain ⟨i,hi,rfl⟩:=fH.1 hx
 have hr:=h.row (i:=i) (by rw [← h.1]; exact hi)
 show (if c < i ∧ i < r then mW (dF M i) (dF M c) c (dF M i).length else dF M i).length = m
 split
 ·rw [mW,aN]; exact hr
 ·exact hr
theorem Ay {M:List (List Qi)} {n m p c:Nat} (h:cI M n m) (hp:p < n) (hc:c < n):cI (swp [] M p c) n m:=by
 refine ⟨(Ax _ _ _ _).trans h.1,fun x hx=>?_⟩
 unfold swp at hx
 rcases List.mem_or_eq_of_mem_set hx with h1 | h1
 ·rcases List.mem_or_eq_of_mem_set h1 with h2 | h2
  ·exact h.2 x h2
  ·rw [h2]; exact h.row hc
 ·rw [h1]; exact h.row hp
theorem rF {M : List (List Qi)} {n m : Nat} (h : cI M n m) : ∀ {c : Nat}, c ≤ n → cI (dC M c).1 n m
 | 0,_=>h
 | c + 1, hc => by
  have ih:=rF h (c:=c) zo
  obtain ⟨_,_,i3,_⟩:=mO (M:=(dC M c).1) (c:=c) (n:=M.length) (by rw [h.1]; omega)
  simp only [dC]
  split
  ·exact ih
  ·split
   ·exact ih
   ·rename_i e
    apply Pj
    split
    ·exact ih
    ·exact Ay ih (by rw [← h.1]; omega) zo
def uU (L : Nat) : Nat → Nat
 | 0=>L
 | c + 1=>6 * uU L c + 4
theorem xJ (L : Nat) : ∀ {c d : Nat}, c ≤ d → uU L c ≤ uU L d
 | c,0,h=>by rw [show c = 0 by omega]; exact Nat.le_refl _
 | c, d + 1, h => by
  by_cases e:c = d + 1
  ·rw [e]; exact Nat.le_refl _
  ·have := xJ L (c := c) (d := d) zo
   simp only [uU]; omega
theorem Du (L c:Nat):L ≤ uU L c:=xJ L (Nat.zero_le c)
theorem Up {rr rc:List Qi} {L c j:Nat} (h1:cB rr L) (h2:cB rc L) (hL:1 ≤ L) (hp:gv rc c ≠ Qi.zero):aE (gv rr j - gv rr c / gv rc c * gv rc j) (6 * L + 4):=by
 haveI f1:=h1.get hL j; haveI f2:=h1.get hL c; haveI f3:=h2.get hL c; haveI f4:=h2.get hL j
 haveI g:aE (gv rr c / gv rc c) (L + 3 * L + 2):=⟨f2.fit.div f3.fit hp⟩
 have:aE (gv rr j - gv rr c / gv rc c * gv rc j) (L + (L + 3 * L + 2 + L + 1) + 1):=inferInstance
 exact this.le zo
theorem a1R {rr rc : List Qi} {L c k : Nat} (h1 : cB rr L) (h2 : cB rc L) (hL : 1 ≤ L) (hp : gv rc c ≠ Qi.zero) : cB (mW rr rc c k) (6 * L + 4) := cB.tab fun j _ => by
 split
 ·exact Up h1 h2 hL hp
 ·exact (h1.get hL j).le zo
theorem Pi {M : List (List Qi)} {L c r : Nat} (h : bA M L) (hL : 1 ≤ L) (hp : gm M c c ≠ Qi.zero) : bA (redM M c r) (6 * L + 4) := fun x hx => by
 obtain ⟨i,hi,rfl⟩:=fH.1 hx
 show cB (if c < i ∧ i < r then mW (dF M i) (dF M c) c (dF M i).length else dF M i) _
 split
 ·exact a1R (h.row i) (h.row c) hL hp
 ·exact (h.row i).le zo
theorem Ee {M : List (List Qi)} {L p c : Nat} (h : bA M L) : bA (swp [] M p c) L := fun x hx => by
 unfold swp at hx
 rcases List.mem_or_eq_of_mem_set hx with h1 | h1
 ·rcases List.mem_or_eq_of_mem_set h1 with h2 | h2
  ·exact h x h2
  ·rw [h2]; exact h.row c
 ·rw [h1]; exact h.row p
theorem wS {M:List (List Qi)} {p c:Nat} (hc:c < M.length):dF (swp [] M p c) c = dF M p:=by
 simp [dF,swp,List.getD,hc]
theorem Fo {M : List (List Qi)} {n m L : Nat} (hs : cI M n m) (h : bA M L) (hL : 1 ≤ L) : ∀ {c : Nat}, c ≤ n → bA (dC M c).1 (uU L c)
 | 0,_=>h
 | c + 1, hc => by
  have ih:=Fo hs h hL (c:=c) zo
  have hg:1 ≤ uU L c:=Nat.le_trans hL (Du L c)
  have sh:=rF hs (c:=c) zo
  obtain ⟨_,i2,i3,i4⟩:=mO (M:=(dC M c).1) (c:=c) (n:=M.length) (by rw [hs.1]; omega)
  simp only [dC,uU]
  split
  ·exact ih.le zo
  ·split
   ·exact ih.le zo
   ·rename_i e
    split
    ·rename_i e2
     refine Pi ih hg ?_
     have:=i4 zo
     rw [e2] at this; exact this
    ·refine Pi (Ee ih) hg ?_
     show gv (dF (swp [] _ _ c) c) c ≠ _
     rw [wS (by rw [sh.1]; omega)]
     exact i4 zo
theorem Sk {rr rc:List Qi} {c:Nat}:rr = mW rr rc c (c + 1):=by
 unfold mW
 have:(tab rr.length fun j=>if c < j ∧ j < c + 1 then gv rr j - gv rr c / gv rc c * gv rc j else gv rr j) = tab rr.length (gv rr):=cE fun j _=>by rw [if_neg zo]
 rw [this]; exact Ai rfl
theorem Ar (rr rc:List Qi) (c k:Nat):(mW rr rc c k).length = rr.length:=aN _ _
theorem Pk {rr rc:List Qi} {c k:Nat} (hk:k < rr.length) (h:c < k):gv (mW rr rc c k) k = gv rr k:=by
 rw [mW,gP hk,if_neg zo]
theorem Yx {rr rc:List Qi} {c k:Nat} (hk:k < rr.length) (h:c < k):(mW rr rc c k).set k (gv (mW rr rc c k) k - gv rr c / gv rc c * gv rc k) = mW rr rc c (k + 1):=by
 rw [Pk hk h]
 apply List.ext_getElem?
 intro j
 by_cases hj:j < rr.length
 ·by_cases e : j = k
  ·subst e
   rw [List.getElem?_set_self (by rw [Ar]; exact hj),mW,cH hj,if_pos zo]
  ·rw [List.getElem?_set_ne (Ne.symm e), mW, mW, cH hj, cH hj]
   by_cases e2:c < j ∧ j < k
   ·rw [if_pos e2,if_pos zo]
   ·rw [if_neg e2,if_neg zo]
 ·rw [List.getElem?_eq_none (by rw [List.length_set,Ar]; omega),List.getElem?_eq_none (by rw [Ar]; omega)]
theorem Sj {M:List (List Qi)} {c:Nat}:M = redM M c (c + 1):=by
 unfold redM
 have:(tab M.length fun i=>if c < i ∧ i < c + 1 then mW (dF M i) (dF M c) c (dF M i).length else dF M i) = tab M.length (dF M):=cE fun i _=>by rw [if_neg zo]
 rw [this]; exact Cf (h:=rfl)
theorem Ap {M:List (List Qi)} {c r i:Nat} (hi:i < M.length) (h:¬ (c < i ∧ i < r)):dF (redM M c r) i = dF M i:=by
 simp only [dF,redM,List.getD]
 rw [cH hi,if_neg h]; rfl
theorem Yv {M:List (List Qi)} {c r:Nat} (hr:r < M.length) (h:c < r):(redM M c r).set r (mW (dF M r) (dF M c) c (dF M r).length) = redM M c (r + 1):=by
 apply List.ext_getElem?
 intro j
 by_cases hj:j < M.length
 ·by_cases e : j = r
  ·subst e
   rw [List.getElem?_set_self (by rw [wI]; exact hj),redM,cH hj,if_pos zo]
  ·rw [List.getElem?_set_ne (Ne.symm e), redM, redM, cH hj, cH hj]
   by_cases e2:c < j ∧ j < r
   ·rw [if_pos e2,if_pos zo]
   ·rw [if_neg e2,if_neg zo]
 ·rw [List.getElem?_eq_none (by rw [List.length_set,wI]; omega),List.getElem?_eq_none (by rw [wI]; omega)]
theorem Pr {M:List (List Qi)} {r:Nat} {x y:List Qi}:(M.set r x).set r y = M.set r y:=List.set_set ..
theorem wO {M:List (List Qi)} {r:Nat} {x:List Qi} (h:r < M.length):dF (M.set r x) r = x:=by simp [dF,List.getD,h]
theorem qU {M:List (List Qi)} {r i:Nat} {x:List Qi} (h:r ≠ i):dF (M.set r x) i = dF M i:=by simp [dF,List.getD,List.getElem?_set_ne h]
theorem a23 {M:List (List Qi)} {r:Nat} (h:r < M.length):M.set r (dF M r) = M:=by
 apply List.ext_getElem?
 intro j
 by_cases e:j = r
 ·subst e; rw [List.getElem?_set_self h]; simp [dF,List.getD,h]
 ·rw [List.getElem?_set_ne (Ne.symm e)]
theorem a2c {X : List (List Qi)} {r c k : Nat} (hr : r < X.length) (hne : r ≠ c) (hk : k < (dF X r).length) (hck : c < k) :
  (X.set r (mW (dF X r) (dF X c) c k)).set r ((dF (X.set r (mW (dF X r) (dF X c) c k)) r).set k (gm (X.set r (mW (dF X r) (dF X c) c k)) r k - gm X r c / gm X c c * gm (X.set r (mW (dF X r) (dF X c) c k)) c k)) = X.set r (mW (dF X r) (dF X c) c (k + 1)):=by
 rw [Pr,wO hr]
 have e1:gm (X.set r (mW (dF X r) (dF X c) c k)) r k = gv (mW (dF X r) (dF X c) c k) k:=by show gv (dF (X.set r _) r) k = _; rw [wO hr]
 have e2:gm (X.set r (mW (dF X r) (dF X c) c k)) c k = gv (dF X c) k:=by show gv (dF (X.set r _) c) k = _; rw [qU hne]
 rw [e1,e2]
 exact congrArg _ (Yx hk hck)
theorem a2d {D:List (List Qi)} {r c:Nat} (hr:r < D.length) (hc:c < r):(redM D c r).set r (mW (dF (redM D c r) r) (dF (redM D c r) c) c (dF D r).length) = redM D c (r + 1):=by
 rw [Ap hr zo,Ap zo zo]
 exact Yv hr hc
theorem a7x {X:List (List Qi)} {r c k:Nat} (hr:r < X.length) (hk:k < (dF X r).length) (hck:c < k):gm (X.set r (mW (dF X r) (dF X c) c k)) r k = gv (dF X r) k:=by
 show gv (dF (X.set r _) r) k = _; rw [wO hr,Pk hk hck]
theorem a7w {X:List (List Qi)} {r c k:Nat} {y:List Qi} (hne:r ≠ c):gm (X.set r y) c k = gv (dF X c) k:=by show gv (dF (X.set r _) c) k = _; rw [qU hne]
theorem Xu {M A:List (List Qi)} {n c sw p:Nat} (hl:M.length = n) (h:dC M c = (A,sw,-1)) (hp:pv A c n = p) (hpn:p < n):dC M (c + 1) = (redM (if p = c then A else swp [] A p c) c n,sw + (if p = c then 0 else 1),-1):=by
 simp only [dC,h,hl,hp]
 rw [if_neg (by decide),if_neg zo]
theorem a0S {M A:List (List Qi)} {n c sw:Nat} (hl:M.length = n) (h:dC M c = (A,sw,-1)) (hp:pv A c n = n) (hc:c < n):dC M n = (A,sw,(c:Int)):=by
 have e : dC M (c + 1) = (A, sw, (c : Int)) := by
  simp only [dC,h,hl,hp]
  rw [if_neg (by decide)]; simp
 rw [Iu (c:=c + 1) (by rw [e]; show (0:Int) ≤ (c:Int); omega) hc,e]
end
section
open Go Go.RowKit
theorem Hx (v : Value) (w : World) : (method (Tryz.prog.types.size + Made.depth) 51 v "Clear").run Tryz.prog w = .ok (27, v) w := by kernel_rfl
end
end Go.Proofs.YteohomnhncjcnaaGreat
