/- What functions of the program compute, proved by walks over their code, and the plain mathematics of it; a part of the proof in the last text. -/
import Derived.Test.YteohomnhncjcnaaGreatP03
set_option linter.unusedVariables false
set_option linter.unusedSimpArgs false
set_option maxRecDepth 100000
set_option maxHeartbeats 4000000
namespace Go.Proofs.YteohomnhncjcnaaGreat
section
open Go Go.RowKit
theorem nK {b:Bool} {m:Nat}:bE Tryz.prog 266 [aE b,aI m] (eI (zL b m)):=by
 refine bE.intro Tryz.func266 rfl Tryz.ntmps266 rfl (fun cx=>(ts (rn rfl (eW (Ts:=[Is (.bool false),Is (.slice none 0 0)]) O_129 rfl (fun V=>aW zd (aW zd (aG)))) fun B4=>(eX (ts (rm rfl (rm rfl (fQ rfl rfl (eK rfl rfl (Ht rfl) (fun h=>cX (Ht rfl))) (fQ rfl rfl (eK rfl rfl (Ht rfl) (fun h=>dG U_46 (fJ rfl h) aA)) (fQ rfl rfl (eK rfl rfl (Ht rfl) (fun h=>eE (fJ rfl h) (cJ 0))) (ro rfl (fF (Ht rfl) (fun h=>(fJ rfl h))) (rm rfl ?_))))))))))))
 refine ro rfl (mM (Ht rfl) (Ht rfl)) (gQ Z_129 (Ht rfl) (Ht rfl) rfl (i:=0) rfl (aK rfl) rfl rfl (eX (fW rfl (fX (fK A_129 Z_129 rfl (i:=0) rfl rfl) ?_))))
 exact Zr
theorem wF {n:Int} (h1:-9223372036854775808 ≤ n) (h2:n ≤ 9223372036854775807):bE Tryz.prog 227 [aP .i64 n] (eI n):=by
 refine bE.intro Tryz.func227 rfl Tryz.ntmps227 rfl (fun cx=>(ts (rn rfl (eW (Ts:=[Is (.bool false),Is (.slice none 0 0)]) O_129 rfl (fun V=>aW zd (aW zd (aG)))) fun B2=>(eX (cK (ts (rm rfl (ro rfl (pI (Ht rfl) cV) (eX (dQ (Ht rfl) (fun hb=>?_) (fun hb=>?_)))))))))))
 ·have hn : n < 0 := by simpa using hb
  refine ts (rm rfl (ro rfl (Yv (Ht rfl) (r:=IntKind.i64.wrap (-n)) rfl) ?_))
  refine ro rfl (uM U_2 U_254 (Ht rfl) (r:=((n.natAbs:Nat):Int)) (by rw [IntKind.wrap_u64,IntKind.wrap_i64]; omega)) ?_
  refine ro rfl (cZ Tryz.call268 (Bs zo) ⟨(Ht rfl),trivial⟩) (ro rfl (mM cV (Ht rfl)) (gQ Z_129 (Ht rfl) (Ht rfl) rfl (i:=0) rfl (aK rfl) rfl rfl (eX (fW rfl (fX (fK A_129 Z_129 rfl (i:=0) rfl rfl) ?_)))))
  exact (nJ (by rw [hb]; rfl))
 ·have hn : ¬ n < 0 := by simpa using hb
  refine cU (ts (rm rfl (ro rfl (uM U_2 U_254 (Ht rfl) (r:=((n.natAbs:Nat):Int)) (by rw [IntKind.wrap_u64]; omega)) ?_)))
  refine ro rfl (cZ Tryz.call268 (Bs zo) ⟨(Ht rfl),trivial⟩) (ro rfl (mM cV (Ht rfl)) (gQ Z_129 (Ht rfl) (Ht rfl) rfl (i:=0) rfl (aK rfl) rfl rfl (eX (fW rfl (fX (fK A_129 Z_129 rfl (i:=0) rfl rfl) ?_)))))
  exact (nJ (by rw [hb]; rfl))
theorem oR {x:Int}:bE Tryz.prog 228 [eI x] (eI (-x)):=by
 refine bE.intro Tryz.func228 rfl Tryz.ntmps228 rfl (fun cx=>(ts (rn rfl (fG (Ht rfl)) fun B1=>(rn rfl (eW (Ts:=[Is (.bool false),Is (.slice none 0 0)]) O_129 rfl (fun V=>aW zd (aW zd (aG)))) fun B2=>(eX (ts (ro rfl (eZ gS (Ht rfl) rfl) (ro rfl (eY A_4 Z_4 (Ht rfl) (i:=0) rfl rfl) (ro rfl (gB (Ht rfl)) (ro rfl (eZ dS (Ht rfl) rfl) (ro rfl (eY A_46 Z_46 (Ht rfl) (i:=0) rfl rfl) (ro rfl (cZ K_266 nK ⟨(Ht rfl),(Ht rfl),trivial⟩) ?_))))))))))))
 refine gQ Z_129 (Ht rfl) (Ht rfl) rfl (i:=1) rfl (aK rfl) rfl rfl (eX (fW rfl (fX (fK A_129 Z_129 rfl (i:=1) rfl rfl) ?_)))
 exact (lL (Fs x))
theorem tW {x y:Int} (hx:(dg x.natAbs).length ≤ 17592186044416) (hy:(dg y.natAbs).length ≤ 17592186044416):bE Tryz.prog 230 [eI x,eI y] (eI (x + y)):=by
 refine bE.intro Tryz.func230 rfl Tryz.ntmps230 rfl (fun cx=>(ts (rn rfl (fG (Ht rfl)) fun B2=>(rn rfl (fG (Ht rfl)) fun B3=>(rn rfl (eW (Ts:=[Is (.bool false),Is (.slice none 0 0)]) O_129 rfl (fun V=>aW zd (aW zd (aG)))) fun B4=>(eX (cK (ts (ro rfl (eZ gS (Ht rfl) rfl) (ro rfl (eY A_4 Z_4 (Ht rfl) (i:=0) rfl rfl) (ro rfl (eZ gS (Ht rfl) rfl) (ro rfl (eY A_4 Z_4 (Ht rfl) (i:=1) rfl rfl) (ro rfl (Yr U_4 (Ht rfl) (Ht rfl)) ?_)))))))))))))
 refine eX (dQ (Ht rfl) (fun hb=>?_) (fun hb=>?_))
 ·have he : decide (x < 0) = decide (y < 0) := by simpa using hb
  refine cK (fZ (m:=7) (dp 2 rfl (eZ gS (Ht rfl) rfl) (dq 10 0 rfl (eY A_4 Z_4 (Ht rfl) (i:=0) rfl rfl) (dp 2 rfl (eZ dS (Ht rfl) rfl) (dq 12 2 rfl (eY A_46 Z_46 (Ht rfl) (i:=0) rfl rfl) (dp 3 rfl (eZ dS (Ht rfl) rfl) (dq 14 4 rfl (eY A_46 Z_46 (Ht rfl) (i:=1) rfl rfl) (cL 13 3 15 5 rfl (cZ Tryz.call269 (Sk zo zo) ⟨(Ht rfl),(Ht rfl),trivial⟩) (fV aT rfl (by kernel_rfl) (zF (aJ (aJ (aJ (aV ?_))))))))))))))
  refine ro rfl (cZ K_266 nK ⟨(Ht rfl),(Ht rfl),trivial⟩) (gQ Z_129 (Ht rfl) (Ht rfl) rfl (i:=2) rfl (aK rfl) rfl rfl (eX (fW rfl (fX (fK A_129 Z_129 rfl (i:=2) rfl rfl) ?_))))
  exact (lL (Li he))
 ·have he : decide (x < 0) ≠ decide (y < 0) := by simpa using hb
  refine cU (cK (ts (ro rfl (eZ dS (Ht rfl) rfl) (ro rfl (eY A_46 Z_46 (Ht rfl) (i:=0) rfl rfl) (ro rfl (eZ dS (Ht rfl) rfl) (ro rfl (eY A_46 Z_46 (Ht rfl) (i:=1) rfl rfl) (ro rfl (cZ Tryz.call237 (qS zo zo) ⟨(Ht rfl),(Ht rfl),trivial⟩) (ro rfl (kH (Ht rfl) cV) (eX (dQ (Ht rfl) (fun hc=>?_) (fun hc=>?_)))))))))))
  ·have hle : y.natAbs ≤ x.natAbs := Gs (by simpa using hc)
   refine cK (fZ (m:=7) (dp 2 rfl (eZ gS (Ht rfl) rfl) (dq 24 0 rfl (eY A_4 Z_4 (Ht rfl) (i:=0) rfl rfl) (dp 2 rfl (eZ dS (Ht rfl) rfl) (dq 26 2 rfl (eY A_46 Z_46 (Ht rfl) (i:=0) rfl rfl) (dp 3 rfl (eZ dS (Ht rfl) rfl) (dq 28 4 rfl (eY A_46 Z_46 (Ht rfl) (i:=1) rfl rfl) (cL 27 3 29 5 rfl (cZ Tryz.call270 (Er zo zo) ⟨(Ht rfl),(Ht rfl),trivial⟩) (fV aT rfl (by kernel_rfl) (zF (aJ (aJ (aJ (aV ?_))))))))))))))
   refine ro rfl (cZ K_266 nK ⟨(Ht rfl),(Ht rfl),trivial⟩) (gQ Z_129 (Ht rfl) (Ht rfl) rfl (i:=2) rfl (aK rfl) rfl rfl (eX (fW rfl (fX (fK A_129 Z_129 rfl (i:=2) rfl rfl) ?_))))
   exact (lL (xM he hle))
  ·have hle : x.natAbs ≤ y.natAbs := Nat.le_of_lt (Gt (by simpa using hc))
   refine cU (cK (fZ (m:=7) (dp 3 rfl (eZ gS (Ht rfl) rfl) (dq 32 0 rfl (eY A_4 Z_4 (Ht rfl) (i:=1) rfl rfl) (dp 3 rfl (eZ dS (Ht rfl) rfl) (dq 34 2 rfl (eY A_46 Z_46 (Ht rfl) (i:=1) rfl rfl) (dp 2 rfl (eZ dS (Ht rfl) rfl) (dq 36 4 rfl (eY A_46 Z_46 (Ht rfl) (i:=0) rfl rfl) (cL 35 3 37 5 rfl (cZ Tryz.call270 (Er zo zo) ⟨(Ht rfl),(Ht rfl),trivial⟩) (fV aT rfl (by kernel_rfl) (zF (aJ (aJ (aJ (aV ?_)))))))))))))))
   refine ro rfl (cZ K_266 nK ⟨(Ht rfl),(Ht rfl),trivial⟩) (gQ Z_129 (Ht rfl) (Ht rfl) rfl (i:=2) rfl (aK rfl) rfl rfl (eX (fW rfl (fX (fK A_129 Z_129 rfl (i:=2) rfl rfl) ?_))))
   exact (lL (by rw [xM (Ne.symm he) hle,Int.add_comm]))
theorem Sj {x y:Int} (hx:(dg x.natAbs).length ≤ 17592186044416) (hy:(dg y.natAbs).length ≤ 17592186044416):bE Tryz.prog 229 [eI x,eI y] (eI (x + -y)):=by
 have hny:=rP y
 refine bE.intro Tryz.func229 rfl Tryz.ntmps229 rfl (fun cx=>(ts (rn rfl (fG (Ht rfl)) fun B2=>(rn rfl (fG (Ht rfl)) fun B3=>(rn rfl (eW (Ts:=[Is (.bool false),Is (.slice none 0 0)]) O_129 rfl (fun V=>aW zd (aW zd (aG)))) fun B4=>(eX (cK (fZ (m:=3) (dp 2 rfl (eJ A_129 Z_129 (Ht rfl) (i:=0) rfl rfl rfl) (dp 3 rfl (eJ A_129 Z_129 (Ht rfl) (i:=1) rfl rfl rfl) (dq 6 1 rfl (cZ K_228 oR ⟨(Ht rfl),trivial⟩) (fV aT rfl (by kernel_rfl) (aJ (aJ (aJ (aV ?_))))))))))))))))
 refine ro rfl (cZ Tryz.call230 (tW zo zo) ⟨(Ht rfl),(Ht rfl),trivial⟩) (gQ Z_129 (Ht rfl) (Ht rfl) rfl (i:=2) rfl (aK rfl) rfl rfl (eX ?_))
 exact fW rfl (fK A_129 Z_129 rfl (i:=2) rfl rfl)
theorem kM {x y:Int} (hx:(dg x.natAbs).length ≤ 17592186044416) (hy:(dg y.natAbs).length ≤ 17592186044416):bE Tryz.prog 225 [eI x,eI y] (eI (x * y)):=by
 refine bE.intro Tryz.func225 rfl Tryz.ntmps225 rfl (fun cx=>(ts (rn rfl (fG (Ht rfl)) fun B2=>(rn rfl (fG (Ht rfl)) fun B3=>(rn rfl (eW (Ts:=[Is (.bool false),Is (.slice none 0 0)]) O_129 rfl (fun V=>aW zd (aW zd (aG)))) fun B4=>(eX (cK (fZ (m:=10) (dp 2 rfl (eZ gS (Ht rfl) rfl) (dq 5 0 rfl (eY A_4 Z_4 (Ht rfl) (i:=0) rfl rfl) (dp 3 rfl (eZ gS (Ht rfl) rfl) (dq 7 2 rfl (eY A_4 Z_4 (Ht rfl) (i:=1) rfl rfl) (cL 6 1 8 3 rfl (Nn U_4 (Ht rfl) (Ht rfl)) ?_)))))))))))))
 refine dp 2 rfl (eZ dS (Ht rfl) rfl) (dq 10 5 rfl (eY A_46 Z_46 (Ht rfl) (i:=0) rfl rfl) (dp 3 rfl (eZ dS (Ht rfl) rfl) (dq 12 7 rfl (eY A_46 Z_46 (Ht rfl) (i:=1) rfl rfl) (cL 11 6 13 8 rfl (cZ Tryz.call226 (tX zo zo) ⟨(Ht rfl),(Ht rfl),trivial⟩) (fV aT rfl (by kernel_rfl) (zF (zF (aJ (aJ (aV (ro rfl (cZ K_266 nK ⟨(Ht rfl),(Ht rfl),trivial⟩) (gQ Z_129 (Ht rfl) (Ht rfl) rfl (i:=2) rfl (aK rfl) rfl rfl ?_))))))))))))
 refine eX (fW rfl (fX (fK A_129 Z_129 rfl (i:=2) rfl rfl) ?_))
 exact (lL (Ft x y))
theorem Ep {x y:Int} (hx:(dg x.natAbs).length ≤ 17592186044416) (hy:(dg y.natAbs).length ≤ 17592186044416):bE Tryz.prog 236 [eI x,eI y] (aP .i64 (lA x y)):=by
 refine bE.intro Tryz.func236 rfl Tryz.ntmps236 rfl (fun cx=>(ts (rn rfl (fG (Ht rfl)) fun B2=>(rn rfl (fG (Ht rfl)) fun B3=>(ro rfl (cQ (cJ 0)) (eX (cK (ts (ro rfl (eZ gS (Ht rfl) rfl) (ro rfl (eY A_4 Z_4 (Ht rfl) (i:=0) rfl rfl) (ro rfl (eZ gS (Ht rfl) rfl) (ro rfl (eY A_4 Z_4 (Ht rfl) (i:=1) rfl rfl) (ro rfl (Nn U_4 (Ht rfl) (Ht rfl)) (eX (dQ (Ht rfl) (fun hb=>?_) (fun hb=>?_))))))))))))))))
 ·have he : decide (x < 0) ≠ decide (y < 0) := by simpa using hb
  refine cK (ts (ro rfl (eZ gS (Ht rfl) rfl) (ro rfl (eY A_4 Z_4 (Ht rfl) (i:=0) rfl rfl) (eX (dQ (Ht rfl) (fun hc=>?_) (fun hc=>?_))))))
  ·have hn : x < 0 := by simpa using hc
   have hm:¬ y < 0:=by simpa [hn] using he
   refine ts (ro rfl (cQ cV) (eX (fW rfl (fX (eU rfl) ?_))))
   exact (aM (by rw [lA,if_pos zo]))
  ·have hn : ¬ x < 0 := by simpa using hc
   have hm:y < 0:=by simpa [hn] using he
   refine cU (ts (ro rfl (cQ (cJ 1)) (eX (fW rfl (fX (eU rfl) ?_)))))
   exact (aM (by rw [lA,if_neg zo,if_pos zo]; rfl))
 ·have he : decide (x < 0) = decide (y < 0) := by simpa using hb
  refine cU (cK (ts (ro rfl (eZ gS (Ht rfl) rfl) (ro rfl (eY A_4 Z_4 (Ht rfl) (i:=0) rfl rfl) (eX (dQ (Ht rfl) (fun hc=>?_) (fun hc=>?_)))))))
  ·refine ts (ro rfl (eZ dS (Ht rfl) rfl) (ro rfl (eY A_46 Z_46 (Ht rfl) (i := 1) rfl rfl) (ro rfl (eZ dS (Ht rfl) rfl) (ro rfl (eY A_46 Z_46 (Ht rfl) (i := 0) rfl rfl) (ro rfl (cZ Tryz.call237 (qS zo zo) ⟨(Ht rfl), (Ht rfl), trivial⟩) (ra rfl (eX (fW rfl (fX (eU rfl) ?_)))))))))
   exact (aM (Jf he (by simpa using hc)))
  ·refine cU (ts (ro rfl (eZ dS (Ht rfl) rfl) (ro rfl (eY A_46 Z_46 (Ht rfl) (i := 0) rfl rfl) (ro rfl (eZ dS (Ht rfl) rfl) (ro rfl (eY A_46 Z_46 (Ht rfl) (i := 1) rfl rfl) (ro rfl (cZ Tryz.call237 (qS zo zo) ⟨(Ht rfl), (Ht rfl), trivial⟩) (ra rfl (eX (fW rfl (fX (eU rfl) ?_))))))))))
   exact (aM (Mt he (by simpa using hc)))
theorem wG {A B:Int} {D:Nat} (hD:0 < D) (hA:(dg A.natAbs).length ≤ 17592186044415) (hB:(dg B.natAbs).length ≤ 17592186044415) (hD2:(dg D).length ≤ 17592186044415):bE Tryz.prog 224 [eI A,eI B,aI D] (QT (Qi.mk' A B D)):=by
 have hg1:=Bw hA hB
 have hg2:=Bw hg1 hD2
 have hgp:Nat.gcd (Nat.gcd A.natAbs B.natAbs) D ≠ 0:=fun e=>by have:=Nat.gcd_eq_zero_iff.1 e; omega
 refine bE.intro Tryz.func224 rfl Tryz.ntmps224 rfl (fun cx=>(ts (rn rfl (fG (Ht rfl)) fun B3=>(rn rfl (fG (Ht rfl)) fun B4=>(rn rfl (eW (Ts:=[Is (.bool false),Is (.slice none 0 0),Is (.bool false),Is (.slice none 0 0),Is (.slice none 0 0)]) O_131 rfl (fun V=>aW zd (aW zd (aW zd (aW zd (aW zd (aG))))))) fun B6=>(eX (ts (ro rfl (eZ dS (Ht rfl) rfl) (ro rfl (eY A_46 Z_46 (Ht rfl) (i:=0) rfl rfl) ?_)))))))))
 refine ro rfl (eZ dS (Ht rfl) rfl) (ro rfl (eY A_46 Z_46 (Ht rfl) (i:=1) rfl rfl) (ro rfl (cZ Tryz.call264 (Mq zo zo) ⟨(Ht rfl),(Ht rfl),trivial⟩) (rm rfl (ro rfl (cZ Tryz.call264 (Mq zo zo) ⟨(Ht rfl),(Ht rfl),trivial⟩) (ra rfl (eX (cK (ts (rm rfl (ro rfl (dG U_46 (Ht rfl) aA) (ro rfl (cP (Ht rfl) (cJ 1)) (rm rfl (fQ rfl rfl (eK rfl rfl (Ht rfl) (fun h=>cX (Ht rfl))) (fQ rfl rfl (eK rfl rfl (Ht rfl) (fun h=>dZ U_46 Z_189 (fJ rfl h) (cJ 0) rfl (dY (aF (by first | omega | (simp at h; omega)))))) ?_))))))))))))))
 refine fQ rfl rfl (eK rfl rfl (Ht rfl) (fun h=>dJ A_189 Z_189 (fJ rfl h))) (fQ rfl rfl (eK rfl rfl (Ht rfl) (fun h=>cP (fJ rfl h) (cJ 1))) (ro rfl (fF (Ht rfl) (fun h=>(fJ rfl h))) (eX (dQ (Ht rfl) (fun hb=>?_) (fun hb=>?_)))))
 ·rw [Hz] at hb
  have hg:Qi.g3 A B D = 1:=by simpa [Qi.g3] using hb
  refine ts (ro rfl (eJ A_129 Z_129 (Ht rfl) (i:=0) rfl rfl rfl) (ro rfl (eJ A_129 Z_129 (Ht rfl) (i:=1) rfl rfl rfl) (rm rfl (ro rfl (lZ (Ht rfl) (Ht rfl) (Ht rfl)) (gQ Z_131 (Ht rfl) (Ht rfl) rfl (i:=2) rfl (aK rfl) rfl rfl (eX (fW rfl (fX (fK A_131 Z_131 rfl (i:=2) rfl rfl) ?_))))))))
  exact (Yf hD hg)
 ·refine cU (ts (ro rfl (eZ dS (Ht rfl) rfl) (ro rfl (eY A_46 Z_46 (Ht rfl) (i := 0) rfl rfl) (rm rfl (ro rfl (cZ K_265 (yD zo zo zo) ⟨(Ht rfl), (Ht rfl), trivial⟩) (rm rfl (ro rfl (dK (Ht rfl) rfl) (ro rfl (dK (Ht rfl) rfl) (ra rfl (ra rfl (eX (ts (ro rfl (eZ dS (Ht rfl) rfl) (ro rfl (eY A_46 Z_46 (Ht rfl) (i := 1) rfl rfl) (rm rfl (ro rfl (cZ K_265 (yD zo zo zo) ⟨(Ht rfl), (Ht rfl), trivial⟩) (rm rfl (ro rfl (dK (Ht rfl) rfl) ?_))))))))))))))))))
  refine ro rfl (dK (Ht rfl) rfl) (ra rfl (ra rfl (eX (ts (rm rfl (rm rfl (ro rfl (cZ K_265 (yD zo zo zo) ⟨(Ht rfl),(Ht rfl),trivial⟩) (rm rfl (ro rfl (dK (Ht rfl) rfl) (ro rfl (dK (Ht rfl) rfl) (ra rfl (ra rfl (eX (cK (fZ (m:=9) (dp 3 rfl (eZ gS (Ht rfl) rfl) (dq 54 0 rfl (eY A_4 Z_4 (Ht rfl) (i:=0) rfl rfl) (dp 8 rfl (cX (Ht rfl)) (cL 55 1 56 2 rfl (cZ K_266 nK ⟨(Ht rfl),(Ht rfl),trivial⟩) (dp 4 rfl (eZ gS (Ht rfl) rfl) ?_))))))))))))))))))))
  refine dq 58 4 rfl (eY A_4 Z_4 (Ht rfl) (i:=1) rfl rfl) (dp 10 rfl (cX (Ht rfl)) (cL 59 5 60 6 rfl (cZ K_266 nK ⟨(Ht rfl),(Ht rfl),trivial⟩) (dp 12 rfl (cX (Ht rfl)) (fV aT rfl (by kernel_rfl) (zF (zF (aJ (aV (ro rfl (lZ (Ht rfl) (Ht rfl) (Ht rfl)) (gQ Z_131 (Ht rfl) (Ht rfl) rfl (i:=2) rfl (aK rfl) rfl rfl (eX (fW rfl (fX (fK A_131 Z_131 rfl (i:=2) rfl rfl) ?_)))))))))))))
  exact (Yg hD rfl)
theorem pD {n:Int} (h1:-9223372036854775808 ≤ n) (h2:n ≤ 9223372036854775807):bE Tryz.prog 148 [aP .i64 n] (QT (Qi.ofInt n)):=by
 refine bE.intro Tryz.func148 rfl Tryz.ntmps148 rfl (fun cx=>(ts (rn rfl (eW (Ts:=[Is (.bool false),Is (.slice none 0 0),Is (.bool false),Is (.slice none 0 0),Is (.slice none 0 0)]) O_131 rfl (fun V=>aW zd (aW zd (aW zd (aW zd (aW zd (aG))))))) fun B2=>(eX (ts (rm rfl (ro rfl (cZ Tryz.call227 (wF h1 h2) ⟨(Ht rfl),trivial⟩) (ro rfl (Ir ) (ro rfl (bT (xs:=[_]) U_46 Z_189 O_189 (cW (cJ 1) cG) rfl rfl rfl) ?_)))))))))
 refine ro rfl (lZ (Ht rfl) (Ht rfl) (Ht rfl)) (gQ Z_131 (Ht rfl) (Ht rfl) rfl (i:=0) rfl (aK rfl) rfl rfl (eX (fW rfl (fX (fK A_131 Z_131 rfl (i:=0) rfl rfl) ?_))))
 exact a4S
theorem a32 {p q d:Int} (p1:-9223372036854775808 ≤ p) (p2:p ≤ 9223372036854775807) (q1:-9223372036854775808 ≤ q) (q2:q ≤ 9223372036854775807) (d1:-9223372036854775808 ≤ d) (d2:d ≤ 9223372036854775807) (hd:d ≠ 0):bE Tryz.prog 145 [aP .i64 p,aP .i64 q,aP .i64 d] (gC [QT (Qi.frac p q d),aP .i64 0]):=by
 have lp:=Sv p1 p2; have lq:=Sv q1 q2; have ld:=Sv d1 d2; have np:=rP p; have nq:=rP q
 refine bE.intro Tryz.func145 rfl Tryz.ntmps145 rfl (fun cx=>(ts (rn rfl (eW (Ts:=[Is (.bool false),Is (.slice none 0 0),Is (.bool false),Is (.slice none 0 0),Is (.slice none 0 0)]) O_131 rfl (fun V=>aW zd (aW zd (aW zd (aW zd (aW zd (aG))))))) fun B6=>(ro rfl (cQ (cJ 0)) (eX (cK (ts (rm rfl (ro rfl (jR (Ht rfl) cV) (eX (jI (Ht rfl) (by simp [hd]) ?_)))))))))))
 refine cU (ts (rm rfl (ro rfl (cZ Tryz.call227 (wF d1 d2) ⟨(Ht rfl),trivial⟩) (rn rfl (eW (Ts:=[Is (.bool false),Is (.slice none 0 0)]) O_129 rfl (fun V=>aW zd (aW zd (aG)))) fun B8=>(gQ Z_129 (Ht rfl) (Ht rfl) rfl (i:=1) rfl (aK rfl) rfl rfl (eX (ts (rm rfl (ro rfl (cZ Tryz.call227 (wF p1 p2) ⟨(Ht rfl),trivial⟩) (rm rfl (ro rfl (cZ Tryz.call227 (wF q1 q2) ⟨(Ht rfl),trivial⟩) (rn rfl (eW (Ts:=[Is (.bool false),Is (.slice none 0 0)]) O_129 rfl (fun V=>aW zd (aW zd (aG)))) fun B9=>?_))))))))))))
 refine rn rfl (eW (Ts:=[Is (.bool false),Is (.slice none 0 0)]) O_129 rfl (fun V=>aW zd (aW zd (aG)))) fun B10=>gQ Z_129 (Ht rfl) (Ht rfl) rfl (i:=2) rfl (aK rfl) rfl rfl (gQ Z_129 (Ht rfl) (Ht rfl) rfl (i:=3) rfl (aK rfl) rfl rfl (eX (cK (pS (fun (a:Int) (b:Int)=>Qi.mk' a b d.natAbs = Qi.frac p q d ∧ (dg a.natAbs).length ≤ 2 ∧ (dg b.natAbs).length ≤ 2) (fun (a:Int) (b:Int)=>[(6,bR B6 0),(8,bR B8 0),(9,bR B9 0),(10,bR B10 0)]) (fun (a:Int) (b:Int)=>[box B6 131 [Is (.bool false),Is (.slice none 0 0),Is (.bool false),Is (.slice none 0 0),Is (.slice none 0 0)],box B8 129 [aE (decide (d < 0)),aI (d).natAbs],box B9 129 [aE (decide (a < 0)),aI (a).natAbs],box B10 129 [aE (decide (b < 0)),aI (b).natAbs]]) ?_ (fun a b ⟨hab,ha,hb⟩=>?_)))))
 ·refine ts (ro rfl (eZ gS (Ht rfl) rfl) (ro rfl (eY A_4 Z_4 (Ht rfl) (i := 1) rfl rfl) (eX (dQ (Ht rfl) (fun hn => ?_) (fun hn => ?_)))))
  ·simp only [decide_eq_true_eq] at hn
   refine fZ (m:=3) (dp 9 rfl (eJ A_129 Z_129 (Ht rfl) (i:=2) rfl rfl rfl) (dq 22 0 rfl (cZ K_228 oR ⟨(Ht rfl),trivial⟩) (dp 10 rfl (eJ A_129 Z_129 (Ht rfl) (i:=3) rfl rfl rfl) (fV aT rfl (by kernel_rfl) (aJ (aJ (aJ (aV (ro rfl (cZ K_228 oR ⟨(Ht rfl),trivial⟩) (gQ Z_129 (Ht rfl) (Ht rfl) rfl (i:=2) rfl (aK rfl) rfl rfl (gQ Z_129 (Ht rfl) (Ht rfl) rfl (i:=3) rfl (aK rfl) rfl rfl (eX (bC (-p,-q) ⟨Qi.frac_neg hn,by dsimp only; omega,by dsimp only; omega⟩ (zS rfl) (aU (aB rfl) (aU (aB rfl) (aU (aB rfl) (aU (aB rfl) aY)))))))))))))))))
  ·simp only [decide_eq_false_iff_not] at hn
   refine cU (bC (p,q) ⟨Qi.frac_pos hn hd,by omega,by omega⟩ (zS rfl) (dB.refl _))
 ·refine ts (ro rfl (eJ A_129 Z_129 (Ht rfl) (i := 2) rfl rfl rfl) (ro rfl (eJ A_129 Z_129 (Ht rfl) (i := 3) rfl rfl rfl) (ro rfl (eZ dS (Ht rfl) rfl) (ro rfl (eY A_46 Z_46 (Ht rfl) (i := 1) rfl rfl) (ro rfl (cZ Tryz.call224 (wG zo zo zo zo) ⟨(Ht rfl), (Ht rfl), (Ht rfl), trivial⟩) (gQ Z_131 (Ht rfl) (Ht rfl) rfl (i := 0) rfl (aK rfl) rfl rfl (ro rfl (cQ (cJ 0)) (eX (bM rfl (fX (fK A_131 Z_131 rfl (i := 0) rfl rfl) ?_) (eU rfl))))))))))
  exact (Eh hab)
theorem a4u {r:Rt}:bE Tryz.prog 151 [Vb r] (QT r.q):=by
 have hr1:=r.h1; have hr2:=r.h2; have hr3:=r.h3; have hr4:=r.h4; have hr5:=r.d1; have hr6:=r.d2; have hr0:=r.d0
 refine bE.intro Tryz.func151 rfl Tryz.ntmps151 rfl (fun cx=>(ts (rn rfl (fG (Ht rfl)) fun B1=>(rn rfl (eW (Ts:=[Is (.bool false),Is (.slice none 0 0),Is (.bool false),Is (.slice none 0 0),Is (.slice none 0 0)]) O_131 rfl (fun V=>aW zd (aW zd (aW zd (aW zd (aW zd (aG))))))) fun B2=>(eX (cK (jO (fun (uu:Unit)=>True) (fun (uu:Unit)=>[(1,bR B1 0),(2,bR B2 0)]) (fun (uu:Unit)=>[box B1 102 [aP .i64 r.re,aP .i64 r.im,aP .i64 r.d],box B2 131 [Is (.bool false),Is (.slice none 0 0),Is (.bool false),Is (.slice none 0 0),Is (.slice none 0 0)]]) ?_ (fun uu _=>?_))))))))
 ·refine ts (ro rfl (eZ qX (Ht rfl) rfl) (ro rfl (eY A_2 Z_2 (Ht rfl) (i := 0) rfl rfl) (ro rfl (jR (Ht rfl) cV) (eX (dQ (Ht rfl) (fun hb => ?_) (fun hb => ?_))))))
  ·simp only [decide_eq_true_eq] at hb
   refine cY (ro rfl (eZ qX (Ht rfl) rfl) (kZ Z_2 (Ht rfl) (cJ 1) (i:=0) rfl (aK rfl) rfl (eX (bC () trivial (zS rfl) (aU (aB (by rw [Rt.d,if_pos hb]; rfl)) (aU (aB rfl) aY))))))
  ·simp only [decide_eq_false_iff_not] at hb
   refine cU (bC () trivial (zS rfl) (aU (aB (by rw [Rt.d,if_neg hb])) (aU (aB rfl) aY)))
 ·refine ts (ro rfl (eZ Jr (Ht rfl) rfl) (ro rfl (eY A_2 Z_2 (Ht rfl) (i := 0) rfl rfl) (ro rfl (eZ Js (Ht rfl) rfl) (ro rfl (eY A_2 Z_2 (Ht rfl) (i := 0) rfl rfl) (ro rfl (eZ qX (Ht rfl) rfl) (ro rfl (eY A_2 Z_2 (Ht rfl) (i := 0) rfl rfl) (ro rfl (cZ Tryz.call145 (a32 hr1 hr2 hr3 hr4 hr5 hr6 hr0) ⟨(Ht rfl), (Ht rfl), (Ht rfl), trivial⟩) (rm rfl (ro rfl (dK (Ht rfl) rfl) (ro rfl (dK (Ht rfl) rfl) (rn rfl (eW (Ts := [Is (.bool false), Is (.slice none 0 0), Is (.bool false), Is (.slice none 0 0), Is (.slice none 0 0)]) O_131 rfl (fun V => aW zd (aW zd (aW zd (aW zd (aW zd (aG))))))) fun B3 => ?_)))))))))))
  refine gQ Z_131 (Ht rfl) (Ht rfl) rfl (i:=2) rfl (aK rfl) rfl rfl (ra rfl (eX (ts (ro rfl (eJ A_131 Z_131 (Ht rfl) (i:=2) rfl rfl rfl) (gQ Z_131 (Ht rfl) (Ht rfl) rfl (i:=1) rfl (aK rfl) rfl rfl (eX ?_))))))
  exact fW rfl (fK A_131 Z_131 rfl (i:=1) rfl rfl)
theorem Mo {x y:Qi} {L M:Nat} [hx:aO x L] [hy:aO y M] (h:L + M + 1 ≤ 17592186044415):bE Tryz.prog 149 [QT x,QT y] (QT (x + y)):=by
 have hxa:=jG hx.fit; have hxb:=jT hx.fit; have hxd:=jH hx.fit
 have hya:=jG hy.fit; have hyb:=jT hy.fit; have hyd:=jH hy.fit
 have hxp:=x.den_pos; have hyp:=y.den_pos; have hdp:=Nat.mul_pos hxp hyp
 have e1:=eB x.a y.den; have e2:=eB y.a x.den; have e3:=eB x.b y.den; have e4:=eB y.b x.den; have e5:=sS x.den y.den
 have e6:=kN (x:=x.a * y.den) (y:=y.a * x.den) (L:=L + M) zo zo; have e7:=kN (x:=x.b * y.den) (y:=y.b * x.den) (L:=L + M) zo zo
 refine bE.intro Tryz.func149 rfl Tryz.ntmps149 rfl (fun cx=>?_)
 have n1:(dg ((x.den:Nat):Int).natAbs).length ≤ L:=by rw [Int.natAbs_natCast]; exact hxd
 have n2:(dg ((y.den:Nat):Int).natAbs).length ≤ M:=by rw [Int.natAbs_natCast]; exact hyd
 refine ts (rn rfl (fG (Ht rfl)) fun B2=>(rn rfl (fG (Ht rfl)) fun B3=>(rn rfl (eW (Ts:=[Is (.bool false),Is (.slice none 0 0),Is (.bool false),Is (.slice none 0 0),Is (.slice none 0 0)]) O_131 rfl (fun V=>aW zd (aW zd (aW zd (aW zd (aW zd (aG))))))) fun B4=>(eX (cK (Y.D_start (m:=9) [] (bY (Ei:=[(2,_)]) rfl rfl (bQ (bJ rfl rfl) bX) rfl rfl (dX rfl (eZ gG (Ht rfl) rfl)) (bY (Ei:=[(7,_)]) rfl rfl (bQ (bZ 0 rfl rfl) bX) rfl rfl (dX rfl (eY A_46 Z_46 (Ht rfl) (i:=0) rfl rfl)) ?_))))))))
 refine bY (Ei:=[(8,_)]) rfl rfl (bQ (bZ 1 rfl rfl) bX) rfl rfl (dX rfl (aL.imp (mM cV (Ht rfl)) yO)) (bY (Ei:=[(3,_)]) rfl rfl (bQ (bJ rfl rfl) bX) rfl rfl (dX rfl (eZ gG (Ht rfl) rfl)) (bY (Ei:=[(10,_)]) rfl rfl (bQ (bZ 3 rfl rfl) bX) rfl rfl (dX rfl (eY A_46 Z_46 (Ht rfl) (i:=1) rfl rfl)) (bY (Ei:=[(11,_)]) rfl rfl (bQ (bZ 4 rfl rfl) bX) rfl rfl (dX rfl (aL.imp (mM cV (Ht rfl)) yO)) ?_)))
 refine Y.D_newp (Ei:=[]) (fun bb=>box bb 129 [aE (decide (((x.den:Nat):Int) < 0)),aI (((x.den:Nat):Int)).natAbs]) 8 rfl rfl rfl bX rfl rfl (by kernel_rfl) (eW (Ts:=[Is (.bool false),Is (.slice none 0 0)]) O_129 rfl (fun V=>aW zd (aW zd (aG)))) (Y.D_new (Ei:=[]) rfl rfl rfl bX rfl rfl (eW (Ts:=[Is (.bool false),Is (.slice none 0 0)]) O_129 rfl (fun V=>aW zd (aW zd (aG)))) (Y.D_putN (Ei:=[(9,_)]) 6 rfl rfl rfl rfl rfl rfl (bQ (bZ 2 rfl rfl) bX) (fun bb=>sF Z_129 (Ht rfl) (Ht rfl) rfl (i:=0) rfl (aK rfl) rfl rfl) ?_))
 refine Y.D_done aT rfl (by kernel_rfl) rfl (by simp [Y.okP]) rfl rfl (bU (bU (bU (bU (bU (bU (Y.F_newp (fun B5=>Y.F_new (fun B6=>Y.F_putN (Y.F_nil ?_))))))))))
 refine gQ Z_129 (Ht rfl) (Ht rfl) rfl (i:=4) rfl (aK rfl) rfl rfl (eX (cK (fZ (m:=22) (dp 2 rfl (eZ gF (Ht rfl) rfl) (dq 13 0 rfl (eJ A_129 Z_129 (Ht rfl) (i:=0) rfl rfl rfl) (dp 6 rfl (eJ A_129 Z_129 (Ht rfl) (i:=4) rfl rfl rfl) (cL 14 1 15 2 rfl (cZ K_225 (kM zo zo) ⟨(Ht rfl),(Ht rfl),trivial⟩) (dp 3 rfl (eZ gF (Ht rfl) rfl) (dq 17 4 rfl (eJ A_129 Z_129 (Ht rfl) (i:=1) rfl rfl rfl) (dp 5 rfl (eJ A_129 Z_129 (Ht rfl) (i:=3) rfl rfl rfl) ?_))))))))))
 refine cL 18 5 19 6 rfl (cZ K_225 (kM zo zo) ⟨(Ht rfl),(Ht rfl),trivial⟩) (cL 16 3 20 7 rfl (cZ Tryz.call230 (tW zo zo) ⟨(Ht rfl),(Ht rfl),trivial⟩) (dp 2 rfl (eZ gT (Ht rfl) rfl) (dq 22 9 rfl (eJ A_129 Z_129 (Ht rfl) (i:=0) rfl rfl rfl) (dp 6 rfl (eJ A_129 Z_129 (Ht rfl) (i:=4) rfl rfl rfl) (cL 23 10 24 11 rfl (cZ K_225 (kM zo zo) ⟨(Ht rfl),(Ht rfl),trivial⟩) (dp 3 rfl (eZ gT (Ht rfl) rfl) (dq 26 13 rfl (eJ A_129 Z_129 (Ht rfl) (i:=1) rfl rfl rfl) ?_)))))))
 refine dp 5 rfl (eJ A_129 Z_129 (Ht rfl) (i:=3) rfl rfl rfl) (cL 27 14 28 15 rfl (cZ K_225 (kM zo zo) ⟨(Ht rfl),(Ht rfl),trivial⟩) (cL 25 12 29 16 rfl (cZ Tryz.call230 (tW zo zo) ⟨(Ht rfl),(Ht rfl),trivial⟩) (dp 2 rfl (eZ gG (Ht rfl) rfl) (dq 31 18 rfl (eY A_46 Z_46 (Ht rfl) (i:=0) rfl rfl) (dp 3 rfl (eZ gG (Ht rfl) rfl) (dq 33 20 rfl (eY A_46 Z_46 (Ht rfl) (i:=1) rfl rfl) (fV aT rfl (by kernel_rfl) (zF (zF (zF (zF (zF (aJ (aJ (aV ?_)))))))))))))))
 refine ro rfl (cZ Tryz.call226 (tX zo zo) ⟨(Ht rfl),(Ht rfl),trivial⟩) (ro rfl (cZ Tryz.call224 (wG (by first | assumption | omega) zo zo zo) ⟨(Ht rfl),(Ht rfl),(Ht rfl),trivial⟩) (gQ Z_131 (Ht rfl) (Ht rfl) rfl (i:=2) rfl (aK rfl) rfl rfl (eX (fW rfl (fX (fK A_131 Z_131 rfl (i:=2) rfl rfl) ?_)))))
 exact (Eh (Qi.mk_add x y))
theorem a31 {x:Qi}:bE Tryz.prog 150 [QT x] (QT (-x)):=by
 refine bE.intro Tryz.func150 rfl Tryz.ntmps150 rfl (fun cx=>(ts (rn rfl (fG (Ht rfl)) fun B1=>(rn rfl (eW (Ts:=[Is (.bool false),Is (.slice none 0 0),Is (.bool false),Is (.slice none 0 0),Is (.slice none 0 0)]) O_131 rfl (fun V=>aW zd (aW zd (aW zd (aW zd (aW zd (aG))))))) fun B2=>(eX (cK (fZ (m:=8) (dp 1 rfl (eZ gF (Ht rfl) rfl) (dq 3 0 rfl (eJ A_129 Z_129 (Ht rfl) (i:=0) rfl rfl rfl) ?_)))))))))
 refine dq 4 1 rfl (cZ K_228 oR ⟨(Ht rfl),trivial⟩) (dp 1 rfl (eZ gT (Ht rfl) rfl) (dq 6 3 rfl (eJ A_129 Z_129 (Ht rfl) (i:=0) rfl rfl rfl) (dq 7 4 rfl (cZ K_228 oR ⟨(Ht rfl),trivial⟩) (dp 1 rfl (eZ gG (Ht rfl) rfl) (dq 9 6 rfl (eY A_46 Z_46 (Ht rfl) (i:=0) rfl rfl) (fV aT rfl (by kernel_rfl) (zF (zF (aV (ro rfl (lZ (Ht rfl) (Ht rfl) (Ht rfl)) (gQ Z_131 (Ht rfl) (Ht rfl) rfl (i:=1) rfl (aK rfl) rfl rfl ?_)))))))))))
 refine eX (fW rfl (fX (fK A_131 Z_131 rfl (i:=1) rfl rfl) ?_))
 exact (nJ (by obtain ⟨e1,e2,e3⟩:=Qi.neg_a x; rw [e1,e2,e3]; rfl))
theorem Gq {x:Qi}:bE Tryz.prog 173 [QT x] (QT x.conj):=by
 refine bE.intro Tryz.func173 rfl Tryz.ntmps173 rfl (fun cx=>(ts (rn rfl (fG (Ht rfl)) fun B1=>(rn rfl (eW (Ts:=[Is (.bool false),Is (.slice none 0 0),Is (.bool false),Is (.slice none 0 0),Is (.slice none 0 0)]) O_131 rfl (fun V=>aW zd (aW zd (aW zd (aW zd (aW zd (aG))))))) fun B2=>(eX (cK (fZ (m:=7) (dp 1 rfl (eZ gF (Ht rfl) rfl) (dq 3 0 rfl (eJ A_129 Z_129 (Ht rfl) (i:=0) rfl rfl rfl) ?_)))))))))
 refine dp 1 rfl (eZ gT (Ht rfl) rfl) (dq 5 2 rfl (eJ A_129 Z_129 (Ht rfl) (i:=0) rfl rfl rfl) (dq 6 3 rfl (cZ K_228 oR ⟨(Ht rfl),trivial⟩) (dp 1 rfl (eZ gG (Ht rfl) rfl) (dq 8 5 rfl (eY A_46 Z_46 (Ht rfl) (i:=0) rfl rfl) (fV aT rfl (by kernel_rfl) (zF (aJ (aJ (aJ (aV (ro rfl (lZ (Ht rfl) (Ht rfl) (Ht rfl)) (gQ Z_131 (Ht rfl) (Ht rfl) rfl (i:=1) rfl (aK rfl) rfl rfl (eX (fW rfl (fX (fK A_131 Z_131 rfl (i:=1) rfl rfl) ?_)))))))))))))))
 exact (nJ (by obtain ⟨e1,e2,e3⟩:=Qi.conj_a x; rw [e1,e2,e3]; rfl))
theorem Mr {x y:Qi} {L M:Nat} [hx:aO x L] [hy:aO y M] (h:L + M + 1 ≤ 17592186044415):bE Tryz.prog 147 [QT x,QT y] (QT (x - y)):=by
 have hxa:=jG hx.fit; have hxb:=jT hx.fit; have hxd:=jH hx.fit
 have hya:=jG hy.fit; have hyb:=jT hy.fit; have hyd:=jH hy.fit
 have hxp:=x.den_pos; have hyp:=y.den_pos; have hdp:=Nat.mul_pos hxp hyp
 refine bE.intro Tryz.func147 rfl Tryz.ntmps147 rfl (fun cx=>(ts (rn rfl (fG (Ht rfl)) fun B2=>(rn rfl (fG (Ht rfl)) fun B3=>(rn rfl (eW (Ts:=[Is (.bool false),Is (.slice none 0 0),Is (.bool false),Is (.slice none 0 0),Is (.slice none 0 0)]) O_131 rfl (fun V=>aW zd (aW zd (aW zd (aW zd (aW zd (aG))))))) fun B4=>(eX (cK (fZ (m:=3) (dp 2 rfl (eJ A_131 Z_131 (Ht rfl) (i:=0) rfl rfl rfl) (dp 3 rfl (eJ A_131 Z_131 (Ht rfl) (i:=1) rfl rfl rfl) ?_))))))))))
 refine dq 6 1 rfl (cZ Tryz.call150 a31 ⟨(Ht rfl),trivial⟩) (fV aT rfl (by kernel_rfl) (aJ (aJ (aJ (aV (ro rfl (cZ Tryz.call149 (Mo zo) ⟨(Ht rfl),(Ht rfl),trivial⟩) (gQ Z_131 (Ht rfl) (Ht rfl) rfl (i:=2) rfl (aK rfl) rfl rfl (eX (fW rfl (fX (fK A_131 Z_131 rfl (i:=2) rfl rfl) ?_))))))))))
 exact (Eh (Qi.sub_def x y).symm)
theorem yE {x y:Qi} {L M:Nat} [hx:aO x L] [hy:aO y M] (h:L + M + 1 ≤ 17592186044415):bE Tryz.prog 146 [QT x,QT y] (QT (x * y)):=by
 have hxa:=jG hx.fit; have hxb:=jT hx.fit; have hxd:=jH hx.fit
 have hya:=jG hy.fit; have hyb:=jT hy.fit; have hyd:=jH hy.fit
 have hxp:=x.den_pos; have hyp:=y.den_pos; have hdp:=Nat.mul_pos hxp hyp
 have e1:=kO x.a y.a; have e2:=kO x.b y.b; have e3:=kO x.a y.b; have e4:=kO x.b y.a; have e5:=sS x.den y.den; have e8:=rP (x.b * y.b)
 have e6:=kN (x:=x.a * y.a) (y:=-(x.b * y.b)) (L:=L + M) zo zo; have e7:=kN (x:=x.a * y.b) (y:=x.b * y.a) (L:=L + M) zo zo
 refine bE.intro Tryz.func146 rfl Tryz.ntmps146 rfl (fun cx=>(ts (rn rfl (fG (Ht rfl)) fun B2=>(rn rfl (fG (Ht rfl)) fun B3=>(rn rfl (eW (Ts:=[Is (.bool false),Is (.slice none 0 0),Is (.bool false),Is (.slice none 0 0),Is (.slice none 0 0)]) O_131 rfl (fun V=>aW zd (aW zd (aW zd (aW zd (aW zd (aG))))))) fun B4=>(eX (cK (fZ (m:=26) (dp 2 rfl (eZ gF (Ht rfl) rfl) (dq 5 0 rfl (eJ A_129 Z_129 (Ht rfl) (i:=0) rfl rfl rfl) ?_))))))))))
 refine dp 3 rfl (eZ gF (Ht rfl) rfl) (dq 7 2 rfl (eJ A_129 Z_129 (Ht rfl) (i:=1) rfl rfl rfl) (cL 6 1 8 3 rfl (cZ K_225 (kM zo zo) ⟨(Ht rfl),(Ht rfl),trivial⟩) (dp 2 rfl (eZ gT (Ht rfl) rfl) (dq 10 5 rfl (eJ A_129 Z_129 (Ht rfl) (i:=0) rfl rfl rfl) (dp 3 rfl (eZ gT (Ht rfl) rfl) (dq 12 7 rfl (eJ A_129 Z_129 (Ht rfl) (i:=1) rfl rfl rfl) (cL 11 6 13 8 rfl (cZ K_225 (kM zo zo) ⟨(Ht rfl),(Ht rfl),trivial⟩) (cL 9 4 14 9 rfl (cZ Tryz.call229 (Sj zo zo) ⟨(Ht rfl),(Ht rfl),trivial⟩) ?_))))))))
 refine dp 2 rfl (eZ gF (Ht rfl) rfl) (dq 16 11 rfl (eJ A_129 Z_129 (Ht rfl) (i:=0) rfl rfl rfl) (dp 3 rfl (eZ gT (Ht rfl) rfl) (dq 18 13 rfl (eJ A_129 Z_129 (Ht rfl) (i:=1) rfl rfl rfl) (cL 17 12 19 14 rfl (cZ K_225 (kM zo zo) ⟨(Ht rfl),(Ht rfl),trivial⟩) (dp 2 rfl (eZ gT (Ht rfl) rfl) (dq 21 16 rfl (eJ A_129 Z_129 (Ht rfl) (i:=0) rfl rfl rfl) (dp 3 rfl (eZ gF (Ht rfl) rfl) (dq 23 18 rfl (eJ A_129 Z_129 (Ht rfl) (i:=1) rfl rfl rfl) ?_))))))))
 refine cL 22 17 24 19 rfl (cZ K_225 (kM zo zo) ⟨(Ht rfl),(Ht rfl),trivial⟩) (cL 20 15 25 20 rfl (cZ Tryz.call230 (tW zo zo) ⟨(Ht rfl),(Ht rfl),trivial⟩) (dp 2 rfl (eZ gG (Ht rfl) rfl) (dq 27 22 rfl (eY A_46 Z_46 (Ht rfl) (i:=0) rfl rfl) (dp 3 rfl (eZ gG (Ht rfl) rfl) (dq 29 24 rfl (eY A_46 Z_46 (Ht rfl) (i:=1) rfl rfl) (fV aT rfl (by kernel_rfl) (zF (zF (zF (zF (zF (zF (aJ (aJ (aV ?_)))))))))))))))
 refine ro rfl (cZ Tryz.call226 (tX zo zo) ⟨(Ht rfl),(Ht rfl),trivial⟩) (ro rfl (cZ Tryz.call224 (wG (by first | assumption | omega) zo zo zo) ⟨(Ht rfl),(Ht rfl),(Ht rfl),trivial⟩) (gQ Z_131 (Ht rfl) (Ht rfl) rfl (i:=2) rfl (aK rfl) rfl rfl (eX (fW rfl (fX (fK A_131 Z_131 rfl (i:=2) rfl rfl) ?_)))))
 exact (Eh (Qi.mk_mul x y))
theorem Pj {x:Qi}:bE Tryz.prog 166 [QT x] (aE (decide (x = Qi.zero))):=by
 refine bE.intro Tryz.func166 rfl Tryz.ntmps166 rfl (fun cx=>(ts (rn rfl (fG (Ht rfl)) fun B1=>(ro rfl (cQ cV) (eX (ts (ro rfl (eZ gF (Ht rfl) rfl) (ro rfl (eZ dS (Ht rfl) rfl) (ro rfl (eY A_46 Z_46 (Ht rfl) (i:=0) rfl rfl) (ro rfl (dG U_46 (Ht rfl) aA) (ro rfl (cP (Ht rfl) (cJ 0)) (rm rfl (fQ rfl rfl (eK rfl rfl (Ht rfl) (fun h=>eZ gT (Ht rfl) rfl)) (fQ rfl rfl (eK rfl rfl (Ht rfl) (fun h=>eZ dS (fJ rfl h) rfl)) (fQ rfl rfl (eK rfl rfl (Ht rfl) (fun h=>eY A_46 Z_46 (fJ rfl h) (i:=0) rfl rfl)) ?_)))))))))))))))
 refine fQ rfl rfl (eK rfl rfl (Ht rfl) (fun h=>dG U_46 (fJ rfl h) aA)) (fQ rfl rfl (eK rfl rfl (Ht rfl) (fun h=>cP (fJ rfl h) (cJ 0))) (ro rfl (fF (Ht rfl) (fun h=>(fJ rfl h))) (ra rfl (eX (fW rfl (fX (eU rfl) ?_))))))
 exact (eH (Zo x))
theorem a0E {x y:Qi} {L M:Nat} [hx:aO x L] [hy:aO y M] (h:L ≤ 17592186044415) (h2:M ≤ 17592186044415):bE Tryz.prog 164 [QT x,QT y] (aE (decide (x = y))):=by
 have hxa:=jG hx.fit; have hxb:=jT hx.fit; have hxd:=jH hx.fit
 have hya:=jG hy.fit; have hyb:=jT hy.fit; have hyd:=jH hy.fit
 refine bE.intro Tryz.func164 rfl Tryz.ntmps164 rfl (fun cx=>(ts (rn rfl (fG (Ht rfl)) fun B2=>(rn rfl (fG (Ht rfl)) fun B3=>(ro rfl (cQ cV) (eX (ts (ro rfl (eZ gF (Ht rfl) rfl) (ro rfl (eJ A_129 Z_129 (Ht rfl) (i:=0) rfl rfl rfl) (ro rfl (eZ gF (Ht rfl) rfl) (ro rfl (eJ A_129 Z_129 (Ht rfl) (i:=1) rfl rfl rfl) (ro rfl (cZ Tryz.call236 (Ep zo zo) ⟨(Ht rfl),(Ht rfl),trivial⟩) (ro rfl (jR (Ht rfl) cV) (rm rfl (fQ rfl rfl (eK rfl rfl (Ht rfl) (fun h=>eZ gT (Ht rfl) rfl)) ?_)))))))))))))))
 refine fQ rfl rfl (eK rfl rfl (Ht rfl) (fun h=>eJ A_129 Z_129 (fJ rfl h) (i:=0) rfl rfl rfl)) (fQ rfl rfl (eK rfl rfl (Ht rfl) (fun h=>eZ gT (Ht rfl) rfl)) (fQ rfl rfl (eK rfl rfl (Ht rfl) (fun h=>eJ A_129 Z_129 (fJ rfl h) (i:=1) rfl rfl rfl)) (fQ rfl rfl (eK rfl rfl (Ht rfl) (fun h=>cZ Tryz.call236 (Ep zo zo) ⟨(fJ rfl h),(fJ rfl h),trivial⟩)) (fQ rfl rfl (eK rfl rfl (Ht rfl) (fun h=>jR (fJ rfl h) cV)) (ro rfl (fF (Ht rfl) (fun h=>(fJ rfl h))) ?_)))))
 refine rm rfl (fQ rfl rfl (eK rfl rfl (Ht rfl) (fun h=>eZ gG (Ht rfl) rfl)) (fQ rfl rfl (eK rfl rfl (Ht rfl) (fun h=>eY A_46 Z_46 (fJ rfl h) (i:=0) rfl rfl)) (fQ rfl rfl (eK rfl rfl (Ht rfl) (fun h=>eZ gG (Ht rfl) rfl)) (fQ rfl rfl (eK rfl rfl (Ht rfl) (fun h=>eY A_46 Z_46 (fJ rfl h) (i:=1) rfl rfl)) (fQ rfl rfl (eK rfl rfl (Ht rfl) (fun h=>cZ Tryz.call237 (qS zo zo) ⟨(fJ rfl h),(fJ rfl h),trivial⟩)) (fQ rfl rfl (eK rfl rfl (Ht rfl) (fun h=>jR (fJ rfl h) cV)) ?_))))))
 refine ro rfl (fF (Ht rfl) (fun h=>(fJ rfl h))) (ra rfl (eX (fW rfl (fX (eU rfl) ?_))))
 exact (eH (Zn x y))
theorem a4t {x:Qi} {L:Nat} [hx:aO x L] (h:L ≤ 17592186044415):bE Tryz.prog 274 [QT x] (QT x.imp):=by
 have hxa:=jG hx.fit; have hxb:=jT hx.fit; have hxd:=jH hx.fit
 have hxp:=x.den_pos
 have h5:(dg (0:Int).natAbs).length ≤ 0:=by rw [show (0:Int).natAbs = 0 from rfl,eT]; exact Nat.le_refl _
 refine bE.intro Tryz.func274 rfl Tryz.ntmps274 rfl (fun cx=>(ts (rn rfl (fG (Ht rfl)) fun B1=>(rn rfl (eW (Ts:=[Is (.bool false),Is (.slice none 0 0),Is (.bool false),Is (.slice none 0 0),Is (.slice none 0 0)]) O_131 rfl (fun V=>aW zd (aW zd (aW zd (aW zd (aW zd (aG))))))) fun B2=>(eX (ts (ro rfl (eZ gT (Ht rfl) rfl) (ro rfl (eJ A_129 Z_129 (Ht rfl) (i:=0) rfl rfl rfl) (ro rfl (aL.imp (Ir ) Dh) ?_)))))))))
 refine ro rfl (eZ gG (Ht rfl) rfl) (ro rfl (eY A_46 Z_46 (Ht rfl) (i:=0) rfl rfl) (ro rfl (cZ Tryz.call224 (wG (by first | assumption | omega) zo zo zo) ⟨(Ht rfl),(Ht rfl),(Ht rfl),trivial⟩) (gQ Z_131 (Ht rfl) (Ht rfl) rfl (i:=1) rfl (aK rfl) rfl rfl (eX (fW rfl (fX (fK A_131 Z_131 rfl (i:=1) rfl rfl) ?_))))))
 exact (Eh (Qi.mk_im0 x))
theorem a0D {x:Qi} {L:Nat} [hx:aO x L] (h:L + L + 1 ≤ 17592186044415):bE Tryz.prog 223 [QT x] (QT x.norm):=by
 refine bE.intro Tryz.func223 rfl Tryz.ntmps223 rfl (fun cx=>(ts (rn rfl (fG (Ht rfl)) fun B1=>(rn rfl (eW (Ts:=[Is (.bool false),Is (.slice none 0 0),Is (.bool false),Is (.slice none 0 0),Is (.slice none 0 0)]) O_131 rfl (fun V=>aW zd (aW zd (aW zd (aW zd (aW zd (aG))))))) fun B2=>(eX (cK (fZ (m:=3) (dp 1 rfl (eJ A_131 Z_131 (Ht rfl) (i:=0) rfl rfl rfl) (dp 1 rfl (eJ A_131 Z_131 (Ht rfl) (i:=0) rfl rfl rfl) ?_)))))))))
 refine dq 4 1 rfl (cZ Tryz.call173 Gq ⟨(Ht rfl),trivial⟩) (fV aT rfl (by kernel_rfl) (aJ (aJ (aJ (aV (ro rfl (cZ K_146 (yE zo) ⟨(Ht rfl),(Ht rfl),trivial⟩) (gQ Z_131 (Ht rfl) (Ht rfl) rfl (i:=1) rfl (aK rfl) rfl rfl (eX (fW rfl (fX (fK A_131 Z_131 rfl (i:=1) rfl rfl) ?_))))))))))
 exact (Eh (Qi.mul_conj x))
theorem Ph {x:Qi}:bE Tryz.prog 239 [QT x] (aP .i64 (lA x.a 0)):=by
 refine bE.intro Tryz.func239 rfl Tryz.ntmps239 rfl (fun cx=>(ts (rn rfl (fG (Ht rfl)) fun B1=>(ro rfl (cQ (cJ 0)) (eX (cK (ts (ro rfl (eZ gF (Ht rfl) rfl) (ro rfl (eZ gS (Ht rfl) rfl) (ro rfl (eY A_4 Z_4 (Ht rfl) (i:=0) rfl rfl) (eX (dQ (Ht rfl) (fun hb=>?_) (fun hb=>?_)))))))))))))
 ·simp only [decide_eq_true_eq] at hb
  refine ts (ro rfl (cQ cV) (eX (fW rfl (fX (eU rfl) ?_))))
  exact (aM (by rw [lA,if_pos hb]))
 ·simp only [decide_eq_false_iff_not] at hb
  refine cU (cK (ts (ro rfl (eZ gF (Ht rfl) rfl) (ro rfl (eZ dS (Ht rfl) rfl) (ro rfl (eY A_46 Z_46 (Ht rfl) (i:=0) rfl rfl) (ro rfl (dG U_46 (Ht rfl) aA) (ro rfl (eE (Ht rfl) (cJ 0)) (eX (dQ (Ht rfl) (fun hc=>?_) (fun hc=>?_))))))))))
  ·simp only [decide_eq_true_eq] at hc
   have h0:x.a ≠ 0:=fun e=>by rw [e] at hc; simp [eT] at hc
   refine ts (ro rfl (cQ (cJ 1)) (eX (fW rfl (fX (eU rfl) ?_))))
   exact (aM (by rw [lA,if_neg hb,if_pos zo]; rfl))
  ·simp only [decide_eq_false_iff_not] at hc
   have h0:x.a = 0:=by have:=aN.1 (Nat.eq_zero_of_not_pos hc); omega
   refine cU (ts (ro rfl (cQ (cJ 0)) (eX (fW rfl (fX (eU rfl) ?_)))))
   exact (aM (by rw [lA,if_neg hb,if_neg zo]; rfl))
theorem a0F {x:Qi} {L:Nat} [hx:aO x L] (h:L ≤ 17592186044415):bE Tryz.prog 242 [QT x] (aP .i64 (lA x.b 0)):=by
 refine bE.intro Tryz.func242 rfl Tryz.ntmps242 rfl (fun cx=>(ts (rn rfl (fG (Ht rfl)) fun B1=>(ro rfl (cQ (cJ 0)) (eX (ts (ro rfl (eJ A_131 Z_131 (Ht rfl) (i:=0) rfl rfl rfl) (ro rfl (cZ Tryz.call274 (a4t zo) ⟨(Ht rfl),trivial⟩) (ro rfl (cZ Tryz.call239 Ph ⟨(Ht rfl),trivial⟩) (ra rfl (eX (fW rfl (fX (eU rfl) ?_)))))))))))))
 exact (aM (a1Y x))
theorem Pg {x y:Qi} {L M:Nat} [hx:aO x L] [hy:aO y M] (h:L + 3 * M + 2 ≤ 17592186044415):bE Tryz.prog 144 [QT x,QT y] (gC [QT (x / y),aP .i64 (if y = Qi.zero then 3 else 0)]):=by
 have hxa:=jG hx.fit; have hxb:=jT hx.fit; have hxd:=jH hx.fit
 have hya:=jG hy.fit; have hyb:=jT hy.fit; have hyd:=jH hy.fit
 have hxp:=x.den_pos; have hyp:=y.den_pos; have hdp:=Nat.mul_pos hxp hyp
 refine bE.intro Tryz.func144 rfl Tryz.ntmps144 rfl (fun cx=>(ts (rn rfl (fG (Ht rfl)) fun B2=>(rn rfl (fG (Ht rfl)) fun B3=>(rn rfl (eW (Ts:=[Is (.bool false),Is (.slice none 0 0),Is (.bool false),Is (.slice none 0 0),Is (.slice none 0 0)]) O_131 rfl (fun V=>aW zd (aW zd (aW zd (aW zd (aW zd (aG))))))) fun B4=>(ro rfl (cQ (cJ 0)) (eX (cK (ts (ro rfl (eJ A_131 Z_131 (Ht rfl) (i:=1) rfl rfl rfl) ?_))))))))))
 refine ro rfl (cZ Tryz.call166 Pj ⟨(Ht rfl),trivial⟩) (eX (dQ (Ht rfl) (fun hb=>?_) (fun hb=>?_)))
 ·simp only [decide_eq_true_eq] at hb
  refine ts (ro rfl (cZ K_148 (pD (by decide) (by decide)) ⟨(cJ 0),trivial⟩) (gQ Z_131 (Ht rfl) (Ht rfl) rfl (i:=2) rfl (aK rfl) rfl rfl (ro rfl (cQ (cJ 3)) (eX (bM rfl (fX (fK A_131 Z_131 rfl (i:=2) rfl rfl) ?_) (fX (eU rfl) ?_))))))
  ·exact (Eh (by rw [hb,Qi.div_zero]; rfl))
  ·exact (aM (by rw [if_pos hb]; rfl))
 ·simp only [decide_eq_false_iff_not] at hb
  obtain ⟨n,hn⟩:∃ n,n = y.norm:=⟨_,rfl⟩
  obtain ⟨z,hz⟩:∃ z,z = x * y.conj:=⟨_,rfl⟩
  haveI fn:aO n (M + M + 1):=hn ▸ fitNorm
  haveI fz:aO z (L + M + 1):=hz ▸ fitMul
  have hna:=jG fn.fit; have hnd:=jH fn.fit; have hza:=jG fz.fit; have hzb:=jT fz.fit; have hzd:=jH fz.fit
  have hnp:0 < n.a:=hn ▸ Qi.norm_pos hb
  have hm:((n.a.natAbs:Nat):Int) = n.a:=Int.natAbs_of_nonneg zo
  have hdp2:=Nat.mul_pos z.den_pos (show 0 < n.a.natAbs by omega)
  have n1:(dg ((n.den:Nat):Int).natAbs).length ≤ M + M + 1:=by rw [Int.natAbs_natCast]; exact hnd
  have e1:=eB z.a n.den; have e2:=eB z.b n.den; have e3:=sS z.den n.a.natAbs
  refine cU (ts (ro rfl (eJ A_131 Z_131 (Ht rfl) (i:=1) rfl rfl rfl) (ro rfl (aL.imp (cZ Tryz.call223 (a0D zo) ⟨(Ht rfl),trivial⟩) (Eh hn.symm)) (rn rfl (eW (Ts:=[Is (.bool false),Is (.slice none 0 0),Is (.bool false),Is (.slice none 0 0),Is (.slice none 0 0)]) O_131 rfl (fun V=>aW zd (aW zd (aW zd (aW zd (aW zd (aG))))))) fun B6=>(gQ Z_131 (Ht rfl) (Ht rfl) rfl (i:=3) rfl (aK rfl) rfl rfl ?_)))))
  refine eX (cK (fZ (m:=5) (dp 2 rfl (eJ A_131 Z_131 (Ht rfl) (i:=0) rfl rfl rfl) (dp 3 rfl (eJ A_131 Z_131 (Ht rfl) (i:=1) rfl rfl rfl) (dq 15 1 rfl (cZ Tryz.call173 Gq ⟨(Ht rfl),trivial⟩) (cL 14 0 16 2 rfl (aL.imp (cZ K_146 (yE zo) ⟨(Ht rfl),(Ht rfl),trivial⟩) (Eh hz.symm)) (C.D_new (Ei:=[]) rfl rfl rfl bW (eW (Ts:=[Is (.bool false),Is (.slice none 0 0),Is (.bool false),Is (.slice none 0 0),Is (.slice none 0 0)]) O_131 rfl (fun V=>aW zd (aW zd (aW zd (aW zd (aW zd (aG))))))) ?_)))))))
  refine fV aT rfl (by kernel_rfl) (zF (C.F_new (fun B7=>aV (gQ Z_131 (Ht rfl) (Ht rfl) rfl (i:=4) rfl (aK rfl) rfl rfl (eX (ts (ro rfl (eZ gG (Ht rfl) rfl) (ro rfl (eY A_46 Z_46 (Ht rfl) (i:=3) rfl rfl) (ro rfl (aL.imp (mM cV (Ht rfl)) yO) (rn rfl (eW (Ts:=[Is (.bool false),Is (.slice none 0 0)]) O_129 rfl (fun V=>aW zd (aW zd (aG)))) fun B8=>(gQ Z_129 (Ht rfl) (Ht rfl) rfl (i:=5) rfl (aK rfl) rfl rfl ?_)))))))))))
  refine eX (cK (fZ (m:=13) (dp 7 rfl (eZ gF (Ht rfl) rfl) (dq 21 0 rfl (eJ A_129 Z_129 (Ht rfl) (i:=4) rfl rfl rfl) (dp 8 rfl (eJ A_129 Z_129 (Ht rfl) (i:=5) rfl rfl rfl) (cL 22 1 23 2 rfl (cZ K_225 (kM zo zo) ⟨(Ht rfl),(Ht rfl),trivial⟩) (dp 7 rfl (eZ gT (Ht rfl) rfl) (dq 25 4 rfl (eJ A_129 Z_129 (Ht rfl) (i:=4) rfl rfl rfl) (dp 8 rfl (eJ A_129 Z_129 (Ht rfl) (i:=5) rfl rfl rfl) (cL 26 5 27 6 rfl (cZ K_225 (kM zo zo) ⟨(Ht rfl),(Ht rfl),trivial⟩) ?_))))))))))
  refine dp 7 rfl (eZ gG (Ht rfl) rfl) (dq 29 8 rfl (eY A_46 Z_46 (Ht rfl) (i:=4) rfl rfl) (dp 6 rfl (eZ gF (Ht rfl) rfl) (dq 31 10 rfl (eZ dS (Ht rfl) rfl) (dq 32 11 rfl (eY A_46 Z_46 (Ht rfl) (i:=3) rfl rfl) (fV aT rfl (by kernel_rfl) (zF (zF (zF (aJ (aV (ro rfl (cZ Tryz.call226 (tX zo zo) ⟨(Ht rfl),(Ht rfl),trivial⟩) (ro rfl (cZ Tryz.call224 (wG (by first | assumption | omega) zo zo zo) ⟨(Ht rfl),(Ht rfl),(Ht rfl),trivial⟩) ?_))))))))))))
  refine gQ Z_131 (Ht rfl) (Ht rfl) rfl (i:=2) rfl (aK rfl) rfl rfl (ro rfl (cQ (cJ 0)) (eX (bM rfl (fX (fK A_131 Z_131 rfl (i:=2) rfl rfl) ?_) (fX (eU rfl) ?_))))
  ·exact (Eh (Qi.mk_divR x hb hz hn hm))
  ·exact (aM (by rw [if_neg hb]; rfl))
theorem Vv {x y:Qi} {L M:Nat} [hx:aO x L] [hy:aO y M] (h:L + 3 * M + 2 ≤ 17592186044415):bE Tryz.prog 40 [aR x,aR y] (gC [aR (x / y),aP .i64 (if y = Qi.zero then 3 else 0)]):=by
 have hxa:=jG hx.fit; have hxb:=jT hx.fit; have hxd:=jH hx.fit
 have hya:=jG hy.fit; have hyb:=jT hy.fit; have hyd:=jH hy.fit
 have hxp:=x.den_pos; have hyp:=y.den_pos; have hMp:=hy.pos
 refine bE.intro Tryz.func40 rfl Tryz.ntmps40 rfl (fun cx=>(ts (rn rfl (fG (Ht rfl)) fun B2=>(rn rfl (fG (Ht rfl)) fun B3=>(rn rfl (eW (Ts:=[Is (.bool false),Is (.slice none 0 0),Is (.bool false),Is (.slice none 0 0),Is (.slice none 0 0)]) O_51 rfl (fun V=>aW zd (aW zd (aW zd (aW zd (aW zd (aG))))))) fun B4=>(ro rfl (cQ (cJ 0)) (eX (cK (ts (ro rfl (eJ A_51 Z_51 (Ht rfl) (i:=1) rfl rfl rfl) ?_))))))))))
 refine ro rfl (cZ Tryz.call27 (Ow zo) ⟨(Ht rfl),trivial⟩) (ro rfl (gB (Ht rfl)) (eX (dQ (Ht rfl) (fun hb=>?_) (fun hb=>?_))))
 ·have h0 : y = Qi.zero := by simpa using hb
  refine ts (ro rfl (aL.imp (Gi ) oA) (gQ Z_51 (Ht rfl) (Ht rfl) rfl (i:=2) rfl (aK rfl) rfl rfl (ro rfl (cQ (cJ 3)) (eX (bM rfl (fX (fK A_51 Z_51 rfl (i:=2) rfl rfl) ?_) (fX (eU rfl) ?_))))))
  ·exact (lW (by rw [h0,Qi.div_zero]))
  ·exact (aM (by rw [if_pos h0]; rfl))
 ·have h0 : y ≠ Qi.zero := by simpa using hb
  have g1:=kO y.a y.a; have g2:=kO y.b y.b; have g3:=rP y.b
  have g4:=kN (x:=y.a * y.a) (y:=y.b * y.b) (L:=M + M) zo zo
  obtain ⟨c,hc⟩:∃ c,c = Qi.mk' y.a (-y.b) 1:=⟨_,rfl⟩
  obtain ⟨z,hz⟩:∃ z,z = x * c:=⟨_,rfl⟩
  have l1:(dg 1).length ≤ 1:=by rw [Wy (by decide) (by decide)]; exact Nat.le_refl _
  haveI fc:aO c M:=hc ▸ ⟨Qi.Fit.mk (by decide) hy.fit.1 (by rw [Int.natAbs_neg]; exact hy.fit.2.1) (Qi.one_lt hMp)⟩
  haveI fz:aO z (L + M + 1):=hz ▸ fitMul
  have hza:=jG fz.fit; have hzb:=jT fz.fit; have hzd:=jH fz.fit
  have hnp:=Qi.nrm_int_pos h0
  have hm:(((y.a * y.a + y.b * y.b).natAbs:Nat):Int) = y.a * y.a + y.b * y.b:=Int.natAbs_of_nonneg zo
  have hdp2:=Nat.mul_pos z.den_pos (show 0 < (y.a * y.a + y.b * y.b).natAbs by omega)
  have e1:=eB z.a y.den; have e2:=eB z.b y.den; have e3:=sS z.den (y.a * y.a + y.b * y.b).natAbs
  refine cU (cK (fZ (m:=12) (dp 3 rfl (eZ gP (Ht rfl) rfl) (dq 12 0 rfl (eJ A_49 Z_49 (Ht rfl) (i:=1) rfl rfl rfl) (dp 3 rfl (eZ gP (Ht rfl) rfl) (dq 14 2 rfl (eJ A_49 Z_49 (Ht rfl) (i:=1) rfl rfl rfl) (cL 13 1 15 3 rfl (cZ K_132 (tZ zo zo) ⟨(Ht rfl),(Ht rfl),trivial⟩) (dp 3 rfl (eZ iG (Ht rfl) rfl) (dq 17 5 rfl (eJ A_49 Z_49 (Ht rfl) (i:=1) rfl rfl rfl) (dp 3 rfl (eZ iG (Ht rfl) rfl) (dq 19 7 rfl (eJ A_49 Z_49 (Ht rfl) (i:=1) rfl rfl rfl) ?_)))))))))))
  refine cL 18 6 20 8 rfl (cZ K_132 (tZ zo zo) ⟨(Ht rfl),(Ht rfl),trivial⟩) (cL 16 4 21 9 rfl (cZ K_133 (yC zo zo) ⟨(Ht rfl),(Ht rfl),trivial⟩) (C.D_new (Ei:=[]) rfl rfl rfl bW (eW (Ts:=[Is (.bool false),Is (.slice none 0 0)]) O_49 rfl (fun V=>aW zd (aW zd (aG)))) (fV aT rfl (by kernel_rfl) (zF (zF (aJ (aJ (aJ (C.F_new (fun B6=>aV (gQ Z_49 (Ht rfl) (Ht rfl) rfl (i:=3) rfl (aK rfl) rfl rfl ?_)))))))))))
  refine eX (cK (fZ (m:=10) (dp 2 rfl (eJ A_51 Z_51 (Ht rfl) (i:=0) rfl rfl rfl) (dp 3 rfl (eZ gP (Ht rfl) rfl) (dq 24 1 rfl (eJ A_49 Z_49 (Ht rfl) (i:=1) rfl rfl rfl) (dp 3 rfl (eZ iG (Ht rfl) rfl) (dq 26 3 rfl (eJ A_49 Z_49 (Ht rfl) (i:=1) rfl rfl rfl) (dq 27 4 rfl (cZ K_135 pX ⟨(Ht rfl),trivial⟩) (d0 rfl (aL.imp (bT (xs:=[_]) U_47 Z_189 O_189 (cW (cJ 1) cG) rfl rfl rfl) Cq) (C.D_step (Ei:=[(25,_),(28,_),(29,_)]) rfl rfl (bV (bG 2 rfl rfl) (bV (bG 5 rfl rfl) (bV (bG 6 rfl rfl) bW))) (dX rfl (aL.imp (cZ K_134 (yB (by first | assumption | omega) zo zo zo) ⟨(Ht rfl),(Ht rfl),(Ht rfl),trivial⟩) (lW hc.symm))) ?_))))))))))
  refine cL 23 0 30 7 rfl (aL.imp (cZ K_45 (pV zo) ⟨(Ht rfl),(Ht rfl),trivial⟩) (lW hz.symm)) (C.D_new (Ei:=[]) rfl rfl rfl bW (eW (Ts:=[Is (.bool false),Is (.slice none 0 0),Is (.bool false),Is (.slice none 0 0),Is (.slice none 0 0)]) O_51 rfl (fun V=>aW zd (aW zd (aW zd (aW zd (aW zd (aG))))))) (fV aT rfl (by kernel_rfl) (zF (zF (aJ (C.F_new (fun B7=>aV ?_)))))))
  refine gQ Z_51 (Ht rfl) (Ht rfl) rfl (i:=4) rfl (aK rfl) rfl rfl (eX (cK (fZ (m:=14) (dp 7 rfl (eZ gP (Ht rfl) rfl) (dq 32 0 rfl (eJ A_49 Z_49 (Ht rfl) (i:=4) rfl rfl rfl) (dp 3 rfl (eJ A_51 Z_51 (Ht rfl) (i:=1) rfl rfl rfl) (dq 34 2 rfl (cZ K_137 pW ⟨(Ht rfl),trivial⟩) (cL 33 1 35 3 rfl (cZ K_136 (mA zo zo) ⟨(Ht rfl),(Ht rfl),trivial⟩) (dp 7 rfl (eZ iG (Ht rfl) rfl) (dq 37 5 rfl (eJ A_49 Z_49 (Ht rfl) (i:=4) rfl rfl rfl) ?_))))))))))
  refine dp 3 rfl (eJ A_51 Z_51 (Ht rfl) (i:=1) rfl rfl rfl) (dq 39 7 rfl (cZ K_137 pW ⟨(Ht rfl),trivial⟩) (cL 38 6 40 8 rfl (cZ K_136 (mA zo zo) ⟨(Ht rfl),(Ht rfl),trivial⟩) (dp 7 rfl (eJ A_51 Z_51 (Ht rfl) (i:=4) rfl rfl rfl) (dq 42 10 rfl (cZ K_137 pW ⟨(Ht rfl),trivial⟩) (dp 6 rfl (eZ fP (Ht rfl) rfl) (dq 44 12 rfl (eY A_47 Z_47 (Ht rfl) (i:=3) rfl rfl) (fV aT rfl (by kernel_rfl) (zF (zF (zF (aJ (aJ (aV ?_)))))))))))))
  refine ro rfl (cZ Tryz.call138 (Iw zo zo) ⟨(Ht rfl),(Ht rfl),trivial⟩) (ro rfl (cZ K_134 (yB (by first | assumption | omega) zo zo zo) ⟨(Ht rfl),(Ht rfl),(Ht rfl),trivial⟩) (gQ Z_51 (Ht rfl) (Ht rfl) rfl (i:=2) rfl (aK rfl) rfl rfl (ro rfl (cQ (cJ 0)) (eX (bM rfl (fX (fK A_51 Z_51 rfl (i:=2) rfl rfl) ?_) (fX (eU rfl) ?_))))))
  ·exact (lW (Qi.mk_divP x h0 (hc ▸ hz) hm))
  ·exact (aM (by rw [if_neg h0]; rfl))
theorem tY {a:Int} {d:Nat} (hd:0 < d) (ha:(dg a.natAbs).length ≤ 8796093022208) (hd2:(dg d).length ≤ 8796093022208):bE Tryz.prog 243 [eI a,aI d] (qR (tE a d)):=by
 have hg:=Bw ha hd2
 have hg0:Nat.gcd a.natAbs d ≠ 0:=fun e=>by have:=Nat.gcd_eq_zero_iff.1 e; omega
 have h1:=Gy a.natAbs (Nat.gcd a.natAbs d); have h2:=Gy d (Nat.gcd a.natAbs d)
 rw [a1N a hd]
 obtain ⟨u,hu⟩:∃ u,u = a.natAbs / Nat.gcd a.natAbs d:=⟨_,rfl⟩
 obtain ⟨v,hv⟩:∃ v,v = d / Nat.gcd a.natAbs d:=⟨_,rfl⟩
 rw [← hu,← hv]
 rw [← hu] at h1
 rw [← hv] at h2
 have h3:=rO u; have h4:=rO v
 refine bE.intro Tryz.func243 rfl Tryz.ntmps243 rfl (fun cx=>(ts (rn rfl (fG (Ht rfl)) fun B2=>(ro rfl (cQ (bF.cS (l:=[]) rfl)) (eX (ts (ro rfl (eZ dS (Ht rfl) rfl) (ro rfl (eY A_46 Z_46 (Ht rfl) (i:=0) rfl rfl) (rm rfl (ro rfl (cZ Tryz.call264 (Mq zo zo) ⟨(Ht rfl),(Ht rfl),trivial⟩) (ra rfl (eX (ts (ro rfl (eZ dS (Ht rfl) rfl) (ro rfl (eY A_46 Z_46 (Ht rfl) (i:=0) rfl rfl) (rm rfl (ro rfl (cZ K_265 (yD zo zo zo) ⟨(Ht rfl),(Ht rfl),trivial⟩) ?_)))))))))))))))))
 refine rm rfl (ro rfl (aL.imp (dK (Ht rfl) rfl) (dH hu.symm)) (ro rfl (dK (Ht rfl) rfl) (ra rfl (ra rfl (eX (ts (rm rfl (rm rfl (ro rfl (cZ K_265 (yD zo zo zo) ⟨(Ht rfl),(Ht rfl),trivial⟩) (rm rfl (ro rfl (aL.imp (dK (Ht rfl) rfl) (dH hv.symm)) (ro rfl (dK (Ht rfl) rfl) (ra rfl (ra rfl (eX (ts (rm rfl (ro rfl (cZ Tryz.call275 (Pi zo) ⟨(Ht rfl),trivial⟩) (ra rfl (eX (cK (jO (fun (uu:Unit)=>True) (fun (uu:Unit)=>[(8,aI v),(10,qR (if a < 0 then 45 :: uX u else uX u))]) (fun (uu:Unit)=>[box B2 129 [aE (decide (a < 0)),aI (a).natAbs]]) ?_ (fun uu _=>?_)))))))))))))))))))))))
 ·refine ts (ro rfl (eZ gS (Ht rfl) rfl) (ro rfl (eY A_4 Z_4 (Ht rfl) (i := 0) rfl rfl) (eX (dQ (Ht rfl) (fun hb => ?_) (fun hb => ?_)))))
  ·simp only [decide_eq_true_eq] at hb
   refine cY (rm rfl (ro rfl (kG (bF.cS (l:=[45]) rfl) (Ht rfl) (by first | omega | (simp; omega))) (ra rfl (eX (bC () trivial (aQ rfl (aZ rfl (jS (by rw [if_pos hb]; rfl)) aX)) (dB.refl _))))))
  ·simp only [decide_eq_false_iff_not] at hb
   refine cU (bC () trivial (aQ rfl (aZ rfl (jS (by rw [if_neg hb])) aX)) (dB.refl _))
 ·have h6 : (if a < 0 then 45 :: uX u else uX u).length ≤ (uX u).length + 1 := by split <;> simp
  refine cK (ts (rm rfl (ro rfl (dG U_46 (Ht rfl) aA) (ro rfl (cP (Ht rfl) (cJ 1)) (rm rfl (fQ rfl rfl (eK rfl rfl (Ht rfl) (fun h=>cX (Ht rfl))) (fQ rfl rfl (eK rfl rfl (Ht rfl) (fun h=>dZ U_46 Z_189 (fJ rfl h) (cJ 0) rfl (dY (aF (by first | omega | (simp at h; omega)))))) (fQ rfl rfl (eK rfl rfl (Ht rfl) (fun h=>dJ A_189 Z_189 (fJ rfl h))) (fQ rfl rfl (eK rfl rfl (Ht rfl) (fun h=>cP (fJ rfl h) (cJ 1))) (ro rfl (fF (Ht rfl) (fun h=>(fJ rfl h))) ?_))))))))))
  refine eX (dQ (Ht rfl) (fun hc=>?_) (fun hc=>?_))
  ·rw [Hz] at hc
   have hv1:v = 1:=by simpa using hc
   refine ts (rm rfl (ra rfl (eX (fW rfl (fX (eU rfl) ?_)))))
   exact (jS (by rw [if_pos hv1,List.append_nil]))
  ·rw [Hz] at hc
   have hv1:v ≠ 1:=by simpa using hc
   refine cU (ts (rm rfl (ro rfl (kG (Ht rfl) (bF.cS (l:=[47]) rfl) (by simp only [List.length_cons,List.length_nil]; omega)) ?_)))
   refine rm rfl (ro rfl (cZ Tryz.call275 (Pi zo) ⟨(Ht rfl),trivial⟩) (ro rfl (kG (Ht rfl) (Ht rfl) (by simp only [List.length_append,List.length_cons,List.length_nil]; omega)) ?_))
   refine ra rfl (eX (fW rfl (fX (eU rfl) ?_)))
   exact (jS (by rw [if_neg hv1,List.append_assoc]; rfl))
theorem a34 {x:Qi} {L:Nat} [hx:aO x L] (h:L ≤ 8796093022208):bE Tryz.prog 181 [QT x] (qR (Uk x)):=by
 have hxa:=jG hx.fit; have hxb:=jT hx.fit; have hxd:=jH hx.fit
 have hdp:=x.den_pos
 have l1:=xG x.a hdp; have l2:=xG x.b hdp
 refine bE.intro Tryz.func181 rfl Tryz.ntmps181 rfl (fun cx=>(ts (rn rfl (fG (Ht rfl)) fun B1=>(ro rfl (cQ (bF.cS (l:=[]) rfl)) (eX (cK (ts (ro rfl (eZ gT (Ht rfl) rfl) (ro rfl (eZ dS (Ht rfl) rfl) (ro rfl (eY A_46 Z_46 (Ht rfl) (i:=0) rfl rfl) (ro rfl (dG U_46 (Ht rfl) aA) (ro rfl (cP (Ht rfl) (cJ 0)) (eX (dQ (Ht rfl) (fun hb=>?_) (fun hb=>?_)))))))))))))))
 ·simp only [decide_eq_true_eq] at hb
  have h0:x.b = 0:=by have:=aN.1 hb; omega
  refine ts (ro rfl (eZ gF (Ht rfl) rfl) (ro rfl (eJ A_129 Z_129 (Ht rfl) (i:=0) rfl rfl rfl) (ro rfl (eZ gG (Ht rfl) rfl) (ro rfl (eY A_46 Z_46 (Ht rfl) (i:=0) rfl rfl) (ro rfl (cZ K_243 (tY (by assumption) zo zo) ⟨(Ht rfl),(Ht rfl),trivial⟩) ?_)))))
  refine ra rfl (eX (fW rfl (fX (eU rfl) ?_)))
  exact (jS (by rw [Uk,if_pos h0]))
 ·simp only [decide_eq_false_iff_not] at hb
  have h0:x.b ≠ 0:=fun e=>hb (by rw [e]; exact aN.2 rfl)
  refine cU (cK (ts (ro rfl (eZ gF (Ht rfl) rfl) (ro rfl (eZ dS (Ht rfl) rfl) (ro rfl (eY A_46 Z_46 (Ht rfl) (i:=0) rfl rfl) (ro rfl (dG U_46 (Ht rfl) aA) (ro rfl (cP (Ht rfl) (cJ 0)) (eX (dQ (Ht rfl) (fun hc=>?_) (fun hc=>?_))))))))))
  ·simp only [decide_eq_true_eq] at hc
   have h1:x.a = 0:=by have:=aN.1 hc; omega
   refine ts (ro rfl (eZ gT (Ht rfl) rfl) (ro rfl (eJ A_129 Z_129 (Ht rfl) (i:=0) rfl rfl rfl) (ro rfl (eZ gG (Ht rfl) rfl) (ro rfl (eY A_46 Z_46 (Ht rfl) (i:=0) rfl rfl) (ro rfl (cZ K_243 (tY (by assumption) zo zo) ⟨(Ht rfl),(Ht rfl),trivial⟩) ?_)))))
   refine ro rfl (kG (Ht rfl) (bF.cS (l:=[105]) rfl) (by first | omega | (simp only [List.length_append,List.length_cons,List.length_nil]; omega))) (ra rfl (eX (fW rfl (fX (eU rfl) ?_))))
   exact (jS (by rw [Uk,if_neg h0,if_pos h1]))
  ·simp only [decide_eq_false_iff_not] at hc
   have h1:x.a ≠ 0:=fun e=>hc (by rw [e]; exact aN.2 rfl)
   refine cU (cK (ts (ro rfl (eZ gT (Ht rfl) rfl) (ro rfl (eZ gS (Ht rfl) rfl) (ro rfl (eY A_4 Z_4 (Ht rfl) (i:=0) rfl rfl) (eX (dQ (Ht rfl) (fun hd=>?_) (fun hd=>?_))))))))
   ·simp only [decide_eq_true_eq] at hd
    refine cK (fZ (m:=9) (dp 1 rfl (eZ gF (Ht rfl) rfl) (dq 27 0 rfl (eJ A_129 Z_129 (Ht rfl) (i:=0) rfl rfl rfl) (dp 1 rfl (eZ gG (Ht rfl) rfl) (dq 29 2 rfl (eY A_46 Z_46 (Ht rfl) (i:=0) rfl rfl) (cL 28 1 30 3 rfl (cZ K_243 (tY (by assumption) zo zo) ⟨(Ht rfl),(Ht rfl),trivial⟩) ?_))))))
    refine dp 1 rfl (eZ gT (Ht rfl) rfl) (dq 32 5 rfl (eJ A_129 Z_129 (Ht rfl) (i:=0) rfl rfl rfl) (dp 1 rfl (eZ gG (Ht rfl) rfl) (dq 34 7 rfl (eY A_46 Z_46 (Ht rfl) (i:=0) rfl rfl) (fV aT rfl (by kernel_rfl) (zF (zF (aJ (aV (ro rfl (cZ K_243 (tY (by assumption) zo zo) ⟨(Ht rfl),(Ht rfl),trivial⟩) ?_)))))))))
    refine ro rfl (kG (Ht rfl) (Ht rfl) (by first | omega | (simp only [List.length_append,List.length_cons,List.length_nil]; omega))) (ro rfl (kG (Ht rfl) (bF.cS (l:=[105]) rfl) (by first | omega | (simp only [List.length_append,List.length_cons,List.length_nil]; omega))) (ra rfl (eX (fW rfl (fX (eU rfl) ?_)))))
    exact (jS (by rw [Uk,if_neg h0,if_neg h1,if_pos hd,List.append_assoc]))
   ·simp only [decide_eq_false_iff_not] at hd
    refine cU (cK (fZ (m:=11) (dp 1 rfl (eZ gF (Ht rfl) rfl) (dq 39 0 rfl (eJ A_129 Z_129 (Ht rfl) (i:=0) rfl rfl rfl) (dp 1 rfl (eZ gG (Ht rfl) rfl) (dq 41 2 rfl (eY A_46 Z_46 (Ht rfl) (i:=0) rfl rfl) (cL 40 1 42 3 rfl (cZ K_243 (tY (by assumption) zo zo) ⟨(Ht rfl),(Ht rfl),trivial⟩) ?_)))))))
    refine dq 43 4 rfl (kG (Ht rfl) (bF.cS (l:=[43]) rfl) (by first | omega | (simp only [List.length_append,List.length_cons,List.length_nil]; omega))) (dp 1 rfl (eZ gT (Ht rfl) rfl) (dq 45 6 rfl (eJ A_129 Z_129 (Ht rfl) (i:=0) rfl rfl rfl) (dp 1 rfl (eZ gG (Ht rfl) rfl) (dq 47 8 rfl (eY A_46 Z_46 (Ht rfl) (i:=0) rfl rfl) (cL 46 7 48 9 rfl (cZ K_243 (tY (by assumption) zo zo) ⟨(Ht rfl),(Ht rfl),trivial⟩) ?_)))))
    refine fV aT rfl (by kernel_rfl) (zF (zF (aJ (aJ (aJ (aV (ro rfl (kG (Ht rfl) (Ht rfl) (by first | omega | (simp only [List.length_append,List.length_cons,List.length_nil]; omega))) (ro rfl (kG (Ht rfl) (bF.cS (l:=[105]) rfl) (by first | omega | (simp only [List.length_append,List.length_cons,List.length_nil]; omega))) (ra rfl (eX (fW rfl (fX (eU rfl) ?_))))))))))))
    exact (jS (by rw [Uk,if_neg h0,if_neg h1,if_neg hd,List.append_assoc,List.append_assoc]; rfl))
theorem Gl {x y:Qi} {L M:Nat} [hx:aO x L] [hy:aO y M] (h:L ≤ 8796093022208) (h2:M ≤ 8796093022208):bE Tryz.prog 80 [aR x,QT y] (aE (decide (Uk x = Uk y))):=by
 refine bE.intro Tryz.func80 rfl Tryz.ntmps80 rfl (fun cx=>(ts (rn rfl (fG (Ht rfl)) fun B2=>(rn rfl (fG (Ht rfl)) fun B3=>(ro rfl (cQ cV) (eX (cK (fZ (m:=3) (dp 2 rfl (eJ A_51 Z_51 (Ht rfl) (i:=0) rfl rfl rfl) (dq 5 0 rfl (cZ Tryz.call89 (Mj zo) ⟨(Ht rfl),trivial⟩) (dp 3 rfl (eJ A_131 Z_131 (Ht rfl) (i:=1) rfl rfl rfl) (fV aT rfl (by kernel_rfl) (aJ (aJ (aJ (aV (ro rfl (cZ Tryz.call181 (a34 zo) ⟨(Ht rfl),trivial⟩) (ro rfl (Np (Ht rfl) (Ht rfl)) ?_))))))))))))))))))
 refine ra rfl (eX ?_)
 exact fW rfl (eU rfl)
end
section
open Go Go.RowKit
theorem mX:Tryz.prog.info? 29 = some Tryz.t29:=by kernel_rfl
end
section
open Go Go.RowKit
theorem Mg {γ:Type} {l:List γ} {T:γ → Ty} {p:γ → Bool} [sh:∀ x,dR (T x) 5 true] (hl:l.length ≤ 1000000):bE Tryz.prog 233 [kL 5 (l.map T),Fz Tryz.prog γ (fun x=>[T x]) (fun x=>aE (p x))] (aP .i64 (Hg p l)):=by
 refine bE.intro Tryz.func233 rfl Tryz.ntmps233 rfl (fun cx=>(ts (ro rfl (cQ (cJ 0)) (eX (cK (ts (rm rfl (ro rfl (dG U_29 (Ht rfl) aA) (ro rfl (cX (cJ 0)) (eX (eG ?_)))))))))))
 refine bO (fun (k : Nat) => k ≤ l.length ∧ ∀ (i : Nat) (x : γ), i < k → l[i]? = some x → p x = false) (fun (k : Nat) => l.length - k) (fun (k : Nat) => [(0, kL 5 (l.map T)), (1, Fz Tryz.prog γ (fun x => [T x]) (fun x => aE (p x))), (7, NT .i64 l.length), (8, NT .i64 k)]) (fun (k : Nat) => []) 0 ⟨Nat.zero_le _, fun i x h => by omega⟩
  (zS rfl) aY (fun k ⟨hk,hn⟩=>?_)
 refine ts (ro rfl (gX (Ht rfl) (Ht rfl)) (eX (cK (dQ (Ht rfl) (fun hb=>?_) (fun hb=>?_)))))
 ·simp only [decide_eq_true_eq] at hb
  refine cU (cK (eG (ts (rm rfl (ra rfl (eX (ts (rm rfl (rm rfl (rm rfl (ro rfl (dZ U_29 Z_51 (Ht rfl) (Ht rfl) rfl (dY (nL hb))) (ro rfl (dJ A_51 Z_51 (Ht rfl)) (ro rfl (tD (l[k]) (Ht rfl) ⟨(Ht rfl),trivial⟩) (eX (dQ (Ht rfl) (fun hc=>?_) (fun hc=>?_))))))))))))))))
  ·have hp : p l[k] = true := hc
   refine ts (rm rfl (ra rfl (eX (fW rfl (fX (eU rfl) ?_)))))
   exact (aM (Hh (nL hb) hp hn).symm)
  ·have hp : p l[k] = false := hc
   refine cU (aS (cY (ro rfl (dV (Ht rfl) (cJ 1) z6) (rm rfl (eX ?_)))))
   refine fU (k + 1) ⟨hb, fun i x h1 h2 => by
    by_cases e:i = k
    ·subst e; rw [nL hb] at h2; obtain rfl:=Option.some.inj h2; exact hp
    ·exact hn i x zo h2⟩ zo (zS rfl) aY
 ·simp only [decide_eq_false_iff_not] at hb
  refine gV rfl (ts (ro rfl (cQ cV) (eX (fW rfl (fX (eU rfl) ?_)))))
  exact (aM (yN (fun i x h=>hn i x (by have:=(List.getElem?_eq_some_iff.1 h).1; omega) h)).symm)
theorem Dn {γ:Type} {l:List γ} {T:γ → Ty} {p:γ → Bool} [sh:∀ x,dR (T x) 5 true] (hl:l.length ≤ 1000000):bE Tryz.prog 162 [kL 5 (l.map T),Fz Tryz.prog γ (fun x=>[T x]) (fun x=>aE (p x))] (aE (l.any p)):=by
 refine bE.intro Tryz.func162 rfl Tryz.ntmps162 rfl (fun cx=>(ts (ro rfl (cQ cV) (eX (ts (rm rfl (rm rfl (ro rfl (cZ Tryz.call233 (Mg zo) ⟨(Ht rfl),(Ht rfl),trivial⟩) (ro rfl (kH (Ht rfl) cV) (ra rfl (eX (fW rfl (fX (eU rfl) ?_)))))))))))))
 exact (eH (Ce p l))
theorem Mh {γ:Type} {l:List γ} {T:γ → Ty} {p:γ → Bool} [sh:∀ x,dR (T x) 1 false] (hl:l.length ≤ 1000000):bE Tryz.prog 231 [kL 1 (l.map T),Fz Tryz.prog γ (fun x=>[T x]) (fun x=>aE (p x))] (aP .i64 (Hg p l)):=by
 refine bE.intro Tryz.func231 rfl Tryz.ntmps231 rfl (fun cx=>(ts (ro rfl (cQ (cJ 0)) (eX (cK (ts (rm rfl (ro rfl (dG U_30 (Ht rfl) aA) (ro rfl (cX (cJ 0)) (eX (eG ?_)))))))))))
 refine bO (fun (k : Nat) => k ≤ l.length ∧ ∀ (i : Nat) (x : γ), i < k → l[i]? = some x → p x = false) (fun (k : Nat) => l.length - k) (fun (k : Nat) => [(0, kL 1 (l.map T)), (1, Fz Tryz.prog γ (fun x => [T x]) (fun x => aE (p x))), (7, NT .i64 l.length), (8, NT .i64 k)]) (fun (k : Nat) => []) 0 ⟨Nat.zero_le _, fun i x h => by omega⟩
  (zS rfl) aY (fun k ⟨hk,hn⟩=>?_)
 refine ts (ro rfl (gX (Ht rfl) (Ht rfl)) (eX (cK (dQ (Ht rfl) (fun hb=>?_) (fun hb=>?_)))))
 ·simp only [decide_eq_true_eq] at hb
  refine cU (cK (eG (ts (rm rfl (ra rfl (eX (ts (rm rfl (rm rfl (rm rfl (ro rfl (dZ U_30 Z_29 (Ht rfl) (Ht rfl) rfl (dY (nL hb))) (ro rfl (dJ A_29 Z_29 (Ht rfl)) (ro rfl (tD (l[k]) (Ht rfl) ⟨(Ht rfl),trivial⟩) (eX (dQ (Ht rfl) (fun hc=>?_) (fun hc=>?_))))))))))))))))
  ·have hp : p l[k] = true := hc
   refine ts (rm rfl (ra rfl (eX (fW rfl (fX (eU rfl) ?_)))))
   exact (aM (Hh (nL hb) hp hn).symm)
  ·have hp : p l[k] = false := hc
   refine cU (aS (cY (ro rfl (dV (Ht rfl) (cJ 1) z6) (rm rfl (eX ?_)))))
   refine fU (k + 1) ⟨hb, fun i x h1 h2 => by
    by_cases e:i = k
    ·subst e; rw [nL hb] at h2; obtain rfl:=Option.some.inj h2; exact hp
    ·exact hn i x zo h2⟩ zo (zS rfl) aY
 ·simp only [decide_eq_false_iff_not] at hb
  refine gV rfl (ts (ro rfl (cQ cV) (eX (fW rfl (fX (eU rfl) ?_)))))
  exact (aM (yN (fun i x h=>hn i x (by have:=(List.getElem?_eq_some_iff.1 h).1; omega) h)).symm)
theorem uW {γ:Type} {l:List γ} {T:γ → Ty} {p:γ → Bool} [sh:∀ x,dR (T x) 1 false] (hl:l.length ≤ 1000000):bE Tryz.prog 156 [kL 1 (l.map T),Fz Tryz.prog γ (fun x=>[T x]) (fun x=>aE (p x))] (aE (l.any p)):=by
 refine bE.intro Tryz.func156 rfl Tryz.ntmps156 rfl (fun cx=>(ts (ro rfl (cQ cV) (eX (ts (rm rfl (rm rfl (ro rfl (cZ Tryz.call231 (Mh zo) ⟨(Ht rfl),(Ht rfl),trivial⟩) (ro rfl (kH (Ht rfl) cV) (ra rfl (eX (fW rfl (fX (eU rfl) ?_)))))))))))))
 exact (eH (Ce p l))
theorem Mn {x:Qi} {L:Nat} [hx:aO x L] (h:L ≤ 8796093022208):bE Tryz.prog 247 [aR x] (aE (nB x)):=by
 haveI hz:aO Qi.zero 1:=aO.zero (Nat.le_refl 1)
 refine bE.intro Tryz.func247 rfl Tryz.ntmps247 rfl (fun cx=>(ts (rn rfl (fG (Ht rfl)) fun B1=>(ro rfl (cQ cV) (eX (ts (ro rfl (eJ A_51 Z_51 (Ht rfl) (i:=0) rfl rfl rfl) (ro rfl (cZ Tryz.call169 Gk ⟨(Ht rfl),trivial⟩) (rm rfl (fQ rfl rfl (eK rfl rfl (Ht rfl) (fun h=>eJ A_51 Z_51 (Ht rfl) (i:=0) rfl rfl rfl)) (fQ rfl rfl (eK rfl rfl (Ht rfl) (fun h=>aL.imp (Gi ) oA)) (fQ rfl rfl (eK rfl rfl (Ht rfl) (fun h=>cZ Tryz.call76 (Vu zo) ⟨(fJ rfl h),(fJ rfl h),trivial⟩)) ?_))))))))))))
 refine fQ rfl rfl (eK rfl rfl (Ht rfl) (fun h=>yT (fJ rfl h) cV)) (ro rfl (fF (Ht rfl) (fun h=>(fJ rfl h))) (ra rfl (eX (fW rfl (fX (eU rfl) ?_)))))
 exact (eH (Zf x))
theorem Gp {x:Qi} {L:Nat} [hx:aO x L] (h:L ≤ 8796093022208):bE Tryz.prog 246 [aR x] (aE (!nB x)):=by
 refine bE.intro Tryz.func246 rfl Tryz.ntmps246 rfl (fun cx=>(ts (rn rfl (fG (Ht rfl)) fun B1=>(ro rfl (cQ cV) (eX (ts (ro rfl (eJ A_51 Z_51 (Ht rfl) (i:=0) rfl rfl rfl) (ro rfl (cZ Tryz.call247 (Mn zo) ⟨(Ht rfl),trivial⟩) (ro rfl (gB (Ht rfl)) (ra rfl (eX ?_)))))))))))
 exact fW rfl (eU rfl)
theorem Iy {z:List Qi} {L:Nat} (hz:dA z L) (h:L ≤ 8796093022208) (hl:z.length ≤ 1000):bE Tryz.prog 183 [cD z] (aP .i64 (if z.all nB then 0 else 1)):=by
 obtain ⟨l,hzl⟩:∃ l:List {x:Qi // aO x L},z = l.map Subtype.val:=⟨z.attach.map fun x=>⟨x.1,hz x.1 x.2⟩,by simp⟩
 subst hzl
 have hll:l.length ≤ 1000:=by simpa using hl
 refine bE.intro Tryz.func183 rfl Tryz.ntmps183 rfl (fun cx=>(pT (E':=[(0,_)]) (aZ rfl (kS (Us:=l.map fun x=>aR x.1) (by simp [List.map_map,Function.comp_def])) aX) ?_))
 refine ts (ro rfl (cQ (cJ 0)) (eX (cK (ts (rm rfl (ro rfl (cZ Tryz.call162 (Dn (l:=l) (T:=fun x=>aR x.1) (p:=fun x=>!nB x.1) zo) ⟨(Ht rfl),(bF.fn Tryz.call246 (γ:={x:Qi // aO x L}) (Ts:=fun x=>[aR x.1]) (U:=fun x=>aE (!nB x.1)) (fun x=>haveI:=x.2; Gp h)),trivial⟩) (eX (dQ (Ht rfl) (fun hb=>?_) (fun hb=>?_)))))))))
 ·have hn : ¬ (l.map Subtype.val).all nB = true := by simp at hb ⊢; exact hb
  refine ts (ro rfl (cQ (cJ 1)) (eX (fW rfl (fX (eU rfl) ?_))))
  exact (aM (by rw [if_neg hn]; rfl))
 ·have hn : (l.map Subtype.val).all nB = true := by simp at hb ⊢; exact hb
  refine cU (ts (ro rfl (cQ (cJ 0)) (eX (fW rfl (fX (eU rfl) ?_)))))
  exact (aM (by rw [if_pos hn]; rfl))
theorem Iu {l:List Qi} (hl:l.length ≤ 1000):iA Tryz.prog 158 [cD l] [] (Value) (fun v=>Is v) (fun v=>[bH 51 5 v (l.map aR)]) (fun _=>True):=by
 refine iA.intro Tryz.func158 rfl Tryz.ntmps158 rfl (fun cx Z=>(ts (ro rfl (cQ cV) (eX (cK (ts (rm rfl (ro rfl (Yu U_29 (Ht rfl)) (eX (a0f (Ht rfl) (fun hb=>?_) (fun hb=>?_)))))))))))
 ·have hT : l.map aR = [] := hb rfl
  refine ts (ro rfl (cQ cV) (eX (oZ 51 5 ?_)))
  exact jP (.slice none 0 0) trivial [0,1] ⟨⟨_,rfl,fun _ _ _ h=>h⟩,⟨_,rfl,(aD hT.symm)⟩,trivial⟩ (by decide) (tK rfl (eU rfl))
 ·refine cU (ts (rn rfl (mO U_29 Z_51 O_51) fun B5 => (rm rfl (Ek (inf := Tryz.t51) nD kV rfl rfl rfl (Ht rfl) (Ht rfl) (i := 1) rfl (fun T hT => by obtain ⟨x, _, rfl⟩ := List.mem_map.1 hT; exact El.ag rfl) (by show _ * 88 ≤ _; simp only [List.length_map, List.length_nil]; omega) (by simp only [List.length_map, List.length_nil]; omega) rfl (fun v2 => ?_)))))
  refine ra rfl (eX ?_)
  exact jP v2 trivial [0,1] ⟨⟨_,rfl,fun _ _ _ h=>h⟩,⟨_,rfl,fun _ _ _ h=>h⟩,trivial⟩ (by decide) (tK rfl (eU rfl))
theorem Ox {l:List Qi} (hl:l.length ≤ 1000):bE Tryz.prog 158 [cD l] (cD l):=(Iu hl).fun fun v _=>eC
theorem Pd {n:Nat} {f:Nat → Nat → Qi} (hn:n ≤ 1000):iA Tryz.prog 114 [NT .i64 n,Fz Tryz.prog (Fin n × Fin n) (fun x=>[NT .i64 x.1.1,NT .i64 x.2.1]) (fun x=>aR (f x.1.1 x.2.1))] [] (Nat) (fun B=>Is (.slice (some ⟨B,0,none⟩) n n)) (fun B=>[pG B 29 51 5 (bN aR (tab n fun i=>tab n (f i)))]) (fun _=>True):=by
 refine iA.intro Tryz.func114 rfl Tryz.ntmps114 rfl (fun cx Z=>(ts (ro rfl (cQ cV) (eX (ts (rm rfl (rn rfl (eN (T:=Is (.slice none 0 0)) (i:=Tryz.t29) V_30 mX rfl rfl (Ht rfl) rfl (fun _=>rfl) trivial (by show 24 * _ ≤ _; omega) zo) fun B9=>(ra rfl (eX (cK (ts (rm rfl (ro rfl (iI U_30 (Ht rfl)) (ro rfl (cX (cJ 0)) (eX (eG (lE 1 rfl (uH (e:=51) (s:=5)) ?_)))))))))))))))))
 refine eA (fun (k : Nat) (m : List (List Qi)) => lD (fun i => tab n (f i)) n m k) (fun (k : Nat) (m : List (List Qi)) => n - k) (fun (k : Nat) (m : List (List Qi)) => [(0, NT .i64 n), (1, Fz Tryz.prog (Fin n × Fin n) (fun x => [NT .i64 x.1.1, NT .i64 x.2.1]) (fun x => aR (f x.1.1 x.2.1))), (5, Is (.slice (some ⟨B9, 0, none⟩) n n)), (11, NT .i64 n), (12, NT .i64 k)]) (fun (k : Nat) (m : List (List Qi)) => [Z, pG B9 29 51 5 (bN aR m)]) 0 (List.replicate n []) (lD.start _ _ _)
  (zS rfl) (aU (fun _ _ _ h=>h) (aU (bI (mD aR n)) aY)) (fun k m hS=>?_)
 refine ts (ro rfl (gX (Ht rfl) (Ht rfl)) (eX (cK (dQ (Ht rfl) (fun hk=>?_) (fun hk=>?_)))))
 ·simp only [decide_eq_true_eq] at hk
  have hlen:=hS.len
  refine pR 1 (k) rfl (mV (m:=m) (i:=k) zo) (fun v=>(cU (cK (eG (ts (rm rfl (ra rfl (eX (ts (rm rfl (rm rfl (rm rfl (rn rfl (jF (T:=aR Qi.zero) (i:=Tryz.t51) nD kV rfl rfl (Ht rfl) rfl kF (El.ag rfl) (by show 88 * _ ≤ _; omega) zo) fun B18=>(ro rfl (fY U_30 Z_29 (Ht rfl) (Ht rfl) rfl zo (by rw [Nat.mul_one,Nat.zero_add])) ?_))))))))))))))
  refine sG Z_29 (Ht rfl) (Ht rfl) (by simp; omega) (j:=1) (l:=3) rfl rfl rfl ?_
  refine eX (cK (cA [0,1,3] rfl (by decide) (cY (rm rfl (rm rfl (ro rfl (fY U_30 Z_29 (Ht rfl) (Ht rfl) rfl zo (by rw [Nat.mul_one,Nat.zero_add])) ?_))))))
  refine ro rfl (iF A_29 Z_29 (Ht rfl) (j:=1) rfl) (ro rfl (oO U_29 (Ht rfl) (i:=2) rfl (show ((List.replicate n (aR Qi.zero)).length:Int) = ((n:Nat):Int) by simp)) (ro rfl (cX (cJ 0)) (eX (eG ?_))))
  refine eA (fun (j : Nat) (out : List Qi) => lD (f k) n out j) (fun (j : Nat) (out : List Qi) => n - j) (fun (j : Nat) (out : List Qi) => [(0, NT .i64 n), (1, Fz Tryz.prog (Fin n × Fin n) (fun x => [NT .i64 x.1.1, NT .i64 x.2.1]) (fun x => aR (f x.1.1 x.2.1))), (5, Is (.slice (some ⟨B9, 0, none⟩) n n)), (6, NT .i64 k), (11, NT .i64 n), (12, NT .i64 k), (24, NT .i64 n), (25, NT .i64 j)]) (fun (j : Nat) (out : List Qi) => [Z, Th B9 29 51 5 (bN aR m) k B18, bH 51 5 B18 (out.map aR)]) 0 (List.replicate n Qi.zero) (lD.start _ _ _)
   (zS rfl) (aU (fun _ _ _ h=>h) (aU (fun _ _ _ h=>h) (aU (aD (tH aR _ _)) aY))) (fun j out hT=>?_)
  refine ts (ro rfl (gX (Ht rfl) (Ht rfl)) (eX (cK (dQ (Ht rfl) (fun hj=>?_) (fun hj=>?_)))))
  ·simp only [decide_eq_true_eq] at hj
   have hlen2:=hT.len
   refine cU (cK (eG (ts (rm rfl (ra rfl (eX (fZ (m:=9) (dp 5 rfl (cX (Ht rfl)) (dp 6 rfl (cX (Ht rfl)) (cL 28 0 29 1 rfl (fY U_30 Z_29 (Ht rfl) (Ht rfl) rfl zo (by rw [Nat.mul_one,Nat.zero_add])) ?_))))))))))
   refine dq 30 2 rfl (iF A_29 Z_29 (Ht rfl) (j:=1) rfl) (dp 7 rfl (cX (Ht rfl)) (dp 1 rfl (cX (Ht rfl)) (dp 6 rfl (cX (Ht rfl)) (dp 7 rfl (cX (Ht rfl)) (C.D_step (Ei:=[(33,_),(34,_),(35,_)]) rfl rfl (bV (bG 5 rfl rfl) (bV (bG 6 rfl rfl) (bV (bG 7 rfl rfl) bW))) (dX rfl (tD ((⟨k,hk⟩,⟨j,hj⟩):Fin n × Fin n) (Ht rfl) ⟨(Ht rfl),(Ht rfl),trivial⟩)) (fV aT rfl (by kernel_rfl) (zF (zF (aJ (aV ?_))))))))))
   refine ro rfl (cH U_29 Z_51 (Ht rfl) (Ht rfl) rfl (i:=2) rfl (by first | omega | (simp; omega)) rfl) (jB Z_51 (Ht rfl) (Ht rfl) (El.ag rfl) (i:=2) rfl rfl (by first | omega | (simp; omega)) rfl (eX (aS (cY (ro rfl (dV (Ht rfl) (cJ 1) z6) (rm rfl (eX (fU (j + 1,_) (hT.next hj rfl) (by dsimp only; omega) (zS rfl) (aU (fun _ _ _ h=>h) (aU (fun _ _ _ h=>h) (aU (aD (fO aR _ _ _)) aY)))))))))))
  ·simp only [decide_eq_false_iff_not] at hj
   obtain rfl:j = n:=Nat.le_antisymm hT.kle zo
   have hfin:=hT.fin
   refine gV rfl (aS (eR 1 2 rfl rfl (by decide) (by simp; omega) ?_))
   refine cY (ro rfl (dV (Ht rfl) (cJ 1) z6) (rm rfl (eX (cA [0,1] rfl (by decide) (fU (k + 1,_) (hS.next hk hfin) (by dsimp only; omega) (zS rfl) (aU (fun _ _ _ h=>h) (aU (bI (fH aR _ _ _)) aY)))))))
 ·simp only [decide_eq_false_iff_not] at hk
  obtain rfl:k = n:=Nat.le_antisymm hS.kle zo
  have hfin:=hS.fin
  refine gV rfl (ts (rm rfl (ra rfl (eX ?_))))
  exact jP B9 trivial [0,1] ⟨⟨_,rfl,fun _ _ _ h=>h⟩,⟨_,rfl,(bI (by rw [hfin]))⟩,trivial⟩ (by decide) (tK rfl (eU rfl))
theorem Wa {n:Nat} {f:Nat → Nat → Qi} (hn:n ≤ 1000):bE Tryz.prog 114 [NT .i64 n,Fz Tryz.prog (Fin n × Fin n) (fun x=>[NT .i64 x.1.1,NT .i64 x.2.1]) (fun x=>aR (f x.1.1 x.2.1))] (cM (tab n fun i=>tab n (f i))):=(Pd hn).fun fun B _ v S V h1 h2=>kS (by simp [bN,List.map_map,Function.comp_def]) v V (Pv (by simp [bN,aC]) (Nat.le_refl _) v S V h1 h2)
end
section
open Go Go.RowKit
theorem wE {n : Nat} {E : dE} {H : Hp} {d : Option Tmp} {t : TypeId} {pos : String} {af : Array Edge} {g : Option (Nat × Bool)}  :
  aL Tryz.prog n E H ⟨d,.build 32 #[],t,pos,af,g⟩ (eP [Is (.slice none 0 0),Is (.slice none 0 0)]) :=
 fS (parts := []) fun a V w hs => by
  refine ⟨.agg #[(.slice none 0 0),(.slice none 0 0)],?_,[(.slice none 0 0),(.slice none 0 0)],rfl,aW (⟨rfl,trivial⟩) (aW (⟨rfl,trivial⟩) (aG))⟩
  simp [Instr.build,Instr.fill,Sem.run_bind,Result.andThen,eS,O_32,U_32,Z_29,Z_30]
theorem Bm {n : Nat} {E : dE} {H : Hp} {d : Option Tmp} {t : TypeId} {pos : String} {af : Array Edge} {g : Option (Nat × Bool)} {x0 x1 : Operand} {T0 T1 : Ty} [s0 : dR T0 1 false] (h0 : bF E x0 T0) [s1 : dR T1 1 false] (h1 : bF E x1 T1) :
  aL Tryz.prog n E H ⟨d,.build 32 #[(0,x0),(1,x1)],t,pos,af,g⟩ (eP [T0,T1]) :=
 fS (parts := [(0, x0), (1, x1)]) fun a V w hs => by
  have p0:=h0 n V a hs
  generalize e0:a.eval x0 = v0 at p0
  have q0:=(s0.ok v0 V p0).2.2 rfl
  have p1:=h1 n V a hs
  generalize e1:a.eval x1 = v1 at p1
  have q1:=(s1.ok v1 V p1).2.2 rfl
  refine ⟨.agg #[v0,v1],?_,[v0,v1],rfl,aW (⟨p0,q0⟩) (aW (⟨p1,q1⟩) (aG))⟩
  simp [e0,e1,Instr.build,Instr.fill,Sem.run_bind,Result.andThen,eS,q0.cells,q1.cells,O_32,U_32,Z_29,Z_30]
theorem pZ (a:Addr) (w:World):(Instr.fieldAt 32 (.pointer (some a)) 0).run Tryz.prog w = .ok (.pointer (some (a.add 0))) w:=by
 simp [Instr.fieldAt,Instr.sureAddr,fieldPlace,Sem.run_bind,Result.andThen,U_32,Z_29]
end
section
open Go Go.RowKit
theorem a2V {s:List (List Qi)} {n i j:Nat} (hs:dT s n n) (hi:i < n) (hj:j < n):bE Tryz.prog 187 [NT .i64 i,NT .i64 j,PT (cM s)] (aR (gm s i j)):=by
 have h1:=hs.1; have h2:=hs.row hi
 refine bE.intro Tryz.func187 rfl Tryz.ntmps187 rfl (fun cx=>(ts (rn rfl (eW (Ts:=[Is (.bool false),Is (.slice none 0 0),Is (.bool false),Is (.slice none 0 0),Is (.slice none 0 0)]) O_51 rfl (fun V=>aW zd (aW zd (aW zd (aW zd (aW zd (aG))))))) fun B5=>(eX (ts (ro rfl (dJ A_30 Z_30 (Ht rfl)) (rm rfl (ro rfl (dZ U_30 Z_29 (Ht rfl) (Ht rfl) rfl (dY (dU (d:=[]) zo))) (ro rfl (dJ A_29 Z_29 (Ht rfl)) ?_)))))))))
 refine rm rfl (ro rfl (dZ U_29 Z_51 (Ht rfl) (Ht rfl) rfl (dY (dU (d:=Qi.zero) zo))) (ro rfl (dJ A_51 Z_51 (Ht rfl)) (gQ Z_51 (Ht rfl) (Ht rfl) rfl (i:=0) rfl (aK rfl) rfl rfl (eX ?_))))
 exact fW rfl (fK A_51 Z_51 rfl (i:=0) rfl rfl)
theorem Ix {z:List Qi} {s:List (List Qi)} {L:Nat} (hz:dA z L) (h:L ≤ 8796093022208) (hl:z.length ≤ 1000) (hl2:s.length ≤ 1000):bE Tryz.prog 85 [cD z,cM s] (gC [lY (dL (cC z s) z) (dL (cC z s) s),aP .i64 (cC z s)]):=by
 refine bE.intro Tryz.func85 rfl Tryz.ntmps85 rfl (fun cx=>(ts (rn rfl (Cm (Ht rfl)) fun B3=>(rn rfl (eW (Ts:=[Is (.slice none 0 0),Is (.slice none 0 0)]) O_32 rfl (fun V=>aW zd (aW zd (aG)))) fun B4=>(ro rfl (cQ (cJ 0)) (eX (cK (cK (gJ (i:=0) (tt:=3) rfl rfl qZ (cY (rm rfl (ro rfl (dG U_29 (Ht rfl) aA) (ro rfl (gX (Ht rfl) (cJ 1)) (rm rfl (fQ rfl rfl (eK rfl rfl (Ht rfl) (fun h=>cX (Ht rfl))) (fQ rfl rfl (eK rfl rfl (Ht rfl) (fun h=>dG U_29 (fJ rfl h) aA)) ?_))))))))))))))))
 refine fQ rfl rfl (eK rfl rfl (Ht rfl) (fun h=>eE (fJ rfl h) (cJ 8))) (ro rfl (iU (Ht rfl) (fun h=>(fJ rfl h))) (rm rfl (fQ rfl rfl (eK rfl rfl (Ht rfl) (fun h=>dJ A_30 Z_30 (Ht rfl))) (fQ rfl rfl (eK rfl rfl (Ht rfl) (fun h=>dG U_30 (fJ rfl h) aA)) (fQ rfl rfl (eK rfl rfl (Ht rfl) (fun h=>cX (Ht rfl))) (fQ rfl rfl (eK rfl rfl (Ht rfl) (fun h=>dG U_29 (fJ rfl h) aA)) (fQ rfl rfl (eK rfl rfl (Ht rfl) (fun h=>gI (fJ rfl h) (fJ rfl h))) ?_)))))))
 refine ro rfl (iU (Ht rfl) (fun h=>(fJ rfl h))) (eX (dQ (Ht rfl) (fun hb=>?_) (fun hb=>?_)))
 ·have he := Km hb
  refine ts (ro rfl (aL.imp (wE ) xB) (gQ Z_32 (Ht rfl) (Ht rfl) rfl (i:=1) rfl (aK rfl) rfl rfl (ro rfl (cQ (cJ 4)) (eX (bM rfl (fX (fK A_32 Z_32 rfl (i:=1) rfl rfl) ?_) (fX (eU rfl) ?_))))))
  ·exact (Hw he (by decide))
  ·exact (aM he.symm)
 ·refine cU (cK (ts (ro rfl (dJ A_30 Z_30 (Ht rfl)) (ro rfl (dG U_30 (Ht rfl) aA) (ro rfl (cX (cJ 0)) (eX (eG ?_)))))))
  refine bO (fun (k : Nat) => k ≤ s.length ∧ ∀ (i : Nat) (r : List Qi), i < k → s[i]? = some r → r.length = z.length) (fun (k : Nat) => s.length - k) (fun (k : Nat) => [(0, cD z), (3, PT (cM s)), (4, bR B4 0), (25, cM s), (26, NT .i64 s.length), (27, NT .i64 k)]) (fun (k : Nat) => [SA.emp, box B4 32 [Is (.slice none 0 0), Is (.slice none 0 0)]]) 0 ⟨Nat.zero_le _, fun i r h => by omega⟩
   (zS rfl) (dB.refl _) (fun k ⟨hk,hr⟩=>?_)
  refine ts (ro rfl (gX (Ht rfl) (Ht rfl)) (eX (cK (dQ (Ht rfl) (fun hc=>?_) (fun hc=>?_)))))
  ·simp only [decide_eq_true_eq] at hc
   refine cU (cK (eG (ts (ro rfl (dZ U_30 Z_29 (Ht rfl) (Ht rfl) rfl (dY (nL hc))) (ro rfl (dJ A_29 Z_29 (Ht rfl)) (ra rfl (eX (ts (rm rfl (ro rfl (dG U_29 (Ht rfl) aA) (rm rfl (ro rfl (dG U_29 (Ht rfl) aA) (ro rfl (gI (Ht rfl) (Ht rfl)) (eX (dQ (Ht rfl) (fun hd=>?_) (fun hd=>?_))))))))))))))))
   ·have hd2 : ¬ (s[k]).length = z.length := by simpa using hd
    have he:=Ni (nL hc) hd2
    refine ts (ro rfl (aL.imp (wE ) xB) (gQ Z_32 (Ht rfl) (Ht rfl) rfl (i:=1) rfl (aK rfl) rfl rfl (ro rfl (cQ (cJ 4)) (eX (bM rfl (fX (fK A_32 Z_32 rfl (i:=1) rfl rfl) ?_) (fX (eU rfl) ?_))))))
    ·exact (Hw he (by decide))
    ·exact (aM he.symm)
   ·have hd2 : (s[k]).length = z.length := by simpa using hd
    refine cU (aS (cY (ro rfl (dV (Ht rfl) (cJ 1) z6) (rm rfl (eX ?_)))))
    refine fU (k + 1) ⟨hc, fun i r h1 h2 => by
      by_cases e:i = k
      ·subst e; rw [nL hc] at h2; obtain rfl:=Option.some.inj h2; exact hd2
      ·exact hr i r zo h2⟩ zo (zS rfl) (dB.refl _)
  ·simp only [decide_eq_false_iff_not] at hc
   have hall:∀ (i:Nat) (r:List Qi),s[i]? = some r → r.length = z.length:=fun i r h=>hr i r (by have:=(List.getElem?_eq_some_iff.1 h).1; omega) h
   have hpos:=Nh hb hall
   refine gV rfl (cK (ts (rm rfl (ro rfl (cZ Tryz.call183 (Iy hz h zo) ⟨(Ht rfl),trivial⟩) (ra rfl (eX (ts (rm rfl (ro rfl (kR (Ht rfl) cV) (eX (dQ (Ht rfl) (fun hd=>?_) (fun hd=>?_))))))))))))
   ·have hd2 : ¬ (if z.all nB = true then (0 : Int) else 1) = 0 := by simpa using hd
    refine ts (ro rfl (aL.imp (wE ) xB) (rm rfl (gQ Z_32 (Ht rfl) (Ht rfl) rfl (i:=1) rfl (aK rfl) rfl rfl (ra rfl (eX (bM rfl (fX (fK A_32 Z_32 rfl (i:=1) rfl rfl) ?_) (fX (eU rfl) ?_)))))))
    ·exact (Hw hpos hd2)
    ·exact (aM hpos.symm)
   ·have hd2 : (if z.all nB = true then (0 : Int) else 1) = 0 := by simpa using hd
    have he:=hpos.trans hd2
    obtain ⟨h1,h2,hsh,_⟩:=yQ he
    refine cU (ts (rm rfl (ro rfl (cZ Tryz.call158 (Ox zo) ⟨(Ht rfl),trivial⟩) (rm rfl (ro rfl (dG U_29 (Ht rfl) aA) (ro rfl (uL (γ:=Fin z.length × Fin z.length) (Ts:=fun x=>[NT .i64 x.1.1,NT .i64 x.2.1]) (U:=fun x=>aR (gm s x.1.1 x.2.1)) Tryz.call187 (fun x=>a2V hsh x.1.2 x.2.2) ⟨(Ht rfl),trivial⟩) (ro rfl (cZ Tryz.call114 (eQ (Wa (n:=z.length) (f:=gm s) zo) (kS (by rw [← uI hsh]))) ⟨(Ht rfl),(Ht rfl),trivial⟩) ?_)))))))
    refine ro rfl (Bm (Ht rfl) (Ht rfl)) (gQ Z_32 (Ht rfl) (Ht rfl) rfl (i:=1) rfl (aK rfl) rfl rfl (ro rfl (cQ (cJ 0)) (eX (bM rfl (fX (fK A_32 Z_32 rfl (i:=1) rfl rfl) ?_) (fX (eU rfl) ?_)))))
    ·exact (Yn he)
    ·exact (aM he.symm)
theorem tU {z:List Qi} {s:List (List Qi)}:bE Tryz.prog 22 [lY z s] (NT .i64 z.length):=by
 refine bE.intro Tryz.func22 rfl Tryz.ntmps22 rfl (fun cx=>(ts (rn rfl (fG (Ht rfl)) fun B1=>(ro rfl (cQ (cJ 0)) (eX (ts (ro rfl (eZ pZ (Ht rfl) rfl) (ro rfl (eY A_29 Z_29 (Ht rfl) (i:=0) rfl rfl) (ro rfl (dG U_29 (Ht rfl) aA) (ra rfl (eX ?_)))))))))))
 exact fW rfl (eU rfl)
theorem Pe {z:List Qi} {s:List (List Qi)} {i:Int}:bE Tryz.prog 106 [lY z s,aP .i64 i] (aE (decide (1 ≤ i ∧ i ≤ z.length))):=by
 refine bE.intro Tryz.func106 rfl Tryz.ntmps106 rfl (fun cx=>(ts (rn rfl (fG (Ht rfl)) fun B2=>(ro rfl (cQ cV) (eX (ts (rm rfl (ro rfl (kH (Ht rfl) cV) (rm rfl (fQ rfl rfl (eK rfl rfl (Ht rfl) (fun h=>cX (Ht rfl))) (fQ rfl rfl (eK rfl rfl (Ht rfl) (fun h=>eZ pZ (Ht rfl) rfl)) (fQ rfl rfl (eK rfl rfl (Ht rfl) (fun h=>eY A_29 Z_29 (fJ rfl h) (i:=0) rfl rfl)) (fQ rfl rfl (eK rfl rfl (Ht rfl) (fun h=>dG U_29 (fJ rfl h) aA)) (fQ rfl rfl (eK rfl rfl (Ht rfl) (fun h=>Nr (fJ rfl h) (fJ rfl h))) ?_))))))))))))))
 refine ro rfl (fF (Ht rfl) (fun h=>(fJ rfl h))) (ra rfl (eX (fW rfl (fX (eU rfl) ?_))))
 exact (eH (by rw [Bool.eq_iff_iff]; simp))
end
section
open Go Go.RowKit
theorem uD (a:Addr) (w:World):(Instr.fieldAt 32 (.pointer (some a)) 1).run Tryz.prog w = .ok (.pointer (some (a.add 1))) w:=by
 simp [Instr.fieldAt,Instr.sureAddr,fieldPlace,Sem.run_bind,Result.andThen,U_32,Z_30]
theorem wN (a:Addr) (w:World):(Instr.fieldAt 34 (.pointer (some a)) 0).run Tryz.prog w = .ok (.pointer (some (a.add 0))) w:=by
 simp [Instr.fieldAt,Instr.sureAddr,fieldPlace,Sem.run_bind,Result.andThen,U_34,Z_32]
theorem qA (a:Addr) (w:World):(Instr.fieldAt 34 (.pointer (some a)) 1).run Tryz.prog w = .ok (.pointer (some (a.add 2))) w:=by
 simp [Instr.fieldAt,Instr.sureAddr,fieldPlace,Sem.run_bind,Result.andThen,U_34,Z_30]
end
section
open Go Go.RowKit
theorem Vx {z:List Qi} {s:List (List Qi)} {i:Int} (hl:z.length ≤ 1000):bE Tryz.prog 23 [lY z s,aP .i64 i] (gC [aR (Ur z i),aP .i64 (if 1 ≤ i ∧ i ≤ z.length then 0 else 1)]):=by
 refine bE.intro Tryz.func23 rfl Tryz.ntmps23 rfl (fun cx=>(ts (rn rfl (fG (Ht rfl)) fun B2=>(rn rfl (eW (Ts:=[Is (.bool false),Is (.slice none 0 0),Is (.bool false),Is (.slice none 0 0),Is (.slice none 0 0)]) O_51 rfl (fun V=>aW zd (aW zd (aW zd (aW zd (aW zd (aG))))))) fun B4=>(ro rfl (cQ (cJ 0)) (eX (cK (ts (ro rfl (eJ A_32 Z_32 (Ht rfl) (i:=0) rfl rfl rfl) (rm rfl (ro rfl (cZ Tryz.call106 Pe ⟨(Ht rfl),(Ht rfl),trivial⟩) ?_)))))))))))
 refine ro rfl (gB (Ht rfl)) (eX (dQ (Ht rfl) (fun hb=>?_) (fun hb=>?_)))
 ·have hn : ¬ (1 ≤ i ∧ i ≤ (z.length : Int)) := by simpa only [Bool.not_eq_true', decide_eq_false_iff_not] using hb
  refine ts (ro rfl (aL.imp (Gi ) oA) (gQ Z_51 (Ht rfl) (Ht rfl) rfl (i:=1) rfl (aK rfl) rfl rfl (ro rfl (cQ (cJ 1)) (eX (bM rfl (fX (fK A_51 Z_51 rfl (i:=1) rfl rfl) ?_) (fX (eU rfl) ?_))))))
  ·exact (lW (by rw [Ur,if_neg hn]))
  ·exact (aM (by rw [if_neg hn]; rfl))
 ·have hp : 1 ≤ i ∧ i ≤ (z.length : Int) := by simpa only [Bool.not_eq_false', decide_eq_true_eq] using hb
  have hq:(i - 1).toNat < z.length:=by omega
  refine cU (ts (ro rfl (eZ pZ (Ht rfl) rfl) (ro rfl (eY A_29 Z_29 (Ht rfl) (i:=0) rfl rfl) (rm rfl (ro rfl (fA (Ht rfl) cV (tQ zo)) (ro rfl (dZ U_29 Z_51 (Ht rfl) (Ht rfl) (by omega:i - 1 = (((i - 1).toNat:Nat):Int)) (dY (dU (d:=Qi.zero) hq))) (ro rfl (dJ A_51 Z_51 (Ht rfl)) (gQ Z_51 (Ht rfl) (Ht rfl) rfl (i:=1) rfl (aK rfl) rfl rfl (ro rfl (cQ (cJ 0)) (eX (bM rfl (fX (fK A_51 Z_51 rfl (i:=1) rfl rfl) ?_) (fX (eU rfl) ?_))))))))))))
  ·exact (lW (by rw [Ur,if_pos hp]))
  ·exact (aM (by rw [if_pos hp]; rfl))
theorem a4k {z:List Qi} {s:List (List Qi)} {i j:Int} (hs:dT s z.length z.length) (hl:z.length ≤ 1000):bE Tryz.prog 25 [lY z s,aP .i64 i,aP .i64 j] (gC [aR (Tp z.length s i j),aP .i64 (if (1 ≤ i ∧ i ≤ z.length) ∧ 1 ≤ j ∧ j ≤ z.length then 0 else 1)]):=by
 have hs1:=hs.1
 refine bE.intro Tryz.func25 rfl Tryz.ntmps25 rfl (fun cx=>(ts (rn rfl (fG (Ht rfl)) fun B3=>(rn rfl (eW (Ts:=[Is (.bool false),Is (.slice none 0 0),Is (.bool false),Is (.slice none 0 0),Is (.slice none 0 0)]) O_51 rfl (fun V=>aW zd (aW zd (aW zd (aW zd (aW zd (aG))))))) fun B6=>(ro rfl (cQ (cJ 0)) (eX (cK (ts (ro rfl (eJ A_32 Z_32 (Ht rfl) (i:=0) rfl rfl rfl) (rm rfl (ro rfl (cZ Tryz.call106 Pe ⟨(Ht rfl),(Ht rfl),trivial⟩) ?_)))))))))))
 refine ro rfl (gB (Ht rfl)) (rm rfl (fQ rfl rfl (eK rfl rfl (Ht rfl) (fun h=>eJ A_32 Z_32 (Ht rfl) (i:=0) rfl rfl rfl)) (fQ rfl rfl (eK rfl rfl (Ht rfl) (fun h=>cX (Ht rfl))) (fQ rfl rfl (eK rfl rfl (Ht rfl) (fun h=>cZ Tryz.call106 Pe ⟨(fJ rfl h),(fJ rfl h),trivial⟩)) (fQ rfl rfl (eK rfl rfl (Ht rfl) (fun h=>gB (fJ rfl h))) (ro rfl (iU (Ht rfl) (fun h=>(fJ rfl h))) (eX (dQ (Ht rfl) (fun hb=>?_) (fun hb=>?_)))))))))
 ·have hn : ¬ ((1 ≤ i ∧ i ≤ (z.length : Int)) ∧ 1 ≤ j ∧ j ≤ (z.length : Int)) := by simp only [Bool.or_eq_true, Bool.not_eq_true', decide_eq_false_iff_not] at hb; exact fun k => hb.elim (fun h => h k.1) (fun h => h k.2)
  refine ts (rn rfl (eW (Ts:=[Is (.bool false),Is (.slice none 0 0),Is (.bool false),Is (.slice none 0 0),Is (.slice none 0 0)]) O_51 rfl (fun V=>aW zd (aW zd (aW zd (aW zd (aW zd (aG))))))) fun B8=>(eX (ts (ro rfl (eJ A_51 Z_51 (Ht rfl) (i:=2) rfl rfl rfl) (gQ Z_51 (Ht rfl) (Ht rfl) rfl (i:=1) rfl (aK rfl) rfl rfl (ro rfl (cQ (cJ 1)) (eX (bM rfl (fX (fK A_51 Z_51 rfl (i:=1) rfl rfl) ?_) (fX (eU rfl) ?_)))))))))
  ·exact (fun v V k=>by rw [Tp,if_neg hn]; exact oA v V k)
  ·exact (aM (by rw [if_neg hn]; rfl))
 ·have hp : (1 ≤ i ∧ i ≤ (z.length : Int)) ∧ 1 ≤ j ∧ j ≤ (z.length : Int) := by simpa only [Bool.or_eq_false_iff, Bool.not_eq_false', decide_eq_true_eq] using hb
  have hq:(i - 1).toNat < s.length:=by omega
  have hq2:(j - 1).toNat < (s.getD (i - 1).toNat []).length:=by rw [hs.row zo]; omega
  refine cU (ts (ro rfl (eZ uD (Ht rfl) rfl) (ro rfl (eY A_30 Z_30 (Ht rfl) (i:=0) rfl rfl) (rm rfl (ro rfl (fA (Ht rfl) cV (tQ zo)) (ro rfl (dZ U_30 Z_29 (Ht rfl) (Ht rfl) (by omega:i - 1 = (((i - 1).toNat:Nat):Int)) (dY (dU (d:=[]) hq))) (ro rfl (dJ A_29 Z_29 (Ht rfl)) (rm rfl (ro rfl (fA (Ht rfl) cV (tQ zo)) (ro rfl (dZ U_29 Z_51 (Ht rfl) (Ht rfl) (by omega:j - 1 = (((j - 1).toNat:Nat):Int)) (dY (dU (d:=Qi.zero) hq2))) ?_))))))))))
  refine ro rfl (dJ A_51 Z_51 (Ht rfl)) (gQ Z_51 (Ht rfl) (Ht rfl) rfl (i:=1) rfl (aK rfl) rfl rfl (ro rfl (cQ (cJ 0)) (eX (bM rfl (fX (fK A_51 Z_51 rfl (i:=1) rfl rfl) ?_) (fX (eU rfl) ?_)))))
  ·exact (lW (by rw [Tp,if_pos hp]))
  ·exact (aM (by rw [if_pos hp]; rfl))
theorem Wd {z:List Qi} {s c:List (List Qi)}:bE Tryz.prog 51 [jC z s c] (lY z s):=by
 refine bE.intro Tryz.func51 rfl Tryz.ntmps51 rfl (fun cx=>(ts (rn rfl (fG (Ht rfl)) fun B1=>(rn rfl (eW (Ts:=[Is (.slice none 0 0),Is (.slice none 0 0)]) O_32 rfl (fun V=>aW zd (aW zd (aG)))) fun B2=>(eX (ts (ro rfl (eZ wN (Ht rfl) rfl) (ro rfl (eJ A_32 Z_32 (Ht rfl) (i:=0) rfl rfl rfl) (gQ Z_32 (Ht rfl) (Ht rfl) rfl (i:=1) rfl (aK rfl) rfl rfl (eX ?_))))))))))
 exact fW rfl (fK A_32 Z_32 rfl (i:=1) rfl rfl)
theorem Pf {z:List Qi} {s c:List (List Qi)} {i j:Int} (hs:dT c c.length c.length) (hl:c.length ≤ 1000):bE Tryz.prog 87 [jC z s c,aP .i64 i,aP .i64 j] (gC [aR (Tp c.length c i j),aP .i64 (if (1 ≤ i ∧ i ≤ c.length) ∧ 1 ≤ j ∧ j ≤ c.length then 0 else 1)]):=by
 refine bE.intro Tryz.func87 rfl Tryz.ntmps87 rfl (fun cx=>(ts (rn rfl (fG (Ht rfl)) fun B3=>(rn rfl (eW (Ts:=[Is (.bool false),Is (.slice none 0 0),Is (.bool false),Is (.slice none 0 0),Is (.slice none 0 0)]) O_51 rfl (fun V=>aW zd (aW zd (aW zd (aW zd (aW zd (aG))))))) fun B6=>(ro rfl (cQ (cJ 0)) (eX (cK (ts (rm rfl (ro rfl (pI (Ht rfl) cV) (rm rfl (fQ rfl rfl (eK rfl rfl (Ht rfl) (fun h=>cX (Ht rfl))) ?_))))))))))))
 refine fQ rfl rfl (eK rfl rfl (Ht rfl) (fun h=>eZ qA (Ht rfl) rfl)) (fQ rfl rfl (eK rfl rfl (Ht rfl) (fun h=>eY A_30 Z_30 (fJ rfl h) (i:=0) rfl rfl)) (fQ rfl rfl (eK rfl rfl (Ht rfl) (fun h=>dG U_30 (fJ rfl h) aA)) (fQ rfl rfl (eK rfl rfl (Ht rfl) (fun h=>yT (fJ rfl h) (fJ rfl h))) (ro rfl (iU (Ht rfl) (fun h=>(fJ rfl h))) (rm rfl (fQ rfl rfl (eK rfl rfl (Ht rfl) (fun h=>cX (Ht rfl))) (fQ rfl rfl (eK rfl rfl (Ht rfl) (fun h=>pI (fJ rfl h) cV)) ?_)))))))
 refine ro rfl (iU (Ht rfl) (fun h=>(fJ rfl h))) (rm rfl (fQ rfl rfl (eK rfl rfl (Ht rfl) (fun h=>cX (Ht rfl))) (fQ rfl rfl (eK rfl rfl (Ht rfl) (fun h=>eZ qA (Ht rfl) rfl)) (fQ rfl rfl (eK rfl rfl (Ht rfl) (fun h=>eY A_30 Z_30 (fJ rfl h) (i:=0) rfl rfl)) (fQ rfl rfl (eK rfl rfl (Ht rfl) (fun h=>dG U_30 (fJ rfl h) aA)) (fQ rfl rfl (eK rfl rfl (Ht rfl) (fun h=>yT (fJ rfl h) (fJ rfl h))) (ro rfl (iU (Ht rfl) (fun h=>(fJ rfl h))) (eX (dQ (Ht rfl) (fun hb=>?_) (fun hb=>?_))))))))))
 ·have hn : ¬ ((1 ≤ i ∧ i ≤ (c.length : Int)) ∧ 1 ≤ j ∧ j ≤ (c.length : Int)) := by simp only [Bool.or_eq_true, decide_eq_true_eq] at hb; omega
  refine ts (rn rfl (eW (Ts:=[Is (.bool false),Is (.slice none 0 0),Is (.bool false),Is (.slice none 0 0),Is (.slice none 0 0)]) O_51 rfl (fun V=>aW zd (aW zd (aW zd (aW zd (aW zd (aG))))))) fun B8=>(eX (ts (ro rfl (eJ A_51 Z_51 (Ht rfl) (i:=2) rfl rfl rfl) (gQ Z_51 (Ht rfl) (Ht rfl) rfl (i:=1) rfl (aK rfl) rfl rfl (ro rfl (cQ (cJ 1)) (eX (bM rfl (fX (fK A_51 Z_51 rfl (i:=1) rfl rfl) ?_) (fX (eU rfl) ?_)))))))))
  ·exact (fun v V k=>by rw [Tp,if_neg hn]; exact oA v V k)
  ·exact (aM (by rw [if_neg hn]; rfl))
 ·have hp : (1 ≤ i ∧ i ≤ (c.length : Int)) ∧ 1 ≤ j ∧ j ≤ (c.length : Int) := by simp only [Bool.or_eq_false_iff, decide_eq_false_iff_not] at hb; omega
  have hq:(i - 1).toNat < c.length:=by omega
  have hq2:(j - 1).toNat < (c.getD (i - 1).toNat []).length:=by rw [hs.row zo]; omega
  refine cU (ts (ro rfl (eZ qA (Ht rfl) rfl) (ro rfl (eY A_30 Z_30 (Ht rfl) (i:=0) rfl rfl) (rm rfl (ro rfl (fA (Ht rfl) cV (tQ zo)) (ro rfl (dZ U_30 Z_29 (Ht rfl) (Ht rfl) (by omega:i - 1 = (((i - 1).toNat:Nat):Int)) (dY (dU (d:=[]) hq))) (ro rfl (dJ A_29 Z_29 (Ht rfl)) (rm rfl (ro rfl (fA (Ht rfl) cV (tQ zo)) (ro rfl (dZ U_29 Z_51 (Ht rfl) (Ht rfl) (by omega:j - 1 = (((j - 1).toNat:Nat):Int)) (dY (dU (d:=Qi.zero) hq2))) ?_))))))))))
  refine ro rfl (dJ A_51 Z_51 (Ht rfl)) (gQ Z_51 (Ht rfl) (Ht rfl) rfl (i:=1) rfl (aK rfl) rfl rfl (ro rfl (cQ (cJ 0)) (eX (bM rfl (fX (fK A_51 Z_51 rfl (i:=1) rfl rfl) ?_) (fX (eU rfl) ?_)))))
  ·exact (lW (by rw [Tp,if_pos hp]))
  ·exact (aM (by rw [if_pos hp]; rfl))
end
section
open Go Go.RowKit
theorem Ha (a:Addr) (w:World):(Instr.fieldAt 25 (.pointer (some a)) 0).run Tryz.prog w = .ok (.pointer (some (a.add 0))) w:=by
 simp [Instr.fieldAt,Instr.sureAddr,fieldPlace,Sem.run_bind,Result.andThen,U_25,Z_22]
theorem Ac (a:Addr) (w:World):(Instr.fieldAt 25 (.pointer (some a)) 1).run Tryz.prog w = .ok (.pointer (some (a.add 1))) w:=by
 simp [Instr.fieldAt,Instr.sureAddr,fieldPlace,Sem.run_bind,Result.andThen,U_25,Z_23]
theorem Ad (a:Addr) (w:World):(Instr.fieldAt 25 (.pointer (some a)) 2).run Tryz.prog w = .ok (.pointer (some (a.add 2))) w:=by
 simp [Instr.fieldAt,Instr.sureAddr,fieldPlace,Sem.run_bind,Result.andThen,U_25,Z_23]
theorem mW:Tryz.prog.info? 131 = some Tryz.t131:=by kernel_rfl
theorem Aj:Tryz.prog.info? 35 = some Tryz.t35:=by kernel_rfl
theorem Og:Tryz.prog.underlying 30 = some (.slice 29):=by kernel_rfl
theorem sA:Tryz.prog.underlying 35 = some (.slice 131):=by kernel_rfl
theorem a07:Tryz.prog.underlying 36 = some (.slice 35):=by kernel_rfl
end
section
open Go Go.RowKit
theorem yA {m:List (List Rt)} (hm:m.length ≤ 1000) (hr:∀ r,r ∈ m → r.length ≤ 1000):bE Tryz.prog 86 [xW m] (cM (rq m)):=by
 refine bE.intro Tryz.func86 rfl Tryz.ntmps86 rfl (fun cx=>(ts (ro rfl (cQ cV) (eX (ts (rm rfl (ro rfl (dG U_23 (Ht rfl) aA) (rn rfl (jF (T:=cD []) (i:=Tryz.t29) Og mX rfl rfl (Ht rfl) rfl Ko El.one (by show 24 * _ ≤ _; omega) zo) fun B8=>(ra rfl (eX (cK (ts (rm rfl (ro rfl (dG U_23 (Ht rfl) aA) (ro rfl (cX (cJ 0)) (eX (eG ?_)))))))))))))))))
 refine eA (fun (k : Nat) (out : List (List Qi)) => lD (fun i => (m.getD i default).map Rt.q) m.length out k) (fun (k : Nat) (out : List (List Qi)) => m.length - k) (fun (k : Nat) (out : List (List Qi)) => [(3, Is B8), (9, xW m), (10, NT .i64 m.length), (11, NT .i64 k)]) (fun (k : Nat) (out : List (List Qi)) => [bH 29 1 B8 (out.map cD)]) 0 (List.replicate m.length []) (lD.start _ _ _)
  (zS rfl) (aU (aD (tH cD _ _)) aY) (fun k out hS=>?_)
 refine ts (ro rfl (gX (Ht rfl) (Ht rfl)) (eX (cK (dQ (Ht rfl) (fun hk=>?_) (fun hk=>?_)))))
 ·simp only [decide_eq_true_eq] at hk
  have hlen:=hS.len
  have hrk : (m.getD k default).length ≤ 1000 := by
   have e:m.getD k default = m[k]:=by simp [List.getD,hk]
   rw [e]; exact hr _ (List.getElem_mem hk)
  refine cU (cK (eG (ts (rm rfl (ro rfl (dZ U_23 Z_22 (Ht rfl) (Ht rfl) rfl (dY (dU (d:=default) hk))) (ro rfl (dJ A_22 Z_22 (Ht rfl)) (ra rfl (ra rfl (eX (cY (rm rfl (rm rfl (rm rfl (ro rfl (cZ Tryz.call48 (xZ zo) ⟨(Ht rfl),trivial⟩) (ro rfl (cH U_30 Z_29 (Ht rfl) (Ht rfl) rfl (i:=0) rfl (by first | omega | (simp; omega)) rfl) (jB Z_29 (Ht rfl) (Ht rfl) El.one (i:=0) rfl rfl (by first | omega | (simp; omega)) rfl (eX (aS ?_))))))))))))))))))
  refine cY (ro rfl (dV (Ht rfl) (cJ 1) z6) (rm rfl (eX (fU (k + 1,_) (hS.next hk rfl) (by dsimp only; omega) (zS rfl) (aU (aD (fO cD _ _ _)) aY)))))
 ·simp only [decide_eq_false_iff_not] at hk
  obtain rfl:k = m.length:=Nat.le_antisymm hS.kle zo
  have hfin:=hS.fin
  rw [tP m (fun r=>r.map Rt.q)] at hfin
  refine gV rfl (gJ (i:=0) (tt:=3) rfl rfl eC (ts (rm rfl (ra rfl (eX (fW rfl (fX (eU rfl) ?_)))))))
  exact (kS (by rw [hfin]))
theorem a4r {z:List Rt} {s c:List (List Rt)}:bE Tryz.prog 15 [Uw z s c] (aE (yK z s c)):=by
 refine bE.intro Tryz.func15 rfl Tryz.ntmps15 rfl (fun cx=>(ts (rn rfl (fG (Ht rfl)) fun B1=>(ro rfl (cQ cV) (eX (cK (ts (ro rfl (eZ Ha (Ht rfl) rfl) (ro rfl (eY A_22 Z_22 (Ht rfl) (i:=0) rfl rfl) (ro rfl (dG U_22 (Ht rfl) aA) (ro rfl (eE (Ht rfl) (cJ 9)) (rm rfl (fQ rfl rfl (eK rfl rfl (Ht rfl) (fun h=>eZ Ac (Ht rfl) rfl)) (fQ rfl rfl (eK rfl rfl (Ht rfl) (fun h=>eY A_23 Z_23 (fJ rfl h) (i:=0) rfl rfl)) (fQ rfl rfl (eK rfl rfl (Ht rfl) (fun h=>dG U_23 (fJ rfl h) aA)) ?_)))))))))))))))
 refine fQ rfl rfl (eK rfl rfl (Ht rfl) (fun h=>eE (fJ rfl h) (cJ 9))) (ro rfl (iU (Ht rfl) (fun h=>(fJ rfl h))) (rm rfl (fQ rfl rfl (eK rfl rfl (Ht rfl) (fun h=>eZ Ad (Ht rfl) rfl)) (fQ rfl rfl (eK rfl rfl (Ht rfl) (fun h=>eY A_23 Z_23 (fJ rfl h) (i:=0) rfl rfl)) (fQ rfl rfl (eK rfl rfl (Ht rfl) (fun h=>dG U_23 (fJ rfl h) aA)) (fQ rfl rfl (eK rfl rfl (Ht rfl) (fun h=>eE (fJ rfl h) (cJ 9))) (ro rfl (iU (Ht rfl) (fun h=>(fJ rfl h))) (eX ?_))))))))
 refine dQ (Ht rfl) (fun hb=>?_) (fun hb=>?_)
 ·refine ts (ro rfl (cQ cV) (eX (fW rfl (fX (eU rfl) ?_))))
  exact (eH (Ta hb).symm)
 ·have hbl : z.length ≤ 9 ∧ s.length ≤ 9 ∧ c.length ≤ 9 := by have hb2 := hb; simp only [Bool.or_eq_false_iff, decide_eq_false_iff_not] at hb2; omega
  refine cU (cK (ts (ro rfl (eZ Ac (Ht rfl) rfl) (ro rfl (eY A_23 Z_23 (Ht rfl) (i:=0) rfl rfl) (ro rfl (dG U_23 (Ht rfl) aA) (ro rfl (cX (cJ 0)) (eX (eG ?_))))))))
  refine bO (fun (k : Nat) => k ≤ s.length ∧ ∀ (i : Nat) (r : List Rt), i < k → s[i]? = some r → r.length ≤ 9) (fun (k : Nat) => s.length - k) (fun (k : Nat) => [(1, bR B1 0), (24, xW s), (25, NT .i64 s.length), (26, NT .i64 k)]) (fun (k : Nat) => [box B1 25 [uV z, xW s, xW c]]) 0 ⟨Nat.zero_le _, fun i r h => by omega⟩
   (zS rfl) (dB.refl _) (fun k ⟨hk,hr⟩=>?_)
  refine ts (ro rfl (gX (Ht rfl) (Ht rfl)) (eX (cK (dQ (Ht rfl) (fun hd=>?_) (fun hd=>?_)))))
  ·simp only [decide_eq_true_eq] at hd
   refine cU (cK (eG (ts (ro rfl (dZ U_23 Z_22 (Ht rfl) (Ht rfl) rfl (dY (nL hd))) (ro rfl (dJ A_22 Z_22 (Ht rfl)) (ra rfl (eX (ts (rm rfl (ro rfl (dG U_22 (Ht rfl) aA) (ro rfl (eE (Ht rfl) (cJ 9)) (eX (dQ (Ht rfl) (fun he=>?_) (fun he=>?_))))))))))))))
   ·simp only [decide_eq_true_eq] at he
    refine ts (ro rfl (cQ cV) (eX (fW rfl (fX (eU rfl) ?_))))
    exact (eH (Sz (nL hd) he).symm)
   ·simp only [decide_eq_false_iff_not] at he
    refine cU (aS (cY (ro rfl (dV (Ht rfl) (cJ 1) z6) (rm rfl (eX ?_)))))
    refine fU (k + 1) ⟨hd, fun i r h1 h2 => by
      by_cases e:i = k
      ·subst e; rw [nL hd] at h2; obtain rfl:=Option.some.inj h2; omega
      ·exact hr i r zo h2⟩ zo (zS rfl) (dB.refl _)
  ·simp only [decide_eq_false_iff_not] at hd
   have hall:∀ (i:Nat) (r:List Rt),s[i]? = some r → r.length ≤ 9:=fun i r h=>hr i r (by have:=(List.getElem?_eq_some_iff.1 h).1; omega) h
   refine gV rfl (cK (ts (ro rfl (eZ Ad (Ht rfl) rfl) (ro rfl (eY A_23 Z_23 (Ht rfl) (i:=0) rfl rfl) (ro rfl (dG U_23 (Ht rfl) aA) (ro rfl (cX (cJ 0)) (eX (eG ?_))))))))
   refine bO (fun (k : Nat) => k ≤ c.length ∧ ∀ (i : Nat) (r : List Rt), i < k → c[i]? = some r → r.length ≤ 9) (fun (k : Nat) => c.length - k) (fun (k : Nat) => [(1, bR B1 0), (35, xW c), (36, NT .i64 c.length), (37, NT .i64 k)]) (fun (k : Nat) => [box B1 25 [uV z, xW s, xW c]]) 0 ⟨Nat.zero_le _, fun i r h => by omega⟩
    (zS rfl) (dB.refl _) (fun k ⟨hk2,hr2⟩=>?_)
   refine ts (ro rfl (gX (Ht rfl) (Ht rfl)) (eX (cK (dQ (Ht rfl) (fun hd2=>?_) (fun hd2=>?_)))))
   ·simp only [decide_eq_true_eq] at hd2
    refine cU (cK (eG (ts (ro rfl (dZ U_23 Z_22 (Ht rfl) (Ht rfl) rfl (dY (nL hd2))) (ro rfl (dJ A_22 Z_22 (Ht rfl)) (ra rfl (eX (ts (rm rfl (ro rfl (dG U_22 (Ht rfl) aA) (ro rfl (eE (Ht rfl) (cJ 9)) (eX (dQ (Ht rfl) (fun he=>?_) (fun he=>?_))))))))))))))
    ·simp only [decide_eq_true_eq] at he
     refine ts (ro rfl (cQ cV) (eX (fW rfl (fX (eU rfl) ?_))))
     exact (eH (Sy (nL hd2) he).symm)
    ·simp only [decide_eq_false_iff_not] at he
     refine cU (aS (cY (ro rfl (dV (Ht rfl) (cJ 1) z6) (rm rfl (eX ?_)))))
     refine fU (k + 1) ⟨hd2, fun i r h1 h2 => by
       by_cases e:i = k
       ·subst e; rw [nL hd2] at h2; obtain rfl:=Option.some.inj h2; omega
       ·exact hr2 i r zo h2⟩ zo (zS rfl) (dB.refl _)
   ·simp only [decide_eq_false_iff_not] at hd2
    have hall2:∀ (i:Nat) (r:List Rt),c[i]? = some r → r.length ≤ 9:=fun i r h=>hr2 i r (by have:=(List.getElem?_eq_some_iff.1 h).1; omega) h
    refine gV rfl (ts (ro rfl (cQ cV) (eX (fW rfl (fX (eU rfl) ?_)))))
    exact (eH (Xl hb hall hall2).symm)
theorem Et {m:List Rt} (hm:m.length ≤ 1000):bE Tryz.prog 50 [uV m] (kL 5 ((m.map Rt.q).map QT)):=by
 refine bE.intro Tryz.func50 rfl Tryz.ntmps50 rfl (fun cx=>(ts (ro rfl (cQ cV) (eX (ts (ro rfl (cQ cV) (eX (cK (ts (rm rfl (ro rfl (dG U_22 (Ht rfl) aA) (ro rfl (cX (cJ 0)) (eX (eG (oZ 131 5 ?_)))))))))))))))
 refine iB (fun (k : Nat) (out : List (Qi)) (v : Value) => k ≤ m.length ∧ out = (m.map Rt.q).take k) (fun (k : Nat) (out : List (Qi)) (v : Value) => m.length - k) (fun (k : Nat) (out : List (Qi)) (v : Value) => [(3, Is v), (6, uV m), (7, NT .i64 m.length), (8, NT .i64 k)]) (fun (k : Nat) (out : List (Qi)) (v : Value) => [bH 131 5 v (out.map QT)]) 0 [] (.slice none 0 0) ⟨Nat.zero_le _, rfl⟩
  (zS rfl) (dB.refl _) (fun k out v ⟨hk,ho⟩=>?_)
 refine ts (ro rfl (gX (Ht rfl) (Ht rfl)) (eX (cK (dQ (Ht rfl) (fun hd=>?_) (fun hd=>?_)))))
 ·simp only [decide_eq_true_eq] at hd
  have hol:out.length ≤ 1000:=by rw [ho,List.length_take]; omega
  refine cU (cK (eG (ts (ro rfl (dZ U_22 Z_102 (Ht rfl) (Ht rfl) rfl (dY (dU (d:=default) hd))) (ro rfl (dJ A_102 Z_102 (Ht rfl)) (rn rfl (eW (Ts:=[Is (.int .i64 0),Is (.int .i64 0),Is (.int .i64 0)]) O_102 rfl (fun V=>aW zd (aW zd (aW zd (aG))))) fun B5=>(gQ Z_102 (Ht rfl) (Ht rfl) rfl (i:=1) rfl (aK rfl) rfl rfl (eX (cY (rm rfl (ro rfl (eJ A_102 Z_102 (Ht rfl) (i:=1) rfl rfl rfl) ?_)))))))))))
  refine ro rfl (cZ Tryz.call151 a4u ⟨(Ht rfl),trivial⟩) (ro rfl (bT (xs:=[.tmp 14]) U_35 Z_131 O_131 (cW (Ht rfl) cG) rfl rfl rfl) (iD (inf:=Tryz.t131) sA mW rfl rfl rfl (Ht rfl) (Ht rfl) (i:=0) rfl (by simp) (fun T hT=>by simp at hT; subst hT; exact El.ag rfl) (by show _ * 88 ≤ _; simp only [List.length_map,List.length_cons,List.length_nil]; omega) (by simp only [List.length_map,List.length_cons,List.length_nil]; omega) rfl (fun v2=>?_)))
  refine ra rfl (eX (aS (cY (ro rfl (dV (Ht rfl) (cJ 1) z6) (rm rfl (eX (cA [0] rfl (by decide) (fU (k + 1,_,v2) ⟨by omega,Dd (g:=Rt.q) hd ho⟩ (by dsimp only; omega) (zS rfl) (aU (aD (pC QT _ _)) aY)))))))))
 ·simp only [decide_eq_false_iff_not] at hd
  have hfin:=Dc ho (by simp only [List.length_map]; omega)
  refine gV rfl (gJ (i:=0) (tt:=3) rfl rfl eC (ts (rm rfl (ra rfl (eX (fW rfl (fX (eU rfl) ?_)))))))
  exact (kS (by rw [hfin]))
theorem Eu {m:List (List Rt)} (hm:m.length ≤ 1000) (hr:∀ r,r ∈ m → r.length ≤ 1000):bE Tryz.prog 91 [xW m] (kL 1 ((rq m).map oQ)):=by
 refine bE.intro Tryz.func91 rfl Tryz.ntmps91 rfl (fun cx=>(ts (ro rfl (cQ cV) (eX (ts (ro rfl (cQ cV) (eX (cK (ts (rm rfl (ro rfl (dG U_23 (Ht rfl) aA) (ro rfl (cX (cJ 0)) (eX (eG (oZ 35 1 ?_)))))))))))))))
 refine iB (fun (k : Nat) (out : List (List Qi)) (v : Value) => k ≤ m.length ∧ out = (rq m).take k) (fun (k : Nat) (out : List (List Qi)) (v : Value) => m.length - k) (fun (k : Nat) (out : List (List Qi)) (v : Value) => [(3, Is v), (6, xW m), (7, NT .i64 m.length), (8, NT .i64 k)]) (fun (k : Nat) (out : List (List Qi)) (v : Value) => [bH 35 1 v (out.map oQ)]) 0 [] (.slice none 0 0) ⟨Nat.zero_le _, rfl⟩
  (zS rfl) (dB.refl _) (fun k out v ⟨hk,ho⟩=>?_)
 refine ts (ro rfl (gX (Ht rfl) (Ht rfl)) (eX (cK (dQ (Ht rfl) (fun hd=>?_) (fun hd=>?_)))))
 ·simp only [decide_eq_true_eq] at hd
  have hol:out.length ≤ 1000:=by rw [ho,List.length_take]; omega
  have hrk : (m.getD k default).length ≤ 1000 := by
   have e:m.getD k default = m[k]:=by simp [List.getD,hd]
   rw [e]; exact hr _ (List.getElem_mem hd)
  refine cU (cK (eG (ts (ro rfl (dZ U_23 Z_22 (Ht rfl) (Ht rfl) rfl (dY (dU (d:=default) hd))) (ro rfl (dJ A_22 Z_22 (Ht rfl)) (ra rfl (eX (cY (rm rfl (rm rfl (ro rfl (cZ Tryz.call50 (Et zo) ⟨(Ht rfl),trivial⟩) (ro rfl (bT (xs:=[.tmp 14]) U_36 Z_35 Tryz.zeroValue35 (cW (Ht rfl) cG) rfl rfl rfl) (iD (inf:=Tryz.t35) a07 Aj rfl rfl rfl (Ht rfl) (Ht rfl) (i:=0) rfl (by simp) (fun T hT=>by simp at hT; subst hT; exact El.one) (by show _ * 24 ≤ _; simp only [List.length_map,List.length_cons,List.length_nil]; omega) (by simp only [List.length_map,List.length_cons,List.length_nil]; omega) rfl (fun v2=>?_))))))))))))))
  refine ra rfl (eX (aS (cY (ro rfl (dV (Ht rfl) (cJ 1) z6) (rm rfl (eX (cA [0] rfl (by decide) (fU (k + 1,_,v2) ⟨by omega,Dd (g:=(fun r=>r.map Rt.q)) hd ho⟩ (by dsimp only; omega) (zS rfl) (aU (aD (pC oQ _ _)) aY)))))))))
 ·simp only [decide_eq_false_iff_not] at hd
  have hfin:=Dc ho (by simp only [List.length_map]; omega)
  refine gV rfl (gJ (i:=0) (tt:=3) rfl rfl eC (ts (rm rfl (ra rfl (eX (fW rfl (fX (eU rfl) ?_)))))))
  exact (kS (by rw [hfin]))
end
section
open Go Go.RowKit
theorem Gg {n : Nat} {E : dE} {H : Hp} {d : Option Tmp} {t : TypeId} {pos : String} {af : Array Edge} {g : Option (Nat × Bool)}  :
  aL Tryz.prog n E H ⟨d,.build 34 #[],t,pos,af,g⟩ (eP [Is (.slice none 0 0),Is (.slice none 0 0),Is (.slice none 0 0)]) :=
 fS (parts := []) fun a V w hs => by
  refine ⟨.agg #[(.slice none 0 0),(.slice none 0 0),(.slice none 0 0)],?_,[(.slice none 0 0),(.slice none 0 0),(.slice none 0 0)],rfl,aW (⟨rfl,trivial⟩) (aW (⟨rfl,trivial⟩) (aW (⟨rfl,trivial⟩) (aG)))⟩
  simp [Instr.build,Instr.fill,Sem.run_bind,Result.andThen,eS,O_34,U_34,Z_30,Z_32]
theorem Vs {n : Nat} {E : dE} {H : Hp} {d : Option Tmp} {t : TypeId} {pos : String} {af : Array Edge} {g : Option (Nat × Bool)} {x0 : Operand} {T0 T1 : Ty} (h0 : bF E x0 (eP [T0, T1])) :
  aL Tryz.prog n E H ⟨d,.build 34 #[(0,x0)],t,pos,af,g⟩ (eP [T0,T1,Is (.slice none 0 0)]) :=
 fS (parts := [(0, x0)]) fun a V w hs => by
  obtain ⟨v0,e0,c0⟩:=h0 n V a hs
  obtain ⟨c0_0,c0_1,rfl⟩:∃ c0_0 c0_1,v0 = [c0_0,c0_1]:=zI (by simpa using c0.length)
  refine ⟨.agg #[c0_0,c0_1,(.slice none 0 0)],?_,[c0_0,c0_1,(.slice none 0 0)],rfl,aW (c0.at (i:=0) rfl rfl) (aW (c0.at (i:=1) rfl rfl) (aW (⟨rfl,trivial⟩) (aG)))⟩
  simp [e0,Instr.build,Instr.fill,Sem.run_bind,Result.andThen,eS,O_34,U_34,Z_30,Z_32]
end
section
open Go Go.RowKit
theorem Si {r:List Qi} {c:List (List Qi)}:bE Tryz.prog 157 [cD r,PT (cM c)] (aE (!decide (r.length = c.length))):=by
 refine bE.intro Tryz.func157 rfl Tryz.ntmps157 rfl (fun cx=>(ts (ro rfl (cQ cV) (eX (ts (rm rfl (ro rfl (dG U_29 (Ht rfl) aA) (ro rfl (dJ A_30 Z_30 (Ht rfl)) (ro rfl (dG U_30 (Ht rfl) aA) (ro rfl (gI (Ht rfl) (Ht rfl)) (ra rfl (eX ?_))))))))))))
 exact fW rfl (eU rfl)
theorem We {z:List Qi} {s c:List (List Qi)} (hz:z.length ≤ 1000) (hc:c.length ≤ 1000):bE Tryz.prog 55 [lY z s,cM c] (gC [jC (dL (dF z c) z) (dL (dF z c) s) (dL (dF z c) c),aP .i64 (dF z c)]):=by
 refine bE.intro Tryz.func55 rfl Tryz.ntmps55 rfl (fun cx=>(ts (rn rfl (fG (Ht rfl)) fun B2=>(rn rfl (Cm (Ht rfl)) fun B3=>(rn rfl (eW (Ts:=[Is (.slice none 0 0),Is (.slice none 0 0),Is (.slice none 0 0)]) O_34 rfl (fun V=>aW zd (aW zd (aW zd (aG))))) fun B4=>(ro rfl (cQ (cJ 0)) (eX (cK (cK (gJ (i:=1) (tt:=3) rfl rfl qZ (fZ (m:=8) (dp 3 rfl (dJ A_30 Z_30 (Ht rfl)) (dq 9 0 rfl (dG U_30 (Ht rfl) aA) ?_)))))))))))))
 refine dp 2 rfl (eJ A_32 Z_32 (Ht rfl) (i:=0) rfl rfl rfl) (dq 11 2 rfl (cZ K_22 tU ⟨(Ht rfl),trivial⟩) (cL 10 1 12 3 rfl (gI (Ht rfl) (Ht rfl)) (dq 13 4 rfl (cX (Ht rfl)) (C.D_step (Ei:=[(3,_),(14,_)]) rfl rfl (bV (bK rfl rfl) (bV (bG 5 rfl rfl) bW)) (eK rfl rfl (Ht rfl) (fun h=>dJ A_30 Z_30 (Ht rfl))) (C.D_step (Ei:=[(3,_),(14,_)]) rfl rfl (bV (bK rfl rfl) (bV (bG 5 rfl rfl) bW)) (eK rfl rfl (Ht rfl) (fun h=>uL (γ:=List Qi) (Ts:=fun r=>[cD r]) (U:=fun r=>aE (!decide (r.length = c.length))) Tryz.call157 (fun r=>Si) ⟨(Ht rfl),trivial⟩)) ?_)))))
 refine fV aT rfl (by kernel_rfl) (zF (zF (aV (fQ rfl rfl (eK rfl rfl (Ht rfl) (fun h=>cZ Tryz.call156 (uW (l:=c) (T:=cD) (p:=fun r=>!decide (r.length = c.length)) zo) ⟨(fJ rfl h),(fJ rfl h),trivial⟩)) (ro rfl (iU (Ht rfl) (fun h=>(fJ rfl h))) (eX (dQ (Ht rfl) (fun hb=>?_) (fun hb=>?_))))))))
 ·have he := Nk hb
  refine ts (ro rfl (aL.imp (Gg ) yS) (gQ Z_34 (Ht rfl) (Ht rfl) rfl (i:=2) rfl (aK rfl) rfl rfl (ro rfl (cQ (cJ 4)) (eX (bM rfl (fX (fK A_34 Z_34 rfl (i:=2) rfl rfl) ?_) (fX (eU rfl) ?_))))))
  ·exact (Tm he)
  ·exact (aM he.symm)
 ·have he := Kn hb
  obtain ⟨hcl,hsh⟩:=yR he
  refine cU (ts (ro rfl (eJ A_32 Z_32 (Ht rfl) (i:=0) rfl rfl rfl) (ro rfl (Vs (Ht rfl)) (rn rfl (eW (Ts:=[Is (.slice none 0 0),Is (.slice none 0 0),Is (.slice none 0 0)]) O_34 rfl (fun V=>aW zd (aW zd (aW zd (aG))))) fun B6=>(gQ Z_34 (Ht rfl) (Ht rfl) rfl (i:=3) rfl (aK rfl) rfl rfl (eX (cK (ts (ro rfl (dJ A_30 Z_30 (Ht rfl)) (ro rfl (dG U_30 (Ht rfl) aA) (ro rfl (cX (cJ 0)) ?_)))))))))))
  refine eX (eG (cA [2,3] rfl (by decide) (oZ 29 1 ?_)))
  refine iB (fun (k : Nat) (out : List (List Qi)) (v : Value) => k ≤ c.length ∧ out = c.take k) (fun (k : Nat) (out : List (List Qi)) (v : Value) => c.length - k) (fun (k : Nat) (out : List (List Qi)) (v : Value) => [(4, bR B4 0), (6, bR B6 0), (22, cM c), (23, NT .i64 c.length), (24, NT .i64 k)]) (fun (k : Nat) (out : List (List Qi)) (v : Value) => [box B4 34 [Is (.slice none 0 0), Is (.slice none 0 0), Is (.slice none 0 0)], box B6 34 [cD z, cM s, Is v], bH 29 1 v (out.map cD)]) 0 [] (.slice none 0 0) ⟨Nat.zero_le _, rfl⟩
   (zS rfl) (dB.refl _) (fun k out v ⟨hk,ho⟩=>?_)
  refine ts (ro rfl (gX (Ht rfl) (Ht rfl)) (eX (cK (dQ (Ht rfl) (fun hd=>?_) (fun hd=>?_)))))
  ·simp only [decide_eq_true_eq] at hd
   have hol:out.length ≤ 1000:=by rw [ho,List.length_take]; omega
   have hrk : (c.getD k default).length ≤ 1000 := by
    have e:c.getD k default = c.getD k []:=rfl
    rw [e,hsh.row zo]; omega
   refine cU (cK (eG (ts (ro rfl (dZ U_30 Z_29 (Ht rfl) (Ht rfl) rfl (dY (dU (d:=default) hd))) (ro rfl (dJ A_29 Z_29 (Ht rfl)) (ra rfl (eX (fZ (m:=5) (dp 6 rfl (eZ qA (Ht rfl) rfl) (dq 28 0 rfl (Rc A_30 Z_30 (Ht rfl) (i:=1) rfl rfl) (dp 8 rfl (cX (Ht rfl)) (dq 30 2 rfl (cZ Tryz.call158 (Ox zo) ⟨(Ht rfl),trivial⟩) (dq 31 3 rfl (bT (xs:=[.tmp 31]) U_30 Z_29 O_29 (cW (Ht rfl) cG) rfl rfl rfl) ?_)))))))))))))
   refine fV aT rfl (by kernel_rfl) (zF (aJ (aV (iD (inf:=Tryz.t29) Og mX rfl rfl rfl (Ht rfl) (Ht rfl) (i:=2) rfl (by simp) (fun T hT=>by simp at hT; subst hT; exact El.one) (by show _ * 24 ≤ _; simp only [List.length_map,List.length_cons,List.length_nil]; omega) (by simp only [List.length_map,List.length_cons,List.length_nil]; omega) rfl (fun v2=>?_)))))
   refine ro rfl (eZ qA (Ht rfl) rfl) (a49 (l:=2) Z_30 (Ht rfl) (Ht rfl) (i:=1) rfl rfl (aK rfl) rfl (eX (aS (cY (ro rfl (dV (Ht rfl) (cJ 1) z6) (rm rfl (eX (fU (k + 1,_,v2) ⟨by omega,Od hd ho⟩ (by dsimp only; omega) (zS rfl) (aU (aB rfl) (aU (aB rfl) (aU (aD (pC cD _ _)) aY)))))))))))
  ·simp only [decide_eq_false_iff_not] at hd
   have hfin:=Dc ho zo
   subst hfin
   refine gV rfl (cK (Em 1 2 2 rfl rfl rfl (by decide) (cY (ro rfl (eJ A_34 Z_34 (Ht rfl) (i:=1) rfl rfl rfl) (gQ Z_34 (Ht rfl) (Ht rfl) rfl (i:=0) rfl (aK rfl) rfl rfl (ro rfl (cQ (cJ 0)) (eX (bM rfl (fX (fK A_34 Z_34 rfl (i:=0) rfl rfl) ?_) (fX (eU rfl) ?_)))))))))
   ·exact (Nl he)
   ·exact (aM he.symm)
end
section
open Go Go.RowKit
theorem tT {n : Nat} {E : dE} {H : Hp} {d : Option Tmp} {t : TypeId} {pos : String} {af : Array Edge} {g : Option (Nat × Bool)}  :
  aL Tryz.prog n E H ⟨d,.build 38 #[],t,pos,af,g⟩ (eP [Is (.slice none 0 0),Is (.slice none 0 0)]) :=
 fS (parts := []) fun a V w hs => by
  refine ⟨.agg #[(.slice none 0 0),(.slice none 0 0)],?_,[(.slice none 0 0),(.slice none 0 0)],rfl,aW (⟨rfl,trivial⟩) (aW (⟨rfl,trivial⟩) (aG))⟩
  simp [Instr.build,Instr.fill,Sem.run_bind,Result.andThen,eS,O_38,U_38,Z_35,Z_36]
theorem Bo {n : Nat} {E : dE} {H : Hp} {d : Option Tmp} {t : TypeId} {pos : String} {af : Array Edge} {g : Option (Nat × Bool)} {x0 x1 : Operand} {T0 T1 : Ty} [s0 : dR T0 1 false] (h0 : bF E x0 T0) [s1 : dR T1 1 false] (h1 : bF E x1 T1) :
  aL Tryz.prog n E H ⟨d,.build 38 #[(0,x0),(1,x1)],t,pos,af,g⟩ (eP [T0,T1]) :=
 fS (parts := [(0, x0), (1, x1)]) fun a V w hs => by
  have p0:=h0 n V a hs
  generalize e0:a.eval x0 = v0 at p0
  have q0:=(s0.ok v0 V p0).2.2 rfl
  have p1:=h1 n V a hs
  generalize e1:a.eval x1 = v1 at p1
  have q1:=(s1.ok v1 V p1).2.2 rfl
  refine ⟨.agg #[v0,v1],?_,[v0,v1],rfl,aW (⟨p0,q0⟩) (aW (⟨p1,q1⟩) (aG))⟩
  simp [e0,e1,Instr.build,Instr.fill,Sem.run_bind,Result.andThen,eS,q0.cells,q1.cells,O_38,U_38,Z_35,Z_36]
theorem Gh {n : Nat} {E : dE} {H : Hp} {d : Option Tmp} {t : TypeId} {pos : String} {af : Array Edge} {g : Option (Nat × Bool)}  :
  aL Tryz.prog n E H ⟨d,.build 40 #[],t,pos,af,g⟩ (eP [Is (.slice none 0 0),Is (.slice none 0 0),Is (.slice none 0 0)]) :=
 fS (parts := []) fun a V w hs => by
  refine ⟨.agg #[(.slice none 0 0),(.slice none 0 0),(.slice none 0 0)],?_,[(.slice none 0 0),(.slice none 0 0),(.slice none 0 0)],rfl,aW (⟨rfl,trivial⟩) (aW (⟨rfl,trivial⟩) (aW (⟨rfl,trivial⟩) (aG)))⟩
  simp [Instr.build,Instr.fill,Sem.run_bind,Result.andThen,eS,O_40,U_40,Z_36,Z_38]
theorem Bp {n : Nat} {E : dE} {H : Hp} {d : Option Tmp} {t : TypeId} {pos : String} {af : Array Edge} {g : Option (Nat × Bool)} {x0 x1 : Operand} {T0 T1 T2 : Ty} (h0 : bF E x0 (eP [T0, T1])) [s1 : dR T2 1 false] (h1 : bF E x1 T2) :
  aL Tryz.prog n E H ⟨d,.build 40 #[(0,x0),(1,x1)],t,pos,af,g⟩ (eP [T0,T1,T2]) :=
 fS (parts := [(0, x0), (1, x1)]) fun a V w hs => by
  obtain ⟨v0,e0,c0⟩:=h0 n V a hs
  obtain ⟨c0_0,c0_1,rfl⟩:∃ c0_0 c0_1,v0 = [c0_0,c0_1]:=zI (by simpa using c0.length)
  have p1:=h1 n V a hs
  generalize e1:a.eval x1 = v1 at p1
  have q1:=(s1.ok v1 V p1).2.2 rfl
  refine ⟨.agg #[c0_0,c0_1,v1],?_,[c0_0,c0_1,v1],rfl,aW (c0.at (i:=0) rfl rfl) (aW (c0.at (i:=1) rfl rfl) (aW (⟨p1,q1⟩) (aG)))⟩
  simp [e0,e1,Instr.build,Instr.fill,Sem.run_bind,Result.andThen,eS,q1.cells,O_40,U_40,Z_36,Z_38]
theorem kU (a:Addr) (w:World):(Instr.fieldAt 38 (.pointer (some a)) 0).run Tryz.prog w = .ok (.pointer (some (a.add 0))) w:=by
 simp [Instr.fieldAt,Instr.sureAddr,fieldPlace,Sem.run_bind,Result.andThen,U_38,Z_35]
end
section
open Go Go.RowKit
theorem Ja {x:Qi} {L:Nat} [hx:aO x L] (h:L ≤ 17592186044415):bE Tryz.prog 250 [QT x] (aE (nB x)):=by
 refine bE.intro Tryz.func250 rfl Tryz.ntmps250 rfl (fun cx=>(ts (rn rfl (fG (Ht rfl)) fun B1=>(ro rfl (cQ cV) (eX (ts (ro rfl (eJ A_131 Z_131 (Ht rfl) (i:=0) rfl rfl rfl) (ro rfl (cZ Tryz.call242 (a0F zo) ⟨(Ht rfl),trivial⟩) (ro rfl (jR (Ht rfl) cV) (rm rfl (fQ rfl rfl (eK rfl rfl (Ht rfl) (fun h=>eJ A_131 Z_131 (Ht rfl) (i:=0) rfl rfl rfl)) (fQ rfl rfl (eK rfl rfl (Ht rfl) (fun h=>cZ Tryz.call239 Ph ⟨(fJ rfl h),trivial⟩)) (fQ rfl rfl (eK rfl rfl (Ht rfl) (fun h=>yT (fJ rfl h) cV)) ?_)))))))))))))
 refine ro rfl (fF (Ht rfl) (fun h=>(fJ rfl h))) (ra rfl (eX (fW rfl (fX (eU rfl) ?_))))
 exact (eH (a1S x))
theorem Wm {z:List Qi} {s:List (List Qi)} (hz:z.length ≤ 100000) (hs:s.length ≤ 100000):bE Tryz.prog 189 [oQ z,QM s] (aE (Cy z s)):=by
 refine bE.intro Tryz.func189 rfl Tryz.ntmps189 rfl (fun cx=>(ts (ro rfl (cQ cV) (eX (cK (ts (rm rfl (ro rfl (dG U_35 (Ht rfl) aA) (ro rfl (gX (Ht rfl) (cJ 1)) (rm rfl (fQ rfl rfl (eK rfl rfl (Ht rfl) (fun h=>cX (Ht rfl))) (fQ rfl rfl (eK rfl rfl (Ht rfl) (fun h=>dG U_35 (fJ rfl h) aA)) (fQ rfl rfl (eK rfl rfl (Ht rfl) (fun h=>eE (fJ rfl h) (cJ 8))) (ro rfl (iU (Ht rfl) (fun h=>(fJ rfl h))) (rm rfl (fQ rfl rfl (eK rfl rfl (Ht rfl) (fun h=>cX (Ht rfl))) ?_))))))))))))))))
 refine fQ rfl rfl (eK rfl rfl (Ht rfl) (fun h=>dG U_36 (fJ rfl h) aA)) (fQ rfl rfl (eK rfl rfl (Ht rfl) (fun h=>cX (Ht rfl))) (fQ rfl rfl (eK rfl rfl (Ht rfl) (fun h=>dG U_35 (fJ rfl h) aA)) (fQ rfl rfl (eK rfl rfl (Ht rfl) (fun h=>gI (fJ rfl h) (fJ rfl h))) (ro rfl (iU (Ht rfl) (fun h=>(fJ rfl h))) (eX (dQ (Ht rfl) (fun hb=>?_) (fun hb=>?_)))))))
 ·refine ts (ro rfl (cQ cV) (eX (fW rfl (fX (eU rfl) ?_))))
  exact (eH (by rw [Cy,hb]; rfl))
 ·refine cU (cK (ts (ro rfl (cQ (cJ 0)) (eX (eG ?_)))))
  refine bO (fun (k : Nat) => k ≤ s.length ∧ ∀ (i : Nat) (r : List Qi), i < k → s[i]? = some r → r.length = z.length) (fun (k : Nat) => s.length - k) (fun (k : Nat) => [(0, oQ z), (1, QM s), (5, NT .i64 k)]) (fun (k : Nat) => []) 0 ⟨Nat.zero_le _, fun i r h => by omega⟩
   (zS rfl) aY (fun k ⟨hk,hr⟩=>?_)
  refine cK (ts (rm rfl (rm rfl (ro rfl (dG U_36 (Ht rfl) aA) (ro rfl (gX (Ht rfl) (Ht rfl)) (eX (dQ (Ht rfl) (fun hc=>?_) (fun hc=>?_))))))))
  ·simp only [decide_eq_true_eq] at hc
   refine cU (cK (eG (ts (rm rfl (rm rfl (ro rfl (dZ U_36 Z_35 (Ht rfl) (Ht rfl) rfl (dY (nL hc))) (ro rfl (dJ A_35 Z_35 (Ht rfl)) (ro rfl (dG U_35 (Ht rfl) aA) (rm rfl (ro rfl (dG U_35 (Ht rfl) aA) (ro rfl (gI (Ht rfl) (Ht rfl)) (eX (dQ (Ht rfl) (fun hd=>?_) (fun hd=>?_))))))))))))))
   ·have hd2 : ¬ (s[k]).length = z.length := by simpa using hd
    refine ts (ro rfl (cQ cV) (eX (fW rfl (fX (eU rfl) ?_))))
    exact (eH (by rw [Cy,On (nL hc) hd2,Bool.or_true]; rfl))
   ·have hd2 : (s[k]).length = z.length := by simpa using hd
    refine cU (aS (cY (rm rfl (ro rfl (dV (Ht rfl) (cJ 1) z6) (ra rfl (eX ?_))))))
    refine fU (k + 1) ⟨hc, fun i r h1 h2 => by
     by_cases e:i = k
     ·subst e; rw [nL hc] at h2; obtain rfl:=Option.some.inj h2; exact hd2
     ·exact hr i r zo h2⟩ zo (zS rfl) aY
  ·simp only [decide_eq_false_iff_not] at hc
   have hall:∀ (i:Nat) (r:List Qi),s[i]? = some r → r.length = z.length:=fun i r h=>hr i r (by have:=(List.getElem?_eq_some_iff.1 h).1; omega) h
   refine gV rfl (ts (ro rfl (cQ cV) (eX (fW rfl (fX (eU rfl) ?_)))))
   exact (eH (by rw [Cy,Io hall,hb]; rfl))
theorem Do {z:List Qi} {L:Nat} (hz:dA z L) (h:L ≤ 17592186044415) (hl:z.length ≤ 100000):bE Tryz.prog 190 [oQ z] (aE (z.all nB)):=by
 refine bE.intro Tryz.func190 rfl Tryz.ntmps190 rfl (fun cx=>(ts (ro rfl (cQ cV) (eX (cK (ts (ro rfl (cQ (cJ 0)) (eX (eG ?_)))))))))
 refine bO (fun (k : Nat) => k ≤ z.length ∧ ∀ (i : Nat) (r : Qi), i < k → z[i]? = some r → nB r = true) (fun (k : Nat) => z.length - k) (fun (k : Nat) => [(0, oQ z), (3, NT .i64 k)]) (fun (k : Nat) => []) 0 ⟨Nat.zero_le _, fun i r h => by omega⟩
  (zS rfl) aY (fun k ⟨hk,hr⟩=>?_)
 refine cK (ts (rm rfl (rm rfl (ro rfl (dG U_35 (Ht rfl) aA) (ro rfl (gX (Ht rfl) (Ht rfl)) (eX (dQ (Ht rfl) (fun hc=>?_) (fun hc=>?_))))))))
 ·simp only [decide_eq_true_eq] at hc
  haveI hf:aO z[k] L:=hz _ (List.getElem_mem hc)
  refine cU (cK (eG (ts (rm rfl (rm rfl (ro rfl (dZ U_35 Z_131 (Ht rfl) (Ht rfl) rfl (dY (nL hc))) (ro rfl (dJ A_131 Z_131 (Ht rfl)) (ro rfl (cZ Tryz.call250 (Ja (L:=L) h) ⟨(Ht rfl),trivial⟩) (ro rfl (gB (Ht rfl)) (eX (dQ (Ht rfl) (fun hd=>?_) (fun hd=>?_))))))))))))
  ·have hd2 : nB z[k] = false := by simpa using hd
   refine ts (ro rfl (cQ cV) (eX (fW rfl (fX (eU rfl) ?_))))
   exact (eH (a2K (nL hc) hd2).symm)
  ·have hd2 : nB z[k] = true := by simpa using hd
   refine cU (aS (cY (rm rfl (ro rfl (dV (Ht rfl) (cJ 1) z6) (ra rfl (eX ?_))))))
   refine fU (k + 1) ⟨hc, fun i r h1 h2 => by
    by_cases e:i = k
    ·subst e; rw [nL hc] at h2; obtain rfl:=Option.some.inj h2; exact hd2
    ·exact hr i r zo h2⟩ zo (zS rfl) aY
 ·simp only [decide_eq_false_iff_not] at hc
  have hall:∀ (i:Nat) (r:Qi),z[i]? = some r → nB r = true:=fun i r h=>hr i r (by have:=(List.getElem?_eq_some_iff.1 h).1; omega) h
  refine gV rfl (ts (ro rfl (cQ cV) (eX (fW rfl (fX (eU rfl) ?_)))))
  exact (eH (a0h hall).symm)
theorem Sn {z:List Qi} {s:List (List Qi)} {L:Nat} (hz:dA z L) (h:L ≤ 17592186044415) (hl:z.length ≤ 1000) (hl2:s.length ≤ 1000):bE Tryz.prog 90 [oQ z,QM s] (gC [oI (dL (cC z s) z) (dL (cC z s) s),aP .i64 (cC z s)]):=by
 refine bE.intro Tryz.func90 rfl Tryz.ntmps90 rfl (fun cx=>(ts (rn rfl (eW (Ts:=[Is (.slice none 0 0),Is (.slice none 0 0)]) O_38 rfl (fun V=>aW zd (aW zd (aG)))) fun B4=>(ro rfl (cQ (cJ 0)) (eX (cK (ts (rm rfl (rm rfl (ro rfl (cZ Tryz.call189 (Wm zo zo) ⟨(Ht rfl),(Ht rfl),trivial⟩) (ro rfl (gB (Ht rfl)) (eX (dQ (Ht rfl) (fun hb=>?_) (fun hb=>?_))))))))))))))
 ·have hb2 : ¬ Cy z s = true := by simpa using hb
  have he:cC z s = 4:=by rw [yP,if_neg hb2]
  refine ts (ro rfl (aL.imp (tT ) rH) (gQ Z_38 (Ht rfl) (Ht rfl) rfl (i:=0) rfl (aK rfl) rfl rfl (ro rfl (cQ (cJ 4)) (eX (bM rfl (fX (fK A_38 Z_38 rfl (i:=0) rfl rfl) ?_) (fX (eU rfl) ?_))))))
  ·exact (Lb he (by decide))
  ·exact (aM he.symm)
 ·have hb2 : Cy z s = true := by simpa using hb
  refine cU (cK (ts (rm rfl (ro rfl (cZ Tryz.call190 (Do (by assumption) (by assumption) zo) ⟨(Ht rfl),trivial⟩) ?_))))
  refine ro rfl (gB (Ht rfl)) (eX (dQ (Ht rfl) (fun hc=>?_) (fun hc=>?_)))
  ·have hc2 : ¬ z.all nB = true := by simp only [Bool.not_eq_true'] at hc; rw [hc]; exact Bool.noConfusion
   have he:cC z s = 1:=by rw [yP,if_pos hb2,if_neg hc2]
   refine ts (ro rfl (aL.imp (tT ) rH) (gQ Z_38 (Ht rfl) (Ht rfl) rfl (i:=0) rfl (aK rfl) rfl rfl (ro rfl (cQ (cJ 1)) (eX (bM rfl (fX (fK A_38 Z_38 rfl (i:=0) rfl rfl) ?_) (fX (eU rfl) ?_))))))
   ·exact (Lb he (by decide))
   ·exact (aM he.symm)
  ·have hc2 : z.all nB = true := by simp only [Bool.not_eq_false'] at hc; exact hc
   have he:cC z s = 0:=by rw [yP,if_pos hb2,if_pos hc2]
   refine cU (ts (rm rfl (rm rfl (ro rfl (Bo (Ht rfl) (Ht rfl)) (gQ Z_38 (Ht rfl) (Ht rfl) rfl (i:=0) rfl (aK rfl) rfl rfl (ro rfl (cQ (cJ 0)) (eX (bM rfl (fX (fK A_38 Z_38 rfl (i:=0) rfl rfl) ?_) (fX (eU rfl) ?_)))))))))
   ·exact (Ub he)
   ·exact (aM he.symm)
theorem So {z:List Qi} {s c:List (List Qi)} (hz:z.length ≤ 1000) (hc:c.length ≤ 1000):bE Tryz.prog 92 [oI z s,QM c] (gC [nT (dL (dF z c) z) (dL (dF z c) s) (dL (dF z c) c),aP .i64 (dF z c)]):=by
 refine bE.intro Tryz.func92 rfl Tryz.ntmps92 rfl (fun cx=>(ts (rn rfl (fG (Ht rfl)) fun B2=>(rn rfl (eW (Ts:=[Is (.slice none 0 0),Is (.slice none 0 0),Is (.slice none 0 0)]) O_40 rfl (fun V=>aW zd (aW zd (aW zd (aG))))) fun B4=>(ro rfl (cQ (cJ 0)) (eX (cK (ts (rm rfl (ro rfl (dG U_36 (Ht rfl) aA) (ro rfl (eZ kU (Ht rfl) rfl) (ro rfl (eY A_35 Z_35 (Ht rfl) (i:=0) rfl rfl) (ro rfl (dG U_35 (Ht rfl) aA) ?_)))))))))))))
 refine ro rfl (gI (Ht rfl) (Ht rfl)) (eX (dQ (Ht rfl) (fun hb=>?_) (fun hb=>?_)))
 ·have hb2 : ¬ c.length = z.length := by simpa using hb
  have he:dF z c = 4:=by rw [← vS,xL,if_pos (.inl hb2)]
  refine ts (ro rfl (aL.imp (Gh ) vT) (gQ Z_40 (Ht rfl) (Ht rfl) rfl (i:=1) rfl (aK rfl) rfl rfl (ro rfl (cQ (cJ 4)) (eX (bM rfl (fX (fK A_40 Z_40 rfl (i:=1) rfl rfl) ?_) (fX (eU rfl) ?_))))))
  ·exact (Ct he)
  ·exact (aM he.symm)
 ·have hb2 : c.length = z.length := by simpa using hb
  refine cU (cK (ts (ro rfl (cQ (cJ 0)) (eX (eG ?_)))))
  refine bO (fun (k : Nat) => k ≤ c.length ∧ ∀ (i : Nat) (r : List Qi), i < k → c[i]? = some r → r.length = z.length) (fun (k : Nat) => c.length - k) (fun (k : Nat) => [(1, QM c), (2, bR B2 0), (4, bR B4 0), (6, NT .i64 k)]) (fun (k : Nat) => [box B2 38 [oQ z, QM s], box B4 40 [Is (.slice none 0 0), Is (.slice none 0 0), Is (.slice none 0 0)]]) 0 ⟨Nat.zero_le _, fun i r h => by omega⟩
   (zS rfl) (dB.refl _) (fun k ⟨hk,hr⟩=>?_)
  refine cK (ts (rm rfl (rm rfl (ro rfl (dG U_36 (Ht rfl) aA) (ro rfl (gX (Ht rfl) (Ht rfl)) (eX (dQ (Ht rfl) (fun hd=>?_) (fun hd=>?_))))))))
  ·simp only [decide_eq_true_eq] at hd
   refine cU (cK (eG (cK (fZ (m:=8) (dp 1 rfl (cX (Ht rfl)) (dp 6 rfl (cX (Ht rfl)) (cL 20 0 21 1 rfl (dZ U_36 Z_35 (Ht rfl) (Ht rfl) rfl (dY (nL hd))) (dq 22 2 rfl (dJ A_35 Z_35 (Ht rfl)) (dq 23 3 rfl (dG U_35 (Ht rfl) aA) (dp 2 rfl (eZ kU (Ht rfl) rfl) (dq 25 5 rfl (eY A_35 Z_35 (Ht rfl) (i:=0) rfl rfl) (dq 26 6 rfl (dG U_35 (Ht rfl) aA) (fV aT rfl (by kernel_rfl) (zF (zF (aV ?_))))))))))))))))
   refine ro rfl (gI (Ht rfl) (Ht rfl)) (eX (dQ (Ht rfl) (fun he=>?_) (fun he=>?_)))
   ·have hd2 : ¬ (c[k]).length = z.length := by simpa using he
    have he:dF z c = 4:=by rw [← vS,xL,if_pos (.inr (On (nL hd) hd2))]
    refine ts (ro rfl (aL.imp (Gh ) vT) (gQ Z_40 (Ht rfl) (Ht rfl) rfl (i:=1) rfl (aK rfl) rfl rfl (ro rfl (cQ (cJ 4)) (eX (bM rfl (fX (fK A_40 Z_40 rfl (i:=1) rfl rfl) ?_) (fX (eU rfl) ?_))))))
    ·exact (Ct he)
    ·exact (aM he.symm)
   ·have hd2 : (c[k]).length = z.length := by simpa using he
    refine cU (aS (cY (rm rfl (ro rfl (dV (Ht rfl) (cJ 1) z6) (ra rfl (eX ?_))))))
    refine fU (k + 1) ⟨hd, fun i r h1 h2 => by
      by_cases e:i = k
      ·subst e; rw [nL hd] at h2; obtain rfl:=Option.some.inj h2; exact hd2
      ·exact hr i r zo h2⟩ zo (zS rfl) (dB.refl _)
  ·simp only [decide_eq_false_iff_not] at hd
   have hall:∀ (i:Nat) (r:List Qi),c[i]? = some r → r.length = z.length:=fun i r h=>hr i r (by have:=(List.getElem?_eq_some_iff.1 h).1; omega) h
   have he:dF z c = 0:=by rw [← vS,xL,if_neg (by rintro (h | h); exact h hb2; rw [Io hall] at h; cases h)]
   refine gV rfl (ts (ro rfl (eJ A_38 Z_38 (Ht rfl) (i:=0) rfl rfl rfl) (rm rfl (ro rfl (Bp (Ht rfl) (Ht rfl)) (gQ Z_40 (Ht rfl) (Ht rfl) rfl (i:=1) rfl (aK rfl) rfl rfl (ro rfl (cQ (cJ 0)) (eX (bM rfl (fX (fK A_40 Z_40 rfl (i:=1) rfl rfl) ?_) (fX (eU rfl) ?_)))))))))
   ·exact (Lc he)
   ·exact (aM he.symm)
end
section
open Go Go.RowKit
theorem a30 {z:List Rt} {s c:List (List Rt)} (hf:yK z s c = true):bE Tryz.prog 17 [Uw z s c] (gC [jC (Dq z s c) (Kj z s c) (Ti z s c),nT (Dq z s c) (Kj z s c) (Ti z s c),aE true]):=by
 obtain ⟨hz,hs,hc,hsr,hcr⟩:=Ae hf
 have hsr2:∀ r,r ∈ s → r.length ≤ 1000:=fun r h=>Nat.le_trans (hsr r h) (by decide)
 have hcr2:∀ r,r ∈ c → r.length ≤ 1000:=fun r h=>Nat.le_trans (hcr r h) (by decide)
 have hz1:(z.map Rt.q).length ≤ 1000:=by simp; omega
 have hs1:(rq s).length ≤ 1000:=by simp; omega
 have hc1:(rq c).length ≤ 1000:=by simp; omega
 have hz2:(dL (cC (z.map Rt.q) (rq s)) (z.map Rt.q)).length ≤ 1000:=Nat.le_trans (a1u _ _) hz1
 have hfit:dA (z.map Rt.q) 2:=dA.rt
 refine bE.intro Tryz.func17 rfl Tryz.ntmps17 rfl (fun cx=>(ts (rn rfl (fG (Ht rfl)) fun B1=>(rn rfl (eW (Ts:=[Is (.slice none 0 0),Is (.slice none 0 0),Is (.slice none 0 0)]) O_34 rfl (fun V=>aW zd (aW zd (aW zd (aG))))) fun B2=>(rn rfl (eW (Ts:=[Is (.slice none 0 0),Is (.slice none 0 0),Is (.slice none 0 0)]) O_40 rfl (fun V=>aW zd (aW zd (aW zd (aG))))) fun B3=>(ro rfl (cQ cV) ?_))))))
 refine eX (cK (Y.D_start (m:=12) [] (bY (Ei:=[(1,_)]) rfl rfl (bQ (bJ rfl rfl) bX) rfl rfl (dX rfl (eZ Ha (Ht rfl) rfl)) (bY (Ei:=[(14,_)]) rfl rfl (bQ (bZ 0 rfl rfl) bX) rfl rfl (dX rfl (eY A_22 Z_22 (Ht rfl) (i:=0) rfl rfl)) (bY (Ei:=[(15,_)]) rfl rfl (bQ (bZ 1 rfl rfl) bX) rfl rfl (dX rfl (cZ Tryz.call48 (xZ zo) ⟨(Ht rfl),trivial⟩)) (bY (Ei:=[(1,_)]) rfl rfl (bQ (bJ rfl rfl) bX) rfl rfl (dX rfl (eZ Ac (Ht rfl) rfl)) ?_))))))
 refine bY (Ei:=[(17,_)]) rfl rfl (bQ (bZ 3 rfl rfl) bX) rfl rfl (dX rfl (eY A_23 Z_23 (Ht rfl) (i:=0) rfl rfl)) (bY (Ei:=[(18,_)]) rfl rfl (bQ (bZ 4 rfl rfl) bX) rfl rfl (dX rfl (cZ Tryz.call86 (yA zo (by assumption)) ⟨(Ht rfl),trivial⟩)) ?_)
 refine bY (Ei:=[(16,_),(19,_)]) rfl rfl (bQ (bZ 2 rfl rfl) (bQ (bZ 5 rfl rfl) bX)) rfl rfl (dX rfl (cZ Tryz.call85 (Ix (L:=2) (by assumption) zo zo zo) ⟨(Ht rfl),(Ht rfl),trivial⟩)) ?_
 refine bY (Ei:=[(20,_)]) rfl rfl (bQ (bZ 6 rfl rfl) bX) rfl rfl (dX rfl (cX (Ht rfl))) (bY (Ei:=[(13,_)]) rfl rfl (bQ (bZ 7 rfl rfl) bX) rfl rfl (dX rfl (dK (Ht rfl) rfl)) (bY (Ei:=[(13,_)]) rfl rfl (bQ (bZ 7 rfl rfl) bX) rfl rfl (dX rfl (dK (Ht rfl) rfl)) (Y.D_newp (Ei:=[]) (fun bb=>box bb 32 [cD (dL (cC (z.map Rt.q) (rq s)) (z.map Rt.q)),cM (dL (cC (z.map Rt.q) (rq s)) (rq s))]) 11 rfl rfl rfl bX rfl rfl (by kernel_rfl) (eW (Ts:=[Is (.slice none 0 0),Is (.slice none 0 0)]) O_32 rfl (fun V=>aW zd (aW zd (aG)))) ?_)))
 refine Y.D_putN (Ei:=[(21,_)]) 10 rfl rfl rfl rfl rfl rfl (bQ (bZ 8 rfl rfl) bX) (fun bb=>sF Z_32 (Ht rfl) (Ht rfl) rfl (i:=0) rfl (aK rfl) rfl rfl) (Y.D_done aT rfl (by kernel_rfl) rfl (by simp [Y.okP]) rfl rfl (bU (bU (bU (bU (bU (bU (bU (bU (bU (bU (Y.F_newp (fun B5=>Y.F_putN (Y.F_nil ?_))))))))))))))
 refine ra rfl (eX (cK (Y.D_start (m:=10) [] (bY (Ei:=[(5,_)]) rfl rfl (bQ (bJ rfl rfl) bX) rfl rfl (dX rfl (eJ A_32 Z_32 (Ht rfl) (i:=3) rfl rfl rfl)) (bY (Ei:=[(1,_)]) rfl rfl (bQ (bJ rfl rfl) bX) rfl rfl (dX rfl (eZ Ad (Ht rfl) rfl)) (bY (Ei:=[(25,_)]) rfl rfl (bQ (bZ 1 rfl rfl) bX) rfl rfl (dX rfl (eY A_23 Z_23 (Ht rfl) (i:=0) rfl rfl)) (bY (Ei:=[(26,_)]) rfl rfl (bQ (bZ 2 rfl rfl) bX) rfl rfl (dX rfl (cZ Tryz.call86 (yA zo (by assumption)) ⟨(Ht rfl),trivial⟩)) ?_)))))))
 refine bY (Ei:=[(24,_),(27,_)]) rfl rfl (bQ (bZ 0 rfl rfl) (bQ (bZ 3 rfl rfl) bX)) rfl rfl (dX rfl (cZ Tryz.call55 (We zo zo) ⟨(Ht rfl),(Ht rfl),trivial⟩)) (bY (Ei:=[(28,_)]) rfl rfl (bQ (bZ 4 rfl rfl) bX) rfl rfl (dX rfl (cX (Ht rfl))) (bY (Ei:=[(23,_)]) rfl rfl (bQ (bZ 5 rfl rfl) bX) rfl rfl (dX rfl (dK (Ht rfl) rfl)) (bY (Ei:=[(23,_)]) rfl rfl (bQ (bZ 5 rfl rfl) bX) rfl rfl (dX rfl (dK (Ht rfl) rfl)) ?_)))
 refine Y.D_newp (Ei:=[]) (fun bb=>box bb 34 [cD (dL (dF (dL (cC (z.map Rt.q) (rq s)) (z.map Rt.q)) (rq c)) (dL (cC (z.map Rt.q) (rq s)) (z.map Rt.q))),cM (dL (dF (dL (cC (z.map Rt.q) (rq s)) (z.map Rt.q)) (rq c)) (dL (cC (z.map Rt.q) (rq s)) (rq s))),cM (dL (dF (dL (cC (z.map Rt.q) (rq s)) (z.map Rt.q)) (rq c)) (rq c))]) 9 rfl rfl rfl bX rfl rfl (by kernel_rfl) (eW (Ts:=[Is (.slice none 0 0),Is (.slice none 0 0),Is (.slice none 0 0)]) O_34 rfl (fun V=>aW zd (aW zd (aW zd (aG))))) ?_
 refine Y.D_putN (Ei:=[(29,_)]) 8 rfl rfl rfl rfl rfl rfl (bQ (bZ 6 rfl rfl) bX) (fun bb=>sF Z_34 (Ht rfl) (Ht rfl) rfl (i:=0) rfl (aK rfl) rfl rfl) (Y.D_done aT rfl (by kernel_rfl) rfl (by simp [Y.okP]) rfl rfl (bU (bU (bU (bU (bU (bU (bU (bU (Y.F_newp (fun B7=>Y.F_putN (Y.F_nil ?_))))))))))))
 refine ra rfl (eX (cK (Y.D_start (m:=12) [] (bY (Ei:=[(1,_)]) rfl rfl (bQ (bJ rfl rfl) bX) rfl rfl (dX rfl (eZ Ha (Ht rfl) rfl)) (bY (Ei:=[(32,_)]) rfl rfl (bQ (bZ 0 rfl rfl) bX) rfl rfl (dX rfl (eY A_22 Z_22 (Ht rfl) (i:=0) rfl rfl)) (bY (Ei:=[(33,_)]) rfl rfl (bQ (bZ 1 rfl rfl) bX) rfl rfl (dX rfl (cZ Tryz.call50 (Et zo) ⟨(Ht rfl),trivial⟩)) (bY (Ei:=[(1,_)]) rfl rfl (bQ (bJ rfl rfl) bX) rfl rfl (dX rfl (eZ Ac (Ht rfl) rfl)) ?_)))))))
 refine bY (Ei:=[(35,_)]) rfl rfl (bQ (bZ 3 rfl rfl) bX) rfl rfl (dX rfl (eY A_23 Z_23 (Ht rfl) (i:=0) rfl rfl)) (bY (Ei:=[(36,_)]) rfl rfl (bQ (bZ 4 rfl rfl) bX) rfl rfl (dX rfl (cZ Tryz.call91 (Eu zo (by assumption)) ⟨(Ht rfl),trivial⟩)) ?_)
 refine bY (Ei:=[(34,_),(37,_)]) rfl rfl (bQ (bZ 2 rfl rfl) (bQ (bZ 5 rfl rfl) bX)) rfl rfl (dX rfl (cZ Tryz.call90 (Sn (L:=2) (by assumption) zo zo zo) ⟨(Ht rfl),(Ht rfl),trivial⟩)) ?_
 refine bY (Ei:=[(38,_)]) rfl rfl (bQ (bZ 6 rfl rfl) bX) rfl rfl (dX rfl (cX (Ht rfl))) (bY (Ei:=[(31,_)]) rfl rfl (bQ (bZ 7 rfl rfl) bX) rfl rfl (dX rfl (dK (Ht rfl) rfl)) (bY (Ei:=[(31,_)]) rfl rfl (bQ (bZ 7 rfl rfl) bX) rfl rfl (dX rfl (dK (Ht rfl) rfl)) (Y.D_newp (Ei:=[]) (fun bb=>box bb 38 [oQ (dL (cC (z.map Rt.q) (rq s)) (z.map Rt.q)),QM (dL (cC (z.map Rt.q) (rq s)) (rq s))]) 11 rfl rfl rfl bX rfl rfl (by kernel_rfl) (eW (Ts:=[Is (.slice none 0 0),Is (.slice none 0 0)]) O_38 rfl (fun V=>aW zd (aW zd (aG)))) ?_)))
 refine Y.D_putN (Ei:=[(39,_)]) 10 rfl rfl rfl rfl rfl rfl (bQ (bZ 8 rfl rfl) bX) (fun bb=>sF Z_38 (Ht rfl) (Ht rfl) rfl (i:=0) rfl (aK rfl) rfl rfl) (Y.D_done aT rfl (by kernel_rfl) rfl (by simp [Y.okP]) rfl rfl (bU (bU (bU (bU (bU (bU (bU (bU (bU (bU (Y.F_newp (fun B9=>Y.F_putN (Y.F_nil ?_))))))))))))))
 refine ra rfl (eX (cK (Y.D_start (m:=10) [] (bY (Ei:=[(9,_)]) rfl rfl (bQ (bJ rfl rfl) bX) rfl rfl (dX rfl (eJ A_38 Z_38 (Ht rfl) (i:=5) rfl rfl rfl)) (bY (Ei:=[(1,_)]) rfl rfl (bQ (bJ rfl rfl) bX) rfl rfl (dX rfl (eZ Ad (Ht rfl) rfl)) (bY (Ei:=[(43,_)]) rfl rfl (bQ (bZ 1 rfl rfl) bX) rfl rfl (dX rfl (eY A_23 Z_23 (Ht rfl) (i:=0) rfl rfl)) (bY (Ei:=[(44,_)]) rfl rfl (bQ (bZ 2 rfl rfl) bX) rfl rfl (dX rfl (cZ Tryz.call91 (Eu zo (by assumption)) ⟨(Ht rfl),trivial⟩)) ?_)))))))
 refine bY (Ei:=[(42,_),(45,_)]) rfl rfl (bQ (bZ 0 rfl rfl) (bQ (bZ 3 rfl rfl) bX)) rfl rfl (dX rfl (cZ Tryz.call92 (So zo zo) ⟨(Ht rfl),(Ht rfl),trivial⟩)) (bY (Ei:=[(46,_)]) rfl rfl (bQ (bZ 4 rfl rfl) bX) rfl rfl (dX rfl (cX (Ht rfl))) (bY (Ei:=[(41,_)]) rfl rfl (bQ (bZ 5 rfl rfl) bX) rfl rfl (dX rfl (dK (Ht rfl) rfl)) (bY (Ei:=[(41,_)]) rfl rfl (bQ (bZ 5 rfl rfl) bX) rfl rfl (dX rfl (dK (Ht rfl) rfl)) ?_)))
 refine Y.D_newp (Ei:=[]) (fun bb=>box bb 40 [oQ (dL (dF (dL (cC (z.map Rt.q) (rq s)) (z.map Rt.q)) (rq c)) (dL (cC (z.map Rt.q) (rq s)) (z.map Rt.q))),QM (dL (dF (dL (cC (z.map Rt.q) (rq s)) (z.map Rt.q)) (rq c)) (dL (cC (z.map Rt.q) (rq s)) (rq s))),QM (dL (dF (dL (cC (z.map Rt.q) (rq s)) (z.map Rt.q)) (rq c)) (rq c))]) 9 rfl rfl rfl bX rfl rfl (by kernel_rfl) (eW (Ts:=[Is (.slice none 0 0),Is (.slice none 0 0),Is (.slice none 0 0)]) O_40 rfl (fun V=>aW zd (aW zd (aW zd (aG))))) ?_
 refine Y.D_putN (Ei:=[(47,_)]) 8 rfl rfl rfl rfl rfl rfl (bQ (bZ 6 rfl rfl) bX) (fun bb=>sF Z_40 (Ht rfl) (Ht rfl) rfl (i:=0) rfl (aK rfl) rfl rfl) (Y.D_done aT rfl (by kernel_rfl) rfl (by simp [Y.okP]) rfl rfl (bU (bU (bU (bU (bU (bU (bU (bU (Y.F_newp (fun B11=>Y.F_putN (Y.F_nil ?_))))))))))))
 refine ra rfl (eX (cK (Y.D_start (m:=16) [(14,1,box B2 34 [cD (dL (dF (dL (cC (z.map Rt.q) (rq s)) (z.map Rt.q)) (rq c)) (dL (cC (z.map Rt.q) (rq s)) (z.map Rt.q))),cM (dL (dF (dL (cC (z.map Rt.q) (rq s)) (z.map Rt.q)) (rq c)) (dL (cC (z.map Rt.q) (rq s)) (rq s))),cM (dL (dF (dL (cC (z.map Rt.q) (rq s)) (z.map Rt.q)) (rq c)) (rq c))]),(15,2,box B3 40 [oQ (dL (dF (dL (cC (z.map Rt.q) (rq s)) (z.map Rt.q)) (rq c)) (dL (cC (z.map Rt.q) (rq s)) (z.map Rt.q))),QM (dL (dF (dL (cC (z.map Rt.q) (rq s)) (z.map Rt.q)) (rq c)) (dL (cC (z.map Rt.q) (rq s)) (rq s))),QM (dL (dF (dL (cC (z.map Rt.q) (rq s)) (z.map Rt.q)) (rq c)) (rq c))])] ?_)))
 refine Y.D_step (Ei:=[(7,_)]) rfl rfl (bQ (bJ rfl rfl) bX) rfl rfl (by kernel_rfl) (dX rfl (eJ A_34 Z_34 (Ht rfl) (i:=4) rfl rfl rfl)) (bY (Ei:=[(11,_)]) rfl rfl (bQ (bJ rfl rfl) bX) rfl rfl (dX rfl (eJ A_40 Z_40 (Ht rfl) (i:=6) rfl rfl rfl)) (Y.D_step (Ei:=[(6,_)]) rfl rfl (bQ (bJ rfl rfl) bX) rfl rfl (by kernel_rfl) (dX rfl (cX (Ht rfl))) (Y.D_step (Ei:=[(10,_)]) rfl rfl (bQ (bJ rfl rfl) bX) rfl rfl (by kernel_rfl) (dX rfl (cX (Ht rfl))) ?_)))
 refine Y.D_step (Ei:=[(51,_),(52,_)]) rfl rfl (bQ (bZ 2 rfl rfl) (bQ (bZ 3 rfl rfl) bX)) rfl rfl (by kernel_rfl) (dX rfl (jR (Ht rfl) (Ht rfl))) (Y.D_step (Ei:=[(53,_)]) rfl rfl (bQ (bZ 4 rfl rfl) bX) rfl rfl (by kernel_rfl) (dX rfl (cX (Ht rfl))) (Y.D_step (Ei:=[(6,_),(54,_)]) rfl rfl (bQ (bJ rfl rfl) (bQ (bZ 5 rfl rfl) bX)) rfl rfl (by kernel_rfl) (lM rfl rfl (Ht rfl) (fun h=>cX (Ht rfl))) (Y.D_step (Ei:=[(55,_),(54,_)]) rfl rfl (bQ (bZ 6 rfl rfl) (bQ (bZ 5 rfl rfl) bX)) rfl rfl (by kernel_rfl) (lM rfl rfl (Ht rfl) (fun h=>kR (bF.wu rfl h) cV)) ?_)))
 refine Y.D_step (Ei:=[(56,_),(54,_)]) rfl rfl (bQ (bZ 7 rfl rfl) (bQ (bZ 5 rfl rfl) bX)) rfl rfl (by kernel_rfl) (lM rfl rfl (Ht rfl) (fun h=>cX (bF.wu rfl h))) (bY (Ei:=[(8,_),(57,_)]) rfl rfl (bQ (bJ rfl rfl) (bQ (bZ 8 rfl rfl) bX)) rfl rfl (pQ rfl rfl rfl (fun h h2=>cX (Ht rfl))) (bY (Ei:=[(12,_),(57,_)]) rfl rfl (bQ (bJ rfl rfl) (bQ (bZ 8 rfl rfl) bX)) rfl rfl (pQ rfl rfl rfl (fun h h2=>cX (Ht rfl))) (bY (Ei:=[(58,_),(59,_),(57,_)]) rfl rfl (bQ (bZ 9 rfl rfl) (bQ (bZ 10 rfl rfl) (bQ (bZ 8 rfl rfl) bX))) rfl rfl (pQ rfl rfl rfl (fun h h2=>jR (bF.wu rfl ⟨h,h2⟩) (bF.wu rfl ⟨h,h2⟩))) ?_)))
 refine bY (Ei:=[(57,_),(60,_),(54,_)]) rfl rfl (bQ (bZ 8 rfl rfl) (bQ (bZ 11 rfl rfl) (bQ (bZ 5 rfl rfl) bX))) rfl rfl (lM rfl rfl (Ht rfl) (fun h=>iU (bF.wu rfl h) (fun h2=>(bF.wu rfl ⟨h,h2⟩)))) (bY (Ei:=[(54,_),(61,_)]) rfl rfl (bQ (bZ 5 rfl rfl) (bQ (bZ 12 rfl rfl) bX)) rfl rfl (dX rfl (fF (Ht rfl) (fun h=>(bF.wu rfl h)))) (Y.D_putI (Ei:=[(2,_),(49,_)]) 1 rfl rfl rfl (bQ (bJ rfl rfl) (bQ (bZ 0 rfl rfl) bX)) (.head _) rfl (sF Z_34 (Ht rfl) (Ht rfl) rfl (i:=0) rfl (aK rfl) rfl rfl) ?_))
 refine Y.D_putI (Ei:=[(3,_),(50,_)]) 2 rfl rfl rfl (bQ (bJ rfl rfl) (bQ (bZ 1 rfl rfl) bX)) (.tail _ (.head _)) rfl (sF Z_40 (Ht rfl) (Ht rfl) rfl (i:=0) rfl (aK rfl) rfl rfl) (Y.D_done aT rfl (by kernel_rfl) rfl (by simp [Y.okP]) rfl rfl (bU (bU (bU (bU (bU (bU (bU (bU (bU (bU (bU (bU (bU (bU (Y.F_putI (Y.F_putI (Y.F_nil ?_))))))))))))))))))
 refine ra rfl (eX (a2I rfl (fK A_34 Z_34 rfl (i:=1) rfl rfl) (fK A_40 Z_40 rfl (i:=2) rfl rfl) (fX (eU rfl) ?_)))
 exact (eH (by simp))
end
section
open Go Go.RowKit
theorem uE (a:Addr) (w:World):(Instr.fieldAt 38 (.pointer (some a)) 1).run Tryz.prog w = .ok (.pointer (some (a.add 1))) w:=by
 simp [Instr.fieldAt,Instr.sureAddr,fieldPlace,Sem.run_bind,Result.andThen,U_38,Z_36]
end
section
open Go Go.RowKit
theorem Br {n m:Nat} (hn:n ≤ 1000) (hm:m ≤ 1000):iA Tryz.prog 129 [NT .i64 n,NT .i64 m] [] (Nat) (fun B=>Is (.slice (some ⟨B,0,none⟩) n n)) (fun B=>[kE eL B 35 131 5 (bN QT (zN n m))]) (fun _=>True):=by
 refine iA.intro Tryz.func129 rfl Tryz.ntmps129 rfl (fun cx Z=>(ts (ro rfl (cQ cV) (eX (ts (rm rfl (rn rfl (eN (T:=Is (.slice none 0 0)) (i:=Tryz.t35) Tryz.underlying36 Aj rfl rfl (Ht rfl) rfl (fun _=>rfl) trivial (by show 24 * _ ≤ _; omega) zo) fun B9=>(ra rfl (eX (cK (ts (ro rfl (cQ (cJ 0)) (eX (eG (lE 1 rfl (tA eL ⟨none,0,rfl⟩ (e:=131) (s:=5)) ?_)))))))))))))))
 refine eA (fun (k : Nat) (M : List (List Qi)) => lD (fun _ => tab m fun _ => Qi.zero) n M k) (fun (k : Nat) (M : List (List Qi)) => n - k) (fun (k : Nat) (M : List (List Qi)) => [(0, NT .i64 n), (1, NT .i64 m), (5, Is (.slice (some ⟨B9, 0, none⟩) n n)), (6, NT .i64 k)]) (fun (k : Nat) (M : List (List Qi)) => [Z, kE eL B9 35 131 5 (bN QT M)]) 0 (List.replicate n []) (lD.start _ _ _)
  (zS rfl) (aU (fun _ _ _ h=>h) (aU (bI (mD QT n)) aY)) (fun k M hS=>?_)
 refine cK (ts (rm rfl (rm rfl (ro rfl (gX (Ht rfl) (Ht rfl)) (eX (dQ (Ht rfl) (fun hk=>?_) (fun hk=>?_)))))))
 ·simp only [decide_eq_true_eq] at hk
  have hlen:=hS.len
  refine jV 1 (k) rfl (mV (m:=M) (i:=k) zo) (fun v hv=>(cU (cK (eG (ts (rm rfl (rm rfl (rm rfl (Ol (T:=ZQ) (i:=Tryz.t131) sA mW rfl rfl (Ht rfl) rfl a09 (El.ag rfl) (by show 88 * _ ≤ _; omega) zo rfl (fun B18 hB18=>(ro rfl (fY U_36 Z_35 (Ht rfl) (Ht rfl) rfl zo (by rw [Nat.mul_one,Nat.zero_add])) ?_)))))))))))
  refine sG Z_35 (Ht rfl) (Ht rfl) (by simp; omega) (j:=1) (l:=3) rfl rfl rfl ?_
  refine eX (cK (cA [0,1,3] rfl (by decide) (cY (ro rfl (cQ (cJ 0)) (eX (eG ?_))))))
  refine eA (fun (j : Nat) (out : List Ty) => lD (fun _ => QT Qi.zero) m out j) (fun (j : Nat) (out : List Ty) => m - j) (fun (j : Nat) (out : List Ty) => [(0, NT .i64 n), (1, NT .i64 m), (5, Is (.slice (some ⟨B9, 0, none⟩) n n)), (6, NT .i64 k), (7, NT .i64 j)]) (fun (j : Nat) (out : List Ty) => [Z, pO eL B9 35 131 5 (bN QT M) k B18, bH 131 5 B18 out]) 0 (List.replicate m ZQ) (lD.start _ _ _)
   (zS rfl) (dB.refl _) (fun j out hT=>?_)
  refine cK (ts (rm rfl (rm rfl (ro rfl (gX (Ht rfl) (Ht rfl)) (eX (dQ (Ht rfl) (fun hj=>?_) (fun hj=>?_)))))))
  ·simp only [decide_eq_true_eq] at hj
   have hlen2:=hT.len
   refine cU (cK (eG (fZ (m:=6) (dp 5 rfl (cX (Ht rfl)) (dp 6 rfl (cX (Ht rfl)) (cL 25 0 26 1 rfl (fY U_36 Z_35 (Ht rfl) (Ht rfl) rfl zo (by rw [Nat.mul_one,Nat.zero_add])) ?_))))))
   refine dq 27 2 rfl (iF A_35 Z_35 (Ht rfl) (j:=1) rfl) (dp 7 rfl (cX (Ht rfl)) (d0 rfl (cZ K_148 (pD (by decide) (by decide)) ⟨(cJ 0),trivial⟩) (fV aT rfl (by kernel_rfl) (zF (aJ (aJ (aV (ro rfl (cH U_35 Z_131 (Ht rfl) (Ht rfl) rfl (i:=2) rfl zo rfl) (jB Z_131 (Ht rfl) (Ht rfl) (El.ag rfl) (i:=2) rfl rfl (by first | omega | (simp; omega)) rfl (eX (aS (cY (rm rfl (ro rfl (dV (Ht rfl) (cJ 1) z6) ?_))))))))))))))
   refine ra rfl (eX (fU (j + 1,_) (hT.next hj rfl) (by dsimp only; omega) (zS rfl) (dB.refl _)))
  ·simp only [decide_eq_false_iff_not] at hj
   obtain rfl:j = m:=Nat.le_antisymm hT.kle zo
   have hfin:=hT.fin
   rw [← rY _ (fun _=>Qi.zero) QT] at hfin
   subst hfin
   refine gV rfl (aS (eR 1 2 rfl rfl (by decide) (by show k < (bN QT M).length; simp only [bN,List.length_map]; omega) (cY (rm rfl (ro rfl (dV (Ht rfl) (cJ 1) z6) (ra rfl (eX (cA [0,1] rfl (by decide) (fU (k + 1,_) (hS.next hk rfl) (by dsimp only; omega) (zS rfl) (aU (fun _ _ _ h=>h) (aU (bI (fH QT _ _ _)) aY)))))))))))
 ·simp only [decide_eq_false_iff_not] at hk
  obtain rfl:k = n:=Nat.le_antisymm hS.kle zo
  have hfin:=hS.fin
  refine gV rfl (ts (rm rfl (ra rfl (eX ?_))))
  exact jP B9 trivial [0,1] ⟨⟨_,rfl,fun _ _ _ h=>h⟩,⟨_,rfl,(bI (by rw [hfin]; rfl))⟩,trivial⟩ (by decide) (tK rfl (eU rfl))
theorem a0G {p c:List (List Qi)} {L:Nat} (hp:bP p L) (hc:bP c L) (hL1:1 ≤ L) (hL:L ≤ 1000000) (hps:dT p p.length c.length) (hcs:dT c c.length c.length) (hpl:p.length ≤ 8) (hcl:c.length ≤ 8):iA Tryz.prog 102 [QM p,QM c] [] (Nat) (fun B=>Is (.slice (some ⟨B,0,none⟩) p.length p.length)) (fun B=>[kE eL B 35 131 5 (bN QT (mI p c))]) (fun _=>True):=by
 refine iA.intro Tryz.func102 rfl Tryz.ntmps102 rfl (fun cx Z=>(ts (ro rfl (cQ cV) (eX (ts (rm rfl (ro rfl (dG U_36 (Ht rfl) aA) (rm rfl (ro rfl (dG U_36 (Ht rfl) aA) (jU Tryz.call129 (Br (n:=p.length) (m:=p.length) zo zo) ⟨(Ht rfl),(Ht rfl),trivial⟩ rfl (fun B14 _=>(ra rfl (eX (cK (ts (ro rfl (cQ (cJ 0)) (eX (eG ?_))))))))))))))))))
 refine bO (fun (i : Nat) => i ≤ p.length) (fun (i : Nat) => p.length - i) (fun (i : Nat) => [(0, QM p), (1, QM c), (5, Is (.slice (some ⟨B14, 0, none⟩) p.length p.length)), (6, NT .i64 i)]) (fun (i : Nat) => [Z, kE eL B14 35 131 5 (bN QT (jA (fun i => tab p.length fun k => wH p c c.length i k) (tab p.length fun _ => Qi.zero) p.length i))]) 0 (Nat.zero_le _)
  (zS rfl) (aU (fun _ _ _ h=>h) (aU (bI (by rw [zN,gH])) aY)) (fun i hi=>?_)
 refine cK (ts (rm rfl (rm rfl (ro rfl (dG U_36 (Ht rfl) aA) (ro rfl (gX (Ht rfl) (Ht rfl)) (eX (dQ (Ht rfl) (fun hd=>?_) (fun hd=>?_))))))))
 ·simp only [decide_eq_true_eq] at hd
  refine jV 1 (i) rfl (lG hd) (fun v hv=>(cU (cK (eG (ts (ro rfl (cQ (cJ 0)) (eX (eG ?_))))))))
  refine bO (fun (k : Nat) => k ≤ p.length) (fun (k : Nat) => p.length - k) (fun (k : Nat) => [(0, QM p), (1, QM c), (5, Is (.slice (some ⟨B14, 0, none⟩) p.length p.length)), (6, NT .i64 i), (7, NT .i64 k)]) (fun (k : Nat) => [Z, pO eL B14 35 131 5 (bN QT (jA (fun i => tab p.length fun k => wH p c c.length i k) (tab p.length fun _ => Qi.zero) p.length i)) i v, bH 131 5 v ((jA (fun k => wH p c c.length i k) Qi.zero p.length k).map QT)]) 0 (Nat.zero_le _)
   (zS rfl) (aU (fun _ _ _ h=>h) (aU (fun _ _ _ h=>h) (aU (aD (by rw [gH])) aY))) (fun k hk=>?_)
  refine cK (ts (rm rfl (rm rfl (ro rfl (dG U_36 (Ht rfl) aA) (ro rfl (gX (Ht rfl) (Ht rfl)) (eX (dQ (Ht rfl) (fun he=>?_) (fun he=>?_))))))))
  ·simp only [decide_eq_true_eq] at he
   have hrl:=dC (fun k=>wH p c c.length i k) Qi.zero p.length k
   refine cU (cK (eG (ts (ro rfl (cQ (cJ 0)) (eX (eG ?_))))))
   refine bO (fun (a : Nat) => a ≤ c.length) (fun (a : Nat) => c.length - a) (fun (a : Nat) => [(0, QM p), (1, QM c), (5, Is (.slice (some ⟨B14, 0, none⟩) p.length p.length)), (6, NT .i64 i), (7, NT .i64 k), (8, NT .i64 a)]) (fun (a : Nat) => [Z, pO eL B14 35 131 5 (bN QT (jA (fun i => tab p.length fun k => wH p c c.length i k) (tab p.length fun _ => Qi.zero) p.length i)) i v, bH 131 5 v (((jA (fun k => wH p c c.length i k) Qi.zero p.length k).set k (aH a fun a => aH c.length fun b => sL p c i k a b)).map QT)]) 0 (Nat.zero_le _)
    (zS rfl) (aU (fun _ _ _ h=>h) (aU (fun _ _ _ h=>h) (aU (aD (by rw [aH,Yj he])) aY))) (fun a ha=>?_)
   refine cK (ts (rm rfl (rm rfl (ro rfl (dG U_36 (Ht rfl) aA) (ro rfl (gX (Ht rfl) (Ht rfl)) (eX (dQ (Ht rfl) (fun hf=>?_) (fun hf=>?_))))))))
   ·simp only [decide_eq_true_eq] at hf
    refine cU (cK (eG (ts (ro rfl (cQ (cJ 0)) (eX (eG ?_))))))
    refine bO (fun (b : Nat) => b ≤ c.length) (fun (b : Nat) => c.length - b) (fun (b : Nat) => [(0, QM p), (1, QM c), (5, Is (.slice (some ⟨B14, 0, none⟩) p.length p.length)), (6, NT .i64 i), (7, NT .i64 k), (8, NT .i64 a), (9, NT .i64 b)]) (fun (b : Nat) => [Z, pO eL B14 35 131 5 (bN QT (jA (fun i => tab p.length fun k => wH p c c.length i k) (tab p.length fun _ => Qi.zero) p.length i)) i v, bH 131 5 v (((jA (fun k => wH p c c.length i k) Qi.zero p.length k).set k ((aH a fun a => aH c.length fun b => sL p c i k a b) + aH b fun b => sL p c i k a b)).map QT)]) 0 (Nat.zero_le _)
     (zS rfl) (aU (fun _ _ _ h=>h) (aU (fun _ _ _ h=>h) (aU (aD (by rw [aH,Qi.add_zero'])) aY))) (fun b hb=>?_)
    refine cK (ts (rm rfl (rm rfl (ro rfl (dG U_36 (Ht rfl) aA) (ro rfl (gX (Ht rfl) (Ht rfl)) (eX (dQ (Ht rfl) (fun hg=>?_) (fun hg=>?_))))))))
    ·simp only [decide_eq_true_eq] at hg
     have hpr:=hps.row hd
     have hpk:=hps.row he
     have hcr:=hcs.row hf
     haveI f1:aO (gm p i a) L:=hp.get hL1 i a
     haveI f2:aO (gm c a b) L:=hc.get hL1 a b
     haveI f3:aO (gm p k b) L:=hp.get hL1 k b
     haveI f4:aO (aH a fun a=>aH c.length fun b=>sL p c i k a b) (200 * L + 300):=Pm hp hc hL1 hcl zo i k
     haveI f5:aO (aH b fun b=>sL p c i k a b) (24 * L + 25):=Wr hp hc hL1 zo i k a
     have hsl:((jA (fun k=>wH p c c.length i k) Qi.zero p.length k).set k ((aH a fun a=>aH c.length fun b=>sL p c i k a b) + aH b fun b=>sL p c i k a b)).length = p.length:=by rw [List.length_set,hrl]
     refine cU (cK (eG (fZ (m:=37) (dp 5 rfl (cX (Ht rfl)) (dp 6 rfl (cX (Ht rfl)) (cL 39 0 40 1 rfl (fY U_36 Z_35 (Ht rfl) (Ht rfl) rfl zo (by rw [Nat.mul_one,Nat.zero_add])) ?_))))))
     refine dq 41 2 rfl (iF A_35 Z_35 (Ht rfl) (j:=1) rfl) (dp 7 rfl (cX (Ht rfl)) (dp 5 rfl (cX (Ht rfl)) (dp 6 rfl (cX (Ht rfl)) (cL 44 5 45 6 rfl (fY U_36 Z_35 (Ht rfl) (Ht rfl) rfl zo (by rw [Nat.mul_one,Nat.zero_add])) ?_))))
     refine dq 46 7 rfl (iF A_35 Z_35 (Ht rfl) (j:=1) rfl) (dp 7 rfl (cX (Ht rfl)) (cL 47 8 48 9 rfl (cH U_35 Z_131 (Ht rfl) (Ht rfl) rfl (i:=2) rfl (by simp only [List.length_map]; omega) rfl) ?_))
     refine dq 49 10 rfl (nN A_131 Z_131 (Ht rfl) (i:=2) rfl rfl (dY (a1W (by rw [hrl]; exact he)))) ?_
     refine dp 0 rfl (cX (Ht rfl)) (dp 6 rfl (cX (Ht rfl)) (cL 51 12 52 13 rfl (dZ U_36 Z_35 (Ht rfl) (Ht rfl) rfl (dY (dU (d:=[]) hd))) (dq 53 14 rfl (dJ A_35 Z_35 (Ht rfl)) (dp 8 rfl (cX (Ht rfl)) (cL 54 15 55 16 rfl (dZ U_35 Z_131 (Ht rfl) (Ht rfl) rfl (dY (dU (d:=Qi.zero) (by rw [hpr]; exact hf)))) ?_)))))
     refine dq 56 17 rfl (dJ A_131 Z_131 (Ht rfl)) (dp 1 rfl (cX (Ht rfl)) (dp 8 rfl (cX (Ht rfl)) (cL 58 19 59 20 rfl (dZ U_36 Z_35 (Ht rfl) (Ht rfl) rfl (dY (dU (d:=[]) hf))) (dq 60 21 rfl (dJ A_35 Z_35 (Ht rfl)) (dp 9 rfl (cX (Ht rfl)) (cL 61 22 62 23 rfl (dZ U_35 Z_131 (Ht rfl) (Ht rfl) rfl (dY (dU (d:=Qi.zero) (by rw [hcr]; exact hg)))) ?_))))))
     refine dq 63 24 rfl (dJ A_131 Z_131 (Ht rfl)) (cL 57 18 64 25 rfl (cZ K_146 (yE zo) ⟨(Ht rfl),(Ht rfl),trivial⟩) (dp 0 rfl (cX (Ht rfl)) (dp 7 rfl (cX (Ht rfl)) (cL 66 27 67 28 rfl (dZ U_36 Z_35 (Ht rfl) (Ht rfl) rfl (dY (dU (d:=[]) he))) (dq 68 29 rfl (dJ A_35 Z_35 (Ht rfl)) (dp 9 rfl (cX (Ht rfl)) (cL 69 30 70 31 rfl (dZ U_35 Z_131 (Ht rfl) (Ht rfl) rfl (dY (dU (d:=Qi.zero) (by rw [hpk]; exact hg)))) ?_)))))))
     refine dq 71 32 rfl (dJ A_131 Z_131 (Ht rfl)) (dq 72 33 rfl (cZ Tryz.call173 Gq ⟨(Ht rfl),trivial⟩) (cL 65 26 73 34 rfl (cZ K_146 (yE zo) ⟨(Ht rfl),(Ht rfl),trivial⟩) (cL 50 11 74 35 rfl (cZ Tryz.call149 (Mo zo) ⟨(Ht rfl),(Ht rfl),trivial⟩) (fV aT rfl (by kernel_rfl) (zF (zF (zF (zF (zF (zF (zF (zF (zF (aJ (aV ?_)))))))))))))))
     refine ro rfl (cH U_35 Z_131 (Ht rfl) (Ht rfl) rfl (i:=2) rfl (by simp only [List.length_map]; omega) rfl) ?_
     refine jB Z_131 (Ht rfl) (Ht rfl) (El.ag rfl) (i:=2) rfl rfl (by simp only [List.length_map]; omega) rfl ?_
     refine eX (aS (cY (rm rfl (ro rfl (dV (Ht rfl) (cJ 1) z6) (ra rfl (eX (fU (b + 1) hg zo (zS rfl) (aU (fun _ _ _ h=>h) (aU (fun _ _ _ h=>h) (aU (aD (by rw [fO,List.set_set,Qi.add_assoc',aH]; rfl)) aY))))))))))
    ·simp only [decide_eq_false_iff_not] at hg
     obtain rfl:b = c.length:=Nat.le_antisymm hb zo
     refine gV rfl (aS (cY (rm rfl (ro rfl (dV (Ht rfl) (cJ 1) z6) (ra rfl (eX (fU (a + 1) hf zo (zS rfl) (aU (fun _ _ _ h=>h) (aU (fun _ _ _ h=>h) (aU (aD (by rw [aH])) aY))))))))))
   ·simp only [decide_eq_false_iff_not] at hf
    obtain rfl:a = c.length:=Nat.le_antisymm ha zo
    refine gV rfl (aS (cY (rm rfl (ro rfl (dV (Ht rfl) (cJ 1) z6) (ra rfl (eX (fU (k + 1) he zo (zS rfl) (aU (fun _ _ _ h=>h) (aU (fun _ _ _ h=>h) (aU (aD (by rw [← iQ (f:=fun k=>wH p c c.length i k)]; rfl)) aY))))))))))
  ·simp only [decide_eq_false_iff_not] at he
   obtain rfl:k = p.length:=Nat.le_antisymm hk zo
   refine gV rfl (aS (eR 1 2 rfl rfl (by decide) (by simp only [bN,List.length_map,dC]; omega) ?_))
   refine cY (rm rfl (ro rfl (dV (Ht rfl) (cJ 1) z6) (ra rfl (eX (cA [0,1] rfl (by decide) (fU (i + 1) hd zo (zS rfl) (aU (fun _ _ _ h=>h) (aU (bI (by rw [fH,iP,← iQ (f:=(fun i=>tab p.length fun k=>wH p c c.length i k))])) aY))))))))
 ·simp only [decide_eq_false_iff_not] at hd
  obtain rfl:i = p.length:=Nat.le_antisymm hi zo
  refine gV rfl (ts (rm rfl (ra rfl (eX ?_))))
  exact jP B14 trivial [0,1] ⟨⟨_,rfl,fun _ _ _ h=>h⟩,⟨_,rfl,(bI (by rw [iP]; rfl))⟩,trivial⟩ (by decide) (tK rfl (eU rfl))
end
section
open Go Go.RowKit
theorem a35 {p c:List (List Qi)} {L:Nat} (hp:bP p L) (hc:bP c L) (hL1:1 ≤ L) (hL:L ≤ 1000000) (hps:dT p p.length c.length) (hcs:dT c c.length c.length) (hpl:p.length ≤ 8) (hcl:c.length ≤ 8):bE Tryz.prog 102 [QM p,QM c] (QM (mI p c)):=(a0G hp hc hL1 hL hps hcs hpl hcl).fun fun B _ v S V h1 h2=>kJ (s:=5) (M:=mI p c) qT.1.symm v S V h1 h2
end
section
open Go Go.RowKit
theorem rV (v : Value) (w : World) : (method (Tryz.prog.types.size + Made.depth) 51 v "Of").run Tryz.prog w = .ok (302, v) w := by kernel_rfl
theorem eD (v:Value) (w:World):(Instr.makeInterface 51 v).run Tryz.prog w = .ok (.iface 51 v) w:=by
 simp [Instr.makeInterface,Sem.run_bind,Result.andThen,U_51]
end
section
open Go Go.RowKit
theorem a39 {x:Qi} {L:Nat} [hx:aO x L] (h:L ≤ 8796093022208):bE Tryz.prog 159 [aR x] (aE (Lt x)):=by
 haveI hz:aO Qi.zero 1:=aO.zero (Nat.le_refl 1)
 rw [← a27]
 refine bE.intro Tryz.func159 rfl Tryz.ntmps159 rfl (fun cx=>(ts (rn rfl (fG (Ht rfl)) fun B1=>(ro rfl (cQ cV) (eX (cK (fZ (m:=5) (dp 1 rfl (eJ A_51 Z_51 (Ht rfl) (i:=0) rfl rfl rfl) (dq 3 0 rfl (cZ Tryz.call169 Gk ⟨(Ht rfl),trivial⟩) (dq 4 1 rfl (cX (Ht rfl)) (C.D_step (Ei:=[(1,_),(5,_)]) rfl rfl (bV (bK rfl rfl) (bV (bG 2 rfl rfl) bW)) (eK rfl rfl (Ht rfl) (fun h=>eJ A_51 Z_51 (Ht rfl) (i:=0) rfl rfl rfl)) (C.D_step (Ei:=[(5,_)]) rfl rfl (bV (bG 2 rfl rfl) bW) (eK rfl rfl (Ht rfl) (fun h=>cZ K_77 (sH (n:=0) (by decide) (by decide)) ⟨(cJ 0),trivial⟩)) ?_))))))))))))
 refine fV aT rfl (by kernel_rfl) (zF (aJ (aV (fQ rfl rfl (eK rfl rfl (Ht rfl) (fun h=>cZ Tryz.call76 (Vu (x:=x) (y:=Qi.zero) (M:=1) zo) ⟨(fJ rfl h),(fJ rfl h),trivial⟩)) (fQ rfl rfl (eK rfl rfl (Ht rfl) (fun h=>kH (fJ rfl h) cV)) (ro rfl (fF (Ht rfl) (fun h=>(fJ rfl h))) (ra rfl (eX ?_))))))))
 exact fW rfl (eU rfl)
theorem Oy {y:Qi}:bE Tryz.prog 302 [eP [Is (.bool false),Is (.slice none 0 0),Is (.bool false),Is (.slice none 0 0),Is (.slice none 0 0)],aR y] (aR y):=by
 refine bE.intro Tryz.func302 rfl Tryz.ntmps302 rfl (fun cx=>(ts (rn rfl (fG (Ht rfl)) fun B2=>(rn rfl (fG (Ht rfl)) fun B3=>(rn rfl (eW (Ts:=[Is (.bool false),Is (.slice none 0 0),Is (.bool false),Is (.slice none 0 0),Is (.slice none 0 0)]) O_51 rfl (fun V=>aW zd (aW zd (aW zd (aW zd (aW zd (aG))))))) fun B4=>(eX (ts (ro rfl (eJ A_51 Z_51 (Ht rfl) (i:=1) rfl rfl rfl) (gQ Z_51 (Ht rfl) (Ht rfl) rfl (i:=2) rfl (aK rfl) rfl rfl ?_)))))))))
 refine eX ?_
 exact fW rfl (fK A_51 Z_51 rfl (i:=2) rfl rfl)
theorem Ml {x:Qi}:bE Tryz.prog 98 [aR x] (aR x):=by
 refine bE.intro Tryz.func98 rfl Tryz.ntmps98 rfl (fun cx=>(ts (rn rfl (fG (Ht rfl)) fun B1=>(rn rfl (eW (Ts:=[Is (.bool false),Is (.slice none 0 0),Is (.bool false),Is (.slice none 0 0),Is (.slice none 0 0)]) O_51 rfl (fun V=>aW zd (aW zd (aW zd (aW zd (aW zd (aG))))))) fun B2=>(eX (ts (rn rfl (eW (Ts:=[Is (.bool false),Is (.slice none 0 0),Is (.bool false),Is (.slice none 0 0),Is (.slice none 0 0)]) O_51 rfl (fun V=>aW zd (aW zd (aW zd (aW zd (aW zd (aG))))))) fun B3=>?_)))))))
 refine eX (ts (ro rfl (eJ A_51 Z_51 (Ht rfl) (i:=2) rfl rfl rfl) (ro rfl (cR eD (Ht rfl)) (ro rfl (eJ A_51 Z_51 (Ht rfl) (i:=0) rfl rfl rfl) (ro rfl (cI rV Tryz.call302 Oy (Ht rfl) ⟨(Ht rfl),trivial⟩) (gQ Z_51 (Ht rfl) (Ht rfl) rfl (i:=1) rfl (aK rfl) rfl rfl (eX ?_)))))))
 exact fW rfl (fK A_51 Z_51 rfl (i:=1) rfl rfl)
theorem Mk {r:List Qi} {k:Nat}:bE Tryz.prog 273 [cD r,PT (NT .i64 k)] (aE (!decide (r.length = k))):=by
 refine bE.intro Tryz.func273 rfl Tryz.ntmps273 rfl (fun cx=>(ts (ro rfl (cQ cV) (eX (ts (rm rfl (ro rfl (dG U_29 (Ht rfl) aA) (ro rfl (dJ A_3 Z_3 (Ht rfl)) (ro rfl (gI (Ht rfl) (Ht rfl)) (ra rfl (eX ?_)))))))))))
 exact fW rfl (eU rfl)
theorem tV {a:List (List Qi)} {n k:Nat} (h:dT a n k) (h1:1 ≤ n) (hn:n ≤ 32) (hk:k ≤ 32):bE Tryz.prog 240 [cM a] (gC [NT .i64 k,aE true]):=by
 obtain ⟨rfl,h2⟩:=h
 have hr0:(a.getD 0 []).length = k:=dT.row ⟨rfl,h2⟩ zo
 refine bE.intro Tryz.func240 rfl Tryz.ntmps240 rfl (fun cx=>(ts (ro rfl (cQ (cJ 0)) (ro rfl (cQ cV) (eX (cK (ts (rm rfl (ro rfl (dG U_30 (Ht rfl) aA) (ro rfl (cP (Ht rfl) (cJ 0)) (eX (dQ (Ht rfl) (fun hb=>?_) (fun hb=>?_)))))))))))))
 ·simp only [decide_eq_true_eq] at hb
  omega
 ·refine cU (ts (rm rfl (ro rfl (dZ U_30 Z_29 (Ht rfl) (cJ 0) rfl (dY (dU (d := []) zo))) (ro rfl (dJ A_29 Z_29 (Ht rfl)) (ro rfl (dG U_29 (Ht rfl) aA) (rn rfl (eW (Ts := [Is (.int .i64 0)]) O_3 rfl (fun V => aW zd (aG))) fun B4 => (kZ Z_3 (Ht rfl) (Ht rfl) (i := 0) rfl (aK rfl) rfl (eX (cK (gJ (i := 0) (tt := 4) rfl rfl qZ (fZ (m := 15) (dp 4 rfl (dJ A_3 Z_3 (Ht rfl)) ?_))))))))))))
  refine dp 0 rfl (cX (Ht rfl)) (dq 13 1 rfl (dG U_30 (Ht rfl) aA) (dq 14 2 rfl (xF (Ht rfl) (cJ 32)) (dq 15 3 rfl (cX (Ht rfl)) (C.D_step (Ei:=[(4,_),(16,_)]) rfl rfl (bV (bK rfl rfl) (bV (bG 4 rfl rfl) bW)) (eK rfl rfl (Ht rfl) (fun h=>dJ A_3 Z_3 (Ht rfl))) (C.D_step (Ei:=[(17,_),(16,_)]) rfl rfl (bV (bG 5 rfl rfl) (bV (bG 4 rfl rfl) bW)) (eK rfl rfl (Ht rfl) (fun h=>xF (fJ rfl h) (cJ 32))) (cL 16 4 18 6 rfl (fF (Ht rfl) (fun h=>(fJ rfl h))) ?_))))))
  refine dq 19 7 rfl (cX (Ht rfl)) (C.D_step (Ei:=[(0,_),(20,_)]) rfl rfl (bV (bK rfl rfl) (bV (bG 8 rfl rfl) bW)) (eK rfl rfl (Ht rfl) (fun h=>cX (Ht rfl))) (C.D_step (Ei:=[(4,_),(20,_)]) rfl rfl (bV (bK rfl rfl) (bV (bG 8 rfl rfl) bW)) (eK rfl rfl (Ht rfl) (fun h=>uL (γ:=List Qi) (Ts:=fun r=>[cD r]) (U:=fun r=>aE (!decide (r.length = (a.getD 0 []).length))) Tryz.call273 (fun r=>Mk) ⟨(Ht rfl),trivial⟩)) (C.D_step (Ei:=[(21,_),(22,_),(20,_)]) rfl rfl (bV (bG 9 rfl rfl) (bV (bG 10 rfl rfl) (bV (bG 8 rfl rfl) bW))) (eK rfl rfl (Ht rfl) (fun h=>cZ Tryz.call156 (uW (l:=a) (T:=cD) (p:=fun r=>!decide (r.length = (a.getD 0 []).length)) zo) ⟨(fJ rfl h),(fJ rfl h),trivial⟩)) ?_)))
  refine C.D_step (Ei:=[(23,_),(20,_)]) rfl rfl (bV (bG 11 rfl rfl) (bV (bG 8 rfl rfl) bW)) (eK rfl rfl (Ht rfl) (fun h=>gB (fJ rfl h))) (cL 20 8 24 12 rfl (fF (Ht rfl) (fun h=>(fJ rfl h))) (dq 12 0 rfl (cQ (Ht rfl)) (fV aT rfl (by kernel_rfl) (zF (zF (zF (aJ (aJ (aJ (aV (ra rfl (eX (bM rfl (fX (eU rfl) ?_) (fX (eU rfl) ?_))))))))))))))
  ·exact (lT hr0)
  ·exact (eH (by rw [hr0,a0R ⟨rfl,h2⟩]; simp; omega))
end
section
open Go Go.RowKit
theorem tB (v : Value) (w : World) : (method (Tryz.prog.types.size + Made.depth) 51 v "Add").run Tryz.prog w = .ok (46, v) w := by kernel_rfl
theorem rU (v : Value) (w : World) : (method (Tryz.prog.types.size + Made.depth) 51 v "Conj").run Tryz.prog w = .ok (175, v) w := by kernel_rfl
theorem gO (v : Value) (w : World) : (method (Tryz.prog.types.size + Made.depth) 51 v "Mul").run Tryz.prog w = .ok (45, v) w := by kernel_rfl
end
section
open Go Go.RowKit
theorem Oz {a b:List (List Qi)} {n k m L M:Nat} (ha:dT a n k) (hb:dT b k m) (hfa:bP a L) (hfb:bP b M) (hL1:1 ≤ L) (hM1:1 ≤ M) (hL:L ≤ 900000000000) (hM:M ≤ 900000000000) (hn1:1 ≤ n) (hk1:1 ≤ k) (hn:n ≤ 8) (hk:k ≤ 8) (hm:m ≤ 8):iA Tryz.prog 195 [cM a,cM b] [] (Nat) (fun B=>gC [Is (.slice (some ⟨B,0,none⟩) n n),aP .i64 0]) (fun B=>[pG B 29 51 5 (bN aR (mT a b n k m))]) (fun _=>True):=by
 have hal:=ha.1
 have hbl:=hb.1
 refine iA.intro Tryz.func195 rfl Tryz.ntmps195 rfl (fun cx Z=>(ts (ro rfl (cQ cV) (ro rfl (cQ (cJ 0)) (eX (ts (rm rfl (ro rfl (cZ Tryz.call240 (tV ha hn1 zo zo) ⟨(Ht rfl),trivial⟩) (rm rfl (ro rfl (dK (Ht rfl) rfl) (ro rfl (dK (Ht rfl) rfl) (ra rfl (ra rfl (eX (ts (rm rfl (ro rfl (cZ Tryz.call240 (tV hb hk1 zo zo) ⟨(Ht rfl),trivial⟩) (rm rfl (ro rfl (dK (Ht rfl) rfl) (ro rfl (dK (Ht rfl) rfl) (ra rfl (ra rfl (eX (cK (ts (rm rfl (ro rfl (gB (Ht rfl)) ?_)))))))))))))))))))))))))))
 refine rm rfl (fQ rfl rfl (eK rfl rfl (Ht rfl) (fun h=>cX (Ht rfl))) (fQ rfl rfl (eK rfl rfl (Ht rfl) (fun h=>gB (fJ rfl h))) (ro rfl (iU (Ht rfl) (fun h=>(fJ rfl h))) (rm rfl (fQ rfl rfl (eK rfl rfl (Ht rfl) (fun h=>cX (Ht rfl))) (fQ rfl rfl (eK rfl rfl (Ht rfl) (fun h=>cX (Ht rfl))) (fQ rfl rfl (eK rfl rfl (Ht rfl) (fun h=>dG U_30 (fJ rfl h) aA)) (fQ rfl rfl (eK rfl rfl (Ht rfl) (fun h=>gI (fJ rfl h) (fJ rfl h))) (ro rfl (iU (Ht rfl) (fun h=>(fJ rfl h))) ?_)))))))))
 refine eX (dQ (Ht rfl) (fun h0=>?_) (fun h0=>?_))
 ·exact absurd h0 (by simp [hbl])
 ·refine cU (ts (rm rfl (ro rfl (dG U_30 (Ht rfl) aA) (rn rfl (eN (T := Is (.slice none 0 0)) (i := Tryz.t29) V_30 mX rfl rfl (Ht rfl) rfl (fun _ => rfl) trivial (by show 24 * _ ≤ _; omega) zo) fun B39 => (ra rfl (eX (cK (ts (rm rfl (ro rfl (iI U_30 (Ht rfl)) (ro rfl (cX (cJ 0)) (eX (eG (lE 1 rfl (uH (e := 51) (s := 5)) ?_))))))))))))))
  refine bO (fun (i : Nat) => i ≤ n) (fun (i : Nat) => n - i) (fun (i : Nat) => [(0, cM a), (1, cM b), (6, NT .i64 k), (8, NT .i64 m), (10, Is (.slice (some ⟨B39, 0, none⟩) n n)), (41, NT .i64 n), (42, NT .i64 i)]) (fun (i : Nat) => [Z, pG B39 29 51 5 (bN aR (jA (fun i => tab m fun c => zU a b k i c) [] n i))]) 0 (Nat.zero_le _)
   (aQ rfl (aQ rfl (aQ rfl (aQ rfl (aZ rfl (fun v V h=>by rw [← hal]; exact h) (aZ rfl (lT hal) (zS rfl))))))) (aU (fun _ _ _ h=>h) (aU (bI (by rw [← gH,lR,hal]; exact mD aR n)) aY)) (fun i hi=>?_)
  refine ts (ro rfl (gX (Ht rfl) (Ht rfl)) (eX (cK (dQ (Ht rfl) (fun hd=>?_) (fun hd=>?_)))))
  ·simp only [decide_eq_true_eq] at hd
   have har:=ha.row hd
   have hb0:=hb.row (i:=0) zo
   refine pR 1 (i) rfl (lG hd) (fun v=>(cU (cK (eG (ts (rm rfl (ra rfl (eX (ts (rm rfl (ro rfl (cX (cJ 0)) (eX (eG ?_)))))))))))))
   refine eA (fun (c : Nat) (v : Value) => c ≤ m) (fun (c : Nat) (v : Value) => m - c) (fun (c : Nat) (v : Value) => [(0, cM a), (1, cM b), (6, NT .i64 k), (8, NT .i64 m), (10, Is (.slice (some ⟨B39, 0, none⟩) n n)), (11, NT .i64 i), (41, NT .i64 n), (42, NT .i64 i), (45, NT .i64 m), (46, NT .i64 c)]) (fun (c : Nat) (v : Value) => [Z, Th B39 29 51 5 (bN aR (jA (fun i => tab m fun c => zU a b k i c) [] n i)) i v, bH 51 5 v ((tab c fun c => zU a b k i c).map aR)]) 0 v (Nat.zero_le _)
    (zS rfl) (dB.refl _) (fun c v hc=>?_)
   refine ts (ro rfl (gX (Ht rfl) (Ht rfl)) (eX (cK (dQ (Ht rfl) (fun he=>?_) (fun he=>?_)))))
   ·simp only [decide_eq_true_eq] at he
    haveI f1:aO (gm a i 0) L:=hfa.get hL1 i 0
    haveI f2:aO (gm b 0 c) M:=hfb.get hM1 0 c
    refine cU (cK (eG (ts (rm rfl (ra rfl (eX (cK (fZ (m:=15) (dp 0 rfl (cX (Ht rfl)) (dp 11 rfl (cX (Ht rfl)) (cL 49 0 50 1 rfl (dZ U_30 Z_29 (Ht rfl) (Ht rfl) rfl (dY (dU (d:=[]) zo))) (dq 51 2 rfl (dJ A_29 Z_29 (Ht rfl)) (dq 52 3 rfl (dZ U_29 Z_51 (Ht rfl) (cJ 0) rfl (dY (dU (d:=Qi.zero) (by rw [har]; omega)))) ?_)))))))))))))
    refine dq 53 4 rfl (dJ A_51 Z_51 (Ht rfl)) (dq 54 5 rfl (cR eD (Ht rfl)) (dp 1 rfl (cX (Ht rfl)) (dq 56 7 rfl (dZ U_30 Z_29 (Ht rfl) (cJ 0) rfl (dY (dU (d:=[]) zo))) (dq 57 8 rfl (dJ A_29 Z_29 (Ht rfl)) (dp 12 rfl (cX (Ht rfl)) (cL 58 9 59 10 rfl (dZ U_29 Z_51 (Ht rfl) (Ht rfl) rfl (dY (dU (d:=Qi.zero) (by rw [hb0]; omega)))) ?_))))))
    refine dq 60 11 rfl (dJ A_51 Z_51 (Ht rfl)) (cL 55 6 61 12 rfl (cI gO K_45 (pV zo) (Ht rfl) ⟨(Ht rfl),trivial⟩) (C.D_new (Ei:=[]) rfl rfl rfl bW (eW (Ts:=[Is (.bool false),Is (.slice none 0 0),Is (.bool false),Is (.slice none 0 0),Is (.slice none 0 0)]) O_51 rfl (fun V=>aW zd (aW zd (aW zd (aW zd (aW zd (aG))))))) (fV aT rfl (by kernel_rfl) (zF (zF (zF (aJ (aJ (C.F_new (fun B13=>aV ?_))))))))))
    refine gQ Z_51 (Ht rfl) (Ht rfl) rfl (i:=3) rfl (aK rfl) rfl rfl (eX (cK (ts (ro rfl (cQ (cJ 1)) (eX (eG ?_))))))
    refine bO (fun (j : Nat) => 1 ≤ j ∧ j ≤ k) (fun (j : Nat) => k - j) (fun (j : Nat) => [(0, cM a), (1, cM b), (6, NT .i64 k), (8, NT .i64 m), (10, Is (.slice (some ⟨B39, 0, none⟩) n n)), (11, NT .i64 i), (12, NT .i64 c), (13, bR B13 0), (14, NT .i64 j), (41, NT .i64 n), (42, NT .i64 i), (45, NT .i64 m), (46, NT .i64 c)]) (fun (j : Nat) => [Z, Th B39 29 51 5 (bN aR (jA (fun i => tab m fun c => zU a b k i c) [] n i)) i v, bH 51 5 v ((tab c fun c => zU a b k i c).map aR), box B13 51 [aE (decide ((aH j fun j => gm a i j * gm b j c).a < 0)), aI (aH j fun j => gm a i j * gm b j c).a.natAbs, aE (decide ((aH j fun j => gm a i j * gm b j c).b < 0)), aI (aH j fun j => gm a i j * gm b j c).b.natAbs, aI (du (aH j fun j => gm a i j * gm b j c))]]) 1 ⟨Nat.le_refl _, hk1⟩
     (zS rfl) (aU (fun _ _ _ h=>h) (aU (fun _ _ _ h=>h) (aU (fun _ _ _ h=>h) (aU (aB (by rw [Da]; rfl)) aY)))) (fun j ⟨hj1,hj⟩=>?_)
    refine cK (ts (rm rfl (rm rfl (ro rfl (gX (Ht rfl) (Ht rfl)) (eX (dQ (Ht rfl) (fun hf=>?_) (fun hf=>?_)))))))
    ·simp only [decide_eq_true_eq] at hf
     haveI f3:aO (gm a i j) L:=hfa.get hL1 i j
     haveI f4:aO (gm b j c) M:=hfb.get hM1 j c
     haveI f5:aO (aH j fun j=>gm a i j * gm b j c) (8 * (L + M) + 17):=Pr hfa hfb hL1 hM1 zo i c
     have hbj:=hb.row (i:=j) zo
     refine cU (cK (eG (fZ (m:=18) (dp 13 rfl (eJ A_51 Z_51 (Ht rfl) (i:=3) rfl rfl rfl) (dq 68 0 rfl (cR eD (Ht rfl)) (dp 0 rfl (cX (Ht rfl)) (dp 11 rfl (cX (Ht rfl)) (cL 70 2 71 3 rfl (dZ U_30 Z_29 (Ht rfl) (Ht rfl) rfl (dY (dU (d:=[]) zo))) (dq 72 4 rfl (dJ A_29 Z_29 (Ht rfl)) (dp 14 rfl (cX (Ht rfl)) (cL 73 5 74 6 rfl (dZ U_29 Z_51 (Ht rfl) (Ht rfl) rfl (dY (dU (d:=Qi.zero) (by rw [har]; omega)))) ?_)))))))))))
     refine dq 75 7 rfl (dJ A_51 Z_51 (Ht rfl)) (dq 76 8 rfl (cR eD (Ht rfl)) (dp 1 rfl (cX (Ht rfl)) (dp 14 rfl (cX (Ht rfl)) (cL 78 10 79 11 rfl (dZ U_30 Z_29 (Ht rfl) (Ht rfl) rfl (dY (dU (d:=[]) zo))) (dq 80 12 rfl (dJ A_29 Z_29 (Ht rfl)) (dp 12 rfl (cX (Ht rfl)) (cL 81 13 82 14 rfl (dZ U_29 Z_51 (Ht rfl) (Ht rfl) rfl (dY (dU (d:=Qi.zero) (by rw [hbj]; omega)))) ?_)))))))
     refine dq 83 15 rfl (dJ A_51 Z_51 (Ht rfl)) (cL 77 9 84 16 rfl (cI gO K_45 (pV zo) (Ht rfl) ⟨(Ht rfl),trivial⟩) (fV aT rfl (by kernel_rfl) (zF (zF (zF (zF (aJ (aJ (aV (ro rfl (cI tB Tryz.call46 (Ov zo) (Ht rfl) ⟨(Ht rfl),trivial⟩) (gQ Z_51 (Ht rfl) (Ht rfl) rfl (i:=3) rfl (aK rfl) rfl rfl (eX (aS ?_)))))))))))))
     refine cY (rm rfl (ro rfl (dV (Ht rfl) (cJ 1) z6) (ra rfl (eX (fU (j + 1) ⟨by omega,hf⟩ zo (zS rfl) (aU (fun _ _ _ h=>h) (aU (fun _ _ _ h=>h) (aU (fun _ _ _ h=>h) (aU (aB rfl) aY)))))))))
    ·simp only [decide_eq_false_iff_not] at hf
     obtain rfl:k = j:=Nat.le_antisymm zo hj
     refine gV rfl (Y.D_startA (m:=9) [] 8 2 rfl rfl (bY (Ei:=[(10,_)]) rfl rfl (bQ (bJ rfl rfl) bX) rfl rfl (dX rfl (cX (Ht rfl))) (bY (Ei:=[(11,_)]) rfl rfl (bQ (bJ rfl rfl) bX) rfl rfl (dX rfl (cX (Ht rfl))) (bY (Ei:=[(10,_)]) rfl rfl (bQ (bJ rfl rfl) bX) rfl rfl (dX rfl (cX (Ht rfl))) (bY (Ei:=[(11,_)]) rfl rfl (bQ (bJ rfl rfl) bX) rfl rfl (dX rfl (cX (Ht rfl))) (bY (Ei:=[(89,_),(90,_)]) rfl rfl (bQ (bZ 2 rfl rfl) (bQ (bZ 3 rfl rfl) bX)) rfl rfl (dX rfl (fY U_30 Z_29 (Ht rfl) (Ht rfl) rfl zo (by rw [Nat.mul_one,Nat.zero_add]))) ?_))))))
     refine bY (Ei:=[(91,_)]) rfl rfl (bQ (bZ 4 rfl rfl) bX) rfl rfl (dX rfl (iF A_29 Z_29 (Ht rfl) (j:=1) rfl)) (bY (Ei:=[(13,_)]) rfl rfl (bQ (bJ rfl rfl) bX) rfl rfl (dX rfl (eJ A_51 Z_51 (Ht rfl) (i:=3) rfl rfl rfl)) (bY (Ei:=[(93,_)]) rfl rfl (bQ (bZ 6 rfl rfl) bX) rfl rfl (dX rfl (bT (xs:=[.tmp 93]) U_29 Z_51 O_51 (cW (Ht rfl) cG) rfl rfl rfl)) (Y.D_app (Ei:=[(92,_),(94,_)]) rfl rfl rfl rfl (bQ (bZ 5 rfl rfl) (bQ (bZ 7 rfl rfl) bX)) rfl (qQ (inf:=Tryz.t51) nD kV rfl rfl rfl (Ht rfl) (Ht rfl) (by simp) (fun T hT=>by simp at hT; subst hT; exact El.ag rfl) (by show _ * 88 ≤ _; simp only [List.length_map,aC,List.length_cons,List.length_nil]; omega) (by simp only [List.length_map,aC,List.length_cons,List.length_nil]; omega)) ?_)))
     refine Y.D_done aT rfl (by kernel_rfl) rfl (by simp [Y.okP]) rfl rfl (bU (bU (bU (bU (bU (bU (bU (bU (Y.F_app (fun v2=>Y.F_nil ?_))))))))))
     refine ro rfl (fY U_30 Z_29 (Ht rfl) (Ht rfl) rfl zo (by rw [Nat.mul_one,Nat.zero_add])) ?_
     refine sG Z_29 (Ht rfl) (Ht rfl) (by simp only [bN,List.length_map,dC]; omega) (j:=1) (l:=4) rfl rfl rfl ?_
     refine eX (aS (cY (ro rfl (dV (Ht rfl) (cJ 1) z6) (rm rfl (eX (cA [0,1,4] rfl (by decide) (fU (c + 1,v2) he (by dsimp only; omega) (zS rfl) (aU (fun _ _ _ h=>h) (aU (fun _ _ _ h=>h) (aU (aD ((pC aR _ (zU a b k i c)).trans (congrArg _ (oF c (fun c=>zU a b k i c)).symm))) aY))))))))))
   ·simp only [decide_eq_false_iff_not] at he
    obtain rfl:m = c:=Nat.le_antisymm zo hc
    refine gV rfl (aS (eR 1 2 rfl rfl (by decide) (by simp only [bN,List.length_map,dC]; omega) ?_))
    refine cY (ro rfl (dV (Ht rfl) (cJ 1) z6) (rm rfl (eX (cA [0,1] rfl (by decide) (fU (i + 1) hd zo (zS rfl) (aU (fun _ _ _ h=>h) (aU (bI (by rw [fH,← iQ (f:=(fun i=>tab m fun c=>zU a b k i c))])) aY)))))))
  ·simp only [decide_eq_false_iff_not] at hd
   obtain rfl:n = i:=Nat.le_antisymm zo hi
   refine gV rfl (ts (rm rfl (ra rfl (ro rfl (cQ (cJ 0)) (eX ?_)))))
   exact jP B39 trivial [0,1] ⟨⟨_,rfl,fun _ _ _ h=>h⟩,⟨_,rfl,(bI (by rw [iP]; rfl))⟩,trivial⟩ (by decide) (a1U rfl (eU rfl) (eU rfl))
theorem a2W {a b:List (List Qi)} {n k m L M:Nat} (ha:dT a n k) (hb:dT b k m) (hfa:bP a L) (hfb:bP b M) (hL1:1 ≤ L) (hM1:1 ≤ M) (hL:L ≤ 900000000000) (hM:M ≤ 900000000000) (hn1:1 ≤ n) (hk1:1 ≤ k) (hn:n ≤ 8) (hk:k ≤ 8) (hm:m ≤ 8):bE Tryz.prog 195 [cM a,cM b] (gC [cM (mT a b n k m),aP .i64 0]):=(Oz ha hb hfa hfb hL1 hM1 hL hM hn1 hk1 hn hk hm).fun fun B _ v S V h1 h2=>a4W h1 fun u hu=>kJ (s:=5) (M:=mT a b n k m) (aC _ _).symm u S V hu h2
theorem a2T {a:List (List Qi)} {n m:Nat} (ha:dT a n m) (hn1:1 ≤ n) (hn:n ≤ 8) (hm:m ≤ 8):iA Tryz.prog 196 [cM a] [] (Nat) (fun B=>gC [Is (.slice (some ⟨B,0,none⟩) m m),aP .i64 0]) (fun B=>[pG B 29 51 5 (bN aR (Gd a n m))]) (fun _=>True):=by
 have hal:=ha.1
 refine iA.intro Tryz.func196 rfl Tryz.ntmps196 rfl (fun cx Z=>(ts (ro rfl (cQ cV) (ro rfl (cQ (cJ 0)) (eX (ts (rm rfl (ro rfl (cZ Tryz.call240 (tV ha hn1 zo zo) ⟨(Ht rfl),trivial⟩) (rm rfl (ro rfl (dK (Ht rfl) rfl) (ro rfl (dK (Ht rfl) rfl) (ra rfl (ra rfl (eX (cK (ts (rm rfl (ro rfl (gB (Ht rfl)) (eX (dQ (Ht rfl) (fun h0=>?_) (fun h0=>?_)))))))))))))))))))))
 ·exact absurd h0 (by simp)
 ·refine cU (ts (rm rfl (rn rfl (eN (T := Is (.slice none 0 0)) (i := Tryz.t29) V_30 mX rfl rfl (Ht rfl) rfl (fun _ => rfl) trivial (by show 24 * _ ≤ _; omega) zo) fun B17 => (ra rfl (eX (cK (ts (rm rfl (ro rfl (iI U_30 (Ht rfl)) (ro rfl (cX (cJ 0)) (eX (eG (lE 1 rfl (uH (e := 51) (s := 5)) ?_)))))))))))))
  refine bO (fun (k : Nat) => k ≤ m) (fun (k : Nat) => m - k) (fun (k : Nat) => [(0, cM a), (6, Is (.slice (some ⟨B17, 0, none⟩) m m)), (19, NT .i64 m), (20, NT .i64 k)]) (fun (k : Nat) => [Z, pG B17 29 51 5 (bN aR (jA (fun k => tab n fun i => (gm a i k).conj) [] m k))]) 0 (Nat.zero_le _)
   (zS rfl) (aU (fun _ _ _ h=>h) (aU (bI (by rw [← gH,lR]; exact mD aR m)) aY)) (fun k hk=>?_)
  refine ts (ro rfl (gX (Ht rfl) (Ht rfl)) (eX (cK (dQ (Ht rfl) (fun hd=>?_) (fun hd=>?_)))))
  ·simp only [decide_eq_true_eq] at hd
   refine pR 1 (k) rfl (lG hd) (fun v=>(cU (cK (eG (ts (rm rfl (ra rfl (eX (ts (rm rfl (ro rfl (dG U_30 (Ht rfl) aA) (ro rfl (cX (cJ 0)) (eX (eG ?_))))))))))))))
   refine eA (fun (i : Nat) (v : Value) => i ≤ n) (fun (i : Nat) (v : Value) => n - i) (fun (i : Nat) (v : Value) => [(0, cM a), (6, Is (.slice (some ⟨B17, 0, none⟩) m m)), (7, NT .i64 k), (19, NT .i64 m), (20, NT .i64 k), (24, NT .i64 n), (25, NT .i64 i)]) (fun (i : Nat) (v : Value) => [Z, Th B17 29 51 5 (bN aR (jA (fun k => tab n fun i => (gm a i k).conj) [] m k)) k v, bH 51 5 v ((tab i fun i => (gm a i k).conj).map aR)]) 0 v (Nat.zero_le _)
    (aQ rfl (aQ rfl (aQ rfl (aQ rfl (aQ rfl (aZ rfl (lT hal) (zS rfl))))))) (dB.refl _) (fun i v hi=>?_)
   refine ts (ro rfl (gX (Ht rfl) (Ht rfl)) (eX (cK (dQ (Ht rfl) (fun he=>?_) (fun he=>?_)))))
   ·simp only [decide_eq_true_eq] at he
    have har:=ha.row he
    refine cU (cK (eG (ts (rm rfl (ra rfl (eX (Y.D_startA (m:=17) [] 16 2 rfl rfl (bY (Ei:=[(6,_)]) rfl rfl (bQ (bJ rfl rfl) bX) rfl rfl (dX rfl (cX (Ht rfl))) (bY (Ei:=[(7,_)]) rfl rfl (bQ (bJ rfl rfl) bX) rfl rfl (dX rfl (cX (Ht rfl))) (bY (Ei:=[(6,_)]) rfl rfl (bQ (bJ rfl rfl) bX) rfl rfl (dX rfl (cX (Ht rfl))) (bY (Ei:=[(7,_)]) rfl rfl (bQ (bJ rfl rfl) bX) rfl rfl (dX rfl (cX (Ht rfl))) (bY (Ei:=[(30,_),(31,_)]) rfl rfl (bQ (bZ 2 rfl rfl) (bQ (bZ 3 rfl rfl) bX)) rfl rfl (dX rfl (fY U_30 Z_29 (Ht rfl) (Ht rfl) rfl zo (by rw [Nat.mul_one,Nat.zero_add]))) ?_))))))))))))
    refine bY (Ei:=[(32,_)]) rfl rfl (bQ (bZ 4 rfl rfl) bX) rfl rfl (dX rfl (iF A_29 Z_29 (Ht rfl) (j:=1) rfl)) (bY (Ei:=[(0,_)]) rfl rfl (bQ (bJ rfl rfl) bX) rfl rfl (dX rfl (cX (Ht rfl))) (bY (Ei:=[(8,_)]) rfl rfl (bQ (bJ rfl rfl) bX) rfl rfl (dX rfl (cX (Ht rfl))) (bY (Ei:=[(34,_),(35,_)]) rfl rfl (bQ (bZ 6 rfl rfl) (bQ (bZ 7 rfl rfl) bX)) rfl rfl (dX rfl (dZ U_30 Z_29 (Ht rfl) (Ht rfl) rfl (dY (dU (d:=[]) zo)))) ?_)))
    refine bY (Ei:=[(36,_)]) rfl rfl (bQ (bZ 8 rfl rfl) bX) rfl rfl (dX rfl (dJ A_29 Z_29 (Ht rfl))) (bY (Ei:=[(7,_)]) rfl rfl (bQ (bJ rfl rfl) bX) rfl rfl (dX rfl (cX (Ht rfl))) (bY (Ei:=[(37,_),(38,_)]) rfl rfl (bQ (bZ 9 rfl rfl) (bQ (bZ 10 rfl rfl) bX)) rfl rfl (dX rfl (dZ U_29 Z_51 (Ht rfl) (Ht rfl) rfl (dY (dU (d:=Qi.zero) (by rw [har]; omega))))) ?_))
    refine bY (Ei:=[(39,_)]) rfl rfl (bQ (bZ 11 rfl rfl) bX) rfl rfl (dX rfl (dJ A_51 Z_51 (Ht rfl))) (bY (Ei:=[(40,_)]) rfl rfl (bQ (bZ 12 rfl rfl) bX) rfl rfl (dX rfl (cR eD (Ht rfl))) (bY (Ei:=[(41,_)]) rfl rfl (bQ (bZ 13 rfl rfl) bX) rfl rfl (dX rfl (cI rU Tryz.call175 Me (Ht rfl) trivial)) (bY (Ei:=[(42,_)]) rfl rfl (bQ (bZ 14 rfl rfl) bX) rfl rfl (dX rfl (bT (xs:=[.tmp 42]) U_29 Z_51 O_51 (cW (Ht rfl) cG) rfl rfl rfl)) ?_)))
    refine Y.D_app (Ei:=[(33,_),(43,_)]) rfl rfl rfl rfl (bQ (bZ 5 rfl rfl) (bQ (bZ 15 rfl rfl) bX)) rfl (qQ (inf:=Tryz.t51) nD kV rfl rfl rfl (Ht rfl) (Ht rfl) (by simp) (fun T hT=>by simp at hT; subst hT; exact El.ag rfl) (by show _ * 88 ≤ _; simp only [List.length_map,aC,List.length_cons,List.length_nil]; omega) (by simp only [List.length_map,aC,List.length_cons,List.length_nil]; omega)) ?_
    refine Y.D_done aT rfl (by kernel_rfl) rfl (by simp [Y.okP]) rfl rfl (bU (bU (bU (bU (bU (bU (bU (bU (bU (bU (bU (bU (bU (bU (bU (bU (Y.F_app (fun v2=>Y.F_nil ?_))))))))))))))))))
    refine ro rfl (fY U_30 Z_29 (Ht rfl) (Ht rfl) rfl zo (by rw [Nat.mul_one,Nat.zero_add])) ?_
    refine sG Z_29 (Ht rfl) (Ht rfl) (by simp only [bN,List.length_map,dC]; omega) (j:=1) (l:=3) rfl rfl rfl ?_
    refine eX (aS (cY (ro rfl (dV (Ht rfl) (cJ 1) z6) (rm rfl (eX (cA [0,1,3] rfl (by decide) (fU (i + 1,v2) he (by dsimp only; omega) (zS rfl) (aU (fun _ _ _ h=>h) (aU (fun _ _ _ h=>h) (aU (aD ((pC aR _ (gm a i k).conj).trans (congrArg _ (oF i (fun i=>(gm a i k).conj)).symm))) aY))))))))))
   ·simp only [decide_eq_false_iff_not] at he
    obtain rfl:n = i:=Nat.le_antisymm zo hi
    refine gV rfl (aS (eR 1 2 rfl rfl (by decide) (by simp only [bN,List.length_map,dC]; omega) ?_))
    refine cY (ro rfl (dV (Ht rfl) (cJ 1) z6) (rm rfl (eX (cA [0,1] rfl (by decide) (fU (k + 1) hd zo (zS rfl) (aU (fun _ _ _ h=>h) (aU (bI (by rw [fH,← iQ (f:=(fun k=>tab n fun i=>(gm a i k).conj))])) aY)))))))
  ·simp only [decide_eq_false_iff_not] at hd
   obtain rfl:m = k:=Nat.le_antisymm zo hk
   refine gV rfl (ts (rm rfl (ra rfl (ro rfl (cQ (cJ 0)) (eX ?_)))))
   exact jP B17 trivial [0,1] ⟨⟨_,rfl,fun _ _ _ h=>h⟩,⟨_,rfl,(bI (by rw [iP]; rfl))⟩,trivial⟩ (by decide) (a1U rfl (eU rfl) (eU rfl))
theorem a4j {a:List (List Qi)} {n m:Nat} (ha:dT a n m) (hn1:1 ≤ n) (hn:n ≤ 8) (hm:m ≤ 8):bE Tryz.prog 196 [cM a] (gC [cM (Gd a n m),aP .i64 0]):=(a2T ha hn1 hn hm).fun fun B _ v S V h1 h2=>a4W h1 fun u hu=>kJ (s:=5) (M:=Gd a n m) (aC _ _).symm u S V hu h2
theorem a0H {z:List Qi} {s:List (List Qi)} (hsh:dT s z.length z.length) (hl:z.length ≤ 8):iA Tryz.prog 93 [lY z s] [] (Nat) (fun B=>Is (.slice (some ⟨B,0,none⟩) z.length z.length)) (fun B=>[pG B 29 51 5 (bN aR (tab z.length fun i=>tab z.length fun k=>gm s i k))]) (fun _=>True):=by
 refine iA.intro Tryz.func93 rfl Tryz.ntmps93 rfl (fun cx Z=>(ts (rn rfl (fG (Ht rfl)) fun B1=>(ro rfl (cQ cV) (eX (ts (ro rfl (eJ A_32 Z_32 (Ht rfl) (i:=1) rfl rfl rfl) (ro rfl (cZ K_22 tU ⟨(Ht rfl),trivial⟩) (rn rfl (eN (T:=Is (.slice none 0 0)) (i:=Tryz.t29) V_30 mX rfl rfl (Ht rfl) rfl (fun _=>rfl) trivial (by show 24 * _ ≤ _; omega) zo) fun B10=>(ra rfl (eX (cK (ts (rm rfl (ro rfl (iI U_30 (Ht rfl)) (ro rfl (cX (cJ 0)) (eX (eG ?_))))))))))))))))))
 refine lE 2 rfl (uH (e:=51) (s:=5)) ?_
 refine bO (fun (i : Nat) => i ≤ z.length) (fun (i : Nat) => z.length - i) (fun (i : Nat) => [(1, bR B1 0), (3, Is (.slice (some ⟨B10, 0, none⟩) z.length z.length)), (12, NT .i64 z.length), (13, NT .i64 i)]) (fun (i : Nat) => [Z, box B1 32 [cD z, cM s], pG B10 29 51 5 (bN aR (jA (fun i => tab z.length fun k => gm s i k) [] z.length i))]) 0 (Nat.zero_le _)
  (zS rfl) (aU (fun _ _ _ h=>h) (aU (fun _ _ _ h=>h) (aU (bI (by rw [← gH,lR]; exact mD aR z.length)) aY))) (fun i hi=>?_)
 refine ts (ro rfl (gX (Ht rfl) (Ht rfl)) (eX (cK (dQ (Ht rfl) (fun hd=>?_) (fun hd=>?_)))))
 ·simp only [decide_eq_true_eq] at hd
  refine pR 2 (i) rfl (lG hd) (fun v=>(cU (cK (eG (ts (rm rfl (ra rfl (eX (ts (rm rfl (ro rfl (iI U_30 (Ht rfl)) (ro rfl (cX (cJ 0)) (eX (eG ?_))))))))))))))
  refine eA (fun (k : Nat) (v : Value) => k ≤ z.length) (fun (k : Nat) (v : Value) => z.length - k) (fun (k : Nat) (v : Value) => [(1, bR B1 0), (3, Is (.slice (some ⟨B10, 0, none⟩) z.length z.length)), (4, NT .i64 i), (12, NT .i64 z.length), (13, NT .i64 i), (17, NT .i64 z.length), (18, NT .i64 k)]) (fun (k : Nat) (v : Value) => [Z, box B1 32 [cD z, cM s], Th B10 29 51 5 (bN aR (jA (fun i => tab z.length fun k => gm s i k) [] z.length i)) i v, bH 51 5 v ((tab k fun k => gm s i k).map aR)]) 0 v (Nat.zero_le _)
   (zS rfl) (dB.refl _) (fun k v hk=>?_)
  refine ts (ro rfl (gX (Ht rfl) (Ht rfl)) (eX (cK (dQ (Ht rfl) (fun he=>?_) (fun he=>?_)))))
  ·simp only [decide_eq_true_eq] at he
   refine cU (cK (eG (ts (rm rfl (ra rfl (eX (ts (ro rfl (eJ A_32 Z_32 (Ht rfl) (i:=1) rfl rfl rfl) (rm rfl (ro rfl (dV (Ht rfl) (cJ 1) z6) (rm rfl (ro rfl (dV (Ht rfl) (cJ 1) z6) (ro rfl (cZ Tryz.call25 (a4k (i:=(i:Int) + 1) (j:=(k:Int) + 1) hsh zo) ⟨(Ht rfl),(Ht rfl),(Ht rfl),trivial⟩) (rm rfl (ro rfl (dK (Ht rfl) rfl) (ro rfl (dK (Ht rfl) rfl) ?_))))))))))))))))
   refine rn rfl (eW (Ts:=[Is (.bool false),Is (.slice none 0 0),Is (.bool false),Is (.slice none 0 0),Is (.slice none 0 0)]) O_51 rfl (fun V=>aW zd (aW zd (aW zd (aW zd (aW zd (aG))))))) fun B6=>gQ Z_51 (Ht rfl) (Ht rfl) rfl (i:=4) rfl (aK rfl) rfl rfl (ra rfl (eX (Y.D_startA (m:=9) [] 8 3 rfl rfl (bY (Ei:=[(3,_)]) rfl rfl (bQ (bJ rfl rfl) bX) rfl rfl (dX rfl (cX (Ht rfl))) ?_))))
   refine bY (Ei:=[(4,_)]) rfl rfl (bQ (bJ rfl rfl) bX) rfl rfl (dX rfl (cX (Ht rfl))) (bY (Ei:=[(3,_)]) rfl rfl (bQ (bJ rfl rfl) bX) rfl rfl (dX rfl (cX (Ht rfl))) (bY (Ei:=[(4,_)]) rfl rfl (bQ (bJ rfl rfl) bX) rfl rfl (dX rfl (cX (Ht rfl))) (bY (Ei:=[(32,_),(33,_)]) rfl rfl (bQ (bZ 2 rfl rfl) (bQ (bZ 3 rfl rfl) bX)) rfl rfl (dX rfl (fY U_30 Z_29 (Ht rfl) (Ht rfl) rfl zo (by rw [Nat.mul_one,Nat.zero_add]))) ?_)))
   refine bY (Ei:=[(34,_)]) rfl rfl (bQ (bZ 4 rfl rfl) bX) rfl rfl (dX rfl (iF A_29 Z_29 (Ht rfl) (j:=2) rfl)) (bY (Ei:=[(6,_)]) rfl rfl (bQ (bJ rfl rfl) bX) rfl rfl (dX rfl (eJ A_51 Z_51 (Ht rfl) (i:=4) rfl rfl rfl)) (bY (Ei:=[(36,_)]) rfl rfl (bQ (bZ 6 rfl rfl) bX) rfl rfl (dX rfl (bT (xs:=[.tmp 36]) U_29 Z_51 O_51 (cW (Ht rfl) cG) rfl rfl rfl)) (Y.D_app (Ei:=[(35,_),(37,_)]) rfl rfl rfl rfl (bQ (bZ 5 rfl rfl) (bQ (bZ 7 rfl rfl) bX)) rfl (qQ (inf:=Tryz.t51) nD kV rfl rfl rfl (Ht rfl) (Ht rfl) (by simp) (fun T hT=>by simp at hT; subst hT; exact El.ag rfl) (by show _ * 88 ≤ _; simp only [List.length_map,aC,List.length_cons,List.length_nil]; omega) (by simp only [List.length_map,aC,List.length_cons,List.length_nil]; omega)) ?_)))
   refine Y.D_done aT rfl (by kernel_rfl) rfl (by simp [Y.okP]) rfl rfl (bU (bU (bU (bU (bU (bU (bU (bU (Y.F_app (fun v2=>Y.F_nil ?_))))))))))
   refine ro rfl (fY U_30 Z_29 (Ht rfl) (Ht rfl) rfl zo (by rw [Nat.mul_one,Nat.zero_add])) ?_
   refine sG Z_29 (Ht rfl) (Ht rfl) (by simp only [bN,List.length_map,dC]; omega) (j:=2) (l:=5) rfl rfl rfl ?_
   refine eX (aS (cY (ro rfl (dV (Ht rfl) (cJ 1) z6) (rm rfl (eX (cA [0,1,2,5] rfl (by decide) (fU (k + 1,v2) he (by dsimp only; omega) (zS rfl) (aU (fun _ _ _ h=>h) (aU (fun _ _ _ h=>h) (aU (fun _ _ _ h=>h) (aU (aD (by rw [oF,List.map_append,Zd hd he]; rfl)) aY)))))))))))
  ·simp only [decide_eq_false_iff_not] at he
   obtain rfl:k = z.length:=Nat.le_antisymm hk zo
   refine gV rfl (aS (eR 2 3 rfl rfl (by decide) (by simp only [bN,List.length_map,dC]; omega) ?_))
   refine cY (ro rfl (dV (Ht rfl) (cJ 1) z6) (rm rfl (eX (cA [0,1,2] rfl (by decide) (fU (i + 1) hd zo (zS rfl) (aU (fun _ _ _ h=>h) (aU (fun _ _ _ h=>h) (aU (bI (by rw [fH,← iQ (f:=(fun i=>tab z.length fun k=>gm s i k))])) aY))))))))
 ·simp only [decide_eq_false_iff_not] at hd
  obtain rfl:i = z.length:=Nat.le_antisymm hi zo
  refine gV rfl (ts (rm rfl (ra rfl (eX ?_))))
  exact jP B10 trivial [0,2] ⟨⟨_,rfl,fun _ _ _ h=>h⟩,⟨_,rfl,(bI (by rw [iP]))⟩,trivial⟩ (by decide) (tK rfl (eU rfl))
theorem Ms {z : List Qi} {s : List (List Qi)} (hsh : dT s z.length z.length) (hl : z.length ≤ 8) : bE Tryz.prog 93 [lY z s] (cM s) := (a0H hsh hl).fun fun B _ v S V h1 h2 => by
 have h3:=kJ (s:=5) (M:=tab z.length fun i=>tab z.length fun k=>gm s i k) (aC _ _).symm v S V h1 h2
 rw [← uI hsh] at h3; exact h3
theorem a36 {z:List Qi} {s:List (List Qi)} (hl:z.length ≤ 8):bE Tryz.prog 142 [lY z s] (cD z):=by
 refine bE.intro Tryz.func142 rfl Tryz.ntmps142 rfl (fun cx=>(ts (rn rfl (fG (Ht rfl)) fun B1=>(ro rfl (cQ cV) (eX (ts (ro rfl (eJ A_32 Z_32 (Ht rfl) (i:=0) rfl rfl rfl) (ro rfl (cZ K_22 tU ⟨(Ht rfl),trivial⟩) (rn rfl (jF (T:=aR Qi.zero) (i:=Tryz.t51) nD kV rfl rfl (Ht rfl) rfl kF (El.ag rfl) (by show 88 * _ ≤ _; omega) zo) fun B7=>(ra rfl (eX (cK (ts (rm rfl (ro rfl (oO U_29 (Ht rfl) (i:=1) rfl (show ((List.replicate z.length (aR Qi.zero)).length:Int) = ((z.length:Nat):Int) by simp)) ?_)))))))))))))))
 refine ro rfl (cX (cJ 0)) (eX (eG ?_))
 refine eA (fun (k : Nat) (out : List Qi) => lD (fun i => gv z i) z.length out k) (fun (k : Nat) (out : List Qi) => z.length - k) (fun (k : Nat) (out : List Qi) => [(1, bR B1 0), (3, Is B7), (9, NT .i64 z.length), (10, NT .i64 k)]) (fun (k : Nat) (out : List Qi) => [box B1 32 [cD z, cM s], bH 51 5 B7 (out.map aR)]) 0 (List.replicate z.length Qi.zero) (lD.start _ _ _)
  (zS rfl) (aU (fun _ _ _ h=>h) (aU (aD (tH aR _ _)) aY)) (fun k out hS=>?_)
 refine ts (ro rfl (gX (Ht rfl) (Ht rfl)) (eX (cK (dQ (Ht rfl) (fun hk=>?_) (fun hk=>?_)))))
 ·simp only [decide_eq_true_eq] at hk
  have hlen:=hS.len
  refine cU (cK (eG (ts (rm rfl (ra rfl (eX (cY (rm rfl (rm rfl (ro rfl (eJ A_32 Z_32 (Ht rfl) (i:=0) rfl rfl rfl) (rm rfl (ro rfl (dV (Ht rfl) (cJ 1) z6) (ro rfl (cZ Tryz.call23 (Vx (i:=(k:Int) + 1) zo) ⟨(Ht rfl),(Ht rfl),trivial⟩) (rm rfl (ro rfl (dK (Ht rfl) rfl) (ro rfl (dK (Ht rfl) rfl) (ro rfl (cH U_29 Z_51 (Ht rfl) (Ht rfl) rfl (i:=1) rfl (by first | omega | (simp; omega)) rfl) ?_)))))))))))))))))
  refine jB Z_51 (Ht rfl) (Ht rfl) (El.ag rfl) (i:=1) rfl rfl (by first | omega | (simp; omega)) rfl (eX (aS (cY (ro rfl (dV (Ht rfl) (cJ 1) z6) (rm rfl (eX (fU (k + 1,_) (hS.next hk (Ns hk)) (by dsimp only; omega) (zS rfl) (aU (fun _ _ _ h=>h) (aU (aD (fO aR _ _ _)) aY)))))))))
 ·simp only [decide_eq_false_iff_not] at hk
  obtain rfl:k = z.length:=Nat.le_antisymm hS.kle zo
  have hfin:=hS.fin.trans (wZ (l:=z) rfl).symm
  refine gV rfl (gJ (i:=1) (tt:=3) rfl rfl eC (ts (rm rfl (ra rfl (eX (fW rfl (fX (eU rfl) ?_)))))))
  exact (kS (by rw [hfin]))
end
section
open Go Go.RowKit
theorem tC (v : Value) (w : World) : (method (Tryz.prog.types.size + Made.depth) 51 v "Div").run Tryz.prog w = .ok (40, v) w := by kernel_rfl
theorem lH (v : Value) (w : World) : (method (Tryz.prog.types.size + Made.depth) 51 v "Sub").run Tryz.prog w = .ok (44, v) w := by kernel_rfl
end
section
open Go Go.RowKit
theorem Vy {p c:List (List Qi)} {n m L:Nat} (hp:dT p n m) (hc:dT c m m) (hfp:bP p L) (hfc:bP c L) (hL1:1 ≤ L) (hL:L ≤ 1000000000) (hn1:1 ≤ n) (hm1:1 ≤ m) (hn:n ≤ 8) (hm:m ≤ 8):iA Tryz.prog 99 [cM p,cM c] [] (Nat) (fun B=>Is (.slice (some ⟨B,0,none⟩) n n)) (fun B=>[pG B 29 51 5 (bN aR (mI p c))]) (fun _=>True):=by
 have hpl:=hp.1
 have hf1:=Yk (n:=n) (m:=m) hfp hfc hL1 hL1 hm
 have hf2:=Vi (n:=n) (m:=m) hfp hL1
 have hs1:dT (mT p c n m m) n m:=pH
 have hs2:dT (Gd p n m) m n:=Vj
 refine iA.intro Tryz.func99 rfl Tryz.ntmps99 rfl (fun cx Z=>(ts (ro rfl (cQ cV) (eX (cK (ts (rm rfl (ro rfl (dG U_30 (Ht rfl) aA) (ro rfl (cP (Ht rfl) (cJ 0)) (eX (dQ (Ht rfl) (fun h0=>?_) (fun h0=>?_))))))))))))
 ·simp only [decide_eq_true_eq] at h0
  omega
 ·refine cU (ts (rm rfl (rm rfl (ro rfl (cZ Tryz.call195 (a2W hp hc hfp hfc hL1 hL1 zo zo hn1 hm1 hn hm hm) ⟨(Ht rfl), (Ht rfl), trivial⟩) (rm rfl (ro rfl (dK (Ht rfl) rfl) (ro rfl (dK (Ht rfl) rfl) (ra rfl (ra rfl (eX (ts (rm rfl (ro rfl (cZ Tryz.call196 (a4j hp hn1 hn hm) ⟨(Ht rfl), trivial⟩) (rm rfl (ro rfl (dK (Ht rfl) rfl) (ro rfl (dK (Ht rfl) rfl) (ra rfl (ra rfl (eX (ts (rm rfl (rm rfl (jU Tryz.call195 (Oz (a := mT p c n m m) (b := Gd p n m) hs1 hs2 hf1 hf2 zo hL1 zo zo hn1 hm1 hn hm hn) ⟨(Ht rfl), (Ht rfl), trivial⟩ rfl (fun B28 _ => ?_))))))))))))))))))))))))
  refine rm rfl (ro rfl (dK (Ht rfl) rfl) (ro rfl (dK (Ht rfl) rfl) (ra rfl (ra rfl (eX (ts (rm rfl (ra rfl (eX ?_)))))))))
  exact jP B28 trivial [0,1] ⟨⟨_,rfl,fun _ _ _ h=>h⟩,⟨_,rfl,(bI (by rw [a3a hp hc]))⟩,trivial⟩ (by decide) (tK rfl (eU rfl))
theorem a2g {p c:List (List Qi)} {n m L:Nat} (hp:dT p n m) (hc:dT c m m) (hfp:bP p L) (hfc:bP c L) (hL1:1 ≤ L) (hL:L ≤ 1000000000) (hn1:1 ≤ n) (hm1:1 ≤ m) (hn:n ≤ 8) (hm:m ≤ 8):bE Tryz.prog 99 [cM p,cM c] (cM (mI p c)):=(Vy hp hc hfp hfc hL1 hL hn1 hm1 hn hm).fun fun B _ v S V h1 h2=>kJ (s:=5) (M:=mI p c) (by rw [qT.1,hp.1]) v S V h1 h2
theorem Vw {z:List Qi} {s c:List (List Qi)} {g t0:Qi} {L:Nat} (hz:dA z L) (hs:bP s L) (hc:bP c L) (hg:aO g L) (ht:aO t0 L) (hL1:1 ≤ L) (hL:L ≤ 4000) (hsh:dT s z.length z.length) (hch:dT c z.length z.length) (hl:z.length ≤ 8):bE Tryz.prog 88 [jC z s c,aR g,aR t0] (gC [aR (wP z s c g t0).1,aP .i64 (wP z s c g t0).2]):=by
 haveI:=hg; haveI:=ht
 haveI hz0:aO Qi.zero 1:=aO.zero (Nat.le_refl 1)
 have d1:(dg (((1:Nat):Int)).natAbs).length = 1:=by decide
 have d2:(dg (Int.natAbs 1)).length = 1:=by decide
 have hcl:=hch.1
 refine bE.intro Tryz.func88 rfl Tryz.ntmps88 rfl (fun cx=>(ts (rn rfl (fG (Ht rfl)) fun B3=>(rn rfl (fG (Ht rfl)) fun B4=>(rn rfl (fG (Ht rfl)) fun B5=>(rn rfl (eW (Ts:=[Is (.bool false),Is (.slice none 0 0),Is (.bool false),Is (.slice none 0 0),Is (.slice none 0 0)]) O_51 rfl (fun V=>aW zd (aW zd (aW zd (aW zd (aW zd (aG))))))) fun B6=>(ro rfl (cQ (cJ 0)) (eX (ts (rn rfl (eW (Ts:=[Is (.bool false),Is (.slice none 0 0),Is (.bool false),Is (.slice none 0 0),Is (.slice none 0 0)]) O_51 rfl (fun V=>aW zd (aW zd (aW zd (aW zd (aW zd (aG))))))) fun B8=>?_))))))))))
 refine eX (cK (cK (fZ (m:=6) (dp 5 rfl (eJ A_51 Z_51 (Ht rfl) (i:=2) rfl rfl rfl) (dq 18 0 rfl (cZ Tryz.call169 Gk ⟨(Ht rfl),trivial⟩) (dq 19 1 rfl (gB (Ht rfl)) (dq 20 2 rfl (cX (Ht rfl)) (C.D_step (Ei:=[(5,_),(21,_)]) rfl rfl (bV (bK rfl rfl) (bV (bG 3 rfl rfl) bW)) (eK rfl rfl (Ht rfl) (fun h=>eJ A_51 Z_51 (Ht rfl) (i:=2) rfl rfl rfl)) (C.D_step (Ei:=[(21,_)]) rfl rfl (bV (bG 3 rfl rfl) bW) (eK rfl rfl (Ht rfl) (fun h=>cZ K_77 (sH (n:=0) (by decide) (by decide)) ⟨(cJ 0),trivial⟩)) ?_)))))))))
 refine fV aT rfl (by kernel_rfl) (zF (aJ (aJ (aV (fQ rfl rfl (eK rfl rfl (Ht rfl) (fun h=>cZ Tryz.call76 (Vu (x:=t0) (y:=Qi.zero) (M:=1) zo) ⟨(fJ rfl h),(fJ rfl h),trivial⟩)) (fQ rfl rfl (eK rfl rfl (Ht rfl) (fun h=>Nr (fJ rfl h) cV)) (ro rfl (iU (Ht rfl) (fun h=>(fJ rfl h))) (eX (dQ (Ht rfl) (fun hb=>?_) (fun hb=>?_))))))))))
 ·rw [Qx] at hb
  simp only [Bool.not_eq_true'] at hb
  have he:wP z s c g t0 = (Qi.zero,1):=by rw [wP,if_pos hb]
  refine ts (ro rfl (eJ A_51 Z_51 (Ht rfl) (i:=4) rfl rfl rfl) (gQ Z_51 (Ht rfl) (Ht rfl) rfl (i:=3) rfl (aK rfl) rfl rfl (ro rfl (cQ (cJ 1)) (eX (bM rfl (fX (fK A_51 Z_51 rfl (i:=3) rfl rfl) ?_) (fX (eU rfl) ?_))))))
  ·exact (fun v V k=>by rw [he]; exact oA v V k)
  ·exact (fun v V k=>by rw [he]; exact k)
 ·rw [Qx] at hb
  simp only [Bool.not_eq_false'] at hb
  have hb2:¬ nB t0 = false:=by rw [hb]; decide
  refine cU (cK (ts (ro rfl (eZ qA (Ht rfl) rfl) (ro rfl (eY A_30 Z_30 (Ht rfl) (i:=0) rfl rfl) (ro rfl (dG U_30 (Ht rfl) aA) (ro rfl (gI (Ht rfl) (cJ 2)) (eX (dQ (Ht rfl) (fun hd=>?_) (fun hd=>?_)))))))))
  ·have hd2 : z.length ≠ 2 := by rw [← hcl]; simpa using hd
   have he:wP z s c g t0 = (Qi.zero,4):=by rw [wP,if_neg hb2,if_pos hd2]
   refine ts (ro rfl (eJ A_51 Z_51 (Ht rfl) (i:=4) rfl rfl rfl) (gQ Z_51 (Ht rfl) (Ht rfl) rfl (i:=3) rfl (aK rfl) rfl rfl (ro rfl (cQ (cJ 4)) (eX (bM rfl (fX (fK A_51 Z_51 rfl (i:=3) rfl rfl) ?_) (fX (eU rfl) ?_))))))
   ·exact (fun v V k=>by rw [he]; exact oA v V k)
   ·exact (fun v V k=>by rw [he]; exact k)
  ·have hd2 : z.length = 2 := by rw [← hcl]; simpa using hd
   have hd3:¬ z.length ≠ 2:=fun h=>h hd2
   have hsh2:=hsh
   rw [hd2] at hsh hch
   have hs1:=hsh.1
   have hc1:=hch.1
   have hr0:=hsh.row (i:=0) (by decide)
   have hr1:=hsh.row (i:=1) (by decide)
   have hWf:=Ju hs hg hL1
   have hW:dT (Xi s g) 1 2:=⟨rfl,fun r hr=>by have:=List.mem_singleton.1 hr; subst this; rfl⟩
   have hXs:dT (mI (Xi s g) c) 1 1:=qT
   have hX0:=hXs.row (i:=0) (by decide)
   have hp1:=pk1 (z:=z) zo
   haveI f1:aO (gm s 1 0) L:=hs.get hL1 1 0
   haveI f2:aO (gm s 0 0) L:=hs.get hL1 0 0
   haveI f3:aO (Ur z ((1:Nat):Int)) L:=by rw [hp1]; exact hz.get hL1 0
   haveI f4:=Xk hs hc hg hL1 zo
   have hpd:gm s 1 0 * (gm s 1 0).conj * (t0 * Ur z ((1:Nat):Int)) * (Hy - g * g.conj) = Jt z s g t0:=by rw [hp1,Qi.mul_conj_norm,Qi.mul_conj_norm,Jt,Qi.mul_assoc']
   refine cU (ts (ro rfl (eZ wN (Ht rfl) rfl) (ro rfl (eJ A_32 Z_32 (Ht rfl) (i:=0) rfl rfl rfl) (ro rfl (cZ Tryz.call93 (Ms hsh2 zo) ⟨(Ht rfl),trivial⟩) (ro rfl (cZ K_77 (sH (n:=1) (by decide) (by decide)) ⟨(cJ 1),trivial⟩) (ro rfl (cZ K_98 Ml ⟨(Ht rfl),trivial⟩) (rn rfl (eW (Ts:=[Is (.bool false),Is (.slice none 0 0),Is (.bool false),Is (.slice none 0 0),Is (.slice none 0 0)]) O_51 rfl (fun V=>aW zd (aW zd (aW zd (aW zd (aW zd (aG))))))) fun B10=>?_)))))))
   refine ra rfl (gQ Z_51 (Ht rfl) (Ht rfl) rfl (i:=5) rfl (aK rfl) rfl rfl (eX (ts (ro rfl (eZ wN (Ht rfl) rfl) (ro rfl (eJ A_32 Z_32 (Ht rfl) (i:=0) rfl rfl rfl) (ro rfl (cZ Tryz.call23 (Vx (i:=((1:Nat):Int)) zo) ⟨(Ht rfl),(cJ 1),trivial⟩) (rm rfl (ro rfl (dK (Ht rfl) rfl) (ro rfl (dK (Ht rfl) rfl) (rn rfl (eW (Ts:=[Is (.bool false),Is (.slice none 0 0),Is (.bool false),Is (.slice none 0 0),Is (.slice none 0 0)]) O_51 rfl (fun V=>aW zd (aW zd (aW zd (aW zd (aW zd (aG))))))) fun B11=>?_))))))))))
   refine gQ Z_51 (Ht rfl) (Ht rfl) rfl (i:=6) rfl (aK rfl) rfl rfl (ra rfl (eX (cK (pT (E':=[(3,_),(4,_),(5,_),(6,_),(7,_),(8,_),(9,_),(10,_),(11,_)]) (zS rfl) (fZ (m:=18) (dp 9 rfl (cX (Ht rfl)) (dq 44 0 rfl (dZ U_30 Z_29 (Ht rfl) (cJ 1) rfl (dY (dU (d:=[]) zo))) (dq 45 1 rfl (dJ A_29 Z_29 (Ht rfl)) (dq 46 2 rfl (dZ U_29 Z_51 (Ht rfl) (cJ 0) rfl (dY (dU (d:=Qi.zero) (by rw [hr1]; decide)))) ?_)))))))))
   refine dq 47 3 rfl (dJ A_51 Z_51 (Ht rfl)) (dq 48 4 rfl (cR eD (Ht rfl)) (dp 4 rfl (eJ A_51 Z_51 (Ht rfl) (i:=1) rfl rfl rfl) (cL 49 5 50 6 rfl (cI gO K_45 (pV zo) (Ht rfl) ⟨(Ht rfl),trivial⟩) (dp 10 rfl (eJ A_51 Z_51 (Ht rfl) (i:=5) rfl rfl rfl) (dq 52 8 rfl (cR eD (Ht rfl)) (dp 4 rfl (eJ A_51 Z_51 (Ht rfl) (i:=1) rfl rfl rfl) (dq 54 10 rfl (cR eD (Ht rfl)) (dp 9 rfl (cX (Ht rfl)) (dq 56 12 rfl (dZ U_30 Z_29 (Ht rfl) (cJ 0) rfl (dY (dU (d:=[]) zo))) ?_)))))))))
   refine dq 57 13 rfl (dJ A_29 Z_29 (Ht rfl)) (dq 58 14 rfl (dZ U_29 Z_51 (Ht rfl) (cJ 0) rfl (dY (dU (d:=Qi.zero) (by rw [hr0]; decide)))) ?_)
   refine dq 59 15 rfl (dJ A_51 Z_51 (Ht rfl)) (cL 55 11 60 16 rfl (cI gO K_45 (pV zo) (Ht rfl) ⟨(Ht rfl),trivial⟩) (fV aT rfl (by kernel_rfl) (zF (zF (zF (zF (aJ (aJ (aV (ro rfl (cI lH K_44 (Bq zo) (Ht rfl) ⟨(Ht rfl),trivial⟩) (ro rfl (bT (xs:=[.tmp 51,.tmp 62]) U_29 Z_51 O_51 (cW (Ht rfl) (cW (Ht rfl) cG)) rfl rfl rfl) ?_)))))))))))
   refine ro rfl (bT (xs:=[.tmp 63]) U_30 Z_29 O_29 (cW (Ht rfl) cG) rfl rfl rfl) (ra rfl (eX (cK (pT (E':=[(3,_),(4,_),(5,_),(6,_),(7,_),(8,_),(9,_),(10,_),(11,_),(13,_)]) (zS rfl) (cY (rm rfl (ro rfl (eZ qA (Ht rfl) rfl) (ro rfl (eY A_30 Z_30 (Ht rfl) (i:=0) rfl rfl) (ro rfl (cZ Tryz.call99 (a2g (p:=Xi s g) (c:=c) (n:=1) (m:=2) (L:=2 * L + 4) hW hch hWf (hc.le zo) zo zo (by decide) (by decide) (by decide) (by decide)) ⟨(Ht rfl),(Ht rfl),trivial⟩) ?_)))))))))
   refine ro rfl (dZ U_30 Z_29 (Ht rfl) (cJ 0) rfl (dY (dU (d:=[]) (by rw [hXs.1]; decide)))) ?_
   refine ro rfl (dJ A_29 Z_29 (Ht rfl)) (ro rfl (dZ U_29 Z_51 (Ht rfl) (cJ 0) rfl (dY (dU (d:=Qi.zero) (by rw [hX0]; decide)))) ?_)
   refine ro rfl (dJ A_51 Z_51 (Ht rfl)) (rn rfl (eW (Ts:=[Is (.bool false),Is (.slice none 0 0),Is (.bool false),Is (.slice none 0 0),Is (.slice none 0 0)]) O_51 rfl (fun V=>aW zd (aW zd (aW zd (aW zd (aW zd (aG))))))) fun B14=>(gQ Z_51 (Ht rfl) (Ht rfl) rfl (i:=7) rfl (aK rfl) rfl rfl (eX (cK (pT (E':=[(3,_),(4,_),(5,_),(6,_),(7,_),(8,_),(9,_),(10,_),(11,_),(14,_)]) (zS rfl) ?_)))))
   refine fZ (m:=32) (dp 9 rfl (cX (Ht rfl)) (dq 73 0 rfl (dZ U_30 Z_29 (Ht rfl) (cJ 1) rfl (dY (dU (d:=[]) zo))) (dq 74 1 rfl (dJ A_29 Z_29 (Ht rfl)) (dq 75 2 rfl (dZ U_29 Z_51 (Ht rfl) (cJ 0) rfl (dY (dU (d:=Qi.zero) (by rw [hr1]; decide)))) ?_))))
   refine dq 76 3 rfl (dJ A_51 Z_51 (Ht rfl)) (dq 77 4 rfl (cR eD (Ht rfl)) (dp 9 rfl (cX (Ht rfl)) (dq 79 6 rfl (dZ U_30 Z_29 (Ht rfl) (cJ 1) rfl (dY (dU (d:=[]) zo))) (dq 80 7 rfl (dJ A_29 Z_29 (Ht rfl)) (dq 81 8 rfl (dZ U_29 Z_51 (Ht rfl) (cJ 0) rfl (dY (dU (d:=Qi.zero) (by rw [hr1]; decide)))) ?_)))))
   refine dq 82 9 rfl (dJ A_51 Z_51 (Ht rfl)) (dq 83 10 rfl (cR eD (Ht rfl)) (dq 84 11 rfl (cI rU Tryz.call175 Me (Ht rfl) trivial) (cL 78 5 85 12 rfl (cI gO K_45 (pV zo) (Ht rfl) ⟨(Ht rfl),trivial⟩) (dq 86 13 rfl (cR eD (Ht rfl)) (dp 5 rfl (eJ A_51 Z_51 (Ht rfl) (i:=2) rfl rfl rfl) (dp 11 rfl (eJ A_51 Z_51 (Ht rfl) (i:=6) rfl rfl rfl) (cL 88 15 89 16 rfl (cZ K_45 (pV zo) ⟨(Ht rfl),(Ht rfl),trivial⟩) (dq 90 17 rfl (cZ K_98 Ml ⟨(Ht rfl),trivial⟩) ?_))))))))
   refine cL 87 14 91 18 rfl (cI gO K_45 (pV zo) (Ht rfl) ⟨(Ht rfl),trivial⟩) (dq 92 19 rfl (cR eD (Ht rfl)) (dp 10 rfl (eJ A_51 Z_51 (Ht rfl) (i:=5) rfl rfl rfl) (dq 94 21 rfl (cR eD (Ht rfl)) (dp 4 rfl (eJ A_51 Z_51 (Ht rfl) (i:=1) rfl rfl rfl) (dq 96 23 rfl (cR eD (Ht rfl)) (dp 4 rfl (eJ A_51 Z_51 (Ht rfl) (i:=1) rfl rfl rfl) (dq 98 25 rfl (cR eD (Ht rfl)) (dq 99 26 rfl (cI rU Tryz.call175 Me (Ht rfl) trivial) (cL 97 24 100 27 rfl (cI gO K_45 (pV zo) (Ht rfl) ⟨(Ht rfl),trivial⟩) ?_)))))))))
   refine cL 95 22 101 28 rfl (cI lH K_44 (Bq zo) (Ht rfl) ⟨(Ht rfl),trivial⟩) (cL 93 20 102 29 rfl (cI gO K_45 (pV zo) (Ht rfl) ⟨(Ht rfl),trivial⟩) (C.D_new (Ei:=[]) rfl rfl rfl bW (eW (Ts:=[Is (.bool false),Is (.slice none 0 0),Is (.bool false),Is (.slice none 0 0),Is (.slice none 0 0)]) O_51 rfl (fun V=>aW zd (aW zd (aW zd (aW zd (aW zd (aG))))))) (fV aT rfl (by kernel_rfl) (zF (zF (zF (zF (zF (zF (zF (aJ (aJ (aJ (C.F_new (fun B15=>aV ?_)))))))))))))))
   refine gQ Z_51 (Ht rfl) (Ht rfl) rfl (i:=8) rfl (aK rfl) rfl rfl (eX (cK (pT (E':=[(6,_),(7,_),(8,_),(10,_),(14,_),(15,_)]) (zS rfl) (cY (ro rfl (eJ A_51 Z_51 (Ht rfl) (i:=7) rfl rfl rfl) (ro rfl (cR eD (Ht rfl)) (ro rfl (eJ A_51 Z_51 (Ht rfl) (i:=8) rfl rfl rfl) (ro rfl (cI tC Tryz.call40 (Vv (x:=Xj s c g) (y:=gm s 1 0 * (gm s 1 0).conj * (t0 * Ur z ((1:Nat):Int)) * (Hy - g * g.conj)) zo) (Ht rfl) ⟨(Ht rfl),trivial⟩) ?_))))))))
   refine rm rfl (ro rfl (dK (Ht rfl) rfl) (ro rfl (dK (Ht rfl) rfl) (rn rfl (eW (Ts:=[Is (.bool false),Is (.slice none 0 0),Is (.bool false),Is (.slice none 0 0),Is (.slice none 0 0)]) O_51 rfl (fun V=>aW zd (aW zd (aW zd (aW zd (aW zd (aG))))))) fun B16=>(gQ Z_51 (Ht rfl) (Ht rfl) rfl (i:=9) rfl (aK rfl) rfl rfl (ra rfl (eX (cK (cK (pT (E':=[(6,_),(7,_),(8,_),(10,_),(16,_),(17,_)]) (zS rfl) ?_)))))))))
   refine cY (rm rfl (ro rfl (kR (Ht rfl) cV) (eX (dQ (Ht rfl) (fun hk=>?_) (fun hk=>?_)))))
   ·rw [hpd] at hk
    have hk2 : Jt z s g t0 = Qi.zero := by
     by_cases h:Jt z s g t0 = Qi.zero
     ·exact h
     ·rw [if_neg h] at hk; exact absurd hk (by decide)
    have he:wP z s c g t0 = (Qi.zero,3):=by rw [wP,if_neg hb2,if_neg hd3,if_pos hk2]
    refine ts (ro rfl (eJ A_51 Z_51 (Ht rfl) (i:=4) rfl rfl rfl) (gQ Z_51 (Ht rfl) (Ht rfl) rfl (i:=3) rfl (aK rfl) rfl rfl (ro rfl (cQ (cJ 3)) (eX (bM rfl (fX (fK A_51 Z_51 rfl (i:=3) rfl rfl) ?_) (fX (eU rfl) ?_))))))
    ·exact (fun v V k=>by rw [he]; exact oA v V k)
    ·exact (fun v V k=>by rw [he]; exact k)
   ·have hk2 : ¬ Jt z s g t0 = Qi.zero := fun h => by rw [hpd, if_pos h] at hk; exact absurd hk (by decide)
    have he:wP z s c g t0 = (Hy + Xj s c g / Jt z s g t0,0):=by rw [wP,if_neg hb2,if_neg hd3,if_neg hk2]
    have hv:Hy + Xj s c g / (gm s 1 0 * (gm s 1 0).conj * (t0 * Ur z ((1:Nat):Int)) * (Hy - g * g.conj)) = (wP z s c g t0).1:=by rw [he,hpd]
    refine cU (ts (ro rfl (eJ A_51 Z_51 (Ht rfl) (i:=5) rfl rfl rfl) (ro rfl (cR eD (Ht rfl)) (ro rfl (eJ A_51 Z_51 (Ht rfl) (i:=9) rfl rfl rfl) (ro rfl (cI tB Tryz.call46 (Ov zo) (Ht rfl) ⟨(Ht rfl),trivial⟩) (gQ Z_51 (Ht rfl) (Ht rfl) rfl (i:=3) rfl (aK rfl) rfl rfl (ro rfl (cQ (cJ 0)) (eX (bM rfl (fX (fK A_51 Z_51 rfl (i:=3) rfl rfl) ?_) (fX (eU rfl) ?_))))))))))
    ·exact (lW hv)
    ·exact (fun v V k=>by rw [he]; exact k)
end
section
open Go Go.RowKit
theorem a0o {n:Nat} (h:n < 4294967296):bE Tryz.prog 278 [NT .u64 1,NT .u64 n] (gC [NT .u64 0,NT .u64 n]):=by
 refine bE.intro Tryz.func278 rfl Tryz.ntmps278 rfl (fun cx=>(ts (ro rfl (cQ (cJ 0)) (ro rfl (cQ (cJ 0)) (eX (ts (rm rfl (ro rfl (aL.nat (uK rfl (Ht rfl) (cJ 4294967295) z7 z7) (show (1:Nat) &&& 4294967295 = 1 by decide)) (ra rfl (eX (ts (rm rfl (ro rfl (aL.nat (fC (Ht rfl) (cJ 32) (by decide)) (show (1:Nat) / 2 ^ 32 = 0 by decide)) (ra rfl (eX (ts (rm rfl (ro rfl (aL.nat (uK rfl (Ht rfl) (cJ 4294967295) z7 z7) (show n &&& 4294967295 = n from (Nat.and_two_pow_sub_one_eq_mod n 32).trans (Nat.mod_eq_of_lt h))) ?_))))))))))))))))))
 refine ra rfl (eX (ts (rm rfl (ro rfl (aL.nat (fC (Ht rfl) (cJ 32) (by decide)) (show n / 2 ^ 32 = 0 from Nat.div_eq_of_lt h)) (ra rfl (eX (ts (rm rfl (rm rfl (ro rfl (aL.nat (kX (Ht rfl) (Ht rfl) z7) (Nat.one_mul n)) (ra rfl (eX (ts (rm rfl (rm rfl (ro rfl (aL.nat (kX (Ht rfl) (Ht rfl) z7) (Nat.zero_mul n)) (rm rfl (ro rfl (aL.nat (fC (Ht rfl) (cJ 32) (by decide)) (show n / 2 ^ 32 = 0 from Nat.div_eq_of_lt h)) ?_))))))))))))))))))
 refine ro rfl (dV (Ht rfl) (Ht rfl) z7) (ra rfl (eX (ts (rm rfl (ro rfl (aL.nat (uK rfl (Ht rfl) (cJ 4294967295) z7 z7) (show (0 + 0:Nat) &&& 4294967295 = 0 by decide)) (ra rfl (eX (ts (rm rfl (ro rfl (aL.nat (fC (Ht rfl) (cJ 32) (by decide)) (show (0 + 0:Nat) / 2 ^ 32 = 0 by decide)) (ra rfl (eX (ts (rm rfl (rm rfl (rm rfl ?_))))))))))))))))
 refine ro rfl (aL.nat (kX (Ht rfl) (Ht rfl) z7) (show (1 * 0:Nat) = 0 by decide)) (ro rfl (dV (Ht rfl) (Ht rfl) z7) (ra rfl (eX (ts (rm rfl (rm rfl (ro rfl (aL.nat (kX (Ht rfl) (Ht rfl) z7) (show (0 * 0:Nat) = 0 by decide)) (rm rfl (ro rfl (dV (Ht rfl) (Ht rfl) z7) ?_)))))))))
 refine rm rfl (ro rfl (aL.nat (fC (Ht rfl) (cJ 32) (by decide)) (show (0 + 0:Nat) / 2 ^ 32 = 0 by decide)) (ro rfl (dV (Ht rfl) (Ht rfl) z7) (ra rfl (eX (ts (rm rfl (rm rfl (ro rfl (aL.nat (kX (Ht rfl) (Ht rfl) z7) (Nat.one_mul n)) (ra rfl (eX (bM rfl (fX (eU rfl) ?_) (eU rfl))))))))))))
 exact (lT (by decide))
theorem a2Y {n:Nat} (h:n < 4294967296):bE Tryz.prog 251 [NT .u64 1,NT .u64 n] (gC [NT .u64 0,NT .u64 n]):=by
 refine bE.intro Tryz.func251 rfl Tryz.ntmps251 rfl (fun cx=>(ts (ro rfl (cQ (cJ 0)) (ro rfl (cQ (cJ 0)) (eX (cK (dQ cV (fun hf=>?_) (fun hf=>?_))))))))
 ·exact absurd hf (by decide)
 ·refine cU (ts (rm rfl (rm rfl (ro rfl (cZ Tryz.call278 (a0o h) ⟨(Ht rfl), (Ht rfl), trivial⟩) (rm rfl (ro rfl (dK (Ht rfl) rfl) (ro rfl (dK (Ht rfl) rfl) (ra rfl (ra rfl (eX (ts (rm rfl (rm rfl (ra rfl (ra rfl (eX ?_))))))))))))))))
  exact bM rfl (eU rfl) (eU rfl)
theorem Mi {m:Nat} (h1:1 ≤ m) (hm:m ≤ 1000):iA Tryz.prog 191 [cD [Qi.zero],NT .i64 m] [] ({v:Value // eL v}) (fun v=>Is v.1) (fun v=>[bH 51 5 v.1 ((tab m fun _=>Qi.zero).map aR)]) (fun _=>True):=by
 refine iA.intro Tryz.func191 rfl Tryz.ntmps191 rfl (fun cx Z=>(ts (ro rfl (cQ cV) (eX (cK (ts (rm rfl (ro rfl (gX (Ht rfl) (cJ 0)) (eX (dQ (Ht rfl) (fun h0=>?_) (fun h0=>?_)))))))))))
 ·simp only [decide_eq_true_eq] at h0
  omega
 ·refine cU (ts (rm rfl (ro rfl (dG U_29 (Ht rfl) (show (([Qi.zero].map aR).length : Int) = ((1 : Nat) : Int) from rfl)) (ro rfl (gZ U_3 U_255 (Ht rfl) z7) (rm rfl (ro rfl (gZ U_3 U_255 (Ht rfl) z7) (ro rfl (cZ Tryz.call251 (a2Y zo) ⟨(Ht rfl), (Ht rfl), trivial⟩) (rm rfl (ro rfl (dK (Ht rfl) rfl) (ro rfl (dK (Ht rfl) rfl) ?_))))))))))
  refine ra rfl (ra rfl (eX (cK (ts (rm rfl (ro rfl (eE (Ht rfl) (cJ 0)) (rm rfl (fQ rfl rfl (eK rfl rfl (Ht rfl) (fun h=>cX (Ht rfl))) (fQ rfl rfl (eK rfl rfl (Ht rfl) (fun h=>eE (fJ rfl h) (cJ 9223372036854775807))) (ro rfl (iU (Ht rfl) (fun h=>(fJ rfl h))) (eX (dQ (Ht rfl) (fun h2=>?_) (fun h2=>?_)))))))))))))
  ·simp only [Bool.or_eq_true, decide_eq_true_eq] at h2
   omega
  ·refine cU (ts (rm rfl (ro rfl (gZ U_255 U_3 (Ht rfl) z6) (Ol (T := aR Qi.zero) (i := Tryz.t51) nD kV rfl rfl (Ht rfl) rfl kF (El.ag rfl) (by show 88 * _ ≤ _; omega) zo rfl (fun B30 hB30 => (ra rfl (eX (ts (rm rfl (rm rfl (ro rfl (Yt (q := 1) (T := aR Qi.zero) U_29 Z_51 (i := 1) rfl (Ht rfl) (Ht rfl) (by decide) (El.ag rfl) zo) (ra rfl (eX (cK (eG ?_)))))))))))))))
   refine bO (fun (k : Nat) => 1 ≤ k ∧ k ≤ m) (fun (k : Nat) => m - k) (fun (k : Nat) => [(7, Is B30), (8, NT .i64 k)]) (fun (k : Nat) => [Z, bH 51 5 B30 (List.replicate m (aR Qi.zero))]) (Nat.min 1 m) ⟨by show 1 ≤ min 1 m; omega, by show min 1 m ≤ m; omega⟩
    (zS rfl) (dB.refl _) (fun k ⟨hk1,hk⟩=>?_)
   refine cK (ts (rm rfl (rm rfl (ro rfl (oO U_29 (Ht rfl) (i:=1) rfl (show ((List.replicate m (aR Qi.zero)).length:Int) = ((m:Nat):Int) by simp)) (ro rfl (gX (Ht rfl) (Ht rfl)) (eX (dQ (Ht rfl) (fun hd=>?_) (fun hd=>?_))))))))
   ·simp only [decide_eq_true_eq] at hd
    have hlen:(List.replicate m (aR Qi.zero)).length = m:=by simp
    have h5:Nat.min k ((List.replicate m (aR Qi.zero)).length - k) = min k (m - k):=by rw [hlen]
    refine cU (eG (fZ (m:=8) (dp 8 rfl (cX (Ht rfl)) (dp 7 rfl (cX (Ht rfl)) (dp 8 rfl (cX (Ht rfl)) (cL 39 1 40 2 rfl (Yx U_29 Z_51 (Ht rfl) (Ht rfl) rfl (i:=1) rfl (by rw [hlen]; exact hd)) ?_))))))
    refine dp 7 rfl (cX (Ht rfl)) (dp 8 rfl (cX (Ht rfl)) (cL 42 4 43 5 rfl (Yw U_29 Z_51 (Ht rfl) (Ht rfl) rfl (i:=1) rfl (by rw [hlen]; omega) (by rw [hlen]; omega)) ?_))
    refine cL 41 3 44 6 rfl (No (T:=aR Qi.zero) U_29 Z_51 (i:=1) rfl (Ht rfl) (Ht rfl)) (fV aT rfl (by kernel_rfl) (zF (zF (aV (ro rfl (dV (Ht rfl) (Ht rfl) (by show _ < 9223372036854775808; omega)) (ra rfl (eX (aS (fU (k + Nat.min k ((List.replicate m (aR Qi.zero)).length - k)) ⟨by omega,by omega⟩ zo (zS rfl) (dB.refl _))))))))))
   ·refine gV rfl (ts (rm rfl (ra rfl (eX ?_))))
    exact jP ⟨B30,hB30⟩ trivial [0,1] ⟨⟨_,rfl,fun _ _ _ h=>h⟩,⟨_,rfl,(aD (by rw [lR,tH]))⟩,trivial⟩ (by decide) (tK rfl (eU rfl))
end
section
open Go Go.RowKit
theorem Bn {n : Nat} {E : dE} {H : Hp} {d : Option Tmp} {t : TypeId} {pos : String} {af : Array Edge} {g : Option (Nat × Bool)} {x0 x1 : Operand} {T0 T1 T2 : Ty} (h0 : bF E x0 (eP [T0, T1])) [s1 : dR T2 1 false] (h1 : bF E x1 T2) :
  aL Tryz.prog n E H ⟨d,.build 34 #[(0,x0),(1,x1)],t,pos,af,g⟩ (eP [T0,T1,T2]) :=
 fS (parts := [(0, x0), (1, x1)]) fun a V w hs => by
  obtain ⟨v0,e0,c0⟩:=h0 n V a hs
  obtain ⟨c0_0,c0_1,rfl⟩:∃ c0_0 c0_1,v0 = [c0_0,c0_1]:=zI (by simpa using c0.length)
  have p1:=h1 n V a hs
  generalize e1:a.eval x1 = v1 at p1
  have q1:=(s1.ok v1 V p1).2.2 rfl
  refine ⟨.agg #[c0_0,c0_1,v1],?_,[c0_0,c0_1,v1],rfl,aW (c0.at (i:=0) rfl rfl) (aW (c0.at (i:=1) rfl rfl) (aW (⟨p1,q1⟩) (aG)))⟩
  simp [e0,e1,Instr.build,Instr.fill,Sem.run_bind,Result.andThen,eS,q1.cells,O_34,U_34,Z_30,Z_32]
end
section
open Go Go.RowKit
theorem Wq {n:Nat} (hn:n ≤ 1000):iA Tryz.prog 97 [NT .i64 n,NT .i64 n] [] (Nat) (fun B=>Is (.slice (some ⟨B,0,none⟩) n n)) (fun B=>[kE eL B 29 51 5 (bN aR (zN n n))]) (fun _=>True):=by
 refine iA.intro Tryz.func97 rfl Tryz.ntmps97 rfl (fun cx Z=>(ts (ro rfl (cQ cV) (eX (ts (rm rfl (rn rfl (eN (T:=Is (.slice none 0 0)) (i:=Tryz.t29) V_30 mX rfl rfl (Ht rfl) rfl (fun _=>rfl) trivial (by show 24 * _ ≤ _; omega) zo) fun B8=>(ra rfl (eX (cK (ts (rm rfl (ro rfl (iI U_30 (Ht rfl)) (ro rfl (cX (cJ 0)) (eX (eG (lE 1 rfl (tA eL ⟨none,0,rfl⟩ (e:=51) (s:=5)) ?_)))))))))))))))))
 refine bO (fun (k : Nat) => k ≤ n) (fun (k : Nat) => n - k) (fun (k : Nat) => [(1, NT .i64 n), (5, Is (.slice (some ⟨B8, 0, none⟩) n n)), (10, NT .i64 n), (11, NT .i64 k)]) (fun (k : Nat) => [Z, kE eL B8 29 51 5 (bN aR (jA (fun _ => (tab n fun _ => Qi.zero)) [] n k))]) 0 (Nat.zero_le _)
  (zS rfl) (aU (fun _ _ _ h=>h) (aU (bI (by rw [← gH,lR]; exact mD aR n)) aY)) (fun k hk=>?_)
 refine ts (ro rfl (gX (Ht rfl) (Ht rfl)) (eX (cK (dQ (Ht rfl) (fun hd=>?_) (fun hd=>?_)))))
 ·simp only [decide_eq_true_eq] at hd
  refine jV 1 (k) rfl (lG hd) (fun v hv=>(cU (cK (eG (ts (rm rfl (ra rfl (eX (cY (rm rfl (rm rfl (ro rfl (cZ K_77 (sH (n:=0) (by decide) (by decide)) ⟨(cJ 0),trivial⟩) (ro rfl (cZ K_98 Ml ⟨(Ht rfl),trivial⟩) (ro rfl (bT (xs:=[.tmp 17]) U_29 Z_51 O_51 (cW (Ht rfl) cG) rfl rfl rfl) (rm rfl (jU Tryz.call191 (Mi (m:=n) zo hn) ⟨(Ht rfl),(Ht rfl),trivial⟩ rfl (fun B20 _=>?_)))))))))))))))))
  have hB20:=B20.2
  refine ro rfl (fY U_30 Z_29 (Ht rfl) (Ht rfl) rfl zo (by rw [Nat.mul_one,Nat.zero_add])) ?_
  refine sG Z_29 (Ht rfl) (Ht rfl) (by simp only [bN,List.length_map,dC]; omega) (j:=1) (l:=3) rfl rfl rfl ?_
  refine eX (aS (eR 1 3 rfl rfl (by decide) (by simp only [bN,List.length_map,dC]; omega) ?_))
  refine cY (ro rfl (dV (Ht rfl) (cJ 1) z6) (rm rfl (eX (cA [0,1] rfl (by decide) (fU (k + 1) hd zo (zS rfl) (aU (fun _ _ _ h=>h) (aU (bI (by rw [fH,← iQ (f:=fun _=>(tab n fun _=>Qi.zero))])) aY)))))))
 ·simp only [decide_eq_false_iff_not] at hd
  obtain rfl:n = k:=Nat.le_antisymm zo hk
  refine gV rfl (ts (rm rfl (ra rfl (eX ?_))))
  exact jP B8 trivial [0,1] ⟨⟨_,rfl,fun _ _ _ h=>h⟩,⟨_,rfl,(bI (by rw [iP]; rfl))⟩,trivial⟩ (by decide) (tK rfl (eU rfl))
theorem Wo {z:List Qi} {s:List (List Qi)} {L:Nat} (hz:dA z L) (hs:bP s L) (hL1:1 ≤ L) (hL:L ≤ 1000000) (hsh:dT s z.length z.length) (hl1:1 ≤ z.length) (hl:z.length ≤ 8):iA Tryz.prog 160 [lY z s] [] (Nat) (fun B=>Is (.slice (some ⟨B,0,none⟩) z.length z.length)) (fun B=>[kE eL B 29 51 5 (bN aR (rE z s))]) (fun _=>True):=by
 have hs1:=hs.le (Nat.le_refl L)
 have hsl:=hsh.1
 have hD:=Jm z
 have hDf:=Bv hz hL1
 have hXf:=wI hs hDf hL1 (by rw [hD.1]; exact hl)
 have hX:dT (mI s (iY z)) s.length s.length:=qT
 refine iA.intro Tryz.func160 rfl Tryz.ntmps160 rfl (fun cx Z=>(ts (rn rfl (fG (Ht rfl)) fun B1=>(ro rfl (cQ cV) (eX (cK (fZ (m:=3) (dp 1 rfl (eJ A_32 Z_32 (Ht rfl) (i:=1) rfl rfl rfl) (dq 10 0 rfl (cZ K_22 tU ⟨(Ht rfl),trivial⟩) (dp 1 rfl (eJ A_32 Z_32 (Ht rfl) (i:=1) rfl rfl rfl) (fV aT rfl (by kernel_rfl) (aJ (aJ (aJ (aV (ro rfl (cZ K_22 tU ⟨(Ht rfl),trivial⟩) (jU Tryz.call97 (Wq (n:=z.length) zo) ⟨(Ht rfl),(Ht rfl),trivial⟩ rfl (fun B14 _=>?_))))))))))))))))))
 refine ra rfl (eX (cK (ts (ro rfl (eJ A_32 Z_32 (Ht rfl) (i:=1) rfl rfl rfl) (ro rfl (cZ Tryz.call142 (a36 zo) ⟨(Ht rfl),trivial⟩) (ro rfl (dG U_29 (Ht rfl) aA) (ro rfl (cX (cJ 0)) (eX (eG ?_)))))))))
 refine bO (fun (i : Nat) => i ≤ z.length) (fun (i : Nat) => z.length - i) (fun (i : Nat) => [(1, bR B1 0), (3, Is (.slice (some ⟨B14, 0, none⟩) z.length z.length)), (16, cD z), (17, NT .i64 z.length), (18, NT .i64 i)]) (fun (i : Nat) => [Z, box B1 32 [cD z, cM s], kE eL B14 29 51 5 (bN aR (jA (fun i => (tab z.length fun _ => Qi.zero).set i (gv z i)) (tab z.length fun _ => Qi.zero) z.length i))]) 0 (Nat.zero_le _)
  (zS rfl) (aU (fun _ _ _ h=>h) (aU (fun _ _ _ h=>h) (aU (bI (by rw [zN,gH])) aY))) (fun i hi=>?_)
 refine ts (ro rfl (gX (Ht rfl) (Ht rfl)) (eX (cK (dQ (Ht rfl) (fun hd=>?_) (fun hd=>?_)))))
 ·simp only [decide_eq_true_eq] at hd
  have hzl:=aC z.length fun _=>Qi.zero
  refine jV 2 (i) rfl (lG hd) (fun v hv=>(cU (cK (eG (ts (rm rfl (ro rfl (dZ U_29 Z_51 (Ht rfl) (Ht rfl) rfl (dY (dU (d:=Qi.zero) hd))) (ro rfl (dJ A_51 Z_51 (Ht rfl)) (rn rfl (eW (Ts:=[Is (.bool false),Is (.slice none 0 0),Is (.bool false),Is (.slice none 0 0),Is (.slice none 0 0)]) O_51 rfl (fun V=>aW zd (aW zd (aW zd (aW zd (aW zd (aG))))))) fun B5=>(ra rfl ?_))))))))))
  refine gQ Z_51 (Ht rfl) (Ht rfl) rfl (i:=4) rfl (aK rfl) rfl rfl (eX (fZ (m:=7) (dp 3 rfl (cX (Ht rfl)) (dp 4 rfl (cX (Ht rfl)) (cL 23 0 24 1 rfl (fY U_30 Z_29 (Ht rfl) (Ht rfl) rfl zo (by rw [Nat.mul_one,Nat.zero_add])) ?_)))))
  refine dq 25 2 rfl (iF A_29 Z_29 (Ht rfl) (j:=2) rfl) (dp 4 rfl (cX (Ht rfl)) (dp 5 rfl (eJ A_51 Z_51 (Ht rfl) (i:=4) rfl rfl rfl) (dq 28 5 rfl (cZ K_98 Ml ⟨(Ht rfl),trivial⟩) (fV aT rfl (by kernel_rfl) (zF (aJ (aJ (aJ (aV (ro rfl (cH U_29 Z_51 (Ht rfl) (Ht rfl) rfl (i:=3) rfl (by simp only [List.length_map,aC]; omega) rfl) ?_))))))))))
  refine jB Z_51 (Ht rfl) (Ht rfl) (El.ag rfl) (i:=3) rfl rfl (by simp only [List.length_map,aC]; omega) rfl ?_
  refine eX (aS (eR 2 3 rfl rfl (by decide) (by simp only [bN,List.length_map,dC]; omega) ?_))
  refine cY (ro rfl (dV (Ht rfl) (cJ 1) z6) (rm rfl (eX (cA [0,1,2] rfl (by decide) (fU (i + 1) hd zo (zS rfl) (aU (fun _ _ _ h=>h) (aU (fun _ _ _ h=>h) (aU (bI (by rw [← iQ (f:=(fun i=>(tab z.length fun _=>Qi.zero).set i (gv z i))),← fH,← fO])) aY))))))))
 ·simp only [decide_eq_false_iff_not] at hd
  obtain rfl:i = z.length:=Nat.le_antisymm hi zo
  rw [iP]
  refine gV rfl (ts (ro rfl (eJ A_32 Z_32 (Ht rfl) (i:=1) rfl rfl rfl) (ro rfl (cZ Tryz.call93 (Ms hsh hl) ⟨(Ht rfl),trivial⟩) (rm rfl (a2A Tryz.call99 (Vy (p:=s) (c:=iY z) (n:=z.length) (m:=z.length) (L:=L) hsh hD hs hDf hL1 zo hl1 hl1 hl hl) (j:=2) (tt:=34) rfl rfl (kJ (s:=5) (M:=iY z) hD.1.symm) a3I (fun _=>inferInstance) (fun _ B hB=>by simp only [List.mem_singleton] at hB; subst hB; exact Zs) ⟨(Ht rfl),(Ht rfl),trivial⟩ rfl (fun B35 _=>(ra rfl (eX (cK (cK (gJ (i:=3) (tt:=6) rfl rfl (kJ (s:=5) (M:=mI s (iY z)) (hX.1.trans hsl).symm) ?_)))))))))))
  refine cY (rm rfl (ro rfl (dG U_30 (Ht rfl) aA) (ro rfl (cX (cJ 0)) (eX (eG (cA [0,2] rfl (by decide) ?_))))))
  refine bO (fun (i : Nat) => i ≤ z.length) (fun (i : Nat) => z.length - i) (fun (i : Nat) => [(3, Is (.slice (some ⟨B14, 0, none⟩) z.length z.length)), (36, cM (mI s (iY z))), (37, NT .i64 z.length), (38, NT .i64 i)]) (fun (i : Nat) => [Z, kE eL B14 29 51 5 (bN aR (kQ (fun i => tab z.length fun j => gm (iY z) i j - gm (mI s (iY z)) i j) (fun i => tab z.length fun j => gm (iY z) i j) z.length i))]) 0 (Nat.zero_le _)
   (aQ rfl (aQ rfl (aZ rfl (lT (hX.1.trans hsl)) (zS rfl)))) (aU (fun _ _ _ h=>h) (aU (bI (by rw [← jZ]; exact congrArg _ (uI hD))) aY)) (fun i hi=>?_)
  refine ts (ro rfl (gX (Ht rfl) (Ht rfl)) (eX (cK (dQ (Ht rfl) (fun he=>?_) (fun he=>?_)))))
  ·simp only [decide_eq_true_eq] at he
   have hxr:=hX.row (i:=i) zo
   refine jV 1 (i) rfl (oT he) (fun v hv=>(cU (cK (eG (ts (rm rfl (ro rfl (dZ U_30 Z_29 (Ht rfl) (Ht rfl) rfl (dY (dU (d:=[]) (by rw [hX.1]; omega)))) ?_)))))))
   refine ro rfl (dJ A_29 Z_29 (Ht rfl)) (ra rfl (ra rfl (eX (ts (rm rfl (ro rfl (dG U_29 (Ht rfl) aA) (ro rfl (cX (cJ 0)) (eX (eG ?_)))))))))
   refine bO (fun (j : Nat) => j ≤ z.length) (fun (j : Nat) => z.length - j) (fun (j : Nat) => [(3, Is (.slice (some ⟨B14, 0, none⟩) z.length z.length)), (7, NT .i64 i), (8, cD ((mI s (iY z)).getD i [])), (36, cM (mI s (iY z))), (37, NT .i64 z.length), (38, NT .i64 i), (44, NT .i64 z.length), (45, NT .i64 j)]) (fun (j : Nat) => [Z, pO eL B14 29 51 5 (bN aR (kQ (fun i => tab z.length fun j => gm (iY z) i j - gm (mI s (iY z)) i j) (fun i => tab z.length fun j => gm (iY z) i j) z.length i)) i v, bH 51 5 v ((kQ (fun j => gm (iY z) i j - gm (mI s (iY z)) i j) (fun j => gm (iY z) i j) z.length j).map aR)]) 0 (Nat.zero_le _)
    (aQ rfl (aQ rfl (aQ rfl (aQ rfl (aQ rfl (aQ rfl (aZ rfl (lT (hxr.trans hsl)) (zS rfl)))))))) (aU (fun _ _ _ h=>h) (aU (fun _ _ _ h=>h) (aU (aD (by rw [← jZ])) aY))) (fun j hj=>?_)
   refine ts (ro rfl (gX (Ht rfl) (Ht rfl)) (eX (cK (dQ (Ht rfl) (fun hf=>?_) (fun hf=>?_)))))
   ·simp only [decide_eq_true_eq] at hf
    have hrl:=jL (fun j=>gm (iY z) i j - gm (mI s (iY z)) i j) (fun j=>gm (iY z) i j) z.length j
    haveI f1:aO (gm (iY z) i j) L:=hDf.get hL1 i j
    haveI f2:aO (gm (mI s (iY z)) i j) (200 * L + 300):=hXf.get zo i j
    refine cU (cK (eG (ts (rm rfl (ra rfl (eX (fZ (m:=18) (dp 3 rfl (cX (Ht rfl)) (dp 7 rfl (cX (Ht rfl)) (cL 48 0 49 1 rfl (fY U_30 Z_29 (Ht rfl) (Ht rfl) rfl zo (by rw [Nat.mul_one,Nat.zero_add])) ?_))))))))))
    refine dq 50 2 rfl (iF A_29 Z_29 (Ht rfl) (j:=1) rfl) (dp 9 rfl (cX (Ht rfl)) (dp 3 rfl (cX (Ht rfl)) (dp 7 rfl (cX (Ht rfl)) (cL 53 5 54 6 rfl (fY U_30 Z_29 (Ht rfl) (Ht rfl) rfl zo (by rw [Nat.mul_one,Nat.zero_add])) ?_))))
    refine dq 55 7 rfl (iF A_29 Z_29 (Ht rfl) (j:=1) rfl) (dp 9 rfl (cX (Ht rfl)) (cL 56 8 57 9 rfl (cH U_29 Z_51 (Ht rfl) (Ht rfl) rfl (i:=2) rfl (by simp only [List.length_map,hrl]; omega) rfl) ?_))
    refine dq 58 10 rfl (nN A_51 Z_51 (Ht rfl) (i:=2) rfl rfl (dY (rD hf))) (dq 59 11 rfl (cR eD (Ht rfl)) (dp 8 rfl (cX (Ht rfl)) (dp 9 rfl (cX (Ht rfl)) (cL 61 13 62 14 rfl (dZ U_29 Z_51 (Ht rfl) (Ht rfl) rfl (dY (dU (d:=Qi.zero) (by rw [hxr]; omega)))) ?_))))
    refine dq 63 15 rfl (dJ A_51 Z_51 (Ht rfl)) (cL 60 12 64 16 rfl (cI lH K_44 (Bq zo) (Ht rfl) ⟨(Ht rfl),trivial⟩) (fV aT rfl (by kernel_rfl) (zF (zF (zF (zF (aJ (aJ (aV (ro rfl (cH U_29 Z_51 (Ht rfl) (Ht rfl) rfl (i:=2) rfl (by simp only [List.length_map,hrl]; omega) rfl) ?_))))))))))
    refine jB Z_51 (Ht rfl) (Ht rfl) (El.ag rfl) (i:=2) rfl rfl (by simp only [List.length_map,hrl]; omega) rfl ?_
    refine eX (aS (cY (ro rfl (dV (Ht rfl) (cJ 1) z6) (rm rfl (eX (fU (j + 1) hf zo (zS rfl) (aU (fun _ _ _ h=>h) (aU (fun _ _ _ h=>h) (aU (aD (by rw [fO,← lJ (f:=fun j=>gm (iY z) i j - gm (mI s (iY z)) i j)])) aY)))))))))
   ·simp only [decide_eq_false_iff_not] at hf
    obtain rfl:j = z.length:=Nat.le_antisymm hj zo
    refine gV rfl (aS (eR 1 2 rfl rfl (by decide) (by simp only [bN,List.length_map,jL]; omega) ?_))
    refine cY (ro rfl (dV (Ht rfl) (cJ 1) z6) (rm rfl (eX (cA [0,1] rfl (by decide) (fU (i + 1) he zo (zS rfl) (aU (fun _ _ _ h=>h) (aU (bI (by rw [fH,lI,← lJ (f:=(fun i=>tab z.length fun j=>gm (iY z) i j - gm (mI s (iY z)) i j))])) aY)))))))
  ·simp only [decide_eq_false_iff_not] at he
   obtain rfl:i = z.length:=Nat.le_antisymm hi zo
   refine gV rfl (ts (rm rfl (ra rfl (eX ?_))))
   exact jP B14 trivial [0,1] ⟨⟨_,rfl,fun _ _ _ h=>h⟩,⟨_,rfl,(bI (by rw [lI]; rfl))⟩,trivial⟩ (by decide) (tK rfl (eU rfl))
theorem a4o {z:List Qi} {s:List (List Qi)} {t:Qi} {L:Nat} (hz:dA z L) (hs:bP s L) (ht:aO t L) (hL1:1 ≤ L) (hL:L ≤ 1000000) (hsh:dT s z.length z.length) (hl1:1 ≤ z.length) (hl:z.length ≤ 8):bE Tryz.prog 57 [lY z s,aR t] (gC [jC (dL (vY t) z) (dL (vY t) s) (dL (vY t) (Zp t (rE z s) z.length)),aP .i64 (vY t)]):=by
 haveI:=ht
 have hOs:=Za z s
 have hOf:=Kr hz hs hL1 hl
 refine bE.intro Tryz.func57 rfl Tryz.ntmps57 rfl (fun cx=>(ts (rn rfl (fG (Ht rfl)) fun B2=>(rn rfl (fG (Ht rfl)) fun B3=>(rn rfl (eW (Ts:=[Is (.slice none 0 0),Is (.slice none 0 0),Is (.slice none 0 0)]) O_34 rfl (fun V=>aW zd (aW zd (aW zd (aG))))) fun B4=>(ro rfl (cQ (cJ 0)) (eX (cK (ts (ro rfl (eJ A_51 Z_51 (Ht rfl) (i:=1) rfl rfl rfl) (ro rfl (cZ Tryz.call159 (a39 zo) ⟨(Ht rfl),trivial⟩) (ro rfl (gB (Ht rfl)) ?_))))))))))))
 refine eX (dQ (Ht rfl) (fun hb=>?_) (fun hb=>?_))
 ·have he : vY t ≠ 0 := by simp only [Bool.not_eq_true'] at hb; rw [vY, hb]; decide
  have he1:vY t = 1:=by simp only [Bool.not_eq_true'] at hb; rw [vY,hb]; rfl
  refine ts (ro rfl (aL.imp (Gg ) yS) (gQ Z_34 (Ht rfl) (Ht rfl) rfl (i:=2) rfl (aK rfl) rfl rfl (ro rfl (cQ (cJ 1)) (eX (bM rfl (fX (fK A_34 Z_34 rfl (i:=2) rfl rfl) ?_) (fX (eU rfl) ?_))))))
  ·exact (a1K he)
  ·exact (aM he1.symm)
 ·have he : vY t = 0 := by simp only [Bool.not_eq_false'] at hb; rw [vY, hb]; rfl
  refine cU (ts (ro rfl (eJ A_32 Z_32 (Ht rfl) (i:=0) rfl rfl rfl) (jU Tryz.call160 (Wo hz hs hL1 hL hsh hl1 hl) ⟨(Ht rfl),trivial⟩ rfl (fun B15 _=>(ra rfl (eX (cK (ts (rm rfl (ro rfl (iI U_30 (Ht rfl)) (ro rfl (cX (cJ 0)) (eX (eG ?_)))))))))))))
  refine bO (fun (i : Nat) => i ≤ z.length) (fun (i : Nat) => z.length - i) (fun (i : Nat) => [(2, bR B2 0), (3, bR B3 0), (4, bR B4 0), (6, Is (.slice (some ⟨B15, 0, none⟩) z.length z.length)), (16, Is (.slice (some ⟨B15, 0, none⟩) z.length z.length)), (17, NT .i64 z.length), (18, NT .i64 i)]) (fun (i : Nat) => [box B2 32 [cD z, cM s], box B3 51 [aE (decide (t.a < 0)), aI t.a.natAbs, aE (decide (t.b < 0)), aI t.b.natAbs, aI (du t)], box B4 34 [Is (.slice none 0 0), Is (.slice none 0 0), Is (.slice none 0 0)], kE eL B15 29 51 5 (bN aR (kQ (fun i => tab z.length fun j => t * gm (rE z s) i j) (fun i => tab z.length fun j => gm (rE z s) i j) z.length i))]) 0 (Nat.zero_le _)
   (zS rfl) (aU (fun _ _ _ h=>h) (aU (fun _ _ _ h=>h) (aU (fun _ _ _ h=>h) (aU (bI (by rw [← jZ]; exact congrArg _ (uI hOs))) aY)))) (fun i hi=>?_)
  refine ts (ro rfl (gX (Ht rfl) (Ht rfl)) (eX (cK (dQ (Ht rfl) (fun he2=>?_) (fun he2=>?_)))))
  ·simp only [decide_eq_true_eq] at he2
   refine jV 3 (i) rfl (oT he2) (fun v hv=>(cU (cK (eG (ts (ro rfl (fY U_30 Z_29 (Ht rfl) (Ht rfl) rfl zo (by rw [Nat.mul_one,Nat.zero_add])) ?_))))))
   refine ro rfl (iF A_29 Z_29 (Ht rfl) (j:=3) rfl) (ra rfl (eX (ts (rm rfl (ro rfl (oO U_29 (Ht rfl) (i:=4) rfl (show (((tab z.length fun j=>gm (rE z s) i j).map aR).length:Int) = ((z.length:Nat):Int) by rw [List.length_map,aC])) (ro rfl (cX (cJ 0)) (eX (eG ?_))))))))
   refine bO (fun (j : Nat) => j ≤ z.length) (fun (j : Nat) => z.length - j) (fun (j : Nat) => [(2, bR B2 0), (3, bR B3 0), (4, bR B4 0), (6, Is (.slice (some ⟨B15, 0, none⟩) z.length z.length)), (8, Is v), (16, Is (.slice (some ⟨B15, 0, none⟩) z.length z.length)), (17, NT .i64 z.length), (18, NT .i64 i), (23, NT .i64 z.length), (24, NT .i64 j)]) (fun (j : Nat) => [box B2 32 [cD z, cM s], box B3 51 [aE (decide (t.a < 0)), aI t.a.natAbs, aE (decide (t.b < 0)), aI t.b.natAbs, aI (du t)], box B4 34 [Is (.slice none 0 0), Is (.slice none 0 0), Is (.slice none 0 0)], pO eL B15 29 51 5 (bN aR (kQ (fun i => tab z.length fun j => t * gm (rE z s) i j) (fun i => tab z.length fun j => gm (rE z s) i j) z.length i)) i v, bH 51 5 v ((kQ (fun j => t * gm (rE z s) i j) (fun j => gm (rE z s) i j) z.length j).map aR)]) 0 (Nat.zero_le _)
    (zS rfl) (aU (fun _ _ _ h=>h) (aU (fun _ _ _ h=>h) (aU (fun _ _ _ h=>h) (aU (fun _ _ _ h=>h) (aU (aD (by rw [← jZ])) aY))))) (fun j hj=>?_)
   refine ts (ro rfl (gX (Ht rfl) (Ht rfl)) (eX (cK (dQ (Ht rfl) (fun hf=>?_) (fun hf=>?_)))))
   ·simp only [decide_eq_true_eq] at hf
    have hrl:=jL (fun j=>t * gm (rE z s) i j) (fun j=>gm (rE z s) i j) z.length j
    haveI f1:aO (gm (rE z s) i j) (201 * L + 301):=hOf.get zo i j
    refine cU (cK (eG (ts (rm rfl (ra rfl (eX (fZ (m:=10) (dp 8 rfl (cX (Ht rfl)) (dp 9 rfl (cX (Ht rfl)) (dp 3 rfl (eJ A_51 Z_51 (Ht rfl) (i:=1) rfl rfl rfl) (dq 29 2 rfl (cZ K_98 Ml ⟨(Ht rfl),trivial⟩) (dq 30 3 rfl (cR eD (Ht rfl)) (dp 8 rfl (cX (Ht rfl)) (dp 9 rfl (cX (Ht rfl)) (cL 32 5 33 6 rfl (cH U_29 Z_51 (Ht rfl) (Ht rfl) rfl (i:=4) rfl (by simp only [List.length_map,hrl]; omega) rfl) ?_)))))))))))))))
    refine dq 34 7 rfl (nN A_51 Z_51 (Ht rfl) (i:=4) rfl rfl (dY (rD hf))) (cL 31 4 35 8 rfl (cI gO K_45 (pV zo) (Ht rfl) ⟨(Ht rfl),trivial⟩) (fV aT rfl (by kernel_rfl) (zF (zF (aJ (aJ (aV (ro rfl (cH U_29 Z_51 (Ht rfl) (Ht rfl) rfl (i:=4) rfl (by simp only [List.length_map,hrl]; omega) rfl) ?_))))))))
    refine jB Z_51 (Ht rfl) (Ht rfl) (El.ag rfl) (i:=4) rfl rfl (by simp only [List.length_map,hrl]; omega) rfl ?_
    refine eX (aS (cY (ro rfl (dV (Ht rfl) (cJ 1) z6) (rm rfl (eX (fU (j + 1) hf zo (zS rfl) (aU (fun _ _ _ h=>h) (aU (fun _ _ _ h=>h) (aU (fun _ _ _ h=>h) (aU (fun _ _ _ h=>h) (aU (aD (by rw [fO,← lJ (f:=fun j=>t * gm (rE z s) i j)])) aY)))))))))))
   ·simp only [decide_eq_false_iff_not] at hf
    obtain rfl:j = z.length:=Nat.le_antisymm hj zo
    refine gV rfl (aS (eR 3 4 rfl rfl (by decide) (by simp only [bN,List.length_map,jL]; omega) ?_))
    refine cY (ro rfl (dV (Ht rfl) (cJ 1) z6) (rm rfl (eX (cA [0,1,2,3] rfl (by decide) (fU (i + 1) he2 zo (zS rfl) (aU (fun _ _ _ h=>h) (aU (fun _ _ _ h=>h) (aU (fun _ _ _ h=>h) (aU (bI (by rw [fH,lI,← lJ (f:=(fun i=>tab z.length fun j=>t * gm (rE z s) i j))])) aY)))))))))
  ·simp only [decide_eq_false_iff_not] at he2
   obtain rfl:i = z.length:=Nat.le_antisymm hi zo
   rw [lI]
   refine gV rfl (cK (gJ (i:=3) (tt:=6) rfl rfl (kJ (s:=5) (M:=(Zp t (rE z s) z.length)) Le.1.symm) (cY (ro rfl (eJ A_32 Z_32 (Ht rfl) (i:=0) rfl rfl rfl) (rm rfl (ro rfl (Bn (Ht rfl) (Ht rfl)) (gQ Z_34 (Ht rfl) (Ht rfl) rfl (i:=2) rfl (aK rfl) rfl rfl (ro rfl (cQ (cJ 0)) (eX (bM rfl (fX (fK A_34 Z_34 rfl (i:=2) rfl rfl) ?_) (fX (eU rfl) ?_)))))))))))
   ·exact (Zb he)
   ·exact (aM he.symm)
end
section
open Go Go.RowKit
theorem Ip {n : Nat} {E : dE} {H : Hp} {d : Option Tmp} {t : TypeId} {pos : String} {af : Array Edge} {g : Option (Nat × Bool)}  :
  aL Tryz.prog n E H ⟨d,.build 102 #[],t,pos,af,g⟩ (eP [Is (.int .i64 0),Is (.int .i64 0),Is (.int .i64 0)]) :=
 fS (parts := []) fun a V w hs => by
  refine ⟨.agg #[(.int .i64 0),(.int .i64 0),(.int .i64 0)],?_,[(.int .i64 0),(.int .i64 0),(.int .i64 0)],rfl,aW (⟨rfl,trivial⟩) (aW (⟨rfl,trivial⟩) (aW (⟨rfl,trivial⟩) (aG)))⟩
  simp [Instr.build,Instr.fill,Sem.run_bind,Result.andThen,eS,O_102,U_102,Z_2]
theorem Eo {n : Nat} {E : dE} {H : Hp} {d : Option Tmp} {t : TypeId} {pos : String} {af : Array Edge} {g : Option (Nat × Bool)} {x0 : Operand} {T0 : Ty} [s0 : dR T0 1 false] (h0 : bF E x0 T0) :
  aL Tryz.prog n E H ⟨d,.build 102 #[(0,x0)],t,pos,af,g⟩ (eP [T0,Is (.int .i64 0),Is (.int .i64 0)]) :=
 fS (parts := [(0, x0)]) fun a V w hs => by
  have p0:=h0 n V a hs
  generalize e0:a.eval x0 = v0 at p0
  have q0:=(s0.ok v0 V p0).2.2 rfl
  refine ⟨.agg #[v0,(.int .i64 0),(.int .i64 0)],?_,[v0,(.int .i64 0),(.int .i64 0)],rfl,aW (⟨p0,q0⟩) (aW (⟨rfl,trivial⟩) (aW (⟨rfl,trivial⟩) (aG)))⟩
  simp [e0,Instr.build,Instr.fill,Sem.run_bind,Result.andThen,eS,q0.cells,O_102,U_102,Z_2]
theorem Iq {n : Nat} {E : dE} {H : Hp} {d : Option Tmp} {t : TypeId} {pos : String} {af : Array Edge} {g : Option (Nat × Bool)} {x0 x2 : Operand} {T0 T2 : Ty} [s0 : dR T0 1 false] (h0 : bF E x0 T0) [s2 : dR T2 1 false] (h2 : bF E x2 T2) :
  aL Tryz.prog n E H ⟨d,.build 102 #[(0,x0),(2,x2)],t,pos,af,g⟩ (eP [T0,Is (.int .i64 0),T2]) :=
 fS (parts := [(0, x0), (2, x2)]) fun a V w hs => by
  have p0:=h0 n V a hs
  generalize e0:a.eval x0 = v0 at p0
  have q0:=(s0.ok v0 V p0).2.2 rfl
  have p2:=h2 n V a hs
  generalize e2:a.eval x2 = v2 at p2
  have q2:=(s2.ok v2 V p2).2.2 rfl
  refine ⟨.agg #[v0,(.int .i64 0),v2],?_,[v0,(.int .i64 0),v2],rfl,aW (⟨p0,q0⟩) (aW (⟨rfl,trivial⟩) (aW (⟨p2,q2⟩) (aG)))⟩
  simp [e0,e2,Instr.build,Instr.fill,Sem.run_bind,Result.andThen,eS,q0.cells,q2.cells,O_102,U_102,Z_2]
end
section
open Go Go.RowKit
theorem Pb  : bE Tryz.prog 16 [] (aE true):=by
 refine bE.intro Tryz.func16 rfl Tryz.ntmps16 rfl (fun cx=>(ts (ro rfl (cQ cV) (eX (ts (ro rfl (Iq cV cV) (rn rfl (eW (Ts:=[Is (.int .i64 0),Is (.int .i64 0),Is (.int .i64 0)]) O_102 rfl (fun V=>aW zd (aW zd (aW zd (aG))))) fun B1=>(gQ Z_102 (Ht rfl) (Ht rfl) rfl (i:=0) rfl (aK rfl) rfl rfl (eX (cK (Y.D_start (m:=18) [] (bY (Ei:=[]) rfl rfl bX rfl rfl (dX rfl (Eo cV)) (bY (Ei:=[]) rfl rfl bX rfl rfl (dX rfl (Eo cV)) ?_)))))))))))))
 refine bY (Ei:=[(12,_),(13,_)]) rfl rfl (bQ (bZ 0 rfl rfl) (bQ (bZ 1 rfl rfl) bX)) rfl rfl (dX rfl (bT (xs:=[.tmp 12,.tmp 13]) U_22 Z_102 O_102 (cW (Ht rfl) (cW (Ht rfl) cG)) rfl rfl rfl)) (bY (Ei:=[(14,_)]) rfl rfl (bQ (bZ 2 rfl rfl) bX) rfl rfl (dX rfl (cZ Tryz.call48 (xZ (l:=[r50,r50]) (by decide)) ⟨(Ht rfl),trivial⟩)) (bY (Ei:=[]) rfl rfl bX rfl rfl (dX rfl (Ip )) (bY (Ei:=[(1,_)]) rfl rfl (bQ (bJ rfl rfl) bX) rfl rfl (dX rfl (eJ A_102 Z_102 (Ht rfl) (i:=0) rfl rfl rfl)) ?_)))
 refine bY (Ei:=[(16,_),(17,_)]) rfl rfl (bQ (bZ 4 rfl rfl) (bQ (bZ 5 rfl rfl) bX)) rfl rfl (dX rfl (bT (xs:=[.tmp 16,.tmp 17]) U_22 Z_102 O_102 (cW (Ht rfl) (cW (Ht rfl) cG)) rfl rfl rfl)) (bY (Ei:=[(1,_)]) rfl rfl (bQ (bJ rfl rfl) bX) rfl rfl (dX rfl (eJ A_102 Z_102 (Ht rfl) (i:=0) rfl rfl rfl)) (bY (Ei:=[]) rfl rfl bX rfl rfl (dX rfl (Ip )) (bY (Ei:=[(19,_),(20,_)]) rfl rfl (bQ (bZ 7 rfl rfl) (bQ (bZ 8 rfl rfl) bX)) rfl rfl (dX rfl (bT (xs:=[.tmp 19,.tmp 20]) U_22 Z_102 O_102 (cW (Ht rfl) (cW (Ht rfl) cG)) rfl rfl rfl)) ?_)))
 refine bY (Ei:=[(18,_),(21,_)]) rfl rfl (bQ (bZ 6 rfl rfl) (bQ (bZ 9 rfl rfl) bX)) rfl rfl (dX rfl (bT (xs:=[.tmp 18,.tmp 21]) U_23 Z_22 Tryz.zeroValue22 (cW (Ht rfl) (cW (Ht rfl) cG)) rfl rfl rfl)) (bY (Ei:=[(22,_)]) rfl rfl (bQ (bZ 10 rfl rfl) bX) rfl rfl (dX rfl (cZ Tryz.call86 (yA (m:=[[a1O,Rm],[Rm,a1O]]) (by decide) (by intro r hr; simp at hr; rcases hr with rfl | rfl <;> decide)) ⟨(Ht rfl),trivial⟩)) ?_)
 refine bY (Ei:=[(15,_),(23,_)]) rfl rfl (bQ (bZ 3 rfl rfl) (bQ (bZ 11 rfl rfl) bX)) rfl rfl (dX rfl (cZ Tryz.call85 (eQ (Ix (z:=xY) (s:=Di) (L:=2) Oq (by decide) (by decide) (by decide)) a2O) ⟨(Ht rfl),(Ht rfl),trivial⟩)) (bY (Ei:=[(24,_)]) rfl rfl (bQ (bZ 12 rfl rfl) bX) rfl rfl (dX rfl (cX (Ht rfl))) (bY (Ei:=[(11,_)]) rfl rfl (bQ (bZ 13 rfl rfl) bX) rfl rfl (dX rfl (dK (Ht rfl) rfl)) (bY (Ei:=[(11,_)]) rfl rfl (bQ (bZ 13 rfl rfl) bX) rfl rfl (dX rfl (dK (Ht rfl) rfl)) ?_)))
 refine Y.D_newp (Ei:=[]) (fun bb=>box bb 32 [cD xY,cM Di]) 17 rfl rfl rfl bX rfl rfl (by kernel_rfl) (eW (Ts:=[Is (.slice none 0 0),Is (.slice none 0 0)]) O_32 rfl (fun V=>aW zd (aW zd (aG)))) (Y.D_putN (Ei:=[(25,_)]) 16 rfl rfl rfl rfl rfl rfl (bQ (bZ 14 rfl rfl) bX) (fun bb=>sF Z_32 (Ht rfl) (Ht rfl) rfl (i:=0) rfl (aK rfl) rfl rfl) (Y.D_done aT rfl (by kernel_rfl) rfl (by simp [Y.okP]) rfl rfl (bU (bU (bU (bU (bU (bU (bU (bU (bU (bU (bU (bU (bU (bU (bU (bU (Y.F_newp (fun B2=>Y.F_putN (Y.F_nil ?_)))))))))))))))))))))
 refine ra rfl (eX (cK (Y.D_start (m:=8) [] (bY (Ei:=[(2,_)]) rfl rfl (bQ (bJ rfl rfl) bX) rfl rfl (dX rfl (eJ A_32 Z_32 (Ht rfl) (i:=1) rfl rfl rfl)) (bY (Ei:=[]) rfl rfl bX rfl rfl (dX rfl (cZ K_77 (sH (n:=290) (by decide) (by decide)) ⟨(cJ 290),trivial⟩)) (bY (Ei:=[(28,_),(29,_)]) rfl rfl (bQ (bZ 0 rfl rfl) (bQ (bZ 1 rfl rfl) bX)) rfl rfl (dX rfl (cZ Tryz.call57 (eQ (a4o (z:=xY) (s:=Di) (t:=Qi.ofInt 290) (L:=2) Oq Vm Vn (by decide) (by decide) Vo (by decide) (by decide)) a2P) ⟨(Ht rfl),(Ht rfl),trivial⟩)) ?_))))))
 refine bY (Ei:=[(30,_)]) rfl rfl (bQ (bZ 2 rfl rfl) bX) rfl rfl (dX rfl (cX (Ht rfl))) (bY (Ei:=[(27,_)]) rfl rfl (bQ (bZ 3 rfl rfl) bX) rfl rfl (dX rfl (dK (Ht rfl) rfl)) (bY (Ei:=[(27,_)]) rfl rfl (bQ (bZ 3 rfl rfl) bX) rfl rfl (dX rfl (dK (Ht rfl) rfl)) (Y.D_newp (Ei:=[]) (fun bb=>box bb 34 [cD xY,cM Di,cM En]) 7 rfl rfl rfl bX rfl rfl (by kernel_rfl) (eW (Ts:=[Is (.slice none 0 0),Is (.slice none 0 0),Is (.slice none 0 0)]) O_34 rfl (fun V=>aW zd (aW zd (aW zd (aG))))) ?_)))
 refine Y.D_putN (Ei:=[(31,_)]) 6 rfl rfl rfl rfl rfl rfl (bQ (bZ 4 rfl rfl) bX) (fun bb=>sF Z_34 (Ht rfl) (Ht rfl) rfl (i:=0) rfl (aK rfl) rfl rfl) (Y.D_done aT rfl (by kernel_rfl) rfl (by simp [Y.okP]) rfl rfl (bU (bU (bU (bU (bU (bU (Y.F_newp (fun B4=>Y.F_putN (Y.F_nil ?_))))))))))
 refine ra rfl (eX (ts (ro rfl (eJ A_34 Z_34 (Ht rfl) (i:=2) rfl rfl rfl) (ro rfl (cZ Tryz.call87 (eQ (Pf (z:=xY) (s:=Di) (c:=En) (i:=((2:Nat):Int)) (j:=((2:Nat):Int)) a2M (by rw [Oo.1]; decide)) a4c) ⟨(Ht rfl),(cJ 2),(cJ 2),trivial⟩) ?_))))
 refine rm rfl (ro rfl (dK (Ht rfl) rfl) (ro rfl (dK (Ht rfl) rfl) (rn rfl (eW (Ts:=[Is (.bool false),Is (.slice none 0 0),Is (.bool false),Is (.slice none 0 0),Is (.slice none 0 0)]) O_51 rfl (fun V=>aW zd (aW zd (aW zd (aW zd (aW zd (aG))))))) fun B6=>(gQ Z_51 (Ht rfl) (Ht rfl) rfl (i:=3) rfl (aK rfl) rfl rfl (ra rfl (eX (cK (Y.D_start (m:=9) [] (bY (Ei:=[(4,_)]) rfl rfl (bQ (bJ rfl rfl) bX) rfl rfl (dX rfl (eJ A_34 Z_34 (Ht rfl) (i:=2) rfl rfl rfl)) ?_)))))))))
 refine bY (Ei:=[]) rfl rfl bX rfl rfl (dX rfl (cZ K_77 (sH (n:=0) (by decide) (by decide)) ⟨(cJ 0),trivial⟩)) (bY (Ei:=[]) rfl rfl bX rfl rfl (dX rfl (cZ K_77 (sH (n:=290) (by decide) (by decide)) ⟨(cJ 290),trivial⟩)) (bY (Ei:=[(39,_),(40,_),(41,_)]) rfl rfl (bQ (bZ 0 rfl rfl) (bQ (bZ 1 rfl rfl) (bQ (bZ 2 rfl rfl) bX))) rfl rfl (dX rfl (cZ Tryz.call88 (eQ (Vw (z:=xY) (s:=Di) (c:=En) (g:=Qi.ofInt 0) (t0:=Qi.ofInt 290) (L:=1000) (Oq.le (by decide)) (Vm.le (by decide)) a4e (a4d.le (by decide)) (Vn.le (by decide)) (by decide) (by decide) Vo Oo (by decide)) a2N) ⟨(Ht rfl),(Ht rfl),(Ht rfl),trivial⟩)) ?_))
 refine bY (Ei:=[(42,_)]) rfl rfl (bQ (bZ 3 rfl rfl) bX) rfl rfl (dX rfl (cX (Ht rfl))) (bY (Ei:=[(38,_)]) rfl rfl (bQ (bZ 4 rfl rfl) bX) rfl rfl (dX rfl (dK (Ht rfl) rfl)) (bY (Ei:=[(38,_)]) rfl rfl (bQ (bZ 4 rfl rfl) bX) rfl rfl (dX rfl (dK (Ht rfl) rfl)) (Y.D_newp (Ei:=[]) (fun bb=>box bb 51 [aE (decide ((Qi.ofInt 4).a < 0)),aI (Qi.ofInt 4).a.natAbs,aE (decide ((Qi.ofInt 4).b < 0)),aI (Qi.ofInt 4).b.natAbs,aI (du (Qi.ofInt 4))]) 8 rfl rfl rfl bX rfl rfl (by kernel_rfl) (eW (Ts:=[Is (.bool false),Is (.slice none 0 0),Is (.bool false),Is (.slice none 0 0),Is (.slice none 0 0)]) O_51 rfl (fun V=>aW zd (aW zd (aW zd (aW zd (aW zd (aG))))))) ?_)))
 refine Y.D_putN (Ei:=[(43,_)]) 7 rfl rfl rfl rfl rfl rfl (bQ (bZ 5 rfl rfl) bX) (fun bb=>sF Z_51 (Ht rfl) (Ht rfl) rfl (i:=0) rfl (aK rfl) rfl rfl) (Y.D_done aT rfl (by kernel_rfl) rfl (by simp [Y.okP]) rfl rfl (bU (bU (bU (bU (bU (bU (bU (Y.F_newp (fun B8=>Y.F_putN (Y.F_nil ?_)))))))))))
 refine ra rfl (eX (ts (rm rfl (ro rfl (jR (Ht rfl) cV) (rm rfl (fQ rfl rfl (eK rfl rfl (Ht rfl) (fun h=>cX (Ht rfl))) (fQ rfl rfl (eK rfl rfl (Ht rfl) (fun h=>jR (fJ rfl h) cV)) (ro rfl (fF (Ht rfl) (fun h=>(fJ rfl h))) (rm rfl (fQ rfl rfl (eK rfl rfl (Ht rfl) (fun h=>cX (Ht rfl))) (fQ rfl rfl (eK rfl rfl (Ht rfl) (fun h=>jR (fJ rfl h) cV)) (ro rfl (fF (Ht rfl) (fun h=>(fJ rfl h))) (rm rfl (fQ rfl rfl (eK rfl rfl (Ht rfl) (fun h=>cX (Ht rfl))) (fQ rfl rfl (eK rfl rfl (Ht rfl) (fun h=>jR (fJ rfl h) cV)) ?_)))))))))))))))
 refine ro rfl (fF (Ht rfl) (fun h=>(fJ rfl h))) (rm rfl (fQ rfl rfl (eK rfl rfl (Ht rfl) (fun h=>eJ A_51 Z_51 (Ht rfl) (i:=3) rfl rfl rfl)) (fQ rfl rfl (eK rfl rfl (Ht rfl) (fun h=>cZ Tryz.call89 (Mj (x:=Qi.ofInt 10875) (L:=2) (hx:=(@fitInt 10875).le (by decide)) (by decide)) ⟨(fJ rfl h),trivial⟩)) (fQ rfl rfl (eK rfl rfl (Ht rfl) (fun h=>Np (fJ rfl h) (bF.cS (l:=[49,48,56,55,53]) rfl))) (ro rfl (fF (Ht rfl) (fun h=>(fJ rfl h))) (rm rfl (fQ rfl rfl (eK rfl rfl (Ht rfl) (fun h=>eJ A_51 Z_51 (Ht rfl) (i:=4) rfl rfl rfl)) ?_)))))))
 refine fQ rfl rfl (eK rfl rfl (Ht rfl) (fun h=>cZ Tryz.call89 (Mj (x:=Qi.ofInt 4) (L:=2) (hx:=(@fitInt 4).le (by decide)) (by decide)) ⟨(fJ rfl h),trivial⟩)) (fQ rfl rfl (eK rfl rfl (Ht rfl) (fun h=>Np (fJ rfl h) (bF.cS (l:=[52]) rfl))) (ro rfl (fF (Ht rfl) (fun h=>(fJ rfl h))) (ra rfl (eX (fW rfl (fX (eU rfl) ?_))))))
 exact (eH (by rw [a4f,a4g]; rfl))
end
section
open Go Go.RowKit
theorem uF (a:Addr) (w:World):(Instr.fieldAt 40 (.pointer (some a)) 0).run Tryz.prog w = .ok (.pointer (some (a.add 0))) w:=by
 simp [Instr.fieldAt,Instr.sureAddr,fieldPlace,Sem.run_bind,Result.andThen,U_40,Z_38]
theorem wO (a:Addr) (w:World):(Instr.fieldAt 40 (.pointer (some a)) 1).run Tryz.prog w = .ok (.pointer (some (a.add 2))) w:=by
 simp [Instr.fieldAt,Instr.sureAddr,fieldPlace,Sem.run_bind,Result.andThen,U_40,Z_36]
end
section
open Go Go.RowKit
theorem a3u {z:List Qi} {i:Nat} (h:i < z.length):∀ v V,(gC [aR (Ur z ((i + 1:Nat):Int)),aP .i64 (if 1 ≤ ((i + 1:Nat):Int) ∧ ((i + 1:Nat):Int) ≤ z.length then 0 else 1)]).p v V → (gC [aR (gv z i),aP .i64 0]).p v V:=by
 rw [show Ur z ((i + 1:Nat):Int) = gv z i from Ns h,if_pos zo]; exact fun _ _ h=>h
theorem a2p {n:Nat} {s:List (List Qi)} {i j:Nat} (h:i < n) (k:j < n):∀ v V,(gC [aR (Tp n s ((i + 1:Nat):Int) ((j + 1:Nat):Int)),aP .i64 (if (1 ≤ ((i + 1:Nat):Int) ∧ ((i + 1:Nat):Int) ≤ n) ∧ 1 ≤ ((j + 1:Nat):Int) ∧ ((j + 1:Nat):Int) ≤ n then 0 else 1)]).p v V → (gC [aR (gm s i j),aP .i64 0]).p v V:=by
 rw [show Tp n s ((i + 1:Nat):Int) ((j + 1:Nat):Int) = gm s i j from Zd h k,if_pos zo]; exact fun _ _ h=>h
theorem a4s {z:List Qi} {s c:List (List Qi)} {L:Nat} (hz:dA z L) (hs:bP s L) (hc:bP c L) (hL1:1 ≤ L) (hL:L ≤ 8796093022208) (hsh:dT s z.length z.length) (hch:dT c z.length z.length) (hl:z.length ≤ 1000):bE Tryz.prog 20 [jC z s c,nT z s c] (aE true):=by
 have hcl:=hch.1
 have hch2:dT c c.length c.length:=by rw [hcl]; exact hch
 refine bE.intro Tryz.func20 rfl Tryz.ntmps20 rfl (fun cx=>(ts (rn rfl (fG (Ht rfl)) fun B2=>(rn rfl (fG (Ht rfl)) fun B3=>(ro rfl (cQ cV) (eX (ts (ro rfl (eJ A_34 Z_34 (Ht rfl) (i:=0) rfl rfl rfl) (ro rfl (cZ Tryz.call51 Wd ⟨(Ht rfl),trivial⟩) (rn rfl (eW (Ts:=[Is (.slice none 0 0),Is (.slice none 0 0)]) O_32 rfl (fun V=>aW zd (aW zd (aG)))) fun B5=>(gQ Z_32 (Ht rfl) (Ht rfl) rfl (i:=2) rfl (aK rfl) rfl rfl (eX ?_))))))))))))
 refine cK (cK (fZ (m:=15) (dp 5 rfl (eJ A_32 Z_32 (Ht rfl) (i:=2) rfl rfl rfl) (dq 16 0 rfl (cZ K_22 tU ⟨(Ht rfl),trivial⟩) (dp 3 rfl (eZ uF (Ht rfl) rfl) (dq 18 2 rfl (eZ kU (Ht rfl) rfl) (dq 19 3 rfl (eY A_35 Z_35 (Ht rfl) (i:=1) rfl rfl) (dq 20 4 rfl (dG U_35 (Ht rfl) aA) (cL 17 1 21 5 rfl (gI (Ht rfl) (Ht rfl)) (dq 22 6 rfl (cX (Ht rfl)) (C.D_step (Ei:=[(3,_),(23,_)]) rfl rfl (bV (bK rfl rfl) (bV (bG 7 rfl rfl) bW)) (eK rfl rfl (Ht rfl) (fun h=>eZ wO (Ht rfl) rfl)) ?_)))))))))))
 refine C.D_step (Ei:=[(24,_),(23,_)]) rfl rfl (bV (bG 8 rfl rfl) (bV (bG 7 rfl rfl) bW)) (eK rfl rfl (Ht rfl) (fun h=>eY A_36 Z_36 (fJ rfl h) (i:=1) rfl rfl)) (C.D_step (Ei:=[(25,_),(23,_)]) rfl rfl (bV (bG 9 rfl rfl) (bV (bG 7 rfl rfl) bW)) (eK rfl rfl (Ht rfl) (fun h=>dG U_36 (fJ rfl h) aA)) (C.D_step (Ei:=[(3,_),(23,_)]) rfl rfl (bV (bK rfl rfl) (bV (bG 7 rfl rfl) bW)) (eK rfl rfl (Ht rfl) (fun h=>eZ uF (Ht rfl) rfl)) ?_))
 refine C.D_step (Ei:=[(27,_),(23,_)]) rfl rfl (bV (bG 11 rfl rfl) (bV (bG 7 rfl rfl) bW)) (eK rfl rfl (Ht rfl) (fun h=>eZ kU (fJ rfl h) rfl)) (C.D_step (Ei:=[(28,_),(23,_)]) rfl rfl (bV (bG 12 rfl rfl) (bV (bG 7 rfl rfl) bW)) (eK rfl rfl (Ht rfl) (fun h=>eY A_35 Z_35 (fJ rfl h) (i:=1) rfl rfl)) (C.D_step (Ei:=[(29,_),(23,_)]) rfl rfl (bV (bG 13 rfl rfl) (bV (bG 7 rfl rfl) bW)) (eK rfl rfl (Ht rfl) (fun h=>dG U_35 (fJ rfl h) aA)) ?_))
 refine fV aT rfl (by kernel_rfl) (zF (zF (zF (aJ (aJ (aJ (aV (fQ rfl rfl (eK rfl rfl (Ht rfl) (fun h=>gI (fJ rfl h) (fJ rfl h))) (ro rfl (iU (Ht rfl) (fun h=>(fJ rfl h))) (eX (jI (Ht rfl) (by simp [hcl]) ?_)))))))))))
 refine cU (cK (ts (ro rfl (eZ wO (Ht rfl) rfl) (ro rfl (eY A_36 Z_36 (Ht rfl) (i:=1) rfl rfl) (ro rfl (dG U_36 (Ht rfl) aA) (ro rfl (cX (cJ 0)) (eX (eG ?_))))))))
 refine bO (fun (i : Nat) => i ≤ z.length) (fun (i : Nat) => z.length - i) (fun (i : Nat) => [(2, bR B2 0), (3, bR B3 0), (5, bR B5 0), (35, NT .i64 z.length), (36, NT .i64 i)]) (fun (i : Nat) => [box B2 34 [cD z, cM s, cM c], box B3 40 [oQ z, QM s, QM c], box B5 32 [cD z, cM s]]) 0 (Nat.zero_le _)
  (aQ rfl (aQ rfl (aQ rfl (aZ rfl (lT hcl) (zS rfl))))) (dB.refl _) (fun i hi=>?_)
 refine ts (ro rfl (gX (Ht rfl) (Ht rfl)) (eX (cK (dQ (Ht rfl) (fun hd=>?_) (fun hd=>?_)))))
 ·simp only [decide_eq_true_eq] at hd
  haveI f1:aO (gv z i) L:=hz.get hL1 i
  refine cU (cK (eG (ts (rm rfl (ra rfl (eX (ts (ro rfl (eJ A_32 Z_32 (Ht rfl) (i:=2) rfl rfl rfl) (rm rfl (ro rfl (dV (Ht rfl) (cJ 1) z6) (ro rfl (cZ Tryz.call23 (eQ (Vx (z:=z) (s:=s) (i:=((i + 1:Nat):Int)) zo) (a3u hd)) ⟨(Ht rfl),(Ht rfl),trivial⟩) (rm rfl (ro rfl (dK (Ht rfl) rfl) (ro rfl (dK (Ht rfl) rfl) (rn rfl (eW (Ts:=[Is (.bool false),Is (.slice none 0 0),Is (.bool false),Is (.slice none 0 0),Is (.slice none 0 0)]) O_51 rfl (fun V=>aW zd (aW zd (aW zd (aW zd (aW zd (aG))))))) fun B7=>?_)))))))))))))))
  refine gQ Z_51 (Ht rfl) (Ht rfl) rfl (i:=3) rfl (aK rfl) rfl rfl (ra rfl (eX (cK (cK (fZ (m:=10) (dp 8 rfl (cX (Ht rfl)) (dq 46 0 rfl (kR (Ht rfl) cV) (dq 47 1 rfl (cX (Ht rfl)) (C.D_step (Ei:=[(7,_),(48,_)]) rfl rfl (bV (bK rfl rfl) (bV (bG 2 rfl rfl) bW)) (eK rfl rfl (Ht rfl) (fun h=>eJ A_51 Z_51 (Ht rfl) (i:=3) rfl rfl rfl)) (C.D_step (Ei:=[(3,_),(48,_)]) rfl rfl (bV (bK rfl rfl) (bV (bG 2 rfl rfl) bW)) (eK rfl rfl (Ht rfl) (fun h=>eZ uF (Ht rfl) rfl)) ?_))))))))))
  refine C.D_step (Ei:=[(50,_),(48,_)]) rfl rfl (bV (bG 4 rfl rfl) (bV (bG 2 rfl rfl) bW)) (eK rfl rfl (Ht rfl) (fun h=>eZ kU (fJ rfl h) rfl)) (C.D_step (Ei:=[(51,_),(48,_)]) rfl rfl (bV (bG 5 rfl rfl) (bV (bG 2 rfl rfl) bW)) (eK rfl rfl (Ht rfl) (fun h=>eY A_35 Z_35 (fJ rfl h) (i:=1) rfl rfl)) (C.D_step (Ei:=[(6,_),(48,_)]) rfl rfl (bV (bK rfl rfl) (bV (bG 2 rfl rfl) bW)) (eK rfl rfl (Ht rfl) (fun h=>cX (Ht rfl))) ?_))
  refine C.D_step (Ei:=[(52,_),(53,_),(48,_)]) rfl rfl (bV (bG 6 rfl rfl) (bV (bG 7 rfl rfl) (bV (bG 2 rfl rfl) bW))) (eK rfl rfl (Ht rfl) (fun h=>dZ U_35 Z_131 (fJ rfl h) (fJ rfl h) rfl (dY (dU (d:=Qi.zero) (by first | omega | (simp at h; omega)))))) (C.D_step (Ei:=[(54,_),(48,_)]) rfl rfl (bV (bG 8 rfl rfl) (bV (bG 2 rfl rfl) bW)) (eK rfl rfl (Ht rfl) (fun h=>dJ A_131 Z_131 (fJ rfl h))) (fV aT rfl (by kernel_rfl) (zF (zF (aJ (aJ (aV ?_)))))))
  refine fQ rfl rfl (eK rfl rfl (Ht rfl) (fun h=>cZ Tryz.call80 (Gl (x:=gv z i) (y:=gv z i) (L:=L) (M:=L) hL hL) ⟨(fJ rfl h),(fJ rfl h),trivial⟩)) (fQ rfl rfl (eK rfl rfl (Ht rfl) (fun h=>gB (fJ rfl h))) (ro rfl (iU (Ht rfl) (fun h=>(fJ rfl h))) (eX (jI (Ht rfl) (by simp) ?_))))
  refine cU (ts (ro rfl (eZ wO (Ht rfl) rfl) (ro rfl (eY A_36 Z_36 (Ht rfl) (i:=1) rfl rfl) (ro rfl (dG U_36 (Ht rfl) aA) (ro rfl (cX (cJ 0)) (eX (eG (cA [0,1,2] rfl (by decide) ?_))))))))
  refine bO (fun (j : Nat) => j ≤ z.length) (fun (j : Nat) => z.length - j) (fun (j : Nat) => [(2, bR B2 0), (3, bR B3 0), (5, bR B5 0), (6, NT .i64 i), (35, NT .i64 z.length), (36, NT .i64 i), (61, NT .i64 z.length), (62, NT .i64 j)]) (fun (j : Nat) => [box B2 34 [cD z, cM s, cM c], box B3 40 [oQ z, QM s, QM c], box B5 32 [cD z, cM s]]) 0 (Nat.zero_le _)
   (aQ rfl (aQ rfl (aQ rfl (aQ rfl (aQ rfl (aQ rfl (aZ rfl (lT hcl) (zS rfl)))))))) (dB.refl _) (fun j hj=>?_)
  refine ts (ro rfl (gX (Ht rfl) (Ht rfl)) (eX (cK (dQ (Ht rfl) (fun hf=>?_) (fun hf=>?_)))))
  ·simp only [decide_eq_true_eq] at hf
   haveI f2:aO (gm s i j) L:=hs.get hL1 i j
   haveI f3:aO (gm c i j) L:=hc.get hL1 i j
   have hsr:=hsh.row hd
   have hcr:=hch.row hd
   have hs1:=hsh.1
   refine cU (cK (eG (ts (rm rfl (ra rfl (eX (ts (ro rfl (eJ A_32 Z_32 (Ht rfl) (i:=2) rfl rfl rfl) (rm rfl (ro rfl (dV (Ht rfl) (cJ 1) z6) (rm rfl (ro rfl (dV (Ht rfl) (cJ 1) z6) (ro rfl (cZ Tryz.call25 (eQ (a4k (z:=z) (s:=s) (i:=((i + 1:Nat):Int)) (j:=((j + 1:Nat):Int)) hsh zo) (a2p hd hf)) ⟨(Ht rfl),(Ht rfl),(Ht rfl),trivial⟩) (rm rfl (ro rfl (dK (Ht rfl) rfl) ?_)))))))))))))))
   refine ro rfl (dK (Ht rfl) rfl) (rn rfl (eW (Ts:=[Is (.bool false),Is (.slice none 0 0),Is (.bool false),Is (.slice none 0 0),Is (.slice none 0 0)]) O_51 rfl (fun V=>aW zd (aW zd (aW zd (aW zd (aW zd (aG))))))) fun B10=>(gQ Z_51 (Ht rfl) (Ht rfl) rfl (i:=3) rfl (aK rfl) rfl rfl (ra rfl (eX (ts (ro rfl (eJ A_34 Z_34 (Ht rfl) (i:=0) rfl rfl rfl) (rm rfl (ro rfl (dV (Ht rfl) (cJ 1) z6) ?_))))))))
   refine rm rfl (ro rfl (dV (Ht rfl) (cJ 1) z6) (ro rfl (cZ Tryz.call87 (eQ (Pf (z:=z) (s:=s) (c:=c) (i:=((i + 1:Nat):Int)) (j:=((j + 1:Nat):Int)) hch2 zo) (a2p zo zo)) ⟨(Ht rfl),(Ht rfl),(Ht rfl),trivial⟩) (rm rfl (ro rfl (dK (Ht rfl) rfl) (ro rfl (dK (Ht rfl) rfl) (rn rfl (eW (Ts:=[Is (.bool false),Is (.slice none 0 0),Is (.bool false),Is (.slice none 0 0),Is (.slice none 0 0)]) O_51 rfl (fun V=>aW zd (aW zd (aW zd (aW zd (aW zd (aG))))))) fun B12=>?_))))))
   refine gQ Z_51 (Ht rfl) (Ht rfl) rfl (i:=4) rfl (aK rfl) rfl rfl (ra rfl (eX (cK (fZ (m:=30) (dp 11 rfl (cX (Ht rfl)) (dq 83 0 rfl (kR (Ht rfl) cV) (dq 84 1 rfl (cX (Ht rfl)) (C.D_step (Ei:=[(13,_),(85,_)]) rfl rfl (bV (bK rfl rfl) (bV (bG 2 rfl rfl) bW)) (eK rfl rfl (Ht rfl) (fun h=>cX (Ht rfl))) (C.D_step (Ei:=[(86,_),(85,_)]) rfl rfl (bV (bG 3 rfl rfl) (bV (bG 2 rfl rfl) bW)) (eK rfl rfl (Ht rfl) (fun h=>kR (fJ rfl h) cV)) ?_)))))))))
   refine cL 85 2 87 4 rfl (iU (Ht rfl) (fun h=>(fJ rfl h))) (dq 88 5 rfl (cX (Ht rfl)) (C.D_step (Ei:=[(10,_),(89,_)]) rfl rfl (bV (bK rfl rfl) (bV (bG 6 rfl rfl) bW)) (eK rfl rfl (Ht rfl) (fun h=>eJ A_51 Z_51 (Ht rfl) (i:=3) rfl rfl rfl)) (C.D_step (Ei:=[(3,_),(89,_)]) rfl rfl (bV (bK rfl rfl) (bV (bG 6 rfl rfl) bW)) (eK rfl rfl (Ht rfl) (fun h=>eZ uF (Ht rfl) rfl)) (C.D_step (Ei:=[(91,_),(89,_)]) rfl rfl (bV (bG 8 rfl rfl) (bV (bG 6 rfl rfl) bW)) (eK rfl rfl (Ht rfl) (fun h=>eZ uE (fJ rfl h) rfl)) ?_))))
   refine C.D_step (Ei:=[(92,_),(89,_)]) rfl rfl (bV (bG 9 rfl rfl) (bV (bG 6 rfl rfl) bW)) (eK rfl rfl (Ht rfl) (fun h=>eY A_36 Z_36 (fJ rfl h) (i:=1) rfl rfl)) (C.D_step (Ei:=[(6,_),(89,_)]) rfl rfl (bV (bK rfl rfl) (bV (bG 6 rfl rfl) bW)) (eK rfl rfl (Ht rfl) (fun h=>cX (Ht rfl))) (C.D_step (Ei:=[(93,_),(94,_),(89,_)]) rfl rfl (bV (bG 10 rfl rfl) (bV (bG 11 rfl rfl) (bV (bG 6 rfl rfl) bW))) (eK rfl rfl (Ht rfl) (fun h=>dZ U_36 Z_35 (fJ rfl h) (fJ rfl h) rfl (dY (dU (d:=[]) zo)))) ?_))
   refine C.D_step (Ei:=[(95,_),(89,_)]) rfl rfl (bV (bG 12 rfl rfl) (bV (bG 6 rfl rfl) bW)) (eK rfl rfl (Ht rfl) (fun h=>dJ A_35 Z_35 (fJ rfl h))) (C.D_step (Ei:=[(9,_),(89,_)]) rfl rfl (bV (bK rfl rfl) (bV (bG 6 rfl rfl) bW)) (eK rfl rfl (Ht rfl) (fun h=>cX (Ht rfl))) (C.D_step (Ei:=[(96,_),(97,_),(89,_)]) rfl rfl (bV (bG 13 rfl rfl) (bV (bG 14 rfl rfl) (bV (bG 6 rfl rfl) bW))) (eK rfl rfl (Ht rfl) (fun h=>dZ U_35 Z_131 (fJ rfl h) (fJ rfl h) rfl (dY (dU (d:=Qi.zero) zo)))) ?_))
   refine C.D_step (Ei:=[(98,_),(89,_)]) rfl rfl (bV (bG 15 rfl rfl) (bV (bG 6 rfl rfl) bW)) (eK rfl rfl (Ht rfl) (fun h=>dJ A_131 Z_131 (fJ rfl h))) (C.D_step (Ei:=[(90,_),(99,_),(89,_)]) rfl rfl (bV (bG 7 rfl rfl) (bV (bG 16 rfl rfl) (bV (bG 6 rfl rfl) bW))) (eK rfl rfl (Ht rfl) (fun h=>cZ Tryz.call80 (Gl (x:=gm s i j) (y:=gm s i j) (L:=L) (M:=L) hL hL) ⟨(fJ rfl h),(fJ rfl h),trivial⟩)) (C.D_step (Ei:=[(100,_),(89,_)]) rfl rfl (bV (bG 17 rfl rfl) (bV (bG 6 rfl rfl) bW)) (eK rfl rfl (Ht rfl) (fun h=>gB (fJ rfl h))) ?_))
   refine cL 89 6 101 18 rfl (iU (Ht rfl) (fun h=>(fJ rfl h))) (dq 102 19 rfl (cX (Ht rfl)) (C.D_step (Ei:=[(12,_),(103,_)]) rfl rfl (bV (bK rfl rfl) (bV (bG 20 rfl rfl) bW)) (eK rfl rfl (Ht rfl) (fun h=>eJ A_51 Z_51 (Ht rfl) (i:=4) rfl rfl rfl)) (C.D_step (Ei:=[(3,_),(103,_)]) rfl rfl (bV (bK rfl rfl) (bV (bG 20 rfl rfl) bW)) (eK rfl rfl (Ht rfl) (fun h=>eZ wO (Ht rfl) rfl)) (C.D_step (Ei:=[(105,_),(103,_)]) rfl rfl (bV (bG 22 rfl rfl) (bV (bG 20 rfl rfl) bW)) (eK rfl rfl (Ht rfl) (fun h=>eY A_36 Z_36 (fJ rfl h) (i:=1) rfl rfl)) ?_))))
   refine C.D_step (Ei:=[(6,_),(103,_)]) rfl rfl (bV (bK rfl rfl) (bV (bG 20 rfl rfl) bW)) (eK rfl rfl (Ht rfl) (fun h=>cX (Ht rfl))) (C.D_step (Ei:=[(106,_),(107,_),(103,_)]) rfl rfl (bV (bG 23 rfl rfl) (bV (bG 24 rfl rfl) (bV (bG 20 rfl rfl) bW))) (eK rfl rfl (Ht rfl) (fun h=>dZ U_36 Z_35 (fJ rfl h) (fJ rfl h) rfl (dY (dU (d:=[]) zo)))) (C.D_step (Ei:=[(108,_),(103,_)]) rfl rfl (bV (bG 25 rfl rfl) (bV (bG 20 rfl rfl) bW)) (eK rfl rfl (Ht rfl) (fun h=>dJ A_35 Z_35 (fJ rfl h))) ?_))
   refine C.D_step (Ei:=[(9,_),(103,_)]) rfl rfl (bV (bK rfl rfl) (bV (bG 20 rfl rfl) bW)) (eK rfl rfl (Ht rfl) (fun h=>cX (Ht rfl))) (C.D_step (Ei:=[(109,_),(110,_),(103,_)]) rfl rfl (bV (bG 26 rfl rfl) (bV (bG 27 rfl rfl) (bV (bG 20 rfl rfl) bW))) (eK rfl rfl (Ht rfl) (fun h=>dZ U_35 Z_131 (fJ rfl h) (fJ rfl h) rfl (dY (dU (d:=Qi.zero) zo)))) (C.D_step (Ei:=[(111,_),(103,_)]) rfl rfl (bV (bG 28 rfl rfl) (bV (bG 20 rfl rfl) bW)) (eK rfl rfl (Ht rfl) (fun h=>dJ A_131 Z_131 (fJ rfl h))) ?_))
   refine fV aT rfl (by kernel_rfl) (zF (zF (zF (zF (zF (zF (zF (aJ (aJ (aV (fQ rfl rfl (eK rfl rfl (Ht rfl) (fun h=>cZ Tryz.call80 (Gl (x:=gm c i j) (y:=gm c i j) (L:=L) (M:=L) hL hL) ⟨(fJ rfl h),(fJ rfl h),trivial⟩)) (fQ rfl rfl (eK rfl rfl (Ht rfl) (fun h=>gB (fJ rfl h))) ?_))))))))))))
   refine ro rfl (iU (Ht rfl) (fun h=>(fJ rfl h))) (eX (jI (Ht rfl) (by simp) ?_))
   refine cU (aS (cY (ro rfl (dV (Ht rfl) (cJ 1) z6) (rm rfl (eX (cA [0,1,2] rfl (by decide) (fU (j + 1) hf zo (zS rfl) (dB.refl _))))))))
  ·refine gV rfl (aS (cY (ro rfl (dV (Ht rfl) (cJ 1) z6) (rm rfl (eX (cA [0,1,2] rfl (by decide) (fU (i + 1) hd zo (zS rfl) (dB.refl _))))))))
 ·refine gV rfl (ts (ro rfl (cQ cV) (eX ?_)))
  exact fW rfl (eU rfl)
end
section
open Go Go.RowKit
theorem Qi.zero_div (y:Qi):Qi.zero / y = Qi.zero:=by rw [Qi.div_def,Qi.zero_mul']
end
section
open Go Go.RowKit
theorem a0Z {α:Type} {l:List α} {d:α} {k:Nat} (h:k < l.length):l.getD k d = l[k]:=by simp [List.getD,h]
end
section
open Go Go.RowKit
namespace Qi
end Qi
def jX (f : Nat → Int) : Nat → Int
 | 0=>0
 | n + 1=>if jX f n ≠ 0 then jX f n else f n
theorem lP {f:Nat → Int} {k:Nat} (h:∀ i,i < k → f i = 0) (hk:f k ≠ 0):∀ {n:Nat},k < n → jX f n = f k:=by
 have hz : jX f k = 0 := by
  clear hk
  induction k with
  | zero=>rfl
  | succ k ih=>rw [jX,ih (fun i hi=>h i zo),if_neg (by simp),h k zo]
 intro n
 induction n with
 | zero=>intro h; omega
 | succ n ih =>
  intro hn
  by_cases e:n = k
  ·rw [e,jX,hz,if_neg (by simp)]
  ·rw [jX,ih zo,if_pos hk]
theorem gM {f : Nat → Int} : ∀ {n : Nat}, (∀ i, i < n → f i = 0) → jX f n = 0
 | 0,_=>rfl
 | n + 1,h=>by rw [jX,gM (fun i hi=>h i zo),if_neg (by simp),h n zo]
theorem gN {f : Nat → Int} : ∀ {n : Nat}, jX f n = 0 → ∀ i, i < n → f i = 0
 | 0,_,i,hi=>by omega
 | n + 1, h, i, hi => by
  rw [jX] at h
  split at h
  ·rename_i c; exact absurd h c
  ·rename_i c
   by_cases e:i = n
   ·rw [e]; exact h
   ·exact gN (Decidable.not_not.1 c) i zo
abbrev eF (l:List (Qi × Qi)) (i:Nat):Qi:=(l.getD i (Qi.zero,Qi.zero)).1
abbrev eV (l:List (Qi × Qi)) (i:Nat):Qi:=(l.getD i (Qi.zero,Qi.zero)).2
structure a2d (l:List (Qi × Qi)) (f:Qi):Prop where
 real:∀ i,i < l.length → (eF l i).b = 0 ∧ (eV l i).b = 0
 up:∀ i,0 < i → i < l.length → (eF l (i - 1)).re < (eF l i).re
 fr:f.b = 0
theorem a2d.mono {l : List (Qi × Qi)} {f : Qi} (h : a2d l f) {i : Nat} : ∀ {j : Nat}, i < j → j < l.length → (eF l i).re < (eF l j).re
 | 0,h1,_=>by omega
 | j + 1, h1, h2 => by
  have h3:=h.up (j + 1) zo h2
  rw [Nat.add_sub_cancel] at h3
  by_cases e:i = j
  ·rw [e]; exact h3
  ·have := h.mono (i := i) (j := j) zo zo
   grind
def a45 (l:List (Qi × Qi)) (L:Nat):Prop:=∀ e,e ∈ l → aO e.1 L ∧ aO e.2 L
theorem a45.get {l:List (Qi × Qi)} {L:Nat} (h:a45 l L) (hL:1 ≤ L) (i:Nat):aO (eF l i) L ∧ aO (eV l i) L:=by
 by_cases hi:i < l.length
 ·have e : l.getD i (Qi.zero, Qi.zero) = l[i] := by simp [List.getD, hi]
  show aO (l.getD i _).1 L ∧ aO (l.getD i _).2 L
  rw [e]; exact h _ (List.getElem_mem hi)
 ·have e : l.getD i (Qi.zero, Qi.zero) = (Qi.zero, Qi.zero) := by simp [List.getD, List.getElem?_eq_none (Nat.le_of_not_lt hi)]
  show aO (l.getD i _).1 L ∧ aO (l.getD i _).2 L
  rw [e]; exact ⟨aO.zero hL,aO.zero hL⟩
end
section
open Go Go.RowKit
abbrev dD (M:List (List Qi)) (i:Nat):List Qi:=M.getD i []
def Ut (M : List (List Qi)) (c n : Nat) : Nat → Nat
 | 0=>n
 | k + 1=>if gm M (n - (k + 1)) c = Qi.zero then Ut M c n k else n - (k + 1)
def pv (M:List (List Qi)) (c n:Nat):Nat:=Ut M c n (n - c)
theorem Kv {M : List (List Qi)} {c n : Nat} : ∀ {k : Nat}, k ≤ n → (∀ r, n - k ≤ r → r < Ut M c n k → gm M r c = Qi.zero) ∧ n - k ≤ Ut M c n k ∧ Ut M c n k ≤ n ∧ (Ut M c n k < n → gm M (Ut M c n k) c ≠ Qi.zero)
 | 0,_=>⟨fun r h1 h2=>by simp [Ut] at h2; omega,by simp [Ut],by simp [Ut],fun h=>by simp [Ut] at h⟩
 | k + 1, hk => by
  obtain ⟨i1,i2,i3,i4⟩:=Kv (M:=M) (c:=c) (n:=n) (k:=k) zo
  unfold Ut
  by_cases e:gm M (n - (k + 1)) c = Qi.zero
  ·rw [if_pos e]
   refine ⟨fun r h1 h2=>?_,by omega,i3,i4⟩
   by_cases e2:r = n - (k + 1)
   ·rw [e2]; exact e
   ·exact i1 r zo h2
  ·rw [if_neg e]
   exact ⟨fun r h1 h2=>by omega,Nat.le_refl _,by omega,fun _=>e⟩
theorem nC {M:List (List Qi)} {c n:Nat} (hc:c ≤ n):(∀ r,c ≤ r → r < pv M c n → gm M r c = Qi.zero) ∧ c ≤ pv M c n ∧ pv M c n ≤ n ∧ (pv M c n < n → gm M (pv M c n) c ≠ Qi.zero):=by
 have h:=Kv (M:=M) (c:=c) (n:=n) (k:=n - c) zo
 rw [show n - (n - c) = c by omega] at h
 exact h
theorem a2t {M:List (List Qi)} {c n p:Nat} (hc:c ≤ p) (hp:p ≤ n) (h1:∀ r,c ≤ r → r < p → gm M r c = Qi.zero) (h2:p < n → gm M p c ≠ Qi.zero):pv M c n = p:=by
 obtain ⟨i1,i2,i3,i4⟩:=nC (M:=M) (n:=n) (show c ≤ n by omega)
 rcases Nat.lt_trichotomy (pv M c n) p with h | h | h
 ·exact absurd (h1 _ i2 h) (i4 zo)
 ·exact h
 ·exact absurd (i1 p hc h) (h2 zo)
def mC (rr rc:List Qi) (c k:Nat):List Qi:=tab rr.length fun j=>if c < j ∧ j < k then gv rr j - gv rr c / gv rc c * gv rc j else gv rr j
def nG (M:List (List Qi)) (c r:Nat):List (List Qi):=tab M.length fun i=>if c < i ∧ i < r then mC (dD M i) (dD M c) c (dD M i).length else dD M i
def dI (M : List (List Qi)) : Nat → List (List Qi) × Nat × Int
 | 0=>(M,0,-1)
 | c + 1 =>
  let s:=dI M c
  if 0 ≤ s.2.2 then s else
  if pv s.1 c M.length = M.length then (s.1,s.2.1,(c:Int)) else
  (nG (if pv s.1 c M.length = c then s.1 else swp [] s.1 (pv s.1 c M.length) c) c M.length,s.2.1 + (if pv s.1 c M.length = c then 0 else 1),-1)
theorem Fc {M : List (List Qi)} {c : Nat} (h : 0 ≤ (dI M c).2.2) : ∀ {d : Nat}, c ≤ d → dI M d = dI M c
 | 0,hd=>by rw [show c = 0 by omega]
 | d + 1, hd => by
  by_cases e:c = d + 1
  ·rw [e]
  ·have := Fc h (d := d) zo
   simp only [dI,this]
   rw [if_pos h]
theorem tG (M:List (List Qi)) (c r:Nat):(nG M c r).length = M.length:=aC _ _
theorem Kz {M:List (List Qi)} {n m c r:Nat} (h:dT M n m):dT (nG M c r) n m:=by
 refine ⟨(tG _ _ _).trans h.1,fun x hx=>?_⟩
 obtain ⟨i,hi,rfl⟩:=iZ.1 hx
 have hr:=h.row (i:=i) (by rw [← h.1]; exact hi)
 show (if c < i ∧ i < r then mC (dD M i) (dD M c) c (dD M i).length else dD M i).length = m
 split
 ·rw [mC,aC]; exact hr
 ·exact hr
theorem xQ {M:List (List Qi)} {n m p c:Nat} (h:dT M n m) (hp:p < n) (hc:c < n):dT (swp [] M p c) n m:=by
 refine ⟨(If _ _ _ _).trans h.1,fun x hx=>?_⟩
 unfold swp at hx
 rcases List.mem_or_eq_of_mem_set hx with h1 | h1
 ·rcases List.mem_or_eq_of_mem_set h1 with h2 | h2
  ·exact h.2 x h2
  ·rw [h2]; exact h.row hc
 ·rw [h1]; exact h.row hp
theorem qW {M : List (List Qi)} {n m : Nat} (h : dT M n m) : ∀ {c : Nat}, c ≤ n → dT (dI M c).1 n m
 | 0,_=>h
 | c + 1, hc => by
  have ih:=qW h (c:=c) zo
  obtain ⟨_,_,i3,_⟩:=nC (M:=(dI M c).1) (c:=c) (n:=M.length) (by rw [h.1]; omega)
  simp only [dI]
  split
  ·exact ih
  ·split
   ·exact ih
   ·rename_i e
    apply Kz
    split
    ·exact ih
    ·exact xQ ih (by rw [← h.1]; omega) zo
def cE (L : Nat) : Nat → Nat
 | 0=>L
 | c + 1=>6 * cE L c + 4
theorem lQ (L : Nat) : ∀ {c d : Nat}, c ≤ d → cE L c ≤ cE L d
 | c,0,h=>by rw [show c = 0 by omega]; exact Nat.le_refl _
 | c, d + 1, h => by
  by_cases e:c = d + 1
  ·rw [e]; exact Nat.le_refl _
  ·have := lQ L (c := c) (d := d) zo
   simp only [cE]; omega
theorem oK (L c:Nat):L ≤ cE L c:=lQ L (Nat.zero_le c)
theorem Pu {rr rc:List Qi} {L c j:Nat} (h1:dA rr L) (h2:dA rc L) (hL:1 ≤ L) (hp:gv rc c ≠ Qi.zero):aO (gv rr j - gv rr c / gv rc c * gv rc j) (6 * L + 4):=by
 haveI f1:=h1.get hL j; haveI f2:=h1.get hL c; haveI f3:=h2.get hL c; haveI f4:=h2.get hL j
 haveI g:aO (gv rr c / gv rc c) (L + 3 * L + 2):=⟨f2.fit.div f3.fit hp⟩
 have:aO (gv rr j - gv rr c / gv rc c * gv rc j) (L + (L + 3 * L + 2 + L + 1) + 1):=inferInstance
 exact this.le zo
theorem Zj {rr rc : List Qi} {L c k : Nat} (h1 : dA rr L) (h2 : dA rc L) (hL : 1 ≤ L) (hp : gv rc c ≠ Qi.zero) : dA (mC rr rc c k) (6 * L + 4) := dA.tab fun j _ => by
 split
 ·exact Pu h1 h2 hL hp
 ·exact (h1.get hL j).le zo
theorem Ky {M : List (List Qi)} {L c r : Nat} (h : bP M L) (hL : 1 ≤ L) (hp : gm M c c ≠ Qi.zero) : bP (nG M c r) (6 * L + 4) := fun x hx => by
 obtain ⟨i,hi,rfl⟩:=iZ.1 hx
 show dA (if c < i ∧ i < r then mC (dD M i) (dD M c) c (dD M i).length else dD M i) _
 split
 ·exact Zj (h.row i) (h.row c) hL hp
 ·exact (h.row i).le zo
theorem Aw {M : List (List Qi)} {L p c : Nat} (h : bP M L) : bP (swp [] M p c) L := fun x hx => by
 unfold swp at hx
 rcases List.mem_or_eq_of_mem_set hx with h1 | h1
 ·rcases List.mem_or_eq_of_mem_set h1 with h2 | h2
  ·exact h x h2
  ·rw [h2]; exact h.row c
 ·rw [h1]; exact h.row p
theorem yX {M:List (List Qi)} {p c:Nat} (hc:c < M.length):dD (swp [] M p c) c = dD M p:=by
 simp [dD,swp,List.getD,hc]
theorem By {M : List (List Qi)} {n m L : Nat} (hs : dT M n m) (h : bP M L) (hL : 1 ≤ L) : ∀ {c : Nat}, c ≤ n → bP (dI M c).1 (cE L c)
 | 0,_=>h
 | c + 1, hc => by
  have ih:=By hs h hL (c:=c) zo
  have hg:1 ≤ cE L c:=Nat.le_trans hL (oK L c)
  have sh:=qW hs (c:=c) zo
  obtain ⟨_,i2,i3,i4⟩:=nC (M:=(dI M c).1) (c:=c) (n:=M.length) (by rw [hs.1]; omega)
  simp only [dI,cE]
  split
  ·exact ih.le zo
  ·split
   ·exact ih.le zo
   ·rename_i e
    split
    ·rename_i e2
     refine Ky ih hg ?_
     have:=i4 zo
     rw [e2] at this; exact this
    ·refine Ky (Aw ih) hg ?_
     show gv (dD (swp [] _ _ c) c) c ≠ _
     rw [yX (by rw [sh.1]; omega)]
     exact i4 zo
theorem Ny {rr rc:List Qi} {c:Nat}:rr = mC rr rc c (c + 1):=by
 unfold mC
 have:(tab rr.length fun j=>if c < j ∧ j < c + 1 then gv rr j - gv rr c / gv rc c * gv rc j else gv rr j) = tab rr.length (gv rr):=cT fun j _=>by rw [if_neg zo]
 rw [this]; exact wZ rfl
theorem xJ (rr rc:List Qi) (c k:Nat):(mC rr rc c k).length = rr.length:=aC _ _
theorem La {rr rc:List Qi} {c k:Nat} (hk:k < rr.length) (h:c < k):gv (mC rr rc c k) k = gv rr k:=by
 rw [mC,mJ hk,if_neg zo]
theorem Tz {rr rc:List Qi} {c k:Nat} (hk:k < rr.length) (h:c < k):(mC rr rc c k).set k (gv (mC rr rc c k) k - gv rr c / gv rc c * gv rc k) = mC rr rc c (k + 1):=by
 rw [La hk h]
 apply List.ext_getElem?
 intro j
 by_cases hj:j < rr.length
 ·by_cases e : j = k
  ·subst e
   rw [List.getElem?_set_self (by rw [xJ]; exact hj),mC,bS hj,if_pos zo]
  ·rw [List.getElem?_set_ne (Ne.symm e), mC, mC, bS hj, bS hj]
   by_cases e2:c < j ∧ j < k
   ·rw [if_pos e2,if_pos zo]
   ·rw [if_neg e2,if_neg zo]
 ·rw [List.getElem?_eq_none (by rw [List.length_set,xJ]; omega),List.getElem?_eq_none (by rw [xJ]; omega)]
theorem Nx {M:List (List Qi)} {c:Nat}:M = nG M c (c + 1):=by
 unfold nG
 have:(tab M.length fun i=>if c < i ∧ i < c + 1 then mC (dD M i) (dD M c) c (dD M i).length else dD M i) = tab M.length (dD M):=cT fun i _=>by rw [if_neg zo]
 rw [this]; exact yY (h:=rfl)
theorem xI {M:List (List Qi)} {c r i:Nat} (hi:i < M.length) (h:¬ (c < i ∧ i < r)):dD (nG M c r) i = dD M i:=by
 simp only [dD,nG,List.getD]
 rw [bS hi,if_neg h]; rfl
theorem Tx {M:List (List Qi)} {c r:Nat} (hr:r < M.length) (h:c < r):(nG M c r).set r (mC (dD M r) (dD M c) c (dD M r).length) = nG M c (r + 1):=by
 apply List.ext_getElem?
 intro j
 by_cases hj:j < M.length
 ·by_cases e : j = r
  ·subst e
   rw [List.getElem?_set_self (by rw [tG]; exact hj),nG,bS hj,if_pos zo]
  ·rw [List.getElem?_set_ne (Ne.symm e), nG, nG, bS hj, bS hj]
   by_cases e2:c < j ∧ j < r
   ·rw [if_pos e2,if_pos zo]
   ·rw [if_neg e2,if_neg zo]
 ·rw [List.getElem?_eq_none (by rw [List.length_set,tG]; omega),List.getElem?_eq_none (by rw [tG]; omega)]
theorem Lh {M:List (List Qi)} {r:Nat} {x y:List Qi}:(M.set r x).set r y = M.set r y:=List.set_set ..
theorem tL {M:List (List Qi)} {r:Nat} {x:List Qi} (h:r < M.length):dD (M.set r x) r = x:=by simp [dD,List.getD,h]
theorem oW {M:List (List Qi)} {r i:Nat} {x:List Qi} (h:r ≠ i):dD (M.set r x) i = dD M i:=by simp [dD,List.getD,List.getElem?_set_ne h]
theorem Zq {M:List (List Qi)} {r:Nat} (h:r < M.length):M.set r (dD M r) = M:=by
 apply List.ext_getElem?
 intro j
 by_cases e:j = r
 ·subst e; rw [List.getElem?_set_self h]; simp [dD,List.getD,h]
 ·rw [List.getElem?_set_ne (Ne.symm e)]
theorem Zx {X : List (List Qi)} {r c k : Nat} (hr : r < X.length) (hne : r ≠ c) (hk : k < (dD X r).length) (hck : c < k) :
  (X.set r (mC (dD X r) (dD X c) c k)).set r ((dD (X.set r (mC (dD X r) (dD X c) c k)) r).set k (gm (X.set r (mC (dD X r) (dD X c) c k)) r k - gm X r c / gm X c c * gm (X.set r (mC (dD X r) (dD X c) c k)) c k)) = X.set r (mC (dD X r) (dD X c) c (k + 1)):=by
 rw [Lh,tL hr]
 have e1:gm (X.set r (mC (dD X r) (dD X c) c k)) r k = gv (mC (dD X r) (dD X c) c k) k:=by show gv (dD (X.set r _) r) k = _; rw [tL hr]
 have e2:gm (X.set r (mC (dD X r) (dD X c) c k)) c k = gv (dD X c) k:=by show gv (dD (X.set r _) c) k = _; rw [oW hne]
 rw [e1,e2]
 exact congrArg _ (Tz hk hck)
theorem Zy {D:List (List Qi)} {r c:Nat} (hr:r < D.length) (hc:c < r):(nG D c r).set r (mC (dD (nG D c r) r) (dD (nG D c r) c) c (dD D r).length) = nG D c (r + 1):=by
 rw [xI hr zo,xI zo zo]
 exact Tx hr hc
theorem a4D {X:List (List Qi)} {r c k:Nat} (hr:r < X.length) (hk:k < (dD X r).length) (hck:c < k):gm (X.set r (mC (dD X r) (dD X c) c k)) r k = gv (dD X r) k:=by
 show gv (dD (X.set r _) r) k = _; rw [tL hr,La hk hck]
theorem a4C {X:List (List Qi)} {r c k:Nat} {y:List Qi} (hne:r ≠ c):gm (X.set r y) c k = gv (dD X c) k:=by show gv (dD (X.set r _) c) k = _; rw [oW hne]
theorem Sx {M A:List (List Qi)} {n c sw p:Nat} (hl:M.length = n) (h:dI M c = (A,sw,-1)) (hp:pv A c n = p) (hpn:p < n):dI M (c + 1) = (nG (if p = c then A else swp [] A p c) c n,sw + (if p = c then 0 else 1),-1):=by
 simp only [dI,h,hl,hp]
 rw [if_neg (by decide),if_neg zo]
theorem Xh {M A:List (List Qi)} {n c sw:Nat} (hl:M.length = n) (h:dI M c = (A,sw,-1)) (hp:pv A c n = n) (hc:c < n):dI M n = (A,sw,(c:Int)):=by
 have e : dI M (c + 1) = (A, sw, (c : Int)) := by
  simp only [dI,h,hl,hp]
  rw [if_neg (by decide)]; simp
 rw [Fc (c:=c + 1) (by rw [e]; show (0:Int) ≤ (c:Int); omega) hc,e]
end
section
open Go Go.RowKit
theorem Ds (v : Value) (w : World) : (method (Tryz.prog.types.size + Made.depth) 51 v "Clear").run Tryz.prog w = .ok (27, v) w := by kernel_rfl
end
section
open Go Go.RowKit
theorem a0r {M:List (List Qi)} {n m L B:Nat} (hs:dT M n m) (hf:bP M L) (hL:1 ≤ L) (hg:6 * cE L n + 4 ≤ 17592186044415) (hnm:n ≤ m) (hm:m ≤ 1000):iA Tryz.prog 194 [Is (.slice (some ⟨B,0,none⟩) n n)] [pG B 29 51 5 (bN aR M)] (Unit) (fun _=>gC [NT .i64 (dI M n).2.1,aP .i64 (dI M n).2.2]) (fun _=>[pG B 29 51 5 (bN aR (dI M n).1)]) (fun _=>True):=by
 have hs1:=hs.1
 refine iA.intro Tryz.func194 rfl Tryz.ntmps194 rfl (fun cx Z=>(ts (ro rfl (cQ (cJ 0)) (ro rfl (cQ (cJ 0)) (eX (ts (ro rfl (cQ (cJ 0)) (eX (cK (ts (rm rfl (ro rfl (iI U_30 (Ht rfl)) (ro rfl (cX (cJ 0)) (eX (eG (Gc 1 rfl (fun vs hvs=>?_)))))))))))))))))
 have hvs2:Hds vs n:=by have h:=hvs; rw [List.length_map,hs1] at h; exact h
 refine wC (fun (c : Nat) (sw : Nat) (vs : List Value) (A : List (List Qi)) => (c ≤ n ∧ sw ≤ c) ∧ dI M c = (A, sw, -1) ∧ Hds vs n) (fun (c : Nat) (sw : Nat) (vs : List Value) (A : List (List Qi)) => n - c) (fun (c : Nat) (sw : Nat) (vs : List Value) (A : List (List Qi)) => [(0, Is (.slice (some ⟨B, 0, none⟩) n n)), (4, NT .i64 sw), (12, NT .i64 n), (13, NT .i64 c)]) (fun (c : Nat) (sw : Nat) (vs : List Value) (A : List (List Qi)) => [Z, jQ B 29 51 5 vs vs (bN aR A)]) 0 0 vs M ⟨⟨Nat.zero_le _, Nat.le_refl _⟩, rfl, hvs2⟩
  (zS rfl) (dB.refl _) (fun c sw vs A ⟨⟨hc,hsw⟩,hA,hvs⟩=>?_)
 refine ts (ro rfl (gX (Ht rfl) (Ht rfl)) (eX (cK (dQ (Ht rfl) (fun hcn=>?_) (fun hcn=>?_)))))
 ·simp only [decide_eq_true_eq] at hcn
  have hvl:=hvs.len
  have hAs:dT A n m:=by have h:=qW hs hc; rw [hA] at h; exact h
  have hAf:bP A (cE L c):=by have h:=By hs hf hL hc; rw [hA] at h; exact h
  have hAl:=hAs.1
  have hgr:cE L c ≤ cE L n:=lQ L hc
  have hG1:1 ≤ cE L c:=Nat.le_trans hL (oK L c)
  refine cU (cK (eG (ts (rm rfl (ra rfl (eX (ts (rm rfl (ra rfl (eX (cK (eG ?_))))))))))))
  refine bO (fun (p : Nat) => (c ≤ p ∧ p ≤ n) ∧ ∀ r, c ≤ r → r < p → gm A r c = Qi.zero) (fun (p : Nat) => n - p) (fun (p : Nat) => [(0, Is (.slice (some ⟨B, 0, none⟩) n n)), (4, NT .i64 sw), (5, NT .i64 c), (6, NT .i64 p), (12, NT .i64 n), (13, NT .i64 c)]) (fun (p : Nat) => [Z, jQ B 29 51 5 vs vs (bN aR A)]) c ⟨⟨Nat.le_refl _, hc⟩, fun r h1 h2 => by omega⟩
   (zS rfl) (dB.refl _) (fun p ⟨⟨hcp,hpn⟩,hz⟩=>?_)
  haveI fp:aO (gm A p c) (cE L c):=hAf.get hG1 p c
  refine cK (ts (rm rfl (rm rfl (ro rfl (iI U_30 (Ht rfl)) (ro rfl (gX (Ht rfl) (Ht rfl)) (rm rfl (fQ rfl rfl (eK rfl rfl (Ht rfl) (fun h=>cX (Ht rfl))) (fQ rfl rfl (eK rfl rfl (Ht rfl) (fun h=>cX (Ht rfl))) (fQ rfl rfl (eK rfl rfl (Ht rfl) (fun h=>fY U_30 Z_29 (fJ rfl h) (fJ rfl h) rfl (by first | omega | (simp at h; omega)) (by rw [Nat.mul_one,Nat.zero_add]))) ?_)))))))))
  refine fQ rfl rfl (eK rfl rfl (Ht rfl) (fun h=>gR A_29 Z_29 (fJ rfl h) (j:=1) rfl (by simp at h; omega))) ?_
  refine fQ rfl rfl (eK rfl rfl (Ht rfl) (fun h=>cX (Ht rfl))) (fQ rfl rfl (eK rfl rfl (Ht rfl) (fun h=>jM U_29 Z_51 (fJ rfl h) (fJ rfl h) rfl (j:=1) rfl zo (by simp at h; omega) (by simp at h; rw [hAs.row h]; omega))) ?_)
  refine fQ rfl rfl (eK rfl rfl (Ht rfl) (fun h=>mK A_51 Z_51 (fJ rfl h) (j:=1) rfl zo (by simp at h; omega) (by simp at h; rw [hAs.row h]; omega))) ?_
  refine fQ rfl rfl (eK rfl rfl (Ht rfl) (fun h=>cR eD (fJ rfl h))) (fQ rfl rfl (eK rfl rfl (Ht rfl) (fun h=>cI Ds Tryz.call27 (Ow (x:=gm A p c) (L:=cE L c) zo) (fJ rfl h) trivial)) (fQ rfl rfl (eK rfl rfl (Ht rfl) (fun h=>gB (fJ rfl h))) (ro rfl (fF (Ht rfl) (fun h=>(fJ rfl h))) (eX (dQ (Ht rfl) (fun he=>?_) (fun he=>?_))))))
  ·have he2 : p < n ∧ gm A p c = Qi.zero := by simpa using he
   refine cU (eG (cY (rm rfl (ro rfl (dV (Ht rfl) (cJ 1) z6) (ra rfl (eX (aS ?_)))))))
   refine fU (p + 1) ⟨⟨by omega, by omega⟩, fun r h1 h2 => by
     by_cases e:r = p
     ·rw [e]; exact he2.2
     ·exact hz r h1 zo⟩ zo (zS rfl) (dB.refl _)
  ·have hpv : pv A c n = p := a2t hcp hpn hz (fun h => by simp at he; exact he h)
   refine gV rfl (cK (ts (rm rfl (rm rfl (ro rfl (iI U_30 (Ht rfl)) (ro rfl (cP (Ht rfl) (Ht rfl)) (eX (dQ (Ht rfl) (fun hp=>?_) (fun hp=>?_)))))))))
   ·have hp2 : p = n := by simpa using hp
    have hend:=Xh hs1 hA (by rw [hpv]; exact hp2) hcn
    refine ts (rm rfl (rm rfl (ra rfl (ra rfl (eX ?_)))))
    exact jP () trivial [0,1] ⟨⟨_,rfl,fun _ _ _ h=>h⟩,⟨_,rfl,(fun S w V h=>bI (by rw [hend]) S w V (Cj (by rw [List.length_map]; omega) S w V h))⟩,trivial⟩ (by decide) (a1U rfl (fX (eU rfl) (lT (by rw [hend]))) (fX (eU rfl) (aM (by rw [hend]))))
   ·have hp2 : p < n := by simp at hp; omega
    have hpz:=(nC (M:=A) (c:=c) (n:=n) hc).2.2.2 (by rw [hpv]; exact hp2)
    rw [hpv] at hpz
    have hnx:=Sx hs1 hA hpv hp2
    refine cU (cK (a0g (fun (q:Nat) (us:List Value) (D:List (List Qi))=>(q = sw + (if p = c then 0 else 1) ∧ D = (if p = c then A else swp [] A p c)) ∧ Hds us n) (fun (q:Nat) (us:List Value) (D:List (List Qi))=>[(0,Is (.slice (some ⟨B,0,none⟩) n n)),(4,NT .i64 q),(5,NT .i64 c),(12,NT .i64 n),(13,NT .i64 c)]) (fun (q:Nat) (us:List Value) (D:List (List Qi))=>[Z,jQ B 29 51 5 us us (bN aR D)]) ?_ (fun q us D ⟨⟨hq,hD⟩,hus⟩=>?_)))
    ·refine ts (rm rfl (rm rfl (ro rfl (gI (Ht rfl) (Ht rfl)) (eX (dQ (Ht rfl) (fun hpc => ?_) (fun hpc => ?_))))))
     ·have hpc2 : ¬ p = c := by simpa using hpc
      refine cK (Y.D_start (m:=14) [(13,1,jQ B 29 51 5 (vs.set p (hd vs c)) vs (bN aR A))] (Y.D_step (Ei:=[(0,_)]) rfl rfl (bQ (bJ rfl rfl) bX) rfl rfl (by kernel_rfl) (dX rfl (cX (Ht rfl))) (Y.D_step (Ei:=[(6,_)]) rfl rfl (bQ (bJ rfl rfl) bX) rfl rfl (by kernel_rfl) (dX rfl (cX (Ht rfl))) (bY (Ei:=[(0,_)]) rfl rfl (bQ (bJ rfl rfl) bX) rfl rfl (dX rfl (cX (Ht rfl))) (bY (Ei:=[(5,_)]) rfl rfl (bQ (bJ rfl rfl) bX) rfl rfl (dX rfl (cX (Ht rfl))) ?_)))))
      refine Y.D_step (Ei:=[(0,_)]) rfl rfl (bQ (bJ rfl rfl) bX) rfl rfl (by kernel_rfl) (dX rfl (cX (Ht rfl))) (Y.D_step (Ei:=[(5,_)]) rfl rfl (bQ (bJ rfl rfl) bX) rfl rfl (by kernel_rfl) (dX rfl (cX (Ht rfl))) (Y.D_step (Ei:=[(48,_),(49,_)]) rfl rfl (bQ (bZ 4 rfl rfl) (bQ (bZ 5 rfl rfl) bX)) rfl rfl (by kernel_rfl) (dX rfl (fY U_30 Z_29 (Ht rfl) (Ht rfl) rfl zo (by rw [Nat.mul_one,Nat.zero_add]))) ?_))
      refine Y.D_step (Ei:=[(50,_)]) rfl rfl (bQ (bZ 6 rfl rfl) bX) rfl rfl (by kernel_rfl) (dX rfl (gR A_29 Z_29 (Ht rfl) (j:=1) rfl zo)) (Y.D_step (Ei:=[(0,_)]) rfl rfl (bQ (bJ rfl rfl) bX) rfl rfl (by kernel_rfl) (dX rfl (cX (Ht rfl))) (Y.D_step (Ei:=[(6,_)]) rfl rfl (bQ (bJ rfl rfl) bX) rfl rfl (by kernel_rfl) (dX rfl (cX (Ht rfl))) (Y.D_step (Ei:=[(52,_),(53,_)]) rfl rfl (bQ (bZ 8 rfl rfl) (bQ (bZ 9 rfl rfl) bX)) rfl rfl (by kernel_rfl) (dX rfl (fY U_30 Z_29 (Ht rfl) (Ht rfl) rfl zo (by rw [Nat.mul_one,Nat.zero_add]))) ?_)))
      refine Y.D_step (Ei:=[(54,_)]) rfl rfl (bQ (bZ 10 rfl rfl) bX) rfl rfl (by kernel_rfl) (dX rfl (gR A_29 Z_29 (Ht rfl) (j:=1) rfl zo)) (Y.D_step (Ei:=[(44,_),(45,_)]) rfl rfl (bQ (bZ 0 rfl rfl) (bQ (bZ 1 rfl rfl) bX)) rfl rfl (by kernel_rfl) (dX rfl (fY U_30 Z_29 (Ht rfl) (Ht rfl) rfl zo (by rw [Nat.mul_one,Nat.zero_add]))) ?_)
      refine Y.D_putI (Ei:=[(56,_),(51,_)]) 1 rfl rfl rfl (bQ (bZ 12 rfl rfl) (bQ (bZ 7 rfl rfl) bX)) (.head _) rfl (Ly Z_29 (Ht rfl) (Ht rfl) (hvs.pl c zo) (i:=p) (hs:=vs) zo) (Y.D_done aT rfl (by kernel_rfl) rfl (by simp [Y.okP]) rfl rfl (bU (bU (bU (bU (bU (bU (bU (bU (bU (bU (bU (bU (bU (Y.F_putI (Y.F_nil ?_))))))))))))))))
      refine ro rfl (fY U_30 Z_29 (Ht rfl) (Ht rfl) rfl zo (by rw [Nat.mul_one,Nat.zero_add])) ?_
      refine Uz Z_29 (Ht rfl) (Ht rfl) (j:=1) rfl (hvs.pl p zo) (by rw [List.length_set]; omega) rfl ?_
      refine eX (lE 1 rfl (Fh (hs:=swp Co vs p c) (p:=p) (c:=c) zo zo zo) (cY (rm rfl (ro rfl (dV (Ht rfl) (cJ 1) z6) (ra rfl (eX (bC (sw + 1,swp Co vs p c,swp [] A p c) ⟨⟨by rw [if_neg hpc2],by rw [if_neg hpc2]⟩,hvs.swp hp2 hcn⟩ (zS rfl) (dB.refl _))))))))
     ·have hpc2 : p = c := by simpa using hpc
      refine cU (bC (sw,vs,A) ⟨⟨by rw [if_pos hpc2]; rfl,by rw [if_pos hpc2]⟩,hvs⟩ (zS rfl) (dB.refl _))
    ·have hul := hus.len
     rw [← hq,← hD] at hnx
     have hDs:dT D n m:=by rw [hD]; split; exact hAs; exact xQ hAs hp2 hcn
     have hDf:bP D (cE L c):=by rw [hD]; split; exact hAf; exact Aw hAf
     have hDl:=hDs.1
     have hDz : gm D c c ≠ Qi.zero := by
      rw [hD]; split
      ·rename_i e; rw [e] at hpz; exact hpz
      ·show gv (dD (swp [] A p c) c) c ≠ _
       rw [yX zo]; exact hpz
     refine ts (rm rfl (ro rfl (dV (Ht rfl) (cJ 1) z6) (ra rfl (eX (eG ?_)))))
     refine bO (fun (r : Nat) => c < r ∧ r ≤ n) (fun (r : Nat) => n - r) (fun (r : Nat) => [(0, Is (.slice (some ⟨B, 0, none⟩) n n)), (4, NT .i64 q), (5, NT .i64 c), (7, NT .i64 r), (12, NT .i64 n), (13, NT .i64 c)]) (fun (r : Nat) => [Z, jQ B 29 51 5 us us (bN aR (nG D c r))]) (c + 1) ⟨Nat.lt_succ_self _, hcn⟩
      (zS rfl) (aU (fun _ _ _ h=>h) (aU (oN (congrArg _ Nx)) aY)) (fun r ⟨hcr,hrn⟩=>?_)
     refine cK (ts (rm rfl (rm rfl (ro rfl (iI U_30 (Ht rfl)) (ro rfl (gX (Ht rfl) (Ht rfl)) (eX (dQ (Ht rfl) (fun hr=>?_) (fun hr=>?_))))))))
     ·simp only [decide_eq_true_eq] at hr
      obtain ⟨X,hX⟩:∃ X,X = nG D c r:=⟨_,rfl⟩
      have hXr:dD X r = dD D r:=by rw [hX]; exact xI zo zo
      have hXc:dD X c = dD D c:=by rw [hX]; exact xI zo zo
      have hXl:X.length = n:=by rw [hX,tG]; exact hDl
      have hXrl:(dD X r).length = m:=by rw [hXr]; exact hDs.row hr
      have hXcl:(dD X c).length = m:=by rw [hXc]; exact hDs.row hcn
      have hXrg:(X.getD r []).length = m:=hXrl
      have hXcg:(X.getD c []).length = m:=hXcl
      have hXfr:dA (dD X r) (cE L c):=by rw [hXr]; exact hDf.row r
      have hXfc:dA (dD X c) (cE L c):=by rw [hXc]; exact hDf.row c
      haveI g1:aO (gm X r c) (cE L c):=hXfr.get hG1 c
      haveI g2:aO (gm X c c) (cE L c):=hXfc.get hG1 c
      have hXz:gm X c c ≠ Qi.zero:=by show gv (dD X c) c ≠ _; rw [hXc]; exact hDz
      haveI g3:aO (gm X r c / gm X c c) (cE L c + 3 * cE L c + 2):=⟨g1.fit.div g2.fit hXz⟩
      have hend:=Zy (D:=D) (r:=r) (c:=c) zo hcr
      rw [← hX] at hend ⊢
      refine cU (cK (eG (cK (Y.D_start (m:=21) [] (bY (Ei:=[(0,_)]) rfl rfl (bQ (bJ rfl rfl) bX) rfl rfl (dX rfl (cX (Ht rfl))) (bY (Ei:=[(7,_)]) rfl rfl (bQ (bJ rfl rfl) bX) rfl rfl (dX rfl (cX (Ht rfl))) (bY (Ei:=[(69,_),(70,_)]) rfl rfl (bQ (bZ 0 rfl rfl) (bQ (bZ 1 rfl rfl) bX)) rfl rfl (dX rfl (fY U_30 Z_29 (Ht rfl) (Ht rfl) rfl zo (by rw [Nat.mul_one,Nat.zero_add]))) ?_)))))))
      refine bY (Ei:=[(71,_)]) rfl rfl (bQ (bZ 2 rfl rfl) bX) rfl rfl (dX rfl (gR A_29 Z_29 (Ht rfl) (j:=1) rfl zo)) (bY (Ei:=[(5,_)]) rfl rfl (bQ (bJ rfl rfl) bX) rfl rfl (dX rfl (cX (Ht rfl))) (bY (Ei:=[(72,_),(73,_)]) rfl rfl (bQ (bZ 3 rfl rfl) (bQ (bZ 4 rfl rfl) bX)) rfl rfl (dX rfl (jM U_29 Z_51 (Ht rfl) (Ht rfl) rfl (j:=1) rfl zo zo zo)) (bY (Ei:=[(74,_)]) rfl rfl (bQ (bZ 5 rfl rfl) bX) rfl rfl (dX rfl (mK A_51 Z_51 (Ht rfl) (j:=1) rfl zo zo zo)) ?_)))
      refine bY (Ei:=[(75,_)]) rfl rfl (bQ (bZ 6 rfl rfl) bX) rfl rfl (dX rfl (cR eD (Ht rfl))) (bY (Ei:=[(0,_)]) rfl rfl (bQ (bJ rfl rfl) bX) rfl rfl (dX rfl (cX (Ht rfl))) (bY (Ei:=[(5,_)]) rfl rfl (bQ (bJ rfl rfl) bX) rfl rfl (dX rfl (cX (Ht rfl))) (bY (Ei:=[(77,_),(78,_)]) rfl rfl (bQ (bZ 8 rfl rfl) (bQ (bZ 9 rfl rfl) bX)) rfl rfl (dX rfl (fY U_30 Z_29 (Ht rfl) (Ht rfl) rfl zo (by rw [Nat.mul_one,Nat.zero_add]))) ?_)))
      refine bY (Ei:=[(79,_)]) rfl rfl (bQ (bZ 10 rfl rfl) bX) rfl rfl (dX rfl (gR A_29 Z_29 (Ht rfl) (j:=1) rfl zo)) (bY (Ei:=[(5,_)]) rfl rfl (bQ (bJ rfl rfl) bX) rfl rfl (dX rfl (cX (Ht rfl))) (bY (Ei:=[(80,_),(81,_)]) rfl rfl (bQ (bZ 11 rfl rfl) (bQ (bZ 12 rfl rfl) bX)) rfl rfl (dX rfl (jM U_29 Z_51 (Ht rfl) (Ht rfl) rfl (j:=1) rfl zo zo zo)) (bY (Ei:=[(82,_)]) rfl rfl (bQ (bZ 13 rfl rfl) bX) rfl rfl (dX rfl (mK A_51 Z_51 (Ht rfl) (j:=1) rfl zo zo zo)) ?_)))
      refine bY (Ei:=[(76,_),(83,_)]) rfl rfl (bQ (bZ 7 rfl rfl) (bQ (bZ 14 rfl rfl) bX)) rfl rfl (dX rfl (cI tC Tryz.call40 (Vv (x:=gm X r c) (y:=gm X c c) (L:=cE L c) (M:=cE L c) zo) (Ht rfl) ⟨(Ht rfl),trivial⟩)) (bY (Ei:=[(84,_)]) rfl rfl (bQ (bZ 15 rfl rfl) bX) rfl rfl (dX rfl (cX (Ht rfl))) (bY (Ei:=[(68,_)]) rfl rfl (bQ (bZ 16 rfl rfl) bX) rfl rfl (dX rfl (dK (Ht rfl) rfl)) (bY (Ei:=[(68,_)]) rfl rfl (bQ (bZ 16 rfl rfl) bX) rfl rfl (dX rfl (dK (Ht rfl) rfl)) ?_)))
      refine Y.D_newp (Ei:=[]) (fun bb=>box bb 51 [aE (decide ((gm X r c / gm X c c).a < 0)),aI (gm X r c / gm X c c).a.natAbs,aE (decide ((gm X r c / gm X c c).b < 0)),aI (gm X r c / gm X c c).b.natAbs,aI (du (gm X r c / gm X c c))]) 20 rfl rfl rfl bX rfl rfl (by kernel_rfl) (eW (Ts:=[Is (.bool false),Is (.slice none 0 0),Is (.bool false),Is (.slice none 0 0),Is (.slice none 0 0)]) O_51 rfl (fun V=>aW zd (aW zd (aW zd (aW zd (aW zd (aG))))))) ?_
      refine Y.D_putN (Ei:=[(85,_)]) 19 rfl rfl rfl rfl rfl rfl (bQ (bZ 17 rfl rfl) bX) (fun bb=>sF Z_51 (Ht rfl) (Ht rfl) rfl (i:=0) rfl (aK rfl) rfl rfl) (Y.D_done aT rfl (by kernel_rfl) rfl (by simp [Y.okP]) rfl rfl (bU (bU (bU (bU (bU (bU (bU (bU (bU (bU (bU (bU (bU (bU (bU (bU (bU (bU (bU (Y.F_newp (fun B8=>Y.F_putN (Y.F_nil ?_)))))))))))))))))))))))
      refine ra rfl (eX (ts (rm rfl (ro rfl (dV (Ht rfl) (cJ 1) z6) (ra rfl (eX (eG ?_)))))))
      refine bO (fun (k : Nat) => c < k ∧ k ≤ m) (fun (k : Nat) => m - k) (fun (k : Nat) => [(0, Is (.slice (some ⟨B, 0, none⟩) n n)), (4, NT .i64 q), (5, NT .i64 c), (7, NT .i64 r), (8, bR B8 0), (10, NT .i64 k), (12, NT .i64 n), (13, NT .i64 c)]) (fun (k : Nat) => [Z, jQ B 29 51 5 us us (bN aR (X.set r (mC (dD X r) (dD X c) c k))), box B8 51 [aE (decide ((gm X r c / gm X c c).a < 0)), aI (gm X r c / gm X c c).a.natAbs, aE (decide ((gm X r c / gm X c c).b < 0)), aI (gm X r c / gm X c c).b.natAbs, aI (du (gm X r c / gm X c c))]]) (c + 1) ⟨Nat.lt_succ_self _, by omega⟩
       (zS rfl) (aU (fun _ _ _ h=>h) (aU (oN (by rw [← Ny,Zq zo])) (aU (aB rfl) aY))) (fun k ⟨hck,hkm⟩=>?_)
      obtain ⟨Y,hY⟩:∃ Y,Y = (X.set r (mC (dD X r) (dD X c) c k)):=⟨_,rfl⟩
      have hYl:Y.length = n:=by rw [hY,List.length_set]; exact hXl
      have hYrl:(dD Y r).length = m:=by rw [hY,tL zo,xJ]; exact hXrl
      have hYcl:(dD Y c).length = m:=by rw [hY,oW zo]; exact hXcl
      have hYrg:(Y.getD r []).length = m:=hYrl
      have hYcg:(Y.getD c []).length = m:=hYcl
      rw [← hY]
      refine cK (ts (rm rfl (rm rfl (rm rfl (ro rfl (fY U_30 Z_29 (Ht rfl) (Ht rfl) rfl zo (by rw [Nat.mul_one,Nat.zero_add])) ?_)))))
      refine ro rfl (gR A_29 Z_29 (Ht rfl) (j:=1) rfl zo) (ro rfl (a1B U_29 (Ht rfl) (j:=1) rfl zo zo) (ro rfl (gX (Ht rfl) (Ht rfl)) (eX (dQ (Ht rfl) (fun hk=>?_) (fun hk=>?_)))))
      ·have hk2 : k < m := by simp only [decide_eq_true_eq] at hk; omega
       have e1:gm Y r k = gv (dD X r) k:=by rw [hY]; exact a4D zo zo hck
       have e2:gm Y c k = gv (dD X c) k:=by rw [hY]; exact a4C zo
       haveI y1:aO (gm Y r k) (cE L c):=by rw [e1]; exact hXfr.get hG1 k
       haveI y2:aO (gm Y c k) (cE L c):=by rw [e2]; exact hXfc.get hG1 k
       have hst:=Zx (X:=X) (r:=r) (c:=c) (k:=k) zo zo zo hck
       rw [← hY] at hst
       refine cU (cK (eG (fZ (m:=24) (dp 0 rfl (cX (Ht rfl)) (dp 7 rfl (cX (Ht rfl)) (cL 98 0 99 1 rfl (fY U_30 Z_29 (Ht rfl) (Ht rfl) rfl zo (by rw [Nat.mul_one,Nat.zero_add])) ?_))))))
       refine dq 100 2 rfl (gR A_29 Z_29 (Ht rfl) (j:=1) rfl zo) (dp 10 rfl (cX (Ht rfl)) (dp 0 rfl (cX (Ht rfl)) (dp 7 rfl (cX (Ht rfl)) (cL 103 5 104 6 rfl (fY U_30 Z_29 (Ht rfl) (Ht rfl) rfl zo (by rw [Nat.mul_one,Nat.zero_add])) ?_))))
       refine dq 105 7 rfl (gR A_29 Z_29 (Ht rfl) (j:=1) rfl zo) (dp 10 rfl (cX (Ht rfl)) (cL 106 8 107 9 rfl (jM U_29 Z_51 (Ht rfl) (Ht rfl) rfl (j:=1) rfl zo zo zo) (dq 108 10 rfl (mK A_51 Z_51 (Ht rfl) (j:=1) rfl zo zo zo) (dq 109 11 rfl (cR eD (Ht rfl)) (dp 8 rfl (eJ A_51 Z_51 (Ht rfl) (i:=2) rfl rfl rfl) (dq 111 13 rfl (cR eD (Ht rfl)) (dp 0 rfl (cX (Ht rfl)) (dp 5 rfl (cX (Ht rfl)) (cL 113 15 114 16 rfl (fY U_30 Z_29 (Ht rfl) (Ht rfl) rfl zo (by rw [Nat.mul_one,Nat.zero_add])) ?_)))))))))
       refine dq 115 17 rfl (gR A_29 Z_29 (Ht rfl) (j:=1) rfl zo) (dp 10 rfl (cX (Ht rfl)) (cL 116 18 117 19 rfl (jM U_29 Z_51 (Ht rfl) (Ht rfl) rfl (j:=1) rfl zo zo zo) (dq 118 20 rfl (mK A_51 Z_51 (Ht rfl) (j:=1) rfl zo zo zo) (cL 112 14 119 21 rfl (cI gO K_45 (pV (x:=gm X r c / gm X c c) (y:=gm Y c k) (L:=cE L c + 3 * cE L c + 2) (M:=cE L c) zo) (Ht rfl) ⟨(Ht rfl),trivial⟩) (cL 110 12 120 22 rfl (cI lH K_44 (Bq (x:=gm Y r k) (y:=gm X r c / gm X c c * gm Y c k) (L:=cE L c) (M:=cE L c + 3 * cE L c + 2 + cE L c + 1) zo) (Ht rfl) ⟨(Ht rfl),trivial⟩) ?_)))))
       refine fV aT rfl (by kernel_rfl) (zF (zF (zF (zF (zF (zF (aV (ro rfl (jM U_29 Z_51 (Ht rfl) (Ht rfl) rfl (j:=1) rfl zo zo zo) (a2a Z_51 (Ht rfl) (Ht rfl) (j:=1) rfl (El.ag rfl) (F:=aR) (z:=gm Y r k - gm X r c / gm X c c * gm Y c k) zo zo zo rfl (eX (aS (cY ?_))))))))))))
       refine rm rfl (ro rfl (dV (Ht rfl) (cJ 1) z6) (ra rfl (eX (fU (k + 1) ⟨by omega,hk2⟩ zo (zS rfl) (aU (fun _ _ _ h=>h) (aU (oN (congrArg _ hst)) (aU (aB rfl) aY)))))))
      ·have hk3 : k = m := by simp only [decide_eq_false_iff_not] at hk; omega
       subst hk3
       refine gV rfl (aS (cY (rm rfl (ro rfl (dV (Ht rfl) (cJ 1) z6) (ra rfl (eX (cA [0,1] rfl (by decide) (fU (r + 1) ⟨by omega,hr⟩ zo (zS rfl) (aU (fun _ _ _ h=>h) (aU (oN (by rw [hY,← hend,hDs.row hr])) aY))))))))))
     ·simp only [decide_eq_false_iff_not] at hr
      obtain rfl:r = n:=Nat.le_antisymm hrn zo
      refine gV rfl (aS (cY (ro rfl (dV (Ht rfl) (cJ 1) z6) (rm rfl (eX (fU (c + 1,q,us,nG D c r) ⟨⟨hcn,by show q ≤ c + 1; rw [hq]; split <;> omega⟩,hnx,hus⟩ (by dsimp only; omega) (zS rfl) (dB.refl _)))))))
 ·simp only [decide_eq_false_iff_not] at hcn
  obtain rfl:c = n:=Nat.le_antisymm hc zo
  have hvl:=hvs.len
  have hAs:dT A c m:=by have h:=qW hs hc; rw [hA] at h; exact h
  refine gV rfl (ts (rm rfl (ra rfl (ro rfl (cQ cV) (eX ?_)))))
  exact jP () trivial [0,1] ⟨⟨_,rfl,fun _ _ _ h=>h⟩,⟨_,rfl,(fun S w V h=>bI (by rw [hA]) S w V (Cj (by rw [List.length_map,hAs.1]; exact hvl) S w V h))⟩,trivial⟩ (by decide) (a1U rfl (fX (eU rfl) (lT (by rw [hA]))) (fX (eU rfl) (aM (by rw [hA]))))
end
section
open Go Go.RowKit
abbrev Ey (M bs:List (List Qi)) (i:Nat):List Qi:=dD M i ++ bs.map fun b=>gv b i
def kB (M bs:List (List Qi)) (n:Nat):List (List Qi):=tab n (Ey M bs)
theorem a0S {r:List Qi} {bs:List (List Qi)} {i j:Nat} (h:j < bs.length):(r ++ (bs.take j).map fun b=>gv b i) ++ [gv (bs.getD j []) i] = r ++ (bs.take (j + 1)).map fun b=>gv b i:=by
 rw [List.append_assoc,List.take_add_one,List.map_append]
 simp [List.getD,h]
theorem lN {M bs:List (List Qi)} {n m:Nat} (h:dT M n m):dT (kB M bs n) n (m + bs.length):=by
 refine ⟨aC _ _,fun r hr=>?_⟩
 obtain ⟨i,hi,rfl⟩:=iZ.1 hr
 rw [List.length_append,List.length_map,h.row hi]
theorem yG {M bs : List (List Qi)} {n L : Nat} (h : bP M L) (hb : bP bs L) (hL : 1 ≤ L) : bP (kB M bs n) L := fun r hr x hx => by
 obtain ⟨i,hi,rfl⟩:=iZ.1 hr
 rcases List.mem_append.1 hx with h1 | h1
 ·exact h.row i x h1
 ·obtain ⟨b, hb1, rfl⟩ := List.mem_map.1 h1
  exact dA.get (hb b hb1) hL i
def oH (U : List (List Qi)) (x : List Qi) (n c : Nat) : Nat → Qi
 | 0=>gm U c n
 | k + 1=>oH U x n c k - gm U c (c + 1 + k) * gv x (c + 1 + k)
def pU (U : List (List Qi)) (n : Nat) : Nat → List Qi
 | 0=>tab n fun _=>Qi.zero
 | j + 1=>(pU U n j).set (n - (j + 1)) (oH U (pU U n j) n (n - (j + 1)) j / gm U (n - (j + 1)) (n - (j + 1)))
theorem wD (U : List (List Qi)) (n : Nat) : ∀ j, (pU U n j).length = n
 | 0=>aC _ _
 | j + 1=>by rw [pU,List.length_set,wD U n j]
def uU (M:List (List Qi)) (b:List Qi) (n:Nat):List (List Qi) × Nat × Int:=dI (kB M [b] n) n
def kA (M:List (List Qi)) (b:List Qi) (n:Nat):Int:=if 0 ≤ (uU M b n).2.2 then 6 else 0
def lB (M:List (List Qi)) (b:List Qi) (n:Nat):List Qi:=pU (uU M b n).1 n n
def qO (G : Nat) : Nat → Nat
 | 0=>G
 | j + 1=>j * (qO G j + G + 2) + 4 * G + 2
theorem xT (G j:Nat):qO G j ≤ qO G (j + 1):=by
 cases j with
 | zero=>simp only [qO]; omega
 | succ j =>
  have:qO G (j + 1) + G + 2 ≤ (j + 1) * (qO G (j + 1) + G + 2):=Nat.le_mul_of_pos_left _ zo
  rw [show qO G (j + 1 + 1) = (j + 1) * (qO G (j + 1) + G + 2) + 4 * G + 2 from rfl]
  omega
theorem Dg (G : Nat) : ∀ j, G ≤ qO G j
 | 0=>Nat.le_refl _
 | j + 1=>Nat.le_trans (Dg G j) (xT G j)
theorem xS (G : Nat) : ∀ {i j : Nat}, i ≤ j → qO G i ≤ qO G j
 | i,0,h=>by rw [show i = 0 by omega]; exact Nat.le_refl _
 | i, j + 1, h => by
  by_cases e:i = j + 1
  ·rw [e]; exact Nat.le_refl _
  ·exact Nat.le_trans (xS G (show i ≤ j by omega)) (xT G j)
theorem qV {M : List (List Qi)} {n m : Nat} (hs : dT M n m) : ∀ {c : Nat}, c ≤ n → (dI M c).2.2 < 0 → ∀ i, i < c → gm (dI M c).1 i i ≠ Qi.zero
 | 0,_,_,i,hi=>by omega
 | c + 1, hc, hst, i, hi => by
  have sh:=qW hs (c:=c) zo
  obtain ⟨_,i2,i3,i4⟩:=nC (M:=(dI M c).1) (c:=c) (n:=M.length) (by rw [hs.1]; omega)
  simp only [dI] at hst ⊢
  split at hst
  ·rename_i h0; omega
  ·rename_i h0
   rw [if_neg h0]
   split at hst
   ·simp at hst; omega
   ·rename_i h1
    rw [if_neg h1]
    have ih:=qV hs (c:=c) zo zo
    have hl : ∀ X : List (List Qi), X.length = n → gm (nG X c M.length) i i = gm X i i := fun X hX => by
     show gv (dD (nG X c M.length) i) i = _
     rw [xI zo zo]
    by_cases e:pv (dI M c).1 c M.length = c
    ·rw [if_pos e, hl _ sh.1]
     by_cases e2:i = c
     ·rw [e2]; have:=i4 (by have:=hs.1; omega); rw [e] at this; exact this
     ·exact ih i zo
    ·have hpl : pv (dI M c).1 c M.length < n := by rw [← hs.1]; omega
     rw [if_neg e,hl _ ((If _ _ _ _).trans sh.1)]
     by_cases e2:i = c
     ·rw [e2]
      show gv (dD (swp [] _ _ c) c) c ≠ _
      rw [yX (by rw [sh.1]; omega)]
      exact i4 (by have:=hs.1; omega)
     ·have : dD (swp [] (dI M c).1 (pv (dI M c).1 c M.length) c) i = dD (dI M c).1 i := by
       simp only [dD,swp,List.getD]
       rw [List.getElem?_set_ne (Ne.symm e2),List.getElem?_set_ne zo]
      show gv (dD (swp [] _ _ c) i) i ≠ _
      rw [this]; exact ih i zo
theorem Av {U : List (List Qi)} {x : List Qi} {n c G X : Nat} (hU : bP U G) (hx : dA x X) (hG : 1 ≤ G) (hX : 1 ≤ X) : ∀ k, aO (oH U x n c k) (G + k * (G + X + 2))
 | 0=>(hU.get hG c n).le zo
 | k + 1 => by
  haveI f1:=Av (n:=n) (c:=c) hU hx hG hX k
  haveI f2:=hU.get hG c (c + 1 + k)
  haveI f3:=hx.get hX (c + 1 + k)
  have:aO (oH U x n c (k + 1)) (G + k * (G + X + 2) + (G + X + 1) + 1):=by unfold oH; infer_instance
  exact this.le (by rw [Nat.add_mul]; omega)
theorem a2S {U:List (List Qi)} {x:List Qi} {n c G X j:Nat} (hU:bP U G) (hx:dA x X) (hG:1 ≤ G) (hX:1 ≤ X) (hz:gm U c c ≠ Qi.zero):aO (oH U x n c j / gm U c c) (j * (X + G + 2) + 4 * G + 2):=by
 have f1:=Av (n:=n) (c:=c) hU hx hG hX j
 have f2:=hU.get hG c c
 have:aO (oH U x n c j / gm U c c) (G + j * (G + X + 2) + 3 * G + 2):=⟨f1.fit.div f2.fit hz⟩
 exact this.le (by rw [Nat.add_comm X G]; omega)
theorem Mc {U : List (List Qi)} {n G : Nat} (hU : bP U G) (hG : 1 ≤ G) (hz : ∀ i, i < n → gm U i i ≠ Qi.zero) : ∀ j, j ≤ n → dA (pU U n j) (qO G j)
 | 0,_=>dA.tab fun _ _=>aO.zero hG
 | j + 1, hj => fun y hy => by
  have ih:=Mc hU hG hz j zo
  rcases List.mem_or_eq_of_mem_set hy with h1 | h1
  ·exact (ih y h1).le (xT G j)
  ·rw [h1]; exact a2S hU ih hG (Nat.le_trans hG (Dg G j)) (hz _ zo)
theorem Zt {M:List (List Qi)} {b:List Qi} {n:Nat} (h:dT M n n):dT (uU M b n).1 n (n + 1):=qW (lN h) (Nat.le_refl n)
theorem Lm {M:List (List Qi)} {b:List Qi} {n L:Nat} (h:dT M n n) (hM:bP M L) (hb:dA b L) (hL:1 ≤ L):bP (uU M b n).1 (cE L n):=By (lN h) (yG hM (fun r hr=>by simp at hr; subst hr; exact hb) hL) hL (Nat.le_refl n)
theorem Zu {M : List (List Qi)} {b : List Qi} {n L : Nat} (h : dT M n n) (hM : bP M L) (hb : dA b L) (hL : 1 ≤ L) (hE : (uU M b n).2.2 < 0) : dA (lB M b n) (qO (cE L n) n) :=
 Mc (Lm h hM hb hL) (Nat.le_trans hL (oK L n)) (qV (lN h) (Nat.le_refl n) hE) n (Nat.le_refl n)
def mR (n i:Nat):List Qi:=(tab n fun _=>Qi.zero).set i (Qi.ofInt 1)
def xU (n:Nat):List (List Qi):=tab n (mR n)
theorem Ai (n:Nat):dT (xU n) n n:=⟨aC _ _,fun r hr=>by obtain ⟨i,_,rfl⟩:=iZ.1 hr; rw [mR,List.length_set,aC]⟩
theorem wQ:aO (Qi.ofInt 1) 1:=⟨Qi.Fit.int (L:=1) (by decide) (by decide)⟩
theorem Fx {n i L : Nat} (h : 1 ≤ L) : dA (mR n i) L := fun x hx => by
 rcases List.mem_or_eq_of_mem_set hx with h1 | h1
 ·obtain ⟨_,_,rfl⟩:=iZ.1 h1; exact aO.zero h
 ·rw [h1]; exact wQ.le h
theorem a15 {n L:Nat} (h:1 ≤ L):bP (xU n) L:=fun r hr=>by obtain ⟨i,_,rfl⟩:=iZ.1 hr; exact Fx h
theorem a23 {M:List (List Qi)} {b:List Qi} {n:Nat} (h:¬ 0 ≤ (uU M b n).2.2):(uU M b n).2.2 < 0:=by omega
theorem Ax (F:Qi → Ty) (n:Nat):List.replicate n (F Qi.zero) = (tab n fun _=>Qi.zero).map F:=by rw [rY,xK]
theorem a4h {n j:Nat} (h:(0:Int) ≤ (n:Int) - 1 - (j:Int)):j < n:=by omega
theorem a4i {n j:Nat} (h:(n:Int) - 1 - (j:Int) < 0):n ≤ j:=by omega
theorem Vr {G X k j:Nat} (h:k < j):k * (G + X + 2) + (G + X + 2) ≤ j * (X + G + 2):=by
 rw [Nat.add_comm X G,← Nat.succ_mul]; exact Nat.mul_le_mul_right _ h
end
section
open Go Go.RowKit
theorem Wn {M:List (List Qi)} {n:Nat} (h:dT M n n) (h1:1 ≤ n) (hn:n ≤ 32):bE Tryz.prog 174 [cM M] (aE true):=by
 have hl:=h.1
 refine bE.intro Tryz.func174 rfl Tryz.ntmps174 rfl (fun cx=>(ts (ro rfl (cQ cV) (eX (ts (rm rfl (ro rfl (cZ Tryz.call240 (tV h h1 hn hn) ⟨(Ht rfl),trivial⟩) (rm rfl (ro rfl (dK (Ht rfl) rfl) (ro rfl (dK (Ht rfl) rfl) (ra rfl (ra rfl (eX (ts (rm rfl (rm rfl (fQ rfl rfl (eK rfl rfl (Ht rfl) (fun h=>cX (Ht rfl))) (fQ rfl rfl (eK rfl rfl (Ht rfl) (fun h=>cX (Ht rfl))) (fQ rfl rfl (eK rfl rfl (Ht rfl) (fun h=>dG U_30 (fJ rfl h) aA)) (fQ rfl rfl (eK rfl rfl (Ht rfl) (fun h=>cP (fJ rfl h) (fJ rfl h))) ?_))))))))))))))))))))
 refine ro rfl (fF (Ht rfl) (fun h=>(fJ rfl h))) (ra rfl (eX (fW rfl (fX (eU rfl) ?_))))
 exact (eH (by simp [hl]))
theorem Sh {M bs:List (List Qi)} {n m:Nat} (hM:dT M n m) (hb:∀ b,b ∈ bs → n ≤ b.length) (hn:n ≤ 1000) (hm:m ≤ 1000) (hbl:bs.length ≤ 1000):iA Tryz.prog 193 [cM M,cM bs] [] (Nat) (fun B=>Is (.slice (some ⟨B,0,none⟩) n n)) (fun B=>[pG B 29 51 5 (bN aR (kB M bs n))]) (fun _=>True):=by
 have hMl:=hM.1
 refine iA.intro Tryz.func193 rfl Tryz.ntmps193 rfl (fun cx Z=>(ts (ro rfl (cQ cV) (eX (ts (rm rfl (ro rfl (dG U_30 (Ht rfl) aA) (rn rfl (eN (T:=Is (.slice none 0 0)) (i:=Tryz.t29) V_30 mX rfl rfl (Ht rfl) rfl (fun _=>rfl) trivial (by show 24 * _ ≤ _; omega) zo) fun B12=>(ra rfl (eX (cK (ts (rm rfl (ro rfl (dG U_30 (Ht rfl) aA) (ro rfl (cX (cJ 0)) (eX (eG (lE 1 rfl (uH (e:=51) (s:=5)) ?_))))))))))))))))))
 refine bO (fun (i : Nat) => i ≤ M.length) (fun (i : Nat) => M.length - i) (fun (i : Nat) => [(0, cM M), (1, cM bs), (5, Is (.slice (some ⟨B12, 0, none⟩) M.length M.length)), (13, cM M), (14, NT .i64 M.length), (15, NT .i64 i)]) (fun (i : Nat) => [Z, pG B12 29 51 5 (bN aR (jA (Ey M bs) [] M.length i))]) 0 (Nat.zero_le _)
  (zS rfl) (aU (fun _ _ _ h=>h) (aU (bI (by rw [← gH,lR]; exact mD aR M.length)) aY)) (fun i hi=>?_)
 refine ts (ro rfl (gX (Ht rfl) (Ht rfl)) (eX (cK (dQ (Ht rfl) (fun hd0=>?_) (fun hd0=>?_)))))
 ·simp only [decide_eq_true_eq] at hd0
  have hrl:(dD M i).length = m:=hM.row zo
  have hrl2:(M.getD i []).length = m:=hrl
  refine pR 1 (i) rfl (lG hd0) (fun v0=>(cU (cK (eG (ts (rm rfl (ro rfl (dZ U_30 Z_29 (Ht rfl) (Ht rfl) rfl (dY (dU (d:=[]) hd0))) (ro rfl (dJ A_29 Z_29 (Ht rfl)) (ra rfl (ra rfl (eX (ts (rm rfl (rm rfl (rm rfl (jU Tryz.call158 (Iu (l:=M.getD i []) zo) ⟨(Ht rfl),trivial⟩ rfl (fun v1 _=>(ro rfl (fY U_30 Z_29 (Ht rfl) (Ht rfl) rfl zo (by rw [Nat.mul_one,Nat.zero_add])) ?_))))))))))))))))))
  refine sG Z_29 (Ht rfl) (Ht rfl) (by simp only [bN,List.length_map,dC]; omega) (j:=1) (l:=3) rfl rfl rfl ?_
  refine eX (ts (rm rfl (ro rfl (dG U_30 (Ht rfl) aA) (ro rfl (cX (cJ 0)) (eX (eG (cA [0,1,3] rfl (by decide) ?_)))))))
  refine eA (fun (j : Nat) (v : Value) => j ≤ bs.length) (fun (j : Nat) (v : Value) => bs.length - j) (fun (j : Nat) (v : Value) => [(0, cM M), (1, cM bs), (5, Is (.slice (some ⟨B12, 0, none⟩) M.length M.length)), (6, NT .i64 i), (13, cM M), (14, NT .i64 M.length), (15, NT .i64 i), (25, cM bs), (26, NT .i64 bs.length), (27, NT .i64 j)]) (fun (j : Nat) (v : Value) => [Z, Th B12 29 51 5 (bN aR (jA (Ey M bs) [] M.length i)) i v, bH 51 5 v ((dD M i ++ (bs.take j).map fun b => gv b i).map aR)]) 0 v1 (Nat.zero_le _)
   (zS rfl) (aU (fun _ _ _ h=>h) (aU (fun _ _ _ h=>h) (aU (aD (by simp)) aY))) (fun j v hj=>?_)
  refine ts (ro rfl (gX (Ht rfl) (Ht rfl)) (eX (cK (dQ (Ht rfl) (fun he=>?_) (fun he=>?_)))))
  ·simp only [decide_eq_true_eq] at he
   have hbj:i < (bs.getD j []).length:=by have h1:=hb (bs.getD j []) (by rw [a0Z he]; exact List.getElem_mem _); omega
   refine cU (cK (eG (ts (ro rfl (dZ U_30 Z_29 (Ht rfl) (Ht rfl) rfl (dY (dU (d:=[]) he))) (ro rfl (dJ A_29 Z_29 (Ht rfl)) (ra rfl (eX (Y.D_startA (m:=12) [] 11 2 rfl rfl (bY (Ei:=[(5,_)]) rfl rfl (bQ (bJ rfl rfl) bX) rfl rfl (dX rfl (cX (Ht rfl))) (bY (Ei:=[(6,_)]) rfl rfl (bQ (bJ rfl rfl) bX) rfl rfl (dX rfl (cX (Ht rfl))) (bY (Ei:=[(5,_)]) rfl rfl (bQ (bJ rfl rfl) bX) rfl rfl (dX rfl (cX (Ht rfl))) ?_)))))))))))
   refine bY (Ei:=[(6,_)]) rfl rfl (bQ (bJ rfl rfl) bX) rfl rfl (dX rfl (cX (Ht rfl))) (bY (Ei:=[(33,_),(34,_)]) rfl rfl (bQ (bZ 2 rfl rfl) (bQ (bZ 3 rfl rfl) bX)) rfl rfl (dX rfl (fY U_30 Z_29 (Ht rfl) (Ht rfl) rfl zo (by rw [Nat.mul_one,Nat.zero_add]))) ?_)
   refine bY (Ei:=[(35,_)]) rfl rfl (bQ (bZ 4 rfl rfl) bX) rfl rfl (dX rfl (iF A_29 Z_29 (Ht rfl) (j:=1) rfl)) (bY (Ei:=[(9,_)]) rfl rfl (bQ (bJ rfl rfl) bX) rfl rfl (dX rfl (cX (Ht rfl))) (bY (Ei:=[(6,_)]) rfl rfl (bQ (bJ rfl rfl) bX) rfl rfl (dX rfl (cX (Ht rfl))) (bY (Ei:=[(37,_),(38,_)]) rfl rfl (bQ (bZ 6 rfl rfl) (bQ (bZ 7 rfl rfl) bX)) rfl rfl (dX rfl (dZ U_29 Z_51 (Ht rfl) (Ht rfl) rfl (dY (dU (d:=Qi.zero) hbj)))) ?_)))
   refine bY (Ei:=[(39,_)]) rfl rfl (bQ (bZ 8 rfl rfl) bX) rfl rfl (dX rfl (dJ A_51 Z_51 (Ht rfl))) (bY (Ei:=[(40,_)]) rfl rfl (bQ (bZ 9 rfl rfl) bX) rfl rfl (dX rfl (bT (xs:=[.tmp 40]) U_29 Z_51 O_51 (cW (Ht rfl) cG) rfl rfl rfl)) (Y.D_app (Ei:=[(36,_),(41,_)]) rfl rfl rfl rfl (bQ (bZ 5 rfl rfl) (bQ (bZ 10 rfl rfl) bX)) rfl (qQ (inf:=Tryz.t51) nD kV rfl rfl rfl (Ht rfl) (Ht rfl) (by simp) (fun T hT=>by simp at hT; subst hT; exact El.ag rfl) (by show _ * 88 ≤ _; simp only [List.length_map,List.length_append,List.length_take,List.length_cons,List.length_nil]; omega) (by simp only [List.length_map,List.length_append,List.length_take,List.length_cons,List.length_nil]; omega)) ?_))
   refine Y.D_done aT rfl (by kernel_rfl) rfl (by simp [Y.okP]) rfl rfl (bU (bU (bU (bU (bU (bU (bU (bU (bU (bU (bU (Y.F_app (fun v2=>Y.F_nil ?_)))))))))))))
   refine ro rfl (fY U_30 Z_29 (Ht rfl) (Ht rfl) rfl zo (by rw [Nat.mul_one,Nat.zero_add])) ?_
   refine sG Z_29 (Ht rfl) (Ht rfl) (by simp only [bN,List.length_map,dC]; omega) (j:=1) (l:=3) rfl rfl rfl ?_
   refine eX (aS (cY (ro rfl (dV (Ht rfl) (cJ 1) z6) (rm rfl (eX (cA [0,1,3] rfl (by decide) (fU (j + 1,v2) he (by dsimp only; omega) (zS rfl) (aU (fun _ _ _ h=>h) (aU (fun _ _ _ h=>h) (aU (aD ((pC aR _ (gv (bs.getD j []) i)).trans (congrArg _ (a0S he)))) aY))))))))))
  ·simp only [decide_eq_false_iff_not] at he
   obtain rfl:bs.length = j:=Nat.le_antisymm zo hj
   refine gV rfl (aS (eR 1 2 rfl rfl (by decide) (by simp only [bN,List.length_map,dC]; omega) ?_))
   refine cY (ro rfl (dV (Ht rfl) (cJ 1) z6) (rm rfl (eX (cA [0,1] rfl (by decide) (fU (i + 1) hd0 zo (zS rfl) (aU (fun _ _ _ h=>h) (aU (bI (by rw [List.take_length,fH,← iQ (f:=Ey M bs)])) aY)))))))
 ·simp only [decide_eq_false_iff_not] at hd0
  obtain rfl:i = M.length:=Nat.le_antisymm hi zo
  subst hMl
  refine gV rfl (ts (rm rfl (ra rfl (eX ?_))))
  exact jP B12 trivial [0,1] ⟨⟨_,rfl,fun _ _ _ h=>h⟩,⟨_,rfl,(bI (by rw [iP]; rfl))⟩,trivial⟩ (by decide) (tK rfl (eU rfl))
end
end Go.Proofs.YteohomnhncjcnaaGreat
