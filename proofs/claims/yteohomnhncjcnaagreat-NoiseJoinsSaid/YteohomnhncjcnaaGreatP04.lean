/- What functions of the program compute, proved by walks over their code, and the plain mathematics of it; a part of the proof in the last text. -/
import Derived.Test.YteohomnhncjcnaaGreatP03
set_option linter.unusedVariables false
set_option linter.unusedSimpArgs false
set_option maxRecDepth 100000
set_option maxHeartbeats 4000000
namespace Go.Proofs.YteohomnhncjcnaaGreat
section
open Go Go.RowKit
theorem gL {b:Bool} {m:Nat}:az Tryz.prog 266 [ab b,ai m] (bI (ny b m)):=by
 refine az.intro Tryz.func266 rfl Tryz.ntmps266 rfl (fun cx=>(ts (rn rfl (eW (Ts:=[Is (.bool false),Is (.slice none 0 0)]) O_129 rfl (fun V=>aW zd (aW zd (aG)))) fun B4=>(eX (ts (rm rfl (rm rfl (fQ rfl rfl (eK rfl rfl (Ht rfl) (fun h=>cX (Ht rfl))) (fQ rfl rfl (eK rfl rfl (Ht rfl) (fun h=>dG U_46 (fJ rfl h) a7)) (fQ rfl rfl (eK rfl rfl (Ht rfl) (fun h=>bD (fJ rfl h) (cJ 0))) (ro rfl (c7 (Ht rfl) (fun h=>(fJ rfl h))) (rm rfl ?_))))))))))))
 refine ro rfl (gf (Ht rfl) (Ht rfl)) (gQ Z_129 (Ht rfl) (Ht rfl) rfl (i:=0) rfl (aK rfl) rfl rfl (eX (fW rfl (fX (fK A_129 Z_129 rfl (i:=0) rfl rfl) ?_))))
 exact yc
theorem mj {n:Int} (h1:-9223372036854775808 ≤ n) (h2:n ≤ 9223372036854775807):az Tryz.prog 227 [ap .i64 n] (bI n):=by
 refine az.intro Tryz.func227 rfl Tryz.ntmps227 rfl (fun cx=>(ts (rn rfl (eW (Ts:=[Is (.bool false),Is (.slice none 0 0)]) O_129 rfl (fun V=>aW zd (aW zd (aG)))) fun B2=>(eX (cK (ts (rm rfl (ro rfl (iG (Ht rfl) cV) (eX (dQ (Ht rfl) (fun hb=>?_) (fun hb=>?_)))))))))))
 ·have hn : n < 0 := by simpa using hb
  refine ts (rm rfl (ro rfl (yq (Ht rfl) (r:=IntKind.i64.wrap (-n)) rfl) ?_))
  refine ro rfl (lg U_2 U_254 (Ht rfl) (r:=((n.natAbs:Nat):Int)) (by rw [IntKind.wrap_u64,IntKind.wrap_i64]; omega)) ?_
  refine ro rfl (cZ Tryz.call268 (pf zo) ⟨(Ht rfl),trivial⟩) (ro rfl (gf cV (Ht rfl)) (gQ Z_129 (Ht rfl) (Ht rfl) rfl (i:=0) rfl (aK rfl) rfl rfl (eX (fW rfl (fX (fK A_129 Z_129 rfl (i:=0) rfl rfl) ?_)))))
  exact (gM (by rw [hb]; rfl))
 ·have hn : ¬ n < 0 := by simpa using hb
  refine cU (ts (rm rfl (ro rfl (lg U_2 U_254 (Ht rfl) (r:=((n.natAbs:Nat):Int)) (by rw [IntKind.wrap_u64]; omega)) ?_)))
  refine ro rfl (cZ Tryz.call268 (pf zo) ⟨(Ht rfl),trivial⟩) (ro rfl (gf cV (Ht rfl)) (gQ Z_129 (Ht rfl) (Ht rfl) rfl (i:=0) rfl (aK rfl) rfl rfl (eX (fW rfl (fX (fK A_129 Z_129 rfl (i:=0) rfl rfl) ?_)))))
  exact (gM (by rw [hb]; rfl))
theorem iA {x:Int}:az Tryz.prog 228 [bI x] (bI (-x)):=by
 refine az.intro Tryz.func228 rfl Tryz.ntmps228 rfl (fun cx=>(ts (rn rfl (fG (Ht rfl)) fun B1=>(rn rfl (eW (Ts:=[Is (.bool false),Is (.slice none 0 0)]) O_129 rfl (fun V=>aW zd (aW zd (aG)))) fun B2=>(eX (ts (ro rfl (eZ cI (Ht rfl) rfl) (ro rfl (eY A_4 Z_4 (Ht rfl) (i:=0) rfl rfl) (ro rfl (co (Ht rfl)) (ro rfl (eZ bw (Ht rfl) rfl) (ro rfl (eY A_46 Z_46 (Ht rfl) (i:=0) rfl rfl) (ro rfl (cZ K_266 gL ⟨(Ht rfl),(Ht rfl),trivial⟩) ?_))))))))))))
 refine gQ Z_129 (Ht rfl) (Ht rfl) rfl (i:=1) rfl (aK rfl) rfl rfl (eX (fW rfl (fX (fK A_129 Z_129 rfl (i:=1) rfl rfl) ?_)))
 exact (fh (q9 x))
theorem kQ {x y:Int} (hx:(dg x.natAbs).length ≤ 17592186044416) (hy:(dg y.natAbs).length ≤ 17592186044416):az Tryz.prog 230 [bI x,bI y] (bI (x + y)):=by
 refine az.intro Tryz.func230 rfl Tryz.ntmps230 rfl (fun cx=>(ts (rn rfl (fG (Ht rfl)) fun B2=>(rn rfl (fG (Ht rfl)) fun B3=>(rn rfl (eW (Ts:=[Is (.bool false),Is (.slice none 0 0)]) O_129 rfl (fun V=>aW zd (aW zd (aG)))) fun B4=>(eX (cK (ts (ro rfl (eZ cI (Ht rfl) rfl) (ro rfl (eY A_4 Z_4 (Ht rfl) (i:=0) rfl rfl) (ro rfl (eZ cI (Ht rfl) rfl) (ro rfl (eY A_4 Z_4 (Ht rfl) (i:=1) rfl rfl) (ro rfl (zL U_4 (Ht rfl) (Ht rfl)) ?_)))))))))))))
 refine eX (dQ (Ht rfl) (fun hb=>?_) (fun hb=>?_))
 ·have he : decide (x < 0) = decide (y < 0) := by simpa using hb
  refine cK (fZ (m:=7) (dp 2 rfl (eZ cI (Ht rfl) rfl) (dq 10 0 rfl (eY A_4 Z_4 (Ht rfl) (i:=0) rfl rfl) (dp 2 rfl (eZ bw (Ht rfl) rfl) (dq 12 2 rfl (eY A_46 Z_46 (Ht rfl) (i:=0) rfl rfl) (dp 3 rfl (eZ bw (Ht rfl) rfl) (dq 14 4 rfl (eY A_46 Z_46 (Ht rfl) (i:=1) rfl rfl) (b8 13 3 15 5 rfl (cZ Tryz.call269 (xh zo zo) ⟨(Ht rfl),(Ht rfl),trivial⟩) (fV au rfl (by kernel_rfl) (zF (aJ (aJ (aJ (aV ?_))))))))))))))
  refine ro rfl (cZ K_266 gL ⟨(Ht rfl),(Ht rfl),trivial⟩) (gQ Z_129 (Ht rfl) (Ht rfl) rfl (i:=2) rfl (aK rfl) rfl rfl (eX (fW rfl (fX (fK A_129 Z_129 rfl (i:=2) rfl rfl) ?_))))
  exact (fh (sP he))
 ·have he : decide (x < 0) ≠ decide (y < 0) := by simpa using hb
  refine cU (cK (ts (ro rfl (eZ bw (Ht rfl) rfl) (ro rfl (eY A_46 Z_46 (Ht rfl) (i:=0) rfl rfl) (ro rfl (eZ bw (Ht rfl) rfl) (ro rfl (eY A_46 Z_46 (Ht rfl) (i:=1) rfl rfl) (ro rfl (cZ Tryz.call237 (jC zo zo) ⟨(Ht rfl),(Ht rfl),trivial⟩) (ro rfl (eB (Ht rfl) cV) (eX (dQ (Ht rfl) (fun hc=>?_) (fun hc=>?_)))))))))))
  ·have hle : y.natAbs ≤ x.natAbs := qS (by simpa using hc)
   refine cK (fZ (m:=7) (dp 2 rfl (eZ cI (Ht rfl) rfl) (dq 24 0 rfl (eY A_4 Z_4 (Ht rfl) (i:=0) rfl rfl) (dp 2 rfl (eZ bw (Ht rfl) rfl) (dq 26 2 rfl (eY A_46 Z_46 (Ht rfl) (i:=0) rfl rfl) (dp 3 rfl (eZ bw (Ht rfl) rfl) (dq 28 4 rfl (eY A_46 Z_46 (Ht rfl) (i:=1) rfl rfl) (b8 27 3 29 5 rfl (cZ Tryz.call270 (pY zo zo) ⟨(Ht rfl),(Ht rfl),trivial⟩) (fV au rfl (by kernel_rfl) (zF (aJ (aJ (aJ (aV ?_))))))))))))))
   refine ro rfl (cZ K_266 gL ⟨(Ht rfl),(Ht rfl),trivial⟩) (gQ Z_129 (Ht rfl) (Ht rfl) rfl (i:=2) rfl (aK rfl) rfl rfl (eX (fW rfl (fX (fK A_129 Z_129 rfl (i:=2) rfl rfl) ?_))))
   exact (fh (mv he hle))
  ·have hle : x.natAbs ≤ y.natAbs := Nat.le_of_lt (rz (by simpa using hc))
   refine cU (cK (fZ (m:=7) (dp 3 rfl (eZ cI (Ht rfl) rfl) (dq 32 0 rfl (eY A_4 Z_4 (Ht rfl) (i:=1) rfl rfl) (dp 3 rfl (eZ bw (Ht rfl) rfl) (dq 34 2 rfl (eY A_46 Z_46 (Ht rfl) (i:=1) rfl rfl) (dp 2 rfl (eZ bw (Ht rfl) rfl) (dq 36 4 rfl (eY A_46 Z_46 (Ht rfl) (i:=0) rfl rfl) (b8 35 3 37 5 rfl (cZ Tryz.call270 (pY zo zo) ⟨(Ht rfl),(Ht rfl),trivial⟩) (fV au rfl (by kernel_rfl) (zF (aJ (aJ (aJ (aV ?_)))))))))))))))
   refine ro rfl (cZ K_266 gL ⟨(Ht rfl),(Ht rfl),trivial⟩) (gQ Z_129 (Ht rfl) (Ht rfl) rfl (i:=2) rfl (aK rfl) rfl rfl (eX (fW rfl (fX (fK A_129 Z_129 rfl (i:=2) rfl rfl) ?_))))
   exact (fh (by rw [mv (Ne.symm he) hle,Int.add_comm]))
theorem xr {x y:Int} (hx:(dg x.natAbs).length ≤ 17592186044416) (hy:(dg y.natAbs).length ≤ 17592186044416):az Tryz.prog 229 [bI x,bI y] (bI (x + -y)):=by
 have hny:=jI y
 refine az.intro Tryz.func229 rfl Tryz.ntmps229 rfl (fun cx=>(ts (rn rfl (fG (Ht rfl)) fun B2=>(rn rfl (fG (Ht rfl)) fun B3=>(rn rfl (eW (Ts:=[Is (.bool false),Is (.slice none 0 0)]) O_129 rfl (fun V=>aW zd (aW zd (aG)))) fun B4=>(eX (cK (fZ (m:=3) (dp 2 rfl (eJ A_129 Z_129 (Ht rfl) (i:=0) rfl rfl rfl) (dp 3 rfl (eJ A_129 Z_129 (Ht rfl) (i:=1) rfl rfl rfl) (dq 6 1 rfl (cZ K_228 iA ⟨(Ht rfl),trivial⟩) (fV au rfl (by kernel_rfl) (aJ (aJ (aJ (aV ?_))))))))))))))))
 refine ro rfl (cZ Tryz.call230 (kQ zo zo) ⟨(Ht rfl),(Ht rfl),trivial⟩) (gQ Z_129 (Ht rfl) (Ht rfl) rfl (i:=2) rfl (aK rfl) rfl rfl (eX ?_))
 exact fW rfl (fK A_129 Z_129 rfl (i:=2) rfl rfl)
theorem eL {x y:Int} (hx:(dg x.natAbs).length ≤ 17592186044416) (hy:(dg y.natAbs).length ≤ 17592186044416):az Tryz.prog 225 [bI x,bI y] (bI (x * y)):=by
 refine az.intro Tryz.func225 rfl Tryz.ntmps225 rfl (fun cx=>(ts (rn rfl (fG (Ht rfl)) fun B2=>(rn rfl (fG (Ht rfl)) fun B3=>(rn rfl (eW (Ts:=[Is (.bool false),Is (.slice none 0 0)]) O_129 rfl (fun V=>aW zd (aW zd (aG)))) fun B4=>(eX (cK (fZ (m:=10) (dp 2 rfl (eZ cI (Ht rfl) rfl) (dq 5 0 rfl (eY A_4 Z_4 (Ht rfl) (i:=0) rfl rfl) (dp 3 rfl (eZ cI (Ht rfl) rfl) (dq 7 2 rfl (eY A_4 Z_4 (Ht rfl) (i:=1) rfl rfl) (b8 6 1 8 3 rfl (uB U_4 (Ht rfl) (Ht rfl)) ?_)))))))))))))
 refine dp 2 rfl (eZ bw (Ht rfl) rfl) (dq 10 5 rfl (eY A_46 Z_46 (Ht rfl) (i:=0) rfl rfl) (dp 3 rfl (eZ bw (Ht rfl) rfl) (dq 12 7 rfl (eY A_46 Z_46 (Ht rfl) (i:=1) rfl rfl) (b8 11 6 13 8 rfl (cZ Tryz.call226 (kS zo zo) ⟨(Ht rfl),(Ht rfl),trivial⟩) (fV au rfl (by kernel_rfl) (zF (zF (aJ (aJ (aV (ro rfl (cZ K_266 gL ⟨(Ht rfl),(Ht rfl),trivial⟩) (gQ Z_129 (Ht rfl) (Ht rfl) rfl (i:=2) rfl (aK rfl) rfl rfl ?_))))))))))))
 refine eX (fW rfl (fX (fK A_129 Z_129 rfl (i:=2) rfl rfl) ?_))
 exact (fh (qp x y))
theorem qr {x y:Int} (hx:(dg x.natAbs).length ≤ 17592186044416) (hy:(dg y.natAbs).length ≤ 17592186044416):az Tryz.prog 236 [bI x,bI y] (ap .i64 (fb x y)):=by
 refine az.intro Tryz.func236 rfl Tryz.ntmps236 rfl (fun cx=>(ts (rn rfl (fG (Ht rfl)) fun B2=>(rn rfl (fG (Ht rfl)) fun B3=>(ro rfl (cQ (cJ 0)) (eX (cK (ts (ro rfl (eZ cI (Ht rfl) rfl) (ro rfl (eY A_4 Z_4 (Ht rfl) (i:=0) rfl rfl) (ro rfl (eZ cI (Ht rfl) rfl) (ro rfl (eY A_4 Z_4 (Ht rfl) (i:=1) rfl rfl) (ro rfl (uB U_4 (Ht rfl) (Ht rfl)) (eX (dQ (Ht rfl) (fun hb=>?_) (fun hb=>?_))))))))))))))))
 ·have he : decide (x < 0) ≠ decide (y < 0) := by simpa using hb
  refine cK (ts (ro rfl (eZ cI (Ht rfl) rfl) (ro rfl (eY A_4 Z_4 (Ht rfl) (i:=0) rfl rfl) (eX (dQ (Ht rfl) (fun hc=>?_) (fun hc=>?_))))))
  ·have hn : x < 0 := by simpa using hc
   have hm:¬ y < 0:=by simpa [hn] using he
   refine ts (ro rfl (cQ cV) (eX (fW rfl (fX (eU rfl) ?_))))
   exact (am (by rw [fb,if_pos zo]))
  ·have hn : ¬ x < 0 := by simpa using hc
   have hm:y < 0:=by simpa [hn] using he
   refine cU (ts (ro rfl (cQ (cJ 1)) (eX (fW rfl (fX (eU rfl) ?_)))))
   exact (am (by rw [fb,if_neg zo,if_pos zo]; rfl))
 ·have he : decide (x < 0) = decide (y < 0) := by simpa using hb
  refine cU (cK (ts (ro rfl (eZ cI (Ht rfl) rfl) (ro rfl (eY A_4 Z_4 (Ht rfl) (i:=0) rfl rfl) (eX (dQ (Ht rfl) (fun hc=>?_) (fun hc=>?_)))))))
  ·refine ts (ro rfl (eZ bw (Ht rfl) rfl) (ro rfl (eY A_46 Z_46 (Ht rfl) (i := 1) rfl rfl) (ro rfl (eZ bw (Ht rfl) rfl) (ro rfl (eY A_46 Z_46 (Ht rfl) (i := 0) rfl rfl) (ro rfl (cZ Tryz.call237 (jC zo zo) ⟨(Ht rfl), (Ht rfl), trivial⟩) (ra rfl (eX (fW rfl (fX (eU rfl) ?_)))))))))
   exact (am (rQ he (by simpa using hc)))
  ·refine cU (ts (ro rfl (eZ bw (Ht rfl) rfl) (ro rfl (eY A_46 Z_46 (Ht rfl) (i := 0) rfl rfl) (ro rfl (eZ bw (Ht rfl) rfl) (ro rfl (eY A_46 Z_46 (Ht rfl) (i := 1) rfl rfl) (ro rfl (cZ Tryz.call237 (jC zo zo) ⟨(Ht rfl), (Ht rfl), trivial⟩) (ra rfl (eX (fW rfl (fX (eU rfl) ?_))))))))))
   exact (am (tH he (by simpa using hc)))
theorem m9 {A B:Int} {D:Nat} (hD:0 < D) (hA:(dg A.natAbs).length ≤ 17592186044415) (hB:(dg B.natAbs).length ≤ 17592186044415) (hD2:(dg D).length ≤ 17592186044415):az Tryz.prog 224 [bI A,bI B,ai D] (QT (Qi.mk' A B D)):=by
 have hg1:=p9 hA hB
 have hg2:=p9 hg1 hD2
 have hgp:Nat.gcd (Nat.gcd A.natAbs B.natAbs) D ≠ 0:=fun e=>by have:=Nat.gcd_eq_zero_iff.1 e; omega
 refine az.intro Tryz.func224 rfl Tryz.ntmps224 rfl (fun cx=>(ts (rn rfl (fG (Ht rfl)) fun B3=>(rn rfl (fG (Ht rfl)) fun B4=>(rn rfl (eW (Ts:=[Is (.bool false),Is (.slice none 0 0),Is (.bool false),Is (.slice none 0 0),Is (.slice none 0 0)]) O_131 rfl (fun V=>aW zd (aW zd (aW zd (aW zd (aW zd (aG))))))) fun B6=>(eX (ts (ro rfl (eZ bw (Ht rfl) rfl) (ro rfl (eY A_46 Z_46 (Ht rfl) (i:=0) rfl rfl) ?_)))))))))
 refine ro rfl (eZ bw (Ht rfl) rfl) (ro rfl (eY A_46 Z_46 (Ht rfl) (i:=1) rfl rfl) (ro rfl (cZ Tryz.call264 (tN zo zo) ⟨(Ht rfl),(Ht rfl),trivial⟩) (rm rfl (ro rfl (cZ Tryz.call264 (tN zo zo) ⟨(Ht rfl),(Ht rfl),trivial⟩) (ra rfl (eX (cK (ts (rm rfl (ro rfl (dG U_46 (Ht rfl) a7) (ro rfl (bc (Ht rfl) (cJ 1)) (rm rfl (fQ rfl rfl (eK rfl rfl (Ht rfl) (fun h=>cX (Ht rfl))) (fQ rfl rfl (eK rfl rfl (Ht rfl) (fun h=>dZ U_46 Z_189 (fJ rfl h) (cJ 0) rfl (dY (ae (by first | omega | (simp at h; omega)))))) ?_))))))))))))))
 refine fQ rfl rfl (eK rfl rfl (Ht rfl) (fun h=>dJ A_189 Z_189 (fJ rfl h))) (fQ rfl rfl (eK rfl rfl (Ht rfl) (fun h=>bc (fJ rfl h) (cJ 1))) (ro rfl (c7 (Ht rfl) (fun h=>(fJ rfl h))) (eX (dQ (Ht rfl) (fun hb=>?_) (fun hb=>?_)))))
 ·rw [rd] at hb
  have hg:Qi.g3 A B D = 1:=by simpa [Qi.g3] using hb
  refine ts (ro rfl (eJ A_129 Z_129 (Ht rfl) (i:=0) rfl rfl rfl) (ro rfl (eJ A_129 Z_129 (Ht rfl) (i:=1) rfl rfl rfl) (rm rfl (ro rfl (fO (Ht rfl) (Ht rfl) (Ht rfl)) (gQ Z_131 (Ht rfl) (Ht rfl) rfl (i:=2) rfl (aK rfl) rfl rfl (eX (fW rfl (fX (fK A_131 Z_131 rfl (i:=2) rfl rfl) ?_))))))))
  exact (yi hD hg)
 ·refine cU (ts (ro rfl (eZ bw (Ht rfl) rfl) (ro rfl (eY A_46 Z_46 (Ht rfl) (i := 0) rfl rfl) (rm rfl (ro rfl (cZ K_265 (ns zo zo zo) ⟨(Ht rfl), (Ht rfl), trivial⟩) (rm rfl (ro rfl (dK (Ht rfl) rfl) (ro rfl (dK (Ht rfl) rfl) (ra rfl (ra rfl (eX (ts (ro rfl (eZ bw (Ht rfl) rfl) (ro rfl (eY A_46 Z_46 (Ht rfl) (i := 1) rfl rfl) (rm rfl (ro rfl (cZ K_265 (ns zo zo zo) ⟨(Ht rfl), (Ht rfl), trivial⟩) (rm rfl (ro rfl (dK (Ht rfl) rfl) ?_))))))))))))))))))
  refine ro rfl (dK (Ht rfl) rfl) (ra rfl (ra rfl (eX (ts (rm rfl (rm rfl (ro rfl (cZ K_265 (ns zo zo zo) ⟨(Ht rfl),(Ht rfl),trivial⟩) (rm rfl (ro rfl (dK (Ht rfl) rfl) (ro rfl (dK (Ht rfl) rfl) (ra rfl (ra rfl (eX (cK (fZ (m:=9) (dp 3 rfl (eZ cI (Ht rfl) rfl) (dq 54 0 rfl (eY A_4 Z_4 (Ht rfl) (i:=0) rfl rfl) (dp 8 rfl (cX (Ht rfl)) (b8 55 1 56 2 rfl (cZ K_266 gL ⟨(Ht rfl),(Ht rfl),trivial⟩) (dp 4 rfl (eZ cI (Ht rfl) rfl) ?_))))))))))))))))))))
  refine dq 58 4 rfl (eY A_4 Z_4 (Ht rfl) (i:=1) rfl rfl) (dp 10 rfl (cX (Ht rfl)) (b8 59 5 60 6 rfl (cZ K_266 gL ⟨(Ht rfl),(Ht rfl),trivial⟩) (dp 12 rfl (cX (Ht rfl)) (fV au rfl (by kernel_rfl) (zF (zF (aJ (aV (ro rfl (fO (Ht rfl) (Ht rfl) (Ht rfl)) (gQ Z_131 (Ht rfl) (Ht rfl) rfl (i:=2) rfl (aK rfl) rfl rfl (eX (fW rfl (fX (fK A_131 Z_131 rfl (i:=2) rfl rfl) ?_)))))))))))))
  exact (zj hD rfl)
theorem iJ {n:Int} (h1:-9223372036854775808 ≤ n) (h2:n ≤ 9223372036854775807):az Tryz.prog 148 [ap .i64 n] (QT (Qi.ofInt n)):=by
 refine az.intro Tryz.func148 rfl Tryz.ntmps148 rfl (fun cx=>(ts (rn rfl (eW (Ts:=[Is (.bool false),Is (.slice none 0 0),Is (.bool false),Is (.slice none 0 0),Is (.slice none 0 0)]) O_131 rfl (fun V=>aW zd (aW zd (aW zd (aW zd (aW zd (aG))))))) fun B2=>(eX (ts (rm rfl (ro rfl (cZ Tryz.call227 (mj h1 h2) ⟨(Ht rfl),trivial⟩) (ro rfl (sR ) (ro rfl (aN (xs:=[_]) U_46 Z_189 O_189 (cW (cJ 1) cG) rfl rfl rfl) ?_)))))))))
 refine ro rfl (fO (Ht rfl) (Ht rfl) (Ht rfl)) (gQ Z_131 (Ht rfl) (Ht rfl) rfl (i:=0) rfl (aK rfl) rfl rfl (eX (fW rfl (fX (fK A_131 Z_131 rfl (i:=0) rfl rfl) ?_))))
 exact EU
theorem DT {p q d:Int} (p1:-9223372036854775808 ≤ p) (p2:p ≤ 9223372036854775807) (q1:-9223372036854775808 ≤ q) (q2:q ≤ 9223372036854775807) (d1:-9223372036854775808 ≤ d) (d2:d ≤ 9223372036854775807) (hd:d ≠ 0):az Tryz.prog 145 [ap .i64 p,ap .i64 q,ap .i64 d] (cr [QT (Qi.frac p q d),ap .i64 0]):=by
 have lp:=xx p1 p2; have lq:=xx q1 q2; have ld:=xx d1 d2; have np:=jI p; have nq:=jI q
 refine az.intro Tryz.func145 rfl Tryz.ntmps145 rfl (fun cx=>(ts (rn rfl (eW (Ts:=[Is (.bool false),Is (.slice none 0 0),Is (.bool false),Is (.slice none 0 0),Is (.slice none 0 0)]) O_131 rfl (fun V=>aW zd (aW zd (aW zd (aW zd (aW zd (aG))))))) fun B6=>(ro rfl (cQ (cJ 0)) (eX (cK (ts (rm rfl (ro rfl (dR (Ht rfl) cV) (eX (dP (Ht rfl) (by simp [hd]) ?_)))))))))))
 refine cU (ts (rm rfl (ro rfl (cZ Tryz.call227 (mj d1 d2) ⟨(Ht rfl),trivial⟩) (rn rfl (eW (Ts:=[Is (.bool false),Is (.slice none 0 0)]) O_129 rfl (fun V=>aW zd (aW zd (aG)))) fun B8=>(gQ Z_129 (Ht rfl) (Ht rfl) rfl (i:=1) rfl (aK rfl) rfl rfl (eX (ts (rm rfl (ro rfl (cZ Tryz.call227 (mj p1 p2) ⟨(Ht rfl),trivial⟩) (rm rfl (ro rfl (cZ Tryz.call227 (mj q1 q2) ⟨(Ht rfl),trivial⟩) (rn rfl (eW (Ts:=[Is (.bool false),Is (.slice none 0 0)]) O_129 rfl (fun V=>aW zd (aW zd (aG)))) fun B9=>?_))))))))))))
 refine rn rfl (eW (Ts:=[Is (.bool false),Is (.slice none 0 0)]) O_129 rfl (fun V=>aW zd (aW zd (aG)))) fun B10=>gQ Z_129 (Ht rfl) (Ht rfl) rfl (i:=2) rfl (aK rfl) rfl rfl (gQ Z_129 (Ht rfl) (Ht rfl) rfl (i:=3) rfl (aK rfl) rfl rfl (eX (cK (iV (fun (a:Int) (b:Int)=>Qi.mk' a b d.natAbs = Qi.frac p q d ∧ (dg a.natAbs).length ≤ 2 ∧ (dg b.natAbs).length ≤ 2) (fun (a:Int) (b:Int)=>[(6,aI B6 0),(8,aI B8 0),(9,aI B9 0),(10,aI B10 0)]) (fun (a:Int) (b:Int)=>[box B6 131 [Is (.bool false),Is (.slice none 0 0),Is (.bool false),Is (.slice none 0 0),Is (.slice none 0 0)],box B8 129 [ab (decide (d < 0)),ai (d).natAbs],box B9 129 [ab (decide (a < 0)),ai (a).natAbs],box B10 129 [ab (decide (b < 0)),ai (b).natAbs]]) ?_ (fun a b ⟨hab,ha,hb⟩=>?_)))))
 ·refine ts (ro rfl (eZ cI (Ht rfl) rfl) (ro rfl (eY A_4 Z_4 (Ht rfl) (i := 1) rfl rfl) (eX (dQ (Ht rfl) (fun hn => ?_) (fun hn => ?_)))))
  ·simp only [decide_eq_true_eq] at hn
   refine fZ (m:=3) (dp 9 rfl (eJ A_129 Z_129 (Ht rfl) (i:=2) rfl rfl rfl) (dq 22 0 rfl (cZ K_228 iA ⟨(Ht rfl),trivial⟩) (dp 10 rfl (eJ A_129 Z_129 (Ht rfl) (i:=3) rfl rfl rfl) (fV au rfl (by kernel_rfl) (aJ (aJ (aJ (aV (ro rfl (cZ K_228 iA ⟨(Ht rfl),trivial⟩) (gQ Z_129 (Ht rfl) (Ht rfl) rfl (i:=2) rfl (aK rfl) rfl rfl (gQ Z_129 (Ht rfl) (Ht rfl) rfl (i:=3) rfl (aK rfl) rfl rfl (eX (ax (-p,-q) ⟨Qi.frac_neg hn,by dsimp only; omega,by dsimp only; omega⟩ (zS rfl) (aU (a8 rfl) (aU (a8 rfl) (aU (a8 rfl) (aU (a8 rfl) aY)))))))))))))))))
  ·simp only [decide_eq_false_iff_not] at hn
   refine cU (ax (p,q) ⟨Qi.frac_pos hn hd,by omega,by omega⟩ (zS rfl) (bh.refl _))
 ·refine ts (ro rfl (eJ A_129 Z_129 (Ht rfl) (i := 2) rfl rfl rfl) (ro rfl (eJ A_129 Z_129 (Ht rfl) (i := 3) rfl rfl rfl) (ro rfl (eZ bw (Ht rfl) rfl) (ro rfl (eY A_46 Z_46 (Ht rfl) (i := 1) rfl rfl) (ro rfl (cZ Tryz.call224 (m9 zo zo zo zo) ⟨(Ht rfl), (Ht rfl), (Ht rfl), trivial⟩) (gQ Z_131 (Ht rfl) (Ht rfl) rfl (i := 0) rfl (aK rfl) rfl rfl (ro rfl (cQ (cJ 0)) (eX (aE rfl (fX (fK A_131 Z_131 rfl (i := 0) rfl rfl) ?_) (eU rfl))))))))))
  exact (pC hab)
theorem Fw {r:Rt}:az Tryz.prog 151 [y7 r] (QT r.q):=by
 have hr1:=r.h1; have hr2:=r.h2; have hr3:=r.h3; have hr4:=r.h4; have hr5:=r.d1; have hr6:=r.d2; have hr0:=r.d0
 refine az.intro Tryz.func151 rfl Tryz.ntmps151 rfl (fun cx=>(ts (rn rfl (fG (Ht rfl)) fun B1=>(rn rfl (eW (Ts:=[Is (.bool false),Is (.slice none 0 0),Is (.bool false),Is (.slice none 0 0),Is (.slice none 0 0)]) O_131 rfl (fun V=>aW zd (aW zd (aW zd (aW zd (aW zd (aG))))))) fun B2=>(eX (cK (e9 (fun (uu:Unit)=>True) (fun (uu:Unit)=>[(1,aI B1 0),(2,aI B2 0)]) (fun (uu:Unit)=>[box B1 102 [ap .i64 r.re,ap .i64 r.im,ap .i64 r.d],box B2 131 [Is (.bool false),Is (.slice none 0 0),Is (.bool false),Is (.slice none 0 0),Is (.slice none 0 0)]]) ?_ (fun uu _=>?_))))))))
 ·refine ts (ro rfl (eZ jy (Ht rfl) rfl) (ro rfl (eY A_2 Z_2 (Ht rfl) (i := 0) rfl rfl) (ro rfl (dR (Ht rfl) cV) (eX (dQ (Ht rfl) (fun hb => ?_) (fun hb => ?_))))))
  ·simp only [decide_eq_true_eq] at hb
   refine cY (ro rfl (eZ jy (Ht rfl) rfl) (fe Z_2 (Ht rfl) (cJ 1) (i:=0) rfl (aK rfl) rfl (eX (ax () trivial (zS rfl) (aU (a8 (by rw [Rt.d,if_pos hb]; rfl)) (aU (a8 rfl) aY))))))
  ·simp only [decide_eq_false_iff_not] at hb
   refine cU (ax () trivial (zS rfl) (aU (a8 (by rw [Rt.d,if_neg hb])) (aU (a8 rfl) aY)))
 ·refine ts (ro rfl (eZ rW (Ht rfl) rfl) (ro rfl (eY A_2 Z_2 (Ht rfl) (i := 0) rfl rfl) (ro rfl (eZ t9 (Ht rfl) rfl) (ro rfl (eY A_2 Z_2 (Ht rfl) (i := 0) rfl rfl) (ro rfl (eZ jy (Ht rfl) rfl) (ro rfl (eY A_2 Z_2 (Ht rfl) (i := 0) rfl rfl) (ro rfl (cZ Tryz.call145 (DT hr1 hr2 hr3 hr4 hr5 hr6 hr0) ⟨(Ht rfl), (Ht rfl), (Ht rfl), trivial⟩) (rm rfl (ro rfl (dK (Ht rfl) rfl) (ro rfl (dK (Ht rfl) rfl) (rn rfl (eW (Ts := [Is (.bool false), Is (.slice none 0 0), Is (.bool false), Is (.slice none 0 0), Is (.slice none 0 0)]) O_131 rfl (fun V => aW zd (aW zd (aW zd (aW zd (aW zd (aG))))))) fun B3 => ?_)))))))))))
  refine gQ Z_131 (Ht rfl) (Ht rfl) rfl (i:=2) rfl (aK rfl) rfl rfl (ra rfl (eX (ts (ro rfl (eJ A_131 Z_131 (Ht rfl) (i:=2) rfl rfl rfl) (gQ Z_131 (Ht rfl) (Ht rfl) rfl (i:=1) rfl (aK rfl) rfl rfl (eX ?_))))))
  exact fW rfl (fK A_131 Z_131 rfl (i:=1) rfl rfl)
theorem ug {x y:Qi} {L M:Nat} [hx:ao x L] [hy:ao y M] (h:L + M + 1 ≤ 17592186044415):az Tryz.prog 149 [QT x,QT y] (QT (x + y)):=by
 have hxa:=dN hx.fit; have hxb:=eb hx.fit; have hxd:=dI hx.fit
 have hya:=dN hy.fit; have hyb:=eb hy.fit; have hyd:=dI hy.fit
 have hxp:=x.den_pos; have hyp:=y.den_pos; have hdp:=Nat.mul_pos hxp hyp
 have e1:=bz x.a y.den; have e2:=bz y.a x.den; have e3:=bz x.b y.den; have e4:=bz y.b x.den; have e5:=kC x.den y.den
 have e6:=eO (x:=x.a * y.den) (y:=y.a * x.den) (L:=L + M) zo zo; have e7:=eO (x:=x.b * y.den) (y:=y.b * x.den) (L:=L + M) zo zo
 refine az.intro Tryz.func149 rfl Tryz.ntmps149 rfl (fun cx=>?_)
 have n1:(dg ((x.den:Nat):Int).natAbs).length ≤ L:=by rw [Int.natAbs_natCast]; exact hxd
 have n2:(dg ((y.den:Nat):Int).natAbs).length ≤ M:=by rw [Int.natAbs_natCast]; exact hyd
 refine ts (rn rfl (fG (Ht rfl)) fun B2=>(rn rfl (fG (Ht rfl)) fun B3=>(rn rfl (eW (Ts:=[Is (.bool false),Is (.slice none 0 0),Is (.bool false),Is (.slice none 0 0),Is (.slice none 0 0)]) O_131 rfl (fun V=>aW zd (aW zd (aW zd (aW zd (aW zd (aG))))))) fun B4=>(eX (cK (Y.D_start (m:=9) [] (bY (Ei:=[(2,_)]) rfl rfl (bQ (bJ rfl rfl) bX) rfl rfl (dX rfl (eZ cy (Ht rfl) rfl)) (bY (Ei:=[(7,_)]) rfl rfl (bQ (bZ 0 rfl rfl) bX) rfl rfl (dX rfl (eY A_46 Z_46 (Ht rfl) (i:=0) rfl rfl)) ?_))))))))
 refine bY (Ei:=[(8,_)]) rfl rfl (bQ (bZ 1 rfl rfl) bX) rfl rfl (dX rfl (al.imp (gf cV (Ht rfl)) nk)) (bY (Ei:=[(3,_)]) rfl rfl (bQ (bJ rfl rfl) bX) rfl rfl (dX rfl (eZ cy (Ht rfl) rfl)) (bY (Ei:=[(10,_)]) rfl rfl (bQ (bZ 3 rfl rfl) bX) rfl rfl (dX rfl (eY A_46 Z_46 (Ht rfl) (i:=1) rfl rfl)) (bY (Ei:=[(11,_)]) rfl rfl (bQ (bZ 4 rfl rfl) bX) rfl rfl (dX rfl (al.imp (gf cV (Ht rfl)) nk)) ?_)))
 refine Y.D_newp (Ei:=[]) (fun bb=>box bb 129 [ab (decide (((x.den:Nat):Int) < 0)),ai (((x.den:Nat):Int)).natAbs]) 8 rfl rfl rfl bX rfl rfl (by kernel_rfl) (eW (Ts:=[Is (.bool false),Is (.slice none 0 0)]) O_129 rfl (fun V=>aW zd (aW zd (aG)))) (Y.D_new (Ei:=[]) rfl rfl rfl bX rfl rfl (eW (Ts:=[Is (.bool false),Is (.slice none 0 0)]) O_129 rfl (fun V=>aW zd (aW zd (aG)))) (Y.D_putN (Ei:=[(9,_)]) 6 rfl rfl rfl rfl rfl rfl (bQ (bZ 2 rfl rfl) bX) (fun bb=>k5 Z_129 (Ht rfl) (Ht rfl) rfl (i:=0) rfl (aK rfl) rfl rfl) ?_))
 refine Y.D_done au rfl (by kernel_rfl) rfl (by simp [Y.okP]) rfl rfl (bU (bU (bU (bU (bU (bU (Y.F_newp (fun B5=>Y.F_new (fun B6=>Y.F_putN (Y.F_nil ?_))))))))))
 refine gQ Z_129 (Ht rfl) (Ht rfl) rfl (i:=4) rfl (aK rfl) rfl rfl (eX (cK (fZ (m:=22) (dp 2 rfl (eZ cw (Ht rfl) rfl) (dq 13 0 rfl (eJ A_129 Z_129 (Ht rfl) (i:=0) rfl rfl rfl) (dp 6 rfl (eJ A_129 Z_129 (Ht rfl) (i:=4) rfl rfl rfl) (b8 14 1 15 2 rfl (cZ K_225 (eL zo zo) ⟨(Ht rfl),(Ht rfl),trivial⟩) (dp 3 rfl (eZ cw (Ht rfl) rfl) (dq 17 4 rfl (eJ A_129 Z_129 (Ht rfl) (i:=1) rfl rfl rfl) (dp 5 rfl (eJ A_129 Z_129 (Ht rfl) (i:=3) rfl rfl rfl) ?_))))))))))
 refine b8 18 5 19 6 rfl (cZ K_225 (eL zo zo) ⟨(Ht rfl),(Ht rfl),trivial⟩) (b8 16 3 20 7 rfl (cZ Tryz.call230 (kQ zo zo) ⟨(Ht rfl),(Ht rfl),trivial⟩) (dp 2 rfl (eZ cH (Ht rfl) rfl) (dq 22 9 rfl (eJ A_129 Z_129 (Ht rfl) (i:=0) rfl rfl rfl) (dp 6 rfl (eJ A_129 Z_129 (Ht rfl) (i:=4) rfl rfl rfl) (b8 23 10 24 11 rfl (cZ K_225 (eL zo zo) ⟨(Ht rfl),(Ht rfl),trivial⟩) (dp 3 rfl (eZ cH (Ht rfl) rfl) (dq 26 13 rfl (eJ A_129 Z_129 (Ht rfl) (i:=1) rfl rfl rfl) ?_)))))))
 refine dp 5 rfl (eJ A_129 Z_129 (Ht rfl) (i:=3) rfl rfl rfl) (b8 27 14 28 15 rfl (cZ K_225 (eL zo zo) ⟨(Ht rfl),(Ht rfl),trivial⟩) (b8 25 12 29 16 rfl (cZ Tryz.call230 (kQ zo zo) ⟨(Ht rfl),(Ht rfl),trivial⟩) (dp 2 rfl (eZ cy (Ht rfl) rfl) (dq 31 18 rfl (eY A_46 Z_46 (Ht rfl) (i:=0) rfl rfl) (dp 3 rfl (eZ cy (Ht rfl) rfl) (dq 33 20 rfl (eY A_46 Z_46 (Ht rfl) (i:=1) rfl rfl) (fV au rfl (by kernel_rfl) (zF (zF (zF (zF (zF (aJ (aJ (aV ?_)))))))))))))))
 refine ro rfl (cZ Tryz.call226 (kS zo zo) ⟨(Ht rfl),(Ht rfl),trivial⟩) (ro rfl (cZ Tryz.call224 (m9 (by first | assumption | omega) zo zo zo) ⟨(Ht rfl),(Ht rfl),(Ht rfl),trivial⟩) (gQ Z_131 (Ht rfl) (Ht rfl) rfl (i:=2) rfl (aK rfl) rfl rfl (eX (fW rfl (fX (fK A_131 Z_131 rfl (i:=2) rfl rfl) ?_)))))
 exact (pC (Qi.mk_add x y))
theorem Eh {x:Qi}:az Tryz.prog 150 [QT x] (QT (-x)):=by
 refine az.intro Tryz.func150 rfl Tryz.ntmps150 rfl (fun cx=>(ts (rn rfl (fG (Ht rfl)) fun B1=>(rn rfl (eW (Ts:=[Is (.bool false),Is (.slice none 0 0),Is (.bool false),Is (.slice none 0 0),Is (.slice none 0 0)]) O_131 rfl (fun V=>aW zd (aW zd (aW zd (aW zd (aW zd (aG))))))) fun B2=>(eX (cK (fZ (m:=8) (dp 1 rfl (eZ cw (Ht rfl) rfl) (dq 3 0 rfl (eJ A_129 Z_129 (Ht rfl) (i:=0) rfl rfl rfl) ?_)))))))))
 refine dq 4 1 rfl (cZ K_228 iA ⟨(Ht rfl),trivial⟩) (dp 1 rfl (eZ cH (Ht rfl) rfl) (dq 6 3 rfl (eJ A_129 Z_129 (Ht rfl) (i:=0) rfl rfl rfl) (dq 7 4 rfl (cZ K_228 iA ⟨(Ht rfl),trivial⟩) (dp 1 rfl (eZ cy (Ht rfl) rfl) (dq 9 6 rfl (eY A_46 Z_46 (Ht rfl) (i:=0) rfl rfl) (fV au rfl (by kernel_rfl) (zF (zF (aV (ro rfl (fO (Ht rfl) (Ht rfl) (Ht rfl)) (gQ Z_131 (Ht rfl) (Ht rfl) rfl (i:=1) rfl (aK rfl) rfl rfl ?_)))))))))))
 refine eX (fW rfl (fX (fK A_131 Z_131 rfl (i:=1) rfl rfl) ?_))
 exact (gM (by obtain ⟨e1,e2,e3⟩:=Qi.neg_a x; rw [e1,e2,e3]; rfl))
theorem r4 {x:Qi}:az Tryz.prog 173 [QT x] (QT x.conj):=by
 refine az.intro Tryz.func173 rfl Tryz.ntmps173 rfl (fun cx=>(ts (rn rfl (fG (Ht rfl)) fun B1=>(rn rfl (eW (Ts:=[Is (.bool false),Is (.slice none 0 0),Is (.bool false),Is (.slice none 0 0),Is (.slice none 0 0)]) O_131 rfl (fun V=>aW zd (aW zd (aW zd (aW zd (aW zd (aG))))))) fun B2=>(eX (cK (fZ (m:=7) (dp 1 rfl (eZ cw (Ht rfl) rfl) (dq 3 0 rfl (eJ A_129 Z_129 (Ht rfl) (i:=0) rfl rfl rfl) ?_)))))))))
 refine dp 1 rfl (eZ cH (Ht rfl) rfl) (dq 5 2 rfl (eJ A_129 Z_129 (Ht rfl) (i:=0) rfl rfl rfl) (dq 6 3 rfl (cZ K_228 iA ⟨(Ht rfl),trivial⟩) (dp 1 rfl (eZ cy (Ht rfl) rfl) (dq 8 5 rfl (eY A_46 Z_46 (Ht rfl) (i:=0) rfl rfl) (fV au rfl (by kernel_rfl) (zF (aJ (aJ (aJ (aV (ro rfl (fO (Ht rfl) (Ht rfl) (Ht rfl)) (gQ Z_131 (Ht rfl) (Ht rfl) rfl (i:=1) rfl (aK rfl) rfl rfl (eX (fW rfl (fX (fK A_131 Z_131 rfl (i:=1) rfl rfl) ?_)))))))))))))))
 exact (gM (by obtain ⟨e1,e2,e3⟩:=Qi.conj_a x; rw [e1,e2,e3]; rfl))
theorem tE {x y:Qi} {L M:Nat} [hx:ao x L] [hy:ao y M] (h:L + M + 1 ≤ 17592186044415):az Tryz.prog 147 [QT x,QT y] (QT (x - y)):=by
 have hxa:=dN hx.fit; have hxb:=eb hx.fit; have hxd:=dI hx.fit
 have hya:=dN hy.fit; have hyb:=eb hy.fit; have hyd:=dI hy.fit
 have hxp:=x.den_pos; have hyp:=y.den_pos; have hdp:=Nat.mul_pos hxp hyp
 refine az.intro Tryz.func147 rfl Tryz.ntmps147 rfl (fun cx=>(ts (rn rfl (fG (Ht rfl)) fun B2=>(rn rfl (fG (Ht rfl)) fun B3=>(rn rfl (eW (Ts:=[Is (.bool false),Is (.slice none 0 0),Is (.bool false),Is (.slice none 0 0),Is (.slice none 0 0)]) O_131 rfl (fun V=>aW zd (aW zd (aW zd (aW zd (aW zd (aG))))))) fun B4=>(eX (cK (fZ (m:=3) (dp 2 rfl (eJ A_131 Z_131 (Ht rfl) (i:=0) rfl rfl rfl) (dp 3 rfl (eJ A_131 Z_131 (Ht rfl) (i:=1) rfl rfl rfl) ?_))))))))))
 refine dq 6 1 rfl (cZ Tryz.call150 Eh ⟨(Ht rfl),trivial⟩) (fV au rfl (by kernel_rfl) (aJ (aJ (aJ (aV (ro rfl (cZ Tryz.call149 (ug zo) ⟨(Ht rfl),(Ht rfl),trivial⟩) (gQ Z_131 (Ht rfl) (Ht rfl) rfl (i:=2) rfl (aK rfl) rfl rfl (eX (fW rfl (fX (fK A_131 Z_131 rfl (i:=2) rfl rfl) ?_))))))))))
 exact (pC (Qi.sub_def x y).symm)
theorem mZ {x y:Qi} {L M:Nat} [hx:ao x L] [hy:ao y M] (h:L + M + 1 ≤ 17592186044415):az Tryz.prog 146 [QT x,QT y] (QT (x * y)):=by
 have hxa:=dN hx.fit; have hxb:=eb hx.fit; have hxd:=dI hx.fit
 have hya:=dN hy.fit; have hyb:=eb hy.fit; have hyd:=dI hy.fit
 have hxp:=x.den_pos; have hyp:=y.den_pos; have hdp:=Nat.mul_pos hxp hyp
 have e1:=eI x.a y.a; have e2:=eI x.b y.b; have e3:=eI x.a y.b; have e4:=eI x.b y.a; have e5:=kC x.den y.den; have e8:=jI (x.b * y.b)
 have e6:=eO (x:=x.a * y.a) (y:=-(x.b * y.b)) (L:=L + M) zo zo; have e7:=eO (x:=x.a * y.b) (y:=x.b * y.a) (L:=L + M) zo zo
 refine az.intro Tryz.func146 rfl Tryz.ntmps146 rfl (fun cx=>(ts (rn rfl (fG (Ht rfl)) fun B2=>(rn rfl (fG (Ht rfl)) fun B3=>(rn rfl (eW (Ts:=[Is (.bool false),Is (.slice none 0 0),Is (.bool false),Is (.slice none 0 0),Is (.slice none 0 0)]) O_131 rfl (fun V=>aW zd (aW zd (aW zd (aW zd (aW zd (aG))))))) fun B4=>(eX (cK (fZ (m:=26) (dp 2 rfl (eZ cw (Ht rfl) rfl) (dq 5 0 rfl (eJ A_129 Z_129 (Ht rfl) (i:=0) rfl rfl rfl) ?_))))))))))
 refine dp 3 rfl (eZ cw (Ht rfl) rfl) (dq 7 2 rfl (eJ A_129 Z_129 (Ht rfl) (i:=1) rfl rfl rfl) (b8 6 1 8 3 rfl (cZ K_225 (eL zo zo) ⟨(Ht rfl),(Ht rfl),trivial⟩) (dp 2 rfl (eZ cH (Ht rfl) rfl) (dq 10 5 rfl (eJ A_129 Z_129 (Ht rfl) (i:=0) rfl rfl rfl) (dp 3 rfl (eZ cH (Ht rfl) rfl) (dq 12 7 rfl (eJ A_129 Z_129 (Ht rfl) (i:=1) rfl rfl rfl) (b8 11 6 13 8 rfl (cZ K_225 (eL zo zo) ⟨(Ht rfl),(Ht rfl),trivial⟩) (b8 9 4 14 9 rfl (cZ Tryz.call229 (xr zo zo) ⟨(Ht rfl),(Ht rfl),trivial⟩) ?_))))))))
 refine dp 2 rfl (eZ cw (Ht rfl) rfl) (dq 16 11 rfl (eJ A_129 Z_129 (Ht rfl) (i:=0) rfl rfl rfl) (dp 3 rfl (eZ cH (Ht rfl) rfl) (dq 18 13 rfl (eJ A_129 Z_129 (Ht rfl) (i:=1) rfl rfl rfl) (b8 17 12 19 14 rfl (cZ K_225 (eL zo zo) ⟨(Ht rfl),(Ht rfl),trivial⟩) (dp 2 rfl (eZ cH (Ht rfl) rfl) (dq 21 16 rfl (eJ A_129 Z_129 (Ht rfl) (i:=0) rfl rfl rfl) (dp 3 rfl (eZ cw (Ht rfl) rfl) (dq 23 18 rfl (eJ A_129 Z_129 (Ht rfl) (i:=1) rfl rfl rfl) ?_))))))))
 refine b8 22 17 24 19 rfl (cZ K_225 (eL zo zo) ⟨(Ht rfl),(Ht rfl),trivial⟩) (b8 20 15 25 20 rfl (cZ Tryz.call230 (kQ zo zo) ⟨(Ht rfl),(Ht rfl),trivial⟩) (dp 2 rfl (eZ cy (Ht rfl) rfl) (dq 27 22 rfl (eY A_46 Z_46 (Ht rfl) (i:=0) rfl rfl) (dp 3 rfl (eZ cy (Ht rfl) rfl) (dq 29 24 rfl (eY A_46 Z_46 (Ht rfl) (i:=1) rfl rfl) (fV au rfl (by kernel_rfl) (zF (zF (zF (zF (zF (zF (aJ (aJ (aV ?_)))))))))))))))
 refine ro rfl (cZ Tryz.call226 (kS zo zo) ⟨(Ht rfl),(Ht rfl),trivial⟩) (ro rfl (cZ Tryz.call224 (m9 (by first | assumption | omega) zo zo zo) ⟨(Ht rfl),(Ht rfl),(Ht rfl),trivial⟩) (gQ Z_131 (Ht rfl) (Ht rfl) rfl (i:=2) rfl (aK rfl) rfl rfl (eX (fW rfl (fX (fK A_131 Z_131 rfl (i:=2) rfl rfl) ?_)))))
 exact (pC (Qi.mk_mul x y))
theorem vu {x:Qi}:az Tryz.prog 166 [QT x] (ab (decide (x = Qi.zero))):=by
 refine az.intro Tryz.func166 rfl Tryz.ntmps166 rfl (fun cx=>(ts (rn rfl (fG (Ht rfl)) fun B1=>(ro rfl (cQ cV) (eX (ts (ro rfl (eZ cw (Ht rfl) rfl) (ro rfl (eZ bw (Ht rfl) rfl) (ro rfl (eY A_46 Z_46 (Ht rfl) (i:=0) rfl rfl) (ro rfl (dG U_46 (Ht rfl) a7) (ro rfl (bc (Ht rfl) (cJ 0)) (rm rfl (fQ rfl rfl (eK rfl rfl (Ht rfl) (fun h=>eZ cH (Ht rfl) rfl)) (fQ rfl rfl (eK rfl rfl (Ht rfl) (fun h=>eZ bw (fJ rfl h) rfl)) (fQ rfl rfl (eK rfl rfl (Ht rfl) (fun h=>eY A_46 Z_46 (fJ rfl h) (i:=0) rfl rfl)) ?_)))))))))))))))
 refine fQ rfl rfl (eK rfl rfl (Ht rfl) (fun h=>dG U_46 (fJ rfl h) a7)) (fQ rfl rfl (eK rfl rfl (Ht rfl) (fun h=>bc (fJ rfl h) (cJ 0))) (ro rfl (c7 (Ht rfl) (fun h=>(fJ rfl h))) (ra rfl (eX (fW rfl (fX (eU rfl) ?_))))))
 exact (bF (yv x))
theorem Bq {x y:Qi} {L M:Nat} [hx:ao x L] [hy:ao y M] (h:L ≤ 17592186044415) (h2:M ≤ 17592186044415):az Tryz.prog 164 [QT x,QT y] (ab (decide (x = y))):=by
 have hxa:=dN hx.fit; have hxb:=eb hx.fit; have hxd:=dI hx.fit
 have hya:=dN hy.fit; have hyb:=eb hy.fit; have hyd:=dI hy.fit
 refine az.intro Tryz.func164 rfl Tryz.ntmps164 rfl (fun cx=>(ts (rn rfl (fG (Ht rfl)) fun B2=>(rn rfl (fG (Ht rfl)) fun B3=>(ro rfl (cQ cV) (eX (ts (ro rfl (eZ cw (Ht rfl) rfl) (ro rfl (eJ A_129 Z_129 (Ht rfl) (i:=0) rfl rfl rfl) (ro rfl (eZ cw (Ht rfl) rfl) (ro rfl (eJ A_129 Z_129 (Ht rfl) (i:=1) rfl rfl rfl) (ro rfl (cZ Tryz.call236 (qr zo zo) ⟨(Ht rfl),(Ht rfl),trivial⟩) (ro rfl (dR (Ht rfl) cV) (rm rfl (fQ rfl rfl (eK rfl rfl (Ht rfl) (fun h=>eZ cH (Ht rfl) rfl)) ?_)))))))))))))))
 refine fQ rfl rfl (eK rfl rfl (Ht rfl) (fun h=>eJ A_129 Z_129 (fJ rfl h) (i:=0) rfl rfl rfl)) (fQ rfl rfl (eK rfl rfl (Ht rfl) (fun h=>eZ cH (Ht rfl) rfl)) (fQ rfl rfl (eK rfl rfl (Ht rfl) (fun h=>eJ A_129 Z_129 (fJ rfl h) (i:=1) rfl rfl rfl)) (fQ rfl rfl (eK rfl rfl (Ht rfl) (fun h=>cZ Tryz.call236 (qr zo zo) ⟨(fJ rfl h),(fJ rfl h),trivial⟩)) (fQ rfl rfl (eK rfl rfl (Ht rfl) (fun h=>dR (fJ rfl h) cV)) (ro rfl (c7 (Ht rfl) (fun h=>(fJ rfl h))) ?_)))))
 refine rm rfl (fQ rfl rfl (eK rfl rfl (Ht rfl) (fun h=>eZ cy (Ht rfl) rfl)) (fQ rfl rfl (eK rfl rfl (Ht rfl) (fun h=>eY A_46 Z_46 (fJ rfl h) (i:=0) rfl rfl)) (fQ rfl rfl (eK rfl rfl (Ht rfl) (fun h=>eZ cy (Ht rfl) rfl)) (fQ rfl rfl (eK rfl rfl (Ht rfl) (fun h=>eY A_46 Z_46 (fJ rfl h) (i:=1) rfl rfl)) (fQ rfl rfl (eK rfl rfl (Ht rfl) (fun h=>cZ Tryz.call237 (jC zo zo) ⟨(fJ rfl h),(fJ rfl h),trivial⟩)) (fQ rfl rfl (eK rfl rfl (Ht rfl) (fun h=>dR (fJ rfl h) cV)) ?_))))))
 refine ro rfl (c7 (Ht rfl) (fun h=>(fJ rfl h))) (ra rfl (eX (fW rfl (fX (eU rfl) ?_))))
 exact (bF (zH x y))
theorem Fg {x:Qi} {L:Nat} [hx:ao x L] (h:L ≤ 17592186044415):az Tryz.prog 274 [QT x] (QT x.imp):=by
 have hxa:=dN hx.fit; have hxb:=eb hx.fit; have hxd:=dI hx.fit
 have hxp:=x.den_pos
 have h5:(dg (0:Int).natAbs).length ≤ 0:=by rw [show (0:Int).natAbs = 0 from rfl,bS]; exact Nat.le_refl _
 refine az.intro Tryz.func274 rfl Tryz.ntmps274 rfl (fun cx=>(ts (rn rfl (fG (Ht rfl)) fun B1=>(rn rfl (eW (Ts:=[Is (.bool false),Is (.slice none 0 0),Is (.bool false),Is (.slice none 0 0),Is (.slice none 0 0)]) O_131 rfl (fun V=>aW zd (aW zd (aW zd (aW zd (aW zd (aG))))))) fun B2=>(eX (ts (ro rfl (eZ cH (Ht rfl) rfl) (ro rfl (eJ A_129 Z_129 (Ht rfl) (i:=0) rfl rfl rfl) (ro rfl (al.imp (sR ) pw) ?_)))))))))
 refine ro rfl (eZ cy (Ht rfl) rfl) (ro rfl (eY A_46 Z_46 (Ht rfl) (i:=0) rfl rfl) (ro rfl (cZ Tryz.call224 (m9 (by first | assumption | omega) zo zo zo) ⟨(Ht rfl),(Ht rfl),(Ht rfl),trivial⟩) (gQ Z_131 (Ht rfl) (Ht rfl) rfl (i:=1) rfl (aK rfl) rfl rfl (eX (fW rfl (fX (fK A_131 Z_131 rfl (i:=1) rfl rfl) ?_))))))
 exact (pC (Qi.mk_im0 x))
theorem BY {x:Qi} {L:Nat} [hx:ao x L] (h:L + L + 1 ≤ 17592186044415):az Tryz.prog 223 [QT x] (QT x.norm):=by
 refine az.intro Tryz.func223 rfl Tryz.ntmps223 rfl (fun cx=>(ts (rn rfl (fG (Ht rfl)) fun B1=>(rn rfl (eW (Ts:=[Is (.bool false),Is (.slice none 0 0),Is (.bool false),Is (.slice none 0 0),Is (.slice none 0 0)]) O_131 rfl (fun V=>aW zd (aW zd (aW zd (aW zd (aW zd (aG))))))) fun B2=>(eX (cK (fZ (m:=3) (dp 1 rfl (eJ A_131 Z_131 (Ht rfl) (i:=0) rfl rfl rfl) (dp 1 rfl (eJ A_131 Z_131 (Ht rfl) (i:=0) rfl rfl rfl) ?_)))))))))
 refine dq 4 1 rfl (cZ Tryz.call173 r4 ⟨(Ht rfl),trivial⟩) (fV au rfl (by kernel_rfl) (aJ (aJ (aJ (aV (ro rfl (cZ K_146 (mZ zo) ⟨(Ht rfl),(Ht rfl),trivial⟩) (gQ Z_131 (Ht rfl) (Ht rfl) rfl (i:=1) rfl (aK rfl) rfl rfl (eX (fW rfl (fX (fK A_131 Z_131 rfl (i:=1) rfl rfl) ?_))))))))))
 exact (pC (Qi.mul_conj x))
theorem wx {x:Qi}:az Tryz.prog 239 [QT x] (ap .i64 (fb x.a 0)):=by
 refine az.intro Tryz.func239 rfl Tryz.ntmps239 rfl (fun cx=>(ts (rn rfl (fG (Ht rfl)) fun B1=>(ro rfl (cQ (cJ 0)) (eX (cK (ts (ro rfl (eZ cw (Ht rfl) rfl) (ro rfl (eZ cI (Ht rfl) rfl) (ro rfl (eY A_4 Z_4 (Ht rfl) (i:=0) rfl rfl) (eX (dQ (Ht rfl) (fun hb=>?_) (fun hb=>?_)))))))))))))
 ·simp only [decide_eq_true_eq] at hb
  refine ts (ro rfl (cQ cV) (eX (fW rfl (fX (eU rfl) ?_))))
  exact (am (by rw [fb,if_pos hb]))
 ·simp only [decide_eq_false_iff_not] at hb
  refine cU (cK (ts (ro rfl (eZ cw (Ht rfl) rfl) (ro rfl (eZ bw (Ht rfl) rfl) (ro rfl (eY A_46 Z_46 (Ht rfl) (i:=0) rfl rfl) (ro rfl (dG U_46 (Ht rfl) a7) (ro rfl (bD (Ht rfl) (cJ 0)) (eX (dQ (Ht rfl) (fun hc=>?_) (fun hc=>?_))))))))))
  ·simp only [decide_eq_true_eq] at hc
   have h0:x.a ≠ 0:=fun e=>by rw [e] at hc; simp [bS] at hc
   refine ts (ro rfl (cQ (cJ 1)) (eX (fW rfl (fX (eU rfl) ?_))))
   exact (am (by rw [fb,if_neg hb,if_pos zo]; rfl))
  ·simp only [decide_eq_false_iff_not] at hc
   have h0:x.a = 0:=by have:=an.1 (Nat.eq_zero_of_not_pos hc); omega
   refine cU (ts (ro rfl (cQ (cJ 0)) (eX (fW rfl (fX (eU rfl) ?_)))))
   exact (am (by rw [fb,if_neg hb,if_neg zo]; rfl))
theorem Bf {x:Qi} {L:Nat} [hx:ao x L] (h:L ≤ 17592186044415):az Tryz.prog 242 [QT x] (ap .i64 (fb x.b 0)):=by
 refine az.intro Tryz.func242 rfl Tryz.ntmps242 rfl (fun cx=>(ts (rn rfl (fG (Ht rfl)) fun B1=>(ro rfl (cQ (cJ 0)) (eX (ts (ro rfl (eJ A_131 Z_131 (Ht rfl) (i:=0) rfl rfl rfl) (ro rfl (cZ Tryz.call274 (Fg zo) ⟨(Ht rfl),trivial⟩) (ro rfl (cZ Tryz.call239 wx ⟨(Ht rfl),trivial⟩) (ra rfl (eX (fW rfl (fX (eU rfl) ?_)))))))))))))
 exact (am (Ct x))
theorem wb {x y:Qi} {L M:Nat} [hx:ao x L] [hy:ao y M] (h:L + 3 * M + 2 ≤ 17592186044415):az Tryz.prog 144 [QT x,QT y] (cr [QT (x / y),ap .i64 (if y = Qi.zero then 3 else 0)]):=by
 have hxa:=dN hx.fit; have hxb:=eb hx.fit; have hxd:=dI hx.fit
 have hya:=dN hy.fit; have hyb:=eb hy.fit; have hyd:=dI hy.fit
 have hxp:=x.den_pos; have hyp:=y.den_pos; have hdp:=Nat.mul_pos hxp hyp
 refine az.intro Tryz.func144 rfl Tryz.ntmps144 rfl (fun cx=>(ts (rn rfl (fG (Ht rfl)) fun B2=>(rn rfl (fG (Ht rfl)) fun B3=>(rn rfl (eW (Ts:=[Is (.bool false),Is (.slice none 0 0),Is (.bool false),Is (.slice none 0 0),Is (.slice none 0 0)]) O_131 rfl (fun V=>aW zd (aW zd (aW zd (aW zd (aW zd (aG))))))) fun B4=>(ro rfl (cQ (cJ 0)) (eX (cK (ts (ro rfl (eJ A_131 Z_131 (Ht rfl) (i:=1) rfl rfl rfl) ?_))))))))))
 refine ro rfl (cZ Tryz.call166 vu ⟨(Ht rfl),trivial⟩) (eX (dQ (Ht rfl) (fun hb=>?_) (fun hb=>?_)))
 ·simp only [decide_eq_true_eq] at hb
  refine ts (ro rfl (cZ K_148 (iJ (by decide) (by decide)) ⟨(cJ 0),trivial⟩) (gQ Z_131 (Ht rfl) (Ht rfl) rfl (i:=2) rfl (aK rfl) rfl rfl (ro rfl (cQ (cJ 3)) (eX (aE rfl (fX (fK A_131 Z_131 rfl (i:=2) rfl rfl) ?_) (fX (eU rfl) ?_))))))
  ·exact (pC (by rw [hb,Qi.div_zero]; rfl))
  ·exact (am (by rw [if_pos hb]; rfl))
 ·simp only [decide_eq_false_iff_not] at hb
  obtain ⟨n,hn⟩:∃ n,n = y.norm:=⟨_,rfl⟩
  obtain ⟨z,hz⟩:∃ z,z = x * y.conj:=⟨_,rfl⟩
  haveI fn:ao n (M + M + 1):=hn ▸ fitNorm
  haveI fz:ao z (L + M + 1):=hz ▸ fitMul
  have hna:=dN fn.fit; have hnd:=dI fn.fit; have hza:=dN fz.fit; have hzb:=eb fz.fit; have hzd:=dI fz.fit
  have hnp:0 < n.a:=hn ▸ Qi.norm_pos hb
  have hm:((n.a.natAbs:Nat):Int) = n.a:=Int.natAbs_of_nonneg zo
  have hdp2:=Nat.mul_pos z.den_pos (show 0 < n.a.natAbs by omega)
  have n1:(dg ((n.den:Nat):Int).natAbs).length ≤ M + M + 1:=by rw [Int.natAbs_natCast]; exact hnd
  have e1:=bz z.a n.den; have e2:=bz z.b n.den; have e3:=kC z.den n.a.natAbs
  refine cU (ts (ro rfl (eJ A_131 Z_131 (Ht rfl) (i:=1) rfl rfl rfl) (ro rfl (al.imp (cZ Tryz.call223 (BY zo) ⟨(Ht rfl),trivial⟩) (pC hn.symm)) (rn rfl (eW (Ts:=[Is (.bool false),Is (.slice none 0 0),Is (.bool false),Is (.slice none 0 0),Is (.slice none 0 0)]) O_131 rfl (fun V=>aW zd (aW zd (aW zd (aW zd (aW zd (aG))))))) fun B6=>(gQ Z_131 (Ht rfl) (Ht rfl) rfl (i:=3) rfl (aK rfl) rfl rfl ?_)))))
  refine eX (cK (fZ (m:=5) (dp 2 rfl (eJ A_131 Z_131 (Ht rfl) (i:=0) rfl rfl rfl) (dp 3 rfl (eJ A_131 Z_131 (Ht rfl) (i:=1) rfl rfl rfl) (dq 15 1 rfl (cZ Tryz.call173 r4 ⟨(Ht rfl),trivial⟩) (b8 14 0 16 2 rfl (al.imp (cZ K_146 (mZ zo) ⟨(Ht rfl),(Ht rfl),trivial⟩) (pC hz.symm)) (C.D_new (Ei:=[]) rfl rfl rfl bW (eW (Ts:=[Is (.bool false),Is (.slice none 0 0),Is (.bool false),Is (.slice none 0 0),Is (.slice none 0 0)]) O_131 rfl (fun V=>aW zd (aW zd (aW zd (aW zd (aW zd (aG))))))) ?_)))))))
  refine fV au rfl (by kernel_rfl) (zF (C.F_new (fun B7=>aV (gQ Z_131 (Ht rfl) (Ht rfl) rfl (i:=4) rfl (aK rfl) rfl rfl (eX (ts (ro rfl (eZ cy (Ht rfl) rfl) (ro rfl (eY A_46 Z_46 (Ht rfl) (i:=3) rfl rfl) (ro rfl (al.imp (gf cV (Ht rfl)) nk) (rn rfl (eW (Ts:=[Is (.bool false),Is (.slice none 0 0)]) O_129 rfl (fun V=>aW zd (aW zd (aG)))) fun B8=>(gQ Z_129 (Ht rfl) (Ht rfl) rfl (i:=5) rfl (aK rfl) rfl rfl ?_)))))))))))
  refine eX (cK (fZ (m:=13) (dp 7 rfl (eZ cw (Ht rfl) rfl) (dq 21 0 rfl (eJ A_129 Z_129 (Ht rfl) (i:=4) rfl rfl rfl) (dp 8 rfl (eJ A_129 Z_129 (Ht rfl) (i:=5) rfl rfl rfl) (b8 22 1 23 2 rfl (cZ K_225 (eL zo zo) ⟨(Ht rfl),(Ht rfl),trivial⟩) (dp 7 rfl (eZ cH (Ht rfl) rfl) (dq 25 4 rfl (eJ A_129 Z_129 (Ht rfl) (i:=4) rfl rfl rfl) (dp 8 rfl (eJ A_129 Z_129 (Ht rfl) (i:=5) rfl rfl rfl) (b8 26 5 27 6 rfl (cZ K_225 (eL zo zo) ⟨(Ht rfl),(Ht rfl),trivial⟩) ?_))))))))))
  refine dp 7 rfl (eZ cy (Ht rfl) rfl) (dq 29 8 rfl (eY A_46 Z_46 (Ht rfl) (i:=4) rfl rfl) (dp 6 rfl (eZ cw (Ht rfl) rfl) (dq 31 10 rfl (eZ bw (Ht rfl) rfl) (dq 32 11 rfl (eY A_46 Z_46 (Ht rfl) (i:=3) rfl rfl) (fV au rfl (by kernel_rfl) (zF (zF (zF (aJ (aV (ro rfl (cZ Tryz.call226 (kS zo zo) ⟨(Ht rfl),(Ht rfl),trivial⟩) (ro rfl (cZ Tryz.call224 (m9 (by first | assumption | omega) zo zo zo) ⟨(Ht rfl),(Ht rfl),(Ht rfl),trivial⟩) ?_))))))))))))
  refine gQ Z_131 (Ht rfl) (Ht rfl) rfl (i:=2) rfl (aK rfl) rfl rfl (ro rfl (cQ (cJ 0)) (eX (aE rfl (fX (fK A_131 Z_131 rfl (i:=2) rfl rfl) ?_) (fX (eU rfl) ?_))))
  ·exact (pC (Qi.mk_divR x hb hz hn hm))
  ·exact (am (by rw [if_neg hb]; rfl))
theorem yS {x y:Qi} {L M:Nat} [hx:ao x L] [hy:ao y M] (h:L + 3 * M + 2 ≤ 17592186044415):az Tryz.prog 40 [ar x,ar y] (cr [ar (x / y),ap .i64 (if y = Qi.zero then 3 else 0)]):=by
 have hxa:=dN hx.fit; have hxb:=eb hx.fit; have hxd:=dI hx.fit
 have hya:=dN hy.fit; have hyb:=eb hy.fit; have hyd:=dI hy.fit
 have hxp:=x.den_pos; have hyp:=y.den_pos; have hMp:=hy.pos
 refine az.intro Tryz.func40 rfl Tryz.ntmps40 rfl (fun cx=>(ts (rn rfl (fG (Ht rfl)) fun B2=>(rn rfl (fG (Ht rfl)) fun B3=>(rn rfl (eW (Ts:=[Is (.bool false),Is (.slice none 0 0),Is (.bool false),Is (.slice none 0 0),Is (.slice none 0 0)]) O_51 rfl (fun V=>aW zd (aW zd (aW zd (aW zd (aW zd (aG))))))) fun B4=>(ro rfl (cQ (cJ 0)) (eX (cK (ts (ro rfl (eJ A_51 Z_51 (Ht rfl) (i:=1) rfl rfl rfl) ?_))))))))))
 refine ro rfl (cZ Tryz.call27 (vb zo) ⟨(Ht rfl),trivial⟩) (ro rfl (co (Ht rfl)) (eX (dQ (Ht rfl) (fun hb=>?_) (fun hb=>?_))))
 ·have h0 : y = Qi.zero := by simpa using hb
  refine ts (ro rfl (al.imp (rC ) gU) (gQ Z_51 (Ht rfl) (Ht rfl) rfl (i:=2) rfl (aK rfl) rfl rfl (ro rfl (cQ (cJ 3)) (eX (aE rfl (fX (fK A_51 Z_51 rfl (i:=2) rfl rfl) ?_) (fX (eU rfl) ?_))))))
  ·exact (fH (by rw [h0,Qi.div_zero]))
  ·exact (am (by rw [if_pos h0]; rfl))
 ·have h0 : y ≠ Qi.zero := by simpa using hb
  have g1:=eI y.a y.a; have g2:=eI y.b y.b; have g3:=jI y.b
  have g4:=eO (x:=y.a * y.a) (y:=y.b * y.b) (L:=M + M) zo zo
  obtain ⟨c,hc⟩:∃ c,c = Qi.mk' y.a (-y.b) 1:=⟨_,rfl⟩
  obtain ⟨z,hz⟩:∃ z,z = x * c:=⟨_,rfl⟩
  have l1:(dg 1).length ≤ 1:=by rw [A9 (by decide) (by decide)]; exact Nat.le_refl _
  haveI fc:ao c M:=hc ▸ ⟨Qi.Fit.mk (by decide) hy.fit.1 (by rw [Int.natAbs_neg]; exact hy.fit.2.1) (Qi.one_lt hMp)⟩
  haveI fz:ao z (L + M + 1):=hz ▸ fitMul
  have hza:=dN fz.fit; have hzb:=eb fz.fit; have hzd:=dI fz.fit
  have hnp:=Qi.nrm_int_pos h0
  have hm:(((y.a * y.a + y.b * y.b).natAbs:Nat):Int) = y.a * y.a + y.b * y.b:=Int.natAbs_of_nonneg zo
  have hdp2:=Nat.mul_pos z.den_pos (show 0 < (y.a * y.a + y.b * y.b).natAbs by omega)
  have e1:=bz z.a y.den; have e2:=bz z.b y.den; have e3:=kC z.den (y.a * y.a + y.b * y.b).natAbs
  refine cU (cK (fZ (m:=12) (dp 3 rfl (eZ cE (Ht rfl) rfl) (dq 12 0 rfl (eJ A_49 Z_49 (Ht rfl) (i:=1) rfl rfl rfl) (dp 3 rfl (eZ cE (Ht rfl) rfl) (dq 14 2 rfl (eJ A_49 Z_49 (Ht rfl) (i:=1) rfl rfl rfl) (b8 13 1 15 3 rfl (cZ K_132 (kY zo zo) ⟨(Ht rfl),(Ht rfl),trivial⟩) (dp 3 rfl (eZ d8 (Ht rfl) rfl) (dq 17 5 rfl (eJ A_49 Z_49 (Ht rfl) (i:=1) rfl rfl rfl) (dp 3 rfl (eZ d8 (Ht rfl) rfl) (dq 19 7 rfl (eJ A_49 Z_49 (Ht rfl) (i:=1) rfl rfl rfl) ?_)))))))))))
  refine b8 18 6 20 8 rfl (cZ K_132 (kY zo zo) ⟨(Ht rfl),(Ht rfl),trivial⟩) (b8 16 4 21 9 rfl (cZ K_133 (nj zo zo) ⟨(Ht rfl),(Ht rfl),trivial⟩) (C.D_new (Ei:=[]) rfl rfl rfl bW (eW (Ts:=[Is (.bool false),Is (.slice none 0 0)]) O_49 rfl (fun V=>aW zd (aW zd (aG)))) (fV au rfl (by kernel_rfl) (zF (zF (aJ (aJ (aJ (C.F_new (fun B6=>aV (gQ Z_49 (Ht rfl) (Ht rfl) rfl (i:=3) rfl (aK rfl) rfl rfl ?_)))))))))))
  refine eX (cK (fZ (m:=10) (dp 2 rfl (eJ A_51 Z_51 (Ht rfl) (i:=0) rfl rfl rfl) (dp 3 rfl (eZ cE (Ht rfl) rfl) (dq 24 1 rfl (eJ A_49 Z_49 (Ht rfl) (i:=1) rfl rfl rfl) (dp 3 rfl (eZ d8 (Ht rfl) rfl) (dq 26 3 rfl (eJ A_49 Z_49 (Ht rfl) (i:=1) rfl rfl rfl) (dq 27 4 rfl (cZ K_135 j6 ⟨(Ht rfl),trivial⟩) (d0 rfl (al.imp (aN (xs:=[_]) U_47 Z_189 O_189 (cW (cJ 1) cG) rfl rfl rfl) pa) (C.D_step (Ei:=[(25,_),(28,_),(29,_)]) rfl rfl (bV (bG 2 rfl rfl) (bV (bG 5 rfl rfl) (bV (bG 6 rfl rfl) bW))) (dX rfl (al.imp (cZ K_134 (mV (by first | assumption | omega) zo zo zo) ⟨(Ht rfl),(Ht rfl),(Ht rfl),trivial⟩) (fH hc.symm))) ?_))))))))))
  refine b8 23 0 30 7 rfl (al.imp (cZ K_45 (jc zo) ⟨(Ht rfl),(Ht rfl),trivial⟩) (fH hz.symm)) (C.D_new (Ei:=[]) rfl rfl rfl bW (eW (Ts:=[Is (.bool false),Is (.slice none 0 0),Is (.bool false),Is (.slice none 0 0),Is (.slice none 0 0)]) O_51 rfl (fun V=>aW zd (aW zd (aW zd (aW zd (aW zd (aG))))))) (fV au rfl (by kernel_rfl) (zF (zF (aJ (C.F_new (fun B7=>aV ?_)))))))
  refine gQ Z_51 (Ht rfl) (Ht rfl) rfl (i:=4) rfl (aK rfl) rfl rfl (eX (cK (fZ (m:=14) (dp 7 rfl (eZ cE (Ht rfl) rfl) (dq 32 0 rfl (eJ A_49 Z_49 (Ht rfl) (i:=4) rfl rfl rfl) (dp 3 rfl (eJ A_51 Z_51 (Ht rfl) (i:=1) rfl rfl rfl) (dq 34 2 rfl (cZ K_137 iW ⟨(Ht rfl),trivial⟩) (b8 33 1 35 3 rfl (cZ K_136 (fM zo zo) ⟨(Ht rfl),(Ht rfl),trivial⟩) (dp 7 rfl (eZ d8 (Ht rfl) rfl) (dq 37 5 rfl (eJ A_49 Z_49 (Ht rfl) (i:=4) rfl rfl rfl) ?_))))))))))
  refine dp 3 rfl (eJ A_51 Z_51 (Ht rfl) (i:=1) rfl rfl rfl) (dq 39 7 rfl (cZ K_137 iW ⟨(Ht rfl),trivial⟩) (b8 38 6 40 8 rfl (cZ K_136 (fM zo zo) ⟨(Ht rfl),(Ht rfl),trivial⟩) (dp 7 rfl (eJ A_51 Z_51 (Ht rfl) (i:=4) rfl rfl rfl) (dq 42 10 rfl (cZ K_137 iW ⟨(Ht rfl),trivial⟩) (dp 6 rfl (eZ cg (Ht rfl) rfl) (dq 44 12 rfl (eY A_47 Z_47 (Ht rfl) (i:=3) rfl rfl) (fV au rfl (by kernel_rfl) (zF (zF (zF (aJ (aJ (aV ?_)))))))))))))
  refine ro rfl (cZ Tryz.call138 (so zo zo) ⟨(Ht rfl),(Ht rfl),trivial⟩) (ro rfl (cZ K_134 (mV (by first | assumption | omega) zo zo zo) ⟨(Ht rfl),(Ht rfl),(Ht rfl),trivial⟩) (gQ Z_51 (Ht rfl) (Ht rfl) rfl (i:=2) rfl (aK rfl) rfl rfl (ro rfl (cQ (cJ 0)) (eX (aE rfl (fX (fK A_51 Z_51 rfl (i:=2) rfl rfl) ?_) (fX (eU rfl) ?_))))))
  ·exact (fH (Qi.mk_divP x h0 (hc ▸ hz) hm))
  ·exact (am (by rw [if_neg h0]; rfl))
theorem l7 {a:Int} {d:Nat} (hd:0 < d) (ha:(dg a.natAbs).length ≤ 8796093022208) (hd2:(dg d).length ≤ 8796093022208):az Tryz.prog 243 [bI a,ai d] (jm (kG a d)):=by
 have hg:=p9 ha hd2
 have hg0:Nat.gcd a.natAbs d ≠ 0:=fun e=>by have:=Nat.gcd_eq_zero_iff.1 e; omega
 have h1:=rA a.natAbs (Nat.gcd a.natAbs d); have h2:=rA d (Nat.gcd a.natAbs d)
 rw [BA a hd]
 obtain ⟨u,hu⟩:∃ u,u = a.natAbs / Nat.gcd a.natAbs d:=⟨_,rfl⟩
 obtain ⟨v,hv⟩:∃ v,v = d / Nat.gcd a.natAbs d:=⟨_,rfl⟩
 rw [← hu,← hv]
 rw [← hu] at h1
 rw [← hv] at h2
 have h3:=jS u; have h4:=jS v
 refine az.intro Tryz.func243 rfl Tryz.ntmps243 rfl (fun cx=>(ts (rn rfl (fG (Ht rfl)) fun B2=>(ro rfl (cQ (aA.cS (l:=[]) rfl)) (eX (ts (ro rfl (eZ bw (Ht rfl) rfl) (ro rfl (eY A_46 Z_46 (Ht rfl) (i:=0) rfl rfl) (rm rfl (ro rfl (cZ Tryz.call264 (tN zo zo) ⟨(Ht rfl),(Ht rfl),trivial⟩) (ra rfl (eX (ts (ro rfl (eZ bw (Ht rfl) rfl) (ro rfl (eY A_46 Z_46 (Ht rfl) (i:=0) rfl rfl) (rm rfl (ro rfl (cZ K_265 (ns zo zo zo) ⟨(Ht rfl),(Ht rfl),trivial⟩) ?_)))))))))))))))))
 refine rm rfl (ro rfl (al.imp (dK (Ht rfl) rfl) (bo hu.symm)) (ro rfl (dK (Ht rfl) rfl) (ra rfl (ra rfl (eX (ts (rm rfl (rm rfl (ro rfl (cZ K_265 (ns zo zo zo) ⟨(Ht rfl),(Ht rfl),trivial⟩) (rm rfl (ro rfl (al.imp (dK (Ht rfl) rfl) (bo hv.symm)) (ro rfl (dK (Ht rfl) rfl) (ra rfl (ra rfl (eX (ts (rm rfl (ro rfl (cZ Tryz.call275 (vc zo) ⟨(Ht rfl),trivial⟩) (ra rfl (eX (cK (e9 (fun (uu:Unit)=>True) (fun (uu:Unit)=>[(8,ai v),(10,jm (if a < 0 then 45 :: lr u else lr u))]) (fun (uu:Unit)=>[box B2 129 [ab (decide (a < 0)),ai (a).natAbs]]) ?_ (fun uu _=>?_)))))))))))))))))))))))
 ·refine ts (ro rfl (eZ cI (Ht rfl) rfl) (ro rfl (eY A_4 Z_4 (Ht rfl) (i := 0) rfl rfl) (eX (dQ (Ht rfl) (fun hb => ?_) (fun hb => ?_)))))
  ·simp only [decide_eq_true_eq] at hb
   refine cY (rm rfl (ro rfl (ew (aA.cS (l:=[45]) rfl) (Ht rfl) (by first | omega | (simp; omega))) (ra rfl (eX (ax () trivial (aQ rfl (aZ rfl (ea (by rw [if_pos hb]; rfl)) aX)) (bh.refl _))))))
  ·simp only [decide_eq_false_iff_not] at hb
   refine cU (ax () trivial (aQ rfl (aZ rfl (ea (by rw [if_neg hb])) aX)) (bh.refl _))
 ·have h6 : (if a < 0 then 45 :: lr u else lr u).length ≤ (lr u).length + 1 := by split <;> simp
  refine cK (ts (rm rfl (ro rfl (dG U_46 (Ht rfl) a7) (ro rfl (bc (Ht rfl) (cJ 1)) (rm rfl (fQ rfl rfl (eK rfl rfl (Ht rfl) (fun h=>cX (Ht rfl))) (fQ rfl rfl (eK rfl rfl (Ht rfl) (fun h=>dZ U_46 Z_189 (fJ rfl h) (cJ 0) rfl (dY (ae (by first | omega | (simp at h; omega)))))) (fQ rfl rfl (eK rfl rfl (Ht rfl) (fun h=>dJ A_189 Z_189 (fJ rfl h))) (fQ rfl rfl (eK rfl rfl (Ht rfl) (fun h=>bc (fJ rfl h) (cJ 1))) (ro rfl (c7 (Ht rfl) (fun h=>(fJ rfl h))) ?_))))))))))
  refine eX (dQ (Ht rfl) (fun hc=>?_) (fun hc=>?_))
  ·rw [rd] at hc
   have hv1:v = 1:=by simpa using hc
   refine ts (rm rfl (ra rfl (eX (fW rfl (fX (eU rfl) ?_)))))
   exact (ea (by rw [if_pos hv1,List.append_nil]))
  ·rw [rd] at hc
   have hv1:v ≠ 1:=by simpa using hc
   refine cU (ts (rm rfl (ro rfl (ew (Ht rfl) (aA.cS (l:=[47]) rfl) (by simp only [List.length_cons,List.length_nil]; omega)) ?_)))
   refine rm rfl (ro rfl (cZ Tryz.call275 (vc zo) ⟨(Ht rfl),trivial⟩) (ro rfl (ew (Ht rfl) (Ht rfl) (by simp only [List.length_append,List.length_cons,List.length_nil]; omega)) ?_))
   refine ra rfl (eX (fW rfl (fX (eU rfl) ?_)))
   exact (ea (by rw [if_neg hv1,List.append_assoc]; rfl))
theorem E5 {x:Qi} {L:Nat} [hx:ao x L] (h:L ≤ 8796093022208):az Tryz.prog 181 [QT x] (jm (wW x)):=by
 have hxa:=dN hx.fit; have hxb:=eb hx.fit; have hxd:=dI hx.fit
 have hdp:=x.den_pos
 have l1:=lS x.a hdp; have l2:=lS x.b hdp
 refine az.intro Tryz.func181 rfl Tryz.ntmps181 rfl (fun cx=>(ts (rn rfl (fG (Ht rfl)) fun B1=>(ro rfl (cQ (aA.cS (l:=[]) rfl)) (eX (cK (ts (ro rfl (eZ cH (Ht rfl) rfl) (ro rfl (eZ bw (Ht rfl) rfl) (ro rfl (eY A_46 Z_46 (Ht rfl) (i:=0) rfl rfl) (ro rfl (dG U_46 (Ht rfl) a7) (ro rfl (bc (Ht rfl) (cJ 0)) (eX (dQ (Ht rfl) (fun hb=>?_) (fun hb=>?_)))))))))))))))
 ·simp only [decide_eq_true_eq] at hb
  have h0:x.b = 0:=by have:=an.1 hb; omega
  refine ts (ro rfl (eZ cw (Ht rfl) rfl) (ro rfl (eJ A_129 Z_129 (Ht rfl) (i:=0) rfl rfl rfl) (ro rfl (eZ cy (Ht rfl) rfl) (ro rfl (eY A_46 Z_46 (Ht rfl) (i:=0) rfl rfl) (ro rfl (cZ K_243 (l7 (by assumption) zo zo) ⟨(Ht rfl),(Ht rfl),trivial⟩) ?_)))))
  refine ra rfl (eX (fW rfl (fX (eU rfl) ?_)))
  exact (ea (by rw [wW,if_pos h0]))
 ·simp only [decide_eq_false_iff_not] at hb
  have h0:x.b ≠ 0:=fun e=>hb (by rw [e]; exact an.2 rfl)
  refine cU (cK (ts (ro rfl (eZ cw (Ht rfl) rfl) (ro rfl (eZ bw (Ht rfl) rfl) (ro rfl (eY A_46 Z_46 (Ht rfl) (i:=0) rfl rfl) (ro rfl (dG U_46 (Ht rfl) a7) (ro rfl (bc (Ht rfl) (cJ 0)) (eX (dQ (Ht rfl) (fun hc=>?_) (fun hc=>?_))))))))))
  ·simp only [decide_eq_true_eq] at hc
   have h1:x.a = 0:=by have:=an.1 hc; omega
   refine ts (ro rfl (eZ cH (Ht rfl) rfl) (ro rfl (eJ A_129 Z_129 (Ht rfl) (i:=0) rfl rfl rfl) (ro rfl (eZ cy (Ht rfl) rfl) (ro rfl (eY A_46 Z_46 (Ht rfl) (i:=0) rfl rfl) (ro rfl (cZ K_243 (l7 (by assumption) zo zo) ⟨(Ht rfl),(Ht rfl),trivial⟩) ?_)))))
   refine ro rfl (ew (Ht rfl) (aA.cS (l:=[105]) rfl) (by first | omega | (simp only [List.length_append,List.length_cons,List.length_nil]; omega))) (ra rfl (eX (fW rfl (fX (eU rfl) ?_))))
   exact (ea (by rw [wW,if_neg h0,if_pos h1]))
  ·simp only [decide_eq_false_iff_not] at hc
   have h1:x.a ≠ 0:=fun e=>hc (by rw [e]; exact an.2 rfl)
   refine cU (cK (ts (ro rfl (eZ cH (Ht rfl) rfl) (ro rfl (eZ cI (Ht rfl) rfl) (ro rfl (eY A_4 Z_4 (Ht rfl) (i:=0) rfl rfl) (eX (dQ (Ht rfl) (fun hd=>?_) (fun hd=>?_))))))))
   ·simp only [decide_eq_true_eq] at hd
    refine cK (fZ (m:=9) (dp 1 rfl (eZ cw (Ht rfl) rfl) (dq 27 0 rfl (eJ A_129 Z_129 (Ht rfl) (i:=0) rfl rfl rfl) (dp 1 rfl (eZ cy (Ht rfl) rfl) (dq 29 2 rfl (eY A_46 Z_46 (Ht rfl) (i:=0) rfl rfl) (b8 28 1 30 3 rfl (cZ K_243 (l7 (by assumption) zo zo) ⟨(Ht rfl),(Ht rfl),trivial⟩) ?_))))))
    refine dp 1 rfl (eZ cH (Ht rfl) rfl) (dq 32 5 rfl (eJ A_129 Z_129 (Ht rfl) (i:=0) rfl rfl rfl) (dp 1 rfl (eZ cy (Ht rfl) rfl) (dq 34 7 rfl (eY A_46 Z_46 (Ht rfl) (i:=0) rfl rfl) (fV au rfl (by kernel_rfl) (zF (zF (aJ (aV (ro rfl (cZ K_243 (l7 (by assumption) zo zo) ⟨(Ht rfl),(Ht rfl),trivial⟩) ?_)))))))))
    refine ro rfl (ew (Ht rfl) (Ht rfl) (by first | omega | (simp only [List.length_append,List.length_cons,List.length_nil]; omega))) (ro rfl (ew (Ht rfl) (aA.cS (l:=[105]) rfl) (by first | omega | (simp only [List.length_append,List.length_cons,List.length_nil]; omega))) (ra rfl (eX (fW rfl (fX (eU rfl) ?_)))))
    exact (ea (by rw [wW,if_neg h0,if_neg h1,if_pos hd,List.append_assoc]))
   ·simp only [decide_eq_false_iff_not] at hd
    refine cU (cK (fZ (m:=11) (dp 1 rfl (eZ cw (Ht rfl) rfl) (dq 39 0 rfl (eJ A_129 Z_129 (Ht rfl) (i:=0) rfl rfl rfl) (dp 1 rfl (eZ cy (Ht rfl) rfl) (dq 41 2 rfl (eY A_46 Z_46 (Ht rfl) (i:=0) rfl rfl) (b8 40 1 42 3 rfl (cZ K_243 (l7 (by assumption) zo zo) ⟨(Ht rfl),(Ht rfl),trivial⟩) ?_)))))))
    refine dq 43 4 rfl (ew (Ht rfl) (aA.cS (l:=[43]) rfl) (by first | omega | (simp only [List.length_append,List.length_cons,List.length_nil]; omega))) (dp 1 rfl (eZ cH (Ht rfl) rfl) (dq 45 6 rfl (eJ A_129 Z_129 (Ht rfl) (i:=0) rfl rfl rfl) (dp 1 rfl (eZ cy (Ht rfl) rfl) (dq 47 8 rfl (eY A_46 Z_46 (Ht rfl) (i:=0) rfl rfl) (b8 46 7 48 9 rfl (cZ K_243 (l7 (by assumption) zo zo) ⟨(Ht rfl),(Ht rfl),trivial⟩) ?_)))))
    refine fV au rfl (by kernel_rfl) (zF (zF (aJ (aJ (aJ (aV (ro rfl (ew (Ht rfl) (Ht rfl) (by first | omega | (simp only [List.length_append,List.length_cons,List.length_nil]; omega))) (ro rfl (ew (Ht rfl) (aA.cS (l:=[105]) rfl) (by first | omega | (simp only [List.length_append,List.length_cons,List.length_nil]; omega))) (ra rfl (eX (fW rfl (fX (eU rfl) ?_))))))))))))
    exact (ea (by rw [wW,if_neg h0,if_neg h1,if_neg hd,List.append_assoc,List.append_assoc]; rfl))
theorem rN {x y:Qi} {L M:Nat} [hx:ao x L] [hy:ao y M] (h:L ≤ 8796093022208) (h2:M ≤ 8796093022208):az Tryz.prog 80 [ar x,QT y] (ab (decide (wW x = wW y))):=by
 refine az.intro Tryz.func80 rfl Tryz.ntmps80 rfl (fun cx=>(ts (rn rfl (fG (Ht rfl)) fun B2=>(rn rfl (fG (Ht rfl)) fun B3=>(ro rfl (cQ cV) (eX (cK (fZ (m:=3) (dp 2 rfl (eJ A_51 Z_51 (Ht rfl) (i:=0) rfl rfl rfl) (dq 5 0 rfl (cZ Tryz.call89 (tK zo) ⟨(Ht rfl),trivial⟩) (dp 3 rfl (eJ A_131 Z_131 (Ht rfl) (i:=1) rfl rfl rfl) (fV au rfl (by kernel_rfl) (aJ (aJ (aJ (aV (ro rfl (cZ Tryz.call181 (E5 zo) ⟨(Ht rfl),trivial⟩) (ro rfl (ur (Ht rfl) (Ht rfl)) ?_))))))))))))))))))
 refine ra rfl (eX ?_)
 exact fW rfl (eU rfl)
end
section
open Go Go.RowKit
theorem gr:Tryz.prog.info? 29 = some Tryz.t29:=by kernel_rfl
end
section
open Go Go.RowKit
theorem uF {γ:Type} {l:List γ} {T:γ → Ty} {p:γ → Bool} [sh:∀ x,bx (T x) 5 true] (hl:l.length ≤ 1000000):az Tryz.prog 233 [eN 5 (l.map T),rO Tryz.prog γ (fun x=>[T x]) (fun x=>ab (p x))] (ap .i64 (rg p l)):=by
 refine az.intro Tryz.func233 rfl Tryz.ntmps233 rfl (fun cx=>(ts (ro rfl (cQ (cJ 0)) (eX (cK (ts (rm rfl (ro rfl (dG U_29 (Ht rfl) a7) (ro rfl (cX (cJ 0)) (eX (eG ?_)))))))))))
 refine aF (fun (k : Nat) => k ≤ l.length ∧ ∀ (i : Nat) (x : γ), i < k → l[i]? = some x → p x = false) (fun (k : Nat) => l.length - k) (fun (k : Nat) => [(0, eN 5 (l.map T)), (1, rO Tryz.prog γ (fun x => [T x]) (fun x => ab (p x))), (7, NT .i64 l.length), (8, NT .i64 k)]) (fun (k : Nat) => []) 0 ⟨Nat.zero_le _, fun i x h => by omega⟩
  (zS rfl) aY (fun k ⟨hk,hn⟩=>?_)
 refine ts (ro rfl (gX (Ht rfl) (Ht rfl)) (eX (cK (dQ (Ht rfl) (fun hb=>?_) (fun hb=>?_)))))
 ·simp only [decide_eq_true_eq] at hb
  refine cU (cK (eG (ts (rm rfl (ra rfl (eX (ts (rm rfl (rm rfl (rm rfl (ro rfl (dZ U_29 Z_51 (Ht rfl) (Ht rfl) rfl (dY (gG hb))) (ro rfl (dJ A_51 Z_51 (Ht rfl)) (ro rfl (kE (l[k]) (Ht rfl) ⟨(Ht rfl),trivial⟩) (eX (dQ (Ht rfl) (fun hc=>?_) (fun hc=>?_))))))))))))))))
  ·have hp : p l[k] = true := hc
   refine ts (rm rfl (ra rfl (eX (fW rfl (fX (eU rfl) ?_)))))
   exact (am (qP (gG hb) hp hn).symm)
  ·have hp : p l[k] = false := hc
   refine cU (as (cY (ro rfl (dV (Ht rfl) (cJ 1) z6) (rm rfl (eX ?_)))))
   refine fU (k + 1) ⟨hb, fun i x h1 h2 => by
    by_cases e:i = k
    ·subst e; rw [gG hb] at h2; obtain rfl:=Option.some.inj h2; exact hp
    ·exact hn i x zo h2⟩ zo (zS rfl) aY
 ·simp only [decide_eq_false_iff_not] at hb
  refine gV rfl (ts (ro rfl (cQ cV) (eX (fW rfl (fX (eU rfl) ?_)))))
  exact (am (no (fun i x h=>hn i x (by have:=(List.getElem?_eq_some_iff.1 h).1; omega) h)).symm)
theorem pL {γ:Type} {l:List γ} {T:γ → Ty} {p:γ → Bool} [sh:∀ x,bx (T x) 5 true] (hl:l.length ≤ 1000000):az Tryz.prog 162 [eN 5 (l.map T),rO Tryz.prog γ (fun x=>[T x]) (fun x=>ab (p x))] (ab (l.any p)):=by
 refine az.intro Tryz.func162 rfl Tryz.ntmps162 rfl (fun cx=>(ts (ro rfl (cQ cV) (eX (ts (rm rfl (rm rfl (ro rfl (cZ Tryz.call233 (uF zo) ⟨(Ht rfl),(Ht rfl),trivial⟩) (ro rfl (eB (Ht rfl) cV) (ra rfl (eX (fW rfl (fX (eU rfl) ?_)))))))))))))
 exact (bF (pi p l))
theorem tM {γ:Type} {l:List γ} {T:γ → Ty} {p:γ → Bool} [sh:∀ x,bx (T x) 1 false] (hl:l.length ≤ 1000000):az Tryz.prog 231 [eN 1 (l.map T),rO Tryz.prog γ (fun x=>[T x]) (fun x=>ab (p x))] (ap .i64 (rg p l)):=by
 refine az.intro Tryz.func231 rfl Tryz.ntmps231 rfl (fun cx=>(ts (ro rfl (cQ (cJ 0)) (eX (cK (ts (rm rfl (ro rfl (dG U_30 (Ht rfl) a7) (ro rfl (cX (cJ 0)) (eX (eG ?_)))))))))))
 refine aF (fun (k : Nat) => k ≤ l.length ∧ ∀ (i : Nat) (x : γ), i < k → l[i]? = some x → p x = false) (fun (k : Nat) => l.length - k) (fun (k : Nat) => [(0, eN 1 (l.map T)), (1, rO Tryz.prog γ (fun x => [T x]) (fun x => ab (p x))), (7, NT .i64 l.length), (8, NT .i64 k)]) (fun (k : Nat) => []) 0 ⟨Nat.zero_le _, fun i x h => by omega⟩
  (zS rfl) aY (fun k ⟨hk,hn⟩=>?_)
 refine ts (ro rfl (gX (Ht rfl) (Ht rfl)) (eX (cK (dQ (Ht rfl) (fun hb=>?_) (fun hb=>?_)))))
 ·simp only [decide_eq_true_eq] at hb
  refine cU (cK (eG (ts (rm rfl (ra rfl (eX (ts (rm rfl (rm rfl (rm rfl (ro rfl (dZ U_30 Z_29 (Ht rfl) (Ht rfl) rfl (dY (gG hb))) (ro rfl (dJ A_29 Z_29 (Ht rfl)) (ro rfl (kE (l[k]) (Ht rfl) ⟨(Ht rfl),trivial⟩) (eX (dQ (Ht rfl) (fun hc=>?_) (fun hc=>?_))))))))))))))))
  ·have hp : p l[k] = true := hc
   refine ts (rm rfl (ra rfl (eX (fW rfl (fX (eU rfl) ?_)))))
   exact (am (qP (gG hb) hp hn).symm)
  ·have hp : p l[k] = false := hc
   refine cU (as (cY (ro rfl (dV (Ht rfl) (cJ 1) z6) (rm rfl (eX ?_)))))
   refine fU (k + 1) ⟨hb, fun i x h1 h2 => by
    by_cases e:i = k
    ·subst e; rw [gG hb] at h2; obtain rfl:=Option.some.inj h2; exact hp
    ·exact hn i x zo h2⟩ zo (zS rfl) aY
 ·simp only [decide_eq_false_iff_not] at hb
  refine gV rfl (ts (ro rfl (cQ cV) (eX (fW rfl (fX (eU rfl) ?_)))))
  exact (am (no (fun i x h=>hn i x (by have:=(List.getElem?_eq_some_iff.1 h).1; omega) h)).symm)
theorem lv {γ:Type} {l:List γ} {T:γ → Ty} {p:γ → Bool} [sh:∀ x,bx (T x) 1 false] (hl:l.length ≤ 1000000):az Tryz.prog 156 [eN 1 (l.map T),rO Tryz.prog γ (fun x=>[T x]) (fun x=>ab (p x))] (ab (l.any p)):=by
 refine az.intro Tryz.func156 rfl Tryz.ntmps156 rfl (fun cx=>(ts (ro rfl (cQ cV) (eX (ts (rm rfl (rm rfl (ro rfl (cZ Tryz.call231 (tM zo) ⟨(Ht rfl),(Ht rfl),trivial⟩) (ro rfl (eB (Ht rfl) cV) (ra rfl (eX (fW rfl (fX (eU rfl) ?_)))))))))))))
 exact (bF (pi p l))
theorem ue {x:Qi} {L:Nat} [hx:ao x L] (h:L ≤ 8796093022208):az Tryz.prog 247 [ar x] (ab (ig x)):=by
 haveI hz:ao Qi.zero 1:=ao.zero (Nat.le_refl 1)
 refine az.intro Tryz.func247 rfl Tryz.ntmps247 rfl (fun cx=>(ts (rn rfl (fG (Ht rfl)) fun B1=>(ro rfl (cQ cV) (eX (ts (ro rfl (eJ A_51 Z_51 (Ht rfl) (i:=0) rfl rfl rfl) (ro rfl (cZ Tryz.call169 ri ⟨(Ht rfl),trivial⟩) (rm rfl (fQ rfl rfl (eK rfl rfl (Ht rfl) (fun h=>eJ A_51 Z_51 (Ht rfl) (i:=0) rfl rfl rfl)) (fQ rfl rfl (eK rfl rfl (Ht rfl) (fun h=>al.imp (rC ) gU)) (fQ rfl rfl (eK rfl rfl (Ht rfl) (fun h=>cZ Tryz.call76 (xR zo) ⟨(fJ rfl h),(fJ rfl h),trivial⟩)) ?_))))))))))))
 refine fQ rfl rfl (eK rfl rfl (Ht rfl) (fun h=>mY (fJ rfl h) cV)) (ro rfl (c7 (Ht rfl) (fun h=>(fJ rfl h))) (ra rfl (eX (fW rfl (fX (eU rfl) ?_)))))
 exact (bF (Ae x))
theorem rB {x:Qi} {L:Nat} [hx:ao x L] (h:L ≤ 8796093022208):az Tryz.prog 246 [ar x] (ab (!posQ x)):=by
 refine az.intro Tryz.func246 rfl Tryz.ntmps246 rfl (fun cx=>(ts (rn rfl (fG (Ht rfl)) fun B1=>(ro rfl (cQ cV) (eX (ts (ro rfl (eJ A_51 Z_51 (Ht rfl) (i:=0) rfl rfl rfl) (ro rfl (cZ Tryz.call247 (ue zo) ⟨(Ht rfl),trivial⟩) (ro rfl (co (Ht rfl)) (ra rfl (eX ?_)))))))))))
 exact fW rfl (eU rfl)
theorem rU {z:List Qi} {L:Nat} (hz:bk z L) (h:L ≤ 8796093022208) (hl:z.length ≤ 1000):az Tryz.prog 183 [aS z] (ap .i64 (if z.all ig then 0 else 1)):=by
 obtain ⟨l,hzl⟩:∃ l:List {x:Qi // ao x L},z = l.map Subtype.val:=⟨z.attach.map fun x=>⟨x.1,hz x.1 x.2⟩,by simp⟩
 subst hzl
 have hll:l.length ≤ 1000:=by simpa using hl
 refine az.intro Tryz.func183 rfl Tryz.ntmps183 rfl (fun cx=>(j5 (E':=[(0,_)]) (aZ rfl (eR (Us:=l.map fun x=>ar x.1) (by simp [List.map_map,Function.comp_def])) aX) ?_))
 refine ts (ro rfl (cQ (cJ 0)) (eX (cK (ts (rm rfl (ro rfl (cZ Tryz.call162 (pL (l:=l) (T:=fun x=>ar x.1) (p:=fun x=>!posQ x.1) zo) ⟨(Ht rfl),(aA.fn Tryz.call246 (γ:={x:Qi // ao x L}) (Ts:=fun x=>[ar x.1]) (U:=fun x=>ab (!posQ x.1)) (fun x=>haveI:=x.2; rB h)),trivial⟩) (eX (dQ (Ht rfl) (fun hb=>?_) (fun hb=>?_)))))))))
 ·have hn : ¬ (l.map Subtype.val).all ig = true := by simp at hb ⊢; exact hb
  refine ts (ro rfl (cQ (cJ 1)) (eX (fW rfl (fX (eU rfl) ?_))))
  exact (am (by rw [if_neg hn]; rfl))
 ·have hn : (l.map Subtype.val).all ig = true := by simp at hb ⊢; exact hb
  refine cU (ts (ro rfl (cQ (cJ 0)) (eX (fW rfl (fX (eU rfl) ?_)))))
  exact (am (by rw [if_pos hn]; rfl))
theorem sk {l:List Qi} (hl:l.length ≤ 1000):cR Tryz.prog 158 [aS l] [] (Value) (fun v=>Is v) (fun v=>[aB 51 5 v (l.map ar)]) (fun _=>True):=by
 refine cR.intro Tryz.func158 rfl Tryz.ntmps158 rfl (fun cx Z=>(ts (ro rfl (cQ cV) (eX (cK (ts (rm rfl (ro rfl (yX U_29 (Ht rfl)) (eX (BW (Ht rfl) (fun hb=>?_) (fun hb=>?_)))))))))))
 ·have hT : l.map ar = [] := hb rfl
  refine ts (ro rfl (cQ cV) (eX (iF 51 5 ?_)))
  exact dS (.slice none 0 0) trivial [0,1] ⟨⟨_,rfl,fun _ _ _ h=>h⟩,⟨_,rfl,(aa hT.symm)⟩,trivial⟩ (by decide) (kn rfl (eU rfl))
 ·refine cU (ts (rn rfl (gc U_29 Z_51 O_51) fun B5 => (rm rfl (qm (inf := Tryz.t51) gt f9 rfl rfl rfl (Ht rfl) (Ht rfl) (i := 1) rfl (fun T hT => by obtain ⟨x, _, rfl⟩ := List.mem_map.1 hT; exact El.ag rfl) (by show _ * 88 ≤ _; simp only [List.length_map, List.length_nil]; omega) (by simp only [List.length_map, List.length_nil]; omega) rfl (fun v2 => ?_)))))
  refine ra rfl (eX ?_)
  exact dS v2 trivial [0,1] ⟨⟨_,rfl,fun _ _ _ h=>h⟩,⟨_,rfl,fun _ _ _ h=>h⟩,trivial⟩ (by decide) (kn rfl (eU rfl))
theorem vU {l:List Qi} (hl:l.length ≤ 1000):az Tryz.prog 158 [aS l] (aS l):=(sk hl).fun fun v _=>bB
theorem vp {n:Nat} {f:Nat → Nat → Qi} (hn:n ≤ 1000):cR Tryz.prog 114 [NT .i64 n,rO Tryz.prog (Fin n × Fin n) (fun x=>[NT .i64 x.1.1,NT .i64 x.2.1]) (fun x=>ar (f x.1.1 x.2.1))] [] (Nat) (fun B=>Is (.slice (some ⟨B,0,none⟩) n n)) (fun B=>[iK B 29 51 5 (aH ar (tab n fun i=>tab n (f i)))]) (fun _=>True):=by
 refine cR.intro Tryz.func114 rfl Tryz.ntmps114 rfl (fun cx Z=>(ts (ro rfl (cQ cV) (eX (ts (rm rfl (rn rfl (bM (T:=Is (.slice none 0 0)) (i:=Tryz.t29) V_30 gr rfl rfl (Ht rfl) rfl (fun _=>rfl) trivial (by show 24 * _ ≤ _; omega) zo) fun B9=>(ra rfl (eX (cK (ts (rm rfl (ro rfl (d7 U_30 (Ht rfl)) (ro rfl (cX (cJ 0)) (eX (eG (fk 1 rfl (kV (e:=51) (s:=5)) ?_)))))))))))))))))
 refine bA (fun (k : Nat) (m : List (List Qi)) => fq (fun i => tab n (f i)) n m k) (fun (k : Nat) (m : List (List Qi)) => n - k) (fun (k : Nat) (m : List (List Qi)) => [(0, NT .i64 n), (1, rO Tryz.prog (Fin n × Fin n) (fun x => [NT .i64 x.1.1, NT .i64 x.2.1]) (fun x => ar (f x.1.1 x.2.1))), (5, Is (.slice (some ⟨B9, 0, none⟩) n n)), (11, NT .i64 n), (12, NT .i64 k)]) (fun (k : Nat) (m : List (List Qi)) => [Z, iK B9 29 51 5 (aH ar m)]) 0 (List.replicate n []) (fq.start _ _ _)
  (zS rfl) (aU (fun _ _ _ h=>h) (aU (aC (fN ar n)) aY)) (fun k m hS=>?_)
 refine ts (ro rfl (gX (Ht rfl) (Ht rfl)) (eX (cK (dQ (Ht rfl) (fun hk=>?_) (fun hk=>?_)))))
 ·simp only [decide_eq_true_eq] at hk
  have hlen:=hS.len
  refine j2 1 (k) rfl (gu (m:=m) (i:=k) zo) (fun v=>(cU (cK (eG (ts (rm rfl (ra rfl (eX (ts (rm rfl (rm rfl (rm rfl (rn rfl (dE (T:=ar Qi.zero) (i:=Tryz.t51) gt f9 rfl rfl (Ht rfl) rfl ez (El.ag rfl) (by show 88 * _ ≤ _; omega) zo) fun B18=>(ro rfl (fY U_30 Z_29 (Ht rfl) (Ht rfl) rfl zo (by rw [Nat.mul_one,Nat.zero_add])) ?_))))))))))))))
  refine jX Z_29 (Ht rfl) (Ht rfl) (by simp; omega) (j:=1) (l:=3) rfl rfl rfl ?_
  refine eX (cK (aO [0,1,3] rfl (by decide) (cY (rm rfl (rm rfl (ro rfl (fY U_30 Z_29 (Ht rfl) (Ht rfl) rfl zo (by rw [Nat.mul_one,Nat.zero_add])) ?_))))))
  refine ro rfl (d4 A_29 Z_29 (Ht rfl) (j:=1) rfl) (ro rfl (ir U_29 (Ht rfl) (i:=2) rfl (show ((List.replicate n (ar Qi.zero)).length:Int) = ((n:Nat):Int) by simp)) (ro rfl (cX (cJ 0)) (eX (eG ?_))))
  refine bA (fun (j : Nat) (out : List Qi) => fq (f k) n out j) (fun (j : Nat) (out : List Qi) => n - j) (fun (j : Nat) (out : List Qi) => [(0, NT .i64 n), (1, rO Tryz.prog (Fin n × Fin n) (fun x => [NT .i64 x.1.1, NT .i64 x.2.1]) (fun x => ar (f x.1.1 x.2.1))), (5, Is (.slice (some ⟨B9, 0, none⟩) n n)), (6, NT .i64 k), (11, NT .i64 n), (12, NT .i64 k), (24, NT .i64 n), (25, NT .i64 j)]) (fun (j : Nat) (out : List Qi) => [Z, xd B9 29 51 5 (aH ar m) k B18, aB 51 5 B18 (out.map ar)]) 0 (List.replicate n Qi.zero) (fq.start _ _ _)
   (zS rfl) (aU (fun _ _ _ h=>h) (aU (fun _ _ _ h=>h) (aU (aa (ki ar _ _)) aY))) (fun j out hT=>?_)
  refine ts (ro rfl (gX (Ht rfl) (Ht rfl)) (eX (cK (dQ (Ht rfl) (fun hj=>?_) (fun hj=>?_)))))
  ·simp only [decide_eq_true_eq] at hj
   have hlen2:=hT.len
   refine cU (cK (eG (ts (rm rfl (ra rfl (eX (fZ (m:=9) (dp 5 rfl (cX (Ht rfl)) (dp 6 rfl (cX (Ht rfl)) (b8 28 0 29 1 rfl (fY U_30 Z_29 (Ht rfl) (Ht rfl) rfl zo (by rw [Nat.mul_one,Nat.zero_add])) ?_))))))))))
   refine dq 30 2 rfl (d4 A_29 Z_29 (Ht rfl) (j:=1) rfl) (dp 7 rfl (cX (Ht rfl)) (dp 1 rfl (cX (Ht rfl)) (dp 6 rfl (cX (Ht rfl)) (dp 7 rfl (cX (Ht rfl)) (C.D_step (Ei:=[(33,_),(34,_),(35,_)]) rfl rfl (bV (bG 5 rfl rfl) (bV (bG 6 rfl rfl) (bV (bG 7 rfl rfl) bW))) (dX rfl (kE ((⟨k,hk⟩,⟨j,hj⟩):Fin n × Fin n) (Ht rfl) ⟨(Ht rfl),(Ht rfl),trivial⟩)) (fV au rfl (by kernel_rfl) (zF (zF (aJ (aV ?_))))))))))
   refine ro rfl (b6 U_29 Z_51 (Ht rfl) (Ht rfl) rfl (i:=2) rfl (by first | omega | (simp; omega)) rfl) (dB Z_51 (Ht rfl) (Ht rfl) (El.ag rfl) (i:=2) rfl rfl (by first | omega | (simp; omega)) rfl (eX (as (cY (ro rfl (dV (Ht rfl) (cJ 1) z6) (rm rfl (eX (fU (j + 1,_) (hT.next hj rfl) (by dsimp only; omega) (zS rfl) (aU (fun _ _ _ h=>h) (aU (fun _ _ _ h=>h) (aU (aa (ce ar _ _ _)) aY)))))))))))
  ·simp only [decide_eq_false_iff_not] at hj
   obtain rfl:j = n:=Nat.le_antisymm hT.kle zo
   have hfin:=hT.fin
   refine gV rfl (as (bR 1 2 rfl rfl (by decide) (by simp; omega) ?_))
   refine cY (ro rfl (dV (Ht rfl) (cJ 1) z6) (rm rfl (eX (aO [0,1] rfl (by decide) (fU (k + 1,_) (hS.next hk hfin) (by dsimp only; omega) (zS rfl) (aU (fun _ _ _ h=>h) (aU (aC (c9 ar _ _ _)) aY)))))))
 ·simp only [decide_eq_false_iff_not] at hk
  obtain rfl:k = n:=Nat.le_antisymm hS.kle zo
  have hfin:=hS.fin
  refine gV rfl (ts (rm rfl (ra rfl (eX ?_))))
  exact dS B9 trivial [0,1] ⟨⟨_,rfl,fun _ _ _ h=>h⟩,⟨_,rfl,(aC (by rw [hfin]))⟩,trivial⟩ (by decide) (kn rfl (eU rfl))
theorem yE {n:Nat} {f:Nat → Nat → Qi} (hn:n ≤ 1000):az Tryz.prog 114 [NT .i64 n,rO Tryz.prog (Fin n × Fin n) (fun x=>[NT .i64 x.1.1,NT .i64 x.2.1]) (fun x=>ar (f x.1.1 x.2.1))] (b9 (tab n fun i=>tab n (f i))):=(vp hn).fun fun B _ v S V h1 h2=>eR (by simp [aH,List.map_map,Function.comp_def]) v V (uO (by simp [aH,a9]) (Nat.le_refl _) v S V h1 h2)
end
section
open Go Go.RowKit
theorem ma {n : Nat} {E : bn} {H : Hp} {d : Option Tmp} {t : TypeId} {pos : String} {af : Array Edge} {g : Option (Nat × Bool)}  :
  al Tryz.prog n E H ⟨d,.build 32 #[],t,pos,af,g⟩ (bO [Is (.slice none 0 0),Is (.slice none 0 0)]) :=
 ck (parts := []) fun a V w hs => by
  refine ⟨.agg #[(.slice none 0 0),(.slice none 0 0)],?_,[(.slice none 0 0),(.slice none 0 0)],rfl,aW (⟨rfl,trivial⟩) (aW (⟨rfl,trivial⟩) (aG))⟩
  simp [Instr.build,Instr.fill,Sem.run_bind,Result.andThen,bP,O_32,U_32,Z_29,Z_30]
theorem oX {n : Nat} {E : bn} {H : Hp} {d : Option Tmp} {t : TypeId} {pos : String} {af : Array Edge} {g : Option (Nat × Bool)} {x0 x1 : Operand} {T0 T1 : Ty} [s0 : bx T0 1 false] (h0 : aA E x0 T0) [s1 : bx T1 1 false] (h1 : aA E x1 T1) :
  al Tryz.prog n E H ⟨d,.build 32 #[(0,x0),(1,x1)],t,pos,af,g⟩ (bO [T0,T1]) :=
 ck (parts := [(0, x0), (1, x1)]) fun a V w hs => by
  have p0:=h0 n V a hs
  generalize e0:a.eval x0 = v0 at p0
  have q0:=(s0.ok v0 V p0).2.2 rfl
  have p1:=h1 n V a hs
  generalize e1:a.eval x1 = v1 at p1
  have q1:=(s1.ok v1 V p1).2.2 rfl
  refine ⟨.agg #[v0,v1],?_,[v0,v1],rfl,aW (⟨p0,q0⟩) (aW (⟨p1,q1⟩) (aG))⟩
  simp [e0,e1,Instr.build,Instr.fill,Sem.run_bind,Result.andThen,bP,q0.cells,q1.cells,O_32,U_32,Z_29,Z_30]
theorem iT (a:Addr) (w:World):(Instr.fieldAt 32 (.pointer (some a)) 0).run Tryz.prog w = .ok (.pointer (some (a.add 0))) w:=by
 simp [Instr.fieldAt,Instr.sureAddr,fieldPlace,Sem.run_bind,Result.andThen,U_32,Z_29]
end
section
open Go Go.RowKit
theorem Ed {s:List (List Qi)} {n i j:Nat} (hs:bE s n n) (hi:i < n) (hj:j < n):az Tryz.prog 187 [NT .i64 i,NT .i64 j,PT (b9 s)] (ar (gm s i j)):=by
 have h1:=hs.1; have h2:=hs.row hi
 refine az.intro Tryz.func187 rfl Tryz.ntmps187 rfl (fun cx=>(ts (rn rfl (eW (Ts:=[Is (.bool false),Is (.slice none 0 0),Is (.bool false),Is (.slice none 0 0),Is (.slice none 0 0)]) O_51 rfl (fun V=>aW zd (aW zd (aW zd (aW zd (aW zd (aG))))))) fun B5=>(eX (ts (ro rfl (dJ A_30 Z_30 (Ht rfl)) (rm rfl (ro rfl (dZ U_30 Z_29 (Ht rfl) (Ht rfl) rfl (dY (dU (d:=[]) zo))) (ro rfl (dJ A_29 Z_29 (Ht rfl)) ?_)))))))))
 refine rm rfl (ro rfl (dZ U_29 Z_51 (Ht rfl) (Ht rfl) rfl (dY (dU (d:=Qi.zero) zo))) (ro rfl (dJ A_51 Z_51 (Ht rfl)) (gQ Z_51 (Ht rfl) (Ht rfl) rfl (i:=0) rfl (aK rfl) rfl rfl (eX ?_))))
 exact fW rfl (fK A_51 Z_51 rfl (i:=0) rfl rfl)
theorem tC {z:List Qi} {s:List (List Qi)} {L:Nat} (hz:bk z L) (h:L ≤ 8796093022208) (hl:z.length ≤ 1000) (hl2:s.length ≤ 1000):az Tryz.prog 85 [aS z,b9 s] (cr [fP (bq (aP z s) z) (bq (aP z s) s),ap .i64 (aP z s)]):=by
 refine az.intro Tryz.func85 rfl Tryz.ntmps85 rfl (fun cx=>(ts (rn rfl (p8 (Ht rfl)) fun B3=>(rn rfl (eW (Ts:=[Is (.slice none 0 0),Is (.slice none 0 0)]) O_32 rfl (fun V=>aW zd (aW zd (aG)))) fun B4=>(ro rfl (cQ (cJ 0)) (eX (cK (cK (gJ (i:=0) (tt:=3) rfl rfl ju (cY (rm rfl (ro rfl (dG U_29 (Ht rfl) a7) (ro rfl (gX (Ht rfl) (cJ 1)) (rm rfl (fQ rfl rfl (eK rfl rfl (Ht rfl) (fun h=>cX (Ht rfl))) (fQ rfl rfl (eK rfl rfl (Ht rfl) (fun h=>dG U_29 (fJ rfl h) a7)) ?_))))))))))))))))
 refine fQ rfl rfl (eK rfl rfl (Ht rfl) (fun h=>bD (fJ rfl h) (cJ 8))) (ro rfl (dr (Ht rfl) (fun h=>(fJ rfl h))) (rm rfl (fQ rfl rfl (eK rfl rfl (Ht rfl) (fun h=>dJ A_30 Z_30 (Ht rfl))) (fQ rfl rfl (eK rfl rfl (Ht rfl) (fun h=>dG U_30 (fJ rfl h) a7)) (fQ rfl rfl (eK rfl rfl (Ht rfl) (fun h=>cX (Ht rfl))) (fQ rfl rfl (eK rfl rfl (Ht rfl) (fun h=>dG U_29 (fJ rfl h) a7)) (fQ rfl rfl (eK rfl rfl (Ht rfl) (fun h=>cu (fJ rfl h) (fJ rfl h))) ?_)))))))
 refine ro rfl (dr (Ht rfl) (fun h=>(fJ rfl h))) (eX (dQ (Ht rfl) (fun hb=>?_) (fun hb=>?_)))
 ·have he := ss hb
  refine ts (ro rfl (al.imp (ma ) mh) (gQ Z_32 (Ht rfl) (Ht rfl) rfl (i:=1) rfl (aK rfl) rfl rfl (ro rfl (cQ (cJ 4)) (eX (aE rfl (fX (fK A_32 Z_32 rfl (i:=1) rfl rfl) ?_) (fX (eU rfl) ?_))))))
  ·exact (rv he (by decide))
  ·exact (am he.symm)
 ·refine cU (cK (ts (ro rfl (dJ A_30 Z_30 (Ht rfl)) (ro rfl (dG U_30 (Ht rfl) a7) (ro rfl (cX (cJ 0)) (eX (eG ?_)))))))
  refine aF (fun (k : Nat) => k ≤ s.length ∧ ∀ (i : Nat) (r : List Qi), i < k → s[i]? = some r → r.length = z.length) (fun (k : Nat) => s.length - k) (fun (k : Nat) => [(0, aS z), (3, PT (b9 s)), (4, aI B4 0), (25, b9 s), (26, NT .i64 s.length), (27, NT .i64 k)]) (fun (k : Nat) => [SA.emp, box B4 32 [Is (.slice none 0 0), Is (.slice none 0 0)]]) 0 ⟨Nat.zero_le _, fun i r h => by omega⟩
   (zS rfl) (bh.refl _) (fun k ⟨hk,hr⟩=>?_)
  refine ts (ro rfl (gX (Ht rfl) (Ht rfl)) (eX (cK (dQ (Ht rfl) (fun hc=>?_) (fun hc=>?_)))))
  ·simp only [decide_eq_true_eq] at hc
   refine cU (cK (eG (ts (ro rfl (dZ U_30 Z_29 (Ht rfl) (Ht rfl) rfl (dY (gG hc))) (ro rfl (dJ A_29 Z_29 (Ht rfl)) (ra rfl (eX (ts (rm rfl (ro rfl (dG U_29 (Ht rfl) a7) (rm rfl (ro rfl (dG U_29 (Ht rfl) a7) (ro rfl (cu (Ht rfl) (Ht rfl)) (eX (dQ (Ht rfl) (fun hd=>?_) (fun hd=>?_))))))))))))))))
   ·have hd2 : ¬ (s[k]).length = z.length := by simpa using hd
    have he:=tQ (gG hc) hd2
    refine ts (ro rfl (al.imp (ma ) mh) (gQ Z_32 (Ht rfl) (Ht rfl) rfl (i:=1) rfl (aK rfl) rfl rfl (ro rfl (cQ (cJ 4)) (eX (aE rfl (fX (fK A_32 Z_32 rfl (i:=1) rfl rfl) ?_) (fX (eU rfl) ?_))))))
    ·exact (rv he (by decide))
    ·exact (am he.symm)
   ·have hd2 : (s[k]).length = z.length := by simpa using hd
    refine cU (as (cY (ro rfl (dV (Ht rfl) (cJ 1) z6) (rm rfl (eX ?_)))))
    refine fU (k + 1) ⟨hc, fun i r h1 h2 => by
      by_cases e:i = k
      ·subst e; rw [gG hc] at h2; obtain rfl:=Option.some.inj h2; exact hd2
      ·exact hr i r zo h2⟩ zo (zS rfl) (bh.refl _)
  ·simp only [decide_eq_false_iff_not] at hc
   have hall:∀ (i:Nat) (r:List Qi),s[i]? = some r → r.length = z.length:=fun i r h=>hr i r (by have:=(List.getElem?_eq_some_iff.1 h).1; omega) h
   have hpos:=u4 hb hall
   refine gV rfl (cK (ts (rm rfl (ro rfl (cZ Tryz.call183 (rU hz h zo) ⟨(Ht rfl),trivial⟩) (ra rfl (eX (ts (rm rfl (ro rfl (eP (Ht rfl) cV) (eX (dQ (Ht rfl) (fun hd=>?_) (fun hd=>?_))))))))))))
   ·have hd2 : ¬ (if z.all ig = true then (0 : Int) else 1) = 0 := by simpa using hd
    refine ts (ro rfl (al.imp (ma ) mh) (rm rfl (gQ Z_32 (Ht rfl) (Ht rfl) rfl (i:=1) rfl (aK rfl) rfl rfl (ra rfl (eX (aE rfl (fX (fK A_32 Z_32 rfl (i:=1) rfl rfl) ?_) (fX (eU rfl) ?_)))))))
    ·exact (rv hpos hd2)
    ·exact (am hpos.symm)
   ·have hd2 : (if z.all ig = true then (0 : Int) else 1) = 0 := by simpa using hd
    have he:=hpos.trans hd2
    obtain ⟨h1,h2,hsh,_⟩:=mS he
    refine cU (ts (rm rfl (ro rfl (cZ Tryz.call158 (vU zo) ⟨(Ht rfl),trivial⟩) (rm rfl (ro rfl (dG U_29 (Ht rfl) a7) (ro rfl (lc (γ:=Fin z.length × Fin z.length) (Ts:=fun x=>[NT .i64 x.1.1,NT .i64 x.2.1]) (U:=fun x=>ar (gm s x.1.1 x.2.1)) Tryz.call187 (fun x=>Ed hsh x.1.2 x.2.2) ⟨(Ht rfl),trivial⟩) (ro rfl (cZ Tryz.call114 (eQ (yE (n:=z.length) (f:=gm s) zo) (eR (by rw [← lh hsh]))) ⟨(Ht rfl),(Ht rfl),trivial⟩) ?_)))))))
    refine ro rfl (oX (Ht rfl) (Ht rfl)) (gQ Z_32 (Ht rfl) (Ht rfl) rfl (i:=1) rfl (aK rfl) rfl rfl (ro rfl (cQ (cJ 0)) (eX (aE rfl (fX (fK A_32 Z_32 rfl (i:=1) rfl rfl) ?_) (fX (eU rfl) ?_)))))
    ·exact (xL he)
    ·exact (am he.symm)
theorem li {z:List Qi} {s:List (List Qi)}:az Tryz.prog 22 [fP z s] (NT .i64 z.length):=by
 refine az.intro Tryz.func22 rfl Tryz.ntmps22 rfl (fun cx=>(ts (rn rfl (fG (Ht rfl)) fun B1=>(ro rfl (cQ (cJ 0)) (eX (ts (ro rfl (eZ iT (Ht rfl) rfl) (ro rfl (eY A_29 Z_29 (Ht rfl) (i:=0) rfl rfl) (ro rfl (dG U_29 (Ht rfl) a7) (ra rfl (eX ?_)))))))))))
 exact fW rfl (eU rfl)
theorem uQ {z:List Qi} {s:List (List Qi)} {i:Int}:az Tryz.prog 106 [fP z s,ap .i64 i] (ab (decide (1 ≤ i ∧ i ≤ z.length))):=by
 refine az.intro Tryz.func106 rfl Tryz.ntmps106 rfl (fun cx=>(ts (rn rfl (fG (Ht rfl)) fun B2=>(ro rfl (cQ cV) (eX (ts (rm rfl (ro rfl (eB (Ht rfl) cV) (rm rfl (fQ rfl rfl (eK rfl rfl (Ht rfl) (fun h=>cX (Ht rfl))) (fQ rfl rfl (eK rfl rfl (Ht rfl) (fun h=>eZ iT (Ht rfl) rfl)) (fQ rfl rfl (eK rfl rfl (Ht rfl) (fun h=>eY A_29 Z_29 (fJ rfl h) (i:=0) rfl rfl)) (fQ rfl rfl (eK rfl rfl (Ht rfl) (fun h=>dG U_29 (fJ rfl h) a7)) (fQ rfl rfl (eK rfl rfl (Ht rfl) (fun h=>uh (fJ rfl h) (fJ rfl h))) ?_))))))))))))))
 refine ro rfl (c7 (Ht rfl) (fun h=>(fJ rfl h))) (ra rfl (eX (fW rfl (fX (eU rfl) ?_))))
 exact (bF (by rw [Bool.eq_iff_iff]; simp))
end
section
open Go Go.RowKit
theorem l9 (a:Addr) (w:World):(Instr.fieldAt 32 (.pointer (some a)) 1).run Tryz.prog w = .ok (.pointer (some (a.add 1))) w:=by
 simp [Instr.fieldAt,Instr.sureAddr,fieldPlace,Sem.run_bind,Result.andThen,U_32,Z_30]
theorem mK (a:Addr) (w:World):(Instr.fieldAt 34 (.pointer (some a)) 0).run Tryz.prog w = .ok (.pointer (some (a.add 0))) w:=by
 simp [Instr.fieldAt,Instr.sureAddr,fieldPlace,Sem.run_bind,Result.andThen,U_34,Z_32]
theorem j8 (a:Addr) (w:World):(Instr.fieldAt 34 (.pointer (some a)) 1).run Tryz.prog w = .ok (.pointer (some (a.add 2))) w:=by
 simp [Instr.fieldAt,Instr.sureAddr,fieldPlace,Sem.run_bind,Result.andThen,U_34,Z_30]
end
section
open Go Go.RowKit
theorem y8 {z:List Qi} {s:List (List Qi)} {i:Int} (hl:z.length ≤ 1000):az Tryz.prog 23 [fP z s,ap .i64 i] (cr [ar (xG z i),ap .i64 (if 1 ≤ i ∧ i ≤ z.length then 0 else 1)]):=by
 refine az.intro Tryz.func23 rfl Tryz.ntmps23 rfl (fun cx=>(ts (rn rfl (fG (Ht rfl)) fun B2=>(rn rfl (eW (Ts:=[Is (.bool false),Is (.slice none 0 0),Is (.bool false),Is (.slice none 0 0),Is (.slice none 0 0)]) O_51 rfl (fun V=>aW zd (aW zd (aW zd (aW zd (aW zd (aG))))))) fun B4=>(ro rfl (cQ (cJ 0)) (eX (cK (ts (ro rfl (eJ A_32 Z_32 (Ht rfl) (i:=0) rfl rfl rfl) (rm rfl (ro rfl (cZ Tryz.call106 uQ ⟨(Ht rfl),(Ht rfl),trivial⟩) ?_)))))))))))
 refine ro rfl (co (Ht rfl)) (eX (dQ (Ht rfl) (fun hb=>?_) (fun hb=>?_)))
 ·have hn : ¬ (1 ≤ i ∧ i ≤ (z.length : Int)) := by simpa only [Bool.not_eq_true', decide_eq_false_iff_not] using hb
  refine ts (ro rfl (al.imp (rC ) gU) (gQ Z_51 (Ht rfl) (Ht rfl) rfl (i:=1) rfl (aK rfl) rfl rfl (ro rfl (cQ (cJ 1)) (eX (aE rfl (fX (fK A_51 Z_51 rfl (i:=1) rfl rfl) ?_) (fX (eU rfl) ?_))))))
  ·exact (fH (by rw [xG,if_neg hn]))
  ·exact (am (by rw [if_neg hn]; rfl))
 ·have hp : 1 ≤ i ∧ i ≤ (z.length : Int) := by simpa only [Bool.not_eq_false', decide_eq_true_eq] using hb
  have hq:(i - 1).toNat < z.length:=by omega
  refine cU (ts (ro rfl (eZ iT (Ht rfl) rfl) (ro rfl (eY A_29 Z_29 (Ht rfl) (i:=0) rfl rfl) (rm rfl (ro rfl (bT (Ht rfl) cV (kA zo)) (ro rfl (dZ U_29 Z_51 (Ht rfl) (Ht rfl) (by omega:i - 1 = (((i - 1).toNat:Nat):Int)) (dY (dU (d:=Qi.zero) hq))) (ro rfl (dJ A_51 Z_51 (Ht rfl)) (gQ Z_51 (Ht rfl) (Ht rfl) rfl (i:=1) rfl (aK rfl) rfl rfl (ro rfl (cQ (cJ 0)) (eX (aE rfl (fX (fK A_51 Z_51 rfl (i:=1) rfl rfl) ?_) (fX (eU rfl) ?_))))))))))))
  ·exact (fH (by rw [xG,if_pos hp]))
  ·exact (am (by rw [if_pos hp]; rfl))
theorem Fx {z:List Qi} {s:List (List Qi)} {i j:Int} (hs:bE s z.length z.length) (hl:z.length ≤ 1000):az Tryz.prog 25 [fP z s,ap .i64 i,ap .i64 j] (cr [ar (wL z.length s i j),ap .i64 (if (1 ≤ i ∧ i ≤ z.length) ∧ 1 ≤ j ∧ j ≤ z.length then 0 else 1)]):=by
 have hs1:=hs.1
 refine az.intro Tryz.func25 rfl Tryz.ntmps25 rfl (fun cx=>(ts (rn rfl (fG (Ht rfl)) fun B3=>(rn rfl (eW (Ts:=[Is (.bool false),Is (.slice none 0 0),Is (.bool false),Is (.slice none 0 0),Is (.slice none 0 0)]) O_51 rfl (fun V=>aW zd (aW zd (aW zd (aW zd (aW zd (aG))))))) fun B6=>(ro rfl (cQ (cJ 0)) (eX (cK (ts (ro rfl (eJ A_32 Z_32 (Ht rfl) (i:=0) rfl rfl rfl) (rm rfl (ro rfl (cZ Tryz.call106 uQ ⟨(Ht rfl),(Ht rfl),trivial⟩) ?_)))))))))))
 refine ro rfl (co (Ht rfl)) (rm rfl (fQ rfl rfl (eK rfl rfl (Ht rfl) (fun h=>eJ A_32 Z_32 (Ht rfl) (i:=0) rfl rfl rfl)) (fQ rfl rfl (eK rfl rfl (Ht rfl) (fun h=>cX (Ht rfl))) (fQ rfl rfl (eK rfl rfl (Ht rfl) (fun h=>cZ Tryz.call106 uQ ⟨(fJ rfl h),(fJ rfl h),trivial⟩)) (fQ rfl rfl (eK rfl rfl (Ht rfl) (fun h=>co (fJ rfl h))) (ro rfl (dr (Ht rfl) (fun h=>(fJ rfl h))) (eX (dQ (Ht rfl) (fun hb=>?_) (fun hb=>?_)))))))))
 ·have hn : ¬ ((1 ≤ i ∧ i ≤ (z.length : Int)) ∧ 1 ≤ j ∧ j ≤ (z.length : Int)) := by simp only [Bool.or_eq_true, Bool.not_eq_true', decide_eq_false_iff_not] at hb; exact fun k => hb.elim (fun h => h k.1) (fun h => h k.2)
  refine ts (rn rfl (eW (Ts:=[Is (.bool false),Is (.slice none 0 0),Is (.bool false),Is (.slice none 0 0),Is (.slice none 0 0)]) O_51 rfl (fun V=>aW zd (aW zd (aW zd (aW zd (aW zd (aG))))))) fun B8=>(eX (ts (ro rfl (eJ A_51 Z_51 (Ht rfl) (i:=2) rfl rfl rfl) (gQ Z_51 (Ht rfl) (Ht rfl) rfl (i:=1) rfl (aK rfl) rfl rfl (ro rfl (cQ (cJ 1)) (eX (aE rfl (fX (fK A_51 Z_51 rfl (i:=1) rfl rfl) ?_) (fX (eU rfl) ?_)))))))))
  ·exact (fun v V k=>by rw [wL,if_neg hn]; exact gU v V k)
  ·exact (am (by rw [if_neg hn]; rfl))
 ·have hp : (1 ≤ i ∧ i ≤ (z.length : Int)) ∧ 1 ≤ j ∧ j ≤ (z.length : Int) := by simpa only [Bool.or_eq_false_iff, Bool.not_eq_false', decide_eq_true_eq] using hb
  have hq:(i - 1).toNat < s.length:=by omega
  have hq2:(j - 1).toNat < (s.getD (i - 1).toNat []).length:=by rw [hs.row zo]; omega
  refine cU (ts (ro rfl (eZ l9 (Ht rfl) rfl) (ro rfl (eY A_30 Z_30 (Ht rfl) (i:=0) rfl rfl) (rm rfl (ro rfl (bT (Ht rfl) cV (kA zo)) (ro rfl (dZ U_30 Z_29 (Ht rfl) (Ht rfl) (by omega:i - 1 = (((i - 1).toNat:Nat):Int)) (dY (dU (d:=[]) hq))) (ro rfl (dJ A_29 Z_29 (Ht rfl)) (rm rfl (ro rfl (bT (Ht rfl) cV (kA zo)) (ro rfl (dZ U_29 Z_51 (Ht rfl) (Ht rfl) (by omega:j - 1 = (((j - 1).toNat:Nat):Int)) (dY (dU (d:=Qi.zero) hq2))) ?_))))))))))
  refine ro rfl (dJ A_51 Z_51 (Ht rfl)) (gQ Z_51 (Ht rfl) (Ht rfl) rfl (i:=1) rfl (aK rfl) rfl rfl (ro rfl (cQ (cJ 0)) (eX (aE rfl (fX (fK A_51 Z_51 rfl (i:=1) rfl rfl) ?_) (fX (eU rfl) ?_)))))
  ·exact (fH (by rw [wL,if_pos hp]))
  ·exact (am (by rw [if_pos hp]; rfl))
theorem zQ {z:List Qi} {s c:List (List Qi)}:az Tryz.prog 51 [ee z s c] (fP z s):=by
 refine az.intro Tryz.func51 rfl Tryz.ntmps51 rfl (fun cx=>(ts (rn rfl (fG (Ht rfl)) fun B1=>(rn rfl (eW (Ts:=[Is (.slice none 0 0),Is (.slice none 0 0)]) O_32 rfl (fun V=>aW zd (aW zd (aG)))) fun B2=>(eX (ts (ro rfl (eZ mK (Ht rfl) rfl) (ro rfl (eJ A_32 Z_32 (Ht rfl) (i:=0) rfl rfl rfl) (gQ Z_32 (Ht rfl) (Ht rfl) rfl (i:=1) rfl (aK rfl) rfl rfl (eX ?_))))))))))
 exact fW rfl (fK A_32 Z_32 rfl (i:=1) rfl rfl)
theorem v9 {z:List Qi} {s c:List (List Qi)} {i j:Int} (hs:bE c c.length c.length) (hl:c.length ≤ 1000):az Tryz.prog 87 [ee z s c,ap .i64 i,ap .i64 j] (cr [ar (wL c.length c i j),ap .i64 (if (1 ≤ i ∧ i ≤ c.length) ∧ 1 ≤ j ∧ j ≤ c.length then 0 else 1)]):=by
 refine az.intro Tryz.func87 rfl Tryz.ntmps87 rfl (fun cx=>(ts (rn rfl (fG (Ht rfl)) fun B3=>(rn rfl (eW (Ts:=[Is (.bool false),Is (.slice none 0 0),Is (.bool false),Is (.slice none 0 0),Is (.slice none 0 0)]) O_51 rfl (fun V=>aW zd (aW zd (aW zd (aW zd (aW zd (aG))))))) fun B6=>(ro rfl (cQ (cJ 0)) (eX (cK (ts (rm rfl (ro rfl (iG (Ht rfl) cV) (rm rfl (fQ rfl rfl (eK rfl rfl (Ht rfl) (fun h=>cX (Ht rfl))) ?_))))))))))))
 refine fQ rfl rfl (eK rfl rfl (Ht rfl) (fun h=>eZ j8 (Ht rfl) rfl)) (fQ rfl rfl (eK rfl rfl (Ht rfl) (fun h=>eY A_30 Z_30 (fJ rfl h) (i:=0) rfl rfl)) (fQ rfl rfl (eK rfl rfl (Ht rfl) (fun h=>dG U_30 (fJ rfl h) a7)) (fQ rfl rfl (eK rfl rfl (Ht rfl) (fun h=>mY (fJ rfl h) (fJ rfl h))) (ro rfl (dr (Ht rfl) (fun h=>(fJ rfl h))) (rm rfl (fQ rfl rfl (eK rfl rfl (Ht rfl) (fun h=>cX (Ht rfl))) (fQ rfl rfl (eK rfl rfl (Ht rfl) (fun h=>iG (fJ rfl h) cV)) ?_)))))))
 refine ro rfl (dr (Ht rfl) (fun h=>(fJ rfl h))) (rm rfl (fQ rfl rfl (eK rfl rfl (Ht rfl) (fun h=>cX (Ht rfl))) (fQ rfl rfl (eK rfl rfl (Ht rfl) (fun h=>eZ j8 (Ht rfl) rfl)) (fQ rfl rfl (eK rfl rfl (Ht rfl) (fun h=>eY A_30 Z_30 (fJ rfl h) (i:=0) rfl rfl)) (fQ rfl rfl (eK rfl rfl (Ht rfl) (fun h=>dG U_30 (fJ rfl h) a7)) (fQ rfl rfl (eK rfl rfl (Ht rfl) (fun h=>mY (fJ rfl h) (fJ rfl h))) (ro rfl (dr (Ht rfl) (fun h=>(fJ rfl h))) (eX (dQ (Ht rfl) (fun hb=>?_) (fun hb=>?_))))))))))
 ·have hn : ¬ ((1 ≤ i ∧ i ≤ (c.length : Int)) ∧ 1 ≤ j ∧ j ≤ (c.length : Int)) := by simp only [Bool.or_eq_true, decide_eq_true_eq] at hb; omega
  refine ts (rn rfl (eW (Ts:=[Is (.bool false),Is (.slice none 0 0),Is (.bool false),Is (.slice none 0 0),Is (.slice none 0 0)]) O_51 rfl (fun V=>aW zd (aW zd (aW zd (aW zd (aW zd (aG))))))) fun B8=>(eX (ts (ro rfl (eJ A_51 Z_51 (Ht rfl) (i:=2) rfl rfl rfl) (gQ Z_51 (Ht rfl) (Ht rfl) rfl (i:=1) rfl (aK rfl) rfl rfl (ro rfl (cQ (cJ 1)) (eX (aE rfl (fX (fK A_51 Z_51 rfl (i:=1) rfl rfl) ?_) (fX (eU rfl) ?_)))))))))
  ·exact (fun v V k=>by rw [wL,if_neg hn]; exact gU v V k)
  ·exact (am (by rw [if_neg hn]; rfl))
 ·have hp : (1 ≤ i ∧ i ≤ (c.length : Int)) ∧ 1 ≤ j ∧ j ≤ (c.length : Int) := by simp only [Bool.or_eq_false_iff, decide_eq_false_iff_not] at hb; omega
  have hq:(i - 1).toNat < c.length:=by omega
  have hq2:(j - 1).toNat < (c.getD (i - 1).toNat []).length:=by rw [hs.row zo]; omega
  refine cU (ts (ro rfl (eZ j8 (Ht rfl) rfl) (ro rfl (eY A_30 Z_30 (Ht rfl) (i:=0) rfl rfl) (rm rfl (ro rfl (bT (Ht rfl) cV (kA zo)) (ro rfl (dZ U_30 Z_29 (Ht rfl) (Ht rfl) (by omega:i - 1 = (((i - 1).toNat:Nat):Int)) (dY (dU (d:=[]) hq))) (ro rfl (dJ A_29 Z_29 (Ht rfl)) (rm rfl (ro rfl (bT (Ht rfl) cV (kA zo)) (ro rfl (dZ U_29 Z_51 (Ht rfl) (Ht rfl) (by omega:j - 1 = (((j - 1).toNat:Nat):Int)) (dY (dU (d:=Qi.zero) hq2))) ?_))))))))))
  refine ro rfl (dJ A_51 Z_51 (Ht rfl)) (gQ Z_51 (Ht rfl) (Ht rfl) rfl (i:=1) rfl (aK rfl) rfl rfl (ro rfl (cQ (cJ 0)) (eX (aE rfl (fX (fK A_51 Z_51 rfl (i:=1) rfl rfl) ?_) (fX (eU rfl) ?_)))))
  ·exact (fH (by rw [wL,if_pos hp]))
  ·exact (am (by rw [if_pos hp]; rfl))
end
section
open Go Go.RowKit
theorem r5 (a:Addr) (w:World):(Instr.fieldAt 25 (.pointer (some a)) 0).run Tryz.prog w = .ok (.pointer (some (a.add 0))) w:=by
 simp [Instr.fieldAt,Instr.sureAddr,fieldPlace,Sem.run_bind,Result.andThen,U_25,Z_22]
theorem nY (a:Addr) (w:World):(Instr.fieldAt 25 (.pointer (some a)) 1).run Tryz.prog w = .ok (.pointer (some (a.add 1))) w:=by
 simp [Instr.fieldAt,Instr.sureAddr,fieldPlace,Sem.run_bind,Result.andThen,U_25,Z_23]
theorem nP (a:Addr) (w:World):(Instr.fieldAt 25 (.pointer (some a)) 2).run Tryz.prog w = .ok (.pointer (some (a.add 2))) w:=by
 simp [Instr.fieldAt,Instr.sureAddr,fieldPlace,Sem.run_bind,Result.andThen,U_25,Z_23]
theorem go:Tryz.prog.info? 131 = some Tryz.t131:=by kernel_rfl
theorem nR:Tryz.prog.info? 35 = some Tryz.t35:=by kernel_rfl
theorem ua:Tryz.prog.underlying 30 = some (.slice 29):=by kernel_rfl
theorem jF:Tryz.prog.underlying 35 = some (.slice 131):=by kernel_rfl
theorem zf:Tryz.prog.underlying 36 = some (.slice 35):=by kernel_rfl
end
section
open Go Go.RowKit
theorem n8 {m:List (List Rt)} (hm:m.length ≤ 1000) (hr:∀ r,r ∈ m → r.length ≤ 1000):az Tryz.prog 86 [mP m] (b9 (rq m)):=by
 refine az.intro Tryz.func86 rfl Tryz.ntmps86 rfl (fun cx=>(ts (ro rfl (cQ cV) (eX (ts (rm rfl (ro rfl (dG U_23 (Ht rfl) a7) (rn rfl (dE (T:=aS []) (i:=Tryz.t29) ua gr rfl rfl (Ht rfl) rfl s8 El.one (by show 24 * _ ≤ _; omega) zo) fun B8=>(ra rfl (eX (cK (ts (rm rfl (ro rfl (dG U_23 (Ht rfl) a7) (ro rfl (cX (cJ 0)) (eX (eG ?_)))))))))))))))))
 refine bA (fun (k : Nat) (out : List (List Qi)) => fq (fun i => (m.getD i default).map Rt.q) m.length out k) (fun (k : Nat) (out : List (List Qi)) => m.length - k) (fun (k : Nat) (out : List (List Qi)) => [(3, Is B8), (9, mP m), (10, NT .i64 m.length), (11, NT .i64 k)]) (fun (k : Nat) (out : List (List Qi)) => [aB 29 1 B8 (out.map aS)]) 0 (List.replicate m.length []) (fq.start _ _ _)
  (zS rfl) (aU (aa (ki aS _ _)) aY) (fun k out hS=>?_)
 refine ts (ro rfl (gX (Ht rfl) (Ht rfl)) (eX (cK (dQ (Ht rfl) (fun hk=>?_) (fun hk=>?_)))))
 ·simp only [decide_eq_true_eq] at hk
  have hlen:=hS.len
  have hrk : (m.getD k default).length ≤ 1000 := by
   have e:m.getD k default = m[k]:=by simp [List.getD,hk]
   rw [e]; exact hr _ (List.getElem_mem hk)
  refine cU (cK (eG (ts (rm rfl (ro rfl (dZ U_23 Z_22 (Ht rfl) (Ht rfl) rfl (dY (dU (d:=default) hk))) (ro rfl (dJ A_22 Z_22 (Ht rfl)) (ra rfl (ra rfl (eX (cY (rm rfl (rm rfl (rm rfl (ro rfl (cZ Tryz.call48 (mW zo) ⟨(Ht rfl),trivial⟩) (ro rfl (b6 U_30 Z_29 (Ht rfl) (Ht rfl) rfl (i:=0) rfl (by first | omega | (simp; omega)) rfl) (dB Z_29 (Ht rfl) (Ht rfl) El.one (i:=0) rfl rfl (by first | omega | (simp; omega)) rfl (eX (as ?_))))))))))))))))))
  refine cY (ro rfl (dV (Ht rfl) (cJ 1) z6) (rm rfl (eX (fU (k + 1,_) (hS.next hk rfl) (by dsimp only; omega) (zS rfl) (aU (aa (ce aS _ _ _)) aY)))))
 ·simp only [decide_eq_false_iff_not] at hk
  obtain rfl:k = m.length:=Nat.le_antisymm hS.kle zo
  have hfin:=hS.fin
  rw [kz m (fun r=>r.map Rt.q)] at hfin
  refine gV rfl (gJ (i:=0) (tt:=3) rfl rfl bB (ts (rm rfl (ra rfl (eX (fW rfl (fX (eU rfl) ?_)))))))
  exact (eR (by rw [hfin]))
theorem FG {z:List Rt} {s c:List (List Rt)}:az Tryz.prog 15 [xO z s c] (ab (nt z s c)):=by
 refine az.intro Tryz.func15 rfl Tryz.ntmps15 rfl (fun cx=>(ts (rn rfl (fG (Ht rfl)) fun B1=>(ro rfl (cQ cV) (eX (cK (ts (ro rfl (eZ r5 (Ht rfl) rfl) (ro rfl (eY A_22 Z_22 (Ht rfl) (i:=0) rfl rfl) (ro rfl (dG U_22 (Ht rfl) a7) (ro rfl (bD (Ht rfl) (cJ 9)) (rm rfl (fQ rfl rfl (eK rfl rfl (Ht rfl) (fun h=>eZ nY (Ht rfl) rfl)) (fQ rfl rfl (eK rfl rfl (Ht rfl) (fun h=>eY A_23 Z_23 (fJ rfl h) (i:=0) rfl rfl)) (fQ rfl rfl (eK rfl rfl (Ht rfl) (fun h=>dG U_23 (fJ rfl h) a7)) ?_)))))))))))))))
 refine fQ rfl rfl (eK rfl rfl (Ht rfl) (fun h=>bD (fJ rfl h) (cJ 9))) (ro rfl (dr (Ht rfl) (fun h=>(fJ rfl h))) (rm rfl (fQ rfl rfl (eK rfl rfl (Ht rfl) (fun h=>eZ nP (Ht rfl) rfl)) (fQ rfl rfl (eK rfl rfl (Ht rfl) (fun h=>eY A_23 Z_23 (fJ rfl h) (i:=0) rfl rfl)) (fQ rfl rfl (eK rfl rfl (Ht rfl) (fun h=>dG U_23 (fJ rfl h) a7)) (fQ rfl rfl (eK rfl rfl (Ht rfl) (fun h=>bD (fJ rfl h) (cJ 9))) (ro rfl (dr (Ht rfl) (fun h=>(fJ rfl h))) (eX ?_))))))))
 refine dQ (Ht rfl) (fun hb=>?_) (fun hb=>?_)
 ·refine ts (ro rfl (cQ cV) (eX (fW rfl (fX (eU rfl) ?_))))
  exact (bF (wK hb).symm)
 ·have hbl : z.length ≤ 9 ∧ s.length ≤ 9 ∧ c.length ≤ 9 := by have hb2 := hb; simp only [Bool.or_eq_false_iff, decide_eq_false_iff_not] at hb2; omega
  refine cU (cK (ts (ro rfl (eZ nY (Ht rfl) rfl) (ro rfl (eY A_23 Z_23 (Ht rfl) (i:=0) rfl rfl) (ro rfl (dG U_23 (Ht rfl) a7) (ro rfl (cX (cJ 0)) (eX (eG ?_))))))))
  refine aF (fun (k : Nat) => k ≤ s.length ∧ ∀ (i : Nat) (r : List Rt), i < k → s[i]? = some r → r.length ≤ 9) (fun (k : Nat) => s.length - k) (fun (k : Nat) => [(1, aI B1 0), (24, mP s), (25, NT .i64 s.length), (26, NT .i64 k)]) (fun (k : Nat) => [box B1 25 [lu z, mP s, mP c]]) 0 ⟨Nat.zero_le _, fun i r h => by omega⟩
   (zS rfl) (bh.refl _) (fun k ⟨hk,hr⟩=>?_)
  refine ts (ro rfl (gX (Ht rfl) (Ht rfl)) (eX (cK (dQ (Ht rfl) (fun hd=>?_) (fun hd=>?_)))))
  ·simp only [decide_eq_true_eq] at hd
   refine cU (cK (eG (ts (ro rfl (dZ U_23 Z_22 (Ht rfl) (Ht rfl) rfl (dY (gG hd))) (ro rfl (dJ A_22 Z_22 (Ht rfl)) (ra rfl (eX (ts (rm rfl (ro rfl (dG U_22 (Ht rfl) a7) (ro rfl (bD (Ht rfl) (cJ 9)) (eX (dQ (Ht rfl) (fun he=>?_) (fun he=>?_))))))))))))))
   ·simp only [decide_eq_true_eq] at he
    refine ts (ro rfl (cQ cV) (eX (fW rfl (fX (eU rfl) ?_))))
    exact (bF (wM (gG hd) he).symm)
   ·simp only [decide_eq_false_iff_not] at he
    refine cU (as (cY (ro rfl (dV (Ht rfl) (cJ 1) z6) (rm rfl (eX ?_)))))
    refine fU (k + 1) ⟨hd, fun i r h1 h2 => by
      by_cases e:i = k
      ·subst e; rw [gG hd] at h2; obtain rfl:=Option.some.inj h2; omega
      ·exact hr i r zo h2⟩ zo (zS rfl) (bh.refl _)
  ·simp only [decide_eq_false_iff_not] at hd
   have hall:∀ (i:Nat) (r:List Rt),s[i]? = some r → r.length ≤ 9:=fun i r h=>hr i r (by have:=(List.getElem?_eq_some_iff.1 h).1; omega) h
   refine gV rfl (cK (ts (ro rfl (eZ nP (Ht rfl) rfl) (ro rfl (eY A_23 Z_23 (Ht rfl) (i:=0) rfl rfl) (ro rfl (dG U_23 (Ht rfl) a7) (ro rfl (cX (cJ 0)) (eX (eG ?_))))))))
   refine aF (fun (k : Nat) => k ≤ c.length ∧ ∀ (i : Nat) (r : List Rt), i < k → c[i]? = some r → r.length ≤ 9) (fun (k : Nat) => c.length - k) (fun (k : Nat) => [(1, aI B1 0), (35, mP c), (36, NT .i64 c.length), (37, NT .i64 k)]) (fun (k : Nat) => [box B1 25 [lu z, mP s, mP c]]) 0 ⟨Nat.zero_le _, fun i r h => by omega⟩
    (zS rfl) (bh.refl _) (fun k ⟨hk2,hr2⟩=>?_)
   refine ts (ro rfl (gX (Ht rfl) (Ht rfl)) (eX (cK (dQ (Ht rfl) (fun hd2=>?_) (fun hd2=>?_)))))
   ·simp only [decide_eq_true_eq] at hd2
    refine cU (cK (eG (ts (ro rfl (dZ U_23 Z_22 (Ht rfl) (Ht rfl) rfl (dY (gG hd2))) (ro rfl (dJ A_22 Z_22 (Ht rfl)) (ra rfl (eX (ts (rm rfl (ro rfl (dG U_22 (Ht rfl) a7) (ro rfl (bD (Ht rfl) (cJ 9)) (eX (dQ (Ht rfl) (fun he=>?_) (fun he=>?_))))))))))))))
    ·simp only [decide_eq_true_eq] at he
     refine ts (ro rfl (cQ cV) (eX (fW rfl (fX (eU rfl) ?_))))
     exact (bF (wI (gG hd2) he).symm)
    ·simp only [decide_eq_false_iff_not] at he
     refine cU (as (cY (ro rfl (dV (Ht rfl) (cJ 1) z6) (rm rfl (eX ?_)))))
     refine fU (k + 1) ⟨hd2, fun i r h1 h2 => by
       by_cases e:i = k
       ·subst e; rw [gG hd2] at h2; obtain rfl:=Option.some.inj h2; omega
       ·exact hr2 i r zo h2⟩ zo (zS rfl) (bh.refl _)
   ·simp only [decide_eq_false_iff_not] at hd2
    have hall2:∀ (i:Nat) (r:List Rt),c[i]? = some r → r.length ≤ 9:=fun i r h=>hr2 i r (by have:=(List.getElem?_eq_some_iff.1 h).1; omega) h
    refine gV rfl (ts (ro rfl (cQ cV) (eX (fW rfl (fX (eU rfl) ?_)))))
    exact (bF (A4 hb hall hall2).symm)
theorem qB {m:List Rt} (hm:m.length ≤ 1000):az Tryz.prog 50 [lu m] (eN 5 ((m.map Rt.q).map QT)):=by
 refine az.intro Tryz.func50 rfl Tryz.ntmps50 rfl (fun cx=>(ts (ro rfl (cQ cV) (eX (ts (ro rfl (cQ cV) (eX (cK (ts (rm rfl (ro rfl (dG U_22 (Ht rfl) a7) (ro rfl (cX (cJ 0)) (eX (eG (iF 131 5 ?_)))))))))))))))
 refine cT (fun (k : Nat) (out : List (Qi)) (v : Value) => k ≤ m.length ∧ out = (m.map Rt.q).take k) (fun (k : Nat) (out : List (Qi)) (v : Value) => m.length - k) (fun (k : Nat) (out : List (Qi)) (v : Value) => [(3, Is v), (6, lu m), (7, NT .i64 m.length), (8, NT .i64 k)]) (fun (k : Nat) (out : List (Qi)) (v : Value) => [aB 131 5 v (out.map QT)]) 0 [] (.slice none 0 0) ⟨Nat.zero_le _, rfl⟩
  (zS rfl) (bh.refl _) (fun k out v ⟨hk,ho⟩=>?_)
 refine ts (ro rfl (gX (Ht rfl) (Ht rfl)) (eX (cK (dQ (Ht rfl) (fun hd=>?_) (fun hd=>?_)))))
 ·simp only [decide_eq_true_eq] at hd
  have hol:out.length ≤ 1000:=by rw [ho,List.length_take]; omega
  refine cU (cK (eG (ts (ro rfl (dZ U_22 Z_102 (Ht rfl) (Ht rfl) rfl (dY (dU (d:=default) hd))) (ro rfl (dJ A_102 Z_102 (Ht rfl)) (rn rfl (eW (Ts:=[Is (.int .i64 0),Is (.int .i64 0),Is (.int .i64 0)]) O_102 rfl (fun V=>aW zd (aW zd (aW zd (aG))))) fun B5=>(gQ Z_102 (Ht rfl) (Ht rfl) rfl (i:=1) rfl (aK rfl) rfl rfl (eX (cY (rm rfl (ro rfl (eJ A_102 Z_102 (Ht rfl) (i:=1) rfl rfl rfl) ?_)))))))))))
  refine ro rfl (cZ Tryz.call151 Fw ⟨(Ht rfl),trivial⟩) (ro rfl (aN (xs:=[.tmp 14]) U_35 Z_131 O_131 (cW (Ht rfl) cG) rfl rfl rfl) (d5 (inf:=Tryz.t131) jF go rfl rfl rfl (Ht rfl) (Ht rfl) (i:=0) rfl (by simp) (fun T hT=>by simp at hT; subst hT; exact El.ag rfl) (by show _ * 88 ≤ _; simp only [List.length_map,List.length_cons,List.length_nil]; omega) (by simp only [List.length_map,List.length_cons,List.length_nil]; omega) rfl (fun v2=>?_)))
  refine ra rfl (eX (as (cY (ro rfl (dV (Ht rfl) (cJ 1) z6) (rm rfl (eX (aO [0] rfl (by decide) (fU (k + 1,_,v2) ⟨by omega,oA (g:=Rt.q) hd ho⟩ (by dsimp only; omega) (zS rfl) (aU (aa (iE QT _ _)) aY)))))))))
 ·simp only [decide_eq_false_iff_not] at hd
  have hfin:=oZ ho (by simp only [List.length_map]; omega)
  refine gV rfl (gJ (i:=0) (tt:=3) rfl rfl bB (ts (rm rfl (ra rfl (eX (fW rfl (fX (eU rfl) ?_)))))))
  exact (eR (by rw [hfin]))
theorem qi {m:List (List Rt)} (hm:m.length ≤ 1000) (hr:∀ r,r ∈ m → r.length ≤ 1000):az Tryz.prog 91 [mP m] (eN 1 ((rq m).map iv)):=by
 refine az.intro Tryz.func91 rfl Tryz.ntmps91 rfl (fun cx=>(ts (ro rfl (cQ cV) (eX (ts (ro rfl (cQ cV) (eX (cK (ts (rm rfl (ro rfl (dG U_23 (Ht rfl) a7) (ro rfl (cX (cJ 0)) (eX (eG (iF 35 1 ?_)))))))))))))))
 refine cT (fun (k : Nat) (out : List (List Qi)) (v : Value) => k ≤ m.length ∧ out = (rq m).take k) (fun (k : Nat) (out : List (List Qi)) (v : Value) => m.length - k) (fun (k : Nat) (out : List (List Qi)) (v : Value) => [(3, Is v), (6, mP m), (7, NT .i64 m.length), (8, NT .i64 k)]) (fun (k : Nat) (out : List (List Qi)) (v : Value) => [aB 35 1 v (out.map iv)]) 0 [] (.slice none 0 0) ⟨Nat.zero_le _, rfl⟩
  (zS rfl) (bh.refl _) (fun k out v ⟨hk,ho⟩=>?_)
 refine ts (ro rfl (gX (Ht rfl) (Ht rfl)) (eX (cK (dQ (Ht rfl) (fun hd=>?_) (fun hd=>?_)))))
 ·simp only [decide_eq_true_eq] at hd
  have hol:out.length ≤ 1000:=by rw [ho,List.length_take]; omega
  have hrk : (m.getD k default).length ≤ 1000 := by
   have e:m.getD k default = m[k]:=by simp [List.getD,hd]
   rw [e]; exact hr _ (List.getElem_mem hd)
  refine cU (cK (eG (ts (ro rfl (dZ U_23 Z_22 (Ht rfl) (Ht rfl) rfl (dY (dU (d:=default) hd))) (ro rfl (dJ A_22 Z_22 (Ht rfl)) (ra rfl (eX (cY (rm rfl (rm rfl (ro rfl (cZ Tryz.call50 (qB zo) ⟨(Ht rfl),trivial⟩) (ro rfl (aN (xs:=[.tmp 14]) U_36 Z_35 Tryz.zeroValue35 (cW (Ht rfl) cG) rfl rfl rfl) (d5 (inf:=Tryz.t35) zf nR rfl rfl rfl (Ht rfl) (Ht rfl) (i:=0) rfl (by simp) (fun T hT=>by simp at hT; subst hT; exact El.one) (by show _ * 24 ≤ _; simp only [List.length_map,List.length_cons,List.length_nil]; omega) (by simp only [List.length_map,List.length_cons,List.length_nil]; omega) rfl (fun v2=>?_))))))))))))))
  refine ra rfl (eX (as (cY (ro rfl (dV (Ht rfl) (cJ 1) z6) (rm rfl (eX (aO [0] rfl (by decide) (fU (k + 1,_,v2) ⟨by omega,oA (g:=(fun r=>r.map Rt.q)) hd ho⟩ (by dsimp only; omega) (zS rfl) (aU (aa (iE iv _ _)) aY)))))))))
 ·simp only [decide_eq_false_iff_not] at hd
  have hfin:=oZ ho (by simp only [List.length_map]; omega)
  refine gV rfl (gJ (i:=0) (tt:=3) rfl rfl bB (ts (rm rfl (ra rfl (eX (fW rfl (fX (eU rfl) ?_)))))))
  exact (eR (by rw [hfin]))
end
section
open Go Go.RowKit
theorem ry {n : Nat} {E : bn} {H : Hp} {d : Option Tmp} {t : TypeId} {pos : String} {af : Array Edge} {g : Option (Nat × Bool)}  :
  al Tryz.prog n E H ⟨d,.build 34 #[],t,pos,af,g⟩ (bO [Is (.slice none 0 0),Is (.slice none 0 0),Is (.slice none 0 0)]) :=
 ck (parts := []) fun a V w hs => by
  refine ⟨.agg #[(.slice none 0 0),(.slice none 0 0),(.slice none 0 0)],?_,[(.slice none 0 0),(.slice none 0 0),(.slice none 0 0)],rfl,aW (⟨rfl,trivial⟩) (aW (⟨rfl,trivial⟩) (aW (⟨rfl,trivial⟩) (aG)))⟩
  simp [Instr.build,Instr.fill,Sem.run_bind,Result.andThen,bP,O_34,U_34,Z_30,Z_32]
theorem z0 {n : Nat} {E : bn} {H : Hp} {d : Option Tmp} {t : TypeId} {pos : String} {af : Array Edge} {g : Option (Nat × Bool)} {x0 : Operand} {T0 T1 : Ty} (h0 : aA E x0 (bO [T0, T1])) :
  al Tryz.prog n E H ⟨d,.build 34 #[(0,x0)],t,pos,af,g⟩ (bO [T0,T1,Is (.slice none 0 0)]) :=
 ck (parts := [(0, x0)]) fun a V w hs => by
  obtain ⟨v0,e0,c0⟩:=h0 n V a hs
  obtain ⟨c0_0,c0_1,rfl⟩:∃ c0_0 c0_1,v0 = [c0_0,c0_1]:=nC (by simpa using c0.length)
  refine ⟨.agg #[c0_0,c0_1,(.slice none 0 0)],?_,[c0_0,c0_1,(.slice none 0 0)],rfl,aW (c0.at (i:=0) rfl rfl) (aW (c0.at (i:=1) rfl rfl) (aW (⟨rfl,trivial⟩) (aG)))⟩
  simp [e0,Instr.build,Instr.fill,Sem.run_bind,Result.andThen,bP,O_34,U_34,Z_30,Z_32]
end
section
open Go Go.RowKit
theorem wR {r:List Qi} {c:List (List Qi)}:az Tryz.prog 157 [aS r,PT (b9 c)] (ab (!decide (r.length = c.length))):=by
 refine az.intro Tryz.func157 rfl Tryz.ntmps157 rfl (fun cx=>(ts (ro rfl (cQ cV) (eX (ts (rm rfl (ro rfl (dG U_29 (Ht rfl) a7) (ro rfl (dJ A_30 Z_30 (Ht rfl)) (ro rfl (dG U_30 (Ht rfl) a7) (ro rfl (cu (Ht rfl) (Ht rfl)) (ra rfl (eX ?_))))))))))))
 exact fW rfl (eU rfl)
theorem yr {z:List Qi} {s c:List (List Qi)} (hz:z.length ≤ 1000) (hc:c.length ≤ 1000):az Tryz.prog 55 [fP z s,b9 c] (cr [ee (bq (bm z c) z) (bq (bm z c) s) (bq (bm z c) c),ap .i64 (bm z c)]):=by
 refine az.intro Tryz.func55 rfl Tryz.ntmps55 rfl (fun cx=>(ts (rn rfl (fG (Ht rfl)) fun B2=>(rn rfl (p8 (Ht rfl)) fun B3=>(rn rfl (eW (Ts:=[Is (.slice none 0 0),Is (.slice none 0 0),Is (.slice none 0 0)]) O_34 rfl (fun V=>aW zd (aW zd (aW zd (aG))))) fun B4=>(ro rfl (cQ (cJ 0)) (eX (cK (cK (gJ (i:=1) (tt:=3) rfl rfl ju (fZ (m:=8) (dp 3 rfl (dJ A_30 Z_30 (Ht rfl)) (dq 9 0 rfl (dG U_30 (Ht rfl) a7) ?_)))))))))))))
 refine dp 2 rfl (eJ A_32 Z_32 (Ht rfl) (i:=0) rfl rfl rfl) (dq 11 2 rfl (cZ K_22 li ⟨(Ht rfl),trivial⟩) (b8 10 1 12 3 rfl (cu (Ht rfl) (Ht rfl)) (dq 13 4 rfl (cX (Ht rfl)) (C.D_step (Ei:=[(3,_),(14,_)]) rfl rfl (bV (bK rfl rfl) (bV (bG 5 rfl rfl) bW)) (eK rfl rfl (Ht rfl) (fun h=>dJ A_30 Z_30 (Ht rfl))) (C.D_step (Ei:=[(3,_),(14,_)]) rfl rfl (bV (bK rfl rfl) (bV (bG 5 rfl rfl) bW)) (eK rfl rfl (Ht rfl) (fun h=>lc (γ:=List Qi) (Ts:=fun r=>[aS r]) (U:=fun r=>ab (!decide (r.length = c.length))) Tryz.call157 (fun r=>wR) ⟨(Ht rfl),trivial⟩)) ?_)))))
 refine fV au rfl (by kernel_rfl) (zF (zF (aV (fQ rfl rfl (eK rfl rfl (Ht rfl) (fun h=>cZ Tryz.call156 (lv (l:=c) (T:=aS) (p:=fun r=>!decide (r.length = c.length)) zo) ⟨(fJ rfl h),(fJ rfl h),trivial⟩)) (ro rfl (dr (Ht rfl) (fun h=>(fJ rfl h))) (eX (dQ (Ht rfl) (fun hb=>?_) (fun hb=>?_))))))))
 ·have he := ux hb
  refine ts (ro rfl (al.imp (ry ) nr) (gQ Z_34 (Ht rfl) (Ht rfl) rfl (i:=2) rfl (aK rfl) rfl rfl (ro rfl (cQ (cJ 4)) (eX (aE rfl (fX (fK A_34 Z_34 rfl (i:=2) rfl rfl) ?_) (fX (eU rfl) ?_))))))
  ·exact (wU he)
  ·exact (am he.symm)
 ·have he := sm hb
  obtain ⟨hcl,hsh⟩:=nf he
  refine cU (ts (ro rfl (eJ A_32 Z_32 (Ht rfl) (i:=0) rfl rfl rfl) (ro rfl (z0 (Ht rfl)) (rn rfl (eW (Ts:=[Is (.slice none 0 0),Is (.slice none 0 0),Is (.slice none 0 0)]) O_34 rfl (fun V=>aW zd (aW zd (aW zd (aG))))) fun B6=>(gQ Z_34 (Ht rfl) (Ht rfl) rfl (i:=3) rfl (aK rfl) rfl rfl (eX (cK (ts (ro rfl (dJ A_30 Z_30 (Ht rfl)) (ro rfl (dG U_30 (Ht rfl) a7) (ro rfl (cX (cJ 0)) ?_)))))))))))
  refine eX (eG (aO [2,3] rfl (by decide) (iF 29 1 ?_)))
  refine cT (fun (k : Nat) (out : List (List Qi)) (v : Value) => k ≤ c.length ∧ out = c.take k) (fun (k : Nat) (out : List (List Qi)) (v : Value) => c.length - k) (fun (k : Nat) (out : List (List Qi)) (v : Value) => [(4, aI B4 0), (6, aI B6 0), (22, b9 c), (23, NT .i64 c.length), (24, NT .i64 k)]) (fun (k : Nat) (out : List (List Qi)) (v : Value) => [box B4 34 [Is (.slice none 0 0), Is (.slice none 0 0), Is (.slice none 0 0)], box B6 34 [aS z, b9 s, Is v], aB 29 1 v (out.map aS)]) 0 [] (.slice none 0 0) ⟨Nat.zero_le _, rfl⟩
   (zS rfl) (bh.refl _) (fun k out v ⟨hk,ho⟩=>?_)
  refine ts (ro rfl (gX (Ht rfl) (Ht rfl)) (eX (cK (dQ (Ht rfl) (fun hd=>?_) (fun hd=>?_)))))
  ·simp only [decide_eq_true_eq] at hd
   have hol:out.length ≤ 1000:=by rw [ho,List.length_take]; omega
   have hrk : (c.getD k default).length ≤ 1000 := by
    have e:c.getD k default = c.getD k []:=rfl
    rw [e,hsh.row zo]; omega
   refine cU (cK (eG (ts (ro rfl (dZ U_30 Z_29 (Ht rfl) (Ht rfl) rfl (dY (dU (d:=default) hd))) (ro rfl (dJ A_29 Z_29 (Ht rfl)) (ra rfl (eX (fZ (m:=5) (dp 6 rfl (eZ j8 (Ht rfl) rfl) (dq 28 0 rfl (wq A_30 Z_30 (Ht rfl) (i:=1) rfl rfl) (dp 8 rfl (cX (Ht rfl)) (dq 30 2 rfl (cZ Tryz.call158 (vU zo) ⟨(Ht rfl),trivial⟩) (dq 31 3 rfl (aN (xs:=[.tmp 31]) U_30 Z_29 O_29 (cW (Ht rfl) cG) rfl rfl rfl) ?_)))))))))))))
   refine fV au rfl (by kernel_rfl) (zF (aJ (aV (d5 (inf:=Tryz.t29) ua gr rfl rfl rfl (Ht rfl) (Ht rfl) (i:=2) rfl (by simp) (fun T hT=>by simp at hT; subst hT; exact El.one) (by show _ * 24 ≤ _; simp only [List.length_map,List.length_cons,List.length_nil]; omega) (by simp only [List.length_map,List.length_cons,List.length_nil]; omega) rfl (fun v2=>?_)))))
   refine ro rfl (eZ j8 (Ht rfl) rfl) (Fb (l:=2) Z_30 (Ht rfl) (Ht rfl) (i:=1) rfl rfl (aK rfl) rfl (eX (as (cY (ro rfl (dV (Ht rfl) (cJ 1) z6) (rm rfl (eX (fU (k + 1,_,v2) ⟨by omega,uv hd ho⟩ (by dsimp only; omega) (zS rfl) (aU (a8 rfl) (aU (a8 rfl) (aU (aa (iE aS _ _)) aY)))))))))))
  ·simp only [decide_eq_false_iff_not] at hd
   have hfin:=oZ ho zo
   subst hfin
   refine gV rfl (cK (qz 1 2 2 rfl rfl rfl (by decide) (cY (ro rfl (eJ A_34 Z_34 (Ht rfl) (i:=1) rfl rfl rfl) (gQ Z_34 (Ht rfl) (Ht rfl) rfl (i:=0) rfl (aK rfl) rfl rfl (ro rfl (cQ (cJ 0)) (eX (aE rfl (fX (fK A_34 Z_34 rfl (i:=0) rfl rfl) ?_) (fX (eU rfl) ?_)))))))))
   ·exact (uw he)
   ·exact (am he.symm)
end
section
open Go Go.RowKit
theorem kT {n : Nat} {E : bn} {H : Hp} {d : Option Tmp} {t : TypeId} {pos : String} {af : Array Edge} {g : Option (Nat × Bool)}  :
  al Tryz.prog n E H ⟨d,.build 38 #[],t,pos,af,g⟩ (bO [Is (.slice none 0 0),Is (.slice none 0 0)]) :=
 ck (parts := []) fun a V w hs => by
  refine ⟨.agg #[(.slice none 0 0),(.slice none 0 0)],?_,[(.slice none 0 0),(.slice none 0 0)],rfl,aW (⟨rfl,trivial⟩) (aW (⟨rfl,trivial⟩) (aG))⟩
  simp [Instr.build,Instr.fill,Sem.run_bind,Result.andThen,bP,O_38,U_38,Z_35,Z_36]
theorem p7 {n : Nat} {E : bn} {H : Hp} {d : Option Tmp} {t : TypeId} {pos : String} {af : Array Edge} {g : Option (Nat × Bool)} {x0 x1 : Operand} {T0 T1 : Ty} [s0 : bx T0 1 false] (h0 : aA E x0 T0) [s1 : bx T1 1 false] (h1 : aA E x1 T1) :
  al Tryz.prog n E H ⟨d,.build 38 #[(0,x0),(1,x1)],t,pos,af,g⟩ (bO [T0,T1]) :=
 ck (parts := [(0, x0), (1, x1)]) fun a V w hs => by
  have p0:=h0 n V a hs
  generalize e0:a.eval x0 = v0 at p0
  have q0:=(s0.ok v0 V p0).2.2 rfl
  have p1:=h1 n V a hs
  generalize e1:a.eval x1 = v1 at p1
  have q1:=(s1.ok v1 V p1).2.2 rfl
  refine ⟨.agg #[v0,v1],?_,[v0,v1],rfl,aW (⟨p0,q0⟩) (aW (⟨p1,q1⟩) (aG))⟩
  simp [e0,e1,Instr.build,Instr.fill,Sem.run_bind,Result.andThen,bP,q0.cells,q1.cells,O_38,U_38,Z_35,Z_36]
theorem qU {n : Nat} {E : bn} {H : Hp} {d : Option Tmp} {t : TypeId} {pos : String} {af : Array Edge} {g : Option (Nat × Bool)}  :
  al Tryz.prog n E H ⟨d,.build 40 #[],t,pos,af,g⟩ (bO [Is (.slice none 0 0),Is (.slice none 0 0),Is (.slice none 0 0)]) :=
 ck (parts := []) fun a V w hs => by
  refine ⟨.agg #[(.slice none 0 0),(.slice none 0 0),(.slice none 0 0)],?_,[(.slice none 0 0),(.slice none 0 0),(.slice none 0 0)],rfl,aW (⟨rfl,trivial⟩) (aW (⟨rfl,trivial⟩) (aW (⟨rfl,trivial⟩) (aG)))⟩
  simp [Instr.build,Instr.fill,Sem.run_bind,Result.andThen,bP,O_40,U_40,Z_36,Z_38]
theorem p5 {n : Nat} {E : bn} {H : Hp} {d : Option Tmp} {t : TypeId} {pos : String} {af : Array Edge} {g : Option (Nat × Bool)} {x0 x1 : Operand} {T0 T1 T2 : Ty} (h0 : aA E x0 (bO [T0, T1])) [s1 : bx T2 1 false] (h1 : aA E x1 T2) :
  al Tryz.prog n E H ⟨d,.build 40 #[(0,x0),(1,x1)],t,pos,af,g⟩ (bO [T0,T1,T2]) :=
 ck (parts := [(0, x0), (1, x1)]) fun a V w hs => by
  obtain ⟨v0,e0,c0⟩:=h0 n V a hs
  obtain ⟨c0_0,c0_1,rfl⟩:∃ c0_0 c0_1,v0 = [c0_0,c0_1]:=nC (by simpa using c0.length)
  have p1:=h1 n V a hs
  generalize e1:a.eval x1 = v1 at p1
  have q1:=(s1.ok v1 V p1).2.2 rfl
  refine ⟨.agg #[c0_0,c0_1,v1],?_,[c0_0,c0_1,v1],rfl,aW (c0.at (i:=0) rfl rfl) (aW (c0.at (i:=1) rfl rfl) (aW (⟨p1,q1⟩) (aG)))⟩
  simp [e0,e1,Instr.build,Instr.fill,Sem.run_bind,Result.andThen,bP,q1.cells,O_40,U_40,Z_36,Z_38]
theorem f7 (a:Addr) (w:World):(Instr.fieldAt 38 (.pointer (some a)) 0).run Tryz.prog w = .ok (.pointer (some (a.add 0))) w:=by
 simp [Instr.fieldAt,Instr.sureAddr,fieldPlace,Sem.run_bind,Result.andThen,U_38,Z_35]
end
section
open Go Go.RowKit
theorem sE {x:Qi} {L:Nat} [hx:ao x L] (h:L ≤ 17592186044415):az Tryz.prog 250 [QT x] (ab (ig x)):=by
 refine az.intro Tryz.func250 rfl Tryz.ntmps250 rfl (fun cx=>(ts (rn rfl (fG (Ht rfl)) fun B1=>(ro rfl (cQ cV) (eX (ts (ro rfl (eJ A_131 Z_131 (Ht rfl) (i:=0) rfl rfl rfl) (ro rfl (cZ Tryz.call242 (Bf zo) ⟨(Ht rfl),trivial⟩) (ro rfl (dR (Ht rfl) cV) (rm rfl (fQ rfl rfl (eK rfl rfl (Ht rfl) (fun h=>eJ A_131 Z_131 (Ht rfl) (i:=0) rfl rfl rfl)) (fQ rfl rfl (eK rfl rfl (Ht rfl) (fun h=>cZ Tryz.call239 wx ⟨(fJ rfl h),trivial⟩)) (fQ rfl rfl (eK rfl rfl (Ht rfl) (fun h=>mY (fJ rfl h) cV)) ?_)))))))))))))
 refine ro rfl (c7 (Ht rfl) (fun h=>(fJ rfl h))) (ra rfl (eX (fW rfl (fX (eU rfl) ?_))))
 exact (bF (C0 x))
theorem xT {z:List Qi} {s:List (List Qi)} (hz:z.length ≤ 100000) (hs:s.length ≤ 100000):az Tryz.prog 189 [iv z,QM s] (ab (oN z s)):=by
 refine az.intro Tryz.func189 rfl Tryz.ntmps189 rfl (fun cx=>(ts (ro rfl (cQ cV) (eX (cK (ts (rm rfl (ro rfl (dG U_35 (Ht rfl) a7) (ro rfl (gX (Ht rfl) (cJ 1)) (rm rfl (fQ rfl rfl (eK rfl rfl (Ht rfl) (fun h=>cX (Ht rfl))) (fQ rfl rfl (eK rfl rfl (Ht rfl) (fun h=>dG U_35 (fJ rfl h) a7)) (fQ rfl rfl (eK rfl rfl (Ht rfl) (fun h=>bD (fJ rfl h) (cJ 8))) (ro rfl (dr (Ht rfl) (fun h=>(fJ rfl h))) (rm rfl (fQ rfl rfl (eK rfl rfl (Ht rfl) (fun h=>cX (Ht rfl))) ?_))))))))))))))))
 refine fQ rfl rfl (eK rfl rfl (Ht rfl) (fun h=>dG U_36 (fJ rfl h) a7)) (fQ rfl rfl (eK rfl rfl (Ht rfl) (fun h=>cX (Ht rfl))) (fQ rfl rfl (eK rfl rfl (Ht rfl) (fun h=>dG U_35 (fJ rfl h) a7)) (fQ rfl rfl (eK rfl rfl (Ht rfl) (fun h=>cu (fJ rfl h) (fJ rfl h))) (ro rfl (dr (Ht rfl) (fun h=>(fJ rfl h))) (eX (dQ (Ht rfl) (fun hb=>?_) (fun hb=>?_)))))))
 ·refine ts (ro rfl (cQ cV) (eX (fW rfl (fX (eU rfl) ?_))))
  exact (bF (by rw [oN,hb]; rfl))
 ·refine cU (cK (ts (ro rfl (cQ (cJ 0)) (eX (eG ?_)))))
  refine aF (fun (k : Nat) => k ≤ s.length ∧ ∀ (i : Nat) (r : List Qi), i < k → s[i]? = some r → r.length = z.length) (fun (k : Nat) => s.length - k) (fun (k : Nat) => [(0, iv z), (1, QM s), (5, NT .i64 k)]) (fun (k : Nat) => []) 0 ⟨Nat.zero_le _, fun i r h => by omega⟩
   (zS rfl) aY (fun k ⟨hk,hr⟩=>?_)
  refine cK (ts (rm rfl (rm rfl (ro rfl (dG U_36 (Ht rfl) a7) (ro rfl (gX (Ht rfl) (Ht rfl)) (eX (dQ (Ht rfl) (fun hc=>?_) (fun hc=>?_))))))))
  ·simp only [decide_eq_true_eq] at hc
   refine cU (cK (eG (ts (rm rfl (rm rfl (ro rfl (dZ U_36 Z_35 (Ht rfl) (Ht rfl) rfl (dY (gG hc))) (ro rfl (dJ A_35 Z_35 (Ht rfl)) (ro rfl (dG U_35 (Ht rfl) a7) (rm rfl (ro rfl (dG U_35 (Ht rfl) a7) (ro rfl (cu (Ht rfl) (Ht rfl)) (eX (dQ (Ht rfl) (fun hd=>?_) (fun hd=>?_))))))))))))))
   ·have hd2 : ¬ (s[k]).length = z.length := by simpa using hd
    refine ts (ro rfl (cQ cV) (eX (fW rfl (fX (eU rfl) ?_))))
    exact (bF (by rw [oN,w5 (gG hc) hd2,Bool.or_true]; rfl))
   ·have hd2 : (s[k]).length = z.length := by simpa using hd
    refine cU (as (cY (rm rfl (ro rfl (dV (Ht rfl) (cJ 1) z6) (ra rfl (eX ?_))))))
    refine fU (k + 1) ⟨hc, fun i r h1 h2 => by
     by_cases e:i = k
     ·subst e; rw [gG hc] at h2; obtain rfl:=Option.some.inj h2; exact hd2
     ·exact hr i r zo h2⟩ zo (zS rfl) aY
  ·simp only [decide_eq_false_iff_not] at hc
   have hall:∀ (i:Nat) (r:List Qi),s[i]? = some r → r.length = z.length:=fun i r h=>hr i r (by have:=(List.getElem?_eq_some_iff.1 h).1; omega) h
   refine gV rfl (ts (ro rfl (cQ cV) (eX (fW rfl (fX (eU rfl) ?_)))))
   exact (bF (by rw [oN,si hall,hb]; rfl))
theorem pF {z:List Qi} {L:Nat} (hz:bk z L) (h:L ≤ 17592186044415) (hl:z.length ≤ 100000):az Tryz.prog 190 [iv z] (ab (z.all ig)):=by
 refine az.intro Tryz.func190 rfl Tryz.ntmps190 rfl (fun cx=>(ts (ro rfl (cQ cV) (eX (cK (ts (ro rfl (cQ (cJ 0)) (eX (eG ?_)))))))))
 refine aF (fun (k : Nat) => k ≤ z.length ∧ ∀ (i : Nat) (r : Qi), i < k → z[i]? = some r → ig r = true) (fun (k : Nat) => z.length - k) (fun (k : Nat) => [(0, iv z), (3, NT .i64 k)]) (fun (k : Nat) => []) 0 ⟨Nat.zero_le _, fun i r h => by omega⟩
  (zS rfl) aY (fun k ⟨hk,hr⟩=>?_)
 refine cK (ts (rm rfl (rm rfl (ro rfl (dG U_35 (Ht rfl) a7) (ro rfl (gX (Ht rfl) (Ht rfl)) (eX (dQ (Ht rfl) (fun hc=>?_) (fun hc=>?_))))))))
 ·simp only [decide_eq_true_eq] at hc
  haveI hf:ao z[k] L:=hz _ (List.getElem_mem hc)
  refine cU (cK (eG (ts (rm rfl (rm rfl (ro rfl (dZ U_35 Z_131 (Ht rfl) (Ht rfl) rfl (dY (gG hc))) (ro rfl (dJ A_131 Z_131 (Ht rfl)) (ro rfl (cZ Tryz.call250 (sE (L:=L) h) ⟨(Ht rfl),trivial⟩) (ro rfl (co (Ht rfl)) (eX (dQ (Ht rfl) (fun hd=>?_) (fun hd=>?_))))))))))))
  ·have hd2 : ig z[k] = false := by simpa using hd
   refine ts (ro rfl (cQ cV) (eX (fW rfl (fX (eU rfl) ?_))))
   exact (bF (Er (gG hc) hd2).symm)
  ·have hd2 : ig z[k] = true := by simpa using hd
   refine cU (as (cY (rm rfl (ro rfl (dV (Ht rfl) (cJ 1) z6) (ra rfl (eX ?_))))))
   refine fU (k + 1) ⟨hc, fun i r h1 h2 => by
    by_cases e:i = k
    ·subst e; rw [gG hc] at h2; obtain rfl:=Option.some.inj h2; exact hd2
    ·exact hr i r zo h2⟩ zo (zS rfl) aY
 ·simp only [decide_eq_false_iff_not] at hc
  have hall:∀ (i:Nat) (r:Qi),z[i]? = some r → ig r = true:=fun i r h=>hr i r (by have:=(List.getElem?_eq_some_iff.1 h).1; omega) h
  refine gV rfl (ts (ro rfl (cQ cV) (eX (fW rfl (fX (eU rfl) ?_)))))
  exact (bF (Bv hall).symm)
theorem wV {z:List Qi} {s:List (List Qi)} {L:Nat} (hz:bk z L) (h:L ≤ 17592186044415) (hl:z.length ≤ 1000) (hl2:s.length ≤ 1000):az Tryz.prog 90 [iv z,QM s] (cr [ik (bq (aP z s) z) (bq (aP z s) s),ap .i64 (aP z s)]):=by
 refine az.intro Tryz.func90 rfl Tryz.ntmps90 rfl (fun cx=>(ts (rn rfl (eW (Ts:=[Is (.slice none 0 0),Is (.slice none 0 0)]) O_38 rfl (fun V=>aW zd (aW zd (aG)))) fun B4=>(ro rfl (cQ (cJ 0)) (eX (cK (ts (rm rfl (rm rfl (ro rfl (cZ Tryz.call189 (xT zo zo) ⟨(Ht rfl),(Ht rfl),trivial⟩) (ro rfl (co (Ht rfl)) (eX (dQ (Ht rfl) (fun hb=>?_) (fun hb=>?_))))))))))))))
 ·have hb2 : ¬ oN z s = true := by simpa using hb
  have he:aP z s = 4:=by rw [nl,if_neg hb2]
  refine ts (ro rfl (al.imp (kT ) jl) (gQ Z_38 (Ht rfl) (Ht rfl) rfl (i:=0) rfl (aK rfl) rfl rfl (ro rfl (cQ (cJ 4)) (eX (aE rfl (fX (fK A_38 Z_38 rfl (i:=0) rfl rfl) ?_) (fX (eU rfl) ?_))))))
  ·exact (sH he (by decide))
  ·exact (am he.symm)
 ·have hb2 : oN z s = true := by simpa using hb
  refine cU (cK (ts (rm rfl (ro rfl (cZ Tryz.call190 (pF (by assumption) (by assumption) zo) ⟨(Ht rfl),trivial⟩) ?_))))
  refine ro rfl (co (Ht rfl)) (eX (dQ (Ht rfl) (fun hc=>?_) (fun hc=>?_)))
  ·have hc2 : ¬ z.all ig = true := by simp only [Bool.not_eq_true'] at hc; rw [hc]; exact Bool.noConfusion
   have he:aP z s = 1:=by rw [nl,if_pos hb2,if_neg hc2]
   refine ts (ro rfl (al.imp (kT ) jl) (gQ Z_38 (Ht rfl) (Ht rfl) rfl (i:=0) rfl (aK rfl) rfl rfl (ro rfl (cQ (cJ 1)) (eX (aE rfl (fX (fK A_38 Z_38 rfl (i:=0) rfl rfl) ?_) (fX (eU rfl) ?_))))))
   ·exact (sH he (by decide))
   ·exact (am he.symm)
  ·have hc2 : z.all ig = true := by simp only [Bool.not_eq_false'] at hc; exact hc
   have he:aP z s = 0:=by rw [nl,if_pos hb2,if_pos hc2]
   refine cU (ts (rm rfl (rm rfl (ro rfl (p7 (Ht rfl) (Ht rfl)) (gQ Z_38 (Ht rfl) (Ht rfl) rfl (i:=0) rfl (aK rfl) rfl rfl (ro rfl (cQ (cJ 0)) (eX (aE rfl (fX (fK A_38 Z_38 rfl (i:=0) rfl rfl) ?_) (fX (eU rfl) ?_)))))))))
   ·exact (xn he)
   ·exact (am he.symm)
theorem xz {z:List Qi} {s c:List (List Qi)} (hz:z.length ≤ 1000) (hc:c.length ≤ 1000):az Tryz.prog 92 [ik z s,QM c] (cr [gT (bq (bm z c) z) (bq (bm z c) s) (bq (bm z c) c),ap .i64 (bm z c)]):=by
 refine az.intro Tryz.func92 rfl Tryz.ntmps92 rfl (fun cx=>(ts (rn rfl (fG (Ht rfl)) fun B2=>(rn rfl (eW (Ts:=[Is (.slice none 0 0),Is (.slice none 0 0),Is (.slice none 0 0)]) O_40 rfl (fun V=>aW zd (aW zd (aW zd (aG))))) fun B4=>(ro rfl (cQ (cJ 0)) (eX (cK (ts (rm rfl (ro rfl (dG U_36 (Ht rfl) a7) (ro rfl (eZ f7 (Ht rfl) rfl) (ro rfl (eY A_35 Z_35 (Ht rfl) (i:=0) rfl rfl) (ro rfl (dG U_35 (Ht rfl) a7) ?_)))))))))))))
 refine ro rfl (cu (Ht rfl) (Ht rfl)) (eX (dQ (Ht rfl) (fun hb=>?_) (fun hb=>?_)))
 ·have hb2 : ¬ c.length = z.length := by simpa using hb
  have he:bm z c = 4:=by rw [← lN,m7,if_pos (.inl hb2)]
  refine ts (ro rfl (al.imp (qU ) lH) (gQ Z_40 (Ht rfl) (Ht rfl) rfl (i:=1) rfl (aK rfl) rfl rfl (ro rfl (cQ (cJ 4)) (eX (aE rfl (fX (fK A_40 Z_40 rfl (i:=1) rfl rfl) ?_) (fX (eU rfl) ?_))))))
  ·exact (pc he)
  ·exact (am he.symm)
 ·have hb2 : c.length = z.length := by simpa using hb
  refine cU (cK (ts (ro rfl (cQ (cJ 0)) (eX (eG ?_)))))
  refine aF (fun (k : Nat) => k ≤ c.length ∧ ∀ (i : Nat) (r : List Qi), i < k → c[i]? = some r → r.length = z.length) (fun (k : Nat) => c.length - k) (fun (k : Nat) => [(1, QM c), (2, aI B2 0), (4, aI B4 0), (6, NT .i64 k)]) (fun (k : Nat) => [box B2 38 [iv z, QM s], box B4 40 [Is (.slice none 0 0), Is (.slice none 0 0), Is (.slice none 0 0)]]) 0 ⟨Nat.zero_le _, fun i r h => by omega⟩
   (zS rfl) (bh.refl _) (fun k ⟨hk,hr⟩=>?_)
  refine cK (ts (rm rfl (rm rfl (ro rfl (dG U_36 (Ht rfl) a7) (ro rfl (gX (Ht rfl) (Ht rfl)) (eX (dQ (Ht rfl) (fun hd=>?_) (fun hd=>?_))))))))
  ·simp only [decide_eq_true_eq] at hd
   refine cU (cK (eG (cK (fZ (m:=8) (dp 1 rfl (cX (Ht rfl)) (dp 6 rfl (cX (Ht rfl)) (b8 20 0 21 1 rfl (dZ U_36 Z_35 (Ht rfl) (Ht rfl) rfl (dY (gG hd))) (dq 22 2 rfl (dJ A_35 Z_35 (Ht rfl)) (dq 23 3 rfl (dG U_35 (Ht rfl) a7) (dp 2 rfl (eZ f7 (Ht rfl) rfl) (dq 25 5 rfl (eY A_35 Z_35 (Ht rfl) (i:=0) rfl rfl) (dq 26 6 rfl (dG U_35 (Ht rfl) a7) (fV au rfl (by kernel_rfl) (zF (zF (aV ?_))))))))))))))))
   refine ro rfl (cu (Ht rfl) (Ht rfl)) (eX (dQ (Ht rfl) (fun he=>?_) (fun he=>?_)))
   ·have hd2 : ¬ (c[k]).length = z.length := by simpa using he
    have he:bm z c = 4:=by rw [← lN,m7,if_pos (.inr (w5 (gG hd) hd2))]
    refine ts (ro rfl (al.imp (qU ) lH) (gQ Z_40 (Ht rfl) (Ht rfl) rfl (i:=1) rfl (aK rfl) rfl rfl (ro rfl (cQ (cJ 4)) (eX (aE rfl (fX (fK A_40 Z_40 rfl (i:=1) rfl rfl) ?_) (fX (eU rfl) ?_))))))
    ·exact (pc he)
    ·exact (am he.symm)
   ·have hd2 : (c[k]).length = z.length := by simpa using he
    refine cU (as (cY (rm rfl (ro rfl (dV (Ht rfl) (cJ 1) z6) (ra rfl (eX ?_))))))
    refine fU (k + 1) ⟨hd, fun i r h1 h2 => by
      by_cases e:i = k
      ·subst e; rw [gG hd] at h2; obtain rfl:=Option.some.inj h2; exact hd2
      ·exact hr i r zo h2⟩ zo (zS rfl) (bh.refl _)
  ·simp only [decide_eq_false_iff_not] at hd
   have hall:∀ (i:Nat) (r:List Qi),c[i]? = some r → r.length = z.length:=fun i r h=>hr i r (by have:=(List.getElem?_eq_some_iff.1 h).1; omega) h
   have he:bm z c = 0:=by rw [← lN,m7,if_neg (by rintro (h | h); exact h hb2; rw [si hall] at h; cases h)]
   refine gV rfl (ts (ro rfl (eJ A_38 Z_38 (Ht rfl) (i:=0) rfl rfl rfl) (rm rfl (ro rfl (p5 (Ht rfl) (Ht rfl)) (gQ Z_40 (Ht rfl) (Ht rfl) rfl (i:=1) rfl (aK rfl) rfl rfl (ro rfl (cQ (cJ 0)) (eX (aE rfl (fX (fK A_40 Z_40 rfl (i:=1) rfl rfl) ?_) (fX (eU rfl) ?_)))))))))
   ·exact (sb he)
   ·exact (am he.symm)
end
section
open Go Go.RowKit
theorem Eu {z:List Rt} {s c:List (List Rt)} (hf:nt z s c = true):az Tryz.prog 17 [xO z s c] (cr [ee (pJ z s c) (sZ z s c) (xc z s c),gT (pJ z s c) (sZ z s c) (xc z s c),ab true]):=by
 obtain ⟨hz,hs,hc,hsr,hcr⟩:=nU hf
 have hsr2:∀ r,r ∈ s → r.length ≤ 1000:=fun r h=>Nat.le_trans (hsr r h) (by decide)
 have hcr2:∀ r,r ∈ c → r.length ≤ 1000:=fun r h=>Nat.le_trans (hcr r h) (by decide)
 have hz1:(z.map Rt.q).length ≤ 1000:=by simp; omega
 have hs1:(rq s).length ≤ 1000:=by simp; omega
 have hc1:(rq c).length ≤ 1000:=by simp; omega
 have hz2:(bq (aP (z.map Rt.q) (rq s)) (z.map Rt.q)).length ≤ 1000:=Nat.le_trans (AZ _ _) hz1
 have hfit:bk (z.map Rt.q) 2:=bk.rt
 refine az.intro Tryz.func17 rfl Tryz.ntmps17 rfl (fun cx=>(ts (rn rfl (fG (Ht rfl)) fun B1=>(rn rfl (eW (Ts:=[Is (.slice none 0 0),Is (.slice none 0 0),Is (.slice none 0 0)]) O_34 rfl (fun V=>aW zd (aW zd (aW zd (aG))))) fun B2=>(rn rfl (eW (Ts:=[Is (.slice none 0 0),Is (.slice none 0 0),Is (.slice none 0 0)]) O_40 rfl (fun V=>aW zd (aW zd (aW zd (aG))))) fun B3=>(ro rfl (cQ cV) ?_))))))
 refine eX (cK (Y.D_start (m:=12) [] (bY (Ei:=[(1,_)]) rfl rfl (bQ (bJ rfl rfl) bX) rfl rfl (dX rfl (eZ r5 (Ht rfl) rfl)) (bY (Ei:=[(14,_)]) rfl rfl (bQ (bZ 0 rfl rfl) bX) rfl rfl (dX rfl (eY A_22 Z_22 (Ht rfl) (i:=0) rfl rfl)) (bY (Ei:=[(15,_)]) rfl rfl (bQ (bZ 1 rfl rfl) bX) rfl rfl (dX rfl (cZ Tryz.call48 (mW zo) ⟨(Ht rfl),trivial⟩)) (bY (Ei:=[(1,_)]) rfl rfl (bQ (bJ rfl rfl) bX) rfl rfl (dX rfl (eZ nY (Ht rfl) rfl)) ?_))))))
 refine bY (Ei:=[(17,_)]) rfl rfl (bQ (bZ 3 rfl rfl) bX) rfl rfl (dX rfl (eY A_23 Z_23 (Ht rfl) (i:=0) rfl rfl)) (bY (Ei:=[(18,_)]) rfl rfl (bQ (bZ 4 rfl rfl) bX) rfl rfl (dX rfl (cZ Tryz.call86 (n8 zo (by assumption)) ⟨(Ht rfl),trivial⟩)) ?_)
 refine bY (Ei:=[(16,_),(19,_)]) rfl rfl (bQ (bZ 2 rfl rfl) (bQ (bZ 5 rfl rfl) bX)) rfl rfl (dX rfl (cZ Tryz.call85 (tC (L:=2) (by assumption) zo zo zo) ⟨(Ht rfl),(Ht rfl),trivial⟩)) ?_
 refine bY (Ei:=[(20,_)]) rfl rfl (bQ (bZ 6 rfl rfl) bX) rfl rfl (dX rfl (cX (Ht rfl))) (bY (Ei:=[(13,_)]) rfl rfl (bQ (bZ 7 rfl rfl) bX) rfl rfl (dX rfl (dK (Ht rfl) rfl)) (bY (Ei:=[(13,_)]) rfl rfl (bQ (bZ 7 rfl rfl) bX) rfl rfl (dX rfl (dK (Ht rfl) rfl)) (Y.D_newp (Ei:=[]) (fun bb=>box bb 32 [aS (bq (aP (z.map Rt.q) (rq s)) (z.map Rt.q)),b9 (bq (aP (z.map Rt.q) (rq s)) (rq s))]) 11 rfl rfl rfl bX rfl rfl (by kernel_rfl) (eW (Ts:=[Is (.slice none 0 0),Is (.slice none 0 0)]) O_32 rfl (fun V=>aW zd (aW zd (aG)))) ?_)))
 refine Y.D_putN (Ei:=[(21,_)]) 10 rfl rfl rfl rfl rfl rfl (bQ (bZ 8 rfl rfl) bX) (fun bb=>k5 Z_32 (Ht rfl) (Ht rfl) rfl (i:=0) rfl (aK rfl) rfl rfl) (Y.D_done au rfl (by kernel_rfl) rfl (by simp [Y.okP]) rfl rfl (bU (bU (bU (bU (bU (bU (bU (bU (bU (bU (Y.F_newp (fun B5=>Y.F_putN (Y.F_nil ?_))))))))))))))
 refine ra rfl (eX (cK (Y.D_start (m:=10) [] (bY (Ei:=[(5,_)]) rfl rfl (bQ (bJ rfl rfl) bX) rfl rfl (dX rfl (eJ A_32 Z_32 (Ht rfl) (i:=3) rfl rfl rfl)) (bY (Ei:=[(1,_)]) rfl rfl (bQ (bJ rfl rfl) bX) rfl rfl (dX rfl (eZ nP (Ht rfl) rfl)) (bY (Ei:=[(25,_)]) rfl rfl (bQ (bZ 1 rfl rfl) bX) rfl rfl (dX rfl (eY A_23 Z_23 (Ht rfl) (i:=0) rfl rfl)) (bY (Ei:=[(26,_)]) rfl rfl (bQ (bZ 2 rfl rfl) bX) rfl rfl (dX rfl (cZ Tryz.call86 (n8 zo (by assumption)) ⟨(Ht rfl),trivial⟩)) ?_)))))))
 refine bY (Ei:=[(24,_),(27,_)]) rfl rfl (bQ (bZ 0 rfl rfl) (bQ (bZ 3 rfl rfl) bX)) rfl rfl (dX rfl (cZ Tryz.call55 (yr zo zo) ⟨(Ht rfl),(Ht rfl),trivial⟩)) (bY (Ei:=[(28,_)]) rfl rfl (bQ (bZ 4 rfl rfl) bX) rfl rfl (dX rfl (cX (Ht rfl))) (bY (Ei:=[(23,_)]) rfl rfl (bQ (bZ 5 rfl rfl) bX) rfl rfl (dX rfl (dK (Ht rfl) rfl)) (bY (Ei:=[(23,_)]) rfl rfl (bQ (bZ 5 rfl rfl) bX) rfl rfl (dX rfl (dK (Ht rfl) rfl)) ?_)))
 refine Y.D_newp (Ei:=[]) (fun bb=>box bb 34 [aS (bq (bm (bq (aP (z.map Rt.q) (rq s)) (z.map Rt.q)) (rq c)) (bq (aP (z.map Rt.q) (rq s)) (z.map Rt.q))),b9 (bq (bm (bq (aP (z.map Rt.q) (rq s)) (z.map Rt.q)) (rq c)) (bq (aP (z.map Rt.q) (rq s)) (rq s))),b9 (bq (bm (bq (aP (z.map Rt.q) (rq s)) (z.map Rt.q)) (rq c)) (rq c))]) 9 rfl rfl rfl bX rfl rfl (by kernel_rfl) (eW (Ts:=[Is (.slice none 0 0),Is (.slice none 0 0),Is (.slice none 0 0)]) O_34 rfl (fun V=>aW zd (aW zd (aW zd (aG))))) ?_
 refine Y.D_putN (Ei:=[(29,_)]) 8 rfl rfl rfl rfl rfl rfl (bQ (bZ 6 rfl rfl) bX) (fun bb=>k5 Z_34 (Ht rfl) (Ht rfl) rfl (i:=0) rfl (aK rfl) rfl rfl) (Y.D_done au rfl (by kernel_rfl) rfl (by simp [Y.okP]) rfl rfl (bU (bU (bU (bU (bU (bU (bU (bU (Y.F_newp (fun B7=>Y.F_putN (Y.F_nil ?_))))))))))))
 refine ra rfl (eX (cK (Y.D_start (m:=12) [] (bY (Ei:=[(1,_)]) rfl rfl (bQ (bJ rfl rfl) bX) rfl rfl (dX rfl (eZ r5 (Ht rfl) rfl)) (bY (Ei:=[(32,_)]) rfl rfl (bQ (bZ 0 rfl rfl) bX) rfl rfl (dX rfl (eY A_22 Z_22 (Ht rfl) (i:=0) rfl rfl)) (bY (Ei:=[(33,_)]) rfl rfl (bQ (bZ 1 rfl rfl) bX) rfl rfl (dX rfl (cZ Tryz.call50 (qB zo) ⟨(Ht rfl),trivial⟩)) (bY (Ei:=[(1,_)]) rfl rfl (bQ (bJ rfl rfl) bX) rfl rfl (dX rfl (eZ nY (Ht rfl) rfl)) ?_)))))))
 refine bY (Ei:=[(35,_)]) rfl rfl (bQ (bZ 3 rfl rfl) bX) rfl rfl (dX rfl (eY A_23 Z_23 (Ht rfl) (i:=0) rfl rfl)) (bY (Ei:=[(36,_)]) rfl rfl (bQ (bZ 4 rfl rfl) bX) rfl rfl (dX rfl (cZ Tryz.call91 (qi zo (by assumption)) ⟨(Ht rfl),trivial⟩)) ?_)
 refine bY (Ei:=[(34,_),(37,_)]) rfl rfl (bQ (bZ 2 rfl rfl) (bQ (bZ 5 rfl rfl) bX)) rfl rfl (dX rfl (cZ Tryz.call90 (wV (L:=2) (by assumption) zo zo zo) ⟨(Ht rfl),(Ht rfl),trivial⟩)) ?_
 refine bY (Ei:=[(38,_)]) rfl rfl (bQ (bZ 6 rfl rfl) bX) rfl rfl (dX rfl (cX (Ht rfl))) (bY (Ei:=[(31,_)]) rfl rfl (bQ (bZ 7 rfl rfl) bX) rfl rfl (dX rfl (dK (Ht rfl) rfl)) (bY (Ei:=[(31,_)]) rfl rfl (bQ (bZ 7 rfl rfl) bX) rfl rfl (dX rfl (dK (Ht rfl) rfl)) (Y.D_newp (Ei:=[]) (fun bb=>box bb 38 [iv (bq (aP (z.map Rt.q) (rq s)) (z.map Rt.q)),QM (bq (aP (z.map Rt.q) (rq s)) (rq s))]) 11 rfl rfl rfl bX rfl rfl (by kernel_rfl) (eW (Ts:=[Is (.slice none 0 0),Is (.slice none 0 0)]) O_38 rfl (fun V=>aW zd (aW zd (aG)))) ?_)))
 refine Y.D_putN (Ei:=[(39,_)]) 10 rfl rfl rfl rfl rfl rfl (bQ (bZ 8 rfl rfl) bX) (fun bb=>k5 Z_38 (Ht rfl) (Ht rfl) rfl (i:=0) rfl (aK rfl) rfl rfl) (Y.D_done au rfl (by kernel_rfl) rfl (by simp [Y.okP]) rfl rfl (bU (bU (bU (bU (bU (bU (bU (bU (bU (bU (Y.F_newp (fun B9=>Y.F_putN (Y.F_nil ?_))))))))))))))
 refine ra rfl (eX (cK (Y.D_start (m:=10) [] (bY (Ei:=[(9,_)]) rfl rfl (bQ (bJ rfl rfl) bX) rfl rfl (dX rfl (eJ A_38 Z_38 (Ht rfl) (i:=5) rfl rfl rfl)) (bY (Ei:=[(1,_)]) rfl rfl (bQ (bJ rfl rfl) bX) rfl rfl (dX rfl (eZ nP (Ht rfl) rfl)) (bY (Ei:=[(43,_)]) rfl rfl (bQ (bZ 1 rfl rfl) bX) rfl rfl (dX rfl (eY A_23 Z_23 (Ht rfl) (i:=0) rfl rfl)) (bY (Ei:=[(44,_)]) rfl rfl (bQ (bZ 2 rfl rfl) bX) rfl rfl (dX rfl (cZ Tryz.call91 (qi zo (by assumption)) ⟨(Ht rfl),trivial⟩)) ?_)))))))
 refine bY (Ei:=[(42,_),(45,_)]) rfl rfl (bQ (bZ 0 rfl rfl) (bQ (bZ 3 rfl rfl) bX)) rfl rfl (dX rfl (cZ Tryz.call92 (xz zo zo) ⟨(Ht rfl),(Ht rfl),trivial⟩)) (bY (Ei:=[(46,_)]) rfl rfl (bQ (bZ 4 rfl rfl) bX) rfl rfl (dX rfl (cX (Ht rfl))) (bY (Ei:=[(41,_)]) rfl rfl (bQ (bZ 5 rfl rfl) bX) rfl rfl (dX rfl (dK (Ht rfl) rfl)) (bY (Ei:=[(41,_)]) rfl rfl (bQ (bZ 5 rfl rfl) bX) rfl rfl (dX rfl (dK (Ht rfl) rfl)) ?_)))
 refine Y.D_newp (Ei:=[]) (fun bb=>box bb 40 [iv (bq (bm (bq (aP (z.map Rt.q) (rq s)) (z.map Rt.q)) (rq c)) (bq (aP (z.map Rt.q) (rq s)) (z.map Rt.q))),QM (bq (bm (bq (aP (z.map Rt.q) (rq s)) (z.map Rt.q)) (rq c)) (bq (aP (z.map Rt.q) (rq s)) (rq s))),QM (bq (bm (bq (aP (z.map Rt.q) (rq s)) (z.map Rt.q)) (rq c)) (rq c))]) 9 rfl rfl rfl bX rfl rfl (by kernel_rfl) (eW (Ts:=[Is (.slice none 0 0),Is (.slice none 0 0),Is (.slice none 0 0)]) O_40 rfl (fun V=>aW zd (aW zd (aW zd (aG))))) ?_
 refine Y.D_putN (Ei:=[(47,_)]) 8 rfl rfl rfl rfl rfl rfl (bQ (bZ 6 rfl rfl) bX) (fun bb=>k5 Z_40 (Ht rfl) (Ht rfl) rfl (i:=0) rfl (aK rfl) rfl rfl) (Y.D_done au rfl (by kernel_rfl) rfl (by simp [Y.okP]) rfl rfl (bU (bU (bU (bU (bU (bU (bU (bU (Y.F_newp (fun B11=>Y.F_putN (Y.F_nil ?_))))))))))))
 refine ra rfl (eX (cK (Y.D_start (m:=16) [(14,1,box B2 34 [aS (bq (bm (bq (aP (z.map Rt.q) (rq s)) (z.map Rt.q)) (rq c)) (bq (aP (z.map Rt.q) (rq s)) (z.map Rt.q))),b9 (bq (bm (bq (aP (z.map Rt.q) (rq s)) (z.map Rt.q)) (rq c)) (bq (aP (z.map Rt.q) (rq s)) (rq s))),b9 (bq (bm (bq (aP (z.map Rt.q) (rq s)) (z.map Rt.q)) (rq c)) (rq c))]),(15,2,box B3 40 [iv (bq (bm (bq (aP (z.map Rt.q) (rq s)) (z.map Rt.q)) (rq c)) (bq (aP (z.map Rt.q) (rq s)) (z.map Rt.q))),QM (bq (bm (bq (aP (z.map Rt.q) (rq s)) (z.map Rt.q)) (rq c)) (bq (aP (z.map Rt.q) (rq s)) (rq s))),QM (bq (bm (bq (aP (z.map Rt.q) (rq s)) (z.map Rt.q)) (rq c)) (rq c))])] ?_)))
 refine Y.D_step (Ei:=[(7,_)]) rfl rfl (bQ (bJ rfl rfl) bX) rfl rfl (by kernel_rfl) (dX rfl (eJ A_34 Z_34 (Ht rfl) (i:=4) rfl rfl rfl)) (bY (Ei:=[(11,_)]) rfl rfl (bQ (bJ rfl rfl) bX) rfl rfl (dX rfl (eJ A_40 Z_40 (Ht rfl) (i:=6) rfl rfl rfl)) (Y.D_step (Ei:=[(6,_)]) rfl rfl (bQ (bJ rfl rfl) bX) rfl rfl (by kernel_rfl) (dX rfl (cX (Ht rfl))) (Y.D_step (Ei:=[(10,_)]) rfl rfl (bQ (bJ rfl rfl) bX) rfl rfl (by kernel_rfl) (dX rfl (cX (Ht rfl))) ?_)))
 refine Y.D_step (Ei:=[(51,_),(52,_)]) rfl rfl (bQ (bZ 2 rfl rfl) (bQ (bZ 3 rfl rfl) bX)) rfl rfl (by kernel_rfl) (dX rfl (dR (Ht rfl) (Ht rfl))) (Y.D_step (Ei:=[(53,_)]) rfl rfl (bQ (bZ 4 rfl rfl) bX) rfl rfl (by kernel_rfl) (dX rfl (cX (Ht rfl))) (Y.D_step (Ei:=[(6,_),(54,_)]) rfl rfl (bQ (bJ rfl rfl) (bQ (bZ 5 rfl rfl) bX)) rfl rfl (by kernel_rfl) (fu rfl rfl (Ht rfl) (fun h=>cX (Ht rfl))) (Y.D_step (Ei:=[(55,_),(54,_)]) rfl rfl (bQ (bZ 6 rfl rfl) (bQ (bZ 5 rfl rfl) bX)) rfl rfl (by kernel_rfl) (fu rfl rfl (Ht rfl) (fun h=>eP (aA.wu rfl h) cV)) ?_)))
 refine Y.D_step (Ei:=[(56,_),(54,_)]) rfl rfl (bQ (bZ 7 rfl rfl) (bQ (bZ 5 rfl rfl) bX)) rfl rfl (by kernel_rfl) (fu rfl rfl (Ht rfl) (fun h=>cX (aA.wu rfl h))) (bY (Ei:=[(8,_),(57,_)]) rfl rfl (bQ (bJ rfl rfl) (bQ (bZ 8 rfl rfl) bX)) rfl rfl (iY rfl rfl rfl (fun h h2=>cX (Ht rfl))) (bY (Ei:=[(12,_),(57,_)]) rfl rfl (bQ (bJ rfl rfl) (bQ (bZ 8 rfl rfl) bX)) rfl rfl (iY rfl rfl rfl (fun h h2=>cX (Ht rfl))) (bY (Ei:=[(58,_),(59,_),(57,_)]) rfl rfl (bQ (bZ 9 rfl rfl) (bQ (bZ 10 rfl rfl) (bQ (bZ 8 rfl rfl) bX))) rfl rfl (iY rfl rfl rfl (fun h h2=>dR (aA.wu rfl ⟨h,h2⟩) (aA.wu rfl ⟨h,h2⟩))) ?_)))
 refine bY (Ei:=[(57,_),(60,_),(54,_)]) rfl rfl (bQ (bZ 8 rfl rfl) (bQ (bZ 11 rfl rfl) (bQ (bZ 5 rfl rfl) bX))) rfl rfl (fu rfl rfl (Ht rfl) (fun h=>dr (aA.wu rfl h) (fun h2=>(aA.wu rfl ⟨h,h2⟩)))) (bY (Ei:=[(54,_),(61,_)]) rfl rfl (bQ (bZ 5 rfl rfl) (bQ (bZ 12 rfl rfl) bX)) rfl rfl (dX rfl (c7 (Ht rfl) (fun h=>(aA.wu rfl h)))) (Y.D_putI (Ei:=[(2,_),(49,_)]) 1 rfl rfl rfl (bQ (bJ rfl rfl) (bQ (bZ 0 rfl rfl) bX)) (.head _) rfl (k5 Z_34 (Ht rfl) (Ht rfl) rfl (i:=0) rfl (aK rfl) rfl rfl) ?_))
 refine Y.D_putI (Ei:=[(3,_),(50,_)]) 2 rfl rfl rfl (bQ (bJ rfl rfl) (bQ (bZ 1 rfl rfl) bX)) (.tail _ (.head _)) rfl (k5 Z_40 (Ht rfl) (Ht rfl) rfl (i:=0) rfl (aK rfl) rfl rfl) (Y.D_done au rfl (by kernel_rfl) rfl (by simp [Y.okP]) rfl rfl (bU (bU (bU (bU (bU (bU (bU (bU (bU (bU (bU (bU (bU (bU (Y.F_putI (Y.F_putI (Y.F_nil ?_))))))))))))))))))
 refine ra rfl (eX (Di rfl (fK A_34 Z_34 rfl (i:=1) rfl rfl) (fK A_40 Z_40 rfl (i:=2) rfl rfl) (fX (eU rfl) ?_)))
 exact (bF (by simp))
end
section
open Go Go.RowKit
theorem kX (a:Addr) (w:World):(Instr.fieldAt 38 (.pointer (some a)) 1).run Tryz.prog w = .ok (.pointer (some (a.add 1))) w:=by
 simp [Instr.fieldAt,Instr.sureAddr,fieldPlace,Sem.run_bind,Result.andThen,U_38,Z_36]
end
section
open Go Go.RowKit
theorem oM {n m:Nat} (hn:n ≤ 1000) (hm:m ≤ 1000):cR Tryz.prog 129 [NT .i64 n,NT .i64 m] [] (Nat) (fun B=>Is (.slice (some ⟨B,0,none⟩) n n)) (fun B=>[eC bL B 35 131 5 (aH QT (nF n m))]) (fun _=>True):=by
 refine cR.intro Tryz.func129 rfl Tryz.ntmps129 rfl (fun cx Z=>(ts (ro rfl (cQ cV) (eX (ts (rm rfl (rn rfl (bM (T:=Is (.slice none 0 0)) (i:=Tryz.t35) Tryz.underlying36 nR rfl rfl (Ht rfl) rfl (fun _=>rfl) trivial (by show 24 * _ ≤ _; omega) zo) fun B9=>(ra rfl (eX (cK (ts (ro rfl (cQ (cJ 0)) (eX (eG (fk 1 rfl (km bL ⟨none,0,rfl⟩ (e:=131) (s:=5)) ?_)))))))))))))))
 refine bA (fun (k : Nat) (M : List (List Qi)) => fq (fun _ => tab m fun _ => Qi.zero) n M k) (fun (k : Nat) (M : List (List Qi)) => n - k) (fun (k : Nat) (M : List (List Qi)) => [(0, NT .i64 n), (1, NT .i64 m), (5, Is (.slice (some ⟨B9, 0, none⟩) n n)), (6, NT .i64 k)]) (fun (k : Nat) (M : List (List Qi)) => [Z, eC bL B9 35 131 5 (aH QT M)]) 0 (List.replicate n []) (fq.start _ _ _)
  (zS rfl) (aU (fun _ _ _ h=>h) (aU (aC (fN QT n)) aY)) (fun k M hS=>?_)
 refine cK (ts (rm rfl (rm rfl (ro rfl (gX (Ht rfl) (Ht rfl)) (eX (dQ (Ht rfl) (fun hk=>?_) (fun hk=>?_)))))))
 ·simp only [decide_eq_true_eq] at hk
  have hlen:=hS.len
  refine eg 1 (k) rfl (gu (m:=M) (i:=k) zo) (fun v hv=>(cU (cK (eG (ts (rm rfl (rm rfl (rm rfl (vm (T:=ZQ) (i:=Tryz.t131) jF go rfl rfl (Ht rfl) rfl y3 (El.ag rfl) (by show 88 * _ ≤ _; omega) zo rfl (fun B18 hB18=>(ro rfl (fY U_36 Z_35 (Ht rfl) (Ht rfl) rfl zo (by rw [Nat.mul_one,Nat.zero_add])) ?_)))))))))))
  refine jX Z_35 (Ht rfl) (Ht rfl) (by simp; omega) (j:=1) (l:=3) rfl rfl rfl ?_
  refine eX (cK (aO [0,1,3] rfl (by decide) (cY (ro rfl (cQ (cJ 0)) (eX (eG ?_))))))
  refine bA (fun (j : Nat) (out : List Ty) => fq (fun _ => QT Qi.zero) m out j) (fun (j : Nat) (out : List Ty) => m - j) (fun (j : Nat) (out : List Ty) => [(0, NT .i64 n), (1, NT .i64 m), (5, Is (.slice (some ⟨B9, 0, none⟩) n n)), (6, NT .i64 k), (7, NT .i64 j)]) (fun (j : Nat) (out : List Ty) => [Z, iR bL B9 35 131 5 (aH QT M) k B18, aB 131 5 B18 out]) 0 (List.replicate m ZQ) (fq.start _ _ _)
   (zS rfl) (bh.refl _) (fun j out hT=>?_)
  refine cK (ts (rm rfl (rm rfl (ro rfl (gX (Ht rfl) (Ht rfl)) (eX (dQ (Ht rfl) (fun hj=>?_) (fun hj=>?_)))))))
  ·simp only [decide_eq_true_eq] at hj
   have hlen2:=hT.len
   refine cU (cK (eG (fZ (m:=6) (dp 5 rfl (cX (Ht rfl)) (dp 6 rfl (cX (Ht rfl)) (b8 25 0 26 1 rfl (fY U_36 Z_35 (Ht rfl) (Ht rfl) rfl zo (by rw [Nat.mul_one,Nat.zero_add])) ?_))))))
   refine dq 27 2 rfl (d4 A_35 Z_35 (Ht rfl) (j:=1) rfl) (dp 7 rfl (cX (Ht rfl)) (d0 rfl (cZ K_148 (iJ (by decide) (by decide)) ⟨(cJ 0),trivial⟩) (fV au rfl (by kernel_rfl) (zF (aJ (aJ (aV (ro rfl (b6 U_35 Z_131 (Ht rfl) (Ht rfl) rfl (i:=2) rfl zo rfl) (dB Z_131 (Ht rfl) (Ht rfl) (El.ag rfl) (i:=2) rfl rfl (by first | omega | (simp; omega)) rfl (eX (as (cY (rm rfl (ro rfl (dV (Ht rfl) (cJ 1) z6) ?_))))))))))))))
   refine ra rfl (eX (fU (j + 1,_) (hT.next hj rfl) (by dsimp only; omega) (zS rfl) (bh.refl _)))
  ·simp only [decide_eq_false_iff_not] at hj
   obtain rfl:j = m:=Nat.le_antisymm hT.kle zo
   have hfin:=hT.fin
   rw [← jR _ (fun _=>Qi.zero) QT] at hfin
   subst hfin
   refine gV rfl (as (bR 1 2 rfl rfl (by decide) (by show k < (aH QT M).length; simp only [aH,List.length_map]; omega) (cY (rm rfl (ro rfl (dV (Ht rfl) (cJ 1) z6) (ra rfl (eX (aO [0,1] rfl (by decide) (fU (k + 1,_) (hS.next hk rfl) (by dsimp only; omega) (zS rfl) (aU (fun _ _ _ h=>h) (aU (aC (c9 QT _ _ _)) aY)))))))))))
 ·simp only [decide_eq_false_iff_not] at hk
  obtain rfl:k = n:=Nat.le_antisymm hS.kle zo
  have hfin:=hS.fin
  refine gV rfl (ts (rm rfl (ra rfl (eX ?_))))
  exact dS B9 trivial [0,1] ⟨⟨_,rfl,fun _ _ _ h=>h⟩,⟨_,rfl,(aC (by rw [hfin]; rfl))⟩,trivial⟩ (by decide) (kn rfl (eU rfl))
theorem Ax {p c:List (List Qi)} {L:Nat} (hp:aL p L) (hc:aL c L) (hL1:1 ≤ L) (hL:L ≤ 1000000) (hps:bE p p.length c.length) (hcs:bE c c.length c.length) (hpl:p.length ≤ 8) (hcl:c.length ≤ 8):cR Tryz.prog 102 [QM p,QM c] [] (Nat) (fun B=>Is (.slice (some ⟨B,0,none⟩) p.length p.length)) (fun B=>[eC bL B 35 131 5 (aH QT (g7 p c))]) (fun _=>True):=by
 refine cR.intro Tryz.func102 rfl Tryz.ntmps102 rfl (fun cx Z=>(ts (ro rfl (cQ cV) (eX (ts (rm rfl (ro rfl (dG U_36 (Ht rfl) a7) (rm rfl (ro rfl (dG U_36 (Ht rfl) a7) (ec Tryz.call129 (oM (n:=p.length) (m:=p.length) zo zo) ⟨(Ht rfl),(Ht rfl),trivial⟩ rfl (fun B14 _=>(ra rfl (eX (cK (ts (ro rfl (cQ (cJ 0)) (eX (eG ?_))))))))))))))))))
 refine aF (fun (i : Nat) => i ≤ p.length) (fun (i : Nat) => p.length - i) (fun (i : Nat) => [(0, QM p), (1, QM c), (5, Is (.slice (some ⟨B14, 0, none⟩) p.length p.length)), (6, NT .i64 i)]) (fun (i : Nat) => [Z, eC bL B14 35 131 5 (aH QT (dA (fun i => tab p.length fun k => mA p c c.length i k) (tab p.length fun _ => Qi.zero) p.length i))]) 0 (Nat.zero_le _)
  (zS rfl) (aU (fun _ _ _ h=>h) (aU (aC (by rw [nF,cz])) aY)) (fun i hi=>?_)
 refine cK (ts (rm rfl (rm rfl (ro rfl (dG U_36 (Ht rfl) a7) (ro rfl (gX (Ht rfl) (Ht rfl)) (eX (dQ (Ht rfl) (fun hd=>?_) (fun hd=>?_))))))))
 ·simp only [decide_eq_true_eq] at hd
  refine eg 1 (i) rfl (ft hd) (fun v hv=>(cU (cK (eG (ts (ro rfl (cQ (cJ 0)) (eX (eG ?_))))))))
  refine aF (fun (k : Nat) => k ≤ p.length) (fun (k : Nat) => p.length - k) (fun (k : Nat) => [(0, QM p), (1, QM c), (5, Is (.slice (some ⟨B14, 0, none⟩) p.length p.length)), (6, NT .i64 i), (7, NT .i64 k)]) (fun (k : Nat) => [Z, iR bL B14 35 131 5 (aH QT (dA (fun i => tab p.length fun k => mA p c c.length i k) (tab p.length fun _ => Qi.zero) p.length i)) i v, aB 131 5 v ((dA (fun k => mA p c c.length i k) Qi.zero p.length k).map QT)]) 0 (Nat.zero_le _)
   (zS rfl) (aU (fun _ _ _ h=>h) (aU (fun _ _ _ h=>h) (aU (aa (by rw [cz])) aY))) (fun k hk=>?_)
  refine cK (ts (rm rfl (rm rfl (ro rfl (dG U_36 (Ht rfl) a7) (ro rfl (gX (Ht rfl) (Ht rfl)) (eX (dQ (Ht rfl) (fun he=>?_) (fun he=>?_))))))))
  ·simp only [decide_eq_true_eq] at he
   have hrl:=bg (fun k=>mA p c c.length i k) Qi.zero p.length k
   refine cU (cK (eG (ts (ro rfl (cQ (cJ 0)) (eX (eG ?_))))))
   refine aF (fun (a : Nat) => a ≤ c.length) (fun (a : Nat) => c.length - a) (fun (a : Nat) => [(0, QM p), (1, QM c), (5, Is (.slice (some ⟨B14, 0, none⟩) p.length p.length)), (6, NT .i64 i), (7, NT .i64 k), (8, NT .i64 a)]) (fun (a : Nat) => [Z, iR bL B14 35 131 5 (aH QT (dA (fun i => tab p.length fun k => mA p c c.length i k) (tab p.length fun _ => Qi.zero) p.length i)) i v, aB 131 5 v (((dA (fun k => mA p c c.length i k) Qi.zero p.length k).set k (ah a fun a => ah c.length fun b => kx p c i k a b)).map QT)]) 0 (Nat.zero_le _)
    (zS rfl) (aU (fun _ _ _ h=>h) (aU (fun _ _ _ h=>h) (aU (aa (by rw [ah,zx he])) aY))) (fun a ha=>?_)
   refine cK (ts (rm rfl (rm rfl (ro rfl (dG U_36 (Ht rfl) a7) (ro rfl (gX (Ht rfl) (Ht rfl)) (eX (dQ (Ht rfl) (fun hf=>?_) (fun hf=>?_))))))))
   ·simp only [decide_eq_true_eq] at hf
    refine cU (cK (eG (ts (ro rfl (cQ (cJ 0)) (eX (eG ?_))))))
    refine aF (fun (b : Nat) => b ≤ c.length) (fun (b : Nat) => c.length - b) (fun (b : Nat) => [(0, QM p), (1, QM c), (5, Is (.slice (some ⟨B14, 0, none⟩) p.length p.length)), (6, NT .i64 i), (7, NT .i64 k), (8, NT .i64 a), (9, NT .i64 b)]) (fun (b : Nat) => [Z, iR bL B14 35 131 5 (aH QT (dA (fun i => tab p.length fun k => mA p c c.length i k) (tab p.length fun _ => Qi.zero) p.length i)) i v, aB 131 5 v (((dA (fun k => mA p c c.length i k) Qi.zero p.length k).set k ((ah a fun a => ah c.length fun b => kx p c i k a b) + ah b fun b => kx p c i k a b)).map QT)]) 0 (Nat.zero_le _)
     (zS rfl) (aU (fun _ _ _ h=>h) (aU (fun _ _ _ h=>h) (aU (aa (by rw [ah,Qi.add_zero'])) aY))) (fun b hb=>?_)
    refine cK (ts (rm rfl (rm rfl (ro rfl (dG U_36 (Ht rfl) a7) (ro rfl (gX (Ht rfl) (Ht rfl)) (eX (dQ (Ht rfl) (fun hg=>?_) (fun hg=>?_))))))))
    ·simp only [decide_eq_true_eq] at hg
     have hpr:=hps.row hd
     have hpk:=hps.row he
     have hcr:=hcs.row hf
     haveI f1:ao (gm p i a) L:=hp.get hL1 i a
     haveI f2:ao (gm c a b) L:=hc.get hL1 a b
     haveI f3:ao (gm p k b) L:=hp.get hL1 k b
     haveI f4:ao (ah a fun a=>ah c.length fun b=>kx p c i k a b) (200 * L + 300):=wv hp hc hL1 hcl zo i k
     haveI f5:ao (ah b fun b=>kx p c i k a b) (24 * L + 25):=xY hp hc hL1 zo i k a
     have hsl:((dA (fun k=>mA p c c.length i k) Qi.zero p.length k).set k ((ah a fun a=>ah c.length fun b=>kx p c i k a b) + ah b fun b=>kx p c i k a b)).length = p.length:=by rw [List.length_set,hrl]
     refine cU (cK (eG (fZ (m:=37) (dp 5 rfl (cX (Ht rfl)) (dp 6 rfl (cX (Ht rfl)) (b8 39 0 40 1 rfl (fY U_36 Z_35 (Ht rfl) (Ht rfl) rfl zo (by rw [Nat.mul_one,Nat.zero_add])) ?_))))))
     refine dq 41 2 rfl (d4 A_35 Z_35 (Ht rfl) (j:=1) rfl) (dp 7 rfl (cX (Ht rfl)) (dp 5 rfl (cX (Ht rfl)) (dp 6 rfl (cX (Ht rfl)) (b8 44 5 45 6 rfl (fY U_36 Z_35 (Ht rfl) (Ht rfl) rfl zo (by rw [Nat.mul_one,Nat.zero_add])) ?_))))
     refine dq 46 7 rfl (d4 A_35 Z_35 (Ht rfl) (j:=1) rfl) (dp 7 rfl (cX (Ht rfl)) (b8 47 8 48 9 rfl (b6 U_35 Z_131 (Ht rfl) (Ht rfl) rfl (i:=2) rfl (by simp only [List.length_map]; omega) rfl) ?_))
     refine dq 49 10 rfl (gD A_131 Z_131 (Ht rfl) (i:=2) rfl rfl (dY (AN (by rw [hrl]; exact he)))) ?_
     refine dp 0 rfl (cX (Ht rfl)) (dp 6 rfl (cX (Ht rfl)) (b8 51 12 52 13 rfl (dZ U_36 Z_35 (Ht rfl) (Ht rfl) rfl (dY (dU (d:=[]) hd))) (dq 53 14 rfl (dJ A_35 Z_35 (Ht rfl)) (dp 8 rfl (cX (Ht rfl)) (b8 54 15 55 16 rfl (dZ U_35 Z_131 (Ht rfl) (Ht rfl) rfl (dY (dU (d:=Qi.zero) (by rw [hpr]; exact hf)))) ?_)))))
     refine dq 56 17 rfl (dJ A_131 Z_131 (Ht rfl)) (dp 1 rfl (cX (Ht rfl)) (dp 8 rfl (cX (Ht rfl)) (b8 58 19 59 20 rfl (dZ U_36 Z_35 (Ht rfl) (Ht rfl) rfl (dY (dU (d:=[]) hf))) (dq 60 21 rfl (dJ A_35 Z_35 (Ht rfl)) (dp 9 rfl (cX (Ht rfl)) (b8 61 22 62 23 rfl (dZ U_35 Z_131 (Ht rfl) (Ht rfl) rfl (dY (dU (d:=Qi.zero) (by rw [hcr]; exact hg)))) ?_))))))
     refine dq 63 24 rfl (dJ A_131 Z_131 (Ht rfl)) (b8 57 18 64 25 rfl (cZ K_146 (mZ zo) ⟨(Ht rfl),(Ht rfl),trivial⟩) (dp 0 rfl (cX (Ht rfl)) (dp 7 rfl (cX (Ht rfl)) (b8 66 27 67 28 rfl (dZ U_36 Z_35 (Ht rfl) (Ht rfl) rfl (dY (dU (d:=[]) he))) (dq 68 29 rfl (dJ A_35 Z_35 (Ht rfl)) (dp 9 rfl (cX (Ht rfl)) (b8 69 30 70 31 rfl (dZ U_35 Z_131 (Ht rfl) (Ht rfl) rfl (dY (dU (d:=Qi.zero) (by rw [hpk]; exact hg)))) ?_)))))))
     refine dq 71 32 rfl (dJ A_131 Z_131 (Ht rfl)) (dq 72 33 rfl (cZ Tryz.call173 r4 ⟨(Ht rfl),trivial⟩) (b8 65 26 73 34 rfl (cZ K_146 (mZ zo) ⟨(Ht rfl),(Ht rfl),trivial⟩) (b8 50 11 74 35 rfl (cZ Tryz.call149 (ug zo) ⟨(Ht rfl),(Ht rfl),trivial⟩) (fV au rfl (by kernel_rfl) (zF (zF (zF (zF (zF (zF (zF (zF (zF (aJ (aV ?_)))))))))))))))
     refine ro rfl (b6 U_35 Z_131 (Ht rfl) (Ht rfl) rfl (i:=2) rfl (by simp only [List.length_map]; omega) rfl) ?_
     refine dB Z_131 (Ht rfl) (Ht rfl) (El.ag rfl) (i:=2) rfl rfl (by simp only [List.length_map]; omega) rfl ?_
     refine eX (as (cY (rm rfl (ro rfl (dV (Ht rfl) (cJ 1) z6) (ra rfl (eX (fU (b + 1) hg zo (zS rfl) (aU (fun _ _ _ h=>h) (aU (fun _ _ _ h=>h) (aU (aa (by rw [ce,List.set_set,Qi.add_assoc',ah]; rfl)) aY))))))))))
    ·simp only [decide_eq_false_iff_not] at hg
     obtain rfl:b = c.length:=Nat.le_antisymm hb zo
     refine gV rfl (as (cY (rm rfl (ro rfl (dV (Ht rfl) (cJ 1) z6) (ra rfl (eX (fU (a + 1) hf zo (zS rfl) (aU (fun _ _ _ h=>h) (aU (fun _ _ _ h=>h) (aU (aa (by rw [ah])) aY))))))))))
   ·simp only [decide_eq_false_iff_not] at hf
    obtain rfl:a = c.length:=Nat.le_antisymm ha zo
    refine gV rfl (as (cY (rm rfl (ro rfl (dV (Ht rfl) (cJ 1) z6) (ra rfl (eX (fU (k + 1) he zo (zS rfl) (aU (fun _ _ _ h=>h) (aU (fun _ _ _ h=>h) (aU (aa (by rw [← dn (f:=fun k=>mA p c c.length i k)]; rfl)) aY))))))))))
  ·simp only [decide_eq_false_iff_not] at he
   obtain rfl:k = p.length:=Nat.le_antisymm hk zo
   refine gV rfl (as (bR 1 2 rfl rfl (by decide) (by simp only [aH,List.length_map,bg]; omega) ?_))
   refine cY (rm rfl (ro rfl (dV (Ht rfl) (cJ 1) z6) (ra rfl (eX (aO [0,1] rfl (by decide) (fU (i + 1) hd zo (zS rfl) (aU (fun _ _ _ h=>h) (aU (aC (by rw [c9,di,← dn (f:=(fun i=>tab p.length fun k=>mA p c c.length i k))])) aY))))))))
 ·simp only [decide_eq_false_iff_not] at hd
  obtain rfl:i = p.length:=Nat.le_antisymm hi zo
  refine gV rfl (ts (rm rfl (ra rfl (eX ?_))))
  exact dS B14 trivial [0,1] ⟨⟨_,rfl,fun _ _ _ h=>h⟩,⟨_,rfl,(aC (by rw [di]; rfl))⟩,trivial⟩ (by decide) (kn rfl (eU rfl))
end
section
open Go Go.RowKit
theorem DE {p c:List (List Qi)} {L:Nat} (hp:aL p L) (hc:aL c L) (hL1:1 ≤ L) (hL:L ≤ 1000000) (hps:bE p p.length c.length) (hcs:bE c c.length c.length) (hpl:p.length ≤ 8) (hcl:c.length ≤ 8):az Tryz.prog 102 [QM p,QM c] (QM (g7 p c)):=(Ax hp hc hL1 hL hps hcs hpl hcl).fun fun B _ v S V h1 h2=>eD (s:=5) (M:=g7 p c) jt.1.symm v S V h1 h2
end
section
open Go Go.RowKit
theorem jH (v : Value) (w : World) : (method (Tryz.prog.types.size + Made.depth) 51 v "Of").run Tryz.prog w = .ok (302, v) w := by kernel_rfl
theorem bC (v:Value) (w:World):(Instr.makeInterface 51 v).run Tryz.prog w = .ok (.iface 51 v) w:=by
 simp [Instr.makeInterface,Sem.run_bind,Result.andThen,U_51]
end
section
open Go Go.RowKit
theorem DB {x:Qi} {L:Nat} [hx:ao x L] (h:L ≤ 8796093022208):az Tryz.prog 159 [ar x] (ab (sQ x)):=by
 haveI hz:ao Qi.zero 1:=ao.zero (Nat.le_refl 1)
 rw [← At]
 refine az.intro Tryz.func159 rfl Tryz.ntmps159 rfl (fun cx=>(ts (rn rfl (fG (Ht rfl)) fun B1=>(ro rfl (cQ cV) (eX (cK (fZ (m:=5) (dp 1 rfl (eJ A_51 Z_51 (Ht rfl) (i:=0) rfl rfl rfl) (dq 3 0 rfl (cZ Tryz.call169 ri ⟨(Ht rfl),trivial⟩) (dq 4 1 rfl (cX (Ht rfl)) (C.D_step (Ei:=[(1,_),(5,_)]) rfl rfl (bV (bK rfl rfl) (bV (bG 2 rfl rfl) bW)) (eK rfl rfl (Ht rfl) (fun h=>eJ A_51 Z_51 (Ht rfl) (i:=0) rfl rfl rfl)) (C.D_step (Ei:=[(5,_)]) rfl rfl (bV (bG 2 rfl rfl) bW) (eK rfl rfl (Ht rfl) (fun h=>cZ K_77 (jZ (n:=0) (by decide) (by decide)) ⟨(cJ 0),trivial⟩)) ?_))))))))))))
 refine fV au rfl (by kernel_rfl) (zF (aJ (aV (fQ rfl rfl (eK rfl rfl (Ht rfl) (fun h=>cZ Tryz.call76 (xR (x:=x) (y:=Qi.zero) (M:=1) zo) ⟨(fJ rfl h),(fJ rfl h),trivial⟩)) (fQ rfl rfl (eK rfl rfl (Ht rfl) (fun h=>eB (fJ rfl h) cV)) (ro rfl (c7 (Ht rfl) (fun h=>(fJ rfl h))) (ra rfl (eX ?_))))))))
 exact fW rfl (eU rfl)
theorem uJ {y:Qi}:az Tryz.prog 302 [bO [Is (.bool false),Is (.slice none 0 0),Is (.bool false),Is (.slice none 0 0),Is (.slice none 0 0)],ar y] (ar y):=by
 refine az.intro Tryz.func302 rfl Tryz.ntmps302 rfl (fun cx=>(ts (rn rfl (fG (Ht rfl)) fun B2=>(rn rfl (fG (Ht rfl)) fun B3=>(rn rfl (eW (Ts:=[Is (.bool false),Is (.slice none 0 0),Is (.bool false),Is (.slice none 0 0),Is (.slice none 0 0)]) O_51 rfl (fun V=>aW zd (aW zd (aW zd (aW zd (aW zd (aG))))))) fun B4=>(eX (ts (ro rfl (eJ A_51 Z_51 (Ht rfl) (i:=1) rfl rfl rfl) (gQ Z_51 (Ht rfl) (Ht rfl) rfl (i:=2) rfl (aK rfl) rfl rfl ?_)))))))))
 refine eX ?_
 exact fW rfl (fK A_51 Z_51 rfl (i:=2) rfl rfl)
theorem tI {x:Qi}:az Tryz.prog 98 [ar x] (ar x):=by
 refine az.intro Tryz.func98 rfl Tryz.ntmps98 rfl (fun cx=>(ts (rn rfl (fG (Ht rfl)) fun B1=>(rn rfl (eW (Ts:=[Is (.bool false),Is (.slice none 0 0),Is (.bool false),Is (.slice none 0 0),Is (.slice none 0 0)]) O_51 rfl (fun V=>aW zd (aW zd (aW zd (aW zd (aW zd (aG))))))) fun B2=>(eX (ts (rn rfl (eW (Ts:=[Is (.bool false),Is (.slice none 0 0),Is (.bool false),Is (.slice none 0 0),Is (.slice none 0 0)]) O_51 rfl (fun V=>aW zd (aW zd (aW zd (aW zd (aW zd (aG))))))) fun B3=>?_)))))))
 refine eX (ts (ro rfl (eJ A_51 Z_51 (Ht rfl) (i:=2) rfl rfl rfl) (ro rfl (bd bC (Ht rfl)) (ro rfl (eJ A_51 Z_51 (Ht rfl) (i:=0) rfl rfl rfl) (ro rfl (b7 jH Tryz.call302 uJ (Ht rfl) ⟨(Ht rfl),trivial⟩) (gQ Z_51 (Ht rfl) (Ht rfl) rfl (i:=1) rfl (aK rfl) rfl rfl (eX ?_)))))))
 exact fW rfl (fK A_51 Z_51 rfl (i:=1) rfl rfl)
theorem uj {r:List Qi} {k:Nat}:az Tryz.prog 273 [aS r,PT (NT .i64 k)] (ab (!decide (r.length = k))):=by
 refine az.intro Tryz.func273 rfl Tryz.ntmps273 rfl (fun cx=>(ts (ro rfl (cQ cV) (eX (ts (rm rfl (ro rfl (dG U_29 (Ht rfl) a7) (ro rfl (dJ A_3 Z_3 (Ht rfl)) (ro rfl (cu (Ht rfl) (Ht rfl)) (ra rfl (eX ?_)))))))))))
 exact fW rfl (eU rfl)
theorem kR {a:List (List Qi)} {n k:Nat} (h:bE a n k) (h1:1 ≤ n) (hn:n ≤ 32) (hk:k ≤ 32):az Tryz.prog 240 [b9 a] (cr [NT .i64 k,ab true]):=by
 obtain ⟨rfl,h2⟩:=h
 have hr0:(a.getD 0 []).length = k:=bE.row ⟨rfl,h2⟩ zo
 refine az.intro Tryz.func240 rfl Tryz.ntmps240 rfl (fun cx=>(ts (ro rfl (cQ (cJ 0)) (ro rfl (cQ cV) (eX (cK (ts (rm rfl (ro rfl (dG U_30 (Ht rfl) a7) (ro rfl (bc (Ht rfl) (cJ 0)) (eX (dQ (Ht rfl) (fun hb=>?_) (fun hb=>?_)))))))))))))
 ·simp only [decide_eq_true_eq] at hb
  omega
 ·refine cU (ts (rm rfl (ro rfl (dZ U_30 Z_29 (Ht rfl) (cJ 0) rfl (dY (dU (d := []) zo))) (ro rfl (dJ A_29 Z_29 (Ht rfl)) (ro rfl (dG U_29 (Ht rfl) a7) (rn rfl (eW (Ts := [Is (.int .i64 0)]) O_3 rfl (fun V => aW zd (aG))) fun B4 => (fe Z_3 (Ht rfl) (Ht rfl) (i := 0) rfl (aK rfl) rfl (eX (cK (gJ (i := 0) (tt := 4) rfl rfl ju (fZ (m := 15) (dp 4 rfl (dJ A_3 Z_3 (Ht rfl)) ?_))))))))))))
  refine dp 0 rfl (cX (Ht rfl)) (dq 13 1 rfl (dG U_30 (Ht rfl) a7) (dq 14 2 rfl (mI (Ht rfl) (cJ 32)) (dq 15 3 rfl (cX (Ht rfl)) (C.D_step (Ei:=[(4,_),(16,_)]) rfl rfl (bV (bK rfl rfl) (bV (bG 4 rfl rfl) bW)) (eK rfl rfl (Ht rfl) (fun h=>dJ A_3 Z_3 (Ht rfl))) (C.D_step (Ei:=[(17,_),(16,_)]) rfl rfl (bV (bG 5 rfl rfl) (bV (bG 4 rfl rfl) bW)) (eK rfl rfl (Ht rfl) (fun h=>mI (fJ rfl h) (cJ 32))) (b8 16 4 18 6 rfl (c7 (Ht rfl) (fun h=>(fJ rfl h))) ?_))))))
  refine dq 19 7 rfl (cX (Ht rfl)) (C.D_step (Ei:=[(0,_),(20,_)]) rfl rfl (bV (bK rfl rfl) (bV (bG 8 rfl rfl) bW)) (eK rfl rfl (Ht rfl) (fun h=>cX (Ht rfl))) (C.D_step (Ei:=[(4,_),(20,_)]) rfl rfl (bV (bK rfl rfl) (bV (bG 8 rfl rfl) bW)) (eK rfl rfl (Ht rfl) (fun h=>lc (γ:=List Qi) (Ts:=fun r=>[aS r]) (U:=fun r=>ab (!decide (r.length = (a.getD 0 []).length))) Tryz.call273 (fun r=>uj) ⟨(Ht rfl),trivial⟩)) (C.D_step (Ei:=[(21,_),(22,_),(20,_)]) rfl rfl (bV (bG 9 rfl rfl) (bV (bG 10 rfl rfl) (bV (bG 8 rfl rfl) bW))) (eK rfl rfl (Ht rfl) (fun h=>cZ Tryz.call156 (lv (l:=a) (T:=aS) (p:=fun r=>!decide (r.length = (a.getD 0 []).length)) zo) ⟨(fJ rfl h),(fJ rfl h),trivial⟩)) ?_)))
  refine C.D_step (Ei:=[(23,_),(20,_)]) rfl rfl (bV (bG 11 rfl rfl) (bV (bG 8 rfl rfl) bW)) (eK rfl rfl (Ht rfl) (fun h=>co (fJ rfl h))) (b8 20 8 24 12 rfl (c7 (Ht rfl) (fun h=>(fJ rfl h))) (dq 12 0 rfl (cQ (Ht rfl)) (fV au rfl (by kernel_rfl) (zF (zF (zF (aJ (aJ (aJ (aV (ra rfl (eX (aE rfl (fX (eU rfl) ?_) (fX (eU rfl) ?_))))))))))))))
  ·exact (fC hr0)
  ·exact (bF (by rw [hr0,BC ⟨rfl,h2⟩]; simp; omega))
end
section
open Go Go.RowKit
theorem kK (v : Value) (w : World) : (method (Tryz.prog.types.size + Made.depth) 51 v "Add").run Tryz.prog w = .ok (46, v) w := by kernel_rfl
theorem jW (v : Value) (w : World) : (method (Tryz.prog.types.size + Made.depth) 51 v "Conj").run Tryz.prog w = .ok (175, v) w := by kernel_rfl
theorem cD (v : Value) (w : World) : (method (Tryz.prog.types.size + Made.depth) 51 v "Mul").run Tryz.prog w = .ok (45, v) w := by kernel_rfl
end
section
open Go Go.RowKit
theorem va {a b:List (List Qi)} {n k m L M:Nat} (ha:bE a n k) (hb:bE b k m) (hfa:aL a L) (hfb:aL b M) (hL1:1 ≤ L) (hM1:1 ≤ M) (hL:L ≤ 900000000000) (hM:M ≤ 900000000000) (hn1:1 ≤ n) (hk1:1 ≤ k) (hn:n ≤ 8) (hk:k ≤ 8) (hm:m ≤ 8):cR Tryz.prog 195 [b9 a,b9 b] [] (Nat) (fun B=>cr [Is (.slice (some ⟨B,0,none⟩) n n),ap .i64 0]) (fun B=>[iK B 29 51 5 (aH ar (gj a b n k m))]) (fun _=>True):=by
 have hal:=ha.1
 have hbl:=hb.1
 refine cR.intro Tryz.func195 rfl Tryz.ntmps195 rfl (fun cx Z=>(ts (ro rfl (cQ cV) (ro rfl (cQ (cJ 0)) (eX (ts (rm rfl (ro rfl (cZ Tryz.call240 (kR ha hn1 zo zo) ⟨(Ht rfl),trivial⟩) (rm rfl (ro rfl (dK (Ht rfl) rfl) (ro rfl (dK (Ht rfl) rfl) (ra rfl (ra rfl (eX (ts (rm rfl (ro rfl (cZ Tryz.call240 (kR hb hk1 zo zo) ⟨(Ht rfl),trivial⟩) (rm rfl (ro rfl (dK (Ht rfl) rfl) (ro rfl (dK (Ht rfl) rfl) (ra rfl (ra rfl (eX (cK (ts (rm rfl (ro rfl (co (Ht rfl)) ?_)))))))))))))))))))))))))))
 refine rm rfl (fQ rfl rfl (eK rfl rfl (Ht rfl) (fun h=>cX (Ht rfl))) (fQ rfl rfl (eK rfl rfl (Ht rfl) (fun h=>co (fJ rfl h))) (ro rfl (dr (Ht rfl) (fun h=>(fJ rfl h))) (rm rfl (fQ rfl rfl (eK rfl rfl (Ht rfl) (fun h=>cX (Ht rfl))) (fQ rfl rfl (eK rfl rfl (Ht rfl) (fun h=>cX (Ht rfl))) (fQ rfl rfl (eK rfl rfl (Ht rfl) (fun h=>dG U_30 (fJ rfl h) a7)) (fQ rfl rfl (eK rfl rfl (Ht rfl) (fun h=>cu (fJ rfl h) (fJ rfl h))) (ro rfl (dr (Ht rfl) (fun h=>(fJ rfl h))) ?_)))))))))
 refine eX (dQ (Ht rfl) (fun h0=>?_) (fun h0=>?_))
 ·exact absurd h0 (by simp [hbl])
 ·refine cU (ts (rm rfl (ro rfl (dG U_30 (Ht rfl) a7) (rn rfl (bM (T := Is (.slice none 0 0)) (i := Tryz.t29) V_30 gr rfl rfl (Ht rfl) rfl (fun _ => rfl) trivial (by show 24 * _ ≤ _; omega) zo) fun B39 => (ra rfl (eX (cK (ts (rm rfl (ro rfl (d7 U_30 (Ht rfl)) (ro rfl (cX (cJ 0)) (eX (eG (fk 1 rfl (kV (e := 51) (s := 5)) ?_))))))))))))))
  refine aF (fun (i : Nat) => i ≤ n) (fun (i : Nat) => n - i) (fun (i : Nat) => [(0, b9 a), (1, b9 b), (6, NT .i64 k), (8, NT .i64 m), (10, Is (.slice (some ⟨B39, 0, none⟩) n n)), (41, NT .i64 n), (42, NT .i64 i)]) (fun (i : Nat) => [Z, iK B39 29 51 5 (aH ar (dA (fun i => tab m fun c => nH a b k i c) [] n i))]) 0 (Nat.zero_le _)
   (aQ rfl (aQ rfl (aQ rfl (aQ rfl (aZ rfl (fun v V h=>by rw [← hal]; exact h) (aZ rfl (fC hal) (zS rfl))))))) (aU (fun _ _ _ h=>h) (aU (aC (by rw [← cz,fA,hal]; exact fN ar n)) aY)) (fun i hi=>?_)
  refine ts (ro rfl (gX (Ht rfl) (Ht rfl)) (eX (cK (dQ (Ht rfl) (fun hd=>?_) (fun hd=>?_)))))
  ·simp only [decide_eq_true_eq] at hd
   have har:=ha.row hd
   have hb0:=hb.row (i:=0) zo
   refine j2 1 (i) rfl (ft hd) (fun v=>(cU (cK (eG (ts (rm rfl (ra rfl (eX (ts (rm rfl (ro rfl (cX (cJ 0)) (eX (eG ?_)))))))))))))
   refine bA (fun (c : Nat) (v : Value) => c ≤ m) (fun (c : Nat) (v : Value) => m - c) (fun (c : Nat) (v : Value) => [(0, b9 a), (1, b9 b), (6, NT .i64 k), (8, NT .i64 m), (10, Is (.slice (some ⟨B39, 0, none⟩) n n)), (11, NT .i64 i), (41, NT .i64 n), (42, NT .i64 i), (45, NT .i64 m), (46, NT .i64 c)]) (fun (c : Nat) (v : Value) => [Z, xd B39 29 51 5 (aH ar (dA (fun i => tab m fun c => nH a b k i c) [] n i)) i v, aB 51 5 v ((tab c fun c => nH a b k i c).map ar)]) 0 v (Nat.zero_le _)
    (zS rfl) (bh.refl _) (fun c v hc=>?_)
   refine ts (ro rfl (gX (Ht rfl) (Ht rfl)) (eX (cK (dQ (Ht rfl) (fun he=>?_) (fun he=>?_)))))
   ·simp only [decide_eq_true_eq] at he
    haveI f1:ao (gm a i 0) L:=hfa.get hL1 i 0
    haveI f2:ao (gm b 0 c) M:=hfb.get hM1 0 c
    refine cU (cK (eG (ts (rm rfl (ra rfl (eX (cK (fZ (m:=15) (dp 0 rfl (cX (Ht rfl)) (dp 11 rfl (cX (Ht rfl)) (b8 49 0 50 1 rfl (dZ U_30 Z_29 (Ht rfl) (Ht rfl) rfl (dY (dU (d:=[]) zo))) (dq 51 2 rfl (dJ A_29 Z_29 (Ht rfl)) (dq 52 3 rfl (dZ U_29 Z_51 (Ht rfl) (cJ 0) rfl (dY (dU (d:=Qi.zero) (by rw [har]; omega)))) ?_)))))))))))))
    refine dq 53 4 rfl (dJ A_51 Z_51 (Ht rfl)) (dq 54 5 rfl (bd bC (Ht rfl)) (dp 1 rfl (cX (Ht rfl)) (dq 56 7 rfl (dZ U_30 Z_29 (Ht rfl) (cJ 0) rfl (dY (dU (d:=[]) zo))) (dq 57 8 rfl (dJ A_29 Z_29 (Ht rfl)) (dp 12 rfl (cX (Ht rfl)) (b8 58 9 59 10 rfl (dZ U_29 Z_51 (Ht rfl) (Ht rfl) rfl (dY (dU (d:=Qi.zero) (by rw [hb0]; omega)))) ?_))))))
    refine dq 60 11 rfl (dJ A_51 Z_51 (Ht rfl)) (b8 55 6 61 12 rfl (b7 cD K_45 (jc zo) (Ht rfl) ⟨(Ht rfl),trivial⟩) (C.D_new (Ei:=[]) rfl rfl rfl bW (eW (Ts:=[Is (.bool false),Is (.slice none 0 0),Is (.bool false),Is (.slice none 0 0),Is (.slice none 0 0)]) O_51 rfl (fun V=>aW zd (aW zd (aW zd (aW zd (aW zd (aG))))))) (fV au rfl (by kernel_rfl) (zF (zF (zF (aJ (aJ (C.F_new (fun B13=>aV ?_))))))))))
    refine gQ Z_51 (Ht rfl) (Ht rfl) rfl (i:=3) rfl (aK rfl) rfl rfl (eX (cK (ts (ro rfl (cQ (cJ 1)) (eX (eG ?_))))))
    refine aF (fun (j : Nat) => 1 ≤ j ∧ j ≤ k) (fun (j : Nat) => k - j) (fun (j : Nat) => [(0, b9 a), (1, b9 b), (6, NT .i64 k), (8, NT .i64 m), (10, Is (.slice (some ⟨B39, 0, none⟩) n n)), (11, NT .i64 i), (12, NT .i64 c), (13, aI B13 0), (14, NT .i64 j), (41, NT .i64 n), (42, NT .i64 i), (45, NT .i64 m), (46, NT .i64 c)]) (fun (j : Nat) => [Z, xd B39 29 51 5 (aH ar (dA (fun i => tab m fun c => nH a b k i c) [] n i)) i v, aB 51 5 v ((tab c fun c => nH a b k i c).map ar), box B13 51 [ab (decide ((ah j fun j => gm a i j * gm b j c).a < 0)), ai (ah j fun j => gm a i j * gm b j c).a.natAbs, ab (decide ((ah j fun j => gm a i j * gm b j c).b < 0)), ai (ah j fun j => gm a i j * gm b j c).b.natAbs, ai (du (ah j fun j => gm a i j * gm b j c))]]) 1 ⟨Nat.le_refl _, hk1⟩
     (zS rfl) (aU (fun _ _ _ h=>h) (aU (fun _ _ _ h=>h) (aU (fun _ _ _ h=>h) (aU (a8 (by rw [pk]; rfl)) aY)))) (fun j ⟨hj1,hj⟩=>?_)
    refine cK (ts (rm rfl (rm rfl (ro rfl (gX (Ht rfl) (Ht rfl)) (eX (dQ (Ht rfl) (fun hf=>?_) (fun hf=>?_)))))))
    ·simp only [decide_eq_true_eq] at hf
     haveI f3:ao (gm a i j) L:=hfa.get hL1 i j
     haveI f4:ao (gm b j c) M:=hfb.get hM1 j c
     haveI f5:ao (ah j fun j=>gm a i j * gm b j c) (8 * (L + M) + 17):=wz hfa hfb hL1 hM1 zo i c
     have hbj:=hb.row (i:=j) zo
     refine cU (cK (eG (fZ (m:=18) (dp 13 rfl (eJ A_51 Z_51 (Ht rfl) (i:=3) rfl rfl rfl) (dq 68 0 rfl (bd bC (Ht rfl)) (dp 0 rfl (cX (Ht rfl)) (dp 11 rfl (cX (Ht rfl)) (b8 70 2 71 3 rfl (dZ U_30 Z_29 (Ht rfl) (Ht rfl) rfl (dY (dU (d:=[]) zo))) (dq 72 4 rfl (dJ A_29 Z_29 (Ht rfl)) (dp 14 rfl (cX (Ht rfl)) (b8 73 5 74 6 rfl (dZ U_29 Z_51 (Ht rfl) (Ht rfl) rfl (dY (dU (d:=Qi.zero) (by rw [har]; omega)))) ?_)))))))))))
     refine dq 75 7 rfl (dJ A_51 Z_51 (Ht rfl)) (dq 76 8 rfl (bd bC (Ht rfl)) (dp 1 rfl (cX (Ht rfl)) (dp 14 rfl (cX (Ht rfl)) (b8 78 10 79 11 rfl (dZ U_30 Z_29 (Ht rfl) (Ht rfl) rfl (dY (dU (d:=[]) zo))) (dq 80 12 rfl (dJ A_29 Z_29 (Ht rfl)) (dp 12 rfl (cX (Ht rfl)) (b8 81 13 82 14 rfl (dZ U_29 Z_51 (Ht rfl) (Ht rfl) rfl (dY (dU (d:=Qi.zero) (by rw [hbj]; omega)))) ?_)))))))
     refine dq 83 15 rfl (dJ A_51 Z_51 (Ht rfl)) (b8 77 9 84 16 rfl (b7 cD K_45 (jc zo) (Ht rfl) ⟨(Ht rfl),trivial⟩) (fV au rfl (by kernel_rfl) (zF (zF (zF (zF (aJ (aJ (aV (ro rfl (b7 kK Tryz.call46 (vB zo) (Ht rfl) ⟨(Ht rfl),trivial⟩) (gQ Z_51 (Ht rfl) (Ht rfl) rfl (i:=3) rfl (aK rfl) rfl rfl (eX (as ?_)))))))))))))
     refine cY (rm rfl (ro rfl (dV (Ht rfl) (cJ 1) z6) (ra rfl (eX (fU (j + 1) ⟨by omega,hf⟩ zo (zS rfl) (aU (fun _ _ _ h=>h) (aU (fun _ _ _ h=>h) (aU (fun _ _ _ h=>h) (aU (a8 rfl) aY)))))))))
    ·simp only [decide_eq_false_iff_not] at hf
     obtain rfl:k = j:=Nat.le_antisymm zo hj
     refine gV rfl (Y.D_startA (m:=9) [] 8 2 rfl rfl (bY (Ei:=[(10,_)]) rfl rfl (bQ (bJ rfl rfl) bX) rfl rfl (dX rfl (cX (Ht rfl))) (bY (Ei:=[(11,_)]) rfl rfl (bQ (bJ rfl rfl) bX) rfl rfl (dX rfl (cX (Ht rfl))) (bY (Ei:=[(10,_)]) rfl rfl (bQ (bJ rfl rfl) bX) rfl rfl (dX rfl (cX (Ht rfl))) (bY (Ei:=[(11,_)]) rfl rfl (bQ (bJ rfl rfl) bX) rfl rfl (dX rfl (cX (Ht rfl))) (bY (Ei:=[(89,_),(90,_)]) rfl rfl (bQ (bZ 2 rfl rfl) (bQ (bZ 3 rfl rfl) bX)) rfl rfl (dX rfl (fY U_30 Z_29 (Ht rfl) (Ht rfl) rfl zo (by rw [Nat.mul_one,Nat.zero_add]))) ?_))))))
     refine bY (Ei:=[(91,_)]) rfl rfl (bQ (bZ 4 rfl rfl) bX) rfl rfl (dX rfl (d4 A_29 Z_29 (Ht rfl) (j:=1) rfl)) (bY (Ei:=[(13,_)]) rfl rfl (bQ (bJ rfl rfl) bX) rfl rfl (dX rfl (eJ A_51 Z_51 (Ht rfl) (i:=3) rfl rfl rfl)) (bY (Ei:=[(93,_)]) rfl rfl (bQ (bZ 6 rfl rfl) bX) rfl rfl (dX rfl (aN (xs:=[.tmp 93]) U_29 Z_51 O_51 (cW (Ht rfl) cG) rfl rfl rfl)) (Y.D_app (Ei:=[(92,_),(94,_)]) rfl rfl rfl rfl (bQ (bZ 5 rfl rfl) (bQ (bZ 7 rfl rfl) bX)) rfl (jk (inf:=Tryz.t51) gt f9 rfl rfl rfl (Ht rfl) (Ht rfl) (by simp) (fun T hT=>by simp at hT; subst hT; exact El.ag rfl) (by show _ * 88 ≤ _; simp only [List.length_map,a9,List.length_cons,List.length_nil]; omega) (by simp only [List.length_map,a9,List.length_cons,List.length_nil]; omega)) ?_)))
     refine Y.D_done au rfl (by kernel_rfl) rfl (by simp [Y.okP]) rfl rfl (bU (bU (bU (bU (bU (bU (bU (bU (Y.F_app (fun v2=>Y.F_nil ?_))))))))))
     refine ro rfl (fY U_30 Z_29 (Ht rfl) (Ht rfl) rfl zo (by rw [Nat.mul_one,Nat.zero_add])) ?_
     refine jX Z_29 (Ht rfl) (Ht rfl) (by simp only [aH,List.length_map,bg]; omega) (j:=1) (l:=4) rfl rfl rfl ?_
     refine eX (as (cY (ro rfl (dV (Ht rfl) (cJ 1) z6) (rm rfl (eX (aO [0,1,4] rfl (by decide) (fU (c + 1,v2) he (by dsimp only; omega) (zS rfl) (aU (fun _ _ _ h=>h) (aU (fun _ _ _ h=>h) (aU (aa ((iE ar _ (nH a b k i c)).trans (congrArg _ (ie c (fun c=>nH a b k i c)).symm))) aY))))))))))
   ·simp only [decide_eq_false_iff_not] at he
    obtain rfl:m = c:=Nat.le_antisymm zo hc
    refine gV rfl (as (bR 1 2 rfl rfl (by decide) (by simp only [aH,List.length_map,bg]; omega) ?_))
    refine cY (ro rfl (dV (Ht rfl) (cJ 1) z6) (rm rfl (eX (aO [0,1] rfl (by decide) (fU (i + 1) hd zo (zS rfl) (aU (fun _ _ _ h=>h) (aU (aC (by rw [c9,← dn (f:=(fun i=>tab m fun c=>nH a b k i c))])) aY)))))))
  ·simp only [decide_eq_false_iff_not] at hd
   obtain rfl:n = i:=Nat.le_antisymm zo hi
   refine gV rfl (ts (rm rfl (ra rfl (ro rfl (cQ (cJ 0)) (eX ?_)))))
   exact dS B39 trivial [0,1] ⟨⟨_,rfl,fun _ _ _ h=>h⟩,⟨_,rfl,(aC (by rw [di]; rfl))⟩,trivial⟩ (by decide) (Bb rfl (eU rfl) (eU rfl))
theorem EA {a b:List (List Qi)} {n k m L M:Nat} (ha:bE a n k) (hb:bE b k m) (hfa:aL a L) (hfb:aL b M) (hL1:1 ≤ L) (hM1:1 ≤ M) (hL:L ≤ 900000000000) (hM:M ≤ 900000000000) (hn1:1 ≤ n) (hk1:1 ≤ k) (hn:n ≤ 8) (hk:k ≤ 8) (hm:m ≤ 8):az Tryz.prog 195 [b9 a,b9 b] (cr [b9 (gj a b n k m),ap .i64 0]):=(va ha hb hfa hfb hL1 hM1 hL hM hn1 hk1 hn hk hm).fun fun B _ v S V h1 h2=>Fy h1 fun u hu=>eD (s:=5) (M:=gj a b n k m) (a9 _ _).symm u S V hu h2
theorem DR {a:List (List Qi)} {n m:Nat} (ha:bE a n m) (hn1:1 ≤ n) (hn:n ≤ 8) (hm:m ≤ 8):cR Tryz.prog 196 [b9 a] [] (Nat) (fun B=>cr [Is (.slice (some ⟨B,0,none⟩) m m),ap .i64 0]) (fun B=>[iK B 29 51 5 (aH ar (qR a n m))]) (fun _=>True):=by
 have hal:=ha.1
 refine cR.intro Tryz.func196 rfl Tryz.ntmps196 rfl (fun cx Z=>(ts (ro rfl (cQ cV) (ro rfl (cQ (cJ 0)) (eX (ts (rm rfl (ro rfl (cZ Tryz.call240 (kR ha hn1 zo zo) ⟨(Ht rfl),trivial⟩) (rm rfl (ro rfl (dK (Ht rfl) rfl) (ro rfl (dK (Ht rfl) rfl) (ra rfl (ra rfl (eX (cK (ts (rm rfl (ro rfl (co (Ht rfl)) (eX (dQ (Ht rfl) (fun h0=>?_) (fun h0=>?_)))))))))))))))))))))
 ·exact absurd h0 (by simp)
 ·refine cU (ts (rm rfl (rn rfl (bM (T := Is (.slice none 0 0)) (i := Tryz.t29) V_30 gr rfl rfl (Ht rfl) rfl (fun _ => rfl) trivial (by show 24 * _ ≤ _; omega) zo) fun B17 => (ra rfl (eX (cK (ts (rm rfl (ro rfl (d7 U_30 (Ht rfl)) (ro rfl (cX (cJ 0)) (eX (eG (fk 1 rfl (kV (e := 51) (s := 5)) ?_)))))))))))))
  refine aF (fun (k : Nat) => k ≤ m) (fun (k : Nat) => m - k) (fun (k : Nat) => [(0, b9 a), (6, Is (.slice (some ⟨B17, 0, none⟩) m m)), (19, NT .i64 m), (20, NT .i64 k)]) (fun (k : Nat) => [Z, iK B17 29 51 5 (aH ar (dA (fun k => tab n fun i => (gm a i k).conj) [] m k))]) 0 (Nat.zero_le _)
   (zS rfl) (aU (fun _ _ _ h=>h) (aU (aC (by rw [← cz,fA]; exact fN ar m)) aY)) (fun k hk=>?_)
  refine ts (ro rfl (gX (Ht rfl) (Ht rfl)) (eX (cK (dQ (Ht rfl) (fun hd=>?_) (fun hd=>?_)))))
  ·simp only [decide_eq_true_eq] at hd
   refine j2 1 (k) rfl (ft hd) (fun v=>(cU (cK (eG (ts (rm rfl (ra rfl (eX (ts (rm rfl (ro rfl (dG U_30 (Ht rfl) a7) (ro rfl (cX (cJ 0)) (eX (eG ?_))))))))))))))
   refine bA (fun (i : Nat) (v : Value) => i ≤ n) (fun (i : Nat) (v : Value) => n - i) (fun (i : Nat) (v : Value) => [(0, b9 a), (6, Is (.slice (some ⟨B17, 0, none⟩) m m)), (7, NT .i64 k), (19, NT .i64 m), (20, NT .i64 k), (24, NT .i64 n), (25, NT .i64 i)]) (fun (i : Nat) (v : Value) => [Z, xd B17 29 51 5 (aH ar (dA (fun k => tab n fun i => (gm a i k).conj) [] m k)) k v, aB 51 5 v ((tab i fun i => (gm a i k).conj).map ar)]) 0 v (Nat.zero_le _)
    (aQ rfl (aQ rfl (aQ rfl (aQ rfl (aQ rfl (aZ rfl (fC hal) (zS rfl))))))) (bh.refl _) (fun i v hi=>?_)
   refine ts (ro rfl (gX (Ht rfl) (Ht rfl)) (eX (cK (dQ (Ht rfl) (fun he=>?_) (fun he=>?_)))))
   ·simp only [decide_eq_true_eq] at he
    have har:=ha.row he
    refine cU (cK (eG (ts (rm rfl (ra rfl (eX (Y.D_startA (m:=17) [] 16 2 rfl rfl (bY (Ei:=[(6,_)]) rfl rfl (bQ (bJ rfl rfl) bX) rfl rfl (dX rfl (cX (Ht rfl))) (bY (Ei:=[(7,_)]) rfl rfl (bQ (bJ rfl rfl) bX) rfl rfl (dX rfl (cX (Ht rfl))) (bY (Ei:=[(6,_)]) rfl rfl (bQ (bJ rfl rfl) bX) rfl rfl (dX rfl (cX (Ht rfl))) (bY (Ei:=[(7,_)]) rfl rfl (bQ (bJ rfl rfl) bX) rfl rfl (dX rfl (cX (Ht rfl))) (bY (Ei:=[(30,_),(31,_)]) rfl rfl (bQ (bZ 2 rfl rfl) (bQ (bZ 3 rfl rfl) bX)) rfl rfl (dX rfl (fY U_30 Z_29 (Ht rfl) (Ht rfl) rfl zo (by rw [Nat.mul_one,Nat.zero_add]))) ?_))))))))))))
    refine bY (Ei:=[(32,_)]) rfl rfl (bQ (bZ 4 rfl rfl) bX) rfl rfl (dX rfl (d4 A_29 Z_29 (Ht rfl) (j:=1) rfl)) (bY (Ei:=[(0,_)]) rfl rfl (bQ (bJ rfl rfl) bX) rfl rfl (dX rfl (cX (Ht rfl))) (bY (Ei:=[(8,_)]) rfl rfl (bQ (bJ rfl rfl) bX) rfl rfl (dX rfl (cX (Ht rfl))) (bY (Ei:=[(34,_),(35,_)]) rfl rfl (bQ (bZ 6 rfl rfl) (bQ (bZ 7 rfl rfl) bX)) rfl rfl (dX rfl (dZ U_30 Z_29 (Ht rfl) (Ht rfl) rfl (dY (dU (d:=[]) zo)))) ?_)))
    refine bY (Ei:=[(36,_)]) rfl rfl (bQ (bZ 8 rfl rfl) bX) rfl rfl (dX rfl (dJ A_29 Z_29 (Ht rfl))) (bY (Ei:=[(7,_)]) rfl rfl (bQ (bJ rfl rfl) bX) rfl rfl (dX rfl (cX (Ht rfl))) (bY (Ei:=[(37,_),(38,_)]) rfl rfl (bQ (bZ 9 rfl rfl) (bQ (bZ 10 rfl rfl) bX)) rfl rfl (dX rfl (dZ U_29 Z_51 (Ht rfl) (Ht rfl) rfl (dY (dU (d:=Qi.zero) (by rw [har]; omega))))) ?_))
    refine bY (Ei:=[(39,_)]) rfl rfl (bQ (bZ 11 rfl rfl) bX) rfl rfl (dX rfl (dJ A_51 Z_51 (Ht rfl))) (bY (Ei:=[(40,_)]) rfl rfl (bQ (bZ 12 rfl rfl) bX) rfl rfl (dX rfl (bd bC (Ht rfl))) (bY (Ei:=[(41,_)]) rfl rfl (bQ (bZ 13 rfl rfl) bX) rfl rfl (dX rfl (b7 jW Tryz.call175 ub (Ht rfl) trivial)) (bY (Ei:=[(42,_)]) rfl rfl (bQ (bZ 14 rfl rfl) bX) rfl rfl (dX rfl (aN (xs:=[.tmp 42]) U_29 Z_51 O_51 (cW (Ht rfl) cG) rfl rfl rfl)) ?_)))
    refine Y.D_app (Ei:=[(33,_),(43,_)]) rfl rfl rfl rfl (bQ (bZ 5 rfl rfl) (bQ (bZ 15 rfl rfl) bX)) rfl (jk (inf:=Tryz.t51) gt f9 rfl rfl rfl (Ht rfl) (Ht rfl) (by simp) (fun T hT=>by simp at hT; subst hT; exact El.ag rfl) (by show _ * 88 ≤ _; simp only [List.length_map,a9,List.length_cons,List.length_nil]; omega) (by simp only [List.length_map,a9,List.length_cons,List.length_nil]; omega)) ?_
    refine Y.D_done au rfl (by kernel_rfl) rfl (by simp [Y.okP]) rfl rfl (bU (bU (bU (bU (bU (bU (bU (bU (bU (bU (bU (bU (bU (bU (bU (bU (Y.F_app (fun v2=>Y.F_nil ?_))))))))))))))))))
    refine ro rfl (fY U_30 Z_29 (Ht rfl) (Ht rfl) rfl zo (by rw [Nat.mul_one,Nat.zero_add])) ?_
    refine jX Z_29 (Ht rfl) (Ht rfl) (by simp only [aH,List.length_map,bg]; omega) (j:=1) (l:=3) rfl rfl rfl ?_
    refine eX (as (cY (ro rfl (dV (Ht rfl) (cJ 1) z6) (rm rfl (eX (aO [0,1,3] rfl (by decide) (fU (i + 1,v2) he (by dsimp only; omega) (zS rfl) (aU (fun _ _ _ h=>h) (aU (fun _ _ _ h=>h) (aU (aa ((iE ar _ (gm a i k).conj).trans (congrArg _ (ie i (fun i=>(gm a i k).conj)).symm))) aY))))))))))
   ·simp only [decide_eq_false_iff_not] at he
    obtain rfl:n = i:=Nat.le_antisymm zo hi
    refine gV rfl (as (bR 1 2 rfl rfl (by decide) (by simp only [aH,List.length_map,bg]; omega) ?_))
    refine cY (ro rfl (dV (Ht rfl) (cJ 1) z6) (rm rfl (eX (aO [0,1] rfl (by decide) (fU (k + 1) hd zo (zS rfl) (aU (fun _ _ _ h=>h) (aU (aC (by rw [c9,← dn (f:=(fun k=>tab n fun i=>(gm a i k).conj))])) aY)))))))
  ·simp only [decide_eq_false_iff_not] at hd
   obtain rfl:m = k:=Nat.le_antisymm zo hk
   refine gV rfl (ts (rm rfl (ra rfl (ro rfl (cQ (cJ 0)) (eX ?_)))))
   exact dS B17 trivial [0,1] ⟨⟨_,rfl,fun _ _ _ h=>h⟩,⟨_,rfl,(aC (by rw [di]; rfl))⟩,trivial⟩ (by decide) (Bb rfl (eU rfl) (eU rfl))
theorem Fs {a:List (List Qi)} {n m:Nat} (ha:bE a n m) (hn1:1 ≤ n) (hn:n ≤ 8) (hm:m ≤ 8):az Tryz.prog 196 [b9 a] (cr [b9 (qR a n m),ap .i64 0]):=(DR ha hn1 hn hm).fun fun B _ v S V h1 h2=>Fy h1 fun u hu=>eD (s:=5) (M:=qR a n m) (a9 _ _).symm u S V hu h2
theorem AO {z:List Qi} {s:List (List Qi)} (hsh:bE s z.length z.length) (hl:z.length ≤ 8):cR Tryz.prog 93 [fP z s] [] (Nat) (fun B=>Is (.slice (some ⟨B,0,none⟩) z.length z.length)) (fun B=>[iK B 29 51 5 (aH ar (tab z.length fun i=>tab z.length fun k=>gm s i k))]) (fun _=>True):=by
 refine cR.intro Tryz.func93 rfl Tryz.ntmps93 rfl (fun cx Z=>(ts (rn rfl (fG (Ht rfl)) fun B1=>(ro rfl (cQ cV) (eX (ts (ro rfl (eJ A_32 Z_32 (Ht rfl) (i:=1) rfl rfl rfl) (ro rfl (cZ K_22 li ⟨(Ht rfl),trivial⟩) (rn rfl (bM (T:=Is (.slice none 0 0)) (i:=Tryz.t29) V_30 gr rfl rfl (Ht rfl) rfl (fun _=>rfl) trivial (by show 24 * _ ≤ _; omega) zo) fun B10=>(ra rfl (eX (cK (ts (rm rfl (ro rfl (d7 U_30 (Ht rfl)) (ro rfl (cX (cJ 0)) (eX (eG ?_))))))))))))))))))
 refine fk 2 rfl (kV (e:=51) (s:=5)) ?_
 refine aF (fun (i : Nat) => i ≤ z.length) (fun (i : Nat) => z.length - i) (fun (i : Nat) => [(1, aI B1 0), (3, Is (.slice (some ⟨B10, 0, none⟩) z.length z.length)), (12, NT .i64 z.length), (13, NT .i64 i)]) (fun (i : Nat) => [Z, box B1 32 [aS z, b9 s], iK B10 29 51 5 (aH ar (dA (fun i => tab z.length fun k => gm s i k) [] z.length i))]) 0 (Nat.zero_le _)
  (zS rfl) (aU (fun _ _ _ h=>h) (aU (fun _ _ _ h=>h) (aU (aC (by rw [← cz,fA]; exact fN ar z.length)) aY))) (fun i hi=>?_)
 refine ts (ro rfl (gX (Ht rfl) (Ht rfl)) (eX (cK (dQ (Ht rfl) (fun hd=>?_) (fun hd=>?_)))))
 ·simp only [decide_eq_true_eq] at hd
  refine j2 2 (i) rfl (ft hd) (fun v=>(cU (cK (eG (ts (rm rfl (ra rfl (eX (ts (rm rfl (ro rfl (d7 U_30 (Ht rfl)) (ro rfl (cX (cJ 0)) (eX (eG ?_))))))))))))))
  refine bA (fun (k : Nat) (v : Value) => k ≤ z.length) (fun (k : Nat) (v : Value) => z.length - k) (fun (k : Nat) (v : Value) => [(1, aI B1 0), (3, Is (.slice (some ⟨B10, 0, none⟩) z.length z.length)), (4, NT .i64 i), (12, NT .i64 z.length), (13, NT .i64 i), (17, NT .i64 z.length), (18, NT .i64 k)]) (fun (k : Nat) (v : Value) => [Z, box B1 32 [aS z, b9 s], xd B10 29 51 5 (aH ar (dA (fun i => tab z.length fun k => gm s i k) [] z.length i)) i v, aB 51 5 v ((tab k fun k => gm s i k).map ar)]) 0 v (Nat.zero_le _)
   (zS rfl) (bh.refl _) (fun k v hk=>?_)
  refine ts (ro rfl (gX (Ht rfl) (Ht rfl)) (eX (cK (dQ (Ht rfl) (fun he=>?_) (fun he=>?_)))))
  ·simp only [decide_eq_true_eq] at he
   refine cU (cK (eG (ts (rm rfl (ra rfl (eX (ts (ro rfl (eJ A_32 Z_32 (Ht rfl) (i:=1) rfl rfl rfl) (rm rfl (ro rfl (dV (Ht rfl) (cJ 1) z6) (rm rfl (ro rfl (dV (Ht rfl) (cJ 1) z6) (ro rfl (cZ Tryz.call25 (Fx (i:=(i:Int) + 1) (j:=(k:Int) + 1) hsh zo) ⟨(Ht rfl),(Ht rfl),(Ht rfl),trivial⟩) (rm rfl (ro rfl (dK (Ht rfl) rfl) (ro rfl (dK (Ht rfl) rfl) ?_))))))))))))))))
   refine rn rfl (eW (Ts:=[Is (.bool false),Is (.slice none 0 0),Is (.bool false),Is (.slice none 0 0),Is (.slice none 0 0)]) O_51 rfl (fun V=>aW zd (aW zd (aW zd (aW zd (aW zd (aG))))))) fun B6=>gQ Z_51 (Ht rfl) (Ht rfl) rfl (i:=4) rfl (aK rfl) rfl rfl (ra rfl (eX (Y.D_startA (m:=9) [] 8 3 rfl rfl (bY (Ei:=[(3,_)]) rfl rfl (bQ (bJ rfl rfl) bX) rfl rfl (dX rfl (cX (Ht rfl))) ?_))))
   refine bY (Ei:=[(4,_)]) rfl rfl (bQ (bJ rfl rfl) bX) rfl rfl (dX rfl (cX (Ht rfl))) (bY (Ei:=[(3,_)]) rfl rfl (bQ (bJ rfl rfl) bX) rfl rfl (dX rfl (cX (Ht rfl))) (bY (Ei:=[(4,_)]) rfl rfl (bQ (bJ rfl rfl) bX) rfl rfl (dX rfl (cX (Ht rfl))) (bY (Ei:=[(32,_),(33,_)]) rfl rfl (bQ (bZ 2 rfl rfl) (bQ (bZ 3 rfl rfl) bX)) rfl rfl (dX rfl (fY U_30 Z_29 (Ht rfl) (Ht rfl) rfl zo (by rw [Nat.mul_one,Nat.zero_add]))) ?_)))
   refine bY (Ei:=[(34,_)]) rfl rfl (bQ (bZ 4 rfl rfl) bX) rfl rfl (dX rfl (d4 A_29 Z_29 (Ht rfl) (j:=2) rfl)) (bY (Ei:=[(6,_)]) rfl rfl (bQ (bJ rfl rfl) bX) rfl rfl (dX rfl (eJ A_51 Z_51 (Ht rfl) (i:=4) rfl rfl rfl)) (bY (Ei:=[(36,_)]) rfl rfl (bQ (bZ 6 rfl rfl) bX) rfl rfl (dX rfl (aN (xs:=[.tmp 36]) U_29 Z_51 O_51 (cW (Ht rfl) cG) rfl rfl rfl)) (Y.D_app (Ei:=[(35,_),(37,_)]) rfl rfl rfl rfl (bQ (bZ 5 rfl rfl) (bQ (bZ 7 rfl rfl) bX)) rfl (jk (inf:=Tryz.t51) gt f9 rfl rfl rfl (Ht rfl) (Ht rfl) (by simp) (fun T hT=>by simp at hT; subst hT; exact El.ag rfl) (by show _ * 88 ≤ _; simp only [List.length_map,a9,List.length_cons,List.length_nil]; omega) (by simp only [List.length_map,a9,List.length_cons,List.length_nil]; omega)) ?_)))
   refine Y.D_done au rfl (by kernel_rfl) rfl (by simp [Y.okP]) rfl rfl (bU (bU (bU (bU (bU (bU (bU (bU (Y.F_app (fun v2=>Y.F_nil ?_))))))))))
   refine ro rfl (fY U_30 Z_29 (Ht rfl) (Ht rfl) rfl zo (by rw [Nat.mul_one,Nat.zero_add])) ?_
   refine jX Z_29 (Ht rfl) (Ht rfl) (by simp only [aH,List.length_map,bg]; omega) (j:=2) (l:=5) rfl rfl rfl ?_
   refine eX (as (cY (ro rfl (dV (Ht rfl) (cJ 1) z6) (rm rfl (eX (aO [0,1,2,5] rfl (by decide) (fU (k + 1,v2) he (by dsimp only; omega) (zS rfl) (aU (fun _ _ _ h=>h) (aU (fun _ _ _ h=>h) (aU (fun _ _ _ h=>h) (aU (aa (by rw [ie,List.map_append,zB hd he]; rfl)) aY)))))))))))
  ·simp only [decide_eq_false_iff_not] at he
   obtain rfl:k = z.length:=Nat.le_antisymm hk zo
   refine gV rfl (as (bR 2 3 rfl rfl (by decide) (by simp only [aH,List.length_map,bg]; omega) ?_))
   refine cY (ro rfl (dV (Ht rfl) (cJ 1) z6) (rm rfl (eX (aO [0,1,2] rfl (by decide) (fU (i + 1) hd zo (zS rfl) (aU (fun _ _ _ h=>h) (aU (fun _ _ _ h=>h) (aU (aC (by rw [c9,← dn (f:=(fun i=>tab z.length fun k=>gm s i k))])) aY))))))))
 ·simp only [decide_eq_false_iff_not] at hd
  obtain rfl:i = z.length:=Nat.le_antisymm hi zo
  refine gV rfl (ts (rm rfl (ra rfl (eX ?_))))
  exact dS B10 trivial [0,2] ⟨⟨_,rfl,fun _ _ _ h=>h⟩,⟨_,rfl,(aC (by rw [di]))⟩,trivial⟩ (by decide) (kn rfl (eU rfl))
theorem uz {z : List Qi} {s : List (List Qi)} (hsh : bE s z.length z.length) (hl : z.length ≤ 8) : az Tryz.prog 93 [fP z s] (b9 s) := (AO hsh hl).fun fun B _ v S V h1 h2 => by
 have h3:=eD (s:=5) (M:=tab z.length fun i=>tab z.length fun k=>gm s i k) (a9 _ _).symm v S V h1 h2
 rw [← lh hsh] at h3; exact h3
theorem Ej {z:List Qi} {s:List (List Qi)} (hl:z.length ≤ 8):az Tryz.prog 142 [fP z s] (aS z):=by
 refine az.intro Tryz.func142 rfl Tryz.ntmps142 rfl (fun cx=>(ts (rn rfl (fG (Ht rfl)) fun B1=>(ro rfl (cQ cV) (eX (ts (ro rfl (eJ A_32 Z_32 (Ht rfl) (i:=0) rfl rfl rfl) (ro rfl (cZ K_22 li ⟨(Ht rfl),trivial⟩) (rn rfl (dE (T:=ar Qi.zero) (i:=Tryz.t51) gt f9 rfl rfl (Ht rfl) rfl ez (El.ag rfl) (by show 88 * _ ≤ _; omega) zo) fun B7=>(ra rfl (eX (cK (ts (rm rfl (ro rfl (ir U_29 (Ht rfl) (i:=1) rfl (show ((List.replicate z.length (ar Qi.zero)).length:Int) = ((z.length:Nat):Int) by simp)) ?_)))))))))))))))
 refine ro rfl (cX (cJ 0)) (eX (eG ?_))
 refine bA (fun (k : Nat) (out : List Qi) => fq (fun i => gv z i) z.length out k) (fun (k : Nat) (out : List Qi) => z.length - k) (fun (k : Nat) (out : List Qi) => [(1, aI B1 0), (3, Is B7), (9, NT .i64 z.length), (10, NT .i64 k)]) (fun (k : Nat) (out : List Qi) => [box B1 32 [aS z, b9 s], aB 51 5 B7 (out.map ar)]) 0 (List.replicate z.length Qi.zero) (fq.start _ _ _)
  (zS rfl) (aU (fun _ _ _ h=>h) (aU (aa (ki ar _ _)) aY)) (fun k out hS=>?_)
 refine ts (ro rfl (gX (Ht rfl) (Ht rfl)) (eX (cK (dQ (Ht rfl) (fun hk=>?_) (fun hk=>?_)))))
 ·simp only [decide_eq_true_eq] at hk
  have hlen:=hS.len
  refine cU (cK (eG (ts (rm rfl (ra rfl (eX (cY (rm rfl (rm rfl (ro rfl (eJ A_32 Z_32 (Ht rfl) (i:=0) rfl rfl rfl) (rm rfl (ro rfl (dV (Ht rfl) (cJ 1) z6) (ro rfl (cZ Tryz.call23 (y8 (i:=(k:Int) + 1) zo) ⟨(Ht rfl),(Ht rfl),trivial⟩) (rm rfl (ro rfl (dK (Ht rfl) rfl) (ro rfl (dK (Ht rfl) rfl) (ro rfl (b6 U_29 Z_51 (Ht rfl) (Ht rfl) rfl (i:=1) rfl (by first | omega | (simp; omega)) rfl) ?_)))))))))))))))))
  refine dB Z_51 (Ht rfl) (Ht rfl) (El.ag rfl) (i:=1) rfl rfl (by first | omega | (simp; omega)) rfl (eX (as (cY (ro rfl (dV (Ht rfl) (cJ 1) z6) (rm rfl (eX (fU (k + 1,_) (hS.next hk (uI hk)) (by dsimp only; omega) (zS rfl) (aU (fun _ _ _ h=>h) (aU (aa (ce ar _ _ _)) aY)))))))))
 ·simp only [decide_eq_false_iff_not] at hk
  obtain rfl:k = z.length:=Nat.le_antisymm hS.kle zo
  have hfin:=hS.fin.trans (lY (l:=z) rfl).symm
  refine gV rfl (gJ (i:=1) (tt:=3) rfl rfl bB (ts (rm rfl (ra rfl (eX (fW rfl (fX (eU rfl) ?_)))))))
  exact (eR (by rw [hfin]))
end
section
open Go Go.RowKit
theorem kJ (v : Value) (w : World) : (method (Tryz.prog.types.size + Made.depth) 51 v "Div").run Tryz.prog w = .ok (40, v) w := by kernel_rfl
theorem fo (v : Value) (w : World) : (method (Tryz.prog.types.size + Made.depth) 51 v "Sub").run Tryz.prog w = .ok (44, v) w := by kernel_rfl
end
section
open Go Go.RowKit
theorem A8 {p c:List (List Qi)} {n m L:Nat} (hp:bE p n m) (hc:bE c m m) (hfp:aL p L) (hfc:aL c L) (hL1:1 ≤ L) (hL:L ≤ 100000) (hn1:1 ≤ n) (hm1:1 ≤ m) (hn:n ≤ 8) (hm:m ≤ 8):cR Tryz.prog 99 [b9 p,b9 c] [] (Nat) (fun B=>Is (.slice (some ⟨B,0,none⟩) n n)) (fun B=>[iK B 29 51 5 (aH ar (g7 p c))]) (fun _=>True):=by
 have hpl:=hp.1
 have hf1:=zI (n:=n) (m:=m) hfp hfc hL1 hL1 hm
 have hf2:=zY (n:=n) (m:=m) hfp hL1
 have hs1:bE (gj p c n m m) n m:=iI
 have hs2:bE (qR p n m) m n:=zq
 refine cR.intro Tryz.func99 rfl Tryz.ntmps99 rfl (fun cx Z=>(ts (ro rfl (cQ cV) (eX (cK (ts (rm rfl (ro rfl (dG U_30 (Ht rfl) a7) (ro rfl (bc (Ht rfl) (cJ 0)) (eX (dQ (Ht rfl) (fun h0=>?_) (fun h0=>?_))))))))))))
 ·simp only [decide_eq_true_eq] at h0
  omega
 ·refine cU (ts (rm rfl (rm rfl (ro rfl (cZ Tryz.call195 (EA hp hc hfp hfc hL1 hL1 zo zo hn1 hm1 hn hm hm) ⟨(Ht rfl), (Ht rfl), trivial⟩) (rm rfl (ro rfl (dK (Ht rfl) rfl) (ro rfl (dK (Ht rfl) rfl) (ra rfl (ra rfl (eX (ts (rm rfl (ro rfl (cZ Tryz.call196 (Fs hp hn1 hn hm) ⟨(Ht rfl), trivial⟩) (rm rfl (ro rfl (dK (Ht rfl) rfl) (ro rfl (dK (Ht rfl) rfl) (ra rfl (ra rfl (eX (ts (rm rfl (rm rfl (ec Tryz.call195 (va (a := gj p c n m m) (b := qR p n m) hs1 hs2 hf1 hf2 zo hL1 zo zo hn1 hm1 hn hm hn) ⟨(Ht rfl), (Ht rfl), trivial⟩ rfl (fun B28 _ => ?_))))))))))))))))))))))))
  refine rm rfl (ro rfl (dK (Ht rfl) rfl) (ro rfl (dK (Ht rfl) rfl) (ra rfl (ra rfl (eX (ts (rm rfl (ra rfl (eX ?_)))))))))
  exact dS B28 trivial [0,1] ⟨⟨_,rfl,fun _ _ _ h=>h⟩,⟨_,rfl,(aC (by rw [Ea hp hc]))⟩,trivial⟩ (by decide) (kn rfl (eU rfl))
theorem D5 {p c:List (List Qi)} {n m L:Nat} (hp:bE p n m) (hc:bE c m m) (hfp:aL p L) (hfc:aL c L) (hL1:1 ≤ L) (hL:L ≤ 100000) (hn1:1 ≤ n) (hm1:1 ≤ m) (hn:n ≤ 8) (hm:m ≤ 8):az Tryz.prog 99 [b9 p,b9 c] (b9 (g7 p c)):=(A8 hp hc hfp hfc hL1 hL hn1 hm1 hn hm).fun fun B _ v S V h1 h2=>eD (s:=5) (M:=g7 p c) (by rw [jt.1,hp.1]) v S V h1 h2
theorem yH {z:List Qi} {s c:List (List Qi)} {g t0:Qi} {L:Nat} (hz:bk z L) (hs:aL s L) (hc:aL c L) (hg:ao g L) (ht:ao t0 L) (hL1:1 ≤ L) (hL:L ≤ 4000) (hsh:bE s z.length z.length) (hch:bE c z.length z.length) (hl:z.length ≤ 8):az Tryz.prog 88 [ee z s c,ar g,ar t0] (cr [ar (me z s c g t0).1,ap .i64 (me z s c g t0).2]):=by
 haveI:=hg; haveI:=ht
 haveI hz0:ao Qi.zero 1:=ao.zero (Nat.le_refl 1)
 have d1:(dg (((1:Nat):Int)).natAbs).length = 1:=by decide
 have d2:(dg (Int.natAbs 1)).length = 1:=by decide
 have hcl:=hch.1
 refine az.intro Tryz.func88 rfl Tryz.ntmps88 rfl (fun cx=>(ts (rn rfl (fG (Ht rfl)) fun B3=>(rn rfl (fG (Ht rfl)) fun B4=>(rn rfl (fG (Ht rfl)) fun B5=>(rn rfl (eW (Ts:=[Is (.bool false),Is (.slice none 0 0),Is (.bool false),Is (.slice none 0 0),Is (.slice none 0 0)]) O_51 rfl (fun V=>aW zd (aW zd (aW zd (aW zd (aW zd (aG))))))) fun B6=>(ro rfl (cQ (cJ 0)) (eX (ts (rn rfl (eW (Ts:=[Is (.bool false),Is (.slice none 0 0),Is (.bool false),Is (.slice none 0 0),Is (.slice none 0 0)]) O_51 rfl (fun V=>aW zd (aW zd (aW zd (aW zd (aW zd (aG))))))) fun B8=>?_))))))))))
 refine eX (cK (cK (fZ (m:=6) (dp 5 rfl (eJ A_51 Z_51 (Ht rfl) (i:=2) rfl rfl rfl) (dq 18 0 rfl (cZ Tryz.call169 ri ⟨(Ht rfl),trivial⟩) (dq 19 1 rfl (co (Ht rfl)) (dq 20 2 rfl (cX (Ht rfl)) (C.D_step (Ei:=[(5,_),(21,_)]) rfl rfl (bV (bK rfl rfl) (bV (bG 3 rfl rfl) bW)) (eK rfl rfl (Ht rfl) (fun h=>eJ A_51 Z_51 (Ht rfl) (i:=2) rfl rfl rfl)) (C.D_step (Ei:=[(21,_)]) rfl rfl (bV (bG 3 rfl rfl) bW) (eK rfl rfl (Ht rfl) (fun h=>cZ K_77 (jZ (n:=0) (by decide) (by decide)) ⟨(cJ 0),trivial⟩)) ?_)))))))))
 refine fV au rfl (by kernel_rfl) (zF (aJ (aJ (aV (fQ rfl rfl (eK rfl rfl (Ht rfl) (fun h=>cZ Tryz.call76 (xR (x:=t0) (y:=Qi.zero) (M:=1) zo) ⟨(fJ rfl h),(fJ rfl h),trivial⟩)) (fQ rfl rfl (eK rfl rfl (Ht rfl) (fun h=>uh (fJ rfl h) cV)) (ro rfl (dr (Ht rfl) (fun h=>(fJ rfl h))) (eX (dQ (Ht rfl) (fun hb=>?_) (fun hb=>?_))))))))))
 ·rw [wj] at hb
  simp only [Bool.not_eq_true'] at hb
  have he:me z s c g t0 = (Qi.zero,1):=by rw [me,if_pos hb]
  refine ts (ro rfl (eJ A_51 Z_51 (Ht rfl) (i:=4) rfl rfl rfl) (gQ Z_51 (Ht rfl) (Ht rfl) rfl (i:=3) rfl (aK rfl) rfl rfl (ro rfl (cQ (cJ 1)) (eX (aE rfl (fX (fK A_51 Z_51 rfl (i:=3) rfl rfl) ?_) (fX (eU rfl) ?_))))))
  ·exact (fun v V k=>by rw [he]; exact gU v V k)
  ·exact (fun v V k=>by rw [he]; exact k)
 ·rw [wj] at hb
  simp only [Bool.not_eq_false'] at hb
  have hb2:¬ ig t0 = false:=by rw [hb]; decide
  refine cU (cK (ts (ro rfl (eZ j8 (Ht rfl) rfl) (ro rfl (eY A_30 Z_30 (Ht rfl) (i:=0) rfl rfl) (ro rfl (dG U_30 (Ht rfl) a7) (ro rfl (cu (Ht rfl) (cJ 2)) (eX (dQ (Ht rfl) (fun hd=>?_) (fun hd=>?_)))))))))
  ·have hd2 : z.length ≠ 2 := by rw [← hcl]; simpa using hd
   have he:me z s c g t0 = (Qi.zero,4):=by rw [me,if_neg hb2,if_pos hd2]
   refine ts (ro rfl (eJ A_51 Z_51 (Ht rfl) (i:=4) rfl rfl rfl) (gQ Z_51 (Ht rfl) (Ht rfl) rfl (i:=3) rfl (aK rfl) rfl rfl (ro rfl (cQ (cJ 4)) (eX (aE rfl (fX (fK A_51 Z_51 rfl (i:=3) rfl rfl) ?_) (fX (eU rfl) ?_))))))
   ·exact (fun v V k=>by rw [he]; exact gU v V k)
   ·exact (fun v V k=>by rw [he]; exact k)
  ·have hd2 : z.length = 2 := by rw [← hcl]; simpa using hd
   have hd3:¬ z.length ≠ 2:=fun h=>h hd2
   have hsh2:=hsh
   rw [hd2] at hsh hch
   have hs1:=hsh.1
   have hc1:=hch.1
   have hr0:=hsh.row (i:=0) (by decide)
   have hr1:=hsh.row (i:=1) (by decide)
   have hWf:=sA hs hg hL1
   have hW:bE (zW s g) 1 2:=⟨rfl,fun r hr=>by have:=List.mem_singleton.1 hr; subst this; rfl⟩
   have hXs:bE (g7 (zW s g) c) 1 1:=jt
   have hX0:=hXs.row (i:=0) (by decide)
   have hp1:=Gk (z:=z) zo
   haveI f1:ao (gm s 1 0) L:=hs.get hL1 1 0
   haveI f2:ao (gm s 0 0) L:=hs.get hL1 0 0
   haveI f3:ao (xG z ((1:Nat):Int)) L:=by rw [hp1]; exact hz.get hL1 0
   haveI f4:=A5 hs hc hg hL1 zo
   have hpd:gm s 1 0 * (gm s 1 0).conj * (t0 * xG z ((1:Nat):Int)) * (qW - g * g.conj) = rS z s g t0:=by rw [hp1,Qi.mul_conj_norm,Qi.mul_conj_norm,rS,Qi.mul_assoc']
   refine cU (ts (ro rfl (eZ mK (Ht rfl) rfl) (ro rfl (eJ A_32 Z_32 (Ht rfl) (i:=0) rfl rfl rfl) (ro rfl (cZ Tryz.call93 (uz hsh2 zo) ⟨(Ht rfl),trivial⟩) (ro rfl (cZ K_77 (jZ (n:=1) (by decide) (by decide)) ⟨(cJ 1),trivial⟩) (ro rfl (cZ K_98 tI ⟨(Ht rfl),trivial⟩) (rn rfl (eW (Ts:=[Is (.bool false),Is (.slice none 0 0),Is (.bool false),Is (.slice none 0 0),Is (.slice none 0 0)]) O_51 rfl (fun V=>aW zd (aW zd (aW zd (aW zd (aW zd (aG))))))) fun B10=>?_)))))))
   refine ra rfl (gQ Z_51 (Ht rfl) (Ht rfl) rfl (i:=5) rfl (aK rfl) rfl rfl (eX (ts (ro rfl (eZ mK (Ht rfl) rfl) (ro rfl (eJ A_32 Z_32 (Ht rfl) (i:=0) rfl rfl rfl) (ro rfl (cZ Tryz.call23 (y8 (i:=((1:Nat):Int)) zo) ⟨(Ht rfl),(cJ 1),trivial⟩) (rm rfl (ro rfl (dK (Ht rfl) rfl) (ro rfl (dK (Ht rfl) rfl) (rn rfl (eW (Ts:=[Is (.bool false),Is (.slice none 0 0),Is (.bool false),Is (.slice none 0 0),Is (.slice none 0 0)]) O_51 rfl (fun V=>aW zd (aW zd (aW zd (aW zd (aW zd (aG))))))) fun B11=>?_))))))))))
   refine gQ Z_51 (Ht rfl) (Ht rfl) rfl (i:=6) rfl (aK rfl) rfl rfl (ra rfl (eX (cK (j5 (E':=[(3,_),(4,_),(5,_),(6,_),(7,_),(8,_),(9,_),(10,_),(11,_)]) (zS rfl) (fZ (m:=18) (dp 9 rfl (cX (Ht rfl)) (dq 44 0 rfl (dZ U_30 Z_29 (Ht rfl) (cJ 1) rfl (dY (dU (d:=[]) zo))) (dq 45 1 rfl (dJ A_29 Z_29 (Ht rfl)) (dq 46 2 rfl (dZ U_29 Z_51 (Ht rfl) (cJ 0) rfl (dY (dU (d:=Qi.zero) (by rw [hr1]; decide)))) ?_)))))))))
   refine dq 47 3 rfl (dJ A_51 Z_51 (Ht rfl)) (dq 48 4 rfl (bd bC (Ht rfl)) (dp 4 rfl (eJ A_51 Z_51 (Ht rfl) (i:=1) rfl rfl rfl) (b8 49 5 50 6 rfl (b7 cD K_45 (jc zo) (Ht rfl) ⟨(Ht rfl),trivial⟩) (dp 10 rfl (eJ A_51 Z_51 (Ht rfl) (i:=5) rfl rfl rfl) (dq 52 8 rfl (bd bC (Ht rfl)) (dp 4 rfl (eJ A_51 Z_51 (Ht rfl) (i:=1) rfl rfl rfl) (dq 54 10 rfl (bd bC (Ht rfl)) (dp 9 rfl (cX (Ht rfl)) (dq 56 12 rfl (dZ U_30 Z_29 (Ht rfl) (cJ 0) rfl (dY (dU (d:=[]) zo))) ?_)))))))))
   refine dq 57 13 rfl (dJ A_29 Z_29 (Ht rfl)) (dq 58 14 rfl (dZ U_29 Z_51 (Ht rfl) (cJ 0) rfl (dY (dU (d:=Qi.zero) (by rw [hr0]; decide)))) ?_)
   refine dq 59 15 rfl (dJ A_51 Z_51 (Ht rfl)) (b8 55 11 60 16 rfl (b7 cD K_45 (jc zo) (Ht rfl) ⟨(Ht rfl),trivial⟩) (fV au rfl (by kernel_rfl) (zF (zF (zF (zF (aJ (aJ (aV (ro rfl (b7 fo K_44 (oL zo) (Ht rfl) ⟨(Ht rfl),trivial⟩) (ro rfl (aN (xs:=[.tmp 51,.tmp 62]) U_29 Z_51 O_51 (cW (Ht rfl) (cW (Ht rfl) cG)) rfl rfl rfl) ?_)))))))))))
   refine ro rfl (aN (xs:=[.tmp 63]) U_30 Z_29 O_29 (cW (Ht rfl) cG) rfl rfl rfl) (ra rfl (eX (cK (j5 (E':=[(3,_),(4,_),(5,_),(6,_),(7,_),(8,_),(9,_),(10,_),(11,_),(13,_)]) (zS rfl) (cY (rm rfl (ro rfl (eZ j8 (Ht rfl) rfl) (ro rfl (eY A_30 Z_30 (Ht rfl) (i:=0) rfl rfl) (ro rfl (cZ Tryz.call99 (D5 (p:=zW s g) (c:=c) (n:=1) (m:=2) (L:=2 * L + 4) hW hch hWf (hc.le zo) zo zo (by decide) (by decide) (by decide) (by decide)) ⟨(Ht rfl),(Ht rfl),trivial⟩) ?_)))))))))
   refine ro rfl (dZ U_30 Z_29 (Ht rfl) (cJ 0) rfl (dY (dU (d:=[]) (by rw [hXs.1]; decide)))) ?_
   refine ro rfl (dJ A_29 Z_29 (Ht rfl)) (ro rfl (dZ U_29 Z_51 (Ht rfl) (cJ 0) rfl (dY (dU (d:=Qi.zero) (by rw [hX0]; decide)))) ?_)
   refine ro rfl (dJ A_51 Z_51 (Ht rfl)) (rn rfl (eW (Ts:=[Is (.bool false),Is (.slice none 0 0),Is (.bool false),Is (.slice none 0 0),Is (.slice none 0 0)]) O_51 rfl (fun V=>aW zd (aW zd (aW zd (aW zd (aW zd (aG))))))) fun B14=>(gQ Z_51 (Ht rfl) (Ht rfl) rfl (i:=7) rfl (aK rfl) rfl rfl (eX (cK (j5 (E':=[(3,_),(4,_),(5,_),(6,_),(7,_),(8,_),(9,_),(10,_),(11,_),(14,_)]) (zS rfl) ?_)))))
   refine fZ (m:=32) (dp 9 rfl (cX (Ht rfl)) (dq 73 0 rfl (dZ U_30 Z_29 (Ht rfl) (cJ 1) rfl (dY (dU (d:=[]) zo))) (dq 74 1 rfl (dJ A_29 Z_29 (Ht rfl)) (dq 75 2 rfl (dZ U_29 Z_51 (Ht rfl) (cJ 0) rfl (dY (dU (d:=Qi.zero) (by rw [hr1]; decide)))) ?_))))
   refine dq 76 3 rfl (dJ A_51 Z_51 (Ht rfl)) (dq 77 4 rfl (bd bC (Ht rfl)) (dp 9 rfl (cX (Ht rfl)) (dq 79 6 rfl (dZ U_30 Z_29 (Ht rfl) (cJ 1) rfl (dY (dU (d:=[]) zo))) (dq 80 7 rfl (dJ A_29 Z_29 (Ht rfl)) (dq 81 8 rfl (dZ U_29 Z_51 (Ht rfl) (cJ 0) rfl (dY (dU (d:=Qi.zero) (by rw [hr1]; decide)))) ?_)))))
   refine dq 82 9 rfl (dJ A_51 Z_51 (Ht rfl)) (dq 83 10 rfl (bd bC (Ht rfl)) (dq 84 11 rfl (b7 jW Tryz.call175 ub (Ht rfl) trivial) (b8 78 5 85 12 rfl (b7 cD K_45 (jc zo) (Ht rfl) ⟨(Ht rfl),trivial⟩) (dq 86 13 rfl (bd bC (Ht rfl)) (dp 5 rfl (eJ A_51 Z_51 (Ht rfl) (i:=2) rfl rfl rfl) (dp 11 rfl (eJ A_51 Z_51 (Ht rfl) (i:=6) rfl rfl rfl) (b8 88 15 89 16 rfl (cZ K_45 (jc zo) ⟨(Ht rfl),(Ht rfl),trivial⟩) (dq 90 17 rfl (cZ K_98 tI ⟨(Ht rfl),trivial⟩) ?_))))))))
   refine b8 87 14 91 18 rfl (b7 cD K_45 (jc zo) (Ht rfl) ⟨(Ht rfl),trivial⟩) (dq 92 19 rfl (bd bC (Ht rfl)) (dp 10 rfl (eJ A_51 Z_51 (Ht rfl) (i:=5) rfl rfl rfl) (dq 94 21 rfl (bd bC (Ht rfl)) (dp 4 rfl (eJ A_51 Z_51 (Ht rfl) (i:=1) rfl rfl rfl) (dq 96 23 rfl (bd bC (Ht rfl)) (dp 4 rfl (eJ A_51 Z_51 (Ht rfl) (i:=1) rfl rfl rfl) (dq 98 25 rfl (bd bC (Ht rfl)) (dq 99 26 rfl (b7 jW Tryz.call175 ub (Ht rfl) trivial) (b8 97 24 100 27 rfl (b7 cD K_45 (jc zo) (Ht rfl) ⟨(Ht rfl),trivial⟩) ?_)))))))))
   refine b8 95 22 101 28 rfl (b7 fo K_44 (oL zo) (Ht rfl) ⟨(Ht rfl),trivial⟩) (b8 93 20 102 29 rfl (b7 cD K_45 (jc zo) (Ht rfl) ⟨(Ht rfl),trivial⟩) (C.D_new (Ei:=[]) rfl rfl rfl bW (eW (Ts:=[Is (.bool false),Is (.slice none 0 0),Is (.bool false),Is (.slice none 0 0),Is (.slice none 0 0)]) O_51 rfl (fun V=>aW zd (aW zd (aW zd (aW zd (aW zd (aG))))))) (fV au rfl (by kernel_rfl) (zF (zF (zF (zF (zF (zF (zF (aJ (aJ (aJ (C.F_new (fun B15=>aV ?_)))))))))))))))
   refine gQ Z_51 (Ht rfl) (Ht rfl) rfl (i:=8) rfl (aK rfl) rfl rfl (eX (cK (j5 (E':=[(6,_),(7,_),(8,_),(10,_),(14,_),(15,_)]) (zS rfl) (cY (ro rfl (eJ A_51 Z_51 (Ht rfl) (i:=7) rfl rfl rfl) (ro rfl (bd bC (Ht rfl)) (ro rfl (eJ A_51 Z_51 (Ht rfl) (i:=8) rfl rfl rfl) (ro rfl (b7 kJ Tryz.call40 (yS (x:=Ai s c g) (y:=gm s 1 0 * (gm s 1 0).conj * (t0 * xG z ((1:Nat):Int)) * (qW - g * g.conj)) zo) (Ht rfl) ⟨(Ht rfl),trivial⟩) ?_))))))))
   refine rm rfl (ro rfl (dK (Ht rfl) rfl) (ro rfl (dK (Ht rfl) rfl) (rn rfl (eW (Ts:=[Is (.bool false),Is (.slice none 0 0),Is (.bool false),Is (.slice none 0 0),Is (.slice none 0 0)]) O_51 rfl (fun V=>aW zd (aW zd (aW zd (aW zd (aW zd (aG))))))) fun B16=>(gQ Z_51 (Ht rfl) (Ht rfl) rfl (i:=9) rfl (aK rfl) rfl rfl (ra rfl (eX (cK (cK (j5 (E':=[(6,_),(7,_),(8,_),(10,_),(16,_),(17,_)]) (zS rfl) ?_)))))))))
   refine cY (rm rfl (ro rfl (eP (Ht rfl) cV) (eX (dQ (Ht rfl) (fun hk=>?_) (fun hk=>?_)))))
   ·rw [hpd] at hk
    have hk2 : rS z s g t0 = Qi.zero := by
     by_cases h:rS z s g t0 = Qi.zero
     ·exact h
     ·rw [if_neg h] at hk; exact absurd hk (by decide)
    have he:me z s c g t0 = (Qi.zero,3):=by rw [me,if_neg hb2,if_neg hd3,if_pos hk2]
    refine ts (ro rfl (eJ A_51 Z_51 (Ht rfl) (i:=4) rfl rfl rfl) (gQ Z_51 (Ht rfl) (Ht rfl) rfl (i:=3) rfl (aK rfl) rfl rfl (ro rfl (cQ (cJ 3)) (eX (aE rfl (fX (fK A_51 Z_51 rfl (i:=3) rfl rfl) ?_) (fX (eU rfl) ?_))))))
    ·exact (fun v V k=>by rw [he]; exact gU v V k)
    ·exact (fun v V k=>by rw [he]; exact k)
   ·have hk2 : ¬ rS z s g t0 = Qi.zero := fun h => by rw [hpd, if_pos h] at hk; exact absurd hk (by decide)
    have he:me z s c g t0 = (qW + Ai s c g / rS z s g t0,0):=by rw [me,if_neg hb2,if_neg hd3,if_neg hk2]
    have hv:qW + Ai s c g / (gm s 1 0 * (gm s 1 0).conj * (t0 * xG z ((1:Nat):Int)) * (qW - g * g.conj)) = (me z s c g t0).1:=by rw [he,hpd]
    refine cU (ts (ro rfl (eJ A_51 Z_51 (Ht rfl) (i:=5) rfl rfl rfl) (ro rfl (bd bC (Ht rfl)) (ro rfl (eJ A_51 Z_51 (Ht rfl) (i:=9) rfl rfl rfl) (ro rfl (b7 kK Tryz.call46 (vB zo) (Ht rfl) ⟨(Ht rfl),trivial⟩) (gQ Z_51 (Ht rfl) (Ht rfl) rfl (i:=3) rfl (aK rfl) rfl rfl (ro rfl (cQ (cJ 0)) (eX (aE rfl (fX (fK A_51 Z_51 rfl (i:=3) rfl rfl) ?_) (fX (eU rfl) ?_))))))))))
    ·exact (fH hv)
    ·exact (fun v V k=>by rw [he]; exact k)
end
section
open Go Go.RowKit
theorem Cg {n:Nat} (h:n < 4294967296):az Tryz.prog 278 [NT .u64 1,NT .u64 n] (cr [NT .u64 0,NT .u64 n]):=by
 refine az.intro Tryz.func278 rfl Tryz.ntmps278 rfl (fun cx=>(ts (ro rfl (cQ (cJ 0)) (ro rfl (cQ (cJ 0)) (eX (ts (rm rfl (ro rfl (al.nat (kL rfl (Ht rfl) (cJ 4294967295) z7 z7) (show (1:Nat) &&& 4294967295 = 1 by decide)) (ra rfl (eX (ts (rm rfl (ro rfl (al.nat (c4 (Ht rfl) (cJ 32) (by decide)) (show (1:Nat) / 2 ^ 32 = 0 by decide)) (ra rfl (eX (ts (rm rfl (ro rfl (al.nat (kL rfl (Ht rfl) (cJ 4294967295) z7 z7) (show n &&& 4294967295 = n from (Nat.and_two_pow_sub_one_eq_mod n 32).trans (Nat.mod_eq_of_lt h))) ?_))))))))))))))))))
 refine ra rfl (eX (ts (rm rfl (ro rfl (al.nat (c4 (Ht rfl) (cJ 32) (by decide)) (show n / 2 ^ 32 = 0 from Nat.div_eq_of_lt h)) (ra rfl (eX (ts (rm rfl (rm rfl (ro rfl (al.nat (f6 (Ht rfl) (Ht rfl) z7) (Nat.one_mul n)) (ra rfl (eX (ts (rm rfl (rm rfl (ro rfl (al.nat (f6 (Ht rfl) (Ht rfl) z7) (Nat.zero_mul n)) (rm rfl (ro rfl (al.nat (c4 (Ht rfl) (cJ 32) (by decide)) (show n / 2 ^ 32 = 0 from Nat.div_eq_of_lt h)) ?_))))))))))))))))))
 refine ro rfl (dV (Ht rfl) (Ht rfl) z7) (ra rfl (eX (ts (rm rfl (ro rfl (al.nat (kL rfl (Ht rfl) (cJ 4294967295) z7 z7) (show (0 + 0:Nat) &&& 4294967295 = 0 by decide)) (ra rfl (eX (ts (rm rfl (ro rfl (al.nat (c4 (Ht rfl) (cJ 32) (by decide)) (show (0 + 0:Nat) / 2 ^ 32 = 0 by decide)) (ra rfl (eX (ts (rm rfl (rm rfl (rm rfl ?_))))))))))))))))
 refine ro rfl (al.nat (f6 (Ht rfl) (Ht rfl) z7) (show (1 * 0:Nat) = 0 by decide)) (ro rfl (dV (Ht rfl) (Ht rfl) z7) (ra rfl (eX (ts (rm rfl (rm rfl (ro rfl (al.nat (f6 (Ht rfl) (Ht rfl) z7) (show (0 * 0:Nat) = 0 by decide)) (rm rfl (ro rfl (dV (Ht rfl) (Ht rfl) z7) ?_)))))))))
 refine rm rfl (ro rfl (al.nat (c4 (Ht rfl) (cJ 32) (by decide)) (show (0 + 0:Nat) / 2 ^ 32 = 0 by decide)) (ro rfl (dV (Ht rfl) (Ht rfl) z7) (ra rfl (eX (ts (rm rfl (rm rfl (ro rfl (al.nat (f6 (Ht rfl) (Ht rfl) z7) (Nat.one_mul n)) (ra rfl (eX (aE rfl (fX (eU rfl) ?_) (eU rfl))))))))))))
 exact (fC (by decide))
theorem Dh {n:Nat} (h:n < 4294967296):az Tryz.prog 251 [NT .u64 1,NT .u64 n] (cr [NT .u64 0,NT .u64 n]):=by
 refine az.intro Tryz.func251 rfl Tryz.ntmps251 rfl (fun cx=>(ts (ro rfl (cQ (cJ 0)) (ro rfl (cQ (cJ 0)) (eX (cK (dQ cV (fun hf=>?_) (fun hf=>?_))))))))
 ·exact absurd hf (by decide)
 ·refine cU (ts (rm rfl (rm rfl (ro rfl (cZ Tryz.call278 (Cg h) ⟨(Ht rfl), (Ht rfl), trivial⟩) (rm rfl (ro rfl (dK (Ht rfl) rfl) (ro rfl (dK (Ht rfl) rfl) (ra rfl (ra rfl (eX (ts (rm rfl (rm rfl (ra rfl (ra rfl (eX ?_))))))))))))))))
  exact aE rfl (eU rfl) (eU rfl)
theorem u7 {m:Nat} (h1:1 ≤ m) (hm:m ≤ 1000):cR Tryz.prog 191 [aS [Qi.zero],NT .i64 m] [] ({v:Value // bL v}) (fun v=>Is v.1) (fun v=>[aB 51 5 v.1 ((tab m fun _=>Qi.zero).map ar)]) (fun _=>True):=by
 refine cR.intro Tryz.func191 rfl Tryz.ntmps191 rfl (fun cx Z=>(ts (ro rfl (cQ cV) (eX (cK (ts (rm rfl (ro rfl (gX (Ht rfl) (cJ 0)) (eX (dQ (Ht rfl) (fun h0=>?_) (fun h0=>?_)))))))))))
 ·simp only [decide_eq_true_eq] at h0
  omega
 ·refine cU (ts (rm rfl (ro rfl (dG U_29 (Ht rfl) (show (([Qi.zero].map ar).length : Int) = ((1 : Nat) : Int) from rfl)) (ro rfl (gZ U_3 U_255 (Ht rfl) z7) (rm rfl (ro rfl (gZ U_3 U_255 (Ht rfl) z7) (ro rfl (cZ Tryz.call251 (Dh zo) ⟨(Ht rfl), (Ht rfl), trivial⟩) (rm rfl (ro rfl (dK (Ht rfl) rfl) (ro rfl (dK (Ht rfl) rfl) ?_))))))))))
  refine ra rfl (ra rfl (eX (cK (ts (rm rfl (ro rfl (bD (Ht rfl) (cJ 0)) (rm rfl (fQ rfl rfl (eK rfl rfl (Ht rfl) (fun h=>cX (Ht rfl))) (fQ rfl rfl (eK rfl rfl (Ht rfl) (fun h=>bD (fJ rfl h) (cJ 9223372036854775807))) (ro rfl (dr (Ht rfl) (fun h=>(fJ rfl h))) (eX (dQ (Ht rfl) (fun h2=>?_) (fun h2=>?_)))))))))))))
  ·simp only [Bool.or_eq_true, decide_eq_true_eq] at h2
   omega
  ·refine cU (ts (rm rfl (ro rfl (gZ U_255 U_3 (Ht rfl) z6) (vm (T := ar Qi.zero) (i := Tryz.t51) gt f9 rfl rfl (Ht rfl) rfl ez (El.ag rfl) (by show 88 * _ ≤ _; omega) zo rfl (fun B30 hB30 => (ra rfl (eX (ts (rm rfl (rm rfl (ro rfl (yR (q := 1) (T := ar Qi.zero) U_29 Z_51 (i := 1) rfl (Ht rfl) (Ht rfl) (by decide) (El.ag rfl) zo) (ra rfl (eX (cK (eG ?_)))))))))))))))
   refine aF (fun (k : Nat) => 1 ≤ k ∧ k ≤ m) (fun (k : Nat) => m - k) (fun (k : Nat) => [(7, Is B30), (8, NT .i64 k)]) (fun (k : Nat) => [Z, aB 51 5 B30 (List.replicate m (ar Qi.zero))]) (Nat.min 1 m) ⟨by show 1 ≤ min 1 m; omega, by show min 1 m ≤ m; omega⟩
    (zS rfl) (bh.refl _) (fun k ⟨hk1,hk⟩=>?_)
   refine cK (ts (rm rfl (rm rfl (ro rfl (ir U_29 (Ht rfl) (i:=1) rfl (show ((List.replicate m (ar Qi.zero)).length:Int) = ((m:Nat):Int) by simp)) (ro rfl (gX (Ht rfl) (Ht rfl)) (eX (dQ (Ht rfl) (fun hd=>?_) (fun hd=>?_))))))))
   ·simp only [decide_eq_true_eq] at hd
    have hlen:(List.replicate m (ar Qi.zero)).length = m:=by simp
    have h5:Nat.min k ((List.replicate m (ar Qi.zero)).length - k) = min k (m - k):=by rw [hlen]
    refine cU (eG (fZ (m:=8) (dp 8 rfl (cX (Ht rfl)) (dp 7 rfl (cX (Ht rfl)) (dp 8 rfl (cX (Ht rfl)) (b8 39 1 40 2 rfl (yB U_29 Z_51 (Ht rfl) (Ht rfl) rfl (i:=1) rfl (by rw [hlen]; exact hd)) ?_))))))
    refine dp 7 rfl (cX (Ht rfl)) (dp 8 rfl (cX (Ht rfl)) (b8 42 4 43 5 rfl (yG U_29 Z_51 (Ht rfl) (Ht rfl) rfl (i:=1) rfl (by rw [hlen]; omega) (by rw [hlen]; omega)) ?_))
    refine b8 41 3 44 6 rfl (u6 (T:=ar Qi.zero) U_29 Z_51 (i:=1) rfl (Ht rfl) (Ht rfl)) (fV au rfl (by kernel_rfl) (zF (zF (aV (ro rfl (dV (Ht rfl) (Ht rfl) (by show _ < 9223372036854775808; omega)) (ra rfl (eX (as (fU (k + Nat.min k ((List.replicate m (ar Qi.zero)).length - k)) ⟨by omega,by omega⟩ zo (zS rfl) (bh.refl _))))))))))
   ·refine gV rfl (ts (rm rfl (ra rfl (eX ?_))))
    exact dS ⟨B30,hB30⟩ trivial [0,1] ⟨⟨_,rfl,fun _ _ _ h=>h⟩,⟨_,rfl,(aa (by rw [fA,ki]))⟩,trivial⟩ (by decide) (kn rfl (eU rfl))
end
section
open Go Go.RowKit
theorem oG {n : Nat} {E : bn} {H : Hp} {d : Option Tmp} {t : TypeId} {pos : String} {af : Array Edge} {g : Option (Nat × Bool)} {x0 x1 : Operand} {T0 T1 T2 : Ty} (h0 : aA E x0 (bO [T0, T1])) [s1 : bx T2 1 false] (h1 : aA E x1 T2) :
  al Tryz.prog n E H ⟨d,.build 34 #[(0,x0),(1,x1)],t,pos,af,g⟩ (bO [T0,T1,T2]) :=
 ck (parts := [(0, x0), (1, x1)]) fun a V w hs => by
  obtain ⟨v0,e0,c0⟩:=h0 n V a hs
  obtain ⟨c0_0,c0_1,rfl⟩:∃ c0_0 c0_1,v0 = [c0_0,c0_1]:=nC (by simpa using c0.length)
  have p1:=h1 n V a hs
  generalize e1:a.eval x1 = v1 at p1
  have q1:=(s1.ok v1 V p1).2.2 rfl
  refine ⟨.agg #[c0_0,c0_1,v1],?_,[c0_0,c0_1,v1],rfl,aW (c0.at (i:=0) rfl rfl) (aW (c0.at (i:=1) rfl rfl) (aW (⟨p1,q1⟩) (aG)))⟩
  simp [e0,e1,Instr.build,Instr.fill,Sem.run_bind,Result.andThen,bP,q1.cells,O_34,U_34,Z_30,Z_32]
end
section
open Go Go.RowKit
theorem zy {n:Nat} (hn:n ≤ 1000):cR Tryz.prog 97 [NT .i64 n,NT .i64 n] [] (Nat) (fun B=>Is (.slice (some ⟨B,0,none⟩) n n)) (fun B=>[eC bL B 29 51 5 (aH ar (nF n n))]) (fun _=>True):=by
 refine cR.intro Tryz.func97 rfl Tryz.ntmps97 rfl (fun cx Z=>(ts (ro rfl (cQ cV) (eX (ts (rm rfl (rn rfl (bM (T:=Is (.slice none 0 0)) (i:=Tryz.t29) V_30 gr rfl rfl (Ht rfl) rfl (fun _=>rfl) trivial (by show 24 * _ ≤ _; omega) zo) fun B8=>(ra rfl (eX (cK (ts (rm rfl (ro rfl (d7 U_30 (Ht rfl)) (ro rfl (cX (cJ 0)) (eX (eG (fk 1 rfl (km bL ⟨none,0,rfl⟩ (e:=51) (s:=5)) ?_)))))))))))))))))
 refine aF (fun (k : Nat) => k ≤ n) (fun (k : Nat) => n - k) (fun (k : Nat) => [(1, NT .i64 n), (5, Is (.slice (some ⟨B8, 0, none⟩) n n)), (10, NT .i64 n), (11, NT .i64 k)]) (fun (k : Nat) => [Z, eC bL B8 29 51 5 (aH ar (dA (fun _ => (tab n fun _ => Qi.zero)) [] n k))]) 0 (Nat.zero_le _)
  (zS rfl) (aU (fun _ _ _ h=>h) (aU (aC (by rw [← cz,fA]; exact fN ar n)) aY)) (fun k hk=>?_)
 refine ts (ro rfl (gX (Ht rfl) (Ht rfl)) (eX (cK (dQ (Ht rfl) (fun hd=>?_) (fun hd=>?_)))))
 ·simp only [decide_eq_true_eq] at hd
  refine eg 1 (k) rfl (ft hd) (fun v hv=>(cU (cK (eG (ts (rm rfl (ra rfl (eX (cY (rm rfl (rm rfl (ro rfl (cZ K_77 (jZ (n:=0) (by decide) (by decide)) ⟨(cJ 0),trivial⟩) (ro rfl (cZ K_98 tI ⟨(Ht rfl),trivial⟩) (ro rfl (aN (xs:=[.tmp 17]) U_29 Z_51 O_51 (cW (Ht rfl) cG) rfl rfl rfl) (rm rfl (ec Tryz.call191 (u7 (m:=n) zo hn) ⟨(Ht rfl),(Ht rfl),trivial⟩ rfl (fun B20 _=>?_)))))))))))))))))
  have hB20:=B20.2
  refine ro rfl (fY U_30 Z_29 (Ht rfl) (Ht rfl) rfl zo (by rw [Nat.mul_one,Nat.zero_add])) ?_
  refine jX Z_29 (Ht rfl) (Ht rfl) (by simp only [aH,List.length_map,bg]; omega) (j:=1) (l:=3) rfl rfl rfl ?_
  refine eX (as (bR 1 3 rfl rfl (by decide) (by simp only [aH,List.length_map,bg]; omega) ?_))
  refine cY (ro rfl (dV (Ht rfl) (cJ 1) z6) (rm rfl (eX (aO [0,1] rfl (by decide) (fU (k + 1) hd zo (zS rfl) (aU (fun _ _ _ h=>h) (aU (aC (by rw [c9,← dn (f:=fun _=>(tab n fun _=>Qi.zero))])) aY)))))))
 ·simp only [decide_eq_false_iff_not] at hd
  obtain rfl:n = k:=Nat.le_antisymm zo hk
  refine gV rfl (ts (rm rfl (ra rfl (eX ?_))))
  exact dS B8 trivial [0,1] ⟨⟨_,rfl,fun _ _ _ h=>h⟩,⟨_,rfl,(aC (by rw [di]; rfl))⟩,trivial⟩ (by decide) (kn rfl (eU rfl))
theorem A3 {z:List Qi} {s:List (List Qi)} {L:Nat} (hz:bk z L) (hs:aL s L) (hL1:1 ≤ L) (hL:L ≤ 4000) (hsh:bE s z.length z.length) (hl1:1 ≤ z.length) (hl:z.length ≤ 8):cR Tryz.prog 160 [fP z s] [] (Nat) (fun B=>Is (.slice (some ⟨B,0,none⟩) z.length z.length)) (fun B=>[eC bL B 29 51 5 (aH ar (jn z s))]) (fun _=>True):=by
 have hs1:=hs.le (Nat.le_refl L)
 have hsl:=hsh.1
 have hD:=rT z
 have hDf:=oY hz hL1
 have hXf:=mH hs hDf hL1 (by rw [hD.1]; exact hl)
 have hX:bE (g7 s (dy z)) s.length s.length:=jt
 refine cR.intro Tryz.func160 rfl Tryz.ntmps160 rfl (fun cx Z=>(ts (rn rfl (fG (Ht rfl)) fun B1=>(ro rfl (cQ cV) (eX (cK (fZ (m:=3) (dp 1 rfl (eJ A_32 Z_32 (Ht rfl) (i:=1) rfl rfl rfl) (dq 10 0 rfl (cZ K_22 li ⟨(Ht rfl),trivial⟩) (dp 1 rfl (eJ A_32 Z_32 (Ht rfl) (i:=1) rfl rfl rfl) (fV au rfl (by kernel_rfl) (aJ (aJ (aJ (aV (ro rfl (cZ K_22 li ⟨(Ht rfl),trivial⟩) (ec Tryz.call97 (zy (n:=z.length) zo) ⟨(Ht rfl),(Ht rfl),trivial⟩ rfl (fun B14 _=>?_))))))))))))))))))
 refine ra rfl (eX (cK (ts (ro rfl (eJ A_32 Z_32 (Ht rfl) (i:=1) rfl rfl rfl) (ro rfl (cZ Tryz.call142 (Ej zo) ⟨(Ht rfl),trivial⟩) (ro rfl (dG U_29 (Ht rfl) a7) (ro rfl (cX (cJ 0)) (eX (eG ?_)))))))))
 refine aF (fun (i : Nat) => i ≤ z.length) (fun (i : Nat) => z.length - i) (fun (i : Nat) => [(1, aI B1 0), (3, Is (.slice (some ⟨B14, 0, none⟩) z.length z.length)), (16, aS z), (17, NT .i64 z.length), (18, NT .i64 i)]) (fun (i : Nat) => [Z, box B1 32 [aS z, b9 s], eC bL B14 29 51 5 (aH ar (dA (fun i => (tab z.length fun _ => Qi.zero).set i (gv z i)) (tab z.length fun _ => Qi.zero) z.length i))]) 0 (Nat.zero_le _)
  (zS rfl) (aU (fun _ _ _ h=>h) (aU (fun _ _ _ h=>h) (aU (aC (by rw [nF,cz])) aY))) (fun i hi=>?_)
 refine ts (ro rfl (gX (Ht rfl) (Ht rfl)) (eX (cK (dQ (Ht rfl) (fun hd=>?_) (fun hd=>?_)))))
 ·simp only [decide_eq_true_eq] at hd
  have hzl:=a9 z.length fun _=>Qi.zero
  refine eg 2 (i) rfl (ft hd) (fun v hv=>(cU (cK (eG (ts (rm rfl (ro rfl (dZ U_29 Z_51 (Ht rfl) (Ht rfl) rfl (dY (dU (d:=Qi.zero) hd))) (ro rfl (dJ A_51 Z_51 (Ht rfl)) (rn rfl (eW (Ts:=[Is (.bool false),Is (.slice none 0 0),Is (.bool false),Is (.slice none 0 0),Is (.slice none 0 0)]) O_51 rfl (fun V=>aW zd (aW zd (aW zd (aW zd (aW zd (aG))))))) fun B5=>(ra rfl ?_))))))))))
  refine gQ Z_51 (Ht rfl) (Ht rfl) rfl (i:=4) rfl (aK rfl) rfl rfl (eX (fZ (m:=7) (dp 3 rfl (cX (Ht rfl)) (dp 4 rfl (cX (Ht rfl)) (b8 23 0 24 1 rfl (fY U_30 Z_29 (Ht rfl) (Ht rfl) rfl zo (by rw [Nat.mul_one,Nat.zero_add])) ?_)))))
  refine dq 25 2 rfl (d4 A_29 Z_29 (Ht rfl) (j:=2) rfl) (dp 4 rfl (cX (Ht rfl)) (dp 5 rfl (eJ A_51 Z_51 (Ht rfl) (i:=4) rfl rfl rfl) (dq 28 5 rfl (cZ K_98 tI ⟨(Ht rfl),trivial⟩) (fV au rfl (by kernel_rfl) (zF (aJ (aJ (aJ (aV (ro rfl (b6 U_29 Z_51 (Ht rfl) (Ht rfl) rfl (i:=3) rfl (by simp only [List.length_map,a9]; omega) rfl) ?_))))))))))
  refine dB Z_51 (Ht rfl) (Ht rfl) (El.ag rfl) (i:=3) rfl rfl (by simp only [List.length_map,a9]; omega) rfl ?_
  refine eX (as (bR 2 3 rfl rfl (by decide) (by simp only [aH,List.length_map,bg]; omega) ?_))
  refine cY (ro rfl (dV (Ht rfl) (cJ 1) z6) (rm rfl (eX (aO [0,1,2] rfl (by decide) (fU (i + 1) hd zo (zS rfl) (aU (fun _ _ _ h=>h) (aU (fun _ _ _ h=>h) (aU (aC (by rw [← dn (f:=(fun i=>(tab z.length fun _=>Qi.zero).set i (gv z i))),← c9,← ce])) aY))))))))
 ·simp only [decide_eq_false_iff_not] at hd
  obtain rfl:i = z.length:=Nat.le_antisymm hi zo
  rw [di]
  refine gV rfl (ts (ro rfl (eJ A_32 Z_32 (Ht rfl) (i:=1) rfl rfl rfl) (ro rfl (cZ Tryz.call93 (uz hsh hl) ⟨(Ht rfl),trivial⟩) (rm rfl (EN Tryz.call99 (A8 (p:=s) (c:=dy z) (n:=z.length) (m:=z.length) (L:=L) hsh hD hs hDf hL1 zo hl1 hl1 hl hl) (j:=2) (tt:=34) rfl rfl (eD (s:=5) (M:=dy z) hD.1.symm) Eb (fun _=>inferInstance) (fun _ B hB=>by simp only [List.mem_singleton] at hB; subst hB; exact Aa) ⟨(Ht rfl),(Ht rfl),trivial⟩ rfl (fun B35 _=>(ra rfl (eX (cK (cK (gJ (i:=3) (tt:=6) rfl rfl (eD (s:=5) (M:=g7 s (dy z)) (hX.1.trans hsl).symm) ?_)))))))))))
  refine cY (rm rfl (ro rfl (dG U_30 (Ht rfl) a7) (ro rfl (cX (cJ 0)) (eX (eG (aO [0,2] rfl (by decide) ?_))))))
  refine aF (fun (i : Nat) => i ≤ z.length) (fun (i : Nat) => z.length - i) (fun (i : Nat) => [(3, Is (.slice (some ⟨B14, 0, none⟩) z.length z.length)), (36, b9 (g7 s (dy z))), (37, NT .i64 z.length), (38, NT .i64 i)]) (fun (i : Nat) => [Z, eC bL B14 29 51 5 (aH ar (eS (fun i => tab z.length fun j => gm (dy z) i j - gm (g7 s (dy z)) i j) (fun i => tab z.length fun j => gm (dy z) i j) z.length i))]) 0 (Nat.zero_le _)
   (aQ rfl (aQ rfl (aZ rfl (fC (hX.1.trans hsl)) (zS rfl)))) (aU (fun _ _ _ h=>h) (aU (aC (by rw [← eo]; exact congrArg _ (lh hD))) aY)) (fun i hi=>?_)
  refine ts (ro rfl (gX (Ht rfl) (Ht rfl)) (eX (cK (dQ (Ht rfl) (fun he=>?_) (fun he=>?_)))))
  ·simp only [decide_eq_true_eq] at he
   have hxr:=hX.row (i:=i) zo
   refine eg 1 (i) rfl (iC he) (fun v hv=>(cU (cK (eG (ts (rm rfl (ro rfl (dZ U_30 Z_29 (Ht rfl) (Ht rfl) rfl (dY (dU (d:=[]) (by rw [hX.1]; omega)))) ?_)))))))
   refine ro rfl (dJ A_29 Z_29 (Ht rfl)) (ra rfl (ra rfl (eX (ts (rm rfl (ro rfl (dG U_29 (Ht rfl) a7) (ro rfl (cX (cJ 0)) (eX (eG ?_)))))))))
   refine aF (fun (j : Nat) => j ≤ z.length) (fun (j : Nat) => z.length - j) (fun (j : Nat) => [(3, Is (.slice (some ⟨B14, 0, none⟩) z.length z.length)), (7, NT .i64 i), (8, aS ((g7 s (dy z)).getD i [])), (36, b9 (g7 s (dy z))), (37, NT .i64 z.length), (38, NT .i64 i), (44, NT .i64 z.length), (45, NT .i64 j)]) (fun (j : Nat) => [Z, iR bL B14 29 51 5 (aH ar (eS (fun i => tab z.length fun j => gm (dy z) i j - gm (g7 s (dy z)) i j) (fun i => tab z.length fun j => gm (dy z) i j) z.length i)) i v, aB 51 5 v ((eS (fun j => gm (dy z) i j - gm (g7 s (dy z)) i j) (fun j => gm (dy z) i j) z.length j).map ar)]) 0 (Nat.zero_le _)
    (aQ rfl (aQ rfl (aQ rfl (aQ rfl (aQ rfl (aQ rfl (aZ rfl (fC (hxr.trans hsl)) (zS rfl)))))))) (aU (fun _ _ _ h=>h) (aU (fun _ _ _ h=>h) (aU (aa (by rw [← eo])) aY))) (fun j hj=>?_)
   refine ts (ro rfl (gX (Ht rfl) (Ht rfl)) (eX (cK (dQ (Ht rfl) (fun hf=>?_) (fun hf=>?_)))))
   ·simp only [decide_eq_true_eq] at hf
    have hrl:=dL (fun j=>gm (dy z) i j - gm (g7 s (dy z)) i j) (fun j=>gm (dy z) i j) z.length j
    haveI f1:ao (gm (dy z) i j) L:=hDf.get hL1 i j
    haveI f2:ao (gm (g7 s (dy z)) i j) (200 * L + 300):=hXf.get zo i j
    refine cU (cK (eG (ts (rm rfl (ra rfl (eX (fZ (m:=18) (dp 3 rfl (cX (Ht rfl)) (dp 7 rfl (cX (Ht rfl)) (b8 48 0 49 1 rfl (fY U_30 Z_29 (Ht rfl) (Ht rfl) rfl zo (by rw [Nat.mul_one,Nat.zero_add])) ?_))))))))))
    refine dq 50 2 rfl (d4 A_29 Z_29 (Ht rfl) (j:=1) rfl) (dp 9 rfl (cX (Ht rfl)) (dp 3 rfl (cX (Ht rfl)) (dp 7 rfl (cX (Ht rfl)) (b8 53 5 54 6 rfl (fY U_30 Z_29 (Ht rfl) (Ht rfl) rfl zo (by rw [Nat.mul_one,Nat.zero_add])) ?_))))
    refine dq 55 7 rfl (d4 A_29 Z_29 (Ht rfl) (j:=1) rfl) (dp 9 rfl (cX (Ht rfl)) (b8 56 8 57 9 rfl (b6 U_29 Z_51 (Ht rfl) (Ht rfl) rfl (i:=2) rfl (by simp only [List.length_map,hrl]; omega) rfl) ?_))
    refine dq 58 10 rfl (gD A_51 Z_51 (Ht rfl) (i:=2) rfl rfl (dY (jp hf))) (dq 59 11 rfl (bd bC (Ht rfl)) (dp 8 rfl (cX (Ht rfl)) (dp 9 rfl (cX (Ht rfl)) (b8 61 13 62 14 rfl (dZ U_29 Z_51 (Ht rfl) (Ht rfl) rfl (dY (dU (d:=Qi.zero) (by rw [hxr]; omega)))) ?_))))
    refine dq 63 15 rfl (dJ A_51 Z_51 (Ht rfl)) (b8 60 12 64 16 rfl (b7 fo K_44 (oL zo) (Ht rfl) ⟨(Ht rfl),trivial⟩) (fV au rfl (by kernel_rfl) (zF (zF (zF (zF (aJ (aJ (aV (ro rfl (b6 U_29 Z_51 (Ht rfl) (Ht rfl) rfl (i:=2) rfl (by simp only [List.length_map,hrl]; omega) rfl) ?_))))))))))
    refine dB Z_51 (Ht rfl) (Ht rfl) (El.ag rfl) (i:=2) rfl rfl (by simp only [List.length_map,hrl]; omega) rfl ?_
    refine eX (as (cY (ro rfl (dV (Ht rfl) (cJ 1) z6) (rm rfl (eX (fU (j + 1) hf zo (zS rfl) (aU (fun _ _ _ h=>h) (aU (fun _ _ _ h=>h) (aU (aa (by rw [ce,← fl (f:=fun j=>gm (dy z) i j - gm (g7 s (dy z)) i j)])) aY)))))))))
   ·simp only [decide_eq_false_iff_not] at hf
    obtain rfl:j = z.length:=Nat.le_antisymm hj zo
    refine gV rfl (as (bR 1 2 rfl rfl (by decide) (by simp only [aH,List.length_map,dL]; omega) ?_))
    refine cY (ro rfl (dV (Ht rfl) (cJ 1) z6) (rm rfl (eX (aO [0,1] rfl (by decide) (fU (i + 1) he zo (zS rfl) (aU (fun _ _ _ h=>h) (aU (aC (by rw [c9,fm,← fl (f:=(fun i=>tab z.length fun j=>gm (dy z) i j - gm (g7 s (dy z)) i j))])) aY)))))))
  ·simp only [decide_eq_false_iff_not] at he
   obtain rfl:i = z.length:=Nat.le_antisymm hi zo
   refine gV rfl (ts (rm rfl (ra rfl (eX ?_))))
   exact dS B14 trivial [0,1] ⟨⟨_,rfl,fun _ _ _ h=>h⟩,⟨_,rfl,(aC (by rw [fm]; rfl))⟩,trivial⟩ (by decide) (kn rfl (eU rfl))
theorem F1 {z:List Qi} {s:List (List Qi)} {t:Qi} {L:Nat} (hz:bk z L) (hs:aL s L) (ht:ao t L) (hL1:1 ≤ L) (hL:L ≤ 4000) (hsh:bE s z.length z.length) (hl1:1 ≤ z.length) (hl:z.length ≤ 8):az Tryz.prog 57 [fP z s,ar t] (cr [ee (bq (lK t) z) (bq (lK t) s) (bq (lK t) (ya t (jn z s) z.length)),ap .i64 (lK t)]):=by
 haveI:=ht
 have hOs:=yg z s
 have hOf:=sS hz hs hL1 hl
 refine az.intro Tryz.func57 rfl Tryz.ntmps57 rfl (fun cx=>(ts (rn rfl (fG (Ht rfl)) fun B2=>(rn rfl (fG (Ht rfl)) fun B3=>(rn rfl (eW (Ts:=[Is (.slice none 0 0),Is (.slice none 0 0),Is (.slice none 0 0)]) O_34 rfl (fun V=>aW zd (aW zd (aW zd (aG))))) fun B4=>(ro rfl (cQ (cJ 0)) (eX (cK (ts (ro rfl (eJ A_51 Z_51 (Ht rfl) (i:=1) rfl rfl rfl) (ro rfl (cZ Tryz.call159 (DB zo) ⟨(Ht rfl),trivial⟩) (ro rfl (co (Ht rfl)) ?_))))))))))))
 refine eX (dQ (Ht rfl) (fun hb=>?_) (fun hb=>?_))
 ·have he : lK t ≠ 0 := by simp only [Bool.not_eq_true'] at hb; rw [lK, hb]; decide
  have he1:lK t = 1:=by simp only [Bool.not_eq_true'] at hb; rw [lK,hb]; rfl
  refine ts (ro rfl (al.imp (ry ) nr) (gQ Z_34 (Ht rfl) (Ht rfl) rfl (i:=2) rfl (aK rfl) rfl rfl (ro rfl (cQ (cJ 1)) (eX (aE rfl (fX (fK A_34 Z_34 rfl (i:=2) rfl rfl) ?_) (fX (eU rfl) ?_))))))
  ·exact (C4 he)
  ·exact (am he1.symm)
 ·have he : lK t = 0 := by simp only [Bool.not_eq_false'] at hb; rw [lK, hb]; rfl
  refine cU (ts (ro rfl (eJ A_32 Z_32 (Ht rfl) (i:=0) rfl rfl rfl) (ec Tryz.call160 (A3 hz hs hL1 hL hsh hl1 hl) ⟨(Ht rfl),trivial⟩ rfl (fun B15 _=>(ra rfl (eX (cK (ts (rm rfl (ro rfl (d7 U_30 (Ht rfl)) (ro rfl (cX (cJ 0)) (eX (eG ?_)))))))))))))
  refine aF (fun (i : Nat) => i ≤ z.length) (fun (i : Nat) => z.length - i) (fun (i : Nat) => [(2, aI B2 0), (3, aI B3 0), (4, aI B4 0), (6, Is (.slice (some ⟨B15, 0, none⟩) z.length z.length)), (16, Is (.slice (some ⟨B15, 0, none⟩) z.length z.length)), (17, NT .i64 z.length), (18, NT .i64 i)]) (fun (i : Nat) => [box B2 32 [aS z, b9 s], box B3 51 [ab (decide (t.a < 0)), ai t.a.natAbs, ab (decide (t.b < 0)), ai t.b.natAbs, ai (du t)], box B4 34 [Is (.slice none 0 0), Is (.slice none 0 0), Is (.slice none 0 0)], eC bL B15 29 51 5 (aH ar (eS (fun i => tab z.length fun j => t * gm (jn z s) i j) (fun i => tab z.length fun j => gm (jn z s) i j) z.length i))]) 0 (Nat.zero_le _)
   (zS rfl) (aU (fun _ _ _ h=>h) (aU (fun _ _ _ h=>h) (aU (fun _ _ _ h=>h) (aU (aC (by rw [← eo]; exact congrArg _ (lh hOs))) aY)))) (fun i hi=>?_)
  refine ts (ro rfl (gX (Ht rfl) (Ht rfl)) (eX (cK (dQ (Ht rfl) (fun he2=>?_) (fun he2=>?_)))))
  ·simp only [decide_eq_true_eq] at he2
   refine eg 3 (i) rfl (iC he2) (fun v hv=>(cU (cK (eG (ts (ro rfl (fY U_30 Z_29 (Ht rfl) (Ht rfl) rfl zo (by rw [Nat.mul_one,Nat.zero_add])) ?_))))))
   refine ro rfl (d4 A_29 Z_29 (Ht rfl) (j:=3) rfl) (ra rfl (eX (ts (rm rfl (ro rfl (ir U_29 (Ht rfl) (i:=4) rfl (show (((tab z.length fun j=>gm (jn z s) i j).map ar).length:Int) = ((z.length:Nat):Int) by rw [List.length_map,a9])) (ro rfl (cX (cJ 0)) (eX (eG ?_))))))))
   refine aF (fun (j : Nat) => j ≤ z.length) (fun (j : Nat) => z.length - j) (fun (j : Nat) => [(2, aI B2 0), (3, aI B3 0), (4, aI B4 0), (6, Is (.slice (some ⟨B15, 0, none⟩) z.length z.length)), (8, Is v), (16, Is (.slice (some ⟨B15, 0, none⟩) z.length z.length)), (17, NT .i64 z.length), (18, NT .i64 i), (23, NT .i64 z.length), (24, NT .i64 j)]) (fun (j : Nat) => [box B2 32 [aS z, b9 s], box B3 51 [ab (decide (t.a < 0)), ai t.a.natAbs, ab (decide (t.b < 0)), ai t.b.natAbs, ai (du t)], box B4 34 [Is (.slice none 0 0), Is (.slice none 0 0), Is (.slice none 0 0)], iR bL B15 29 51 5 (aH ar (eS (fun i => tab z.length fun j => t * gm (jn z s) i j) (fun i => tab z.length fun j => gm (jn z s) i j) z.length i)) i v, aB 51 5 v ((eS (fun j => t * gm (jn z s) i j) (fun j => gm (jn z s) i j) z.length j).map ar)]) 0 (Nat.zero_le _)
    (zS rfl) (aU (fun _ _ _ h=>h) (aU (fun _ _ _ h=>h) (aU (fun _ _ _ h=>h) (aU (fun _ _ _ h=>h) (aU (aa (by rw [← eo])) aY))))) (fun j hj=>?_)
   refine ts (ro rfl (gX (Ht rfl) (Ht rfl)) (eX (cK (dQ (Ht rfl) (fun hf=>?_) (fun hf=>?_)))))
   ·simp only [decide_eq_true_eq] at hf
    have hrl:=dL (fun j=>t * gm (jn z s) i j) (fun j=>gm (jn z s) i j) z.length j
    haveI f1:ao (gm (jn z s) i j) (201 * L + 301):=hOf.get zo i j
    refine cU (cK (eG (ts (rm rfl (ra rfl (eX (fZ (m:=10) (dp 8 rfl (cX (Ht rfl)) (dp 9 rfl (cX (Ht rfl)) (dp 3 rfl (eJ A_51 Z_51 (Ht rfl) (i:=1) rfl rfl rfl) (dq 29 2 rfl (cZ K_98 tI ⟨(Ht rfl),trivial⟩) (dq 30 3 rfl (bd bC (Ht rfl)) (dp 8 rfl (cX (Ht rfl)) (dp 9 rfl (cX (Ht rfl)) (b8 32 5 33 6 rfl (b6 U_29 Z_51 (Ht rfl) (Ht rfl) rfl (i:=4) rfl (by simp only [List.length_map,hrl]; omega) rfl) ?_)))))))))))))))
    refine dq 34 7 rfl (gD A_51 Z_51 (Ht rfl) (i:=4) rfl rfl (dY (jp hf))) (b8 31 4 35 8 rfl (b7 cD K_45 (jc zo) (Ht rfl) ⟨(Ht rfl),trivial⟩) (fV au rfl (by kernel_rfl) (zF (zF (aJ (aJ (aV (ro rfl (b6 U_29 Z_51 (Ht rfl) (Ht rfl) rfl (i:=4) rfl (by simp only [List.length_map,hrl]; omega) rfl) ?_))))))))
    refine dB Z_51 (Ht rfl) (Ht rfl) (El.ag rfl) (i:=4) rfl rfl (by simp only [List.length_map,hrl]; omega) rfl ?_
    refine eX (as (cY (ro rfl (dV (Ht rfl) (cJ 1) z6) (rm rfl (eX (fU (j + 1) hf zo (zS rfl) (aU (fun _ _ _ h=>h) (aU (fun _ _ _ h=>h) (aU (fun _ _ _ h=>h) (aU (fun _ _ _ h=>h) (aU (aa (by rw [ce,← fl (f:=fun j=>t * gm (jn z s) i j)])) aY)))))))))))
   ·simp only [decide_eq_false_iff_not] at hf
    obtain rfl:j = z.length:=Nat.le_antisymm hj zo
    refine gV rfl (as (bR 3 4 rfl rfl (by decide) (by simp only [aH,List.length_map,dL]; omega) ?_))
    refine cY (ro rfl (dV (Ht rfl) (cJ 1) z6) (rm rfl (eX (aO [0,1,2,3] rfl (by decide) (fU (i + 1) he2 zo (zS rfl) (aU (fun _ _ _ h=>h) (aU (fun _ _ _ h=>h) (aU (fun _ _ _ h=>h) (aU (aC (by rw [c9,fm,← fl (f:=(fun i=>tab z.length fun j=>t * gm (jn z s) i j))])) aY)))))))))
  ·simp only [decide_eq_false_iff_not] at he2
   obtain rfl:i = z.length:=Nat.le_antisymm hi zo
   rw [fm]
   refine gV rfl (cK (gJ (i:=3) (tt:=6) rfl rfl (eD (s:=5) (M:=(ya t (jn z s) z.length)) sd.1.symm) (cY (ro rfl (eJ A_32 Z_32 (Ht rfl) (i:=0) rfl rfl rfl) (rm rfl (ro rfl (oG (Ht rfl) (Ht rfl)) (gQ Z_34 (Ht rfl) (Ht rfl) rfl (i:=2) rfl (aK rfl) rfl rfl (ro rfl (cQ (cJ 0)) (eX (aE rfl (fX (fK A_34 Z_34 rfl (i:=2) rfl rfl) ?_) (fX (eU rfl) ?_)))))))))))
   ·exact (yh he)
   ·exact (am he.symm)
end
section
open Go Go.RowKit
theorem sc {n : Nat} {E : bn} {H : Hp} {d : Option Tmp} {t : TypeId} {pos : String} {af : Array Edge} {g : Option (Nat × Bool)}  :
  al Tryz.prog n E H ⟨d,.build 102 #[],t,pos,af,g⟩ (bO [Is (.int .i64 0),Is (.int .i64 0),Is (.int .i64 0)]) :=
 ck (parts := []) fun a V w hs => by
  refine ⟨.agg #[(.int .i64 0),(.int .i64 0),(.int .i64 0)],?_,[(.int .i64 0),(.int .i64 0),(.int .i64 0)],rfl,aW (⟨rfl,trivial⟩) (aW (⟨rfl,trivial⟩) (aW (⟨rfl,trivial⟩) (aG)))⟩
  simp [Instr.build,Instr.fill,Sem.run_bind,Result.andThen,bP,O_102,U_102,Z_2]
theorem qf {n : Nat} {E : bn} {H : Hp} {d : Option Tmp} {t : TypeId} {pos : String} {af : Array Edge} {g : Option (Nat × Bool)} {x0 : Operand} {T0 : Ty} [s0 : bx T0 1 false] (h0 : aA E x0 T0) :
  al Tryz.prog n E H ⟨d,.build 102 #[(0,x0)],t,pos,af,g⟩ (bO [T0,Is (.int .i64 0),Is (.int .i64 0)]) :=
 ck (parts := [(0, x0)]) fun a V w hs => by
  have p0:=h0 n V a hs
  generalize e0:a.eval x0 = v0 at p0
  have q0:=(s0.ok v0 V p0).2.2 rfl
  refine ⟨.agg #[v0,(.int .i64 0),(.int .i64 0)],?_,[v0,(.int .i64 0),(.int .i64 0)],rfl,aW (⟨p0,q0⟩) (aW (⟨rfl,trivial⟩) (aW (⟨rfl,trivial⟩) (aG)))⟩
  simp [e0,Instr.build,Instr.fill,Sem.run_bind,Result.andThen,bP,q0.cells,O_102,U_102,Z_2]
theorem tg {n : Nat} {E : bn} {H : Hp} {d : Option Tmp} {t : TypeId} {pos : String} {af : Array Edge} {g : Option (Nat × Bool)} {x0 x2 : Operand} {T0 T2 : Ty} [s0 : bx T0 1 false] (h0 : aA E x0 T0) [s2 : bx T2 1 false] (h2 : aA E x2 T2) :
  al Tryz.prog n E H ⟨d,.build 102 #[(0,x0),(2,x2)],t,pos,af,g⟩ (bO [T0,Is (.int .i64 0),T2]) :=
 ck (parts := [(0, x0), (2, x2)]) fun a V w hs => by
  have p0:=h0 n V a hs
  generalize e0:a.eval x0 = v0 at p0
  have q0:=(s0.ok v0 V p0).2.2 rfl
  have p2:=h2 n V a hs
  generalize e2:a.eval x2 = v2 at p2
  have q2:=(s2.ok v2 V p2).2.2 rfl
  refine ⟨.agg #[v0,(.int .i64 0),v2],?_,[v0,(.int .i64 0),v2],rfl,aW (⟨p0,q0⟩) (aW (⟨rfl,trivial⟩) (aW (⟨p2,q2⟩) (aG)))⟩
  simp [e0,e2,Instr.build,Instr.fill,Sem.run_bind,Result.andThen,bP,q0.cells,q2.cells,O_102,U_102,Z_2]
end
section
open Go Go.RowKit
theorem v7  : az Tryz.prog 16 [] (ab true):=by
 refine az.intro Tryz.func16 rfl Tryz.ntmps16 rfl (fun cx=>(ts (ro rfl (cQ cV) (eX (ts (ro rfl (tg cV cV) (rn rfl (eW (Ts:=[Is (.int .i64 0),Is (.int .i64 0),Is (.int .i64 0)]) O_102 rfl (fun V=>aW zd (aW zd (aW zd (aG))))) fun B1=>(gQ Z_102 (Ht rfl) (Ht rfl) rfl (i:=0) rfl (aK rfl) rfl rfl (eX (cK (Y.D_start (m:=18) [] (bY (Ei:=[]) rfl rfl bX rfl rfl (dX rfl (qf cV)) (bY (Ei:=[]) rfl rfl bX rfl rfl (dX rfl (qf cV)) ?_)))))))))))))
 refine bY (Ei:=[(12,_),(13,_)]) rfl rfl (bQ (bZ 0 rfl rfl) (bQ (bZ 1 rfl rfl) bX)) rfl rfl (dX rfl (aN (xs:=[.tmp 12,.tmp 13]) U_22 Z_102 O_102 (cW (Ht rfl) (cW (Ht rfl) cG)) rfl rfl rfl)) (bY (Ei:=[(14,_)]) rfl rfl (bQ (bZ 2 rfl rfl) bX) rfl rfl (dX rfl (cZ Tryz.call48 (mW (l:=[FT,FT]) (by decide)) ⟨(Ht rfl),trivial⟩)) (bY (Ei:=[]) rfl rfl bX rfl rfl (dX rfl (sc )) (bY (Ei:=[(1,_)]) rfl rfl (bQ (bJ rfl rfl) bX) rfl rfl (dX rfl (eJ A_102 Z_102 (Ht rfl) (i:=0) rfl rfl rfl)) ?_)))
 refine bY (Ei:=[(16,_),(17,_)]) rfl rfl (bQ (bZ 4 rfl rfl) (bQ (bZ 5 rfl rfl) bX)) rfl rfl (dX rfl (aN (xs:=[.tmp 16,.tmp 17]) U_22 Z_102 O_102 (cW (Ht rfl) (cW (Ht rfl) cG)) rfl rfl rfl)) (bY (Ei:=[(1,_)]) rfl rfl (bQ (bJ rfl rfl) bX) rfl rfl (dX rfl (eJ A_102 Z_102 (Ht rfl) (i:=0) rfl rfl rfl)) (bY (Ei:=[]) rfl rfl bX rfl rfl (dX rfl (sc )) (bY (Ei:=[(19,_),(20,_)]) rfl rfl (bQ (bZ 7 rfl rfl) (bQ (bZ 8 rfl rfl) bX)) rfl rfl (dX rfl (aN (xs:=[.tmp 19,.tmp 20]) U_22 Z_102 O_102 (cW (Ht rfl) (cW (Ht rfl) cG)) rfl rfl rfl)) ?_)))
 refine bY (Ei:=[(18,_),(21,_)]) rfl rfl (bQ (bZ 6 rfl rfl) (bQ (bZ 9 rfl rfl) bX)) rfl rfl (dX rfl (aN (xs:=[.tmp 18,.tmp 21]) U_23 Z_22 Tryz.zeroValue22 (cW (Ht rfl) (cW (Ht rfl) cG)) rfl rfl rfl)) (bY (Ei:=[(22,_)]) rfl rfl (bQ (bZ 10 rfl rfl) bX) rfl rfl (dX rfl (cZ Tryz.call86 (n8 (m:=[[Ca,uV],[uV,Ca]]) (by decide) (by intro r hr; simp at hr; rcases hr with rfl | rfl <;> decide)) ⟨(Ht rfl),trivial⟩)) ?_)
 refine bY (Ei:=[(15,_),(23,_)]) rfl rfl (bQ (bZ 3 rfl rfl) (bQ (bZ 11 rfl rfl) bX)) rfl rfl (dX rfl (cZ Tryz.call85 (eQ (tC (z:=n0) (s:=py) (L:=2) w4 (by decide) (by decide) (by decide)) Ee) ⟨(Ht rfl),(Ht rfl),trivial⟩)) (bY (Ei:=[(24,_)]) rfl rfl (bQ (bZ 12 rfl rfl) bX) rfl rfl (dX rfl (cX (Ht rfl))) (bY (Ei:=[(11,_)]) rfl rfl (bQ (bZ 13 rfl rfl) bX) rfl rfl (dX rfl (dK (Ht rfl) rfl)) (bY (Ei:=[(11,_)]) rfl rfl (bQ (bZ 13 rfl rfl) bX) rfl rfl (dX rfl (dK (Ht rfl) rfl)) ?_)))
 refine Y.D_newp (Ei:=[]) (fun bb=>box bb 32 [aS n0,b9 py]) 17 rfl rfl rfl bX rfl rfl (by kernel_rfl) (eW (Ts:=[Is (.slice none 0 0),Is (.slice none 0 0)]) O_32 rfl (fun V=>aW zd (aW zd (aG)))) (Y.D_putN (Ei:=[(25,_)]) 16 rfl rfl rfl rfl rfl rfl (bQ (bZ 14 rfl rfl) bX) (fun bb=>k5 Z_32 (Ht rfl) (Ht rfl) rfl (i:=0) rfl (aK rfl) rfl rfl) (Y.D_done au rfl (by kernel_rfl) rfl (by simp [Y.okP]) rfl rfl (bU (bU (bU (bU (bU (bU (bU (bU (bU (bU (bU (bU (bU (bU (bU (bU (Y.F_newp (fun B2=>Y.F_putN (Y.F_nil ?_)))))))))))))))))))))
 refine ra rfl (eX (cK (Y.D_start (m:=8) [] (bY (Ei:=[(2,_)]) rfl rfl (bQ (bJ rfl rfl) bX) rfl rfl (dX rfl (eJ A_32 Z_32 (Ht rfl) (i:=1) rfl rfl rfl)) (bY (Ei:=[]) rfl rfl bX rfl rfl (dX rfl (cZ K_77 (jZ (n:=290) (by decide) (by decide)) ⟨(cJ 290),trivial⟩)) (bY (Ei:=[(28,_),(29,_)]) rfl rfl (bQ (bZ 0 rfl rfl) (bQ (bZ 1 rfl rfl) bX)) rfl rfl (dX rfl (cZ Tryz.call57 (eQ (F1 (z:=n0) (s:=py) (t:=Qi.ofInt 290) (L:=2) w4 zh yy (by decide) (by decide) zV (by decide) (by decide)) Dk) ⟨(Ht rfl),(Ht rfl),trivial⟩)) ?_))))))
 refine bY (Ei:=[(30,_)]) rfl rfl (bQ (bZ 2 rfl rfl) bX) rfl rfl (dX rfl (cX (Ht rfl))) (bY (Ei:=[(27,_)]) rfl rfl (bQ (bZ 3 rfl rfl) bX) rfl rfl (dX rfl (dK (Ht rfl) rfl)) (bY (Ei:=[(27,_)]) rfl rfl (bQ (bZ 3 rfl rfl) bX) rfl rfl (dX rfl (dK (Ht rfl) rfl)) (Y.D_newp (Ei:=[]) (fun bb=>box bb 34 [aS n0,b9 py,b9 qb]) 7 rfl rfl rfl bX rfl rfl (by kernel_rfl) (eW (Ts:=[Is (.slice none 0 0),Is (.slice none 0 0),Is (.slice none 0 0)]) O_34 rfl (fun V=>aW zd (aW zd (aW zd (aG))))) ?_)))
 refine Y.D_putN (Ei:=[(31,_)]) 6 rfl rfl rfl rfl rfl rfl (bQ (bZ 4 rfl rfl) bX) (fun bb=>k5 Z_34 (Ht rfl) (Ht rfl) rfl (i:=0) rfl (aK rfl) rfl rfl) (Y.D_done au rfl (by kernel_rfl) rfl (by simp [Y.okP]) rfl rfl (bU (bU (bU (bU (bU (bU (Y.F_newp (fun B4=>Y.F_putN (Y.F_nil ?_))))))))))
 refine ra rfl (eX (ts (ro rfl (eJ A_34 Z_34 (Ht rfl) (i:=2) rfl rfl rfl) (ro rfl (cZ Tryz.call87 (eQ (v9 (z:=n0) (s:=py) (c:=qb) (i:=((2:Nat):Int)) (j:=((2:Nat):Int)) Dx (by rw [vD.1]; decide)) Fc) ⟨(Ht rfl),(cJ 2),(cJ 2),trivial⟩) ?_))))
 refine rm rfl (ro rfl (dK (Ht rfl) rfl) (ro rfl (dK (Ht rfl) rfl) (rn rfl (eW (Ts:=[Is (.bool false),Is (.slice none 0 0),Is (.bool false),Is (.slice none 0 0),Is (.slice none 0 0)]) O_51 rfl (fun V=>aW zd (aW zd (aW zd (aW zd (aW zd (aG))))))) fun B6=>(gQ Z_51 (Ht rfl) (Ht rfl) rfl (i:=3) rfl (aK rfl) rfl rfl (ra rfl (eX (cK (Y.D_start (m:=9) [] (bY (Ei:=[(4,_)]) rfl rfl (bQ (bJ rfl rfl) bX) rfl rfl (dX rfl (eJ A_34 Z_34 (Ht rfl) (i:=2) rfl rfl rfl)) ?_)))))))))
 refine bY (Ei:=[]) rfl rfl bX rfl rfl (dX rfl (cZ K_77 (jZ (n:=0) (by decide) (by decide)) ⟨(cJ 0),trivial⟩)) (bY (Ei:=[]) rfl rfl bX rfl rfl (dX rfl (cZ K_77 (jZ (n:=290) (by decide) (by decide)) ⟨(cJ 290),trivial⟩)) (bY (Ei:=[(39,_),(40,_),(41,_)]) rfl rfl (bQ (bZ 0 rfl rfl) (bQ (bZ 1 rfl rfl) (bQ (bZ 2 rfl rfl) bX))) rfl rfl (dX rfl (cZ Tryz.call88 (eQ (yH (z:=n0) (s:=py) (c:=qb) (g:=Qi.ofInt 0) (t0:=Qi.ofInt 290) (L:=1000) (w4.le (by decide)) (zh.le (by decide)) ES (FN.le (by decide)) (yy.le (by decide)) (by decide) (by decide) zV vD (by decide)) Dn) ⟨(Ht rfl),(Ht rfl),(Ht rfl),trivial⟩)) ?_))
 refine bY (Ei:=[(42,_)]) rfl rfl (bQ (bZ 3 rfl rfl) bX) rfl rfl (dX rfl (cX (Ht rfl))) (bY (Ei:=[(38,_)]) rfl rfl (bQ (bZ 4 rfl rfl) bX) rfl rfl (dX rfl (dK (Ht rfl) rfl)) (bY (Ei:=[(38,_)]) rfl rfl (bQ (bZ 4 rfl rfl) bX) rfl rfl (dX rfl (dK (Ht rfl) rfl)) (Y.D_newp (Ei:=[]) (fun bb=>box bb 51 [ab (decide ((Qi.ofInt 4).a < 0)),ai (Qi.ofInt 4).a.natAbs,ab (decide ((Qi.ofInt 4).b < 0)),ai (Qi.ofInt 4).b.natAbs,ai (du (Qi.ofInt 4))]) 8 rfl rfl rfl bX rfl rfl (by kernel_rfl) (eW (Ts:=[Is (.bool false),Is (.slice none 0 0),Is (.bool false),Is (.slice none 0 0),Is (.slice none 0 0)]) O_51 rfl (fun V=>aW zd (aW zd (aW zd (aW zd (aW zd (aG))))))) ?_)))
 refine Y.D_putN (Ei:=[(43,_)]) 7 rfl rfl rfl rfl rfl rfl (bQ (bZ 5 rfl rfl) bX) (fun bb=>k5 Z_51 (Ht rfl) (Ht rfl) rfl (i:=0) rfl (aK rfl) rfl rfl) (Y.D_done au rfl (by kernel_rfl) rfl (by simp [Y.okP]) rfl rfl (bU (bU (bU (bU (bU (bU (bU (Y.F_newp (fun B8=>Y.F_putN (Y.F_nil ?_)))))))))))
 refine ra rfl (eX (ts (rm rfl (ro rfl (dR (Ht rfl) cV) (rm rfl (fQ rfl rfl (eK rfl rfl (Ht rfl) (fun h=>cX (Ht rfl))) (fQ rfl rfl (eK rfl rfl (Ht rfl) (fun h=>dR (fJ rfl h) cV)) (ro rfl (c7 (Ht rfl) (fun h=>(fJ rfl h))) (rm rfl (fQ rfl rfl (eK rfl rfl (Ht rfl) (fun h=>cX (Ht rfl))) (fQ rfl rfl (eK rfl rfl (Ht rfl) (fun h=>dR (fJ rfl h) cV)) (ro rfl (c7 (Ht rfl) (fun h=>(fJ rfl h))) (rm rfl (fQ rfl rfl (eK rfl rfl (Ht rfl) (fun h=>cX (Ht rfl))) (fQ rfl rfl (eK rfl rfl (Ht rfl) (fun h=>dR (fJ rfl h) cV)) ?_)))))))))))))))
 refine ro rfl (c7 (Ht rfl) (fun h=>(fJ rfl h))) (rm rfl (fQ rfl rfl (eK rfl rfl (Ht rfl) (fun h=>eJ A_51 Z_51 (Ht rfl) (i:=3) rfl rfl rfl)) (fQ rfl rfl (eK rfl rfl (Ht rfl) (fun h=>cZ Tryz.call89 (tK (x:=Qi.ofInt 10875) (L:=2) (hx:=(@fitInt 10875).le (by decide)) (by decide)) ⟨(fJ rfl h),trivial⟩)) (fQ rfl rfl (eK rfl rfl (Ht rfl) (fun h=>ur (fJ rfl h) (aA.cS (l:=[49,48,56,55,53]) rfl))) (ro rfl (c7 (Ht rfl) (fun h=>(fJ rfl h))) (rm rfl (fQ rfl rfl (eK rfl rfl (Ht rfl) (fun h=>eJ A_51 Z_51 (Ht rfl) (i:=4) rfl rfl rfl)) ?_)))))))
 refine fQ rfl rfl (eK rfl rfl (Ht rfl) (fun h=>cZ Tryz.call89 (tK (x:=Qi.ofInt 4) (L:=2) (hx:=(@fitInt 4).le (by decide)) (by decide)) ⟨(fJ rfl h),trivial⟩)) (fQ rfl rfl (eK rfl rfl (Ht rfl) (fun h=>ur (fJ rfl h) (aA.cS (l:=[52]) rfl))) (ro rfl (c7 (Ht rfl) (fun h=>(fJ rfl h))) (ra rfl (eX (fW rfl (fX (eU rfl) ?_))))))
 exact (bF (by rw [Fp,Fv]; rfl))
end
section
open Go Go.RowKit
theorem kM (a:Addr) (w:World):(Instr.fieldAt 40 (.pointer (some a)) 0).run Tryz.prog w = .ok (.pointer (some (a.add 0))) w:=by
 simp [Instr.fieldAt,Instr.sureAddr,fieldPlace,Sem.run_bind,Result.andThen,U_40,Z_38]
theorem mE (a:Addr) (w:World):(Instr.fieldAt 40 (.pointer (some a)) 1).run Tryz.prog w = .ok (.pointer (some (a.add 2))) w:=by
 simp [Instr.fieldAt,Instr.sureAddr,fieldPlace,Sem.run_bind,Result.andThen,U_40,Z_36]
end
section
open Go Go.RowKit
theorem Eo {z:List Qi} {i:Nat} (h:i < z.length):∀ v V,(cr [ar (xG z ((i + 1:Nat):Int)),ap .i64 (if 1 ≤ ((i + 1:Nat):Int) ∧ ((i + 1:Nat):Int) ≤ z.length then 0 else 1)]).p v V → (cr [ar (gv z i),ap .i64 0]).p v V:=by
 rw [show xG z ((i + 1:Nat):Int) = gv z i from uI h,if_pos zo]; exact fun _ _ h=>h
theorem CS {n:Nat} {s:List (List Qi)} {i j:Nat} (h:i < n) (k:j < n):∀ v V,(cr [ar (wL n s ((i + 1:Nat):Int) ((j + 1:Nat):Int)),ap .i64 (if (1 ≤ ((i + 1:Nat):Int) ∧ ((i + 1:Nat):Int) ≤ n) ∧ 1 ≤ ((j + 1:Nat):Int) ∧ ((j + 1:Nat):Int) ≤ n then 0 else 1)]).p v V → (cr [ar (gm s i j),ap .i64 0]).p v V:=by
 rw [show wL n s ((i + 1:Nat):Int) ((j + 1:Nat):Int) = gm s i j from zB h k,if_pos zo]; exact fun _ _ h=>h
theorem FC {z:List Qi} {s c:List (List Qi)} {L:Nat} (hz:bk z L) (hs:aL s L) (hc:aL c L) (hL1:1 ≤ L) (hL:L ≤ 8796093022208) (hsh:bE s z.length z.length) (hch:bE c z.length z.length) (hl:z.length ≤ 1000):az Tryz.prog 20 [ee z s c,gT z s c] (ab true):=by
 have hcl:=hch.1
 have hch2:bE c c.length c.length:=by rw [hcl]; exact hch
 refine az.intro Tryz.func20 rfl Tryz.ntmps20 rfl (fun cx=>(ts (rn rfl (fG (Ht rfl)) fun B2=>(rn rfl (fG (Ht rfl)) fun B3=>(ro rfl (cQ cV) (eX (ts (ro rfl (eJ A_34 Z_34 (Ht rfl) (i:=0) rfl rfl rfl) (ro rfl (cZ Tryz.call51 zQ ⟨(Ht rfl),trivial⟩) (rn rfl (eW (Ts:=[Is (.slice none 0 0),Is (.slice none 0 0)]) O_32 rfl (fun V=>aW zd (aW zd (aG)))) fun B5=>(gQ Z_32 (Ht rfl) (Ht rfl) rfl (i:=2) rfl (aK rfl) rfl rfl (eX ?_))))))))))))
 refine cK (cK (fZ (m:=15) (dp 5 rfl (eJ A_32 Z_32 (Ht rfl) (i:=2) rfl rfl rfl) (dq 16 0 rfl (cZ K_22 li ⟨(Ht rfl),trivial⟩) (dp 3 rfl (eZ kM (Ht rfl) rfl) (dq 18 2 rfl (eZ f7 (Ht rfl) rfl) (dq 19 3 rfl (eY A_35 Z_35 (Ht rfl) (i:=1) rfl rfl) (dq 20 4 rfl (dG U_35 (Ht rfl) a7) (b8 17 1 21 5 rfl (cu (Ht rfl) (Ht rfl)) (dq 22 6 rfl (cX (Ht rfl)) (C.D_step (Ei:=[(3,_),(23,_)]) rfl rfl (bV (bK rfl rfl) (bV (bG 7 rfl rfl) bW)) (eK rfl rfl (Ht rfl) (fun h=>eZ mE (Ht rfl) rfl)) ?_)))))))))))
 refine C.D_step (Ei:=[(24,_),(23,_)]) rfl rfl (bV (bG 8 rfl rfl) (bV (bG 7 rfl rfl) bW)) (eK rfl rfl (Ht rfl) (fun h=>eY A_36 Z_36 (fJ rfl h) (i:=1) rfl rfl)) (C.D_step (Ei:=[(25,_),(23,_)]) rfl rfl (bV (bG 9 rfl rfl) (bV (bG 7 rfl rfl) bW)) (eK rfl rfl (Ht rfl) (fun h=>dG U_36 (fJ rfl h) a7)) (C.D_step (Ei:=[(3,_),(23,_)]) rfl rfl (bV (bK rfl rfl) (bV (bG 7 rfl rfl) bW)) (eK rfl rfl (Ht rfl) (fun h=>eZ kM (Ht rfl) rfl)) ?_))
 refine C.D_step (Ei:=[(27,_),(23,_)]) rfl rfl (bV (bG 11 rfl rfl) (bV (bG 7 rfl rfl) bW)) (eK rfl rfl (Ht rfl) (fun h=>eZ f7 (fJ rfl h) rfl)) (C.D_step (Ei:=[(28,_),(23,_)]) rfl rfl (bV (bG 12 rfl rfl) (bV (bG 7 rfl rfl) bW)) (eK rfl rfl (Ht rfl) (fun h=>eY A_35 Z_35 (fJ rfl h) (i:=1) rfl rfl)) (C.D_step (Ei:=[(29,_),(23,_)]) rfl rfl (bV (bG 13 rfl rfl) (bV (bG 7 rfl rfl) bW)) (eK rfl rfl (Ht rfl) (fun h=>dG U_35 (fJ rfl h) a7)) ?_))
 refine fV au rfl (by kernel_rfl) (zF (zF (zF (aJ (aJ (aJ (aV (fQ rfl rfl (eK rfl rfl (Ht rfl) (fun h=>cu (fJ rfl h) (fJ rfl h))) (ro rfl (dr (Ht rfl) (fun h=>(fJ rfl h))) (eX (dP (Ht rfl) (by simp [hcl]) ?_)))))))))))
 refine cU (cK (ts (ro rfl (eZ mE (Ht rfl) rfl) (ro rfl (eY A_36 Z_36 (Ht rfl) (i:=1) rfl rfl) (ro rfl (dG U_36 (Ht rfl) a7) (ro rfl (cX (cJ 0)) (eX (eG ?_))))))))
 refine aF (fun (i : Nat) => i ≤ z.length) (fun (i : Nat) => z.length - i) (fun (i : Nat) => [(2, aI B2 0), (3, aI B3 0), (5, aI B5 0), (35, NT .i64 z.length), (36, NT .i64 i)]) (fun (i : Nat) => [box B2 34 [aS z, b9 s, b9 c], box B3 40 [iv z, QM s, QM c], box B5 32 [aS z, b9 s]]) 0 (Nat.zero_le _)
  (aQ rfl (aQ rfl (aQ rfl (aZ rfl (fC hcl) (zS rfl))))) (bh.refl _) (fun i hi=>?_)
 refine ts (ro rfl (gX (Ht rfl) (Ht rfl)) (eX (cK (dQ (Ht rfl) (fun hd=>?_) (fun hd=>?_)))))
 ·simp only [decide_eq_true_eq] at hd
  haveI f1:ao (gv z i) L:=hz.get hL1 i
  refine cU (cK (eG (ts (rm rfl (ra rfl (eX (ts (ro rfl (eJ A_32 Z_32 (Ht rfl) (i:=2) rfl rfl rfl) (rm rfl (ro rfl (dV (Ht rfl) (cJ 1) z6) (ro rfl (cZ Tryz.call23 (eQ (y8 (z:=z) (s:=s) (i:=((i + 1:Nat):Int)) zo) (Eo hd)) ⟨(Ht rfl),(Ht rfl),trivial⟩) (rm rfl (ro rfl (dK (Ht rfl) rfl) (ro rfl (dK (Ht rfl) rfl) (rn rfl (eW (Ts:=[Is (.bool false),Is (.slice none 0 0),Is (.bool false),Is (.slice none 0 0),Is (.slice none 0 0)]) O_51 rfl (fun V=>aW zd (aW zd (aW zd (aW zd (aW zd (aG))))))) fun B7=>?_)))))))))))))))
  refine gQ Z_51 (Ht rfl) (Ht rfl) rfl (i:=3) rfl (aK rfl) rfl rfl (ra rfl (eX (cK (cK (fZ (m:=10) (dp 8 rfl (cX (Ht rfl)) (dq 46 0 rfl (eP (Ht rfl) cV) (dq 47 1 rfl (cX (Ht rfl)) (C.D_step (Ei:=[(7,_),(48,_)]) rfl rfl (bV (bK rfl rfl) (bV (bG 2 rfl rfl) bW)) (eK rfl rfl (Ht rfl) (fun h=>eJ A_51 Z_51 (Ht rfl) (i:=3) rfl rfl rfl)) (C.D_step (Ei:=[(3,_),(48,_)]) rfl rfl (bV (bK rfl rfl) (bV (bG 2 rfl rfl) bW)) (eK rfl rfl (Ht rfl) (fun h=>eZ kM (Ht rfl) rfl)) ?_))))))))))
  refine C.D_step (Ei:=[(50,_),(48,_)]) rfl rfl (bV (bG 4 rfl rfl) (bV (bG 2 rfl rfl) bW)) (eK rfl rfl (Ht rfl) (fun h=>eZ f7 (fJ rfl h) rfl)) (C.D_step (Ei:=[(51,_),(48,_)]) rfl rfl (bV (bG 5 rfl rfl) (bV (bG 2 rfl rfl) bW)) (eK rfl rfl (Ht rfl) (fun h=>eY A_35 Z_35 (fJ rfl h) (i:=1) rfl rfl)) (C.D_step (Ei:=[(6,_),(48,_)]) rfl rfl (bV (bK rfl rfl) (bV (bG 2 rfl rfl) bW)) (eK rfl rfl (Ht rfl) (fun h=>cX (Ht rfl))) ?_))
  refine C.D_step (Ei:=[(52,_),(53,_),(48,_)]) rfl rfl (bV (bG 6 rfl rfl) (bV (bG 7 rfl rfl) (bV (bG 2 rfl rfl) bW))) (eK rfl rfl (Ht rfl) (fun h=>dZ U_35 Z_131 (fJ rfl h) (fJ rfl h) rfl (dY (dU (d:=Qi.zero) (by first | omega | (simp at h; omega)))))) (C.D_step (Ei:=[(54,_),(48,_)]) rfl rfl (bV (bG 8 rfl rfl) (bV (bG 2 rfl rfl) bW)) (eK rfl rfl (Ht rfl) (fun h=>dJ A_131 Z_131 (fJ rfl h))) (fV au rfl (by kernel_rfl) (zF (zF (aJ (aJ (aV ?_)))))))
  refine fQ rfl rfl (eK rfl rfl (Ht rfl) (fun h=>cZ Tryz.call80 (rN (x:=gv z i) (y:=gv z i) (L:=L) (M:=L) hL hL) ⟨(fJ rfl h),(fJ rfl h),trivial⟩)) (fQ rfl rfl (eK rfl rfl (Ht rfl) (fun h=>co (fJ rfl h))) (ro rfl (dr (Ht rfl) (fun h=>(fJ rfl h))) (eX (dP (Ht rfl) (by simp) ?_))))
  refine cU (ts (ro rfl (eZ mE (Ht rfl) rfl) (ro rfl (eY A_36 Z_36 (Ht rfl) (i:=1) rfl rfl) (ro rfl (dG U_36 (Ht rfl) a7) (ro rfl (cX (cJ 0)) (eX (eG (aO [0,1,2] rfl (by decide) ?_))))))))
  refine aF (fun (j : Nat) => j ≤ z.length) (fun (j : Nat) => z.length - j) (fun (j : Nat) => [(2, aI B2 0), (3, aI B3 0), (5, aI B5 0), (6, NT .i64 i), (35, NT .i64 z.length), (36, NT .i64 i), (61, NT .i64 z.length), (62, NT .i64 j)]) (fun (j : Nat) => [box B2 34 [aS z, b9 s, b9 c], box B3 40 [iv z, QM s, QM c], box B5 32 [aS z, b9 s]]) 0 (Nat.zero_le _)
   (aQ rfl (aQ rfl (aQ rfl (aQ rfl (aQ rfl (aQ rfl (aZ rfl (fC hcl) (zS rfl)))))))) (bh.refl _) (fun j hj=>?_)
  refine ts (ro rfl (gX (Ht rfl) (Ht rfl)) (eX (cK (dQ (Ht rfl) (fun hf=>?_) (fun hf=>?_)))))
  ·simp only [decide_eq_true_eq] at hf
   haveI f2:ao (gm s i j) L:=hs.get hL1 i j
   haveI f3:ao (gm c i j) L:=hc.get hL1 i j
   have hsr:=hsh.row hd
   have hcr:=hch.row hd
   have hs1:=hsh.1
   refine cU (cK (eG (ts (rm rfl (ra rfl (eX (ts (ro rfl (eJ A_32 Z_32 (Ht rfl) (i:=2) rfl rfl rfl) (rm rfl (ro rfl (dV (Ht rfl) (cJ 1) z6) (rm rfl (ro rfl (dV (Ht rfl) (cJ 1) z6) (ro rfl (cZ Tryz.call25 (eQ (Fx (z:=z) (s:=s) (i:=((i + 1:Nat):Int)) (j:=((j + 1:Nat):Int)) hsh zo) (CS hd hf)) ⟨(Ht rfl),(Ht rfl),(Ht rfl),trivial⟩) (rm rfl (ro rfl (dK (Ht rfl) rfl) ?_)))))))))))))))
   refine ro rfl (dK (Ht rfl) rfl) (rn rfl (eW (Ts:=[Is (.bool false),Is (.slice none 0 0),Is (.bool false),Is (.slice none 0 0),Is (.slice none 0 0)]) O_51 rfl (fun V=>aW zd (aW zd (aW zd (aW zd (aW zd (aG))))))) fun B10=>(gQ Z_51 (Ht rfl) (Ht rfl) rfl (i:=3) rfl (aK rfl) rfl rfl (ra rfl (eX (ts (ro rfl (eJ A_34 Z_34 (Ht rfl) (i:=0) rfl rfl rfl) (rm rfl (ro rfl (dV (Ht rfl) (cJ 1) z6) ?_))))))))
   refine rm rfl (ro rfl (dV (Ht rfl) (cJ 1) z6) (ro rfl (cZ Tryz.call87 (eQ (v9 (z:=z) (s:=s) (c:=c) (i:=((i + 1:Nat):Int)) (j:=((j + 1:Nat):Int)) hch2 zo) (CS zo zo)) ⟨(Ht rfl),(Ht rfl),(Ht rfl),trivial⟩) (rm rfl (ro rfl (dK (Ht rfl) rfl) (ro rfl (dK (Ht rfl) rfl) (rn rfl (eW (Ts:=[Is (.bool false),Is (.slice none 0 0),Is (.bool false),Is (.slice none 0 0),Is (.slice none 0 0)]) O_51 rfl (fun V=>aW zd (aW zd (aW zd (aW zd (aW zd (aG))))))) fun B12=>?_))))))
   refine gQ Z_51 (Ht rfl) (Ht rfl) rfl (i:=4) rfl (aK rfl) rfl rfl (ra rfl (eX (cK (fZ (m:=30) (dp 11 rfl (cX (Ht rfl)) (dq 83 0 rfl (eP (Ht rfl) cV) (dq 84 1 rfl (cX (Ht rfl)) (C.D_step (Ei:=[(13,_),(85,_)]) rfl rfl (bV (bK rfl rfl) (bV (bG 2 rfl rfl) bW)) (eK rfl rfl (Ht rfl) (fun h=>cX (Ht rfl))) (C.D_step (Ei:=[(86,_),(85,_)]) rfl rfl (bV (bG 3 rfl rfl) (bV (bG 2 rfl rfl) bW)) (eK rfl rfl (Ht rfl) (fun h=>eP (fJ rfl h) cV)) ?_)))))))))
   refine b8 85 2 87 4 rfl (dr (Ht rfl) (fun h=>(fJ rfl h))) (dq 88 5 rfl (cX (Ht rfl)) (C.D_step (Ei:=[(10,_),(89,_)]) rfl rfl (bV (bK rfl rfl) (bV (bG 6 rfl rfl) bW)) (eK rfl rfl (Ht rfl) (fun h=>eJ A_51 Z_51 (Ht rfl) (i:=3) rfl rfl rfl)) (C.D_step (Ei:=[(3,_),(89,_)]) rfl rfl (bV (bK rfl rfl) (bV (bG 6 rfl rfl) bW)) (eK rfl rfl (Ht rfl) (fun h=>eZ kM (Ht rfl) rfl)) (C.D_step (Ei:=[(91,_),(89,_)]) rfl rfl (bV (bG 8 rfl rfl) (bV (bG 6 rfl rfl) bW)) (eK rfl rfl (Ht rfl) (fun h=>eZ kX (fJ rfl h) rfl)) ?_))))
   refine C.D_step (Ei:=[(92,_),(89,_)]) rfl rfl (bV (bG 9 rfl rfl) (bV (bG 6 rfl rfl) bW)) (eK rfl rfl (Ht rfl) (fun h=>eY A_36 Z_36 (fJ rfl h) (i:=1) rfl rfl)) (C.D_step (Ei:=[(6,_),(89,_)]) rfl rfl (bV (bK rfl rfl) (bV (bG 6 rfl rfl) bW)) (eK rfl rfl (Ht rfl) (fun h=>cX (Ht rfl))) (C.D_step (Ei:=[(93,_),(94,_),(89,_)]) rfl rfl (bV (bG 10 rfl rfl) (bV (bG 11 rfl rfl) (bV (bG 6 rfl rfl) bW))) (eK rfl rfl (Ht rfl) (fun h=>dZ U_36 Z_35 (fJ rfl h) (fJ rfl h) rfl (dY (dU (d:=[]) zo)))) ?_))
   refine C.D_step (Ei:=[(95,_),(89,_)]) rfl rfl (bV (bG 12 rfl rfl) (bV (bG 6 rfl rfl) bW)) (eK rfl rfl (Ht rfl) (fun h=>dJ A_35 Z_35 (fJ rfl h))) (C.D_step (Ei:=[(9,_),(89,_)]) rfl rfl (bV (bK rfl rfl) (bV (bG 6 rfl rfl) bW)) (eK rfl rfl (Ht rfl) (fun h=>cX (Ht rfl))) (C.D_step (Ei:=[(96,_),(97,_),(89,_)]) rfl rfl (bV (bG 13 rfl rfl) (bV (bG 14 rfl rfl) (bV (bG 6 rfl rfl) bW))) (eK rfl rfl (Ht rfl) (fun h=>dZ U_35 Z_131 (fJ rfl h) (fJ rfl h) rfl (dY (dU (d:=Qi.zero) zo)))) ?_))
   refine C.D_step (Ei:=[(98,_),(89,_)]) rfl rfl (bV (bG 15 rfl rfl) (bV (bG 6 rfl rfl) bW)) (eK rfl rfl (Ht rfl) (fun h=>dJ A_131 Z_131 (fJ rfl h))) (C.D_step (Ei:=[(90,_),(99,_),(89,_)]) rfl rfl (bV (bG 7 rfl rfl) (bV (bG 16 rfl rfl) (bV (bG 6 rfl rfl) bW))) (eK rfl rfl (Ht rfl) (fun h=>cZ Tryz.call80 (rN (x:=gm s i j) (y:=gm s i j) (L:=L) (M:=L) hL hL) ⟨(fJ rfl h),(fJ rfl h),trivial⟩)) (C.D_step (Ei:=[(100,_),(89,_)]) rfl rfl (bV (bG 17 rfl rfl) (bV (bG 6 rfl rfl) bW)) (eK rfl rfl (Ht rfl) (fun h=>co (fJ rfl h))) ?_))
   refine b8 89 6 101 18 rfl (dr (Ht rfl) (fun h=>(fJ rfl h))) (dq 102 19 rfl (cX (Ht rfl)) (C.D_step (Ei:=[(12,_),(103,_)]) rfl rfl (bV (bK rfl rfl) (bV (bG 20 rfl rfl) bW)) (eK rfl rfl (Ht rfl) (fun h=>eJ A_51 Z_51 (Ht rfl) (i:=4) rfl rfl rfl)) (C.D_step (Ei:=[(3,_),(103,_)]) rfl rfl (bV (bK rfl rfl) (bV (bG 20 rfl rfl) bW)) (eK rfl rfl (Ht rfl) (fun h=>eZ mE (Ht rfl) rfl)) (C.D_step (Ei:=[(105,_),(103,_)]) rfl rfl (bV (bG 22 rfl rfl) (bV (bG 20 rfl rfl) bW)) (eK rfl rfl (Ht rfl) (fun h=>eY A_36 Z_36 (fJ rfl h) (i:=1) rfl rfl)) ?_))))
   refine C.D_step (Ei:=[(6,_),(103,_)]) rfl rfl (bV (bK rfl rfl) (bV (bG 20 rfl rfl) bW)) (eK rfl rfl (Ht rfl) (fun h=>cX (Ht rfl))) (C.D_step (Ei:=[(106,_),(107,_),(103,_)]) rfl rfl (bV (bG 23 rfl rfl) (bV (bG 24 rfl rfl) (bV (bG 20 rfl rfl) bW))) (eK rfl rfl (Ht rfl) (fun h=>dZ U_36 Z_35 (fJ rfl h) (fJ rfl h) rfl (dY (dU (d:=[]) zo)))) (C.D_step (Ei:=[(108,_),(103,_)]) rfl rfl (bV (bG 25 rfl rfl) (bV (bG 20 rfl rfl) bW)) (eK rfl rfl (Ht rfl) (fun h=>dJ A_35 Z_35 (fJ rfl h))) ?_))
   refine C.D_step (Ei:=[(9,_),(103,_)]) rfl rfl (bV (bK rfl rfl) (bV (bG 20 rfl rfl) bW)) (eK rfl rfl (Ht rfl) (fun h=>cX (Ht rfl))) (C.D_step (Ei:=[(109,_),(110,_),(103,_)]) rfl rfl (bV (bG 26 rfl rfl) (bV (bG 27 rfl rfl) (bV (bG 20 rfl rfl) bW))) (eK rfl rfl (Ht rfl) (fun h=>dZ U_35 Z_131 (fJ rfl h) (fJ rfl h) rfl (dY (dU (d:=Qi.zero) zo)))) (C.D_step (Ei:=[(111,_),(103,_)]) rfl rfl (bV (bG 28 rfl rfl) (bV (bG 20 rfl rfl) bW)) (eK rfl rfl (Ht rfl) (fun h=>dJ A_131 Z_131 (fJ rfl h))) ?_))
   refine fV au rfl (by kernel_rfl) (zF (zF (zF (zF (zF (zF (zF (aJ (aJ (aV (fQ rfl rfl (eK rfl rfl (Ht rfl) (fun h=>cZ Tryz.call80 (rN (x:=gm c i j) (y:=gm c i j) (L:=L) (M:=L) hL hL) ⟨(fJ rfl h),(fJ rfl h),trivial⟩)) (fQ rfl rfl (eK rfl rfl (Ht rfl) (fun h=>co (fJ rfl h))) ?_))))))))))))
   refine ro rfl (dr (Ht rfl) (fun h=>(fJ rfl h))) (eX (dP (Ht rfl) (by simp) ?_))
   refine cU (as (cY (ro rfl (dV (Ht rfl) (cJ 1) z6) (rm rfl (eX (aO [0,1,2] rfl (by decide) (fU (j + 1) hf zo (zS rfl) (bh.refl _))))))))
  ·refine gV rfl (as (cY (ro rfl (dV (Ht rfl) (cJ 1) z6) (rm rfl (eX (aO [0,1,2] rfl (by decide) (fU (i + 1) hd zo (zS rfl) (bh.refl _))))))))
 ·refine gV rfl (ts (ro rfl (cQ cV) (eX ?_)))
  exact fW rfl (eU rfl)
end
section
open Go Go.RowKit
theorem Qi.zero_div (y:Qi):Qi.zero / y = Qi.zero:=by rw [Qi.div_def,Qi.zero_mul']
end
section
open Go Go.RowKit
theorem CD {α:Type} {l:List α} {d:α} {k:Nat} (h:k < l.length):l.getD k d = l[k]:=by simp [List.getD,h]
end
section
open Go Go.RowKit
namespace Qi
end Qi
def ed (f : Nat → Int) : Nat → Int
 | 0=>0
 | n + 1=>if ed f n ≠ 0 then ed f n else f n
theorem fw {f:Nat → Int} {k:Nat} (h:∀ i,i < k → f i = 0) (hk:f k ≠ 0):∀ {n:Nat},k < n → ed f n = f k:=by
 have hz : ed f k = 0 := by
  clear hk
  induction k with
  | zero=>rfl
  | succ k ih=>rw [ed,ih (fun i hi=>h i zo),if_neg (by simp),h k zo]
 intro n
 induction n with
 | zero=>intro h; omega
 | succ n ih =>
  intro hn
  by_cases e:n = k
  ·rw [e,ed,hz,if_neg (by simp)]
  ·rw [ed,ih zo,if_pos hk]
theorem cB {f : Nat → Int} : ∀ {n : Nat}, (∀ i, i < n → f i = 0) → ed f n = 0
 | 0,_=>rfl
 | n + 1,h=>by rw [ed,cB (fun i hi=>h i zo),if_neg (by simp),h n zo]
theorem cC {f : Nat → Int} : ∀ {n : Nat}, ed f n = 0 → ∀ i, i < n → f i = 0
 | 0,_,i,hi=>by omega
 | n + 1, h, i, hi => by
  rw [ed] at h
  split at h
  ·rename_i c; exact absurd h c
  ·rename_i c
   by_cases e:i = n
   ·rw [e]; exact h
   ·exact cC (Decidable.not_not.1 c) i zo
abbrev eF (l:List (Qi × Qi)) (i:Nat):Qi:=(l.getD i (Qi.zero,Qi.zero)).1
abbrev eV (l:List (Qi × Qi)) (i:Nat):Qi:=(l.getD i (Qi.zero,Qi.zero)).2
structure D2 (l:List (Qi × Qi)) (f:Qi):Prop where
 real:∀ i,i < l.length → (eF l i).b = 0 ∧ (eV l i).b = 0
 up:∀ i,0 < i → i < l.length → (eF l (i - 1)).re < (eF l i).re
 fr:f.b = 0
theorem D2.mono {l : List (Qi × Qi)} {f : Qi} (h : D2 l f) {i : Nat} : ∀ {j : Nat}, i < j → j < l.length → (eF l i).re < (eF l j).re
 | 0,h1,_=>by omega
 | j + 1, h1, h2 => by
  have h3:=h.up (j + 1) zo h2
  rw [Nat.add_sub_cancel] at h3
  by_cases e:i = j
  ·rw [e]; exact h3
  ·have := h.mono (i := i) (j := j) zo zo
   grind
def FE (l:List (Qi × Qi)) (L:Nat):Prop:=∀ e,e ∈ l → ao e.1 L ∧ ao e.2 L
theorem FE.get {l:List (Qi × Qi)} {L:Nat} (h:FE l L) (hL:1 ≤ L) (i:Nat):ao (eF l i) L ∧ ao (eV l i) L:=by
 by_cases hi:i < l.length
 ·have e : l.getD i (Qi.zero, Qi.zero) = l[i] := by simp [List.getD, hi]
  show ao (l.getD i _).1 L ∧ ao (l.getD i _).2 L
  rw [e]; exact h _ (List.getElem_mem hi)
 ·have e : l.getD i (Qi.zero, Qi.zero) = (Qi.zero, Qi.zero) := by simp [List.getD, List.getElem?_eq_none (Nat.le_of_not_lt hi)]
  show ao (l.getD i _).1 L ∧ ao (l.getD i _).2 L
  rw [e]; exact ⟨ao.zero hL,ao.zero hL⟩
end
section
open Go Go.RowKit
abbrev bi (M:List (List Qi)) (i:Nat):List Qi:=M.getD i []
def xF (M : List (List Qi)) (c n : Nat) : Nat → Nat
 | 0=>n
 | k + 1=>if gm M (n - (k + 1)) c = Qi.zero then xF M c n k else n - (k + 1)
def pv (M:List (List Qi)) (c n:Nat):Nat:=xF M c n (n - c)
theorem tz {M : List (List Qi)} {c n : Nat} : ∀ {k : Nat}, k ≤ n → (∀ r, n - k ≤ r → r < xF M c n k → gm M r c = Qi.zero) ∧ n - k ≤ xF M c n k ∧ xF M c n k ≤ n ∧ (xF M c n k < n → gm M (xF M c n k) c ≠ Qi.zero)
 | 0,_=>⟨fun r h1 h2=>by simp [xF] at h2; omega,by simp [xF],by simp [xF],fun h=>by simp [xF] at h⟩
 | k + 1, hk => by
  obtain ⟨i1,i2,i3,i4⟩:=tz (M:=M) (c:=c) (n:=n) (k:=k) zo
  unfold xF
  by_cases e:gm M (n - (k + 1)) c = Qi.zero
  ·rw [if_pos e]
   refine ⟨fun r h1 h2=>?_,by omega,i3,i4⟩
   by_cases e2:r = n - (k + 1)
   ·rw [e2]; exact e
   ·exact i1 r zo h2
  ·rw [if_neg e]
   exact ⟨fun r h1 h2=>by omega,Nat.le_refl _,by omega,fun _=>e⟩
theorem gl {M:List (List Qi)} {c n:Nat} (hc:c ≤ n):(∀ r,c ≤ r → r < pv M c n → gm M r c = Qi.zero) ∧ c ≤ pv M c n ∧ pv M c n ≤ n ∧ (pv M c n < n → gm M (pv M c n) c ≠ Qi.zero):=by
 have h:=tz (M:=M) (c:=c) (n:=n) (k:=n - c) zo
 rw [show n - (n - c) = c by omega] at h
 exact h
theorem CH {M:List (List Qi)} {c n p:Nat} (hc:c ≤ p) (hp:p ≤ n) (h1:∀ r,c ≤ r → r < p → gm M r c = Qi.zero) (h2:p < n → gm M p c ≠ Qi.zero):pv M c n = p:=by
 obtain ⟨i1,i2,i3,i4⟩:=gl (M:=M) (n:=n) (show c ≤ n by omega)
 rcases Nat.lt_trichotomy (pv M c n) p with h | h | h
 ·exact absurd (h1 _ i2 h) (i4 zo)
 ·exact h
 ·exact absurd (i1 p hc h) (h2 zo)
def fL (rr rc:List Qi) (c k:Nat):List Qi:=tab rr.length fun j=>if c < j ∧ j < k then gv rr j - gv rr c / gv rc c * gv rc j else gv rr j
def gB (M:List (List Qi)) (c r:Nat):List (List Qi):=tab M.length fun i=>if c < i ∧ i < r then fL (bi M i) (bi M c) c (bi M i).length else bi M i
def bp (M : List (List Qi)) : Nat → List (List Qi) × Nat × Int
 | 0=>(M,0,-1)
 | c + 1 =>
  let s:=bp M c
  if 0 ≤ s.2.2 then s else
  if pv s.1 c M.length = M.length then (s.1,s.2.1,(c:Int)) else
  (gB (if pv s.1 c M.length = c then s.1 else swp [] s.1 (pv s.1 c M.length) c) c M.length,s.2.1 + (if pv s.1 c M.length = c then 0 else 1),-1)
theorem qc {M : List (List Qi)} {c : Nat} (h : 0 ≤ (bp M c).2.2) : ∀ {d : Nat}, c ≤ d → bp M d = bp M c
 | 0,hd=>by rw [show c = 0 by omega]
 | d + 1, hd => by
  by_cases e:c = d + 1
  ·rw [e]
  ·have := qc h (d := d) zo
   simp only [bp,this]
   rw [if_pos h]
theorem ka (M:List (List Qi)) (c r:Nat):(gB M c r).length = M.length:=a9 _ _
theorem sY {M:List (List Qi)} {n m c r:Nat} (h:bE M n m):bE (gB M c r) n m:=by
 refine ⟨(ka _ _ _).trans h.1,fun x hx=>?_⟩
 obtain ⟨i,hi,rfl⟩:=dz.1 hx
 have hr:=h.row (i:=i) (by rw [← h.1]; exact hi)
 show (if c < i ∧ i < r then fL (bi M i) (bi M c) c (bi M i).length else bi M i).length = m
 split
 ·rw [fL,a9]; exact hr
 ·exact hr
theorem lW {M:List (List Qi)} {n m p c:Nat} (h:bE M n m) (hp:p < n) (hc:c < n):bE (swp [] M p c) n m:=by
 refine ⟨(r9 _ _ _ _).trans h.1,fun x hx=>?_⟩
 unfold swp at hx
 rcases List.mem_or_eq_of_mem_set hx with h1 | h1
 ·rcases List.mem_or_eq_of_mem_set h1 with h2 | h2
  ·exact h.2 x h2
  ·rw [h2]; exact h.row hc
 ·rw [h1]; exact h.row hp
theorem jq {M : List (List Qi)} {n m : Nat} (h : bE M n m) : ∀ {c : Nat}, c ≤ n → bE (bp M c).1 n m
 | 0,_=>h
 | c + 1, hc => by
  have ih:=jq h (c:=c) zo
  obtain ⟨_,_,i3,_⟩:=gl (M:=(bp M c).1) (c:=c) (n:=M.length) (by rw [h.1]; omega)
  simp only [bp]
  split
  ·exact ih
  ·split
   ·exact ih
   ·rename_i e
    apply sY
    split
    ·exact ih
    ·exact lW ih (by rw [← h.1]; omega) zo
def b5 (L : Nat) : Nat → Nat
 | 0=>L
 | c + 1=>6 * b5 L c + 4
theorem fv (L : Nat) : ∀ {c d : Nat}, c ≤ d → b5 L c ≤ b5 L d
 | c,0,h=>by rw [show c = 0 by omega]; exact Nat.le_refl _
 | c, d + 1, h => by
  by_cases e:c = d + 1
  ·rw [e]; exact Nat.le_refl _
  ·have := fv L (c := c) (d := d) zo
   simp only [b5]; omega
theorem it (L c:Nat):L ≤ b5 L c:=fv L (Nat.zero_le c)
theorem vT {rr rc:List Qi} {L c j:Nat} (h1:bk rr L) (h2:bk rc L) (hL:1 ≤ L) (hp:gv rc c ≠ Qi.zero):ao (gv rr j - gv rr c / gv rc c * gv rc j) (6 * L + 4):=by
 haveI f1:=h1.get hL j; haveI f2:=h1.get hL c; haveI f3:=h2.get hL c; haveI f4:=h2.get hL j
 haveI g:ao (gv rr c / gv rc c) (L + 3 * L + 2):=⟨f2.fit.div f3.fit hp⟩
 have:ao (gv rr j - gv rr c / gv rc c * gv rc j) (L + (L + 3 * L + 2 + L + 1) + 1):=inferInstance
 exact this.le zo
theorem Ah {rr rc : List Qi} {L c k : Nat} (h1 : bk rr L) (h2 : bk rc L) (hL : 1 ≤ L) (hp : gv rc c ≠ Qi.zero) : bk (fL rr rc c k) (6 * L + 4) := bk.tab fun j _ => by
 split
 ·exact vT h1 h2 hL hp
 ·exact (h1.get hL j).le zo
theorem tp {M : List (List Qi)} {L c r : Nat} (h : aL M L) (hL : 1 ≤ L) (hp : gm M c c ≠ Qi.zero) : aL (gB M c r) (6 * L + 4) := fun x hx => by
 obtain ⟨i,hi,rfl⟩:=dz.1 hx
 show bk (if c < i ∧ i < r then fL (bi M i) (bi M c) c (bi M i).length else bi M i) _
 split
 ·exact Ah (h.row i) (h.row c) hL hp
 ·exact (h.row i).le zo
theorem nV {M : List (List Qi)} {L p c : Nat} (h : aL M L) : aL (swp [] M p c) L := fun x hx => by
 unfold swp at hx
 rcases List.mem_or_eq_of_mem_set hx with h1 | h1
 ·rcases List.mem_or_eq_of_mem_set h1 with h2 | h2
  ·exact h x h2
  ·rw [h2]; exact h.row c
 ·rw [h1]; exact h.row p
theorem mR {M:List (List Qi)} {p c:Nat} (hc:c < M.length):bi (swp [] M p c) c = bi M p:=by
 simp [bi,swp,List.getD,hc]
theorem oK {M : List (List Qi)} {n m L : Nat} (hs : bE M n m) (h : aL M L) (hL : 1 ≤ L) : ∀ {c : Nat}, c ≤ n → aL (bp M c).1 (b5 L c)
 | 0,_=>h
 | c + 1, hc => by
  have ih:=oK hs h hL (c:=c) zo
  have hg:1 ≤ b5 L c:=Nat.le_trans hL (it L c)
  have sh:=jq hs (c:=c) zo
  obtain ⟨_,i2,i3,i4⟩:=gl (M:=(bp M c).1) (c:=c) (n:=M.length) (by rw [hs.1]; omega)
  simp only [bp,b5]
  split
  ·exact ih.le zo
  ·split
   ·exact ih.le zo
   ·rename_i e
    split
    ·rename_i e2
     refine tp ih hg ?_
     have:=i4 zo
     rw [e2] at this; exact this
    ·refine tp (nV ih) hg ?_
     show gv (bi (swp [] _ _ c) c) c ≠ _
     rw [mR (by rw [sh.1]; omega)]
     exact i4 zo
theorem tV {rr rc:List Qi} {c:Nat}:rr = fL rr rc c (c + 1):=by
 unfold fL
 have:(tab rr.length fun j=>if c < j ∧ j < c + 1 then gv rr j - gv rr c / gv rc c * gv rc j else gv rr j) = tab rr.length (gv rr):=bf fun j _=>by rw [if_neg zo]
 rw [this]; exact lY rfl
theorem lZ (rr rc:List Qi) (c k:Nat):(fL rr rc c k).length = rr.length:=a9 _ _
theorem tA {rr rc:List Qi} {c k:Nat} (hk:k < rr.length) (h:c < k):gv (fL rr rc c k) k = gv rr k:=by
 rw [fL,g9 hk,if_neg zo]
theorem xm {rr rc:List Qi} {c k:Nat} (hk:k < rr.length) (h:c < k):(fL rr rc c k).set k (gv (fL rr rc c k) k - gv rr c / gv rc c * gv rc k) = fL rr rc c (k + 1):=by
 rw [tA hk h]
 apply List.ext_getElem?
 intro j
 by_cases hj:j < rr.length
 ·by_cases e : j = k
  ·subst e
   rw [List.getElem?_set_self (by rw [lZ]; exact hj),fL,aM hj,if_pos zo]
  ·rw [List.getElem?_set_ne (Ne.symm e), fL, fL, aM hj, aM hj]
   by_cases e2:c < j ∧ j < k
   ·rw [if_pos e2,if_pos zo]
   ·rw [if_neg e2,if_neg zo]
 ·rw [List.getElem?_eq_none (by rw [List.length_set,lZ]; omega),List.getElem?_eq_none (by rw [lZ]; omega)]
theorem tU {M:List (List Qi)} {c:Nat}:M = gB M c (c + 1):=by
 unfold gB
 have:(tab M.length fun i=>if c < i ∧ i < c + 1 then fL (bi M i) (bi M c) c (bi M i).length else bi M i) = tab M.length (bi M):=bf fun i _=>by rw [if_neg zo]
 rw [this]; exact mT (h:=rfl)
theorem mw {M:List (List Qi)} {c r i:Nat} (hi:i < M.length) (h:¬ (c < i ∧ i < r)):bi (gB M c r) i = bi M i:=by
 simp only [bi,gB,List.getD]
 rw [aM hi,if_neg h]; rfl
theorem x7 {M:List (List Qi)} {c r:Nat} (hr:r < M.length) (h:c < r):(gB M c r).set r (fL (bi M r) (bi M c) c (bi M r).length) = gB M c (r + 1):=by
 apply List.ext_getElem?
 intro j
 by_cases hj:j < M.length
 ·by_cases e : j = r
  ·subst e
   rw [List.getElem?_set_self (by rw [ka]; exact hj),gB,aM hj,if_pos zo]
  ·rw [List.getElem?_set_ne (Ne.symm e), gB, gB, aM hj, aM hj]
   by_cases e2:c < j ∧ j < r
   ·rw [if_pos e2,if_pos zo]
   ·rw [if_neg e2,if_neg zo]
 ·rw [List.getElem?_eq_none (by rw [List.length_set,ka]; omega),List.getElem?_eq_none (by rw [ka]; omega)]
theorem tB {M:List (List Qi)} {r:Nat} {x y:List Qi}:(M.set r x).set r y = M.set r y:=List.set_set ..
theorem kB {M:List (List Qi)} {r:Nat} {x:List Qi} (h:r < M.length):bi (M.set r x) r = x:=by simp [bi,List.getD,h]
theorem iB {M:List (List Qi)} {r i:Nat} {x:List Qi} (h:r ≠ i):bi (M.set r x) i = bi M i:=by simp [bi,List.getD,List.getElem?_set_ne h]
theorem Ac {M:List (List Qi)} {r:Nat} (h:r < M.length):M.set r (bi M r) = M:=by
 apply List.ext_getElem?
 intro j
 by_cases e:j = r
 ·subst e; rw [List.getElem?_set_self h]; simp [bi,List.getD,h]
 ·rw [List.getElem?_set_ne (Ne.symm e)]
theorem zD {X : List (List Qi)} {r c k : Nat} (hr : r < X.length) (hne : r ≠ c) (hk : k < (bi X r).length) (hck : c < k) :
  (X.set r (fL (bi X r) (bi X c) c k)).set r ((bi (X.set r (fL (bi X r) (bi X c) c k)) r).set k (gm (X.set r (fL (bi X r) (bi X c) c k)) r k - gm X r c / gm X c c * gm (X.set r (fL (bi X r) (bi X c) c k)) c k)) = X.set r (fL (bi X r) (bi X c) c (k + 1)):=by
 rw [tB,kB hr]
 have e1:gm (X.set r (fL (bi X r) (bi X c) c k)) r k = gv (fL (bi X r) (bi X c) c k) k:=by show gv (bi (X.set r _) r) k = _; rw [kB hr]
 have e2:gm (X.set r (fL (bi X r) (bi X c) c k)) c k = gv (bi X c) k:=by show gv (bi (X.set r _) c) k = _; rw [iB hne]
 rw [e1,e2]
 exact congrArg _ (xm hk hck)
theorem zR {D:List (List Qi)} {r c:Nat} (hr:r < D.length) (hc:c < r):(gB D c r).set r (fL (bi (gB D c r) r) (bi (gB D c r) c) c (bi D r).length) = gB D c (r + 1):=by
 rw [mw hr zo,mw zo zo]
 exact x7 hr hc
theorem EZ {X:List (List Qi)} {r c k:Nat} (hr:r < X.length) (hk:k < (bi X r).length) (hck:c < k):gm (X.set r (fL (bi X r) (bi X c) c k)) r k = gv (bi X r) k:=by
 show gv (bi (X.set r _) r) k = _; rw [kB hr,tA hk hck]
theorem FI {X:List (List Qi)} {r c k:Nat} {y:List Qi} (hne:r ≠ c):gm (X.set r y) c k = gv (bi X c) k:=by show gv (bi (X.set r _) c) k = _; rw [iB hne]
theorem wF {M A:List (List Qi)} {n c sw p:Nat} (hl:M.length = n) (h:bp M c = (A,sw,-1)) (hp:pv A c n = p) (hpn:p < n):bp M (c + 1) = (gB (if p = c then A else swp [] A p c) c n,sw + (if p = c then 0 else 1),-1):=by
 simp only [bp,h,hl,hp]
 rw [if_neg (by decide),if_neg zo]
theorem xM {M A:List (List Qi)} {n c sw:Nat} (hl:M.length = n) (h:bp M c = (A,sw,-1)) (hp:pv A c n = n) (hc:c < n):bp M n = (A,sw,(c:Int)):=by
 have e : bp M (c + 1) = (A, sw, (c : Int)) := by
  simp only [bp,h,hl,hp]
  rw [if_neg (by decide)]; simp
 rw [qc (c:=c + 1) (by rw [e]; show (0:Int) ≤ (c:Int); omega) hc,e]
end
section
open Go Go.RowKit
theorem pI (v : Value) (w : World) : (method (Tryz.prog.types.size + Made.depth) 51 v "Clear").run Tryz.prog w = .ok (27, v) w := by kernel_rfl
end
section
open Go Go.RowKit
theorem AL {M:List (List Qi)} {n m L B:Nat} (hs:bE M n m) (hf:aL M L) (hL:1 ≤ L) (hg:6 * b5 L n + 4 ≤ 17592186044415) (hnm:n ≤ m) (hm:m ≤ 1000):cR Tryz.prog 194 [Is (.slice (some ⟨B,0,none⟩) n n)] [iK B 29 51 5 (aH ar M)] (Unit) (fun _=>cr [NT .i64 (bp M n).2.1,ap .i64 (bp M n).2.2]) (fun _=>[iK B 29 51 5 (aH ar (bp M n).1)]) (fun _=>True):=by
 have hs1:=hs.1
 refine cR.intro Tryz.func194 rfl Tryz.ntmps194 rfl (fun cx Z=>(ts (ro rfl (cQ (cJ 0)) (ro rfl (cQ (cJ 0)) (eX (ts (ro rfl (cQ (cJ 0)) (eX (cK (ts (rm rfl (ro rfl (d7 U_30 (Ht rfl)) (ro rfl (cX (cJ 0)) (eX (eG (r8 1 rfl (fun vs hvs=>?_)))))))))))))))))
 have hvs2:Al vs n:=by have h:=hvs; rw [List.length_map,hs1] at h; exact h
 refine mJ (fun (c : Nat) (sw : Nat) (vs : List Value) (A : List (List Qi)) => (c ≤ n ∧ sw ≤ c) ∧ bp M c = (A, sw, -1) ∧ Al vs n) (fun (c : Nat) (sw : Nat) (vs : List Value) (A : List (List Qi)) => n - c) (fun (c : Nat) (sw : Nat) (vs : List Value) (A : List (List Qi)) => [(0, Is (.slice (some ⟨B, 0, none⟩) n n)), (4, NT .i64 sw), (12, NT .i64 n), (13, NT .i64 c)]) (fun (c : Nat) (sw : Nat) (vs : List Value) (A : List (List Qi)) => [Z, dT B 29 51 5 vs vs (aH ar A)]) 0 0 vs M ⟨⟨Nat.zero_le _, Nat.le_refl _⟩, rfl, hvs2⟩
  (zS rfl) (bh.refl _) (fun c sw vs A ⟨⟨hc,hsw⟩,hA,hvs⟩=>?_)
 refine ts (ro rfl (gX (Ht rfl) (Ht rfl)) (eX (cK (dQ (Ht rfl) (fun hcn=>?_) (fun hcn=>?_)))))
 ·simp only [decide_eq_true_eq] at hcn
  have hvl:=hvs.len
  have hAs:bE A n m:=by have h:=jq hs hc; rw [hA] at h; exact h
  have hAf:aL A (b5 L c):=by have h:=oK hs hf hL hc; rw [hA] at h; exact h
  have hAl:=hAs.1
  have hgr:b5 L c ≤ b5 L n:=fv L hc
  have hG1:1 ≤ b5 L c:=Nat.le_trans hL (it L c)
  refine cU (cK (eG (ts (rm rfl (ra rfl (eX (ts (rm rfl (ra rfl (eX (cK (eG ?_))))))))))))
  refine aF (fun (p : Nat) => (c ≤ p ∧ p ≤ n) ∧ ∀ r, c ≤ r → r < p → gm A r c = Qi.zero) (fun (p : Nat) => n - p) (fun (p : Nat) => [(0, Is (.slice (some ⟨B, 0, none⟩) n n)), (4, NT .i64 sw), (5, NT .i64 c), (6, NT .i64 p), (12, NT .i64 n), (13, NT .i64 c)]) (fun (p : Nat) => [Z, dT B 29 51 5 vs vs (aH ar A)]) c ⟨⟨Nat.le_refl _, hc⟩, fun r h1 h2 => by omega⟩
   (zS rfl) (bh.refl _) (fun p ⟨⟨hcp,hpn⟩,hz⟩=>?_)
  haveI fp:ao (gm A p c) (b5 L c):=hAf.get hG1 p c
  refine cK (ts (rm rfl (rm rfl (ro rfl (d7 U_30 (Ht rfl)) (ro rfl (gX (Ht rfl) (Ht rfl)) (rm rfl (fQ rfl rfl (eK rfl rfl (Ht rfl) (fun h=>cX (Ht rfl))) (fQ rfl rfl (eK rfl rfl (Ht rfl) (fun h=>cX (Ht rfl))) (fQ rfl rfl (eK rfl rfl (Ht rfl) (fun h=>fY U_30 Z_29 (fJ rfl h) (fJ rfl h) rfl (by first | omega | (simp at h; omega)) (by rw [Nat.mul_one,Nat.zero_add]))) ?_)))))))))
  refine fQ rfl rfl (eK rfl rfl (Ht rfl) (fun h=>cF A_29 Z_29 (fJ rfl h) (j:=1) rfl (by simp at h; omega))) ?_
  refine fQ rfl rfl (eK rfl rfl (Ht rfl) (fun h=>cX (Ht rfl))) (fQ rfl rfl (eK rfl rfl (Ht rfl) (fun h=>dF U_29 Z_51 (fJ rfl h) (fJ rfl h) rfl (j:=1) rfl zo (by simp at h; omega) (by simp at h; rw [hAs.row h]; omega))) ?_)
  refine fQ rfl rfl (eK rfl rfl (Ht rfl) (fun h=>g0 A_51 Z_51 (fJ rfl h) (j:=1) rfl zo (by simp at h; omega) (by simp at h; rw [hAs.row h]; omega))) ?_
  refine fQ rfl rfl (eK rfl rfl (Ht rfl) (fun h=>bd bC (fJ rfl h))) (fQ rfl rfl (eK rfl rfl (Ht rfl) (fun h=>b7 pI Tryz.call27 (vb (x:=gm A p c) (L:=b5 L c) zo) (fJ rfl h) trivial)) (fQ rfl rfl (eK rfl rfl (Ht rfl) (fun h=>co (fJ rfl h))) (ro rfl (c7 (Ht rfl) (fun h=>(fJ rfl h))) (eX (dQ (Ht rfl) (fun he=>?_) (fun he=>?_))))))
  ·have he2 : p < n ∧ gm A p c = Qi.zero := by simpa using he
   refine cU (eG (cY (rm rfl (ro rfl (dV (Ht rfl) (cJ 1) z6) (ra rfl (eX (as ?_)))))))
   refine fU (p + 1) ⟨⟨by omega, by omega⟩, fun r h1 h2 => by
     by_cases e:r = p
     ·rw [e]; exact he2.2
     ·exact hz r h1 zo⟩ zo (zS rfl) (bh.refl _)
  ·have hpv : pv A c n = p := CH hcp hpn hz (fun h => by simp at he; exact he h)
   refine gV rfl (cK (ts (rm rfl (rm rfl (ro rfl (d7 U_30 (Ht rfl)) (ro rfl (bc (Ht rfl) (Ht rfl)) (eX (dQ (Ht rfl) (fun hp=>?_) (fun hp=>?_)))))))))
   ·have hp2 : p = n := by simpa using hp
    have hend:=xM hs1 hA (by rw [hpv]; exact hp2) hcn
    refine ts (rm rfl (rm rfl (ra rfl (ra rfl (eX ?_)))))
    exact dS () trivial [0,1] ⟨⟨_,rfl,fun _ _ _ h=>h⟩,⟨_,rfl,(fun S w V h=>aC (by rw [hend]) S w V (pj (by rw [List.length_map]; omega) S w V h))⟩,trivial⟩ (by decide) (Bb rfl (fX (eU rfl) (fC (by rw [hend]))) (fX (eU rfl) (am (by rw [hend]))))
   ·have hp2 : p < n := by simp at hp; omega
    have hpz:=(gl (M:=A) (c:=c) (n:=n) hc).2.2.2 (by rw [hpv]; exact hp2)
    rw [hpv] at hpz
    have hnx:=wF hs1 hA hpv hp2
    refine cU (cK (Aw (fun (q:Nat) (us:List Value) (D:List (List Qi))=>(q = sw + (if p = c then 0 else 1) ∧ D = (if p = c then A else swp [] A p c)) ∧ Al us n) (fun (q:Nat) (us:List Value) (D:List (List Qi))=>[(0,Is (.slice (some ⟨B,0,none⟩) n n)),(4,NT .i64 q),(5,NT .i64 c),(12,NT .i64 n),(13,NT .i64 c)]) (fun (q:Nat) (us:List Value) (D:List (List Qi))=>[Z,dT B 29 51 5 us us (aH ar D)]) ?_ (fun q us D ⟨⟨hq,hD⟩,hus⟩=>?_)))
    ·refine ts (rm rfl (rm rfl (ro rfl (cu (Ht rfl) (Ht rfl)) (eX (dQ (Ht rfl) (fun hpc => ?_) (fun hpc => ?_))))))
     ·have hpc2 : ¬ p = c := by simpa using hpc
      refine cK (Y.D_start (m:=14) [(13,1,dT B 29 51 5 (vs.set p (hd vs c)) vs (aH ar A))] (Y.D_step (Ei:=[(0,_)]) rfl rfl (bQ (bJ rfl rfl) bX) rfl rfl (by kernel_rfl) (dX rfl (cX (Ht rfl))) (Y.D_step (Ei:=[(6,_)]) rfl rfl (bQ (bJ rfl rfl) bX) rfl rfl (by kernel_rfl) (dX rfl (cX (Ht rfl))) (bY (Ei:=[(0,_)]) rfl rfl (bQ (bJ rfl rfl) bX) rfl rfl (dX rfl (cX (Ht rfl))) (bY (Ei:=[(5,_)]) rfl rfl (bQ (bJ rfl rfl) bX) rfl rfl (dX rfl (cX (Ht rfl))) ?_)))))
      refine Y.D_step (Ei:=[(0,_)]) rfl rfl (bQ (bJ rfl rfl) bX) rfl rfl (by kernel_rfl) (dX rfl (cX (Ht rfl))) (Y.D_step (Ei:=[(5,_)]) rfl rfl (bQ (bJ rfl rfl) bX) rfl rfl (by kernel_rfl) (dX rfl (cX (Ht rfl))) (Y.D_step (Ei:=[(48,_),(49,_)]) rfl rfl (bQ (bZ 4 rfl rfl) (bQ (bZ 5 rfl rfl) bX)) rfl rfl (by kernel_rfl) (dX rfl (fY U_30 Z_29 (Ht rfl) (Ht rfl) rfl zo (by rw [Nat.mul_one,Nat.zero_add]))) ?_))
      refine Y.D_step (Ei:=[(50,_)]) rfl rfl (bQ (bZ 6 rfl rfl) bX) rfl rfl (by kernel_rfl) (dX rfl (cF A_29 Z_29 (Ht rfl) (j:=1) rfl zo)) (Y.D_step (Ei:=[(0,_)]) rfl rfl (bQ (bJ rfl rfl) bX) rfl rfl (by kernel_rfl) (dX rfl (cX (Ht rfl))) (Y.D_step (Ei:=[(6,_)]) rfl rfl (bQ (bJ rfl rfl) bX) rfl rfl (by kernel_rfl) (dX rfl (cX (Ht rfl))) (Y.D_step (Ei:=[(52,_),(53,_)]) rfl rfl (bQ (bZ 8 rfl rfl) (bQ (bZ 9 rfl rfl) bX)) rfl rfl (by kernel_rfl) (dX rfl (fY U_30 Z_29 (Ht rfl) (Ht rfl) rfl zo (by rw [Nat.mul_one,Nat.zero_add]))) ?_)))
      refine Y.D_step (Ei:=[(54,_)]) rfl rfl (bQ (bZ 10 rfl rfl) bX) rfl rfl (by kernel_rfl) (dX rfl (cF A_29 Z_29 (Ht rfl) (j:=1) rfl zo)) (Y.D_step (Ei:=[(44,_),(45,_)]) rfl rfl (bQ (bZ 0 rfl rfl) (bQ (bZ 1 rfl rfl) bX)) rfl rfl (by kernel_rfl) (dX rfl (fY U_30 Z_29 (Ht rfl) (Ht rfl) rfl zo (by rw [Nat.mul_one,Nat.zero_add]))) ?_)
      refine Y.D_putI (Ei:=[(56,_),(51,_)]) 1 rfl rfl rfl (bQ (bZ 12 rfl rfl) (bQ (bZ 7 rfl rfl) bX)) (.head _) rfl (uD Z_29 (Ht rfl) (Ht rfl) (hvs.pl c zo) (i:=p) (hs:=vs) zo) (Y.D_done au rfl (by kernel_rfl) rfl (by simp [Y.okP]) rfl rfl (bU (bU (bU (bU (bU (bU (bU (bU (bU (bU (bU (bU (bU (Y.F_putI (Y.F_nil ?_))))))))))))))))
      refine ro rfl (fY U_30 Z_29 (Ht rfl) (Ht rfl) rfl zo (by rw [Nat.mul_one,Nat.zero_add])) ?_
      refine zZ Z_29 (Ht rfl) (Ht rfl) (j:=1) rfl (hvs.pl p zo) (by rw [List.length_set]; omega) rfl ?_
      refine eX (fk 1 rfl (qG (hs:=swp oJ vs p c) (p:=p) (c:=c) zo zo zo) (cY (rm rfl (ro rfl (dV (Ht rfl) (cJ 1) z6) (ra rfl (eX (ax (sw + 1,swp oJ vs p c,swp [] A p c) ⟨⟨by rw [if_neg hpc2],by rw [if_neg hpc2]⟩,hvs.swp hp2 hcn⟩ (zS rfl) (bh.refl _))))))))
     ·have hpc2 : p = c := by simpa using hpc
      refine cU (ax (sw,vs,A) ⟨⟨by rw [if_pos hpc2]; rfl,by rw [if_pos hpc2]⟩,hvs⟩ (zS rfl) (bh.refl _))
    ·have hul := hus.len
     rw [← hq,← hD] at hnx
     have hDs:bE D n m:=by rw [hD]; split; exact hAs; exact lW hAs hp2 hcn
     have hDf:aL D (b5 L c):=by rw [hD]; split; exact hAf; exact nV hAf
     have hDl:=hDs.1
     have hDz : gm D c c ≠ Qi.zero := by
      rw [hD]; split
      ·rename_i e; rw [e] at hpz; exact hpz
      ·show gv (bi (swp [] A p c) c) c ≠ _
       rw [mR zo]; exact hpz
     refine ts (rm rfl (ro rfl (dV (Ht rfl) (cJ 1) z6) (ra rfl (eX (eG ?_)))))
     refine aF (fun (r : Nat) => c < r ∧ r ≤ n) (fun (r : Nat) => n - r) (fun (r : Nat) => [(0, Is (.slice (some ⟨B, 0, none⟩) n n)), (4, NT .i64 q), (5, NT .i64 c), (7, NT .i64 r), (12, NT .i64 n), (13, NT .i64 c)]) (fun (r : Nat) => [Z, dT B 29 51 5 us us (aH ar (gB D c r))]) (c + 1) ⟨Nat.lt_succ_self _, hcn⟩
      (zS rfl) (aU (fun _ _ _ h=>h) (aU (il (congrArg _ tU)) aY)) (fun r ⟨hcr,hrn⟩=>?_)
     refine cK (ts (rm rfl (rm rfl (ro rfl (d7 U_30 (Ht rfl)) (ro rfl (gX (Ht rfl) (Ht rfl)) (eX (dQ (Ht rfl) (fun hr=>?_) (fun hr=>?_))))))))
     ·simp only [decide_eq_true_eq] at hr
      obtain ⟨X,hX⟩:∃ X,X = gB D c r:=⟨_,rfl⟩
      have hXr:bi X r = bi D r:=by rw [hX]; exact mw zo zo
      have hXc:bi X c = bi D c:=by rw [hX]; exact mw zo zo
      have hXl:X.length = n:=by rw [hX,ka]; exact hDl
      have hXrl:(bi X r).length = m:=by rw [hXr]; exact hDs.row hr
      have hXcl:(bi X c).length = m:=by rw [hXc]; exact hDs.row hcn
      have hXrg:(X.getD r []).length = m:=hXrl
      have hXcg:(X.getD c []).length = m:=hXcl
      have hXfr:bk (bi X r) (b5 L c):=by rw [hXr]; exact hDf.row r
      have hXfc:bk (bi X c) (b5 L c):=by rw [hXc]; exact hDf.row c
      haveI g1:ao (gm X r c) (b5 L c):=hXfr.get hG1 c
      haveI g2:ao (gm X c c) (b5 L c):=hXfc.get hG1 c
      have hXz:gm X c c ≠ Qi.zero:=by show gv (bi X c) c ≠ _; rw [hXc]; exact hDz
      haveI g3:ao (gm X r c / gm X c c) (b5 L c + 3 * b5 L c + 2):=⟨g1.fit.div g2.fit hXz⟩
      have hend:=zR (D:=D) (r:=r) (c:=c) zo hcr
      rw [← hX] at hend ⊢
      refine cU (cK (eG (cK (Y.D_start (m:=21) [] (bY (Ei:=[(0,_)]) rfl rfl (bQ (bJ rfl rfl) bX) rfl rfl (dX rfl (cX (Ht rfl))) (bY (Ei:=[(7,_)]) rfl rfl (bQ (bJ rfl rfl) bX) rfl rfl (dX rfl (cX (Ht rfl))) (bY (Ei:=[(69,_),(70,_)]) rfl rfl (bQ (bZ 0 rfl rfl) (bQ (bZ 1 rfl rfl) bX)) rfl rfl (dX rfl (fY U_30 Z_29 (Ht rfl) (Ht rfl) rfl zo (by rw [Nat.mul_one,Nat.zero_add]))) ?_)))))))
      refine bY (Ei:=[(71,_)]) rfl rfl (bQ (bZ 2 rfl rfl) bX) rfl rfl (dX rfl (cF A_29 Z_29 (Ht rfl) (j:=1) rfl zo)) (bY (Ei:=[(5,_)]) rfl rfl (bQ (bJ rfl rfl) bX) rfl rfl (dX rfl (cX (Ht rfl))) (bY (Ei:=[(72,_),(73,_)]) rfl rfl (bQ (bZ 3 rfl rfl) (bQ (bZ 4 rfl rfl) bX)) rfl rfl (dX rfl (dF U_29 Z_51 (Ht rfl) (Ht rfl) rfl (j:=1) rfl zo zo zo)) (bY (Ei:=[(74,_)]) rfl rfl (bQ (bZ 5 rfl rfl) bX) rfl rfl (dX rfl (g0 A_51 Z_51 (Ht rfl) (j:=1) rfl zo zo zo)) ?_)))
      refine bY (Ei:=[(75,_)]) rfl rfl (bQ (bZ 6 rfl rfl) bX) rfl rfl (dX rfl (bd bC (Ht rfl))) (bY (Ei:=[(0,_)]) rfl rfl (bQ (bJ rfl rfl) bX) rfl rfl (dX rfl (cX (Ht rfl))) (bY (Ei:=[(5,_)]) rfl rfl (bQ (bJ rfl rfl) bX) rfl rfl (dX rfl (cX (Ht rfl))) (bY (Ei:=[(77,_),(78,_)]) rfl rfl (bQ (bZ 8 rfl rfl) (bQ (bZ 9 rfl rfl) bX)) rfl rfl (dX rfl (fY U_30 Z_29 (Ht rfl) (Ht rfl) rfl zo (by rw [Nat.mul_one,Nat.zero_add]))) ?_)))
      refine bY (Ei:=[(79,_)]) rfl rfl (bQ (bZ 10 rfl rfl) bX) rfl rfl (dX rfl (cF A_29 Z_29 (Ht rfl) (j:=1) rfl zo)) (bY (Ei:=[(5,_)]) rfl rfl (bQ (bJ rfl rfl) bX) rfl rfl (dX rfl (cX (Ht rfl))) (bY (Ei:=[(80,_),(81,_)]) rfl rfl (bQ (bZ 11 rfl rfl) (bQ (bZ 12 rfl rfl) bX)) rfl rfl (dX rfl (dF U_29 Z_51 (Ht rfl) (Ht rfl) rfl (j:=1) rfl zo zo zo)) (bY (Ei:=[(82,_)]) rfl rfl (bQ (bZ 13 rfl rfl) bX) rfl rfl (dX rfl (g0 A_51 Z_51 (Ht rfl) (j:=1) rfl zo zo zo)) ?_)))
      refine bY (Ei:=[(76,_),(83,_)]) rfl rfl (bQ (bZ 7 rfl rfl) (bQ (bZ 14 rfl rfl) bX)) rfl rfl (dX rfl (b7 kJ Tryz.call40 (yS (x:=gm X r c) (y:=gm X c c) (L:=b5 L c) (M:=b5 L c) zo) (Ht rfl) ⟨(Ht rfl),trivial⟩)) (bY (Ei:=[(84,_)]) rfl rfl (bQ (bZ 15 rfl rfl) bX) rfl rfl (dX rfl (cX (Ht rfl))) (bY (Ei:=[(68,_)]) rfl rfl (bQ (bZ 16 rfl rfl) bX) rfl rfl (dX rfl (dK (Ht rfl) rfl)) (bY (Ei:=[(68,_)]) rfl rfl (bQ (bZ 16 rfl rfl) bX) rfl rfl (dX rfl (dK (Ht rfl) rfl)) ?_)))
      refine Y.D_newp (Ei:=[]) (fun bb=>box bb 51 [ab (decide ((gm X r c / gm X c c).a < 0)),ai (gm X r c / gm X c c).a.natAbs,ab (decide ((gm X r c / gm X c c).b < 0)),ai (gm X r c / gm X c c).b.natAbs,ai (du (gm X r c / gm X c c))]) 20 rfl rfl rfl bX rfl rfl (by kernel_rfl) (eW (Ts:=[Is (.bool false),Is (.slice none 0 0),Is (.bool false),Is (.slice none 0 0),Is (.slice none 0 0)]) O_51 rfl (fun V=>aW zd (aW zd (aW zd (aW zd (aW zd (aG))))))) ?_
      refine Y.D_putN (Ei:=[(85,_)]) 19 rfl rfl rfl rfl rfl rfl (bQ (bZ 17 rfl rfl) bX) (fun bb=>k5 Z_51 (Ht rfl) (Ht rfl) rfl (i:=0) rfl (aK rfl) rfl rfl) (Y.D_done au rfl (by kernel_rfl) rfl (by simp [Y.okP]) rfl rfl (bU (bU (bU (bU (bU (bU (bU (bU (bU (bU (bU (bU (bU (bU (bU (bU (bU (bU (bU (Y.F_newp (fun B8=>Y.F_putN (Y.F_nil ?_)))))))))))))))))))))))
      refine ra rfl (eX (ts (rm rfl (ro rfl (dV (Ht rfl) (cJ 1) z6) (ra rfl (eX (eG ?_)))))))
      refine aF (fun (k : Nat) => c < k ∧ k ≤ m) (fun (k : Nat) => m - k) (fun (k : Nat) => [(0, Is (.slice (some ⟨B, 0, none⟩) n n)), (4, NT .i64 q), (5, NT .i64 c), (7, NT .i64 r), (8, aI B8 0), (10, NT .i64 k), (12, NT .i64 n), (13, NT .i64 c)]) (fun (k : Nat) => [Z, dT B 29 51 5 us us (aH ar (X.set r (fL (bi X r) (bi X c) c k))), box B8 51 [ab (decide ((gm X r c / gm X c c).a < 0)), ai (gm X r c / gm X c c).a.natAbs, ab (decide ((gm X r c / gm X c c).b < 0)), ai (gm X r c / gm X c c).b.natAbs, ai (du (gm X r c / gm X c c))]]) (c + 1) ⟨Nat.lt_succ_self _, by omega⟩
       (zS rfl) (aU (fun _ _ _ h=>h) (aU (il (by rw [← tV,Ac zo])) (aU (a8 rfl) aY))) (fun k ⟨hck,hkm⟩=>?_)
      obtain ⟨Y,hY⟩:∃ Y,Y = (X.set r (fL (bi X r) (bi X c) c k)):=⟨_,rfl⟩
      have hYl:Y.length = n:=by rw [hY,List.length_set]; exact hXl
      have hYrl:(bi Y r).length = m:=by rw [hY,kB zo,lZ]; exact hXrl
      have hYcl:(bi Y c).length = m:=by rw [hY,iB zo]; exact hXcl
      have hYrg:(Y.getD r []).length = m:=hYrl
      have hYcg:(Y.getD c []).length = m:=hYcl
      rw [← hY]
      refine cK (ts (rm rfl (rm rfl (rm rfl (ro rfl (fY U_30 Z_29 (Ht rfl) (Ht rfl) rfl zo (by rw [Nat.mul_one,Nat.zero_add])) ?_)))))
      refine ro rfl (cF A_29 Z_29 (Ht rfl) (j:=1) rfl zo) (ro rfl (AR U_29 (Ht rfl) (j:=1) rfl zo zo) (ro rfl (gX (Ht rfl) (Ht rfl)) (eX (dQ (Ht rfl) (fun hk=>?_) (fun hk=>?_)))))
      ·have hk2 : k < m := by simp only [decide_eq_true_eq] at hk; omega
       have e1:gm Y r k = gv (bi X r) k:=by rw [hY]; exact EZ zo zo hck
       have e2:gm Y c k = gv (bi X c) k:=by rw [hY]; exact FI zo
       haveI y1:ao (gm Y r k) (b5 L c):=by rw [e1]; exact hXfr.get hG1 k
       haveI y2:ao (gm Y c k) (b5 L c):=by rw [e2]; exact hXfc.get hG1 k
       have hst:=zD (X:=X) (r:=r) (c:=c) (k:=k) zo zo zo hck
       rw [← hY] at hst
       refine cU (cK (eG (fZ (m:=24) (dp 0 rfl (cX (Ht rfl)) (dp 7 rfl (cX (Ht rfl)) (b8 98 0 99 1 rfl (fY U_30 Z_29 (Ht rfl) (Ht rfl) rfl zo (by rw [Nat.mul_one,Nat.zero_add])) ?_))))))
       refine dq 100 2 rfl (cF A_29 Z_29 (Ht rfl) (j:=1) rfl zo) (dp 10 rfl (cX (Ht rfl)) (dp 0 rfl (cX (Ht rfl)) (dp 7 rfl (cX (Ht rfl)) (b8 103 5 104 6 rfl (fY U_30 Z_29 (Ht rfl) (Ht rfl) rfl zo (by rw [Nat.mul_one,Nat.zero_add])) ?_))))
       refine dq 105 7 rfl (cF A_29 Z_29 (Ht rfl) (j:=1) rfl zo) (dp 10 rfl (cX (Ht rfl)) (b8 106 8 107 9 rfl (dF U_29 Z_51 (Ht rfl) (Ht rfl) rfl (j:=1) rfl zo zo zo) (dq 108 10 rfl (g0 A_51 Z_51 (Ht rfl) (j:=1) rfl zo zo zo) (dq 109 11 rfl (bd bC (Ht rfl)) (dp 8 rfl (eJ A_51 Z_51 (Ht rfl) (i:=2) rfl rfl rfl) (dq 111 13 rfl (bd bC (Ht rfl)) (dp 0 rfl (cX (Ht rfl)) (dp 5 rfl (cX (Ht rfl)) (b8 113 15 114 16 rfl (fY U_30 Z_29 (Ht rfl) (Ht rfl) rfl zo (by rw [Nat.mul_one,Nat.zero_add])) ?_)))))))))
       refine dq 115 17 rfl (cF A_29 Z_29 (Ht rfl) (j:=1) rfl zo) (dp 10 rfl (cX (Ht rfl)) (b8 116 18 117 19 rfl (dF U_29 Z_51 (Ht rfl) (Ht rfl) rfl (j:=1) rfl zo zo zo) (dq 118 20 rfl (g0 A_51 Z_51 (Ht rfl) (j:=1) rfl zo zo zo) (b8 112 14 119 21 rfl (b7 cD K_45 (jc (x:=gm X r c / gm X c c) (y:=gm Y c k) (L:=b5 L c + 3 * b5 L c + 2) (M:=b5 L c) zo) (Ht rfl) ⟨(Ht rfl),trivial⟩) (b8 110 12 120 22 rfl (b7 fo K_44 (oL (x:=gm Y r k) (y:=gm X r c / gm X c c * gm Y c k) (L:=b5 L c) (M:=b5 L c + 3 * b5 L c + 2 + b5 L c + 1) zo) (Ht rfl) ⟨(Ht rfl),trivial⟩) ?_)))))
       refine fV au rfl (by kernel_rfl) (zF (zF (zF (zF (zF (zF (aV (ro rfl (dF U_29 Z_51 (Ht rfl) (Ht rfl) rfl (j:=1) rfl zo zo zo) (CT Z_51 (Ht rfl) (Ht rfl) (j:=1) rfl (El.ag rfl) (F:=ar) (z:=gm Y r k - gm X r c / gm X c c * gm Y c k) zo zo zo rfl (eX (as (cY ?_))))))))))))
       refine rm rfl (ro rfl (dV (Ht rfl) (cJ 1) z6) (ra rfl (eX (fU (k + 1) ⟨by omega,hk2⟩ zo (zS rfl) (aU (fun _ _ _ h=>h) (aU (il (congrArg _ hst)) (aU (a8 rfl) aY)))))))
      ·have hk3 : k = m := by simp only [decide_eq_false_iff_not] at hk; omega
       subst hk3
       refine gV rfl (as (cY (rm rfl (ro rfl (dV (Ht rfl) (cJ 1) z6) (ra rfl (eX (aO [0,1] rfl (by decide) (fU (r + 1) ⟨by omega,hr⟩ zo (zS rfl) (aU (fun _ _ _ h=>h) (aU (il (by rw [hY,← hend,hDs.row hr])) aY))))))))))
     ·simp only [decide_eq_false_iff_not] at hr
      obtain rfl:r = n:=Nat.le_antisymm hrn zo
      refine gV rfl (as (cY (ro rfl (dV (Ht rfl) (cJ 1) z6) (rm rfl (eX (fU (c + 1,q,us,gB D c r) ⟨⟨hcn,by show q ≤ c + 1; rw [hq]; split <;> omega⟩,hnx,hus⟩ (by dsimp only; omega) (zS rfl) (bh.refl _)))))))
 ·simp only [decide_eq_false_iff_not] at hcn
  obtain rfl:c = n:=Nat.le_antisymm hc zo
  have hvl:=hvs.len
  have hAs:bE A c m:=by have h:=jq hs hc; rw [hA] at h; exact h
  refine gV rfl (ts (rm rfl (ra rfl (ro rfl (cQ cV) (eX ?_)))))
  exact dS () trivial [0,1] ⟨⟨_,rfl,fun _ _ _ h=>h⟩,⟨_,rfl,(fun S w V h=>aC (by rw [hA]) S w V (pj (by rw [List.length_map,hAs.1]; exact hvl) S w V h))⟩,trivial⟩ (by decide) (Bb rfl (fX (eU rfl) (fC (by rw [hA]))) (fX (eU rfl) (am (by rw [hA]))))
end
section
open Go Go.RowKit
abbrev ql (M bs:List (List Qi)) (i:Nat):List Qi:=bi M i ++ bs.map fun b=>gv b i
def eu (M bs:List (List Qi)) (n:Nat):List (List Qi):=tab n (ql M bs)
theorem AQ {r:List Qi} {bs:List (List Qi)} {i j:Nat} (h:j < bs.length):(r ++ (bs.take j).map fun b=>gv b i) ++ [gv (bs.getD j []) i] = r ++ (bs.take (j + 1)).map fun b=>gv b i:=by
 rw [List.append_assoc,List.take_add_one,List.map_append]
 simp [List.getD,h]
theorem fx {M bs:List (List Qi)} {n m:Nat} (h:bE M n m):bE (eu M bs n) n (m + bs.length):=by
 refine ⟨a9 _ _,fun r hr=>?_⟩
 obtain ⟨i,hi,rfl⟩:=dz.1 hr
 rw [List.length_append,List.length_map,h.row hi]
theorem mU {M bs : List (List Qi)} {n L : Nat} (h : aL M L) (hb : aL bs L) (hL : 1 ≤ L) : aL (eu M bs n) L := fun r hr x hx => by
 obtain ⟨i,hi,rfl⟩:=dz.1 hr
 rcases List.mem_append.1 hx with h1 | h1
 ·exact h.row i x h1
 ·obtain ⟨b, hb1, rfl⟩ := List.mem_map.1 h1
  exact bk.get (hb b hb1) hL i
def ij (U : List (List Qi)) (x : List Qi) (n c : Nat) : Nat → Qi
 | 0=>gm U c n
 | k + 1=>ij U x n c k - gm U c (c + 1 + k) * gv x (c + 1 + k)
def j1 (U : List (List Qi)) (n : Nat) : Nat → List Qi
 | 0=>tab n fun _=>Qi.zero
 | j + 1=>(j1 U n j).set (n - (j + 1)) (ij U (j1 U n j) n (n - (j + 1)) j / gm U (n - (j + 1)) (n - (j + 1)))
theorem lX (U : List (List Qi)) (n : Nat) : ∀ j, (j1 U n j).length = n
 | 0=>a9 _ _
 | j + 1=>by rw [j1,List.length_set,lX U n j]
def lk (M:List (List Qi)) (b:List Qi) (n:Nat):List (List Qi) × Nat × Int:=bp (eu M [b] n) n
def et (M:List (List Qi)) (b:List Qi) (n:Nat):Int:=if 0 ≤ (lk M b n).2.2 then 6 else 0
def fd (M:List (List Qi)) (b:List Qi) (n:Nat):List Qi:=j1 (lk M b n).1 n n
def ji (G : Nat) : Nat → Nat
 | 0=>G
 | j + 1=>j * (ji G j + G + 2) + 4 * G + 2
theorem md (G j:Nat):ji G j ≤ ji G (j + 1):=by
 cases j with
 | zero=>simp only [ji]; omega
 | succ j =>
  have:ji G (j + 1) + G + 2 ≤ (j + 1) * (ji G (j + 1) + G + 2):=Nat.le_mul_of_pos_left _ zo
  rw [show ji G (j + 1 + 1) = (j + 1) * (ji G (j + 1) + G + 2) + 4 * G + 2 from rfl]
  omega
theorem pg (G : Nat) : ∀ j, G ≤ ji G j
 | 0=>Nat.le_refl _
 | j + 1=>Nat.le_trans (pg G j) (md G j)
theorem mi (G : Nat) : ∀ {i j : Nat}, i ≤ j → ji G i ≤ ji G j
 | i,0,h=>by rw [show i = 0 by omega]; exact Nat.le_refl _
 | i, j + 1, h => by
  by_cases e:i = j + 1
  ·rw [e]; exact Nat.le_refl _
  ·exact Nat.le_trans (mi G (show i ≤ j by omega)) (md G j)
theorem jB {M : List (List Qi)} {n m : Nat} (hs : bE M n m) : ∀ {c : Nat}, c ≤ n → (bp M c).2.2 < 0 → ∀ i, i < c → gm (bp M c).1 i i ≠ Qi.zero
 | 0,_,_,i,hi=>by omega
 | c + 1, hc, hst, i, hi => by
  have sh:=jq hs (c:=c) zo
  obtain ⟨_,i2,i3,i4⟩:=gl (M:=(bp M c).1) (c:=c) (n:=M.length) (by rw [hs.1]; omega)
  simp only [bp] at hst ⊢
  split at hst
  ·rename_i h0; omega
  ·rename_i h0
   rw [if_neg h0]
   split at hst
   ·simp at hst; omega
   ·rename_i h1
    rw [if_neg h1]
    have ih:=jB hs (c:=c) zo zo
    have hl : ∀ X : List (List Qi), X.length = n → gm (gB X c M.length) i i = gm X i i := fun X hX => by
     show gv (bi (gB X c M.length) i) i = _
     rw [mw zo zo]
    by_cases e:pv (bp M c).1 c M.length = c
    ·rw [if_pos e, hl _ sh.1]
     by_cases e2:i = c
     ·rw [e2]; have:=i4 (by have:=hs.1; omega); rw [e] at this; exact this
     ·exact ih i zo
    ·have hpl : pv (bp M c).1 c M.length < n := by rw [← hs.1]; omega
     rw [if_neg e,hl _ ((r9 _ _ _ _).trans sh.1)]
     by_cases e2:i = c
     ·rw [e2]
      show gv (bi (swp [] _ _ c) c) c ≠ _
      rw [mR (by rw [sh.1]; omega)]
      exact i4 (by have:=hs.1; omega)
     ·have : bi (swp [] (bp M c).1 (pv (bp M c).1 c M.length) c) i = bi (bp M c).1 i := by
       simp only [bi,swp,List.getD]
       rw [List.getElem?_set_ne (Ne.symm e2),List.getElem?_set_ne zo]
      show gv (bi (swp [] _ _ c) i) i ≠ _
      rw [this]; exact ih i zo
theorem o3 {U : List (List Qi)} {x : List Qi} {n c G X : Nat} (hU : aL U G) (hx : bk x X) (hG : 1 ≤ G) (hX : 1 ≤ X) : ∀ k, ao (ij U x n c k) (G + k * (G + X + 2))
 | 0=>(hU.get hG c n).le zo
 | k + 1 => by
  haveI f1:=o3 (n:=n) (c:=c) hU hx hG hX k
  haveI f2:=hU.get hG c (c + 1 + k)
  haveI f3:=hx.get hX (c + 1 + k)
  have:ao (ij U x n c (k + 1)) (G + k * (G + X + 2) + (G + X + 1) + 1):=by unfold ij; infer_instance
  exact this.le (by rw [Nat.add_mul]; omega)
theorem Ez {U:List (List Qi)} {x:List Qi} {n c G X j:Nat} (hU:aL U G) (hx:bk x X) (hG:1 ≤ G) (hX:1 ≤ X) (hz:gm U c c ≠ Qi.zero):ao (ij U x n c j / gm U c c) (j * (X + G + 2) + 4 * G + 2):=by
 have f1:=o3 (n:=n) (c:=c) hU hx hG hX j
 have f2:=hU.get hG c c
 have:ao (ij U x n c j / gm U c c) (G + j * (G + X + 2) + 3 * G + 2):=⟨f1.fit.div f2.fit hz⟩
 exact this.le (by rw [Nat.add_comm X G]; omega)
theorem ut {U : List (List Qi)} {n G : Nat} (hU : aL U G) (hG : 1 ≤ G) (hz : ∀ i, i < n → gm U i i ≠ Qi.zero) : ∀ j, j ≤ n → bk (j1 U n j) (ji G j)
 | 0,_=>bk.tab fun _ _=>ao.zero hG
 | j + 1, hj => fun y hy => by
  have ih:=ut hU hG hz j zo
  rcases List.mem_or_eq_of_mem_set hy with h1 | h1
  ·exact (ih y h1).le (md G j)
  ·rw [h1]; exact Ez hU ih hG (Nat.le_trans hG (pg G j)) (hz _ zo)
theorem zn {M:List (List Qi)} {b:List Qi} {n:Nat} (h:bE M n n):bE (lk M b n).1 n (n + 1):=jq (fx h) (Nat.le_refl n)
theorem su {M:List (List Qi)} {b:List Qi} {n L:Nat} (h:bE M n n) (hM:aL M L) (hb:bk b L) (hL:1 ≤ L):aL (lk M b n).1 (b5 L n):=oK (fx h) (mU hM (fun r hr=>by simp at hr; subst hr; exact hb) hL) hL (Nat.le_refl n)
theorem yT {M : List (List Qi)} {b : List Qi} {n L : Nat} (h : bE M n n) (hM : aL M L) (hb : bk b L) (hL : 1 ≤ L) (hE : (lk M b n).2.2 < 0) : bk (fd M b n) (ji (b5 L n) n) :=
 ut (su h hM hb hL) (Nat.le_trans hL (it L n)) (jB (fx h) (Nat.le_refl n) hE) n (Nat.le_refl n)
def ga (n i:Nat):List Qi:=(tab n fun _=>Qi.zero).set i (Qi.ofInt 1)
def mL (n:Nat):List (List Qi):=tab n (ga n)
theorem ol (n:Nat):bE (mL n) n n:=⟨a9 _ _,fun r hr=>by obtain ⟨i,_,rfl⟩:=dz.1 hr; rw [ga,List.length_set,a9]⟩
theorem mt:ao (Qi.ofInt 1) 1:=⟨Qi.Fit.int (L:=1) (by decide) (by decide)⟩
theorem qx {n i L : Nat} (h : 1 ≤ L) : bk (ga n i) L := fun x hx => by
 rcases List.mem_or_eq_of_mem_set hx with h1 | h1
 ·obtain ⟨_,_,rfl⟩:=dz.1 h1; exact ao.zero h
 ·rw [h1]; exact mt.le h
theorem AA {n L:Nat} (h:1 ≤ L):aL (mL n) L:=fun r hr=>by obtain ⟨i,_,rfl⟩:=dz.1 hr; exact qx h
theorem Cj {M:List (List Qi)} {b:List Qi} {n:Nat} (h:¬ 0 ≤ (lk M b n).2.2):(lk M b n).2.2 < 0:=by omega
theorem nT (F:Qi → Ty) (n:Nat):List.replicate n (F Qi.zero) = (tab n fun _=>Qi.zero).map F:=by rw [jR,my]
theorem EV {n j:Nat} (h:(0:Int) ≤ (n:Int) - 1 - (j:Int)):j < n:=by omega
theorem Fk {n j:Nat} (h:(n:Int) - 1 - (j:Int) < 0):n ≤ j:=by omega
theorem yz {G X k j:Nat} (h:k < j):k * (G + X + 2) + (G + X + 2) ≤ j * (X + G + 2):=by
 rw [Nat.add_comm X G,← Nat.succ_mul]; exact Nat.mul_le_mul_right _ h
end
section
open Go Go.RowKit
theorem y5 {M:List (List Qi)} {n:Nat} (h:bE M n n) (h1:1 ≤ n) (hn:n ≤ 32):az Tryz.prog 174 [b9 M] (ab true):=by
 have hl:=h.1
 refine az.intro Tryz.func174 rfl Tryz.ntmps174 rfl (fun cx=>(ts (ro rfl (cQ cV) (eX (ts (rm rfl (ro rfl (cZ Tryz.call240 (kR h h1 hn hn) ⟨(Ht rfl),trivial⟩) (rm rfl (ro rfl (dK (Ht rfl) rfl) (ro rfl (dK (Ht rfl) rfl) (ra rfl (ra rfl (eX (ts (rm rfl (rm rfl (fQ rfl rfl (eK rfl rfl (Ht rfl) (fun h=>cX (Ht rfl))) (fQ rfl rfl (eK rfl rfl (Ht rfl) (fun h=>cX (Ht rfl))) (fQ rfl rfl (eK rfl rfl (Ht rfl) (fun h=>dG U_30 (fJ rfl h) a7)) (fQ rfl rfl (eK rfl rfl (Ht rfl) (fun h=>bc (fJ rfl h) (fJ rfl h))) ?_))))))))))))))))))))
 refine ro rfl (c7 (Ht rfl) (fun h=>(fJ rfl h))) (ra rfl (eX (fW rfl (fX (eU rfl) ?_))))
 exact (bF (by simp [hl]))
theorem wO {M bs:List (List Qi)} {n m:Nat} (hM:bE M n m) (hb:∀ b,b ∈ bs → n ≤ b.length) (hn:n ≤ 1000) (hm:m ≤ 1000) (hbl:bs.length ≤ 1000):cR Tryz.prog 193 [b9 M,b9 bs] [] (Nat) (fun B=>Is (.slice (some ⟨B,0,none⟩) n n)) (fun B=>[iK B 29 51 5 (aH ar (eu M bs n))]) (fun _=>True):=by
 have hMl:=hM.1
 refine cR.intro Tryz.func193 rfl Tryz.ntmps193 rfl (fun cx Z=>(ts (ro rfl (cQ cV) (eX (ts (rm rfl (ro rfl (dG U_30 (Ht rfl) a7) (rn rfl (bM (T:=Is (.slice none 0 0)) (i:=Tryz.t29) V_30 gr rfl rfl (Ht rfl) rfl (fun _=>rfl) trivial (by show 24 * _ ≤ _; omega) zo) fun B12=>(ra rfl (eX (cK (ts (rm rfl (ro rfl (dG U_30 (Ht rfl) a7) (ro rfl (cX (cJ 0)) (eX (eG (fk 1 rfl (kV (e:=51) (s:=5)) ?_))))))))))))))))))
 refine aF (fun (i : Nat) => i ≤ M.length) (fun (i : Nat) => M.length - i) (fun (i : Nat) => [(0, b9 M), (1, b9 bs), (5, Is (.slice (some ⟨B12, 0, none⟩) M.length M.length)), (13, b9 M), (14, NT .i64 M.length), (15, NT .i64 i)]) (fun (i : Nat) => [Z, iK B12 29 51 5 (aH ar (dA (ql M bs) [] M.length i))]) 0 (Nat.zero_le _)
  (zS rfl) (aU (fun _ _ _ h=>h) (aU (aC (by rw [← cz,fA]; exact fN ar M.length)) aY)) (fun i hi=>?_)
 refine ts (ro rfl (gX (Ht rfl) (Ht rfl)) (eX (cK (dQ (Ht rfl) (fun hd0=>?_) (fun hd0=>?_)))))
 ·simp only [decide_eq_true_eq] at hd0
  have hrl:(bi M i).length = m:=hM.row zo
  have hrl2:(M.getD i []).length = m:=hrl
  refine j2 1 (i) rfl (ft hd0) (fun v0=>(cU (cK (eG (ts (rm rfl (ro rfl (dZ U_30 Z_29 (Ht rfl) (Ht rfl) rfl (dY (dU (d:=[]) hd0))) (ro rfl (dJ A_29 Z_29 (Ht rfl)) (ra rfl (ra rfl (eX (ts (rm rfl (rm rfl (rm rfl (ec Tryz.call158 (sk (l:=M.getD i []) zo) ⟨(Ht rfl),trivial⟩ rfl (fun v1 _=>(ro rfl (fY U_30 Z_29 (Ht rfl) (Ht rfl) rfl zo (by rw [Nat.mul_one,Nat.zero_add])) ?_))))))))))))))))))
  refine jX Z_29 (Ht rfl) (Ht rfl) (by simp only [aH,List.length_map,bg]; omega) (j:=1) (l:=3) rfl rfl rfl ?_
  refine eX (ts (rm rfl (ro rfl (dG U_30 (Ht rfl) a7) (ro rfl (cX (cJ 0)) (eX (eG (aO [0,1,3] rfl (by decide) ?_)))))))
  refine bA (fun (j : Nat) (v : Value) => j ≤ bs.length) (fun (j : Nat) (v : Value) => bs.length - j) (fun (j : Nat) (v : Value) => [(0, b9 M), (1, b9 bs), (5, Is (.slice (some ⟨B12, 0, none⟩) M.length M.length)), (6, NT .i64 i), (13, b9 M), (14, NT .i64 M.length), (15, NT .i64 i), (25, b9 bs), (26, NT .i64 bs.length), (27, NT .i64 j)]) (fun (j : Nat) (v : Value) => [Z, xd B12 29 51 5 (aH ar (dA (ql M bs) [] M.length i)) i v, aB 51 5 v ((bi M i ++ (bs.take j).map fun b => gv b i).map ar)]) 0 v1 (Nat.zero_le _)
   (zS rfl) (aU (fun _ _ _ h=>h) (aU (fun _ _ _ h=>h) (aU (aa (by simp)) aY))) (fun j v hj=>?_)
  refine ts (ro rfl (gX (Ht rfl) (Ht rfl)) (eX (cK (dQ (Ht rfl) (fun he=>?_) (fun he=>?_)))))
  ·simp only [decide_eq_true_eq] at he
   have hbj:i < (bs.getD j []).length:=by have h1:=hb (bs.getD j []) (by rw [CD he]; exact List.getElem_mem _); omega
   refine cU (cK (eG (ts (ro rfl (dZ U_30 Z_29 (Ht rfl) (Ht rfl) rfl (dY (dU (d:=[]) he))) (ro rfl (dJ A_29 Z_29 (Ht rfl)) (ra rfl (eX (Y.D_startA (m:=12) [] 11 2 rfl rfl (bY (Ei:=[(5,_)]) rfl rfl (bQ (bJ rfl rfl) bX) rfl rfl (dX rfl (cX (Ht rfl))) (bY (Ei:=[(6,_)]) rfl rfl (bQ (bJ rfl rfl) bX) rfl rfl (dX rfl (cX (Ht rfl))) (bY (Ei:=[(5,_)]) rfl rfl (bQ (bJ rfl rfl) bX) rfl rfl (dX rfl (cX (Ht rfl))) ?_)))))))))))
   refine bY (Ei:=[(6,_)]) rfl rfl (bQ (bJ rfl rfl) bX) rfl rfl (dX rfl (cX (Ht rfl))) (bY (Ei:=[(33,_),(34,_)]) rfl rfl (bQ (bZ 2 rfl rfl) (bQ (bZ 3 rfl rfl) bX)) rfl rfl (dX rfl (fY U_30 Z_29 (Ht rfl) (Ht rfl) rfl zo (by rw [Nat.mul_one,Nat.zero_add]))) ?_)
   refine bY (Ei:=[(35,_)]) rfl rfl (bQ (bZ 4 rfl rfl) bX) rfl rfl (dX rfl (d4 A_29 Z_29 (Ht rfl) (j:=1) rfl)) (bY (Ei:=[(9,_)]) rfl rfl (bQ (bJ rfl rfl) bX) rfl rfl (dX rfl (cX (Ht rfl))) (bY (Ei:=[(6,_)]) rfl rfl (bQ (bJ rfl rfl) bX) rfl rfl (dX rfl (cX (Ht rfl))) (bY (Ei:=[(37,_),(38,_)]) rfl rfl (bQ (bZ 6 rfl rfl) (bQ (bZ 7 rfl rfl) bX)) rfl rfl (dX rfl (dZ U_29 Z_51 (Ht rfl) (Ht rfl) rfl (dY (dU (d:=Qi.zero) hbj)))) ?_)))
   refine bY (Ei:=[(39,_)]) rfl rfl (bQ (bZ 8 rfl rfl) bX) rfl rfl (dX rfl (dJ A_51 Z_51 (Ht rfl))) (bY (Ei:=[(40,_)]) rfl rfl (bQ (bZ 9 rfl rfl) bX) rfl rfl (dX rfl (aN (xs:=[.tmp 40]) U_29 Z_51 O_51 (cW (Ht rfl) cG) rfl rfl rfl)) (Y.D_app (Ei:=[(36,_),(41,_)]) rfl rfl rfl rfl (bQ (bZ 5 rfl rfl) (bQ (bZ 10 rfl rfl) bX)) rfl (jk (inf:=Tryz.t51) gt f9 rfl rfl rfl (Ht rfl) (Ht rfl) (by simp) (fun T hT=>by simp at hT; subst hT; exact El.ag rfl) (by show _ * 88 ≤ _; simp only [List.length_map,List.length_append,List.length_take,List.length_cons,List.length_nil]; omega) (by simp only [List.length_map,List.length_append,List.length_take,List.length_cons,List.length_nil]; omega)) ?_))
   refine Y.D_done au rfl (by kernel_rfl) rfl (by simp [Y.okP]) rfl rfl (bU (bU (bU (bU (bU (bU (bU (bU (bU (bU (bU (Y.F_app (fun v2=>Y.F_nil ?_)))))))))))))
   refine ro rfl (fY U_30 Z_29 (Ht rfl) (Ht rfl) rfl zo (by rw [Nat.mul_one,Nat.zero_add])) ?_
   refine jX Z_29 (Ht rfl) (Ht rfl) (by simp only [aH,List.length_map,bg]; omega) (j:=1) (l:=3) rfl rfl rfl ?_
   refine eX (as (cY (ro rfl (dV (Ht rfl) (cJ 1) z6) (rm rfl (eX (aO [0,1,3] rfl (by decide) (fU (j + 1,v2) he (by dsimp only; omega) (zS rfl) (aU (fun _ _ _ h=>h) (aU (fun _ _ _ h=>h) (aU (aa ((iE ar _ (gv (bs.getD j []) i)).trans (congrArg _ (AQ he)))) aY))))))))))
  ·simp only [decide_eq_false_iff_not] at he
   obtain rfl:bs.length = j:=Nat.le_antisymm zo hj
   refine gV rfl (as (bR 1 2 rfl rfl (by decide) (by simp only [aH,List.length_map,bg]; omega) ?_))
   refine cY (ro rfl (dV (Ht rfl) (cJ 1) z6) (rm rfl (eX (aO [0,1] rfl (by decide) (fU (i + 1) hd0 zo (zS rfl) (aU (fun _ _ _ h=>h) (aU (aC (by rw [List.take_length,c9,← dn (f:=ql M bs)])) aY)))))))
 ·simp only [decide_eq_false_iff_not] at hd0
  obtain rfl:i = M.length:=Nat.le_antisymm hi zo
  subst hMl
  refine gV rfl (ts (rm rfl (ra rfl (eX ?_))))
  exact dS B12 trivial [0,1] ⟨⟨_,rfl,fun _ _ _ h=>h⟩,⟨_,rfl,(aC (by rw [di]; rfl))⟩,trivial⟩ (by decide) (kn rfl (eU rfl))
end
end Go.Proofs.YteohomnhncjcnaaGreat
