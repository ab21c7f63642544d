/- What functions of the program compute, proved by walks over their code, and the plain mathematics of it; a part of the proof in the last text. -/
import Derived.Test.YteimkhgiekndjaaGreatP03
set_option linter.unusedVariables false
set_option linter.unusedSimpArgs false
set_option maxRecDepth 100000
set_option maxHeartbeats 4000000
namespace Go.Proofs.YteimkhgiekndjaaGreat
section
open Go Go.RowKit
theorem c_rsigned {b:Bool} {m:Nat}:Fun Tryz.prog 255 [BoolT b,NatT m] (WholeT (sgn b m)):=by
 refine Fun.intro Tryz.func255 rfl Tryz.ntmps255 rfl (fun cx=>(ts (rn rfl (eW (Ts:=[Is (.bool false),Is (.slice none 0 0)]) O_96 rfl (fun V=>aW ⟨rfl,trivial⟩ (aW ⟨rfl,trivial⟩ (aG)))) fun B4=>(eX (ts (rm rfl (rm rfl (fQ rfl rfl (eK rfl rfl (Ht rfl) (fun h=>cX (Ht rfl))) (fQ rfl rfl (eK rfl rfl (Ht rfl) (fun h=>dG U_40 (fJ rfl h) len_map)) (fQ rfl rfl (eK rfl rfl (Ht rfl) (fun h=>op_gtrN (fJ rfl h) (cJ 0))) (ro rfl (op_and (Ht rfl) (fun h=>(fJ rfl h))) (rm rfl ?_))))))))))))
 refine ro rfl (bld_96_0_1 (Ht rfl) (Ht rfl)) (gQ Z_96 (Ht rfl) (Ht rfl) rfl (i:=0) rfl (aK rfl) rfl rfl (eX (fW rfl (fX (fK A_96 Z_96 rfl (i:=0) rfl rfl) ?_))))
 exact sgn_of
theorem c_rIntOf {n:Int} (h1:-9223372036854775808 ≤ n) (h2:n ≤ 9223372036854775807):Fun Tryz.prog 216 [IntT .i64 n] (WholeT n):=by
 refine Fun.intro Tryz.func216 rfl Tryz.ntmps216 rfl (fun cx=>(ts (rn rfl (eW (Ts:=[Is (.bool false),Is (.slice none 0 0)]) O_96 rfl (fun V=>aW ⟨rfl,trivial⟩ (aW ⟨rfl,trivial⟩ (aG)))) fun B2=>(eX (cK (ts (rm rfl (ro rfl (op_lss (Ht rfl) cV) (eX (dQ (Ht rfl) (fun hb=>?_) (fun hb=>?_)))))))))))
 ·have hn : n < 0 := by simpa using hb
  refine ts (rm rfl (ro rfl (op_neg (Ht rfl) (r:=IntKind.i64.wrap (-n)) rfl) ?_))
  refine ro rfl (op_conv U_2 U_256 (Ht rfl) (r:=((n.natAbs:Nat):Int)) (by rw [IntKind.wrap_u64,IntKind.wrap_i64]; omega)) ?_
  refine ro rfl (cZ Tryz.call262 (c_rNatOf (by omega)) ⟨(Ht rfl),trivial⟩) (ro rfl (bld_96_0_1 cV (Ht rfl)) (gQ Z_96 (Ht rfl) (Ht rfl) rfl (i:=0) rfl (aK rfl) rfl rfl (eX (fW rfl (fX (fK A_96 Z_96 rfl (i:=0) rfl rfl) ?_)))))
  exact (agg_of (by rw [hb]; rfl))
 ·have hn : ¬ n < 0 := by simpa using hb
  refine cU (ts (rm rfl (ro rfl (op_conv U_2 U_256 (Ht rfl) (r:=((n.natAbs:Nat):Int)) (by rw [IntKind.wrap_u64]; omega)) ?_)))
  refine ro rfl (cZ Tryz.call262 (c_rNatOf (by omega)) ⟨(Ht rfl),trivial⟩) (ro rfl (bld_96_0_1 cV (Ht rfl)) (gQ Z_96 (Ht rfl) (Ht rfl) rfl (i:=0) rfl (aK rfl) rfl rfl (eX (fW rfl (fX (fK A_96 Z_96 rfl (i:=0) rfl rfl) ?_)))))
  exact (agg_of (by rw [hb]; rfl))
theorem c_rIntNeg {x:Int}:Fun Tryz.prog 217 [WholeT x] (WholeT (-x)):=by
 refine Fun.intro Tryz.func217 rfl Tryz.ntmps217 rfl (fun cx=>(ts (rn rfl (fG (Ht rfl)) fun B1=>(rn rfl (eW (Ts:=[Is (.bool false),Is (.slice none 0 0)]) O_96 rfl (fun V=>aW ⟨rfl,trivial⟩ (aW ⟨rfl,trivial⟩ (aG)))) fun B2=>(eX (ts (ro rfl (eZ fa_96_0 (Ht rfl) rfl) (ro rfl (eY A_4 Z_4 (Ht rfl) (i:=0) rfl rfl) (ro rfl (op_not (Ht rfl)) (ro rfl (eZ fa_96_1 (Ht rfl) rfl) (ro rfl (eY A_40 Z_40 (Ht rfl) (i:=0) rfl rfl) (ro rfl (cZ K_255 c_rsigned ⟨(Ht rfl),(Ht rfl),trivial⟩) ?_))))))))))))
 refine gQ Z_96 (Ht rfl) (Ht rfl) rfl (i:=1) rfl (aK rfl) rfl rfl (eX (fW rfl (fX (fK A_96 Z_96 rfl (i:=1) rfl rfl) ?_)))
 exact (whole_of (sgn_minus x))
theorem c_rIntAdd {x y:Int} (hx:(dg x.natAbs).length ≤ 17592186044416) (hy:(dg y.natAbs).length ≤ 17592186044416):Fun Tryz.prog 204 [WholeT x,WholeT y] (WholeT (x + y)):=by
 refine Fun.intro Tryz.func204 rfl Tryz.ntmps204 rfl (fun cx=>(ts (rn rfl (fG (Ht rfl)) fun B2=>(rn rfl (fG (Ht rfl)) fun B3=>(rn rfl (eW (Ts:=[Is (.bool false),Is (.slice none 0 0)]) O_96 rfl (fun V=>aW ⟨rfl,trivial⟩ (aW ⟨rfl,trivial⟩ (aG)))) fun B4=>(eX (cK (ts (ro rfl (eZ fa_96_0 (Ht rfl) rfl) (ro rfl (eY A_4 Z_4 (Ht rfl) (i:=0) rfl rfl) (ro rfl (eZ fa_96_0 (Ht rfl) rfl) (ro rfl (eY A_4 Z_4 (Ht rfl) (i:=1) rfl rfl) (ro rfl (op_beq U_4 (Ht rfl) (Ht rfl)) ?_)))))))))))))
 refine eX (dQ (Ht rfl) (fun hb=>?_) (fun hb=>?_))
 ·have he : decide (x < 0) = decide (y < 0) := by simpa using hb
  refine cK (fZ (m:=7) (dp 2 rfl (eZ fa_96_0 (Ht rfl) rfl) (dq 10 0 rfl (eY A_4 Z_4 (Ht rfl) (i:=0) rfl rfl) (dp 2 rfl (eZ fa_96_1 (Ht rfl) rfl) (dq 12 2 rfl (eY A_40 Z_40 (Ht rfl) (i:=0) rfl rfl) (dp 3 rfl (eZ fa_96_1 (Ht rfl) rfl) (dq 14 4 rfl (eY A_40 Z_40 (Ht rfl) (i:=1) rfl rfl) (dqq 13 3 15 5 rfl (cZ Tryz.call256 (c_rNatAdd (by omega) (by omega)) ⟨(Ht rfl),(Ht rfl),trivial⟩) (fV mixed rfl (by kernel_rfl) (aJ (aJ (aJ (aJ (aJ (aJ (aJ (aV ?_)))))))))))))))))
  refine ro rfl (cZ K_255 c_rsigned ⟨(Ht rfl),(Ht rfl),trivial⟩) (gQ Z_96 (Ht rfl) (Ht rfl) rfl (i:=2) rfl (aK rfl) rfl rfl (eX (fW rfl (fX (fK A_96 Z_96 rfl (i:=2) rfl rfl) ?_))))
  exact (whole_of (sgn_plus he))
 ·have he : decide (x < 0) ≠ decide (y < 0) := by simpa using hb
  refine cU (cK (ts (ro rfl (eZ fa_96_1 (Ht rfl) rfl) (ro rfl (eY A_40 Z_40 (Ht rfl) (i:=0) rfl rfl) (ro rfl (eZ fa_96_1 (Ht rfl) rfl) (ro rfl (eY A_40 Z_40 (Ht rfl) (i:=1) rfl rfl) (ro rfl (cZ Tryz.call257 (c_rNatCmp (by omega) (by omega)) ⟨(Ht rfl),(Ht rfl),trivial⟩) (ro rfl (op_geq (Ht rfl) cV) (eX (dQ (Ht rfl) (fun hc=>?_) (fun hc=>?_)))))))))))
  ·have hle : y.natAbs ≤ x.natAbs := cmpZ_ge (by simpa using hc)
   refine cK (fZ (m:=7) (dp 2 rfl (eZ fa_96_0 (Ht rfl) rfl) (dq 24 0 rfl (eY A_4 Z_4 (Ht rfl) (i:=0) rfl rfl) (dp 2 rfl (eZ fa_96_1 (Ht rfl) rfl) (dq 26 2 rfl (eY A_40 Z_40 (Ht rfl) (i:=0) rfl rfl) (dp 3 rfl (eZ fa_96_1 (Ht rfl) rfl) (dq 28 4 rfl (eY A_40 Z_40 (Ht rfl) (i:=1) rfl rfl) (dqq 27 3 29 5 rfl (cZ Tryz.call258 (c_rNatSub (by omega) (by omega)) ⟨(Ht rfl),(Ht rfl),trivial⟩) (fV mixed rfl (by kernel_rfl) (aJ (aJ (aJ (aJ (aJ (aJ (aJ (aV ?_)))))))))))))))))
   refine ro rfl (cZ K_255 c_rsigned ⟨(Ht rfl),(Ht rfl),trivial⟩) (gQ Z_96 (Ht rfl) (Ht rfl) rfl (i:=2) rfl (aK rfl) rfl rfl (eX (fW rfl (fX (fK A_96 Z_96 rfl (i:=2) rfl rfl) ?_))))
   exact (whole_of (sgn_less he hle))
  ·have hle : x.natAbs ≤ y.natAbs := Nat.le_of_lt (cmpZ_lt (by simpa using hc))
   refine cU (cK (fZ (m:=7) (dp 3 rfl (eZ fa_96_0 (Ht rfl) rfl) (dq 32 0 rfl (eY A_4 Z_4 (Ht rfl) (i:=1) rfl rfl) (dp 3 rfl (eZ fa_96_1 (Ht rfl) rfl) (dq 34 2 rfl (eY A_40 Z_40 (Ht rfl) (i:=1) rfl rfl) (dp 2 rfl (eZ fa_96_1 (Ht rfl) rfl) (dq 36 4 rfl (eY A_40 Z_40 (Ht rfl) (i:=0) rfl rfl) (dqq 35 3 37 5 rfl (cZ Tryz.call258 (c_rNatSub (by omega) (by omega)) ⟨(Ht rfl),(Ht rfl),trivial⟩) (fV mixed rfl (by kernel_rfl) (aJ (aJ (aJ (aJ (aJ (aJ (aJ (aV ?_))))))))))))))))))
   refine ro rfl (cZ K_255 c_rsigned ⟨(Ht rfl),(Ht rfl),trivial⟩) (gQ Z_96 (Ht rfl) (Ht rfl) rfl (i:=2) rfl (aK rfl) rfl rfl (eX (fW rfl (fX (fK A_96 Z_96 rfl (i:=2) rfl rfl) ?_))))
   exact (whole_of (by rw [sgn_less (Ne.symm he) hle,Int.add_comm]))
theorem c_rIntSub {x y:Int} (hx:(dg x.natAbs).length ≤ 17592186044416) (hy:(dg y.natAbs).length ≤ 17592186044416):Fun Tryz.prog 202 [WholeT x,WholeT y] (WholeT (x + -y)):=by
 have hny:=dl_neg y
 refine Fun.intro Tryz.func202 rfl Tryz.ntmps202 rfl (fun cx=>(ts (rn rfl (fG (Ht rfl)) fun B2=>(rn rfl (fG (Ht rfl)) fun B3=>(rn rfl (eW (Ts:=[Is (.bool false),Is (.slice none 0 0)]) O_96 rfl (fun V=>aW ⟨rfl,trivial⟩ (aW ⟨rfl,trivial⟩ (aG)))) fun B4=>(eX (cK (fZ (m:=3) (dp 2 rfl (eJ A_96 Z_96 (Ht rfl) (i:=0) rfl rfl rfl) (dp 3 rfl (eJ A_96 Z_96 (Ht rfl) (i:=1) rfl rfl rfl) (dq 6 1 rfl (cZ K_217 c_rIntNeg ⟨(Ht rfl),trivial⟩) (fV mixed rfl (by kernel_rfl) (aJ (aJ (aJ (aV ?_))))))))))))))))
 refine ro rfl (cZ Tryz.call204 (c_rIntAdd (by omega) (by omega)) ⟨(Ht rfl),(Ht rfl),trivial⟩) (gQ Z_96 (Ht rfl) (Ht rfl) rfl (i:=2) rfl (aK rfl) rfl rfl (eX ?_))
 exact fW rfl (fK A_96 Z_96 rfl (i:=2) rfl rfl)
theorem c_rIntMul {x y:Int} (hx:(dg x.natAbs).length ≤ 17592186044416) (hy:(dg y.natAbs).length ≤ 17592186044416):Fun Tryz.prog 203 [WholeT x,WholeT y] (WholeT (x * y)):=by
 refine Fun.intro Tryz.func203 rfl Tryz.ntmps203 rfl (fun cx=>(ts (rn rfl (fG (Ht rfl)) fun B2=>(rn rfl (fG (Ht rfl)) fun B3=>(rn rfl (eW (Ts:=[Is (.bool false),Is (.slice none 0 0)]) O_96 rfl (fun V=>aW ⟨rfl,trivial⟩ (aW ⟨rfl,trivial⟩ (aG)))) fun B4=>(eX (cK (fZ (m:=10) (dp 2 rfl (eZ fa_96_0 (Ht rfl) rfl) (dq 5 0 rfl (eY A_4 Z_4 (Ht rfl) (i:=0) rfl rfl) (dp 3 rfl (eZ fa_96_0 (Ht rfl) rfl) (dq 7 2 rfl (eY A_4 Z_4 (Ht rfl) (i:=1) rfl rfl) (dqq 6 1 8 3 rfl (op_bne U_4 (Ht rfl) (Ht rfl)) ?_)))))))))))))
 refine dp 2 rfl (eZ fa_96_1 (Ht rfl) rfl) (dq 10 5 rfl (eY A_40 Z_40 (Ht rfl) (i:=0) rfl rfl) (dp 3 rfl (eZ fa_96_1 (Ht rfl) rfl) (dq 12 7 rfl (eY A_40 Z_40 (Ht rfl) (i:=1) rfl rfl) (dqq 11 6 13 8 rfl (cZ Tryz.call205 (c_rNatMul (by omega) (by omega)) ⟨(Ht rfl),(Ht rfl),trivial⟩) (fV mixed rfl (by kernel_rfl) (aJ (aJ (aJ (aJ (aJ (aJ (aJ (aJ (aJ (aJ (aV (ro rfl (cZ K_255 c_rsigned ⟨(Ht rfl),(Ht rfl),trivial⟩) (gQ Z_96 (Ht rfl) (Ht rfl) rfl (i:=2) rfl (aK rfl) rfl rfl ?_))))))))))))))))))
 refine eX (fW rfl (fX (fK A_96 Z_96 rfl (i:=2) rfl rfl) ?_))
 exact (whole_of (sgn_times x y))
theorem c_rMake {A B:Int} {D:Nat} (hD:0 < D) (hA:(dg A.natAbs).length ≤ 17592186044415) (hB:(dg B.natAbs).length ≤ 17592186044415) (hD2:(dg D).length ≤ 17592186044415):Fun Tryz.prog 201 [WholeT A,WholeT B,NatT D] (QT (Qi.mk' A B D)):=by
 have hg1:=dl_gcd hA hB
 have hg2:=dl_gcd hg1 hD2
 have hgp:Nat.gcd (Nat.gcd A.natAbs B.natAbs) D ≠ 0:=fun e=>by have:=Nat.gcd_eq_zero_iff.1 e; omega
 refine Fun.intro Tryz.func201 rfl Tryz.ntmps201 rfl (fun cx=>(ts (rn rfl (fG (Ht rfl)) fun B3=>(rn rfl (fG (Ht rfl)) fun B4=>(rn rfl (eW (Ts:=[Is (.bool false),Is (.slice none 0 0),Is (.bool false),Is (.slice none 0 0),Is (.slice none 0 0)]) O_98 rfl (fun V=>aW ⟨rfl,trivial⟩ (aW ⟨rfl,trivial⟩ (aW ⟨rfl,trivial⟩ (aW ⟨rfl,trivial⟩ (aW ⟨rfl,trivial⟩ (aG))))))) fun B6=>(eX (ts (ro rfl (eZ fa_96_1 (Ht rfl) rfl) (ro rfl (eY A_40 Z_40 (Ht rfl) (i:=0) rfl rfl) ?_)))))))))
 refine ro rfl (eZ fa_96_1 (Ht rfl) rfl) (ro rfl (eY A_40 Z_40 (Ht rfl) (i:=1) rfl rfl) (ro rfl (cZ Tryz.call253 (c_rGcd (by omega) (by omega)) ⟨(Ht rfl),(Ht rfl),trivial⟩) (rm rfl (ro rfl (cZ Tryz.call253 (c_rGcd (by omega) (by omega)) ⟨(Ht rfl),(Ht rfl),trivial⟩) (ra rfl (eX (cK (ts (rm rfl (ro rfl (dG U_40 (Ht rfl) len_map) (ro rfl (op_eqlN (Ht rfl) (cJ 1)) (rm rfl (fQ rfl rfl (eK rfl rfl (Ht rfl) (fun h=>cX (Ht rfl))) (fQ rfl rfl (eK rfl rfl (Ht rfl) (fun h=>dZ U_40 Z_207 (fJ rfl h) (cJ 0) rfl (dY (get_some (by first | omega | (simp at h; omega)))))) ?_))))))))))))))
 refine fQ rfl rfl (eK rfl rfl (Ht rfl) (fun h=>dJ A_207 Z_207 (fJ rfl h))) (fQ rfl rfl (eK rfl rfl (Ht rfl) (fun h=>op_eqlN (fJ rfl h) (cJ 1))) (ro rfl (op_and (Ht rfl) (fun h=>(fJ rfl h))) (eX (dQ (Ht rfl) (fun hb=>?_) (fun hb=>?_)))))
 ·rw [one_dg] at hb
  have hg:Qi.g3 A B D = 1:=by simpa [Qi.g3] using hb
  refine ts (ro rfl (eJ A_96 Z_96 (Ht rfl) (i:=0) rfl rfl rfl) (ro rfl (eJ A_96 Z_96 (Ht rfl) (i:=1) rfl rfl rfl) (rm rfl (ro rfl (bld_98_0_1_2 (Ht rfl) (Ht rfl) (Ht rfl)) (gQ Z_98 (Ht rfl) (Ht rfl) rfl (i:=2) rfl (aK rfl) rfl rfl (eX (fW rfl (fX (fK A_98 Z_98 rfl (i:=2) rfl rfl) ?_))))))))
  exact (make_one hD hg)
 ·refine cU (ts (ro rfl (eZ fa_96_1 (Ht rfl) rfl) (ro rfl (eY A_40 Z_40 (Ht rfl) (i := 0) rfl rfl) (rm rfl (ro rfl (cZ K_254 (c_rDiv (by omega) (by omega) (by omega)) ⟨(Ht rfl), (Ht rfl), trivial⟩) (rm rfl (ro rfl (dK (Ht rfl) rfl) (ro rfl (dK (Ht rfl) rfl) (ra rfl (ra rfl (eX (ts (ro rfl (eZ fa_96_1 (Ht rfl) rfl) (ro rfl (eY A_40 Z_40 (Ht rfl) (i := 1) rfl rfl) (rm rfl (ro rfl (cZ K_254 (c_rDiv (by omega) (by omega) (by omega)) ⟨(Ht rfl), (Ht rfl), trivial⟩) (rm rfl (ro rfl (dK (Ht rfl) rfl) ?_))))))))))))))))))
  refine ro rfl (dK (Ht rfl) rfl) (ra rfl (ra rfl (eX (ts (rm rfl (rm rfl (ro rfl (cZ K_254 (c_rDiv (by omega) (by omega) (by omega)) ⟨(Ht rfl),(Ht rfl),trivial⟩) (rm rfl (ro rfl (dK (Ht rfl) rfl) (ro rfl (dK (Ht rfl) rfl) (ra rfl (ra rfl (eX (cK (fZ (m:=9) (dp 3 rfl (eZ fa_96_0 (Ht rfl) rfl) (dq 54 0 rfl (eY A_4 Z_4 (Ht rfl) (i:=0) rfl rfl) (dp 8 rfl (cX (Ht rfl)) (dqq 55 1 56 2 rfl (cZ K_255 c_rsigned ⟨(Ht rfl),(Ht rfl),trivial⟩) (dp 4 rfl (eZ fa_96_0 (Ht rfl) rfl) ?_))))))))))))))))))))
  refine dq 58 4 rfl (eY A_4 Z_4 (Ht rfl) (i:=1) rfl rfl) (dp 10 rfl (cX (Ht rfl)) (dqq 59 5 60 6 rfl (cZ K_255 c_rsigned ⟨(Ht rfl),(Ht rfl),trivial⟩) (dp 12 rfl (cX (Ht rfl)) (fV mixed rfl (by kernel_rfl) (aJ (aJ (aJ (aJ (aJ (aJ (aJ (aJ (aJ (aV (ro rfl (bld_98_0_1_2 (Ht rfl) (Ht rfl) (Ht rfl)) (gQ Z_98 (Ht rfl) (Ht rfl) rfl (i:=2) rfl (aK rfl) rfl rfl (eX (fW rfl (fX (fK A_98 Z_98 rfl (i:=2) rfl rfl) ?_)))))))))))))))))))
  exact (make_sgn hD rfl)
theorem c_rWhole {n:Int} (h1:-9223372036854775808 ≤ n) (h2:n ≤ 9223372036854775807):Fun Tryz.prog 117 [IntT .i64 n] (QT (Qi.ofInt n)):=by
 refine Fun.intro Tryz.func117 rfl Tryz.ntmps117 rfl (fun cx=>(ts (rn rfl (eW (Ts:=[Is (.bool false),Is (.slice none 0 0),Is (.bool false),Is (.slice none 0 0),Is (.slice none 0 0)]) O_98 rfl (fun V=>aW ⟨rfl,trivial⟩ (aW ⟨rfl,trivial⟩ (aW ⟨rfl,trivial⟩ (aW ⟨rfl,trivial⟩ (aW ⟨rfl,trivial⟩ (aG))))))) fun B2=>(eX (ts (rm rfl (ro rfl (cZ Tryz.call216 (c_rIntOf h1 h2) ⟨(Ht rfl),trivial⟩) (ro rfl (bld_96_ ) (ro rfl (op_bslice (xs:=[_]) U_40 Z_207 O_207 (cW (cJ 1) cG) rfl rfl rfl) ?_)))))))))
 refine ro rfl (bld_98_0_1_2 (Ht rfl) (Ht rfl) (Ht rfl)) (gQ Z_98 (Ht rfl) (Ht rfl) rfl (i:=0) rfl (aK rfl) rfl rfl (eX (fW rfl (fX (fK A_98 Z_98 rfl (i:=0) rfl rfl) ?_))))
 exact q_int
theorem c_rNew {p q d:Int} (p1:-9223372036854775808 ≤ p) (p2:p ≤ 9223372036854775807) (q1:-9223372036854775808 ≤ q) (q2:q ≤ 9223372036854775807) (d1:-9223372036854775808 ≤ d) (d2:d ≤ 9223372036854775807) (hd:d ≠ 0):Fun Tryz.prog 116 [IntT .i64 p,IntT .i64 q,IntT .i64 d] (TupT [QT (Qi.frac p q d),IntT .i64 0]):=by
 have lp:=dl64 p1 p2; have lq:=dl64 q1 q2; have ld:=dl64 d1 d2; have np:=dl_neg p; have nq:=dl_neg q
 refine Fun.intro Tryz.func116 rfl Tryz.ntmps116 rfl (fun cx=>(ts (rn rfl (eW (Ts:=[Is (.bool false),Is (.slice none 0 0),Is (.bool false),Is (.slice none 0 0),Is (.slice none 0 0)]) O_98 rfl (fun V=>aW ⟨rfl,trivial⟩ (aW ⟨rfl,trivial⟩ (aW ⟨rfl,trivial⟩ (aW ⟨rfl,trivial⟩ (aW ⟨rfl,trivial⟩ (aG))))))) fun B6=>(ro rfl (cQ (cJ 0)) (eX (cK (ts (rm rfl (ro rfl (op_eql (Ht rfl) cV) (eX (T_condF (Ht rfl) (by simp [hd]) ?_)))))))))))
 refine cU (ts (rm rfl (ro rfl (cZ Tryz.call216 (c_rIntOf d1 d2) ⟨(Ht rfl),trivial⟩) (rn rfl (eW (Ts:=[Is (.bool false),Is (.slice none 0 0)]) O_96 rfl (fun V=>aW ⟨rfl,trivial⟩ (aW ⟨rfl,trivial⟩ (aG)))) fun B8=>(gQ Z_96 (Ht rfl) (Ht rfl) rfl (i:=1) rfl (aK rfl) rfl rfl (eX (ts (rm rfl (ro rfl (cZ Tryz.call216 (c_rIntOf p1 p2) ⟨(Ht rfl),trivial⟩) (rm rfl (ro rfl (cZ Tryz.call216 (c_rIntOf q1 q2) ⟨(Ht rfl),trivial⟩) (rn rfl (eW (Ts:=[Is (.bool false),Is (.slice none 0 0)]) O_96 rfl (fun V=>aW ⟨rfl,trivial⟩ (aW ⟨rfl,trivial⟩ (aG)))) fun B9=>?_))))))))))))
 refine rn rfl (eW (Ts:=[Is (.bool false),Is (.slice none 0 0)]) O_96 rfl (fun V=>aW ⟨rfl,trivial⟩ (aW ⟨rfl,trivial⟩ (aG)))) fun B10=>gQ Z_96 (Ht rfl) (Ht rfl) rfl (i:=2) rfl (aK rfl) rfl rfl (gQ Z_96 (Ht rfl) (Ht rfl) rfl (i:=3) rfl (aK rfl) rfl rfl (eX (cK (T_join2 (fun (a:Int) (b:Int)=>Qi.mk' a b d.natAbs = Qi.frac p q d ∧ (dg a.natAbs).length ≤ 2 ∧ (dg b.natAbs).length ≤ 2) (fun (a:Int) (b:Int)=>[(6,PtrB B6 0),(8,PtrB B8 0),(9,PtrB B9 0),(10,PtrB B10 0)]) (fun (a:Int) (b:Int)=>[box B6 98 [Is (.bool false),Is (.slice none 0 0),Is (.bool false),Is (.slice none 0 0),Is (.slice none 0 0)],box B8 96 [BoolT (decide (d < 0)),NatT (d).natAbs],box B9 96 [BoolT (decide (a < 0)),NatT (a).natAbs],box B10 96 [BoolT (decide (b < 0)),NatT (b).natAbs]]) ?_ (fun a b ⟨hab,ha,hb⟩=>?_)))))
 ·refine ts (ro rfl (eZ fa_96_0 (Ht rfl) rfl) (ro rfl (eY A_4 Z_4 (Ht rfl) (i := 1) rfl rfl) (eX (dQ (Ht rfl) (fun hn => ?_) (fun hn => ?_)))))
  ·simp only [decide_eq_true_eq] at hn
   refine fZ (m:=3) (dp 9 rfl (eJ A_96 Z_96 (Ht rfl) (i:=2) rfl rfl rfl) (dq 22 0 rfl (cZ K_217 c_rIntNeg ⟨(Ht rfl),trivial⟩) (dp 10 rfl (eJ A_96 Z_96 (Ht rfl) (i:=3) rfl rfl rfl) (fV mixed rfl (by kernel_rfl) (aJ (aJ (aJ (aV (ro rfl (cZ K_217 c_rIntNeg ⟨(Ht rfl),trivial⟩) (gQ Z_96 (Ht rfl) (Ht rfl) rfl (i:=2) rfl (aK rfl) rfl rfl (gQ Z_96 (Ht rfl) (Ht rfl) rfl (i:=3) rfl (aK rfl) rfl rfl (eX (T_joined (-p,-q) ⟨Qi.frac_neg hn,by dsimp only; omega,by dsimp only; omega⟩ (aQ rfl (aQ rfl (aQ rfl (aQ rfl aX)))) (aU (box_of rfl) (aU (box_of rfl) (aU (box_of rfl) (aU (box_of rfl) aY)))))))))))))))))
  ·simp only [decide_eq_false_iff_not] at hn
   refine cU (T_joined (p,q) ⟨Qi.frac_pos hn hd,by omega,by omega⟩ (aQ rfl (aQ rfl (aQ rfl (aQ rfl aX)))) (HSub.refl _))
 ·refine ts (ro rfl (eJ A_96 Z_96 (Ht rfl) (i := 2) rfl rfl rfl) (ro rfl (eJ A_96 Z_96 (Ht rfl) (i := 3) rfl rfl rfl) (ro rfl (eZ fa_96_1 (Ht rfl) rfl) (ro rfl (eY A_40 Z_40 (Ht rfl) (i := 1) rfl rfl) (ro rfl (cZ Tryz.call201 (c_rMake (by omega) (by omega) (by omega) (by omega)) ⟨(Ht rfl), (Ht rfl), (Ht rfl), trivial⟩) (gQ Z_98 (Ht rfl) (Ht rfl) rfl (i := 0) rfl (aK rfl) rfl rfl (ro rfl (cQ (cJ 0)) (eX (T_ret2 rfl (fX (fK A_98 Z_98 rfl (i := 0) rfl rfl) ?_) (eU rfl))))))))))
  exact (q_of hab)
theorem c_rOf {r:Rt}:Fun Tryz.prog 52 [RatT r] (QT r.q):=by
 have hr1:=r.h1; have hr2:=r.h2; have hr3:=r.h3; have hr4:=r.h4; have hr5:=r.d1; have hr6:=r.d2; have hr0:=r.d0
 refine Fun.intro Tryz.func52 rfl Tryz.ntmps52 rfl (fun cx=>(ts (rn rfl (fG (Ht rfl)) fun B1=>(rn rfl (eW (Ts:=[Is (.bool false),Is (.slice none 0 0),Is (.bool false),Is (.slice none 0 0),Is (.slice none 0 0)]) O_98 rfl (fun V=>aW ⟨rfl,trivial⟩ (aW ⟨rfl,trivial⟩ (aW ⟨rfl,trivial⟩ (aW ⟨rfl,trivial⟩ (aW ⟨rfl,trivial⟩ (aG))))))) fun B2=>(eX (cK (T_join (fun (uu:Unit)=>True) (fun (uu:Unit)=>[(1,PtrB B1 0),(2,PtrB B2 0)]) (fun (uu:Unit)=>[box B1 91 [IntT .i64 r.re,IntT .i64 r.im,IntT .i64 r.d],box B2 98 [Is (.bool false),Is (.slice none 0 0),Is (.bool false),Is (.slice none 0 0),Is (.slice none 0 0)]]) ?_ (fun uu _=>?_))))))))
 ·refine ts (ro rfl (eZ fa_91_2 (Ht rfl) rfl) (ro rfl (eY A_2 Z_2 (Ht rfl) (i := 0) rfl rfl) (ro rfl (op_eql (Ht rfl) cV) (eX (dQ (Ht rfl) (fun hb => ?_) (fun hb => ?_))))))
  ·simp only [decide_eq_true_eq] at hb
   refine cY (ro rfl (eZ fa_91_2 (Ht rfl) rfl) (R_st Z_2 (Ht rfl) (cJ 1) (i:=0) rfl (aK rfl) rfl (eX (T_joined () trivial (aQ rfl (aQ rfl aX)) (aU (box_of (by rw [Rt.d,if_pos hb]; rfl)) (aU (box_of rfl) aY))))))
  ·simp only [decide_eq_false_iff_not] at hb
   refine cU (T_joined () trivial (aQ rfl (aQ rfl aX)) (aU (box_of (by rw [Rt.d,if_neg hb])) (aU (box_of rfl) aY)))
 ·refine ts (ro rfl (eZ fa_91_0 (Ht rfl) rfl) (ro rfl (eY A_2 Z_2 (Ht rfl) (i := 0) rfl rfl) (ro rfl (eZ fa_91_1 (Ht rfl) rfl) (ro rfl (eY A_2 Z_2 (Ht rfl) (i := 0) rfl rfl) (ro rfl (eZ fa_91_2 (Ht rfl) rfl) (ro rfl (eY A_2 Z_2 (Ht rfl) (i := 0) rfl rfl) (ro rfl (cZ Tryz.call116 (c_rNew hr1 hr2 hr3 hr4 hr5 hr6 hr0) ⟨(Ht rfl), (Ht rfl), (Ht rfl), trivial⟩) (rm rfl (ro rfl (dK (Ht rfl) rfl) (ro rfl (dK (Ht rfl) rfl) (rn rfl (eW (Ts := [Is (.bool false), Is (.slice none 0 0), Is (.bool false), Is (.slice none 0 0), Is (.slice none 0 0)]) O_98 rfl (fun V => aW ⟨rfl, trivial⟩ (aW ⟨rfl, trivial⟩ (aW ⟨rfl, trivial⟩ (aW ⟨rfl, trivial⟩ (aW ⟨rfl, trivial⟩ (aG))))))) fun B3 => ?_)))))))))))
  refine gQ Z_98 (Ht rfl) (Ht rfl) rfl (i:=2) rfl (aK rfl) rfl rfl (ra rfl (eX (ts (ro rfl (eJ A_98 Z_98 (Ht rfl) (i:=2) rfl rfl rfl) (gQ Z_98 (Ht rfl) (Ht rfl) rfl (i:=1) rfl (aK rfl) rfl rfl (eX ?_))))))
  exact fW rfl (fK A_98 Z_98 rfl (i:=1) rfl rfl)
theorem c_rAdd {x y:Qi} {L M:Nat} [hx:FitC x L] [hy:FitC y M] (h:L + M + 1 ≤ 17592186044415):Fun Tryz.prog 159 [QT x,QT y] (QT (x + y)):=by
 have hxa:=Fit_a hx.fit; have hxb:=Fit_b hx.fit; have hxd:=Fit_d hx.fit
 have hya:=Fit_a hy.fit; have hyb:=Fit_b hy.fit; have hyd:=Fit_d hy.fit
 have hxp:=x.den_pos; have hyp:=y.den_pos; have hdp:=Nat.mul_pos hxp hyp
 have e1:=dl_absscaled x.a y.den; have e2:=dl_absscaled y.a x.den; have e3:=dl_absscaled x.b y.den; have e4:=dl_absscaled y.b x.den; have e5:=dl_mul x.den y.den
 have e6:=dl_absadd (x:=x.a * y.den) (y:=y.a * x.den) (L:=L + M) (by omega) (by omega); have e7:=dl_absadd (x:=x.b * y.den) (y:=y.b * x.den) (L:=L + M) (by omega) (by omega)
 refine Fun.intro Tryz.func159 rfl Tryz.ntmps159 rfl (fun cx=>?_)
 have n1:(dg ((x.den:Nat):Int).natAbs).length ≤ L:=by rw [Int.natAbs_natCast]; exact hxd
 have n2:(dg ((y.den:Nat):Int).natAbs).length ≤ M:=by rw [Int.natAbs_natCast]; exact hyd
 refine ts (rn rfl (fG (Ht rfl)) fun B2=>(rn rfl (fG (Ht rfl)) fun B3=>(rn rfl (eW (Ts:=[Is (.bool false),Is (.slice none 0 0),Is (.bool false),Is (.slice none 0 0),Is (.slice none 0 0)]) O_98 rfl (fun V=>aW ⟨rfl,trivial⟩ (aW ⟨rfl,trivial⟩ (aW ⟨rfl,trivial⟩ (aW ⟨rfl,trivial⟩ (aW ⟨rfl,trivial⟩ (aG))))))) fun B4=>(eX (cK (Y.D_start (m:=9) [] (bY (Ei:=[(2,_)]) rfl rfl (bQ (bJ rfl rfl) bX) rfl rfl (dX rfl (eZ fa_98_2 (Ht rfl) rfl)) (bY (Ei:=[(7,_)]) rfl rfl (bQ (bZ 0 rfl rfl) bX) rfl rfl (dX rfl (eY A_40 Z_40 (Ht rfl) (i:=0) rfl rfl)) ?_))))))))
 refine bY (Ei:=[(8,_)]) rfl rfl (bQ (bZ 1 rfl rfl) bX) rfl rfl (dX rfl (OpTy.imp (bld_96_0_1 cV (Ht rfl)) nat_whole)) (bY (Ei:=[(3,_)]) rfl rfl (bQ (bJ rfl rfl) bX) rfl rfl (dX rfl (eZ fa_98_2 (Ht rfl) rfl)) (bY (Ei:=[(10,_)]) rfl rfl (bQ (bZ 3 rfl rfl) bX) rfl rfl (dX rfl (eY A_40 Z_40 (Ht rfl) (i:=1) rfl rfl)) (bY (Ei:=[(11,_)]) rfl rfl (bQ (bZ 4 rfl rfl) bX) rfl rfl (dX rfl (OpTy.imp (bld_96_0_1 cV (Ht rfl)) nat_whole)) ?_)))
 refine Y.D_newp (Ei:=[]) (fun bb=>box bb 96 [BoolT (decide (((x.den:Nat):Int) < 0)),NatT (((x.den:Nat):Int)).natAbs]) 8 rfl rfl rfl bX rfl rfl (by kernel_rfl) (eW (Ts:=[Is (.bool false),Is (.slice none 0 0)]) O_96 rfl (fun V=>aW ⟨rfl,trivial⟩ (aW ⟨rfl,trivial⟩ (aG)))) (Y.D_new (Ei:=[]) rfl rfl rfl bX rfl rfl (eW (Ts:=[Is (.bool false),Is (.slice none 0 0)]) O_96 rfl (fun V=>aW ⟨rfl,trivial⟩ (aW ⟨rfl,trivial⟩ (aG)))) (Y.D_putN (Ei:=[(9,_)]) 6 rfl rfl rfl rfl rfl rfl (bQ (bZ 2 rfl rfl) bX) (fun bb=>P_stA Z_96 (Ht rfl) (Ht rfl) rfl (i:=0) rfl (aK rfl) rfl rfl) ?_))
 refine Y.D_done mixed rfl (by kernel_rfl) rfl (by simp [Y.okP]) rfl rfl (bU (bU (bU (bU (bU (bU (Y.F_newp (fun B5=>Y.F_new (fun B6=>Y.F_putN (Y.F_nil ?_))))))))))
 refine gQ Z_96 (Ht rfl) (Ht rfl) rfl (i:=4) rfl (aK rfl) rfl rfl (eX (cK (fZ (m:=22) (dp 2 rfl (eZ fa_98_0 (Ht rfl) rfl) (dq 13 0 rfl (eJ A_96 Z_96 (Ht rfl) (i:=0) rfl rfl rfl) (dp 6 rfl (eJ A_96 Z_96 (Ht rfl) (i:=4) rfl rfl rfl) (dqq 14 1 15 2 rfl (cZ K_203 (c_rIntMul (by omega) (by omega)) ⟨(Ht rfl),(Ht rfl),trivial⟩) (dp 3 rfl (eZ fa_98_0 (Ht rfl) rfl) (dq 17 4 rfl (eJ A_96 Z_96 (Ht rfl) (i:=1) rfl rfl rfl) (dp 5 rfl (eJ A_96 Z_96 (Ht rfl) (i:=3) rfl rfl rfl) ?_))))))))))
 refine dqq 18 5 19 6 rfl (cZ K_203 (c_rIntMul (by omega) (by omega)) ⟨(Ht rfl),(Ht rfl),trivial⟩) (dqq 16 3 20 7 rfl (cZ Tryz.call204 (c_rIntAdd (by omega) (by omega)) ⟨(Ht rfl),(Ht rfl),trivial⟩) (dp 2 rfl (eZ fa_98_1 (Ht rfl) rfl) (dq 22 9 rfl (eJ A_96 Z_96 (Ht rfl) (i:=0) rfl rfl rfl) (dp 6 rfl (eJ A_96 Z_96 (Ht rfl) (i:=4) rfl rfl rfl) (dqq 23 10 24 11 rfl (cZ K_203 (c_rIntMul (by omega) (by omega)) ⟨(Ht rfl),(Ht rfl),trivial⟩) (dp 3 rfl (eZ fa_98_1 (Ht rfl) rfl) (dq 26 13 rfl (eJ A_96 Z_96 (Ht rfl) (i:=1) rfl rfl rfl) ?_)))))))
 refine dp 5 rfl (eJ A_96 Z_96 (Ht rfl) (i:=3) rfl rfl rfl) (dqq 27 14 28 15 rfl (cZ K_203 (c_rIntMul (by omega) (by omega)) ⟨(Ht rfl),(Ht rfl),trivial⟩) (dqq 25 12 29 16 rfl (cZ Tryz.call204 (c_rIntAdd (by omega) (by omega)) ⟨(Ht rfl),(Ht rfl),trivial⟩) (dp 2 rfl (eZ fa_98_2 (Ht rfl) rfl) (dq 31 18 rfl (eY A_40 Z_40 (Ht rfl) (i:=0) rfl rfl) (dp 3 rfl (eZ fa_98_2 (Ht rfl) rfl) (dq 33 20 rfl (eY A_40 Z_40 (Ht rfl) (i:=1) rfl rfl) (fV mixed rfl (by kernel_rfl) (aJ (aJ (aJ (aJ (aJ (aJ (aJ (aJ (aJ (aJ (aJ (aJ (aJ (aJ (aJ (aJ (aJ (aJ (aJ (aJ (aJ (aJ (aV ?_))))))))))))))))))))))))))))))
 refine ro rfl (cZ Tryz.call205 (c_rNatMul (by omega) (by omega)) ⟨(Ht rfl),(Ht rfl),trivial⟩) (ro rfl (cZ Tryz.call201 (c_rMake (by first | assumption | omega) (by omega) (by omega) (by omega)) ⟨(Ht rfl),(Ht rfl),(Ht rfl),trivial⟩) (gQ Z_98 (Ht rfl) (Ht rfl) rfl (i:=2) rfl (aK rfl) rfl rfl (eX (fW rfl (fX (fK A_98 Z_98 rfl (i:=2) rfl rfl) ?_)))))
 exact (q_of (Qi.mk_add x y))
theorem c_rNeg {x:Qi}:Fun Tryz.prog 187 [QT x] (QT (-x)):=by
 refine Fun.intro Tryz.func187 rfl Tryz.ntmps187 rfl (fun cx=>(ts (rn rfl (fG (Ht rfl)) fun B1=>(rn rfl (eW (Ts:=[Is (.bool false),Is (.slice none 0 0),Is (.bool false),Is (.slice none 0 0),Is (.slice none 0 0)]) O_98 rfl (fun V=>aW ⟨rfl,trivial⟩ (aW ⟨rfl,trivial⟩ (aW ⟨rfl,trivial⟩ (aW ⟨rfl,trivial⟩ (aW ⟨rfl,trivial⟩ (aG))))))) fun B2=>(eX (cK (fZ (m:=8) (dp 1 rfl (eZ fa_98_0 (Ht rfl) rfl) (dq 3 0 rfl (eJ A_96 Z_96 (Ht rfl) (i:=0) rfl rfl rfl) (dq 4 1 rfl (cZ K_217 c_rIntNeg ⟨(Ht rfl),trivial⟩) ?_))))))))))
 refine dp 1 rfl (eZ fa_98_1 (Ht rfl) rfl) (dq 6 3 rfl (eJ A_96 Z_96 (Ht rfl) (i:=0) rfl rfl rfl) (dq 7 4 rfl (cZ K_217 c_rIntNeg ⟨(Ht rfl),trivial⟩) (dp 1 rfl (eZ fa_98_2 (Ht rfl) rfl) (dq 9 6 rfl (eY A_40 Z_40 (Ht rfl) (i:=0) rfl rfl) (fV mixed rfl (by kernel_rfl) (aJ (aJ (aJ (aJ (aJ (aJ (aJ (aJ (aV (ro rfl (bld_98_0_1_2 (Ht rfl) (Ht rfl) (Ht rfl)) (gQ Z_98 (Ht rfl) (Ht rfl) rfl (i:=1) rfl (aK rfl) rfl rfl (eX (fW rfl (fX (fK A_98 Z_98 rfl (i:=1) rfl rfl) ?_)))))))))))))))))))
 exact (agg_of (by obtain ⟨e1,e2,e3⟩:=Qi.neg_a x; rw [e1,e2,e3]; rfl))
theorem c_rConj {x:Qi}:Fun Tryz.prog 207 [QT x] (QT x.conj):=by
 refine Fun.intro Tryz.func207 rfl Tryz.ntmps207 rfl (fun cx=>(ts (rn rfl (fG (Ht rfl)) fun B1=>(rn rfl (eW (Ts:=[Is (.bool false),Is (.slice none 0 0),Is (.bool false),Is (.slice none 0 0),Is (.slice none 0 0)]) O_98 rfl (fun V=>aW ⟨rfl,trivial⟩ (aW ⟨rfl,trivial⟩ (aW ⟨rfl,trivial⟩ (aW ⟨rfl,trivial⟩ (aW ⟨rfl,trivial⟩ (aG))))))) fun B2=>(eX (cK (fZ (m:=7) (dp 1 rfl (eZ fa_98_0 (Ht rfl) rfl) (dq 3 0 rfl (eJ A_96 Z_96 (Ht rfl) (i:=0) rfl rfl rfl) (dp 1 rfl (eZ fa_98_1 (Ht rfl) rfl) ?_))))))))))
 refine dq 5 2 rfl (eJ A_96 Z_96 (Ht rfl) (i:=0) rfl rfl rfl) (dq 6 3 rfl (cZ K_217 c_rIntNeg ⟨(Ht rfl),trivial⟩) (dp 1 rfl (eZ fa_98_2 (Ht rfl) rfl) (dq 8 5 rfl (eY A_40 Z_40 (Ht rfl) (i:=0) rfl rfl) (fV mixed rfl (by kernel_rfl) (aJ (aJ (aJ (aJ (aJ (aJ (aJ (aV (ro rfl (bld_98_0_1_2 (Ht rfl) (Ht rfl) (Ht rfl)) (gQ Z_98 (Ht rfl) (Ht rfl) rfl (i:=1) rfl (aK rfl) rfl rfl (eX (fW rfl (fX (fK A_98 Z_98 rfl (i:=1) rfl rfl) ?_)))))))))))))))))
 exact (agg_of (by obtain ⟨e1,e2,e3⟩:=Qi.conj_a x; rw [e1,e2,e3]; rfl))
theorem c_rSub {x y:Qi} {L M:Nat} [hx:FitC x L] [hy:FitC y M] (h:L + M + 1 ≤ 17592186044415):Fun Tryz.prog 158 [QT x,QT y] (QT (x - y)):=by
 have hxa:=Fit_a hx.fit; have hxb:=Fit_b hx.fit; have hxd:=Fit_d hx.fit
 have hya:=Fit_a hy.fit; have hyb:=Fit_b hy.fit; have hyd:=Fit_d hy.fit
 have hxp:=x.den_pos; have hyp:=y.den_pos; have hdp:=Nat.mul_pos hxp hyp
 refine Fun.intro Tryz.func158 rfl Tryz.ntmps158 rfl (fun cx=>(ts (rn rfl (fG (Ht rfl)) fun B2=>(rn rfl (fG (Ht rfl)) fun B3=>(rn rfl (eW (Ts:=[Is (.bool false),Is (.slice none 0 0),Is (.bool false),Is (.slice none 0 0),Is (.slice none 0 0)]) O_98 rfl (fun V=>aW ⟨rfl,trivial⟩ (aW ⟨rfl,trivial⟩ (aW ⟨rfl,trivial⟩ (aW ⟨rfl,trivial⟩ (aW ⟨rfl,trivial⟩ (aG))))))) fun B4=>(eX (cK (fZ (m:=3) (dp 2 rfl (eJ A_98 Z_98 (Ht rfl) (i:=0) rfl rfl rfl) (dp 3 rfl (eJ A_98 Z_98 (Ht rfl) (i:=1) rfl rfl rfl) ?_))))))))))
 refine dq 6 1 rfl (cZ Tryz.call187 c_rNeg ⟨(Ht rfl),trivial⟩) (fV mixed rfl (by kernel_rfl) (aJ (aJ (aJ (aV (ro rfl (cZ Tryz.call159 (c_rAdd (by omega)) ⟨(Ht rfl),(Ht rfl),trivial⟩) (gQ Z_98 (Ht rfl) (Ht rfl) rfl (i:=2) rfl (aK rfl) rfl rfl (eX (fW rfl (fX (fK A_98 Z_98 rfl (i:=2) rfl rfl) ?_))))))))))
 exact (q_of (Qi.sub_def x y).symm)
theorem c_rMul {x y:Qi} {L M:Nat} [hx:FitC x L] [hy:FitC y M] (h:L + M + 1 ≤ 17592186044415):Fun Tryz.prog 99 [QT x,QT y] (QT (x * y)):=by
 have hxa:=Fit_a hx.fit; have hxb:=Fit_b hx.fit; have hxd:=Fit_d hx.fit
 have hya:=Fit_a hy.fit; have hyb:=Fit_b hy.fit; have hyd:=Fit_d hy.fit
 have hxp:=x.den_pos; have hyp:=y.den_pos; have hdp:=Nat.mul_pos hxp hyp
 have e1:=dl_absmul x.a y.a; have e2:=dl_absmul x.b y.b; have e3:=dl_absmul x.a y.b; have e4:=dl_absmul x.b y.a; have e5:=dl_mul x.den y.den; have e8:=dl_neg (x.b * y.b)
 have e6:=dl_absadd (x:=x.a * y.a) (y:=-(x.b * y.b)) (L:=L + M) (by omega) (by omega); have e7:=dl_absadd (x:=x.a * y.b) (y:=x.b * y.a) (L:=L + M) (by omega) (by omega)
 refine Fun.intro Tryz.func99 rfl Tryz.ntmps99 rfl (fun cx=>(ts (rn rfl (fG (Ht rfl)) fun B2=>(rn rfl (fG (Ht rfl)) fun B3=>(rn rfl (eW (Ts:=[Is (.bool false),Is (.slice none 0 0),Is (.bool false),Is (.slice none 0 0),Is (.slice none 0 0)]) O_98 rfl (fun V=>aW ⟨rfl,trivial⟩ (aW ⟨rfl,trivial⟩ (aW ⟨rfl,trivial⟩ (aW ⟨rfl,trivial⟩ (aW ⟨rfl,trivial⟩ (aG))))))) fun B4=>(eX (cK (fZ (m:=26) (dp 2 rfl (eZ fa_98_0 (Ht rfl) rfl) (dq 5 0 rfl (eJ A_96 Z_96 (Ht rfl) (i:=0) rfl rfl rfl) ?_))))))))))
 refine dp 3 rfl (eZ fa_98_0 (Ht rfl) rfl) (dq 7 2 rfl (eJ A_96 Z_96 (Ht rfl) (i:=1) rfl rfl rfl) (dqq 6 1 8 3 rfl (cZ K_203 (c_rIntMul (by omega) (by omega)) ⟨(Ht rfl),(Ht rfl),trivial⟩) (dp 2 rfl (eZ fa_98_1 (Ht rfl) rfl) (dq 10 5 rfl (eJ A_96 Z_96 (Ht rfl) (i:=0) rfl rfl rfl) (dp 3 rfl (eZ fa_98_1 (Ht rfl) rfl) (dq 12 7 rfl (eJ A_96 Z_96 (Ht rfl) (i:=1) rfl rfl rfl) (dqq 11 6 13 8 rfl (cZ K_203 (c_rIntMul (by omega) (by omega)) ⟨(Ht rfl),(Ht rfl),trivial⟩) (dqq 9 4 14 9 rfl (cZ Tryz.call202 (c_rIntSub (by omega) (by omega)) ⟨(Ht rfl),(Ht rfl),trivial⟩) ?_))))))))
 refine dp 2 rfl (eZ fa_98_0 (Ht rfl) rfl) (dq 16 11 rfl (eJ A_96 Z_96 (Ht rfl) (i:=0) rfl rfl rfl) (dp 3 rfl (eZ fa_98_1 (Ht rfl) rfl) (dq 18 13 rfl (eJ A_96 Z_96 (Ht rfl) (i:=1) rfl rfl rfl) (dqq 17 12 19 14 rfl (cZ K_203 (c_rIntMul (by omega) (by omega)) ⟨(Ht rfl),(Ht rfl),trivial⟩) (dp 2 rfl (eZ fa_98_1 (Ht rfl) rfl) (dq 21 16 rfl (eJ A_96 Z_96 (Ht rfl) (i:=0) rfl rfl rfl) (dp 3 rfl (eZ fa_98_0 (Ht rfl) rfl) (dq 23 18 rfl (eJ A_96 Z_96 (Ht rfl) (i:=1) rfl rfl rfl) ?_))))))))
 refine dqq 22 17 24 19 rfl (cZ K_203 (c_rIntMul (by omega) (by omega)) ⟨(Ht rfl),(Ht rfl),trivial⟩) (dqq 20 15 25 20 rfl (cZ Tryz.call204 (c_rIntAdd (by omega) (by omega)) ⟨(Ht rfl),(Ht rfl),trivial⟩) (dp 2 rfl (eZ fa_98_2 (Ht rfl) rfl) (dq 27 22 rfl (eY A_40 Z_40 (Ht rfl) (i:=0) rfl rfl) (dp 3 rfl (eZ fa_98_2 (Ht rfl) rfl) (dq 29 24 rfl (eY A_40 Z_40 (Ht rfl) (i:=1) rfl rfl) (fV mixed rfl (by kernel_rfl) (aJ (aJ (aJ (aJ (aJ (aJ (aJ (aJ (aJ (aJ (aJ (aJ (aJ (aJ (aJ (aJ (aJ (aJ (aJ (aJ (aJ (aJ (aJ (aJ (aJ (aJ (aV ?_)))))))))))))))))))))))))))))))))
 refine ro rfl (cZ Tryz.call205 (c_rNatMul (by omega) (by omega)) ⟨(Ht rfl),(Ht rfl),trivial⟩) (ro rfl (cZ Tryz.call201 (c_rMake (by first | assumption | omega) (by omega) (by omega) (by omega)) ⟨(Ht rfl),(Ht rfl),(Ht rfl),trivial⟩) (gQ Z_98 (Ht rfl) (Ht rfl) rfl (i:=2) rfl (aK rfl) rfl rfl (eX (fW rfl (fX (fK A_98 Z_98 rfl (i:=2) rfl rfl) ?_)))))
 exact (q_of (Qi.mk_mul x y))
theorem c_rZero {x:Qi}:Fun Tryz.prog 160 [QT x] (BoolT (decide (x = Qi.zero))):=by
 refine Fun.intro Tryz.func160 rfl Tryz.ntmps160 rfl (fun cx=>(ts (rn rfl (fG (Ht rfl)) fun B1=>(ro rfl (cQ cV) (eX (ts (ro rfl (eZ fa_98_0 (Ht rfl) rfl) (ro rfl (eZ fa_96_1 (Ht rfl) rfl) (ro rfl (eY A_40 Z_40 (Ht rfl) (i:=0) rfl rfl) (ro rfl (dG U_40 (Ht rfl) len_map) (ro rfl (op_eqlN (Ht rfl) (cJ 0)) (rm rfl (fQ rfl rfl (eK rfl rfl (Ht rfl) (fun h=>eZ fa_98_1 (Ht rfl) rfl)) (fQ rfl rfl (eK rfl rfl (Ht rfl) (fun h=>eZ fa_96_1 (fJ rfl h) rfl)) (fQ rfl rfl (eK rfl rfl (Ht rfl) (fun h=>eY A_40 Z_40 (fJ rfl h) (i:=0) rfl rfl)) ?_)))))))))))))))
 refine fQ rfl rfl (eK rfl rfl (Ht rfl) (fun h=>dG U_40 (fJ rfl h) len_map)) (fQ rfl rfl (eK rfl rfl (Ht rfl) (fun h=>op_eqlN (fJ rfl h) (cJ 0))) (ro rfl (op_and (Ht rfl) (fun h=>(fJ rfl h))) (ra rfl (eX (fW rfl (fX (eU rfl) ?_))))))
 exact (bool_of (rzero_eq x))
theorem c_rIm {x:Qi} {L:Nat} [hx:FitC x L] (h:L ≤ 17592186044415):Fun Tryz.prog 265 [QT x] (QT x.imp):=by
 have hxa:=Fit_a hx.fit; have hxb:=Fit_b hx.fit; have hxd:=Fit_d hx.fit
 have hxp:=x.den_pos
 have h5:(dg (0:Int).natAbs).length ≤ 0:=by rw [show (0:Int).natAbs = 0 from rfl,dg_zero]; exact Nat.le_refl _
 refine Fun.intro Tryz.func265 rfl Tryz.ntmps265 rfl (fun cx=>(ts (rn rfl (fG (Ht rfl)) fun B1=>(rn rfl (eW (Ts:=[Is (.bool false),Is (.slice none 0 0),Is (.bool false),Is (.slice none 0 0),Is (.slice none 0 0)]) O_98 rfl (fun V=>aW ⟨rfl,trivial⟩ (aW ⟨rfl,trivial⟩ (aW ⟨rfl,trivial⟩ (aW ⟨rfl,trivial⟩ (aW ⟨rfl,trivial⟩ (aG))))))) fun B2=>(eX (ts (ro rfl (eZ fa_98_1 (Ht rfl) rfl) (ro rfl (eJ A_96 Z_96 (Ht rfl) (i:=0) rfl rfl rfl) (ro rfl (OpTy.imp (bld_96_ ) zero_whole) ?_)))))))))
 refine ro rfl (eZ fa_98_2 (Ht rfl) rfl) (ro rfl (eY A_40 Z_40 (Ht rfl) (i:=0) rfl rfl) (ro rfl (cZ Tryz.call201 (c_rMake (by first | assumption | omega) (by omega) (by omega) (by omega)) ⟨(Ht rfl),(Ht rfl),(Ht rfl),trivial⟩) (gQ Z_98 (Ht rfl) (Ht rfl) rfl (i:=1) rfl (aK rfl) rfl rfl (eX (fW rfl (fX (fK A_98 Z_98 rfl (i:=1) rfl rfl) ?_))))))
 exact (q_of (Qi.mk_im0 x))
theorem c_rNorm {x:Qi} {L:Nat} [hx:FitC x L] (h:L + L + 1 ≤ 17592186044415):Fun Tryz.prog 206 [QT x] (QT x.norm):=by
 refine Fun.intro Tryz.func206 rfl Tryz.ntmps206 rfl (fun cx=>(ts (rn rfl (fG (Ht rfl)) fun B1=>(rn rfl (eW (Ts:=[Is (.bool false),Is (.slice none 0 0),Is (.bool false),Is (.slice none 0 0),Is (.slice none 0 0)]) O_98 rfl (fun V=>aW ⟨rfl,trivial⟩ (aW ⟨rfl,trivial⟩ (aW ⟨rfl,trivial⟩ (aW ⟨rfl,trivial⟩ (aW ⟨rfl,trivial⟩ (aG))))))) fun B2=>(eX (cK (fZ (m:=3) (dp 1 rfl (eJ A_98 Z_98 (Ht rfl) (i:=0) rfl rfl rfl) (dp 1 rfl (eJ A_98 Z_98 (Ht rfl) (i:=0) rfl rfl rfl) ?_)))))))))
 refine dq 4 1 rfl (cZ Tryz.call207 c_rConj ⟨(Ht rfl),trivial⟩) (fV mixed rfl (by kernel_rfl) (aJ (aJ (aJ (aV (ro rfl (cZ K_99 (c_rMul (by omega)) ⟨(Ht rfl),(Ht rfl),trivial⟩) (gQ Z_98 (Ht rfl) (Ht rfl) rfl (i:=1) rfl (aK rfl) rfl rfl (eX (fW rfl (fX (fK A_98 Z_98 rfl (i:=1) rfl rfl) ?_))))))))))
 exact (q_of (Qi.mul_conj x))
theorem c_rSign {x:Qi}:Fun Tryz.prog 226 [QT x] (IntT .i64 (cmpI x.a 0)):=by
 refine Fun.intro Tryz.func226 rfl Tryz.ntmps226 rfl (fun cx=>(ts (rn rfl (fG (Ht rfl)) fun B1=>(ro rfl (cQ (cJ 0)) (eX (cK (ts (ro rfl (eZ fa_98_0 (Ht rfl) rfl) (ro rfl (eZ fa_96_0 (Ht rfl) rfl) (ro rfl (eY A_4 Z_4 (Ht rfl) (i:=0) rfl rfl) (eX (dQ (Ht rfl) (fun hb=>?_) (fun hb=>?_)))))))))))))
 ·simp only [decide_eq_true_eq] at hb
  refine ts (ro rfl (cQ cV) (eX (fW rfl (fX (eU rfl) ?_))))
  exact (int_of (by rw [cmpI,if_pos hb]))
 ·simp only [decide_eq_false_iff_not] at hb
  refine cU (cK (ts (ro rfl (eZ fa_98_0 (Ht rfl) rfl) (ro rfl (eZ fa_96_1 (Ht rfl) rfl) (ro rfl (eY A_40 Z_40 (Ht rfl) (i:=0) rfl rfl) (ro rfl (dG U_40 (Ht rfl) len_map) (ro rfl (op_gtrN (Ht rfl) (cJ 0)) (eX (dQ (Ht rfl) (fun hc=>?_) (fun hc=>?_))))))))))
  ·simp only [decide_eq_true_eq] at hc
   have h0:x.a ≠ 0:=fun e=>by rw [e] at hc; simp [dg_zero] at hc
   refine ts (ro rfl (cQ (cJ 1)) (eX (fW rfl (fX (eU rfl) ?_))))
   exact (int_of (by rw [cmpI,if_neg hb,if_pos (by omega)]; rfl))
  ·simp only [decide_eq_false_iff_not] at hc
   have h0:x.a = 0:=by have:=dg_length_zero.1 (Nat.eq_zero_of_not_pos hc); omega
   refine cU (ts (ro rfl (cQ (cJ 0)) (eX (fW rfl (fX (eU rfl) ?_)))))
   exact (int_of (by rw [cmpI,if_neg hb,if_neg (by omega)]; rfl))
theorem c_rSide {x:Qi} {L:Nat} [hx:FitC x L] (h:L ≤ 17592186044415):Fun Tryz.prog 225 [QT x] (IntT .i64 (cmpI x.b 0)):=by
 refine Fun.intro Tryz.func225 rfl Tryz.ntmps225 rfl (fun cx=>(ts (rn rfl (fG (Ht rfl)) fun B1=>(ro rfl (cQ (cJ 0)) (eX (ts (ro rfl (eJ A_98 Z_98 (Ht rfl) (i:=0) rfl rfl rfl) (ro rfl (cZ Tryz.call265 (c_rIm (by omega)) ⟨(Ht rfl),trivial⟩) (ro rfl (cZ Tryz.call226 c_rSign ⟨(Ht rfl),trivial⟩) (ra rfl (eX (fW rfl (fX (eU rfl) ?_)))))))))))))
 exact (int_of (sgn_imp x))
theorem c_rQDiv {x y:Qi} {L M:Nat} [hx:FitC x L] [hy:FitC y M] (h:L + 3 * M + 2 ≤ 17592186044415):Fun Tryz.prog 102 [QT x,QT y] (TupT [QT (x / y),IntT .i64 (if y = Qi.zero then 3 else 0)]):=by
 have hxa:=Fit_a hx.fit; have hxb:=Fit_b hx.fit; have hxd:=Fit_d hx.fit
 have hya:=Fit_a hy.fit; have hyb:=Fit_b hy.fit; have hyd:=Fit_d hy.fit
 have hxp:=x.den_pos; have hyp:=y.den_pos; have hdp:=Nat.mul_pos hxp hyp
 refine Fun.intro Tryz.func102 rfl Tryz.ntmps102 rfl (fun cx=>(ts (rn rfl (fG (Ht rfl)) fun B2=>(rn rfl (fG (Ht rfl)) fun B3=>(rn rfl (eW (Ts:=[Is (.bool false),Is (.slice none 0 0),Is (.bool false),Is (.slice none 0 0),Is (.slice none 0 0)]) O_98 rfl (fun V=>aW ⟨rfl,trivial⟩ (aW ⟨rfl,trivial⟩ (aW ⟨rfl,trivial⟩ (aW ⟨rfl,trivial⟩ (aW ⟨rfl,trivial⟩ (aG))))))) fun B4=>(ro rfl (cQ (cJ 0)) (eX (cK (ts (ro rfl (eJ A_98 Z_98 (Ht rfl) (i:=1) rfl rfl rfl) ?_))))))))))
 refine ro rfl (cZ Tryz.call160 c_rZero ⟨(Ht rfl),trivial⟩) (eX (dQ (Ht rfl) (fun hb=>?_) (fun hb=>?_)))
 ·simp only [decide_eq_true_eq] at hb
  refine ts (ro rfl (cZ K_117 (c_rWhole (by decide) (by decide)) ⟨(cJ 0),trivial⟩) (gQ Z_98 (Ht rfl) (Ht rfl) rfl (i:=2) rfl (aK rfl) rfl rfl (ro rfl (cQ (cJ 3)) (eX (T_ret2 rfl (fX (fK A_98 Z_98 rfl (i:=2) rfl rfl) ?_) (fX (eU rfl) ?_))))))
  ·exact (q_of (by rw [hb,Qi.div_zero]; rfl))
  ·exact (int_of (by rw [if_pos hb]; rfl))
 ·simp only [decide_eq_false_iff_not] at hb
  obtain ⟨n,hn⟩:∃ n,n = y.norm:=⟨_,rfl⟩
  obtain ⟨z,hz⟩:∃ z,z = x * y.conj:=⟨_,rfl⟩
  haveI fn:FitC n (M + M + 1):=hn ▸ fitNorm
  haveI fz:FitC z (L + M + 1):=hz ▸ fitMul
  have hna:=Fit_a fn.fit; have hnd:=Fit_d fn.fit; have hza:=Fit_a fz.fit; have hzb:=Fit_b fz.fit; have hzd:=Fit_d fz.fit
  have hnp:0 < n.a:=hn ▸ Qi.norm_pos hb
  have hm:((n.a.natAbs:Nat):Int) = n.a:=Int.natAbs_of_nonneg (by omega)
  have hdp2:=Nat.mul_pos z.den_pos (show 0 < n.a.natAbs by omega)
  have n1:(dg ((n.den:Nat):Int).natAbs).length ≤ M + M + 1:=by rw [Int.natAbs_natCast]; exact hnd
  have e1:=dl_absscaled z.a n.den; have e2:=dl_absscaled z.b n.den; have e3:=dl_mul z.den n.a.natAbs
  refine cU (ts (ro rfl (eJ A_98 Z_98 (Ht rfl) (i:=1) rfl rfl rfl) (ro rfl (OpTy.imp (cZ Tryz.call206 (c_rNorm (by omega)) ⟨(Ht rfl),trivial⟩) (q_of hn.symm)) (rn rfl (eW (Ts:=[Is (.bool false),Is (.slice none 0 0),Is (.bool false),Is (.slice none 0 0),Is (.slice none 0 0)]) O_98 rfl (fun V=>aW ⟨rfl,trivial⟩ (aW ⟨rfl,trivial⟩ (aW ⟨rfl,trivial⟩ (aW ⟨rfl,trivial⟩ (aW ⟨rfl,trivial⟩ (aG))))))) fun B6=>(gQ Z_98 (Ht rfl) (Ht rfl) rfl (i:=3) rfl (aK rfl) rfl rfl ?_)))))
  refine eX (cK (fZ (m:=5) (dp 2 rfl (eJ A_98 Z_98 (Ht rfl) (i:=0) rfl rfl rfl) (dp 3 rfl (eJ A_98 Z_98 (Ht rfl) (i:=1) rfl rfl rfl) (dq 15 1 rfl (cZ Tryz.call207 c_rConj ⟨(Ht rfl),trivial⟩) (dqq 14 0 16 2 rfl (OpTy.imp (cZ K_99 (c_rMul (by omega)) ⟨(Ht rfl),(Ht rfl),trivial⟩) (q_of hz.symm)) (C.D_new (Ei:=[]) rfl rfl rfl bW (eW (Ts:=[Is (.bool false),Is (.slice none 0 0),Is (.bool false),Is (.slice none 0 0),Is (.slice none 0 0)]) O_98 rfl (fun V=>aW ⟨rfl,trivial⟩ (aW ⟨rfl,trivial⟩ (aW ⟨rfl,trivial⟩ (aW ⟨rfl,trivial⟩ (aW ⟨rfl,trivial⟩ (aG))))))) ?_)))))))
  refine fV mixed rfl (by kernel_rfl) (aJ (aJ (aJ (aJ (C.F_new (fun B7=>aV (gQ Z_98 (Ht rfl) (Ht rfl) rfl (i:=4) rfl (aK rfl) rfl rfl (eX (ts (ro rfl (eZ fa_98_2 (Ht rfl) rfl) (ro rfl (eY A_40 Z_40 (Ht rfl) (i:=3) rfl rfl) (ro rfl (OpTy.imp (bld_96_0_1 cV (Ht rfl)) nat_whole) (rn rfl (eW (Ts:=[Is (.bool false),Is (.slice none 0 0)]) O_96 rfl (fun V=>aW ⟨rfl,trivial⟩ (aW ⟨rfl,trivial⟩ (aG)))) fun B8=>(gQ Z_96 (Ht rfl) (Ht rfl) rfl (i:=5) rfl (aK rfl) rfl rfl ?_))))))))))))))
  refine eX (cK (fZ (m:=13) (dp 7 rfl (eZ fa_98_0 (Ht rfl) rfl) (dq 21 0 rfl (eJ A_96 Z_96 (Ht rfl) (i:=4) rfl rfl rfl) (dp 8 rfl (eJ A_96 Z_96 (Ht rfl) (i:=5) rfl rfl rfl) (dqq 22 1 23 2 rfl (cZ K_203 (c_rIntMul (by omega) (by omega)) ⟨(Ht rfl),(Ht rfl),trivial⟩) (dp 7 rfl (eZ fa_98_1 (Ht rfl) rfl) (dq 25 4 rfl (eJ A_96 Z_96 (Ht rfl) (i:=4) rfl rfl rfl) (dp 8 rfl (eJ A_96 Z_96 (Ht rfl) (i:=5) rfl rfl rfl) (dqq 26 5 27 6 rfl (cZ K_203 (c_rIntMul (by omega) (by omega)) ⟨(Ht rfl),(Ht rfl),trivial⟩) ?_))))))))))
  refine dp 7 rfl (eZ fa_98_2 (Ht rfl) rfl) (dq 29 8 rfl (eY A_40 Z_40 (Ht rfl) (i:=4) rfl rfl) (dp 6 rfl (eZ fa_98_0 (Ht rfl) rfl) (dq 31 10 rfl (eZ fa_96_1 (Ht rfl) rfl) (dq 32 11 rfl (eY A_40 Z_40 (Ht rfl) (i:=3) rfl rfl) (fV mixed rfl (by kernel_rfl) (aJ (aJ (aJ (aJ (aJ (aJ (aJ (aJ (aJ (aJ (aJ (aJ (aJ (aV (ro rfl (cZ Tryz.call205 (c_rNatMul (by omega) (by omega)) ⟨(Ht rfl),(Ht rfl),trivial⟩) (ro rfl (cZ Tryz.call201 (c_rMake (by first | assumption | omega) (by omega) (by omega) (by omega)) ⟨(Ht rfl),(Ht rfl),(Ht rfl),trivial⟩) ?_)))))))))))))))))))))
  refine gQ Z_98 (Ht rfl) (Ht rfl) rfl (i:=2) rfl (aK rfl) rfl rfl (ro rfl (cQ (cJ 0)) (eX (T_ret2 rfl (fX (fK A_98 Z_98 rfl (i:=2) rfl rfl) ?_) (fX (eU rfl) ?_))))
  ·exact (q_of (Qi.mk_divR x hb hz hn hm))
  ·exact (int_of (by rw [if_neg hb]; rfl))
theorem c_Div {x y:Qi} {L M:Nat} [hx:FitC x L] [hy:FitC y M] (h:L + 3 * M + 2 ≤ 17592186044415):Fun Tryz.prog 59 [NumT x,NumT y] (TupT [NumT (x / y),IntT .i64 (if y = Qi.zero then 3 else 0)]):=by
 have hxa:=Fit_a hx.fit; have hxb:=Fit_b hx.fit; have hxd:=Fit_d hx.fit
 have hya:=Fit_a hy.fit; have hyb:=Fit_b hy.fit; have hyd:=Fit_d hy.fit
 have hxp:=x.den_pos; have hyp:=y.den_pos; have hMp:=hy.pos
 refine Fun.intro Tryz.func59 rfl Tryz.ntmps59 rfl (fun cx=>(ts (rn rfl (fG (Ht rfl)) fun B2=>(rn rfl (fG (Ht rfl)) fun B3=>(rn rfl (eW (Ts:=[Is (.bool false),Is (.slice none 0 0),Is (.bool false),Is (.slice none 0 0),Is (.slice none 0 0)]) O_45 rfl (fun V=>aW ⟨rfl,trivial⟩ (aW ⟨rfl,trivial⟩ (aW ⟨rfl,trivial⟩ (aW ⟨rfl,trivial⟩ (aW ⟨rfl,trivial⟩ (aG))))))) fun B4=>(ro rfl (cQ (cJ 0)) (eX (cK (ts (ro rfl (eJ A_45 Z_45 (Ht rfl) (i:=1) rfl rfl rfl) ?_))))))))))
 refine ro rfl (cZ Tryz.call163 (c_Clear (by omega)) ⟨(Ht rfl),trivial⟩) (ro rfl (op_not (Ht rfl)) (eX (dQ (Ht rfl) (fun hb=>?_) (fun hb=>?_))))
 ·have h0 : y = Qi.zero := by simpa using hb
  refine ts (ro rfl (OpTy.imp (bld_45_ ) num_zero) (gQ Z_45 (Ht rfl) (Ht rfl) rfl (i:=2) rfl (aK rfl) rfl rfl (ro rfl (cQ (cJ 3)) (eX (T_ret2 rfl (fX (fK A_45 Z_45 rfl (i:=2) rfl rfl) ?_) (fX (eU rfl) ?_))))))
  ·exact (num_of (by rw [h0,Qi.div_zero]))
  ·exact (int_of (by rw [if_pos h0]; rfl))
 ·have h0 : y ≠ Qi.zero := by simpa using hb
  have g1:=dl_absmul y.a y.a; have g2:=dl_absmul y.b y.b; have g3:=dl_neg y.b
  have g4:=dl_absadd (x:=y.a * y.a) (y:=y.b * y.b) (L:=M + M) (by omega) (by omega)
  obtain ⟨c,hc⟩:∃ c,c = Qi.mk' y.a (-y.b) 1:=⟨_,rfl⟩
  obtain ⟨z,hz⟩:∃ z,z = x * c:=⟨_,rfl⟩
  have l1:(dg 1).length ≤ 1:=by rw [dg_lit (by decide) (by decide)]; exact Nat.le_refl _
  haveI fc:FitC c M:=hc ▸ ⟨Qi.Fit.mk (by decide) hy.fit.1 (by rw [Int.natAbs_neg]; exact hy.fit.2.1) (Qi.one_lt hMp)⟩
  haveI fz:FitC z (L + M + 1):=hz ▸ fitMul
  have hza:=Fit_a fz.fit; have hzb:=Fit_b fz.fit; have hzd:=Fit_d fz.fit
  have hnp:=Qi.nrm_int_pos h0
  have hm:(((y.a * y.a + y.b * y.b).natAbs:Nat):Int) = y.a * y.a + y.b * y.b:=Int.natAbs_of_nonneg (by omega)
  have hdp2:=Nat.mul_pos z.den_pos (show 0 < (y.a * y.a + y.b * y.b).natAbs by omega)
  have e1:=dl_absscaled z.a y.den; have e2:=dl_absscaled z.b y.den; have e3:=dl_mul z.den (y.a * y.a + y.b * y.b).natAbs
  refine cU (cK (fZ (m:=12) (dp 3 rfl (eZ fa_45_0 (Ht rfl) rfl) (dq 12 0 rfl (eJ A_43 Z_43 (Ht rfl) (i:=1) rfl rfl rfl) (dp 3 rfl (eZ fa_45_0 (Ht rfl) rfl) (dq 14 2 rfl (eJ A_43 Z_43 (Ht rfl) (i:=1) rfl rfl rfl) (dqq 13 1 15 3 rfl (cZ K_164 (c_times (by omega) (by omega)) ⟨(Ht rfl),(Ht rfl),trivial⟩) (dp 3 rfl (eZ fa_45_1 (Ht rfl) rfl) (dq 17 5 rfl (eJ A_43 Z_43 (Ht rfl) (i:=1) rfl rfl rfl) (dp 3 rfl (eZ fa_45_1 (Ht rfl) rfl) (dq 19 7 rfl (eJ A_43 Z_43 (Ht rfl) (i:=1) rfl rfl rfl) ?_)))))))))))
  refine dqq 18 6 20 8 rfl (cZ K_164 (c_times (by omega) (by omega)) ⟨(Ht rfl),(Ht rfl),trivial⟩) (dqq 16 4 21 9 rfl (cZ K_165 (c_plus (by omega) (by omega)) ⟨(Ht rfl),(Ht rfl),trivial⟩) (C.D_new (Ei:=[]) rfl rfl rfl bW (eW (Ts:=[Is (.bool false),Is (.slice none 0 0)]) O_43 rfl (fun V=>aW ⟨rfl,trivial⟩ (aW ⟨rfl,trivial⟩ (aG)))) (fV mixed rfl (by kernel_rfl) (aJ (aJ (aJ (aJ (aJ (aJ (aJ (aJ (aJ (aJ (aJ (C.F_new (fun B6=>aV (gQ Z_43 (Ht rfl) (Ht rfl) rfl (i:=3) rfl (aK rfl) rfl rfl ?_)))))))))))))))))
  refine eX (cK (fZ (m:=10) (dp 2 rfl (eJ A_45 Z_45 (Ht rfl) (i:=0) rfl rfl rfl) (dp 3 rfl (eZ fa_45_0 (Ht rfl) rfl) (dq 24 1 rfl (eJ A_43 Z_43 (Ht rfl) (i:=1) rfl rfl rfl) (dp 3 rfl (eZ fa_45_1 (Ht rfl) rfl) (dq 26 3 rfl (eJ A_43 Z_43 (Ht rfl) (i:=1) rfl rfl rfl) (dq 27 4 rfl (cZ K_167 c_minus ⟨(Ht rfl),trivial⟩) (d0 rfl (OpTy.imp (op_bslice (xs:=[_]) U_41 Z_207 O_207 (cW (cJ 1) cG) rfl rfl rfl) one_natT) (C.D_step (Ei:=[(25,_),(28,_),(29,_)]) rfl rfl (bV (bG 2 rfl rfl) (bV (bG 5 rfl rfl) (bV (bG 6 rfl rfl) bW))) (dX rfl (OpTy.imp (cZ K_166 (c_over (by first | assumption | omega) (by omega) (by omega) (by omega)) ⟨(Ht rfl),(Ht rfl),(Ht rfl),trivial⟩) (num_of hc.symm))) ?_))))))))))
  refine dqq 23 0 30 7 rfl (OpTy.imp (cZ K_67 (c_Mul (by omega)) ⟨(Ht rfl),(Ht rfl),trivial⟩) (num_of hz.symm)) (C.D_new (Ei:=[]) rfl rfl rfl bW (eW (Ts:=[Is (.bool false),Is (.slice none 0 0),Is (.bool false),Is (.slice none 0 0),Is (.slice none 0 0)]) O_45 rfl (fun V=>aW ⟨rfl,trivial⟩ (aW ⟨rfl,trivial⟩ (aW ⟨rfl,trivial⟩ (aW ⟨rfl,trivial⟩ (aW ⟨rfl,trivial⟩ (aG))))))) (fV mixed rfl (by kernel_rfl) (aJ (aJ (aJ (aJ (aJ (aJ (aJ (aJ (aJ (C.F_new (fun B7=>aV ?_)))))))))))))
  refine gQ Z_45 (Ht rfl) (Ht rfl) rfl (i:=4) rfl (aK rfl) rfl rfl (eX (cK (fZ (m:=14) (dp 7 rfl (eZ fa_45_0 (Ht rfl) rfl) (dq 32 0 rfl (eJ A_43 Z_43 (Ht rfl) (i:=4) rfl rfl rfl) (dp 3 rfl (eJ A_45 Z_45 (Ht rfl) (i:=1) rfl rfl rfl) (dq 34 2 rfl (cZ K_169 c_den ⟨(Ht rfl),trivial⟩) (dqq 33 1 35 3 rfl (cZ K_168 (c_scaled (by omega) (by omega)) ⟨(Ht rfl),(Ht rfl),trivial⟩) (dp 7 rfl (eZ fa_45_1 (Ht rfl) rfl) (dq 37 5 rfl (eJ A_43 Z_43 (Ht rfl) (i:=4) rfl rfl rfl) ?_))))))))))
  refine dp 3 rfl (eJ A_45 Z_45 (Ht rfl) (i:=1) rfl rfl rfl) (dq 39 7 rfl (cZ K_169 c_den ⟨(Ht rfl),trivial⟩) (dqq 38 6 40 8 rfl (cZ K_168 (c_scaled (by omega) (by omega)) ⟨(Ht rfl),(Ht rfl),trivial⟩) (dp 7 rfl (eJ A_45 Z_45 (Ht rfl) (i:=4) rfl rfl rfl) (dq 42 10 rfl (cZ K_169 c_den ⟨(Ht rfl),trivial⟩) (dp 6 rfl (eZ fa_43_1 (Ht rfl) rfl) (dq 44 12 rfl (eY A_41 Z_41 (Ht rfl) (i:=3) rfl rfl) (fV mixed rfl (by kernel_rfl) (aJ (aJ (aJ (aJ (aJ (aJ (aJ (aJ (aJ (aJ (aJ (aJ (aJ (aJ (aV ?_))))))))))))))))))))))
  refine ro rfl (cZ Tryz.call170 (c_mul (by omega) (by omega)) ⟨(Ht rfl),(Ht rfl),trivial⟩) (ro rfl (cZ K_166 (c_over (by first | assumption | omega) (by omega) (by omega) (by omega)) ⟨(Ht rfl),(Ht rfl),(Ht rfl),trivial⟩) (gQ Z_45 (Ht rfl) (Ht rfl) rfl (i:=2) rfl (aK rfl) rfl rfl (ro rfl (cQ (cJ 0)) (eX (T_ret2 rfl (fX (fK A_45 Z_45 rfl (i:=2) rfl rfl) ?_) (fX (eU rfl) ?_))))))
  ·exact (num_of (Qi.mk_divP x h0 (hc ▸ hz) hm))
  ·exact (int_of (by rw [if_neg h0]; rfl))
theorem c_rhalf {a:Int} {d:Nat} (hd:0 < d) (ha:(dg a.natAbs).length ≤ 8796093022208) (hd2:(dg d).length ≤ 8796093022208):Fun Tryz.prog 264 [WholeT a,NatT d] (StrT (ptxt a d)):=by
 have hg:=dl_gcd ha hd2
 have hg0:Nat.gcd a.natAbs d ≠ 0:=fun e=>by have:=Nat.gcd_eq_zero_iff.1 e; omega
 have h1:=dl_div a.natAbs (Nat.gcd a.natAbs d); have h2:=dl_div d (Nat.gcd a.natAbs d)
 rw [ptxt_eq a hd]
 obtain ⟨u,hu⟩:∃ u,u = a.natAbs / Nat.gcd a.natAbs d:=⟨_,rfl⟩
 obtain ⟨v,hv⟩:∃ v,v = d / Nat.gcd a.natAbs d:=⟨_,rfl⟩
 rw [← hu,← hv]
 rw [← hu] at h1
 rw [← hv] at h2
 have h3:=dec_len u; have h4:=dec_len v
 refine Fun.intro Tryz.func264 rfl Tryz.ntmps264 rfl (fun cx=>(ts (rn rfl (fG (Ht rfl)) fun B2=>(ro rfl (cQ (Has.cS (l:=[]) rfl)) (eX (ts (ro rfl (eZ fa_96_1 (Ht rfl) rfl) (ro rfl (eY A_40 Z_40 (Ht rfl) (i:=0) rfl rfl) (rm rfl (ro rfl (cZ Tryz.call253 (c_rGcd (by omega) (by omega)) ⟨(Ht rfl),(Ht rfl),trivial⟩) (ra rfl (eX (ts (ro rfl (eZ fa_96_1 (Ht rfl) rfl) (ro rfl (eY A_40 Z_40 (Ht rfl) (i:=0) rfl rfl) (rm rfl (ro rfl (cZ K_254 (c_rDiv (by omega) (by omega) (by omega)) ⟨(Ht rfl),(Ht rfl),trivial⟩) ?_)))))))))))))))))
 refine rm rfl (ro rfl (OpTy.imp (dK (Ht rfl) rfl) (natT_of hu.symm)) (ro rfl (dK (Ht rfl) rfl) (ra rfl (ra rfl (eX (ts (rm rfl (rm rfl (ro rfl (cZ K_254 (c_rDiv (by omega) (by omega) (by omega)) ⟨(Ht rfl),(Ht rfl),trivial⟩) (rm rfl (ro rfl (OpTy.imp (dK (Ht rfl) rfl) (natT_of hv.symm)) (ro rfl (dK (Ht rfl) rfl) (ra rfl (ra rfl (eX (ts (rm rfl (ro rfl (cZ Tryz.call281 (c_rText (by omega)) ⟨(Ht rfl),trivial⟩) (ra rfl (eX (cK (T_join (fun (uu:Unit)=>True) (fun (uu:Unit)=>[(8,NatT v),(10,StrT (if a < 0 then 45 :: dec u else dec u))]) (fun (uu:Unit)=>[box B2 96 [BoolT (decide (a < 0)),NatT (a).natAbs]]) ?_ (fun uu _=>?_)))))))))))))))))))))))
 ·refine ts (ro rfl (eZ fa_96_0 (Ht rfl) rfl) (ro rfl (eY A_4 Z_4 (Ht rfl) (i := 0) rfl rfl) (eX (dQ (Ht rfl) (fun hb => ?_) (fun hb => ?_)))))
  ·simp only [decide_eq_true_eq] at hb
   refine cY (rm rfl (ro rfl (op_addS (Has.cS (l:=[45]) rfl) (Ht rfl) (by first | omega | (simp; omega))) (ra rfl (eX (T_joined () trivial (aQ rfl (aZ rfl (str_to (by rw [if_pos hb]; rfl)) aX)) (HSub.refl _))))))
  ·simp only [decide_eq_false_iff_not] at hb
   refine cU (T_joined () trivial (aQ rfl (aZ rfl (str_to (by rw [if_neg hb])) aX)) (HSub.refl _))
 ·have h6 : (if a < 0 then 45 :: dec u else dec u).length ≤ (dec u).length + 1 := by split <;> simp
  refine cK (ts (rm rfl (ro rfl (dG U_40 (Ht rfl) len_map) (ro rfl (op_eqlN (Ht rfl) (cJ 1)) (rm rfl (fQ rfl rfl (eK rfl rfl (Ht rfl) (fun h=>cX (Ht rfl))) (fQ rfl rfl (eK rfl rfl (Ht rfl) (fun h=>dZ U_40 Z_207 (fJ rfl h) (cJ 0) rfl (dY (get_some (by first | omega | (simp at h; omega)))))) (fQ rfl rfl (eK rfl rfl (Ht rfl) (fun h=>dJ A_207 Z_207 (fJ rfl h))) (fQ rfl rfl (eK rfl rfl (Ht rfl) (fun h=>op_eqlN (fJ rfl h) (cJ 1))) (ro rfl (op_and (Ht rfl) (fun h=>(fJ rfl h))) ?_))))))))))
  refine eX (dQ (Ht rfl) (fun hc=>?_) (fun hc=>?_))
  ·rw [one_dg] at hc
   have hv1:v = 1:=by simpa using hc
   refine ts (rm rfl (ra rfl (eX (fW rfl (fX (eU rfl) ?_)))))
   exact (str_to (by rw [if_pos hv1,List.append_nil]))
  ·rw [one_dg] at hc
   have hv1:v ≠ 1:=by simpa using hc
   refine cU (ts (rm rfl (ro rfl (op_addS (Ht rfl) (Has.cS (l:=[47]) rfl) (by simp only [List.length_cons,List.length_nil]; omega)) ?_)))
   refine rm rfl (ro rfl (cZ Tryz.call281 (c_rText (by omega)) ⟨(Ht rfl),trivial⟩) (ro rfl (op_addS (Ht rfl) (Ht rfl) (by simp only [List.length_append,List.length_cons,List.length_nil]; omega)) ?_))
   refine ra rfl (eX (fW rfl (fX (eU rfl) ?_)))
   exact (str_to (by rw [if_neg hv1,List.append_assoc]; rfl))
theorem c_rTxt {x:Qi} {L:Nat} [hx:FitC x L] (h:L ≤ 8796093022208):Fun Tryz.prog 223 [QT x] (StrT (txt x)):=by
 have hxa:=Fit_a hx.fit; have hxb:=Fit_b hx.fit; have hxd:=Fit_d hx.fit
 have hdp:=x.den_pos
 have l1:=ptxt_len x.a hdp; have l2:=ptxt_len x.b hdp
 refine Fun.intro Tryz.func223 rfl Tryz.ntmps223 rfl (fun cx=>(ts (rn rfl (fG (Ht rfl)) fun B1=>(ro rfl (cQ (Has.cS (l:=[]) rfl)) (eX (cK (ts (ro rfl (eZ fa_98_1 (Ht rfl) rfl) (ro rfl (eZ fa_96_1 (Ht rfl) rfl) (ro rfl (eY A_40 Z_40 (Ht rfl) (i:=0) rfl rfl) (ro rfl (dG U_40 (Ht rfl) len_map) (ro rfl (op_eqlN (Ht rfl) (cJ 0)) (eX (dQ (Ht rfl) (fun hb=>?_) (fun hb=>?_)))))))))))))))
 ·simp only [decide_eq_true_eq] at hb
  have h0:x.b = 0:=by have:=dg_length_zero.1 hb; omega
  refine ts (ro rfl (eZ fa_98_0 (Ht rfl) rfl) (ro rfl (eJ A_96 Z_96 (Ht rfl) (i:=0) rfl rfl rfl) (ro rfl (eZ fa_98_2 (Ht rfl) rfl) (ro rfl (eY A_40 Z_40 (Ht rfl) (i:=0) rfl rfl) (ro rfl (cZ K_264 (c_rhalf (by assumption) (by omega) (by omega)) ⟨(Ht rfl),(Ht rfl),trivial⟩) ?_)))))
  refine ra rfl (eX (fW rfl (fX (eU rfl) ?_)))
  exact (str_to (by rw [txt,if_pos h0]))
 ·simp only [decide_eq_false_iff_not] at hb
  have h0:x.b ≠ 0:=fun e=>hb (by rw [e]; exact dg_length_zero.2 rfl)
  refine cU (cK (ts (ro rfl (eZ fa_98_0 (Ht rfl) rfl) (ro rfl (eZ fa_96_1 (Ht rfl) rfl) (ro rfl (eY A_40 Z_40 (Ht rfl) (i:=0) rfl rfl) (ro rfl (dG U_40 (Ht rfl) len_map) (ro rfl (op_eqlN (Ht rfl) (cJ 0)) (eX (dQ (Ht rfl) (fun hc=>?_) (fun hc=>?_))))))))))
  ·simp only [decide_eq_true_eq] at hc
   have h1:x.a = 0:=by have:=dg_length_zero.1 hc; omega
   refine ts (ro rfl (eZ fa_98_1 (Ht rfl) rfl) (ro rfl (eJ A_96 Z_96 (Ht rfl) (i:=0) rfl rfl rfl) (ro rfl (eZ fa_98_2 (Ht rfl) rfl) (ro rfl (eY A_40 Z_40 (Ht rfl) (i:=0) rfl rfl) (ro rfl (cZ K_264 (c_rhalf (by assumption) (by omega) (by omega)) ⟨(Ht rfl),(Ht rfl),trivial⟩) ?_)))))
   refine ro rfl (op_addS (Ht rfl) (Has.cS (l:=[105]) rfl) (by first | omega | (simp only [List.length_append,List.length_cons,List.length_nil]; omega))) (ra rfl (eX (fW rfl (fX (eU rfl) ?_))))
   exact (str_to (by rw [txt,if_neg h0,if_pos h1]))
  ·simp only [decide_eq_false_iff_not] at hc
   have h1:x.a ≠ 0:=fun e=>hc (by rw [e]; exact dg_length_zero.2 rfl)
   refine cU (cK (ts (ro rfl (eZ fa_98_1 (Ht rfl) rfl) (ro rfl (eZ fa_96_0 (Ht rfl) rfl) (ro rfl (eY A_4 Z_4 (Ht rfl) (i:=0) rfl rfl) (eX (dQ (Ht rfl) (fun hd=>?_) (fun hd=>?_))))))))
   ·simp only [decide_eq_true_eq] at hd
    refine cK (fZ (m:=9) (dp 1 rfl (eZ fa_98_0 (Ht rfl) rfl) (dq 27 0 rfl (eJ A_96 Z_96 (Ht rfl) (i:=0) rfl rfl rfl) (dp 1 rfl (eZ fa_98_2 (Ht rfl) rfl) (dq 29 2 rfl (eY A_40 Z_40 (Ht rfl) (i:=0) rfl rfl) (dqq 28 1 30 3 rfl (cZ K_264 (c_rhalf (by assumption) (by omega) (by omega)) ⟨(Ht rfl),(Ht rfl),trivial⟩) ?_))))))
    refine dp 1 rfl (eZ fa_98_1 (Ht rfl) rfl) (dq 32 5 rfl (eJ A_96 Z_96 (Ht rfl) (i:=0) rfl rfl rfl) (dp 1 rfl (eZ fa_98_2 (Ht rfl) rfl) (dq 34 7 rfl (eY A_40 Z_40 (Ht rfl) (i:=0) rfl rfl) (fV mixed rfl (by kernel_rfl) (aJ (aJ (aJ (aJ (aJ (aJ (aJ (aJ (aJ (aV (ro rfl (cZ K_264 (c_rhalf (by assumption) (by omega) (by omega)) ⟨(Ht rfl),(Ht rfl),trivial⟩) ?_)))))))))))))))
    refine ro rfl (op_addS (Ht rfl) (Ht rfl) (by first | omega | (simp only [List.length_append,List.length_cons,List.length_nil]; omega))) (ro rfl (op_addS (Ht rfl) (Has.cS (l:=[105]) rfl) (by first | omega | (simp only [List.length_append,List.length_cons,List.length_nil]; omega))) (ra rfl (eX (fW rfl (fX (eU rfl) ?_)))))
    exact (str_to (by rw [txt,if_neg h0,if_neg h1,if_pos hd,List.append_assoc]))
   ·simp only [decide_eq_false_iff_not] at hd
    refine cU (cK (fZ (m:=11) (dp 1 rfl (eZ fa_98_0 (Ht rfl) rfl) (dq 39 0 rfl (eJ A_96 Z_96 (Ht rfl) (i:=0) rfl rfl rfl) (dp 1 rfl (eZ fa_98_2 (Ht rfl) rfl) (dq 41 2 rfl (eY A_40 Z_40 (Ht rfl) (i:=0) rfl rfl) (dqq 40 1 42 3 rfl (cZ K_264 (c_rhalf (by assumption) (by omega) (by omega)) ⟨(Ht rfl),(Ht rfl),trivial⟩) ?_)))))))
    refine dq 43 4 rfl (op_addS (Ht rfl) (Has.cS (l:=[43]) rfl) (by first | omega | (simp only [List.length_append,List.length_cons,List.length_nil]; omega))) (dp 1 rfl (eZ fa_98_1 (Ht rfl) rfl) (dq 45 6 rfl (eJ A_96 Z_96 (Ht rfl) (i:=0) rfl rfl rfl) (dp 1 rfl (eZ fa_98_2 (Ht rfl) rfl) (dq 47 8 rfl (eY A_40 Z_40 (Ht rfl) (i:=0) rfl rfl) (dqq 46 7 48 9 rfl (cZ K_264 (c_rhalf (by assumption) (by omega) (by omega)) ⟨(Ht rfl),(Ht rfl),trivial⟩) ?_)))))
    refine fV mixed rfl (by kernel_rfl) (aJ (aJ (aJ (aJ (aJ (aJ (aJ (aJ (aJ (aJ (aJ (aV (ro rfl (op_addS (Ht rfl) (Ht rfl) (by first | omega | (simp only [List.length_append,List.length_cons,List.length_nil]; omega))) (ro rfl (op_addS (Ht rfl) (Has.cS (l:=[105]) rfl) (by first | omega | (simp only [List.length_append,List.length_cons,List.length_nil]; omega))) (ra rfl (eX (fW rfl (fX (eU rfl) ?_))))))))))))))))))
    exact (str_to (by rw [txt,if_neg h0,if_neg h1,if_neg hd,List.append_assoc,List.append_assoc]; rfl))
theorem c_lawIs {x y:Qi} {L M:Nat} [hx:FitC x L] [hy:FitC y M] (h:L ≤ 8796093022208) (h2:M ≤ 8796093022208):Fun Tryz.prog 139 [NumT x,QT y] (BoolT (decide (txt x = txt y))):=by
 refine Fun.intro Tryz.func139 rfl Tryz.ntmps139 rfl (fun cx=>(ts (rn rfl (fG (Ht rfl)) fun B2=>(rn rfl (fG (Ht rfl)) fun B3=>(ro rfl (cQ cV) (eX (cK (fZ (m:=3) (dp 2 rfl (eJ A_45 Z_45 (Ht rfl) (i:=0) rfl rfl rfl) (dq 5 0 rfl (cZ Tryz.call87 (c_Text (by omega)) ⟨(Ht rfl),trivial⟩) (dp 3 rfl (eJ A_98 Z_98 (Ht rfl) (i:=1) rfl rfl rfl) (fV mixed rfl (by kernel_rfl) (aJ (aJ (aJ (aV (ro rfl (cZ Tryz.call223 (c_rTxt (by omega)) ⟨(Ht rfl),trivial⟩) (ro rfl (op_eqS (Ht rfl) (Ht rfl)) ?_))))))))))))))))))
 refine ra rfl (eX ?_)
 exact fW rfl (eU rfl)
end
section
open Go Go.RowKit
theorem info_27:Tryz.prog.info? 27 = some Tryz.t27:=by kernel_rfl
end
section
open Go Go.RowKit
theorem c_IndexNum {γ:Type} {l:List γ} {T:γ → Ty} {p:γ → Bool} [sh:∀ x,Shape (T x) 5 true] (hl:l.length ≤ 1000000):Fun Tryz.prog 273 [SlT 5 (l.map T),ClT Tryz.prog γ (fun x=>[T x]) (fun x=>BoolT (p x))] (IntT .i64 (idxZ p l)):=by
 refine Fun.intro Tryz.func273 rfl Tryz.ntmps273 rfl (fun cx=>(ts (ro rfl (cQ (cJ 0)) (eX (cK (ts (rm rfl (ro rfl (dG U_27 (Ht rfl) len_map) (ro rfl (cX (cJ 0)) (eX (eG ?_)))))))))))
 refine T_loop (fun (k : Nat) => k ≤ l.length ∧ ∀ (i : Nat) (x : γ), i < k → l[i]? = some x → p x = false) (fun (k : Nat) => l.length - k) (fun (k : Nat) => [(0, SlT 5 (l.map T)), (1, ClT Tryz.prog γ (fun x => [T x]) (fun x => BoolT (p x))), (7, NT .i64 l.length), (8, NT .i64 k)]) (fun (k : Nat) => []) 0 ⟨Nat.zero_le _, fun i x h => by omega⟩
  (aQ rfl (aQ rfl (aQ rfl (aQ rfl aX)))) aY (fun k ⟨hk,hn⟩=>?_)
 refine ts (ro rfl (gX (Ht rfl) (Ht rfl)) (eX (cK (dQ (Ht rfl) (fun hb=>?_) (fun hb=>?_)))))
 ·simp only [decide_eq_true_eq] at hb
  refine cU (cK (eG (ts (rm rfl (ra rfl (eX (ts (rm rfl (rm rfl (rm rfl (ro rfl (dZ U_27 Z_45 (Ht rfl) (Ht rfl) rfl (dY (getq hb))) (ro rfl (dJ A_45 Z_45 (Ht rfl)) (ro rfl (op_callV (l[k]) (Ht rfl) ⟨(Ht rfl),trivial⟩) (eX (dQ (Ht rfl) (fun hc=>?_) (fun hc=>?_))))))))))))))))
  ·have hp : p l[k] = true := hc
   refine ts (rm rfl (ra rfl (eX (fW rfl (fX (eU rfl) ?_)))))
   exact (int_of (idxZ_at (getq hb) hp hn).symm)
  ·have hp : p l[k] = false := hc
   refine cU (T_blk (cY (ro rfl (dV (Ht rfl) (cJ 1) (by show _ < 9223372036854775808; first | omega | (simp only [lim]; omega))) (rm rfl (eX ?_)))))
   refine fU (k + 1) ⟨hb, fun i x h1 h2 => by
    by_cases e:i = k
    ·subst e; rw [getq hb] at h2; obtain rfl:=Option.some.inj h2; exact hp
    ·exact hn i x (by omega) h2⟩ (by omega) (aQ rfl (aQ rfl (aQ rfl (aQ rfl aX)))) aY
 ·simp only [decide_eq_false_iff_not] at hb
  refine gV rfl (ts (ro rfl (cQ cV) (eX (fW rfl (fX (eU rfl) ?_)))))
  exact (int_of (idxZ_none (fun i x h=>hn i x (by have:=(List.getElem?_eq_some_iff.1 h).1; omega) h)).symm)
theorem c_ContainsNum {γ:Type} {l:List γ} {T:γ → Ty} {p:γ → Bool} [sh:∀ x,Shape (T x) 5 true] (hl:l.length ≤ 1000000):Fun Tryz.prog 245 [SlT 5 (l.map T),ClT Tryz.prog γ (fun x=>[T x]) (fun x=>BoolT (p x))] (BoolT (l.any p)):=by
 refine Fun.intro Tryz.func245 rfl Tryz.ntmps245 rfl (fun cx=>(ts (ro rfl (cQ cV) (eX (ts (rm rfl (rm rfl (ro rfl (cZ Tryz.call273 (c_IndexNum (by omega)) ⟨(Ht rfl),(Ht rfl),trivial⟩) (ro rfl (op_geq (Ht rfl) cV) (ra rfl (eX (fW rfl (fX (eU rfl) ?_)))))))))))))
 exact (bool_of (idxZ_any p l))
theorem c_IndexRow {γ:Type} {l:List γ} {T:γ → Ty} {p:γ → Bool} [sh:∀ x,Shape (T x) 1 false] (hl:l.length ≤ 1000000):Fun Tryz.prog 263 [SlT 1 (l.map T),ClT Tryz.prog γ (fun x=>[T x]) (fun x=>BoolT (p x))] (IntT .i64 (idxZ p l)):=by
 refine Fun.intro Tryz.func263 rfl Tryz.ntmps263 rfl (fun cx=>(ts (ro rfl (cQ (cJ 0)) (eX (cK (ts (rm rfl (ro rfl (dG U_28 (Ht rfl) len_map) (ro rfl (cX (cJ 0)) (eX (eG ?_)))))))))))
 refine T_loop (fun (k : Nat) => k ≤ l.length ∧ ∀ (i : Nat) (x : γ), i < k → l[i]? = some x → p x = false) (fun (k : Nat) => l.length - k) (fun (k : Nat) => [(0, SlT 1 (l.map T)), (1, ClT Tryz.prog γ (fun x => [T x]) (fun x => BoolT (p x))), (7, NT .i64 l.length), (8, NT .i64 k)]) (fun (k : Nat) => []) 0 ⟨Nat.zero_le _, fun i x h => by omega⟩
  (aQ rfl (aQ rfl (aQ rfl (aQ rfl aX)))) aY (fun k ⟨hk,hn⟩=>?_)
 refine ts (ro rfl (gX (Ht rfl) (Ht rfl)) (eX (cK (dQ (Ht rfl) (fun hb=>?_) (fun hb=>?_)))))
 ·simp only [decide_eq_true_eq] at hb
  refine cU (cK (eG (ts (rm rfl (ra rfl (eX (ts (rm rfl (rm rfl (rm rfl (ro rfl (dZ U_28 Z_27 (Ht rfl) (Ht rfl) rfl (dY (getq hb))) (ro rfl (dJ A_27 Z_27 (Ht rfl)) (ro rfl (op_callV (l[k]) (Ht rfl) ⟨(Ht rfl),trivial⟩) (eX (dQ (Ht rfl) (fun hc=>?_) (fun hc=>?_))))))))))))))))
  ·have hp : p l[k] = true := hc
   refine ts (rm rfl (ra rfl (eX (fW rfl (fX (eU rfl) ?_)))))
   exact (int_of (idxZ_at (getq hb) hp hn).symm)
  ·have hp : p l[k] = false := hc
   refine cU (T_blk (cY (ro rfl (dV (Ht rfl) (cJ 1) (by show _ < 9223372036854775808; first | omega | (simp only [lim]; omega))) (rm rfl (eX ?_)))))
   refine fU (k + 1) ⟨hb, fun i x h1 h2 => by
    by_cases e:i = k
    ·subst e; rw [getq hb] at h2; obtain rfl:=Option.some.inj h2; exact hp
    ·exact hn i x (by omega) h2⟩ (by omega) (aQ rfl (aQ rfl (aQ rfl (aQ rfl aX)))) aY
 ·simp only [decide_eq_false_iff_not] at hb
  refine gV rfl (ts (ro rfl (cQ cV) (eX (fW rfl (fX (eU rfl) ?_)))))
  exact (int_of (idxZ_none (fun i x h=>hn i x (by have:=(List.getElem?_eq_some_iff.1 h).1; omega) h)).symm)
theorem c_ContainsRow {γ:Type} {l:List γ} {T:γ → Ty} {p:γ → Bool} [sh:∀ x,Shape (T x) 1 false] (hl:l.length ≤ 1000000):Fun Tryz.prog 221 [SlT 1 (l.map T),ClT Tryz.prog γ (fun x=>[T x]) (fun x=>BoolT (p x))] (BoolT (l.any p)):=by
 refine Fun.intro Tryz.func221 rfl Tryz.ntmps221 rfl (fun cx=>(ts (ro rfl (cQ cV) (eX (ts (rm rfl (rm rfl (ro rfl (cZ Tryz.call263 (c_IndexRow (by omega)) ⟨(Ht rfl),(Ht rfl),trivial⟩) (ro rfl (op_geq (Ht rfl) cV) (ra rfl (eX (fW rfl (fX (eU rfl) ?_)))))))))))))
 exact (bool_of (idxZ_any p l))
theorem c_positive {x:Qi} {L:Nat} [hx:FitC x L] (h:L ≤ 8796093022208):Fun Tryz.prog 247 [NumT x] (BoolT (posQ x)):=by
 haveI hz:FitC Qi.zero 1:=FitC.zero (Nat.le_refl 1)
 refine Fun.intro Tryz.func247 rfl Tryz.ntmps247 rfl (fun cx=>(ts (rn rfl (fG (Ht rfl)) fun B1=>(ro rfl (cQ cV) (eX (ts (ro rfl (eJ A_45 Z_45 (Ht rfl) (i:=0) rfl rfl rfl) (ro rfl (cZ Tryz.call192 c_Real ⟨(Ht rfl),trivial⟩) (rm rfl (fQ rfl rfl (eK rfl rfl (Ht rfl) (fun h=>eJ A_45 Z_45 (Ht rfl) (i:=0) rfl rfl rfl)) (fQ rfl rfl (eK rfl rfl (Ht rfl) (fun h=>OpTy.imp (bld_45_ ) num_zero)) (fQ rfl rfl (eK rfl rfl (Ht rfl) (fun h=>cZ Tryz.call220 (c_Cmp (by omega)) ⟨(fJ rfl h),(fJ rfl h),trivial⟩)) ?_))))))))))))
 refine fQ rfl rfl (eK rfl rfl (Ht rfl) (fun h=>op_gtr (fJ rfl h) cV)) (ro rfl (op_and (Ht rfl) (fun h=>(fJ rfl h))) (ra rfl (eX (fW rfl (fX (eU rfl) ?_)))))
 exact (bool_of (pos_eq x))
theorem c_positives1 {x:Qi} {L:Nat} [hx:FitC x L] (h:L ≤ 8796093022208):Fun Tryz.prog 246 [NumT x] (BoolT (!posQ x)):=by
 refine Fun.intro Tryz.func246 rfl Tryz.ntmps246 rfl (fun cx=>(ts (rn rfl (fG (Ht rfl)) fun B1=>(ro rfl (cQ cV) (eX (ts (ro rfl (eJ A_45 Z_45 (Ht rfl) (i:=0) rfl rfl rfl) (ro rfl (cZ Tryz.call247 (c_positive (by omega)) ⟨(Ht rfl),trivial⟩) (ro rfl (op_not (Ht rfl)) (ra rfl (eX ?_)))))))))))
 exact fW rfl (eU rfl)
theorem c_positives {z:List Qi} {L:Nat} (hz:FitL z L) (h:L ≤ 8796093022208) (hl:z.length ≤ 1000):Fun Tryz.prog 181 [NumsT z] (IntT .i64 (if z.all posQ then 0 else 1)):=by
 obtain ⟨l,hzl⟩:∃ l:List {x:Qi // FitC x L},z = l.map Subtype.val:=⟨z.attach.map fun x=>⟨x.1,hz x.1 x.2⟩,by simp⟩
 subst hzl
 have hll:l.length ≤ 1000:=by simpa using hl
 refine Fun.intro Tryz.func181 rfl Tryz.ntmps181 rfl (fun cx=>(T_sub (E':=[(0,_)]) (aZ rfl (slT_of (Us:=l.map fun x=>NumT x.1) (by simp [List.map_map,Function.comp_def])) aX) ?_))
 refine ts (ro rfl (cQ (cJ 0)) (eX (cK (ts (rm rfl (ro rfl (cZ Tryz.call245 (c_ContainsNum (l:=l) (T:=fun x=>NumT x.1) (p:=fun x=>!posQ x.1) (by omega)) ⟨(Ht rfl),(Has.fn Tryz.call246 (γ:={x:Qi // FitC x L}) (Ts:=fun x=>[NumT x.1]) (U:=fun x=>BoolT (!posQ x.1)) (fun x=>haveI:=x.2; c_positives1 h)),trivial⟩) (eX (dQ (Ht rfl) (fun hb=>?_) (fun hb=>?_)))))))))
 ·have hn : ¬ (l.map Subtype.val).all posQ = true := by simp at hb ⊢; exact hb
  refine ts (ro rfl (cQ (cJ 1)) (eX (fW rfl (fX (eU rfl) ?_))))
  exact (int_of (by rw [if_neg hn]; rfl))
 ·have hn : (l.map Subtype.val).all posQ = true := by simp at hb ⊢; exact hb
  refine cU (ts (ro rfl (cQ (cJ 0)) (eX (fW rfl (fX (eU rfl) ?_)))))
  exact (int_of (by rw [if_pos hn]; rfl))
theorem c_CloneO {l:List Qi} (hl:l.length ≤ 1000):FunO Tryz.prog 184 [NumsT l] [] (Value) (fun v=>Is v) (fun v=>[rowO 45 5 v (l.map NumT)]) (fun _=>True):=by
 refine FunO.intro Tryz.func184 rfl Tryz.ntmps184 rfl (fun cx Z=>(ts (ro rfl (cQ cV) (eX (cK (ts (rm rfl (ro rfl (op_eqnil U_27 (Ht rfl)) (eX (T_condE (Ht rfl) (fun hb=>?_) (fun hb=>?_)))))))))))
 ·have hT : l.map NumT = [] := hb rfl
  refine ts (ro rfl (cQ cV) (eX (T_row 45 5 ?_)))
  exact T_retO (.slice none 0 0) trivial [0,1] ⟨⟨_,rfl,fun _ _ _ h=>h⟩,⟨_,rfl,(rowO_of hT.symm)⟩,trivial⟩ (by decide) (rvs1 rfl (eU rfl))
 ·refine cU (ts (rn rfl (new_bslice0 U_27 Z_45 O_45) fun B5 => (rm rfl (R_appendA (inf := Tryz.t45) und_27 info_45 rfl rfl rfl (Ht rfl) (Ht rfl) (i := 1) rfl (fun T hT => by obtain ⟨x, _, rfl⟩ := List.mem_map.1 hT; exact El.ag rfl) (by show _ * 88 ≤ _; simp only [List.length_map, List.length_nil]; omega) (by simp only [List.length_map, List.length_nil]; omega) rfl (fun v2 => ?_)))))
  refine ra rfl (eX ?_)
  exact T_retO v2 trivial [0,1] ⟨⟨_,rfl,fun _ _ _ h=>h⟩,⟨_,rfl,fun _ _ _ h=>h⟩,trivial⟩ (by decide) (rvs1 rfl (eU rfl))
theorem c_Clone {l:List Qi} (hl:l.length ≤ 1000):Fun Tryz.prog 184 [NumsT l] (NumsT l):=(c_CloneO hl).fun fun v _=>frz_row
theorem c_fillO {n:Nat} {f:Nat → Nat → Qi} (hn:n ≤ 1000):FunO Tryz.prog 119 [NT .i64 n,ClT Tryz.prog (Fin n × Fin n) (fun x=>[NT .i64 x.1.1,NT .i64 x.2.1]) (fun x=>NumT (f x.1.1 x.2.1))] [] (Nat) (fun B=>Is (.slice (some ⟨B,0,none⟩) n n)) (fun B=>[matO B 27 45 5 (FRow NumT (tab n fun i=>tab n (f i)))]) (fun _=>True):=by
 refine FunO.intro Tryz.func119 rfl Tryz.ntmps119 rfl (fun cx Z=>(ts (ro rfl (cQ cV) (eX (ts (rm rfl (rn rfl (new_make (T:=Is (.slice none 0 0)) (i:=Tryz.t27) V_28 info_27 rfl rfl (Ht rfl) rfl (fun _=>rfl) trivial (by show 24 * _ ≤ _; omega) (by omega)) fun B9=>(ra rfl (eX (cK (ts (rm rfl (ro rfl (op_lenI U_28 (Ht rfl)) (ro rfl (cX (cJ 0)) (eX (eG (T_conv 1 rfl (mat_nil (e:=45) (s:=5)) ?_)))))))))))))))))
 refine T_loop2 (fun (k : Nat) (m : List (List Qi)) => FillS (fun i => tab n (f i)) n m k) (fun (k : Nat) (m : List (List Qi)) => n - k) (fun (k : Nat) (m : List (List Qi)) => [(0, NT .i64 n), (1, ClT Tryz.prog (Fin n × Fin n) (fun x => [NT .i64 x.1.1, NT .i64 x.2.1]) (fun x => NumT (f x.1.1 x.2.1))), (5, Is (.slice (some ⟨B9, 0, none⟩) n n)), (11, NT .i64 n), (12, NT .i64 k)]) (fun (k : Nat) (m : List (List Qi)) => [Z, matO B9 27 45 5 (FRow NumT m)]) 0 (List.replicate n []) (FillS.start _ _ _)
  (aQ rfl (aQ rfl (aQ rfl (aQ rfl (aQ rfl aX))))) (aU (fun _ _ _ h=>h) (aU (matO_of (rep_FRow NumT n)) aY)) (fun k m hS=>?_)
 refine ts (ro rfl (gX (Ht rfl) (Ht rfl)) (eX (cK (dQ (Ht rfl) (fun hk=>?_) (fun hk=>?_)))))
 ·simp only [decide_eq_true_eq] at hk
  have hlen:=hS.len
  refine T_focus 1 (k) rfl (frow_get (m:=m) (i:=k) (by omega)) (fun v=>(cU (cK (eG (ts (rm rfl (ra rfl (eX (ts (rm rfl (rm rfl (rm rfl (rn rfl (new_makeO (T:=NumT Qi.zero) (i:=Tryz.t45) und_27 info_45 rfl rfl (Ht rfl) rfl num_zero_p (El.ag rfl) (by show 88 * _ ≤ _; omega) (by omega)) fun B18=>(ro rfl (fY U_28 Z_27 (Ht rfl) (Ht rfl) rfl (by omega) (by rw [Nat.mul_one,Nat.zero_add])) ?_))))))))))))))
  refine R_stH Z_27 (Ht rfl) (Ht rfl) (by simp; omega) (j:=1) (l:=3) rfl rfl rfl ?_
  refine eX (cK (T_keep [0,1,3] rfl (by decide) (cY (rm rfl (rm rfl (ro rfl (fY U_28 Z_27 (Ht rfl) (Ht rfl) rfl (by omega) (by rw [Nat.mul_one,Nat.zero_add])) ?_))))))
  refine ro rfl (op_ldH A_27 Z_27 (Ht rfl) (j:=1) rfl) (ro rfl (op_lenO U_27 (Ht rfl) (i:=2) rfl (show ((List.replicate n (NumT Qi.zero)).length:Int) = ((n:Nat):Int) by simp)) (ro rfl (cX (cJ 0)) (eX (eG ?_))))
  refine T_loop2 (fun (j : Nat) (out : List Qi) => FillS (f k) n out j) (fun (j : Nat) (out : List Qi) => n - j) (fun (j : Nat) (out : List Qi) => [(0, NT .i64 n), (1, ClT Tryz.prog (Fin n × Fin n) (fun x => [NT .i64 x.1.1, NT .i64 x.2.1]) (fun x => NumT (f x.1.1 x.2.1))), (5, Is (.slice (some ⟨B9, 0, none⟩) n n)), (6, NT .i64 k), (11, NT .i64 n), (12, NT .i64 k), (24, NT .i64 n), (25, NT .i64 j)]) (fun (j : Nat) (out : List Qi) => [Z, matH B9 27 45 5 (FRow NumT m) k B18, rowO 45 5 B18 (out.map NumT)]) 0 (List.replicate n Qi.zero) (FillS.start _ _ _)
   (aQ rfl (aQ rfl (aQ rfl (aQ rfl (aQ rfl (aQ rfl (aQ rfl (aQ rfl aX)))))))) (aU (fun _ _ _ h=>h) (aU (fun _ _ _ h=>h) (aU (rowO_of (rep_mapF NumT _ _)) aY))) (fun j out hT=>?_)
  refine ts (ro rfl (gX (Ht rfl) (Ht rfl)) (eX (cK (dQ (Ht rfl) (fun hj=>?_) (fun hj=>?_)))))
  ·simp only [decide_eq_true_eq] at hj
   have hlen2:=hT.len
   refine cU (cK (eG (ts (rm rfl (ra rfl (eX (fZ (m:=9) (dp 5 rfl (cX (Ht rfl)) (dp 6 rfl (cX (Ht rfl)) (dqq 28 0 29 1 rfl (fY U_28 Z_27 (Ht rfl) (Ht rfl) rfl (by omega) (by rw [Nat.mul_one,Nat.zero_add])) ?_))))))))))
   refine dq 30 2 rfl (op_ldH A_27 Z_27 (Ht rfl) (j:=1) rfl) (dp 7 rfl (cX (Ht rfl)) (dp 1 rfl (cX (Ht rfl)) (dp 6 rfl (cX (Ht rfl)) (dp 7 rfl (cX (Ht rfl)) (C.D_step (Ei:=[(33,_),(34,_),(35,_)]) rfl rfl (bV (bG 5 rfl rfl) (bV (bG 6 rfl rfl) (bV (bG 7 rfl rfl) bW))) (dX rfl (op_callV ((⟨k,hk⟩,⟨j,hj⟩):Fin n × Fin n) (Ht rfl) ⟨(Ht rfl),(Ht rfl),trivial⟩)) (fV mixed rfl (by kernel_rfl) (aJ (aJ (aJ (aJ (aJ (aJ (aJ (aJ (aJ (aV ?_))))))))))))))))
   refine ro rfl (op_idxO U_27 Z_45 (Ht rfl) (Ht rfl) rfl (i:=2) rfl (by first | omega | (simp; omega)) rfl) (R_stO Z_45 (Ht rfl) (Ht rfl) (El.ag rfl) (i:=2) rfl rfl (by first | omega | (simp; omega)) rfl (eX (T_blk (cY (ro rfl (dV (Ht rfl) (cJ 1) (by show _ < 9223372036854775808; first | omega | (simp only [lim]; omega))) (rm rfl (eX (fU (j + 1,_) (hT.next hj rfl) (by dsimp only; omega) (aQ rfl (aQ rfl (aQ rfl (aQ rfl (aQ rfl (aQ rfl (aQ rfl (aQ rfl aX)))))))) (aU (fun _ _ _ h=>h) (aU (fun _ _ _ h=>h) (aU (rowO_of (set_mapF NumT _ _ _)) aY)))))))))))
  ·simp only [decide_eq_false_iff_not] at hj
   obtain rfl:j = n:=Nat.le_antisymm hT.kle (by omega)
   have hfin:=hT.fin
   refine gV rfl (T_blk (T_unfocus 1 2 rfl rfl (by decide) (by simp; omega) ?_))
   refine cY (ro rfl (dV (Ht rfl) (cJ 1) (by show _ < 9223372036854775808; first | omega | (simp only [lim]; omega))) (rm rfl (eX (T_keep [0,1] rfl (by decide) (fU (k + 1,_) (hS.next hk hfin) (by dsimp only; omega) (aQ rfl (aQ rfl (aQ rfl (aQ rfl (aQ rfl aX))))) (aU (fun _ _ _ h=>h) (aU (matO_of (set_FRow NumT _ _ _)) aY)))))))
 ·simp only [decide_eq_false_iff_not] at hk
  obtain rfl:k = n:=Nat.le_antisymm hS.kle (by omega)
  have hfin:=hS.fin
  refine gV rfl (ts (rm rfl (ra rfl (eX ?_))))
  exact T_retO B9 trivial [0,1] ⟨⟨_,rfl,fun _ _ _ h=>h⟩,⟨_,rfl,(matO_of (by rw [hfin]))⟩,trivial⟩ (by decide) (rvs1 rfl (eU rfl))
theorem c_fill {n:Nat} {f:Nat → Nat → Qi} (hn:n ≤ 1000):Fun Tryz.prog 119 [NT .i64 n,ClT Tryz.prog (Fin n × Fin n) (fun x=>[NT .i64 x.1.1,NT .i64 x.2.1]) (fun x=>NumT (f x.1.1 x.2.1))] (NumM (tab n fun i=>tab n (f i))):=(c_fillO hn).fun fun B _ v S V h1 h2=>slT_of (by simp [FRow,List.map_map,Function.comp_def]) v V (frz_mat (by simp [FRow,tab_len]) (Nat.le_refl _) v S V h1 h2)
end
section
open Go Go.RowKit
theorem bld_30_ {n : Nat} {E : Env} {H : Hp} {d : Option Tmp} {t : TypeId} {pos : String} {af : Array Edge} {g : Option (Nat × Bool)}  :
  OpTy Tryz.prog n E H ⟨d,.build 30 #[],t,pos,af,g⟩ (AggT [Is (.slice none 0 0),Is (.slice none 0 0)]) :=
 op_build (parts := []) fun a V w hs => by
  refine ⟨.agg #[(.slice none 0 0),(.slice none 0 0)],?_,[(.slice none 0 0),(.slice none 0 0)],rfl,aW (⟨rfl,trivial⟩) (aW (⟨rfl,trivial⟩) (aG))⟩
  simp [Instr.build,Instr.fill,Sem.run_bind,Result.andThen,cells_agg,O_30,U_30,Z_27,Z_28]
theorem bld_30_0_1 {n : Nat} {E : Env} {H : Hp} {d : Option Tmp} {t : TypeId} {pos : String} {af : Array Edge} {g : Option (Nat × Bool)} {x0 x1 : Operand} {T0 T1 : Ty} [s0 : Shape T0 1 false] (h0 : Has E x0 T0) [s1 : Shape T1 1 false] (h1 : Has E x1 T1) :
  OpTy Tryz.prog n E H ⟨d,.build 30 #[(0,x0),(1,x1)],t,pos,af,g⟩ (AggT [T0,T1]) :=
 op_build (parts := [(0, x0), (1, x1)]) fun a V w hs => by
  have p0:=h0 n V a hs
  generalize e0:a.eval x0 = v0 at p0
  have q0:=(s0.ok v0 V p0).2.2 rfl
  have p1:=h1 n V a hs
  generalize e1:a.eval x1 = v1 at p1
  have q1:=(s1.ok v1 V p1).2.2 rfl
  refine ⟨.agg #[v0,v1],?_,[v0,v1],rfl,aW (⟨p0,q0⟩) (aW (⟨p1,q1⟩) (aG))⟩
  simp [e0,e1,Instr.build,Instr.fill,Sem.run_bind,Result.andThen,cells_agg,q0.cells,q1.cells,O_30,U_30,Z_27,Z_28]
theorem fa_30_0 (a:Addr) (w:World):(Instr.fieldAt 30 (.pointer (some a)) 0).run Tryz.prog w = .ok (.pointer (some (a.add 0))) w:=by
 simp [Instr.fieldAt,Instr.sureAddr,fieldPlace,Sem.run_bind,Result.andThen,U_30,Z_27]
end
section
open Go Go.RowKit
theorem c_New1 {s:List (List Qi)} {n i j:Nat} (hs:Shp s n n) (hi:i < n) (hj:j < n):Fun Tryz.prog 190 [NT .i64 i,NT .i64 j,PT (NumM s)] (NumT (gm s i j)):=by
 have h1:=hs.1; have h2:=hs.row hi
 refine Fun.intro Tryz.func190 rfl Tryz.ntmps190 rfl (fun cx=>(ts (rn rfl (eW (Ts:=[Is (.bool false),Is (.slice none 0 0),Is (.bool false),Is (.slice none 0 0),Is (.slice none 0 0)]) O_45 rfl (fun V=>aW ⟨rfl,trivial⟩ (aW ⟨rfl,trivial⟩ (aW ⟨rfl,trivial⟩ (aW ⟨rfl,trivial⟩ (aW ⟨rfl,trivial⟩ (aG))))))) fun B5=>(eX (ts (ro rfl (dJ A_28 Z_28 (Ht rfl)) (rm rfl (ro rfl (dZ U_28 Z_27 (Ht rfl) (Ht rfl) rfl (dY (dU (d:=[]) (by omega)))) (ro rfl (dJ A_27 Z_27 (Ht rfl)) ?_)))))))))
 refine rm rfl (ro rfl (dZ U_27 Z_45 (Ht rfl) (Ht rfl) rfl (dY (dU (d:=Qi.zero) (by omega)))) (ro rfl (dJ A_45 Z_45 (Ht rfl)) (gQ Z_45 (Ht rfl) (Ht rfl) rfl (i:=0) rfl (aK rfl) rfl rfl (eX ?_))))
 exact fW rfl (fK A_45 Z_45 rfl (i:=0) rfl rfl)
theorem c_netNew {z:List Qi} {s:List (List Qi)} {L:Nat} (hz:FitL z L) (h:L ≤ 8796093022208) (hl:z.length ≤ 1000) (hl2:s.length ≤ 1000):Fun Tryz.prog 85 [NumsT z,NumM s] (TupT [NetT (okL (netErr z s) z) (okL (netErr z s) s),IntT .i64 (netErr z s)]):=by
 refine Fun.intro Tryz.func85 rfl Tryz.ntmps85 rfl (fun cx=>(ts (rn rfl (new_box1 (Ht rfl)) fun B3=>(rn rfl (eW (Ts:=[Is (.slice none 0 0),Is (.slice none 0 0)]) O_30 rfl (fun V=>aW ⟨rfl,trivial⟩ (aW ⟨rfl,trivial⟩ (aG)))) fun B4=>(ro rfl (cQ (cJ 0)) (eX (cK (cK (gJ (i:=0) (tt:=3) rfl rfl frz_ptr1 (cY (rm rfl (ro rfl (dG U_27 (Ht rfl) len_map) (ro rfl (gX (Ht rfl) (cJ 1)) (rm rfl (fQ rfl rfl (eK rfl rfl (Ht rfl) (fun h=>cX (Ht rfl))) (fQ rfl rfl (eK rfl rfl (Ht rfl) (fun h=>dG U_27 (fJ rfl h) len_map)) ?_))))))))))))))))
 refine fQ rfl rfl (eK rfl rfl (Ht rfl) (fun h=>op_gtrN (fJ rfl h) (cJ 8))) (ro rfl (op_or (Ht rfl) (fun h=>(fJ rfl h))) (rm rfl (fQ rfl rfl (eK rfl rfl (Ht rfl) (fun h=>dJ A_28 Z_28 (Ht rfl))) (fQ rfl rfl (eK rfl rfl (Ht rfl) (fun h=>dG U_28 (fJ rfl h) len_map)) (fQ rfl rfl (eK rfl rfl (Ht rfl) (fun h=>cX (Ht rfl))) (fQ rfl rfl (eK rfl rfl (Ht rfl) (fun h=>dG U_27 (fJ rfl h) len_map)) (fQ rfl rfl (eK rfl rfl (Ht rfl) (fun h=>op_neqN (fJ rfl h) (fJ rfl h))) ?_)))))))
 refine ro rfl (op_or (Ht rfl) (fun h=>(fJ rfl h))) (eX (dQ (Ht rfl) (fun hb=>?_) (fun hb=>?_)))
 ·have he := netErr_size hb
  refine ts (ro rfl (OpTy.imp (bld_30_ ) net_nil) (gQ Z_30 (Ht rfl) (Ht rfl) rfl (i:=1) rfl (aK rfl) rfl rfl (ro rfl (cQ (cJ 4)) (eX (T_ret2 rfl (fX (fK A_30 Z_30 rfl (i:=1) rfl rfl) ?_) (fX (eU rfl) ?_))))))
  ·exact (net_bad he (by decide))
  ·exact (int_of he.symm)
 ·refine cU (cK (ts (ro rfl (dJ A_28 Z_28 (Ht rfl)) (ro rfl (dG U_28 (Ht rfl) len_map) (ro rfl (cX (cJ 0)) (eX (eG ?_)))))))
  refine T_loop (fun (k : Nat) => k ≤ s.length ∧ ∀ (i : Nat) (r : List Qi), i < k → s[i]? = some r → r.length = z.length) (fun (k : Nat) => s.length - k) (fun (k : Nat) => [(0, NumsT z), (3, PT (NumM s)), (4, PtrB B4 0), (25, NumM s), (26, NT .i64 s.length), (27, NT .i64 k)]) (fun (k : Nat) => [SA.emp, box B4 30 [Is (.slice none 0 0), Is (.slice none 0 0)]]) 0 ⟨Nat.zero_le _, fun i r h => by omega⟩
   (aQ rfl (aQ rfl (aQ rfl (aQ rfl (aQ rfl (aQ rfl aX)))))) (HSub.refl _) (fun k ⟨hk,hr⟩=>?_)
  refine ts (ro rfl (gX (Ht rfl) (Ht rfl)) (eX (cK (dQ (Ht rfl) (fun hc=>?_) (fun hc=>?_)))))
  ·simp only [decide_eq_true_eq] at hc
   refine cU (cK (eG (ts (ro rfl (dZ U_28 Z_27 (Ht rfl) (Ht rfl) rfl (dY (getq hc))) (ro rfl (dJ A_27 Z_27 (Ht rfl)) (ra rfl (eX (ts (rm rfl (ro rfl (dG U_27 (Ht rfl) len_map) (rm rfl (ro rfl (dG U_27 (Ht rfl) len_map) (ro rfl (op_neqN (Ht rfl) (Ht rfl)) (eX (dQ (Ht rfl) (fun hd=>?_) (fun hd=>?_))))))))))))))))
   ·have hd2 : ¬ (s[k]).length = z.length := by simpa using hd
    have he:=netErr_row (getq hc) hd2
    refine ts (ro rfl (OpTy.imp (bld_30_ ) net_nil) (gQ Z_30 (Ht rfl) (Ht rfl) rfl (i:=1) rfl (aK rfl) rfl rfl (ro rfl (cQ (cJ 4)) (eX (T_ret2 rfl (fX (fK A_30 Z_30 rfl (i:=1) rfl rfl) ?_) (fX (eU rfl) ?_))))))
    ·exact (net_bad he (by decide))
    ·exact (int_of he.symm)
   ·have hd2 : (s[k]).length = z.length := by simpa using hd
    refine cU (T_blk (cY (ro rfl (dV (Ht rfl) (cJ 1) (by show _ < 9223372036854775808; first | omega | (simp only [lim]; omega))) (rm rfl (eX ?_)))))
    refine fU (k + 1) ⟨hc, fun i r h1 h2 => by
      by_cases e:i = k
      ·subst e; rw [getq hc] at h2; obtain rfl:=Option.some.inj h2; exact hd2
      ·exact hr i r (by omega) h2⟩ (by omega) (aQ rfl (aQ rfl (aQ rfl (aQ rfl (aQ rfl (aQ rfl aX)))))) (HSub.refl _)
  ·simp only [decide_eq_false_iff_not] at hc
   have hall:∀ (i:Nat) (r:List Qi),s[i]? = some r → r.length = z.length:=fun i r h=>hr i r (by have:=(List.getElem?_eq_some_iff.1 h).1; omega) h
   have hpos:=netErr_pos hb hall
   refine gV rfl (cK (ts (rm rfl (ro rfl (cZ Tryz.call181 (c_positives hz h (by omega)) ⟨(Ht rfl),trivial⟩) (ra rfl (eX (ts (rm rfl (ro rfl (op_neq (Ht rfl) cV) (eX (dQ (Ht rfl) (fun hd=>?_) (fun hd=>?_))))))))))))
   ·have hd2 : ¬ (if z.all posQ = true then (0 : Int) else 1) = 0 := by simpa using hd
    refine ts (ro rfl (OpTy.imp (bld_30_ ) net_nil) (rm rfl (gQ Z_30 (Ht rfl) (Ht rfl) rfl (i:=1) rfl (aK rfl) rfl rfl (ra rfl (eX (T_ret2 rfl (fX (fK A_30 Z_30 rfl (i:=1) rfl rfl) ?_) (fX (eU rfl) ?_)))))))
    ·exact (net_bad hpos hd2)
    ·exact (int_of hpos.symm)
   ·have hd2 : (if z.all posQ = true then (0 : Int) else 1) = 0 := by simpa using hd
    have he:=hpos.trans hd2
    obtain ⟨h1,h2,hsh,_⟩:=netErr_ok he
    refine cU (ts (rm rfl (ro rfl (cZ Tryz.call184 (c_Clone (by omega)) ⟨(Ht rfl),trivial⟩) (rm rfl (ro rfl (dG U_27 (Ht rfl) len_map) (ro rfl (op_clos (γ:=Fin z.length × Fin z.length) (Ts:=fun x=>[NT .i64 x.1.1,NT .i64 x.2.1]) (U:=fun x=>NumT (gm s x.1.1 x.2.1)) Tryz.call190 (fun x=>c_New1 hsh x.1.2 x.2.2) ⟨(Ht rfl),trivial⟩) (ro rfl (cZ Tryz.call119 (eQ (c_fill (n:=z.length) (f:=gm s) (by omega)) (slT_of (by rw [← mat_tab hsh]))) ⟨(Ht rfl),(Ht rfl),trivial⟩) ?_)))))))
    refine ro rfl (bld_30_0_1 (Ht rfl) (Ht rfl)) (gQ Z_30 (Ht rfl) (Ht rfl) rfl (i:=1) rfl (aK rfl) rfl rfl (ro rfl (cQ (cJ 0)) (eX (T_ret2 rfl (fX (fK A_30 Z_30 rfl (i:=1) rfl rfl) ?_) (fX (eU rfl) ?_)))))
    ·exact (net_good he)
    ·exact (int_of he.symm)
theorem c_Ports {z:List Qi} {s:List (List Qi)}:Fun Tryz.prog 37 [NetT z s] (NT .i64 z.length):=by
 refine Fun.intro Tryz.func37 rfl Tryz.ntmps37 rfl (fun cx=>(ts (rn rfl (fG (Ht rfl)) fun B1=>(ro rfl (cQ (cJ 0)) (eX (ts (ro rfl (eZ fa_30_0 (Ht rfl) rfl) (ro rfl (eY A_27 Z_27 (Ht rfl) (i:=0) rfl rfl) (ro rfl (dG U_27 (Ht rfl) len_map) (ra rfl (eX ?_)))))))))))
 exact fW rfl (eU rfl)
theorem c_has {z:List Qi} {s:List (List Qi)} {i:Int}:Fun Tryz.prog 171 [NetT z s,IntT .i64 i] (BoolT (decide (1 ≤ i ∧ i ≤ z.length))):=by
 refine Fun.intro Tryz.func171 rfl Tryz.ntmps171 rfl (fun cx=>(ts (rn rfl (fG (Ht rfl)) fun B2=>(ro rfl (cQ cV) (eX (ts (rm rfl (ro rfl (op_geq (Ht rfl) cV) (rm rfl (fQ rfl rfl (eK rfl rfl (Ht rfl) (fun h=>cX (Ht rfl))) (fQ rfl rfl (eK rfl rfl (Ht rfl) (fun h=>eZ fa_30_0 (Ht rfl) rfl)) (fQ rfl rfl (eK rfl rfl (Ht rfl) (fun h=>eY A_27 Z_27 (fJ rfl h) (i:=0) rfl rfl)) (fQ rfl rfl (eK rfl rfl (Ht rfl) (fun h=>dG U_27 (fJ rfl h) len_map)) (fQ rfl rfl (eK rfl rfl (Ht rfl) (fun h=>op_leq (fJ rfl h) (fJ rfl h))) ?_))))))))))))))
 refine ro rfl (op_and (Ht rfl) (fun h=>(fJ rfl h))) (ra rfl (eX (fW rfl (fX (eU rfl) ?_))))
 exact (bool_of (by rw [Bool.eq_iff_iff]; simp))
end
section
open Go Go.RowKit
theorem fa_30_1 (a:Addr) (w:World):(Instr.fieldAt 30 (.pointer (some a)) 1).run Tryz.prog w = .ok (.pointer (some (a.add 1))) w:=by
 simp [Instr.fieldAt,Instr.sureAddr,fieldPlace,Sem.run_bind,Result.andThen,U_30,Z_28]
theorem fa_77_0 (a:Addr) (w:World):(Instr.fieldAt 77 (.pointer (some a)) 0).run Tryz.prog w = .ok (.pointer (some (a.add 0))) w:=by
 simp [Instr.fieldAt,Instr.sureAddr,fieldPlace,Sem.run_bind,Result.andThen,U_77,Z_30]
theorem fa_77_1 (a:Addr) (w:World):(Instr.fieldAt 77 (.pointer (some a)) 1).run Tryz.prog w = .ok (.pointer (some (a.add 2))) w:=by
 simp [Instr.fieldAt,Instr.sureAddr,fieldPlace,Sem.run_bind,Result.andThen,U_77,Z_28]
end
section
open Go Go.RowKit
theorem c_Ref {z:List Qi} {s:List (List Qi)} {i:Int} (hl:z.length ≤ 1000):Fun Tryz.prog 63 [NetT z s,IntT .i64 i] (TupT [NumT (pkv z i),IntT .i64 (if 1 ≤ i ∧ i ≤ z.length then 0 else 1)]):=by
 refine Fun.intro Tryz.func63 rfl Tryz.ntmps63 rfl (fun cx=>(ts (rn rfl (fG (Ht rfl)) fun B2=>(rn rfl (eW (Ts:=[Is (.bool false),Is (.slice none 0 0),Is (.bool false),Is (.slice none 0 0),Is (.slice none 0 0)]) O_45 rfl (fun V=>aW ⟨rfl,trivial⟩ (aW ⟨rfl,trivial⟩ (aW ⟨rfl,trivial⟩ (aW ⟨rfl,trivial⟩ (aW ⟨rfl,trivial⟩ (aG))))))) fun B4=>(ro rfl (cQ (cJ 0)) (eX (cK (ts (ro rfl (eJ A_30 Z_30 (Ht rfl) (i:=0) rfl rfl rfl) (rm rfl (ro rfl (cZ Tryz.call171 c_has ⟨(Ht rfl),(Ht rfl),trivial⟩) ?_)))))))))))
 refine ro rfl (op_not (Ht rfl)) (eX (dQ (Ht rfl) (fun hb=>?_) (fun hb=>?_)))
 ·have hn : ¬ (1 ≤ i ∧ i ≤ (z.length : Int)) := by simpa only [Bool.not_eq_true', decide_eq_false_iff_not] using hb
  refine ts (ro rfl (OpTy.imp (bld_45_ ) num_zero) (gQ Z_45 (Ht rfl) (Ht rfl) rfl (i:=1) rfl (aK rfl) rfl rfl (ro rfl (cQ (cJ 1)) (eX (T_ret2 rfl (fX (fK A_45 Z_45 rfl (i:=1) rfl rfl) ?_) (fX (eU rfl) ?_))))))
  ·exact (num_of (by rw [pkv,if_neg hn]))
  ·exact (int_of (by rw [if_neg hn]; rfl))
 ·have hp : 1 ≤ i ∧ i ≤ (z.length : Int) := by simpa only [Bool.not_eq_false', decide_eq_true_eq] using hb
  have hq:(i - 1).toNat < z.length:=by omega
  refine cU (ts (ro rfl (eZ fa_30_0 (Ht rfl) rfl) (ro rfl (eY A_27 Z_27 (Ht rfl) (i:=0) rfl rfl) (rm rfl (ro rfl (op_sub (Ht rfl) cV (w64 (by omega))) (ro rfl (dZ U_27 Z_45 (Ht rfl) (Ht rfl) (by omega:i - 1 = (((i - 1).toNat:Nat):Int)) (dY (dU (d:=Qi.zero) hq))) (ro rfl (dJ A_45 Z_45 (Ht rfl)) (gQ Z_45 (Ht rfl) (Ht rfl) rfl (i:=1) rfl (aK rfl) rfl rfl (ro rfl (cQ (cJ 0)) (eX (T_ret2 rfl (fX (fK A_45 Z_45 rfl (i:=1) rfl rfl) ?_) (fX (eU rfl) ?_))))))))))))
  ·exact (num_of (by rw [pkv,if_pos hp]))
  ·exact (int_of (by rw [if_pos hp]; rfl))
theorem c_At {z:List Qi} {s:List (List Qi)} {i j:Int} (hs:Shp s z.length z.length) (hl:z.length ≤ 1000):Fun Tryz.prog 65 [NetT z s,IntT .i64 i,IntT .i64 j] (TupT [NumT (pkm z.length s i j),IntT .i64 (if (1 ≤ i ∧ i ≤ z.length) ∧ 1 ≤ j ∧ j ≤ z.length then 0 else 1)]):=by
 have hs1:=hs.1
 refine Fun.intro Tryz.func65 rfl Tryz.ntmps65 rfl (fun cx=>(ts (rn rfl (fG (Ht rfl)) fun B3=>(rn rfl (eW (Ts:=[Is (.bool false),Is (.slice none 0 0),Is (.bool false),Is (.slice none 0 0),Is (.slice none 0 0)]) O_45 rfl (fun V=>aW ⟨rfl,trivial⟩ (aW ⟨rfl,trivial⟩ (aW ⟨rfl,trivial⟩ (aW ⟨rfl,trivial⟩ (aW ⟨rfl,trivial⟩ (aG))))))) fun B6=>(ro rfl (cQ (cJ 0)) (eX (cK (ts (ro rfl (eJ A_30 Z_30 (Ht rfl) (i:=0) rfl rfl rfl) (rm rfl (ro rfl (cZ Tryz.call171 c_has ⟨(Ht rfl),(Ht rfl),trivial⟩) ?_)))))))))))
 refine ro rfl (op_not (Ht rfl)) (rm rfl (fQ rfl rfl (eK rfl rfl (Ht rfl) (fun h=>eJ A_30 Z_30 (Ht rfl) (i:=0) rfl rfl rfl)) (fQ rfl rfl (eK rfl rfl (Ht rfl) (fun h=>cX (Ht rfl))) (fQ rfl rfl (eK rfl rfl (Ht rfl) (fun h=>cZ Tryz.call171 c_has ⟨(fJ rfl h),(fJ rfl h),trivial⟩)) (fQ rfl rfl (eK rfl rfl (Ht rfl) (fun h=>op_not (fJ rfl h))) (ro rfl (op_or (Ht rfl) (fun h=>(fJ rfl h))) (eX (dQ (Ht rfl) (fun hb=>?_) (fun hb=>?_)))))))))
 ·have hn : ¬ ((1 ≤ i ∧ i ≤ (z.length : Int)) ∧ 1 ≤ j ∧ j ≤ (z.length : Int)) := by simp only [Bool.or_eq_true, Bool.not_eq_true', decide_eq_false_iff_not] at hb; exact fun k => hb.elim (fun h => h k.1) (fun h => h k.2)
  refine ts (rn rfl (eW (Ts:=[Is (.bool false),Is (.slice none 0 0),Is (.bool false),Is (.slice none 0 0),Is (.slice none 0 0)]) O_45 rfl (fun V=>aW ⟨rfl,trivial⟩ (aW ⟨rfl,trivial⟩ (aW ⟨rfl,trivial⟩ (aW ⟨rfl,trivial⟩ (aW ⟨rfl,trivial⟩ (aG))))))) fun B8=>(eX (ts (ro rfl (eJ A_45 Z_45 (Ht rfl) (i:=2) rfl rfl rfl) (gQ Z_45 (Ht rfl) (Ht rfl) rfl (i:=1) rfl (aK rfl) rfl rfl (ro rfl (cQ (cJ 1)) (eX (T_ret2 rfl (fX (fK A_45 Z_45 rfl (i:=1) rfl rfl) ?_) (fX (eU rfl) ?_)))))))))
  ·exact (fun v V k=>by rw [pkm,if_neg hn]; exact num_zero v V k)
  ·exact (int_of (by rw [if_neg hn]; rfl))
 ·have hp : (1 ≤ i ∧ i ≤ (z.length : Int)) ∧ 1 ≤ j ∧ j ≤ (z.length : Int) := by simpa only [Bool.or_eq_false_iff, Bool.not_eq_false', decide_eq_true_eq] using hb
  have hq:(i - 1).toNat < s.length:=by omega
  have hq2:(j - 1).toNat < (s.getD (i - 1).toNat []).length:=by rw [hs.row (by omega)]; omega
  refine cU (ts (ro rfl (eZ fa_30_1 (Ht rfl) rfl) (ro rfl (eY A_28 Z_28 (Ht rfl) (i:=0) rfl rfl) (rm rfl (ro rfl (op_sub (Ht rfl) cV (w64 (by omega))) (ro rfl (dZ U_28 Z_27 (Ht rfl) (Ht rfl) (by omega:i - 1 = (((i - 1).toNat:Nat):Int)) (dY (dU (d:=[]) hq))) (ro rfl (dJ A_27 Z_27 (Ht rfl)) (rm rfl (ro rfl (op_sub (Ht rfl) cV (w64 (by omega))) (ro rfl (dZ U_27 Z_45 (Ht rfl) (Ht rfl) (by omega:j - 1 = (((j - 1).toNat:Nat):Int)) (dY (dU (d:=Qi.zero) hq2))) ?_))))))))))
  refine ro rfl (dJ A_45 Z_45 (Ht rfl)) (gQ Z_45 (Ht rfl) (Ht rfl) rfl (i:=1) rfl (aK rfl) rfl rfl (ro rfl (cQ (cJ 0)) (eX (T_ret2 rfl (fX (fK A_45 Z_45 rfl (i:=1) rfl rfl) ?_) (fX (eU rfl) ?_)))))
  ·exact (num_of (by rw [pkm,if_pos hp]))
  ·exact (int_of (by rw [if_pos hp]; rfl))
theorem c_noiNet {z:List Qi} {s c:List (List Qi)}:Fun Tryz.prog 83 [NoisyT z s c] (NetT z s):=by
 refine Fun.intro Tryz.func83 rfl Tryz.ntmps83 rfl (fun cx=>(ts (rn rfl (fG (Ht rfl)) fun B1=>(rn rfl (eW (Ts:=[Is (.slice none 0 0),Is (.slice none 0 0)]) O_30 rfl (fun V=>aW ⟨rfl,trivial⟩ (aW ⟨rfl,trivial⟩ (aG)))) fun B2=>(eX (ts (ro rfl (eZ fa_77_0 (Ht rfl) rfl) (ro rfl (eJ A_30 Z_30 (Ht rfl) (i:=0) rfl rfl rfl) (gQ Z_30 (Ht rfl) (Ht rfl) rfl (i:=1) rfl (aK rfl) rfl rfl (eX ?_))))))))))
 exact fW rfl (fK A_30 Z_30 rfl (i:=1) rfl rfl)
theorem c_noiAt {z:List Qi} {s c:List (List Qi)} {i j:Int} (hs:Shp c c.length c.length) (hl:c.length ≤ 1000):Fun Tryz.prog 129 [NoisyT z s c,IntT .i64 i,IntT .i64 j] (TupT [NumT (pkm c.length c i j),IntT .i64 (if (1 ≤ i ∧ i ≤ c.length) ∧ 1 ≤ j ∧ j ≤ c.length then 0 else 1)]):=by
 refine Fun.intro Tryz.func129 rfl Tryz.ntmps129 rfl (fun cx=>(ts (rn rfl (fG (Ht rfl)) fun B3=>(rn rfl (eW (Ts:=[Is (.bool false),Is (.slice none 0 0),Is (.bool false),Is (.slice none 0 0),Is (.slice none 0 0)]) O_45 rfl (fun V=>aW ⟨rfl,trivial⟩ (aW ⟨rfl,trivial⟩ (aW ⟨rfl,trivial⟩ (aW ⟨rfl,trivial⟩ (aW ⟨rfl,trivial⟩ (aG))))))) fun B6=>(ro rfl (cQ (cJ 0)) (eX (cK (ts (rm rfl (ro rfl (op_lss (Ht rfl) cV) (rm rfl (fQ rfl rfl (eK rfl rfl (Ht rfl) (fun h=>cX (Ht rfl))) ?_))))))))))))
 refine fQ rfl rfl (eK rfl rfl (Ht rfl) (fun h=>eZ fa_77_1 (Ht rfl) rfl)) (fQ rfl rfl (eK rfl rfl (Ht rfl) (fun h=>eY A_28 Z_28 (fJ rfl h) (i:=0) rfl rfl)) (fQ rfl rfl (eK rfl rfl (Ht rfl) (fun h=>dG U_28 (fJ rfl h) len_map)) (fQ rfl rfl (eK rfl rfl (Ht rfl) (fun h=>op_gtr (fJ rfl h) (fJ rfl h))) (ro rfl (op_or (Ht rfl) (fun h=>(fJ rfl h))) (rm rfl (fQ rfl rfl (eK rfl rfl (Ht rfl) (fun h=>cX (Ht rfl))) (fQ rfl rfl (eK rfl rfl (Ht rfl) (fun h=>op_lss (fJ rfl h) cV)) ?_)))))))
 refine ro rfl (op_or (Ht rfl) (fun h=>(fJ rfl h))) (rm rfl (fQ rfl rfl (eK rfl rfl (Ht rfl) (fun h=>cX (Ht rfl))) (fQ rfl rfl (eK rfl rfl (Ht rfl) (fun h=>eZ fa_77_1 (Ht rfl) rfl)) (fQ rfl rfl (eK rfl rfl (Ht rfl) (fun h=>eY A_28 Z_28 (fJ rfl h) (i:=0) rfl rfl)) (fQ rfl rfl (eK rfl rfl (Ht rfl) (fun h=>dG U_28 (fJ rfl h) len_map)) (fQ rfl rfl (eK rfl rfl (Ht rfl) (fun h=>op_gtr (fJ rfl h) (fJ rfl h))) (ro rfl (op_or (Ht rfl) (fun h=>(fJ rfl h))) (eX (dQ (Ht rfl) (fun hb=>?_) (fun hb=>?_))))))))))
 ·have hn : ¬ ((1 ≤ i ∧ i ≤ (c.length : Int)) ∧ 1 ≤ j ∧ j ≤ (c.length : Int)) := by simp only [Bool.or_eq_true, decide_eq_true_eq] at hb; omega
  refine ts (rn rfl (eW (Ts:=[Is (.bool false),Is (.slice none 0 0),Is (.bool false),Is (.slice none 0 0),Is (.slice none 0 0)]) O_45 rfl (fun V=>aW ⟨rfl,trivial⟩ (aW ⟨rfl,trivial⟩ (aW ⟨rfl,trivial⟩ (aW ⟨rfl,trivial⟩ (aW ⟨rfl,trivial⟩ (aG))))))) fun B8=>(eX (ts (ro rfl (eJ A_45 Z_45 (Ht rfl) (i:=2) rfl rfl rfl) (gQ Z_45 (Ht rfl) (Ht rfl) rfl (i:=1) rfl (aK rfl) rfl rfl (ro rfl (cQ (cJ 1)) (eX (T_ret2 rfl (fX (fK A_45 Z_45 rfl (i:=1) rfl rfl) ?_) (fX (eU rfl) ?_)))))))))
  ·exact (fun v V k=>by rw [pkm,if_neg hn]; exact num_zero v V k)
  ·exact (int_of (by rw [if_neg hn]; rfl))
 ·have hp : (1 ≤ i ∧ i ≤ (c.length : Int)) ∧ 1 ≤ j ∧ j ≤ (c.length : Int) := by simp only [Bool.or_eq_false_iff, decide_eq_false_iff_not] at hb; omega
  have hq:(i - 1).toNat < c.length:=by omega
  have hq2:(j - 1).toNat < (c.getD (i - 1).toNat []).length:=by rw [hs.row (by omega)]; omega
  refine cU (ts (ro rfl (eZ fa_77_1 (Ht rfl) rfl) (ro rfl (eY A_28 Z_28 (Ht rfl) (i:=0) rfl rfl) (rm rfl (ro rfl (op_sub (Ht rfl) cV (w64 (by omega))) (ro rfl (dZ U_28 Z_27 (Ht rfl) (Ht rfl) (by omega:i - 1 = (((i - 1).toNat:Nat):Int)) (dY (dU (d:=[]) hq))) (ro rfl (dJ A_27 Z_27 (Ht rfl)) (rm rfl (ro rfl (op_sub (Ht rfl) cV (w64 (by omega))) (ro rfl (dZ U_27 Z_45 (Ht rfl) (Ht rfl) (by omega:j - 1 = (((j - 1).toNat:Nat):Int)) (dY (dU (d:=Qi.zero) hq2))) ?_))))))))))
  refine ro rfl (dJ A_45 Z_45 (Ht rfl)) (gQ Z_45 (Ht rfl) (Ht rfl) rfl (i:=1) rfl (aK rfl) rfl rfl (ro rfl (cQ (cJ 0)) (eX (T_ret2 rfl (fX (fK A_45 Z_45 rfl (i:=1) rfl rfl) ?_) (fX (eU rfl) ?_)))))
  ·exact (num_of (by rw [pkm,if_pos hp]))
  ·exact (int_of (by rw [if_pos hp]; rfl))
end
section
open Go Go.RowKit
theorem fa_74_0 (a:Addr) (w:World):(Instr.fieldAt 74 (.pointer (some a)) 0).run Tryz.prog w = .ok (.pointer (some (a.add 0))) w:=by
 simp [Instr.fieldAt,Instr.sureAddr,fieldPlace,Sem.run_bind,Result.andThen,U_74,Z_22]
theorem fa_74_1 (a:Addr) (w:World):(Instr.fieldAt 74 (.pointer (some a)) 1).run Tryz.prog w = .ok (.pointer (some (a.add 1))) w:=by
 simp [Instr.fieldAt,Instr.sureAddr,fieldPlace,Sem.run_bind,Result.andThen,U_74,Z_25]
theorem fa_74_2 (a:Addr) (w:World):(Instr.fieldAt 74 (.pointer (some a)) 2).run Tryz.prog w = .ok (.pointer (some (a.add 2))) w:=by
 simp [Instr.fieldAt,Instr.sureAddr,fieldPlace,Sem.run_bind,Result.andThen,U_74,Z_25]
theorem info_31:Tryz.prog.info? 31 = some Tryz.t31:=by kernel_rfl
theorem info_98:Tryz.prog.info? 98 = some Tryz.t98:=by kernel_rfl
theorem und_28:Tryz.prog.underlying 28 = some (.slice 27):=by kernel_rfl
theorem und_31:Tryz.prog.underlying 31 = some (.slice 98):=by kernel_rfl
theorem und_32:Tryz.prog.underlying 32 = some (.slice 31):=by kernel_rfl
end
section
open Go Go.RowKit
theorem c_lawRows {m:List (List Rt)} (hm:m.length ≤ 1000) (hr:∀ r,r ∈ m → r.length ≤ 1000):Fun Tryz.prog 24 [RatM m] (NumM (rq m)):=by
 refine Fun.intro Tryz.func24 rfl Tryz.ntmps24 rfl (fun cx=>(ts (ro rfl (cQ cV) (eX (ts (rm rfl (ro rfl (dG U_25 (Ht rfl) len_map) (rn rfl (new_makeO (T:=NumsT []) (i:=Tryz.t27) und_28 info_27 rfl rfl (Ht rfl) rfl nums_zero_p El.one (by show 24 * _ ≤ _; omega) (by omega)) fun B8=>(ra rfl (eX (cK (ts (rm rfl (ro rfl (dG U_25 (Ht rfl) len_map) (ro rfl (cX (cJ 0)) (eX (eG ?_)))))))))))))))))
 refine T_loop2 (fun (k : Nat) (out : List (List Qi)) => FillS (fun i => (m.getD i default).map Rt.q) m.length out k) (fun (k : Nat) (out : List (List Qi)) => m.length - k) (fun (k : Nat) (out : List (List Qi)) => [(3, Is B8), (9, RatM m), (10, NT .i64 m.length), (11, NT .i64 k)]) (fun (k : Nat) (out : List (List Qi)) => [rowO 27 1 B8 (out.map NumsT)]) 0 (List.replicate m.length []) (FillS.start _ _ _)
  (aQ rfl (aQ rfl (aQ rfl (aQ rfl aX)))) (aU (rowO_of (rep_mapF NumsT _ _)) aY) (fun k out hS=>?_)
 refine ts (ro rfl (gX (Ht rfl) (Ht rfl)) (eX (cK (dQ (Ht rfl) (fun hk=>?_) (fun hk=>?_)))))
 ·simp only [decide_eq_true_eq] at hk
  have hlen:=hS.len
  have hrk : (m.getD k default).length ≤ 1000 := by
   have e:m.getD k default = m[k]:=by simp [List.getD,hk]
   rw [e]; exact hr _ (List.getElem_mem hk)
  refine cU (cK (eG (ts (rm rfl (ro rfl (dZ U_25 Z_22 (Ht rfl) (Ht rfl) rfl (dY (dU (d:=default) hk))) (ro rfl (dJ A_22 Z_22 (Ht rfl)) (ra rfl (ra rfl (eX (cY (rm rfl (rm rfl (rm rfl (ro rfl (cZ Tryz.call23 (c_lawList (by omega)) ⟨(Ht rfl),trivial⟩) (ro rfl (op_idxO U_28 Z_27 (Ht rfl) (Ht rfl) rfl (i:=0) rfl (by first | omega | (simp; omega)) rfl) (R_stO Z_27 (Ht rfl) (Ht rfl) El.one (i:=0) rfl rfl (by first | omega | (simp; omega)) rfl (eX (T_blk ?_))))))))))))))))))
  refine cY (ro rfl (dV (Ht rfl) (cJ 1) (by show _ < 9223372036854775808; first | omega | (simp only [lim]; omega))) (rm rfl (eX (fU (k + 1,_) (hS.next hk rfl) (by dsimp only; omega) (aQ rfl (aQ rfl (aQ rfl (aQ rfl aX)))) (aU (rowO_of (set_mapF NumsT _ _ _)) aY)))))
 ·simp only [decide_eq_false_iff_not] at hk
  obtain rfl:k = m.length:=Nat.le_antisymm hS.kle (by omega)
  have hfin:=hS.fin
  rw [tab_list m (fun r=>r.map Rt.q)] at hfin
  refine gV rfl (gJ (i:=0) (tt:=3) rfl rfl frz_row (ts (rm rfl (ra rfl (eX (fW rfl (fX (eU rfl) ?_)))))))
  exact (slT_of (by rw [hfin]))
theorem c_few {z:List Rt} {s c:List (List Rt)}:Fun Tryz.prog 41 [LawT z s c] (BoolT (fewB z s c)):=by
 refine Fun.intro Tryz.func41 rfl Tryz.ntmps41 rfl (fun cx=>(ts (rn rfl (fG (Ht rfl)) fun B1=>(ro rfl (cQ cV) (eX (cK (ts (ro rfl (eZ fa_74_0 (Ht rfl) rfl) (ro rfl (eY A_22 Z_22 (Ht rfl) (i:=0) rfl rfl) (ro rfl (dG U_22 (Ht rfl) len_map) (ro rfl (op_gtrN (Ht rfl) (cJ 9)) (rm rfl (fQ rfl rfl (eK rfl rfl (Ht rfl) (fun h=>eZ fa_74_1 (Ht rfl) rfl)) (fQ rfl rfl (eK rfl rfl (Ht rfl) (fun h=>eY A_25 Z_25 (fJ rfl h) (i:=0) rfl rfl)) (fQ rfl rfl (eK rfl rfl (Ht rfl) (fun h=>dG U_25 (fJ rfl h) len_map)) ?_)))))))))))))))
 refine fQ rfl rfl (eK rfl rfl (Ht rfl) (fun h=>op_gtrN (fJ rfl h) (cJ 9))) (ro rfl (op_or (Ht rfl) (fun h=>(fJ rfl h))) (rm rfl (fQ rfl rfl (eK rfl rfl (Ht rfl) (fun h=>eZ fa_74_2 (Ht rfl) rfl)) (fQ rfl rfl (eK rfl rfl (Ht rfl) (fun h=>eY A_25 Z_25 (fJ rfl h) (i:=0) rfl rfl)) (fQ rfl rfl (eK rfl rfl (Ht rfl) (fun h=>dG U_25 (fJ rfl h) len_map)) (fQ rfl rfl (eK rfl rfl (Ht rfl) (fun h=>op_gtrN (fJ rfl h) (cJ 9))) (ro rfl (op_or (Ht rfl) (fun h=>(fJ rfl h))) (eX ?_))))))))
 refine dQ (Ht rfl) (fun hb=>?_) (fun hb=>?_)
 ·refine ts (ro rfl (cQ cV) (eX (fW rfl (fX (eU rfl) ?_))))
  exact (bool_of (fewB_size hb).symm)
 ·have hbl : z.length ≤ 9 ∧ s.length ≤ 9 ∧ c.length ≤ 9 := by have hb2 := hb; simp only [Bool.or_eq_false_iff, decide_eq_false_iff_not] at hb2; omega
  refine cU (cK (ts (ro rfl (eZ fa_74_1 (Ht rfl) rfl) (ro rfl (eY A_25 Z_25 (Ht rfl) (i:=0) rfl rfl) (ro rfl (dG U_25 (Ht rfl) len_map) (ro rfl (cX (cJ 0)) (eX (eG ?_))))))))
  refine T_loop (fun (k : Nat) => k ≤ s.length ∧ ∀ (i : Nat) (r : List Rt), i < k → s[i]? = some r → r.length ≤ 9) (fun (k : Nat) => s.length - k) (fun (k : Nat) => [(1, PtrB B1 0), (24, RatM s), (25, NT .i64 s.length), (26, NT .i64 k)]) (fun (k : Nat) => [box B1 74 [RatsT z, RatM s, RatM c]]) 0 ⟨Nat.zero_le _, fun i r h => by omega⟩
   (aQ rfl (aQ rfl (aQ rfl (aQ rfl aX)))) (HSub.refl _) (fun k ⟨hk,hr⟩=>?_)
  refine ts (ro rfl (gX (Ht rfl) (Ht rfl)) (eX (cK (dQ (Ht rfl) (fun hd=>?_) (fun hd=>?_)))))
  ·simp only [decide_eq_true_eq] at hd
   refine cU (cK (eG (ts (ro rfl (dZ U_25 Z_22 (Ht rfl) (Ht rfl) rfl (dY (getq hd))) (ro rfl (dJ A_22 Z_22 (Ht rfl)) (ra rfl (eX (ts (rm rfl (ro rfl (dG U_22 (Ht rfl) len_map) (ro rfl (op_gtrN (Ht rfl) (cJ 9)) (eX (dQ (Ht rfl) (fun he=>?_) (fun he=>?_))))))))))))))
   ·simp only [decide_eq_true_eq] at he
    refine ts (ro rfl (cQ cV) (eX (fW rfl (fX (eU rfl) ?_))))
    exact (bool_of (fewB_rowS (getq hd) he).symm)
   ·simp only [decide_eq_false_iff_not] at he
    refine cU (T_blk (cY (ro rfl (dV (Ht rfl) (cJ 1) (by show _ < 9223372036854775808; first | omega | (simp only [lim]; omega))) (rm rfl (eX ?_)))))
    refine fU (k + 1) ⟨hd, fun i r h1 h2 => by
      by_cases e:i = k
      ·subst e; rw [getq hd] at h2; obtain rfl:=Option.some.inj h2; omega
      ·exact hr i r (by omega) h2⟩ (by omega) (aQ rfl (aQ rfl (aQ rfl (aQ rfl aX)))) (HSub.refl _)
  ·simp only [decide_eq_false_iff_not] at hd
   have hall:∀ (i:Nat) (r:List Rt),s[i]? = some r → r.length ≤ 9:=fun i r h=>hr i r (by have:=(List.getElem?_eq_some_iff.1 h).1; omega) h
   refine gV rfl (cK (ts (ro rfl (eZ fa_74_2 (Ht rfl) rfl) (ro rfl (eY A_25 Z_25 (Ht rfl) (i:=0) rfl rfl) (ro rfl (dG U_25 (Ht rfl) len_map) (ro rfl (cX (cJ 0)) (eX (eG ?_))))))))
   refine T_loop (fun (k : Nat) => k ≤ c.length ∧ ∀ (i : Nat) (r : List Rt), i < k → c[i]? = some r → r.length ≤ 9) (fun (k : Nat) => c.length - k) (fun (k : Nat) => [(1, PtrB B1 0), (35, RatM c), (36, NT .i64 c.length), (37, NT .i64 k)]) (fun (k : Nat) => [box B1 74 [RatsT z, RatM s, RatM c]]) 0 ⟨Nat.zero_le _, fun i r h => by omega⟩
    (aQ rfl (aQ rfl (aQ rfl (aQ rfl aX)))) (HSub.refl _) (fun k ⟨hk2,hr2⟩=>?_)
   refine ts (ro rfl (gX (Ht rfl) (Ht rfl)) (eX (cK (dQ (Ht rfl) (fun hd2=>?_) (fun hd2=>?_)))))
   ·simp only [decide_eq_true_eq] at hd2
    refine cU (cK (eG (ts (ro rfl (dZ U_25 Z_22 (Ht rfl) (Ht rfl) rfl (dY (getq hd2))) (ro rfl (dJ A_22 Z_22 (Ht rfl)) (ra rfl (eX (ts (rm rfl (ro rfl (dG U_22 (Ht rfl) len_map) (ro rfl (op_gtrN (Ht rfl) (cJ 9)) (eX (dQ (Ht rfl) (fun he=>?_) (fun he=>?_))))))))))))))
    ·simp only [decide_eq_true_eq] at he
     refine ts (ro rfl (cQ cV) (eX (fW rfl (fX (eU rfl) ?_))))
     exact (bool_of (fewB_rowC (getq hd2) he).symm)
    ·simp only [decide_eq_false_iff_not] at he
     refine cU (T_blk (cY (ro rfl (dV (Ht rfl) (cJ 1) (by show _ < 9223372036854775808; first | omega | (simp only [lim]; omega))) (rm rfl (eX ?_)))))
     refine fU (k + 1) ⟨hd2, fun i r h1 h2 => by
       by_cases e:i = k
       ·subst e; rw [getq hd2] at h2; obtain rfl:=Option.some.inj h2; omega
       ·exact hr2 i r (by omega) h2⟩ (by omega) (aQ rfl (aQ rfl (aQ rfl (aQ rfl aX)))) (HSub.refl _)
   ·simp only [decide_eq_false_iff_not] at hd2
    have hall2:∀ (i:Nat) (r:List Rt),c[i]? = some r → r.length ≤ 9:=fun i r h=>hr2 i r (by have:=(List.getElem?_eq_some_iff.1 h).1; omega) h
    refine gV rfl (ts (ro rfl (cQ cV) (eX (fW rfl (fX (eU rfl) ?_)))))
    exact (bool_of (fewB_all hb hall hall2).symm)
theorem c_refList {m:List Rt} (hm:m.length ≤ 1000):Fun Tryz.prog 82 [RatsT m] (SlT 5 ((m.map Rt.q).map QT)):=by
 refine Fun.intro Tryz.func82 rfl Tryz.ntmps82 rfl (fun cx=>(ts (ro rfl (cQ cV) (eX (ts (ro rfl (cQ cV) (eX (cK (ts (rm rfl (ro rfl (dG U_22 (Ht rfl) len_map) (ro rfl (cX (cJ 0)) (eX (eG (T_row 98 5 ?_)))))))))))))))
 refine T_loop3 (fun (k : Nat) (out : List (Qi)) (v : Value) => k ≤ m.length ∧ out = (m.map Rt.q).take k) (fun (k : Nat) (out : List (Qi)) (v : Value) => m.length - k) (fun (k : Nat) (out : List (Qi)) (v : Value) => [(3, Is v), (6, RatsT m), (7, NT .i64 m.length), (8, NT .i64 k)]) (fun (k : Nat) (out : List (Qi)) (v : Value) => [rowO 98 5 v (out.map QT)]) 0 [] (.slice none 0 0) ⟨Nat.zero_le _, rfl⟩
  (aQ rfl (aQ rfl (aQ rfl (aQ rfl aX)))) (HSub.refl _) (fun k out v ⟨hk,ho⟩=>?_)
 refine ts (ro rfl (gX (Ht rfl) (Ht rfl)) (eX (cK (dQ (Ht rfl) (fun hd=>?_) (fun hd=>?_)))))
 ·simp only [decide_eq_true_eq] at hd
  have hol:out.length ≤ 1000:=by rw [ho,List.length_take]; omega
  refine cU (cK (eG (ts (ro rfl (dZ U_22 Z_91 (Ht rfl) (Ht rfl) rfl (dY (dU (d:=default) hd))) (ro rfl (dJ A_91 Z_91 (Ht rfl)) (rn rfl (eW (Ts:=[Is (.int .i64 0),Is (.int .i64 0),Is (.int .i64 0)]) O_91 rfl (fun V=>aW ⟨rfl,trivial⟩ (aW ⟨rfl,trivial⟩ (aW ⟨rfl,trivial⟩ (aG))))) fun B5=>(gQ Z_91 (Ht rfl) (Ht rfl) rfl (i:=1) rfl (aK rfl) rfl rfl (eX (cY (rm rfl (ro rfl (eJ A_91 Z_91 (Ht rfl) (i:=1) rfl rfl rfl) ?_)))))))))))
  refine ro rfl (cZ Tryz.call52 c_rOf ⟨(Ht rfl),trivial⟩) (ro rfl (op_bslice (xs:=[.tmp 14]) U_31 Z_98 O_98 (cW (Ht rfl) cG) rfl rfl rfl) (R_append (inf:=Tryz.t98) und_31 info_98 rfl rfl rfl (Ht rfl) (Ht rfl) (i:=0) rfl (by simp) (fun T hT=>by simp at hT; subst hT; exact El.ag rfl) (by show _ * 88 ≤ _; simp only [List.length_map,List.length_cons,List.length_nil]; omega) (by simp only [List.length_map,List.length_cons,List.length_nil]; omega) rfl (fun v2=>?_)))
  refine ra rfl (eX (T_blk (cY (ro rfl (dV (Ht rfl) (cJ 1) (by show _ < 9223372036854775808; first | omega | (simp only [lim]; omega))) (rm rfl (eX (T_keep [0] rfl (by decide) (fU (k + 1,_,v2) ⟨by omega,take_nextD (g:=Rt.q) hd ho⟩ (by dsimp only; omega) (aQ rfl (aQ rfl (aQ rfl (aQ rfl aX)))) (aU (rowO_of (app_mapF QT _ _)) aY)))))))))
 ·simp only [decide_eq_false_iff_not] at hd
  have hfin:=take_fin ho (by simp only [List.length_map]; omega)
  refine gV rfl (gJ (i:=0) (tt:=3) rfl rfl frz_row (ts (rm rfl (ra rfl (eX (fW rfl (fX (eU rfl) ?_)))))))
  exact (slT_of (by rw [hfin]))
theorem c_refRows {m:List (List Rt)} (hm:m.length ≤ 1000) (hr:∀ r,r ∈ m → r.length ≤ 1000):Fun Tryz.prog 132 [RatM m] (SlT 1 ((rq m).map QsT)):=by
 refine Fun.intro Tryz.func132 rfl Tryz.ntmps132 rfl (fun cx=>(ts (ro rfl (cQ cV) (eX (ts (ro rfl (cQ cV) (eX (cK (ts (rm rfl (ro rfl (dG U_25 (Ht rfl) len_map) (ro rfl (cX (cJ 0)) (eX (eG (T_row 31 1 ?_)))))))))))))))
 refine T_loop3 (fun (k : Nat) (out : List (List Qi)) (v : Value) => k ≤ m.length ∧ out = (rq m).take k) (fun (k : Nat) (out : List (List Qi)) (v : Value) => m.length - k) (fun (k : Nat) (out : List (List Qi)) (v : Value) => [(3, Is v), (6, RatM m), (7, NT .i64 m.length), (8, NT .i64 k)]) (fun (k : Nat) (out : List (List Qi)) (v : Value) => [rowO 31 1 v (out.map QsT)]) 0 [] (.slice none 0 0) ⟨Nat.zero_le _, rfl⟩
  (aQ rfl (aQ rfl (aQ rfl (aQ rfl aX)))) (HSub.refl _) (fun k out v ⟨hk,ho⟩=>?_)
 refine ts (ro rfl (gX (Ht rfl) (Ht rfl)) (eX (cK (dQ (Ht rfl) (fun hd=>?_) (fun hd=>?_)))))
 ·simp only [decide_eq_true_eq] at hd
  have hol:out.length ≤ 1000:=by rw [ho,List.length_take]; omega
  have hrk : (m.getD k default).length ≤ 1000 := by
   have e:m.getD k default = m[k]:=by simp [List.getD,hd]
   rw [e]; exact hr _ (List.getElem_mem hd)
  refine cU (cK (eG (ts (ro rfl (dZ U_25 Z_22 (Ht rfl) (Ht rfl) rfl (dY (dU (d:=default) hd))) (ro rfl (dJ A_22 Z_22 (Ht rfl)) (ra rfl (eX (cY (rm rfl (rm rfl (ro rfl (cZ Tryz.call82 (c_refList (by omega)) ⟨(Ht rfl),trivial⟩) (ro rfl (op_bslice (xs:=[.tmp 14]) U_32 Z_31 O_31 (cW (Ht rfl) cG) rfl rfl rfl) (R_append (inf:=Tryz.t31) und_32 info_31 rfl rfl rfl (Ht rfl) (Ht rfl) (i:=0) rfl (by simp) (fun T hT=>by simp at hT; subst hT; exact El.one) (by show _ * 24 ≤ _; simp only [List.length_map,List.length_cons,List.length_nil]; omega) (by simp only [List.length_map,List.length_cons,List.length_nil]; omega) rfl (fun v2=>?_))))))))))))))
  refine ra rfl (eX (T_blk (cY (ro rfl (dV (Ht rfl) (cJ 1) (by show _ < 9223372036854775808; first | omega | (simp only [lim]; omega))) (rm rfl (eX (T_keep [0] rfl (by decide) (fU (k + 1,_,v2) ⟨by omega,take_nextD (g:=(fun r=>r.map Rt.q)) hd ho⟩ (by dsimp only; omega) (aQ rfl (aQ rfl (aQ rfl (aQ rfl aX)))) (aU (rowO_of (app_mapF QsT _ _)) aY)))))))))
 ·simp only [decide_eq_false_iff_not] at hd
  have hfin:=take_fin ho (by simp only [List.length_map]; omega)
  refine gV rfl (gJ (i:=0) (tt:=3) rfl rfl frz_row (ts (rm rfl (ra rfl (eX (fW rfl (fX (eU rfl) ?_)))))))
  exact (slT_of (by rw [hfin]))
end
section
open Go Go.RowKit
theorem bld_77_ {n : Nat} {E : Env} {H : Hp} {d : Option Tmp} {t : TypeId} {pos : String} {af : Array Edge} {g : Option (Nat × Bool)}  :
  OpTy Tryz.prog n E H ⟨d,.build 77 #[],t,pos,af,g⟩ (AggT [Is (.slice none 0 0),Is (.slice none 0 0),Is (.slice none 0 0)]) :=
 op_build (parts := []) fun a V w hs => by
  refine ⟨.agg #[(.slice none 0 0),(.slice none 0 0),(.slice none 0 0)],?_,[(.slice none 0 0),(.slice none 0 0),(.slice none 0 0)],rfl,aW (⟨rfl,trivial⟩) (aW (⟨rfl,trivial⟩) (aW (⟨rfl,trivial⟩) (aG)))⟩
  simp [Instr.build,Instr.fill,Sem.run_bind,Result.andThen,cells_agg,O_77,U_77,Z_28,Z_30]
theorem bld_77_0 {n : Nat} {E : Env} {H : Hp} {d : Option Tmp} {t : TypeId} {pos : String} {af : Array Edge} {g : Option (Nat × Bool)} {x0 : Operand} {T0 T1 : Ty} (h0 : Has E x0 (AggT [T0, T1])) :
  OpTy Tryz.prog n E H ⟨d,.build 77 #[(0,x0)],t,pos,af,g⟩ (AggT [T0,T1,Is (.slice none 0 0)]) :=
 op_build (parts := [(0, x0)]) fun a V w hs => by
  obtain ⟨v0,e0,c0⟩:=h0 n V a hs
  obtain ⟨c0_0,c0_1,rfl⟩:∃ c0_0 c0_1,v0 = [c0_0,c0_1]:=list2 (by simpa using c0.length)
  refine ⟨.agg #[c0_0,c0_1,(.slice none 0 0)],?_,[c0_0,c0_1,(.slice none 0 0)],rfl,aW (c0.at (i:=0) rfl rfl) (aW (c0.at (i:=1) rfl rfl) (aW (⟨rfl,trivial⟩) (aG)))⟩
  simp [e0,Instr.build,Instr.fill,Sem.run_bind,Result.andThen,cells_agg,O_77,U_77,Z_28,Z_30]
end
section
open Go Go.RowKit
theorem c_noiNew1 {r:List Qi} {c:List (List Qi)}:Fun Tryz.prog 222 [NumsT r,PT (NumM c)] (BoolT (!decide (r.length = c.length))):=by
 refine Fun.intro Tryz.func222 rfl Tryz.ntmps222 rfl (fun cx=>(ts (ro rfl (cQ cV) (eX (ts (rm rfl (ro rfl (dG U_27 (Ht rfl) len_map) (ro rfl (dJ A_28 Z_28 (Ht rfl)) (ro rfl (dG U_28 (Ht rfl) len_map) (ro rfl (op_neqN (Ht rfl) (Ht rfl)) (ra rfl (eX ?_))))))))))))
 exact fW rfl (eU rfl)
theorem c_noiNew {z:List Qi} {s c:List (List Qi)} (hz:z.length ≤ 1000) (hc:c.length ≤ 1000):Fun Tryz.prog 131 [NetT z s,NumM c] (TupT [NoisyT (okL (noiErr z c) z) (okL (noiErr z c) s) (okL (noiErr z c) c),IntT .i64 (noiErr z c)]):=by
 refine Fun.intro Tryz.func131 rfl Tryz.ntmps131 rfl (fun cx=>(ts (rn rfl (fG (Ht rfl)) fun B2=>(rn rfl (new_box1 (Ht rfl)) fun B3=>(rn rfl (eW (Ts:=[Is (.slice none 0 0),Is (.slice none 0 0),Is (.slice none 0 0)]) O_77 rfl (fun V=>aW ⟨rfl,trivial⟩ (aW ⟨rfl,trivial⟩ (aW ⟨rfl,trivial⟩ (aG))))) fun B4=>(ro rfl (cQ (cJ 0)) (eX (cK (cK (gJ (i:=1) (tt:=3) rfl rfl frz_ptr1 (fZ (m:=8) (dp 3 rfl (dJ A_28 Z_28 (Ht rfl)) (dq 9 0 rfl (dG U_28 (Ht rfl) len_map) ?_)))))))))))))
 refine dp 2 rfl (eJ A_30 Z_30 (Ht rfl) (i:=0) rfl rfl rfl) (dq 11 2 rfl (cZ K_37 c_Ports ⟨(Ht rfl),trivial⟩) (dqq 10 1 12 3 rfl (op_neqN (Ht rfl) (Ht rfl)) (dq 13 4 rfl (cX (Ht rfl)) (C.D_step (Ei:=[(3,_),(14,_)]) rfl rfl (bV (bK rfl rfl) (bV (bG 5 rfl rfl) bW)) (eK rfl rfl (Ht rfl) (fun h=>dJ A_28 Z_28 (Ht rfl))) (C.D_step (Ei:=[(3,_),(14,_)]) rfl rfl (bV (bK rfl rfl) (bV (bG 5 rfl rfl) bW)) (eK rfl rfl (Ht rfl) (fun h=>op_clos (γ:=List Qi) (Ts:=fun r=>[NumsT r]) (U:=fun r=>BoolT (!decide (r.length = c.length))) Tryz.call222 (fun r=>c_noiNew1) ⟨(Ht rfl),trivial⟩)) ?_)))))
 refine fV mixed rfl (by kernel_rfl) (aJ (aJ (aJ (aJ (aJ (aJ (aJ (aJ (aV (fQ rfl rfl (eK rfl rfl (Ht rfl) (fun h=>cZ Tryz.call221 (c_ContainsRow (l:=c) (T:=NumsT) (p:=fun r=>!decide (r.length = c.length)) (by omega)) ⟨(fJ rfl h),(fJ rfl h),trivial⟩)) (ro rfl (op_or (Ht rfl) (fun h=>(fJ rfl h))) (eX (dQ (Ht rfl) (fun hb=>?_) (fun hb=>?_))))))))))))))
 ·have he := noiErr_bad hb
  refine ts (ro rfl (OpTy.imp (bld_77_ ) noisy_nil) (gQ Z_77 (Ht rfl) (Ht rfl) rfl (i:=2) rfl (aK rfl) rfl rfl (ro rfl (cQ (cJ 4)) (eX (T_ret2 rfl (fX (fK A_77 Z_77 rfl (i:=2) rfl rfl) ?_) (fX (eU rfl) ?_))))))
  ·exact (noisy_bad he)
  ·exact (int_of he.symm)
 ·have he := noiErr_good hb
  obtain ⟨hcl,hsh⟩:=noiErr_ok he
  refine cU (ts (ro rfl (eJ A_30 Z_30 (Ht rfl) (i:=0) rfl rfl rfl) (ro rfl (bld_77_0 (Ht rfl)) (rn rfl (eW (Ts:=[Is (.slice none 0 0),Is (.slice none 0 0),Is (.slice none 0 0)]) O_77 rfl (fun V=>aW ⟨rfl,trivial⟩ (aW ⟨rfl,trivial⟩ (aW ⟨rfl,trivial⟩ (aG))))) fun B6=>(gQ Z_77 (Ht rfl) (Ht rfl) rfl (i:=3) rfl (aK rfl) rfl rfl (eX (cK (ts (ro rfl (dJ A_28 Z_28 (Ht rfl)) (ro rfl (dG U_28 (Ht rfl) len_map) (ro rfl (cX (cJ 0)) ?_)))))))))))
  refine eX (eG (T_keep [2,3] rfl (by decide) (T_row 27 1 ?_)))
  refine T_loop3 (fun (k : Nat) (out : List (List Qi)) (v : Value) => k ≤ c.length ∧ out = c.take k) (fun (k : Nat) (out : List (List Qi)) (v : Value) => c.length - k) (fun (k : Nat) (out : List (List Qi)) (v : Value) => [(4, PtrB B4 0), (6, PtrB B6 0), (22, NumM c), (23, NT .i64 c.length), (24, NT .i64 k)]) (fun (k : Nat) (out : List (List Qi)) (v : Value) => [box B4 77 [Is (.slice none 0 0), Is (.slice none 0 0), Is (.slice none 0 0)], box B6 77 [NumsT z, NumM s, Is v], rowO 27 1 v (out.map NumsT)]) 0 [] (.slice none 0 0) ⟨Nat.zero_le _, rfl⟩
   (aQ rfl (aQ rfl (aQ rfl (aQ rfl (aQ rfl aX))))) (HSub.refl _) (fun k out v ⟨hk,ho⟩=>?_)
  refine ts (ro rfl (gX (Ht rfl) (Ht rfl)) (eX (cK (dQ (Ht rfl) (fun hd=>?_) (fun hd=>?_)))))
  ·simp only [decide_eq_true_eq] at hd
   have hol:out.length ≤ 1000:=by rw [ho,List.length_take]; omega
   have hrk : (c.getD k default).length ≤ 1000 := by
    have e:c.getD k default = c.getD k []:=rfl
    rw [e,hsh.row (by omega)]; omega
   refine cU (cK (eG (ts (ro rfl (dZ U_28 Z_27 (Ht rfl) (Ht rfl) rfl (dY (dU (d:=default) hd))) (ro rfl (dJ A_27 Z_27 (Ht rfl)) (ra rfl (eX (fZ (m:=5) (dp 6 rfl (eZ fa_77_1 (Ht rfl) rfl) (dq 28 0 rfl (op_ldBp A_28 Z_28 (Ht rfl) (i:=1) rfl rfl) (dp 8 rfl (cX (Ht rfl)) (dq 30 2 rfl (cZ Tryz.call184 (c_Clone (by omega)) ⟨(Ht rfl),trivial⟩) (dq 31 3 rfl (op_bslice (xs:=[.tmp 31]) U_28 Z_27 Tryz.zeroValue27 (cW (Ht rfl) cG) rfl rfl rfl) ?_)))))))))))))
   refine fV mixed rfl (by kernel_rfl) (aJ (aJ (aJ (aJ (aJ (aV (R_append (inf:=Tryz.t27) und_28 info_27 rfl rfl rfl (Ht rfl) (Ht rfl) (i:=2) rfl (by simp) (fun T hT=>by simp at hT; subst hT; exact El.one) (by show _ * 24 ≤ _; simp only [List.length_map,List.length_cons,List.length_nil]; omega) (by simp only [List.length_map,List.length_cons,List.length_nil]; omega) rfl (fun v2=>?_))))))))
   refine ro rfl (eZ fa_77_1 (Ht rfl) rfl) (R_stp (l:=2) Z_28 (Ht rfl) (Ht rfl) (i:=1) rfl rfl (aK rfl) rfl (eX (T_blk (cY (ro rfl (dV (Ht rfl) (cJ 1) (by show _ < 9223372036854775808; first | omega | (simp only [lim]; omega))) (rm rfl (eX (fU (k + 1,_,v2) ⟨by omega,take_nextI hd ho⟩ (by dsimp only; omega) (aQ rfl (aQ rfl (aQ rfl (aQ rfl (aQ rfl aX))))) (aU (box_of rfl) (aU (box_of rfl) (aU (rowO_of (app_mapF NumsT _ _)) aY)))))))))))
  ·simp only [decide_eq_false_iff_not] at hd
   have hfin:=take_fin ho (by omega)
   subst hfin
   refine gV rfl (cK (T_frzcell 1 2 2 rfl rfl rfl (by decide) (cY (ro rfl (eJ A_77 Z_77 (Ht rfl) (i:=1) rfl rfl rfl) (gQ Z_77 (Ht rfl) (Ht rfl) rfl (i:=0) rfl (aK rfl) rfl rfl (ro rfl (cQ (cJ 0)) (eX (T_ret2 rfl (fX (fK A_77 Z_77 rfl (i:=0) rfl rfl) ?_) (fX (eU rfl) ?_)))))))))
   ·exact (noisy_good he)
   ·exact (int_of he.symm)
end
section
open Go Go.RowKit
theorem bld_34_ {n : Nat} {E : Env} {H : Hp} {d : Option Tmp} {t : TypeId} {pos : String} {af : Array Edge} {g : Option (Nat × Bool)}  :
  OpTy Tryz.prog n E H ⟨d,.build 34 #[],t,pos,af,g⟩ (AggT [Is (.slice none 0 0),Is (.slice none 0 0)]) :=
 op_build (parts := []) fun a V w hs => by
  refine ⟨.agg #[(.slice none 0 0),(.slice none 0 0)],?_,[(.slice none 0 0),(.slice none 0 0)],rfl,aW (⟨rfl,trivial⟩) (aW (⟨rfl,trivial⟩) (aG))⟩
  simp [Instr.build,Instr.fill,Sem.run_bind,Result.andThen,cells_agg,O_34,U_34,Z_31,Z_32]
theorem bld_34_0_1 {n : Nat} {E : Env} {H : Hp} {d : Option Tmp} {t : TypeId} {pos : String} {af : Array Edge} {g : Option (Nat × Bool)} {x0 x1 : Operand} {T0 T1 : Ty} [s0 : Shape T0 1 false] (h0 : Has E x0 T0) [s1 : Shape T1 1 false] (h1 : Has E x1 T1) :
  OpTy Tryz.prog n E H ⟨d,.build 34 #[(0,x0),(1,x1)],t,pos,af,g⟩ (AggT [T0,T1]) :=
 op_build (parts := [(0, x0), (1, x1)]) fun a V w hs => by
  have p0:=h0 n V a hs
  generalize e0:a.eval x0 = v0 at p0
  have q0:=(s0.ok v0 V p0).2.2 rfl
  have p1:=h1 n V a hs
  generalize e1:a.eval x1 = v1 at p1
  have q1:=(s1.ok v1 V p1).2.2 rfl
  refine ⟨.agg #[v0,v1],?_,[v0,v1],rfl,aW (⟨p0,q0⟩) (aW (⟨p1,q1⟩) (aG))⟩
  simp [e0,e1,Instr.build,Instr.fill,Sem.run_bind,Result.andThen,cells_agg,q0.cells,q1.cells,O_34,U_34,Z_31,Z_32]
theorem bld_79_ {n : Nat} {E : Env} {H : Hp} {d : Option Tmp} {t : TypeId} {pos : String} {af : Array Edge} {g : Option (Nat × Bool)}  :
  OpTy Tryz.prog n E H ⟨d,.build 79 #[],t,pos,af,g⟩ (AggT [Is (.slice none 0 0),Is (.slice none 0 0),Is (.slice none 0 0)]) :=
 op_build (parts := []) fun a V w hs => by
  refine ⟨.agg #[(.slice none 0 0),(.slice none 0 0),(.slice none 0 0)],?_,[(.slice none 0 0),(.slice none 0 0),(.slice none 0 0)],rfl,aW (⟨rfl,trivial⟩) (aW (⟨rfl,trivial⟩) (aW (⟨rfl,trivial⟩) (aG)))⟩
  simp [Instr.build,Instr.fill,Sem.run_bind,Result.andThen,cells_agg,O_79,U_79,Z_32,Z_34]
theorem bld_79_0_1 {n : Nat} {E : Env} {H : Hp} {d : Option Tmp} {t : TypeId} {pos : String} {af : Array Edge} {g : Option (Nat × Bool)} {x0 x1 : Operand} {T0 T1 T2 : Ty} (h0 : Has E x0 (AggT [T0, T1])) [s1 : Shape T2 1 false] (h1 : Has E x1 T2) :
  OpTy Tryz.prog n E H ⟨d,.build 79 #[(0,x0),(1,x1)],t,pos,af,g⟩ (AggT [T0,T1,T2]) :=
 op_build (parts := [(0, x0), (1, x1)]) fun a V w hs => by
  obtain ⟨v0,e0,c0⟩:=h0 n V a hs
  obtain ⟨c0_0,c0_1,rfl⟩:∃ c0_0 c0_1,v0 = [c0_0,c0_1]:=list2 (by simpa using c0.length)
  have p1:=h1 n V a hs
  generalize e1:a.eval x1 = v1 at p1
  have q1:=(s1.ok v1 V p1).2.2 rfl
  refine ⟨.agg #[c0_0,c0_1,v1],?_,[c0_0,c0_1,v1],rfl,aW (c0.at (i:=0) rfl rfl) (aW (c0.at (i:=1) rfl rfl) (aW (⟨p1,q1⟩) (aG)))⟩
  simp [e0,e1,Instr.build,Instr.fill,Sem.run_bind,Result.andThen,cells_agg,q1.cells,O_79,U_79,Z_32,Z_34]
theorem fa_34_0 (a:Addr) (w:World):(Instr.fieldAt 34 (.pointer (some a)) 0).run Tryz.prog w = .ok (.pointer (some (a.add 0))) w:=by
 simp [Instr.fieldAt,Instr.sureAddr,fieldPlace,Sem.run_bind,Result.andThen,U_34,Z_31]
end
section
open Go Go.RowKit
theorem c_rPositive {x:Qi} {L:Nat} [hx:FitC x L] (h:L ≤ 17592186044415):Fun Tryz.prog 250 [QT x] (BoolT (posQ x)):=by
 refine Fun.intro Tryz.func250 rfl Tryz.ntmps250 rfl (fun cx=>(ts (rn rfl (fG (Ht rfl)) fun B1=>(ro rfl (cQ cV) (eX (ts (ro rfl (eJ A_98 Z_98 (Ht rfl) (i:=0) rfl rfl rfl) (ro rfl (cZ Tryz.call225 (c_rSide (by omega)) ⟨(Ht rfl),trivial⟩) (ro rfl (op_eql (Ht rfl) cV) (rm rfl (fQ rfl rfl (eK rfl rfl (Ht rfl) (fun h=>eJ A_98 Z_98 (Ht rfl) (i:=0) rfl rfl rfl)) (fQ rfl rfl (eK rfl rfl (Ht rfl) (fun h=>cZ Tryz.call226 c_rSign ⟨(fJ rfl h),trivial⟩)) (fQ rfl rfl (eK rfl rfl (Ht rfl) (fun h=>op_gtr (fJ rfl h) cV)) ?_)))))))))))))
 refine ro rfl (op_and (Ht rfl) (fun h=>(fJ rfl h))) (ra rfl (eX (fW rfl (fX (eU rfl) ?_))))
 exact (bool_of (rpos_eq x))
theorem c_shaped {z:List Qi} {s:List (List Qi)} (hz:z.length ≤ 100000) (hs:s.length ≤ 100000):Fun Tryz.prog 194 [QsT z,QM s] (BoolT (shpB z s)):=by
 refine Fun.intro Tryz.func194 rfl Tryz.ntmps194 rfl (fun cx=>(ts (ro rfl (cQ cV) (eX (cK (ts (rm rfl (ro rfl (dG U_31 (Ht rfl) len_map) (ro rfl (gX (Ht rfl) (cJ 1)) (rm rfl (fQ rfl rfl (eK rfl rfl (Ht rfl) (fun h=>cX (Ht rfl))) (fQ rfl rfl (eK rfl rfl (Ht rfl) (fun h=>dG U_31 (fJ rfl h) len_map)) (fQ rfl rfl (eK rfl rfl (Ht rfl) (fun h=>op_gtrN (fJ rfl h) (cJ 8))) (ro rfl (op_or (Ht rfl) (fun h=>(fJ rfl h))) (rm rfl (fQ rfl rfl (eK rfl rfl (Ht rfl) (fun h=>cX (Ht rfl))) ?_))))))))))))))))
 refine fQ rfl rfl (eK rfl rfl (Ht rfl) (fun h=>dG U_32 (fJ rfl h) len_map)) (fQ rfl rfl (eK rfl rfl (Ht rfl) (fun h=>cX (Ht rfl))) (fQ rfl rfl (eK rfl rfl (Ht rfl) (fun h=>dG U_31 (fJ rfl h) len_map)) (fQ rfl rfl (eK rfl rfl (Ht rfl) (fun h=>op_neqN (fJ rfl h) (fJ rfl h))) (ro rfl (op_or (Ht rfl) (fun h=>(fJ rfl h))) (eX (dQ (Ht rfl) (fun hb=>?_) (fun hb=>?_)))))))
 ·refine ts (ro rfl (cQ cV) (eX (fW rfl (fX (eU rfl) ?_))))
  exact (bool_of (by rw [shpB,hb]; rfl))
 ·refine cU (cK (ts (ro rfl (cQ (cJ 0)) (eX (eG ?_)))))
  refine T_loop (fun (k : Nat) => k ≤ s.length ∧ ∀ (i : Nat) (r : List Qi), i < k → s[i]? = some r → r.length = z.length) (fun (k : Nat) => s.length - k) (fun (k : Nat) => [(0, QsT z), (1, QM s), (5, NT .i64 k)]) (fun (k : Nat) => []) 0 ⟨Nat.zero_le _, fun i r h => by omega⟩
   (aQ rfl (aQ rfl (aQ rfl aX))) aY (fun k ⟨hk,hr⟩=>?_)
  refine cK (ts (rm rfl (rm rfl (ro rfl (dG U_32 (Ht rfl) len_map) (ro rfl (gX (Ht rfl) (Ht rfl)) (eX (dQ (Ht rfl) (fun hc=>?_) (fun hc=>?_))))))))
  ·simp only [decide_eq_true_eq] at hc
   refine cU (cK (eG (ts (rm rfl (rm rfl (ro rfl (dZ U_32 Z_31 (Ht rfl) (Ht rfl) rfl (dY (getq hc))) (ro rfl (dJ A_31 Z_31 (Ht rfl)) (ro rfl (dG U_31 (Ht rfl) len_map) (rm rfl (ro rfl (dG U_31 (Ht rfl) len_map) (ro rfl (op_neqN (Ht rfl) (Ht rfl)) (eX (dQ (Ht rfl) (fun hd=>?_) (fun hd=>?_))))))))))))))
   ·have hd2 : ¬ (s[k]).length = z.length := by simpa using hd
    refine ts (ro rfl (cQ cV) (eX (fW rfl (fX (eU rfl) ?_))))
    exact (bool_of (by rw [shpB,any_row (getq hc) hd2,Bool.or_true]; rfl))
   ·have hd2 : (s[k]).length = z.length := by simpa using hd
    refine cU (T_blk (cY (rm rfl (ro rfl (dV (Ht rfl) (cJ 1) (by show _ < 9223372036854775808; first | omega | (simp only [lim]; omega))) (ra rfl (eX ?_))))))
    refine fU (k + 1) ⟨hc, fun i r h1 h2 => by
     by_cases e:i = k
     ·subst e; rw [getq hc] at h2; obtain rfl:=Option.some.inj h2; exact hd2
     ·exact hr i r (by omega) h2⟩ (by omega) (aQ rfl (aQ rfl (aQ rfl aX))) aY
  ·simp only [decide_eq_false_iff_not] at hc
   have hall:∀ (i:Nat) (r:List Qi),s[i]? = some r → r.length = z.length:=fun i r h=>hr i r (by have:=(List.getElem?_eq_some_iff.1 h).1; omega) h
   refine gV rfl (ts (ro rfl (cQ cV) (eX (fW rfl (fX (eU rfl) ?_)))))
   exact (bool_of (by rw [shpB,any_none hall,hb]; rfl))
theorem c_allPositive {z:List Qi} {L:Nat} (hz:FitL z L) (h:L ≤ 17592186044415) (hl:z.length ≤ 100000):Fun Tryz.prog 195 [QsT z] (BoolT (z.all posQ)):=by
 refine Fun.intro Tryz.func195 rfl Tryz.ntmps195 rfl (fun cx=>(ts (ro rfl (cQ cV) (eX (cK (ts (ro rfl (cQ (cJ 0)) (eX (eG ?_)))))))))
 refine T_loop (fun (k : Nat) => k ≤ z.length ∧ ∀ (i : Nat) (r : Qi), i < k → z[i]? = some r → posQ r = true) (fun (k : Nat) => z.length - k) (fun (k : Nat) => [(0, QsT z), (3, NT .i64 k)]) (fun (k : Nat) => []) 0 ⟨Nat.zero_le _, fun i r h => by omega⟩
  (aQ rfl (aQ rfl aX)) aY (fun k ⟨hk,hr⟩=>?_)
 refine cK (ts (rm rfl (rm rfl (ro rfl (dG U_31 (Ht rfl) len_map) (ro rfl (gX (Ht rfl) (Ht rfl)) (eX (dQ (Ht rfl) (fun hc=>?_) (fun hc=>?_))))))))
 ·simp only [decide_eq_true_eq] at hc
  haveI hf:FitC z[k] L:=hz _ (List.getElem_mem hc)
  refine cU (cK (eG (ts (rm rfl (rm rfl (ro rfl (dZ U_31 Z_98 (Ht rfl) (Ht rfl) rfl (dY (getq hc))) (ro rfl (dJ A_98 Z_98 (Ht rfl)) (ro rfl (cZ Tryz.call250 (c_rPositive (L:=L) h) ⟨(Ht rfl),trivial⟩) (ro rfl (op_not (Ht rfl)) (eX (dQ (Ht rfl) (fun hd=>?_) (fun hd=>?_))))))))))))
  ·have hd2 : posQ z[k] = false := by simpa using hd
   refine ts (ro rfl (cQ cV) (eX (fW rfl (fX (eU rfl) ?_))))
   exact (bool_of (all_at (getq hc) hd2).symm)
  ·have hd2 : posQ z[k] = true := by simpa using hd
   refine cU (T_blk (cY (rm rfl (ro rfl (dV (Ht rfl) (cJ 1) (by show _ < 9223372036854775808; first | omega | (simp only [lim]; omega))) (ra rfl (eX ?_))))))
   refine fU (k + 1) ⟨hc, fun i r h1 h2 => by
    by_cases e:i = k
    ·subst e; rw [getq hc] at h2; obtain rfl:=Option.some.inj h2; exact hd2
    ·exact hr i r (by omega) h2⟩ (by omega) (aQ rfl (aQ rfl aX)) aY
 ·simp only [decide_eq_false_iff_not] at hc
  have hall:∀ (i:Nat) (r:Qi),z[i]? = some r → posQ r = true:=fun i r h=>hr i r (by have:=(List.getElem?_eq_some_iff.1 h).1; omega) h
  refine gV rfl (ts (ro rfl (cQ cV) (eX (fW rfl (fX (eU rfl) ?_)))))
  exact (bool_of (all_all hall).symm)
theorem c_rnetNew {z:List Qi} {s:List (List Qi)} {L:Nat} (hz:FitL z L) (h:L ≤ 17592186044415) (hl:z.length ≤ 1000) (hl2:s.length ≤ 1000):Fun Tryz.prog 89 [QsT z,QM s] (TupT [RNetT (okL (netErr z s) z) (okL (netErr z s) s),IntT .i64 (netErr z s)]):=by
 refine Fun.intro Tryz.func89 rfl Tryz.ntmps89 rfl (fun cx=>(ts (rn rfl (eW (Ts:=[Is (.slice none 0 0),Is (.slice none 0 0)]) O_34 rfl (fun V=>aW ⟨rfl,trivial⟩ (aW ⟨rfl,trivial⟩ (aG)))) fun B4=>(ro rfl (cQ (cJ 0)) (eX (cK (ts (rm rfl (rm rfl (ro rfl (cZ Tryz.call194 (c_shaped (by omega) (by omega)) ⟨(Ht rfl),(Ht rfl),trivial⟩) (ro rfl (op_not (Ht rfl)) (eX (dQ (Ht rfl) (fun hb=>?_) (fun hb=>?_))))))))))))))
 ·have hb2 : ¬ shpB z s = true := by simpa using hb
  have he:netErr z s = 4:=by rw [netErr_if,if_neg hb2]
  refine ts (ro rfl (OpTy.imp (bld_34_ ) rnet_nil) (gQ Z_34 (Ht rfl) (Ht rfl) rfl (i:=0) rfl (aK rfl) rfl rfl (ro rfl (cQ (cJ 4)) (eX (T_ret2 rfl (fX (fK A_34 Z_34 rfl (i:=0) rfl rfl) ?_) (fX (eU rfl) ?_))))))
  ·exact (rnet_bad he (by decide))
  ·exact (int_of he.symm)
 ·have hb2 : shpB z s = true := by simpa using hb
  refine cU (cK (ts (rm rfl (ro rfl (cZ Tryz.call195 (c_allPositive (by assumption) (by assumption) (by omega)) ⟨(Ht rfl),trivial⟩) ?_))))
  refine ro rfl (op_not (Ht rfl)) (eX (dQ (Ht rfl) (fun hc=>?_) (fun hc=>?_)))
  ·have hc2 : ¬ z.all posQ = true := by simp only [Bool.not_eq_true'] at hc; rw [hc]; exact Bool.noConfusion
   have he:netErr z s = 1:=by rw [netErr_if,if_pos hb2,if_neg hc2]
   refine ts (ro rfl (OpTy.imp (bld_34_ ) rnet_nil) (gQ Z_34 (Ht rfl) (Ht rfl) rfl (i:=0) rfl (aK rfl) rfl rfl (ro rfl (cQ (cJ 1)) (eX (T_ret2 rfl (fX (fK A_34 Z_34 rfl (i:=0) rfl rfl) ?_) (fX (eU rfl) ?_))))))
   ·exact (rnet_bad he (by decide))
   ·exact (int_of he.symm)
  ·have hc2 : z.all posQ = true := by simp only [Bool.not_eq_false'] at hc; exact hc
   have he:netErr z s = 0:=by rw [netErr_if,if_pos hb2,if_pos hc2]
   refine cU (ts (rm rfl (rm rfl (ro rfl (bld_34_0_1 (Ht rfl) (Ht rfl)) (gQ Z_34 (Ht rfl) (Ht rfl) rfl (i:=0) rfl (aK rfl) rfl rfl (ro rfl (cQ (cJ 0)) (eX (T_ret2 rfl (fX (fK A_34 Z_34 rfl (i:=0) rfl rfl) ?_) (fX (eU rfl) ?_)))))))))
   ·exact (rnet_good he)
   ·exact (int_of he.symm)
theorem c_rnoiNew {z:List Qi} {s c:List (List Qi)} (hz:z.length ≤ 1000) (hc:c.length ≤ 1000):Fun Tryz.prog 133 [RNetT z s,QM c] (TupT [RNoisyT (okL (noiErr z c) z) (okL (noiErr z c) s) (okL (noiErr z c) c),IntT .i64 (noiErr z c)]):=by
 refine Fun.intro Tryz.func133 rfl Tryz.ntmps133 rfl (fun cx=>(ts (rn rfl (fG (Ht rfl)) fun B2=>(rn rfl (eW (Ts:=[Is (.slice none 0 0),Is (.slice none 0 0),Is (.slice none 0 0)]) O_79 rfl (fun V=>aW ⟨rfl,trivial⟩ (aW ⟨rfl,trivial⟩ (aW ⟨rfl,trivial⟩ (aG))))) fun B4=>(ro rfl (cQ (cJ 0)) (eX (cK (ts (rm rfl (ro rfl (dG U_32 (Ht rfl) len_map) (ro rfl (eZ fa_34_0 (Ht rfl) rfl) (ro rfl (eY A_31 Z_31 (Ht rfl) (i:=0) rfl rfl) (ro rfl (dG U_31 (Ht rfl) len_map) ?_)))))))))))))
 refine ro rfl (op_neqN (Ht rfl) (Ht rfl)) (eX (dQ (Ht rfl) (fun hb=>?_) (fun hb=>?_)))
 ·have hb2 : ¬ c.length = z.length := by simpa using hb
  have he:noiErr z c = 4:=by rw [← rnoiErr_eq,rnoiErr,if_pos (.inl hb2)]
  refine ts (ro rfl (OpTy.imp (bld_79_ ) rnoisy_nil) (gQ Z_79 (Ht rfl) (Ht rfl) rfl (i:=1) rfl (aK rfl) rfl rfl (ro rfl (cQ (cJ 4)) (eX (T_ret2 rfl (fX (fK A_79 Z_79 rfl (i:=1) rfl rfl) ?_) (fX (eU rfl) ?_))))))
  ·exact (rnoisy_bad he)
  ·exact (int_of he.symm)
 ·have hb2 : c.length = z.length := by simpa using hb
  refine cU (cK (ts (ro rfl (cQ (cJ 0)) (eX (eG ?_)))))
  refine T_loop (fun (k : Nat) => k ≤ c.length ∧ ∀ (i : Nat) (r : List Qi), i < k → c[i]? = some r → r.length = z.length) (fun (k : Nat) => c.length - k) (fun (k : Nat) => [(1, QM c), (2, PtrB B2 0), (4, PtrB B4 0), (6, NT .i64 k)]) (fun (k : Nat) => [box B2 34 [QsT z, QM s], box B4 79 [Is (.slice none 0 0), Is (.slice none 0 0), Is (.slice none 0 0)]]) 0 ⟨Nat.zero_le _, fun i r h => by omega⟩
   (aQ rfl (aQ rfl (aQ rfl (aQ rfl aX)))) (HSub.refl _) (fun k ⟨hk,hr⟩=>?_)
  refine cK (ts (rm rfl (rm rfl (ro rfl (dG U_32 (Ht rfl) len_map) (ro rfl (gX (Ht rfl) (Ht rfl)) (eX (dQ (Ht rfl) (fun hd=>?_) (fun hd=>?_))))))))
  ·simp only [decide_eq_true_eq] at hd
   refine cU (cK (eG (cK (fZ (m:=8) (dp 1 rfl (cX (Ht rfl)) (dp 6 rfl (cX (Ht rfl)) (dqq 20 0 21 1 rfl (dZ U_32 Z_31 (Ht rfl) (Ht rfl) rfl (dY (getq hd))) (dq 22 2 rfl (dJ A_31 Z_31 (Ht rfl)) (dq 23 3 rfl (dG U_31 (Ht rfl) len_map) (dp 2 rfl (eZ fa_34_0 (Ht rfl) rfl) (dq 25 5 rfl (eY A_31 Z_31 (Ht rfl) (i:=0) rfl rfl) (dq 26 6 rfl (dG U_31 (Ht rfl) len_map) (fV mixed rfl (by kernel_rfl) (aJ (aJ (aJ (aJ (aJ (aJ (aJ (aJ (aV ?_))))))))))))))))))))))
   refine ro rfl (op_neqN (Ht rfl) (Ht rfl)) (eX (dQ (Ht rfl) (fun he=>?_) (fun he=>?_)))
   ·have hd2 : ¬ (c[k]).length = z.length := by simpa using he
    have he:noiErr z c = 4:=by rw [← rnoiErr_eq,rnoiErr,if_pos (.inr (any_row (getq hd) hd2))]
    refine ts (ro rfl (OpTy.imp (bld_79_ ) rnoisy_nil) (gQ Z_79 (Ht rfl) (Ht rfl) rfl (i:=1) rfl (aK rfl) rfl rfl (ro rfl (cQ (cJ 4)) (eX (T_ret2 rfl (fX (fK A_79 Z_79 rfl (i:=1) rfl rfl) ?_) (fX (eU rfl) ?_))))))
    ·exact (rnoisy_bad he)
    ·exact (int_of he.symm)
   ·have hd2 : (c[k]).length = z.length := by simpa using he
    refine cU (T_blk (cY (rm rfl (ro rfl (dV (Ht rfl) (cJ 1) (by show _ < 9223372036854775808; first | omega | (simp only [lim]; omega))) (ra rfl (eX ?_))))))
    refine fU (k + 1) ⟨hd, fun i r h1 h2 => by
      by_cases e:i = k
      ·subst e; rw [getq hd] at h2; obtain rfl:=Option.some.inj h2; exact hd2
      ·exact hr i r (by omega) h2⟩ (by omega) (aQ rfl (aQ rfl (aQ rfl (aQ rfl aX)))) (HSub.refl _)
  ·simp only [decide_eq_false_iff_not] at hd
   have hall:∀ (i:Nat) (r:List Qi),c[i]? = some r → r.length = z.length:=fun i r h=>hr i r (by have:=(List.getElem?_eq_some_iff.1 h).1; omega) h
   have he:noiErr z c = 0:=by rw [← rnoiErr_eq,rnoiErr,if_neg (by rintro (h | h); exact h hb2; rw [any_none hall] at h; cases h)]
   refine gV rfl (ts (ro rfl (eJ A_34 Z_34 (Ht rfl) (i:=0) rfl rfl rfl) (rm rfl (ro rfl (bld_79_0_1 (Ht rfl) (Ht rfl)) (gQ Z_79 (Ht rfl) (Ht rfl) rfl (i:=1) rfl (aK rfl) rfl rfl (ro rfl (cQ (cJ 0)) (eX (T_ret2 rfl (fX (fK A_79 Z_79 rfl (i:=1) rfl rfl) ?_) (fX (eU rfl) ?_)))))))))
   ·exact (rnoisy_good he)
   ·exact (int_of he.symm)
theorem c_rTemp {x:Qi} {L:Nat} [hx:FitC x L] (h:L ≤ 17592186044415):Fun Tryz.prog 144 [QT x] (BoolT (decide (cmpI x.b 0 = 0) && decide (0 ≤ cmpI x.a 0))):=by
 refine Fun.intro Tryz.func144 rfl Tryz.ntmps144 rfl (fun cx=>(ts (rn rfl (fG (Ht rfl)) fun B1=>(ro rfl (cQ cV) (eX (ts (ro rfl (eJ A_98 Z_98 (Ht rfl) (i:=0) rfl rfl rfl) (ro rfl (cZ Tryz.call225 (c_rSide (by omega)) ⟨(Ht rfl),trivial⟩) (ro rfl (op_eql (Ht rfl) cV) (rm rfl (fQ rfl rfl (eK rfl rfl (Ht rfl) (fun h=>eJ A_98 Z_98 (Ht rfl) (i:=0) rfl rfl rfl)) (fQ rfl rfl (eK rfl rfl (Ht rfl) (fun h=>cZ Tryz.call226 c_rSign ⟨(fJ rfl h),trivial⟩)) (fQ rfl rfl (eK rfl rfl (Ht rfl) (fun h=>op_geq (fJ rfl h) cV)) ?_)))))))))))))
 refine ro rfl (op_and (Ht rfl) (fun h=>(fJ rfl h))) (ra rfl (eX ?_))
 exact fW rfl (eU rfl)
end
section
open Go Go.RowKit
theorem c_made {z:List Rt} {s c:List (List Rt)} (hf:fewB z s c = true):Fun Tryz.prog 43 [LawT z s c] (TupT [NoisyT (mdZ z s c) (mdS z s c) (mdC z s c),RNoisyT (mdZ z s c) (mdS z s c) (mdC z s c),BoolT true]):=by
 obtain ⟨hz,hs,hc,hsr,hcr⟩:=fewB_ok hf
 have hsr2:∀ r,r ∈ s → r.length ≤ 1000:=fun r h=>Nat.le_trans (hsr r h) (by decide)
 have hcr2:∀ r,r ∈ c → r.length ≤ 1000:=fun r h=>Nat.le_trans (hcr r h) (by decide)
 have hz1:(z.map Rt.q).length ≤ 1000:=by simp; omega
 have hs1:(rq s).length ≤ 1000:=by simp; omega
 have hc1:(rq c).length ≤ 1000:=by simp; omega
 have hz2:(okL (netErr (z.map Rt.q) (rq s)) (z.map Rt.q)).length ≤ 1000:=Nat.le_trans (okL_len _ _) hz1
 have hfit:FitL (z.map Rt.q) 2:=FitL.rt
 refine Fun.intro Tryz.func43 rfl Tryz.ntmps43 rfl (fun cx=>(ts (rn rfl (fG (Ht rfl)) fun B1=>(rn rfl (eW (Ts:=[Is (.slice none 0 0),Is (.slice none 0 0),Is (.slice none 0 0)]) O_77 rfl (fun V=>aW ⟨rfl,trivial⟩ (aW ⟨rfl,trivial⟩ (aW ⟨rfl,trivial⟩ (aG))))) fun B2=>(rn rfl (eW (Ts:=[Is (.slice none 0 0),Is (.slice none 0 0),Is (.slice none 0 0)]) O_79 rfl (fun V=>aW ⟨rfl,trivial⟩ (aW ⟨rfl,trivial⟩ (aW ⟨rfl,trivial⟩ (aG))))) fun B3=>(ro rfl (cQ cV) ?_))))))
 refine eX (cK (Y.D_start (m:=12) [] (bY (Ei:=[(1,_)]) rfl rfl (bQ (bJ rfl rfl) bX) rfl rfl (dX rfl (eZ fa_74_0 (Ht rfl) rfl)) (bY (Ei:=[(14,_)]) rfl rfl (bQ (bZ 0 rfl rfl) bX) rfl rfl (dX rfl (eY A_22 Z_22 (Ht rfl) (i:=0) rfl rfl)) (bY (Ei:=[(15,_)]) rfl rfl (bQ (bZ 1 rfl rfl) bX) rfl rfl (dX rfl (cZ Tryz.call23 (c_lawList (by omega)) ⟨(Ht rfl),trivial⟩)) (bY (Ei:=[(1,_)]) rfl rfl (bQ (bJ rfl rfl) bX) rfl rfl (dX rfl (eZ fa_74_1 (Ht rfl) rfl)) ?_))))))
 refine bY (Ei:=[(17,_)]) rfl rfl (bQ (bZ 3 rfl rfl) bX) rfl rfl (dX rfl (eY A_25 Z_25 (Ht rfl) (i:=0) rfl rfl)) (bY (Ei:=[(18,_)]) rfl rfl (bQ (bZ 4 rfl rfl) bX) rfl rfl (dX rfl (cZ Tryz.call24 (c_lawRows (by omega) (by assumption)) ⟨(Ht rfl),trivial⟩)) ?_)
 refine bY (Ei:=[(16,_),(19,_)]) rfl rfl (bQ (bZ 2 rfl rfl) (bQ (bZ 5 rfl rfl) bX)) rfl rfl (dX rfl (cZ Tryz.call85 (c_netNew (L:=2) (by assumption) (by omega) (by omega) (by omega)) ⟨(Ht rfl),(Ht rfl),trivial⟩)) ?_
 refine bY (Ei:=[(20,_)]) rfl rfl (bQ (bZ 6 rfl rfl) bX) rfl rfl (dX rfl (cX (Ht rfl))) (bY (Ei:=[(13,_)]) rfl rfl (bQ (bZ 7 rfl rfl) bX) rfl rfl (dX rfl (dK (Ht rfl) rfl)) (bY (Ei:=[(13,_)]) rfl rfl (bQ (bZ 7 rfl rfl) bX) rfl rfl (dX rfl (dK (Ht rfl) rfl)) (Y.D_newp (Ei:=[]) (fun bb=>box bb 30 [NumsT (okL (netErr (z.map Rt.q) (rq s)) (z.map Rt.q)),NumM (okL (netErr (z.map Rt.q) (rq s)) (rq s))]) 11 rfl rfl rfl bX rfl rfl (by kernel_rfl) (eW (Ts:=[Is (.slice none 0 0),Is (.slice none 0 0)]) O_30 rfl (fun V=>aW ⟨rfl,trivial⟩ (aW ⟨rfl,trivial⟩ (aG)))) ?_)))
 refine Y.D_putN (Ei:=[(21,_)]) 10 rfl rfl rfl rfl rfl rfl (bQ (bZ 8 rfl rfl) bX) (fun bb=>P_stA Z_30 (Ht rfl) (Ht rfl) rfl (i:=0) rfl (aK rfl) rfl rfl) (Y.D_done mixed rfl (by kernel_rfl) rfl (by simp [Y.okP]) rfl rfl (bU (bU (bU (bU (bU (bU (bU (bU (bU (bU (Y.F_newp (fun B5=>Y.F_putN (Y.F_nil ?_))))))))))))))
 refine ra rfl (eX (cK (Y.D_start (m:=10) [] (bY (Ei:=[(5,_)]) rfl rfl (bQ (bJ rfl rfl) bX) rfl rfl (dX rfl (eJ A_30 Z_30 (Ht rfl) (i:=3) rfl rfl rfl)) (bY (Ei:=[(1,_)]) rfl rfl (bQ (bJ rfl rfl) bX) rfl rfl (dX rfl (eZ fa_74_2 (Ht rfl) rfl)) (bY (Ei:=[(25,_)]) rfl rfl (bQ (bZ 1 rfl rfl) bX) rfl rfl (dX rfl (eY A_25 Z_25 (Ht rfl) (i:=0) rfl rfl)) (bY (Ei:=[(26,_)]) rfl rfl (bQ (bZ 2 rfl rfl) bX) rfl rfl (dX rfl (cZ Tryz.call24 (c_lawRows (by omega) (by assumption)) ⟨(Ht rfl),trivial⟩)) ?_)))))))
 refine bY (Ei:=[(24,_),(27,_)]) rfl rfl (bQ (bZ 0 rfl rfl) (bQ (bZ 3 rfl rfl) bX)) rfl rfl (dX rfl (cZ Tryz.call131 (c_noiNew (by omega) (by omega)) ⟨(Ht rfl),(Ht rfl),trivial⟩)) (bY (Ei:=[(28,_)]) rfl rfl (bQ (bZ 4 rfl rfl) bX) rfl rfl (dX rfl (cX (Ht rfl))) (bY (Ei:=[(23,_)]) rfl rfl (bQ (bZ 5 rfl rfl) bX) rfl rfl (dX rfl (dK (Ht rfl) rfl)) (bY (Ei:=[(23,_)]) rfl rfl (bQ (bZ 5 rfl rfl) bX) rfl rfl (dX rfl (dK (Ht rfl) rfl)) ?_)))
 refine Y.D_newp (Ei:=[]) (fun bb=>box bb 77 [NumsT (okL (noiErr (okL (netErr (z.map Rt.q) (rq s)) (z.map Rt.q)) (rq c)) (okL (netErr (z.map Rt.q) (rq s)) (z.map Rt.q))),NumM (okL (noiErr (okL (netErr (z.map Rt.q) (rq s)) (z.map Rt.q)) (rq c)) (okL (netErr (z.map Rt.q) (rq s)) (rq s))),NumM (okL (noiErr (okL (netErr (z.map Rt.q) (rq s)) (z.map Rt.q)) (rq c)) (rq c))]) 9 rfl rfl rfl bX rfl rfl (by kernel_rfl) (eW (Ts:=[Is (.slice none 0 0),Is (.slice none 0 0),Is (.slice none 0 0)]) O_77 rfl (fun V=>aW ⟨rfl,trivial⟩ (aW ⟨rfl,trivial⟩ (aW ⟨rfl,trivial⟩ (aG))))) ?_
 refine Y.D_putN (Ei:=[(29,_)]) 8 rfl rfl rfl rfl rfl rfl (bQ (bZ 6 rfl rfl) bX) (fun bb=>P_stA Z_77 (Ht rfl) (Ht rfl) rfl (i:=0) rfl (aK rfl) rfl rfl) (Y.D_done mixed rfl (by kernel_rfl) rfl (by simp [Y.okP]) rfl rfl (bU (bU (bU (bU (bU (bU (bU (bU (Y.F_newp (fun B7=>Y.F_putN (Y.F_nil ?_))))))))))))
 refine ra rfl (eX (cK (Y.D_start (m:=12) [] (bY (Ei:=[(1,_)]) rfl rfl (bQ (bJ rfl rfl) bX) rfl rfl (dX rfl (eZ fa_74_0 (Ht rfl) rfl)) (bY (Ei:=[(32,_)]) rfl rfl (bQ (bZ 0 rfl rfl) bX) rfl rfl (dX rfl (eY A_22 Z_22 (Ht rfl) (i:=0) rfl rfl)) (bY (Ei:=[(33,_)]) rfl rfl (bQ (bZ 1 rfl rfl) bX) rfl rfl (dX rfl (cZ Tryz.call82 (c_refList (by omega)) ⟨(Ht rfl),trivial⟩)) (bY (Ei:=[(1,_)]) rfl rfl (bQ (bJ rfl rfl) bX) rfl rfl (dX rfl (eZ fa_74_1 (Ht rfl) rfl)) ?_)))))))
 refine bY (Ei:=[(35,_)]) rfl rfl (bQ (bZ 3 rfl rfl) bX) rfl rfl (dX rfl (eY A_25 Z_25 (Ht rfl) (i:=0) rfl rfl)) (bY (Ei:=[(36,_)]) rfl rfl (bQ (bZ 4 rfl rfl) bX) rfl rfl (dX rfl (cZ Tryz.call132 (c_refRows (by omega) (by assumption)) ⟨(Ht rfl),trivial⟩)) ?_)
 refine bY (Ei:=[(34,_),(37,_)]) rfl rfl (bQ (bZ 2 rfl rfl) (bQ (bZ 5 rfl rfl) bX)) rfl rfl (dX rfl (cZ Tryz.call89 (c_rnetNew (L:=2) (by assumption) (by omega) (by omega) (by omega)) ⟨(Ht rfl),(Ht rfl),trivial⟩)) ?_
 refine bY (Ei:=[(38,_)]) rfl rfl (bQ (bZ 6 rfl rfl) bX) rfl rfl (dX rfl (cX (Ht rfl))) (bY (Ei:=[(31,_)]) rfl rfl (bQ (bZ 7 rfl rfl) bX) rfl rfl (dX rfl (dK (Ht rfl) rfl)) (bY (Ei:=[(31,_)]) rfl rfl (bQ (bZ 7 rfl rfl) bX) rfl rfl (dX rfl (dK (Ht rfl) rfl)) (Y.D_newp (Ei:=[]) (fun bb=>box bb 34 [QsT (okL (netErr (z.map Rt.q) (rq s)) (z.map Rt.q)),QM (okL (netErr (z.map Rt.q) (rq s)) (rq s))]) 11 rfl rfl rfl bX rfl rfl (by kernel_rfl) (eW (Ts:=[Is (.slice none 0 0),Is (.slice none 0 0)]) O_34 rfl (fun V=>aW ⟨rfl,trivial⟩ (aW ⟨rfl,trivial⟩ (aG)))) ?_)))
 refine Y.D_putN (Ei:=[(39,_)]) 10 rfl rfl rfl rfl rfl rfl (bQ (bZ 8 rfl rfl) bX) (fun bb=>P_stA Z_34 (Ht rfl) (Ht rfl) rfl (i:=0) rfl (aK rfl) rfl rfl) (Y.D_done mixed rfl (by kernel_rfl) rfl (by simp [Y.okP]) rfl rfl (bU (bU (bU (bU (bU (bU (bU (bU (bU (bU (Y.F_newp (fun B9=>Y.F_putN (Y.F_nil ?_))))))))))))))
 refine ra rfl (eX (cK (Y.D_start (m:=10) [] (bY (Ei:=[(9,_)]) rfl rfl (bQ (bJ rfl rfl) bX) rfl rfl (dX rfl (eJ A_34 Z_34 (Ht rfl) (i:=5) rfl rfl rfl)) (bY (Ei:=[(1,_)]) rfl rfl (bQ (bJ rfl rfl) bX) rfl rfl (dX rfl (eZ fa_74_2 (Ht rfl) rfl)) (bY (Ei:=[(43,_)]) rfl rfl (bQ (bZ 1 rfl rfl) bX) rfl rfl (dX rfl (eY A_25 Z_25 (Ht rfl) (i:=0) rfl rfl)) (bY (Ei:=[(44,_)]) rfl rfl (bQ (bZ 2 rfl rfl) bX) rfl rfl (dX rfl (cZ Tryz.call132 (c_refRows (by omega) (by assumption)) ⟨(Ht rfl),trivial⟩)) ?_)))))))
 refine bY (Ei:=[(42,_),(45,_)]) rfl rfl (bQ (bZ 0 rfl rfl) (bQ (bZ 3 rfl rfl) bX)) rfl rfl (dX rfl (cZ Tryz.call133 (c_rnoiNew (by omega) (by omega)) ⟨(Ht rfl),(Ht rfl),trivial⟩)) (bY (Ei:=[(46,_)]) rfl rfl (bQ (bZ 4 rfl rfl) bX) rfl rfl (dX rfl (cX (Ht rfl))) (bY (Ei:=[(41,_)]) rfl rfl (bQ (bZ 5 rfl rfl) bX) rfl rfl (dX rfl (dK (Ht rfl) rfl)) (bY (Ei:=[(41,_)]) rfl rfl (bQ (bZ 5 rfl rfl) bX) rfl rfl (dX rfl (dK (Ht rfl) rfl)) ?_)))
 refine Y.D_newp (Ei:=[]) (fun bb=>box bb 79 [QsT (okL (noiErr (okL (netErr (z.map Rt.q) (rq s)) (z.map Rt.q)) (rq c)) (okL (netErr (z.map Rt.q) (rq s)) (z.map Rt.q))),QM (okL (noiErr (okL (netErr (z.map Rt.q) (rq s)) (z.map Rt.q)) (rq c)) (okL (netErr (z.map Rt.q) (rq s)) (rq s))),QM (okL (noiErr (okL (netErr (z.map Rt.q) (rq s)) (z.map Rt.q)) (rq c)) (rq c))]) 9 rfl rfl rfl bX rfl rfl (by kernel_rfl) (eW (Ts:=[Is (.slice none 0 0),Is (.slice none 0 0),Is (.slice none 0 0)]) O_79 rfl (fun V=>aW ⟨rfl,trivial⟩ (aW ⟨rfl,trivial⟩ (aW ⟨rfl,trivial⟩ (aG))))) ?_
 refine Y.D_putN (Ei:=[(47,_)]) 8 rfl rfl rfl rfl rfl rfl (bQ (bZ 6 rfl rfl) bX) (fun bb=>P_stA Z_79 (Ht rfl) (Ht rfl) rfl (i:=0) rfl (aK rfl) rfl rfl) (Y.D_done mixed rfl (by kernel_rfl) rfl (by simp [Y.okP]) rfl rfl (bU (bU (bU (bU (bU (bU (bU (bU (Y.F_newp (fun B11=>Y.F_putN (Y.F_nil ?_))))))))))))
 refine ra rfl (eX (cK (Y.D_start (m:=16) [(14,1,box B2 77 [NumsT (okL (noiErr (okL (netErr (z.map Rt.q) (rq s)) (z.map Rt.q)) (rq c)) (okL (netErr (z.map Rt.q) (rq s)) (z.map Rt.q))),NumM (okL (noiErr (okL (netErr (z.map Rt.q) (rq s)) (z.map Rt.q)) (rq c)) (okL (netErr (z.map Rt.q) (rq s)) (rq s))),NumM (okL (noiErr (okL (netErr (z.map Rt.q) (rq s)) (z.map Rt.q)) (rq c)) (rq c))]),(15,2,box B3 79 [QsT (okL (noiErr (okL (netErr (z.map Rt.q) (rq s)) (z.map Rt.q)) (rq c)) (okL (netErr (z.map Rt.q) (rq s)) (z.map Rt.q))),QM (okL (noiErr (okL (netErr (z.map Rt.q) (rq s)) (z.map Rt.q)) (rq c)) (okL (netErr (z.map Rt.q) (rq s)) (rq s))),QM (okL (noiErr (okL (netErr (z.map Rt.q) (rq s)) (z.map Rt.q)) (rq c)) (rq c))])] ?_)))
 refine Y.D_step (Ei:=[(7,_)]) rfl rfl (bQ (bJ rfl rfl) bX) rfl rfl (by kernel_rfl) (dX rfl (eJ A_77 Z_77 (Ht rfl) (i:=4) rfl rfl rfl)) (bY (Ei:=[(11,_)]) rfl rfl (bQ (bJ rfl rfl) bX) rfl rfl (dX rfl (eJ A_79 Z_79 (Ht rfl) (i:=6) rfl rfl rfl)) (Y.D_step (Ei:=[(6,_)]) rfl rfl (bQ (bJ rfl rfl) bX) rfl rfl (by kernel_rfl) (dX rfl (cX (Ht rfl))) (Y.D_step (Ei:=[(10,_)]) rfl rfl (bQ (bJ rfl rfl) bX) rfl rfl (by kernel_rfl) (dX rfl (cX (Ht rfl))) ?_)))
 refine Y.D_step (Ei:=[(51,_),(52,_)]) rfl rfl (bQ (bZ 2 rfl rfl) (bQ (bZ 3 rfl rfl) bX)) rfl rfl (by kernel_rfl) (dX rfl (op_eql (Ht rfl) (Ht rfl))) (Y.D_step (Ei:=[(53,_)]) rfl rfl (bQ (bZ 4 rfl rfl) bX) rfl rfl (by kernel_rfl) (dX rfl (cX (Ht rfl))) (Y.D_step (Ei:=[(6,_),(54,_)]) rfl rfl (bQ (bJ rfl rfl) (bQ (bZ 5 rfl rfl) bX)) rfl rfl (by kernel_rfl) (S_whenU rfl rfl (Ht rfl) (fun h=>cX (Ht rfl))) (Y.D_step (Ei:=[(55,_),(54,_)]) rfl rfl (bQ (bZ 6 rfl rfl) (bQ (bZ 5 rfl rfl) bX)) rfl rfl (by kernel_rfl) (S_whenU rfl rfl (Ht rfl) (fun h=>op_neq (Has.wu rfl h) cV)) ?_)))
 refine Y.D_step (Ei:=[(56,_),(54,_)]) rfl rfl (bQ (bZ 7 rfl rfl) (bQ (bZ 5 rfl rfl) bX)) rfl rfl (by kernel_rfl) (S_whenU rfl rfl (Ht rfl) (fun h=>cX (Has.wu rfl h))) (bY (Ei:=[(8,_),(57,_)]) rfl rfl (bQ (bJ rfl rfl) (bQ (bZ 8 rfl rfl) bX)) rfl rfl (S_when2 rfl rfl rfl (fun h h2=>cX (Ht rfl))) (bY (Ei:=[(12,_),(57,_)]) rfl rfl (bQ (bJ rfl rfl) (bQ (bZ 8 rfl rfl) bX)) rfl rfl (S_when2 rfl rfl rfl (fun h h2=>cX (Ht rfl))) (bY (Ei:=[(58,_),(59,_),(57,_)]) rfl rfl (bQ (bZ 9 rfl rfl) (bQ (bZ 10 rfl rfl) (bQ (bZ 8 rfl rfl) bX))) rfl rfl (S_when2 rfl rfl rfl (fun h h2=>op_eql (Has.wu rfl ⟨h,h2⟩) (Has.wu rfl ⟨h,h2⟩))) ?_)))
 refine bY (Ei:=[(57,_),(60,_),(54,_)]) rfl rfl (bQ (bZ 8 rfl rfl) (bQ (bZ 11 rfl rfl) (bQ (bZ 5 rfl rfl) bX))) rfl rfl (S_whenU rfl rfl (Ht rfl) (fun h=>op_or (Has.wu rfl h) (fun h2=>(Has.wu rfl ⟨h,h2⟩)))) (bY (Ei:=[(54,_),(61,_)]) rfl rfl (bQ (bZ 5 rfl rfl) (bQ (bZ 12 rfl rfl) bX)) rfl rfl (dX rfl (op_and (Ht rfl) (fun h=>(Has.wu rfl h)))) (Y.D_putI (Ei:=[(2,_),(49,_)]) 1 rfl rfl rfl (bQ (bJ rfl rfl) (bQ (bZ 0 rfl rfl) bX)) (.head _) rfl (P_stA Z_77 (Ht rfl) (Ht rfl) rfl (i:=0) rfl (aK rfl) rfl rfl) ?_))
 refine Y.D_putI (Ei:=[(3,_),(50,_)]) 2 rfl rfl rfl (bQ (bJ rfl rfl) (bQ (bZ 1 rfl rfl) bX)) (.tail _ (.head _)) rfl (P_stA Z_79 (Ht rfl) (Ht rfl) rfl (i:=0) rfl (aK rfl) rfl rfl) (Y.D_done mixed rfl (by kernel_rfl) rfl (by simp [Y.okP]) rfl rfl (bU (bU (bU (bU (bU (bU (bU (bU (bU (bU (bU (bU (bU (bU (Y.F_putI (Y.F_putI (Y.F_nil ?_))))))))))))))))))
 refine ra rfl (eX (T_ret3 rfl (fK A_77 Z_77 rfl (i:=1) rfl rfl) (fK A_79 Z_79 rfl (i:=2) rfl rfl) (fX (eU rfl) ?_)))
 exact (bool_of (by simp))
end
section
open Go Go.RowKit
theorem fa_34_1 (a:Addr) (w:World):(Instr.fieldAt 34 (.pointer (some a)) 1).run Tryz.prog w = .ok (.pointer (some (a.add 1))) w:=by
 simp [Instr.fieldAt,Instr.sureAddr,fieldPlace,Sem.run_bind,Result.andThen,U_34,Z_32]
end
section
open Go Go.RowKit
theorem c_ZerosO {n m:Nat} (hn:n ≤ 1000) (hm:m ≤ 1000):FunO Tryz.prog 138 [NT .i64 n,NT .i64 m] [] (Nat) (fun B=>Is (.slice (some ⟨B,0,none⟩) n n)) (fun B=>[matP exactH B 31 98 5 (FRow QT (zeroM n m))]) (fun _=>True):=by
 refine FunO.intro Tryz.func138 rfl Tryz.ntmps138 rfl (fun cx Z=>(ts (ro rfl (cQ cV) (eX (ts (rm rfl (rn rfl (new_make (T:=Is (.slice none 0 0)) (i:=Tryz.t31) Tryz.underlying32 info_31 rfl rfl (Ht rfl) rfl (fun _=>rfl) trivial (by show 24 * _ ≤ _; omega) (by omega)) fun B9=>(ra rfl (eX (cK (ts (ro rfl (cQ (cJ 0)) (eX (eG (T_conv 1 rfl (mat_nilE exactH ⟨none,0,rfl⟩ (e:=98) (s:=5)) ?_)))))))))))))))
 refine T_loop2 (fun (k : Nat) (M : List (List Qi)) => FillS (fun _ => tab m fun _ => Qi.zero) n M k) (fun (k : Nat) (M : List (List Qi)) => n - k) (fun (k : Nat) (M : List (List Qi)) => [(0, NT .i64 n), (1, NT .i64 m), (5, Is (.slice (some ⟨B9, 0, none⟩) n n)), (6, NT .i64 k)]) (fun (k : Nat) (M : List (List Qi)) => [Z, matP exactH B9 31 98 5 (FRow QT M)]) 0 (List.replicate n []) (FillS.start _ _ _)
  (aQ rfl (aQ rfl (aQ rfl (aQ rfl aX)))) (aU (fun _ _ _ h=>h) (aU (matO_of (rep_FRow QT n)) aY)) (fun k M hS=>?_)
 refine cK (ts (rm rfl (rm rfl (ro rfl (gX (Ht rfl) (Ht rfl)) (eX (dQ (Ht rfl) (fun hk=>?_) (fun hk=>?_)))))))
 ·simp only [decide_eq_true_eq] at hk
  have hlen:=hS.len
  refine T_focusE 1 (k) rfl (frow_get (m:=M) (i:=k) (by omega)) (fun v hv=>(cU (cK (eG (ts (rm rfl (rm rfl (rm rfl (R_makeE (T:=ZQ) (i:=Tryz.t98) und_31 info_98 rfl rfl (Ht rfl) rfl zq_p (El.ag rfl) (by show 88 * _ ≤ _; omega) (by omega) rfl (fun B18 hB18=>(ro rfl (fY U_32 Z_31 (Ht rfl) (Ht rfl) rfl (by omega) (by rw [Nat.mul_one,Nat.zero_add])) ?_)))))))))))
  refine R_stH Z_31 (Ht rfl) (Ht rfl) (by simp; omega) (j:=1) (l:=3) rfl rfl rfl ?_
  refine eX (cK (T_keep [0,1,3] rfl (by decide) (cY (ro rfl (cQ (cJ 0)) (eX (eG ?_))))))
  refine T_loop2 (fun (j : Nat) (out : List Ty) => FillS (fun _ => QT Qi.zero) m out j) (fun (j : Nat) (out : List Ty) => m - j) (fun (j : Nat) (out : List Ty) => [(0, NT .i64 n), (1, NT .i64 m), (5, Is (.slice (some ⟨B9, 0, none⟩) n n)), (6, NT .i64 k), (7, NT .i64 j)]) (fun (j : Nat) (out : List Ty) => [Z, matQ exactH B9 31 98 5 (FRow QT M) k B18, rowO 98 5 B18 out]) 0 (List.replicate m ZQ) (FillS.start _ _ _)
   (aQ rfl (aQ rfl (aQ rfl (aQ rfl (aQ rfl aX))))) (HSub.refl _) (fun j out hT=>?_)
  refine cK (ts (rm rfl (rm rfl (ro rfl (gX (Ht rfl) (Ht rfl)) (eX (dQ (Ht rfl) (fun hj=>?_) (fun hj=>?_)))))))
  ·simp only [decide_eq_true_eq] at hj
   have hlen2:=hT.len
   refine cU (cK (eG (fZ (m:=6) (dp 5 rfl (cX (Ht rfl)) (dp 6 rfl (cX (Ht rfl)) (dqq 25 0 26 1 rfl (fY U_32 Z_31 (Ht rfl) (Ht rfl) rfl (by omega) (by rw [Nat.mul_one,Nat.zero_add])) ?_))))))
   refine dq 27 2 rfl (op_ldH A_31 Z_31 (Ht rfl) (j:=1) rfl) (dp 7 rfl (cX (Ht rfl)) (d0 rfl (cZ K_117 (c_rWhole (by decide) (by decide)) ⟨(cJ 0),trivial⟩) (fV mixed rfl (by kernel_rfl) (aJ (aJ (aJ (aJ (aJ (aJ (aV (ro rfl (op_idxO U_31 Z_98 (Ht rfl) (Ht rfl) rfl (i:=2) rfl (by omega) rfl) (R_stO Z_98 (Ht rfl) (Ht rfl) (El.ag rfl) (i:=2) rfl rfl (by first | omega | (simp; omega)) rfl (eX (T_blk (cY (rm rfl (ro rfl (dV (Ht rfl) (cJ 1) (by show _ < 9223372036854775808; first | omega | (simp only [lim]; omega))) ?_)))))))))))))))))
   refine ra rfl (eX (fU (j + 1,_) (hT.next hj rfl) (by dsimp only; omega) (aQ rfl (aQ rfl (aQ rfl (aQ rfl (aQ rfl aX))))) (HSub.refl _)))
  ·simp only [decide_eq_false_iff_not] at hj
   obtain rfl:j = m:=Nat.le_antisymm hT.kle (by omega)
   have hfin:=hT.fin
   rw [← tab_map _ (fun _=>Qi.zero) QT] at hfin
   subst hfin
   refine gV rfl (T_blk (T_unfocus 1 2 rfl rfl (by decide) (by show k < (FRow QT M).length; simp only [FRow,List.length_map]; omega) (cY (rm rfl (ro rfl (dV (Ht rfl) (cJ 1) (by show _ < 9223372036854775808; first | omega | (simp only [lim]; omega))) (ra rfl (eX (T_keep [0,1] rfl (by decide) (fU (k + 1,_) (hS.next hk rfl) (by dsimp only; omega) (aQ rfl (aQ rfl (aQ rfl (aQ rfl aX)))) (aU (fun _ _ _ h=>h) (aU (matO_of (set_FRow QT _ _ _)) aY)))))))))))
 ·simp only [decide_eq_false_iff_not] at hk
  obtain rfl:k = n:=Nat.le_antisymm hS.kle (by omega)
  have hfin:=hS.fin
  refine gV rfl (ts (rm rfl (ra rfl (eX ?_))))
  exact T_retO B9 trivial [0,1] ⟨⟨_,rfl,fun _ _ _ h=>h⟩,⟨_,rfl,(matO_of (by rw [hfin]; rfl))⟩,trivial⟩ (by decide) (rvs1 rfl (eU rfl))
theorem c_rcarO {p c:List (List Qi)} {L:Nat} (hp:FitM p L) (hc:FitM c L) (hL1:1 ≤ L) (hL:L ≤ 1000000) (hps:Shp p p.length c.length) (hcs:Shp c c.length c.length) (hpl:p.length ≤ 8) (hcl:c.length ≤ 8):FunO Tryz.prog 148 [QM p,QM c] [] (Nat) (fun B=>Is (.slice (some ⟨B,0,none⟩) p.length p.length)) (fun B=>[matP exactH B 31 98 5 (FRow QT (carM p c))]) (fun _=>True):=by
 refine FunO.intro Tryz.func148 rfl Tryz.ntmps148 rfl (fun cx Z=>(ts (ro rfl (cQ cV) (eX (ts (rm rfl (ro rfl (dG U_32 (Ht rfl) len_map) (rm rfl (ro rfl (dG U_32 (Ht rfl) len_map) (R_call0 K_138 (c_ZerosO (n:=p.length) (m:=p.length) (by omega) (by omega)) ⟨(Ht rfl),(Ht rfl),trivial⟩ rfl (fun B14 _=>(ra rfl (eX (cK (ts (ro rfl (cQ (cJ 0)) (eX (eG ?_))))))))))))))))))
 refine T_loop (fun (i : Nat) => i ≤ p.length) (fun (i : Nat) => p.length - i) (fun (i : Nat) => [(0, QM p), (1, QM c), (5, Is (.slice (some ⟨B14, 0, none⟩) p.length p.length)), (6, NT .i64 i)]) (fun (i : Nat) => [Z, matP exactH B14 31 98 5 (FRow QT (mixT (fun i => tab p.length fun k => carE p c c.length i k) (tab p.length fun _ => Qi.zero) p.length i))]) 0 (Nat.zero_le _)
  (aQ rfl (aQ rfl (aQ rfl (aQ rfl aX)))) (aU (fun _ _ _ h=>h) (aU (matO_of (by rw [zeroM,mix_zero])) aY)) (fun i hi=>?_)
 refine cK (ts (rm rfl (rm rfl (ro rfl (dG U_32 (Ht rfl) len_map) (ro rfl (gX (Ht rfl) (Ht rfl)) (eX (dQ (Ht rfl) (fun hd=>?_) (fun hd=>?_))))))))
 ·simp only [decide_eq_true_eq] at hd
  refine T_focusE 1 (i) rfl (frow_mix hd) (fun v hv=>(cU (cK (eG (ts (ro rfl (cQ (cJ 0)) (eX (eG ?_))))))))
  refine T_loop (fun (k : Nat) => k ≤ p.length) (fun (k : Nat) => p.length - k) (fun (k : Nat) => [(0, QM p), (1, QM c), (5, Is (.slice (some ⟨B14, 0, none⟩) p.length p.length)), (6, NT .i64 i), (7, NT .i64 k)]) (fun (k : Nat) => [Z, matQ exactH B14 31 98 5 (FRow QT (mixT (fun i => tab p.length fun k => carE p c c.length i k) (tab p.length fun _ => Qi.zero) p.length i)) i v, rowO 98 5 v ((mixT (fun k => carE p c c.length i k) Qi.zero p.length k).map QT)]) 0 (Nat.zero_le _)
   (aQ rfl (aQ rfl (aQ rfl (aQ rfl (aQ rfl aX))))) (aU (fun _ _ _ h=>h) (aU (fun _ _ _ h=>h) (aU (rowO_of (by rw [mix_zero])) aY))) (fun k hk=>?_)
  refine cK (ts (rm rfl (rm rfl (ro rfl (dG U_32 (Ht rfl) len_map) (ro rfl (gX (Ht rfl) (Ht rfl)) (eX (dQ (Ht rfl) (fun he=>?_) (fun he=>?_))))))))
  ·simp only [decide_eq_true_eq] at he
   have hrl:=mix_len (fun k=>carE p c c.length i k) Qi.zero p.length k
   refine cU (cK (eG (ts (ro rfl (cQ (cJ 0)) (eX (eG ?_))))))
   refine T_loop (fun (a : Nat) => a ≤ c.length) (fun (a : Nat) => c.length - a) (fun (a : Nat) => [(0, QM p), (1, QM c), (5, Is (.slice (some ⟨B14, 0, none⟩) p.length p.length)), (6, NT .i64 i), (7, NT .i64 k), (8, NT .i64 a)]) (fun (a : Nat) => [Z, matQ exactH B14 31 98 5 (FRow QT (mixT (fun i => tab p.length fun k => carE p c c.length i k) (tab p.length fun _ => Qi.zero) p.length i)) i v, rowO 98 5 v (((mixT (fun k => carE p c c.length i k) Qi.zero p.length k).set k (sumN a fun a => sumN c.length fun b => carT p c i k a b)).map QT)]) 0 (Nat.zero_le _)
    (aQ rfl (aQ rfl (aQ rfl (aQ rfl (aQ rfl (aQ rfl aX)))))) (aU (fun _ _ _ h=>h) (aU (fun _ _ _ h=>h) (aU (rowO_of (by rw [sumN,mix_set0 he])) aY))) (fun a ha=>?_)
   refine cK (ts (rm rfl (rm rfl (ro rfl (dG U_32 (Ht rfl) len_map) (ro rfl (gX (Ht rfl) (Ht rfl)) (eX (dQ (Ht rfl) (fun hf=>?_) (fun hf=>?_))))))))
   ·simp only [decide_eq_true_eq] at hf
    refine cU (cK (eG (ts (ro rfl (cQ (cJ 0)) (eX (eG ?_))))))
    refine T_loop (fun (b : Nat) => b ≤ c.length) (fun (b : Nat) => c.length - b) (fun (b : Nat) => [(0, QM p), (1, QM c), (5, Is (.slice (some ⟨B14, 0, none⟩) p.length p.length)), (6, NT .i64 i), (7, NT .i64 k), (8, NT .i64 a), (9, NT .i64 b)]) (fun (b : Nat) => [Z, matQ exactH B14 31 98 5 (FRow QT (mixT (fun i => tab p.length fun k => carE p c c.length i k) (tab p.length fun _ => Qi.zero) p.length i)) i v, rowO 98 5 v (((mixT (fun k => carE p c c.length i k) Qi.zero p.length k).set k ((sumN a fun a => sumN c.length fun b => carT p c i k a b) + sumN b fun b => carT p c i k a b)).map QT)]) 0 (Nat.zero_le _)
     (aQ rfl (aQ rfl (aQ rfl (aQ rfl (aQ rfl (aQ rfl (aQ rfl aX))))))) (aU (fun _ _ _ h=>h) (aU (fun _ _ _ h=>h) (aU (rowO_of (by rw [sumN,Qi.add_zero'])) aY))) (fun b hb=>?_)
    refine cK (ts (rm rfl (rm rfl (ro rfl (dG U_32 (Ht rfl) len_map) (ro rfl (gX (Ht rfl) (Ht rfl)) (eX (dQ (Ht rfl) (fun hg=>?_) (fun hg=>?_))))))))
    ·simp only [decide_eq_true_eq] at hg
     have hpr:=hps.row hd
     have hpk:=hps.row he
     have hcr:=hcs.row hf
     haveI f1:FitC (gm p i a) L:=hp.get hL1 i a
     haveI f2:FitC (gm c a b) L:=hc.get hL1 a b
     haveI f3:FitC (gm p k b) L:=hp.get hL1 k b
     haveI f4:FitC (sumN a fun a=>sumN c.length fun b=>carT p c i k a b) (200 * L + 300):=car_fit hp hc hL1 hcl (by omega) i k
     haveI f5:FitC (sumN b fun b=>carT p c i k a b) (24 * L + 25):=car_fit1 hp hc hL1 (by omega) i k a
     have hsl:((mixT (fun k=>carE p c c.length i k) Qi.zero p.length k).set k ((sumN a fun a=>sumN c.length fun b=>carT p c i k a b) + sumN b fun b=>carT p c i k a b)).length = p.length:=by rw [List.length_set,hrl]
     refine cU (cK (eG (fZ (m:=37) (dp 5 rfl (cX (Ht rfl)) (dp 6 rfl (cX (Ht rfl)) (dqq 39 0 40 1 rfl (fY U_32 Z_31 (Ht rfl) (Ht rfl) rfl (by omega) (by rw [Nat.mul_one,Nat.zero_add])) ?_))))))
     refine dq 41 2 rfl (op_ldH A_31 Z_31 (Ht rfl) (j:=1) rfl) (dp 7 rfl (cX (Ht rfl)) (dp 5 rfl (cX (Ht rfl)) (dp 6 rfl (cX (Ht rfl)) (dqq 44 5 45 6 rfl (fY U_32 Z_31 (Ht rfl) (Ht rfl) rfl (by omega) (by rw [Nat.mul_one,Nat.zero_add])) ?_))))
     refine dq 46 7 rfl (op_ldH A_31 Z_31 (Ht rfl) (j:=1) rfl) (dp 7 rfl (cX (Ht rfl)) (dqq 47 8 48 9 rfl (op_idxO U_31 Z_98 (Ht rfl) (Ht rfl) rfl (i:=2) rfl (by simp only [List.length_map]; omega) rfl) ?_))
     refine dq 49 10 rfl (op_ldO A_98 Z_98 (Ht rfl) (i:=2) rfl rfl (dY (set_get (by rw [hrl]; exact he)))) ?_
     refine dp 0 rfl (cX (Ht rfl)) (dp 6 rfl (cX (Ht rfl)) (dqq 51 12 52 13 rfl (dZ U_32 Z_31 (Ht rfl) (Ht rfl) rfl (dY (dU (d:=[]) hd))) (dq 53 14 rfl (dJ A_31 Z_31 (Ht rfl)) (dp 8 rfl (cX (Ht rfl)) (dqq 54 15 55 16 rfl (dZ U_31 Z_98 (Ht rfl) (Ht rfl) rfl (dY (dU (d:=Qi.zero) (by rw [hpr]; exact hf)))) ?_)))))
     refine dq 56 17 rfl (dJ A_98 Z_98 (Ht rfl)) (dp 1 rfl (cX (Ht rfl)) (dp 8 rfl (cX (Ht rfl)) (dqq 58 19 59 20 rfl (dZ U_32 Z_31 (Ht rfl) (Ht rfl) rfl (dY (dU (d:=[]) hf))) (dq 60 21 rfl (dJ A_31 Z_31 (Ht rfl)) (dp 9 rfl (cX (Ht rfl)) (dqq 61 22 62 23 rfl (dZ U_31 Z_98 (Ht rfl) (Ht rfl) rfl (dY (dU (d:=Qi.zero) (by rw [hcr]; exact hg)))) ?_))))))
     refine dq 63 24 rfl (dJ A_98 Z_98 (Ht rfl)) (dqq 57 18 64 25 rfl (cZ K_99 (c_rMul (by omega)) ⟨(Ht rfl),(Ht rfl),trivial⟩) (dp 0 rfl (cX (Ht rfl)) (dp 7 rfl (cX (Ht rfl)) (dqq 66 27 67 28 rfl (dZ U_32 Z_31 (Ht rfl) (Ht rfl) rfl (dY (dU (d:=[]) he))) (dq 68 29 rfl (dJ A_31 Z_31 (Ht rfl)) (dp 9 rfl (cX (Ht rfl)) (dqq 69 30 70 31 rfl (dZ U_31 Z_98 (Ht rfl) (Ht rfl) rfl (dY (dU (d:=Qi.zero) (by rw [hpk]; exact hg)))) ?_)))))))
     refine dq 71 32 rfl (dJ A_98 Z_98 (Ht rfl)) (dq 72 33 rfl (cZ Tryz.call207 c_rConj ⟨(Ht rfl),trivial⟩) (dqq 65 26 73 34 rfl (cZ K_99 (c_rMul (by omega)) ⟨(Ht rfl),(Ht rfl),trivial⟩) (dqq 50 11 74 35 rfl (cZ Tryz.call159 (c_rAdd (by omega)) ⟨(Ht rfl),(Ht rfl),trivial⟩) (fV mixed rfl (by kernel_rfl) (aJ (aJ (aJ (aJ (aJ (aJ (aJ (aJ (aJ (aJ (aJ (aJ (aJ (aJ (aJ (aJ (aJ (aJ (aJ (aJ (aJ (aJ (aJ (aJ (aJ (aJ (aJ (aJ (aJ (aJ (aJ (aJ (aJ (aJ (aJ (aJ (aJ (aV ?_))))))))))))))))))))))))))))))))))))))))))
     refine ro rfl (op_idxO U_31 Z_98 (Ht rfl) (Ht rfl) rfl (i:=2) rfl (by simp only [List.length_map]; omega) rfl) ?_
     refine R_stO Z_98 (Ht rfl) (Ht rfl) (El.ag rfl) (i:=2) rfl rfl (by simp only [List.length_map]; omega) rfl ?_
     refine eX (T_blk (cY (rm rfl (ro rfl (dV (Ht rfl) (cJ 1) (by show _ < 9223372036854775808; first | omega | (simp only [lim]; omega))) (ra rfl (eX (fU (b + 1) hg (by omega) (aQ rfl (aQ rfl (aQ rfl (aQ rfl (aQ rfl (aQ rfl (aQ rfl aX))))))) (aU (fun _ _ _ h=>h) (aU (fun _ _ _ h=>h) (aU (rowO_of (by rw [set_mapF,List.set_set,Qi.add_assoc',sumN]; rfl)) aY))))))))))
    ·simp only [decide_eq_false_iff_not] at hg
     obtain rfl:b = c.length:=Nat.le_antisymm hb (by omega)
     refine gV rfl (T_blk (cY (rm rfl (ro rfl (dV (Ht rfl) (cJ 1) (by show _ < 9223372036854775808; first | omega | (simp only [lim]; omega))) (ra rfl (eX (fU (a + 1) hf (by omega) (aQ rfl (aQ rfl (aQ rfl (aQ rfl (aQ rfl (aQ rfl aX)))))) (aU (fun _ _ _ h=>h) (aU (fun _ _ _ h=>h) (aU (rowO_of (by rw [sumN])) aY))))))))))
   ·simp only [decide_eq_false_iff_not] at hf
    obtain rfl:a = c.length:=Nat.le_antisymm ha (by omega)
    refine gV rfl (T_blk (cY (rm rfl (ro rfl (dV (Ht rfl) (cJ 1) (by show _ < 9223372036854775808; first | omega | (simp only [lim]; omega))) (ra rfl (eX (fU (k + 1) he (by omega) (aQ rfl (aQ rfl (aQ rfl (aQ rfl (aQ rfl aX))))) (aU (fun _ _ _ h=>h) (aU (fun _ _ _ h=>h) (aU (rowO_of (by rw [← mix_set (f:=fun k=>carE p c c.length i k)]; rfl)) aY))))))))))
  ·simp only [decide_eq_false_iff_not] at he
   obtain rfl:k = p.length:=Nat.le_antisymm hk (by omega)
   refine gV rfl (T_blk (T_unfocus 1 2 rfl rfl (by decide) (by simp only [FRow,List.length_map,mix_len]; omega) ?_))
   refine cY (rm rfl (ro rfl (dV (Ht rfl) (cJ 1) (by show _ < 9223372036854775808; first | omega | (simp only [lim]; omega))) (ra rfl (eX (T_keep [0,1] rfl (by decide) (fU (i + 1) hd (by omega) (aQ rfl (aQ rfl (aQ rfl (aQ rfl aX)))) (aU (fun _ _ _ h=>h) (aU (matO_of (by rw [set_FRow,mix_fin,← mix_set (f:=(fun i=>tab p.length fun k=>carE p c c.length i k))])) aY))))))))
 ·simp only [decide_eq_false_iff_not] at hd
  obtain rfl:i = p.length:=Nat.le_antisymm hi (by omega)
  refine gV rfl (ts (rm rfl (ra rfl (eX ?_))))
  exact T_retO B14 trivial [0,1] ⟨⟨_,rfl,fun _ _ _ h=>h⟩,⟨_,rfl,(matO_of (by rw [mix_fin]; rfl))⟩,trivial⟩ (by decide) (rvs1 rfl (eU rfl))
theorem c_rownO {z:List Qi} {s:List (List Qi)} {L:Nat} (hz:FitL z L) (hs:FitM s L) (hL1:1 ≤ L) (hL:L ≤ 4000) (hsh:Shp s z.length z.length) (hl:z.length ≤ 8):FunO Tryz.prog 228 [RNetT z s] [] (Nat) (fun B=>Is (.slice (some ⟨B,0,none⟩) z.length z.length)) (fun B=>[matP exactH B 31 98 5 (FRow QT (ownM z s))]) (fun _=>True):=by
 have hs1:=hs.le (Nat.le_refl L)
 have hsl:=hsh.1
 have hD:=diag_shp z
 have hDf:=diag_fit hz hL1
 have hXf:=carM_fit hs hDf hL1 (by rw [hD.1]; exact hl)
 have hX:Shp (carM s (diagM z)) s.length s.length:=carM_shp
 refine FunO.intro Tryz.func228 rfl Tryz.ntmps228 rfl (fun cx Z=>(ts (rn rfl (fG (Ht rfl)) fun B1=>(ro rfl (cQ cV) (eX (ts (ro rfl (eZ fa_34_0 (Ht rfl) rfl) (ro rfl (eY A_31 Z_31 (Ht rfl) (i:=1) rfl rfl) (ro rfl (dG U_31 (Ht rfl) len_map) (ra rfl (eX (ts (rm rfl (rm rfl (R_call0 K_138 (c_ZerosO (n:=z.length) (m:=z.length) (by omega) (by omega)) ⟨(Ht rfl),(Ht rfl),trivial⟩ rfl (fun B14 _=>(ra rfl (eX (cK (ts (ro rfl (cQ (cJ 0)) (eX (eG ?_)))))))))))))))))))))))
 refine T_loop (fun (i : Nat) => i ≤ z.length) (fun (i : Nat) => z.length - i) (fun (i : Nat) => [(1, PtrB B1 0), (3, NT .i64 z.length), (4, Is (.slice (some ⟨B14, 0, none⟩) z.length z.length)), (5, NT .i64 i)]) (fun (i : Nat) => [Z, box B1 34 [QsT z, QM s], matP exactH B14 31 98 5 (FRow QT (mixT (fun i => (tab z.length fun _ => Qi.zero).set i (gv z i)) (tab z.length fun _ => Qi.zero) z.length i))]) 0 (Nat.zero_le _)
  (aQ rfl (aQ rfl (aQ rfl (aQ rfl aX)))) (aU (fun _ _ _ h=>h) (aU (fun _ _ _ h=>h) (aU (matO_of (by rw [zeroM,mix_zero])) aY))) (fun i hi=>?_)
 refine cK (ts (rm rfl (rm rfl (ro rfl (gX (Ht rfl) (Ht rfl)) (eX (dQ (Ht rfl) (fun hd=>?_) (fun hd=>?_)))))))
 ·simp only [decide_eq_true_eq] at hd
  have hzl:=tab_len z.length fun _=>Qi.zero
  refine T_focusE 2 (i) rfl (frow_mix hd) (fun v hv=>(cU (cK (eG (fZ (m:=10) (dp 4 rfl (cX (Ht rfl)) (dp 5 rfl (cX (Ht rfl)) (dqq 20 0 21 1 rfl (fY U_32 Z_31 (Ht rfl) (Ht rfl) rfl (by omega) (by rw [Nat.mul_one,Nat.zero_add])) ?_))))))))
  refine dq 22 2 rfl (op_ldH A_31 Z_31 (Ht rfl) (j:=2) rfl) (dp 5 rfl (cX (Ht rfl)) (dp 1 rfl (eZ fa_34_0 (Ht rfl) rfl) (dq 25 5 rfl (eY A_31 Z_31 (Ht rfl) (i:=1) rfl rfl) (dp 5 rfl (cX (Ht rfl)) (dqq 26 6 27 7 rfl (dZ U_31 Z_98 (Ht rfl) (Ht rfl) rfl (dY (dU (d:=Qi.zero) hd))) (dq 28 8 rfl (dJ A_98 Z_98 (Ht rfl)) (fV mixed rfl (by kernel_rfl) (aJ (aJ (aJ (aJ (aJ (aJ (aJ (aJ (aJ (aJ (aV (ro rfl (op_idxO U_31 Z_98 (Ht rfl) (Ht rfl) rfl (i:=3) rfl (by simp only [List.length_map,tab_len]; omega) rfl) ?_)))))))))))))))))))
  refine R_stO Z_98 (Ht rfl) (Ht rfl) (El.ag rfl) (i:=3) rfl rfl (by simp only [List.length_map,tab_len]; omega) rfl ?_
  refine eX (T_blk (T_unfocus 2 3 rfl rfl (by decide) (by simp only [FRow,List.length_map,mix_len]; omega) ?_))
  refine cY (rm rfl (ro rfl (dV (Ht rfl) (cJ 1) (by show _ < 9223372036854775808; first | omega | (simp only [lim]; omega))) (ra rfl (eX (T_keep [0,1,2] rfl (by decide) (fU (i + 1) hd (by omega) (aQ rfl (aQ rfl (aQ rfl (aQ rfl aX)))) (aU (fun _ _ _ h=>h) (aU (fun _ _ _ h=>h) (aU (matO_of (by rw [set_mapF,set_FRow,← mix_set (f:=(fun i=>(tab z.length fun _=>Qi.zero).set i (gv z i)))])) aY)))))))))
 ·simp only [decide_eq_false_iff_not] at hd
  obtain rfl:i = z.length:=Nat.le_antisymm hi (by omega)
  rw [mix_fin]
  refine gV rfl (ts (ro rfl (eZ fa_34_1 (Ht rfl) rfl) (ro rfl (eY A_32 Z_32 (Ht rfl) (i:=1) rfl rfl) (rm rfl (R_lend Tryz.call148 (c_rcarO (p:=s) (c:=diagM z) (L:=L) hs hDf hL1 (by omega) (by rw [hD.1,hsl]; exact hsh) (by rw [hD.1]; exact hD) (by omega) (by rw [hD.1]; exact hl)) (j:=2) (tt:=33) rfl rfl (frz_matF (s:=5) (M:=diagM z) hD.1.symm) noiMat (fun _=>inferInstance) (fun _ B hB=>by simp only [List.mem_singleton] at hB; subst hB; exact sinsMatF) ⟨(Ht rfl),(Ht rfl),trivial⟩ rfl (fun B34 _=>?_))))))
  refine ra rfl (eX (cK (cK (gJ (i:=3) (tt:=6) rfl rfl (frz_matF (s:=5) (M:=carM s (diagM z)) hX.1.symm) (cY (ro rfl (cQ (cJ 0)) (eX (eG (T_keep [0,2] rfl (by decide) ?_)))))))))
  refine T_loop (fun (i : Nat) => i ≤ z.length) (fun (i : Nat) => z.length - i) (fun (i : Nat) => [(3, NT .i64 z.length), (4, Is (.slice (some ⟨B14, 0, none⟩) z.length z.length)), (6, QM (carM s (diagM z))), (7, NT .i64 i)]) (fun (i : Nat) => [Z, matP exactH B14 31 98 5 (FRow QT (mixG (fun i => tab z.length fun j => gm (diagM z) i j - gm (carM s (diagM z)) i j) (fun i => tab z.length fun j => gm (diagM z) i j) z.length i))]) 0 (Nat.zero_le _)
   (aQ rfl (aQ rfl (aQ rfl (aQ rfl aX)))) (aU (fun _ _ _ h=>h) (aU (matO_of (by rw [← mixG_zero]; exact congrArg _ (mat_tab hD))) aY)) (fun i hi=>?_)
  refine cK (ts (rm rfl (rm rfl (ro rfl (gX (Ht rfl) (Ht rfl)) (eX (dQ (Ht rfl) (fun he=>?_) (fun he=>?_)))))))
  ·simp only [decide_eq_true_eq] at he
   refine T_focusE 1 (i) rfl (frow_mixG he) (fun v hv=>(cU (cK (eG (ts (ro rfl (cQ (cJ 0)) (eX (eG ?_))))))))
   refine T_loop (fun (j : Nat) => j ≤ z.length) (fun (j : Nat) => z.length - j) (fun (j : Nat) => [(3, NT .i64 z.length), (4, Is (.slice (some ⟨B14, 0, none⟩) z.length z.length)), (6, QM (carM s (diagM z))), (7, NT .i64 i), (8, NT .i64 j)]) (fun (j : Nat) => [Z, matQ exactH B14 31 98 5 (FRow QT (mixG (fun i => tab z.length fun j => gm (diagM z) i j - gm (carM s (diagM z)) i j) (fun i => tab z.length fun j => gm (diagM z) i j) z.length i)) i v, rowO 98 5 v ((mixG (fun j => gm (diagM z) i j - gm (carM s (diagM z)) i j) (fun j => gm (diagM z) i j) z.length j).map QT)]) 0 (Nat.zero_le _)
    (aQ rfl (aQ rfl (aQ rfl (aQ rfl (aQ rfl aX))))) (aU (fun _ _ _ h=>h) (aU (fun _ _ _ h=>h) (aU (rowO_of (by rw [← mixG_zero])) aY))) (fun j hj=>?_)
   refine cK (ts (rm rfl (rm rfl (ro rfl (gX (Ht rfl) (Ht rfl)) (eX (dQ (Ht rfl) (fun hf=>?_) (fun hf=>?_)))))))
   ·simp only [decide_eq_true_eq] at hf
    have hrl:=mixG_len (fun j=>gm (diagM z) i j - gm (carM s (diagM z)) i j) (fun j=>gm (diagM z) i j) z.length j
    have hxr:=hX.row (i:=i) (by omega)
    haveI f1:FitC (gm (diagM z) i j) L:=hDf.get hL1 i j
    haveI f2:FitC (gm (carM s (diagM z)) i j) (200 * L + 300):=hXf.get (by omega) i j
    refine cU (cK (eG (fZ (m:=20) (dp 4 rfl (cX (Ht rfl)) (dp 7 rfl (cX (Ht rfl)) (dqq 45 0 46 1 rfl (fY U_32 Z_31 (Ht rfl) (Ht rfl) rfl (by omega) (by rw [Nat.mul_one,Nat.zero_add])) ?_))))))
    refine dq 47 2 rfl (op_ldH A_31 Z_31 (Ht rfl) (j:=1) rfl) (dp 8 rfl (cX (Ht rfl)) (dp 4 rfl (cX (Ht rfl)) (dp 7 rfl (cX (Ht rfl)) (dqq 50 5 51 6 rfl (fY U_32 Z_31 (Ht rfl) (Ht rfl) rfl (by omega) (by rw [Nat.mul_one,Nat.zero_add])) ?_))))
    refine dq 52 7 rfl (op_ldH A_31 Z_31 (Ht rfl) (j:=1) rfl) (dp 8 rfl (cX (Ht rfl)) (dqq 53 8 54 9 rfl (op_idxO U_31 Z_98 (Ht rfl) (Ht rfl) rfl (i:=2) rfl (by simp only [List.length_map,hrl]; omega) rfl) ?_))
    refine dq 55 10 rfl (op_ldO A_98 Z_98 (Ht rfl) (i:=2) rfl rfl (dY (mixG_get hf))) (dp 6 rfl (cX (Ht rfl)) (dp 7 rfl (cX (Ht rfl)) (dqq 57 12 58 13 rfl (dZ U_32 Z_31 (Ht rfl) (Ht rfl) rfl (dY (dU (d:=[]) (by rw [hX.1]; omega)))) ?_)))
    refine dq 59 14 rfl (dJ A_31 Z_31 (Ht rfl)) (dp 8 rfl (cX (Ht rfl)) (dqq 60 15 61 16 rfl (dZ U_31 Z_98 (Ht rfl) (Ht rfl) rfl (dY (dU (d:=Qi.zero) (by rw [hxr]; omega)))) ?_))
    refine dq 62 17 rfl (dJ A_98 Z_98 (Ht rfl)) (dqq 56 11 63 18 rfl (cZ Tryz.call158 (c_rSub (by omega)) ⟨(Ht rfl),(Ht rfl),trivial⟩) (fV mixed rfl (by kernel_rfl) (aJ (aJ (aJ (aJ (aJ (aJ (aJ (aJ (aJ (aJ (aJ (aJ (aJ (aJ (aJ (aJ (aJ (aJ (aJ (aJ (aV (ro rfl (op_idxO U_31 Z_98 (Ht rfl) (Ht rfl) rfl (i:=2) rfl (by simp only [List.length_map,hrl]; omega) rfl) ?_))))))))))))))))))))))))
    refine R_stO Z_98 (Ht rfl) (Ht rfl) (El.ag rfl) (i:=2) rfl rfl (by simp only [List.length_map,hrl]; omega) rfl ?_
    refine eX (T_blk (cY (rm rfl (ro rfl (dV (Ht rfl) (cJ 1) (by show _ < 9223372036854775808; first | omega | (simp only [lim]; omega))) (ra rfl (eX (fU (j + 1) hf (by omega) (aQ rfl (aQ rfl (aQ rfl (aQ rfl (aQ rfl aX))))) (aU (fun _ _ _ h=>h) (aU (fun _ _ _ h=>h) (aU (rowO_of (by rw [set_mapF,← mixG_set (f:=fun j=>gm (diagM z) i j - gm (carM s (diagM z)) i j)])) aY))))))))))
   ·simp only [decide_eq_false_iff_not] at hf
    obtain rfl:j = z.length:=Nat.le_antisymm hj (by omega)
    refine gV rfl (T_blk (T_unfocus 1 2 rfl rfl (by decide) (by simp only [FRow,List.length_map,mixG_len]; omega) ?_))
    refine cY (rm rfl (ro rfl (dV (Ht rfl) (cJ 1) (by show _ < 9223372036854775808; first | omega | (simp only [lim]; omega))) (ra rfl (eX (T_keep [0,1] rfl (by decide) (fU (i + 1) he (by omega) (aQ rfl (aQ rfl (aQ rfl (aQ rfl aX)))) (aU (fun _ _ _ h=>h) (aU (matO_of (by rw [set_FRow,mixG_fin,← mixG_set (f:=(fun i=>tab z.length fun j=>gm (diagM z) i j - gm (carM s (diagM z)) i j))])) aY))))))))
  ·simp only [decide_eq_false_iff_not] at he
   obtain rfl:i = z.length:=Nat.le_antisymm hi (by omega)
   refine gV rfl (ts (rm rfl (ra rfl (eX ?_))))
   exact T_retO B14 trivial [0,1] ⟨⟨_,rfl,fun _ _ _ h=>h⟩,⟨_,rfl,(matO_of (by rw [mixG_fin]; rfl))⟩,trivial⟩ (by decide) (rvs1 rfl (eU rfl))
end
section
open Go Go.RowKit
theorem c_rWarm {x:Qi} {L:Nat} [hx:FitC x L] (h:L ≤ 17592186044415):Fun Tryz.prog 144 [QT x] (BoolT (warmB x)):=by rw [← rwarm_eq]; exact c_rTemp h
theorem c_rOwn {z:List Qi} {s:List (List Qi)} {t:Qi} {L:Nat} (hz:FitL z L) (hs:FitM s L) (ht:FitC t L) (hL1:1 ≤ L) (hL:L ≤ 4000) (hsh:Shp s z.length z.length) (hl:z.length ≤ 8):Fun Tryz.prog 146 [RNetT z s,QT t] (TupT [RNoisyT (okL (wrmE t) z) (okL (wrmE t) s) (okL (wrmE t) (scaM t (ownM z s) z.length)),IntT .i64 (wrmE t)]):=by
 haveI:=ht
 have hOs:=ownM_shp z s
 have hOf:=ownM_fit hz hs hL1 hl
 refine Fun.intro Tryz.func146 rfl Tryz.ntmps146 rfl (fun cx=>(ts (rn rfl (fG (Ht rfl)) fun B2=>(rn rfl (fG (Ht rfl)) fun B3=>(rn rfl (eW (Ts:=[Is (.slice none 0 0),Is (.slice none 0 0),Is (.slice none 0 0)]) O_79 rfl (fun V=>aW ⟨rfl,trivial⟩ (aW ⟨rfl,trivial⟩ (aW ⟨rfl,trivial⟩ (aG))))) fun B4=>(ro rfl (cQ (cJ 0)) (eX (cK (ts (ro rfl (eJ A_98 Z_98 (Ht rfl) (i:=1) rfl rfl rfl) (ro rfl (cZ Tryz.call144 (c_rWarm (by omega)) ⟨(Ht rfl),trivial⟩) (ro rfl (op_not (Ht rfl)) ?_))))))))))))
 refine eX (dQ (Ht rfl) (fun hb=>?_) (fun hb=>?_))
 ·have he : wrmE t ≠ 0 := by simp only [Bool.not_eq_true'] at hb; rw [wrmE, hb]; decide
  have he1:wrmE t = 1:=by simp only [Bool.not_eq_true'] at hb; rw [wrmE,hb]; rfl
  refine ts (ro rfl (OpTy.imp (bld_79_ ) rnoisy_nil) (gQ Z_79 (Ht rfl) (Ht rfl) rfl (i:=2) rfl (aK rfl) rfl rfl (ro rfl (cQ (cJ 1)) (eX (T_ret2 rfl (fX (fK A_79 Z_79 rfl (i:=2) rfl rfl) ?_) (fX (eU rfl) ?_))))))
  ·exact (rown_bad he)
  ·exact (int_of he1.symm)
 ·have he : wrmE t = 0 := by simp only [Bool.not_eq_false'] at hb; rw [wrmE, hb]; rfl
  refine cU (ts (ro rfl (eJ A_34 Z_34 (Ht rfl) (i:=0) rfl rfl rfl) (R_call0 Tryz.call228 (c_rownO hz hs hL1 hL hsh hl) ⟨(Ht rfl),trivial⟩ rfl (fun B14 _=>(ra rfl (eX (cK (ts (ro rfl (cQ (cJ 0)) (eX (eG ?_)))))))))))
  refine T_loop (fun (i : Nat) => i ≤ z.length) (fun (i : Nat) => z.length - i) (fun (i : Nat) => [(2, PtrB B2 0), (3, PtrB B3 0), (4, PtrB B4 0), (6, Is (.slice (some ⟨B14, 0, none⟩) z.length z.length)), (7, NT .i64 i)]) (fun (i : Nat) => [box B2 34 [QsT z, QM s], box B3 98 [BoolT (decide (t.a < 0)), NatT t.a.natAbs, BoolT (decide (t.b < 0)), NatT t.b.natAbs, NatT t.den], box B4 79 [Is (.slice none 0 0), Is (.slice none 0 0), Is (.slice none 0 0)], matP exactH B14 31 98 5 (FRow QT (mixG (fun i => tab z.length fun j => t * gm (ownM z s) i j) (fun i => tab z.length fun j => gm (ownM z s) i j) z.length i))]) 0 (Nat.zero_le _)
   (aQ rfl (aQ rfl (aQ rfl (aQ rfl (aQ rfl aX))))) (aU (fun _ _ _ h=>h) (aU (fun _ _ _ h=>h) (aU (fun _ _ _ h=>h) (aU (matO_of (by rw [← mixG_zero]; exact congrArg _ (mat_tab hOs))) aY)))) (fun i hi=>?_)
  refine cK (ts (rm rfl (rm rfl (ro rfl (op_lenI U_32 (Ht rfl)) (ro rfl (gX (Ht rfl) (Ht rfl)) (eX (dQ (Ht rfl) (fun he2=>?_) (fun he2=>?_))))))))
  ·simp only [decide_eq_true_eq] at he2
   refine T_focusE 3 (i) rfl (frow_mixG he2) (fun v hv=>(cU (cK (eG (ts (ro rfl (cQ (cJ 0)) (eX (eG ?_))))))))
   refine T_loop (fun (j : Nat) => j ≤ z.length) (fun (j : Nat) => z.length - j) (fun (j : Nat) => [(2, PtrB B2 0), (3, PtrB B3 0), (4, PtrB B4 0), (6, Is (.slice (some ⟨B14, 0, none⟩) z.length z.length)), (7, NT .i64 i), (8, NT .i64 j)]) (fun (j : Nat) => [box B2 34 [QsT z, QM s], box B3 98 [BoolT (decide (t.a < 0)), NatT t.a.natAbs, BoolT (decide (t.b < 0)), NatT t.b.natAbs, NatT t.den], box B4 79 [Is (.slice none 0 0), Is (.slice none 0 0), Is (.slice none 0 0)], matQ exactH B14 31 98 5 (FRow QT (mixG (fun i => tab z.length fun j => t * gm (ownM z s) i j) (fun i => tab z.length fun j => gm (ownM z s) i j) z.length i)) i v, rowO 98 5 v ((mixG (fun j => t * gm (ownM z s) i j) (fun j => gm (ownM z s) i j) z.length j).map QT)]) 0 (Nat.zero_le _)
    (aQ rfl (aQ rfl (aQ rfl (aQ rfl (aQ rfl (aQ rfl aX)))))) (aU (fun _ _ _ h=>h) (aU (fun _ _ _ h=>h) (aU (fun _ _ _ h=>h) (aU (fun _ _ _ h=>h) (aU (rowO_of (by rw [← mixG_zero])) aY))))) (fun j hj=>?_)
   refine cK (ts (rm rfl (rm rfl (ro rfl (op_lenI U_32 (Ht rfl)) (ro rfl (gX (Ht rfl) (Ht rfl)) (eX (dQ (Ht rfl) (fun hf=>?_) (fun hf=>?_))))))))
   ·simp only [decide_eq_true_eq] at hf
    have hrl:=mixG_len (fun j=>t * gm (ownM z s) i j) (fun j=>gm (ownM z s) i j) z.length j
    haveI f1:FitC (gm (ownM z s) i j) (201 * L + 301):=hOf.get (by omega) i j
    refine cU (cK (eG (fZ (m:=14) (dp 6 rfl (cX (Ht rfl)) (dp 7 rfl (cX (Ht rfl)) (dqq 27 0 28 1 rfl (fY U_32 Z_31 (Ht rfl) (Ht rfl) rfl (by omega) (by rw [Nat.mul_one,Nat.zero_add])) ?_))))))
    refine dq 29 2 rfl (op_ldH A_31 Z_31 (Ht rfl) (j:=3) rfl) (dp 8 rfl (cX (Ht rfl)) (dp 3 rfl (eJ A_98 Z_98 (Ht rfl) (i:=1) rfl rfl rfl) (dp 6 rfl (cX (Ht rfl)) (dp 7 rfl (cX (Ht rfl)) (dqq 33 6 34 7 rfl (fY U_32 Z_31 (Ht rfl) (Ht rfl) rfl (by omega) (by rw [Nat.mul_one,Nat.zero_add])) ?_)))))
    refine dq 35 8 rfl (op_ldH A_31 Z_31 (Ht rfl) (j:=3) rfl) (dp 8 rfl (cX (Ht rfl)) (dqq 36 9 37 10 rfl (op_idxO U_31 Z_98 (Ht rfl) (Ht rfl) rfl (i:=4) rfl (by simp only [List.length_map,hrl]; omega) rfl) ?_))
    refine dq 38 11 rfl (op_ldO A_98 Z_98 (Ht rfl) (i:=4) rfl rfl (dY (mixG_get hf))) (dqq 32 5 39 12 rfl (cZ K_99 (c_rMul (by omega)) ⟨(Ht rfl),(Ht rfl),trivial⟩) (fV mixed rfl (by kernel_rfl) (aJ (aJ (aJ (aJ (aJ (aJ (aJ (aJ (aJ (aJ (aJ (aJ (aJ (aJ (aV (ro rfl (op_idxO U_31 Z_98 (Ht rfl) (Ht rfl) rfl (i:=4) rfl (by simp only [List.length_map,hrl]; omega) rfl) ?_))))))))))))))))))
    refine R_stO Z_98 (Ht rfl) (Ht rfl) (El.ag rfl) (i:=4) rfl rfl (by simp only [List.length_map,hrl]; omega) rfl ?_
    refine eX (T_blk (cY (rm rfl (ro rfl (dV (Ht rfl) (cJ 1) (by show _ < 9223372036854775808; first | omega | (simp only [lim]; omega))) (ra rfl (eX (fU (j + 1) hf (by omega) (aQ rfl (aQ rfl (aQ rfl (aQ rfl (aQ rfl (aQ rfl aX)))))) (aU (fun _ _ _ h=>h) (aU (fun _ _ _ h=>h) (aU (fun _ _ _ h=>h) (aU (fun _ _ _ h=>h) (aU (rowO_of (by rw [set_mapF,← mixG_set (f:=fun j=>t * gm (ownM z s) i j)])) aY))))))))))))
   ·simp only [decide_eq_false_iff_not] at hf
    obtain rfl:j = z.length:=Nat.le_antisymm hj (by omega)
    refine gV rfl (T_blk (T_unfocus 3 4 rfl rfl (by decide) (by simp only [FRow,List.length_map,mixG_len]; omega) ?_))
    refine cY (rm rfl (ro rfl (dV (Ht rfl) (cJ 1) (by show _ < 9223372036854775808; first | omega | (simp only [lim]; omega))) (ra rfl (eX (T_keep [0,1,2,3] rfl (by decide) (fU (i + 1) he2 (by omega) (aQ rfl (aQ rfl (aQ rfl (aQ rfl (aQ rfl aX))))) (aU (fun _ _ _ h=>h) (aU (fun _ _ _ h=>h) (aU (fun _ _ _ h=>h) (aU (matO_of (by rw [set_FRow,mixG_fin,← mixG_set (f:=(fun i=>tab z.length fun j=>t * gm (ownM z s) i j))])) aY))))))))))
  ·simp only [decide_eq_false_iff_not] at he2
   obtain rfl:i = z.length:=Nat.le_antisymm hi (by omega)
   rw [mixG_fin]
   refine gV rfl (cK (gJ (i:=3) (tt:=6) rfl rfl (frz_matF (s:=5) (M:=(scaM t (ownM z s) z.length)) scaM_shp.1.symm) (cY (ro rfl (eJ A_34 Z_34 (Ht rfl) (i:=0) rfl rfl rfl) (rm rfl (ro rfl (bld_79_0_1 (Ht rfl) (Ht rfl)) (gQ Z_79 (Ht rfl) (Ht rfl) rfl (i:=2) rfl (aK rfl) rfl rfl (ro rfl (cQ (cJ 0)) (eX (T_ret2 rfl (fX (fK A_79 Z_79 rfl (i:=2) rfl rfl) ?_) (fX (eU rfl) ?_)))))))))))
   ·exact (rown_good he)
   ·exact (int_of he.symm)
end
section
open Go Go.RowKit
theorem meth_45_Of (v : Value) (w : World) : (method (Tryz.prog.types.size + Made.depth) 45 v "Of").run Tryz.prog w = .ok (302, v) w := by kernel_rfl
theorem mkif_45 (v:Value) (w:World):(Instr.makeInterface 45 v).run Tryz.prog w = .ok (.iface 45 v) w:=by
 simp [Instr.makeInterface,Sem.run_bind,Result.andThen,U_45]
end
section
open Go Go.RowKit
theorem c_warm {x:Qi} {L:Nat} [hx:FitC x L] (h:L ≤ 8796093022208):Fun Tryz.prog 140 [NumT x] (BoolT (warmB x)):=by
 haveI hz:FitC Qi.zero 1:=FitC.zero (Nat.le_refl 1)
 rw [← warm_eq]
 refine Fun.intro Tryz.func140 rfl Tryz.ntmps140 rfl (fun cx=>(ts (rn rfl (fG (Ht rfl)) fun B1=>(ro rfl (cQ cV) (eX (cK (fZ (m:=5) (dp 1 rfl (eJ A_45 Z_45 (Ht rfl) (i:=0) rfl rfl rfl) (dq 3 0 rfl (cZ Tryz.call192 c_Real ⟨(Ht rfl),trivial⟩) (dq 4 1 rfl (cX (Ht rfl)) (C.D_step (Ei:=[(1,_),(5,_)]) rfl rfl (bV (bK rfl rfl) (bV (bG 2 rfl rfl) bW)) (eK rfl rfl (Ht rfl) (fun h=>eJ A_45 Z_45 (Ht rfl) (i:=0) rfl rfl rfl)) (C.D_step (Ei:=[(5,_)]) rfl rfl (bV (bG 2 rfl rfl) bW) (eK rfl rfl (Ht rfl) (fun h=>cZ K_86 (c_Int (n:=0) (by decide) (by decide)) ⟨(cJ 0),trivial⟩)) ?_))))))))))))
 refine fV mixed rfl (by kernel_rfl) (aJ (aJ (aJ (aJ (aJ (aV (fQ rfl rfl (eK rfl rfl (Ht rfl) (fun h=>cZ Tryz.call220 (c_Cmp (x:=x) (y:=Qi.zero) (M:=1) (by omega)) ⟨(fJ rfl h),(fJ rfl h),trivial⟩)) (fQ rfl rfl (eK rfl rfl (Ht rfl) (fun h=>op_geq (fJ rfl h) cV)) (ro rfl (op_and (Ht rfl) (fun h=>(fJ rfl h))) (ra rfl (eX ?_)))))))))))
 exact fW rfl (eU rfl)
theorem c_OfZ {y:Qi}:Fun Tryz.prog 302 [AggT [Is (.bool false),Is (.slice none 0 0),Is (.bool false),Is (.slice none 0 0),Is (.slice none 0 0)],NumT y] (NumT y):=by
 refine Fun.intro Tryz.func302 rfl Tryz.ntmps302 rfl (fun cx=>(ts (rn rfl (fG (Ht rfl)) fun B2=>(rn rfl (fG (Ht rfl)) fun B3=>(rn rfl (eW (Ts:=[Is (.bool false),Is (.slice none 0 0),Is (.bool false),Is (.slice none 0 0),Is (.slice none 0 0)]) O_45 rfl (fun V=>aW ⟨rfl,trivial⟩ (aW ⟨rfl,trivial⟩ (aW ⟨rfl,trivial⟩ (aW ⟨rfl,trivial⟩ (aW ⟨rfl,trivial⟩ (aG))))))) fun B4=>(eX (ts (ro rfl (eJ A_45 Z_45 (Ht rfl) (i:=1) rfl rfl rfl) (gQ Z_45 (Ht rfl) (Ht rfl) rfl (i:=2) rfl (aK rfl) rfl rfl ?_)))))))))
 refine eX ?_
 exact fW rfl (fK A_45 Z_45 rfl (i:=2) rfl rfl)
theorem c_of {x:Qi}:Fun Tryz.prog 142 [NumT x] (NumT x):=by
 refine Fun.intro Tryz.func142 rfl Tryz.ntmps142 rfl (fun cx=>(ts (rn rfl (fG (Ht rfl)) fun B1=>(rn rfl (eW (Ts:=[Is (.bool false),Is (.slice none 0 0),Is (.bool false),Is (.slice none 0 0),Is (.slice none 0 0)]) O_45 rfl (fun V=>aW ⟨rfl,trivial⟩ (aW ⟨rfl,trivial⟩ (aW ⟨rfl,trivial⟩ (aW ⟨rfl,trivial⟩ (aW ⟨rfl,trivial⟩ (aG))))))) fun B2=>(eX (ts (rn rfl (eW (Ts:=[Is (.bool false),Is (.slice none 0 0),Is (.bool false),Is (.slice none 0 0),Is (.slice none 0 0)]) O_45 rfl (fun V=>aW ⟨rfl,trivial⟩ (aW ⟨rfl,trivial⟩ (aW ⟨rfl,trivial⟩ (aW ⟨rfl,trivial⟩ (aW ⟨rfl,trivial⟩ (aG))))))) fun B3=>?_)))))))
 refine eX (ts (ro rfl (eJ A_45 Z_45 (Ht rfl) (i:=2) rfl rfl rfl) (ro rfl (op_iface mkif_45 (Ht rfl)) (ro rfl (eJ A_45 Z_45 (Ht rfl) (i:=0) rfl rfl rfl) (ro rfl (op_invoke meth_45_Of Tryz.call302 c_OfZ (Ht rfl) ⟨(Ht rfl),trivial⟩) (gQ Z_45 (Ht rfl) (Ht rfl) rfl (i:=1) rfl (aK rfl) rfl rfl (eX ?_)))))))
 exact fW rfl (fK A_45 Z_45 rfl (i:=1) rfl rfl)
theorem c_columns1 {r:List Qi} {k:Nat}:Fun Tryz.prog 244 [NumsT r,PT (NT .i64 k)] (BoolT (!decide (r.length = k))):=by
 refine Fun.intro Tryz.func244 rfl Tryz.ntmps244 rfl (fun cx=>(ts (ro rfl (cQ cV) (eX (ts (rm rfl (ro rfl (dG U_27 (Ht rfl) len_map) (ro rfl (dJ A_3 Z_3 (Ht rfl)) (ro rfl (op_neqN (Ht rfl) (Ht rfl)) (ra rfl (eX ?_)))))))))))
 exact fW rfl (eU rfl)
theorem c_columns {a:List (List Qi)} {n k:Nat} (h:Shp a n k) (h1:1 ≤ n) (hn:n ≤ 32) (hk:k ≤ 32):Fun Tryz.prog 180 [NumM a] (TupT [NT .i64 k,BoolT true]):=by
 obtain ⟨rfl,h2⟩:=h
 have hr0:(a.getD 0 []).length = k:=Shp.row ⟨rfl,h2⟩ (by omega)
 refine Fun.intro Tryz.func180 rfl Tryz.ntmps180 rfl (fun cx=>(ts (ro rfl (cQ (cJ 0)) (ro rfl (cQ cV) (eX (cK (ts (rm rfl (ro rfl (dG U_28 (Ht rfl) len_map) (ro rfl (op_eqlN (Ht rfl) (cJ 0)) (eX (dQ (Ht rfl) (fun hb=>?_) (fun hb=>?_)))))))))))))
 ·simp only [decide_eq_true_eq] at hb
  omega
 ·refine cU (ts (rm rfl (ro rfl (dZ U_28 Z_27 (Ht rfl) (cJ 0) rfl (dY (dU (d := []) (by omega)))) (ro rfl (dJ A_27 Z_27 (Ht rfl)) (ro rfl (dG U_27 (Ht rfl) len_map) (rn rfl (eW (Ts := [Is (.int .i64 0)]) O_3 rfl (fun V => aW ⟨rfl, trivial⟩ (aG))) fun B4 => (R_st Z_3 (Ht rfl) (Ht rfl) (i := 0) rfl (aK rfl) rfl (eX (cK (gJ (i := 0) (tt := 4) rfl rfl frz_ptr1 (fZ (m := 15) (dp 4 rfl (dJ A_3 Z_3 (Ht rfl)) ?_))))))))))))
  refine dp 0 rfl (cX (Ht rfl)) (dq 13 1 rfl (dG U_28 (Ht rfl) len_map) (dq 14 2 rfl (op_leqN (Ht rfl) (cJ 32)) (dq 15 3 rfl (cX (Ht rfl)) (C.D_step (Ei:=[(4,_),(16,_)]) rfl rfl (bV (bK rfl rfl) (bV (bG 4 rfl rfl) bW)) (eK rfl rfl (Ht rfl) (fun h=>dJ A_3 Z_3 (Ht rfl))) (C.D_step (Ei:=[(17,_),(16,_)]) rfl rfl (bV (bG 5 rfl rfl) (bV (bG 4 rfl rfl) bW)) (eK rfl rfl (Ht rfl) (fun h=>op_leqN (fJ rfl h) (cJ 32))) (dqq 16 4 18 6 rfl (op_and (Ht rfl) (fun h=>(fJ rfl h))) ?_))))))
  refine dq 19 7 rfl (cX (Ht rfl)) (C.D_step (Ei:=[(0,_),(20,_)]) rfl rfl (bV (bK rfl rfl) (bV (bG 8 rfl rfl) bW)) (eK rfl rfl (Ht rfl) (fun h=>cX (Ht rfl))) (C.D_step (Ei:=[(4,_),(20,_)]) rfl rfl (bV (bK rfl rfl) (bV (bG 8 rfl rfl) bW)) (eK rfl rfl (Ht rfl) (fun h=>op_clos (γ:=List Qi) (Ts:=fun r=>[NumsT r]) (U:=fun r=>BoolT (!decide (r.length = (a.getD 0 []).length))) Tryz.call244 (fun r=>c_columns1) ⟨(Ht rfl),trivial⟩)) (C.D_step (Ei:=[(21,_),(22,_),(20,_)]) rfl rfl (bV (bG 9 rfl rfl) (bV (bG 10 rfl rfl) (bV (bG 8 rfl rfl) bW))) (eK rfl rfl (Ht rfl) (fun h=>cZ Tryz.call221 (c_ContainsRow (l:=a) (T:=NumsT) (p:=fun r=>!decide (r.length = (a.getD 0 []).length)) (by omega)) ⟨(fJ rfl h),(fJ rfl h),trivial⟩)) ?_)))
  refine C.D_step (Ei:=[(23,_),(20,_)]) rfl rfl (bV (bG 11 rfl rfl) (bV (bG 8 rfl rfl) bW)) (eK rfl rfl (Ht rfl) (fun h=>op_not (fJ rfl h))) (dqq 20 8 24 12 rfl (op_and (Ht rfl) (fun h=>(fJ rfl h))) (dq 12 0 rfl (cQ (Ht rfl)) (fV mixed rfl (by kernel_rfl) (aJ (aJ (aJ (aJ (aJ (aJ (aJ (aJ (aJ (aJ (aJ (aJ (aJ (aJ (aJ (aV (ra rfl (eX (T_ret2 rfl (fX (eU rfl) ?_) (fX (eU rfl) ?_)))))))))))))))))))))))
  ·exact (nt_of hr0)
  ·exact (bool_of (by rw [hr0,cols_ok ⟨rfl,h2⟩]; simp; omega))
end
section
open Go Go.RowKit
theorem meth_45_Add (v : Value) (w : World) : (method (Tryz.prog.types.size + Made.depth) 45 v "Add").run Tryz.prog w = .ok (68, v) w := by kernel_rfl
theorem meth_45_Conj (v : Value) (w : World) : (method (Tryz.prog.types.size + Made.depth) 45 v "Conj").run Tryz.prog w = .ok (301, v) w := by kernel_rfl
theorem meth_45_Mul (v : Value) (w : World) : (method (Tryz.prog.types.size + Made.depth) 45 v "Mul").run Tryz.prog w = .ok (67, v) w := by kernel_rfl
end
section
open Go Go.RowKit
theorem c_ProdO {a b:List (List Qi)} {n k m L M:Nat} (ha:Shp a n k) (hb:Shp b k m) (hfa:FitM a L) (hfb:FitM b M) (hL1:1 ≤ L) (hM1:1 ≤ M) (hL:L ≤ 900000000000) (hM:M ≤ 900000000000) (hn1:1 ≤ n) (hk1:1 ≤ k) (hn:n ≤ 8) (hk:k ≤ 8) (hm:m ≤ 8):FunO Tryz.prog 76 [NumM a,NumM b] [] (Nat) (fun B=>TupT [Is (.slice (some ⟨B,0,none⟩) n n),IntT .i64 0]) (fun B=>[matO B 27 45 5 (FRow NumT (mulM a b n k m))]) (fun _=>True):=by
 have hal:=ha.1
 have hbl:=hb.1
 refine FunO.intro Tryz.func76 rfl Tryz.ntmps76 rfl (fun cx Z=>(ts (ro rfl (cQ cV) (ro rfl (cQ (cJ 0)) (eX (ts (rm rfl (ro rfl (cZ Tryz.call180 (c_columns ha hn1 (by omega) (by omega)) ⟨(Ht rfl),trivial⟩) (rm rfl (ro rfl (dK (Ht rfl) rfl) (ro rfl (dK (Ht rfl) rfl) (ra rfl (ra rfl (eX (ts (rm rfl (ro rfl (cZ Tryz.call180 (c_columns hb hk1 (by omega) (by omega)) ⟨(Ht rfl),trivial⟩) (rm rfl (ro rfl (dK (Ht rfl) rfl) (ro rfl (dK (Ht rfl) rfl) (ra rfl (ra rfl (eX (cK (ts (rm rfl (ro rfl (op_not (Ht rfl)) ?_)))))))))))))))))))))))))))
 refine rm rfl (fQ rfl rfl (eK rfl rfl (Ht rfl) (fun h=>cX (Ht rfl))) (fQ rfl rfl (eK rfl rfl (Ht rfl) (fun h=>op_not (fJ rfl h))) (ro rfl (op_or (Ht rfl) (fun h=>(fJ rfl h))) (rm rfl (fQ rfl rfl (eK rfl rfl (Ht rfl) (fun h=>cX (Ht rfl))) (fQ rfl rfl (eK rfl rfl (Ht rfl) (fun h=>cX (Ht rfl))) (fQ rfl rfl (eK rfl rfl (Ht rfl) (fun h=>dG U_28 (fJ rfl h) len_map)) (fQ rfl rfl (eK rfl rfl (Ht rfl) (fun h=>op_neqN (fJ rfl h) (fJ rfl h))) (ro rfl (op_or (Ht rfl) (fun h=>(fJ rfl h))) ?_)))))))))
 refine eX (dQ (Ht rfl) (fun h0=>?_) (fun h0=>?_))
 ·exact absurd h0 (by simp [hbl])
 ·refine cU (ts (rm rfl (ro rfl (dG U_28 (Ht rfl) len_map) (rn rfl (new_make (T := Is (.slice none 0 0)) (i := Tryz.t27) V_28 info_27 rfl rfl (Ht rfl) rfl (fun _ => rfl) trivial (by show 24 * _ ≤ _; omega) (by omega)) fun B39 => (ra rfl (eX (cK (ts (rm rfl (ro rfl (op_lenI U_28 (Ht rfl)) (ro rfl (cX (cJ 0)) (eX (eG (T_conv 1 rfl (mat_nil (e := 45) (s := 5)) ?_))))))))))))))
  refine T_loop (fun (i : Nat) => i ≤ n) (fun (i : Nat) => n - i) (fun (i : Nat) => [(0, NumM a), (1, NumM b), (6, NT .i64 k), (8, NT .i64 m), (10, Is (.slice (some ⟨B39, 0, none⟩) n n)), (41, NT .i64 n), (42, NT .i64 i)]) (fun (i : Nat) => [Z, matO B39 27 45 5 (FRow NumT (mixT (fun i => tab m fun c => dotN a b k i c) [] n i))]) 0 (Nat.zero_le _)
   (aQ rfl (aQ rfl (aQ rfl (aQ rfl (aZ rfl (fun v V h=>by rw [← hal]; exact h) (aZ rfl (nt_of hal) (aQ rfl aX))))))) (aU (fun _ _ _ h=>h) (aU (matO_of (by rw [← mix_zero,tab_const,hal]; exact rep_FRow NumT n)) aY)) (fun i hi=>?_)
  refine ts (ro rfl (gX (Ht rfl) (Ht rfl)) (eX (cK (dQ (Ht rfl) (fun hd=>?_) (fun hd=>?_)))))
  ·simp only [decide_eq_true_eq] at hd
   have har:=ha.row hd
   have hb0:=hb.row (i:=0) (by omega)
   refine T_focus 1 (i) rfl (frow_mix hd) (fun v=>(cU (cK (eG (ts (rm rfl (ra rfl (eX (ts (rm rfl (ro rfl (cX (cJ 0)) (eX (eG ?_)))))))))))))
   refine T_loop2 (fun (c : Nat) (v : Value) => c ≤ m) (fun (c : Nat) (v : Value) => m - c) (fun (c : Nat) (v : Value) => [(0, NumM a), (1, NumM b), (6, NT .i64 k), (8, NT .i64 m), (10, Is (.slice (some ⟨B39, 0, none⟩) n n)), (11, NT .i64 i), (41, NT .i64 n), (42, NT .i64 i), (45, NT .i64 m), (46, NT .i64 c)]) (fun (c : Nat) (v : Value) => [Z, matH B39 27 45 5 (FRow NumT (mixT (fun i => tab m fun c => dotN a b k i c) [] n i)) i v, rowO 45 5 v ((tab c fun c => dotN a b k i c).map NumT)]) 0 v (Nat.zero_le _)
    (aQ rfl (aQ rfl (aQ rfl (aQ rfl (aQ rfl (aQ rfl (aQ rfl (aQ rfl (aQ rfl (aQ rfl aX)))))))))) (HSub.refl _) (fun c v hc=>?_)
   refine ts (ro rfl (gX (Ht rfl) (Ht rfl)) (eX (cK (dQ (Ht rfl) (fun he=>?_) (fun he=>?_)))))
   ·simp only [decide_eq_true_eq] at he
    haveI f1:FitC (gm a i 0) L:=hfa.get hL1 i 0
    haveI f2:FitC (gm b 0 c) M:=hfb.get hM1 0 c
    refine cU (cK (eG (ts (rm rfl (ra rfl (eX (cK (fZ (m:=15) (dp 0 rfl (cX (Ht rfl)) (dp 11 rfl (cX (Ht rfl)) (dqq 49 0 50 1 rfl (dZ U_28 Z_27 (Ht rfl) (Ht rfl) rfl (dY (dU (d:=[]) (by omega)))) (dq 51 2 rfl (dJ A_27 Z_27 (Ht rfl)) (dq 52 3 rfl (dZ U_27 Z_45 (Ht rfl) (cJ 0) rfl (dY (dU (d:=Qi.zero) (by rw [har]; omega)))) ?_)))))))))))))
    refine dq 53 4 rfl (dJ A_45 Z_45 (Ht rfl)) (dq 54 5 rfl (op_iface mkif_45 (Ht rfl)) (dp 1 rfl (cX (Ht rfl)) (dq 56 7 rfl (dZ U_28 Z_27 (Ht rfl) (cJ 0) rfl (dY (dU (d:=[]) (by omega)))) (dq 57 8 rfl (dJ A_27 Z_27 (Ht rfl)) (dp 12 rfl (cX (Ht rfl)) (dqq 58 9 59 10 rfl (dZ U_27 Z_45 (Ht rfl) (Ht rfl) rfl (dY (dU (d:=Qi.zero) (by rw [hb0]; omega)))) ?_))))))
    refine dq 60 11 rfl (dJ A_45 Z_45 (Ht rfl)) (dqq 55 6 61 12 rfl (op_invoke meth_45_Mul K_67 (c_Mul (by omega)) (Ht rfl) ⟨(Ht rfl),trivial⟩) (C.D_new (Ei:=[]) rfl rfl rfl bW (eW (Ts:=[Is (.bool false),Is (.slice none 0 0),Is (.bool false),Is (.slice none 0 0),Is (.slice none 0 0)]) O_45 rfl (fun V=>aW ⟨rfl,trivial⟩ (aW ⟨rfl,trivial⟩ (aW ⟨rfl,trivial⟩ (aW ⟨rfl,trivial⟩ (aW ⟨rfl,trivial⟩ (aG))))))) (fV mixed rfl (by kernel_rfl) (aJ (aJ (aJ (aJ (aJ (aJ (aJ (aJ (aJ (aJ (aJ (aJ (aJ (aJ (C.F_new (fun B13=>aV ?_)))))))))))))))))))
    refine gQ Z_45 (Ht rfl) (Ht rfl) rfl (i:=3) rfl (aK rfl) rfl rfl (eX (cK (ts (ro rfl (cQ (cJ 1)) (eX (eG ?_))))))
    refine T_loop (fun (j : Nat) => 1 ≤ j ∧ j ≤ k) (fun (j : Nat) => k - j) (fun (j : Nat) => [(0, NumM a), (1, NumM b), (6, NT .i64 k), (8, NT .i64 m), (10, Is (.slice (some ⟨B39, 0, none⟩) n n)), (11, NT .i64 i), (12, NT .i64 c), (13, PtrB B13 0), (14, NT .i64 j), (41, NT .i64 n), (42, NT .i64 i), (45, NT .i64 m), (46, NT .i64 c)]) (fun (j : Nat) => [Z, matH B39 27 45 5 (FRow NumT (mixT (fun i => tab m fun c => dotN a b k i c) [] n i)) i v, rowO 45 5 v ((tab c fun c => dotN a b k i c).map NumT), box B13 45 [BoolT (decide ((sumN j fun j => gm a i j * gm b j c).a < 0)), NatT (sumN j fun j => gm a i j * gm b j c).a.natAbs, BoolT (decide ((sumN j fun j => gm a i j * gm b j c).b < 0)), NatT (sumN j fun j => gm a i j * gm b j c).b.natAbs, NatT (du (sumN j fun j => gm a i j * gm b j c))]]) 1 ⟨Nat.le_refl _, hk1⟩
     (aQ rfl (aQ rfl (aQ rfl (aQ rfl (aQ rfl (aQ rfl (aQ rfl (aQ rfl (aQ rfl (aQ rfl (aQ rfl (aQ rfl (aQ rfl aX))))))))))))) (aU (fun _ _ _ h=>h) (aU (fun _ _ _ h=>h) (aU (fun _ _ _ h=>h) (aU (box_of (by rw [sumN_one]; rfl)) aY)))) (fun j ⟨hj1,hj⟩=>?_)
    refine cK (ts (rm rfl (rm rfl (ro rfl (gX (Ht rfl) (Ht rfl)) (eX (dQ (Ht rfl) (fun hf=>?_) (fun hf=>?_)))))))
    ·simp only [decide_eq_true_eq] at hf
     haveI f3:FitC (gm a i j) L:=hfa.get hL1 i j
     haveI f4:FitC (gm b j c) M:=hfb.get hM1 j c
     haveI f5:FitC (sumN j fun j=>gm a i j * gm b j c) (8 * (L + M) + 17):=dot_fit hfa hfb hL1 hM1 (by omega) i c
     have hbj:=hb.row (i:=j) (by omega)
     refine cU (cK (eG (fZ (m:=18) (dp 13 rfl (eJ A_45 Z_45 (Ht rfl) (i:=3) rfl rfl rfl) (dq 68 0 rfl (op_iface mkif_45 (Ht rfl)) (dp 0 rfl (cX (Ht rfl)) (dp 11 rfl (cX (Ht rfl)) (dqq 70 2 71 3 rfl (dZ U_28 Z_27 (Ht rfl) (Ht rfl) rfl (dY (dU (d:=[]) (by omega)))) (dq 72 4 rfl (dJ A_27 Z_27 (Ht rfl)) (dp 14 rfl (cX (Ht rfl)) (dqq 73 5 74 6 rfl (dZ U_27 Z_45 (Ht rfl) (Ht rfl) rfl (dY (dU (d:=Qi.zero) (by rw [har]; omega)))) ?_)))))))))))
     refine dq 75 7 rfl (dJ A_45 Z_45 (Ht rfl)) (dq 76 8 rfl (op_iface mkif_45 (Ht rfl)) (dp 1 rfl (cX (Ht rfl)) (dp 14 rfl (cX (Ht rfl)) (dqq 78 10 79 11 rfl (dZ U_28 Z_27 (Ht rfl) (Ht rfl) rfl (dY (dU (d:=[]) (by omega)))) (dq 80 12 rfl (dJ A_27 Z_27 (Ht rfl)) (dp 12 rfl (cX (Ht rfl)) (dqq 81 13 82 14 rfl (dZ U_27 Z_45 (Ht rfl) (Ht rfl) rfl (dY (dU (d:=Qi.zero) (by rw [hbj]; omega)))) ?_)))))))
     refine dq 83 15 rfl (dJ A_45 Z_45 (Ht rfl)) (dqq 77 9 84 16 rfl (op_invoke meth_45_Mul K_67 (c_Mul (by omega)) (Ht rfl) ⟨(Ht rfl),trivial⟩) (fV mixed rfl (by kernel_rfl) (aJ (aJ (aJ (aJ (aJ (aJ (aJ (aJ (aJ (aJ (aJ (aJ (aJ (aJ (aJ (aJ (aJ (aJ (aV (ro rfl (op_invoke meth_45_Add Tryz.call68 (c_Add (by omega)) (Ht rfl) ⟨(Ht rfl),trivial⟩) (gQ Z_45 (Ht rfl) (Ht rfl) rfl (i:=3) rfl (aK rfl) rfl rfl (eX (T_blk ?_)))))))))))))))))))))))))
     refine cY (rm rfl (ro rfl (dV (Ht rfl) (cJ 1) (by show _ < 9223372036854775808; first | omega | (simp only [lim]; omega))) (ra rfl (eX (fU (j + 1) ⟨by omega,hf⟩ (by omega) (aQ rfl (aQ rfl (aQ rfl (aQ rfl (aQ rfl (aQ rfl (aQ rfl (aQ rfl (aQ rfl (aQ rfl (aQ rfl (aQ rfl (aQ rfl aX))))))))))))) (aU (fun _ _ _ h=>h) (aU (fun _ _ _ h=>h) (aU (fun _ _ _ h=>h) (aU (box_of rfl) aY)))))))))
    ·simp only [decide_eq_false_iff_not] at hf
     obtain rfl:k = j:=Nat.le_antisymm (by omega) hj
     refine gV rfl (Y.D_startA (m:=9) [] 8 2 rfl rfl (bY (Ei:=[(10,_)]) rfl rfl (bQ (bJ rfl rfl) bX) rfl rfl (dX rfl (cX (Ht rfl))) (bY (Ei:=[(11,_)]) rfl rfl (bQ (bJ rfl rfl) bX) rfl rfl (dX rfl (cX (Ht rfl))) (bY (Ei:=[(10,_)]) rfl rfl (bQ (bJ rfl rfl) bX) rfl rfl (dX rfl (cX (Ht rfl))) (bY (Ei:=[(11,_)]) rfl rfl (bQ (bJ rfl rfl) bX) rfl rfl (dX rfl (cX (Ht rfl))) (bY (Ei:=[(89,_),(90,_)]) rfl rfl (bQ (bZ 2 rfl rfl) (bQ (bZ 3 rfl rfl) bX)) rfl rfl (dX rfl (fY U_28 Z_27 (Ht rfl) (Ht rfl) rfl (by omega) (by rw [Nat.mul_one,Nat.zero_add]))) ?_))))))
     refine bY (Ei:=[(91,_)]) rfl rfl (bQ (bZ 4 rfl rfl) bX) rfl rfl (dX rfl (op_ldH A_27 Z_27 (Ht rfl) (j:=1) rfl)) (bY (Ei:=[(13,_)]) rfl rfl (bQ (bJ rfl rfl) bX) rfl rfl (dX rfl (eJ A_45 Z_45 (Ht rfl) (i:=3) rfl rfl rfl)) (bY (Ei:=[(93,_)]) rfl rfl (bQ (bZ 6 rfl rfl) bX) rfl rfl (dX rfl (op_bslice (xs:=[.tmp 93]) U_27 Z_45 O_45 (cW (Ht rfl) cG) rfl rfl rfl)) (Y.D_app (Ei:=[(92,_),(94,_)]) rfl rfl rfl rfl (bQ (bZ 5 rfl rfl) (bQ (bZ 7 rfl rfl) bX)) rfl (A_append (inf:=Tryz.t45) und_27 info_45 rfl rfl rfl (Ht rfl) (Ht rfl) (by simp) (fun T hT=>by simp at hT; subst hT; exact El.ag rfl) (by show _ * 88 ≤ _; simp only [List.length_map,tab_len,List.length_cons,List.length_nil]; omega) (by simp only [List.length_map,tab_len,List.length_cons,List.length_nil]; omega)) ?_)))
     refine Y.D_done mixed rfl (by kernel_rfl) rfl (by simp [Y.okP]) rfl rfl (bU (bU (bU (bU (bU (bU (bU (bU (Y.F_app (fun v2=>Y.F_nil ?_))))))))))
     refine ro rfl (fY U_28 Z_27 (Ht rfl) (Ht rfl) rfl (by omega) (by rw [Nat.mul_one,Nat.zero_add])) ?_
     refine R_stH Z_27 (Ht rfl) (Ht rfl) (by simp only [FRow,List.length_map,mix_len]; omega) (j:=1) (l:=4) rfl rfl rfl ?_
     refine eX (T_blk (cY (ro rfl (dV (Ht rfl) (cJ 1) (by show _ < 9223372036854775808; first | omega | (simp only [lim]; omega))) (rm rfl (eX (T_keep [0,1,4] rfl (by decide) (fU (c + 1,v2) he (by dsimp only; omega) (aQ rfl (aQ rfl (aQ rfl (aQ rfl (aQ rfl (aQ rfl (aQ rfl (aQ rfl (aQ rfl (aQ rfl aX)))))))))) (aU (fun _ _ _ h=>h) (aU (fun _ _ _ h=>h) (aU (rowO_of ((app_mapF NumT _ (dotN a b k i c)).trans (congrArg _ (tab_succ c (fun c=>dotN a b k i c)).symm))) aY))))))))))
   ·simp only [decide_eq_false_iff_not] at he
    obtain rfl:m = c:=Nat.le_antisymm (by omega) hc
    refine gV rfl (T_blk (T_unfocus 1 2 rfl rfl (by decide) (by simp only [FRow,List.length_map,mix_len]; omega) ?_))
    refine cY (ro rfl (dV (Ht rfl) (cJ 1) (by show _ < 9223372036854775808; first | omega | (simp only [lim]; omega))) (rm rfl (eX (T_keep [0,1] rfl (by decide) (fU (i + 1) hd (by omega) (aQ rfl (aQ rfl (aQ rfl (aQ rfl (aQ rfl (aQ rfl (aQ rfl aX))))))) (aU (fun _ _ _ h=>h) (aU (matO_of (by rw [set_FRow,← mix_set (f:=(fun i=>tab m fun c=>dotN a b k i c))])) aY)))))))
  ·simp only [decide_eq_false_iff_not] at hd
   obtain rfl:n = i:=Nat.le_antisymm (by omega) hi
   refine gV rfl (ts (rm rfl (ra rfl (ro rfl (cQ (cJ 0)) (eX ?_)))))
   exact T_retO B39 trivial [0,1] ⟨⟨_,rfl,fun _ _ _ h=>h⟩,⟨_,rfl,(matO_of (by rw [mix_fin]; rfl))⟩,trivial⟩ (by decide) (rvs2 rfl (eU rfl) (eU rfl))
theorem c_Prod {a b:List (List Qi)} {n k m L M:Nat} (ha:Shp a n k) (hb:Shp b k m) (hfa:FitM a L) (hfb:FitM b M) (hL1:1 ≤ L) (hM1:1 ≤ M) (hL:L ≤ 900000000000) (hM:M ≤ 900000000000) (hn1:1 ≤ n) (hk1:1 ≤ k) (hn:n ≤ 8) (hk:k ≤ 8) (hm:m ≤ 8):Fun Tryz.prog 76 [NumM a,NumM b] (TupT [NumM (mulM a b n k m),IntT .i64 0]):=(c_ProdO ha hb hfa hfb hL1 hM1 hL hM hn1 hk1 hn hk hm).fun fun B _ v S V h1 h2=>tup1 h1 fun u hu=>frz_matF (s:=5) (M:=mulM a b n k m) (tab_len _ _).symm u S V hu h2
theorem c_AdjO {a:List (List Qi)} {n m:Nat} (ha:Shp a n m) (hn1:1 ≤ n) (hn:n ≤ 8) (hm:m ≤ 8):FunO Tryz.prog 224 [NumM a] [] (Nat) (fun B=>TupT [Is (.slice (some ⟨B,0,none⟩) m m),IntT .i64 0]) (fun B=>[matO B 27 45 5 (FRow NumT (adjM a n m))]) (fun _=>True):=by
 have hal:=ha.1
 refine FunO.intro Tryz.func224 rfl Tryz.ntmps224 rfl (fun cx Z=>(ts (ro rfl (cQ cV) (ro rfl (cQ (cJ 0)) (eX (ts (rm rfl (ro rfl (cZ Tryz.call180 (c_columns ha hn1 (by omega) (by omega)) ⟨(Ht rfl),trivial⟩) (rm rfl (ro rfl (dK (Ht rfl) rfl) (ro rfl (dK (Ht rfl) rfl) (ra rfl (ra rfl (eX (cK (ts (rm rfl (ro rfl (op_not (Ht rfl)) (eX (dQ (Ht rfl) (fun h0=>?_) (fun h0=>?_)))))))))))))))))))))
 ·exact absurd h0 (by simp)
 ·refine cU (ts (rm rfl (rn rfl (new_make (T := Is (.slice none 0 0)) (i := Tryz.t27) V_28 info_27 rfl rfl (Ht rfl) rfl (fun _ => rfl) trivial (by show 24 * _ ≤ _; omega) (by omega)) fun B17 => (ra rfl (eX (cK (ts (rm rfl (ro rfl (op_lenI U_28 (Ht rfl)) (ro rfl (cX (cJ 0)) (eX (eG (T_conv 1 rfl (mat_nil (e := 45) (s := 5)) ?_)))))))))))))
  refine T_loop (fun (k : Nat) => k ≤ m) (fun (k : Nat) => m - k) (fun (k : Nat) => [(0, NumM a), (6, Is (.slice (some ⟨B17, 0, none⟩) m m)), (19, NT .i64 m), (20, NT .i64 k)]) (fun (k : Nat) => [Z, matO B17 27 45 5 (FRow NumT (mixT (fun k => tab n fun i => (gm a i k).conj) [] m k))]) 0 (Nat.zero_le _)
   (aQ rfl (aQ rfl (aQ rfl (aQ rfl aX)))) (aU (fun _ _ _ h=>h) (aU (matO_of (by rw [← mix_zero,tab_const]; exact rep_FRow NumT m)) aY)) (fun k hk=>?_)
  refine ts (ro rfl (gX (Ht rfl) (Ht rfl)) (eX (cK (dQ (Ht rfl) (fun hd=>?_) (fun hd=>?_)))))
  ·simp only [decide_eq_true_eq] at hd
   refine T_focus 1 (k) rfl (frow_mix hd) (fun v=>(cU (cK (eG (ts (rm rfl (ra rfl (eX (ts (rm rfl (ro rfl (dG U_28 (Ht rfl) len_map) (ro rfl (cX (cJ 0)) (eX (eG ?_))))))))))))))
   refine T_loop2 (fun (i : Nat) (v : Value) => i ≤ n) (fun (i : Nat) (v : Value) => n - i) (fun (i : Nat) (v : Value) => [(0, NumM a), (6, Is (.slice (some ⟨B17, 0, none⟩) m m)), (7, NT .i64 k), (19, NT .i64 m), (20, NT .i64 k), (24, NT .i64 n), (25, NT .i64 i)]) (fun (i : Nat) (v : Value) => [Z, matH B17 27 45 5 (FRow NumT (mixT (fun k => tab n fun i => (gm a i k).conj) [] m k)) k v, rowO 45 5 v ((tab i fun i => (gm a i k).conj).map NumT)]) 0 v (Nat.zero_le _)
    (aQ rfl (aQ rfl (aQ rfl (aQ rfl (aQ rfl (aZ rfl (nt_of hal) (aQ rfl aX))))))) (HSub.refl _) (fun i v hi=>?_)
   refine ts (ro rfl (gX (Ht rfl) (Ht rfl)) (eX (cK (dQ (Ht rfl) (fun he=>?_) (fun he=>?_)))))
   ·simp only [decide_eq_true_eq] at he
    have har:=ha.row he
    refine cU (cK (eG (ts (rm rfl (ra rfl (eX (Y.D_startA (m:=17) [] 16 2 rfl rfl (bY (Ei:=[(6,_)]) rfl rfl (bQ (bJ rfl rfl) bX) rfl rfl (dX rfl (cX (Ht rfl))) (bY (Ei:=[(7,_)]) rfl rfl (bQ (bJ rfl rfl) bX) rfl rfl (dX rfl (cX (Ht rfl))) (bY (Ei:=[(6,_)]) rfl rfl (bQ (bJ rfl rfl) bX) rfl rfl (dX rfl (cX (Ht rfl))) (bY (Ei:=[(7,_)]) rfl rfl (bQ (bJ rfl rfl) bX) rfl rfl (dX rfl (cX (Ht rfl))) (bY (Ei:=[(30,_),(31,_)]) rfl rfl (bQ (bZ 2 rfl rfl) (bQ (bZ 3 rfl rfl) bX)) rfl rfl (dX rfl (fY U_28 Z_27 (Ht rfl) (Ht rfl) rfl (by omega) (by rw [Nat.mul_one,Nat.zero_add]))) ?_))))))))))))
    refine bY (Ei:=[(32,_)]) rfl rfl (bQ (bZ 4 rfl rfl) bX) rfl rfl (dX rfl (op_ldH A_27 Z_27 (Ht rfl) (j:=1) rfl)) (bY (Ei:=[(0,_)]) rfl rfl (bQ (bJ rfl rfl) bX) rfl rfl (dX rfl (cX (Ht rfl))) (bY (Ei:=[(8,_)]) rfl rfl (bQ (bJ rfl rfl) bX) rfl rfl (dX rfl (cX (Ht rfl))) (bY (Ei:=[(34,_),(35,_)]) rfl rfl (bQ (bZ 6 rfl rfl) (bQ (bZ 7 rfl rfl) bX)) rfl rfl (dX rfl (dZ U_28 Z_27 (Ht rfl) (Ht rfl) rfl (dY (dU (d:=[]) (by omega))))) ?_)))
    refine bY (Ei:=[(36,_)]) rfl rfl (bQ (bZ 8 rfl rfl) bX) rfl rfl (dX rfl (dJ A_27 Z_27 (Ht rfl))) (bY (Ei:=[(7,_)]) rfl rfl (bQ (bJ rfl rfl) bX) rfl rfl (dX rfl (cX (Ht rfl))) (bY (Ei:=[(37,_),(38,_)]) rfl rfl (bQ (bZ 9 rfl rfl) (bQ (bZ 10 rfl rfl) bX)) rfl rfl (dX rfl (dZ U_27 Z_45 (Ht rfl) (Ht rfl) rfl (dY (dU (d:=Qi.zero) (by rw [har]; omega))))) ?_))
    refine bY (Ei:=[(39,_)]) rfl rfl (bQ (bZ 11 rfl rfl) bX) rfl rfl (dX rfl (dJ A_45 Z_45 (Ht rfl))) (bY (Ei:=[(40,_)]) rfl rfl (bQ (bZ 12 rfl rfl) bX) rfl rfl (dX rfl (op_iface mkif_45 (Ht rfl))) (bY (Ei:=[(41,_)]) rfl rfl (bQ (bZ 13 rfl rfl) bX) rfl rfl (dX rfl (op_invoke meth_45_Conj Tryz.call301 c_Conj (Ht rfl) trivial)) (bY (Ei:=[(42,_)]) rfl rfl (bQ (bZ 14 rfl rfl) bX) rfl rfl (dX rfl (op_bslice (xs:=[.tmp 42]) U_27 Z_45 O_45 (cW (Ht rfl) cG) rfl rfl rfl)) ?_)))
    refine Y.D_app (Ei:=[(33,_),(43,_)]) rfl rfl rfl rfl (bQ (bZ 5 rfl rfl) (bQ (bZ 15 rfl rfl) bX)) rfl (A_append (inf:=Tryz.t45) und_27 info_45 rfl rfl rfl (Ht rfl) (Ht rfl) (by simp) (fun T hT=>by simp at hT; subst hT; exact El.ag rfl) (by show _ * 88 ≤ _; simp only [List.length_map,tab_len,List.length_cons,List.length_nil]; omega) (by simp only [List.length_map,tab_len,List.length_cons,List.length_nil]; omega)) ?_
    refine Y.D_done mixed rfl (by kernel_rfl) rfl (by simp [Y.okP]) rfl rfl (bU (bU (bU (bU (bU (bU (bU (bU (bU (bU (bU (bU (bU (bU (bU (bU (Y.F_app (fun v2=>Y.F_nil ?_))))))))))))))))))
    refine ro rfl (fY U_28 Z_27 (Ht rfl) (Ht rfl) rfl (by omega) (by rw [Nat.mul_one,Nat.zero_add])) ?_
    refine R_stH Z_27 (Ht rfl) (Ht rfl) (by simp only [FRow,List.length_map,mix_len]; omega) (j:=1) (l:=3) rfl rfl rfl ?_
    refine eX (T_blk (cY (ro rfl (dV (Ht rfl) (cJ 1) (by show _ < 9223372036854775808; first | omega | (simp only [lim]; omega))) (rm rfl (eX (T_keep [0,1,3] rfl (by decide) (fU (i + 1,v2) he (by dsimp only; omega) (aQ rfl (aQ rfl (aQ rfl (aQ rfl (aQ rfl (aQ rfl (aQ rfl aX))))))) (aU (fun _ _ _ h=>h) (aU (fun _ _ _ h=>h) (aU (rowO_of ((app_mapF NumT _ (gm a i k).conj).trans (congrArg _ (tab_succ i (fun i=>(gm a i k).conj)).symm))) aY))))))))))
   ·simp only [decide_eq_false_iff_not] at he
    obtain rfl:n = i:=Nat.le_antisymm (by omega) hi
    refine gV rfl (T_blk (T_unfocus 1 2 rfl rfl (by decide) (by simp only [FRow,List.length_map,mix_len]; omega) ?_))
    refine cY (ro rfl (dV (Ht rfl) (cJ 1) (by show _ < 9223372036854775808; first | omega | (simp only [lim]; omega))) (rm rfl (eX (T_keep [0,1] rfl (by decide) (fU (k + 1) hd (by omega) (aQ rfl (aQ rfl (aQ rfl (aQ rfl aX)))) (aU (fun _ _ _ h=>h) (aU (matO_of (by rw [set_FRow,← mix_set (f:=(fun k=>tab n fun i=>(gm a i k).conj))])) aY)))))))
  ·simp only [decide_eq_false_iff_not] at hd
   obtain rfl:m = k:=Nat.le_antisymm (by omega) hk
   refine gV rfl (ts (rm rfl (ra rfl (ro rfl (cQ (cJ 0)) (eX ?_)))))
   exact T_retO B17 trivial [0,1] ⟨⟨_,rfl,fun _ _ _ h=>h⟩,⟨_,rfl,(matO_of (by rw [mix_fin]; rfl))⟩,trivial⟩ (by decide) (rvs2 rfl (eU rfl) (eU rfl))
theorem c_Adj {a:List (List Qi)} {n m:Nat} (ha:Shp a n m) (hn1:1 ≤ n) (hn:n ≤ 8) (hm:m ≤ 8):Fun Tryz.prog 224 [NumM a] (TupT [NumM (adjM a n m),IntT .i64 0]):=(c_AdjO ha hn1 hn hm).fun fun B _ v S V h1 h2=>tup1 h1 fun u hu=>frz_matF (s:=5) (M:=adjM a n m) (tab_len _ _).symm u S V hu h2
theorem c_scatO {z:List Qi} {s:List (List Qi)} (hsh:Shp s z.length z.length) (hl:z.length ≤ 8):FunO Tryz.prog 141 [NetT z s] [] (Nat) (fun B=>Is (.slice (some ⟨B,0,none⟩) z.length z.length)) (fun B=>[matO B 27 45 5 (FRow NumT (tab z.length fun i=>tab z.length fun k=>gm s i k))]) (fun _=>True):=by
 refine FunO.intro Tryz.func141 rfl Tryz.ntmps141 rfl (fun cx Z=>(ts (rn rfl (fG (Ht rfl)) fun B1=>(ro rfl (cQ cV) (eX (ts (ro rfl (eJ A_30 Z_30 (Ht rfl) (i:=1) rfl rfl rfl) (ro rfl (cZ K_37 c_Ports ⟨(Ht rfl),trivial⟩) (rn rfl (new_make (T:=Is (.slice none 0 0)) (i:=Tryz.t27) V_28 info_27 rfl rfl (Ht rfl) rfl (fun _=>rfl) trivial (by show 24 * _ ≤ _; omega) (by omega)) fun B10=>(ra rfl (eX (cK (ts (rm rfl (ro rfl (op_lenI U_28 (Ht rfl)) (ro rfl (cX (cJ 0)) (eX (eG ?_))))))))))))))))))
 refine T_conv 2 rfl (mat_nil (e:=45) (s:=5)) ?_
 refine T_loop (fun (i : Nat) => i ≤ z.length) (fun (i : Nat) => z.length - i) (fun (i : Nat) => [(1, PtrB B1 0), (3, Is (.slice (some ⟨B10, 0, none⟩) z.length z.length)), (12, NT .i64 z.length), (13, NT .i64 i)]) (fun (i : Nat) => [Z, box B1 30 [NumsT z, NumM s], matO B10 27 45 5 (FRow NumT (mixT (fun i => tab z.length fun k => gm s i k) [] z.length i))]) 0 (Nat.zero_le _)
  (aQ rfl (aQ rfl (aQ rfl (aQ rfl aX)))) (aU (fun _ _ _ h=>h) (aU (fun _ _ _ h=>h) (aU (matO_of (by rw [← mix_zero,tab_const]; exact rep_FRow NumT z.length)) aY))) (fun i hi=>?_)
 refine ts (ro rfl (gX (Ht rfl) (Ht rfl)) (eX (cK (dQ (Ht rfl) (fun hd=>?_) (fun hd=>?_)))))
 ·simp only [decide_eq_true_eq] at hd
  refine T_focus 2 (i) rfl (frow_mix hd) (fun v=>(cU (cK (eG (ts (rm rfl (ra rfl (eX (ts (rm rfl (ro rfl (op_lenI U_28 (Ht rfl)) (ro rfl (cX (cJ 0)) (eX (eG ?_))))))))))))))
  refine T_loop2 (fun (k : Nat) (v : Value) => k ≤ z.length) (fun (k : Nat) (v : Value) => z.length - k) (fun (k : Nat) (v : Value) => [(1, PtrB B1 0), (3, Is (.slice (some ⟨B10, 0, none⟩) z.length z.length)), (4, NT .i64 i), (12, NT .i64 z.length), (13, NT .i64 i), (17, NT .i64 z.length), (18, NT .i64 k)]) (fun (k : Nat) (v : Value) => [Z, box B1 30 [NumsT z, NumM s], matH B10 27 45 5 (FRow NumT (mixT (fun i => tab z.length fun k => gm s i k) [] z.length i)) i v, rowO 45 5 v ((tab k fun k => gm s i k).map NumT)]) 0 v (Nat.zero_le _)
   (aQ rfl (aQ rfl (aQ rfl (aQ rfl (aQ rfl (aQ rfl (aQ rfl aX))))))) (HSub.refl _) (fun k v hk=>?_)
  refine ts (ro rfl (gX (Ht rfl) (Ht rfl)) (eX (cK (dQ (Ht rfl) (fun he=>?_) (fun he=>?_)))))
  ·simp only [decide_eq_true_eq] at he
   refine cU (cK (eG (ts (rm rfl (ra rfl (eX (ts (ro rfl (eJ A_30 Z_30 (Ht rfl) (i:=1) rfl rfl rfl) (rm rfl (ro rfl (dV (Ht rfl) (cJ 1) (by show _ < 9223372036854775808; first | omega | (simp only [lim]; omega))) (rm rfl (ro rfl (dV (Ht rfl) (cJ 1) (by show _ < 9223372036854775808; first | omega | (simp only [lim]; omega))) (ro rfl (cZ Tryz.call65 (c_At (i:=(i:Int) + 1) (j:=(k:Int) + 1) hsh (by omega)) ⟨(Ht rfl),(Ht rfl),(Ht rfl),trivial⟩) (rm rfl (ro rfl (dK (Ht rfl) rfl) (ro rfl (dK (Ht rfl) rfl) ?_))))))))))))))))
   refine rn rfl (eW (Ts:=[Is (.bool false),Is (.slice none 0 0),Is (.bool false),Is (.slice none 0 0),Is (.slice none 0 0)]) O_45 rfl (fun V=>aW ⟨rfl,trivial⟩ (aW ⟨rfl,trivial⟩ (aW ⟨rfl,trivial⟩ (aW ⟨rfl,trivial⟩ (aW ⟨rfl,trivial⟩ (aG))))))) fun B6=>gQ Z_45 (Ht rfl) (Ht rfl) rfl (i:=4) rfl (aK rfl) rfl rfl (ra rfl (eX (Y.D_startA (m:=9) [] 8 3 rfl rfl (bY (Ei:=[(3,_)]) rfl rfl (bQ (bJ rfl rfl) bX) rfl rfl (dX rfl (cX (Ht rfl))) ?_))))
   refine bY (Ei:=[(4,_)]) rfl rfl (bQ (bJ rfl rfl) bX) rfl rfl (dX rfl (cX (Ht rfl))) (bY (Ei:=[(3,_)]) rfl rfl (bQ (bJ rfl rfl) bX) rfl rfl (dX rfl (cX (Ht rfl))) (bY (Ei:=[(4,_)]) rfl rfl (bQ (bJ rfl rfl) bX) rfl rfl (dX rfl (cX (Ht rfl))) (bY (Ei:=[(32,_),(33,_)]) rfl rfl (bQ (bZ 2 rfl rfl) (bQ (bZ 3 rfl rfl) bX)) rfl rfl (dX rfl (fY U_28 Z_27 (Ht rfl) (Ht rfl) rfl (by omega) (by rw [Nat.mul_one,Nat.zero_add]))) ?_)))
   refine bY (Ei:=[(34,_)]) rfl rfl (bQ (bZ 4 rfl rfl) bX) rfl rfl (dX rfl (op_ldH A_27 Z_27 (Ht rfl) (j:=2) rfl)) (bY (Ei:=[(6,_)]) rfl rfl (bQ (bJ rfl rfl) bX) rfl rfl (dX rfl (eJ A_45 Z_45 (Ht rfl) (i:=4) rfl rfl rfl)) (bY (Ei:=[(36,_)]) rfl rfl (bQ (bZ 6 rfl rfl) bX) rfl rfl (dX rfl (op_bslice (xs:=[.tmp 36]) U_27 Z_45 O_45 (cW (Ht rfl) cG) rfl rfl rfl)) (Y.D_app (Ei:=[(35,_),(37,_)]) rfl rfl rfl rfl (bQ (bZ 5 rfl rfl) (bQ (bZ 7 rfl rfl) bX)) rfl (A_append (inf:=Tryz.t45) und_27 info_45 rfl rfl rfl (Ht rfl) (Ht rfl) (by simp) (fun T hT=>by simp at hT; subst hT; exact El.ag rfl) (by show _ * 88 ≤ _; simp only [List.length_map,tab_len,List.length_cons,List.length_nil]; omega) (by simp only [List.length_map,tab_len,List.length_cons,List.length_nil]; omega)) ?_)))
   refine Y.D_done mixed rfl (by kernel_rfl) rfl (by simp [Y.okP]) rfl rfl (bU (bU (bU (bU (bU (bU (bU (bU (Y.F_app (fun v2=>Y.F_nil ?_))))))))))
   refine ro rfl (fY U_28 Z_27 (Ht rfl) (Ht rfl) rfl (by omega) (by rw [Nat.mul_one,Nat.zero_add])) ?_
   refine R_stH Z_27 (Ht rfl) (Ht rfl) (by simp only [FRow,List.length_map,mix_len]; omega) (j:=2) (l:=5) rfl rfl rfl ?_
   refine eX (T_blk (cY (ro rfl (dV (Ht rfl) (cJ 1) (by show _ < 9223372036854775808; first | omega | (simp only [lim]; omega))) (rm rfl (eX (T_keep [0,1,2,5] rfl (by decide) (fU (k + 1,v2) he (by dsimp only; omega) (aQ rfl (aQ rfl (aQ rfl (aQ rfl (aQ rfl (aQ rfl (aQ rfl aX))))))) (aU (fun _ _ _ h=>h) (aU (fun _ _ _ h=>h) (aU (fun _ _ _ h=>h) (aU (rowO_of (by rw [tab_succ,List.map_append,pkm_at hd he]; rfl)) aY)))))))))))
  ·simp only [decide_eq_false_iff_not] at he
   obtain rfl:k = z.length:=Nat.le_antisymm hk (by omega)
   refine gV rfl (T_blk (T_unfocus 2 3 rfl rfl (by decide) (by simp only [FRow,List.length_map,mix_len]; omega) ?_))
   refine cY (ro rfl (dV (Ht rfl) (cJ 1) (by show _ < 9223372036854775808; first | omega | (simp only [lim]; omega))) (rm rfl (eX (T_keep [0,1,2] rfl (by decide) (fU (i + 1) hd (by omega) (aQ rfl (aQ rfl (aQ rfl (aQ rfl aX)))) (aU (fun _ _ _ h=>h) (aU (fun _ _ _ h=>h) (aU (matO_of (by rw [set_FRow,← mix_set (f:=(fun i=>tab z.length fun k=>gm s i k))])) aY))))))))
 ·simp only [decide_eq_false_iff_not] at hd
  obtain rfl:i = z.length:=Nat.le_antisymm hi (by omega)
  refine gV rfl (ts (rm rfl (ra rfl (eX ?_))))
  exact T_retO B10 trivial [0,2] ⟨⟨_,rfl,fun _ _ _ h=>h⟩,⟨_,rfl,(matO_of (by rw [mix_fin]))⟩,trivial⟩ (by decide) (rvs1 rfl (eU rfl))
theorem c_scat {z : List Qi} {s : List (List Qi)} (hsh : Shp s z.length z.length) (hl : z.length ≤ 8) : Fun Tryz.prog 141 [NetT z s] (NumM s) := (c_scatO hsh hl).fun fun B _ v S V h1 h2 => by
 have h3:=frz_matF (s:=5) (M:=tab z.length fun i=>tab z.length fun k=>gm s i k) (tab_len _ _).symm v S V h1 h2
 rw [← mat_tab hsh] at h3; exact h3
theorem c_refs {z:List Qi} {s:List (List Qi)} (hl:z.length ≤ 8):Fun Tryz.prog 185 [NetT z s] (NumsT z):=by
 refine Fun.intro Tryz.func185 rfl Tryz.ntmps185 rfl (fun cx=>(ts (rn rfl (fG (Ht rfl)) fun B1=>(ro rfl (cQ cV) (eX (ts (ro rfl (eJ A_30 Z_30 (Ht rfl) (i:=0) rfl rfl rfl) (ro rfl (cZ K_37 c_Ports ⟨(Ht rfl),trivial⟩) (rn rfl (new_makeO (T:=NumT Qi.zero) (i:=Tryz.t45) und_27 info_45 rfl rfl (Ht rfl) rfl num_zero_p (El.ag rfl) (by show 88 * _ ≤ _; omega) (by omega)) fun B7=>(ra rfl (eX (cK (ts (rm rfl (ro rfl (op_lenO U_27 (Ht rfl) (i:=1) rfl (show ((List.replicate z.length (NumT Qi.zero)).length:Int) = ((z.length:Nat):Int) by simp)) ?_)))))))))))))))
 refine ro rfl (cX (cJ 0)) (eX (eG ?_))
 refine T_loop2 (fun (k : Nat) (out : List Qi) => FillS (fun i => gv z i) z.length out k) (fun (k : Nat) (out : List Qi) => z.length - k) (fun (k : Nat) (out : List Qi) => [(1, PtrB B1 0), (3, Is B7), (9, NT .i64 z.length), (10, NT .i64 k)]) (fun (k : Nat) (out : List Qi) => [box B1 30 [NumsT z, NumM s], rowO 45 5 B7 (out.map NumT)]) 0 (List.replicate z.length Qi.zero) (FillS.start _ _ _)
  (aQ rfl (aQ rfl (aQ rfl (aQ rfl aX)))) (aU (fun _ _ _ h=>h) (aU (rowO_of (rep_mapF NumT _ _)) aY)) (fun k out hS=>?_)
 refine ts (ro rfl (gX (Ht rfl) (Ht rfl)) (eX (cK (dQ (Ht rfl) (fun hk=>?_) (fun hk=>?_)))))
 ·simp only [decide_eq_true_eq] at hk
  have hlen:=hS.len
  refine cU (cK (eG (ts (rm rfl (ra rfl (eX (cY (rm rfl (rm rfl (ro rfl (eJ A_30 Z_30 (Ht rfl) (i:=0) rfl rfl rfl) (rm rfl (ro rfl (dV (Ht rfl) (cJ 1) (by show _ < 9223372036854775808; first | omega | (simp only [lim]; omega))) (ro rfl (cZ Tryz.call63 (c_Ref (i:=(k:Int) + 1) (by omega)) ⟨(Ht rfl),(Ht rfl),trivial⟩) (rm rfl (ro rfl (dK (Ht rfl) rfl) (ro rfl (dK (Ht rfl) rfl) (ro rfl (op_idxO U_27 Z_45 (Ht rfl) (Ht rfl) rfl (i:=1) rfl (by first | omega | (simp; omega)) rfl) ?_)))))))))))))))))
  refine R_stO Z_45 (Ht rfl) (Ht rfl) (El.ag rfl) (i:=1) rfl rfl (by first | omega | (simp; omega)) rfl (eX (T_blk (cY (ro rfl (dV (Ht rfl) (cJ 1) (by show _ < 9223372036854775808; first | omega | (simp only [lim]; omega))) (rm rfl (eX (fU (k + 1,_) (hS.next hk (pkv_at hk)) (by dsimp only; omega) (aQ rfl (aQ rfl (aQ rfl (aQ rfl aX)))) (aU (fun _ _ _ h=>h) (aU (rowO_of (set_mapF NumT _ _ _)) aY)))))))))
 ·simp only [decide_eq_false_iff_not] at hk
  obtain rfl:k = z.length:=Nat.le_antisymm hS.kle (by omega)
  have hfin:=hS.fin.trans (list_tab (l:=z) rfl).symm
  refine gV rfl (gJ (i:=1) (tt:=3) rfl rfl frz_row (ts (rm rfl (ra rfl (eX (fW rfl (fX (eU rfl) ?_)))))))
  exact (slT_of (by rw [hfin]))
end
section
open Go Go.RowKit
theorem meth_45_Div (v : Value) (w : World) : (method (Tryz.prog.types.size + Made.depth) 45 v "Div").run Tryz.prog w = .ok (59, v) w := by kernel_rfl
theorem meth_45_Sub (v : Value) (w : World) : (method (Tryz.prog.types.size + Made.depth) 45 v "Sub").run Tryz.prog w = .ok (66, v) w := by kernel_rfl
end
section
open Go Go.RowKit
theorem c_carO {p c:List (List Qi)} {n m L:Nat} (hp:Shp p n m) (hc:Shp c m m) (hfp:FitM p L) (hfc:FitM c L) (hL1:1 ≤ L) (hL:L ≤ 100000) (hn1:1 ≤ n) (hm1:1 ≤ m) (hn:n ≤ 8) (hm:m ≤ 8):FunO Tryz.prog 143 [NumM p,NumM c] [] (Nat) (fun B=>Is (.slice (some ⟨B,0,none⟩) n n)) (fun B=>[matO B 27 45 5 (FRow NumT (carM p c))]) (fun _=>True):=by
 have hpl:=hp.1
 have hf1:=mulM_fit (n:=n) (m:=m) hfp hfc hL1 hL1 hm
 have hf2:=adjM_fit (n:=n) (m:=m) hfp hL1
 have hs1:Shp (mulM p c n m m) n m:=mulM_shp
 have hs2:Shp (adjM p n m) m n:=adjM_shp
 refine FunO.intro Tryz.func143 rfl Tryz.ntmps143 rfl (fun cx Z=>(ts (ro rfl (cQ cV) (eX (cK (ts (rm rfl (ro rfl (dG U_28 (Ht rfl) len_map) (ro rfl (op_eqlN (Ht rfl) (cJ 0)) (eX (dQ (Ht rfl) (fun h0=>?_) (fun h0=>?_))))))))))))
 ·simp only [decide_eq_true_eq] at h0
  omega
 ·refine cU (ts (rm rfl (rm rfl (ro rfl (cZ Tryz.call76 (c_Prod hp hc hfp hfc hL1 hL1 (by omega) (by omega) hn1 hm1 hn hm hm) ⟨(Ht rfl), (Ht rfl), trivial⟩) (rm rfl (ro rfl (dK (Ht rfl) rfl) (ro rfl (dK (Ht rfl) rfl) (ra rfl (ra rfl (eX (ts (rm rfl (ro rfl (cZ Tryz.call224 (c_Adj hp hn1 hn hm) ⟨(Ht rfl), trivial⟩) (rm rfl (ro rfl (dK (Ht rfl) rfl) (ro rfl (dK (Ht rfl) rfl) (ra rfl (ra rfl (eX (ts (rm rfl (rm rfl (R_call0 Tryz.call76 (c_ProdO (a := mulM p c n m m) (b := adjM p n m) hs1 hs2 hf1 hf2 (by omega) hL1 (by omega) (by omega) hn1 hm1 hn hm hn) ⟨(Ht rfl), (Ht rfl), trivial⟩ rfl (fun B28 _ => ?_))))))))))))))))))))))))
  refine rm rfl (ro rfl (dK (Ht rfl) rfl) (ro rfl (dK (Ht rfl) rfl) (ra rfl (ra rfl (eX (ts (rm rfl (ra rfl (eX ?_)))))))))
  exact T_retO B28 trivial [0,1] ⟨⟨_,rfl,fun _ _ _ h=>h⟩,⟨_,rfl,(matO_of (by rw [car_eq hp hc]))⟩,trivial⟩ (by decide) (rvs1 rfl (eU rfl))
theorem c_car {p c:List (List Qi)} {n m L:Nat} (hp:Shp p n m) (hc:Shp c m m) (hfp:FitM p L) (hfc:FitM c L) (hL1:1 ≤ L) (hL:L ≤ 100000) (hn1:1 ≤ n) (hm1:1 ≤ m) (hn:n ≤ 8) (hm:m ≤ 8):Fun Tryz.prog 143 [NumM p,NumM c] (NumM (carM p c)):=(c_carO hp hc hfp hfc hL1 hL hn1 hm1 hn hm).fun fun B _ v S V h1 h2=>frz_matF (s:=5) (M:=carM p c) (by rw [carM_shp.1,hp.1]) v S V h1 h2
theorem c_Factor {z:List Qi} {s c:List (List Qi)} {g t0:Qi} {L:Nat} (hz:FitL z L) (hs:FitM s L) (hc:FitM c L) (hg:FitC g L) (ht:FitC t0 L) (hL1:1 ≤ L) (hL:L ≤ 4000) (hsh:Shp s z.length z.length) (hch:Shp c z.length z.length) (hl:z.length ≤ 8):Fun Tryz.prog 130 [NoisyT z s c,NumT g,NumT t0] (TupT [NumT (facR z s c g t0).1,IntT .i64 (facR z s c g t0).2]):=by
 haveI:=hg; haveI:=ht
 haveI hz0:FitC Qi.zero 1:=FitC.zero (Nat.le_refl 1)
 have d1:(dg (((1:Nat):Int)).natAbs).length = 1:=by decide
 have d2:(dg (Int.natAbs 1)).length = 1:=by decide
 have hcl:=hch.1
 refine Fun.intro Tryz.func130 rfl Tryz.ntmps130 rfl (fun cx=>(ts (rn rfl (fG (Ht rfl)) fun B3=>(rn rfl (fG (Ht rfl)) fun B4=>(rn rfl (fG (Ht rfl)) fun B5=>(rn rfl (eW (Ts:=[Is (.bool false),Is (.slice none 0 0),Is (.bool false),Is (.slice none 0 0),Is (.slice none 0 0)]) O_45 rfl (fun V=>aW ⟨rfl,trivial⟩ (aW ⟨rfl,trivial⟩ (aW ⟨rfl,trivial⟩ (aW ⟨rfl,trivial⟩ (aW ⟨rfl,trivial⟩ (aG))))))) fun B6=>(ro rfl (cQ (cJ 0)) (eX (ts (rn rfl (eW (Ts:=[Is (.bool false),Is (.slice none 0 0),Is (.bool false),Is (.slice none 0 0),Is (.slice none 0 0)]) O_45 rfl (fun V=>aW ⟨rfl,trivial⟩ (aW ⟨rfl,trivial⟩ (aW ⟨rfl,trivial⟩ (aW ⟨rfl,trivial⟩ (aW ⟨rfl,trivial⟩ (aG))))))) fun B8=>?_))))))))))
 refine eX (cK (cK (fZ (m:=6) (dp 5 rfl (eJ A_45 Z_45 (Ht rfl) (i:=2) rfl rfl rfl) (dq 18 0 rfl (cZ Tryz.call192 c_Real ⟨(Ht rfl),trivial⟩) (dq 19 1 rfl (op_not (Ht rfl)) (dq 20 2 rfl (cX (Ht rfl)) (C.D_step (Ei:=[(5,_),(21,_)]) rfl rfl (bV (bK rfl rfl) (bV (bG 3 rfl rfl) bW)) (eK rfl rfl (Ht rfl) (fun h=>eJ A_45 Z_45 (Ht rfl) (i:=2) rfl rfl rfl)) (C.D_step (Ei:=[(21,_)]) rfl rfl (bV (bG 3 rfl rfl) bW) (eK rfl rfl (Ht rfl) (fun h=>cZ K_86 (c_Int (n:=0) (by decide) (by decide)) ⟨(cJ 0),trivial⟩)) ?_)))))))))
 refine fV mixed rfl (by kernel_rfl) (aJ (aJ (aJ (aJ (aJ (aJ (aV (fQ rfl rfl (eK rfl rfl (Ht rfl) (fun h=>cZ Tryz.call220 (c_Cmp (x:=t0) (y:=Qi.zero) (M:=1) (by omega)) ⟨(fJ rfl h),(fJ rfl h),trivial⟩)) (fQ rfl rfl (eK rfl rfl (Ht rfl) (fun h=>op_leq (fJ rfl h) cV)) (ro rfl (op_or (Ht rfl) (fun h=>(fJ rfl h))) (eX (dQ (Ht rfl) (fun hb=>?_) (fun hb=>?_)))))))))))))
 ·rw [npos_eq] at hb
  simp only [Bool.not_eq_true'] at hb
  have he:facR z s c g t0 = (Qi.zero,1):=by rw [facR,if_pos hb]
  refine ts (ro rfl (eJ A_45 Z_45 (Ht rfl) (i:=4) rfl rfl rfl) (gQ Z_45 (Ht rfl) (Ht rfl) rfl (i:=3) rfl (aK rfl) rfl rfl (ro rfl (cQ (cJ 1)) (eX (T_ret2 rfl (fX (fK A_45 Z_45 rfl (i:=3) rfl rfl) ?_) (fX (eU rfl) ?_))))))
  ·exact (fun v V k=>by rw [he]; exact num_zero v V k)
  ·exact (fun v V k=>by rw [he]; exact k)
 ·rw [npos_eq] at hb
  simp only [Bool.not_eq_false'] at hb
  have hb2:¬ posQ t0 = false:=by rw [hb]; decide
  refine cU (cK (ts (ro rfl (eZ fa_77_1 (Ht rfl) rfl) (ro rfl (eY A_28 Z_28 (Ht rfl) (i:=0) rfl rfl) (ro rfl (dG U_28 (Ht rfl) len_map) (ro rfl (op_neqN (Ht rfl) (cJ 2)) (eX (dQ (Ht rfl) (fun hd=>?_) (fun hd=>?_)))))))))
  ·have hd2 : z.length ≠ 2 := by rw [← hcl]; simpa using hd
   have he:facR z s c g t0 = (Qi.zero,4):=by rw [facR,if_neg hb2,if_pos hd2]
   refine ts (ro rfl (eJ A_45 Z_45 (Ht rfl) (i:=4) rfl rfl rfl) (gQ Z_45 (Ht rfl) (Ht rfl) rfl (i:=3) rfl (aK rfl) rfl rfl (ro rfl (cQ (cJ 4)) (eX (T_ret2 rfl (fX (fK A_45 Z_45 rfl (i:=3) rfl rfl) ?_) (fX (eU rfl) ?_))))))
   ·exact (fun v V k=>by rw [he]; exact num_zero v V k)
   ·exact (fun v V k=>by rw [he]; exact k)
  ·have hd2 : z.length = 2 := by rw [← hcl]; simpa using hd
   have hd3:¬ z.length ≠ 2:=fun h=>h hd2
   have hsh2:=hsh
   rw [hd2] at hsh hch
   have hs1:=hsh.1
   have hc1:=hch.1
   have hr0:=hsh.row (i:=0) (by decide)
   have hr1:=hsh.row (i:=1) (by decide)
   have hWf:=facW_fit hs hg hL1
   have hW:Shp (facW s g) 1 2:=⟨rfl,fun r hr=>by have:=List.mem_singleton.1 hr; subst this; rfl⟩
   have hXs:Shp (carM (facW s g) c) 1 1:=carM_shp
   have hX0:=hXs.row (i:=0) (by decide)
   have hp1:=pk1 (z:=z) (by omega)
   haveI f1:FitC (gm s 1 0) L:=hs.get hL1 1 0
   haveI f2:FitC (gm s 0 0) L:=hs.get hL1 0 0
   haveI f3:FitC (pkv z ((1:Nat):Int)) L:=by rw [hp1]; exact hz.get hL1 0
   haveI f4:=facX_fit hs hc hg hL1 (by omega)
   have hpd:gm s 1 0 * (gm s 1 0).conj * (t0 * pkv z ((1:Nat):Int)) * (oneQ - g * g.conj) = facD z s g t0:=by rw [hp1,Qi.mul_conj_norm,Qi.mul_conj_norm,facD,Qi.mul_assoc']
   refine cU (ts (ro rfl (eZ fa_77_0 (Ht rfl) rfl) (ro rfl (eJ A_30 Z_30 (Ht rfl) (i:=0) rfl rfl rfl) (ro rfl (cZ Tryz.call141 (c_scat hsh2 (by omega)) ⟨(Ht rfl),trivial⟩) (ro rfl (cZ K_86 (c_Int (n:=1) (by decide) (by decide)) ⟨(cJ 1),trivial⟩) (ro rfl (cZ K_142 c_of ⟨(Ht rfl),trivial⟩) (rn rfl (eW (Ts:=[Is (.bool false),Is (.slice none 0 0),Is (.bool false),Is (.slice none 0 0),Is (.slice none 0 0)]) O_45 rfl (fun V=>aW ⟨rfl,trivial⟩ (aW ⟨rfl,trivial⟩ (aW ⟨rfl,trivial⟩ (aW ⟨rfl,trivial⟩ (aW ⟨rfl,trivial⟩ (aG))))))) fun B10=>?_)))))))
   refine ra rfl (gQ Z_45 (Ht rfl) (Ht rfl) rfl (i:=5) rfl (aK rfl) rfl rfl (eX (ts (ro rfl (eZ fa_77_0 (Ht rfl) rfl) (ro rfl (eJ A_30 Z_30 (Ht rfl) (i:=0) rfl rfl rfl) (ro rfl (cZ Tryz.call63 (c_Ref (i:=((1:Nat):Int)) (by omega)) ⟨(Ht rfl),(cJ 1),trivial⟩) (rm rfl (ro rfl (dK (Ht rfl) rfl) (ro rfl (dK (Ht rfl) rfl) (rn rfl (eW (Ts:=[Is (.bool false),Is (.slice none 0 0),Is (.bool false),Is (.slice none 0 0),Is (.slice none 0 0)]) O_45 rfl (fun V=>aW ⟨rfl,trivial⟩ (aW ⟨rfl,trivial⟩ (aW ⟨rfl,trivial⟩ (aW ⟨rfl,trivial⟩ (aW ⟨rfl,trivial⟩ (aG))))))) fun B11=>?_))))))))))
   refine gQ Z_45 (Ht rfl) (Ht rfl) rfl (i:=6) rfl (aK rfl) rfl rfl (ra rfl (eX (cK (T_sub (E':=[(3,_),(4,_),(5,_),(6,_),(7,_),(8,_),(9,_),(10,_),(11,_)]) (aQ rfl (aQ rfl (aQ rfl (aQ rfl (aQ rfl (aQ rfl (aQ rfl (aQ rfl (aQ rfl aX))))))))) (fZ (m:=18) (dp 9 rfl (cX (Ht rfl)) (dq 44 0 rfl (dZ U_28 Z_27 (Ht rfl) (cJ 1) rfl (dY (dU (d:=[]) (by omega)))) (dq 45 1 rfl (dJ A_27 Z_27 (Ht rfl)) (dq 46 2 rfl (dZ U_27 Z_45 (Ht rfl) (cJ 0) rfl (dY (dU (d:=Qi.zero) (by rw [hr1]; decide)))) ?_)))))))))
   refine dq 47 3 rfl (dJ A_45 Z_45 (Ht rfl)) (dq 48 4 rfl (op_iface mkif_45 (Ht rfl)) (dp 4 rfl (eJ A_45 Z_45 (Ht rfl) (i:=1) rfl rfl rfl) (dqq 49 5 50 6 rfl (op_invoke meth_45_Mul K_67 (c_Mul (by omega)) (Ht rfl) ⟨(Ht rfl),trivial⟩) (dp 10 rfl (eJ A_45 Z_45 (Ht rfl) (i:=5) rfl rfl rfl) (dq 52 8 rfl (op_iface mkif_45 (Ht rfl)) (dp 4 rfl (eJ A_45 Z_45 (Ht rfl) (i:=1) rfl rfl rfl) (dq 54 10 rfl (op_iface mkif_45 (Ht rfl)) (dp 9 rfl (cX (Ht rfl)) (dq 56 12 rfl (dZ U_28 Z_27 (Ht rfl) (cJ 0) rfl (dY (dU (d:=[]) (by omega)))) ?_)))))))))
   refine dq 57 13 rfl (dJ A_27 Z_27 (Ht rfl)) (dq 58 14 rfl (dZ U_27 Z_45 (Ht rfl) (cJ 0) rfl (dY (dU (d:=Qi.zero) (by rw [hr0]; decide)))) ?_)
   refine dq 59 15 rfl (dJ A_45 Z_45 (Ht rfl)) (dqq 55 11 60 16 rfl (op_invoke meth_45_Mul K_67 (c_Mul (by omega)) (Ht rfl) ⟨(Ht rfl),trivial⟩) (fV mixed rfl (by kernel_rfl) (aJ (aJ (aJ (aJ (aJ (aJ (aJ (aJ (aJ (aJ (aJ (aJ (aJ (aJ (aJ (aJ (aJ (aJ (aV (ro rfl (op_invoke meth_45_Sub K_66 (c_Sub (by omega)) (Ht rfl) ⟨(Ht rfl),trivial⟩) (ro rfl (op_bslice (xs:=[.tmp 51,.tmp 62]) U_27 Z_45 O_45 (cW (Ht rfl) (cW (Ht rfl) cG)) rfl rfl rfl) ?_)))))))))))))))))))))))
   refine ro rfl (op_bslice (xs:=[.tmp 63]) U_28 Z_27 Tryz.zeroValue27 (cW (Ht rfl) cG) rfl rfl rfl) (ra rfl (eX (cK (T_sub (E':=[(3,_),(4,_),(5,_),(6,_),(7,_),(8,_),(9,_),(10,_),(11,_),(13,_)]) (aQ rfl (aQ rfl (aQ rfl (aQ rfl (aQ rfl (aQ rfl (aQ rfl (aQ rfl (aQ rfl (aQ rfl aX)))))))))) (cY (rm rfl (ro rfl (eZ fa_77_1 (Ht rfl) rfl) (ro rfl (eY A_28 Z_28 (Ht rfl) (i:=0) rfl rfl) (ro rfl (cZ Tryz.call143 (c_car (p:=facW s g) (c:=c) (n:=1) (m:=2) (L:=2 * L + 4) hW hch hWf (hc.le (by omega)) (by omega) (by omega) (by decide) (by decide) (by decide) (by decide)) ⟨(Ht rfl),(Ht rfl),trivial⟩) ?_)))))))))
   refine ro rfl (dZ U_28 Z_27 (Ht rfl) (cJ 0) rfl (dY (dU (d:=[]) (by rw [hXs.1]; decide)))) ?_
   refine ro rfl (dJ A_27 Z_27 (Ht rfl)) (ro rfl (dZ U_27 Z_45 (Ht rfl) (cJ 0) rfl (dY (dU (d:=Qi.zero) (by rw [hX0]; decide)))) ?_)
   refine ro rfl (dJ A_45 Z_45 (Ht rfl)) (rn rfl (eW (Ts:=[Is (.bool false),Is (.slice none 0 0),Is (.bool false),Is (.slice none 0 0),Is (.slice none 0 0)]) O_45 rfl (fun V=>aW ⟨rfl,trivial⟩ (aW ⟨rfl,trivial⟩ (aW ⟨rfl,trivial⟩ (aW ⟨rfl,trivial⟩ (aW ⟨rfl,trivial⟩ (aG))))))) fun B14=>(gQ Z_45 (Ht rfl) (Ht rfl) rfl (i:=7) rfl (aK rfl) rfl rfl (eX (cK (T_sub (E':=[(3,_),(4,_),(5,_),(6,_),(7,_),(8,_),(9,_),(10,_),(11,_),(14,_)]) (aQ rfl (aQ rfl (aQ rfl (aQ rfl (aQ rfl (aQ rfl (aQ rfl (aQ rfl (aQ rfl (aQ rfl aX)))))))))) ?_)))))
   refine fZ (m:=32) (dp 9 rfl (cX (Ht rfl)) (dq 73 0 rfl (dZ U_28 Z_27 (Ht rfl) (cJ 1) rfl (dY (dU (d:=[]) (by omega)))) (dq 74 1 rfl (dJ A_27 Z_27 (Ht rfl)) (dq 75 2 rfl (dZ U_27 Z_45 (Ht rfl) (cJ 0) rfl (dY (dU (d:=Qi.zero) (by rw [hr1]; decide)))) ?_))))
   refine dq 76 3 rfl (dJ A_45 Z_45 (Ht rfl)) (dq 77 4 rfl (op_iface mkif_45 (Ht rfl)) (dp 9 rfl (cX (Ht rfl)) (dq 79 6 rfl (dZ U_28 Z_27 (Ht rfl) (cJ 1) rfl (dY (dU (d:=[]) (by omega)))) (dq 80 7 rfl (dJ A_27 Z_27 (Ht rfl)) (dq 81 8 rfl (dZ U_27 Z_45 (Ht rfl) (cJ 0) rfl (dY (dU (d:=Qi.zero) (by rw [hr1]; decide)))) ?_)))))
   refine dq 82 9 rfl (dJ A_45 Z_45 (Ht rfl)) (dq 83 10 rfl (op_iface mkif_45 (Ht rfl)) (dq 84 11 rfl (op_invoke meth_45_Conj Tryz.call301 c_Conj (Ht rfl) trivial) (dqq 78 5 85 12 rfl (op_invoke meth_45_Mul K_67 (c_Mul (by omega)) (Ht rfl) ⟨(Ht rfl),trivial⟩) (dq 86 13 rfl (op_iface mkif_45 (Ht rfl)) (dp 5 rfl (eJ A_45 Z_45 (Ht rfl) (i:=2) rfl rfl rfl) (dp 11 rfl (eJ A_45 Z_45 (Ht rfl) (i:=6) rfl rfl rfl) (dqq 88 15 89 16 rfl (cZ K_67 (c_Mul (by omega)) ⟨(Ht rfl),(Ht rfl),trivial⟩) (dq 90 17 rfl (cZ K_142 c_of ⟨(Ht rfl),trivial⟩) ?_))))))))
   refine dqq 87 14 91 18 rfl (op_invoke meth_45_Mul K_67 (c_Mul (by omega)) (Ht rfl) ⟨(Ht rfl),trivial⟩) (dq 92 19 rfl (op_iface mkif_45 (Ht rfl)) (dp 10 rfl (eJ A_45 Z_45 (Ht rfl) (i:=5) rfl rfl rfl) (dq 94 21 rfl (op_iface mkif_45 (Ht rfl)) (dp 4 rfl (eJ A_45 Z_45 (Ht rfl) (i:=1) rfl rfl rfl) (dq 96 23 rfl (op_iface mkif_45 (Ht rfl)) (dp 4 rfl (eJ A_45 Z_45 (Ht rfl) (i:=1) rfl rfl rfl) (dq 98 25 rfl (op_iface mkif_45 (Ht rfl)) (dq 99 26 rfl (op_invoke meth_45_Conj Tryz.call301 c_Conj (Ht rfl) trivial) (dqq 97 24 100 27 rfl (op_invoke meth_45_Mul K_67 (c_Mul (by omega)) (Ht rfl) ⟨(Ht rfl),trivial⟩) ?_)))))))))
   refine dqq 95 22 101 28 rfl (op_invoke meth_45_Sub K_66 (c_Sub (by omega)) (Ht rfl) ⟨(Ht rfl),trivial⟩) (dqq 93 20 102 29 rfl (op_invoke meth_45_Mul K_67 (c_Mul (by omega)) (Ht rfl) ⟨(Ht rfl),trivial⟩) (C.D_new (Ei:=[]) rfl rfl rfl bW (eW (Ts:=[Is (.bool false),Is (.slice none 0 0),Is (.bool false),Is (.slice none 0 0),Is (.slice none 0 0)]) O_45 rfl (fun V=>aW ⟨rfl,trivial⟩ (aW ⟨rfl,trivial⟩ (aW ⟨rfl,trivial⟩ (aW ⟨rfl,trivial⟩ (aW ⟨rfl,trivial⟩ (aG))))))) (fV mixed rfl (by kernel_rfl) (aJ (aJ (aJ (aJ (aJ (aJ (aJ (aJ (aJ (aJ (aJ (aJ (aJ (aJ (aJ (aJ (aJ (aJ (aJ (aJ (aJ (aJ (aJ (aJ (aJ (aJ (aJ (aJ (aJ (aJ (aJ (C.F_new (fun B15=>aV ?_))))))))))))))))))))))))))))))))))))
   refine gQ Z_45 (Ht rfl) (Ht rfl) rfl (i:=8) rfl (aK rfl) rfl rfl (eX (cK (T_sub (E':=[(6,_),(7,_),(8,_),(10,_),(14,_),(15,_)]) (aQ rfl (aQ rfl (aQ rfl (aQ rfl (aQ rfl (aQ rfl aX)))))) (cY (ro rfl (eJ A_45 Z_45 (Ht rfl) (i:=7) rfl rfl rfl) (ro rfl (op_iface mkif_45 (Ht rfl)) (ro rfl (eJ A_45 Z_45 (Ht rfl) (i:=8) rfl rfl rfl) (ro rfl (op_invoke meth_45_Div Tryz.call59 (c_Div (x:=facX s c g) (y:=gm s 1 0 * (gm s 1 0).conj * (t0 * pkv z ((1:Nat):Int)) * (oneQ - g * g.conj)) (by omega)) (Ht rfl) ⟨(Ht rfl),trivial⟩) ?_))))))))
   refine rm rfl (ro rfl (dK (Ht rfl) rfl) (ro rfl (dK (Ht rfl) rfl) (rn rfl (eW (Ts:=[Is (.bool false),Is (.slice none 0 0),Is (.bool false),Is (.slice none 0 0),Is (.slice none 0 0)]) O_45 rfl (fun V=>aW ⟨rfl,trivial⟩ (aW ⟨rfl,trivial⟩ (aW ⟨rfl,trivial⟩ (aW ⟨rfl,trivial⟩ (aW ⟨rfl,trivial⟩ (aG))))))) fun B16=>(gQ Z_45 (Ht rfl) (Ht rfl) rfl (i:=9) rfl (aK rfl) rfl rfl (ra rfl (eX (cK (cK (T_sub (E':=[(6,_),(7,_),(8,_),(10,_),(16,_),(17,_)]) (aQ rfl (aQ rfl (aQ rfl (aQ rfl (aQ rfl (aQ rfl aX)))))) ?_)))))))))
   refine cY (rm rfl (ro rfl (op_neq (Ht rfl) cV) (eX (dQ (Ht rfl) (fun hk=>?_) (fun hk=>?_)))))
   ·rw [hpd] at hk
    have hk2 : facD z s g t0 = Qi.zero := by
     by_cases h:facD z s g t0 = Qi.zero
     ·exact h
     ·rw [if_neg h] at hk; exact absurd hk (by decide)
    have he:facR z s c g t0 = (Qi.zero,3):=by rw [facR,if_neg hb2,if_neg hd3,if_pos hk2]
    refine ts (ro rfl (eJ A_45 Z_45 (Ht rfl) (i:=4) rfl rfl rfl) (gQ Z_45 (Ht rfl) (Ht rfl) rfl (i:=3) rfl (aK rfl) rfl rfl (ro rfl (cQ (cJ 3)) (eX (T_ret2 rfl (fX (fK A_45 Z_45 rfl (i:=3) rfl rfl) ?_) (fX (eU rfl) ?_))))))
    ·exact (fun v V k=>by rw [he]; exact num_zero v V k)
    ·exact (fun v V k=>by rw [he]; exact k)
   ·have hk2 : ¬ facD z s g t0 = Qi.zero := fun h => by rw [hpd, if_pos h] at hk; exact absurd hk (by decide)
    have he:facR z s c g t0 = (oneQ + facX s c g / facD z s g t0,0):=by rw [facR,if_neg hb2,if_neg hd3,if_neg hk2]
    have hv:oneQ + facX s c g / (gm s 1 0 * (gm s 1 0).conj * (t0 * pkv z ((1:Nat):Int)) * (oneQ - g * g.conj)) = (facR z s c g t0).1:=by rw [he,hpd]
    refine cU (ts (ro rfl (eJ A_45 Z_45 (Ht rfl) (i:=5) rfl rfl rfl) (ro rfl (op_iface mkif_45 (Ht rfl)) (ro rfl (eJ A_45 Z_45 (Ht rfl) (i:=9) rfl rfl rfl) (ro rfl (op_invoke meth_45_Add Tryz.call68 (c_Add (by omega)) (Ht rfl) ⟨(Ht rfl),trivial⟩) (gQ Z_45 (Ht rfl) (Ht rfl) rfl (i:=3) rfl (aK rfl) rfl rfl (ro rfl (cQ (cJ 0)) (eX (T_ret2 rfl (fX (fK A_45 Z_45 rfl (i:=3) rfl rfl) ?_) (fX (eU rfl) ?_))))))))))
    ·exact (num_of hv)
    ·exact (fun v V k=>by rw [he]; exact k)
end
section
open Go Go.RowKit
theorem c_Mul64 {n:Nat} (h:n < 4294967296):Fun Tryz.prog 276 [NT .u64 1,NT .u64 n] (TupT [NT .u64 0,NT .u64 n]):=by
 refine Fun.intro Tryz.func276 rfl Tryz.ntmps276 rfl (fun cx=>(ts (ro rfl (cQ (cJ 0)) (ro rfl (cQ (cJ 0)) (eX (ts (rm rfl (ro rfl (OpTy.nat (op_andN rfl (Ht rfl) (cJ 4294967295) (by show _ < 18446744073709551616; first | omega | (simp only [lim]; omega)) (by show _ < 18446744073709551616; first | omega | (simp only [lim]; omega))) (show (1:Nat) &&& 4294967295 = 1 by decide)) (ra rfl (eX (ts (rm rfl (ro rfl (OpTy.nat (op_shrN (Ht rfl) (cJ 32) (by decide)) (show (1:Nat) / 2 ^ 32 = 0 by decide)) (ra rfl (eX (ts (rm rfl (ro rfl (OpTy.nat (op_andN rfl (Ht rfl) (cJ 4294967295) (by show _ < 18446744073709551616; first | omega | (simp only [lim]; omega)) (by show _ < 18446744073709551616; first | omega | (simp only [lim]; omega))) (show n &&& 4294967295 = n from (Nat.and_two_pow_sub_one_eq_mod n 32).trans (Nat.mod_eq_of_lt h))) ?_))))))))))))))))))
 refine ra rfl (eX (ts (rm rfl (ro rfl (OpTy.nat (op_shrN (Ht rfl) (cJ 32) (by decide)) (show n / 2 ^ 32 = 0 from Nat.div_eq_of_lt h)) (ra rfl (eX (ts (rm rfl (rm rfl (ro rfl (OpTy.nat (op_mulN (Ht rfl) (Ht rfl) (by show _ < 18446744073709551616; first | omega | (simp only [lim]; omega))) (Nat.one_mul n)) (ra rfl (eX (ts (rm rfl (rm rfl (ro rfl (OpTy.nat (op_mulN (Ht rfl) (Ht rfl) (by show _ < 18446744073709551616; first | omega | (simp only [lim]; omega))) (Nat.zero_mul n)) (rm rfl (ro rfl (OpTy.nat (op_shrN (Ht rfl) (cJ 32) (by decide)) (show n / 2 ^ 32 = 0 from Nat.div_eq_of_lt h)) ?_))))))))))))))))))
 refine ro rfl (dV (Ht rfl) (Ht rfl) (by show _ < 18446744073709551616; first | omega | (simp only [lim]; omega))) (ra rfl (eX (ts (rm rfl (ro rfl (OpTy.nat (op_andN rfl (Ht rfl) (cJ 4294967295) (by show _ < 18446744073709551616; first | omega | (simp only [lim]; omega)) (by show _ < 18446744073709551616; first | omega | (simp only [lim]; omega))) (show (0 + 0:Nat) &&& 4294967295 = 0 by decide)) (ra rfl (eX (ts (rm rfl (ro rfl (OpTy.nat (op_shrN (Ht rfl) (cJ 32) (by decide)) (show (0 + 0:Nat) / 2 ^ 32 = 0 by decide)) (ra rfl (eX (ts (rm rfl (rm rfl (rm rfl ?_))))))))))))))))
 refine ro rfl (OpTy.nat (op_mulN (Ht rfl) (Ht rfl) (by show _ < 18446744073709551616; first | omega | (simp only [lim]; omega))) (show (1 * 0:Nat) = 0 by decide)) (ro rfl (dV (Ht rfl) (Ht rfl) (by show _ < 18446744073709551616; first | omega | (simp only [lim]; omega))) (ra rfl (eX (ts (rm rfl (rm rfl (ro rfl (OpTy.nat (op_mulN (Ht rfl) (Ht rfl) (by show _ < 18446744073709551616; first | omega | (simp only [lim]; omega))) (show (0 * 0:Nat) = 0 by decide)) (rm rfl (ro rfl (dV (Ht rfl) (Ht rfl) (by show _ < 18446744073709551616; first | omega | (simp only [lim]; omega))) ?_)))))))))
 refine rm rfl (ro rfl (OpTy.nat (op_shrN (Ht rfl) (cJ 32) (by decide)) (show (0 + 0:Nat) / 2 ^ 32 = 0 by decide)) (ro rfl (dV (Ht rfl) (Ht rfl) (by show _ < 18446744073709551616; first | omega | (simp only [lim]; omega))) (ra rfl (eX (ts (rm rfl (rm rfl (ro rfl (OpTy.nat (op_mulN (Ht rfl) (Ht rfl) (by show _ < 18446744073709551616; first | omega | (simp only [lim]; omega))) (Nat.one_mul n)) (ra rfl (eX (T_ret2 rfl (fX (eU rfl) ?_) (eU rfl))))))))))))
 exact (nt_of (by decide))
theorem c_bMul {n:Nat} (h:n < 4294967296):Fun Tryz.prog 251 [NT .u64 1,NT .u64 n] (TupT [NT .u64 0,NT .u64 n]):=by
 refine Fun.intro Tryz.func251 rfl Tryz.ntmps251 rfl (fun cx=>(ts (ro rfl (cQ (cJ 0)) (ro rfl (cQ (cJ 0)) (eX (cK (dQ cV (fun hf=>?_) (fun hf=>?_))))))))
 ·exact absurd hf (by decide)
 ·refine cU (ts (rm rfl (rm rfl (ro rfl (cZ Tryz.call276 (c_Mul64 h) ⟨(Ht rfl), (Ht rfl), trivial⟩) (rm rfl (ro rfl (dK (Ht rfl) rfl) (ro rfl (dK (Ht rfl) rfl) (ra rfl (ra rfl (eX (ts (rm rfl (rm rfl (ra rfl (ra rfl (eX ?_))))))))))))))))
  exact T_ret2 rfl (eU rfl) (eU rfl)
theorem c_RepO {m:Nat} (h1:1 ≤ m) (hm:m ≤ 1000):FunO Tryz.prog 196 [NumsT [Qi.zero],NT .i64 m] [] ({v:Value // exactH v}) (fun v=>Is v.1) (fun v=>[rowO 45 5 v.1 ((tab m fun _=>Qi.zero).map NumT)]) (fun _=>True):=by
 refine FunO.intro Tryz.func196 rfl Tryz.ntmps196 rfl (fun cx Z=>(ts (ro rfl (cQ cV) (eX (cK (ts (rm rfl (ro rfl (gX (Ht rfl) (cJ 0)) (eX (dQ (Ht rfl) (fun h0=>?_) (fun h0=>?_)))))))))))
 ·simp only [decide_eq_true_eq] at h0
  omega
 ·refine cU (ts (rm rfl (ro rfl (dG U_27 (Ht rfl) (show (([Qi.zero].map NumT).length : Int) = ((1 : Nat) : Int) from rfl)) (ro rfl (gZ U_3 U_257 (Ht rfl) (by show _ < 18446744073709551616; first | omega | (simp only [lim]; omega))) (rm rfl (ro rfl (gZ U_3 U_257 (Ht rfl) (by show _ < 18446744073709551616; first | omega | (simp only [lim]; omega))) (ro rfl (cZ Tryz.call251 (c_bMul (by omega)) ⟨(Ht rfl), (Ht rfl), trivial⟩) (rm rfl (ro rfl (dK (Ht rfl) rfl) (ro rfl (dK (Ht rfl) rfl) ?_))))))))))
  refine ra rfl (ra rfl (eX (cK (ts (rm rfl (ro rfl (op_gtrN (Ht rfl) (cJ 0)) (rm rfl (fQ rfl rfl (eK rfl rfl (Ht rfl) (fun h=>cX (Ht rfl))) (fQ rfl rfl (eK rfl rfl (Ht rfl) (fun h=>op_gtrN (fJ rfl h) (cJ 9223372036854775807))) (ro rfl (op_or (Ht rfl) (fun h=>(fJ rfl h))) (eX (dQ (Ht rfl) (fun h2=>?_) (fun h2=>?_)))))))))))))
  ·simp only [Bool.or_eq_true, decide_eq_true_eq] at h2
   omega
  ·refine cU (ts (rm rfl (ro rfl (gZ U_257 U_3 (Ht rfl) (by show _ < 9223372036854775808; first | omega | (simp only [lim]; omega))) (R_makeE (T := NumT Qi.zero) (i := Tryz.t45) und_27 info_45 rfl rfl (Ht rfl) rfl num_zero_p (El.ag rfl) (by show 88 * _ ≤ _; omega) (by omega) rfl (fun B30 hB30 => (ra rfl (eX (ts (rm rfl (rm rfl (ro rfl (op_copyV (q := 1) (T := NumT Qi.zero) U_27 Z_45 (i := 1) rfl (Ht rfl) (Ht rfl) (by decide) (El.ag rfl) (by omega)) (ra rfl (eX (cK (eG ?_)))))))))))))))
   refine T_loop (fun (k : Nat) => 1 ≤ k ∧ k ≤ m) (fun (k : Nat) => m - k) (fun (k : Nat) => [(7, Is B30), (8, NT .i64 k)]) (fun (k : Nat) => [Z, rowO 45 5 B30 (List.replicate m (NumT Qi.zero))]) (Nat.min 1 m) ⟨by show 1 ≤ min 1 m; omega, by show min 1 m ≤ m; omega⟩
    (aQ rfl (aQ rfl aX)) (HSub.refl _) (fun k ⟨hk1,hk⟩=>?_)
   refine cK (ts (rm rfl (rm rfl (ro rfl (op_lenO U_27 (Ht rfl) (i:=1) rfl (show ((List.replicate m (NumT Qi.zero)).length:Int) = ((m:Nat):Int) by simp)) (ro rfl (gX (Ht rfl) (Ht rfl)) (eX (dQ (Ht rfl) (fun hd=>?_) (fun hd=>?_))))))))
   ·simp only [decide_eq_true_eq] at hd
    have hlen:(List.replicate m (NumT Qi.zero)).length = m:=by simp
    have h5:Nat.min k ((List.replicate m (NumT Qi.zero)).length - k) = min k (m - k):=by rw [hlen]
    refine cU (eG (fZ (m:=8) (dp 8 rfl (cX (Ht rfl)) (dp 7 rfl (cX (Ht rfl)) (dp 8 rfl (cX (Ht rfl)) (dqq 39 1 40 2 rfl (op_secLo U_27 Z_45 (Ht rfl) (Ht rfl) rfl (i:=1) rfl (by rw [hlen]; exact hd)) ?_))))))
    refine dp 7 rfl (cX (Ht rfl)) (dp 8 rfl (cX (Ht rfl)) (dqq 42 4 43 5 rfl (op_secHi U_27 Z_45 (Ht rfl) (Ht rfl) rfl (i:=1) rfl (by rw [hlen]; omega) (by rw [hlen]; omega)) ?_))
    refine dqq 41 3 44 6 rfl (op_copySec (T:=NumT Qi.zero) U_27 Z_45 (i:=1) rfl (Ht rfl) (Ht rfl)) (fV mixed rfl (by kernel_rfl) (aJ (aJ (aJ (aJ (aJ (aJ (aJ (aJ (aV (ro rfl (dV (Ht rfl) (Ht rfl) (by show _ < 9223372036854775808; omega)) (ra rfl (eX (T_blk (fU (k + Nat.min k ((List.replicate m (NumT Qi.zero)).length - k)) ⟨by omega,by omega⟩ (by omega) (aQ rfl (aQ rfl aX)) (HSub.refl _))))))))))))))))
   ·refine gV rfl (ts (rm rfl (ra rfl (eX ?_))))
    exact T_retO ⟨B30,hB30⟩ trivial [0,1] ⟨⟨_,rfl,fun _ _ _ h=>h⟩,⟨_,rfl,(rowO_of (by rw [tab_const,rep_mapF]))⟩,trivial⟩ (by decide) (rvs1 rfl (eU rfl))
end
section
open Go Go.RowKit
theorem bld_77_0_1 {n : Nat} {E : Env} {H : Hp} {d : Option Tmp} {t : TypeId} {pos : String} {af : Array Edge} {g : Option (Nat × Bool)} {x0 x1 : Operand} {T0 T1 T2 : Ty} (h0 : Has E x0 (AggT [T0, T1])) [s1 : Shape T2 1 false] (h1 : Has E x1 T2) :
  OpTy Tryz.prog n E H ⟨d,.build 77 #[(0,x0),(1,x1)],t,pos,af,g⟩ (AggT [T0,T1,T2]) :=
 op_build (parts := [(0, x0), (1, x1)]) fun a V w hs => by
  obtain ⟨v0,e0,c0⟩:=h0 n V a hs
  obtain ⟨c0_0,c0_1,rfl⟩:∃ c0_0 c0_1,v0 = [c0_0,c0_1]:=list2 (by simpa using c0.length)
  have p1:=h1 n V a hs
  generalize e1:a.eval x1 = v1 at p1
  have q1:=(s1.ok v1 V p1).2.2 rfl
  refine ⟨.agg #[c0_0,c0_1,v1],?_,[c0_0,c0_1,v1],rfl,aW (c0.at (i:=0) rfl rfl) (aW (c0.at (i:=1) rfl rfl) (aW (⟨p1,q1⟩) (aG)))⟩
  simp [e0,e1,Instr.build,Instr.fill,Sem.run_bind,Result.andThen,cells_agg,q1.cells,O_77,U_77,Z_28,Z_30]
end
section
open Go Go.RowKit
theorem c_zerosO {n:Nat} (hn:n ≤ 1000):FunO Tryz.prog 134 [NT .i64 n,NT .i64 n] [] (Nat) (fun B=>Is (.slice (some ⟨B,0,none⟩) n n)) (fun B=>[matP exactH B 27 45 5 (FRow NumT (zeroM n n))]) (fun _=>True):=by
 refine FunO.intro Tryz.func134 rfl Tryz.ntmps134 rfl (fun cx Z=>(ts (ro rfl (cQ cV) (eX (ts (rm rfl (rn rfl (new_make (T:=Is (.slice none 0 0)) (i:=Tryz.t27) V_28 info_27 rfl rfl (Ht rfl) rfl (fun _=>rfl) trivial (by show 24 * _ ≤ _; omega) (by omega)) fun B8=>(ra rfl (eX (cK (ts (rm rfl (ro rfl (op_lenI U_28 (Ht rfl)) (ro rfl (cX (cJ 0)) (eX (eG (T_conv 1 rfl (mat_nilE exactH ⟨none,0,rfl⟩ (e:=45) (s:=5)) ?_)))))))))))))))))
 refine T_loop (fun (k : Nat) => k ≤ n) (fun (k : Nat) => n - k) (fun (k : Nat) => [(1, NT .i64 n), (5, Is (.slice (some ⟨B8, 0, none⟩) n n)), (10, NT .i64 n), (11, NT .i64 k)]) (fun (k : Nat) => [Z, matP exactH B8 27 45 5 (FRow NumT (mixT (fun _ => (tab n fun _ => Qi.zero)) [] n k))]) 0 (Nat.zero_le _)
  (aQ rfl (aQ rfl (aQ rfl (aQ rfl aX)))) (aU (fun _ _ _ h=>h) (aU (matO_of (by rw [← mix_zero,tab_const]; exact rep_FRow NumT n)) aY)) (fun k hk=>?_)
 refine ts (ro rfl (gX (Ht rfl) (Ht rfl)) (eX (cK (dQ (Ht rfl) (fun hd=>?_) (fun hd=>?_)))))
 ·simp only [decide_eq_true_eq] at hd
  refine T_focusE 1 (k) rfl (frow_mix hd) (fun v hv=>(cU (cK (eG (ts (rm rfl (ra rfl (eX (cY (rm rfl (rm rfl (ro rfl (cZ K_86 (c_Int (n:=0) (by decide) (by decide)) ⟨(cJ 0),trivial⟩) (ro rfl (cZ K_142 c_of ⟨(Ht rfl),trivial⟩) (ro rfl (op_bslice (xs:=[.tmp 17]) U_27 Z_45 O_45 (cW (Ht rfl) cG) rfl rfl rfl) (rm rfl (R_call0 Tryz.call196 (c_RepO (m:=n) (by omega) hn) ⟨(Ht rfl),(Ht rfl),trivial⟩ rfl (fun B20 _=>?_)))))))))))))))))
  have hB20:=B20.2
  refine ro rfl (fY U_28 Z_27 (Ht rfl) (Ht rfl) rfl (by omega) (by rw [Nat.mul_one,Nat.zero_add])) ?_
  refine R_stH Z_27 (Ht rfl) (Ht rfl) (by simp only [FRow,List.length_map,mix_len]; omega) (j:=1) (l:=3) rfl rfl rfl ?_
  refine eX (T_blk (T_unfocus 1 3 rfl rfl (by decide) (by simp only [FRow,List.length_map,mix_len]; omega) ?_))
  refine cY (ro rfl (dV (Ht rfl) (cJ 1) (by show _ < 9223372036854775808; first | omega | (simp only [lim]; omega))) (rm rfl (eX (T_keep [0,1] rfl (by decide) (fU (k + 1) hd (by omega) (aQ rfl (aQ rfl (aQ rfl (aQ rfl aX)))) (aU (fun _ _ _ h=>h) (aU (matO_of (by rw [set_FRow,← mix_set (f:=fun _=>(tab n fun _=>Qi.zero))])) aY)))))))
 ·simp only [decide_eq_false_iff_not] at hd
  obtain rfl:n = k:=Nat.le_antisymm (by omega) hk
  refine gV rfl (ts (rm rfl (ra rfl (eX ?_))))
  exact T_retO B8 trivial [0,1] ⟨⟨_,rfl,fun _ _ _ h=>h⟩,⟨_,rfl,(matO_of (by rw [mix_fin]; rfl))⟩,trivial⟩ (by decide) (rvs1 rfl (eU rfl))
theorem c_thermO {z:List Qi} {s:List (List Qi)} {L:Nat} (hz:FitL z L) (hs:FitM s L) (hL1:1 ≤ L) (hL:L ≤ 4000) (hsh:Shp s z.length z.length) (hl1:1 ≤ z.length) (hl:z.length ≤ 8):FunO Tryz.prog 219 [NetT z s] [] (Nat) (fun B=>Is (.slice (some ⟨B,0,none⟩) z.length z.length)) (fun B=>[matP exactH B 27 45 5 (FRow NumT (ownM z s))]) (fun _=>True):=by
 have hs1:=hs.le (Nat.le_refl L)
 have hsl:=hsh.1
 have hD:=diag_shp z
 have hDf:=diag_fit hz hL1
 have hXf:=carM_fit hs hDf hL1 (by rw [hD.1]; exact hl)
 have hX:Shp (carM s (diagM z)) s.length s.length:=carM_shp
 refine FunO.intro Tryz.func219 rfl Tryz.ntmps219 rfl (fun cx Z=>(ts (rn rfl (fG (Ht rfl)) fun B1=>(ro rfl (cQ cV) (eX (cK (fZ (m:=3) (dp 1 rfl (eJ A_30 Z_30 (Ht rfl) (i:=1) rfl rfl rfl) (dq 10 0 rfl (cZ K_37 c_Ports ⟨(Ht rfl),trivial⟩) (dp 1 rfl (eJ A_30 Z_30 (Ht rfl) (i:=1) rfl rfl rfl) (fV mixed rfl (by kernel_rfl) (aJ (aJ (aJ (aV (ro rfl (cZ K_37 c_Ports ⟨(Ht rfl),trivial⟩) (R_call0 Tryz.call134 (c_zerosO (n:=z.length) (by omega)) ⟨(Ht rfl),(Ht rfl),trivial⟩ rfl (fun B14 _=>?_))))))))))))))))))
 refine ra rfl (eX (cK (ts (ro rfl (eJ A_30 Z_30 (Ht rfl) (i:=1) rfl rfl rfl) (ro rfl (cZ Tryz.call185 (c_refs (by omega)) ⟨(Ht rfl),trivial⟩) (ro rfl (dG U_27 (Ht rfl) len_map) (ro rfl (cX (cJ 0)) (eX (eG ?_)))))))))
 refine T_loop (fun (i : Nat) => i ≤ z.length) (fun (i : Nat) => z.length - i) (fun (i : Nat) => [(1, PtrB B1 0), (3, Is (.slice (some ⟨B14, 0, none⟩) z.length z.length)), (16, NumsT z), (17, NT .i64 z.length), (18, NT .i64 i)]) (fun (i : Nat) => [Z, box B1 30 [NumsT z, NumM s], matP exactH B14 27 45 5 (FRow NumT (mixT (fun i => (tab z.length fun _ => Qi.zero).set i (gv z i)) (tab z.length fun _ => Qi.zero) z.length i))]) 0 (Nat.zero_le _)
  (aQ rfl (aQ rfl (aQ rfl (aQ rfl (aQ rfl aX))))) (aU (fun _ _ _ h=>h) (aU (fun _ _ _ h=>h) (aU (matO_of (by rw [zeroM,mix_zero])) aY))) (fun i hi=>?_)
 refine ts (ro rfl (gX (Ht rfl) (Ht rfl)) (eX (cK (dQ (Ht rfl) (fun hd=>?_) (fun hd=>?_)))))
 ·simp only [decide_eq_true_eq] at hd
  have hzl:=tab_len z.length fun _=>Qi.zero
  refine T_focusE 2 (i) rfl (frow_mix hd) (fun v hv=>(cU (cK (eG (ts (rm rfl (ro rfl (dZ U_27 Z_45 (Ht rfl) (Ht rfl) rfl (dY (dU (d:=Qi.zero) hd))) (ro rfl (dJ A_45 Z_45 (Ht rfl)) (rn rfl (eW (Ts:=[Is (.bool false),Is (.slice none 0 0),Is (.bool false),Is (.slice none 0 0),Is (.slice none 0 0)]) O_45 rfl (fun V=>aW ⟨rfl,trivial⟩ (aW ⟨rfl,trivial⟩ (aW ⟨rfl,trivial⟩ (aW ⟨rfl,trivial⟩ (aW ⟨rfl,trivial⟩ (aG))))))) fun B5=>(ra rfl ?_))))))))))
  refine gQ Z_45 (Ht rfl) (Ht rfl) rfl (i:=4) rfl (aK rfl) rfl rfl (eX (fZ (m:=7) (dp 3 rfl (cX (Ht rfl)) (dp 4 rfl (cX (Ht rfl)) (dqq 23 0 24 1 rfl (fY U_28 Z_27 (Ht rfl) (Ht rfl) rfl (by omega) (by rw [Nat.mul_one,Nat.zero_add])) ?_)))))
  refine dq 25 2 rfl (op_ldH A_27 Z_27 (Ht rfl) (j:=2) rfl) (dp 4 rfl (cX (Ht rfl)) (dp 5 rfl (eJ A_45 Z_45 (Ht rfl) (i:=4) rfl rfl rfl) (dq 28 5 rfl (cZ K_142 c_of ⟨(Ht rfl),trivial⟩) (fV mixed rfl (by kernel_rfl) (aJ (aJ (aJ (aJ (aJ (aJ (aJ (aV (ro rfl (op_idxO U_27 Z_45 (Ht rfl) (Ht rfl) rfl (i:=3) rfl (by simp only [List.length_map,tab_len]; omega) rfl) ?_)))))))))))))
  refine R_stO Z_45 (Ht rfl) (Ht rfl) (El.ag rfl) (i:=3) rfl rfl (by simp only [List.length_map,tab_len]; omega) rfl ?_
  refine eX (T_blk (T_unfocus 2 3 rfl rfl (by decide) (by simp only [FRow,List.length_map,mix_len]; omega) ?_))
  refine cY (ro rfl (dV (Ht rfl) (cJ 1) (by show _ < 9223372036854775808; first | omega | (simp only [lim]; omega))) (rm rfl (eX (T_keep [0,1,2] rfl (by decide) (fU (i + 1) hd (by omega) (aQ rfl (aQ rfl (aQ rfl (aQ rfl (aQ rfl aX))))) (aU (fun _ _ _ h=>h) (aU (fun _ _ _ h=>h) (aU (matO_of (by rw [← mix_set (f:=(fun i=>(tab z.length fun _=>Qi.zero).set i (gv z i))),← set_FRow,← set_mapF])) aY))))))))
 ·simp only [decide_eq_false_iff_not] at hd
  obtain rfl:i = z.length:=Nat.le_antisymm hi (by omega)
  rw [mix_fin]
  refine gV rfl (ts (ro rfl (eJ A_30 Z_30 (Ht rfl) (i:=1) rfl rfl rfl) (ro rfl (cZ Tryz.call141 (c_scat hsh hl) ⟨(Ht rfl),trivial⟩) (rm rfl (R_lend Tryz.call143 (c_carO (p:=s) (c:=diagM z) (n:=z.length) (m:=z.length) (L:=L) hsh hD hs hDf hL1 (by omega) hl1 hl1 hl hl) (j:=2) (tt:=34) rfl rfl (frz_matF (s:=5) (M:=diagM z) hD.1.symm) noiMat (fun _=>inferInstance) (fun _ B hB=>by simp only [List.mem_singleton] at hB; subst hB; exact sinsMatF) ⟨(Ht rfl),(Ht rfl),trivial⟩ rfl (fun B35 _=>(ra rfl (eX (cK (cK (gJ (i:=3) (tt:=6) rfl rfl (frz_matF (s:=5) (M:=carM s (diagM z)) (hX.1.trans hsl).symm) ?_)))))))))))
  refine cY (rm rfl (ro rfl (dG U_28 (Ht rfl) len_map) (ro rfl (cX (cJ 0)) (eX (eG (T_keep [0,2] rfl (by decide) ?_))))))
  refine T_loop (fun (i : Nat) => i ≤ z.length) (fun (i : Nat) => z.length - i) (fun (i : Nat) => [(3, Is (.slice (some ⟨B14, 0, none⟩) z.length z.length)), (36, NumM (carM s (diagM z))), (37, NT .i64 z.length), (38, NT .i64 i)]) (fun (i : Nat) => [Z, matP exactH B14 27 45 5 (FRow NumT (mixG (fun i => tab z.length fun j => gm (diagM z) i j - gm (carM s (diagM z)) i j) (fun i => tab z.length fun j => gm (diagM z) i j) z.length i))]) 0 (Nat.zero_le _)
   (aQ rfl (aQ rfl (aZ rfl (nt_of (hX.1.trans hsl)) (aQ rfl aX)))) (aU (fun _ _ _ h=>h) (aU (matO_of (by rw [← mixG_zero]; exact congrArg _ (mat_tab hD))) aY)) (fun i hi=>?_)
  refine ts (ro rfl (gX (Ht rfl) (Ht rfl)) (eX (cK (dQ (Ht rfl) (fun he=>?_) (fun he=>?_)))))
  ·simp only [decide_eq_true_eq] at he
   have hxr:=hX.row (i:=i) (by omega)
   refine T_focusE 1 (i) rfl (frow_mixG he) (fun v hv=>(cU (cK (eG (ts (rm rfl (ro rfl (dZ U_28 Z_27 (Ht rfl) (Ht rfl) rfl (dY (dU (d:=[]) (by rw [hX.1]; omega)))) ?_)))))))
   refine ro rfl (dJ A_27 Z_27 (Ht rfl)) (ra rfl (ra rfl (eX (ts (rm rfl (ro rfl (dG U_27 (Ht rfl) len_map) (ro rfl (cX (cJ 0)) (eX (eG ?_)))))))))
   refine T_loop (fun (j : Nat) => j ≤ z.length) (fun (j : Nat) => z.length - j) (fun (j : Nat) => [(3, Is (.slice (some ⟨B14, 0, none⟩) z.length z.length)), (7, NT .i64 i), (8, NumsT ((carM s (diagM z)).getD i [])), (36, NumM (carM s (diagM z))), (37, NT .i64 z.length), (38, NT .i64 i), (44, NT .i64 z.length), (45, NT .i64 j)]) (fun (j : Nat) => [Z, matQ exactH B14 27 45 5 (FRow NumT (mixG (fun i => tab z.length fun j => gm (diagM z) i j - gm (carM s (diagM z)) i j) (fun i => tab z.length fun j => gm (diagM z) i j) z.length i)) i v, rowO 45 5 v ((mixG (fun j => gm (diagM z) i j - gm (carM s (diagM z)) i j) (fun j => gm (diagM z) i j) z.length j).map NumT)]) 0 (Nat.zero_le _)
    (aQ rfl (aQ rfl (aQ rfl (aQ rfl (aQ rfl (aQ rfl (aZ rfl (nt_of (hxr.trans hsl)) (aQ rfl aX)))))))) (aU (fun _ _ _ h=>h) (aU (fun _ _ _ h=>h) (aU (rowO_of (by rw [← mixG_zero])) aY))) (fun j hj=>?_)
   refine ts (ro rfl (gX (Ht rfl) (Ht rfl)) (eX (cK (dQ (Ht rfl) (fun hf=>?_) (fun hf=>?_)))))
   ·simp only [decide_eq_true_eq] at hf
    have hrl:=mixG_len (fun j=>gm (diagM z) i j - gm (carM s (diagM z)) i j) (fun j=>gm (diagM z) i j) z.length j
    haveI f1:FitC (gm (diagM z) i j) L:=hDf.get hL1 i j
    haveI f2:FitC (gm (carM s (diagM z)) i j) (200 * L + 300):=hXf.get (by omega) i j
    refine cU (cK (eG (ts (rm rfl (ra rfl (eX (fZ (m:=18) (dp 3 rfl (cX (Ht rfl)) (dp 7 rfl (cX (Ht rfl)) (dqq 48 0 49 1 rfl (fY U_28 Z_27 (Ht rfl) (Ht rfl) rfl (by omega) (by rw [Nat.mul_one,Nat.zero_add])) ?_))))))))))
    refine dq 50 2 rfl (op_ldH A_27 Z_27 (Ht rfl) (j:=1) rfl) (dp 9 rfl (cX (Ht rfl)) (dp 3 rfl (cX (Ht rfl)) (dp 7 rfl (cX (Ht rfl)) (dqq 53 5 54 6 rfl (fY U_28 Z_27 (Ht rfl) (Ht rfl) rfl (by omega) (by rw [Nat.mul_one,Nat.zero_add])) ?_))))
    refine dq 55 7 rfl (op_ldH A_27 Z_27 (Ht rfl) (j:=1) rfl) (dp 9 rfl (cX (Ht rfl)) (dqq 56 8 57 9 rfl (op_idxO U_27 Z_45 (Ht rfl) (Ht rfl) rfl (i:=2) rfl (by simp only [List.length_map,hrl]; omega) rfl) ?_))
    refine dq 58 10 rfl (op_ldO A_45 Z_45 (Ht rfl) (i:=2) rfl rfl (dY (mixG_get hf))) (dq 59 11 rfl (op_iface mkif_45 (Ht rfl)) (dp 8 rfl (cX (Ht rfl)) (dp 9 rfl (cX (Ht rfl)) (dqq 61 13 62 14 rfl (dZ U_27 Z_45 (Ht rfl) (Ht rfl) rfl (dY (dU (d:=Qi.zero) (by rw [hxr]; omega)))) ?_))))
    refine dq 63 15 rfl (dJ A_45 Z_45 (Ht rfl)) (dqq 60 12 64 16 rfl (op_invoke meth_45_Sub K_66 (c_Sub (by omega)) (Ht rfl) ⟨(Ht rfl),trivial⟩) (fV mixed rfl (by kernel_rfl) (aJ (aJ (aJ (aJ (aJ (aJ (aJ (aJ (aJ (aJ (aJ (aJ (aJ (aJ (aJ (aJ (aJ (aJ (aV (ro rfl (op_idxO U_27 Z_45 (Ht rfl) (Ht rfl) rfl (i:=2) rfl (by simp only [List.length_map,hrl]; omega) rfl) ?_))))))))))))))))))))))
    refine R_stO Z_45 (Ht rfl) (Ht rfl) (El.ag rfl) (i:=2) rfl rfl (by simp only [List.length_map,hrl]; omega) rfl ?_
    refine eX (T_blk (cY (ro rfl (dV (Ht rfl) (cJ 1) (by show _ < 9223372036854775808; first | omega | (simp only [lim]; omega))) (rm rfl (eX (fU (j + 1) hf (by omega) (aQ rfl (aQ rfl (aQ rfl (aQ rfl (aQ rfl (aQ rfl (aQ rfl (aQ rfl aX)))))))) (aU (fun _ _ _ h=>h) (aU (fun _ _ _ h=>h) (aU (rowO_of (by rw [set_mapF,← mixG_set (f:=fun j=>gm (diagM z) i j - gm (carM s (diagM z)) i j)])) aY)))))))))
   ·simp only [decide_eq_false_iff_not] at hf
    obtain rfl:j = z.length:=Nat.le_antisymm hj (by omega)
    refine gV rfl (T_blk (T_unfocus 1 2 rfl rfl (by decide) (by simp only [FRow,List.length_map,mixG_len]; omega) ?_))
    refine cY (ro rfl (dV (Ht rfl) (cJ 1) (by show _ < 9223372036854775808; first | omega | (simp only [lim]; omega))) (rm rfl (eX (T_keep [0,1] rfl (by decide) (fU (i + 1) he (by omega) (aQ rfl (aQ rfl (aQ rfl (aQ rfl aX)))) (aU (fun _ _ _ h=>h) (aU (matO_of (by rw [set_FRow,mixG_fin,← mixG_set (f:=(fun i=>tab z.length fun j=>gm (diagM z) i j - gm (carM s (diagM z)) i j))])) aY)))))))
  ·simp only [decide_eq_false_iff_not] at he
   obtain rfl:i = z.length:=Nat.le_antisymm hi (by omega)
   refine gV rfl (ts (rm rfl (ra rfl (eX ?_))))
   exact T_retO B14 trivial [0,1] ⟨⟨_,rfl,fun _ _ _ h=>h⟩,⟨_,rfl,(matO_of (by rw [mixG_fin]; rfl))⟩,trivial⟩ (by decide) (rvs1 rfl (eU rfl))
theorem c_Own {z:List Qi} {s:List (List Qi)} {t:Qi} {L:Nat} (hz:FitL z L) (hs:FitM s L) (ht:FitC t L) (hL1:1 ≤ L) (hL:L ≤ 4000) (hsh:Shp s z.length z.length) (hl1:1 ≤ z.length) (hl:z.length ≤ 8):Fun Tryz.prog 128 [NetT z s,NumT t] (TupT [NoisyT (okL (wrmE t) z) (okL (wrmE t) s) (okL (wrmE t) (scaM t (ownM z s) z.length)),IntT .i64 (wrmE t)]):=by
 haveI:=ht
 have hOs:=ownM_shp z s
 have hOf:=ownM_fit hz hs hL1 hl
 refine Fun.intro Tryz.func128 rfl Tryz.ntmps128 rfl (fun cx=>(ts (rn rfl (fG (Ht rfl)) fun B2=>(rn rfl (fG (Ht rfl)) fun B3=>(rn rfl (eW (Ts:=[Is (.slice none 0 0),Is (.slice none 0 0),Is (.slice none 0 0)]) O_77 rfl (fun V=>aW ⟨rfl,trivial⟩ (aW ⟨rfl,trivial⟩ (aW ⟨rfl,trivial⟩ (aG))))) fun B4=>(ro rfl (cQ (cJ 0)) (eX (cK (ts (ro rfl (eJ A_45 Z_45 (Ht rfl) (i:=1) rfl rfl rfl) (ro rfl (cZ Tryz.call140 (c_warm (by omega)) ⟨(Ht rfl),trivial⟩) (ro rfl (op_not (Ht rfl)) ?_))))))))))))
 refine eX (dQ (Ht rfl) (fun hb=>?_) (fun hb=>?_))
 ·have he : wrmE t ≠ 0 := by simp only [Bool.not_eq_true'] at hb; rw [wrmE, hb]; decide
  have he1:wrmE t = 1:=by simp only [Bool.not_eq_true'] at hb; rw [wrmE,hb]; rfl
  refine ts (ro rfl (OpTy.imp (bld_77_ ) noisy_nil) (gQ Z_77 (Ht rfl) (Ht rfl) rfl (i:=2) rfl (aK rfl) rfl rfl (ro rfl (cQ (cJ 1)) (eX (T_ret2 rfl (fX (fK A_77 Z_77 rfl (i:=2) rfl rfl) ?_) (fX (eU rfl) ?_))))))
  ·exact (own_bad he)
  ·exact (int_of he1.symm)
 ·have he : wrmE t = 0 := by simp only [Bool.not_eq_false'] at hb; rw [wrmE, hb]; rfl
  refine cU (ts (ro rfl (eJ A_30 Z_30 (Ht rfl) (i:=0) rfl rfl rfl) (R_call0 Tryz.call219 (c_thermO hz hs hL1 hL hsh hl1 hl) ⟨(Ht rfl),trivial⟩ rfl (fun B15 _=>(ra rfl (eX (cK (ts (rm rfl (ro rfl (op_lenI U_28 (Ht rfl)) (ro rfl (cX (cJ 0)) (eX (eG ?_)))))))))))))
  refine T_loop (fun (i : Nat) => i ≤ z.length) (fun (i : Nat) => z.length - i) (fun (i : Nat) => [(2, PtrB B2 0), (3, PtrB B3 0), (4, PtrB B4 0), (6, Is (.slice (some ⟨B15, 0, none⟩) z.length z.length)), (16, Is (.slice (some ⟨B15, 0, none⟩) z.length z.length)), (17, NT .i64 z.length), (18, NT .i64 i)]) (fun (i : Nat) => [box B2 30 [NumsT z, NumM s], box B3 45 [BoolT (decide (t.a < 0)), NatT t.a.natAbs, BoolT (decide (t.b < 0)), NatT t.b.natAbs, NatT (du t)], box B4 77 [Is (.slice none 0 0), Is (.slice none 0 0), Is (.slice none 0 0)], matP exactH B15 27 45 5 (FRow NumT (mixG (fun i => tab z.length fun j => t * gm (ownM z s) i j) (fun i => tab z.length fun j => gm (ownM z s) i j) z.length i))]) 0 (Nat.zero_le _)
   (aQ rfl (aQ rfl (aQ rfl (aQ rfl (aQ rfl (aQ rfl (aQ rfl aX))))))) (aU (fun _ _ _ h=>h) (aU (fun _ _ _ h=>h) (aU (fun _ _ _ h=>h) (aU (matO_of (by rw [← mixG_zero]; exact congrArg _ (mat_tab hOs))) aY)))) (fun i hi=>?_)
  refine ts (ro rfl (gX (Ht rfl) (Ht rfl)) (eX (cK (dQ (Ht rfl) (fun he2=>?_) (fun he2=>?_)))))
  ·simp only [decide_eq_true_eq] at he2
   refine T_focusE 3 (i) rfl (frow_mixG he2) (fun v hv=>(cU (cK (eG (ts (ro rfl (fY U_28 Z_27 (Ht rfl) (Ht rfl) rfl (by omega) (by rw [Nat.mul_one,Nat.zero_add])) ?_))))))
   refine ro rfl (op_ldH A_27 Z_27 (Ht rfl) (j:=3) rfl) (ra rfl (eX (ts (rm rfl (ro rfl (op_lenO U_27 (Ht rfl) (i:=4) rfl (show (((tab z.length fun j=>gm (ownM z s) i j).map NumT).length:Int) = ((z.length:Nat):Int) by rw [List.length_map,tab_len])) (ro rfl (cX (cJ 0)) (eX (eG ?_))))))))
   refine T_loop (fun (j : Nat) => j ≤ z.length) (fun (j : Nat) => z.length - j) (fun (j : Nat) => [(2, PtrB B2 0), (3, PtrB B3 0), (4, PtrB B4 0), (6, Is (.slice (some ⟨B15, 0, none⟩) z.length z.length)), (8, Is v), (16, Is (.slice (some ⟨B15, 0, none⟩) z.length z.length)), (17, NT .i64 z.length), (18, NT .i64 i), (23, NT .i64 z.length), (24, NT .i64 j)]) (fun (j : Nat) => [box B2 30 [NumsT z, NumM s], box B3 45 [BoolT (decide (t.a < 0)), NatT t.a.natAbs, BoolT (decide (t.b < 0)), NatT t.b.natAbs, NatT (du t)], box B4 77 [Is (.slice none 0 0), Is (.slice none 0 0), Is (.slice none 0 0)], matQ exactH B15 27 45 5 (FRow NumT (mixG (fun i => tab z.length fun j => t * gm (ownM z s) i j) (fun i => tab z.length fun j => gm (ownM z s) i j) z.length i)) i v, rowO 45 5 v ((mixG (fun j => t * gm (ownM z s) i j) (fun j => gm (ownM z s) i j) z.length j).map NumT)]) 0 (Nat.zero_le _)
    (aQ rfl (aQ rfl (aQ rfl (aQ rfl (aQ rfl (aQ rfl (aQ rfl (aQ rfl (aQ rfl (aQ rfl aX)))))))))) (aU (fun _ _ _ h=>h) (aU (fun _ _ _ h=>h) (aU (fun _ _ _ h=>h) (aU (fun _ _ _ h=>h) (aU (rowO_of (by rw [← mixG_zero])) aY))))) (fun j hj=>?_)
   refine ts (ro rfl (gX (Ht rfl) (Ht rfl)) (eX (cK (dQ (Ht rfl) (fun hf=>?_) (fun hf=>?_)))))
   ·simp only [decide_eq_true_eq] at hf
    have hrl:=mixG_len (fun j=>t * gm (ownM z s) i j) (fun j=>gm (ownM z s) i j) z.length j
    haveI f1:FitC (gm (ownM z s) i j) (201 * L + 301):=hOf.get (by omega) i j
    refine cU (cK (eG (ts (rm rfl (ra rfl (eX (fZ (m:=10) (dp 8 rfl (cX (Ht rfl)) (dp 9 rfl (cX (Ht rfl)) (dp 3 rfl (eJ A_45 Z_45 (Ht rfl) (i:=1) rfl rfl rfl) (dq 29 2 rfl (cZ K_142 c_of ⟨(Ht rfl),trivial⟩) (dq 30 3 rfl (op_iface mkif_45 (Ht rfl)) (dp 8 rfl (cX (Ht rfl)) (dp 9 rfl (cX (Ht rfl)) (dqq 32 5 33 6 rfl (op_idxO U_27 Z_45 (Ht rfl) (Ht rfl) rfl (i:=4) rfl (by simp only [List.length_map,hrl]; omega) rfl) ?_)))))))))))))))
    refine dq 34 7 rfl (op_ldO A_45 Z_45 (Ht rfl) (i:=4) rfl rfl (dY (mixG_get hf))) (dqq 31 4 35 8 rfl (op_invoke meth_45_Mul K_67 (c_Mul (by omega)) (Ht rfl) ⟨(Ht rfl),trivial⟩) (fV mixed rfl (by kernel_rfl) (aJ (aJ (aJ (aJ (aJ (aJ (aJ (aJ (aJ (aJ (aV (ro rfl (op_idxO U_27 Z_45 (Ht rfl) (Ht rfl) rfl (i:=4) rfl (by simp only [List.length_map,hrl]; omega) rfl) ?_))))))))))))))
    refine R_stO Z_45 (Ht rfl) (Ht rfl) (El.ag rfl) (i:=4) rfl rfl (by simp only [List.length_map,hrl]; omega) rfl ?_
    refine eX (T_blk (cY (ro rfl (dV (Ht rfl) (cJ 1) (by show _ < 9223372036854775808; first | omega | (simp only [lim]; omega))) (rm rfl (eX (fU (j + 1) hf (by omega) (aQ rfl (aQ rfl (aQ rfl (aQ rfl (aQ rfl (aQ rfl (aQ rfl (aQ rfl (aQ rfl (aQ rfl aX)))))))))) (aU (fun _ _ _ h=>h) (aU (fun _ _ _ h=>h) (aU (fun _ _ _ h=>h) (aU (fun _ _ _ h=>h) (aU (rowO_of (by rw [set_mapF,← mixG_set (f:=fun j=>t * gm (ownM z s) i j)])) aY)))))))))))
   ·simp only [decide_eq_false_iff_not] at hf
    obtain rfl:j = z.length:=Nat.le_antisymm hj (by omega)
    refine gV rfl (T_blk (T_unfocus 3 4 rfl rfl (by decide) (by simp only [FRow,List.length_map,mixG_len]; omega) ?_))
    refine cY (ro rfl (dV (Ht rfl) (cJ 1) (by show _ < 9223372036854775808; first | omega | (simp only [lim]; omega))) (rm rfl (eX (T_keep [0,1,2,3] rfl (by decide) (fU (i + 1) he2 (by omega) (aQ rfl (aQ rfl (aQ rfl (aQ rfl (aQ rfl (aQ rfl (aQ rfl aX))))))) (aU (fun _ _ _ h=>h) (aU (fun _ _ _ h=>h) (aU (fun _ _ _ h=>h) (aU (matO_of (by rw [set_FRow,mixG_fin,← mixG_set (f:=(fun i=>tab z.length fun j=>t * gm (ownM z s) i j))])) aY)))))))))
  ·simp only [decide_eq_false_iff_not] at he2
   obtain rfl:i = z.length:=Nat.le_antisymm hi (by omega)
   rw [mixG_fin]
   refine gV rfl (cK (gJ (i:=3) (tt:=6) rfl rfl (frz_matF (s:=5) (M:=(scaM t (ownM z s) z.length)) scaM_shp.1.symm) (cY (ro rfl (eJ A_30 Z_30 (Ht rfl) (i:=0) rfl rfl rfl) (rm rfl (ro rfl (bld_77_0_1 (Ht rfl) (Ht rfl)) (gQ Z_77 (Ht rfl) (Ht rfl) rfl (i:=2) rfl (aK rfl) rfl rfl (ro rfl (cQ (cJ 0)) (eX (T_ret2 rfl (fX (fK A_77 Z_77 rfl (i:=2) rfl rfl) ?_) (fX (eU rfl) ?_)))))))))))
   ·exact (own_good he)
   ·exact (int_of he.symm)
end
section
open Go Go.RowKit
theorem bld_91_ {n : Nat} {E : Env} {H : Hp} {d : Option Tmp} {t : TypeId} {pos : String} {af : Array Edge} {g : Option (Nat × Bool)}  :
  OpTy Tryz.prog n E H ⟨d,.build 91 #[],t,pos,af,g⟩ (AggT [Is (.int .i64 0),Is (.int .i64 0),Is (.int .i64 0)]) :=
 op_build (parts := []) fun a V w hs => by
  refine ⟨.agg #[(.int .i64 0),(.int .i64 0),(.int .i64 0)],?_,[(.int .i64 0),(.int .i64 0),(.int .i64 0)],rfl,aW (⟨rfl,trivial⟩) (aW (⟨rfl,trivial⟩) (aW (⟨rfl,trivial⟩) (aG)))⟩
  simp [Instr.build,Instr.fill,Sem.run_bind,Result.andThen,cells_agg,O_91,U_91,Z_2]
theorem bld_91_0 {n : Nat} {E : Env} {H : Hp} {d : Option Tmp} {t : TypeId} {pos : String} {af : Array Edge} {g : Option (Nat × Bool)} {x0 : Operand} {T0 : Ty} [s0 : Shape T0 1 false] (h0 : Has E x0 T0) :
  OpTy Tryz.prog n E H ⟨d,.build 91 #[(0,x0)],t,pos,af,g⟩ (AggT [T0,Is (.int .i64 0),Is (.int .i64 0)]) :=
 op_build (parts := [(0, x0)]) fun a V w hs => by
  have p0:=h0 n V a hs
  generalize e0:a.eval x0 = v0 at p0
  have q0:=(s0.ok v0 V p0).2.2 rfl
  refine ⟨.agg #[v0,(.int .i64 0),(.int .i64 0)],?_,[v0,(.int .i64 0),(.int .i64 0)],rfl,aW (⟨p0,q0⟩) (aW (⟨rfl,trivial⟩) (aW (⟨rfl,trivial⟩) (aG)))⟩
  simp [e0,Instr.build,Instr.fill,Sem.run_bind,Result.andThen,cells_agg,q0.cells,O_91,U_91,Z_2]
theorem bld_91_0_2 {n : Nat} {E : Env} {H : Hp} {d : Option Tmp} {t : TypeId} {pos : String} {af : Array Edge} {g : Option (Nat × Bool)} {x0 x2 : Operand} {T0 T2 : Ty} [s0 : Shape T0 1 false] (h0 : Has E x0 T0) [s2 : Shape T2 1 false] (h2 : Has E x2 T2) :
  OpTy Tryz.prog n E H ⟨d,.build 91 #[(0,x0),(2,x2)],t,pos,af,g⟩ (AggT [T0,Is (.int .i64 0),T2]) :=
 op_build (parts := [(0, x0), (2, x2)]) fun a V w hs => by
  have p0:=h0 n V a hs
  generalize e0:a.eval x0 = v0 at p0
  have q0:=(s0.ok v0 V p0).2.2 rfl
  have p2:=h2 n V a hs
  generalize e2:a.eval x2 = v2 at p2
  have q2:=(s2.ok v2 V p2).2.2 rfl
  refine ⟨.agg #[v0,(.int .i64 0),v2],?_,[v0,(.int .i64 0),v2],rfl,aW (⟨p0,q0⟩) (aW (⟨rfl,trivial⟩) (aW (⟨p2,q2⟩) (aG)))⟩
  simp [e0,e2,Instr.build,Instr.fill,Sem.run_bind,Result.andThen,cells_agg,q0.cells,q2.cells,O_91,U_91,Z_2]
end
section
open Go Go.RowKit
theorem c_awake  : Fun Tryz.prog 42 [] (BoolT true):=by
 refine Fun.intro Tryz.func42 rfl Tryz.ntmps42 rfl (fun cx=>(ts (ro rfl (cQ cV) (eX (ts (ro rfl (bld_91_0_2 cV cV) (rn rfl (eW (Ts:=[Is (.int .i64 0),Is (.int .i64 0),Is (.int .i64 0)]) O_91 rfl (fun V=>aW ⟨rfl,trivial⟩ (aW ⟨rfl,trivial⟩ (aW ⟨rfl,trivial⟩ (aG))))) fun B1=>(gQ Z_91 (Ht rfl) (Ht rfl) rfl (i:=0) rfl (aK rfl) rfl rfl (eX (cK (Y.D_start (m:=18) [] (bY (Ei:=[]) rfl rfl bX rfl rfl (dX rfl (bld_91_0 cV)) (bY (Ei:=[]) rfl rfl bX rfl rfl (dX rfl (bld_91_0 cV)) ?_)))))))))))))
 refine bY (Ei:=[(12,_),(13,_)]) rfl rfl (bQ (bZ 0 rfl rfl) (bQ (bZ 1 rfl rfl) bX)) rfl rfl (dX rfl (op_bslice (xs:=[.tmp 12,.tmp 13]) U_22 Z_91 O_91 (cW (Ht rfl) (cW (Ht rfl) cG)) rfl rfl rfl)) (bY (Ei:=[(14,_)]) rfl rfl (bQ (bZ 2 rfl rfl) bX) rfl rfl (dX rfl (cZ Tryz.call23 (c_lawList (l:=[r50,r50]) (by decide)) ⟨(Ht rfl),trivial⟩)) (bY (Ei:=[]) rfl rfl bX rfl rfl (dX rfl (bld_91_ )) (bY (Ei:=[(1,_)]) rfl rfl (bQ (bJ rfl rfl) bX) rfl rfl (dX rfl (eJ A_91 Z_91 (Ht rfl) (i:=0) rfl rfl rfl)) ?_)))
 refine bY (Ei:=[(16,_),(17,_)]) rfl rfl (bQ (bZ 4 rfl rfl) (bQ (bZ 5 rfl rfl) bX)) rfl rfl (dX rfl (op_bslice (xs:=[.tmp 16,.tmp 17]) U_22 Z_91 O_91 (cW (Ht rfl) (cW (Ht rfl) cG)) rfl rfl rfl)) (bY (Ei:=[(1,_)]) rfl rfl (bQ (bJ rfl rfl) bX) rfl rfl (dX rfl (eJ A_91 Z_91 (Ht rfl) (i:=0) rfl rfl rfl)) (bY (Ei:=[]) rfl rfl bX rfl rfl (dX rfl (bld_91_ )) (bY (Ei:=[(19,_),(20,_)]) rfl rfl (bQ (bZ 7 rfl rfl) (bQ (bZ 8 rfl rfl) bX)) rfl rfl (dX rfl (op_bslice (xs:=[.tmp 19,.tmp 20]) U_22 Z_91 O_91 (cW (Ht rfl) (cW (Ht rfl) cG)) rfl rfl rfl)) ?_)))
 refine bY (Ei:=[(18,_),(21,_)]) rfl rfl (bQ (bZ 6 rfl rfl) (bQ (bZ 9 rfl rfl) bX)) rfl rfl (dX rfl (op_bslice (xs:=[.tmp 18,.tmp 21]) U_25 Z_22 Tryz.zeroValue22 (cW (Ht rfl) (cW (Ht rfl) cG)) rfl rfl rfl)) (bY (Ei:=[(22,_)]) rfl rfl (bQ (bZ 10 rfl rfl) bX) rfl rfl (dX rfl (cZ Tryz.call24 (c_lawRows (m:=[[rNil,rHalf],[rHalf,rNil]]) (by decide) (by intro r hr; simp at hr; rcases hr with rfl | rfl <;> decide)) ⟨(Ht rfl),trivial⟩)) ?_)
 refine bY (Ei:=[(15,_),(23,_)]) rfl rfl (bQ (bZ 3 rfl rfl) (bQ (bZ 11 rfl rfl) bX)) rfl rfl (dX rfl (cZ Tryz.call85 (eQ (c_netNew (z:=awZ) (s:=awS) (L:=2) aw_fz (by decide) (by decide) (by decide)) aw_net) ⟨(Ht rfl),(Ht rfl),trivial⟩)) (bY (Ei:=[(24,_)]) rfl rfl (bQ (bZ 12 rfl rfl) bX) rfl rfl (dX rfl (cX (Ht rfl))) (bY (Ei:=[(11,_)]) rfl rfl (bQ (bZ 13 rfl rfl) bX) rfl rfl (dX rfl (dK (Ht rfl) rfl)) (bY (Ei:=[(11,_)]) rfl rfl (bQ (bZ 13 rfl rfl) bX) rfl rfl (dX rfl (dK (Ht rfl) rfl)) ?_)))
 refine Y.D_newp (Ei:=[]) (fun bb=>box bb 30 [NumsT awZ,NumM awS]) 17 rfl rfl rfl bX rfl rfl (by kernel_rfl) (eW (Ts:=[Is (.slice none 0 0),Is (.slice none 0 0)]) O_30 rfl (fun V=>aW ⟨rfl,trivial⟩ (aW ⟨rfl,trivial⟩ (aG)))) (Y.D_putN (Ei:=[(25,_)]) 16 rfl rfl rfl rfl rfl rfl (bQ (bZ 14 rfl rfl) bX) (fun bb=>P_stA Z_30 (Ht rfl) (Ht rfl) rfl (i:=0) rfl (aK rfl) rfl rfl) (Y.D_done mixed rfl (by kernel_rfl) rfl (by simp [Y.okP]) rfl rfl (bU (bU (bU (bU (bU (bU (bU (bU (bU (bU (bU (bU (bU (bU (bU (bU (Y.F_newp (fun B2=>Y.F_putN (Y.F_nil ?_)))))))))))))))))))))
 refine ra rfl (eX (cK (Y.D_start (m:=8) [] (bY (Ei:=[(2,_)]) rfl rfl (bQ (bJ rfl rfl) bX) rfl rfl (dX rfl (eJ A_30 Z_30 (Ht rfl) (i:=1) rfl rfl rfl)) (bY (Ei:=[]) rfl rfl bX rfl rfl (dX rfl (cZ K_86 (c_Int (n:=290) (by decide) (by decide)) ⟨(cJ 290),trivial⟩)) (bY (Ei:=[(28,_),(29,_)]) rfl rfl (bQ (bZ 0 rfl rfl) (bQ (bZ 1 rfl rfl) bX)) rfl rfl (dX rfl (cZ Tryz.call128 (eQ (c_Own (z:=awZ) (s:=awS) (t:=Qi.ofInt 290) (L:=2) aw_fz aw_fs aw_ft (by decide) (by decide) aw_shp (by decide) (by decide)) aw_own) ⟨(Ht rfl),(Ht rfl),trivial⟩)) ?_))))))
 refine bY (Ei:=[(30,_)]) rfl rfl (bQ (bZ 2 rfl rfl) bX) rfl rfl (dX rfl (cX (Ht rfl))) (bY (Ei:=[(27,_)]) rfl rfl (bQ (bZ 3 rfl rfl) bX) rfl rfl (dX rfl (dK (Ht rfl) rfl)) (bY (Ei:=[(27,_)]) rfl rfl (bQ (bZ 3 rfl rfl) bX) rfl rfl (dX rfl (dK (Ht rfl) rfl)) (Y.D_newp (Ei:=[]) (fun bb=>box bb 77 [NumsT awZ,NumM awS,NumM awC]) 7 rfl rfl rfl bX rfl rfl (by kernel_rfl) (eW (Ts:=[Is (.slice none 0 0),Is (.slice none 0 0),Is (.slice none 0 0)]) O_77 rfl (fun V=>aW ⟨rfl,trivial⟩ (aW ⟨rfl,trivial⟩ (aW ⟨rfl,trivial⟩ (aG))))) ?_)))
 refine Y.D_putN (Ei:=[(31,_)]) 6 rfl rfl rfl rfl rfl rfl (bQ (bZ 4 rfl rfl) bX) (fun bb=>P_stA Z_77 (Ht rfl) (Ht rfl) rfl (i:=0) rfl (aK rfl) rfl rfl) (Y.D_done mixed rfl (by kernel_rfl) rfl (by simp [Y.okP]) rfl rfl (bU (bU (bU (bU (bU (bU (Y.F_newp (fun B4=>Y.F_putN (Y.F_nil ?_))))))))))
 refine ra rfl (eX (ts (ro rfl (eJ A_77 Z_77 (Ht rfl) (i:=2) rfl rfl rfl) (ro rfl (cZ Tryz.call129 (eQ (c_noiAt (z:=awZ) (s:=awS) (c:=awC) (i:=((2:Nat):Int)) (j:=((2:Nat):Int)) aw_cs2 (by rw [aw_cs.1]; decide)) aw_at) ⟨(Ht rfl),(cJ 2),(cJ 2),trivial⟩) ?_))))
 refine rm rfl (ro rfl (dK (Ht rfl) rfl) (ro rfl (dK (Ht rfl) rfl) (rn rfl (eW (Ts:=[Is (.bool false),Is (.slice none 0 0),Is (.bool false),Is (.slice none 0 0),Is (.slice none 0 0)]) O_45 rfl (fun V=>aW ⟨rfl,trivial⟩ (aW ⟨rfl,trivial⟩ (aW ⟨rfl,trivial⟩ (aW ⟨rfl,trivial⟩ (aW ⟨rfl,trivial⟩ (aG))))))) fun B6=>(gQ Z_45 (Ht rfl) (Ht rfl) rfl (i:=3) rfl (aK rfl) rfl rfl (ra rfl (eX (cK (Y.D_start (m:=9) [] (bY (Ei:=[(4,_)]) rfl rfl (bQ (bJ rfl rfl) bX) rfl rfl (dX rfl (eJ A_77 Z_77 (Ht rfl) (i:=2) rfl rfl rfl)) ?_)))))))))
 refine bY (Ei:=[]) rfl rfl bX rfl rfl (dX rfl (cZ K_86 (c_Int (n:=0) (by decide) (by decide)) ⟨(cJ 0),trivial⟩)) (bY (Ei:=[]) rfl rfl bX rfl rfl (dX rfl (cZ K_86 (c_Int (n:=290) (by decide) (by decide)) ⟨(cJ 290),trivial⟩)) (bY (Ei:=[(39,_),(40,_),(41,_)]) rfl rfl (bQ (bZ 0 rfl rfl) (bQ (bZ 1 rfl rfl) (bQ (bZ 2 rfl rfl) bX))) rfl rfl (dX rfl (cZ Tryz.call130 (eQ (c_Factor (z:=awZ) (s:=awS) (c:=awC) (g:=Qi.ofInt 0) (t0:=Qi.ofInt 290) (L:=1000) (aw_fz.le (by decide)) (aw_fs.le (by decide)) aw_fc (aw_f0.le (by decide)) (aw_ft.le (by decide)) (by decide) (by decide) aw_shp aw_cs (by decide)) aw_fac) ⟨(Ht rfl),(Ht rfl),(Ht rfl),trivial⟩)) ?_))
 refine bY (Ei:=[(42,_)]) rfl rfl (bQ (bZ 3 rfl rfl) bX) rfl rfl (dX rfl (cX (Ht rfl))) (bY (Ei:=[(38,_)]) rfl rfl (bQ (bZ 4 rfl rfl) bX) rfl rfl (dX rfl (dK (Ht rfl) rfl)) (bY (Ei:=[(38,_)]) rfl rfl (bQ (bZ 4 rfl rfl) bX) rfl rfl (dX rfl (dK (Ht rfl) rfl)) (Y.D_newp (Ei:=[]) (fun bb=>box bb 45 [BoolT (decide ((Qi.ofInt 4).a < 0)),NatT (Qi.ofInt 4).a.natAbs,BoolT (decide ((Qi.ofInt 4).b < 0)),NatT (Qi.ofInt 4).b.natAbs,NatT (du (Qi.ofInt 4))]) 8 rfl rfl rfl bX rfl rfl (by kernel_rfl) (eW (Ts:=[Is (.bool false),Is (.slice none 0 0),Is (.bool false),Is (.slice none 0 0),Is (.slice none 0 0)]) O_45 rfl (fun V=>aW ⟨rfl,trivial⟩ (aW ⟨rfl,trivial⟩ (aW ⟨rfl,trivial⟩ (aW ⟨rfl,trivial⟩ (aW ⟨rfl,trivial⟩ (aG))))))) ?_)))
 refine Y.D_putN (Ei:=[(43,_)]) 7 rfl rfl rfl rfl rfl rfl (bQ (bZ 5 rfl rfl) bX) (fun bb=>P_stA Z_45 (Ht rfl) (Ht rfl) rfl (i:=0) rfl (aK rfl) rfl rfl) (Y.D_done mixed rfl (by kernel_rfl) rfl (by simp [Y.okP]) rfl rfl (bU (bU (bU (bU (bU (bU (bU (Y.F_newp (fun B8=>Y.F_putN (Y.F_nil ?_)))))))))))
 refine ra rfl (eX (ts (rm rfl (ro rfl (op_eql (Ht rfl) cV) (rm rfl (fQ rfl rfl (eK rfl rfl (Ht rfl) (fun h=>cX (Ht rfl))) (fQ rfl rfl (eK rfl rfl (Ht rfl) (fun h=>op_eql (fJ rfl h) cV)) (ro rfl (op_and (Ht rfl) (fun h=>(fJ rfl h))) (rm rfl (fQ rfl rfl (eK rfl rfl (Ht rfl) (fun h=>cX (Ht rfl))) (fQ rfl rfl (eK rfl rfl (Ht rfl) (fun h=>op_eql (fJ rfl h) cV)) (ro rfl (op_and (Ht rfl) (fun h=>(fJ rfl h))) (rm rfl (fQ rfl rfl (eK rfl rfl (Ht rfl) (fun h=>cX (Ht rfl))) (fQ rfl rfl (eK rfl rfl (Ht rfl) (fun h=>op_eql (fJ rfl h) cV)) ?_)))))))))))))))
 refine ro rfl (op_and (Ht rfl) (fun h=>(fJ rfl h))) (rm rfl (fQ rfl rfl (eK rfl rfl (Ht rfl) (fun h=>eJ A_45 Z_45 (Ht rfl) (i:=3) rfl rfl rfl)) (fQ rfl rfl (eK rfl rfl (Ht rfl) (fun h=>cZ Tryz.call87 (c_Text (x:=Qi.ofInt 10875) (L:=2) (hx:=(@fitInt 10875).le (by decide)) (by decide)) ⟨(fJ rfl h),trivial⟩)) (fQ rfl rfl (eK rfl rfl (Ht rfl) (fun h=>op_eqS (fJ rfl h) (Has.cS (l:=[49,48,56,55,53]) rfl))) (ro rfl (op_and (Ht rfl) (fun h=>(fJ rfl h))) (rm rfl (fQ rfl rfl (eK rfl rfl (Ht rfl) (fun h=>eJ A_45 Z_45 (Ht rfl) (i:=4) rfl rfl rfl)) ?_)))))))
 refine fQ rfl rfl (eK rfl rfl (Ht rfl) (fun h=>cZ Tryz.call87 (c_Text (x:=Qi.ofInt 4) (L:=2) (hx:=(@fitInt 4).le (by decide)) (by decide)) ⟨(fJ rfl h),trivial⟩)) (fQ rfl rfl (eK rfl rfl (Ht rfl) (fun h=>op_eqS (fJ rfl h) (Has.cS (l:=[52]) rfl))) (ro rfl (op_and (Ht rfl) (fun h=>(fJ rfl h))) (ra rfl (eX (fW rfl (fX (eU rfl) ?_))))))
 exact (bool_of (by rw [aw_t1,aw_t2]; rfl))
end
section
open Go Go.RowKit
theorem fa_79_0 (a:Addr) (w:World):(Instr.fieldAt 79 (.pointer (some a)) 0).run Tryz.prog w = .ok (.pointer (some (a.add 0))) w:=by
 simp [Instr.fieldAt,Instr.sureAddr,fieldPlace,Sem.run_bind,Result.andThen,U_79,Z_34]
theorem fa_79_1 (a:Addr) (w:World):(Instr.fieldAt 79 (.pointer (some a)) 1).run Tryz.prog w = .ok (.pointer (some (a.add 2))) w:=by
 simp [Instr.fieldAt,Instr.sureAddr,fieldPlace,Sem.run_bind,Result.andThen,U_79,Z_32]
end
section
open Go Go.RowKit
theorem is_ref {z:List Qi} {i:Nat} (h:i < z.length):∀ v V,(TupT [NumT (pkv z ((i + 1:Nat):Int)),IntT .i64 (if 1 ≤ ((i + 1:Nat):Int) ∧ ((i + 1:Nat):Int) ≤ z.length then 0 else 1)]).p v V → (TupT [NumT (gv z i),IntT .i64 0]).p v V:=by
 rw [show pkv z ((i + 1:Nat):Int) = gv z i from pkv_at h,if_pos (by omega)]; exact fun _ _ h=>h
theorem is_at {n:Nat} {s:List (List Qi)} {i j:Nat} (h:i < n) (k:j < n):∀ v V,(TupT [NumT (pkm n s ((i + 1:Nat):Int) ((j + 1:Nat):Int)),IntT .i64 (if (1 ≤ ((i + 1:Nat):Int) ∧ ((i + 1:Nat):Int) ≤ n) ∧ 1 ≤ ((j + 1:Nat):Int) ∧ ((j + 1:Nat):Int) ≤ n then 0 else 1)]).p v V → (TupT [NumT (gm s i j),IntT .i64 0]).p v V:=by
 rw [show pkm n s ((i + 1:Nat):Int) ((j + 1:Nat):Int) = gm s i j from pkm_at h k,if_pos (by omega)]; exact fun _ _ h=>h
theorem c_is5 {z:List Qi} {s c:List (List Qi)} {L:Nat} (hz:FitL z L) (hs:FitM s L) (hc:FitM c L) (hL1:1 ≤ L) (hL:L ≤ 8796093022208) (hsh:Shp s z.length z.length) (hch:Shp c z.length z.length) (hl:z.length ≤ 1000):Fun Tryz.prog 48 [NoisyT z s c,RNoisyT z s c] (BoolT true):=by
 have hcl:=hch.1
 have hch2:Shp c c.length c.length:=by rw [hcl]; exact hch
 refine Fun.intro Tryz.func48 rfl Tryz.ntmps48 rfl (fun cx=>(ts (rn rfl (fG (Ht rfl)) fun B2=>(rn rfl (fG (Ht rfl)) fun B3=>(ro rfl (cQ cV) (eX (ts (ro rfl (eJ A_77 Z_77 (Ht rfl) (i:=0) rfl rfl rfl) (ro rfl (cZ Tryz.call83 c_noiNet ⟨(Ht rfl),trivial⟩) (rn rfl (eW (Ts:=[Is (.slice none 0 0),Is (.slice none 0 0)]) O_30 rfl (fun V=>aW ⟨rfl,trivial⟩ (aW ⟨rfl,trivial⟩ (aG)))) fun B5=>(gQ Z_30 (Ht rfl) (Ht rfl) rfl (i:=2) rfl (aK rfl) rfl rfl (eX ?_))))))))))))
 refine cK (cK (fZ (m:=15) (dp 5 rfl (eJ A_30 Z_30 (Ht rfl) (i:=2) rfl rfl rfl) (dq 16 0 rfl (cZ K_37 c_Ports ⟨(Ht rfl),trivial⟩) (dp 3 rfl (eZ fa_79_0 (Ht rfl) rfl) (dq 18 2 rfl (eZ fa_34_0 (Ht rfl) rfl) (dq 19 3 rfl (eY A_31 Z_31 (Ht rfl) (i:=1) rfl rfl) (dq 20 4 rfl (dG U_31 (Ht rfl) len_map) (dqq 17 1 21 5 rfl (op_neqN (Ht rfl) (Ht rfl)) (dq 22 6 rfl (cX (Ht rfl)) (C.D_step (Ei:=[(3,_),(23,_)]) rfl rfl (bV (bK rfl rfl) (bV (bG 7 rfl rfl) bW)) (eK rfl rfl (Ht rfl) (fun h=>eZ fa_79_1 (Ht rfl) rfl)) ?_)))))))))))
 refine C.D_step (Ei:=[(24,_),(23,_)]) rfl rfl (bV (bG 8 rfl rfl) (bV (bG 7 rfl rfl) bW)) (eK rfl rfl (Ht rfl) (fun h=>eY A_32 Z_32 (fJ rfl h) (i:=1) rfl rfl)) (C.D_step (Ei:=[(25,_),(23,_)]) rfl rfl (bV (bG 9 rfl rfl) (bV (bG 7 rfl rfl) bW)) (eK rfl rfl (Ht rfl) (fun h=>dG U_32 (fJ rfl h) len_map)) (C.D_step (Ei:=[(3,_),(23,_)]) rfl rfl (bV (bK rfl rfl) (bV (bG 7 rfl rfl) bW)) (eK rfl rfl (Ht rfl) (fun h=>eZ fa_79_0 (Ht rfl) rfl)) ?_))
 refine C.D_step (Ei:=[(27,_),(23,_)]) rfl rfl (bV (bG 11 rfl rfl) (bV (bG 7 rfl rfl) bW)) (eK rfl rfl (Ht rfl) (fun h=>eZ fa_34_0 (fJ rfl h) rfl)) (C.D_step (Ei:=[(28,_),(23,_)]) rfl rfl (bV (bG 12 rfl rfl) (bV (bG 7 rfl rfl) bW)) (eK rfl rfl (Ht rfl) (fun h=>eY A_31 Z_31 (fJ rfl h) (i:=1) rfl rfl)) (C.D_step (Ei:=[(29,_),(23,_)]) rfl rfl (bV (bG 13 rfl rfl) (bV (bG 7 rfl rfl) bW)) (eK rfl rfl (Ht rfl) (fun h=>dG U_31 (fJ rfl h) len_map)) ?_))
 refine fV mixed rfl (by kernel_rfl) (aJ (aJ (aJ (aJ (aJ (aJ (aJ (aJ (aJ (aJ (aJ (aJ (aJ (aJ (aJ (aV (fQ rfl rfl (eK rfl rfl (Ht rfl) (fun h=>op_neqN (fJ rfl h) (fJ rfl h))) (ro rfl (op_or (Ht rfl) (fun h=>(fJ rfl h))) (eX (T_condF (Ht rfl) (by simp [hcl]) ?_))))))))))))))))))))
 refine cU (cK (ts (ro rfl (eZ fa_79_1 (Ht rfl) rfl) (ro rfl (eY A_32 Z_32 (Ht rfl) (i:=1) rfl rfl) (ro rfl (dG U_32 (Ht rfl) len_map) (ro rfl (cX (cJ 0)) (eX (eG ?_))))))))
 refine T_loop (fun (i : Nat) => i ≤ z.length) (fun (i : Nat) => z.length - i) (fun (i : Nat) => [(2, PtrB B2 0), (3, PtrB B3 0), (5, PtrB B5 0), (35, NT .i64 z.length), (36, NT .i64 i)]) (fun (i : Nat) => [box B2 77 [NumsT z, NumM s, NumM c], box B3 79 [QsT z, QM s, QM c], box B5 30 [NumsT z, NumM s]]) 0 (Nat.zero_le _)
  (aQ rfl (aQ rfl (aQ rfl (aZ rfl (nt_of hcl) (aQ rfl aX))))) (HSub.refl _) (fun i hi=>?_)
 refine ts (ro rfl (gX (Ht rfl) (Ht rfl)) (eX (cK (dQ (Ht rfl) (fun hd=>?_) (fun hd=>?_)))))
 ·simp only [decide_eq_true_eq] at hd
  haveI f1:FitC (gv z i) L:=hz.get hL1 i
  refine cU (cK (eG (ts (rm rfl (ra rfl (eX (ts (ro rfl (eJ A_30 Z_30 (Ht rfl) (i:=2) rfl rfl rfl) (rm rfl (ro rfl (dV (Ht rfl) (cJ 1) (by show _ < 9223372036854775808; first | omega | (simp only [lim]; omega))) (ro rfl (cZ Tryz.call63 (eQ (c_Ref (z:=z) (s:=s) (i:=((i + 1:Nat):Int)) (by omega)) (is_ref hd)) ⟨(Ht rfl),(Ht rfl),trivial⟩) (rm rfl (ro rfl (dK (Ht rfl) rfl) (ro rfl (dK (Ht rfl) rfl) (rn rfl (eW (Ts:=[Is (.bool false),Is (.slice none 0 0),Is (.bool false),Is (.slice none 0 0),Is (.slice none 0 0)]) O_45 rfl (fun V=>aW ⟨rfl,trivial⟩ (aW ⟨rfl,trivial⟩ (aW ⟨rfl,trivial⟩ (aW ⟨rfl,trivial⟩ (aW ⟨rfl,trivial⟩ (aG))))))) fun B7=>?_)))))))))))))))
  refine gQ Z_45 (Ht rfl) (Ht rfl) rfl (i:=3) rfl (aK rfl) rfl rfl (ra rfl (eX (cK (cK (fZ (m:=10) (dp 8 rfl (cX (Ht rfl)) (dq 46 0 rfl (op_neq (Ht rfl) cV) (dq 47 1 rfl (cX (Ht rfl)) (C.D_step (Ei:=[(7,_),(48,_)]) rfl rfl (bV (bK rfl rfl) (bV (bG 2 rfl rfl) bW)) (eK rfl rfl (Ht rfl) (fun h=>eJ A_45 Z_45 (Ht rfl) (i:=3) rfl rfl rfl)) (C.D_step (Ei:=[(3,_),(48,_)]) rfl rfl (bV (bK rfl rfl) (bV (bG 2 rfl rfl) bW)) (eK rfl rfl (Ht rfl) (fun h=>eZ fa_79_0 (Ht rfl) rfl)) ?_))))))))))
  refine C.D_step (Ei:=[(50,_),(48,_)]) rfl rfl (bV (bG 4 rfl rfl) (bV (bG 2 rfl rfl) bW)) (eK rfl rfl (Ht rfl) (fun h=>eZ fa_34_0 (fJ rfl h) rfl)) (C.D_step (Ei:=[(51,_),(48,_)]) rfl rfl (bV (bG 5 rfl rfl) (bV (bG 2 rfl rfl) bW)) (eK rfl rfl (Ht rfl) (fun h=>eY A_31 Z_31 (fJ rfl h) (i:=1) rfl rfl)) (C.D_step (Ei:=[(6,_),(48,_)]) rfl rfl (bV (bK rfl rfl) (bV (bG 2 rfl rfl) bW)) (eK rfl rfl (Ht rfl) (fun h=>cX (Ht rfl))) ?_))
  refine C.D_step (Ei:=[(52,_),(53,_),(48,_)]) rfl rfl (bV (bG 6 rfl rfl) (bV (bG 7 rfl rfl) (bV (bG 2 rfl rfl) bW))) (eK rfl rfl (Ht rfl) (fun h=>dZ U_31 Z_98 (fJ rfl h) (fJ rfl h) rfl (dY (dU (d:=Qi.zero) (by first | omega | (simp at h; omega)))))) (C.D_step (Ei:=[(54,_),(48,_)]) rfl rfl (bV (bG 8 rfl rfl) (bV (bG 2 rfl rfl) bW)) (eK rfl rfl (Ht rfl) (fun h=>dJ A_98 Z_98 (fJ rfl h))) (fV mixed rfl (by kernel_rfl) (aJ (aJ (aJ (aJ (aJ (aJ (aJ (aJ (aJ (aJ (aV ?_)))))))))))))
  refine fQ rfl rfl (eK rfl rfl (Ht rfl) (fun h=>cZ Tryz.call139 (c_lawIs (x:=gv z i) (y:=gv z i) (L:=L) (M:=L) hL hL) ⟨(fJ rfl h),(fJ rfl h),trivial⟩)) (fQ rfl rfl (eK rfl rfl (Ht rfl) (fun h=>op_not (fJ rfl h))) (ro rfl (op_or (Ht rfl) (fun h=>(fJ rfl h))) (eX (T_condF (Ht rfl) (by simp) ?_))))
  refine cU (ts (ro rfl (eZ fa_79_1 (Ht rfl) rfl) (ro rfl (eY A_32 Z_32 (Ht rfl) (i:=1) rfl rfl) (ro rfl (dG U_32 (Ht rfl) len_map) (ro rfl (cX (cJ 0)) (eX (eG (T_keep [0,1,2] rfl (by decide) ?_))))))))
  refine T_loop (fun (j : Nat) => j ≤ z.length) (fun (j : Nat) => z.length - j) (fun (j : Nat) => [(2, PtrB B2 0), (3, PtrB B3 0), (5, PtrB B5 0), (6, NT .i64 i), (35, NT .i64 z.length), (36, NT .i64 i), (61, NT .i64 z.length), (62, NT .i64 j)]) (fun (j : Nat) => [box B2 77 [NumsT z, NumM s, NumM c], box B3 79 [QsT z, QM s, QM c], box B5 30 [NumsT z, NumM s]]) 0 (Nat.zero_le _)
   (aQ rfl (aQ rfl (aQ rfl (aQ rfl (aQ rfl (aQ rfl (aZ rfl (nt_of hcl) (aQ rfl aX)))))))) (HSub.refl _) (fun j hj=>?_)
  refine ts (ro rfl (gX (Ht rfl) (Ht rfl)) (eX (cK (dQ (Ht rfl) (fun hf=>?_) (fun hf=>?_)))))
  ·simp only [decide_eq_true_eq] at hf
   haveI f2:FitC (gm s i j) L:=hs.get hL1 i j
   haveI f3:FitC (gm c i j) L:=hc.get hL1 i j
   have hsr:=hsh.row hd
   have hcr:=hch.row hd
   have hs1:=hsh.1
   refine cU (cK (eG (ts (rm rfl (ra rfl (eX (ts (ro rfl (eJ A_30 Z_30 (Ht rfl) (i:=2) rfl rfl rfl) (rm rfl (ro rfl (dV (Ht rfl) (cJ 1) (by show _ < 9223372036854775808; first | omega | (simp only [lim]; omega))) (rm rfl (ro rfl (dV (Ht rfl) (cJ 1) (by show _ < 9223372036854775808; first | omega | (simp only [lim]; omega))) (ro rfl (cZ Tryz.call65 (eQ (c_At (z:=z) (s:=s) (i:=((i + 1:Nat):Int)) (j:=((j + 1:Nat):Int)) hsh (by omega)) (is_at hd hf)) ⟨(Ht rfl),(Ht rfl),(Ht rfl),trivial⟩) (rm rfl (ro rfl (dK (Ht rfl) rfl) ?_)))))))))))))))
   refine ro rfl (dK (Ht rfl) rfl) (rn rfl (eW (Ts:=[Is (.bool false),Is (.slice none 0 0),Is (.bool false),Is (.slice none 0 0),Is (.slice none 0 0)]) O_45 rfl (fun V=>aW ⟨rfl,trivial⟩ (aW ⟨rfl,trivial⟩ (aW ⟨rfl,trivial⟩ (aW ⟨rfl,trivial⟩ (aW ⟨rfl,trivial⟩ (aG))))))) fun B10=>(gQ Z_45 (Ht rfl) (Ht rfl) rfl (i:=3) rfl (aK rfl) rfl rfl (ra rfl (eX (ts (ro rfl (eJ A_77 Z_77 (Ht rfl) (i:=0) rfl rfl rfl) (rm rfl (ro rfl (dV (Ht rfl) (cJ 1) (by show _ < 9223372036854775808; first | omega | (simp only [lim]; omega))) ?_))))))))
   refine rm rfl (ro rfl (dV (Ht rfl) (cJ 1) (by show _ < 9223372036854775808; first | omega | (simp only [lim]; omega))) (ro rfl (cZ Tryz.call129 (eQ (c_noiAt (z:=z) (s:=s) (c:=c) (i:=((i + 1:Nat):Int)) (j:=((j + 1:Nat):Int)) hch2 (by omega)) (is_at (by omega) (by omega))) ⟨(Ht rfl),(Ht rfl),(Ht rfl),trivial⟩) (rm rfl (ro rfl (dK (Ht rfl) rfl) (ro rfl (dK (Ht rfl) rfl) (rn rfl (eW (Ts:=[Is (.bool false),Is (.slice none 0 0),Is (.bool false),Is (.slice none 0 0),Is (.slice none 0 0)]) O_45 rfl (fun V=>aW ⟨rfl,trivial⟩ (aW ⟨rfl,trivial⟩ (aW ⟨rfl,trivial⟩ (aW ⟨rfl,trivial⟩ (aW ⟨rfl,trivial⟩ (aG))))))) fun B12=>?_))))))
   refine gQ Z_45 (Ht rfl) (Ht rfl) rfl (i:=4) rfl (aK rfl) rfl rfl (ra rfl (eX (cK (fZ (m:=30) (dp 11 rfl (cX (Ht rfl)) (dq 83 0 rfl (op_neq (Ht rfl) cV) (dq 84 1 rfl (cX (Ht rfl)) (C.D_step (Ei:=[(13,_),(85,_)]) rfl rfl (bV (bK rfl rfl) (bV (bG 2 rfl rfl) bW)) (eK rfl rfl (Ht rfl) (fun h=>cX (Ht rfl))) (C.D_step (Ei:=[(86,_),(85,_)]) rfl rfl (bV (bG 3 rfl rfl) (bV (bG 2 rfl rfl) bW)) (eK rfl rfl (Ht rfl) (fun h=>op_neq (fJ rfl h) cV)) ?_)))))))))
   refine dqq 85 2 87 4 rfl (op_or (Ht rfl) (fun h=>(fJ rfl h))) (dq 88 5 rfl (cX (Ht rfl)) (C.D_step (Ei:=[(10,_),(89,_)]) rfl rfl (bV (bK rfl rfl) (bV (bG 6 rfl rfl) bW)) (eK rfl rfl (Ht rfl) (fun h=>eJ A_45 Z_45 (Ht rfl) (i:=3) rfl rfl rfl)) (C.D_step (Ei:=[(3,_),(89,_)]) rfl rfl (bV (bK rfl rfl) (bV (bG 6 rfl rfl) bW)) (eK rfl rfl (Ht rfl) (fun h=>eZ fa_79_0 (Ht rfl) rfl)) (C.D_step (Ei:=[(91,_),(89,_)]) rfl rfl (bV (bG 8 rfl rfl) (bV (bG 6 rfl rfl) bW)) (eK rfl rfl (Ht rfl) (fun h=>eZ fa_34_1 (fJ rfl h) rfl)) ?_))))
   refine C.D_step (Ei:=[(92,_),(89,_)]) rfl rfl (bV (bG 9 rfl rfl) (bV (bG 6 rfl rfl) bW)) (eK rfl rfl (Ht rfl) (fun h=>eY A_32 Z_32 (fJ rfl h) (i:=1) rfl rfl)) (C.D_step (Ei:=[(6,_),(89,_)]) rfl rfl (bV (bK rfl rfl) (bV (bG 6 rfl rfl) bW)) (eK rfl rfl (Ht rfl) (fun h=>cX (Ht rfl))) (C.D_step (Ei:=[(93,_),(94,_),(89,_)]) rfl rfl (bV (bG 10 rfl rfl) (bV (bG 11 rfl rfl) (bV (bG 6 rfl rfl) bW))) (eK rfl rfl (Ht rfl) (fun h=>dZ U_32 Z_31 (fJ rfl h) (fJ rfl h) rfl (dY (dU (d:=[]) (by omega))))) ?_))
   refine C.D_step (Ei:=[(95,_),(89,_)]) rfl rfl (bV (bG 12 rfl rfl) (bV (bG 6 rfl rfl) bW)) (eK rfl rfl (Ht rfl) (fun h=>dJ A_31 Z_31 (fJ rfl h))) (C.D_step (Ei:=[(9,_),(89,_)]) rfl rfl (bV (bK rfl rfl) (bV (bG 6 rfl rfl) bW)) (eK rfl rfl (Ht rfl) (fun h=>cX (Ht rfl))) (C.D_step (Ei:=[(96,_),(97,_),(89,_)]) rfl rfl (bV (bG 13 rfl rfl) (bV (bG 14 rfl rfl) (bV (bG 6 rfl rfl) bW))) (eK rfl rfl (Ht rfl) (fun h=>dZ U_31 Z_98 (fJ rfl h) (fJ rfl h) rfl (dY (dU (d:=Qi.zero) (by omega))))) ?_))
   refine C.D_step (Ei:=[(98,_),(89,_)]) rfl rfl (bV (bG 15 rfl rfl) (bV (bG 6 rfl rfl) bW)) (eK rfl rfl (Ht rfl) (fun h=>dJ A_98 Z_98 (fJ rfl h))) (C.D_step (Ei:=[(90,_),(99,_),(89,_)]) rfl rfl (bV (bG 7 rfl rfl) (bV (bG 16 rfl rfl) (bV (bG 6 rfl rfl) bW))) (eK rfl rfl (Ht rfl) (fun h=>cZ Tryz.call139 (c_lawIs (x:=gm s i j) (y:=gm s i j) (L:=L) (M:=L) hL hL) ⟨(fJ rfl h),(fJ rfl h),trivial⟩)) (C.D_step (Ei:=[(100,_),(89,_)]) rfl rfl (bV (bG 17 rfl rfl) (bV (bG 6 rfl rfl) bW)) (eK rfl rfl (Ht rfl) (fun h=>op_not (fJ rfl h))) ?_))
   refine dqq 89 6 101 18 rfl (op_or (Ht rfl) (fun h=>(fJ rfl h))) (dq 102 19 rfl (cX (Ht rfl)) (C.D_step (Ei:=[(12,_),(103,_)]) rfl rfl (bV (bK rfl rfl) (bV (bG 20 rfl rfl) bW)) (eK rfl rfl (Ht rfl) (fun h=>eJ A_45 Z_45 (Ht rfl) (i:=4) rfl rfl rfl)) (C.D_step (Ei:=[(3,_),(103,_)]) rfl rfl (bV (bK rfl rfl) (bV (bG 20 rfl rfl) bW)) (eK rfl rfl (Ht rfl) (fun h=>eZ fa_79_1 (Ht rfl) rfl)) (C.D_step (Ei:=[(105,_),(103,_)]) rfl rfl (bV (bG 22 rfl rfl) (bV (bG 20 rfl rfl) bW)) (eK rfl rfl (Ht rfl) (fun h=>eY A_32 Z_32 (fJ rfl h) (i:=1) rfl rfl)) ?_))))
   refine C.D_step (Ei:=[(6,_),(103,_)]) rfl rfl (bV (bK rfl rfl) (bV (bG 20 rfl rfl) bW)) (eK rfl rfl (Ht rfl) (fun h=>cX (Ht rfl))) (C.D_step (Ei:=[(106,_),(107,_),(103,_)]) rfl rfl (bV (bG 23 rfl rfl) (bV (bG 24 rfl rfl) (bV (bG 20 rfl rfl) bW))) (eK rfl rfl (Ht rfl) (fun h=>dZ U_32 Z_31 (fJ rfl h) (fJ rfl h) rfl (dY (dU (d:=[]) (by omega))))) (C.D_step (Ei:=[(108,_),(103,_)]) rfl rfl (bV (bG 25 rfl rfl) (bV (bG 20 rfl rfl) bW)) (eK rfl rfl (Ht rfl) (fun h=>dJ A_31 Z_31 (fJ rfl h))) ?_))
   refine C.D_step (Ei:=[(9,_),(103,_)]) rfl rfl (bV (bK rfl rfl) (bV (bG 20 rfl rfl) bW)) (eK rfl rfl (Ht rfl) (fun h=>cX (Ht rfl))) (C.D_step (Ei:=[(109,_),(110,_),(103,_)]) rfl rfl (bV (bG 26 rfl rfl) (bV (bG 27 rfl rfl) (bV (bG 20 rfl rfl) bW))) (eK rfl rfl (Ht rfl) (fun h=>dZ U_31 Z_98 (fJ rfl h) (fJ rfl h) rfl (dY (dU (d:=Qi.zero) (by omega))))) (C.D_step (Ei:=[(111,_),(103,_)]) rfl rfl (bV (bG 28 rfl rfl) (bV (bG 20 rfl rfl) bW)) (eK rfl rfl (Ht rfl) (fun h=>dJ A_98 Z_98 (fJ rfl h))) ?_))
   refine fV mixed rfl (by kernel_rfl) (aJ (aJ (aJ (aJ (aJ (aJ (aJ (aJ (aJ (aJ (aJ (aJ (aJ (aJ (aJ (aJ (aJ (aJ (aJ (aJ (aJ (aJ (aJ (aJ (aJ (aJ (aJ (aJ (aJ (aJ (aV (fQ rfl rfl (eK rfl rfl (Ht rfl) (fun h=>cZ Tryz.call139 (c_lawIs (x:=gm c i j) (y:=gm c i j) (L:=L) (M:=L) hL hL) ⟨(fJ rfl h),(fJ rfl h),trivial⟩)) (fQ rfl rfl (eK rfl rfl (Ht rfl) (fun h=>op_not (fJ rfl h))) ?_)))))))))))))))))))))))))))))))))
   refine ro rfl (op_or (Ht rfl) (fun h=>(fJ rfl h))) (eX (T_condF (Ht rfl) (by simp) ?_))
   refine cU (T_blk (cY (ro rfl (dV (Ht rfl) (cJ 1) (by show _ < 9223372036854775808; first | omega | (simp only [lim]; omega))) (rm rfl (eX (T_keep [0,1,2] rfl (by decide) (fU (j + 1) hf (by omega) (aQ rfl (aQ rfl (aQ rfl (aQ rfl (aQ rfl (aQ rfl (aQ rfl (aQ rfl aX)))))))) (HSub.refl _))))))))
  ·refine gV rfl (T_blk (cY (ro rfl (dV (Ht rfl) (cJ 1) (by show _ < 9223372036854775808; first | omega | (simp only [lim]; omega))) (rm rfl (eX (T_keep [0,1,2] rfl (by decide) (fU (i + 1) hd (by omega) (aQ rfl (aQ rfl (aQ rfl (aQ rfl (aQ rfl aX))))) (HSub.refl _))))))))
 ·refine gV rfl (ts (ro rfl (cQ cV) (eX ?_)))
  exact fW rfl (eU rfl)
end
section
open Go Go.RowKit
theorem Qi.zero_div (y:Qi):Qi.zero / y = Qi.zero:=by rw [Qi.div_def,Qi.zero_mul']
end
section
open Go Go.RowKit
theorem c_rHas {z:List Qi} {s:List (List Qi)} {i:Int}:Fun Tryz.prog 227 [RNetT z s,IntT .i64 i] (BoolT (decide (1 ≤ i ∧ i ≤ z.length))):=by
 refine Fun.intro Tryz.func227 rfl Tryz.ntmps227 rfl (fun cx=>(ts (rn rfl (fG (Ht rfl)) fun B2=>(ro rfl (cQ cV) (eX (ts (rm rfl (ro rfl (op_geq (Ht rfl) cV) (rm rfl (fQ rfl rfl (eK rfl rfl (Ht rfl) (fun h=>cX (Ht rfl))) (fQ rfl rfl (eK rfl rfl (Ht rfl) (fun h=>eZ fa_34_0 (Ht rfl) rfl)) (fQ rfl rfl (eK rfl rfl (Ht rfl) (fun h=>eY A_31 Z_31 (fJ rfl h) (i:=0) rfl rfl)) (fQ rfl rfl (eK rfl rfl (Ht rfl) (fun h=>dG U_31 (fJ rfl h) len_map)) (fQ rfl rfl (eK rfl rfl (Ht rfl) (fun h=>op_leq (fJ rfl h) (fJ rfl h))) ?_))))))))))))))
 refine ro rfl (op_and (Ht rfl) (fun h=>(fJ rfl h))) (ra rfl (eX (fW rfl (fX (eU rfl) ?_))))
 exact (bool_of (by rw [Bool.eq_iff_iff]; simp))
end
section
open Go Go.RowKit
namespace Qi
end Qi
def firstE (f : Nat → Int) : Nat → Int
 | 0=>0
 | n + 1=>if firstE f n ≠ 0 then firstE f n else f n
theorem firstE_at {f:Nat → Int} {k:Nat} (h:∀ i,i < k → f i = 0) (hk:f k ≠ 0):∀ {n:Nat},k < n → firstE f n = f k:=by
 have hz : firstE f k = 0 := by
  clear hk
  induction k with
  | zero=>rfl
  | succ k ih=>rw [firstE,ih (fun i hi=>h i (by omega)),if_neg (by simp),h k (by omega)]
 intro n
 induction n with
 | zero=>intro h; omega
 | succ n ih =>
  intro hn
  by_cases e:n = k
  ·rw [e,firstE,hz,if_neg (by simp)]
  ·rw [firstE,ih (by omega),if_pos hk]
theorem firstE_none {f : Nat → Int} : ∀ {n : Nat}, (∀ i, i < n → f i = 0) → firstE f n = 0
 | 0,_=>rfl
 | n + 1,h=>by rw [firstE,firstE_none (fun i hi=>h i (by omega)),if_neg (by simp),h n (by omega)]
theorem firstE_zero {f : Nat → Int} : ∀ {n : Nat}, firstE f n = 0 → ∀ i, i < n → f i = 0
 | 0,_,i,hi=>by omega
 | n + 1, h, i, hi => by
  rw [firstE] at h
  split at h
  ·rename_i c; exact absurd h c
  ·rename_i c
   by_cases e:i = n
   ·rw [e]; exact h
   ·exact firstE_zero (Decidable.not_not.1 c) i (by omega)
abbrev eF (l:List (Qi × Qi)) (i:Nat):Qi:=(l.getD i (Qi.zero,Qi.zero)).1
abbrev eV (l:List (Qi × Qi)) (i:Nat):Qi:=(l.getD i (Qi.zero,Qi.zero)).2
structure TabOk (l:List (Qi × Qi)) (f:Qi):Prop where
 real:∀ i,i < l.length → (eF l i).b = 0 ∧ (eV l i).b = 0
 up:∀ i,0 < i → i < l.length → (eF l (i - 1)).re < (eF l i).re
 fr:f.b = 0
theorem TabOk.mono {l : List (Qi × Qi)} {f : Qi} (h : TabOk l f) {i : Nat} : ∀ {j : Nat}, i < j → j < l.length → (eF l i).re < (eF l j).re
 | 0,h1,_=>by omega
 | j + 1, h1, h2 => by
  have h3:=h.up (j + 1) (by omega) h2
  rw [Nat.add_sub_cancel] at h3
  by_cases e:i = j
  ·rw [e]; exact h3
  ·have := h.mono (i := i) (j := j) (by omega) (by omega)
   grind
def FitE (l:List (Qi × Qi)) (L:Nat):Prop:=∀ e,e ∈ l → FitC e.1 L ∧ FitC e.2 L
theorem FitE.get {l:List (Qi × Qi)} {L:Nat} (h:FitE l L) (hL:1 ≤ L) (i:Nat):FitC (eF l i) L ∧ FitC (eV l i) L:=by
 by_cases hi:i < l.length
 ·have e : l.getD i (Qi.zero, Qi.zero) = l[i] := by simp [List.getD, hi]
  show FitC (l.getD i _).1 L ∧ FitC (l.getD i _).2 L
  rw [e]; exact h _ (List.getElem_mem hi)
 ·have e : l.getD i (Qi.zero, Qi.zero) = (Qi.zero, Qi.zero) := by simp [List.getD, List.getElem?_eq_none (Nat.le_of_not_lt hi)]
  show FitC (l.getD i _).1 L ∧ FitC (l.getD i _).2 L
  rw [e]; exact ⟨FitC.zero hL,FitC.zero hL⟩
end
section
open Go Go.RowKit
abbrev rw' (M:List (List Qi)) (i:Nat):List Qi:=M.getD i []
def pvF (M : List (List Qi)) (c n : Nat) : Nat → Nat
 | 0=>n
 | k + 1=>if gm M (n - (k + 1)) c = Qi.zero then pvF M c n k else n - (k + 1)
def pv (M:List (List Qi)) (c n:Nat):Nat:=pvF M c n (n - c)
theorem pvF_spec {M : List (List Qi)} {c n : Nat} : ∀ {k : Nat}, k ≤ n → (∀ r, n - k ≤ r → r < pvF M c n k → gm M r c = Qi.zero) ∧ n - k ≤ pvF M c n k ∧ pvF M c n k ≤ n ∧ (pvF M c n k < n → gm M (pvF M c n k) c ≠ Qi.zero)
 | 0,_=>⟨fun r h1 h2=>by simp [pvF] at h2; omega,by simp [pvF],by simp [pvF],fun h=>by simp [pvF] at h⟩
 | k + 1, hk => by
  obtain ⟨i1,i2,i3,i4⟩:=pvF_spec (M:=M) (c:=c) (n:=n) (k:=k) (by omega)
  unfold pvF
  by_cases e:gm M (n - (k + 1)) c = Qi.zero
  ·rw [if_pos e]
   refine ⟨fun r h1 h2=>?_,by omega,i3,i4⟩
   by_cases e2:r = n - (k + 1)
   ·rw [e2]; exact e
   ·exact i1 r (by omega) h2
  ·rw [if_neg e]
   exact ⟨fun r h1 h2=>by omega,Nat.le_refl _,by omega,fun _=>e⟩
theorem pv_spec {M:List (List Qi)} {c n:Nat} (hc:c ≤ n):(∀ r,c ≤ r → r < pv M c n → gm M r c = Qi.zero) ∧ c ≤ pv M c n ∧ pv M c n ≤ n ∧ (pv M c n < n → gm M (pv M c n) c ≠ Qi.zero):=by
 have h:=pvF_spec (M:=M) (c:=c) (n:=n) (k:=n - c) (by omega)
 rw [show n - (n - c) = c by omega] at h
 exact h
theorem pv_eq {M:List (List Qi)} {c n p:Nat} (hc:c ≤ p) (hp:p ≤ n) (h1:∀ r,c ≤ r → r < p → gm M r c = Qi.zero) (h2:p < n → gm M p c ≠ Qi.zero):pv M c n = p:=by
 obtain ⟨i1,i2,i3,i4⟩:=pv_spec (M:=M) (n:=n) (show c ≤ n by omega)
 rcases Nat.lt_trichotomy (pv M c n) p with h | h | h
 ·exact absurd (h1 _ i2 h) (i4 (by omega))
 ·exact h
 ·exact absurd (i1 p hc h) (h2 (by omega))
def redR (rr rc:List Qi) (c k:Nat):List Qi:=tab rr.length fun j=>if c < j ∧ j < k then gv rr j - gv rr c / gv rc c * gv rc j else gv rr j
def redM (M:List (List Qi)) (c r:Nat):List (List Qi):=tab M.length fun i=>if c < i ∧ i < r then redR (rw' M i) (rw' M c) c (rw' M i).length else rw' M i
def elimTo (M : List (List Qi)) : Nat → List (List Qi) × Nat × Int
 | 0=>(M,0,-1)
 | c + 1 =>
  let s:=elimTo M c
  if 0 ≤ s.2.2 then s else
  if pv s.1 c M.length = M.length then (s.1,s.2.1,(c:Int)) else
  (redM (if pv s.1 c M.length = c then s.1 else swp [] s.1 (pv s.1 c M.length) c) c M.length,s.2.1 + (if pv s.1 c M.length = c then 0 else 1),-1)
theorem redM_len (M:List (List Qi)) (c r:Nat):(redM M c r).length = M.length:=tab_len _ _
theorem redM_shp {M:List (List Qi)} {n m c r:Nat} (h:Shp M n m):Shp (redM M c r) n m:=by
 refine ⟨(redM_len _ _ _).trans h.1,fun x hx=>?_⟩
 obtain ⟨i,hi,rfl⟩:=tab_mem.1 hx
 have hr:=h.row (i:=i) (by rw [← h.1]; exact hi)
 show (if c < i ∧ i < r then redR (rw' M i) (rw' M c) c (rw' M i).length else rw' M i).length = m
 split
 ·rw [redR,tab_len]; exact hr
 ·exact hr
theorem swp_shp {M:List (List Qi)} {n m p c:Nat} (h:Shp M n m) (hp:p < n) (hc:c < n):Shp (swp [] M p c) n m:=by
 refine ⟨(swp_len _ _ _ _).trans h.1,fun x hx=>?_⟩
 unfold swp at hx
 rcases List.mem_or_eq_of_mem_set hx with h1 | h1
 ·rcases List.mem_or_eq_of_mem_set h1 with h2 | h2
  ·exact h.2 x h2
  ·rw [h2]; exact h.row hc
 ·rw [h1]; exact h.row hp
theorem elim_shp {M : List (List Qi)} {n m : Nat} (h : Shp M n m) : ∀ {c : Nat}, c ≤ n → Shp (elimTo M c).1 n m
 | 0,_=>h
 | c + 1, hc => by
  have ih:=elim_shp h (c:=c) (by omega)
  obtain ⟨_,_,i3,_⟩:=pv_spec (M:=(elimTo M c).1) (c:=c) (n:=M.length) (by rw [h.1]; omega)
  simp only [elimTo]
  split
  ·exact ih
  ·split
   ·exact ih
   ·rename_i e
    apply redM_shp
    split
    ·exact ih
    ·exact swp_shp ih (by rw [← h.1]; omega) (by omega)
def grow (L : Nat) : Nat → Nat
 | 0=>L
 | c + 1=>6 * grow L c + 4
theorem grow_mono (L : Nat) : ∀ {c d : Nat}, c ≤ d → grow L c ≤ grow L d
 | c,0,h=>by rw [show c = 0 by omega]; exact Nat.le_refl _
 | c, d + 1, h => by
  by_cases e:c = d + 1
  ·rw [e]; exact Nat.le_refl _
  ·have := grow_mono L (c := c) (d := d) (by omega)
   simp only [grow]; omega
theorem grow_le (L c:Nat):L ≤ grow L c:=grow_mono L (Nat.zero_le c)
theorem elt_fit {rr rc:List Qi} {L c j:Nat} (h1:FitL rr L) (h2:FitL rc L) (hL:1 ≤ L) (hp:gv rc c ≠ Qi.zero):FitC (gv rr j - gv rr c / gv rc c * gv rc j) (6 * L + 4):=by
 haveI f1:=h1.get hL j; haveI f2:=h1.get hL c; haveI f3:=h2.get hL c; haveI f4:=h2.get hL j
 haveI g:FitC (gv rr c / gv rc c) (L + 3 * L + 2):=⟨f2.fit.div f3.fit hp⟩
 have:FitC (gv rr j - gv rr c / gv rc c * gv rc j) (L + (L + 3 * L + 2 + L + 1) + 1):=inferInstance
 exact this.le (by omega)
theorem swp_fit {M : List (List Qi)} {L p c : Nat} (h : FitM M L) : FitM (swp [] M p c) L := fun x hx => by
 unfold swp at hx
 rcases List.mem_or_eq_of_mem_set hx with h1 | h1
 ·rcases List.mem_or_eq_of_mem_set h1 with h2 | h2
  ·exact h x h2
  ·rw [h2]; exact h.row c
 ·rw [h1]; exact h.row p
theorem swp_at {M:List (List Qi)} {p c:Nat} (hc:c < M.length):rw' (swp [] M p c) c = rw' M p:=by
 simp [rw',swp,List.getD,hc]
theorem redM_at {M:List (List Qi)} {c r i:Nat} (hi:i < M.length) (h:¬ (c < i ∧ i < r)):rw' (redM M c r) i = rw' M i:=by
 simp only [rw',redM,List.getD]
 rw [tab_get hi,if_neg h]; rfl
theorem set_set' {M:List (List Qi)} {r:Nat} {x y:List Qi}:(M.set r x).set r y = M.set r y:=List.set_set ..
theorem rw_set {M:List (List Qi)} {r:Nat} {x:List Qi} (h:r < M.length):rw' (M.set r x) r = x:=by simp [rw',List.getD,h]
theorem rw_set_ne {M:List (List Qi)} {r i:Nat} {x:List Qi} (h:r ≠ i):rw' (M.set r x) i = rw' M i:=by simp [rw',List.getD,List.getElem?_set_ne h]
theorem set_rw {M:List (List Qi)} {r:Nat} (h:r < M.length):M.set r (rw' M r) = M:=by
 apply List.ext_getElem?
 intro j
 by_cases e:j = r
 ·subst e; rw [List.getElem?_set_self h]; simp [rw',List.getD,h]
 ·rw [List.getElem?_set_ne (Ne.symm e)]
end
end Go.Proofs.YteimkhgiekndjaaGreat
