/- What functions of the program compute, proved by walks over their code, and the plain mathematics of it; a part of the proof in the last text. -/
import Derived.Test.YteimkhgiekndjaaGreatP03
set_option linter.unusedVariables false
set_option linter.unusedSimpArgs false
set_option maxRecDepth 100000
set_option maxHeartbeats 4000000
namespace Go.Proofs.YteimkhgiekndjaaGreat
section
open Go Go.RowKit
theorem c_rsigned {b : Bool} {m : Nat} : Fun Tryz.prog 255 [BoolT b, NatT m] (WholeT (sgn b m)) := by
 refine Fun.intro Tryz.func255 rfl Tryz.ntmps255 rfl (fun cx => (ts (rn rfl (eG (Ts := [Is (.bool false), Is (.slice none 0 0)]) O_96 rfl (fun V => aW ⟨rfl, trivial⟩ (aW ⟨rfl, trivial⟩ (aG)))) fun B4 => (eZ (ts (rm rfl (rm rfl (fX rfl rfl (eU rfl rfl (Ht rfl) (fun h => cZ (Ht rfl))) (fX rfl rfl (eU rfl rfl (Ht rfl) (fun h => dK U_40 (fV rfl h) len_map)) (fX rfl rfl (eU rfl rfl (Ht rfl) (fun h => op_gtrN (fV rfl h) (cV 0))) (ro rfl (op_and (Ht rfl) (fun h => (fV rfl h))) (rm rfl ?_))))))))))))
 refine ro rfl (bld_96_0_1 (Ht rfl) (Ht rfl)) (gX Z_96 (Ht rfl) (Ht rfl) rfl (i := 0) rfl (aK rfl) rfl rfl (eZ (fG rfl (fZ (fU A_96 Z_96 rfl (i := 0) rfl rfl) ?_))))
 exact sgn_of
theorem c_rIntOf {n : Int} (h1 : -9223372036854775808 ≤ n) (h2 : n ≤ 9223372036854775807) : Fun Tryz.prog 216 [IntT .i64 n] (WholeT n) := by
 refine Fun.intro Tryz.func216 rfl Tryz.ntmps216 rfl (fun cx => (ts (rn rfl (eG (Ts := [Is (.bool false), Is (.slice none 0 0)]) O_96 rfl (fun V => aW ⟨rfl, trivial⟩ (aW ⟨rfl, trivial⟩ (aG)))) fun B2 => (eZ (cU (ts (rm rfl (ro rfl (op_lss (Ht rfl) cW) (eZ (dX (Ht rfl) (fun hb => ?_) (fun hb => ?_)))))))))))
 ·have hn : n < 0 := by simpa using hb
  refine ts (rm rfl (ro rfl (op_neg (Ht rfl) (r := IntKind.i64.wrap (-n)) rfl) ?_))
  refine ro rfl (op_conv U_2 U_256 (Ht rfl) (r := ((n.natAbs : Nat) : Int)) (by rw [IntKind.wrap_u64, IntKind.wrap_i64]; omega)) ?_
  refine ro rfl (cJ Tryz.call262 (c_rNatOf (by omega)) ⟨(Ht rfl), trivial⟩) (ro rfl (bld_96_0_1 cW (Ht rfl)) (gX Z_96 (Ht rfl) (Ht rfl) rfl (i := 0) rfl (aK rfl) rfl rfl (eZ (fG rfl (fZ (fU A_96 Z_96 rfl (i := 0) rfl rfl) ?_)))))
  exact (agg_of (by rw [hb]; rfl))
 ·have hn : ¬ n < 0 := by simpa using hb
  refine cY (ts (rm rfl (ro rfl (op_conv U_2 U_256 (Ht rfl) (r := ((n.natAbs : Nat) : Int)) (by rw [IntKind.wrap_u64]; omega)) ?_)))
  refine ro rfl (cJ Tryz.call262 (c_rNatOf (by omega)) ⟨(Ht rfl), trivial⟩) (ro rfl (bld_96_0_1 cW (Ht rfl)) (gX Z_96 (Ht rfl) (Ht rfl) rfl (i := 0) rfl (aK rfl) rfl rfl (eZ (fG rfl (fZ (fU A_96 Z_96 rfl (i := 0) rfl rfl) ?_)))))
  exact (agg_of (by rw [hb]; rfl))
theorem c_rIntNeg {x : Int} : Fun Tryz.prog 217 [WholeT x] (WholeT (-x)) := by
 refine Fun.intro Tryz.func217 rfl Tryz.ntmps217 rfl (fun cx => (ts (rn rfl (fK (Ht rfl)) fun B1 => (rn rfl (eG (Ts := [Is (.bool false), Is (.slice none 0 0)]) O_96 rfl (fun V => aW ⟨rfl, trivial⟩ (aW ⟨rfl, trivial⟩ (aG)))) fun B2 => (eZ (ts (ro rfl (eJ fa_96_0 (Ht rfl) rfl) (ro rfl (fQ A_4 Z_4 (Ht rfl) (i := 0) rfl rfl) (ro rfl (op_not (Ht rfl)) (ro rfl (eJ fa_96_1 (Ht rfl) rfl) (ro rfl (fQ A_40 Z_40 (Ht rfl) (i := 0) rfl rfl) (ro rfl (cJ Tryz.call255 c_rsigned ⟨(Ht rfl), (Ht rfl), trivial⟩) ?_))))))))))))
 refine gX Z_96 (Ht rfl) (Ht rfl) rfl (i := 1) rfl (aK rfl) rfl rfl (eZ (fG rfl (fZ (fU A_96 Z_96 rfl (i := 1) rfl rfl) ?_)))
 exact (whole_of (sgn_minus x))
theorem c_rMake {A B : Int} {D : Nat} (hD : 0 < D) (hA : (dg A.natAbs).length ≤ 17592186044415) (hB : (dg B.natAbs).length ≤ 17592186044415) (hD2 : (dg D).length ≤ 17592186044415) : Fun Tryz.prog 201 [WholeT A, WholeT B, NatT D] (QT (Qi.mk' A B D)) := by
 have hg1 := dl_gcd hA hB
 have hg2 := dl_gcd hg1 hD2
 have hgp : Nat.gcd (Nat.gcd A.natAbs B.natAbs) D ≠ 0 := fun e => by have := Nat.gcd_eq_zero_iff.1 e; omega
 refine Fun.intro Tryz.func201 rfl Tryz.ntmps201 rfl (fun cx => (ts (rn rfl (fK (Ht rfl)) fun B3 => (rn rfl (fK (Ht rfl)) fun B4 => (rn rfl (eG (Ts := [Is (.bool false), Is (.slice none 0 0), Is (.bool false), Is (.slice none 0 0), Is (.slice none 0 0)]) O_98 rfl (fun V => aW ⟨rfl, trivial⟩ (aW ⟨rfl, trivial⟩ (aW ⟨rfl, trivial⟩ (aW ⟨rfl, trivial⟩ (aW ⟨rfl, trivial⟩ (aG))))))) fun B6 => (eZ (ts (ro rfl (eJ fa_96_1 (Ht rfl) rfl) (ro rfl (fQ A_40 Z_40 (Ht rfl) (i := 0) rfl rfl) ?_)))))))))
 refine ro rfl (eJ fa_96_1 (Ht rfl) rfl) (ro rfl (fQ A_40 Z_40 (Ht rfl) (i := 1) rfl rfl) (ro rfl (cJ Tryz.call253 (c_rGcd (by omega) (by omega)) ⟨(Ht rfl), (Ht rfl), trivial⟩) (rm rfl (ro rfl (cJ Tryz.call253 (c_rGcd (by omega) (by omega)) ⟨(Ht rfl), (Ht rfl), trivial⟩) (ra rfl (eZ (cU (ts (rm rfl (ro rfl (dK U_40 (Ht rfl) len_map) (ro rfl (op_eqlN (Ht rfl) (cV 1)) (rm rfl (fX rfl rfl (eU rfl rfl (Ht rfl) (fun h => cZ (Ht rfl))) (fX rfl rfl (eU rfl rfl (Ht rfl) (fun h => dJ U_40 Z_207 (fV rfl h) (cV 0) rfl (eQ (get_some (by first | omega | (simp at h; omega)))))) ?_))))))))))))))
 refine fX rfl rfl (eU rfl rfl (Ht rfl) (fun h => dV A_207 Z_207 (fV rfl h))) (fX rfl rfl (eU rfl rfl (Ht rfl) (fun h => op_eqlN (fV rfl h) (cV 1))) (ro rfl (op_and (Ht rfl) (fun h => (fV rfl h))) (eZ (dX (Ht rfl) (fun hb => ?_) (fun hb => ?_)))))
 ·rw [one_dg] at hb
  have hg : Qi.g3 A B D = 1 := by simpa [Qi.g3] using hb
  refine ts (ro rfl (eW A_96 Z_96 (Ht rfl) (i := 0) rfl rfl rfl) (ro rfl (eW A_96 Z_96 (Ht rfl) (i := 1) rfl rfl rfl) (rm rfl (ro rfl (bld_98_0_1_2 (Ht rfl) (Ht rfl) (Ht rfl)) (gX Z_98 (Ht rfl) (Ht rfl) rfl (i := 2) rfl (aK rfl) rfl rfl (eZ (fG rfl (fZ (fU A_98 Z_98 rfl (i := 2) rfl rfl) ?_))))))))
  exact (make_one hD hg)
 ·refine cY (ts (ro rfl (eJ fa_96_1 (Ht rfl) rfl) (ro rfl (fQ A_40 Z_40 (Ht rfl) (i := 0) rfl rfl) (rm rfl (ro rfl (cJ K_254 (c_rDiv (by omega) (by omega) (by omega)) ⟨(Ht rfl), (Ht rfl), trivial⟩) (rm rfl (ro rfl (dU (Ht rfl) rfl) (ro rfl (dU (Ht rfl) rfl) (ra rfl (ra rfl (eZ (ts (ro rfl (eJ fa_96_1 (Ht rfl) rfl) (ro rfl (fQ A_40 Z_40 (Ht rfl) (i := 1) rfl rfl) (rm rfl (ro rfl (cJ K_254 (c_rDiv (by omega) (by omega) (by omega)) ⟨(Ht rfl), (Ht rfl), trivial⟩) (rm rfl (ro rfl (dU (Ht rfl) rfl) ?_))))))))))))))))))
  refine ro rfl (dU (Ht rfl) rfl) (ra rfl (ra rfl (eZ (ts (rm rfl (rm rfl (ro rfl (cJ K_254 (c_rDiv (by omega) (by omega) (by omega)) ⟨(Ht rfl), (Ht rfl), trivial⟩) (rm rfl (ro rfl (dU (Ht rfl) rfl) (ro rfl (dU (Ht rfl) rfl) (ra rfl (ra rfl (eZ (cU (fJ (m := 9) (dp 3 rfl (eJ fa_96_0 (Ht rfl) rfl) (dq 54 0 rfl (fQ A_4 Z_4 (Ht rfl) (i := 0) rfl rfl) (dp 8 rfl (cZ (Ht rfl)) (dqq 55 1 56 2 rfl (cJ Tryz.call255 c_rsigned ⟨(Ht rfl), (Ht rfl), trivial⟩) (dp 4 rfl (eJ fa_96_0 (Ht rfl) rfl) ?_))))))))))))))))))))
  refine dq 58 4 rfl (fQ A_4 Z_4 (Ht rfl) (i := 1) rfl rfl) (dp 10 rfl (cZ (Ht rfl)) (dqq 59 5 60 6 rfl (cJ Tryz.call255 c_rsigned ⟨(Ht rfl), (Ht rfl), trivial⟩) (dp 12 rfl (cZ (Ht rfl)) (fW mixed rfl (by kernel_rfl) (aJ (aJ (aJ (aJ (aJ (aJ (aJ (aJ (aJ (aV (ro rfl (bld_98_0_1_2 (Ht rfl) (Ht rfl) (Ht rfl)) (gX Z_98 (Ht rfl) (Ht rfl) rfl (i := 2) rfl (aK rfl) rfl rfl (eZ (fG rfl (fZ (fU A_98 Z_98 rfl (i := 2) rfl rfl) ?_)))))))))))))))))))
  exact (make_sgn hD rfl)
theorem c_rNew {p q d : Int} (p1 : -9223372036854775808 ≤ p) (p2 : p ≤ 9223372036854775807) (q1 : -9223372036854775808 ≤ q) (q2 : q ≤ 9223372036854775807) (d1 : -9223372036854775808 ≤ d) (d2 : d ≤ 9223372036854775807) (hd : d ≠ 0) : Fun Tryz.prog 116 [IntT .i64 p, IntT .i64 q, IntT .i64 d] (TupT [QT (Qi.frac p q d), IntT .i64 0]) := by
 have lp := dl64 p1 p2; have lq := dl64 q1 q2; have ld := dl64 d1 d2; have np := dl_neg p; have nq := dl_neg q
 refine Fun.intro Tryz.func116 rfl Tryz.ntmps116 rfl (fun cx => (ts (rn rfl (eG (Ts := [Is (.bool false), Is (.slice none 0 0), Is (.bool false), Is (.slice none 0 0), Is (.slice none 0 0)]) O_98 rfl (fun V => aW ⟨rfl, trivial⟩ (aW ⟨rfl, trivial⟩ (aW ⟨rfl, trivial⟩ (aW ⟨rfl, trivial⟩ (aW ⟨rfl, trivial⟩ (aG))))))) fun B6 => (ro rfl (cX (cV 0)) (eZ (cU (ts (rm rfl (ro rfl (op_eql (Ht rfl) cW) (eZ (T_condF (Ht rfl) (by simp [hd]) ?_)))))))))))
 refine cY (ts (rm rfl (ro rfl (cJ Tryz.call216 (c_rIntOf d1 d2) ⟨(Ht rfl), trivial⟩) (rn rfl (eG (Ts := [Is (.bool false), Is (.slice none 0 0)]) O_96 rfl (fun V => aW ⟨rfl, trivial⟩ (aW ⟨rfl, trivial⟩ (aG)))) fun B8 => (gX Z_96 (Ht rfl) (Ht rfl) rfl (i := 1) rfl (aK rfl) rfl rfl (eZ (ts (rm rfl (ro rfl (cJ Tryz.call216 (c_rIntOf p1 p2) ⟨(Ht rfl), trivial⟩) (rm rfl (ro rfl (cJ Tryz.call216 (c_rIntOf q1 q2) ⟨(Ht rfl), trivial⟩) (rn rfl (eG (Ts := [Is (.bool false), Is (.slice none 0 0)]) O_96 rfl (fun V => aW ⟨rfl, trivial⟩ (aW ⟨rfl, trivial⟩ (aG)))) fun B9 => ?_))))))))))))
 refine rn rfl (eG (Ts := [Is (.bool false), Is (.slice none 0 0)]) O_96 rfl (fun V => aW ⟨rfl, trivial⟩ (aW ⟨rfl, trivial⟩ (aG)))) fun B10 => gX Z_96 (Ht rfl) (Ht rfl) rfl (i := 2) rfl (aK rfl) rfl rfl (gX Z_96 (Ht rfl) (Ht rfl) rfl (i := 3) rfl (aK rfl) rfl rfl (eZ (cU (T_join2 (fun (a : Int) (b : Int) => Qi.mk' a b d.natAbs = Qi.frac p q d ∧ (dg a.natAbs).length ≤ 2 ∧ (dg b.natAbs).length ≤ 2) (fun (a : Int) (b : Int) => [(6, PtrB B6 0), (8, PtrB B8 0), (9, PtrB B9 0), (10, PtrB B10 0)]) (fun (a : Int) (b : Int) => [box B6 98 [Is (.bool false), Is (.slice none 0 0), Is (.bool false), Is (.slice none 0 0), Is (.slice none 0 0)], box B8 96 [BoolT (decide (d < 0)), NatT (d).natAbs], box B9 96 [BoolT (decide (a < 0)), NatT (a).natAbs], box B10 96 [BoolT (decide (b < 0)), NatT (b).natAbs]]) ?_ (fun a b ⟨hab, ha, hb⟩ => ?_)))))
 ·refine ts (ro rfl (eJ fa_96_0 (Ht rfl) rfl) (ro rfl (fQ A_4 Z_4 (Ht rfl) (i := 1) rfl rfl) (eZ (dX (Ht rfl) (fun hn => ?_) (fun hn => ?_)))))
  ·simp only [decide_eq_true_eq] at hn
   refine fJ (m := 3) (dp 9 rfl (eW A_96 Z_96 (Ht rfl) (i := 2) rfl rfl rfl) (dq 22 0 rfl (cJ Tryz.call217 c_rIntNeg ⟨(Ht rfl), trivial⟩) (dp 10 rfl (eW A_96 Z_96 (Ht rfl) (i := 3) rfl rfl rfl) (fW mixed rfl (by kernel_rfl) (aJ (aJ (aJ (aV (ro rfl (cJ Tryz.call217 c_rIntNeg ⟨(Ht rfl), trivial⟩) (gX Z_96 (Ht rfl) (Ht rfl) rfl (i := 2) rfl (aK rfl) rfl rfl (gX Z_96 (Ht rfl) (Ht rfl) rfl (i := 3) rfl (aK rfl) rfl rfl (eZ (T_joined (-p, -q) ⟨Qi.frac_neg hn, by dsimp only; omega, by dsimp only; omega⟩ (aQ rfl (aQ rfl (aQ rfl (aQ rfl aX)))) (aU (box_of rfl) (aU (box_of rfl) (aU (box_of rfl) (aU (box_of rfl) aY)))))))))))))))))
  ·simp only [decide_eq_false_iff_not] at hn
   refine cY (T_joined (p, q) ⟨Qi.frac_pos hn hd, by omega, by omega⟩ (aQ rfl (aQ rfl (aQ rfl (aQ rfl aX)))) (HSub.refl _))
 ·refine ts (ro rfl (eW A_96 Z_96 (Ht rfl) (i := 2) rfl rfl rfl) (ro rfl (eW A_96 Z_96 (Ht rfl) (i := 3) rfl rfl rfl) (ro rfl (eJ fa_96_1 (Ht rfl) rfl) (ro rfl (fQ A_40 Z_40 (Ht rfl) (i := 1) rfl rfl) (ro rfl (cJ Tryz.call201 (c_rMake (by omega) (by omega) (by omega) (by omega)) ⟨(Ht rfl), (Ht rfl), (Ht rfl), trivial⟩) (gX Z_98 (Ht rfl) (Ht rfl) rfl (i := 0) rfl (aK rfl) rfl rfl (ro rfl (cX (cV 0)) (eZ (T_ret2 rfl (fZ (fU A_98 Z_98 rfl (i := 0) rfl rfl) ?_) (eY rfl))))))))))
  exact (q_of hab)
theorem c_rOf {r : Rt} : Fun Tryz.prog 52 [RatT r] (QT r.q) := by
 have hr1 := r.h1; have hr2 := r.h2; have hr3 := r.h3; have hr4 := r.h4; have hr5 := r.d1; have hr6 := r.d2; have hr0 := r.d0
 refine Fun.intro Tryz.func52 rfl Tryz.ntmps52 rfl (fun cx => (ts (rn rfl (fK (Ht rfl)) fun B1 => (rn rfl (eG (Ts := [Is (.bool false), Is (.slice none 0 0), Is (.bool false), Is (.slice none 0 0), Is (.slice none 0 0)]) O_98 rfl (fun V => aW ⟨rfl, trivial⟩ (aW ⟨rfl, trivial⟩ (aW ⟨rfl, trivial⟩ (aW ⟨rfl, trivial⟩ (aW ⟨rfl, trivial⟩ (aG))))))) fun B2 => (eZ (cU (T_join (fun (uu : Unit) => True) (fun (uu : Unit) => [(1, PtrB B1 0), (2, PtrB B2 0)]) (fun (uu : Unit) => [box B1 91 [IntT .i64 r.re, IntT .i64 r.im, IntT .i64 r.d], box B2 98 [Is (.bool false), Is (.slice none 0 0), Is (.bool false), Is (.slice none 0 0), Is (.slice none 0 0)]]) ?_ (fun uu _ => ?_))))))))
 ·refine ts (ro rfl (eJ fa_91_2 (Ht rfl) rfl) (ro rfl (fQ A_2 Z_2 (Ht rfl) (i := 0) rfl rfl) (ro rfl (op_eql (Ht rfl) cW) (eZ (dX (Ht rfl) (fun hb => ?_) (fun hb => ?_))))))
  ·simp only [decide_eq_true_eq] at hb
   refine dQ (ro rfl (eJ fa_91_2 (Ht rfl) rfl) (R_st Z_2 (Ht rfl) (cV 1) (i := 0) rfl (aK rfl) rfl (eZ (T_joined () trivial (aQ rfl (aQ rfl aX)) (aU (box_of (by rw [Rt.d, if_pos hb]; rfl)) (aU (box_of rfl) aY))))))
  ·simp only [decide_eq_false_iff_not] at hb
   refine cY (T_joined () trivial (aQ rfl (aQ rfl aX)) (aU (box_of (by rw [Rt.d, if_neg hb])) (aU (box_of rfl) aY)))
 ·refine ts (ro rfl (eJ fa_91_0 (Ht rfl) rfl) (ro rfl (fQ A_2 Z_2 (Ht rfl) (i := 0) rfl rfl) (ro rfl (eJ fa_91_1 (Ht rfl) rfl) (ro rfl (fQ A_2 Z_2 (Ht rfl) (i := 0) rfl rfl) (ro rfl (eJ fa_91_2 (Ht rfl) rfl) (ro rfl (fQ A_2 Z_2 (Ht rfl) (i := 0) rfl rfl) (ro rfl (cJ Tryz.call116 (c_rNew hr1 hr2 hr3 hr4 hr5 hr6 hr0) ⟨(Ht rfl), (Ht rfl), (Ht rfl), trivial⟩) (rm rfl (ro rfl (dU (Ht rfl) rfl) (ro rfl (dU (Ht rfl) rfl) (rn rfl (eG (Ts := [Is (.bool false), Is (.slice none 0 0), Is (.bool false), Is (.slice none 0 0), Is (.slice none 0 0)]) O_98 rfl (fun V => aW ⟨rfl, trivial⟩ (aW ⟨rfl, trivial⟩ (aW ⟨rfl, trivial⟩ (aW ⟨rfl, trivial⟩ (aW ⟨rfl, trivial⟩ (aG))))))) fun B3 => ?_)))))))))))
  refine gX Z_98 (Ht rfl) (Ht rfl) rfl (i := 2) rfl (aK rfl) rfl rfl (ra rfl (eZ (ts (ro rfl (eW A_98 Z_98 (Ht rfl) (i := 2) rfl rfl rfl) (gX Z_98 (Ht rfl) (Ht rfl) rfl (i := 1) rfl (aK rfl) rfl rfl (eZ ?_))))))
  exact fG rfl (fU A_98 Z_98 rfl (i := 1) rfl rfl)
theorem c_rIm {x : Qi} {L : Nat} [hx : FitC x L] (h : L ≤ 17592186044415) : Fun Tryz.prog 265 [QT x] (QT x.imp) := by
 have hxa := Fit_a hx.fit; have hxb := Fit_b hx.fit; have hxd := Fit_d hx.fit
 have hxp := x.den_pos
 have h5 : (dg (0 : Int).natAbs).length ≤ 0 := by rw [show (0 : Int).natAbs = 0 from rfl, dg_zero]; exact Nat.le_refl _
 refine Fun.intro Tryz.func265 rfl Tryz.ntmps265 rfl (fun cx => (ts (rn rfl (fK (Ht rfl)) fun B1 => (rn rfl (eG (Ts := [Is (.bool false), Is (.slice none 0 0), Is (.bool false), Is (.slice none 0 0), Is (.slice none 0 0)]) O_98 rfl (fun V => aW ⟨rfl, trivial⟩ (aW ⟨rfl, trivial⟩ (aW ⟨rfl, trivial⟩ (aW ⟨rfl, trivial⟩ (aW ⟨rfl, trivial⟩ (aG))))))) fun B2 => (eZ (ts (ro rfl (eJ fa_98_1 (Ht rfl) rfl) (ro rfl (eW A_96 Z_96 (Ht rfl) (i := 0) rfl rfl rfl) (ro rfl (OpTy.imp (bld_96_ ) zero_whole) ?_)))))))))
 refine ro rfl (eJ fa_98_2 (Ht rfl) rfl) (ro rfl (fQ A_40 Z_40 (Ht rfl) (i := 0) rfl rfl) (ro rfl (cJ Tryz.call201 (c_rMake (by first | assumption | omega) (by omega) (by omega) (by omega)) ⟨(Ht rfl), (Ht rfl), (Ht rfl), trivial⟩) (gX Z_98 (Ht rfl) (Ht rfl) rfl (i := 1) rfl (aK rfl) rfl rfl (eZ (fG rfl (fZ (fU A_98 Z_98 rfl (i := 1) rfl rfl) ?_))))))
 exact (q_of (Qi.mk_im0 x))
theorem c_rSign {x : Qi} : Fun Tryz.prog 226 [QT x] (IntT .i64 (cmpI x.a 0)) := by
 refine Fun.intro Tryz.func226 rfl Tryz.ntmps226 rfl (fun cx => (ts (rn rfl (fK (Ht rfl)) fun B1 => (ro rfl (cX (cV 0)) (eZ (cU (ts (ro rfl (eJ fa_98_0 (Ht rfl) rfl) (ro rfl (eJ fa_96_0 (Ht rfl) rfl) (ro rfl (fQ A_4 Z_4 (Ht rfl) (i := 0) rfl rfl) (eZ (dX (Ht rfl) (fun hb => ?_) (fun hb => ?_)))))))))))))
 ·simp only [decide_eq_true_eq] at hb
  refine ts (ro rfl (cX cW) (eZ (fG rfl (fZ (eY rfl) ?_))))
  exact (int_of (by rw [cmpI, if_pos hb]))
 ·simp only [decide_eq_false_iff_not] at hb
  refine cY (cU (ts (ro rfl (eJ fa_98_0 (Ht rfl) rfl) (ro rfl (eJ fa_96_1 (Ht rfl) rfl) (ro rfl (fQ A_40 Z_40 (Ht rfl) (i := 0) rfl rfl) (ro rfl (dK U_40 (Ht rfl) len_map) (ro rfl (op_gtrN (Ht rfl) (cV 0)) (eZ (dX (Ht rfl) (fun hc => ?_) (fun hc => ?_))))))))))
  ·simp only [decide_eq_true_eq] at hc
   have h0 : x.a ≠ 0 := fun e => by rw [e] at hc; simp [dg_zero] at hc
   refine ts (ro rfl (cX (cV 1)) (eZ (fG rfl (fZ (eY rfl) ?_))))
   exact (int_of (by rw [cmpI, if_neg hb, if_pos (by omega)]; rfl))
  ·simp only [decide_eq_false_iff_not] at hc
   have h0 : x.a = 0 := by have := dg_length_zero.1 (Nat.eq_zero_of_not_pos hc); omega
   refine cY (ts (ro rfl (cX (cV 0)) (eZ (fG rfl (fZ (eY rfl) ?_)))))
   exact (int_of (by rw [cmpI, if_neg hb, if_neg (by omega)]; rfl))
theorem c_rSide {x : Qi} {L : Nat} [hx : FitC x L] (h : L ≤ 17592186044415) : Fun Tryz.prog 225 [QT x] (IntT .i64 (cmpI x.b 0)) := by
 refine Fun.intro Tryz.func225 rfl Tryz.ntmps225 rfl (fun cx => (ts (rn rfl (fK (Ht rfl)) fun B1 => (ro rfl (cX (cV 0)) (eZ (ts (ro rfl (eW A_98 Z_98 (Ht rfl) (i := 0) rfl rfl rfl) (ro rfl (cJ Tryz.call265 (c_rIm (by omega)) ⟨(Ht rfl), trivial⟩) (ro rfl (cJ Tryz.call226 c_rSign ⟨(Ht rfl), trivial⟩) (ra rfl (eZ (fG rfl (fZ (eY rfl) ?_)))))))))))))
 exact (int_of (sgn_imp x))
theorem c_Div {x y : Qi} {L M : Nat} [hx : FitC x L] [hy : FitC y M] (h : L + 3 * M + 2 ≤ 17592186044415) : Fun Tryz.prog 59 [NumT x, NumT y] (TupT [NumT (x / y), IntT .i64 (if y = Qi.zero then 3 else 0)]) := by
 have hxa := Fit_a hx.fit; have hxb := Fit_b hx.fit; have hxd := Fit_d hx.fit
 have hya := Fit_a hy.fit; have hyb := Fit_b hy.fit; have hyd := Fit_d hy.fit
 have hxp := x.den_pos; have hyp := y.den_pos; have hMp := hy.pos
 refine Fun.intro Tryz.func59 rfl Tryz.ntmps59 rfl (fun cx => (ts (rn rfl (fK (Ht rfl)) fun B2 => (rn rfl (fK (Ht rfl)) fun B3 => (rn rfl (eG (Ts := [Is (.bool false), Is (.slice none 0 0), Is (.bool false), Is (.slice none 0 0), Is (.slice none 0 0)]) O_45 rfl (fun V => aW ⟨rfl, trivial⟩ (aW ⟨rfl, trivial⟩ (aW ⟨rfl, trivial⟩ (aW ⟨rfl, trivial⟩ (aW ⟨rfl, trivial⟩ (aG))))))) fun B4 => (ro rfl (cX (cV 0)) (eZ (cU (ts (ro rfl (eW A_45 Z_45 (Ht rfl) (i := 1) rfl rfl rfl) ?_))))))))))
 refine ro rfl (cJ Tryz.call163 (c_Clear (by omega)) ⟨(Ht rfl), trivial⟩) (ro rfl (op_not (Ht rfl)) (eZ (dX (Ht rfl) (fun hb => ?_) (fun hb => ?_))))
 ·have h0 : y = Qi.zero := by simpa using hb
  refine ts (ro rfl (OpTy.imp (bld_45_ ) num_zero) (gX Z_45 (Ht rfl) (Ht rfl) rfl (i := 2) rfl (aK rfl) rfl rfl (ro rfl (cX (cV 3)) (eZ (T_ret2 rfl (fZ (fU A_45 Z_45 rfl (i := 2) rfl rfl) ?_) (fZ (eY rfl) ?_))))))
  ·exact (num_of (by rw [h0, Qi.div_zero]))
  ·exact (int_of (by rw [if_pos h0]; rfl))
 ·have h0 : y ≠ Qi.zero := by simpa using hb
  have g1 := dl_absmul y.a y.a; have g2 := dl_absmul y.b y.b; have g3 := dl_neg y.b
  have g4 := dl_absadd (x := y.a * y.a) (y := y.b * y.b) (L := M + M) (by omega) (by omega)
  obtain ⟨c, hc⟩ : ∃ c, c = Qi.mk' y.a (-y.b) 1 := ⟨_, rfl⟩
  obtain ⟨z, hz⟩ : ∃ z, z = x * c := ⟨_, rfl⟩
  have l1 : (dg 1).length ≤ 1 := by rw [dg_lit (by decide) (by decide)]; exact Nat.le_refl _
  haveI fc : FitC c M := hc ▸ ⟨Qi.Fit.mk (by decide) hy.fit.1 (by rw [Int.natAbs_neg]; exact hy.fit.2.1) (Qi.one_lt hMp)⟩
  haveI fz : FitC z (L + M + 1) := hz ▸ fitMul
  have hza := Fit_a fz.fit; have hzb := Fit_b fz.fit; have hzd := Fit_d fz.fit
  have hnp := Qi.nrm_int_pos h0
  have hm : (((y.a * y.a + y.b * y.b).natAbs : Nat) : Int) = y.a * y.a + y.b * y.b := Int.natAbs_of_nonneg (by omega)
  have hdp2 := Nat.mul_pos z.den_pos (show 0 < (y.a * y.a + y.b * y.b).natAbs by omega)
  have e1 := dl_absscaled z.a y.den; have e2 := dl_absscaled z.b y.den; have e3 := dl_mul z.den (y.a * y.a + y.b * y.b).natAbs
  refine cY (cU (fJ (m := 12) (dp 3 rfl (eJ fa_45_0 (Ht rfl) rfl) (dq 12 0 rfl (eW A_43 Z_43 (Ht rfl) (i := 1) rfl rfl rfl) (dp 3 rfl (eJ fa_45_0 (Ht rfl) rfl) (dq 14 2 rfl (eW A_43 Z_43 (Ht rfl) (i := 1) rfl rfl rfl) (dqq 13 1 15 3 rfl (cJ K_164 (c_times (by omega) (by omega)) ⟨(Ht rfl), (Ht rfl), trivial⟩) (dp 3 rfl (eJ fa_45_1 (Ht rfl) rfl) (dq 17 5 rfl (eW A_43 Z_43 (Ht rfl) (i := 1) rfl rfl rfl) (dp 3 rfl (eJ fa_45_1 (Ht rfl) rfl) (dq 19 7 rfl (eW A_43 Z_43 (Ht rfl) (i := 1) rfl rfl rfl) ?_)))))))))))
  refine dqq 18 6 20 8 rfl (cJ K_164 (c_times (by omega) (by omega)) ⟨(Ht rfl), (Ht rfl), trivial⟩) (dqq 16 4 21 9 rfl (cJ K_165 (c_plus (by omega) (by omega)) ⟨(Ht rfl), (Ht rfl), trivial⟩) (C.D_new (Ei := []) rfl rfl rfl bW (eG (Ts := [Is (.bool false), Is (.slice none 0 0)]) O_43 rfl (fun V => aW ⟨rfl, trivial⟩ (aW ⟨rfl, trivial⟩ (aG)))) (fW mixed rfl (by kernel_rfl) (aJ (aJ (aJ (aJ (aJ (aJ (aJ (aJ (aJ (aJ (aJ (C.F_new (fun B6 => aV (gX Z_43 (Ht rfl) (Ht rfl) rfl (i := 3) rfl (aK rfl) rfl rfl ?_)))))))))))))))))
  refine eZ (cU (fJ (m := 10) (dp 2 rfl (eW A_45 Z_45 (Ht rfl) (i := 0) rfl rfl rfl) (dp 3 rfl (eJ fa_45_0 (Ht rfl) rfl) (dq 24 1 rfl (eW A_43 Z_43 (Ht rfl) (i := 1) rfl rfl rfl) (dp 3 rfl (eJ fa_45_1 (Ht rfl) rfl) (dq 26 3 rfl (eW A_43 Z_43 (Ht rfl) (i := 1) rfl rfl rfl) (dq 27 4 rfl (cJ K_167 c_minus ⟨(Ht rfl), trivial⟩) (d0 rfl (OpTy.imp (op_bslice (xs := [_]) U_41 Z_207 O_207 (cG (cV 1) cK) rfl rfl rfl) one_natT) (C.D_step (Ei := [(25, _), (28, _), (29, _)]) rfl rfl (bV (bG 2 rfl rfl) (bV (bG 5 rfl rfl) (bV (bG 6 rfl rfl) bW))) (dZ rfl (OpTy.imp (cJ K_166 (c_over (by first | assumption | omega) (by omega) (by omega) (by omega)) ⟨(Ht rfl), (Ht rfl), (Ht rfl), trivial⟩) (num_of hc.symm))) ?_))))))))))
  refine dqq 23 0 30 7 rfl (OpTy.imp (cJ K_67 (c_Mul (by omega)) ⟨(Ht rfl), (Ht rfl), trivial⟩) (num_of hz.symm)) (C.D_new (Ei := []) rfl rfl rfl bW (eG (Ts := [Is (.bool false), Is (.slice none 0 0), Is (.bool false), Is (.slice none 0 0), Is (.slice none 0 0)]) O_45 rfl (fun V => aW ⟨rfl, trivial⟩ (aW ⟨rfl, trivial⟩ (aW ⟨rfl, trivial⟩ (aW ⟨rfl, trivial⟩ (aW ⟨rfl, trivial⟩ (aG))))))) (fW mixed rfl (by kernel_rfl) (aJ (aJ (aJ (aJ (aJ (aJ (aJ (aJ (aJ (C.F_new (fun B7 => aV ?_)))))))))))))
  refine gX Z_45 (Ht rfl) (Ht rfl) rfl (i := 4) rfl (aK rfl) rfl rfl (eZ (cU (fJ (m := 14) (dp 7 rfl (eJ fa_45_0 (Ht rfl) rfl) (dq 32 0 rfl (eW A_43 Z_43 (Ht rfl) (i := 4) rfl rfl rfl) (dp 3 rfl (eW A_45 Z_45 (Ht rfl) (i := 1) rfl rfl rfl) (dq 34 2 rfl (cJ K_169 c_den ⟨(Ht rfl), trivial⟩) (dqq 33 1 35 3 rfl (cJ K_168 (c_scaled (by omega) (by omega)) ⟨(Ht rfl), (Ht rfl), trivial⟩) (dp 7 rfl (eJ fa_45_1 (Ht rfl) rfl) (dq 37 5 rfl (eW A_43 Z_43 (Ht rfl) (i := 4) rfl rfl rfl) ?_))))))))))
  refine dp 3 rfl (eW A_45 Z_45 (Ht rfl) (i := 1) rfl rfl rfl) (dq 39 7 rfl (cJ K_169 c_den ⟨(Ht rfl), trivial⟩) (dqq 38 6 40 8 rfl (cJ K_168 (c_scaled (by omega) (by omega)) ⟨(Ht rfl), (Ht rfl), trivial⟩) (dp 7 rfl (eW A_45 Z_45 (Ht rfl) (i := 4) rfl rfl rfl) (dq 42 10 rfl (cJ K_169 c_den ⟨(Ht rfl), trivial⟩) (dp 6 rfl (eJ fa_43_1 (Ht rfl) rfl) (dq 44 12 rfl (fQ A_41 Z_41 (Ht rfl) (i := 3) rfl rfl) (fW mixed rfl (by kernel_rfl) (aJ (aJ (aJ (aJ (aJ (aJ (aJ (aJ (aJ (aJ (aJ (aJ (aJ (aJ (aV ?_))))))))))))))))))))))
  refine ro rfl (cJ Tryz.call170 (c_mul (by omega) (by omega)) ⟨(Ht rfl), (Ht rfl), trivial⟩) (ro rfl (cJ K_166 (c_over (by first | assumption | omega) (by omega) (by omega) (by omega)) ⟨(Ht rfl), (Ht rfl), (Ht rfl), trivial⟩) (gX Z_45 (Ht rfl) (Ht rfl) rfl (i := 2) rfl (aK rfl) rfl rfl (ro rfl (cX (cV 0)) (eZ (T_ret2 rfl (fZ (fU A_45 Z_45 rfl (i := 2) rfl rfl) ?_) (fZ (eY rfl) ?_))))))
  ·exact (num_of (Qi.mk_divP x h0 (hc ▸ hz) hm))
  ·exact (int_of (by rw [if_neg h0]; rfl))
theorem c_rhalf {a : Int} {d : Nat} (hd : 0 < d) (ha : (dg a.natAbs).length ≤ 8796093022208) (hd2 : (dg d).length ≤ 8796093022208) : Fun Tryz.prog 264 [WholeT a, NatT d] (StrT (ptxt a d)) := by
 have hg := dl_gcd ha hd2
 have hg0 : Nat.gcd a.natAbs d ≠ 0 := fun e => by have := Nat.gcd_eq_zero_iff.1 e; omega
 have h1 := dl_div a.natAbs (Nat.gcd a.natAbs d); have h2 := dl_div d (Nat.gcd a.natAbs d)
 rw [ptxt_eq a hd]
 obtain ⟨u, hu⟩ : ∃ u, u = a.natAbs / Nat.gcd a.natAbs d := ⟨_, rfl⟩
 obtain ⟨v, hv⟩ : ∃ v, v = d / Nat.gcd a.natAbs d := ⟨_, rfl⟩
 rw [← hu, ← hv]
 rw [← hu] at h1
 rw [← hv] at h2
 have h3 := dec_len u; have h4 := dec_len v
 refine Fun.intro Tryz.func264 rfl Tryz.ntmps264 rfl (fun cx => (ts (rn rfl (fK (Ht rfl)) fun B2 => (ro rfl (cX (Has.cS (l := []) rfl)) (eZ (ts (ro rfl (eJ fa_96_1 (Ht rfl) rfl) (ro rfl (fQ A_40 Z_40 (Ht rfl) (i := 0) rfl rfl) (rm rfl (ro rfl (cJ Tryz.call253 (c_rGcd (by omega) (by omega)) ⟨(Ht rfl), (Ht rfl), trivial⟩) (ra rfl (eZ (ts (ro rfl (eJ fa_96_1 (Ht rfl) rfl) (ro rfl (fQ A_40 Z_40 (Ht rfl) (i := 0) rfl rfl) (rm rfl (ro rfl (cJ K_254 (c_rDiv (by omega) (by omega) (by omega)) ⟨(Ht rfl), (Ht rfl), trivial⟩) ?_)))))))))))))))))
 refine rm rfl (ro rfl (OpTy.imp (dU (Ht rfl) rfl) (natT_of hu.symm)) (ro rfl (dU (Ht rfl) rfl) (ra rfl (ra rfl (eZ (ts (rm rfl (rm rfl (ro rfl (cJ K_254 (c_rDiv (by omega) (by omega) (by omega)) ⟨(Ht rfl), (Ht rfl), trivial⟩) (rm rfl (ro rfl (OpTy.imp (dU (Ht rfl) rfl) (natT_of hv.symm)) (ro rfl (dU (Ht rfl) rfl) (ra rfl (ra rfl (eZ (ts (rm rfl (ro rfl (cJ Tryz.call281 (c_rText (by omega)) ⟨(Ht rfl), trivial⟩) (ra rfl (eZ (cU (T_join (fun (uu : Unit) => True) (fun (uu : Unit) => [(8, NatT v), (10, StrT (if a < 0 then 45 :: dec u else dec u))]) (fun (uu : Unit) => [box B2 96 [BoolT (decide (a < 0)), NatT (a).natAbs]]) ?_ (fun uu _ => ?_)))))))))))))))))))))))
 ·refine ts (ro rfl (eJ fa_96_0 (Ht rfl) rfl) (ro rfl (fQ A_4 Z_4 (Ht rfl) (i := 0) rfl rfl) (eZ (dX (Ht rfl) (fun hb => ?_) (fun hb => ?_)))))
  ·simp only [decide_eq_true_eq] at hb
   refine dQ (rm rfl (ro rfl (op_addS (Has.cS (l := [45]) rfl) (Ht rfl) (by first | omega | (simp; omega))) (ra rfl (eZ (T_joined () trivial (aQ rfl (aZ rfl (str_to (by rw [if_pos hb]; rfl)) aX)) (HSub.refl _))))))
  ·simp only [decide_eq_false_iff_not] at hb
   refine cY (T_joined () trivial (aQ rfl (aZ rfl (str_to (by rw [if_neg hb])) aX)) (HSub.refl _))
 ·have h6 : (if a < 0 then 45 :: dec u else dec u).length ≤ (dec u).length + 1 := by split <;> simp
  refine cU (ts (rm rfl (ro rfl (dK U_40 (Ht rfl) len_map) (ro rfl (op_eqlN (Ht rfl) (cV 1)) (rm rfl (fX rfl rfl (eU rfl rfl (Ht rfl) (fun h => cZ (Ht rfl))) (fX rfl rfl (eU rfl rfl (Ht rfl) (fun h => dJ U_40 Z_207 (fV rfl h) (cV 0) rfl (eQ (get_some (by first | omega | (simp at h; omega)))))) (fX rfl rfl (eU rfl rfl (Ht rfl) (fun h => dV A_207 Z_207 (fV rfl h))) (fX rfl rfl (eU rfl rfl (Ht rfl) (fun h => op_eqlN (fV rfl h) (cV 1))) (ro rfl (op_and (Ht rfl) (fun h => (fV rfl h))) ?_))))))))))
  refine eZ (dX (Ht rfl) (fun hc => ?_) (fun hc => ?_))
  ·rw [one_dg] at hc
   have hv1 : v = 1 := by simpa using hc
   refine ts (rm rfl (ra rfl (eZ (fG rfl (fZ (eY rfl) ?_)))))
   exact (str_to (by rw [if_pos hv1, List.append_nil]))
  ·rw [one_dg] at hc
   have hv1 : v ≠ 1 := by simpa using hc
   refine cY (ts (rm rfl (ro rfl (op_addS (Ht rfl) (Has.cS (l := [47]) rfl) (by simp only [List.length_cons, List.length_nil]; omega)) ?_)))
   refine rm rfl (ro rfl (cJ Tryz.call281 (c_rText (by omega)) ⟨(Ht rfl), trivial⟩) (ro rfl (op_addS (Ht rfl) (Ht rfl) (by simp only [List.length_append, List.length_cons, List.length_nil]; omega)) ?_))
   refine ra rfl (eZ (fG rfl (fZ (eY rfl) ?_)))
   exact (str_to (by rw [if_neg hv1, List.append_assoc]; rfl))
theorem c_rTxt {x : Qi} {L : Nat} [hx : FitC x L] (h : L ≤ 8796093022208) : Fun Tryz.prog 223 [QT x] (StrT (txt x)) := by
 have hxa := Fit_a hx.fit; have hxb := Fit_b hx.fit; have hxd := Fit_d hx.fit
 have hdp := x.den_pos
 have l1 := ptxt_len x.a hdp; have l2 := ptxt_len x.b hdp
 refine Fun.intro Tryz.func223 rfl Tryz.ntmps223 rfl (fun cx => (ts (rn rfl (fK (Ht rfl)) fun B1 => (ro rfl (cX (Has.cS (l := []) rfl)) (eZ (cU (ts (ro rfl (eJ fa_98_1 (Ht rfl) rfl) (ro rfl (eJ fa_96_1 (Ht rfl) rfl) (ro rfl (fQ A_40 Z_40 (Ht rfl) (i := 0) rfl rfl) (ro rfl (dK U_40 (Ht rfl) len_map) (ro rfl (op_eqlN (Ht rfl) (cV 0)) (eZ (dX (Ht rfl) (fun hb => ?_) (fun hb => ?_)))))))))))))))
 ·simp only [decide_eq_true_eq] at hb
  have h0 : x.b = 0 := by have := dg_length_zero.1 hb; omega
  refine ts (ro rfl (eJ fa_98_0 (Ht rfl) rfl) (ro rfl (eW A_96 Z_96 (Ht rfl) (i := 0) rfl rfl rfl) (ro rfl (eJ fa_98_2 (Ht rfl) rfl) (ro rfl (fQ A_40 Z_40 (Ht rfl) (i := 0) rfl rfl) (ro rfl (cJ K_264 (c_rhalf (by assumption) (by omega) (by omega)) ⟨(Ht rfl), (Ht rfl), trivial⟩) ?_)))))
  refine ra rfl (eZ (fG rfl (fZ (eY rfl) ?_)))
  exact (str_to (by rw [txt, if_pos h0]))
 ·simp only [decide_eq_false_iff_not] at hb
  have h0 : x.b ≠ 0 := fun e => hb (by rw [e]; exact dg_length_zero.2 rfl)
  refine cY (cU (ts (ro rfl (eJ fa_98_0 (Ht rfl) rfl) (ro rfl (eJ fa_96_1 (Ht rfl) rfl) (ro rfl (fQ A_40 Z_40 (Ht rfl) (i := 0) rfl rfl) (ro rfl (dK U_40 (Ht rfl) len_map) (ro rfl (op_eqlN (Ht rfl) (cV 0)) (eZ (dX (Ht rfl) (fun hc => ?_) (fun hc => ?_))))))))))
  ·simp only [decide_eq_true_eq] at hc
   have h1 : x.a = 0 := by have := dg_length_zero.1 hc; omega
   refine ts (ro rfl (eJ fa_98_1 (Ht rfl) rfl) (ro rfl (eW A_96 Z_96 (Ht rfl) (i := 0) rfl rfl rfl) (ro rfl (eJ fa_98_2 (Ht rfl) rfl) (ro rfl (fQ A_40 Z_40 (Ht rfl) (i := 0) rfl rfl) (ro rfl (cJ K_264 (c_rhalf (by assumption) (by omega) (by omega)) ⟨(Ht rfl), (Ht rfl), trivial⟩) ?_)))))
   refine ro rfl (op_addS (Ht rfl) (Has.cS (l := [105]) rfl) (by first | omega | (simp only [List.length_append, List.length_cons, List.length_nil]; omega))) (ra rfl (eZ (fG rfl (fZ (eY rfl) ?_))))
   exact (str_to (by rw [txt, if_neg h0, if_pos h1]))
  ·simp only [decide_eq_false_iff_not] at hc
   have h1 : x.a ≠ 0 := fun e => hc (by rw [e]; exact dg_length_zero.2 rfl)
   refine cY (cU (ts (ro rfl (eJ fa_98_1 (Ht rfl) rfl) (ro rfl (eJ fa_96_0 (Ht rfl) rfl) (ro rfl (fQ A_4 Z_4 (Ht rfl) (i := 0) rfl rfl) (eZ (dX (Ht rfl) (fun hd => ?_) (fun hd => ?_))))))))
   ·simp only [decide_eq_true_eq] at hd
    refine cU (fJ (m := 9) (dp 1 rfl (eJ fa_98_0 (Ht rfl) rfl) (dq 27 0 rfl (eW A_96 Z_96 (Ht rfl) (i := 0) rfl rfl rfl) (dp 1 rfl (eJ fa_98_2 (Ht rfl) rfl) (dq 29 2 rfl (fQ A_40 Z_40 (Ht rfl) (i := 0) rfl rfl) (dqq 28 1 30 3 rfl (cJ K_264 (c_rhalf (by assumption) (by omega) (by omega)) ⟨(Ht rfl), (Ht rfl), trivial⟩) ?_))))))
    refine dp 1 rfl (eJ fa_98_1 (Ht rfl) rfl) (dq 32 5 rfl (eW A_96 Z_96 (Ht rfl) (i := 0) rfl rfl rfl) (dp 1 rfl (eJ fa_98_2 (Ht rfl) rfl) (dq 34 7 rfl (fQ A_40 Z_40 (Ht rfl) (i := 0) rfl rfl) (fW mixed rfl (by kernel_rfl) (aJ (aJ (aJ (aJ (aJ (aJ (aJ (aJ (aJ (aV (ro rfl (cJ K_264 (c_rhalf (by assumption) (by omega) (by omega)) ⟨(Ht rfl), (Ht rfl), trivial⟩) ?_)))))))))))))))
    refine ro rfl (op_addS (Ht rfl) (Ht rfl) (by first | omega | (simp only [List.length_append, List.length_cons, List.length_nil]; omega))) (ro rfl (op_addS (Ht rfl) (Has.cS (l := [105]) rfl) (by first | omega | (simp only [List.length_append, List.length_cons, List.length_nil]; omega))) (ra rfl (eZ (fG rfl (fZ (eY rfl) ?_)))))
    exact (str_to (by rw [txt, if_neg h0, if_neg h1, if_pos hd, List.append_assoc]))
   ·simp only [decide_eq_false_iff_not] at hd
    refine cY (cU (fJ (m := 11) (dp 1 rfl (eJ fa_98_0 (Ht rfl) rfl) (dq 39 0 rfl (eW A_96 Z_96 (Ht rfl) (i := 0) rfl rfl rfl) (dp 1 rfl (eJ fa_98_2 (Ht rfl) rfl) (dq 41 2 rfl (fQ A_40 Z_40 (Ht rfl) (i := 0) rfl rfl) (dqq 40 1 42 3 rfl (cJ K_264 (c_rhalf (by assumption) (by omega) (by omega)) ⟨(Ht rfl), (Ht rfl), trivial⟩) ?_)))))))
    refine dq 43 4 rfl (op_addS (Ht rfl) (Has.cS (l := [43]) rfl) (by first | omega | (simp only [List.length_append, List.length_cons, List.length_nil]; omega))) (dp 1 rfl (eJ fa_98_1 (Ht rfl) rfl) (dq 45 6 rfl (eW A_96 Z_96 (Ht rfl) (i := 0) rfl rfl rfl) (dp 1 rfl (eJ fa_98_2 (Ht rfl) rfl) (dq 47 8 rfl (fQ A_40 Z_40 (Ht rfl) (i := 0) rfl rfl) (dqq 46 7 48 9 rfl (cJ K_264 (c_rhalf (by assumption) (by omega) (by omega)) ⟨(Ht rfl), (Ht rfl), trivial⟩) ?_)))))
    refine fW mixed rfl (by kernel_rfl) (aJ (aJ (aJ (aJ (aJ (aJ (aJ (aJ (aJ (aJ (aJ (aV (ro rfl (op_addS (Ht rfl) (Ht rfl) (by first | omega | (simp only [List.length_append, List.length_cons, List.length_nil]; omega))) (ro rfl (op_addS (Ht rfl) (Has.cS (l := [105]) rfl) (by first | omega | (simp only [List.length_append, List.length_cons, List.length_nil]; omega))) (ra rfl (eZ (fG rfl (fZ (eY rfl) ?_))))))))))))))))))
    exact (str_to (by rw [txt, if_neg h0, if_neg h1, if_neg hd, List.append_assoc, List.append_assoc]; rfl))
theorem c_lawIs {x y : Qi} {L M : Nat} [hx : FitC x L] [hy : FitC y M] (h : L ≤ 8796093022208) (h2 : M ≤ 8796093022208) : Fun Tryz.prog 139 [NumT x, QT y] (BoolT (decide (txt x = txt y))) := by
 refine Fun.intro Tryz.func139 rfl Tryz.ntmps139 rfl (fun cx => (ts (rn rfl (fK (Ht rfl)) fun B2 => (rn rfl (fK (Ht rfl)) fun B3 => (ro rfl (cX cW) (eZ (cU (fJ (m := 3) (dp 2 rfl (eW A_45 Z_45 (Ht rfl) (i := 0) rfl rfl rfl) (dq 5 0 rfl (cJ Tryz.call87 (c_Text (by omega)) ⟨(Ht rfl), trivial⟩) (dp 3 rfl (eW A_98 Z_98 (Ht rfl) (i := 1) rfl rfl rfl) (fW mixed rfl (by kernel_rfl) (aJ (aJ (aJ (aV (ro rfl (cJ Tryz.call223 (c_rTxt (by omega)) ⟨(Ht rfl), trivial⟩) (ro rfl (op_eqS (Ht rfl) (Ht rfl)) ?_))))))))))))))))))
 refine ra rfl (eZ ?_)
 exact fG rfl (eY rfl)
end
section
open Go Go.RowKit
theorem info_27 : Tryz.prog.info? 27 = some Tryz.t27 := by kernel_rfl
end
section
open Go Go.RowKit
theorem c_IndexNum {γ : Type} {l : List γ} {T : γ → Ty} {p : γ → Bool} [sh : ∀ x, Shape (T x) 5 true] (hl : l.length ≤ 1000000) : Fun Tryz.prog 273 [SlT 5 (l.map T), ClT Tryz.prog γ (fun x => [T x]) (fun x => BoolT (p x))] (IntT .i64 (idxZ p l)) := by
 refine Fun.intro Tryz.func273 rfl Tryz.ntmps273 rfl (fun cx => (ts (ro rfl (cX (cV 0)) (eZ (cU (ts (rm rfl (ro rfl (dK U_27 (Ht rfl) len_map) (ro rfl (cZ (cV 0)) (eZ (eK ?_)))))))))))
 refine T_loop (fun (k : Nat) => k ≤ l.length ∧ ∀ (i : Nat) (x : γ), i < k → l[i]? = some x → p x = false) (fun (k : Nat) => l.length - k) (fun (k : Nat) => [(0, SlT 5 (l.map T)), (1, ClT Tryz.prog γ (fun x => [T x]) (fun x => BoolT (p x))), (7, NT .i64 l.length), (8, NT .i64 k)]) (fun (k : Nat) => []) 0 ⟨Nat.zero_le _, fun i x h => by omega⟩
  (aQ rfl (aQ rfl (aQ rfl (aQ rfl aX)))) aY (fun k ⟨hk, hn⟩ => ?_)
 refine ts (ro rfl (gZ (Ht rfl) (Ht rfl)) (eZ (cU (dX (Ht rfl) (fun hb => ?_) (fun hb => ?_)))))
 ·simp only [decide_eq_true_eq] at hb
  refine cY (cU (eK (ts (rm rfl (ra rfl (eZ (ts (rm rfl (rm rfl (rm rfl (ro rfl (dJ U_27 Z_45 (Ht rfl) (Ht rfl) rfl (eQ (getq hb))) (ro rfl (dV A_45 Z_45 (Ht rfl)) (ro rfl (op_callV (l[k]) (Ht rfl) ⟨(Ht rfl), trivial⟩) (eZ (dX (Ht rfl) (fun hc => ?_) (fun hc => ?_))))))))))))))))
  ·have hp : p l[k] = true := hc
   refine ts (rm rfl (ra rfl (eZ (fG rfl (fZ (eY rfl) ?_)))))
   exact (int_of (idxZ_at (getq hb) hp hn).symm)
  ·have hp : p l[k] = false := hc
   refine cY (T_blk (dQ (ro rfl (dW (Ht rfl) (cV 1) (by show _ < 9223372036854775808; first | omega | (simp only [lim]; omega))) (rm rfl (eZ ?_)))))
   refine fY (k + 1) ⟨hb, fun i x h1 h2 => by
    by_cases e : i = k
    ·subst e; rw [getq hb] at h2; obtain rfl := Option.some.inj h2; exact hp
    ·exact hn i x (by omega) h2⟩ (by omega) (aQ rfl (aQ rfl (aQ rfl (aQ rfl aX)))) aY
 ·simp only [decide_eq_false_iff_not] at hb
  refine gW rfl (ts (ro rfl (cX cW) (eZ (fG rfl (fZ (eY rfl) ?_)))))
  exact (int_of (idxZ_none (fun i x h => hn i x (by have := (List.getElem?_eq_some_iff.1 h).1; omega) h)).symm)
theorem c_ContainsNum {γ : Type} {l : List γ} {T : γ → Ty} {p : γ → Bool} [sh : ∀ x, Shape (T x) 5 true] (hl : l.length ≤ 1000000) : Fun Tryz.prog 245 [SlT 5 (l.map T), ClT Tryz.prog γ (fun x => [T x]) (fun x => BoolT (p x))] (BoolT (l.any p)) := by
 refine Fun.intro Tryz.func245 rfl Tryz.ntmps245 rfl (fun cx => (ts (ro rfl (cX cW) (eZ (ts (rm rfl (rm rfl (ro rfl (cJ Tryz.call273 (c_IndexNum (by omega)) ⟨(Ht rfl), (Ht rfl), trivial⟩) (ro rfl (op_geq (Ht rfl) cW) (ra rfl (eZ (fG rfl (fZ (eY rfl) ?_)))))))))))))
 exact (bool_of (idxZ_any p l))
theorem c_IndexRow {γ : Type} {l : List γ} {T : γ → Ty} {p : γ → Bool} [sh : ∀ x, Shape (T x) 1 false] (hl : l.length ≤ 1000000) : Fun Tryz.prog 263 [SlT 1 (l.map T), ClT Tryz.prog γ (fun x => [T x]) (fun x => BoolT (p x))] (IntT .i64 (idxZ p l)) := by
 refine Fun.intro Tryz.func263 rfl Tryz.ntmps263 rfl (fun cx => (ts (ro rfl (cX (cV 0)) (eZ (cU (ts (rm rfl (ro rfl (dK U_28 (Ht rfl) len_map) (ro rfl (cZ (cV 0)) (eZ (eK ?_)))))))))))
 refine T_loop (fun (k : Nat) => k ≤ l.length ∧ ∀ (i : Nat) (x : γ), i < k → l[i]? = some x → p x = false) (fun (k : Nat) => l.length - k) (fun (k : Nat) => [(0, SlT 1 (l.map T)), (1, ClT Tryz.prog γ (fun x => [T x]) (fun x => BoolT (p x))), (7, NT .i64 l.length), (8, NT .i64 k)]) (fun (k : Nat) => []) 0 ⟨Nat.zero_le _, fun i x h => by omega⟩
  (aQ rfl (aQ rfl (aQ rfl (aQ rfl aX)))) aY (fun k ⟨hk, hn⟩ => ?_)
 refine ts (ro rfl (gZ (Ht rfl) (Ht rfl)) (eZ (cU (dX (Ht rfl) (fun hb => ?_) (fun hb => ?_)))))
 ·simp only [decide_eq_true_eq] at hb
  refine cY (cU (eK (ts (rm rfl (ra rfl (eZ (ts (rm rfl (rm rfl (rm rfl (ro rfl (dJ U_28 Z_27 (Ht rfl) (Ht rfl) rfl (eQ (getq hb))) (ro rfl (dV A_27 Z_27 (Ht rfl)) (ro rfl (op_callV (l[k]) (Ht rfl) ⟨(Ht rfl), trivial⟩) (eZ (dX (Ht rfl) (fun hc => ?_) (fun hc => ?_))))))))))))))))
  ·have hp : p l[k] = true := hc
   refine ts (rm rfl (ra rfl (eZ (fG rfl (fZ (eY rfl) ?_)))))
   exact (int_of (idxZ_at (getq hb) hp hn).symm)
  ·have hp : p l[k] = false := hc
   refine cY (T_blk (dQ (ro rfl (dW (Ht rfl) (cV 1) (by show _ < 9223372036854775808; first | omega | (simp only [lim]; omega))) (rm rfl (eZ ?_)))))
   refine fY (k + 1) ⟨hb, fun i x h1 h2 => by
    by_cases e : i = k
    ·subst e; rw [getq hb] at h2; obtain rfl := Option.some.inj h2; exact hp
    ·exact hn i x (by omega) h2⟩ (by omega) (aQ rfl (aQ rfl (aQ rfl (aQ rfl aX)))) aY
 ·simp only [decide_eq_false_iff_not] at hb
  refine gW rfl (ts (ro rfl (cX cW) (eZ (fG rfl (fZ (eY rfl) ?_)))))
  exact (int_of (idxZ_none (fun i x h => hn i x (by have := (List.getElem?_eq_some_iff.1 h).1; omega) h)).symm)
theorem c_ContainsRow {γ : Type} {l : List γ} {T : γ → Ty} {p : γ → Bool} [sh : ∀ x, Shape (T x) 1 false] (hl : l.length ≤ 1000000) : Fun Tryz.prog 221 [SlT 1 (l.map T), ClT Tryz.prog γ (fun x => [T x]) (fun x => BoolT (p x))] (BoolT (l.any p)) := by
 refine Fun.intro Tryz.func221 rfl Tryz.ntmps221 rfl (fun cx => (ts (ro rfl (cX cW) (eZ (ts (rm rfl (rm rfl (ro rfl (cJ Tryz.call263 (c_IndexRow (by omega)) ⟨(Ht rfl), (Ht rfl), trivial⟩) (ro rfl (op_geq (Ht rfl) cW) (ra rfl (eZ (fG rfl (fZ (eY rfl) ?_)))))))))))))
 exact (bool_of (idxZ_any p l))
theorem c_positive {x : Qi} {L : Nat} [hx : FitC x L] (h : L ≤ 8796093022208) : Fun Tryz.prog 247 [NumT x] (BoolT (posQ x)) := by
 haveI hz : FitC Qi.zero 1 := FitC.zero (Nat.le_refl 1)
 refine Fun.intro Tryz.func247 rfl Tryz.ntmps247 rfl (fun cx => (ts (rn rfl (fK (Ht rfl)) fun B1 => (ro rfl (cX cW) (eZ (ts (ro rfl (eW A_45 Z_45 (Ht rfl) (i := 0) rfl rfl rfl) (ro rfl (cJ Tryz.call192 c_Real ⟨(Ht rfl), trivial⟩) (rm rfl (fX rfl rfl (eU rfl rfl (Ht rfl) (fun h => eW A_45 Z_45 (Ht rfl) (i := 0) rfl rfl rfl)) (fX rfl rfl (eU rfl rfl (Ht rfl) (fun h => OpTy.imp (bld_45_ ) num_zero)) (fX rfl rfl (eU rfl rfl (Ht rfl) (fun h => cJ Tryz.call220 (c_Cmp (by omega)) ⟨(fV rfl h), (fV rfl h), trivial⟩)) ?_))))))))))))
 refine fX rfl rfl (eU rfl rfl (Ht rfl) (fun h => op_gtr (fV rfl h) cW)) (ro rfl (op_and (Ht rfl) (fun h => (fV rfl h))) (ra rfl (eZ (fG rfl (fZ (eY rfl) ?_)))))
 exact (bool_of (pos_eq x))
theorem c_positives1 {x : Qi} {L : Nat} [hx : FitC x L] (h : L ≤ 8796093022208) : Fun Tryz.prog 246 [NumT x] (BoolT (!posQ x)) := by
 refine Fun.intro Tryz.func246 rfl Tryz.ntmps246 rfl (fun cx => (ts (rn rfl (fK (Ht rfl)) fun B1 => (ro rfl (cX cW) (eZ (ts (ro rfl (eW A_45 Z_45 (Ht rfl) (i := 0) rfl rfl rfl) (ro rfl (cJ Tryz.call247 (c_positive (by omega)) ⟨(Ht rfl), trivial⟩) (ro rfl (op_not (Ht rfl)) (ra rfl (eZ ?_)))))))))))
 exact fG rfl (eY rfl)
theorem c_positives {z : List Qi} {L : Nat} (hz : FitL z L) (h : L ≤ 8796093022208) (hl : z.length ≤ 1000) : Fun Tryz.prog 181 [NumsT z] (IntT .i64 (if z.all posQ then 0 else 1)) := by
 obtain ⟨l, hzl⟩ : ∃ l : List {x : Qi // FitC x L}, z = l.map Subtype.val := ⟨z.attach.map fun x => ⟨x.1, hz x.1 x.2⟩, by simp⟩
 subst hzl
 have hll : l.length ≤ 1000 := by simpa using hl
 refine Fun.intro Tryz.func181 rfl Tryz.ntmps181 rfl (fun cx => (T_sub (E' := [(0, _)]) (aZ rfl (slT_of (Us := l.map fun x => NumT x.1) (by simp [List.map_map, Function.comp_def])) aX) ?_))
 refine ts (ro rfl (cX (cV 0)) (eZ (cU (ts (rm rfl (ro rfl (cJ Tryz.call245 (c_ContainsNum (l := l) (T := fun x => NumT x.1) (p := fun x => !posQ x.1) (by omega)) ⟨(Ht rfl), (Has.fn Tryz.call246 (γ := {x : Qi // FitC x L}) (Ts := fun x => [NumT x.1]) (U := fun x => BoolT (!posQ x.1)) (fun x => haveI := x.2; c_positives1 h)), trivial⟩) (eZ (dX (Ht rfl) (fun hb => ?_) (fun hb => ?_)))))))))
 ·have hn : ¬ (l.map Subtype.val).all posQ = true := by simp at hb ⊢; exact hb
  refine ts (ro rfl (cX (cV 1)) (eZ (fG rfl (fZ (eY rfl) ?_))))
  exact (int_of (by rw [if_neg hn]; rfl))
 ·have hn : (l.map Subtype.val).all posQ = true := by simp at hb ⊢; exact hb
  refine cY (ts (ro rfl (cX (cV 0)) (eZ (fG rfl (fZ (eY rfl) ?_)))))
  exact (int_of (by rw [if_pos hn]; rfl))
theorem c_CloneO {l : List Qi} (hl : l.length ≤ 1000) : FunO Tryz.prog 184 [NumsT l] [] (Value) (fun v => Is v) (fun v => [rowO 45 5 v (l.map NumT)]) (fun _ => True) := by
 refine FunO.intro Tryz.func184 rfl Tryz.ntmps184 rfl (fun cx Z => (ts (ro rfl (cX cW) (eZ (cU (ts (rm rfl (ro rfl (op_eqnil U_27 (Ht rfl)) (eZ (T_condE (Ht rfl) (fun hb => ?_) (fun hb => ?_)))))))))))
 ·have hT : l.map NumT = [] := hb rfl
  refine ts (ro rfl (cX cW) (eZ (T_row 45 5 ?_)))
  exact T_retO (.slice none 0 0) trivial [0, 1] ⟨⟨_, rfl, fun _ _ _ h => h⟩, ⟨_, rfl, (rowO_of hT.symm)⟩, trivial⟩ (by decide) (rvs1 rfl (eY rfl))
 ·refine cY (ts (rn rfl (new_bslice0 U_27 Z_45 O_45) fun B5 => (rm rfl (R_appendA (inf := Tryz.t45) und_27 info_45 rfl rfl rfl (Ht rfl) (Ht rfl) (i := 1) rfl (fun T hT => by obtain ⟨x, _, rfl⟩ := List.mem_map.1 hT; exact El.ag rfl) (by show _ * 88 ≤ _; simp only [List.length_map, List.length_nil]; omega) (by simp only [List.length_map, List.length_nil]; omega) rfl (fun v2 => ?_)))))
  refine ra rfl (eZ ?_)
  exact T_retO v2 trivial [0, 1] ⟨⟨_, rfl, fun _ _ _ h => h⟩, ⟨_, rfl, fun _ _ _ h => h⟩, trivial⟩ (by decide) (rvs1 rfl (eY rfl))
theorem c_Clone {l : List Qi} (hl : l.length ≤ 1000) : Fun Tryz.prog 184 [NumsT l] (NumsT l) := (c_CloneO hl).fun fun v _ => frz_row
theorem c_fillO {n : Nat} {f : Nat → Nat → Qi} (hn : n ≤ 1000) : FunO Tryz.prog 119 [NT .i64 n, ClT Tryz.prog (Fin n × Fin n) (fun x => [NT .i64 x.1.1, NT .i64 x.2.1]) (fun x => NumT (f x.1.1 x.2.1))] [] (Nat) (fun B => Is (.slice (some ⟨B, 0, none⟩) n n)) (fun B => [matO B 27 45 5 (FRow NumT (tab n fun i => tab n (f i)))]) (fun _ => True) := by
 refine FunO.intro Tryz.func119 rfl Tryz.ntmps119 rfl (fun cx Z => (ts (ro rfl (cX cW) (eZ (ts (rm rfl (rn rfl (new_make (T := Is (.slice none 0 0)) (i := Tryz.t27) Tryz.underlying28 info_27 rfl rfl (Ht rfl) rfl (fun _ => rfl) trivial (by show 24 * _ ≤ _; omega) (by omega)) fun B9 => (ra rfl (eZ (cU (ts (rm rfl (ro rfl (op_lenI U_28 (Ht rfl)) (ro rfl (cZ (cV 0)) (eZ (eK (T_conv 1 rfl (mat_nil (e := 45) (s := 5)) ?_)))))))))))))))))
 refine T_loop2 (fun (k : Nat) (m : List (List Qi)) => FillS (fun i => tab n (f i)) n m k) (fun (k : Nat) (m : List (List Qi)) => n - k) (fun (k : Nat) (m : List (List Qi)) => [(0, NT .i64 n), (1, ClT Tryz.prog (Fin n × Fin n) (fun x => [NT .i64 x.1.1, NT .i64 x.2.1]) (fun x => NumT (f x.1.1 x.2.1))), (5, Is (.slice (some ⟨B9, 0, none⟩) n n)), (11, NT .i64 n), (12, NT .i64 k)]) (fun (k : Nat) (m : List (List Qi)) => [Z, matO B9 27 45 5 (FRow NumT m)]) 0 (List.replicate n []) (FillS.start _ _ _)
  (aQ rfl (aQ rfl (aQ rfl (aQ rfl (aQ rfl aX))))) (aU (fun _ _ _ h => h) (aU (matO_of (rep_FRow NumT n)) aY)) (fun k m hS => ?_)
 refine ts (ro rfl (gZ (Ht rfl) (Ht rfl)) (eZ (cU (dX (Ht rfl) (fun hk => ?_) (fun hk => ?_)))))
 ·simp only [decide_eq_true_eq] at hk
  have hlen := hS.len
  refine T_focus 1 (k) rfl (frow_get (m := m) (i := k) (by omega)) (fun v => (cY (cU (eK (ts (rm rfl (ra rfl (eZ (ts (rm rfl (rm rfl (rm rfl (rn rfl (new_makeO (T := NumT Qi.zero) (i := Tryz.t45) und_27 info_45 rfl rfl (Ht rfl) rfl num_zero_p (El.ag rfl) (by show 88 * _ ≤ _; omega) (by omega)) fun B18 => (ro rfl (gQ U_28 Z_27 (Ht rfl) (Ht rfl) rfl (by omega) (by rw [Nat.mul_one, Nat.zero_add])) ?_))))))))))))))
  refine R_stH Z_27 (Ht rfl) (Ht rfl) (by simp; omega) (j := 1) (l := 3) rfl rfl rfl ?_
  refine eZ (cU (T_keep [0, 1, 3] rfl (by decide) (dQ (rm rfl (rm rfl (ro rfl (gQ U_28 Z_27 (Ht rfl) (Ht rfl) rfl (by omega) (by rw [Nat.mul_one, Nat.zero_add])) ?_))))))
  refine ro rfl (op_ldH A_27 Z_27 (Ht rfl) (j := 1) rfl) (ro rfl (op_lenO U_27 (Ht rfl) (i := 2) rfl (show ((List.replicate n (NumT Qi.zero)).length : Int) = ((n : Nat) : Int) by simp)) (ro rfl (cZ (cV 0)) (eZ (eK ?_))))
  refine T_loop2 (fun (j : Nat) (out : List Qi) => FillS (f k) n out j) (fun (j : Nat) (out : List Qi) => n - j) (fun (j : Nat) (out : List Qi) => [(0, NT .i64 n), (1, ClT Tryz.prog (Fin n × Fin n) (fun x => [NT .i64 x.1.1, NT .i64 x.2.1]) (fun x => NumT (f x.1.1 x.2.1))), (5, Is (.slice (some ⟨B9, 0, none⟩) n n)), (6, NT .i64 k), (11, NT .i64 n), (12, NT .i64 k), (24, NT .i64 n), (25, NT .i64 j)]) (fun (j : Nat) (out : List Qi) => [Z, matH B9 27 45 5 (FRow NumT m) k B18, rowO 45 5 B18 (out.map NumT)]) 0 (List.replicate n Qi.zero) (FillS.start _ _ _)
   (aQ rfl (aQ rfl (aQ rfl (aQ rfl (aQ rfl (aQ rfl (aQ rfl (aQ rfl aX)))))))) (aU (fun _ _ _ h => h) (aU (fun _ _ _ h => h) (aU (rowO_of (rep_mapF NumT _ _)) aY))) (fun j out hT => ?_)
  refine ts (ro rfl (gZ (Ht rfl) (Ht rfl)) (eZ (cU (dX (Ht rfl) (fun hj => ?_) (fun hj => ?_)))))
  ·simp only [decide_eq_true_eq] at hj
   have hlen2 := hT.len
   refine cY (cU (eK (ts (rm rfl (ra rfl (eZ (fJ (m := 9) (dp 5 rfl (cZ (Ht rfl)) (dp 6 rfl (cZ (Ht rfl)) (dqq 28 0 29 1 rfl (gQ U_28 Z_27 (Ht rfl) (Ht rfl) rfl (by omega) (by rw [Nat.mul_one, Nat.zero_add])) ?_))))))))))
   refine dq 30 2 rfl (op_ldH A_27 Z_27 (Ht rfl) (j := 1) rfl) (dp 7 rfl (cZ (Ht rfl)) (dp 1 rfl (cZ (Ht rfl)) (dp 6 rfl (cZ (Ht rfl)) (dp 7 rfl (cZ (Ht rfl)) (C.D_step (Ei := [(33, _), (34, _), (35, _)]) rfl rfl (bV (bG 5 rfl rfl) (bV (bG 6 rfl rfl) (bV (bG 7 rfl rfl) bW))) (dZ rfl (op_callV ((⟨k, hk⟩, ⟨j, hj⟩) : Fin n × Fin n) (Ht rfl) ⟨(Ht rfl), (Ht rfl), trivial⟩)) (fW mixed rfl (by kernel_rfl) (aJ (aJ (aJ (aJ (aJ (aJ (aJ (aJ (aJ (aV ?_))))))))))))))))
   refine ro rfl (op_idxO U_27 Z_45 (Ht rfl) (Ht rfl) rfl (i := 2) rfl (by first | omega | (simp; omega)) rfl) (R_stO Z_45 (Ht rfl) (Ht rfl) (El.ag rfl) (i := 2) rfl rfl (by first | omega | (simp; omega)) rfl (eZ (T_blk (dQ (ro rfl (dW (Ht rfl) (cV 1) (by show _ < 9223372036854775808; first | omega | (simp only [lim]; omega))) (rm rfl (eZ (fY (j + 1, _) (hT.next hj rfl) (by dsimp only; omega) (aQ rfl (aQ rfl (aQ rfl (aQ rfl (aQ rfl (aQ rfl (aQ rfl (aQ rfl aX)))))))) (aU (fun _ _ _ h => h) (aU (fun _ _ _ h => h) (aU (rowO_of (set_mapF NumT _ _ _)) aY)))))))))))
  ·simp only [decide_eq_false_iff_not] at hj
   obtain rfl : j = n := Nat.le_antisymm hT.kle (by omega)
   have hfin := hT.fin
   refine gW rfl (T_blk (T_unfocus 1 2 rfl rfl (by decide) (by simp; omega) ?_))
   refine dQ (ro rfl (dW (Ht rfl) (cV 1) (by show _ < 9223372036854775808; first | omega | (simp only [lim]; omega))) (rm rfl (eZ (T_keep [0, 1] rfl (by decide) (fY (k + 1, _) (hS.next hk hfin) (by dsimp only; omega) (aQ rfl (aQ rfl (aQ rfl (aQ rfl (aQ rfl aX))))) (aU (fun _ _ _ h => h) (aU (matO_of (set_FRow NumT _ _ _)) aY)))))))
 ·simp only [decide_eq_false_iff_not] at hk
  obtain rfl : k = n := Nat.le_antisymm hS.kle (by omega)
  have hfin := hS.fin
  refine gW rfl (ts (rm rfl (ra rfl (eZ ?_))))
  exact T_retO B9 trivial [0, 1] ⟨⟨_, rfl, fun _ _ _ h => h⟩, ⟨_, rfl, (matO_of (by rw [hfin]))⟩, trivial⟩ (by decide) (rvs1 rfl (eY rfl))
theorem c_fill {n : Nat} {f : Nat → Nat → Qi} (hn : n ≤ 1000) : Fun Tryz.prog 119 [NT .i64 n, ClT Tryz.prog (Fin n × Fin n) (fun x => [NT .i64 x.1.1, NT .i64 x.2.1]) (fun x => NumT (f x.1.1 x.2.1))] (NumM (tab n fun i => tab n (f i))) := (c_fillO hn).fun fun B _ v S V h1 h2 => slT_of (by simp [FRow, List.map_map, Function.comp_def]) v V (frz_mat (by simp [FRow, tab_len]) (Nat.le_refl _) v S V h1 h2)
end
section
open Go Go.RowKit
theorem bld_30_ {n : Nat} {E : Env} {H : Hp} {d : Option Tmp} {t : TypeId} {pos : String} {af : Array Edge} {g : Option (Nat × Bool)}  :
  OpTy Tryz.prog n E H ⟨d, .build 30 #[], t, pos, af, g⟩ (AggT [Is (.slice none 0 0), Is (.slice none 0 0)]) :=
 op_build (parts := []) fun a V w hs => by
  refine ⟨.agg #[(.slice none 0 0), (.slice none 0 0)], ?_, [(.slice none 0 0), (.slice none 0 0)], rfl, aW (⟨rfl, trivial⟩) (aW (⟨rfl, trivial⟩) (aG))⟩
  simp [Instr.build, Instr.fill, Sem.run_bind, Result.andThen, cells_agg, O_30, U_30, Z_27, Z_28]
theorem bld_30_0_1 {n : Nat} {E : Env} {H : Hp} {d : Option Tmp} {t : TypeId} {pos : String} {af : Array Edge} {g : Option (Nat × Bool)} {x0 x1 : Operand} {T0 T1 : Ty} [s0 : Shape T0 1 false] (h0 : Has E x0 T0) [s1 : Shape T1 1 false] (h1 : Has E x1 T1) :
  OpTy Tryz.prog n E H ⟨d, .build 30 #[(0, x0), (1, x1)], t, pos, af, g⟩ (AggT [T0, T1]) :=
 op_build (parts := [(0, x0), (1, x1)]) fun a V w hs => by
  have p0 := h0 n V a hs
  generalize e0 : a.eval x0 = v0 at p0
  have q0 := (s0.ok v0 V p0).2.2 rfl
  have p1 := h1 n V a hs
  generalize e1 : a.eval x1 = v1 at p1
  have q1 := (s1.ok v1 V p1).2.2 rfl
  refine ⟨.agg #[v0, v1], ?_, [v0, v1], rfl, aW (⟨p0, q0⟩) (aW (⟨p1, q1⟩) (aG))⟩
  simp [e0, e1, Instr.build, Instr.fill, Sem.run_bind, Result.andThen, cells_agg, q0.cells, q1.cells, O_30, U_30, Z_27, Z_28]
theorem fa_30_0 (a : Addr) (w : World) : (Instr.fieldAt 30 (.pointer (some a)) 0).run Tryz.prog w = .ok (.pointer (some (a.add 0))) w := by
 simp [Instr.fieldAt, Instr.sureAddr, fieldPlace, Sem.run_bind, Result.andThen, U_30, Z_27]
end
section
open Go Go.RowKit
theorem c_New1 {s : List (List Qi)} {n i j : Nat} (hs : Shp s n n) (hi : i < n) (hj : j < n) : Fun Tryz.prog 190 [NT .i64 i, NT .i64 j, PT (NumM s)] (NumT (gm s i j)) := by
 have h1 := hs.1; have h2 := hs.row hi
 refine Fun.intro Tryz.func190 rfl Tryz.ntmps190 rfl (fun cx => (ts (rn rfl (eG (Ts := [Is (.bool false), Is (.slice none 0 0), Is (.bool false), Is (.slice none 0 0), Is (.slice none 0 0)]) O_45 rfl (fun V => aW ⟨rfl, trivial⟩ (aW ⟨rfl, trivial⟩ (aW ⟨rfl, trivial⟩ (aW ⟨rfl, trivial⟩ (aW ⟨rfl, trivial⟩ (aG))))))) fun B5 => (eZ (ts (ro rfl (dV A_28 Z_28 (Ht rfl)) (rm rfl (ro rfl (dJ U_28 Z_27 (Ht rfl) (Ht rfl) rfl (eQ (dY (d := []) (by omega)))) (ro rfl (dV A_27 Z_27 (Ht rfl)) ?_)))))))))
 refine rm rfl (ro rfl (dJ U_27 Z_45 (Ht rfl) (Ht rfl) rfl (eQ (dY (d := Qi.zero) (by omega)))) (ro rfl (dV A_45 Z_45 (Ht rfl)) (gX Z_45 (Ht rfl) (Ht rfl) rfl (i := 0) rfl (aK rfl) rfl rfl (eZ ?_))))
 exact fG rfl (fU A_45 Z_45 rfl (i := 0) rfl rfl)
theorem c_netNew {z : List Qi} {s : List (List Qi)} {L : Nat} (hz : FitL z L) (h : L ≤ 8796093022208) (hl : z.length ≤ 1000) (hl2 : s.length ≤ 1000) : Fun Tryz.prog 85 [NumsT z, NumM s] (TupT [NetT (okL (netErr z s) z) (okL (netErr z s) s), IntT .i64 (netErr z s)]) := by
 refine Fun.intro Tryz.func85 rfl Tryz.ntmps85 rfl (fun cx => (ts (rn rfl (new_box1 (Ht rfl)) fun B3 => (rn rfl (eG (Ts := [Is (.slice none 0 0), Is (.slice none 0 0)]) O_30 rfl (fun V => aW ⟨rfl, trivial⟩ (aW ⟨rfl, trivial⟩ (aG)))) fun B4 => (ro rfl (cX (cV 0)) (eZ (cU (cU (gV (i := 0) (tt := 3) rfl rfl frz_ptr1 (dQ (rm rfl (ro rfl (dK U_27 (Ht rfl) len_map) (ro rfl (gZ (Ht rfl) (cV 1)) (rm rfl (fX rfl rfl (eU rfl rfl (Ht rfl) (fun h => cZ (Ht rfl))) (fX rfl rfl (eU rfl rfl (Ht rfl) (fun h => dK U_27 (fV rfl h) len_map)) ?_))))))))))))))))
 refine fX rfl rfl (eU rfl rfl (Ht rfl) (fun h => op_gtrN (fV rfl h) (cV 8))) (ro rfl (op_or (Ht rfl) (fun h => (fV rfl h))) (rm rfl (fX rfl rfl (eU rfl rfl (Ht rfl) (fun h => dV A_28 Z_28 (Ht rfl))) (fX rfl rfl (eU rfl rfl (Ht rfl) (fun h => dK U_28 (fV rfl h) len_map)) (fX rfl rfl (eU rfl rfl (Ht rfl) (fun h => cZ (Ht rfl))) (fX rfl rfl (eU rfl rfl (Ht rfl) (fun h => dK U_27 (fV rfl h) len_map)) (fX rfl rfl (eU rfl rfl (Ht rfl) (fun h => op_neqN (fV rfl h) (fV rfl h))) ?_)))))))
 refine ro rfl (op_or (Ht rfl) (fun h => (fV rfl h))) (eZ (dX (Ht rfl) (fun hb => ?_) (fun hb => ?_)))
 ·have he := netErr_size hb
  refine ts (ro rfl (OpTy.imp (bld_30_ ) net_nil) (gX Z_30 (Ht rfl) (Ht rfl) rfl (i := 1) rfl (aK rfl) rfl rfl (ro rfl (cX (cV 4)) (eZ (T_ret2 rfl (fZ (fU A_30 Z_30 rfl (i := 1) rfl rfl) ?_) (fZ (eY rfl) ?_))))))
  ·exact (net_bad he (by decide))
  ·exact (int_of he.symm)
 ·refine cY (cU (ts (ro rfl (dV A_28 Z_28 (Ht rfl)) (ro rfl (dK U_28 (Ht rfl) len_map) (ro rfl (cZ (cV 0)) (eZ (eK ?_)))))))
  refine T_loop (fun (k : Nat) => k ≤ s.length ∧ ∀ (i : Nat) (r : List Qi), i < k → s[i]? = some r → r.length = z.length) (fun (k : Nat) => s.length - k) (fun (k : Nat) => [(0, NumsT z), (3, PT (NumM s)), (4, PtrB B4 0), (25, NumM s), (26, NT .i64 s.length), (27, NT .i64 k)]) (fun (k : Nat) => [SA.emp, box B4 30 [Is (.slice none 0 0), Is (.slice none 0 0)]]) 0 ⟨Nat.zero_le _, fun i r h => by omega⟩
   (aQ rfl (aQ rfl (aQ rfl (aQ rfl (aQ rfl (aQ rfl aX)))))) (HSub.refl _) (fun k ⟨hk, hr⟩ => ?_)
  refine ts (ro rfl (gZ (Ht rfl) (Ht rfl)) (eZ (cU (dX (Ht rfl) (fun hc => ?_) (fun hc => ?_)))))
  ·simp only [decide_eq_true_eq] at hc
   refine cY (cU (eK (ts (ro rfl (dJ U_28 Z_27 (Ht rfl) (Ht rfl) rfl (eQ (getq hc))) (ro rfl (dV A_27 Z_27 (Ht rfl)) (ra rfl (eZ (ts (rm rfl (ro rfl (dK U_27 (Ht rfl) len_map) (rm rfl (ro rfl (dK U_27 (Ht rfl) len_map) (ro rfl (op_neqN (Ht rfl) (Ht rfl)) (eZ (dX (Ht rfl) (fun hd => ?_) (fun hd => ?_))))))))))))))))
   ·have hd2 : ¬ (s[k]).length = z.length := by simpa using hd
    have he := netErr_row (getq hc) hd2
    refine ts (ro rfl (OpTy.imp (bld_30_ ) net_nil) (gX Z_30 (Ht rfl) (Ht rfl) rfl (i := 1) rfl (aK rfl) rfl rfl (ro rfl (cX (cV 4)) (eZ (T_ret2 rfl (fZ (fU A_30 Z_30 rfl (i := 1) rfl rfl) ?_) (fZ (eY rfl) ?_))))))
    ·exact (net_bad he (by decide))
    ·exact (int_of he.symm)
   ·have hd2 : (s[k]).length = z.length := by simpa using hd
    refine cY (T_blk (dQ (ro rfl (dW (Ht rfl) (cV 1) (by show _ < 9223372036854775808; first | omega | (simp only [lim]; omega))) (rm rfl (eZ ?_)))))
    refine fY (k + 1) ⟨hc, fun i r h1 h2 => by
      by_cases e : i = k
      ·subst e; rw [getq hc] at h2; obtain rfl := Option.some.inj h2; exact hd2
      ·exact hr i r (by omega) h2⟩ (by omega) (aQ rfl (aQ rfl (aQ rfl (aQ rfl (aQ rfl (aQ rfl aX)))))) (HSub.refl _)
  ·simp only [decide_eq_false_iff_not] at hc
   have hall : ∀ (i : Nat) (r : List Qi), s[i]? = some r → r.length = z.length := fun i r h => hr i r (by have := (List.getElem?_eq_some_iff.1 h).1; omega) h
   have hpos := netErr_pos hb hall
   refine gW rfl (cU (ts (rm rfl (ro rfl (cJ Tryz.call181 (c_positives hz h (by omega)) ⟨(Ht rfl), trivial⟩) (ra rfl (eZ (ts (rm rfl (ro rfl (op_neq (Ht rfl) cW) (eZ (dX (Ht rfl) (fun hd => ?_) (fun hd => ?_))))))))))))
   ·have hd2 : ¬ (if z.all posQ = true then (0 : Int) else 1) = 0 := by simpa using hd
    refine ts (ro rfl (OpTy.imp (bld_30_ ) net_nil) (rm rfl (gX Z_30 (Ht rfl) (Ht rfl) rfl (i := 1) rfl (aK rfl) rfl rfl (ra rfl (eZ (T_ret2 rfl (fZ (fU A_30 Z_30 rfl (i := 1) rfl rfl) ?_) (fZ (eY rfl) ?_)))))))
    ·exact (net_bad hpos hd2)
    ·exact (int_of hpos.symm)
   ·have hd2 : (if z.all posQ = true then (0 : Int) else 1) = 0 := by simpa using hd
    have he := hpos.trans hd2
    obtain ⟨h1, h2, hsh, _⟩ := netErr_ok he
    refine cY (ts (rm rfl (ro rfl (cJ Tryz.call184 (c_Clone (by omega)) ⟨(Ht rfl), trivial⟩) (rm rfl (ro rfl (dK U_27 (Ht rfl) len_map) (ro rfl (op_clos (γ := Fin z.length × Fin z.length) (Ts := fun x => [NT .i64 x.1.1, NT .i64 x.2.1]) (U := fun x => NumT (gm s x.1.1 x.2.1)) Tryz.call190 (fun x => c_New1 hsh x.1.2 x.2.2) ⟨(Ht rfl), trivial⟩) (ro rfl (cJ Tryz.call119 (eX (c_fill (n := z.length) (f := gm s) (by omega)) (slT_of (by rw [← mat_tab hsh]))) ⟨(Ht rfl), (Ht rfl), trivial⟩) ?_)))))))
    refine ro rfl (bld_30_0_1 (Ht rfl) (Ht rfl)) (gX Z_30 (Ht rfl) (Ht rfl) rfl (i := 1) rfl (aK rfl) rfl rfl (ro rfl (cX (cV 0)) (eZ (T_ret2 rfl (fZ (fU A_30 Z_30 rfl (i := 1) rfl rfl) ?_) (fZ (eY rfl) ?_)))))
    ·exact (net_good he)
    ·exact (int_of he.symm)
theorem c_Ports {z : List Qi} {s : List (List Qi)} : Fun Tryz.prog 37 [NetT z s] (NT .i64 z.length) := by
 refine Fun.intro Tryz.func37 rfl Tryz.ntmps37 rfl (fun cx => (ts (rn rfl (fK (Ht rfl)) fun B1 => (ro rfl (cX (cV 0)) (eZ (ts (ro rfl (eJ fa_30_0 (Ht rfl) rfl) (ro rfl (fQ A_27 Z_27 (Ht rfl) (i := 0) rfl rfl) (ro rfl (dK U_27 (Ht rfl) len_map) (ra rfl (eZ ?_)))))))))))
 exact fG rfl (eY rfl)
theorem c_has {z : List Qi} {s : List (List Qi)} {i : Int} : Fun Tryz.prog 171 [NetT z s, IntT .i64 i] (BoolT (decide (1 ≤ i ∧ i ≤ z.length))) := by
 refine Fun.intro Tryz.func171 rfl Tryz.ntmps171 rfl (fun cx => (ts (rn rfl (fK (Ht rfl)) fun B2 => (ro rfl (cX cW) (eZ (ts (rm rfl (ro rfl (op_geq (Ht rfl) cW) (rm rfl (fX rfl rfl (eU rfl rfl (Ht rfl) (fun h => cZ (Ht rfl))) (fX rfl rfl (eU rfl rfl (Ht rfl) (fun h => eJ fa_30_0 (Ht rfl) rfl)) (fX rfl rfl (eU rfl rfl (Ht rfl) (fun h => fQ A_27 Z_27 (fV rfl h) (i := 0) rfl rfl)) (fX rfl rfl (eU rfl rfl (Ht rfl) (fun h => dK U_27 (fV rfl h) len_map)) (fX rfl rfl (eU rfl rfl (Ht rfl) (fun h => op_leq (fV rfl h) (fV rfl h))) ?_))))))))))))))
 refine ro rfl (op_and (Ht rfl) (fun h => (fV rfl h))) (ra rfl (eZ (fG rfl (fZ (eY rfl) ?_))))
 exact (bool_of (by rw [Bool.eq_iff_iff]; simp))
end
section
open Go Go.RowKit
theorem fa_30_1 (a : Addr) (w : World) : (Instr.fieldAt 30 (.pointer (some a)) 1).run Tryz.prog w = .ok (.pointer (some (a.add 1))) w := by
 simp [Instr.fieldAt, Instr.sureAddr, fieldPlace, Sem.run_bind, Result.andThen, U_30, Z_28]
end
section
open Go Go.RowKit
theorem c_Ref {z : List Qi} {s : List (List Qi)} {i : Int} (hl : z.length ≤ 1000) : Fun Tryz.prog 63 [NetT z s, IntT .i64 i] (TupT [NumT (pkv z i), IntT .i64 (if 1 ≤ i ∧ i ≤ z.length then 0 else 1)]) := by
 refine Fun.intro Tryz.func63 rfl Tryz.ntmps63 rfl (fun cx => (ts (rn rfl (fK (Ht rfl)) fun B2 => (rn rfl (eG (Ts := [Is (.bool false), Is (.slice none 0 0), Is (.bool false), Is (.slice none 0 0), Is (.slice none 0 0)]) O_45 rfl (fun V => aW ⟨rfl, trivial⟩ (aW ⟨rfl, trivial⟩ (aW ⟨rfl, trivial⟩ (aW ⟨rfl, trivial⟩ (aW ⟨rfl, trivial⟩ (aG))))))) fun B4 => (ro rfl (cX (cV 0)) (eZ (cU (ts (ro rfl (eW A_30 Z_30 (Ht rfl) (i := 0) rfl rfl rfl) (rm rfl (ro rfl (cJ Tryz.call171 c_has ⟨(Ht rfl), (Ht rfl), trivial⟩) ?_)))))))))))
 refine ro rfl (op_not (Ht rfl)) (eZ (dX (Ht rfl) (fun hb => ?_) (fun hb => ?_)))
 ·have hn : ¬ (1 ≤ i ∧ i ≤ (z.length : Int)) := by simpa only [Bool.not_eq_true', decide_eq_false_iff_not] using hb
  refine ts (ro rfl (OpTy.imp (bld_45_ ) num_zero) (gX Z_45 (Ht rfl) (Ht rfl) rfl (i := 1) rfl (aK rfl) rfl rfl (ro rfl (cX (cV 1)) (eZ (T_ret2 rfl (fZ (fU A_45 Z_45 rfl (i := 1) rfl rfl) ?_) (fZ (eY rfl) ?_))))))
  ·exact (num_of (by rw [pkv, if_neg hn]))
  ·exact (int_of (by rw [if_neg hn]; rfl))
 ·have hp : 1 ≤ i ∧ i ≤ (z.length : Int) := by simpa only [Bool.not_eq_false', decide_eq_true_eq] using hb
  have hq : (i - 1).toNat < z.length := by omega
  refine cY (ts (ro rfl (eJ fa_30_0 (Ht rfl) rfl) (ro rfl (fQ A_27 Z_27 (Ht rfl) (i := 0) rfl rfl) (rm rfl (ro rfl (op_sub (Ht rfl) cW (w64 (by omega))) (ro rfl (dJ U_27 Z_45 (Ht rfl) (Ht rfl) (by omega : i - 1 = (((i - 1).toNat : Nat) : Int)) (eQ (dY (d := Qi.zero) hq))) (ro rfl (dV A_45 Z_45 (Ht rfl)) (gX Z_45 (Ht rfl) (Ht rfl) rfl (i := 1) rfl (aK rfl) rfl rfl (ro rfl (cX (cV 0)) (eZ (T_ret2 rfl (fZ (fU A_45 Z_45 rfl (i := 1) rfl rfl) ?_) (fZ (eY rfl) ?_))))))))))))
  ·exact (num_of (by rw [pkv, if_pos hp]))
  ·exact (int_of (by rw [if_pos hp]; rfl))
theorem c_At {z : List Qi} {s : List (List Qi)} {i j : Int} (hs : Shp s z.length z.length) (hl : z.length ≤ 1000) : Fun Tryz.prog 65 [NetT z s, IntT .i64 i, IntT .i64 j] (TupT [NumT (pkm z.length s i j), IntT .i64 (if (1 ≤ i ∧ i ≤ z.length) ∧ 1 ≤ j ∧ j ≤ z.length then 0 else 1)]) := by
 have hs1 := hs.1
 refine Fun.intro Tryz.func65 rfl Tryz.ntmps65 rfl (fun cx => (ts (rn rfl (fK (Ht rfl)) fun B3 => (rn rfl (eG (Ts := [Is (.bool false), Is (.slice none 0 0), Is (.bool false), Is (.slice none 0 0), Is (.slice none 0 0)]) O_45 rfl (fun V => aW ⟨rfl, trivial⟩ (aW ⟨rfl, trivial⟩ (aW ⟨rfl, trivial⟩ (aW ⟨rfl, trivial⟩ (aW ⟨rfl, trivial⟩ (aG))))))) fun B6 => (ro rfl (cX (cV 0)) (eZ (cU (ts (ro rfl (eW A_30 Z_30 (Ht rfl) (i := 0) rfl rfl rfl) (rm rfl (ro rfl (cJ Tryz.call171 c_has ⟨(Ht rfl), (Ht rfl), trivial⟩) ?_)))))))))))
 refine ro rfl (op_not (Ht rfl)) (rm rfl (fX rfl rfl (eU rfl rfl (Ht rfl) (fun h => eW A_30 Z_30 (Ht rfl) (i := 0) rfl rfl rfl)) (fX rfl rfl (eU rfl rfl (Ht rfl) (fun h => cZ (Ht rfl))) (fX rfl rfl (eU rfl rfl (Ht rfl) (fun h => cJ Tryz.call171 c_has ⟨(fV rfl h), (fV rfl h), trivial⟩)) (fX rfl rfl (eU rfl rfl (Ht rfl) (fun h => op_not (fV rfl h))) (ro rfl (op_or (Ht rfl) (fun h => (fV rfl h))) (eZ (dX (Ht rfl) (fun hb => ?_) (fun hb => ?_)))))))))
 ·have hn : ¬ ((1 ≤ i ∧ i ≤ (z.length : Int)) ∧ 1 ≤ j ∧ j ≤ (z.length : Int)) := by simp only [Bool.or_eq_true, Bool.not_eq_true', decide_eq_false_iff_not] at hb; exact fun k => hb.elim (fun h => h k.1) (fun h => h k.2)
  refine ts (rn rfl (eG (Ts := [Is (.bool false), Is (.slice none 0 0), Is (.bool false), Is (.slice none 0 0), Is (.slice none 0 0)]) O_45 rfl (fun V => aW ⟨rfl, trivial⟩ (aW ⟨rfl, trivial⟩ (aW ⟨rfl, trivial⟩ (aW ⟨rfl, trivial⟩ (aW ⟨rfl, trivial⟩ (aG))))))) fun B8 => (eZ (ts (ro rfl (eW A_45 Z_45 (Ht rfl) (i := 2) rfl rfl rfl) (gX Z_45 (Ht rfl) (Ht rfl) rfl (i := 1) rfl (aK rfl) rfl rfl (ro rfl (cX (cV 1)) (eZ (T_ret2 rfl (fZ (fU A_45 Z_45 rfl (i := 1) rfl rfl) ?_) (fZ (eY rfl) ?_)))))))))
  ·exact (fun v V k => by rw [pkm, if_neg hn]; exact num_zero v V k)
  ·exact (int_of (by rw [if_neg hn]; rfl))
 ·have hp : (1 ≤ i ∧ i ≤ (z.length : Int)) ∧ 1 ≤ j ∧ j ≤ (z.length : Int) := by simpa only [Bool.or_eq_false_iff, Bool.not_eq_false', decide_eq_true_eq] using hb
  have hq : (i - 1).toNat < s.length := by omega
  have hq2 : (j - 1).toNat < (s.getD (i - 1).toNat []).length := by rw [hs.row (by omega)]; omega
  refine cY (ts (ro rfl (eJ fa_30_1 (Ht rfl) rfl) (ro rfl (fQ A_28 Z_28 (Ht rfl) (i := 0) rfl rfl) (rm rfl (ro rfl (op_sub (Ht rfl) cW (w64 (by omega))) (ro rfl (dJ U_28 Z_27 (Ht rfl) (Ht rfl) (by omega : i - 1 = (((i - 1).toNat : Nat) : Int)) (eQ (dY (d := []) hq))) (ro rfl (dV A_27 Z_27 (Ht rfl)) (rm rfl (ro rfl (op_sub (Ht rfl) cW (w64 (by omega))) (ro rfl (dJ U_27 Z_45 (Ht rfl) (Ht rfl) (by omega : j - 1 = (((j - 1).toNat : Nat) : Int)) (eQ (dY (d := Qi.zero) hq2))) ?_))))))))))
  refine ro rfl (dV A_45 Z_45 (Ht rfl)) (gX Z_45 (Ht rfl) (Ht rfl) rfl (i := 1) rfl (aK rfl) rfl rfl (ro rfl (cX (cV 0)) (eZ (T_ret2 rfl (fZ (fU A_45 Z_45 rfl (i := 1) rfl rfl) ?_) (fZ (eY rfl) ?_)))))
  ·exact (num_of (by rw [pkm, if_pos hp]))
  ·exact (int_of (by rw [if_pos hp]; rfl))
end
section
open Go Go.RowKit
theorem info_31 : Tryz.prog.info? 31 = some Tryz.t31 := by kernel_rfl
theorem info_98 : Tryz.prog.info? 98 = some Tryz.t98 := by kernel_rfl
theorem und_28 : Tryz.prog.underlying 28 = some (.slice 27) := by kernel_rfl
theorem und_31 : Tryz.prog.underlying 31 = some (.slice 98) := by kernel_rfl
theorem und_32 : Tryz.prog.underlying 32 = some (.slice 31) := by kernel_rfl
end
section
open Go Go.RowKit
theorem c_lawRows {m : List (List Rt)} (hm : m.length ≤ 1000) (hr : ∀ r, r ∈ m → r.length ≤ 1000) : Fun Tryz.prog 24 [RatM m] (NumM (rq m)) := by
 refine Fun.intro Tryz.func24 rfl Tryz.ntmps24 rfl (fun cx => (ts (ro rfl (cX cW) (eZ (ts (rm rfl (ro rfl (dK U_25 (Ht rfl) len_map) (rn rfl (new_makeO (T := NumsT []) (i := Tryz.t27) und_28 info_27 rfl rfl (Ht rfl) rfl nums_zero_p El.one (by show 24 * _ ≤ _; omega) (by omega)) fun B8 => (ra rfl (eZ (cU (ts (rm rfl (ro rfl (dK U_25 (Ht rfl) len_map) (ro rfl (cZ (cV 0)) (eZ (eK ?_)))))))))))))))))
 refine T_loop2 (fun (k : Nat) (out : List (List Qi)) => FillS (fun i => (m.getD i default).map Rt.q) m.length out k) (fun (k : Nat) (out : List (List Qi)) => m.length - k) (fun (k : Nat) (out : List (List Qi)) => [(3, Is B8), (9, RatM m), (10, NT .i64 m.length), (11, NT .i64 k)]) (fun (k : Nat) (out : List (List Qi)) => [rowO 27 1 B8 (out.map NumsT)]) 0 (List.replicate m.length []) (FillS.start _ _ _)
  (aQ rfl (aQ rfl (aQ rfl (aQ rfl aX)))) (aU (rowO_of (rep_mapF NumsT _ _)) aY) (fun k out hS => ?_)
 refine ts (ro rfl (gZ (Ht rfl) (Ht rfl)) (eZ (cU (dX (Ht rfl) (fun hk => ?_) (fun hk => ?_)))))
 ·simp only [decide_eq_true_eq] at hk
  have hlen := hS.len
  have hrk : (m.getD k default).length ≤ 1000 := by
   have e : m.getD k default = m[k] := by simp [List.getD, hk]
   rw [e]; exact hr _ (List.getElem_mem hk)
  refine cY (cU (eK (ts (rm rfl (ro rfl (dJ U_25 Z_22 (Ht rfl) (Ht rfl) rfl (eQ (dY (d := default) hk))) (ro rfl (dV A_22 Z_22 (Ht rfl)) (ra rfl (ra rfl (eZ (dQ (rm rfl (rm rfl (rm rfl (ro rfl (cJ Tryz.call23 (c_lawList (by omega)) ⟨(Ht rfl), trivial⟩) (ro rfl (op_idxO U_28 Z_27 (Ht rfl) (Ht rfl) rfl (i := 0) rfl (by first | omega | (simp; omega)) rfl) (R_stO Z_27 (Ht rfl) (Ht rfl) El.one (i := 0) rfl rfl (by first | omega | (simp; omega)) rfl (eZ (T_blk ?_))))))))))))))))))
  refine dQ (ro rfl (dW (Ht rfl) (cV 1) (by show _ < 9223372036854775808; first | omega | (simp only [lim]; omega))) (rm rfl (eZ (fY (k + 1, _) (hS.next hk rfl) (by dsimp only; omega) (aQ rfl (aQ rfl (aQ rfl (aQ rfl aX)))) (aU (rowO_of (set_mapF NumsT _ _ _)) aY)))))
 ·simp only [decide_eq_false_iff_not] at hk
  obtain rfl : k = m.length := Nat.le_antisymm hS.kle (by omega)
  have hfin := hS.fin
  rw [tab_list m (fun r => r.map Rt.q)] at hfin
  refine gW rfl (gV (i := 0) (tt := 3) rfl rfl frz_row (ts (rm rfl (ra rfl (eZ (fG rfl (fZ (eY rfl) ?_)))))))
  exact (slT_of (by rw [hfin]))
end
section
open Go Go.RowKit
theorem bld_34_ {n : Nat} {E : Env} {H : Hp} {d : Option Tmp} {t : TypeId} {pos : String} {af : Array Edge} {g : Option (Nat × Bool)}  :
  OpTy Tryz.prog n E H ⟨d, .build 34 #[], t, pos, af, g⟩ (AggT [Is (.slice none 0 0), Is (.slice none 0 0)]) :=
 op_build (parts := []) fun a V w hs => by
  refine ⟨.agg #[(.slice none 0 0), (.slice none 0 0)], ?_, [(.slice none 0 0), (.slice none 0 0)], rfl, aW (⟨rfl, trivial⟩) (aW (⟨rfl, trivial⟩) (aG))⟩
  simp [Instr.build, Instr.fill, Sem.run_bind, Result.andThen, cells_agg, O_34, U_34, Z_31, Tryz.sizeOf32]
theorem bld_34_0_1 {n : Nat} {E : Env} {H : Hp} {d : Option Tmp} {t : TypeId} {pos : String} {af : Array Edge} {g : Option (Nat × Bool)} {x0 x1 : Operand} {T0 T1 : Ty} [s0 : Shape T0 1 false] (h0 : Has E x0 T0) [s1 : Shape T1 1 false] (h1 : Has E x1 T1) :
  OpTy Tryz.prog n E H ⟨d, .build 34 #[(0, x0), (1, x1)], t, pos, af, g⟩ (AggT [T0, T1]) :=
 op_build (parts := [(0, x0), (1, x1)]) fun a V w hs => by
  have p0 := h0 n V a hs
  generalize e0 : a.eval x0 = v0 at p0
  have q0 := (s0.ok v0 V p0).2.2 rfl
  have p1 := h1 n V a hs
  generalize e1 : a.eval x1 = v1 at p1
  have q1 := (s1.ok v1 V p1).2.2 rfl
  refine ⟨.agg #[v0, v1], ?_, [v0, v1], rfl, aW (⟨p0, q0⟩) (aW (⟨p1, q1⟩) (aG))⟩
  simp [e0, e1, Instr.build, Instr.fill, Sem.run_bind, Result.andThen, cells_agg, q0.cells, q1.cells, O_34, U_34, Z_31, Tryz.sizeOf32]
theorem fa_34_0 (a : Addr) (w : World) : (Instr.fieldAt 34 (.pointer (some a)) 0).run Tryz.prog w = .ok (.pointer (some (a.add 0))) w := by
 simp [Instr.fieldAt, Instr.sureAddr, fieldPlace, Sem.run_bind, Result.andThen, U_34, Z_31]
end
section
open Go Go.RowKit
theorem c_rPositive {x : Qi} {L : Nat} [hx : FitC x L] (h : L ≤ 17592186044415) : Fun Tryz.prog 250 [QT x] (BoolT (posQ x)) := by
 refine Fun.intro Tryz.func250 rfl Tryz.ntmps250 rfl (fun cx => (ts (rn rfl (fK (Ht rfl)) fun B1 => (ro rfl (cX cW) (eZ (ts (ro rfl (eW A_98 Z_98 (Ht rfl) (i := 0) rfl rfl rfl) (ro rfl (cJ Tryz.call225 (c_rSide (by omega)) ⟨(Ht rfl), trivial⟩) (ro rfl (op_eql (Ht rfl) cW) (rm rfl (fX rfl rfl (eU rfl rfl (Ht rfl) (fun h => eW A_98 Z_98 (Ht rfl) (i := 0) rfl rfl rfl)) (fX rfl rfl (eU rfl rfl (Ht rfl) (fun h => cJ Tryz.call226 c_rSign ⟨(fV rfl h), trivial⟩)) (fX rfl rfl (eU rfl rfl (Ht rfl) (fun h => op_gtr (fV rfl h) cW)) ?_)))))))))))))
 refine ro rfl (op_and (Ht rfl) (fun h => (fV rfl h))) (ra rfl (eZ (fG rfl (fZ (eY rfl) ?_))))
 exact (bool_of (rpos_eq x))
theorem c_shaped {z : List Qi} {s : List (List Qi)} (hz : z.length ≤ 100000) (hs : s.length ≤ 100000) : Fun Tryz.prog 194 [QsT z, QM s] (BoolT (shpB z s)) := by
 refine Fun.intro Tryz.func194 rfl Tryz.ntmps194 rfl (fun cx => (ts (ro rfl (cX cW) (eZ (cU (ts (rm rfl (ro rfl (dK U_31 (Ht rfl) len_map) (ro rfl (gZ (Ht rfl) (cV 1)) (rm rfl (fX rfl rfl (eU rfl rfl (Ht rfl) (fun h => cZ (Ht rfl))) (fX rfl rfl (eU rfl rfl (Ht rfl) (fun h => dK U_31 (fV rfl h) len_map)) (fX rfl rfl (eU rfl rfl (Ht rfl) (fun h => op_gtrN (fV rfl h) (cV 8))) (ro rfl (op_or (Ht rfl) (fun h => (fV rfl h))) (rm rfl (fX rfl rfl (eU rfl rfl (Ht rfl) (fun h => cZ (Ht rfl))) ?_))))))))))))))))
 refine fX rfl rfl (eU rfl rfl (Ht rfl) (fun h => dK U_32 (fV rfl h) len_map)) (fX rfl rfl (eU rfl rfl (Ht rfl) (fun h => cZ (Ht rfl))) (fX rfl rfl (eU rfl rfl (Ht rfl) (fun h => dK U_31 (fV rfl h) len_map)) (fX rfl rfl (eU rfl rfl (Ht rfl) (fun h => op_neqN (fV rfl h) (fV rfl h))) (ro rfl (op_or (Ht rfl) (fun h => (fV rfl h))) (eZ (dX (Ht rfl) (fun hb => ?_) (fun hb => ?_)))))))
 ·refine ts (ro rfl (cX cW) (eZ (fG rfl (fZ (eY rfl) ?_))))
  exact (bool_of (by rw [shpB, hb]; rfl))
 ·refine cY (cU (ts (ro rfl (cX (cV 0)) (eZ (eK ?_)))))
  refine T_loop (fun (k : Nat) => k ≤ s.length ∧ ∀ (i : Nat) (r : List Qi), i < k → s[i]? = some r → r.length = z.length) (fun (k : Nat) => s.length - k) (fun (k : Nat) => [(0, QsT z), (1, QM s), (5, NT .i64 k)]) (fun (k : Nat) => []) 0 ⟨Nat.zero_le _, fun i r h => by omega⟩
   (aQ rfl (aQ rfl (aQ rfl aX))) aY (fun k ⟨hk, hr⟩ => ?_)
  refine cU (ts (rm rfl (rm rfl (ro rfl (dK U_32 (Ht rfl) len_map) (ro rfl (gZ (Ht rfl) (Ht rfl)) (eZ (dX (Ht rfl) (fun hc => ?_) (fun hc => ?_))))))))
  ·simp only [decide_eq_true_eq] at hc
   refine cY (cU (eK (ts (rm rfl (rm rfl (ro rfl (dJ U_32 Z_31 (Ht rfl) (Ht rfl) rfl (eQ (getq hc))) (ro rfl (dV Tryz.isAgg31 Z_31 (Ht rfl)) (ro rfl (dK U_31 (Ht rfl) len_map) (rm rfl (ro rfl (dK U_31 (Ht rfl) len_map) (ro rfl (op_neqN (Ht rfl) (Ht rfl)) (eZ (dX (Ht rfl) (fun hd => ?_) (fun hd => ?_))))))))))))))
   ·have hd2 : ¬ (s[k]).length = z.length := by simpa using hd
    refine ts (ro rfl (cX cW) (eZ (fG rfl (fZ (eY rfl) ?_))))
    exact (bool_of (by rw [shpB, any_row (getq hc) hd2, Bool.or_true]; rfl))
   ·have hd2 : (s[k]).length = z.length := by simpa using hd
    refine cY (T_blk (dQ (rm rfl (ro rfl (dW (Ht rfl) (cV 1) (by show _ < 9223372036854775808; first | omega | (simp only [lim]; omega))) (ra rfl (eZ ?_))))))
    refine fY (k + 1) ⟨hc, fun i r h1 h2 => by
     by_cases e : i = k
     ·subst e; rw [getq hc] at h2; obtain rfl := Option.some.inj h2; exact hd2
     ·exact hr i r (by omega) h2⟩ (by omega) (aQ rfl (aQ rfl (aQ rfl aX))) aY
  ·simp only [decide_eq_false_iff_not] at hc
   have hall : ∀ (i : Nat) (r : List Qi), s[i]? = some r → r.length = z.length := fun i r h => hr i r (by have := (List.getElem?_eq_some_iff.1 h).1; omega) h
   refine gW rfl (ts (ro rfl (cX cW) (eZ (fG rfl (fZ (eY rfl) ?_)))))
   exact (bool_of (by rw [shpB, any_none hall, hb]; rfl))
theorem c_allPositive {z : List Qi} {L : Nat} (hz : FitL z L) (h : L ≤ 17592186044415) (hl : z.length ≤ 100000) : Fun Tryz.prog 195 [QsT z] (BoolT (z.all posQ)) := by
 refine Fun.intro Tryz.func195 rfl Tryz.ntmps195 rfl (fun cx => (ts (ro rfl (cX cW) (eZ (cU (ts (ro rfl (cX (cV 0)) (eZ (eK ?_)))))))))
 refine T_loop (fun (k : Nat) => k ≤ z.length ∧ ∀ (i : Nat) (r : Qi), i < k → z[i]? = some r → posQ r = true) (fun (k : Nat) => z.length - k) (fun (k : Nat) => [(0, QsT z), (3, NT .i64 k)]) (fun (k : Nat) => []) 0 ⟨Nat.zero_le _, fun i r h => by omega⟩
  (aQ rfl (aQ rfl aX)) aY (fun k ⟨hk, hr⟩ => ?_)
 refine cU (ts (rm rfl (rm rfl (ro rfl (dK U_31 (Ht rfl) len_map) (ro rfl (gZ (Ht rfl) (Ht rfl)) (eZ (dX (Ht rfl) (fun hc => ?_) (fun hc => ?_))))))))
 ·simp only [decide_eq_true_eq] at hc
  haveI hf : FitC z[k] L := hz _ (List.getElem_mem hc)
  refine cY (cU (eK (ts (rm rfl (rm rfl (ro rfl (dJ U_31 Z_98 (Ht rfl) (Ht rfl) rfl (eQ (getq hc))) (ro rfl (dV A_98 Z_98 (Ht rfl)) (ro rfl (cJ Tryz.call250 (c_rPositive (L := L) h) ⟨(Ht rfl), trivial⟩) (ro rfl (op_not (Ht rfl)) (eZ (dX (Ht rfl) (fun hd => ?_) (fun hd => ?_))))))))))))
  ·have hd2 : posQ z[k] = false := by simpa using hd
   refine ts (ro rfl (cX cW) (eZ (fG rfl (fZ (eY rfl) ?_))))
   exact (bool_of (all_at (getq hc) hd2).symm)
  ·have hd2 : posQ z[k] = true := by simpa using hd
   refine cY (T_blk (dQ (rm rfl (ro rfl (dW (Ht rfl) (cV 1) (by show _ < 9223372036854775808; first | omega | (simp only [lim]; omega))) (ra rfl (eZ ?_))))))
   refine fY (k + 1) ⟨hc, fun i r h1 h2 => by
    by_cases e : i = k
    ·subst e; rw [getq hc] at h2; obtain rfl := Option.some.inj h2; exact hd2
    ·exact hr i r (by omega) h2⟩ (by omega) (aQ rfl (aQ rfl aX)) aY
 ·simp only [decide_eq_false_iff_not] at hc
  have hall : ∀ (i : Nat) (r : Qi), z[i]? = some r → posQ r = true := fun i r h => hr i r (by have := (List.getElem?_eq_some_iff.1 h).1; omega) h
  refine gW rfl (ts (ro rfl (cX cW) (eZ (fG rfl (fZ (eY rfl) ?_)))))
  exact (bool_of (all_all hall).symm)
theorem c_rnetNew {z : List Qi} {s : List (List Qi)} {L : Nat} (hz : FitL z L) (h : L ≤ 17592186044415) (hl : z.length ≤ 1000) (hl2 : s.length ≤ 1000) : Fun Tryz.prog 89 [QsT z, QM s] (TupT [RNetT (okL (netErr z s) z) (okL (netErr z s) s), IntT .i64 (netErr z s)]) := by
 refine Fun.intro Tryz.func89 rfl Tryz.ntmps89 rfl (fun cx => (ts (rn rfl (eG (Ts := [Is (.slice none 0 0), Is (.slice none 0 0)]) O_34 rfl (fun V => aW ⟨rfl, trivial⟩ (aW ⟨rfl, trivial⟩ (aG)))) fun B4 => (ro rfl (cX (cV 0)) (eZ (cU (ts (rm rfl (rm rfl (ro rfl (cJ Tryz.call194 (c_shaped (by omega) (by omega)) ⟨(Ht rfl), (Ht rfl), trivial⟩) (ro rfl (op_not (Ht rfl)) (eZ (dX (Ht rfl) (fun hb => ?_) (fun hb => ?_))))))))))))))
 ·have hb2 : ¬ shpB z s = true := by simpa using hb
  have he : netErr z s = 4 := by rw [netErr_if, if_neg hb2]
  refine ts (ro rfl (OpTy.imp (bld_34_ ) rnet_nil) (gX Z_34 (Ht rfl) (Ht rfl) rfl (i := 0) rfl (aK rfl) rfl rfl (ro rfl (cX (cV 4)) (eZ (T_ret2 rfl (fZ (fU A_34 Z_34 rfl (i := 0) rfl rfl) ?_) (fZ (eY rfl) ?_))))))
  ·exact (rnet_bad he (by decide))
  ·exact (int_of he.symm)
 ·have hb2 : shpB z s = true := by simpa using hb
  refine cY (cU (ts (rm rfl (ro rfl (cJ Tryz.call195 (c_allPositive (by assumption) (by assumption) (by omega)) ⟨(Ht rfl), trivial⟩) ?_))))
  refine ro rfl (op_not (Ht rfl)) (eZ (dX (Ht rfl) (fun hc => ?_) (fun hc => ?_)))
  ·have hc2 : ¬ z.all posQ = true := by simp only [Bool.not_eq_true'] at hc; rw [hc]; exact Bool.noConfusion
   have he : netErr z s = 1 := by rw [netErr_if, if_pos hb2, if_neg hc2]
   refine ts (ro rfl (OpTy.imp (bld_34_ ) rnet_nil) (gX Z_34 (Ht rfl) (Ht rfl) rfl (i := 0) rfl (aK rfl) rfl rfl (ro rfl (cX (cV 1)) (eZ (T_ret2 rfl (fZ (fU A_34 Z_34 rfl (i := 0) rfl rfl) ?_) (fZ (eY rfl) ?_))))))
   ·exact (rnet_bad he (by decide))
   ·exact (int_of he.symm)
  ·have hc2 : z.all posQ = true := by simp only [Bool.not_eq_false'] at hc; exact hc
   have he : netErr z s = 0 := by rw [netErr_if, if_pos hb2, if_pos hc2]
   refine cY (ts (rm rfl (rm rfl (ro rfl (bld_34_0_1 (Ht rfl) (Ht rfl)) (gX Z_34 (Ht rfl) (Ht rfl) rfl (i := 0) rfl (aK rfl) rfl rfl (ro rfl (cX (cV 0)) (eZ (T_ret2 rfl (fZ (fU A_34 Z_34 rfl (i := 0) rfl rfl) ?_) (fZ (eY rfl) ?_)))))))))
   ·exact (rnet_good he)
   ·exact (int_of he.symm)
end
section
open Go Go.RowKit
theorem fa_34_1 (a : Addr) (w : World) : (Instr.fieldAt 34 (.pointer (some a)) 1).run Tryz.prog w = .ok (.pointer (some (a.add 1))) w := by
 simp [Instr.fieldAt, Instr.sureAddr, fieldPlace, Sem.run_bind, Result.andThen, U_34, Tryz.sizeOf32]
end
section
open Go Go.RowKit
theorem meth_45_Of (v : Value) (w : World) : (method (Tryz.prog.types.size + Made.depth) 45 v "Of").run Tryz.prog w = .ok (302, v) w := by kernel_rfl
theorem mkif_45 (v : Value) (w : World) : (Instr.makeInterface 45 v).run Tryz.prog w = .ok (.iface 45 v) w := by
 simp [Instr.makeInterface, Sem.run_bind, Result.andThen, U_45]
end
section
open Go Go.RowKit
theorem c_OfZ {y : Qi} : Fun Tryz.prog 302 [AggT [Is (.bool false), Is (.slice none 0 0), Is (.bool false), Is (.slice none 0 0), Is (.slice none 0 0)], NumT y] (NumT y) := by
 refine Fun.intro Tryz.func302 rfl Tryz.ntmps302 rfl (fun cx => (ts (rn rfl (fK (Ht rfl)) fun B2 => (rn rfl (fK (Ht rfl)) fun B3 => (rn rfl (eG (Ts := [Is (.bool false), Is (.slice none 0 0), Is (.bool false), Is (.slice none 0 0), Is (.slice none 0 0)]) O_45 rfl (fun V => aW ⟨rfl, trivial⟩ (aW ⟨rfl, trivial⟩ (aW ⟨rfl, trivial⟩ (aW ⟨rfl, trivial⟩ (aW ⟨rfl, trivial⟩ (aG))))))) fun B4 => (eZ (ts (ro rfl (eW A_45 Z_45 (Ht rfl) (i := 1) rfl rfl rfl) (gX Z_45 (Ht rfl) (Ht rfl) rfl (i := 2) rfl (aK rfl) rfl rfl ?_)))))))))
 refine eZ ?_
 exact fG rfl (fU A_45 Z_45 rfl (i := 2) rfl rfl)
theorem c_columns1 {r : List Qi} {k : Nat} : Fun Tryz.prog 244 [NumsT r, PT (NT .i64 k)] (BoolT (!decide (r.length = k))) := by
 refine Fun.intro Tryz.func244 rfl Tryz.ntmps244 rfl (fun cx => (ts (ro rfl (cX cW) (eZ (ts (rm rfl (ro rfl (dK U_27 (Ht rfl) len_map) (ro rfl (dV A_3 Z_3 (Ht rfl)) (ro rfl (op_neqN (Ht rfl) (Ht rfl)) (ra rfl (eZ ?_)))))))))))
 exact fG rfl (eY rfl)
theorem c_columns {a : List (List Qi)} {n k : Nat} (h : Shp a n k) (h1 : 1 ≤ n) (hn : n ≤ 32) (hk : k ≤ 32) : Fun Tryz.prog 180 [NumM a] (TupT [NT .i64 k, BoolT true]) := by
 obtain ⟨rfl, h2⟩ := h
 have hr0 : (a.getD 0 []).length = k := Shp.row ⟨rfl, h2⟩ (by omega)
 refine Fun.intro Tryz.func180 rfl Tryz.ntmps180 rfl (fun cx => (ts (ro rfl (cX (cV 0)) (ro rfl (cX cW) (eZ (cU (ts (rm rfl (ro rfl (dK U_28 (Ht rfl) len_map) (ro rfl (op_eqlN (Ht rfl) (cV 0)) (eZ (dX (Ht rfl) (fun hb => ?_) (fun hb => ?_)))))))))))))
 ·simp only [decide_eq_true_eq] at hb
  omega
 ·refine cY (ts (rm rfl (ro rfl (dJ U_28 Z_27 (Ht rfl) (cV 0) rfl (eQ (dY (d := []) (by omega)))) (ro rfl (dV A_27 Z_27 (Ht rfl)) (ro rfl (dK U_27 (Ht rfl) len_map) (rn rfl (eG (Ts := [Is (.int .i64 0)]) O_3 rfl (fun V => aW ⟨rfl, trivial⟩ (aG))) fun B4 => (R_st Z_3 (Ht rfl) (Ht rfl) (i := 0) rfl (aK rfl) rfl (eZ (cU (gV (i := 0) (tt := 4) rfl rfl frz_ptr1 (fJ (m := 15) (dp 4 rfl (dV A_3 Z_3 (Ht rfl)) ?_))))))))))))
  refine dp 0 rfl (cZ (Ht rfl)) (dq 13 1 rfl (dK U_28 (Ht rfl) len_map) (dq 14 2 rfl (op_leqN (Ht rfl) (cV 32)) (dq 15 3 rfl (cZ (Ht rfl)) (C.D_step (Ei := [(4, _), (16, _)]) rfl rfl (bV (bK rfl rfl) (bV (bG 4 rfl rfl) bW)) (eU rfl rfl (Ht rfl) (fun h => dV A_3 Z_3 (Ht rfl))) (C.D_step (Ei := [(17, _), (16, _)]) rfl rfl (bV (bG 5 rfl rfl) (bV (bG 4 rfl rfl) bW)) (eU rfl rfl (Ht rfl) (fun h => op_leqN (fV rfl h) (cV 32))) (dqq 16 4 18 6 rfl (op_and (Ht rfl) (fun h => (fV rfl h))) ?_))))))
  refine dq 19 7 rfl (cZ (Ht rfl)) (C.D_step (Ei := [(0, _), (20, _)]) rfl rfl (bV (bK rfl rfl) (bV (bG 8 rfl rfl) bW)) (eU rfl rfl (Ht rfl) (fun h => cZ (Ht rfl))) (C.D_step (Ei := [(4, _), (20, _)]) rfl rfl (bV (bK rfl rfl) (bV (bG 8 rfl rfl) bW)) (eU rfl rfl (Ht rfl) (fun h => op_clos (γ := List Qi) (Ts := fun r => [NumsT r]) (U := fun r => BoolT (!decide (r.length = (a.getD 0 []).length))) Tryz.call244 (fun r => c_columns1) ⟨(Ht rfl), trivial⟩)) (C.D_step (Ei := [(21, _), (22, _), (20, _)]) rfl rfl (bV (bG 9 rfl rfl) (bV (bG 10 rfl rfl) (bV (bG 8 rfl rfl) bW))) (eU rfl rfl (Ht rfl) (fun h => cJ Tryz.call221 (c_ContainsRow (l := a) (T := NumsT) (p := fun r => !decide (r.length = (a.getD 0 []).length)) (by omega)) ⟨(fV rfl h), (fV rfl h), trivial⟩)) ?_)))
  refine C.D_step (Ei := [(23, _), (20, _)]) rfl rfl (bV (bG 11 rfl rfl) (bV (bG 8 rfl rfl) bW)) (eU rfl rfl (Ht rfl) (fun h => op_not (fV rfl h))) (dqq 20 8 24 12 rfl (op_and (Ht rfl) (fun h => (fV rfl h))) (dq 12 0 rfl (cX (Ht rfl)) (fW mixed rfl (by kernel_rfl) (aJ (aJ (aJ (aJ (aJ (aJ (aJ (aJ (aJ (aJ (aJ (aJ (aJ (aJ (aJ (aV (ra rfl (eZ (T_ret2 rfl (fZ (eY rfl) ?_) (fZ (eY rfl) ?_)))))))))))))))))))))))
  ·exact (nt_of hr0)
  ·exact (bool_of (by rw [hr0, cols_ok ⟨rfl, h2⟩]; simp; omega))
end
section
open Go Go.RowKit
theorem meth_45_Add (v : Value) (w : World) : (method (Tryz.prog.types.size + Made.depth) 45 v "Add").run Tryz.prog w = .ok (68, v) w := by kernel_rfl
theorem meth_45_Mul (v : Value) (w : World) : (method (Tryz.prog.types.size + Made.depth) 45 v "Mul").run Tryz.prog w = .ok (67, v) w := by kernel_rfl
end
section
open Go Go.RowKit
theorem meth_45_Div (v : Value) (w : World) : (method (Tryz.prog.types.size + Made.depth) 45 v "Div").run Tryz.prog w = .ok (59, v) w := by kernel_rfl
theorem meth_45_Sub (v : Value) (w : World) : (method (Tryz.prog.types.size + Made.depth) 45 v "Sub").run Tryz.prog w = .ok (66, v) w := by kernel_rfl
end
section
open Go Go.RowKit
theorem c_Mul64 {n : Nat} (h : n < 4294967296) : Fun Tryz.prog 276 [NT .u64 1, NT .u64 n] (TupT [NT .u64 0, NT .u64 n]) := by
 refine Fun.intro Tryz.func276 rfl Tryz.ntmps276 rfl (fun cx => (ts (ro rfl (cX (cV 0)) (ro rfl (cX (cV 0)) (eZ (ts (rm rfl (ro rfl (OpTy.nat (op_andN rfl (Ht rfl) (cV 4294967295) (by show _ < 18446744073709551616; first | omega | (simp only [lim]; omega)) (by show _ < 18446744073709551616; first | omega | (simp only [lim]; omega))) (show (1 : Nat) &&& 4294967295 = 1 by decide)) (ra rfl (eZ (ts (rm rfl (ro rfl (OpTy.nat (op_shrN (Ht rfl) (cV 32) (by decide)) (show (1 : Nat) / 2 ^ 32 = 0 by decide)) (ra rfl (eZ (ts (rm rfl (ro rfl (OpTy.nat (op_andN rfl (Ht rfl) (cV 4294967295) (by show _ < 18446744073709551616; first | omega | (simp only [lim]; omega)) (by show _ < 18446744073709551616; first | omega | (simp only [lim]; omega))) (show n &&& 4294967295 = n from (Nat.and_two_pow_sub_one_eq_mod n 32).trans (Nat.mod_eq_of_lt h))) ?_))))))))))))))))))
 refine ra rfl (eZ (ts (rm rfl (ro rfl (OpTy.nat (op_shrN (Ht rfl) (cV 32) (by decide)) (show n / 2 ^ 32 = 0 from Nat.div_eq_of_lt h)) (ra rfl (eZ (ts (rm rfl (rm rfl (ro rfl (OpTy.nat (op_mulN (Ht rfl) (Ht rfl) (by show _ < 18446744073709551616; first | omega | (simp only [lim]; omega))) (Nat.one_mul n)) (ra rfl (eZ (ts (rm rfl (rm rfl (ro rfl (OpTy.nat (op_mulN (Ht rfl) (Ht rfl) (by show _ < 18446744073709551616; first | omega | (simp only [lim]; omega))) (Nat.zero_mul n)) (rm rfl (ro rfl (OpTy.nat (op_shrN (Ht rfl) (cV 32) (by decide)) (show n / 2 ^ 32 = 0 from Nat.div_eq_of_lt h)) ?_))))))))))))))))))
 refine ro rfl (dW (Ht rfl) (Ht rfl) (by show _ < 18446744073709551616; first | omega | (simp only [lim]; omega))) (ra rfl (eZ (ts (rm rfl (ro rfl (OpTy.nat (op_andN rfl (Ht rfl) (cV 4294967295) (by show _ < 18446744073709551616; first | omega | (simp only [lim]; omega)) (by show _ < 18446744073709551616; first | omega | (simp only [lim]; omega))) (show (0 + 0 : Nat) &&& 4294967295 = 0 by decide)) (ra rfl (eZ (ts (rm rfl (ro rfl (OpTy.nat (op_shrN (Ht rfl) (cV 32) (by decide)) (show (0 + 0 : Nat) / 2 ^ 32 = 0 by decide)) (ra rfl (eZ (ts (rm rfl (rm rfl (rm rfl ?_))))))))))))))))
 refine ro rfl (OpTy.nat (op_mulN (Ht rfl) (Ht rfl) (by show _ < 18446744073709551616; first | omega | (simp only [lim]; omega))) (show (1 * 0 : Nat) = 0 by decide)) (ro rfl (dW (Ht rfl) (Ht rfl) (by show _ < 18446744073709551616; first | omega | (simp only [lim]; omega))) (ra rfl (eZ (ts (rm rfl (rm rfl (ro rfl (OpTy.nat (op_mulN (Ht rfl) (Ht rfl) (by show _ < 18446744073709551616; first | omega | (simp only [lim]; omega))) (show (0 * 0 : Nat) = 0 by decide)) (rm rfl (ro rfl (dW (Ht rfl) (Ht rfl) (by show _ < 18446744073709551616; first | omega | (simp only [lim]; omega))) ?_)))))))))
 refine rm rfl (ro rfl (OpTy.nat (op_shrN (Ht rfl) (cV 32) (by decide)) (show (0 + 0 : Nat) / 2 ^ 32 = 0 by decide)) (ro rfl (dW (Ht rfl) (Ht rfl) (by show _ < 18446744073709551616; first | omega | (simp only [lim]; omega))) (ra rfl (eZ (ts (rm rfl (rm rfl (ro rfl (OpTy.nat (op_mulN (Ht rfl) (Ht rfl) (by show _ < 18446744073709551616; first | omega | (simp only [lim]; omega))) (Nat.one_mul n)) (ra rfl (eZ (T_ret2 rfl (fZ (eY rfl) ?_) (eY rfl))))))))))))
 exact (nt_of (by decide))
theorem c_bMul {n : Nat} (h : n < 4294967296) : Fun Tryz.prog 251 [NT .u64 1, NT .u64 n] (TupT [NT .u64 0, NT .u64 n]) := by
 refine Fun.intro Tryz.func251 rfl Tryz.ntmps251 rfl (fun cx => (ts (ro rfl (cX (cV 0)) (ro rfl (cX (cV 0)) (eZ (cU (dX cW (fun hf => ?_) (fun hf => ?_))))))))
 ·exact absurd hf (by decide)
 ·refine cY (ts (rm rfl (rm rfl (ro rfl (cJ Tryz.call276 (c_Mul64 h) ⟨(Ht rfl), (Ht rfl), trivial⟩) (rm rfl (ro rfl (dU (Ht rfl) rfl) (ro rfl (dU (Ht rfl) rfl) (ra rfl (ra rfl (eZ (ts (rm rfl (rm rfl (ra rfl (ra rfl (eZ ?_))))))))))))))))
  exact T_ret2 rfl (eY rfl) (eY rfl)
theorem c_RepO {m : Nat} (h1 : 1 ≤ m) (hm : m ≤ 1000) : FunO Tryz.prog 196 [NumsT [Qi.zero], NT .i64 m] [] ({v : Value // exactH v}) (fun v => Is v.1) (fun v => [rowO 45 5 v.1 ((tab m fun _ => Qi.zero).map NumT)]) (fun _ => True) := by
 refine FunO.intro Tryz.func196 rfl Tryz.ntmps196 rfl (fun cx Z => (ts (ro rfl (cX cW) (eZ (cU (ts (rm rfl (ro rfl (gZ (Ht rfl) (cV 0)) (eZ (dX (Ht rfl) (fun h0 => ?_) (fun h0 => ?_)))))))))))
 ·simp only [decide_eq_true_eq] at h0
  omega
 ·refine cY (ts (rm rfl (ro rfl (dK U_27 (Ht rfl) (show (([Qi.zero].map NumT).length : Int) = ((1 : Nat) : Int) from rfl)) (ro rfl (gJ U_3 U_257 (Ht rfl) (by show _ < 18446744073709551616; first | omega | (simp only [lim]; omega))) (rm rfl (ro rfl (gJ U_3 U_257 (Ht rfl) (by show _ < 18446744073709551616; first | omega | (simp only [lim]; omega))) (ro rfl (cJ Tryz.call251 (c_bMul (by omega)) ⟨(Ht rfl), (Ht rfl), trivial⟩) (rm rfl (ro rfl (dU (Ht rfl) rfl) (ro rfl (dU (Ht rfl) rfl) ?_))))))))))
  refine ra rfl (ra rfl (eZ (cU (ts (rm rfl (ro rfl (op_gtrN (Ht rfl) (cV 0)) (rm rfl (fX rfl rfl (eU rfl rfl (Ht rfl) (fun h => cZ (Ht rfl))) (fX rfl rfl (eU rfl rfl (Ht rfl) (fun h => op_gtrN (fV rfl h) (cV 9223372036854775807))) (ro rfl (op_or (Ht rfl) (fun h => (fV rfl h))) (eZ (dX (Ht rfl) (fun h2 => ?_) (fun h2 => ?_)))))))))))))
  ·simp only [Bool.or_eq_true, decide_eq_true_eq] at h2
   omega
  ·refine cY (ts (rm rfl (ro rfl (gJ U_257 U_3 (Ht rfl) (by show _ < 9223372036854775808; first | omega | (simp only [lim]; omega))) (R_makeE (T := NumT Qi.zero) (i := Tryz.t45) und_27 info_45 rfl rfl (Ht rfl) rfl num_zero_p (El.ag rfl) (by show 88 * _ ≤ _; omega) (by omega) rfl (fun B30 hB30 => (ra rfl (eZ (ts (rm rfl (rm rfl (ro rfl (op_copyV (q := 1) (T := NumT Qi.zero) U_27 Z_45 (i := 1) rfl (Ht rfl) (Ht rfl) (by decide) (El.ag rfl) (by omega)) (ra rfl (eZ (cU (eK ?_)))))))))))))))
   refine T_loop (fun (k : Nat) => 1 ≤ k ∧ k ≤ m) (fun (k : Nat) => m - k) (fun (k : Nat) => [(7, Is B30), (8, NT .i64 k)]) (fun (k : Nat) => [Z, rowO 45 5 B30 (List.replicate m (NumT Qi.zero))]) (Nat.min 1 m) ⟨by show 1 ≤ min 1 m; omega, by show min 1 m ≤ m; omega⟩
    (aQ rfl (aQ rfl aX)) (HSub.refl _) (fun k ⟨hk1, hk⟩ => ?_)
   refine cU (ts (rm rfl (rm rfl (ro rfl (op_lenO U_27 (Ht rfl) (i := 1) rfl (show ((List.replicate m (NumT Qi.zero)).length : Int) = ((m : Nat) : Int) by simp)) (ro rfl (gZ (Ht rfl) (Ht rfl)) (eZ (dX (Ht rfl) (fun hd => ?_) (fun hd => ?_))))))))
   ·simp only [decide_eq_true_eq] at hd
    have hlen : (List.replicate m (NumT Qi.zero)).length = m := by simp
    have h5 : Nat.min k ((List.replicate m (NumT Qi.zero)).length - k) = min k (m - k) := by rw [hlen]
    refine cY (eK (fJ (m := 8) (dp 8 rfl (cZ (Ht rfl)) (dp 7 rfl (cZ (Ht rfl)) (dp 8 rfl (cZ (Ht rfl)) (dqq 39 1 40 2 rfl (op_secLo U_27 Z_45 (Ht rfl) (Ht rfl) rfl (i := 1) rfl (by rw [hlen]; exact hd)) ?_))))))
    refine dp 7 rfl (cZ (Ht rfl)) (dp 8 rfl (cZ (Ht rfl)) (dqq 42 4 43 5 rfl (op_secHi U_27 Z_45 (Ht rfl) (Ht rfl) rfl (i := 1) rfl (by rw [hlen]; omega) (by rw [hlen]; omega)) ?_))
    refine dqq 41 3 44 6 rfl (op_copySec (T := NumT Qi.zero) U_27 Z_45 (i := 1) rfl (Ht rfl) (Ht rfl)) (fW mixed rfl (by kernel_rfl) (aJ (aJ (aJ (aJ (aJ (aJ (aJ (aJ (aV (ro rfl (dW (Ht rfl) (Ht rfl) (by show _ < 9223372036854775808; omega)) (ra rfl (eZ (T_blk (fY (k + Nat.min k ((List.replicate m (NumT Qi.zero)).length - k)) ⟨by omega, by omega⟩ (by omega) (aQ rfl (aQ rfl aX)) (HSub.refl _))))))))))))))))
   ·refine gW rfl (ts (rm rfl (ra rfl (eZ ?_))))
    exact T_retO ⟨B30, hB30⟩ trivial [0, 1] ⟨⟨_, rfl, fun _ _ _ h => h⟩, ⟨_, rfl, (rowO_of (by rw [tab_const, rep_mapF]))⟩, trivial⟩ (by decide) (rvs1 rfl (eY rfl))
end
section
open Go Go.RowKit
theorem bld_91_ {n : Nat} {E : Env} {H : Hp} {d : Option Tmp} {t : TypeId} {pos : String} {af : Array Edge} {g : Option (Nat × Bool)}  :
  OpTy Tryz.prog n E H ⟨d, .build 91 #[], t, pos, af, g⟩ (AggT [Is (.int .i64 0), Is (.int .i64 0), Is (.int .i64 0)]) :=
 op_build (parts := []) fun a V w hs => by
  refine ⟨.agg #[(.int .i64 0), (.int .i64 0), (.int .i64 0)], ?_, [(.int .i64 0), (.int .i64 0), (.int .i64 0)], rfl, aW (⟨rfl, trivial⟩) (aW (⟨rfl, trivial⟩) (aW (⟨rfl, trivial⟩) (aG)))⟩
  simp [Instr.build, Instr.fill, Sem.run_bind, Result.andThen, cells_agg, O_91, U_91, Z_2]
theorem bld_91_0 {n : Nat} {E : Env} {H : Hp} {d : Option Tmp} {t : TypeId} {pos : String} {af : Array Edge} {g : Option (Nat × Bool)} {x0 : Operand} {T0 : Ty} [s0 : Shape T0 1 false] (h0 : Has E x0 T0) :
  OpTy Tryz.prog n E H ⟨d, .build 91 #[(0, x0)], t, pos, af, g⟩ (AggT [T0, Is (.int .i64 0), Is (.int .i64 0)]) :=
 op_build (parts := [(0, x0)]) fun a V w hs => by
  have p0 := h0 n V a hs
  generalize e0 : a.eval x0 = v0 at p0
  have q0 := (s0.ok v0 V p0).2.2 rfl
  refine ⟨.agg #[v0, (.int .i64 0), (.int .i64 0)], ?_, [v0, (.int .i64 0), (.int .i64 0)], rfl, aW (⟨p0, q0⟩) (aW (⟨rfl, trivial⟩) (aW (⟨rfl, trivial⟩) (aG)))⟩
  simp [e0, Instr.build, Instr.fill, Sem.run_bind, Result.andThen, cells_agg, q0.cells, O_91, U_91, Z_2]
theorem bld_91_0_2 {n : Nat} {E : Env} {H : Hp} {d : Option Tmp} {t : TypeId} {pos : String} {af : Array Edge} {g : Option (Nat × Bool)} {x0 x2 : Operand} {T0 T2 : Ty} [s0 : Shape T0 1 false] (h0 : Has E x0 T0) [s2 : Shape T2 1 false] (h2 : Has E x2 T2) :
  OpTy Tryz.prog n E H ⟨d, .build 91 #[(0, x0), (2, x2)], t, pos, af, g⟩ (AggT [T0, Is (.int .i64 0), T2]) :=
 op_build (parts := [(0, x0), (2, x2)]) fun a V w hs => by
  have p0 := h0 n V a hs
  generalize e0 : a.eval x0 = v0 at p0
  have q0 := (s0.ok v0 V p0).2.2 rfl
  have p2 := h2 n V a hs
  generalize e2 : a.eval x2 = v2 at p2
  have q2 := (s2.ok v2 V p2).2.2 rfl
  refine ⟨.agg #[v0, (.int .i64 0), v2], ?_, [v0, (.int .i64 0), v2], rfl, aW (⟨p0, q0⟩) (aW (⟨rfl, trivial⟩) (aW (⟨p2, q2⟩) (aG)))⟩
  simp [e0, e2, Instr.build, Instr.fill, Sem.run_bind, Result.andThen, cells_agg, q0.cells, q2.cells, O_91, U_91, Z_2]
end
section
open Go Go.RowKit
theorem is_ref {z : List Qi} {i : Nat} (h : i < z.length) : ∀ v V, (TupT [NumT (pkv z ((i + 1 : Nat) : Int)), IntT .i64 (if 1 ≤ ((i + 1 : Nat) : Int) ∧ ((i + 1 : Nat) : Int) ≤ z.length then 0 else 1)]).p v V → (TupT [NumT (gv z i), IntT .i64 0]).p v V := by
 rw [show pkv z ((i + 1 : Nat) : Int) = gv z i from pkv_at h, if_pos (by omega)]; exact fun _ _ h => h
theorem is_at {n : Nat} {s : List (List Qi)} {i j : Nat} (h : i < n) (k : j < n) : ∀ v V, (TupT [NumT (pkm n s ((i + 1 : Nat) : Int) ((j + 1 : Nat) : Int)), IntT .i64 (if (1 ≤ ((i + 1 : Nat) : Int) ∧ ((i + 1 : Nat) : Int) ≤ n) ∧ 1 ≤ ((j + 1 : Nat) : Int) ∧ ((j + 1 : Nat) : Int) ≤ n then 0 else 1)]).p v V → (TupT [NumT (gm s i j), IntT .i64 0]).p v V := by
 rw [show pkm n s ((i + 1 : Nat) : Int) ((j + 1 : Nat) : Int) = gm s i j from pkm_at h k, if_pos (by omega)]; exact fun _ _ h => h
end
section
open Go Go.RowKit
theorem Qi.zero_div (y : Qi) : Qi.zero / y = Qi.zero := by rw [Qi.div_def, Qi.zero_mul']
end
section
open Go Go.RowKit
theorem getD_at {α : Type} {l : List α} {d : α} {k : Nat} (h : k < l.length) : l.getD k d = l[k] := by simp [List.getD, h]
theorem eq_gv {l m : List Qi} (h : l.length = m.length) (k : ∀ i, i < l.length → gv l i = gv m i) : l = m := by
 apply List.ext_getElem h
 intro i h1 h2
 have := k i h1
 simpa [gv, List.getD, h1, h2] using this
theorem eq_rows {l m : List (List Qi)} (h : l.length = m.length) (k : ∀ i, i < l.length → l.getD i [] = m.getD i []) : l = m := by
 apply List.ext_getElem h
 intro i h1 h2
 have := k i h1
 simpa [List.getD, h1, h2] using this
theorem ne_gv {l m : List Qi} {i : Nat} (h : gv l i ≠ gv m i) : l ≠ m := fun e => h (by rw [e])
theorem ne_rows {l m : List (List Qi)} {i : Nat} (h : l.getD i [] ≠ m.getD i []) : l ≠ m := fun e => h (by rw [e])
def netEq (z z' : List Qi) (s s' : List (List Qi)) : Bool := decide (z = z') && decide (s = s')
theorem netEq_refl (z : List Qi) (s : List (List Qi)) : netEq z z s s = true := by simp [netEq]
end
section
open Go Go.RowKit
theorem meth_45_Same (v : Value) (w : World) : (method (Tryz.prog.types.size + Made.depth) 45 v "Same").run Tryz.prog w = .ok (109, v) w := by kernel_rfl
end
section
open Go Go.RowKit
theorem c_EqNum {l m : List Qi} {L : Nat} (hl : FitL l L) (hm : FitL m L) (hL : 1 ≤ L) (h1 : l.length ≤ 1000) (h2 : m.length ≤ 1000) : Fun Tryz.prog 125 [NumsT l, NumsT m, ClT Tryz.prog {x : Qi × Qi // FitC x.1 L ∧ FitC x.2 L} (fun x => [NumT x.1.1, NumT x.1.2]) (fun x => BoolT (decide (x.1.1 = x.1.2)))] (BoolT (decide (l = m))) := by
 refine Fun.intro Tryz.func125 rfl Tryz.ntmps125 rfl (fun cx => (ts (ro rfl (cX cW) (eZ (cU (ts (rm rfl (ro rfl (dK U_27 (Ht rfl) len_map) (rm rfl (ro rfl (dK U_27 (Ht rfl) len_map) (ro rfl (op_neqN (Ht rfl) (Ht rfl)) (eZ (dX (Ht rfl) (fun hb => ?_) (fun hb => ?_))))))))))))))
 ·have hn : ¬ l = m := fun e => by rw [e] at hb; simp at hb
  refine ts (ro rfl (cX cW) (eZ (fG rfl (fZ (eY rfl) ?_))))
  exact (bool_of (decide_eq_false hn).symm)
 ·have he : l.length = m.length := by simpa using hb
  refine cY (cU (ts (rm rfl (ro rfl (dK U_27 (Ht rfl) len_map) (ro rfl (cZ (cV 0)) (eZ (eK ?_)))))))
  refine T_loop (fun (k : Nat) => k ≤ l.length ∧ ∀ i, i < k → gv l i = gv m i) (fun (k : Nat) => l.length - k) (fun (k : Nat) => [(0, NumsT l), (1, NumsT m), (2, ClT Tryz.prog {x : Qi × Qi // FitC x.1 L ∧ FitC x.2 L} (fun x => [NumT x.1.1, NumT x.1.2]) (fun x => BoolT (decide (x.1.1 = x.1.2)))), (15, NumsT l), (16, NT .i64 l.length), (17, NT .i64 k)]) (fun (k : Nat) => []) 0 ⟨Nat.zero_le _, fun i h => by omega⟩
   (aQ rfl (aQ rfl (aQ rfl (aQ rfl (aQ rfl (aQ rfl aX)))))) aY (fun k ⟨hk, hr⟩ => ?_)
  refine ts (ro rfl (gZ (Ht rfl) (Ht rfl)) (eZ (cU (dX (Ht rfl) (fun hc => ?_) (fun hc => ?_)))))
  ·simp only [decide_eq_true_eq] at hc
   refine cY (cU (eK (ts (rm rfl (ro rfl (dJ U_27 Z_45 (Ht rfl) (Ht rfl) rfl (eQ (dY (d := Qi.zero) (by omega)))) (ro rfl (dV A_45 Z_45 (Ht rfl)) (rn rfl (eG (Ts := [Is (.bool false), Is (.slice none 0 0), Is (.bool false), Is (.slice none 0 0), Is (.slice none 0 0)]) O_45 rfl (fun V => aW ⟨rfl, trivial⟩ (aW ⟨rfl, trivial⟩ (aW ⟨rfl, trivial⟩ (aW ⟨rfl, trivial⟩ (aW ⟨rfl, trivial⟩ (aG))))))) fun B8 => (ra rfl (gX Z_45 (Ht rfl) (Ht rfl) rfl (i := 0) rfl (aK rfl) rfl rfl ?_)))))))))
   refine eZ (ts (rm rfl (rm rfl (ro rfl (dJ U_27 Z_45 (Ht rfl) (Ht rfl) rfl (eQ (dY (d := Qi.zero) (by omega)))) (ro rfl (dV A_45 Z_45 (Ht rfl)) (rn rfl (eG (Ts := [Is (.bool false), Is (.slice none 0 0), Is (.bool false), Is (.slice none 0 0), Is (.slice none 0 0)]) O_45 rfl (fun V => aW ⟨rfl, trivial⟩ (aW ⟨rfl, trivial⟩ (aW ⟨rfl, trivial⟩ (aW ⟨rfl, trivial⟩ (aW ⟨rfl, trivial⟩ (aG))))))) fun B9 => (gX Z_45 (Ht rfl) (Ht rfl) rfl (i := 1) rfl (aK rfl) rfl rfl ?_)))))))
   refine eZ (ts (rm rfl (ro rfl (eW A_45 Z_45 (Ht rfl) (i := 0) rfl rfl rfl) (ro rfl (eW A_45 Z_45 (Ht rfl) (i := 1) rfl rfl rfl) (ro rfl (op_callV (⟨(gv l k, gv m k), hl.get hL k, hm.get hL k⟩ : {x : Qi × Qi // FitC x.1 L ∧ FitC x.2 L}) (Ht rfl) ⟨(Ht rfl), (Ht rfl), trivial⟩) (ro rfl (op_not (Ht rfl)) (eZ (dX (Ht rfl) (fun hd => ?_) (fun hd => ?_)))))))))
   ·have hn : ¬ l = m := ne_gv (i := k) (by simpa using hd)
    refine ts (ro rfl (cX cW) (eZ (fG rfl (fZ (eY rfl) ?_))))
    exact (bool_of (decide_eq_false hn).symm)
   ·have hq : gv l k = gv m k := by simpa using hd
    refine cY (T_blk (dQ (ro rfl (dW (Ht rfl) (cV 1) (by show _ < 9223372036854775808; first | omega | (simp only [lim]; omega))) (rm rfl (eZ (T_keep [] rfl (by decide) ?_))))))
    refine fY (k + 1) ⟨hc, fun i h => by
     by_cases e : i = k
     ·rw [e]; exact hq
     ·exact hr i (by omega)⟩ (by omega) (aQ rfl (aQ rfl (aQ rfl (aQ rfl (aQ rfl (aQ rfl aX)))))) aY
  ·simp only [decide_eq_false_iff_not] at hc
   refine gW rfl (ts (ro rfl (cX cW) (eZ (fG rfl (fZ (eY rfl) ?_)))))
   exact (bool_of (decide_eq_true (eq_gv he (fun i h => hr i (by omega)))).symm)
theorem c_EqRow {l m : List (List Qi)} {L : Nat} (hl : FitM l L) (hm : FitM m L) (h3 : ∀ r, r ∈ l → r.length ≤ 1000) (h4 : ∀ r, r ∈ m → r.length ≤ 1000) (h1 : l.length ≤ 1000) (h2 : m.length ≤ 1000) : Fun Tryz.prog 126 [NumM l, NumM m, ClT Tryz.prog {x : List Qi × List Qi // (FitL x.1 L ∧ x.1.length ≤ 1000) ∧ FitL x.2 L ∧ x.2.length ≤ 1000} (fun x => [NumsT x.1.1, NumsT x.1.2]) (fun x => BoolT (decide (x.1.1 = x.1.2)))] (BoolT (decide (l = m))) := by
 refine Fun.intro Tryz.func126 rfl Tryz.ntmps126 rfl (fun cx => (ts (ro rfl (cX cW) (eZ (cU (ts (rm rfl (ro rfl (dK U_28 (Ht rfl) len_map) (rm rfl (ro rfl (dK U_28 (Ht rfl) len_map) (ro rfl (op_neqN (Ht rfl) (Ht rfl)) (eZ (dX (Ht rfl) (fun hb => ?_) (fun hb => ?_))))))))))))))
 ·have hn : ¬ l = m := fun e => by rw [e] at hb; simp at hb
  refine ts (ro rfl (cX cW) (eZ (fG rfl (fZ (eY rfl) ?_))))
  exact (bool_of (decide_eq_false hn).symm)
 ·have he : l.length = m.length := by simpa using hb
  refine cY (cU (ts (rm rfl (ro rfl (dK U_28 (Ht rfl) len_map) (ro rfl (cZ (cV 0)) (eZ (eK ?_)))))))
  refine T_loop (fun (k : Nat) => k ≤ l.length ∧ ∀ i, i < k → l.getD i [] = m.getD i []) (fun (k : Nat) => l.length - k) (fun (k : Nat) => [(0, NumM l), (1, NumM m), (2, ClT Tryz.prog {x : List Qi × List Qi // (FitL x.1 L ∧ x.1.length ≤ 1000) ∧ FitL x.2 L ∧ x.2.length ≤ 1000} (fun x => [NumsT x.1.1, NumsT x.1.2]) (fun x => BoolT (decide (x.1.1 = x.1.2)))), (15, NumM l), (16, NT .i64 l.length), (17, NT .i64 k)]) (fun (k : Nat) => []) 0 ⟨Nat.zero_le _, fun i h => by omega⟩
   (aQ rfl (aQ rfl (aQ rfl (aQ rfl (aQ rfl (aQ rfl aX)))))) aY (fun k ⟨hk, hr⟩ => ?_)
  refine ts (ro rfl (gZ (Ht rfl) (Ht rfl)) (eZ (cU (dX (Ht rfl) (fun hc => ?_) (fun hc => ?_)))))
  ·simp only [decide_eq_true_eq] at hc
   refine cY (cU (eK (ts (rm rfl (ro rfl (dJ U_28 Z_27 (Ht rfl) (Ht rfl) rfl (eQ (dY (d := []) hc))) (ro rfl (dV A_27 Z_27 (Ht rfl)) (ra rfl (ra rfl (eZ (ts (rm rfl (rm rfl (ro rfl (dJ U_28 Z_27 (Ht rfl) (Ht rfl) rfl (eQ (dY (d := []) (by omega)))) (ro rfl (dV A_27 Z_27 (Ht rfl)) (ra rfl (eZ (ts (rm rfl (rm rfl (rm rfl (ro rfl (op_callV (⟨(l.getD k [], m.getD k []), ⟨hl.row k, by rw [getD_at hc]; exact h3 _ (List.getElem_mem hc)⟩, hm.row k, by rw [getD_at (by omega : k < m.length)]; exact h4 _ (List.getElem_mem _)⟩ : {x : List Qi × List Qi // (FitL x.1 L ∧ x.1.length ≤ 1000) ∧ FitL x.2 L ∧ x.2.length ≤ 1000}) (Ht rfl) ⟨(Ht rfl), (Ht rfl), trivial⟩) ?_)))))))))))))))))))))
   refine ro rfl (op_not (Ht rfl)) (eZ (dX (Ht rfl) (fun hd => ?_) (fun hd => ?_)))
   ·have hn : ¬ l = m := ne_rows (i := k) (by simpa using hd)
    refine ts (ro rfl (cX cW) (eZ (fG rfl (fZ (eY rfl) ?_))))
    exact (bool_of (decide_eq_false hn).symm)
   ·have hq : l.getD k [] = m.getD k [] := by simpa using hd
    refine cY (T_blk (dQ (ro rfl (dW (Ht rfl) (cV 1) (by show _ < 9223372036854775808; first | omega | (simp only [lim]; omega))) (rm rfl (eZ ?_)))))
    refine fY (k + 1) ⟨hc, fun i h => by
     by_cases e : i = k
     ·rw [e]; exact hq
     ·exact hr i (by omega)⟩ (by omega) (aQ rfl (aQ rfl (aQ rfl (aQ rfl (aQ rfl (aQ rfl aX)))))) aY
  ·simp only [decide_eq_false_iff_not] at hc
   refine gW rfl (ts (ro rfl (cX cW) (eZ (fG rfl (fZ (eY rfl) ?_)))))
   exact (bool_of (decide_eq_true (eq_rows he (fun i h => hr i (by omega)))).symm)
theorem c_netEq1 {x y : Qi} {L : Nat} [hx : FitC x L] [hy : FitC y L] (h : L ≤ 8796093022208) : Fun Tryz.prog 123 [NumT x, NumT y] (BoolT (decide (x = y))) := by
 refine Fun.intro Tryz.func123 rfl Tryz.ntmps123 rfl (fun cx => (ts (rn rfl (fK (Ht rfl)) fun B2 => (rn rfl (fK (Ht rfl)) fun B3 => (ro rfl (cX cW) (eZ (ts (ro rfl (eW A_45 Z_45 (Ht rfl) (i := 0) rfl rfl rfl) (ro rfl (op_iface mkif_45 (Ht rfl)) (ro rfl (eW A_45 Z_45 (Ht rfl) (i := 1) rfl rfl rfl) (ro rfl (op_invoke meth_45_Same Tryz.call109 (c_Same (by omega) (by omega)) (Ht rfl) ⟨(Ht rfl), trivial⟩) (ra rfl (eZ ?_)))))))))))))
 exact fG rfl (eY rfl)
theorem c_netEq2 {l m : List Qi} {L : Nat} (hl : FitL l L) (hm : FitL m L) (hL : 1 ≤ L) (h1 : l.length ≤ 1000) (h2 : m.length ≤ 1000) : Fun Tryz.prog 124 [NumsT l, NumsT m, PT (ClT Tryz.prog {x : Qi × Qi // FitC x.1 L ∧ FitC x.2 L} (fun x => [NumT x.1.1, NumT x.1.2]) (fun x => BoolT (decide (x.1.1 = x.1.2))))] (BoolT (decide (l = m))) := by
 refine Fun.intro Tryz.func124 rfl Tryz.ntmps124 rfl (fun cx => (ts (ro rfl (cX cW) (eZ (ts (rm rfl (rm rfl (ro rfl (dV Tryz.isAgg157 Tryz.sizeOf157 (Ht rfl)) (ro rfl (cJ Tryz.call125 (c_EqNum hl hm hL h1 h2) ⟨(Ht rfl), (Ht rfl), (Ht rfl), trivial⟩) (ra rfl (eZ ?_)))))))))))
 exact fG rfl (eY rfl)
theorem c_netEqual {z z' : List Qi} {s s' : List (List Qi)} {L : Nat} (hz : FitL z L) (hz2 : FitL z' L) (hs : FitM s L) (hs2 : FitM s' L) (hL : 1 ≤ L) (h : L ≤ 8796093022208) (hsh : Shp s z.length z.length) (hsh2 : Shp s' z'.length z'.length) (hl : z.length ≤ 1000) (hl2 : z'.length ≤ 1000) : Fun Tryz.prog 36 [NetT z s, NetT z' s'] (BoolT (netEq z z' s s')) := by
 have e1 : ∀ r, r ∈ s → r.length ≤ 1000 := fun r hr => by rw [hsh.2 r hr]; exact hl
 have e2 : ∀ r, r ∈ s' → r.length ≤ 1000 := fun r hr => by rw [hsh2.2 r hr]; exact hl2
 have e3 : s.length ≤ 1000 := by rw [hsh.1]; exact hl
 have e4 : s'.length ≤ 1000 := by rw [hsh2.1]; exact hl2
 refine Fun.intro Tryz.func36 rfl Tryz.ntmps36 rfl (fun cx => (ts (rn rfl (fK (Ht rfl)) fun B2 => (rn rfl (fK (Ht rfl)) fun B3 => (ro rfl (cX cW) (eZ (ts (rn rfl (eG (Ts := [Is (.nilFunc)]) Tryz.zeroValue157 rfl (fun V => aW ⟨rfl, trivial⟩ (aG))) fun B5 => (R_st Tryz.sizeOf157 (Ht rfl) (Has.fn Tryz.call123 (γ := {x : Qi × Qi // FitC x.1 L ∧ FitC x.2 L}) (Ts := fun x => [NumT x.1.1, NumT x.1.2]) (U := fun x => BoolT (decide (x.1.1 = x.1.2))) (fun x => haveI := x.2.1; haveI := x.2.2; c_netEq1 (L := L) h)) (i := 2) rfl (aK rfl) rfl ?_)))))))))
 refine eZ (cU (gV (i := 2) (tt := 5) rfl rfl frz_ptr1 (dQ (ro rfl (op_clos (γ := {x : List Qi × List Qi // (FitL x.1 L ∧ x.1.length ≤ 1000) ∧ FitL x.2 L ∧ x.2.length ≤ 1000}) (Ts := fun x => [NumsT x.1.1, NumsT x.1.2]) (U := fun x => BoolT (decide (x.1.1 = x.1.2))) Tryz.call124 (fun x => c_netEq2 x.2.1.1 x.2.2.1 hL x.2.1.2 x.2.2.2) ⟨(Ht rfl), trivial⟩) (ra rfl (eZ (ts (ro rfl (eJ fa_30_0 (Ht rfl) rfl) (ro rfl (fQ A_27 Z_27 (Ht rfl) (i := 0) rfl rfl) (ro rfl (eJ fa_30_0 (Ht rfl) rfl) (ro rfl (fQ A_27 Z_27 (Ht rfl) (i := 1) rfl rfl) ?_)))))))))))
 refine ro rfl (cJ Tryz.call125 (c_EqNum hz hz2 hL hl hl2) ⟨(Ht rfl), (Ht rfl), (Has.fn Tryz.call109 (γ := {x : Qi × Qi // FitC x.1 L ∧ FitC x.2 L}) (Ts := fun x => [NumT x.1.1, NumT x.1.2]) (U := fun x => BoolT (decide (x.1.1 = x.1.2))) (fun x => haveI := x.2.1; haveI := x.2.2; c_Same (L := L) (M := L) (by omega) (by omega))), trivial⟩) (rm rfl (fX rfl rfl (eU rfl rfl (Ht rfl) (fun h => eJ fa_30_1 (Ht rfl) rfl)) (fX rfl rfl (eU rfl rfl (Ht rfl) (fun h => fQ A_28 Z_28 (fV rfl h) (i := 0) rfl rfl)) (fX rfl rfl (eU rfl rfl (Ht rfl) (fun h => eJ fa_30_1 (Ht rfl) rfl)) ?_))))
 refine fX rfl rfl (eU rfl rfl (Ht rfl) (fun h => fQ A_28 Z_28 (fV rfl h) (i := 1) rfl rfl)) (fX rfl rfl (eU rfl rfl (Ht rfl) (fun h => cZ (Ht rfl))) (fX rfl rfl (eU rfl rfl (Ht rfl) (fun h => cJ Tryz.call126 (c_EqRow hs hs2 e1 e2 e3 e4) ⟨(fV rfl h), (fV rfl h), (fV rfl h), trivial⟩)) (ro rfl (op_and (Ht rfl) (fun h => (fV rfl h))) (ra rfl (eZ (fG rfl (fZ (eY rfl) ?_)))))))
 exact (bool_of rfl)
end
section
open Go Go.RowKit
namespace Qi
theorem a_nonneg {x : Qi} : 0 ≤ x.a ↔ 0 ≤ x.re := by
 have hk : 0 < x.den / x.re.den := Nat.div_pos (Nat.le_of_dvd x.den_pos (Nat.dvd_lcm_left _ _)) x.re.den_pos
 rw [← Rat.num_nonneg]
 show 0 ≤ x.re.num * ((x.den / x.re.den : Nat) : Int) ↔ _
 generalize x.den / x.re.den = k at hk
 constructor
 ·intro h
  exact Int.nonneg_of_mul_nonneg_left h (by omega)
 ·intro h; exact Int.mul_nonneg h (by omega)
theorem a_pos {x : Qi} : 0 < x.a ↔ 0 < x.re := by
 have h1 := @a_nonneg x; have h2 := @a_zero x
 constructor
 ·intro h
  have h3 : 0 ≤ x.re := h1.1 (by omega)
  have h4 : x.re ≠ 0 := fun e => by have := h2.2 e; omega
  exact Rat.lt_of_le_of_ne h3 (Ne.symm h4)
 ·intro h
  have h3 : 0 ≤ x.a := h1.2 (by grind)
  have h4 : x.a ≠ 0 := fun e => by have := h2.1 e; grind
  omega
end Qi
def firstE (f : Nat → Int) : Nat → Int
 | 0 => 0
 | n + 1 => if firstE f n ≠ 0 then firstE f n else f n
theorem firstE_at {f : Nat → Int} {k : Nat} (h : ∀ i, i < k → f i = 0) (hk : f k ≠ 0) : ∀ {n : Nat}, k < n → firstE f n = f k := by
 have hz : firstE f k = 0 := by
  clear hk
  induction k with
  | zero => rfl
  | succ k ih => rw [firstE, ih (fun i hi => h i (by omega)), if_neg (by simp), h k (by omega)]
 intro n
 induction n with
 | zero => intro h; omega
 | succ n ih =>
  intro hn
  by_cases e : n = k
  ·rw [e, firstE, hz, if_neg (by simp)]
  ·rw [firstE, ih (by omega), if_pos hk]
theorem firstE_none {f : Nat → Int} : ∀ {n : Nat}, (∀ i, i < n → f i = 0) → firstE f n = 0
 | 0, _ => rfl
 | n + 1, h => by rw [firstE, firstE_none (fun i hi => h i (by omega)), if_neg (by simp), h n (by omega)]
theorem firstE_zero {f : Nat → Int} : ∀ {n : Nat}, firstE f n = 0 → ∀ i, i < n → f i = 0
 | 0, _, i, hi => by omega
 | n + 1, h, i, hi => by
  rw [firstE] at h
  split at h
  ·rename_i c; exact absurd h c
  ·rename_i c
   by_cases e : i = n
   ·rw [e]; exact h
   ·exact firstE_zero (Decidable.not_not.1 c) i (by omega)
abbrev eF (l : List (Qi × Qi)) (i : Nat) : Qi := (l.getD i (Qi.zero, Qi.zero)).1
abbrev eV (l : List (Qi × Qi)) (i : Nat) : Qi := (l.getD i (Qi.zero, Qi.zero)).2
structure TabOk (l : List (Qi × Qi)) (f : Qi) : Prop where
 real : ∀ i, i < l.length → (eF l i).b = 0 ∧ (eV l i).b = 0
 up : ∀ i, 0 < i → i < l.length → (eF l (i - 1)).re < (eF l i).re
 fr : f.b = 0
theorem TabOk.mono {l : List (Qi × Qi)} {f : Qi} (h : TabOk l f) {i : Nat} : ∀ {j : Nat}, i < j → j < l.length → (eF l i).re < (eF l j).re
 | 0, h1, _ => by omega
 | j + 1, h1, h2 => by
  have h3 := h.up (j + 1) (by omega) h2
  rw [Nat.add_sub_cancel] at h3
  by_cases e : i = j
  ·rw [e]; exact h3
  ·have := h.mono (i := i) (j := j) (by omega) (by omega)
   grind
def FitE (l : List (Qi × Qi)) (L : Nat) : Prop := ∀ e, e ∈ l → FitC e.1 L ∧ FitC e.2 L
theorem FitE.get {l : List (Qi × Qi)} {L : Nat} (h : FitE l L) (hL : 1 ≤ L) (i : Nat) : FitC (eF l i) L ∧ FitC (eV l i) L := by
 by_cases hi : i < l.length
 ·have e : l.getD i (Qi.zero, Qi.zero) = l[i] := by simp [List.getD, hi]
  show FitC (l.getD i _).1 L ∧ FitC (l.getD i _).2 L
  rw [e]; exact h _ (List.getElem_mem hi)
 ·have e : l.getD i (Qi.zero, Qi.zero) = (Qi.zero, Qi.zero) := by simp [List.getD, List.getElem?_eq_none (Nat.le_of_not_lt hi)]
  show FitC (l.getD i _).1 L ∧ FitC (l.getD i _).2 L
  rw [e]; exact ⟨FitC.zero hL, FitC.zero hL⟩
end
section
open Go Go.RowKit
abbrev rw' (M : List (List Qi)) (i : Nat) : List Qi := M.getD i []
def pvF (M : List (List Qi)) (c n : Nat) : Nat → Nat
 | 0 => n
 | k + 1 => if gm M (n - (k + 1)) c = Qi.zero then pvF M c n k else n - (k + 1)
def pv (M : List (List Qi)) (c n : Nat) : Nat := pvF M c n (n - c)
theorem pvF_spec {M : List (List Qi)} {c n : Nat} : ∀ {k : Nat}, k ≤ n → (∀ r, n - k ≤ r → r < pvF M c n k → gm M r c = Qi.zero) ∧ n - k ≤ pvF M c n k ∧ pvF M c n k ≤ n ∧ (pvF M c n k < n → gm M (pvF M c n k) c ≠ Qi.zero)
 | 0, _ => ⟨fun r h1 h2 => by simp [pvF] at h2; omega, by simp [pvF], by simp [pvF], fun h => by simp [pvF] at h⟩
 | k + 1, hk => by
  obtain ⟨i1, i2, i3, i4⟩ := pvF_spec (M := M) (c := c) (n := n) (k := k) (by omega)
  unfold pvF
  by_cases e : gm M (n - (k + 1)) c = Qi.zero
  ·rw [if_pos e]
   refine ⟨fun r h1 h2 => ?_, by omega, i3, i4⟩
   by_cases e2 : r = n - (k + 1)
   ·rw [e2]; exact e
   ·exact i1 r (by omega) h2
  ·rw [if_neg e]
   exact ⟨fun r h1 h2 => by omega, Nat.le_refl _, by omega, fun _ => e⟩
theorem pv_spec {M : List (List Qi)} {c n : Nat} (hc : c ≤ n) : (∀ r, c ≤ r → r < pv M c n → gm M r c = Qi.zero) ∧ c ≤ pv M c n ∧ pv M c n ≤ n ∧ (pv M c n < n → gm M (pv M c n) c ≠ Qi.zero) := by
 have h := pvF_spec (M := M) (c := c) (n := n) (k := n - c) (by omega)
 rw [show n - (n - c) = c by omega] at h
 exact h
theorem pv_eq {M : List (List Qi)} {c n p : Nat} (hc : c ≤ p) (hp : p ≤ n) (h1 : ∀ r, c ≤ r → r < p → gm M r c = Qi.zero) (h2 : p < n → gm M p c ≠ Qi.zero) : pv M c n = p := by
 obtain ⟨i1, i2, i3, i4⟩ := pv_spec (M := M) (n := n) (show c ≤ n by omega)
 rcases Nat.lt_trichotomy (pv M c n) p with h | h | h
 ·exact absurd (h1 _ i2 h) (i4 (by omega))
 ·exact h
 ·exact absurd (i1 p hc h) (h2 (by omega))
def redR (rr rc : List Qi) (c k : Nat) : List Qi := tab rr.length fun j => if c < j ∧ j < k then gv rr j - gv rr c / gv rc c * gv rc j else gv rr j
def redM (M : List (List Qi)) (c r : Nat) : List (List Qi) := tab M.length fun i => if c < i ∧ i < r then redR (rw' M i) (rw' M c) c (rw' M i).length else rw' M i
def elimTo (M : List (List Qi)) : Nat → List (List Qi) × Nat × Int
 | 0 => (M, 0, -1)
 | c + 1 =>
  let s := elimTo M c
  if 0 ≤ s.2.2 then s else
  if pv s.1 c M.length = M.length then (s.1, s.2.1, (c : Int)) else
  (redM (if pv s.1 c M.length = c then s.1 else swp [] s.1 (pv s.1 c M.length) c) c M.length, s.2.1 + (if pv s.1 c M.length = c then 0 else 1), -1)
theorem elim_stop {M : List (List Qi)} {c : Nat} (h : 0 ≤ (elimTo M c).2.2) : ∀ {d : Nat}, c ≤ d → elimTo M d = elimTo M c
 | 0, hd => by rw [show c = 0 by omega]
 | d + 1, hd => by
  by_cases e : c = d + 1
  ·rw [e]
  ·have := elim_stop h (d := d) (by omega)
   simp only [elimTo, this]
   rw [if_pos h]
theorem redM_len (M : List (List Qi)) (c r : Nat) : (redM M c r).length = M.length := tab_len _ _
theorem redM_shp {M : List (List Qi)} {n m c r : Nat} (h : Shp M n m) : Shp (redM M c r) n m := by
 refine ⟨(redM_len _ _ _).trans h.1, fun x hx => ?_⟩
 obtain ⟨i, hi, rfl⟩ := tab_mem.1 hx
 have hr := h.row (i := i) (by rw [← h.1]; exact hi)
 show (if c < i ∧ i < r then redR (rw' M i) (rw' M c) c (rw' M i).length else rw' M i).length = m
 split
 ·rw [redR, tab_len]; exact hr
 ·exact hr
theorem swp_shp {M : List (List Qi)} {n m p c : Nat} (h : Shp M n m) (hp : p < n) (hc : c < n) : Shp (swp [] M p c) n m := by
 refine ⟨(swp_len _ _ _ _).trans h.1, fun x hx => ?_⟩
 unfold swp at hx
 rcases List.mem_or_eq_of_mem_set hx with h1 | h1
 ·rcases List.mem_or_eq_of_mem_set h1 with h2 | h2
  ·exact h.2 x h2
  ·rw [h2]; exact h.row hc
 ·rw [h1]; exact h.row hp
theorem elim_shp {M : List (List Qi)} {n m : Nat} (h : Shp M n m) : ∀ {c : Nat}, c ≤ n → Shp (elimTo M c).1 n m
 | 0, _ => h
 | c + 1, hc => by
  have ih := elim_shp h (c := c) (by omega)
  obtain ⟨_, _, i3, _⟩ := pv_spec (M := (elimTo M c).1) (c := c) (n := M.length) (by rw [h.1]; omega)
  simp only [elimTo]
  split
  ·exact ih
  ·split
   ·exact ih
   ·rename_i e
    apply redM_shp
    split
    ·exact ih
    ·exact swp_shp ih (by rw [← h.1]; omega) (by omega)
def grow (L : Nat) : Nat → Nat
 | 0 => L
 | c + 1 => 6 * grow L c + 4
theorem grow_mono (L : Nat) : ∀ {c d : Nat}, c ≤ d → grow L c ≤ grow L d
 | c, 0, h => by rw [show c = 0 by omega]; exact Nat.le_refl _
 | c, d + 1, h => by
  by_cases e : c = d + 1
  ·rw [e]; exact Nat.le_refl _
  ·have := grow_mono L (c := c) (d := d) (by omega)
   simp only [grow]; omega
theorem grow_le (L c : Nat) : L ≤ grow L c := grow_mono L (Nat.zero_le c)
theorem elt_fit {rr rc : List Qi} {L c j : Nat} (h1 : FitL rr L) (h2 : FitL rc L) (hL : 1 ≤ L) (hp : gv rc c ≠ Qi.zero) : FitC (gv rr j - gv rr c / gv rc c * gv rc j) (6 * L + 4) := by
 haveI f1 := h1.get hL j; haveI f2 := h1.get hL c; haveI f3 := h2.get hL c; haveI f4 := h2.get hL j
 haveI g : FitC (gv rr c / gv rc c) (L + 3 * L + 2) := ⟨f2.fit.div f3.fit hp⟩
 have : FitC (gv rr j - gv rr c / gv rc c * gv rc j) (L + (L + 3 * L + 2 + L + 1) + 1) := inferInstance
 exact this.le (by omega)
theorem redR_fit {rr rc : List Qi} {L c k : Nat} (h1 : FitL rr L) (h2 : FitL rc L) (hL : 1 ≤ L) (hp : gv rc c ≠ Qi.zero) : FitL (redR rr rc c k) (6 * L + 4) := FitL.tab fun j _ => by
 split
 ·exact elt_fit h1 h2 hL hp
 ·exact (h1.get hL j).le (by omega)
theorem redM_fit {M : List (List Qi)} {L c r : Nat} (h : FitM M L) (hL : 1 ≤ L) (hp : gm M c c ≠ Qi.zero) : FitM (redM M c r) (6 * L + 4) := fun x hx => by
 obtain ⟨i, hi, rfl⟩ := tab_mem.1 hx
 show FitL (if c < i ∧ i < r then redR (rw' M i) (rw' M c) c (rw' M i).length else rw' M i) _
 split
 ·exact redR_fit (h.row i) (h.row c) hL hp
 ·exact (h.row i).le (by omega)
theorem swp_fit {M : List (List Qi)} {L p c : Nat} (h : FitM M L) : FitM (swp [] M p c) L := fun x hx => by
 unfold swp at hx
 rcases List.mem_or_eq_of_mem_set hx with h1 | h1
 ·rcases List.mem_or_eq_of_mem_set h1 with h2 | h2
  ·exact h x h2
  ·rw [h2]; exact h.row c
 ·rw [h1]; exact h.row p
theorem swp_at {M : List (List Qi)} {p c : Nat} (hc : c < M.length) : rw' (swp [] M p c) c = rw' M p := by
 simp [rw', swp, List.getD, hc]
theorem elim_fit {M : List (List Qi)} {n m L : Nat} (hs : Shp M n m) (h : FitM M L) (hL : 1 ≤ L) : ∀ {c : Nat}, c ≤ n → FitM (elimTo M c).1 (grow L c)
 | 0, _ => h
 | c + 1, hc => by
  have ih := elim_fit hs h hL (c := c) (by omega)
  have hg : 1 ≤ grow L c := Nat.le_trans hL (grow_le L c)
  have sh := elim_shp hs (c := c) (by omega)
  obtain ⟨_, i2, i3, i4⟩ := pv_spec (M := (elimTo M c).1) (c := c) (n := M.length) (by rw [hs.1]; omega)
  simp only [elimTo, grow]
  split
  ·exact ih.le (by omega)
  ·split
   ·exact ih.le (by omega)
   ·rename_i e
    split
    ·rename_i e2
     refine redM_fit ih hg ?_
     have := i4 (by omega)
     rw [e2] at this; exact this
    ·refine redM_fit (swp_fit ih) hg ?_
     show gv (rw' (swp [] _ _ c) c) c ≠ _
     rw [swp_at (by rw [sh.1]; omega)]
     exact i4 (by omega)
theorem redR_start {rr rc : List Qi} {c : Nat} : rr = redR rr rc c (c + 1) := by
 unfold redR
 have : (tab rr.length fun j => if c < j ∧ j < c + 1 then gv rr j - gv rr c / gv rc c * gv rc j else gv rr j) = tab rr.length (gv rr) := tab_congr fun j _ => by rw [if_neg (by omega)]
 rw [this]; exact list_tab rfl
theorem redR_len (rr rc : List Qi) (c k : Nat) : (redR rr rc c k).length = rr.length := tab_len _ _
theorem redR_get {rr rc : List Qi} {c k : Nat} (hk : k < rr.length) (h : c < k) : gv (redR rr rc c k) k = gv rr k := by
 rw [redR, gv_tab hk, if_neg (by omega)]
theorem redR_next {rr rc : List Qi} {c k : Nat} (hk : k < rr.length) (h : c < k) : (redR rr rc c k).set k (gv (redR rr rc c k) k - gv rr c / gv rc c * gv rc k) = redR rr rc c (k + 1) := by
 rw [redR_get hk h]
 apply List.ext_getElem?
 intro j
 by_cases hj : j < rr.length
 ·by_cases e : j = k
  ·subst e
   rw [List.getElem?_set_self (by rw [redR_len]; exact hj), redR, tab_get hj, if_pos (by omega)]
  ·rw [List.getElem?_set_ne (Ne.symm e), redR, redR, tab_get hj, tab_get hj]
   by_cases e2 : c < j ∧ j < k
   ·rw [if_pos e2, if_pos (by omega)]
   ·rw [if_neg e2, if_neg (by omega)]
 ·rw [List.getElem?_eq_none (by rw [List.length_set, redR_len]; omega), List.getElem?_eq_none (by rw [redR_len]; omega)]
theorem redM_start {M : List (List Qi)} {c : Nat} : M = redM M c (c + 1) := by
 unfold redM
 have : (tab M.length fun i => if c < i ∧ i < c + 1 then redR (rw' M i) (rw' M c) c (rw' M i).length else rw' M i) = tab M.length (rw' M) := tab_congr fun i _ => by rw [if_neg (by omega)]
 rw [this]; exact tab_eq (h := rfl)
theorem redM_at {M : List (List Qi)} {c r i : Nat} (hi : i < M.length) (h : ¬ (c < i ∧ i < r)) : rw' (redM M c r) i = rw' M i := by
 simp only [rw', redM, List.getD]
 rw [tab_get hi, if_neg h]; rfl
theorem redM_next {M : List (List Qi)} {c r : Nat} (hr : r < M.length) (h : c < r) : (redM M c r).set r (redR (rw' M r) (rw' M c) c (rw' M r).length) = redM M c (r + 1) := by
 apply List.ext_getElem?
 intro j
 by_cases hj : j < M.length
 ·by_cases e : j = r
  ·subst e
   rw [List.getElem?_set_self (by rw [redM_len]; exact hj), redM, tab_get hj, if_pos (by omega)]
  ·rw [List.getElem?_set_ne (Ne.symm e), redM, redM, tab_get hj, tab_get hj]
   by_cases e2 : c < j ∧ j < r
   ·rw [if_pos e2, if_pos (by omega)]
   ·rw [if_neg e2, if_neg (by omega)]
 ·rw [List.getElem?_eq_none (by rw [List.length_set, redM_len]; omega), List.getElem?_eq_none (by rw [redM_len]; omega)]
theorem set_set' {M : List (List Qi)} {r : Nat} {x y : List Qi} : (M.set r x).set r y = M.set r y := List.set_set ..
theorem rw_set {M : List (List Qi)} {r : Nat} {x : List Qi} (h : r < M.length) : rw' (M.set r x) r = x := by simp [rw', List.getD, h]
theorem rw_set_ne {M : List (List Qi)} {r i : Nat} {x : List Qi} (h : r ≠ i) : rw' (M.set r x) i = rw' M i := by simp [rw', List.getD, List.getElem?_set_ne h]
theorem set_rw {M : List (List Qi)} {r : Nat} (h : r < M.length) : M.set r (rw' M r) = M := by
 apply List.ext_getElem?
 intro j
 by_cases e : j = r
 ·subst e; rw [List.getElem?_set_self h]; simp [rw', List.getD, h]
 ·rw [List.getElem?_set_ne (Ne.symm e)]
theorem step_elt {X : List (List Qi)} {r c k : Nat} (hr : r < X.length) (hne : r ≠ c) (hk : k < (rw' X r).length) (hck : c < k) :
  (X.set r (redR (rw' X r) (rw' X c) c k)).set r ((rw' (X.set r (redR (rw' X r) (rw' X c) c k)) r).set k (gm (X.set r (redR (rw' X r) (rw' X c) c k)) r k - gm X r c / gm X c c * gm (X.set r (redR (rw' X r) (rw' X c) c k)) c k)) = X.set r (redR (rw' X r) (rw' X c) c (k + 1)) := by
 rw [set_set', rw_set hr]
 have e1 : gm (X.set r (redR (rw' X r) (rw' X c) c k)) r k = gv (redR (rw' X r) (rw' X c) c k) k := by show gv (rw' (X.set r _) r) k = _; rw [rw_set hr]
 have e2 : gm (X.set r (redR (rw' X r) (rw' X c) c k)) c k = gv (rw' X c) k := by show gv (rw' (X.set r _) c) k = _; rw [rw_set_ne hne]
 rw [e1, e2]
 exact congrArg _ (redR_next hk hck)
theorem step_row {D : List (List Qi)} {r c : Nat} (hr : r < D.length) (hc : c < r) : (redM D c r).set r (redR (rw' (redM D c r) r) (rw' (redM D c r) c) c (rw' D r).length) = redM D c (r + 1) := by
 rw [redM_at hr (by omega), redM_at (by omega) (by omega)]
 exact redM_next hr hc
theorem elt_r {X : List (List Qi)} {r c k : Nat} (hr : r < X.length) (hk : k < (rw' X r).length) (hck : c < k) : gm (X.set r (redR (rw' X r) (rw' X c) c k)) r k = gv (rw' X r) k := by
 show gv (rw' (X.set r _) r) k = _; rw [rw_set hr, redR_get hk hck]
theorem elt_c {X : List (List Qi)} {r c k : Nat} {y : List Qi} (hne : r ≠ c) : gm (X.set r y) c k = gv (rw' X c) k := by show gv (rw' (X.set r _) c) k = _; rw [rw_set_ne hne]
theorem elim_next {M A : List (List Qi)} {n c sw p : Nat} (hl : M.length = n) (h : elimTo M c = (A, sw, -1)) (hp : pv A c n = p) (hpn : p < n) : elimTo M (c + 1) = (redM (if p = c then A else swp [] A p c) c n, sw + (if p = c then 0 else 1), -1) := by
 simp only [elimTo, h, hl, hp]
 rw [if_neg (by decide), if_neg (by omega)]
theorem elim_end {M A : List (List Qi)} {n c sw : Nat} (hl : M.length = n) (h : elimTo M c = (A, sw, -1)) (hp : pv A c n = n) (hc : c < n) : elimTo M n = (A, sw, (c : Int)) := by
 have e : elimTo M (c + 1) = (A, sw, (c : Int)) := by
  simp only [elimTo, h, hl, hp]
  rw [if_neg (by decide)]; simp
 rw [elim_stop (c := c + 1) (by rw [e]; show (0 : Int) ≤ (c : Int); omega) hc, e]
end
section
open Go Go.RowKit
theorem meth_45_Clear (v : Value) (w : World) : (method (Tryz.prog.types.size + Made.depth) 45 v "Clear").run Tryz.prog w = .ok (163, v) w := by kernel_rfl
end
section
open Go Go.RowKit
theorem c_elimO {M : List (List Qi)} {n m L B : Nat} (hs : Shp M n m) (hf : FitM M L) (hL : 1 ≤ L) (hg : 6 * grow L n + 4 ≤ 17592186044415) (hnm : n ≤ m) (hm : m ≤ 1000) : FunO Tryz.prog 241 [Is (.slice (some ⟨B, 0, none⟩) n n)] [matO B 27 45 5 (FRow NumT M)] (Unit) (fun _ => TupT [NT .i64 (elimTo M n).2.1, IntT .i64 (elimTo M n).2.2]) (fun _ => [matO B 27 45 5 (FRow NumT (elimTo M n).1)]) (fun _ => True) := by
 have hs1 := hs.1
 refine FunO.intro Tryz.func241 rfl Tryz.ntmps241 rfl (fun cx Z => (ts (ro rfl (cX (cV 0)) (ro rfl (cX (cV 0)) (eZ (ts (ro rfl (cX (cV 0)) (eZ (cU (ts (rm rfl (ro rfl (op_lenI U_28 (Ht rfl)) (ro rfl (cZ (cV 0)) (eZ (eK (T_openW 1 rfl (fun vs hvs => ?_)))))))))))))))))
 have hvs2 : Hds vs n := by have h := hvs; rw [List.length_map, hs1] at h; exact h
 refine T_loop4 (fun (c : Nat) (sw : Nat) (vs : List Value) (A : List (List Qi)) => (c ≤ n ∧ sw ≤ c) ∧ elimTo M c = (A, sw, -1) ∧ Hds vs n) (fun (c : Nat) (sw : Nat) (vs : List Value) (A : List (List Qi)) => n - c) (fun (c : Nat) (sw : Nat) (vs : List Value) (A : List (List Qi)) => [(0, Is (.slice (some ⟨B, 0, none⟩) n n)), (4, NT .i64 sw), (12, NT .i64 n), (13, NT .i64 c)]) (fun (c : Nat) (sw : Nat) (vs : List Value) (A : List (List Qi)) => [Z, matW B 27 45 5 vs vs (FRow NumT A)]) 0 0 vs M ⟨⟨Nat.zero_le _, Nat.le_refl _⟩, rfl, hvs2⟩
  (aQ rfl (aQ rfl (aQ rfl (aQ rfl aX)))) (HSub.refl _) (fun c sw vs A ⟨⟨hc, hsw⟩, hA, hvs⟩ => ?_)
 refine ts (ro rfl (gZ (Ht rfl) (Ht rfl)) (eZ (cU (dX (Ht rfl) (fun hcn => ?_) (fun hcn => ?_)))))
 ·simp only [decide_eq_true_eq] at hcn
  have hvl := hvs.len
  have hAs : Shp A n m := by have h := elim_shp hs hc; rw [hA] at h; exact h
  have hAf : FitM A (grow L c) := by have h := elim_fit hs hf hL hc; rw [hA] at h; exact h
  have hAl := hAs.1
  have hgr : grow L c ≤ grow L n := grow_mono L hc
  have hG1 : 1 ≤ grow L c := Nat.le_trans hL (grow_le L c)
  refine cY (cU (eK (ts (rm rfl (ra rfl (eZ (ts (rm rfl (ra rfl (eZ (cU (eK ?_))))))))))))
  refine T_loop (fun (p : Nat) => (c ≤ p ∧ p ≤ n) ∧ ∀ r, c ≤ r → r < p → gm A r c = Qi.zero) (fun (p : Nat) => n - p) (fun (p : Nat) => [(0, Is (.slice (some ⟨B, 0, none⟩) n n)), (4, NT .i64 sw), (5, NT .i64 c), (6, NT .i64 p), (12, NT .i64 n), (13, NT .i64 c)]) (fun (p : Nat) => [Z, matW B 27 45 5 vs vs (FRow NumT A)]) c ⟨⟨Nat.le_refl _, hc⟩, fun r h1 h2 => by omega⟩
   (aQ rfl (aQ rfl (aQ rfl (aQ rfl (aQ rfl (aQ rfl aX)))))) (HSub.refl _) (fun p ⟨⟨hcp, hpn⟩, hz⟩ => ?_)
  haveI fp : FitC (gm A p c) (grow L c) := hAf.get hG1 p c
  refine cU (ts (rm rfl (rm rfl (ro rfl (op_lenI U_28 (Ht rfl)) (ro rfl (gZ (Ht rfl) (Ht rfl)) (rm rfl (fX rfl rfl (eU rfl rfl (Ht rfl) (fun h => cZ (Ht rfl))) (fX rfl rfl (eU rfl rfl (Ht rfl) (fun h => cZ (Ht rfl))) (fX rfl rfl (eU rfl rfl (Ht rfl) (fun h => gQ U_28 Z_27 (fV rfl h) (fV rfl h) rfl (by first | omega | (simp at h; omega)) (by rw [Nat.mul_one, Nat.zero_add]))) ?_)))))))))
  refine fX rfl rfl (eU rfl rfl (Ht rfl) (fun h => op_ldHW A_27 Z_27 (fV rfl h) (j := 1) rfl (by simp at h; omega))) ?_
  refine fX rfl rfl (eU rfl rfl (Ht rfl) (fun h => cZ (Ht rfl))) (fX rfl rfl (eU rfl rfl (Ht rfl) (fun h => op_idxW U_27 Z_45 (fV rfl h) (fV rfl h) rfl (j := 1) rfl (by omega) (by simp at h; omega) (by simp at h; rw [hAs.row h]; omega))) ?_)
  refine fX rfl rfl (eU rfl rfl (Ht rfl) (fun h => op_ldW A_45 Z_45 (fV rfl h) (j := 1) rfl (by omega) (by simp at h; omega) (by simp at h; rw [hAs.row h]; omega))) ?_
  refine fX rfl rfl (eU rfl rfl (Ht rfl) (fun h => op_iface mkif_45 (fV rfl h))) (fX rfl rfl (eU rfl rfl (Ht rfl) (fun h => op_invoke meth_45_Clear Tryz.call163 (c_Clear (x := gm A p c) (L := grow L c) (by omega)) (fV rfl h) trivial)) (fX rfl rfl (eU rfl rfl (Ht rfl) (fun h => op_not (fV rfl h))) (ro rfl (op_and (Ht rfl) (fun h => (fV rfl h))) (eZ (dX (Ht rfl) (fun he => ?_) (fun he => ?_))))))
  ·have he2 : p < n ∧ gm A p c = Qi.zero := by simpa using he
   refine cY (eK (dQ (rm rfl (ro rfl (dW (Ht rfl) (cV 1) (by show _ < 9223372036854775808; first | omega | (simp only [lim]; omega))) (ra rfl (eZ (T_blk ?_)))))))
   refine fY (p + 1) ⟨⟨by omega, by omega⟩, fun r h1 h2 => by
     by_cases e : r = p
     ·rw [e]; exact he2.2
     ·exact hz r h1 (by omega)⟩ (by omega) (aQ rfl (aQ rfl (aQ rfl (aQ rfl (aQ rfl (aQ rfl aX)))))) (HSub.refl _)
  ·have hpv : pv A c n = p := pv_eq hcp hpn hz (fun h => by simp at he; exact he h)
   refine gW rfl (cU (ts (rm rfl (rm rfl (ro rfl (op_lenI U_28 (Ht rfl)) (ro rfl (op_eqlN (Ht rfl) (Ht rfl)) (eZ (dX (Ht rfl) (fun hp => ?_) (fun hp => ?_)))))))))
   ·have hp2 : p = n := by simpa using hp
    have hend := elim_end hs1 hA (by rw [hpv]; exact hp2) hcn
    refine ts (rm rfl (rm rfl (ra rfl (ra rfl (eZ ?_)))))
    exact T_retO () trivial [0, 1] ⟨⟨_, rfl, fun _ _ _ h => h⟩, ⟨_, rfl, (fun S w V h => matO_of (by rw [hend]) S w V (matW_close (by rw [List.length_map]; omega) S w V h))⟩, trivial⟩ (by decide) (rvs2 rfl (fZ (eY rfl) (nt_of (by rw [hend]))) (fZ (eY rfl) (int_of (by rw [hend]))))
   ·have hp2 : p < n := by simp at hp; omega
    have hpz := (pv_spec (M := A) (c := c) (n := n) hc).2.2.2 (by rw [hpv]; exact hp2)
    rw [hpv] at hpz
    have hnx := elim_next hs1 hA hpv hp2
    refine cY (cU (T_join3 (fun (q : Nat) (us : List Value) (D : List (List Qi)) => (q = sw + (if p = c then 0 else 1) ∧ D = (if p = c then A else swp [] A p c)) ∧ Hds us n) (fun (q : Nat) (us : List Value) (D : List (List Qi)) => [(0, Is (.slice (some ⟨B, 0, none⟩) n n)), (4, NT .i64 q), (5, NT .i64 c), (12, NT .i64 n), (13, NT .i64 c)]) (fun (q : Nat) (us : List Value) (D : List (List Qi)) => [Z, matW B 27 45 5 us us (FRow NumT D)]) ?_ (fun q us D ⟨⟨hq, hD⟩, hus⟩ => ?_)))
    ·refine ts (rm rfl (rm rfl (ro rfl (op_neqN (Ht rfl) (Ht rfl)) (eZ (dX (Ht rfl) (fun hpc => ?_) (fun hpc => ?_))))))
     ·have hpc2 : ¬ p = c := by simpa using hpc
      refine cU (Y.D_start (m := 14) [(13, 1, matW B 27 45 5 (vs.set p (hd vs c)) vs (FRow NumT A))] (Y.D_step (Ei := [(0, _)]) rfl rfl (bQ (bJ rfl rfl) bX) rfl rfl (by kernel_rfl) (dZ rfl (cZ (Ht rfl))) (Y.D_step (Ei := [(6, _)]) rfl rfl (bQ (bJ rfl rfl) bX) rfl rfl (by kernel_rfl) (dZ rfl (cZ (Ht rfl))) (cQ (Ei := [(0, _)]) rfl rfl (bQ (bJ rfl rfl) bX) rfl rfl (dZ rfl (cZ (Ht rfl))) (cQ (Ei := [(5, _)]) rfl rfl (bQ (bJ rfl rfl) bX) rfl rfl (dZ rfl (cZ (Ht rfl))) ?_)))))
      refine Y.D_step (Ei := [(0, _)]) rfl rfl (bQ (bJ rfl rfl) bX) rfl rfl (by kernel_rfl) (dZ rfl (cZ (Ht rfl))) (Y.D_step (Ei := [(5, _)]) rfl rfl (bQ (bJ rfl rfl) bX) rfl rfl (by kernel_rfl) (dZ rfl (cZ (Ht rfl))) (Y.D_step (Ei := [(48, _), (49, _)]) rfl rfl (bQ (bZ 4 rfl rfl) (bQ (bZ 5 rfl rfl) bX)) rfl rfl (by kernel_rfl) (dZ rfl (gQ U_28 Z_27 (Ht rfl) (Ht rfl) rfl (by omega) (by rw [Nat.mul_one, Nat.zero_add]))) ?_))
      refine Y.D_step (Ei := [(50, _)]) rfl rfl (bQ (bZ 6 rfl rfl) bX) rfl rfl (by kernel_rfl) (dZ rfl (op_ldHW A_27 Z_27 (Ht rfl) (j := 1) rfl (by omega))) (Y.D_step (Ei := [(0, _)]) rfl rfl (bQ (bJ rfl rfl) bX) rfl rfl (by kernel_rfl) (dZ rfl (cZ (Ht rfl))) (Y.D_step (Ei := [(6, _)]) rfl rfl (bQ (bJ rfl rfl) bX) rfl rfl (by kernel_rfl) (dZ rfl (cZ (Ht rfl))) (Y.D_step (Ei := [(52, _), (53, _)]) rfl rfl (bQ (bZ 8 rfl rfl) (bQ (bZ 9 rfl rfl) bX)) rfl rfl (by kernel_rfl) (dZ rfl (gQ U_28 Z_27 (Ht rfl) (Ht rfl) rfl (by omega) (by rw [Nat.mul_one, Nat.zero_add]))) ?_)))
      refine Y.D_step (Ei := [(54, _)]) rfl rfl (bQ (bZ 10 rfl rfl) bX) rfl rfl (by kernel_rfl) (dZ rfl (op_ldHW A_27 Z_27 (Ht rfl) (j := 1) rfl (by omega))) (Y.D_step (Ei := [(44, _), (45, _)]) rfl rfl (bQ (bZ 0 rfl rfl) (bQ (bZ 1 rfl rfl) bX)) rfl rfl (by kernel_rfl) (dZ rfl (gQ U_28 Z_27 (Ht rfl) (Ht rfl) rfl (by omega) (by rw [Nat.mul_one, Nat.zero_add]))) ?_)
      refine Y.D_putI (Ei := [(56, _), (51, _)]) 1 rfl rfl rfl (bQ (bZ 12 rfl rfl) (bQ (bZ 7 rfl rfl) bX)) (.head _) rfl (P_stHW Z_27 (Ht rfl) (Ht rfl) (hvs.pl c (by omega)) (i := p) (hs := vs) (by omega)) (Y.D_done mixed rfl (by kernel_rfl) rfl (by simp [Y.okP]) rfl rfl (bU (bU (bU (bU (bU (bU (bU (bU (bU (bU (bU (bU (bU (Y.F_putI (Y.F_nil ?_))))))))))))))))
      refine ro rfl (gQ U_28 Z_27 (Ht rfl) (Ht rfl) rfl (by omega) (by rw [Nat.mul_one, Nat.zero_add])) ?_
      refine R_stHW Z_27 (Ht rfl) (Ht rfl) (j := 1) rfl (hvs.pl p (by omega)) (by rw [List.length_set]; omega) rfl ?_
      refine eZ (T_conv 1 rfl (matW_swap (hs := swp nilV vs p c) (p := p) (c := c) (by omega) (by omega) (by omega)) (dQ (rm rfl (ro rfl (dW (Ht rfl) (cV 1) (by show _ < 9223372036854775808; first | omega | (simp only [lim]; omega))) (ra rfl (eZ (T_joined (sw + 1, swp nilV vs p c, swp [] A p c) ⟨⟨by rw [if_neg hpc2], by rw [if_neg hpc2]⟩, hvs.swp hp2 hcn⟩ (aQ rfl (aQ rfl (aQ rfl (aQ rfl (aQ rfl aX))))) (HSub.refl _))))))))
     ·have hpc2 : p = c := by simpa using hpc
      refine cY (T_joined (sw, vs, A) ⟨⟨by rw [if_pos hpc2]; rfl, by rw [if_pos hpc2]⟩, hvs⟩ (aQ rfl (aQ rfl (aQ rfl (aQ rfl (aQ rfl aX))))) (HSub.refl _))
    ·have hul := hus.len
     rw [← hq, ← hD] at hnx
     have hDs : Shp D n m := by rw [hD]; split; exact hAs; exact swp_shp hAs hp2 hcn
     have hDf : FitM D (grow L c) := by rw [hD]; split; exact hAf; exact swp_fit hAf
     have hDl := hDs.1
     have hDz : gm D c c ≠ Qi.zero := by
      rw [hD]; split
      ·rename_i e; rw [e] at hpz; exact hpz
      ·show gv (rw' (swp [] A p c) c) c ≠ _
       rw [swp_at (by omega)]; exact hpz
     refine ts (rm rfl (ro rfl (dW (Ht rfl) (cV 1) (by show _ < 9223372036854775808; first | omega | (simp only [lim]; omega))) (ra rfl (eZ (eK ?_)))))
     refine T_loop (fun (r : Nat) => c < r ∧ r ≤ n) (fun (r : Nat) => n - r) (fun (r : Nat) => [(0, Is (.slice (some ⟨B, 0, none⟩) n n)), (4, NT .i64 q), (5, NT .i64 c), (7, NT .i64 r), (12, NT .i64 n), (13, NT .i64 c)]) (fun (r : Nat) => [Z, matW B 27 45 5 us us (FRow NumT (redM D c r))]) (c + 1) ⟨Nat.lt_succ_self _, hcn⟩
      (aQ rfl (aQ rfl (aQ rfl (aQ rfl (aQ rfl (aQ rfl aX)))))) (aU (fun _ _ _ h => h) (aU (matW_of (congrArg _ redM_start)) aY)) (fun r ⟨hcr, hrn⟩ => ?_)
     refine cU (ts (rm rfl (rm rfl (ro rfl (op_lenI U_28 (Ht rfl)) (ro rfl (gZ (Ht rfl) (Ht rfl)) (eZ (dX (Ht rfl) (fun hr => ?_) (fun hr => ?_))))))))
     ·simp only [decide_eq_true_eq] at hr
      obtain ⟨X, hX⟩ : ∃ X, X = redM D c r := ⟨_, rfl⟩
      have hXr : rw' X r = rw' D r := by rw [hX]; exact redM_at (by omega) (by omega)
      have hXc : rw' X c = rw' D c := by rw [hX]; exact redM_at (by omega) (by omega)
      have hXl : X.length = n := by rw [hX, redM_len]; exact hDl
      have hXrl : (rw' X r).length = m := by rw [hXr]; exact hDs.row hr
      have hXcl : (rw' X c).length = m := by rw [hXc]; exact hDs.row hcn
      have hXrg : (X.getD r []).length = m := hXrl
      have hXcg : (X.getD c []).length = m := hXcl
      have hXfr : FitL (rw' X r) (grow L c) := by rw [hXr]; exact hDf.row r
      have hXfc : FitL (rw' X c) (grow L c) := by rw [hXc]; exact hDf.row c
      haveI g1 : FitC (gm X r c) (grow L c) := hXfr.get hG1 c
      haveI g2 : FitC (gm X c c) (grow L c) := hXfc.get hG1 c
      have hXz : gm X c c ≠ Qi.zero := by show gv (rw' X c) c ≠ _; rw [hXc]; exact hDz
      haveI g3 : FitC (gm X r c / gm X c c) (grow L c + 3 * grow L c + 2) := ⟨g1.fit.div g2.fit hXz⟩
      have hend := step_row (D := D) (r := r) (c := c) (by omega) hcr
      rw [← hX] at hend ⊢
      refine cY (cU (eK (cU (Y.D_start (m := 21) [] (cQ (Ei := [(0, _)]) rfl rfl (bQ (bJ rfl rfl) bX) rfl rfl (dZ rfl (cZ (Ht rfl))) (cQ (Ei := [(7, _)]) rfl rfl (bQ (bJ rfl rfl) bX) rfl rfl (dZ rfl (cZ (Ht rfl))) (cQ (Ei := [(69, _), (70, _)]) rfl rfl (bQ (bZ 0 rfl rfl) (bQ (bZ 1 rfl rfl) bX)) rfl rfl (dZ rfl (gQ U_28 Z_27 (Ht rfl) (Ht rfl) rfl (by omega) (by rw [Nat.mul_one, Nat.zero_add]))) ?_)))))))
      refine cQ (Ei := [(71, _)]) rfl rfl (bQ (bZ 2 rfl rfl) bX) rfl rfl (dZ rfl (op_ldHW A_27 Z_27 (Ht rfl) (j := 1) rfl (by omega))) (cQ (Ei := [(5, _)]) rfl rfl (bQ (bJ rfl rfl) bX) rfl rfl (dZ rfl (cZ (Ht rfl))) (cQ (Ei := [(72, _), (73, _)]) rfl rfl (bQ (bZ 3 rfl rfl) (bQ (bZ 4 rfl rfl) bX)) rfl rfl (dZ rfl (op_idxW U_27 Z_45 (Ht rfl) (Ht rfl) rfl (j := 1) rfl (by omega) (by omega) (by omega))) (cQ (Ei := [(74, _)]) rfl rfl (bQ (bZ 5 rfl rfl) bX) rfl rfl (dZ rfl (op_ldW A_45 Z_45 (Ht rfl) (j := 1) rfl (by omega) (by omega) (by omega))) ?_)))
      refine cQ (Ei := [(75, _)]) rfl rfl (bQ (bZ 6 rfl rfl) bX) rfl rfl (dZ rfl (op_iface mkif_45 (Ht rfl))) (cQ (Ei := [(0, _)]) rfl rfl (bQ (bJ rfl rfl) bX) rfl rfl (dZ rfl (cZ (Ht rfl))) (cQ (Ei := [(5, _)]) rfl rfl (bQ (bJ rfl rfl) bX) rfl rfl (dZ rfl (cZ (Ht rfl))) (cQ (Ei := [(77, _), (78, _)]) rfl rfl (bQ (bZ 8 rfl rfl) (bQ (bZ 9 rfl rfl) bX)) rfl rfl (dZ rfl (gQ U_28 Z_27 (Ht rfl) (Ht rfl) rfl (by omega) (by rw [Nat.mul_one, Nat.zero_add]))) ?_)))
      refine cQ (Ei := [(79, _)]) rfl rfl (bQ (bZ 10 rfl rfl) bX) rfl rfl (dZ rfl (op_ldHW A_27 Z_27 (Ht rfl) (j := 1) rfl (by omega))) (cQ (Ei := [(5, _)]) rfl rfl (bQ (bJ rfl rfl) bX) rfl rfl (dZ rfl (cZ (Ht rfl))) (cQ (Ei := [(80, _), (81, _)]) rfl rfl (bQ (bZ 11 rfl rfl) (bQ (bZ 12 rfl rfl) bX)) rfl rfl (dZ rfl (op_idxW U_27 Z_45 (Ht rfl) (Ht rfl) rfl (j := 1) rfl (by omega) (by omega) (by omega))) (cQ (Ei := [(82, _)]) rfl rfl (bQ (bZ 13 rfl rfl) bX) rfl rfl (dZ rfl (op_ldW A_45 Z_45 (Ht rfl) (j := 1) rfl (by omega) (by omega) (by omega))) ?_)))
      refine cQ (Ei := [(76, _), (83, _)]) rfl rfl (bQ (bZ 7 rfl rfl) (bQ (bZ 14 rfl rfl) bX)) rfl rfl (dZ rfl (op_invoke meth_45_Div Tryz.call59 (c_Div (x := gm X r c) (y := gm X c c) (L := grow L c) (M := grow L c) (by omega)) (Ht rfl) ⟨(Ht rfl), trivial⟩)) (cQ (Ei := [(84, _)]) rfl rfl (bQ (bZ 15 rfl rfl) bX) rfl rfl (dZ rfl (cZ (Ht rfl))) (cQ (Ei := [(68, _)]) rfl rfl (bQ (bZ 16 rfl rfl) bX) rfl rfl (dZ rfl (dU (Ht rfl) rfl)) (cQ (Ei := [(68, _)]) rfl rfl (bQ (bZ 16 rfl rfl) bX) rfl rfl (dZ rfl (dU (Ht rfl) rfl)) ?_)))
      refine Y.D_newp (Ei := []) (fun bb => box bb 45 [BoolT (decide ((gm X r c / gm X c c).a < 0)), NatT (gm X r c / gm X c c).a.natAbs, BoolT (decide ((gm X r c / gm X c c).b < 0)), NatT (gm X r c / gm X c c).b.natAbs, NatT (du (gm X r c / gm X c c))]) 20 rfl rfl rfl bX rfl rfl (by kernel_rfl) (eG (Ts := [Is (.bool false), Is (.slice none 0 0), Is (.bool false), Is (.slice none 0 0), Is (.slice none 0 0)]) O_45 rfl (fun V => aW ⟨rfl, trivial⟩ (aW ⟨rfl, trivial⟩ (aW ⟨rfl, trivial⟩ (aW ⟨rfl, trivial⟩ (aW ⟨rfl, trivial⟩ (aG))))))) ?_
      refine Y.D_putN (Ei := [(85, _)]) 19 rfl rfl rfl rfl rfl rfl (bQ (bZ 17 rfl rfl) bX) (fun bb => P_stA Z_45 (Ht rfl) (Ht rfl) rfl (i := 0) rfl (aK rfl) rfl rfl) (Y.D_done mixed rfl (by kernel_rfl) rfl (by simp [Y.okP]) rfl rfl (bU (bU (bU (bU (bU (bU (bU (bU (bU (bU (bU (bU (bU (bU (bU (bU (bU (bU (bU (Y.F_newp (fun B8 => Y.F_putN (Y.F_nil ?_)))))))))))))))))))))))
      refine ra rfl (eZ (ts (rm rfl (ro rfl (dW (Ht rfl) (cV 1) (by show _ < 9223372036854775808; first | omega | (simp only [lim]; omega))) (ra rfl (eZ (eK ?_)))))))
      refine T_loop (fun (k : Nat) => c < k ∧ k ≤ m) (fun (k : Nat) => m - k) (fun (k : Nat) => [(0, Is (.slice (some ⟨B, 0, none⟩) n n)), (4, NT .i64 q), (5, NT .i64 c), (7, NT .i64 r), (8, PtrB B8 0), (10, NT .i64 k), (12, NT .i64 n), (13, NT .i64 c)]) (fun (k : Nat) => [Z, matW B 27 45 5 us us (FRow NumT (X.set r (redR (rw' X r) (rw' X c) c k))), box B8 45 [BoolT (decide ((gm X r c / gm X c c).a < 0)), NatT (gm X r c / gm X c c).a.natAbs, BoolT (decide ((gm X r c / gm X c c).b < 0)), NatT (gm X r c / gm X c c).b.natAbs, NatT (du (gm X r c / gm X c c))]]) (c + 1) ⟨Nat.lt_succ_self _, by omega⟩
       (aQ rfl (aQ rfl (aQ rfl (aQ rfl (aQ rfl (aQ rfl (aQ rfl (aQ rfl aX)))))))) (aU (fun _ _ _ h => h) (aU (matW_of (by rw [← redR_start, set_rw (by omega)])) (aU (box_of rfl) aY))) (fun k ⟨hck, hkm⟩ => ?_)
      obtain ⟨Y, hY⟩ : ∃ Y, Y = (X.set r (redR (rw' X r) (rw' X c) c k)) := ⟨_, rfl⟩
      have hYl : Y.length = n := by rw [hY, List.length_set]; exact hXl
      have hYrl : (rw' Y r).length = m := by rw [hY, rw_set (by omega), redR_len]; exact hXrl
      have hYcl : (rw' Y c).length = m := by rw [hY, rw_set_ne (by omega)]; exact hXcl
      have hYrg : (Y.getD r []).length = m := hYrl
      have hYcg : (Y.getD c []).length = m := hYcl
      rw [← hY]
      refine cU (ts (rm rfl (rm rfl (rm rfl (ro rfl (gQ U_28 Z_27 (Ht rfl) (Ht rfl) rfl (by omega) (by rw [Nat.mul_one, Nat.zero_add])) ?_)))))
      refine ro rfl (op_ldHW A_27 Z_27 (Ht rfl) (j := 1) rfl (by omega)) (ro rfl (op_lenW U_27 (Ht rfl) (j := 1) rfl (by omega) (by omega)) (ro rfl (gZ (Ht rfl) (Ht rfl)) (eZ (dX (Ht rfl) (fun hk => ?_) (fun hk => ?_)))))
      ·have hk2 : k < m := by simp only [decide_eq_true_eq] at hk; omega
       have e1 : gm Y r k = gv (rw' X r) k := by rw [hY]; exact elt_r (by omega) (by omega) hck
       have e2 : gm Y c k = gv (rw' X c) k := by rw [hY]; exact elt_c (by omega)
       haveI y1 : FitC (gm Y r k) (grow L c) := by rw [e1]; exact hXfr.get hG1 k
       haveI y2 : FitC (gm Y c k) (grow L c) := by rw [e2]; exact hXfc.get hG1 k
       have hst := step_elt (X := X) (r := r) (c := c) (k := k) (by omega) (by omega) (by omega) hck
       rw [← hY] at hst
       refine cY (cU (eK (fJ (m := 24) (dp 0 rfl (cZ (Ht rfl)) (dp 7 rfl (cZ (Ht rfl)) (dqq 98 0 99 1 rfl (gQ U_28 Z_27 (Ht rfl) (Ht rfl) rfl (by omega) (by rw [Nat.mul_one, Nat.zero_add])) ?_))))))
       refine dq 100 2 rfl (op_ldHW A_27 Z_27 (Ht rfl) (j := 1) rfl (by omega)) (dp 10 rfl (cZ (Ht rfl)) (dp 0 rfl (cZ (Ht rfl)) (dp 7 rfl (cZ (Ht rfl)) (dqq 103 5 104 6 rfl (gQ U_28 Z_27 (Ht rfl) (Ht rfl) rfl (by omega) (by rw [Nat.mul_one, Nat.zero_add])) ?_))))
       refine dq 105 7 rfl (op_ldHW A_27 Z_27 (Ht rfl) (j := 1) rfl (by omega)) (dp 10 rfl (cZ (Ht rfl)) (dqq 106 8 107 9 rfl (op_idxW U_27 Z_45 (Ht rfl) (Ht rfl) rfl (j := 1) rfl (by omega) (by omega) (by omega)) (dq 108 10 rfl (op_ldW A_45 Z_45 (Ht rfl) (j := 1) rfl (by omega) (by omega) (by omega)) (dq 109 11 rfl (op_iface mkif_45 (Ht rfl)) (dp 8 rfl (eW A_45 Z_45 (Ht rfl) (i := 2) rfl rfl rfl) (dq 111 13 rfl (op_iface mkif_45 (Ht rfl)) (dp 0 rfl (cZ (Ht rfl)) (dp 5 rfl (cZ (Ht rfl)) (dqq 113 15 114 16 rfl (gQ U_28 Z_27 (Ht rfl) (Ht rfl) rfl (by omega) (by rw [Nat.mul_one, Nat.zero_add])) ?_)))))))))
       refine dq 115 17 rfl (op_ldHW A_27 Z_27 (Ht rfl) (j := 1) rfl (by omega)) (dp 10 rfl (cZ (Ht rfl)) (dqq 116 18 117 19 rfl (op_idxW U_27 Z_45 (Ht rfl) (Ht rfl) rfl (j := 1) rfl (by omega) (by omega) (by omega)) (dq 118 20 rfl (op_ldW A_45 Z_45 (Ht rfl) (j := 1) rfl (by omega) (by omega) (by omega)) (dqq 112 14 119 21 rfl (op_invoke meth_45_Mul K_67 (c_Mul (x := gm X r c / gm X c c) (y := gm Y c k) (L := grow L c + 3 * grow L c + 2) (M := grow L c) (by omega)) (Ht rfl) ⟨(Ht rfl), trivial⟩) (dqq 110 12 120 22 rfl (op_invoke meth_45_Sub Tryz.call66 (c_Sub (x := gm Y r k) (y := gm X r c / gm X c c * gm Y c k) (L := grow L c) (M := grow L c + 3 * grow L c + 2 + grow L c + 1) (by omega)) (Ht rfl) ⟨(Ht rfl), trivial⟩) ?_)))))
       refine fW mixed rfl (by kernel_rfl) (aJ (aJ (aJ (aJ (aJ (aJ (aJ (aJ (aJ (aJ (aJ (aJ (aJ (aJ (aJ (aJ (aJ (aJ (aJ (aJ (aJ (aJ (aJ (aJ (aV (ro rfl (op_idxW U_27 Z_45 (Ht rfl) (Ht rfl) rfl (j := 1) rfl (by omega) (by omega) (by omega)) (R_stW Z_45 (Ht rfl) (Ht rfl) (j := 1) rfl (El.ag rfl) (F := NumT) (z := gm Y r k - gm X r c / gm X c c * gm Y c k) (by omega) (by omega) (by omega) rfl (eZ (T_blk (dQ ?_))))))))))))))))))))))))))))))
       refine rm rfl (ro rfl (dW (Ht rfl) (cV 1) (by show _ < 9223372036854775808; first | omega | (simp only [lim]; omega))) (ra rfl (eZ (fY (k + 1) ⟨by omega, hk2⟩ (by omega) (aQ rfl (aQ rfl (aQ rfl (aQ rfl (aQ rfl (aQ rfl (aQ rfl (aQ rfl aX)))))))) (aU (fun _ _ _ h => h) (aU (matW_of (congrArg _ hst)) (aU (box_of rfl) aY)))))))
      ·have hk3 : k = m := by simp only [decide_eq_false_iff_not] at hk; omega
       subst hk3
       refine gW rfl (T_blk (dQ (rm rfl (ro rfl (dW (Ht rfl) (cV 1) (by show _ < 9223372036854775808; first | omega | (simp only [lim]; omega))) (ra rfl (eZ (T_keep [0, 1] rfl (by decide) (fY (r + 1) ⟨by omega, hr⟩ (by omega) (aQ rfl (aQ rfl (aQ rfl (aQ rfl (aQ rfl (aQ rfl aX)))))) (aU (fun _ _ _ h => h) (aU (matW_of (by rw [hY, ← hend, hDs.row hr])) aY))))))))))
     ·simp only [decide_eq_false_iff_not] at hr
      obtain rfl : r = n := Nat.le_antisymm hrn (by omega)
      refine gW rfl (T_blk (dQ (ro rfl (dW (Ht rfl) (cV 1) (by show _ < 9223372036854775808; first | omega | (simp only [lim]; omega))) (rm rfl (eZ (fY (c + 1, q, us, redM D c r) ⟨⟨hcn, by show q ≤ c + 1; rw [hq]; split <;> omega⟩, hnx, hus⟩ (by dsimp only; omega) (aQ rfl (aQ rfl (aQ rfl (aQ rfl aX)))) (HSub.refl _)))))))
 ·simp only [decide_eq_false_iff_not] at hcn
  obtain rfl : c = n := Nat.le_antisymm hc (by omega)
  have hvl := hvs.len
  have hAs : Shp A c m := by have h := elim_shp hs hc; rw [hA] at h; exact h
  refine gW rfl (ts (rm rfl (ra rfl (ro rfl (cX cW) (eZ ?_)))))
  exact T_retO () trivial [0, 1] ⟨⟨_, rfl, fun _ _ _ h => h⟩, ⟨_, rfl, (fun S w V h => matO_of (by rw [hA]) S w V (matW_close (by rw [List.length_map, hAs.1]; exact hvl) S w V h))⟩, trivial⟩ (by decide) (rvs2 rfl (fZ (eY rfl) (nt_of (by rw [hA]))) (fZ (eY rfl) (int_of (by rw [hA]))))
end
section
open Go Go.RowKit
abbrev cpRow (M bs : List (List Qi)) (i : Nat) : List Qi := rw' M i ++ bs.map fun b => gv b i
def copyM (M bs : List (List Qi)) (n : Nat) : List (List Qi) := tab n (cpRow M bs)
theorem cp_next {r : List Qi} {bs : List (List Qi)} {i j : Nat} (h : j < bs.length) : (r ++ (bs.take j).map fun b => gv b i) ++ [gv (bs.getD j []) i] = r ++ (bs.take (j + 1)).map fun b => gv b i := by
 rw [List.append_assoc, List.take_add_one, List.map_append]
 simp [List.getD, h]
theorem copyM_shp {M bs : List (List Qi)} {n m : Nat} (h : Shp M n m) : Shp (copyM M bs n) n (m + bs.length) := by
 refine ⟨tab_len _ _, fun r hr => ?_⟩
 obtain ⟨i, hi, rfl⟩ := tab_mem.1 hr
 rw [List.length_append, List.length_map, h.row hi]
theorem copyM_fit {M bs : List (List Qi)} {n L : Nat} (h : FitM M L) (hb : FitM bs L) (hL : 1 ≤ L) : FitM (copyM M bs n) L := fun r hr x hx => by
 obtain ⟨i, hi, rfl⟩ := tab_mem.1 hr
 rcases List.mem_append.1 hx with h1 | h1
 ·exact h.row i x h1
 ·obtain ⟨b, hb1, rfl⟩ := List.mem_map.1 h1
  exact FitL.get (hb b hb1) hL i
theorem copyM_nil {M : List (List Qi)} {n m : Nat} (h : Shp M n m) : copyM M [] n = M := by
 have : copyM M [] n = tab n (rw' M) := tab_congr fun i _ => by simp [cpRow]
 rw [this]; exact (tab_eq (h := h.1)).symm
def subS (U : List (List Qi)) (x : List Qi) (n c : Nat) : Nat → Qi
 | 0 => gm U c n
 | k + 1 => subS U x n c k - gm U c (c + 1 + k) * gv x (c + 1 + k)
def bkS (U : List (List Qi)) (n : Nat) : Nat → List Qi
 | 0 => tab n fun _ => Qi.zero
 | j + 1 => (bkS U n j).set (n - (j + 1)) (subS U (bkS U n j) n (n - (j + 1)) j / gm U (n - (j + 1)) (n - (j + 1)))
theorem bkS_len (U : List (List Qi)) (n : Nat) : ∀ j, (bkS U n j).length = n
 | 0 => tab_len _ _
 | j + 1 => by rw [bkS, List.length_set, bkS_len U n j]
def slvU (M : List (List Qi)) (b : List Qi) (n : Nat) : List (List Qi) × Nat × Int := elimTo (copyM M [b] n) n
def slvE (M : List (List Qi)) (b : List Qi) (n : Nat) : Int := if 0 ≤ (slvU M b n).2.2 then 6 else 0
def slvX (M : List (List Qi)) (b : List Qi) (n : Nat) : List Qi := bkS (slvU M b n).1 n n
def xgr (G : Nat) : Nat → Nat
 | 0 => G
 | j + 1 => j * (xgr G j + G + 2) + 4 * G + 2
theorem xgr_step (G j : Nat) : xgr G j ≤ xgr G (j + 1) := by
 cases j with
 | zero => simp only [xgr]; omega
 | succ j =>
  have : xgr G (j + 1) + G + 2 ≤ (j + 1) * (xgr G (j + 1) + G + 2) := Nat.le_mul_of_pos_left _ (by omega)
  rw [show xgr G (j + 1 + 1) = (j + 1) * (xgr G (j + 1) + G + 2) + 4 * G + 2 from rfl]
  omega
theorem xgr_ge (G : Nat) : ∀ j, G ≤ xgr G j
 | 0 => Nat.le_refl _
 | j + 1 => Nat.le_trans (xgr_ge G j) (xgr_step G j)
theorem xgr_mono (G : Nat) : ∀ {i j : Nat}, i ≤ j → xgr G i ≤ xgr G j
 | i, 0, h => by rw [show i = 0 by omega]; exact Nat.le_refl _
 | i, j + 1, h => by
  by_cases e : i = j + 1
  ·rw [e]; exact Nat.le_refl _
  ·exact Nat.le_trans (xgr_mono G (show i ≤ j by omega)) (xgr_step G j)
theorem elim_diag {M : List (List Qi)} {n m : Nat} (hs : Shp M n m) : ∀ {c : Nat}, c ≤ n → (elimTo M c).2.2 < 0 → ∀ i, i < c → gm (elimTo M c).1 i i ≠ Qi.zero
 | 0, _, _, i, hi => by omega
 | c + 1, hc, hst, i, hi => by
  have sh := elim_shp hs (c := c) (by omega)
  obtain ⟨_, i2, i3, i4⟩ := pv_spec (M := (elimTo M c).1) (c := c) (n := M.length) (by rw [hs.1]; omega)
  simp only [elimTo] at hst ⊢
  split at hst
  ·rename_i h0; omega
  ·rename_i h0
   rw [if_neg h0]
   split at hst
   ·simp at hst; omega
   ·rename_i h1
    rw [if_neg h1]
    have ih := elim_diag hs (c := c) (by omega) (by omega)
    have hl : ∀ X : List (List Qi), X.length = n → gm (redM X c M.length) i i = gm X i i := fun X hX => by
     show gv (rw' (redM X c M.length) i) i = _
     rw [redM_at (by omega) (by omega)]
    by_cases e : pv (elimTo M c).1 c M.length = c
    ·rw [if_pos e, hl _ sh.1]
     by_cases e2 : i = c
     ·rw [e2]; have := i4 (by have := hs.1; omega); rw [e] at this; exact this
     ·exact ih i (by omega)
    ·have hpl : pv (elimTo M c).1 c M.length < n := by rw [← hs.1]; omega
     rw [if_neg e, hl _ ((swp_len _ _ _ _).trans sh.1)]
     by_cases e2 : i = c
     ·rw [e2]
      show gv (rw' (swp [] _ _ c) c) c ≠ _
      rw [swp_at (by rw [sh.1]; omega)]
      exact i4 (by have := hs.1; omega)
     ·have : rw' (swp [] (elimTo M c).1 (pv (elimTo M c).1 c M.length) c) i = rw' (elimTo M c).1 i := by
       simp only [rw', swp, List.getD]
       rw [List.getElem?_set_ne (Ne.symm e2), List.getElem?_set_ne (by omega)]
      show gv (rw' (swp [] _ _ c) i) i ≠ _
      rw [this]; exact ih i (by omega)
theorem sub_fit {U : List (List Qi)} {x : List Qi} {n c G X : Nat} (hU : FitM U G) (hx : FitL x X) (hG : 1 ≤ G) (hX : 1 ≤ X) : ∀ k, FitC (subS U x n c k) (G + k * (G + X + 2))
 | 0 => (hU.get hG c n).le (by omega)
 | k + 1 => by
  haveI f1 := sub_fit (n := n) (c := c) hU hx hG hX k
  haveI f2 := hU.get hG c (c + 1 + k)
  haveI f3 := hx.get hX (c + 1 + k)
  have : FitC (subS U x n c (k + 1)) (G + k * (G + X + 2) + (G + X + 1) + 1) := by unfold subS; infer_instance
  exact this.le (by rw [Nat.add_mul]; omega)
theorem bk_elt {U : List (List Qi)} {x : List Qi} {n c G X j : Nat} (hU : FitM U G) (hx : FitL x X) (hG : 1 ≤ G) (hX : 1 ≤ X) (hz : gm U c c ≠ Qi.zero) : FitC (subS U x n c j / gm U c c) (j * (X + G + 2) + 4 * G + 2) := by
 have f1 := sub_fit (n := n) (c := c) hU hx hG hX j
 have f2 := hU.get hG c c
 have : FitC (subS U x n c j / gm U c c) (G + j * (G + X + 2) + 3 * G + 2) := ⟨f1.fit.div f2.fit hz⟩
 exact this.le (by rw [Nat.add_comm X G]; omega)
theorem bk_fit {U : List (List Qi)} {n G : Nat} (hU : FitM U G) (hG : 1 ≤ G) (hz : ∀ i, i < n → gm U i i ≠ Qi.zero) : ∀ j, j ≤ n → FitL (bkS U n j) (xgr G j)
 | 0, _ => FitL.tab fun _ _ => FitC.zero hG
 | j + 1, hj => fun y hy => by
  have ih := bk_fit hU hG hz j (by omega)
  rcases List.mem_or_eq_of_mem_set hy with h1 | h1
  ·exact (ih y h1).le (xgr_step G j)
  ·rw [h1]; exact bk_elt hU ih hG (Nat.le_trans hG (xgr_ge G j)) (hz _ (by omega))
theorem slvU_shp {M : List (List Qi)} {b : List Qi} {n : Nat} (h : Shp M n n) : Shp (slvU M b n).1 n (n + 1) := elim_shp (copyM_shp h) (Nat.le_refl n)
theorem slvU_fit {M : List (List Qi)} {b : List Qi} {n L : Nat} (h : Shp M n n) (hM : FitM M L) (hb : FitL b L) (hL : 1 ≤ L) : FitM (slvU M b n).1 (grow L n) := elim_fit (copyM_shp h) (copyM_fit hM (fun r hr => by simp at hr; subst hr; exact hb) hL) hL (Nat.le_refl n)
theorem slvX_fit {M : List (List Qi)} {b : List Qi} {n L : Nat} (h : Shp M n n) (hM : FitM M L) (hb : FitL b L) (hL : 1 ≤ L) (hE : (slvU M b n).2.2 < 0) : FitL (slvX M b n) (xgr (grow L n) n) :=
 bk_fit (slvU_fit h hM hb hL) (Nat.le_trans hL (grow_le L n)) (elim_diag (copyM_shp h) (Nat.le_refl n) hE) n (Nat.le_refl n)
def unitR (n i : Nat) : List Qi := (tab n fun _ => Qi.zero).set i (Qi.ofInt 1)
def idM (n : Nat) : List (List Qi) := tab n (unitR n)
theorem idM_shp (n : Nat) : Shp (idM n) n n := ⟨tab_len _ _, fun r hr => by obtain ⟨i, _, rfl⟩ := tab_mem.1 hr; rw [unitR, List.length_set, tab_len]⟩
theorem fit_one : FitC (Qi.ofInt 1) 1 := ⟨Qi.Fit.int (L := 1) (by decide) (by decide)⟩
theorem unitR_fit {n i L : Nat} (h : 1 ≤ L) : FitL (unitR n i) L := fun x hx => by
 rcases List.mem_or_eq_of_mem_set hx with h1 | h1
 ·obtain ⟨_, _, rfl⟩ := tab_mem.1 h1; exact FitC.zero h
 ·rw [h1]; exact fit_one.le h
theorem idM_fit {n L : Nat} (h : 1 ≤ L) : FitM (idM n) L := fun r hr => by obtain ⟨i, _, rfl⟩ := tab_mem.1 hr; exact unitR_fit h
theorem slvU_lt {M : List (List Qi)} {b : List Qi} {n : Nat} (h : ¬ 0 ≤ (slvU M b n).2.2) : (slvU M b n).2.2 < 0 := by omega
theorem tab_rep (F : Qi → Ty) (n : Nat) : List.replicate n (F Qi.zero) = (tab n fun _ => Qi.zero).map F := by rw [tab_map, rep_tab]
theorem bk_ge {n j : Nat} (h : (0 : Int) ≤ (n : Int) - 1 - (j : Int)) : j < n := by omega
theorem bk_lt {n j : Nat} (h : (n : Int) - 1 - (j : Int) < 0) : n ≤ j := by omega
theorem bk_bound {G X k j : Nat} (h : k < j) : k * (G + X + 2) + (G + X + 2) ≤ j * (X + G + 2) := by
 rw [Nat.add_comm X G, ← Nat.succ_mul]; exact Nat.mul_le_mul_right _ h
end
section
open Go Go.RowKit
theorem c_square {M : List (List Qi)} {n : Nat} (h : Shp M n n) (h1 : 1 ≤ n) (hn : n ≤ 32) : Fun Tryz.prog 239 [NumM M] (BoolT true) := by
 have hl := h.1
 refine Fun.intro Tryz.func239 rfl Tryz.ntmps239 rfl (fun cx => (ts (ro rfl (cX cW) (eZ (ts (rm rfl (ro rfl (cJ Tryz.call180 (c_columns h h1 hn hn) ⟨(Ht rfl), trivial⟩) (rm rfl (ro rfl (dU (Ht rfl) rfl) (ro rfl (dU (Ht rfl) rfl) (ra rfl (ra rfl (eZ (ts (rm rfl (rm rfl (fX rfl rfl (eU rfl rfl (Ht rfl) (fun h => cZ (Ht rfl))) (fX rfl rfl (eU rfl rfl (Ht rfl) (fun h => cZ (Ht rfl))) (fX rfl rfl (eU rfl rfl (Ht rfl) (fun h => dK U_28 (fV rfl h) len_map)) (fX rfl rfl (eU rfl rfl (Ht rfl) (fun h => op_eqlN (fV rfl h) (fV rfl h))) ?_))))))))))))))))))))
 refine ro rfl (op_and (Ht rfl) (fun h => (fV rfl h))) (ra rfl (eZ (fG rfl (fZ (eY rfl) ?_))))
 exact (bool_of (by simp [hl]))
theorem c_copiedO {M bs : List (List Qi)} {n m : Nat} (hM : Shp M n m) (hb : ∀ b, b ∈ bs → n ≤ b.length) (hn : n ≤ 1000) (hm : m ≤ 1000) (hbl : bs.length ≤ 1000) : FunO Tryz.prog 240 [NumM M, NumM bs] [] (Nat) (fun B => Is (.slice (some ⟨B, 0, none⟩) n n)) (fun B => [matO B 27 45 5 (FRow NumT (copyM M bs n))]) (fun _ => True) := by
 have hMl := hM.1
 refine FunO.intro Tryz.func240 rfl Tryz.ntmps240 rfl (fun cx Z => (ts (ro rfl (cX cW) (eZ (ts (rm rfl (ro rfl (dK U_28 (Ht rfl) len_map) (rn rfl (new_make (T := Is (.slice none 0 0)) (i := Tryz.t27) Tryz.underlying28 info_27 rfl rfl (Ht rfl) rfl (fun _ => rfl) trivial (by show 24 * _ ≤ _; omega) (by omega)) fun B12 => (ra rfl (eZ (cU (ts (rm rfl (ro rfl (dK U_28 (Ht rfl) len_map) (ro rfl (cZ (cV 0)) (eZ (eK (T_conv 1 rfl (mat_nil (e := 45) (s := 5)) ?_))))))))))))))))))
 refine T_loop (fun (i : Nat) => i ≤ M.length) (fun (i : Nat) => M.length - i) (fun (i : Nat) => [(0, NumM M), (1, NumM bs), (5, Is (.slice (some ⟨B12, 0, none⟩) M.length M.length)), (13, NumM M), (14, NT .i64 M.length), (15, NT .i64 i)]) (fun (i : Nat) => [Z, matO B12 27 45 5 (FRow NumT (mixT (cpRow M bs) [] M.length i))]) 0 (Nat.zero_le _)
  (aQ rfl (aQ rfl (aQ rfl (aQ rfl (aQ rfl (aQ rfl aX)))))) (aU (fun _ _ _ h => h) (aU (matO_of (by rw [← mix_zero, tab_const]; exact rep_FRow NumT M.length)) aY)) (fun i hi => ?_)
 refine ts (ro rfl (gZ (Ht rfl) (Ht rfl)) (eZ (cU (dX (Ht rfl) (fun hd0 => ?_) (fun hd0 => ?_)))))
 ·simp only [decide_eq_true_eq] at hd0
  have hrl : (rw' M i).length = m := hM.row (by omega)
  have hrl2 : (M.getD i []).length = m := hrl
  refine T_focus 1 (i) rfl (frow_mix hd0) (fun v0 => (cY (cU (eK (ts (rm rfl (ro rfl (dJ U_28 Z_27 (Ht rfl) (Ht rfl) rfl (eQ (dY (d := []) hd0))) (ro rfl (dV A_27 Z_27 (Ht rfl)) (ra rfl (ra rfl (eZ (ts (rm rfl (rm rfl (rm rfl (R_call0 Tryz.call184 (c_CloneO (l := M.getD i []) (by omega)) ⟨(Ht rfl), trivial⟩ rfl (fun v1 _ => (ro rfl (gQ U_28 Z_27 (Ht rfl) (Ht rfl) rfl (by omega) (by rw [Nat.mul_one, Nat.zero_add])) ?_))))))))))))))))))
  refine R_stH Z_27 (Ht rfl) (Ht rfl) (by simp only [FRow, List.length_map, mix_len]; omega) (j := 1) (l := 3) rfl rfl rfl ?_
  refine eZ (ts (rm rfl (ro rfl (dK U_28 (Ht rfl) len_map) (ro rfl (cZ (cV 0)) (eZ (eK (T_keep [0, 1, 3] rfl (by decide) ?_)))))))
  refine T_loop2 (fun (j : Nat) (v : Value) => j ≤ bs.length) (fun (j : Nat) (v : Value) => bs.length - j) (fun (j : Nat) (v : Value) => [(0, NumM M), (1, NumM bs), (5, Is (.slice (some ⟨B12, 0, none⟩) M.length M.length)), (6, NT .i64 i), (13, NumM M), (14, NT .i64 M.length), (15, NT .i64 i), (25, NumM bs), (26, NT .i64 bs.length), (27, NT .i64 j)]) (fun (j : Nat) (v : Value) => [Z, matH B12 27 45 5 (FRow NumT (mixT (cpRow M bs) [] M.length i)) i v, rowO 45 5 v ((rw' M i ++ (bs.take j).map fun b => gv b i).map NumT)]) 0 v1 (Nat.zero_le _)
   (aQ rfl (aQ rfl (aQ rfl (aQ rfl (aQ rfl (aQ rfl (aQ rfl (aQ rfl (aQ rfl (aQ rfl aX)))))))))) (aU (fun _ _ _ h => h) (aU (fun _ _ _ h => h) (aU (rowO_of (by simp)) aY))) (fun j v hj => ?_)
  refine ts (ro rfl (gZ (Ht rfl) (Ht rfl)) (eZ (cU (dX (Ht rfl) (fun he => ?_) (fun he => ?_)))))
  ·simp only [decide_eq_true_eq] at he
   have hbj : i < (bs.getD j []).length := by have h1 := hb (bs.getD j []) (by rw [getD_at he]; exact List.getElem_mem _); omega
   refine cY (cU (eK (ts (ro rfl (dJ U_28 Z_27 (Ht rfl) (Ht rfl) rfl (eQ (dY (d := []) he))) (ro rfl (dV A_27 Z_27 (Ht rfl)) (ra rfl (eZ (Y.D_startA (m := 12) [] 11 2 rfl rfl (cQ (Ei := [(5, _)]) rfl rfl (bQ (bJ rfl rfl) bX) rfl rfl (dZ rfl (cZ (Ht rfl))) (cQ (Ei := [(6, _)]) rfl rfl (bQ (bJ rfl rfl) bX) rfl rfl (dZ rfl (cZ (Ht rfl))) (cQ (Ei := [(5, _)]) rfl rfl (bQ (bJ rfl rfl) bX) rfl rfl (dZ rfl (cZ (Ht rfl))) ?_)))))))))))
   refine cQ (Ei := [(6, _)]) rfl rfl (bQ (bJ rfl rfl) bX) rfl rfl (dZ rfl (cZ (Ht rfl))) (cQ (Ei := [(33, _), (34, _)]) rfl rfl (bQ (bZ 2 rfl rfl) (bQ (bZ 3 rfl rfl) bX)) rfl rfl (dZ rfl (gQ U_28 Z_27 (Ht rfl) (Ht rfl) rfl (by omega) (by rw [Nat.mul_one, Nat.zero_add]))) ?_)
   refine cQ (Ei := [(35, _)]) rfl rfl (bQ (bZ 4 rfl rfl) bX) rfl rfl (dZ rfl (op_ldH A_27 Z_27 (Ht rfl) (j := 1) rfl)) (cQ (Ei := [(9, _)]) rfl rfl (bQ (bJ rfl rfl) bX) rfl rfl (dZ rfl (cZ (Ht rfl))) (cQ (Ei := [(6, _)]) rfl rfl (bQ (bJ rfl rfl) bX) rfl rfl (dZ rfl (cZ (Ht rfl))) (cQ (Ei := [(37, _), (38, _)]) rfl rfl (bQ (bZ 6 rfl rfl) (bQ (bZ 7 rfl rfl) bX)) rfl rfl (dZ rfl (dJ U_27 Z_45 (Ht rfl) (Ht rfl) rfl (eQ (dY (d := Qi.zero) hbj)))) ?_)))
   refine cQ (Ei := [(39, _)]) rfl rfl (bQ (bZ 8 rfl rfl) bX) rfl rfl (dZ rfl (dV A_45 Z_45 (Ht rfl))) (cQ (Ei := [(40, _)]) rfl rfl (bQ (bZ 9 rfl rfl) bX) rfl rfl (dZ rfl (op_bslice (xs := [.tmp 40]) U_27 Z_45 O_45 (cG (Ht rfl) cK) rfl rfl rfl)) (Y.D_app (Ei := [(36, _), (41, _)]) rfl rfl rfl rfl (bQ (bZ 5 rfl rfl) (bQ (bZ 10 rfl rfl) bX)) rfl (A_append (inf := Tryz.t45) und_27 info_45 rfl rfl rfl (Ht rfl) (Ht rfl) (by simp) (fun T hT => by simp at hT; subst hT; exact El.ag rfl) (by show _ * 88 ≤ _; simp only [List.length_map, List.length_append, List.length_take, List.length_cons, List.length_nil]; omega) (by simp only [List.length_map, List.length_append, List.length_take, List.length_cons, List.length_nil]; omega)) ?_))
   refine Y.D_done mixed rfl (by kernel_rfl) rfl (by simp [Y.okP]) rfl rfl (bU (bU (bU (bU (bU (bU (bU (bU (bU (bU (bU (Y.F_app (fun v2 => Y.F_nil ?_)))))))))))))
   refine ro rfl (gQ U_28 Z_27 (Ht rfl) (Ht rfl) rfl (by omega) (by rw [Nat.mul_one, Nat.zero_add])) ?_
   refine R_stH Z_27 (Ht rfl) (Ht rfl) (by simp only [FRow, List.length_map, mix_len]; omega) (j := 1) (l := 3) rfl rfl rfl ?_
   refine eZ (T_blk (dQ (ro rfl (dW (Ht rfl) (cV 1) (by show _ < 9223372036854775808; first | omega | (simp only [lim]; omega))) (rm rfl (eZ (T_keep [0, 1, 3] rfl (by decide) (fY (j + 1, v2) he (by dsimp only; omega) (aQ rfl (aQ rfl (aQ rfl (aQ rfl (aQ rfl (aQ rfl (aQ rfl (aQ rfl (aQ rfl (aQ rfl aX)))))))))) (aU (fun _ _ _ h => h) (aU (fun _ _ _ h => h) (aU (rowO_of ((app_mapF NumT _ (gv (bs.getD j []) i)).trans (congrArg _ (cp_next he)))) aY))))))))))
  ·simp only [decide_eq_false_iff_not] at he
   obtain rfl : bs.length = j := Nat.le_antisymm (by omega) hj
   refine gW rfl (T_blk (T_unfocus 1 2 rfl rfl (by decide) (by simp only [FRow, List.length_map, mix_len]; omega) ?_))
   refine dQ (ro rfl (dW (Ht rfl) (cV 1) (by show _ < 9223372036854775808; first | omega | (simp only [lim]; omega))) (rm rfl (eZ (T_keep [0, 1] rfl (by decide) (fY (i + 1) hd0 (by omega) (aQ rfl (aQ rfl (aQ rfl (aQ rfl (aQ rfl (aQ rfl aX)))))) (aU (fun _ _ _ h => h) (aU (matO_of (by rw [List.take_length, set_FRow, ← mix_set (f := cpRow M bs)])) aY)))))))
 ·simp only [decide_eq_false_iff_not] at hd0
  obtain rfl : i = M.length := Nat.le_antisymm hi (by omega)
  subst hMl
  refine gW rfl (ts (rm rfl (ra rfl (eZ ?_))))
  exact T_retO B12 trivial [0, 1] ⟨⟨_, rfl, fun _ _ _ h => h⟩, ⟨_, rfl, (matO_of (by rw [mix_fin]; rfl))⟩, trivial⟩ (by decide) (rvs1 rfl (eY rfl))
end
section
open Go Go.RowKit
theorem c_IdO {n : Nat} (hn : n ≤ 32) : FunO Tryz.prog 91 [NT .i64 n] [] (Nat) (fun B => Is (.slice (some ⟨B, 0, none⟩) n n)) (fun B => [matP exactH B 27 45 5 (FRow NumT (idM n))]) (fun _ => True) := by
 refine FunO.intro Tryz.func91 rfl Tryz.ntmps91 rfl (fun cx Z => (ts (ro rfl (cX cW) (eZ (ts (rn rfl (eG (Ts := [Is (.bool false), Is (.slice none 0 0), Is (.bool false), Is (.slice none 0 0), Is (.slice none 0 0)]) O_45 rfl (fun V => aW ⟨rfl, trivial⟩ (aW ⟨rfl, trivial⟩ (aW ⟨rfl, trivial⟩ (aW ⟨rfl, trivial⟩ (aW ⟨rfl, trivial⟩ (aG))))))) fun B3 => (eZ (ts (rm rfl (ro rfl (OpTy.nat (op_maxN (Ht rfl) (cV 0)) (show max n 0 = n by omega)) (ro rfl (OpTy.nat (op_minN (Ht rfl) (cV 32)) (show min n 32 = n by omega)) ?_)))))))))))
 refine rn rfl (new_make (T := Is (.slice none 0 0)) (i := Tryz.t27) Tryz.underlying28 info_27 rfl rfl (Ht rfl) rfl (fun _ => rfl) trivial (by show 24 * _ ≤ _; omega) (by omega)) fun B9 => ra rfl (eZ (cU (ts (rm rfl (ro rfl (op_lenI U_28 (Ht rfl)) (ro rfl (cZ (cV 0)) (eZ (eK (T_conv 2 rfl (mat_nilE exactH ⟨none, 0, rfl⟩ (e := 45) (s := 5)) ?_)))))))))
 refine T_loop (fun (k : Nat) => k ≤ n) (fun (k : Nat) => n - k) (fun (k : Nat) => [(3, PtrB B3 0), (4, Is (.slice (some ⟨B9, 0, none⟩) n n)), (11, NT .i64 n), (12, NT .i64 k)]) (fun (k : Nat) => [Z, box B3 45 [Is (.bool false), Is (.slice none 0 0), Is (.bool false), Is (.slice none 0 0), Is (.slice none 0 0)], matP exactH B9 27 45 5 (FRow NumT (mixT (unitR n) [] n k))]) 0 (Nat.zero_le _)
  (aQ rfl (aQ rfl (aQ rfl (aQ rfl aX)))) (aU (fun _ _ _ h => h) (aU (fun _ _ _ h => h) (aU (matO_of (by rw [← mix_zero, tab_const]; exact rep_FRow NumT n)) aY))) (fun k hk => ?_)
 refine ts (ro rfl (gZ (Ht rfl) (Ht rfl)) (eZ (cU (dX (Ht rfl) (fun hd => ?_) (fun hd => ?_)))))
 ·simp only [decide_eq_true_eq] at hd
  refine T_focusE 2 (k) rfl (frow_mix hd) (fun v hv => (cY (cU (eK (ts (rm rfl (ra rfl (eZ (cU (fJ (m := 10) (dp 4 rfl (cZ (Ht rfl)) (dp 5 rfl (cZ (Ht rfl)) (dp 3 rfl (eW A_45 Z_45 (Ht rfl) (i := 1) rfl rfl rfl) (dq 17 2 rfl (op_iface mkif_45 (Ht rfl)) (d0 rfl (cJ Tryz.call86 (c_Int (n := 0) (by decide) (by decide)) ⟨(cV 0), trivial⟩) (dqq 18 3 19 4 rfl (op_invoke meth_45_Of Tryz.call302 c_OfZ (Ht rfl) ⟨(Ht rfl), trivial⟩) (dq 20 5 rfl (op_bslice (xs := [.tmp 20]) U_27 Z_45 O_45 (cG (Ht rfl) cK) rfl rfl rfl) ?_)))))))))))))))))
  refine dp 4 rfl (cZ (Ht rfl)) (dq 22 7 rfl (op_lenI U_28 (Ht rfl)) (C.D_new (Ei := [(21, _), (23, _)]) rfl rfl rfl (bV (bG 6 rfl rfl) (bV (bG 8 rfl rfl) bW)) (new_call0 Tryz.call196 (c_RepO (m := n) (by omega) (by omega)) ⟨(Ht rfl), (Ht rfl), trivial⟩) (fW mixed rfl (by kernel_rfl) (aJ (aJ (aJ (aJ (aJ (aJ (aJ (aJ (aJ (C.F_new (fun B24 => aV (ro rfl (gQ U_28 Z_27 (Ht rfl) (Ht rfl) rfl (by omega) (by rw [Nat.mul_one, Nat.zero_add])) ?_)))))))))))))))
  refine R_stH Z_27 (Ht rfl) (Ht rfl) (by simp only [FRow, List.length_map, mix_len]; omega) (j := 2) (l := 4) rfl rfl rfl ?_
  refine eZ ?_
  have hB24 := B24.1.2
  refine fJ (m := 9) (dp 4 rfl (cZ (Ht rfl)) (dp 5 rfl (cZ (Ht rfl)) (dqq 26 0 27 1 rfl (gQ U_28 Z_27 (Ht rfl) (Ht rfl) rfl (by omega) (by rw [Nat.mul_one, Nat.zero_add])) ?_)))
  refine dq 28 2 rfl (op_ldH A_27 Z_27 (Ht rfl) (j := 2) rfl) (dp 5 rfl (cZ (Ht rfl)) (dp 3 rfl (eW A_45 Z_45 (Ht rfl) (i := 1) rfl rfl rfl) (dq 31 5 rfl (op_iface mkif_45 (Ht rfl)) (d0 rfl (cJ Tryz.call86 (c_Int (n := 1) (by decide) (by decide)) ⟨(cV 1), trivial⟩) (dqq 32 6 33 7 rfl (op_invoke meth_45_Of Tryz.call302 c_OfZ (Ht rfl) ⟨(Ht rfl), trivial⟩) (fW mixed rfl (by kernel_rfl) (aJ (aJ (aJ (aJ (aJ (aJ (aJ (aJ (aJ (aV (ro rfl (op_idxO U_27 Z_45 (Ht rfl) (Ht rfl) rfl (i := 4) rfl (by simp only [List.length_map, tab_len]; omega) rfl) ?_)))))))))))))))))
  refine R_stO Z_45 (Ht rfl) (Ht rfl) (El.ag rfl) (i := 4) rfl rfl (by simp only [List.length_map, tab_len]; omega) rfl ?_
  refine eZ (T_blk (T_unfocus 2 4 rfl rfl (by decide) (by simp only [FRow, List.length_map, mix_len]; omega) ?_))
  refine dQ (ro rfl (dW (Ht rfl) (cV 1) (by show _ < 9223372036854775808; first | omega | (simp only [lim]; omega))) (rm rfl (eZ (T_keep [0, 1, 2] rfl (by decide) (fY (k + 1) hd (by omega) (aQ rfl (aQ rfl (aQ rfl (aQ rfl aX)))) (aU (fun _ _ _ h => h) (aU (fun _ _ _ h => h) (aU (matO_of (by rw [← mix_set (f := unitR n), ← set_FRow, unitR, ← set_mapF])) aY))))))))
 ·simp only [decide_eq_false_iff_not] at hd
  obtain rfl : n = k := Nat.le_antisymm (by omega) hk
  refine gW rfl (ts (rm rfl (ra rfl (eZ ?_))))
  exact T_retO B9 trivial [0, 2] ⟨⟨_, rfl, fun _ _ _ h => h⟩, ⟨_, rfl, (matO_of (by rw [mix_fin]; rfl))⟩, trivial⟩ (by decide) (rvs1 rfl (eY rfl))
theorem c_Id {n : Nat} (hn : n ≤ 32) : Fun Tryz.prog 91 [NT .i64 n] (NumM (idM n)) := (c_IdO hn).fun fun B _ v S V h1 h2 => frz_matF (s := 5) (M := idM n) (idM_shp n).1.symm v S V h1 h2
theorem c_Solve {M : List (List Qi)} {b : List Qi} {n L : Nat} (hM : Shp M n n) (hb : b.length = n) (hf : FitM M L) (hfb : FitL b L) (hL : 1 ≤ L) (h1 : 1 ≤ n) (hn : n ≤ 32) (hg : 6 * grow L n + 4 ≤ 17592186044415) (hx : xgr (grow L n) (n + 1) ≤ 17592186044415) : Fun Tryz.prog 177 [NumM M, NumsT b] (TupT [NumsT (okL (slvE M b n) (slvX M b n)), IntT .i64 (slvE M b n)]) := by
 have hMl := hM.1
 have hcs : Shp (copyM M [b] n) n (n + 1) := copyM_shp hM
 have hcf : FitM (copyM M [b] n) L := copyM_fit hf (fun r hr => by simp at hr; subst hr; exact hfb) hL
 obtain ⟨U, hU⟩ : ∃ U, U = (slvU M b n).1 := ⟨_, rfl⟩
 have hUs : Shp U n (n + 1) := by rw [hU]; exact slvU_shp hM
 have hUl := hUs.1
 have hUf : FitM U (grow L n) := by rw [hU]; exact slvU_fit hM hf hfb hL
 have hG1 : 1 ≤ grow L n := Nat.le_trans hL (grow_le L n)
 refine Fun.intro Tryz.func177 rfl Tryz.ntmps177 rfl (fun cx => (ts (ro rfl (cX cW) (ro rfl (cX (cV 0)) (eZ (cU (ts (rm rfl (ro rfl (cJ Tryz.call239 (c_square hM h1 hn) ⟨(Ht rfl), trivial⟩) (ro rfl (op_not (Ht rfl)) (rm rfl (fX rfl rfl (eU rfl rfl (Ht rfl) (fun h => cZ (Ht rfl))) (fX rfl rfl (eU rfl rfl (Ht rfl) (fun h => dK U_27 (fV rfl h) len_map)) (fX rfl rfl (eU rfl rfl (Ht rfl) (fun h => cZ (Ht rfl))) (fX rfl rfl (eU rfl rfl (Ht rfl) (fun h => dK U_28 (fV rfl h) len_map)) ?_)))))))))))))))
 refine fX rfl rfl (eU rfl rfl (Ht rfl) (fun h => op_neqN (fV rfl h) (fV rfl h))) (ro rfl (op_or (Ht rfl) (fun h => (fV rfl h))) (eZ (T_condF (Ht rfl) (by simp [hMl, hb]) ?_)))
 refine cY (ts (rm rfl (ro rfl (dK U_28 (Ht rfl) (by rw [List.length_map, hMl])) ?_)))
 refine ra rfl (eZ (ts (rm rfl (rm rfl (ro rfl (op_bslice (xs := [.tmp 26]) U_28 Z_27 Tryz.zeroValue27 (cG (Ht rfl) cK) rfl rfl rfl) (R_call0 Tryz.call240 (c_copiedO (M := M) (bs := [b]) (n := n) (m := n) hM (fun r hr => by simp at hr; subst hr; omega) (by omega) (by omega) (by simp)) ⟨(Ht rfl), (Ht rfl), trivial⟩ rfl (fun B28 _ => ?_)))))))
 refine ra rfl (eZ (cU (ts (rm rfl (R_call1 Tryz.call241 (c_elimO (n := n) (m := n + 1) (L := L) hcs hcf hL hg (by omega) (by omega)) (i := 0) rfl ⟨(Ht rfl), trivial⟩ rfl (fun uu _ => (rm rfl (ro rfl (dU (Ht rfl) rfl) (ro rfl (dU (Ht rfl) rfl) (ra rfl (ra rfl (eZ (ts (rm rfl (ro rfl (op_geq (Ht rfl) cW) (eZ (dX (Ht rfl) (fun hs => ?_) (fun hs => ?_))))))))))))))))))
 ·have he : slvE M b n = 6 := by rw [slvE, if_pos (show 0 ≤ (slvU M b n).2.2 from of_decide_eq_true hs)]
  refine ts (ro rfl (cX cW) (ro rfl (cX (cV 6)) (eZ (T_ret2 rfl (fZ (eY rfl) ?_) (fZ (eY rfl) ?_)))))
  ·exact (fun v V k => by rw [he]; exact nil_slT v V k)
  ·exact (int_of he.symm)
 ·have hst : ¬ 0 ≤ (slvU M b n).2.2 := of_decide_eq_false hs
  have he : slvE M b n = 0 := by rw [slvE, if_neg hst]
  have hdz : ∀ i, i < n → gm U i i ≠ Qi.zero := by rw [hU]; exact elim_diag hcs (Nat.le_refl n) (slvU_lt hst)
  refine cY (ts (rm rfl (rn rfl (new_makeO (T := NumT Qi.zero) (i := Tryz.t45) und_27 info_45 rfl rfl (Ht rfl) rfl num_zero_p (El.ag rfl) (by show 88 * _ ≤ _; omega) (by omega)) fun B37 => (ra rfl (eZ (cU (ts (rm rfl (ro rfl (dG (Ht rfl) (cV 1) (by omega) (by show _ < 9223372036854775808; first | omega | (simp only [lim]; omega))) (ra rfl (eZ (eK (T_conv 0 rfl (matO_of (show FRow NumT (elimTo (copyM M [b] n) n).1 = FRow NumT U by rw [hU]; rfl)) (T_openW 0 rfl (fun vs hvs => ?_)))))))))))))))
  have hvl : vs.length = n := by have h := hvs.len; rw [List.length_map, hUl] at h; exact h
  refine T_loop (fun (j : Nat) => j ≤ n) (fun (j : Nat) => n - j) (fun (j : Nat) => [(0, Is (.slice (some ⟨B28, 0, none⟩) n n)), (6, NT .i64 n), (9, Is B37), (10, IntT .i64 ((n : Int) - 1 - (j : Int)))]) (fun (j : Nat) => [matW B28 27 45 5 vs vs (FRow NumT U), rowO 45 5 B37 ((bkS U n j).map NumT)]) 0 (Nat.zero_le _)
   (aQ rfl (aQ rfl (aQ rfl (aZ rfl (int_of (by omega)) aX)))) (aU (fun _ _ _ h => h) (aU (rowO_of (by rw [bkS]; exact tab_rep NumT n)) aY)) (fun j hj => ?_)
  refine cU (ts (rm rfl (ro rfl (op_geq (Ht rfl) cW) (eZ (dX (Ht rfl) (fun hc => ?_) (fun hc => ?_))))))
  ·have hjn : j < n := bk_ge (of_decide_eq_true hc)
   obtain ⟨q, hq⟩ : ∃ q, q = n - (j + 1) := ⟨_, rfl⟩
   have hqi : (n : Int) - 1 - (j : Int) = (q : Int) := by omega
   have hqr : (U.getD q []).length = n + 1 := hUs.row (by omega)
   have hXf := bk_fit hUf hG1 hdz j hj
   have hXl := bkS_len U n j
   have hX1 : 1 ≤ xgr (grow L n) j := Nat.le_trans hG1 (xgr_ge _ _)
   have hxm := xgr_mono (grow L n) (show j + 1 ≤ n + 1 by omega)
   refine cY (cU (eK (ts (rm rfl (rm rfl (ro rfl (gQ U_28 Z_27 (Ht rfl) (Ht rfl) hqi (by omega) (by rw [Nat.mul_one, Nat.zero_add])) ?_))))))
   refine ro rfl (op_ldHW A_27 Z_27 (Ht rfl) (j := 0) rfl (by omega)) (rm rfl (ro rfl (op_idxW U_27 Z_45 (Ht rfl) (Ht rfl) rfl (j := 0) rfl (by omega) (by omega) (by omega)) (ro rfl (op_ldW A_45 Z_45 (Ht rfl) (j := 0) rfl (by omega) (by omega) (by omega)) (rn rfl (eG (Ts := [Is (.bool false), Is (.slice none 0 0), Is (.bool false), Is (.slice none 0 0), Is (.slice none 0 0)]) O_45 rfl (fun V => aW ⟨rfl, trivial⟩ (aW ⟨rfl, trivial⟩ (aW ⟨rfl, trivial⟩ (aW ⟨rfl, trivial⟩ (aW ⟨rfl, trivial⟩ (aG))))))) fun B11 => ?_))))
   refine gX Z_45 (Ht rfl) (Ht rfl) rfl (i := 2) rfl (aK rfl) rfl rfl (eZ (cU (ts (rm rfl (ro rfl (op_add (Ht rfl) cW (r := ((q + 1 : Nat) : Int)) ((w64 (z := (n : Int) - 1 - (j : Int) + 1) (by omega)).trans (by omega))) ?_)))))
   refine ra rfl (eZ (eK ?_))
   refine T_loop (fun (k : Nat) => k ≤ j) (fun (k : Nat) => j - k) (fun (k : Nat) => [(0, Is (.slice (some ⟨B28, 0, none⟩) n n)), (6, NT .i64 n), (9, Is B37), (10, IntT .i64 ((n : Int) - 1 - (j : Int))), (11, PtrB B11 0), (12, NT .i64 (q + 1 + k))]) (fun (k : Nat) => [matW B28 27 45 5 vs vs (FRow NumT U), rowO 45 5 B37 ((bkS U n j).map NumT), box B11 45 [BoolT (decide ((subS U (bkS U n j) n q k).a < 0)), NatT (subS U (bkS U n j) n q k).a.natAbs, BoolT (decide ((subS U (bkS U n j) n q k).b < 0)), NatT (subS U (bkS U n j) n q k).b.natAbs, NatT (du (subS U (bkS U n j) n q k))]]) 0 (Nat.zero_le _)
    (aQ rfl (aQ rfl (aQ rfl (aQ rfl (aQ rfl (aQ rfl aX)))))) (aU (fun _ _ _ h => h) (aU (fun _ _ _ h => h) (aU (box_of rfl) aY))) (fun k hk => ?_)
   refine cU (ts (rm rfl (rm rfl (ro rfl (gZ (Ht rfl) (Ht rfl)) (eZ (dX (Ht rfl) (fun hf => ?_) (fun hf => ?_)))))))
   ·have hkj : k < j := by simp only [decide_eq_true_eq] at hf; omega
    haveI f1 : FitC (subS U (bkS U n j) n q k) (grow L n + k * (grow L n + xgr (grow L n) j + 2)) := sub_fit hUf hXf hG1 hX1 k
    haveI f2 : FitC (gm U q (q + 1 + k)) (grow L n) := hUf.get hG1 _ _
    haveI f3 : FitC (gv (bkS U n j) (q + 1 + k)) (xgr (grow L n) j) := hXf.get hX1 _
    have hb1 := bk_bound (G := grow L n) (X := xgr (grow L n) j) hkj
    have hb2 : xgr (grow L n) (j + 1) = j * (xgr (grow L n) j + grow L n + 2) + 4 * grow L n + 2 := rfl
    refine cY (cU (eK (fJ (m := 15) (dp 11 rfl (eW A_45 Z_45 (Ht rfl) (i := 2) rfl rfl rfl) (dq 58 0 rfl (op_iface mkif_45 (Ht rfl)) (dp 0 rfl (cZ (Ht rfl)) (dp 10 rfl (cZ (Ht rfl)) (dqq 60 2 61 3 rfl (gQ U_28 Z_27 (Ht rfl) (Ht rfl) hqi (by omega) (by rw [Nat.mul_one, Nat.zero_add])) ?_))))))))
    refine dq 62 4 rfl (op_ldHW A_27 Z_27 (Ht rfl) (j := 0) rfl (by omega)) (dp 12 rfl (cZ (Ht rfl)) (dqq 63 5 64 6 rfl (op_idxW U_27 Z_45 (Ht rfl) (Ht rfl) rfl (j := 0) rfl (by omega) (by omega) (by omega)) (dq 65 7 rfl (op_ldW A_45 Z_45 (Ht rfl) (j := 0) rfl (by omega) (by omega) (by omega)) (dq 66 8 rfl (op_iface mkif_45 (Ht rfl)) (dp 9 rfl (cZ (Ht rfl)) (dp 12 rfl (cZ (Ht rfl)) (dqq 68 10 69 11 rfl (op_idxO U_27 Z_45 (Ht rfl) (Ht rfl) rfl (i := 1) rfl (by rw [List.length_map]; omega) rfl) ?_)))))))
    refine dq 70 12 rfl (op_ldO A_45 Z_45 (Ht rfl) (i := 1) rfl rfl (eQ (dY (d := Qi.zero) (by omega)))) (dqq 67 9 71 13 rfl (op_invoke meth_45_Mul K_67 (c_Mul (x := gm U q (q + 1 + k)) (y := gv (bkS U n j) (q + 1 + k)) (L := grow L n) (M := xgr (grow L n) j) (by omega)) (Ht rfl) ⟨(Ht rfl), trivial⟩) (fW mixed rfl (by kernel_rfl) (aJ (aJ (aJ (aJ (aJ (aJ (aJ (aJ (aJ (aJ (aJ (aJ (aJ (aJ (aJ (aV (ro rfl (op_invoke meth_45_Sub Tryz.call66 (c_Sub (x := (subS U (bkS U n j) n q k)) (y := gm U q (q + 1 + k) * gv (bkS U n j) (q + 1 + k)) (L := grow L n + k * (grow L n + xgr (grow L n) j + 2)) (M := grow L n + xgr (grow L n) j + 1) (by omega)) (Ht rfl) ⟨(Ht rfl), trivial⟩) ?_)))))))))))))))))))
    refine gX Z_45 (Ht rfl) (Ht rfl) rfl (i := 2) rfl (aK rfl) rfl rfl (eZ (T_blk (dQ (rm rfl (ro rfl (dW (Ht rfl) (cV 1) (by show _ < 9223372036854775808; first | omega | (simp only [lim]; omega))) (ra rfl (eZ (fY (k + 1) hkj (by omega) (aQ rfl (aQ rfl (aQ rfl (aQ rfl (aQ rfl (aQ rfl aX)))))) (aU (fun _ _ _ h => h) (aU (fun _ _ _ h => h) (aU (box_of rfl) aY)))))))))))
   ·obtain rfl : k = j := Nat.le_antisymm hk (by simp only [decide_eq_false_iff_not] at hf; omega)
    haveI f1 : FitC (subS U (bkS U n k) n q k) (grow L n + k * (grow L n + xgr (grow L n) k + 2)) := sub_fit hUf hXf hG1 hX1 k
    haveI f2 : FitC (gm U q q) (grow L n) := hUf.get hG1 _ _
    have hb3 : k * (xgr (grow L n) k + grow L n + 2) = k * (grow L n + xgr (grow L n) k + 2) := by rw [Nat.add_comm (xgr _ _)]
    have hb2 : xgr (grow L n) (k + 1) = k * (xgr (grow L n) k + grow L n + 2) + 4 * grow L n + 2 := rfl
    refine gW rfl (Y.D_start (m := 17) [(16, 1, rowO 45 5 B37 (((bkS U n k).map NumT).set q (NumT ((subS U (bkS U n k) n q k) / gm U q q))))] (Y.D_step (Ei := [(9, _)]) rfl rfl (bQ (bJ rfl rfl) bX) rfl rfl (by kernel_rfl) (dZ rfl (cZ (Ht rfl))) (Y.D_step (Ei := [(10, _)]) rfl rfl (bQ (bJ rfl rfl) bX) rfl rfl (by kernel_rfl) (dZ rfl (cZ (Ht rfl))) (Y.D_step (Ei := [(11, _)]) rfl rfl (bQ (bJ rfl rfl) bX) rfl rfl (by kernel_rfl) (dZ rfl (eW A_45 Z_45 (Ht rfl) (i := 2) rfl rfl rfl)) ?_))))
    refine Y.D_step (Ei := [(77, _)]) rfl rfl (bQ (bZ 2 rfl rfl) bX) rfl rfl (by kernel_rfl) (dZ rfl (op_iface mkif_45 (Ht rfl))) (Y.D_step (Ei := [(0, _)]) rfl rfl (bQ (bJ rfl rfl) bX) rfl rfl (by kernel_rfl) (dZ rfl (cZ (Ht rfl))) (Y.D_step (Ei := [(10, _)]) rfl rfl (bQ (bJ rfl rfl) bX) rfl rfl (by kernel_rfl) (dZ rfl (cZ (Ht rfl))) (Y.D_step (Ei := [(79, _), (80, _)]) rfl rfl (bQ (bZ 4 rfl rfl) (bQ (bZ 5 rfl rfl) bX)) rfl rfl (by kernel_rfl) (dZ rfl (gQ U_28 Z_27 (Ht rfl) (Ht rfl) hqi (by omega) (by rw [Nat.mul_one, Nat.zero_add]))) ?_)))
    refine Y.D_step (Ei := [(81, _)]) rfl rfl (bQ (bZ 6 rfl rfl) bX) rfl rfl (by kernel_rfl) (dZ rfl (op_ldHW A_27 Z_27 (Ht rfl) (j := 0) rfl (by omega))) (Y.D_step (Ei := [(10, _)]) rfl rfl (bQ (bJ rfl rfl) bX) rfl rfl (by kernel_rfl) (dZ rfl (cZ (Ht rfl))) (Y.D_step (Ei := [(82, _), (83, _)]) rfl rfl (bQ (bZ 7 rfl rfl) (bQ (bZ 8 rfl rfl) bX)) rfl rfl (by kernel_rfl) (dZ rfl (op_idxW U_27 Z_45 (Ht rfl) (Ht rfl) hqi (j := 0) rfl (by omega) (by omega) (by omega))) ?_))
    refine Y.D_step (Ei := [(84, _)]) rfl rfl (bQ (bZ 9 rfl rfl) bX) rfl rfl (by kernel_rfl) (dZ rfl (op_ldW A_45 Z_45 (Ht rfl) (j := 0) rfl (by omega) (by omega) (by omega))) (Y.D_step (Ei := [(78, _), (85, _)]) rfl rfl (bQ (bZ 3 rfl rfl) (bQ (bZ 10 rfl rfl) bX)) rfl rfl (by kernel_rfl) (dZ rfl (op_invoke meth_45_Div Tryz.call59 (c_Div (x := (subS U (bkS U n k) n q k)) (y := gm U q q) (L := grow L n + k * (grow L n + xgr (grow L n) k + 2)) (M := grow L n) (by omega)) (Ht rfl) ⟨(Ht rfl), trivial⟩)) (Y.D_step (Ei := [(86, _)]) rfl rfl (bQ (bZ 11 rfl rfl) bX) rfl rfl (by kernel_rfl) (dZ rfl (cZ (Ht rfl))) ?_))
    refine Y.D_step (Ei := [(74, _)]) rfl rfl (bQ (bZ 12 rfl rfl) bX) rfl rfl (by kernel_rfl) (dZ rfl (dU (Ht rfl) rfl)) (cQ (Ei := [(74, _)]) rfl rfl (bQ (bZ 12 rfl rfl) bX) rfl rfl (dZ rfl (dU (Ht rfl) rfl)) (Y.D_step (Ei := [(75, _), (76, _)]) rfl rfl (bQ (bZ 0 rfl rfl) (bQ (bZ 1 rfl rfl) bX)) rfl rfl (by kernel_rfl) (dZ rfl (op_idxO U_27 Z_45 (Ht rfl) (Ht rfl) hqi (i := 1) rfl (by rw [List.length_map]; omega) rfl)) ?_))
    refine Y.D_putI (Ei := [(89, _), (87, _)]) 1 rfl rfl rfl (bQ (bZ 15 rfl rfl) (bQ (bZ 13 rfl rfl) bX)) (.head _) rfl (P_stO Z_45 (Ht rfl) (Ht rfl) (El.ag rfl) (i := 0) rfl rfl (by rw [List.length_map]; omega)) ?_
    refine Y.D_done mixed rfl (by kernel_rfl) rfl (by simp [Y.okP]) rfl rfl (bU (bU (bU (bU (bU (bU (bU (bU (bU (bU (bU (bU (bU (bU (bU (bU (Y.F_putI (Y.F_nil ?_))))))))))))))))))
    refine eZ (T_blk (dQ (rm rfl (ro rfl (op_sub (Ht rfl) cW (w64 (by omega))) (ra rfl (eZ (T_keep [0, 1] rfl (by decide) (fY (k + 1) hjn (by omega) (aQ rfl (aQ rfl (aQ rfl (aZ rfl (int_of (by omega)) aX)))) (aU (fun _ _ _ h => h) (aU (rowO_of (by rw [set_mapF, bkS, ← hq])) aY))))))))))
  ·obtain rfl : j = n := Nat.le_antisymm hj (bk_lt (by have h := of_decide_eq_false hc; omega))
   refine gV (i := 1) (tt := 9) rfl rfl frz_row (gW rfl (ts (rm rfl (ra rfl (ro rfl (cX (cV 0)) (eZ (T_ret2 rfl (fZ (eY rfl) ?_) (fZ (eY rfl) ?_))))))))
   ·exact (slT_of (by rw [he, slvX, ← hU]; rfl))
   ·exact (int_of he.symm)
end
section
open Go Go.RowKit
abbrev ek (n k : Nat) : List Qi := (idM n).getD k []
theorem ek_len {n k : Nat} (h : k < n) : (ek n k).length = n := (idM_shp n).row h
theorem ek_fit {n k L : Nat} (h : 1 ≤ L) : FitL (ek n k) L := (idM_fit h).row k
def invE (M : List (List Qi)) (n : Nat) : Int := firstE (fun k => slvE M (ek n k) n) n
def invX (M : List (List Qi)) (n : Nat) : List (List Qi) := tab n fun r => tab n fun j => gv (slvX M (ek n j) n) r
theorem tab_getD {α : Type} {n i : Nat} {f : Nat → α} {d : α} (h : i < n) : (tab n f).getD i d = f i := by simp [List.getD, tab_get h]
def invP (M : List (List Qi)) (n k i : Nat) : List (List Qi) := tab n fun r => tab n fun j => if j < k ∨ j = k ∧ r < i then gv (slvX M (ek n j) n) r else gm M r j
theorem invP_shp (M : List (List Qi)) (n k i : Nat) : Shp (invP M n k i) n n := Shp.tab
theorem invP_zero {M : List (List Qi)} {n : Nat} (h : Shp M n n) : M = invP M n 0 0 := by
 rw [invP]
 conv => lhs; rw [mat_tab h]
 exact tab_congr fun r _ => tab_congr fun j _ => by rw [if_neg (by omega)]
theorem invP_col (M : List (List Qi)) (n k : Nat) : invP M n k n = invP M n (k + 1) 0 := tab_congr fun r hr => tab_congr fun j _ => by
 by_cases h : j < k ∨ j = k ∧ r < n
 ·rw [if_pos h, if_pos (by omega)]
 ·rw [if_neg h, if_neg (by omega)]
theorem invP_fin (M : List (List Qi)) (n : Nat) : invP M n n 0 = invX M n := tab_congr fun r _ => tab_congr fun j hj => by rw [if_pos (by omega)]
theorem invP_next {M : List (List Qi)} {n k i : Nat} (hi : i < n) (hk : k < n) : (invP M n k i).set i (((invP M n k i).getD i []).set k (gv (slvX M (ek n k) n) i)) = invP M n k (i + 1) := by
 apply List.ext_getElem?
 intro r
 by_cases hr : r < n
 ·by_cases e : r = i
  ·subst e
   rw [List.getElem?_set_self (by rw [(invP_shp _ _ _ _).1]; exact hr), invP, invP, tab_get (f := fun r => tab n fun j => if j < k ∨ j = k ∧ r < _ + 1 then gv (slvX M (ek n j) n) r else gm M r j) hr]
   congr 1
   have : (tab n fun x => tab n fun j => if j < k ∨ j = k ∧ x < r then gv (slvX M (ek n j) n) x else gm M x j).getD r [] = tab n fun j => if j < k ∨ j = k ∧ r < r then gv (slvX M (ek n j) n) r else gm M r j := tab_getD hr
   rw [this]
   apply List.ext_getElem?
   intro j
   by_cases hj : j < n
   ·by_cases e2 : j = k
    ·subst e2
     rw [List.getElem?_set_self (by rw [tab_len]; exact hj), tab_get hj, if_pos (by omega)]
    ·rw [List.getElem?_set_ne (Ne.symm e2), tab_get hj, tab_get hj]
     by_cases e3 : j < k
     ·rw [if_pos (.inl e3), if_pos (.inl e3)]
     ·rw [if_neg (by omega), if_neg (by omega)]
   ·rw [List.getElem?_eq_none (by rw [List.length_set, tab_len]; omega), List.getElem?_eq_none (by rw [tab_len]; omega)]
  ·rw [List.getElem?_set_ne (Ne.symm e), invP, invP, tab_get hr, tab_get hr]
   congr 1
   refine tab_congr fun j _ => ?_
   by_cases e3 : j < k ∨ j = k ∧ r < i
   ·rw [if_pos e3, if_pos (by omega)]
   ·rw [if_neg e3, if_neg (by omega)]
 ·rw [List.getElem?_eq_none (by rw [List.length_set, (invP_shp _ _ _ _).1]; omega), List.getElem?_eq_none (by rw [(invP_shp _ _ _ _).1]; omega)]
theorem invE_at {M : List (List Qi)} {n k : Nat} (h : ∀ i, i < k → slvE M (ek n i) n = 0) (hk : k < n) (hx : slvE M (ek n k) n ≠ 0) : invE M n = slvE M (ek n k) n := firstE_at h hx hk
theorem invE_zero {M : List (List Qi)} {n : Nat} (h : ∀ i, i < n → slvE M (ek n i) n = 0) : invE M n = 0 := firstE_none h
def pmM (m : Bool) (a b : List (List Qi)) (n : Nat) : List (List Qi) := tab n fun i => tab n fun j => if m = true then gm a i j - gm b i j else gm a i j + gm b i j
theorem pmM_shp {m : Bool} {a b : List (List Qi)} {n : Nat} : Shp (pmM m a b n) n n := Shp.tab
theorem pmM_fit {m : Bool} {a b : List (List Qi)} {n L M : Nat} (ha : FitM a L) (hb : FitM b M) (h1 : 1 ≤ L) (h2 : 1 ≤ M) : FitM (pmM m a b n) (L + M + 1) := FitM.tab fun i j _ _ => by
 haveI := ha.get h1 i j; haveI := hb.get h2 i j
 split
 ·infer_instance
 ·infer_instance
theorem all2_nil {T : Ty} {s : Nat} : ∀ vs V, AllT [T, Is (.slice none 0 0)] vs V → AllT [T, SlT s []] vs V
 | [_, _], _, ⟨h1, h2, h3⟩ => ⟨h1, nil_slT _ _ h2, h3⟩
 | [], _, h => h.elim
 | [_], _, h => h.2.elim
 | _ :: _ :: _ :: _, _, h => h.2.2.elim
theorem FunO.arg {P : Program} {f : FuncId} {Ts Ts' : List Ty} {As : Hp} {γ : Type} {U : γ → Ty} {As' : γ → Hp} {Q : γ → Prop} (h : FunO P f Ts As γ U As' Q) (i : ∀ vs V, AllT Ts' vs V → AllT Ts vs V) : FunO P f Ts' As γ U As' Q :=
 fun cx Z vs V w h1 h2 => h cx Z vs V w h1 (i _ _ h2)
end
section
open Go Go.RowKit
theorem c_copied0 {M : List (List Qi)} {n m : Nat} (hM : Shp M n m) (hn : n ≤ 1000) (hm : m ≤ 1000) : FunO Tryz.prog 240 [NumM M, Is (.slice none 0 0)] [] Nat (fun B => Is (.slice (some ⟨B, 0, none⟩) n n)) (fun B => [matO B 27 45 5 (FRow NumT M)]) (fun _ => True) := by
 have h := c_copiedO (M := M) (bs := []) hM (fun b hb => by cases hb) hn hm (by simp)
 rw [copyM_nil hM] at h
 exact h.arg all2_nil
theorem c_Inv {M : List (List Qi)} {n L : Nat} (hM : Shp M n n) (hf : FitM M L) (hL : 1 ≤ L) (h1 : 1 ≤ n) (hn : n ≤ 32) (hg : 6 * grow L n + 4 ≤ 17592186044415) (hx : xgr (grow L n) (n + 1) ≤ 17592186044415) : Fun Tryz.prog 197 [NumM M] (TupT [NumM (okL (invE M n) (invX M n)), IntT .i64 (invE M n)]) := by
 have hMl := hM.1
 refine Fun.intro Tryz.func197 rfl Tryz.ntmps197 rfl (fun cx => (ts (ro rfl (cX cW) (ro rfl (cX (cV 0)) (eZ (cU (ts (rm rfl (ro rfl (cJ Tryz.call239 (c_square hM h1 hn) ⟨(Ht rfl), trivial⟩) (ro rfl (op_not (Ht rfl)) (eZ (T_condF (Ht rfl) (by rfl) ?_))))))))))))
 refine cY (ts (rm rfl (R_call0 Tryz.call240 (c_copied0 hM (by omega) (by omega)) ⟨(Ht rfl), cW, trivial⟩ rfl (fun B14 _ => (ra rfl (eZ (cU (ts (rm rfl (ro rfl (dK U_28 (Ht rfl) (by rw [List.length_map, hMl])) ?_))))))))))
 refine ro rfl (cJ Tryz.call91 (c_Id (n := n) hn) ⟨(Ht rfl), trivial⟩) (ro rfl (dK U_28 (Ht rfl) len_map) (ro rfl (cZ (cV 0)) (eZ (eK ?_))))
 refine T_loop (fun (k : Nat) => k ≤ n ∧ ∀ i, i < k → slvE M (ek n i) n = 0) (fun (k : Nat) => n - k) (fun (k : Nat) => [(0, NumM M), (4, Is (.slice (some ⟨B14, 0, none⟩) n n)), (17, NumM (idM n)), (18, NT .i64 n), (19, NT .i64 k)]) (fun (k : Nat) => [matO B14 27 45 5 (FRow NumT (invP M n k 0))]) 0 ⟨Nat.zero_le _, fun i h => by omega⟩
  (aQ rfl (aQ rfl (aQ rfl (aZ rfl (nt_of (idM_shp n).1) (aQ rfl aX))))) (aU (matO_of (congrArg _ (invP_zero hM))) aY) (fun k ⟨hk, h0⟩ => ?_)
 refine ts (ro rfl (gZ (Ht rfl) (Ht rfl)) (eZ (cU (dX (Ht rfl) (fun hd0 => ?_) (fun hd0 => ?_)))))
 ·simp only [decide_eq_true_eq] at hd0
  have hel := ek_len hd0
  refine cY (cU (eK (ts (rm rfl (ro rfl (dJ U_28 Z_27 (Ht rfl) (Ht rfl) rfl (eQ (dY (d := []) (by rw [(idM_shp n).1]; exact hd0)))) ?_)))))
  refine ro rfl (dV A_27 Z_27 (Ht rfl)) (ra rfl (ra rfl (eZ (ts (rm rfl (rm rfl (ro rfl (cJ Tryz.call177 (c_Solve (M := M) (b := ek n k) (n := n) (L := L) hM hel hf (ek_fit hL) hL h1 hn hg hx) ⟨(Ht rfl), (Ht rfl), trivial⟩) (rm rfl (ro rfl (dU (Ht rfl) rfl) (ro rfl (dU (Ht rfl) rfl) (ra rfl (ra rfl (eZ (cU (ts (rm rfl (ro rfl (op_neq (Ht rfl) cW) (eZ (dX (Ht rfl) (fun he => ?_) (fun he => ?_))))))))))))))))))))
  ·have he2 : ¬ slvE M (ek n k) n = 0 := by simpa using he
   have hi := invE_at h0 hd0 he2
   refine ts (rm rfl (ro rfl (cX cW) (ra rfl (eZ (T_ret2 rfl (fZ (eY rfl) ?_) (fZ (eY rfl) ?_))))))
   ·exact (fun v V h => by rw [hi, okL, if_neg he2]; exact nil_slT v V h)
   ·exact (int_of hi.symm)
  ·have he2 : slvE M (ek n k) n = 0 := by simpa using he
   have hxl : (slvX M (ek n k) n).length = n := bkS_len _ _ _
   refine T_sub (E' := [(0, _), (4, _), (5, _), (7, _), (17, _), (18, _), (19, _)]) (aQ rfl (aQ rfl (aQ rfl (aZ rfl (slT_of (Us := (slvX M (ek n k) n).map NumT) (by rw [he2]; rfl)) (aQ rfl (aQ rfl (aQ rfl aX))))))) ?_
   refine cY (ts (rm rfl (ro rfl (dK U_27 (Ht rfl) len_map) (ro rfl (cZ (cV 0)) (eZ (eK ?_))))))
   refine T_loop (fun (i : Nat) => i ≤ n) (fun (i : Nat) => n - i) (fun (i : Nat) => [(0, NumM M), (4, Is (.slice (some ⟨B14, 0, none⟩) n n)), (5, NT .i64 k), (7, NumsT (slvX M (ek n k) n)), (17, NumM (idM n)), (18, NT .i64 n), (19, NT .i64 k), (34, NT .i64 n), (35, NT .i64 i)]) (fun (i : Nat) => [matO B14 27 45 5 (FRow NumT (invP M n k i))]) 0 (Nat.zero_le _)
    (aQ rfl (aQ rfl (aQ rfl (aQ rfl (aQ rfl (aQ rfl (aQ rfl (aZ rfl (nt_of hxl) (aQ rfl aX))))))))) (HSub.refl _) (fun i hi => ?_)
   refine ts (ro rfl (gZ (Ht rfl) (Ht rfl)) (eZ (cU (dX (Ht rfl) (fun hf2 => ?_) (fun hf2 => ?_)))))
   ·simp only [decide_eq_true_eq] at hf2
    have hpl := (invP_shp M n k i).1
    have hpr : ((invP M n k i).getD i []).length = n := (invP_shp M n k i).row hf2
    refine T_focus 0 (i) rfl (frow_get (by omega)) (fun v => (cY (cU (eK (ts (rm rfl (ra rfl (eZ (fJ (m := 9) (dp 4 rfl (cZ (Ht rfl)) (dp 9 rfl (cZ (Ht rfl)) (dqq 38 0 39 1 rfl (gQ U_28 Z_27 (Ht rfl) (Ht rfl) rfl (by omega) (by rw [Nat.mul_one, Nat.zero_add])) ?_))))))))))))
    refine dq 40 2 rfl (op_ldH A_27 Z_27 (Ht rfl) (j := 0) rfl) (dp 5 rfl (cZ (Ht rfl)) (dp 7 rfl (cZ (Ht rfl)) (dp 9 rfl (cZ (Ht rfl)) (dqq 43 5 44 6 rfl (dJ U_27 Z_45 (Ht rfl) (Ht rfl) rfl (eQ (dY (d := Qi.zero) (by omega)))) (dq 45 7 rfl (dV A_45 Z_45 (Ht rfl)) (fW mixed rfl (by kernel_rfl) (aJ (aJ (aJ (aJ (aJ (aJ (aJ (aJ (aJ (aV (ro rfl (op_idxO U_27 Z_45 (Ht rfl) (Ht rfl) rfl (i := 1) rfl (by rw [List.length_map]; omega) rfl) ?_)))))))))))))))))
    refine R_stO Z_45 (Ht rfl) (Ht rfl) (El.ag rfl) (i := 1) rfl rfl (by rw [List.length_map]; omega) rfl ?_
    refine eZ (T_blk (T_unfocus 0 1 rfl rfl (by decide) (by simp only [FRow, List.length_map]; omega) ?_))
    refine dQ (ro rfl (dW (Ht rfl) (cV 1) (by show _ < 9223372036854775808; first | omega | (simp only [lim]; omega))) (rm rfl (eZ (T_keep [0] rfl (by decide) (fY (i + 1) hf2 (by omega) (aQ rfl (aQ rfl (aQ rfl (aQ rfl (aQ rfl (aQ rfl (aQ rfl (aQ rfl (aQ rfl aX))))))))) (aU (matO_of (by rw [set_mapF, set_FRow, invP_next hf2 hd0])) aY))))))
   ·simp only [decide_eq_false_iff_not] at hf2
    obtain rfl : n = i := Nat.le_antisymm (by omega) hi
    refine gW rfl (T_blk (dQ (ro rfl (dW (Ht rfl) (cV 1) (by show _ < 9223372036854775808; first | omega | (simp only [lim]; omega))) (rm rfl (eZ ?_)))))
    refine fY (k + 1) ⟨hd0, fun j h => by
     by_cases e : j = k
     ·rw [e]; exact he2
     ·exact h0 j (by omega)⟩ (by omega) (aQ rfl (aQ rfl (aQ rfl (aQ rfl (aQ rfl aX))))) (aU (matO_of (by rw [invP_col])) aY)
 ·simp only [decide_eq_false_iff_not] at hd0
  obtain rfl : n = k := Nat.le_antisymm (by omega) hk
  have hi := invE_zero h0
  refine gV (i := 0) (tt := 4) rfl rfl (frz_matF (s := 5) (M := invP M n n 0) (invP_shp M n n 0).1.symm) (gW rfl (ts (rm rfl (ra rfl (ro rfl (cX (cV 0)) (eZ (T_ret2 rfl (fZ (eY rfl) ?_) (fZ (eY rfl) ?_))))))))
  ·exact (slT_of (by rw [hi, invP_fin]; rfl))
  ·exact (int_of hi.symm)
theorem c_sum1 {m : Bool} {a b : List (List Qi)} {n i j L M : Nat} (ha : Shp a n n) (hb : Shp b n n) (hfa : FitM a L) (hfb : FitM b M) (h1 : 1 ≤ L) (h2 : 1 ≤ M) (hg : L + M + 1 ≤ 17592186044415) (hi : i < n) (hj : j < n) : Fun Tryz.prog 198 [NT .i64 i, NT .i64 j, PT (BoolT m), PT (NumM a), PT (NumM b)] (NumT (if m = true then gm a i j - gm b i j else gm a i j + gm b i j)) := by
 have hal := ha.1
 have hbl := hb.1
 have har := ha.row hi
 have hbr := hb.row hi
 haveI f1 : FitC (gm a i j) L := hfa.get h1 i j
 haveI f2 : FitC (gm b i j) M := hfb.get h2 i j
 refine Fun.intro Tryz.func198 rfl Tryz.ntmps198 rfl (fun cx => (ts (rn rfl (eG (Ts := [Is (.bool false), Is (.slice none 0 0), Is (.bool false), Is (.slice none 0 0), Is (.slice none 0 0)]) O_45 rfl (fun V => aW ⟨rfl, trivial⟩ (aW ⟨rfl, trivial⟩ (aW ⟨rfl, trivial⟩ (aW ⟨rfl, trivial⟩ (aW ⟨rfl, trivial⟩ (aG))))))) fun B7 => (eZ (cU (ts (ro rfl (dV A_4 Z_4 (Ht rfl)) (eZ (dX (Ht rfl) (fun hm => ?_) (fun hm => ?_))))))))))
 ·refine cU (fJ (m := 15) (dp 3 rfl (dV A_28 Z_28 (Ht rfl)) (dp 0 rfl (cZ (Ht rfl)) (dqq 9 0 10 1 rfl (dJ U_28 Z_27 (Ht rfl) (Ht rfl) rfl (eQ (dY (d := []) (by omega)))) (dq 11 2 rfl (dV A_27 Z_27 (Ht rfl)) (dp 1 rfl (cZ (Ht rfl)) (dqq 12 3 13 4 rfl (dJ U_27 Z_45 (Ht rfl) (Ht rfl) rfl (eQ (dY (d := Qi.zero) (by omega)))) (dq 14 5 rfl (dV A_45 Z_45 (Ht rfl)) (dq 15 6 rfl (op_iface mkif_45 (Ht rfl)) (dp 4 rfl (dV A_28 Z_28 (Ht rfl)) ?_))))))))))
  refine dp 0 rfl (cZ (Ht rfl)) (dqq 17 8 18 9 rfl (dJ U_28 Z_27 (Ht rfl) (Ht rfl) rfl (eQ (dY (d := []) (by omega)))) (dq 19 10 rfl (dV A_27 Z_27 (Ht rfl)) (dp 1 rfl (cZ (Ht rfl)) (dqq 20 11 21 12 rfl (dJ U_27 Z_45 (Ht rfl) (Ht rfl) rfl (eQ (dY (d := Qi.zero) (by omega)))) (dq 22 13 rfl (dV A_45 Z_45 (Ht rfl)) (fW mixed rfl (by kernel_rfl) (aJ (aJ (aJ (aJ (aJ (aJ (aJ (aJ (aJ (aJ (aJ (aJ (aJ (aJ (aJ (aV ?_))))))))))))))))))))))
  refine ro rfl (op_invoke meth_45_Sub Tryz.call66 (c_Sub (x := gm a i j) (y := gm b i j) (L := L) (M := M) hg) (Ht rfl) ⟨(Ht rfl), trivial⟩) (gX Z_45 (Ht rfl) (Ht rfl) rfl (i := 0) rfl (aK rfl) rfl rfl (eZ (fG rfl (fZ (fU A_45 Z_45 rfl (i := 0) rfl rfl) ?_))))
  exact (num_of (by rw [if_pos hm]))
 ·refine cY (cU (fJ (m := 15) (dp 3 rfl (dV A_28 Z_28 (Ht rfl)) (dp 0 rfl (cZ (Ht rfl)) (dqq 25 0 26 1 rfl (dJ U_28 Z_27 (Ht rfl) (Ht rfl) rfl (eQ (dY (d := []) (by omega)))) (dq 27 2 rfl (dV A_27 Z_27 (Ht rfl)) (dp 1 rfl (cZ (Ht rfl)) (dqq 28 3 29 4 rfl (dJ U_27 Z_45 (Ht rfl) (Ht rfl) rfl (eQ (dY (d := Qi.zero) (by omega)))) (dq 30 5 rfl (dV A_45 Z_45 (Ht rfl)) (dq 31 6 rfl (op_iface mkif_45 (Ht rfl)) (dp 4 rfl (dV A_28 Z_28 (Ht rfl)) ?_)))))))))))
  refine dp 0 rfl (cZ (Ht rfl)) (dqq 33 8 34 9 rfl (dJ U_28 Z_27 (Ht rfl) (Ht rfl) rfl (eQ (dY (d := []) (by omega)))) (dq 35 10 rfl (dV A_27 Z_27 (Ht rfl)) (dp 1 rfl (cZ (Ht rfl)) (dqq 36 11 37 12 rfl (dJ U_27 Z_45 (Ht rfl) (Ht rfl) rfl (eQ (dY (d := Qi.zero) (by omega)))) (dq 38 13 rfl (dV A_45 Z_45 (Ht rfl)) (fW mixed rfl (by kernel_rfl) (aJ (aJ (aJ (aJ (aJ (aJ (aJ (aJ (aJ (aJ (aJ (aJ (aJ (aJ (aJ (aV ?_))))))))))))))))))))))
  refine ro rfl (op_invoke meth_45_Add Tryz.call68 (c_Add (x := gm a i j) (y := gm b i j) (L := L) (M := M) hg) (Ht rfl) ⟨(Ht rfl), trivial⟩) (gX Z_45 (Ht rfl) (Ht rfl) rfl (i := 0) rfl (aK rfl) rfl rfl (eZ (fG rfl (fZ (fU A_45 Z_45 rfl (i := 0) rfl rfl) ?_))))
  exact (num_of (by rw [if_neg (by rw [hm]; decide)]))
theorem c_sum {m : Bool} {a b : List (List Qi)} {n L M : Nat} (ha : Shp a n n) (hb : Shp b n n) (hfa : FitM a L) (hfb : FitM b M) (h1 : 1 ≤ L) (h2 : 1 ≤ M) (hg : L + M + 1 ≤ 17592186044415) (hn : n ≤ 1000) : Fun Tryz.prog 93 [NumM a, NumM b, BoolT m] (NumM (pmM m a b n)) := by
 have hal := ha.1
 refine Fun.intro Tryz.func93 rfl Tryz.ntmps93 rfl (fun cx => (ts (rn rfl (new_box1 (Ht rfl)) fun B3 => (rn rfl (new_box1 (Ht rfl)) fun B4 => (rn rfl (new_box1 (Ht rfl)) fun B5 => (ro rfl (cX cW) (eZ (cU (gV (i := 0) (tt := 3) rfl rfl frz_ptr1 (gV (i := 1) (tt := 4) rfl rfl frz_ptr1 (gV (i := 2) (tt := 5) rfl rfl frz_ptr1 (dQ (ro rfl (dV A_28 Z_28 (Ht rfl)) (ro rfl (dK U_28 (Ht rfl) (by rw [List.length_map, hal])) ?_))))))))))))))
 refine ro rfl (op_clos (γ := Fin n × Fin n) (Ts := fun x => [NT .i64 x.1.1, NT .i64 x.2.1]) (U := fun x => NumT (if m = true then gm a x.1.1 x.2.1 - gm b x.1.1 x.2.1 else gm a x.1.1 x.2.1 + gm b x.1.1 x.2.1)) Tryz.call198 (fun x => c_sum1 ha hb hfa hfb h1 h2 hg x.1.2 x.2.2) ⟨(Ht rfl), (Ht rfl), (Ht rfl), trivial⟩) (ro rfl (cJ Tryz.call119 (c_fill (n := n) (f := fun i j => if m = true then gm a i j - gm b i j else gm a i j + gm b i j) hn) ⟨(Ht rfl), (Ht rfl), trivial⟩) (ra rfl (eZ ?_)))
 exact fG rfl (eY rfl)
theorem c_overE {Y M : List (List Qi)} {n L : Nat} (hM : Shp M n n) (hf : FitM M L) (hL : 1 ≤ L) (h1 : 1 ≤ n) (hn : n ≤ 32) (hg : 6 * grow L n + 4 ≤ 17592186044415) (hx : xgr (grow L n) (n + 1) ≤ 17592186044415) (hE : invE M n ≠ 0) : Fun Tryz.prog 92 [NumM Y, NumM M] (TupT [NumM [], IntT .i64 5]) := by
 refine Fun.intro Tryz.func92 rfl Tryz.ntmps92 rfl (fun cx => (ts (ro rfl (cX cW) (ro rfl (cX (cV 0)) (eZ (ts (rm rfl (ro rfl (cJ Tryz.call197 (c_Inv hM hf hL h1 hn hg hx) ⟨(Ht rfl), trivial⟩) (rm rfl (ro rfl (dU (Ht rfl) rfl) (ro rfl (dU (Ht rfl) rfl) (ra rfl (ra rfl (eZ (cU (ts (rm rfl (ro rfl (op_neq (Ht rfl) cW) (eZ (T_condT (Ht rfl) (by simp [hE]) ?_))))))))))))))))))))
 refine ts (ro rfl (cX cW) (ro rfl (cX (cV 5)) (eZ (T_ret2 rfl (fZ (eY rfl) ?_) (eY rfl)))))
 exact (fun v V h => nil_slT v V h)
theorem c_ImpE {z : List Qi} {s : List (List Qi)} {L : Nat} (hs : Shp s z.length z.length) (hf : FitM s L) (hL : 1 ≤ L) (h1 : 1 ≤ z.length) (hn : z.length ≤ 8) (hg : 6 * grow (L + 2) z.length + 4 ≤ 17592186044415) (hx : xgr (grow (L + 2) z.length) (z.length + 1) ≤ 17592186044415) (hE : invE (pmM true (idM z.length) s z.length) z.length ≠ 0) : Fun Tryz.prog 17 [NetT z s] (TupT [NumM [], IntT .i64 5]) := by
 have hgl := grow_le (L + 2) z.length
 have hid := idM_shp z.length
 have hif : FitM (idM z.length) 1 := idM_fit (Nat.le_refl 1)
 have hpf : FitM (pmM true (idM z.length) s z.length) (L + 2) := by have h := pmM_fit (m := true) (n := z.length) hif hf (Nat.le_refl 1) hL; rw [show L + 2 = 1 + L + 1 by omega]; exact h
 refine Fun.intro Tryz.func17 rfl Tryz.ntmps17 rfl (fun cx => (ts (rn rfl (fK (Ht rfl)) fun B1 => (ro rfl (cX cW) (ro rfl (cX (cV 0)) (eZ (ts (ro rfl (eJ fa_30_0 (Ht rfl) rfl) (ro rfl (fQ A_27 Z_27 (Ht rfl) (i := 0) rfl rfl) (ro rfl (dK U_27 (Ht rfl) len_map) (ro rfl (cJ Tryz.call91 (c_Id (n := z.length) (by omega)) ⟨(Ht rfl), trivial⟩) (ra rfl (eZ (cU (fJ (m := 13) (dp 4 rfl (cZ (Ht rfl)) (dp 1 rfl (eJ fa_30_1 (Ht rfl) rfl) (dq 13 1 rfl (fQ A_28 Z_28 (Ht rfl) (i := 0) rfl rfl) ?_))))))))))))))))))
 refine dqq 12 0 14 2 rfl (cJ Tryz.call93 (c_sum (m := false) (n := z.length) (L := 1) (M := L) hid hs hif hf (Nat.le_refl 1) hL (by omega) (by omega)) ⟨(Ht rfl), (Ht rfl), cW, trivial⟩) (dp 4 rfl (cZ (Ht rfl)) (dp 1 rfl (eJ fa_30_1 (Ht rfl) rfl) (dq 17 5 rfl (fQ A_28 Z_28 (Ht rfl) (i := 0) rfl rfl) (dqq 16 4 18 6 rfl (cJ Tryz.call93 (c_sum (m := true) (n := z.length) (L := 1) (M := L) hid hs hif hf (Nat.le_refl 1) hL (by omega) (by omega)) ⟨(Ht rfl), (Ht rfl), cW, trivial⟩) (dqq 15 3 19 7 rfl (cJ Tryz.call92 (c_overE (n := z.length) (L := L + 2) pmM_shp hpf (by omega) h1 (by omega) hg hx hE) ⟨(Ht rfl), (Ht rfl), trivial⟩) ?_)))))
 refine dq 20 8 rfl (cZ (Ht rfl)) (dq 11 9 rfl (dU (Ht rfl) rfl) (dq 11 9 rfl (dU (Ht rfl) rfl) (dq 21 10 rfl (cX (Ht rfl)) (fW mixed rfl (by kernel_rfl) (aJ (aJ (aJ (aJ (aJ (aJ (aJ (aJ (aJ (aJ (aJ (aJ (aJ (aV (ra rfl (eZ (cU (ts (rm rfl (ro rfl (op_neq (Ht rfl) cW) (eZ (T_condT (Ht rfl) (by rfl) ?_))))))))))))))))))))))))))
 refine ts (rm rfl (ro rfl (cX cW) (ra rfl (eZ (T_ret2 rfl (fZ (eY rfl) ?_) (eY rfl))))))
 exact (fun v V h => nil_slT v V h)
end
section
open Go Go.RowKit
section
variable {P : Program} {R : Post} {cx : Cx} {n : Nat} {k : List It} {E : Env} {H : Hp}
theorem T_frzcellG (i l off : Nat) {B : Nat} {BT : TypeId} {Us : List Ty} {v : Value} {A : SA} {T : Ty} (hB : H[i]? = some (box B BT Us)) (hU : Us[off]? = some (Is v)) (hL : H[l]? = some A) (hne : i ≠ l) (hT : ∀ S V, A.h S V V → T.p v V)
  (h : Tr P R cx n k E ((H.set l SA.emp).set i (box B BT (Us.set off T)))) : Tr P R cx n k E H := fun a w ⟨V, hi, hs⟩ => by
 obtain ⟨V', S, hle, hi', hA⟩ := hi.freeze hL
 have hT := hT S V' hA
 refine h a w ⟨V', hi'.withHH ?_, hs.mono hle⟩
 obtain ⟨F, h1, h2⟩ := hi'.hp
 have hB' : (H.set l SA.emp)[i]? = some (box B BT Us) := by rw [List.getElem?_set_ne (Ne.symm hne)]; exact hB
 have hil := (List.getElem?_eq_some_iff.1 hB').1
 refine ⟨F, fun q A hq => ?_, fun q r b hq hr => h2 q r b (by simpa using hq) (by simpa using hr)⟩
 by_cases c : i = q
 ·subst c
  rw [List.getElem?_set_self hil] at hq
  obtain rfl := Option.some.inj hq
  obtain ⟨⟨k1, cs, k2, k3⟩, k4⟩ := h1 i _ hB'
  obtain ⟨u, u1, u2⟩ := k3.get hU
  obtain rfl : u = v := u2
  have hset : cs.set off u = cs := by
   apply List.ext_getElem?
   intro j
   by_cases cj : off = j
   ·subst cj; rw [List.getElem?_set_self (List.getElem?_eq_some_iff.1 u1).1, u1]
   ·rw [List.getElem?_set_ne cj]
  refine ⟨⟨k1, cs, k2, ?_⟩, k4⟩
  have := k3.set off (v := u) hT (k3.pl u (List.mem_of_getElem? u1))
  rwa [hset] at this
 ·rw [List.getElem?_set_ne c] at hq
  exact h1 q A hq
theorem frzM {B e l : Nat} {BT : TypeId} {F : Qi → Ty} {q : Value → Prop} {M : List (List Qi)} (hl : l = M.length) : ∀ S V, (matP q B BT e 5 (FRow F M)).h S V V → (SlT 1 (M.map fun r => SlT 5 (r.map F))).p (.slice (some ⟨B, 0, none⟩) l l) V := fun S V h =>
 frz_matF (s := 5) (M := M) hl _ S V rfl h
end
def skp (p i : Nat) : Nat := if i < p then i else i + 1
abbrev IntsT (l : List Nat) : Ty := SlT 1 (l.map (NT .i64))
def lftL (p n : Nat) : List Nat := tab n fun j => skp p j + 1
def cnt (p i : Nat) : Nat := if i ≤ p then i else i - 1
theorem cnt_fin {p n : Nat} (h : p < n) : cnt p n = n - 1 := by unfold cnt; split <;> omega
theorem skp_lt {p i n : Nat} (h : i < n - 1) (hp : p < n) : skp p i < n := by unfold skp; split <;> omega
theorem lft_get {p n j : Nat} (h : j < n) : (lftL p n)[j]? = some (skp p j + 1) := tab_get h
def prtZ (z : List Qi) (p m : Nat) : List Qi := tab m fun i => gv z (skp p i)
def prtS (s : List (List Qi)) (p m : Nat) : List (List Qi) := tab m fun i => tab m fun j => gm s (skp p i) (skp p j)
def trmX (s : List (List Qi)) (p : Nat) (f : Qi) (i j : Nat) : Qi := gm s (skp p i) (skp p j) + gm s (skp p i) p * (f * gm s p (skp p j))
def trmS (s : List (List Qi)) (p m : Nat) (f : Qi) : List (List Qi) := tab m fun i => tab m fun j => trmX s p f i j
def trmF (s : List (List Qi)) (p : Nat) (g : Qi) : Qi := g / (Qi.ofInt 1 - gm s p p * g)
def trmE (z : List Qi) (s : List (List Qi)) (port : Int) (g : Qi) : Int :=
 if ¬ (1 ≤ port ∧ port ≤ z.length) then 1 else if z.length = 1 then 4 else if Qi.ofInt 1 - gm s (port - 1).toNat (port - 1).toNat * g = Qi.zero then 6 else 0
def trmRZ (z : List Qi) (s : List (List Qi)) (port : Int) (g : Qi) : List Qi := okL (trmE z s port g) (prtZ z (port - 1).toNat (z.length - 1))
def trmRS (z : List Qi) (s : List (List Qi)) (port : Int) (g : Qi) : List (List Qi) := okL (trmE z s port g) (trmS s (port - 1).toNat (z.length - 1) (trmF s (port - 1).toNat g))
theorem trm_bad {z : List Qi} {s : List (List Qi)} {port : Int} {g : Qi} {e : Int} (h : trmE z s port g = e) (he : e ≠ 0) : ∀ v V, (NetT [] []).p v V → (NetT (trmRZ z s port g) (trmRS z s port g)).p v V := by
 rw [trmRZ, trmRS, okL, okL, h, if_neg he, if_neg he]; exact fun _ _ k => k
theorem trm_p (p : Nat) : ((p : Int) + 1 - 1).toNat = p := by omega
theorem trm_good {z : List Qi} {s : List (List Qi)} {p : Nat} {g : Qi} (h : trmE z s ((p : Int) + 1) g = 0) : ∀ v V, (NetT (prtZ z p (z.length - 1)) (trmS s p (z.length - 1) (trmF s p g))).p v V → (NetT (trmRZ z s ((p : Int) + 1) g) (trmRS z s ((p : Int) + 1) g)).p v V := by
 rw [trmRZ, trmRS, okL, okL, h, if_pos rfl, if_pos rfl, trm_p]; exact fun _ _ k => k
theorem trmE_1 {z : List Qi} {s : List (List Qi)} {port : Int} {g : Qi} (h : ¬ (1 ≤ port ∧ port ≤ z.length)) : trmE z s port g = 1 := by rw [trmE, if_pos h]
theorem trmE_4 {z : List Qi} {s : List (List Qi)} {port : Int} {g : Qi} (h : 1 ≤ port ∧ port ≤ z.length) (h1 : z.length = 1) : trmE z s port g = 4 := by rw [trmE, if_neg (fun k => k h), if_pos h1]
theorem trmE_d {z : List Qi} {s : List (List Qi)} {p : Nat} {g : Qi} (h : p < z.length) (h1 : ¬ z.length = 1) : trmE z s ((p : Int) + 1) g = if Qi.ofInt 1 - gm s p p * g = Qi.zero then 6 else 0 := by
 rw [trmE, if_neg (fun k => k (by omega)), if_neg h1, trm_p]
theorem trmF_fit {s : List (List Qi)} {p L : Nat} {g : Qi} (hs : FitM s L) (hg : FitC g L) (hL : 1 ≤ L) (hd : Qi.ofInt 1 - gm s p p * g ≠ Qi.zero) : FitC (trmF s p g) (7 * L + 11) := by
 haveI f0 := fit_one
 haveI f1 := hs.get hL p p
 haveI f2 := hg
 have f3 : FitC (Qi.ofInt 1 - gm s p p * g) (1 + (L + L + 1) + 1) := @fitSub _ _ _ _ f0 inferInstance
 have : FitC (trmF s p g) (L + 3 * (1 + (L + L + 1) + 1) + 2) := ⟨f2.fit.div f3.fit hd⟩
 exact this.le (by omega)
end
section
open Go Go.RowKit
abbrev gnI (G : List Nat) : List Int := G.map fun (q : Nat) => (q : Int) + 1
def lfG (G : List Nat) : Nat → List Nat
 | 0 => []
 | k + 1 => lfG G k ++ (if k ∈ G then [] else [k])
theorem lfG_len (G : List Nat) : ∀ k, (lfG G k).length ≤ k
 | 0 => Nat.le_refl _
 | k + 1 => by
  have := lfG_len G k
  simp only [lfG, List.length_append]
  split
  ·simp; omega
  ·simp; omega
theorem lfG_lt {G : List Nat} : ∀ {k x : Nat}, x ∈ lfG G k → x < k
 | 0, x, h => by cases h
 | k + 1, x, h => by
  rcases List.mem_append.1 h with h1 | h1
  ·have := lfG_lt h1; omega
  ·split at h1
   ·cases h1
   ·have := List.mem_singleton.1 h1; omega
theorem lfG_one {p : Nat} : ∀ {k : Nat}, lfG [p] k = tab (cnt p k) (skp p)
 | 0 => by rw [lfG, show cnt p 0 = 0 by unfold cnt; split <;> omega]; rfl
 | k + 1 => by
  rw [lfG, lfG_one]
  by_cases c : k = p
  ·subst c
   rw [if_pos (by simp), List.append_nil, show cnt k (k + 1) = cnt k k by unfold cnt; split <;> split <;> omega]
  ·rw [if_neg (by simpa using c)]
   have e1 : skp p (cnt p k) = k := by unfold skp cnt; split <;> split <;> omega
   have e2 : cnt p (k + 1) = cnt p k + 1 := by unfold cnt; split <;> split <;> omega
   rw [e2, tab_succ, e1]
theorem lfG_lft {p n : Nat} (h : p < n) : (lfG [p] n).map Nat.succ = lftL p (n - 1) := by rw [lfG_one, cnt_fin h, tab_map]; rfl
theorem gn_any {G : List Nat} {i : Nat} : ((gnI G).any fun x => decide (((i + 1 : Nat) : Int) = x)) = decide (i ∈ G) := by
 rw [Bool.eq_iff_iff]
 simp only [gnI, List.any_map, List.any_eq_true, Function.comp, decide_eq_true_eq]
 constructor
 ·rintro ⟨q, h1, h2⟩
  obtain rfl : i = q := by omega
  exact h1
 ·intro h; exact ⟨i, h, by omega⟩
abbrev qat (Q : List Nat) (i : Nat) : Nat := Q.getD i 0
def subZ (z : List Qi) (Q : List Nat) : List Qi := tab Q.length fun i => gv z (qat Q i)
def subM (s : List (List Qi)) (Q : List Nat) : List (List Qi) := tab Q.length fun i => tab Q.length fun j => gm s (qat Q i) (qat Q j)
theorem qat_lt {Q : List Nat} {n i : Nat} (h : ∀ x, x ∈ Q → x < n) (hi : i < Q.length) : qat Q i < n := h _ (by rw [show qat Q i = Q[i] by simp [qat, List.getD, hi]]; exact List.getElem_mem hi)
theorem suc_get {Q : List Nat} {i : Nat} (h : i < Q.length) : (Q.map Nat.succ)[i]? = some (qat Q i + 1) := by simp [qat, List.getD, h]
theorem tabQ_get {m i : Nat} {p : Nat} (h : i < m) : qat (tab m (skp p)) i = skp p i := tab_getD h
theorem subZ_skp (z : List Qi) (p m : Nat) : subZ z (tab m (skp p)) = prtZ z p m := by
 rw [subZ, tab_len]; exact tab_congr fun i hi => by rw [tabQ_get hi]
theorem subM_skp (s : List (List Qi)) (p m : Nat) : subM s (tab m (skp p)) = prtS s p m := by
 rw [subM, tab_len]; exact tab_congr fun i hi => tab_congr fun j hj => by rw [tabQ_get hi, tabQ_get hj]
theorem skp_all {p m n : Nat} (hp : p < n) (hm : m = n - 1) : ∀ x, x ∈ tab m (skp p) → x < n := fun x hx => by
 obtain ⟨i, hi, rfl⟩ := tab_mem.1 hx; exact skp_lt (by omega) hp
theorem lft_skp (p m : Nat) : (tab m (skp p)).map Nat.succ = lftL p m := by rw [tab_map]; rfl
end
section
open Go Go.RowKit
theorem info_3 : Tryz.prog.info? 3 = some Tryz.t3 := by kernel_rfl
theorem und_69 : Tryz.prog.underlying 69 = some (.slice 3) := by kernel_rfl
end
section
open Go Go.RowKit
theorem c_IndexInt {l : List Int} {v : Int} (hl : l.length ≤ 1000000) : Fun Tryz.prog 242 [SlT 1 (l.map (IntT .i64)), IntT .i64 v] (IntT .i64 (idxZ (fun x => decide (v = x)) l)) := by
 refine Fun.intro Tryz.func242 rfl Tryz.ntmps242 rfl (fun cx => (ts (ro rfl (cX (cV 0)) (eZ (cU (ts (rm rfl (ro rfl (dK U_69 (Ht rfl) len_map) (ro rfl (cZ (cV 0)) (eZ (eK ?_)))))))))))
 refine T_loop (fun (k : Nat) => k ≤ l.length ∧ ∀ (i : Nat) (x : Int), i < k → l[i]? = some x → decide (v = x) = false) (fun (k : Nat) => l.length - k) (fun (k : Nat) => [(0, SlT 1 (l.map (IntT .i64))), (1, IntT .i64 v), (7, NT .i64 l.length), (8, NT .i64 k)]) (fun (k : Nat) => []) 0 ⟨Nat.zero_le _, fun i x h => by omega⟩
  (aQ rfl (aQ rfl (aQ rfl (aQ rfl aX)))) aY (fun k ⟨hk, hn⟩ => ?_)
 refine ts (ro rfl (gZ (Ht rfl) (Ht rfl)) (eZ (cU (dX (Ht rfl) (fun hb => ?_) (fun hb => ?_)))))
 ·simp only [decide_eq_true_eq] at hb
  refine cY (cU (eK (ts (rm rfl (ra rfl (eZ (ts (rm rfl (rm rfl (rm rfl (ro rfl (dJ U_69 Z_3 (Ht rfl) (Ht rfl) rfl (eQ (getq hb))) (ro rfl (dV A_3 Z_3 (Ht rfl)) (ro rfl (op_eql (Ht rfl) (Ht rfl)) (eZ (dX (Ht rfl) (fun hc => ?_) (fun hc => ?_))))))))))))))))
  ·refine ts (rm rfl (ra rfl (eZ (fG rfl (fZ (eY rfl) ?_)))))
   exact (int_of (idxZ_at (p := fun x => decide (v = x)) (getq hb) hc hn).symm)
  ·refine cY (T_blk (dQ (ro rfl (dW (Ht rfl) (cV 1) (by show _ < 9223372036854775808; first | omega | (simp only [lim]; omega))) (rm rfl (eZ ?_)))))
   refine fY (k + 1) ⟨hb, fun i x h1 h2 => by
    by_cases e : i = k
    ·subst e; rw [getq hb] at h2; obtain rfl := Option.some.inj h2; exact hc
    ·exact hn i x (by omega) h2⟩ (by omega) (aQ rfl (aQ rfl (aQ rfl (aQ rfl aX)))) aY
 ·simp only [decide_eq_false_iff_not] at hb
  refine gW rfl (ts (ro rfl (cX cW) (eZ (fG rfl (fZ (eY rfl) ?_)))))
  exact (int_of (idxZ_none (p := fun x => decide (v = x)) (fun i x h => hn i x (by have := (List.getElem?_eq_some_iff.1 h).1; omega) h)).symm)
theorem c_ContainsInt {l : List Int} {v : Int} (hl : l.length ≤ 1000000) : Fun Tryz.prog 178 [SlT 1 (l.map (IntT .i64)), IntT .i64 v] (BoolT (l.any fun x => decide (v = x))) := by
 refine Fun.intro Tryz.func178 rfl Tryz.ntmps178 rfl (fun cx => (ts (ro rfl (cX cW) (eZ (ts (rm rfl (rm rfl (ro rfl (cJ Tryz.call242 (c_IndexInt (by omega)) ⟨(Ht rfl), (Ht rfl), trivial⟩) (ro rfl (op_geq (Ht rfl) cW) (ra rfl (eZ (fG rfl (fZ (eY rfl) ?_)))))))))))))
 exact (bool_of (idxZ_any _ l))
theorem c_leftG {z : List Qi} {s : List (List Qi)} {G : List Nat} (hl : z.length ≤ 1000) (hG : G.length ≤ 1000) : Fun Tryz.prog 112 [NetT z s, SlT 1 ((gnI G).map (IntT .i64))] (IntsT ((lfG G z.length).map Nat.succ)) := by
 refine Fun.intro Tryz.func112 rfl Tryz.ntmps112 rfl (fun cx => (ts (rn rfl (fK (Ht rfl)) fun B2 => (ro rfl (cX cW) (eZ (ts (ro rfl (cX cW) (eZ (cU (ts (ro rfl (cX (cV 1)) (eZ (eK (T_row 3 1 ?_))))))))))))))
 refine T_loop2 (fun (i : Nat) (v : Value) => i ≤ z.length) (fun (i : Nat) (v : Value) => z.length - i) (fun (i : Nat) (v : Value) => [(1, SlT 1 ((gnI G).map (IntT .i64))), (2, PtrB B2 0), (5, Is v), (6, NT .i64 (i + 1))]) (fun (i : Nat) (v : Value) => [box B2 30 [NumsT z, NumM s], rowO 3 1 v (((lfG G i).map Nat.succ).map (NT .i64))]) 0 (.slice none 0 0) (Nat.zero_le _)
  (aQ rfl (aQ rfl (aQ rfl (aQ rfl aX)))) (aU (box_of rfl) (aU (rowO_of rfl) aY)) (fun i v hi => ?_)
 refine cU (ts (rm rfl (ro rfl (eJ fa_30_0 (Ht rfl) rfl) (ro rfl (fQ A_27 Z_27 (Ht rfl) (i := 0) rfl rfl) (ro rfl (dK U_27 (Ht rfl) len_map) (ro rfl (op_leqN (Ht rfl) (Ht rfl)) (eZ (dX (Ht rfl) (fun hd => ?_) (fun hd => ?_)))))))))
 ·simp only [decide_eq_true_eq] at hd
  have hcl := lfG_len G i
  refine cY (cU (eK (T_join (fun (v2 : Value) => True) (fun (v2 : Value) => [(1, SlT 1 ((gnI G).map (IntT .i64))), (2, PtrB B2 0), (5, Is v2), (6, NT .i64 (i + 1))]) (fun (v2 : Value) => [box B2 30 [NumsT z, NumM s], rowO 3 1 v2 (((lfG G (i + 1)).map Nat.succ).map (NT .i64))]) ?_ (fun v2 _ => ?_))))
  ·refine ts (rm rfl (rm rfl (ro rfl (cJ Tryz.call178 (c_ContainsInt (l := gnI G) (v := ((i + 1 : Nat) : Int)) (by rw [List.length_map]; omega)) ⟨(Ht rfl), (Ht rfl), trivial⟩) ?_)))
   refine ro rfl (op_not (Ht rfl)) (eZ (dX (Ht rfl) (fun he => ?_) (fun he => ?_)))
   ·rw [gn_any] at he
    have he2 : i ∉ G := by simpa using he
    have hnx : lfG G (i + 1) = lfG G i ++ [i] := by rw [lfG, if_neg he2]
    refine dQ (rm rfl (rm rfl (ro rfl (op_bslice (xs := [.tmp 19]) U_69 Z_3 O_3 (cG (Ht rfl) cK) rfl rfl rfl) (R_append (inf := Tryz.t3) und_69 info_3 rfl rfl rfl (Ht rfl) (Ht rfl) (i := 1) rfl (by simp) (fun T hT => by simp at hT; subst hT; exact El.one) (by show _ * 8 ≤ _; simp only [List.length_map, List.length_cons, List.length_nil]; omega) (by simp only [List.length_map, List.length_cons, List.length_nil]; omega) rfl (fun v3 => ?_)))))
    refine ra rfl (eZ (T_joined v3 trivial (aQ rfl (aQ rfl (aQ rfl (aQ rfl aX)))) (aU (box_of rfl) (aU (rowO_of (by rw [hnx, List.map_append, List.map_append]; rfl)) aY))))
   ·rw [gn_any] at he
    have he2 : i ∈ G := by simpa using he
    have hnx : lfG G (i + 1) = lfG G i := by rw [lfG, if_pos he2, List.append_nil]
    refine cY (T_joined v trivial (aQ rfl (aQ rfl (aQ rfl (aQ rfl aX)))) (aU (box_of rfl) (aU (rowO_of (by rw [hnx])) aY)))
  ·refine T_blk (dQ (rm rfl (ro rfl (dW (Ht rfl) (cV 1) (by show _ < 9223372036854775808; first | omega | (simp only [lim]; omega))) (ra rfl (eZ (fY (i + 1, v2) hd (by dsimp only; omega) (aQ rfl (aQ rfl (aQ rfl (aQ rfl aX)))) (HSub.refl _)))))))
 ·simp only [decide_eq_false_iff_not] at hd
  obtain rfl : z.length = i := Nat.le_antisymm (by omega) hi
  refine gW rfl (gV (i := 1) (tt := 5) rfl rfl frz_row (ts (rm rfl (ra rfl (eZ ?_)))))
  exact fG rfl (eY rfl)
theorem c_left {z : List Qi} {s : List (List Qi)} {p : Nat} (hp : p < z.length) (hl : z.length ≤ 1000) : Fun Tryz.prog 112 [NetT z s, SlT 1 [IntT .i64 ((p : Int) + 1)]] (IntsT (lftL p (z.length - 1))) := by
 rw [← lfG_lft hp]; exact c_leftG (G := [p]) hl (by simp)
theorem c_part1 {z : List Qi} {s : List (List Qi)} {Q : List Nat} {m : Nat} (hs : Shp s z.length z.length) (hQ : ∀ x, x ∈ Q → x < z.length) (hm : Q.length = m) (hm2 : m ≤ 1000) (hl : z.length ≤ 1000) {i j : Nat} (hi : i < m) (hj : j < m) : Fun Tryz.prog 210 [NT .i64 i, NT .i64 j, PT (NetT z s), PT (IntsT (Q.map Nat.succ))] (NumT (gm s (qat Q i) (qat Q j))) := by
 have hki : qat Q i < z.length := qat_lt hQ (by omega)
 have hkj : qat Q j < z.length := qat_lt hQ (by omega)
 have hsl := hs.1
 have hsr := hs.row hki
 refine Fun.intro Tryz.func210 rfl Tryz.ntmps210 rfl (fun cx => (ts (rn rfl (eG (Ts := [Is (.bool false), Is (.slice none 0 0), Is (.bool false), Is (.slice none 0 0), Is (.slice none 0 0)]) O_45 rfl (fun V => aW ⟨rfl, trivial⟩ (aW ⟨rfl, trivial⟩ (aW ⟨rfl, trivial⟩ (aW ⟨rfl, trivial⟩ (aW ⟨rfl, trivial⟩ (aG))))))) fun B6 => (eZ (cU (fJ (m := 14) (dp 2 rfl (op_fld1 fa_30_1 (Ht rfl) rfl) (dq 7 0 rfl (dV A_28 Z_28 (Ht rfl)) (dp 3 rfl (dV A_69 Z_69 (Ht rfl)) (dp 0 rfl (cZ (Ht rfl)) ?_))))))))))
 refine dqq 9 2 10 3 rfl (dJ U_69 Z_3 (Ht rfl) (Ht rfl) rfl (eQ (suc_get (by omega)))) (dq 11 4 rfl (dV A_3 Z_3 (Ht rfl)) (dq 12 5 rfl (OpTy.nat (dG (Ht rfl) (cV 1) (by omega) (by show _ < 9223372036854775808; first | omega | (simp only [lim]; omega))) (show qat Q i + 1 - 1 = qat Q i by omega)) (dqq 8 1 13 6 rfl (dJ U_28 Z_27 (Ht rfl) (Ht rfl) rfl (eQ (dY (d := []) (by omega)))) (dq 14 7 rfl (dV A_27 Z_27 (Ht rfl)) (dp 3 rfl (dV A_69 Z_69 (Ht rfl)) ?_)))))
 refine dp 1 rfl (cZ (Ht rfl)) (dqq 16 9 17 10 rfl (dJ U_69 Z_3 (Ht rfl) (Ht rfl) rfl (eQ (suc_get (by omega)))) (dq 18 11 rfl (dV A_3 Z_3 (Ht rfl)) (dq 19 12 rfl (OpTy.nat (dG (Ht rfl) (cV 1) (by omega) (by show _ < 9223372036854775808; first | omega | (simp only [lim]; omega))) (show qat Q j + 1 - 1 = qat Q j by omega)) (fW mixed rfl (by kernel_rfl) (aJ (aJ (aJ (aJ (aJ (aJ (aJ (aJ (aJ (aJ (aJ (aJ (aJ (aJ (aV (ro rfl (dJ U_27 Z_45 (Ht rfl) (Ht rfl) rfl (eQ (dY (d := Qi.zero) (by omega)))) ?_))))))))))))))))))))
 refine ro rfl (dV A_45 Z_45 (Ht rfl)) (gX Z_45 (Ht rfl) (Ht rfl) rfl (i := 0) rfl (aK rfl) rfl rfl (eZ ?_))
 exact fG rfl (fU A_45 Z_45 rfl (i := 0) rfl rfl)
theorem c_partG {z : List Qi} {s : List (List Qi)} {Q : List Nat} {m : Nat} (hs : Shp s z.length z.length) (hQ : ∀ x, x ∈ Q → x < z.length) (hm : Q.length = m) (hm2 : m ≤ 1000) (hl : z.length ≤ 1000) : FunO Tryz.prog 111 [NetT z s, IntsT (Q.map Nat.succ)] [] (Nat) (fun B => AggT [NumsT (subZ z Q), Is (.slice (some ⟨B, 0, none⟩) m m)]) (fun B => [matO B 27 45 5 (FRow NumT (subM s Q))]) (fun _ => True) := by
 have hll : (Q.map Nat.succ).length = m := by rw [List.length_map]; exact hm
 refine FunO.intro Tryz.func111 rfl Tryz.ntmps111 rfl (fun cx Z => (ts (rn rfl (fK (Ht rfl)) fun B2 => (rn rfl (new_box1 (Ht rfl)) fun B3 => (rn rfl (eG (Ts := [Is (.slice none 0 0), Is (.slice none 0 0)]) O_30 rfl (fun V => aW ⟨rfl, trivial⟩ (aW ⟨rfl, trivial⟩ (aG)))) fun B4 => (eZ (cU (gV (i := 1) (tt := 2) rfl rfl frz_ptr (gV (i := 2) (tt := 3) rfl rfl frz_ptr1 (dQ (ro rfl (dV A_69 Z_69 (Ht rfl)) (ro rfl (dK U_69 (Ht rfl) (by rw [List.length_map, hll])) ?_))))))))))))
 refine rn rfl (new_makeO (T := NumT Qi.zero) (i := Tryz.t45) und_27 info_45 rfl rfl (Ht rfl) rfl num_zero_p (El.ag rfl) (by show 88 * _ ≤ _; omega) (by omega)) fun B10 => ra rfl (eZ (cU (ts (ro rfl (dV A_69 Z_69 (Ht rfl)) (ro rfl (dK U_69 (Ht rfl) (by rw [List.length_map, hll])) ?_)))))
 refine ro rfl (cZ (cV 0)) (eZ (eK (T_keep [0, 3, 4] rfl (by decide) ?_)))
 refine T_loop (fun (i : Nat) => i ≤ m) (fun (i : Nat) => m - i) (fun (i : Nat) => [(2, PT (NetT z s)), (3, PT (IntsT (Q.map Nat.succ))), (4, PtrB B4 0), (5, Is B10), (11, IntsT (Q.map Nat.succ)), (12, NT .i64 m), (13, NT .i64 i)]) (fun (i : Nat) => [Z, box B4 30 [Is (.slice none 0 0), Is (.slice none 0 0)], rowO 45 5 B10 ((mixT (fun i => gv z (qat Q i)) Qi.zero m i).map NumT)]) 0 (Nat.zero_le _)
  (aQ rfl (aQ rfl (aQ rfl (aQ rfl (aQ rfl (aQ rfl (aQ rfl aX))))))) (aU (fun _ _ _ h => h) (aU (fun _ _ _ h => h) (aU (rowO_of (by rw [← mix_zero]; exact tab_rep NumT m)) aY))) (fun i hi => ?_)
 refine ts (ro rfl (gZ (Ht rfl) (Ht rfl)) (eZ (cU (dX (Ht rfl) (fun hd => ?_) (fun hd => ?_)))))
 ·simp only [decide_eq_true_eq] at hd
  have hki : qat Q i < z.length := qat_lt hQ (by omega)
  refine cY (cU (eK (ts (rm rfl (ro rfl (dJ U_69 Z_3 (Ht rfl) (Ht rfl) rfl (eQ (suc_get (by omega)))) (ro rfl (dV A_3 Z_3 (Ht rfl)) (ra rfl (ra rfl (eZ (dQ (rm rfl (rm rfl (ro rfl (op_fld1 fa_30_0 (Ht rfl) rfl) (ro rfl (dV A_27 Z_27 (Ht rfl)) (rm rfl (ro rfl (OpTy.nat (dG (Ht rfl) (cV 1) (by omega) (by show _ < 9223372036854775808; first | omega | (simp only [lim]; omega))) (show qat Q i + 1 - 1 = qat Q i by omega)) (ro rfl (dJ U_27 Z_45 (Ht rfl) (Ht rfl) rfl (eQ (dY (d := Qi.zero) hki))) ?_)))))))))))))))))
  refine ro rfl (dV A_45 Z_45 (Ht rfl)) (ro rfl (op_idxO U_27 Z_45 (Ht rfl) (Ht rfl) rfl (i := 2) rfl (by rw [List.length_map, mix_len]; omega) rfl) ?_)
  refine R_stO Z_45 (Ht rfl) (Ht rfl) (El.ag rfl) (i := 2) rfl rfl (by rw [List.length_map, mix_len]; omega) rfl ?_
  refine eZ (T_blk (dQ (ro rfl (dW (Ht rfl) (cV 1) (by show _ < 9223372036854775808; first | omega | (simp only [lim]; omega))) (rm rfl (eZ (fY (i + 1) hd (by omega) (aQ rfl (aQ rfl (aQ rfl (aQ rfl (aQ rfl (aQ rfl (aQ rfl aX))))))) (aU (fun _ _ _ h => h) (aU (fun _ _ _ h => h) (aU (rowO_of (by rw [set_mapF, ← mix_set (f := (fun i => gv z (qat Q i)))])) aY)))))))))
 ·simp only [decide_eq_false_iff_not] at hd
  obtain rfl : m = i := Nat.le_antisymm (by omega) hi
  rw [mix_fin]
  refine gW rfl (gV (i := 2) (tt := 5) rfl rfl frz_row ?_)
  rw [show subZ z Q = tab m fun i => gv z (qat Q i) from by rw [subZ, hm], show subM s Q = tab m fun i => tab m fun j => gm s (qat Q i) (qat Q j) from by rw [subM, hm]]
  refine ts (rm rfl (ro rfl (dV A_69 Z_69 (Ht rfl)) (ro rfl (dK U_69 (Ht rfl) (by rw [List.length_map, hll])) ?_)))
  refine ro rfl (op_clos (γ := Fin m × Fin m) (Ts := fun x => [NT .i64 x.1.1, NT .i64 x.2.1]) (U := fun x => NumT (gm s (qat Q x.1.1) (qat Q x.2.1))) Tryz.call210 (fun x => c_part1 hs hQ hm hm2 hl x.1.2 x.2.2) ⟨(Ht rfl), (Ht rfl), trivial⟩) (R_call0 Tryz.call119 (c_fillO (n := m) (f := fun i j => gm s (qat Q i) (qat Q j)) (by omega)) ⟨(Ht rfl), (Ht rfl), trivial⟩ rfl (fun B32 _ => (ro rfl (bld_30_0_1 (Ht rfl) (Ht rfl)) (gX Z_30 (Ht rfl) (Ht rfl) rfl (i := 1) rfl (aK rfl) rfl rfl (eZ ?_)))))
  exact T_retO B32 trivial [0, 3] ⟨⟨_, rfl, fun _ _ _ h => h⟩, ⟨_, rfl, fun _ _ _ h => h⟩, trivial⟩ (by decide) (rvs1 rfl (fU A_30 Z_30 rfl (i := 1) rfl rfl))
theorem c_partO {z : List Qi} {s : List (List Qi)} {p m : Nat} (hs : Shp s z.length z.length) (hp : p < z.length) (hm : m = z.length - 1) (hl : z.length ≤ 1000) : FunO Tryz.prog 111 [NetT z s, IntsT (lftL p m)] [] Nat (fun B => AggT [NumsT (prtZ z p m), Is (.slice (some ⟨B, 0, none⟩) m m)]) (fun B => [matO B 27 45 5 (FRow NumT (prtS s p m))]) (fun _ => True) := by
 have h := c_partG (Q := tab m (skp p)) hs (skp_all hp hm) (tab_len _ _) (by omega) hl
 rw [subZ_skp, subM_skp, lft_skp] at h
 exact h
theorem c_whole {n : Int} (h1 : -9223372036854775808 ≤ n) (h2 : n ≤ 9223372036854775807) : Fun Tryz.prog 121 [IntT .i64 n] (NumT (Qi.ofInt n)) := by
 refine Fun.intro Tryz.func121 rfl Tryz.ntmps121 rfl (fun cx => (ts (rn rfl (eG (Ts := [Is (.bool false), Is (.slice none 0 0), Is (.bool false), Is (.slice none 0 0), Is (.slice none 0 0)]) O_45 rfl (fun V => aW ⟨rfl, trivial⟩ (aW ⟨rfl, trivial⟩ (aW ⟨rfl, trivial⟩ (aW ⟨rfl, trivial⟩ (aW ⟨rfl, trivial⟩ (aG))))))) fun B2 => (eZ (ts (rn rfl (eG (Ts := [Is (.bool false), Is (.slice none 0 0), Is (.bool false), Is (.slice none 0 0), Is (.slice none 0 0)]) O_45 rfl (fun V => aW ⟨rfl, trivial⟩ (aW ⟨rfl, trivial⟩ (aW ⟨rfl, trivial⟩ (aW ⟨rfl, trivial⟩ (aW ⟨rfl, trivial⟩ (aG))))))) fun B3 => ?_))))))
 refine eZ (cU (fJ (m := 4) (dp 3 rfl (eW A_45 Z_45 (Ht rfl) (i := 1) rfl rfl rfl) (dq 4 0 rfl (op_iface mkif_45 (Ht rfl)) (dp 0 rfl (cZ (Ht rfl)) (dq 6 2 rfl (cJ Tryz.call86 (c_Int (n := n) h1 h2) ⟨(Ht rfl), trivial⟩) (fW mixed rfl (by kernel_rfl) (aJ (aJ (aJ (aJ (aV (ro rfl (op_invoke meth_45_Of Tryz.call302 c_OfZ (Ht rfl) ⟨(Ht rfl), trivial⟩) (gX Z_45 (Ht rfl) (Ht rfl) rfl (i := 0) rfl (aK rfl) rfl rfl (eZ ?_)))))))))))))))
 exact fG rfl (fU A_45 Z_45 rfl (i := 0) rfl rfl)
end
section
open Go Go.RowKit
theorem c_Term {z : List Qi} {s : List (List Qi)} {port : Int} {g : Qi} {L : Nat} (hs : Shp s z.length z.length) (hf : FitM s L) (hg : FitC g L) (hL : 1 ≤ L) (hLb : L ≤ 1000000) (hl : z.length ≤ 1000) : Fun Tryz.prog 60 [NetT z s, IntT .i64 port, NumT g] (TupT [NetT (trmRZ z s port g) (trmRS z s port g), IntT .i64 (trmE z s port g)]) := by
 haveI := hg
 have hsl := hs.1
 refine Fun.intro Tryz.func60 rfl Tryz.ntmps60 rfl (fun cx => (ts (rn rfl (fK (Ht rfl)) fun B3 => (rn rfl (fK (Ht rfl)) fun B5 => (rn rfl (eG (Ts := [Is (.slice none 0 0), Is (.slice none 0 0)]) O_30 rfl (fun V => aW ⟨rfl, trivial⟩ (aW ⟨rfl, trivial⟩ (aG)))) fun B6 => (ro rfl (cX (cV 0)) (eZ (cU (eK (ts (ro rfl (eW A_30 Z_30 (Ht rfl) (i := 0) rfl rfl rfl) (rm rfl (ro rfl (cJ Tryz.call171 c_has ⟨(Ht rfl), (Ht rfl), trivial⟩) (ro rfl (op_not (Ht rfl)) (ra rfl (eZ (dX (Ht rfl) (fun hb => ?_) (fun hb => ?_))))))))))))))))))
 ·have he : trmE z s port g = 1 := trmE_1 (by simpa only [Bool.not_eq_true', decide_eq_false_iff_not] using hb)
  refine ts (ro rfl (OpTy.imp (bld_30_ ) net_nil) (gX Z_30 (Ht rfl) (Ht rfl) rfl (i := 2) rfl (aK rfl) rfl rfl (ro rfl (cX (cV 1)) (eZ (T_ret2 rfl (fZ (fU A_30 Z_30 rfl (i := 2) rfl rfl) ?_) (fZ (eY rfl) ?_))))))
  ·exact (trm_bad he (by decide))
  ·exact (int_of he.symm)
 ·have hb2 : 1 ≤ port ∧ port ≤ (z.length : Int) := by simpa using hb
  obtain ⟨p, rfl⟩ : ∃ p : Nat, port = (p : Int) + 1 := ⟨(port - 1).toNat, by omega⟩
  have hp : p < z.length := by omega
  refine ts (ro rfl (eJ fa_30_0 (Ht rfl) rfl) (ro rfl (fQ A_27 Z_27 (Ht rfl) (i := 0) rfl rfl) (ro rfl (dK U_27 (Ht rfl) len_map) (ro rfl (op_eqlN (Ht rfl) (cV 1)) (ra rfl (eZ (dX (Ht rfl) (fun hc => ?_) (fun hc => ?_))))))))
  ·have he : trmE z s ((p : Int) + 1) g = 4 := trmE_4 hb2 (by simpa using hc)
   refine ts (ro rfl (OpTy.imp (bld_30_ ) net_nil) (gX Z_30 (Ht rfl) (Ht rfl) rfl (i := 2) rfl (aK rfl) rfl rfl (ro rfl (cX (cV 4)) (eZ (T_ret2 rfl (fZ (fU A_30 Z_30 rfl (i := 2) rfl rfl) ?_) (fZ (eY rfl) ?_))))))
   ·exact (trm_bad he (by decide))
   ·exact (int_of he.symm)
  ·have hn1 : ¬ z.length = 1 := by simpa using hc
   have htd := trmE_d (s := s) (g := g) hp hn1
   obtain ⟨m, hm⟩ : ∃ m, m = z.length - 1 := ⟨_, rfl⟩
   have hspl := hs.row hp
   haveI f0 : FitC (Qi.ofInt 1) 1 := fit_one
   haveI f1 : FitC (gm s p p) L := hf.get hL p p
   refine cY (T_blk (ts (rm rfl (ro rfl (op_sub (Ht rfl) cW (r := ((p : Nat) : Int)) ((w64 (z := (p : Int) + 1 - 1) (by omega)).trans (by omega))) ?_))))
   refine ra rfl (eZ (cU (Y.D_start (m := 22) [] (cQ (Ei := [(5, _)]) rfl rfl (bQ (bJ rfl rfl) bX) rfl rfl (dZ rfl (eW A_45 Z_45 (Ht rfl) (i := 1) rfl rfl rfl)) (cQ (Ei := [(32, _)]) rfl rfl (bQ (bZ 0 rfl rfl) bX) rfl rfl (dZ rfl (op_iface mkif_45 (Ht rfl))) (cQ (Ei := []) rfl rfl bX rfl rfl (dZ rfl (cJ Tryz.call121 (c_whole (n := 1) (by decide) (by decide)) ⟨(cV 1), trivial⟩)) (cQ (Ei := [(34, _)]) rfl rfl (bQ (bZ 2 rfl rfl) bX) rfl rfl (dZ rfl (op_iface mkif_45 (Ht rfl))) ?_)))))))
   refine cQ (Ei := [(3, _)]) rfl rfl (bQ (bJ rfl rfl) bX) rfl rfl (dZ rfl (eJ fa_30_1 (Ht rfl) rfl)) (cQ (Ei := [(36, _)]) rfl rfl (bQ (bZ 4 rfl rfl) bX) rfl rfl (dZ rfl (fQ A_28 Z_28 (Ht rfl) (i := 0) rfl rfl)) (cQ (Ei := [(8, _)]) rfl rfl (bQ (bJ rfl rfl) bX) rfl rfl (dZ rfl (cZ (Ht rfl))) (cQ (Ei := [(37, _), (38, _)]) rfl rfl (bQ (bZ 5 rfl rfl) (bQ (bZ 6 rfl rfl) bX)) rfl rfl (dZ rfl (dJ U_28 Z_27 (Ht rfl) (Ht rfl) rfl (eQ (dY (d := []) (by omega))))) ?_)))
   refine cQ (Ei := [(39, _)]) rfl rfl (bQ (bZ 7 rfl rfl) bX) rfl rfl (dZ rfl (dV A_27 Z_27 (Ht rfl))) (cQ (Ei := [(8, _)]) rfl rfl (bQ (bJ rfl rfl) bX) rfl rfl (dZ rfl (cZ (Ht rfl))) (cQ (Ei := [(40, _), (41, _)]) rfl rfl (bQ (bZ 8 rfl rfl) (bQ (bZ 9 rfl rfl) bX)) rfl rfl (dZ rfl (dJ U_27 Z_45 (Ht rfl) (Ht rfl) rfl (eQ (dY (d := Qi.zero) (by omega))))) (cQ (Ei := [(42, _)]) rfl rfl (bQ (bZ 10 rfl rfl) bX) rfl rfl (dZ rfl (dV A_45 Z_45 (Ht rfl))) ?_)))
   refine cQ (Ei := [(43, _)]) rfl rfl (bQ (bZ 11 rfl rfl) bX) rfl rfl (dZ rfl (op_iface mkif_45 (Ht rfl))) (cQ (Ei := [(5, _)]) rfl rfl (bQ (bJ rfl rfl) bX) rfl rfl (dZ rfl (eW A_45 Z_45 (Ht rfl) (i := 1) rfl rfl rfl)) (cQ (Ei := [(44, _), (45, _)]) rfl rfl (bQ (bZ 12 rfl rfl) (bQ (bZ 13 rfl rfl) bX)) rfl rfl (dZ rfl (op_invoke meth_45_Mul K_67 (c_Mul (x := gm s p p) (y := g) (L := L) (M := L) (by omega)) (Ht rfl) ⟨(Ht rfl), trivial⟩)) (cQ (Ei := [(35, _), (46, _)]) rfl rfl (bQ (bZ 3 rfl rfl) (bQ (bZ 14 rfl rfl) bX)) rfl rfl (dZ rfl (op_invoke meth_45_Sub Tryz.call66 (c_Sub (x := Qi.ofInt 1) (y := gm s p p * g) (L := 1) (M := L + L + 1) (hx := f0) (by omega)) (Ht rfl) ⟨(Ht rfl), trivial⟩)) ?_)))
   refine cQ (Ei := [(33, _), (47, _)]) rfl rfl (bQ (bZ 1 rfl rfl) (bQ (bZ 15 rfl rfl) bX)) rfl rfl (dZ rfl (op_invoke meth_45_Div Tryz.call59 (c_Div (x := g) (y := Qi.ofInt 1 - gm s p p * g) (L := L) (M := 1 + (L + L + 1) + 1) (hy := @fitSub _ _ _ _ f0 inferInstance) (by omega)) (Ht rfl) ⟨(Ht rfl), trivial⟩)) (cQ (Ei := [(48, _)]) rfl rfl (bQ (bZ 16 rfl rfl) bX) rfl rfl (dZ rfl (cZ (Ht rfl))) (cQ (Ei := [(31, _)]) rfl rfl (bQ (bZ 17 rfl rfl) bX) rfl rfl (dZ rfl (dU (Ht rfl) rfl)) ?_))
   refine cQ (Ei := [(31, _)]) rfl rfl (bQ (bZ 17 rfl rfl) bX) rfl rfl (dZ rfl (dU (Ht rfl) rfl)) (Y.D_newp (Ei := []) (fun bb => box bb 45 [BoolT (decide ((trmF s p g).a < 0)), NatT (trmF s p g).a.natAbs, BoolT (decide ((trmF s p g).b < 0)), NatT (trmF s p g).b.natAbs, NatT (du (trmF s p g))]) 21 rfl rfl rfl bX rfl rfl (by kernel_rfl) (eG (Ts := [Is (.bool false), Is (.slice none 0 0), Is (.bool false), Is (.slice none 0 0), Is (.slice none 0 0)]) O_45 rfl (fun V => aW ⟨rfl, trivial⟩ (aW ⟨rfl, trivial⟩ (aW ⟨rfl, trivial⟩ (aW ⟨rfl, trivial⟩ (aW ⟨rfl, trivial⟩ (aG))))))) ?_)
   refine Y.D_putN (Ei := [(49, _)]) 20 rfl rfl rfl rfl rfl rfl (bQ (bZ 18 rfl rfl) bX) (fun bb => P_stA Z_45 (Ht rfl) (Ht rfl) rfl (i := 0) rfl (aK rfl) rfl rfl) (Y.D_done mixed rfl (by kernel_rfl) rfl (by simp [Y.okP]) rfl rfl (bU (bU (bU (bU (bU (bU (bU (bU (bU (bU (bU (bU (bU (bU (bU (bU (bU (bU (bU (bU (Y.F_newp (fun B9 => Y.F_putN (Y.F_nil ?_))))))))))))))))))))))))
   refine ra rfl (eZ (cU (ts (rm rfl (ro rfl (op_neq (Ht rfl) cW) (eZ (dX (Ht rfl) (fun he => ?_) (fun he => ?_))))))))
   ·have hz : Qi.ofInt 1 - gm s p p * g = Qi.zero := by simp at he; exact he
    have he : trmE z s ((p : Int) + 1) g = 6 := by rw [htd, if_pos hz]
    refine ts (ro rfl (OpTy.imp (bld_30_ ) net_nil) (gX Z_30 (Ht rfl) (Ht rfl) rfl (i := 2) rfl (aK rfl) rfl rfl (ro rfl (cX (cV 6)) (eZ (T_ret2 rfl (fZ (fU A_30 Z_30 rfl (i := 2) rfl rfl) ?_) (fZ (eY rfl) ?_))))))
    ·exact (trm_bad he (by decide))
    ·exact (int_of he.symm)
   ·have hz : Qi.ofInt 1 - gm s p p * g ≠ Qi.zero := by simp at he; exact he
    have he : trmE z s ((p : Int) + 1) g = 0 := by rw [htd, if_neg hz]
    haveI ff : FitC (trmF s p g) (7 * L + 11) := trmF_fit hf hg hL hz
    have hll : (lftL p m).length = m := tab_len _ _
    refine cY (ts (ro rfl (eW A_30 Z_30 (Ht rfl) (i := 0) rfl rfl rfl) (rm rfl (ro rfl (op_bslice (xs := [.tmp 55]) U_69 Z_3 O_3 (cG (Ht rfl) cK) rfl rfl rfl) (ro rfl (cJ Tryz.call112 (eX (c_left (z := z) (s := s) (p := p) hp hl) (slT_of (by rw [← hm]))) ⟨(Ht rfl), (Ht rfl), trivial⟩) ?_)))))
    refine ra rfl (eZ (ts (ro rfl (eW A_30 Z_30 (Ht rfl) (i := 0) rfl rfl rfl) (rm rfl (R_call0 Tryz.call111 (c_partO (p := p) (m := m) hs hp hm hl) ⟨(Ht rfl), (Ht rfl), trivial⟩ rfl (fun B60 _ => (rn rfl (eG (Ts := [Is (.slice none 0 0), Is (.slice none 0 0)]) O_30 rfl (fun V => aW ⟨rfl, trivial⟩ (aW ⟨rfl, trivial⟩ (aG)))) fun B12 => (gX Z_30 (Ht rfl) (Ht rfl) rfl (i := 5) rfl (aK rfl) rfl rfl (eZ (cU (ts (rm rfl (ro rfl (dK U_69 (Ht rfl) (by rw [List.length_map, hll])) ?_)))))))))))))
    refine ro rfl (cZ (cV 0)) (eZ (eK (T_keep [0, 2, 3, 4, 5] rfl (by decide) ?_)))
    refine T_loop (fun (i : Nat) => i ≤ m) (fun (i : Nat) => m - i) (fun (i : Nat) => [(3, PtrB B3 0), (6, PtrB B6 0), (8, NT .i64 p), (9, PtrB B9 0), (11, IntsT (lftL p m)), (12, PtrB B12 0), (61, IntsT (lftL p m)), (62, NT .i64 m), (63, NT .i64 i)]) (fun (i : Nat) => [box B3 30 [NumsT z, NumM s], box B6 30 [Is (.slice none 0 0), Is (.slice none 0 0)], box B9 45 [BoolT (decide ((trmF s p g).a < 0)), NatT (trmF s p g).a.natAbs, BoolT (decide ((trmF s p g).b < 0)), NatT (trmF s p g).b.natAbs, NatT (du (trmF s p g))], matO B60 27 45 5 (FRow NumT (mixG (fun i => tab m fun j => trmX s p (trmF s p g) i j) (fun i => tab m fun j => gm s (skp p i) (skp p j)) m i)), box B12 30 [NumsT (prtZ z p m), Is (.slice (some ⟨B60, 0, none⟩) m m)]]) 0 (Nat.zero_le _)
     (aQ rfl (aQ rfl (aQ rfl (aQ rfl (aQ rfl (aQ rfl (aQ rfl (aQ rfl (aQ rfl aX))))))))) (aU (fun _ _ _ h => h) (aU (fun _ _ _ h => h) (aU (box_of rfl) (aU (matO_of (by rw [← mixG_zero]; rfl)) (aU (box_of rfl) aY))))) (fun i hi => ?_)
    refine ts (ro rfl (gZ (Ht rfl) (Ht rfl)) (eZ (cU (dX (Ht rfl) (fun hd => ?_) (fun hd => ?_)))))
    ·simp only [decide_eq_true_eq] at hd
     have hki : skp p i < z.length := skp_lt (by omega) hp
     have hsr := hs.row hki
     refine T_focus 3 (i) rfl (frow_mixG hd) (fun v => (cY (cU (eK (ts (rm rfl (ro rfl (dJ U_69 Z_3 (Ht rfl) (Ht rfl) rfl (eQ (lft_get hd))) (ro rfl (dV A_3 Z_3 (Ht rfl)) (ra rfl (ra rfl (eZ (ts (rm rfl (ro rfl (dK U_69 (Ht rfl) (by rw [List.length_map, hll])) ?_))))))))))))))
     refine ro rfl (cZ (cV 0)) (eZ (eK ?_))
     refine T_loop (fun (j : Nat) => j ≤ m) (fun (j : Nat) => m - j) (fun (j : Nat) => [(3, PtrB B3 0), (6, PtrB B6 0), (8, NT .i64 p), (9, PtrB B9 0), (11, IntsT (lftL p m)), (12, PtrB B12 0), (13, NT .i64 i), (14, NT .i64 (skp p i + 1)), (61, IntsT (lftL p m)), (62, NT .i64 m), (63, NT .i64 i), (68, IntsT (lftL p m)), (69, NT .i64 m), (70, NT .i64 j)]) (fun (j : Nat) => [box B3 30 [NumsT z, NumM s], box B6 30 [Is (.slice none 0 0), Is (.slice none 0 0)], box B9 45 [BoolT (decide ((trmF s p g).a < 0)), NatT (trmF s p g).a.natAbs, BoolT (decide ((trmF s p g).b < 0)), NatT (trmF s p g).b.natAbs, NatT (du (trmF s p g))], matH B60 27 45 5 (FRow NumT (mixG (fun i => tab m fun j => trmX s p (trmF s p g) i j) (fun i => tab m fun j => gm s (skp p i) (skp p j)) m i)) i v, box B12 30 [NumsT (prtZ z p m), Is (.slice (some ⟨B60, 0, none⟩) m m)], rowO 45 5 v ((mixG (fun j => trmX s p (trmF s p g) i j) (fun j => gm s (skp p i) (skp p j)) m j).map NumT)]) 0 (Nat.zero_le _)
      (aQ rfl (aQ rfl (aQ rfl (aQ rfl (aQ rfl (aQ rfl (aQ rfl (aQ rfl (aQ rfl (aQ rfl (aQ rfl (aQ rfl (aQ rfl (aQ rfl aX)))))))))))))) (aU (fun _ _ _ h => h) (aU (fun _ _ _ h => h) (aU (fun _ _ _ h => h) (aU (fun _ _ _ h => h) (aU (fun _ _ _ h => h) (aU (rowO_of (by rw [← mixG_zero])) aY)))))) (fun j hj => ?_)
     refine ts (ro rfl (gZ (Ht rfl) (Ht rfl)) (eZ (cU (dX (Ht rfl) (fun hf2 => ?_) (fun hf2 => ?_)))))
     ·simp only [decide_eq_true_eq] at hf2
      have hkj : skp p j < z.length := skp_lt (by omega) hp
      have hrl := mixG_len (fun j => trmX s p (trmF s p g) i j) (fun j => gm s (skp p i) (skp p j)) m j
      haveI g1 : FitC (gm s (skp p i) (skp p j)) L := hf.get hL _ _
      haveI g2 : FitC (gm s (skp p i) p) L := hf.get hL _ _
      haveI g3 : FitC (gm s p (skp p j)) L := hf.get hL _ _
      refine cY (cU (eK (ts (rm rfl (ro rfl (dJ U_69 Z_3 (Ht rfl) (Ht rfl) rfl (eQ (lft_get hf2))) (ro rfl (dV A_3 Z_3 (Ht rfl)) (ra rfl (ra rfl (eZ (fJ (m := 39) (dp 12 rfl (eJ fa_30_1 (Ht rfl) rfl) (dq 75 0 rfl (fQ A_28 Z_28 (Ht rfl) (i := 4) rfl rfl) (dp 13 rfl (cZ (Ht rfl)) (dqq 76 1 77 2 rfl (gQ U_28 Z_27 (Ht rfl) (Ht rfl) rfl (by omega) (by rw [Nat.mul_one, Nat.zero_add])) ?_))))))))))))))
      refine dq 78 3 rfl (op_ldH A_27 Z_27 (Ht rfl) (j := 3) rfl) (dp 15 rfl (cZ (Ht rfl)) (dp 12 rfl (eJ fa_30_1 (Ht rfl) rfl) (dq 81 6 rfl (fQ A_28 Z_28 (Ht rfl) (i := 4) rfl rfl) (dp 13 rfl (cZ (Ht rfl)) (dqq 82 7 83 8 rfl (gQ U_28 Z_27 (Ht rfl) (Ht rfl) rfl (by omega) (by rw [Nat.mul_one, Nat.zero_add])) ?_)))))
      refine dq 84 9 rfl (op_ldH A_27 Z_27 (Ht rfl) (j := 3) rfl) (dp 15 rfl (cZ (Ht rfl)) (dqq 85 10 86 11 rfl (op_idxO U_27 Z_45 (Ht rfl) (Ht rfl) rfl (i := 5) rfl (by simp only [List.length_map, hrl]; omega) rfl) ?_))
      refine dq 87 12 rfl (op_ldO A_45 Z_45 (Ht rfl) (i := 5) rfl rfl (eQ (mixG_get hf2))) (dq 88 13 rfl (op_iface mkif_45 (Ht rfl)) (dp 3 rfl (eJ fa_30_1 (Ht rfl) rfl) (dq 90 15 rfl (fQ A_28 Z_28 (Ht rfl) (i := 0) rfl rfl) (dp 14 rfl (cZ (Ht rfl)) (dq 92 17 rfl (OpTy.nat (dG (Ht rfl) (cV 1) (by omega) (by show _ < 9223372036854775808; first | omega | (simp only [lim]; omega))) (show skp p i + 1 - 1 = skp p i by omega)) (dqq 91 16 93 18 rfl (dJ U_28 Z_27 (Ht rfl) (Ht rfl) rfl (eQ (dY (d := []) (by omega)))) ?_))))))
      refine dq 94 19 rfl (dV A_27 Z_27 (Ht rfl)) (dp 8 rfl (cZ (Ht rfl)) (dqq 95 20 96 21 rfl (dJ U_27 Z_45 (Ht rfl) (Ht rfl) rfl (eQ (dY (d := Qi.zero) (by omega)))) (dq 97 22 rfl (dV A_45 Z_45 (Ht rfl)) (dq 98 23 rfl (op_iface mkif_45 (Ht rfl)) (dp 9 rfl (eW A_45 Z_45 (Ht rfl) (i := 2) rfl rfl rfl) (dq 100 25 rfl (op_iface mkif_45 (Ht rfl)) (dp 3 rfl (eJ fa_30_1 (Ht rfl) rfl) (dq 102 27 rfl (fQ A_28 Z_28 (Ht rfl) (i := 0) rfl rfl) (dp 8 rfl (cZ (Ht rfl)) ?_)))))))))
      refine dqq 103 28 104 29 rfl (dJ U_28 Z_27 (Ht rfl) (Ht rfl) rfl (eQ (dY (d := []) (by omega)))) (dq 105 30 rfl (dV A_27 Z_27 (Ht rfl)) (dp 16 rfl (cZ (Ht rfl)) (dq 107 32 rfl (OpTy.nat (dG (Ht rfl) (cV 1) (by omega) (by show _ < 9223372036854775808; first | omega | (simp only [lim]; omega))) (show skp p j + 1 - 1 = skp p j by omega)) (dqq 106 31 108 33 rfl (dJ U_27 Z_45 (Ht rfl) (Ht rfl) rfl (eQ (dY (d := Qi.zero) (by omega)))) (dq 109 34 rfl (dV A_45 Z_45 (Ht rfl)) ?_)))))
      refine dqq 101 26 110 35 rfl (op_invoke meth_45_Mul K_67 (c_Mul (x := trmF s p g) (y := gm s p (skp p j)) (L := 7 * L + 11) (M := L) (by omega)) (Ht rfl) ⟨(Ht rfl), trivial⟩) (dqq 99 24 111 36 rfl (op_invoke meth_45_Mul K_67 (c_Mul (x := gm s (skp p i) p) (y := trmF s p g * gm s p (skp p j)) (L := L) (M := 7 * L + 11 + L + 1) (by omega)) (Ht rfl) ⟨(Ht rfl), trivial⟩) (dqq 89 14 112 37 rfl (op_invoke meth_45_Add Tryz.call68 (c_Add (x := gm s (skp p i) (skp p j)) (y := gm s (skp p i) p * (trmF s p g * gm s p (skp p j))) (L := L) (M := L + (7 * L + 11 + L + 1) + 1) (by omega)) (Ht rfl) ⟨(Ht rfl), trivial⟩) ?_))
      refine fW mixed rfl (by kernel_rfl) (aJ (aJ (aJ (aJ (aJ (aJ (aJ (aJ (aJ (aJ (aJ (aJ (aJ (aJ (aJ (aJ (aJ (aJ (aJ (aJ (aJ (aJ (aJ (aJ (aJ (aJ (aJ (aJ (aJ (aJ (aJ (aJ (aJ (aJ (aJ (aJ (aJ (aJ (aJ (aV (ro rfl (op_idxO U_27 Z_45 (Ht rfl) (Ht rfl) rfl (i := 5) rfl (by simp only [List.length_map, hrl]; omega) rfl) ?_)))))))))))))))))))))))))))))))))))))))))
      refine R_stO Z_45 (Ht rfl) (Ht rfl) (El.ag rfl) (i := 5) rfl rfl (by simp only [List.length_map, hrl]; omega) rfl ?_
      refine eZ (T_blk (dQ (ro rfl (dW (Ht rfl) (cV 1) (by show _ < 9223372036854775808; first | omega | (simp only [lim]; omega))) (rm rfl (eZ (fY (j + 1) hf2 (by omega) (aQ rfl (aQ rfl (aQ rfl (aQ rfl (aQ rfl (aQ rfl (aQ rfl (aQ rfl (aQ rfl (aQ rfl (aQ rfl (aQ rfl (aQ rfl (aQ rfl aX)))))))))))))) (aU (fun _ _ _ h => h) (aU (fun _ _ _ h => h) (aU (fun _ _ _ h => h) (aU (fun _ _ _ h => h) (aU (fun _ _ _ h => h) (aU (rowO_of (by rw [set_mapF, ← mixG_set (f := fun j => trmX s p (trmF s p g) i j)]; rfl)) aY))))))))))))
     ·simp only [decide_eq_false_iff_not] at hf2
      obtain rfl : m = j := Nat.le_antisymm (by omega) hj
      refine gW rfl (T_blk (T_unfocus 3 5 rfl rfl (by decide) (by simp only [FRow, List.length_map, mixG_len]; omega) ?_))
      refine dQ (ro rfl (dW (Ht rfl) (cV 1) (by show _ < 9223372036854775808; first | omega | (simp only [lim]; omega))) (rm rfl (eZ (T_keep [0, 1, 2, 3, 4] rfl (by decide) (fY (i + 1) hd (by omega) (aQ rfl (aQ rfl (aQ rfl (aQ rfl (aQ rfl (aQ rfl (aQ rfl (aQ rfl (aQ rfl aX))))))))) (aU (fun _ _ _ h => h) (aU (fun _ _ _ h => h) (aU (fun _ _ _ h => h) (aU (matO_of (by rw [set_FRow, mixG_fin, ← mixG_set (f := (fun i => tab m fun j => trmX s p (trmF s p g) i j))])) (aU (fun _ _ _ h => h) aY))))))))))
    ·simp only [decide_eq_false_iff_not] at hd
     obtain rfl : m = i := Nat.le_antisymm (by omega) hi
     rw [mixG_fin]
     refine gW rfl (cU (T_frzcellG 4 3 1 rfl rfl rfl (by decide) (frzM (q := fun _ => True) (M := trmS s p m (trmF s p g)) (tab_len _ _).symm) ?_))
     subst hm
     refine dQ (ro rfl (eW A_30 Z_30 (Ht rfl) (i := 4) rfl rfl rfl) (gX Z_30 (Ht rfl) (Ht rfl) rfl (i := 1) rfl (aK rfl) rfl rfl (ro rfl (cX (cV 0)) (eZ (T_ret2 rfl (fZ (fU A_30 Z_30 rfl (i := 1) rfl rfl) ?_) (fZ (eY rfl) ?_))))))
     ·exact (trm_good he)
     ·exact (int_of he.symm)
end
section
open Go Go.RowKit
def fwZ : List Qi := [r50, r50].map Rt.q
def fwS : List (List Qi) := rq [[rHalf, rHalf], [rHalf, rHalf]]
def fwTZ : List Qi := trmRZ fwZ fwS 2 (Qi.ofInt 1)
def fwTS : List (List Qi) := trmRS fwZ fwS 2 (Qi.ofInt 1)
theorem fw_err : netErr fwZ fwS = 0 := by decide +kernel
theorem fw_shp : Shp fwS fwZ.length fwZ.length := (netErr_ok fw_err).2.2.1
theorem fw_trm : trmE fwZ fwS 2 (Qi.ofInt 1) = 0 := by decide +kernel
theorem fw_tz : fwTZ.length = 1 := by decide +kernel
theorem fw_ts : fwTS = [[Qi.ofInt 1]] := by decide +kernel
theorem fw_inv : invE (pmM true (idM fwZ.length) fwS fwZ.length) fwZ.length ≠ 0 := by decide +kernel
theorem fw_fz : FitL fwZ 2 := FitL.rt
theorem fw_fs : FitM fwS 2 := FitM.rt
theorem fw_f1 : FitC (Qi.ofInt 1) 2 := fit_one.le (by decide)
theorem fw_net : ∀ v V, (TupT [NetT (okL (netErr fwZ fwS) fwZ) (okL (netErr fwZ fwS) fwS), IntT .i64 (netErr fwZ fwS)]).p v V → (TupT [NetT fwZ fwS, IntT .i64 0]).p v V := by rw [fw_err]; exact fun _ _ h => h
theorem fw_ter : ∀ v V, (TupT [NetT (trmRZ fwZ fwS ((2 : Nat) : Int) (Qi.ofInt 1)) (trmRS fwZ fwS ((2 : Nat) : Int) (Qi.ofInt 1)), IntT .i64 (trmE fwZ fwS ((2 : Nat) : Int) (Qi.ofInt 1))]).p v V → (TupT [NetT fwTZ fwTS, IntT .i64 0]).p v V := by
 rw [show trmE fwZ fwS ((2 : Nat) : Int) (Qi.ofInt 1) = 0 from fw_trm]; exact fun _ _ h => h
theorem fw_tsh : Shp fwTS fwTZ.length fwTZ.length := by rw [fw_tz, fw_ts]; exact ⟨rfl, by simp⟩
theorem fw_at : ∀ v V, (TupT [NumT (pkm fwTZ.length fwTS ((1 : Nat) : Int) ((1 : Nat) : Int)), IntT .i64 (if (1 ≤ ((1 : Nat) : Int) ∧ ((1 : Nat) : Int) ≤ fwTZ.length) ∧ 1 ≤ ((1 : Nat) : Int) ∧ ((1 : Nat) : Int) ≤ fwTZ.length then 0 else 1)]).p v V → (TupT [NumT (Qi.ofInt 1), IntT .i64 0]).p v V := by
 rw [fw_tz, fw_ts, if_pos (by decide)]
 rw [show pkm 1 [[Qi.ofInt 1]] ((1 : Nat) : Int) ((1 : Nat) : Int) = Qi.ofInt 1 from rfl]
 exact fun _ _ h => h
theorem fw_t : txt (Qi.ofInt 1) = [49] := by decide +kernel
end
section
open Go Go.RowKit
theorem c_awake4  : Fun Tryz.prog 15 [] (BoolT true) := by
 refine Fun.intro Tryz.func15 rfl Tryz.ntmps15 rfl (fun cx => (ts (ro rfl (cX cW) (eZ (ts (ro rfl (bld_91_0_2 cW cW) (rn rfl (eG (Ts := [Is (.int .i64 0), Is (.int .i64 0), Is (.int .i64 0)]) O_91 rfl (fun V => aW ⟨rfl, trivial⟩ (aW ⟨rfl, trivial⟩ (aW ⟨rfl, trivial⟩ (aG))))) fun B1 => (gX Z_91 (Ht rfl) (Ht rfl) rfl (i := 0) rfl (aK rfl) rfl rfl (eZ (cU (Y.D_start (m := 18) [] (cQ (Ei := []) rfl rfl bX rfl rfl (dZ rfl (bld_91_0 cW)) (cQ (Ei := []) rfl rfl bX rfl rfl (dZ rfl (bld_91_0 cW)) ?_)))))))))))))
 refine cQ (Ei := [(12, _), (13, _)]) rfl rfl (bQ (bZ 0 rfl rfl) (bQ (bZ 1 rfl rfl) bX)) rfl rfl (dZ rfl (op_bslice (xs := [.tmp 12, .tmp 13]) U_22 Z_91 O_91 (cG (Ht rfl) (cG (Ht rfl) cK)) rfl rfl rfl)) (cQ (Ei := [(14, _)]) rfl rfl (bQ (bZ 2 rfl rfl) bX) rfl rfl (dZ rfl (cJ Tryz.call23 (c_lawList (l := [r50, r50]) (by decide)) ⟨(Ht rfl), trivial⟩)) (cQ (Ei := [(1, _)]) rfl rfl (bQ (bJ rfl rfl) bX) rfl rfl (dZ rfl (eW A_91 Z_91 (Ht rfl) (i := 0) rfl rfl rfl)) ?_))
 refine cQ (Ei := [(1, _)]) rfl rfl (bQ (bJ rfl rfl) bX) rfl rfl (dZ rfl (eW A_91 Z_91 (Ht rfl) (i := 0) rfl rfl rfl)) (cQ (Ei := [(16, _), (17, _)]) rfl rfl (bQ (bZ 4 rfl rfl) (bQ (bZ 5 rfl rfl) bX)) rfl rfl (dZ rfl (op_bslice (xs := [.tmp 16, .tmp 17]) U_22 Z_91 O_91 (cG (Ht rfl) (cG (Ht rfl) cK)) rfl rfl rfl)) (cQ (Ei := [(1, _)]) rfl rfl (bQ (bJ rfl rfl) bX) rfl rfl (dZ rfl (eW A_91 Z_91 (Ht rfl) (i := 0) rfl rfl rfl)) ?_))
 refine cQ (Ei := [(1, _)]) rfl rfl (bQ (bJ rfl rfl) bX) rfl rfl (dZ rfl (eW A_91 Z_91 (Ht rfl) (i := 0) rfl rfl rfl)) (cQ (Ei := [(19, _), (20, _)]) rfl rfl (bQ (bZ 7 rfl rfl) (bQ (bZ 8 rfl rfl) bX)) rfl rfl (dZ rfl (op_bslice (xs := [.tmp 19, .tmp 20]) U_22 Z_91 O_91 (cG (Ht rfl) (cG (Ht rfl) cK)) rfl rfl rfl)) (cQ (Ei := [(18, _), (21, _)]) rfl rfl (bQ (bZ 6 rfl rfl) (bQ (bZ 9 rfl rfl) bX)) rfl rfl (dZ rfl (op_bslice (xs := [.tmp 18, .tmp 21]) U_25 Z_22 Tryz.zeroValue22 (cG (Ht rfl) (cG (Ht rfl) cK)) rfl rfl rfl)) ?_))
 refine cQ (Ei := [(22, _)]) rfl rfl (bQ (bZ 10 rfl rfl) bX) rfl rfl (dZ rfl (cJ Tryz.call24 (c_lawRows (m := [[rHalf, rHalf], [rHalf, rHalf]]) (by decide) (by intro r hr; simp at hr; subst hr; decide)) ⟨(Ht rfl), trivial⟩)) ?_
 refine cQ (Ei := [(15, _), (23, _)]) rfl rfl (bQ (bZ 3 rfl rfl) (bQ (bZ 11 rfl rfl) bX)) rfl rfl (dZ rfl (cJ Tryz.call85 (eX (c_netNew (z := fwZ) (s := fwS) (L := 2) fw_fz (by decide) (by decide) (by decide)) fw_net) ⟨(Ht rfl), (Ht rfl), trivial⟩)) (cQ (Ei := [(24, _)]) rfl rfl (bQ (bZ 12 rfl rfl) bX) rfl rfl (dZ rfl (cZ (Ht rfl))) (cQ (Ei := [(11, _)]) rfl rfl (bQ (bZ 13 rfl rfl) bX) rfl rfl (dZ rfl (dU (Ht rfl) rfl)) (cQ (Ei := [(11, _)]) rfl rfl (bQ (bZ 13 rfl rfl) bX) rfl rfl (dZ rfl (dU (Ht rfl) rfl)) ?_)))
 refine Y.D_newp (Ei := []) (fun bb => box bb 30 [NumsT fwZ, NumM fwS]) 17 rfl rfl rfl bX rfl rfl (by kernel_rfl) (eG (Ts := [Is (.slice none 0 0), Is (.slice none 0 0)]) O_30 rfl (fun V => aW ⟨rfl, trivial⟩ (aW ⟨rfl, trivial⟩ (aG)))) (Y.D_putN (Ei := [(25, _)]) 16 rfl rfl rfl rfl rfl rfl (bQ (bZ 14 rfl rfl) bX) (fun bb => P_stA Z_30 (Ht rfl) (Ht rfl) rfl (i := 0) rfl (aK rfl) rfl rfl) (Y.D_done mixed rfl (by kernel_rfl) rfl (by simp [Y.okP]) rfl rfl (bU (bU (bU (bU (bU (bU (bU (bU (bU (bU (bU (bU (bU (bU (bU (bU (Y.F_newp (fun B2 => Y.F_putN (Y.F_nil ?_)))))))))))))))))))))
 refine ra rfl (eZ (cU (Y.D_start (m := 8) [] (cQ (Ei := [(2, _)]) rfl rfl (bQ (bJ rfl rfl) bX) rfl rfl (dZ rfl (eW A_30 Z_30 (Ht rfl) (i := 1) rfl rfl rfl)) (cQ (Ei := []) rfl rfl bX rfl rfl (dZ rfl (cJ Tryz.call86 (c_Int (n := 1) (by decide) (by decide)) ⟨(cV 1), trivial⟩)) (cQ (Ei := [(28, _), (29, _)]) rfl rfl (bQ (bZ 0 rfl rfl) (bQ (bZ 1 rfl rfl) bX)) rfl rfl (dZ rfl (cJ Tryz.call60 (eX (c_Term (z := fwZ) (s := fwS) (port := ((2 : Nat) : Int)) (g := Qi.ofInt 1) (L := 2) fw_shp fw_fs fw_f1 (by decide) (by decide) (by decide)) fw_ter) ⟨(Ht rfl), (cV 2), (Ht rfl), trivial⟩)) ?_))))))
 refine cQ (Ei := [(30, _)]) rfl rfl (bQ (bZ 2 rfl rfl) bX) rfl rfl (dZ rfl (cZ (Ht rfl))) (cQ (Ei := [(27, _)]) rfl rfl (bQ (bZ 3 rfl rfl) bX) rfl rfl (dZ rfl (dU (Ht rfl) rfl)) (cQ (Ei := [(27, _)]) rfl rfl (bQ (bZ 3 rfl rfl) bX) rfl rfl (dZ rfl (dU (Ht rfl) rfl)) (Y.D_newp (Ei := []) (fun bb => box bb 30 [NumsT fwTZ, NumM fwTS]) 7 rfl rfl rfl bX rfl rfl (by kernel_rfl) (eG (Ts := [Is (.slice none 0 0), Is (.slice none 0 0)]) O_30 rfl (fun V => aW ⟨rfl, trivial⟩ (aW ⟨rfl, trivial⟩ (aG)))) ?_)))
 refine Y.D_putN (Ei := [(31, _)]) 6 rfl rfl rfl rfl rfl rfl (bQ (bZ 4 rfl rfl) bX) (fun bb => P_stA Z_30 (Ht rfl) (Ht rfl) rfl (i := 0) rfl (aK rfl) rfl rfl) (Y.D_done mixed rfl (by kernel_rfl) rfl (by simp [Y.okP]) rfl rfl (bU (bU (bU (bU (bU (bU (Y.F_newp (fun B4 => Y.F_putN (Y.F_nil ?_))))))))))
 refine ra rfl (eZ (ts (ro rfl (eW A_30 Z_30 (Ht rfl) (i := 2) rfl rfl rfl) (ro rfl (cJ Tryz.call65 (eX (c_At (z := fwTZ) (s := fwTS) (i := ((1 : Nat) : Int)) (j := ((1 : Nat) : Int)) fw_tsh (by rw [fw_tz]; decide)) fw_at) ⟨(Ht rfl), (cV 1), (cV 1), trivial⟩) ?_))))
 refine rm rfl (ro rfl (dU (Ht rfl) rfl) (ro rfl (dU (Ht rfl) rfl) (rn rfl (eG (Ts := [Is (.bool false), Is (.slice none 0 0), Is (.bool false), Is (.slice none 0 0), Is (.slice none 0 0)]) O_45 rfl (fun V => aW ⟨rfl, trivial⟩ (aW ⟨rfl, trivial⟩ (aW ⟨rfl, trivial⟩ (aW ⟨rfl, trivial⟩ (aW ⟨rfl, trivial⟩ (aG))))))) fun B6 => (gX Z_45 (Ht rfl) (Ht rfl) rfl (i := 3) rfl (aK rfl) rfl rfl (ra rfl (eZ (ts (ro rfl (eW A_30 Z_30 (Ht rfl) (i := 1) rfl rfl rfl) ?_))))))))
 refine ro rfl (cJ Tryz.call17 (c_ImpE (z := fwZ) (s := fwS) (L := 2) fw_shp fw_fs (by decide) (by decide) (by decide) (by decide +kernel) (by decide +kernel) fw_inv) ⟨(Ht rfl), trivial⟩) (rm rfl (ro rfl (dU (Ht rfl) rfl) (ro rfl (dU (Ht rfl) rfl) (ra rfl (ra rfl (eZ (ts (rm rfl (ro rfl (op_eql (Ht rfl) cW) (rm rfl (fX rfl rfl (eU rfl rfl (Ht rfl) (fun h => cZ (Ht rfl))) (fX rfl rfl (eU rfl rfl (Ht rfl) (fun h => op_eql (fV rfl h) cW)) (ro rfl (op_and (Ht rfl) (fun h => (fV rfl h))) (rm rfl (fX rfl rfl (eU rfl rfl (Ht rfl) (fun h => cZ (Ht rfl))) ?_)))))))))))))))
 refine fX rfl rfl (eU rfl rfl (Ht rfl) (fun h => op_eql (fV rfl h) cW)) (ro rfl (op_and (Ht rfl) (fun h => (fV rfl h))) (rm rfl (fX rfl rfl (eU rfl rfl (Ht rfl) (fun h => cZ (Ht rfl))) (fX rfl rfl (eU rfl rfl (Ht rfl) (fun h => op_eql (fV rfl h) cW)) (ro rfl (op_and (Ht rfl) (fun h => (fV rfl h))) (rm rfl (fX rfl rfl (eU rfl rfl (Ht rfl) (fun h => eW A_30 Z_30 (Ht rfl) (i := 1) rfl rfl rfl)) (fX rfl rfl (eU rfl rfl (Ht rfl) (fun h => cJ Tryz.call37 c_Ports ⟨(fV rfl h), trivial⟩)) (fX rfl rfl (eU rfl rfl (Ht rfl) (fun h => op_eqlN (fV rfl h) (cV 2))) ?_)))))))))
 refine ro rfl (op_and (Ht rfl) (fun h => (fV rfl h))) (rm rfl (fX rfl rfl (eU rfl rfl (Ht rfl) (fun h => eW A_45 Z_45 (Ht rfl) (i := 3) rfl rfl rfl)) (fX rfl rfl (eU rfl rfl (Ht rfl) (fun h => cJ Tryz.call87 (c_Text (x := Qi.ofInt 1) (L := 2) (hx := fw_f1) (by decide)) ⟨(fV rfl h), trivial⟩)) (fX rfl rfl (eU rfl rfl (Ht rfl) (fun h => op_eqS (fV rfl h) (Has.cS (l := [49]) rfl))) (ro rfl (op_and (Ht rfl) (fun h => (fV rfl h))) (ra rfl (eZ (fG rfl (fZ (eY rfl) ?_)))))))))
 exact (bool_of (by rw [fw_t]; rfl))
end
section
open Go Go.RowKit
theorem c_refList4 {l : List Rt} (hl : l.length ≤ 1000000) : Fun Tryz.prog 26 [RatsT l] (QsT (l.map Rt.q)) := by
 refine Fun.intro Tryz.func26 rfl Tryz.ntmps26 rfl (fun cx => (ts (ro rfl (cX cW) (eZ (ts (rm rfl (ro rfl (dK U_22 (Ht rfl) len_map) (rn rfl (new_makeO (T := ZQ) (i := Tryz.t98) und_31 info_98 rfl rfl (Ht rfl) rfl zq_p (El.ag rfl) (by show 88 * _ ≤ _; omega) (by omega)) fun B8 => (ra rfl (eZ (cU (ts (rm rfl (ro rfl (dK U_22 (Ht rfl) len_map) (ro rfl (cZ (cV 0)) (eZ (eK ?_)))))))))))))))))
 refine T_loop (fun (k : Nat) => k ≤ l.length) (fun (k : Nat) => l.length - k) (fun (k : Nat) => [(3, Is B8), (9, RatsT l), (10, NT .i64 l.length), (11, NT .i64 k)]) (fun (k : Nat) => [rowO 98 5 B8 (mixT (fun i => QT (l.getD i default).q) ZQ l.length k)]) 0 (Nat.zero_le _)
  (aQ rfl (aQ rfl (aQ rfl (aQ rfl aX)))) (aU (rowO_of (by rw [← mix_zero]; exact rep_tab _ _)) aY) (fun k hk => ?_)
 refine ts (ro rfl (gZ (Ht rfl) (Ht rfl)) (eZ (cU (dX (Ht rfl) (fun hd => ?_) (fun hd => ?_)))))
 ·simp only [decide_eq_true_eq] at hd
  refine cY (cU (eK (ts (rm rfl (ro rfl (dJ U_22 Z_91 (Ht rfl) (Ht rfl) rfl (eQ (dY (d := default) hd))) (ro rfl (dV A_91 Z_91 (Ht rfl)) (rn rfl (eG (Ts := [Is (.int .i64 0), Is (.int .i64 0), Is (.int .i64 0)]) O_91 rfl (fun V => aW ⟨rfl, trivial⟩ (aW ⟨rfl, trivial⟩ (aW ⟨rfl, trivial⟩ (aG))))) fun B5 => (ra rfl (gX Z_91 (Ht rfl) (Ht rfl) rfl (i := 1) rfl (aK rfl) rfl rfl (eZ (dQ (rm rfl (rm rfl (ro rfl (eW A_91 Z_91 (Ht rfl) (i := 1) rfl rfl rfl) ?_))))))))))))))
  refine ro rfl (cJ Tryz.call52 c_rOf ⟨(Ht rfl), trivial⟩) (ro rfl (op_idxO U_31 Z_98 (Ht rfl) (Ht rfl) rfl (i := 0) rfl (by rw [mix_len]; omega) rfl) ?_)
  refine R_stO Z_98 (Ht rfl) (Ht rfl) (El.ag rfl) (i := 0) rfl rfl (by rw [mix_len]; omega) rfl ?_
  refine eZ (T_blk (dQ (ro rfl (dW (Ht rfl) (cV 1) (by show _ < 9223372036854775808; first | omega | (simp only [lim]; omega))) (rm rfl (eZ (T_keep [0] rfl (by decide) (fY (k + 1) hd (by omega) (aQ rfl (aQ rfl (aQ rfl (aQ rfl aX)))) (aU (rowO_of (mix_set (f := fun i => QT (l.getD i default).q))) aY))))))))
 ·simp only [decide_eq_false_iff_not] at hd
  obtain rfl : k = l.length := Nat.le_antisymm hk (by omega)
  rw [mix_fin]
  refine gW rfl (gV (i := 0) (tt := 3) rfl rfl frz_row (ts (rm rfl (ra rfl (eZ (fG rfl (fZ (eY rfl) ?_)))))))
  exact (slT_of (by rw [← tab_list l Rt.q, tab_map]))
theorem c_refRows4 {m : List (List Rt)} (hm : m.length ≤ 1000) (hr : ∀ r, r ∈ m → r.length ≤ 1000) : Fun Tryz.prog 27 [RatM m] (QM (rq m)) := by
 refine Fun.intro Tryz.func27 rfl Tryz.ntmps27 rfl (fun cx => (ts (ro rfl (cX cW) (eZ (ts (rm rfl (ro rfl (dK U_25 (Ht rfl) len_map) (rn rfl (new_makeO (T := QsT []) (i := Tryz.t31) und_32 info_31 rfl rfl (Ht rfl) rfl (fun V => nil_slT _ _ rfl) El.one (by show 24 * _ ≤ _; omega) (by omega)) fun B8 => (ra rfl (eZ (cU (ts (rm rfl (ro rfl (dK U_25 (Ht rfl) len_map) (ro rfl (cZ (cV 0)) (eZ (eK ?_)))))))))))))))))
 refine T_loop2 (fun (k : Nat) (out : List (List Qi)) => FillS (fun i => (m.getD i default).map Rt.q) m.length out k) (fun (k : Nat) (out : List (List Qi)) => m.length - k) (fun (k : Nat) (out : List (List Qi)) => [(3, Is B8), (9, RatM m), (10, NT .i64 m.length), (11, NT .i64 k)]) (fun (k : Nat) (out : List (List Qi)) => [rowO 31 1 B8 (out.map QsT)]) 0 (List.replicate m.length []) (FillS.start _ _ _)
  (aQ rfl (aQ rfl (aQ rfl (aQ rfl aX)))) (aU (rowO_of (rep_mapF QsT _ _)) aY) (fun k out hS => ?_)
 refine ts (ro rfl (gZ (Ht rfl) (Ht rfl)) (eZ (cU (dX (Ht rfl) (fun hk => ?_) (fun hk => ?_)))))
 ·simp only [decide_eq_true_eq] at hk
  have hlen := hS.len
  have hrk : (m.getD k default).length ≤ 1000 := by
   have e : m.getD k default = m[k] := by simp [List.getD, hk]
   rw [e]; exact hr _ (List.getElem_mem hk)
  refine cY (cU (eK (ts (rm rfl (ro rfl (dJ U_25 Z_22 (Ht rfl) (Ht rfl) rfl (eQ (dY (d := default) hk))) (ro rfl (dV A_22 Z_22 (Ht rfl)) (ra rfl (ra rfl (eZ (dQ (rm rfl (rm rfl (rm rfl (ro rfl (cJ Tryz.call26 (c_refList4 (by omega)) ⟨(Ht rfl), trivial⟩) (ro rfl (op_idxO U_32 Z_31 (Ht rfl) (Ht rfl) rfl (i := 0) rfl (by first | omega | (simp; omega)) rfl) (R_stO Z_31 (Ht rfl) (Ht rfl) El.one (i := 0) rfl rfl (by first | omega | (simp; omega)) rfl (eZ (T_blk ?_))))))))))))))))))
  refine dQ (ro rfl (dW (Ht rfl) (cV 1) (by show _ < 9223372036854775808; first | omega | (simp only [lim]; omega))) (rm rfl (eZ (fY (k + 1, _) (hS.next hk rfl) (by dsimp only; omega) (aQ rfl (aQ rfl (aQ rfl (aQ rfl aX)))) (aU (rowO_of (set_mapF QsT _ _ _)) aY)))))
 ·simp only [decide_eq_false_iff_not] at hk
  obtain rfl : k = m.length := Nat.le_antisymm hS.kle (by omega)
  have hfin := hS.fin
  rw [tab_list m (fun r => r.map Rt.q)] at hfin
  refine gW rfl (gV (i := 0) (tt := 3) rfl rfl frz_row (ts (rm rfl (ra rfl (eZ (fG rfl (fZ (eY rfl) ?_)))))))
  exact (slT_of (by rw [hfin]))
theorem c_is4 {z : List Qi} {s : List (List Qi)} {L : Nat} (hz : FitL z L) (hs : FitM s L) (hL1 : 1 ≤ L) (hL : L ≤ 8796093022208) (hsh : Shp s z.length z.length) (hl : z.length ≤ 1000) : Fun Tryz.prog 90 [NetT z s, RNetT z s] (BoolT true) := by
 have hs1 := hsh.1
 refine Fun.intro Tryz.func90 rfl Tryz.ntmps90 rfl (fun cx => (ts (rn rfl (fK (Ht rfl)) fun B2 => (rn rfl (fK (Ht rfl)) fun B3 => (ro rfl (cX cW) (eZ (cU (cU (fJ (m := 5) (dp 2 rfl (eW A_30 Z_30 (Ht rfl) (i := 0) rfl rfl rfl) (dq 13 0 rfl (cJ Tryz.call37 c_Ports ⟨(Ht rfl), trivial⟩) (dp 3 rfl (eJ fa_34_0 (Ht rfl) rfl) (dq 15 2 rfl (fQ Tryz.isAgg31 Z_31 (Ht rfl) (i := 1) rfl rfl) (dq 16 3 rfl (dK U_31 (Ht rfl) len_map) (fW mixed rfl (by kernel_rfl) (aJ (aJ (aJ (aJ (aJ (aV ?_)))))))))))))))))))))
 refine ro rfl (op_neqN (Ht rfl) (Ht rfl)) (eZ (T_condF (Ht rfl) (by simp) ?_))
 refine cY (cU (ts (ro rfl (eJ fa_34_0 (Ht rfl) rfl) (ro rfl (fQ Tryz.isAgg31 Z_31 (Ht rfl) (i := 1) rfl rfl) (ro rfl (dK U_31 (Ht rfl) len_map) (ro rfl (cZ (cV 0)) (eZ (eK ?_))))))))
 refine T_loop (fun (i : Nat) => i ≤ z.length) (fun (i : Nat) => z.length - i) (fun (i : Nat) => [(2, PtrB B2 0), (3, PtrB B3 0), (20, QsT z), (21, NT .i64 z.length), (22, NT .i64 i)]) (fun (i : Nat) => [box B2 30 [NumsT z, NumM s], box B3 34 [QsT z, QM s]]) 0 (Nat.zero_le _)
  (aQ rfl (aQ rfl (aQ rfl (aQ rfl (aQ rfl aX))))) (HSub.refl _) (fun i hi => ?_)
 refine ts (ro rfl (gZ (Ht rfl) (Ht rfl)) (eZ (cU (dX (Ht rfl) (fun hd => ?_) (fun hd => ?_)))))
 ·simp only [decide_eq_true_eq] at hd
  haveI f1 : FitC (gv z i) L := hz.get hL1 i
  have hsr := hsh.row hd
  refine cY (cU (eK (ts (rm rfl (ro rfl (dJ U_31 Z_98 (Ht rfl) (Ht rfl) rfl (eQ (dY (d := Qi.zero) hd))) (ro rfl (dV A_98 Z_98 (Ht rfl)) (rn rfl (eG (Ts := [Is (.bool false), Is (.slice none 0 0), Is (.bool false), Is (.slice none 0 0), Is (.slice none 0 0)]) O_98 rfl (fun V => aW ⟨rfl, trivial⟩ (aW ⟨rfl, trivial⟩ (aW ⟨rfl, trivial⟩ (aW ⟨rfl, trivial⟩ (aW ⟨rfl, trivial⟩ (aG))))))) fun B6 => (ra rfl (gX Z_98 (Ht rfl) (Ht rfl) rfl (i := 2) rfl (aK rfl) rfl rfl ?_)))))))))
  refine eZ (ts (ro rfl (eW A_30 Z_30 (Ht rfl) (i := 0) rfl rfl rfl) (rm rfl (ro rfl (dW (Ht rfl) (cV 1) (by show _ < 9223372036854775808; first | omega | (simp only [lim]; omega))) (ro rfl (cJ Tryz.call63 (eX (c_Ref (z := z) (s := s) (i := ((i + 1 : Nat) : Int)) (by omega)) (is_ref hd)) ⟨(Ht rfl), (Ht rfl), trivial⟩) (rm rfl (ro rfl (dU (Ht rfl) rfl) (ro rfl (dU (Ht rfl) rfl) (rn rfl (eG (Ts := [Is (.bool false), Is (.slice none 0 0), Is (.bool false), Is (.slice none 0 0), Is (.slice none 0 0)]) O_45 rfl (fun V => aW ⟨rfl, trivial⟩ (aW ⟨rfl, trivial⟩ (aW ⟨rfl, trivial⟩ (aW ⟨rfl, trivial⟩ (aW ⟨rfl, trivial⟩ (aG))))))) fun B7 => ?_)))))))))
  refine gX Z_45 (Ht rfl) (Ht rfl) rfl (i := 3) rfl (aK rfl) rfl rfl (ra rfl (eZ (cU (ts (rm rfl (ro rfl (op_neq (Ht rfl) cW) (rm rfl (fX rfl rfl (eU rfl rfl (Ht rfl) (fun h => eW A_45 Z_45 (Ht rfl) (i := 3) rfl rfl rfl)) (fX rfl rfl (eU rfl rfl (Ht rfl) (fun h => eW A_98 Z_98 (Ht rfl) (i := 2) rfl rfl rfl)) (fX rfl rfl (eU rfl rfl (Ht rfl) (fun h => cJ Tryz.call139 (c_lawIs (x := gv z i) (y := gv z i) (L := L) (M := L) hL hL) ⟨(fV rfl h), (fV rfl h), trivial⟩)) (fX rfl rfl (eU rfl rfl (Ht rfl) (fun h => op_not (fV rfl h))) ?_)))))))))))
  refine ro rfl (op_or (Ht rfl) (fun h => (fV rfl h))) (eZ (T_condF (Ht rfl) (by simp) ?_))
  refine cY (ts (ro rfl (eJ fa_34_1 (Ht rfl) rfl) (ro rfl (fQ Tryz.isAgg32 Tryz.sizeOf32 (Ht rfl) (i := 1) rfl rfl) (rm rfl (ro rfl (dJ U_32 Z_31 (Ht rfl) (Ht rfl) rfl (eQ (dY (d := []) (by omega)))) (ro rfl (dV Tryz.isAgg31 Z_31 (Ht rfl)) (ro rfl (dK U_31 (Ht rfl) len_map) (ro rfl (cZ (cV 0)) (eZ (eK (T_keep [0, 1] rfl (by decide) ?_)))))))))))
  refine T_loop (fun (j : Nat) => j ≤ z.length) (fun (j : Nat) => z.length - j) (fun (j : Nat) => [(2, PtrB B2 0), (3, PtrB B3 0), (5, NT .i64 i), (20, QsT z), (21, NT .i64 z.length), (22, NT .i64 i), (46, QsT (s.getD i [])), (47, NT .i64 z.length), (48, NT .i64 j)]) (fun (j : Nat) => [box B2 30 [NumsT z, NumM s], box B3 34 [QsT z, QM s]]) 0 (Nat.zero_le _)
   (aQ rfl (aQ rfl (aQ rfl (aQ rfl (aQ rfl (aQ rfl (aQ rfl (aZ rfl (nt_of hsr) (aQ rfl aX))))))))) (HSub.refl _) (fun j hj => ?_)
  refine ts (ro rfl (gZ (Ht rfl) (Ht rfl)) (eZ (cU (dX (Ht rfl) (fun hf => ?_) (fun hf => ?_)))))
  ·simp only [decide_eq_true_eq] at hf
   haveI f2 : FitC (gm s i j) L := hs.get hL1 i j
   refine cY (cU (eK (ts (rm rfl (ro rfl (dJ U_31 Z_98 (Ht rfl) (Ht rfl) rfl (eQ (dY (d := Qi.zero) (by omega)))) (ro rfl (dV A_98 Z_98 (Ht rfl)) (rn rfl (eG (Ts := [Is (.bool false), Is (.slice none 0 0), Is (.bool false), Is (.slice none 0 0), Is (.slice none 0 0)]) O_98 rfl (fun V => aW ⟨rfl, trivial⟩ (aW ⟨rfl, trivial⟩ (aW ⟨rfl, trivial⟩ (aW ⟨rfl, trivial⟩ (aW ⟨rfl, trivial⟩ (aG))))))) fun B10 => (ra rfl (gX Z_98 (Ht rfl) (Ht rfl) rfl (i := 2) rfl (aK rfl) rfl rfl ?_)))))))))
   refine eZ (ts (ro rfl (eW A_30 Z_30 (Ht rfl) (i := 0) rfl rfl rfl) (rm rfl (ro rfl (dW (Ht rfl) (cV 1) (by show _ < 9223372036854775808; first | omega | (simp only [lim]; omega))) (rm rfl (ro rfl (dW (Ht rfl) (cV 1) (by show _ < 9223372036854775808; first | omega | (simp only [lim]; omega))) (ro rfl (cJ Tryz.call65 (eX (c_At (z := z) (s := s) (i := ((i + 1 : Nat) : Int)) (j := ((j + 1 : Nat) : Int)) hsh (by omega)) (is_at hd hf)) ⟨(Ht rfl), (Ht rfl), (Ht rfl), trivial⟩) (rm rfl (ro rfl (dU (Ht rfl) rfl) (ro rfl (dU (Ht rfl) rfl) ?_))))))))))
   refine rn rfl (eG (Ts := [Is (.bool false), Is (.slice none 0 0), Is (.bool false), Is (.slice none 0 0), Is (.slice none 0 0)]) O_45 rfl (fun V => aW ⟨rfl, trivial⟩ (aW ⟨rfl, trivial⟩ (aW ⟨rfl, trivial⟩ (aW ⟨rfl, trivial⟩ (aW ⟨rfl, trivial⟩ (aG))))))) fun B11 => gX Z_45 (Ht rfl) (Ht rfl) rfl (i := 3) rfl (aK rfl) rfl rfl (ra rfl (eZ (ts (rm rfl (ro rfl (op_neq (Ht rfl) cW) (rm rfl (fX rfl rfl (eU rfl rfl (Ht rfl) (fun h => eW A_45 Z_45 (Ht rfl) (i := 3) rfl rfl rfl)) ?_)))))))
   refine fX rfl rfl (eU rfl rfl (Ht rfl) (fun h => eW A_98 Z_98 (Ht rfl) (i := 2) rfl rfl rfl)) (fX rfl rfl (eU rfl rfl (Ht rfl) (fun h => cJ Tryz.call139 (c_lawIs (x := gm s i j) (y := gm s i j) (L := L) (M := L) hL hL) ⟨(fV rfl h), (fV rfl h), trivial⟩)) (fX rfl rfl (eU rfl rfl (Ht rfl) (fun h => op_not (fV rfl h))) (ro rfl (op_or (Ht rfl) (fun h => (fV rfl h))) (eZ (T_condF (Ht rfl) (by simp) ?_)))))
   refine cY (T_blk (dQ (ro rfl (dW (Ht rfl) (cV 1) (by show _ < 9223372036854775808; first | omega | (simp only [lim]; omega))) (rm rfl (eZ (T_keep [0, 1] rfl (by decide) (fY (j + 1) hf (by omega) (aQ rfl (aQ rfl (aQ rfl (aQ rfl (aQ rfl (aQ rfl (aQ rfl (aQ rfl (aQ rfl aX))))))))) (HSub.refl _))))))))
  ·refine gW rfl (T_blk (dQ (ro rfl (dW (Ht rfl) (cV 1) (by show _ < 9223372036854775808; first | omega | (simp only [lim]; omega))) (rm rfl (eZ (T_keep [0, 1] rfl (by decide) (fY (i + 1) hd (by omega) (aQ rfl (aQ rfl (aQ rfl (aQ rfl (aQ rfl aX))))) (HSub.refl _))))))))
 ·refine gW rfl (ts (ro rfl (cX cW) (eZ ?_)))
  exact fG rfl (eY rfl)
end
section
open Go Go.RowKit
theorem tm_bound (x : Int) {b : Int} (h : 0 < b) : -b < x.tmod b ∧ x.tmod b < b := by
 by_cases hx : 0 ≤ x
 ·rw [Int.tmod_eq_emod_of_nonneg hx]
  have h1 := Int.emod_nonneg x (by omega : b ≠ 0)
  have h2 := Int.emod_lt_of_pos x h
  omega
 ·have e : x.tmod b = -((-x).tmod b) := by rw [Int.neg_tmod, Int.neg_neg]
  rw [e, Int.tmod_eq_emod_of_nonneg (by omega : 0 ≤ -x)]
  have h1 := Int.emod_nonneg (-x) (by omega : b ≠ 0)
  have h2 := Int.emod_lt_of_pos (-x) h
  omega
def absI (x : Int) : Int := if x < 0 then -x else x
theorem absI_b {x : Int} {b : Int} (h : -b < x ∧ x < b) : 0 ≤ absI x ∧ absI x < b := by unfold absI; split <;> omega
def smR (r : Rt) : Rt where
 re := r.re.tmod 9
 im := r.im.tmod 9
 den := absI (r.den.tmod 4) + 1
 h1 := by have := tm_bound r.re (b := 9) (by decide); omega
 h2 := by have := tm_bound r.re (b := 9) (by decide); omega
 h3 := by have := tm_bound r.im (b := 9) (by decide); omega
 h4 := by have := tm_bound r.im (b := 9) (by decide); omega
 h5 := by have := absI_b (tm_bound r.den (b := 4) (by decide)); omega
 h6 := by have := absI_b (tm_bound r.den (b := 4) (by decide)); omega
def imR (r : Rt) : Rt where
 re := absI (smR r).re + 1
 im := 0
 den := (smR r).den
 h1 := by have := absI_b (tm_bound r.re (b := 9) (by decide)); show _ ≤ absI (r.re.tmod 9) + 1; omega
 h2 := by have := absI_b (tm_bound r.re (b := 9) (by decide)); show absI (r.re.tmod 9) + 1 ≤ _; omega
 h3 := by decide
 h4 := by decide
 h5 := (smR r).h5
 h6 := (smR r).h6
def pkR (l : List Rt) (i : Nat) : Rt := if l.length = 0 then default else l.getD (i % l.length) default
def plN (a : Nat) : Nat := a % 4 + 1
def plZ (a : Nat) (zl : List Rt) : List Rt := tab (plN a) fun i => imR (pkR zl i)
def plS (a : Nat) (sl : List Rt) : List (List Rt) := tab (plN a) fun i => tab (plN a) fun j => smR (pkR sl (plN a * i + j))
theorem imR_pos (r : Rt) : posQ (imR r).q = true := by
 have h1 := absI_b (tm_bound r.re (b := 9) (by decide))
 have h2 := absI_b (tm_bound r.den (b := 4) (by decide))
 have hd : (imR r).d = absI (r.den.tmod 4) + 1 := by
  show (if absI (r.den.tmod 4) + 1 = 0 then 1 else absI (r.den.tmod 4) + 1) = _
  rw [if_neg (by omega)]
 have hq : (imR r).q = Qi.frac (absI (r.re.tmod 9) + 1) 0 (absI (r.den.tmod 4) + 1) := by rw [Rt.q, hd]; rfl
 have hb : (imR r).q.b = 0 := Qi.b_zero.2 (by rw [hq]; show ((0 : Int) : Rat) / _ = 0; rw [Rat.div_def]; exact Rat.zero_mul _)
 have ha : 0 < (imR r).q.a := by
  rw [Qi.a_pos, hq]
  show (0 : Rat) < ((absI (r.re.tmod 9) + 1 : Int) : Rat) / ((absI (r.den.tmod 4) + 1 : Int) : Rat)
  rw [Rat.div_def]
  refine Rat.mul_pos (Rat.intCast_pos.2 (by omega)) (Rat.inv_pos.2 (Rat.intCast_pos.2 (by omega)))
 simp only [posQ, hb, ha, and_self, decide_true]
theorem pl_err (a : Nat) (zl sl : List Rt) : netErr ((plZ a zl).map Rt.q) (rq (plS a sl)) = 0 := by
 have hz : ((plZ a zl).map Rt.q).length = plN a := by rw [List.length_map, plZ, tab_len]
 have hs : (rq (plS a sl)).length = plN a := by rw [List.length_map, plS, tab_len]
 have hn : plN a ≤ 4 := by unfold plN; omega
 have hn1 : 1 ≤ plN a := by unfold plN; omega
 rw [netErr, if_neg, if_pos]
 ·rw [List.all_eq_true]
  intro x hx
  obtain ⟨r, hr, rfl⟩ := List.mem_map.1 hx
  obtain ⟨i, _, rfl⟩ := tab_mem.1 hr
  exact imR_pos _
 ·rw [hz, hs]
  rintro (h | h | h | h)
  ·omega
  ·omega
  ·exact h rfl
  ·obtain ⟨r, hr, h2⟩ := List.any_eq_true.1 h
   obtain ⟨y, hy, rfl⟩ := List.mem_map.1 hr
   obtain ⟨i, _, rfl⟩ := tab_mem.1 hy
   simp [tab_len] at h2
def dotF (x : Qi) (l m : List Qi) : Nat → Qi
 | 0 => x
 | k + 1 => dotF x l m k + gv l k * gv m k
theorem dotF_fit {x : Qi} {l m : List Qi} {L M : Nat} (hx : FitC x M) (hl : FitL l L) (hm : FitL m L) (hL : 1 ≤ L) : ∀ k, FitC (dotF x l m k) (M + k * (2 * L + 2))
 | 0 => hx.le (by omega)
 | k + 1 => by
  haveI f1 := dotF_fit hx hl hm hL k
  haveI f2 := hl.get hL k
  haveI f3 := hm.get hL k
  have : FitC (dotF x l m (k + 1)) (M + k * (2 * L + 2) + (L + L + 1) + 1) := by unfold dotF; infer_instance
  exact this.le (by rw [Nat.add_mul]; omega)
end
section
open Go Go.RowKit
theorem bld_91_0_1_2 {n : Nat} {E : Env} {H : Hp} {d : Option Tmp} {t : TypeId} {pos : String} {af : Array Edge} {g : Option (Nat × Bool)} {x0 x1 x2 : Operand} {T0 T1 T2 : Ty} [s0 : Shape T0 1 false] (h0 : Has E x0 T0) [s1 : Shape T1 1 false] (h1 : Has E x1 T1) [s2 : Shape T2 1 false] (h2 : Has E x2 T2) :
  OpTy Tryz.prog n E H ⟨d, .build 91 #[(0, x0), (1, x1), (2, x2)], t, pos, af, g⟩ (AggT [T0, T1, T2]) :=
 op_build (parts := [(0, x0), (1, x1), (2, x2)]) fun a V w hs => by
  have p0 := h0 n V a hs
  generalize e0 : a.eval x0 = v0 at p0
  have q0 := (s0.ok v0 V p0).2.2 rfl
  have p1 := h1 n V a hs
  generalize e1 : a.eval x1 = v1 at p1
  have q1 := (s1.ok v1 V p1).2.2 rfl
  have p2 := h2 n V a hs
  generalize e2 : a.eval x2 = v2 at p2
  have q2 := (s2.ok v2 V p2).2.2 rfl
  refine ⟨.agg #[v0, v1, v2], ?_, [v0, v1, v2], rfl, aW (⟨p0, q0⟩) (aW (⟨p1, q1⟩) (aW (⟨p2, q2⟩) (aG)))⟩
  simp [e0, e1, e2, Instr.build, Instr.fill, Sem.run_bind, Result.andThen, cells_agg, q0.cells, q1.cells, q2.cells, O_91, U_91, Z_2]
end
section
open Go Go.RowKit
theorem c_dot {x : Qi} {l m : List Qi} {L M n : Nat} (hx : FitC x M) (hl : FitL l L) (hm : FitL m L) (hL : 1 ≤ L) (hll : l.length = n) (hml : m.length = n) (hn : n ≤ 1000) (hb : M + n * (2 * L + 2) ≤ 17592186044415) : Fun Tryz.prog 162 [NumT x, NumsT l, NumsT m] (NumT (dotF x l m n)) := by
 refine Fun.intro Tryz.func162 rfl Tryz.ntmps162 rfl (fun cx => (ts (rn rfl (fK (Ht rfl)) fun B3 => (rn rfl (eG (Ts := [Is (.bool false), Is (.slice none 0 0), Is (.bool false), Is (.slice none 0 0), Is (.slice none 0 0)]) O_45 rfl (fun V => aW ⟨rfl, trivial⟩ (aW ⟨rfl, trivial⟩ (aW ⟨rfl, trivial⟩ (aW ⟨rfl, trivial⟩ (aW ⟨rfl, trivial⟩ (aG))))))) fun B6 => (eZ (cU (ts (rm rfl (ro rfl (dK U_27 (Ht rfl) (by rw [List.length_map, hll])) ?_)))))))))
 refine ro rfl (cZ (cV 0)) (eZ (eK ?_))
 refine T_loop (fun (k : Nat) => k ≤ n) (fun (k : Nat) => n - k) (fun (k : Nat) => [(1, NumsT l), (2, NumsT m), (3, PtrB B3 0), (6, PtrB B6 0), (9, NT .i64 n), (10, NT .i64 k)]) (fun (k : Nat) => [box B3 45 [BoolT (decide ((dotF x l m k).a < 0)), NatT (dotF x l m k).a.natAbs, BoolT (decide ((dotF x l m k).b < 0)), NatT (dotF x l m k).b.natAbs, NatT (du (dotF x l m k))], box B6 45 [Is (.bool false), Is (.slice none 0 0), Is (.bool false), Is (.slice none 0 0), Is (.slice none 0 0)]]) 0 (Nat.zero_le _)
  (aQ rfl (aQ rfl (aQ rfl (aQ rfl (aQ rfl (aQ rfl aX)))))) (HSub.refl _) (fun k hk => ?_)
 refine ts (ro rfl (gZ (Ht rfl) (Ht rfl)) (eZ (cU (dX (Ht rfl) (fun hd => ?_) (fun hd => ?_)))))
 ·simp only [decide_eq_true_eq] at hd
  haveI f1 := dotF_fit hx hl hm hL k
  haveI f2 := hl.get hL k
  haveI f3 := hm.get hL k
  have hkn : (k + 1) * (2 * L + 2) ≤ n * (2 * L + 2) := Nat.mul_le_mul_right _ hd
  rw [Nat.add_mul] at hkn
  refine cY (cU (eK (ts (rm rfl (ra rfl (eZ (fJ (m := 12) (dp 3 rfl (eW A_45 Z_45 (Ht rfl) (i := 0) rfl rfl rfl) (dq 13 0 rfl (op_iface mkif_45 (Ht rfl)) (dp 1 rfl (cZ (Ht rfl)) (dp 7 rfl (cZ (Ht rfl)) (dqq 15 2 16 3 rfl (dJ U_27 Z_45 (Ht rfl) (Ht rfl) rfl (eQ (dY (d := Qi.zero) (by omega)))) (dq 17 4 rfl (dV A_45 Z_45 (Ht rfl)) (dq 18 5 rfl (op_iface mkif_45 (Ht rfl)) (dp 2 rfl (cZ (Ht rfl)) (dp 7 rfl (cZ (Ht rfl)) (dqq 20 7 21 8 rfl (dJ U_27 Z_45 (Ht rfl) (Ht rfl) rfl (eQ (dY (d := Qi.zero) (by omega)))) ?_)))))))))))))))))
  refine dq 22 9 rfl (dV A_45 Z_45 (Ht rfl)) (dqq 19 6 23 10 rfl (op_invoke meth_45_Mul K_67 (c_Mul (x := gv l k) (y := gv m k) (L := L) (M := L) (by omega)) (Ht rfl) ⟨(Ht rfl), trivial⟩) (fW mixed rfl (by kernel_rfl) (aJ (aJ (aJ (aJ (aJ (aJ (aJ (aJ (aJ (aJ (aJ (aJ (aV (ro rfl (op_invoke meth_45_Add Tryz.call68 (c_Add (x := dotF x l m k) (y := gv l k * gv m k) (L := M + k * (2 * L + 2)) (M := L + L + 1) (by omega)) (Ht rfl) ⟨(Ht rfl), trivial⟩) (gX Z_45 (Ht rfl) (Ht rfl) rfl (i := 0) rfl (aK rfl) rfl rfl ?_)))))))))))))))))
  refine eZ (T_blk (dQ (ro rfl (dW (Ht rfl) (cV 1) (by show _ < 9223372036854775808; first | omega | (simp only [lim]; omega))) (rm rfl (eZ (fY (k + 1) hd (by omega) (aQ rfl (aQ rfl (aQ rfl (aQ rfl (aQ rfl (aQ rfl aX)))))) (HSub.refl _)))))))
 ·simp only [decide_eq_false_iff_not] at hd
  obtain rfl : k = n := Nat.le_antisymm hk (by omega)
  refine gW rfl (ts (ro rfl (eW A_45 Z_45 (Ht rfl) (i := 0) rfl rfl rfl) (gX Z_45 (Ht rfl) (Ht rfl) rfl (i := 1) rfl (aK rfl) rfl rfl (eZ ?_))))
  exact fG rfl (fU A_45 Z_45 rfl (i := 1) rfl rfl)
theorem c_small {r : Rt} : Fun Tryz.prog 161 [RatT r] (RatT (smR r)) := by
 have b1 := tm_bound r.den (b := 4) (by decide)
 refine Fun.intro Tryz.func161 rfl Tryz.ntmps161 rfl (fun cx => (ts (rn rfl (fK (Ht rfl)) fun B1 => (rn rfl (eG (Ts := [Is (.int .i64 0), Is (.int .i64 0), Is (.int .i64 0)]) O_91 rfl (fun V => aW ⟨rfl, trivial⟩ (aW ⟨rfl, trivial⟩ (aW ⟨rfl, trivial⟩ (aG))))) fun B2 => (eZ (ts (ro rfl (eJ fa_91_2 (Ht rfl) rfl) (ro rfl (fQ A_2 Z_2 (Ht rfl) (i := 0) rfl rfl) (ro rfl (op_rem (Ht rfl) cW (by decide) rfl) (ra rfl (eZ (cU (T_join (fun (d : Int) => d = absI (r.den.tmod 4)) (fun (d : Int) => [(1, PtrB B1 0), (2, PtrB B2 0), (3, IntT .i64 d)]) (fun (d : Int) => [box B1 91 [IntT .i64 r.re, IntT .i64 r.im, IntT .i64 r.den], box B2 91 [Is (.int .i64 0), Is (.int .i64 0), Is (.int .i64 0)]]) ?_ (fun d hd => ?_))))))))))))))
 ·refine ts (rm rfl (ro rfl (op_lss (Ht rfl) cW) (eZ (dX (Ht rfl) (fun hb => ?_) (fun hb => ?_)))))
  ·have hb2 : r.den.tmod 4 < 0 := of_decide_eq_true hb
   refine dQ (rm rfl (ro rfl (op_neg (Ht rfl) (w64 (by omega))) (ra rfl (eZ (T_joined (-(r.den.tmod 4)) (by rw [absI, if_pos hb2]) (aQ rfl (aQ rfl (aQ rfl aX))) (HSub.refl _))))))
  ·have hb2 : ¬ r.den.tmod 4 < 0 := of_decide_eq_false hb
   refine cY (T_joined (r.den.tmod 4) (by rw [absI, if_neg hb2]) (aQ rfl (aQ rfl (aQ rfl aX))) (HSub.refl _))
 ·have b2 := absI_b b1
  rw [← hd] at b2
  refine ts (ro rfl (eJ fa_91_0 (Ht rfl) rfl) (ro rfl (fQ A_2 Z_2 (Ht rfl) (i := 0) rfl rfl) (ro rfl (op_rem (Ht rfl) cW (by decide) rfl) (ro rfl (eJ fa_91_1 (Ht rfl) rfl) (ro rfl (fQ A_2 Z_2 (Ht rfl) (i := 0) rfl rfl) (ro rfl (op_rem (Ht rfl) cW (by decide) rfl) (rm rfl (ro rfl (op_add (Ht rfl) cW (w64 (by omega))) (ro rfl (bld_91_0_1_2 (Ht rfl) (Ht rfl) (Ht rfl)) (gX Z_91 (Ht rfl) (Ht rfl) rfl (i := 1) rfl (aK rfl) rfl rfl (eZ (fG rfl (fZ (fU A_91 Z_91 rfl (i := 1) rfl rfl) ?_)))))))))))))
  exact (fun v V h => by rw [hd] at h; exact h)
theorem c_imped {r : Rt} : Fun Tryz.prog 74 [RatT r] (RatT (imR r)) := by
 have b1 : -9 < (smR r).re ∧ (smR r).re < 9 := tm_bound r.re (b := 9) (by decide)
 refine Fun.intro Tryz.func74 rfl Tryz.ntmps74 rfl (fun cx => (ts (rn rfl (fK (Ht rfl)) fun B1 => (rn rfl (eG (Ts := [Is (.int .i64 0), Is (.int .i64 0), Is (.int .i64 0)]) O_91 rfl (fun V => aW ⟨rfl, trivial⟩ (aW ⟨rfl, trivial⟩ (aW ⟨rfl, trivial⟩ (aG))))) fun B2 => (eZ (ts (ro rfl (eW A_91 Z_91 (Ht rfl) (i := 0) rfl rfl rfl) (ro rfl (cJ Tryz.call161 c_small ⟨(Ht rfl), trivial⟩) (rn rfl (eG (Ts := [Is (.int .i64 0), Is (.int .i64 0), Is (.int .i64 0)]) O_91 rfl (fun V => aW ⟨rfl, trivial⟩ (aW ⟨rfl, trivial⟩ (aW ⟨rfl, trivial⟩ (aG))))) fun B3 => ?_)))))))))
 refine gX Z_91 (Ht rfl) (Ht rfl) rfl (i := 2) rfl (aK rfl) rfl rfl (eZ (cU (T_join (fun (x : Int) => x = absI (smR r).re) (fun (x : Int) => [(1, PtrB B1 0), (2, PtrB B2 0), (3, PtrB B3 0)]) (fun (x : Int) => [box B1 91 [IntT .i64 r.re, IntT .i64 r.im, IntT .i64 r.den], box B2 91 [Is (.int .i64 0), Is (.int .i64 0), Is (.int .i64 0)], box B3 91 [IntT .i64 x, IntT .i64 (smR r).im, IntT .i64 (smR r).den]]) ?_ (fun x hx => ?_))))
 ·refine ts (ro rfl (eJ fa_91_0 (Ht rfl) rfl) (ro rfl (fQ A_2 Z_2 (Ht rfl) (i := 2) rfl rfl) (ro rfl (op_lss (Ht rfl) cW) (eZ (dX (Ht rfl) (fun hb => ?_) (fun hb => ?_))))))
  ·have hb2 : (smR r).re < 0 := of_decide_eq_true hb
   refine dQ (ro rfl (eJ fa_91_0 (Ht rfl) rfl) (ro rfl (fQ A_2 Z_2 (Ht rfl) (i := 2) rfl rfl) (ro rfl (op_neg (Ht rfl) (w64 (by omega))) (ro rfl (eJ fa_91_0 (Ht rfl) rfl) (R_st Z_2 (Ht rfl) (Ht rfl) (i := 2) rfl (aK rfl) rfl (eZ (T_joined (-((smR r).re)) (by rw [absI, if_pos hb2]) (aQ rfl (aQ rfl (aQ rfl aX))) (HSub.refl _))))))))
  ·have hb2 : ¬ (smR r).re < 0 := of_decide_eq_false hb
   refine cY (T_joined ((smR r).re) (by rw [absI, if_neg hb2]) (aQ rfl (aQ rfl (aQ rfl aX))) (HSub.refl _))
 ·have b2 := absI_b b1
  rw [← hx] at b2
  refine ts (ro rfl (eJ fa_91_0 (Ht rfl) rfl) (ro rfl (fQ A_2 Z_2 (Ht rfl) (i := 2) rfl rfl) (ro rfl (op_add (Ht rfl) cW (w64 (by omega))) (ro rfl (eJ fa_91_2 (Ht rfl) rfl) (ro rfl (fQ A_2 Z_2 (Ht rfl) (i := 2) rfl rfl) (ro rfl (bld_91_0_2 (Ht rfl) (Ht rfl)) (gX Z_91 (Ht rfl) (Ht rfl) rfl (i := 1) rfl (aK rfl) rfl rfl (eZ (fG rfl (fZ (fU A_91 Z_91 rfl (i := 1) rfl rfl) ?_))))))))))
  exact (fun v V h => by rw [hx] at h; exact h)
theorem c_pick {l : List Rt} {i : Nat} : Fun Tryz.prog 75 [RatsT l, NT .i64 i] (RatT (pkR l i)) := by
 refine Fun.intro Tryz.func75 rfl Tryz.ntmps75 rfl (fun cx => (ts (rn rfl (eG (Ts := [Is (.int .i64 0), Is (.int .i64 0), Is (.int .i64 0)]) O_91 rfl (fun V => aW ⟨rfl, trivial⟩ (aW ⟨rfl, trivial⟩ (aW ⟨rfl, trivial⟩ (aG))))) fun B4 => (eZ (cU (ts (rm rfl (ro rfl (dK U_22 (Ht rfl) len_map) (ro rfl (op_eqlN (Ht rfl) (cV 0)) (eZ (dX (Ht rfl) (fun hb => ?_) (fun hb => ?_))))))))))))
 ·have hb2 : l.length = 0 := by simpa only [decide_eq_true_eq] using hb
  refine ts (ro rfl (bld_91_ ) (gX Z_91 (Ht rfl) (Ht rfl) rfl (i := 0) rfl (aK rfl) rfl rfl (eZ (fG rfl (fZ (fU A_91 Z_91 rfl (i := 0) rfl rfl) ?_)))))
  exact (fun v V h => by rw [pkR, if_pos hb2]; exact h)
 ·have hb2 : ¬ l.length = 0 := by simpa only [decide_eq_false_iff_not] using hb
  have hm := Nat.mod_lt i (Nat.pos_of_ne_zero hb2)
  refine cY (ts (rm rfl (rm rfl (rm rfl (ro rfl (dK U_22 (Ht rfl) len_map) (ro rfl (op_remN (Ht rfl) (Ht rfl) (by omega)) (ro rfl (dJ U_22 Z_91 (Ht rfl) (Ht rfl) rfl (eQ (dY (d := default) hm))) (ro rfl (dV A_91 Z_91 (Ht rfl)) (gX Z_91 (Ht rfl) (Ht rfl) rfl (i := 0) rfl (aK rfl) rfl rfl (eZ (fG rfl (fZ (fU A_91 Z_91 rfl (i := 0) rfl rfl) ?_))))))))))))
  exact (fun v V h => by rw [pkR, if_neg hb2]; exact h)
end
section
open Go Go.RowKit
namespace Qi
def npow' (x : Qi) : Nat → Qi
 | 0 => Qi.ofInt 1
 | k + 1 => npow' x k * x
theorem one_mul2 (x : Qi) : Qi.ofInt 1 * x = x := ext' (by show ((1 : Int) : Rat) * x.re - 0 * x.im = x.re; grind) (by show ((1 : Int) : Rat) * x.im + 0 * x.re = x.im; grind)
theorem mul_one2 (x : Qi) : x * Qi.ofInt 1 = x := by rw [mul_comm', one_mul2]
end Qi
instance qiField : Lean.Grind.CommRing Qi where
 natCast := ⟨fun n => Qi.ofInt n⟩
 ofNat n := ⟨Qi.ofInt n⟩
 nsmul := ⟨fun n x => Qi.ofInt n * x⟩
 npow := ⟨Qi.npow'⟩
 add_zero := Qi.add_zero'
 add_comm := Qi.add_comm'
 add_assoc := Qi.add_assoc'
 mul_assoc := Qi.mul_assoc'
 mul_comm := Qi.mul_comm'
 mul_one := Qi.mul_one2
 one_mul := Qi.one_mul2
 left_distrib := Qi.mul_add'
 right_distrib := Qi.add_mul'
 zero_mul := Qi.zero_mul'
 mul_zero := Qi.mul_zero'
 pow_zero _ := rfl
 pow_succ _ _ := rfl
 ofNat_succ n := Qi.ext' (by show (((n + 1 : Nat) : Int) : Rat) = ((n : Int) : Rat) + ((1 : Int) : Rat); rw [Int.natCast_add, Rat.intCast_add]; rfl) (by show (0 : Rat) = 0 + 0; grind)
 intCast := ⟨Qi.ofInt⟩
 zsmul := ⟨fun n x => Qi.ofInt n * x⟩
 neg_add_cancel x := Qi.ext' (by show -x.re + x.re = ((0 : Int) : Rat); grind) (by show -x.im + x.im = 0; grind)
 sub_eq_add_neg := Qi.sub_def
 neg_zsmul i x := Qi.ext' (by show ((-i : Int) : Rat) * x.re - 0 * x.im = -((i : Rat) * x.re - 0 * x.im); rw [Rat.intCast_neg]; grind) (by show ((-i : Int) : Rat) * x.im + 0 * x.re = -((i : Rat) * x.im + 0 * x.re); rw [Rat.intCast_neg]; grind)
 intCast_neg i := Qi.ext' (Rat.intCast_neg i) (by show (0 : Rat) = -0; grind)
theorem q0 : Qi.zero = 0 := rfl
theorem q1 : Qi.ofInt 1 = 1 := rfl
theorem mul_inv2 {x : Qi} (h : x ≠ 0) : x * Qi.inv x = 1 := by
 have hn : x.nrm ≠ 0 := fun e => h (Qi.nrm_zero.1 e)
 have e : x.re * x.re + x.im * x.im = x.nrm := rfl
 refine Qi.ext' ?_ ?_
 ·show x.re * (x.re / x.nrm) - x.im * (-x.im / x.nrm) = ((1 : Int) : Rat)
  grind
 ·show x.re * (-x.im / x.nrm) + x.im * (x.re / x.nrm) = 0
  grind
theorem div_eq {x y : Qi} (h : y ≠ 0) : x / y * y = x := by
 rw [Qi.div_def]
 have := mul_inv2 h
 grind
theorem eq_div {x y z : Qi} (h : y ≠ 0) (e : x = z * y) : x / y = z := by
 have h1 := div_eq (x := x) h
 have h2 := mul_inv2 h
 grind
theorem mul_zero_or {x y : Qi} (h : x * y = 0) : x = 0 ∨ y = 0 := by
 by_cases e : x = 0
 ·exact .inl e
 ·right; have := mul_inv2 e; grind
end
section
open Go Go.RowKit
theorem sumN_sub (m : Nat) (f : Qi) (a b : Nat → Qi) : sumN m (fun k => a k - f * b k) = sumN m a - f * sumN m b := by
 induction m with
 | zero => simp only [sumN, q0]; grind
 | succ m ih => simp only [sumN, ih]; grind
theorem sumN_single {m i : Nat} (hi : i < m) {f : Nat → Qi} (h : ∀ k, k < m → k ≠ i → f k = 0) : sumN m f = f i := by
 induction m with
 | zero => omega
 | succ m ih =>
  by_cases e : i = m
  ·subst e
   have : sumN i f = 0 := by
    rw [← q0, ← sumN_zero i]
    exact sumN_congr fun k hk => h k (by omega) (by omega)
   simp only [sumN, this]; grind
  ·have h1 := ih (by omega) (fun k hk => h k (by omega))
   have h2 := h m (by omega) (by omega)
   simp only [sumN, h1, h2]; grind
theorem sumN_all0 {m : Nat} {f : Nat → Qi} (h : ∀ k, k < m → f k = 0) : sumN m f = 0 := by
 rw [← q0, ← sumN_zero m]; exact sumN_congr h
def Ker (M : List (List Qi)) (n m : Nat) (x : Nat → Qi) : Prop := ∀ i, i < n → sumN m (fun k => gm M i k * x k) = 0
def redJR (rr rc : List Qi) (c k : Nat) : List Qi := tab rr.length fun j => if c ≤ j ∧ j < k then gv rr j - gv rr c / gv rc c * gv rc j else gv rr j
def redJ (M : List (List Qi)) (c r : Nat) : List (List Qi) := tab M.length fun i => if i ≠ c ∧ i < r then redJR (rw' M i) (rw' M c) c (rw' M i).length else rw' M i
theorem redJ_len (M : List (List Qi)) (c r : Nat) : (redJ M c r).length = M.length := tab_len _ _
theorem redJR_len (rr rc : List Qi) (c k : Nat) : (redJR rr rc c k).length = rr.length := tab_len _ _
theorem redJ_row {M : List (List Qi)} {c r i : Nat} (hi : i < M.length) : rw' (redJ M c r) i = if i ≠ c ∧ i < r then redJR (rw' M i) (rw' M c) c (rw' M i).length else rw' M i := by
 simp only [rw', redJ, List.getD]; rw [tab_get hi]; rfl
theorem redJ_shp {M : List (List Qi)} {n m c r : Nat} (h : Shp M n m) : Shp (redJ M c r) n m := by
 refine ⟨(redJ_len _ _ _).trans h.1, fun x hx => ?_⟩
 obtain ⟨i, hi, rfl⟩ := tab_mem.1 hx
 have hr := h.row (i := i) (by rw [← h.1]; exact hi)
 show (if i ≠ c ∧ i < r then redJR (rw' M i) (rw' M c) c (rw' M i).length else rw' M i).length = m
 split
 ·rw [redJR_len]; exact hr
 ·exact hr
theorem redJ_gm {M : List (List Qi)} {n m c i j : Nat} (h : Shp M n m) (hi : i < n) (hj : j < m) : gm (redJ M c n) i j = if i ≠ c ∧ c ≤ j then gm M i j - gm M i c / gm M c c * gm M c j else gm M i j := by
 have hr : (rw' M i).length = m := h.row hi
 show gv (rw' (redJ M c n) i) j = _
 rw [redJ_row (by rw [h.1]; exact hi)]
 by_cases e : i = c
 ·rw [if_neg (fun k => k.1 e), if_neg (fun k => k.1 e)]
 ·rw [if_pos ⟨e, hi⟩, redJR, gv_tab (by omega)]
  by_cases e2 : c ≤ j
  ·rw [if_pos ⟨e2, by omega⟩, if_pos ⟨e, e2⟩]
  ·rw [if_neg (fun k => e2 k.1), if_neg (fun k => e2 k.2)]
theorem swp_rw {M : List (List Qi)} {p c i : Nat} (hp : p < M.length) (hc : c < M.length) : rw' (swp [] M p c) i = rw' M (if i = c then p else if i = p then c else i) := by
 simp only [rw', swp, List.getD]
 by_cases e : i = c
 ·subst e; rw [List.getElem?_set_self (by simpa using hc), if_pos rfl]; rfl
 ·rw [List.getElem?_set_ne (Ne.symm e), if_neg e]
  by_cases e2 : i = p
  ·subst e2; rw [List.getElem?_set_self hp, if_pos rfl]; rfl
  ·rw [List.getElem?_set_ne (Ne.symm e2), if_neg e2]
theorem ker_swp {M : List (List Qi)} {n m p c : Nat} {x : Nat → Qi} (hl : M.length = n) (hp : p < n) (hc : c < n) : Ker (swp [] M p c) n m x ↔ Ker M n m x := by
 have key : ∀ i, gm (swp [] M p c) i = gm M (if i = c then p else if i = p then c else i) := fun i => by
  funext j; exact congrArg (fun r => gv r j) (swp_rw (by omega) (by omega))
 constructor
 ·intro h i hi
  have h1 := h (if i = c then p else if i = p then c else i) (by split <;> (try split) <;> omega)
  rw [key] at h1
  have e : (if (if i = c then p else if i = p then c else i) = c then p else if (if i = c then p else if i = p then c else i) = p then c else (if i = c then p else if i = p then c else i)) = i := by
   by_cases e1 : i = c
   ·subst e1; rw [if_pos rfl]
    by_cases e2 : p = i
    ·rw [if_pos e2]; exact e2
    ·rw [if_neg e2, if_pos rfl]
   ·rw [if_neg e1]
    by_cases e2 : i = p
    ·subst e2; rw [if_pos rfl, if_pos rfl]
    ·rw [if_neg e2, if_neg e1, if_neg e2]
  rw [e] at h1; exact h1
 ·intro h i hi
  rw [key]; exact h _ (by split <;> (try split) <;> omega)
theorem ker_red {M : List (List Qi)} {n m c : Nat} {x : Nat → Qi} (hs : Shp M n m) (hc : c < n) (hz : ∀ j, j < c → gm M c j = 0) : Ker (redJ M c n) n m x ↔ Ker M n m x := by
 have key : ∀ i, i < n → i ≠ c → sumN m (fun k => gm (redJ M c n) i k * x k) = sumN m (fun k => gm M i k * x k) - gm M i c / gm M c c * sumN m (fun k => gm M c k * x k) := fun i hi e => by
  rw [← sumN_sub]
  refine sumN_congr fun k hk => ?_
  rw [redJ_gm hs hi hk]
  by_cases e2 : c ≤ k
  ·rw [if_pos ⟨e, e2⟩]; grind
  ·rw [if_neg (fun h => e2 h.2), hz k (by omega)]; grind
 have keyc : sumN m (fun k => gm (redJ M c n) c k * x k) = sumN m (fun k => gm M c k * x k) := sumN_congr fun k hk => by rw [redJ_gm hs hc hk, if_neg (fun h => h.1 rfl)]
 constructor
 ·intro h i hi
  have h0 := h c hc
  rw [keyc] at h0
  by_cases e : i = c
  ·rw [e]; exact h0
  ·have h1 := h i hi
   rw [key i hi e, h0] at h1
   grind
 ·intro h i hi
  have h0 := h c hc
  by_cases e : i = c
  ·rw [e, keyc]; exact h0
  ·rw [key i hi e, h0, h i hi]; grind
structure GJ (M A : List (List Qi)) (n m c : Nat) : Prop where
 sh : Shp A n m
 ker : ∀ x, Ker A n m x ↔ Ker M n m x
 off : ∀ j, j < c → ∀ i, i < n → i ≠ j → gm A i j = 0
 dg : ∀ j, j < c → gm A j j ≠ 0
theorem GJ.next {M A : List (List Qi)} {n m c p : Nat} (h : GJ M A n m c) (hc : c < n) (hnm : n ≤ m) (hcp : c ≤ p) (hp : p < n) (hz : gm A p c ≠ 0) : GJ M (redJ (swp [] A p c) c n) n m (c + 1) := by
 have hs : Shp (swp [] A p c) n m := swp_shp h.sh hp hc
 have hl := h.sh.1
 have key : ∀ i, gm (swp [] A p c) i = gm A (if i = c then p else if i = p then c else i) := fun i => by
  funext j; exact congrArg (fun r => gv r j) (swp_rw (by omega) (by omega))
 have hcc : gm (swp [] A p c) c c ≠ 0 := by rw [key, if_pos rfl]; exact hz
 have hoff : ∀ j, j < c → ∀ i, i < n → i ≠ j → gm (swp [] A p c) i j = 0 := fun j hj i hi hij => by
  rw [key]
  by_cases e1 : i = c
  ·rw [if_pos e1]; exact h.off j hj p hp (by omega)
  ·rw [if_neg e1]
   by_cases e2 : i = p
   ·rw [if_pos e2]; exact h.off j hj c hc (by omega)
   ·rw [if_neg e2]; exact h.off j hj i hi hij
 refine ⟨redJ_shp hs, fun x => (ker_red hs hc (fun j hj => hoff j hj c hc (by omega))).trans ((ker_swp hl hp hc).trans (h.ker x)), fun j hj i hi hij => ?_, fun j hj => ?_⟩
 ·rw [redJ_gm hs hi (by omega)]
  by_cases e : j = c
  ·subst e
   rw [if_pos ⟨hij, Nat.le_refl _⟩]
   have := div_eq (x := gm (swp [] A p j) i j) hcc
   grind
  ·rw [if_neg (fun k => by omega)]; exact hoff j (by omega) i hi hij
 ·rw [redJ_gm hs (by omega) (by omega)]
  by_cases e : j = c
  ·subst e; rw [if_neg (fun k => k.1 rfl)]; exact hcc
  ·rw [if_neg (fun k => by omega), key, if_neg (by omega), if_neg (by omega)]; exact h.dg j (by omega)
theorem gv_app {l : List Qi} {z : Qi} {k : Nat} (h : k < l.length) : gv (l ++ [z]) k = gv l k := by
 simp only [gv, List.getD]; rw [List.getElem?_append_left h]
theorem gv_end {l : List Qi} {z : Qi} : gv (l ++ [z]) l.length = z := by
 simp [gv, List.getD]
theorem cp_gm {M : List (List Qi)} {b : List Qi} {n i : Nat} (h : Shp M n n) (hi : i < n) : (∀ k, k < n → gm (copyM M [b] n) i k = gm M i k) ∧ gm (copyM M [b] n) i n = gv b i := by
 obtain ⟨r, hr⟩ : ∃ r, r = rw' M i := ⟨_, rfl⟩
 have hl : r.length = n := by rw [hr]; exact h.row hi
 have e : rw' (copyM M [b] n) i = r ++ [gv b i] := by
  rw [hr]; simp only [rw', copyM, List.getD]; rw [tab_get hi]; rfl
 refine ⟨fun k hk => ?_, ?_⟩
 ·show gv (rw' (copyM M [b] n) i) k = gv (rw' M i) k
  rw [e, ← hr, gv_app (by omega)]
 ·show gv (rw' (copyM M [b] n) i) n = gv b i
  rw [e, ← hl, gv_end]
theorem cp_sum {M : List (List Qi)} {b : List Qi} {n i : Nat} (h : Shp M n n) (hi : i < n) (x : Nat → Qi) : sumN (n + 1) (fun k => gm (copyM M [b] n) i k * x k) = sumN n (fun k => gm M i k * x k) + gv b i * x n := by
 obtain ⟨h1, h2⟩ := cp_gm (b := b) h hi
 simp only [sumN, h2]
 rw [sumN_congr (fun k hk => by rw [h1 k hk])]
end
section
open Go Go.RowKit
def sidR (a b : List (List Qi)) (x y i : Nat) : List Qi := tab (x + y) fun j => if i < x then (if j < x then gm a i j else Qi.zero) else (if x ≤ j then gm b (i - x) (j - x) else Qi.zero)
def sidM (a b : List (List Qi)) (x y : Nat) : List (List Qi) := tab (x + y) (sidR a b x y)
theorem sidM_shp (a b : List (List Qi)) (x y : Nat) : Shp (sidM a b x y) (x + y) (x + y) := ⟨tab_len _ _, fun r hr => by obtain ⟨i, _, rfl⟩ := tab_mem.1 hr; exact tab_len _ _⟩
theorem sidM_fit {a b : List (List Qi)} {x y L : Nat} (ha : FitM a L) (hb : FitM b L) (hL : 1 ≤ L) : FitM (sidM a b x y) L := fun r hr => by
 obtain ⟨i, _, rfl⟩ := tab_mem.1 hr
 refine FitL.tab fun j _ => ?_
 split
 ·split
  ·exact ha.get hL _ _
  ·exact FitC.zero hL
 ·split
  ·exact hb.get hL _ _
  ·exact FitC.zero hL
theorem sidM_gm {a b : List (List Qi)} {x y i j : Nat} (hi : i < x + y) (hj : j < x + y) : gm (sidM a b x y) i j = if i < x then (if j < x then gm a i j else Qi.zero) else (if x ≤ j then gm b (i - x) (j - x) else Qi.zero) := by
 have e : (sidM a b x y).getD i [] = sidR a b x y i := by rw [sidM, List.getD, tab_get hi]; rfl
 show gv ((sidM a b x y).getD i []) j = _
 rw [e, sidR, gv_tab hj]
end
section
open Go Go.RowKit
abbrev pA (ps : List (Nat × Nat)) (k : Nat) : Nat := (ps.getD k (0, 0)).1
abbrev pB (ps : List (Nat × Nat)) (k : Nat) : Nat := (ps.getD k (0, 0)).2
end
section
open Go Go.RowKit
theorem grow_monoL {L M : Nat} (h : L ≤ M) : ∀ c, grow L c ≤ grow M c
 | 0 => h
 | c + 1 => by have := grow_monoL h c; simp only [grow]; omega
theorem gv_set {l : List Qi} {t k : Nat} {v : Qi} (ht : t < l.length) : gv (l.set t v) k = if k = t then v else gv l k := by
 simp only [gv, List.getD]
 by_cases e : k = t
 ·subst e; rw [if_pos rfl, List.getElem?_set_self ht]; rfl
 ·rw [if_neg e, List.getElem?_set_ne (Ne.symm e)]
end
section
open Go Go.RowKit
theorem fa_24_0 (a : Addr) (w : World) : (Instr.fieldAt 24 (.pointer (some a)) 0).run Tryz.prog w = .ok (.pointer (some (a.add 0))) w := by
 simp [Instr.fieldAt, Instr.sureAddr, fieldPlace, Sem.run_bind, Result.andThen, U_24, Z_5]
theorem fa_24_1 (a : Addr) (w : World) : (Instr.fieldAt 24 (.pointer (some a)) 1).run Tryz.prog w = .ok (.pointer (some (a.add 1))) w := by
 simp [Instr.fieldAt, Instr.sureAddr, fieldPlace, Sem.run_bind, Result.andThen, U_24, Z_22]
theorem fa_24_2 (a : Addr) (w : World) : (Instr.fieldAt 24 (.pointer (some a)) 2).run Tryz.prog w = .ok (.pointer (some (a.add 2))) w := by
 simp [Instr.fieldAt, Instr.sureAddr, fieldPlace, Sem.run_bind, Result.andThen, U_24, Z_22]
theorem info_22 : Tryz.prog.info? 22 = some Tryz.t22 := by kernel_rfl
theorem info_91 : Tryz.prog.info? 91 = some Tryz.t91 := by kernel_rfl
theorem und_22 : Tryz.prog.underlying 22 = some (.slice 91) := by kernel_rfl
end
end Go.Proofs.YteimkhgiekndjaaGreat
