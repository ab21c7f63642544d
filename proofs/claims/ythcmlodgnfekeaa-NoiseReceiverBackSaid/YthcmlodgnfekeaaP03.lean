/- What functions of the program compute, proved by walks over their code, and the plain mathematics of it; a part of the proof in the last text. -/
import Derived.Test.YthcmlodgnfekeaaP02
set_option linter.unusedVariables false
set_option linter.unusedSimpArgs false
set_option maxRecDepth 100000
set_option maxHeartbeats 4000000
namespace Go.Proofs.Ythcmlodgnfekeaa
section
open Go Go.RowKit
theorem Jy {v:Nat} (hv:v < 4294967296):aT Try.prog 81 [bL v] (NT .i64 (bl v)):=by
 refine aT.intro Try.func81 rfl Try.ntmps81 rfl (fun cx=>(ts (ro rfl (cQ (cJ 0)) (eX (cK (pH (fun (q:Nat) (x:Nat)=>bl v = q + bl x ∧ x < 65536 ∧ q ≤ 16) (fun (q:Nat) (x:Nat)=>[(0,bL x),(2,NT .i64 q)]) (fun (q:Nat) (x:Nat)=>[]) ?_ (fun q x ⟨hq1,hq2,hq3⟩=>?_)))))))
 ·refine ts (rm rfl (ro rfl (pX (Ht rfl) (cJ 65536)) (eX (dQ (Ht rfl) (fun hb => ?_) (fun hb => ?_)))))
  ·simp at hb
   refine ts (rm rfl (ro rfl (eA (Ht rfl) (cJ 16) (by decide)) (ra rfl (eX (cY (ro rfl (cQ (cJ 16)) (eX (aP (16,v / 2 ^ 16) ⟨Tz hb,by dsimp only; omega,Nat.le_refl _⟩ (zS rfl) aY))))))))
  ·simp at hb
   refine cU (aP (0,v) ⟨(Nat.zero_add _).symm,hb,by dsimp only; omega⟩ (zS rfl) aY)
 ·refine cK (pH (fun (r : Nat) (z : Nat) => bl v = r + bl z ∧ z < 256 ∧ r ≤ 24) (fun (r : Nat) (z : Nat) => [(0, bL z), (2, NT .i64 r)]) (fun (r : Nat) (z : Nat) => []) ?_ (fun r z ⟨hr1, hr2, hr3⟩ => ?_))
  ·refine ts (rm rfl (ro rfl (pX (Ht rfl) (cJ 256)) (eX (dQ (Ht rfl) (fun hb => ?_) (fun hb => ?_)))))
   ·simp at hb
    refine ts (rm rfl (ro rfl (eA (Ht rfl) (cJ 8) (by decide)) (ra rfl (eX (cY (rm rfl (ro rfl (dV (Ht rfl) (cJ 8) z6) (ra rfl (eX (aP (q + 8,x / 2 ^ 8) ⟨by have:=Up hb; dsimp only; omega,by dsimp only; omega,by dsimp only; omega⟩ (zS rfl) aY))))))))))
   ·simp at hb
    refine cU (aP (q,x) ⟨hq1,hb,by dsimp only; omega⟩ (zS rfl) aY)
  ·have hbl := mF (k := 8) hr2
   refine ts (rm rfl (rm rfl (ro rfl (gZ U_55 U_5 (Ht rfl) (by show _ < 256; first | omega | (simp only [jD]; omega))) (ro rfl (Ly Try.runUnderlying9 cV (Ht rfl) (Ud hr2 (by kernel_rfl))) (ro rfl (gZ U_5 U_3 (Ht rfl) z6) (ro rfl (dV (Ht rfl) (Ht rfl) z6) (ra rfl (eX (fW rfl (fX (eU rfl) ?_))))))))))
   exact (kD zo)
theorem Ov {v:Nat} (hv:v < 4294967296):aT Try.prog 63 [bL v] (NT .i64 (32 - bl v)):=by
 refine aT.intro Try.func63 rfl Try.ntmps63 rfl (fun cx=>(ts (ro rfl (cQ (cJ 0)) (eX (ts (rm rfl (ro rfl (cZ Try.call81 (Jy hv) ⟨(Ht rfl),trivial⟩) (ro rfl (dW (cJ 32) (Ht rfl) (mF hv) z6) (ra rfl (eX ?_))))))))))
 exact fW rfl (eU rfl)
theorem Jw {hi lo y:Nat} (hy:hi < y) (hl:lo < BB) (hyb:y < BB):aT Try.prog 80 [bL hi,bL lo,bL y] (eM [bL ((hi * BB + lo) / y),bL ((hi * BB + lo) % y)]):=by
 have hq:=Dq hy hl; have hm:=Nat.mod_lt (hi * BB + lo) (by omega:y > 0); have hz:hi * BB + lo < 18446744073709551616:=by simp only [BB] at *; omega
 have hsh : hi * 2 ^ 32 < 18446744073709551616 := by
  have h1:hi < BB:=by omega
  show hi * BB < _
  simp only [BB] at h1 ⊢; omega
 refine aT.intro Try.func80 rfl Try.ntmps80 rfl (fun cx=>(ts (ro rfl (cQ (cJ 0)) (ro rfl (cQ (cJ 0)) (eX (cK (ts (rm rfl (ro rfl (kS (Ht rfl) (cJ 0)) (rm rfl (fQ rfl rfl (eK rfl rfl (Ht rfl) (fun h=>cX (Ht rfl))) (fQ rfl rfl (eK rfl rfl (Ht rfl) (fun h=>cX (Ht rfl))) (fQ rfl rfl (eK rfl rfl (Ht rfl) (fun h=>vW (fJ rfl h) (fJ rfl h))) (ro rfl (eO (Ht rfl) (fun h=>(fJ rfl h))) (eX (uW (Ht rfl) (by simp; omega) ?_))))))))))))))))
 have hl2:lo < 18446744073709551616:=by simp only [BB] at hl; omega
 have hy2:y < 18446744073709551616:=by simp only [BB] at hyb; omega
 refine cU (ts (rm rfl (ro rfl (gZ U_55 U_79 (Ht rfl) (by show _ < 18446744073709551616; simp only [BB] at *; omega)) (ro rfl (qA (Ht rfl) (cJ 32) (by decide) hsh) (rm rfl (ro rfl (gZ U_55 U_79 (Ht rfl) (by show _ < 18446744073709551616; simp only [BB] at *; omega)) (ro rfl (aB.nat (oV rfl (Ht rfl) (Ht rfl) z7 z7) (vX hl)) (ra rfl (eX (cK ?_))))))))))
 refine fZ (m:=11) (dp 8 rfl (cX (Ht rfl)) (dp 2 rfl (cX (Ht rfl)) (dq 24 1 rfl (gZ U_55 U_79 (Ht rfl) (by show _ < 18446744073709551616; simp only [BB] at *; omega)) (fF 23 0 25 2 rfl (pZ (Ht rfl) (Ht rfl) zo (by show _ < 18446744073709551616; exact hz)) (dq 26 3 rfl (gZ U_79 U_55 (Ht rfl) (by show _ < 4294967296; exact hq)) (dp 8 rfl (cX (Ht rfl)) (dp 2 rfl (cX (Ht rfl)) (dq 29 6 rfl (gZ U_55 U_79 (Ht rfl) (by show _ < 18446744073709551616; simp only [BB] at *; omega)) ?_))))))))
 refine fF 28 5 30 7 rfl (lW (Ht rfl) (Ht rfl) zo) (dq 31 8 rfl (gZ U_79 U_55 (Ht rfl) (by show _ < 4294967296; simp only [BB] at *; omega)) (dq 27 4 rfl (cQ (Ht rfl)) (fV bA rfl (by kernel_rfl) (zF (zF (aJ (aJ (aJ (aV (ra rfl (eX ?_)))))))))))
 exact bE rfl (eU rfl) (eU rfl)
theorem wT {m k:Nat} (hm:(dg m).length ≤ 17592186044416) (hk:k ≤ 562949953421312):aT Try.prog 64 [aL m,NT .i64 k] (aL (m * 2 ^ k)):=by
 refine aT.intro Try.func64 rfl Try.ntmps64 rfl (fun cx=>(ts (ro rfl (cQ cV) (eX (cK (ts (rm rfl (ro rfl (dG U_26 (Ht rfl) aA) (ro rfl (fE (Ht rfl) (cJ 0)) (rm rfl (fQ rfl rfl (eK rfl rfl (Ht rfl) (fun h=>cX (Ht rfl))) (fQ rfl rfl (eK rfl rfl (Ht rfl) (fun h=>fE (fJ rfl h) (cJ 0))) (ro rfl (gG (Ht rfl) (fun h=>(fJ rfl h))) (eX (dQ (Ht rfl) (fun hb=>?_) (fun hb=>?_))))))))))))))))
 ·simp [aM] at hb
  have h0 : m * 2 ^ k = m := by
   rcases hb with h | h
   ·simp_all [qJ]
   ·rw [h,Nat.pow_zero,Nat.mul_one]
  refine ts (rm rfl (ra rfl (eX (fW rfl (fX (eU rfl) ?_)))))
  exact (dI h0.symm)
 ·clear hb
  have hr:=Nat.mod_lt k (by decide:32 > 0)
  refine cU (ts (rm rfl (ro rfl (pZ (Ht rfl) (cJ 32) zo z6) (rm rfl (ro rfl (lW (Ht rfl) (cJ 32) zo) (ro rfl (gZ U_3 U_83 (Ht rfl) z7) (ra rfl (ra rfl (eX (ts (rm rfl (ro rfl (dG U_26 (Ht rfl) aA) (rm rfl (ro rfl (dV (Ht rfl) (Ht rfl) z6) (ro rfl (dV (Ht rfl) (cJ 1) z6) ?_)))))))))))))))
  refine rn rfl (fP (T:=bL 0) (i:=Try.t55) V_26 kP rfl rfl (Ht rfl) rfl (fun _=>rfl) trivial (by show 4 * _ ≤ _; omega) zo) fun B29=>ra rfl (eX (cK (ts (rm rfl (ro rfl (dG U_26 (Ht rfl) aA) (ro rfl (cX (cJ 0)) (eX (eG ?_))))))))
  refine gI (fun (i : Nat) (out : List Nat) => uT (dg m) (k / 32) (k % 32) out i) (fun (i : Nat) (out : List Nat) => (dg m).length - i) (fun (i : Nat) (out : List Nat) => [(5, NT .i64 (k / 32)), (6, NT .u64 (k % 32)), (7, Is (.slice (some ⟨B29, 0, none⟩) ((dg m).length + k / 32 + 1) ((dg m).length + k / 32 + 1))), (30, aL m), (31, NT .i64 (dg m).length), (32, NT .i64 i)]) (fun (i : Nat) (out : List Nat) => [box B29 55 (out.map bL)]) 0 (List.replicate ((dg m).length + k / 32 + 1) 0) (uT.start _ _ _)
   (zS rfl) (aU (bD (lX _)) aY) (fun i out hS=>?_)
  refine ts (ro rfl (gX (Ht rfl) (Ht rfl)) (eX (cK (dQ (Ht rfl) (fun hb=>?_) (fun hb=>?_)))))
  ·simp at hb
   have hlen:=hS.len; have hxi:=aN (bF m) i; have hok:=aN hS.dig (i + k / 32)
   have hv:=Dp hxi hr
   have hd:(dg m).getD i 0 * 2 ^ (k % 32) / 2 ^ 32 < 4294967296:=Nat.div_lt_of_lt_mul hv
   simp only [BB] at hxi hok
   refine cU (cK (eG (ts (rm rfl (ro rfl (dZ U_26 Z_55 (Ht rfl) (Ht rfl) rfl (dY (aO zo))) (ro rfl (dJ A_55 Z_55 (Ht rfl)) (ra rfl (ra rfl (eX (ts (rm rfl (ro rfl (gZ U_55 U_79 (Ht rfl) z7) (rm rfl (ro rfl (qA (Ht rfl) (Ht rfl) (by show _ ≤ _; simp [IntKind.bits]; omega) (by show _ < 18446744073709551616; exact hv)) (ra rfl (eX (ts (rm rfl (rm rfl (rm rfl (ro rfl (dV (Ht rfl) (Ht rfl) z6) ?_)))))))))))))))))))))
   refine ro rfl (fY U_26 Z_55 (Ht rfl) (Ht rfl) rfl zo (by rw [Nat.mul_one,Nat.zero_add])) ?_
   refine ro rfl (eY A_55 Z_55 (Ht rfl) (i:=0) rfl (dY (aO zo))) (rm rfl (ro rfl (gR rfl U_79 U_55 (Ht rfl)) (ro rfl (oV rfl (Ht rfl) (Ht rfl) (by show _ < 4294967296; omega) (by show _ % 4294967296 < 4294967296; omega)) (ro rfl (fY U_26 Z_55 (Ht rfl) (Ht rfl) rfl zo (by rw [Nat.mul_one,Nat.zero_add])) ?_))))
   refine mC Z_55 (Ht rfl) (Ht rfl) (i:=0) rfl (by first | omega | (simp; omega)) rfl (eX (cY (rm rfl (rm rfl (rm rfl (ro rfl (dV (Ht rfl) (Ht rfl) z6) (ro rfl (dV (Ht rfl) (cJ 1) z6) (rm rfl (ro rfl (eA (Ht rfl) (cJ 32) (by decide)) (ro rfl (gZ U_79 U_55 (Ht rfl) (by show _ < 4294967296; exact hd)) (ro rfl (fY U_26 Z_55 (Ht rfl) (Ht rfl) rfl zo (by rw [Nat.mul_one,Nat.zero_add])) ?_)))))))))))
   refine mC Z_55 (Ht rfl) (Ht rfl) (i:=0) rfl (by first | omega | (simp; omega)) rfl (eX (cL (cY (ro rfl (dV (Ht rfl) (cJ 1) z6) (rm rfl (eX (fU (i + 1,_) (hS.next (bF m) hr hb rfl rfl) (by dsimp only; omega) (zS rfl) (aU (bD (Il _ _ _ _ _)) aY))))))))
  ·simp at hb
   have hkl:i = (dg m).length:=Nat.le_antisymm hS.kle hb
   subst hkl
   have hlen:=hS.len
   have hfin:=hS.fin
   rw [cE,nP] at hfin
   refine gW rfl (gJ (i:=0) (tt:=7) rfl rfl (mP rfl hlen.symm (Nat.le_refl _)) (ts (rm rfl (ro rfl (cZ K_48 (lN _ hS.dig zo) ⟨(Ht rfl),trivial⟩) (ra rfl (eX (fW rfl (fX (eU rfl) ?_))))))))
   exact (dI hfin)
theorem Sc {m k:Nat} (hm:(dg m).length ≤ 17592186044416) (hk:k ≤ 562949953421312):aT Try.prog 66 [aL m,NT .i64 k] (aL (m / 2 ^ k)):=by
 refine aT.intro Try.func66 rfl Try.ntmps66 rfl (fun cx=>?_)
 have hr:=Nat.mod_lt k (by decide:32 > 0)
 refine ts (ro rfl (cQ cV) (eX (ts (rm rfl (ro rfl (pZ (Ht rfl) (cJ 32) zo z6) (rm rfl (ro rfl (lW (Ht rfl) (cJ 32) zo) (ro rfl (gZ U_3 U_83 (Ht rfl) z7) (ra rfl (ra rfl (eX (cK (ts (rm rfl (rm rfl (ro rfl (dG U_26 (Ht rfl) aA) (ro rfl (pX (Ht rfl) (Ht rfl)) (eX (dQ (Ht rfl) (fun hb=>?_) (fun hb=>?_))))))))))))))))))))
 ·simp at hb
  have h0:=In (bF m) hb (r:=k % 32)
  rw [cE,nP] at h0
  refine ts (ro rfl (cQ cV) (eX (fW rfl (fX (eU rfl) ?_))))
  exact (fun v V h=>dI h0.symm v V (jE v V h))
 ·simp at hb
  refine cU (ts (rm rfl (ro rfl (dG U_26 (Ht rfl) aA) (rm rfl (ro rfl (dW (Ht rfl) (Ht rfl) zo z6) (rn rfl (fP (T:=bL 0) (i:=Try.t55) V_26 kP rfl rfl (Ht rfl) rfl (fun _=>rfl) trivial (by show 4 * _ ≤ _; omega) zo) fun B23=>(ra rfl (eX (cK (ts (rm rfl (ro rfl (jA U_26 (Ht rfl)) (ro rfl (cX (cJ 0)) (eX (eG ?_)))))))))))))))
  refine gI (fun (i : Nat) (out : List Nat) => uU (dg m) (k / 32) (k % 32) out i) (fun (i : Nat) (out : List Nat) => (dg m).length - i) (fun (i : Nat) (out : List Nat) => [(0, aL m), (5, NT .i64 (k / 32)), (6, NT .u64 (k % 32)), (7, Is (.slice (some ⟨B23, 0, none⟩) ((dg m).length - k / 32) ((dg m).length - k / 32))), (25, NT .i64 ((dg m).length - k / 32 : Nat)), (26, NT .i64 i)]) (fun (i : Nat) (out : List Nat) => [box B23 55 (out.map bL)]) 0 (List.replicate ((dg m).length - k / 32) 0) (uU.start _ _ _)
   (zS rfl) (aU (bD (lX _)) aY) (fun i out hS=>?_)
  refine ts (ro rfl (gX (Ht rfl) (Ht rfl)) (eX (cK (dQ (Ht rfl) (fun hb=>?_) (fun hb=>?_)))))
  ·simp at hb
   have hlen:=hS.len; have hx0:=aN (bF m) (i + k / 32); have hx1:=aN (bF m) (i + k / 32 + 1)
   have hio:i < out.length:=by omega
   simp only [BB] at hx0 hx1
   refine cU (cK (eG (ts (rm rfl (ra rfl (eX (ts (rm rfl (rm rfl (rm rfl (ro rfl (dV (Ht rfl) (Ht rfl) z6) (ro rfl (dZ U_26 Z_55 (Ht rfl) (Ht rfl) rfl (dY (aO zo))) (ro rfl (dJ A_55 Z_55 (Ht rfl)) (ro rfl (gZ U_55 U_79 (Ht rfl) z7) (ra rfl (eX (cK (iT (fun (v:Nat)=>v = (dg m).getD (i + k / 32) 0 + BB * (dg m).getD (i + k / 32 + 1) 0) (fun (v:Nat)=>[(0,aL m),(5,NT .i64 (k / 32)),(6,NT .u64 (k % 32)),(7,Is (.slice (some ⟨B23,0,none⟩) ((dg m).length - k / 32) ((dg m).length - k / 32))),(8,NT .i64 i),(9,NT .u64 v),(25,NT .i64 ((dg m).length - k / 32:Nat)),(26,NT .i64 i)]) (fun (v:Nat)=>[box B23 55 (out.map bL)]) ?_ (fun v hv=>?_)))))))))))))))))))
   ·refine ts (rm rfl (rm rfl (ro rfl (dV (Ht rfl) (Ht rfl) z6) (ro rfl (dV (Ht rfl) (cJ 1) z6) (rm rfl (ro rfl (dG U_26 (Ht rfl) aA) (ro rfl (gX (Ht rfl) (Ht rfl)) (eX (dQ (Ht rfl) (fun hk2 => ?_) (fun hk2 => ?_))))))))))
    ·simp at hk2
     refine cY (rm rfl (rm rfl (rm rfl (rm rfl (ro rfl (dV (Ht rfl) (Ht rfl) z6) (ro rfl (dV (Ht rfl) (cJ 1) z6) (ro rfl (dZ U_26 Z_55 (Ht rfl) (Ht rfl) rfl (dY (aO zo))) (ro rfl (dJ A_55 Z_55 (Ht rfl)) (ro rfl (gZ U_55 U_79 (Ht rfl) z7) (ro rfl (qA (Ht rfl) (cJ 32) (by decide) (by show _ < 18446744073709551616; omega)) ?_))))))))))
     refine ro rfl (aB.nat (oV rfl (Ht rfl) (Ht rfl) z7 z7) (Mc hx0)) (ra rfl (eX (aP ((dg m).getD (i + k / 32) 0 + BB * (dg m).getD (i + k / 32 + 1) 0) rfl (zS rfl) (dE.refl _))))
    ·simp at hk2
     refine cU (aP ((dg m).getD (i + k / 32) 0) (by simp [List.getD,List.getElem?_eq_none hk2]) (zS rfl) (dE.refl _))
   ·refine cY (rm rfl (rm rfl (rm rfl (rm rfl (ro rfl (eA (Ht rfl) (Ht rfl) (by show _ ≤ 64; omega)) (ro rfl (gR rfl U_79 U_55 (Ht rfl)) (ro rfl (fY U_26 Z_55 (Ht rfl) (Ht rfl) rfl zo (by rw [Nat.mul_one, Nat.zero_add])) ?_)))))))
    refine mC Z_55 (Ht rfl) (Ht rfl) (i:=0) rfl (by first | omega | (simp; omega)) rfl (eX (cL (cY (ro rfl (dV (Ht rfl) (cJ 1) z6) (rm rfl (eX (fU (i + 1,_) (hS.next (bF m) hr hio (by rw [hv]; rfl)) (by dsimp only; omega) (zS rfl) (aU (bD (gL _ _ _)) aY))))))))
  ·simp at hb
   have hlen:=hS.len
   have hkl:i = out.length:=Nat.le_antisymm hS.kle zo
   subst hkl
   have hfin:=hS.fin (bF m) zo
   rw [cE,nP] at hfin
   refine gW rfl (gJ (i:=0) (tt:=7) rfl rfl (mP rfl hlen.symm (Nat.le_refl _)) (ts (rm rfl (ro rfl (cZ K_48 (lN _ hS.dig zo) ⟨(Ht rfl),trivial⟩) (ra rfl (eX (fW rfl (fX (eU rfl) ?_))))))))
   exact (dI hfin)
theorem Ax {m y:Nat} (hm:(dg m).length ≤ 17592186044416) (hy:0 < y) (hyb:y < BB):aT Try.prog 62 [aL m,bL y] (eM [aL (m / y),bL (m % y)]):=by
 refine aT.intro Try.func62 rfl Try.ntmps62 rfl (fun cx=>(ts (ro rfl (cQ cV) (ro rfl (cQ (cJ 0)) (eX (ts (rm rfl (ro rfl (dG U_26 (Ht rfl) aA) (rn rfl (fP (T:=bL 0) (i:=Try.t55) V_26 kP rfl rfl (Ht rfl) rfl (fun _=>rfl) trivial (by show 4 * _ ≤ _; omega) zo) fun B11=>(ra rfl (eX (ts (ro rfl (cQ (cJ 0)) (eX (cK (ts (rm rfl (ro rfl (dG U_26 (Ht rfl) aA) (ro rfl (iE (Ht rfl) cV (wD zo)) (ra rfl (eX (eG ?_))))))))))))))))))))))
 refine lL (fun (k : Nat) (out : List Nat) (r : Nat) => lK (dg m) y out k r) (fun (k : Nat) (out : List Nat) (r : Nat) => k) (fun (k : Nat) (out : List Nat) (r : Nat) => [(0, aL m), (1, bL y), (6, Is (.slice (some ⟨B11, 0, none⟩) (dg m).length (dg m).length)), (7, bL r), (8, aE .i64 ((k : Int) - 1))]) (fun (k : Nat) (out : List Nat) (r : Nat) => [box B11 55 (out.map bL)]) (dg m).length (List.replicate (dg m).length 0) 0 (lK.start _ hy)
  (zS rfl) (aU (bD (lX _)) aY) (fun k out r hS=>?_)
 refine cK (ts (rm rfl (ro rfl (lU (Ht rfl) cV) (eX (dQ (Ht rfl) (fun hb=>?_) (fun hb=>?_))))))
 ·simp at hb
  have hlen:=hS.len; have hkl:=hS.kle
  refine cU (cK (eG (cY (rm rfl (rm rfl (rm rfl (rm rfl (rm rfl (ro rfl (dZ U_26 Z_55 (Ht rfl) (Ht rfl) (show ((k:Int) - 1) = ((k - 1:Nat):Int) by omega) (dY (aO zo))) (ro rfl (dJ A_55 Z_55 (Ht rfl)) (rm rfl (ro rfl (cZ Try.call80 (Jw hS.rlt (aN (bF m) (k - 1)) hyb) ⟨(Ht rfl),(Ht rfl),(Ht rfl),trivial⟩) (rm rfl (ro rfl (dK (Ht rfl) rfl) (ro rfl (dK (Ht rfl) rfl) (ro rfl (fY U_26 Z_55 (Ht rfl) (Ht rfl) (show ((k:Int) - 1) = ((k - 1:Nat):Int) by omega) zo (by rw [Nat.mul_one,Nat.zero_add])) ?_))))))))))))))))
  refine mC Z_55 (Ht rfl) (Ht rfl) (i:=0) rfl (by first | omega | (simp; omega)) rfl (ra rfl (eX (cL (cY (rm rfl (ro rfl (iE (Ht rfl) cV (wD zo)) (ra rfl (eX (fU (k - 1,_,_) (hS.next (bF m) zo rfl) (by dsimp only; omega) (aQ rfl (aQ rfl (aQ rfl (aQ rfl (aZ rfl (aR zo) aX))))) (aU (bD (gL _ _ _)) aY))))))))))
 ·simp at hb
  have hk0:k = 0:=by omega
  subst hk0
  have hlen:=hS.len
  have hfin:=hS.fin
  rw [cE] at hfin
  refine gW rfl (gJ (i:=0) (tt:=6) rfl rfl (mP rfl hlen.symm (Nat.le_refl _)) (ts (rm rfl (ro rfl (cZ K_48 (lN _ hS.dig zo) ⟨(Ht rfl),trivial⟩) (rm rfl (ra rfl (ra rfl (eX (bE rfl (fX (eU rfl) ?_) (fX (eU rfl) ?_))))))))))
  ·exact (dI hfin.1)
  ·exact (kD hfin.2)
end
section
open Go Go.RowKit
theorem Ox {us vs : List Nat} {q j B l : Nat} (hul : us.length = l) (hu : gN us) (hv : gN vs) (hq : q < BB) (hl : j + vs.length < us.length) (hL : us.length ≤ 1152921504606846976) :
    iC Try.prog 65 [Is (.slice (some ⟨B,0,none⟩) l l),tF vs,NT .u64 q,NT .i64 j] [box B 55 (us.map bL)] (List Nat × Bool) (fun x=>aC x.2) (fun x=>[box B 55 (x.1.map bL)]) (fun x=>wK us vs q j x.1 x.2):=by
 refine iC.intro Try.func65 rfl Try.ntmps65 rfl (fun cx Z=>(ts (ro rfl (cQ cV) (eX (ts (ro rfl (cQ (cJ 0)) (ro rfl (cQ (cJ 0)) (eX (cK (ts (rm rfl (ro rfl (dG U_26 (Ht rfl) aA) (ro rfl (cX (cJ 0)) (eX (eG ?_)))))))))))))))
 refine Ah (fun (i : Nat) (out : List Nat) (c : Nat) (b : Nat) => pI us vs q j out i c b) (fun (i : Nat) (out : List Nat) (c : Nat) (b : Nat) => vs.length - i) (fun (i : Nat) (out : List Nat) (c : Nat) (b : Nat) => [(0, Is (.slice (some ⟨B, 0, none⟩) l l)), (1, tF vs), (2, NT .u64 q), (3, NT .i64 j), (9, NT .u64 c), (10, NT .u64 b), (16, tF vs), (17, NT .i64 vs.length), (18, NT .i64 i)]) (fun (i : Nat) (out : List Nat) (c : Nat) (b : Nat) => [Z, box B 55 (out.map bL)]) 0 us 0 0 (pI.start hu vs q j)
  (zS rfl) (dE.refl _) (fun i out c b hS=>?_)
 refine ts (ro rfl (gX (Ht rfl) (Ht rfl)) (eX (cK (dQ (Ht rfl) (fun hb=>?_) (fun hb=>?_)))))
 ·simp at hb
  have hlen:=hS.len; have hcl:=hS.clt; have hbl:=hS.ble; have hvi:=aN hv i; have hok:=aN hS.dig (i + j)
  have hp:=Iu hq hvi hS.clt
  simp only [BB] at hp hcl hvi hok
  obtain ⟨p,hp1⟩:∃ p,p = q * vs.getD i 0 + c:=⟨_,rfl⟩
  obtain ⟨x,hx1⟩:∃ x,x = ((out.getD (i + j) 0 + 18446744073709551616 - p % 4294967296) % 18446744073709551616 + 18446744073709551616 - b) % 18446744073709551616:=⟨_,rfl⟩
  refine cU (cK (eG (ts (rm rfl (ro rfl (dZ U_26 Z_55 (Ht rfl) (Ht rfl) rfl (dY (aO zo))) (ro rfl (dJ A_55 Z_55 (Ht rfl)) (ra rfl (ra rfl (eX (ts (rm rfl (rm rfl (ro rfl (gZ U_55 U_79 (Ht rfl) z7) (ro rfl (iO (Ht rfl) (Ht rfl) z7) (rm rfl (ro rfl (aB.nat (dV (Ht rfl) (Ht rfl) z7) hp1.symm) ?_))))))))))))))))
  refine ra rfl (eX (ts (rm rfl (ro rfl (eA (Ht rfl) (cJ 32) (by decide)) (ra rfl (eX (ts (rm rfl (rm rfl (rm rfl (ro rfl (dV (Ht rfl) (Ht rfl) z6) (ro rfl (fY U_26 Z_55 (Ht rfl) (Ht rfl) rfl zo (by rw [Nat.mul_one,Nat.zero_add])) ?_))))))))))))
  refine ro rfl (eY A_55 Z_55 (Ht rfl) (i:=1) rfl (dY (aO zo))) (ro rfl (gZ U_55 U_79 (Ht rfl) z7) (rm rfl (ro rfl (gR rfl U_79 U_55 (Ht rfl)) (ro rfl (gZ U_55 U_79 (Ht rfl) z7) (ro rfl (oC rfl (Ht rfl) (Ht rfl) (by show _ ≤ 18446744073709551616; first | omega | (simp only [jD]; omega))) (rm rfl ?_))))))
  refine ro rfl (aB.nat (oC rfl (Ht rfl) (Ht rfl) (by show _ ≤ 18446744073709551616; first | omega | (simp only [jD]; omega))) hx1.symm) (ra rfl (eX (ts (rm rfl (rm rfl (rm rfl (ro rfl (dV (Ht rfl) (Ht rfl) z6) (rm rfl (ro rfl (gR rfl U_79 U_55 (Ht rfl)) (ro rfl (fY U_26 Z_55 (Ht rfl) (Ht rfl) rfl zo (by rw [Nat.mul_one,Nat.zero_add])) ?_))))))))))
  refine mC Z_55 (Ht rfl) (Ht rfl) (i:=1) rfl (by first | omega | (simp; omega)) rfl (eX (cY (rm rfl (ro rfl (eA (Ht rfl) (cJ 63) (by decide)) (ra rfl (eX (cL (cY (ro rfl (dV (Ht rfl) (cJ 1) z6) (rm rfl (eX (fU (i + 1,_,_,_) (hS.next hu hv hq hb hl hp1 (zV hok hbl hx1) rfl) (by dsimp only; omega) (zS rfl) (aU (fun _ _ _ h=>h) (aU (bD (gL _ _ _)) aY))))))))))))))
 ·simp at hb
  have hkl:i = vs.length:=Nat.le_antisymm hS.ile hb
  subst hkl
  have hlen:=hS.len; have hcl:=hS.clt; have hbl:=hS.ble; have hok:=aN hS.dig (j + vs.length)
  obtain ⟨x,hx1⟩:∃ x,x = ((out.getD (j + vs.length) 0 + 18446744073709551616 - c) % 18446744073709551616 + 18446744073709551616 - b) % 18446744073709551616:=⟨_,rfl⟩
  have hfin:=hS.fin hl (zW hok hcl hbl hx1) rfl
  simp only [BB] at hcl hok
  refine gW rfl (ts (rm rfl (rm rfl (rm rfl (ro rfl (dG U_26 (Ht rfl) aA) (ro rfl (dV (Ht rfl) (Ht rfl) z6) (ro rfl (fY U_26 Z_55 (Ht rfl) (Ht rfl) rfl zo (by rw [Nat.mul_one,Nat.zero_add])) ?_)))))))
  refine ro rfl (eY A_55 Z_55 (Ht rfl) (i:=1) rfl (dY (aO zo))) (ro rfl (gZ U_55 U_79 (Ht rfl) z7) (rm rfl (ro rfl (oC rfl (Ht rfl) (Ht rfl) (by show _ ≤ 18446744073709551616; first | omega | (simp only [jD]; omega))) (rm rfl (ro rfl (aB.nat (oC rfl (Ht rfl) (Ht rfl) (by show _ ≤ 18446744073709551616; first | omega | (simp only [jD]; omega))) hx1.symm) (ra rfl (eX (ts (rm rfl (rm rfl (rm rfl (ro rfl (dG U_26 (Ht rfl) aA) ?_))))))))))))
  refine ro rfl (dV (Ht rfl) (Ht rfl) z6) (rm rfl (ro rfl (gR rfl U_79 U_55 (Ht rfl)) (ro rfl (fY U_26 Z_55 (Ht rfl) (Ht rfl) rfl zo (by rw [Nat.mul_one,Nat.zero_add])) ?_)))
  refine mC Z_55 (Ht rfl) (Ht rfl) (i:=1) rfl (by first | omega | (simp; omega)) rfl (eX (ts (rm rfl (ro rfl (eA (Ht rfl) (cJ 63) (by decide)) (ro rfl (kS (Ht rfl) (cJ 0)) (ra rfl (eX ?_)))))))
  exact jY (_,_) hfin [0,1] ⟨⟨_,rfl,fun _ _ _ h=>h⟩,⟨_,rfl,(bD (gL _ _ _))⟩,trivial⟩ (by decide) (vZ rfl (eU rfl))
theorem Au {m n:Nat} (hm:(dg m).length ≤ 17592186044415) (hn1:(dg n).length ≤ 17592186044416) (hn:n ≠ 0):aT Try.prog 47 [aL m,aL n] (eM [aL (m / n),aL (m % n)]):=by
 refine aT.intro Try.func47 rfl Try.ntmps47 rfl (fun cx=>(ts (ro rfl (cQ cV) (ro rfl (cQ cV) (eX (cK (ts (rm rfl (rm rfl (ro rfl (cZ Try.call20 (Fe zo zo) ⟨(Ht rfl),(Ht rfl),trivial⟩) (ro rfl (kW (Ht rfl) cV) (eX (dQ (Ht rfl) (fun hb=>?_) (fun hb=>?_))))))))))))))
 ·simp only [decide_eq_true_eq] at hb
  have hlt : m < n := by
   unfold oQ at hb
   split at hb
   ·assumption
   ·split at hb <;> simp at hb
  refine ts (rm rfl (ro rfl (cQ cV) (ra rfl (eX (bE rfl (fX (eU rfl) ?_) (fX (eU rfl) ?_))))))
  ·exact (fun v V h=>dI (Nat.div_eq_of_lt hlt).symm v V (jE v V h))
  ·exact (dI (Nat.mod_eq_of_lt hlt).symm)
 ·simp only [decide_eq_false_iff_not] at hb
  have hle : n ≤ m := by
   unfold oQ at hb
   split at hb
   ·simp at hb
   ·omega
  clear hb
  refine cU (cK (ts (rm rfl (ro rfl (dG U_26 (Ht rfl) aA) (ro rfl (fE (Ht rfl) (cJ 1)) (eX (dQ (Ht rfl) (fun h1=>?_) (fun h1=>?_))))))))
  ·simp at h1
   have hy0:=Pb h1
   have hyb:=aN (bF n) 0
   have hmod:=Nat.mod_lt m (show (dg n).getD 0 0 > 0 by omega)
   simp only [BB] at hyb
   refine ts (rm rfl (rm rfl (ro rfl (dZ U_26 Z_55 (Ht rfl) (cJ 0) rfl (dY (aO zo))) (ro rfl (dJ A_55 Z_55 (Ht rfl)) (ro rfl (cZ Try.call62 (Ax zo zo hyb) ⟨(Ht rfl),(Ht rfl),trivial⟩) (rm rfl (ro rfl (dK (Ht rfl) rfl) (ro rfl (dK (Ht rfl) rfl) (ra rfl (ra rfl (eX (ts (rm rfl (rm rfl (ro rfl (gZ U_55 U_79 (Ht rfl) z7) (ro rfl (cZ Try.call41 (rL zo) ⟨(Ht rfl),trivial⟩) ?_))))))))))))))))
   refine ra rfl (ra rfl (eX (bE rfl (fX (eU rfl) ?_) (fX (eU rfl) ?_))))
   ·exact (dI (by rw [hy0]))
   ·exact (dI (by rw [hy0]))
  ·simp at h1
   have hl0:(dg n).length ≠ 0:=fun e=>hn (aM.1 e)
   have hyb:=aN (bF n) ((dg n).length - 1)
   obtain ⟨s,hs⟩:∃ s,s = 32 - bl ((dg n).getD ((dg n).length - 1) 0):=⟨_,rfl⟩
   obtain ⟨hs1,hvl,hvb⟩:=Ga hn hs
   obtain ⟨hc1,hc2,hc3,hc4⟩:=Ft (m:=m) hs1
   simp only [BB] at hyb
   have hp2:0 < 2 ^ s:=Nat.pow_pos (by decide)
   have hX0:(dg (m * 2 ^ s)).length ≠ 0:=fun e=>(Nat.ne_of_gt (Nat.mul_pos (show 0 < m by omega) hp2)) (aM.1 e)
   have hmono:=iA hle
   refine cU (ts (rm rfl (ro rfl (dG U_26 (Ht rfl) aA) (rm rfl (rm rfl (ro rfl (dG U_26 (Ht rfl) aA) (ro rfl (dW (Ht rfl) (cJ 1) zo z6) (ro rfl (dZ U_26 Z_55 (Ht rfl) (Ht rfl) rfl (dY (aO zo))) (ro rfl (dJ A_55 Z_55 (Ht rfl)) (ro rfl (aB.nat (cZ Try.call63 (Ov zo) ⟨(Ht rfl),trivial⟩) hs.symm) (ra rfl (ra rfl (eX (ts (rm rfl (rm rfl (ro rfl (cZ Try.call64 (wT zo zo) ⟨(Ht rfl),(Ht rfl),trivial⟩) ?_)))))))))))))))))
   refine ra rfl (eX (ts (rm rfl (ro rfl (dG U_26 (Ht rfl) aA) (ro rfl (dV (Ht rfl) (cJ 1) z6) (rn rfl (fP (T:=bL 0) (i:=Try.t55) V_26 kP rfl rfl (Ht rfl) rfl (fun _=>rfl) trivial (by show 4 * _ ≤ _; omega) zo) fun B55=>(ra rfl (eX (ts (rm rfl (rm rfl (rm rfl (ro rfl (cZ Try.call64 (wT zo zo) ⟨(Ht rfl),(Ht rfl),trivial⟩) (Je U_26 Z_55 (Ht rfl) (Ht rfl) (Pn hX0) Tb (i:=0) rfl (by simp) (by simp; omega) (Fu _ _) rfl rfl ?_))))))))))))))
   refine eX (ts (rm rfl (ro rfl (jA U_26 (Ht rfl)) (rm rfl (ro rfl (dW (Ht rfl) (Ht rfl) zo z6) (rn rfl (fP (T:=bL 0) (i:=Try.t55) V_26 kP rfl rfl (Ht rfl) rfl (fun _=>rfl) trivial (by show 4 * _ ≤ _; omega) zo) fun B65=>(ra rfl (eX (cK (ts (rm rfl (ro rfl (jA U_26 (Ht rfl)) (ro rfl (iE (Ht rfl) cV (wD zo)) (ra rfl (eX (eG ?_))))))))))))))))
   obtain ⟨vs,hvs⟩:∃ vs,vs = dg (n * 2 ^ s):=⟨_,rfl⟩
   rw [← hvs] at hvl hvb
   have hv:gN vs:=hvs ▸ bF _
   have hvv:val vs = n * 2 ^ s:=by rw [hvs,cE]
   have hV0:0 < val vs:=by rw [hvv]; exact Nat.mul_pos zo hp2
   have hnr:=Ll hv zo hvb
   have hv1:=hnr.v1lt; have hv2:=hnr.v2lt; have hbig:=hnr.big
   simp only [BB] at hv1 hv2 hbig
   refine lL (fun (k : Nat) (us : List Nat) (qs : List Nat) => kJ (m * 2 ^ s) vs us qs k ∧ us.length = (dg m).length + 1) (fun (k : Nat) (us : List Nat) (qs : List Nat) => k) (fun (k : Nat) (us : List Nat) (qs : List Nat) => [(8, NT .i64 vs.length), (9, NT .i64 s), (10, tF vs), (11, Is (.slice (some ⟨B55, 0, none⟩) ((dg m).length + 1) ((dg m).length + 1))), (12, Is (.slice (some ⟨B65, 0, none⟩) ((dg m).length + 1 - (dg n).length) ((dg m).length + 1 - (dg n).length))), (13, aE .i64 ((k : Int) - 1))]) (fun (k : Nat) (us : List Nat) (qs : List Nat) => [box B55 55 (us.map bL), box B65 55 (qs.map bL)]) ((dg m).length + 1 - (dg n).length) (tV m s) (List.replicate ((dg m).length + 1 - (dg n).length) 0) ⟨kJ.start hv zo hvb hs1 (by have := fS (bF m); rwa [cE] at this) hc3 hc2 hc4 zo, hc2⟩
    (aZ rfl (kD hvl.symm) (aQ rfl (aZ rfl (fun v V h=>by rw [hvs]; exact h) (aQ rfl (aQ rfl (aZ rfl (aR zo) aX)))))) (aU (fun _ _ _ h=>h) (aU (bD (lX _)) aY)) (fun k us qs ⟨hS,hus⟩=>?_)
   refine cK (ts (rm rfl (ro rfl (lU (Ht rfl) cV) (eX (dQ (Ht rfl) (fun hk=>?_) (fun hk=>?_))))))
   ·simp at hk
    obtain ⟨j,rfl⟩:∃ j,k = j + 1:=⟨k - 1,by omega⟩
    have htp:=hS.top hv zo (Nat.succ_pos j) rfl
    have hkq:=hS.kle; have hlq:=hS.lenq
    rw [Nat.add_sub_cancel] at htp
    have hu0:=aN hS.dig (j + vs.length); have hu1:=aN hS.dig (j + vs.length - 1); have hu2:=aN hS.dig (j + vs.length - 2)
    have ht64:=Th hu0 hu1; have hsh:=Nn hu0
    obtain ⟨top,htop⟩:∃ top,top = us.getD (j + vs.length) 0 * BB + us.getD (j + vs.length - 1) 0:=⟨_,rfl⟩
    have hor:=(vX (a:=us.getD (j + vs.length) 0) hu1).trans htop.symm
    rw [← htop] at htp ht64
    have hu2b:=hu2
    simp only [BB] at hu0 hu1 hu2
    refine qV (E':=[(8,_),(9,_),(10,_),(11,_),(12,_),(13,_),(69,_),(70,_)]) (aQ rfl (aQ rfl (aQ rfl (aQ rfl (aQ rfl (aZ rfl (aR (show ((j + 1:Nat):Int) - 1 = (j:Int) by omega)) (zS rfl))))))) (cU (cK (eG (cK (fZ (m:=16) (dp 11 rfl (cX (Ht rfl)) (dp 13 rfl (cX (Ht rfl)) (dp 8 rfl (cX (Ht rfl)) (fF 74 1 75 2 rfl (dV (Ht rfl) (Ht rfl) z6) (fF 73 0 76 3 rfl (fY U_26 Z_55 (Ht rfl) (Ht rfl) rfl zo (by rw [Nat.mul_one,Nat.zero_add])) ?_))))))))))
    refine dq 77 4 rfl (eY A_55 Z_55 (Ht rfl) (i:=0) rfl (dY (aO zo))) (dq 78 5 rfl (gZ U_55 U_79 (Ht rfl) z7) (dq 79 6 rfl (qA (Ht rfl) (cJ 32) (by decide) hsh) (dp 11 rfl (cX (Ht rfl)) (dp 13 rfl (cX (Ht rfl)) (dp 8 rfl (cX (Ht rfl)) (fF 82 9 83 10 rfl (dV (Ht rfl) (Ht rfl) z6) (dq 84 11 rfl (dW (Ht rfl) (cJ 1) zo z6) ?_)))))))
    refine fF 81 8 85 12 rfl (fY U_26 Z_55 (Ht rfl) (Ht rfl) rfl zo (by rw [Nat.mul_one,Nat.zero_add])) ?_
    refine dq 86 13 rfl (eY A_55 Z_55 (Ht rfl) (i:=0) rfl (dY (aO zo))) (dq 87 14 rfl (gZ U_55 U_79 (Ht rfl) z7) (fV bA rfl (by kernel_rfl) (zF (zF (zF (zF (aV (ro rfl (aB.nat (oV rfl (Ht rfl) (Ht rfl) z7 z7) hor) ?_))))))))
    refine ra rfl (eX (cK (fZ (m:=17) (dp 14 rfl (cX (Ht rfl)) (dp 10 rfl (cX (Ht rfl)) (dp 8 rfl (cX (Ht rfl)) (dq 92 2 rfl (dW (Ht rfl) (cJ 1) zo z6) (fF 91 1 93 3 rfl (dZ U_26 Z_55 (Ht rfl) (Ht rfl) rfl (dY (aO zo))) (dq 94 4 rfl (dJ A_55 Z_55 (Ht rfl)) (dq 95 5 rfl (gZ U_55 U_79 (Ht rfl) z7) ?_))))))))))
    refine fF 90 0 96 6 rfl (pZ (Ht rfl) (Ht rfl) zo (by show _ < 18446744073709551616; exact ht64)) (dp 14 rfl (cX (Ht rfl)) (dp 10 rfl (cX (Ht rfl)) (dp 8 rfl (cX (Ht rfl)) (dq 100 10 rfl (dW (Ht rfl) (cJ 1) zo z6) (fF 99 9 101 11 rfl (dZ U_26 Z_55 (Ht rfl) (Ht rfl) rfl (dY (aO zo))) (dq 102 12 rfl (dJ A_55 Z_55 (Ht rfl)) (dq 103 13 rfl (gZ U_55 U_79 (Ht rfl) z7) ?_)))))))
    refine fF 98 8 104 14 rfl (lW (Ht rfl) (Ht rfl) zo) (dq 97 7 rfl (cQ (Ht rfl)) (fV bA rfl (by kernel_rfl) (zF (zF (zF (zF (aJ (aV (ra rfl (eX (cK (iT (fun (g:Nat)=>Cp (val (us.drop j)) (val vs) g) (fun (g:Nat)=>[(8,NT .i64 vs.length),(9,NT .i64 s),(10,tF vs),(11,Is (.slice (some ⟨B55,0,none⟩) ((dg m).length + 1) ((dg m).length + 1))),(12,Is (.slice (some ⟨B65,0,none⟩) ((dg m).length + 1 - (dg n).length) ((dg m).length + 1 - (dg n).length))),(13,NT .i64 j),(15,NT .u64 g)]) (fun (g:Nat)=>[box B55 55 (us.map bL),box B65 55 (qs.map bL)]) ?_ (fun g hg=>?_)))))))))))))
    ·refine eG ?_
     refine gI (fun (g : Nat) (r : Nat) => iS (val (us.drop j)) (val vs) (vs.getD (vs.length - 1) 0) top g r ∧ r < 4294967296) (fun (g : Nat) (r : Nat) => g) (fun (g : Nat) (r : Nat) => [(8, NT .i64 vs.length), (9, NT .i64 s), (10, tF vs), (11, Is (.slice (some ⟨B55, 0, none⟩) ((dg m).length + 1) ((dg m).length + 1))), (12, Is (.slice (some ⟨B65, 0, none⟩) ((dg m).length + 1 - (dg n).length) ((dg m).length + 1 - (dg n).length))), (13, NT .i64 j), (15, NT .u64 g), (16, NT .u64 r)]) (fun (g : Nat) (r : Nat) => [box B55 55 (us.map bL), box B65 55 (qs.map bL)]) (top / vs.getD (vs.length - 1) 0) (top % vs.getD (vs.length - 1) 0) ⟨iS.start hnr htp, Nat.lt_trans (Nat.mod_lt _ zo) hv1⟩
      (zS rfl) (dE.refl _) (fun g r ⟨hG,hr⟩=>?_)
     have hgl:=(hG.glt hnr htp).1
     have hrs:=Nn (a:=r) hr
     have horr:=vX (a:=r) hu2b
     simp only [BB] at hgl
     refine cK (cK (fZ (m:=22) (dp 15 rfl (cX (Ht rfl)) (dq 106 0 rfl (pX (Ht rfl) (cJ 4294967296)) (dq 107 1 rfl (cX (Ht rfl)) (C.D_step (Ei:=[(15,_),(108,_)]) rfl rfl (bV (bK rfl rfl) (bV (bG 2 rfl rfl) bW)) (eK rfl rfl (Ht rfl) (fun h=>cX (Ht rfl))) (C.D_step (Ei:=[(10,_),(108,_)]) rfl rfl (bV (bK rfl rfl) (bV (bG 2 rfl rfl) bW)) (eK rfl rfl (Ht rfl) (fun h=>cX (Ht rfl))) (C.D_step (Ei:=[(8,_),(108,_)]) rfl rfl (bV (bK rfl rfl) (bV (bG 2 rfl rfl) bW)) (eK rfl rfl (Ht rfl) (fun h=>cX (Ht rfl))) ?_))))))))
     refine C.D_step (Ei:=[(111,_),(108,_)]) rfl rfl (bV (bG 5 rfl rfl) (bV (bG 2 rfl rfl) bW)) (eK rfl rfl (Ht rfl) (fun h=>dW (fJ rfl h) (cJ 2) (by first | omega | (simp at h; omega)) (by show _ < 9223372036854775808; first | omega | (simp at h; omega)))) (C.D_step (Ei:=[(110,_),(112,_),(108,_)]) rfl rfl (bV (bG 4 rfl rfl) (bV (bG 6 rfl rfl) (bV (bG 2 rfl rfl) bW))) (eK rfl rfl (Ht rfl) (fun h=>dZ U_26 Z_55 (fJ rfl h) (fJ rfl h) rfl (dY (aO (by first | omega | (simp at h; omega)))))) ?_)
     refine C.D_step (Ei:=[(113,_),(108,_)]) rfl rfl (bV (bG 7 rfl rfl) (bV (bG 2 rfl rfl) bW)) (eK rfl rfl (Ht rfl) (fun h=>dJ A_55 Z_55 (fJ rfl h))) (C.D_step (Ei:=[(114,_),(108,_)]) rfl rfl (bV (bG 8 rfl rfl) (bV (bG 2 rfl rfl) bW)) (eK rfl rfl (Ht rfl) (fun h=>gZ U_55 U_79 (fJ rfl h) (by show _ < 18446744073709551616; first | omega | (simp at h; omega)))) (C.D_step (Ei:=[(109,_),(115,_),(108,_)]) rfl rfl (bV (bG 3 rfl rfl) (bV (bG 9 rfl rfl) (bV (bG 2 rfl rfl) bW))) (eK rfl rfl (Ht rfl) (fun h=>iO (fJ rfl h) (fJ rfl h) (by show _ < 18446744073709551616; simp at h; exact Sq h hv2))) ?_))
     refine C.D_step (Ei:=[(16,_),(108,_)]) rfl rfl (bV (bK rfl rfl) (bV (bG 2 rfl rfl) bW)) (eK rfl rfl (Ht rfl) (fun h=>cX (Ht rfl))) (C.D_step (Ei:=[(117,_),(108,_)]) rfl rfl (bV (bG 11 rfl rfl) (bV (bG 2 rfl rfl) bW)) (eK rfl rfl (Ht rfl) (fun h=>qA (fJ rfl h) (cJ 32) (by decide) hrs)) (C.D_step (Ei:=[(11,_),(108,_)]) rfl rfl (bV (bK rfl rfl) (bV (bG 2 rfl rfl) bW)) (eK rfl rfl (Ht rfl) (fun h=>cX (Ht rfl))) (C.D_step (Ei:=[(13,_),(108,_)]) rfl rfl (bV (bK rfl rfl) (bV (bG 2 rfl rfl) bW)) (eK rfl rfl (Ht rfl) (fun h=>cX (Ht rfl))) ?_)))
     refine C.D_step (Ei:=[(8,_),(108,_)]) rfl rfl (bV (bK rfl rfl) (bV (bG 2 rfl rfl) bW)) (eK rfl rfl (Ht rfl) (fun h=>cX (Ht rfl))) (C.D_step (Ei:=[(120,_),(121,_),(108,_)]) rfl rfl (bV (bG 14 rfl rfl) (bV (bG 15 rfl rfl) (bV (bG 2 rfl rfl) bW))) (eK rfl rfl (Ht rfl) (fun h=>dV (fJ rfl h) (fJ rfl h) (by show _ < 9223372036854775808; first | omega | (simp at h; omega)))) (C.D_step (Ei:=[(122,_),(108,_)]) rfl rfl (bV (bG 16 rfl rfl) (bV (bG 2 rfl rfl) bW)) (eK rfl rfl (Ht rfl) (fun h=>dW (fJ rfl h) (cJ 2) (by first | omega | (simp at h; omega)) (by show _ < 9223372036854775808; first | omega | (simp at h; omega)))) ?_))
     refine C.D_step (Ei:=[(119,_),(123,_),(108,_)]) rfl rfl (bV (bG 13 rfl rfl) (bV (bG 17 rfl rfl) (bV (bG 2 rfl rfl) bW))) (eK rfl rfl (Ht rfl) (fun h=>fY U_26 Z_55 (fJ rfl h) (fJ rfl h) rfl (by first | omega | (simp at h; omega)) (by rw [Nat.mul_one,Nat.zero_add]))) ?_
     refine C.D_step (Ei:=[(124,_),(108,_)]) rfl rfl (bV (bG 18 rfl rfl) (bV (bG 2 rfl rfl) bW)) (eK rfl rfl (Ht rfl) (fun h=>eY A_55 Z_55 (fJ rfl h) (i:=0) rfl (dY (aO zo)))) (C.D_step (Ei:=[(125,_),(108,_)]) rfl rfl (bV (bG 19 rfl rfl) (bV (bG 2 rfl rfl) bW)) (eK rfl rfl (Ht rfl) (fun h=>gZ U_55 U_79 (fJ rfl h) (by show _ < 18446744073709551616; first | omega | (simp at h; omega)))) (C.D_step (Ei:=[(118,_),(126,_),(108,_)]) rfl rfl (bV (bG 12 rfl rfl) (bV (bG 20 rfl rfl) (bV (bG 2 rfl rfl) bW))) (eK rfl rfl (Ht rfl) (fun h=>aB.nat (oV rfl (fJ rfl h) (fJ rfl h) (by show _ < 18446744073709551616; first | omega | (simp at h; omega)) (by show _ < 18446744073709551616; first | omega | (simp at h; omega))) horr)) ?_))
     refine fV bA rfl (by kernel_rfl) (zF (zF (zF (zF (zF (aJ (aJ (aV (fQ rfl rfl (eK rfl rfl (Ht rfl) (fun h=>gC (fJ rfl h) (fJ rfl h))) (ro rfl (gG (Ht rfl) (fun h=>(fJ rfl h))) (eX (dQ (Ht rfl) (fun hc=>?_) (fun hc=>?_)))))))))))))
     ·have hn2 := hG.next hnr htp (by simpa [BB] using hc)
      have hg1:=hn2.2
      refine cU (eG (ts (rm rfl (ro rfl (dW (Ht rfl) (cJ 1) zo z7) (ra rfl (eX (ts (rm rfl (rm rfl (rm rfl (ro rfl (dW (Ht rfl) (cJ 1) zo z6) (ro rfl (dZ U_26 Z_55 (Ht rfl) (Ht rfl) rfl (dY (aO zo))) (ro rfl (dJ A_55 Z_55 (Ht rfl)) (ro rfl (gZ U_55 U_79 (Ht rfl) z7) ?_))))))))))))))
      refine ro rfl (dV (Ht rfl) (Ht rfl) z7) (ra rfl (eX (ts (rm rfl (ro rfl (pX (Ht rfl) (cJ 4294967296)) (eX (dQ (Ht rfl) (fun hr2=>?_) (fun hr2=>?_))))))))
      ·simp at hr2
       refine gW rfl (aP (g - 1) (hn2.1.stop hnr htp hr2) (zS rfl) (dE.refl _))
      ·simp at hr2
       refine cU (cL (fU (g - 1,_) ⟨hn2.1,hr2⟩ (by dsimp only; omega) (zS rfl) (dE.refl _)))
     ·simp at hc
      refine gW rfl (aP g (hG.done hnr htp hc.1 hc.2) (zS rfl) (dE.refl _))
    ·have hglt := hg.lt
     simp only [BB] at hglt
     refine cK (pH (fun (us2:List Nat) (g2:Nat)=>kJ (m * 2 ^ s) vs us2 (qs.set j g2) j ∧ g2 < 4294967296 ∧ us2.length = (dg m).length + 1) (fun (us2:List Nat) (g2:Nat)=>[(8,NT .i64 vs.length),(9,NT .i64 s),(10,tF vs),(11,Is (.slice (some ⟨B55,0,none⟩) ((dg m).length + 1) ((dg m).length + 1))),(12,Is (.slice (some ⟨B65,0,none⟩) ((dg m).length + 1 - (dg n).length) ((dg m).length + 1 - (dg n).length))),(13,NT .i64 j),(15,NT .u64 g2)]) (fun (us2:List Nat) (g2:Nat)=>[box B55 55 (us2.map bL),box B65 55 (qs.map bL)]) ?_ (fun us2 g2 ⟨hD,hg2,hus2⟩=>?_))
     ·refine ts (rm rfl (rm rfl (rm rfl (rm rfl (Ae Try.call65 (Ox hus hS.dig hv hg.lt zo zo) (i := 0) rfl ⟨(Ht rfl), (Ht rfl), (Ht rfl), (Ht rfl), trivial⟩ rfl (fun ⟨out, b⟩ hT => ?_))))))
      dsimp only at hT
      refine eX (dQ (Ht rfl) (fun hbb=>?_) (fun hbb=>?_))
      ·have hbb : b = true := hbb
       subst hbb
       have hg0:=hS.gpos hv rfl zo hT
       have hol:=hT.len
       refine ts (rm rfl (ro rfl (dW (Ht rfl) (cJ 1) zo z7) (ra rfl (eX (ts (ro rfl (cQ (cJ 0)) (eX (cK (ts (rm rfl (ro rfl (dG U_26 (Ht rfl) aA) (ro rfl (cX (cJ 0)) (eX (eG ?_))))))))))))))
       refine lL (fun (i : Nat) (out2 : List Nat) (c : Nat) => pE out vs j out2 i c) (fun (i : Nat) (out2 : List Nat) (c : Nat) => vs.length - i) (fun (i : Nat) (out2 : List Nat) (c : Nat) => [(8, NT .i64 vs.length), (9, NT .i64 s), (10, tF vs), (11, Is (.slice (some ⟨B55, 0, none⟩) ((dg m).length + 1) ((dg m).length + 1))), (12, Is (.slice (some ⟨B65, 0, none⟩) ((dg m).length + 1 - (dg n).length) ((dg m).length + 1 - (dg n).length))), (13, NT .i64 j), (15, NT .u64 (g - 1 : Nat)), (17, NT .u64 c), (149, tF vs), (150, NT .i64 vs.length), (151, NT .i64 i)]) (fun (i : Nat) (out2 : List Nat) (c : Nat) => [box B55 55 (out2.map bL), box B65 55 (qs.map bL)]) 0 out 0 (pE.start hT.dig vs j)
        (zS rfl) (dE.refl _) (fun i out2 c hB=>?_)
       refine ts (ro rfl (gX (Ht rfl) (Ht rfl)) (eX (cK (dQ (Ht rfl) (fun hi=>?_) (fun hi=>?_)))))
       ·simp at hi
        have hlen:=hB.len; have hcl:=hB.cle; have hvi:=aN hv i; have hok:=aN hB.dig (i + j)
        simp only [BB] at hvi hok
        refine cU (cK (eG (ts (rm rfl (ro rfl (dZ U_26 Z_55 (Ht rfl) (Ht rfl) rfl (dY (aO zo))) (ro rfl (dJ A_55 Z_55 (Ht rfl)) (ra rfl (ra rfl (eX (ts (rm rfl (rm rfl (rm rfl (rm rfl (ro rfl (dV (Ht rfl) (Ht rfl) z6) (ro rfl (fY U_26 Z_55 (Ht rfl) (Ht rfl) rfl zo (by rw [Nat.mul_one,Nat.zero_add])) ?_))))))))))))))))
        refine ro rfl (eY A_55 Z_55 (Ht rfl) (i:=0) rfl (dY (aO zo))) (ro rfl (gZ U_55 U_79 (Ht rfl) z7) (rm rfl (ro rfl (gZ U_55 U_79 (Ht rfl) z7) (ro rfl (dV (Ht rfl) (Ht rfl) z7) (ro rfl (dV (Ht rfl) (Ht rfl) z7) ?_)))))
        refine ra rfl (eX (ts (rm rfl (rm rfl (rm rfl (ro rfl (dV (Ht rfl) (Ht rfl) z6) (rm rfl (ro rfl (gR rfl U_79 U_55 (Ht rfl)) (ro rfl (fY U_26 Z_55 (Ht rfl) (Ht rfl) rfl zo (by rw [Nat.mul_one,Nat.zero_add])) ?_)))))))))
        refine mC Z_55 (Ht rfl) (Ht rfl) (i:=0) rfl (by first | omega | (simp; omega)) rfl (eX (cY (rm rfl (ro rfl (eA (Ht rfl) (cJ 32) (by decide)) (ra rfl (eX (cL (cY (ro rfl (dV (Ht rfl) (cJ 1) z6) (rm rfl (eX (fU (i + 1,_,_) (hB.next hv hi zo rfl) (by dsimp only; omega) (zS rfl) (aU (bD (gL _ _ _)) (aU (fun _ _ _ h=>h) aY))))))))))))))
       ·simp at hi
        have hil:i = vs.length:=Nat.le_antisymm hB.ile hi
        subst hil
        have hlen:=hB.len; have hcl:=hB.cle; have hok:=aN hB.dig (j + vs.length)
        have hBk:=hB.fin zo rfl
        obtain ⟨_,hDn⟩:=hS.wrong hv hV0 (Nat.succ_pos j) rfl hg hT hBk
        simp only [BB] at hok
        refine gW rfl (cY (rm rfl (rm rfl (rm rfl (ro rfl (dV (Ht rfl) (Ht rfl) z6) (ro rfl (fY U_26 Z_55 (Ht rfl) (Ht rfl) rfl zo (by rw [Nat.mul_one,Nat.zero_add])) ?_))))))
        refine ro rfl (eY A_55 Z_55 (Ht rfl) (i:=0) rfl (dY (aO zo))) (rm rfl (ro rfl (gZ U_79 U_55 (Ht rfl) (by show _ < 4294967296; first | omega | (simp only [jD]; omega))) (ro rfl (Ln rfl (Ht rfl) (Ht rfl)) (ro rfl (fY U_26 Z_55 (Ht rfl) (Ht rfl) rfl zo (by rw [Nat.mul_one,Nat.zero_add])) ?_))))
        refine mC Z_55 (Ht rfl) (Ht rfl) (i:=0) rfl (by first | omega | (simp; omega)) rfl (eX (aP (_,g - 1) ⟨hDn,by dsimp only; omega,by simp; omega⟩ (zS rfl) (aU (bD (gL _ _ _)) (aU (fun _ _ _ h=>h) aY))))
      ·have hbb : b = false := hbb
       subst hbb
       have hol:=hT.len
       refine cU (aP (out,g) ⟨hS.right hv hV0 (Nat.succ_pos j) rfl hg hT,hglt,by dsimp only; omega⟩ (zS rfl) (dE.refl _))
     ·refine cY (rm rfl (rm rfl (rm rfl (ro rfl (gZ U_79 U_55 (Ht rfl) (by show _ < 4294967296; first | omega | (simp only [jD]; omega))) (ro rfl (fY U_26 Z_55 (Ht rfl) (Ht rfl) rfl zo (by rw [Nat.mul_one, Nat.zero_add])) ?_)))))
      refine mC Z_55 (Ht rfl) (Ht rfl) (i:=1) rfl (by first | omega | (simp; omega)) rfl (eX (cL (cY (rm rfl (ro rfl (iE (Ht rfl) cV (wD zo)) (ra rfl (eX (fU (j,us2,_) ⟨hD,hus2⟩ (by dsimp only; omega) (zS rfl) (aU (fun _ _ _ h=>h) (aU (bD (gL _ _ _)) aY))))))))))
   ·simp at hk
    have hk0:k = 0:=by omega
    subst hk0
    have hfin:=hS.fin hV0
    have hlq:=hS.lenq
    rw [hvv] at hfin
    have hdiv:val qs = m / n:=by rw [hfin.1]; exact Nat.mul_div_mul_right _ _ hp2
    have hsm:val us < BB ^ vs.length:=by have h1:=hS.small; rw [List.drop_zero] at h1; exact Nat.lt_trans h1 (fS hv)
    have hmod : val (us.take vs.length) / 2 ^ s = m % n := by
     rw [qE hsm zo,hfin.2,Nat.mul_mod_mul_right,Nat.mul_div_cancel _ hp2]
    have hru : (dg (val (us.take vs.length))).length ≤ 17592186044416 := by
     refine Nat.le_trans (hJ (k:=vs.length) ?_) zo
     rw [qE hsm zo]; exact hsm
    refine gW rfl (gJ (i:=1) (tt:=12) rfl rfl (mP rfl zo (Nat.le_refl _)) (gJ (i:=0) (tt:=11) rfl rfl (mP rfl zo (Nat.le_refl _)) (cK (fZ (m:=7) (dp 12 rfl (cX (Ht rfl)) (dq 193 0 rfl (cZ K_48 (lN _ hS.digq zo) ⟨(Ht rfl),trivial⟩) (dp 11 rfl (cX (Ht rfl)) (dp 8 rfl (cX (Ht rfl)) (fF 195 2 196 3 rfl (aB.imp (uI U_26 Z_55 (Ht rfl) (Ht rfl) (fun m e=>by cases e) zo (by simp; omega) rfl) (Ko _ _)) ?_)))))))))
    refine dq 197 4 rfl (cZ K_48 (lN _ (hS.dig.take' vs.length) (by simp; omega)) ⟨(Ht rfl),trivial⟩) ?_
    refine dp 9 rfl (cX (Ht rfl)) (fV bA rfl (by kernel_rfl) (zF (aJ (aJ (aJ (aV (ro rfl (cZ Try.call66 (Sc hru zo) ⟨(Ht rfl),(Ht rfl),trivial⟩) (ra rfl (ra rfl (eX (bE rfl (fX (eU rfl) ?_) (fX (eU rfl) ?_))))))))))))
    ·exact (dI hdiv)
    ·exact (dI hmod)
end
section
open Go Go.RowKit
theorem Pj:Try.prog.info? 5 = some Try.t5:=by kernel_rfl
theorem Ck:Try.prog.underlying 117 = some (.slice 5):=by kernel_rfl
theorem Tj:Try.prog.underlying 5 = some (.int .u8):=by kernel_rfl
theorem Tk:Try.prog.underlying 9 = some (.string):=by kernel_rfl
end
section
open Go Go.RowKit
theorem Nd {m n:Nat} (hm:(dg m).length ≤ 17592186044415) (hn:(dg n).length ≤ 17592186044415):aT Try.prog 45 [aL m,aL n] (aL (Nat.gcd m n)):=by
 refine aT.intro Try.func45 rfl Try.ntmps45 rfl (fun cx=>(ts (ro rfl (cQ cV) (eX (cK (eG ?_))))))
 refine gI (fun (x : Nat) (y : Nat) => Nat.gcd x y = Nat.gcd m n ∧ (dg x).length ≤ 17592186044415 ∧ (dg y).length ≤ 17592186044415) (fun (x : Nat) (y : Nat) => y) (fun (x : Nat) (y : Nat) => [(0, aL x), (1, aL y)]) (fun (x : Nat) (y : Nat) => []) m n ⟨rfl, hm, hn⟩
  (zS rfl) aY (fun x y ⟨hg,hx,hy⟩=>?_)
 refine cK (ts (rm rfl (ro rfl (dG U_26 (Ht rfl) aA) (ro rfl (gC (Ht rfl) (cJ 0)) (eX (dQ (Ht rfl) (fun hb=>?_) (fun hb=>?_)))))))
 ·simp at hb
  have hy0:y ≠ 0:=fun e=>by rw [e,cM] at hb; simp at hb
  have hlt:=Nat.mod_lt x (Nat.pos_of_ne_zero hy0)
  refine cU (eG (ts (rm rfl (rm rfl (ro rfl (cZ Try.call47 (Au hx zo hy0) ⟨(Ht rfl),(Ht rfl),trivial⟩) (rm rfl (ro rfl (dK (Ht rfl) rfl) (ro rfl (dK (Ht rfl) rfl) (ra rfl (ra rfl (eX (cY (rm rfl (rm rfl (ra rfl (ra rfl (eX (cL (fU (y,x % y) ⟨by rw [← hg,Nat.gcd_comm x y,Nat.gcd_rec y x,Nat.gcd_comm],hy,Nat.le_trans (iA (Nat.le_of_lt hlt)) hy⟩ hlt (zS rfl) aY)))))))))))))))))))
 ·simp at hb
  have hy0:y = 0:=aM.1 (by simpa using hb)
  subst hy0
  rw [Nat.gcd_zero_right] at hg
  refine gW rfl (ts (rm rfl (ra rfl (eX (fW rfl (fX (eU rfl) ?_))))))
  exact (dI hg)
theorem Sb {l:List Nat} {v:Value} (hl:l.length ≤ 1152921504606846976):iC Try.prog 85 [Is v] [bH 5 1 v (l.map tH)] Unit (fun _=>kI) (fun _=>[bH 5 1 v (l.reverse.map tH)]) (fun _=>True):=by
 refine iC.intro Try.func85 rfl Try.ntmps85 rfl (fun cx Z=>(ts (rm rfl (ro rfl (pY U_117 (Ht rfl) (i:=1) rfl aA) (ro rfl (iE (Ht rfl) cV (wD zo)) (ro rfl (cQ (cJ 0)) (ra rfl (eX (eG ?_)))))))))
 refine gI (fun (k : Nat) (o : List Nat) => uS l o k) (fun (k : Nat) (o : List Nat) => l.length - k) (fun (k : Nat) (o : List Nat) => [(0, Is v), (2, NT .i64 k), (3, aE .i64 ((l.length : Int) - 1 - (k : Int)))]) (fun (k : Nat) (o : List Nat) => [Z, bH 5 1 v (o.map tH)]) 0 l (uS.start l)
  (aQ rfl (aQ rfl (aZ rfl (aR zo) aX))) (dE.refl _) (fun k o hS=>?_)
 refine cK (ts (rm rfl (rm rfl (ro rfl (kW (Ht rfl) (Ht rfl)) (eX (dQ (Ht rfl) (fun hb=>?_) (fun hb=>?_)))))))
 ·simp only [decide_eq_true_eq] at hb
  have hk:2 * k + 1 < l.length:=by omega
  obtain ⟨j,hj⟩:∃ j,j = l.length - 1 - k:=⟨_,rfl⟩
  have hlen:=hS.len
  refine qV (E':=[(0,_),(2,_),(3,_),(7,_),(8,_),(9,_)]) (aQ rfl (aQ rfl (aZ rfl (aR (show (l.length:Int) - 1 - (k:Int) = (j:Int) by omega)) (zS rfl)))) (cU (cK (eG (W.D_start (m:=14) (fun b=>cond b ([Z,bH 5 1 v ((o.map tH).set k (tH (o.getD j 0)))]) _) 13 (W.D_step (Ei:=[(0,_)]) rfl rfl (W.Srcs.cons (W.Src.pre rfl rfl) W.Srcs.nil) rfl (by kernel_rfl) (dX rfl (cX (Ht rfl))) (W.D_step (Ei:=[(2,_)]) rfl rfl (W.Srcs.cons (W.Src.pre rfl rfl) W.Srcs.nil) rfl (by kernel_rfl) (dX rfl (cX (Ht rfl))) ?_))))))
  refine W.D_pure (Ei:=[(0,_)]) rfl rfl (W.Srcs.cons (W.Src.pre rfl rfl) W.Srcs.nil) rfl (fun _=>dX rfl (cX (Ht rfl))) (W.D_pure (Ei:=[(3,_)]) rfl rfl (W.Srcs.cons (W.Src.pre rfl rfl) W.Srcs.nil) rfl (fun _=>dX rfl (cX (Ht rfl))) (W.D_step (Ei:=[(0,_)]) rfl rfl (W.Srcs.cons (W.Src.pre rfl rfl) W.Srcs.nil) rfl (by kernel_rfl) (dX rfl (cX (Ht rfl))) (W.D_step (Ei:=[(3,_)]) rfl rfl (W.Srcs.cons (W.Src.pre rfl rfl) W.Srcs.nil) rfl (by kernel_rfl) (dX rfl (cX (Ht rfl))) (W.D_step (Ei:=[(18,_),(19,_)]) rfl rfl (W.Srcs.cons (W.Src.op 4 rfl rfl) (W.Srcs.cons (W.Src.op 5 rfl rfl) W.Srcs.nil)) rfl (by kernel_rfl) (dX rfl (hZ U_117 Z_5 (Ht rfl) (Ht rfl) rfl (i:=1) rfl (by first | omega | (simp; omega)) rfl)) ?_))))
  refine W.D_step (Ei:=[(20,_)]) rfl rfl (W.Srcs.cons (W.Src.op 6 rfl rfl) W.Srcs.nil) rfl (by kernel_rfl) (dX rfl (vV Try.isAgg5 Z_5 (Ht rfl) (i:=1) rfl rfl (dY (aO zo)))) (W.D_step (Ei:=[(0,_)]) rfl rfl (W.Srcs.cons (W.Src.pre rfl rfl) W.Srcs.nil) rfl (by kernel_rfl) (dX rfl (cX (Ht rfl))) (W.D_step (Ei:=[(2,_)]) rfl rfl (W.Srcs.cons (W.Src.pre rfl rfl) W.Srcs.nil) rfl (by kernel_rfl) (dX rfl (cX (Ht rfl))) (W.D_step (Ei:=[(22,_),(23,_)]) rfl rfl (W.Srcs.cons (W.Src.op 8 rfl rfl) (W.Srcs.cons (W.Src.op 9 rfl rfl) W.Srcs.nil)) rfl (by kernel_rfl) (dX rfl (hZ U_117 Z_5 (Ht rfl) (Ht rfl) rfl (i:=1) rfl (by first | omega | (simp; omega)) rfl)) ?_)))
  refine W.D_step (Ei:=[(24,_)]) rfl rfl (W.Srcs.cons (W.Src.op 10 rfl rfl) W.Srcs.nil) rfl (by kernel_rfl) (dX rfl (vV Try.isAgg5 Z_5 (Ht rfl) (i:=1) rfl rfl (dY (aO zo)))) (W.D_step (Ei:=[(14,_),(15,_)]) rfl rfl (W.Srcs.cons (W.Src.op 0 rfl rfl) (W.Srcs.cons (W.Src.op 1 rfl rfl) W.Srcs.nil)) rfl (by kernel_rfl) (dX rfl (hZ U_117 Z_5 (Ht rfl) (Ht rfl) rfl (i:=1) rfl (by first | omega | (simp; omega)) rfl)) (W.D_put (Ei:=[(26,_),(21,_)]) rfl rfl (W.Srcs.cons (W.Src.op 12 rfl rfl) (W.Srcs.cons (W.Src.op 7 rfl rfl) W.Srcs.nil)) rfl (Rd Z_5 (Ht rfl) (Ht rfl) El.one (i:=1) rfl rfl (by first | omega | (simp; omega))) ?_))
  refine W.D_done bA rfl (by kernel_rfl) rfl (W.F_val (W.F_val (W.F_val (W.F_val (W.F_val (W.F_val (W.F_val (W.F_val (W.F_val (W.F_val (W.F_val (W.F_val (W.F_val (W.F_put (W.F_nil (ro rfl (hZ U_117 Z_5 (Ht rfl) (Ht rfl) rfl (i:=1) rfl (by first | omega | (simp; omega)) rfl) (qU Z_5 (Ht rfl) (Ht rfl) El.one (i:=1) rfl rfl (by first | omega | (simp; omega)) rfl (eX (cL (cY (rm rfl (ro rfl (dV (Ht rfl) (cJ 1) z6) (rm rfl (ro rfl (iE (Ht rfl) cV (wD zo)) ?_))))))))))))))))))))))))
  refine ra rfl (ra rfl (eX (fU (k + 1,_) (hS.next hk hj) (by dsimp only; omega) (aQ rfl (aQ rfl (aZ rfl (aR zo) aX))) (aU (fun _ _ _ h=>h) (aU (dN (Mq _ _ _ _ _)) aY)))))
 ·simp only [decide_eq_false_iff_not] at hb
  have hfin:=hS.fin (by have:=hS.kle; omega)
  refine gW rfl ?_
  exact Nz () trivial [0,1] ⟨⟨_,rfl,fun _ _ _ h=>h⟩,⟨_,rfl,(dN (by rw [hfin]))⟩,trivial⟩ (by decide) (Ui rfl (fun _=>trivial))
theorem wQ {m:Nat} (hm:(dg m).length ≤ 8796093022208):aT Try.prog 77 [aL m] (oH (sH m)):=by
 refine aT.intro Try.func77 rfl Try.ntmps77 rfl (fun cx=>(ts (ro rfl (cQ (aI.cS (l:=[]) rfl)) (eX (cK (ts (rm rfl (ro rfl (dG U_26 (Ht rfl) aA) (ro rfl (fE (Ht rfl) (cJ 0)) (eX (dQ (Ht rfl) (fun hb=>?_) (fun hb=>?_))))))))))))
 ·simp at hb
  have h0:m = 0:=aM.1 (by simpa using hb)
  subst h0
  refine ts (ro rfl (cQ (aI.cS (l:=[48]) rfl)) (eX (fW rfl (fX (eU rfl) ?_))))
  exact (kH rfl)
 ·simp at hb
  have h0:m ≠ 0:=fun e=>hb (by rw [e,cM])
  refine cU (ts (ro rfl (cQ cV) (eX (cK (eG (Mw 5 1 ?_))))))
  refine lL (fun (x : Nat) (out : List Nat) (v : Value) => uP m out x ∧ x ≤ m) (fun (x : Nat) (out : List Nat) (v : Value) => x) (fun (x : Nat) (out : List Nat) (v : Value) => [(0, aL x), (3, Is v)]) (fun (x : Nat) (out : List Nat) (v : Value) => [bH 5 1 v (out.map tH)]) m [] (.slice none 0 0) ⟨uP.start m, Nat.le_refl m⟩
   (zS rfl) (dE.refl _) (fun x out v ⟨hO,hle⟩=>?_)
  refine cK (ts (rm rfl (ro rfl (dG U_26 (Ht rfl) aA) (ro rfl (gC (Ht rfl) (cJ 0)) (eX (dQ (Ht rfl) (fun hc=>?_) (fun hc=>?_)))))))
  ·simp at hc
   have hx0:x ≠ 0:=fun e=>by rw [e,cM] at hc; simp at hc
   have hxm:=iA hle
   refine cU (eG (ts (ro rfl (cQ (cJ 0)) (eX (ts (rm rfl (ro rfl (cZ Try.call62 (Ax zo (by decide) (by decide)) ⟨(Ht rfl),(cJ 1000000000),trivial⟩) (rm rfl (ro rfl (dK (Ht rfl) rfl) (ro rfl (dK (Ht rfl) rfl) (ra rfl (ra rfl (eX (ts (ro rfl (cQ (cJ 0)) (eX (eG ?_)))))))))))))))))
   refine Ah (fun (r : Nat) (k : Nat) (out : List Nat) (v : Value) => sA m out (x / 1000000000) r k) (fun (r : Nat) (k : Nat) (out : List Nat) (v : Value) => 9 - k) (fun (r : Nat) (k : Nat) (out : List Nat) (v : Value) => [(0, aL (x / 1000000000)), (3, Is v), (4, bL r), (5, NT .i64 k)]) (fun (r : Nat) (k : Nat) (out : List Nat) (v : Value) => [bH 5 1 v (out.map tH)]) (x % 1000000000) 0 out v (hO.inner)
    (zS rfl) (dE.refl _) (fun r k out v hI=>?_)
   refine cK (ts (rm rfl (ro rfl (gX (Ht rfl) (cJ 9)) (rm rfl (fQ rfl rfl (pF rfl rfl (Ht rfl) (fun h=>cX (Ht rfl))) (fQ rfl rfl (pF rfl rfl (Ht rfl) (fun h=>dG U_26 (aI.wu rfl h) aA)) (fQ rfl rfl (pF rfl rfl (Ht rfl) (fun h=>gC (aI.wu rfl h) (cJ 0))) (fQ rfl rfl (pF rfl rfl (Ht rfl) (fun h=>cX (aI.wu rfl h))) (fQ rfl rfl (Af rfl rfl rfl (fun h h2=>cX (Ht rfl))) (fQ rfl rfl (Af rfl rfl rfl (fun h h2=>gC (aI.wu rfl ⟨h,h2⟩) (cJ 0))) (fQ rfl rfl (pF rfl rfl (Ht rfl) (fun h=>gG (aI.wu rfl h) (fun h2=>(aI.wu rfl ⟨h,h2⟩)))) ?_)))))))))))
   refine ro rfl (eO (Ht rfl) (fun h=>(aI.wu rfl h))) (eX (dQ (Ht rfl) (fun hd=>?_) (fun hd=>?_)))
   ·simp at hd
    have hxr:0 < x / 1000000000 ∨ 0 < r:=hd.2.imp (fun h=>Nat.pos_of_ne_zero (fun e=>by rw [e,cM] at h; simp at h)) id
    have hln:=hI.len hxr
    have hr32:=hI.r32
    refine cU (cK (eG (ts (rm rfl (rm rfl (ro rfl (lW (Ht rfl) (cJ 10) zo) (ro rfl (dV (cJ 48) (Ht rfl) (by show _ < 4294967296; first | omega | (simp only [jD]; omega))) (ro rfl (gZ U_55 U_5 (Ht rfl) (by show _ < 256; first | omega | (simp only [jD]; omega))) (ro rfl (dB (xs:=[.tmp 34]) U_117 Z_5 Try.zeroValue5 (cW (Ht rfl) cG) rfl rfl rfl) (Ec (inf:=Try.t5) Ck Pj rfl rfl rfl (Ht rfl) (Ht rfl) (i:=0) rfl (by simp) (fun T hT=>by simp at hT; subst hT; exact El.one) (by show _ * 1 ≤ _; simp only [List.length_map,List.length_cons,List.length_nil]; omega) (by simp only [List.length_map,List.length_cons,List.length_nil]; omega) rfl (fun v2=>?_)))))))))))
    refine ra rfl (eX (cY (rm rfl (ro rfl (pZ (Ht rfl) (cJ 10) zo (by show _ < 4294967296; first | omega | (simp only [jD]; omega))) (ra rfl (eX (cL (cY (rm rfl (ro rfl (dV (Ht rfl) (cJ 1) z6) (ra rfl (eX (fU (r / 10,k + 1,_,v2) (hI.next hd.1 hxr) (by dsimp only; omega) (zS rfl) (aU (dN (Qt _ _)) aY))))))))))))))
   ·simp at hd
    have hO2 := hI.fin (fun ⟨h1, h2⟩ => by
     have h3:=hd h1
     rcases h2 with h2 | h2
     ·have:=qJ.1 h3.1; omega
     ·omega)
    refine gW rfl (cL (fU (x / 1000000000,_,_) ⟨hO2,Nat.le_trans (Nat.div_le_self _ _) hle⟩ (Nat.div_lt_self (Nat.pos_of_ne_zero hx0) (by decide)) (zS rfl) (dE.refl _)))
  ·simp at hc
   have hx0:x = 0:=aM.1 (by simpa using hc)
   subst hx0
   have hfin:=hO.fin
   have hdl:=mL m
   rw [hfin] at hdl
   refine gW rfl (ts (rm rfl (Ae Try.call85 (Sb zo) (i:=0) rfl ⟨(Ht rfl),trivial⟩ rfl (fun _ _=>(eX (cK (gJ (i:=0) (tt:=3) rfl rfl nV (cY (rm rfl (ro rfl (Hk Ck Tj Tk (Ht rfl) (by rw [← hfin]; simpa using Kn h0) (fun b hb=>Pa (n:=m) b (by rw [rN h0,hfin]; exact hb))) ?_))))))))))
   refine ra rfl (eX (fW rfl (fX (eU rfl) ?_)))
   exact (kH (by rw [rN h0,hfin]))
end
section
open Go Go.RowKit
theorem oN {n : Nat} {E : bC} {H : Hp} {d : Option Tmp} {t : TypeId} {pos : String} {af : Array Edge} {g : Option (Nat × Bool)} {x0 x1 : Operand} {T0 T1 : Ty} [s0 : cB T0 1 false] (h0 : aI E x0 T0) [s1 : cB T1 1 false] (h1 : aI E x1 T1) :
  aB Try.prog n E H ⟨d,.build 28 #[(0,x0),(1,x1)],t,pos,af,g⟩ (eT [T0,T1]) :=
 gE (parts := [(0, x0), (1, x1)]) fun a V w hs => by
  have p0:=h0 n V a hs
  generalize e0:a.eval x0 = v0 at p0
  have q0:=(s0.ok v0 V p0).2.2 rfl
  have p1:=h1 n V a hs
  generalize e1:a.eval x1 = v1 at p1
  have q1:=(s1.ok v1 V p1).2.2 rfl
  refine ⟨.agg #[v0,v1],?_,[v0,v1],rfl,aW (⟨p0,q0⟩) (aW (⟨p1,q1⟩) (aG))⟩
  simp [e0,e1,Instr.build,Instr.fill,Sem.run_bind,Result.andThen,eS,q0.cells,q1.cells,O_28,U_28,Z_4,Z_26]
theorem gB (a:Addr) (w:World):(Instr.fieldAt 28 (.pointer (some a)) 0).run Try.prog w = .ok (.pointer (some (a.add 0))) w:=by
 simp [Instr.fieldAt,Instr.sureAddr,fieldPlace,Sem.run_bind,Result.andThen,U_28,Z_4]
theorem bR (a:Addr) (w:World):(Instr.fieldAt 28 (.pointer (some a)) 1).run Try.prog w = .ok (.pointer (some (a.add 1))) w:=by
 simp [Instr.fieldAt,Instr.sureAddr,fieldPlace,Sem.run_bind,Result.andThen,U_28,Z_26]
end
section
open Go Go.RowKit
theorem vE {n:Int} (h1:-9223372036854775808 ≤ n) (h2:n ≤ 9223372036854775807):aT Try.prog 18 [aE .i64 n] (eP n):=by
 refine aT.intro Try.func18 rfl Try.ntmps18 rfl (fun cx=>(ts (rn rfl (eW (Ts:=[Is (.bool false),Is (.slice none 0 0)]) O_28 rfl (fun V=>aW zd (aW zd (aG)))) fun B2=>(eX (cK (ts (rm rfl (ro rfl (kW (Ht rfl) cV) (eX (dQ (Ht rfl) (fun hb=>?_) (fun hb=>?_)))))))))))
 ·have hn : n < 0 := by simpa using hb
  refine ts (rm rfl (ro rfl (rT U_2 U_79 (Ht rfl) (r:=((18446744073709551616 - n.natAbs:Nat):Int)) (by rw [IntKind.wrap_u64]; omega)) ?_))
  refine ro rfl (zL (Ht rfl) (r:=((n.natAbs:Nat):Int)) (by rw [IntKind.wrap_u64]; omega)) ?_
  refine ro rfl (cZ Try.call41 (rL zo) ⟨(Ht rfl),trivial⟩) (ro rfl (oN cV (Ht rfl)) (gQ Z_28 (Ht rfl) (Ht rfl) rfl (i:=0) rfl (aK rfl) rfl rfl (eX (fW rfl (fX (fK A_28 Z_28 rfl (i:=0) rfl rfl) ?_)))))
  exact (qG (by rw [hb]; rfl))
 ·have hn : ¬ n < 0 := by simpa using hb
  refine cU (ts (rm rfl (ro rfl (rT U_2 U_79 (Ht rfl) (r:=((n.natAbs:Nat):Int)) (by rw [IntKind.wrap_u64]; omega)) ?_)))
  refine ro rfl (cZ Try.call41 (rL zo) ⟨(Ht rfl),trivial⟩) (ro rfl (oN cV (Ht rfl)) (gQ Z_28 (Ht rfl) (Ht rfl) rfl (i:=0) rfl (aK rfl) rfl rfl (eX (fW rfl (fX (fK A_28 Z_28 rfl (i:=0) rfl rfl) ?_)))))
  exact (qG (by rw [hb]; rfl))
theorem gY {b:Bool} {m:Nat}:aT Try.prog 42 [aC b,aL m] (eP (oZ b m)):=by
 refine aT.intro Try.func42 rfl Try.ntmps42 rfl (fun cx=>(ts (rn rfl (eW (Ts:=[Is (.bool false),Is (.slice none 0 0)]) O_28 rfl (fun V=>aW zd (aW zd (aG)))) fun B4=>(eX (ts (rm rfl (rm rfl (fQ rfl rfl (eK rfl rfl (Ht rfl) (fun h=>cX (Ht rfl))) (fQ rfl rfl (eK rfl rfl (Ht rfl) (fun h=>dG U_26 (fJ rfl h) aA)) (fQ rfl rfl (eK rfl rfl (Ht rfl) (fun h=>gC (fJ rfl h) (cJ 0))) (ro rfl (eO (Ht rfl) (fun h=>(fJ rfl h))) (rm rfl (ro rfl (oN (Ht rfl) (Ht rfl)) ?_)))))))))))))
 refine gQ Z_28 (Ht rfl) (Ht rfl) rfl (i:=0) rfl (aK rfl) rfl rfl (eX (fW rfl (fX (fK A_28 Z_28 rfl (i:=0) rfl rfl) ?_)))
 exact Qm
theorem kL {x:Int}:aT Try.prog 27 [eP x] (eP (-x)):=by
 refine aT.intro Try.func27 rfl Try.ntmps27 rfl (fun cx=>(ts (rn rfl (fG (Ht rfl)) fun B1=>(rn rfl (eW (Ts:=[Is (.bool false),Is (.slice none 0 0)]) O_28 rfl (fun V=>aW zd (aW zd (aG)))) fun B2=>(eX (ts (ro rfl (eZ gB (Ht rfl) rfl) (ro rfl (eY A_4 Z_4 (Ht rfl) (i:=0) rfl rfl) (ro rfl (dL (Ht rfl)) (ro rfl (eZ bR (Ht rfl) rfl) (ro rfl (eY A_26 Z_26 (Ht rfl) (i:=0) rfl rfl) (ro rfl (cZ K_42 gY ⟨(Ht rfl),(Ht rfl),trivial⟩) ?_))))))))))))
 refine gQ Z_28 (Ht rfl) (Ht rfl) rfl (i:=1) rfl (aK rfl) rfl rfl (eX (fW rfl (fX (fK A_28 Z_28 rfl (i:=1) rfl rfl) ?_)))
 exact (lI (Dn x))
theorem qI {x y:Int} (hx:(dg x.natAbs).length ≤ 17592186044416) (hy:(dg y.natAbs).length ≤ 17592186044416):aT Try.prog 25 [eP x,eP y] (eP (x + y)):=by
 refine aT.intro Try.func25 rfl Try.ntmps25 rfl (fun cx=>(ts (rn rfl (fG (Ht rfl)) fun B2=>(rn rfl (fG (Ht rfl)) fun B3=>(rn rfl (eW (Ts:=[Is (.bool false),Is (.slice none 0 0)]) O_28 rfl (fun V=>aW zd (aW zd (aG)))) fun B4=>(eX (cK (ts (ro rfl (eZ gB (Ht rfl) rfl) (ro rfl (eY A_4 Z_4 (Ht rfl) (i:=0) rfl rfl) (ro rfl (eZ gB (Ht rfl) rfl) (ro rfl (eY A_4 Z_4 (Ht rfl) (i:=1) rfl rfl) (ro rfl (Pu Try.runUnderlying4 (Ht rfl) (Ht rfl)) ?_)))))))))))))
 refine eX (dQ (Ht rfl) (fun hb=>?_) (fun hb=>?_))
 ·have he : decide (x < 0) = decide (y < 0) := by simpa using hb
  refine cK (fZ (m:=7) (dp 2 rfl (eZ gB (Ht rfl) rfl) (dq 10 0 rfl (eY A_4 Z_4 (Ht rfl) (i:=0) rfl rfl) (dp 2 rfl (eZ bR (Ht rfl) rfl) (dq 12 2 rfl (eY A_26 Z_26 (Ht rfl) (i:=0) rfl rfl) (dp 3 rfl (eZ bR (Ht rfl) rfl) (dq 14 4 rfl (eY A_26 Z_26 (Ht rfl) (i:=1) rfl rfl) (fF 13 3 15 5 rfl (cZ Try.call43 (Rz zo zo) ⟨(Ht rfl),(Ht rfl),trivial⟩) (fV bA rfl (by kernel_rfl) (zF (aJ (aJ (aJ (aV ?_))))))))))))))
  refine ro rfl (cZ K_42 gY ⟨(Ht rfl),(Ht rfl),trivial⟩) (gQ Z_28 (Ht rfl) (Ht rfl) rfl (i:=2) rfl (aK rfl) rfl rfl (eX (fW rfl (fX (fK A_28 Z_28 rfl (i:=2) rfl rfl) ?_))))
  exact (lI (Im he))
 ·have he : decide (x < 0) ≠ decide (y < 0) := by simpa using hb
  refine cU (cK (ts (ro rfl (eZ bR (Ht rfl) rfl) (ro rfl (eY A_26 Z_26 (Ht rfl) (i:=0) rfl rfl) (ro rfl (eZ bR (Ht rfl) rfl) (ro rfl (eY A_26 Z_26 (Ht rfl) (i:=1) rfl rfl) (ro rfl (cZ Try.call20 (Fe zo zo) ⟨(Ht rfl),(Ht rfl),trivial⟩) (ro rfl (lU (Ht rfl) cV) (eX (dQ (Ht rfl) (fun hc=>?_) (fun hc=>?_)))))))))))
  ·have hle : y.natAbs ≤ x.natAbs := Kh (by simpa using hc)
   refine cK (fZ (m:=7) (dp 2 rfl (eZ gB (Ht rfl) rfl) (dq 24 0 rfl (eY A_4 Z_4 (Ht rfl) (i:=0) rfl rfl) (dp 2 rfl (eZ bR (Ht rfl) rfl) (dq 26 2 rfl (eY A_26 Z_26 (Ht rfl) (i:=0) rfl rfl) (dp 3 rfl (eZ bR (Ht rfl) rfl) (dq 28 4 rfl (eY A_26 Z_26 (Ht rfl) (i:=1) rfl rfl) (fF 27 3 29 5 rfl (cZ Try.call44 (Ng zo zo) ⟨(Ht rfl),(Ht rfl),trivial⟩) (fV bA rfl (by kernel_rfl) (zF (aJ (aJ (aJ (aV ?_))))))))))))))
   refine ro rfl (cZ K_42 gY ⟨(Ht rfl),(Ht rfl),trivial⟩) (gQ Z_28 (Ht rfl) (Ht rfl) rfl (i:=2) rfl (aK rfl) rfl rfl (eX (fW rfl (fX (fK A_28 Z_28 rfl (i:=2) rfl rfl) ?_))))
   exact (lI (xZ he hle))
  ·have hle : x.natAbs ≤ y.natAbs := Nat.le_of_lt (Ki (by simpa using hc))
   refine cU (cK (fZ (m:=7) (dp 3 rfl (eZ gB (Ht rfl) rfl) (dq 32 0 rfl (eY A_4 Z_4 (Ht rfl) (i:=1) rfl rfl) (dp 3 rfl (eZ bR (Ht rfl) rfl) (dq 34 2 rfl (eY A_26 Z_26 (Ht rfl) (i:=1) rfl rfl) (dp 2 rfl (eZ bR (Ht rfl) rfl) (dq 36 4 rfl (eY A_26 Z_26 (Ht rfl) (i:=0) rfl rfl) (fF 35 3 37 5 rfl (cZ Try.call44 (Ng zo zo) ⟨(Ht rfl),(Ht rfl),trivial⟩) (fV bA rfl (by kernel_rfl) (zF (aJ (aJ (aJ (aV ?_)))))))))))))))
   refine ro rfl (cZ K_42 gY ⟨(Ht rfl),(Ht rfl),trivial⟩) (gQ Z_28 (Ht rfl) (Ht rfl) rfl (i:=2) rfl (aK rfl) rfl rfl (eX (fW rfl (fX (fK A_28 Z_28 rfl (i:=2) rfl rfl) ?_))))
   exact (lI (by rw [xZ (Ne.symm he) hle,Int.add_comm]))
theorem nT {x y:Int} (hx:(dg x.natAbs).length ≤ 17592186044416) (hy:(dg y.natAbs).length ≤ 17592186044416):aT Try.prog 24 [eP x,eP y] (eP (x * y)):=by
 refine aT.intro Try.func24 rfl Try.ntmps24 rfl (fun cx=>(ts (rn rfl (fG (Ht rfl)) fun B2=>(rn rfl (fG (Ht rfl)) fun B3=>(rn rfl (eW (Ts:=[Is (.bool false),Is (.slice none 0 0)]) O_28 rfl (fun V=>aW zd (aW zd (aG)))) fun B4=>(eX (cK (fZ (m:=10) (dp 2 rfl (eZ gB (Ht rfl) rfl) (dq 5 0 rfl (eY A_4 Z_4 (Ht rfl) (i:=0) rfl rfl) (dp 3 rfl (eZ gB (Ht rfl) rfl) (dq 7 2 rfl (eY A_4 Z_4 (Ht rfl) (i:=1) rfl rfl) (fF 6 1 8 3 rfl (Pv Try.runUnderlying4 (Ht rfl) (Ht rfl)) ?_)))))))))))))
 refine dp 2 rfl (eZ bR (Ht rfl) rfl) (dq 10 5 rfl (eY A_26 Z_26 (Ht rfl) (i:=0) rfl rfl) (dp 3 rfl (eZ bR (Ht rfl) rfl) (dq 12 7 rfl (eY A_26 Z_26 (Ht rfl) (i:=1) rfl rfl) (fF 11 6 13 8 rfl (cZ Try.call30 (wR zo zo) ⟨(Ht rfl),(Ht rfl),trivial⟩) (fV bA rfl (by kernel_rfl) (zF (zF (aJ (aJ (aV (ro rfl (cZ K_42 gY ⟨(Ht rfl),(Ht rfl),trivial⟩) (gQ Z_28 (Ht rfl) (Ht rfl) rfl (i:=2) rfl (aK rfl) rfl rfl ?_))))))))))))
 refine eX (fW rfl (fX (fK A_28 Z_28 rfl (i:=2) rfl rfl) ?_))
 exact (lI (Do x y))
theorem iG {x:Int} {n:Nat} (hx:(dg x.natAbs).length ≤ 17592186044416) (hn:(dg n).length ≤ 17592186044416):aT Try.prog 28 [eP x,aL n] (eP (x * n)):=by
 refine aT.intro Try.func28 rfl Try.ntmps28 rfl (fun cx=>(ts (rn rfl (fG (Ht rfl)) fun B2=>(rn rfl (eW (Ts:=[Is (.bool false),Is (.slice none 0 0)]) O_28 rfl (fun V=>aW zd (aW zd (aG)))) fun B4=>(eX (cK (fZ (m:=6) (dp 2 rfl (eZ gB (Ht rfl) rfl) (dq 5 0 rfl (eY A_4 Z_4 (Ht rfl) (i:=0) rfl rfl) (dp 2 rfl (eZ bR (Ht rfl) rfl) (dq 7 2 rfl (eY A_26 Z_26 (Ht rfl) (i:=0) rfl rfl) (dp 1 rfl (cX (Ht rfl)) (fF 8 3 9 4 rfl (cZ Try.call30 (wR zo zo) ⟨(Ht rfl),(Ht rfl),trivial⟩) ?_)))))))))))))
 refine fV bA rfl (by kernel_rfl) (zF (aJ (aJ (aV (ro rfl (cZ K_42 gY ⟨(Ht rfl),(Ht rfl),trivial⟩) (gQ Z_28 (Ht rfl) (Ht rfl) rfl (i:=1) rfl (aK rfl) rfl rfl (eX (fW rfl (fX (fK A_28 Z_28 rfl (i:=1) rfl rfl) ?_)))))))))
 exact (lI (tA x n))
theorem vI {x y:Int} (hx:(dg x.natAbs).length ≤ 17592186044415) (hy:(dg y.natAbs).length ≤ 17592186044415):aT Try.prog 19 [eP x,eP y] (aE .i64 (iN x y)):=by
 have hny:=sK y
 have hs:=jQ (x:=x) (y:=-y) hx zo
 refine aT.intro Try.func19 rfl Try.ntmps19 rfl (fun cx=>(ts (rn rfl (fG (Ht rfl)) fun B2=>(rn rfl (fG (Ht rfl)) fun B3=>(ro rfl (cQ (cJ 0)) (eX (cK (fZ (m:=5) (dp 2 rfl (eJ A_28 Z_28 (Ht rfl) (i:=0) rfl rfl rfl) (dp 3 rfl (eJ A_28 Z_28 (Ht rfl) (i:=1) rfl rfl rfl) (dq 7 1 rfl (cZ K_27 kL ⟨(Ht rfl),trivial⟩) (fF 6 0 8 2 rfl (cZ K_25 (qI zo zo) ⟨(Ht rfl),(Ht rfl),trivial⟩) (C.D_new (Ei:=[]) rfl rfl rfl bW (eW (Ts:=[Is (.bool false),Is (.slice none 0 0)]) O_28 rfl (fun V=>aW zd (aW zd (aG)))) ?_)))))))))))))
 refine fV bA rfl (by kernel_rfl) (zF (C.F_new (fun B5=>aV (gQ Z_28 (Ht rfl) (Ht rfl) rfl (i:=2) rfl (aK rfl) rfl rfl (eX (cK (ts (ro rfl (eZ gB (Ht rfl) rfl) (ro rfl (eY A_4 Z_4 (Ht rfl) (i:=2) rfl rfl) (eX (dQ (Ht rfl) (fun hb=>?_) (fun hb=>?_))))))))))))
 ·have hn : x + -y < 0 := by simpa using hb
  refine ts (ro rfl (cQ cV) (eX (fW rfl (fX (eU rfl) ?_))))
  exact (aR (Kf hn))
 ·have hn : ¬ x + -y < 0 := by simpa using hb
  refine cU (ts (ro rfl (eZ bR (Ht rfl) rfl) (ro rfl (eY A_26 Z_26 (Ht rfl) (i:=2) rfl rfl) (ro rfl (dG U_26 (Ht rfl) aA) (ro rfl (Lx (Ht rfl) (cJ 1)) (ra rfl (eX (fW rfl (fX (eU rfl) ?_)))))))))
  exact (aR (Ke hn))
end
section
open Go Go.RowKit
theorem Ew {n : Nat} {E : bC} {H : Hp} {d : Option Tmp} {t : TypeId} {pos : String} {af : Array Edge} {g : Option (Nat × Bool)} {x0 : Operand} {T0 T1 : Ty} (h0 : aI E x0 (eT [T0, T1])) :
  aB Try.prog n E H ⟨d,.build 30 #[(0,x0)],t,pos,af,g⟩ (eT [T0,T1,Is (.bool false),Is (.slice none 0 0),Is (.slice none 0 0)]) :=
 gE (parts := [(0, x0)]) fun a V w hs => by
  obtain ⟨v0,e0,c0⟩:=h0 n V a hs
  obtain ⟨c0_0,c0_1,rfl⟩:∃ c0_0 c0_1,v0 = [c0_0,c0_1]:=Bm (by simpa using c0.length)
  refine ⟨.agg #[c0_0,c0_1,(.bool false),(.slice none 0 0),(.slice none 0 0)],?_,[c0_0,c0_1,(.bool false),(.slice none 0 0),(.slice none 0 0)],rfl,aW (c0.at (i:=0) rfl rfl) (aW (c0.at (i:=1) rfl rfl) (aW (⟨rfl,trivial⟩) (aW (⟨rfl,trivial⟩) (aW (⟨rfl,trivial⟩) (aG)))))⟩
  simp [e0,Instr.build,Instr.fill,Sem.run_bind,Result.andThen,eS,O_30,U_30,Z_26,Z_28]
theorem lM {n : Nat} {E : bC} {H : Hp} {d : Option Tmp} {t : TypeId} {pos : String} {af : Array Edge} {g : Option (Nat × Bool)} {x0 x1 x2 : Operand} {T0 T1 T2 T3 T4 : Ty} (h0 : aI E x0 (eT [T0, T1])) (h1 : aI E x1 (eT [T2, T3])) [s2 : cB T4 1 false] (h2 : aI E x2 T4) :
  aB Try.prog n E H ⟨d,.build 30 #[(0,x0),(1,x1),(2,x2)],t,pos,af,g⟩ (eT [T0,T1,T2,T3,T4]) :=
 gE (parts := [(0, x0), (1, x1), (2, x2)]) fun a V w hs => by
  obtain ⟨v0,e0,c0⟩:=h0 n V a hs
  obtain ⟨c0_0,c0_1,rfl⟩:∃ c0_0 c0_1,v0 = [c0_0,c0_1]:=Bm (by simpa using c0.length)
  obtain ⟨v1,e1,c1⟩:=h1 n V a hs
  obtain ⟨c1_0,c1_1,rfl⟩:∃ c1_0 c1_1,v1 = [c1_0,c1_1]:=Bm (by simpa using c1.length)
  have p2:=h2 n V a hs
  generalize e2:a.eval x2 = v2 at p2
  have q2:=(s2.ok v2 V p2).2.2 rfl
  refine ⟨.agg #[c0_0,c0_1,c1_0,c1_1,v2],?_,[c0_0,c0_1,c1_0,c1_1,v2],rfl,aW (c0.at (i:=0) rfl rfl) (aW (c0.at (i:=1) rfl rfl) (aW (c1.at (i:=0) rfl rfl) (aW (c1.at (i:=1) rfl rfl) (aW (⟨p2,q2⟩) (aG)))))⟩
  simp [e0,e1,e2,Instr.build,Instr.fill,Sem.run_bind,Result.andThen,eS,q2.cells,O_30,U_30,Z_26,Z_28]
theorem cT (a:Addr) (w:World):(Instr.fieldAt 30 (.pointer (some a)) 0).run Try.prog w = .ok (.pointer (some (a.add 0))) w:=by
 simp [Instr.fieldAt,Instr.sureAddr,fieldPlace,Sem.run_bind,Result.andThen,U_30,Z_28]
theorem dM (a:Addr) (w:World):(Instr.fieldAt 30 (.pointer (some a)) 1).run Try.prog w = .ok (.pointer (some (a.add 2))) w:=by
 simp [Instr.fieldAt,Instr.sureAddr,fieldPlace,Sem.run_bind,Result.andThen,U_30,Z_28]
theorem kM (a:Addr) (w:World):(Instr.fieldAt 30 (.pointer (some a)) 2).run Try.prog w = .ok (.pointer (some (a.add 4))) w:=by
 simp [Instr.fieldAt,Instr.sureAddr,fieldPlace,Sem.run_bind,Result.andThen,U_30,Z_26]
end
section
open Go Go.RowKit
theorem oP {A B:Int} {D:Nat} (hD:0 < D) (hA:(dg A.natAbs).length ≤ 17592186044415) (hB:(dg B.natAbs).length ≤ 17592186044415) (hD2:(dg D).length ≤ 17592186044415):aT Try.prog 26 [eP A,eP B,aL D] (aF (Qi.mk' A B D)):=by
 have hg1:=Gd hA hB
 have hg2:=Gd hg1 hD2
 have hgp:Nat.gcd (Nat.gcd A.natAbs B.natAbs) D ≠ 0:=fun e=>by have:=Nat.gcd_eq_zero_iff.1 e; omega
 refine aT.intro Try.func26 rfl Try.ntmps26 rfl (fun cx=>(ts (rn rfl (fG (Ht rfl)) fun B3=>(rn rfl (fG (Ht rfl)) fun B4=>(rn rfl (eW (Ts:=[Is (.bool false),Is (.slice none 0 0),Is (.bool false),Is (.slice none 0 0),Is (.slice none 0 0)]) O_30 rfl (fun V=>aW zd (aW zd (aW zd (aW zd (aW zd (aG))))))) fun B6=>(eX (ts (ro rfl (eZ bR (Ht rfl) rfl) (ro rfl (eY A_26 Z_26 (Ht rfl) (i:=0) rfl rfl) (ro rfl (eZ bR (Ht rfl) rfl) ?_))))))))))
 refine ro rfl (eY A_26 Z_26 (Ht rfl) (i:=1) rfl rfl) (ro rfl (cZ Try.call45 (Nd zo zo) ⟨(Ht rfl),(Ht rfl),trivial⟩) (rm rfl (ro rfl (cZ Try.call45 (Nd zo zo) ⟨(Ht rfl),(Ht rfl),trivial⟩) (ra rfl (eX (cK (iT (fun (uu:Unit)=>True) (fun (uu:Unit)=>[(2,aL (D / (Nat.gcd (Nat.gcd A.natAbs B.natAbs) D))),(3,eI B3 0),(4,eI B4 0),(6,eI B6 0)]) (fun (uu:Unit)=>[box B3 28 [aC (decide (A < 0)),aL (A.natAbs / (Nat.gcd (Nat.gcd A.natAbs B.natAbs) D))],box B4 28 [aC (decide (B < 0)),aL (B.natAbs / (Nat.gcd (Nat.gcd A.natAbs B.natAbs) D))],box B6 30 [Is (.bool false),Is (.slice none 0 0),Is (.bool false),Is (.slice none 0 0),Is (.slice none 0 0)]]) ?_ (fun uu _=>?_))))))))
 ·refine ts (rm rfl (ro rfl (cZ Try.call46 Nf ⟨(Ht rfl), trivial⟩) (ro rfl (dL (Ht rfl)) (eX (dQ (Ht rfl) (fun hb => ?_) (fun hb => ?_))))))
  ·simp at hb
   refine ts (ro rfl (eZ bR (Ht rfl) rfl) (ro rfl (eY A_26 Z_26 (Ht rfl) (i:=0) rfl rfl) (rm rfl (ro rfl (cZ Try.call47 (Au zo zo zo) ⟨(Ht rfl),(Ht rfl),trivial⟩) (rm rfl (ro rfl (dK (Ht rfl) rfl) (ro rfl (dK (Ht rfl) rfl) (ro rfl (eZ bR (Ht rfl) rfl) (mC Z_26 (Ht rfl) (Ht rfl) (i:=0) rfl (aK rfl) rfl (eX (ts (ro rfl (eZ bR (Ht rfl) rfl) (ro rfl (eY A_26 Z_26 (Ht rfl) (i:=1) rfl rfl) (rm rfl (ro rfl (cZ Try.call47 (Au zo zo zo) ⟨(Ht rfl),(Ht rfl),trivial⟩) ?_)))))))))))))))
   refine rm rfl (ro rfl (dK (Ht rfl) rfl) (ro rfl (dK (Ht rfl) rfl) (ro rfl (eZ bR (Ht rfl) rfl) (mC Z_26 (Ht rfl) (Ht rfl) (i:=1) rfl (aK rfl) rfl (eX (cY (rm rfl (rm rfl (ro rfl (cZ Try.call47 (Au zo zo zo) ⟨(Ht rfl),(Ht rfl),trivial⟩) (rm rfl (ro rfl (dK (Ht rfl) rfl) (ro rfl (dK (Ht rfl) rfl) (ra rfl (eX (aP () trivial (zS rfl) (aU (bD (by first | rfl | simp)) (aU (bD (by first | rfl | simp)) (aU (bD rfl) aY))))))))))))))))))
  ·simp at hb
   refine cU (aP () trivial (aZ rfl (dI (by rw [hb,Nat.div_one])) (zS rfl)) (aU (bD (by rw [hb,Nat.div_one])) (aU (bD (by rw [hb,Nat.div_one])) (aU (bD rfl) aY))))
 ·refine cK (iT (fun (uu : Unit) => True) (fun (uu : Unit) => [(2, aL (if D / (Nat.gcd (Nat.gcd A.natAbs B.natAbs) D) = 1 then 0 else D / (Nat.gcd (Nat.gcd A.natAbs B.natAbs) D))), (3, eI B3 0), (4, eI B4 0), (6, eI B6 0)]) (fun (uu : Unit) => [box B3 28 [aC (decide (A < 0)), aL (A.natAbs / (Nat.gcd (Nat.gcd A.natAbs B.natAbs) D))], box B4 28 [aC (decide (B < 0)), aL (B.natAbs / (Nat.gcd (Nat.gcd A.natAbs B.natAbs) D))], box B6 30 [Is (.bool false), Is (.slice none 0 0), Is (.bool false), Is (.slice none 0 0), Is (.slice none 0 0)]]) ?_ (fun uu _ => ?_))
  ·refine ts (rm rfl (ro rfl (cZ Try.call46 Nf ⟨(Ht rfl), trivial⟩) (eX (dQ (Ht rfl) (fun hb => ?_) (fun hb => ?_)))))
   ·simp only [decide_eq_true_eq] at hb
    refine cY (ro rfl (cQ cV) (eX (aP () trivial (aZ rfl (fun v V h=>dI (by rw [if_pos hb]) v V (jE v V h)) (zS rfl)) (dE.refl _))))
   ·simp only [decide_eq_false_iff_not] at hb
    refine cU (aP () trivial (aZ rfl (dI (by rw [if_neg hb])) (zS rfl)) (dE.refl _))
  ·refine ts (ro rfl (eJ A_28 Z_28 (Ht rfl) (i := 0) rfl rfl rfl) (ro rfl (eJ A_28 Z_28 (Ht rfl) (i := 1) rfl rfl rfl) (rm rfl (ro rfl (lM (Ht rfl) (Ht rfl) (Ht rfl)) (gQ Z_30 (Ht rfl) (Ht rfl) rfl (i := 2) rfl (aK rfl) rfl rfl (eX (fW rfl (fX (fK A_30 Z_30 rfl (i := 2) rfl rfl) ?_))))))))
   exact (Md hD)
theorem kK {x:Qi}:aT Try.prog 29 [aF x] (aL x.den):=by
 refine aT.intro Try.func29 rfl Try.ntmps29 rfl (fun cx=>(ts (rn rfl (fG (Ht rfl)) fun B1=>(ro rfl (cQ cV) (eX (cK (ts (ro rfl (eZ kM (Ht rfl) rfl) (ro rfl (eY A_26 Z_26 (Ht rfl) (i:=0) rfl rfl) (ro rfl (dG U_26 (Ht rfl) aA) (ro rfl (fE (Ht rfl) (cJ 0)) (eX (dQ (Ht rfl) (fun hb=>?_) (fun hb=>?_))))))))))))))
 ·simp at hb
  have h1:x.den = 1:=rP (aM.1 (by simpa using hb))
  refine ts (ro rfl (dB (xs:=[_]) U_26 Z_55 O_55 (cW (cJ 1) cG) rfl rfl rfl) (ra rfl (eX (fW rfl (fX (eU rfl) ?_)))))
  exact (fun v V h=>dI h1.symm v V (sV v V h))
 ·simp at hb
  have h1:du x = x.den:=pM (fun e=>hb (by simp [e,cM]))
  refine cU (ts (ro rfl (eZ kM (Ht rfl) rfl) (ro rfl (eY A_26 Z_26 (Ht rfl) (i:=0) rfl rfl) (ra rfl (eX (fW rfl (fX (eU rfl) ?_)))))))
  exact (dI h1)
theorem jJ {n:Int} (h1:-9223372036854775808 ≤ n) (h2:n ≤ 9223372036854775807):aT Try.prog 5 [aE .i64 n] (aF (Qi.ofInt n)):=by
 refine aT.intro Try.func5 rfl Try.ntmps5 rfl (fun cx=>(ts (rn rfl (eW (Ts:=[Is (.bool false),Is (.slice none 0 0),Is (.bool false),Is (.slice none 0 0),Is (.slice none 0 0)]) O_30 rfl (fun V=>aW zd (aW zd (aW zd (aW zd (aW zd (aG))))))) fun B2=>(eX (ts (rm rfl (ro rfl (cZ Try.call18 (vE h1 h2) ⟨(Ht rfl),trivial⟩) (ro rfl (Ew (Ht rfl)) (gQ Z_30 (Ht rfl) (Ht rfl) rfl (i:=0) rfl (aK rfl) rfl rfl ?_)))))))))
 refine eX (fW rfl (fX (fK A_30 Z_30 rfl (i:=0) rfl rfl) ?_))
 exact Bq
theorem Rw {p q d:Int} (p1:-9223372036854775808 ≤ p) (p2:p ≤ 9223372036854775807) (q1:-9223372036854775808 ≤ q) (q2:q ≤ 9223372036854775807) (d1:-9223372036854775808 ≤ d) (d2:d ≤ 9223372036854775807) (hd:d ≠ 0):aT Try.prog 21 [aE .i64 p,aE .i64 q,aE .i64 d] (eM [aF (Qi.frac p q d),aE .i64 0]):=by
 have lp:=Pd p1 p2; have lq:=Pd q1 q2; have ld:=Pd d1 d2; have np:=sK p; have nq:=sK q
 refine aT.intro Try.func21 rfl Try.ntmps21 rfl (fun cx=>(ts (rn rfl (eW (Ts:=[Is (.bool false),Is (.slice none 0 0),Is (.bool false),Is (.slice none 0 0),Is (.slice none 0 0)]) O_30 rfl (fun V=>aW zd (aW zd (aW zd (aW zd (aW zd (aG))))))) fun B6=>(ro rfl (cQ (cJ 0)) (eX (cK (ts (rm rfl (ro rfl (iV (Ht rfl) cV) (eX (uW (Ht rfl) (by simp [hd]) ?_)))))))))))
 refine cU (ts (rm rfl (ro rfl (cZ Try.call18 (vE p1 p2) ⟨(Ht rfl),trivial⟩) (rm rfl (ro rfl (cZ Try.call18 (vE q1 q2) ⟨(Ht rfl),trivial⟩) (rm rfl (ro rfl (cZ Try.call18 (vE d1 d2) ⟨(Ht rfl),trivial⟩) (rn rfl (eW (Ts:=[Is (.bool false),Is (.slice none 0 0)]) O_28 rfl (fun V=>aW zd (aW zd (aG)))) fun B8=>(rn rfl (eW (Ts:=[Is (.bool false),Is (.slice none 0 0)]) O_28 rfl (fun V=>aW zd (aW zd (aG)))) fun B9=>?_)))))))))
 refine rn rfl (eW (Ts:=[Is (.bool false),Is (.slice none 0 0)]) O_28 rfl (fun V=>aW zd (aW zd (aG)))) fun B10=>gQ Z_28 (Ht rfl) (Ht rfl) rfl (i:=1) rfl (aK rfl) rfl rfl (gQ Z_28 (Ht rfl) (Ht rfl) rfl (i:=2) rfl (aK rfl) rfl rfl (gQ Z_28 (Ht rfl) (Ht rfl) rfl (i:=3) rfl (aK rfl) rfl rfl (eX (cK (pH (fun (a:Int) (b:Int)=>Qi.mk' a b d.natAbs = Qi.frac p q d ∧ (dg a.natAbs).length ≤ 2 ∧ (dg b.natAbs).length ≤ 2) (fun (a:Int) (b:Int)=>[(6,eI B6 0),(8,eI B8 0),(9,eI B9 0),(10,eI B10 0)]) (fun (a:Int) (b:Int)=>[box B6 30 [Is (.bool false),Is (.slice none 0 0),Is (.bool false),Is (.slice none 0 0),Is (.slice none 0 0)],box B8 28 [aC (decide (a < 0)),aL (a).natAbs],box B9 28 [aC (decide (b < 0)),aL (b).natAbs],box B10 28 [aC (decide (d < 0)),aL (d).natAbs]]) ?_ (fun a b ⟨hab,ha,hb⟩=>?_))))))
 ·refine ts (ro rfl (eZ gB (Ht rfl) rfl) (ro rfl (eY A_4 Z_4 (Ht rfl) (i := 3) rfl rfl) (eX (dQ (Ht rfl) (fun hn => ?_) (fun hn => ?_)))))
  ·simp only [decide_eq_true_eq] at hn
   refine fZ (m:=3) (dp 8 rfl (eJ A_28 Z_28 (Ht rfl) (i:=1) rfl rfl rfl) (dq 22 0 rfl (cZ K_27 kL ⟨(Ht rfl),trivial⟩) (dp 9 rfl (eJ A_28 Z_28 (Ht rfl) (i:=2) rfl rfl rfl) (fV bA rfl (by kernel_rfl) (aJ (aJ (aJ (aV (ro rfl (cZ K_27 kL ⟨(Ht rfl),trivial⟩) (gQ Z_28 (Ht rfl) (Ht rfl) rfl (i:=1) rfl (aK rfl) rfl rfl (gQ Z_28 (Ht rfl) (Ht rfl) rfl (i:=2) rfl (aK rfl) rfl rfl (eX (aP (-p,-q) ⟨Qi.frac_neg hn,by dsimp only; omega,by dsimp only; omega⟩ (zS rfl) (aU (bD rfl) (aU (bD rfl) (aU (bD rfl) (aU (bD rfl) aY)))))))))))))))))
  ·simp only [decide_eq_false_iff_not] at hn
   refine cU (aP (p,q) ⟨Qi.frac_pos hn hd,by omega,by omega⟩ (zS rfl) (dE.refl _))
 ·refine ts (ro rfl (eJ A_28 Z_28 (Ht rfl) (i := 1) rfl rfl rfl) (ro rfl (eJ A_28 Z_28 (Ht rfl) (i := 2) rfl rfl rfl) (ro rfl (eZ bR (Ht rfl) rfl) (ro rfl (eY A_26 Z_26 (Ht rfl) (i := 3) rfl rfl) (ro rfl (cZ K_26 (oP zo zo zo zo) ⟨(Ht rfl), (Ht rfl), (Ht rfl), trivial⟩) (gQ Z_30 (Ht rfl) (Ht rfl) rfl (i := 0) rfl (aK rfl) rfl rfl (ro rfl (cQ (cJ 0)) (eX (bE rfl (fX (fK A_30 Z_30 rfl (i := 0) rfl rfl) ?_) (eU rfl))))))))))
  exact (dP hab)
theorem Ar {x y:Qi} {L M:Nat} [hx:aH x L] [hy:aH y M] (h:L + M + 1 ≤ 17592186044415):aT Try.prog 12 [aF x,aF y] (aF (x + y)):=by
 have hxa:=jV hx.fit; have hxb:=jW hx.fit; have hxd:=jX hx.fit
 have hya:=jV hy.fit; have hyb:=jW hy.fit; have hyd:=jX hy.fit
 have hxp:=x.den_pos; have hyp:=y.den_pos; have hdp:=Nat.mul_pos hxp hyp
 have e1:=dH x.a y.den; have e2:=dH y.a x.den; have e3:=dH x.b y.den; have e4:=dH y.b x.den; have e5:=sJ x.den y.den
 have e6:=jQ (x:=x.a * y.den) (y:=y.a * x.den) (L:=L + M) zo zo; have e7:=jQ (x:=x.b * y.den) (y:=y.b * x.den) (L:=L + M) zo zo
 refine aT.intro Try.func12 rfl Try.ntmps12 rfl (fun cx=>(ts (rn rfl (fG (Ht rfl)) fun B2=>(rn rfl (fG (Ht rfl)) fun B3=>(rn rfl (eW (Ts:=[Is (.bool false),Is (.slice none 0 0),Is (.bool false),Is (.slice none 0 0),Is (.slice none 0 0)]) O_30 rfl (fun V=>aW zd (aW zd (aW zd (aW zd (aW zd (aG))))))) fun B4=>(eX (cK (fZ (m:=3) (dp 2 rfl (eJ A_30 Z_30 (Ht rfl) (i:=0) rfl rfl rfl) (dq 7 0 rfl (cZ K_29 kK ⟨(Ht rfl),trivial⟩) ?_))))))))))
 refine dp 3 rfl (eJ A_30 Z_30 (Ht rfl) (i:=1) rfl rfl rfl) (fV bA rfl (by kernel_rfl) (aJ (aJ (aJ (aV (ro rfl (cZ K_29 kK ⟨(Ht rfl),trivial⟩) (ra rfl (ra rfl (eX (cK (fZ (m:=20) (dp 2 rfl (eZ cT (Ht rfl) rfl) (dq 11 0 rfl (eJ A_28 Z_28 (Ht rfl) (i:=0) rfl rfl rfl) (dp 6 rfl (cX (Ht rfl)) (fF 12 1 13 2 rfl (cZ K_28 (iG zo zo) ⟨(Ht rfl),(Ht rfl),trivial⟩) (dp 3 rfl (eZ cT (Ht rfl) rfl) (dq 15 4 rfl (eJ A_28 Z_28 (Ht rfl) (i:=1) rfl rfl rfl) ?_)))))))))))))))))
 refine dp 5 rfl (cX (Ht rfl)) (fF 16 5 17 6 rfl (cZ K_28 (iG zo zo) ⟨(Ht rfl),(Ht rfl),trivial⟩) (fF 14 3 18 7 rfl (cZ K_25 (qI zo zo) ⟨(Ht rfl),(Ht rfl),trivial⟩) (dp 2 rfl (eZ dM (Ht rfl) rfl) (dq 20 9 rfl (eJ A_28 Z_28 (Ht rfl) (i:=0) rfl rfl rfl) (dp 6 rfl (cX (Ht rfl)) (fF 21 10 22 11 rfl (cZ K_28 (iG zo zo) ⟨(Ht rfl),(Ht rfl),trivial⟩) (dp 3 rfl (eZ dM (Ht rfl) rfl) (dq 24 13 rfl (eJ A_28 Z_28 (Ht rfl) (i:=1) rfl rfl rfl) ?_))))))))
 refine dp 5 rfl (cX (Ht rfl)) (fF 25 14 26 15 rfl (cZ K_28 (iG zo zo) ⟨(Ht rfl),(Ht rfl),trivial⟩) (fF 23 12 27 16 rfl (cZ K_25 (qI zo zo) ⟨(Ht rfl),(Ht rfl),trivial⟩) (dp 5 rfl (cX (Ht rfl)) (dp 6 rfl (cX (Ht rfl)) (fV bA rfl (by kernel_rfl) (zF (zF (zF (zF (zF (aV (ro rfl (cZ Try.call30 (wR zo zo) ⟨(Ht rfl),(Ht rfl),trivial⟩) ?_))))))))))))
 refine ro rfl (cZ K_26 (oP (by first | assumption | omega) zo zo zo) ⟨(Ht rfl),(Ht rfl),(Ht rfl),trivial⟩) (gQ Z_30 (Ht rfl) (Ht rfl) rfl (i:=2) rfl (aK rfl) rfl rfl (eX (fW rfl (fX (fK A_30 Z_30 rfl (i:=2) rfl rfl) ?_))))
 exact (dP (Qi.mk_add x y))
theorem Rv {x:Qi}:aT Try.prog 22 [aF x] (aF (-x)):=by
 refine aT.intro Try.func22 rfl Try.ntmps22 rfl (fun cx=>(ts (rn rfl (fG (Ht rfl)) fun B1=>(rn rfl (eW (Ts:=[Is (.bool false),Is (.slice none 0 0),Is (.bool false),Is (.slice none 0 0),Is (.slice none 0 0)]) O_30 rfl (fun V=>aW zd (aW zd (aW zd (aW zd (aW zd (aG))))))) fun B2=>(eX (cK (fZ (m:=8) (dp 1 rfl (eZ cT (Ht rfl) rfl) (dq 3 0 rfl (eJ A_28 Z_28 (Ht rfl) (i:=0) rfl rfl rfl) (dq 4 1 rfl (cZ K_27 kL ⟨(Ht rfl),trivial⟩) ?_))))))))))
 refine dp 1 rfl (eZ dM (Ht rfl) rfl) (dq 6 3 rfl (eJ A_28 Z_28 (Ht rfl) (i:=0) rfl rfl rfl) (dq 7 4 rfl (cZ K_27 kL ⟨(Ht rfl),trivial⟩) (dp 1 rfl (eZ kM (Ht rfl) rfl) (dq 9 6 rfl (eY A_26 Z_26 (Ht rfl) (i:=0) rfl rfl) (fV bA rfl (by kernel_rfl) (zF (zF (aV (ro rfl (lM (Ht rfl) (Ht rfl) (Ht rfl)) (gQ Z_30 (Ht rfl) (Ht rfl) rfl (i:=1) rfl (aK rfl) rfl rfl (eX (fW rfl (fX (fK A_30 Z_30 rfl (i:=1) rfl rfl) ?_)))))))))))))
 exact (qG (by obtain ⟨e1,e2,e3⟩:=Qi.neg_a x; rw [e1,e2,Nk e3]; rfl))
theorem yQ {x:Qi}:aT Try.prog 113 [aF x] (aF x.conj):=by
 refine aT.intro Try.func113 rfl Try.ntmps113 rfl (fun cx=>(ts (rn rfl (fG (Ht rfl)) fun B1=>(rn rfl (eW (Ts:=[Is (.bool false),Is (.slice none 0 0),Is (.bool false),Is (.slice none 0 0),Is (.slice none 0 0)]) O_30 rfl (fun V=>aW zd (aW zd (aW zd (aW zd (aW zd (aG))))))) fun B2=>(eX (cK (fZ (m:=7) (dp 1 rfl (eZ cT (Ht rfl) rfl) (dq 3 0 rfl (eJ A_28 Z_28 (Ht rfl) (i:=0) rfl rfl rfl) (dp 1 rfl (eZ dM (Ht rfl) rfl) ?_))))))))))
 refine dq 5 2 rfl (eJ A_28 Z_28 (Ht rfl) (i:=0) rfl rfl rfl) (dq 6 3 rfl (cZ K_27 kL ⟨(Ht rfl),trivial⟩) (dp 1 rfl (eZ kM (Ht rfl) rfl) (dq 8 5 rfl (eY A_26 Z_26 (Ht rfl) (i:=0) rfl rfl) (fV bA rfl (by kernel_rfl) (zF (aJ (aJ (aJ (aV (ro rfl (lM (Ht rfl) (Ht rfl) (Ht rfl)) (gQ Z_30 (Ht rfl) (Ht rfl) rfl (i:=1) rfl (aK rfl) rfl rfl (eX (fW rfl (fX (fK A_30 Z_30 rfl (i:=1) rfl rfl) ?_))))))))))))))
 exact (qG (by obtain ⟨e1,e2,e3⟩:=Qi.conj_a x; rw [e1,e2,Nk e3]; rfl))
theorem qW {x y:Qi} {L M:Nat} [hx:aH x L] [hy:aH y M] (h:L + M + 1 ≤ 17592186044415):aT Try.prog 8 [aF x,aF y] (aF (x - y)):=by
 have hxa:=jV hx.fit; have hxb:=jW hx.fit; have hxd:=jX hx.fit
 have hya:=jV hy.fit; have hyb:=jW hy.fit; have hyd:=jX hy.fit
 have hxp:=x.den_pos; have hyp:=y.den_pos; have hdp:=Nat.mul_pos hxp hyp
 refine aT.intro Try.func8 rfl Try.ntmps8 rfl (fun cx=>(ts (rn rfl (fG (Ht rfl)) fun B2=>(rn rfl (fG (Ht rfl)) fun B3=>(rn rfl (eW (Ts:=[Is (.bool false),Is (.slice none 0 0),Is (.bool false),Is (.slice none 0 0),Is (.slice none 0 0)]) O_30 rfl (fun V=>aW zd (aW zd (aW zd (aW zd (aW zd (aG))))))) fun B4=>(eX (cK (fZ (m:=3) (dp 2 rfl (eJ A_30 Z_30 (Ht rfl) (i:=0) rfl rfl rfl) (dp 3 rfl (eJ A_30 Z_30 (Ht rfl) (i:=1) rfl rfl rfl) ?_))))))))))
 refine dq 6 1 rfl (cZ Try.call22 Rv ⟨(Ht rfl),trivial⟩) (fV bA rfl (by kernel_rfl) (aJ (aJ (aJ (aV (ro rfl (cZ Try.call12 (Ar zo) ⟨(Ht rfl),(Ht rfl),trivial⟩) (gQ Z_30 (Ht rfl) (Ht rfl) rfl (i:=2) rfl (aK rfl) rfl rfl (eX (fW rfl (fX (fK A_30 Z_30 rfl (i:=2) rfl rfl) ?_))))))))))
 exact (dP (Qi.sub_def x y).symm)
theorem mA {x y:Qi} {L M:Nat} [hx:aH x L] [hy:aH y M] (h:L + M + 1 ≤ 17592186044415):aT Try.prog 17 [aF x,aF y] (aF (x * y)):=by
 have hxa:=jV hx.fit; have hxb:=jW hx.fit; have hxd:=jX hx.fit
 have hya:=jV hy.fit; have hyb:=jW hy.fit; have hyd:=jX hy.fit
 have hxp:=x.den_pos; have hyp:=y.den_pos; have hdp:=Nat.mul_pos hxp hyp
 have e1:=jR x.a y.a; have e2:=jR x.b y.b; have e3:=jR x.a y.b; have e4:=jR x.b y.a; have e5:=sJ x.den y.den; have e8:=sK (x.b * y.b)
 have e6:=jQ (x:=x.a * y.a) (y:=-(x.b * y.b)) (L:=L + M) zo zo; have e7:=jQ (x:=x.a * y.b) (y:=x.b * y.a) (L:=L + M) zo zo
 refine aT.intro Try.func17 rfl Try.ntmps17 rfl (fun cx=>(ts (rn rfl (fG (Ht rfl)) fun B2=>(rn rfl (fG (Ht rfl)) fun B3=>(rn rfl (eW (Ts:=[Is (.bool false),Is (.slice none 0 0),Is (.bool false),Is (.slice none 0 0),Is (.slice none 0 0)]) O_30 rfl (fun V=>aW zd (aW zd (aW zd (aW zd (aW zd (aG))))))) fun B4=>(eX (cK (fZ (m:=13) (dp 2 rfl (eZ cT (Ht rfl) rfl) (dq 7 0 rfl (eJ A_28 Z_28 (Ht rfl) (i:=0) rfl rfl rfl) ?_))))))))))
 refine dp 3 rfl (eZ cT (Ht rfl) rfl) (dq 9 2 rfl (eJ A_28 Z_28 (Ht rfl) (i:=1) rfl rfl rfl) (fF 8 1 10 3 rfl (cZ K_24 (nT zo zo) ⟨(Ht rfl),(Ht rfl),trivial⟩) (dp 2 rfl (eZ dM (Ht rfl) rfl) (dq 12 5 rfl (eJ A_28 Z_28 (Ht rfl) (i:=0) rfl rfl rfl) (dp 3 rfl (eZ dM (Ht rfl) rfl) (dq 14 7 rfl (eJ A_28 Z_28 (Ht rfl) (i:=1) rfl rfl rfl) (fF 13 6 15 8 rfl (cZ K_24 (nT zo zo) ⟨(Ht rfl),(Ht rfl),trivial⟩) (dq 16 9 rfl (cZ K_27 kL ⟨(Ht rfl),trivial⟩) ?_))))))))
 refine fF 11 4 17 10 rfl (cZ K_25 (qI zo zo) ⟨(Ht rfl),(Ht rfl),trivial⟩) (C.D_new (Ei:=[]) rfl rfl rfl bW (eW (Ts:=[Is (.bool false),Is (.slice none 0 0)]) O_28 rfl (fun V=>aW zd (aW zd (aG)))) (fV bA rfl (by kernel_rfl) (zF (zF (zF (C.F_new (fun B5=>aV (gQ Z_28 (Ht rfl) (Ht rfl) rfl (i:=3) rfl (aK rfl) rfl rfl (eX ?_)))))))))
 refine cK (fZ (m:=12) (dp 2 rfl (eZ cT (Ht rfl) rfl) (dq 19 0 rfl (eJ A_28 Z_28 (Ht rfl) (i:=0) rfl rfl rfl) (dp 3 rfl (eZ dM (Ht rfl) rfl) (dq 21 2 rfl (eJ A_28 Z_28 (Ht rfl) (i:=1) rfl rfl rfl) (fF 20 1 22 3 rfl (cZ K_24 (nT zo zo) ⟨(Ht rfl),(Ht rfl),trivial⟩) (dp 2 rfl (eZ dM (Ht rfl) rfl) (dq 24 5 rfl (eJ A_28 Z_28 (Ht rfl) (i:=0) rfl rfl rfl) (dp 3 rfl (eZ cT (Ht rfl) rfl) (dq 26 7 rfl (eJ A_28 Z_28 (Ht rfl) (i:=1) rfl rfl rfl) ?_))))))))))
 refine fF 25 6 27 8 rfl (cZ K_24 (nT zo zo) ⟨(Ht rfl),(Ht rfl),trivial⟩) (fF 23 4 28 9 rfl (cZ K_25 (qI zo zo) ⟨(Ht rfl),(Ht rfl),trivial⟩) (C.D_new (Ei:=[]) rfl rfl rfl bW (eW (Ts:=[Is (.bool false),Is (.slice none 0 0)]) O_28 rfl (fun V=>aW zd (aW zd (aG)))) (fV bA rfl (by kernel_rfl) (zF (zF (aJ (aJ (aJ (C.F_new (fun B6=>aV (gQ Z_28 (Ht rfl) (Ht rfl) rfl (i:=4) rfl (aK rfl) rfl rfl ?_)))))))))))
 refine eX (cK (fZ (m:=7) (dp 5 rfl (eJ A_28 Z_28 (Ht rfl) (i:=3) rfl rfl rfl) (dp 6 rfl (eJ A_28 Z_28 (Ht rfl) (i:=4) rfl rfl rfl) (dp 2 rfl (eJ A_30 Z_30 (Ht rfl) (i:=0) rfl rfl rfl) (dq 32 2 rfl (cZ K_29 kK ⟨(Ht rfl),trivial⟩) (dp 3 rfl (eJ A_30 Z_30 (Ht rfl) (i:=1) rfl rfl rfl) (dq 34 4 rfl (cZ K_29 kK ⟨(Ht rfl),trivial⟩) (fF 33 3 35 5 rfl (cZ Try.call30 (wR zo zo) ⟨(Ht rfl),(Ht rfl),trivial⟩) (fV bA rfl (by kernel_rfl) (zF (aJ (aJ (aJ (aV ?_)))))))))))))))
 refine ro rfl (cZ K_26 (oP (by first | assumption | omega) zo zo zo) ⟨(Ht rfl),(Ht rfl),(Ht rfl),trivial⟩) (gQ Z_30 (Ht rfl) (Ht rfl) rfl (i:=2) rfl (aK rfl) rfl rfl (eX (fW rfl (fX (fK A_30 Z_30 rfl (i:=2) rfl rfl) ?_))))
 exact (dP (Qi.mk_mul x y))
theorem Jo {x:Qi} {L:Nat} [hx:aH x L] (h:L ≤ 17592186044415):aT Try.prog 23 [aF x] (aC (!decide (x = Qi.zero))):=by
 have hxa:=jV hx.fit; have hxb:=jW hx.fit; have hxd:=jX hx.fit
 refine aT.intro Try.func23 rfl Try.ntmps23 rfl (fun cx=>(ts (rn rfl (fG (Ht rfl)) fun B1=>(ro rfl (cQ cV) (eX (ts (ro rfl (eZ cT (Ht rfl) rfl) (ro rfl (eZ bR (Ht rfl) rfl) (ro rfl (eY A_26 Z_26 (Ht rfl) (i:=0) rfl rfl) (ro rfl (dG U_26 (Ht rfl) aA) (ro rfl (eZ dM (Ht rfl) rfl) (ro rfl (eZ bR (Ht rfl) rfl) (ro rfl (eY A_26 Z_26 (Ht rfl) (i:=0) rfl rfl) (ro rfl (dG U_26 (Ht rfl) aA) (ro rfl (dV (Ht rfl) (Ht rfl) z6) ?_)))))))))))))))
 refine ro rfl (gC (Ht rfl) (cJ 0)) (ra rfl (eX (fW rfl (fX (eU rfl) ?_))))
 exact (fL (Fo x))
theorem oO {x:Qi}:aT Try.prog 38 [aF x] (aC (decide (x.b = 0))):=by
 refine aT.intro Try.func38 rfl Try.ntmps38 rfl (fun cx=>(ts (rn rfl (fG (Ht rfl)) fun B1=>(ro rfl (cQ cV) (eX (ts (ro rfl (eZ dM (Ht rfl) rfl) (ro rfl (eZ bR (Ht rfl) rfl) (ro rfl (eY A_26 Z_26 (Ht rfl) (i:=0) rfl rfl) (ro rfl (dG U_26 (Ht rfl) aA) (ro rfl (fE (Ht rfl) (cJ 0)) (ra rfl (eX (fW rfl (fX (eU rfl) ?_)))))))))))))))
 exact (fL (Mh x))
theorem Fb {x y:Qi} {L M:Nat} [hx:aH x L] [hy:aH y M] (h:L ≤ 17592186044415) (h2:M ≤ 17592186044415):aT Try.prog 6 [aF x,aF y] (aC (decide (x = y))):=by
 have hxa:=jV hx.fit; have hxb:=jW hx.fit; have hxd:=jX hx.fit
 have hya:=jV hy.fit; have hyb:=jW hy.fit; have hyd:=jX hy.fit
 have hxu:=Gc x; have hyu:=Gc y
 refine aT.intro Try.func6 rfl Try.ntmps6 rfl (fun cx=>(ts (rn rfl (fG (Ht rfl)) fun B2=>(rn rfl (fG (Ht rfl)) fun B3=>(ro rfl (cQ cV) (eX (ts (ro rfl (eZ cT (Ht rfl) rfl) (ro rfl (eJ A_28 Z_28 (Ht rfl) (i:=0) rfl rfl rfl) (ro rfl (eZ cT (Ht rfl) rfl) (ro rfl (eJ A_28 Z_28 (Ht rfl) (i:=1) rfl rfl rfl) (ro rfl (cZ Try.call19 (vI zo zo) ⟨(Ht rfl),(Ht rfl),trivial⟩) (ro rfl (iV (Ht rfl) cV) (rm rfl (fQ rfl rfl (eK rfl rfl (Ht rfl) (fun h=>eZ dM (Ht rfl) rfl)) ?_)))))))))))))))
 refine fQ rfl rfl (eK rfl rfl (Ht rfl) (fun h=>eJ A_28 Z_28 (fJ rfl h) (i:=0) rfl rfl rfl)) (fQ rfl rfl (eK rfl rfl (Ht rfl) (fun h=>eZ dM (Ht rfl) rfl)) (fQ rfl rfl (eK rfl rfl (Ht rfl) (fun h=>eJ A_28 Z_28 (fJ rfl h) (i:=1) rfl rfl rfl)) (fQ rfl rfl (eK rfl rfl (Ht rfl) (fun h=>cZ Try.call19 (vI zo zo) ⟨(fJ rfl h),(fJ rfl h),trivial⟩)) (fQ rfl rfl (eK rfl rfl (Ht rfl) (fun h=>iV (fJ rfl h) cV)) (ro rfl (eO (Ht rfl) (fun h=>(fJ rfl h))) ?_)))))
 refine rm rfl (fQ rfl rfl (eK rfl rfl (Ht rfl) (fun h=>eZ kM (Ht rfl) rfl)) (fQ rfl rfl (eK rfl rfl (Ht rfl) (fun h=>eY A_26 Z_26 (fJ rfl h) (i:=0) rfl rfl)) (fQ rfl rfl (eK rfl rfl (Ht rfl) (fun h=>eZ kM (Ht rfl) rfl)) (fQ rfl rfl (eK rfl rfl (Ht rfl) (fun h=>eY A_26 Z_26 (fJ rfl h) (i:=1) rfl rfl)) (fQ rfl rfl (eK rfl rfl (Ht rfl) (fun h=>cZ Try.call20 (Fe zo zo) ⟨(fJ rfl h),(fJ rfl h),trivial⟩)) (fQ rfl rfl (eK rfl rfl (Ht rfl) (fun h=>iV (fJ rfl h) cV)) ?_))))))
 refine ro rfl (eO (Ht rfl) (fun h=>(fJ rfl h))) (ra rfl (eX (fW rfl (fX (eU rfl) ?_))))
 exact (fL (Mj x y))
theorem mG {x y:Qi} {L M:Nat} [hx:aH x L] [hy:aH y M] (h:L + M ≤ 17592186044415):aT Try.prog 15 [aF x,aF y] (aE .i64 (lO x y)):=by
 have hxa:=jV hx.fit; have hxb:=jW hx.fit; have hxd:=jX hx.fit
 have hya:=jV hy.fit; have hyb:=jW hy.fit; have hyd:=jX hy.fit
 have e1:=dH x.a y.den; have e2:=dH y.a x.den; have e3:=dH x.b y.den; have e4:=dH y.b x.den
 refine aT.intro Try.func15 rfl Try.ntmps15 rfl (fun cx=>(ts (rn rfl (fG (Ht rfl)) fun B2=>(rn rfl (fG (Ht rfl)) fun B3=>(ro rfl (cQ (cJ 0)) (eX (cK (cK (fZ (m:=9) (dp 2 rfl (eZ cT (Ht rfl) rfl) (dq 6 0 rfl (eJ A_28 Z_28 (Ht rfl) (i:=0) rfl rfl rfl) (dp 3 rfl (eJ A_30 Z_30 (Ht rfl) (i:=1) rfl rfl rfl) (dq 8 2 rfl (cZ K_29 kK ⟨(Ht rfl),trivial⟩) (fF 7 1 9 3 rfl (cZ K_28 (iG zo zo) ⟨(Ht rfl),(Ht rfl),trivial⟩) (dp 3 rfl (eZ cT (Ht rfl) rfl) ?_)))))))))))))))
 refine dq 11 5 rfl (eJ A_28 Z_28 (Ht rfl) (i:=1) rfl rfl rfl) (dp 2 rfl (eJ A_30 Z_30 (Ht rfl) (i:=0) rfl rfl rfl) (dq 13 7 rfl (cZ K_29 kK ⟨(Ht rfl),trivial⟩) (fV bA rfl (by kernel_rfl) (zF (zF (aJ (aV (ro rfl (cZ K_28 (iG zo zo) ⟨(Ht rfl),(Ht rfl),trivial⟩) (ro rfl (cZ Try.call19 (vI zo zo) ⟨(Ht rfl),(Ht rfl),trivial⟩) (ra rfl (eX (ts (rm rfl (ro rfl (oU (Ht rfl) cV) ?_))))))))))))))
 refine eX (dQ (Ht rfl) (fun hb=>?_) (fun hb=>?_))
 ·simp only [Bool.not_eq_true', decide_eq_false_iff_not] at hb
  refine ts (rm rfl (ra rfl (eX (fW rfl (fX (eU rfl) ?_)))))
  exact (aR (by rw [lO,if_pos hb]))
 ·simp only [Bool.not_eq_false', decide_eq_true_eq] at hb
  refine cU (cK (fZ (m:=9) (dp 2 rfl (eZ dM (Ht rfl) rfl) (dq 20 0 rfl (eJ A_28 Z_28 (Ht rfl) (i:=0) rfl rfl rfl) (dp 3 rfl (eJ A_30 Z_30 (Ht rfl) (i:=1) rfl rfl rfl) (dq 22 2 rfl (cZ K_29 kK ⟨(Ht rfl),trivial⟩) (fF 21 1 23 3 rfl (cZ K_28 (iG zo zo) ⟨(Ht rfl),(Ht rfl),trivial⟩) (dp 3 rfl (eZ dM (Ht rfl) rfl) (dq 25 5 rfl (eJ A_28 Z_28 (Ht rfl) (i:=1) rfl rfl rfl) (dp 2 rfl (eJ A_30 Z_30 (Ht rfl) (i:=0) rfl rfl rfl) ?_))))))))))
  refine dq 27 7 rfl (cZ K_29 kK ⟨(Ht rfl),trivial⟩) (fV bA rfl (by kernel_rfl) (zF (zF (aJ (aV (ro rfl (cZ K_28 (iG zo zo) ⟨(Ht rfl),(Ht rfl),trivial⟩) (ro rfl (cZ Try.call19 (vI zo zo) ⟨(Ht rfl),(Ht rfl),trivial⟩) (ra rfl (eX (fW rfl (fX (eU rfl) ?_)))))))))))
  exact (aR (by rw [lO,if_neg (by simpa using hb)]))
end
section
open Go Go.RowKit
theorem Jm {n : Nat} {E : bC} {H : Hp} {d : Option Tmp} {t : TypeId} {pos : String} {af : Array Edge} {g : Option (Nat × Bool)}  :
  aB Try.prog n E H ⟨d,.build 28 #[],t,pos,af,g⟩ (eT [Is (.bool false),Is (.slice none 0 0)]) :=
 gE (parts := []) fun a V w hs => by
  refine ⟨.agg #[(.bool false),(.slice none 0 0)],?_,[(.bool false),(.slice none 0 0)],rfl,aW (⟨rfl,trivial⟩) (aW (⟨rfl,trivial⟩) (aG))⟩
  simp [Instr.build,Instr.fill,Sem.run_bind,Result.andThen,eS,O_28,U_28,Z_4,Z_26]
theorem Kp (a:Addr) (w:World):(Instr.fieldAt 24 (.pointer (some a)) 0).run Try.prog w = .ok (.pointer (some (a.add 0))) w:=by
 simp [Instr.fieldAt,Instr.sureAddr,fieldPlace,Sem.run_bind,Result.andThen,U_24,Z_2]
theorem Kq (a:Addr) (w:World):(Instr.fieldAt 24 (.pointer (some a)) 1).run Try.prog w = .ok (.pointer (some (a.add 1))) w:=by
 simp [Instr.fieldAt,Instr.sureAddr,fieldPlace,Sem.run_bind,Result.andThen,U_24,Z_2]
theorem vJ (a:Addr) (w:World):(Instr.fieldAt 24 (.pointer (some a)) 2).run Try.prog w = .ok (.pointer (some (a.add 2))) w:=by
 simp [Instr.fieldAt,Instr.sureAddr,fieldPlace,Sem.run_bind,Result.andThen,U_24,Z_2]
theorem kO:Try.prog.info? 30 = some Try.t30:=by kernel_rfl
theorem nQ:Try.prog.underlying 59 = some (.slice 30):=by kernel_rfl
end
section
open Go Go.RowKit
theorem yV {a:Int} {d:Nat} (hd:0 < d) (ha:(dg a.natAbs).length ≤ 8796093022208) (hd2:(dg d).length ≤ 8796093022208):aT Try.prog 58 [eP a,aL d] (oH (qB a d)):=by
 have h1:=xP a hd; have h2:=xQ a hd
 obtain ⟨x,hx⟩:∃ x,x = Qi.mk' a 0 d:=⟨_,rfl⟩
 rw [qB,← hx]
 rw [← hx] at h1 h2
 have h3:=pJ x.a.natAbs; have h4:=pJ x.den
 have h5:(dg (0:Int).natAbs).length ≤ 0:=by rw [show (0:Int).natAbs = 0 from rfl,cM]; exact Nat.le_refl _
 refine aT.intro Try.func58 rfl Try.ntmps58 rfl (fun cx=>(ts (rn rfl (fG (Ht rfl)) fun B2=>(ro rfl (cQ (aI.cS (l:=[]) rfl)) (eX (ts (ro rfl (eJ A_28 Z_28 (Ht rfl) (i:=0) rfl rfl rfl) (ro rfl (aB.imp (Jm ) zZ) (rm rfl (ro rfl (aB.imp (cZ K_26 (oP (by first | assumption | omega) zo zo zo) ⟨(Ht rfl),(Ht rfl),(Ht rfl),trivial⟩) (dP hx.symm)) (rn rfl (eW (Ts:=[Is (.bool false),Is (.slice none 0 0),Is (.bool false),Is (.slice none 0 0),Is (.slice none 0 0)]) O_30 rfl (fun V=>aW zd (aW zd (aW zd (aW zd (aW zd (aG))))))) fun B5=>?_)))))))))))
 refine gQ Z_30 (Ht rfl) (Ht rfl) rfl (i:=1) rfl (aK rfl) rfl rfl (eX (ts (ro rfl (eZ cT (Ht rfl) rfl) (ro rfl (eZ bR (Ht rfl) rfl) (ro rfl (eY A_26 Z_26 (Ht rfl) (i:=1) rfl rfl) (ro rfl (cZ Try.call77 (wQ zo) ⟨(Ht rfl),trivial⟩) (ra rfl (eX (cK (iT (fun (uu:Unit)=>True) (fun (uu:Unit)=>[(5,eI B5 0),(6,oH (if x.a < 0 then 45 :: sH x.a.natAbs else sH x.a.natAbs))]) (fun (uu:Unit)=>[box B2 28 [aC (decide (a < 0)),aL (a).natAbs],box B5 30 [aC (decide ((x).a < 0)),aL (x).a.natAbs,aC (decide ((x).b < 0)),aL (x).b.natAbs,aL (du (x))]]) ?_ (fun uu _=>?_)))))))))))
 ·refine ts (ro rfl (eZ cT (Ht rfl) rfl) (ro rfl (eZ gB (Ht rfl) rfl) (ro rfl (eY A_4 Z_4 (Ht rfl) (i := 1) rfl rfl) (eX (dQ (Ht rfl) (fun hb => ?_) (fun hb => ?_))))))
  ·simp only [decide_eq_true_eq] at hb
   refine cY (rm rfl (ro rfl (oB (aI.cS (l:=[45]) rfl) (Ht rfl) (by first | omega | (simp; omega))) (ra rfl (eX (aP () trivial (aQ rfl (aZ rfl (kH (by rw [if_pos hb]; rfl)) aX)) (aU (bD rfl) (aU (bD rfl) aY)))))))
  ·simp only [decide_eq_false_iff_not] at hb
   refine cU (aP () trivial (aQ rfl (aZ rfl (kH (by rw [if_neg hb])) aX)) (aU (bD rfl) (aU (bD rfl) aY)))
 ·have h6 : (if x.a < 0 then 45 :: sH x.a.natAbs else sH x.a.natAbs).length ≤ (sH x.a.natAbs).length + 1 := by split <;> simp
  have h7:=Gc x
  refine cK (iT (fun (uu:Unit)=>True) (fun (uu:Unit)=>[(6,oH ((if x.a < 0 then 45 :: sH x.a.natAbs else sH x.a.natAbs) ++ (if x.den = 1 then [] else 47 :: sH x.den)))]) (fun (uu:Unit)=>[box B2 28 [aC (decide (a < 0)),aL (a).natAbs],box B5 30 [aC (decide ((x).a < 0)),aL (x).a.natAbs,aC (decide ((x).b < 0)),aL (x).b.natAbs,aL (du (x))]]) ?_ (fun uu _=>?_))
  ·refine ts (ro rfl (eZ kM (Ht rfl) rfl) (ro rfl (eY A_26 Z_26 (Ht rfl) (i := 1) rfl rfl) (ro rfl (dG U_26 (Ht rfl) aA) (ro rfl (gC (Ht rfl) (cJ 0)) (eX (dQ (Ht rfl) (fun hb => ?_) (fun hb => ?_)))))))
   ·simp only [decide_eq_true_eq] at hb
    have h8:du x = x.den:=pM (fun e=>by rw [e,cM] at hb; simp at hb)
    have h9:x.den ≠ 1:=fun e=>by rw [du,if_pos e,cM] at hb; simp at hb
    have h10:=pJ (du x)
    refine cY (rm rfl (ro rfl (eZ kM (Ht rfl) rfl) (ro rfl (eY A_26 Z_26 (Ht rfl) (i:=1) rfl rfl) (ro rfl (cZ Try.call77 (wQ zo) ⟨(Ht rfl),trivial⟩) (ro rfl (oB (aI.cS (l:=[47]) rfl) (Ht rfl) (by simp only [List.length_cons,List.length_nil]; omega)) ?_)))))
    refine ro rfl (oB (Ht rfl) (Ht rfl) (by simp only [List.length_append,List.length_cons,List.length_nil]; omega)) ?_
    refine ra rfl (eX (aP () trivial (aZ rfl (kH (by rw [if_neg h9,h8]; rfl)) aX) (dE.refl _)))
   ·simp only [decide_eq_false_iff_not] at hb
    have h9:x.den = 1:=rP (aM.1 zo)
    refine cU (aP () trivial (aZ rfl (kH (by rw [if_pos h9,List.append_nil])) aX) (dE.refl _))
  ·refine ts (rm rfl (ra rfl (eX ?_)))
   exact fW rfl (eU rfl)
theorem Fc {x:Qi} {L:Nat} [hx:aH x L] (h:L ≤ 8796093022208):aT Try.prog 37 [aF x] (oH (Qy x)):=by
 have hxa:=jV hx.fit; have hxb:=jW hx.fit; have hxd:=jX hx.fit; have hdp:=x.den_pos
 have l1:=xW x.a hdp; have l2:=xW x.b hdp
 refine aT.intro Try.func37 rfl Try.ntmps37 rfl (fun cx=>(ts (rn rfl (fG (Ht rfl)) fun B1=>(ro rfl (cQ (aI.cS (l:=[]) rfl)) (eX (cK (ts (ro rfl (eJ A_30 Z_30 (Ht rfl) (i:=0) rfl rfl rfl) (ro rfl (cZ K_38 oO ⟨(Ht rfl),trivial⟩) (eX (dQ (Ht rfl) (fun hb=>?_) (fun hb=>?_))))))))))))
 ·simp only [decide_eq_true_eq] at hb
  refine cK (fZ (m:=4) (dp 1 rfl (eZ cT (Ht rfl) rfl) (dq 6 0 rfl (eJ A_28 Z_28 (Ht rfl) (i:=0) rfl rfl rfl) (dp 1 rfl (eJ A_30 Z_30 (Ht rfl) (i:=0) rfl rfl rfl) (dq 8 2 rfl (cZ K_29 kK ⟨(Ht rfl),trivial⟩) (fV bA rfl (by kernel_rfl) (zF (aV (ro rfl (cZ Try.call58 (yV (by assumption) zo zo) ⟨(Ht rfl),(Ht rfl),trivial⟩) ?_)))))))))
  refine ra rfl (eX (fW rfl (fX (eU rfl) ?_)))
  exact (kH (by rw [Qy,if_pos hb]))
 ·simp only [decide_eq_false_iff_not] at hb
  refine cU (cK (fZ (m:=4) (dp 1 rfl (eZ dM (Ht rfl) rfl) (dq 11 0 rfl (eJ A_28 Z_28 (Ht rfl) (i:=0) rfl rfl rfl) (dp 1 rfl (eJ A_30 Z_30 (Ht rfl) (i:=0) rfl rfl rfl) (dq 13 2 rfl (cZ K_29 kK ⟨(Ht rfl),trivial⟩) (fV bA rfl (by kernel_rfl) (zF (aV (ro rfl (cZ Try.call58 (yV (by assumption) zo zo) ⟨(Ht rfl),(Ht rfl),trivial⟩) ?_))))))))))
  refine ro rfl (oB (Ht rfl) (aI.cS (l:=[105]) rfl) (by simp only [List.length_append,List.length_cons,List.length_nil]; omega)) ?_
  refine ra rfl (eX (cK (ts (ro rfl (eZ cT (Ht rfl) rfl) (ro rfl (eZ bR (Ht rfl) rfl) (ro rfl (eY A_26 Z_26 (Ht rfl) (i:=0) rfl rfl) (ro rfl (dG U_26 (Ht rfl) aA) (ro rfl (fE (Ht rfl) (cJ 0)) (eX (dQ (Ht rfl) (fun hc=>?_) (fun hc=>?_)))))))))))
  ·simp only [decide_eq_true_eq] at hc
   have ha:x.a = 0:=by have:=aM.1 hc; omega
   refine ts (rm rfl (ra rfl (eX (fW rfl (fX (eU rfl) ?_)))))
   exact (kH (by rw [Qy,if_neg hb,if_pos ha]))
  ·simp only [decide_eq_false_iff_not] at hc
   have ha:x.a ≠ 0:=fun e=>hc (by rw [e]; exact aM.2 rfl)
   refine cU (cK (iT (fun (uu:Unit)=>True) (fun (uu:Unit)=>[(1,eI B1 0),(3,oH ((if x.b < 0 then qB x.b x.den else 43 :: qB x.b x.den) ++ [105]))]) (fun (uu:Unit)=>[box B1 30 [aC (decide ((x).a < 0)),aL (x).a.natAbs,aC (decide ((x).b < 0)),aL (x).b.natAbs,aL (du (x))]]) ?_ (fun uu _=>?_)))
   ·refine ts (ro rfl (eZ dM (Ht rfl) rfl) (ro rfl (eZ gB (Ht rfl) rfl) (ro rfl (eY A_4 Z_4 (Ht rfl) (i := 0) rfl rfl) (ro rfl (dL (Ht rfl)) (eX (dQ (Ht rfl) (fun hd => ?_) (fun hd => ?_)))))))
    ·have hn : ¬ x.b < 0 := by simpa using hd
     refine cY (rm rfl (ro rfl (oB (aI.cS (l:=[43]) rfl) (Ht rfl) (by simp only [List.length_append,List.length_cons,List.length_nil]; omega)) ?_))
     refine ra rfl (eX (aP () trivial (aQ rfl (aZ rfl (kH (by rw [if_neg hn]; rfl)) aX)) (aU (bD rfl) aY)))
    ·have hn : x.b < 0 := by simpa using hd
     refine cU (aP () trivial (aQ rfl (aZ rfl (kH (by rw [if_pos hn])) aX)) (aU (bD rfl) aY))
   ·have l3 : ((if x.b < 0 then qB x.b x.den else 43 :: qB x.b x.den) ++ [105]).length ≤ (qB x.b x.den).length + 2 := by split <;> simp
    refine cK (fZ (m:=6) (dp 1 rfl (eZ cT (Ht rfl) rfl) (dq 29 0 rfl (eJ A_28 Z_28 (Ht rfl) (i:=0) rfl rfl rfl) (dp 1 rfl (eJ A_30 Z_30 (Ht rfl) (i:=0) rfl rfl rfl) (dq 31 2 rfl (cZ K_29 kK ⟨(Ht rfl),trivial⟩) (fF 30 1 32 3 rfl (cZ Try.call58 (yV (by assumption) zo zo) ⟨(Ht rfl),(Ht rfl),trivial⟩) ?_))))))
    refine dp 3 rfl (cX (Ht rfl)) (fV bA rfl (by kernel_rfl) (zF (aJ (aJ (aV (ro rfl (oB (Ht rfl) (Ht rfl) zo) (ra rfl (eX (fW rfl (fX (eU rfl) ?_))))))))))
    exact (kH (by rw [Qy,if_neg hb,if_neg ha]))
theorem rK {r:Rt}:aT Try.prog 7 [Cr r] (aF r.q):=by
 have hr1:=r.h1; have hr2:=r.h2; have hr3:=r.h3; have hr4:=r.h4; have hr5:=r.d1; have hr6:=r.d2; have hr0:=r.d0
 refine aT.intro Try.func7 rfl Try.ntmps7 rfl (fun cx=>(ts (rn rfl (fG (Ht rfl)) fun B1=>(rn rfl (eW (Ts:=[Is (.bool false),Is (.slice none 0 0),Is (.bool false),Is (.slice none 0 0),Is (.slice none 0 0)]) O_30 rfl (fun V=>aW zd (aW zd (aW zd (aW zd (aW zd (aG))))))) fun B2=>(eX (cK (iT (fun (uu:Unit)=>True) (fun (uu:Unit)=>[(1,eI B1 0),(2,eI B2 0)]) (fun (uu:Unit)=>[box B1 24 [aE .i64 r.re,aE .i64 r.im,aE .i64 r.d],box B2 30 [Is (.bool false),Is (.slice none 0 0),Is (.bool false),Is (.slice none 0 0),Is (.slice none 0 0)]]) ?_ (fun uu _=>?_))))))))
 ·refine ts (ro rfl (eZ vJ (Ht rfl) rfl) (ro rfl (eY Try.isAgg2 Z_2 (Ht rfl) (i := 0) rfl rfl) (ro rfl (iV (Ht rfl) cV) (eX (dQ (Ht rfl) (fun hb => ?_) (fun hb => ?_))))))
  ·simp only [decide_eq_true_eq] at hb
   refine cY (ro rfl (eZ vJ (Ht rfl) rfl) (mC Z_2 (Ht rfl) (cJ 1) (i:=0) rfl (aK rfl) rfl (eX (aP () trivial (zS rfl) (aU (bD (by rw [Rt.d,if_pos hb]; rfl)) (aU (bD rfl) aY))))))
  ·simp only [decide_eq_false_iff_not] at hb
   refine cU (aP () trivial (zS rfl) (aU (bD (by rw [Rt.d,if_neg hb])) (aU (bD rfl) aY)))
 ·refine ts (ro rfl (eZ Kp (Ht rfl) rfl) (ro rfl (eY Try.isAgg2 Z_2 (Ht rfl) (i := 0) rfl rfl) (ro rfl (eZ Kq (Ht rfl) rfl) (ro rfl (eY Try.isAgg2 Z_2 (Ht rfl) (i := 0) rfl rfl) (ro rfl (eZ vJ (Ht rfl) rfl) (ro rfl (eY Try.isAgg2 Z_2 (Ht rfl) (i := 0) rfl rfl) (ro rfl (cZ Try.call21 (Rw hr1 hr2 hr3 hr4 hr5 hr6 hr0) ⟨(Ht rfl), (Ht rfl), (Ht rfl), trivial⟩) (rm rfl (ro rfl (dK (Ht rfl) rfl) (ro rfl (dK (Ht rfl) rfl) (rn rfl (eW (Ts := [Is (.bool false), Is (.slice none 0 0), Is (.bool false), Is (.slice none 0 0), Is (.slice none 0 0)]) O_30 rfl (fun V => aW zd (aW zd (aW zd (aW zd (aW zd (aG))))))) fun B3 => ?_)))))))))))
  refine gQ Z_30 (Ht rfl) (Ht rfl) rfl (i:=2) rfl (aK rfl) rfl rfl (ra rfl (eX (ts (ro rfl (eJ A_30 Z_30 (Ht rfl) (i:=2) rfl rfl rfl) (gQ Z_30 (Ht rfl) (Ht rfl) rfl (i:=1) rfl (aK rfl) rfl rfl (eX ?_))))))
  exact fW rfl (fK A_30 Z_30 rfl (i:=1) rfl rfl)
theorem tS {l:List Rt} (hl:l.length ≤ 1000000):aT Try.prog 32 [Ee l] (fA (l.map Rt.q)):=by
 refine aT.intro Try.func32 rfl Try.ntmps32 rfl (fun cx=>(ts (ro rfl (cQ cV) (eX (ts (rm rfl (ro rfl (dG U_66 (Ht rfl) aA) (rn rfl (nZ (T:=aF Qi.zero) (i:=Try.t30) nQ kO rfl rfl (Ht rfl) rfl kE (El.ag rfl) (by show 88 * _ ≤ _; omega) zo) fun B8=>(ra rfl (eX (cK (ts (rm rfl (ro rfl (dG U_66 (Ht rfl) aA) (ro rfl (cX (cJ 0)) (eX (eG ?_)))))))))))))))))
 refine gI (fun (k : Nat) (out : List Qi) => jC (fun i => (l.getD i default).q) l.length out k) (fun (k : Nat) (out : List Qi) => l.length - k) (fun (k : Nat) (out : List Qi) => [(3, Is B8), (9, Ee l), (10, NT .i64 l.length), (11, NT .i64 k)]) (fun (k : Nat) (out : List Qi) => [bH 30 5 B8 (out.map aF)]) 0 (List.replicate l.length Qi.zero) (jC.start _ _ _)
  (zS rfl) (aU (dN (nK aF _ _)) aY) (fun k out hS=>?_)
 refine ts (ro rfl (gX (Ht rfl) (Ht rfl)) (eX (cK (dQ (Ht rfl) (fun hk=>?_) (fun hk=>?_)))))
 ·simp only [decide_eq_true_eq] at hk
  have hlen:=hS.len
  refine cU (cK (eG (ts (rm rfl (ro rfl (dZ U_66 Z_24 (Ht rfl) (Ht rfl) rfl (dY (dU (d:=default) hk))) (ro rfl (dJ A_24 Z_24 (Ht rfl)) (rn rfl (eW (Ts:=[Is (.int .i64 0),Is (.int .i64 0),Is (.int .i64 0)]) O_24 rfl (fun V=>aW zd (aW zd (aW zd (aG))))) fun B5=>(ra rfl (gQ Z_24 (Ht rfl) (Ht rfl) rfl (i:=1) rfl (aK rfl) rfl rfl (eX (cY (rm rfl (rm rfl (ro rfl (eJ A_24 Z_24 (Ht rfl) (i:=1) rfl rfl rfl) ?_))))))))))))))
  refine ro rfl (cZ Try.call7 rK ⟨(Ht rfl),trivial⟩) (ro rfl (hZ U_59 Z_30 (Ht rfl) (Ht rfl) rfl (i:=0) rfl (by first | omega | (simp; omega)) rfl) (qU Z_30 (Ht rfl) (Ht rfl) (El.ag rfl) (i:=0) rfl rfl (by first | omega | (simp; omega)) rfl (eX (cL (cY (ro rfl (dV (Ht rfl) (cJ 1) z6) (rm rfl (eX (iD [0] rfl (by decide) (fU (k + 1,_) (hS.next hk rfl) (by dsimp only; omega) (zS rfl) (aU (dN (kG aF _ _ _)) aY)))))))))))
 ·simp only [decide_eq_false_iff_not] at hk
  obtain rfl:k = l.length:=Nat.le_antisymm hS.kle zo
  have hfin:=hS.fin
  rw [tB l Rt.q] at hfin
  refine gW rfl (gJ (i:=0) (tt:=3) rfl rfl nV (ts (rm rfl (ra rfl (eX (fW rfl (fX (eU rfl) ?_)))))))
  exact (qQ (by rw [hfin]))
end
section
open Go Go.RowKit
theorem jL {n : Nat} {E : bC} {H : Hp} {d : Option Tmp} {t : TypeId} {pos : String} {af : Array Edge} {g : Option (Nat × Bool)}  :
  aB Try.prog n E H ⟨d,.build 30 #[],t,pos,af,g⟩ (eT [Is (.bool false),Is (.slice none 0 0),Is (.bool false),Is (.slice none 0 0),Is (.slice none 0 0)]) :=
 gE (parts := []) fun a V w hs => by
  refine ⟨.agg #[(.bool false),(.slice none 0 0),(.bool false),(.slice none 0 0),(.slice none 0 0)],?_,[(.bool false),(.slice none 0 0),(.bool false),(.slice none 0 0),(.slice none 0 0)],rfl,aW (⟨rfl,trivial⟩) (aW (⟨rfl,trivial⟩) (aW (⟨rfl,trivial⟩) (aW (⟨rfl,trivial⟩) (aW (⟨rfl,trivial⟩) (aG)))))⟩
  simp [Instr.build,Instr.fill,Sem.run_bind,Result.andThen,eS,O_30,U_30,Z_26,Z_28]
end
section
open Go Go.RowKit
theorem Ey {x y:Qi} {L M:Nat} [hx:aH x L] [hy:aH y M] (h:L + 3 * M + 2 ≤ 17592186044415):aT Try.prog 9 [aF x,aF y] (eM [aF (x / y),aE .i64 (if y = Qi.zero then 3 else 0)]):=by
 have hxa:=jV hx.fit; have hxb:=jW hx.fit; have hxd:=jX hx.fit
 have hya:=jV hy.fit; have hyb:=jW hy.fit; have hyd:=jX hy.fit
 have hxp:=x.den_pos; have hyp:=y.den_pos; have hMp:=hy.pos
 refine aT.intro Try.func9 rfl Try.ntmps9 rfl (fun cx=>(ts (rn rfl (fG (Ht rfl)) fun B2=>(rn rfl (fG (Ht rfl)) fun B3=>(rn rfl (eW (Ts:=[Is (.bool false),Is (.slice none 0 0),Is (.bool false),Is (.slice none 0 0),Is (.slice none 0 0)]) O_30 rfl (fun V=>aW zd (aW zd (aW zd (aW zd (aW zd (aG))))))) fun B4=>(ro rfl (cQ (cJ 0)) (eX (cK (ts (ro rfl (eJ A_30 Z_30 (Ht rfl) (i:=1) rfl rfl rfl) (ro rfl (cZ Try.call23 (Jo zo) ⟨(Ht rfl),trivial⟩) ?_)))))))))))
 refine ro rfl (dL (Ht rfl)) (eX (dQ (Ht rfl) (fun hb=>?_) (fun hb=>?_)))
 ·have h0 : y = Qi.zero := by simpa using hb
  refine ts (ro rfl (aB.imp (jL ) fD) (gQ Z_30 (Ht rfl) (Ht rfl) rfl (i:=2) rfl (aK rfl) rfl rfl (ro rfl (cQ (cJ 3)) (eX (bE rfl (fX (fK A_30 Z_30 rfl (i:=2) rfl rfl) ?_) (fX (eU rfl) ?_))))))
  ·exact (dP (by rw [h0,Qi.div_zero]))
  ·exact (aR (by rw [if_pos h0]; rfl))
 ·have h0 : y ≠ Qi.zero := by simpa using hb
  have g1:=jR y.a y.a; have g2:=jR y.b y.b; have g3:=sK y.b
  have g4:=jQ (x:=y.a * y.a) (y:=y.b * y.b) (L:=M + M) zo zo
  obtain ⟨c,hc⟩:∃ c,c = Qi.mk' y.a (-y.b) 1:=⟨_,rfl⟩
  obtain ⟨z,hz⟩:∃ z,z = x * c:=⟨_,rfl⟩
  have l1:(dg 1).length ≤ 1:=by rw [Fw (by decide) (by decide)]; exact Nat.le_refl _
  haveI fc:aH c M:=hc ▸ ⟨Qi.Fit.mk (by decide) hy.fit.1 (by rw [Int.natAbs_neg]; exact hy.fit.2.1) (Qi.one_lt hMp)⟩
  haveI fz:aH z (L + M + 1):=hz ▸ fitMul
  have hza:=jV fz.fit; have hzb:=jW fz.fit; have hzd:=jX fz.fit
  have hnp:=Qi.nrm_int_pos h0
  have hm:(((y.a * y.a + y.b * y.b).natAbs:Nat):Int) = y.a * y.a + y.b * y.b:=Int.natAbs_of_nonneg zo
  have hdp2:=Nat.mul_pos z.den_pos (show 0 < (y.a * y.a + y.b * y.b).natAbs by omega)
  have e1:=dH z.a y.den; have e2:=dH z.b y.den; have e3:=sJ z.den (y.a * y.a + y.b * y.b).natAbs
  refine cU (cK (fZ (m:=12) (dp 3 rfl (eZ cT (Ht rfl) rfl) (dq 12 0 rfl (eJ A_28 Z_28 (Ht rfl) (i:=1) rfl rfl rfl) (dp 3 rfl (eZ cT (Ht rfl) rfl) (dq 14 2 rfl (eJ A_28 Z_28 (Ht rfl) (i:=1) rfl rfl rfl) (fF 13 1 15 3 rfl (cZ K_24 (nT zo zo) ⟨(Ht rfl),(Ht rfl),trivial⟩) (dp 3 rfl (eZ dM (Ht rfl) rfl) (dq 17 5 rfl (eJ A_28 Z_28 (Ht rfl) (i:=1) rfl rfl rfl) (dp 3 rfl (eZ dM (Ht rfl) rfl) (dq 19 7 rfl (eJ A_28 Z_28 (Ht rfl) (i:=1) rfl rfl rfl) ?_)))))))))))
  refine fF 18 6 20 8 rfl (cZ K_24 (nT zo zo) ⟨(Ht rfl),(Ht rfl),trivial⟩) (fF 16 4 21 9 rfl (cZ K_25 (qI zo zo) ⟨(Ht rfl),(Ht rfl),trivial⟩) (C.D_new (Ei:=[]) rfl rfl rfl bW (eW (Ts:=[Is (.bool false),Is (.slice none 0 0)]) O_28 rfl (fun V=>aW zd (aW zd (aG)))) (fV bA rfl (by kernel_rfl) (zF (zF (aJ (aJ (aJ (C.F_new (fun B6=>aV (gQ Z_28 (Ht rfl) (Ht rfl) rfl (i:=3) rfl (aK rfl) rfl rfl ?_)))))))))))
  refine eX (cK (fZ (m:=10) (dp 2 rfl (eJ A_30 Z_30 (Ht rfl) (i:=0) rfl rfl rfl) (dp 3 rfl (eZ cT (Ht rfl) rfl) (dq 24 1 rfl (eJ A_28 Z_28 (Ht rfl) (i:=1) rfl rfl rfl) (dp 3 rfl (eZ dM (Ht rfl) rfl) (dq 26 3 rfl (eJ A_28 Z_28 (Ht rfl) (i:=1) rfl rfl rfl) (dq 27 4 rfl (cZ K_27 kL ⟨(Ht rfl),trivial⟩) (d0 rfl (aB.imp (dB (xs:=[_]) U_26 Z_55 O_55 (cW (cJ 1) cG) rfl rfl rfl) sV) (C.D_step (Ei:=[(25,_),(28,_),(29,_)]) rfl rfl (bV (bG 2 rfl rfl) (bV (bG 5 rfl rfl) (bV (bG 6 rfl rfl) bW))) (dX rfl (aB.imp (cZ K_26 (oP (by first | assumption | omega) zo zo zo) ⟨(Ht rfl),(Ht rfl),(Ht rfl),trivial⟩) (dP hc.symm))) ?_))))))))))
  refine fF 23 0 30 7 rfl (aB.imp (cZ K_17 (mA zo) ⟨(Ht rfl),(Ht rfl),trivial⟩) (dP hz.symm)) (C.D_new (Ei:=[]) rfl rfl rfl bW (eW (Ts:=[Is (.bool false),Is (.slice none 0 0),Is (.bool false),Is (.slice none 0 0),Is (.slice none 0 0)]) O_30 rfl (fun V=>aW zd (aW zd (aW zd (aW zd (aW zd (aG))))))) (fV bA rfl (by kernel_rfl) (zF (zF (aJ (C.F_new (fun B7=>aV ?_)))))))
  refine gQ Z_30 (Ht rfl) (Ht rfl) rfl (i:=4) rfl (aK rfl) rfl rfl (eX (cK (fZ (m:=14) (dp 7 rfl (eZ cT (Ht rfl) rfl) (dq 32 0 rfl (eJ A_28 Z_28 (Ht rfl) (i:=4) rfl rfl rfl) (dp 3 rfl (eJ A_30 Z_30 (Ht rfl) (i:=1) rfl rfl rfl) (dq 34 2 rfl (cZ K_29 kK ⟨(Ht rfl),trivial⟩) (fF 33 1 35 3 rfl (cZ K_28 (iG zo zo) ⟨(Ht rfl),(Ht rfl),trivial⟩) (dp 7 rfl (eZ dM (Ht rfl) rfl) (dq 37 5 rfl (eJ A_28 Z_28 (Ht rfl) (i:=4) rfl rfl rfl) ?_))))))))))
  refine dp 3 rfl (eJ A_30 Z_30 (Ht rfl) (i:=1) rfl rfl rfl) (dq 39 7 rfl (cZ K_29 kK ⟨(Ht rfl),trivial⟩) (fF 38 6 40 8 rfl (cZ K_28 (iG zo zo) ⟨(Ht rfl),(Ht rfl),trivial⟩) (dp 7 rfl (eJ A_30 Z_30 (Ht rfl) (i:=4) rfl rfl rfl) (dq 42 10 rfl (cZ K_29 kK ⟨(Ht rfl),trivial⟩) (dp 6 rfl (eZ bR (Ht rfl) rfl) (dq 44 12 rfl (eY A_26 Z_26 (Ht rfl) (i:=3) rfl rfl) (fV bA rfl (by kernel_rfl) (zF (zF (zF (aJ (aJ (aV ?_)))))))))))))
  refine ro rfl (cZ Try.call30 (wR zo zo) ⟨(Ht rfl),(Ht rfl),trivial⟩) (ro rfl (cZ K_26 (oP (by first | assumption | omega) zo zo zo) ⟨(Ht rfl),(Ht rfl),(Ht rfl),trivial⟩) (gQ Z_30 (Ht rfl) (Ht rfl) rfl (i:=2) rfl (aK rfl) rfl rfl (ro rfl (cQ (cJ 0)) (eX (bE rfl (fX (fK A_30 Z_30 rfl (i:=2) rfl rfl) ?_) (fX (eU rfl) ?_))))))
  ·exact (dP (Qi.mk_divP x h0 (hc ▸ hz) hm))
  ·exact (aR (by rw [if_neg h0]; rfl))
end
section
open Go Go.RowKit
theorem nX:Try.prog.info? 59 = some Try.t59:=by kernel_rfl
end
section
open Go Go.RowKit
theorem yR {γ:Type} {l:List γ} {T:γ → Ty} {p:γ → Bool} [sh:∀ x,cB (T x) 5 true] (hl:l.length ≤ 1000000):aT Try.prog 82 [jO 5 (l.map T),Aa Try.prog γ (fun x=>[T x]) (fun x=>aC (p x))] (aE .i64 (xK p l)):=by
 refine aT.intro Try.func82 rfl Try.ntmps82 rfl (fun cx=>(ts (ro rfl (cQ (cJ 0)) (eX (cK (ts (rm rfl (ro rfl (dG U_59 (Ht rfl) aA) (ro rfl (cX (cJ 0)) (eX (eG ?_)))))))))))
 refine gA (fun (k : Nat) => k ≤ l.length ∧ ∀ (i : Nat) (x : γ), i < k → l[i]? = some x → p x = false) (fun (k : Nat) => l.length - k) (fun (k : Nat) => [(0, jO 5 (l.map T)), (1, Aa Try.prog γ (fun x => [T x]) (fun x => aC (p x))), (7, NT .i64 l.length), (8, NT .i64 k)]) (fun (k : Nat) => []) 0 ⟨Nat.zero_le _, fun i x h => by omega⟩
  (zS rfl) aY (fun k ⟨hk,hn⟩=>?_)
 refine ts (ro rfl (gX (Ht rfl) (Ht rfl)) (eX (cK (dQ (Ht rfl) (fun hb=>?_) (fun hb=>?_)))))
 ·simp only [decide_eq_true_eq] at hb
  refine cU (cK (eG (ts (rm rfl (ra rfl (eX (ts (rm rfl (rm rfl (rm rfl (ro rfl (dZ U_59 Z_30 (Ht rfl) (Ht rfl) rfl (dY (vO hb))) (ro rfl (dJ A_30 Z_30 (Ht rfl)) (ro rfl (sW (l[k]) (Ht rfl) ⟨(Ht rfl),trivial⟩) (eX (dQ (Ht rfl) (fun hc=>?_) (fun hc=>?_))))))))))))))))
  ·have hp : p l[k] = true := hc
   refine ts (rm rfl (ra rfl (eX (fW rfl (fX (eU rfl) ?_)))))
   exact (aR (Bj (vO hb) hp hn).symm)
  ·have hp : p l[k] = false := hc
   refine cU (cL (cY (ro rfl (dV (Ht rfl) (cJ 1) z6) (rm rfl (eX ?_)))))
   refine fU (k + 1) ⟨hb, fun i x h1 h2 => by
    by_cases e:i = k
    ·subst e; rw [vO hb] at h2; obtain rfl:=Option.some.inj h2; exact hp
    ·exact hn i x zo h2⟩ zo (zS rfl) aY
 ·simp only [decide_eq_false_iff_not] at hb
  refine gW rfl (ts (ro rfl (cQ cV) (eX (fW rfl (fX (eU rfl) ?_)))))
  exact (aR (uB (fun i x h=>hn i x (by have:=(List.getElem?_eq_some_iff.1 h).1; omega) h)).symm)
theorem tI {γ:Type} {l:List γ} {T:γ → Ty} {p:γ → Bool} [sh:∀ x,cB (T x) 5 true] (hl:l.length ≤ 1000000):aT Try.prog 67 [jO 5 (l.map T),Aa Try.prog γ (fun x=>[T x]) (fun x=>aC (p x))] (aC (l.any p)):=by
 refine aT.intro Try.func67 rfl Try.ntmps67 rfl (fun cx=>(ts (ro rfl (cQ cV) (eX (ts (rm rfl (rm rfl (ro rfl (cZ Try.call82 (yR zo) ⟨(Ht rfl),(Ht rfl),trivial⟩) (ro rfl (lU (Ht rfl) cV) (ra rfl (eX (fW rfl (fX (eU rfl) ?_)))))))))))))
 exact (fL (xL p l))
theorem yS {γ:Type} {l:List γ} {T:γ → Ty} {p:γ → Bool} [sh:∀ x,cB (T x) 1 false] (hl:l.length ≤ 1000000):aT Try.prog 95 [jO 1 (l.map T),Aa Try.prog γ (fun x=>[T x]) (fun x=>aC (p x))] (aE .i64 (xK p l)):=by
 refine aT.intro Try.func95 rfl Try.ntmps95 rfl (fun cx=>(ts (ro rfl (cQ (cJ 0)) (eX (cK (ts (rm rfl (ro rfl (dG U_60 (Ht rfl) aA) (ro rfl (cX (cJ 0)) (eX (eG ?_)))))))))))
 refine gA (fun (k : Nat) => k ≤ l.length ∧ ∀ (i : Nat) (x : γ), i < k → l[i]? = some x → p x = false) (fun (k : Nat) => l.length - k) (fun (k : Nat) => [(0, jO 1 (l.map T)), (1, Aa Try.prog γ (fun x => [T x]) (fun x => aC (p x))), (7, NT .i64 l.length), (8, NT .i64 k)]) (fun (k : Nat) => []) 0 ⟨Nat.zero_le _, fun i x h => by omega⟩
  (zS rfl) aY (fun k ⟨hk,hn⟩=>?_)
 refine ts (ro rfl (gX (Ht rfl) (Ht rfl)) (eX (cK (dQ (Ht rfl) (fun hb=>?_) (fun hb=>?_)))))
 ·simp only [decide_eq_true_eq] at hb
  refine cU (cK (eG (ts (rm rfl (ra rfl (eX (ts (rm rfl (rm rfl (rm rfl (ro rfl (dZ U_60 Z_59 (Ht rfl) (Ht rfl) rfl (dY (vO hb))) (ro rfl (dJ A_59 Z_59 (Ht rfl)) (ro rfl (sW (l[k]) (Ht rfl) ⟨(Ht rfl),trivial⟩) (eX (dQ (Ht rfl) (fun hc=>?_) (fun hc=>?_))))))))))))))))
  ·have hp : p l[k] = true := hc
   refine ts (rm rfl (ra rfl (eX (fW rfl (fX (eU rfl) ?_)))))
   exact (aR (Bj (vO hb) hp hn).symm)
  ·have hp : p l[k] = false := hc
   refine cU (cL (cY (ro rfl (dV (Ht rfl) (cJ 1) z6) (rm rfl (eX ?_)))))
   refine fU (k + 1) ⟨hb, fun i x h1 h2 => by
    by_cases e:i = k
    ·subst e; rw [vO hb] at h2; obtain rfl:=Option.some.inj h2; exact hp
    ·exact hn i x zo h2⟩ zo (zS rfl) aY
 ·simp only [decide_eq_false_iff_not] at hb
  refine gW rfl (ts (ro rfl (cQ cV) (eX (fW rfl (fX (eU rfl) ?_)))))
  exact (aR (uB (fun i x h=>hn i x (by have:=(List.getElem?_eq_some_iff.1 h).1; omega) h)).symm)
theorem tJ {γ:Type} {l:List γ} {T:γ → Ty} {p:γ → Bool} [sh:∀ x,cB (T x) 1 false] (hl:l.length ≤ 1000000):aT Try.prog 90 [jO 1 (l.map T),Aa Try.prog γ (fun x=>[T x]) (fun x=>aC (p x))] (aC (l.any p)):=by
 refine aT.intro Try.func90 rfl Try.ntmps90 rfl (fun cx=>(ts (ro rfl (cQ cV) (eX (ts (rm rfl (rm rfl (ro rfl (cZ Try.call95 (yS zo) ⟨(Ht rfl),(Ht rfl),trivial⟩) (ro rfl (lU (Ht rfl) cV) (ra rfl (eX (fW rfl (fX (eU rfl) ?_)))))))))))))
 exact (fL (xL p l))
theorem yW {x:Qi} {L:Nat} [hx:aH x L] (h:L ≤ 8796093022208):aT Try.prog 69 [aF x] (aC (iQ x)):=by
 haveI hz:aH Qi.zero 1:=aH.zero (Nat.le_refl 1)
 refine aT.intro Try.func69 rfl Try.ntmps69 rfl (fun cx=>(ts (rn rfl (fG (Ht rfl)) fun B1=>(ro rfl (cQ cV) (eX (ts (ro rfl (eJ A_30 Z_30 (Ht rfl) (i:=0) rfl rfl rfl) (ro rfl (cZ K_38 oO ⟨(Ht rfl),trivial⟩) (rm rfl (fQ rfl rfl (eK rfl rfl (Ht rfl) (fun h=>eJ A_30 Z_30 (Ht rfl) (i:=0) rfl rfl rfl)) (fQ rfl rfl (eK rfl rfl (Ht rfl) (fun h=>aB.imp (jL ) fD)) (fQ rfl rfl (eK rfl rfl (Ht rfl) (fun h=>cZ K_15 (mG zo) ⟨(fJ rfl h),(fJ rfl h),trivial⟩)) ?_))))))))))))
 refine fQ rfl rfl (eK rfl rfl (Ht rfl) (fun h=>qO (fJ rfl h) cV)) (ro rfl (eO (Ht rfl) (fun h=>(fJ rfl h))) (ra rfl (eX (fW rfl (fX (eU rfl) ?_)))))
 exact (fL (zN x))
theorem vG {x:Qi} {L:Nat} [hx:aH x L] (h:L ≤ 8796093022208):aT Try.prog 68 [aF x] (aC (!iQ x)):=by
 refine aT.intro Try.func68 rfl Try.ntmps68 rfl (fun cx=>(ts (rn rfl (fG (Ht rfl)) fun B1=>(ro rfl (cQ cV) (eX (ts (ro rfl (eJ A_30 Z_30 (Ht rfl) (i:=0) rfl rfl rfl) (ro rfl (cZ Try.call69 (yW zo) ⟨(Ht rfl),trivial⟩) (ro rfl (dL (Ht rfl)) (ra rfl (eX ?_)))))))))))
 exact fW rfl (eU rfl)
theorem wS {z:List Qi} {L:Nat} (hz:jK z L) (h:L ≤ 8796093022208) (hl:z.length ≤ 1000):aT Try.prog 49 [fA z] (aE .i64 (if z.all iQ then 0 else 1)):=by
 obtain ⟨l,hzl⟩:∃ l:List {x:Qi // aH x L},z = l.map Subtype.val:=⟨z.attach.map fun x=>⟨x.1,hz x.1 x.2⟩,by simp⟩
 subst hzl
 have hll:l.length ≤ 1000:=by simpa using hl
 refine aT.intro Try.func49 rfl Try.ntmps49 rfl (fun cx=>(qV (E':=[(0,_)]) (aZ rfl (qQ (Us:=l.map fun x=>aF x.1) (by simp [List.map_map,Function.comp_def])) aX) ?_))
 refine ts (ro rfl (cQ (cJ 0)) (eX (cK (ts (rm rfl (ro rfl (cZ Try.call67 (tI (l:=l) (T:=fun x=>aF x.1) (p:=fun x=>!iQ x.1) zo) ⟨(Ht rfl),(aI.fn Try.call68 (γ:={x:Qi // aH x L}) (Ts:=fun x=>[aF x.1]) (U:=fun x=>aC (!iQ x.1)) (fun x=>haveI:=x.2; vG h)),trivial⟩) (eX (dQ (Ht rfl) (fun hb=>?_) (fun hb=>?_)))))))))
 ·have hn : ¬ (l.map Subtype.val).all iQ = true := by simp at hb ⊢; exact hb
  refine ts (ro rfl (cQ (cJ 1)) (eX (fW rfl (fX (eU rfl) ?_))))
  exact (aR (by rw [if_neg hn]; rfl))
 ·have hn : (l.map Subtype.val).all iQ = true := by simp at hb ⊢; exact hb
  refine cU (ts (ro rfl (cQ (cJ 0)) (eX (fW rfl (fX (eU rfl) ?_)))))
  exact (aR (by rw [if_pos hn]; rfl))
theorem Ex {l:List Qi} (hl:l.length ≤ 1000):iC Try.prog 50 [fA l] [] (Value) (fun v=>Is v) (fun v=>[bH 30 5 v (l.map aF)]) (fun _=>True):=by
 refine iC.intro Try.func50 rfl Try.ntmps50 rfl (fun cx Z=>(ts (ro rfl (cQ cV) (eX (cK (ts (rm rfl (ro rfl (Hn U_59 (Ht rfl)) (eX (Jk (Ht rfl) (fun hb=>?_) (fun hb=>?_)))))))))))
 ·have hT : l.map aF = [] := hb rfl
  refine ts (ro rfl (cQ cV) (eX (Mw 30 5 ?_)))
  exact jY (.slice none 0 0) trivial [0,1] ⟨⟨_,rfl,fun _ _ _ h=>h⟩,⟨_,rfl,(dN hT.symm)⟩,trivial⟩ (by decide) (vZ rfl (eU rfl))
 ·refine cU (ts (rn rfl (xS U_59 Z_30 O_30) fun B5 => (rm rfl (Cq (inf := Try.t30) nQ kO rfl rfl rfl (Ht rfl) (Ht rfl) (i := 1) rfl (fun T hT => by obtain ⟨x, _, rfl⟩ := List.mem_map.1 hT; exact El.ag rfl) (by show _ * 88 ≤ _; simp only [List.length_map, List.length_nil]; omega) (by simp only [List.length_map, List.length_nil]; omega) rfl (fun v2 => ?_)))))
  refine ra rfl (eX ?_)
  exact jY v2 trivial [0,1] ⟨⟨_,rfl,fun _ _ _ h=>h⟩,⟨_,rfl,fun _ _ _ h=>h⟩,trivial⟩ (by decide) (vZ rfl (eU rfl))
theorem Jp {l:List Qi} (hl:l.length ≤ 1000):aT Try.prog 50 [fA l] (fA l):=(Ex hl).fun fun v _=>nV
theorem Jx {n:Nat} {f:Nat → Nat → Qi} (hn:n ≤ 1000):iC Try.prog 51 [NT .i64 n,Aa Try.prog (Fin n × Fin n) (fun x=>[NT .i64 x.1.1,NT .i64 x.2.1]) (fun x=>aF (f x.1.1 x.2.1))] [] (Nat) (fun B=>Is (.slice (some ⟨B,0,none⟩) n n)) (fun B=>[sQ B 59 30 5 (dD aF (tab n fun i=>tab n (f i)))]) (fun _=>True):=by
 refine iC.intro Try.func51 rfl Try.ntmps51 rfl (fun cx Z=>(ts (ro rfl (cQ cV) (eX (ts (rm rfl (rn rfl (fP (T:=Is (.slice none 0 0)) (i:=Try.t59) V_60 nX rfl rfl (Ht rfl) rfl (fun _=>rfl) trivial (by show 24 * _ ≤ _; omega) zo) fun B9=>(ra rfl (eX (cK (ts (rm rfl (ro rfl (jA U_60 (Ht rfl)) (ro rfl (cX (cJ 0)) (eX (eG (sC 1 rfl (rR (e:=30) (s:=5)) ?_)))))))))))))))))
 refine gI (fun (k : Nat) (m : List (List Qi)) => jC (fun i => tab n (f i)) n m k) (fun (k : Nat) (m : List (List Qi)) => n - k) (fun (k : Nat) (m : List (List Qi)) => [(0, NT .i64 n), (1, Aa Try.prog (Fin n × Fin n) (fun x => [NT .i64 x.1.1, NT .i64 x.2.1]) (fun x => aF (f x.1.1 x.2.1))), (5, Is (.slice (some ⟨B9, 0, none⟩) n n)), (11, NT .i64 n), (12, NT .i64 k)]) (fun (k : Nat) (m : List (List Qi)) => [Z, sQ B9 59 30 5 (dD aF m)]) 0 (List.replicate n []) (jC.start _ _ _)
  (zS rfl) (aU (fun _ _ _ h=>h) (aU (cP (nJ aF n)) aY)) (fun k m hS=>?_)
 refine ts (ro rfl (gX (Ht rfl) (Ht rfl)) (eX (cK (dQ (Ht rfl) (fun hk=>?_) (fun hk=>?_)))))
 ·simp only [decide_eq_true_eq] at hk
  have hlen:=hS.len
  refine rI 1 (k) rfl (Gp (m:=m) (i:=k) zo) (fun v=>(cU (cK (eG (ts (rm rfl (ra rfl (eX (ts (rm rfl (rm rfl (rm rfl (rn rfl (nZ (T:=aF Qi.zero) (i:=Try.t30) nQ kO rfl rfl (Ht rfl) rfl kE (El.ag rfl) (by show 88 * _ ≤ _; omega) zo) fun B18=>(ro rfl (fY U_60 Z_59 (Ht rfl) (Ht rfl) rfl zo (by rw [Nat.mul_one,Nat.zero_add])) ?_))))))))))))))
  refine wH Z_59 (Ht rfl) (Ht rfl) (by simp; omega) (j:=1) (l:=3) rfl rfl rfl ?_
  refine eX (cK (iD [0,1,3] rfl (by decide) (cY (rm rfl (rm rfl (ro rfl (fY U_60 Z_59 (Ht rfl) (Ht rfl) rfl zo (by rw [Nat.mul_one,Nat.zero_add])) ?_))))))
  refine ro rfl (lV A_59 Z_59 (Ht rfl) (j:=1) rfl) (ro rfl (pY U_59 (Ht rfl) (i:=2) rfl (show ((List.replicate n (aF Qi.zero)).length:Int) = ((n:Nat):Int) by simp)) (ro rfl (cX (cJ 0)) (eX (eG ?_))))
  refine gI (fun (j : Nat) (out : List Qi) => jC (f k) n out j) (fun (j : Nat) (out : List Qi) => n - j) (fun (j : Nat) (out : List Qi) => [(0, NT .i64 n), (1, Aa Try.prog (Fin n × Fin n) (fun x => [NT .i64 x.1.1, NT .i64 x.2.1]) (fun x => aF (f x.1.1 x.2.1))), (5, Is (.slice (some ⟨B9, 0, none⟩) n n)), (6, NT .i64 k), (11, NT .i64 n), (12, NT .i64 k), (24, NT .i64 n), (25, NT .i64 j)]) (fun (j : Nat) (out : List Qi) => [Z, Gs B9 59 30 5 (dD aF m) k B18, bH 30 5 B18 (out.map aF)]) 0 (List.replicate n Qi.zero) (jC.start _ _ _)
   (zS rfl) (aU (fun _ _ _ h=>h) (aU (fun _ _ _ h=>h) (aU (dN (nK aF _ _)) aY))) (fun j out hT=>?_)
  refine ts (ro rfl (gX (Ht rfl) (Ht rfl)) (eX (cK (dQ (Ht rfl) (fun hj=>?_) (fun hj=>?_)))))
  ·simp only [decide_eq_true_eq] at hj
   have hlen2:=hT.len
   refine cU (cK (eG (ts (rm rfl (ra rfl (eX (fZ (m:=9) (dp 5 rfl (cX (Ht rfl)) (dp 6 rfl (cX (Ht rfl)) (fF 28 0 29 1 rfl (fY U_60 Z_59 (Ht rfl) (Ht rfl) rfl zo (by rw [Nat.mul_one,Nat.zero_add])) ?_))))))))))
   refine dq 30 2 rfl (lV A_59 Z_59 (Ht rfl) (j:=1) rfl) (dp 7 rfl (cX (Ht rfl)) (dp 1 rfl (cX (Ht rfl)) (dp 6 rfl (cX (Ht rfl)) (dp 7 rfl (cX (Ht rfl)) (C.D_step (Ei:=[(33,_),(34,_),(35,_)]) rfl rfl (bV (bG 5 rfl rfl) (bV (bG 6 rfl rfl) (bV (bG 7 rfl rfl) bW))) (dX rfl (sW ((⟨k,hk⟩,⟨j,hj⟩):Fin n × Fin n) (Ht rfl) ⟨(Ht rfl),(Ht rfl),trivial⟩)) (fV bA rfl (by kernel_rfl) (zF (zF (aJ (aV ?_))))))))))
   refine ro rfl (hZ U_59 Z_30 (Ht rfl) (Ht rfl) rfl (i:=2) rfl (by first | omega | (simp; omega)) rfl) (qU Z_30 (Ht rfl) (Ht rfl) (El.ag rfl) (i:=2) rfl rfl (by first | omega | (simp; omega)) rfl (eX (cL (cY (ro rfl (dV (Ht rfl) (cJ 1) z6) (rm rfl (eX (fU (j + 1,_) (hT.next hj rfl) (by dsimp only; omega) (zS rfl) (aU (fun _ _ _ h=>h) (aU (fun _ _ _ h=>h) (aU (dN (kG aF _ _ _)) aY)))))))))))
  ·simp only [decide_eq_false_iff_not] at hj
   obtain rfl:j = n:=Nat.le_antisymm hT.kle zo
   have hfin:=hT.fin
   refine gW rfl (cL (iK 1 2 rfl rfl (by decide) (by simp; omega) ?_))
   refine cY (ro rfl (dV (Ht rfl) (cJ 1) z6) (rm rfl (eX (iD [0,1] rfl (by decide) (fU (k + 1,_) (hS.next hk hfin) (by dsimp only; omega) (zS rfl) (aU (fun _ _ _ h=>h) (aU (cP (jH aF _ _ _)) aY)))))))
 ·simp only [decide_eq_false_iff_not] at hk
  obtain rfl:k = n:=Nat.le_antisymm hS.kle zo
  have hfin:=hS.fin
  refine gW rfl (ts (rm rfl (ra rfl (eX ?_))))
  exact jY B9 trivial [0,1] ⟨⟨_,rfl,fun _ _ _ h=>h⟩,⟨_,rfl,(cP (by rw [hfin]))⟩,trivial⟩ (by decide) (vZ rfl (eU rfl))
theorem Ou {n:Nat} {f:Nat → Nat → Qi} (hn:n ≤ 1000):aT Try.prog 51 [NT .i64 n,Aa Try.prog (Fin n × Fin n) (fun x=>[NT .i64 x.1.1,NT .i64 x.2.1]) (fun x=>aF (f x.1.1 x.2.1))] (eH (tab n fun i=>tab n (f i))):=(Jx hn).fun fun B _ v S V h1 h2=>qQ (by simp [dD,List.map_map,Function.comp_def]) v V (Bh (by simp [dD,cC]) (Nat.le_refl _) v S V h1 h2)
end
section
open Go Go.RowKit
theorem vB {n : Nat} {E : bC} {H : Hp} {d : Option Tmp} {t : TypeId} {pos : String} {af : Array Edge} {g : Option (Nat × Bool)}  :
  aB Try.prog n E H ⟨d,.build 62 #[],t,pos,af,g⟩ (eT [Is (.slice none 0 0),Is (.slice none 0 0)]) :=
 gE (parts := []) fun a V w hs => by
  refine ⟨.agg #[(.slice none 0 0),(.slice none 0 0)],?_,[(.slice none 0 0),(.slice none 0 0)],rfl,aW (⟨rfl,trivial⟩) (aW (⟨rfl,trivial⟩) (aG))⟩
  simp [Instr.build,Instr.fill,Sem.run_bind,Result.andThen,eS,O_62,U_62,Z_59,Z_60]
theorem yN {n : Nat} {E : bC} {H : Hp} {d : Option Tmp} {t : TypeId} {pos : String} {af : Array Edge} {g : Option (Nat × Bool)} {x0 x1 : Operand} {T0 T1 : Ty} [s0 : cB T0 1 false] (h0 : aI E x0 T0) [s1 : cB T1 1 false] (h1 : aI E x1 T1) :
  aB Try.prog n E H ⟨d,.build 62 #[(0,x0),(1,x1)],t,pos,af,g⟩ (eT [T0,T1]) :=
 gE (parts := [(0, x0), (1, x1)]) fun a V w hs => by
  have p0:=h0 n V a hs
  generalize e0:a.eval x0 = v0 at p0
  have q0:=(s0.ok v0 V p0).2.2 rfl
  have p1:=h1 n V a hs
  generalize e1:a.eval x1 = v1 at p1
  have q1:=(s1.ok v1 V p1).2.2 rfl
  refine ⟨.agg #[v0,v1],?_,[v0,v1],rfl,aW (⟨p0,q0⟩) (aW (⟨p1,q1⟩) (aG))⟩
  simp [e0,e1,Instr.build,Instr.fill,Sem.run_bind,Result.andThen,eS,q0.cells,q1.cells,O_62,U_62,Z_59,Z_60]
theorem vK (a:Addr) (w:World):(Instr.fieldAt 62 (.pointer (some a)) 0).run Try.prog w = .ok (.pointer (some (a.add 0))) w:=by
 simp [Instr.fieldAt,Instr.sureAddr,fieldPlace,Sem.run_bind,Result.andThen,U_62,Z_59]
end
section
open Go Go.RowKit
theorem On {s:List (List Qi)} {n i j:Nat} (hs:jI s n n) (hi:i < n) (hj:j < n):aT Try.prog 52 [NT .i64 i,NT .i64 j,PT (eH s)] (aF (gm s i j)):=by
 have h1:=hs.1; have h2:=hs.row hi
 refine aT.intro Try.func52 rfl Try.ntmps52 rfl (fun cx=>(ts (rn rfl (eW (Ts:=[Is (.bool false),Is (.slice none 0 0),Is (.bool false),Is (.slice none 0 0),Is (.slice none 0 0)]) O_30 rfl (fun V=>aW zd (aW zd (aW zd (aW zd (aW zd (aG))))))) fun B5=>(eX (ts (ro rfl (dJ A_60 Z_60 (Ht rfl)) (rm rfl (ro rfl (dZ U_60 Z_59 (Ht rfl) (Ht rfl) rfl (dY (dU (d:=[]) zo))) (ro rfl (dJ A_59 Z_59 (Ht rfl)) ?_)))))))))
 refine rm rfl (ro rfl (dZ U_59 Z_30 (Ht rfl) (Ht rfl) rfl (dY (dU (d:=Qi.zero) zo))) (ro rfl (dJ A_30 Z_30 (Ht rfl)) (gQ Z_30 (Ht rfl) (Ht rfl) rfl (i:=0) rfl (aK rfl) rfl rfl (eX ?_))))
 exact fW rfl (fK A_30 Z_30 rfl (i:=0) rfl rfl)
theorem Fg {z:List Qi} {s:List (List Qi)} {L:Nat} (hz:jK z L) (h:L ≤ 8796093022208) (hl:z.length ≤ 1000) (hl2:s.length ≤ 1000):aT Try.prog 31 [fA z,eH s] (eM [mE (pD (fH z s) z) (pD (fH z s) s),aE .i64 (fH z s)]):=by
 refine aT.intro Try.func31 rfl Try.ntmps31 rfl (fun cx=>(ts (rn rfl (Hc (Ht rfl)) fun B3=>(rn rfl (eW (Ts:=[Is (.slice none 0 0),Is (.slice none 0 0)]) O_62 rfl (fun V=>aW zd (aW zd (aG)))) fun B4=>(ro rfl (cQ (cJ 0)) (eX (cK (cK (gJ (i:=0) (tt:=3) rfl rfl xH (cY (rm rfl (ro rfl (dG U_59 (Ht rfl) aA) (ro rfl (gX (Ht rfl) (cJ 1)) (rm rfl (fQ rfl rfl (eK rfl rfl (Ht rfl) (fun h=>cX (Ht rfl))) (fQ rfl rfl (eK rfl rfl (Ht rfl) (fun h=>dG U_59 (fJ rfl h) aA)) ?_))))))))))))))))
 refine fQ rfl rfl (eK rfl rfl (Ht rfl) (fun h=>gC (fJ rfl h) (cJ 8))) (ro rfl (gG (Ht rfl) (fun h=>(fJ rfl h))) (rm rfl (fQ rfl rfl (eK rfl rfl (Ht rfl) (fun h=>dJ A_60 Z_60 (Ht rfl))) (fQ rfl rfl (eK rfl rfl (Ht rfl) (fun h=>dG U_60 (fJ rfl h) aA)) (fQ rfl rfl (eK rfl rfl (Ht rfl) (fun h=>cX (Ht rfl))) (fQ rfl rfl (eK rfl rfl (Ht rfl) (fun h=>dG U_59 (fJ rfl h) aA)) (fQ rfl rfl (eK rfl rfl (Ht rfl) (fun h=>kS (fJ rfl h) (fJ rfl h))) ?_)))))))
 refine ro rfl (gG (Ht rfl) (fun h=>(fJ rfl h))) (eX (dQ (Ht rfl) (fun hb=>?_) (fun hb=>?_)))
 ·have he := xR hb
  refine ts (ro rfl (aB.imp (vB ) vR) (gQ Z_62 (Ht rfl) (Ht rfl) rfl (i:=1) rfl (aK rfl) rfl rfl (ro rfl (cQ (cJ 4)) (eX (bE rfl (fX (fK A_62 Z_62 rfl (i:=1) rfl rfl) ?_) (fX (eU rfl) ?_))))))
  ·exact (vQ he (by decide))
  ·exact (aR he.symm)
 ·refine cU (cK (ts (ro rfl (dJ A_60 Z_60 (Ht rfl)) (ro rfl (dG U_60 (Ht rfl) aA) (ro rfl (cX (cJ 0)) (eX (eG ?_)))))))
  refine gA (fun (k : Nat) => k ≤ s.length ∧ ∀ (i : Nat) (r : List Qi), i < k → s[i]? = some r → r.length = z.length) (fun (k : Nat) => s.length - k) (fun (k : Nat) => [(0, fA z), (3, PT (eH s)), (4, eI B4 0), (25, eH s), (26, NT .i64 s.length), (27, NT .i64 k)]) (fun (k : Nat) => [SA.emp, box B4 62 [Is (.slice none 0 0), Is (.slice none 0 0)]]) 0 ⟨Nat.zero_le _, fun i r h => by omega⟩
   (zS rfl) (dE.refl _) (fun k ⟨hk,hr⟩=>?_)
  refine ts (ro rfl (gX (Ht rfl) (Ht rfl)) (eX (cK (dQ (Ht rfl) (fun hc=>?_) (fun hc=>?_)))))
  ·simp only [decide_eq_true_eq] at hc
   refine cU (cK (eG (ts (ro rfl (dZ U_60 Z_59 (Ht rfl) (Ht rfl) rfl (dY (vO hc))) (ro rfl (dJ A_59 Z_59 (Ht rfl)) (ra rfl (eX (ts (rm rfl (ro rfl (dG U_59 (Ht rfl) aA) (rm rfl (ro rfl (dG U_59 (Ht rfl) aA) (ro rfl (kS (Ht rfl) (Ht rfl)) (eX (dQ (Ht rfl) (fun hd=>?_) (fun hd=>?_))))))))))))))))
   ·have hd2 : ¬ (s[k]).length = z.length := by simpa using hd
    have he:=zH (vO hc) hd2
    refine ts (ro rfl (aB.imp (vB ) vR) (gQ Z_62 (Ht rfl) (Ht rfl) rfl (i:=1) rfl (aK rfl) rfl rfl (ro rfl (cQ (cJ 4)) (eX (bE rfl (fX (fK A_62 Z_62 rfl (i:=1) rfl rfl) ?_) (fX (eU rfl) ?_))))))
    ·exact (vQ he (by decide))
    ·exact (aR he.symm)
   ·have hd2 : (s[k]).length = z.length := by simpa using hd
    refine cU (cL (cY (ro rfl (dV (Ht rfl) (cJ 1) z6) (rm rfl (eX ?_)))))
    refine fU (k + 1) ⟨hc, fun i r h1 h2 => by
      by_cases e:i = k
      ·subst e; rw [vO hc] at h2; obtain rfl:=Option.some.inj h2; exact hd2
      ·exact hr i r zo h2⟩ zo (zS rfl) (dE.refl _)
  ·simp only [decide_eq_false_iff_not] at hc
   have hall:∀ (i:Nat) (r:List Qi),s[i]? = some r → r.length = z.length:=fun i r h=>hr i r (by have:=(List.getElem?_eq_some_iff.1 h).1; omega) h
   have hpos:=zG hb hall
   refine gW rfl (cK (ts (rm rfl (ro rfl (cZ Try.call49 (wS hz h zo) ⟨(Ht rfl),trivial⟩) (ra rfl (eX (ts (rm rfl (ro rfl (oU (Ht rfl) cV) (eX (dQ (Ht rfl) (fun hd=>?_) (fun hd=>?_))))))))))))
   ·have hd2 : ¬ (if z.all iQ = true then (0 : Int) else 1) = 0 := by simpa using hd
    refine ts (ro rfl (aB.imp (vB ) vR) (rm rfl (gQ Z_62 (Ht rfl) (Ht rfl) rfl (i:=1) rfl (aK rfl) rfl rfl (ra rfl (eX (bE rfl (fX (fK A_62 Z_62 rfl (i:=1) rfl rfl) ?_) (fX (eU rfl) ?_)))))))
    ·exact (vQ hpos hd2)
    ·exact (aR hpos.symm)
   ·have hd2 : (if z.all iQ = true then (0 : Int) else 1) = 0 := by simpa using hd
    have he:=hpos.trans hd2
    obtain ⟨h1,h2,hsh,_⟩:=uE he
    refine cU (ts (rm rfl (ro rfl (cZ Try.call50 (Jp zo) ⟨(Ht rfl),trivial⟩) (rm rfl (ro rfl (dG U_59 (Ht rfl) aA) (ro rfl (Br (γ:=Fin z.length × Fin z.length) (Ts:=fun x=>[NT .i64 x.1.1,NT .i64 x.2.1]) (U:=fun x=>aF (gm s x.1.1 x.2.1)) Try.call52 (fun x=>On hsh x.1.2 x.2.2) ⟨(Ht rfl),trivial⟩) (ro rfl (cZ Try.call51 (eQ (Ou (n:=z.length) (f:=gm s) zo) (qQ (by rw [← rS hsh]))) ⟨(Ht rfl),(Ht rfl),trivial⟩) ?_)))))))
    refine ro rfl (yN (Ht rfl) (Ht rfl)) (gQ Z_62 (Ht rfl) (Ht rfl) rfl (i:=1) rfl (aK rfl) rfl rfl (ro rfl (cQ (cJ 0)) (eX (bE rfl (fX (fK A_62 Z_62 rfl (i:=1) rfl rfl) ?_) (fX (eU rfl) ?_)))))
    ·exact (Hb he)
    ·exact (aR he.symm)
theorem rJ {z:List Qi} {s:List (List Qi)}:aT Try.prog 71 [mE z s] (NT .i64 z.length):=by
 refine aT.intro Try.func71 rfl Try.ntmps71 rfl (fun cx=>(ts (rn rfl (fG (Ht rfl)) fun B1=>(ro rfl (cQ (cJ 0)) (eX (ts (ro rfl (eZ vK (Ht rfl) rfl) (ro rfl (eY A_59 Z_59 (Ht rfl) (i:=0) rfl rfl) (ro rfl (dG U_59 (Ht rfl) aA) (ra rfl (eX ?_)))))))))))
 exact fW rfl (eU rfl)
theorem Ff {z:List Qi} {s:List (List Qi)} {i:Int}:aT Try.prog 74 [mE z s,aE .i64 i] (aC (decide (1 ≤ i ∧ i ≤ z.length))):=by
 refine aT.intro Try.func74 rfl Try.ntmps74 rfl (fun cx=>(ts (rn rfl (fG (Ht rfl)) fun B2=>(ro rfl (cQ cV) (eX (ts (rm rfl (ro rfl (lU (Ht rfl) cV) (rm rfl (fQ rfl rfl (eK rfl rfl (Ht rfl) (fun h=>cX (Ht rfl))) (fQ rfl rfl (eK rfl rfl (Ht rfl) (fun h=>eZ vK (Ht rfl) rfl)) (fQ rfl rfl (eK rfl rfl (Ht rfl) (fun h=>eY A_59 Z_59 (fJ rfl h) (i:=0) rfl rfl)) (fQ rfl rfl (eK rfl rfl (Ht rfl) (fun h=>dG U_59 (fJ rfl h) aA)) (fQ rfl rfl (eK rfl rfl (Ht rfl) (fun h=>sX (fJ rfl h) (fJ rfl h))) ?_))))))))))))))
 refine ro rfl (eO (Ht rfl) (fun h=>(fJ rfl h))) (ra rfl (eX (fW rfl (fX (eU rfl) ?_))))
 exact (fL (by rw [Bool.eq_iff_iff]; simp))
end
section
open Go Go.RowKit
theorem Kr (a:Addr) (w:World):(Instr.fieldAt 62 (.pointer (some a)) 1).run Try.prog w = .ok (.pointer (some (a.add 1))) w:=by
 simp [Instr.fieldAt,Instr.sureAddr,fieldPlace,Sem.run_bind,Result.andThen,U_62,Z_60]
theorem pN (a:Addr) (w:World):(Instr.fieldAt 70 (.pointer (some a)) 1).run Try.prog w = .ok (.pointer (some (a.add 2))) w:=by
 simp [Instr.fieldAt,Instr.sureAddr,fieldPlace,Sem.run_bind,Result.andThen,U_70,Z_60]
end
section
open Go Go.RowKit
theorem Nc {z:List Qi} {s:List (List Qi)} {i:Int} (hl:z.length ≤ 1000):aT Try.prog 56 [mE z s,aE .i64 i] (eM [aF (Jb z i),aE .i64 (if 1 ≤ i ∧ i ≤ z.length then 0 else 1)]):=by
 refine aT.intro Try.func56 rfl Try.ntmps56 rfl (fun cx=>(ts (rn rfl (fG (Ht rfl)) fun B2=>(rn rfl (eW (Ts:=[Is (.bool false),Is (.slice none 0 0),Is (.bool false),Is (.slice none 0 0),Is (.slice none 0 0)]) O_30 rfl (fun V=>aW zd (aW zd (aW zd (aW zd (aW zd (aG))))))) fun B4=>(ro rfl (cQ (cJ 0)) (eX (cK (ts (ro rfl (eJ A_62 Z_62 (Ht rfl) (i:=0) rfl rfl rfl) (rm rfl (ro rfl (cZ Try.call74 Ff ⟨(Ht rfl),(Ht rfl),trivial⟩) ?_)))))))))))
 refine ro rfl (dL (Ht rfl)) (eX (dQ (Ht rfl) (fun hb=>?_) (fun hb=>?_)))
 ·have hn : ¬ (1 ≤ i ∧ i ≤ (z.length : Int)) := by simpa only [Bool.not_eq_true', decide_eq_false_iff_not] using hb
  refine ts (ro rfl (aB.imp (jL ) fD) (gQ Z_30 (Ht rfl) (Ht rfl) rfl (i:=1) rfl (aK rfl) rfl rfl (ro rfl (cQ (cJ 1)) (eX (bE rfl (fX (fK A_30 Z_30 rfl (i:=1) rfl rfl) ?_) (fX (eU rfl) ?_))))))
  ·exact (dP (by rw [Jb,if_neg hn]))
  ·exact (aR (by rw [if_neg hn]; rfl))
 ·have hp : 1 ≤ i ∧ i ≤ (z.length : Int) := by simpa only [Bool.not_eq_false', decide_eq_true_eq] using hb
  have hq:(i - 1).toNat < z.length:=by omega
  refine cU (ts (ro rfl (eZ vK (Ht rfl) rfl) (ro rfl (eY A_59 Z_59 (Ht rfl) (i:=0) rfl rfl) (rm rfl (ro rfl (iE (Ht rfl) cV (wD zo)) (ro rfl (dZ U_59 Z_30 (Ht rfl) (Ht rfl) (by omega:i - 1 = (((i - 1).toNat:Nat):Int)) (dY (dU (d:=Qi.zero) hq))) (ro rfl (dJ A_30 Z_30 (Ht rfl)) (gQ Z_30 (Ht rfl) (Ht rfl) rfl (i:=1) rfl (aK rfl) rfl rfl (ro rfl (cQ (cJ 0)) (eX (bE rfl (fX (fK A_30 Z_30 rfl (i:=1) rfl rfl) ?_) (fX (eU rfl) ?_))))))))))))
  ·exact (dP (by rw [Jb,if_pos hp]))
  ·exact (aR (by rw [if_pos hp]; rfl))
theorem Ua {z:List Qi} {s:List (List Qi)} {i j:Int} (hs:jI s z.length z.length) (hl:z.length ≤ 1000):aT Try.prog 73 [mE z s,aE .i64 i,aE .i64 j] (eM [aF (Hz z.length s i j),aE .i64 (if (1 ≤ i ∧ i ≤ z.length) ∧ 1 ≤ j ∧ j ≤ z.length then 0 else 1)]):=by
 have hs1:=hs.1
 refine aT.intro Try.func73 rfl Try.ntmps73 rfl (fun cx=>(ts (rn rfl (fG (Ht rfl)) fun B3=>(rn rfl (eW (Ts:=[Is (.bool false),Is (.slice none 0 0),Is (.bool false),Is (.slice none 0 0),Is (.slice none 0 0)]) O_30 rfl (fun V=>aW zd (aW zd (aW zd (aW zd (aW zd (aG))))))) fun B6=>(ro rfl (cQ (cJ 0)) (eX (cK (ts (ro rfl (eJ A_62 Z_62 (Ht rfl) (i:=0) rfl rfl rfl) (rm rfl (ro rfl (cZ Try.call74 Ff ⟨(Ht rfl),(Ht rfl),trivial⟩) ?_)))))))))))
 refine ro rfl (dL (Ht rfl)) (rm rfl (fQ rfl rfl (eK rfl rfl (Ht rfl) (fun h=>eJ A_62 Z_62 (Ht rfl) (i:=0) rfl rfl rfl)) (fQ rfl rfl (eK rfl rfl (Ht rfl) (fun h=>cX (Ht rfl))) (fQ rfl rfl (eK rfl rfl (Ht rfl) (fun h=>cZ Try.call74 Ff ⟨(fJ rfl h),(fJ rfl h),trivial⟩)) (fQ rfl rfl (eK rfl rfl (Ht rfl) (fun h=>dL (fJ rfl h))) (ro rfl (gG (Ht rfl) (fun h=>(fJ rfl h))) (eX (dQ (Ht rfl) (fun hb=>?_) (fun hb=>?_)))))))))
 ·have hn : ¬ ((1 ≤ i ∧ i ≤ (z.length : Int)) ∧ 1 ≤ j ∧ j ≤ (z.length : Int)) := by simp only [Bool.or_eq_true, Bool.not_eq_true', decide_eq_false_iff_not] at hb; exact fun k => hb.elim (fun h => h k.1) (fun h => h k.2)
  refine ts (rn rfl (eW (Ts:=[Is (.bool false),Is (.slice none 0 0),Is (.bool false),Is (.slice none 0 0),Is (.slice none 0 0)]) O_30 rfl (fun V=>aW zd (aW zd (aW zd (aW zd (aW zd (aG))))))) fun B8=>(eX (ts (ro rfl (eJ A_30 Z_30 (Ht rfl) (i:=2) rfl rfl rfl) (gQ Z_30 (Ht rfl) (Ht rfl) rfl (i:=1) rfl (aK rfl) rfl rfl (ro rfl (cQ (cJ 1)) (eX (bE rfl (fX (fK A_30 Z_30 rfl (i:=1) rfl rfl) ?_) (fX (eU rfl) ?_)))))))))
  ·exact (fun v V k=>by rw [Hz,if_neg hn]; exact fD v V k)
  ·exact (aR (by rw [if_neg hn]; rfl))
 ·have hp : (1 ≤ i ∧ i ≤ (z.length : Int)) ∧ 1 ≤ j ∧ j ≤ (z.length : Int) := by simpa only [Bool.or_eq_false_iff, Bool.not_eq_false', decide_eq_true_eq] using hb
  have hq:(i - 1).toNat < s.length:=by omega
  have hq2:(j - 1).toNat < (s.getD (i - 1).toNat []).length:=by rw [hs.row zo]; omega
  refine cU (ts (ro rfl (eZ Kr (Ht rfl) rfl) (ro rfl (eY A_60 Z_60 (Ht rfl) (i:=0) rfl rfl) (rm rfl (ro rfl (iE (Ht rfl) cV (wD zo)) (ro rfl (dZ U_60 Z_59 (Ht rfl) (Ht rfl) (by omega:i - 1 = (((i - 1).toNat:Nat):Int)) (dY (dU (d:=[]) hq))) (ro rfl (dJ A_59 Z_59 (Ht rfl)) (rm rfl (ro rfl (iE (Ht rfl) cV (wD zo)) (ro rfl (dZ U_59 Z_30 (Ht rfl) (Ht rfl) (by omega:j - 1 = (((j - 1).toNat:Nat):Int)) (dY (dU (d:=Qi.zero) hq2))) ?_))))))))))
  refine ro rfl (dJ A_30 Z_30 (Ht rfl)) (gQ Z_30 (Ht rfl) (Ht rfl) rfl (i:=1) rfl (aK rfl) rfl rfl (ro rfl (cQ (cJ 0)) (eX (bE rfl (fX (fK A_30 Z_30 rfl (i:=1) rfl rfl) ?_) (fX (eU rfl) ?_)))))
  ·exact (dP (by rw [Hz,if_pos hp]))
  ·exact (aR (by rw [if_pos hp]; rfl))
theorem Jz {z:List Qi} {s c:List (List Qi)} {i j:Int} (hs:jI c c.length c.length) (hl:c.length ≤ 1000):aT Try.prog 35 [kU z s c,aE .i64 i,aE .i64 j] (eM [aF (Hz c.length c i j),aE .i64 (if (1 ≤ i ∧ i ≤ c.length) ∧ 1 ≤ j ∧ j ≤ c.length then 0 else 1)]):=by
 refine aT.intro Try.func35 rfl Try.ntmps35 rfl (fun cx=>(ts (rn rfl (fG (Ht rfl)) fun B3=>(rn rfl (eW (Ts:=[Is (.bool false),Is (.slice none 0 0),Is (.bool false),Is (.slice none 0 0),Is (.slice none 0 0)]) O_30 rfl (fun V=>aW zd (aW zd (aW zd (aW zd (aW zd (aG))))))) fun B6=>(ro rfl (cQ (cJ 0)) (eX (cK (ts (rm rfl (ro rfl (kW (Ht rfl) cV) (rm rfl (fQ rfl rfl (eK rfl rfl (Ht rfl) (fun h=>cX (Ht rfl))) ?_))))))))))))
 refine fQ rfl rfl (eK rfl rfl (Ht rfl) (fun h=>eZ pN (Ht rfl) rfl)) (fQ rfl rfl (eK rfl rfl (Ht rfl) (fun h=>eY A_60 Z_60 (fJ rfl h) (i:=0) rfl rfl)) (fQ rfl rfl (eK rfl rfl (Ht rfl) (fun h=>dG U_60 (fJ rfl h) aA)) (fQ rfl rfl (eK rfl rfl (Ht rfl) (fun h=>qO (fJ rfl h) (fJ rfl h))) (ro rfl (gG (Ht rfl) (fun h=>(fJ rfl h))) (rm rfl (fQ rfl rfl (eK rfl rfl (Ht rfl) (fun h=>cX (Ht rfl))) (fQ rfl rfl (eK rfl rfl (Ht rfl) (fun h=>kW (fJ rfl h) cV)) ?_)))))))
 refine ro rfl (gG (Ht rfl) (fun h=>(fJ rfl h))) (rm rfl (fQ rfl rfl (eK rfl rfl (Ht rfl) (fun h=>cX (Ht rfl))) (fQ rfl rfl (eK rfl rfl (Ht rfl) (fun h=>eZ pN (Ht rfl) rfl)) (fQ rfl rfl (eK rfl rfl (Ht rfl) (fun h=>eY A_60 Z_60 (fJ rfl h) (i:=0) rfl rfl)) (fQ rfl rfl (eK rfl rfl (Ht rfl) (fun h=>dG U_60 (fJ rfl h) aA)) (fQ rfl rfl (eK rfl rfl (Ht rfl) (fun h=>qO (fJ rfl h) (fJ rfl h))) (ro rfl (gG (Ht rfl) (fun h=>(fJ rfl h))) (eX (dQ (Ht rfl) (fun hb=>?_) (fun hb=>?_))))))))))
 ·have hn : ¬ ((1 ≤ i ∧ i ≤ (c.length : Int)) ∧ 1 ≤ j ∧ j ≤ (c.length : Int)) := by simp only [Bool.or_eq_true, decide_eq_true_eq] at hb; omega
  refine ts (rn rfl (eW (Ts:=[Is (.bool false),Is (.slice none 0 0),Is (.bool false),Is (.slice none 0 0),Is (.slice none 0 0)]) O_30 rfl (fun V=>aW zd (aW zd (aW zd (aW zd (aW zd (aG))))))) fun B8=>(eX (ts (ro rfl (eJ A_30 Z_30 (Ht rfl) (i:=2) rfl rfl rfl) (gQ Z_30 (Ht rfl) (Ht rfl) rfl (i:=1) rfl (aK rfl) rfl rfl (ro rfl (cQ (cJ 1)) (eX (bE rfl (fX (fK A_30 Z_30 rfl (i:=1) rfl rfl) ?_) (fX (eU rfl) ?_)))))))))
  ·exact (fun v V k=>by rw [Hz,if_neg hn]; exact fD v V k)
  ·exact (aR (by rw [if_neg hn]; rfl))
 ·have hp : (1 ≤ i ∧ i ≤ (c.length : Int)) ∧ 1 ≤ j ∧ j ≤ (c.length : Int) := by simp only [Bool.or_eq_false_iff, decide_eq_false_iff_not] at hb; omega
  have hq:(i - 1).toNat < c.length:=by omega
  have hq2:(j - 1).toNat < (c.getD (i - 1).toNat []).length:=by rw [hs.row zo]; omega
  refine cU (ts (ro rfl (eZ pN (Ht rfl) rfl) (ro rfl (eY A_60 Z_60 (Ht rfl) (i:=0) rfl rfl) (rm rfl (ro rfl (iE (Ht rfl) cV (wD zo)) (ro rfl (dZ U_60 Z_59 (Ht rfl) (Ht rfl) (by omega:i - 1 = (((i - 1).toNat:Nat):Int)) (dY (dU (d:=[]) hq))) (ro rfl (dJ A_59 Z_59 (Ht rfl)) (rm rfl (ro rfl (iE (Ht rfl) cV (wD zo)) (ro rfl (dZ U_59 Z_30 (Ht rfl) (Ht rfl) (by omega:j - 1 = (((j - 1).toNat:Nat):Int)) (dY (dU (d:=Qi.zero) hq2))) ?_))))))))))
  refine ro rfl (dJ A_30 Z_30 (Ht rfl)) (gQ Z_30 (Ht rfl) (Ht rfl) rfl (i:=1) rfl (aK rfl) rfl rfl (ro rfl (cQ (cJ 0)) (eX (bE rfl (fX (fK A_30 Z_30 rfl (i:=1) rfl rfl) ?_) (fX (eU rfl) ?_)))))
  ·exact (dP (by rw [Hz,if_pos hp]))
  ·exact (aR (by rw [if_pos hp]; rfl))
end
section
open Go Go.RowKit
theorem Qu:Try.prog.underlying 60 = some (.slice 59):=by kernel_rfl
end
section
open Go Go.RowKit
theorem Cw {m:List (List Rt)} (hm:m.length ≤ 1000) (hr:∀ r,r ∈ m → r.length ≤ 1000):aT Try.prog 33 [Ri m] (eH (rq m)):=by
 refine aT.intro Try.func33 rfl Try.ntmps33 rfl (fun cx=>(ts (ro rfl (cQ cV) (eX (ts (rm rfl (ro rfl (dG U_68 (Ht rfl) aA) (rn rfl (nZ (T:=fA []) (i:=Try.t59) Qu nX rfl rfl (Ht rfl) rfl xT El.one (by show 24 * _ ≤ _; omega) zo) fun B8=>(ra rfl (eX (cK (ts (rm rfl (ro rfl (dG U_68 (Ht rfl) aA) (ro rfl (cX (cJ 0)) (eX (eG ?_)))))))))))))))))
 refine gI (fun (k : Nat) (out : List (List Qi)) => jC (fun i => (m.getD i default).map Rt.q) m.length out k) (fun (k : Nat) (out : List (List Qi)) => m.length - k) (fun (k : Nat) (out : List (List Qi)) => [(3, Is B8), (9, Ri m), (10, NT .i64 m.length), (11, NT .i64 k)]) (fun (k : Nat) (out : List (List Qi)) => [bH 59 1 B8 (out.map fA)]) 0 (List.replicate m.length []) (jC.start _ _ _)
  (zS rfl) (aU (dN (nK fA _ _)) aY) (fun k out hS=>?_)
 refine ts (ro rfl (gX (Ht rfl) (Ht rfl)) (eX (cK (dQ (Ht rfl) (fun hk=>?_) (fun hk=>?_)))))
 ·simp only [decide_eq_true_eq] at hk
  have hlen:=hS.len
  have hrk : (m.getD k default).length ≤ 1000 := by
   have e:m.getD k default = m[k]:=by simp [List.getD,hk]
   rw [e]; exact hr _ (List.getElem_mem hk)
  refine cU (cK (eG (ts (rm rfl (ro rfl (dZ U_68 Try.sizeOf66 (Ht rfl) (Ht rfl) rfl (dY (dU (d:=default) hk))) (ro rfl (dJ Try.isAgg66 Try.sizeOf66 (Ht rfl)) (ra rfl (ra rfl (eX (cY (rm rfl (rm rfl (rm rfl (ro rfl (cZ Try.call32 (tS zo) ⟨(Ht rfl),trivial⟩) (ro rfl (hZ U_60 Z_59 (Ht rfl) (Ht rfl) rfl (i:=0) rfl (by first | omega | (simp; omega)) rfl) (qU Z_59 (Ht rfl) (Ht rfl) El.one (i:=0) rfl rfl (by first | omega | (simp; omega)) rfl (eX (cL (cY ?_)))))))))))))))))))
  refine ro rfl (dV (Ht rfl) (cJ 1) z6) (rm rfl (eX (fU (k + 1,_) (hS.next hk rfl) (by dsimp only; omega) (zS rfl) (aU (dN (kG fA _ _ _)) aY))))
 ·simp only [decide_eq_false_iff_not] at hk
  obtain rfl:k = m.length:=Nat.le_antisymm hS.kle zo
  have hfin:=hS.fin
  rw [tB m (fun r=>r.map Rt.q)] at hfin
  refine gW rfl (gJ (i:=0) (tt:=3) rfl rfl nV (ts (rm rfl (ra rfl (eX (fW rfl (fX (eU rfl) ?_)))))))
  exact (qQ (by rw [hfin]))
end
section
open Go Go.RowKit
theorem zC (v : Value) (w : World) : (method (Try.prog.types.size + Made.depth) 30 v "Of").run Try.prog w = .ok (114, v) w := by kernel_rfl
theorem dT (v:Value) (w:World):(Instr.makeInterface 30 v).run Try.prog w = .ok (.iface 30 v) w:=by
 simp [Instr.makeInterface,Sem.run_bind,Result.andThen,U_30]
end
section
open Go Go.RowKit
theorem yX {x:Qi} {L:Nat} [hx:aH x L] (h:L ≤ 8796093022208):aT Try.prog 14 [aF x] (aC (fT x)):=by
 haveI hz:aH Qi.zero 1:=aH.zero (Nat.le_refl 1)
 rw [← Ms]
 refine aT.intro Try.func14 rfl Try.ntmps14 rfl (fun cx=>(ts (rn rfl (fG (Ht rfl)) fun B1=>(ro rfl (cQ cV) (eX (cK (fZ (m:=5) (dp 1 rfl (eJ A_30 Z_30 (Ht rfl) (i:=0) rfl rfl rfl) (dq 3 0 rfl (cZ K_38 oO ⟨(Ht rfl),trivial⟩) (dq 4 1 rfl (cX (Ht rfl)) (C.D_step (Ei:=[(1,_),(5,_)]) rfl rfl (bV (bK rfl rfl) (bV (bG 2 rfl rfl) bW)) (eK rfl rfl (Ht rfl) (fun h=>eJ A_30 Z_30 (Ht rfl) (i:=0) rfl rfl rfl)) (C.D_step (Ei:=[(5,_)]) rfl rfl (bV (bG 2 rfl rfl) bW) (eK rfl rfl (Ht rfl) (fun h=>cZ K_5 (jJ (n:=0) (by decide) (by decide)) ⟨(cJ 0),trivial⟩)) ?_))))))))))))
 refine fV bA rfl (by kernel_rfl) (zF (aJ (aV (fQ rfl rfl (eK rfl rfl (Ht rfl) (fun h=>cZ K_15 (mG (x:=x) (y:=Qi.zero) (M:=1) zo) ⟨(fJ rfl h),(fJ rfl h),trivial⟩)) (fQ rfl rfl (eK rfl rfl (Ht rfl) (fun h=>lU (fJ rfl h) cV)) (ro rfl (eO (Ht rfl) (fun h=>(fJ rfl h))) (ra rfl (eX ?_))))))))
 exact fW rfl (eU rfl)
theorem Rx {y:Qi}:aT Try.prog 114 [eT [Is (.bool false),Is (.slice none 0 0),Is (.bool false),Is (.slice none 0 0),Is (.slice none 0 0)],aF y] (aF y):=by
 refine aT.intro Try.func114 rfl Try.ntmps114 rfl (fun cx=>(ts (rn rfl (fG (Ht rfl)) fun B2=>(rn rfl (fG (Ht rfl)) fun B3=>(rn rfl (eW (Ts:=[Is (.bool false),Is (.slice none 0 0),Is (.bool false),Is (.slice none 0 0),Is (.slice none 0 0)]) O_30 rfl (fun V=>aW zd (aW zd (aW zd (aW zd (aW zd (aG))))))) fun B4=>(eX (ts (ro rfl (eJ A_30 Z_30 (Ht rfl) (i:=1) rfl rfl rfl) (gQ Z_30 (Ht rfl) (Ht rfl) rfl (i:=2) rfl (aK rfl) rfl rfl ?_)))))))))
 refine eX ?_
 exact fW rfl (fK A_30 Z_30 rfl (i:=2) rfl rfl)
theorem Fh {x:Qi}:aT Try.prog 54 [aF x] (aF x):=by
 refine aT.intro Try.func54 rfl Try.ntmps54 rfl (fun cx=>(ts (rn rfl (fG (Ht rfl)) fun B1=>(rn rfl (eW (Ts:=[Is (.bool false),Is (.slice none 0 0),Is (.bool false),Is (.slice none 0 0),Is (.slice none 0 0)]) O_30 rfl (fun V=>aW zd (aW zd (aW zd (aW zd (aW zd (aG))))))) fun B2=>(eX (ts (rn rfl (eW (Ts:=[Is (.bool false),Is (.slice none 0 0),Is (.bool false),Is (.slice none 0 0),Is (.slice none 0 0)]) O_30 rfl (fun V=>aW zd (aW zd (aW zd (aW zd (aW zd (aG))))))) fun B3=>?_)))))))
 refine eX (ts (ro rfl (eJ A_30 Z_30 (Ht rfl) (i:=2) rfl rfl rfl) (ro rfl (cR dT (Ht rfl)) (ro rfl (eJ A_30 Z_30 (Ht rfl) (i:=0) rfl rfl rfl) (ro rfl (cA zC Try.call114 Rx (Ht rfl) ⟨(Ht rfl),trivial⟩) (gQ Z_30 (Ht rfl) (Ht rfl) rfl (i:=1) rfl (aK rfl) rfl rfl (eX ?_)))))))
 exact fW rfl (fK A_30 Z_30 rfl (i:=1) rfl rfl)
theorem yU {r:List Qi} {k:Nat}:aT Try.prog 91 [fA r,PT (NT .i64 k)] (aC (!decide (r.length = k))):=by
 refine aT.intro Try.func91 rfl Try.ntmps91 rfl (fun cx=>(ts (ro rfl (cQ cV) (eX (ts (rm rfl (ro rfl (dG U_59 (Ht rfl) aA) (ro rfl (dJ Try.isAgg3 Try.sizeOf3 (Ht rfl)) (ro rfl (kS (Ht rfl) (Ht rfl)) (ra rfl (eX ?_)))))))))))
 exact fW rfl (eU rfl)
theorem yT  : aT Try.prog 84 [eH []] (eM [NT .i64 0,aC true]):=by
 refine aT.intro Try.func84 rfl Try.ntmps84 rfl (fun cx=>(ts (ro rfl (cQ (cJ 0)) (ro rfl (cQ cV) (eX (cK (ts (rm rfl (ro rfl (dG U_60 (Ht rfl) aA) (ro rfl (fE (Ht rfl) (cJ 0)) (eX (Ag (Ht rfl) (by rfl) ?_))))))))))))
 refine ts (ro rfl (cQ (cJ 0)) (ro rfl (cQ cV) (eX ?_)))
 exact bE rfl (eU rfl) (eU rfl)
theorem tQ {a:List (List Qi)} {n k:Nat} (h:jI a n k) (h1:1 ≤ n) (hn:n ≤ 32) (hk:k ≤ 32):aT Try.prog 84 [eH a] (eM [NT .i64 k,aC true]):=by
 obtain ⟨rfl,h2⟩:=h
 have hr0:(a.getD 0 []).length = k:=jI.row ⟨rfl,h2⟩ zo
 refine aT.intro Try.func84 rfl Try.ntmps84 rfl (fun cx=>(ts (ro rfl (cQ (cJ 0)) (ro rfl (cQ cV) (eX (cK (ts (rm rfl (ro rfl (dG U_60 (Ht rfl) aA) (ro rfl (fE (Ht rfl) (cJ 0)) (eX (dQ (Ht rfl) (fun hb=>?_) (fun hb=>?_)))))))))))))
 ·simp only [decide_eq_true_eq] at hb
  omega
 ·refine cU (ts (rm rfl (ro rfl (dZ U_60 Z_59 (Ht rfl) (cJ 0) rfl (dY (dU (d := []) zo))) (ro rfl (dJ A_59 Z_59 (Ht rfl)) (ro rfl (dG U_59 (Ht rfl) aA) (rn rfl (eW (Ts := [Is (.int .i64 0)]) Try.zeroValue3 rfl (fun V => aW zd (aG))) fun B4 => (mC Try.sizeOf3 (Ht rfl) (Ht rfl) (i := 0) rfl (aK rfl) rfl (eX (cK (gJ (i := 0) (tt := 4) rfl rfl xH (fZ (m := 15) (dp 4 rfl (dJ Try.isAgg3 Try.sizeOf3 (Ht rfl)) (dp 0 rfl (cX (Ht rfl)) ?_)))))))))))))
  refine dq 13 1 rfl (dG U_60 (Ht rfl) aA) (dq 14 2 rfl (vW (Ht rfl) (cJ 32)) (dq 15 3 rfl (cX (Ht rfl)) (C.D_step (Ei:=[(4,_),(16,_)]) rfl rfl (bV (bK rfl rfl) (bV (bG 4 rfl rfl) bW)) (eK rfl rfl (Ht rfl) (fun h=>dJ Try.isAgg3 Try.sizeOf3 (Ht rfl))) (C.D_step (Ei:=[(17,_),(16,_)]) rfl rfl (bV (bG 5 rfl rfl) (bV (bG 4 rfl rfl) bW)) (eK rfl rfl (Ht rfl) (fun h=>vW (fJ rfl h) (cJ 32))) (fF 16 4 18 6 rfl (eO (Ht rfl) (fun h=>(fJ rfl h))) ?_)))))
  refine dq 19 7 rfl (cX (Ht rfl)) (C.D_step (Ei:=[(0,_),(20,_)]) rfl rfl (bV (bK rfl rfl) (bV (bG 8 rfl rfl) bW)) (eK rfl rfl (Ht rfl) (fun h=>cX (Ht rfl))) (C.D_step (Ei:=[(4,_),(20,_)]) rfl rfl (bV (bK rfl rfl) (bV (bG 8 rfl rfl) bW)) (eK rfl rfl (Ht rfl) (fun h=>Br (γ:=List Qi) (Ts:=fun r=>[fA r]) (U:=fun r=>aC (!decide (r.length = (a.getD 0 []).length))) Try.call91 (fun r=>yU) ⟨(Ht rfl),trivial⟩)) (C.D_step (Ei:=[(21,_),(22,_),(20,_)]) rfl rfl (bV (bG 9 rfl rfl) (bV (bG 10 rfl rfl) (bV (bG 8 rfl rfl) bW))) (eK rfl rfl (Ht rfl) (fun h=>cZ Try.call90 (tJ (l:=a) (T:=fA) (p:=fun r=>!decide (r.length = (a.getD 0 []).length)) zo) ⟨(fJ rfl h),(fJ rfl h),trivial⟩)) ?_)))
  refine C.D_step (Ei:=[(23,_),(20,_)]) rfl rfl (bV (bG 11 rfl rfl) (bV (bG 8 rfl rfl) bW)) (eK rfl rfl (Ht rfl) (fun h=>dL (fJ rfl h))) (fF 20 8 24 12 rfl (eO (Ht rfl) (fun h=>(fJ rfl h))) (dq 12 0 rfl (cQ (Ht rfl)) (fV bA rfl (by kernel_rfl) (zF (zF (zF (aJ (aJ (aJ (aV (ra rfl (eX (bE rfl (fX (eU rfl) ?_) (fX (eU rfl) ?_))))))))))))))
  ·exact (kD hr0)
  ·exact (fL (by rw [hr0,Kk ⟨rfl,h2⟩]; simp; omega))
theorem sD {a:List (List Qi)} {n k:Nat} (h:jI a n k) (h1:1 ≤ n ∨ k = 0) (hn:n ≤ 32) (hk:k ≤ 32):aT Try.prog 84 [eH a] (eM [NT .i64 k,aC true]):=by
 by_cases e:n = 0
 ·subst e
  obtain rfl:=List.length_eq_zero_iff.1 h.1
  rw [show k = 0 by omega]; exact yT
 ·exact tQ h zo hn hk
end
section
open Go Go.RowKit
theorem qZ (v : Value) (w : World) : (method (Try.prog.types.size + Made.depth) 30 v "Add").run Try.prog w = .ok (12, v) w := by kernel_rfl
theorem lR (v : Value) (w : World) : (method (Try.prog.types.size + Made.depth) 30 v "Conj").run Try.prog w = .ok (113, v) w := by kernel_rfl
theorem fC (v : Value) (w : World) : (method (Try.prog.types.size + Made.depth) 30 v "Mul").run Try.prog w = .ok (17, v) w := by kernel_rfl
end
section
open Go Go.RowKit
theorem Fa {a b:List (List Qi)} {n k m L M:Nat} (ha:jI a n k) (hb:jI b k m) (hfa:dA a L) (hfb:dA b M) (hL1:1 ≤ L) (hM1:1 ≤ M) (hL:L ≤ 900000000000) (hM:M ≤ 900000000000) (hn1:1 ≤ n ∨ k = 0) (hk1:1 ≤ k ∨ m = 0) (hn:n ≤ 8) (hk:k ≤ 8) (hm:m ≤ 8):iC Try.prog 75 [eH a,eH b] [] (Nat) (fun B=>eM [Is (.slice (some ⟨B,0,none⟩) n n),aE .i64 0]) (fun B=>[sQ B 59 30 5 (dD aF (rG a b n k m))]) (fun _=>True):=by
 have hal:=ha.1
 have hbl:=hb.1
 refine iC.intro Try.func75 rfl Try.ntmps75 rfl (fun cx Z=>(ts (ro rfl (cQ cV) (ro rfl (cQ (cJ 0)) (eX (ts (rm rfl (ro rfl (cZ Try.call84 (sD ha hn1 zo zo) ⟨(Ht rfl),trivial⟩) (rm rfl (ro rfl (dK (Ht rfl) rfl) (ro rfl (dK (Ht rfl) rfl) (ra rfl (ra rfl (eX (ts (rm rfl (ro rfl (cZ Try.call84 (sD hb hk1 zo zo) ⟨(Ht rfl),trivial⟩) (rm rfl (ro rfl (dK (Ht rfl) rfl) (ro rfl (dK (Ht rfl) rfl) (ra rfl (ra rfl (eX (cK (ts (rm rfl (ro rfl (dL (Ht rfl)) ?_)))))))))))))))))))))))))))
 refine rm rfl (fQ rfl rfl (eK rfl rfl (Ht rfl) (fun h=>cX (Ht rfl))) (fQ rfl rfl (eK rfl rfl (Ht rfl) (fun h=>dL (fJ rfl h))) (ro rfl (gG (Ht rfl) (fun h=>(fJ rfl h))) (rm rfl (fQ rfl rfl (eK rfl rfl (Ht rfl) (fun h=>cX (Ht rfl))) (fQ rfl rfl (eK rfl rfl (Ht rfl) (fun h=>cX (Ht rfl))) (fQ rfl rfl (eK rfl rfl (Ht rfl) (fun h=>dG U_60 (fJ rfl h) aA)) (fQ rfl rfl (eK rfl rfl (Ht rfl) (fun h=>kS (fJ rfl h) (fJ rfl h))) (ro rfl (gG (Ht rfl) (fun h=>(fJ rfl h))) ?_)))))))))
 refine eX (dQ (Ht rfl) (fun h0=>?_) (fun h0=>?_))
 ·exact absurd h0 (by simp [hbl])
 ·refine cU (ts (rm rfl (ro rfl (dG U_60 (Ht rfl) aA) (rn rfl (fP (T := Is (.slice none 0 0)) (i := Try.t59) V_60 nX rfl rfl (Ht rfl) rfl (fun _ => rfl) trivial (by show 24 * _ ≤ _; omega) zo) fun B39 => (ra rfl (eX (cK (ts (rm rfl (ro rfl (jA U_60 (Ht rfl)) (ro rfl (cX (cJ 0)) (eX (eG (sC 1 rfl (rR (e := 30) (s := 5)) ?_))))))))))))))
  refine gA (fun (i : Nat) => i ≤ n) (fun (i : Nat) => n - i) (fun (i : Nat) => [(0, eH a), (1, eH b), (6, NT .i64 k), (8, NT .i64 m), (10, Is (.slice (some ⟨B39, 0, none⟩) n n)), (41, NT .i64 n), (42, NT .i64 i)]) (fun (i : Nat) => [Z, sQ B39 59 30 5 (dD aF (lD (fun i => tab m fun c => rE a b k i c) [] n i))]) 0 (Nat.zero_le _)
   (aQ rfl (aQ rfl (aQ rfl (aQ rfl (aZ rfl (fun v V h=>by rw [← hal]; exact h) (aZ rfl (kD hal) (zS rfl))))))) (aU (fun _ _ _ h=>h) (aU (cP (by rw [← mT,lH,hal]; exact nJ aF n)) aY)) (fun i hi=>?_)
  refine ts (ro rfl (gX (Ht rfl) (Ht rfl)) (eX (cK (dQ (Ht rfl) (fun hd=>?_) (fun hd=>?_)))))
  ·simp only [decide_eq_true_eq] at hd
   have har:=ha.row hd
   refine rI 1 (i) rfl (mO hd) (fun v=>(cU (cK (eG (ts (rm rfl (ra rfl (eX (ts (rm rfl (ro rfl (cX (cJ 0)) (eX (eG ?_)))))))))))))
   refine gI (fun (c : Nat) (v : Value) => c ≤ m) (fun (c : Nat) (v : Value) => m - c) (fun (c : Nat) (v : Value) => [(0, eH a), (1, eH b), (6, NT .i64 k), (8, NT .i64 m), (10, Is (.slice (some ⟨B39, 0, none⟩) n n)), (11, NT .i64 i), (41, NT .i64 n), (42, NT .i64 i), (45, NT .i64 m), (46, NT .i64 c)]) (fun (c : Nat) (v : Value) => [Z, Gs B39 59 30 5 (dD aF (lD (fun i => tab m fun c => rE a b k i c) [] n i)) i v, bH 30 5 v ((tab c fun c => rE a b k i c).map aF)]) 0 v (Nat.zero_le _)
    (zS rfl) (dE.refl _) (fun c v hc=>?_)
   refine ts (ro rfl (gX (Ht rfl) (Ht rfl)) (eX (cK (dQ (Ht rfl) (fun he=>?_) (fun he=>?_)))))
   ·simp only [decide_eq_true_eq] at he
    have hk1:1 ≤ k:=by omega
    have hb0:=hb.row (i:=0) zo
    haveI f1:aH (gm a i 0) L:=hfa.get hL1 i 0
    haveI f2:aH (gm b 0 c) M:=hfb.get hM1 0 c
    refine cU (cK (eG (ts (rm rfl (ra rfl (eX (cK (fZ (m:=15) (dp 0 rfl (cX (Ht rfl)) (dp 11 rfl (cX (Ht rfl)) (fF 49 0 50 1 rfl (dZ U_60 Z_59 (Ht rfl) (Ht rfl) rfl (dY (dU (d:=[]) zo))) (dq 51 2 rfl (dJ A_59 Z_59 (Ht rfl)) (dq 52 3 rfl (dZ U_59 Z_30 (Ht rfl) (cJ 0) rfl (dY (dU (d:=Qi.zero) (by rw [har]; omega)))) ?_)))))))))))))
    refine dq 53 4 rfl (dJ A_30 Z_30 (Ht rfl)) (dq 54 5 rfl (cR dT (Ht rfl)) (dp 1 rfl (cX (Ht rfl)) (dq 56 7 rfl (dZ U_60 Z_59 (Ht rfl) (cJ 0) rfl (dY (dU (d:=[]) zo))) (dq 57 8 rfl (dJ A_59 Z_59 (Ht rfl)) (dp 12 rfl (cX (Ht rfl)) (fF 58 9 59 10 rfl (dZ U_59 Z_30 (Ht rfl) (Ht rfl) rfl (dY (dU (d:=Qi.zero) (by rw [hb0]; omega)))) ?_))))))
    refine dq 60 11 rfl (dJ A_30 Z_30 (Ht rfl)) (fF 55 6 61 12 rfl (cA fC K_17 (mA zo) (Ht rfl) ⟨(Ht rfl),trivial⟩) (C.D_new (Ei:=[]) rfl rfl rfl bW (eW (Ts:=[Is (.bool false),Is (.slice none 0 0),Is (.bool false),Is (.slice none 0 0),Is (.slice none 0 0)]) O_30 rfl (fun V=>aW zd (aW zd (aW zd (aW zd (aW zd (aG))))))) (fV bA rfl (by kernel_rfl) (zF (zF (zF (aJ (aJ (C.F_new (fun B13=>aV ?_))))))))))
    refine gQ Z_30 (Ht rfl) (Ht rfl) rfl (i:=3) rfl (aK rfl) rfl rfl (eX (cK (ts (ro rfl (cQ (cJ 1)) (eX (eG ?_))))))
    refine gA (fun (j : Nat) => 1 ≤ j ∧ j ≤ k) (fun (j : Nat) => k - j) (fun (j : Nat) => [(0, eH a), (1, eH b), (6, NT .i64 k), (8, NT .i64 m), (10, Is (.slice (some ⟨B39, 0, none⟩) n n)), (11, NT .i64 i), (12, NT .i64 c), (13, eI B13 0), (14, NT .i64 j), (41, NT .i64 n), (42, NT .i64 i), (45, NT .i64 m), (46, NT .i64 c)]) (fun (j : Nat) => [Z, Gs B39 59 30 5 (dD aF (lD (fun i => tab m fun c => rE a b k i c) [] n i)) i v, bH 30 5 v ((tab c fun c => rE a b k i c).map aF), box B13 30 [aC (decide ((gM j fun j => gm a i j * gm b j c).a < 0)), aL (gM j fun j => gm a i j * gm b j c).a.natAbs, aC (decide ((gM j fun j => gm a i j * gm b j c).b < 0)), aL (gM j fun j => gm a i j * gm b j c).b.natAbs, aL (du (gM j fun j => gm a i j * gm b j c))]]) 1 ⟨Nat.le_refl _, hk1⟩
     (zS rfl) (aU (fun _ _ _ h=>h) (aU (fun _ _ _ h=>h) (aU (fun _ _ _ h=>h) (aU (bD (by rw [Ir]; rfl)) aY)))) (fun j ⟨hj1,hj⟩=>?_)
    refine cK (ts (rm rfl (rm rfl (ro rfl (gX (Ht rfl) (Ht rfl)) (eX (dQ (Ht rfl) (fun hf=>?_) (fun hf=>?_)))))))
    ·simp only [decide_eq_true_eq] at hf
     haveI f3:aH (gm a i j) L:=hfa.get hL1 i j
     haveI f4:aH (gm b j c) M:=hfb.get hM1 j c
     haveI f5:aH (gM j fun j=>gm a i j * gm b j c) (8 * (L + M) + 17):=Be hfa hfb hL1 hM1 zo i c
     have hbj:=hb.row (i:=j) zo
     refine cU (cK (eG (fZ (m:=18) (dp 13 rfl (eJ A_30 Z_30 (Ht rfl) (i:=3) rfl rfl rfl) (dq 68 0 rfl (cR dT (Ht rfl)) (dp 0 rfl (cX (Ht rfl)) (dp 11 rfl (cX (Ht rfl)) (fF 70 2 71 3 rfl (dZ U_60 Z_59 (Ht rfl) (Ht rfl) rfl (dY (dU (d:=[]) zo))) (dq 72 4 rfl (dJ A_59 Z_59 (Ht rfl)) (dp 14 rfl (cX (Ht rfl)) (fF 73 5 74 6 rfl (dZ U_59 Z_30 (Ht rfl) (Ht rfl) rfl (dY (dU (d:=Qi.zero) (by rw [har]; omega)))) ?_)))))))))))
     refine dq 75 7 rfl (dJ A_30 Z_30 (Ht rfl)) (dq 76 8 rfl (cR dT (Ht rfl)) (dp 1 rfl (cX (Ht rfl)) (dp 14 rfl (cX (Ht rfl)) (fF 78 10 79 11 rfl (dZ U_60 Z_59 (Ht rfl) (Ht rfl) rfl (dY (dU (d:=[]) zo))) (dq 80 12 rfl (dJ A_59 Z_59 (Ht rfl)) (dp 12 rfl (cX (Ht rfl)) (fF 81 13 82 14 rfl (dZ U_59 Z_30 (Ht rfl) (Ht rfl) rfl (dY (dU (d:=Qi.zero) (by rw [hbj]; omega)))) ?_)))))))
     refine dq 83 15 rfl (dJ A_30 Z_30 (Ht rfl)) (fF 77 9 84 16 rfl (cA fC K_17 (mA zo) (Ht rfl) ⟨(Ht rfl),trivial⟩) (fV bA rfl (by kernel_rfl) (zF (zF (zF (zF (aJ (aJ (aV (ro rfl (cA qZ Try.call12 (Ar zo) (Ht rfl) ⟨(Ht rfl),trivial⟩) (gQ Z_30 (Ht rfl) (Ht rfl) rfl (i:=3) rfl (aK rfl) rfl rfl (eX (cL (cY ?_))))))))))))))
     refine rm rfl (ro rfl (dV (Ht rfl) (cJ 1) z6) (ra rfl (eX (fU (j + 1) ⟨by omega,hf⟩ zo (zS rfl) (aU (fun _ _ _ h=>h) (aU (fun _ _ _ h=>h) (aU (fun _ _ _ h=>h) (aU (bD rfl) aY))))))))
    ·simp only [decide_eq_false_iff_not] at hf
     obtain rfl:k = j:=Nat.le_antisymm zo hj
     refine gW rfl (Y.D_startA (m:=9) [] 8 2 rfl rfl (bY (Ei:=[(10,_)]) rfl rfl (bQ (bJ rfl rfl) bX) rfl rfl (dX rfl (cX (Ht rfl))) (bY (Ei:=[(11,_)]) rfl rfl (bQ (bJ rfl rfl) bX) rfl rfl (dX rfl (cX (Ht rfl))) (bY (Ei:=[(10,_)]) rfl rfl (bQ (bJ rfl rfl) bX) rfl rfl (dX rfl (cX (Ht rfl))) (bY (Ei:=[(11,_)]) rfl rfl (bQ (bJ rfl rfl) bX) rfl rfl (dX rfl (cX (Ht rfl))) (bY (Ei:=[(89,_),(90,_)]) rfl rfl (bQ (bZ 2 rfl rfl) (bQ (bZ 3 rfl rfl) bX)) rfl rfl (dX rfl (fY U_60 Z_59 (Ht rfl) (Ht rfl) rfl zo (by rw [Nat.mul_one,Nat.zero_add]))) ?_))))))
     refine bY (Ei:=[(91,_)]) rfl rfl (bQ (bZ 4 rfl rfl) bX) rfl rfl (dX rfl (lV A_59 Z_59 (Ht rfl) (j:=1) rfl)) (bY (Ei:=[(13,_)]) rfl rfl (bQ (bJ rfl rfl) bX) rfl rfl (dX rfl (eJ A_30 Z_30 (Ht rfl) (i:=3) rfl rfl rfl)) (bY (Ei:=[(93,_)]) rfl rfl (bQ (bZ 6 rfl rfl) bX) rfl rfl (dX rfl (dB (xs:=[.tmp 93]) U_59 Z_30 O_30 (cW (Ht rfl) cG) rfl rfl rfl)) (Y.D_app (Ei:=[(92,_),(94,_)]) rfl rfl rfl rfl (bQ (bZ 5 rfl rfl) (bQ (bZ 7 rfl rfl) bX)) rfl (rX (inf:=Try.t30) nQ kO rfl rfl rfl (Ht rfl) (Ht rfl) (by simp) (fun T hT=>by simp at hT; subst hT; exact El.ag rfl) (by show _ * 88 ≤ _; simp only [List.length_map,cC,List.length_cons,List.length_nil]; omega) (by simp only [List.length_map,cC,List.length_cons,List.length_nil]; omega)) ?_)))
     refine Y.D_done bA rfl (by kernel_rfl) rfl (by simp [Y.okP]) rfl rfl (bU (bU (bU (bU (bU (bU (bU (bU (Y.F_app (fun v2=>Y.F_nil ?_))))))))))
     refine ro rfl (fY U_60 Z_59 (Ht rfl) (Ht rfl) rfl zo (by rw [Nat.mul_one,Nat.zero_add])) ?_
     refine wH Z_59 (Ht rfl) (Ht rfl) (by simp only [dD,List.length_map,iI]; omega) (j:=1) (l:=4) rfl rfl rfl ?_
     refine eX (cL (cY (ro rfl (dV (Ht rfl) (cJ 1) z6) (rm rfl (eX (iD [0,1,4] rfl (by decide) (fU (c + 1,v2) he (by dsimp only; omega) (zS rfl) (aU (fun _ _ _ h=>h) (aU (fun _ _ _ h=>h) (aU (dN ((wM aF _ (rE a b k i c)).trans (congrArg _ (tC c (fun c=>rE a b k i c)).symm))) aY))))))))))
   ·simp only [decide_eq_false_iff_not] at he
    obtain rfl:m = c:=Nat.le_antisymm zo hc
    refine gW rfl (cL (iK 1 2 rfl rfl (by decide) (by simp only [dD,List.length_map,iI]; omega) ?_))
    refine cY (ro rfl (dV (Ht rfl) (cJ 1) z6) (rm rfl (eX (iD [0,1] rfl (by decide) (fU (i + 1) hd zo (zS rfl) (aU (fun _ _ _ h=>h) (aU (cP (by rw [jH,← pW (f:=(fun i=>tab m fun c=>rE a b k i c))])) aY)))))))
  ·simp only [decide_eq_false_iff_not] at hd
   obtain rfl:n = i:=Nat.le_antisymm zo hi
   refine gW rfl (ts (rm rfl (ra rfl (ro rfl (cQ (cJ 0)) (eX ?_)))))
   exact jY B39 trivial [0,1] ⟨⟨_,rfl,fun _ _ _ h=>h⟩,⟨_,rfl,(cP (by rw [pV]; rfl))⟩,trivial⟩ (by decide) (Ta rfl (eU rfl) (eU rfl))
theorem At {a b:List (List Qi)} {n k m L M:Nat} (ha:jI a n k) (hb:jI b k m) (hfa:dA a L) (hfb:dA b M) (hL1:1 ≤ L) (hM1:1 ≤ M) (hL:L ≤ 900000000000) (hM:M ≤ 900000000000) (hn1:1 ≤ n) (hk1:1 ≤ k) (hn:n ≤ 8) (hk:k ≤ 8) (hm:m ≤ 8):iC Try.prog 75 [eH a,eH b] [] Nat (fun B=>eM [Is (.slice (some ⟨B,0,none⟩) n n),aE .i64 0]) (fun B=>[sQ B 59 30 5 (dD aF (rG a b n k m))]) (fun _=>True):=Fa ha hb hfa hfb hL1 hM1 hL hM (.inl hn1) (.inl hk1) hn hk hm
theorem Oo {a b:List (List Qi)} {n k m L M:Nat} (ha:jI a n k) (hb:jI b k m) (hfa:dA a L) (hfb:dA b M) (hL1:1 ≤ L) (hM1:1 ≤ M) (hL:L ≤ 900000000000) (hM:M ≤ 900000000000) (hn1:1 ≤ n) (hk1:1 ≤ k) (hn:n ≤ 8) (hk:k ≤ 8) (hm:m ≤ 8):aT Try.prog 75 [eH a,eH b] (eM [eH (rG a b n k m),aE .i64 0]):=(At ha hb hfa hfb hL1 hM1 hL hM hn1 hk1 hn hk hm).fun fun B _ v S V h1 h2=>Ti h1 fun u hu=>kB (s:=5) (M:=rG a b n k m) (cC _ _).symm u S V hu h2
theorem Om {a:List (List Qi)} {n m:Nat} (ha:jI a n m) (hn1:1 ≤ n) (hn:n ≤ 8) (hm:m ≤ 8):iC Try.prog 76 [eH a] [] (Nat) (fun B=>eM [Is (.slice (some ⟨B,0,none⟩) m m),aE .i64 0]) (fun B=>[sQ B 59 30 5 (dD aF (uX a n m))]) (fun _=>True):=by
 have hal:=ha.1
 refine iC.intro Try.func76 rfl Try.ntmps76 rfl (fun cx Z=>(ts (ro rfl (cQ cV) (ro rfl (cQ (cJ 0)) (eX (ts (rm rfl (ro rfl (cZ Try.call84 (tQ ha hn1 zo zo) ⟨(Ht rfl),trivial⟩) (rm rfl (ro rfl (dK (Ht rfl) rfl) (ro rfl (dK (Ht rfl) rfl) (ra rfl (ra rfl (eX (cK (ts (rm rfl (ro rfl (dL (Ht rfl)) (eX (dQ (Ht rfl) (fun h0=>?_) (fun h0=>?_)))))))))))))))))))))
 ·exact absurd h0 (by simp)
 ·refine cU (ts (rm rfl (rn rfl (fP (T := Is (.slice none 0 0)) (i := Try.t59) V_60 nX rfl rfl (Ht rfl) rfl (fun _ => rfl) trivial (by show 24 * _ ≤ _; omega) zo) fun B17 => (ra rfl (eX (cK (ts (rm rfl (ro rfl (jA U_60 (Ht rfl)) (ro rfl (cX (cJ 0)) (eX (eG (sC 1 rfl (rR (e := 30) (s := 5)) ?_)))))))))))))
  refine gA (fun (k : Nat) => k ≤ m) (fun (k : Nat) => m - k) (fun (k : Nat) => [(0, eH a), (6, Is (.slice (some ⟨B17, 0, none⟩) m m)), (19, NT .i64 m), (20, NT .i64 k)]) (fun (k : Nat) => [Z, sQ B17 59 30 5 (dD aF (lD (fun k => tab n fun i => (gm a i k).conj) [] m k))]) 0 (Nat.zero_le _)
   (zS rfl) (aU (fun _ _ _ h=>h) (aU (cP (by rw [← mT,lH]; exact nJ aF m)) aY)) (fun k hk=>?_)
  refine ts (ro rfl (gX (Ht rfl) (Ht rfl)) (eX (cK (dQ (Ht rfl) (fun hd=>?_) (fun hd=>?_)))))
  ·simp only [decide_eq_true_eq] at hd
   refine rI 1 (k) rfl (mO hd) (fun v=>(cU (cK (eG (ts (rm rfl (ra rfl (eX (ts (rm rfl (ro rfl (dG U_60 (Ht rfl) aA) (ro rfl (cX (cJ 0)) (eX (eG ?_))))))))))))))
   refine gI (fun (i : Nat) (v : Value) => i ≤ n) (fun (i : Nat) (v : Value) => n - i) (fun (i : Nat) (v : Value) => [(0, eH a), (6, Is (.slice (some ⟨B17, 0, none⟩) m m)), (7, NT .i64 k), (19, NT .i64 m), (20, NT .i64 k), (24, NT .i64 n), (25, NT .i64 i)]) (fun (i : Nat) (v : Value) => [Z, Gs B17 59 30 5 (dD aF (lD (fun k => tab n fun i => (gm a i k).conj) [] m k)) k v, bH 30 5 v ((tab i fun i => (gm a i k).conj).map aF)]) 0 v (Nat.zero_le _)
    (aQ rfl (aQ rfl (aQ rfl (aQ rfl (aQ rfl (aZ rfl (kD hal) (zS rfl))))))) (dE.refl _) (fun i v hi=>?_)
   refine ts (ro rfl (gX (Ht rfl) (Ht rfl)) (eX (cK (dQ (Ht rfl) (fun he=>?_) (fun he=>?_)))))
   ·simp only [decide_eq_true_eq] at he
    have har:=ha.row he
    refine cU (cK (eG (ts (rm rfl (ra rfl (eX (Y.D_startA (m:=17) [] 16 2 rfl rfl (bY (Ei:=[(6,_)]) rfl rfl (bQ (bJ rfl rfl) bX) rfl rfl (dX rfl (cX (Ht rfl))) (bY (Ei:=[(7,_)]) rfl rfl (bQ (bJ rfl rfl) bX) rfl rfl (dX rfl (cX (Ht rfl))) (bY (Ei:=[(6,_)]) rfl rfl (bQ (bJ rfl rfl) bX) rfl rfl (dX rfl (cX (Ht rfl))) (bY (Ei:=[(7,_)]) rfl rfl (bQ (bJ rfl rfl) bX) rfl rfl (dX rfl (cX (Ht rfl))) (bY (Ei:=[(30,_),(31,_)]) rfl rfl (bQ (bZ 2 rfl rfl) (bQ (bZ 3 rfl rfl) bX)) rfl rfl (dX rfl (fY U_60 Z_59 (Ht rfl) (Ht rfl) rfl zo (by rw [Nat.mul_one,Nat.zero_add]))) ?_))))))))))))
    refine bY (Ei:=[(32,_)]) rfl rfl (bQ (bZ 4 rfl rfl) bX) rfl rfl (dX rfl (lV A_59 Z_59 (Ht rfl) (j:=1) rfl)) (bY (Ei:=[(0,_)]) rfl rfl (bQ (bJ rfl rfl) bX) rfl rfl (dX rfl (cX (Ht rfl))) (bY (Ei:=[(8,_)]) rfl rfl (bQ (bJ rfl rfl) bX) rfl rfl (dX rfl (cX (Ht rfl))) (bY (Ei:=[(34,_),(35,_)]) rfl rfl (bQ (bZ 6 rfl rfl) (bQ (bZ 7 rfl rfl) bX)) rfl rfl (dX rfl (dZ U_60 Z_59 (Ht rfl) (Ht rfl) rfl (dY (dU (d:=[]) zo)))) ?_)))
    refine bY (Ei:=[(36,_)]) rfl rfl (bQ (bZ 8 rfl rfl) bX) rfl rfl (dX rfl (dJ A_59 Z_59 (Ht rfl))) (bY (Ei:=[(7,_)]) rfl rfl (bQ (bJ rfl rfl) bX) rfl rfl (dX rfl (cX (Ht rfl))) (bY (Ei:=[(37,_),(38,_)]) rfl rfl (bQ (bZ 9 rfl rfl) (bQ (bZ 10 rfl rfl) bX)) rfl rfl (dX rfl (dZ U_59 Z_30 (Ht rfl) (Ht rfl) rfl (dY (dU (d:=Qi.zero) (by rw [har]; omega))))) ?_))
    refine bY (Ei:=[(39,_)]) rfl rfl (bQ (bZ 11 rfl rfl) bX) rfl rfl (dX rfl (dJ A_30 Z_30 (Ht rfl))) (bY (Ei:=[(40,_)]) rfl rfl (bQ (bZ 12 rfl rfl) bX) rfl rfl (dX rfl (cR dT (Ht rfl))) (bY (Ei:=[(41,_)]) rfl rfl (bQ (bZ 13 rfl rfl) bX) rfl rfl (dX rfl (cA lR Try.call113 yQ (Ht rfl) trivial)) (bY (Ei:=[(42,_)]) rfl rfl (bQ (bZ 14 rfl rfl) bX) rfl rfl (dX rfl (dB (xs:=[.tmp 42]) U_59 Z_30 O_30 (cW (Ht rfl) cG) rfl rfl rfl)) ?_)))
    refine Y.D_app (Ei:=[(33,_),(43,_)]) rfl rfl rfl rfl (bQ (bZ 5 rfl rfl) (bQ (bZ 15 rfl rfl) bX)) rfl (rX (inf:=Try.t30) nQ kO rfl rfl rfl (Ht rfl) (Ht rfl) (by simp) (fun T hT=>by simp at hT; subst hT; exact El.ag rfl) (by show _ * 88 ≤ _; simp only [List.length_map,cC,List.length_cons,List.length_nil]; omega) (by simp only [List.length_map,cC,List.length_cons,List.length_nil]; omega)) ?_
    refine Y.D_done bA rfl (by kernel_rfl) rfl (by simp [Y.okP]) rfl rfl (bU (bU (bU (bU (bU (bU (bU (bU (bU (bU (bU (bU (bU (bU (bU (bU (Y.F_app (fun v2=>Y.F_nil ?_))))))))))))))))))
    refine ro rfl (fY U_60 Z_59 (Ht rfl) (Ht rfl) rfl zo (by rw [Nat.mul_one,Nat.zero_add])) ?_
    refine wH Z_59 (Ht rfl) (Ht rfl) (by simp only [dD,List.length_map,iI]; omega) (j:=1) (l:=3) rfl rfl rfl ?_
    refine eX (cL (cY (ro rfl (dV (Ht rfl) (cJ 1) z6) (rm rfl (eX (iD [0,1,3] rfl (by decide) (fU (i + 1,v2) he (by dsimp only; omega) (zS rfl) (aU (fun _ _ _ h=>h) (aU (fun _ _ _ h=>h) (aU (dN ((wM aF _ (gm a i k).conj).trans (congrArg _ (tC i (fun i=>(gm a i k).conj)).symm))) aY))))))))))
   ·simp only [decide_eq_false_iff_not] at he
    obtain rfl:n = i:=Nat.le_antisymm zo hi
    refine gW rfl (cL (iK 1 2 rfl rfl (by decide) (by simp only [dD,List.length_map,iI]; omega) ?_))
    refine cY (ro rfl (dV (Ht rfl) (cJ 1) z6) (rm rfl (eX (iD [0,1] rfl (by decide) (fU (k + 1) hd zo (zS rfl) (aU (fun _ _ _ h=>h) (aU (cP (by rw [jH,← pW (f:=(fun k=>tab n fun i=>(gm a i k).conj))])) aY)))))))
  ·simp only [decide_eq_false_iff_not] at hd
   obtain rfl:m = k:=Nat.le_antisymm zo hk
   refine gW rfl (ts (rm rfl (ra rfl (ro rfl (cQ (cJ 0)) (eX ?_)))))
   exact jY B17 trivial [0,1] ⟨⟨_,rfl,fun _ _ _ h=>h⟩,⟨_,rfl,(cP (by rw [pV]; rfl))⟩,trivial⟩ (by decide) (Ta rfl (eU rfl) (eU rfl))
theorem Ru {a:List (List Qi)} {n m:Nat} (ha:jI a n m) (hn1:1 ≤ n) (hn:n ≤ 8) (hm:m ≤ 8):aT Try.prog 76 [eH a] (eM [eH (uX a n m),aE .i64 0]):=(Om ha hn1 hn hm).fun fun B _ v S V h1 h2=>Ti h1 fun u hu=>kB (s:=5) (M:=uX a n m) (cC _ _).symm u S V hu h2
theorem Ka {z:List Qi} {s:List (List Qi)} (hsh:jI s z.length z.length) (hl:z.length ≤ 8):iC Try.prog 55 [mE z s] [] (Nat) (fun B=>Is (.slice (some ⟨B,0,none⟩) z.length z.length)) (fun B=>[sQ B 59 30 5 (dD aF (tab z.length fun i=>tab z.length fun k=>gm s i k))]) (fun _=>True):=by
 refine iC.intro Try.func55 rfl Try.ntmps55 rfl (fun cx Z=>(ts (rn rfl (fG (Ht rfl)) fun B1=>(ro rfl (cQ cV) (eX (ts (ro rfl (eJ A_62 Z_62 (Ht rfl) (i:=1) rfl rfl rfl) (ro rfl (cZ Try.call71 rJ ⟨(Ht rfl),trivial⟩) (rn rfl (fP (T:=Is (.slice none 0 0)) (i:=Try.t59) V_60 nX rfl rfl (Ht rfl) rfl (fun _=>rfl) trivial (by show 24 * _ ≤ _; omega) zo) fun B10=>(ra rfl (eX (cK (ts (rm rfl (ro rfl (jA U_60 (Ht rfl)) (ro rfl (cX (cJ 0)) (eX (eG (sC 2 rfl (rR (e:=30) (s:=5)) ?_)))))))))))))))))))
 refine gA (fun (i : Nat) => i ≤ z.length) (fun (i : Nat) => z.length - i) (fun (i : Nat) => [(1, eI B1 0), (3, Is (.slice (some ⟨B10, 0, none⟩) z.length z.length)), (12, NT .i64 z.length), (13, NT .i64 i)]) (fun (i : Nat) => [Z, box B1 62 [fA z, eH s], sQ B10 59 30 5 (dD aF (lD (fun i => tab z.length fun k => gm s i k) [] z.length i))]) 0 (Nat.zero_le _)
  (zS rfl) (aU (fun _ _ _ h=>h) (aU (fun _ _ _ h=>h) (aU (cP (by rw [← mT,lH]; exact nJ aF z.length)) aY))) (fun i hi=>?_)
 refine ts (ro rfl (gX (Ht rfl) (Ht rfl)) (eX (cK (dQ (Ht rfl) (fun hd=>?_) (fun hd=>?_)))))
 ·simp only [decide_eq_true_eq] at hd
  refine rI 2 (i) rfl (mO hd) (fun v=>(cU (cK (eG (ts (rm rfl (ra rfl (eX (ts (rm rfl (ro rfl (jA U_60 (Ht rfl)) (ro rfl (cX (cJ 0)) (eX (eG ?_))))))))))))))
  refine gI (fun (k : Nat) (v : Value) => k ≤ z.length) (fun (k : Nat) (v : Value) => z.length - k) (fun (k : Nat) (v : Value) => [(1, eI B1 0), (3, Is (.slice (some ⟨B10, 0, none⟩) z.length z.length)), (4, NT .i64 i), (12, NT .i64 z.length), (13, NT .i64 i), (17, NT .i64 z.length), (18, NT .i64 k)]) (fun (k : Nat) (v : Value) => [Z, box B1 62 [fA z, eH s], Gs B10 59 30 5 (dD aF (lD (fun i => tab z.length fun k => gm s i k) [] z.length i)) i v, bH 30 5 v ((tab k fun k => gm s i k).map aF)]) 0 v (Nat.zero_le _)
   (zS rfl) (dE.refl _) (fun k v hk=>?_)
  refine ts (ro rfl (gX (Ht rfl) (Ht rfl)) (eX (cK (dQ (Ht rfl) (fun he=>?_) (fun he=>?_)))))
  ·simp only [decide_eq_true_eq] at he
   refine cU (cK (eG (ts (rm rfl (ra rfl (eX (ts (ro rfl (eJ A_62 Z_62 (Ht rfl) (i:=1) rfl rfl rfl) (rm rfl (ro rfl (dV (Ht rfl) (cJ 1) z6) (rm rfl (ro rfl (dV (Ht rfl) (cJ 1) z6) (ro rfl (cZ Try.call73 (Ua (i:=(i:Int) + 1) (j:=(k:Int) + 1) hsh zo) ⟨(Ht rfl),(Ht rfl),(Ht rfl),trivial⟩) (rm rfl (ro rfl (dK (Ht rfl) rfl) (ro rfl (dK (Ht rfl) rfl) ?_))))))))))))))))
   refine rn rfl (eW (Ts:=[Is (.bool false),Is (.slice none 0 0),Is (.bool false),Is (.slice none 0 0),Is (.slice none 0 0)]) O_30 rfl (fun V=>aW zd (aW zd (aW zd (aW zd (aW zd (aG))))))) fun B6=>gQ Z_30 (Ht rfl) (Ht rfl) rfl (i:=4) rfl (aK rfl) rfl rfl (ra rfl (eX (Y.D_startA (m:=9) [] 8 3 rfl rfl (bY (Ei:=[(3,_)]) rfl rfl (bQ (bJ rfl rfl) bX) rfl rfl (dX rfl (cX (Ht rfl))) ?_))))
   refine bY (Ei:=[(4,_)]) rfl rfl (bQ (bJ rfl rfl) bX) rfl rfl (dX rfl (cX (Ht rfl))) (bY (Ei:=[(3,_)]) rfl rfl (bQ (bJ rfl rfl) bX) rfl rfl (dX rfl (cX (Ht rfl))) (bY (Ei:=[(4,_)]) rfl rfl (bQ (bJ rfl rfl) bX) rfl rfl (dX rfl (cX (Ht rfl))) (bY (Ei:=[(32,_),(33,_)]) rfl rfl (bQ (bZ 2 rfl rfl) (bQ (bZ 3 rfl rfl) bX)) rfl rfl (dX rfl (fY U_60 Z_59 (Ht rfl) (Ht rfl) rfl zo (by rw [Nat.mul_one,Nat.zero_add]))) ?_)))
   refine bY (Ei:=[(34,_)]) rfl rfl (bQ (bZ 4 rfl rfl) bX) rfl rfl (dX rfl (lV A_59 Z_59 (Ht rfl) (j:=2) rfl)) (bY (Ei:=[(6,_)]) rfl rfl (bQ (bJ rfl rfl) bX) rfl rfl (dX rfl (eJ A_30 Z_30 (Ht rfl) (i:=4) rfl rfl rfl)) (bY (Ei:=[(36,_)]) rfl rfl (bQ (bZ 6 rfl rfl) bX) rfl rfl (dX rfl (dB (xs:=[.tmp 36]) U_59 Z_30 O_30 (cW (Ht rfl) cG) rfl rfl rfl)) (Y.D_app (Ei:=[(35,_),(37,_)]) rfl rfl rfl rfl (bQ (bZ 5 rfl rfl) (bQ (bZ 7 rfl rfl) bX)) rfl (rX (inf:=Try.t30) nQ kO rfl rfl rfl (Ht rfl) (Ht rfl) (by simp) (fun T hT=>by simp at hT; subst hT; exact El.ag rfl) (by show _ * 88 ≤ _; simp only [List.length_map,cC,List.length_cons,List.length_nil]; omega) (by simp only [List.length_map,cC,List.length_cons,List.length_nil]; omega)) ?_)))
   refine Y.D_done bA rfl (by kernel_rfl) rfl (by simp [Y.okP]) rfl rfl (bU (bU (bU (bU (bU (bU (bU (bU (Y.F_app (fun v2=>Y.F_nil ?_))))))))))
   refine ro rfl (fY U_60 Z_59 (Ht rfl) (Ht rfl) rfl zo (by rw [Nat.mul_one,Nat.zero_add])) ?_
   refine wH Z_59 (Ht rfl) (Ht rfl) (by simp only [dD,List.length_map,iI]; omega) (j:=2) (l:=5) rfl rfl rfl ?_
   refine eX (cL (cY (ro rfl (dV (Ht rfl) (cJ 1) z6) (rm rfl (eX (iD [0,1,2,5] rfl (by decide) (fU (k + 1,v2) he (by dsimp only; omega) (zS rfl) (aU (fun _ _ _ h=>h) (aU (fun _ _ _ h=>h) (aU (fun _ _ _ h=>h) (aU (dN (by rw [tC,List.map_append,Qf hd he]; rfl)) aY)))))))))))
  ·simp only [decide_eq_false_iff_not] at he
   obtain rfl:k = z.length:=Nat.le_antisymm hk zo
   refine gW rfl (cL (iK 2 3 rfl rfl (by decide) (by simp only [dD,List.length_map,iI]; omega) ?_))
   refine cY (ro rfl (dV (Ht rfl) (cJ 1) z6) (rm rfl (eX (iD [0,1,2] rfl (by decide) (fU (i + 1) hd zo (zS rfl) (aU (fun _ _ _ h=>h) (aU (fun _ _ _ h=>h) (aU (cP (by rw [jH,← pW (f:=(fun i=>tab z.length fun k=>gm s i k))])) aY))))))))
 ·simp only [decide_eq_false_iff_not] at hd
  obtain rfl:i = z.length:=Nat.le_antisymm hi zo
  refine gW rfl (ts (rm rfl (ra rfl (eX ?_))))
  exact jY B10 trivial [0,2] ⟨⟨_,rfl,fun _ _ _ h=>h⟩,⟨_,rfl,(cP (by rw [pV]))⟩,trivial⟩ (by decide) (vZ rfl (eU rfl))
theorem Fi {z : List Qi} {s : List (List Qi)} (hsh : jI s z.length z.length) (hl : z.length ≤ 8) : aT Try.prog 55 [mE z s] (eH s) := (Ka hsh hl).fun fun B _ v S V h1 h2 => by
 have h3:=kB (s:=5) (M:=tab z.length fun i=>tab z.length fun k=>gm s i k) (cC _ _).symm v S V h1 h2
 rw [← rS hsh] at h3; exact h3
theorem Ow {z:List Qi} {s:List (List Qi)} (hl:z.length ≤ 8):aT Try.prog 72 [mE z s] (fA z):=by
 refine aT.intro Try.func72 rfl Try.ntmps72 rfl (fun cx=>(ts (rn rfl (fG (Ht rfl)) fun B1=>(ro rfl (cQ cV) (eX (ts (ro rfl (eJ A_62 Z_62 (Ht rfl) (i:=0) rfl rfl rfl) (ro rfl (cZ Try.call71 rJ ⟨(Ht rfl),trivial⟩) (rn rfl (nZ (T:=aF Qi.zero) (i:=Try.t30) nQ kO rfl rfl (Ht rfl) rfl kE (El.ag rfl) (by show 88 * _ ≤ _; omega) zo) fun B7=>(ra rfl (eX (cK (ts (rm rfl (ro rfl (pY U_59 (Ht rfl) (i:=1) rfl (show ((List.replicate z.length (aF Qi.zero)).length:Int) = ((z.length:Nat):Int) by simp)) ?_)))))))))))))))
 refine ro rfl (cX (cJ 0)) (eX (eG ?_))
 refine gI (fun (k : Nat) (out : List Qi) => jC (fun i => gv z i) z.length out k) (fun (k : Nat) (out : List Qi) => z.length - k) (fun (k : Nat) (out : List Qi) => [(1, eI B1 0), (3, Is B7), (9, NT .i64 z.length), (10, NT .i64 k)]) (fun (k : Nat) (out : List Qi) => [box B1 62 [fA z, eH s], bH 30 5 B7 (out.map aF)]) 0 (List.replicate z.length Qi.zero) (jC.start _ _ _)
  (zS rfl) (aU (fun _ _ _ h=>h) (aU (dN (nK aF _ _)) aY)) (fun k out hS=>?_)
 refine ts (ro rfl (gX (Ht rfl) (Ht rfl)) (eX (cK (dQ (Ht rfl) (fun hk=>?_) (fun hk=>?_)))))
 ·simp only [decide_eq_true_eq] at hk
  have hlen:=hS.len
  refine cU (cK (eG (ts (rm rfl (ra rfl (eX (cY (rm rfl (rm rfl (ro rfl (eJ A_62 Z_62 (Ht rfl) (i:=0) rfl rfl rfl) (rm rfl (ro rfl (dV (Ht rfl) (cJ 1) z6) (ro rfl (cZ Try.call56 (Nc (i:=(k:Int) + 1) zo) ⟨(Ht rfl),(Ht rfl),trivial⟩) (rm rfl (ro rfl (dK (Ht rfl) rfl) (ro rfl (dK (Ht rfl) rfl) (ro rfl (hZ U_59 Z_30 (Ht rfl) (Ht rfl) rfl (i:=1) rfl (by first | omega | (simp; omega)) rfl) (qU Z_30 (Ht rfl) (Ht rfl) (El.ag rfl) (i:=1) rfl rfl (by first | omega | (simp; omega)) rfl ?_))))))))))))))))))
  refine eX (cL (cY (ro rfl (dV (Ht rfl) (cJ 1) z6) (rm rfl (eX (fU (k + 1,_) (hS.next hk (Ia hk)) (by dsimp only; omega) (zS rfl) (aU (fun _ _ _ h=>h) (aU (dN (kG aF _ _ _)) aY))))))))
 ·simp only [decide_eq_false_iff_not] at hk
  obtain rfl:k = z.length:=Nat.le_antisymm hS.kle zo
  have hfin:=hS.fin.trans (xM (l:=z) rfl).symm
  refine gW rfl (gJ (i:=1) (tt:=3) rfl rfl nV (ts (rm rfl (ra rfl (eX (fW rfl (fX (eU rfl) ?_)))))))
  exact (qQ (by rw [hfin]))
end
section
open Go Go.RowKit
theorem Bf (a:Addr) (w:World):(Instr.fieldAt 70 (.pointer (some a)) 0).run Try.prog w = .ok (.pointer (some (a.add 0))) w:=by
 simp [Instr.fieldAt,Instr.sureAddr,fieldPlace,Sem.run_bind,Result.andThen,U_70,Z_62]
theorem xO (v : Value) (w : World) : (method (Try.prog.types.size + Made.depth) 30 v "Div").run Try.prog w = .ok (9, v) w := by kernel_rfl
theorem mR (v : Value) (w : World) : (method (Try.prog.types.size + Made.depth) 30 v "Sub").run Try.prog w = .ok (8, v) w := by kernel_rfl
end
section
open Go Go.RowKit
theorem Fd {p c:List (List Qi)} {n m L:Nat} (hp:jI p n m) (hc:jI c m m) (hfp:dA p L) (hfc:dA c L) (hL1:1 ≤ L) (hL:L ≤ 1000000000) (hn1:1 ≤ n) (hm1:1 ≤ m) (hn:n ≤ 8) (hm:m ≤ 8):iC Try.prog 57 [eH p,eH c] [] (Nat) (fun B=>Is (.slice (some ⟨B,0,none⟩) n n)) (fun B=>[sQ B 59 30 5 (dD aF (jZ p c))]) (fun _=>True):=by
 have hpl:=hp.1
 have hf1:=Gt (n:=n) (m:=m) hfp hfc hL1 hL1 hm
 have hf2:=Ek (n:=n) (m:=m) hfp hL1
 have hs1:jI (rG p c n m m) n m:=Gu
 have hs2:jI (uX p n m) m n:=Em
 refine iC.intro Try.func57 rfl Try.ntmps57 rfl (fun cx Z=>(ts (ro rfl (cQ cV) (eX (cK (ts (rm rfl (ro rfl (dG U_60 (Ht rfl) aA) (ro rfl (fE (Ht rfl) (cJ 0)) (eX (dQ (Ht rfl) (fun h0=>?_) (fun h0=>?_))))))))))))
 ·simp only [decide_eq_true_eq] at h0
  omega
 ·refine cU (ts (rm rfl (rm rfl (ro rfl (cZ Try.call75 (Oo hp hc hfp hfc hL1 hL1 zo zo hn1 hm1 hn hm hm) ⟨(Ht rfl), (Ht rfl), trivial⟩) (rm rfl (ro rfl (dK (Ht rfl) rfl) (ro rfl (dK (Ht rfl) rfl) (ra rfl (ra rfl (eX (ts (rm rfl (ro rfl (cZ Try.call76 (Ru hp hn1 hn hm) ⟨(Ht rfl), trivial⟩) (rm rfl (ro rfl (dK (Ht rfl) rfl) (ro rfl (dK (Ht rfl) rfl) (ra rfl (ra rfl (eX (ts (rm rfl (rm rfl (rH Try.call75 (At (a := rG p c n m m) (b := uX p n m) hs1 hs2 hf1 hf2 zo hL1 zo zo hn1 hm1 hn hm hn) ⟨(Ht rfl), (Ht rfl), trivial⟩ rfl (fun B28 _ => ?_))))))))))))))))))))))))
  refine rm rfl (ro rfl (dK (Ht rfl) rfl) (ro rfl (dK (Ht rfl) rfl) (ra rfl (ra rfl (eX (ts (rm rfl (ra rfl (eX ?_)))))))))
  exact jY B28 trivial [0,1] ⟨⟨_,rfl,fun _ _ _ h=>h⟩,⟨_,rfl,(cP (by rw [Oy hp hc]))⟩,trivial⟩ (by decide) (vZ rfl (eU rfl))
theorem Sa {p c:List (List Qi)} {n m L:Nat} (hp:jI p n m) (hc:jI c m m) (hfp:dA p L) (hfc:dA c L) (hL1:1 ≤ L) (hL:L ≤ 1000000000) (hn1:1 ≤ n) (hm1:1 ≤ m) (hn:n ≤ 8) (hm:m ≤ 8):aT Try.prog 57 [eH p,eH c] (eH (jZ p c)):=(Fd hp hc hfp hfc hL1 hL hn1 hm1 hn hm).fun fun B _ v S V h1 h2=>kB (s:=5) (M:=jZ p c) (by rw [sF.1,hp.1]) v S V h1 h2
theorem Ez {z:List Qi} {s c:List (List Qi)} {g t0:Qi} {L:Nat} (hz:jK z L) (hs:dA s L) (hc:dA c L) (hg:aH g L) (ht:aH t0 L) (hL1:1 ≤ L) (hL:L ≤ 4000) (hsh:jI s z.length z.length) (hch:jI c z.length z.length) (hl:z.length ≤ 8):aT Try.prog 36 [kU z s c,aF g,aF t0] (eM [aF (pO z s c g t0).1,aE .i64 (pO z s c g t0).2]):=by
 haveI:=hg; haveI:=ht
 haveI hz0:aH Qi.zero 1:=aH.zero (Nat.le_refl 1)
 have d1:(dg (((1:Nat):Int)).natAbs).length = 1:=by decide
 have d2:(dg (Int.natAbs 1)).length = 1:=by decide
 have hcl:=hch.1
 refine aT.intro Try.func36 rfl Try.ntmps36 rfl (fun cx=>(ts (rn rfl (fG (Ht rfl)) fun B3=>(rn rfl (fG (Ht rfl)) fun B4=>(rn rfl (fG (Ht rfl)) fun B5=>(rn rfl (eW (Ts:=[Is (.bool false),Is (.slice none 0 0),Is (.bool false),Is (.slice none 0 0),Is (.slice none 0 0)]) O_30 rfl (fun V=>aW zd (aW zd (aW zd (aW zd (aW zd (aG))))))) fun B6=>(ro rfl (cQ (cJ 0)) (eX (ts (rn rfl (eW (Ts:=[Is (.bool false),Is (.slice none 0 0),Is (.bool false),Is (.slice none 0 0),Is (.slice none 0 0)]) O_30 rfl (fun V=>aW zd (aW zd (aW zd (aW zd (aW zd (aG))))))) fun B8=>?_))))))))))
 refine eX (cK (cK (fZ (m:=6) (dp 5 rfl (eJ A_30 Z_30 (Ht rfl) (i:=2) rfl rfl rfl) (dq 18 0 rfl (cZ K_38 oO ⟨(Ht rfl),trivial⟩) (dq 19 1 rfl (dL (Ht rfl)) (dq 20 2 rfl (cX (Ht rfl)) (C.D_step (Ei:=[(5,_),(21,_)]) rfl rfl (bV (bK rfl rfl) (bV (bG 3 rfl rfl) bW)) (eK rfl rfl (Ht rfl) (fun h=>eJ A_30 Z_30 (Ht rfl) (i:=2) rfl rfl rfl)) (C.D_step (Ei:=[(21,_)]) rfl rfl (bV (bG 3 rfl rfl) bW) (eK rfl rfl (Ht rfl) (fun h=>cZ K_5 (jJ (n:=0) (by decide) (by decide)) ⟨(cJ 0),trivial⟩)) ?_)))))))))
 refine fV bA rfl (by kernel_rfl) (zF (aJ (aJ (aV (fQ rfl rfl (eK rfl rfl (Ht rfl) (fun h=>cZ K_15 (mG (x:=t0) (y:=Qi.zero) (M:=1) zo) ⟨(fJ rfl h),(fJ rfl h),trivial⟩)) (fQ rfl rfl (eK rfl rfl (Ht rfl) (fun h=>sX (fJ rfl h) cV)) (ro rfl (gG (Ht rfl) (fun h=>(fJ rfl h))) (eX (dQ (Ht rfl) (fun hb=>?_) (fun hb=>?_))))))))))
 ·rw [Bp] at hb
  simp only [Bool.not_eq_true'] at hb
  have he:pO z s c g t0 = (Qi.zero,1):=by rw [pO,if_pos hb]
  refine ts (ro rfl (eJ A_30 Z_30 (Ht rfl) (i:=4) rfl rfl rfl) (gQ Z_30 (Ht rfl) (Ht rfl) rfl (i:=3) rfl (aK rfl) rfl rfl (ro rfl (cQ (cJ 1)) (eX (bE rfl (fX (fK A_30 Z_30 rfl (i:=3) rfl rfl) ?_) (fX (eU rfl) ?_))))))
  ·exact (fun v V k=>by rw [he]; exact fD v V k)
  ·exact (fun v V k=>by rw [he]; exact k)
 ·rw [Bp] at hb
  simp only [Bool.not_eq_false'] at hb
  have hb2:¬ iQ t0 = false:=by rw [hb]; decide
  refine cU (cK (ts (ro rfl (eZ pN (Ht rfl) rfl) (ro rfl (eY A_60 Z_60 (Ht rfl) (i:=0) rfl rfl) (ro rfl (dG U_60 (Ht rfl) aA) (ro rfl (kS (Ht rfl) (cJ 2)) (eX (dQ (Ht rfl) (fun hd=>?_) (fun hd=>?_)))))))))
  ·have hd2 : z.length ≠ 2 := by rw [← hcl]; simpa using hd
   have he:pO z s c g t0 = (Qi.zero,4):=by rw [pO,if_neg hb2,if_pos hd2]
   refine ts (ro rfl (eJ A_30 Z_30 (Ht rfl) (i:=4) rfl rfl rfl) (gQ Z_30 (Ht rfl) (Ht rfl) rfl (i:=3) rfl (aK rfl) rfl rfl (ro rfl (cQ (cJ 4)) (eX (bE rfl (fX (fK A_30 Z_30 rfl (i:=3) rfl rfl) ?_) (fX (eU rfl) ?_))))))
   ·exact (fun v V k=>by rw [he]; exact fD v V k)
   ·exact (fun v V k=>by rw [he]; exact k)
  ·have hd2 : z.length = 2 := by rw [← hcl]; simpa using hd
   have hd3:¬ z.length ≠ 2:=fun h=>h hd2
   have hsh2:=hsh
   rw [hd2] at hsh hch
   have hs1:=hsh.1
   have hc1:=hch.1
   have hr0:=hsh.row (i:=0) (by decide)
   have hr1:=hsh.row (i:=1) (by decide)
   have hWf:=xC hs hg hL1
   have hW:jI (Gh s g) 1 2:=⟨rfl,fun r hr=>by have:=List.mem_singleton.1 hr; subst this; rfl⟩
   have hXs:jI (jZ (Gh s g) c) 1 1:=sF
   have hX0:=hXs.row (i:=0) (by decide)
   have hp1:=Uq (z:=z) zo
   haveI f1:aH (gm s 1 0) L:=hs.get hL1 1 0
   haveI f2:aH (gm s 0 0) L:=hs.get hL1 0 0
   haveI f3:aH (Jb z ((1:Nat):Int)) L:=by rw [hp1]; exact hz.get hL1 0
   haveI f4:=Gj hs hc hg hL1 zo
   have hpd:gm s 1 0 * (gm s 1 0).conj * (t0 * Jb z ((1:Nat):Int)) * (vS - g * g.conj) = xB z s g t0:=by rw [hp1,Qi.mul_conj_norm,Qi.mul_conj_norm,xB,Qi.mul_assoc']
   refine cU (ts (ro rfl (eZ Bf (Ht rfl) rfl) (ro rfl (eJ A_62 Z_62 (Ht rfl) (i:=0) rfl rfl rfl) (ro rfl (cZ Try.call55 (Fi hsh2 zo) ⟨(Ht rfl),trivial⟩) (ro rfl (cZ K_5 (jJ (n:=1) (by decide) (by decide)) ⟨(cJ 1),trivial⟩) (ro rfl (cZ Try.call54 Fh ⟨(Ht rfl),trivial⟩) (rn rfl (eW (Ts:=[Is (.bool false),Is (.slice none 0 0),Is (.bool false),Is (.slice none 0 0),Is (.slice none 0 0)]) O_30 rfl (fun V=>aW zd (aW zd (aW zd (aW zd (aW zd (aG))))))) fun B10=>?_)))))))
   refine ra rfl (gQ Z_30 (Ht rfl) (Ht rfl) rfl (i:=5) rfl (aK rfl) rfl rfl (eX (ts (ro rfl (eZ Bf (Ht rfl) rfl) (ro rfl (eJ A_62 Z_62 (Ht rfl) (i:=0) rfl rfl rfl) (ro rfl (cZ Try.call56 (Nc (i:=((1:Nat):Int)) zo) ⟨(Ht rfl),(cJ 1),trivial⟩) (rm rfl (ro rfl (dK (Ht rfl) rfl) (ro rfl (dK (Ht rfl) rfl) (rn rfl (eW (Ts:=[Is (.bool false),Is (.slice none 0 0),Is (.bool false),Is (.slice none 0 0),Is (.slice none 0 0)]) O_30 rfl (fun V=>aW zd (aW zd (aW zd (aW zd (aW zd (aG))))))) fun B11=>?_))))))))))
   refine gQ Z_30 (Ht rfl) (Ht rfl) rfl (i:=6) rfl (aK rfl) rfl rfl (ra rfl (eX (cK (qV (E':=[(3,_),(4,_),(5,_),(6,_),(7,_),(8,_),(9,_),(10,_),(11,_)]) (zS rfl) (fZ (m:=18) (dp 9 rfl (cX (Ht rfl)) (dq 44 0 rfl (dZ U_60 Z_59 (Ht rfl) (cJ 1) rfl (dY (dU (d:=[]) zo))) (dq 45 1 rfl (dJ A_59 Z_59 (Ht rfl)) (dq 46 2 rfl (dZ U_59 Z_30 (Ht rfl) (cJ 0) rfl (dY (dU (d:=Qi.zero) (by rw [hr1]; decide)))) ?_)))))))))
   refine dq 47 3 rfl (dJ A_30 Z_30 (Ht rfl)) (dq 48 4 rfl (cR dT (Ht rfl)) (dp 4 rfl (eJ A_30 Z_30 (Ht rfl) (i:=1) rfl rfl rfl) (fF 49 5 50 6 rfl (cA fC K_17 (mA zo) (Ht rfl) ⟨(Ht rfl),trivial⟩) (dp 10 rfl (eJ A_30 Z_30 (Ht rfl) (i:=5) rfl rfl rfl) (dq 52 8 rfl (cR dT (Ht rfl)) (dp 4 rfl (eJ A_30 Z_30 (Ht rfl) (i:=1) rfl rfl rfl) (dq 54 10 rfl (cR dT (Ht rfl)) (dp 9 rfl (cX (Ht rfl)) (dq 56 12 rfl (dZ U_60 Z_59 (Ht rfl) (cJ 0) rfl (dY (dU (d:=[]) zo))) ?_)))))))))
   refine dq 57 13 rfl (dJ A_59 Z_59 (Ht rfl)) (dq 58 14 rfl (dZ U_59 Z_30 (Ht rfl) (cJ 0) rfl (dY (dU (d:=Qi.zero) (by rw [hr0]; decide)))) ?_)
   refine dq 59 15 rfl (dJ A_30 Z_30 (Ht rfl)) (fF 55 11 60 16 rfl (cA fC K_17 (mA zo) (Ht rfl) ⟨(Ht rfl),trivial⟩) (fV bA rfl (by kernel_rfl) (zF (zF (zF (zF (aJ (aJ (aV (ro rfl (cA mR K_8 (qW zo) (Ht rfl) ⟨(Ht rfl),trivial⟩) (ro rfl (dB (xs:=[.tmp 51,.tmp 62]) U_59 Z_30 O_30 (cW (Ht rfl) (cW (Ht rfl) cG)) rfl rfl rfl) ?_)))))))))))
   refine ro rfl (dB (xs:=[.tmp 63]) U_60 Z_59 Try.zeroValue59 (cW (Ht rfl) cG) rfl rfl rfl) (ra rfl (eX (cK (qV (E':=[(3,_),(4,_),(5,_),(6,_),(7,_),(8,_),(9,_),(10,_),(11,_),(13,_)]) (zS rfl) (cY (rm rfl (ro rfl (eZ pN (Ht rfl) rfl) (ro rfl (eY A_60 Z_60 (Ht rfl) (i:=0) rfl rfl) (ro rfl (cZ Try.call57 (Sa (p:=Gh s g) (c:=c) (n:=1) (m:=2) (L:=2 * L + 4) hW hch hWf (hc.le zo) zo zo (by decide) (by decide) (by decide) (by decide)) ⟨(Ht rfl),(Ht rfl),trivial⟩) ?_)))))))))
   refine ro rfl (dZ U_60 Z_59 (Ht rfl) (cJ 0) rfl (dY (dU (d:=[]) (by rw [hXs.1]; decide)))) ?_
   refine ro rfl (dJ A_59 Z_59 (Ht rfl)) (ro rfl (dZ U_59 Z_30 (Ht rfl) (cJ 0) rfl (dY (dU (d:=Qi.zero) (by rw [hX0]; decide)))) ?_)
   refine ro rfl (dJ A_30 Z_30 (Ht rfl)) (rn rfl (eW (Ts:=[Is (.bool false),Is (.slice none 0 0),Is (.bool false),Is (.slice none 0 0),Is (.slice none 0 0)]) O_30 rfl (fun V=>aW zd (aW zd (aW zd (aW zd (aW zd (aG))))))) fun B14=>(gQ Z_30 (Ht rfl) (Ht rfl) rfl (i:=7) rfl (aK rfl) rfl rfl (eX (cK (qV (E':=[(3,_),(4,_),(5,_),(6,_),(7,_),(8,_),(9,_),(10,_),(11,_),(14,_)]) (zS rfl) ?_)))))
   refine fZ (m:=32) (dp 9 rfl (cX (Ht rfl)) (dq 73 0 rfl (dZ U_60 Z_59 (Ht rfl) (cJ 1) rfl (dY (dU (d:=[]) zo))) (dq 74 1 rfl (dJ A_59 Z_59 (Ht rfl)) (dq 75 2 rfl (dZ U_59 Z_30 (Ht rfl) (cJ 0) rfl (dY (dU (d:=Qi.zero) (by rw [hr1]; decide)))) ?_))))
   refine dq 76 3 rfl (dJ A_30 Z_30 (Ht rfl)) (dq 77 4 rfl (cR dT (Ht rfl)) (dp 9 rfl (cX (Ht rfl)) (dq 79 6 rfl (dZ U_60 Z_59 (Ht rfl) (cJ 1) rfl (dY (dU (d:=[]) zo))) (dq 80 7 rfl (dJ A_59 Z_59 (Ht rfl)) (dq 81 8 rfl (dZ U_59 Z_30 (Ht rfl) (cJ 0) rfl (dY (dU (d:=Qi.zero) (by rw [hr1]; decide)))) ?_)))))
   refine dq 82 9 rfl (dJ A_30 Z_30 (Ht rfl)) (dq 83 10 rfl (cR dT (Ht rfl)) (dq 84 11 rfl (cA lR Try.call113 yQ (Ht rfl) trivial) (fF 78 5 85 12 rfl (cA fC K_17 (mA zo) (Ht rfl) ⟨(Ht rfl),trivial⟩) (dq 86 13 rfl (cR dT (Ht rfl)) (dp 5 rfl (eJ A_30 Z_30 (Ht rfl) (i:=2) rfl rfl rfl) (dp 11 rfl (eJ A_30 Z_30 (Ht rfl) (i:=6) rfl rfl rfl) (fF 88 15 89 16 rfl (cZ K_17 (mA zo) ⟨(Ht rfl),(Ht rfl),trivial⟩) (dq 90 17 rfl (cZ Try.call54 Fh ⟨(Ht rfl),trivial⟩) ?_))))))))
   refine fF 87 14 91 18 rfl (cA fC K_17 (mA zo) (Ht rfl) ⟨(Ht rfl),trivial⟩) (dq 92 19 rfl (cR dT (Ht rfl)) (dp 10 rfl (eJ A_30 Z_30 (Ht rfl) (i:=5) rfl rfl rfl) (dq 94 21 rfl (cR dT (Ht rfl)) (dp 4 rfl (eJ A_30 Z_30 (Ht rfl) (i:=1) rfl rfl rfl) (dq 96 23 rfl (cR dT (Ht rfl)) (dp 4 rfl (eJ A_30 Z_30 (Ht rfl) (i:=1) rfl rfl rfl) (dq 98 25 rfl (cR dT (Ht rfl)) (dq 99 26 rfl (cA lR Try.call113 yQ (Ht rfl) trivial) (fF 97 24 100 27 rfl (cA fC K_17 (mA zo) (Ht rfl) ⟨(Ht rfl),trivial⟩) ?_)))))))))
   refine fF 95 22 101 28 rfl (cA mR K_8 (qW zo) (Ht rfl) ⟨(Ht rfl),trivial⟩) (fF 93 20 102 29 rfl (cA fC K_17 (mA zo) (Ht rfl) ⟨(Ht rfl),trivial⟩) (C.D_new (Ei:=[]) rfl rfl rfl bW (eW (Ts:=[Is (.bool false),Is (.slice none 0 0),Is (.bool false),Is (.slice none 0 0),Is (.slice none 0 0)]) O_30 rfl (fun V=>aW zd (aW zd (aW zd (aW zd (aW zd (aG))))))) (fV bA rfl (by kernel_rfl) (zF (zF (zF (zF (zF (zF (zF (aJ (aJ (aJ (C.F_new (fun B15=>aV ?_)))))))))))))))
   refine gQ Z_30 (Ht rfl) (Ht rfl) rfl (i:=8) rfl (aK rfl) rfl rfl (eX (cK (qV (E':=[(6,_),(7,_),(8,_),(10,_),(14,_),(15,_)]) (zS rfl) (cY (ro rfl (eJ A_30 Z_30 (Ht rfl) (i:=7) rfl rfl rfl) (ro rfl (cR dT (Ht rfl)) (ro rfl (eJ A_30 Z_30 (Ht rfl) (i:=8) rfl rfl rfl) (ro rfl (cA xO Try.call9 (Ey (x:=Gi s c g) (y:=gm s 1 0 * (gm s 1 0).conj * (t0 * Jb z ((1:Nat):Int)) * (vS - g * g.conj)) zo) (Ht rfl) ⟨(Ht rfl),trivial⟩) ?_))))))))
   refine rm rfl (ro rfl (dK (Ht rfl) rfl) (ro rfl (dK (Ht rfl) rfl) (rn rfl (eW (Ts:=[Is (.bool false),Is (.slice none 0 0),Is (.bool false),Is (.slice none 0 0),Is (.slice none 0 0)]) O_30 rfl (fun V=>aW zd (aW zd (aW zd (aW zd (aW zd (aG))))))) fun B16=>(gQ Z_30 (Ht rfl) (Ht rfl) rfl (i:=9) rfl (aK rfl) rfl rfl (ra rfl (eX (cK (cK (qV (E':=[(6,_),(7,_),(8,_),(10,_),(16,_),(17,_)]) (zS rfl) ?_)))))))))
   refine cY (rm rfl (ro rfl (oU (Ht rfl) cV) (eX (dQ (Ht rfl) (fun hk=>?_) (fun hk=>?_)))))
   ·rw [hpd] at hk
    have hk2 : xB z s g t0 = Qi.zero := by
     by_cases h:xB z s g t0 = Qi.zero
     ·exact h
     ·rw [if_neg h] at hk; exact absurd hk (by decide)
    have he:pO z s c g t0 = (Qi.zero,3):=by rw [pO,if_neg hb2,if_neg hd3,if_pos hk2]
    refine ts (ro rfl (eJ A_30 Z_30 (Ht rfl) (i:=4) rfl rfl rfl) (gQ Z_30 (Ht rfl) (Ht rfl) rfl (i:=3) rfl (aK rfl) rfl rfl (ro rfl (cQ (cJ 3)) (eX (bE rfl (fX (fK A_30 Z_30 rfl (i:=3) rfl rfl) ?_) (fX (eU rfl) ?_))))))
    ·exact (fun v V k=>by rw [he]; exact fD v V k)
    ·exact (fun v V k=>by rw [he]; exact k)
   ·have hk2 : ¬ xB z s g t0 = Qi.zero := fun h => by rw [hpd, if_pos h] at hk; exact absurd hk (by decide)
    have he:pO z s c g t0 = (vS + Gi s c g / xB z s g t0,0):=by rw [pO,if_neg hb2,if_neg hd3,if_neg hk2]
    have hv:vS + Gi s c g / (gm s 1 0 * (gm s 1 0).conj * (t0 * Jb z ((1:Nat):Int)) * (vS - g * g.conj)) = (pO z s c g t0).1:=by rw [he,hpd]
    refine cU (ts (ro rfl (eJ A_30 Z_30 (Ht rfl) (i:=5) rfl rfl rfl) (ro rfl (cR dT (Ht rfl)) (ro rfl (eJ A_30 Z_30 (Ht rfl) (i:=9) rfl rfl rfl) (ro rfl (cA qZ Try.call12 (Ar zo) (Ht rfl) ⟨(Ht rfl),trivial⟩) (gQ Z_30 (Ht rfl) (Ht rfl) rfl (i:=3) rfl (aK rfl) rfl rfl (ro rfl (cQ (cJ 0)) (eX (bE rfl (fX (fK A_30 Z_30 rfl (i:=3) rfl rfl) ?_) (fX (eU rfl) ?_))))))))))
    ·exact (dP hv)
    ·exact (fun v V k=>by rw [he]; exact k)
end
section
open Go Go.RowKit
theorem Jt {n:Nat} (h:n < 4294967296):aT Try.prog 94 [NT .u64 1,NT .u64 n] (eM [NT .u64 0,NT .u64 n]):=by
 refine aT.intro Try.func94 rfl Try.ntmps94 rfl (fun cx=>(ts (ro rfl (cQ (cJ 0)) (ro rfl (cQ (cJ 0)) (eX (ts (rm rfl (ro rfl (aB.nat (lT rfl (Ht rfl) (cJ 4294967295) z7 z7) (show (1:Nat) &&& 4294967295 = 1 by decide)) (ra rfl (eX (ts (rm rfl (ro rfl (aB.nat (eA (Ht rfl) (cJ 32) (by decide)) (show (1:Nat) / 2 ^ 32 = 0 by decide)) (ra rfl (eX (ts (rm rfl (ro rfl (aB.nat (lT rfl (Ht rfl) (cJ 4294967295) z7 z7) (show n &&& 4294967295 = n from (Nat.and_two_pow_sub_one_eq_mod n 32).trans (Nat.mod_eq_of_lt h))) ?_))))))))))))))))))
 refine ra rfl (eX (ts (rm rfl (ro rfl (aB.nat (eA (Ht rfl) (cJ 32) (by decide)) (show n / 2 ^ 32 = 0 from Nat.div_eq_of_lt h)) (ra rfl (eX (ts (rm rfl (rm rfl (ro rfl (aB.nat (iO (Ht rfl) (Ht rfl) z7) (Nat.one_mul n)) (ra rfl (eX (ts (rm rfl (rm rfl (ro rfl (aB.nat (iO (Ht rfl) (Ht rfl) z7) (Nat.zero_mul n)) (rm rfl (ro rfl (aB.nat (eA (Ht rfl) (cJ 32) (by decide)) (show n / 2 ^ 32 = 0 from Nat.div_eq_of_lt h)) ?_))))))))))))))))))
 refine ro rfl (dV (Ht rfl) (Ht rfl) z7) (ra rfl (eX (ts (rm rfl (ro rfl (aB.nat (lT rfl (Ht rfl) (cJ 4294967295) z7 z7) (show (0 + 0:Nat) &&& 4294967295 = 0 by decide)) (ra rfl (eX (ts (rm rfl (ro rfl (aB.nat (eA (Ht rfl) (cJ 32) (by decide)) (show (0 + 0:Nat) / 2 ^ 32 = 0 by decide)) (ra rfl (eX (ts (rm rfl (rm rfl (rm rfl ?_))))))))))))))))
 refine ro rfl (aB.nat (iO (Ht rfl) (Ht rfl) z7) (show (1 * 0:Nat) = 0 by decide)) (ro rfl (dV (Ht rfl) (Ht rfl) z7) (ra rfl (eX (ts (rm rfl (rm rfl (ro rfl (aB.nat (iO (Ht rfl) (Ht rfl) z7) (show (0 * 0:Nat) = 0 by decide)) (rm rfl (ro rfl (dV (Ht rfl) (Ht rfl) z7) ?_)))))))))
 refine rm rfl (ro rfl (aB.nat (eA (Ht rfl) (cJ 32) (by decide)) (show (0 + 0:Nat) / 2 ^ 32 = 0 by decide)) (ro rfl (dV (Ht rfl) (Ht rfl) z7) (ra rfl (eX (ts (rm rfl (rm rfl (ro rfl (aB.nat (iO (Ht rfl) (Ht rfl) z7) (Nat.one_mul n)) (ra rfl (eX (bE rfl (fX (eU rfl) ?_) (eU rfl))))))))))))
 exact (kD (by decide))
theorem Ot {n:Nat} (h:n < 4294967296):aT Try.prog 89 [NT .u64 1,NT .u64 n] (eM [NT .u64 0,NT .u64 n]):=by
 refine aT.intro Try.func89 rfl Try.ntmps89 rfl (fun cx=>(ts (ro rfl (cQ (cJ 0)) (ro rfl (cQ (cJ 0)) (eX (cK (dQ cV (fun hf=>?_) (fun hf=>?_))))))))
 ·exact absurd hf (by decide)
 ·refine cU (ts (rm rfl (rm rfl (ro rfl (cZ Try.call94 (Jt h) ⟨(Ht rfl), (Ht rfl), trivial⟩) (rm rfl (ro rfl (dK (Ht rfl) rfl) (ro rfl (dK (Ht rfl) rfl) (ra rfl (ra rfl (eX (ts (rm rfl (rm rfl (ra rfl (ra rfl (eX ?_))))))))))))))))
  exact bE rfl (eU rfl) (eU rfl)
theorem Oq {m:Nat} (h1:1 ≤ m) (hm:m ≤ 1000):iC Try.prog 83 [fA [Qi.zero],NT .i64 m] [] ({v:Value // iU v}) (fun v=>Is v.1) (fun v=>[bH 30 5 v.1 ((tab m fun _=>Qi.zero).map aF)]) (fun _=>True):=by
 refine iC.intro Try.func83 rfl Try.ntmps83 rfl (fun cx Z=>(ts (ro rfl (cQ cV) (eX (cK (ts (rm rfl (ro rfl (gX (Ht rfl) (cJ 0)) (eX (dQ (Ht rfl) (fun h0=>?_) (fun h0=>?_)))))))))))
 ·simp only [decide_eq_true_eq] at h0
  omega
 ·refine cU (ts (rm rfl (ro rfl (dG U_59 (Ht rfl) (show (([Qi.zero].map aF).length : Int) = ((1 : Nat) : Int) from rfl)) (ro rfl (gZ U_3 U_83 (Ht rfl) z7) (rm rfl (ro rfl (gZ U_3 U_83 (Ht rfl) z7) (ro rfl (cZ Try.call89 (Ot zo) ⟨(Ht rfl), (Ht rfl), trivial⟩) (rm rfl (ro rfl (dK (Ht rfl) rfl) (ro rfl (dK (Ht rfl) rfl) ?_))))))))))
  refine ra rfl (ra rfl (eX (cK (ts (rm rfl (ro rfl (gC (Ht rfl) (cJ 0)) (rm rfl (fQ rfl rfl (eK rfl rfl (Ht rfl) (fun h=>cX (Ht rfl))) (fQ rfl rfl (eK rfl rfl (Ht rfl) (fun h=>gC (fJ rfl h) (cJ 9223372036854775807))) (ro rfl (gG (Ht rfl) (fun h=>(fJ rfl h))) (eX (dQ (Ht rfl) (fun h2=>?_) (fun h2=>?_)))))))))))))
  ·simp only [Bool.or_eq_true, decide_eq_true_eq] at h2
   omega
  ·refine cU (ts (rm rfl (ro rfl (gZ U_83 U_3 (Ht rfl) z6) (Jf (T := aF Qi.zero) (i := Try.t30) nQ kO rfl rfl (Ht rfl) rfl kE (El.ag rfl) (by show 88 * _ ≤ _; omega) zo rfl (fun B30 hB30 => (ra rfl (eX (ts (rm rfl (rm rfl (ro rfl (Hl (q := 1) (T := aF Qi.zero) U_59 Z_30 (i := 1) rfl (Ht rfl) (Ht rfl) (by decide) (El.ag rfl) zo) (ra rfl (eX (cK (eG ?_)))))))))))))))
   refine gA (fun (k : Nat) => 1 ≤ k ∧ k ≤ m) (fun (k : Nat) => m - k) (fun (k : Nat) => [(7, Is B30), (8, NT .i64 k)]) (fun (k : Nat) => [Z, bH 30 5 B30 (List.replicate m (aF Qi.zero))]) (Nat.min 1 m) ⟨by show 1 ≤ min 1 m; omega, by show min 1 m ≤ m; omega⟩
    (zS rfl) (dE.refl _) (fun k ⟨hk1,hk⟩=>?_)
   refine cK (ts (rm rfl (rm rfl (ro rfl (pY U_59 (Ht rfl) (i:=1) rfl (show ((List.replicate m (aF Qi.zero)).length:Int) = ((m:Nat):Int) by simp)) (ro rfl (gX (Ht rfl) (Ht rfl)) (eX (dQ (Ht rfl) (fun hd=>?_) (fun hd=>?_))))))))
   ·simp only [decide_eq_true_eq] at hd
    have hlen:(List.replicate m (aF Qi.zero)).length = m:=by simp
    have h5:Nat.min k ((List.replicate m (aF Qi.zero)).length - k) = min k (m - k):=by rw [hlen]
    refine cU (eG (fZ (m:=8) (dp 8 rfl (cX (Ht rfl)) (dp 7 rfl (cX (Ht rfl)) (dp 8 rfl (cX (Ht rfl)) (fF 39 1 40 2 rfl (Hv U_59 Z_30 (Ht rfl) (Ht rfl) rfl (i:=1) rfl (by rw [hlen]; exact hd)) ?_))))))
    refine dp 7 rfl (cX (Ht rfl)) (dp 8 rfl (cX (Ht rfl)) (fF 42 4 43 5 rfl (Hu U_59 Z_30 (Ht rfl) (Ht rfl) rfl (i:=1) rfl (by rw [hlen]; omega) (by rw [hlen]; omega)) ?_))
    refine fF 41 3 44 6 rfl (zJ (T:=aF Qi.zero) U_59 Z_30 (i:=1) rfl (Ht rfl) (Ht rfl)) (fV bA rfl (by kernel_rfl) (zF (zF (aV (ro rfl (dV (Ht rfl) (Ht rfl) (by show _ < 9223372036854775808; omega)) (ra rfl (eX (cL (fU (k + Nat.min k ((List.replicate m (aF Qi.zero)).length - k)) ⟨by omega,by omega⟩ zo (zS rfl) (dE.refl _))))))))))
   ·refine gW rfl (ts (rm rfl (ra rfl (eX ?_))))
    exact jY ⟨B30,hB30⟩ trivial [0,1] ⟨⟨_,rfl,fun _ _ _ h=>h⟩,⟨_,rfl,(dN (by rw [lH,nK]))⟩,trivial⟩ (by decide) (vZ rfl (eU rfl))
end
section
open Go Go.RowKit
theorem Jn {n : Nat} {E : bC} {H : Hp} {d : Option Tmp} {t : TypeId} {pos : String} {af : Array Edge} {g : Option (Nat × Bool)}  :
  aB Try.prog n E H ⟨d,.build 70 #[],t,pos,af,g⟩ (eT [Is (.slice none 0 0),Is (.slice none 0 0),Is (.slice none 0 0)]) :=
 gE (parts := []) fun a V w hs => by
  refine ⟨.agg #[(.slice none 0 0),(.slice none 0 0),(.slice none 0 0)],?_,[(.slice none 0 0),(.slice none 0 0),(.slice none 0 0)],rfl,aW (⟨rfl,trivial⟩) (aW (⟨rfl,trivial⟩) (aW (⟨rfl,trivial⟩) (aG)))⟩
  simp [Instr.build,Instr.fill,Sem.run_bind,Result.andThen,eS,O_70,U_70,Z_60,Z_62]
theorem yO {n : Nat} {E : bC} {H : Hp} {d : Option Tmp} {t : TypeId} {pos : String} {af : Array Edge} {g : Option (Nat × Bool)} {x0 x1 : Operand} {T0 T1 T2 : Ty} (h0 : aI E x0 (eT [T0, T1])) [s1 : cB T2 1 false] (h1 : aI E x1 T2) :
  aB Try.prog n E H ⟨d,.build 70 #[(0,x0),(1,x1)],t,pos,af,g⟩ (eT [T0,T1,T2]) :=
 gE (parts := [(0, x0), (1, x1)]) fun a V w hs => by
  obtain ⟨v0,e0,c0⟩:=h0 n V a hs
  obtain ⟨c0_0,c0_1,rfl⟩:∃ c0_0 c0_1,v0 = [c0_0,c0_1]:=Bm (by simpa using c0.length)
  have p1:=h1 n V a hs
  generalize e1:a.eval x1 = v1 at p1
  have q1:=(s1.ok v1 V p1).2.2 rfl
  refine ⟨.agg #[c0_0,c0_1,v1],?_,[c0_0,c0_1,v1],rfl,aW (c0.at (i:=0) rfl rfl) (aW (c0.at (i:=1) rfl rfl) (aW (⟨p1,q1⟩) (aG)))⟩
  simp [e0,e1,Instr.build,Instr.fill,Sem.run_bind,Result.andThen,eS,q1.cells,O_70,U_70,Z_60,Z_62]
end
section
open Go Go.RowKit
theorem Fk {n:Nat} (hn:n ≤ 1000):iC Try.prog 70 [NT .i64 n,NT .i64 n] [] (Nat) (fun B=>Is (.slice (some ⟨B,0,none⟩) n n)) (fun B=>[lC iU B 59 30 5 (dD aF (Nr n n))]) (fun _=>True):=by
 refine iC.intro Try.func70 rfl Try.ntmps70 rfl (fun cx Z=>(ts (ro rfl (cQ cV) (eX (ts (rm rfl (rn rfl (fP (T:=Is (.slice none 0 0)) (i:=Try.t59) V_60 nX rfl rfl (Ht rfl) rfl (fun _=>rfl) trivial (by show 24 * _ ≤ _; omega) zo) fun B8=>(ra rfl (eX (cK (ts (rm rfl (ro rfl (jA U_60 (Ht rfl)) (ro rfl (cX (cJ 0)) (eX (eG (sC 1 rfl (xN iU ⟨none,0,rfl⟩ (e:=30) (s:=5)) ?_)))))))))))))))))
 refine gA (fun (k : Nat) => k ≤ n) (fun (k : Nat) => n - k) (fun (k : Nat) => [(1, NT .i64 n), (5, Is (.slice (some ⟨B8, 0, none⟩) n n)), (10, NT .i64 n), (11, NT .i64 k)]) (fun (k : Nat) => [Z, lC iU B8 59 30 5 (dD aF (lD (fun _ => (tab n fun _ => Qi.zero)) [] n k))]) 0 (Nat.zero_le _)
  (zS rfl) (aU (fun _ _ _ h=>h) (aU (cP (by rw [← mT,lH]; exact nJ aF n)) aY)) (fun k hk=>?_)
 refine ts (ro rfl (gX (Ht rfl) (Ht rfl)) (eX (cK (dQ (Ht rfl) (fun hd=>?_) (fun hd=>?_)))))
 ·simp only [decide_eq_true_eq] at hd
  refine pG 1 (k) rfl (mO hd) (fun v hv=>(cU (cK (eG (ts (rm rfl (ra rfl (eX (cY (rm rfl (rm rfl (ro rfl (cZ K_5 (jJ (n:=0) (by decide) (by decide)) ⟨(cJ 0),trivial⟩) (ro rfl (cZ Try.call54 Fh ⟨(Ht rfl),trivial⟩) (ro rfl (dB (xs:=[.tmp 17]) U_59 Z_30 O_30 (cW (Ht rfl) cG) rfl rfl rfl) (rm rfl (rH Try.call83 (Oq (m:=n) zo hn) ⟨(Ht rfl),(Ht rfl),trivial⟩ rfl (fun B20 _=>?_)))))))))))))))))
  have hB20:=B20.2
  refine ro rfl (fY U_60 Z_59 (Ht rfl) (Ht rfl) rfl zo (by rw [Nat.mul_one,Nat.zero_add])) ?_
  refine wH Z_59 (Ht rfl) (Ht rfl) (by simp only [dD,List.length_map,iI]; omega) (j:=1) (l:=3) rfl rfl rfl ?_
  refine eX (cL (iK 1 3 rfl rfl (by decide) (by simp only [dD,List.length_map,iI]; omega) ?_))
  refine cY (ro rfl (dV (Ht rfl) (cJ 1) z6) (rm rfl (eX (iD [0,1] rfl (by decide) (fU (k + 1) hd zo (zS rfl) (aU (fun _ _ _ h=>h) (aU (cP (by rw [jH,← pW (f:=fun _=>(tab n fun _=>Qi.zero))])) aY)))))))
 ·simp only [decide_eq_false_iff_not] at hd
  obtain rfl:n = k:=Nat.le_antisymm zo hk
  refine gW rfl (ts (rm rfl (ra rfl (eX ?_))))
  exact jY B8 trivial [0,1] ⟨⟨_,rfl,fun _ _ _ h=>h⟩,⟨_,rfl,(cP (by rw [pV]; rfl))⟩,trivial⟩ (by decide) (vZ rfl (eU rfl))
theorem Fj {z:List Qi} {s:List (List Qi)} {L:Nat} (hz:jK z L) (hs:dA s L) (hL1:1 ≤ L) (hL:L ≤ 10000000) (hsh:jI s z.length z.length) (hl1:1 ≤ z.length) (hl:z.length ≤ 8):iC Try.prog 53 [mE z s] [] (Nat) (fun B=>Is (.slice (some ⟨B,0,none⟩) z.length z.length)) (fun B=>[lC iU B 59 30 5 (dD aF (lF z s))]) (fun _=>True):=by
 have hs1:=hs.le (Nat.le_refl L)
 have hsl:=hsh.1
 have hD:=wY z
 have hDf:=sI hz hL1
 have hXf:=sE hs hDf hL1 (by rw [hD.1]; exact hl)
 have hX:jI (jZ s (eN z)) s.length s.length:=sF
 refine iC.intro Try.func53 rfl Try.ntmps53 rfl (fun cx Z=>(ts (rn rfl (fG (Ht rfl)) fun B1=>(ro rfl (cQ cV) (eX (cK (fZ (m:=3) (dp 1 rfl (eJ A_62 Z_62 (Ht rfl) (i:=1) rfl rfl rfl) (dq 10 0 rfl (cZ Try.call71 rJ ⟨(Ht rfl),trivial⟩) (dp 1 rfl (eJ A_62 Z_62 (Ht rfl) (i:=1) rfl rfl rfl) (fV bA rfl (by kernel_rfl) (aJ (aJ (aJ (aV (ro rfl (cZ Try.call71 rJ ⟨(Ht rfl),trivial⟩) (rH Try.call70 (Fk (n:=z.length) zo) ⟨(Ht rfl),(Ht rfl),trivial⟩ rfl (fun B14 _=>?_))))))))))))))))))
 refine ra rfl (eX (cK (ts (ro rfl (eJ A_62 Z_62 (Ht rfl) (i:=1) rfl rfl rfl) (ro rfl (cZ Try.call72 (Ow zo) ⟨(Ht rfl),trivial⟩) (ro rfl (dG U_59 (Ht rfl) aA) (ro rfl (cX (cJ 0)) (eX (eG ?_)))))))))
 refine gA (fun (i : Nat) => i ≤ z.length) (fun (i : Nat) => z.length - i) (fun (i : Nat) => [(1, eI B1 0), (3, Is (.slice (some ⟨B14, 0, none⟩) z.length z.length)), (16, fA z), (17, NT .i64 z.length), (18, NT .i64 i)]) (fun (i : Nat) => [Z, box B1 62 [fA z, eH s], lC iU B14 59 30 5 (dD aF (lD (fun i => (tab z.length fun _ => Qi.zero).set i (gv z i)) (tab z.length fun _ => Qi.zero) z.length i))]) 0 (Nat.zero_le _)
  (zS rfl) (aU (fun _ _ _ h=>h) (aU (fun _ _ _ h=>h) (aU (cP (by rw [Nr,mT])) aY))) (fun i hi=>?_)
 refine ts (ro rfl (gX (Ht rfl) (Ht rfl)) (eX (cK (dQ (Ht rfl) (fun hd=>?_) (fun hd=>?_)))))
 ·simp only [decide_eq_true_eq] at hd
  have hzl:=cC z.length fun _=>Qi.zero
  refine pG 2 (i) rfl (mO hd) (fun v hv=>(cU (cK (eG (ts (rm rfl (ro rfl (dZ U_59 Z_30 (Ht rfl) (Ht rfl) rfl (dY (dU (d:=Qi.zero) hd))) (ro rfl (dJ A_30 Z_30 (Ht rfl)) (rn rfl (eW (Ts:=[Is (.bool false),Is (.slice none 0 0),Is (.bool false),Is (.slice none 0 0),Is (.slice none 0 0)]) O_30 rfl (fun V=>aW zd (aW zd (aW zd (aW zd (aW zd (aG))))))) fun B5=>(ra rfl (gQ Z_30 (Ht rfl) (Ht rfl) rfl (i:=4) rfl (aK rfl) rfl rfl ?_)))))))))))
  refine eX (fZ (m:=7) (dp 3 rfl (cX (Ht rfl)) (dp 4 rfl (cX (Ht rfl)) (fF 23 0 24 1 rfl (fY U_60 Z_59 (Ht rfl) (Ht rfl) rfl zo (by rw [Nat.mul_one,Nat.zero_add])) ?_))))
  refine dq 25 2 rfl (lV A_59 Z_59 (Ht rfl) (j:=2) rfl) (dp 4 rfl (cX (Ht rfl)) (dp 5 rfl (eJ A_30 Z_30 (Ht rfl) (i:=4) rfl rfl rfl) (dq 28 5 rfl (cZ Try.call54 Fh ⟨(Ht rfl),trivial⟩) (fV bA rfl (by kernel_rfl) (zF (aJ (aJ (aJ (aV (ro rfl (hZ U_59 Z_30 (Ht rfl) (Ht rfl) rfl (i:=3) rfl (by simp only [List.length_map,cC]; omega) rfl) ?_))))))))))
  refine qU Z_30 (Ht rfl) (Ht rfl) (El.ag rfl) (i:=3) rfl rfl (by simp only [List.length_map,cC]; omega) rfl ?_
  refine eX (cL (iK 2 3 rfl rfl (by decide) (by simp only [dD,List.length_map,iI]; omega) ?_))
  refine cY (ro rfl (dV (Ht rfl) (cJ 1) z6) (rm rfl (eX (iD [0,1,2] rfl (by decide) (fU (i + 1) hd zo (zS rfl) (aU (fun _ _ _ h=>h) (aU (fun _ _ _ h=>h) (aU (cP (by rw [← pW (f:=(fun i=>(tab z.length fun _=>Qi.zero).set i (gv z i))),← jH,← kG])) aY))))))))
 ·simp only [decide_eq_false_iff_not] at hd
  obtain rfl:i = z.length:=Nat.le_antisymm hi zo
  rw [pV]
  refine gW rfl (ts (ro rfl (eJ A_62 Z_62 (Ht rfl) (i:=1) rfl rfl rfl) (ro rfl (cZ Try.call55 (Fi hsh hl) ⟨(Ht rfl),trivial⟩) (rm rfl (Nv Try.call57 (Fd (p:=s) (c:=eN z) (n:=z.length) (m:=z.length) (L:=L) hsh hD hs hDf hL1 zo hl1 hl1 hl hl) (j:=2) (tt:=34) rfl rfl (kB (s:=5) (M:=eN z) hD.1.symm) Ps (fun _=>inferInstance) (fun _ B hB=>by simp only [List.mem_singleton] at hB; subst hB; exact Io) ⟨(Ht rfl),(Ht rfl),trivial⟩ rfl (fun B35 _=>(ra rfl (eX (cK (cK (gJ (i:=3) (tt:=6) rfl rfl (kB (s:=5) (M:=jZ s (eN z)) (hX.1.trans hsl).symm) ?_)))))))))))
  refine cY (rm rfl (ro rfl (dG U_60 (Ht rfl) aA) (ro rfl (cX (cJ 0)) (eX (eG (iD [0,2] rfl (by decide) ?_))))))
  refine gA (fun (i : Nat) => i ≤ z.length) (fun (i : Nat) => z.length - i) (fun (i : Nat) => [(3, Is (.slice (some ⟨B14, 0, none⟩) z.length z.length)), (36, eH (jZ s (eN z))), (37, NT .i64 z.length), (38, NT .i64 i)]) (fun (i : Nat) => [Z, lC iU B14 59 30 5 (dD aF (mS (fun i => tab z.length fun j => gm (eN z) i j - gm (jZ s (eN z)) i j) (fun i => tab z.length fun j => gm (eN z) i j) z.length i))]) 0 (Nat.zero_le _)
   (aQ rfl (aQ rfl (aZ rfl (kD (hX.1.trans hsl)) (zS rfl)))) (aU (fun _ _ _ h=>h) (aU (cP (by rw [← nY]; exact congrArg _ (rS hD))) aY)) (fun i hi=>?_)
  refine ts (ro rfl (gX (Ht rfl) (Ht rfl)) (eX (cK (dQ (Ht rfl) (fun he=>?_) (fun he=>?_)))))
  ·simp only [decide_eq_true_eq] at he
   have hxr:=hX.row (i:=i) zo
   refine pG 1 (i) rfl (tZ he) (fun v hv=>(cU (cK (eG (ts (rm rfl (ro rfl (dZ U_60 Z_59 (Ht rfl) (Ht rfl) rfl (dY (dU (d:=[]) (by rw [hX.1]; omega)))) ?_)))))))
   refine ro rfl (dJ A_59 Z_59 (Ht rfl)) (ra rfl (ra rfl (eX (ts (rm rfl (ro rfl (dG U_59 (Ht rfl) aA) (ro rfl (cX (cJ 0)) (eX (eG ?_)))))))))
   refine gA (fun (j : Nat) => j ≤ z.length) (fun (j : Nat) => z.length - j) (fun (j : Nat) => [(3, Is (.slice (some ⟨B14, 0, none⟩) z.length z.length)), (7, NT .i64 i), (8, fA ((jZ s (eN z)).getD i [])), (36, eH (jZ s (eN z))), (37, NT .i64 z.length), (38, NT .i64 i), (44, NT .i64 z.length), (45, NT .i64 j)]) (fun (j : Nat) => [Z, pS iU B14 59 30 5 (dD aF (mS (fun i => tab z.length fun j => gm (eN z) i j - gm (jZ s (eN z)) i j) (fun i => tab z.length fun j => gm (eN z) i j) z.length i)) i v, bH 30 5 v ((mS (fun j => gm (eN z) i j - gm (jZ s (eN z)) i j) (fun j => gm (eN z) i j) z.length j).map aF)]) 0 (Nat.zero_le _)
    (aQ rfl (aQ rfl (aQ rfl (aQ rfl (aQ rfl (aQ rfl (aZ rfl (kD (hxr.trans hsl)) (zS rfl)))))))) (aU (fun _ _ _ h=>h) (aU (fun _ _ _ h=>h) (aU (dN (by rw [← nY])) aY))) (fun j hj=>?_)
   refine ts (ro rfl (gX (Ht rfl) (Ht rfl)) (eX (cK (dQ (Ht rfl) (fun hf=>?_) (fun hf=>?_)))))
   ·simp only [decide_eq_true_eq] at hf
    have hrl:=kC (fun j=>gm (eN z) i j - gm (jZ s (eN z)) i j) (fun j=>gm (eN z) i j) z.length j
    haveI f1:aH (gm (eN z) i j) L:=hDf.get hL1 i j
    haveI f2:aH (gm (jZ s (eN z)) i j) (200 * L + 300):=hXf.get zo i j
    refine cU (cK (eG (ts (rm rfl (ra rfl (eX (fZ (m:=18) (dp 3 rfl (cX (Ht rfl)) (dp 7 rfl (cX (Ht rfl)) (fF 48 0 49 1 rfl (fY U_60 Z_59 (Ht rfl) (Ht rfl) rfl zo (by rw [Nat.mul_one,Nat.zero_add])) ?_))))))))))
    refine dq 50 2 rfl (lV A_59 Z_59 (Ht rfl) (j:=1) rfl) (dp 9 rfl (cX (Ht rfl)) (dp 3 rfl (cX (Ht rfl)) (dp 7 rfl (cX (Ht rfl)) (fF 53 5 54 6 rfl (fY U_60 Z_59 (Ht rfl) (Ht rfl) rfl zo (by rw [Nat.mul_one,Nat.zero_add])) ?_))))
    refine dq 55 7 rfl (lV A_59 Z_59 (Ht rfl) (j:=1) rfl) (dp 9 rfl (cX (Ht rfl)) (fF 56 8 57 9 rfl (hZ U_59 Z_30 (Ht rfl) (Ht rfl) rfl (i:=2) rfl (by simp only [List.length_map,hrl]; omega) rfl) ?_))
    refine dq 58 10 rfl (vV A_30 Z_30 (Ht rfl) (i:=2) rfl rfl (dY (sR hf))) (dq 59 11 rfl (cR dT (Ht rfl)) (dp 8 rfl (cX (Ht rfl)) (dp 9 rfl (cX (Ht rfl)) (fF 61 13 62 14 rfl (dZ U_59 Z_30 (Ht rfl) (Ht rfl) rfl (dY (dU (d:=Qi.zero) (by rw [hxr]; omega)))) ?_))))
    refine dq 63 15 rfl (dJ A_30 Z_30 (Ht rfl)) (fF 60 12 64 16 rfl (cA mR K_8 (qW zo) (Ht rfl) ⟨(Ht rfl),trivial⟩) (fV bA rfl (by kernel_rfl) (zF (zF (zF (zF (aJ (aJ (aV (ro rfl (hZ U_59 Z_30 (Ht rfl) (Ht rfl) rfl (i:=2) rfl (by simp only [List.length_map,hrl]; omega) rfl) ?_))))))))))
    refine qU Z_30 (Ht rfl) (Ht rfl) (El.ag rfl) (i:=2) rfl rfl (by simp only [List.length_map,hrl]; omega) rfl ?_
    refine eX (cL (cY (ro rfl (dV (Ht rfl) (cJ 1) z6) (rm rfl (eX (fU (j + 1) hf zo (zS rfl) (aU (fun _ _ _ h=>h) (aU (fun _ _ _ h=>h) (aU (dN (by rw [kG,← pU (f:=fun j=>gm (eN z) i j - gm (jZ s (eN z)) i j)])) aY)))))))))
   ·simp only [decide_eq_false_iff_not] at hf
    obtain rfl:j = z.length:=Nat.le_antisymm hj zo
    refine gW rfl (cL (iK 1 2 rfl rfl (by decide) (by simp only [dD,List.length_map,kC]; omega) ?_))
    refine cY (ro rfl (dV (Ht rfl) (cJ 1) z6) (rm rfl (eX (iD [0,1] rfl (by decide) (fU (i + 1) he zo (zS rfl) (aU (fun _ _ _ h=>h) (aU (cP (by rw [jH,pT,← pU (f:=(fun i=>tab z.length fun j=>gm (eN z) i j - gm (jZ s (eN z)) i j))])) aY)))))))
  ·simp only [decide_eq_false_iff_not] at he
   obtain rfl:i = z.length:=Nat.le_antisymm hi zo
   refine gW rfl (ts (rm rfl (ra rfl (eX ?_))))
   exact jY B14 trivial [0,1] ⟨⟨_,rfl,fun _ _ _ h=>h⟩,⟨_,rfl,(cP (by rw [pT]; rfl))⟩,trivial⟩ (by decide) (vZ rfl (eU rfl))
theorem Ry {z:List Qi} {s:List (List Qi)} {t:Qi} {L:Nat} (hz:jK z L) (hs:dA s L) (ht:aH t L) (hL1:1 ≤ L) (hL:L ≤ 10000000) (hsh:jI s z.length z.length) (hl1:1 ≤ z.length) (hl:z.length ≤ 8):aT Try.prog 34 [mE z s,aF t] (eM [kU (pD (pB t) z) (pD (pB t) s) (pD (pB t) (Ik t (lF z s) z.length)),aE .i64 (pB t)]):=by
 haveI:=ht
 have hOs:=Hw z s
 have hOf:=xU hz hs hL1 hl
 refine aT.intro Try.func34 rfl Try.ntmps34 rfl (fun cx=>(ts (rn rfl (fG (Ht rfl)) fun B2=>(rn rfl (fG (Ht rfl)) fun B3=>(rn rfl (eW (Ts:=[Is (.slice none 0 0),Is (.slice none 0 0),Is (.slice none 0 0)]) O_70 rfl (fun V=>aW zd (aW zd (aW zd (aG))))) fun B4=>(ro rfl (cQ (cJ 0)) (eX (cK (ts (ro rfl (eJ A_30 Z_30 (Ht rfl) (i:=1) rfl rfl rfl) (ro rfl (cZ Try.call14 (yX zo) ⟨(Ht rfl),trivial⟩) (ro rfl (dL (Ht rfl)) ?_))))))))))))
 refine eX (dQ (Ht rfl) (fun hb=>?_) (fun hb=>?_))
 ·have he : pB t ≠ 0 := by simp only [Bool.not_eq_true'] at hb; rw [pB, hb]; decide
  have he1:pB t = 1:=by simp only [Bool.not_eq_true'] at hb; rw [pB,hb]; rfl
  refine ts (ro rfl (aB.imp (Jn ) Di) (gQ Z_70 (Ht rfl) (Ht rfl) rfl (i:=2) rfl (aK rfl) rfl rfl (ro rfl (cQ (cJ 1)) (eX (bE rfl (fX (fK Try.isAgg70 Z_70 rfl (i:=2) rfl rfl) ?_) (fX (eU rfl) ?_))))))
  ·exact (Me he)
  ·exact (aR he1.symm)
 ·have he : pB t = 0 := by simp only [Bool.not_eq_false'] at hb; rw [pB, hb]; rfl
  refine cU (ts (ro rfl (eJ A_62 Z_62 (Ht rfl) (i:=0) rfl rfl rfl) (rH Try.call53 (Fj hz hs hL1 hL hsh hl1 hl) ⟨(Ht rfl),trivial⟩ rfl (fun B15 _=>(ra rfl (eX (cK (ts (rm rfl (ro rfl (jA U_60 (Ht rfl)) (ro rfl (cX (cJ 0)) (eX (eG ?_)))))))))))))
  refine gA (fun (i : Nat) => i ≤ z.length) (fun (i : Nat) => z.length - i) (fun (i : Nat) => [(2, eI B2 0), (3, eI B3 0), (4, eI B4 0), (6, Is (.slice (some ⟨B15, 0, none⟩) z.length z.length)), (16, Is (.slice (some ⟨B15, 0, none⟩) z.length z.length)), (17, NT .i64 z.length), (18, NT .i64 i)]) (fun (i : Nat) => [box B2 62 [fA z, eH s], box B3 30 [aC (decide (t.a < 0)), aL t.a.natAbs, aC (decide (t.b < 0)), aL t.b.natAbs, aL (du t)], box B4 70 [Is (.slice none 0 0), Is (.slice none 0 0), Is (.slice none 0 0)], lC iU B15 59 30 5 (dD aF (mS (fun i => tab z.length fun j => t * gm (lF z s) i j) (fun i => tab z.length fun j => gm (lF z s) i j) z.length i))]) 0 (Nat.zero_le _)
   (zS rfl) (aU (fun _ _ _ h=>h) (aU (fun _ _ _ h=>h) (aU (fun _ _ _ h=>h) (aU (cP (by rw [← nY]; exact congrArg _ (rS hOs))) aY)))) (fun i hi=>?_)
  refine ts (ro rfl (gX (Ht rfl) (Ht rfl)) (eX (cK (dQ (Ht rfl) (fun he2=>?_) (fun he2=>?_)))))
  ·simp only [decide_eq_true_eq] at he2
   refine pG 3 (i) rfl (tZ he2) (fun v hv=>(cU (cK (eG (ts (ro rfl (fY U_60 Z_59 (Ht rfl) (Ht rfl) rfl zo (by rw [Nat.mul_one,Nat.zero_add])) ?_))))))
   refine ro rfl (lV A_59 Z_59 (Ht rfl) (j:=3) rfl) (ra rfl (eX (ts (rm rfl (ro rfl (pY U_59 (Ht rfl) (i:=4) rfl (show (((tab z.length fun j=>gm (lF z s) i j).map aF).length:Int) = ((z.length:Nat):Int) by rw [List.length_map,cC])) (ro rfl (cX (cJ 0)) (eX (eG ?_))))))))
   refine gA (fun (j : Nat) => j ≤ z.length) (fun (j : Nat) => z.length - j) (fun (j : Nat) => [(2, eI B2 0), (3, eI B3 0), (4, eI B4 0), (6, Is (.slice (some ⟨B15, 0, none⟩) z.length z.length)), (8, Is v), (16, Is (.slice (some ⟨B15, 0, none⟩) z.length z.length)), (17, NT .i64 z.length), (18, NT .i64 i), (23, NT .i64 z.length), (24, NT .i64 j)]) (fun (j : Nat) => [box B2 62 [fA z, eH s], box B3 30 [aC (decide (t.a < 0)), aL t.a.natAbs, aC (decide (t.b < 0)), aL t.b.natAbs, aL (du t)], box B4 70 [Is (.slice none 0 0), Is (.slice none 0 0), Is (.slice none 0 0)], pS iU B15 59 30 5 (dD aF (mS (fun i => tab z.length fun j => t * gm (lF z s) i j) (fun i => tab z.length fun j => gm (lF z s) i j) z.length i)) i v, bH 30 5 v ((mS (fun j => t * gm (lF z s) i j) (fun j => gm (lF z s) i j) z.length j).map aF)]) 0 (Nat.zero_le _)
    (zS rfl) (aU (fun _ _ _ h=>h) (aU (fun _ _ _ h=>h) (aU (fun _ _ _ h=>h) (aU (fun _ _ _ h=>h) (aU (dN (by rw [← nY])) aY))))) (fun j hj=>?_)
   refine ts (ro rfl (gX (Ht rfl) (Ht rfl)) (eX (cK (dQ (Ht rfl) (fun hf=>?_) (fun hf=>?_)))))
   ·simp only [decide_eq_true_eq] at hf
    have hrl:=kC (fun j=>t * gm (lF z s) i j) (fun j=>gm (lF z s) i j) z.length j
    haveI f1:aH (gm (lF z s) i j) (201 * L + 301):=hOf.get zo i j
    refine cU (cK (eG (ts (rm rfl (ra rfl (eX (fZ (m:=10) (dp 8 rfl (cX (Ht rfl)) (dp 9 rfl (cX (Ht rfl)) (dp 3 rfl (eJ A_30 Z_30 (Ht rfl) (i:=1) rfl rfl rfl) (dq 29 2 rfl (cZ Try.call54 Fh ⟨(Ht rfl),trivial⟩) (dq 30 3 rfl (cR dT (Ht rfl)) (dp 8 rfl (cX (Ht rfl)) (dp 9 rfl (cX (Ht rfl)) (fF 32 5 33 6 rfl (hZ U_59 Z_30 (Ht rfl) (Ht rfl) rfl (i:=4) rfl (by simp only [List.length_map,hrl]; omega) rfl) ?_)))))))))))))))
    refine dq 34 7 rfl (vV A_30 Z_30 (Ht rfl) (i:=4) rfl rfl (dY (sR hf))) (fF 31 4 35 8 rfl (cA fC K_17 (mA zo) (Ht rfl) ⟨(Ht rfl),trivial⟩) (fV bA rfl (by kernel_rfl) (zF (zF (aJ (aJ (aV (ro rfl (hZ U_59 Z_30 (Ht rfl) (Ht rfl) rfl (i:=4) rfl (by simp only [List.length_map,hrl]; omega) rfl) ?_))))))))
    refine qU Z_30 (Ht rfl) (Ht rfl) (El.ag rfl) (i:=4) rfl rfl (by simp only [List.length_map,hrl]; omega) rfl ?_
    refine eX (cL (cY (ro rfl (dV (Ht rfl) (cJ 1) z6) (rm rfl (eX (fU (j + 1) hf zo (zS rfl) (aU (fun _ _ _ h=>h) (aU (fun _ _ _ h=>h) (aU (fun _ _ _ h=>h) (aU (fun _ _ _ h=>h) (aU (dN (by rw [kG,← pU (f:=fun j=>t * gm (lF z s) i j)])) aY)))))))))))
   ·simp only [decide_eq_false_iff_not] at hf
    obtain rfl:j = z.length:=Nat.le_antisymm hj zo
    refine gW rfl (cL (iK 3 4 rfl rfl (by decide) (by simp only [dD,List.length_map,kC]; omega) ?_))
    refine cY (ro rfl (dV (Ht rfl) (cJ 1) z6) (rm rfl (eX (iD [0,1,2,3] rfl (by decide) (fU (i + 1) he2 zo (zS rfl) (aU (fun _ _ _ h=>h) (aU (fun _ _ _ h=>h) (aU (fun _ _ _ h=>h) (aU (cP (by rw [jH,pT,← pU (f:=(fun i=>tab z.length fun j=>t * gm (lF z s) i j))])) aY)))))))))
  ·simp only [decide_eq_false_iff_not] at he2
   obtain rfl:i = z.length:=Nat.le_antisymm hi zo
   rw [pT]
   refine gW rfl (cK (gJ (i:=3) (tt:=6) rfl rfl (kB (s:=5) (M:=(Ik t (lF z s) z.length)) xY.1.symm) (cY (ro rfl (eJ A_62 Z_62 (Ht rfl) (i:=0) rfl rfl rfl) (rm rfl (ro rfl (yO (Ht rfl) (Ht rfl)) (gQ Z_70 (Ht rfl) (Ht rfl) rfl (i:=2) rfl (aK rfl) rfl rfl (ro rfl (cQ (cJ 0)) (eX (bE rfl (fX (fK Try.isAgg70 Z_70 rfl (i:=2) rfl rfl) ?_) (fX (eU rfl) ?_)))))))))))
   ·exact (Hx he)
   ·exact (aR he.symm)
end
section
open Go Go.RowKit
theorem Ap {n : Nat} {E : bC} {H : Hp} {d : Option Tmp} {t : TypeId} {pos : String} {af : Array Edge} {g : Option (Nat × Bool)}  :
  aB Try.prog n E H ⟨d,.build 24 #[],t,pos,af,g⟩ (eT [Is (.int .i64 0),Is (.int .i64 0),Is (.int .i64 0)]) :=
 gE (parts := []) fun a V w hs => by
  refine ⟨.agg #[(.int .i64 0),(.int .i64 0),(.int .i64 0)],?_,[(.int .i64 0),(.int .i64 0),(.int .i64 0)],rfl,aW (⟨rfl,trivial⟩) (aW (⟨rfl,trivial⟩) (aW (⟨rfl,trivial⟩) (aG)))⟩
  simp [Instr.build,Instr.fill,Sem.run_bind,Result.andThen,eS,O_24,U_24,Z_2]
theorem wO {n : Nat} {E : bC} {H : Hp} {d : Option Tmp} {t : TypeId} {pos : String} {af : Array Edge} {g : Option (Nat × Bool)} {x0 : Operand} {T0 : Ty} [s0 : cB T0 1 false] (h0 : aI E x0 T0) :
  aB Try.prog n E H ⟨d,.build 24 #[(0,x0)],t,pos,af,g⟩ (eT [T0,Is (.int .i64 0),Is (.int .i64 0)]) :=
 gE (parts := [(0, x0)]) fun a V w hs => by
  have p0:=h0 n V a hs
  generalize e0:a.eval x0 = v0 at p0
  have q0:=(s0.ok v0 V p0).2.2 rfl
  refine ⟨.agg #[v0,(.int .i64 0),(.int .i64 0)],?_,[v0,(.int .i64 0),(.int .i64 0)],rfl,aW (⟨p0,q0⟩) (aW (⟨rfl,trivial⟩) (aW (⟨rfl,trivial⟩) (aG)))⟩
  simp [e0,Instr.build,Instr.fill,Sem.run_bind,Result.andThen,eS,q0.cells,O_24,U_24,Z_2]
theorem yM {n : Nat} {E : bC} {H : Hp} {d : Option Tmp} {t : TypeId} {pos : String} {af : Array Edge} {g : Option (Nat × Bool)} {x0 x2 : Operand} {T0 T2 : Ty} [s0 : cB T0 1 false] (h0 : aI E x0 T0) [s2 : cB T2 1 false] (h2 : aI E x2 T2) :
  aB Try.prog n E H ⟨d,.build 24 #[(0,x0),(2,x2)],t,pos,af,g⟩ (eT [T0,Is (.int .i64 0),T2]) :=
 gE (parts := [(0, x0), (2, x2)]) fun a V w hs => by
  have p0:=h0 n V a hs
  generalize e0:a.eval x0 = v0 at p0
  have q0:=(s0.ok v0 V p0).2.2 rfl
  have p2:=h2 n V a hs
  generalize e2:a.eval x2 = v2 at p2
  have q2:=(s2.ok v2 V p2).2.2 rfl
  refine ⟨.agg #[v0,(.int .i64 0),v2],?_,[v0,(.int .i64 0),v2],rfl,aW (⟨p0,q0⟩) (aW (⟨rfl,trivial⟩) (aW (⟨p2,q2⟩) (aG)))⟩
  simp [e0,e2,Instr.build,Instr.fill,Sem.run_bind,Result.andThen,eS,q0.cells,q2.cells,O_24,U_24,Z_2]
end
section
open Go Go.RowKit
theorem vC  : aT Try.prog 10 [] (aC true):=by
 refine aT.intro Try.func10 rfl Try.ntmps10 rfl (fun cx=>(ts (ro rfl (cQ cV) (eX (ts (ro rfl (yM cV cV) (rn rfl (eW (Ts:=[Is (.int .i64 0),Is (.int .i64 0),Is (.int .i64 0)]) O_24 rfl (fun V=>aW zd (aW zd (aW zd (aG))))) fun B1=>(gQ Z_24 (Ht rfl) (Ht rfl) rfl (i:=0) rfl (aK rfl) rfl rfl (eX (cK (Y.D_start (m:=18) [] (bY (Ei:=[]) rfl rfl bX rfl rfl (dX rfl (wO cV)) (bY (Ei:=[]) rfl rfl bX rfl rfl (dX rfl (wO cV)) ?_)))))))))))))
 refine bY (Ei:=[(12,_),(13,_)]) rfl rfl (bQ (bZ 0 rfl rfl) (bQ (bZ 1 rfl rfl) bX)) rfl rfl (dX rfl (dB (xs:=[.tmp 12,.tmp 13]) U_66 Z_24 O_24 (cW (Ht rfl) (cW (Ht rfl) cG)) rfl rfl rfl)) (bY (Ei:=[(14,_)]) rfl rfl (bQ (bZ 2 rfl rfl) bX) rfl rfl (dX rfl (cZ Try.call32 (tS (l:=[To,To]) (by decide)) ⟨(Ht rfl),trivial⟩)) (bY (Ei:=[]) rfl rfl bX rfl rfl (dX rfl (Ap )) (bY (Ei:=[(1,_)]) rfl rfl (bQ (bJ rfl rfl) bX) rfl rfl (dX rfl (eJ A_24 Z_24 (Ht rfl) (i:=0) rfl rfl rfl)) ?_)))
 refine bY (Ei:=[(16,_),(17,_)]) rfl rfl (bQ (bZ 4 rfl rfl) (bQ (bZ 5 rfl rfl) bX)) rfl rfl (dX rfl (dB (xs:=[.tmp 16,.tmp 17]) U_66 Z_24 O_24 (cW (Ht rfl) (cW (Ht rfl) cG)) rfl rfl rfl)) (bY (Ei:=[(1,_)]) rfl rfl (bQ (bJ rfl rfl) bX) rfl rfl (dX rfl (eJ A_24 Z_24 (Ht rfl) (i:=0) rfl rfl rfl)) (bY (Ei:=[]) rfl rfl bX rfl rfl (dX rfl (Ap )) (bY (Ei:=[(19,_),(20,_)]) rfl rfl (bQ (bZ 7 rfl rfl) (bQ (bZ 8 rfl rfl) bX)) rfl rfl (dX rfl (dB (xs:=[.tmp 19,.tmp 20]) U_66 Z_24 O_24 (cW (Ht rfl) (cW (Ht rfl) cG)) rfl rfl rfl)) ?_)))
 refine bY (Ei:=[(18,_),(21,_)]) rfl rfl (bQ (bZ 6 rfl rfl) (bQ (bZ 9 rfl rfl) bX)) rfl rfl (dX rfl (dB (xs:=[.tmp 18,.tmp 21]) U_68 Try.sizeOf66 Try.zeroValue66 (cW (Ht rfl) (cW (Ht rfl) cG)) rfl rfl rfl)) (bY (Ei:=[(22,_)]) rfl rfl (bQ (bZ 10 rfl rfl) bX) rfl rfl (dX rfl (cZ Try.call33 (Cw (m:=[[Mg,Cd],[Cd,Mg]]) (by decide) (by intro r hr; simp at hr; rcases hr with rfl | rfl <;> decide)) ⟨(Ht rfl),trivial⟩)) ?_)
 refine bY (Ei:=[(15,_),(23,_)]) rfl rfl (bQ (bZ 3 rfl rfl) (bQ (bZ 11 rfl rfl) bX)) rfl rfl (dX rfl (cZ Try.call31 (eQ (Fg (z:=qH) (s:=tE) (L:=2) Al (by decide) (by decide) (by decide)) Oi) ⟨(Ht rfl),(Ht rfl),trivial⟩)) (bY (Ei:=[(24,_)]) rfl rfl (bQ (bZ 12 rfl rfl) bX) rfl rfl (dX rfl (cX (Ht rfl))) (bY (Ei:=[(11,_)]) rfl rfl (bQ (bZ 13 rfl rfl) bX) rfl rfl (dX rfl (dK (Ht rfl) rfl)) (bY (Ei:=[(11,_)]) rfl rfl (bQ (bZ 13 rfl rfl) bX) rfl rfl (dX rfl (dK (Ht rfl) rfl)) ?_)))
 refine Y.D_newp (Ei:=[]) (fun bb=>box bb 62 [fA qH,eH tE]) 17 rfl rfl rfl bX rfl rfl (by kernel_rfl) (eW (Ts:=[Is (.slice none 0 0),Is (.slice none 0 0)]) O_62 rfl (fun V=>aW zd (aW zd (aG)))) (Y.D_putN (Ei:=[(25,_)]) 16 rfl rfl rfl rfl rfl rfl (bQ (bZ 14 rfl rfl) bX) (fun bb=>tN Z_62 (Ht rfl) (Ht rfl) rfl (i:=0) rfl (aK rfl) rfl rfl) (Y.D_done bA rfl (by kernel_rfl) rfl (by simp [Y.okP]) rfl rfl (bU (bU (bU (bU (bU (bU (bU (bU (bU (bU (bU (bU (bU (bU (bU (bU (Y.F_newp (fun B2=>Y.F_putN (Y.F_nil ?_)))))))))))))))))))))
 refine ra rfl (eX (cK (Y.D_start (m:=8) [] (bY (Ei:=[(2,_)]) rfl rfl (bQ (bJ rfl rfl) bX) rfl rfl (dX rfl (eJ A_62 Z_62 (Ht rfl) (i:=1) rfl rfl rfl)) (bY (Ei:=[]) rfl rfl bX rfl rfl (dX rfl (cZ K_5 (jJ (n:=290) (by decide) (by decide)) ⟨(cJ 290),trivial⟩)) (bY (Ei:=[(28,_),(29,_)]) rfl rfl (bQ (bZ 0 rfl rfl) (bQ (bZ 1 rfl rfl) bX)) rfl rfl (dX rfl (cZ Try.call34 (eQ (Ry (z:=qH) (s:=tE) (t:=Qi.ofInt 290) (L:=2) Al Er Et (by decide) (by decide) Eu (by decide) (by decide)) Oj) ⟨(Ht rfl),(Ht rfl),trivial⟩)) ?_))))))
 refine bY (Ei:=[(30,_)]) rfl rfl (bQ (bZ 2 rfl rfl) bX) rfl rfl (dX rfl (cX (Ht rfl))) (bY (Ei:=[(27,_)]) rfl rfl (bQ (bZ 3 rfl rfl) bX) rfl rfl (dX rfl (dK (Ht rfl) rfl)) (bY (Ei:=[(27,_)]) rfl rfl (bQ (bZ 3 rfl rfl) bX) rfl rfl (dX rfl (dK (Ht rfl) rfl)) (Y.D_newp (Ei:=[]) (fun bb=>box bb 70 [fA qH,eH tE,eH tO]) 7 rfl rfl rfl bX rfl rfl (by kernel_rfl) (eW (Ts:=[Is (.slice none 0 0),Is (.slice none 0 0),Is (.slice none 0 0)]) O_70 rfl (fun V=>aW zd (aW zd (aW zd (aG))))) ?_)))
 refine Y.D_putN (Ei:=[(31,_)]) 6 rfl rfl rfl rfl rfl rfl (bQ (bZ 4 rfl rfl) bX) (fun bb=>tN Z_70 (Ht rfl) (Ht rfl) rfl (i:=0) rfl (aK rfl) rfl rfl) (Y.D_done bA rfl (by kernel_rfl) rfl (by simp [Y.okP]) rfl rfl (bU (bU (bU (bU (bU (bU (Y.F_newp (fun B4=>Y.F_putN (Y.F_nil ?_))))))))))
 refine ra rfl (eX (ts (ro rfl (eJ Try.isAgg70 Z_70 (Ht rfl) (i:=2) rfl rfl rfl) (ro rfl (cZ Try.call35 (eQ (Jz (z:=qH) (s:=tE) (c:=tO) (i:=((2:Nat):Int)) (j:=((2:Nat):Int)) Og (by rw [Ak.1]; decide)) Rn) ⟨(Ht rfl),(cJ 2),(cJ 2),trivial⟩) ?_))))
 refine rm rfl (ro rfl (dK (Ht rfl) rfl) (ro rfl (dK (Ht rfl) rfl) (rn rfl (eW (Ts:=[Is (.bool false),Is (.slice none 0 0),Is (.bool false),Is (.slice none 0 0),Is (.slice none 0 0)]) O_30 rfl (fun V=>aW zd (aW zd (aW zd (aW zd (aW zd (aG))))))) fun B6=>(gQ Z_30 (Ht rfl) (Ht rfl) rfl (i:=3) rfl (aK rfl) rfl rfl (ra rfl (eX (cK (Y.D_start (m:=9) [] (bY (Ei:=[(4,_)]) rfl rfl (bQ (bJ rfl rfl) bX) rfl rfl (dX rfl (eJ Try.isAgg70 Z_70 (Ht rfl) (i:=2) rfl rfl rfl)) ?_)))))))))
 refine bY (Ei:=[]) rfl rfl bX rfl rfl (dX rfl (cZ K_5 (jJ (n:=0) (by decide) (by decide)) ⟨(cJ 0),trivial⟩)) (bY (Ei:=[]) rfl rfl bX rfl rfl (dX rfl (cZ K_5 (jJ (n:=290) (by decide) (by decide)) ⟨(cJ 290),trivial⟩)) (bY (Ei:=[(39,_),(40,_),(41,_)]) rfl rfl (bQ (bZ 0 rfl rfl) (bQ (bZ 1 rfl rfl) (bQ (bZ 2 rfl rfl) bX))) rfl rfl (dX rfl (cZ Try.call36 (eQ (Ez (z:=qH) (s:=tE) (c:=tO) (g:=Qi.ofInt 0) (t0:=Qi.ofInt 290) (L:=1000) (Al.le (by decide)) (Er.le (by decide)) Rp (Ro.le (by decide)) (Et.le (by decide)) (by decide) (by decide) Eu Ak (by decide)) Oh) ⟨(Ht rfl),(Ht rfl),(Ht rfl),trivial⟩)) ?_))
 refine bY (Ei:=[(42,_)]) rfl rfl (bQ (bZ 3 rfl rfl) bX) rfl rfl (dX rfl (cX (Ht rfl))) (bY (Ei:=[(38,_)]) rfl rfl (bQ (bZ 4 rfl rfl) bX) rfl rfl (dX rfl (dK (Ht rfl) rfl)) (bY (Ei:=[(38,_)]) rfl rfl (bQ (bZ 4 rfl rfl) bX) rfl rfl (dX rfl (dK (Ht rfl) rfl)) (Y.D_newp (Ei:=[]) (fun bb=>box bb 30 [aC (decide ((Qi.ofInt 4).a < 0)),aL (Qi.ofInt 4).a.natAbs,aC (decide ((Qi.ofInt 4).b < 0)),aL (Qi.ofInt 4).b.natAbs,aL (du (Qi.ofInt 4))]) 8 rfl rfl rfl bX rfl rfl (by kernel_rfl) (eW (Ts:=[Is (.bool false),Is (.slice none 0 0),Is (.bool false),Is (.slice none 0 0),Is (.slice none 0 0)]) O_30 rfl (fun V=>aW zd (aW zd (aW zd (aW zd (aW zd (aG))))))) ?_)))
 refine Y.D_putN (Ei:=[(43,_)]) 7 rfl rfl rfl rfl rfl rfl (bQ (bZ 5 rfl rfl) bX) (fun bb=>tN Z_30 (Ht rfl) (Ht rfl) rfl (i:=0) rfl (aK rfl) rfl rfl) (Y.D_done bA rfl (by kernel_rfl) rfl (by simp [Y.okP]) rfl rfl (bU (bU (bU (bU (bU (bU (bU (Y.F_newp (fun B8=>Y.F_putN (Y.F_nil ?_)))))))))))
 refine ra rfl (eX (ts (rm rfl (ro rfl (iV (Ht rfl) cV) (rm rfl (fQ rfl rfl (eK rfl rfl (Ht rfl) (fun h=>cX (Ht rfl))) (fQ rfl rfl (eK rfl rfl (Ht rfl) (fun h=>iV (fJ rfl h) cV)) (ro rfl (eO (Ht rfl) (fun h=>(fJ rfl h))) (rm rfl (fQ rfl rfl (eK rfl rfl (Ht rfl) (fun h=>cX (Ht rfl))) (fQ rfl rfl (eK rfl rfl (Ht rfl) (fun h=>iV (fJ rfl h) cV)) (ro rfl (eO (Ht rfl) (fun h=>(fJ rfl h))) (rm rfl (fQ rfl rfl (eK rfl rfl (Ht rfl) (fun h=>cX (Ht rfl))) (fQ rfl rfl (eK rfl rfl (Ht rfl) (fun h=>iV (fJ rfl h) cV)) ?_)))))))))))))))
 refine ro rfl (eO (Ht rfl) (fun h=>(fJ rfl h))) (rm rfl (fQ rfl rfl (eK rfl rfl (Ht rfl) (fun h=>eJ A_30 Z_30 (Ht rfl) (i:=3) rfl rfl rfl)) (fQ rfl rfl (eK rfl rfl (Ht rfl) (fun h=>cZ Try.call37 (Fc (x:=Qi.ofInt 10875) (L:=2) (hx:=(@fitInt 10875).le (by decide)) (by decide)) ⟨(fJ rfl h),trivial⟩)) (fQ rfl rfl (eK rfl rfl (Ht rfl) (fun h=>Hm (fJ rfl h) (aI.cS (l:=[49,48,56,55,53]) rfl))) (ro rfl (eO (Ht rfl) (fun h=>(fJ rfl h))) (rm rfl (fQ rfl rfl (eK rfl rfl (Ht rfl) (fun h=>eJ A_30 Z_30 (Ht rfl) (i:=4) rfl rfl rfl)) ?_)))))))
 refine fQ rfl rfl (eK rfl rfl (Ht rfl) (fun h=>cZ Try.call37 (Fc (x:=Qi.ofInt 4) (L:=2) (hx:=(@fitInt 4).le (by decide)) (by decide)) ⟨(fJ rfl h),trivial⟩)) (fQ rfl rfl (eK rfl rfl (Ht rfl) (fun h=>Hm (fJ rfl h) (aI.cS (l:=[52]) rfl))) (ro rfl (eO (Ht rfl) (fun h=>(fJ rfl h))) (ra rfl (eX (fW rfl (fX (eU rfl) ?_))))))
 exact (fL (by rw [Rq,Rr]; rfl))
end
section
open Go Go.RowKit
theorem Qi.zero_div (y:Qi):Qi.zero / y = Qi.zero:=by rw [Qi.div_def,Qi.zero_mul']
theorem Ib {x:Qi} (h:iQ x = true):x.im = 0 ∧ x.re ≠ 0:=by
 simp only [iQ,decide_eq_true_eq] at h
 exact ⟨Qi.b_zero.1 h.1,fun e=>by have:=Qi.a_zero.2 e; omega⟩
end
section
open Go Go.RowKit
namespace Qi
theorem wL {x:Qi}:0 ≤ x.a ↔ 0 ≤ x.re:=by
 have hk:0 < x.den / x.re.den:=Nat.div_pos (Nat.le_of_dvd x.den_pos (Nat.dvd_lcm_left _ _)) x.re.den_pos
 rw [← Rat.num_nonneg]
 show 0 ≤ x.re.num * ((x.den / x.re.den:Nat):Int) ↔ _
 generalize x.den / x.re.den = k at hk
 constructor
 ·intro h
  exact Int.nonneg_of_mul_nonneg_left h zo
 ·intro h; exact Int.mul_nonneg h zo
theorem a_neg {x:Qi}:x.a < 0 ↔ x.re < 0:=by
 have:=@wL x
 constructor
 ·intro h; rcases Rat.not_le.1 (fun k=>by have:=this.2 k; omega) with h; exact h
 ·intro h; exact Int.not_le.1 fun k=>Rat.not_le.2 h (this.1 k)
theorem a_pos {x:Qi}:0 < x.a ↔ 0 < x.re:=by
 have h1:=@wL x; have h2:=@a_zero x
 constructor
 ·intro h
  have h3:0 ≤ x.re:=h1.1 zo
  have h4:x.re ≠ 0:=fun e=>by have:=h2.2 e; omega
  exact Rat.lt_of_le_of_ne h3 (Ne.symm h4)
 ·intro h
  have h3:0 ≤ x.a:=h1.2 (by grind)
  have h4:x.a ≠ 0:=fun e=>by have:=h2.1 e; grind
  omega
end Qi
theorem Fq {m n:Int} (h1:m < 0 ↔ n < 0) (h2:0 < m ↔ 0 < n):iN m 0 = iN n 0:=by
 unfold iN
 by_cases a:m < 0
 ·rw [if_pos a,if_pos (h1.1 a)]
 ·rw [if_neg a, if_neg (fun k => a (h1.2 k))]
  by_cases b:0 < m
  ·rw [if_pos b,if_pos (h2.1 b)]
  ·rw [if_neg b,if_neg (fun k=>b (h2.2 k))]
theorem Fr (m n:Int):iN m n = iN (m - n) 0:=by
 unfold iN
 by_cases a:m < n
 ·rw [if_pos a,if_pos zo]
 ·rw [if_neg a, if_neg (by omega : ¬ m - n < 0)]
  by_cases b:n < m
  ·rw [if_pos b,if_pos zo]
  ·rw [if_neg b,if_neg zo]
def lP (x y:Qi):Int:=iN (x - y).a 0
theorem Bb {x y:Qi}:lP x y < 0 ↔ x.re < y.re:=by
 rw [lP,Fp,Qi.a_neg]; show x.re - y.re < 0 ↔ _; constructor <;> intro h <;> grind
theorem Az {x y:Qi}:0 < lP x y ↔ y.re < x.re:=by
 rw [lP,wV,Qi.a_pos]; show 0 < x.re - y.re ↔ _; constructor <;> intro h <;> grind
theorem Ba {x y:Qi}:lP x y ≤ 0 ↔ x.re ≤ y.re:=by
 have:=@Az x y
 constructor
 ·intro h; exact Rat.not_lt.1 fun k=>by have:=this.2 k; omega
 ·intro h; exact Int.not_lt.1 fun k=>Rat.not_lt.2 h (this.1 k)
theorem jP {x y:Qi} (hx:x.b = 0) (hy:y.b = 0):lO x y = lP x y:=by
 have e2:iN (x.b * y.den) (y.b * x.den) = 0:=by rw [hx,hy]; simp [iN]
 have h0 : x - y = Qi.mk' (x.a * y.den + -y.a * x.den) (x.b * y.den + -y.b * x.den) (x.den * y.den) := by
  obtain ⟨n1,n2,n3⟩:=Qi.neg_a y
  rw [Qi.sub_def,← Qi.mk_add,n1,n2,n3]
 obtain ⟨k,hk,_,h2,_⟩:=Qi.mk_scale (x.a * y.den + -y.a * x.den) (x.b * y.den + -y.b * x.den) (Nat.mul_pos x.den_pos y.den_pos)
 rw [← h0] at h2
 have e1 : iN (x.a * y.den) (y.a * x.den) = lP x y := by
  rw [Fr,lP]
  have e:x.a * y.den - y.a * x.den = (x - y).a * k:=by rw [← h2,Int.neg_mul]; omega
  rw [e]
  refine Fq ?_ ?_
  ·constructor
   ·intro h; exact Int.not_le.1 fun g=>by have:=Int.mul_nonneg g (by omega:(0:Int) ≤ k); omega
   ·intro h; exact Int.mul_neg_of_neg_of_pos h zo
  ·constructor
   ·intro h; exact Int.not_le.1 fun g=>by have:=Int.mul_nonpos_of_nonpos_of_nonneg g (by omega:(0:Int) ≤ k); omega
   ·intro h; exact Int.mul_pos h zo
 unfold lO
 rw [e1,e2]
 by_cases h:lP x y ≠ 0
 ·rw [if_pos h]
 ·rw [if_neg h]; exact (Decidable.not_not.1 h).symm
abbrev eF (l:List (Qi × Qi)) (i:Nat):Qi:=(l.getD i (Qi.zero,Qi.zero)).1
abbrev eV (l:List (Qi × Qi)) (i:Nat):Qi:=(l.getD i (Qi.zero,Qi.zero)).2
structure My (l:List (Qi × Qi)) (f:Qi):Prop where
 real:∀ i,i < l.length → (eF l i).b = 0 ∧ (eV l i).b = 0
 up:∀ i,0 < i → i < l.length → (eF l (i - 1)).re < (eF l i).re
 fr:f.b = 0
theorem Qg {x:Qi} (h:iQ x = true):x.b = 0:=by simp only [iQ,decide_eq_true_eq] at h; exact h.1
theorem My.mono {l : List (Qi × Qi)} {f : Qi} (h : My l f) {i : Nat} : ∀ {j : Nat}, i < j → j < l.length → (eF l i).re < (eF l j).re
 | 0,h1,_=>by omega
 | j + 1, h1, h2 => by
  have h3:=h.up (j + 1) zo h2
  rw [Nat.add_sub_cancel] at h3
  by_cases e:i = j
  ·rw [e]; exact h3
  ·have := h.mono (i := i) (j := j) zo zo
   grind
theorem Qi.sub_ne {x y : Qi} (h : x.re ≠ y.re) : x - y ≠ Qi.zero := fun e => h (by
 have:(x - y).re = 0:=by rw [e]; rfl
 have h2:x.re - y.re = 0:=this
 grind)
def Rb (l:List (Qi × Qi)) (L:Nat):Prop:=∀ e,e ∈ l → aH e.1 L ∧ aH e.2 L
theorem Rb.get {l:List (Qi × Qi)} {L:Nat} (h:Rb l L) (hL:1 ≤ L) (i:Nat):aH (eF l i) L ∧ aH (eV l i) L:=by
 by_cases hi:i < l.length
 ·have e : l.getD i (Qi.zero, Qi.zero) = l[i] := by simp [List.getD, hi]
  show aH (l.getD i _).1 L ∧ aH (l.getD i _).2 L
  rw [e]; exact h _ (List.getElem_mem hi)
 ·have e : l.getD i (Qi.zero, Qi.zero) = (Qi.zero, Qi.zero) := by simp [List.getD, List.getElem?_eq_none (Nat.le_of_not_lt hi)]
  show aH (l.getD i _).1 L ∧ aH (l.getD i _).2 L
  rw [e]; exact ⟨aH.zero hL,aH.zero hL⟩
end
section
open Go Go.RowKit
theorem Ju {x:Qi} {L:Nat} [hx:aH x L] (h:L ≤ 8796093022208):aT Try.prog 39 [aF x] (aC (iQ x)):=by
 refine aT.intro Try.func39 rfl Try.ntmps39 rfl (fun cx=>(ts (rn rfl (fG (Ht rfl)) fun B1=>(ro rfl (cQ cV) (eX (cK (fZ (m:=5) (dp 1 rfl (eJ A_30 Z_30 (Ht rfl) (i:=0) rfl rfl rfl) (dq 3 0 rfl (cZ K_38 oO ⟨(Ht rfl),trivial⟩) (dq 4 1 rfl (cX (Ht rfl)) (C.D_step (Ei:=[(1,_),(5,_)]) rfl rfl (bV (bK rfl rfl) (bV (bG 2 rfl rfl) bW)) (eK rfl rfl (Ht rfl) (fun h=>eJ A_30 Z_30 (Ht rfl) (i:=0) rfl rfl rfl)) (C.D_step (Ei:=[(5,_)]) rfl rfl (bV (bG 2 rfl rfl) bW) (eK rfl rfl (Ht rfl) (fun h=>cZ K_5 (jJ (n:=0) (by decide) (by decide)) ⟨(cJ 0),trivial⟩)) ?_))))))))))))
 refine fV bA rfl (by kernel_rfl) (zF (aJ (aV (fQ rfl rfl (eK rfl rfl (Ht rfl) (fun h=>cZ K_15 (mG (x:=x) (y:=Qi.ofInt 0) (L:=L) (M:=1) (hy:=(aH.zero (Nat.le_refl 1):aH (Qi.ofInt 0) 1)) zo) ⟨(fJ rfl h),(fJ rfl h),trivial⟩)) (fQ rfl rfl (eK rfl rfl (Ht rfl) (fun h=>qO (fJ rfl h) cV)) (ro rfl (eO (Ht rfl) (fun h=>(fJ rfl h))) (ra rfl (eX (fW rfl (fX (eU rfl) ?_))))))))))
 exact (fL (zN x))
theorem vH {x y:Qi} {L M:Nat} [hx:aH x L] [hy:aH y M] (h:L + 3 * M + 2 ≤ 17592186044415):aT Try.prog 16 [aF x,aF y] (aF (x / y)):=by
 refine aT.intro Try.func16 rfl Try.ntmps16 rfl (fun cx=>(ts (rn rfl (fG (Ht rfl)) fun B2=>(rn rfl (fG (Ht rfl)) fun B3=>(rn rfl (eW (Ts:=[Is (.bool false),Is (.slice none 0 0),Is (.bool false),Is (.slice none 0 0),Is (.slice none 0 0)]) O_30 rfl (fun V=>aW zd (aW zd (aW zd (aW zd (aW zd (aG))))))) fun B4=>(eX (ts (ro rfl (eJ A_30 Z_30 (Ht rfl) (i:=0) rfl rfl rfl) (ro rfl (eJ A_30 Z_30 (Ht rfl) (i:=1) rfl rfl rfl) ?_)))))))))
 refine ro rfl (cZ Try.call9 (Ey zo) ⟨(Ht rfl),(Ht rfl),trivial⟩) (rm rfl (ro rfl (dK (Ht rfl) rfl) (ro rfl (dK (Ht rfl) rfl) (rn rfl (eW (Ts:=[Is (.bool false),Is (.slice none 0 0),Is (.bool false),Is (.slice none 0 0),Is (.slice none 0 0)]) O_30 rfl (fun V=>aW zd (aW zd (aW zd (aW zd (aW zd (aG))))))) fun B5=>(gQ Z_30 (Ht rfl) (Ht rfl) rfl (i:=3) rfl (aK rfl) rfl rfl (ra rfl (eX ?_)))))))
 refine ts (ro rfl (eJ A_30 Z_30 (Ht rfl) (i:=3) rfl rfl rfl) (gQ Z_30 (Ht rfl) (Ht rfl) rfl (i:=2) rfl (aK rfl) rfl rfl (eX ?_)))
 exact fW rfl (fK A_30 Z_30 rfl (i:=2) rfl rfl)
end
section
open Go Go.RowKit
def Iz (k:FloatKind) (Q:Nat → Prop):Ty:=⟨fun v _=>∃ b,v = .float k b ∧ Q b,fun h _=>h⟩
def Ea (k:FloatKind) (Q:Nat → Nat → Prop):Ty:=⟨fun v _=>∃ a b,v = .complex k a b ∧ Q a b,fun h _=>h⟩
abbrev yE (k:FloatKind) (b:Nat):Ty:=Iz k (fun x=>x = b)
instance shFlT (k:FloatKind) (Q:Nat → Prop):cB (Iz k Q) 1 false:=dC fun v V h=>by obtain ⟨b,rfl,_⟩:=h; trivial
instance shCxT (k:FloatKind) (Q:Nat → Nat → Prop):cB (Ea k Q) 1 false:=dC fun v V h=>by obtain ⟨a,b,rfl,_⟩:=h; trivial
theorem aI.cF {E:bC} {k:FloatKind} {b:Nat}:aI E (.const (.float k b)) (yE k b):=fun _ _ _ _=>⟨b,rfl,rfl⟩
theorem pP {k:FloatKind} {Q R:Nat → Prop} (h:∀ b,Q b → R b):∀ v V,(Iz k Q).p v V → (Iz k R).p v V:=fun _ _ ⟨b,e,q⟩=>⟨b,e,h b q⟩
theorem Kl {k:FloatKind} {Q R:Nat → Nat → Prop} (h:∀ a b,Q a b → R a b):∀ v V,(Ea k Q).p v V → (Ea k R).p v V:=fun _ _ ⟨a,b,e,q⟩=>⟨a,b,e,h a b q⟩
def oJ (s k : FloatKind) (p a : Nat) : Prop :=
 if s = k then a = p else match s.decode p with
 | .nan _ _=>∃ t,a = (Question.nanConv k p).cut t
 | .infinity n=>a = k.encode (.infinity n)
 | .number n m e=>if (k.decode (k.encode (.number n m e))).isInfinity then ∃ t,a = (Question.floatToFloat p).cut t else a = k.encode (.number n m e)
structure Co (P:Program) (f:FuncId) (e:Array Value → Sem Value):Prop where
 run:∀ args w,(callFunc f args).run P w = ((e args).run P w).andThen fun v w'=>.ok (.value v) w'
@[irreducible] def Ej (a:Nat):Nat:=a % 9223372036854775808
theorem Aj (a:Nat):Ej a = a % 9223372036854775808:=by unfold Ej; rfl
section
variable {P:Program} {R:eE} {cx:Cx} {n:Nat} {k:List It} {E:bC} {H:Hp} {ops:Array Oper} {o:Oper} {rest:List Oper}
theorem Hr {T : Ty} (h : ∀ (a : Act) (V : aD) (w : World), bP n E V a → ∃ v w', (execOp a.eval o).run P w = .ok (.value v) w' ∧ (∀ cx H, dO cx V H w → dO cx V H w') ∧ T.p v V) : aB P n E H o T :=
 fun cx X a w V hi hs K Q hK => by
  obtain ⟨v,w',h1,h3,h2⟩:=h a V w hs
  simp only [Oper.wp,h1,Oper.upon_value]
  exact hK v w' V (h3 _ _ hi) (iZ.refl V) h2
theorem sY (s k:FloatKind) (p:Nat) (w:World):∃ a w',(Conv.floatToFloat s p k).run P w = .ok (.float k a) w' ∧ (∀ cx V H,dO cx V H w → dO cx V H w') ∧ oJ s k p a:=by
 unfold Conv.floatToFloat oJ
 split
 ·exact ⟨p,w,rfl,fun _ _ _ h=>h,rfl⟩
 ·cases s.decode p with
  | nan a b=>exact ⟨(Question.nanConv k p).cut (w.tape w.drawn (.nanConv k p)),w.drew,by simp [Sem.run_bind,run_choose_drew,Question.forced,Result.andThen],fun _ _ _ h=>h.drew,_,rfl⟩
  | infinity a=>exact ⟨_,w,rfl,fun _ _ _ h=>h,rfl⟩
  | number a b c =>
   simp only
   split
   ·exact ⟨(Question.floatToFloat p).cut (w.tape w.drawn (.floatToFloat p)),w.drew,by simp [Sem.run_bind,run_choose_drew,Question.forced,Result.andThen],fun _ _ _ h=>h.drew,_,rfl⟩
   ·exact ⟨_,w,rfl,fun _ _ _ h=>h,rfl⟩
section
variable {d:Option Tmp} {t tx ty:TypeId} {pos:String} {af:Array Edge} {g:Option (Nat × Bool)}
theorem zI {x y : Operand} {k : FloatKind} {Q S : Nat → Prop} {tys : Array TypeId} (hx : aI E x (Iz k Q)) (hy : aI E y (Iz k S)) :
  aB P n E H ⟨d,.call ⟨.builtin .complex,#[x,y],tys⟩,t,pos,af,g⟩ (Ea k (fun a b=>Q a ∧ S b)) :=
 bM fun c V w hs => by
  obtain ⟨a,ex,qa⟩:=hx n V c hs
  obtain ⟨b,ey,qb⟩:=hy n V c hs
  have e : ∀ tt, Builtin.complex_ tys tt #[.float k a, .float k b] = pure (.complex k a b) := fun tt => by
   have : Builtin.complex_ tys tt #[.float k a, .float k b] = (if k = k then pure (.complex k a b) else stuck "complex: parts of different kinds") := rfl
   rw [this,if_pos rfl]
  exact ⟨.complex k a b,by simp [execOp,resolve,ex,ey,invoke,builtin,e,Sem.run_bind,Result.andThen],a,b,rfl,qa,qb⟩
theorem By {x : Operand} {k : FloatKind} {Q : Nat → Nat → Prop} {tys : Array TypeId} (hx : aI E x (Ea k Q)) :
  aB P n E H ⟨d,.call ⟨.builtin .real,#[x],tys⟩,t,pos,af,g⟩ (Iz k (fun a=>∃ b,Q a b)) :=
 bM fun c V w hs => by
  obtain ⟨a,b,ex,qa⟩:=hx n V c hs
  have e:∀ tt,Builtin.real_ tys tt #[.complex k a b] = pure (.float k a):=fun tt=>rfl
  exact ⟨.float k a,by simp [execOp,resolve,ex,invoke,builtin,e,Sem.run_bind,Result.andThen],a,rfl,b,qa⟩
theorem Bu {x : Operand} {k : FloatKind} {Q : Nat → Nat → Prop} {tys : Array TypeId} (hx : aI E x (Ea k Q)) :
  aB P n E H ⟨d,.call ⟨.builtin .imag,#[x],tys⟩,t,pos,af,g⟩ (Iz k (fun b=>∃ a,Q a b)) :=
 bM fun c V w hs => by
  obtain ⟨a,b,ex,qa⟩:=hx n V c hs
  have e:∀ tt,Builtin.imag_ tys tt #[.complex k a b] = pure (.float k b):=fun tt=>rfl
  exact ⟨.float k b,by simp [execOp,resolve,ex,invoke,builtin,e,Sem.run_bind,Result.andThen],b,rfl,a,qa⟩
theorem Hi {x : Operand} {s k : FloatKind} {Q : Nat → Nat → Prop} (hs : ∀ w, (underlying tx).run P w = .ok (.complex s) w) (hd : ∀ w, (underlying ty).run P w = .ok (.complex k) w) (hx : aI E x (Ea s Q)) :
  aB P n E H ⟨d,.convert tx ty x,t,pos,af,g⟩ (Ea k (fun a b=>∃ p q,Q p q ∧ oJ s k p a ∧ oJ s k q b)) :=
 Hr fun c V w hsl => by
  obtain ⟨p,q,ex,qa⟩:=hx n V c hsl
  obtain ⟨a,w1,h1,i1,c1⟩:=sY (P:=P) s k p w
  obtain ⟨b,w2,h2,i2,c2⟩:=sY (P:=P) s k q w1
  exact ⟨.complex k a b,w2,by simp [execOp,ex,convert,Sem.run_bind,hs,hd,Conv.complexToComplex,h1,h2,Result.andThen],fun _ _ h=>i2 _ _ _ (i1 _ _ _ h),a,b,rfl,p,q,qa,c1,c2⟩
theorem uH {x : Operand} {s : IntKind} {k : FloatKind} {m : Int} {kd : IntKind} (hs : ∀ w, (underlying tx).run P w = .ok (.int s) w) (hd : ∀ w, (underlying ty).run P w = .ok (.float k) w) (hx : aI E x (aE kd m)) :
  aB P n E H ⟨d,.convert tx ty x,t,pos,af,g⟩ (yE k (k.nearest m)) :=
 bM fun c V w hsl => by
  have ex:c.eval x = .int kd m:=hx n V c hsl
  exact ⟨.float k (k.nearest m),by simp [execOp,ex,convert,Sem.run_bind,hs,hd,Conv.intToFloat],_,rfl,rfl⟩
def Ks (op : BinOp) (k : FloatKind) (x y : Nat) : Option Bool :=
 let c:=k.format.order x y
 match op with
 | .eql=>some (c == some .eq)
 | .neq=>some (c != some .eq)
 | .lss=>some (c == some .lt)
 | .leq=>some (c == some .lt || c == some .eq)
 | .gtr=>some (c == some .gt)
 | .geq=>some (c == some .gt || c == some .eq)
 | _=>none
theorem Bt {op : BinOp} {k : FloatKind} {Q S : Nat → Prop} {r : Bool} {x y : Operand} (hx : aI E x (Iz k Q)) (hy : aI E y (Iz k S)) (h : ∀ a b, Q a → S b → Ks op k a b = some r) :
  aB P n E H ⟨d,.binOp op tx x y ty,t,pos,af,g⟩ (aC r) :=
 bM fun c V w hs => by
  obtain ⟨a,ex,qa⟩:=hx n V c hs
  obtain ⟨b,ey,qb⟩:=hy n V c hs
  have hr:=h a b qa qb
  refine ⟨.bool r,?_,rfl⟩
  have hg:∀ u v:Operand,eqGuard op tx u v (.float k a) (.float k b) = pure ():=fun u v=>by unfold eqGuard; split <;> rfl
  cases op <;> simp only [Ks,Option.some.injEq,reduceCtorEq] at hr <;> subst hr <;> simp [execOp,ex,ey,binOp,Op.floatCmp,hg,Sem.run_bind,Result.andThen]
theorem Hq {f : FuncId} {xs : List Operand} {tys : Array TypeId} {T : Ty} {e : Array Value → Sem Value} (hc : Co P f e)
  (h:∀ (a:Act) (V:aD) (w:World),bP n E V a → ∃ v,(e (xs.map a.eval).toArray).run P w = .ok v w ∧ T.p v V) :
  aB P n E H ⟨d,.call ⟨.value (.func f),xs.toArray,tys⟩,t,pos,af,g⟩ T :=
 bM fun a V w hs => by
  obtain ⟨v,h1,h2⟩:=h a V w hs
  exact ⟨v,by simp [execOp,resolve,Act.eval,Deferred.ofValue,invoke,hc.run,h1,Result.andThen],h2⟩
theorem uG {f : FuncId} {x : Operand} {tys : Array TypeId} {b : Nat} (hc : Co P f Extern.MathFloatBits.float64bits) (hx : aI E x (yE .f64 b)) :
  aB P n E H ⟨d,.call ⟨.value (.func f),[x].toArray,tys⟩,t,pos,af,g⟩ (NT .u64 b) :=
 Hq hc fun a V w hs => by
  obtain ⟨c,ex,rfl⟩:=hx n V a hs
  have e:Extern.MathFloatBits.float64bits #[.float .f64 c] = pure (.int .u64 c):=rfl
  exact ⟨.int .u64 c,by simp [ex,e],rfl⟩
theorem tM {f : FuncId} {x : Operand} {tys : Array TypeId} {b : Nat} (hc : Co P f Extern.MathFloatBits.float64frombits) (hx : aI E x (NT .u64 b)) :
  aB P n E H ⟨d,.call ⟨.value (.func f),[x].toArray,tys⟩,t,pos,af,g⟩ (yE .f64 b) :=
 Hq hc fun a V w hs => by
  have ex:a.eval x = .int .u64 (b:Int):=hx n V a hs
  have e:Extern.MathFloatBits.float64frombits #[.int .u64 (b:Int)] = pure (.float .f64 b):=rfl
  exact ⟨.float .f64 b,by simp [ex,e],b,rfl,rfl⟩
theorem Hh {x : Operand} {a : Nat} (hx : aI E x (NT .u64 a)) (ha : a < 18446744073709551616) : aB P n E H ⟨d, .binOp .andNot tx x (.const (.int .u64 9223372036854775808)) ty, t, pos, af, g⟩ (NT .u64 (Ej a)) :=
 gP hx (cJ 9223372036854775808) fun w => by
  rw [Aj]
  have e : IntKind.u64.wrap (BitVec.ofInt IntKind.u64.bits (a : Int) &&& ~~~BitVec.ofInt IntKind.u64.bits ((9223372036854775808 : Nat) : Int)).toNat = ((a % 9223372036854775808 : Nat) : Int) := by
   have h1:(~~~BitVec.ofInt IntKind.u64.bits ((9223372036854775808:Nat):Int)).toNat = 2 ^ 63 - 1:=by decide
   have h2:(BitVec.ofInt IntKind.u64.bits (a:Int)).toNat = a:=hY _ _ (by show a < 18446744073709551616; exact ha)
   rw [BitVec.toNat_and,h2,h1,Nat.and_two_pow_sub_one_eq_mod,show (2:Nat) ^ 63 = 9223372036854775808 by decide]
   exact nR (by show _ < 18446744073709551616; omega)
  rw [← e]
  simp [eqGuard,binOp,Op.intBits,pure,Sem.run,bind,Sem.bind]
theorem Lw {x y z : Operand} {kd : IntKind} {a b c : Int} {tys : Array TypeId} (hx : aI E x (aE kd a)) (hy : aI E y (aE kd b)) (hz : aI E z (aE kd c)) : aB P n E H ⟨d, .call ⟨.builtin .max, #[x, y, z], tys⟩, t, pos, af, g⟩ (aE kd (max (max a b) c)) :=
 bM fun u V w hs => by
  have ex:u.eval x = .int kd a:=hx n V u hs
  have ey:u.eval y = .int kd b:=hy n V u hs
  have ez:u.eval z = .int kd c:=hz n V u hs
  refine ⟨.int kd (if c > (if b > a then b else a) then c else (if b > a then b else a)),?_,?_⟩
  ·simp [execOp,resolve,ex,ey,ez,invoke,builtin,Builtin.max_,Builtin.max2,Sem.run_bind,Result.andThen]
  ·show Value.int kd _ = Value.int kd _
   congr 1; split <;> split <;> omega
theorem Lv {x y : Operand} {kd : IntKind} {a b : Int} {tys : Array TypeId} (hx : aI E x (aE kd a)) (hy : aI E y (aE kd b)) : aB P n E H ⟨d, .call ⟨.builtin .max, #[x, y], tys⟩, t, pos, af, g⟩ (aE kd (max a b)) :=
 bM fun u V w hs => by
  have ex:u.eval x = .int kd a:=hx n V u hs
  have ey:u.eval y = .int kd b:=hy n V u hs
  refine ⟨.int kd (if b > a then b else a),?_,?_⟩
  ·simp [execOp,resolve,ex,ey,invoke,builtin,Builtin.max_,Builtin.max2,Sem.run_bind,Result.andThen]
  ·show Value.int kd _ = Value.int kd _
   congr 1; split <;> omega
end
end
theorem xA {P : Program} {f : FuncId} {fn : Func} {e : Array Value → Sem Value} (hf : P.funcs[f]? = some fn) (hname : (fn.name == "runtime.NumGoroutine") = false)
  (hb:fn.body.isNone = true) (hn:Extern.findNext fn = none) (he:Extern.find fn = some e):Co P f e :=
 ⟨fun args w=>run_callFunc_extern hf hname hb hn he args w⟩
end
section
namespace Fl
open Ieee
@[irreducible] def No:Nat:=925
theorem Ix:No = 925:=by unfold No; rfl
def mg (f:Format) (r:Nat):Nat:=if r < f.binade then r else f.binade + r % f.binade
def up (f:Format) (r:Nat):Nat:=r / f.binade - 1
def nn (f:Format) (r:Nat):Nat:=mg f r * 2 ^ up f r
def rg (f:Format) (x:Nat):Nat:=x % f.signWeight
def ng (f:Format) (x:Nat):Bool:=x / f.signWeight % 2 == 1
def fin (f:Format) (x:Nat):Bool:=decide (rg f x < f.infRung)
def av (f:Format) (x:Nat):Int:=if ng f x then -(nn f (rg f x):Int) else nn f (rg f x)
theorem Am (f:Format):0 < f.binade:=Nat.two_pow_pos _
theorem nI {f:Format} {x:Nat} (h:fin f x = true):f.read x = .number (ng f x) (mg f (rg f x)) (f.leastPlace + (up f (rg f x):Nat)):=by
 have h:rg f x < f.infRung:=by simpa [fin] using h
 have e : f.read x = (if rg f x < f.binade then .number (ng f x) (rg f x) f.leastPlace else if rg f x < f.infRung then
  .number (ng f x) (f.binade + rg f x % f.binade) (f.leastPlace + (rg f x / f.binade - 1:Nat)) else if rg f x = f.infRung then .infinity (ng f x) else .nan (ng f x) (rg f x - f.infRung)):=rfl
 rw [e]
 generalize rg f x = r at *
 unfold mg up
 by_cases hb:r < f.binade
 ·rw [if_pos hb,if_pos hb,Nat.div_eq_of_lt hb]; simp
 ·rw [if_neg hb,if_neg hb,if_pos h]
theorem Lj {f:Format} {r s:Nat} (h:r < s):nn f r < nn f s:=by
 have hb:=Am f
 unfold nn mg up
 generalize f.binade = b at *
 have d1:=Nat.div_add_mod r b
 have d2:=Nat.div_add_mod s b
 have m1:=Nat.mod_lt r hb
 have m2:=Nat.mod_lt s hb
 by_cases hr:r < b
 ·rw [if_pos hr]
  have:r / b - 1 = 0:=by rw [Nat.div_eq_of_lt hr]
  rw [this]
  by_cases hs:s < b
  ·rw [if_pos hs,Nat.div_eq_of_lt hs]; simpa using h
  ·rw [if_neg hs]
   have:1 ≤ 2 ^ (s / b - 1):=Nat.two_pow_pos _
   have:=Nat.mul_le_mul (Nat.le_refl (b + s % b)) this
   omega
 ·have hs : ¬ s < b := by omega
  rw [if_neg hr,if_neg hs]
  have q1:1 ≤ r / b:=(Nat.le_div_iff_mul_le hb).2 zo
  have q2:r / b ≤ s / b:=Nat.div_le_div_right (Nat.le_of_lt h)
  rcases Nat.eq_or_lt_of_le q2 with e | l
  ·rw [← e]
   have:r % b < s % b:=by rw [← e] at d2; omega
   exact Nat.mul_lt_mul_of_pos_right zo (Nat.two_pow_pos _)
  ·have e1 : s / b - 1 = (r / b - 1) + 1 + (s / b - 1 - (r / b - 1) - 1) := by omega
   rw [e1,Nat.pow_add,Nat.pow_succ]
   have p1:=Nat.two_pow_pos (r / b - 1)
   have p2:=Nat.two_pow_pos (s / b - 1 - (r / b - 1) - 1)
   generalize 2 ^ (r / b - 1) = x at *
   generalize 2 ^ (s / b - 1 - (r / b - 1) - 1) = y at *
   have a1:(b + r % b) * x < (2 * b) * x:=Nat.mul_lt_mul_of_pos_right zo p1
   have a2:(2 * b) * x = b * (x * 2 * 1):=by grind
   have a3:b * (x * 2 * 1) ≤ (b + s % b) * (x * 2 * y):=Nat.mul_le_mul zo (Nat.mul_le_mul (Nat.le_refl _) p2)
   omega
theorem Sr {f:Format} {r s:Nat} (h:r ≤ s):nn f r ≤ nn f s:=by
 rcases Nat.eq_or_lt_of_le h with e | l
 ·rw [e]; exact Nat.le_refl _
 ·exact Nat.le_of_lt (Lj l)
theorem Da (a b:Int) {c:Int} (h:0 < c):compare (a * c) (b * c) = compare a b:=by
 simp only [compare,compareOfLessAndEq]
 have e1:(a * c < b * c) ↔ a < b:=⟨fun k=>Int.lt_of_mul_lt_mul_right k (Int.le_of_lt h),fun k=>Int.mul_lt_mul_of_pos_right k h⟩
 have e2:(a * c = b * c) ↔ a = b:=⟨fun k=>Int.eq_of_mul_eq_mul_right (Int.ne_of_gt h) k,fun k=>by rw [k]⟩
 simp only [e1,e2]
theorem qC (s:Bool) (m u w:Nat) (h:w ≤ u):(if s then -((m * 2 ^ u:Nat):Int) else ((m * 2 ^ u:Nat):Int)) = signed s m (u - w) * (2 ^ w:Nat):=by
 have e : m * 2 ^ u = (m <<< (u - w)) * 2 ^ w := by
  rw [Nat.shiftLeft_eq,Nat.mul_assoc,← Nat.pow_add]; congr 2; omega
 unfold signed
 rw [e]; push_cast
 cases s <;> simp [Int.neg_mul]
theorem uJ {f:Format} {x y:Nat} (hx:fin f x = true) (hy:fin f y = true):f.order x y = some (compare (av f x) (av f y)):=by
 unfold Format.order
 rw [nI hx,nI hy]
 simp only [Datum.order]
 generalize f.leastPlace = L
 unfold av nn
 generalize mg f (rg f x) = m
 generalize mg f (rg f y) = n
 generalize up f (rg f x) = u
 generalize up f (rg f y) = v
 congr 1
 have hw:(0:Int) < ((2 ^ (min u v):Nat):Int):=by have:=Nat.two_pow_pos (min u v); omega
 rw [qC (ng f x) m u (min u v) (Nat.min_le_left _ _),qC (ng f y) n v (min u v) (Nat.min_le_right _ _),Da _ _ hw]
 have e1:(L + (u:Int) - min (L + (u:Int)) (L + (v:Int))).toNat = u - min u v:=by omega
 have e2:(L + (v:Int) - min (L + (u:Int)) (L + (v:Int))).toNat = v - min u v:=by omega
 rw [e1,e2]
theorem oW {f:Format} {x:Nat} (hf:f.binade ≤ f.infRung) (h:fin f x = false):f.read x = (if rg f x = f.infRung then .infinity (ng f x) else .nan (ng f x) (rg f x - f.infRung)):=by
 have h:¬ rg f x < f.infRung:=by simpa [fin] using h
 have e : f.read x = (if rg f x < f.binade then .number (ng f x) (rg f x) f.leastPlace else if rg f x < f.infRung then
  .number (ng f x) (f.binade + rg f x % f.binade) (f.leastPlace + (rg f x / f.binade - 1:Nat)) else if rg f x = f.infRung then .infinity (ng f x) else .nan (ng f x) (rg f x - f.infRung)):=rfl
 rw [e,if_neg zo,if_neg h]
theorem bs:single.binade ≤ single.infRung:=by decide
theorem bd:double.binade ≤ double.infRung:=by decide
theorem Td:single.signWeight = 2147483648:=by decide
theorem pA:double.signWeight = 9223372036854775808:=by decide
theorem La:single.infRung = 2139095040:=by decide
theorem zA:double.infRung = 9218868437227405312:=by decide
theorem Ct:single.binade = 8388608:=by decide
theorem Jl:double.binade = 4503599627370496:=by decide
theorem Fs (a:Int):compare a a = .eq:=by simp [compare,compareOfLessAndEq]
theorem yY (a b:Int):(compare a b == .lt) = decide (a < b):=by
 simp only [compare,compareOfLessAndEq]
 by_cases k:a < b
 ·rw [if_pos k]; simp [k]
 ·rw [if_neg k]
  by_cases k2:a = b
  ·rw [if_pos k2]; simp [k]
  ·rw [if_neg k2]; simp [k]
theorem Oz (a b:Int):(compare a b == .gt) = decide (b < a):=by
 simp only [compare,compareOfLessAndEq]
 by_cases k:a < b
 ·rw [if_pos k]; have : ¬ b < a := by omega
  simp [this]
 ·rw [if_neg k]
  by_cases k2:a = b
  ·rw [if_pos k2]; simp [k2]
  ·rw [if_neg k2]; have : b < a := by omega
   simp [this]
theorem zM {f:Format} {x:Nat} (hf:f.binade ≤ f.infRung):(f.order x x != some .eq) = decide (f.infRung < rg f x):=by
 by_cases h:fin f x = true
 ·rw [uJ h h, Fs]
  have:rg f x < f.infRung:=by simpa [fin] using h
  have:¬ f.infRung < rg f x:=by omega
  simp [this]
 ·have h : fin f x = false := by simpa using h
  have h':¬ rg f x < f.infRung:=by simpa [fin] using h
  unfold Format.order
  rw [oW hf h]
  by_cases e:rg f x = f.infRung
  ·rw [if_pos e]; have : ¬ f.infRung < rg f x := by omega
   simp [Datum.order,this]
  ·rw [if_neg e]; have : f.infRung < rg f x := by omega
   simp [Datum.order,this]
theorem En (f:Format) (x:Nat):(av f x).natAbs = nn f (rg f x):=by unfold av; split <;> omega
theorem Eo {f:Format} {x:Nat} (h:ng f x = false):av f x = nn f (rg f x):=by unfold av; rw [h]; rfl
theorem Rm (f:Format) (x:Nat):av f x ≤ nn f (rg f x) ∧ -(nn f (rg f x):Int) ≤ av f x:=by have:=En f x; omega
theorem Ph {f:Format} {x m:Nat} (hf:f.binade ≤ f.infRung) (hm:rg f m + 1 = f.infRung) (hn:ng f m = false):(f.order x m == some .gt) = (decide (rg f x = f.infRung) && !ng f x):=by
 have mf:fin f m = true:=by simp [fin]; omega
 by_cases h:fin f x = true
 ·rw [uJ h mf]
  have h2:rg f x < f.infRung:=by simpa [fin] using h
  have h3:nn f (rg f x) ≤ nn f (rg f m):=Sr zo
  have h4:=Rm f x
  have h5:¬ rg f x = f.infRung:=by omega
  have h6:¬ av f m < av f x:=by rw [Eo hn]; omega
  rw [Option.some_beq_some,Oz]; simp [h5,h6]
 ·have h : fin f x = false := by simpa using h
  unfold Format.order
  rw [oW hf h,nI mf]
  by_cases e:rg f x = f.infRung
  ·rw [if_pos e]; simp only [Datum.order,e,decide_true,Bool.true_and]; cases ng f x <;> rfl
  ·rw [if_neg e]; simp [Datum.order,e]
def kZ (a:Nat):Nat:=a / 4503599627370496 % 2048
def qL (a:Nat):Nat:=if kZ a = 0 then a % 4503599627370496 else 4503599627370496 + a % 4503599627370496
theorem Mf {a : Nat} (ha : a < 18446744073709551616) : rg double a = a % 9223372036854775808 ∧ ng double a = decide (9223372036854775808 ≤ a) ∧ rg double a / 4503599627370496 = kZ a ∧
  rg double a % 4503599627370496 = a % 4503599627370496 ∧ mg double (rg double a) = qL a ∧ up double (rg double a) = kZ a - 1 ∧ fin double a = decide (kZ a ≠ 2047):=by
 have r:rg double a = a % 9223372036854775808:=by unfold rg; rw [pA]
 have n : ng double a = decide (9223372036854775808 ≤ a) := by
  unfold ng; rw [pA]
  by_cases h:9223372036854775808 ≤ a
  ·rw [show a / 9223372036854775808 % 2 = 1 by omega]; simp [h]
  ·rw [show a / 9223372036854775808 % 2 = 0 by omega]; simp [h]
 have q:rg double a / 4503599627370496 = kZ a:=by rw [r]; unfold kZ; omega
 have q2:rg double a % 4503599627370496 = a % 4503599627370496:=by rw [r]; omega
 refine ⟨r,n,q,q2,?_,?_,?_⟩
 ·unfold mg qL; rw [Jl, q2, ← q]
  by_cases h:rg double a < 4503599627370496
  ·rw [if_pos h,if_pos (Nat.div_eq_of_lt h),← q2,Nat.mod_eq_of_lt h]
  ·rw [if_neg h,if_neg zo]
 ·unfold up; rw [Jl,q]
 ·unfold fin; rw [zA, ← q, r]
  by_cases h:a % 9223372036854775808 < 9218868437227405312
  ·rw [decide_eq_true h]; symm; rw [decide_eq_true_eq]; omega
  ·rw [decide_eq_false h]; symm; rw [decide_eq_false_iff_not]; omega
theorem Sg (s:Bool) (n:Nat):Toward.even.cut s n 0 = n:=by
 unfold Toward.cut
 simp only [Nat.zero_min,Nat.min_eq_left (Nat.zero_le _),Nat.shiftLeft_zero,Nat.div_one,Nat.mod_one]
 simp
theorem Gy (s : Bool) {m u : Nat} (h0 : m ≠ 0) (hm : m < 16777216) (hu : u ≤ 253) :
  double.nearest s m (-149 + (u:Int)) = double.word s ((u + m.log2 + 873) * 4503599627370496 + m * 2 ^ (52 - m.log2)):=by
 have hl:m.log2 < 24:=(Nat.log2_lt h0).2 hm
 have l1:2 ^ m.log2 ≤ m:=Nat.log2_self_le h0
 have l2:m < 2 ^ (m.log2 + 1):=Nat.lt_log2_self
 unfold Format.nearest
 rw [if_neg h0]
 have hlp:double.leastPlace = -1074:=by decide
 have hfb:((double.fractionBits:Nat):Int) = 52:=rfl
 rw [hlp,hfb]
 have e1:max (-149 + (u:Int) + (m.log2:Int) - 52) (-1074) = (u:Int) + m.log2 - 201:=by omega
 simp only [e1]
 have e2:(-149 + (u:Int) - ((u:Int) + m.log2 - 201)).toNat = 52 - m.log2:=by omega
 have e3:((u:Int) + m.log2 - 201 - (-149 + (u:Int))).toNat = 0:=by omega
 have e4:((u:Int) + m.log2 - 201 - (-1074)).toNat = u + m.log2 + 873:=by omega
 rw [e2,e3,e4,Sg,Jl,zA,Nat.shiftLeft_eq]
 congr 1
 have:m * 2 ^ (52 - m.log2) < 2 ^ (m.log2 + 1) * 2 ^ (52 - m.log2):=Nat.mul_lt_mul_of_pos_right l2 (Nat.two_pow_pos _)
 rw [← Nat.pow_add,show m.log2 + 1 + (52 - m.log2) = 53 by omega] at this
 rw [Nat.min_eq_left]
 have:(2:Nat) ^ 53 = 9007199254740992:=by decide
 omega
theorem zE (s : Bool) {m u a : Nat} (hm : m < 16777216) (hu : u ≤ 253) (ha : a = double.nearest s m (-149 + (u : Int))) :
  a < 18446744073709551616 ∧ rg double a < double.infRung ∧ ng double a = s ∧ nn double (rg double a) = m * 2 ^ u * 2 ^ No:=by
 by_cases h0:m = 0
 ·subst h0
  have:a = double.word s 0:=by rw [ha]; unfold Format.nearest; rw [if_pos rfl]
  unfold Format.word at this
  rw [pA] at this
  have e:rg double a = 0:=by unfold rg; rw [pA]; cases s <;> simp at this <;> omega
  refine ⟨by cases s <;> simp at this <;> omega,by rw [e,zA]; omega,?_,?_⟩
  ·unfold ng; rw [pA]; cases s <;> simp at this <;> subst this <;> rfl
  ·rw [e]; unfold nn mg; rw [if_pos (Am _)]; simp
 ·rw [Gy s h0 hm hu] at ha
  have hl:m.log2 < 24:=(Nat.log2_lt h0).2 hm
  have l1:2 ^ m.log2 ≤ m:=Nat.log2_self_le h0
  have l2:m < 2 ^ (m.log2 + 1):=Nat.lt_log2_self
  have b1:m * 2 ^ (52 - m.log2) < 2 ^ (m.log2 + 1) * 2 ^ (52 - m.log2):=Nat.mul_lt_mul_of_pos_right l2 (Nat.two_pow_pos _)
  rw [← Nat.pow_add,show m.log2 + 1 + (52 - m.log2) = 53 by omega,show (2:Nat) ^ 53 = 9007199254740992 by decide] at b1
  have b2:2 ^ m.log2 * 2 ^ (52 - m.log2) ≤ m * 2 ^ (52 - m.log2):=Nat.mul_le_mul_right _ l1
  rw [← Nat.pow_add,show m.log2 + (52 - m.log2) = 52 by omega,show (2:Nat) ^ 52 = 4503599627370496 by decide] at b2
  have b3 : m * 2 ^ (52 - m.log2) * 2 ^ (u + m.log2 + 873) = m * 2 ^ u * 2 ^ No := by
   rw [Nat.mul_assoc,Nat.mul_assoc,← Nat.pow_add,← Nat.pow_add,show 52 - m.log2 + (u + m.log2 + 873) = u + No by rw [Ix]; omega]
  generalize m * 2 ^ (52 - m.log2) = K at *
  have hr : rg double a = (u + m.log2 + 873) * 4503599627370496 + K := by
   unfold rg; rw [pA,ha]; unfold Format.word; rw [pA]
   cases s <;> simp <;> omega
  refine ⟨?_,?_,?_,?_⟩
  ·rw [ha]; unfold Format.word; rw [pA]; cases s <;> simp <;> omega
  ·rw [hr,zA]; omega
  ·unfold ng; rw [pA, ha]; unfold Format.word; rw [pA]
   cases s
   ·simp only [Bool.false_eq_true,if_false,beq_eq_false_iff_ne]; omega
   ·simp only [if_true,beq_iff_eq]; omega
  ·rw [hr]; unfold nn mg up; rw [Jl, if_neg zo]
   have e1:((u + m.log2 + 873) * 4503599627370496 + K) % 4503599627370496 = K - 4503599627370496:=by omega
   have e2:((u + m.log2 + 873) * 4503599627370496 + K) / 4503599627370496 - 1 = u + m.log2 + 873:=by omega
   rw [e1,e2,Nat.add_sub_cancel' b2,b3]
theorem Np {p a : Nat} (h : oJ .f32 .f64 p a) : a < 18446744073709551616 ∧ fin double a = fin single p ∧
  (fin single p = true → ng double a = ng single p ∧ ∃ m u,m < 16777216 ∧ u ≤ 253 ∧ nn single (rg single p) = m * 2 ^ u ∧ nn double (rg double a) = m * 2 ^ u * 2 ^ No):=by
 have hlp:single.leastPlace = -149:=by decide
 unfold oJ at h
 rw [if_neg (by decide)] at h
 have hd:FloatKind.f32.decode p = single.read p:=rfl
 rw [hd] at h
 by_cases hf:fin single p = true
 ·rw [nI hf, hlp] at h
  have hr:rg single p < 2139095040:=by rw [← La]; simpa [fin] using hf
  have hm:mg single (rg single p) < 16777216:=by unfold mg; rw [Ct]; split <;> omega
  have hu:up single (rg single p) ≤ 253:=by unfold up; rw [Ct]; omega
  obtain ⟨p1,p2,p3,p4⟩:=zE (ng single p) hm hu rfl
  have hw:FloatKind.f64.encode (.number (ng single p) (mg single (rg single p)) (-149 + ((up single (rg single p):Nat):Int))) = double.nearest (ng single p) (mg single (rg single p)) (-149 + ((up single (rg single p):Nat):Int)):=rfl
  simp only at h
  rw [hw] at h
  have hdd:∀ b,FloatKind.f64.decode b = double.read b:=fun _=>rfl
  rw [hdd,nI (by simpa [fin] using p2)] at h
  simp only [Datum.isInfinity] at h
  have h':a = double.nearest (ng single p) (mg single (rg single p)) (-149 + ((up single (rg single p):Nat):Int)):=by simpa using h
  rw [h']
  refine ⟨p1,?_,fun _=>⟨p3,_,_,hm,hu,rfl,p4⟩⟩
  rw [hf]; simpa [fin] using p2
 ·have hf' : fin single p = false := by simpa using hf
  rw [oW bs hf'] at h
  refine ⟨?_,?_,fun k=>absurd k hf⟩
  ·by_cases e : rg single p = single.infRung
   ·rw [if_pos e] at h; simp only at h
    have:a = double.word (ng single p) double.infRung:=h
    rw [this]; unfold Format.word; rw [pA,zA]; split <;> omega
   ·rw [if_neg e] at h; simp only at h
    obtain ⟨t,rfl⟩:=h
    simp only [Question.cut]; omega
  ·rw [hf']; unfold fin rg; rw [pA, zA]; simp only [decide_eq_false_iff_not]
   by_cases e:rg single p = single.infRung
   ·rw [if_pos e] at h; simp only at h
    have:a = double.word (ng single p) double.infRung:=h
    rw [this]; unfold Format.word; rw [pA,zA]; split <;> omega
   ·rw [if_neg e] at h; simp only at h
    obtain ⟨t,rfl⟩:=h
    simp only [Question.cut]
    have y1:t / 2 % (2 ^ 52 - 1) < 4503599627370495:=Nat.mod_lt _ (by decide)
    have y2:t % 2 = 0 ∨ t % 2 = 1:=by omega
    have y3:(2:Nat) ^ 63 = 9223372036854775808:=by decide
    rw [y3]
    generalize t / 2 % (2 ^ 52 - 1) = y at *
    rcases y2 with k | k <;> rw [k] <;> omega
end Fl
end
section
namespace Fl
open Ieee
@[irreducible] def Jc:Nat:=1074
theorem Iy:Jc = 1074:=by unfold Jc; rfl
theorem uD (A:Int) {D c:Nat} (hD:0 < D) (hc:0 < c):Qi.mk' (A * (c:Nat)) 0 (D * c) = Qi.mk' A 0 D:=by
 have h1:=Qi.nc hD; have h2:=Qi.nc hc
 refine Qi.ext' ?_ ?_
 ·rw [Qi.mk_re,Qi.mk_re]; push_cast; grind
 ·rw [Qi.mk_im,Qi.mk_im]; push_cast; grind
theorem Bo {A B:Int} {D C:Nat} (hD:0 < D) (hC:0 < C) (h:A * (C:Nat) = B * (D:Nat)):Qi.mk' A 0 D = Qi.mk' B 0 C:=by
 rw [← uD A hD hC,← uD B hC hD,h,Nat.mul_comm]
theorem Ci (b:Bool) (m c:Nat):oZ b (m * c) = oZ b m * (c:Nat):=by unfold oZ; cases b <;> simp [Int.neg_mul]
theorem yL (f:Format) (x:Nat):av f x = oZ (ng f x) (nn f (rg f x)):=rfl
def Sy (a:Nat):Qi:=Qi.mk' (av double a) 0 (2 ^ Jc)
def q32 (p:Nat):Qi:=Qi.mk' (av single p) 0 (2 ^ 149)
theorem Ie {p a:Nat} (h:oJ .f32 .f64 p a) (hf:fin single p = true):Sy a = q32 p:=by
 obtain ⟨_,_,h3⟩:=Np h
 obtain ⟨e1,m,u,_,_,e2,e3⟩:=h3 hf
 have:av double a = av single p * ((2 ^ No:Nat):Int):=by rw [yL,yL,e1,e3,e2,Ci]
 unfold Sy q32
 refine Bo (Nat.two_pow_pos _) (Nat.two_pow_pos _) ?_
 rw [this,Int.mul_assoc,← Int.natCast_mul,← Nat.pow_add,show No + 149 = Jc by rw [Ix,Iy]]
theorem Hd {a:Nat} (ha:a < 18446744073709551616):av double a = oZ (decide (9223372036854775808 ≤ a)) (qL a * 2 ^ (kZ a - 1)):=by
 obtain ⟨_,h2,_,_,h5,h6,_⟩:=Mf ha
 rw [yL,h2]; unfold nn; rw [h5,h6]
theorem Ic {a k:Nat} (ha:a < 18446744073709551616) (hk:k = max (kZ a) 1 - 1):Qi.mk' (oZ (decide (9223372036854775808 ≤ a)) (qL a * 2 ^ k)) 0 (2 ^ Jc) = Sy a:=by
 unfold Sy; rw [Hd ha,show k = kZ a - 1 by omega]
theorem Qj (p:Nat):(q32 p).im = 0:=by unfold q32; rw [Qi.mk_im]; push_cast; grind
theorem zP (p:Nat):(q32 p).re = (av single p:Rat) / ((2 ^ 149:Nat):Rat):=rfl
theorem Sl {p:Nat} (hf:fin single p = true):Qi.Fit (q32 p) 9:=by
 have hr:rg single p < 2139095040:=by rw [← La]; simpa [fin] using hf
 have hm:mg single (rg single p) < 2 ^ 24:=by unfold mg; rw [Ct]; split <;> omega
 have hu:up single (rg single p) ≤ 253:=by unfold up; rw [Ct]; omega
 unfold q32
 refine Qi.Fit.mk (Nat.two_pow_pos _) ?_ (Nat.pow_pos cD) ?_
 ·rw [En]; unfold nn
  have h1 : 2 ^ up single (rg single p) < BB ^ 8 := by
   refine Nat.lt_of_le_of_lt (Nat.pow_le_pow_right (by decide) hu) ?_
   show _ < (2 ^ 32) ^ 8
   rw [← Nat.pow_mul]
   exact Nat.pow_lt_pow_right (by decide) (by decide)
  have h2:mg single (rg single p) < BB ^ 1:=Nat.lt_of_lt_of_le hm (by decide)
  exact Qi.lt_mul h2 h1
 ·refine Nat.lt_of_lt_of_le (m := BB ^ 8) ?_ (Nat.pow_le_pow_right cD (by decide))
  show _ < (2 ^ 32) ^ 8
  rw [← Nat.pow_mul]
  exact Nat.pow_lt_pow_right (by decide) (by decide)
def pw (p:Nat):Bool:=fin single p && decide (0 < av single p)
theorem Cb {p:Nat}:0 < (q32 p).re ↔ 0 < av single p:=by
 rw [zP]
 have h : (0 : Rat) < ((2 ^ 149 : Nat) : Rat) := by
  have:((0:Nat):Rat) < ((2 ^ 149:Nat):Rat):=Rat.natCast_lt_natCast.2 (Nat.two_pow_pos _)
  exact this
 rw [Rat.lt_div_iff h,Rat.zero_mul]
 exact ⟨fun k=>Rat.intCast_lt_intCast.1 k,fun k=>Rat.intCast_lt_intCast.2 k⟩
theorem zO {p q:Nat}:(q32 p).re ≤ (q32 q).re ↔ av single p ≤ av single q:=by
 rw [zP,zP]
 have h : (0 : Rat) < ((2 ^ 149 : Nat) : Rat) := by
  have:((0:Nat):Rat) < ((2 ^ 149:Nat):Rat):=Rat.natCast_lt_natCast.2 (Nat.two_pow_pos _)
  exact this
 generalize ((2 ^ 149:Nat):Rat) = D at *
 constructor
 ·intro k
  have e:∀ z:Int,(z:Rat) = (z:Rat) / D * D:=fun z=>by grind
  have:=Rat.mul_le_mul_of_nonneg_right k (Rat.le_of_lt h)
  rw [← e,← e] at this
  exact Rat.intCast_le_intCast.1 this
 ·intro k
  rw [Rat.div_def,Rat.div_def]
  exact Rat.mul_le_mul_of_nonneg_right (Rat.intCast_le_intCast.2 k) (Rat.le_of_lt (Rat.inv_pos.2 h))
end Fl
end
section
namespace Fl
theorem If {x y:Qi} (hx:x.im = 0) (hy:y.im = 0):(x / y).re = x.re / y.re ∧ (x / y).im = 0:=by
 have hn:y.nrm = y.re * y.re:=by unfold Qi.nrm; rw [hy]; grind
 have hi:Qi.inv y = ⟨y.re / y.nrm,-y.im / y.nrm⟩:=rfl
 constructor
 ·rw [Qi.div_def, Qi.mul_re, hi, hn, hx, hy]
  by_cases h:y.re = 0
  ·rw [h]; show x.re * (0 / (0 * 0)) - 0 * _ = _; grind
  ·show x.re * (y.re / (y.re * y.re)) - 0 * _ = _; grind
 ·rw [Qi.div_def,Qi.mul_im,hi,hx,hy]; show x.re * (-0 / _) + 0 * _ = _; grind
structure Re (x:Qi):Prop where
 im:x.im = 0
theorem Re.sub {x y:Qi} (h:Re x) (k:Re y):Re (x - y):=⟨by rw [Qi.sub_im,h.im,k.im]; grind⟩
theorem Re.add {x y:Qi} (h:Re x) (k:Re y):Re (x + y):=⟨by rw [Qi.add_im,h.im,k.im]; grind⟩
theorem Re.mul {x y:Qi} (h:Re x) (k:Re y):Re (x * y):=⟨by rw [Qi.mul_im,h.im,k.im]; grind⟩
theorem Re.div {x y:Qi} (h:Re x) (k:Re y):Re (x / y):=⟨(If h.im k.im).2⟩
theorem Re.one:Re (Qi.ofInt 1):=⟨rfl⟩
theorem Re.q32 (p:Nat):Re (q32 p):=⟨Qj p⟩
theorem Re.of {x:Qi} (h:x.b = 0):Re x:=⟨Qi.b_zero.1 h⟩
theorem Re.b {x:Qi} (h:Re x):x.b = 0:=Qi.b_zero.2 h.im
theorem Re.rdiv {x y:Qi} (h:Re x) (k:Re y):(x / y).re = x.re / y.re:=(If h.im k.im).1
theorem Re.rmul {x y:Qi} (h:Re x):(x * y).re = x.re * y.re:=by rw [Qi.mul_re,h.im]; grind
theorem Re.ext {x y:Qi} (h:Re x) (k:Re y) (e:x.re = y.re):x = y:=Qi.ext' e (by rw [h.im,k.im])
def tP (hot cold a b:Qi):Qi:=(hot - a / b * cold) / (a / b - Qi.ofInt 1)
def tR (hot cold a b:Qi):Qi:=(hot * b - cold * a) / (a - b)
theorem Tf {hot cold a b:Qi} (h:Re hot) (c:Re cold) (x:Re a) (y:Re b):Re (tP hot cold a b):=(h.sub ((x.div y).mul c)).div ((x.div y).sub Re.one)
theorem Te {hot cold a b:Qi} (h:Re hot) (c:Re cold) (x:Re a) (y:Re b) (h0:b.re ≠ 0) (h1:a.re ≠ b.re):tP hot cold a b = tR hot cold a b:=by
 refine Re.ext (Tf h c x y) (((h.mul y).sub (c.mul x)).div (x.sub y)) ?_
 unfold tP tR
 rw [(h.sub ((x.div y).mul c)).rdiv ((x.div y).sub Re.one),((h.mul y).sub (c.mul x)).rdiv (x.sub y),Qi.sub_re,Qi.sub_re,Qi.sub_re,Qi.sub_re,(x.div y).rmul,x.rdiv y,h.rmul,c.rmul]
 show (hot.re - a.re / b.re * cold.re) / (a.re / b.re - ((1:Int):Rat)) = (hot.re * b.re - cold.re * a.re) / (a.re - b.re)
 generalize hot.re = H
 generalize cold.re = K
 generalize a.re = p at *
 generalize b.re = q at *
 have e:p = p / q * q:=by grind
 generalize p / q = y at *
 subst e
 have hy:y - 1 ≠ 0:=by grind
 have e1:y * q - q = (y - 1) * q:=by grind
 have e2:H * q - K * (y * q) = (H - y * K) * q:=by grind
 rw [e1,e2]
 show (H - y * K) / (y - 1) = _
 grind
theorem rW {x:Qi} (h:fT x = true):Re x:=by
 simp only [fT,Bool.and_eq_true,decide_eq_true_eq] at h; exact Re.of h.1
theorem Ib {x:Qi} (h:iQ x = true):Re x:=Re.of (Qg h)
theorem Qh {p:Nat} (h:pw p = true):fin Ieee.single p = true:=by
 unfold pw at h; simp only [Bool.and_eq_true] at h; exact h.1
theorem vY {p:Nat} (h:pw p = true):0 < (q32 p).re:=by
 unfold pw at h; simp only [Bool.and_eq_true,decide_eq_true_eq] at h; exact Cb.2 h.2
theorem Ca {p q:Nat}:lO (q32 p) (q32 q) ≤ 0 ↔ av Ieee.single p ≤ av Ieee.single q:=by
 rw [jP (Re.q32 p).b (Re.q32 q).b,Ba,zO]
def kX (hot cold:Qi) (p q:Nat):Int:=if !fT hot || !fT cold || !pw p || !pw q then 1 else if decide (lP hot cold ≤ 0) || decide (av Ieee.single p ≤ av Ieee.single q) then 7 else if (tR hot cold (q32 p) (q32 q)).re < 0 then 5 else 0
def oX (hot cold:Qi) (p q:Nat):Qi × Int:=if kX hot cold p q = 0 then (tR hot cold (q32 p) (q32 q),0) else (Qi.zero,kX hot cold p q)
theorem Ih {hot cold:Qi} {p q:Nat} (h:(!fT hot || !fT cold || !pw p || !pw q) = true):oX hot cold p q = (Qi.zero,1):=by
 have:kX hot cold p q = 1:=by rw [kX,if_pos h]
 rw [oX,this]; rfl
theorem Ii {hot cold:Qi} {p q:Nat} (h:¬ (!fT hot || !fT cold || !pw p || !pw q) = true) (h2:(decide (lP hot cold ≤ 0) || decide (av Ieee.single p ≤ av Ieee.single q)) = true):oX hot cold p q = (Qi.zero,7):=by
 have:kX hot cold p q = 7:=by rw [kX,if_neg h,if_pos h2]
 rw [oX,this]; rfl
theorem Dk {hot cold:Qi} {p q:Nat} (h:¬ (!fT hot || !fT cold || !pw p || !pw q) = true) (h2:¬ (decide (lP hot cold ≤ 0) || decide (av Ieee.single p ≤ av Ieee.single q)) = true) (h3:(tR hot cold (q32 p) (q32 q)).re < 0):oX hot cold p q = (Qi.zero,5):=by
 have:kX hot cold p q = 5:=by rw [kX,if_neg h,if_neg h2,if_pos h3]
 rw [oX,this]; rfl
theorem Ce {hot cold:Qi} {p q:Nat} (h:¬ (!fT hot || !fT cold || !pw p || !pw q) = true) (h2:¬ (decide (lP hot cold ≤ 0) || decide (av Ieee.single p ≤ av Ieee.single q)) = true) (h3:¬ (tR hot cold (q32 p) (q32 q)).re < 0):oX hot cold p q = (tR hot cold (q32 p) (q32 q),0):=by
 have:kX hot cold p q = 0:=by rw [kX,if_neg h,if_neg h2,if_neg h3]
 rw [oX,this]; rfl
structure sB (hot cold:Qi) (p q:Nat):Prop where
 h:Re hot
 c:Re cold
 pp:pw p = true
 pq:pw q = true
 ord:¬ av Ieee.single p ≤ av Ieee.single q
theorem Qk {hot cold:Qi} {p q:Nat} (h:¬ (!fT hot || !fT cold || !pw p || !pw q) = true) (h2:¬ (decide (lP hot cold ≤ 0) || decide (av Ieee.single p ≤ av Ieee.single q)) = true):sB hot cold p q:=by
 simp only [Bool.or_eq_true,Bool.not_eq_true',decide_eq_true_eq,not_or,Bool.not_eq_false] at h h2
 exact ⟨rW h.1.1.1,rW h.1.1.2,h.1.2,h.2,h2.2⟩
theorem sB.eq {hot cold : Qi} {p q : Nat} (h : sB hot cold p q) : tP hot cold (q32 p) (q32 q) = tR hot cold (q32 p) (q32 q) :=
 Te h.h h.c (Re.q32 p) (Re.q32 q) (fun e=>by have:=vY h.pq; rw [e] at this; exact Rat.lt_irrefl this) (fun e=>h.ord (zO.1 (by rw [e]; exact Rat.le_refl)))
theorem sB.ne {hot cold:Qi} {p q:Nat} (h:sB hot cold p q):q32 q ≠ Qi.zero ∧ q32 p - q32 q ≠ Qi.zero ∧ q32 p / q32 q - Qi.ofInt 1 ≠ Qi.zero:=by
 have h0:(q32 q).re ≠ 0:=fun e=>by have:=vY h.pq; rw [e] at this; exact Rat.lt_irrefl this
 have h1:(q32 p).re ≠ (q32 q).re:=fun e=>h.ord (zO.1 (by rw [e]; exact Rat.le_refl))
 refine ⟨fun e=>h0 (by rw [e]; rfl),Qi.sub_ne h1,Qi.sub_ne ?_⟩
 rw [(Re.q32 p).rdiv (Re.q32 q)]
 show _ ≠ ((1:Int):Rat)
 intro e
 apply h1
 have:(q32 p).re / (q32 q).re = 1:=e
 grind
theorem sB.real {hot cold:Qi} {p q:Nat} (h:sB hot cold p q):Re (tR hot cold (q32 p) (q32 q)):=((h.h.mul (Re.q32 q)).sub (h.c.mul (Re.q32 p))).div ((Re.q32 p).sub (Re.q32 q))
theorem Se {x:Qi} (h:Re x):lO x (Qi.ofInt 0) < 0 ↔ x.re < 0:=by
 rw [jP h.b (Qi.int_a 0).2.1,Bb]; exact Iff.rfl
theorem Kd {x:Qi} (h:Re x):lO x (Qi.ofInt 1) < 0 ↔ x.re < 1:=by
 rw [jP h.b (Qi.int_a 1).2.1,Bb]; exact Iff.rfl
def sM (t r g:Qi):Bool:=decide (t.b = 0) && decide (r.b = 0) && iQ g && decide (1 ≤ t.re) && decide (1 ≤ r.re)
def oS (t r g:Qi):Qi:=t - (r - Qi.ofInt 1) / g
def rF (t r g:Qi):Qi × Int:=if sM t r g then (if (oS t r g).re < 1 then (Qi.zero,5) else (oS t r g,0)) else (Qi.zero,1)
theorem Kv {t r g:Qi} (h:sM t r g = false):rF t r g = (Qi.zero,1):=by rw [rF,h]; rfl
theorem Gn {t r g:Qi} (h:sM t r g = true) (h2:(oS t r g).re < 1):rF t r g = (Qi.zero,5):=by rw [rF,if_pos h,if_pos h2]
theorem Pf {t r g:Qi} (h:sM t r g = true) (h2:¬ (oS t r g).re < 1):rF t r g = (oS t r g,0):=by rw [rF,if_pos h,if_neg h2]
theorem Gk (t r g:Qi):(!decide (t.b = 0) || !decide (r.b = 0) || !iQ g || decide (lO t (Qi.ofInt 1) < 0) || decide (lO r (Qi.ofInt 1) < 0)) = !sM t r g:=by
 unfold sM
 by_cases h1:t.b = 0
 ·by_cases h2 : r.b = 0
  ·rw [decide_eq_true h1, decide_eq_true h2]
   have e1:decide (lO t (Qi.ofInt 1) < 0) = !decide (1 ≤ t.re):=by rw [← decide_not]; congr 1; rw [Kd (Re.of h1)]; exact propext Rat.not_le.symm
   have e2:decide (lO r (Qi.ofInt 1) < 0) = !decide (1 ≤ r.re):=by rw [← decide_not]; congr 1; rw [Kd (Re.of h2)]; exact propext Rat.not_le.symm
   rw [e1,e2]; cases iQ g <;> cases decide (1 ≤ t.re) <;> cases decide (1 ≤ r.re) <;> rfl
  ·rw [decide_eq_false h2]; simp
 ·rw [decide_eq_false h1]; simp
theorem Kt {t r g:Qi} (h:sM t r g = true):Re t ∧ Re r ∧ iQ g = true:=by
 unfold sM at h; simp only [Bool.and_eq_true,decide_eq_true_eq] at h
 exact ⟨Re.of h.1.1.1.1,Re.of h.1.1.1.2,h.1.1.2⟩
theorem Ku {t r g:Qi} (h:sM t r g = true):Re (oS t r g):=by
 obtain ⟨h1,h2,h3⟩:=Kt h
 exact h1.sub ((h2.sub Re.one).div (Ib h3))
theorem vP {m:Nat} (hm:m < 16777216):Ieee.single.nearest false m 0 < 4294967296 ∧ fin Ieee.single (Ieee.single.nearest false m 0) = true ∧ av Ieee.single (Ieee.single.nearest false m 0) = (m * 2 ^ 149:Nat):=by
 by_cases h0:m = 0
 ·subst h0
  have:Ieee.single.nearest false 0 0 = 0:=by decide
  rw [this]; refine ⟨by decide,by decide,?_⟩
  rw [Nat.zero_mul]; decide
 ·have hl : m.log2 < 24 := (Nat.log2_lt h0).2 hm
  have l1:2 ^ m.log2 ≤ m:=Nat.log2_self_le h0
  have l2:m < 2 ^ (m.log2 + 1):=Nat.lt_log2_self
  have b1:m * 2 ^ (23 - m.log2) < 2 ^ (m.log2 + 1) * 2 ^ (23 - m.log2):=Nat.mul_lt_mul_of_pos_right l2 (Nat.two_pow_pos _)
  rw [← Nat.pow_add,show m.log2 + 1 + (23 - m.log2) = 24 by omega,show (2:Nat) ^ 24 = 16777216 by decide] at b1
  have b2:2 ^ m.log2 * 2 ^ (23 - m.log2) ≤ m * 2 ^ (23 - m.log2):=Nat.mul_le_mul_right _ l1
  rw [← Nat.pow_add,show m.log2 + (23 - m.log2) = 23 by omega,show (2:Nat) ^ 23 = 8388608 by decide] at b2
  have b3 : m * 2 ^ (23 - m.log2) * 2 ^ (m.log2 + 126) = m * 2 ^ 149 := by
   rw [Nat.mul_assoc,← Nat.pow_add,show 23 - m.log2 + (m.log2 + 126) = 149 by omega]
  have e : Ieee.single.nearest false m 0 = (m.log2 + 126) * 8388608 + m * 2 ^ (23 - m.log2) := by
   unfold Ieee.Format.nearest
   rw [if_neg h0]
   have hlp:Ieee.single.leastPlace = -149:=by decide
   have hfb:((Ieee.single.fractionBits:Nat):Int) = 23:=rfl
   rw [hlp,hfb]
   have e1:max (0 + (m.log2:Int) - 23) (-149) = (m.log2:Int) - 23:=by omega
   simp only [e1]
   have e2:(0 - ((m.log2:Int) - 23)).toNat = 23 - m.log2:=by omega
   have e3:((m.log2:Int) - 23 - 0).toNat = 0:=by omega
   have e4:((m.log2:Int) - 23 - (-149)).toNat = m.log2 + 126:=by omega
   rw [e2,e3,e4,Sg,Ct,La,Nat.shiftLeft_eq,Nat.min_eq_left zo]
   rfl
  rw [e]
  generalize m * 2 ^ (23 - m.log2) = K at *
  have hr:rg Ieee.single ((m.log2 + 126) * 8388608 + K) = (m.log2 + 126) * 8388608 + K:=by unfold rg; rw [Td]; omega
  refine ⟨by omega,?_,?_⟩
  ·unfold fin; rw [hr,La]; simp only [decide_eq_true_eq]; omega
  ·have hn : ng Ieee.single ((m.log2 + 126) * 8388608 + K) = false := by unfold ng; rw [Td]; simp only [beq_eq_false_iff_ne]; omega
   rw [Eo hn,hr]; unfold nn mg up; rw [Ct,if_neg zo]
   have e1:((m.log2 + 126) * 8388608 + K) % 8388608 = K - 8388608:=by omega
   have e2:((m.log2 + 126) * 8388608 + K) / 8388608 - 1 = m.log2 + 126:=by omega
   rw [e1,e2,Nat.add_sub_cancel' b2,b3]
theorem xX {m:Nat} (hm:m < 16777216):q32 (Ieee.single.nearest false m 0) = Qi.ofInt m:=by
 unfold q32; rw [(vP hm).2.2,← Qi.mk_int]
 refine Bo (Nat.two_pow_pos _) (by decide) ?_
 rw [Int.natCast_mul]; show _ * ((1:Nat):Int) = _; rw [Int.natCast_one,Int.mul_one]
theorem Bz {m:Nat} (h0:0 < m) (hm:m < 16777216):pw (Ieee.single.nearest false m 0) = true:=by
 obtain ⟨_,h2,h3⟩:=vP hm
 have:=Nat.mul_pos h0 (Nat.two_pow_pos 149)
 unfold pw; rw [h2,h3]; simp only [Bool.true_and,decide_eq_true_eq]
 exact Int.natCast_pos.2 this
theorem Ig {h c o g : Nat} (hc : c < h) (hg : 0 < g) (h0 : 0 < c + o) (hm : (h + o) * g < 16777216) :
  oX (Qi.ofInt h) (Qi.ofInt c) (Ieee.single.nearest false ((h + o) * g) 0) (Ieee.single.nearest false ((c + o) * g) 0) = (Qi.ofInt o,0):=by
 have hm2:(c + o) * g < 16777216:=Nat.lt_of_le_of_lt (Nat.mul_le_mul_right _ zo) hm
 have w : ∀ n : Nat, fT (Qi.ofInt n) = true := fun n => by
  obtain ⟨e1,e2,_⟩:=Qi.int_a (n:Int)
  unfold fT; rw [e1,e2]; simp
 have p1:=Bz (Nat.mul_pos (show 0 < h + o by omega) hg) hm
 have p2:=Bz (Nat.mul_pos h0 hg) hm2
 have r:∀ n:Int,Re (Qi.ofInt n):=fun n=>⟨rfl⟩
 have ht : tR (Qi.ofInt h) (Qi.ofInt c) (q32 (Ieee.single.nearest false ((h + o) * g) 0)) (q32 (Ieee.single.nearest false ((c + o) * g) 0)) = Qi.ofInt o := by
  rw [xX hm,xX hm2]
  refine Re.ext ((((r _).mul (r _)).sub ((r _).mul (r _))).div ((r _).sub (r _))) (r _) ?_
  unfold tR
  rw [(((r _).mul (r _)).sub ((r _).mul (r _))).rdiv ((r _).sub (r _)),Qi.sub_re,Qi.sub_re,(r _).rmul,(r _).rmul]
  show (((h:Int):Rat) * ((((c + o) * g:Nat):Int):Rat) - ((c:Int):Rat) * ((((h + o) * g:Nat):Int):Rat)) / (((((h + o) * g:Nat):Int):Rat) - ((((c + o) * g:Nat):Int):Rat)) = ((o:Int):Rat)
  have e:∀ x y z:Nat,((((x + y) * z:Nat):Int):Rat) = (((x:Int):Rat) + ((y:Int):Rat)) * ((z:Int):Rat):=fun x y z=>by push_cast; rfl
  rw [e,e]
  have hn:((h:Int):Rat) ≠ ((c:Int):Rat):=fun k=>by have:=Rat.intCast_inj.1 k; omega
  have gn:((g:Int):Rat) ≠ ((0:Int):Rat):=fun k=>by have:=Rat.intCast_inj.1 k; omega
  have z0:((0:Int):Rat) = 0:=rfl
  generalize ((h:Int):Rat) = H at *
  generalize ((c:Int):Rat) = C' at *
  generalize ((o:Int):Rat) = O at *
  generalize ((g:Int):Rat) = G at *
  rw [z0] at gn
  have d1:(H + O) * G - (C' + O) * G = (H - C') * G:=by grind
  have d2:H * ((C' + O) * G) - C' * ((H + O) * G) = O * ((H - C') * G):=by grind
  have d3:(H - C') * G ≠ 0:=by grind
  rw [d1,d2]
  generalize (H - C') * G = D at *
  grind
 have a1:¬ (!fT (Qi.ofInt h) || !fT (Qi.ofInt c) || !pw (Ieee.single.nearest false ((h + o) * g) 0) || !pw (Ieee.single.nearest false ((c + o) * g) 0)) = true:=by rw [w,w,p1,p2]; decide
 have lt:(c + o) * g < (h + o) * g:=Nat.mul_lt_mul_of_pos_right zo hg
 have a2 : ¬ (decide (lP (Qi.ofInt h) (Qi.ofInt c) ≤ 0) || decide (av Ieee.single (Ieee.single.nearest false ((h + o) * g) 0) ≤ av Ieee.single (Ieee.single.nearest false ((c + o) * g) 0))) = true := by
  rw [(vP hm).2.2,(vP hm2).2.2]
  have h1 : ¬ lP (Qi.ofInt h) (Qi.ofInt c) ≤ 0 := by
   rw [Ba]; show ¬ ((h:Int):Rat) ≤ ((c:Int):Rat); rw [Rat.intCast_le_intCast]; omega
  have h2 : ¬ (((h + o) * g * 2 ^ 149 : Nat) : Int) ≤ (((c + o) * g * 2 ^ 149 : Nat) : Int) := by
   rw [Int.ofNat_le]; exact Nat.not_le.2 (Nat.mul_lt_mul_of_pos_right lt (Nat.two_pow_pos _))
  rw [decide_eq_false h1,decide_eq_false h2]; decide
 rw [Ce a1 a2 (by rw [ht]; show ¬ ((o:Int):Rat) < 0; rw [Rat.not_lt]; exact Rat.intCast_nonneg.2 zo),ht]
end Fl
end
section
namespace Fl
def lv (l:List (Nat × Nat)):List (Qi × Qi):=l.map fun e=>(q32 e.1,q32 e.2)
abbrev bI (l:List (Nat × Nat)) (i:Nat):Nat:=(l.getD i (0,0)).1
abbrev bO (l:List (Nat × Nat)) (i:Nat):Nat:=(l.getD i (0,0)).2
theorem zB {l:List (Nat × Nat)} {i:Nat} (h:i < l.length):eF (lv l) i = q32 (bI l i) ∧ eV (lv l) i = q32 (bO l i):=by
 unfold eF eV bI bO lv
 simp [List.getD,List.getElem?_map,List.getElem?_eq_getElem h]
structure Ad (l:List (Nat × Nat)):Prop where
 pos:∀ i,i < l.length → pw (bI l i) = true ∧ pw (bO l i) = true
 up:∀ i,0 < i → i < l.length → (q32 (bI l (i - 1))).re < (q32 (bI l i)).re
 n0:0 < l.length
 n1:l.length ≤ 256
section
variable {l:List (Nat × Nat)} {f:Qi}
theorem Ad.re (h:Ad l) {i:Nat} (hi:i < l.length):Re (eF (lv l) i) ∧ Re (eV (lv l) i) ∧ 0 < (eF (lv l) i).re ∧ 0 < (eV (lv l) i).re:=by
 obtain ⟨e1,e2⟩:=zB hi
 obtain ⟨p1,p2⟩:=h.pos i hi
 rw [e1,e2]; exact ⟨Re.q32 _,Re.q32 _,vY p1,vY p2⟩
theorem Ad.lt (h:Ad l) {i:Nat} (h0:0 < i) (hi:i < l.length):(eF (lv l) (i - 1)).re < (eF (lv l) i).re:=by
 rw [(zB hi).1,(zB (show i - 1 < l.length by omega)).1]; exact h.up i h0 hi
end
end Fl
end
section
namespace Fl
open Ieee
def aS (c n:Nat):List (Nat × Nat):=(List.range n).map fun i=>(single.nearest false (i + 1) 0,single.nearest false ((i + 1) * c) 0)
theorem gD (c n:Nat):(aS c n).length = n:=by simp [aS]
theorem lA {c n i:Nat} (h:i < n):bI (aS c n) i = single.nearest false (i + 1) 0 ∧ bO (aS c n) i = single.nearest false ((i + 1) * c) 0:=by
 unfold bI bO aS
 simp [List.getD,List.getElem?_map,List.getElem?_range h]
end Fl
end
section
open Go Go.RowKit
theorem Gg:Co Try.prog 88 Extern.MathFloatBits.float64bits:=xA Try.func88 (by kernel_rfl) (by kernel_rfl) (by kernel_rfl) (by kernel_rfl)
theorem Pe:Co Try.prog 96 Extern.MathFloatBits.float64frombits:=xA Try.func96 (by kernel_rfl) (by kernel_rfl) (by kernel_rfl) (by kernel_rfl)
end
end Go.Proofs.Ythcmlodgnfekeaa
