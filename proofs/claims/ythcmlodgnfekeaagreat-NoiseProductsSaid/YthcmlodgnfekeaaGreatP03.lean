/- What functions of the program compute, proved by walks over their code, and the plain mathematics of it; a part of the proof in the last text. -/
import Derived.Test.YthcmlodgnfekeaaGreatP02
set_option linter.unusedVariables false
set_option linter.unusedSimpArgs false
set_option maxRecDepth 100000
set_option maxHeartbeats 4000000
namespace Go.Proofs.YthcmlodgnfekeaaGreat
section
open Go Go.RowKit
theorem Ox {v:Nat} (hv:v < 4294967296):bB Tryz.prog 275 [bC v] (NT .i64 (bl v)):=by
 refine bB.intro Tryz.func275 rfl Tryz.ntmps275 rfl (fun cx=>(ts (ro rfl (cQ (cJ 0)) (eX (cK (mE (fun (q:Nat) (x:Nat)=>bl v = q + bl x ∧ x < 65536 ∧ q ≤ 16) (fun (q:Nat) (x:Nat)=>[(0,bC x),(2,NT .i64 q)]) (fun (q:Nat) (x:Nat)=>[]) ?_ (fun q x ⟨hq1,hq2,hq3⟩=>?_)))))))
 ·refine ts (rm rfl (ro rfl (mN (Ht rfl) (cJ 65536)) (eX (dQ (Ht rfl) (fun hb => ?_) (fun hb => ?_)))))
  ·simp at hb
   refine ts (rm rfl (ro rfl (cI (Ht rfl) (cJ 16) (by decide)) (ra rfl (eX (cY (ro rfl (cQ (cJ 16)) (eX (aS (16,v / 2 ^ 16) ⟨Yv hb,by dsimp only; omega,Nat.le_refl _⟩ (zS rfl) aY))))))))
  ·simp at hb
   refine cU (aS (0,v) ⟨(Nat.zero_add _).symm,hb,by dsimp only; omega⟩ (zS rfl) aY)
 ·refine cK (mE (fun (r : Nat) (z : Nat) => bl v = r + bl z ∧ z < 256 ∧ r ≤ 24) (fun (r : Nat) (z : Nat) => [(0, bC z), (2, NT .i64 r)]) (fun (r : Nat) (z : Nat) => []) ?_ (fun r z ⟨hr1, hr2, hr3⟩ => ?_))
  ·refine ts (rm rfl (ro rfl (mN (Ht rfl) (cJ 256)) (eX (dQ (Ht rfl) (fun hb => ?_) (fun hb => ?_)))))
   ·simp at hb
    refine ts (rm rfl (ro rfl (cI (Ht rfl) (cJ 8) (by decide)) (ra rfl (eX (cY (rm rfl (ro rfl (dV (Ht rfl) (cJ 8) z6) (ra rfl (eX (aS (q + 8,x / 2 ^ 8) ⟨by have:=Zq hb; dsimp only; omega,by dsimp only; omega,by dsimp only; omega⟩ (zS rfl) aY))))))))))
   ·simp at hb
    refine cU (aS (q,x) ⟨hq1,hb,by dsimp only; omega⟩ (zS rfl) aY)
  ·have hbl := kS (k := 8) hr2
   refine ts (rm rfl (rm rfl (ro rfl (gZ U_24 U_5 (Ht rfl) (by show _ < 256; first | omega | (simp only [jE]; omega))) (ro rfl (Qt Tryz.runUnderlying9 cV (Ht rfl) (Yz hr2 (by kernel_rfl))) (ro rfl (gZ U_5 U_3 (Ht rfl) z6) (ro rfl (dV (Ht rfl) (Ht rfl) z6) (ra rfl (eX (fW rfl (fX (eU rfl) ?_))))))))))
   exact (kT zo)
theorem Ur {v:Nat} (hv:v < 4294967296):bB Tryz.prog 251 [bC v] (NT .i64 (32 - bl v)):=by
 refine bB.intro Tryz.func251 rfl Tryz.ntmps251 rfl (fun cx=>(ts (ro rfl (cQ (cJ 0)) (eX (ts (rm rfl (ro rfl (cZ Tryz.call275 (Ox hv) ⟨(Ht rfl),trivial⟩) (ro rfl (dW (cJ 32) (Ht rfl) (kS hv) z6) (ra rfl (eX ?_))))))))))
 exact fW rfl (eU rfl)
theorem Ov {hi lo y:Nat} (hy:hi < y) (hl:lo < BB) (hyb:y < BB):bB Tryz.prog 285 [bC hi,bC lo,bC y] (fT [bC ((hi * BB + lo) / y),bC ((hi * BB + lo) % y)]):=by
 have hq:=yG hy hl; have hm:=Nat.mod_lt (hi * BB + lo) (by omega:y > 0); have hz:hi * BB + lo < 18446744073709551616:=by simp only [BB] at *; omega
 have hsh : hi * 2 ^ 32 < 18446744073709551616 := by
  have h1:hi < BB:=by omega
  show hi * BB < _
  simp only [BB] at h1 ⊢; omega
 refine bB.intro Tryz.func285 rfl Tryz.ntmps285 rfl (fun cx=>(ts (ro rfl (cQ (cJ 0)) (ro rfl (cQ (cJ 0)) (eX (cK (ts (rm rfl (ro rfl (jY (Ht rfl) (cJ 0)) (rm rfl (fQ rfl rfl (eK rfl rfl (Ht rfl) (fun h=>cX (Ht rfl))) (fQ rfl rfl (eK rfl rfl (Ht rfl) (fun h=>cX (Ht rfl))) (fQ rfl rfl (eK rfl rfl (Ht rfl) (fun h=>zO (fJ rfl h) (fJ rfl h))) (ro rfl (eA (Ht rfl) (fun h=>(fJ rfl h))) (eX (mD (Ht rfl) (by simp; omega) ?_))))))))))))))))
 have hl2:lo < 18446744073709551616:=by simp only [BB] at hl; omega
 have hy2:y < 18446744073709551616:=by simp only [BB] at hyb; omega
 refine cU (ts (rm rfl (ro rfl (gZ U_24 U_274 (Ht rfl) (by show _ < 18446744073709551616; simp only [BB] at *; omega)) (ro rfl (kP (Ht rfl) (cJ 32) (by decide) hsh) (rm rfl (ro rfl (gZ U_24 U_274 (Ht rfl) (by show _ < 18446744073709551616; simp only [BB] at *; omega)) (ro rfl (aM.nat (lY rfl (Ht rfl) (Ht rfl) z7 z7) (qR hl)) (ra rfl (eX (cK ?_))))))))))
 refine fZ (m:=11) (dp 8 rfl (cX (Ht rfl)) (dp 2 rfl (cX (Ht rfl)) (dq 24 1 rfl (gZ U_24 U_274 (Ht rfl) (by show _ < 18446744073709551616; simp only [BB] at *; omega)) (cP 23 0 25 2 rfl (gN (Ht rfl) (Ht rfl) zo (by show _ < 18446744073709551616; exact hz)) (dq 26 3 rfl (gZ U_274 U_24 (Ht rfl) (by show _ < 4294967296; exact hq)) (dp 8 rfl (cX (Ht rfl)) (dp 2 rfl (cX (Ht rfl)) (dq 29 6 rfl (gZ U_24 U_274 (Ht rfl) (by show _ < 18446744073709551616; simp only [BB] at *; omega)) ?_))))))))
 refine cP 28 5 30 7 rfl (kO (Ht rfl) (Ht rfl) zo) (dq 31 8 rfl (gZ U_274 U_24 (Ht rfl) (by show _ < 4294967296; simp only [BB] at *; omega)) (dq 27 4 rfl (cQ (Ht rfl)) (fV mixed rfl (by kernel_rfl) (zF (zF (aJ (aJ (aJ (aV (ra rfl (eX ?_)))))))))))
 exact bI rfl (eU rfl) (eU rfl)
theorem Sy {m k:Nat} (hm:(dg m).length ≤ 17592186044416) (hk:k ≤ 562949953421312):bB Tryz.prog 206 [aB m,NT .i64 k] (aB (m * 2 ^ k)):=by
 refine bB.intro Tryz.func206 rfl Tryz.ntmps206 rfl (fun cx=>(ts (ro rfl (cQ cV) (eX (cK (ts (rm rfl (ro rfl (dG U_28 (Ht rfl) aA) (ro rfl (cE (Ht rfl) (cJ 0)) (rm rfl (fQ rfl rfl (eK rfl rfl (Ht rfl) (fun h=>cX (Ht rfl))) (fQ rfl rfl (eK rfl rfl (Ht rfl) (fun h=>cE (fJ rfl h) (cJ 0))) (ro rfl (eE (Ht rfl) (fun h=>(fJ rfl h))) (eX (dQ (Ht rfl) (fun hb=>?_) (fun hb=>?_))))))))))))))))
 ·simp [aI] at hb
  have h0 : m * 2 ^ k = m := by
   rcases hb with h | h
   ·simp_all [mU]
   ·rw [h,Nat.pow_zero,Nat.mul_one]
  refine ts (rm rfl (ra rfl (eX (fW rfl (fX (eU rfl) ?_)))))
  exact (bH h0.symm)
 ·clear hb
  have hr:=Nat.mod_lt k (by decide:32 > 0)
  refine cU (ts (rm rfl (ro rfl (gN (Ht rfl) (cJ 32) zo z6) (rm rfl (ro rfl (kO (Ht rfl) (cJ 32) zo) (ro rfl (gZ U_3 U_275 (Ht rfl) z7) (ra rfl (ra rfl (eX (ts (rm rfl (ro rfl (dG U_28 (Ht rfl) aA) (rm rfl (ro rfl (dV (Ht rfl) (Ht rfl) z6) (ro rfl (dV (Ht rfl) (cJ 1) z6) ?_)))))))))))))))
  refine rn rfl (dC (T:=bC 0) (i:=Tryz.t24) V_28 gU rfl rfl (Ht rfl) rfl (fun _=>rfl) trivial (by show 4 * _ ≤ _; omega) zo) fun B29=>ra rfl (eX (cK (ts (rm rfl (ro rfl (dG U_28 (Ht rfl) aA) (ro rfl (cX (cJ 0)) (eX (eG ?_))))))))
  refine dP (fun (i : Nat) (out : List Nat) => vA (dg m) (k / 32) (k % 32) out i) (fun (i : Nat) (out : List Nat) => (dg m).length - i) (fun (i : Nat) (out : List Nat) => [(5, NT .i64 (k / 32)), (6, NT .u64 (k % 32)), (7, Is (.slice (some ⟨B29, 0, none⟩) ((dg m).length + k / 32 + 1) ((dg m).length + k / 32 + 1))), (30, aB m), (31, NT .i64 (dg m).length), (32, NT .i64 i)]) (fun (i : Nat) (out : List Nat) => [box B29 24 (out.map bC)]) 0 (List.replicate ((dg m).length + k / 32 + 1) 0) (vA.start _ _ _)
   (zS rfl) (aU (aD (iO _)) aY) (fun i out hS=>?_)
  refine ts (ro rfl (gX (Ht rfl) (Ht rfl)) (eX (cK (dQ (Ht rfl) (fun hb=>?_) (fun hb=>?_)))))
  ·simp at hb
   have hlen:=hS.len; have hxi:=aO (aR m) i; have hok:=aO hS.dig (i + k / 32)
   have hv:=yF hxi hr
   have hd:(dg m).getD i 0 * 2 ^ (k % 32) / 2 ^ 32 < 4294967296:=Nat.div_lt_of_lt_mul hv
   simp only [BB] at hxi hok
   refine cU (cK (eG (ts (rm rfl (ro rfl (dZ U_28 Z_24 (Ht rfl) (Ht rfl) rfl (dY (aH zo))) (ro rfl (dJ A_24 Z_24 (Ht rfl)) (ra rfl (ra rfl (eX (ts (rm rfl (ro rfl (gZ U_24 U_274 (Ht rfl) z7) (rm rfl (ro rfl (kP (Ht rfl) (Ht rfl) (by show _ ≤ _; simp [IntKind.bits]; omega) (by show _ < 18446744073709551616; exact hv)) (ra rfl (eX (ts (rm rfl (rm rfl (rm rfl (ro rfl (dV (Ht rfl) (Ht rfl) z6) ?_)))))))))))))))))))))
   refine ro rfl (fY U_28 Z_24 (Ht rfl) (Ht rfl) rfl zo (by rw [Nat.mul_one,Nat.zero_add])) ?_
   refine ro rfl (eY A_24 Z_24 (Ht rfl) (i:=0) rfl (dY (aH zo))) (rm rfl (ro rfl (dD rfl U_274 U_24 (Ht rfl)) (ro rfl (lY rfl (Ht rfl) (Ht rfl) (by show _ < 4294967296; omega) (by show _ % 4294967296 < 4294967296; omega)) (ro rfl (fY U_28 Z_24 (Ht rfl) (Ht rfl) rfl zo (by rw [Nat.mul_one,Nat.zero_add])) ?_))))
   refine iX Z_24 (Ht rfl) (Ht rfl) (i:=0) rfl (by first | omega | (simp; omega)) rfl (eX (cY (rm rfl (rm rfl (rm rfl (ro rfl (dV (Ht rfl) (Ht rfl) z6) (ro rfl (dV (Ht rfl) (cJ 1) z6) (rm rfl (ro rfl (cI (Ht rfl) (cJ 32) (by decide)) (ro rfl (gZ U_274 U_24 (Ht rfl) (by show _ < 4294967296; exact hd)) (ro rfl (fY U_28 Z_24 (Ht rfl) (Ht rfl) rfl zo (by rw [Nat.mul_one,Nat.zero_add])) ?_)))))))))))
   refine iX Z_24 (Ht rfl) (Ht rfl) (i:=0) rfl (by first | omega | (simp; omega)) rfl (eX (bF (cY (ro rfl (dV (Ht rfl) (cJ 1) z6) (rm rfl (eX (fU (i + 1,_) (hS.next (aR m) hr hb rfl rfl) (by dsimp only; omega) (zS rfl) (aU (aD (Cm _ _ _ _ _)) aY))))))))
  ·simp at hb
   have hkl:i = (dg m).length:=Nat.le_antisymm hS.kle hb
   subst hkl
   have hlen:=hS.len
   have hfin:=hS.fin
   rw [bD,jS] at hfin
   refine gV rfl (gJ (i:=0) (tt:=7) rfl rfl (jD rfl hlen.symm (Nat.le_refl _)) (ts (rm rfl (ro rfl (cZ K_203 (nG _ hS.dig zo) ⟨(Ht rfl),trivial⟩) (ra rfl (eX (fW rfl (fX (eU rfl) ?_))))))))
   exact (bH hfin)
theorem Xo {m k:Nat} (hm:(dg m).length ≤ 17592186044416) (hk:k ≤ 562949953421312):bB Tryz.prog 253 [aB m,NT .i64 k] (aB (m / 2 ^ k)):=by
 refine bB.intro Tryz.func253 rfl Tryz.ntmps253 rfl (fun cx=>?_)
 have hr:=Nat.mod_lt k (by decide:32 > 0)
 refine ts (ro rfl (cQ cV) (eX (ts (rm rfl (ro rfl (gN (Ht rfl) (cJ 32) zo z6) (rm rfl (ro rfl (kO (Ht rfl) (cJ 32) zo) (ro rfl (gZ U_3 U_275 (Ht rfl) z7) (ra rfl (ra rfl (eX (cK (ts (rm rfl (rm rfl (ro rfl (dG U_28 (Ht rfl) aA) (ro rfl (mN (Ht rfl) (Ht rfl)) (eX (dQ (Ht rfl) (fun hb=>?_) (fun hb=>?_))))))))))))))))))))
 ·simp at hb
  have h0:=Cq (aR m) hb (r:=k % 32)
  rw [bD,jS] at h0
  refine ts (ro rfl (cQ cV) (eX (fW rfl (fX (eU rfl) ?_))))
  exact (fun v V h=>bH h0.symm v V (iE v V h))
 ·simp at hb
  refine cU (ts (rm rfl (ro rfl (dG U_28 (Ht rfl) aA) (rm rfl (ro rfl (dW (Ht rfl) (Ht rfl) zo z6) (rn rfl (dC (T:=bC 0) (i:=Tryz.t24) V_28 gU rfl rfl (Ht rfl) rfl (fun _=>rfl) trivial (by show 4 * _ ≤ _; omega) zo) fun B23=>(ra rfl (eX (cK (ts (rm rfl (ro rfl (iZ U_28 (Ht rfl)) (ro rfl (cX (cJ 0)) (eX (eG ?_)))))))))))))))
  refine dP (fun (i : Nat) (out : List Nat) => vB (dg m) (k / 32) (k % 32) out i) (fun (i : Nat) (out : List Nat) => (dg m).length - i) (fun (i : Nat) (out : List Nat) => [(0, aB m), (5, NT .i64 (k / 32)), (6, NT .u64 (k % 32)), (7, Is (.slice (some ⟨B23, 0, none⟩) ((dg m).length - k / 32) ((dg m).length - k / 32))), (25, NT .i64 ((dg m).length - k / 32 : Nat)), (26, NT .i64 i)]) (fun (i : Nat) (out : List Nat) => [box B23 24 (out.map bC)]) 0 (List.replicate ((dg m).length - k / 32) 0) (vB.start _ _ _)
   (zS rfl) (aU (aD (iO _)) aY) (fun i out hS=>?_)
  refine ts (ro rfl (gX (Ht rfl) (Ht rfl)) (eX (cK (dQ (Ht rfl) (fun hb=>?_) (fun hb=>?_)))))
  ·simp at hb
   have hlen:=hS.len; have hx0:=aO (aR m) (i + k / 32); have hx1:=aO (aR m) (i + k / 32 + 1)
   have hio:i < out.length:=by omega
   simp only [BB] at hx0 hx1
   refine cU (cK (eG (ts (rm rfl (ra rfl (eX (ts (rm rfl (rm rfl (rm rfl (ro rfl (dV (Ht rfl) (Ht rfl) z6) (ro rfl (dZ U_28 Z_24 (Ht rfl) (Ht rfl) rfl (dY (aH zo))) (ro rfl (dJ A_24 Z_24 (Ht rfl)) (ro rfl (gZ U_24 U_274 (Ht rfl) z7) (ra rfl (eX (cK (iR (fun (v:Nat)=>v = (dg m).getD (i + k / 32) 0 + BB * (dg m).getD (i + k / 32 + 1) 0) (fun (v:Nat)=>[(0,aB m),(5,NT .i64 (k / 32)),(6,NT .u64 (k % 32)),(7,Is (.slice (some ⟨B23,0,none⟩) ((dg m).length - k / 32) ((dg m).length - k / 32))),(8,NT .i64 i),(9,NT .u64 v),(25,NT .i64 ((dg m).length - k / 32:Nat)),(26,NT .i64 i)]) (fun (v:Nat)=>[box B23 24 (out.map bC)]) ?_ (fun v hv=>?_)))))))))))))))))))
   ·refine ts (rm rfl (rm rfl (ro rfl (dV (Ht rfl) (Ht rfl) z6) (ro rfl (dV (Ht rfl) (cJ 1) z6) (rm rfl (ro rfl (dG U_28 (Ht rfl) aA) (ro rfl (gX (Ht rfl) (Ht rfl)) (eX (dQ (Ht rfl) (fun hk2 => ?_) (fun hk2 => ?_))))))))))
    ·simp at hk2
     refine cY (rm rfl (rm rfl (rm rfl (rm rfl (ro rfl (dV (Ht rfl) (Ht rfl) z6) (ro rfl (dV (Ht rfl) (cJ 1) z6) (ro rfl (dZ U_28 Z_24 (Ht rfl) (Ht rfl) rfl (dY (aH zo))) (ro rfl (dJ A_24 Z_24 (Ht rfl)) (ro rfl (gZ U_24 U_274 (Ht rfl) z7) (ro rfl (kP (Ht rfl) (cJ 32) (by decide) (by show _ < 18446744073709551616; omega)) ?_))))))))))
     refine ro rfl (aM.nat (lY rfl (Ht rfl) (Ht rfl) z7 z7) (Gz hx0)) (ra rfl (eX (aS ((dg m).getD (i + k / 32) 0 + BB * (dg m).getD (i + k / 32 + 1) 0) rfl (zS rfl) (cF.refl _))))
    ·simp at hk2
     refine cU (aS ((dg m).getD (i + k / 32) 0) (by simp [List.getD,List.getElem?_eq_none hk2]) (zS rfl) (cF.refl _))
   ·refine cY (rm rfl (rm rfl (rm rfl (rm rfl (ro rfl (cI (Ht rfl) (Ht rfl) (by show _ ≤ 64; omega)) (ro rfl (dD rfl U_274 U_24 (Ht rfl)) (ro rfl (fY U_28 Z_24 (Ht rfl) (Ht rfl) rfl zo (by rw [Nat.mul_one, Nat.zero_add])) ?_)))))))
    refine iX Z_24 (Ht rfl) (Ht rfl) (i:=0) rfl (by first | omega | (simp; omega)) rfl (eX (bF (cY (ro rfl (dV (Ht rfl) (cJ 1) z6) (rm rfl (eX (fU (i + 1,_) (hS.next (aR m) hr hio (by rw [hv]; rfl)) (by dsimp only; omega) (zS rfl) (aU (aD (cT _ _ _)) aY))))))))
  ·simp at hb
   have hlen:=hS.len
   have hkl:i = out.length:=Nat.le_antisymm hS.kle zo
   subst hkl
   have hfin:=hS.fin (aR m) zo
   rw [bD,jS] at hfin
   refine gV rfl (gJ (i:=0) (tt:=7) rfl rfl (jD rfl hlen.symm (Nat.le_refl _)) (ts (rm rfl (ro rfl (cZ K_203 (nG _ hS.dig zo) ⟨(Ht rfl),trivial⟩) (ra rfl (eX (fW rfl (fX (eU rfl) ?_))))))))
   exact (bH hfin)
theorem Fp {m y:Nat} (hm:(dg m).length ≤ 17592186044416) (hy:0 < y) (hyb:y < BB):bB Tryz.prog 250 [aB m,bC y] (fT [aB (m / y),bC (m % y)]):=by
 refine bB.intro Tryz.func250 rfl Tryz.ntmps250 rfl (fun cx=>(ts (ro rfl (cQ cV) (ro rfl (cQ (cJ 0)) (eX (ts (rm rfl (ro rfl (dG U_28 (Ht rfl) aA) (rn rfl (dC (T:=bC 0) (i:=Tryz.t24) V_28 gU rfl rfl (Ht rfl) rfl (fun _=>rfl) trivial (by show 4 * _ ≤ _; omega) zo) fun B11=>(ra rfl (eX (ts (ro rfl (cQ (cJ 0)) (eX (cK (ts (rm rfl (ro rfl (dG U_28 (Ht rfl) aA) (ro rfl (eR (Ht rfl) cV (nO zo)) (ra rfl (eX (eG ?_))))))))))))))))))))))
 refine gS (fun (k : Nat) (out : List Nat) (r : Nat) => lO (dg m) y out k r) (fun (k : Nat) (out : List Nat) (r : Nat) => k) (fun (k : Nat) (out : List Nat) (r : Nat) => [(0, aB m), (1, bC y), (6, Is (.slice (some ⟨B11, 0, none⟩) (dg m).length (dg m).length)), (7, bC r), (8, aF .i64 ((k : Int) - 1))]) (fun (k : Nat) (out : List Nat) (r : Nat) => [box B11 24 (out.map bC)]) (dg m).length (List.replicate (dg m).length 0) 0 (lO.start _ hy)
  (zS rfl) (aU (aD (iO _)) aY) (fun k out r hS=>?_)
 refine cK (ts (rm rfl (ro rfl (jX (Ht rfl) cV) (eX (dQ (Ht rfl) (fun hb=>?_) (fun hb=>?_))))))
 ·simp at hb
  have hlen:=hS.len; have hkl:=hS.kle
  refine cU (cK (eG (cY (rm rfl (rm rfl (rm rfl (rm rfl (rm rfl (ro rfl (dZ U_28 Z_24 (Ht rfl) (Ht rfl) (show ((k:Int) - 1) = ((k - 1:Nat):Int) by omega) (dY (aH zo))) (ro rfl (dJ A_24 Z_24 (Ht rfl)) (rm rfl (ro rfl (cZ Tryz.call285 (Ov hS.rlt (aO (aR m) (k - 1)) hyb) ⟨(Ht rfl),(Ht rfl),(Ht rfl),trivial⟩) (rm rfl (ro rfl (dK (Ht rfl) rfl) (ro rfl (dK (Ht rfl) rfl) (ro rfl (fY U_28 Z_24 (Ht rfl) (Ht rfl) (show ((k:Int) - 1) = ((k - 1:Nat):Int) by omega) zo (by rw [Nat.mul_one,Nat.zero_add])) ?_))))))))))))))))
  refine iX Z_24 (Ht rfl) (Ht rfl) (i:=0) rfl (by first | omega | (simp; omega)) rfl (ra rfl (eX (bF (cY (rm rfl (ro rfl (eR (Ht rfl) cV (nO zo)) (ra rfl (eX (fU (k - 1,_,_) (hS.next (aR m) zo rfl) (by dsimp only; omega) (aQ rfl (aQ rfl (aQ rfl (aQ rfl (aZ rfl (aN zo) aX))))) (aU (aD (cT _ _ _)) aY))))))))))
 ·simp at hb
  have hk0:k = 0:=by omega
  subst hk0
  have hlen:=hS.len
  have hfin:=hS.fin
  rw [bD] at hfin
  refine gV rfl (gJ (i:=0) (tt:=6) rfl rfl (jD rfl hlen.symm (Nat.le_refl _)) (ts (rm rfl (ro rfl (cZ K_203 (nG _ hS.dig zo) ⟨(Ht rfl),trivial⟩) (rm rfl (ra rfl (ra rfl (eX (bI rfl (fX (eU rfl) ?_) (fX (eU rfl) ?_))))))))))
  ·exact (bH hfin.1)
  ·exact (kT hfin.2)
end
section
open Go Go.RowKit
theorem Uz {us vs : List Nat} {q j B l : Nat} (hul : us.length = l) (hu : iL us) (hv : iL vs) (hq : q < BB) (hl : j + vs.length < us.length) (hL : us.length ≤ 1152921504606846976) :
    jC Tryz.prog 252 [Is (.slice (some ⟨B,0,none⟩) l l),qH vs,NT .u64 q,NT .i64 j] [box B 24 (us.map bC)] (List Nat × Bool) (fun x=>aC x.2) (fun x=>[box B 24 (x.1.map bC)]) (fun x=>Ag us vs q j x.1 x.2):=by
 refine jC.intro Tryz.func252 rfl Tryz.ntmps252 rfl (fun cx Z=>(ts (ro rfl (cQ cV) (eX (ts (ro rfl (cQ (cJ 0)) (ro rfl (cQ (cJ 0)) (eX (cK (ts (rm rfl (ro rfl (dG U_28 (Ht rfl) aA) (ro rfl (cX (cJ 0)) (eX (eG ?_)))))))))))))))
 refine uA (fun (i : Nat) (out : List Nat) (c : Nat) (b : Nat) => nX us vs q j out i c b) (fun (i : Nat) (out : List Nat) (c : Nat) (b : Nat) => vs.length - i) (fun (i : Nat) (out : List Nat) (c : Nat) (b : Nat) => [(0, Is (.slice (some ⟨B, 0, none⟩) l l)), (1, qH vs), (2, NT .u64 q), (3, NT .i64 j), (9, NT .u64 c), (10, NT .u64 b), (16, qH vs), (17, NT .i64 vs.length), (18, NT .i64 i)]) (fun (i : Nat) (out : List Nat) (c : Nat) (b : Nat) => [Z, box B 24 (out.map bC)]) 0 us 0 0 (nX.start hu vs q j)
  (zS rfl) (cF.refl _) (fun i out c b hS=>?_)
 refine ts (ro rfl (gX (Ht rfl) (Ht rfl)) (eX (cK (dQ (Ht rfl) (fun hb=>?_) (fun hb=>?_)))))
 ·simp at hb
  have hlen:=hS.len; have hcl:=hS.clt; have hbl:=hS.ble; have hvi:=aO hv i; have hok:=aO hS.dig (i + j)
  have hp:=Ep hq hvi hS.clt
  simp only [BB] at hp hcl hvi hok
  obtain ⟨p,hp1⟩:∃ p,p = q * vs.getD i 0 + c:=⟨_,rfl⟩
  obtain ⟨x,hx1⟩:∃ x,x = ((out.getD (i + j) 0 + 18446744073709551616 - p % 4294967296) % 18446744073709551616 + 18446744073709551616 - b) % 18446744073709551616:=⟨_,rfl⟩
  refine cU (cK (eG (ts (rm rfl (ro rfl (dZ U_28 Z_24 (Ht rfl) (Ht rfl) rfl (dY (aH zo))) (ro rfl (dJ A_24 Z_24 (Ht rfl)) (ra rfl (ra rfl (eX (ts (rm rfl (rm rfl (ro rfl (gZ U_24 U_274 (Ht rfl) z7) (ro rfl (jA (Ht rfl) (Ht rfl) z7) (rm rfl (ro rfl (aM.nat (dV (Ht rfl) (Ht rfl) z7) hp1.symm) ?_))))))))))))))))
  refine ra rfl (eX (ts (rm rfl (ro rfl (cI (Ht rfl) (cJ 32) (by decide)) (ra rfl (eX (ts (rm rfl (rm rfl (rm rfl (ro rfl (dV (Ht rfl) (Ht rfl) z6) (ro rfl (fY U_28 Z_24 (Ht rfl) (Ht rfl) rfl zo (by rw [Nat.mul_one,Nat.zero_add])) ?_))))))))))))
  refine ro rfl (eY A_24 Z_24 (Ht rfl) (i:=1) rfl (dY (aH zo))) (ro rfl (gZ U_24 U_274 (Ht rfl) z7) (rm rfl (ro rfl (dD rfl U_274 U_24 (Ht rfl)) (ro rfl (gZ U_24 U_274 (Ht rfl) z7) (ro rfl (jM rfl (Ht rfl) (Ht rfl) (by show _ ≤ 18446744073709551616; first | omega | (simp only [jE]; omega))) ?_)))))
  refine rm rfl (ro rfl (aM.nat (jM rfl (Ht rfl) (Ht rfl) (by show _ ≤ 18446744073709551616; first | omega | (simp only [jE]; omega))) hx1.symm) (ra rfl (eX (ts (rm rfl (rm rfl (rm rfl (ro rfl (dV (Ht rfl) (Ht rfl) z6) (rm rfl (ro rfl (dD rfl U_274 U_24 (Ht rfl)) (ro rfl (fY U_28 Z_24 (Ht rfl) (Ht rfl) rfl zo (by rw [Nat.mul_one,Nat.zero_add])) ?_)))))))))))
  refine iX Z_24 (Ht rfl) (Ht rfl) (i:=1) rfl (by first | omega | (simp; omega)) rfl (eX (cY (rm rfl (ro rfl (cI (Ht rfl) (cJ 63) (by decide)) (ra rfl (eX (bF (cY (ro rfl (dV (Ht rfl) (cJ 1) z6) (rm rfl (eX (fU (i + 1,_,_,_) (hS.next hu hv hq hb hl hp1 (wL hok hbl hx1) rfl) (by dsimp only; omega) (zS rfl) (aU (fun _ _ _ h=>h) (aU (aD (cT _ _ _)) aY))))))))))))))
 ·simp at hb
  have hkl:i = vs.length:=Nat.le_antisymm hS.ile hb
  subst hkl
  have hlen:=hS.len; have hcl:=hS.clt; have hbl:=hS.ble; have hok:=aO hS.dig (j + vs.length)
  obtain ⟨x,hx1⟩:∃ x,x = ((out.getD (j + vs.length) 0 + 18446744073709551616 - c) % 18446744073709551616 + 18446744073709551616 - b) % 18446744073709551616:=⟨_,rfl⟩
  have hfin:=hS.fin hl (wM hok hcl hbl hx1) rfl
  simp only [BB] at hcl hok
  refine gV rfl (ts (rm rfl (rm rfl (rm rfl (ro rfl (dG U_28 (Ht rfl) aA) (ro rfl (dV (Ht rfl) (Ht rfl) z6) (ro rfl (fY U_28 Z_24 (Ht rfl) (Ht rfl) rfl zo (by rw [Nat.mul_one,Nat.zero_add])) ?_)))))))
  refine ro rfl (eY A_24 Z_24 (Ht rfl) (i:=1) rfl (dY (aH zo))) (ro rfl (gZ U_24 U_274 (Ht rfl) z7) (rm rfl (ro rfl (jM rfl (Ht rfl) (Ht rfl) (by show _ ≤ 18446744073709551616; first | omega | (simp only [jE]; omega))) (rm rfl (ro rfl (aM.nat (jM rfl (Ht rfl) (Ht rfl) (by show _ ≤ 18446744073709551616; first | omega | (simp only [jE]; omega))) hx1.symm) (ra rfl (eX (ts (rm rfl (rm rfl (rm rfl (ro rfl (dG U_28 (Ht rfl) aA) ?_))))))))))))
  refine ro rfl (dV (Ht rfl) (Ht rfl) z6) (rm rfl (ro rfl (dD rfl U_274 U_24 (Ht rfl)) (ro rfl (fY U_28 Z_24 (Ht rfl) (Ht rfl) rfl zo (by rw [Nat.mul_one,Nat.zero_add])) ?_)))
  refine iX Z_24 (Ht rfl) (Ht rfl) (i:=1) rfl (by first | omega | (simp; omega)) rfl (eX (ts (rm rfl (ro rfl (cI (Ht rfl) (cJ 63) (by decide)) (ro rfl (jY (Ht rfl) (cJ 0)) (ra rfl (eX ?_)))))))
  exact lP (_,_) hfin [0,1] ⟨⟨_,rfl,fun _ _ _ h=>h⟩,⟨_,rfl,(aD (cT _ _ _))⟩,trivial⟩ (by decide) (zQ rfl (eU rfl))
theorem Fj {m n:Nat} (hm:(dg m).length ≤ 17592186044415) (hn1:(dg n).length ≤ 17592186044416) (hn:n ≠ 0):bB Tryz.prog 202 [aB m,aB n] (fT [aB (m / n),aB (m % n)]):=by
 refine bB.intro Tryz.func202 rfl Tryz.ntmps202 rfl (fun cx=>(ts (ro rfl (cQ cV) (ro rfl (cQ cV) (eX (cK (ts (rm rfl (rm rfl (ro rfl (cZ Tryz.call129 (Su zo zo) ⟨(Ht rfl),(Ht rfl),trivial⟩) (ro rfl (iK (Ht rfl) cV) (eX (dQ (Ht rfl) (fun hb=>?_) (fun hb=>?_))))))))))))))
 ·simp only [decide_eq_true_eq] at hb
  have hlt : m < n := by
   unfold nS at hb
   split at hb
   ·assumption
   ·split at hb <;> simp at hb
  refine ts (rm rfl (ro rfl (cQ cV) (ra rfl (eX (bI rfl (fX (eU rfl) ?_) (fX (eU rfl) ?_))))))
  ·exact (fun v V h=>bH (Nat.div_eq_of_lt hlt).symm v V (iE v V h))
  ·exact (bH (Nat.mod_eq_of_lt hlt).symm)
 ·simp only [decide_eq_false_iff_not] at hb
  have hle : n ≤ m := by
   unfold nS at hb
   split at hb
   ·simp at hb
   ·omega
  clear hb
  refine cU (cK (ts (rm rfl (ro rfl (dG U_28 (Ht rfl) aA) (ro rfl (cE (Ht rfl) (cJ 1)) (eX (dQ (Ht rfl) (fun h1=>?_) (fun h1=>?_))))))))
  ·simp at h1
   have hy0:=Ks h1
   have hyb:=aO (aR n) 0
   have hmod:=Nat.mod_lt m (show (dg n).getD 0 0 > 0 by omega)
   simp only [BB] at hyb
   refine ts (rm rfl (rm rfl (ro rfl (dZ U_28 Z_24 (Ht rfl) (cJ 0) rfl (dY (aH zo))) (ro rfl (dJ A_24 Z_24 (Ht rfl)) (ro rfl (cZ Tryz.call250 (Fp zo zo hyb) ⟨(Ht rfl),(Ht rfl),trivial⟩) (rm rfl (ro rfl (dK (Ht rfl) rfl) (ro rfl (dK (Ht rfl) rfl) (ra rfl (ra rfl (eX (ts (rm rfl (rm rfl (ro rfl (gZ U_24 U_274 (Ht rfl) z7) (ro rfl (cZ Tryz.call207 (yQ zo) ⟨(Ht rfl),trivial⟩) ?_))))))))))))))))
   refine ra rfl (ra rfl (eX (bI rfl (fX (eU rfl) ?_) (fX (eU rfl) ?_))))
   ·exact (bH (by rw [hy0]))
   ·exact (bH (by rw [hy0]))
  ·simp at h1
   have hl0:(dg n).length ≠ 0:=fun e=>hn (aI.1 e)
   have hyb:=aO (aR n) ((dg n).length - 1)
   obtain ⟨s,hs⟩:∃ s,s = 32 - bl ((dg n).getD ((dg n).length - 1) 0):=⟨_,rfl⟩
   obtain ⟨hs1,hvl,hvb⟩:=Ba hn hs
   obtain ⟨hc1,hc2,hc3,hc4⟩:=Av (m:=m) hs1
   simp only [BB] at hyb
   have hp2:0 < 2 ^ s:=Nat.pow_pos (by decide)
   have hX0:(dg (m * 2 ^ s)).length ≠ 0:=fun e=>(Nat.ne_of_gt (Nat.mul_pos (show 0 < m by omega) hp2)) (aI.1 e)
   have hmono:=eL hle
   refine cU (ts (rm rfl (ro rfl (dG U_28 (Ht rfl) aA) (rm rfl (rm rfl (ro rfl (dG U_28 (Ht rfl) aA) (ro rfl (dW (Ht rfl) (cJ 1) zo z6) (ro rfl (dZ U_28 Z_24 (Ht rfl) (Ht rfl) rfl (dY (aH zo))) (ro rfl (dJ A_24 Z_24 (Ht rfl)) (ro rfl (aM.nat (cZ Tryz.call251 (Ur zo) ⟨(Ht rfl),trivial⟩) hs.symm) (ra rfl (ra rfl (eX (ts (rm rfl (rm rfl (ro rfl (cZ Tryz.call206 (Sy zo zo) ⟨(Ht rfl),(Ht rfl),trivial⟩) ?_)))))))))))))))))
   refine ra rfl (eX (ts (rm rfl (ro rfl (dG U_28 (Ht rfl) aA) (ro rfl (dV (Ht rfl) (cJ 1) z6) (rn rfl (dC (T:=bC 0) (i:=Tryz.t24) V_28 gU rfl rfl (Ht rfl) rfl (fun _=>rfl) trivial (by show 4 * _ ≤ _; omega) zo) fun B55=>(ra rfl (eX (ts (rm rfl (rm rfl (rm rfl (ro rfl (cZ Tryz.call206 (Sy zo zo) ⟨(Ht rfl),(Ht rfl),trivial⟩) (Ex U_28 Z_24 (Ht rfl) (Ht rfl) (Lp hX0) Th (i:=0) rfl (by simp) (by simp; omega) (Aw _ _) rfl rfl ?_))))))))))))))
   refine eX (ts (rm rfl (ro rfl (iZ U_28 (Ht rfl)) (rm rfl (ro rfl (dW (Ht rfl) (Ht rfl) zo z6) (rn rfl (dC (T:=bC 0) (i:=Tryz.t24) V_28 gU rfl rfl (Ht rfl) rfl (fun _=>rfl) trivial (by show 4 * _ ≤ _; omega) zo) fun B65=>(ra rfl (eX (cK (ts (rm rfl (ro rfl (iZ U_28 (Ht rfl)) (ro rfl (eR (Ht rfl) cV (nO zo)) (ra rfl (eX (eG ?_))))))))))))))))
   obtain ⟨vs,hvs⟩:∃ vs,vs = dg (n * 2 ^ s):=⟨_,rfl⟩
   rw [← hvs] at hvl hvb
   have hv:iL vs:=hvs ▸ aR _
   have hvv:val vs = n * 2 ^ s:=by rw [hvs,bD]
   have hV0:0 < val vs:=by rw [hvv]; exact Nat.mul_pos zo hp2
   have hnr:=Gr hv zo hvb
   have hv1:=hnr.v1lt; have hv2:=hnr.v2lt; have hbig:=hnr.big
   simp only [BB] at hv1 hv2 hbig
   refine gS (fun (k : Nat) (us : List Nat) (qs : List Nat) => kY (m * 2 ^ s) vs us qs k ∧ us.length = (dg m).length + 1) (fun (k : Nat) (us : List Nat) (qs : List Nat) => k) (fun (k : Nat) (us : List Nat) (qs : List Nat) => [(8, NT .i64 vs.length), (9, NT .i64 s), (10, qH vs), (11, Is (.slice (some ⟨B55, 0, none⟩) ((dg m).length + 1) ((dg m).length + 1))), (12, Is (.slice (some ⟨B65, 0, none⟩) ((dg m).length + 1 - (dg n).length) ((dg m).length + 1 - (dg n).length))), (13, aF .i64 ((k : Int) - 1))]) (fun (k : Nat) (us : List Nat) (qs : List Nat) => [box B55 24 (us.map bC), box B65 24 (qs.map bC)]) ((dg m).length + 1 - (dg n).length) (vM m s) (List.replicate ((dg m).length + 1 - (dg n).length) 0) ⟨kY.start hv zo hvb hs1 (by have := gA (aR m); rwa [bD] at this) hc3 hc2 hc4 zo, hc2⟩
    (aZ rfl (kT hvl.symm) (aQ rfl (aZ rfl (fun v V h=>by rw [hvs]; exact h) (aQ rfl (aQ rfl (aZ rfl (aN zo) aX)))))) (aU (fun _ _ _ h=>h) (aU (aD (iO _)) aY)) (fun k us qs ⟨hS,hus⟩=>?_)
   refine cK (ts (rm rfl (ro rfl (jX (Ht rfl) cV) (eX (dQ (Ht rfl) (fun hk=>?_) (fun hk=>?_))))))
   ·simp at hk
    obtain ⟨j,rfl⟩:∃ j,k = j + 1:=⟨k - 1,by omega⟩
    have htp:=hS.top hv zo (Nat.succ_pos j) rfl
    have hkq:=hS.kle; have hlq:=hS.lenq
    rw [Nat.add_sub_cancel] at htp
    have hu0:=aO hS.dig (j + vs.length); have hu1:=aO hS.dig (j + vs.length - 1); have hu2:=aO hS.dig (j + vs.length - 2)
    have ht64:=Nq hu0 hu1; have hsh:=Co hu0
    obtain ⟨top,htop⟩:∃ top,top = us.getD (j + vs.length) 0 * BB + us.getD (j + vs.length - 1) 0:=⟨_,rfl⟩
    have hor:=(qR (a:=us.getD (j + vs.length) 0) hu1).trans htop.symm
    rw [← htop] at htp ht64
    have hu2b:=hu2
    simp only [BB] at hu0 hu1 hu2
    refine lQ (E':=[(8,_),(9,_),(10,_),(11,_),(12,_),(13,_),(69,_),(70,_)]) (aQ rfl (aQ rfl (aQ rfl (aQ rfl (aQ rfl (aZ rfl (aN (show ((j + 1:Nat):Int) - 1 = (j:Int) by omega)) (zS rfl))))))) (cU (cK (eG (cK (fZ (m:=16) (dp 11 rfl (cX (Ht rfl)) (dp 13 rfl (cX (Ht rfl)) (dp 8 rfl (cX (Ht rfl)) (cP 74 1 75 2 rfl (dV (Ht rfl) (Ht rfl) z6) (cP 73 0 76 3 rfl (fY U_28 Z_24 (Ht rfl) (Ht rfl) rfl zo (by rw [Nat.mul_one,Nat.zero_add])) ?_))))))))))
    refine dq 77 4 rfl (eY A_24 Z_24 (Ht rfl) (i:=0) rfl (dY (aH zo))) (dq 78 5 rfl (gZ U_24 U_274 (Ht rfl) z7) (dq 79 6 rfl (kP (Ht rfl) (cJ 32) (by decide) hsh) (dp 11 rfl (cX (Ht rfl)) (dp 13 rfl (cX (Ht rfl)) (dp 8 rfl (cX (Ht rfl)) (cP 82 9 83 10 rfl (dV (Ht rfl) (Ht rfl) z6) (dq 84 11 rfl (dW (Ht rfl) (cJ 1) zo z6) ?_)))))))
    refine cP 81 8 85 12 rfl (fY U_28 Z_24 (Ht rfl) (Ht rfl) rfl zo (by rw [Nat.mul_one,Nat.zero_add])) ?_
    refine dq 86 13 rfl (eY A_24 Z_24 (Ht rfl) (i:=0) rfl (dY (aH zo))) (dq 87 14 rfl (gZ U_24 U_274 (Ht rfl) z7) (fV mixed rfl (by kernel_rfl) (zF (zF (zF (zF (aV (ro rfl (aM.nat (lY rfl (Ht rfl) (Ht rfl) z7 z7) hor) ?_))))))))
    refine ra rfl (eX (cK (fZ (m:=17) (dp 14 rfl (cX (Ht rfl)) (dp 10 rfl (cX (Ht rfl)) (dp 8 rfl (cX (Ht rfl)) (dq 92 2 rfl (dW (Ht rfl) (cJ 1) zo z6) (cP 91 1 93 3 rfl (dZ U_28 Z_24 (Ht rfl) (Ht rfl) rfl (dY (aH zo))) (dq 94 4 rfl (dJ A_24 Z_24 (Ht rfl)) (dq 95 5 rfl (gZ U_24 U_274 (Ht rfl) z7) ?_))))))))))
    refine cP 90 0 96 6 rfl (gN (Ht rfl) (Ht rfl) zo (by show _ < 18446744073709551616; exact ht64)) (dp 14 rfl (cX (Ht rfl)) (dp 10 rfl (cX (Ht rfl)) (dp 8 rfl (cX (Ht rfl)) (dq 100 10 rfl (dW (Ht rfl) (cJ 1) zo z6) (cP 99 9 101 11 rfl (dZ U_28 Z_24 (Ht rfl) (Ht rfl) rfl (dY (aH zo))) (dq 102 12 rfl (dJ A_24 Z_24 (Ht rfl)) (dq 103 13 rfl (gZ U_24 U_274 (Ht rfl) z7) ?_)))))))
    refine cP 98 8 104 14 rfl (kO (Ht rfl) (Ht rfl) zo) (dq 97 7 rfl (cQ (Ht rfl)) (fV mixed rfl (by kernel_rfl) (zF (zF (zF (zF (aJ (aV (ra rfl (eX (cK (iR (fun (g:Nat)=>Dc (val (us.drop j)) (val vs) g) (fun (g:Nat)=>[(8,NT .i64 vs.length),(9,NT .i64 s),(10,qH vs),(11,Is (.slice (some ⟨B55,0,none⟩) ((dg m).length + 1) ((dg m).length + 1))),(12,Is (.slice (some ⟨B65,0,none⟩) ((dg m).length + 1 - (dg n).length) ((dg m).length + 1 - (dg n).length))),(13,NT .i64 j),(15,NT .u64 g)]) (fun (g:Nat)=>[box B55 24 (us.map bC),box B65 24 (qs.map bC)]) ?_ (fun g hg=>?_)))))))))))))
    ·refine eG ?_
     refine dP (fun (g : Nat) (r : Nat) => jO (val (us.drop j)) (val vs) (vs.getD (vs.length - 1) 0) top g r ∧ r < 4294967296) (fun (g : Nat) (r : Nat) => g) (fun (g : Nat) (r : Nat) => [(8, NT .i64 vs.length), (9, NT .i64 s), (10, qH vs), (11, Is (.slice (some ⟨B55, 0, none⟩) ((dg m).length + 1) ((dg m).length + 1))), (12, Is (.slice (some ⟨B65, 0, none⟩) ((dg m).length + 1 - (dg n).length) ((dg m).length + 1 - (dg n).length))), (13, NT .i64 j), (15, NT .u64 g), (16, NT .u64 r)]) (fun (g : Nat) (r : Nat) => [box B55 24 (us.map bC), box B65 24 (qs.map bC)]) (top / vs.getD (vs.length - 1) 0) (top % vs.getD (vs.length - 1) 0) ⟨jO.start hnr htp, Nat.lt_trans (Nat.mod_lt _ zo) hv1⟩
      (zS rfl) (cF.refl _) (fun g r ⟨hG,hr⟩=>?_)
     have hgl:=(hG.glt hnr htp).1
     have hrs:=Co (a:=r) hr
     have horr:=qR (a:=r) hu2b
     simp only [BB] at hgl
     refine cK (cK (fZ (m:=22) (dp 15 rfl (cX (Ht rfl)) (dq 106 0 rfl (mN (Ht rfl) (cJ 4294967296)) (dq 107 1 rfl (cX (Ht rfl)) (C.D_step (Ei:=[(15,_),(108,_)]) rfl rfl (bV (bK rfl rfl) (bV (bG 2 rfl rfl) bW)) (eK rfl rfl (Ht rfl) (fun h=>cX (Ht rfl))) (C.D_step (Ei:=[(10,_),(108,_)]) rfl rfl (bV (bK rfl rfl) (bV (bG 2 rfl rfl) bW)) (eK rfl rfl (Ht rfl) (fun h=>cX (Ht rfl))) (C.D_step (Ei:=[(8,_),(108,_)]) rfl rfl (bV (bK rfl rfl) (bV (bG 2 rfl rfl) bW)) (eK rfl rfl (Ht rfl) (fun h=>cX (Ht rfl))) ?_))))))))
     refine C.D_step (Ei:=[(111,_),(108,_)]) rfl rfl (bV (bG 5 rfl rfl) (bV (bG 2 rfl rfl) bW)) (eK rfl rfl (Ht rfl) (fun h=>dW (fJ rfl h) (cJ 2) (by first | omega | (simp at h; omega)) (by show _ < 9223372036854775808; first | omega | (simp at h; omega)))) (C.D_step (Ei:=[(110,_),(112,_),(108,_)]) rfl rfl (bV (bG 4 rfl rfl) (bV (bG 6 rfl rfl) (bV (bG 2 rfl rfl) bW))) (eK rfl rfl (Ht rfl) (fun h=>dZ U_28 Z_24 (fJ rfl h) (fJ rfl h) rfl (dY (aH (by first | omega | (simp at h; omega)))))) ?_)
     refine C.D_step (Ei:=[(113,_),(108,_)]) rfl rfl (bV (bG 7 rfl rfl) (bV (bG 2 rfl rfl) bW)) (eK rfl rfl (Ht rfl) (fun h=>dJ A_24 Z_24 (fJ rfl h))) (C.D_step (Ei:=[(114,_),(108,_)]) rfl rfl (bV (bG 8 rfl rfl) (bV (bG 2 rfl rfl) bW)) (eK rfl rfl (Ht rfl) (fun h=>gZ U_24 U_274 (fJ rfl h) (by show _ < 18446744073709551616; first | omega | (simp at h; omega)))) (C.D_step (Ei:=[(109,_),(115,_),(108,_)]) rfl rfl (bV (bG 3 rfl rfl) (bV (bG 9 rfl rfl) (bV (bG 2 rfl rfl) bW))) (eK rfl rfl (Ht rfl) (fun h=>jA (fJ rfl h) (fJ rfl h) (by show _ < 18446744073709551616; simp at h; exact Te h hv2))) ?_))
     refine C.D_step (Ei:=[(16,_),(108,_)]) rfl rfl (bV (bK rfl rfl) (bV (bG 2 rfl rfl) bW)) (eK rfl rfl (Ht rfl) (fun h=>cX (Ht rfl))) (C.D_step (Ei:=[(117,_),(108,_)]) rfl rfl (bV (bG 11 rfl rfl) (bV (bG 2 rfl rfl) bW)) (eK rfl rfl (Ht rfl) (fun h=>kP (fJ rfl h) (cJ 32) (by decide) hrs)) (C.D_step (Ei:=[(11,_),(108,_)]) rfl rfl (bV (bK rfl rfl) (bV (bG 2 rfl rfl) bW)) (eK rfl rfl (Ht rfl) (fun h=>cX (Ht rfl))) (C.D_step (Ei:=[(13,_),(108,_)]) rfl rfl (bV (bK rfl rfl) (bV (bG 2 rfl rfl) bW)) (eK rfl rfl (Ht rfl) (fun h=>cX (Ht rfl))) ?_)))
     refine C.D_step (Ei:=[(8,_),(108,_)]) rfl rfl (bV (bK rfl rfl) (bV (bG 2 rfl rfl) bW)) (eK rfl rfl (Ht rfl) (fun h=>cX (Ht rfl))) (C.D_step (Ei:=[(120,_),(121,_),(108,_)]) rfl rfl (bV (bG 14 rfl rfl) (bV (bG 15 rfl rfl) (bV (bG 2 rfl rfl) bW))) (eK rfl rfl (Ht rfl) (fun h=>dV (fJ rfl h) (fJ rfl h) (by show _ < 9223372036854775808; first | omega | (simp at h; omega)))) (C.D_step (Ei:=[(122,_),(108,_)]) rfl rfl (bV (bG 16 rfl rfl) (bV (bG 2 rfl rfl) bW)) (eK rfl rfl (Ht rfl) (fun h=>dW (fJ rfl h) (cJ 2) (by first | omega | (simp at h; omega)) (by show _ < 9223372036854775808; first | omega | (simp at h; omega)))) ?_))
     refine C.D_step (Ei:=[(119,_),(123,_),(108,_)]) rfl rfl (bV (bG 13 rfl rfl) (bV (bG 17 rfl rfl) (bV (bG 2 rfl rfl) bW))) (eK rfl rfl (Ht rfl) (fun h=>fY U_28 Z_24 (fJ rfl h) (fJ rfl h) rfl (by first | omega | (simp at h; omega)) (by rw [Nat.mul_one,Nat.zero_add]))) ?_
     refine C.D_step (Ei:=[(124,_),(108,_)]) rfl rfl (bV (bG 18 rfl rfl) (bV (bG 2 rfl rfl) bW)) (eK rfl rfl (Ht rfl) (fun h=>eY A_24 Z_24 (fJ rfl h) (i:=0) rfl (dY (aH zo)))) (C.D_step (Ei:=[(125,_),(108,_)]) rfl rfl (bV (bG 19 rfl rfl) (bV (bG 2 rfl rfl) bW)) (eK rfl rfl (Ht rfl) (fun h=>gZ U_24 U_274 (fJ rfl h) (by show _ < 18446744073709551616; first | omega | (simp at h; omega)))) (C.D_step (Ei:=[(118,_),(126,_),(108,_)]) rfl rfl (bV (bG 12 rfl rfl) (bV (bG 20 rfl rfl) (bV (bG 2 rfl rfl) bW))) (eK rfl rfl (Ht rfl) (fun h=>aM.nat (lY rfl (fJ rfl h) (fJ rfl h) (by show _ < 18446744073709551616; first | omega | (simp at h; omega)) (by show _ < 18446744073709551616; first | omega | (simp at h; omega))) horr)) ?_))
     refine fV mixed rfl (by kernel_rfl) (zF (zF (zF (zF (zF (aJ (aJ (aV (fQ rfl rfl (eK rfl rfl (Ht rfl) (fun h=>dM (fJ rfl h) (fJ rfl h))) (ro rfl (eE (Ht rfl) (fun h=>(fJ rfl h))) (eX (dQ (Ht rfl) (fun hc=>?_) (fun hc=>?_)))))))))))))
     ·have hn2 := hG.next hnr htp (by simpa [BB] using hc)
      have hg1:=hn2.2
      refine cU (eG (ts (rm rfl (ro rfl (dW (Ht rfl) (cJ 1) zo z7) (ra rfl (eX (ts (rm rfl (rm rfl (rm rfl (ro rfl (dW (Ht rfl) (cJ 1) zo z6) (ro rfl (dZ U_28 Z_24 (Ht rfl) (Ht rfl) rfl (dY (aH zo))) (ro rfl (dJ A_24 Z_24 (Ht rfl)) (ro rfl (gZ U_24 U_274 (Ht rfl) z7) ?_))))))))))))))
      refine ro rfl (dV (Ht rfl) (Ht rfl) z7) (ra rfl (eX (ts (rm rfl (ro rfl (mN (Ht rfl) (cJ 4294967296)) (eX (dQ (Ht rfl) (fun hr2=>?_) (fun hr2=>?_))))))))
      ·simp at hr2
       refine gV rfl (aS (g - 1) (hn2.1.stop hnr htp hr2) (zS rfl) (cF.refl _))
      ·simp at hr2
       refine cU (bF (fU (g - 1,_) ⟨hn2.1,hr2⟩ (by dsimp only; omega) (zS rfl) (cF.refl _)))
     ·simp at hc
      refine gV rfl (aS g (hG.done hnr htp hc.1 hc.2) (zS rfl) (cF.refl _))
    ·have hglt := hg.lt
     simp only [BB] at hglt
     refine cK (mE (fun (us2:List Nat) (g2:Nat)=>kY (m * 2 ^ s) vs us2 (qs.set j g2) j ∧ g2 < 4294967296 ∧ us2.length = (dg m).length + 1) (fun (us2:List Nat) (g2:Nat)=>[(8,NT .i64 vs.length),(9,NT .i64 s),(10,qH vs),(11,Is (.slice (some ⟨B55,0,none⟩) ((dg m).length + 1) ((dg m).length + 1))),(12,Is (.slice (some ⟨B65,0,none⟩) ((dg m).length + 1 - (dg n).length) ((dg m).length + 1 - (dg n).length))),(13,NT .i64 j),(15,NT .u64 g2)]) (fun (us2:List Nat) (g2:Nat)=>[box B55 24 (us2.map bC),box B65 24 (qs.map bC)]) ?_ (fun us2 g2 ⟨hD,hg2,hus2⟩=>?_))
     ·refine ts (rm rfl (rm rfl (rm rfl (rm rfl (Ew Tryz.call252 (Uz hus hS.dig hv hg.lt zo zo) (i := 0) rfl ⟨(Ht rfl), (Ht rfl), (Ht rfl), (Ht rfl), trivial⟩ rfl (fun ⟨out, b⟩ hT => ?_))))))
      dsimp only at hT
      refine eX (dQ (Ht rfl) (fun hbb=>?_) (fun hbb=>?_))
      ·have hbb : b = true := hbb
       subst hbb
       have hg0:=hS.gpos hv rfl zo hT
       have hol:=hT.len
       refine ts (rm rfl (ro rfl (dW (Ht rfl) (cJ 1) zo z7) (ra rfl (eX (ts (ro rfl (cQ (cJ 0)) (eX (cK (ts (rm rfl (ro rfl (dG U_28 (Ht rfl) aA) (ro rfl (cX (cJ 0)) (eX (eG ?_))))))))))))))
       refine gS (fun (i : Nat) (out2 : List Nat) (c : Nat) => nT out vs j out2 i c) (fun (i : Nat) (out2 : List Nat) (c : Nat) => vs.length - i) (fun (i : Nat) (out2 : List Nat) (c : Nat) => [(8, NT .i64 vs.length), (9, NT .i64 s), (10, qH vs), (11, Is (.slice (some ⟨B55, 0, none⟩) ((dg m).length + 1) ((dg m).length + 1))), (12, Is (.slice (some ⟨B65, 0, none⟩) ((dg m).length + 1 - (dg n).length) ((dg m).length + 1 - (dg n).length))), (13, NT .i64 j), (15, NT .u64 (g - 1 : Nat)), (17, NT .u64 c), (149, qH vs), (150, NT .i64 vs.length), (151, NT .i64 i)]) (fun (i : Nat) (out2 : List Nat) (c : Nat) => [box B55 24 (out2.map bC), box B65 24 (qs.map bC)]) 0 out 0 (nT.start hT.dig vs j)
        (zS rfl) (cF.refl _) (fun i out2 c hB=>?_)
       refine ts (ro rfl (gX (Ht rfl) (Ht rfl)) (eX (cK (dQ (Ht rfl) (fun hi=>?_) (fun hi=>?_)))))
       ·simp at hi
        have hlen:=hB.len; have hcl:=hB.cle; have hvi:=aO hv i; have hok:=aO hB.dig (i + j)
        simp only [BB] at hvi hok
        refine cU (cK (eG (ts (rm rfl (ro rfl (dZ U_28 Z_24 (Ht rfl) (Ht rfl) rfl (dY (aH zo))) (ro rfl (dJ A_24 Z_24 (Ht rfl)) (ra rfl (ra rfl (eX (ts (rm rfl (rm rfl (rm rfl (rm rfl (ro rfl (dV (Ht rfl) (Ht rfl) z6) (ro rfl (fY U_28 Z_24 (Ht rfl) (Ht rfl) rfl zo (by rw [Nat.mul_one,Nat.zero_add])) ?_))))))))))))))))
        refine ro rfl (eY A_24 Z_24 (Ht rfl) (i:=0) rfl (dY (aH zo))) (ro rfl (gZ U_24 U_274 (Ht rfl) z7) (rm rfl (ro rfl (gZ U_24 U_274 (Ht rfl) z7) (ro rfl (dV (Ht rfl) (Ht rfl) z7) (ro rfl (dV (Ht rfl) (Ht rfl) z7) ?_)))))
        refine ra rfl (eX (ts (rm rfl (rm rfl (rm rfl (ro rfl (dV (Ht rfl) (Ht rfl) z6) (rm rfl (ro rfl (dD rfl U_274 U_24 (Ht rfl)) (ro rfl (fY U_28 Z_24 (Ht rfl) (Ht rfl) rfl zo (by rw [Nat.mul_one,Nat.zero_add])) ?_)))))))))
        refine iX Z_24 (Ht rfl) (Ht rfl) (i:=0) rfl (by first | omega | (simp; omega)) rfl (eX (cY (rm rfl (ro rfl (cI (Ht rfl) (cJ 32) (by decide)) (ra rfl (eX (bF (cY (ro rfl (dV (Ht rfl) (cJ 1) z6) (rm rfl (eX (fU (i + 1,_,_) (hB.next hv hi zo rfl) (by dsimp only; omega) (zS rfl) (aU (aD (cT _ _ _)) (aU (fun _ _ _ h=>h) aY))))))))))))))
       ·simp at hi
        have hil:i = vs.length:=Nat.le_antisymm hB.ile hi
        subst hil
        have hlen:=hB.len; have hcl:=hB.cle; have hok:=aO hB.dig (j + vs.length)
        have hBk:=hB.fin zo rfl
        obtain ⟨_,hDn⟩:=hS.wrong hv hV0 (Nat.succ_pos j) rfl hg hT hBk
        simp only [BB] at hok
        refine gV rfl (cY (rm rfl (rm rfl (rm rfl (ro rfl (dV (Ht rfl) (Ht rfl) z6) (ro rfl (fY U_28 Z_24 (Ht rfl) (Ht rfl) rfl zo (by rw [Nat.mul_one,Nat.zero_add])) ?_))))))
        refine ro rfl (eY A_24 Z_24 (Ht rfl) (i:=0) rfl (dY (aH zo))) (rm rfl (ro rfl (gZ U_274 U_24 (Ht rfl) (by show _ < 4294967296; first | omega | (simp only [jE]; omega))) (ro rfl (Gu rfl (Ht rfl) (Ht rfl)) (ro rfl (fY U_28 Z_24 (Ht rfl) (Ht rfl) rfl zo (by rw [Nat.mul_one,Nat.zero_add])) ?_))))
        refine iX Z_24 (Ht rfl) (Ht rfl) (i:=0) rfl (by first | omega | (simp; omega)) rfl (eX (aS (_,g - 1) ⟨hDn,by dsimp only; omega,by simp; omega⟩ (zS rfl) (aU (aD (cT _ _ _)) (aU (fun _ _ _ h=>h) aY))))
      ·have hbb : b = false := hbb
       subst hbb
       have hol:=hT.len
       refine cU (aS (out,g) ⟨hS.right hv hV0 (Nat.succ_pos j) rfl hg hT,hglt,by dsimp only; omega⟩ (zS rfl) (cF.refl _))
     ·refine cY (rm rfl (rm rfl (rm rfl (ro rfl (gZ U_274 U_24 (Ht rfl) (by show _ < 4294967296; first | omega | (simp only [jE]; omega))) (ro rfl (fY U_28 Z_24 (Ht rfl) (Ht rfl) rfl zo (by rw [Nat.mul_one, Nat.zero_add])) ?_)))))
      refine iX Z_24 (Ht rfl) (Ht rfl) (i:=1) rfl (by first | omega | (simp; omega)) rfl (eX (bF (cY (rm rfl (ro rfl (eR (Ht rfl) cV (nO zo)) (ra rfl (eX (fU (j,us2,_) ⟨hD,hus2⟩ (by dsimp only; omega) (zS rfl) (aU (fun _ _ _ h=>h) (aU (aD (cT _ _ _)) aY))))))))))
   ·simp at hk
    have hk0:k = 0:=by omega
    subst hk0
    have hfin:=hS.fin hV0
    have hlq:=hS.lenq
    rw [hvv] at hfin
    have hdiv:val qs = m / n:=by rw [hfin.1]; exact Nat.mul_div_mul_right _ _ hp2
    have hsm:val us < BB ^ vs.length:=by have h1:=hS.small; rw [List.drop_zero] at h1; exact Nat.lt_trans h1 (gA hv)
    have hmod : val (us.take vs.length) / 2 ^ s = m % n := by
     rw [lH hsm zo,hfin.2,Nat.mul_mod_mul_right,Nat.mul_div_cancel _ hp2]
    have hru : (dg (val (us.take vs.length))).length ≤ 17592186044416 := by
     refine Nat.le_trans (gH (k:=vs.length) ?_) zo
     rw [lH hsm zo]; exact hsm
    refine gV rfl (gJ (i:=1) (tt:=12) rfl rfl (jD rfl zo (Nat.le_refl _)) (gJ (i:=0) (tt:=11) rfl rfl (jD rfl zo (Nat.le_refl _)) (cK (fZ (m:=7) (dp 12 rfl (cX (Ht rfl)) (dq 193 0 rfl (cZ K_203 (nG _ hS.digq zo) ⟨(Ht rfl),trivial⟩) (dp 11 rfl (cX (Ht rfl)) (dp 8 rfl (cX (Ht rfl)) (cP 195 2 196 3 rfl (aM.imp (pV U_28 Z_24 (Ht rfl) (Ht rfl) (fun m e=>by cases e) zo (by simp; omega) rfl) (Fw _ _)) ?_)))))))))
    refine dq 197 4 rfl (cZ K_203 (nG _ (hS.dig.take' vs.length) (by simp; omega)) ⟨(Ht rfl),trivial⟩) ?_
    refine dp 9 rfl (cX (Ht rfl)) (fV mixed rfl (by kernel_rfl) (zF (aJ (aJ (aJ (aV (ro rfl (cZ Tryz.call253 (Xo hru zo) ⟨(Ht rfl),(Ht rfl),trivial⟩) (ra rfl (ra rfl (eX (bI rfl (fX (eU rfl) ?_) (fX (eU rfl) ?_))))))))))))
    ·exact (bH hdiv)
    ·exact (bH hmod)
end
section
open Go Go.RowKit
theorem Lg:Tryz.prog.info? 5 = some Tryz.t5:=by kernel_rfl
theorem uR:Tryz.prog.underlying 341 = some (.slice 5):=by kernel_rfl
theorem Tj:Tryz.prog.underlying 5 = some (.int .u8):=by kernel_rfl
theorem Tk:Tryz.prog.underlying 9 = some (.string):=by kernel_rfl
end
section
open Go Go.RowKit
theorem Sv {m n:Nat} (hm:(dg m).length ≤ 17592186044415) (hn:(dg n).length ≤ 17592186044415):bB Tryz.prog 200 [aB m,aB n] (aB (Nat.gcd m n)):=by
 refine bB.intro Tryz.func200 rfl Tryz.ntmps200 rfl (fun cx=>(ts (ro rfl (cQ cV) (eX (cK (eG ?_))))))
 refine dP (fun (x : Nat) (y : Nat) => Nat.gcd x y = Nat.gcd m n ∧ (dg x).length ≤ 17592186044415 ∧ (dg y).length ≤ 17592186044415) (fun (x : Nat) (y : Nat) => y) (fun (x : Nat) (y : Nat) => [(0, aB x), (1, aB y)]) (fun (x : Nat) (y : Nat) => []) m n ⟨rfl, hm, hn⟩
  (zS rfl) aY (fun x y ⟨hg,hx,hy⟩=>?_)
 refine cK (ts (rm rfl (ro rfl (dG U_28 (Ht rfl) aA) (ro rfl (dM (Ht rfl) (cJ 0)) (eX (dQ (Ht rfl) (fun hb=>?_) (fun hb=>?_)))))))
 ·simp at hb
  have hy0:y ≠ 0:=fun e=>by rw [e,cD] at hb; simp at hb
  have hlt:=Nat.mod_lt x (Nat.pos_of_ne_zero hy0)
  refine cU (eG (ts (rm rfl (rm rfl (ro rfl (cZ Tryz.call202 (Fj hx zo hy0) ⟨(Ht rfl),(Ht rfl),trivial⟩) (rm rfl (ro rfl (dK (Ht rfl) rfl) (ro rfl (dK (Ht rfl) rfl) (ra rfl (ra rfl (eX (cY (rm rfl (rm rfl (ra rfl (ra rfl (eX (bF (fU (y,x % y) ⟨by rw [← hg,Nat.gcd_comm x y,Nat.gcd_rec y x,Nat.gcd_comm],hy,Nat.le_trans (eL (Nat.le_of_lt hlt)) hy⟩ hlt (zS rfl) aY)))))))))))))))))))
 ·simp at hb
  have hy0:y = 0:=aI.1 (by simpa using hb)
  subst hy0
  rw [Nat.gcd_zero_right] at hg
  refine gV rfl (ts (rm rfl (ra rfl (eX (fW rfl (fX (eU rfl) ?_))))))
  exact (bH hg)
theorem Xn {l:List Nat} {v:Value} (hl:l.length ≤ 1152921504606846976):jC Tryz.prog 283 [Is v] [bE 5 1 v (l.map tD)] Unit (fun _=>lN) (fun _=>[bE 5 1 v (l.reverse.map tD)]) (fun _=>True):=by
 refine jC.intro Tryz.func283 rfl Tryz.ntmps283 rfl (fun cx Z=>(ts (rm rfl (ro rfl (mO U_341 (Ht rfl) (i:=1) rfl aA) (ro rfl (eR (Ht rfl) cV (nO zo)) (ro rfl (cQ (cJ 0)) (ra rfl (eX (eG ?_)))))))))
 refine dP (fun (k : Nat) (o : List Nat) => uZ l o k) (fun (k : Nat) (o : List Nat) => l.length - k) (fun (k : Nat) (o : List Nat) => [(0, Is v), (2, NT .i64 k), (3, aF .i64 ((l.length : Int) - 1 - (k : Int)))]) (fun (k : Nat) (o : List Nat) => [Z, bE 5 1 v (o.map tD)]) 0 l (uZ.start l)
  (aQ rfl (aQ rfl (aZ rfl (aN zo) aX))) (cF.refl _) (fun k o hS=>?_)
 refine cK (ts (rm rfl (rm rfl (ro rfl (iK (Ht rfl) (Ht rfl)) (eX (dQ (Ht rfl) (fun hb=>?_) (fun hb=>?_)))))))
 ·simp only [decide_eq_true_eq] at hb
  have hk:2 * k + 1 < l.length:=by omega
  obtain ⟨j,hj⟩:∃ j,j = l.length - 1 - k:=⟨_,rfl⟩
  have hlen:=hS.len
  refine lQ (E':=[(0,_),(2,_),(3,_),(7,_),(8,_),(9,_)]) (aQ rfl (aQ rfl (aZ rfl (aN (show (l.length:Int) - 1 - (k:Int) = (j:Int) by omega)) (zS rfl)))) (cU (cK (eG (W.D_start (m:=14) (fun b=>cond b ([Z,bE 5 1 v ((o.map tD).set k (tD (o.getD j 0)))]) _) 13 (W.D_step (Ei:=[(0,_)]) rfl rfl (W.Srcs.cons (W.Src.pre rfl rfl) W.Srcs.nil) rfl (by kernel_rfl) (dX rfl (cX (Ht rfl))) (W.D_step (Ei:=[(2,_)]) rfl rfl (W.Srcs.cons (W.Src.pre rfl rfl) W.Srcs.nil) rfl (by kernel_rfl) (dX rfl (cX (Ht rfl))) ?_))))))
  refine W.D_pure (Ei:=[(0,_)]) rfl rfl (W.Srcs.cons (W.Src.pre rfl rfl) W.Srcs.nil) rfl (fun _=>dX rfl (cX (Ht rfl))) (W.D_pure (Ei:=[(3,_)]) rfl rfl (W.Srcs.cons (W.Src.pre rfl rfl) W.Srcs.nil) rfl (fun _=>dX rfl (cX (Ht rfl))) (W.D_step (Ei:=[(0,_)]) rfl rfl (W.Srcs.cons (W.Src.pre rfl rfl) W.Srcs.nil) rfl (by kernel_rfl) (dX rfl (cX (Ht rfl))) (W.D_step (Ei:=[(3,_)]) rfl rfl (W.Srcs.cons (W.Src.pre rfl rfl) W.Srcs.nil) rfl (by kernel_rfl) (dX rfl (cX (Ht rfl))) (W.D_step (Ei:=[(18,_),(19,_)]) rfl rfl (W.Srcs.cons (W.Src.op 4 rfl rfl) (W.Srcs.cons (W.Src.op 5 rfl rfl) W.Srcs.nil)) rfl (by kernel_rfl) (dX rfl (eI U_341 Z_5 (Ht rfl) (Ht rfl) rfl (i:=1) rfl (by first | omega | (simp; omega)) rfl)) ?_))))
  refine W.D_step (Ei:=[(20,_)]) rfl rfl (W.Srcs.cons (W.Src.op 6 rfl rfl) W.Srcs.nil) rfl (by kernel_rfl) (dX rfl (oQ A_5 Z_5 (Ht rfl) (i:=1) rfl rfl (dY (aH zo)))) (W.D_step (Ei:=[(0,_)]) rfl rfl (W.Srcs.cons (W.Src.pre rfl rfl) W.Srcs.nil) rfl (by kernel_rfl) (dX rfl (cX (Ht rfl))) (W.D_step (Ei:=[(2,_)]) rfl rfl (W.Srcs.cons (W.Src.pre rfl rfl) W.Srcs.nil) rfl (by kernel_rfl) (dX rfl (cX (Ht rfl))) (W.D_step (Ei:=[(22,_),(23,_)]) rfl rfl (W.Srcs.cons (W.Src.op 8 rfl rfl) (W.Srcs.cons (W.Src.op 9 rfl rfl) W.Srcs.nil)) rfl (by kernel_rfl) (dX rfl (eI U_341 Z_5 (Ht rfl) (Ht rfl) rfl (i:=1) rfl (by first | omega | (simp; omega)) rfl)) ?_)))
  refine W.D_step (Ei:=[(24,_)]) rfl rfl (W.Srcs.cons (W.Src.op 10 rfl rfl) W.Srcs.nil) rfl (by kernel_rfl) (dX rfl (oQ A_5 Z_5 (Ht rfl) (i:=1) rfl rfl (dY (aH zo)))) (W.D_step (Ei:=[(14,_),(15,_)]) rfl rfl (W.Srcs.cons (W.Src.op 0 rfl rfl) (W.Srcs.cons (W.Src.op 1 rfl rfl) W.Srcs.nil)) rfl (by kernel_rfl) (dX rfl (eI U_341 Z_5 (Ht rfl) (Ht rfl) rfl (i:=1) rfl (by first | omega | (simp; omega)) rfl)) (W.D_put (Ei:=[(26,_),(21,_)]) rfl rfl (W.Srcs.cons (W.Src.op 12 rfl rfl) (W.Srcs.cons (W.Src.op 7 rfl rfl) W.Srcs.nil)) rfl (Sg Z_5 (Ht rfl) (Ht rfl) El.one (i:=1) rfl rfl (by first | omega | (simp; omega))) ?_))
  refine W.D_done mixed rfl (by kernel_rfl) rfl (W.F_val (W.F_val (W.F_val (W.F_val (W.F_val (W.F_val (W.F_val (W.F_val (W.F_val (W.F_val (W.F_val (W.F_val (W.F_val (W.F_put (W.F_nil (ro rfl (eI U_341 Z_5 (Ht rfl) (Ht rfl) rfl (i:=1) rfl (by first | omega | (simp; omega)) rfl) (nV Z_5 (Ht rfl) (Ht rfl) El.one (i:=1) rfl rfl (by first | omega | (simp; omega)) rfl (eX (bF (cY (rm rfl (ro rfl (dV (Ht rfl) (cJ 1) z6) (rm rfl (ro rfl (eR (Ht rfl) cV (nO zo)) ?_))))))))))))))))))))))))
  refine ra rfl (ra rfl (eX (fU (k + 1,_) (hS.next hk hj) (by dsimp only; omega) (aQ rfl (aQ rfl (aZ rfl (aN zo) aX))) (aU (fun _ _ _ h=>h) (aU (bN (Hk _ _ _ _ _)) aY)))))
 ·simp only [decide_eq_false_iff_not] at hb
  have hfin:=hS.fin (by have:=hS.kle; omega)
  refine gV rfl ?_
  exact Ua () trivial [0,1] ⟨⟨_,rfl,fun _ _ _ h=>h⟩,⟨_,rfl,(bN (by rw [hfin]))⟩,trivial⟩ (by decide) (Zf rfl (fun _=>trivial))
theorem An {m:Nat} (hm:(dg m).length ≤ 8796093022208):bB Tryz.prog 243 [aB m] (mS (qD m)):=by
 refine bB.intro Tryz.func243 rfl Tryz.ntmps243 rfl (fun cx=>(ts (ro rfl (cQ (aT.cS (l:=[]) rfl)) (eX (cK (ts (rm rfl (ro rfl (dG U_28 (Ht rfl) aA) (ro rfl (cE (Ht rfl) (cJ 0)) (eX (dQ (Ht rfl) (fun hb=>?_) (fun hb=>?_))))))))))))
 ·simp at hb
  have h0:m = 0:=aI.1 (by simpa using hb)
  subst h0
  refine ts (ro rfl (cQ (aT.cS (l:=[48]) rfl)) (eX (fW rfl (fX (eU rfl) ?_))))
  exact (gR rfl)
 ·simp at hb
  have h0:m ≠ 0:=fun e=>hb (by rw [e,cD])
  refine cU (ts (ro rfl (cQ cV) (eX (cK (eG (Af 5 1 ?_))))))
  refine gS (fun (x : Nat) (out : List Nat) (v : Value) => uW m out x ∧ x ≤ m) (fun (x : Nat) (out : List Nat) (v : Value) => x) (fun (x : Nat) (out : List Nat) (v : Value) => [(0, aB x), (3, Is v)]) (fun (x : Nat) (out : List Nat) (v : Value) => [bE 5 1 v (out.map tD)]) m [] (.slice none 0 0) ⟨uW.start m, Nat.le_refl m⟩
   (zS rfl) (cF.refl _) (fun x out v ⟨hO,hle⟩=>?_)
  refine cK (ts (rm rfl (ro rfl (dG U_28 (Ht rfl) aA) (ro rfl (dM (Ht rfl) (cJ 0)) (eX (dQ (Ht rfl) (fun hc=>?_) (fun hc=>?_)))))))
  ·simp at hc
   have hx0:x ≠ 0:=fun e=>by rw [e,cD] at hc; simp at hc
   have hxm:=eL hle
   refine cU (eG (ts (ro rfl (cQ (cJ 0)) (eX (ts (rm rfl (ro rfl (cZ Tryz.call250 (Fp zo (by decide) (by decide)) ⟨(Ht rfl),(cJ 1000000000),trivial⟩) (rm rfl (ro rfl (dK (Ht rfl) rfl) (ro rfl (dK (Ht rfl) rfl) (ra rfl (ra rfl (eX (ts (ro rfl (cQ (cJ 0)) (eX (eG ?_)))))))))))))))))
   refine uA (fun (r : Nat) (k : Nat) (out : List Nat) (v : Value) => tQ m out (x / 1000000000) r k) (fun (r : Nat) (k : Nat) (out : List Nat) (v : Value) => 9 - k) (fun (r : Nat) (k : Nat) (out : List Nat) (v : Value) => [(0, aB (x / 1000000000)), (3, Is v), (4, bC r), (5, NT .i64 k)]) (fun (r : Nat) (k : Nat) (out : List Nat) (v : Value) => [bE 5 1 v (out.map tD)]) (x % 1000000000) 0 out v (hO.inner)
    (zS rfl) (cF.refl _) (fun r k out v hI=>?_)
   refine cK (ts (rm rfl (ro rfl (gX (Ht rfl) (cJ 9)) (rm rfl (fQ rfl rfl (lB rfl rfl (Ht rfl) (fun h=>cX (Ht rfl))) (fQ rfl rfl (lB rfl rfl (Ht rfl) (fun h=>dG U_28 (aT.wu rfl h) aA)) (fQ rfl rfl (lB rfl rfl (Ht rfl) (fun h=>dM (aT.wu rfl h) (cJ 0))) (fQ rfl rfl (lB rfl rfl (Ht rfl) (fun h=>cX (aT.wu rfl h))) (fQ rfl rfl (qY rfl rfl rfl (fun h h2=>cX (Ht rfl))) (fQ rfl rfl (qY rfl rfl rfl (fun h h2=>dM (aT.wu rfl ⟨h,h2⟩) (cJ 0))) (fQ rfl rfl (lB rfl rfl (Ht rfl) (fun h=>eE (aT.wu rfl h) (fun h2=>(aT.wu rfl ⟨h,h2⟩)))) ?_)))))))))))
   refine ro rfl (eA (Ht rfl) (fun h=>(aT.wu rfl h))) (eX (dQ (Ht rfl) (fun hd=>?_) (fun hd=>?_)))
   ·simp at hd
    have hxr:0 < x / 1000000000 ∨ 0 < r:=hd.2.imp (fun h=>Nat.pos_of_ne_zero (fun e=>by rw [e,cD] at h; simp at h)) id
    have hln:=hI.len hxr
    have hr32:=hI.r32
    refine cU (cK (eG (ts (rm rfl (rm rfl (ro rfl (kO (Ht rfl) (cJ 10) zo) (ro rfl (dV (cJ 48) (Ht rfl) (by show _ < 4294967296; first | omega | (simp only [jE]; omega))) (ro rfl (gZ U_24 U_5 (Ht rfl) (by show _ < 256; first | omega | (simp only [jE]; omega))) (ro rfl (cH (xs:=[.tmp 34]) U_341 Z_5 Tryz.zeroValue5 (cW (Ht rfl) cG) rfl rfl rfl) (qX (inf:=Tryz.t5) uR Lg rfl rfl rfl (Ht rfl) (Ht rfl) (i:=0) rfl (by simp) (fun T hT=>by simp at hT; subst hT; exact El.one) (by show _ * 1 ≤ _; simp only [List.length_map,List.length_cons,List.length_nil]; omega) (by simp only [List.length_map,List.length_cons,List.length_nil]; omega) rfl (fun v2=>?_)))))))))))
    refine ra rfl (eX (cY (rm rfl (ro rfl (gN (Ht rfl) (cJ 10) zo (by show _ < 4294967296; first | omega | (simp only [jE]; omega))) (ra rfl (eX (bF (cY (rm rfl (ro rfl (dV (Ht rfl) (cJ 1) z6) (ra rfl (eX (fU (r / 10,k + 1,_,v2) (hI.next hd.1 hxr) (by dsimp only; omega) (zS rfl) (aU (bN (Ns _ _)) aY))))))))))))))
   ·simp at hd
    have hO2 := hI.fin (fun ⟨h1, h2⟩ => by
     have h3:=hd h1
     rcases h2 with h2 | h2
     ·have:=mU.1 h3.1; omega
     ·omega)
    refine gV rfl (bF (fU (x / 1000000000,_,_) ⟨hO2,Nat.le_trans (Nat.div_le_self _ _) hle⟩ (Nat.div_lt_self (Nat.pos_of_ne_zero hx0) (by decide)) (zS rfl) (cF.refl _)))
  ·simp at hc
   have hx0:x = 0:=aI.1 (by simpa using hc)
   subst hx0
   have hfin:=hO.fin
   have hdl:=mI m
   rw [hfin] at hdl
   refine gV rfl (ts (rm rfl (Ew Tryz.call283 (Xn zo) (i:=0) rfl ⟨(Ht rfl),trivial⟩ rfl (fun _ _=>(eX (cK (gJ (i:=0) (tt:=3) rfl rfl lE (cY (rm rfl (ro rfl (Bz uR Tj Tk (Ht rfl) (by rw [← hfin]; simpa using Fu h0) (fun b hb=>Kq (n:=m) b (by rw [pJ h0,hfin]; exact hb))) ?_))))))))))
   refine ra rfl (eX (fW rfl (fX (eU rfl) ?_)))
   exact (gR (by rw [pJ h0,hfin]))
end
section
open Go Go.RowKit
theorem qM {n : Nat} {E : bM} {H : Hp} {d : Option Tmp} {t : TypeId} {pos : String} {af : Array Edge} {g : Option (Nat × Bool)} {x0 x1 : Operand} {T0 T1 : Ty} [s0 : cA T0 1 false] (h0 : aT E x0 T0) [s1 : cA T1 1 false] (h1 : aT E x1 T1) :
  aM Tryz.prog n E H ⟨d,.build 30 #[(0,x0),(1,x1)],t,pos,af,g⟩ (dE [T0,T1]) :=
 eM (parts := [(0, x0), (1, x1)]) fun a V w hs => by
  have p0:=h0 n V a hs
  generalize e0:a.eval x0 = v0 at p0
  have q0:=(s0.ok v0 V p0).2.2 rfl
  have p1:=h1 n V a hs
  generalize e1:a.eval x1 = v1 at p1
  have q1:=(s1.ok v1 V p1).2.2 rfl
  refine ⟨.agg #[v0,v1],?_,[v0,v1],rfl,aW (⟨p0,q0⟩) (aW (⟨p1,q1⟩) (aG))⟩
  simp [e0,e1,Instr.build,Instr.fill,Sem.run_bind,Result.andThen,dI,q0.cells,q1.cells,O_30,U_30,Z_4,Z_28]
theorem iY (a:Addr) (w:World):(Instr.fieldAt 30 (.pointer (some a)) 0).run Tryz.prog w = .ok (.pointer (some (a.add 0))) w:=by
 simp [Instr.fieldAt,Instr.sureAddr,fieldPlace,Sem.run_bind,Result.andThen,U_30,Z_4]
theorem dA (a:Addr) (w:World):(Instr.fieldAt 30 (.pointer (some a)) 1).run Tryz.prog w = .ok (.pointer (some (a.add 1))) w:=by
 simp [Instr.fieldAt,Instr.sureAddr,fieldPlace,Sem.run_bind,Result.andThen,U_30,Z_28]
end
section
open Go Go.RowKit
theorem yR {n:Int} (h1:-9223372036854775808 ≤ n) (h2:n ≤ 9223372036854775807):bB Tryz.prog 115 [aF .i64 n] (cB n):=by
 refine bB.intro Tryz.func115 rfl Tryz.ntmps115 rfl (fun cx=>(ts (rn rfl (eW (Ts:=[Is (.bool false),Is (.slice none 0 0)]) O_30 rfl (fun V=>aW zd (aW zd (aG)))) fun B2=>(eX (cK (ts (rm rfl (ro rfl (iK (Ht rfl) cV) (eX (dQ (Ht rfl) (fun hb=>?_) (fun hb=>?_)))))))))))
 ·have hn : n < 0 := by simpa using hb
  refine ts (rm rfl (ro rfl (pU U_2 U_274 (Ht rfl) (r:=((18446744073709551616 - n.natAbs:Nat):Int)) (by rw [IntKind.wrap_u64]; omega)) ?_))
  refine ro rfl (qQ (Ht rfl) (r:=((n.natAbs:Nat):Int)) (by rw [IntKind.wrap_u64]; omega)) ?_
  refine ro rfl (cZ Tryz.call207 (yQ zo) ⟨(Ht rfl),trivial⟩) (ro rfl (qM cV (Ht rfl)) (gQ Z_30 (Ht rfl) (Ht rfl) rfl (i:=0) rfl (aK rfl) rfl rfl (eX (fW rfl (fX (fK A_30 Z_30 rfl (i:=0) rfl rfl) ?_)))))
  exact (kC (by rw [hb]; rfl))
 ·have hn : ¬ n < 0 := by simpa using hb
  refine cU (ts (rm rfl (ro rfl (pU U_2 U_274 (Ht rfl) (r:=((n.natAbs:Nat):Int)) (by rw [IntKind.wrap_u64]; omega)) ?_)))
  refine ro rfl (cZ Tryz.call207 (yQ zo) ⟨(Ht rfl),trivial⟩) (ro rfl (qM cV (Ht rfl)) (gQ Z_30 (Ht rfl) (Ht rfl) rfl (i:=0) rfl (aK rfl) rfl rfl (eX (fW rfl (fX (fK A_30 Z_30 rfl (i:=0) rfl rfl) ?_)))))
  exact (kC (by rw [hb]; rfl))
theorem lJ {b:Bool} {m:Nat}:bB Tryz.prog 197 [aC b,aB m] (cB (tM b m)):=by
 refine bB.intro Tryz.func197 rfl Tryz.ntmps197 rfl (fun cx=>(ts (rn rfl (eW (Ts:=[Is (.bool false),Is (.slice none 0 0)]) O_30 rfl (fun V=>aW zd (aW zd (aG)))) fun B4=>(eX (ts (rm rfl (rm rfl (fQ rfl rfl (eK rfl rfl (Ht rfl) (fun h=>cX (Ht rfl))) (fQ rfl rfl (eK rfl rfl (Ht rfl) (fun h=>dG U_28 (fJ rfl h) aA)) (fQ rfl rfl (eK rfl rfl (Ht rfl) (fun h=>dM (fJ rfl h) (cJ 0))) (ro rfl (eA (Ht rfl) (fun h=>(fJ rfl h))) (rm rfl ?_))))))))))))
 refine ro rfl (qM (Ht rfl) (Ht rfl)) (gQ Z_30 (Ht rfl) (Ht rfl) rfl (i:=0) rfl (aK rfl) rfl rfl (eX (fW rfl (fX (fK A_30 Z_30 rfl (i:=0) rfl rfl) ?_))))
 exact Ng
theorem mG {x:Int}:bB Tryz.prog 107 [cB x] (cB (-x)):=by
 refine bB.intro Tryz.func107 rfl Tryz.ntmps107 rfl (fun cx=>(ts (rn rfl (fG (Ht rfl)) fun B1=>(rn rfl (eW (Ts:=[Is (.bool false),Is (.slice none 0 0)]) O_30 rfl (fun V=>aW zd (aW zd (aG)))) fun B2=>(eX (ts (ro rfl (eZ iY (Ht rfl) rfl) (ro rfl (eY A_4 Z_4 (Ht rfl) (i:=0) rfl rfl) (ro rfl (eN (Ht rfl)) (ro rfl (eZ dA (Ht rfl) rfl) (ro rfl (eY A_28 Z_28 (Ht rfl) (i:=0) rfl rfl) (ro rfl (cZ K_197 lJ ⟨(Ht rfl),(Ht rfl),trivial⟩) ?_))))))))))))
 refine gQ Z_30 (Ht rfl) (Ht rfl) rfl (i:=1) rfl (aK rfl) rfl rfl (eX (fW rfl (fX (fK A_30 Z_30 rfl (i:=1) rfl rfl) ?_)))
 exact (iV (yD x))
theorem sD {x y:Int} (hx:(dg x.natAbs).length ≤ 17592186044416) (hy:(dg y.natAbs).length ≤ 17592186044416):bB Tryz.prog 106 [cB x,cB y] (cB (x + y)):=by
 refine bB.intro Tryz.func106 rfl Tryz.ntmps106 rfl (fun cx=>(ts (rn rfl (fG (Ht rfl)) fun B2=>(rn rfl (fG (Ht rfl)) fun B3=>(rn rfl (eW (Ts:=[Is (.bool false),Is (.slice none 0 0)]) O_30 rfl (fun V=>aW zd (aW zd (aG)))) fun B4=>(eX (cK (ts (ro rfl (eZ iY (Ht rfl) rfl) (ro rfl (eY A_4 Z_4 (Ht rfl) (i:=0) rfl rfl) (ro rfl (eZ iY (Ht rfl) rfl) (ro rfl (eY A_4 Z_4 (Ht rfl) (i:=1) rfl rfl) (ro rfl (Ma U_4 (Ht rfl) (Ht rfl)) ?_)))))))))))))
 refine eX (dQ (Ht rfl) (fun hb=>?_) (fun hb=>?_))
 ·have he : decide (x < 0) = decide (y < 0) := by simpa using hb
  refine cK (fZ (m:=7) (dp 2 rfl (eZ iY (Ht rfl) rfl) (dq 10 0 rfl (eY A_4 Z_4 (Ht rfl) (i:=0) rfl rfl) (dp 2 rfl (eZ dA (Ht rfl) rfl) (dq 12 2 rfl (eY A_28 Z_28 (Ht rfl) (i:=0) rfl rfl) (dp 3 rfl (eZ dA (Ht rfl) rfl) (dq 14 4 rfl (eY A_28 Z_28 (Ht rfl) (i:=1) rfl rfl) (cP 13 3 15 5 rfl (cZ Tryz.call198 (Xl zo zo) ⟨(Ht rfl),(Ht rfl),trivial⟩) (fV mixed rfl (by kernel_rfl) (zF (aJ (aJ (aJ (aV ?_))))))))))))))
  refine ro rfl (cZ K_197 lJ ⟨(Ht rfl),(Ht rfl),trivial⟩) (gQ Z_30 (Ht rfl) (Ht rfl) rfl (i:=2) rfl (aK rfl) rfl rfl (eX (fW rfl (fX (fK A_30 Z_30 rfl (i:=2) rfl rfl) ?_))))
  exact (iV (Cn he))
 ·have he : decide (x < 0) ≠ decide (y < 0) := by simpa using hb
  refine cU (cK (ts (ro rfl (eZ dA (Ht rfl) rfl) (ro rfl (eY A_28 Z_28 (Ht rfl) (i:=0) rfl rfl) (ro rfl (eZ dA (Ht rfl) rfl) (ro rfl (eY A_28 Z_28 (Ht rfl) (i:=1) rfl rfl) (ro rfl (cZ Tryz.call129 (Su zo zo) ⟨(Ht rfl),(Ht rfl),trivial⟩) (ro rfl (jX (Ht rfl) cV) (eX (dQ (Ht rfl) (fun hc=>?_) (fun hc=>?_)))))))))))
  ·have hle : y.natAbs ≤ x.natAbs := yX (by simpa using hc)
   refine cK (fZ (m:=7) (dp 2 rfl (eZ iY (Ht rfl) rfl) (dq 24 0 rfl (eY A_4 Z_4 (Ht rfl) (i:=0) rfl rfl) (dp 2 rfl (eZ dA (Ht rfl) rfl) (dq 26 2 rfl (eY A_28 Z_28 (Ht rfl) (i:=0) rfl rfl) (dp 3 rfl (eZ dA (Ht rfl) rfl) (dq 28 4 rfl (eY A_28 Z_28 (Ht rfl) (i:=1) rfl rfl) (cP 27 3 29 5 rfl (cZ Tryz.call199 (Sz zo zo) ⟨(Ht rfl),(Ht rfl),trivial⟩) (fV mixed rfl (by kernel_rfl) (zF (aJ (aJ (aJ (aV ?_))))))))))))))
   refine ro rfl (cZ K_197 lJ ⟨(Ht rfl),(Ht rfl),trivial⟩) (gQ Z_30 (Ht rfl) (Ht rfl) rfl (i:=2) rfl (aK rfl) rfl rfl (eX (fW rfl (fX (fK A_30 Z_30 rfl (i:=2) rfl rfl) ?_))))
   exact (iV (rX he hle))
  ·have hle : x.natAbs ≤ y.natAbs := Nat.le_of_lt (yY (by simpa using hc))
   refine cU (cK (fZ (m:=7) (dp 3 rfl (eZ iY (Ht rfl) rfl) (dq 32 0 rfl (eY A_4 Z_4 (Ht rfl) (i:=1) rfl rfl) (dp 3 rfl (eZ dA (Ht rfl) rfl) (dq 34 2 rfl (eY A_28 Z_28 (Ht rfl) (i:=1) rfl rfl) (dp 2 rfl (eZ dA (Ht rfl) rfl) (dq 36 4 rfl (eY A_28 Z_28 (Ht rfl) (i:=0) rfl rfl) (cP 35 3 37 5 rfl (cZ Tryz.call199 (Sz zo zo) ⟨(Ht rfl),(Ht rfl),trivial⟩) (fV mixed rfl (by kernel_rfl) (zF (aJ (aJ (aJ (aV ?_)))))))))))))))
   refine ro rfl (cZ K_197 lJ ⟨(Ht rfl),(Ht rfl),trivial⟩) (gQ Z_30 (Ht rfl) (Ht rfl) rfl (i:=2) rfl (aK rfl) rfl rfl (eX (fW rfl (fX (fK A_30 Z_30 rfl (i:=2) rfl rfl) ?_))))
   exact (iV (by rw [rX (Ne.symm he) hle,Int.add_comm]))
theorem pG {x y:Int} (hx:(dg x.natAbs).length ≤ 17592186044416) (hy:(dg y.natAbs).length ≤ 17592186044416):bB Tryz.prog 105 [cB x,cB y] (cB (x * y)):=by
 refine bB.intro Tryz.func105 rfl Tryz.ntmps105 rfl (fun cx=>(ts (rn rfl (fG (Ht rfl)) fun B2=>(rn rfl (fG (Ht rfl)) fun B3=>(rn rfl (eW (Ts:=[Is (.bool false),Is (.slice none 0 0)]) O_30 rfl (fun V=>aW zd (aW zd (aG)))) fun B4=>(eX (cK (fZ (m:=10) (dp 2 rfl (eZ iY (Ht rfl) rfl) (dq 5 0 rfl (eY A_4 Z_4 (Ht rfl) (i:=0) rfl rfl) (dp 3 rfl (eZ iY (Ht rfl) rfl) (dq 7 2 rfl (eY A_4 Z_4 (Ht rfl) (i:=1) rfl rfl) (cP 6 1 8 3 rfl (Mb U_4 (Ht rfl) (Ht rfl)) ?_)))))))))))))
 refine dp 2 rfl (eZ dA (Ht rfl) rfl) (dq 10 5 rfl (eY A_28 Z_28 (Ht rfl) (i:=0) rfl rfl) (dp 3 rfl (eZ dA (Ht rfl) rfl) (dq 12 7 rfl (eY A_28 Z_28 (Ht rfl) (i:=1) rfl rfl) (cP 11 6 13 8 rfl (cZ Tryz.call110 (Ao zo zo) ⟨(Ht rfl),(Ht rfl),trivial⟩) (fV mixed rfl (by kernel_rfl) (zF (zF (aJ (aJ (aV (ro rfl (cZ K_197 lJ ⟨(Ht rfl),(Ht rfl),trivial⟩) (gQ Z_30 (Ht rfl) (Ht rfl) rfl (i:=2) rfl (aK rfl) rfl rfl ?_))))))))))))
 refine eX (fW rfl (fX (fK A_30 Z_30 rfl (i:=2) rfl rfl) ?_))
 exact (iV (yE x y))
theorem jI {x:Int} {n:Nat} (hx:(dg x.natAbs).length ≤ 17592186044416) (hn:(dg n).length ≤ 17592186044416):bB Tryz.prog 111 [cB x,aB n] (cB (x * n)):=by
 refine bB.intro Tryz.func111 rfl Tryz.ntmps111 rfl (fun cx=>(ts (rn rfl (fG (Ht rfl)) fun B2=>(rn rfl (eW (Ts:=[Is (.bool false),Is (.slice none 0 0)]) O_30 rfl (fun V=>aW zd (aW zd (aG)))) fun B4=>(eX (cK (fZ (m:=6) (dp 2 rfl (eZ iY (Ht rfl) rfl) (dq 5 0 rfl (eY A_4 Z_4 (Ht rfl) (i:=0) rfl rfl) (dp 2 rfl (eZ dA (Ht rfl) rfl) (dq 7 2 rfl (eY A_28 Z_28 (Ht rfl) (i:=0) rfl rfl) (dp 1 rfl (cX (Ht rfl)) (cP 8 3 9 4 rfl (cZ Tryz.call110 (Ao zo zo) ⟨(Ht rfl),(Ht rfl),trivial⟩) ?_)))))))))))))
 refine fV mixed rfl (by kernel_rfl) (zF (aJ (aJ (aV (ro rfl (cZ K_197 lJ ⟨(Ht rfl),(Ht rfl),trivial⟩) (gQ Z_30 (Ht rfl) (Ht rfl) rfl (i:=1) rfl (aK rfl) rfl rfl (eX (fW rfl (fX (fK A_30 Z_30 rfl (i:=1) rfl rfl) ?_)))))))))
 exact (iV (Em x n))
theorem Ki {x y:Int} (hx:(dg x.natAbs).length ≤ 17592186044415) (hy:(dg y.natAbs).length ≤ 17592186044415):bB Tryz.prog 112 [cB x,cB y] (aF .i64 (dH x y)):=by
 have hny:=nI y
 have hs:=iH (x:=x) (y:=-y) hx zo
 refine bB.intro Tryz.func112 rfl Tryz.ntmps112 rfl (fun cx=>(ts (rn rfl (fG (Ht rfl)) fun B2=>(rn rfl (fG (Ht rfl)) fun B3=>(ro rfl (cQ (cJ 0)) (eX (cK (fZ (m:=5) (dp 2 rfl (eJ A_30 Z_30 (Ht rfl) (i:=0) rfl rfl rfl) (dp 3 rfl (eJ A_30 Z_30 (Ht rfl) (i:=1) rfl rfl rfl) (dq 7 1 rfl (cZ K_107 mG ⟨(Ht rfl),trivial⟩) (cP 6 0 8 2 rfl (cZ K_106 (sD zo zo) ⟨(Ht rfl),(Ht rfl),trivial⟩) (C.D_new (Ei:=[]) rfl rfl rfl bW (eW (Ts:=[Is (.bool false),Is (.slice none 0 0)]) O_30 rfl (fun V=>aW zd (aW zd (aG)))) ?_)))))))))))))
 refine fV mixed rfl (by kernel_rfl) (zF (C.F_new (fun B5=>aV (gQ Z_30 (Ht rfl) (Ht rfl) rfl (i:=2) rfl (aK rfl) rfl rfl (eX (cK (ts (ro rfl (eZ iY (Ht rfl) rfl) (ro rfl (eY A_4 Z_4 (Ht rfl) (i:=2) rfl rfl) (eX (dQ (Ht rfl) (fun hb=>?_) (fun hb=>?_))))))))))))
 ·have hn : x + -y < 0 := by simpa using hb
  refine ts (ro rfl (cQ cV) (eX (fW rfl (fX (eU rfl) ?_))))
  exact (aN (Pl hn))
 ·have hn : ¬ x + -y < 0 := by simpa using hb
  refine cU (ts (ro rfl (eZ dA (Ht rfl) rfl) (ro rfl (eY A_28 Z_28 (Ht rfl) (i:=2) rfl rfl) (ro rfl (dG U_28 (Ht rfl) aA) (ro rfl (Qs (Ht rfl) (cJ 1)) (ra rfl (eX (fW rfl (fX (eU rfl) ?_)))))))))
  exact (aN (Pk hn))
end
section
open Go Go.RowKit
theorem Ju {n : Nat} {E : bM} {H : Hp} {d : Option Tmp} {t : TypeId} {pos : String} {af : Array Edge} {g : Option (Nat × Bool)} {x0 : Operand} {T0 T1 : Ty} (h0 : aT E x0 (dE [T0, T1])) :
  aM Tryz.prog n E H ⟨d,.build 32 #[(0,x0)],t,pos,af,g⟩ (dE [T0,T1,Is (.bool false),Is (.slice none 0 0),Is (.slice none 0 0)]) :=
 eM (parts := [(0, x0)]) fun a V w hs => by
  obtain ⟨v0,e0,c0⟩:=h0 n V a hs
  obtain ⟨c0_0,c0_1,rfl⟩:∃ c0_0 c0_1,v0 = [c0_0,c0_1]:=xV (by simpa using c0.length)
  refine ⟨.agg #[c0_0,c0_1,(.bool false),(.slice none 0 0),(.slice none 0 0)],?_,[c0_0,c0_1,(.bool false),(.slice none 0 0),(.slice none 0 0)],rfl,aW (c0.at (i:=0) rfl rfl) (aW (c0.at (i:=1) rfl rfl) (aW (⟨rfl,trivial⟩) (aW (⟨rfl,trivial⟩) (aW (⟨rfl,trivial⟩) (aG)))))⟩
  simp [e0,Instr.build,Instr.fill,Sem.run_bind,Result.andThen,dI,O_32,U_32,Z_28,Z_30]
theorem nE {n : Nat} {E : bM} {H : Hp} {d : Option Tmp} {t : TypeId} {pos : String} {af : Array Edge} {g : Option (Nat × Bool)} {x0 x1 x2 : Operand} {T0 T1 T2 T3 T4 : Ty} (h0 : aT E x0 (dE [T0, T1])) (h1 : aT E x1 (dE [T2, T3])) [s2 : cA T4 1 false] (h2 : aT E x2 T4) :
  aM Tryz.prog n E H ⟨d,.build 32 #[(0,x0),(1,x1),(2,x2)],t,pos,af,g⟩ (dE [T0,T1,T2,T3,T4]) :=
 eM (parts := [(0, x0), (1, x1), (2, x2)]) fun a V w hs => by
  obtain ⟨v0,e0,c0⟩:=h0 n V a hs
  obtain ⟨c0_0,c0_1,rfl⟩:∃ c0_0 c0_1,v0 = [c0_0,c0_1]:=xV (by simpa using c0.length)
  obtain ⟨v1,e1,c1⟩:=h1 n V a hs
  obtain ⟨c1_0,c1_1,rfl⟩:∃ c1_0 c1_1,v1 = [c1_0,c1_1]:=xV (by simpa using c1.length)
  have p2:=h2 n V a hs
  generalize e2:a.eval x2 = v2 at p2
  have q2:=(s2.ok v2 V p2).2.2 rfl
  refine ⟨.agg #[c0_0,c0_1,c1_0,c1_1,v2],?_,[c0_0,c0_1,c1_0,c1_1,v2],rfl,aW (c0.at (i:=0) rfl rfl) (aW (c0.at (i:=1) rfl rfl) (aW (c1.at (i:=0) rfl rfl) (aW (c1.at (i:=1) rfl rfl) (aW (⟨p2,q2⟩) (aG)))))⟩
  simp [e0,e1,e2,Instr.build,Instr.fill,Sem.run_bind,Result.andThen,dI,q2.cells,O_32,U_32,Z_28,Z_30]
theorem eO (a:Addr) (w:World):(Instr.fieldAt 32 (.pointer (some a)) 0).run Tryz.prog w = .ok (.pointer (some (a.add 0))) w:=by
 simp [Instr.fieldAt,Instr.sureAddr,fieldPlace,Sem.run_bind,Result.andThen,U_32,Z_30]
theorem fR (a:Addr) (w:World):(Instr.fieldAt 32 (.pointer (some a)) 1).run Tryz.prog w = .ok (.pointer (some (a.add 2))) w:=by
 simp [Instr.fieldAt,Instr.sureAddr,fieldPlace,Sem.run_bind,Result.andThen,U_32,Z_30]
theorem pM (a:Addr) (w:World):(Instr.fieldAt 32 (.pointer (some a)) 2).run Tryz.prog w = .ok (.pointer (some (a.add 4))) w:=by
 simp [Instr.fieldAt,Instr.sureAddr,fieldPlace,Sem.run_bind,Result.andThen,U_32,Z_28]
end
section
open Go Go.RowKit
theorem sC {A B:Int} {D:Nat} (hD:0 < D) (hA:(dg A.natAbs).length ≤ 17592186044415) (hB:(dg B.natAbs).length ≤ 17592186044415) (hD2:(dg D).length ≤ 17592186044415):bB Tryz.prog 108 [cB A,cB B,aB D] (bA (Qi.mk' A B D)):=by
 have hg1:=vO hA hB
 have hg2:=vO hg1 hD2
 have hgp:Nat.gcd (Nat.gcd A.natAbs B.natAbs) D ≠ 0:=fun e=>by have:=Nat.gcd_eq_zero_iff.1 e; omega
 refine bB.intro Tryz.func108 rfl Tryz.ntmps108 rfl (fun cx=>(ts (rn rfl (fG (Ht rfl)) fun B3=>(rn rfl (fG (Ht rfl)) fun B4=>(rn rfl (eW (Ts:=[Is (.bool false),Is (.slice none 0 0),Is (.bool false),Is (.slice none 0 0),Is (.slice none 0 0)]) O_32 rfl (fun V=>aW zd (aW zd (aW zd (aW zd (aW zd (aG))))))) fun B6=>(eX (ts (ro rfl (eZ dA (Ht rfl) rfl) (ro rfl (eY A_28 Z_28 (Ht rfl) (i:=0) rfl rfl) ?_)))))))))
 refine ro rfl (eZ dA (Ht rfl) rfl) (ro rfl (eY A_28 Z_28 (Ht rfl) (i:=1) rfl rfl) (ro rfl (cZ Tryz.call200 (Sv zo zo) ⟨(Ht rfl),(Ht rfl),trivial⟩) (rm rfl (ro rfl (cZ Tryz.call200 (Sv zo zo) ⟨(Ht rfl),(Ht rfl),trivial⟩) (ra rfl (eX (cK (iR (fun (uu:Unit)=>True) (fun (uu:Unit)=>[(2,aB (D / (Nat.gcd (Nat.gcd A.natAbs B.natAbs) D))),(3,bT B3 0),(4,bT B4 0),(6,bT B6 0)]) (fun (uu:Unit)=>[box B3 30 [aC (decide (A < 0)),aB (A.natAbs / (Nat.gcd (Nat.gcd A.natAbs B.natAbs) D))],box B4 30 [aC (decide (B < 0)),aB (B.natAbs / (Nat.gcd (Nat.gcd A.natAbs B.natAbs) D))],box B6 32 [Is (.bool false),Is (.slice none 0 0),Is (.bool false),Is (.slice none 0 0),Is (.slice none 0 0)]]) ?_ (fun uu _=>?_)))))))))
 ·refine ts (rm rfl (ro rfl (cZ Tryz.call201 Sw ⟨(Ht rfl), trivial⟩) (ro rfl (eN (Ht rfl)) (eX (dQ (Ht rfl) (fun hb => ?_) (fun hb => ?_))))))
  ·simp at hb
   refine ts (ro rfl (eZ dA (Ht rfl) rfl) (ro rfl (eY A_28 Z_28 (Ht rfl) (i:=0) rfl rfl) (rm rfl (ro rfl (cZ Tryz.call202 (Fj zo zo zo) ⟨(Ht rfl),(Ht rfl),trivial⟩) (rm rfl (ro rfl (dK (Ht rfl) rfl) (ro rfl (dK (Ht rfl) rfl) (ro rfl (eZ dA (Ht rfl) rfl) (iX Z_28 (Ht rfl) (Ht rfl) (i:=0) rfl (aK rfl) rfl (eX (ts (ro rfl (eZ dA (Ht rfl) rfl) (ro rfl (eY A_28 Z_28 (Ht rfl) (i:=1) rfl rfl) (rm rfl (ro rfl (cZ Tryz.call202 (Fj zo zo zo) ⟨(Ht rfl),(Ht rfl),trivial⟩) ?_)))))))))))))))
   refine rm rfl (ro rfl (dK (Ht rfl) rfl) (ro rfl (dK (Ht rfl) rfl) (ro rfl (eZ dA (Ht rfl) rfl) (iX Z_28 (Ht rfl) (Ht rfl) (i:=1) rfl (aK rfl) rfl (eX (cY (rm rfl (rm rfl (ro rfl (cZ Tryz.call202 (Fj zo zo zo) ⟨(Ht rfl),(Ht rfl),trivial⟩) (rm rfl (ro rfl (dK (Ht rfl) rfl) (ro rfl (dK (Ht rfl) rfl) (ra rfl (eX (aS () trivial (zS rfl) (aU (aD (by first | rfl | simp)) (aU (aD (by first | rfl | simp)) (aU (aD rfl) aY))))))))))))))))))
  ·simp at hb
   refine cU (aS () trivial (aZ rfl (bH (by rw [hb,Nat.div_one])) (zS rfl)) (aU (aD (by rw [hb,Nat.div_one])) (aU (aD (by rw [hb,Nat.div_one])) (aU (aD rfl) aY))))
 ·refine cK (iR (fun (uu : Unit) => True) (fun (uu : Unit) => [(2, aB (if D / (Nat.gcd (Nat.gcd A.natAbs B.natAbs) D) = 1 then 0 else D / (Nat.gcd (Nat.gcd A.natAbs B.natAbs) D))), (3, bT B3 0), (4, bT B4 0), (6, bT B6 0)]) (fun (uu : Unit) => [box B3 30 [aC (decide (A < 0)), aB (A.natAbs / (Nat.gcd (Nat.gcd A.natAbs B.natAbs) D))], box B4 30 [aC (decide (B < 0)), aB (B.natAbs / (Nat.gcd (Nat.gcd A.natAbs B.natAbs) D))], box B6 32 [Is (.bool false), Is (.slice none 0 0), Is (.bool false), Is (.slice none 0 0), Is (.slice none 0 0)]]) ?_ (fun uu _ => ?_))
  ·refine ts (rm rfl (ro rfl (cZ Tryz.call201 Sw ⟨(Ht rfl), trivial⟩) (eX (dQ (Ht rfl) (fun hb => ?_) (fun hb => ?_)))))
   ·simp only [decide_eq_true_eq] at hb
    refine cY (ro rfl (cQ cV) (eX (aS () trivial (aZ rfl (fun v V h=>bH (by rw [if_pos hb]) v V (iE v V h)) (zS rfl)) (cF.refl _))))
   ·simp only [decide_eq_false_iff_not] at hb
    refine cU (aS () trivial (aZ rfl (bH (by rw [if_neg hb])) (zS rfl)) (cF.refl _))
  ·refine ts (ro rfl (eJ A_30 Z_30 (Ht rfl) (i := 0) rfl rfl rfl) (ro rfl (eJ A_30 Z_30 (Ht rfl) (i := 1) rfl rfl rfl) (rm rfl (ro rfl (nE (Ht rfl) (Ht rfl) (Ht rfl)) (gQ Z_32 (Ht rfl) (Ht rfl) rfl (i := 2) rfl (aK rfl) rfl rfl (eX (fW rfl (fX (fK A_32 Z_32 rfl (i := 2) rfl rfl) ?_))))))))
   exact (Qx hD)
theorem mF {x:Qi}:bB Tryz.prog 109 [bA x] (aB x.den):=by
 refine bB.intro Tryz.func109 rfl Tryz.ntmps109 rfl (fun cx=>(ts (rn rfl (fG (Ht rfl)) fun B1=>(ro rfl (cQ cV) (eX (cK (ts (ro rfl (eZ pM (Ht rfl) rfl) (ro rfl (eY A_28 Z_28 (Ht rfl) (i:=0) rfl rfl) (ro rfl (dG U_28 (Ht rfl) aA) (ro rfl (cE (Ht rfl) (cJ 0)) (eX (dQ (Ht rfl) (fun hb=>?_) (fun hb=>?_))))))))))))))
 ·simp at hb
  have h1:x.den = 1:=Fx (aI.1 (by simpa using hb))
  refine ts (ro rfl (cH (xs:=[_]) U_28 Z_24 O_24 (cW (cJ 1) cG) rfl rfl rfl) (ra rfl (eX (fW rfl (fX (eU rfl) ?_)))))
  exact (fun v V h=>bH h1.symm v V (wG v V h))
 ·simp at hb
  have h1:du x = x.den:=zB (fun e=>hb (by simp [e,cD]))
  refine cU (ts (ro rfl (eZ pM (Ht rfl) rfl) (ro rfl (eY A_28 Z_28 (Ht rfl) (i:=0) rfl rfl) (ra rfl (eX (fW rfl (fX (eU rfl) ?_)))))))
  exact (bH h1)
theorem qC {n:Int} (h1:-9223372036854775808 ≤ n) (h2:n ≤ 9223372036854775807):bB Tryz.prog 36 [aF .i64 n] (bA (Qi.ofInt n)):=by
 refine bB.intro Tryz.func36 rfl Tryz.ntmps36 rfl (fun cx=>(ts (rn rfl (eW (Ts:=[Is (.bool false),Is (.slice none 0 0),Is (.bool false),Is (.slice none 0 0),Is (.slice none 0 0)]) O_32 rfl (fun V=>aW zd (aW zd (aW zd (aW zd (aW zd (aG))))))) fun B2=>(eX (ts (rm rfl (ro rfl (cZ Tryz.call115 (yR h1 h2) ⟨(Ht rfl),trivial⟩) (ro rfl (Ju (Ht rfl)) (gQ Z_32 (Ht rfl) (Ht rfl) rfl (i:=0) rfl (aK rfl) rfl rfl ?_)))))))))
 refine eX (fW rfl (fX (fK A_32 Z_32 rfl (i:=0) rfl rfl) ?_))
 exact Gt
theorem Xi {p q d:Int} (p1:-9223372036854775808 ≤ p) (p2:p ≤ 9223372036854775807) (q1:-9223372036854775808 ≤ q) (q2:q ≤ 9223372036854775807) (d1:-9223372036854775808 ≤ d) (d2:d ≤ 9223372036854775807) (hd:d ≠ 0):bB Tryz.prog 81 [aF .i64 p,aF .i64 q,aF .i64 d] (fT [bA (Qi.frac p q d),aF .i64 0]):=by
 have lp:=Ia p1 p2; have lq:=Ia q1 q2; have ld:=Ia d1 d2; have np:=nI p; have nq:=nI q
 refine bB.intro Tryz.func81 rfl Tryz.ntmps81 rfl (fun cx=>(ts (rn rfl (eW (Ts:=[Is (.bool false),Is (.slice none 0 0),Is (.bool false),Is (.slice none 0 0),Is (.slice none 0 0)]) O_32 rfl (fun V=>aW zd (aW zd (aW zd (aW zd (aW zd (aG))))))) fun B6=>(ro rfl (cQ (cJ 0)) (eX (cK (ts (rm rfl (ro rfl (lX (Ht rfl) cV) (eX (mD (Ht rfl) (by simp [hd]) ?_)))))))))))
 refine cU (ts (rm rfl (ro rfl (cZ Tryz.call115 (yR p1 p2) ⟨(Ht rfl),trivial⟩) (rm rfl (ro rfl (cZ Tryz.call115 (yR q1 q2) ⟨(Ht rfl),trivial⟩) (rm rfl (ro rfl (cZ Tryz.call115 (yR d1 d2) ⟨(Ht rfl),trivial⟩) (rn rfl (eW (Ts:=[Is (.bool false),Is (.slice none 0 0)]) O_30 rfl (fun V=>aW zd (aW zd (aG)))) fun B8=>(rn rfl (eW (Ts:=[Is (.bool false),Is (.slice none 0 0)]) O_30 rfl (fun V=>aW zd (aW zd (aG)))) fun B9=>?_)))))))))
 refine rn rfl (eW (Ts:=[Is (.bool false),Is (.slice none 0 0)]) O_30 rfl (fun V=>aW zd (aW zd (aG)))) fun B10=>gQ Z_30 (Ht rfl) (Ht rfl) rfl (i:=1) rfl (aK rfl) rfl rfl (gQ Z_30 (Ht rfl) (Ht rfl) rfl (i:=2) rfl (aK rfl) rfl rfl (gQ Z_30 (Ht rfl) (Ht rfl) rfl (i:=3) rfl (aK rfl) rfl rfl (eX (cK (mE (fun (a:Int) (b:Int)=>Qi.mk' a b d.natAbs = Qi.frac p q d ∧ (dg a.natAbs).length ≤ 2 ∧ (dg b.natAbs).length ≤ 2) (fun (a:Int) (b:Int)=>[(6,bT B6 0),(8,bT B8 0),(9,bT B9 0),(10,bT B10 0)]) (fun (a:Int) (b:Int)=>[box B6 32 [Is (.bool false),Is (.slice none 0 0),Is (.bool false),Is (.slice none 0 0),Is (.slice none 0 0)],box B8 30 [aC (decide (a < 0)),aB (a).natAbs],box B9 30 [aC (decide (b < 0)),aB (b).natAbs],box B10 30 [aC (decide (d < 0)),aB (d).natAbs]]) ?_ (fun a b ⟨hab,ha,hb⟩=>?_))))))
 ·refine ts (ro rfl (eZ iY (Ht rfl) rfl) (ro rfl (eY A_4 Z_4 (Ht rfl) (i := 3) rfl rfl) (eX (dQ (Ht rfl) (fun hn => ?_) (fun hn => ?_)))))
  ·simp only [decide_eq_true_eq] at hn
   refine fZ (m:=3) (dp 8 rfl (eJ A_30 Z_30 (Ht rfl) (i:=1) rfl rfl rfl) (dq 22 0 rfl (cZ K_107 mG ⟨(Ht rfl),trivial⟩) (dp 9 rfl (eJ A_30 Z_30 (Ht rfl) (i:=2) rfl rfl rfl) (fV mixed rfl (by kernel_rfl) (aJ (aJ (aJ (aV (ro rfl (cZ K_107 mG ⟨(Ht rfl),trivial⟩) (gQ Z_30 (Ht rfl) (Ht rfl) rfl (i:=1) rfl (aK rfl) rfl rfl (gQ Z_30 (Ht rfl) (Ht rfl) rfl (i:=2) rfl (aK rfl) rfl rfl (eX (aS (-p,-q) ⟨Qi.frac_neg hn,by dsimp only; omega,by dsimp only; omega⟩ (zS rfl) (aU (aD rfl) (aU (aD rfl) (aU (aD rfl) (aU (aD rfl) aY)))))))))))))))))
  ·simp only [decide_eq_false_iff_not] at hn
   refine cU (aS (p,q) ⟨Qi.frac_pos hn hd,by omega,by omega⟩ (zS rfl) (cF.refl _))
 ·refine ts (ro rfl (eJ A_30 Z_30 (Ht rfl) (i := 1) rfl rfl rfl) (ro rfl (eJ A_30 Z_30 (Ht rfl) (i := 2) rfl rfl rfl) (ro rfl (eZ dA (Ht rfl) rfl) (ro rfl (eY A_28 Z_28 (Ht rfl) (i := 3) rfl rfl) (ro rfl (cZ K_108 (sC zo zo zo zo) ⟨(Ht rfl), (Ht rfl), (Ht rfl), trivial⟩) (gQ Z_32 (Ht rfl) (Ht rfl) rfl (i := 0) rfl (aK rfl) rfl rfl (ro rfl (cQ (cJ 0)) (eX (bI rfl (fX (fK A_32 Z_32 rfl (i := 0) rfl rfl) ?_) (eU rfl))))))))))
  exact (jF hab)
theorem Fh {x y:Qi} {L M:Nat} [hx:aL x L] [hy:aL y M] (h:L + M + 1 ≤ 17592186044415):bB Tryz.prog 33 [bA x,bA y] (bA (x + y)):=by
 have hxa:=iB hx.fit; have hxb:=iM hx.fit; have hxd:=iC hx.fit
 have hya:=iB hy.fit; have hyb:=iM hy.fit; have hyd:=iC hy.fit
 have hxp:=x.den_pos; have hyp:=y.den_pos; have hdp:=Nat.mul_pos hxp hyp
 have e1:=bP x.a y.den; have e2:=bP y.a x.den; have e3:=bP x.b y.den; have e4:=bP y.b x.den; have e5:=oF x.den y.den
 have e6:=iH (x:=x.a * y.den) (y:=y.a * x.den) (L:=L + M) zo zo; have e7:=iH (x:=x.b * y.den) (y:=y.b * x.den) (L:=L + M) zo zo
 refine bB.intro Tryz.func33 rfl Tryz.ntmps33 rfl (fun cx=>(ts (rn rfl (fG (Ht rfl)) fun B2=>(rn rfl (fG (Ht rfl)) fun B3=>(rn rfl (eW (Ts:=[Is (.bool false),Is (.slice none 0 0),Is (.bool false),Is (.slice none 0 0),Is (.slice none 0 0)]) O_32 rfl (fun V=>aW zd (aW zd (aW zd (aW zd (aW zd (aG))))))) fun B4=>(eX (cK (fZ (m:=3) (dp 2 rfl (eJ A_32 Z_32 (Ht rfl) (i:=0) rfl rfl rfl) (dq 7 0 rfl (cZ K_109 mF ⟨(Ht rfl),trivial⟩) ?_))))))))))
 refine dp 3 rfl (eJ A_32 Z_32 (Ht rfl) (i:=1) rfl rfl rfl) (fV mixed rfl (by kernel_rfl) (aJ (aJ (aJ (aV (ro rfl (cZ K_109 mF ⟨(Ht rfl),trivial⟩) (ra rfl (ra rfl (eX (cK (fZ (m:=20) (dp 2 rfl (eZ eO (Ht rfl) rfl) (dq 11 0 rfl (eJ A_30 Z_30 (Ht rfl) (i:=0) rfl rfl rfl) (dp 6 rfl (cX (Ht rfl)) (cP 12 1 13 2 rfl (cZ K_111 (jI zo zo) ⟨(Ht rfl),(Ht rfl),trivial⟩) (dp 3 rfl (eZ eO (Ht rfl) rfl) (dq 15 4 rfl (eJ A_30 Z_30 (Ht rfl) (i:=1) rfl rfl rfl) ?_)))))))))))))))))
 refine dp 5 rfl (cX (Ht rfl)) (cP 16 5 17 6 rfl (cZ K_111 (jI zo zo) ⟨(Ht rfl),(Ht rfl),trivial⟩) (cP 14 3 18 7 rfl (cZ K_106 (sD zo zo) ⟨(Ht rfl),(Ht rfl),trivial⟩) (dp 2 rfl (eZ fR (Ht rfl) rfl) (dq 20 9 rfl (eJ A_30 Z_30 (Ht rfl) (i:=0) rfl rfl rfl) (dp 6 rfl (cX (Ht rfl)) (cP 21 10 22 11 rfl (cZ K_111 (jI zo zo) ⟨(Ht rfl),(Ht rfl),trivial⟩) (dp 3 rfl (eZ fR (Ht rfl) rfl) (dq 24 13 rfl (eJ A_30 Z_30 (Ht rfl) (i:=1) rfl rfl rfl) ?_))))))))
 refine dp 5 rfl (cX (Ht rfl)) (cP 25 14 26 15 rfl (cZ K_111 (jI zo zo) ⟨(Ht rfl),(Ht rfl),trivial⟩) (cP 23 12 27 16 rfl (cZ K_106 (sD zo zo) ⟨(Ht rfl),(Ht rfl),trivial⟩) (dp 5 rfl (cX (Ht rfl)) (dp 6 rfl (cX (Ht rfl)) (fV mixed rfl (by kernel_rfl) (zF (zF (zF (zF (zF (aV (ro rfl (cZ Tryz.call110 (Ao zo zo) ⟨(Ht rfl),(Ht rfl),trivial⟩) ?_))))))))))))
 refine ro rfl (cZ K_108 (sC (by first | assumption | omega) zo zo zo) ⟨(Ht rfl),(Ht rfl),(Ht rfl),trivial⟩) (gQ Z_32 (Ht rfl) (Ht rfl) rfl (i:=2) rfl (aK rfl) rfl rfl (eX (fW rfl (fX (fK A_32 Z_32 rfl (i:=2) rfl rfl) ?_))))
 exact (jF (Qi.mk_add x y))
theorem Xh {x:Qi}:bB Tryz.prog 114 [bA x] (bA (-x)):=by
 refine bB.intro Tryz.func114 rfl Tryz.ntmps114 rfl (fun cx=>(ts (rn rfl (fG (Ht rfl)) fun B1=>(rn rfl (eW (Ts:=[Is (.bool false),Is (.slice none 0 0),Is (.bool false),Is (.slice none 0 0),Is (.slice none 0 0)]) O_32 rfl (fun V=>aW zd (aW zd (aW zd (aW zd (aW zd (aG))))))) fun B2=>(eX (cK (fZ (m:=8) (dp 1 rfl (eZ eO (Ht rfl) rfl) (dq 3 0 rfl (eJ A_30 Z_30 (Ht rfl) (i:=0) rfl rfl rfl) (dq 4 1 rfl (cZ K_107 mG ⟨(Ht rfl),trivial⟩) ?_))))))))))
 refine dp 1 rfl (eZ fR (Ht rfl) rfl) (dq 6 3 rfl (eJ A_30 Z_30 (Ht rfl) (i:=0) rfl rfl rfl) (dq 7 4 rfl (cZ K_107 mG ⟨(Ht rfl),trivial⟩) (dp 1 rfl (eZ pM (Ht rfl) rfl) (dq 9 6 rfl (eY A_28 Z_28 (Ht rfl) (i:=0) rfl rfl) (fV mixed rfl (by kernel_rfl) (zF (zF (aV (ro rfl (nE (Ht rfl) (Ht rfl) (Ht rfl)) (gQ Z_32 (Ht rfl) (Ht rfl) rfl (i:=1) rfl (aK rfl) rfl rfl (eX (fW rfl (fX (fK A_32 Z_32 rfl (i:=1) rfl rfl) ?_)))))))))))))
 exact (kC (by obtain ⟨e1,e2,e3⟩:=Qi.neg_a x; rw [e1,e2,Td e3]; rfl))
theorem Dk {x:Qi}:bB Tryz.prog 317 [bA x] (bA x.conj):=by
 refine bB.intro Tryz.func317 rfl Tryz.ntmps317 rfl (fun cx=>(ts (rn rfl (fG (Ht rfl)) fun B1=>(rn rfl (eW (Ts:=[Is (.bool false),Is (.slice none 0 0),Is (.bool false),Is (.slice none 0 0),Is (.slice none 0 0)]) O_32 rfl (fun V=>aW zd (aW zd (aW zd (aW zd (aW zd (aG))))))) fun B2=>(eX (cK (fZ (m:=7) (dp 1 rfl (eZ eO (Ht rfl) rfl) (dq 3 0 rfl (eJ A_30 Z_30 (Ht rfl) (i:=0) rfl rfl rfl) (dp 1 rfl (eZ fR (Ht rfl) rfl) ?_))))))))))
 refine dq 5 2 rfl (eJ A_30 Z_30 (Ht rfl) (i:=0) rfl rfl rfl) (dq 6 3 rfl (cZ K_107 mG ⟨(Ht rfl),trivial⟩) (dp 1 rfl (eZ pM (Ht rfl) rfl) (dq 8 5 rfl (eY A_28 Z_28 (Ht rfl) (i:=0) rfl rfl) (fV mixed rfl (by kernel_rfl) (zF (aJ (aJ (aJ (aV (ro rfl (nE (Ht rfl) (Ht rfl) (Ht rfl)) (gQ Z_32 (Ht rfl) (Ht rfl) rfl (i:=1) rfl (aK rfl) rfl rfl (eX (fW rfl (fX (fK A_32 Z_32 rfl (i:=1) rfl rfl) ?_))))))))))))))
 exact (kC (by obtain ⟨e1,e2,e3⟩:=Qi.conj_a x; rw [e1,e2,Td e3]; rfl))
theorem Jy {x y:Qi} {L M:Nat} [hx:aL x L] [hy:aL y M] (h:L + M + 1 ≤ 17592186044415):bB Tryz.prog 32 [bA x,bA y] (bA (x - y)):=by
 have hxa:=iB hx.fit; have hxb:=iM hx.fit; have hxd:=iC hx.fit
 have hya:=iB hy.fit; have hyb:=iM hy.fit; have hyd:=iC hy.fit
 have hxp:=x.den_pos; have hyp:=y.den_pos; have hdp:=Nat.mul_pos hxp hyp
 refine bB.intro Tryz.func32 rfl Tryz.ntmps32 rfl (fun cx=>(ts (rn rfl (fG (Ht rfl)) fun B2=>(rn rfl (fG (Ht rfl)) fun B3=>(rn rfl (eW (Ts:=[Is (.bool false),Is (.slice none 0 0),Is (.bool false),Is (.slice none 0 0),Is (.slice none 0 0)]) O_32 rfl (fun V=>aW zd (aW zd (aW zd (aW zd (aW zd (aG))))))) fun B4=>(eX (cK (fZ (m:=3) (dp 2 rfl (eJ A_32 Z_32 (Ht rfl) (i:=0) rfl rfl rfl) (dp 3 rfl (eJ A_32 Z_32 (Ht rfl) (i:=1) rfl rfl rfl) ?_))))))))))
 refine dq 6 1 rfl (cZ Tryz.call114 Xh ⟨(Ht rfl),trivial⟩) (fV mixed rfl (by kernel_rfl) (aJ (aJ (aJ (aV (ro rfl (cZ Tryz.call33 (Fh zo) ⟨(Ht rfl),(Ht rfl),trivial⟩) (gQ Z_32 (Ht rfl) (Ht rfl) rfl (i:=2) rfl (aK rfl) rfl rfl (eX (fW rfl (fX (fK A_32 Z_32 rfl (i:=2) rfl rfl) ?_))))))))))
 exact (jF (Qi.sub_def x y).symm)
theorem lR {x y:Qi} {L M:Nat} [hx:aL x L] [hy:aL y M] (h:L + M + 1 ≤ 17592186044415):bB Tryz.prog 29 [bA x,bA y] (bA (x * y)):=by
 have hxa:=iB hx.fit; have hxb:=iM hx.fit; have hxd:=iC hx.fit
 have hya:=iB hy.fit; have hyb:=iM hy.fit; have hyd:=iC hy.fit
 have hxp:=x.den_pos; have hyp:=y.den_pos; have hdp:=Nat.mul_pos hxp hyp
 have e1:=iI x.a y.a; have e2:=iI x.b y.b; have e3:=iI x.a y.b; have e4:=iI x.b y.a; have e5:=oF x.den y.den; have e8:=nI (x.b * y.b)
 have e6:=iH (x:=x.a * y.a) (y:=-(x.b * y.b)) (L:=L + M) zo zo; have e7:=iH (x:=x.a * y.b) (y:=x.b * y.a) (L:=L + M) zo zo
 refine bB.intro Tryz.func29 rfl Tryz.ntmps29 rfl (fun cx=>(ts (rn rfl (fG (Ht rfl)) fun B2=>(rn rfl (fG (Ht rfl)) fun B3=>(rn rfl (eW (Ts:=[Is (.bool false),Is (.slice none 0 0),Is (.bool false),Is (.slice none 0 0),Is (.slice none 0 0)]) O_32 rfl (fun V=>aW zd (aW zd (aW zd (aW zd (aW zd (aG))))))) fun B4=>(eX (cK (fZ (m:=13) (dp 2 rfl (eZ eO (Ht rfl) rfl) (dq 7 0 rfl (eJ A_30 Z_30 (Ht rfl) (i:=0) rfl rfl rfl) ?_))))))))))
 refine dp 3 rfl (eZ eO (Ht rfl) rfl) (dq 9 2 rfl (eJ A_30 Z_30 (Ht rfl) (i:=1) rfl rfl rfl) (cP 8 1 10 3 rfl (cZ K_105 (pG zo zo) ⟨(Ht rfl),(Ht rfl),trivial⟩) (dp 2 rfl (eZ fR (Ht rfl) rfl) (dq 12 5 rfl (eJ A_30 Z_30 (Ht rfl) (i:=0) rfl rfl rfl) (dp 3 rfl (eZ fR (Ht rfl) rfl) (dq 14 7 rfl (eJ A_30 Z_30 (Ht rfl) (i:=1) rfl rfl rfl) (cP 13 6 15 8 rfl (cZ K_105 (pG zo zo) ⟨(Ht rfl),(Ht rfl),trivial⟩) (dq 16 9 rfl (cZ K_107 mG ⟨(Ht rfl),trivial⟩) ?_))))))))
 refine cP 11 4 17 10 rfl (cZ K_106 (sD zo zo) ⟨(Ht rfl),(Ht rfl),trivial⟩) (C.D_new (Ei:=[]) rfl rfl rfl bW (eW (Ts:=[Is (.bool false),Is (.slice none 0 0)]) O_30 rfl (fun V=>aW zd (aW zd (aG)))) (fV mixed rfl (by kernel_rfl) (zF (zF (zF (C.F_new (fun B5=>aV (gQ Z_30 (Ht rfl) (Ht rfl) rfl (i:=3) rfl (aK rfl) rfl rfl (eX ?_)))))))))
 refine cK (fZ (m:=12) (dp 2 rfl (eZ eO (Ht rfl) rfl) (dq 19 0 rfl (eJ A_30 Z_30 (Ht rfl) (i:=0) rfl rfl rfl) (dp 3 rfl (eZ fR (Ht rfl) rfl) (dq 21 2 rfl (eJ A_30 Z_30 (Ht rfl) (i:=1) rfl rfl rfl) (cP 20 1 22 3 rfl (cZ K_105 (pG zo zo) ⟨(Ht rfl),(Ht rfl),trivial⟩) (dp 2 rfl (eZ fR (Ht rfl) rfl) (dq 24 5 rfl (eJ A_30 Z_30 (Ht rfl) (i:=0) rfl rfl rfl) (dp 3 rfl (eZ eO (Ht rfl) rfl) (dq 26 7 rfl (eJ A_30 Z_30 (Ht rfl) (i:=1) rfl rfl rfl) ?_))))))))))
 refine cP 25 6 27 8 rfl (cZ K_105 (pG zo zo) ⟨(Ht rfl),(Ht rfl),trivial⟩) (cP 23 4 28 9 rfl (cZ K_106 (sD zo zo) ⟨(Ht rfl),(Ht rfl),trivial⟩) (C.D_new (Ei:=[]) rfl rfl rfl bW (eW (Ts:=[Is (.bool false),Is (.slice none 0 0)]) O_30 rfl (fun V=>aW zd (aW zd (aG)))) (fV mixed rfl (by kernel_rfl) (zF (zF (aJ (aJ (aJ (C.F_new (fun B6=>aV (gQ Z_30 (Ht rfl) (Ht rfl) rfl (i:=4) rfl (aK rfl) rfl rfl ?_)))))))))))
 refine eX (cK (fZ (m:=7) (dp 5 rfl (eJ A_30 Z_30 (Ht rfl) (i:=3) rfl rfl rfl) (dp 6 rfl (eJ A_30 Z_30 (Ht rfl) (i:=4) rfl rfl rfl) (dp 2 rfl (eJ A_32 Z_32 (Ht rfl) (i:=0) rfl rfl rfl) (dq 32 2 rfl (cZ K_109 mF ⟨(Ht rfl),trivial⟩) (dp 3 rfl (eJ A_32 Z_32 (Ht rfl) (i:=1) rfl rfl rfl) (dq 34 4 rfl (cZ K_109 mF ⟨(Ht rfl),trivial⟩) (cP 33 3 35 5 rfl (cZ Tryz.call110 (Ao zo zo) ⟨(Ht rfl),(Ht rfl),trivial⟩) (fV mixed rfl (by kernel_rfl) (zF (aJ (aJ (aJ (aV ?_)))))))))))))))
 refine ro rfl (cZ K_108 (sC (by first | assumption | omega) zo zo zo) ⟨(Ht rfl),(Ht rfl),(Ht rfl),trivial⟩) (gQ Z_32 (Ht rfl) (Ht rfl) rfl (i:=2) rfl (aK rfl) rfl rfl (eX (fW rfl (fX (fK A_32 Z_32 rfl (i:=2) rfl rfl) ?_))))
 exact (jF (Qi.mk_mul x y))
theorem Om {x:Qi} {L:Nat} [hx:aL x L] (h:L ≤ 17592186044415):bB Tryz.prog 34 [bA x] (aC (!decide (x = Qi.zero))):=by
 have hxa:=iB hx.fit; have hxb:=iM hx.fit; have hxd:=iC hx.fit
 refine bB.intro Tryz.func34 rfl Tryz.ntmps34 rfl (fun cx=>(ts (rn rfl (fG (Ht rfl)) fun B1=>(ro rfl (cQ cV) (eX (ts (ro rfl (eZ eO (Ht rfl) rfl) (ro rfl (eZ dA (Ht rfl) rfl) (ro rfl (eY A_28 Z_28 (Ht rfl) (i:=0) rfl rfl) (ro rfl (dG U_28 (Ht rfl) aA) (ro rfl (eZ fR (Ht rfl) rfl) (ro rfl (eZ dA (Ht rfl) rfl) (ro rfl (eY A_28 Z_28 (Ht rfl) (i:=0) rfl rfl) (ro rfl (dG U_28 (Ht rfl) aA) (ro rfl (dV (Ht rfl) (Ht rfl) z6) ?_)))))))))))))))
 refine ro rfl (dM (Ht rfl) (cJ 0)) (ra rfl (eX (fW rfl (fX (eU rfl) ?_))))
 exact (gF (Km x))
theorem qN {x:Qi}:bB Tryz.prog 35 [bA x] (aC (decide (x.b = 0))):=by
 refine bB.intro Tryz.func35 rfl Tryz.ntmps35 rfl (fun cx=>(ts (rn rfl (fG (Ht rfl)) fun B1=>(ro rfl (cQ cV) (eX (ts (ro rfl (eZ fR (Ht rfl) rfl) (ro rfl (eZ dA (Ht rfl) rfl) (ro rfl (eY A_28 Z_28 (Ht rfl) (i:=0) rfl rfl) (ro rfl (dG U_28 (Ht rfl) aA) (ro rfl (cE (Ht rfl) (cJ 0)) (ra rfl (eX (fW rfl (fX (eU rfl) ?_)))))))))))))))
 exact (gF (Rd x))
theorem tE {x y:Qi} {L M:Nat} [hx:aL x L] [hy:aL y M] (h:L + M ≤ 17592186044415):bB Tryz.prog 30 [bA x,bA y] (aF .i64 (nR x y)):=by
 have hxa:=iB hx.fit; have hxb:=iM hx.fit; have hxd:=iC hx.fit
 have hya:=iB hy.fit; have hyb:=iM hy.fit; have hyd:=iC hy.fit
 have e1:=bP x.a y.den; have e2:=bP y.a x.den; have e3:=bP x.b y.den; have e4:=bP y.b x.den
 refine bB.intro Tryz.func30 rfl Tryz.ntmps30 rfl (fun cx=>(ts (rn rfl (fG (Ht rfl)) fun B2=>(rn rfl (fG (Ht rfl)) fun B3=>(ro rfl (cQ (cJ 0)) (eX (cK (cK (fZ (m:=9) (dp 2 rfl (eZ eO (Ht rfl) rfl) (dq 6 0 rfl (eJ A_30 Z_30 (Ht rfl) (i:=0) rfl rfl rfl) (dp 3 rfl (eJ A_32 Z_32 (Ht rfl) (i:=1) rfl rfl rfl) (dq 8 2 rfl (cZ K_109 mF ⟨(Ht rfl),trivial⟩) (cP 7 1 9 3 rfl (cZ K_111 (jI zo zo) ⟨(Ht rfl),(Ht rfl),trivial⟩) (dp 3 rfl (eZ eO (Ht rfl) rfl) ?_)))))))))))))))
 refine dq 11 5 rfl (eJ A_30 Z_30 (Ht rfl) (i:=1) rfl rfl rfl) (dp 2 rfl (eJ A_32 Z_32 (Ht rfl) (i:=0) rfl rfl rfl) (dq 13 7 rfl (cZ K_109 mF ⟨(Ht rfl),trivial⟩) (fV mixed rfl (by kernel_rfl) (zF (zF (aJ (aV (ro rfl (cZ K_111 (jI zo zo) ⟨(Ht rfl),(Ht rfl),trivial⟩) (ro rfl (cZ Tryz.call112 (Ki zo zo) ⟨(Ht rfl),(Ht rfl),trivial⟩) (ra rfl (eX (ts (rm rfl (ro rfl (jH (Ht rfl) cV) ?_))))))))))))))
 refine eX (dQ (Ht rfl) (fun hb=>?_) (fun hb=>?_))
 ·simp only [Bool.not_eq_true', decide_eq_false_iff_not] at hb
  refine ts (rm rfl (ra rfl (eX (fW rfl (fX (eU rfl) ?_)))))
  exact (aN (by rw [nR,if_pos hb]))
 ·simp only [Bool.not_eq_false', decide_eq_true_eq] at hb
  refine cU (cK (fZ (m:=9) (dp 2 rfl (eZ fR (Ht rfl) rfl) (dq 20 0 rfl (eJ A_30 Z_30 (Ht rfl) (i:=0) rfl rfl rfl) (dp 3 rfl (eJ A_32 Z_32 (Ht rfl) (i:=1) rfl rfl rfl) (dq 22 2 rfl (cZ K_109 mF ⟨(Ht rfl),trivial⟩) (cP 21 1 23 3 rfl (cZ K_111 (jI zo zo) ⟨(Ht rfl),(Ht rfl),trivial⟩) (dp 3 rfl (eZ fR (Ht rfl) rfl) (dq 25 5 rfl (eJ A_30 Z_30 (Ht rfl) (i:=1) rfl rfl rfl) (dp 2 rfl (eJ A_32 Z_32 (Ht rfl) (i:=0) rfl rfl rfl) ?_))))))))))
  refine dq 27 7 rfl (cZ K_109 mF ⟨(Ht rfl),trivial⟩) (fV mixed rfl (by kernel_rfl) (zF (zF (aJ (aV (ro rfl (cZ K_111 (jI zo zo) ⟨(Ht rfl),(Ht rfl),trivial⟩) (ro rfl (cZ Tryz.call112 (Ki zo zo) ⟨(Ht rfl),(Ht rfl),trivial⟩) (ra rfl (eX (fW rfl (fX (eU rfl) ?_)))))))))))
  exact (aN (by rw [nR,if_neg (by simpa using hb)]))
end
section
open Go Go.RowKit
theorem Ok {n : Nat} {E : bM} {H : Hp} {d : Option Tmp} {t : TypeId} {pos : String} {af : Array Edge} {g : Option (Nat × Bool)}  :
  aM Tryz.prog n E H ⟨d,.build 30 #[],t,pos,af,g⟩ (dE [Is (.bool false),Is (.slice none 0 0)]) :=
 eM (parts := []) fun a V w hs => by
  refine ⟨.agg #[(.bool false),(.slice none 0 0)],?_,[(.bool false),(.slice none 0 0)],rfl,aW (⟨rfl,trivial⟩) (aW (⟨rfl,trivial⟩) (aG))⟩
  simp [Instr.build,Instr.fill,Sem.run_bind,Result.andThen,dI,O_30,U_30,Z_4,Z_28]
theorem Ga (a:Addr) (w:World):(Instr.fieldAt 23 (.pointer (some a)) 0).run Tryz.prog w = .ok (.pointer (some (a.add 0))) w:=by
 simp [Instr.fieldAt,Instr.sureAddr,fieldPlace,Sem.run_bind,Result.andThen,U_23,Z_2]
theorem Gc (a:Addr) (w:World):(Instr.fieldAt 23 (.pointer (some a)) 1).run Tryz.prog w = .ok (.pointer (some (a.add 1))) w:=by
 simp [Instr.fieldAt,Instr.sureAddr,fieldPlace,Sem.run_bind,Result.andThen,U_23,Z_2]
theorem pL (a:Addr) (w:World):(Instr.fieldAt 23 (.pointer (some a)) 2).run Tryz.prog w = .ok (.pointer (some (a.add 2))) w:=by
 simp [Instr.fieldAt,Instr.sureAddr,fieldPlace,Sem.run_bind,Result.andThen,U_23,Z_2]
theorem mK:Tryz.prog.info? 32 = some Tryz.t32:=by kernel_rfl
theorem oY:Tryz.prog.underlying 54 = some (.slice 32):=by kernel_rfl
end
section
open Go Go.RowKit
theorem Ds {a:Int} {d:Nat} (hd:0 < d) (ha:(dg a.natAbs).length ≤ 8796093022208) (hd2:(dg d).length ≤ 8796093022208):bB Tryz.prog 192 [cB a,aB d] (mS (oR a d)):=by
 have h1:=Bu a hd; have h2:=Bv a hd
 obtain ⟨x,hx⟩:∃ x,x = Qi.mk' a 0 d:=⟨_,rfl⟩
 rw [oR,← hx]
 rw [← hx] at h1 h2
 have h3:=nH x.a.natAbs; have h4:=nH x.den
 have h5:(dg (0:Int).natAbs).length ≤ 0:=by rw [show (0:Int).natAbs = 0 from rfl,cD]; exact Nat.le_refl _
 refine bB.intro Tryz.func192 rfl Tryz.ntmps192 rfl (fun cx=>(ts (rn rfl (fG (Ht rfl)) fun B2=>(ro rfl (cQ (aT.cS (l:=[]) rfl)) (eX (ts (ro rfl (eJ A_30 Z_30 (Ht rfl) (i:=0) rfl rfl rfl) (ro rfl (aM.imp (Ok ) wQ) (rm rfl (ro rfl (aM.imp (cZ K_108 (sC (by first | assumption | omega) zo zo zo) ⟨(Ht rfl),(Ht rfl),(Ht rfl),trivial⟩) (jF hx.symm)) (rn rfl (eW (Ts:=[Is (.bool false),Is (.slice none 0 0),Is (.bool false),Is (.slice none 0 0),Is (.slice none 0 0)]) O_32 rfl (fun V=>aW zd (aW zd (aW zd (aW zd (aW zd (aG))))))) fun B5=>?_)))))))))))
 refine gQ Z_32 (Ht rfl) (Ht rfl) rfl (i:=1) rfl (aK rfl) rfl rfl (eX (ts (ro rfl (eZ eO (Ht rfl) rfl) (ro rfl (eZ dA (Ht rfl) rfl) (ro rfl (eY A_28 Z_28 (Ht rfl) (i:=1) rfl rfl) (ro rfl (cZ Tryz.call243 (An zo) ⟨(Ht rfl),trivial⟩) (ra rfl (eX (cK (iR (fun (uu:Unit)=>True) (fun (uu:Unit)=>[(5,bT B5 0),(6,mS (if x.a < 0 then 45 :: qD x.a.natAbs else qD x.a.natAbs))]) (fun (uu:Unit)=>[box B2 30 [aC (decide (a < 0)),aB (a).natAbs],box B5 32 [aC (decide ((x).a < 0)),aB (x).a.natAbs,aC (decide ((x).b < 0)),aB (x).b.natAbs,aB (du (x))]]) ?_ (fun uu _=>?_)))))))))))
 ·refine ts (ro rfl (eZ eO (Ht rfl) rfl) (ro rfl (eZ iY (Ht rfl) rfl) (ro rfl (eY A_4 Z_4 (Ht rfl) (i := 1) rfl rfl) (eX (dQ (Ht rfl) (fun hb => ?_) (fun hb => ?_))))))
  ·simp only [decide_eq_true_eq] at hb
   refine cY (rm rfl (ro rfl (hZ (aT.cS (l:=[45]) rfl) (Ht rfl) (by first | omega | (simp; omega))) (ra rfl (eX (aS () trivial (aQ rfl (aZ rfl (gR (by rw [if_pos hb]; rfl)) aX)) (aU (aD rfl) (aU (aD rfl) aY)))))))
  ·simp only [decide_eq_false_iff_not] at hb
   refine cU (aS () trivial (aQ rfl (aZ rfl (gR (by rw [if_neg hb])) aX)) (aU (aD rfl) (aU (aD rfl) aY)))
 ·have h6 : (if x.a < 0 then 45 :: qD x.a.natAbs else qD x.a.natAbs).length ≤ (qD x.a.natAbs).length + 1 := by split <;> simp
  have h7:=Xu x
  refine cK (iR (fun (uu:Unit)=>True) (fun (uu:Unit)=>[(6,mS ((if x.a < 0 then 45 :: qD x.a.natAbs else qD x.a.natAbs) ++ (if x.den = 1 then [] else 47 :: qD x.den)))]) (fun (uu:Unit)=>[box B2 30 [aC (decide (a < 0)),aB (a).natAbs],box B5 32 [aC (decide ((x).a < 0)),aB (x).a.natAbs,aC (decide ((x).b < 0)),aB (x).b.natAbs,aB (du (x))]]) ?_ (fun uu _=>?_))
  ·refine ts (ro rfl (eZ pM (Ht rfl) rfl) (ro rfl (eY A_28 Z_28 (Ht rfl) (i := 1) rfl rfl) (ro rfl (dG U_28 (Ht rfl) aA) (ro rfl (dM (Ht rfl) (cJ 0)) (eX (dQ (Ht rfl) (fun hb => ?_) (fun hb => ?_)))))))
   ·simp only [decide_eq_true_eq] at hb
    have h8:du x = x.den:=zB (fun e=>by rw [e,cD] at hb; simp at hb)
    have h9:x.den ≠ 1:=fun e=>by rw [du,if_pos e,cD] at hb; simp at hb
    have h10:=nH (du x)
    refine cY (rm rfl (ro rfl (eZ pM (Ht rfl) rfl) (ro rfl (eY A_28 Z_28 (Ht rfl) (i:=1) rfl rfl) (ro rfl (cZ Tryz.call243 (An zo) ⟨(Ht rfl),trivial⟩) (ro rfl (hZ (aT.cS (l:=[47]) rfl) (Ht rfl) (by simp only [List.length_cons,List.length_nil]; omega)) ?_)))))
    refine ro rfl (hZ (Ht rfl) (Ht rfl) (by simp only [List.length_append,List.length_cons,List.length_nil]; omega)) ?_
    refine ra rfl (eX (aS () trivial (aZ rfl (gR (by rw [if_neg h9,h8]; rfl)) aX) (cF.refl _)))
   ·simp only [decide_eq_false_iff_not] at hb
    have h9:x.den = 1:=Fx (aI.1 zo)
    refine cU (aS () trivial (aZ rfl (gR (by rw [if_pos h9,List.append_nil])) aX) (cF.refl _))
  ·refine ts (rm rfl (ra rfl (eX ?_)))
   exact fW rfl (eU rfl)
theorem Do {x:Qi} {L:Nat} [hx:aL x L] (h:L ≤ 8796093022208):bB Tryz.prog 92 [bA x] (mS (Ix x)):=by
 have hxa:=iB hx.fit; have hxb:=iM hx.fit; have hxd:=iC hx.fit; have hdp:=x.den_pos
 have l1:=rU x.a hdp; have l2:=rU x.b hdp
 refine bB.intro Tryz.func92 rfl Tryz.ntmps92 rfl (fun cx=>(ts (rn rfl (fG (Ht rfl)) fun B1=>(ro rfl (cQ (aT.cS (l:=[]) rfl)) (eX (cK (ts (ro rfl (eJ A_32 Z_32 (Ht rfl) (i:=0) rfl rfl rfl) (ro rfl (cZ K_35 qN ⟨(Ht rfl),trivial⟩) (eX (dQ (Ht rfl) (fun hb=>?_) (fun hb=>?_))))))))))))
 ·simp only [decide_eq_true_eq] at hb
  refine cK (fZ (m:=4) (dp 1 rfl (eZ eO (Ht rfl) rfl) (dq 6 0 rfl (eJ A_30 Z_30 (Ht rfl) (i:=0) rfl rfl rfl) (dp 1 rfl (eJ A_32 Z_32 (Ht rfl) (i:=0) rfl rfl rfl) (dq 8 2 rfl (cZ K_109 mF ⟨(Ht rfl),trivial⟩) (fV mixed rfl (by kernel_rfl) (zF (aV (ro rfl (cZ Tryz.call192 (Ds (by assumption) zo zo) ⟨(Ht rfl),(Ht rfl),trivial⟩) ?_)))))))))
  refine ra rfl (eX (fW rfl (fX (eU rfl) ?_)))
  exact (gR (by rw [Ix,if_pos hb]))
 ·simp only [decide_eq_false_iff_not] at hb
  refine cU (cK (fZ (m:=4) (dp 1 rfl (eZ fR (Ht rfl) rfl) (dq 11 0 rfl (eJ A_30 Z_30 (Ht rfl) (i:=0) rfl rfl rfl) (dp 1 rfl (eJ A_32 Z_32 (Ht rfl) (i:=0) rfl rfl rfl) (dq 13 2 rfl (cZ K_109 mF ⟨(Ht rfl),trivial⟩) (fV mixed rfl (by kernel_rfl) (zF (aV (ro rfl (cZ Tryz.call192 (Ds (by assumption) zo zo) ⟨(Ht rfl),(Ht rfl),trivial⟩) ?_))))))))))
  refine ro rfl (hZ (Ht rfl) (aT.cS (l:=[105]) rfl) (by simp only [List.length_append,List.length_cons,List.length_nil]; omega)) ?_
  refine ra rfl (eX (cK (ts (ro rfl (eZ eO (Ht rfl) rfl) (ro rfl (eZ dA (Ht rfl) rfl) (ro rfl (eY A_28 Z_28 (Ht rfl) (i:=0) rfl rfl) (ro rfl (dG U_28 (Ht rfl) aA) (ro rfl (cE (Ht rfl) (cJ 0)) (eX (dQ (Ht rfl) (fun hc=>?_) (fun hc=>?_)))))))))))
  ·simp only [decide_eq_true_eq] at hc
   have ha:x.a = 0:=by have:=aI.1 hc; omega
   refine ts (rm rfl (ra rfl (eX (fW rfl (fX (eU rfl) ?_)))))
   exact (gR (by rw [Ix,if_neg hb,if_pos ha]))
  ·simp only [decide_eq_false_iff_not] at hc
   have ha:x.a ≠ 0:=fun e=>hc (by rw [e]; exact aI.2 rfl)
   refine cU (cK (iR (fun (uu:Unit)=>True) (fun (uu:Unit)=>[(1,bT B1 0),(3,mS ((if x.b < 0 then oR x.b x.den else 43 :: oR x.b x.den) ++ [105]))]) (fun (uu:Unit)=>[box B1 32 [aC (decide ((x).a < 0)),aB (x).a.natAbs,aC (decide ((x).b < 0)),aB (x).b.natAbs,aB (du (x))]]) ?_ (fun uu _=>?_)))
   ·refine ts (ro rfl (eZ fR (Ht rfl) rfl) (ro rfl (eZ iY (Ht rfl) rfl) (ro rfl (eY A_4 Z_4 (Ht rfl) (i := 0) rfl rfl) (ro rfl (eN (Ht rfl)) (eX (dQ (Ht rfl) (fun hd => ?_) (fun hd => ?_)))))))
    ·have hn : ¬ x.b < 0 := by simpa using hd
     refine cY (rm rfl (ro rfl (hZ (aT.cS (l:=[43]) rfl) (Ht rfl) (by simp only [List.length_append,List.length_cons,List.length_nil]; omega)) ?_))
     refine ra rfl (eX (aS () trivial (aQ rfl (aZ rfl (gR (by rw [if_neg hn]; rfl)) aX)) (aU (aD rfl) aY)))
    ·have hn : x.b < 0 := by simpa using hd
     refine cU (aS () trivial (aQ rfl (aZ rfl (gR (by rw [if_pos hn])) aX)) (aU (aD rfl) aY))
   ·have l3 : ((if x.b < 0 then oR x.b x.den else 43 :: oR x.b x.den) ++ [105]).length ≤ (oR x.b x.den).length + 2 := by split <;> simp
    refine cK (fZ (m:=6) (dp 1 rfl (eZ eO (Ht rfl) rfl) (dq 29 0 rfl (eJ A_30 Z_30 (Ht rfl) (i:=0) rfl rfl rfl) (dp 1 rfl (eJ A_32 Z_32 (Ht rfl) (i:=0) rfl rfl rfl) (dq 31 2 rfl (cZ K_109 mF ⟨(Ht rfl),trivial⟩) (cP 30 1 32 3 rfl (cZ Tryz.call192 (Ds (by assumption) zo zo) ⟨(Ht rfl),(Ht rfl),trivial⟩) ?_))))))
    refine dp 3 rfl (cX (Ht rfl)) (fV mixed rfl (by kernel_rfl) (zF (aJ (aJ (aV (ro rfl (hZ (Ht rfl) (Ht rfl) zo) (ra rfl (eX (fW rfl (fX (eU rfl) ?_))))))))))
    exact (gR (by rw [Ix,if_neg hb,if_neg ha]))
theorem nF {r:Rt}:bB Tryz.prog 14 [Ad r] (bA r.q):=by
 have hr1:=r.h1; have hr2:=r.h2; have hr3:=r.h3; have hr4:=r.h4; have hr5:=r.d1; have hr6:=r.d2; have hr0:=r.d0
 refine bB.intro Tryz.func14 rfl Tryz.ntmps14 rfl (fun cx=>(ts (rn rfl (fG (Ht rfl)) fun B1=>(rn rfl (eW (Ts:=[Is (.bool false),Is (.slice none 0 0),Is (.bool false),Is (.slice none 0 0),Is (.slice none 0 0)]) O_32 rfl (fun V=>aW zd (aW zd (aW zd (aW zd (aW zd (aG))))))) fun B2=>(eX (cK (iR (fun (uu:Unit)=>True) (fun (uu:Unit)=>[(1,bT B1 0),(2,bT B2 0)]) (fun (uu:Unit)=>[box B1 23 [aF .i64 r.re,aF .i64 r.im,aF .i64 r.d],box B2 32 [Is (.bool false),Is (.slice none 0 0),Is (.bool false),Is (.slice none 0 0),Is (.slice none 0 0)]]) ?_ (fun uu _=>?_))))))))
 ·refine ts (ro rfl (eZ pL (Ht rfl) rfl) (ro rfl (eY A_2 Z_2 (Ht rfl) (i := 0) rfl rfl) (ro rfl (lX (Ht rfl) cV) (eX (dQ (Ht rfl) (fun hb => ?_) (fun hb => ?_))))))
  ·simp only [decide_eq_true_eq] at hb
   refine cY (ro rfl (eZ pL (Ht rfl) rfl) (iX Z_2 (Ht rfl) (cJ 1) (i:=0) rfl (aK rfl) rfl (eX (aS () trivial (zS rfl) (aU (aD (by rw [Rt.d,if_pos hb]; rfl)) (aU (aD rfl) aY))))))
  ·simp only [decide_eq_false_iff_not] at hb
   refine cU (aS () trivial (zS rfl) (aU (aD (by rw [Rt.d,if_neg hb])) (aU (aD rfl) aY)))
 ·refine ts (ro rfl (eZ Ga (Ht rfl) rfl) (ro rfl (eY A_2 Z_2 (Ht rfl) (i := 0) rfl rfl) (ro rfl (eZ Gc (Ht rfl) rfl) (ro rfl (eY A_2 Z_2 (Ht rfl) (i := 0) rfl rfl) (ro rfl (eZ pL (Ht rfl) rfl) (ro rfl (eY A_2 Z_2 (Ht rfl) (i := 0) rfl rfl) (ro rfl (cZ Tryz.call81 (Xi hr1 hr2 hr3 hr4 hr5 hr6 hr0) ⟨(Ht rfl), (Ht rfl), (Ht rfl), trivial⟩) (rm rfl (ro rfl (dK (Ht rfl) rfl) (ro rfl (dK (Ht rfl) rfl) (rn rfl (eW (Ts := [Is (.bool false), Is (.slice none 0 0), Is (.bool false), Is (.slice none 0 0), Is (.slice none 0 0)]) O_32 rfl (fun V => aW zd (aW zd (aW zd (aW zd (aW zd (aG))))))) fun B3 => ?_)))))))))))
  refine gQ Z_32 (Ht rfl) (Ht rfl) rfl (i:=2) rfl (aK rfl) rfl rfl (ra rfl (eX (ts (ro rfl (eJ A_32 Z_32 (Ht rfl) (i:=2) rfl rfl rfl) (gQ Z_32 (Ht rfl) (Ht rfl) rfl (i:=1) rfl (aK rfl) rfl rfl (eX ?_))))))
  exact fW rfl (fK A_32 Z_32 rfl (i:=1) rfl rfl)
theorem xF {l:List Rt} (hl:l.length ≤ 1000000):bB Tryz.prog 50 [Jh l] (gE (l.map Rt.q)):=by
 refine bB.intro Tryz.func50 rfl Tryz.ntmps50 rfl (fun cx=>(ts (ro rfl (cQ cV) (eX (ts (rm rfl (ro rfl (dG U_77 (Ht rfl) aA) (rn rfl (pS (T:=bA Qi.zero) (i:=Tryz.t32) oY mK rfl rfl (Ht rfl) rfl lW (El.ag rfl) (by show 88 * _ ≤ _; omega) zo) fun B8=>(ra rfl (eX (cK (ts (rm rfl (ro rfl (dG U_77 (Ht rfl) aA) (ro rfl (cX (cJ 0)) (eX (eG ?_)))))))))))))))))
 refine dP (fun (k : Nat) (out : List Qi) => kR (fun i => (l.getD i default).q) l.length out k) (fun (k : Nat) (out : List Qi) => l.length - k) (fun (k : Nat) (out : List Qi) => [(3, Is B8), (9, Jh l), (10, NT .i64 l.length), (11, NT .i64 k)]) (fun (k : Nat) (out : List Qi) => [bE 32 5 B8 (out.map bA)]) 0 (List.replicate l.length Qi.zero) (kR.start _ _ _)
  (zS rfl) (aU (bN (oT bA _ _)) aY) (fun k out hS=>?_)
 refine ts (ro rfl (gX (Ht rfl) (Ht rfl)) (eX (cK (dQ (Ht rfl) (fun hk=>?_) (fun hk=>?_)))))
 ·simp only [decide_eq_true_eq] at hk
  have hlen:=hS.len
  refine cU (cK (eG (ts (rm rfl (ro rfl (dZ U_77 Z_23 (Ht rfl) (Ht rfl) rfl (dY (dU (d:=default) hk))) (ro rfl (dJ A_23 Z_23 (Ht rfl)) (rn rfl (eW (Ts:=[Is (.int .i64 0),Is (.int .i64 0),Is (.int .i64 0)]) O_23 rfl (fun V=>aW zd (aW zd (aW zd (aG))))) fun B5=>(ra rfl (gQ Z_23 (Ht rfl) (Ht rfl) rfl (i:=1) rfl (aK rfl) rfl rfl (eX (cY (rm rfl (rm rfl (ro rfl (eJ A_23 Z_23 (Ht rfl) (i:=1) rfl rfl rfl) ?_))))))))))))))
  refine ro rfl (cZ K_14 nF ⟨(Ht rfl),trivial⟩) (ro rfl (eI U_54 Z_32 (Ht rfl) (Ht rfl) rfl (i:=0) rfl (by first | omega | (simp; omega)) rfl) (nV Z_32 (Ht rfl) (Ht rfl) (El.ag rfl) (i:=0) rfl rfl (by first | omega | (simp; omega)) rfl (eX (bF (cY (ro rfl (dV (Ht rfl) (cJ 1) z6) (rm rfl (eX (eD [0] rfl (by decide) (fU (k + 1,_) (hS.next hk rfl) (by dsimp only; omega) (zS rfl) (aU (bN (mA bA _ _ _)) aY)))))))))))
 ·simp only [decide_eq_false_iff_not] at hk
  obtain rfl:k = l.length:=Nat.le_antisymm hS.kle zo
  have hfin:=hS.fin
  rw [wJ l Rt.q] at hfin
  refine gV rfl (gJ (i:=0) (tt:=3) rfl rfl lE (ts (rm rfl (ra rfl (eX (fW rfl (fX (eU rfl) ?_)))))))
  exact (oX (by rw [hfin]))
end
section
open Go Go.RowKit
theorem lC (ds:List Nat) (hd:iL ds) (hl:ds.length ≤ 1152921504606846976):bB Tryz.prog 240 [qH ds] (aB (val ds)):=by
 refine bB.intro Tryz.func240 rfl Tryz.ntmps240 rfl (fun cx=>(ts (ro rfl (cQ cV) (eX (ts (rm rfl (ro rfl (dG U_27 (Ht rfl) aA) (ra rfl (eX (cK (eG ?_)))))))))))
 refine eP (fun (k : Nat) => k ≤ ds.length ∧ ∀ i, k ≤ i → i < ds.length → ds.getD i 0 = 0) (fun (k : Nat) => k) (fun (k : Nat) => [(0, qH ds), (3, NT .i64 k)]) (fun (k : Nat) => []) ds.length ⟨Nat.le_refl _, fun i h1 h2 => by omega⟩
  (zS rfl) aY (fun k ⟨hk,hz⟩=>?_)
 refine cK (ts (rm rfl (ro rfl (dM (Ht rfl) (cJ 0)) (rm rfl (fQ rfl rfl (eK rfl rfl (Ht rfl) (fun h=>cX (Ht rfl))) (fQ rfl rfl (eK rfl rfl (Ht rfl) (fun h=>cX (Ht rfl))) (fQ rfl rfl (eK rfl rfl (Ht rfl) (fun h=>dW (fJ rfl h) (cJ 1) (by first | omega | (simp at h; omega)) (by show _ < 9223372036854775808; first | omega | (simp at h; omega)))) (fQ rfl rfl (eK rfl rfl (Ht rfl) (fun h=>dZ U_27 Z_24 (fJ rfl h) (fJ rfl h) rfl (dY (aH (by first | omega | (simp at h; omega)))))) ?_))))))))
 refine fQ rfl rfl (eK rfl rfl (Ht rfl) (fun h=>dJ A_24 Z_24 (fJ rfl h))) (fQ rfl rfl (eK rfl rfl (Ht rfl) (fun h=>cE (fJ rfl h) (cJ 0))) (ro rfl (eA (Ht rfl) (fun h=>(fJ rfl h))) (eX (dQ (Ht rfl) (fun hb=>?_) (fun hb=>?_)))))
 ·simp at hb
  refine cU (eG (cY (rm rfl (ro rfl (dW (Ht rfl) (cJ 1) zo z6) (ra rfl (eX (bF (fU (k - 1) ⟨by omega,fun i h1 h2=>?_⟩ zo (zS rfl) aY))))))))
  by_cases e2:i = k - 1
  ·subst e2; simpa using hb.2
  ·exact hz i zo h2
 ·have hn : k = 0 ∨ ds.getD (k - 1) 0 ≠ 0 := by
   simp only [Bool.and_eq_false_iff,decide_eq_false_iff_not] at hb
   rcases hb with h1 | h1
   ·left; omega
   ·right; exact h1
  have hfin:=Ft hd hk hz hn
  refine gV rfl (ts (rm rfl (rm rfl (ro rfl (pV U_27 Z_24 (Ht rfl) (Ht rfl) (fun m e=>by cases e) zo (by simp; omega) rfl) ?_))))
  refine ra rfl (eX (fW rfl (fX (eU rfl) ?_)))
  exact (Bc (by rw [hfin]; simp))
theorem vF {m:Nat} (hm:m < 18446744073709551616):bB Tryz.prog 235 [NT .u64 m] (aB m):=by
 refine bB.intro Tryz.func235 rfl Tryz.ntmps235 rfl (fun cx=>(ts (ro rfl (cQ cV) (eX (ts (rm rfl (ro rfl (dD rfl U_274 U_24 (Ht rfl)) (rm rfl (ro rfl (cI (Ht rfl) (cJ 32) (by decide)) (ro rfl (dD rfl U_274 U_24 (Ht rfl)) (ro rfl (cH (xs:=[.tmp 4,.tmp 7]) U_27 Z_24 O_24 (cW (Ht rfl) (cW (Ht rfl) cG)) rfl rfl rfl) (ro rfl (cZ K_240 (lC [m % 4294967296,m / 2 ^ 32 % 4294967296] (Xt _ _) (by simp)) ⟨(Ht rfl),trivial⟩) ?_))))))))))))
 refine ra rfl (eX (fW rfl (fX (eU rfl) ?_)))
 exact (bH (xW hm))
theorem xG {m n:Nat} (hm:(dg m).length ≤ 1152921504606846976) (hn:(dg n).length ≤ 1152921504606846976):bB Tryz.prog 225 [aB m,aB n] (aF .i64 (nS m n)):=by
 refine bB.intro Tryz.func225 rfl Tryz.ntmps225 rfl (fun cx=>(ts (ro rfl (cQ (cJ 0)) (eX (cK (ts (rm rfl (ro rfl (dG U_27 (Ht rfl) aA) (rm rfl (ro rfl (dG U_27 (Ht rfl) aA) (ro rfl (jY (Ht rfl) (Ht rfl)) (eX (dQ (Ht rfl) (fun hb=>?_) (fun hb=>?_))))))))))))))
 ·simp at hb
  refine cK (ts (rm rfl (ro rfl (dG U_27 (Ht rfl) aA) (rm rfl (ro rfl (dG U_27 (Ht rfl) aA) (ro rfl (gX (Ht rfl) (Ht rfl)) (eX (dQ (Ht rfl) (fun hb2=>?_) (fun hb2=>?_)))))))))
  ·simp at hb2
   have hlt:=vK hb2
   refine ts (ro rfl (cQ cV) (eX (fW rfl (fX (eU rfl) ?_))))
   exact (aN (by simp [nS,hlt]))
  ·simp at hb2
   have hlt:=vK (a:=n) (b:=m) zo
   refine cU (ts (ro rfl (cQ (cJ 1)) (eX (fW rfl (fX (eU rfl) ?_)))))
   exact (aN (by simp [nS,hlt,Nat.lt_asymm hlt]))
 ·simp at hb
  refine cU (cK (ts (rm rfl (ro rfl (dG U_27 (Ht rfl) aA) (ro rfl (eR (Ht rfl) cV (nO zo)) (ra rfl (eX (eG ?_))))))))
  refine eP (fun (k : Nat) => k ≤ (dg m).length ∧ ∀ i, k ≤ i → i < (dg m).length → (dg m).getD i 0 = (dg n).getD i 0) (fun (k : Nat) => k) (fun (k : Nat) => [(0, aB m), (1, aB n), (5, aF .i64 ((k : Int) - 1))]) (fun (k : Nat) => []) (dg m).length ⟨Nat.le_refl _, fun i h1 h2 => by omega⟩
   (zS rfl) aY (fun k ⟨hk,he⟩=>?_)
  refine cK (ts (rm rfl (ro rfl (jX (Ht rfl) cV) (eX (dQ (Ht rfl) (fun hk1=>?_) (fun hk1=>?_))))))
  ·simp at hk1
   refine cU (cK (eG (cK (fZ (m:=8) (dp 0 rfl (cX (Ht rfl)) (dp 5 rfl (cX (Ht rfl)) (cP 23 0 24 1 rfl (dZ U_27 Z_24 (Ht rfl) (Ht rfl) (show ((k:Int) - 1) = ((k - 1:Nat):Int) by omega) (dY (aH zo))) (dq 25 2 rfl (dJ A_24 Z_24 (Ht rfl)) (dp 1 rfl (cX (Ht rfl)) (dp 5 rfl (cX (Ht rfl)) (cP 27 4 28 5 rfl (dZ U_27 Z_24 (Ht rfl) (Ht rfl) (show ((k:Int) - 1) = ((k - 1:Nat):Int) by omega) (dY (aH zo))) (dq 29 6 rfl (dJ A_24 Z_24 (Ht rfl)) ?_))))))))))))
   refine fV mixed rfl (by kernel_rfl) (zF (zF (aV (ro rfl (jY (Ht rfl) (Ht rfl)) (eX (dQ (Ht rfl) (fun h1=>?_) (fun h1=>?_)))))))
   ·simp only [Bool.not_eq_true', decide_eq_false_iff_not] at h1
    refine cK (cK (fZ (m:=8) (dp 0 rfl (cX (Ht rfl)) (dp 5 rfl (cX (Ht rfl)) (cP 32 0 33 1 rfl (dZ U_27 Z_24 (Ht rfl) (Ht rfl) (show ((k:Int) - 1) = ((k - 1:Nat):Int) by omega) (dY (aH zo))) (dq 34 2 rfl (dJ A_24 Z_24 (Ht rfl)) (dp 1 rfl (cX (Ht rfl)) (dp 5 rfl (cX (Ht rfl)) (cP 36 4 37 5 rfl (dZ U_27 Z_24 (Ht rfl) (Ht rfl) (show ((k:Int) - 1) = ((k - 1:Nat):Int) by omega) (dY (aH zo))) (dq 38 6 rfl (dJ A_24 Z_24 (Ht rfl)) ?_))))))))))
    refine fV mixed rfl (by kernel_rfl) (zF (zF (aV (ro rfl (gX (Ht rfl) (Ht rfl)) (eX (dQ (Ht rfl) (fun h2=>?_) (fun h2=>?_)))))))
    ·simp only [decide_eq_true_eq] at h2
     have hlt:=uE (aR m) (aR n) hb (k:=k - 1) zo (fun i h2 h3=>he i zo h3) h2
     rw [bD,bD] at hlt
     refine ts (ro rfl (cQ cV) (eX (fW rfl (fX (eU rfl) ?_))))
     exact (aN (by simp [nS,hlt]))
    ·simp only [decide_eq_false_iff_not] at h2
     have hlt:=uE (aR n) (aR m) hb.symm (k:=k - 1) zo (fun i h2 h3=>(he i zo zo).symm) zo
     rw [bD,bD] at hlt
     refine cU (ts (ro rfl (cQ (cJ 1)) (eX (fW rfl (fX (eU rfl) ?_)))))
     exact (aN (by simp [nS,hlt,Nat.lt_asymm hlt]))
   ·simp only [Bool.not_eq_false', decide_eq_true_eq] at h1
    refine cU (bF (cY (rm rfl (ro rfl (eR (Ht rfl) cV (nO zo)) (ra rfl (eX (fU (k - 1) ⟨by omega,fun i h3 h4=>(by by_cases e:i = k - 1; (· subst e; omega); exact he i zo h4)⟩ zo (aQ rfl (aQ rfl (aZ rfl (aN zo) aX))) aY)))))))
  ·simp at hk1
   have hk0:k = 0:=by omega
   have heq : m = n := by
    have : dg m = dg n := by
     apply List.ext_getElem?
     intro i
     by_cases hi:i < (dg m).length
     ·have h5 := he i zo hi
      have h6:i < (dg n).length:=by omega
      simp [List.getD,hi,h6] at h5
      simp [hi,h6,h5]
     ·rw [List.getElem?_eq_none zo,List.getElem?_eq_none zo]
    rw [← bD m,this,bD]
   refine gV rfl (ts (ro rfl (cQ (cJ 0)) (eX (fW rfl (fX (eU rfl) ?_)))))
   exact (aN (by simp [nS,heq]))
theorem Hy {m n:Nat} (hm:(dg m).length ≤ 17592186044416) (hn:(dg n).length ≤ 17592186044416):bB Tryz.prog 241 [aB m,aB n] (aB (m + n)):=by
 refine bB.intro Tryz.func241 rfl Tryz.ntmps241 rfl (fun cx=>(ts (ro rfl (cQ cV) (eX (cK (mE (fun (p:Nat) (q:Nat)=>p + q = m + n ∧ (dg q).length ≤ (dg p).length ∧ (dg p).length ≤ 17592186044416) (fun (p:Nat) (q:Nat)=>[(0,aB p),(1,aB q)]) (fun (p:Nat) (q:Nat)=>[]) ?_ (fun p q ⟨hpq,hle,hlp⟩=>?_)))))))
 ·refine ts (rm rfl (ro rfl (dG U_27 (Ht rfl) aA) (rm rfl (ro rfl (dG U_27 (Ht rfl) aA) (ro rfl (gX (Ht rfl) (Ht rfl)) (eX (dQ (Ht rfl) (fun hb => ?_) (fun hb => ?_))))))))
  ·simp at hb
   refine cY (rm rfl (rm rfl (ra rfl (ra rfl (eX (aS (n,m) ⟨Nat.add_comm _ _,Nat.le_of_lt hb,hn⟩ (zS rfl) aY))))))
  ·simp at hb
   refine cU (aS (m,n) ⟨rfl,hb,hm⟩ (zS rfl) aY)
 ·refine ts (rm rfl (ro rfl (dG U_27 (Ht rfl) aA) (ro rfl (dV (Ht rfl) (cJ 1) z6) (rn rfl (dC (T := bC 0) (i := Tryz.t24) V_27 gU rfl rfl (Ht rfl) rfl (fun _ => rfl) trivial (by show 4 * _ ≤ _; omega) zo) fun B19 => (ra rfl (eX (ts (ro rfl (cQ (cJ 0)) (eX (cK (ts (ro rfl (cQ (cJ 0)) (eX (eG ?_))))))))))))))
  refine gS (fun (k : Nat) (out : List Nat) (c : Nat) => tO (dg p) (dg q) out k c) (fun (k : Nat) (out : List Nat) (c : Nat) => (dg p).length - k) (fun (k : Nat) (out : List Nat) (c : Nat) => [(0, aB p), (1, aB q), (5, Is (.slice (some ⟨B19, 0, none⟩) ((dg p).length + 1) ((dg p).length + 1))), (6, NT .u64 c), (7, NT .i64 k)]) (fun (k : Nat) (out : List Nat) (c : Nat) => [box B19 24 (out.map bC)]) 0 (List.replicate ((dg p).length + 1) 0) 0 (tO.start _ _)
   (zS rfl) (aU (aD (iO _)) aY) (fun k out c hS=>?_)
  refine cK (ts (rm rfl (rm rfl (ro rfl (dG U_27 (Ht rfl) aA) (ro rfl (gX (Ht rfl) (Ht rfl)) (eX (dQ (Ht rfl) (fun hb=>?_) (fun hb=>?_))))))))
  ·simp at hb
   have hlen:=hS.len; have hcl:=hS.cle; have hxk:=aO (aR p) k; have hyk:=aO (aR q) k
   simp only [BB] at hxk hyk
   refine cU (cK (eG (ts (rm rfl (rm rfl (ro rfl (dZ U_27 Z_24 (Ht rfl) (Ht rfl) rfl (dY (aH zo))) (ro rfl (dJ A_24 Z_24 (Ht rfl)) (ro rfl (gZ U_24 U_274 (Ht rfl) z7) (rm rfl (ro rfl (dV (Ht rfl) (Ht rfl) z7) (ra rfl (eX (cK (iR (fun (s:Nat)=>s = (dg p).getD k 0 + (dg q).getD k 0 + c) (fun (s:Nat)=>[(0,aB p),(1,aB q),(5,Is (.slice (some ⟨B19,0,none⟩) ((dg p).length + 1) ((dg p).length + 1))),(7,NT .i64 k),(8,NT .u64 s)]) (fun (s:Nat)=>[box B19 24 (out.map bC)]) ?_ (fun s hs=>?_)))))))))))))))
   ·refine ts (rm rfl (rm rfl (ro rfl (dG U_27 (Ht rfl) aA) (ro rfl (gX (Ht rfl) (Ht rfl)) (eX (dQ (Ht rfl) (fun hk2 => ?_) (fun hk2 => ?_)))))))
    ·simp at hk2
     refine cY (rm rfl (rm rfl (rm rfl (ro rfl (dZ U_27 Z_24 (Ht rfl) (Ht rfl) rfl (dY (aH zo))) (ro rfl (dJ A_24 Z_24 (Ht rfl)) (ro rfl (gZ U_24 U_274 (Ht rfl) z7) (ro rfl (dV (Ht rfl) (Ht rfl) z7) (ra rfl (eX (aS ((dg p).getD k 0 + c + (dg q).getD k 0) zo (zS rfl) (cF.refl _)))))))))))
    ·simp at hk2
     have hq0:(dg q).getD k 0 = 0:=by simp [List.getD,List.getElem?_eq_none hk2]
     refine cU (aS ((dg p).getD k 0 + c) zo (zS rfl) (cF.refl _))
   ·refine ts (rm rfl (rm rfl (rm rfl (ro rfl (dD rfl U_274 U_24 (Ht rfl)) (ro rfl (fY U_27 Z_24 (Ht rfl) (Ht rfl) rfl zo (by rw [Nat.mul_one, Nat.zero_add])) ?_)))))
    refine iX Z_24 (Ht rfl) (Ht rfl) (i:=0) rfl (by first | omega | (simp; omega)) rfl (eX (cY (rm rfl (ro rfl (cI (Ht rfl) (cJ 32) (by decide)) (ra rfl (eX (bF (cY (rm rfl (ro rfl (dV (Ht rfl) (cJ 1) z6) (ra rfl (eX (fU (k + 1,out.set k (s % 4294967296),s / 4294967296) (by show tO _ _ (out.set k (s % 4294967296)) (k + 1) (s / 4294967296); rw [hs]; exact hS.next (aR p) (aR q) hb) (by dsimp only; omega) (zS rfl) (aU (aD (cT _ _ _)) aY))))))))))))))
  ·simp at hb
   have hkl:k = (dg p).length:=Nat.le_antisymm hS.kle hb
   subst hkl
   have hlen:=hS.len; have hcl:=hS.cle
   refine gV rfl (ts (rm rfl (rm rfl (ro rfl (dG U_27 (Ht rfl) aA) (rm rfl (ro rfl (gZ U_274 U_24 (Ht rfl) (by show _ < 4294967296; first | omega | (simp only [jE]; omega))) (ro rfl (fY U_27 Z_24 (Ht rfl) (Ht rfl) rfl zo (by rw [Nat.mul_one,Nat.zero_add])) ?_)))))))
   refine iX Z_24 (Ht rfl) (Ht rfl) (i:=0) rfl (by first | omega | (simp; omega)) rfl (eX (cK ?_))
   have hfin:=hS.fin hle
   refine gJ (i:=0) (tt:=5) rfl rfl (jD (cT _ _ _) (by simp [hlen]) (Nat.le_refl _)) ?_
   refine cY (rm rfl (ro rfl (cZ K_240 (lC _ (hJ hS.dig (by simp only [BB]; omega)) (by simp [hlen]; omega)) ⟨(Ht rfl),trivial⟩) ?_))
   refine ra rfl (eX (fW rfl (fX (eU rfl) ?_)))
   exact (bH (by rw [hfin,bD,bD]; exact hpq))
theorem xH {m n:Nat} (hm:(dg m).length ≤ 17592186044416) (hnm:n ≤ m):bB Tryz.prog 242 [aB m,aB n] (aB (m - n)):=by
 have hle:=eL hnm
 refine bB.intro Tryz.func242 rfl Tryz.ntmps242 rfl (fun cx=>(ts (ro rfl (cQ cV) (eX (ts (rm rfl (ro rfl (dG U_27 (Ht rfl) aA) (rn rfl (dC (T:=bC 0) (i:=Tryz.t24) V_27 gU rfl rfl (Ht rfl) rfl (fun _=>rfl) trivial (by show 4 * _ ≤ _; omega) zo) fun B11=>(ra rfl (eX (ts (ro rfl (cQ (cJ 0)) (eX (cK (ts (ro rfl (cQ (cJ 0)) (eX (eG ?_))))))))))))))))))
 refine gS (fun (k : Nat) (out : List Nat) (c : Nat) => tT (dg m) (dg n) out k c) (fun (k : Nat) (out : List Nat) (c : Nat) => (dg m).length - k) (fun (k : Nat) (out : List Nat) (c : Nat) => [(0, aB m), (1, aB n), (5, Is (.slice (some ⟨B11, 0, none⟩) (dg m).length (dg m).length)), (6, NT .u64 c), (7, NT .i64 k)]) (fun (k : Nat) (out : List Nat) (c : Nat) => [box B11 24 (out.map bC)]) 0 (List.replicate (dg m).length 0) 0 (tT.start _ _)
  (zS rfl) (aU (aD (iO _)) aY) (fun k out c hS=>?_)
 refine cK (ts (rm rfl (rm rfl (ro rfl (dG U_27 (Ht rfl) aA) (ro rfl (gX (Ht rfl) (Ht rfl)) (eX (dQ (Ht rfl) (fun hb=>?_) (fun hb=>?_))))))))
 ·simp at hb
  have hlen:=hS.len; have hcl:=hS.cle; have hxk:=aO (aR m) k; have hyk:=aO (aR n) k
  simp only [BB] at hxk hyk
  refine cU (cK (eG (ts (rm rfl (rm rfl (ro rfl (dZ U_27 Z_24 (Ht rfl) (Ht rfl) rfl (dY (aH zo))) (ro rfl (dJ A_24 Z_24 (Ht rfl)) (ro rfl (gZ U_24 U_274 (Ht rfl) z7) (rm rfl (ro rfl (jM rfl (Ht rfl) (Ht rfl) (by show _ ≤ 18446744073709551616; first | omega | (simp only [jE]; omega))) (ra rfl (eX (cK (iR (fun (s:Nat)=>s = (((dg m).getD k 0 + 18446744073709551616 - c) % 18446744073709551616 + 18446744073709551616 - (dg n).getD k 0) % 18446744073709551616) (fun (s:Nat)=>[(0,aB m),(1,aB n),(5,Is (.slice (some ⟨B11,0,none⟩) (dg m).length (dg m).length)),(7,NT .i64 k),(8,NT .u64 s)]) (fun (s:Nat)=>[box B11 24 (out.map bC)]) ?_ (fun s hs=>?_)))))))))))))))
  ·refine ts (rm rfl (rm rfl (ro rfl (dG U_27 (Ht rfl) aA) (ro rfl (gX (Ht rfl) (Ht rfl)) (eX (dQ (Ht rfl) (fun hk2 => ?_) (fun hk2 => ?_)))))))
   ·simp at hk2
    refine cY (rm rfl (rm rfl (rm rfl (ro rfl (dZ U_27 Z_24 (Ht rfl) (Ht rfl) rfl (dY (aH zo))) (ro rfl (dJ A_24 Z_24 (Ht rfl)) (ro rfl (gZ U_24 U_274 (Ht rfl) z7) (ro rfl (jM rfl (Ht rfl) (Ht rfl) (by show _ ≤ 18446744073709551616; first | omega | (simp only [jE]; omega))) (ra rfl (eX (aS _ rfl (zS rfl) (cF.refl _)))))))))))
   ·simp at hk2
    have hq0:(dg n).getD k 0 = 0:=by simp [List.getD,List.getElem?_eq_none hk2]
    refine cU (aS (((dg m).getD k 0 + 18446744073709551616 - c) % 18446744073709551616) zo (zS rfl) (cF.refl _))
  ·refine ts (rm rfl (rm rfl (rm rfl (ro rfl (dD rfl U_274 U_24 (Ht rfl)) (ro rfl (fY U_27 Z_24 (Ht rfl) (Ht rfl) rfl zo (by rw [Nat.mul_one, Nat.zero_add])) ?_)))))
   refine iX Z_24 (Ht rfl) (Ht rfl) (i:=0) rfl (by first | omega | (simp; omega)) rfl (eX (cY (rm rfl (ro rfl (cI (Ht rfl) (cJ 63) (by decide)) (ra rfl (eX (bF (cY (rm rfl (ro rfl (dV (Ht rfl) (cJ 1) z6) (ra rfl (eX ?_))))))))))))
   refine fU (k + 1, out.set k (s % 4294967296), s / 9223372036854775808) (by
     show tT _ _ (out.set k (s % 4294967296)) (k + 1) (s / 9223372036854775808)
     have h1:=hS.next (aR m) (aR n) hb
     rw [← show s % 4294967296 = ((dg m).getD k 0 + 8589934592 - (dg n).getD k 0 - c) % 4294967296 by omega,← show s / 9223372036854775808 = (if (dg m).getD k 0 < (dg n).getD k 0 + c then 1 else 0) by (split <;> omega)] at h1
     exact h1) (by dsimp only; omega) (zS rfl) (aU (aD (cT _ _ _)) aY)
 ·simp at hb
  have hkl:k = (dg m).length:=Nat.le_antisymm hS.kle hb
  subst hkl
  have hlen:=hS.len
  have hfin:=hS.fin (aR m) hle (by rw [bD,bD]; exact hnm)
  rw [bD,bD] at hfin
  refine gV rfl (gJ (i:=0) (tt:=5) rfl rfl (jD rfl hlen.symm (Nat.le_refl _)) (ts (rm rfl (ro rfl (cZ K_240 (lC _ hS.dig zo) ⟨(Ht rfl),trivial⟩) (ra rfl (eX (fW rfl (fX (eU rfl) ?_))))))))
  exact (bH hfin)
theorem pD {m n:Nat} (hm:(dg m).length ≤ 17592186044416) (hn:(dg n).length ≤ 17592186044416):bB Tryz.prog 187 [aB m,aB n] (aB (m * n)):=by
 refine bB.intro Tryz.func187 rfl Tryz.ntmps187 rfl (fun cx=>(ts (ro rfl (cQ cV) (eX (ts (rm rfl (ro rfl (dG U_27 (Ht rfl) aA) (rm rfl (ro rfl (dG U_27 (Ht rfl) aA) (ro rfl (dV (Ht rfl) (Ht rfl) z6) (rn rfl (dC (T:=bC 0) (i:=Tryz.t24) V_27 gU rfl rfl (Ht rfl) rfl (fun _=>rfl) trivial (by show 4 * _ ≤ _; omega) zo) fun B15=>(ra rfl (eX (cK (ts (ro rfl (cQ (cJ 0)) (eX (eG ?_))))))))))))))))))
 refine dP (fun (i : Nat) (out : List Nat) => uX (dg m) (dg n) out i) (fun (i : Nat) (out : List Nat) => (dg m).length - i) (fun (i : Nat) (out : List Nat) => [(0, aB m), (1, aB n), (5, Is (.slice (some ⟨B15, 0, none⟩) ((dg m).length + (dg n).length) ((dg m).length + (dg n).length))), (6, NT .i64 i)]) (fun (i : Nat) (out : List Nat) => [box B15 24 (out.map bC)]) 0 (List.replicate ((dg m).length + (dg n).length) 0) (uX.start _ _)
  (zS rfl) (aU (aD (iO _)) aY) (fun i out hS=>?_)
 refine cK (ts (rm rfl (rm rfl (ro rfl (dG U_27 (Ht rfl) aA) (ro rfl (gX (Ht rfl) (Ht rfl)) (eX (dQ (Ht rfl) (fun hb=>?_) (fun hb=>?_))))))))
 ·simp at hb
  have hxi:=aO (aR m) i
  simp only [BB] at hxi
  refine cU (cK (eG (ts (ro rfl (cQ (cJ 0)) (eX (cK (ts (ro rfl (cQ (cJ 0)) (eX (eG ?_))))))))))
  refine gS (fun (k : Nat) (out2 : List Nat) (c : Nat) => Ab (dg m) (dg n) out2 i k c) (fun (k : Nat) (out2 : List Nat) (c : Nat) => (dg n).length - k) (fun (k : Nat) (out2 : List Nat) (c : Nat) => [(0, aB m), (1, aB n), (5, Is (.slice (some ⟨B15, 0, none⟩) ((dg m).length + (dg n).length) ((dg m).length + (dg n).length))), (6, NT .i64 i), (7, NT .u64 c), (8, NT .i64 k)]) (fun (k : Nat) (out2 : List Nat) (c : Nat) => [box B15 24 (out2.map bC)]) 0 out 0 (hS.row hb)
   (zS rfl) (cF.refl _) (fun k out2 c hR=>?_)
  refine cK (ts (rm rfl (rm rfl (ro rfl (dG U_27 (Ht rfl) aA) (ro rfl (gX (Ht rfl) (Ht rfl)) (eX (dQ (Ht rfl) (fun hk=>?_) (fun hk=>?_))))))))
  ·simp at hk
   have hlen:=hR.len; have hcl:=hR.clt; have hyk:=aO (aR n) k; have hok:=aO hR.dig (i + k)
   have hbnd:=pR (aO (aR m) i) (aO (aR n) k) (aO hR.dig (i + k)) hR.clt
   simp only [BB] at hcl hyk hok hbnd
   refine cU (cK (eG (cK (fZ (m:=20) (dp 0 rfl (cX (Ht rfl)) (dp 6 rfl (cX (Ht rfl)) (cP 28 0 29 1 rfl (dZ U_27 Z_24 (Ht rfl) (Ht rfl) rfl (dY (aH zo))) (dq 30 2 rfl (dJ A_24 Z_24 (Ht rfl)) (dq 31 3 rfl (gZ U_24 U_274 (Ht rfl) z7) (dp 1 rfl (cX (Ht rfl)) (dp 8 rfl (cX (Ht rfl)) (cP 33 5 34 6 rfl (dZ U_27 Z_24 (Ht rfl) (Ht rfl) rfl (dY (aH zo))) ?_))))))))))))
   refine dq 35 7 rfl (dJ A_24 Z_24 (Ht rfl)) (dq 36 8 rfl (gZ U_24 U_274 (Ht rfl) z7) (cP 32 4 37 9 rfl (jA (Ht rfl) (Ht rfl) z7) (dp 5 rfl (cX (Ht rfl)) (dp 6 rfl (cX (Ht rfl)) (dp 8 rfl (cX (Ht rfl)) (cP 40 12 41 13 rfl (dV (Ht rfl) (Ht rfl) z6) (cP 39 11 42 14 rfl (fY U_27 Z_24 (Ht rfl) (Ht rfl) rfl zo (by rw [Nat.mul_one,Nat.zero_add])) ?_)))))))
   refine dq 43 15 rfl (eY A_24 Z_24 (Ht rfl) (i:=0) rfl (dY (aH zo))) (dq 44 16 rfl (gZ U_24 U_274 (Ht rfl) z7) (cP 38 10 45 17 rfl (dV (Ht rfl) (Ht rfl) z7) (dp 7 rfl (cX (Ht rfl)) (fV mixed rfl (by kernel_rfl) (zF (zF (zF (zF (zF (aV ?_))))))))))
   refine ro rfl (dV (Ht rfl) (Ht rfl) z7) (ra rfl (eX (ts (rm rfl (rm rfl (rm rfl (ro rfl (dV (Ht rfl) (Ht rfl) z6) (rm rfl (ro rfl (dD rfl U_274 U_24 (Ht rfl)) (ro rfl (fY U_27 Z_24 (Ht rfl) (Ht rfl) rfl zo (by rw [Nat.mul_one,Nat.zero_add])) ?_))))))))))
   refine iX Z_24 (Ht rfl) (Ht rfl) (i:=0) rfl (by first | omega | (simp; omega)) rfl (eX (cY (rm rfl (ro rfl (cI (Ht rfl) (cJ 32) (by decide)) (ra rfl (eX (bF (cY (rm rfl (ro rfl (dV (Ht rfl) (cJ 1) z6) (ra rfl (eX (fU (k + 1,_,_) (hR.next (aR m) (aR n) hk (Nat.add_comm _ _)) (by dsimp only; omega) (zS rfl) (aU (aD (cT _ _ _)) aY))))))))))))))
  ·simp at hk
   have hkl:k = (dg n).length:=Nat.le_antisymm hR.kle hk
   subst hkl
   have hlen:=hR.len; have hcl:=hR.clt
   simp only [BB] at hcl
   refine gV rfl (cY (rm rfl (rm rfl (rm rfl (ro rfl (dG U_27 (Ht rfl) aA) (ro rfl (dV (Ht rfl) (Ht rfl) z6) (rm rfl (ro rfl (gZ U_274 U_24 (Ht rfl) (by show _ < 4294967296; first | omega | (simp only [jE]; omega))) (ro rfl (fY U_27 Z_24 (Ht rfl) (Ht rfl) rfl zo (by rw [Nat.mul_one,Nat.zero_add])) ?_)))))))))
   refine iX Z_24 (Ht rfl) (Ht rfl) (i:=0) rfl (by first | omega | (simp; omega)) rfl (eX (bF (cY (rm rfl (ro rfl (dV (Ht rfl) (cJ 1) z6) (ra rfl (eX (fU (i + 1,_) (hR.fin) (by dsimp only; omega) (zS rfl) (aU (aD (cT _ _ _)) aY)))))))))
 ·simp at hb
  have hkl:i = (dg m).length:=Nat.le_antisymm hS.ile hb
  subst hkl
  have hlen:=hS.len
  have hfin:=hS.fin
  rw [bD,bD] at hfin
  refine gV rfl (gJ (i:=0) (tt:=5) rfl rfl (jD rfl hlen.symm (Nat.le_refl _)) (ts (rm rfl (ro rfl (cZ K_240 (lC _ hS.dig zo) ⟨(Ht rfl),trivial⟩) (ra rfl (eX (fW rfl (fX (eU rfl) ?_))))))))
  exact (bH hfin)
theorem Ar {m y:Nat} (hm:(dg m).length ≤ 17592186044416) (hy:0 < y) (hyb:y < BB):bB Tryz.prog 279 [aB m,bC y] (fT [aB (m / y),bC (m % y)]):=by
 refine bB.intro Tryz.func279 rfl Tryz.ntmps279 rfl (fun cx=>?_)
 have hyb2:=hyb
 simp only [BB] at hyb2
 refine ts (ro rfl (cQ cV) (ro rfl (cQ (cJ 0)) (eX (ts (rm rfl (ro rfl (dG U_27 (Ht rfl) aA) (rn rfl (dC (T:=bC 0) (i:=Tryz.t24) V_27 gU rfl rfl (Ht rfl) rfl (fun _=>rfl) trivial (by show 4 * _ ≤ _; omega) zo) fun B12=>(ra rfl (eX (ts (ro rfl (cQ (cJ 0)) (eX (cK (ts (rm rfl (ro rfl (dG U_27 (Ht rfl) aA) (ro rfl (eR (Ht rfl) cV (nO zo)) (ra rfl (eX (eG ?_))))))))))))))))))))
 refine gS (fun (k : Nat) (out : List Nat) (r : Nat) => lO (dg m) y out k r) (fun (k : Nat) (out : List Nat) (r : Nat) => k) (fun (k : Nat) (out : List Nat) (r : Nat) => [(0, aB m), (1, bC y), (6, Is (.slice (some ⟨B12, 0, none⟩) (dg m).length (dg m).length)), (7, NT .u64 r), (8, aF .i64 ((k : Int) - 1))]) (fun (k : Nat) (out : List Nat) (r : Nat) => [box B12 24 (out.map bC)]) (dg m).length (List.replicate (dg m).length 0) 0 (lO.start _ hy)
  (zS rfl) (aU (aD (iO _)) aY) (fun k out r hS=>?_)
 refine cK (ts (rm rfl (ro rfl (jX (Ht rfl) cV) (eX (dQ (Ht rfl) (fun hb=>?_) (fun hb=>?_))))))
 ·simp at hb
  have hlen:=hS.len; have hkl:=hS.kle; have hrl:=hS.rlt; have hxk:=aO (aR m) (k - 1)
  have hz2:=Nq (Nat.lt_trans hrl hyb) hxk; have hsh:=Co (Nat.lt_trans hrl hyb); have hq:=yG hrl hxk; have hor:=qR (a:=r) hxk; have hmod:=Nat.mod_lt (r * BB + (dg m).getD (k - 1) 0) hy
  have hxk2:=hxk
  simp only [BB] at hxk2
  refine cU (cK (eG (ts (rm rfl (ro rfl (kP (Ht rfl) (cJ 32) (by decide) hsh) (rm rfl (rm rfl (ro rfl (dZ U_27 Z_24 (Ht rfl) (Ht rfl) (show ((k:Int) - 1) = ((k - 1:Nat):Int) by omega) (dY (aH zo))) (ro rfl (dJ A_24 Z_24 (Ht rfl)) (ro rfl (gZ U_24 U_274 (Ht rfl) z7) (ro rfl (aM.nat (lY rfl (Ht rfl) (Ht rfl) z7 z7) hor) ?_)))))))))))
  refine ra rfl (eX (ts (rm rfl (rm rfl (rm rfl (rm rfl (ro rfl (gZ U_24 U_274 (Ht rfl) z7) (ro rfl (gN (Ht rfl) (Ht rfl) zo (by show _ < 18446744073709551616; exact hz2)) (ro rfl (gZ U_274 U_24 (Ht rfl) (by show _ < 4294967296; exact hq)) (ro rfl (fY U_27 Z_24 (Ht rfl) (Ht rfl) (show ((k:Int) - 1) = ((k - 1:Nat):Int) by omega) zo (by rw [Nat.mul_one,Nat.zero_add])) ?_))))))))))
  refine iX Z_24 (Ht rfl) (Ht rfl) (i:=0) rfl (by first | omega | (simp; omega)) rfl (eX (cY (rm rfl (rm rfl (ro rfl (gZ U_24 U_274 (Ht rfl) z7) (ro rfl (kO (Ht rfl) (Ht rfl) zo) (ra rfl (eX (bF (cY (rm rfl (ro rfl (eR (Ht rfl) cV (nO zo)) (ra rfl (eX (fU (k - 1,_,_) (hS.next (aR m) zo rfl) (by dsimp only; omega) (aQ rfl (aQ rfl (aQ rfl (aQ rfl (aZ rfl (aN zo) aX))))) (aU (aD (cT _ _ _)) aY))))))))))))))))
 ·simp at hb
  have hk0:k = 0:=by omega
  subst hk0
  have hlen:=hS.len; have hrl:=hS.rlt
  have hfin:=hS.fin
  rw [bD] at hfin
  refine gV rfl (gJ (i:=0) (tt:=6) rfl rfl (jD rfl hlen.symm (Nat.le_refl _)) (ts (rm rfl (ro rfl (cZ K_240 (lC _ hS.dig zo) ⟨(Ht rfl),trivial⟩) (rm rfl (ro rfl (gZ U_274 U_24 (Ht rfl) (by show _ < 4294967296; first | omega | (simp only [jE]; omega))) (ra rfl (ra rfl (eX (bI rfl (fX (eU rfl) ?_) (fX (eU rfl) ?_)))))))))))
  ·exact (bH hfin.1)
  ·exact (kT hfin.2)
end
section
open Go Go.RowKit
theorem Pa {m:Nat} (hm:(dg m).length ≤ 17592186044416) (h0:m ≠ 0):bB Tryz.prog 280 [aB m] (NT .i64 (32 * ((dg m).length - 1) + bl ((dg m).getD ((dg m).length - 1) 0))):=by
 have hl:(dg m).length ≠ 0:=fun e=>h0 (aI.1 e)
 have htl:=aO (aR m) ((dg m).length - 1)
 obtain ⟨v,hv⟩:∃ v,v = (dg m).getD ((dg m).length - 1) 0:=⟨_,rfl⟩
 rw [← hv] at htl ⊢
 simp only [BB] at htl
 have hb32:=kS (k:=32) htl
 refine bB.intro Tryz.func280 rfl Tryz.ntmps280 rfl (fun cx=>(ts (ro rfl (cQ (cJ 0)) (eX (cK (ts (rm rfl (ro rfl (dG U_27 (Ht rfl) aA) (ro rfl (cE (Ht rfl) (cJ 0)) (eX (mD (Ht rfl) (by simpa using hl) ?_)))))))))))
 refine cU (ts (ro rfl (cQ (cJ 0)) (eX (cK (ts (rm rfl (rm rfl (ro rfl (dG U_27 (Ht rfl) aA) (ro rfl (dW (Ht rfl) (cJ 1) zo z6) (ro rfl (dZ U_27 Z_24 (Ht rfl) (Ht rfl) rfl (dY (aH zo))) (ro rfl (dJ A_24 Z_24 (Ht rfl)) (ra rfl (eX (eG ?_))))))))))))))
 refine dP (fun (x : Nat) (q : Nat) => bl v = q + bl x ∧ x < 4294967296) (fun (x : Nat) (q : Nat) => x) (fun (x : Nat) (q : Nat) => [(0, aB m), (3, NT .i64 q), (4, bC x)]) (fun (x : Nat) (q : Nat) => []) v 0 ⟨(Nat.zero_add _).symm, htl⟩
  (aQ rfl (aQ rfl (aZ rfl (kT hv.symm) aX))) aY (fun x q ⟨hq,hx⟩=>?_)
 refine cK (ts (rm rfl (ro rfl (dM (Ht rfl) (cJ 0)) (eX (dQ (Ht rfl) (fun hb=>?_) (fun hb=>?_))))))
 ·simp at hb
  have hsh:=Oi (v:=x) zo
  refine cU (cK (eG (cY (rm rfl (ro rfl (dV (Ht rfl) (cJ 1) z6) (ra rfl (eX (bF (cY (rm rfl (ro rfl (cI (Ht rfl) (cJ 1) (by decide)) (ra rfl (eX (fU (x / 2 ^ 1,q + 1) ⟨by dsimp only; omega,by dsimp only; omega⟩ (by dsimp only; omega) (zS rfl) aY))))))))))))))
 ·simp at hb
  subst hb
  rw [Oj] at hq
  refine gV rfl (ts (rm rfl (ro rfl (dG U_27 (Ht rfl) aA) (ro rfl (dW (Ht rfl) (cJ 1) zo z6) (ro rfl (jA (cJ 32) (Ht rfl) z6) (rm rfl (ro rfl (dV (Ht rfl) (Ht rfl) z6) (ra rfl (eX (fW rfl (fX (eU rfl) ?_)))))))))))
  exact (kT zo)
theorem Kf {m k:Nat} (hm:(dg m).length ≤ 17592186044416) (hk:k ≤ 562949953421312):bB Tryz.prog 281 [aB m,NT .i64 k] (aB (m * 2 ^ k)):=by
 refine bB.intro Tryz.func281 rfl Tryz.ntmps281 rfl (fun cx=>(ts (ro rfl (cQ cV) (eX (cK (ts (rm rfl (ro rfl (dG U_27 (Ht rfl) aA) (ro rfl (cE (Ht rfl) (cJ 0)) (eX (dQ (Ht rfl) (fun hb=>?_) (fun hb=>?_))))))))))))
 ·simp [aI] at hb
  have h0:m * 2 ^ k = 0:=by simp_all [mU]
  refine ts (ro rfl (cQ cV) (eX (fW rfl (fX (eU rfl) ?_))))
  exact (fun v V h=>by rw [h0]; exact iE v V h)
 ·clear hb
  have hr:=Nat.mod_lt k (by decide:32 > 0)
  refine cU (ts (rm rfl (ro rfl (dG U_27 (Ht rfl) aA) (rm rfl (ro rfl (gN (Ht rfl) (cJ 32) zo z6) (ro rfl (dV (Ht rfl) (Ht rfl) z6) (ro rfl (dV (Ht rfl) (cJ 1) z6) (rn rfl (dC (T:=bC 0) (i:=Tryz.t24) V_27 gU rfl rfl (Ht rfl) rfl (fun _=>rfl) trivial (by show 4 * _ ≤ _; omega) zo) fun B17=>?_))))))))
  refine ra rfl (eX (cK (ts (ro rfl (cQ (cJ 0)) (eX (eG ?_))))))
  refine dP (fun (i : Nat) (out : List Nat) => vA (dg m) (k / 32) (k % 32) out i) (fun (i : Nat) (out : List Nat) => (dg m).length - i) (fun (i : Nat) (out : List Nat) => [(0, aB m), (1, NT .i64 k), (5, Is (.slice (some ⟨B17, 0, none⟩) ((dg m).length + k / 32 + 1) ((dg m).length + k / 32 + 1))), (6, NT .i64 i)]) (fun (i : Nat) (out : List Nat) => [box B17 24 (out.map bC)]) 0 (List.replicate ((dg m).length + k / 32 + 1) 0) (vA.start _ _ _)
   (zS rfl) (aU (aD (iO _)) aY) (fun i out hS=>?_)
  refine cK (ts (rm rfl (rm rfl (ro rfl (dG U_27 (Ht rfl) aA) (ro rfl (gX (Ht rfl) (Ht rfl)) (eX (dQ (Ht rfl) (fun hb=>?_) (fun hb=>?_))))))))
  ·simp at hb
   have hlen:=hS.len; have hxi:=aO (aR m) i; have hok:=aO hS.dig (i + k / 32)
   have hv:=yF hxi hr
   have hd:(dg m).getD i 0 * 2 ^ (k % 32) / 2 ^ 32 < 4294967296:=Nat.div_lt_of_lt_mul hv
   simp only [BB] at hxi hok
   refine cU (cK (eG (ts (rm rfl (rm rfl (ro rfl (dZ U_27 Z_24 (Ht rfl) (Ht rfl) rfl (dY (aH zo))) (ro rfl (dJ A_24 Z_24 (Ht rfl)) (ro rfl (gZ U_24 U_274 (Ht rfl) z7) (rm rfl (ro rfl (kO (Ht rfl) (cJ 32) zo) (ro rfl (gZ U_3 U_275 (Ht rfl) z7) (ro rfl (kP (Ht rfl) (Ht rfl) (by show _ ≤ _; simp [IntKind.bits]; omega) (by show _ < 18446744073709551616; exact hv)) ?_))))))))))))
   refine ra rfl (eX (ts (rm rfl (rm rfl (rm rfl (ro rfl (gN (Ht rfl) (cJ 32) zo z6) (ro rfl (dV (Ht rfl) (Ht rfl) z6) (rm rfl (rm rfl (rm rfl (ro rfl (gN (Ht rfl) (cJ 32) zo z6) (ro rfl (dV (Ht rfl) (Ht rfl) z6) (ro rfl (fY U_27 Z_24 (Ht rfl) (Ht rfl) rfl zo (by rw [Nat.mul_one,Nat.zero_add])) ?_)))))))))))))
   refine ro rfl (eY A_24 Z_24 (Ht rfl) (i:=0) rfl (dY (aH zo))) (rm rfl (ro rfl (dD rfl U_274 U_24 (Ht rfl)) (ro rfl (lY rfl (Ht rfl) (Ht rfl) (by show _ < 4294967296; omega) (by show _ % 4294967296 < 4294967296; omega)) (ro rfl (fY U_27 Z_24 (Ht rfl) (Ht rfl) rfl zo (by rw [Nat.mul_one,Nat.zero_add])) ?_))))
   refine iX Z_24 (Ht rfl) (Ht rfl) (i:=0) rfl (by first | omega | (simp; omega)) rfl (eX (cY (rm rfl (rm rfl (rm rfl (ro rfl (gN (Ht rfl) (cJ 32) zo z6) (ro rfl (dV (Ht rfl) (Ht rfl) z6) (ro rfl (dV (Ht rfl) (cJ 1) z6) (rm rfl (ro rfl (cI (Ht rfl) (cJ 32) (by decide)) (ro rfl (gZ U_274 U_24 (Ht rfl) (by show _ < 4294967296; exact hd)) ?_)))))))))))
   refine ro rfl (fY U_27 Z_24 (Ht rfl) (Ht rfl) rfl zo (by rw [Nat.mul_one,Nat.zero_add])) ?_
   refine iX Z_24 (Ht rfl) (Ht rfl) (i:=0) rfl (by first | omega | (simp; omega)) rfl (eX (bF (cY (rm rfl (ro rfl (dV (Ht rfl) (cJ 1) z6) (ra rfl (eX (fU (i + 1,_) (hS.next (aR m) hr hb rfl rfl) (by dsimp only; omega) (zS rfl) (aU (aD (Cm _ _ _ _ _)) aY)))))))))
  ·simp at hb
   have hkl:i = (dg m).length:=Nat.le_antisymm hS.kle hb
   subst hkl
   have hlen:=hS.len
   have hfin:=hS.fin
   rw [bD,jS] at hfin
   refine gV rfl (gJ (i:=0) (tt:=5) rfl rfl (jD rfl hlen.symm (Nat.le_refl _)) (ts (rm rfl (ro rfl (cZ K_240 (lC _ hS.dig zo) ⟨(Ht rfl),trivial⟩) (ra rfl (eX (fW rfl (fX (eU rfl) ?_))))))))
   exact (bH hfin)
theorem Uv {m k:Nat} (hm:(dg m).length ≤ 17592186044416) (hk:k ≤ 562949953421312):bB Tryz.prog 282 [aB m,NT .i64 k] (aB (m / 2 ^ k)):=by
 refine bB.intro Tryz.func282 rfl Tryz.ntmps282 rfl (fun cx=>?_)
 have hr:=Nat.mod_lt k (by decide:32 > 0)
 refine ts (ro rfl (cQ cV) (eX (cK (ts (rm rfl (ro rfl (gN (Ht rfl) (cJ 32) zo z6) (rm rfl (ro rfl (dG U_27 (Ht rfl) aA) (ro rfl (mN (Ht rfl) (Ht rfl)) (eX (dQ (Ht rfl) (fun hb=>?_) (fun hb=>?_))))))))))))
 ·simp at hb
  have h0:=Cq (aR m) hb (r:=k % 32)
  rw [bD,jS] at h0
  refine ts (ro rfl (cQ cV) (eX (fW rfl (fX (eU rfl) ?_))))
  exact (fun v V h=>bH h0.symm v V (iE v V h))
 ·simp at hb
  refine cU (ts (rm rfl (ro rfl (dG U_27 (Ht rfl) aA) (rm rfl (ro rfl (gN (Ht rfl) (cJ 32) zo z6) (ro rfl (dW (Ht rfl) (Ht rfl) zo z6) (rn rfl (dC (T:=bC 0) (i:=Tryz.t24) V_27 gU rfl rfl (Ht rfl) rfl (fun _=>rfl) trivial (by show 4 * _ ≤ _; omega) zo) fun B18=>(ra rfl (eX (cK (ts (ro rfl (cQ (cJ 0)) (eX (eG ?_))))))))))))))
  refine dP (fun (i : Nat) (out : List Nat) => vB (dg m) (k / 32) (k % 32) out i) (fun (i : Nat) (out : List Nat) => (dg m).length - i) (fun (i : Nat) (out : List Nat) => [(0, aB m), (1, NT .i64 k), (5, Is (.slice (some ⟨B18, 0, none⟩) ((dg m).length - k / 32) ((dg m).length - k / 32))), (6, NT .i64 i)]) (fun (i : Nat) (out : List Nat) => [box B18 24 (out.map bC)]) 0 (List.replicate ((dg m).length - k / 32) 0) (vB.start _ _ _)
   (zS rfl) (aU (aD (iO _)) aY) (fun i out hS=>?_)
  refine cK (ts (rm rfl (rm rfl (ro rfl (iZ U_27 (Ht rfl)) (ro rfl (gX (Ht rfl) (Ht rfl)) (eX (dQ (Ht rfl) (fun hb=>?_) (fun hb=>?_))))))))
  ·simp at hb
   have hlen:=hS.len; have hx0:=aO (aR m) (i + k / 32); have hx1:=aO (aR m) (i + k / 32 + 1)
   have hio:i < out.length:=by omega
   simp only [BB] at hx0 hx1
   refine cU (cK (eG (ts (rm rfl (rm rfl (rm rfl (ro rfl (gN (Ht rfl) (cJ 32) zo z6) (ro rfl (dV (Ht rfl) (Ht rfl) z6) (ro rfl (dZ U_27 Z_24 (Ht rfl) (Ht rfl) rfl (dY (aH zo))) (ro rfl (dJ A_24 Z_24 (Ht rfl)) (ro rfl (gZ U_24 U_274 (Ht rfl) z7) ?_)))))))))))
   refine ra rfl (eX (cK (iR (fun (v:Nat)=>v = (dg m).getD (i + k / 32) 0 + BB * (dg m).getD (i + k / 32 + 1) 0) (fun (v:Nat)=>[(0,aB m),(1,NT .i64 k),(5,Is (.slice (some ⟨B18,0,none⟩) ((dg m).length - k / 32) ((dg m).length - k / 32))),(6,NT .i64 i),(7,NT .u64 v)]) (fun (v:Nat)=>[box B18 24 (out.map bC)]) ?_ (fun v hv=>?_))))
   ·refine ts (rm rfl (rm rfl (ro rfl (gN (Ht rfl) (cJ 32) zo z6) (ro rfl (dV (Ht rfl) (Ht rfl) z6) (ro rfl (dV (Ht rfl) (cJ 1) z6) (rm rfl (ro rfl (dG U_27 (Ht rfl) aA) (ro rfl (gX (Ht rfl) (Ht rfl)) (eX (dQ (Ht rfl) (fun hk2 => ?_) (fun hk2 => ?_)))))))))))
    ·simp at hk2
     refine cY (rm rfl (rm rfl (rm rfl (rm rfl (ro rfl (gN (Ht rfl) (cJ 32) zo z6) (ro rfl (dV (Ht rfl) (Ht rfl) z6) (ro rfl (dV (Ht rfl) (cJ 1) z6) (ro rfl (dZ U_27 Z_24 (Ht rfl) (Ht rfl) rfl (dY (aH zo))) (ro rfl (dJ A_24 Z_24 (Ht rfl)) (ro rfl (gZ U_24 U_274 (Ht rfl) z7) ?_))))))))))
     refine ro rfl (kP (Ht rfl) (cJ 32) (by decide) (by show _ < 18446744073709551616; omega)) (ro rfl (aM.nat (lY rfl (Ht rfl) (Ht rfl) z7 z7) (Gz hx0)) (ra rfl (eX (aS ((dg m).getD (i + k / 32) 0 + BB * (dg m).getD (i + k / 32 + 1) 0) rfl (zS rfl) (cF.refl _)))))
    ·simp at hk2
     refine cU (aS ((dg m).getD (i + k / 32) 0) (by simp [List.getD,List.getElem?_eq_none hk2]) (zS rfl) (cF.refl _))
   ·refine cY (rm rfl (rm rfl (rm rfl (rm rfl (ro rfl (kO (Ht rfl) (cJ 32) zo) (ro rfl (gZ U_3 U_275 (Ht rfl) z7) (ro rfl (cI (Ht rfl) (Ht rfl) (by show _ ≤ 64; omega)) (ro rfl (dD rfl U_274 U_24 (Ht rfl)) (ro rfl (fY U_27 Z_24 (Ht rfl) (Ht rfl) rfl zo (by rw [Nat.mul_one, Nat.zero_add])) ?_)))))))))
    refine iX Z_24 (Ht rfl) (Ht rfl) (i:=0) rfl (by first | omega | (simp; omega)) rfl (eX (bF (cY (rm rfl (ro rfl (dV (Ht rfl) (cJ 1) z6) (ra rfl (eX (fU (i + 1,_) (hS.next (aR m) hr hio (by rw [hv]; rfl)) (by dsimp only; omega) (zS rfl) (aU (aD (cT _ _ _)) aY)))))))))
  ·simp at hb
   have hlen:=hS.len
   have hkl:i = out.length:=Nat.le_antisymm hS.kle zo
   subst hkl
   have hfin:=hS.fin (aR m) zo
   rw [bD,jS] at hfin
   refine gV rfl (gJ (i:=0) (tt:=5) rfl rfl (jD rfl hlen.symm (Nat.le_refl _)) (ts (rm rfl (ro rfl (cZ K_240 (lC _ hS.dig zo) ⟨(Ht rfl),trivial⟩) (ra rfl (eX (fW rfl (fX (eU rfl) ?_))))))))
   exact (bH hfin)
theorem sE {m n:Nat} (hm:(dg m).length ≤ 17592186044415) (hn1:(dg n).length ≤ 17592186044416) (hn:n ≠ 0):bB Tryz.prog 238 [aB m,aB n] (fT [aB (m / n),aB (m % n)]):=by
 refine bB.intro Tryz.func238 rfl Tryz.ntmps238 rfl (fun cx=>(ts (ro rfl (cQ cV) (ro rfl (cQ cV) (eX (cK (ts (rm rfl (rm rfl (ro rfl (cZ Tryz.call225 (xG zo zo) ⟨(Ht rfl),(Ht rfl),trivial⟩) (ro rfl (iK (Ht rfl) cV) (eX (dQ (Ht rfl) (fun hb=>?_) (fun hb=>?_))))))))))))))
 ·simp only [decide_eq_true_eq] at hb
  have hlt:m < n:=yY hb
  refine ts (rm rfl (ro rfl (cQ cV) (ra rfl (eX (bI rfl (fX (eU rfl) ?_) (fX (eU rfl) ?_))))))
  ·exact (fun v V h=>bH (Nat.div_eq_of_lt hlt).symm v V (iE v V h))
  ·exact (bH (Nat.mod_eq_of_lt hlt).symm)
 ·simp only [decide_eq_false_iff_not] at hb
  have hle:n ≤ m:=yX zo
  clear hb
  refine cU (cK (ts (rm rfl (ro rfl (dG U_27 (Ht rfl) aA) (ro rfl (cE (Ht rfl) (cJ 1)) (eX (dQ (Ht rfl) (fun h1=>?_) (fun h1=>?_))))))))
  ·simp at h1
   have hy0:=Ks h1
   have hyb:=aO (aR n) 0
   have hmod:=Nat.mod_lt m (show (dg n).getD 0 0 > 0 by omega)
   have hyb2:=hyb
   simp only [BB] at hyb
   refine ts (rm rfl (rm rfl (ro rfl (dZ U_27 Z_24 (Ht rfl) (cJ 0) rfl (dY (aH zo))) (ro rfl (dJ A_24 Z_24 (Ht rfl)) (ro rfl (cZ Tryz.call279 (Ar zo zo hyb2) ⟨(Ht rfl),(Ht rfl),trivial⟩) (rm rfl (ro rfl (dK (Ht rfl) rfl) (ro rfl (dK (Ht rfl) rfl) (ra rfl (ra rfl (eX (ts (rm rfl (rm rfl (ro rfl (gZ U_24 U_274 (Ht rfl) z7) (ro rfl (cZ Tryz.call235 (vF zo) ⟨(Ht rfl),trivial⟩) ?_))))))))))))))))
   refine ra rfl (ra rfl (eX (bI rfl (fX (eU rfl) ?_) (fX (eU rfl) ?_))))
   ·exact (bH (by rw [hy0]))
   ·exact (bH (by rw [hy0]))
  ·simp at h1
   have hl0:(dg n).length ≠ 0:=fun e=>hn (aI.1 e)
   have hyb:=aO (aR n) ((dg n).length - 1)
   obtain ⟨s,hs⟩:∃ s,s = 32 - bl ((dg n).getD ((dg n).length - 1) 0):=⟨_,rfl⟩
   obtain ⟨hs1,hvl,hvb⟩:=Ba hn hs
   obtain ⟨hc1,hc2,hc3,hc4⟩:=Av (m:=m) hs1
   have hbl:=kS (k:=32) hyb
   simp only [BB] at hyb
   have hp2:0 < 2 ^ s:=Nat.pow_pos (by decide)
   have hX0:(dg (m * 2 ^ s)).length ≠ 0:=fun e=>(Nat.ne_of_gt (Nat.mul_pos (show 0 < m by omega) hp2)) (aI.1 e)
   have hmono:=eL hle
   refine cU (ts (rm rfl (ro rfl (dG U_27 (Ht rfl) aA) (ro rfl (jA (cJ 32) (Ht rfl) z6) (rm rfl (ro rfl (cZ Tryz.call280 (Pa zo hn) ⟨(Ht rfl),trivial⟩) (ro rfl (aM.nat (dW (Ht rfl) (Ht rfl) zo z6) (show 32 * (dg n).length - (32 * ((dg n).length - 1) + bl ((dg n).getD ((dg n).length - 1) 0)) = s by omega)) (ra rfl (eX (ts (rm rfl (rm rfl (ro rfl (cZ Tryz.call281 (Kf zo zo) ⟨(Ht rfl),(Ht rfl),trivial⟩) ?_)))))))))))))
   refine ra rfl (eX (ts (rm rfl (ro rfl (dG U_27 (Ht rfl) aA) (ro rfl (dV (Ht rfl) (cJ 1) z6) (rn rfl (dC (T:=bC 0) (i:=Tryz.t24) V_27 gU rfl rfl (Ht rfl) rfl (fun _=>rfl) trivial (by show 4 * _ ≤ _; omega) zo) fun B57=>(ra rfl (eX (ts (rm rfl (rm rfl (rm rfl (ro rfl (cZ Tryz.call281 (Kf zo zo) ⟨(Ht rfl),(Ht rfl),trivial⟩) (Ex U_27 Z_24 (Ht rfl) (Ht rfl) (Lp hX0) Th (i:=0) rfl (by simp) (by simp; omega) (Aw _ _) rfl rfl ?_))))))))))))))
   refine eX (cK ?_)
   obtain ⟨vs,hvs⟩:∃ vs,vs = dg (n * 2 ^ s):=⟨_,rfl⟩
   rw [← hvs] at hvl hvb
   have hv:iL vs:=hvs ▸ aR _
   have hvv:val vs = n * 2 ^ s:=by rw [hvs,bD]
   have hV0:0 < val vs:=by rw [hvv]; exact Nat.mul_pos zo hp2
   have hnr:=Gr hv zo hvb
   have hv1:=hnr.v1lt; have hv2:=hnr.v2lt; have hbig:=hnr.big
   simp only [BB] at hv1 hv2 hbig
   refine lQ (E':=[(8,_),(9,_),(10,_)]) (aQ rfl (aZ rfl (Ve hvs.symm) (zS rfl))) (cY (rm rfl (ro rfl (dG U_27 (Ht rfl) aA) (ra rfl (eX (ts (rm rfl (ro rfl (iZ U_27 (Ht rfl)) (rm rfl (ro rfl (dW (Ht rfl) (Ht rfl) zo z6) (rn rfl (dC (T:=bC 0) (i:=Tryz.t24) V_27 gU rfl rfl (Ht rfl) rfl (fun _=>rfl) trivial (by show 4 * _ ≤ _; omega) zo) fun B69=>(ra rfl (eX (cK ?_))))))))))))))
   refine ts (rm rfl (ro rfl (iZ U_27 (Ht rfl)) (ro rfl (eR (Ht rfl) cV (nO zo)) (ra rfl (eX (eG ?_))))))
   refine gS (fun (k : Nat) (us : List Nat) (qs : List Nat) => kY (m * 2 ^ s) vs us qs k ∧ us.length = (dg m).length + 1) (fun (k : Nat) (us : List Nat) (qs : List Nat) => k) (fun (k : Nat) (us : List Nat) (qs : List Nat) => [(8, NT .i64 s), (9, qH vs), (10, Is (.slice (some ⟨B57, 0, none⟩) ((dg m).length + 1) ((dg m).length + 1))), (11, NT .i64 vs.length), (12, Is (.slice (some ⟨B69, 0, none⟩) ((dg m).length + 1 - vs.length) ((dg m).length + 1 - vs.length))), (13, aF .i64 ((k : Int) - 1))]) (fun (k : Nat) (us : List Nat) (qs : List Nat) => [box B57 24 (us.map bC), box B69 24 (qs.map bC)]) ((dg m).length + 1 - vs.length) (vM m s) (List.replicate ((dg m).length + 1 - vs.length) 0) ⟨kY.start hv zo hvb hs1 (by have := gA (aR m); rwa [bD] at this) hc3 hc2 hc4 zo, hc2⟩
    (aQ rfl (aQ rfl (aQ rfl (aQ rfl (aQ rfl (aZ rfl (aN zo) aX)))))) (aU (fun _ _ _ h=>h) (aU (aD (iO _)) aY)) (fun k us qs ⟨hS,hus⟩=>?_)
   refine cK (ts (rm rfl (ro rfl (jX (Ht rfl) cV) (eX (dQ (Ht rfl) (fun hk=>?_) (fun hk=>?_))))))
   ·simp at hk
    obtain ⟨j,rfl⟩:∃ j,k = j + 1:=⟨k - 1,by omega⟩
    have htp:=hS.top hv zo (Nat.succ_pos j) rfl
    have hkq:=hS.kle; have hlq:=hS.lenq
    rw [Nat.add_sub_cancel] at htp
    have hu0:=aO hS.dig (j + vs.length); have hu1:=aO hS.dig (j + vs.length - 1); have hu2:=aO hS.dig (j + vs.length - 2)
    have ht64:=Nq hu0 hu1; have hsh:=Co hu0
    obtain ⟨top,htop⟩:∃ top,top = us.getD (j + vs.length) 0 * BB + us.getD (j + vs.length - 1) 0:=⟨_,rfl⟩
    have hor:=(qR (a:=us.getD (j + vs.length) 0) hu1).trans htop.symm
    rw [← htop] at htp ht64
    have hu2b:=hu2
    simp only [BB] at hu0 hu1 hu2
    refine lQ (E':=[(8,_),(9,_),(10,_),(11,_),(12,_),(13,_),(73,_),(74,_)]) (aQ rfl (aQ rfl (aQ rfl (aQ rfl (aQ rfl (aZ rfl (aN (show ((j + 1:Nat):Int) - 1 = (j:Int) by omega)) (zS rfl))))))) (cU (cK (eG (cK (fZ (m:=16) (dp 10 rfl (cX (Ht rfl)) (dp 13 rfl (cX (Ht rfl)) (dp 11 rfl (cX (Ht rfl)) (cP 78 1 79 2 rfl (dV (Ht rfl) (Ht rfl) z6) (cP 77 0 80 3 rfl (fY U_27 Z_24 (Ht rfl) (Ht rfl) rfl zo (by rw [Nat.mul_one,Nat.zero_add])) ?_))))))))))
    refine dq 81 4 rfl (eY A_24 Z_24 (Ht rfl) (i:=0) rfl (dY (aH zo))) (dq 82 5 rfl (gZ U_24 U_274 (Ht rfl) z7) (dq 83 6 rfl (kP (Ht rfl) (cJ 32) (by decide) hsh) (dp 10 rfl (cX (Ht rfl)) (dp 13 rfl (cX (Ht rfl)) (dp 11 rfl (cX (Ht rfl)) (cP 86 9 87 10 rfl (dV (Ht rfl) (Ht rfl) z6) (dq 88 11 rfl (dW (Ht rfl) (cJ 1) zo z6) ?_)))))))
    refine cP 85 8 89 12 rfl (fY U_27 Z_24 (Ht rfl) (Ht rfl) rfl zo (by rw [Nat.mul_one,Nat.zero_add])) ?_
    refine dq 90 13 rfl (eY A_24 Z_24 (Ht rfl) (i:=0) rfl (dY (aH zo))) (dq 91 14 rfl (gZ U_24 U_274 (Ht rfl) z7) (fV mixed rfl (by kernel_rfl) (zF (zF (zF (zF (aV (ro rfl (aM.nat (lY rfl (Ht rfl) (Ht rfl) z7 z7) hor) ?_))))))))
    refine ra rfl (eX (ts (rm rfl (rm rfl (rm rfl (ro rfl (dW (Ht rfl) (cJ 1) zo z6) (ro rfl (dZ U_27 Z_24 (Ht rfl) (Ht rfl) rfl (dY (aH zo))) (ro rfl (dJ A_24 Z_24 (Ht rfl)) (ro rfl (gZ U_24 U_274 (Ht rfl) z7) (ro rfl (gN (Ht rfl) (Ht rfl) zo (by show _ < 18446744073709551616; exact ht64)) (ra rfl (eX ?_))))))))))))
    refine ts (rm rfl (rm rfl (rm rfl (ro rfl (dW (Ht rfl) (cJ 1) zo z6) (ro rfl (dZ U_27 Z_24 (Ht rfl) (Ht rfl) rfl (dY (aH zo))) (ro rfl (dJ A_24 Z_24 (Ht rfl)) (ro rfl (gZ U_24 U_274 (Ht rfl) z7) (ro rfl (kO (Ht rfl) (Ht rfl) zo) (ra rfl (eX (cK (iR (fun (g:Nat)=>Dc (val (us.drop j)) (val vs) g) (fun (g:Nat)=>[(8,NT .i64 s),(9,qH vs),(10,Is (.slice (some ⟨B57,0,none⟩) ((dg m).length + 1) ((dg m).length + 1))),(11,NT .i64 vs.length),(12,Is (.slice (some ⟨B69,0,none⟩) ((dg m).length + 1 - vs.length) ((dg m).length + 1 - vs.length))),(13,NT .i64 j),(15,NT .u64 g)]) (fun (g:Nat)=>[box B57 24 (us.map bC),box B69 24 (qs.map bC)]) ?_ (fun g hg=>?_)))))))))))))
    ·refine eG ?_
     refine dP (fun (g : Nat) (r : Nat) => jO (val (us.drop j)) (val vs) (vs.getD (vs.length - 1) 0) top g r ∧ r < 4294967296) (fun (g : Nat) (r : Nat) => g) (fun (g : Nat) (r : Nat) => [(8, NT .i64 s), (9, qH vs), (10, Is (.slice (some ⟨B57, 0, none⟩) ((dg m).length + 1) ((dg m).length + 1))), (11, NT .i64 vs.length), (12, Is (.slice (some ⟨B69, 0, none⟩) ((dg m).length + 1 - vs.length) ((dg m).length + 1 - vs.length))), (13, NT .i64 j), (15, NT .u64 g), (16, NT .u64 r)]) (fun (g : Nat) (r : Nat) => [box B57 24 (us.map bC), box B69 24 (qs.map bC)]) (top / vs.getD (vs.length - 1) 0) (top % vs.getD (vs.length - 1) 0) ⟨jO.start hnr htp, Nat.lt_trans (Nat.mod_lt _ zo) hv1⟩
      (zS rfl) (cF.refl _) (fun g r ⟨hG,hr⟩=>?_)
     have hgl:=(hG.glt hnr htp).1
     have hrs:=Co (a:=r) hr
     have horr:=qR (a:=r) hu2b
     simp only [BB] at hgl
     refine cK (cK (fZ (m:=22) (dp 15 rfl (cX (Ht rfl)) (dq 110 0 rfl (mN (Ht rfl) (cJ 4294967296)) (dq 111 1 rfl (cX (Ht rfl)) (C.D_step (Ei:=[(15,_),(112,_)]) rfl rfl (bV (bK rfl rfl) (bV (bG 2 rfl rfl) bW)) (eK rfl rfl (Ht rfl) (fun h=>cX (Ht rfl))) (C.D_step (Ei:=[(9,_),(112,_)]) rfl rfl (bV (bK rfl rfl) (bV (bG 2 rfl rfl) bW)) (eK rfl rfl (Ht rfl) (fun h=>cX (Ht rfl))) (C.D_step (Ei:=[(11,_),(112,_)]) rfl rfl (bV (bK rfl rfl) (bV (bG 2 rfl rfl) bW)) (eK rfl rfl (Ht rfl) (fun h=>cX (Ht rfl))) ?_))))))))
     refine C.D_step (Ei:=[(115,_),(112,_)]) rfl rfl (bV (bG 5 rfl rfl) (bV (bG 2 rfl rfl) bW)) (eK rfl rfl (Ht rfl) (fun h=>dW (fJ rfl h) (cJ 2) (by first | omega | (simp at h; omega)) (by show _ < 9223372036854775808; first | omega | (simp at h; omega)))) (C.D_step (Ei:=[(114,_),(116,_),(112,_)]) rfl rfl (bV (bG 4 rfl rfl) (bV (bG 6 rfl rfl) (bV (bG 2 rfl rfl) bW))) (eK rfl rfl (Ht rfl) (fun h=>dZ U_27 Z_24 (fJ rfl h) (fJ rfl h) rfl (dY (aH (by first | omega | (simp at h; omega)))))) ?_)
     refine C.D_step (Ei:=[(117,_),(112,_)]) rfl rfl (bV (bG 7 rfl rfl) (bV (bG 2 rfl rfl) bW)) (eK rfl rfl (Ht rfl) (fun h=>dJ A_24 Z_24 (fJ rfl h))) (C.D_step (Ei:=[(118,_),(112,_)]) rfl rfl (bV (bG 8 rfl rfl) (bV (bG 2 rfl rfl) bW)) (eK rfl rfl (Ht rfl) (fun h=>gZ U_24 U_274 (fJ rfl h) (by show _ < 18446744073709551616; first | omega | (simp at h; omega)))) (C.D_step (Ei:=[(113,_),(119,_),(112,_)]) rfl rfl (bV (bG 3 rfl rfl) (bV (bG 9 rfl rfl) (bV (bG 2 rfl rfl) bW))) (eK rfl rfl (Ht rfl) (fun h=>jA (fJ rfl h) (fJ rfl h) (by show _ < 18446744073709551616; simp at h; exact Te h hv2))) ?_))
     refine C.D_step (Ei:=[(16,_),(112,_)]) rfl rfl (bV (bK rfl rfl) (bV (bG 2 rfl rfl) bW)) (eK rfl rfl (Ht rfl) (fun h=>cX (Ht rfl))) (C.D_step (Ei:=[(121,_),(112,_)]) rfl rfl (bV (bG 11 rfl rfl) (bV (bG 2 rfl rfl) bW)) (eK rfl rfl (Ht rfl) (fun h=>kP (fJ rfl h) (cJ 32) (by decide) hrs)) (C.D_step (Ei:=[(10,_),(112,_)]) rfl rfl (bV (bK rfl rfl) (bV (bG 2 rfl rfl) bW)) (eK rfl rfl (Ht rfl) (fun h=>cX (Ht rfl))) (C.D_step (Ei:=[(13,_),(112,_)]) rfl rfl (bV (bK rfl rfl) (bV (bG 2 rfl rfl) bW)) (eK rfl rfl (Ht rfl) (fun h=>cX (Ht rfl))) ?_)))
     refine C.D_step (Ei:=[(11,_),(112,_)]) rfl rfl (bV (bK rfl rfl) (bV (bG 2 rfl rfl) bW)) (eK rfl rfl (Ht rfl) (fun h=>cX (Ht rfl))) (C.D_step (Ei:=[(124,_),(125,_),(112,_)]) rfl rfl (bV (bG 14 rfl rfl) (bV (bG 15 rfl rfl) (bV (bG 2 rfl rfl) bW))) (eK rfl rfl (Ht rfl) (fun h=>dV (fJ rfl h) (fJ rfl h) (by show _ < 9223372036854775808; first | omega | (simp at h; omega)))) (C.D_step (Ei:=[(126,_),(112,_)]) rfl rfl (bV (bG 16 rfl rfl) (bV (bG 2 rfl rfl) bW)) (eK rfl rfl (Ht rfl) (fun h=>dW (fJ rfl h) (cJ 2) (by first | omega | (simp at h; omega)) (by show _ < 9223372036854775808; first | omega | (simp at h; omega)))) ?_))
     refine C.D_step (Ei:=[(123,_),(127,_),(112,_)]) rfl rfl (bV (bG 13 rfl rfl) (bV (bG 17 rfl rfl) (bV (bG 2 rfl rfl) bW))) (eK rfl rfl (Ht rfl) (fun h=>fY U_27 Z_24 (fJ rfl h) (fJ rfl h) rfl (by first | omega | (simp at h; omega)) (by rw [Nat.mul_one,Nat.zero_add]))) ?_
     refine C.D_step (Ei:=[(128,_),(112,_)]) rfl rfl (bV (bG 18 rfl rfl) (bV (bG 2 rfl rfl) bW)) (eK rfl rfl (Ht rfl) (fun h=>eY A_24 Z_24 (fJ rfl h) (i:=0) rfl (dY (aH zo)))) (C.D_step (Ei:=[(129,_),(112,_)]) rfl rfl (bV (bG 19 rfl rfl) (bV (bG 2 rfl rfl) bW)) (eK rfl rfl (Ht rfl) (fun h=>gZ U_24 U_274 (fJ rfl h) (by show _ < 18446744073709551616; first | omega | (simp at h; omega)))) (C.D_step (Ei:=[(122,_),(130,_),(112,_)]) rfl rfl (bV (bG 12 rfl rfl) (bV (bG 20 rfl rfl) (bV (bG 2 rfl rfl) bW))) (eK rfl rfl (Ht rfl) (fun h=>aM.nat (lY rfl (fJ rfl h) (fJ rfl h) (by show _ < 18446744073709551616; first | omega | (simp at h; omega)) (by show _ < 18446744073709551616; first | omega | (simp at h; omega))) horr)) ?_))
     refine fV mixed rfl (by kernel_rfl) (zF (zF (zF (zF (zF (aJ (aJ (aV (fQ rfl rfl (eK rfl rfl (Ht rfl) (fun h=>dM (fJ rfl h) (fJ rfl h))) (ro rfl (eE (Ht rfl) (fun h=>(fJ rfl h))) (eX (dQ (Ht rfl) (fun hc=>?_) (fun hc=>?_)))))))))))))
     ·have hn2 := hG.next hnr htp (by simpa [BB] using hc)
      have hg1:=hn2.2
      refine cU (eG (ts (rm rfl (ro rfl (dW (Ht rfl) (cJ 1) zo z7) (ra rfl (eX (ts (rm rfl (rm rfl (rm rfl (ro rfl (dW (Ht rfl) (cJ 1) zo z6) (ro rfl (dZ U_27 Z_24 (Ht rfl) (Ht rfl) rfl (dY (aH zo))) (ro rfl (dJ A_24 Z_24 (Ht rfl)) (ro rfl (gZ U_24 U_274 (Ht rfl) z7) ?_))))))))))))))
      refine ro rfl (dV (Ht rfl) (Ht rfl) z7) (ra rfl (eX (ts (rm rfl (ro rfl (mN (Ht rfl) (cJ 4294967296)) (eX (dQ (Ht rfl) (fun hr2=>?_) (fun hr2=>?_))))))))
      ·simp at hr2
       refine gV rfl (aS (g - 1) (hn2.1.stop hnr htp hr2) (zS rfl) (cF.refl _))
      ·simp at hr2
       refine cU (bF (fU (g - 1,_) ⟨hn2.1,hr2⟩ (by dsimp only; omega) (zS rfl) (cF.refl _)))
     ·simp at hc
      refine gV rfl (aS g (hG.done hnr htp hc.1 hc.2) (zS rfl) (cF.refl _))
    ·have hglt := hg.lt
     have hglt2:=hg.lt
     simp only [BB] at hglt
     have hjl:j + vs.length < us.length:=by omega
     refine ts (ro rfl (cQ (cJ 0)) (eX (ts (ro rfl (cQ (cJ 0)) (eX (cK (ts (ro rfl (cQ (cJ 0)) (eX (eG ?_))))))))))
     refine uA (fun (i : Nat) (out : List Nat) (c : Nat) (b : Nat) => nX us vs g j out i c b) (fun (i : Nat) (out : List Nat) (c : Nat) (b : Nat) => vs.length - i) (fun (i : Nat) (out : List Nat) (c : Nat) (b : Nat) => [(8, NT .i64 s), (9, qH vs), (10, Is (.slice (some ⟨B57, 0, none⟩) ((dg m).length + 1) ((dg m).length + 1))), (11, NT .i64 vs.length), (12, Is (.slice (some ⟨B69, 0, none⟩) ((dg m).length + 1 - vs.length) ((dg m).length + 1 - vs.length))), (13, NT .i64 j), (15, NT .u64 g), (17, NT .u64 b), (18, NT .u64 c), (19, NT .i64 i)]) (fun (i : Nat) (out : List Nat) (c : Nat) (b : Nat) => [box B57 24 (out.map bC), box B69 24 (qs.map bC)]) 0 us 0 0 (nX.start hS.dig vs g j)
      (zS rfl) (cF.refl _) (fun i out c b hT=>?_)
     refine cK (ts (rm rfl (rm rfl (ro rfl (gX (Ht rfl) (Ht rfl)) (eX (dQ (Ht rfl) (fun hi=>?_) (fun hi=>?_)))))))
     ·simp at hi
      have hlen:=hT.len; have hcl:=hT.clt; have hbl:=hT.ble; have hvi:=aO hv i; have hok:=aO hT.dig (i + j)
      have hp:=Ep hglt2 hvi hT.clt
      simp only [BB] at hp hcl hvi hok
      obtain ⟨p,hp1⟩:∃ p,p = g * vs.getD i 0 + c:=⟨_,rfl⟩
      obtain ⟨x,hx1⟩:∃ x,x = ((out.getD (i + j) 0 + 18446744073709551616 - p % 4294967296) % 18446744073709551616 + 18446744073709551616 - b) % 18446744073709551616:=⟨_,rfl⟩
      refine cU (cK (eG (ts (rm rfl (rm rfl (rm rfl (ro rfl (dZ U_27 Z_24 (Ht rfl) (Ht rfl) rfl (dY (aH zo))) (ro rfl (dJ A_24 Z_24 (Ht rfl)) (ro rfl (gZ U_24 U_274 (Ht rfl) z7) (ro rfl (jA (Ht rfl) (Ht rfl) z7) (rm rfl (ro rfl (aM.nat (dV (Ht rfl) (Ht rfl) z7) hp1.symm) ?_))))))))))))
      refine ra rfl (eX (ts (rm rfl (ro rfl (cI (Ht rfl) (cJ 32) (by decide)) (ra rfl (eX (ts (rm rfl (rm rfl (rm rfl (ro rfl (dV (Ht rfl) (Ht rfl) z6) (ro rfl (fY U_27 Z_24 (Ht rfl) (Ht rfl) rfl zo (by rw [Nat.mul_one,Nat.zero_add])) ?_))))))))))))
      refine ro rfl (eY A_24 Z_24 (Ht rfl) (i:=0) rfl (dY (aH zo))) (ro rfl (gZ U_24 U_274 (Ht rfl) z7) (rm rfl (ro rfl (aM.nat (pT rfl (Ht rfl) (cJ 4294967295) z7 z7) (Xa p)) (ro rfl (jM rfl (Ht rfl) (Ht rfl) (by show _ ≤ 18446744073709551616; first | omega | (simp only [jE]; omega))) ?_))))
      refine rm rfl (ro rfl (aM.nat (jM rfl (Ht rfl) (Ht rfl) (by show _ ≤ 18446744073709551616; first | omega | (simp only [jE]; omega))) hx1.symm) (ra rfl (eX (ts (rm rfl (rm rfl (rm rfl (ro rfl (dV (Ht rfl) (Ht rfl) z6) (rm rfl (ro rfl (dD rfl U_274 U_24 (Ht rfl)) (ro rfl (fY U_27 Z_24 (Ht rfl) (Ht rfl) rfl zo (by rw [Nat.mul_one,Nat.zero_add])) ?_)))))))))))
      refine iX Z_24 (Ht rfl) (Ht rfl) (i:=0) rfl (by first | omega | (simp; omega)) rfl (eX (cY (rm rfl (ro rfl (cI (Ht rfl) (cJ 63) (by decide)) (ra rfl (eX (bF (cY (rm rfl (ro rfl (dV (Ht rfl) (cJ 1) z6) (ra rfl (eX (fU (i + 1,_,_,_) (hT.next hS.dig hv hglt2 hi hjl hp1 (wL hok hbl hx1) rfl) (by dsimp only; omega) (zS rfl) (aU (aD (cT _ _ _)) (aU (fun _ _ _ h=>h) aY)))))))))))))))
     ·simp at hi
      have hkl:i = vs.length:=Nat.le_antisymm hT.ile hi
      subst hkl
      have hlen:=hT.len; have hcl:=hT.clt; have hbl:=hT.ble; have hok:=aO hT.dig (j + vs.length)
      obtain ⟨x,hx1⟩:∃ x,x = ((out.getD (j + vs.length) 0 + 18446744073709551616 - c) % 18446744073709551616 + 18446744073709551616 - b) % 18446744073709551616:=⟨_,rfl⟩
      have htd:=wM hok hcl hbl hx1
      have hTk:=hT.fin hjl htd rfl
      have hx2:=htd.2
      simp only [BB] at hcl hok
      refine gV rfl (ts (rm rfl (rm rfl (rm rfl (ro rfl (dV (Ht rfl) (Ht rfl) z6) (ro rfl (fY U_27 Z_24 (Ht rfl) (Ht rfl) rfl zo (by rw [Nat.mul_one,Nat.zero_add])) ?_))))))
      refine ro rfl (eY A_24 Z_24 (Ht rfl) (i:=0) rfl (dY (aH zo))) (ro rfl (gZ U_24 U_274 (Ht rfl) z7) (rm rfl (ro rfl (jM rfl (Ht rfl) (Ht rfl) (by show _ ≤ 18446744073709551616; first | omega | (simp only [jE]; omega))) (rm rfl (ro rfl (aM.nat (jM rfl (Ht rfl) (Ht rfl) (by show _ ≤ 18446744073709551616; first | omega | (simp only [jE]; omega))) hx1.symm) (ra rfl (eX (ts (rm rfl (rm rfl (rm rfl (ro rfl (dV (Ht rfl) (Ht rfl) z6) ?_))))))))))))
      refine rm rfl (ro rfl (dD rfl U_274 U_24 (Ht rfl)) (ro rfl (fY U_27 Z_24 (Ht rfl) (Ht rfl) rfl zo (by rw [Nat.mul_one,Nat.zero_add])) ?_))
      refine iX Z_24 (Ht rfl) (Ht rfl) (i:=0) rfl (by first | omega | (simp; omega)) rfl (eX (cK (mE (fun (us2:List Nat) (g2:Nat)=>kY (m * 2 ^ s) vs us2 (qs.set j g2) j ∧ g2 < 4294967296 ∧ us2.length = (dg m).length + 1) (fun (us2:List Nat) (g2:Nat)=>[(8,NT .i64 s),(9,qH vs),(10,Is (.slice (some ⟨B57,0,none⟩) ((dg m).length + 1) ((dg m).length + 1))),(11,NT .i64 vs.length),(12,Is (.slice (some ⟨B69,0,none⟩) ((dg m).length + 1 - vs.length) ((dg m).length + 1 - vs.length))),(13,NT .i64 j),(15,NT .u64 g2)]) (fun (us2:List Nat) (g2:Nat)=>[box B57 24 (us2.map bC),box B69 24 (qs.map bC)]) ?_ (fun us2 g2 ⟨hD,hg2,hus2⟩=>?_))))
      ·refine ts (rm rfl (ro rfl (cI (Ht rfl) (cJ 63) (by decide)) (ro rfl (cE (Ht rfl) (cJ 1)) (eX (dQ (Ht rfl) (fun hbb => ?_) (fun hbb => ?_))))))
       ·simp only [decide_eq_true_eq] at hbb
        have hdec:(!decide (x / 2 ^ 63 = 0)) = true:=by rw [hbb]; rfl
        rw [hdec] at hTk
        obtain ⟨o1,ho1⟩:∃ o1,o1 = out.set (j + vs.length) (x % BB):=⟨_,rfl⟩
        rw [← ho1] at hTk
        have hg0:=hS.gpos hv rfl zo hTk
        have hol:=hTk.len
        refine ts (rm rfl (ro rfl (dW (Ht rfl) (cJ 1) zo z7) (ra rfl (eX (ts (ro rfl (cQ (cJ 0)) (eX (cK (ts (ro rfl (cQ (cJ 0)) (eX (eG ?_))))))))))))
        refine gS (fun (i : Nat) (out2 : List Nat) (c : Nat) => nT o1 vs j out2 i c) (fun (i : Nat) (out2 : List Nat) (c : Nat) => vs.length - i) (fun (i : Nat) (out2 : List Nat) (c : Nat) => [(8, NT .i64 s), (9, qH vs), (10, Is (.slice (some ⟨B57, 0, none⟩) ((dg m).length + 1) ((dg m).length + 1))), (11, NT .i64 vs.length), (12, Is (.slice (some ⟨B69, 0, none⟩) ((dg m).length + 1 - vs.length) ((dg m).length + 1 - vs.length))), (13, NT .i64 j), (15, NT .u64 (g - 1 : Nat)), (18, NT .u64 c), (23, NT .i64 i)]) (fun (i : Nat) (out2 : List Nat) (c : Nat) => [box B57 24 (out2.map bC), box B69 24 (qs.map bC)]) 0 o1 0 (nT.start hTk.dig vs j)
         (zS rfl) (aU (aD (by rw [ho1]; exact cT _ _ _)) (aU (fun _ _ _ h=>h) aY)) (fun i out2 c hB=>?_)
        refine cK (ts (rm rfl (rm rfl (ro rfl (gX (Ht rfl) (Ht rfl)) (eX (dQ (Ht rfl) (fun hi=>?_) (fun hi=>?_)))))))
        ·simp at hi
         have hlen:=hB.len; have hcl:=hB.cle; have hvi:=aO hv i; have hok:=aO hB.dig (i + j)
         simp only [BB] at hvi hok
         refine cU (cK (eG (cK (fZ (m:=14) (dp 10 rfl (cX (Ht rfl)) (dp 23 rfl (cX (Ht rfl)) (dp 13 rfl (cX (Ht rfl)) (cP 212 1 213 2 rfl (dV (Ht rfl) (Ht rfl) z6) (cP 211 0 214 3 rfl (fY U_27 Z_24 (Ht rfl) (Ht rfl) rfl zo (by rw [Nat.mul_one,Nat.zero_add])) ?_)))))))))
         refine dq 215 4 rfl (eY A_24 Z_24 (Ht rfl) (i:=0) rfl (dY (aH zo))) (dq 216 5 rfl (gZ U_24 U_274 (Ht rfl) z7) (dp 9 rfl (cX (Ht rfl)) (dp 23 rfl (cX (Ht rfl)) (cP 218 7 219 8 rfl (dZ U_27 Z_24 (Ht rfl) (Ht rfl) rfl (dY (aH zo))) (dq 220 9 rfl (dJ A_24 Z_24 (Ht rfl)) (dq 221 10 rfl (gZ U_24 U_274 (Ht rfl) z7) ?_))))))
         refine cP 217 6 222 11 rfl (dV (Ht rfl) (Ht rfl) z7) (dp 18 rfl (cX (Ht rfl)) (fV mixed rfl (by kernel_rfl) (zF (zF (zF (aJ (aJ (aV (ro rfl (dV (Ht rfl) (Ht rfl) z7) (ra rfl (eX (ts (rm rfl (rm rfl (rm rfl (ro rfl (dV (Ht rfl) (Ht rfl) z6) ?_))))))))))))))))
         refine rm rfl (ro rfl (dD rfl U_274 U_24 (Ht rfl)) (ro rfl (fY U_27 Z_24 (Ht rfl) (Ht rfl) rfl zo (by rw [Nat.mul_one,Nat.zero_add])) ?_))
         refine iX Z_24 (Ht rfl) (Ht rfl) (i:=0) rfl (by first | omega | (simp; omega)) rfl (eX (cY (rm rfl (ro rfl (cI (Ht rfl) (cJ 32) (by decide)) (ra rfl (eX (bF (cY (rm rfl (ro rfl (dV (Ht rfl) (cJ 1) z6) (ra rfl (eX (fU (i + 1,_,_) (hB.next hv hi zo (Nat.add_comm _ _)) (by dsimp only; omega) (zS rfl) (aU (aD (cT _ _ _)) (aU (fun _ _ _ h=>h) aY)))))))))))))))
        ·simp at hi
         have hil:i = vs.length:=Nat.le_antisymm hB.ile hi
         subst hil
         have hlen:=hB.len; have hcl:=hB.cle; have hok:=aO hB.dig (j + vs.length)
         have hBk:=hB.fin zo rfl
         obtain ⟨_,hDn⟩:=hS.wrong hv hV0 (Nat.succ_pos j) rfl hg hTk hBk
         simp only [BB] at hok
         refine gV rfl (cY (rm rfl (rm rfl (rm rfl (ro rfl (dV (Ht rfl) (Ht rfl) z6) (rm rfl (rm rfl (rm rfl (ro rfl (dV (Ht rfl) (Ht rfl) z6) (ro rfl (fY U_27 Z_24 (Ht rfl) (Ht rfl) rfl zo (by rw [Nat.mul_one,Nat.zero_add])) ?_))))))))))
         refine ro rfl (eY A_24 Z_24 (Ht rfl) (i:=0) rfl (dY (aH zo))) (rm rfl (ro rfl (gZ U_274 U_24 (Ht rfl) (by show _ < 4294967296; first | omega | (simp only [jE]; omega))) (ro rfl (Gu rfl (Ht rfl) (Ht rfl)) (ro rfl (fY U_27 Z_24 (Ht rfl) (Ht rfl) rfl zo (by rw [Nat.mul_one,Nat.zero_add])) ?_))))
         refine iX Z_24 (Ht rfl) (Ht rfl) (i:=0) rfl (by first | omega | (simp; omega)) rfl (eX (aS (_,g - 1) ⟨hDn,by dsimp only; omega,by simp; omega⟩ (zS rfl) (aU (aD (cT _ _ _)) (aU (fun _ _ _ h=>h) aY))))
       ·simp only [decide_eq_false_iff_not] at hbb
        have hdec:(!decide (x / 2 ^ 63 = 0)) = false:=by rw [show x / 2 ^ 63 = 0 by omega]; rfl
        rw [hdec] at hTk
        have hol:=hTk.len
        refine cU (aS (_,g) ⟨hS.right hv hV0 (Nat.succ_pos j) rfl hg hTk,hglt,by dsimp only; omega⟩ (zS rfl) (aU (aD (cT _ _ _)) (aU (fun _ _ _ h=>h) aY)))
      ·refine cY (rm rfl (rm rfl (rm rfl (ro rfl (gZ U_274 U_24 (Ht rfl) (by show _ < 4294967296; first | omega | (simp only [jE]; omega))) (ro rfl (fY U_27 Z_24 (Ht rfl) (Ht rfl) rfl zo (by rw [Nat.mul_one, Nat.zero_add])) ?_)))))
       refine iX Z_24 (Ht rfl) (Ht rfl) (i:=1) rfl (by first | omega | (simp; omega)) rfl (eX (bF (cY (rm rfl (ro rfl (eR (Ht rfl) cV (nO zo)) (ra rfl (eX (fU (j,us2,_) ⟨hD,hus2⟩ (by dsimp only; omega) (zS rfl) (aU (fun _ _ _ h=>h) (aU (aD (cT _ _ _)) aY))))))))))
   ·simp at hk
    have hk0:k = 0:=by omega
    subst hk0
    have hfin:=hS.fin hV0
    have hlq:=hS.lenq
    rw [hvv] at hfin
    have hdiv:val qs = m / n:=by rw [hfin.1]; exact Nat.mul_div_mul_right _ _ hp2
    have hsm:val us < BB ^ vs.length:=by have h1:=hS.small; rw [List.drop_zero] at h1; exact Nat.lt_trans h1 (gA hv)
    have hmod : val (us.take vs.length) / 2 ^ s = m % n := by
     rw [lH hsm zo,hfin.2,Nat.mul_mod_mul_right,Nat.mul_div_cancel _ hp2]
    have hru : (dg (val (us.take vs.length))).length ≤ 17592186044416 := by
     refine Nat.le_trans (gH (k:=vs.length) ?_) zo
     rw [lH hsm zo]; exact hsm
    refine gV rfl (gJ (i:=1) (tt:=12) rfl rfl (jD rfl zo (Nat.le_refl _)) (gJ (i:=0) (tt:=10) rfl rfl (jD rfl zo (Nat.le_refl _)) (cK (fZ (m:=7) (dp 12 rfl (cX (Ht rfl)) (dq 254 0 rfl (cZ K_240 (lC _ hS.digq zo) ⟨(Ht rfl),trivial⟩) (dp 10 rfl (cX (Ht rfl)) (dp 11 rfl (cX (Ht rfl)) (cP 256 2 257 3 rfl (aM.imp (pV U_27 Z_24 (Ht rfl) (Ht rfl) (fun m e=>by cases e) zo (by simp; omega) rfl) (Fw _ _)) ?_)))))))))
    refine dq 258 4 rfl (cZ K_240 (lC _ (hS.dig.take' vs.length) (by simp; omega)) ⟨(Ht rfl),trivial⟩) ?_
    refine dp 8 rfl (cX (Ht rfl)) (fV mixed rfl (by kernel_rfl) (zF (aJ (aJ (aJ (aV (ro rfl (cZ Tryz.call282 (Uv hru zo) ⟨(Ht rfl),(Ht rfl),trivial⟩) (ra rfl (ra rfl (eX (bI rfl (fX (eU rfl) ?_) (fX (eU rfl) ?_))))))))))))
    ·exact (bH hdiv)
    ·exact (bH hmod)
theorem Du {m n:Nat} (hm:(dg m).length ≤ 17592186044415) (hn:(dg n).length ≤ 17592186044415):bB Tryz.prog 237 [aB m,aB n] (aB (Nat.gcd m n)):=by
 refine bB.intro Tryz.func237 rfl Tryz.ntmps237 rfl (fun cx=>(ts (ro rfl (cQ cV) (eX (cK (eG ?_))))))
 refine dP (fun (x : Nat) (y : Nat) => Nat.gcd x y = Nat.gcd m n ∧ (dg x).length ≤ 17592186044415 ∧ (dg y).length ≤ 17592186044415) (fun (x : Nat) (y : Nat) => y) (fun (x : Nat) (y : Nat) => [(0, aB x), (1, aB y)]) (fun (x : Nat) (y : Nat) => []) m n ⟨rfl, hm, hn⟩
  (zS rfl) aY (fun x y ⟨hg,hx,hy⟩=>?_)
 refine cK (ts (rm rfl (ro rfl (dG U_27 (Ht rfl) aA) (ro rfl (dM (Ht rfl) (cJ 0)) (eX (dQ (Ht rfl) (fun hb=>?_) (fun hb=>?_)))))))
 ·simp at hb
  have hy0:y ≠ 0:=fun e=>by rw [e,cD] at hb; simp at hb
  have hlt:=Nat.mod_lt x (Nat.pos_of_ne_zero hy0)
  refine cU (eG (ts (rm rfl (rm rfl (ro rfl (cZ K_238 (sE hx zo hy0) ⟨(Ht rfl),(Ht rfl),trivial⟩) (rm rfl (ro rfl (dK (Ht rfl) rfl) (ro rfl (dK (Ht rfl) rfl) (ra rfl (ra rfl (eX (cY (rm rfl (rm rfl (ra rfl (ra rfl (eX (bF (fU (y,x % y) ⟨by rw [← hg,Nat.gcd_comm x y,Nat.gcd_rec y x,Nat.gcd_comm],hy,Nat.le_trans (eL (Nat.le_of_lt hlt)) hy⟩ hlt (zS rfl) aY)))))))))))))))))))
 ·simp at hb
  have hy0:y = 0:=aI.1 (by simpa using hb)
  subst hy0
  rw [Nat.gcd_zero_right] at hg
  refine gV rfl (ts (rm rfl (ra rfl (eX (fW rfl (fX (eU rfl) ?_))))))
  exact (bH hg)
theorem Fo {m:Nat} (hm:(dg m).length ≤ 8796093022208):bB Tryz.prog 244 [aB m] (mS (qD m)):=by
 refine bB.intro Tryz.func244 rfl Tryz.ntmps244 rfl (fun cx=>(ts (ro rfl (cQ (aT.cS (l:=[]) rfl)) (eX (cK (ts (rm rfl (ro rfl (dG U_27 (Ht rfl) aA) (ro rfl (cE (Ht rfl) (cJ 0)) (eX (dQ (Ht rfl) (fun hb=>?_) (fun hb=>?_))))))))))))
 ·simp at hb
  have h0:m = 0:=aI.1 (by simpa using hb)
  subst h0
  refine ts (ro rfl (cQ (aT.cS (l:=[48]) rfl)) (eX (fW rfl (fX (eU rfl) ?_))))
  exact (gR rfl)
 ·simp at hb
  have h0:m ≠ 0:=fun e=>hb (by rw [e,cD])
  refine cU (ts (ro rfl (cQ cV) (eX (cK (eG (Af 5 1 ?_))))))
  refine gS (fun (x : Nat) (out : List Nat) (v : Value) => uW m out x ∧ x ≤ m) (fun (x : Nat) (out : List Nat) (v : Value) => x) (fun (x : Nat) (out : List Nat) (v : Value) => [(0, aB x), (3, Is v)]) (fun (x : Nat) (out : List Nat) (v : Value) => [bE 5 1 v (out.map tD)]) m [] (.slice none 0 0) ⟨uW.start m, Nat.le_refl m⟩
   (zS rfl) (cF.refl _) (fun x out v ⟨hO,hle⟩=>?_)
  refine cK (ts (rm rfl (ro rfl (dG U_27 (Ht rfl) aA) (ro rfl (dM (Ht rfl) (cJ 0)) (eX (dQ (Ht rfl) (fun hc=>?_) (fun hc=>?_)))))))
  ·simp at hc
   have hx0:x ≠ 0:=fun e=>by rw [e,cD] at hc; simp at hc
   have hxm:=eL hle
   refine cU (eG (ts (rm rfl (ro rfl (cZ Tryz.call279 (Ar zo (by decide) (by decide)) ⟨(Ht rfl),(cJ 1000000000),trivial⟩) (rm rfl (ro rfl (dK (Ht rfl) rfl) (ro rfl (dK (Ht rfl) rfl) (ra rfl (ra rfl (eX (cK (ts (ro rfl (cQ (cJ 0)) (eX (eG ?_)))))))))))))))
   refine uA (fun (r : Nat) (k : Nat) (out : List Nat) (v : Value) => tQ m out (x / 1000000000) r k) (fun (r : Nat) (k : Nat) (out : List Nat) (v : Value) => 9 - k) (fun (r : Nat) (k : Nat) (out : List Nat) (v : Value) => [(3, Is v), (4, aB (x / 1000000000)), (5, bC r), (6, NT .i64 k)]) (fun (r : Nat) (k : Nat) (out : List Nat) (v : Value) => [bE 5 1 v (out.map tD)]) (x % 1000000000) 0 out v (hO.inner)
    (zS rfl) (cF.refl _) (fun r k out v hI=>?_)
   refine cK (ts (rm rfl (ro rfl (gX (Ht rfl) (cJ 9)) (rm rfl (fQ rfl rfl (lB rfl rfl (Ht rfl) (fun h=>cX (Ht rfl))) (fQ rfl rfl (lB rfl rfl (Ht rfl) (fun h=>dM (aT.wu rfl h) (cJ 0))) (fQ rfl rfl (lB rfl rfl (Ht rfl) (fun h=>cX (aT.wu rfl h))) (fQ rfl rfl (qY rfl rfl rfl (fun h h2=>cX (Ht rfl))) (fQ rfl rfl (qY rfl rfl rfl (fun h h2=>dG U_27 (aT.wu rfl ⟨h,h2⟩) aA)) (fQ rfl rfl (qY rfl rfl rfl (fun h h2=>dM (aT.wu rfl ⟨h,h2⟩) (cJ 0))) (fQ rfl rfl (lB rfl rfl (Ht rfl) (fun h=>eE (aT.wu rfl h) (fun h2=>(aT.wu rfl ⟨h,h2⟩)))) ?_)))))))))))
   refine ro rfl (eA (Ht rfl) (fun h=>(aT.wu rfl h))) (eX (dQ (Ht rfl) (fun hd=>?_) (fun hd=>?_)))
   ·simp at hd
    have hxr:0 < x / 1000000000 ∨ 0 < r:=hd.2.elim (fun h=>.inr h) (fun h=>.inl (Nat.pos_of_ne_zero (fun e=>by rw [e,cD] at h; simp at h)))
    have hln:=hI.len hxr
    have hr32:=hI.r32
    refine cU (cK (eG (ts (rm rfl (rm rfl (ro rfl (kO (Ht rfl) (cJ 10) zo) (ro rfl (dV (cJ 48) (Ht rfl) (by show _ < 4294967296; first | omega | (simp only [jE]; omega))) (ro rfl (gZ U_24 U_5 (Ht rfl) (by show _ < 256; first | omega | (simp only [jE]; omega))) (ro rfl (cH (xs:=[.tmp 37]) U_341 Z_5 Tryz.zeroValue5 (cW (Ht rfl) cG) rfl rfl rfl) (qX (inf:=Tryz.t5) uR Lg rfl rfl rfl (Ht rfl) (Ht rfl) (i:=0) rfl (by simp) (fun T hT=>by simp at hT; subst hT; exact El.one) (by show _ * 1 ≤ _; simp only [List.length_map,List.length_cons,List.length_nil]; omega) (by simp only [List.length_map,List.length_cons,List.length_nil]; omega) rfl (fun v2=>?_)))))))))))
    refine ra rfl (eX (cY (rm rfl (ro rfl (gN (Ht rfl) (cJ 10) zo (by show _ < 4294967296; first | omega | (simp only [jE]; omega))) (ra rfl (eX (bF (cY (rm rfl (ro rfl (dV (Ht rfl) (cJ 1) z6) (ra rfl (eX (fU (r / 10,k + 1,_,v2) (hI.next hd.1 hxr) (by dsimp only; omega) (zS rfl) (aU (bN (Ns _ _)) aY))))))))))))))
   ·simp at hd
    have hO2 := hI.fin (fun ⟨h1, h2⟩ => by
     have h3:=hd h1
     rcases h2 with h2 | h2
     ·have:=mU.1 h3.2; omega
     ·omega)
    refine gV rfl (cY (rm rfl (ra rfl (eX (bF (fU (x / 1000000000,_,_) ⟨hO2,Nat.le_trans (Nat.div_le_self _ _) hle⟩ (Nat.div_lt_self (Nat.pos_of_ne_zero hx0) (by decide)) (zS rfl) (cF.refl _)))))))
  ·simp at hc
   have hx0:x = 0:=aI.1 (by simpa using hc)
   subst hx0
   have hfin:=hO.fin
   have hdl:=mI m
   rw [hfin] at hdl
   refine gV rfl (cK (ts (rm rfl (ro rfl (mO U_341 (Ht rfl) (i:=0) rfl aA) (ro rfl (eR (Ht rfl) cV (nO zo)) (ro rfl (cQ (cJ 0)) (ra rfl (eX (eG ?_)))))))))
   refine dP (fun (k : Nat) (o : List Nat) => uZ out o k) (fun (k : Nat) (o : List Nat) => out.length - k) (fun (k : Nat) (o : List Nat) => [(3, Is v), (7, NT .i64 k), (8, aF .i64 ((out.length : Int) - 1 - (k : Int)))]) (fun (k : Nat) (o : List Nat) => [bE 5 1 v (o.map tD)]) 0 out (uZ.start out)
    (aQ rfl (aQ rfl (aZ rfl (aN zo) aX))) (cF.refl _) (fun k o hR=>?_)
   refine cK (ts (rm rfl (rm rfl (ro rfl (iK (Ht rfl) (Ht rfl)) (eX (dQ (Ht rfl) (fun hk=>?_) (fun hk=>?_)))))))
   ·simp only [decide_eq_true_eq] at hk
    have hk2:2 * k + 1 < out.length:=by omega
    obtain ⟨j,hj⟩:∃ j,j = out.length - 1 - k:=⟨_,rfl⟩
    have hlen:=hR.len
    refine lQ (E':=[(3,_),(7,_),(8,_),(46,_),(47,_),(48,_)]) (aQ rfl (aQ rfl (aZ rfl (aN (show (out.length:Int) - 1 - (k:Int) = (j:Int) by omega)) (zS rfl)))) (cU (cK (eG (W.D_start (m:=14) (fun b=>cond b ([bE 5 1 v ((o.map tD).set k (tD (o.getD j 0)))]) _) 13 (W.D_step (Ei:=[(3,_)]) rfl rfl (W.Srcs.cons (W.Src.pre rfl rfl) W.Srcs.nil) rfl (by kernel_rfl) (dX rfl (cX (Ht rfl))) (W.D_step (Ei:=[(7,_)]) rfl rfl (W.Srcs.cons (W.Src.pre rfl rfl) W.Srcs.nil) rfl (by kernel_rfl) (dX rfl (cX (Ht rfl))) ?_))))))
    refine W.D_pure (Ei:=[(3,_)]) rfl rfl (W.Srcs.cons (W.Src.pre rfl rfl) W.Srcs.nil) rfl (fun _=>dX rfl (cX (Ht rfl))) (W.D_pure (Ei:=[(8,_)]) rfl rfl (W.Srcs.cons (W.Src.pre rfl rfl) W.Srcs.nil) rfl (fun _=>dX rfl (cX (Ht rfl))) (W.D_step (Ei:=[(3,_)]) rfl rfl (W.Srcs.cons (W.Src.pre rfl rfl) W.Srcs.nil) rfl (by kernel_rfl) (dX rfl (cX (Ht rfl))) (W.D_step (Ei:=[(8,_)]) rfl rfl (W.Srcs.cons (W.Src.pre rfl rfl) W.Srcs.nil) rfl (by kernel_rfl) (dX rfl (cX (Ht rfl))) (W.D_step (Ei:=[(57,_),(58,_)]) rfl rfl (W.Srcs.cons (W.Src.op 4 rfl rfl) (W.Srcs.cons (W.Src.op 5 rfl rfl) W.Srcs.nil)) rfl (by kernel_rfl) (dX rfl (eI U_341 Z_5 (Ht rfl) (Ht rfl) rfl (i:=0) rfl (by first | omega | (simp; omega)) rfl)) ?_))))
    refine W.D_step (Ei:=[(59,_)]) rfl rfl (W.Srcs.cons (W.Src.op 6 rfl rfl) W.Srcs.nil) rfl (by kernel_rfl) (dX rfl (oQ A_5 Z_5 (Ht rfl) (i:=0) rfl rfl (dY (aH zo)))) (W.D_step (Ei:=[(3,_)]) rfl rfl (W.Srcs.cons (W.Src.pre rfl rfl) W.Srcs.nil) rfl (by kernel_rfl) (dX rfl (cX (Ht rfl))) (W.D_step (Ei:=[(7,_)]) rfl rfl (W.Srcs.cons (W.Src.pre rfl rfl) W.Srcs.nil) rfl (by kernel_rfl) (dX rfl (cX (Ht rfl))) (W.D_step (Ei:=[(61,_),(62,_)]) rfl rfl (W.Srcs.cons (W.Src.op 8 rfl rfl) (W.Srcs.cons (W.Src.op 9 rfl rfl) W.Srcs.nil)) rfl (by kernel_rfl) (dX rfl (eI U_341 Z_5 (Ht rfl) (Ht rfl) rfl (i:=0) rfl (by first | omega | (simp; omega)) rfl)) ?_)))
    refine W.D_step (Ei:=[(63,_)]) rfl rfl (W.Srcs.cons (W.Src.op 10 rfl rfl) W.Srcs.nil) rfl (by kernel_rfl) (dX rfl (oQ A_5 Z_5 (Ht rfl) (i:=0) rfl rfl (dY (aH zo)))) (W.D_step (Ei:=[(53,_),(54,_)]) rfl rfl (W.Srcs.cons (W.Src.op 0 rfl rfl) (W.Srcs.cons (W.Src.op 1 rfl rfl) W.Srcs.nil)) rfl (by kernel_rfl) (dX rfl (eI U_341 Z_5 (Ht rfl) (Ht rfl) rfl (i:=0) rfl (by first | omega | (simp; omega)) rfl)) (W.D_put (Ei:=[(65,_),(60,_)]) rfl rfl (W.Srcs.cons (W.Src.op 12 rfl rfl) (W.Srcs.cons (W.Src.op 7 rfl rfl) W.Srcs.nil)) rfl (Sg Z_5 (Ht rfl) (Ht rfl) El.one (i:=0) rfl rfl (by first | omega | (simp; omega))) ?_))
    refine W.D_done mixed rfl (by kernel_rfl) rfl (W.F_val (W.F_val (W.F_val (W.F_val (W.F_val (W.F_val (W.F_val (W.F_val (W.F_val (W.F_val (W.F_val (W.F_val (W.F_val (W.F_put (W.F_nil (ro rfl (eI U_341 Z_5 (Ht rfl) (Ht rfl) rfl (i:=0) rfl (by first | omega | (simp; omega)) rfl) (nV Z_5 (Ht rfl) (Ht rfl) El.one (i:=0) rfl rfl (by first | omega | (simp; omega)) rfl (eX (bF (cY (rm rfl (ro rfl (dV (Ht rfl) (cJ 1) z6) (rm rfl (ro rfl (eR (Ht rfl) cV (nO zo)) ?_))))))))))))))))))))))))
    refine ra rfl (ra rfl (eX (fU (k + 1,_) (hR.next hk2 hj) (by dsimp only; omega) (aQ rfl (aQ rfl (aZ rfl (aN zo) aX))) (aU (bN (Hk _ _ _ _ _)) aY))))
   ·simp only [decide_eq_false_iff_not] at hk
    have hrev:=hR.fin zo
    subst hrev
    refine gV rfl (gJ (i:=0) (tt:=3) rfl rfl lE (ts (rm rfl (ro rfl (Bz uR Tj Tk (Ht rfl) (by rw [← hfin]; simpa using Fu h0) (fun b hb=>Kq (n:=m) b (by rw [pJ h0,hfin]; exact hb))) ?_))))
    refine ra rfl (eX (fW rfl (fX (eU rfl) ?_)))
    exact (gR (by rw [pJ h0,hfin]))
end
section
open Go Go.RowKit
theorem uC {n : Nat} {E : bM} {H : Hp} {d : Option Tmp} {t : TypeId} {pos : String} {af : Array Edge} {g : Option (Nat × Bool)}  :
  aM Tryz.prog n E H ⟨d,.build 32 #[],t,pos,af,g⟩ (dE [Is (.bool false),Is (.slice none 0 0),Is (.bool false),Is (.slice none 0 0),Is (.slice none 0 0)]) :=
 eM (parts := []) fun a V w hs => by
  refine ⟨.agg #[(.bool false),(.slice none 0 0),(.bool false),(.slice none 0 0),(.slice none 0 0)],?_,[(.bool false),(.slice none 0 0),(.bool false),(.slice none 0 0),(.slice none 0 0)],rfl,aW (⟨rfl,trivial⟩) (aW (⟨rfl,trivial⟩) (aW (⟨rfl,trivial⟩) (aW (⟨rfl,trivial⟩) (aW (⟨rfl,trivial⟩) (aG)))))⟩
  simp [Instr.build,Instr.fill,Sem.run_bind,Result.andThen,dI,O_32,U_32,Z_28,Z_30]
theorem Fg {n : Nat} {E : bM} {H : Hp} {d : Option Tmp} {t : TypeId} {pos : String} {af : Array Edge} {g : Option (Nat × Bool)}  :
  aM Tryz.prog n E H ⟨d,.build 38 #[],t,pos,af,g⟩ (dE [Is (.bool false),Is (.slice none 0 0)]) :=
 eM (parts := []) fun a V w hs => by
  refine ⟨.agg #[(.bool false),(.slice none 0 0)],?_,[(.bool false),(.slice none 0 0)],rfl,aW (⟨rfl,trivial⟩) (aW (⟨rfl,trivial⟩) (aG))⟩
  simp [Instr.build,Instr.fill,Sem.run_bind,Result.andThen,dI,O_38,U_38,Z_4,Z_27]
theorem kD {n : Nat} {E : bM} {H : Hp} {d : Option Tmp} {t : TypeId} {pos : String} {af : Array Edge} {g : Option (Nat × Bool)} {x0 x1 : Operand} {T0 T1 : Ty} [s0 : cA T0 1 false] (h0 : aT E x0 T0) [s1 : cA T1 1 false] (h1 : aT E x1 T1) :
  aM Tryz.prog n E H ⟨d,.build 38 #[(0,x0),(1,x1)],t,pos,af,g⟩ (dE [T0,T1]) :=
 eM (parts := [(0, x0), (1, x1)]) fun a V w hs => by
  have p0:=h0 n V a hs
  generalize e0:a.eval x0 = v0 at p0
  have q0:=(s0.ok v0 V p0).2.2 rfl
  have p1:=h1 n V a hs
  generalize e1:a.eval x1 = v1 at p1
  have q1:=(s1.ok v1 V p1).2.2 rfl
  refine ⟨.agg #[v0,v1],?_,[v0,v1],rfl,aW (⟨p0,q0⟩) (aW (⟨p1,q1⟩) (aG))⟩
  simp [e0,e1,Instr.build,Instr.fill,Sem.run_bind,Result.andThen,dI,q0.cells,q1.cells,O_38,U_38,Z_4,Z_27]
theorem jU {n : Nat} {E : bM} {H : Hp} {d : Option Tmp} {t : TypeId} {pos : String} {af : Array Edge} {g : Option (Nat × Bool)} {x0 x1 x2 : Operand} {T0 T1 T2 T3 T4 : Ty} (h0 : aT E x0 (dE [T0, T1])) (h1 : aT E x1 (dE [T2, T3])) [s2 : cA T4 1 false] (h2 : aT E x2 T4) :
  aM Tryz.prog n E H ⟨d,.build 40 #[(0,x0),(1,x1),(2,x2)],t,pos,af,g⟩ (dE [T0,T1,T2,T3,T4]) :=
 eM (parts := [(0, x0), (1, x1), (2, x2)]) fun a V w hs => by
  obtain ⟨v0,e0,c0⟩:=h0 n V a hs
  obtain ⟨c0_0,c0_1,rfl⟩:∃ c0_0 c0_1,v0 = [c0_0,c0_1]:=xV (by simpa using c0.length)
  obtain ⟨v1,e1,c1⟩:=h1 n V a hs
  obtain ⟨c1_0,c1_1,rfl⟩:∃ c1_0 c1_1,v1 = [c1_0,c1_1]:=xV (by simpa using c1.length)
  have p2:=h2 n V a hs
  generalize e2:a.eval x2 = v2 at p2
  have q2:=(s2.ok v2 V p2).2.2 rfl
  refine ⟨.agg #[c0_0,c0_1,c1_0,c1_1,v2],?_,[c0_0,c0_1,c1_0,c1_1,v2],rfl,aW (c0.at (i:=0) rfl rfl) (aW (c0.at (i:=1) rfl rfl) (aW (c1.at (i:=0) rfl rfl) (aW (c1.at (i:=1) rfl rfl) (aW (⟨p2,q2⟩) (aG)))))⟩
  simp [e0,e1,e2,Instr.build,Instr.fill,Sem.run_bind,Result.andThen,dI,q2.cells,O_40,U_40,Z_27,Z_38]
theorem iN (a:Addr) (w:World):(Instr.fieldAt 38 (.pointer (some a)) 0).run Tryz.prog w = .ok (.pointer (some (a.add 0))) w:=by
 simp [Instr.fieldAt,Instr.sureAddr,fieldPlace,Sem.run_bind,Result.andThen,U_38,Z_4]
theorem dL (a:Addr) (w:World):(Instr.fieldAt 38 (.pointer (some a)) 1).run Tryz.prog w = .ok (.pointer (some (a.add 1))) w:=by
 simp [Instr.fieldAt,Instr.sureAddr,fieldPlace,Sem.run_bind,Result.andThen,U_38,Z_27]
theorem gK (a:Addr) (w:World):(Instr.fieldAt 40 (.pointer (some a)) 0).run Tryz.prog w = .ok (.pointer (some (a.add 0))) w:=by
 simp [Instr.fieldAt,Instr.sureAddr,fieldPlace,Sem.run_bind,Result.andThen,U_40,Z_38]
theorem gT (a:Addr) (w:World):(Instr.fieldAt 40 (.pointer (some a)) 1).run Tryz.prog w = .ok (.pointer (some (a.add 2))) w:=by
 simp [Instr.fieldAt,Instr.sureAddr,fieldPlace,Sem.run_bind,Result.andThen,U_40,Z_38]
theorem gL (a:Addr) (w:World):(Instr.fieldAt 40 (.pointer (some a)) 2).run Tryz.prog w = .ok (.pointer (some (a.add 4))) w:=by
 simp [Instr.fieldAt,Instr.sureAddr,fieldPlace,Sem.run_bind,Result.andThen,U_40,Z_27]
end
section
open Go Go.RowKit
theorem kE {b:Bool} {m:Nat}:bB Tryz.prog 239 [aC b,aB m] (cB (tM b m)):=by
 refine bB.intro Tryz.func239 rfl Tryz.ntmps239 rfl (fun cx=>(ts (rn rfl (eW (Ts:=[Is (.bool false),Is (.slice none 0 0)]) O_38 rfl (fun V=>aW zd (aW zd (aG)))) fun B4=>(eX (ts (rm rfl (rm rfl (fQ rfl rfl (eK rfl rfl (Ht rfl) (fun h=>cX (Ht rfl))) (fQ rfl rfl (eK rfl rfl (Ht rfl) (fun h=>dG U_27 (fJ rfl h) aA)) (fQ rfl rfl (eK rfl rfl (Ht rfl) (fun h=>dM (fJ rfl h) (cJ 0))) (ro rfl (eA (Ht rfl) (fun h=>(fJ rfl h))) (rm rfl ?_))))))))))))
 refine ro rfl (kD (Ht rfl) (Ht rfl)) (gQ Z_38 (Ht rfl) (Ht rfl) rfl (i:=0) rfl (aK rfl) rfl rfl (eX (fW rfl (fX (fK A_38 Z_38 rfl (i:=0) rfl rfl) ?_))))
 exact Ng
theorem rB {n:Int} (h1:-9223372036854775808 ≤ n) (h2:n ≤ 9223372036854775807):bB Tryz.prog 179 [aF .i64 n] (cB n):=by
 refine bB.intro Tryz.func179 rfl Tryz.ntmps179 rfl (fun cx=>(ts (rn rfl (eW (Ts:=[Is (.bool false),Is (.slice none 0 0)]) O_38 rfl (fun V=>aW zd (aW zd (aG)))) fun B2=>(eX (cK (ts (rm rfl (ro rfl (iK (Ht rfl) cV) (eX (dQ (Ht rfl) (fun hb=>?_) (fun hb=>?_)))))))))))
 ·have hn : n < 0 := by simpa using hb
  refine ts (rm rfl (ro rfl (qQ (Ht rfl) (r:=IntKind.i64.wrap (-n)) rfl) ?_))
  refine ro rfl (pU U_2 U_274 (Ht rfl) (r:=((n.natAbs:Nat):Int)) (by rw [IntKind.wrap_u64,IntKind.wrap_i64]; omega)) ?_
  refine ro rfl (cZ Tryz.call235 (vF zo) ⟨(Ht rfl),trivial⟩) (ro rfl (kD cV (Ht rfl)) (gQ Z_38 (Ht rfl) (Ht rfl) rfl (i:=0) rfl (aK rfl) rfl rfl (eX (fW rfl (fX (fK A_38 Z_38 rfl (i:=0) rfl rfl) ?_)))))
  exact (kC (by rw [hb]; rfl))
 ·have hn : ¬ n < 0 := by simpa using hb
  refine cU (ts (rm rfl (ro rfl (pU U_2 U_274 (Ht rfl) (r:=((n.natAbs:Nat):Int)) (by rw [IntKind.wrap_u64]; omega)) ?_)))
  refine ro rfl (cZ Tryz.call235 (vF zo) ⟨(Ht rfl),trivial⟩) (ro rfl (kD cV (Ht rfl)) (gQ Z_38 (Ht rfl) (Ht rfl) rfl (i:=0) rfl (aK rfl) rfl rfl (eX (fW rfl (fX (fK A_38 Z_38 rfl (i:=0) rfl rfl) ?_)))))
  exact (kC (by rw [hb]; rfl))
theorem lI {x:Int}:bB Tryz.prog 191 [cB x] (cB (-x)):=by
 refine bB.intro Tryz.func191 rfl Tryz.ntmps191 rfl (fun cx=>(ts (rn rfl (fG (Ht rfl)) fun B1=>(rn rfl (eW (Ts:=[Is (.bool false),Is (.slice none 0 0)]) O_38 rfl (fun V=>aW zd (aW zd (aG)))) fun B2=>(eX (ts (ro rfl (eZ iN (Ht rfl) rfl) (ro rfl (eY A_4 Z_4 (Ht rfl) (i:=0) rfl rfl) (ro rfl (eN (Ht rfl)) (ro rfl (eZ dL (Ht rfl) rfl) (ro rfl (eY A_27 Z_27 (Ht rfl) (i:=0) rfl rfl) (ro rfl (cZ K_239 kE ⟨(Ht rfl),(Ht rfl),trivial⟩) ?_))))))))))))
 refine gQ Z_38 (Ht rfl) (Ht rfl) rfl (i:=1) rfl (aK rfl) rfl rfl (eX (fW rfl (fX (fK A_38 Z_38 rfl (i:=1) rfl rfl) ?_)))
 exact (iV (yD x))
theorem pC {x y:Int} (hx:(dg x.natAbs).length ≤ 17592186044416) (hy:(dg y.natAbs).length ≤ 17592186044416):bB Tryz.prog 190 [cB x,cB y] (cB (x + y)):=by
 refine bB.intro Tryz.func190 rfl Tryz.ntmps190 rfl (fun cx=>(ts (rn rfl (fG (Ht rfl)) fun B2=>(rn rfl (fG (Ht rfl)) fun B3=>(rn rfl (eW (Ts:=[Is (.bool false),Is (.slice none 0 0)]) O_38 rfl (fun V=>aW zd (aW zd (aG)))) fun B4=>(eX (cK (ts (ro rfl (eZ iN (Ht rfl) rfl) (ro rfl (eY A_4 Z_4 (Ht rfl) (i:=0) rfl rfl) (ro rfl (eZ iN (Ht rfl) rfl) (ro rfl (eY A_4 Z_4 (Ht rfl) (i:=1) rfl rfl) (ro rfl (Ma U_4 (Ht rfl) (Ht rfl)) ?_)))))))))))))
 refine eX (dQ (Ht rfl) (fun hb=>?_) (fun hb=>?_))
 ·have he : decide (x < 0) = decide (y < 0) := by simpa using hb
  refine cK (fZ (m:=7) (dp 2 rfl (eZ iN (Ht rfl) rfl) (dq 10 0 rfl (eY A_4 Z_4 (Ht rfl) (i:=0) rfl rfl) (dp 2 rfl (eZ dL (Ht rfl) rfl) (dq 12 2 rfl (eY A_27 Z_27 (Ht rfl) (i:=0) rfl rfl) (dp 3 rfl (eZ dL (Ht rfl) rfl) (dq 14 4 rfl (eY A_27 Z_27 (Ht rfl) (i:=1) rfl rfl) (cP 13 3 15 5 rfl (cZ Tryz.call241 (Hy zo zo) ⟨(Ht rfl),(Ht rfl),trivial⟩) (fV mixed rfl (by kernel_rfl) (zF (aJ (aJ (aJ (aV ?_))))))))))))))
  refine ro rfl (cZ K_239 kE ⟨(Ht rfl),(Ht rfl),trivial⟩) (gQ Z_38 (Ht rfl) (Ht rfl) rfl (i:=2) rfl (aK rfl) rfl rfl (eX (fW rfl (fX (fK A_38 Z_38 rfl (i:=2) rfl rfl) ?_))))
  exact (iV (Cn he))
 ·have he : decide (x < 0) ≠ decide (y < 0) := by simpa using hb
  refine cU (cK (ts (ro rfl (eZ dL (Ht rfl) rfl) (ro rfl (eY A_27 Z_27 (Ht rfl) (i:=0) rfl rfl) (ro rfl (eZ dL (Ht rfl) rfl) (ro rfl (eY A_27 Z_27 (Ht rfl) (i:=1) rfl rfl) (ro rfl (cZ Tryz.call225 (xG zo zo) ⟨(Ht rfl),(Ht rfl),trivial⟩) (ro rfl (jX (Ht rfl) cV) (eX (dQ (Ht rfl) (fun hc=>?_) (fun hc=>?_)))))))))))
  ·have hle : y.natAbs ≤ x.natAbs := yX (by simpa using hc)
   refine cK (fZ (m:=7) (dp 2 rfl (eZ iN (Ht rfl) rfl) (dq 24 0 rfl (eY A_4 Z_4 (Ht rfl) (i:=0) rfl rfl) (dp 2 rfl (eZ dL (Ht rfl) rfl) (dq 26 2 rfl (eY A_27 Z_27 (Ht rfl) (i:=0) rfl rfl) (dp 3 rfl (eZ dL (Ht rfl) rfl) (dq 28 4 rfl (eY A_27 Z_27 (Ht rfl) (i:=1) rfl rfl) (cP 27 3 29 5 rfl (cZ Tryz.call242 (xH zo zo) ⟨(Ht rfl),(Ht rfl),trivial⟩) (fV mixed rfl (by kernel_rfl) (zF (aJ (aJ (aJ (aV ?_))))))))))))))
   refine ro rfl (cZ K_239 kE ⟨(Ht rfl),(Ht rfl),trivial⟩) (gQ Z_38 (Ht rfl) (Ht rfl) rfl (i:=2) rfl (aK rfl) rfl rfl (eX (fW rfl (fX (fK A_38 Z_38 rfl (i:=2) rfl rfl) ?_))))
   exact (iV (rX he hle))
  ·have hle : x.natAbs ≤ y.natAbs := Nat.le_of_lt (yY (by simpa using hc))
   refine cU (cK (fZ (m:=7) (dp 3 rfl (eZ iN (Ht rfl) rfl) (dq 32 0 rfl (eY A_4 Z_4 (Ht rfl) (i:=1) rfl rfl) (dp 3 rfl (eZ dL (Ht rfl) rfl) (dq 34 2 rfl (eY A_27 Z_27 (Ht rfl) (i:=1) rfl rfl) (dp 2 rfl (eZ dL (Ht rfl) rfl) (dq 36 4 rfl (eY A_27 Z_27 (Ht rfl) (i:=0) rfl rfl) (cP 35 3 37 5 rfl (cZ Tryz.call242 (xH zo zo) ⟨(Ht rfl),(Ht rfl),trivial⟩) (fV mixed rfl (by kernel_rfl) (zF (aJ (aJ (aJ (aV ?_)))))))))))))))
   refine ro rfl (cZ K_239 kE ⟨(Ht rfl),(Ht rfl),trivial⟩) (gQ Z_38 (Ht rfl) (Ht rfl) rfl (i:=2) rfl (aK rfl) rfl rfl (eX (fW rfl (fX (fK A_38 Z_38 rfl (i:=2) rfl rfl) ?_))))
   exact (iV (by rw [rX (Ne.symm he) hle,Int.add_comm]))
theorem Hx {x y:Int} (hx:(dg x.natAbs).length ≤ 17592186044416) (hy:(dg y.natAbs).length ≤ 17592186044416):bB Tryz.prog 189 [cB x,cB y] (cB (x + -y)):=by
 have hny:=nI y
 refine bB.intro Tryz.func189 rfl Tryz.ntmps189 rfl (fun cx=>(ts (rn rfl (fG (Ht rfl)) fun B2=>(rn rfl (fG (Ht rfl)) fun B3=>(rn rfl (eW (Ts:=[Is (.bool false),Is (.slice none 0 0)]) O_38 rfl (fun V=>aW zd (aW zd (aG)))) fun B4=>(eX (cK (fZ (m:=3) (dp 2 rfl (eJ A_38 Z_38 (Ht rfl) (i:=0) rfl rfl rfl) (dp 3 rfl (eJ A_38 Z_38 (Ht rfl) (i:=1) rfl rfl rfl) (dq 6 1 rfl (cZ K_191 lI ⟨(Ht rfl),trivial⟩) (fV mixed rfl (by kernel_rfl) (aJ (aJ (aJ (aV ?_))))))))))))))))
 refine ro rfl (cZ Tryz.call190 (pC zo zo) ⟨(Ht rfl),(Ht rfl),trivial⟩) (gQ Z_38 (Ht rfl) (Ht rfl) rfl (i:=2) rfl (aK rfl) rfl rfl (eX ?_))
 exact fW rfl (fK A_38 Z_38 rfl (i:=2) rfl rfl)
theorem iG {x y:Int} (hx:(dg x.natAbs).length ≤ 17592186044416) (hy:(dg y.natAbs).length ≤ 17592186044416):bB Tryz.prog 186 [cB x,cB y] (cB (x * y)):=by
 refine bB.intro Tryz.func186 rfl Tryz.ntmps186 rfl (fun cx=>(ts (rn rfl (fG (Ht rfl)) fun B2=>(rn rfl (fG (Ht rfl)) fun B3=>(rn rfl (eW (Ts:=[Is (.bool false),Is (.slice none 0 0)]) O_38 rfl (fun V=>aW zd (aW zd (aG)))) fun B4=>(eX (cK (fZ (m:=10) (dp 2 rfl (eZ iN (Ht rfl) rfl) (dq 5 0 rfl (eY A_4 Z_4 (Ht rfl) (i:=0) rfl rfl) (dp 3 rfl (eZ iN (Ht rfl) rfl) (dq 7 2 rfl (eY A_4 Z_4 (Ht rfl) (i:=1) rfl rfl) (cP 6 1 8 3 rfl (Mb U_4 (Ht rfl) (Ht rfl)) ?_)))))))))))))
 refine dp 2 rfl (eZ dL (Ht rfl) rfl) (dq 10 5 rfl (eY A_27 Z_27 (Ht rfl) (i:=0) rfl rfl) (dp 3 rfl (eZ dL (Ht rfl) rfl) (dq 12 7 rfl (eY A_27 Z_27 (Ht rfl) (i:=1) rfl rfl) (cP 11 6 13 8 rfl (cZ Tryz.call187 (pD zo zo) ⟨(Ht rfl),(Ht rfl),trivial⟩) (fV mixed rfl (by kernel_rfl) (zF (zF (aJ (aJ (aV (ro rfl (cZ K_239 kE ⟨(Ht rfl),(Ht rfl),trivial⟩) (gQ Z_38 (Ht rfl) (Ht rfl) rfl (i:=2) rfl (aK rfl) rfl rfl ?_))))))))))))
 refine eX (fW rfl (fX (fK A_38 Z_38 rfl (i:=2) rfl rfl) ?_))
 exact (iV (yE x y))
theorem rC {A B:Int} {D:Nat} (hD:0 < D) (hA:(dg A.natAbs).length ≤ 17592186044415) (hB:(dg B.natAbs).length ≤ 17592186044415) (hD2:(dg D).length ≤ 17592186044415):bB Tryz.prog 185 [cB A,cB B,aB D] (QT (Qi.mk' A B D)):=by
 have hg1:=vO hA hB
 have hg2:=vO hg1 hD2
 have hgp:Nat.gcd (Nat.gcd A.natAbs B.natAbs) D ≠ 0:=fun e=>by have:=Nat.gcd_eq_zero_iff.1 e; omega
 refine bB.intro Tryz.func185 rfl Tryz.ntmps185 rfl (fun cx=>(ts (rn rfl (fG (Ht rfl)) fun B3=>(rn rfl (fG (Ht rfl)) fun B4=>(rn rfl (eW (Ts:=[Is (.bool false),Is (.slice none 0 0),Is (.bool false),Is (.slice none 0 0),Is (.slice none 0 0)]) O_40 rfl (fun V=>aW zd (aW zd (aW zd (aW zd (aW zd (aG))))))) fun B6=>(eX (ts (ro rfl (eZ dL (Ht rfl) rfl) (ro rfl (eY A_27 Z_27 (Ht rfl) (i:=0) rfl rfl) ?_)))))))))
 refine ro rfl (eZ dL (Ht rfl) rfl) (ro rfl (eY A_27 Z_27 (Ht rfl) (i:=1) rfl rfl) (ro rfl (cZ Tryz.call237 (Du zo zo) ⟨(Ht rfl),(Ht rfl),trivial⟩) (rm rfl (ro rfl (cZ Tryz.call237 (Du zo zo) ⟨(Ht rfl),(Ht rfl),trivial⟩) (ra rfl (eX (cK (ts (rm rfl (ro rfl (dG U_27 (Ht rfl) aA) (ro rfl (cE (Ht rfl) (cJ 1)) (rm rfl (fQ rfl rfl (eK rfl rfl (Ht rfl) (fun h=>cX (Ht rfl))) (fQ rfl rfl (eK rfl rfl (Ht rfl) (fun h=>dZ U_27 Z_24 (fJ rfl h) (cJ 0) rfl (dY (aH (by first | omega | (simp at h; omega)))))) ?_))))))))))))))
 refine fQ rfl rfl (eK rfl rfl (Ht rfl) (fun h=>dJ A_24 Z_24 (fJ rfl h))) (fQ rfl rfl (eK rfl rfl (Ht rfl) (fun h=>cE (fJ rfl h) (cJ 1))) (ro rfl (eA (Ht rfl) (fun h=>(fJ rfl h))) (eX (dQ (Ht rfl) (fun hb=>?_) (fun hb=>?_)))))
 ·rw [zL] at hb
  have hg:Qi.g3 A B D = 1:=by simpa [Qi.g3] using hb
  refine ts (ro rfl (eJ A_38 Z_38 (Ht rfl) (i:=0) rfl rfl rfl) (ro rfl (eJ A_38 Z_38 (Ht rfl) (i:=1) rfl rfl rfl) (rm rfl (ro rfl (jU (Ht rfl) (Ht rfl) (Ht rfl)) (gQ Z_40 (Ht rfl) (Ht rfl) rfl (i:=2) rfl (aK rfl) rfl rfl (eX (fW rfl (fX (fK A_40 Z_40 rfl (i:=2) rfl rfl) ?_))))))))
  exact (Ln hD hg)
 ·refine cU (ts (ro rfl (eZ dL (Ht rfl) rfl) (ro rfl (eY A_27 Z_27 (Ht rfl) (i := 0) rfl rfl) (rm rfl (ro rfl (cZ K_238 (sE zo zo zo) ⟨(Ht rfl), (Ht rfl), trivial⟩) (rm rfl (ro rfl (dK (Ht rfl) rfl) (ro rfl (dK (Ht rfl) rfl) (ra rfl (ra rfl (eX (ts (ro rfl (eZ dL (Ht rfl) rfl) (ro rfl (eY A_27 Z_27 (Ht rfl) (i := 1) rfl rfl) (rm rfl (ro rfl (cZ K_238 (sE zo zo zo) ⟨(Ht rfl), (Ht rfl), trivial⟩) (rm rfl (ro rfl (dK (Ht rfl) rfl) ?_))))))))))))))))))
  refine ro rfl (dK (Ht rfl) rfl) (ra rfl (ra rfl (eX (ts (rm rfl (rm rfl (ro rfl (cZ K_238 (sE zo zo zo) ⟨(Ht rfl),(Ht rfl),trivial⟩) (rm rfl (ro rfl (dK (Ht rfl) rfl) (ro rfl (dK (Ht rfl) rfl) (ra rfl (ra rfl (eX (cK (fZ (m:=9) (dp 3 rfl (eZ iN (Ht rfl) rfl) (dq 54 0 rfl (eY A_4 Z_4 (Ht rfl) (i:=0) rfl rfl) (dp 8 rfl (cX (Ht rfl)) (cP 55 1 56 2 rfl (cZ K_239 kE ⟨(Ht rfl),(Ht rfl),trivial⟩) (dp 4 rfl (eZ iN (Ht rfl) rfl) ?_))))))))))))))))))))
  refine dq 58 4 rfl (eY A_4 Z_4 (Ht rfl) (i:=1) rfl rfl) (dp 10 rfl (cX (Ht rfl)) (cP 59 5 60 6 rfl (cZ K_239 kE ⟨(Ht rfl),(Ht rfl),trivial⟩) (dp 12 rfl (cX (Ht rfl)) (fV mixed rfl (by kernel_rfl) (zF (zF (aJ (aV (ro rfl (jU (Ht rfl) (Ht rfl) (Ht rfl)) (gQ Z_40 (Ht rfl) (Ht rfl) rfl (i:=2) rfl (aK rfl) rfl rfl (eX (fW rfl (fX (fK A_40 Z_40 rfl (i:=2) rfl rfl) ?_)))))))))))))
  exact (Lo hD rfl)
theorem rE {n:Int} (h1:-9223372036854775808 ≤ n) (h2:n ≤ 9223372036854775807):bB Tryz.prog 84 [aF .i64 n] (QT (Qi.ofInt n)):=by
 refine bB.intro Tryz.func84 rfl Tryz.ntmps84 rfl (fun cx=>(ts (rn rfl (eW (Ts:=[Is (.bool false),Is (.slice none 0 0),Is (.bool false),Is (.slice none 0 0),Is (.slice none 0 0)]) O_40 rfl (fun V=>aW zd (aW zd (aW zd (aW zd (aW zd (aG))))))) fun B2=>(eX (ts (rm rfl (ro rfl (cZ Tryz.call179 (rB h1 h2) ⟨(Ht rfl),trivial⟩) (ro rfl (Fg ) (ro rfl (cH (xs:=[_]) U_27 Z_24 O_24 (cW (cJ 1) cG) rfl rfl rfl) ?_)))))))))
 refine ro rfl (jU (Ht rfl) (Ht rfl) (Ht rfl)) (gQ Z_40 (Ht rfl) (Ht rfl) rfl (i:=0) rfl (aK rfl) rfl rfl (eX (fW rfl (fX (fK A_40 Z_40 rfl (i:=0) rfl rfl) ?_))))
 exact Yc
theorem Uu {p q d:Int} (p1:-9223372036854775808 ≤ p) (p2:p ≤ 9223372036854775807) (q1:-9223372036854775808 ≤ q) (q2:q ≤ 9223372036854775807) (d1:-9223372036854775808 ≤ d) (d2:d ≤ 9223372036854775807) (hd:d ≠ 0):bB Tryz.prog 91 [aF .i64 p,aF .i64 q,aF .i64 d] (fT [QT (Qi.frac p q d),aF .i64 0]):=by
 have lp:=Ia p1 p2; have lq:=Ia q1 q2; have ld:=Ia d1 d2; have np:=nI p; have nq:=nI q
 refine bB.intro Tryz.func91 rfl Tryz.ntmps91 rfl (fun cx=>(ts (rn rfl (eW (Ts:=[Is (.bool false),Is (.slice none 0 0),Is (.bool false),Is (.slice none 0 0),Is (.slice none 0 0)]) O_40 rfl (fun V=>aW zd (aW zd (aW zd (aW zd (aW zd (aG))))))) fun B6=>(ro rfl (cQ (cJ 0)) (eX (cK (ts (rm rfl (ro rfl (lX (Ht rfl) cV) (eX (mD (Ht rfl) (by simp [hd]) ?_)))))))))))
 refine cU (ts (rm rfl (ro rfl (cZ Tryz.call179 (rB d1 d2) ⟨(Ht rfl),trivial⟩) (rn rfl (eW (Ts:=[Is (.bool false),Is (.slice none 0 0)]) O_38 rfl (fun V=>aW zd (aW zd (aG)))) fun B8=>(gQ Z_38 (Ht rfl) (Ht rfl) rfl (i:=1) rfl (aK rfl) rfl rfl (eX (ts (rm rfl (ro rfl (cZ Tryz.call179 (rB p1 p2) ⟨(Ht rfl),trivial⟩) (rm rfl (ro rfl (cZ Tryz.call179 (rB q1 q2) ⟨(Ht rfl),trivial⟩) (rn rfl (eW (Ts:=[Is (.bool false),Is (.slice none 0 0)]) O_38 rfl (fun V=>aW zd (aW zd (aG)))) fun B9=>?_))))))))))))
 refine rn rfl (eW (Ts:=[Is (.bool false),Is (.slice none 0 0)]) O_38 rfl (fun V=>aW zd (aW zd (aG)))) fun B10=>gQ Z_38 (Ht rfl) (Ht rfl) rfl (i:=2) rfl (aK rfl) rfl rfl (gQ Z_38 (Ht rfl) (Ht rfl) rfl (i:=3) rfl (aK rfl) rfl rfl (eX (cK (mE (fun (a:Int) (b:Int)=>Qi.mk' a b d.natAbs = Qi.frac p q d ∧ (dg a.natAbs).length ≤ 2 ∧ (dg b.natAbs).length ≤ 2) (fun (a:Int) (b:Int)=>[(6,bT B6 0),(8,bT B8 0),(9,bT B9 0),(10,bT B10 0)]) (fun (a:Int) (b:Int)=>[box B6 40 [Is (.bool false),Is (.slice none 0 0),Is (.bool false),Is (.slice none 0 0),Is (.slice none 0 0)],box B8 38 [aC (decide (d < 0)),aB (d).natAbs],box B9 38 [aC (decide (a < 0)),aB (a).natAbs],box B10 38 [aC (decide (b < 0)),aB (b).natAbs]]) ?_ (fun a b ⟨hab,ha,hb⟩=>?_)))))
 ·refine ts (ro rfl (eZ iN (Ht rfl) rfl) (ro rfl (eY A_4 Z_4 (Ht rfl) (i := 1) rfl rfl) (eX (dQ (Ht rfl) (fun hn => ?_) (fun hn => ?_)))))
  ·simp only [decide_eq_true_eq] at hn
   refine fZ (m:=3) (dp 9 rfl (eJ A_38 Z_38 (Ht rfl) (i:=2) rfl rfl rfl) (dq 22 0 rfl (cZ K_191 lI ⟨(Ht rfl),trivial⟩) (dp 10 rfl (eJ A_38 Z_38 (Ht rfl) (i:=3) rfl rfl rfl) (fV mixed rfl (by kernel_rfl) (aJ (aJ (aJ (aV (ro rfl (cZ K_191 lI ⟨(Ht rfl),trivial⟩) (gQ Z_38 (Ht rfl) (Ht rfl) rfl (i:=2) rfl (aK rfl) rfl rfl (gQ Z_38 (Ht rfl) (Ht rfl) rfl (i:=3) rfl (aK rfl) rfl rfl (eX (aS (-p,-q) ⟨Qi.frac_neg hn,by dsimp only; omega,by dsimp only; omega⟩ (zS rfl) (aU (aD rfl) (aU (aD rfl) (aU (aD rfl) (aU (aD rfl) aY)))))))))))))))))
  ·simp only [decide_eq_false_iff_not] at hn
   refine cU (aS (p,q) ⟨Qi.frac_pos hn hd,by omega,by omega⟩ (zS rfl) (cF.refl _))
 ·refine ts (ro rfl (eJ A_38 Z_38 (Ht rfl) (i := 2) rfl rfl rfl) (ro rfl (eJ A_38 Z_38 (Ht rfl) (i := 3) rfl rfl rfl) (ro rfl (eZ dL (Ht rfl) rfl) (ro rfl (eY A_27 Z_27 (Ht rfl) (i := 1) rfl rfl) (ro rfl (cZ Tryz.call185 (rC zo zo zo zo) ⟨(Ht rfl), (Ht rfl), (Ht rfl), trivial⟩) (gQ Z_40 (Ht rfl) (Ht rfl) rfl (i := 0) rfl (aK rfl) rfl rfl (ro rfl (cQ (cJ 0)) (eX (bI rfl (fX (fK A_40 Z_40 rfl (i := 0) rfl rfl) ?_) (eU rfl))))))))))
  exact (rW hab)
theorem xI {r:Rt}:bB Tryz.prog 16 [Ad r] (QT r.q):=by
 have hr1:=r.h1; have hr2:=r.h2; have hr3:=r.h3; have hr4:=r.h4; have hr5:=r.d1; have hr6:=r.d2; have hr0:=r.d0
 refine bB.intro Tryz.func16 rfl Tryz.ntmps16 rfl (fun cx=>(ts (rn rfl (fG (Ht rfl)) fun B1=>(rn rfl (eW (Ts:=[Is (.bool false),Is (.slice none 0 0),Is (.bool false),Is (.slice none 0 0),Is (.slice none 0 0)]) O_40 rfl (fun V=>aW zd (aW zd (aW zd (aW zd (aW zd (aG))))))) fun B2=>(eX (cK (iR (fun (uu:Unit)=>True) (fun (uu:Unit)=>[(1,bT B1 0),(2,bT B2 0)]) (fun (uu:Unit)=>[box B1 23 [aF .i64 r.re,aF .i64 r.im,aF .i64 r.d],box B2 40 [Is (.bool false),Is (.slice none 0 0),Is (.bool false),Is (.slice none 0 0),Is (.slice none 0 0)]]) ?_ (fun uu _=>?_))))))))
 ·refine ts (ro rfl (eZ pL (Ht rfl) rfl) (ro rfl (eY A_2 Z_2 (Ht rfl) (i := 0) rfl rfl) (ro rfl (lX (Ht rfl) cV) (eX (dQ (Ht rfl) (fun hb => ?_) (fun hb => ?_))))))
  ·simp only [decide_eq_true_eq] at hb
   refine cY (ro rfl (eZ pL (Ht rfl) rfl) (iX Z_2 (Ht rfl) (cJ 1) (i:=0) rfl (aK rfl) rfl (eX (aS () trivial (zS rfl) (aU (aD (by rw [Rt.d,if_pos hb]; rfl)) (aU (aD rfl) aY))))))
  ·simp only [decide_eq_false_iff_not] at hb
   refine cU (aS () trivial (zS rfl) (aU (aD (by rw [Rt.d,if_neg hb])) (aU (aD rfl) aY)))
 ·refine ts (ro rfl (eZ Ga (Ht rfl) rfl) (ro rfl (eY A_2 Z_2 (Ht rfl) (i := 0) rfl rfl) (ro rfl (eZ Gc (Ht rfl) rfl) (ro rfl (eY A_2 Z_2 (Ht rfl) (i := 0) rfl rfl) (ro rfl (eZ pL (Ht rfl) rfl) (ro rfl (eY A_2 Z_2 (Ht rfl) (i := 0) rfl rfl) (ro rfl (cZ Tryz.call91 (Uu hr1 hr2 hr3 hr4 hr5 hr6 hr0) ⟨(Ht rfl), (Ht rfl), (Ht rfl), trivial⟩) (rm rfl (ro rfl (dK (Ht rfl) rfl) (ro rfl (dK (Ht rfl) rfl) (rn rfl (eW (Ts := [Is (.bool false), Is (.slice none 0 0), Is (.bool false), Is (.slice none 0 0), Is (.slice none 0 0)]) O_40 rfl (fun V => aW zd (aW zd (aW zd (aW zd (aW zd (aG))))))) fun B3 => ?_)))))))))))
  refine gQ Z_40 (Ht rfl) (Ht rfl) rfl (i:=2) rfl (aK rfl) rfl rfl (ra rfl (eX (ts (ro rfl (eJ A_40 Z_40 (Ht rfl) (i:=2) rfl rfl rfl) (gQ Z_40 (Ht rfl) (Ht rfl) rfl (i:=1) rfl (aK rfl) rfl rfl (eX ?_))))))
  exact fW rfl (fK A_40 Z_40 rfl (i:=1) rfl rfl)
theorem Ke {x y:Qi} {L M:Nat} [hx:aL x L] [hy:aL y M] (h:L + M + 1 ≤ 17592186044415):bB Tryz.prog 96 [QT x,QT y] (QT (x + y)):=by
 have hxa:=iB hx.fit; have hxb:=iM hx.fit; have hxd:=iC hx.fit
 have hya:=iB hy.fit; have hyb:=iM hy.fit; have hyd:=iC hy.fit
 have hxp:=x.den_pos; have hyp:=y.den_pos; have hdp:=Nat.mul_pos hxp hyp
 have e1:=bP x.a y.den; have e2:=bP y.a x.den; have e3:=bP x.b y.den; have e4:=bP y.b x.den; have e5:=oF x.den y.den
 have e6:=iH (x:=x.a * y.den) (y:=y.a * x.den) (L:=L + M) zo zo; have e7:=iH (x:=x.b * y.den) (y:=y.b * x.den) (L:=L + M) zo zo
 refine bB.intro Tryz.func96 rfl Tryz.ntmps96 rfl (fun cx=>?_)
 have n1:(dg ((x.den:Nat):Int).natAbs).length ≤ L:=by rw [Int.natAbs_natCast]; exact hxd
 have n2:(dg ((y.den:Nat):Int).natAbs).length ≤ M:=by rw [Int.natAbs_natCast]; exact hyd
 refine ts (rn rfl (fG (Ht rfl)) fun B2=>(rn rfl (fG (Ht rfl)) fun B3=>(rn rfl (eW (Ts:=[Is (.bool false),Is (.slice none 0 0),Is (.bool false),Is (.slice none 0 0),Is (.slice none 0 0)]) O_40 rfl (fun V=>aW zd (aW zd (aW zd (aW zd (aW zd (aG))))))) fun B4=>(eX (cK (Y.D_start (m:=9) [] (bY (Ei:=[(2,_)]) rfl rfl (bQ (bJ rfl rfl) bX) rfl rfl (dX rfl (eZ gL (Ht rfl) rfl)) (bY (Ei:=[(7,_)]) rfl rfl (bQ (bZ 0 rfl rfl) bX) rfl rfl (dX rfl (eY A_27 Z_27 (Ht rfl) (i:=0) rfl rfl)) ?_))))))))
 refine bY (Ei:=[(8,_)]) rfl rfl (bQ (bZ 1 rfl rfl) bX) rfl rfl (dX rfl (aM.imp (kD cV (Ht rfl)) sL)) (bY (Ei:=[(3,_)]) rfl rfl (bQ (bJ rfl rfl) bX) rfl rfl (dX rfl (eZ gL (Ht rfl) rfl)) (bY (Ei:=[(10,_)]) rfl rfl (bQ (bZ 3 rfl rfl) bX) rfl rfl (dX rfl (eY A_27 Z_27 (Ht rfl) (i:=1) rfl rfl)) (bY (Ei:=[(11,_)]) rfl rfl (bQ (bZ 4 rfl rfl) bX) rfl rfl (dX rfl (aM.imp (kD cV (Ht rfl)) sL)) ?_)))
 refine Y.D_newp (Ei:=[]) (fun bb=>box bb 38 [aC (decide (((x.den:Nat):Int) < 0)),aB (((x.den:Nat):Int)).natAbs]) 8 rfl rfl rfl bX rfl rfl (by kernel_rfl) (eW (Ts:=[Is (.bool false),Is (.slice none 0 0)]) O_38 rfl (fun V=>aW zd (aW zd (aG)))) (Y.D_new (Ei:=[]) rfl rfl rfl bX rfl rfl (eW (Ts:=[Is (.bool false),Is (.slice none 0 0)]) O_38 rfl (fun V=>aW zd (aW zd (aG)))) (Y.D_putN (Ei:=[(9,_)]) 6 rfl rfl rfl rfl rfl rfl (bQ (bZ 2 rfl rfl) bX) (fun bb=>uY Z_38 (Ht rfl) (Ht rfl) rfl (i:=0) rfl (aK rfl) rfl rfl) ?_))
 refine Y.D_done mixed rfl (by kernel_rfl) rfl (by simp [Y.okP]) rfl rfl (bU (bU (bU (bU (bU (bU (Y.F_newp (fun B5=>Y.F_new (fun B6=>Y.F_putN (Y.F_nil ?_))))))))))
 refine gQ Z_38 (Ht rfl) (Ht rfl) rfl (i:=4) rfl (aK rfl) rfl rfl (eX (cK (fZ (m:=22) (dp 2 rfl (eZ gK (Ht rfl) rfl) (dq 13 0 rfl (eJ A_38 Z_38 (Ht rfl) (i:=0) rfl rfl rfl) (dp 6 rfl (eJ A_38 Z_38 (Ht rfl) (i:=4) rfl rfl rfl) (cP 14 1 15 2 rfl (cZ K_186 (iG zo zo) ⟨(Ht rfl),(Ht rfl),trivial⟩) (dp 3 rfl (eZ gK (Ht rfl) rfl) (dq 17 4 rfl (eJ A_38 Z_38 (Ht rfl) (i:=1) rfl rfl rfl) (dp 5 rfl (eJ A_38 Z_38 (Ht rfl) (i:=3) rfl rfl rfl) ?_))))))))))
 refine cP 18 5 19 6 rfl (cZ K_186 (iG zo zo) ⟨(Ht rfl),(Ht rfl),trivial⟩) (cP 16 3 20 7 rfl (cZ Tryz.call190 (pC zo zo) ⟨(Ht rfl),(Ht rfl),trivial⟩) (dp 2 rfl (eZ gT (Ht rfl) rfl) (dq 22 9 rfl (eJ A_38 Z_38 (Ht rfl) (i:=0) rfl rfl rfl) (dp 6 rfl (eJ A_38 Z_38 (Ht rfl) (i:=4) rfl rfl rfl) (cP 23 10 24 11 rfl (cZ K_186 (iG zo zo) ⟨(Ht rfl),(Ht rfl),trivial⟩) (dp 3 rfl (eZ gT (Ht rfl) rfl) (dq 26 13 rfl (eJ A_38 Z_38 (Ht rfl) (i:=1) rfl rfl rfl) ?_)))))))
 refine dp 5 rfl (eJ A_38 Z_38 (Ht rfl) (i:=3) rfl rfl rfl) (cP 27 14 28 15 rfl (cZ K_186 (iG zo zo) ⟨(Ht rfl),(Ht rfl),trivial⟩) (cP 25 12 29 16 rfl (cZ Tryz.call190 (pC zo zo) ⟨(Ht rfl),(Ht rfl),trivial⟩) (dp 2 rfl (eZ gL (Ht rfl) rfl) (dq 31 18 rfl (eY A_27 Z_27 (Ht rfl) (i:=0) rfl rfl) (dp 3 rfl (eZ gL (Ht rfl) rfl) (dq 33 20 rfl (eY A_27 Z_27 (Ht rfl) (i:=1) rfl rfl) (fV mixed rfl (by kernel_rfl) (zF (zF (zF (zF (zF (aJ (aJ (aV ?_)))))))))))))))
 refine ro rfl (cZ Tryz.call187 (pD zo zo) ⟨(Ht rfl),(Ht rfl),trivial⟩) (ro rfl (cZ Tryz.call185 (rC (by first | assumption | omega) zo zo zo) ⟨(Ht rfl),(Ht rfl),(Ht rfl),trivial⟩) (gQ Z_40 (Ht rfl) (Ht rfl) rfl (i:=2) rfl (aK rfl) rfl rfl (eX (fW rfl (fX (fK A_40 Z_40 rfl (i:=2) rfl rfl) ?_)))))
 exact (rW (Qi.mk_add x y))
theorem Ut {x:Qi}:bB Tryz.prog 188 [QT x] (QT (-x)):=by
 refine bB.intro Tryz.func188 rfl Tryz.ntmps188 rfl (fun cx=>(ts (rn rfl (fG (Ht rfl)) fun B1=>(rn rfl (eW (Ts:=[Is (.bool false),Is (.slice none 0 0),Is (.bool false),Is (.slice none 0 0),Is (.slice none 0 0)]) O_40 rfl (fun V=>aW zd (aW zd (aW zd (aW zd (aW zd (aG))))))) fun B2=>(eX (cK (fZ (m:=8) (dp 1 rfl (eZ gK (Ht rfl) rfl) (dq 3 0 rfl (eJ A_38 Z_38 (Ht rfl) (i:=0) rfl rfl rfl) (dq 4 1 rfl (cZ K_191 lI ⟨(Ht rfl),trivial⟩) ?_))))))))))
 refine dp 1 rfl (eZ gT (Ht rfl) rfl) (dq 6 3 rfl (eJ A_38 Z_38 (Ht rfl) (i:=0) rfl rfl rfl) (dq 7 4 rfl (cZ K_191 lI ⟨(Ht rfl),trivial⟩) (dp 1 rfl (eZ gL (Ht rfl) rfl) (dq 9 6 rfl (eY A_27 Z_27 (Ht rfl) (i:=0) rfl rfl) (fV mixed rfl (by kernel_rfl) (zF (zF (aV (ro rfl (jU (Ht rfl) (Ht rfl) (Ht rfl)) (gQ Z_40 (Ht rfl) (Ht rfl) rfl (i:=1) rfl (aK rfl) rfl rfl (eX (fW rfl (fX (fK A_40 Z_40 rfl (i:=1) rfl rfl) ?_)))))))))))))
 exact (kC (by obtain ⟨e1,e2,e3⟩:=Qi.neg_a x; rw [e1,e2,e3]; rfl))
theorem Fn {x:Qi}:bB Tryz.prog 184 [QT x] (QT x.conj):=by
 refine bB.intro Tryz.func184 rfl Tryz.ntmps184 rfl (fun cx=>(ts (rn rfl (fG (Ht rfl)) fun B1=>(rn rfl (eW (Ts:=[Is (.bool false),Is (.slice none 0 0),Is (.bool false),Is (.slice none 0 0),Is (.slice none 0 0)]) O_40 rfl (fun V=>aW zd (aW zd (aW zd (aW zd (aW zd (aG))))))) fun B2=>(eX (cK (fZ (m:=7) (dp 1 rfl (eZ gK (Ht rfl) rfl) (dq 3 0 rfl (eJ A_38 Z_38 (Ht rfl) (i:=0) rfl rfl rfl) (dp 1 rfl (eZ gT (Ht rfl) rfl) ?_))))))))))
 refine dq 5 2 rfl (eJ A_38 Z_38 (Ht rfl) (i:=0) rfl rfl rfl) (dq 6 3 rfl (cZ K_191 lI ⟨(Ht rfl),trivial⟩) (dp 1 rfl (eZ gL (Ht rfl) rfl) (dq 8 5 rfl (eY A_27 Z_27 (Ht rfl) (i:=0) rfl rfl) (fV mixed rfl (by kernel_rfl) (zF (aJ (aJ (aJ (aV (ro rfl (jU (Ht rfl) (Ht rfl) (Ht rfl)) (gQ Z_40 (Ht rfl) (Ht rfl) rfl (i:=1) rfl (aK rfl) rfl rfl (eX (fW rfl (fX (fK A_40 Z_40 rfl (i:=1) rfl rfl) ?_))))))))))))))
 exact (kC (by obtain ⟨e1,e2,e3⟩:=Qi.conj_a x; rw [e1,e2,e3]; rfl))
theorem Uw {x y:Qi} {L M:Nat} [hx:aL x L] [hy:aL y M] (h:L + M + 1 ≤ 17592186044415):bB Tryz.prog 88 [QT x,QT y] (QT (x - y)):=by
 have hxa:=iB hx.fit; have hxb:=iM hx.fit; have hxd:=iC hx.fit
 have hya:=iB hy.fit; have hyb:=iM hy.fit; have hyd:=iC hy.fit
 have hxp:=x.den_pos; have hyp:=y.den_pos; have hdp:=Nat.mul_pos hxp hyp
 refine bB.intro Tryz.func88 rfl Tryz.ntmps88 rfl (fun cx=>(ts (rn rfl (fG (Ht rfl)) fun B2=>(rn rfl (fG (Ht rfl)) fun B3=>(rn rfl (eW (Ts:=[Is (.bool false),Is (.slice none 0 0),Is (.bool false),Is (.slice none 0 0),Is (.slice none 0 0)]) O_40 rfl (fun V=>aW zd (aW zd (aW zd (aW zd (aW zd (aG))))))) fun B4=>(eX (cK (fZ (m:=3) (dp 2 rfl (eJ A_40 Z_40 (Ht rfl) (i:=0) rfl rfl rfl) (dp 3 rfl (eJ A_40 Z_40 (Ht rfl) (i:=1) rfl rfl rfl) ?_))))))))))
 refine dq 6 1 rfl (cZ Tryz.call188 Ut ⟨(Ht rfl),trivial⟩) (fV mixed rfl (by kernel_rfl) (aJ (aJ (aJ (aV (ro rfl (cZ Tryz.call96 (Ke zo) ⟨(Ht rfl),(Ht rfl),trivial⟩) (gQ Z_40 (Ht rfl) (Ht rfl) rfl (i:=2) rfl (aK rfl) rfl rfl (eX (fW rfl (fX (fK A_40 Z_40 rfl (i:=2) rfl rfl) ?_))))))))))
 exact (rW (Qi.sub_def x y).symm)
theorem sF {x y:Qi} {L M:Nat} [hx:aL x L] [hy:aL y M] (h:L + M + 1 ≤ 17592186044415):bB Tryz.prog 89 [QT x,QT y] (QT (x * y)):=by
 have hxa:=iB hx.fit; have hxb:=iM hx.fit; have hxd:=iC hx.fit
 have hya:=iB hy.fit; have hyb:=iM hy.fit; have hyd:=iC hy.fit
 have hxp:=x.den_pos; have hyp:=y.den_pos; have hdp:=Nat.mul_pos hxp hyp
 have e1:=iI x.a y.a; have e2:=iI x.b y.b; have e3:=iI x.a y.b; have e4:=iI x.b y.a; have e5:=oF x.den y.den; have e8:=nI (x.b * y.b)
 have e6:=iH (x:=x.a * y.a) (y:=-(x.b * y.b)) (L:=L + M) zo zo; have e7:=iH (x:=x.a * y.b) (y:=x.b * y.a) (L:=L + M) zo zo
 refine bB.intro Tryz.func89 rfl Tryz.ntmps89 rfl (fun cx=>(ts (rn rfl (fG (Ht rfl)) fun B2=>(rn rfl (fG (Ht rfl)) fun B3=>(rn rfl (eW (Ts:=[Is (.bool false),Is (.slice none 0 0),Is (.bool false),Is (.slice none 0 0),Is (.slice none 0 0)]) O_40 rfl (fun V=>aW zd (aW zd (aW zd (aW zd (aW zd (aG))))))) fun B4=>(eX (cK (fZ (m:=26) (dp 2 rfl (eZ gK (Ht rfl) rfl) (dq 5 0 rfl (eJ A_38 Z_38 (Ht rfl) (i:=0) rfl rfl rfl) ?_))))))))))
 refine dp 3 rfl (eZ gK (Ht rfl) rfl) (dq 7 2 rfl (eJ A_38 Z_38 (Ht rfl) (i:=1) rfl rfl rfl) (cP 6 1 8 3 rfl (cZ K_186 (iG zo zo) ⟨(Ht rfl),(Ht rfl),trivial⟩) (dp 2 rfl (eZ gT (Ht rfl) rfl) (dq 10 5 rfl (eJ A_38 Z_38 (Ht rfl) (i:=0) rfl rfl rfl) (dp 3 rfl (eZ gT (Ht rfl) rfl) (dq 12 7 rfl (eJ A_38 Z_38 (Ht rfl) (i:=1) rfl rfl rfl) (cP 11 6 13 8 rfl (cZ K_186 (iG zo zo) ⟨(Ht rfl),(Ht rfl),trivial⟩) (cP 9 4 14 9 rfl (cZ Tryz.call189 (Hx zo zo) ⟨(Ht rfl),(Ht rfl),trivial⟩) ?_))))))))
 refine dp 2 rfl (eZ gK (Ht rfl) rfl) (dq 16 11 rfl (eJ A_38 Z_38 (Ht rfl) (i:=0) rfl rfl rfl) (dp 3 rfl (eZ gT (Ht rfl) rfl) (dq 18 13 rfl (eJ A_38 Z_38 (Ht rfl) (i:=1) rfl rfl rfl) (cP 17 12 19 14 rfl (cZ K_186 (iG zo zo) ⟨(Ht rfl),(Ht rfl),trivial⟩) (dp 2 rfl (eZ gT (Ht rfl) rfl) (dq 21 16 rfl (eJ A_38 Z_38 (Ht rfl) (i:=0) rfl rfl rfl) (dp 3 rfl (eZ gK (Ht rfl) rfl) (dq 23 18 rfl (eJ A_38 Z_38 (Ht rfl) (i:=1) rfl rfl rfl) ?_))))))))
 refine cP 22 17 24 19 rfl (cZ K_186 (iG zo zo) ⟨(Ht rfl),(Ht rfl),trivial⟩) (cP 20 15 25 20 rfl (cZ Tryz.call190 (pC zo zo) ⟨(Ht rfl),(Ht rfl),trivial⟩) (dp 2 rfl (eZ gL (Ht rfl) rfl) (dq 27 22 rfl (eY A_27 Z_27 (Ht rfl) (i:=0) rfl rfl) (dp 3 rfl (eZ gL (Ht rfl) rfl) (dq 29 24 rfl (eY A_27 Z_27 (Ht rfl) (i:=1) rfl rfl) (fV mixed rfl (by kernel_rfl) (zF (zF (zF (zF (zF (zF (aJ (aJ (aV ?_)))))))))))))))
 refine ro rfl (cZ Tryz.call187 (pD zo zo) ⟨(Ht rfl),(Ht rfl),trivial⟩) (ro rfl (cZ Tryz.call185 (rC (by first | assumption | omega) zo zo zo) ⟨(Ht rfl),(Ht rfl),(Ht rfl),trivial⟩) (gQ Z_40 (Ht rfl) (Ht rfl) rfl (i:=2) rfl (aK rfl) rfl rfl (eX (fW rfl (fX (fK A_40 Z_40 rfl (i:=2) rfl rfl) ?_)))))
 exact (rW (Qi.mk_mul x y))
theorem Pe {x:Qi}:bB Tryz.prog 182 [QT x] (aC (decide (x = Qi.zero))):=by
 refine bB.intro Tryz.func182 rfl Tryz.ntmps182 rfl (fun cx=>(ts (rn rfl (fG (Ht rfl)) fun B1=>(ro rfl (cQ cV) (eX (ts (ro rfl (eZ gK (Ht rfl) rfl) (ro rfl (eZ dL (Ht rfl) rfl) (ro rfl (eY A_27 Z_27 (Ht rfl) (i:=0) rfl rfl) (ro rfl (dG U_27 (Ht rfl) aA) (ro rfl (cE (Ht rfl) (cJ 0)) (rm rfl (fQ rfl rfl (eK rfl rfl (Ht rfl) (fun h=>eZ gT (Ht rfl) rfl)) (fQ rfl rfl (eK rfl rfl (Ht rfl) (fun h=>eZ dL (fJ rfl h) rfl)) (fQ rfl rfl (eK rfl rfl (Ht rfl) (fun h=>eY A_27 Z_27 (fJ rfl h) (i:=0) rfl rfl)) ?_)))))))))))))))
 refine fQ rfl rfl (eK rfl rfl (Ht rfl) (fun h=>dG U_27 (fJ rfl h) aA)) (fQ rfl rfl (eK rfl rfl (Ht rfl) (fun h=>cE (fJ rfl h) (cJ 0))) (ro rfl (eA (Ht rfl) (fun h=>(fJ rfl h))) (ra rfl (eX (fW rfl (fX (eU rfl) ?_))))))
 exact (gF (Nd x))
theorem Sx {x:Qi} {L:Nat} [hx:aL x L] (h:L ≤ 17592186044415):bB Tryz.prog 180 [QT x] (QT x.imp):=by
 have hxa:=iB hx.fit; have hxb:=iM hx.fit; have hxd:=iC hx.fit
 have hxp:=x.den_pos
 have h5:(dg (0:Int).natAbs).length ≤ 0:=by rw [show (0:Int).natAbs = 0 from rfl,cD]; exact Nat.le_refl _
 refine bB.intro Tryz.func180 rfl Tryz.ntmps180 rfl (fun cx=>(ts (rn rfl (fG (Ht rfl)) fun B1=>(rn rfl (eW (Ts:=[Is (.bool false),Is (.slice none 0 0),Is (.bool false),Is (.slice none 0 0),Is (.slice none 0 0)]) O_40 rfl (fun V=>aW zd (aW zd (aW zd (aW zd (aW zd (aG))))))) fun B2=>(eX (ts (ro rfl (eZ gT (Ht rfl) rfl) (ro rfl (eJ A_38 Z_38 (Ht rfl) (i:=0) rfl rfl rfl) (ro rfl (aM.imp (Fg ) wQ) ?_)))))))))
 refine ro rfl (eZ gL (Ht rfl) rfl) (ro rfl (eY A_27 Z_27 (Ht rfl) (i:=0) rfl rfl) (ro rfl (cZ Tryz.call185 (rC (by first | assumption | omega) zo zo zo) ⟨(Ht rfl),(Ht rfl),(Ht rfl),trivial⟩) (gQ Z_40 (Ht rfl) (Ht rfl) rfl (i:=1) rfl (aK rfl) rfl rfl (eX (fW rfl (fX (fK A_40 Z_40 rfl (i:=1) rfl rfl) ?_))))))
 exact (rW (Qi.mk_im0 x))
theorem Pb {x:Qi} {L:Nat} [hx:aL x L] (h:L + L + 1 ≤ 17592186044415):bB Tryz.prog 183 [QT x] (QT x.norm):=by
 refine bB.intro Tryz.func183 rfl Tryz.ntmps183 rfl (fun cx=>(ts (rn rfl (fG (Ht rfl)) fun B1=>(rn rfl (eW (Ts:=[Is (.bool false),Is (.slice none 0 0),Is (.bool false),Is (.slice none 0 0),Is (.slice none 0 0)]) O_40 rfl (fun V=>aW zd (aW zd (aW zd (aW zd (aW zd (aG))))))) fun B2=>(eX (cK (fZ (m:=3) (dp 1 rfl (eJ A_40 Z_40 (Ht rfl) (i:=0) rfl rfl rfl) (dp 1 rfl (eJ A_40 Z_40 (Ht rfl) (i:=0) rfl rfl rfl) ?_)))))))))
 refine dq 4 1 rfl (cZ Tryz.call184 Fn ⟨(Ht rfl),trivial⟩) (fV mixed rfl (by kernel_rfl) (aJ (aJ (aJ (aV (ro rfl (cZ K_89 (sF zo) ⟨(Ht rfl),(Ht rfl),trivial⟩) (gQ Z_40 (Ht rfl) (Ht rfl) rfl (i:=1) rfl (aK rfl) rfl rfl (eX (fW rfl (fX (fK A_40 Z_40 rfl (i:=1) rfl rfl) ?_))))))))))
 exact (rW (Qi.mul_conj x))
theorem rD {x:Qi}:bB Tryz.prog 90 [QT x] (aF .i64 (dH x.a 0)):=by
 refine bB.intro Tryz.func90 rfl Tryz.ntmps90 rfl (fun cx=>(ts (rn rfl (fG (Ht rfl)) fun B1=>(ro rfl (cQ (cJ 0)) (eX (cK (ts (ro rfl (eZ gK (Ht rfl) rfl) (ro rfl (eZ iN (Ht rfl) rfl) (ro rfl (eY A_4 Z_4 (Ht rfl) (i:=0) rfl rfl) (eX (dQ (Ht rfl) (fun hb=>?_) (fun hb=>?_)))))))))))))
 ·simp only [decide_eq_true_eq] at hb
  refine ts (ro rfl (cQ cV) (eX (fW rfl (fX (eU rfl) ?_))))
  exact (aN (by rw [dH,if_pos hb]))
 ·simp only [decide_eq_false_iff_not] at hb
  refine cU (cK (ts (ro rfl (eZ gK (Ht rfl) rfl) (ro rfl (eZ dL (Ht rfl) rfl) (ro rfl (eY A_27 Z_27 (Ht rfl) (i:=0) rfl rfl) (ro rfl (dG U_27 (Ht rfl) aA) (ro rfl (dM (Ht rfl) (cJ 0)) (eX (dQ (Ht rfl) (fun hc=>?_) (fun hc=>?_))))))))))
  ·simp only [decide_eq_true_eq] at hc
   have h0:x.a ≠ 0:=fun e=>by rw [e] at hc; simp [cD] at hc
   refine ts (ro rfl (cQ (cJ 1)) (eX (fW rfl (fX (eU rfl) ?_))))
   exact (aN (by rw [dH,if_neg hb,if_pos zo]; rfl))
  ·simp only [decide_eq_false_iff_not] at hc
   have h0:x.a = 0:=by have:=aI.1 (Nat.eq_zero_of_not_pos hc); omega
   refine cU (ts (ro rfl (cQ (cJ 0)) (eX (fW rfl (fX (eU rfl) ?_)))))
   exact (aN (by rw [dH,if_neg hb,if_neg zo]; rfl))
theorem yV {x:Qi} {L:Nat} [hx:aL x L] (h:L ≤ 17592186044415):bB Tryz.prog 97 [QT x] (aF .i64 (dH x.b 0)):=by
 refine bB.intro Tryz.func97 rfl Tryz.ntmps97 rfl (fun cx=>(ts (rn rfl (fG (Ht rfl)) fun B1=>(ro rfl (cQ (cJ 0)) (eX (ts (ro rfl (eJ A_40 Z_40 (Ht rfl) (i:=0) rfl rfl rfl) (ro rfl (cZ Tryz.call180 (Sx zo) ⟨(Ht rfl),trivial⟩) (ro rfl (cZ Tryz.call90 rD ⟨(Ht rfl),trivial⟩) (ra rfl (eX (fW rfl (fX (eU rfl) ?_)))))))))))))
 exact (aN (Rm x))
theorem Pc {x y:Qi} {L M:Nat} [hx:aL x L] [hy:aL y M] (h:L + 3 * M + 2 ≤ 17592186044415):bB Tryz.prog 87 [QT x,QT y] (fT [QT (x / y),aF .i64 (if y = Qi.zero then 3 else 0)]):=by
 have hxa:=iB hx.fit; have hxb:=iM hx.fit; have hxd:=iC hx.fit
 have hya:=iB hy.fit; have hyb:=iM hy.fit; have hyd:=iC hy.fit
 have hxp:=x.den_pos; have hyp:=y.den_pos; have hdp:=Nat.mul_pos hxp hyp
 refine bB.intro Tryz.func87 rfl Tryz.ntmps87 rfl (fun cx=>(ts (rn rfl (fG (Ht rfl)) fun B2=>(rn rfl (fG (Ht rfl)) fun B3=>(rn rfl (eW (Ts:=[Is (.bool false),Is (.slice none 0 0),Is (.bool false),Is (.slice none 0 0),Is (.slice none 0 0)]) O_40 rfl (fun V=>aW zd (aW zd (aW zd (aW zd (aW zd (aG))))))) fun B4=>(ro rfl (cQ (cJ 0)) (eX (cK (ts (ro rfl (eJ A_40 Z_40 (Ht rfl) (i:=1) rfl rfl rfl) ?_))))))))))
 refine ro rfl (cZ Tryz.call182 Pe ⟨(Ht rfl),trivial⟩) (eX (dQ (Ht rfl) (fun hb=>?_) (fun hb=>?_)))
 ·simp only [decide_eq_true_eq] at hb
  refine ts (ro rfl (cZ Tryz.call84 (rE (by decide) (by decide)) ⟨(cJ 0),trivial⟩) (gQ Z_40 (Ht rfl) (Ht rfl) rfl (i:=2) rfl (aK rfl) rfl rfl (ro rfl (cQ (cJ 3)) (eX (bI rfl (fX (fK A_40 Z_40 rfl (i:=2) rfl rfl) ?_) (fX (eU rfl) ?_))))))
  ·exact (rW (by rw [hb,Qi.div_zero]; rfl))
  ·exact (aN (by rw [if_pos hb]; rfl))
 ·simp only [decide_eq_false_iff_not] at hb
  obtain ⟨n,hn⟩:∃ n,n = y.norm:=⟨_,rfl⟩
  obtain ⟨z,hz⟩:∃ z,z = x * y.conj:=⟨_,rfl⟩
  haveI fn:aL n (M + M + 1):=hn ▸ fitNorm
  haveI fz:aL z (L + M + 1):=hz ▸ fitMul
  have hna:=iB fn.fit; have hnd:=iC fn.fit; have hza:=iB fz.fit; have hzb:=iM fz.fit; have hzd:=iC fz.fit
  have hnp:0 < n.a:=hn ▸ Qi.norm_pos hb
  have hm:((n.a.natAbs:Nat):Int) = n.a:=Int.natAbs_of_nonneg zo
  have hdp2:=Nat.mul_pos z.den_pos (show 0 < n.a.natAbs by omega)
  have n1:(dg ((n.den:Nat):Int).natAbs).length ≤ M + M + 1:=by rw [Int.natAbs_natCast]; exact hnd
  have e1:=bP z.a n.den; have e2:=bP z.b n.den; have e3:=oF z.den n.a.natAbs
  refine cU (ts (ro rfl (eJ A_40 Z_40 (Ht rfl) (i:=1) rfl rfl rfl) (ro rfl (aM.imp (cZ Tryz.call183 (Pb zo) ⟨(Ht rfl),trivial⟩) (rW hn.symm)) (rn rfl (eW (Ts:=[Is (.bool false),Is (.slice none 0 0),Is (.bool false),Is (.slice none 0 0),Is (.slice none 0 0)]) O_40 rfl (fun V=>aW zd (aW zd (aW zd (aW zd (aW zd (aG))))))) fun B6=>(gQ Z_40 (Ht rfl) (Ht rfl) rfl (i:=3) rfl (aK rfl) rfl rfl ?_)))))
  refine eX (cK (fZ (m:=5) (dp 2 rfl (eJ A_40 Z_40 (Ht rfl) (i:=0) rfl rfl rfl) (dp 3 rfl (eJ A_40 Z_40 (Ht rfl) (i:=1) rfl rfl rfl) (dq 15 1 rfl (cZ Tryz.call184 Fn ⟨(Ht rfl),trivial⟩) (cP 14 0 16 2 rfl (aM.imp (cZ K_89 (sF zo) ⟨(Ht rfl),(Ht rfl),trivial⟩) (rW hz.symm)) (C.D_new (Ei:=[]) rfl rfl rfl bW (eW (Ts:=[Is (.bool false),Is (.slice none 0 0),Is (.bool false),Is (.slice none 0 0),Is (.slice none 0 0)]) O_40 rfl (fun V=>aW zd (aW zd (aW zd (aW zd (aW zd (aG))))))) ?_)))))))
  refine fV mixed rfl (by kernel_rfl) (zF (C.F_new (fun B7=>aV (gQ Z_40 (Ht rfl) (Ht rfl) rfl (i:=4) rfl (aK rfl) rfl rfl (eX (ts (ro rfl (eZ gL (Ht rfl) rfl) (ro rfl (eY A_27 Z_27 (Ht rfl) (i:=3) rfl rfl) (ro rfl (aM.imp (kD cV (Ht rfl)) sL) (rn rfl (eW (Ts:=[Is (.bool false),Is (.slice none 0 0)]) O_38 rfl (fun V=>aW zd (aW zd (aG)))) fun B8=>(gQ Z_38 (Ht rfl) (Ht rfl) rfl (i:=5) rfl (aK rfl) rfl rfl ?_)))))))))))
  refine eX (cK (fZ (m:=13) (dp 7 rfl (eZ gK (Ht rfl) rfl) (dq 21 0 rfl (eJ A_38 Z_38 (Ht rfl) (i:=4) rfl rfl rfl) (dp 8 rfl (eJ A_38 Z_38 (Ht rfl) (i:=5) rfl rfl rfl) (cP 22 1 23 2 rfl (cZ K_186 (iG zo zo) ⟨(Ht rfl),(Ht rfl),trivial⟩) (dp 7 rfl (eZ gT (Ht rfl) rfl) (dq 25 4 rfl (eJ A_38 Z_38 (Ht rfl) (i:=4) rfl rfl rfl) (dp 8 rfl (eJ A_38 Z_38 (Ht rfl) (i:=5) rfl rfl rfl) (cP 26 5 27 6 rfl (cZ K_186 (iG zo zo) ⟨(Ht rfl),(Ht rfl),trivial⟩) ?_))))))))))
  refine dp 7 rfl (eZ gL (Ht rfl) rfl) (dq 29 8 rfl (eY A_27 Z_27 (Ht rfl) (i:=4) rfl rfl) (dp 6 rfl (eZ gK (Ht rfl) rfl) (dq 31 10 rfl (eZ dL (Ht rfl) rfl) (dq 32 11 rfl (eY A_27 Z_27 (Ht rfl) (i:=3) rfl rfl) (fV mixed rfl (by kernel_rfl) (zF (zF (zF (aJ (aV (ro rfl (cZ Tryz.call187 (pD zo zo) ⟨(Ht rfl),(Ht rfl),trivial⟩) (ro rfl (cZ Tryz.call185 (rC (by first | assumption | omega) zo zo zo) ⟨(Ht rfl),(Ht rfl),(Ht rfl),trivial⟩) ?_))))))))))))
  refine gQ Z_40 (Ht rfl) (Ht rfl) rfl (i:=2) rfl (aK rfl) rfl rfl (ro rfl (cQ (cJ 0)) (eX (bI rfl (fX (fK A_40 Z_40 rfl (i:=2) rfl rfl) ?_) (fX (eU rfl) ?_))))
  ·exact (rW (Qi.mk_divR x hb hz hn hm))
  ·exact (aN (by rw [if_neg hb]; rfl))
theorem Sr {x y:Qi} {L M:Nat} [hx:aL x L] [hy:aL y M] (h:L + 3 * M + 2 ≤ 17592186044415):bB Tryz.prog 142 [bA x,bA y] (fT [bA (x / y),aF .i64 (if y = Qi.zero then 3 else 0)]):=by
 have hxa:=iB hx.fit; have hxb:=iM hx.fit; have hxd:=iC hx.fit
 have hya:=iB hy.fit; have hyb:=iM hy.fit; have hyd:=iC hy.fit
 have hxp:=x.den_pos; have hyp:=y.den_pos; have hMp:=hy.pos
 refine bB.intro Tryz.func142 rfl Tryz.ntmps142 rfl (fun cx=>(ts (rn rfl (fG (Ht rfl)) fun B2=>(rn rfl (fG (Ht rfl)) fun B3=>(rn rfl (eW (Ts:=[Is (.bool false),Is (.slice none 0 0),Is (.bool false),Is (.slice none 0 0),Is (.slice none 0 0)]) O_32 rfl (fun V=>aW zd (aW zd (aW zd (aW zd (aW zd (aG))))))) fun B4=>(ro rfl (cQ (cJ 0)) (eX (cK (ts (ro rfl (eJ A_32 Z_32 (Ht rfl) (i:=1) rfl rfl rfl) ?_))))))))))
 refine ro rfl (cZ Tryz.call34 (Om zo) ⟨(Ht rfl),trivial⟩) (ro rfl (eN (Ht rfl)) (eX (dQ (Ht rfl) (fun hb=>?_) (fun hb=>?_))))
 ·have h0 : y = Qi.zero := by simpa using hb
  refine ts (ro rfl (aM.imp (uC ) jV) (gQ Z_32 (Ht rfl) (Ht rfl) rfl (i:=2) rfl (aK rfl) rfl rfl (ro rfl (cQ (cJ 3)) (eX (bI rfl (fX (fK A_32 Z_32 rfl (i:=2) rfl rfl) ?_) (fX (eU rfl) ?_))))))
  ·exact (jF (by rw [h0,Qi.div_zero]))
  ·exact (aN (by rw [if_pos h0]; rfl))
 ·have h0 : y ≠ Qi.zero := by simpa using hb
  have g1:=iI y.a y.a; have g2:=iI y.b y.b; have g3:=nI y.b
  have g4:=iH (x:=y.a * y.a) (y:=y.b * y.b) (L:=M + M) zo zo
  obtain ⟨c,hc⟩:∃ c,c = Qi.mk' y.a (-y.b) 1:=⟨_,rfl⟩
  obtain ⟨z,hz⟩:∃ z,z = x * c:=⟨_,rfl⟩
  have l1:(dg 1).length ≤ 1:=by rw [Kr (by decide) (by decide)]; exact Nat.le_refl _
  haveI fc:aL c M:=hc ▸ ⟨Qi.Fit.mk (by decide) hy.fit.1 (by rw [Int.natAbs_neg]; exact hy.fit.2.1) (Qi.one_lt hMp)⟩
  haveI fz:aL z (L + M + 1):=hz ▸ fitMul
  have hza:=iB fz.fit; have hzb:=iM fz.fit; have hzd:=iC fz.fit
  have hnp:=Qi.nrm_int_pos h0
  have hm:(((y.a * y.a + y.b * y.b).natAbs:Nat):Int) = y.a * y.a + y.b * y.b:=Int.natAbs_of_nonneg zo
  have hdp2:=Nat.mul_pos z.den_pos (show 0 < (y.a * y.a + y.b * y.b).natAbs by omega)
  have e1:=bP z.a y.den; have e2:=bP z.b y.den; have e3:=oF z.den (y.a * y.a + y.b * y.b).natAbs
  refine cU (cK (fZ (m:=12) (dp 3 rfl (eZ eO (Ht rfl) rfl) (dq 12 0 rfl (eJ A_30 Z_30 (Ht rfl) (i:=1) rfl rfl rfl) (dp 3 rfl (eZ eO (Ht rfl) rfl) (dq 14 2 rfl (eJ A_30 Z_30 (Ht rfl) (i:=1) rfl rfl rfl) (cP 13 1 15 3 rfl (cZ K_105 (pG zo zo) ⟨(Ht rfl),(Ht rfl),trivial⟩) (dp 3 rfl (eZ fR (Ht rfl) rfl) (dq 17 5 rfl (eJ A_30 Z_30 (Ht rfl) (i:=1) rfl rfl rfl) (dp 3 rfl (eZ fR (Ht rfl) rfl) (dq 19 7 rfl (eJ A_30 Z_30 (Ht rfl) (i:=1) rfl rfl rfl) ?_)))))))))))
  refine cP 18 6 20 8 rfl (cZ K_105 (pG zo zo) ⟨(Ht rfl),(Ht rfl),trivial⟩) (cP 16 4 21 9 rfl (cZ K_106 (sD zo zo) ⟨(Ht rfl),(Ht rfl),trivial⟩) (C.D_new (Ei:=[]) rfl rfl rfl bW (eW (Ts:=[Is (.bool false),Is (.slice none 0 0)]) O_30 rfl (fun V=>aW zd (aW zd (aG)))) (fV mixed rfl (by kernel_rfl) (zF (zF (aJ (aJ (aJ (C.F_new (fun B6=>aV (gQ Z_30 (Ht rfl) (Ht rfl) rfl (i:=3) rfl (aK rfl) rfl rfl ?_)))))))))))
  refine eX (cK (fZ (m:=10) (dp 2 rfl (eJ A_32 Z_32 (Ht rfl) (i:=0) rfl rfl rfl) (dp 3 rfl (eZ eO (Ht rfl) rfl) (dq 24 1 rfl (eJ A_30 Z_30 (Ht rfl) (i:=1) rfl rfl rfl) (dp 3 rfl (eZ fR (Ht rfl) rfl) (dq 26 3 rfl (eJ A_30 Z_30 (Ht rfl) (i:=1) rfl rfl rfl) (dq 27 4 rfl (cZ K_107 mG ⟨(Ht rfl),trivial⟩) (d0 rfl (aM.imp (cH (xs:=[_]) U_28 Z_24 O_24 (cW (cJ 1) cG) rfl rfl rfl) wG) (C.D_step (Ei:=[(25,_),(28,_),(29,_)]) rfl rfl (bV (bG 2 rfl rfl) (bV (bG 5 rfl rfl) (bV (bG 6 rfl rfl) bW))) (dX rfl (aM.imp (cZ K_108 (sC (by first | assumption | omega) zo zo zo) ⟨(Ht rfl),(Ht rfl),(Ht rfl),trivial⟩) (jF hc.symm))) ?_))))))))))
  refine cP 23 0 30 7 rfl (aM.imp (cZ K_29 (lR zo) ⟨(Ht rfl),(Ht rfl),trivial⟩) (jF hz.symm)) (C.D_new (Ei:=[]) rfl rfl rfl bW (eW (Ts:=[Is (.bool false),Is (.slice none 0 0),Is (.bool false),Is (.slice none 0 0),Is (.slice none 0 0)]) O_32 rfl (fun V=>aW zd (aW zd (aW zd (aW zd (aW zd (aG))))))) (fV mixed rfl (by kernel_rfl) (zF (zF (aJ (C.F_new (fun B7=>aV ?_)))))))
  refine gQ Z_32 (Ht rfl) (Ht rfl) rfl (i:=4) rfl (aK rfl) rfl rfl (eX (cK (fZ (m:=14) (dp 7 rfl (eZ eO (Ht rfl) rfl) (dq 32 0 rfl (eJ A_30 Z_30 (Ht rfl) (i:=4) rfl rfl rfl) (dp 3 rfl (eJ A_32 Z_32 (Ht rfl) (i:=1) rfl rfl rfl) (dq 34 2 rfl (cZ K_109 mF ⟨(Ht rfl),trivial⟩) (cP 33 1 35 3 rfl (cZ K_111 (jI zo zo) ⟨(Ht rfl),(Ht rfl),trivial⟩) (dp 7 rfl (eZ fR (Ht rfl) rfl) (dq 37 5 rfl (eJ A_30 Z_30 (Ht rfl) (i:=4) rfl rfl rfl) ?_))))))))))
  refine dp 3 rfl (eJ A_32 Z_32 (Ht rfl) (i:=1) rfl rfl rfl) (dq 39 7 rfl (cZ K_109 mF ⟨(Ht rfl),trivial⟩) (cP 38 6 40 8 rfl (cZ K_111 (jI zo zo) ⟨(Ht rfl),(Ht rfl),trivial⟩) (dp 7 rfl (eJ A_32 Z_32 (Ht rfl) (i:=4) rfl rfl rfl) (dq 42 10 rfl (cZ K_109 mF ⟨(Ht rfl),trivial⟩) (dp 6 rfl (eZ dA (Ht rfl) rfl) (dq 44 12 rfl (eY A_28 Z_28 (Ht rfl) (i:=3) rfl rfl) (fV mixed rfl (by kernel_rfl) (zF (zF (zF (aJ (aJ (aV ?_)))))))))))))
  refine ro rfl (cZ Tryz.call110 (Ao zo zo) ⟨(Ht rfl),(Ht rfl),trivial⟩) (ro rfl (cZ K_108 (sC (by first | assumption | omega) zo zo zo) ⟨(Ht rfl),(Ht rfl),(Ht rfl),trivial⟩) (gQ Z_32 (Ht rfl) (Ht rfl) rfl (i:=2) rfl (aK rfl) rfl rfl (ro rfl (cQ (cJ 0)) (eX (bI rfl (fX (fK A_32 Z_32 rfl (i:=2) rfl rfl) ?_) (fX (eU rfl) ?_))))))
  ·exact (jF (Qi.mk_divP x h0 (hc ▸ hz) hm))
  ·exact (aN (by rw [if_neg h0]; rfl))
theorem pE {a:Int} {d:Nat} (hd:0 < d) (ha:(dg a.natAbs).length ≤ 8796093022208) (hd2:(dg d).length ≤ 8796093022208):bB Tryz.prog 193 [cB a,aB d] (mS (oR a d)):=by
 have hg:=vO ha hd2
 have hg0:Nat.gcd a.natAbs d ≠ 0:=fun e=>by have:=Nat.gcd_eq_zero_iff.1 e; omega
 have h1:=zA a.natAbs (Nat.gcd a.natAbs d); have h2:=zA d (Nat.gcd a.natAbs d)
 rw [Qz a hd]
 obtain ⟨u,hu⟩:∃ u,u = a.natAbs / Nat.gcd a.natAbs d:=⟨_,rfl⟩
 obtain ⟨v,hv⟩:∃ v,v = d / Nat.gcd a.natAbs d:=⟨_,rfl⟩
 rw [← hu,← hv]
 rw [← hu] at h1
 rw [← hv] at h2
 have h3:=nH u; have h4:=nH v
 refine bB.intro Tryz.func193 rfl Tryz.ntmps193 rfl (fun cx=>(ts (rn rfl (fG (Ht rfl)) fun B2=>(ro rfl (cQ (aT.cS (l:=[]) rfl)) (eX (ts (ro rfl (eZ dL (Ht rfl) rfl) (ro rfl (eY A_27 Z_27 (Ht rfl) (i:=0) rfl rfl) (rm rfl (ro rfl (cZ Tryz.call237 (Du zo zo) ⟨(Ht rfl),(Ht rfl),trivial⟩) (ra rfl (eX (ts (ro rfl (eZ dL (Ht rfl) rfl) (ro rfl (eY A_27 Z_27 (Ht rfl) (i:=0) rfl rfl) (rm rfl (ro rfl (cZ K_238 (sE zo zo zo) ⟨(Ht rfl),(Ht rfl),trivial⟩) ?_)))))))))))))))))
 refine rm rfl (ro rfl (aM.imp (dK (Ht rfl) rfl) (bH hu.symm)) (ro rfl (dK (Ht rfl) rfl) (ra rfl (ra rfl (eX (ts (rm rfl (rm rfl (ro rfl (cZ K_238 (sE zo zo zo) ⟨(Ht rfl),(Ht rfl),trivial⟩) (rm rfl (ro rfl (aM.imp (dK (Ht rfl) rfl) (bH hv.symm)) (ro rfl (dK (Ht rfl) rfl) (ra rfl (ra rfl (eX (ts (rm rfl (ro rfl (cZ Tryz.call244 (Fo zo) ⟨(Ht rfl),trivial⟩) (ra rfl (eX (cK (iR (fun (uu:Unit)=>True) (fun (uu:Unit)=>[(8,aB v),(10,mS (if a < 0 then 45 :: qD u else qD u))]) (fun (uu:Unit)=>[box B2 38 [aC (decide (a < 0)),aB (a).natAbs]]) ?_ (fun uu _=>?_)))))))))))))))))))))))
 ·refine ts (ro rfl (eZ iN (Ht rfl) rfl) (ro rfl (eY A_4 Z_4 (Ht rfl) (i := 0) rfl rfl) (eX (dQ (Ht rfl) (fun hb => ?_) (fun hb => ?_)))))
  ·simp only [decide_eq_true_eq] at hb
   refine cY (rm rfl (ro rfl (hZ (aT.cS (l:=[45]) rfl) (Ht rfl) (by first | omega | (simp; omega))) (ra rfl (eX (aS () trivial (aQ rfl (aZ rfl (gR (by rw [if_pos hb]; rfl)) aX)) (cF.refl _))))))
  ·simp only [decide_eq_false_iff_not] at hb
   refine cU (aS () trivial (aQ rfl (aZ rfl (gR (by rw [if_neg hb])) aX)) (cF.refl _))
 ·have h6 : (if a < 0 then 45 :: qD u else qD u).length ≤ (qD u).length + 1 := by split <;> simp
  refine cK (ts (rm rfl (ro rfl (dG U_27 (Ht rfl) aA) (ro rfl (cE (Ht rfl) (cJ 1)) (rm rfl (fQ rfl rfl (eK rfl rfl (Ht rfl) (fun h=>cX (Ht rfl))) (fQ rfl rfl (eK rfl rfl (Ht rfl) (fun h=>dZ U_27 Z_24 (fJ rfl h) (cJ 0) rfl (dY (aH (by first | omega | (simp at h; omega)))))) (fQ rfl rfl (eK rfl rfl (Ht rfl) (fun h=>dJ A_24 Z_24 (fJ rfl h))) (fQ rfl rfl (eK rfl rfl (Ht rfl) (fun h=>cE (fJ rfl h) (cJ 1))) (ro rfl (eA (Ht rfl) (fun h=>(fJ rfl h))) ?_))))))))))
  refine eX (dQ (Ht rfl) (fun hc=>?_) (fun hc=>?_))
  ·rw [zL] at hc
   have hv1:v = 1:=by simpa using hc
   refine ts (rm rfl (ra rfl (eX (fW rfl (fX (eU rfl) ?_)))))
   exact (gR (by rw [if_pos hv1,List.append_nil]))
  ·rw [zL] at hc
   have hv1:v ≠ 1:=by simpa using hc
   refine cU (ts (rm rfl (ro rfl (hZ (Ht rfl) (aT.cS (l:=[47]) rfl) (by simp only [List.length_cons,List.length_nil]; omega)) ?_)))
   refine rm rfl (ro rfl (cZ Tryz.call244 (Fo zo) ⟨(Ht rfl),trivial⟩) (ro rfl (hZ (Ht rfl) (Ht rfl) (by simp only [List.length_append,List.length_cons,List.length_nil]; omega)) ?_))
   refine ra rfl (eX (fW rfl (fX (eU rfl) ?_)))
   exact (gR (by rw [if_neg hv1,List.append_assoc]; rfl))
theorem Ux {x:Qi} {L:Nat} [hx:aL x L] (h:L ≤ 8796093022208):bB Tryz.prog 93 [QT x] (mS (Ix x)):=by
 have hxa:=iB hx.fit; have hxb:=iM hx.fit; have hxd:=iC hx.fit
 have hdp:=x.den_pos
 have l1:=rU x.a hdp; have l2:=rU x.b hdp
 refine bB.intro Tryz.func93 rfl Tryz.ntmps93 rfl (fun cx=>(ts (rn rfl (fG (Ht rfl)) fun B1=>(ro rfl (cQ (aT.cS (l:=[]) rfl)) (eX (cK (ts (ro rfl (eZ gT (Ht rfl) rfl) (ro rfl (eZ dL (Ht rfl) rfl) (ro rfl (eY A_27 Z_27 (Ht rfl) (i:=0) rfl rfl) (ro rfl (dG U_27 (Ht rfl) aA) (ro rfl (cE (Ht rfl) (cJ 0)) (eX (dQ (Ht rfl) (fun hb=>?_) (fun hb=>?_)))))))))))))))
 ·simp only [decide_eq_true_eq] at hb
  have h0:x.b = 0:=by have:=aI.1 hb; omega
  refine ts (ro rfl (eZ gK (Ht rfl) rfl) (ro rfl (eJ A_38 Z_38 (Ht rfl) (i:=0) rfl rfl rfl) (ro rfl (eZ gL (Ht rfl) rfl) (ro rfl (eY A_27 Z_27 (Ht rfl) (i:=0) rfl rfl) (ro rfl (cZ K_193 (pE (by assumption) zo zo) ⟨(Ht rfl),(Ht rfl),trivial⟩) ?_)))))
  refine ra rfl (eX (fW rfl (fX (eU rfl) ?_)))
  exact (gR (by rw [Ix,if_pos h0]))
 ·simp only [decide_eq_false_iff_not] at hb
  have h0:x.b ≠ 0:=fun e=>hb (by rw [e]; exact aI.2 rfl)
  refine cU (cK (ts (ro rfl (eZ gK (Ht rfl) rfl) (ro rfl (eZ dL (Ht rfl) rfl) (ro rfl (eY A_27 Z_27 (Ht rfl) (i:=0) rfl rfl) (ro rfl (dG U_27 (Ht rfl) aA) (ro rfl (cE (Ht rfl) (cJ 0)) (eX (dQ (Ht rfl) (fun hc=>?_) (fun hc=>?_))))))))))
  ·simp only [decide_eq_true_eq] at hc
   have h1:x.a = 0:=by have:=aI.1 hc; omega
   refine ts (ro rfl (eZ gT (Ht rfl) rfl) (ro rfl (eJ A_38 Z_38 (Ht rfl) (i:=0) rfl rfl rfl) (ro rfl (eZ gL (Ht rfl) rfl) (ro rfl (eY A_27 Z_27 (Ht rfl) (i:=0) rfl rfl) (ro rfl (cZ K_193 (pE (by assumption) zo zo) ⟨(Ht rfl),(Ht rfl),trivial⟩) ?_)))))
   refine ro rfl (hZ (Ht rfl) (aT.cS (l:=[105]) rfl) (by first | omega | (simp only [List.length_append,List.length_cons,List.length_nil]; omega))) (ra rfl (eX (fW rfl (fX (eU rfl) ?_))))
   exact (gR (by rw [Ix,if_neg h0,if_pos h1]))
  ·simp only [decide_eq_false_iff_not] at hc
   have h1:x.a ≠ 0:=fun e=>hc (by rw [e]; exact aI.2 rfl)
   refine cU (cK (ts (ro rfl (eZ gT (Ht rfl) rfl) (ro rfl (eZ iN (Ht rfl) rfl) (ro rfl (eY A_4 Z_4 (Ht rfl) (i:=0) rfl rfl) (eX (dQ (Ht rfl) (fun hd=>?_) (fun hd=>?_))))))))
   ·simp only [decide_eq_true_eq] at hd
    refine cK (fZ (m:=9) (dp 1 rfl (eZ gK (Ht rfl) rfl) (dq 27 0 rfl (eJ A_38 Z_38 (Ht rfl) (i:=0) rfl rfl rfl) (dp 1 rfl (eZ gL (Ht rfl) rfl) (dq 29 2 rfl (eY A_27 Z_27 (Ht rfl) (i:=0) rfl rfl) (cP 28 1 30 3 rfl (cZ K_193 (pE (by assumption) zo zo) ⟨(Ht rfl),(Ht rfl),trivial⟩) ?_))))))
    refine dp 1 rfl (eZ gT (Ht rfl) rfl) (dq 32 5 rfl (eJ A_38 Z_38 (Ht rfl) (i:=0) rfl rfl rfl) (dp 1 rfl (eZ gL (Ht rfl) rfl) (dq 34 7 rfl (eY A_27 Z_27 (Ht rfl) (i:=0) rfl rfl) (fV mixed rfl (by kernel_rfl) (zF (zF (aJ (aV (ro rfl (cZ K_193 (pE (by assumption) zo zo) ⟨(Ht rfl),(Ht rfl),trivial⟩) ?_)))))))))
    refine ro rfl (hZ (Ht rfl) (Ht rfl) (by first | omega | (simp only [List.length_append,List.length_cons,List.length_nil]; omega))) (ro rfl (hZ (Ht rfl) (aT.cS (l:=[105]) rfl) (by first | omega | (simp only [List.length_append,List.length_cons,List.length_nil]; omega))) (ra rfl (eX (fW rfl (fX (eU rfl) ?_)))))
    exact (gR (by rw [Ix,if_neg h0,if_neg h1,if_pos hd,List.append_assoc]))
   ·simp only [decide_eq_false_iff_not] at hd
    refine cU (cK (fZ (m:=11) (dp 1 rfl (eZ gK (Ht rfl) rfl) (dq 39 0 rfl (eJ A_38 Z_38 (Ht rfl) (i:=0) rfl rfl rfl) (dp 1 rfl (eZ gL (Ht rfl) rfl) (dq 41 2 rfl (eY A_27 Z_27 (Ht rfl) (i:=0) rfl rfl) (cP 40 1 42 3 rfl (cZ K_193 (pE (by assumption) zo zo) ⟨(Ht rfl),(Ht rfl),trivial⟩) ?_)))))))
    refine dq 43 4 rfl (hZ (Ht rfl) (aT.cS (l:=[43]) rfl) (by first | omega | (simp only [List.length_append,List.length_cons,List.length_nil]; omega))) (dp 1 rfl (eZ gT (Ht rfl) rfl) (dq 45 6 rfl (eJ A_38 Z_38 (Ht rfl) (i:=0) rfl rfl rfl) (dp 1 rfl (eZ gL (Ht rfl) rfl) (dq 47 8 rfl (eY A_27 Z_27 (Ht rfl) (i:=0) rfl rfl) (cP 46 7 48 9 rfl (cZ K_193 (pE (by assumption) zo zo) ⟨(Ht rfl),(Ht rfl),trivial⟩) ?_)))))
    refine fV mixed rfl (by kernel_rfl) (zF (zF (aJ (aJ (aJ (aV (ro rfl (hZ (Ht rfl) (Ht rfl) (by first | omega | (simp only [List.length_append,List.length_cons,List.length_nil]; omega))) (ro rfl (hZ (Ht rfl) (aT.cS (l:=[105]) rfl) (by first | omega | (simp only [List.length_append,List.length_cons,List.length_nil]; omega))) (ra rfl (eX (fW rfl (fX (eU rfl) ?_))))))))))))
    exact (gR (by rw [Ix,if_neg h0,if_neg h1,if_neg hd,List.append_assoc,List.append_assoc]; rfl))
theorem Fm {x y:Qi} {L M:Nat} [hx:aL x L] [hy:aL y M] (h:L ≤ 8796093022208) (h2:M ≤ 8796093022208):bB Tryz.prog 17 [bA x,QT y] (aC (decide (Ix x = Ix y))):=by
 refine bB.intro Tryz.func17 rfl Tryz.ntmps17 rfl (fun cx=>(ts (rn rfl (fG (Ht rfl)) fun B2=>(rn rfl (fG (Ht rfl)) fun B3=>(ro rfl (cQ cV) (eX (cK (fZ (m:=3) (dp 2 rfl (eJ A_32 Z_32 (Ht rfl) (i:=0) rfl rfl rfl) (dq 5 0 rfl (cZ Tryz.call92 (Do zo) ⟨(Ht rfl),trivial⟩) (dp 3 rfl (eJ A_40 Z_40 (Ht rfl) (i:=1) rfl rfl rfl) (fV mixed rfl (by kernel_rfl) (aJ (aJ (aJ (aV (ro rfl (cZ Tryz.call93 (Ux zo) ⟨(Ht rfl),trivial⟩) (ro rfl (Ed (Ht rfl) (Ht rfl)) ?_))))))))))))))))))
 refine ra rfl (eX ?_)
 exact fW rfl (eU rfl)
end
section
open Go Go.RowKit
theorem pP:Tryz.prog.info? 54 = some Tryz.t54:=by kernel_rfl
end
section
open Go Go.RowKit
theorem Dl {γ:Type} {l:List γ} {T:γ → Ty} {p:γ → Bool} [sh:∀ x,cA (T x) 5 true] (hl:l.length ≤ 1000000):bB Tryz.prog 284 [kM 5 (l.map T),zY Tryz.prog γ (fun x=>[T x]) (fun x=>aC (p x))] (aF .i64 (Bm p l)):=by
 refine bB.intro Tryz.func284 rfl Tryz.ntmps284 rfl (fun cx=>(ts (ro rfl (cQ (cJ 0)) (eX (cK (ts (rm rfl (ro rfl (dG U_54 (Ht rfl) aA) (ro rfl (cX (cJ 0)) (eX (eG ?_)))))))))))
 refine eP (fun (k : Nat) => k ≤ l.length ∧ ∀ (i : Nat) (x : γ), i < k → l[i]? = some x → p x = false) (fun (k : Nat) => l.length - k) (fun (k : Nat) => [(0, kM 5 (l.map T)), (1, zY Tryz.prog γ (fun x => [T x]) (fun x => aC (p x))), (7, NT .i64 l.length), (8, NT .i64 k)]) (fun (k : Nat) => []) 0 ⟨Nat.zero_le _, fun i x h => by omega⟩
  (zS rfl) aY (fun k ⟨hk,hn⟩=>?_)
 refine ts (ro rfl (gX (Ht rfl) (Ht rfl)) (eX (cK (dQ (Ht rfl) (fun hb=>?_) (fun hb=>?_)))))
 ·simp only [decide_eq_true_eq] at hb
  refine cU (cK (eG (ts (rm rfl (ra rfl (eX (ts (rm rfl (rm rfl (rm rfl (ro rfl (dZ U_54 Z_32 (Ht rfl) (Ht rfl) rfl (dY (tW hb))) (ro rfl (dJ A_32 Z_32 (Ht rfl)) (ro rfl (jW (l[k]) (Ht rfl) ⟨(Ht rfl),trivial⟩) (eX (dQ (Ht rfl) (fun hc=>?_) (fun hc=>?_))))))))))))))))
  ·have hp : p l[k] = true := hc
   refine ts (rm rfl (ra rfl (eX (fW rfl (fX (eU rfl) ?_)))))
   exact (aN (Gk (tW hb) hp hn).symm)
  ·have hp : p l[k] = false := hc
   refine cU (bF (cY (ro rfl (dV (Ht rfl) (cJ 1) z6) (rm rfl (eX ?_)))))
   refine fU (k + 1) ⟨hb, fun i x h1 h2 => by
    by_cases e:i = k
    ·subst e; rw [tW hb] at h2; obtain rfl:=Option.some.inj h2; exact hp
    ·exact hn i x zo h2⟩ zo (zS rfl) aY
 ·simp only [decide_eq_false_iff_not] at hb
  refine gV rfl (ts (ro rfl (cQ cV) (eX (fW rfl (fX (eU rfl) ?_)))))
  exact (aN (xU (fun i x h=>hn i x (by have:=(List.getElem?_eq_some_iff.1 h).1; omega) h)).symm)
theorem wW {γ:Type} {l:List γ} {T:γ → Ty} {p:γ → Bool} [sh:∀ x,cA (T x) 5 true] (hl:l.length ≤ 1000000):bB Tryz.prog 245 [kM 5 (l.map T),zY Tryz.prog γ (fun x=>[T x]) (fun x=>aC (p x))] (aC (l.any p)):=by
 refine bB.intro Tryz.func245 rfl Tryz.ntmps245 rfl (fun cx=>(ts (ro rfl (cQ cV) (eX (ts (rm rfl (rm rfl (ro rfl (cZ Tryz.call284 (Dl zo) ⟨(Ht rfl),(Ht rfl),trivial⟩) (ro rfl (jX (Ht rfl) cV) (ra rfl (eX (fW rfl (fX (eU rfl) ?_)))))))))))))
 exact (gF (Bn p l))
theorem Dm {γ:Type} {l:List γ} {T:γ → Ty} {p:γ → Bool} [sh:∀ x,cA (T x) 1 false] (hl:l.length ≤ 1000000):bB Tryz.prog 208 [kM 1 (l.map T),zY Tryz.prog γ (fun x=>[T x]) (fun x=>aC (p x))] (aF .i64 (Bm p l)):=by
 refine bB.intro Tryz.func208 rfl Tryz.ntmps208 rfl (fun cx=>(ts (ro rfl (cQ (cJ 0)) (eX (cK (ts (rm rfl (ro rfl (dG U_78 (Ht rfl) aA) (ro rfl (cX (cJ 0)) (eX (eG ?_)))))))))))
 refine eP (fun (k : Nat) => k ≤ l.length ∧ ∀ (i : Nat) (x : γ), i < k → l[i]? = some x → p x = false) (fun (k : Nat) => l.length - k) (fun (k : Nat) => [(0, kM 1 (l.map T)), (1, zY Tryz.prog γ (fun x => [T x]) (fun x => aC (p x))), (7, NT .i64 l.length), (8, NT .i64 k)]) (fun (k : Nat) => []) 0 ⟨Nat.zero_le _, fun i x h => by omega⟩
  (zS rfl) aY (fun k ⟨hk,hn⟩=>?_)
 refine ts (ro rfl (gX (Ht rfl) (Ht rfl)) (eX (cK (dQ (Ht rfl) (fun hb=>?_) (fun hb=>?_)))))
 ·simp only [decide_eq_true_eq] at hb
  refine cU (cK (eG (ts (rm rfl (ra rfl (eX (ts (rm rfl (rm rfl (rm rfl (ro rfl (dZ U_78 Z_54 (Ht rfl) (Ht rfl) rfl (dY (tW hb))) (ro rfl (dJ A_54 Z_54 (Ht rfl)) (ro rfl (jW (l[k]) (Ht rfl) ⟨(Ht rfl),trivial⟩) (eX (dQ (Ht rfl) (fun hc=>?_) (fun hc=>?_))))))))))))))))
  ·have hp : p l[k] = true := hc
   refine ts (rm rfl (ra rfl (eX (fW rfl (fX (eU rfl) ?_)))))
   exact (aN (Gk (tW hb) hp hn).symm)
  ·have hp : p l[k] = false := hc
   refine cU (bF (cY (ro rfl (dV (Ht rfl) (cJ 1) z6) (rm rfl (eX ?_)))))
   refine fU (k + 1) ⟨hb, fun i x h1 h2 => by
    by_cases e:i = k
    ·subst e; rw [tW hb] at h2; obtain rfl:=Option.some.inj h2; exact hp
    ·exact hn i x zo h2⟩ zo (zS rfl) aY
 ·simp only [decide_eq_false_iff_not] at hb
  refine gV rfl (ts (ro rfl (cQ cV) (eX (fW rfl (fX (eU rfl) ?_)))))
  exact (aN (xU (fun i x h=>hn i x (by have:=(List.getElem?_eq_some_iff.1 h).1; omega) h)).symm)
theorem wX {γ:Type} {l:List γ} {T:γ → Ty} {p:γ → Bool} [sh:∀ x,cA (T x) 1 false] (hl:l.length ≤ 1000000):bB Tryz.prog 118 [kM 1 (l.map T),zY Tryz.prog γ (fun x=>[T x]) (fun x=>aC (p x))] (aC (l.any p)):=by
 refine bB.intro Tryz.func118 rfl Tryz.ntmps118 rfl (fun cx=>(ts (ro rfl (cQ cV) (eX (ts (rm rfl (rm rfl (ro rfl (cZ Tryz.call208 (Dm zo) ⟨(Ht rfl),(Ht rfl),trivial⟩) (ro rfl (jX (Ht rfl) cV) (ra rfl (eX (fW rfl (fX (eU rfl) ?_)))))))))))))
 exact (gF (Bn p l))
theorem Dt {x:Qi} {L:Nat} [hx:aL x L] (h:L ≤ 8796093022208):bB Tryz.prog 136 [bA x] (aC (fL x)):=by
 haveI hz:aL Qi.zero 1:=aL.zero (Nat.le_refl 1)
 refine bB.intro Tryz.func136 rfl Tryz.ntmps136 rfl (fun cx=>(ts (rn rfl (fG (Ht rfl)) fun B1=>(ro rfl (cQ cV) (eX (ts (ro rfl (eJ A_32 Z_32 (Ht rfl) (i:=0) rfl rfl rfl) (ro rfl (cZ K_35 qN ⟨(Ht rfl),trivial⟩) (rm rfl (fQ rfl rfl (eK rfl rfl (Ht rfl) (fun h=>eJ A_32 Z_32 (Ht rfl) (i:=0) rfl rfl rfl)) (fQ rfl rfl (eK rfl rfl (Ht rfl) (fun h=>aM.imp (uC ) jV)) (fQ rfl rfl (eK rfl rfl (Ht rfl) (fun h=>cZ K_30 (tE zo) ⟨(fJ rfl h),(fJ rfl h),trivial⟩)) ?_))))))))))))
 refine fQ rfl rfl (eK rfl rfl (Ht rfl) (fun h=>kH (fJ rfl h) cV)) (ro rfl (eA (Ht rfl) (fun h=>(fJ rfl h))) (ra rfl (eX (fW rfl (fX (eU rfl) ?_)))))
 exact (gF (Ef x))
theorem yS {x:Qi} {L:Nat} [hx:aL x L] (h:L ≤ 8796093022208):bB Tryz.prog 246 [bA x] (aC (!fL x)):=by
 refine bB.intro Tryz.func246 rfl Tryz.ntmps246 rfl (fun cx=>(ts (rn rfl (fG (Ht rfl)) fun B1=>(ro rfl (cQ cV) (eX (ts (ro rfl (eJ A_32 Z_32 (Ht rfl) (i:=0) rfl rfl rfl) (ro rfl (cZ Tryz.call136 (Dt zo) ⟨(Ht rfl),trivial⟩) (ro rfl (eN (Ht rfl)) (ra rfl (eX ?_)))))))))))
 exact fW rfl (eU rfl)
theorem Ap {z:List Qi} {L:Nat} (hz:fS z L) (h:L ≤ 8796093022208) (hl:z.length ≤ 1000):bB Tryz.prog 194 [gE z] (aF .i64 (if z.all fL then 0 else 1)):=by
 obtain ⟨l,hzl⟩:∃ l:List {x:Qi // aL x L},z = l.map Subtype.val:=⟨z.attach.map fun x=>⟨x.1,hz x.1 x.2⟩,by simp⟩
 subst hzl
 have hll:l.length ≤ 1000:=by simpa using hl
 refine bB.intro Tryz.func194 rfl Tryz.ntmps194 rfl (fun cx=>(lQ (E':=[(0,_)]) (aZ rfl (oX (Us:=l.map fun x=>bA x.1) (by simp [List.map_map,Function.comp_def])) aX) ?_))
 refine ts (ro rfl (cQ (cJ 0)) (eX (cK (ts (rm rfl (ro rfl (cZ Tryz.call245 (wW (l:=l) (T:=fun x=>bA x.1) (p:=fun x=>!fL x.1) zo) ⟨(Ht rfl),(aT.fn Tryz.call246 (γ:={x:Qi // aL x L}) (Ts:=fun x=>[bA x.1]) (U:=fun x=>aC (!fL x.1)) (fun x=>haveI:=x.2; yS h)),trivial⟩) (eX (dQ (Ht rfl) (fun hb=>?_) (fun hb=>?_)))))))))
 ·have hn : ¬ (l.map Subtype.val).all fL = true := by simp at hb ⊢; exact hb
  refine ts (ro rfl (cQ (cJ 1)) (eX (fW rfl (fX (eU rfl) ?_))))
  exact (aN (by rw [if_neg hn]; rfl))
 ·have hn : (l.map Subtype.val).all fL = true := by simp at hb ⊢; exact hb
  refine cU (ts (ro rfl (cQ (cJ 0)) (eX (fW rfl (fX (eU rfl) ?_)))))
  exact (aN (by rw [if_pos hn]; rfl))
theorem Jv {l:List Qi} (hl:l.length ≤ 1000):jC Tryz.prog 120 [gE l] [] (Value) (fun v=>Is v) (fun v=>[bE 32 5 v (l.map bA)]) (fun _=>True):=by
 refine jC.intro Tryz.func120 rfl Tryz.ntmps120 rfl (fun cx Z=>(ts (ro rfl (cQ cV) (eX (cK (ts (rm rfl (ro rfl (Me U_54 (Ht rfl)) (eX (Og (Ht rfl) (fun hb=>?_) (fun hb=>?_)))))))))))
 ·have hT : l.map bA = [] := hb rfl
  refine ts (ro rfl (cQ cV) (eX (Af 32 5 ?_)))
  exact lP (.slice none 0 0) trivial [0,1] ⟨⟨_,rfl,fun _ _ _ h=>h⟩,⟨_,rfl,(bN hT.symm)⟩,trivial⟩ (by decide) (zQ rfl (eU rfl))
 ·refine cU (ts (rn rfl (Bx U_54 Z_32 O_32) fun B5 => (rm rfl (Hr (inf := Tryz.t32) oY mK rfl rfl rfl (Ht rfl) (Ht rfl) (i := 1) rfl (fun T hT => by obtain ⟨x, _, rfl⟩ := List.mem_map.1 hT; exact El.ag rfl) (by show _ * 88 ≤ _; simp only [List.length_map, List.length_nil]; omega) (by simp only [List.length_map, List.length_nil]; omega) rfl (fun v2 => ?_)))))
  refine ra rfl (eX ?_)
  exact lP v2 trivial [0,1] ⟨⟨_,rfl,fun _ _ _ h=>h⟩,⟨_,rfl,fun _ _ _ h=>h⟩,trivial⟩ (by decide) (zQ rfl (eU rfl))
theorem On {l:List Qi} (hl:l.length ≤ 1000):bB Tryz.prog 120 [gE l] (gE l):=(Jv hl).fun fun v _=>lE
theorem Ow {n:Nat} {f:Nat → Nat → Qi} (hn:n ≤ 1000):jC Tryz.prog 144 [NT .i64 n,zY Tryz.prog (Fin n × Fin n) (fun x=>[NT .i64 x.1.1,NT .i64 x.2.1]) (fun x=>bA (f x.1.1 x.2.1))] [] (Nat) (fun B=>Is (.slice (some ⟨B,0,none⟩) n n)) (fun B=>[wB B 54 32 5 (eH bA (tab n fun i=>tab n (f i)))]) (fun _=>True):=by
 refine jC.intro Tryz.func144 rfl Tryz.ntmps144 rfl (fun cx Z=>(ts (ro rfl (cQ cV) (eX (ts (rm rfl (rn rfl (dC (T:=Is (.slice none 0 0)) (i:=Tryz.t54) V_78 pP rfl rfl (Ht rfl) rfl (fun _=>rfl) trivial (by show 24 * _ ≤ _; omega) zo) fun B9=>(ra rfl (eX (cK (ts (rm rfl (ro rfl (iZ U_78 (Ht rfl)) (ro rfl (cX (cJ 0)) (eX (eG (qJ 1 rfl (uK (e:=32) (s:=5)) ?_)))))))))))))))))
 refine dP (fun (k : Nat) (m : List (List Qi)) => kR (fun i => tab n (f i)) n m k) (fun (k : Nat) (m : List (List Qi)) => n - k) (fun (k : Nat) (m : List (List Qi)) => [(0, NT .i64 n), (1, zY Tryz.prog (Fin n × Fin n) (fun x => [NT .i64 x.1.1, NT .i64 x.2.1]) (fun x => bA (f x.1.1 x.2.1))), (5, Is (.slice (some ⟨B9, 0, none⟩) n n)), (11, NT .i64 n), (12, NT .i64 k)]) (fun (k : Nat) (m : List (List Qi)) => [Z, wB B9 54 32 5 (eH bA m)]) 0 (List.replicate n []) (kR.start _ _ _)
  (zS rfl) (aU (fun _ _ _ h=>h) (aU (dT (oS bA n)) aY)) (fun k m hS=>?_)
 refine ts (ro rfl (gX (Ht rfl) (Ht rfl)) (eX (cK (dQ (Ht rfl) (fun hk=>?_) (fun hk=>?_)))))
 ·simp only [decide_eq_true_eq] at hk
  have hlen:=hS.len
  refine tZ 1 (k) rfl (La (m:=m) (i:=k) zo) (fun v=>(cU (cK (eG (ts (rm rfl (ra rfl (eX (ts (rm rfl (rm rfl (rm rfl (rn rfl (pS (T:=bA Qi.zero) (i:=Tryz.t32) oY mK rfl rfl (Ht rfl) rfl lW (El.ag rfl) (by show 88 * _ ≤ _; omega) zo) fun B18=>(ro rfl (fY U_78 Z_54 (Ht rfl) (Ht rfl) rfl zo (by rw [Nat.mul_one,Nat.zero_add])) ?_))))))))))))))
  refine Ac Z_54 (Ht rfl) (Ht rfl) (by simp; omega) (j:=1) (l:=3) rfl rfl rfl ?_
  refine eX (cK (eD [0,1,3] rfl (by decide) (cY (rm rfl (rm rfl (ro rfl (fY U_78 Z_54 (Ht rfl) (Ht rfl) rfl zo (by rw [Nat.mul_one,Nat.zero_add])) ?_))))))
  refine ro rfl (nL A_54 Z_54 (Ht rfl) (j:=1) rfl) (ro rfl (mO U_54 (Ht rfl) (i:=2) rfl (show ((List.replicate n (bA Qi.zero)).length:Int) = ((n:Nat):Int) by simp)) (ro rfl (cX (cJ 0)) (eX (eG ?_))))
  refine dP (fun (j : Nat) (out : List Qi) => kR (f k) n out j) (fun (j : Nat) (out : List Qi) => n - j) (fun (j : Nat) (out : List Qi) => [(0, NT .i64 n), (1, zY Tryz.prog (Fin n × Fin n) (fun x => [NT .i64 x.1.1, NT .i64 x.2.1]) (fun x => bA (f x.1.1 x.2.1))), (5, Is (.slice (some ⟨B9, 0, none⟩) n n)), (6, NT .i64 k), (11, NT .i64 n), (12, NT .i64 k), (24, NT .i64 n), (25, NT .i64 j)]) (fun (j : Nat) (out : List Qi) => [Z, Lq B9 54 32 5 (eH bA m) k B18, bE 32 5 B18 (out.map bA)]) 0 (List.replicate n Qi.zero) (kR.start _ _ _)
   (zS rfl) (aU (fun _ _ _ h=>h) (aU (fun _ _ _ h=>h) (aU (bN (oT bA _ _)) aY))) (fun j out hT=>?_)
  refine ts (ro rfl (gX (Ht rfl) (Ht rfl)) (eX (cK (dQ (Ht rfl) (fun hj=>?_) (fun hj=>?_)))))
  ·simp only [decide_eq_true_eq] at hj
   have hlen2:=hT.len
   refine cU (cK (eG (ts (rm rfl (ra rfl (eX (fZ (m:=9) (dp 5 rfl (cX (Ht rfl)) (dp 6 rfl (cX (Ht rfl)) (cP 28 0 29 1 rfl (fY U_78 Z_54 (Ht rfl) (Ht rfl) rfl zo (by rw [Nat.mul_one,Nat.zero_add])) ?_))))))))))
   refine dq 30 2 rfl (nL A_54 Z_54 (Ht rfl) (j:=1) rfl) (dp 7 rfl (cX (Ht rfl)) (dp 1 rfl (cX (Ht rfl)) (dp 6 rfl (cX (Ht rfl)) (dp 7 rfl (cX (Ht rfl)) (C.D_step (Ei:=[(33,_),(34,_),(35,_)]) rfl rfl (bV (bG 5 rfl rfl) (bV (bG 6 rfl rfl) (bV (bG 7 rfl rfl) bW))) (dX rfl (jW ((⟨k,hk⟩,⟨j,hj⟩):Fin n × Fin n) (Ht rfl) ⟨(Ht rfl),(Ht rfl),trivial⟩)) (fV mixed rfl (by kernel_rfl) (zF (zF (aJ (aV ?_))))))))))
   refine ro rfl (eI U_54 Z_32 (Ht rfl) (Ht rfl) rfl (i:=2) rfl (by first | omega | (simp; omega)) rfl) (nV Z_32 (Ht rfl) (Ht rfl) (El.ag rfl) (i:=2) rfl rfl (by first | omega | (simp; omega)) rfl (eX (bF (cY (ro rfl (dV (Ht rfl) (cJ 1) z6) (rm rfl (eX (fU (j + 1,_) (hT.next hj rfl) (by dsimp only; omega) (zS rfl) (aU (fun _ _ _ h=>h) (aU (fun _ _ _ h=>h) (aU (bN (mA bA _ _ _)) aY)))))))))))
  ·simp only [decide_eq_false_iff_not] at hj
   obtain rfl:j = n:=Nat.le_antisymm hT.kle zo
   have hfin:=hT.fin
   refine gV rfl (bF (jP 1 2 rfl rfl (by decide) (by simp; omega) ?_))
   refine cY (ro rfl (dV (Ht rfl) (cJ 1) z6) (rm rfl (eX (eD [0,1] rfl (by decide) (fU (k + 1,_) (hS.next hk hfin) (by dsimp only; omega) (zS rfl) (aU (fun _ _ _ h=>h) (aU (dT (kX bA _ _ _)) aY)))))))
 ·simp only [decide_eq_false_iff_not] at hk
  obtain rfl:k = n:=Nat.le_antisymm hS.kle zo
  have hfin:=hS.fin
  refine gV rfl (ts (rm rfl (ra rfl (eX ?_))))
  exact lP B9 trivial [0,1] ⟨⟨_,rfl,fun _ _ _ h=>h⟩,⟨_,rfl,(dT (by rw [hfin]))⟩,trivial⟩ (by decide) (zQ rfl (eU rfl))
theorem Uq {n:Nat} {f:Nat → Nat → Qi} (hn:n ≤ 1000):bB Tryz.prog 144 [NT .i64 n,zY Tryz.prog (Fin n × Fin n) (fun x=>[NT .i64 x.1.1,NT .i64 x.2.1]) (fun x=>bA (f x.1.1 x.2.1))] (fN (tab n fun i=>tab n (f i))):=(Ow hn).fun fun B _ v S V h1 h2=>oX (by simp [eH,List.map_map,Function.comp_def]) v V (Ge (by simp [eH,bR]) (Nat.le_refl _) v S V h1 h2)
end
section
open Go Go.RowKit
theorem yP {n : Nat} {E : bM} {H : Hp} {d : Option Tmp} {t : TypeId} {pos : String} {af : Array Edge} {g : Option (Nat × Bool)}  :
  aM Tryz.prog n E H ⟨d,.build 80 #[],t,pos,af,g⟩ (dE [Is (.slice none 0 0),Is (.slice none 0 0)]) :=
 eM (parts := []) fun a V w hs => by
  refine ⟨.agg #[(.slice none 0 0),(.slice none 0 0)],?_,[(.slice none 0 0),(.slice none 0 0)],rfl,aW (⟨rfl,trivial⟩) (aW (⟨rfl,trivial⟩) (aG))⟩
  simp [Instr.build,Instr.fill,Sem.run_bind,Result.andThen,dI,O_80,U_80,Z_54,Z_78]
theorem Di {n : Nat} {E : bM} {H : Hp} {d : Option Tmp} {t : TypeId} {pos : String} {af : Array Edge} {g : Option (Nat × Bool)} {x0 x1 : Operand} {T0 T1 : Ty} [s0 : cA T0 1 false] (h0 : aT E x0 T0) [s1 : cA T1 1 false] (h1 : aT E x1 T1) :
  aM Tryz.prog n E H ⟨d,.build 80 #[(0,x0),(1,x1)],t,pos,af,g⟩ (dE [T0,T1]) :=
 eM (parts := [(0, x0), (1, x1)]) fun a V w hs => by
  have p0:=h0 n V a hs
  generalize e0:a.eval x0 = v0 at p0
  have q0:=(s0.ok v0 V p0).2.2 rfl
  have p1:=h1 n V a hs
  generalize e1:a.eval x1 = v1 at p1
  have q1:=(s1.ok v1 V p1).2.2 rfl
  refine ⟨.agg #[v0,v1],?_,[v0,v1],rfl,aW (⟨p0,q0⟩) (aW (⟨p1,q1⟩) (aG))⟩
  simp [e0,e1,Instr.build,Instr.fill,Sem.run_bind,Result.andThen,dI,q0.cells,q1.cells,O_80,U_80,Z_54,Z_78]
theorem zC (a:Addr) (w:World):(Instr.fieldAt 80 (.pointer (some a)) 0).run Tryz.prog w = .ok (.pointer (some (a.add 0))) w:=by
 simp [Instr.fieldAt,Instr.sureAddr,fieldPlace,Sem.run_bind,Result.andThen,U_80,Z_54]
end
section
open Go Go.RowKit
theorem Um {s:List (List Qi)} {n i j:Nat} (hs:iA s n n) (hi:i < n) (hj:j < n):bB Tryz.prog 195 [NT .i64 i,NT .i64 j,PT (fN s)] (bA (gm s i j)):=by
 have h1:=hs.1; have h2:=hs.row hi
 refine bB.intro Tryz.func195 rfl Tryz.ntmps195 rfl (fun cx=>(ts (rn rfl (eW (Ts:=[Is (.bool false),Is (.slice none 0 0),Is (.bool false),Is (.slice none 0 0),Is (.slice none 0 0)]) O_32 rfl (fun V=>aW zd (aW zd (aW zd (aW zd (aW zd (aG))))))) fun B5=>(eX (ts (ro rfl (dJ A_78 Z_78 (Ht rfl)) (rm rfl (ro rfl (dZ U_78 Z_54 (Ht rfl) (Ht rfl) rfl (dY (dU (d:=[]) zo))) (ro rfl (dJ A_54 Z_54 (Ht rfl)) ?_)))))))))
 refine rm rfl (ro rfl (dZ U_54 Z_32 (Ht rfl) (Ht rfl) rfl (dY (dU (d:=Qi.zero) zo))) (ro rfl (dJ A_32 Z_32 (Ht rfl)) (gQ Z_32 (Ht rfl) (Ht rfl) rfl (i:=0) rfl (aK rfl) rfl rfl (eX ?_))))
 exact fW rfl (fK A_32 Z_32 rfl (i:=0) rfl rfl)
theorem Kc {z:List Qi} {s:List (List Qi)} {L:Nat} (hz:fS z L) (h:L ≤ 8796093022208) (hl:z.length ≤ 1000) (hl2:s.length ≤ 1000):bB Tryz.prog 98 [gE z,fN s] (fT [nU (qW (gO z s) z) (qW (gO z s) s),aF .i64 (gO z s)]):=by
 refine bB.intro Tryz.func98 rfl Tryz.ntmps98 rfl (fun cx=>(ts (rn rfl (Lw (Ht rfl)) fun B3=>(rn rfl (eW (Ts:=[Is (.slice none 0 0),Is (.slice none 0 0)]) O_80 rfl (fun V=>aW zd (aW zd (aG)))) fun B4=>(ro rfl (cQ (cJ 0)) (eX (cK (cK (gJ (i:=0) (tt:=3) rfl rfl vX (cY (rm rfl (ro rfl (dG U_54 (Ht rfl) aA) (ro rfl (gX (Ht rfl) (cJ 1)) (rm rfl (fQ rfl rfl (eK rfl rfl (Ht rfl) (fun h=>cX (Ht rfl))) (fQ rfl rfl (eK rfl rfl (Ht rfl) (fun h=>dG U_54 (fJ rfl h) aA)) ?_))))))))))))))))
 refine fQ rfl rfl (eK rfl rfl (Ht rfl) (fun h=>dM (fJ rfl h) (cJ 8))) (ro rfl (eE (Ht rfl) (fun h=>(fJ rfl h))) (rm rfl (fQ rfl rfl (eK rfl rfl (Ht rfl) (fun h=>dJ A_78 Z_78 (Ht rfl))) (fQ rfl rfl (eK rfl rfl (Ht rfl) (fun h=>dG U_78 (fJ rfl h) aA)) (fQ rfl rfl (eK rfl rfl (Ht rfl) (fun h=>cX (Ht rfl))) (fQ rfl rfl (eK rfl rfl (Ht rfl) (fun h=>dG U_54 (fJ rfl h) aA)) (fQ rfl rfl (eK rfl rfl (Ht rfl) (fun h=>jY (fJ rfl h) (fJ rfl h))) ?_)))))))
 refine ro rfl (eE (Ht rfl) (fun h=>(fJ rfl h))) (eX (dQ (Ht rfl) (fun hb=>?_) (fun hb=>?_)))
 ·have he := Bw hb
  refine ts (ro rfl (aM.imp (yP ) zJ) (gQ Z_80 (Ht rfl) (Ht rfl) rfl (i:=1) rfl (aK rfl) rfl rfl (ro rfl (cQ (cJ 4)) (eX (bI rfl (fX (fK A_80 Z_80 rfl (i:=1) rfl rfl) ?_) (fX (eU rfl) ?_))))))
  ·exact (zI he (by decide))
  ·exact (aN he.symm)
 ·refine cU (cK (ts (ro rfl (dJ A_78 Z_78 (Ht rfl)) (ro rfl (dG U_78 (Ht rfl) aA) (ro rfl (cX (cJ 0)) (eX (eG ?_)))))))
  refine eP (fun (k : Nat) => k ≤ s.length ∧ ∀ (i : Nat) (r : List Qi), i < k → s[i]? = some r → r.length = z.length) (fun (k : Nat) => s.length - k) (fun (k : Nat) => [(0, gE z), (3, PT (fN s)), (4, bT B4 0), (25, fN s), (26, NT .i64 s.length), (27, NT .i64 k)]) (fun (k : Nat) => [SA.emp, box B4 80 [Is (.slice none 0 0), Is (.slice none 0 0)]]) 0 ⟨Nat.zero_le _, fun i r h => by omega⟩
   (zS rfl) (cF.refl _) (fun k ⟨hk,hr⟩=>?_)
  refine ts (ro rfl (gX (Ht rfl) (Ht rfl)) (eX (cK (dQ (Ht rfl) (fun hc=>?_) (fun hc=>?_)))))
  ·simp only [decide_eq_true_eq] at hc
   refine cU (cK (eG (ts (ro rfl (dZ U_78 Z_54 (Ht rfl) (Ht rfl) rfl (dY (tW hc))) (ro rfl (dJ A_54 Z_54 (Ht rfl)) (ra rfl (eX (ts (rm rfl (ro rfl (dG U_54 (Ht rfl) aA) (rm rfl (ro rfl (dG U_54 (Ht rfl) aA) (ro rfl (jY (Ht rfl) (Ht rfl)) (eX (dQ (Ht rfl) (fun hd=>?_) (fun hd=>?_))))))))))))))))
   ·have hd2 : ¬ (s[k]).length = z.length := by simpa using hd
    have he:=Ea (tW hc) hd2
    refine ts (ro rfl (aM.imp (yP ) zJ) (gQ Z_80 (Ht rfl) (Ht rfl) rfl (i:=1) rfl (aK rfl) rfl rfl (ro rfl (cQ (cJ 4)) (eX (bI rfl (fX (fK A_80 Z_80 rfl (i:=1) rfl rfl) ?_) (fX (eU rfl) ?_))))))
    ·exact (zI he (by decide))
    ·exact (aN he.symm)
   ·have hd2 : (s[k]).length = z.length := by simpa using hd
    refine cU (bF (cY (ro rfl (dV (Ht rfl) (cJ 1) z6) (rm rfl (eX ?_)))))
    refine fU (k + 1) ⟨hc, fun i r h1 h2 => by
      by_cases e:i = k
      ·subst e; rw [tW hc] at h2; obtain rfl:=Option.some.inj h2; exact hd2
      ·exact hr i r zo h2⟩ zo (zS rfl) (cF.refl _)
  ·simp only [decide_eq_false_iff_not] at hc
   have hall:∀ (i:Nat) (r:List Qi),s[i]? = some r → r.length = z.length:=fun i r h=>hr i r (by have:=(List.getElem?_eq_some_iff.1 h).1; omega) h
   have hpos:=Dz hb hall
   refine gV rfl (cK (ts (rm rfl (ro rfl (cZ Tryz.call194 (Ap hz h zo) ⟨(Ht rfl),trivial⟩) (ra rfl (eX (ts (rm rfl (ro rfl (jH (Ht rfl) cV) (eX (dQ (Ht rfl) (fun hd=>?_) (fun hd=>?_))))))))))))
   ·have hd2 : ¬ (if z.all fL = true then (0 : Int) else 1) = 0 := by simpa using hd
    refine ts (ro rfl (aM.imp (yP ) zJ) (rm rfl (gQ Z_80 (Ht rfl) (Ht rfl) rfl (i:=1) rfl (aK rfl) rfl rfl (ra rfl (eX (bI rfl (fX (fK A_80 Z_80 rfl (i:=1) rfl rfl) ?_) (fX (eU rfl) ?_)))))))
    ·exact (zI hpos hd2)
    ·exact (aN hpos.symm)
   ·have hd2 : (if z.all fL = true then (0 : Int) else 1) = 0 := by simpa using hd
    have he:=hpos.trans hd2
    obtain ⟨h1,h2,hsh,_⟩:=xX he
    refine cU (ts (rm rfl (ro rfl (cZ Tryz.call120 (On zo) ⟨(Ht rfl),trivial⟩) (rm rfl (ro rfl (dG U_54 (Ht rfl) aA) (ro rfl (zN (γ:=Fin z.length × Fin z.length) (Ts:=fun x=>[NT .i64 x.1.1,NT .i64 x.2.1]) (U:=fun x=>bA (gm s x.1.1 x.2.1)) Tryz.call195 (fun x=>Um hsh x.1.2 x.2.2) ⟨(Ht rfl),trivial⟩) (ro rfl (cZ Tryz.call144 (eQ (Uq (n:=z.length) (f:=gm s) zo) (oX (by rw [← uL hsh]))) ⟨(Ht rfl),(Ht rfl),trivial⟩) ?_)))))))
    refine ro rfl (Di (Ht rfl) (Ht rfl)) (gQ Z_80 (Ht rfl) (Ht rfl) rfl (i:=1) rfl (aK rfl) rfl rfl (ro rfl (cQ (cJ 0)) (eX (bI rfl (fX (fK A_80 Z_80 rfl (i:=1) rfl rfl) ?_) (fX (eU rfl) ?_)))))
    ·exact (Lv he)
    ·exact (aN he.symm)
theorem uD {z:List Qi} {s:List (List Qi)}:bB Tryz.prog 117 [nU z s] (NT .i64 z.length):=by
 refine bB.intro Tryz.func117 rfl Tryz.ntmps117 rfl (fun cx=>(ts (rn rfl (fG (Ht rfl)) fun B1=>(ro rfl (cQ (cJ 0)) (eX (ts (ro rfl (eZ zC (Ht rfl) rfl) (ro rfl (eY A_54 Z_54 (Ht rfl) (i:=0) rfl rfl) (ro rfl (dG U_54 (Ht rfl) aA) (ra rfl (eX ?_)))))))))))
 exact fW rfl (eU rfl)
theorem Kb {z:List Qi} {s:List (List Qi)} {i:Int}:bB Tryz.prog 209 [nU z s,aF .i64 i] (aC (decide (1 ≤ i ∧ i ≤ z.length))):=by
 refine bB.intro Tryz.func209 rfl Tryz.ntmps209 rfl (fun cx=>(ts (rn rfl (fG (Ht rfl)) fun B2=>(ro rfl (cQ cV) (eX (ts (rm rfl (ro rfl (jX (Ht rfl) cV) (rm rfl (fQ rfl rfl (eK rfl rfl (Ht rfl) (fun h=>cX (Ht rfl))) (fQ rfl rfl (eK rfl rfl (Ht rfl) (fun h=>eZ zC (Ht rfl) rfl)) (fQ rfl rfl (eK rfl rfl (Ht rfl) (fun h=>eY A_54 Z_54 (fJ rfl h) (i:=0) rfl rfl)) (fQ rfl rfl (eK rfl rfl (Ht rfl) (fun h=>dG U_54 (fJ rfl h) aA)) (fQ rfl rfl (eK rfl rfl (Ht rfl) (fun h=>nM (fJ rfl h) (fJ rfl h))) ?_))))))))))))))
 refine ro rfl (eA (Ht rfl) (fun h=>(fJ rfl h))) (ra rfl (eX (fW rfl (fX (eU rfl) ?_))))
 exact (gF (by rw [Bool.eq_iff_iff]; simp))
end
section
open Go Go.RowKit
theorem Ps (a:Addr) (w:World):(Instr.fieldAt 80 (.pointer (some a)) 1).run Tryz.prog w = .ok (.pointer (some (a.add 1))) w:=by
 simp [Instr.fieldAt,Instr.sureAddr,fieldPlace,Sem.run_bind,Result.andThen,U_80,Z_78]
theorem rH (a:Addr) (w:World):(Instr.fieldAt 84 (.pointer (some a)) 1).run Tryz.prog w = .ok (.pointer (some (a.add 2))) w:=by
 simp [Instr.fieldAt,Instr.sureAddr,fieldPlace,Sem.run_bind,Result.andThen,U_84,Z_78]
end
section
open Go Go.RowKit
theorem Ss {z:List Qi} {s:List (List Qi)} {i:Int} (hl:z.length ≤ 1000):bB Tryz.prog 124 [nU z s,aF .i64 i] (fT [bA (Nw z i),aF .i64 (if 1 ≤ i ∧ i ≤ z.length then 0 else 1)]):=by
 refine bB.intro Tryz.func124 rfl Tryz.ntmps124 rfl (fun cx=>(ts (rn rfl (fG (Ht rfl)) fun B2=>(rn rfl (eW (Ts:=[Is (.bool false),Is (.slice none 0 0),Is (.bool false),Is (.slice none 0 0),Is (.slice none 0 0)]) O_32 rfl (fun V=>aW zd (aW zd (aW zd (aW zd (aW zd (aG))))))) fun B4=>(ro rfl (cQ (cJ 0)) (eX (cK (ts (ro rfl (eJ A_80 Z_80 (Ht rfl) (i:=0) rfl rfl rfl) (rm rfl (ro rfl (cZ Tryz.call209 Kb ⟨(Ht rfl),(Ht rfl),trivial⟩) ?_)))))))))))
 refine ro rfl (eN (Ht rfl)) (eX (dQ (Ht rfl) (fun hb=>?_) (fun hb=>?_)))
 ·have hn : ¬ (1 ≤ i ∧ i ≤ (z.length : Int)) := by simpa only [Bool.not_eq_true', decide_eq_false_iff_not] using hb
  refine ts (ro rfl (aM.imp (uC ) jV) (gQ Z_32 (Ht rfl) (Ht rfl) rfl (i:=1) rfl (aK rfl) rfl rfl (ro rfl (cQ (cJ 1)) (eX (bI rfl (fX (fK A_32 Z_32 rfl (i:=1) rfl rfl) ?_) (fX (eU rfl) ?_))))))
  ·exact (jF (by rw [Nw,if_neg hn]))
  ·exact (aN (by rw [if_neg hn]; rfl))
 ·have hp : 1 ≤ i ∧ i ≤ (z.length : Int) := by simpa only [Bool.not_eq_false', decide_eq_true_eq] using hb
  have hq:(i - 1).toNat < z.length:=by omega
  refine cU (ts (ro rfl (eZ zC (Ht rfl) rfl) (ro rfl (eY A_54 Z_54 (Ht rfl) (i:=0) rfl rfl) (rm rfl (ro rfl (eR (Ht rfl) cV (nO zo)) (ro rfl (dZ U_54 Z_32 (Ht rfl) (Ht rfl) (by omega:i - 1 = (((i - 1).toNat:Nat):Int)) (dY (dU (d:=Qi.zero) hq))) (ro rfl (dJ A_32 Z_32 (Ht rfl)) (gQ Z_32 (Ht rfl) (Ht rfl) rfl (i:=1) rfl (aK rfl) rfl rfl (ro rfl (cQ (cJ 0)) (eX (bI rfl (fX (fK A_32 Z_32 rfl (i:=1) rfl rfl) ?_) (fX (eU rfl) ?_))))))))))))
  ·exact (jF (by rw [Nw,if_pos hp]))
  ·exact (aN (by rw [if_pos hp]; rfl))
theorem Yw {z:List Qi} {s:List (List Qi)} {i j:Int} (hs:iA s z.length z.length) (hl:z.length ≤ 1000):bB Tryz.prog 130 [nU z s,aF .i64 i,aF .i64 j] (fT [bA (Mm z.length s i j),aF .i64 (if (1 ≤ i ∧ i ≤ z.length) ∧ 1 ≤ j ∧ j ≤ z.length then 0 else 1)]):=by
 have hs1:=hs.1
 refine bB.intro Tryz.func130 rfl Tryz.ntmps130 rfl (fun cx=>(ts (rn rfl (fG (Ht rfl)) fun B3=>(rn rfl (eW (Ts:=[Is (.bool false),Is (.slice none 0 0),Is (.bool false),Is (.slice none 0 0),Is (.slice none 0 0)]) O_32 rfl (fun V=>aW zd (aW zd (aW zd (aW zd (aW zd (aG))))))) fun B6=>(ro rfl (cQ (cJ 0)) (eX (cK (ts (ro rfl (eJ A_80 Z_80 (Ht rfl) (i:=0) rfl rfl rfl) (rm rfl (ro rfl (cZ Tryz.call209 Kb ⟨(Ht rfl),(Ht rfl),trivial⟩) ?_)))))))))))
 refine ro rfl (eN (Ht rfl)) (rm rfl (fQ rfl rfl (eK rfl rfl (Ht rfl) (fun h=>eJ A_80 Z_80 (Ht rfl) (i:=0) rfl rfl rfl)) (fQ rfl rfl (eK rfl rfl (Ht rfl) (fun h=>cX (Ht rfl))) (fQ rfl rfl (eK rfl rfl (Ht rfl) (fun h=>cZ Tryz.call209 Kb ⟨(fJ rfl h),(fJ rfl h),trivial⟩)) (fQ rfl rfl (eK rfl rfl (Ht rfl) (fun h=>eN (fJ rfl h))) (ro rfl (eE (Ht rfl) (fun h=>(fJ rfl h))) (eX (dQ (Ht rfl) (fun hb=>?_) (fun hb=>?_)))))))))
 ·have hn : ¬ ((1 ≤ i ∧ i ≤ (z.length : Int)) ∧ 1 ≤ j ∧ j ≤ (z.length : Int)) := by simp only [Bool.or_eq_true, Bool.not_eq_true', decide_eq_false_iff_not] at hb; exact fun k => hb.elim (fun h => h k.1) (fun h => h k.2)
  refine ts (rn rfl (eW (Ts:=[Is (.bool false),Is (.slice none 0 0),Is (.bool false),Is (.slice none 0 0),Is (.slice none 0 0)]) O_32 rfl (fun V=>aW zd (aW zd (aW zd (aW zd (aW zd (aG))))))) fun B8=>(eX (ts (ro rfl (eJ A_32 Z_32 (Ht rfl) (i:=2) rfl rfl rfl) (gQ Z_32 (Ht rfl) (Ht rfl) rfl (i:=1) rfl (aK rfl) rfl rfl (ro rfl (cQ (cJ 1)) (eX (bI rfl (fX (fK A_32 Z_32 rfl (i:=1) rfl rfl) ?_) (fX (eU rfl) ?_)))))))))
  ·exact (fun v V k=>by rw [Mm,if_neg hn]; exact jV v V k)
  ·exact (aN (by rw [if_neg hn]; rfl))
 ·have hp : (1 ≤ i ∧ i ≤ (z.length : Int)) ∧ 1 ≤ j ∧ j ≤ (z.length : Int) := by simpa only [Bool.or_eq_false_iff, Bool.not_eq_false', decide_eq_true_eq] using hb
  have hq:(i - 1).toNat < s.length:=by omega
  have hq2:(j - 1).toNat < (s.getD (i - 1).toNat []).length:=by rw [hs.row zo]; omega
  refine cU (ts (ro rfl (eZ Ps (Ht rfl) rfl) (ro rfl (eY A_78 Z_78 (Ht rfl) (i:=0) rfl rfl) (rm rfl (ro rfl (eR (Ht rfl) cV (nO zo)) (ro rfl (dZ U_78 Z_54 (Ht rfl) (Ht rfl) (by omega:i - 1 = (((i - 1).toNat:Nat):Int)) (dY (dU (d:=[]) hq))) (ro rfl (dJ A_54 Z_54 (Ht rfl)) (rm rfl (ro rfl (eR (Ht rfl) cV (nO zo)) (ro rfl (dZ U_54 Z_32 (Ht rfl) (Ht rfl) (by omega:j - 1 = (((j - 1).toNat:Nat):Int)) (dY (dU (d:=Qi.zero) hq2))) ?_))))))))))
  refine ro rfl (dJ A_32 Z_32 (Ht rfl)) (gQ Z_32 (Ht rfl) (Ht rfl) rfl (i:=1) rfl (aK rfl) rfl rfl (ro rfl (cQ (cJ 0)) (eX (bI rfl (fX (fK A_32 Z_32 rfl (i:=1) rfl rfl) ?_) (fX (eU rfl) ?_)))))
  ·exact (jF (by rw [Mm,if_pos hp]))
  ·exact (aN (by rw [if_pos hp]; rfl))
theorem Oy {z:List Qi} {s c:List (List Qi)} {i j:Int} (hs:iA c c.length c.length) (hl:c.length ≤ 1000):bB Tryz.prog 42 [mQ z s c,aF .i64 i,aF .i64 j] (fT [bA (Mm c.length c i j),aF .i64 (if (1 ≤ i ∧ i ≤ c.length) ∧ 1 ≤ j ∧ j ≤ c.length then 0 else 1)]):=by
 refine bB.intro Tryz.func42 rfl Tryz.ntmps42 rfl (fun cx=>(ts (rn rfl (fG (Ht rfl)) fun B3=>(rn rfl (eW (Ts:=[Is (.bool false),Is (.slice none 0 0),Is (.bool false),Is (.slice none 0 0),Is (.slice none 0 0)]) O_32 rfl (fun V=>aW zd (aW zd (aW zd (aW zd (aW zd (aG))))))) fun B6=>(ro rfl (cQ (cJ 0)) (eX (cK (ts (rm rfl (ro rfl (iK (Ht rfl) cV) (rm rfl (fQ rfl rfl (eK rfl rfl (Ht rfl) (fun h=>cX (Ht rfl))) ?_))))))))))))
 refine fQ rfl rfl (eK rfl rfl (Ht rfl) (fun h=>eZ rH (Ht rfl) rfl)) (fQ rfl rfl (eK rfl rfl (Ht rfl) (fun h=>eY A_78 Z_78 (fJ rfl h) (i:=0) rfl rfl)) (fQ rfl rfl (eK rfl rfl (Ht rfl) (fun h=>dG U_78 (fJ rfl h) aA)) (fQ rfl rfl (eK rfl rfl (Ht rfl) (fun h=>kH (fJ rfl h) (fJ rfl h))) (ro rfl (eE (Ht rfl) (fun h=>(fJ rfl h))) (rm rfl (fQ rfl rfl (eK rfl rfl (Ht rfl) (fun h=>cX (Ht rfl))) (fQ rfl rfl (eK rfl rfl (Ht rfl) (fun h=>iK (fJ rfl h) cV)) ?_)))))))
 refine ro rfl (eE (Ht rfl) (fun h=>(fJ rfl h))) (rm rfl (fQ rfl rfl (eK rfl rfl (Ht rfl) (fun h=>cX (Ht rfl))) (fQ rfl rfl (eK rfl rfl (Ht rfl) (fun h=>eZ rH (Ht rfl) rfl)) (fQ rfl rfl (eK rfl rfl (Ht rfl) (fun h=>eY A_78 Z_78 (fJ rfl h) (i:=0) rfl rfl)) (fQ rfl rfl (eK rfl rfl (Ht rfl) (fun h=>dG U_78 (fJ rfl h) aA)) (fQ rfl rfl (eK rfl rfl (Ht rfl) (fun h=>kH (fJ rfl h) (fJ rfl h))) (ro rfl (eE (Ht rfl) (fun h=>(fJ rfl h))) (eX (dQ (Ht rfl) (fun hb=>?_) (fun hb=>?_))))))))))
 ·have hn : ¬ ((1 ≤ i ∧ i ≤ (c.length : Int)) ∧ 1 ≤ j ∧ j ≤ (c.length : Int)) := by simp only [Bool.or_eq_true, decide_eq_true_eq] at hb; omega
  refine ts (rn rfl (eW (Ts:=[Is (.bool false),Is (.slice none 0 0),Is (.bool false),Is (.slice none 0 0),Is (.slice none 0 0)]) O_32 rfl (fun V=>aW zd (aW zd (aW zd (aW zd (aW zd (aG))))))) fun B8=>(eX (ts (ro rfl (eJ A_32 Z_32 (Ht rfl) (i:=2) rfl rfl rfl) (gQ Z_32 (Ht rfl) (Ht rfl) rfl (i:=1) rfl (aK rfl) rfl rfl (ro rfl (cQ (cJ 1)) (eX (bI rfl (fX (fK A_32 Z_32 rfl (i:=1) rfl rfl) ?_) (fX (eU rfl) ?_)))))))))
  ·exact (fun v V k=>by rw [Mm,if_neg hn]; exact jV v V k)
  ·exact (aN (by rw [if_neg hn]; rfl))
 ·have hp : (1 ≤ i ∧ i ≤ (c.length : Int)) ∧ 1 ≤ j ∧ j ≤ (c.length : Int) := by simp only [Bool.or_eq_false_iff, decide_eq_false_iff_not] at hb; omega
  have hq:(i - 1).toNat < c.length:=by omega
  have hq2:(j - 1).toNat < (c.getD (i - 1).toNat []).length:=by rw [hs.row zo]; omega
  refine cU (ts (ro rfl (eZ rH (Ht rfl) rfl) (ro rfl (eY A_78 Z_78 (Ht rfl) (i:=0) rfl rfl) (rm rfl (ro rfl (eR (Ht rfl) cV (nO zo)) (ro rfl (dZ U_78 Z_54 (Ht rfl) (Ht rfl) (by omega:i - 1 = (((i - 1).toNat:Nat):Int)) (dY (dU (d:=[]) hq))) (ro rfl (dJ A_54 Z_54 (Ht rfl)) (rm rfl (ro rfl (eR (Ht rfl) cV (nO zo)) (ro rfl (dZ U_54 Z_32 (Ht rfl) (Ht rfl) (by omega:j - 1 = (((j - 1).toNat:Nat):Int)) (dY (dU (d:=Qi.zero) hq2))) ?_))))))))))
  refine ro rfl (dJ A_32 Z_32 (Ht rfl)) (gQ Z_32 (Ht rfl) (Ht rfl) rfl (i:=1) rfl (aK rfl) rfl rfl (ro rfl (cQ (cJ 0)) (eX (bI rfl (fX (fK A_32 Z_32 rfl (i:=1) rfl rfl) ?_) (fX (eU rfl) ?_)))))
  ·exact (jF (by rw [Mm,if_pos hp]))
  ·exact (aN (by rw [if_pos hp]; rfl))
end
section
open Go Go.RowKit
theorem Wn:Tryz.prog.underlying 78 = some (.slice 54):=by kernel_rfl
end
section
open Go Go.RowKit
theorem Hw {m:List (List Rt)} (hm:m.length ≤ 1000) (hr:∀ r,r ∈ m → r.length ≤ 1000):bB Tryz.prog 99 [Wy m] (fN (rq m)):=by
 refine bB.intro Tryz.func99 rfl Tryz.ntmps99 rfl (fun cx=>(ts (ro rfl (cQ cV) (eX (ts (rm rfl (ro rfl (dG U_181 (Ht rfl) aA) (rn rfl (pS (T:=gE []) (i:=Tryz.t54) Wn pP rfl rfl (Ht rfl) rfl By El.one (by show 24 * _ ≤ _; omega) zo) fun B8=>(ra rfl (eX (cK (ts (rm rfl (ro rfl (dG U_181 (Ht rfl) aA) (ro rfl (cX (cJ 0)) (eX (eG ?_)))))))))))))))))
 refine dP (fun (k : Nat) (out : List (List Qi)) => kR (fun i => (m.getD i default).map Rt.q) m.length out k) (fun (k : Nat) (out : List (List Qi)) => m.length - k) (fun (k : Nat) (out : List (List Qi)) => [(3, Is B8), (9, Wy m), (10, NT .i64 m.length), (11, NT .i64 k)]) (fun (k : Nat) (out : List (List Qi)) => [bE 54 1 B8 (out.map gE)]) 0 (List.replicate m.length []) (kR.start _ _ _)
  (zS rfl) (aU (bN (oT gE _ _)) aY) (fun k out hS=>?_)
 refine ts (ro rfl (gX (Ht rfl) (Ht rfl)) (eX (cK (dQ (Ht rfl) (fun hk=>?_) (fun hk=>?_)))))
 ·simp only [decide_eq_true_eq] at hk
  have hlen:=hS.len
  have hrk : (m.getD k default).length ≤ 1000 := by
   have e:m.getD k default = m[k]:=by simp [List.getD,hk]
   rw [e]; exact hr _ (List.getElem_mem hk)
  refine cU (cK (eG (ts (rm rfl (ro rfl (dZ U_181 Tryz.sizeOf77 (Ht rfl) (Ht rfl) rfl (dY (dU (d:=default) hk))) (ro rfl (dJ Tryz.isAgg77 Tryz.sizeOf77 (Ht rfl)) (ra rfl (ra rfl (eX (cY (rm rfl (rm rfl (rm rfl (ro rfl (cZ Tryz.call50 (xF zo) ⟨(Ht rfl),trivial⟩) (ro rfl (eI U_78 Z_54 (Ht rfl) (Ht rfl) rfl (i:=0) rfl (by first | omega | (simp; omega)) rfl) (nV Z_54 (Ht rfl) (Ht rfl) El.one (i:=0) rfl rfl (by first | omega | (simp; omega)) rfl (eX (bF ?_))))))))))))))))))
  refine cY (ro rfl (dV (Ht rfl) (cJ 1) z6) (rm rfl (eX (fU (k + 1,_) (hS.next hk rfl) (by dsimp only; omega) (zS rfl) (aU (bN (mA gE _ _ _)) aY)))))
 ·simp only [decide_eq_false_iff_not] at hk
  obtain rfl:k = m.length:=Nat.le_antisymm hS.kle zo
  have hfin:=hS.fin
  rw [wJ m (fun r=>r.map Rt.q)] at hfin
  refine gV rfl (gJ (i:=0) (tt:=3) rfl rfl lE (ts (rm rfl (ra rfl (eX (fW rfl (fX (eU rfl) ?_)))))))
  exact (oX (by rw [hfin]))
end
section
open Go Go.RowKit
theorem Ol {n : Nat} {E : bM} {H : Hp} {d : Option Tmp} {t : TypeId} {pos : String} {af : Array Edge} {g : Option (Nat × Bool)}  :
  aM Tryz.prog n E H ⟨d,.build 84 #[],t,pos,af,g⟩ (dE [Is (.slice none 0 0),Is (.slice none 0 0),Is (.slice none 0 0)]) :=
 eM (parts := []) fun a V w hs => by
  refine ⟨.agg #[(.slice none 0 0),(.slice none 0 0),(.slice none 0 0)],?_,[(.slice none 0 0),(.slice none 0 0),(.slice none 0 0)],rfl,aW (⟨rfl,trivial⟩) (aW (⟨rfl,trivial⟩) (aW (⟨rfl,trivial⟩) (aG)))⟩
  simp [Instr.build,Instr.fill,Sem.run_bind,Result.andThen,dI,O_84,U_84,Z_78,Z_80]
end
section
open Go Go.RowKit
theorem mH {x:Qi} {L:Nat} [hx:aL x L] (h:L ≤ 17592186044415):bB Tryz.prog 95 [QT x] (aC (fL x)):=by
 refine bB.intro Tryz.func95 rfl Tryz.ntmps95 rfl (fun cx=>(ts (rn rfl (fG (Ht rfl)) fun B1=>(ro rfl (cQ cV) (eX (ts (ro rfl (eJ A_40 Z_40 (Ht rfl) (i:=0) rfl rfl rfl) (ro rfl (cZ Tryz.call97 (yV zo) ⟨(Ht rfl),trivial⟩) (ro rfl (lX (Ht rfl) cV) (rm rfl (fQ rfl rfl (eK rfl rfl (Ht rfl) (fun h=>eJ A_40 Z_40 (Ht rfl) (i:=0) rfl rfl rfl)) (fQ rfl rfl (eK rfl rfl (Ht rfl) (fun h=>cZ Tryz.call90 rD ⟨(fJ rfl h),trivial⟩)) (fQ rfl rfl (eK rfl rfl (Ht rfl) (fun h=>kH (fJ rfl h) cV)) ?_)))))))))))))
 refine ro rfl (eA (Ht rfl) (fun h=>(fJ rfl h))) (ra rfl (eX (fW rfl (fX (eU rfl) ?_))))
 exact (gF (Rj x))
end
section
open Go Go.RowKit
theorem Dx (v : Value) (w : World) : (method (Tryz.prog.types.size + Made.depth) 32 v "Of").run Tryz.prog w = .ok (318, v) w := by kernel_rfl
theorem fD (v:Value) (w:World):(Instr.makeInterface 32 v).run Tryz.prog w = .ok (.iface 32 v) w:=by
 simp [Instr.makeInterface,Sem.run_bind,Result.andThen,U_32]
end
section
open Go Go.RowKit
theorem Va {x:Qi} {L:Nat} [hx:aL x L] (h:L ≤ 8796093022208):bB Tryz.prog 79 [bA x] (aC (wO x)):=by
 haveI hz:aL Qi.zero 1:=aL.zero (Nat.le_refl 1)
 rw [← Se]
 refine bB.intro Tryz.func79 rfl Tryz.ntmps79 rfl (fun cx=>(ts (rn rfl (fG (Ht rfl)) fun B1=>(ro rfl (cQ cV) (eX (cK (fZ (m:=5) (dp 1 rfl (eJ A_32 Z_32 (Ht rfl) (i:=0) rfl rfl rfl) (dq 3 0 rfl (cZ K_35 qN ⟨(Ht rfl),trivial⟩) (dq 4 1 rfl (cX (Ht rfl)) (C.D_step (Ei:=[(1,_),(5,_)]) rfl rfl (bV (bK rfl rfl) (bV (bG 2 rfl rfl) bW)) (eK rfl rfl (Ht rfl) (fun h=>eJ A_32 Z_32 (Ht rfl) (i:=0) rfl rfl rfl)) (C.D_step (Ei:=[(5,_)]) rfl rfl (bV (bG 2 rfl rfl) bW) (eK rfl rfl (Ht rfl) (fun h=>cZ K_36 (qC (n:=0) (by decide) (by decide)) ⟨(cJ 0),trivial⟩)) ?_))))))))))))
 refine fV mixed rfl (by kernel_rfl) (zF (aJ (aV (fQ rfl rfl (eK rfl rfl (Ht rfl) (fun h=>cZ K_30 (tE (x:=x) (y:=Qi.zero) (M:=1) zo) ⟨(fJ rfl h),(fJ rfl h),trivial⟩)) (fQ rfl rfl (eK rfl rfl (Ht rfl) (fun h=>jX (fJ rfl h) cV)) (ro rfl (eA (Ht rfl) (fun h=>(fJ rfl h))) (ra rfl (eX ?_))))))))
 exact fW rfl (eU rfl)
theorem Xj {y:Qi}:bB Tryz.prog 318 [dE [Is (.bool false),Is (.slice none 0 0),Is (.bool false),Is (.slice none 0 0),Is (.slice none 0 0)],bA y] (bA y):=by
 refine bB.intro Tryz.func318 rfl Tryz.ntmps318 rfl (fun cx=>(ts (rn rfl (fG (Ht rfl)) fun B2=>(rn rfl (fG (Ht rfl)) fun B3=>(rn rfl (eW (Ts:=[Is (.bool false),Is (.slice none 0 0),Is (.bool false),Is (.slice none 0 0),Is (.slice none 0 0)]) O_32 rfl (fun V=>aW zd (aW zd (aW zd (aW zd (aW zd (aG))))))) fun B4=>(eX (ts (ro rfl (eJ A_32 Z_32 (Ht rfl) (i:=1) rfl rfl rfl) (gQ Z_32 (Ht rfl) (Ht rfl) rfl (i:=2) rfl (aK rfl) rfl rfl ?_)))))))))
 refine eX ?_
 exact fW rfl (fK A_32 Z_32 rfl (i:=2) rfl rfl)
theorem Kd {x:Qi}:bB Tryz.prog 123 [bA x] (bA x):=by
 refine bB.intro Tryz.func123 rfl Tryz.ntmps123 rfl (fun cx=>(ts (rn rfl (fG (Ht rfl)) fun B1=>(rn rfl (eW (Ts:=[Is (.bool false),Is (.slice none 0 0),Is (.bool false),Is (.slice none 0 0),Is (.slice none 0 0)]) O_32 rfl (fun V=>aW zd (aW zd (aW zd (aW zd (aW zd (aG))))))) fun B2=>(eX (ts (rn rfl (eW (Ts:=[Is (.bool false),Is (.slice none 0 0),Is (.bool false),Is (.slice none 0 0),Is (.slice none 0 0)]) O_32 rfl (fun V=>aW zd (aW zd (aW zd (aW zd (aW zd (aG))))))) fun B3=>?_)))))))
 refine eX (ts (ro rfl (eJ A_32 Z_32 (Ht rfl) (i:=2) rfl rfl rfl) (ro rfl (eB fD (Ht rfl)) (ro rfl (eJ A_32 Z_32 (Ht rfl) (i:=0) rfl rfl rfl) (ro rfl (cR Dx Tryz.call318 Xj (Ht rfl) ⟨(Ht rfl),trivial⟩) (gQ Z_32 (Ht rfl) (Ht rfl) rfl (i:=1) rfl (aK rfl) rfl rfl (eX ?_)))))))
 exact fW rfl (fK A_32 Z_32 rfl (i:=1) rfl rfl)
theorem Dq {r:List Qi} {k:Nat}:bB Tryz.prog 266 [gE r,PT (NT .i64 k)] (aC (!decide (r.length = k))):=by
 refine bB.intro Tryz.func266 rfl Tryz.ntmps266 rfl (fun cx=>(ts (ro rfl (cQ cV) (eX (ts (rm rfl (ro rfl (dG U_54 (Ht rfl) aA) (ro rfl (dJ A_3 Z_3 (Ht rfl)) (ro rfl (jY (Ht rfl) (Ht rfl)) (ra rfl (eX ?_)))))))))))
 exact fW rfl (eU rfl)
theorem Dp  : bB Tryz.prog 231 [fN []] (fT [NT .i64 0,aC true]):=by
 refine bB.intro Tryz.func231 rfl Tryz.ntmps231 rfl (fun cx=>(ts (ro rfl (cQ (cJ 0)) (ro rfl (cQ cV) (eX (cK (ts (rm rfl (ro rfl (dG U_78 (Ht rfl) aA) (ro rfl (cE (Ht rfl) (cJ 0)) (eX (Oh (Ht rfl) (by rfl) ?_))))))))))))
 refine ts (ro rfl (cQ (cJ 0)) (ro rfl (cQ cV) (eX ?_)))
 exact bI rfl (eU rfl) (eU rfl)
theorem xE {a:List (List Qi)} {n k:Nat} (h:iA a n k) (h1:1 ≤ n) (hn:n ≤ 32) (hk:k ≤ 32):bB Tryz.prog 231 [fN a] (fT [NT .i64 k,aC true]):=by
 obtain ⟨rfl,h2⟩:=h
 have hr0:(a.getD 0 []).length = k:=iA.row ⟨rfl,h2⟩ zo
 refine bB.intro Tryz.func231 rfl Tryz.ntmps231 rfl (fun cx=>(ts (ro rfl (cQ (cJ 0)) (ro rfl (cQ cV) (eX (cK (ts (rm rfl (ro rfl (dG U_78 (Ht rfl) aA) (ro rfl (cE (Ht rfl) (cJ 0)) (eX (dQ (Ht rfl) (fun hb=>?_) (fun hb=>?_)))))))))))))
 ·simp only [decide_eq_true_eq] at hb
  omega
 ·refine cU (ts (rm rfl (ro rfl (dZ U_78 Z_54 (Ht rfl) (cJ 0) rfl (dY (dU (d := []) zo))) (ro rfl (dJ A_54 Z_54 (Ht rfl)) (ro rfl (dG U_54 (Ht rfl) aA) (rn rfl (eW (Ts := [Is (.int .i64 0)]) Tryz.zeroValue3 rfl (fun V => aW zd (aG))) fun B4 => (iX Z_3 (Ht rfl) (Ht rfl) (i := 0) rfl (aK rfl) rfl (eX (cK (gJ (i := 0) (tt := 4) rfl rfl vX (fZ (m := 15) (dp 4 rfl (dJ A_3 Z_3 (Ht rfl)) ?_))))))))))))
  refine dp 0 rfl (cX (Ht rfl)) (dq 13 1 rfl (dG U_78 (Ht rfl) aA) (dq 14 2 rfl (zO (Ht rfl) (cJ 32)) (dq 15 3 rfl (cX (Ht rfl)) (C.D_step (Ei:=[(4,_),(16,_)]) rfl rfl (bV (bK rfl rfl) (bV (bG 4 rfl rfl) bW)) (eK rfl rfl (Ht rfl) (fun h=>dJ A_3 Z_3 (Ht rfl))) (C.D_step (Ei:=[(17,_),(16,_)]) rfl rfl (bV (bG 5 rfl rfl) (bV (bG 4 rfl rfl) bW)) (eK rfl rfl (Ht rfl) (fun h=>zO (fJ rfl h) (cJ 32))) (cP 16 4 18 6 rfl (eA (Ht rfl) (fun h=>(fJ rfl h))) ?_))))))
  refine dq 19 7 rfl (cX (Ht rfl)) (C.D_step (Ei:=[(0,_),(20,_)]) rfl rfl (bV (bK rfl rfl) (bV (bG 8 rfl rfl) bW)) (eK rfl rfl (Ht rfl) (fun h=>cX (Ht rfl))) (C.D_step (Ei:=[(4,_),(20,_)]) rfl rfl (bV (bK rfl rfl) (bV (bG 8 rfl rfl) bW)) (eK rfl rfl (Ht rfl) (fun h=>zN (γ:=List Qi) (Ts:=fun r=>[gE r]) (U:=fun r=>aC (!decide (r.length = (a.getD 0 []).length))) Tryz.call266 (fun r=>Dq) ⟨(Ht rfl),trivial⟩)) (C.D_step (Ei:=[(21,_),(22,_),(20,_)]) rfl rfl (bV (bG 9 rfl rfl) (bV (bG 10 rfl rfl) (bV (bG 8 rfl rfl) bW))) (eK rfl rfl (Ht rfl) (fun h=>cZ Tryz.call118 (wX (l:=a) (T:=gE) (p:=fun r=>!decide (r.length = (a.getD 0 []).length)) zo) ⟨(fJ rfl h),(fJ rfl h),trivial⟩)) ?_)))
  refine C.D_step (Ei:=[(23,_),(20,_)]) rfl rfl (bV (bG 11 rfl rfl) (bV (bG 8 rfl rfl) bW)) (eK rfl rfl (Ht rfl) (fun h=>eN (fJ rfl h))) (cP 20 8 24 12 rfl (eA (Ht rfl) (fun h=>(fJ rfl h))) (dq 12 0 rfl (cQ (Ht rfl)) (fV mixed rfl (by kernel_rfl) (zF (zF (zF (aJ (aJ (aJ (aV (ra rfl (eX (bI rfl (fX (eU rfl) ?_) (fX (eU rfl) ?_))))))))))))))
  ·exact (kT hr0)
  ·exact (gF (by rw [hr0,Pr ⟨rfl,h2⟩]; simp; omega))
theorem vE {a:List (List Qi)} {n k:Nat} (h:iA a n k) (h1:1 ≤ n ∨ k = 0) (hn:n ≤ 32) (hk:k ≤ 32):bB Tryz.prog 231 [fN a] (fT [NT .i64 k,aC true]):=by
 by_cases e:n = 0
 ·subst e
  obtain rfl:=List.length_eq_zero_iff.1 h.1
  rw [show k = 0 by omega]; exact Dp
 ·exact xE h zo hn hk
end
section
open Go Go.RowKit
theorem tH (v : Value) (w : World) : (method (Tryz.prog.types.size + Made.depth) 32 v "Add").run Tryz.prog w = .ok (33, v) w := by kernel_rfl
theorem nJ (v : Value) (w : World) : (method (Tryz.prog.types.size + Made.depth) 32 v "Conj").run Tryz.prog w = .ok (317, v) w := by kernel_rfl
theorem gM (v : Value) (w : World) : (method (Tryz.prog.types.size + Made.depth) 32 v "Mul").run Tryz.prog w = .ok (29, v) w := by kernel_rfl
end
end Go.Proofs.YthcmlodgnfekeaaGreat
