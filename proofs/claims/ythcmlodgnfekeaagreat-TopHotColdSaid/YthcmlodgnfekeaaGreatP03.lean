/- What functions of the program compute, proved by walks over their code, and the plain mathematics of it; a part of the proof in the last text. -/
import Derived.Test.YthcmlodgnfekeaaGreatP02
set_option linter.unusedVariables false
set_option linter.unusedSimpArgs false
set_option maxRecDepth 100000
set_option maxHeartbeats 4000000
namespace Go.Proofs.YthcmlodgnfekeaaGreat
section
open Go Go.RowKit
theorem Hq {v:Nat} (hv:v < 4294967296):bA Tryz.prog 275 [cE v] (NT .i64 (bl v)):=by
 refine bA.intro Tryz.func275 rfl Tryz.ntmps275 rfl (fun cx=>(ts (ro rfl (cQ (cJ 0)) (eX (cK (pN (fun (q:Nat) (x:Nat)=>bl v = q + bl x ∧ x < 65536 ∧ q ≤ 16) (fun (q:Nat) (x:Nat)=>[(0,cE x),(2,NT .i64 q)]) (fun (q:Nat) (x:Nat)=>[]) ?_ (fun q x ⟨hq1,hq2,hq3⟩=>?_)))))))
 ·refine ts (rm rfl (ro rfl (qB (Ht rfl) (cJ 65536)) (eX (dQ (Ht rfl) (fun hb => ?_) (fun hb => ?_)))))
  ·simp at hb
   refine ts (rm rfl (ro rfl (fB (Ht rfl) (cJ 16) (by decide)) (ra rfl (eX (cY (ro rfl (cQ (cJ 16)) (eX (aS (16,v / 2 ^ 16) ⟨a2f hb,by dsimp only; omega,Nat.le_refl _⟩ (zS rfl) aY))))))))
  ·simp at hb
   refine cU (aS (0,v) ⟨(Nat.zero_add _).symm,hb,by dsimp only; omega⟩ (zS rfl) aY)
 ·refine cK (pN (fun (r : Nat) (z : Nat) => bl v = r + bl z ∧ z < 256 ∧ r ≤ 24) (fun (r : Nat) (z : Nat) => [(0, cE z), (2, NT .i64 r)]) (fun (r : Nat) (z : Nat) => []) ?_ (fun r z ⟨hr1, hr2, hr3⟩ => ?_))
  ·refine ts (rm rfl (ro rfl (qB (Ht rfl) (cJ 256)) (eX (dQ (Ht rfl) (fun hb => ?_) (fun hb => ?_)))))
   ·simp at hb
    refine ts (rm rfl (ro rfl (fB (Ht rfl) (cJ 8) (by decide)) (ra rfl (eX (cY (rm rfl (ro rfl (dV (Ht rfl) (cJ 8) z6) (ra rfl (eX (aS (q + 8,x / 2 ^ 8) ⟨by have:=bl8 hb; dsimp only; omega,by dsimp only; omega,by dsimp only; omega⟩ (zS rfl) aY))))))))))
   ·simp at hb
    refine cU (aS (q,x) ⟨hq1,hb,by dsimp only; omega⟩ (zS rfl) aY)
  ·have hbl := kQ (k := 8) hr2
   refine ts (rm rfl (rm rfl (ro rfl (gV U_24 U_5 (Ht rfl) (by show _ < 256; first | omega | (simp only [kR]; omega))) (ro rfl (Wl Tryz.runUnderlying9 cV (Ht rfl) (a2l hr2 (by kernel_rfl))) (ro rfl (gV U_5 U_3 (Ht rfl) z6) (ro rfl (dV (Ht rfl) (Ht rfl) z6) (ra rfl (eX (fG rfl (fZ (eU rfl) ?_))))))))))
   exact (kC zo)
theorem a06 {v:Nat} (hv:v < 4294967296):bA Tryz.prog 251 [cE v] (NT .i64 (32 - bl v)):=by
 refine bA.intro Tryz.func251 rfl Tryz.ntmps251 rfl (fun cx=>(ts (ro rfl (cQ (cJ 0)) (eX (ts (rm rfl (ro rfl (cZ Tryz.call275 (Hq hv) ⟨(Ht rfl),trivial⟩) (ro rfl (dW (cJ 32) (Ht rfl) (kQ hv) z6) (ra rfl (eX ?_))))))))))
 exact fG rfl (eU rfl)
theorem Tk {hi lo y:Nat} (hy:hi < y) (hl:lo < BB) (hyb:y < BB):bA Tryz.prog 285 [cE hi,cE lo,cE y] (fE [cE ((hi * BB + lo) / y),cE ((hi * BB + lo) % y)]):=by
 have hq:=Lu hy hl; have hm:=Nat.mod_lt (hi * BB + lo) (by omega:y > 0); have hz:hi * BB + lo < 18446744073709551616:=by simp only [BB] at *; omega
 have hsh : hi * 2 ^ 32 < 18446744073709551616 := by
  have h1:hi < BB:=by omega
  show hi * BB < _
  simp only [BB] at h1 ⊢; omega
 refine bA.intro Tryz.func285 rfl Tryz.ntmps285 rfl (fun cx=>(ts (ro rfl (cQ (cJ 0)) (ro rfl (cQ (cJ 0)) (eX (cK (ts (rm rfl (ro rfl (jW (Ht rfl) (cJ 0)) (rm rfl (fQ rfl rfl (eK rfl rfl (Ht rfl) (fun h=>cX (Ht rfl))) (fQ rfl rfl (eK rfl rfl (Ht rfl) (fun h=>cX (Ht rfl))) (fQ rfl rfl (eK rfl rfl (Ht rfl) (fun h=>sL (fV rfl h) (fV rfl h))) (ro rfl (fT (Ht rfl) (fun h=>(fV rfl h))) (eX (kZ (Ht rfl) (by simp; omega) ?_))))))))))))))))
 have hl2:lo < 18446744073709551616:=by simp only [BB] at hl; omega
 have hy2:y < 18446744073709551616:=by simp only [BB] at hyb; omega
 refine cU (ts (rm rfl (ro rfl (gV U_24 U_274 (Ht rfl) (by show _ < 18446744073709551616; simp only [BB] at *; omega)) (ro rfl (lH (Ht rfl) (cJ 32) (by decide) hsh) (rm rfl (ro rfl (gV U_24 U_274 (Ht rfl) (by show _ < 18446744073709551616; simp only [BB] at *; omega)) (ro rfl (aB.nat (oC rfl (Ht rfl) (Ht rfl) z7 z7) (Ax hl)) (ra rfl (eX (cK ?_))))))))))
 refine fJ (m:=11) (dp 8 rfl (cX (Ht rfl)) (dp 2 rfl (cX (Ht rfl)) (dq 24 1 rfl (gV U_24 U_274 (Ht rfl) (by show _ < 18446744073709551616; simp only [BB] at *; omega)) (eA 23 0 25 2 rfl (sM (Ht rfl) (Ht rfl) zo (by show _ < 18446744073709551616; exact hz)) (dq 26 3 rfl (gV U_274 U_24 (Ht rfl) (by show _ < 4294967296; exact hq)) (dp 8 rfl (cX (Ht rfl)) (dp 2 rfl (cX (Ht rfl)) (dq 29 6 rfl (gV U_24 U_274 (Ht rfl) (by show _ < 18446744073709551616; simp only [BB] at *; omega)) ?_))))))))
 refine eA 28 5 30 7 rfl (lG (Ht rfl) (Ht rfl) zo) (dq 31 8 rfl (gV U_274 U_24 (Ht rfl) (by show _ < 4294967296; simp only [BB] at *; omega)) (dq 27 4 rfl (cQ (Ht rfl)) (fW bC rfl (by kernel_rfl) (zF (zF (aJ (aJ (aJ (aV (ra rfl (eX ?_)))))))))))
 exact bE rfl (eU rfl) (eU rfl)
theorem qI {m k:Nat} (hm:(dg m).length ≤ 17592186044416) (hk:k ≤ 562949953421312):bA Tryz.prog 206 [aI m,NT .i64 k] (aI (m * 2 ^ k)):=by
 refine bA.intro Tryz.func206 rfl Tryz.ntmps206 rfl (fun cx=>(ts (ro rfl (cQ cV) (eX (cK (ts (rm rfl (ro rfl (dG U_28 (Ht rfl) aA) (ro rfl (dI (Ht rfl) (cJ 0)) (rm rfl (fQ rfl rfl (eK rfl rfl (Ht rfl) (fun h=>cX (Ht rfl))) (fQ rfl rfl (eK rfl rfl (Ht rfl) (fun h=>dI (fV rfl h) (cJ 0))) (ro rfl (gK (Ht rfl) (fun h=>(fV rfl h))) (eX (dQ (Ht rfl) (fun hb=>?_) (fun hb=>?_))))))))))))))))
 ·simp [aN] at hb
  have h0 : m * 2 ^ k = m := by
   rcases hb with h | h
   ·simp_all [tE]
   ·rw [h,Nat.pow_zero,Nat.mul_one]
  refine ts (rm rfl (ra rfl (eX (fG rfl (fZ (eU rfl) ?_)))))
  exact (eM h0.symm)
 ·clear hb
  have hr:=Nat.mod_lt k (by decide:32 > 0)
  refine cU (ts (rm rfl (ro rfl (sM (Ht rfl) (cJ 32) zo z6) (rm rfl (ro rfl (lG (Ht rfl) (cJ 32) zo) (ro rfl (gV U_3 U_275 (Ht rfl) z7) (ra rfl (ra rfl (eX (ts (rm rfl (ro rfl (dG U_28 (Ht rfl) aA) (rm rfl (ro rfl (dV (Ht rfl) (Ht rfl) z6) (ro rfl (dV (Ht rfl) (cJ 1) z6) ?_)))))))))))))))
  refine rn rfl (fS (T:=cE 0) (i:=Tryz.t24) V_28 mK rfl rfl (Ht rfl) rfl (fun _=>rfl) trivial (by show 4 * _ ≤ _; omega) zo) fun B29=>ra rfl (eX (cK (ts (rm rfl (ro rfl (dG U_28 (Ht rfl) aA) (ro rfl (cX (cJ 0)) (eX (eG ?_))))))))
  refine iW (fun (i : Nat) (out : List Nat) => zM (dg m) (k / 32) (k % 32) out i) (fun (i : Nat) (out : List Nat) => (dg m).length - i) (fun (i : Nat) (out : List Nat) => [(5, NT .i64 (k / 32)), (6, NT .u64 (k % 32)), (7, Is (.slice (some ⟨B29, 0, none⟩) ((dg m).length + k / 32 + 1) ((dg m).length + k / 32 + 1))), (30, aI m), (31, NT .i64 (dg m).length), (32, NT .i64 i)]) (fun (i : Nat) (out : List Nat) => [box B29 24 (out.map cE)]) 0 (List.replicate ((dg m).length + k / 32 + 1) 0) (zM.start _ _ _)
   (zS rfl) (aU (aH (oD _)) aY) (fun i out hS=>?_)
  refine ts (ro rfl (gJ (Ht rfl) (Ht rfl)) (eX (cK (dQ (Ht rfl) (fun hb=>?_) (fun hb=>?_)))))
  ·simp at hb
   have hlen:=hS.len; have hxi:=bB (bL m) i; have hok:=bB hS.dig (i + k / 32)
   have hv:=Lt hxi hr
   have hd:(dg m).getD i 0 * 2 ^ (k % 32) / 2 ^ 32 < 4294967296:=Nat.div_lt_of_lt_mul hv
   simp only [BB] at hxi hok
   refine cU (cK (eG (ts (rm rfl (ro rfl (dZ U_28 Z_24 (Ht rfl) (Ht rfl) rfl (dY (bD zo))) (ro rfl (dJ A_24 Z_24 (Ht rfl)) (ra rfl (ra rfl (eX (ts (rm rfl (ro rfl (gV U_24 U_274 (Ht rfl) z7) (rm rfl (ro rfl (lH (Ht rfl) (Ht rfl) (by show _ ≤ _; simp [IntKind.bits]; omega) (by show _ < 18446744073709551616; exact hv)) (ra rfl (eX (ts (rm rfl (rm rfl (rm rfl (ro rfl (dV (Ht rfl) (Ht rfl) z6) ?_)))))))))))))))))))))
   refine ro rfl (gX U_28 Z_24 (Ht rfl) (Ht rfl) rfl zo (by rw [Nat.mul_one,Nat.zero_add])) ?_
   refine ro rfl (eY A_24 Z_24 (Ht rfl) (i:=0) rfl (dY (bD zo))) (rm rfl (ro rfl (iS rfl U_274 U_24 (Ht rfl)) (ro rfl (oC rfl (Ht rfl) (Ht rfl) (by show _ < 4294967296; omega) (by show _ % 4294967296 < 4294967296; omega)) (ro rfl (gX U_28 Z_24 (Ht rfl) (Ht rfl) rfl zo (by rw [Nat.mul_one,Nat.zero_add])) ?_))))
   refine nA Z_24 (Ht rfl) (Ht rfl) (i:=0) rfl (by first | omega | (simp; omega)) rfl (eX (cY (rm rfl (rm rfl (rm rfl (ro rfl (dV (Ht rfl) (Ht rfl) z6) (ro rfl (dV (Ht rfl) (cJ 1) z6) (rm rfl (ro rfl (fB (Ht rfl) (cJ 32) (by decide)) (ro rfl (gV U_274 U_24 (Ht rfl) (by show _ < 4294967296; exact hd)) (ro rfl (gX U_28 Z_24 (Ht rfl) (Ht rfl) rfl zo (by rw [Nat.mul_one,Nat.zero_add])) ?_)))))))))))
   refine nA Z_24 (Ht rfl) (Ht rfl) (i:=0) rfl (by first | omega | (simp; omega)) rfl (eX (cD (cY (ro rfl (dV (Ht rfl) (cJ 1) z6) (rm rfl (eX (gQ (i + 1,_) (hS.next (bL m) hr hb rfl rfl) (by dsimp only; omega) (zS rfl) (aU (aH (Rk _ _ _ _ _)) aY))))))))
  ·simp at hb
   have hkl:i = (dg m).length:=Nat.le_antisymm hS.kle hb
   subst hkl
   have hlen:=hS.len
   have hfin:=hS.fin
   rw [dF,pK] at hfin
   refine gG rfl (gW (i:=0) (tt:=7) rfl rfl (oY rfl hlen.symm (Nat.le_refl _)) (ts (rm rfl (ro rfl (cZ K_203 (nU _ hS.dig zo) ⟨(Ht rfl),trivial⟩) (ra rfl (eX (fG rfl (fZ (eU rfl) ?_))))))))
   exact (eM hfin)
theorem a1y {m k:Nat} (hm:(dg m).length ≤ 17592186044416) (hk:k ≤ 562949953421312):bA Tryz.prog 253 [aI m,NT .i64 k] (aI (m / 2 ^ k)):=by
 refine bA.intro Tryz.func253 rfl Tryz.ntmps253 rfl (fun cx=>?_)
 have hr:=Nat.mod_lt k (by decide:32 > 0)
 refine ts (ro rfl (cQ cV) (eX (ts (rm rfl (ro rfl (sM (Ht rfl) (cJ 32) zo z6) (rm rfl (ro rfl (lG (Ht rfl) (cJ 32) zo) (ro rfl (gV U_3 U_275 (Ht rfl) z7) (ra rfl (ra rfl (eX (cK (ts (rm rfl (rm rfl (ro rfl (dG U_28 (Ht rfl) aA) (ro rfl (qB (Ht rfl) (Ht rfl)) (eX (dQ (Ht rfl) (fun hb=>?_) (fun hb=>?_))))))))))))))))))))
 ·simp at hb
  have h0:=Rm (bL m) hb (r:=k % 32)
  rw [dF,pK] at h0
  refine ts (ro rfl (cQ cV) (eX (fG rfl (fZ (eU rfl) ?_))))
  exact (fun v V h=>eM h0.symm v V (kU v V h))
 ·simp at hb
  refine cU (ts (rm rfl (ro rfl (dG U_28 (Ht rfl) aA) (rm rfl (ro rfl (dW (Ht rfl) (Ht rfl) zo z6) (rn rfl (fS (T:=cE 0) (i:=Tryz.t24) V_28 mK rfl rfl (Ht rfl) rfl (fun _=>rfl) trivial (by show 4 * _ ≤ _; omega) zo) fun B23=>(ra rfl (eX (cK (ts (rm rfl (ro rfl (iY U_28 (Ht rfl)) (ro rfl (cX (cJ 0)) (eX (eG ?_)))))))))))))))
  refine iW (fun (i : Nat) (out : List Nat) => zN (dg m) (k / 32) (k % 32) out i) (fun (i : Nat) (out : List Nat) => (dg m).length - i) (fun (i : Nat) (out : List Nat) => [(0, aI m), (5, NT .i64 (k / 32)), (6, NT .u64 (k % 32)), (7, Is (.slice (some ⟨B23, 0, none⟩) ((dg m).length - k / 32) ((dg m).length - k / 32))), (25, NT .i64 ((dg m).length - k / 32 : Nat)), (26, NT .i64 i)]) (fun (i : Nat) (out : List Nat) => [box B23 24 (out.map cE)]) 0 (List.replicate ((dg m).length - k / 32) 0) (zN.start _ _ _)
   (zS rfl) (aU (aH (oD _)) aY) (fun i out hS=>?_)
  refine ts (ro rfl (gJ (Ht rfl) (Ht rfl)) (eX (cK (dQ (Ht rfl) (fun hb=>?_) (fun hb=>?_)))))
  ·simp at hb
   have hlen:=hS.len; have hx0:=bB (bL m) (i + k / 32); have hx1:=bB (bL m) (i + k / 32 + 1)
   have hio:i < out.length:=by omega
   simp only [BB] at hx0 hx1
   refine cU (cK (eG (ts (rm rfl (ra rfl (eX (ts (rm rfl (rm rfl (rm rfl (ro rfl (dV (Ht rfl) (Ht rfl) z6) (ro rfl (dZ U_28 Z_24 (Ht rfl) (Ht rfl) rfl (dY (bD zo))) (ro rfl (dJ A_24 Z_24 (Ht rfl)) (ro rfl (gV U_24 U_274 (Ht rfl) z7) (ra rfl (eX (cK (jK (fun (v:Nat)=>v = (dg m).getD (i + k / 32) 0 + BB * (dg m).getD (i + k / 32 + 1) 0) (fun (v:Nat)=>[(0,aI m),(5,NT .i64 (k / 32)),(6,NT .u64 (k % 32)),(7,Is (.slice (some ⟨B23,0,none⟩) ((dg m).length - k / 32) ((dg m).length - k / 32))),(8,NT .i64 i),(9,NT .u64 v),(25,NT .i64 ((dg m).length - k / 32:Nat)),(26,NT .i64 i)]) (fun (v:Nat)=>[box B23 24 (out.map cE)]) ?_ (fun v hv=>?_)))))))))))))))))))
   ·refine ts (rm rfl (rm rfl (ro rfl (dV (Ht rfl) (Ht rfl) z6) (ro rfl (dV (Ht rfl) (cJ 1) z6) (rm rfl (ro rfl (dG U_28 (Ht rfl) aA) (ro rfl (gJ (Ht rfl) (Ht rfl)) (eX (dQ (Ht rfl) (fun hk2 => ?_) (fun hk2 => ?_))))))))))
    ·simp at hk2
     refine cY (rm rfl (rm rfl (rm rfl (rm rfl (ro rfl (dV (Ht rfl) (Ht rfl) z6) (ro rfl (dV (Ht rfl) (cJ 1) z6) (ro rfl (dZ U_28 Z_24 (Ht rfl) (Ht rfl) rfl (dY (bD zo))) (ro rfl (dJ A_24 Z_24 (Ht rfl)) (ro rfl (gV U_24 U_274 (Ht rfl) z7) (ro rfl (lH (Ht rfl) (cJ 32) (by decide) (by show _ < 18446744073709551616; omega)) ?_))))))))))
     refine ro rfl (aB.nat (oC rfl (Ht rfl) (Ht rfl) z7 z7) (Wo hx0)) (ra rfl (eX (aS ((dg m).getD (i + k / 32) 0 + BB * (dg m).getD (i + k / 32 + 1) 0) rfl (zS rfl) (dO.refl _))))
    ·simp at hk2
     refine cU (aS ((dg m).getD (i + k / 32) 0) (by simp [List.getD,List.getElem?_eq_none hk2]) (zS rfl) (dO.refl _))
   ·refine cY (rm rfl (rm rfl (rm rfl (rm rfl (ro rfl (fB (Ht rfl) (Ht rfl) (by show _ ≤ 64; omega)) (ro rfl (iS rfl U_274 U_24 (Ht rfl)) (ro rfl (gX U_28 Z_24 (Ht rfl) (Ht rfl) rfl zo (by rw [Nat.mul_one, Nat.zero_add])) ?_)))))))
    refine nA Z_24 (Ht rfl) (Ht rfl) (i:=0) rfl (by first | omega | (simp; omega)) rfl (eX (cD (cY (ro rfl (dV (Ht rfl) (cJ 1) z6) (rm rfl (eX (gQ (i + 1,_) (hS.next (bL m) hr hio (by rw [hv]; rfl)) (by dsimp only; omega) (zS rfl) (aU (aH (iN _ _ _)) aY))))))))
  ·simp at hb
   have hlen:=hS.len
   have hkl:i = out.length:=Nat.le_antisymm hS.kle zo
   subst hkl
   have hfin:=hS.fin (bL m) zo
   rw [dF,pK] at hfin
   refine gG rfl (gW (i:=0) (tt:=7) rfl rfl (oY rfl hlen.symm (Nat.le_refl _)) (ts (rm rfl (ro rfl (cZ K_203 (nU _ hS.dig zo) ⟨(Ht rfl),trivial⟩) (ra rfl (eX (fG rfl (fZ (eU rfl) ?_))))))))
   exact (eM hfin)
theorem Hv {m y:Nat} (hm:(dg m).length ≤ 17592186044416) (hy:0 < y) (hyb:y < BB):bA Tryz.prog 250 [aI m,cE y] (fE [aI (m / y),cE (m % y)]):=by
 refine bA.intro Tryz.func250 rfl Tryz.ntmps250 rfl (fun cx=>(ts (ro rfl (cQ cV) (ro rfl (cQ (cJ 0)) (eX (ts (rm rfl (ro rfl (dG U_28 (Ht rfl) aA) (rn rfl (fS (T:=cE 0) (i:=Tryz.t24) V_28 mK rfl rfl (Ht rfl) rfl (fun _=>rfl) trivial (by show 4 * _ ≤ _; omega) zo) fun B11=>(ra rfl (eX (ts (ro rfl (cQ (cJ 0)) (eX (cK (ts (rm rfl (ro rfl (dG U_28 (Ht rfl) aA) (ro rfl (iB (Ht rfl) cV (sV zo)) (ra rfl (eX (eG ?_))))))))))))))))))))))
 refine lA (fun (k : Nat) (out : List Nat) (r : Nat) => nQ (dg m) y out k r) (fun (k : Nat) (out : List Nat) (r : Nat) => k) (fun (k : Nat) (out : List Nat) (r : Nat) => [(0, aI m), (1, cE y), (6, Is (.slice (some ⟨B11, 0, none⟩) (dg m).length (dg m).length)), (7, cE r), (8, aD .i64 ((k : Int) - 1))]) (fun (k : Nat) (out : List Nat) (r : Nat) => [box B11 24 (out.map cE)]) (dg m).length (List.replicate (dg m).length 0) 0 (nQ.start _ hy)
  (zS rfl) (aU (aH (oD _)) aY) (fun k out r hS=>?_)
 refine cK (ts (rm rfl (ro rfl (mU (Ht rfl) cV) (eX (dQ (Ht rfl) (fun hb=>?_) (fun hb=>?_))))))
 ·simp at hb
  have hlen:=hS.len; have hkl:=hS.kle
  refine cU (cK (eG (cY (rm rfl (rm rfl (rm rfl (rm rfl (rm rfl (ro rfl (dZ U_28 Z_24 (Ht rfl) (Ht rfl) (show ((k:Int) - 1) = ((k - 1:Nat):Int) by omega) (dY (bD zo))) (ro rfl (dJ A_24 Z_24 (Ht rfl)) (rm rfl (ro rfl (cZ Tryz.call285 (Tk hS.rlt (bB (bL m) (k - 1)) hyb) ⟨(Ht rfl),(Ht rfl),(Ht rfl),trivial⟩) (rm rfl (ro rfl (dK (Ht rfl) rfl) (ro rfl (dK (Ht rfl) rfl) (ro rfl (gX U_28 Z_24 (Ht rfl) (Ht rfl) (show ((k:Int) - 1) = ((k - 1:Nat):Int) by omega) zo (by rw [Nat.mul_one,Nat.zero_add])) ?_))))))))))))))))
  refine nA Z_24 (Ht rfl) (Ht rfl) (i:=0) rfl (by first | omega | (simp; omega)) rfl (ra rfl (eX (cD (cY (rm rfl (ro rfl (iB (Ht rfl) cV (sV zo)) (ra rfl (eX (gQ (k - 1,_,_) (hS.next (bL m) zo rfl) (by dsimp only; omega) (aQ rfl (aQ rfl (aQ rfl (aQ rfl (aZ rfl (aP zo) aX))))) (aU (aH (iN _ _ _)) aY))))))))))
 ·simp at hb
  have hk0:k = 0:=by omega
  subst hk0
  have hlen:=hS.len
  have hfin:=hS.fin
  rw [dF] at hfin
  refine gG rfl (gW (i:=0) (tt:=6) rfl rfl (oY rfl hlen.symm (Nat.le_refl _)) (ts (rm rfl (ro rfl (cZ K_203 (nU _ hS.dig zo) ⟨(Ht rfl),trivial⟩) (rm rfl (ra rfl (ra rfl (eX (bE rfl (fZ (eU rfl) ?_) (fZ (eU rfl) ?_))))))))))
  ·exact (eM hfin.1)
  ·exact (kC hfin.2)
end
section
open Go Go.RowKit
theorem a08 {us vs : List Nat} {q j B l : Nat} (hul : us.length = l) (hu : iJ us) (hv : iJ vs) (hq : q < BB) (hl : j + vs.length < us.length) (hL : us.length ≤ 1152921504606846976) :
    gO Tryz.prog 252 [Is (.slice (some ⟨B,0,none⟩) l l),xJ vs,NT .u64 q,NT .i64 j] [box B 24 (us.map cE)] (List Nat × Bool) (fun x=>aC x.2) (fun x=>[box B 24 (x.1.map cE)]) (fun x=>Bq us vs q j x.1 x.2):=by
 refine gO.intro Tryz.func252 rfl Tryz.ntmps252 rfl (fun cx Z=>(ts (ro rfl (cQ cV) (eX (ts (ro rfl (cQ (cJ 0)) (ro rfl (cQ (cJ 0)) (eX (cK (ts (rm rfl (ro rfl (dG U_28 (Ht rfl) aA) (ro rfl (cX (cJ 0)) (eX (eG ?_)))))))))))))))
 refine Hb (fun (i : Nat) (out : List Nat) (c : Nat) (b : Nat) => rQ us vs q j out i c b) (fun (i : Nat) (out : List Nat) (c : Nat) (b : Nat) => vs.length - i) (fun (i : Nat) (out : List Nat) (c : Nat) (b : Nat) => [(0, Is (.slice (some ⟨B, 0, none⟩) l l)), (1, xJ vs), (2, NT .u64 q), (3, NT .i64 j), (9, NT .u64 c), (10, NT .u64 b), (16, xJ vs), (17, NT .i64 vs.length), (18, NT .i64 i)]) (fun (i : Nat) (out : List Nat) (c : Nat) (b : Nat) => [Z, box B 24 (out.map cE)]) 0 us 0 0 (rQ.start hu vs q j)
  (zS rfl) (dO.refl _) (fun i out c b hS=>?_)
 refine ts (ro rfl (gJ (Ht rfl) (Ht rfl)) (eX (cK (dQ (Ht rfl) (fun hb=>?_) (fun hb=>?_)))))
 ·simp at hb
  have hlen:=hS.len; have hcl:=hS.clt; have hbl:=hS.ble; have hvi:=bB hv i; have hok:=bB hS.dig (i + j)
  have hp:=Sb hq hvi hS.clt
  simp only [BB] at hp hcl hvi hok
  obtain ⟨p,hp1⟩:∃ p,p = q * vs.getD i 0 + c:=⟨_,rfl⟩
  obtain ⟨x,hx1⟩:∃ x,x = ((out.getD (i + j) 0 + 18446744073709551616 - p % 4294967296) % 18446744073709551616 + 18446744073709551616 - b) % 18446744073709551616:=⟨_,rfl⟩
  refine cU (cK (eG (ts (rm rfl (ro rfl (dZ U_28 Z_24 (Ht rfl) (Ht rfl) rfl (dY (bD zo))) (ro rfl (dJ A_24 Z_24 (Ht rfl)) (ra rfl (ra rfl (eX (ts (rm rfl (rm rfl (ro rfl (gV U_24 U_274 (Ht rfl) z7) (ro rfl (jI (Ht rfl) (Ht rfl) z7) (rm rfl (ro rfl (aB.nat (dV (Ht rfl) (Ht rfl) z7) hp1.symm) ?_))))))))))))))))
  refine ra rfl (eX (ts (rm rfl (ro rfl (fB (Ht rfl) (cJ 32) (by decide)) (ra rfl (eX (ts (rm rfl (rm rfl (rm rfl (ro rfl (dV (Ht rfl) (Ht rfl) z6) (ro rfl (gX U_28 Z_24 (Ht rfl) (Ht rfl) rfl zo (by rw [Nat.mul_one,Nat.zero_add])) ?_))))))))))))
  refine ro rfl (eY A_24 Z_24 (Ht rfl) (i:=1) rfl (dY (bD zo))) (ro rfl (gV U_24 U_274 (Ht rfl) z7) (rm rfl (ro rfl (iS rfl U_274 U_24 (Ht rfl)) (ro rfl (gV U_24 U_274 (Ht rfl) z7) (ro rfl (qD rfl (Ht rfl) (Ht rfl) (by show _ ≤ 18446744073709551616; first | omega | (simp only [kR]; omega))) ?_)))))
  refine rm rfl (ro rfl (aB.nat (qD rfl (Ht rfl) (Ht rfl) (by show _ ≤ 18446744073709551616; first | omega | (simp only [kR]; omega))) hx1.symm) (ra rfl (eX (ts (rm rfl (rm rfl (rm rfl (ro rfl (dV (Ht rfl) (Ht rfl) z6) (rm rfl (ro rfl (iS rfl U_274 U_24 (Ht rfl)) (ro rfl (gX U_28 Z_24 (Ht rfl) (Ht rfl) rfl zo (by rw [Nat.mul_one,Nat.zero_add])) ?_)))))))))))
  refine nA Z_24 (Ht rfl) (Ht rfl) (i:=1) rfl (by first | omega | (simp; omega)) rfl (eX (cY (rm rfl (ro rfl (fB (Ht rfl) (cJ 63) (by decide)) (ra rfl (eX (cD (cY (ro rfl (dV (Ht rfl) (cJ 1) z6) (rm rfl (eX (gQ (i + 1,_,_,_) (hS.next hu hv hq hb hl hp1 (Gi hok hbl hx1) rfl) (by dsimp only; omega) (zS rfl) (aU (fun _ _ _ h=>h) (aU (aH (iN _ _ _)) aY))))))))))))))
 ·simp at hb
  have hkl:i = vs.length:=Nat.le_antisymm hS.ile hb
  subst hkl
  have hlen:=hS.len; have hcl:=hS.clt; have hbl:=hS.ble; have hok:=bB hS.dig (j + vs.length)
  obtain ⟨x,hx1⟩:∃ x,x = ((out.getD (j + vs.length) 0 + 18446744073709551616 - c) % 18446744073709551616 + 18446744073709551616 - b) % 18446744073709551616:=⟨_,rfl⟩
  have hfin:=hS.fin hl (Gl hok hcl hbl hx1) rfl
  simp only [BB] at hcl hok
  refine gG rfl (ts (rm rfl (rm rfl (rm rfl (ro rfl (dG U_28 (Ht rfl) aA) (ro rfl (dV (Ht rfl) (Ht rfl) z6) (ro rfl (gX U_28 Z_24 (Ht rfl) (Ht rfl) rfl zo (by rw [Nat.mul_one,Nat.zero_add])) ?_)))))))
  refine ro rfl (eY A_24 Z_24 (Ht rfl) (i:=1) rfl (dY (bD zo))) (ro rfl (gV U_24 U_274 (Ht rfl) z7) (rm rfl (ro rfl (qD rfl (Ht rfl) (Ht rfl) (by show _ ≤ 18446744073709551616; first | omega | (simp only [kR]; omega))) (rm rfl (ro rfl (aB.nat (qD rfl (Ht rfl) (Ht rfl) (by show _ ≤ 18446744073709551616; first | omega | (simp only [kR]; omega))) hx1.symm) (ra rfl (eX (ts (rm rfl (rm rfl (rm rfl (ro rfl (dG U_28 (Ht rfl) aA) ?_))))))))))))
  refine ro rfl (dV (Ht rfl) (Ht rfl) z6) (rm rfl (ro rfl (iS rfl U_274 U_24 (Ht rfl)) (ro rfl (gX U_28 Z_24 (Ht rfl) (Ht rfl) rfl zo (by rw [Nat.mul_one,Nat.zero_add])) ?_)))
  refine nA Z_24 (Ht rfl) (Ht rfl) (i:=1) rfl (by first | omega | (simp; omega)) rfl (eX (ts (rm rfl (ro rfl (fB (Ht rfl) (cJ 63) (by decide)) (ro rfl (jW (Ht rfl) (cJ 0)) (ra rfl (eX ?_)))))))
  exact kF (_,_) hfin [0,1] ⟨⟨_,rfl,fun _ _ _ h=>h⟩,⟨_,rfl,(aH (iN _ _ _))⟩,trivial⟩ (by decide) (wZ rfl (eU rfl))
theorem Ca {m n:Nat} (hm:(dg m).length ≤ 17592186044415) (hn1:(dg n).length ≤ 17592186044416) (hn:n ≠ 0):bA Tryz.prog 202 [aI m,aI n] (fE [aI (m / n),aI (m % n)]):=by
 refine bA.intro Tryz.func202 rfl Tryz.ntmps202 rfl (fun cx=>(ts (ro rfl (cQ cV) (ro rfl (cQ cV) (eX (cK (ts (rm rfl (rm rfl (ro rfl (cZ Tryz.call129 (By zo zo) ⟨(Ht rfl),(Ht rfl),trivial⟩) (ro rfl (kG (Ht rfl) cV) (eX (dQ (Ht rfl) (fun hb=>?_) (fun hb=>?_))))))))))))))
 ·simp only [decide_eq_true_eq] at hb
  have hlt : m < n := by
   unfold oP at hb
   split at hb
   ·assumption
   ·split at hb <;> simp at hb
  refine ts (rm rfl (ro rfl (cQ cV) (ra rfl (eX (bE rfl (fZ (eU rfl) ?_) (fZ (eU rfl) ?_))))))
  ·exact (fun v V h=>eM (Nat.div_eq_of_lt hlt).symm v V (kU v V h))
  ·exact (eM (Nat.mod_eq_of_lt hlt).symm)
 ·simp only [decide_eq_false_iff_not] at hb
  have hle : n ≤ m := by
   unfold oP at hb
   split at hb
   ·simp at hb
   ·omega
  clear hb
  refine cU (cK (ts (rm rfl (ro rfl (dG U_28 (Ht rfl) aA) (ro rfl (dI (Ht rfl) (cJ 1)) (eX (dQ (Ht rfl) (fun h1=>?_) (fun h1=>?_))))))))
  ·simp at h1
   have hy0:=a0c h1
   have hyb:=bB (bL n) 0
   have hmod:=Nat.mod_lt m (show (dg n).getD 0 0 > 0 by omega)
   simp only [BB] at hyb
   refine ts (rm rfl (rm rfl (ro rfl (dZ U_28 Z_24 (Ht rfl) (cJ 0) rfl (dY (bD zo))) (ro rfl (dJ A_24 Z_24 (Ht rfl)) (ro rfl (cZ Tryz.call250 (Hv zo zo hyb) ⟨(Ht rfl),(Ht rfl),trivial⟩) (rm rfl (ro rfl (dK (Ht rfl) rfl) (ro rfl (dK (Ht rfl) rfl) (ra rfl (ra rfl (eX (ts (rm rfl (rm rfl (ro rfl (gV U_24 U_274 (Ht rfl) z7) (ro rfl (cZ Tryz.call207 (uN zo) ⟨(Ht rfl),trivial⟩) ?_))))))))))))))))
   refine ra rfl (ra rfl (eX (bE rfl (fZ (eU rfl) ?_) (fZ (eU rfl) ?_))))
   ·exact (eM (by rw [hy0]))
   ·exact (eM (by rw [hy0]))
  ·simp at h1
   have hl0:(dg n).length ≠ 0:=fun e=>hn (aN.1 e)
   have hyb:=bB (bL n) ((dg n).length - 1)
   obtain ⟨s,hs⟩:∃ s,s = 32 - bl ((dg n).getD ((dg n).length - 1) 0):=⟨_,rfl⟩
   obtain ⟨hs1,hvl,hvb⟩:=Ot hn hs
   obtain ⟨hc1,hc2,hc3,hc4⟩:=Og (m:=m) hs1
   simp only [BB] at hyb
   have hp2:0 < 2 ^ s:=Nat.pow_pos (by decide)
   have hX0:(dg (m * 2 ^ s)).length ≠ 0:=fun e=>(Nat.ne_of_gt (Nat.mul_pos (show 0 < m by omega) hp2)) (aN.1 e)
   have hmono:=iE hle
   refine cU (ts (rm rfl (ro rfl (dG U_28 (Ht rfl) aA) (rm rfl (rm rfl (ro rfl (dG U_28 (Ht rfl) aA) (ro rfl (dW (Ht rfl) (cJ 1) zo z6) (ro rfl (dZ U_28 Z_24 (Ht rfl) (Ht rfl) rfl (dY (bD zo))) (ro rfl (dJ A_24 Z_24 (Ht rfl)) (ro rfl (aB.nat (cZ Tryz.call251 (a06 zo) ⟨(Ht rfl),trivial⟩) hs.symm) (ra rfl (ra rfl (eX (ts (rm rfl (rm rfl (ro rfl (cZ K_206 (qI zo zo) ⟨(Ht rfl),(Ht rfl),trivial⟩) ?_)))))))))))))))))
   refine ra rfl (eX (ts (rm rfl (ro rfl (dG U_28 (Ht rfl) aA) (ro rfl (dV (Ht rfl) (cJ 1) z6) (rn rfl (fS (T:=cE 0) (i:=Tryz.t24) V_28 mK rfl rfl (Ht rfl) rfl (fun _=>rfl) trivial (by show 4 * _ ≤ _; omega) zo) fun B55=>(ra rfl (eX (ts (rm rfl (rm rfl (rm rfl (ro rfl (cZ K_206 (qI zo zo) ⟨(Ht rfl),(Ht rfl),trivial⟩) (Su U_28 Z_24 (Ht rfl) (Ht rfl) (a0y hX0) a20 (i:=0) rfl (by simp) (by simp; omega) (Oh _ _) rfl rfl ?_))))))))))))))
   refine eX (ts (rm rfl (ro rfl (iY U_28 (Ht rfl)) (rm rfl (ro rfl (dW (Ht rfl) (Ht rfl) zo z6) (rn rfl (fS (T:=cE 0) (i:=Tryz.t24) V_28 mK rfl rfl (Ht rfl) rfl (fun _=>rfl) trivial (by show 4 * _ ≤ _; omega) zo) fun B65=>(ra rfl (eX (cK (ts (rm rfl (ro rfl (iY U_28 (Ht rfl)) (ro rfl (iB (Ht rfl) cV (sV zo)) (ra rfl (eX (eG ?_))))))))))))))))
   obtain ⟨vs,hvs⟩:∃ vs,vs = dg (n * 2 ^ s):=⟨_,rfl⟩
   rw [← hvs] at hvl hvb
   have hv:iJ vs:=hvs ▸ bL _
   have hvv:val vs = n * 2 ^ s:=by rw [hvs,dF]
   have hV0:0 < val vs:=by rw [hvv]; exact Nat.mul_pos zo hp2
   have hnr:=Vt hv zo hvb
   have hv1:=hnr.v1lt; have hv2:=hnr.v2lt; have hbig:=hnr.big
   simp only [BB] at hv1 hv2 hbig
   refine lA (fun (k : Nat) (us : List Nat) (qs : List Nat) => mE (m * 2 ^ s) vs us qs k ∧ us.length = (dg m).length + 1) (fun (k : Nat) (us : List Nat) (qs : List Nat) => k) (fun (k : Nat) (us : List Nat) (qs : List Nat) => [(8, NT .i64 vs.length), (9, NT .i64 s), (10, xJ vs), (11, Is (.slice (some ⟨B55, 0, none⟩) ((dg m).length + 1) ((dg m).length + 1))), (12, Is (.slice (some ⟨B65, 0, none⟩) ((dg m).length + 1 - (dg n).length) ((dg m).length + 1 - (dg n).length))), (13, aD .i64 ((k : Int) - 1))]) (fun (k : Nat) (us : List Nat) (qs : List Nat) => [box B55 24 (us.map cE), box B65 24 (qs.map cE)]) ((dg m).length + 1 - (dg n).length) (yR m s) (List.replicate ((dg m).length + 1 - (dg n).length) 0) ⟨mE.start hv zo hvb hs1 (by have := gC (bL m); rwa [dF] at this) hc3 hc2 hc4 zo, hc2⟩
    (aZ rfl (kC hvl.symm) (aQ rfl (aZ rfl (fun v V h=>by rw [hvs]; exact h) (aQ rfl (aQ rfl (aZ rfl (aP zo) aX)))))) (aU (fun _ _ _ h=>h) (aU (aH (oD _)) aY)) (fun k us qs ⟨hS,hus⟩=>?_)
   refine cK (ts (rm rfl (ro rfl (mU (Ht rfl) cV) (eX (dQ (Ht rfl) (fun hk=>?_) (fun hk=>?_))))))
   ·simp at hk
    obtain ⟨j,rfl⟩:∃ j,k = j + 1:=⟨k - 1,by omega⟩
    have htp:=hS.top hv zo (Nat.succ_pos j) rfl
    have hkq:=hS.kle; have hlq:=hS.lenq
    rw [Nat.add_sub_cancel] at htp
    have hu0:=bB hS.dig (j + vs.length); have hu1:=bB hS.dig (j + vs.length - 1); have hu2:=bB hS.dig (j + vs.length - 2)
    have ht64:=a27 hu0 hu1; have hsh:=Yz hu0
    obtain ⟨top,htop⟩:∃ top,top = us.getD (j + vs.length) 0 * BB + us.getD (j + vs.length - 1) 0:=⟨_,rfl⟩
    have hor:=(Ax (a:=us.getD (j + vs.length) 0) hu1).trans htop.symm
    rw [← htop] at htp ht64
    have hu2b:=hu2
    simp only [BB] at hu0 hu1 hu2
    refine rP (E':=[(8,_),(9,_),(10,_),(11,_),(12,_),(13,_),(69,_),(70,_)]) (aQ rfl (aQ rfl (aQ rfl (aQ rfl (aQ rfl (aZ rfl (aP (show ((j + 1:Nat):Int) - 1 = (j:Int) by omega)) (zS rfl))))))) (cU (cK (eG (cK (fJ (m:=16) (dp 11 rfl (cX (Ht rfl)) (dp 13 rfl (cX (Ht rfl)) (dp 8 rfl (cX (Ht rfl)) (eA 74 1 75 2 rfl (dV (Ht rfl) (Ht rfl) z6) (eA 73 0 76 3 rfl (gX U_28 Z_24 (Ht rfl) (Ht rfl) rfl zo (by rw [Nat.mul_one,Nat.zero_add])) ?_))))))))))
    refine dq 77 4 rfl (eY A_24 Z_24 (Ht rfl) (i:=0) rfl (dY (bD zo))) (dq 78 5 rfl (gV U_24 U_274 (Ht rfl) z7) (dq 79 6 rfl (lH (Ht rfl) (cJ 32) (by decide) hsh) (dp 11 rfl (cX (Ht rfl)) (dp 13 rfl (cX (Ht rfl)) (dp 8 rfl (cX (Ht rfl)) (eA 82 9 83 10 rfl (dV (Ht rfl) (Ht rfl) z6) (dq 84 11 rfl (dW (Ht rfl) (cJ 1) zo z6) ?_)))))))
    refine eA 81 8 85 12 rfl (gX U_28 Z_24 (Ht rfl) (Ht rfl) rfl zo (by rw [Nat.mul_one,Nat.zero_add])) ?_
    refine dq 86 13 rfl (eY A_24 Z_24 (Ht rfl) (i:=0) rfl (dY (bD zo))) (dq 87 14 rfl (gV U_24 U_274 (Ht rfl) z7) (fW bC rfl (by kernel_rfl) (zF (zF (zF (zF (aV (ro rfl (aB.nat (oC rfl (Ht rfl) (Ht rfl) z7 z7) hor) ?_))))))))
    refine ra rfl (eX (cK (fJ (m:=17) (dp 14 rfl (cX (Ht rfl)) (dp 10 rfl (cX (Ht rfl)) (dp 8 rfl (cX (Ht rfl)) (dq 92 2 rfl (dW (Ht rfl) (cJ 1) zo z6) (eA 91 1 93 3 rfl (dZ U_28 Z_24 (Ht rfl) (Ht rfl) rfl (dY (bD zo))) (dq 94 4 rfl (dJ A_24 Z_24 (Ht rfl)) (dq 95 5 rfl (gV U_24 U_274 (Ht rfl) z7) ?_))))))))))
    refine eA 90 0 96 6 rfl (sM (Ht rfl) (Ht rfl) zo (by show _ < 18446744073709551616; exact ht64)) (dp 14 rfl (cX (Ht rfl)) (dp 10 rfl (cX (Ht rfl)) (dp 8 rfl (cX (Ht rfl)) (dq 100 10 rfl (dW (Ht rfl) (cJ 1) zo z6) (eA 99 9 101 11 rfl (dZ U_28 Z_24 (Ht rfl) (Ht rfl) rfl (dY (bD zo))) (dq 102 12 rfl (dJ A_24 Z_24 (Ht rfl)) (dq 103 13 rfl (gV U_24 U_274 (Ht rfl) z7) ?_)))))))
    refine eA 98 8 104 14 rfl (lG (Ht rfl) (Ht rfl) zo) (dq 97 7 rfl (cQ (Ht rfl)) (fW bC rfl (by kernel_rfl) (zF (zF (zF (zF (aJ (aV (ra rfl (eX (cK (jK (fun (g:Nat)=>Kb (val (us.drop j)) (val vs) g) (fun (g:Nat)=>[(8,NT .i64 vs.length),(9,NT .i64 s),(10,xJ vs),(11,Is (.slice (some ⟨B55,0,none⟩) ((dg m).length + 1) ((dg m).length + 1))),(12,Is (.slice (some ⟨B65,0,none⟩) ((dg m).length + 1 - (dg n).length) ((dg m).length + 1 - (dg n).length))),(13,NT .i64 j),(15,NT .u64 g)]) (fun (g:Nat)=>[box B55 24 (us.map cE),box B65 24 (qs.map cE)]) ?_ (fun g hg=>?_)))))))))))))
    ·refine eG ?_
     refine iW (fun (g : Nat) (r : Nat) => kE (val (us.drop j)) (val vs) (vs.getD (vs.length - 1) 0) top g r ∧ r < 4294967296) (fun (g : Nat) (r : Nat) => g) (fun (g : Nat) (r : Nat) => [(8, NT .i64 vs.length), (9, NT .i64 s), (10, xJ vs), (11, Is (.slice (some ⟨B55, 0, none⟩) ((dg m).length + 1) ((dg m).length + 1))), (12, Is (.slice (some ⟨B65, 0, none⟩) ((dg m).length + 1 - (dg n).length) ((dg m).length + 1 - (dg n).length))), (13, NT .i64 j), (15, NT .u64 g), (16, NT .u64 r)]) (fun (g : Nat) (r : Nat) => [box B55 24 (us.map cE), box B65 24 (qs.map cE)]) (top / vs.getD (vs.length - 1) 0) (top % vs.getD (vs.length - 1) 0) ⟨kE.start hnr htp, Nat.lt_trans (Nat.mod_lt _ zo) hv1⟩
      (zS rfl) (dO.refl _) (fun g r ⟨hG,hr⟩=>?_)
     have hgl:=(hG.glt hnr htp).1
     have hrs:=Yz (a:=r) hr
     have horr:=Ax (a:=r) hu2b
     simp only [BB] at hgl
     refine cK (cK (fJ (m:=22) (dp 15 rfl (cX (Ht rfl)) (dq 106 0 rfl (qB (Ht rfl) (cJ 4294967296)) (dq 107 1 rfl (cX (Ht rfl)) (C.D_step (Ei:=[(15,_),(108,_)]) rfl rfl (bV (bK rfl rfl) (bV (bG 2 rfl rfl) bW)) (eK rfl rfl (Ht rfl) (fun h=>cX (Ht rfl))) (C.D_step (Ei:=[(10,_),(108,_)]) rfl rfl (bV (bK rfl rfl) (bV (bG 2 rfl rfl) bW)) (eK rfl rfl (Ht rfl) (fun h=>cX (Ht rfl))) (C.D_step (Ei:=[(8,_),(108,_)]) rfl rfl (bV (bK rfl rfl) (bV (bG 2 rfl rfl) bW)) (eK rfl rfl (Ht rfl) (fun h=>cX (Ht rfl))) ?_))))))))
     refine C.D_step (Ei:=[(111,_),(108,_)]) rfl rfl (bV (bG 5 rfl rfl) (bV (bG 2 rfl rfl) bW)) (eK rfl rfl (Ht rfl) (fun h=>dW (fV rfl h) (cJ 2) (by first | omega | (simp at h; omega)) (by show _ < 9223372036854775808; first | omega | (simp at h; omega)))) (C.D_step (Ei:=[(110,_),(112,_),(108,_)]) rfl rfl (bV (bG 4 rfl rfl) (bV (bG 6 rfl rfl) (bV (bG 2 rfl rfl) bW))) (eK rfl rfl (Ht rfl) (fun h=>dZ U_28 Z_24 (fV rfl h) (fV rfl h) rfl (dY (bD (by first | omega | (simp at h; omega)))))) ?_)
     refine C.D_step (Ei:=[(113,_),(108,_)]) rfl rfl (bV (bG 7 rfl rfl) (bV (bG 2 rfl rfl) bW)) (eK rfl rfl (Ht rfl) (fun h=>dJ A_24 Z_24 (fV rfl h))) (C.D_step (Ei:=[(114,_),(108,_)]) rfl rfl (bV (bG 8 rfl rfl) (bV (bG 2 rfl rfl) bW)) (eK rfl rfl (Ht rfl) (fun h=>gV U_24 U_274 (fV rfl h) (by show _ < 18446744073709551616; first | omega | (simp at h; omega)))) (C.D_step (Ei:=[(109,_),(115,_),(108,_)]) rfl rfl (bV (bG 3 rfl rfl) (bV (bG 9 rfl rfl) (bV (bG 2 rfl rfl) bW))) (eK rfl rfl (Ht rfl) (fun h=>jI (fV rfl h) (fV rfl h) (by show _ < 18446744073709551616; simp at h; exact a1P h hv2))) ?_))
     refine C.D_step (Ei:=[(16,_),(108,_)]) rfl rfl (bV (bK rfl rfl) (bV (bG 2 rfl rfl) bW)) (eK rfl rfl (Ht rfl) (fun h=>cX (Ht rfl))) (C.D_step (Ei:=[(117,_),(108,_)]) rfl rfl (bV (bG 11 rfl rfl) (bV (bG 2 rfl rfl) bW)) (eK rfl rfl (Ht rfl) (fun h=>lH (fV rfl h) (cJ 32) (by decide) hrs)) (C.D_step (Ei:=[(11,_),(108,_)]) rfl rfl (bV (bK rfl rfl) (bV (bG 2 rfl rfl) bW)) (eK rfl rfl (Ht rfl) (fun h=>cX (Ht rfl))) (C.D_step (Ei:=[(13,_),(108,_)]) rfl rfl (bV (bK rfl rfl) (bV (bG 2 rfl rfl) bW)) (eK rfl rfl (Ht rfl) (fun h=>cX (Ht rfl))) ?_)))
     refine C.D_step (Ei:=[(8,_),(108,_)]) rfl rfl (bV (bK rfl rfl) (bV (bG 2 rfl rfl) bW)) (eK rfl rfl (Ht rfl) (fun h=>cX (Ht rfl))) (C.D_step (Ei:=[(120,_),(121,_),(108,_)]) rfl rfl (bV (bG 14 rfl rfl) (bV (bG 15 rfl rfl) (bV (bG 2 rfl rfl) bW))) (eK rfl rfl (Ht rfl) (fun h=>dV (fV rfl h) (fV rfl h) (by show _ < 9223372036854775808; first | omega | (simp at h; omega)))) (C.D_step (Ei:=[(122,_),(108,_)]) rfl rfl (bV (bG 16 rfl rfl) (bV (bG 2 rfl rfl) bW)) (eK rfl rfl (Ht rfl) (fun h=>dW (fV rfl h) (cJ 2) (by first | omega | (simp at h; omega)) (by show _ < 9223372036854775808; first | omega | (simp at h; omega)))) ?_))
     refine C.D_step (Ei:=[(119,_),(123,_),(108,_)]) rfl rfl (bV (bG 13 rfl rfl) (bV (bG 17 rfl rfl) (bV (bG 2 rfl rfl) bW))) (eK rfl rfl (Ht rfl) (fun h=>gX U_28 Z_24 (fV rfl h) (fV rfl h) rfl (by first | omega | (simp at h; omega)) (by rw [Nat.mul_one,Nat.zero_add]))) ?_
     refine C.D_step (Ei:=[(124,_),(108,_)]) rfl rfl (bV (bG 18 rfl rfl) (bV (bG 2 rfl rfl) bW)) (eK rfl rfl (Ht rfl) (fun h=>eY A_24 Z_24 (fV rfl h) (i:=0) rfl (dY (bD zo)))) (C.D_step (Ei:=[(125,_),(108,_)]) rfl rfl (bV (bG 19 rfl rfl) (bV (bG 2 rfl rfl) bW)) (eK rfl rfl (Ht rfl) (fun h=>gV U_24 U_274 (fV rfl h) (by show _ < 18446744073709551616; first | omega | (simp at h; omega)))) (C.D_step (Ei:=[(118,_),(126,_),(108,_)]) rfl rfl (bV (bG 12 rfl rfl) (bV (bG 20 rfl rfl) (bV (bG 2 rfl rfl) bW))) (eK rfl rfl (Ht rfl) (fun h=>aB.nat (oC rfl (fV rfl h) (fV rfl h) (by show _ < 18446744073709551616; first | omega | (simp at h; omega)) (by show _ < 18446744073709551616; first | omega | (simp at h; omega))) horr)) ?_))
     refine fW bC rfl (by kernel_rfl) (zF (zF (zF (zF (zF (aJ (aJ (aV (fQ rfl rfl (eK rfl rfl (Ht rfl) (fun h=>gR (fV rfl h) (fV rfl h))) (ro rfl (gK (Ht rfl) (fun h=>(fV rfl h))) (eX (dQ (Ht rfl) (fun hc=>?_) (fun hc=>?_)))))))))))))
     ·have hn2 := hG.next hnr htp (by simpa [BB] using hc)
      have hg1:=hn2.2
      refine cU (eG (ts (rm rfl (ro rfl (dW (Ht rfl) (cJ 1) zo z7) (ra rfl (eX (ts (rm rfl (rm rfl (rm rfl (ro rfl (dW (Ht rfl) (cJ 1) zo z6) (ro rfl (dZ U_28 Z_24 (Ht rfl) (Ht rfl) rfl (dY (bD zo))) (ro rfl (dJ A_24 Z_24 (Ht rfl)) (ro rfl (gV U_24 U_274 (Ht rfl) z7) ?_))))))))))))))
      refine ro rfl (dV (Ht rfl) (Ht rfl) z7) (ra rfl (eX (ts (rm rfl (ro rfl (qB (Ht rfl) (cJ 4294967296)) (eX (dQ (Ht rfl) (fun hr2=>?_) (fun hr2=>?_))))))))
      ·simp at hr2
       refine gG rfl (aS (g - 1) (hn2.1.stop hnr htp hr2) (zS rfl) (dO.refl _))
      ·simp at hr2
       refine cU (cD (gQ (g - 1,_) ⟨hn2.1,hr2⟩ (by dsimp only; omega) (zS rfl) (dO.refl _)))
     ·simp at hc
      refine gG rfl (aS g (hG.done hnr htp hc.1 hc.2) (zS rfl) (dO.refl _))
    ·have hglt := hg.lt
     simp only [BB] at hglt
     refine cK (pN (fun (us2:List Nat) (g2:Nat)=>mE (m * 2 ^ s) vs us2 (qs.set j g2) j ∧ g2 < 4294967296 ∧ us2.length = (dg m).length + 1) (fun (us2:List Nat) (g2:Nat)=>[(8,NT .i64 vs.length),(9,NT .i64 s),(10,xJ vs),(11,Is (.slice (some ⟨B55,0,none⟩) ((dg m).length + 1) ((dg m).length + 1))),(12,Is (.slice (some ⟨B65,0,none⟩) ((dg m).length + 1 - (dg n).length) ((dg m).length + 1 - (dg n).length))),(13,NT .i64 j),(15,NT .u64 g2)]) (fun (us2:List Nat) (g2:Nat)=>[box B55 24 (us2.map cE),box B65 24 (qs.map cE)]) ?_ (fun us2 g2 ⟨hD,hg2,hus2⟩=>?_))
     ·refine ts (rm rfl (rm rfl (rm rfl (rm rfl (Gy Tryz.call252 (a08 hus hS.dig hv hg.lt zo zo) (i := 0) rfl ⟨(Ht rfl), (Ht rfl), (Ht rfl), (Ht rfl), trivial⟩ rfl (fun ⟨out, b⟩ hT => ?_))))))
      dsimp only at hT
      refine eX (dQ (Ht rfl) (fun hbb=>?_) (fun hbb=>?_))
      ·have hbb : b = true := hbb
       subst hbb
       have hg0:=hS.gpos hv rfl zo hT
       have hol:=hT.len
       refine ts (rm rfl (ro rfl (dW (Ht rfl) (cJ 1) zo z7) (ra rfl (eX (ts (ro rfl (cQ (cJ 0)) (eX (cK (ts (rm rfl (ro rfl (dG U_28 (Ht rfl) aA) (ro rfl (cX (cJ 0)) (eX (eG ?_))))))))))))))
       refine lA (fun (i : Nat) (out2 : List Nat) (c : Nat) => rL out vs j out2 i c) (fun (i : Nat) (out2 : List Nat) (c : Nat) => vs.length - i) (fun (i : Nat) (out2 : List Nat) (c : Nat) => [(8, NT .i64 vs.length), (9, NT .i64 s), (10, xJ vs), (11, Is (.slice (some ⟨B55, 0, none⟩) ((dg m).length + 1) ((dg m).length + 1))), (12, Is (.slice (some ⟨B65, 0, none⟩) ((dg m).length + 1 - (dg n).length) ((dg m).length + 1 - (dg n).length))), (13, NT .i64 j), (15, NT .u64 (g - 1 : Nat)), (17, NT .u64 c), (149, xJ vs), (150, NT .i64 vs.length), (151, NT .i64 i)]) (fun (i : Nat) (out2 : List Nat) (c : Nat) => [box B55 24 (out2.map cE), box B65 24 (qs.map cE)]) 0 out 0 (rL.start hT.dig vs j)
        (zS rfl) (dO.refl _) (fun i out2 c hB=>?_)
       refine ts (ro rfl (gJ (Ht rfl) (Ht rfl)) (eX (cK (dQ (Ht rfl) (fun hi=>?_) (fun hi=>?_)))))
       ·simp at hi
        have hlen:=hB.len; have hcl:=hB.cle; have hvi:=bB hv i; have hok:=bB hB.dig (i + j)
        simp only [BB] at hvi hok
        refine cU (cK (eG (ts (rm rfl (ro rfl (dZ U_28 Z_24 (Ht rfl) (Ht rfl) rfl (dY (bD zo))) (ro rfl (dJ A_24 Z_24 (Ht rfl)) (ra rfl (ra rfl (eX (ts (rm rfl (rm rfl (rm rfl (rm rfl (ro rfl (dV (Ht rfl) (Ht rfl) z6) (ro rfl (gX U_28 Z_24 (Ht rfl) (Ht rfl) rfl zo (by rw [Nat.mul_one,Nat.zero_add])) ?_))))))))))))))))
        refine ro rfl (eY A_24 Z_24 (Ht rfl) (i:=0) rfl (dY (bD zo))) (ro rfl (gV U_24 U_274 (Ht rfl) z7) (rm rfl (ro rfl (gV U_24 U_274 (Ht rfl) z7) (ro rfl (dV (Ht rfl) (Ht rfl) z7) (ro rfl (dV (Ht rfl) (Ht rfl) z7) ?_)))))
        refine ra rfl (eX (ts (rm rfl (rm rfl (rm rfl (ro rfl (dV (Ht rfl) (Ht rfl) z6) (rm rfl (ro rfl (iS rfl U_274 U_24 (Ht rfl)) (ro rfl (gX U_28 Z_24 (Ht rfl) (Ht rfl) rfl zo (by rw [Nat.mul_one,Nat.zero_add])) ?_)))))))))
        refine nA Z_24 (Ht rfl) (Ht rfl) (i:=0) rfl (by first | omega | (simp; omega)) rfl (eX (cY (rm rfl (ro rfl (fB (Ht rfl) (cJ 32) (by decide)) (ra rfl (eX (cD (cY (ro rfl (dV (Ht rfl) (cJ 1) z6) (rm rfl (eX (gQ (i + 1,_,_) (hB.next hv hi zo rfl) (by dsimp only; omega) (zS rfl) (aU (aH (iN _ _ _)) (aU (fun _ _ _ h=>h) aY))))))))))))))
       ·simp at hi
        have hil:i = vs.length:=Nat.le_antisymm hB.ile hi
        subst hil
        have hlen:=hB.len; have hcl:=hB.cle; have hok:=bB hB.dig (j + vs.length)
        have hBk:=hB.fin zo rfl
        obtain ⟨_,hDn⟩:=hS.wrong hv hV0 (Nat.succ_pos j) rfl hg hT hBk
        simp only [BB] at hok
        refine gG rfl (cY (rm rfl (rm rfl (rm rfl (ro rfl (dV (Ht rfl) (Ht rfl) z6) (ro rfl (gX U_28 Z_24 (Ht rfl) (Ht rfl) rfl zo (by rw [Nat.mul_one,Nat.zero_add])) ?_))))))
        refine ro rfl (eY A_24 Z_24 (Ht rfl) (i:=0) rfl (dY (bD zo))) (rm rfl (ro rfl (gV U_274 U_24 (Ht rfl) (by show _ < 4294967296; first | omega | (simp only [kR]; omega))) (ro rfl (Wa rfl (Ht rfl) (Ht rfl)) (ro rfl (gX U_28 Z_24 (Ht rfl) (Ht rfl) rfl zo (by rw [Nat.mul_one,Nat.zero_add])) ?_))))
        refine nA Z_24 (Ht rfl) (Ht rfl) (i:=0) rfl (by first | omega | (simp; omega)) rfl (eX (aS (_,g - 1) ⟨hDn,by dsimp only; omega,by simp; omega⟩ (zS rfl) (aU (aH (iN _ _ _)) (aU (fun _ _ _ h=>h) aY))))
      ·have hbb : b = false := hbb
       subst hbb
       have hol:=hT.len
       refine cU (aS (out,g) ⟨hS.right hv hV0 (Nat.succ_pos j) rfl hg hT,hglt,by dsimp only; omega⟩ (zS rfl) (dO.refl _))
     ·refine cY (rm rfl (rm rfl (rm rfl (ro rfl (gV U_274 U_24 (Ht rfl) (by show _ < 4294967296; first | omega | (simp only [kR]; omega))) (ro rfl (gX U_28 Z_24 (Ht rfl) (Ht rfl) rfl zo (by rw [Nat.mul_one, Nat.zero_add])) ?_)))))
      refine nA Z_24 (Ht rfl) (Ht rfl) (i:=1) rfl (by first | omega | (simp; omega)) rfl (eX (cD (cY (rm rfl (ro rfl (iB (Ht rfl) cV (sV zo)) (ra rfl (eX (gQ (j,us2,_) ⟨hD,hus2⟩ (by dsimp only; omega) (zS rfl) (aU (fun _ _ _ h=>h) (aU (aH (iN _ _ _)) aY))))))))))
   ·simp at hk
    have hk0:k = 0:=by omega
    subst hk0
    have hfin:=hS.fin hV0
    have hlq:=hS.lenq
    rw [hvv] at hfin
    have hdiv:val qs = m / n:=by rw [hfin.1]; exact Nat.mul_div_mul_right _ _ hp2
    have hsm:val us < BB ^ vs.length:=by have h1:=hS.small; rw [List.drop_zero] at h1; exact Nat.lt_trans h1 (gC hv)
    have hmod : val (us.take vs.length) / 2 ^ s = m % n := by
     rw [sU hsm zo,hfin.2,Nat.mul_mod_mul_right,Nat.mul_div_cancel _ hp2]
    have hru : (dg (val (us.take vs.length))).length ≤ 17592186044416 := by
     refine Nat.le_trans (fI (k:=vs.length) ?_) zo
     rw [sU hsm zo]; exact hsm
    refine gG rfl (gW (i:=1) (tt:=12) rfl rfl (oY rfl zo (Nat.le_refl _)) (gW (i:=0) (tt:=11) rfl rfl (oY rfl zo (Nat.le_refl _)) (cK (fJ (m:=7) (dp 12 rfl (cX (Ht rfl)) (dq 193 0 rfl (cZ K_203 (nU _ hS.digq zo) ⟨(Ht rfl),trivial⟩) (dp 11 rfl (cX (Ht rfl)) (dp 8 rfl (cX (Ht rfl)) (eA 195 2 196 3 rfl (aB.imp (zA U_28 Z_24 (Ht rfl) (Ht rfl) (fun m e=>by cases e) zo (by simp; omega) rfl) (Un _ _)) ?_)))))))))
    refine dq 197 4 rfl (cZ K_203 (nU _ (hS.dig.take' vs.length) (by simp; omega)) ⟨(Ht rfl),trivial⟩) ?_
    refine dp 9 rfl (cX (Ht rfl)) (fW bC rfl (by kernel_rfl) (zF (aJ (aJ (aJ (aV (ro rfl (cZ Tryz.call253 (a1y hru zo) ⟨(Ht rfl),(Ht rfl),trivial⟩) (ra rfl (ra rfl (eX (bE rfl (fZ (eU rfl) ?_) (fZ (eU rfl) ?_))))))))))))
    ·exact (eM hdiv)
    ·exact (eM hmod)
end
section
open Go Go.RowKit
theorem a0s:Tryz.prog.info? 5 = some Tryz.t5:=by kernel_rfl
theorem Jt:Tryz.prog.underlying 341 = some (.slice 5):=by kernel_rfl
theorem a29:Tryz.prog.underlying 5 = some (.int .u8):=by kernel_rfl
theorem a2a:Tryz.prog.underlying 9 = some (.string):=by kernel_rfl
end
section
open Go Go.RowKit
theorem Yi {m n:Nat} (hm:(dg m).length ≤ 17592186044415) (hn:(dg n).length ≤ 17592186044415):bA Tryz.prog 200 [aI m,aI n] (aI (Nat.gcd m n)):=by
 refine bA.intro Tryz.func200 rfl Tryz.ntmps200 rfl (fun cx=>(ts (ro rfl (cQ cV) (eX (cK (eG ?_))))))
 refine iW (fun (x : Nat) (y : Nat) => Nat.gcd x y = Nat.gcd m n ∧ (dg x).length ≤ 17592186044415 ∧ (dg y).length ≤ 17592186044415) (fun (x : Nat) (y : Nat) => y) (fun (x : Nat) (y : Nat) => [(0, aI x), (1, aI y)]) (fun (x : Nat) (y : Nat) => []) m n ⟨rfl, hm, hn⟩
  (zS rfl) aY (fun x y ⟨hg,hx,hy⟩=>?_)
 refine cK (ts (rm rfl (ro rfl (dG U_28 (Ht rfl) aA) (ro rfl (gR (Ht rfl) (cJ 0)) (eX (dQ (Ht rfl) (fun hb=>?_) (fun hb=>?_)))))))
 ·simp at hb
  have hy0:y ≠ 0:=fun e=>by rw [e,dM] at hb; simp at hb
  have hlt:=Nat.mod_lt x (Nat.pos_of_ne_zero hy0)
  refine cU (eG (ts (rm rfl (rm rfl (ro rfl (cZ Tryz.call202 (Ca hx zo hy0) ⟨(Ht rfl),(Ht rfl),trivial⟩) (rm rfl (ro rfl (dK (Ht rfl) rfl) (ro rfl (dK (Ht rfl) rfl) (ra rfl (ra rfl (eX (cY (rm rfl (rm rfl (ra rfl (ra rfl (eX (cD (gQ (y,x % y) ⟨by rw [← hg,Nat.gcd_comm x y,Nat.gcd_rec y x,Nat.gcd_comm],hy,Nat.le_trans (iE (Nat.le_of_lt hlt)) hy⟩ hlt (zS rfl) aY)))))))))))))))))))
 ·simp at hb
  have hy0:y = 0:=aN.1 (by simpa using hb)
  subst hy0
  rw [Nat.gcd_zero_right] at hg
  refine gG rfl (ts (rm rfl (ra rfl (eX (fG rfl (fZ (eU rfl) ?_))))))
  exact (eM hg)
theorem a1x {l:List Nat} {v:Value} (hl:l.length ≤ 1152921504606846976):gO Tryz.prog 283 [Is v] [bH 5 1 v (l.map xM)] Unit (fun _=>mD) (fun _=>[bH 5 1 v (l.reverse.map xM)]) (fun _=>True):=by
 refine gO.intro Tryz.func283 rfl Tryz.ntmps283 rfl (fun cx Z=>(ts (rm rfl (ro rfl (mP U_341 (Ht rfl) (i:=1) rfl aA) (ro rfl (iB (Ht rfl) cV (sV zo)) (ro rfl (cQ (cJ 0)) (ra rfl (eX (eG ?_)))))))))
 refine iW (fun (k : Nat) (o : List Nat) => zL l o k) (fun (k : Nat) (o : List Nat) => l.length - k) (fun (k : Nat) (o : List Nat) => [(0, Is v), (2, NT .i64 k), (3, aD .i64 ((l.length : Int) - 1 - (k : Int)))]) (fun (k : Nat) (o : List Nat) => [Z, bH 5 1 v (o.map xM)]) 0 l (zL.start l)
  (aQ rfl (aQ rfl (aZ rfl (aP zo) aX))) (dO.refl _) (fun k o hS=>?_)
 refine cK (ts (rm rfl (rm rfl (ro rfl (kG (Ht rfl) (Ht rfl)) (eX (dQ (Ht rfl) (fun hb=>?_) (fun hb=>?_)))))))
 ·simp only [decide_eq_true_eq] at hb
  have hk:2 * k + 1 < l.length:=by omega
  obtain ⟨j,hj⟩:∃ j,j = l.length - 1 - k:=⟨_,rfl⟩
  have hlen:=hS.len
  refine rP (E':=[(0,_),(2,_),(3,_),(7,_),(8,_),(9,_)]) (aQ rfl (aQ rfl (aZ rfl (aP (show (l.length:Int) - 1 - (k:Int) = (j:Int) by omega)) (zS rfl)))) (cU (cK (eG (W.D_start (m:=14) (fun b=>cond b ([Z,bH 5 1 v ((o.map xM).set k (xM (o.getD j 0)))]) _) 13 (W.D_step (Ei:=[(0,_)]) rfl rfl (W.Srcs.cons (W.Src.pre rfl rfl) W.Srcs.nil) rfl (by kernel_rfl) (dX rfl (cX (Ht rfl))) (W.D_step (Ei:=[(2,_)]) rfl rfl (W.Srcs.cons (W.Src.pre rfl rfl) W.Srcs.nil) rfl (by kernel_rfl) (dX rfl (cX (Ht rfl))) ?_))))))
  refine W.D_pure (Ei:=[(0,_)]) rfl rfl (W.Srcs.cons (W.Src.pre rfl rfl) W.Srcs.nil) rfl (fun _=>dX rfl (cX (Ht rfl))) (W.D_pure (Ei:=[(3,_)]) rfl rfl (W.Srcs.cons (W.Src.pre rfl rfl) W.Srcs.nil) rfl (fun _=>dX rfl (cX (Ht rfl))) (W.D_step (Ei:=[(0,_)]) rfl rfl (W.Srcs.cons (W.Src.pre rfl rfl) W.Srcs.nil) rfl (by kernel_rfl) (dX rfl (cX (Ht rfl))) (W.D_step (Ei:=[(3,_)]) rfl rfl (W.Srcs.cons (W.Src.pre rfl rfl) W.Srcs.nil) rfl (by kernel_rfl) (dX rfl (cX (Ht rfl))) (W.D_step (Ei:=[(18,_),(19,_)]) rfl rfl (W.Srcs.cons (W.Src.op 4 rfl rfl) (W.Srcs.cons (W.Src.op 5 rfl rfl) W.Srcs.nil)) rfl (by kernel_rfl) (dX rfl (fA U_341 Z_5 (Ht rfl) (Ht rfl) rfl (i:=1) rfl (by first | omega | (simp; omega)) rfl)) ?_))))
  refine W.D_step (Ei:=[(20,_)]) rfl rfl (W.Srcs.cons (W.Src.op 6 rfl rfl) W.Srcs.nil) rfl (by kernel_rfl) (dX rfl (tM Tryz.isAgg5 Z_5 (Ht rfl) (i:=1) rfl rfl (dY (bD zo)))) (W.D_step (Ei:=[(0,_)]) rfl rfl (W.Srcs.cons (W.Src.pre rfl rfl) W.Srcs.nil) rfl (by kernel_rfl) (dX rfl (cX (Ht rfl))) (W.D_step (Ei:=[(2,_)]) rfl rfl (W.Srcs.cons (W.Src.pre rfl rfl) W.Srcs.nil) rfl (by kernel_rfl) (dX rfl (cX (Ht rfl))) (W.D_step (Ei:=[(22,_),(23,_)]) rfl rfl (W.Srcs.cons (W.Src.op 8 rfl rfl) (W.Srcs.cons (W.Src.op 9 rfl rfl) W.Srcs.nil)) rfl (by kernel_rfl) (dX rfl (fA U_341 Z_5 (Ht rfl) (Ht rfl) rfl (i:=1) rfl (by first | omega | (simp; omega)) rfl)) ?_)))
  refine W.D_step (Ei:=[(24,_)]) rfl rfl (W.Srcs.cons (W.Src.op 10 rfl rfl) W.Srcs.nil) rfl (by kernel_rfl) (dX rfl (tM Tryz.isAgg5 Z_5 (Ht rfl) (i:=1) rfl rfl (dY (bD zo)))) (W.D_step (Ei:=[(14,_),(15,_)]) rfl rfl (W.Srcs.cons (W.Src.op 0 rfl rfl) (W.Srcs.cons (W.Src.op 1 rfl rfl) W.Srcs.nil)) rfl (by kernel_rfl) (dX rfl (fA U_341 Z_5 (Ht rfl) (Ht rfl) rfl (i:=1) rfl (by first | omega | (simp; omega)) rfl)) (W.D_put (Ei:=[(26,_),(21,_)]) rfl rfl (W.Srcs.cons (W.Src.op 12 rfl rfl) (W.Srcs.cons (W.Src.op 7 rfl rfl) W.Srcs.nil)) rfl (Xx Z_5 (Ht rfl) (Ht rfl) El.one (i:=1) rfl rfl (by first | omega | (simp; omega))) ?_))
  refine W.D_done bC rfl (by kernel_rfl) rfl (W.F_val (W.F_val (W.F_val (W.F_val (W.F_val (W.F_val (W.F_val (W.F_val (W.F_val (W.F_val (W.F_val (W.F_val (W.F_val (W.F_put (W.F_nil (ro rfl (fA U_341 Z_5 (Ht rfl) (Ht rfl) rfl (i:=1) rfl (by first | omega | (simp; omega)) rfl) (oH Z_5 (Ht rfl) (Ht rfl) El.one (i:=1) rfl rfl (by first | omega | (simp; omega)) rfl (eX (cD (cY (rm rfl (ro rfl (dV (Ht rfl) (cJ 1) z6) (rm rfl (ro rfl (iB (Ht rfl) cV (sV zo)) ?_))))))))))))))))))))))))
  refine ra rfl (ra rfl (eX (gQ (k + 1,_) (hS.next hk hj) (by dsimp only; omega) (aQ rfl (aQ rfl (aZ rfl (aP zo) aX))) (aU (fun _ _ _ h=>h) (aU (bN (Xs _ _ _ _ _)) aY)))))
 ·simp only [decide_eq_false_iff_not] at hb
  have hfin:=hS.fin (by have:=hS.kle; omega)
  refine gG rfl ?_
  exact Zn () trivial [0,1] ⟨⟨_,rfl,fun _ _ _ h=>h⟩,⟨_,rfl,(bN (by rw [hfin]))⟩,trivial⟩ (by decide) (a2o rfl (fun _=>trivial))
theorem Bz {m:Nat} (hm:(dg m).length ≤ 8796093022208):bA Tryz.prog 243 [aI m] (qG (vR m)):=by
 refine bA.intro Tryz.func243 rfl Tryz.ntmps243 rfl (fun cx=>(ts (ro rfl (cQ (aM.cS (l:=[]) rfl)) (eX (cK (ts (rm rfl (ro rfl (dG U_28 (Ht rfl) aA) (ro rfl (dI (Ht rfl) (cJ 0)) (eX (dQ (Ht rfl) (fun hb=>?_) (fun hb=>?_))))))))))))
 ·simp at hb
  have h0:m = 0:=aN.1 (by simpa using hb)
  subst h0
  refine ts (ro rfl (cQ (aM.cS (l:=[48]) rfl)) (eX (fG rfl (fZ (eU rfl) ?_))))
  exact (mB rfl)
 ·simp at hb
  have h0:m ≠ 0:=fun e=>hb (by rw [e,dM])
  refine cU (ts (ro rfl (cQ cV) (eX (cK (eG (yK 5 1 ?_))))))
  refine lA (fun (x : Nat) (out : List Nat) (v : Value) => zH m out x ∧ x ≤ m) (fun (x : Nat) (out : List Nat) (v : Value) => x) (fun (x : Nat) (out : List Nat) (v : Value) => [(0, aI x), (3, Is v)]) (fun (x : Nat) (out : List Nat) (v : Value) => [bH 5 1 v (out.map xM)]) m [] (.slice none 0 0) ⟨zH.start m, Nat.le_refl m⟩
   (zS rfl) (dO.refl _) (fun x out v ⟨hO,hle⟩=>?_)
  refine cK (ts (rm rfl (ro rfl (dG U_28 (Ht rfl) aA) (ro rfl (gR (Ht rfl) (cJ 0)) (eX (dQ (Ht rfl) (fun hc=>?_) (fun hc=>?_)))))))
  ·simp at hc
   have hx0:x ≠ 0:=fun e=>by rw [e,dM] at hc; simp at hc
   have hxm:=iE hle
   refine cU (eG (ts (ro rfl (cQ (cJ 0)) (eX (ts (rm rfl (ro rfl (cZ Tryz.call250 (Hv zo (by decide) (by decide)) ⟨(Ht rfl),(cJ 1000000000),trivial⟩) (rm rfl (ro rfl (dK (Ht rfl) rfl) (ro rfl (dK (Ht rfl) rfl) (ra rfl (ra rfl (eX (ts (ro rfl (cQ (cJ 0)) (eX (eG ?_)))))))))))))))))
   refine Hb (fun (r : Nat) (k : Nat) (out : List Nat) (v : Value) => vG m out (x / 1000000000) r k) (fun (r : Nat) (k : Nat) (out : List Nat) (v : Value) => 9 - k) (fun (r : Nat) (k : Nat) (out : List Nat) (v : Value) => [(0, aI (x / 1000000000)), (3, Is v), (4, cE r), (5, NT .i64 k)]) (fun (r : Nat) (k : Nat) (out : List Nat) (v : Value) => [bH 5 1 v (out.map xM)]) (x % 1000000000) 0 out v (hO.inner)
    (zS rfl) (dO.refl _) (fun r k out v hI=>?_)
   refine cK (ts (rm rfl (ro rfl (gJ (Ht rfl) (cJ 9)) (rm rfl (fQ rfl rfl (jG rfl rfl (Ht rfl) (fun h=>cX (Ht rfl))) (fQ rfl rfl (jG rfl rfl (Ht rfl) (fun h=>dG U_28 (aM.wu rfl h) aA)) (fQ rfl rfl (jG rfl rfl (Ht rfl) (fun h=>gR (aM.wu rfl h) (cJ 0))) (fQ rfl rfl (jG rfl rfl (Ht rfl) (fun h=>cX (aM.wu rfl h))) (fQ rfl rfl (Ha rfl rfl rfl (fun h h2=>cX (Ht rfl))) (fQ rfl rfl (Ha rfl rfl rfl (fun h h2=>gR (aM.wu rfl ⟨h,h2⟩) (cJ 0))) (fQ rfl rfl (jG rfl rfl (Ht rfl) (fun h=>gK (aM.wu rfl h) (fun h2=>(aM.wu rfl ⟨h,h2⟩)))) ?_)))))))))))
   refine ro rfl (fT (Ht rfl) (fun h=>(aM.wu rfl h))) (eX (dQ (Ht rfl) (fun hd=>?_) (fun hd=>?_)))
   ·simp at hd
    have hxr:0 < x / 1000000000 ∨ 0 < r:=hd.2.imp (fun h=>Nat.pos_of_ne_zero (fun e=>by rw [e,dM] at h; simp at h)) id
    have hln:=hI.len hxr
    have hr32:=hI.r32
    refine cU (cK (eG (ts (rm rfl (rm rfl (ro rfl (lG (Ht rfl) (cJ 10) zo) (ro rfl (dV (cJ 48) (Ht rfl) (by show _ < 4294967296; first | omega | (simp only [kR]; omega))) (ro rfl (gV U_24 U_5 (Ht rfl) (by show _ < 256; first | omega | (simp only [kR]; omega))) (ro rfl (cL (xs:=[.tmp 34]) U_341 Z_5 Tryz.zeroValue5 (cW (Ht rfl) cG) rfl rfl rfl) (rN (inf:=Tryz.t5) Jt a0s rfl rfl rfl (Ht rfl) (Ht rfl) (i:=0) rfl (by simp) (fun T hT=>by simp at hT; subst hT; exact El.one) (by show _ * 1 ≤ _; simp only [List.length_map,List.length_cons,List.length_nil]; omega) (by simp only [List.length_map,List.length_cons,List.length_nil]; omega) rfl (fun v2=>?_)))))))))))
    refine ra rfl (eX (cY (rm rfl (ro rfl (sM (Ht rfl) (cJ 10) zo (by show _ < 4294967296; first | omega | (simp only [kR]; omega))) (ra rfl (eX (cD (cY (rm rfl (ro rfl (dV (Ht rfl) (cJ 1) z6) (ra rfl (eX (gQ (r / 10,k + 1,_,v2) (hI.next hd.1 hxr) (by dsimp only; omega) (zS rfl) (aU (bN (a1e _ _)) aY))))))))))))))
   ·simp at hd
    have hO2 := hI.fin (fun ⟨h1, h2⟩ => by
     have h3:=hd h1
     rcases h2 with h2 | h2
     ·have:=tE.1 h3.1; omega
     ·omega)
    refine gG rfl (cD (gQ (x / 1000000000,_,_) ⟨hO2,Nat.le_trans (Nat.div_le_self _ _) hle⟩ (Nat.div_lt_self (Nat.pos_of_ne_zero hx0) (by decide)) (zS rfl) (dO.refl _)))
  ·simp at hc
   have hx0:x = 0:=aN.1 (by simpa using hc)
   subst hx0
   have hfin:=hO.fin
   have hdl:=oU m
   rw [hfin] at hdl
   refine gG rfl (ts (rm rfl (Gy Tryz.call283 (a1x zo) (i:=0) rfl ⟨(Ht rfl),trivial⟩ rfl (fun _ _=>(eX (cK (gW (i:=0) (tt:=3) rfl rfl jT (cY (rm rfl (ro rfl (Qj Jt a29 a2a (Ht rfl) (by rw [← hfin]; simpa using Um h0) (fun b hb=>a0b (n:=m) b (by rw [uP h0,hfin]; exact hb))) ?_))))))))))
   refine ra rfl (eX (fG rfl (fZ (eU rfl) ?_)))
   exact (mB (by rw [uP h0,hfin]))
end
section
open Go Go.RowKit
theorem qR {n : Nat} {E : bR} {H : Hp} {d : Option Tmp} {t : TypeId} {pos : String} {af : Array Edge} {g : Option (Nat × Bool)} {x0 x1 : Operand} {T0 T1 : Ty} [s0 : cM T0 1 false] (h0 : aM E x0 T0) [s1 : cM T1 1 false] (h1 : aM E x1 T1) :
  aB Tryz.prog n E H ⟨d,.build 30 #[(0,x0),(1,x1)],t,pos,af,g⟩ (dL [T0,T1]) :=
 gA (parts := [(0, x0), (1, x1)]) fun a V w hs => by
  have p0:=h0 n V a hs
  generalize e0:a.eval x0 = v0 at p0
  have q0:=(s0.ok v0 V p0).2.2 rfl
  have p1:=h1 n V a hs
  generalize e1:a.eval x1 = v1 at p1
  have q1:=(s1.ok v1 V p1).2.2 rfl
  refine ⟨.agg #[v0,v1],?_,[v0,v1],rfl,aW (⟨p0,q0⟩) (aW (⟨p1,q1⟩) (aG))⟩
  simp [e0,e1,Instr.build,Instr.fill,Sem.run_bind,Result.andThen,eI,q0.cells,q1.cells,O_30,U_30,Z_4,Z_28]
theorem gP (a:Addr) (w:World):(Instr.fieldAt 30 (.pointer (some a)) 0).run Tryz.prog w = .ok (.pointer (some (a.add 0))) w:=by
 simp [Instr.fieldAt,Instr.sureAddr,fieldPlace,Sem.run_bind,Result.andThen,U_30,Z_4]
theorem cO (a:Addr) (w:World):(Instr.fieldAt 30 (.pointer (some a)) 1).run Tryz.prog w = .ok (.pointer (some (a.add 1))) w:=by
 simp [Instr.fieldAt,Instr.sureAddr,fieldPlace,Sem.run_bind,Result.andThen,U_30,Z_28]
end
section
open Go Go.RowKit
theorem zW {n:Int} (h1:-9223372036854775808 ≤ n) (h2:n ≤ 9223372036854775807):bA Tryz.prog 115 [aD .i64 n] (fP n):=by
 refine bA.intro Tryz.func115 rfl Tryz.ntmps115 rfl (fun cx=>(ts (rn rfl (eW (Ts:=[Is (.bool false),Is (.slice none 0 0)]) O_30 rfl (fun V=>aW zd (aW zd (aG)))) fun B2=>(eX (cK (ts (rm rfl (ro rfl (kG (Ht rfl) cV) (eX (dQ (Ht rfl) (fun hb=>?_) (fun hb=>?_)))))))))))
 ·have hn : n < 0 := by simpa using hb
  refine ts (rm rfl (ro rfl (uW U_2 U_274 (Ht rfl) (r:=((18446744073709551616 - n.natAbs:Nat):Int)) (by rw [IntKind.wrap_u64]; omega)) ?_))
  refine ro rfl (wW (Ht rfl) (r:=((n.natAbs:Nat):Int)) (by rw [IntKind.wrap_u64]; omega)) ?_
  refine ro rfl (cZ Tryz.call207 (uN zo) ⟨(Ht rfl),trivial⟩) (ro rfl (qR cV (Ht rfl)) (gZ Z_30 (Ht rfl) (Ht rfl) rfl (i:=0) rfl (aK rfl) rfl rfl (eX (fG rfl (fZ (fU A_30 Z_30 rfl (i:=0) rfl rfl) ?_)))))
  exact (oO (by rw [hb]; rfl))
 ·have hn : ¬ n < 0 := by simpa using hb
  refine cU (ts (rm rfl (ro rfl (uW U_2 U_274 (Ht rfl) (r:=((n.natAbs:Nat):Int)) (by rw [IntKind.wrap_u64]; omega)) ?_)))
  refine ro rfl (cZ Tryz.call207 (uN zo) ⟨(Ht rfl),trivial⟩) (ro rfl (qR cV (Ht rfl)) (gZ Z_30 (Ht rfl) (Ht rfl) rfl (i:=0) rfl (aK rfl) rfl rfl (eX (fG rfl (fZ (fU A_30 Z_30 rfl (i:=0) rfl rfl) ?_)))))
  exact (oO (by rw [hb]; rfl))
theorem iX {b:Bool} {m:Nat}:bA Tryz.prog 197 [aC b,aI m] (fP (rG b m)):=by
 refine bA.intro Tryz.func197 rfl Tryz.ntmps197 rfl (fun cx=>(ts (rn rfl (eW (Ts:=[Is (.bool false),Is (.slice none 0 0)]) O_30 rfl (fun V=>aW zd (aW zd (aG)))) fun B4=>(eX (ts (rm rfl (rm rfl (fQ rfl rfl (eK rfl rfl (Ht rfl) (fun h=>cX (Ht rfl))) (fQ rfl rfl (eK rfl rfl (Ht rfl) (fun h=>dG U_28 (fV rfl h) aA)) (fQ rfl rfl (eK rfl rfl (Ht rfl) (fun h=>gR (fV rfl h) (cJ 0))) (ro rfl (fT (Ht rfl) (fun h=>(fV rfl h))) (rm rfl ?_))))))))))))
 refine ro rfl (qR (Ht rfl) (Ht rfl)) (gZ Z_30 (Ht rfl) (Ht rfl) rfl (i:=0) rfl (aK rfl) rfl rfl (eX (fG rfl (fZ (fU A_30 Z_30 rfl (i:=0) rfl rfl) ?_))))
 exact a14
theorem mG {x:Int}:bA Tryz.prog 107 [fP x] (fP (-x)):=by
 refine bA.intro Tryz.func107 rfl Tryz.ntmps107 rfl (fun cx=>(ts (rn rfl (fK (Ht rfl)) fun B1=>(rn rfl (eW (Ts:=[Is (.bool false),Is (.slice none 0 0)]) O_30 rfl (fun V=>aW zd (aW zd (aG)))) fun B2=>(eX (ts (ro rfl (eZ gP (Ht rfl) rfl) (ro rfl (eY A_4 Z_4 (Ht rfl) (i:=0) rfl rfl) (ro rfl (dR (Ht rfl)) (ro rfl (eZ cO (Ht rfl) rfl) (ro rfl (eY A_28 Z_28 (Ht rfl) (i:=0) rfl rfl) (ro rfl (cZ K_197 iX ⟨(Ht rfl),(Ht rfl),trivial⟩) ?_))))))))))))
 refine gZ Z_30 (Ht rfl) (Ht rfl) rfl (i:=1) rfl (aK rfl) rfl rfl (eX (fG rfl (fZ (fU A_30 Z_30 rfl (i:=1) rfl rfl) ?_)))
 exact (nK (Lr x))
theorem tA {x y:Int} (hx:(dg x.natAbs).length ≤ 17592186044416) (hy:(dg y.natAbs).length ≤ 17592186044416):bA Tryz.prog 106 [fP x,fP y] (fP (x + y)):=by
 refine bA.intro Tryz.func106 rfl Tryz.ntmps106 rfl (fun cx=>(ts (rn rfl (fK (Ht rfl)) fun B2=>(rn rfl (fK (Ht rfl)) fun B3=>(rn rfl (eW (Ts:=[Is (.bool false),Is (.slice none 0 0)]) O_30 rfl (fun V=>aW zd (aW zd (aG)))) fun B4=>(eX (cK (ts (ro rfl (eZ gP (Ht rfl) rfl) (ro rfl (eY A_4 Z_4 (Ht rfl) (i:=0) rfl rfl) (ro rfl (eZ gP (Ht rfl) rfl) (ro rfl (eY A_4 Z_4 (Ht rfl) (i:=1) rfl rfl) (ro rfl (a0J Tryz.runUnderlying4 (Ht rfl) (Ht rfl)) ?_)))))))))))))
 refine eX (dQ (Ht rfl) (fun hb=>?_) (fun hb=>?_))
 ·have he : decide (x < 0) = decide (y < 0) := by simpa using hb
  refine cK (fJ (m:=7) (dp 2 rfl (eZ gP (Ht rfl) rfl) (dq 10 0 rfl (eY A_4 Z_4 (Ht rfl) (i:=0) rfl rfl) (dp 2 rfl (eZ cO (Ht rfl) rfl) (dq 12 2 rfl (eY A_28 Z_28 (Ht rfl) (i:=0) rfl rfl) (dp 3 rfl (eZ cO (Ht rfl) rfl) (dq 14 4 rfl (eY A_28 Z_28 (Ht rfl) (i:=1) rfl rfl) (eA 13 3 15 5 rfl (cZ Tryz.call198 (a1v zo zo) ⟨(Ht rfl),(Ht rfl),trivial⟩) (fW bC rfl (by kernel_rfl) (zF (aJ (aJ (aJ (aV ?_))))))))))))))
  refine ro rfl (cZ K_197 iX ⟨(Ht rfl),(Ht rfl),trivial⟩) (gZ Z_30 (Ht rfl) (Ht rfl) rfl (i:=2) rfl (aK rfl) rfl rfl (eX (fG rfl (fZ (fU A_30 Z_30 rfl (i:=2) rfl rfl) ?_))))
  exact (nK (Rl he))
 ·have he : decide (x < 0) ≠ decide (y < 0) := by simpa using hb
  refine cU (cK (ts (ro rfl (eZ cO (Ht rfl) rfl) (ro rfl (eY A_28 Z_28 (Ht rfl) (i:=0) rfl rfl) (ro rfl (eZ cO (Ht rfl) rfl) (ro rfl (eY A_28 Z_28 (Ht rfl) (i:=1) rfl rfl) (ro rfl (cZ Tryz.call129 (By zo zo) ⟨(Ht rfl),(Ht rfl),trivial⟩) (ro rfl (mU (Ht rfl) cV) (eX (dQ (Ht rfl) (fun hc=>?_) (fun hc=>?_)))))))))))
  ·have hle : y.natAbs ≤ x.natAbs := Ug (by simpa using hc)
   refine cK (fJ (m:=7) (dp 2 rfl (eZ gP (Ht rfl) rfl) (dq 24 0 rfl (eY A_4 Z_4 (Ht rfl) (i:=0) rfl rfl) (dp 2 rfl (eZ cO (Ht rfl) rfl) (dq 26 2 rfl (eY A_28 Z_28 (Ht rfl) (i:=0) rfl rfl) (dp 3 rfl (eZ cO (Ht rfl) rfl) (dq 28 4 rfl (eY A_28 Z_28 (Ht rfl) (i:=1) rfl rfl) (eA 27 3 29 5 rfl (cZ Tryz.call199 (Yk zo zo) ⟨(Ht rfl),(Ht rfl),trivial⟩) (fW bC rfl (by kernel_rfl) (zF (aJ (aJ (aJ (aV ?_))))))))))))))
   refine ro rfl (cZ K_197 iX ⟨(Ht rfl),(Ht rfl),trivial⟩) (gZ Z_30 (Ht rfl) (Ht rfl) rfl (i:=2) rfl (aK rfl) rfl rfl (eX (fG rfl (fZ (fU A_30 Z_30 rfl (i:=2) rfl rfl) ?_))))
   exact (nK (Dv he hle))
  ·have hle : x.natAbs ≤ y.natAbs := Nat.le_of_lt (Uh (by simpa using hc))
   refine cU (cK (fJ (m:=7) (dp 3 rfl (eZ gP (Ht rfl) rfl) (dq 32 0 rfl (eY A_4 Z_4 (Ht rfl) (i:=1) rfl rfl) (dp 3 rfl (eZ cO (Ht rfl) rfl) (dq 34 2 rfl (eY A_28 Z_28 (Ht rfl) (i:=1) rfl rfl) (dp 2 rfl (eZ cO (Ht rfl) rfl) (dq 36 4 rfl (eY A_28 Z_28 (Ht rfl) (i:=0) rfl rfl) (eA 35 3 37 5 rfl (cZ Tryz.call199 (Yk zo zo) ⟨(Ht rfl),(Ht rfl),trivial⟩) (fW bC rfl (by kernel_rfl) (zF (aJ (aJ (aJ (aV ?_)))))))))))))))
   refine ro rfl (cZ K_197 iX ⟨(Ht rfl),(Ht rfl),trivial⟩) (gZ Z_30 (Ht rfl) (Ht rfl) rfl (i:=2) rfl (aK rfl) rfl rfl (eX (fG rfl (fZ (fU A_30 Z_30 rfl (i:=2) rfl rfl) ?_))))
   exact (nK (by rw [Dv (Ne.symm he) hle,Int.add_comm]))
theorem pP {x y:Int} (hx:(dg x.natAbs).length ≤ 17592186044416) (hy:(dg y.natAbs).length ≤ 17592186044416):bA Tryz.prog 105 [fP x,fP y] (fP (x * y)):=by
 refine bA.intro Tryz.func105 rfl Tryz.ntmps105 rfl (fun cx=>(ts (rn rfl (fK (Ht rfl)) fun B2=>(rn rfl (fK (Ht rfl)) fun B3=>(rn rfl (eW (Ts:=[Is (.bool false),Is (.slice none 0 0)]) O_30 rfl (fun V=>aW zd (aW zd (aG)))) fun B4=>(eX (cK (fJ (m:=10) (dp 2 rfl (eZ gP (Ht rfl) rfl) (dq 5 0 rfl (eY A_4 Z_4 (Ht rfl) (i:=0) rfl rfl) (dp 3 rfl (eZ gP (Ht rfl) rfl) (dq 7 2 rfl (eY A_4 Z_4 (Ht rfl) (i:=1) rfl rfl) (eA 6 1 8 3 rfl (a0K Tryz.runUnderlying4 (Ht rfl) (Ht rfl)) ?_)))))))))))))
 refine dp 2 rfl (eZ cO (Ht rfl) rfl) (dq 10 5 rfl (eY A_28 Z_28 (Ht rfl) (i:=0) rfl rfl) (dp 3 rfl (eZ cO (Ht rfl) rfl) (dq 12 7 rfl (eY A_28 Z_28 (Ht rfl) (i:=1) rfl rfl) (eA 11 6 13 8 rfl (cZ Tryz.call110 (Cb zo zo) ⟨(Ht rfl),(Ht rfl),trivial⟩) (fW bC rfl (by kernel_rfl) (zF (zF (aJ (aJ (aV (ro rfl (cZ K_197 iX ⟨(Ht rfl),(Ht rfl),trivial⟩) (gZ Z_30 (Ht rfl) (Ht rfl) rfl (i:=2) rfl (aK rfl) rfl rfl ?_))))))))))))
 refine eX (fG rfl (fZ (fU A_30 Z_30 rfl (i:=2) rfl rfl) ?_))
 exact (nK (Ls x y))
theorem jC {x:Int} {n:Nat} (hx:(dg x.natAbs).length ≤ 17592186044416) (hn:(dg n).length ≤ 17592186044416):bA Tryz.prog 111 [fP x,aI n] (fP (x * n)):=by
 refine bA.intro Tryz.func111 rfl Tryz.ntmps111 rfl (fun cx=>(ts (rn rfl (fK (Ht rfl)) fun B2=>(rn rfl (eW (Ts:=[Is (.bool false),Is (.slice none 0 0)]) O_30 rfl (fun V=>aW zd (aW zd (aG)))) fun B4=>(eX (cK (fJ (m:=6) (dp 2 rfl (eZ gP (Ht rfl) rfl) (dq 5 0 rfl (eY A_4 Z_4 (Ht rfl) (i:=0) rfl rfl) (dp 2 rfl (eZ cO (Ht rfl) rfl) (dq 7 2 rfl (eY A_28 Z_28 (Ht rfl) (i:=0) rfl rfl) (dp 1 rfl (cX (Ht rfl)) (eA 8 3 9 4 rfl (cZ Tryz.call110 (Cb zo zo) ⟨(Ht rfl),(Ht rfl),trivial⟩) ?_)))))))))))))
 refine fW bC rfl (by kernel_rfl) (zF (aJ (aJ (aV (ro rfl (cZ K_197 iX ⟨(Ht rfl),(Ht rfl),trivial⟩) (gZ Z_30 (Ht rfl) (Ht rfl) rfl (i:=1) rfl (aK rfl) rfl rfl (eX (fG rfl (fZ (fU A_30 Z_30 rfl (i:=1) rfl rfl) ?_)))))))))
 exact (nK (xB x n))
theorem Aa {x y:Int} (hx:(dg x.natAbs).length ≤ 17592186044415) (hy:(dg y.natAbs).length ≤ 17592186044415):bA Tryz.prog 112 [fP x,fP y] (aD .i64 (jS x y)):=by
 have hny:=vV y
 have hs:=lI (x:=x) (y:=-y) hx zo
 refine bA.intro Tryz.func112 rfl Tryz.ntmps112 rfl (fun cx=>(ts (rn rfl (fK (Ht rfl)) fun B2=>(rn rfl (fK (Ht rfl)) fun B3=>(ro rfl (cQ (cJ 0)) (eX (cK (fJ (m:=5) (dp 2 rfl (eJ A_30 Z_30 (Ht rfl) (i:=0) rfl rfl rfl) (dp 3 rfl (eJ A_30 Z_30 (Ht rfl) (i:=1) rfl rfl rfl) (dq 7 1 rfl (cZ K_107 mG ⟨(Ht rfl),trivial⟩) (eA 6 0 8 2 rfl (cZ K_106 (tA zo zo) ⟨(Ht rfl),(Ht rfl),trivial⟩) (C.D_new (Ei:=[]) rfl rfl rfl bW (eW (Ts:=[Is (.bool false),Is (.slice none 0 0)]) O_30 rfl (fun V=>aW zd (aW zd (aG)))) ?_)))))))))))))
 refine fW bC rfl (by kernel_rfl) (zF (C.F_new (fun B5=>aV (gZ Z_30 (Ht rfl) (Ht rfl) rfl (i:=2) rfl (aK rfl) rfl rfl (eX (cK (ts (ro rfl (eZ gP (Ht rfl) rfl) (ro rfl (eY A_4 Z_4 (Ht rfl) (i:=2) rfl rfl) (eX (dQ (Ht rfl) (fun hb=>?_) (fun hb=>?_))))))))))))
 ·have hn : x + -y < 0 := by simpa using hb
  refine ts (ro rfl (cQ cV) (eX (fG rfl (fZ (eU rfl) ?_))))
  exact (aP (Ud hn))
 ·have hn : ¬ x + -y < 0 := by simpa using hb
  refine cU (ts (ro rfl (eZ cO (Ht rfl) rfl) (ro rfl (eY A_28 Z_28 (Ht rfl) (i:=2) rfl rfl) (ro rfl (dG U_28 (Ht rfl) aA) (ro rfl (Wk (Ht rfl) (cJ 1)) (ra rfl (eX (fG rfl (fZ (eU rfl) ?_)))))))))
  exact (aP (Uc hn))
end
section
open Go Go.RowKit
theorem Na {n : Nat} {E : bR} {H : Hp} {d : Option Tmp} {t : TypeId} {pos : String} {af : Array Edge} {g : Option (Nat × Bool)} {x0 : Operand} {T0 T1 : Ty} (h0 : aM E x0 (dL [T0, T1])) :
  aB Tryz.prog n E H ⟨d,.build 32 #[(0,x0)],t,pos,af,g⟩ (dL [T0,T1,Is (.bool false),Is (.slice none 0 0),Is (.slice none 0 0)]) :=
 gA (parts := [(0, x0)]) fun a V w hs => by
  obtain ⟨v0,e0,c0⟩:=h0 n V a hs
  obtain ⟨c0_0,c0_1,rfl⟩:∃ c0_0 c0_1,v0 = [c0_0,c0_1]:=Da (by simpa using c0.length)
  refine ⟨.agg #[c0_0,c0_1,(.bool false),(.slice none 0 0),(.slice none 0 0)],?_,[c0_0,c0_1,(.bool false),(.slice none 0 0),(.slice none 0 0)],rfl,aW (c0.at (i:=0) rfl rfl) (aW (c0.at (i:=1) rfl rfl) (aW (⟨rfl,trivial⟩) (aW (⟨rfl,trivial⟩) (aW (⟨rfl,trivial⟩) (aG)))))⟩
  simp [e0,Instr.build,Instr.fill,Sem.run_bind,Result.andThen,eI,O_32,U_32,Z_28,Z_30]
theorem nS {n : Nat} {E : bR} {H : Hp} {d : Option Tmp} {t : TypeId} {pos : String} {af : Array Edge} {g : Option (Nat × Bool)} {x0 x1 x2 : Operand} {T0 T1 T2 T3 T4 : Ty} (h0 : aM E x0 (dL [T0, T1])) (h1 : aM E x1 (dL [T2, T3])) [s2 : cM T4 1 false] (h2 : aM E x2 T4) :
  aB Tryz.prog n E H ⟨d,.build 32 #[(0,x0),(1,x1),(2,x2)],t,pos,af,g⟩ (dL [T0,T1,T2,T3,T4]) :=
 gA (parts := [(0, x0), (1, x1), (2, x2)]) fun a V w hs => by
  obtain ⟨v0,e0,c0⟩:=h0 n V a hs
  obtain ⟨c0_0,c0_1,rfl⟩:∃ c0_0 c0_1,v0 = [c0_0,c0_1]:=Da (by simpa using c0.length)
  obtain ⟨v1,e1,c1⟩:=h1 n V a hs
  obtain ⟨c1_0,c1_1,rfl⟩:∃ c1_0 c1_1,v1 = [c1_0,c1_1]:=Da (by simpa using c1.length)
  have p2:=h2 n V a hs
  generalize e2:a.eval x2 = v2 at p2
  have q2:=(s2.ok v2 V p2).2.2 rfl
  refine ⟨.agg #[c0_0,c0_1,c1_0,c1_1,v2],?_,[c0_0,c0_1,c1_0,c1_1,v2],rfl,aW (c0.at (i:=0) rfl rfl) (aW (c0.at (i:=1) rfl rfl) (aW (c1.at (i:=0) rfl rfl) (aW (c1.at (i:=1) rfl rfl) (aW (⟨p2,q2⟩) (aG)))))⟩
  simp [e0,e1,e2,Instr.build,Instr.fill,Sem.run_bind,Result.andThen,eI,q2.cells,O_32,U_32,Z_28,Z_30]
theorem eB (a:Addr) (w:World):(Instr.fieldAt 32 (.pointer (some a)) 0).run Tryz.prog w = .ok (.pointer (some (a.add 0))) w:=by
 simp [Instr.fieldAt,Instr.sureAddr,fieldPlace,Sem.run_bind,Result.andThen,U_32,Z_30]
theorem eT (a:Addr) (w:World):(Instr.fieldAt 32 (.pointer (some a)) 1).run Tryz.prog w = .ok (.pointer (some (a.add 2))) w:=by
 simp [Instr.fieldAt,Instr.sureAddr,fieldPlace,Sem.run_bind,Result.andThen,U_32,Z_30]
theorem mH (a:Addr) (w:World):(Instr.fieldAt 32 (.pointer (some a)) 2).run Tryz.prog w = .ok (.pointer (some (a.add 4))) w:=by
 simp [Instr.fieldAt,Instr.sureAddr,fieldPlace,Sem.run_bind,Result.andThen,U_32,Z_28]
end
section
open Go Go.RowKit
theorem qT {A B:Int} {D:Nat} (hD:0 < D) (hA:(dg A.natAbs).length ≤ 17592186044415) (hB:(dg B.natAbs).length ≤ 17592186044415) (hD2:(dg D).length ≤ 17592186044415):bA Tryz.prog 108 [fP A,fP B,aI D] (aF (Qi.mk' A B D)):=by
 have hg1:=Ow hA hB
 have hg2:=Ow hg1 hD2
 have hgp:Nat.gcd (Nat.gcd A.natAbs B.natAbs) D ≠ 0:=fun e=>by have:=Nat.gcd_eq_zero_iff.1 e; omega
 refine bA.intro Tryz.func108 rfl Tryz.ntmps108 rfl (fun cx=>(ts (rn rfl (fK (Ht rfl)) fun B3=>(rn rfl (fK (Ht rfl)) fun B4=>(rn rfl (eW (Ts:=[Is (.bool false),Is (.slice none 0 0),Is (.bool false),Is (.slice none 0 0),Is (.slice none 0 0)]) O_32 rfl (fun V=>aW zd (aW zd (aW zd (aW zd (aW zd (aG))))))) fun B6=>(eX (ts (ro rfl (eZ cO (Ht rfl) rfl) (ro rfl (eY A_28 Z_28 (Ht rfl) (i:=0) rfl rfl) ?_)))))))))
 refine ro rfl (eZ cO (Ht rfl) rfl) (ro rfl (eY A_28 Z_28 (Ht rfl) (i:=1) rfl rfl) (ro rfl (cZ Tryz.call200 (Yi zo zo) ⟨(Ht rfl),(Ht rfl),trivial⟩) (rm rfl (ro rfl (cZ Tryz.call200 (Yi zo zo) ⟨(Ht rfl),(Ht rfl),trivial⟩) (ra rfl (eX (cK (jK (fun (uu:Unit)=>True) (fun (uu:Unit)=>[(2,aI (D / (Nat.gcd (Nat.gcd A.natAbs B.natAbs) D))),(3,cB B3 0),(4,cB B4 0),(6,cB B6 0)]) (fun (uu:Unit)=>[box B3 30 [aC (decide (A < 0)),aI (A.natAbs / (Nat.gcd (Nat.gcd A.natAbs B.natAbs) D))],box B4 30 [aC (decide (B < 0)),aI (B.natAbs / (Nat.gcd (Nat.gcd A.natAbs B.natAbs) D))],box B6 32 [Is (.bool false),Is (.slice none 0 0),Is (.bool false),Is (.slice none 0 0),Is (.slice none 0 0)]]) ?_ (fun uu _=>?_)))))))))
 ·refine ts (rm rfl (ro rfl (cZ Tryz.call201 Yj ⟨(Ht rfl), trivial⟩) (ro rfl (dR (Ht rfl)) (eX (dQ (Ht rfl) (fun hb => ?_) (fun hb => ?_))))))
  ·simp at hb
   refine ts (ro rfl (eZ cO (Ht rfl) rfl) (ro rfl (eY A_28 Z_28 (Ht rfl) (i:=0) rfl rfl) (rm rfl (ro rfl (cZ Tryz.call202 (Ca zo zo zo) ⟨(Ht rfl),(Ht rfl),trivial⟩) (rm rfl (ro rfl (dK (Ht rfl) rfl) (ro rfl (dK (Ht rfl) rfl) (ro rfl (eZ cO (Ht rfl) rfl) (nA Z_28 (Ht rfl) (Ht rfl) (i:=0) rfl (aK rfl) rfl (eX (ts (ro rfl (eZ cO (Ht rfl) rfl) (ro rfl (eY A_28 Z_28 (Ht rfl) (i:=1) rfl rfl) (rm rfl (ro rfl (cZ Tryz.call202 (Ca zo zo zo) ⟨(Ht rfl),(Ht rfl),trivial⟩) ?_)))))))))))))))
   refine rm rfl (ro rfl (dK (Ht rfl) rfl) (ro rfl (dK (Ht rfl) rfl) (ro rfl (eZ cO (Ht rfl) rfl) (nA Z_28 (Ht rfl) (Ht rfl) (i:=1) rfl (aK rfl) rfl (eX (cY (rm rfl (rm rfl (ro rfl (cZ Tryz.call202 (Ca zo zo zo) ⟨(Ht rfl),(Ht rfl),trivial⟩) (rm rfl (ro rfl (dK (Ht rfl) rfl) (ro rfl (dK (Ht rfl) rfl) (ra rfl (eX (aS () trivial (zS rfl) (aU (aH (by first | rfl | simp)) (aU (aH (by first | rfl | simp)) (aU (aH rfl) aY))))))))))))))))))
  ·simp at hb
   refine cU (aS () trivial (aZ rfl (eM (by rw [hb,Nat.div_one])) (zS rfl)) (aU (aH (by rw [hb,Nat.div_one])) (aU (aH (by rw [hb,Nat.div_one])) (aU (aH rfl) aY))))
 ·refine cK (jK (fun (uu : Unit) => True) (fun (uu : Unit) => [(2, aI (if D / (Nat.gcd (Nat.gcd A.natAbs B.natAbs) D) = 1 then 0 else D / (Nat.gcd (Nat.gcd A.natAbs B.natAbs) D))), (3, cB B3 0), (4, cB B4 0), (6, cB B6 0)]) (fun (uu : Unit) => [box B3 30 [aC (decide (A < 0)), aI (A.natAbs / (Nat.gcd (Nat.gcd A.natAbs B.natAbs) D))], box B4 30 [aC (decide (B < 0)), aI (B.natAbs / (Nat.gcd (Nat.gcd A.natAbs B.natAbs) D))], box B6 32 [Is (.bool false), Is (.slice none 0 0), Is (.bool false), Is (.slice none 0 0), Is (.slice none 0 0)]]) ?_ (fun uu _ => ?_))
  ·refine ts (rm rfl (ro rfl (cZ Tryz.call201 Yj ⟨(Ht rfl), trivial⟩) (eX (dQ (Ht rfl) (fun hb => ?_) (fun hb => ?_)))))
   ·simp only [decide_eq_true_eq] at hb
    refine cY (ro rfl (cQ cV) (eX (aS () trivial (aZ rfl (fun v V h=>eM (by rw [if_pos hb]) v V (kU v V h)) (zS rfl)) (dO.refl _))))
   ·simp only [decide_eq_false_iff_not] at hb
    refine cU (aS () trivial (aZ rfl (eM (by rw [if_neg hb])) (zS rfl)) (dO.refl _))
  ·refine ts (ro rfl (eJ A_30 Z_30 (Ht rfl) (i := 0) rfl rfl rfl) (ro rfl (eJ A_30 Z_30 (Ht rfl) (i := 1) rfl rfl rfl) (rm rfl (ro rfl (nS (Ht rfl) (Ht rfl) (Ht rfl)) (gZ Z_32 (Ht rfl) (Ht rfl) rfl (i := 2) rfl (aK rfl) rfl rfl (eX (fG rfl (fZ (fU A_32 Z_32 rfl (i := 2) rfl rfl) ?_))))))))
   exact (Wr hD)
theorem lP {x:Qi}:bA Tryz.prog 109 [aF x] (aI x.den):=by
 refine bA.intro Tryz.func109 rfl Tryz.ntmps109 rfl (fun cx=>(ts (rn rfl (fK (Ht rfl)) fun B1=>(ro rfl (cQ cV) (eX (cK (ts (ro rfl (eZ mH (Ht rfl) rfl) (ro rfl (eY A_28 Z_28 (Ht rfl) (i:=0) rfl rfl) (ro rfl (dG U_28 (Ht rfl) aA) (ro rfl (dI (Ht rfl) (cJ 0)) (eX (dQ (Ht rfl) (fun hb=>?_) (fun hb=>?_))))))))))))))
 ·simp at hb
  have h1:x.den = 1:=uR (aN.1 (by simpa using hb))
  refine ts (ro rfl (cL (xs:=[_]) U_28 Z_24 O_24 (cW (cJ 1) cG) rfl rfl rfl) (ra rfl (eX (fG rfl (fZ (eU rfl) ?_)))))
  exact (fun v V h=>eM h1.symm v V (wS v V h))
 ·simp at hb
  have h1:du x = x.den:=rY (fun e=>hb (by simp [e,dM]))
  refine cU (ts (ro rfl (eZ mH (Ht rfl) rfl) (ro rfl (eY A_28 Z_28 (Ht rfl) (i:=0) rfl rfl) (ra rfl (eX (fG rfl (fZ (eU rfl) ?_)))))))
  exact (eM h1)
theorem gY {n:Int} (h1:-9223372036854775808 ≤ n) (h2:n ≤ 9223372036854775807):bA Tryz.prog 36 [aD .i64 n] (aF (Qi.ofInt n)):=by
 refine bA.intro Tryz.func36 rfl Tryz.ntmps36 rfl (fun cx=>(ts (rn rfl (eW (Ts:=[Is (.bool false),Is (.slice none 0 0),Is (.bool false),Is (.slice none 0 0),Is (.slice none 0 0)]) O_32 rfl (fun V=>aW zd (aW zd (aW zd (aW zd (aW zd (aG))))))) fun B2=>(eX (ts (rm rfl (ro rfl (cZ Tryz.call115 (zW h1 h2) ⟨(Ht rfl),trivial⟩) (ro rfl (Na (Ht rfl)) (gZ Z_32 (Ht rfl) (Ht rfl) rfl (i:=0) rfl (aK rfl) rfl rfl ?_)))))))))
 refine eX (fG rfl (fZ (fU A_32 Z_32 rfl (i:=0) rfl rfl) ?_))
 exact Ix
theorem a1t {p q d:Int} (p1:-9223372036854775808 ≤ p) (p2:p ≤ 9223372036854775807) (q1:-9223372036854775808 ≤ q) (q2:q ≤ 9223372036854775807) (d1:-9223372036854775808 ≤ d) (d2:d ≤ 9223372036854775807) (hd:d ≠ 0):bA Tryz.prog 81 [aD .i64 p,aD .i64 q,aD .i64 d] (fE [aF (Qi.frac p q d),aD .i64 0]):=by
 have lp:=a0d p1 p2; have lq:=a0d q1 q2; have ld:=a0d d1 d2; have np:=vV p; have nq:=vV q
 refine bA.intro Tryz.func81 rfl Tryz.ntmps81 rfl (fun cx=>(ts (rn rfl (eW (Ts:=[Is (.bool false),Is (.slice none 0 0),Is (.bool false),Is (.slice none 0 0),Is (.slice none 0 0)]) O_32 rfl (fun V=>aW zd (aW zd (aW zd (aW zd (aW zd (aG))))))) fun B6=>(ro rfl (cQ (cJ 0)) (eX (cK (ts (rm rfl (ro rfl (kX (Ht rfl) cV) (eX (kZ (Ht rfl) (by simp [hd]) ?_)))))))))))
 refine cU (ts (rm rfl (ro rfl (cZ Tryz.call115 (zW p1 p2) ⟨(Ht rfl),trivial⟩) (rm rfl (ro rfl (cZ Tryz.call115 (zW q1 q2) ⟨(Ht rfl),trivial⟩) (rm rfl (ro rfl (cZ Tryz.call115 (zW d1 d2) ⟨(Ht rfl),trivial⟩) (rn rfl (eW (Ts:=[Is (.bool false),Is (.slice none 0 0)]) O_30 rfl (fun V=>aW zd (aW zd (aG)))) fun B8=>(rn rfl (eW (Ts:=[Is (.bool false),Is (.slice none 0 0)]) O_30 rfl (fun V=>aW zd (aW zd (aG)))) fun B9=>?_)))))))))
 refine rn rfl (eW (Ts:=[Is (.bool false),Is (.slice none 0 0)]) O_30 rfl (fun V=>aW zd (aW zd (aG)))) fun B10=>gZ Z_30 (Ht rfl) (Ht rfl) rfl (i:=1) rfl (aK rfl) rfl rfl (gZ Z_30 (Ht rfl) (Ht rfl) rfl (i:=2) rfl (aK rfl) rfl rfl (gZ Z_30 (Ht rfl) (Ht rfl) rfl (i:=3) rfl (aK rfl) rfl rfl (eX (cK (pN (fun (a:Int) (b:Int)=>Qi.mk' a b d.natAbs = Qi.frac p q d ∧ (dg a.natAbs).length ≤ 2 ∧ (dg b.natAbs).length ≤ 2) (fun (a:Int) (b:Int)=>[(6,cB B6 0),(8,cB B8 0),(9,cB B9 0),(10,cB B10 0)]) (fun (a:Int) (b:Int)=>[box B6 32 [Is (.bool false),Is (.slice none 0 0),Is (.bool false),Is (.slice none 0 0),Is (.slice none 0 0)],box B8 30 [aC (decide (a < 0)),aI (a).natAbs],box B9 30 [aC (decide (b < 0)),aI (b).natAbs],box B10 30 [aC (decide (d < 0)),aI (d).natAbs]]) ?_ (fun a b ⟨hab,ha,hb⟩=>?_))))))
 ·refine ts (ro rfl (eZ gP (Ht rfl) rfl) (ro rfl (eY A_4 Z_4 (Ht rfl) (i := 3) rfl rfl) (eX (dQ (Ht rfl) (fun hn => ?_) (fun hn => ?_)))))
  ·simp only [decide_eq_true_eq] at hn
   refine fJ (m:=3) (dp 8 rfl (eJ A_30 Z_30 (Ht rfl) (i:=1) rfl rfl rfl) (dq 22 0 rfl (cZ K_107 mG ⟨(Ht rfl),trivial⟩) (dp 9 rfl (eJ A_30 Z_30 (Ht rfl) (i:=2) rfl rfl rfl) (fW bC rfl (by kernel_rfl) (aJ (aJ (aJ (aV (ro rfl (cZ K_107 mG ⟨(Ht rfl),trivial⟩) (gZ Z_30 (Ht rfl) (Ht rfl) rfl (i:=1) rfl (aK rfl) rfl rfl (gZ Z_30 (Ht rfl) (Ht rfl) rfl (i:=2) rfl (aK rfl) rfl rfl (eX (aS (-p,-q) ⟨Qi.frac_neg hn,by dsimp only; omega,by dsimp only; omega⟩ (zS rfl) (aU (aH rfl) (aU (aH rfl) (aU (aH rfl) (aU (aH rfl) aY)))))))))))))))))
  ·simp only [decide_eq_false_iff_not] at hn
   refine cU (aS (p,q) ⟨Qi.frac_pos hn hd,by omega,by omega⟩ (zS rfl) (dO.refl _))
 ·refine ts (ro rfl (eJ A_30 Z_30 (Ht rfl) (i := 1) rfl rfl rfl) (ro rfl (eJ A_30 Z_30 (Ht rfl) (i := 2) rfl rfl rfl) (ro rfl (eZ cO (Ht rfl) rfl) (ro rfl (eY A_28 Z_28 (Ht rfl) (i := 3) rfl rfl) (ro rfl (cZ K_108 (qT zo zo zo zo) ⟨(Ht rfl), (Ht rfl), (Ht rfl), trivial⟩) (gZ Z_32 (Ht rfl) (Ht rfl) rfl (i := 0) rfl (aK rfl) rfl rfl (ro rfl (cQ (cJ 0)) (eX (bE rfl (fZ (fU A_32 Z_32 rfl (i := 0) rfl rfl) ?_) (eU rfl))))))))))
  exact (fM hab)
theorem yN {x y:Qi} {L M:Nat} [hx:aE x L] [hy:aE y M] (h:L + M + 1 ≤ 17592186044415):bA Tryz.prog 33 [aF x,aF y] (aF (x + y)):=by
 have hxa:=lM hx.fit; have hxb:=lN hx.fit; have hxd:=lO hx.fit
 have hya:=lM hy.fit; have hyb:=lN hy.fit; have hyd:=lO hy.fit
 have hxp:=x.den_pos; have hyp:=y.den_pos; have hdp:=Nat.mul_pos hxp hyp
 have e1:=eL x.a y.den; have e2:=eL y.a x.den; have e3:=eL x.b y.den; have e4:=eL y.b x.den; have e5:=vT x.den y.den
 have e6:=lI (x:=x.a * y.den) (y:=y.a * x.den) (L:=L + M) zo zo; have e7:=lI (x:=x.b * y.den) (y:=y.b * x.den) (L:=L + M) zo zo
 refine bA.intro Tryz.func33 rfl Tryz.ntmps33 rfl (fun cx=>(ts (rn rfl (fK (Ht rfl)) fun B2=>(rn rfl (fK (Ht rfl)) fun B3=>(rn rfl (eW (Ts:=[Is (.bool false),Is (.slice none 0 0),Is (.bool false),Is (.slice none 0 0),Is (.slice none 0 0)]) O_32 rfl (fun V=>aW zd (aW zd (aW zd (aW zd (aW zd (aG))))))) fun B4=>(eX (cK (fJ (m:=3) (dp 2 rfl (eJ A_32 Z_32 (Ht rfl) (i:=0) rfl rfl rfl) (dq 7 0 rfl (cZ K_109 lP ⟨(Ht rfl),trivial⟩) ?_))))))))))
 refine dp 3 rfl (eJ A_32 Z_32 (Ht rfl) (i:=1) rfl rfl rfl) (fW bC rfl (by kernel_rfl) (aJ (aJ (aJ (aV (ro rfl (cZ K_109 lP ⟨(Ht rfl),trivial⟩) (ra rfl (ra rfl (eX (cK (fJ (m:=20) (dp 2 rfl (eZ eB (Ht rfl) rfl) (dq 11 0 rfl (eJ A_30 Z_30 (Ht rfl) (i:=0) rfl rfl rfl) (dp 6 rfl (cX (Ht rfl)) (eA 12 1 13 2 rfl (cZ K_111 (jC zo zo) ⟨(Ht rfl),(Ht rfl),trivial⟩) (dp 3 rfl (eZ eB (Ht rfl) rfl) (dq 15 4 rfl (eJ A_30 Z_30 (Ht rfl) (i:=1) rfl rfl rfl) ?_)))))))))))))))))
 refine dp 5 rfl (cX (Ht rfl)) (eA 16 5 17 6 rfl (cZ K_111 (jC zo zo) ⟨(Ht rfl),(Ht rfl),trivial⟩) (eA 14 3 18 7 rfl (cZ K_106 (tA zo zo) ⟨(Ht rfl),(Ht rfl),trivial⟩) (dp 2 rfl (eZ eT (Ht rfl) rfl) (dq 20 9 rfl (eJ A_30 Z_30 (Ht rfl) (i:=0) rfl rfl rfl) (dp 6 rfl (cX (Ht rfl)) (eA 21 10 22 11 rfl (cZ K_111 (jC zo zo) ⟨(Ht rfl),(Ht rfl),trivial⟩) (dp 3 rfl (eZ eT (Ht rfl) rfl) (dq 24 13 rfl (eJ A_30 Z_30 (Ht rfl) (i:=1) rfl rfl rfl) ?_))))))))
 refine dp 5 rfl (cX (Ht rfl)) (eA 25 14 26 15 rfl (cZ K_111 (jC zo zo) ⟨(Ht rfl),(Ht rfl),trivial⟩) (eA 23 12 27 16 rfl (cZ K_106 (tA zo zo) ⟨(Ht rfl),(Ht rfl),trivial⟩) (dp 5 rfl (cX (Ht rfl)) (dp 6 rfl (cX (Ht rfl)) (fW bC rfl (by kernel_rfl) (zF (zF (zF (zF (zF (aV (ro rfl (cZ Tryz.call110 (Cb zo zo) ⟨(Ht rfl),(Ht rfl),trivial⟩) ?_))))))))))))
 refine ro rfl (cZ K_108 (qT (by first | assumption | omega) zo zo zo) ⟨(Ht rfl),(Ht rfl),(Ht rfl),trivial⟩) (gZ Z_32 (Ht rfl) (Ht rfl) rfl (i:=2) rfl (aK rfl) rfl rfl (eX (fG rfl (fZ (fU A_32 Z_32 rfl (i:=2) rfl rfl) ?_))))
 exact (fM (Qi.mk_add x y))
theorem a1s {x:Qi}:bA Tryz.prog 114 [aF x] (aF (-x)):=by
 refine bA.intro Tryz.func114 rfl Tryz.ntmps114 rfl (fun cx=>(ts (rn rfl (fK (Ht rfl)) fun B1=>(rn rfl (eW (Ts:=[Is (.bool false),Is (.slice none 0 0),Is (.bool false),Is (.slice none 0 0),Is (.slice none 0 0)]) O_32 rfl (fun V=>aW zd (aW zd (aW zd (aW zd (aW zd (aG))))))) fun B2=>(eX (cK (fJ (m:=8) (dp 1 rfl (eZ eB (Ht rfl) rfl) (dq 3 0 rfl (eJ A_30 Z_30 (Ht rfl) (i:=0) rfl rfl rfl) (dq 4 1 rfl (cZ K_107 mG ⟨(Ht rfl),trivial⟩) ?_))))))))))
 refine dp 1 rfl (eZ eT (Ht rfl) rfl) (dq 6 3 rfl (eJ A_30 Z_30 (Ht rfl) (i:=0) rfl rfl rfl) (dq 7 4 rfl (cZ K_107 mG ⟨(Ht rfl),trivial⟩) (dp 1 rfl (eZ mH (Ht rfl) rfl) (dq 9 6 rfl (eY A_28 Z_28 (Ht rfl) (i:=0) rfl rfl) (fW bC rfl (by kernel_rfl) (zF (zF (aV (ro rfl (nS (Ht rfl) (Ht rfl) (Ht rfl)) (gZ Z_32 (Ht rfl) (Ht rfl) rfl (i:=1) rfl (aK rfl) rfl rfl (eX (fG rfl (fZ (fU A_32 Z_32 rfl (i:=1) rfl rfl) ?_)))))))))))))
 exact (oO (by obtain ⟨e1,e2,e3⟩:=Qi.neg_a x; rw [e1,e2,Yp e3]; rfl))
theorem vM {x:Qi}:bA Tryz.prog 317 [aF x] (aF x.conj):=by
 refine bA.intro Tryz.func317 rfl Tryz.ntmps317 rfl (fun cx=>(ts (rn rfl (fK (Ht rfl)) fun B1=>(rn rfl (eW (Ts:=[Is (.bool false),Is (.slice none 0 0),Is (.bool false),Is (.slice none 0 0),Is (.slice none 0 0)]) O_32 rfl (fun V=>aW zd (aW zd (aW zd (aW zd (aW zd (aG))))))) fun B2=>(eX (cK (fJ (m:=7) (dp 1 rfl (eZ eB (Ht rfl) rfl) (dq 3 0 rfl (eJ A_30 Z_30 (Ht rfl) (i:=0) rfl rfl rfl) (dp 1 rfl (eZ eT (Ht rfl) rfl) ?_))))))))))
 refine dq 5 2 rfl (eJ A_30 Z_30 (Ht rfl) (i:=0) rfl rfl rfl) (dq 6 3 rfl (cZ K_107 mG ⟨(Ht rfl),trivial⟩) (dp 1 rfl (eZ mH (Ht rfl) rfl) (dq 8 5 rfl (eY A_28 Z_28 (Ht rfl) (i:=0) rfl rfl) (fW bC rfl (by kernel_rfl) (zF (aJ (aJ (aJ (aV (ro rfl (nS (Ht rfl) (Ht rfl) (Ht rfl)) (gZ Z_32 (Ht rfl) (Ht rfl) rfl (i:=1) rfl (aK rfl) rfl rfl (eX (fG rfl (fZ (fU A_32 Z_32 rfl (i:=1) rfl rfl) ?_))))))))))))))
 exact (oO (by obtain ⟨e1,e2,e3⟩:=Qi.conj_a x; rw [e1,e2,Yp e3]; rfl))
theorem tW {x y:Qi} {L M:Nat} [hx:aE x L] [hy:aE y M] (h:L + M + 1 ≤ 17592186044415):bA Tryz.prog 32 [aF x,aF y] (aF (x - y)):=by
 have hxa:=lM hx.fit; have hxb:=lN hx.fit; have hxd:=lO hx.fit
 have hya:=lM hy.fit; have hyb:=lN hy.fit; have hyd:=lO hy.fit
 have hxp:=x.den_pos; have hyp:=y.den_pos; have hdp:=Nat.mul_pos hxp hyp
 refine bA.intro Tryz.func32 rfl Tryz.ntmps32 rfl (fun cx=>(ts (rn rfl (fK (Ht rfl)) fun B2=>(rn rfl (fK (Ht rfl)) fun B3=>(rn rfl (eW (Ts:=[Is (.bool false),Is (.slice none 0 0),Is (.bool false),Is (.slice none 0 0),Is (.slice none 0 0)]) O_32 rfl (fun V=>aW zd (aW zd (aW zd (aW zd (aW zd (aG))))))) fun B4=>(eX (cK (fJ (m:=3) (dp 2 rfl (eJ A_32 Z_32 (Ht rfl) (i:=0) rfl rfl rfl) (dp 3 rfl (eJ A_32 Z_32 (Ht rfl) (i:=1) rfl rfl rfl) ?_))))))))))
 refine dq 6 1 rfl (cZ Tryz.call114 a1s ⟨(Ht rfl),trivial⟩) (fW bC rfl (by kernel_rfl) (aJ (aJ (aJ (aV (ro rfl (cZ K_33 (yN zo) ⟨(Ht rfl),(Ht rfl),trivial⟩) (gZ Z_32 (Ht rfl) (Ht rfl) rfl (i:=2) rfl (aK rfl) rfl rfl (eX (fG rfl (fZ (fU A_32 Z_32 rfl (i:=2) rfl rfl) ?_))))))))))
 exact (fM (Qi.sub_def x y).symm)
theorem iP {x y:Qi} {L M:Nat} [hx:aE x L] [hy:aE y M] (h:L + M + 1 ≤ 17592186044415):bA Tryz.prog 29 [aF x,aF y] (aF (x * y)):=by
 have hxa:=lM hx.fit; have hxb:=lN hx.fit; have hxd:=lO hx.fit
 have hya:=lM hy.fit; have hyb:=lN hy.fit; have hyd:=lO hy.fit
 have hxp:=x.den_pos; have hyp:=y.den_pos; have hdp:=Nat.mul_pos hxp hyp
 have e1:=lJ x.a y.a; have e2:=lJ x.b y.b; have e3:=lJ x.a y.b; have e4:=lJ x.b y.a; have e5:=vT x.den y.den; have e8:=vV (x.b * y.b)
 have e6:=lI (x:=x.a * y.a) (y:=-(x.b * y.b)) (L:=L + M) zo zo; have e7:=lI (x:=x.a * y.b) (y:=x.b * y.a) (L:=L + M) zo zo
 refine bA.intro Tryz.func29 rfl Tryz.ntmps29 rfl (fun cx=>(ts (rn rfl (fK (Ht rfl)) fun B2=>(rn rfl (fK (Ht rfl)) fun B3=>(rn rfl (eW (Ts:=[Is (.bool false),Is (.slice none 0 0),Is (.bool false),Is (.slice none 0 0),Is (.slice none 0 0)]) O_32 rfl (fun V=>aW zd (aW zd (aW zd (aW zd (aW zd (aG))))))) fun B4=>(eX (cK (fJ (m:=13) (dp 2 rfl (eZ eB (Ht rfl) rfl) (dq 7 0 rfl (eJ A_30 Z_30 (Ht rfl) (i:=0) rfl rfl rfl) ?_))))))))))
 refine dp 3 rfl (eZ eB (Ht rfl) rfl) (dq 9 2 rfl (eJ A_30 Z_30 (Ht rfl) (i:=1) rfl rfl rfl) (eA 8 1 10 3 rfl (cZ K_105 (pP zo zo) ⟨(Ht rfl),(Ht rfl),trivial⟩) (dp 2 rfl (eZ eT (Ht rfl) rfl) (dq 12 5 rfl (eJ A_30 Z_30 (Ht rfl) (i:=0) rfl rfl rfl) (dp 3 rfl (eZ eT (Ht rfl) rfl) (dq 14 7 rfl (eJ A_30 Z_30 (Ht rfl) (i:=1) rfl rfl rfl) (eA 13 6 15 8 rfl (cZ K_105 (pP zo zo) ⟨(Ht rfl),(Ht rfl),trivial⟩) (dq 16 9 rfl (cZ K_107 mG ⟨(Ht rfl),trivial⟩) ?_))))))))
 refine eA 11 4 17 10 rfl (cZ K_106 (tA zo zo) ⟨(Ht rfl),(Ht rfl),trivial⟩) (C.D_new (Ei:=[]) rfl rfl rfl bW (eW (Ts:=[Is (.bool false),Is (.slice none 0 0)]) O_30 rfl (fun V=>aW zd (aW zd (aG)))) (fW bC rfl (by kernel_rfl) (zF (zF (zF (C.F_new (fun B5=>aV (gZ Z_30 (Ht rfl) (Ht rfl) rfl (i:=3) rfl (aK rfl) rfl rfl (eX ?_)))))))))
 refine cK (fJ (m:=12) (dp 2 rfl (eZ eB (Ht rfl) rfl) (dq 19 0 rfl (eJ A_30 Z_30 (Ht rfl) (i:=0) rfl rfl rfl) (dp 3 rfl (eZ eT (Ht rfl) rfl) (dq 21 2 rfl (eJ A_30 Z_30 (Ht rfl) (i:=1) rfl rfl rfl) (eA 20 1 22 3 rfl (cZ K_105 (pP zo zo) ⟨(Ht rfl),(Ht rfl),trivial⟩) (dp 2 rfl (eZ eT (Ht rfl) rfl) (dq 24 5 rfl (eJ A_30 Z_30 (Ht rfl) (i:=0) rfl rfl rfl) (dp 3 rfl (eZ eB (Ht rfl) rfl) (dq 26 7 rfl (eJ A_30 Z_30 (Ht rfl) (i:=1) rfl rfl rfl) ?_))))))))))
 refine eA 25 6 27 8 rfl (cZ K_105 (pP zo zo) ⟨(Ht rfl),(Ht rfl),trivial⟩) (eA 23 4 28 9 rfl (cZ K_106 (tA zo zo) ⟨(Ht rfl),(Ht rfl),trivial⟩) (C.D_new (Ei:=[]) rfl rfl rfl bW (eW (Ts:=[Is (.bool false),Is (.slice none 0 0)]) O_30 rfl (fun V=>aW zd (aW zd (aG)))) (fW bC rfl (by kernel_rfl) (zF (zF (aJ (aJ (aJ (C.F_new (fun B6=>aV (gZ Z_30 (Ht rfl) (Ht rfl) rfl (i:=4) rfl (aK rfl) rfl rfl ?_)))))))))))
 refine eX (cK (fJ (m:=7) (dp 5 rfl (eJ A_30 Z_30 (Ht rfl) (i:=3) rfl rfl rfl) (dp 6 rfl (eJ A_30 Z_30 (Ht rfl) (i:=4) rfl rfl rfl) (dp 2 rfl (eJ A_32 Z_32 (Ht rfl) (i:=0) rfl rfl rfl) (dq 32 2 rfl (cZ K_109 lP ⟨(Ht rfl),trivial⟩) (dp 3 rfl (eJ A_32 Z_32 (Ht rfl) (i:=1) rfl rfl rfl) (dq 34 4 rfl (cZ K_109 lP ⟨(Ht rfl),trivial⟩) (eA 33 3 35 5 rfl (cZ Tryz.call110 (Cb zo zo) ⟨(Ht rfl),(Ht rfl),trivial⟩) (fW bC rfl (by kernel_rfl) (zF (aJ (aJ (aJ (aV ?_)))))))))))))))
 refine ro rfl (cZ K_108 (qT (by first | assumption | omega) zo zo zo) ⟨(Ht rfl),(Ht rfl),(Ht rfl),trivial⟩) (gZ Z_32 (Ht rfl) (Ht rfl) rfl (i:=2) rfl (aK rfl) rfl rfl (eX (fG rfl (fZ (fU A_32 Z_32 rfl (i:=2) rfl rfl) ?_))))
 exact (fM (Qi.mk_mul x y))
theorem Tg {x:Qi} {L:Nat} [hx:aE x L] (h:L ≤ 17592186044415):bA Tryz.prog 34 [aF x] (aC (!decide (x = Qi.zero))):=by
 have hxa:=lM hx.fit; have hxb:=lN hx.fit; have hxd:=lO hx.fit
 refine bA.intro Tryz.func34 rfl Tryz.ntmps34 rfl (fun cx=>(ts (rn rfl (fK (Ht rfl)) fun B1=>(ro rfl (cQ cV) (eX (ts (ro rfl (eZ eB (Ht rfl) rfl) (ro rfl (eZ cO (Ht rfl) rfl) (ro rfl (eY A_28 Z_28 (Ht rfl) (i:=0) rfl rfl) (ro rfl (dG U_28 (Ht rfl) aA) (ro rfl (eZ eT (Ht rfl) rfl) (ro rfl (eZ cO (Ht rfl) rfl) (ro rfl (eY A_28 Z_28 (Ht rfl) (i:=0) rfl rfl) (ro rfl (dG U_28 (Ht rfl) aA) (ro rfl (dV (Ht rfl) (Ht rfl) z6) ?_)))))))))))))))
 refine ro rfl (gR (Ht rfl) (cJ 0)) (ra rfl (eX (fG rfl (fZ (eU rfl) ?_))))
 exact (gD (Ny x))
theorem vN {x:Qi}:bA Tryz.prog 35 [aF x] (aC (decide (x.b = 0))):=by
 refine bA.intro Tryz.func35 rfl Tryz.ntmps35 rfl (fun cx=>(ts (rn rfl (fK (Ht rfl)) fun B1=>(ro rfl (cQ cV) (eX (ts (ro rfl (eZ eT (Ht rfl) rfl) (ro rfl (eZ cO (Ht rfl) rfl) (ro rfl (eY A_28 Z_28 (Ht rfl) (i:=0) rfl rfl) (ro rfl (dG U_28 (Ht rfl) aA) (ro rfl (dI (Ht rfl) (cJ 0)) (ra rfl (eX (fG rfl (fZ (eU rfl) ?_)))))))))))))))
 exact (gD (Ww x))
theorem Ni {x y:Qi} {L M:Nat} [hx:aE x L] [hy:aE y M] (h:L ≤ 17592186044415) (h2:M ≤ 17592186044415):bA Tryz.prog 45 [aF x,aF y] (aC (decide (x = y))):=by
 have hxa:=lM hx.fit; have hxb:=lN hx.fit; have hxd:=lO hx.fit
 have hya:=lM hy.fit; have hyb:=lN hy.fit; have hyd:=lO hy.fit
 have hxu:=Ov x; have hyu:=Ov y
 refine bA.intro Tryz.func45 rfl Tryz.ntmps45 rfl (fun cx=>(ts (rn rfl (fK (Ht rfl)) fun B2=>(rn rfl (fK (Ht rfl)) fun B3=>(ro rfl (cQ cV) (eX (ts (ro rfl (eZ eB (Ht rfl) rfl) (ro rfl (eJ A_30 Z_30 (Ht rfl) (i:=0) rfl rfl rfl) (ro rfl (eZ eB (Ht rfl) rfl) (ro rfl (eJ A_30 Z_30 (Ht rfl) (i:=1) rfl rfl rfl) (ro rfl (cZ Tryz.call112 (Aa zo zo) ⟨(Ht rfl),(Ht rfl),trivial⟩) (ro rfl (kX (Ht rfl) cV) (rm rfl (fQ rfl rfl (eK rfl rfl (Ht rfl) (fun h=>eZ eT (Ht rfl) rfl)) ?_)))))))))))))))
 refine fQ rfl rfl (eK rfl rfl (Ht rfl) (fun h=>eJ A_30 Z_30 (fV rfl h) (i:=0) rfl rfl rfl)) (fQ rfl rfl (eK rfl rfl (Ht rfl) (fun h=>eZ eT (Ht rfl) rfl)) (fQ rfl rfl (eK rfl rfl (Ht rfl) (fun h=>eJ A_30 Z_30 (fV rfl h) (i:=1) rfl rfl rfl)) (fQ rfl rfl (eK rfl rfl (Ht rfl) (fun h=>cZ Tryz.call112 (Aa zo zo) ⟨(fV rfl h),(fV rfl h),trivial⟩)) (fQ rfl rfl (eK rfl rfl (Ht rfl) (fun h=>kX (fV rfl h) cV)) (ro rfl (fT (Ht rfl) (fun h=>(fV rfl h))) ?_)))))
 refine rm rfl (fQ rfl rfl (eK rfl rfl (Ht rfl) (fun h=>eZ mH (Ht rfl) rfl)) (fQ rfl rfl (eK rfl rfl (Ht rfl) (fun h=>eY A_28 Z_28 (fV rfl h) (i:=0) rfl rfl)) (fQ rfl rfl (eK rfl rfl (Ht rfl) (fun h=>eZ mH (Ht rfl) rfl)) (fQ rfl rfl (eK rfl rfl (Ht rfl) (fun h=>eY A_28 Z_28 (fV rfl h) (i:=1) rfl rfl)) (fQ rfl rfl (eK rfl rfl (Ht rfl) (fun h=>cZ Tryz.call129 (By zo zo) ⟨(fV rfl h),(fV rfl h),trivial⟩)) (fQ rfl rfl (eK rfl rfl (Ht rfl) (fun h=>kX (fV rfl h) cV)) ?_))))))
 refine ro rfl (fT (Ht rfl) (fun h=>(fV rfl h))) (ra rfl (eX (fG rfl (fZ (eU rfl) ?_))))
 exact (gD (Xd x y))
theorem tV {x y:Qi} {L M:Nat} [hx:aE x L] [hy:aE y M] (h:L + M ≤ 17592186044415):bA Tryz.prog 30 [aF x,aF y] (aD .i64 (qU x y)):=by
 have hxa:=lM hx.fit; have hxb:=lN hx.fit; have hxd:=lO hx.fit
 have hya:=lM hy.fit; have hyb:=lN hy.fit; have hyd:=lO hy.fit
 have e1:=eL x.a y.den; have e2:=eL y.a x.den; have e3:=eL x.b y.den; have e4:=eL y.b x.den
 refine bA.intro Tryz.func30 rfl Tryz.ntmps30 rfl (fun cx=>(ts (rn rfl (fK (Ht rfl)) fun B2=>(rn rfl (fK (Ht rfl)) fun B3=>(ro rfl (cQ (cJ 0)) (eX (cK (cK (fJ (m:=9) (dp 2 rfl (eZ eB (Ht rfl) rfl) (dq 6 0 rfl (eJ A_30 Z_30 (Ht rfl) (i:=0) rfl rfl rfl) (dp 3 rfl (eJ A_32 Z_32 (Ht rfl) (i:=1) rfl rfl rfl) (dq 8 2 rfl (cZ K_109 lP ⟨(Ht rfl),trivial⟩) (eA 7 1 9 3 rfl (cZ K_111 (jC zo zo) ⟨(Ht rfl),(Ht rfl),trivial⟩) (dp 3 rfl (eZ eB (Ht rfl) rfl) ?_)))))))))))))))
 refine dq 11 5 rfl (eJ A_30 Z_30 (Ht rfl) (i:=1) rfl rfl rfl) (dp 2 rfl (eJ A_32 Z_32 (Ht rfl) (i:=0) rfl rfl rfl) (dq 13 7 rfl (cZ K_109 lP ⟨(Ht rfl),trivial⟩) (fW bC rfl (by kernel_rfl) (zF (zF (aJ (aV (ro rfl (cZ K_111 (jC zo zo) ⟨(Ht rfl),(Ht rfl),trivial⟩) (ro rfl (cZ Tryz.call112 (Aa zo zo) ⟨(Ht rfl),(Ht rfl),trivial⟩) (ra rfl (eX (ts (rm rfl (ro rfl (oB (Ht rfl) cV) ?_))))))))))))))
 refine eX (dQ (Ht rfl) (fun hb=>?_) (fun hb=>?_))
 ·simp only [Bool.not_eq_true', decide_eq_false_iff_not] at hb
  refine ts (rm rfl (ra rfl (eX (fG rfl (fZ (eU rfl) ?_)))))
  exact (aP (by rw [qU,if_pos hb]))
 ·simp only [Bool.not_eq_false', decide_eq_true_eq] at hb
  refine cU (cK (fJ (m:=9) (dp 2 rfl (eZ eT (Ht rfl) rfl) (dq 20 0 rfl (eJ A_30 Z_30 (Ht rfl) (i:=0) rfl rfl rfl) (dp 3 rfl (eJ A_32 Z_32 (Ht rfl) (i:=1) rfl rfl rfl) (dq 22 2 rfl (cZ K_109 lP ⟨(Ht rfl),trivial⟩) (eA 21 1 23 3 rfl (cZ K_111 (jC zo zo) ⟨(Ht rfl),(Ht rfl),trivial⟩) (dp 3 rfl (eZ eT (Ht rfl) rfl) (dq 25 5 rfl (eJ A_30 Z_30 (Ht rfl) (i:=1) rfl rfl rfl) (dp 2 rfl (eJ A_32 Z_32 (Ht rfl) (i:=0) rfl rfl rfl) ?_))))))))))
  refine dq 27 7 rfl (cZ K_109 lP ⟨(Ht rfl),trivial⟩) (fW bC rfl (by kernel_rfl) (zF (zF (aJ (aV (ro rfl (cZ K_111 (jC zo zo) ⟨(Ht rfl),(Ht rfl),trivial⟩) (ro rfl (cZ Tryz.call112 (Aa zo zo) ⟨(Ht rfl),(Ht rfl),trivial⟩) (ra rfl (eX (fG rfl (fZ (eU rfl) ?_)))))))))))
  exact (aP (by rw [qU,if_neg (by simpa using hb)]))
end
section
open Go Go.RowKit
theorem Tc {n : Nat} {E : bR} {H : Hp} {d : Option Tmp} {t : TypeId} {pos : String} {af : Array Edge} {g : Option (Nat × Bool)}  :
  aB Tryz.prog n E H ⟨d,.build 30 #[],t,pos,af,g⟩ (dL [Is (.bool false),Is (.slice none 0 0)]) :=
 gA (parts := []) fun a V w hs => by
  refine ⟨.agg #[(.bool false),(.slice none 0 0)],?_,[(.bool false),(.slice none 0 0)],rfl,aW (⟨rfl,trivial⟩) (aW (⟨rfl,trivial⟩) (aG))⟩
  simp [Instr.build,Instr.fill,Sem.run_bind,Result.andThen,eI,O_30,U_30,Z_4,Z_28]
theorem Af (a:Addr) (w:World):(Instr.fieldAt 23 (.pointer (some a)) 0).run Tryz.prog w = .ok (.pointer (some (a.add 0))) w:=by
 simp [Instr.fieldAt,Instr.sureAddr,fieldPlace,Sem.run_bind,Result.andThen,U_23,Z_2]
theorem Ag (a:Addr) (w:World):(Instr.fieldAt 23 (.pointer (some a)) 1).run Tryz.prog w = .ok (.pointer (some (a.add 1))) w:=by
 simp [Instr.fieldAt,Instr.sureAddr,fieldPlace,Sem.run_bind,Result.andThen,U_23,Z_2]
theorem rZ (a:Addr) (w:World):(Instr.fieldAt 23 (.pointer (some a)) 2).run Tryz.prog w = .ok (.pointer (some (a.add 2))) w:=by
 simp [Instr.fieldAt,Instr.sureAddr,fieldPlace,Sem.run_bind,Result.andThen,U_23,Z_2]
theorem jU:Tryz.prog.info? 32 = some Tryz.t32:=by kernel_rfl
theorem mC:Tryz.prog.underlying 54 = some (.slice 32):=by kernel_rfl
end
section
open Go Go.RowKit
theorem Ez {a:Int} {d:Nat} (hd:0 < d) (ha:(dg a.natAbs).length ≤ 8796093022208) (hd2:(dg d).length ≤ 8796093022208):bA Tryz.prog 192 [fP a,aI d] (qG (sN a d)):=by
 have h1:=Dd a hd; have h2:=De a hd
 obtain ⟨x,hx⟩:∃ x,x = Qi.mk' a 0 d:=⟨_,rfl⟩
 rw [sN,← hx]
 rw [← hx] at h1 h2
 have h3:=rU x.a.natAbs; have h4:=rU x.den
 have h5:(dg (0:Int).natAbs).length ≤ 0:=by rw [show (0:Int).natAbs = 0 from rfl,dM]; exact Nat.le_refl _
 refine bA.intro Tryz.func192 rfl Tryz.ntmps192 rfl (fun cx=>(ts (rn rfl (fK (Ht rfl)) fun B2=>(ro rfl (cQ (aM.cS (l:=[]) rfl)) (eX (ts (ro rfl (eJ A_30 Z_30 (Ht rfl) (i:=0) rfl rfl rfl) (ro rfl (aB.imp (Tc ) Gs) (rm rfl (ro rfl (aB.imp (cZ K_108 (qT (by first | assumption | omega) zo zo zo) ⟨(Ht rfl),(Ht rfl),(Ht rfl),trivial⟩) (fM hx.symm)) (rn rfl (eW (Ts:=[Is (.bool false),Is (.slice none 0 0),Is (.bool false),Is (.slice none 0 0),Is (.slice none 0 0)]) O_32 rfl (fun V=>aW zd (aW zd (aW zd (aW zd (aW zd (aG))))))) fun B5=>?_)))))))))))
 refine gZ Z_32 (Ht rfl) (Ht rfl) rfl (i:=1) rfl (aK rfl) rfl rfl (eX (ts (ro rfl (eZ eB (Ht rfl) rfl) (ro rfl (eZ cO (Ht rfl) rfl) (ro rfl (eY A_28 Z_28 (Ht rfl) (i:=1) rfl rfl) (ro rfl (cZ Tryz.call243 (Bz zo) ⟨(Ht rfl),trivial⟩) (ra rfl (eX (cK (jK (fun (uu:Unit)=>True) (fun (uu:Unit)=>[(5,cB B5 0),(6,qG (if x.a < 0 then 45 :: vR x.a.natAbs else vR x.a.natAbs))]) (fun (uu:Unit)=>[box B2 30 [aC (decide (a < 0)),aI (a).natAbs],box B5 32 [aC (decide ((x).a < 0)),aI (x).a.natAbs,aC (decide ((x).b < 0)),aI (x).b.natAbs,aI (du (x))]]) ?_ (fun uu _=>?_)))))))))))
 ·refine ts (ro rfl (eZ eB (Ht rfl) rfl) (ro rfl (eZ gP (Ht rfl) rfl) (ro rfl (eY A_4 Z_4 (Ht rfl) (i := 1) rfl rfl) (eX (dQ (Ht rfl) (fun hb => ?_) (fun hb => ?_))))))
  ·simp only [decide_eq_true_eq] at hb
   refine cY (rm rfl (ro rfl (qA (aM.cS (l:=[45]) rfl) (Ht rfl) (by first | omega | (simp; omega))) (ra rfl (eX (aS () trivial (aQ rfl (aZ rfl (mB (by rw [if_pos hb]; rfl)) aX)) (aU (aH rfl) (aU (aH rfl) aY)))))))
  ·simp only [decide_eq_false_iff_not] at hb
   refine cU (aS () trivial (aQ rfl (aZ rfl (mB (by rw [if_neg hb])) aX)) (aU (aH rfl) (aU (aH rfl) aY)))
 ·have h6 : (if x.a < 0 then 45 :: vR x.a.natAbs else vR x.a.natAbs).length ≤ (vR x.a.natAbs).length + 1 := by split <;> simp
  have h7:=Ov x
  refine cK (jK (fun (uu:Unit)=>True) (fun (uu:Unit)=>[(6,qG ((if x.a < 0 then 45 :: vR x.a.natAbs else vR x.a.natAbs) ++ (if x.den = 1 then [] else 47 :: vR x.den)))]) (fun (uu:Unit)=>[box B2 30 [aC (decide (a < 0)),aI (a).natAbs],box B5 32 [aC (decide ((x).a < 0)),aI (x).a.natAbs,aC (decide ((x).b < 0)),aI (x).b.natAbs,aI (du (x))]]) ?_ (fun uu _=>?_))
  ·refine ts (ro rfl (eZ mH (Ht rfl) rfl) (ro rfl (eY A_28 Z_28 (Ht rfl) (i := 1) rfl rfl) (ro rfl (dG U_28 (Ht rfl) aA) (ro rfl (gR (Ht rfl) (cJ 0)) (eX (dQ (Ht rfl) (fun hb => ?_) (fun hb => ?_)))))))
   ·simp only [decide_eq_true_eq] at hb
    have h8:du x = x.den:=rY (fun e=>by rw [e,dM] at hb; simp at hb)
    have h9:x.den ≠ 1:=fun e=>by rw [du,if_pos e,dM] at hb; simp at hb
    have h10:=rU (du x)
    refine cY (rm rfl (ro rfl (eZ mH (Ht rfl) rfl) (ro rfl (eY A_28 Z_28 (Ht rfl) (i:=1) rfl rfl) (ro rfl (cZ Tryz.call243 (Bz zo) ⟨(Ht rfl),trivial⟩) (ro rfl (qA (aM.cS (l:=[47]) rfl) (Ht rfl) (by simp only [List.length_cons,List.length_nil]; omega)) ?_)))))
    refine ro rfl (qA (Ht rfl) (Ht rfl) (by simp only [List.length_append,List.length_cons,List.length_nil]; omega)) ?_
    refine ra rfl (eX (aS () trivial (aZ rfl (mB (by rw [if_neg h9,h8]; rfl)) aX) (dO.refl _)))
   ·simp only [decide_eq_false_iff_not] at hb
    have h9:x.den = 1:=uR (aN.1 zo)
    refine cU (aS () trivial (aZ rfl (mB (by rw [if_pos h9,List.append_nil])) aX) (dO.refl _))
  ·refine ts (rm rfl (ra rfl (eX ?_)))
   exact fG rfl (eU rfl)
theorem a00 {x:Qi} {L:Nat} [hx:aE x L] (h:L ≤ 8796093022208):bA Tryz.prog 92 [aF x] (qG (txt x)):=by
 have hxa:=lM hx.fit; have hxb:=lN hx.fit; have hxd:=lO hx.fit; have hdp:=x.den_pos
 have l1:=Dm x.a hdp; have l2:=Dm x.b hdp
 refine bA.intro Tryz.func92 rfl Tryz.ntmps92 rfl (fun cx=>(ts (rn rfl (fK (Ht rfl)) fun B1=>(ro rfl (cQ (aM.cS (l:=[]) rfl)) (eX (cK (ts (ro rfl (eJ A_32 Z_32 (Ht rfl) (i:=0) rfl rfl rfl) (ro rfl (cZ Tryz.call35 vN ⟨(Ht rfl),trivial⟩) (eX (dQ (Ht rfl) (fun hb=>?_) (fun hb=>?_))))))))))))
 ·simp only [decide_eq_true_eq] at hb
  refine cK (fJ (m:=4) (dp 1 rfl (eZ eB (Ht rfl) rfl) (dq 6 0 rfl (eJ A_30 Z_30 (Ht rfl) (i:=0) rfl rfl rfl) (dp 1 rfl (eJ A_32 Z_32 (Ht rfl) (i:=0) rfl rfl rfl) (dq 8 2 rfl (cZ K_109 lP ⟨(Ht rfl),trivial⟩) (fW bC rfl (by kernel_rfl) (zF (aV (ro rfl (cZ Tryz.call192 (Ez (by assumption) zo zo) ⟨(Ht rfl),(Ht rfl),trivial⟩) ?_)))))))))
  refine ra rfl (eX (fG rfl (fZ (eU rfl) ?_)))
  exact (mB (by rw [txt,if_pos hb]))
 ·simp only [decide_eq_false_iff_not] at hb
  refine cU (cK (fJ (m:=4) (dp 1 rfl (eZ eT (Ht rfl) rfl) (dq 11 0 rfl (eJ A_30 Z_30 (Ht rfl) (i:=0) rfl rfl rfl) (dp 1 rfl (eJ A_32 Z_32 (Ht rfl) (i:=0) rfl rfl rfl) (dq 13 2 rfl (cZ K_109 lP ⟨(Ht rfl),trivial⟩) (fW bC rfl (by kernel_rfl) (zF (aV (ro rfl (cZ Tryz.call192 (Ez (by assumption) zo zo) ⟨(Ht rfl),(Ht rfl),trivial⟩) ?_))))))))))
  refine ro rfl (qA (Ht rfl) (aM.cS (l:=[105]) rfl) (by simp only [List.length_append,List.length_cons,List.length_nil]; omega)) ?_
  refine ra rfl (eX (cK (ts (ro rfl (eZ eB (Ht rfl) rfl) (ro rfl (eZ cO (Ht rfl) rfl) (ro rfl (eY A_28 Z_28 (Ht rfl) (i:=0) rfl rfl) (ro rfl (dG U_28 (Ht rfl) aA) (ro rfl (dI (Ht rfl) (cJ 0)) (eX (dQ (Ht rfl) (fun hc=>?_) (fun hc=>?_)))))))))))
  ·simp only [decide_eq_true_eq] at hc
   have ha:x.a = 0:=by have:=aN.1 hc; omega
   refine ts (rm rfl (ra rfl (eX (fG rfl (fZ (eU rfl) ?_)))))
   exact (mB (by rw [txt,if_neg hb,if_pos ha]))
  ·simp only [decide_eq_false_iff_not] at hc
   have ha:x.a ≠ 0:=fun e=>hc (by rw [e]; exact aN.2 rfl)
   refine cU (cK (jK (fun (uu:Unit)=>True) (fun (uu:Unit)=>[(1,cB B1 0),(3,qG ((if x.b < 0 then sN x.b x.den else 43 :: sN x.b x.den) ++ [105]))]) (fun (uu:Unit)=>[box B1 32 [aC (decide ((x).a < 0)),aI (x).a.natAbs,aC (decide ((x).b < 0)),aI (x).b.natAbs,aI (du (x))]]) ?_ (fun uu _=>?_)))
   ·refine ts (ro rfl (eZ eT (Ht rfl) rfl) (ro rfl (eZ gP (Ht rfl) rfl) (ro rfl (eY A_4 Z_4 (Ht rfl) (i := 0) rfl rfl) (ro rfl (dR (Ht rfl)) (eX (dQ (Ht rfl) (fun hd => ?_) (fun hd => ?_)))))))
    ·have hn : ¬ x.b < 0 := by simpa using hd
     refine cY (rm rfl (ro rfl (qA (aM.cS (l:=[43]) rfl) (Ht rfl) (by simp only [List.length_append,List.length_cons,List.length_nil]; omega)) ?_))
     refine ra rfl (eX (aS () trivial (aQ rfl (aZ rfl (mB (by rw [if_neg hn]; rfl)) aX)) (aU (aH rfl) aY)))
    ·have hn : x.b < 0 := by simpa using hd
     refine cU (aS () trivial (aQ rfl (aZ rfl (mB (by rw [if_pos hn])) aX)) (aU (aH rfl) aY))
   ·have l3 : ((if x.b < 0 then sN x.b x.den else 43 :: sN x.b x.den) ++ [105]).length ≤ (sN x.b x.den).length + 2 := by split <;> simp
    refine cK (fJ (m:=6) (dp 1 rfl (eZ eB (Ht rfl) rfl) (dq 29 0 rfl (eJ A_30 Z_30 (Ht rfl) (i:=0) rfl rfl rfl) (dp 1 rfl (eJ A_32 Z_32 (Ht rfl) (i:=0) rfl rfl rfl) (dq 31 2 rfl (cZ K_109 lP ⟨(Ht rfl),trivial⟩) (eA 30 1 32 3 rfl (cZ Tryz.call192 (Ez (by assumption) zo zo) ⟨(Ht rfl),(Ht rfl),trivial⟩) ?_))))))
    refine dp 3 rfl (cX (Ht rfl)) (fW bC rfl (by kernel_rfl) (zF (aJ (aJ (aV (ro rfl (qA (Ht rfl) (Ht rfl) zo) (ra rfl (eX (fG rfl (fZ (eU rfl) ?_))))))))))
    exact (mB (by rw [txt,if_neg hb,if_neg ha]))
theorem Hn {r:Rt}:bA Tryz.prog 14 [zK r] (aF r.q):=by
 have hr1:=r.h1; have hr2:=r.h2; have hr3:=r.h3; have hr4:=r.h4; have hr5:=r.d1; have hr6:=r.d2; have hr0:=r.d0
 refine bA.intro Tryz.func14 rfl Tryz.ntmps14 rfl (fun cx=>(ts (rn rfl (fK (Ht rfl)) fun B1=>(rn rfl (eW (Ts:=[Is (.bool false),Is (.slice none 0 0),Is (.bool false),Is (.slice none 0 0),Is (.slice none 0 0)]) O_32 rfl (fun V=>aW zd (aW zd (aW zd (aW zd (aW zd (aG))))))) fun B2=>(eX (cK (jK (fun (uu:Unit)=>True) (fun (uu:Unit)=>[(1,cB B1 0),(2,cB B2 0)]) (fun (uu:Unit)=>[box B1 23 [aD .i64 r.re,aD .i64 r.im,aD .i64 r.d],box B2 32 [Is (.bool false),Is (.slice none 0 0),Is (.bool false),Is (.slice none 0 0),Is (.slice none 0 0)]]) ?_ (fun uu _=>?_))))))))
 ·refine ts (ro rfl (eZ rZ (Ht rfl) rfl) (ro rfl (eY A_2 Z_2 (Ht rfl) (i := 0) rfl rfl) (ro rfl (kX (Ht rfl) cV) (eX (dQ (Ht rfl) (fun hb => ?_) (fun hb => ?_))))))
  ·simp only [decide_eq_true_eq] at hb
   refine cY (ro rfl (eZ rZ (Ht rfl) rfl) (nA Z_2 (Ht rfl) (cJ 1) (i:=0) rfl (aK rfl) rfl (eX (aS () trivial (zS rfl) (aU (aH (by rw [Rt.d,if_pos hb]; rfl)) (aU (aH rfl) aY))))))
  ·simp only [decide_eq_false_iff_not] at hb
   refine cU (aS () trivial (zS rfl) (aU (aH (by rw [Rt.d,if_neg hb])) (aU (aH rfl) aY)))
 ·refine ts (ro rfl (eZ Af (Ht rfl) rfl) (ro rfl (eY A_2 Z_2 (Ht rfl) (i := 0) rfl rfl) (ro rfl (eZ Ag (Ht rfl) rfl) (ro rfl (eY A_2 Z_2 (Ht rfl) (i := 0) rfl rfl) (ro rfl (eZ rZ (Ht rfl) rfl) (ro rfl (eY A_2 Z_2 (Ht rfl) (i := 0) rfl rfl) (ro rfl (cZ Tryz.call81 (a1t hr1 hr2 hr3 hr4 hr5 hr6 hr0) ⟨(Ht rfl), (Ht rfl), (Ht rfl), trivial⟩) (rm rfl (ro rfl (dK (Ht rfl) rfl) (ro rfl (dK (Ht rfl) rfl) (rn rfl (eW (Ts := [Is (.bool false), Is (.slice none 0 0), Is (.bool false), Is (.slice none 0 0), Is (.slice none 0 0)]) O_32 rfl (fun V => aW zd (aW zd (aW zd (aW zd (aW zd (aG))))))) fun B3 => ?_)))))))))))
  refine gZ Z_32 (Ht rfl) (Ht rfl) rfl (i:=2) rfl (aK rfl) rfl rfl (ra rfl (eX (ts (ro rfl (eJ A_32 Z_32 (Ht rfl) (i:=2) rfl rfl rfl) (gZ Z_32 (Ht rfl) (Ht rfl) rfl (i:=1) rfl (aK rfl) rfl rfl (eX ?_))))))
  exact fG rfl (fU A_32 Z_32 rfl (i:=1) rfl rfl)
end
section
open Go Go.RowKit
theorem mF {n : Nat} {E : bR} {H : Hp} {d : Option Tmp} {t : TypeId} {pos : String} {af : Array Edge} {g : Option (Nat × Bool)}  :
  aB Tryz.prog n E H ⟨d,.build 32 #[],t,pos,af,g⟩ (dL [Is (.bool false),Is (.slice none 0 0),Is (.bool false),Is (.slice none 0 0),Is (.slice none 0 0)]) :=
 gA (parts := []) fun a V w hs => by
  refine ⟨.agg #[(.bool false),(.slice none 0 0),(.bool false),(.slice none 0 0),(.slice none 0 0)],?_,[(.bool false),(.slice none 0 0),(.bool false),(.slice none 0 0),(.slice none 0 0)],rfl,aW (⟨rfl,trivial⟩) (aW (⟨rfl,trivial⟩) (aW (⟨rfl,trivial⟩) (aW (⟨rfl,trivial⟩) (aW (⟨rfl,trivial⟩) (aG)))))⟩
  simp [Instr.build,Instr.fill,Sem.run_bind,Result.andThen,eI,O_32,U_32,Z_28,Z_30]
end
section
open Go Go.RowKit
theorem Bv {x y:Qi} {L M:Nat} [hx:aE x L] [hy:aE y M] (h:L + 3 * M + 2 ≤ 17592186044415):bA Tryz.prog 142 [aF x,aF y] (fE [aF (x / y),aD .i64 (if y = Qi.zero then 3 else 0)]):=by
 have hxa:=lM hx.fit; have hxb:=lN hx.fit; have hxd:=lO hx.fit
 have hya:=lM hy.fit; have hyb:=lN hy.fit; have hyd:=lO hy.fit
 have hxp:=x.den_pos; have hyp:=y.den_pos; have hMp:=hy.pos
 refine bA.intro Tryz.func142 rfl Tryz.ntmps142 rfl (fun cx=>(ts (rn rfl (fK (Ht rfl)) fun B2=>(rn rfl (fK (Ht rfl)) fun B3=>(rn rfl (eW (Ts:=[Is (.bool false),Is (.slice none 0 0),Is (.bool false),Is (.slice none 0 0),Is (.slice none 0 0)]) O_32 rfl (fun V=>aW zd (aW zd (aW zd (aW zd (aW zd (aG))))))) fun B4=>(ro rfl (cQ (cJ 0)) (eX (cK (ts (ro rfl (eJ A_32 Z_32 (Ht rfl) (i:=1) rfl rfl rfl) ?_))))))))))
 refine ro rfl (cZ Tryz.call34 (Tg zo) ⟨(Ht rfl),trivial⟩) (ro rfl (dR (Ht rfl)) (eX (dQ (Ht rfl) (fun hb=>?_) (fun hb=>?_))))
 ·have h0 : y = Qi.zero := by simpa using hb
  refine ts (ro rfl (aB.imp (mF ) iA) (gZ Z_32 (Ht rfl) (Ht rfl) rfl (i:=2) rfl (aK rfl) rfl rfl (ro rfl (cQ (cJ 3)) (eX (bE rfl (fZ (fU A_32 Z_32 rfl (i:=2) rfl rfl) ?_) (fZ (eU rfl) ?_))))))
  ·exact (fM (by rw [h0,Qi.div_zero]))
  ·exact (aP (by rw [if_pos h0]; rfl))
 ·have h0 : y ≠ Qi.zero := by simpa using hb
  have g1:=lJ y.a y.a; have g2:=lJ y.b y.b; have g3:=vV y.b
  have g4:=lI (x:=y.a * y.a) (y:=y.b * y.b) (L:=M + M) zo zo
  obtain ⟨c,hc⟩:∃ c,c = Qi.mk' y.a (-y.b) 1:=⟨_,rfl⟩
  obtain ⟨z,hz⟩:∃ z,z = x * c:=⟨_,rfl⟩
  have l1:(dg 1).length ≤ 1:=by rw [Ok (by decide) (by decide)]; exact Nat.le_refl _
  haveI fc:aE c M:=hc ▸ ⟨Qi.Fit.mk (by decide) hy.fit.1 (by rw [Int.natAbs_neg]; exact hy.fit.2.1) (Qi.one_lt hMp)⟩
  haveI fz:aE z (L + M + 1):=hz ▸ fitMul
  have hza:=lM fz.fit; have hzb:=lN fz.fit; have hzd:=lO fz.fit
  have hnp:=Qi.nrm_int_pos h0
  have hm:(((y.a * y.a + y.b * y.b).natAbs:Nat):Int) = y.a * y.a + y.b * y.b:=Int.natAbs_of_nonneg zo
  have hdp2:=Nat.mul_pos z.den_pos (show 0 < (y.a * y.a + y.b * y.b).natAbs by omega)
  have e1:=eL z.a y.den; have e2:=eL z.b y.den; have e3:=vT z.den (y.a * y.a + y.b * y.b).natAbs
  refine cU (cK (fJ (m:=12) (dp 3 rfl (eZ eB (Ht rfl) rfl) (dq 12 0 rfl (eJ A_30 Z_30 (Ht rfl) (i:=1) rfl rfl rfl) (dp 3 rfl (eZ eB (Ht rfl) rfl) (dq 14 2 rfl (eJ A_30 Z_30 (Ht rfl) (i:=1) rfl rfl rfl) (eA 13 1 15 3 rfl (cZ K_105 (pP zo zo) ⟨(Ht rfl),(Ht rfl),trivial⟩) (dp 3 rfl (eZ eT (Ht rfl) rfl) (dq 17 5 rfl (eJ A_30 Z_30 (Ht rfl) (i:=1) rfl rfl rfl) (dp 3 rfl (eZ eT (Ht rfl) rfl) (dq 19 7 rfl (eJ A_30 Z_30 (Ht rfl) (i:=1) rfl rfl rfl) ?_)))))))))))
  refine eA 18 6 20 8 rfl (cZ K_105 (pP zo zo) ⟨(Ht rfl),(Ht rfl),trivial⟩) (eA 16 4 21 9 rfl (cZ K_106 (tA zo zo) ⟨(Ht rfl),(Ht rfl),trivial⟩) (C.D_new (Ei:=[]) rfl rfl rfl bW (eW (Ts:=[Is (.bool false),Is (.slice none 0 0)]) O_30 rfl (fun V=>aW zd (aW zd (aG)))) (fW bC rfl (by kernel_rfl) (zF (zF (aJ (aJ (aJ (C.F_new (fun B6=>aV (gZ Z_30 (Ht rfl) (Ht rfl) rfl (i:=3) rfl (aK rfl) rfl rfl ?_)))))))))))
  refine eX (cK (fJ (m:=10) (dp 2 rfl (eJ A_32 Z_32 (Ht rfl) (i:=0) rfl rfl rfl) (dp 3 rfl (eZ eB (Ht rfl) rfl) (dq 24 1 rfl (eJ A_30 Z_30 (Ht rfl) (i:=1) rfl rfl rfl) (dp 3 rfl (eZ eT (Ht rfl) rfl) (dq 26 3 rfl (eJ A_30 Z_30 (Ht rfl) (i:=1) rfl rfl rfl) (dq 27 4 rfl (cZ K_107 mG ⟨(Ht rfl),trivial⟩) (d0 rfl (aB.imp (cL (xs:=[_]) U_28 Z_24 O_24 (cW (cJ 1) cG) rfl rfl rfl) wS) (C.D_step (Ei:=[(25,_),(28,_),(29,_)]) rfl rfl (bV (bG 2 rfl rfl) (bV (bG 5 rfl rfl) (bV (bG 6 rfl rfl) bW))) (dX rfl (aB.imp (cZ K_108 (qT (by first | assumption | omega) zo zo zo) ⟨(Ht rfl),(Ht rfl),(Ht rfl),trivial⟩) (fM hc.symm))) ?_))))))))))
  refine eA 23 0 30 7 rfl (aB.imp (cZ K_29 (iP zo) ⟨(Ht rfl),(Ht rfl),trivial⟩) (fM hz.symm)) (C.D_new (Ei:=[]) rfl rfl rfl bW (eW (Ts:=[Is (.bool false),Is (.slice none 0 0),Is (.bool false),Is (.slice none 0 0),Is (.slice none 0 0)]) O_32 rfl (fun V=>aW zd (aW zd (aW zd (aW zd (aW zd (aG))))))) (fW bC rfl (by kernel_rfl) (zF (zF (aJ (C.F_new (fun B7=>aV ?_)))))))
  refine gZ Z_32 (Ht rfl) (Ht rfl) rfl (i:=4) rfl (aK rfl) rfl rfl (eX (cK (fJ (m:=14) (dp 7 rfl (eZ eB (Ht rfl) rfl) (dq 32 0 rfl (eJ A_30 Z_30 (Ht rfl) (i:=4) rfl rfl rfl) (dp 3 rfl (eJ A_32 Z_32 (Ht rfl) (i:=1) rfl rfl rfl) (dq 34 2 rfl (cZ K_109 lP ⟨(Ht rfl),trivial⟩) (eA 33 1 35 3 rfl (cZ K_111 (jC zo zo) ⟨(Ht rfl),(Ht rfl),trivial⟩) (dp 7 rfl (eZ eT (Ht rfl) rfl) (dq 37 5 rfl (eJ A_30 Z_30 (Ht rfl) (i:=4) rfl rfl rfl) ?_))))))))))
  refine dp 3 rfl (eJ A_32 Z_32 (Ht rfl) (i:=1) rfl rfl rfl) (dq 39 7 rfl (cZ K_109 lP ⟨(Ht rfl),trivial⟩) (eA 38 6 40 8 rfl (cZ K_111 (jC zo zo) ⟨(Ht rfl),(Ht rfl),trivial⟩) (dp 7 rfl (eJ A_32 Z_32 (Ht rfl) (i:=4) rfl rfl rfl) (dq 42 10 rfl (cZ K_109 lP ⟨(Ht rfl),trivial⟩) (dp 6 rfl (eZ cO (Ht rfl) rfl) (dq 44 12 rfl (eY A_28 Z_28 (Ht rfl) (i:=3) rfl rfl) (fW bC rfl (by kernel_rfl) (zF (zF (zF (aJ (aJ (aV ?_)))))))))))))
  refine ro rfl (cZ Tryz.call110 (Cb zo zo) ⟨(Ht rfl),(Ht rfl),trivial⟩) (ro rfl (cZ K_108 (qT (by first | assumption | omega) zo zo zo) ⟨(Ht rfl),(Ht rfl),(Ht rfl),trivial⟩) (gZ Z_32 (Ht rfl) (Ht rfl) rfl (i:=2) rfl (aK rfl) rfl rfl (ro rfl (cQ (cJ 0)) (eX (bE rfl (fZ (fU A_32 Z_32 rfl (i:=2) rfl rfl) ?_) (fZ (eU rfl) ?_))))))
  ·exact (fM (Qi.mk_divP x h0 (hc ▸ hz) hm))
  ·exact (aP (by rw [if_neg h0]; rfl))
end
section
open Go Go.RowKit
theorem lB:Tryz.prog.info? 54 = some Tryz.t54:=by kernel_rfl
end
section
open Go Go.RowKit
theorem Eu {γ:Type} {l:List γ} {T:γ → Ty} {p:γ → Bool} [sh:∀ x,cM (T x) 5 true] (hl:l.length ≤ 1000000):bA Tryz.prog 284 [jY 5 (l.map T),Gt Tryz.prog γ (fun x=>[T x]) (fun x=>aC (p x))] (aD .i64 (xS p l)):=by
 refine bA.intro Tryz.func284 rfl Tryz.ntmps284 rfl (fun cx=>(ts (ro rfl (cQ (cJ 0)) (eX (cK (ts (rm rfl (ro rfl (dG U_54 (Ht rfl) aA) (ro rfl (cX (cJ 0)) (eX (eG ?_)))))))))))
 refine dC (fun (k : Nat) => k ≤ l.length ∧ ∀ (i : Nat) (x : γ), i < k → l[i]? = some x → p x = false) (fun (k : Nat) => l.length - k) (fun (k : Nat) => [(0, jY 5 (l.map T)), (1, Gt Tryz.prog γ (fun x => [T x]) (fun x => aC (p x))), (7, NT .i64 l.length), (8, NT .i64 k)]) (fun (k : Nat) => []) 0 ⟨Nat.zero_le _, fun i x h => by omega⟩
  (zS rfl) aY (fun k ⟨hk,hn⟩=>?_)
 refine ts (ro rfl (gJ (Ht rfl) (Ht rfl)) (eX (cK (dQ (Ht rfl) (fun hb=>?_) (fun hb=>?_)))))
 ·simp only [decide_eq_true_eq] at hb
  refine cU (cK (eG (ts (rm rfl (ra rfl (eX (ts (rm rfl (rm rfl (rm rfl (ro rfl (dZ U_54 Z_32 (Ht rfl) (Ht rfl) rfl (dY (uJ hb))) (ro rfl (dJ A_32 Z_32 (Ht rfl)) (ro rfl (wT (l[k]) (Ht rfl) ⟨(Ht rfl),trivial⟩) (eX (dQ (Ht rfl) (fun hc=>?_) (fun hc=>?_))))))))))))))))
  ·have hp : p l[k] = true := hc
   refine ts (rm rfl (ra rfl (eX (fG rfl (fZ (eU rfl) ?_)))))
   exact (aP (Al (uJ hb) hp hn).symm)
  ·have hp : p l[k] = false := hc
   refine cU (cD (cY (ro rfl (dV (Ht rfl) (cJ 1) z6) (rm rfl (eX ?_)))))
   refine gQ (k + 1) ⟨hb, fun i x h1 h2 => by
    by_cases e:i = k
    ·subst e; rw [uJ hb] at h2; obtain rfl:=Option.some.inj h2; exact hp
    ·exact hn i x zo h2⟩ zo (zS rfl) aY
 ·simp only [decide_eq_false_iff_not] at hb
  refine gG rfl (ts (ro rfl (cQ cV) (eX (fG rfl (fZ (eU rfl) ?_)))))
  exact (aP (tH (fun i x h=>hn i x (by have:=(List.getElem?_eq_some_iff.1 h).1; omega) h)).symm)
theorem xP {γ:Type} {l:List γ} {T:γ → Ty} {p:γ → Bool} [sh:∀ x,cM (T x) 5 true] (hl:l.length ≤ 1000000):bA Tryz.prog 245 [jY 5 (l.map T),Gt Tryz.prog γ (fun x=>[T x]) (fun x=>aC (p x))] (aC (l.any p)):=by
 refine bA.intro Tryz.func245 rfl Tryz.ntmps245 rfl (fun cx=>(ts (ro rfl (cQ cV) (eX (ts (rm rfl (rm rfl (ro rfl (cZ Tryz.call284 (Eu zo) ⟨(Ht rfl),(Ht rfl),trivial⟩) (ro rfl (mU (Ht rfl) cV) (ra rfl (eX (fG rfl (fZ (eU rfl) ?_)))))))))))))
 exact (gD (wD p l))
theorem Ev {γ:Type} {l:List γ} {T:γ → Ty} {p:γ → Bool} [sh:∀ x,cM (T x) 1 false] (hl:l.length ≤ 1000000):bA Tryz.prog 208 [jY 1 (l.map T),Gt Tryz.prog γ (fun x=>[T x]) (fun x=>aC (p x))] (aD .i64 (xS p l)):=by
 refine bA.intro Tryz.func208 rfl Tryz.ntmps208 rfl (fun cx=>(ts (ro rfl (cQ (cJ 0)) (eX (cK (ts (rm rfl (ro rfl (dG U_78 (Ht rfl) aA) (ro rfl (cX (cJ 0)) (eX (eG ?_)))))))))))
 refine dC (fun (k : Nat) => k ≤ l.length ∧ ∀ (i : Nat) (x : γ), i < k → l[i]? = some x → p x = false) (fun (k : Nat) => l.length - k) (fun (k : Nat) => [(0, jY 1 (l.map T)), (1, Gt Tryz.prog γ (fun x => [T x]) (fun x => aC (p x))), (7, NT .i64 l.length), (8, NT .i64 k)]) (fun (k : Nat) => []) 0 ⟨Nat.zero_le _, fun i x h => by omega⟩
  (zS rfl) aY (fun k ⟨hk,hn⟩=>?_)
 refine ts (ro rfl (gJ (Ht rfl) (Ht rfl)) (eX (cK (dQ (Ht rfl) (fun hb=>?_) (fun hb=>?_)))))
 ·simp only [decide_eq_true_eq] at hb
  refine cU (cK (eG (ts (rm rfl (ra rfl (eX (ts (rm rfl (rm rfl (rm rfl (ro rfl (dZ U_78 Z_54 (Ht rfl) (Ht rfl) rfl (dY (uJ hb))) (ro rfl (dJ A_54 Z_54 (Ht rfl)) (ro rfl (wT (l[k]) (Ht rfl) ⟨(Ht rfl),trivial⟩) (eX (dQ (Ht rfl) (fun hc=>?_) (fun hc=>?_))))))))))))))))
  ·have hp : p l[k] = true := hc
   refine ts (rm rfl (ra rfl (eX (fG rfl (fZ (eU rfl) ?_)))))
   exact (aP (Al (uJ hb) hp hn).symm)
  ·have hp : p l[k] = false := hc
   refine cU (cD (cY (ro rfl (dV (Ht rfl) (cJ 1) z6) (rm rfl (eX ?_)))))
   refine gQ (k + 1) ⟨hb, fun i x h1 h2 => by
    by_cases e:i = k
    ·subst e; rw [uJ hb] at h2; obtain rfl:=Option.some.inj h2; exact hp
    ·exact hn i x zo h2⟩ zo (zS rfl) aY
 ·simp only [decide_eq_false_iff_not] at hb
  refine gG rfl (ts (ro rfl (cQ cV) (eX (fG rfl (fZ (eU rfl) ?_)))))
  exact (aP (tH (fun i x h=>hn i x (by have:=(List.getElem?_eq_some_iff.1 h).1; omega) h)).symm)
theorem qH {γ:Type} {l:List γ} {T:γ → Ty} {p:γ → Bool} [sh:∀ x,cM (T x) 1 false] (hl:l.length ≤ 1000000):bA Tryz.prog 118 [jY 1 (l.map T),Gt Tryz.prog γ (fun x=>[T x]) (fun x=>aC (p x))] (aC (l.any p)):=by
 refine bA.intro Tryz.func118 rfl Tryz.ntmps118 rfl (fun cx=>(ts (ro rfl (cQ cV) (eX (ts (rm rfl (rm rfl (ro rfl (cZ Tryz.call208 (Ev zo) ⟨(Ht rfl),(Ht rfl),trivial⟩) (ro rfl (mU (Ht rfl) cV) (ra rfl (eX (fG rfl (fZ (eU rfl) ?_)))))))))))))
 exact (gD (wD p l))
theorem Fa {x:Qi} {L:Nat} [hx:aE x L] (h:L ≤ 8796093022208):bA Tryz.prog 136 [aF x] (aC (kH x)):=by
 haveI hz:aE Qi.zero 1:=aE.zero (Nat.le_refl 1)
 refine bA.intro Tryz.func136 rfl Tryz.ntmps136 rfl (fun cx=>(ts (rn rfl (fK (Ht rfl)) fun B1=>(ro rfl (cQ cV) (eX (ts (ro rfl (eJ A_32 Z_32 (Ht rfl) (i:=0) rfl rfl rfl) (ro rfl (cZ Tryz.call35 vN ⟨(Ht rfl),trivial⟩) (rm rfl (fQ rfl rfl (eK rfl rfl (Ht rfl) (fun h=>eJ A_32 Z_32 (Ht rfl) (i:=0) rfl rfl rfl)) (fQ rfl rfl (eK rfl rfl (Ht rfl) (fun h=>aB.imp (mF ) iA)) (fQ rfl rfl (eK rfl rfl (Ht rfl) (fun h=>cZ K_30 (tV zo) ⟨(fV rfl h),(fV rfl h),trivial⟩)) ?_))))))))))))
 refine fQ rfl rfl (eK rfl rfl (Ht rfl) (fun h=>lV (fV rfl h) cV)) (ro rfl (fT (Ht rfl) (fun h=>(fV rfl h))) (ra rfl (eX (fG rfl (fZ (eU rfl) ?_)))))
 exact (gD (Fx x))
theorem zX {x:Qi} {L:Nat} [hx:aE x L] (h:L ≤ 8796093022208):bA Tryz.prog 246 [aF x] (aC (!kH x)):=by
 refine bA.intro Tryz.func246 rfl Tryz.ntmps246 rfl (fun cx=>(ts (rn rfl (fK (Ht rfl)) fun B1=>(ro rfl (cQ cV) (eX (ts (ro rfl (eJ A_32 Z_32 (Ht rfl) (i:=0) rfl rfl rfl) (ro rfl (cZ Tryz.call136 (Fa zo) ⟨(Ht rfl),trivial⟩) (ro rfl (dR (Ht rfl)) (ra rfl (eX ?_)))))))))))
 exact fG rfl (eU rfl)
theorem Cf {z:List Qi} {L:Nat} (hz:fH z L) (h:L ≤ 8796093022208) (hl:z.length ≤ 1000):bA Tryz.prog 194 [cC z] (aD .i64 (if z.all kH then 0 else 1)):=by
 obtain ⟨l,hzl⟩:∃ l:List {x:Qi // aE x L},z = l.map Subtype.val:=⟨z.attach.map fun x=>⟨x.1,hz x.1 x.2⟩,by simp⟩
 subst hzl
 have hll:l.length ≤ 1000:=by simpa using hl
 refine bA.intro Tryz.func194 rfl Tryz.ntmps194 rfl (fun cx=>(rP (E':=[(0,_)]) (aZ rfl (rH (Us:=l.map fun x=>aF x.1) (by simp [List.map_map,Function.comp_def])) aX) ?_))
 refine ts (ro rfl (cQ (cJ 0)) (eX (cK (ts (rm rfl (ro rfl (cZ Tryz.call245 (xP (l:=l) (T:=fun x=>aF x.1) (p:=fun x=>!kH x.1) zo) ⟨(Ht rfl),(aM.fn Tryz.call246 (γ:={x:Qi // aE x L}) (Ts:=fun x=>[aF x.1]) (U:=fun x=>aC (!kH x.1)) (fun x=>haveI:=x.2; zX h)),trivial⟩) (eX (dQ (Ht rfl) (fun hb=>?_) (fun hb=>?_)))))))))
 ·have hn : ¬ (l.map Subtype.val).all kH = true := by simp at hb ⊢; exact hb
  refine ts (ro rfl (cQ (cJ 1)) (eX (fG rfl (fZ (eU rfl) ?_))))
  exact (aP (by rw [if_neg hn]; rfl))
 ·have hn : (l.map Subtype.val).all kH = true := by simp at hb ⊢; exact hb
  refine cU (ts (ro rfl (cQ (cJ 0)) (eX (fG rfl (fZ (eU rfl) ?_)))))
  exact (aP (by rw [if_pos hn]; rfl))
theorem Nd {l:List Qi} (hl:l.length ≤ 1000):gO Tryz.prog 120 [cC l] [] (Value) (fun v=>Is v) (fun v=>[bH 32 5 v (l.map aF)]) (fun _=>True):=by
 refine gO.intro Tryz.func120 rfl Tryz.ntmps120 rfl (fun cx Z=>(ts (ro rfl (cQ cV) (eX (cK (ts (rm rfl (ro rfl (Ql U_54 (Ht rfl)) (eX (Tb (Ht rfl) (fun hb=>?_) (fun hb=>?_)))))))))))
 ·have hT : l.map aF = [] := hb rfl
  refine ts (ro rfl (cQ cV) (eX (yK 32 5 ?_)))
  exact kF (.slice none 0 0) trivial [0,1] ⟨⟨_,rfl,fun _ _ _ h=>h⟩,⟨_,rfl,(bN hT.symm)⟩,trivial⟩ (by decide) (wZ rfl (eU rfl))
 ·refine cU (ts (rn rfl (Dg U_54 Z_32 O_32) fun B5 => (rm rfl (Kc (inf := Tryz.t32) mC jU rfl rfl rfl (Ht rfl) (Ht rfl) (i := 1) rfl (fun T hT => by obtain ⟨x, _, rfl⟩ := List.mem_map.1 hT; exact El.ag rfl) (by show _ * 88 ≤ _; simp only [List.length_map, List.length_nil]; omega) (by simp only [List.length_map, List.length_nil]; omega) rfl (fun v2 => ?_)))))
  refine ra rfl (eX ?_)
  exact kF v2 trivial [0,1] ⟨⟨_,rfl,fun _ _ _ h=>h⟩,⟨_,rfl,fun _ _ _ h=>h⟩,trivial⟩ (by decide) (wZ rfl (eU rfl))
theorem He {l:List Qi} (hl:l.length ≤ 1000):bA Tryz.prog 120 [cC l] (cC l):=(Nd hl).fun fun v _=>jT
theorem Hk {n:Nat} {f:Nat → Nat → Qi} (hn:n ≤ 1000):gO Tryz.prog 144 [NT .i64 n,Gt Tryz.prog (Fin n × Fin n) (fun x=>[NT .i64 x.1.1,NT .i64 x.2.1]) (fun x=>aF (f x.1.1 x.2.1))] [] (Nat) (fun B=>Is (.slice (some ⟨B,0,none⟩) n n)) (fun B=>[pD B 54 32 5 (dA aF (tab n fun i=>tab n (f i)))]) (fun _=>True):=by
 refine gO.intro Tryz.func144 rfl Tryz.ntmps144 rfl (fun cx Z=>(ts (ro rfl (cQ cV) (eX (ts (rm rfl (rn rfl (fS (T:=Is (.slice none 0 0)) (i:=Tryz.t54) V_78 lB rfl rfl (Ht rfl) rfl (fun _=>rfl) trivial (by show 24 * _ ≤ _; omega) zo) fun B9=>(ra rfl (eX (cK (ts (rm rfl (ro rfl (iY U_78 (Ht rfl)) (ro rfl (cX (cJ 0)) (eX (eG (oM 1 rfl (sG (e:=32) (s:=5)) ?_)))))))))))))))))
 refine iW (fun (k : Nat) (m : List (List Qi)) => mZ (fun i => tab n (f i)) n m k) (fun (k : Nat) (m : List (List Qi)) => n - k) (fun (k : Nat) (m : List (List Qi)) => [(0, NT .i64 n), (1, Gt Tryz.prog (Fin n × Fin n) (fun x => [NT .i64 x.1.1, NT .i64 x.2.1]) (fun x => aF (f x.1.1 x.2.1))), (5, Is (.slice (some ⟨B9, 0, none⟩) n n)), (11, NT .i64 n), (12, NT .i64 k)]) (fun (k : Nat) (m : List (List Qi)) => [Z, pD B9 54 32 5 (dA aF m)]) 0 (List.replicate n []) (mZ.start _ _ _)
  (zS rfl) (aU (fun _ _ _ h=>h) (aU (cI (lY aF n)) aY)) (fun k m hS=>?_)
 refine ts (ro rfl (gJ (Ht rfl) (Ht rfl)) (eX (cK (dQ (Ht rfl) (fun hk=>?_) (fun hk=>?_)))))
 ·simp only [decide_eq_true_eq] at hk
  have hlen:=hS.len
  refine nR 1 (k) rfl (Pd (m:=m) (i:=k) zo) (fun v=>(cU (cK (eG (ts (rm rfl (ra rfl (eX (ts (rm rfl (rm rfl (rm rfl (rn rfl (nF (T:=aF Qi.zero) (i:=Tryz.t32) mC jU rfl rfl (Ht rfl) rfl jL (El.ag rfl) (by show 88 * _ ≤ _; omega) zo) fun B18=>(ro rfl (gX U_78 Z_54 (Ht rfl) (Ht rfl) rfl zo (by rw [Nat.mul_one,Nat.zero_add])) ?_))))))))))))))
  refine vH Z_54 (Ht rfl) (Ht rfl) (by simp; omega) (j:=1) (l:=3) rfl rfl rfl ?_
  refine eX (cK (dB [0,1,3] rfl (by decide) (cY (rm rfl (rm rfl (ro rfl (gX U_78 Z_54 (Ht rfl) (Ht rfl) rfl zo (by rw [Nat.mul_one,Nat.zero_add])) ?_))))))
  refine ro rfl (jM A_54 Z_54 (Ht rfl) (j:=1) rfl) (ro rfl (mP U_54 (Ht rfl) (i:=2) rfl (show ((List.replicate n (aF Qi.zero)).length:Int) = ((n:Nat):Int) by simp)) (ro rfl (cX (cJ 0)) (eX (eG ?_))))
  refine iW (fun (j : Nat) (out : List Qi) => mZ (f k) n out j) (fun (j : Nat) (out : List Qi) => n - j) (fun (j : Nat) (out : List Qi) => [(0, NT .i64 n), (1, Gt Tryz.prog (Fin n × Fin n) (fun x => [NT .i64 x.1.1, NT .i64 x.2.1]) (fun x => aF (f x.1.1 x.2.1))), (5, Is (.slice (some ⟨B9, 0, none⟩) n n)), (6, NT .i64 k), (11, NT .i64 n), (12, NT .i64 k), (24, NT .i64 n), (25, NT .i64 j)]) (fun (j : Nat) (out : List Qi) => [Z, Dc B9 54 32 5 (dA aF m) k B18, bH 32 5 B18 (out.map aF)]) 0 (List.replicate n Qi.zero) (mZ.start _ _ _)
   (zS rfl) (aU (fun _ _ _ h=>h) (aU (fun _ _ _ h=>h) (aU (bN (wX aF _ _)) aY))) (fun j out hT=>?_)
  refine ts (ro rfl (gJ (Ht rfl) (Ht rfl)) (eX (cK (dQ (Ht rfl) (fun hj=>?_) (fun hj=>?_)))))
  ·simp only [decide_eq_true_eq] at hj
   have hlen2:=hT.len
   refine cU (cK (eG (ts (rm rfl (ra rfl (eX (fJ (m:=9) (dp 5 rfl (cX (Ht rfl)) (dp 6 rfl (cX (Ht rfl)) (eA 28 0 29 1 rfl (gX U_78 Z_54 (Ht rfl) (Ht rfl) rfl zo (by rw [Nat.mul_one,Nat.zero_add])) ?_))))))))))
   refine dq 30 2 rfl (jM A_54 Z_54 (Ht rfl) (j:=1) rfl) (dp 7 rfl (cX (Ht rfl)) (dp 1 rfl (cX (Ht rfl)) (dp 6 rfl (cX (Ht rfl)) (dp 7 rfl (cX (Ht rfl)) (C.D_step (Ei:=[(33,_),(34,_),(35,_)]) rfl rfl (bV (bG 5 rfl rfl) (bV (bG 6 rfl rfl) (bV (bG 7 rfl rfl) bW))) (dX rfl (wT ((⟨k,hk⟩,⟨j,hj⟩):Fin n × Fin n) (Ht rfl) ⟨(Ht rfl),(Ht rfl),trivial⟩)) (fW bC rfl (by kernel_rfl) (zF (zF (aJ (aV ?_))))))))))
   refine ro rfl (fA U_54 Z_32 (Ht rfl) (Ht rfl) rfl (i:=2) rfl (by first | omega | (simp; omega)) rfl) (oH Z_32 (Ht rfl) (Ht rfl) (El.ag rfl) (i:=2) rfl rfl (by first | omega | (simp; omega)) rfl (eX (cD (cY (ro rfl (dV (Ht rfl) (cJ 1) z6) (rm rfl (eX (gQ (j + 1,_) (hT.next hj rfl) (by dsimp only; omega) (zS rfl) (aU (fun _ _ _ h=>h) (aU (fun _ _ _ h=>h) (aU (bN (iH aF _ _ _)) aY)))))))))))
  ·simp only [decide_eq_false_iff_not] at hj
   obtain rfl:j = n:=Nat.le_antisymm hT.kle zo
   have hfin:=hT.fin
   refine gG rfl (cD (gF 1 2 rfl rfl (by decide) (by simp; omega) ?_))
   refine cY (ro rfl (dV (Ht rfl) (cJ 1) z6) (rm rfl (eX (dB [0,1] rfl (by decide) (gQ (k + 1,_) (hS.next hk hfin) (by dsimp only; omega) (zS rfl) (aU (fun _ _ _ h=>h) (aU (cI (iG aF _ _ _)) aY)))))))
 ·simp only [decide_eq_false_iff_not] at hk
  obtain rfl:k = n:=Nat.le_antisymm hS.kle zo
  have hfin:=hS.fin
  refine gG rfl (ts (rm rfl (ra rfl (eX ?_))))
  exact kF B9 trivial [0,1] ⟨⟨_,rfl,fun _ _ _ h=>h⟩,⟨_,rfl,(cI (by rw [hfin]))⟩,trivial⟩ (by decide) (wZ rfl (eU rfl))
theorem a03 {n:Nat} {f:Nat → Nat → Qi} (hn:n ≤ 1000):bA Tryz.prog 144 [NT .i64 n,Gt Tryz.prog (Fin n × Fin n) (fun x=>[NT .i64 x.1.1,NT .i64 x.2.1]) (fun x=>aF (f x.1.1 x.2.1))] (cH (tab n fun i=>tab n (f i))):=(Hk hn).fun fun B _ v S V h1 h2=>rH (by simp [dA,List.map_map,Function.comp_def]) v V (If (by simp [dA,aR]) (Nat.le_refl _) v S V h1 h2)
end
section
open Go Go.RowKit
theorem pO {n : Nat} {E : bR} {H : Hp} {d : Option Tmp} {t : TypeId} {pos : String} {af : Array Edge} {g : Option (Nat × Bool)}  :
  aB Tryz.prog n E H ⟨d,.build 80 #[],t,pos,af,g⟩ (dL [Is (.slice none 0 0),Is (.slice none 0 0)]) :=
 gA (parts := []) fun a V w hs => by
  refine ⟨.agg #[(.slice none 0 0),(.slice none 0 0)],?_,[(.slice none 0 0),(.slice none 0 0)],rfl,aW (⟨rfl,trivial⟩) (aW (⟨rfl,trivial⟩) (aG))⟩
  simp [Instr.build,Instr.fill,Sem.run_bind,Result.andThen,eI,O_80,U_80,Z_54,Z_78]
theorem vL {n : Nat} {E : bR} {H : Hp} {d : Option Tmp} {t : TypeId} {pos : String} {af : Array Edge} {g : Option (Nat × Bool)} {x0 x1 : Operand} {T0 T1 : Ty} [s0 : cM T0 1 false] (h0 : aM E x0 T0) [s1 : cM T1 1 false] (h1 : aM E x1 T1) :
  aB Tryz.prog n E H ⟨d,.build 80 #[(0,x0),(1,x1)],t,pos,af,g⟩ (dL [T0,T1]) :=
 gA (parts := [(0, x0), (1, x1)]) fun a V w hs => by
  have p0:=h0 n V a hs
  generalize e0:a.eval x0 = v0 at p0
  have q0:=(s0.ok v0 V p0).2.2 rfl
  have p1:=h1 n V a hs
  generalize e1:a.eval x1 = v1 at p1
  have q1:=(s1.ok v1 V p1).2.2 rfl
  refine ⟨.agg #[v0,v1],?_,[v0,v1],rfl,aW (⟨p0,q0⟩) (aW (⟨p1,q1⟩) (aG))⟩
  simp [e0,e1,Instr.build,Instr.fill,Sem.run_bind,Result.andThen,eI,q0.cells,q1.cells,O_80,U_80,Z_54,Z_78]
theorem pR (a:Addr) (w:World):(Instr.fieldAt 80 (.pointer (some a)) 0).run Tryz.prog w = .ok (.pointer (some (a.add 0))) w:=by
 simp [Instr.fieldAt,Instr.sureAddr,fieldPlace,Sem.run_bind,Result.andThen,U_80,Z_54]
end
section
open Go Go.RowKit
theorem Zv {s:List (List Qi)} {n i j:Nat} (hs:fO s n n) (hi:i < n) (hj:j < n):bA Tryz.prog 195 [NT .i64 i,NT .i64 j,PT (cH s)] (aF (gm s i j)):=by
 have h1:=hs.1; have h2:=hs.row hi
 refine bA.intro Tryz.func195 rfl Tryz.ntmps195 rfl (fun cx=>(ts (rn rfl (eW (Ts:=[Is (.bool false),Is (.slice none 0 0),Is (.bool false),Is (.slice none 0 0),Is (.slice none 0 0)]) O_32 rfl (fun V=>aW zd (aW zd (aW zd (aW zd (aW zd (aG))))))) fun B5=>(eX (ts (ro rfl (dJ A_78 Z_78 (Ht rfl)) (rm rfl (ro rfl (dZ U_78 Z_54 (Ht rfl) (Ht rfl) rfl (dY (dU (d:=[]) zo))) (ro rfl (dJ A_54 Z_54 (Ht rfl)) ?_)))))))))
 refine rm rfl (ro rfl (dZ U_54 Z_32 (Ht rfl) (Ht rfl) rfl (dY (dU (d:=Qi.zero) zo))) (ro rfl (dJ A_32 Z_32 (Ht rfl)) (gZ Z_32 (Ht rfl) (Ht rfl) rfl (i:=0) rfl (aK rfl) rfl rfl (eX ?_))))
 exact fG rfl (fU A_32 Z_32 rfl (i:=0) rfl rfl)
theorem Nl {z:List Qi} {s:List (List Qi)} {L:Nat} (hz:fH z L) (h:L ≤ 8796093022208) (hl:z.length ≤ 1000) (hl2:s.length ≤ 1000):bA Tryz.prog 98 [cC z,cH s] (fE [iV (jE (iD z s) z) (jE (iD z s) s),aD .i64 (iD z s)]):=by
 refine bA.intro Tryz.func98 rfl Tryz.ntmps98 rfl (fun cx=>(ts (rn rfl (wP (Ht rfl)) fun B3=>(rn rfl (eW (Ts:=[Is (.slice none 0 0),Is (.slice none 0 0)]) O_80 rfl (fun V=>aW zd (aW zd (aG)))) fun B4=>(ro rfl (cQ (cJ 0)) (eX (cK (cK (gW (i:=0) (tt:=3) rfl rfl sD (cY (rm rfl (ro rfl (dG U_54 (Ht rfl) aA) (ro rfl (gJ (Ht rfl) (cJ 1)) (rm rfl (fQ rfl rfl (eK rfl rfl (Ht rfl) (fun h=>cX (Ht rfl))) (fQ rfl rfl (eK rfl rfl (Ht rfl) (fun h=>dG U_54 (fV rfl h) aA)) ?_))))))))))))))))
 refine fQ rfl rfl (eK rfl rfl (Ht rfl) (fun h=>gR (fV rfl h) (cJ 8))) (ro rfl (gK (Ht rfl) (fun h=>(fV rfl h))) (rm rfl (fQ rfl rfl (eK rfl rfl (Ht rfl) (fun h=>dJ A_78 Z_78 (Ht rfl))) (fQ rfl rfl (eK rfl rfl (Ht rfl) (fun h=>dG U_78 (fV rfl h) aA)) (fQ rfl rfl (eK rfl rfl (Ht rfl) (fun h=>cX (Ht rfl))) (fQ rfl rfl (eK rfl rfl (Ht rfl) (fun h=>dG U_54 (fV rfl h) aA)) (fQ rfl rfl (eK rfl rfl (Ht rfl) (fun h=>jW (fV rfl h) (fV rfl h))) ?_)))))))
 refine ro rfl (gK (Ht rfl) (fun h=>(fV rfl h))) (eX (dQ (Ht rfl) (fun hb=>?_) (fun hb=>?_)))
 ·have he := Df hb
  refine ts (ro rfl (aB.imp (pO ) pX) (gZ Z_80 (Ht rfl) (Ht rfl) rfl (i:=1) rfl (aK rfl) rfl rfl (ro rfl (cQ (cJ 4)) (eX (bE rfl (fZ (fU A_80 Z_80 rfl (i:=1) rfl rfl) ?_) (fZ (eU rfl) ?_))))))
  ·exact (Ar he (by decide))
  ·exact (aP he.symm)
 ·refine cU (cK (ts (ro rfl (dJ A_78 Z_78 (Ht rfl)) (ro rfl (dG U_78 (Ht rfl) aA) (ro rfl (cX (cJ 0)) (eX (eG ?_)))))))
  refine dC (fun (k : Nat) => k ≤ s.length ∧ ∀ (i : Nat) (r : List Qi), i < k → s[i]? = some r → r.length = z.length) (fun (k : Nat) => s.length - k) (fun (k : Nat) => [(0, cC z), (3, PT (cH s)), (4, cB B4 0), (25, cH s), (26, NT .i64 s.length), (27, NT .i64 k)]) (fun (k : Nat) => [SA.emp, box B4 80 [Is (.slice none 0 0), Is (.slice none 0 0)]]) 0 ⟨Nat.zero_le _, fun i r h => by omega⟩
   (zS rfl) (dO.refl _) (fun k ⟨hk,hr⟩=>?_)
  refine ts (ro rfl (gJ (Ht rfl) (Ht rfl)) (eX (cK (dQ (Ht rfl) (fun hc=>?_) (fun hc=>?_)))))
  ·simp only [decide_eq_true_eq] at hc
   refine cU (cK (eG (ts (ro rfl (dZ U_78 Z_54 (Ht rfl) (Ht rfl) rfl (dY (uJ hc))) (ro rfl (dJ A_54 Z_54 (Ht rfl)) (ra rfl (eX (ts (rm rfl (ro rfl (dG U_54 (Ht rfl) aA) (rm rfl (ro rfl (dG U_54 (Ht rfl) aA) (ro rfl (jW (Ht rfl) (Ht rfl)) (eX (dQ (Ht rfl) (fun hd=>?_) (fun hd=>?_))))))))))))))))
   ·have hd2 : ¬ (s[k]).length = z.length := by simpa using hd
    have he:=Fn (uJ hc) hd2
    refine ts (ro rfl (aB.imp (pO ) pX) (gZ Z_80 (Ht rfl) (Ht rfl) rfl (i:=1) rfl (aK rfl) rfl rfl (ro rfl (cQ (cJ 4)) (eX (bE rfl (fZ (fU A_80 Z_80 rfl (i:=1) rfl rfl) ?_) (fZ (eU rfl) ?_))))))
    ·exact (Ar he (by decide))
    ·exact (aP he.symm)
   ·have hd2 : (s[k]).length = z.length := by simpa using hd
    refine cU (cD (cY (ro rfl (dV (Ht rfl) (cJ 1) z6) (rm rfl (eX ?_)))))
    refine gQ (k + 1) ⟨hc, fun i r h1 h2 => by
      by_cases e:i = k
      ·subst e; rw [uJ hc] at h2; obtain rfl:=Option.some.inj h2; exact hd2
      ·exact hr i r zo h2⟩ zo (zS rfl) (dO.refl _)
  ·simp only [decide_eq_false_iff_not] at hc
   have hall:∀ (i:Nat) (r:List Qi),s[i]? = some r → r.length = z.length:=fun i r h=>hr i r (by have:=(List.getElem?_eq_some_iff.1 h).1; omega) h
   have hpos:=Fm hb hall
   refine gG rfl (cK (ts (rm rfl (ro rfl (cZ Tryz.call194 (Cf hz h zo) ⟨(Ht rfl),trivial⟩) (ra rfl (eX (ts (rm rfl (ro rfl (oB (Ht rfl) cV) (eX (dQ (Ht rfl) (fun hd=>?_) (fun hd=>?_))))))))))))
   ·have hd2 : ¬ (if z.all kH = true then (0 : Int) else 1) = 0 := by simpa using hd
    refine ts (ro rfl (aB.imp (pO ) pX) (rm rfl (gZ Z_80 (Ht rfl) (Ht rfl) rfl (i:=1) rfl (aK rfl) rfl rfl (ra rfl (eX (bE rfl (fZ (fU A_80 Z_80 rfl (i:=1) rfl rfl) ?_) (fZ (eU rfl) ?_)))))))
    ·exact (Ar hpos hd2)
    ·exact (aP hpos.symm)
   ·have hd2 : (if z.all kH = true then (0 : Int) else 1) = 0 := by simpa using hd
    have he:=hpos.trans hd2
    obtain ⟨h1,h2,hsh,_⟩:=Kx he
    refine cU (ts (rm rfl (ro rfl (cZ Tryz.call120 (He zo) ⟨(Ht rfl),trivial⟩) (rm rfl (ro rfl (dG U_54 (Ht rfl) aA) (ro rfl (uV (γ:=Fin z.length × Fin z.length) (Ts:=fun x=>[NT .i64 x.1.1,NT .i64 x.2.1]) (U:=fun x=>aF (gm s x.1.1 x.2.1)) Tryz.call195 (fun x=>Zv hsh x.1.2 x.2.2) ⟨(Ht rfl),trivial⟩) (ro rfl (cZ Tryz.call144 (eQ (a03 (n:=z.length) (f:=gm s) zo) (rH (by rw [← sH hsh]))) ⟨(Ht rfl),(Ht rfl),trivial⟩) ?_)))))))
    refine ro rfl (vL (Ht rfl) (Ht rfl)) (gZ Z_80 (Ht rfl) (Ht rfl) rfl (i:=1) rfl (aK rfl) rfl rfl (ro rfl (cQ (cJ 0)) (eX (bE rfl (fZ (fU A_80 Z_80 rfl (i:=1) rfl rfl) ?_) (fZ (eU rfl) ?_)))))
    ·exact (Pz he)
    ·exact (aP he.symm)
theorem nT {z:List Qi} {s:List (List Qi)}:bA Tryz.prog 117 [iV z s] (NT .i64 z.length):=by
 refine bA.intro Tryz.func117 rfl Tryz.ntmps117 rfl (fun cx=>(ts (rn rfl (fK (Ht rfl)) fun B1=>(ro rfl (cQ (cJ 0)) (eX (ts (ro rfl (eZ pR (Ht rfl) rfl) (ro rfl (eY A_54 Z_54 (Ht rfl) (i:=0) rfl rfl) (ro rfl (dG U_54 (Ht rfl) aA) (ra rfl (eX ?_)))))))))))
 exact fG rfl (eU rfl)
theorem Hm {z:List Qi} {s:List (List Qi)} {i:Int}:bA Tryz.prog 209 [iV z s,aD .i64 i] (aC (decide (1 ≤ i ∧ i ≤ z.length))):=by
 refine bA.intro Tryz.func209 rfl Tryz.ntmps209 rfl (fun cx=>(ts (rn rfl (fK (Ht rfl)) fun B2=>(ro rfl (cQ cV) (eX (ts (rm rfl (ro rfl (mU (Ht rfl) cV) (rm rfl (fQ rfl rfl (eK rfl rfl (Ht rfl) (fun h=>cX (Ht rfl))) (fQ rfl rfl (eK rfl rfl (Ht rfl) (fun h=>eZ pR (Ht rfl) rfl)) (fQ rfl rfl (eK rfl rfl (Ht rfl) (fun h=>eY A_54 Z_54 (fV rfl h) (i:=0) rfl rfl)) (fQ rfl rfl (eK rfl rfl (Ht rfl) (fun h=>dG U_54 (fV rfl h) aA)) (fQ rfl rfl (eK rfl rfl (Ht rfl) (fun h=>wV (fV rfl h) (fV rfl h))) ?_))))))))))))))
 refine ro rfl (fT (Ht rfl) (fun h=>(fV rfl h))) (ra rfl (eX (fG rfl (fZ (eU rfl) ?_))))
 exact (gD (by rw [Bool.eq_iff_iff]; simp))
end
section
open Go Go.RowKit
theorem nW (a:Addr) (w:World):(Instr.fieldAt 80 (.pointer (some a)) 1).run Tryz.prog w = .ok (.pointer (some (a.add 1))) w:=by
 simp [Instr.fieldAt,Instr.sureAddr,fieldPlace,Sem.run_bind,Result.andThen,U_80,Z_78]
theorem mI (a:Addr) (w:World):(Instr.fieldAt 84 (.pointer (some a)) 1).run Tryz.prog w = .ok (.pointer (some (a.add 2))) w:=by
 simp [Instr.fieldAt,Instr.sureAddr,fieldPlace,Sem.run_bind,Result.andThen,U_84,Z_78]
end
section
open Go Go.RowKit
theorem Ng {z:List Qi} {s:List (List Qi)} {i:Int} (hl:z.length ≤ 1000):bA Tryz.prog 124 [iV z s,aD .i64 i] (fE [aF (Qs z i),aD .i64 (if 1 ≤ i ∧ i ≤ z.length then 0 else 1)]):=by
 refine bA.intro Tryz.func124 rfl Tryz.ntmps124 rfl (fun cx=>(ts (rn rfl (fK (Ht rfl)) fun B2=>(rn rfl (eW (Ts:=[Is (.bool false),Is (.slice none 0 0),Is (.bool false),Is (.slice none 0 0),Is (.slice none 0 0)]) O_32 rfl (fun V=>aW zd (aW zd (aW zd (aW zd (aW zd (aG))))))) fun B4=>(ro rfl (cQ (cJ 0)) (eX (cK (ts (ro rfl (eJ A_80 Z_80 (Ht rfl) (i:=0) rfl rfl rfl) (rm rfl (ro rfl (cZ Tryz.call209 Hm ⟨(Ht rfl),(Ht rfl),trivial⟩) ?_)))))))))))
 refine ro rfl (dR (Ht rfl)) (eX (dQ (Ht rfl) (fun hb=>?_) (fun hb=>?_)))
 ·have hn : ¬ (1 ≤ i ∧ i ≤ (z.length : Int)) := by simpa only [Bool.not_eq_true', decide_eq_false_iff_not] using hb
  refine ts (ro rfl (aB.imp (mF ) iA) (gZ Z_32 (Ht rfl) (Ht rfl) rfl (i:=1) rfl (aK rfl) rfl rfl (ro rfl (cQ (cJ 1)) (eX (bE rfl (fZ (fU A_32 Z_32 rfl (i:=1) rfl rfl) ?_) (fZ (eU rfl) ?_))))))
  ·exact (fM (by rw [Qs,if_neg hn]))
  ·exact (aP (by rw [if_neg hn]; rfl))
 ·have hp : 1 ≤ i ∧ i ≤ (z.length : Int) := by simpa only [Bool.not_eq_false', decide_eq_true_eq] using hb
  have hq:(i - 1).toNat < z.length:=by omega
  refine cU (ts (ro rfl (eZ pR (Ht rfl) rfl) (ro rfl (eY A_54 Z_54 (Ht rfl) (i:=0) rfl rfl) (rm rfl (ro rfl (iB (Ht rfl) cV (sV zo)) (ro rfl (dZ U_54 Z_32 (Ht rfl) (Ht rfl) (by omega:i - 1 = (((i - 1).toNat:Nat):Int)) (dY (dU (d:=Qi.zero) hq))) (ro rfl (dJ A_32 Z_32 (Ht rfl)) (gZ Z_32 (Ht rfl) (Ht rfl) rfl (i:=1) rfl (aK rfl) rfl rfl (ro rfl (cQ (cJ 0)) (eX (bE rfl (fZ (fU A_32 Z_32 rfl (i:=1) rfl rfl) ?_) (fZ (eU rfl) ?_))))))))))))
  ·exact (fM (by rw [Qs,if_pos hp]))
  ·exact (aP (by rw [if_pos hp]; rfl))
theorem a2g {z:List Qi} {s:List (List Qi)} {i j:Int} (hs:fO s z.length z.length) (hl:z.length ≤ 1000):bA Tryz.prog 130 [iV z s,aD .i64 i,aD .i64 j] (fE [aF (Yw z.length s i j),aD .i64 (if (1 ≤ i ∧ i ≤ z.length) ∧ 1 ≤ j ∧ j ≤ z.length then 0 else 1)]):=by
 have hs1:=hs.1
 refine bA.intro Tryz.func130 rfl Tryz.ntmps130 rfl (fun cx=>(ts (rn rfl (fK (Ht rfl)) fun B3=>(rn rfl (eW (Ts:=[Is (.bool false),Is (.slice none 0 0),Is (.bool false),Is (.slice none 0 0),Is (.slice none 0 0)]) O_32 rfl (fun V=>aW zd (aW zd (aW zd (aW zd (aW zd (aG))))))) fun B6=>(ro rfl (cQ (cJ 0)) (eX (cK (ts (ro rfl (eJ A_80 Z_80 (Ht rfl) (i:=0) rfl rfl rfl) (rm rfl (ro rfl (cZ Tryz.call209 Hm ⟨(Ht rfl),(Ht rfl),trivial⟩) ?_)))))))))))
 refine ro rfl (dR (Ht rfl)) (rm rfl (fQ rfl rfl (eK rfl rfl (Ht rfl) (fun h=>eJ A_80 Z_80 (Ht rfl) (i:=0) rfl rfl rfl)) (fQ rfl rfl (eK rfl rfl (Ht rfl) (fun h=>cX (Ht rfl))) (fQ rfl rfl (eK rfl rfl (Ht rfl) (fun h=>cZ Tryz.call209 Hm ⟨(fV rfl h),(fV rfl h),trivial⟩)) (fQ rfl rfl (eK rfl rfl (Ht rfl) (fun h=>dR (fV rfl h))) (ro rfl (gK (Ht rfl) (fun h=>(fV rfl h))) (eX (dQ (Ht rfl) (fun hb=>?_) (fun hb=>?_)))))))))
 ·have hn : ¬ ((1 ≤ i ∧ i ≤ (z.length : Int)) ∧ 1 ≤ j ∧ j ≤ (z.length : Int)) := by simp only [Bool.or_eq_true, Bool.not_eq_true', decide_eq_false_iff_not] at hb; exact fun k => hb.elim (fun h => h k.1) (fun h => h k.2)
  refine ts (rn rfl (eW (Ts:=[Is (.bool false),Is (.slice none 0 0),Is (.bool false),Is (.slice none 0 0),Is (.slice none 0 0)]) O_32 rfl (fun V=>aW zd (aW zd (aW zd (aW zd (aW zd (aG))))))) fun B8=>(eX (ts (ro rfl (eJ A_32 Z_32 (Ht rfl) (i:=2) rfl rfl rfl) (gZ Z_32 (Ht rfl) (Ht rfl) rfl (i:=1) rfl (aK rfl) rfl rfl (ro rfl (cQ (cJ 1)) (eX (bE rfl (fZ (fU A_32 Z_32 rfl (i:=1) rfl rfl) ?_) (fZ (eU rfl) ?_)))))))))
  ·exact (fun v V k=>by rw [Yw,if_neg hn]; exact iA v V k)
  ·exact (aP (by rw [if_neg hn]; rfl))
 ·have hp : (1 ≤ i ∧ i ≤ (z.length : Int)) ∧ 1 ≤ j ∧ j ≤ (z.length : Int) := by simpa only [Bool.or_eq_false_iff, Bool.not_eq_false', decide_eq_true_eq] using hb
  have hq:(i - 1).toNat < s.length:=by omega
  have hq2:(j - 1).toNat < (s.getD (i - 1).toNat []).length:=by rw [hs.row zo]; omega
  refine cU (ts (ro rfl (eZ nW (Ht rfl) rfl) (ro rfl (eY A_78 Z_78 (Ht rfl) (i:=0) rfl rfl) (rm rfl (ro rfl (iB (Ht rfl) cV (sV zo)) (ro rfl (dZ U_78 Z_54 (Ht rfl) (Ht rfl) (by omega:i - 1 = (((i - 1).toNat:Nat):Int)) (dY (dU (d:=[]) hq))) (ro rfl (dJ A_54 Z_54 (Ht rfl)) (rm rfl (ro rfl (iB (Ht rfl) cV (sV zo)) (ro rfl (dZ U_54 Z_32 (Ht rfl) (Ht rfl) (by omega:j - 1 = (((j - 1).toNat:Nat):Int)) (dY (dU (d:=Qi.zero) hq2))) ?_))))))))))
  refine ro rfl (dJ A_32 Z_32 (Ht rfl)) (gZ Z_32 (Ht rfl) (Ht rfl) rfl (i:=1) rfl (aK rfl) rfl rfl (ro rfl (cQ (cJ 0)) (eX (bE rfl (fZ (fU A_32 Z_32 rfl (i:=1) rfl rfl) ?_) (fZ (eU rfl) ?_)))))
  ·exact (fM (by rw [Yw,if_pos hp]))
  ·exact (aP (by rw [if_pos hp]; rfl))
theorem To {z:List Qi} {s c:List (List Qi)} {i j:Int} (hs:fO c c.length c.length) (hl:c.length ≤ 1000):bA Tryz.prog 42 [gS z s c,aD .i64 i,aD .i64 j] (fE [aF (Yw c.length c i j),aD .i64 (if (1 ≤ i ∧ i ≤ c.length) ∧ 1 ≤ j ∧ j ≤ c.length then 0 else 1)]):=by
 refine bA.intro Tryz.func42 rfl Tryz.ntmps42 rfl (fun cx=>(ts (rn rfl (fK (Ht rfl)) fun B3=>(rn rfl (eW (Ts:=[Is (.bool false),Is (.slice none 0 0),Is (.bool false),Is (.slice none 0 0),Is (.slice none 0 0)]) O_32 rfl (fun V=>aW zd (aW zd (aW zd (aW zd (aW zd (aG))))))) fun B6=>(ro rfl (cQ (cJ 0)) (eX (cK (ts (rm rfl (ro rfl (kG (Ht rfl) cV) (rm rfl (fQ rfl rfl (eK rfl rfl (Ht rfl) (fun h=>cX (Ht rfl))) ?_))))))))))))
 refine fQ rfl rfl (eK rfl rfl (Ht rfl) (fun h=>eZ mI (Ht rfl) rfl)) (fQ rfl rfl (eK rfl rfl (Ht rfl) (fun h=>eY A_78 Z_78 (fV rfl h) (i:=0) rfl rfl)) (fQ rfl rfl (eK rfl rfl (Ht rfl) (fun h=>dG U_78 (fV rfl h) aA)) (fQ rfl rfl (eK rfl rfl (Ht rfl) (fun h=>lV (fV rfl h) (fV rfl h))) (ro rfl (gK (Ht rfl) (fun h=>(fV rfl h))) (rm rfl (fQ rfl rfl (eK rfl rfl (Ht rfl) (fun h=>cX (Ht rfl))) (fQ rfl rfl (eK rfl rfl (Ht rfl) (fun h=>kG (fV rfl h) cV)) ?_)))))))
 refine ro rfl (gK (Ht rfl) (fun h=>(fV rfl h))) (rm rfl (fQ rfl rfl (eK rfl rfl (Ht rfl) (fun h=>cX (Ht rfl))) (fQ rfl rfl (eK rfl rfl (Ht rfl) (fun h=>eZ mI (Ht rfl) rfl)) (fQ rfl rfl (eK rfl rfl (Ht rfl) (fun h=>eY A_78 Z_78 (fV rfl h) (i:=0) rfl rfl)) (fQ rfl rfl (eK rfl rfl (Ht rfl) (fun h=>dG U_78 (fV rfl h) aA)) (fQ rfl rfl (eK rfl rfl (Ht rfl) (fun h=>lV (fV rfl h) (fV rfl h))) (ro rfl (gK (Ht rfl) (fun h=>(fV rfl h))) (eX (dQ (Ht rfl) (fun hb=>?_) (fun hb=>?_))))))))))
 ·have hn : ¬ ((1 ≤ i ∧ i ≤ (c.length : Int)) ∧ 1 ≤ j ∧ j ≤ (c.length : Int)) := by simp only [Bool.or_eq_true, decide_eq_true_eq] at hb; omega
  refine ts (rn rfl (eW (Ts:=[Is (.bool false),Is (.slice none 0 0),Is (.bool false),Is (.slice none 0 0),Is (.slice none 0 0)]) O_32 rfl (fun V=>aW zd (aW zd (aW zd (aW zd (aW zd (aG))))))) fun B8=>(eX (ts (ro rfl (eJ A_32 Z_32 (Ht rfl) (i:=2) rfl rfl rfl) (gZ Z_32 (Ht rfl) (Ht rfl) rfl (i:=1) rfl (aK rfl) rfl rfl (ro rfl (cQ (cJ 1)) (eX (bE rfl (fZ (fU A_32 Z_32 rfl (i:=1) rfl rfl) ?_) (fZ (eU rfl) ?_)))))))))
  ·exact (fun v V k=>by rw [Yw,if_neg hn]; exact iA v V k)
  ·exact (aP (by rw [if_neg hn]; rfl))
 ·have hp : (1 ≤ i ∧ i ≤ (c.length : Int)) ∧ 1 ≤ j ∧ j ≤ (c.length : Int) := by simp only [Bool.or_eq_false_iff, decide_eq_false_iff_not] at hb; omega
  have hq:(i - 1).toNat < c.length:=by omega
  have hq2:(j - 1).toNat < (c.getD (i - 1).toNat []).length:=by rw [hs.row zo]; omega
  refine cU (ts (ro rfl (eZ mI (Ht rfl) rfl) (ro rfl (eY A_78 Z_78 (Ht rfl) (i:=0) rfl rfl) (rm rfl (ro rfl (iB (Ht rfl) cV (sV zo)) (ro rfl (dZ U_78 Z_54 (Ht rfl) (Ht rfl) (by omega:i - 1 = (((i - 1).toNat:Nat):Int)) (dY (dU (d:=[]) hq))) (ro rfl (dJ A_54 Z_54 (Ht rfl)) (rm rfl (ro rfl (iB (Ht rfl) cV (sV zo)) (ro rfl (dZ U_54 Z_32 (Ht rfl) (Ht rfl) (by omega:j - 1 = (((j - 1).toNat:Nat):Int)) (dY (dU (d:=Qi.zero) hq2))) ?_))))))))))
  refine ro rfl (dJ A_32 Z_32 (Ht rfl)) (gZ Z_32 (Ht rfl) (Ht rfl) rfl (i:=1) rfl (aK rfl) rfl rfl (ro rfl (cQ (cJ 0)) (eX (bE rfl (fZ (fU A_32 Z_32 rfl (i:=1) rfl rfl) ?_) (fZ (eU rfl) ?_)))))
  ·exact (fM (by rw [Yw,if_pos hp]))
  ·exact (aP (by rw [if_pos hp]; rfl))
end
section
open Go Go.RowKit
theorem Sl:Tryz.prog.underlying 78 = some (.slice 54):=by kernel_rfl
end
section
open Go Go.RowKit
theorem rR {n : Nat} {E : bR} {H : Hp} {d : Option Tmp} {t : TypeId} {pos : String} {af : Array Edge} {g : Option (Nat × Bool)}  :
  aB Tryz.prog n E H ⟨d,.build 84 #[],t,pos,af,g⟩ (dL [Is (.slice none 0 0),Is (.slice none 0 0),Is (.slice none 0 0)]) :=
 gA (parts := []) fun a V w hs => by
  refine ⟨.agg #[(.slice none 0 0),(.slice none 0 0),(.slice none 0 0)],?_,[(.slice none 0 0),(.slice none 0 0),(.slice none 0 0)],rfl,aW (⟨rfl,trivial⟩) (aW (⟨rfl,trivial⟩) (aW (⟨rfl,trivial⟩) (aG)))⟩
  simp [Instr.build,Instr.fill,Sem.run_bind,Result.andThen,eI,O_84,U_84,Z_78,Z_80]
theorem Nb {n : Nat} {E : bR} {H : Hp} {d : Option Tmp} {t : TypeId} {pos : String} {af : Array Edge} {g : Option (Nat × Bool)} {x0 : Operand} {T0 T1 : Ty} (h0 : aM E x0 (dL [T0, T1])) :
  aB Tryz.prog n E H ⟨d,.build 84 #[(0,x0)],t,pos,af,g⟩ (dL [T0,T1,Is (.slice none 0 0)]) :=
 gA (parts := [(0, x0)]) fun a V w hs => by
  obtain ⟨v0,e0,c0⟩:=h0 n V a hs
  obtain ⟨c0_0,c0_1,rfl⟩:∃ c0_0 c0_1,v0 = [c0_0,c0_1]:=Da (by simpa using c0.length)
  refine ⟨.agg #[c0_0,c0_1,(.slice none 0 0)],?_,[c0_0,c0_1,(.slice none 0 0)],rfl,aW (c0.at (i:=0) rfl rfl) (aW (c0.at (i:=1) rfl rfl) (aW (⟨rfl,trivial⟩) (aG)))⟩
  simp [e0,Instr.build,Instr.fill,Sem.run_bind,Result.andThen,eI,O_84,U_84,Z_78,Z_80]
end
section
open Go Go.RowKit
theorem Kh {r:List Qi} {c:List (List Qi)}:bA Tryz.prog 119 [cC r,PT (cH c)] (aC (!decide (r.length = c.length))):=by
 refine bA.intro Tryz.func119 rfl Tryz.ntmps119 rfl (fun cx=>(ts (ro rfl (cQ cV) (eX (ts (rm rfl (ro rfl (dG U_54 (Ht rfl) aA) (ro rfl (dJ A_78 Z_78 (Ht rfl)) (ro rfl (dG U_78 (Ht rfl) aA) (ro rfl (jW (Ht rfl) (Ht rfl)) (ra rfl (eX ?_))))))))))))
 exact fG rfl (eU rfl)
theorem Nn {z:List Qi} {s c:List (List Qi)} (hz:z.length ≤ 1000) (hc:c.length ≤ 1000):bA Tryz.prog 40 [iV z s,cH c] (fE [gS (jE (hZ z c) z) (jE (hZ z c) s) (jE (hZ z c) c),aD .i64 (hZ z c)]):=by
 refine bA.intro Tryz.func40 rfl Tryz.ntmps40 rfl (fun cx=>(ts (rn rfl (fK (Ht rfl)) fun B2=>(rn rfl (wP (Ht rfl)) fun B3=>(rn rfl (eW (Ts:=[Is (.slice none 0 0),Is (.slice none 0 0),Is (.slice none 0 0)]) O_84 rfl (fun V=>aW zd (aW zd (aW zd (aG))))) fun B4=>(ro rfl (cQ (cJ 0)) (eX (cK (cK (gW (i:=1) (tt:=3) rfl rfl sD (fJ (m:=8) (dp 3 rfl (dJ A_78 Z_78 (Ht rfl)) (dq 9 0 rfl (dG U_78 (Ht rfl) aA) ?_)))))))))))))
 refine dp 2 rfl (eJ A_80 Z_80 (Ht rfl) (i:=0) rfl rfl rfl) (dq 11 2 rfl (cZ K_117 nT ⟨(Ht rfl),trivial⟩) (eA 10 1 12 3 rfl (jW (Ht rfl) (Ht rfl)) (dq 13 4 rfl (cX (Ht rfl)) (C.D_step (Ei:=[(3,_),(14,_)]) rfl rfl (bV (bK rfl rfl) (bV (bG 5 rfl rfl) bW)) (eK rfl rfl (Ht rfl) (fun h=>dJ A_78 Z_78 (Ht rfl))) (C.D_step (Ei:=[(3,_),(14,_)]) rfl rfl (bV (bK rfl rfl) (bV (bG 5 rfl rfl) bW)) (eK rfl rfl (Ht rfl) (fun h=>uV (γ:=List Qi) (Ts:=fun r=>[cC r]) (U:=fun r=>aC (!decide (r.length = c.length))) Tryz.call119 (fun r=>Kh) ⟨(Ht rfl),trivial⟩)) ?_)))))
 refine fW bC rfl (by kernel_rfl) (zF (zF (aV (fQ rfl rfl (eK rfl rfl (Ht rfl) (fun h=>cZ Tryz.call118 (qH (l:=c) (T:=cC) (p:=fun r=>!decide (r.length = c.length)) zo) ⟨(fV rfl h),(fV rfl h),trivial⟩)) (ro rfl (gK (Ht rfl) (fun h=>(fV rfl h))) (eX (dQ (Ht rfl) (fun hb=>?_) (fun hb=>?_))))))))
 ·have he := Fo hb
  refine ts (ro rfl (aB.imp (rR ) nG) (gZ Z_84 (Ht rfl) (Ht rfl) rfl (i:=2) rfl (aK rfl) rfl rfl (ro rfl (cQ (cJ 4)) (eX (bE rfl (fZ (fU A_84 Z_84 rfl (i:=2) rfl rfl) ?_) (fZ (eU rfl) ?_))))))
  ·exact (Lb he)
  ·exact (aP he.symm)
 ·have he := Dh hb
  obtain ⟨hcl,hsh⟩:=La he
  refine cU (ts (ro rfl (eJ A_80 Z_80 (Ht rfl) (i:=0) rfl rfl rfl) (ro rfl (Nb (Ht rfl)) (rn rfl (eW (Ts:=[Is (.slice none 0 0),Is (.slice none 0 0),Is (.slice none 0 0)]) O_84 rfl (fun V=>aW zd (aW zd (aW zd (aG))))) fun B6=>(gZ Z_84 (Ht rfl) (Ht rfl) rfl (i:=3) rfl (aK rfl) rfl rfl (eX (cK (ts (ro rfl (dJ A_78 Z_78 (Ht rfl)) (ro rfl (dG U_78 (Ht rfl) aA) (ro rfl (cX (cJ 0)) ?_)))))))))))
  refine eX (eG (dB [2,3] rfl (by decide) (yK 54 1 ?_)))
  refine lA (fun (k : Nat) (out : List (List Qi)) (v : Value) => k ≤ c.length ∧ out = c.take k) (fun (k : Nat) (out : List (List Qi)) (v : Value) => c.length - k) (fun (k : Nat) (out : List (List Qi)) (v : Value) => [(4, cB B4 0), (6, cB B6 0), (22, cH c), (23, NT .i64 c.length), (24, NT .i64 k)]) (fun (k : Nat) (out : List (List Qi)) (v : Value) => [box B4 84 [Is (.slice none 0 0), Is (.slice none 0 0), Is (.slice none 0 0)], box B6 84 [cC z, cH s, Is v], bH 54 1 v (out.map cC)]) 0 [] (.slice none 0 0) ⟨Nat.zero_le _, rfl⟩
   (zS rfl) (dO.refl _) (fun k out v ⟨hk,ho⟩=>?_)
  refine ts (ro rfl (gJ (Ht rfl) (Ht rfl)) (eX (cK (dQ (Ht rfl) (fun hd=>?_) (fun hd=>?_)))))
  ·simp only [decide_eq_true_eq] at hd
   have hol:out.length ≤ 1000:=by rw [ho,List.length_take]; omega
   have hrk : (c.getD k default).length ≤ 1000 := by
    have e:c.getD k default = c.getD k []:=rfl
    rw [e,hsh.row zo]; omega
   refine cU (cK (eG (ts (ro rfl (dZ U_78 Z_54 (Ht rfl) (Ht rfl) rfl (dY (dU (d:=default) hd))) (ro rfl (dJ A_54 Z_54 (Ht rfl)) (ra rfl (eX (fJ (m:=5) (dp 6 rfl (eZ mI (Ht rfl) rfl) (dq 28 0 rfl (Wi A_78 Z_78 (Ht rfl) (i:=1) rfl rfl) (dp 8 rfl (cX (Ht rfl)) (dq 30 2 rfl (cZ Tryz.call120 (He zo) ⟨(Ht rfl),trivial⟩) (dq 31 3 rfl (cL (xs:=[.tmp 31]) U_78 Z_54 O_54 (cW (Ht rfl) cG) rfl rfl rfl) ?_)))))))))))))
   refine fW bC rfl (by kernel_rfl) (zF (aJ (aV (rN (inf:=Tryz.t54) Sl lB rfl rfl rfl (Ht rfl) (Ht rfl) (i:=2) rfl (by simp) (fun T hT=>by simp at hT; subst hT; exact El.one) (by show _ * 24 ≤ _; simp only [List.length_map,List.length_cons,List.length_nil]; omega) (by simp only [List.length_map,List.length_cons,List.length_nil]; omega) rfl (fun v2=>?_)))))
   refine ro rfl (eZ mI (Ht rfl) rfl) (a1k (l:=2) Z_78 (Ht rfl) (Ht rfl) (i:=1) rfl rfl (aK rfl) rfl (eX (cD (cY (ro rfl (dV (Ht rfl) (cJ 1) z6) (rm rfl (eX (gQ (k + 1,_,v2) ⟨by omega,Gj hd ho⟩ (by dsimp only; omega) (zS rfl) (aU (aH rfl) (aU (aH rfl) (aU (bN (vJ cC _ _)) aY)))))))))))
  ·simp only [decide_eq_false_iff_not] at hd
   have hfin:=Sa ho zo
   subst hfin
   refine gG rfl (cK (Kd 1 2 2 rfl rfl rfl (by decide) (cY (ro rfl (eJ A_84 Z_84 (Ht rfl) (i:=1) rfl rfl rfl) (gZ Z_84 (Ht rfl) (Ht rfl) rfl (i:=0) rfl (aK rfl) rfl rfl (ro rfl (cQ (cJ 0)) (eX (bE rfl (fZ (fU A_84 Z_84 rfl (i:=0) rfl rfl) ?_) (fZ (eU rfl) ?_)))))))))
   ·exact (Fp he)
   ·exact (aP he.symm)
end
section
open Go Go.RowKit
theorem wJ (v : Value) (w : World) : (method (Tryz.prog.types.size + Made.depth) 32 v "Of").run Tryz.prog w = .ok (318, v) w := by kernel_rfl
theorem bF (v:Value) (w:World):(Instr.makeInterface 32 v).run Tryz.prog w = .ok (.iface 32 v) w:=by
 simp [Instr.makeInterface,Sem.run_bind,Result.andThen,U_32]
end
section
open Go Go.RowKit
theorem tB {x:Qi} {L:Nat} [hx:aE x L] (h:L ≤ 8796093022208):bA Tryz.prog 79 [aF x] (aC (eR x)):=by
 haveI hz:aE Qi.zero 1:=aE.zero (Nat.le_refl 1)
 rw [← Xv]
 refine bA.intro Tryz.func79 rfl Tryz.ntmps79 rfl (fun cx=>(ts (rn rfl (fK (Ht rfl)) fun B1=>(ro rfl (cQ cV) (eX (cK (fJ (m:=5) (dp 1 rfl (eJ A_32 Z_32 (Ht rfl) (i:=0) rfl rfl rfl) (dq 3 0 rfl (cZ Tryz.call35 vN ⟨(Ht rfl),trivial⟩) (dq 4 1 rfl (cX (Ht rfl)) (C.D_step (Ei:=[(1,_),(5,_)]) rfl rfl (bV (bK rfl rfl) (bV (bG 2 rfl rfl) bW)) (eK rfl rfl (Ht rfl) (fun h=>eJ A_32 Z_32 (Ht rfl) (i:=0) rfl rfl rfl)) (C.D_step (Ei:=[(5,_)]) rfl rfl (bV (bG 2 rfl rfl) bW) (eK rfl rfl (Ht rfl) (fun h=>cZ K_36 (gY (n:=0) (by decide) (by decide)) ⟨(cJ 0),trivial⟩)) ?_))))))))))))
 refine fW bC rfl (by kernel_rfl) (zF (aJ (aV (fQ rfl rfl (eK rfl rfl (Ht rfl) (fun h=>cZ K_30 (tV (x:=x) (y:=Qi.zero) (M:=1) zo) ⟨(fV rfl h),(fV rfl h),trivial⟩)) (fQ rfl rfl (eK rfl rfl (Ht rfl) (fun h=>mU (fV rfl h) cV)) (ro rfl (fT (Ht rfl) (fun h=>(fV rfl h))) (ra rfl (eX ?_))))))))
 exact fG rfl (eU rfl)
theorem Yh {y:Qi}:bA Tryz.prog 318 [dL [Is (.bool false),Is (.slice none 0 0),Is (.bool false),Is (.slice none 0 0),Is (.slice none 0 0)],aF y] (aF y):=by
 refine bA.intro Tryz.func318 rfl Tryz.ntmps318 rfl (fun cx=>(ts (rn rfl (fK (Ht rfl)) fun B2=>(rn rfl (fK (Ht rfl)) fun B3=>(rn rfl (eW (Ts:=[Is (.bool false),Is (.slice none 0 0),Is (.bool false),Is (.slice none 0 0),Is (.slice none 0 0)]) O_32 rfl (fun V=>aW zd (aW zd (aW zd (aW zd (aW zd (aG))))))) fun B4=>(eX (ts (ro rfl (eJ A_32 Z_32 (Ht rfl) (i:=1) rfl rfl rfl) (gZ Z_32 (Ht rfl) (Ht rfl) rfl (i:=2) rfl (aK rfl) rfl rfl ?_)))))))))
 refine eX ?_
 exact fG rfl (fU A_32 Z_32 rfl (i:=2) rfl rfl)
theorem Ce {x:Qi}:bA Tryz.prog 123 [aF x] (aF x):=by
 refine bA.intro Tryz.func123 rfl Tryz.ntmps123 rfl (fun cx=>(ts (rn rfl (fK (Ht rfl)) fun B1=>(rn rfl (eW (Ts:=[Is (.bool false),Is (.slice none 0 0),Is (.bool false),Is (.slice none 0 0),Is (.slice none 0 0)]) O_32 rfl (fun V=>aW zd (aW zd (aW zd (aW zd (aW zd (aG))))))) fun B2=>(eX (ts (rn rfl (eW (Ts:=[Is (.bool false),Is (.slice none 0 0),Is (.bool false),Is (.slice none 0 0),Is (.slice none 0 0)]) O_32 rfl (fun V=>aW zd (aW zd (aW zd (aW zd (aW zd (aG))))))) fun B3=>?_)))))))
 refine eX (ts (ro rfl (eJ A_32 Z_32 (Ht rfl) (i:=2) rfl rfl rfl) (ro rfl (aT bF (Ht rfl)) (ro rfl (eJ A_32 Z_32 (Ht rfl) (i:=0) rfl rfl rfl) (ro rfl (aO wJ Tryz.call318 Yh (Ht rfl) ⟨(Ht rfl),trivial⟩) (gZ Z_32 (Ht rfl) (Ht rfl) rfl (i:=1) rfl (aK rfl) rfl rfl (eX ?_)))))))
 exact fG rfl (fU A_32 Z_32 rfl (i:=1) rfl rfl)
theorem Ey {r:List Qi} {k:Nat}:bA Tryz.prog 266 [cC r,PT (NT .i64 k)] (aC (!decide (r.length = k))):=by
 refine bA.intro Tryz.func266 rfl Tryz.ntmps266 rfl (fun cx=>(ts (ro rfl (cQ cV) (eX (ts (rm rfl (ro rfl (dG U_54 (Ht rfl) aA) (ro rfl (dJ A_3 Z_3 (Ht rfl)) (ro rfl (jW (Ht rfl) (Ht rfl)) (ra rfl (eX ?_)))))))))))
 exact fG rfl (eU rfl)
theorem Ex  : bA Tryz.prog 231 [cH []] (fE [NT .i64 0,aC true]):=by
 refine bA.intro Tryz.func231 rfl Tryz.ntmps231 rfl (fun cx=>(ts (ro rfl (cQ (cJ 0)) (ro rfl (cQ cV) (eX (cK (ts (rm rfl (ro rfl (dG U_78 (Ht rfl) aA) (ro rfl (dI (Ht rfl) (cJ 0)) (eX (rO (Ht rfl) (by rfl) ?_))))))))))))
 refine ts (ro rfl (cQ (cJ 0)) (ro rfl (cQ cV) (eX ?_)))
 exact bE rfl (eU rfl) (eU rfl)
theorem yO {a:List (List Qi)} {n k:Nat} (h:fO a n k) (h1:1 ≤ n) (hn:n ≤ 32) (hk:k ≤ 32):bA Tryz.prog 231 [cH a] (fE [NT .i64 k,aC true]):=by
 obtain ⟨rfl,h2⟩:=h
 have hr0:(a.getD 0 []).length = k:=fO.row ⟨rfl,h2⟩ zo
 refine bA.intro Tryz.func231 rfl Tryz.ntmps231 rfl (fun cx=>(ts (ro rfl (cQ (cJ 0)) (ro rfl (cQ cV) (eX (cK (ts (rm rfl (ro rfl (dG U_78 (Ht rfl) aA) (ro rfl (dI (Ht rfl) (cJ 0)) (eX (dQ (Ht rfl) (fun hb=>?_) (fun hb=>?_)))))))))))))
 ·simp only [decide_eq_true_eq] at hb
  omega
 ·refine cU (ts (rm rfl (ro rfl (dZ U_78 Z_54 (Ht rfl) (cJ 0) rfl (dY (dU (d := []) zo))) (ro rfl (dJ A_54 Z_54 (Ht rfl)) (ro rfl (dG U_54 (Ht rfl) aA) (rn rfl (eW (Ts := [Is (.int .i64 0)]) Tryz.zeroValue3 rfl (fun V => aW zd (aG))) fun B4 => (nA Z_3 (Ht rfl) (Ht rfl) (i := 0) rfl (aK rfl) rfl (eX (cK (gW (i := 0) (tt := 4) rfl rfl sD (fJ (m := 15) (dp 4 rfl (dJ A_3 Z_3 (Ht rfl)) ?_))))))))))))
  refine dp 0 rfl (cX (Ht rfl)) (dq 13 1 rfl (dG U_78 (Ht rfl) aA) (dq 14 2 rfl (sL (Ht rfl) (cJ 32)) (dq 15 3 rfl (cX (Ht rfl)) (C.D_step (Ei:=[(4,_),(16,_)]) rfl rfl (bV (bK rfl rfl) (bV (bG 4 rfl rfl) bW)) (eK rfl rfl (Ht rfl) (fun h=>dJ A_3 Z_3 (Ht rfl))) (C.D_step (Ei:=[(17,_),(16,_)]) rfl rfl (bV (bG 5 rfl rfl) (bV (bG 4 rfl rfl) bW)) (eK rfl rfl (Ht rfl) (fun h=>sL (fV rfl h) (cJ 32))) (eA 16 4 18 6 rfl (fT (Ht rfl) (fun h=>(fV rfl h))) ?_))))))
  refine dq 19 7 rfl (cX (Ht rfl)) (C.D_step (Ei:=[(0,_),(20,_)]) rfl rfl (bV (bK rfl rfl) (bV (bG 8 rfl rfl) bW)) (eK rfl rfl (Ht rfl) (fun h=>cX (Ht rfl))) (C.D_step (Ei:=[(4,_),(20,_)]) rfl rfl (bV (bK rfl rfl) (bV (bG 8 rfl rfl) bW)) (eK rfl rfl (Ht rfl) (fun h=>uV (γ:=List Qi) (Ts:=fun r=>[cC r]) (U:=fun r=>aC (!decide (r.length = (a.getD 0 []).length))) Tryz.call266 (fun r=>Ey) ⟨(Ht rfl),trivial⟩)) (C.D_step (Ei:=[(21,_),(22,_),(20,_)]) rfl rfl (bV (bG 9 rfl rfl) (bV (bG 10 rfl rfl) (bV (bG 8 rfl rfl) bW))) (eK rfl rfl (Ht rfl) (fun h=>cZ Tryz.call118 (qH (l:=a) (T:=cC) (p:=fun r=>!decide (r.length = (a.getD 0 []).length)) zo) ⟨(fV rfl h),(fV rfl h),trivial⟩)) ?_)))
  refine C.D_step (Ei:=[(23,_),(20,_)]) rfl rfl (bV (bG 11 rfl rfl) (bV (bG 8 rfl rfl) bW)) (eK rfl rfl (Ht rfl) (fun h=>dR (fV rfl h))) (eA 20 8 24 12 rfl (fT (Ht rfl) (fun h=>(fV rfl h))) (dq 12 0 rfl (cQ (Ht rfl)) (fW bC rfl (by kernel_rfl) (zF (zF (zF (aJ (aJ (aJ (aV (ra rfl (eX (bE rfl (fZ (eU rfl) ?_) (fZ (eU rfl) ?_))))))))))))))
  ·exact (kC hr0)
  ·exact (gD (by rw [hr0,Uj ⟨rfl,h2⟩]; simp; omega))
theorem vO {a:List (List Qi)} {n k:Nat} (h:fO a n k) (h1:1 ≤ n ∨ k = 0) (hn:n ≤ 32) (hk:k ≤ 32):bA Tryz.prog 231 [cH a] (fE [NT .i64 k,aC true]):=by
 by_cases e:n = 0
 ·subst e
  obtain rfl:=List.length_eq_zero_iff.1 h.1
  rw [show k = 0 by omega]; exact Ex
 ·exact yO h zo hn hk
end
section
open Go Go.RowKit
theorem mM (v : Value) (w : World) : (method (Tryz.prog.types.size + Made.depth) 32 v "Add").run Tryz.prog w = .ok (33, v) w := by kernel_rfl
theorem jV (v : Value) (w : World) : (method (Tryz.prog.types.size + Made.depth) 32 v "Conj").run Tryz.prog w = .ok (317, v) w := by kernel_rfl
theorem cA (v : Value) (w : World) : (method (Tryz.prog.types.size + Made.depth) 32 v "Mul").run Tryz.prog w = .ok (29, v) w := by kernel_rfl
end
section
open Go Go.RowKit
theorem Nf {a b:List (List Qi)} {n k m L M:Nat} (ha:fO a n k) (hb:fO b k m) (hfa:bS a L) (hfb:bS b M) (hL1:1 ≤ L) (hM1:1 ≤ M) (hL:L ≤ 900000000000) (hM:M ≤ 900000000000) (hn1:1 ≤ n ∨ k = 0) (hk1:1 ≤ k ∨ m = 0) (hn:n ≤ 8) (hk:k ≤ 8) (hm:m ≤ 8):gO Tryz.prog 165 [cH a,cH b] [] (Nat) (fun B=>fE [Is (.slice (some ⟨B,0,none⟩) n n),aD .i64 0]) (fun B=>[pD B 54 32 5 (dA aF (uL a b n k m))]) (fun _=>True):=by
 have hal:=ha.1
 have hbl:=hb.1
 refine gO.intro Tryz.func165 rfl Tryz.ntmps165 rfl (fun cx Z=>(ts (ro rfl (cQ cV) (ro rfl (cQ (cJ 0)) (eX (ts (rm rfl (ro rfl (cZ Tryz.call231 (vO ha hn1 zo zo) ⟨(Ht rfl),trivial⟩) (rm rfl (ro rfl (dK (Ht rfl) rfl) (ro rfl (dK (Ht rfl) rfl) (ra rfl (ra rfl (eX (ts (rm rfl (ro rfl (cZ Tryz.call231 (vO hb hk1 zo zo) ⟨(Ht rfl),trivial⟩) (rm rfl (ro rfl (dK (Ht rfl) rfl) (ro rfl (dK (Ht rfl) rfl) (ra rfl (ra rfl (eX (cK (ts (rm rfl (ro rfl (dR (Ht rfl)) ?_)))))))))))))))))))))))))))
 refine rm rfl (fQ rfl rfl (eK rfl rfl (Ht rfl) (fun h=>cX (Ht rfl))) (fQ rfl rfl (eK rfl rfl (Ht rfl) (fun h=>dR (fV rfl h))) (ro rfl (gK (Ht rfl) (fun h=>(fV rfl h))) (rm rfl (fQ rfl rfl (eK rfl rfl (Ht rfl) (fun h=>cX (Ht rfl))) (fQ rfl rfl (eK rfl rfl (Ht rfl) (fun h=>cX (Ht rfl))) (fQ rfl rfl (eK rfl rfl (Ht rfl) (fun h=>dG U_78 (fV rfl h) aA)) (fQ rfl rfl (eK rfl rfl (Ht rfl) (fun h=>jW (fV rfl h) (fV rfl h))) (ro rfl (gK (Ht rfl) (fun h=>(fV rfl h))) ?_)))))))))
 refine eX (dQ (Ht rfl) (fun h0=>?_) (fun h0=>?_))
 ·exact absurd h0 (by simp [hbl])
 ·refine cU (ts (rm rfl (ro rfl (dG U_78 (Ht rfl) aA) (rn rfl (fS (T := Is (.slice none 0 0)) (i := Tryz.t54) V_78 lB rfl rfl (Ht rfl) rfl (fun _ => rfl) trivial (by show 24 * _ ≤ _; omega) zo) fun B39 => (ra rfl (eX (cK (ts (rm rfl (ro rfl (iY U_78 (Ht rfl)) (ro rfl (cX (cJ 0)) (eX (eG (oM 1 rfl (sG (e := 32) (s := 5)) ?_))))))))))))))
  refine dC (fun (i : Nat) => i ≤ n) (fun (i : Nat) => n - i) (fun (i : Nat) => [(0, cH a), (1, cH b), (6, NT .i64 k), (8, NT .i64 m), (10, Is (.slice (some ⟨B39, 0, none⟩) n n)), (41, NT .i64 n), (42, NT .i64 i)]) (fun (i : Nat) => [Z, pD B39 54 32 5 (dA aF (kB (fun i => tab m fun c => uI a b k i c) [] n i))]) 0 (Nat.zero_le _)
   (aQ rfl (aQ rfl (aQ rfl (aQ rfl (aZ rfl (fun v V h=>by rw [← hal]; exact h) (aZ rfl (kC hal) (zS rfl))))))) (aU (fun _ _ _ h=>h) (aU (cI (by rw [← jD,kL,hal]; exact lY aF n)) aY)) (fun i hi=>?_)
  refine ts (ro rfl (gJ (Ht rfl) (Ht rfl)) (eX (cK (dQ (Ht rfl) (fun hd=>?_) (fun hd=>?_)))))
  ·simp only [decide_eq_true_eq] at hd
   have har:=ha.row hd
   refine nR 1 (i) rfl (lR hd) (fun v=>(cU (cK (eG (ts (rm rfl (ra rfl (eX (ts (rm rfl (ro rfl (cX (cJ 0)) (eX (eG ?_)))))))))))))
   refine iW (fun (c : Nat) (v : Value) => c ≤ m) (fun (c : Nat) (v : Value) => m - c) (fun (c : Nat) (v : Value) => [(0, cH a), (1, cH b), (6, NT .i64 k), (8, NT .i64 m), (10, Is (.slice (some ⟨B39, 0, none⟩) n n)), (11, NT .i64 i), (41, NT .i64 n), (42, NT .i64 i), (45, NT .i64 m), (46, NT .i64 c)]) (fun (c : Nat) (v : Value) => [Z, Dc B39 54 32 5 (dA aF (kB (fun i => tab m fun c => uI a b k i c) [] n i)) i v, bH 32 5 v ((tab c fun c => uI a b k i c).map aF)]) 0 v (Nat.zero_le _)
    (zS rfl) (dO.refl _) (fun c v hc=>?_)
   refine ts (ro rfl (gJ (Ht rfl) (Ht rfl)) (eX (cK (dQ (Ht rfl) (fun he=>?_) (fun he=>?_)))))
   ·simp only [decide_eq_true_eq] at he
    have hk1:1 ≤ k:=by omega
    have hb0:=hb.row (i:=0) zo
    haveI f1:aE (gm a i 0) L:=hfa.get hL1 i 0
    haveI f2:aE (gm b 0 c) M:=hfb.get hM1 0 c
    refine cU (cK (eG (ts (rm rfl (ra rfl (eX (cK (fJ (m:=15) (dp 0 rfl (cX (Ht rfl)) (dp 11 rfl (cX (Ht rfl)) (eA 49 0 50 1 rfl (dZ U_78 Z_54 (Ht rfl) (Ht rfl) rfl (dY (dU (d:=[]) zo))) (dq 51 2 rfl (dJ A_54 Z_54 (Ht rfl)) (dq 52 3 rfl (dZ U_54 Z_32 (Ht rfl) (cJ 0) rfl (dY (dU (d:=Qi.zero) (by rw [har]; omega)))) ?_)))))))))))))
    refine dq 53 4 rfl (dJ A_32 Z_32 (Ht rfl)) (dq 54 5 rfl (aT bF (Ht rfl)) (dp 1 rfl (cX (Ht rfl)) (dq 56 7 rfl (dZ U_78 Z_54 (Ht rfl) (cJ 0) rfl (dY (dU (d:=[]) zo))) (dq 57 8 rfl (dJ A_54 Z_54 (Ht rfl)) (dp 12 rfl (cX (Ht rfl)) (eA 58 9 59 10 rfl (dZ U_54 Z_32 (Ht rfl) (Ht rfl) rfl (dY (dU (d:=Qi.zero) (by rw [hb0]; omega)))) ?_))))))
    refine dq 60 11 rfl (dJ A_32 Z_32 (Ht rfl)) (eA 55 6 61 12 rfl (aO cA K_29 (iP zo) (Ht rfl) ⟨(Ht rfl),trivial⟩) (C.D_new (Ei:=[]) rfl rfl rfl bW (eW (Ts:=[Is (.bool false),Is (.slice none 0 0),Is (.bool false),Is (.slice none 0 0),Is (.slice none 0 0)]) O_32 rfl (fun V=>aW zd (aW zd (aW zd (aW zd (aW zd (aG))))))) (fW bC rfl (by kernel_rfl) (zF (zF (zF (aJ (aJ (C.F_new (fun B13=>aV ?_))))))))))
    refine gZ Z_32 (Ht rfl) (Ht rfl) rfl (i:=3) rfl (aK rfl) rfl rfl (eX (cK (ts (ro rfl (cQ (cJ 1)) (eX (eG ?_))))))
    refine dC (fun (j : Nat) => 1 ≤ j ∧ j ≤ k) (fun (j : Nat) => k - j) (fun (j : Nat) => [(0, cH a), (1, cH b), (6, NT .i64 k), (8, NT .i64 m), (10, Is (.slice (some ⟨B39, 0, none⟩) n n)), (11, NT .i64 i), (12, NT .i64 c), (13, cB B13 0), (14, NT .i64 j), (41, NT .i64 n), (42, NT .i64 i), (45, NT .i64 m), (46, NT .i64 c)]) (fun (j : Nat) => [Z, Dc B39 54 32 5 (dA aF (kB (fun i => tab m fun c => uI a b k i c) [] n i)) i v, bH 32 5 v ((tab c fun c => uI a b k i c).map aF), box B13 32 [aC (decide ((eH j fun j => gm a i j * gm b j c).a < 0)), aI (eH j fun j => gm a i j * gm b j c).a.natAbs, aC (decide ((eH j fun j => gm a i j * gm b j c).b < 0)), aI (eH j fun j => gm a i j * gm b j c).b.natAbs, aI (du (eH j fun j => gm a i j * gm b j c))]]) 1 ⟨Nat.le_refl _, hk1⟩
     (zS rfl) (aU (fun _ _ _ h=>h) (aU (fun _ _ _ h=>h) (aU (fun _ _ _ h=>h) (aU (aH (by rw [Rx]; rfl)) aY)))) (fun j ⟨hj1,hj⟩=>?_)
    refine cK (ts (rm rfl (rm rfl (ro rfl (gJ (Ht rfl) (Ht rfl)) (eX (dQ (Ht rfl) (fun hf=>?_) (fun hf=>?_)))))))
    ·simp only [decide_eq_true_eq] at hf
     haveI f3:aE (gm a i j) L:=hfa.get hL1 i j
     haveI f4:aE (gm b j c) M:=hfb.get hM1 j c
     haveI f5:aE (eH j fun j=>gm a i j * gm b j c) (8 * (L + M) + 17):=Ic hfa hfb hL1 hM1 zo i c
     have hbj:=hb.row (i:=j) zo
     refine cU (cK (eG (fJ (m:=18) (dp 13 rfl (eJ A_32 Z_32 (Ht rfl) (i:=3) rfl rfl rfl) (dq 68 0 rfl (aT bF (Ht rfl)) (dp 0 rfl (cX (Ht rfl)) (dp 11 rfl (cX (Ht rfl)) (eA 70 2 71 3 rfl (dZ U_78 Z_54 (Ht rfl) (Ht rfl) rfl (dY (dU (d:=[]) zo))) (dq 72 4 rfl (dJ A_54 Z_54 (Ht rfl)) (dp 14 rfl (cX (Ht rfl)) (eA 73 5 74 6 rfl (dZ U_54 Z_32 (Ht rfl) (Ht rfl) rfl (dY (dU (d:=Qi.zero) (by rw [har]; omega)))) ?_)))))))))))
     refine dq 75 7 rfl (dJ A_32 Z_32 (Ht rfl)) (dq 76 8 rfl (aT bF (Ht rfl)) (dp 1 rfl (cX (Ht rfl)) (dp 14 rfl (cX (Ht rfl)) (eA 78 10 79 11 rfl (dZ U_78 Z_54 (Ht rfl) (Ht rfl) rfl (dY (dU (d:=[]) zo))) (dq 80 12 rfl (dJ A_54 Z_54 (Ht rfl)) (dp 12 rfl (cX (Ht rfl)) (eA 81 13 82 14 rfl (dZ U_54 Z_32 (Ht rfl) (Ht rfl) rfl (dY (dU (d:=Qi.zero) (by rw [hbj]; omega)))) ?_)))))))
     refine dq 83 15 rfl (dJ A_32 Z_32 (Ht rfl)) (eA 77 9 84 16 rfl (aO cA K_29 (iP zo) (Ht rfl) ⟨(Ht rfl),trivial⟩) (fW bC rfl (by kernel_rfl) (zF (zF (zF (zF (aJ (aJ (aV (ro rfl (aO mM K_33 (yN zo) (Ht rfl) ⟨(Ht rfl),trivial⟩) (gZ Z_32 (Ht rfl) (Ht rfl) rfl (i:=3) rfl (aK rfl) rfl rfl (eX (cD ?_)))))))))))))
     refine cY (rm rfl (ro rfl (dV (Ht rfl) (cJ 1) z6) (ra rfl (eX (gQ (j + 1) ⟨by omega,hf⟩ zo (zS rfl) (aU (fun _ _ _ h=>h) (aU (fun _ _ _ h=>h) (aU (fun _ _ _ h=>h) (aU (aH rfl) aY)))))))))
    ·simp only [decide_eq_false_iff_not] at hf
     obtain rfl:k = j:=Nat.le_antisymm zo hj
     refine gG rfl (Y.D_startA (m:=9) [] 8 2 rfl rfl (bY (Ei:=[(10,_)]) rfl rfl (bQ (bJ rfl rfl) bX) rfl rfl (dX rfl (cX (Ht rfl))) (bY (Ei:=[(11,_)]) rfl rfl (bQ (bJ rfl rfl) bX) rfl rfl (dX rfl (cX (Ht rfl))) (bY (Ei:=[(10,_)]) rfl rfl (bQ (bJ rfl rfl) bX) rfl rfl (dX rfl (cX (Ht rfl))) (bY (Ei:=[(11,_)]) rfl rfl (bQ (bJ rfl rfl) bX) rfl rfl (dX rfl (cX (Ht rfl))) (bY (Ei:=[(89,_),(90,_)]) rfl rfl (bQ (bZ 2 rfl rfl) (bQ (bZ 3 rfl rfl) bX)) rfl rfl (dX rfl (gX U_78 Z_54 (Ht rfl) (Ht rfl) rfl zo (by rw [Nat.mul_one,Nat.zero_add]))) ?_))))))
     refine bY (Ei:=[(91,_)]) rfl rfl (bQ (bZ 4 rfl rfl) bX) rfl rfl (dX rfl (jM A_54 Z_54 (Ht rfl) (j:=1) rfl)) (bY (Ei:=[(13,_)]) rfl rfl (bQ (bJ rfl rfl) bX) rfl rfl (dX rfl (eJ A_32 Z_32 (Ht rfl) (i:=3) rfl rfl rfl)) (bY (Ei:=[(93,_)]) rfl rfl (bQ (bZ 6 rfl rfl) bX) rfl rfl (dX rfl (cL (xs:=[.tmp 93]) U_54 Z_32 O_32 (cW (Ht rfl) cG) rfl rfl rfl)) (Y.D_app (Ei:=[(92,_),(94,_)]) rfl rfl rfl rfl (bQ (bZ 5 rfl rfl) (bQ (bZ 7 rfl rfl) bX)) rfl (rK (inf:=Tryz.t32) mC jU rfl rfl rfl (Ht rfl) (Ht rfl) (by simp) (fun T hT=>by simp at hT; subst hT; exact El.ag rfl) (by show _ * 88 ≤ _; simp only [List.length_map,aR,List.length_cons,List.length_nil]; omega) (by simp only [List.length_map,aR,List.length_cons,List.length_nil]; omega)) ?_)))
     refine Y.D_done bC rfl (by kernel_rfl) rfl (by simp [Y.okP]) rfl rfl (bU (bU (bU (bU (bU (bU (bU (bU (Y.F_app (fun v2=>Y.F_nil ?_))))))))))
     refine ro rfl (gX U_78 Z_54 (Ht rfl) (Ht rfl) rfl zo (by rw [Nat.mul_one,Nat.zero_add])) ?_
     refine vH Z_54 (Ht rfl) (Ht rfl) (by simp only [dA,List.length_map,eD]; omega) (j:=1) (l:=4) rfl rfl rfl ?_
     refine eX (cD (cY (ro rfl (dV (Ht rfl) (cJ 1) z6) (rm rfl (eX (dB [0,1,4] rfl (by decide) (gQ (c + 1,v2) he (by dsimp only; omega) (zS rfl) (aU (fun _ _ _ h=>h) (aU (fun _ _ _ h=>h) (aU (bN ((vJ aF _ (uI a b k i c)).trans (congrArg _ (sR c (fun c=>uI a b k i c)).symm))) aY))))))))))
   ·simp only [decide_eq_false_iff_not] at he
    obtain rfl:m = c:=Nat.le_antisymm zo hc
    refine gG rfl (cD (gF 1 2 rfl rfl (by decide) (by simp only [dA,List.length_map,eD]; omega) ?_))
    refine cY (ro rfl (dV (Ht rfl) (cJ 1) z6) (rm rfl (eX (dB [0,1] rfl (by decide) (gQ (i + 1) hd zo (zS rfl) (aU (fun _ _ _ h=>h) (aU (cI (by rw [iG,← kO (f:=(fun i=>tab m fun c=>uI a b k i c))])) aY)))))))
  ·simp only [decide_eq_false_iff_not] at hd
   obtain rfl:n = i:=Nat.le_antisymm zo hi
   refine gG rfl (ts (rm rfl (ra rfl (ro rfl (cQ (cJ 0)) (eX ?_)))))
   exact kF B39 trivial [0,1] ⟨⟨_,rfl,fun _ _ _ h=>h⟩,⟨_,rfl,(cI (by rw [kN]; rfl))⟩,trivial⟩ (by decide) (a1Z rfl (eU rfl) (eU rfl))
theorem Hj {a b:List (List Qi)} {n k m L M:Nat} (ha:fO a n k) (hb:fO b k m) (hfa:bS a L) (hfb:bS b M) (hL1:1 ≤ L) (hM1:1 ≤ M) (hL:L ≤ 900000000000) (hM:M ≤ 900000000000) (hn1:1 ≤ n) (hk1:1 ≤ k) (hn:n ≤ 8) (hk:k ≤ 8) (hm:m ≤ 8):gO Tryz.prog 165 [cH a,cH b] [] Nat (fun B=>fE [Is (.slice (some ⟨B,0,none⟩) n n),aD .i64 0]) (fun B=>[pD B 54 32 5 (dA aF (uL a b n k m))]) (fun _=>True):=Nf ha hb hfa hfb hL1 hM1 hL hM (.inl hn1) (.inl hk1) hn hk hm
theorem Zy {a b:List (List Qi)} {n k m L M:Nat} (ha:fO a n k) (hb:fO b k m) (hfa:bS a L) (hfb:bS b M) (hL1:1 ≤ L) (hM1:1 ≤ M) (hL:L ≤ 900000000000) (hM:M ≤ 900000000000) (hn1:1 ≤ n) (hk1:1 ≤ k) (hn:n ≤ 8) (hk:k ≤ 8) (hm:m ≤ 8):bA Tryz.prog 165 [cH a,cH b] (fE [cH (uL a b n k m),aD .i64 0]):=(Hj ha hb hfa hfb hL1 hM1 hL hM hn1 hk1 hn hk hm).fun fun B _ v S V h1 h2=>a28 h1 fun u hu=>iQ (s:=5) (M:=uL a b n k m) (aR _ _).symm u S V hu h2
theorem Zu {a:List (List Qi)} {n m:Nat} (ha:fO a n m) (hn1:1 ≤ n) (hn:n ≤ 8) (hm:m ≤ 8):gO Tryz.prog 213 [cH a] [] (Nat) (fun B=>fE [Is (.slice (some ⟨B,0,none⟩) m m),aD .i64 0]) (fun B=>[pD B 54 32 5 (dA aF (zQ a n m))]) (fun _=>True):=by
 have hal:=ha.1
 refine gO.intro Tryz.func213 rfl Tryz.ntmps213 rfl (fun cx Z=>(ts (ro rfl (cQ cV) (ro rfl (cQ (cJ 0)) (eX (ts (rm rfl (ro rfl (cZ Tryz.call231 (yO ha hn1 zo zo) ⟨(Ht rfl),trivial⟩) (rm rfl (ro rfl (dK (Ht rfl) rfl) (ro rfl (dK (Ht rfl) rfl) (ra rfl (ra rfl (eX (cK (ts (rm rfl (ro rfl (dR (Ht rfl)) (eX (dQ (Ht rfl) (fun h0=>?_) (fun h0=>?_)))))))))))))))))))))
 ·exact absurd h0 (by simp)
 ·refine cU (ts (rm rfl (rn rfl (fS (T := Is (.slice none 0 0)) (i := Tryz.t54) V_78 lB rfl rfl (Ht rfl) rfl (fun _ => rfl) trivial (by show 24 * _ ≤ _; omega) zo) fun B17 => (ra rfl (eX (cK (ts (rm rfl (ro rfl (iY U_78 (Ht rfl)) (ro rfl (cX (cJ 0)) (eX (eG (oM 1 rfl (sG (e := 32) (s := 5)) ?_)))))))))))))
  refine dC (fun (k : Nat) => k ≤ m) (fun (k : Nat) => m - k) (fun (k : Nat) => [(0, cH a), (6, Is (.slice (some ⟨B17, 0, none⟩) m m)), (19, NT .i64 m), (20, NT .i64 k)]) (fun (k : Nat) => [Z, pD B17 54 32 5 (dA aF (kB (fun k => tab n fun i => (gm a i k).conj) [] m k))]) 0 (Nat.zero_le _)
   (zS rfl) (aU (fun _ _ _ h=>h) (aU (cI (by rw [← jD,kL]; exact lY aF m)) aY)) (fun k hk=>?_)
  refine ts (ro rfl (gJ (Ht rfl) (Ht rfl)) (eX (cK (dQ (Ht rfl) (fun hd=>?_) (fun hd=>?_)))))
  ·simp only [decide_eq_true_eq] at hd
   refine nR 1 (k) rfl (lR hd) (fun v=>(cU (cK (eG (ts (rm rfl (ra rfl (eX (ts (rm rfl (ro rfl (dG U_78 (Ht rfl) aA) (ro rfl (cX (cJ 0)) (eX (eG ?_))))))))))))))
   refine iW (fun (i : Nat) (v : Value) => i ≤ n) (fun (i : Nat) (v : Value) => n - i) (fun (i : Nat) (v : Value) => [(0, cH a), (6, Is (.slice (some ⟨B17, 0, none⟩) m m)), (7, NT .i64 k), (19, NT .i64 m), (20, NT .i64 k), (24, NT .i64 n), (25, NT .i64 i)]) (fun (i : Nat) (v : Value) => [Z, Dc B17 54 32 5 (dA aF (kB (fun k => tab n fun i => (gm a i k).conj) [] m k)) k v, bH 32 5 v ((tab i fun i => (gm a i k).conj).map aF)]) 0 v (Nat.zero_le _)
    (aQ rfl (aQ rfl (aQ rfl (aQ rfl (aQ rfl (aZ rfl (kC hal) (zS rfl))))))) (dO.refl _) (fun i v hi=>?_)
   refine ts (ro rfl (gJ (Ht rfl) (Ht rfl)) (eX (cK (dQ (Ht rfl) (fun he=>?_) (fun he=>?_)))))
   ·simp only [decide_eq_true_eq] at he
    have har:=ha.row he
    refine cU (cK (eG (ts (rm rfl (ra rfl (eX (Y.D_startA (m:=17) [] 16 2 rfl rfl (bY (Ei:=[(6,_)]) rfl rfl (bQ (bJ rfl rfl) bX) rfl rfl (dX rfl (cX (Ht rfl))) (bY (Ei:=[(7,_)]) rfl rfl (bQ (bJ rfl rfl) bX) rfl rfl (dX rfl (cX (Ht rfl))) (bY (Ei:=[(6,_)]) rfl rfl (bQ (bJ rfl rfl) bX) rfl rfl (dX rfl (cX (Ht rfl))) (bY (Ei:=[(7,_)]) rfl rfl (bQ (bJ rfl rfl) bX) rfl rfl (dX rfl (cX (Ht rfl))) (bY (Ei:=[(30,_),(31,_)]) rfl rfl (bQ (bZ 2 rfl rfl) (bQ (bZ 3 rfl rfl) bX)) rfl rfl (dX rfl (gX U_78 Z_54 (Ht rfl) (Ht rfl) rfl zo (by rw [Nat.mul_one,Nat.zero_add]))) ?_))))))))))))
    refine bY (Ei:=[(32,_)]) rfl rfl (bQ (bZ 4 rfl rfl) bX) rfl rfl (dX rfl (jM A_54 Z_54 (Ht rfl) (j:=1) rfl)) (bY (Ei:=[(0,_)]) rfl rfl (bQ (bJ rfl rfl) bX) rfl rfl (dX rfl (cX (Ht rfl))) (bY (Ei:=[(8,_)]) rfl rfl (bQ (bJ rfl rfl) bX) rfl rfl (dX rfl (cX (Ht rfl))) (bY (Ei:=[(34,_),(35,_)]) rfl rfl (bQ (bZ 6 rfl rfl) (bQ (bZ 7 rfl rfl) bX)) rfl rfl (dX rfl (dZ U_78 Z_54 (Ht rfl) (Ht rfl) rfl (dY (dU (d:=[]) zo)))) ?_)))
    refine bY (Ei:=[(36,_)]) rfl rfl (bQ (bZ 8 rfl rfl) bX) rfl rfl (dX rfl (dJ A_54 Z_54 (Ht rfl))) (bY (Ei:=[(7,_)]) rfl rfl (bQ (bJ rfl rfl) bX) rfl rfl (dX rfl (cX (Ht rfl))) (bY (Ei:=[(37,_),(38,_)]) rfl rfl (bQ (bZ 9 rfl rfl) (bQ (bZ 10 rfl rfl) bX)) rfl rfl (dX rfl (dZ U_54 Z_32 (Ht rfl) (Ht rfl) rfl (dY (dU (d:=Qi.zero) (by rw [har]; omega))))) ?_))
    refine bY (Ei:=[(39,_)]) rfl rfl (bQ (bZ 11 rfl rfl) bX) rfl rfl (dX rfl (dJ A_32 Z_32 (Ht rfl))) (bY (Ei:=[(40,_)]) rfl rfl (bQ (bZ 12 rfl rfl) bX) rfl rfl (dX rfl (aT bF (Ht rfl))) (bY (Ei:=[(41,_)]) rfl rfl (bQ (bZ 13 rfl rfl) bX) rfl rfl (dX rfl (aO jV Tryz.call317 vM (Ht rfl) trivial)) (bY (Ei:=[(42,_)]) rfl rfl (bQ (bZ 14 rfl rfl) bX) rfl rfl (dX rfl (cL (xs:=[.tmp 42]) U_54 Z_32 O_32 (cW (Ht rfl) cG) rfl rfl rfl)) ?_)))
    refine Y.D_app (Ei:=[(33,_),(43,_)]) rfl rfl rfl rfl (bQ (bZ 5 rfl rfl) (bQ (bZ 15 rfl rfl) bX)) rfl (rK (inf:=Tryz.t32) mC jU rfl rfl rfl (Ht rfl) (Ht rfl) (by simp) (fun T hT=>by simp at hT; subst hT; exact El.ag rfl) (by show _ * 88 ≤ _; simp only [List.length_map,aR,List.length_cons,List.length_nil]; omega) (by simp only [List.length_map,aR,List.length_cons,List.length_nil]; omega)) ?_
    refine Y.D_done bC rfl (by kernel_rfl) rfl (by simp [Y.okP]) rfl rfl (bU (bU (bU (bU (bU (bU (bU (bU (bU (bU (bU (bU (bU (bU (bU (bU (Y.F_app (fun v2=>Y.F_nil ?_))))))))))))))))))
    refine ro rfl (gX U_78 Z_54 (Ht rfl) (Ht rfl) rfl zo (by rw [Nat.mul_one,Nat.zero_add])) ?_
    refine vH Z_54 (Ht rfl) (Ht rfl) (by simp only [dA,List.length_map,eD]; omega) (j:=1) (l:=3) rfl rfl rfl ?_
    refine eX (cD (cY (ro rfl (dV (Ht rfl) (cJ 1) z6) (rm rfl (eX (dB [0,1,3] rfl (by decide) (gQ (i + 1,v2) he (by dsimp only; omega) (zS rfl) (aU (fun _ _ _ h=>h) (aU (fun _ _ _ h=>h) (aU (bN ((vJ aF _ (gm a i k).conj).trans (congrArg _ (sR i (fun i=>(gm a i k).conj)).symm))) aY))))))))))
   ·simp only [decide_eq_false_iff_not] at he
    obtain rfl:n = i:=Nat.le_antisymm zo hi
    refine gG rfl (cD (gF 1 2 rfl rfl (by decide) (by simp only [dA,List.length_map,eD]; omega) ?_))
    refine cY (ro rfl (dV (Ht rfl) (cJ 1) z6) (rm rfl (eX (dB [0,1] rfl (by decide) (gQ (k + 1) hd zo (zS rfl) (aU (fun _ _ _ h=>h) (aU (cI (by rw [iG,← kO (f:=(fun k=>tab n fun i=>(gm a i k).conj))])) aY)))))))
  ·simp only [decide_eq_false_iff_not] at hd
   obtain rfl:m = k:=Nat.le_antisymm zo hk
   refine gG rfl (ts (rm rfl (ra rfl (ro rfl (cQ (cJ 0)) (eX ?_)))))
   exact kF B17 trivial [0,1] ⟨⟨_,rfl,fun _ _ _ h=>h⟩,⟨_,rfl,(cI (by rw [kN]; rfl))⟩,trivial⟩ (by decide) (a1Z rfl (eU rfl) (eU rfl))
theorem a1r {a:List (List Qi)} {n m:Nat} (ha:fO a n m) (hn1:1 ≤ n) (hn:n ≤ 8) (hm:m ≤ 8):bA Tryz.prog 213 [cH a] (fE [cH (zQ a n m),aD .i64 0]):=(Zu ha hn1 hn hm).fun fun B _ v S V h1 h2=>a28 h1 fun u hu=>iQ (s:=5) (M:=zQ a n m) (aR _ _).symm u S V hu h2
theorem Tv {z:List Qi} {s:List (List Qi)} (hsh:fO s z.length z.length) (hl:z.length ≤ 8):gO Tryz.prog 122 [iV z s] [] (Nat) (fun B=>Is (.slice (some ⟨B,0,none⟩) z.length z.length)) (fun B=>[pD B 54 32 5 (dA aF (tab z.length fun i=>tab z.length fun k=>gm s i k))]) (fun _=>True):=by
 refine gO.intro Tryz.func122 rfl Tryz.ntmps122 rfl (fun cx Z=>(ts (rn rfl (fK (Ht rfl)) fun B1=>(ro rfl (cQ cV) (eX (ts (ro rfl (eJ A_80 Z_80 (Ht rfl) (i:=1) rfl rfl rfl) (ro rfl (cZ K_117 nT ⟨(Ht rfl),trivial⟩) (rn rfl (fS (T:=Is (.slice none 0 0)) (i:=Tryz.t54) V_78 lB rfl rfl (Ht rfl) rfl (fun _=>rfl) trivial (by show 24 * _ ≤ _; omega) zo) fun B10=>(ra rfl (eX (cK (ts (rm rfl (ro rfl (iY U_78 (Ht rfl)) (ro rfl (cX (cJ 0)) (eX (eG ?_))))))))))))))))))
 refine oM 2 rfl (sG (e:=32) (s:=5)) ?_
 refine dC (fun (i : Nat) => i ≤ z.length) (fun (i : Nat) => z.length - i) (fun (i : Nat) => [(1, cB B1 0), (3, Is (.slice (some ⟨B10, 0, none⟩) z.length z.length)), (12, NT .i64 z.length), (13, NT .i64 i)]) (fun (i : Nat) => [Z, box B1 80 [cC z, cH s], pD B10 54 32 5 (dA aF (kB (fun i => tab z.length fun k => gm s i k) [] z.length i))]) 0 (Nat.zero_le _)
  (zS rfl) (aU (fun _ _ _ h=>h) (aU (fun _ _ _ h=>h) (aU (cI (by rw [← jD,kL]; exact lY aF z.length)) aY))) (fun i hi=>?_)
 refine ts (ro rfl (gJ (Ht rfl) (Ht rfl)) (eX (cK (dQ (Ht rfl) (fun hd=>?_) (fun hd=>?_)))))
 ·simp only [decide_eq_true_eq] at hd
  refine nR 2 (i) rfl (lR hd) (fun v=>(cU (cK (eG (ts (rm rfl (ra rfl (eX (ts (rm rfl (ro rfl (iY U_78 (Ht rfl)) (ro rfl (cX (cJ 0)) (eX (eG ?_))))))))))))))
  refine iW (fun (k : Nat) (v : Value) => k ≤ z.length) (fun (k : Nat) (v : Value) => z.length - k) (fun (k : Nat) (v : Value) => [(1, cB B1 0), (3, Is (.slice (some ⟨B10, 0, none⟩) z.length z.length)), (4, NT .i64 i), (12, NT .i64 z.length), (13, NT .i64 i), (17, NT .i64 z.length), (18, NT .i64 k)]) (fun (k : Nat) (v : Value) => [Z, box B1 80 [cC z, cH s], Dc B10 54 32 5 (dA aF (kB (fun i => tab z.length fun k => gm s i k) [] z.length i)) i v, bH 32 5 v ((tab k fun k => gm s i k).map aF)]) 0 v (Nat.zero_le _)
   (zS rfl) (dO.refl _) (fun k v hk=>?_)
  refine ts (ro rfl (gJ (Ht rfl) (Ht rfl)) (eX (cK (dQ (Ht rfl) (fun he=>?_) (fun he=>?_)))))
  ·simp only [decide_eq_true_eq] at he
   refine cU (cK (eG (ts (rm rfl (ra rfl (eX (ts (ro rfl (eJ A_80 Z_80 (Ht rfl) (i:=1) rfl rfl rfl) (rm rfl (ro rfl (dV (Ht rfl) (cJ 1) z6) (rm rfl (ro rfl (dV (Ht rfl) (cJ 1) z6) (ro rfl (cZ Tryz.call130 (a2g (i:=(i:Int) + 1) (j:=(k:Int) + 1) hsh zo) ⟨(Ht rfl),(Ht rfl),(Ht rfl),trivial⟩) (rm rfl (ro rfl (dK (Ht rfl) rfl) (ro rfl (dK (Ht rfl) rfl) ?_))))))))))))))))
   refine rn rfl (eW (Ts:=[Is (.bool false),Is (.slice none 0 0),Is (.bool false),Is (.slice none 0 0),Is (.slice none 0 0)]) O_32 rfl (fun V=>aW zd (aW zd (aW zd (aW zd (aW zd (aG))))))) fun B6=>gZ Z_32 (Ht rfl) (Ht rfl) rfl (i:=4) rfl (aK rfl) rfl rfl (ra rfl (eX (Y.D_startA (m:=9) [] 8 3 rfl rfl (bY (Ei:=[(3,_)]) rfl rfl (bQ (bJ rfl rfl) bX) rfl rfl (dX rfl (cX (Ht rfl))) ?_))))
   refine bY (Ei:=[(4,_)]) rfl rfl (bQ (bJ rfl rfl) bX) rfl rfl (dX rfl (cX (Ht rfl))) (bY (Ei:=[(3,_)]) rfl rfl (bQ (bJ rfl rfl) bX) rfl rfl (dX rfl (cX (Ht rfl))) (bY (Ei:=[(4,_)]) rfl rfl (bQ (bJ rfl rfl) bX) rfl rfl (dX rfl (cX (Ht rfl))) (bY (Ei:=[(32,_),(33,_)]) rfl rfl (bQ (bZ 2 rfl rfl) (bQ (bZ 3 rfl rfl) bX)) rfl rfl (dX rfl (gX U_78 Z_54 (Ht rfl) (Ht rfl) rfl zo (by rw [Nat.mul_one,Nat.zero_add]))) ?_)))
   refine bY (Ei:=[(34,_)]) rfl rfl (bQ (bZ 4 rfl rfl) bX) rfl rfl (dX rfl (jM A_54 Z_54 (Ht rfl) (j:=2) rfl)) (bY (Ei:=[(6,_)]) rfl rfl (bQ (bJ rfl rfl) bX) rfl rfl (dX rfl (eJ A_32 Z_32 (Ht rfl) (i:=4) rfl rfl rfl)) (bY (Ei:=[(36,_)]) rfl rfl (bQ (bZ 6 rfl rfl) bX) rfl rfl (dX rfl (cL (xs:=[.tmp 36]) U_54 Z_32 O_32 (cW (Ht rfl) cG) rfl rfl rfl)) (Y.D_app (Ei:=[(35,_),(37,_)]) rfl rfl rfl rfl (bQ (bZ 5 rfl rfl) (bQ (bZ 7 rfl rfl) bX)) rfl (rK (inf:=Tryz.t32) mC jU rfl rfl rfl (Ht rfl) (Ht rfl) (by simp) (fun T hT=>by simp at hT; subst hT; exact El.ag rfl) (by show _ * 88 ≤ _; simp only [List.length_map,aR,List.length_cons,List.length_nil]; omega) (by simp only [List.length_map,aR,List.length_cons,List.length_nil]; omega)) ?_)))
   refine Y.D_done bC rfl (by kernel_rfl) rfl (by simp [Y.okP]) rfl rfl (bU (bU (bU (bU (bU (bU (bU (bU (Y.F_app (fun v2=>Y.F_nil ?_))))))))))
   refine ro rfl (gX U_78 Z_54 (Ht rfl) (Ht rfl) rfl zo (by rw [Nat.mul_one,Nat.zero_add])) ?_
   refine vH Z_54 (Ht rfl) (Ht rfl) (by simp only [dA,List.length_map,eD]; omega) (j:=2) (l:=5) rfl rfl rfl ?_
   refine eX (cD (cY (ro rfl (dV (Ht rfl) (cJ 1) z6) (rm rfl (eX (dB [0,1,2,5] rfl (by decide) (gQ (k + 1,v2) he (by dsimp only; omega) (zS rfl) (aU (fun _ _ _ h=>h) (aU (fun _ _ _ h=>h) (aU (fun _ _ _ h=>h) (aU (bN (by rw [sR,List.map_append,a0V hd he]; rfl)) aY)))))))))))
  ·simp only [decide_eq_false_iff_not] at he
   obtain rfl:k = z.length:=Nat.le_antisymm hk zo
   refine gG rfl (cD (gF 2 3 rfl rfl (by decide) (by simp only [dA,List.length_map,eD]; omega) ?_))
   refine cY (ro rfl (dV (Ht rfl) (cJ 1) z6) (rm rfl (eX (dB [0,1,2] rfl (by decide) (gQ (i + 1) hd zo (zS rfl) (aU (fun _ _ _ h=>h) (aU (fun _ _ _ h=>h) (aU (cI (by rw [iG,← kO (f:=(fun i=>tab z.length fun k=>gm s i k))])) aY))))))))
 ·simp only [decide_eq_false_iff_not] at hd
  obtain rfl:i = z.length:=Nat.le_antisymm hi zo
  refine gG rfl (ts (rm rfl (ra rfl (eX ?_))))
  exact kF B10 trivial [0,2] ⟨⟨_,rfl,fun _ _ _ h=>h⟩,⟨_,rfl,(cI (by rw [kN]))⟩,trivial⟩ (by decide) (wZ rfl (eU rfl))
theorem zZ {z : List Qi} {s : List (List Qi)} (hsh : fO s z.length z.length) (hl : z.length ≤ 8) : bA Tryz.prog 122 [iV z s] (cH s) := (Tv hsh hl).fun fun B _ v S V h1 h2 => by
 have h3:=iQ (s:=5) (M:=tab z.length fun i=>tab z.length fun k=>gm s i k) (aR _ _).symm v S V h1 h2
 rw [← sH hsh] at h3; exact h3
theorem No {z:List Qi} {s:List (List Qi)} (hl:z.length ≤ 8):bA Tryz.prog 247 [iV z s] (cC z):=by
 refine bA.intro Tryz.func247 rfl Tryz.ntmps247 rfl (fun cx=>(ts (rn rfl (fK (Ht rfl)) fun B1=>(ro rfl (cQ cV) (eX (ts (ro rfl (eJ A_80 Z_80 (Ht rfl) (i:=0) rfl rfl rfl) (ro rfl (cZ K_117 nT ⟨(Ht rfl),trivial⟩) (rn rfl (nF (T:=aF Qi.zero) (i:=Tryz.t32) mC jU rfl rfl (Ht rfl) rfl jL (El.ag rfl) (by show 88 * _ ≤ _; omega) zo) fun B7=>(ra rfl (eX (cK (ts (rm rfl (ro rfl (mP U_54 (Ht rfl) (i:=1) rfl (show ((List.replicate z.length (aF Qi.zero)).length:Int) = ((z.length:Nat):Int) by simp)) ?_)))))))))))))))
 refine ro rfl (cX (cJ 0)) (eX (eG ?_))
 refine iW (fun (k : Nat) (out : List Qi) => mZ (fun i => gv z i) z.length out k) (fun (k : Nat) (out : List Qi) => z.length - k) (fun (k : Nat) (out : List Qi) => [(1, cB B1 0), (3, Is B7), (9, NT .i64 z.length), (10, NT .i64 k)]) (fun (k : Nat) (out : List Qi) => [box B1 80 [cC z, cH s], bH 32 5 B7 (out.map aF)]) 0 (List.replicate z.length Qi.zero) (mZ.start _ _ _)
  (zS rfl) (aU (fun _ _ _ h=>h) (aU (bN (wX aF _ _)) aY)) (fun k out hS=>?_)
 refine ts (ro rfl (gJ (Ht rfl) (Ht rfl)) (eX (cK (dQ (Ht rfl) (fun hk=>?_) (fun hk=>?_)))))
 ·simp only [decide_eq_true_eq] at hk
  have hlen:=hS.len
  refine cU (cK (eG (ts (rm rfl (ra rfl (eX (cY (rm rfl (rm rfl (ro rfl (eJ A_80 Z_80 (Ht rfl) (i:=0) rfl rfl rfl) (rm rfl (ro rfl (dV (Ht rfl) (cJ 1) z6) (ro rfl (cZ Tryz.call124 (Ng (i:=(k:Int) + 1) zo) ⟨(Ht rfl),(Ht rfl),trivial⟩) (rm rfl (ro rfl (dK (Ht rfl) rfl) (ro rfl (dK (Ht rfl) rfl) (ro rfl (fA U_54 Z_32 (Ht rfl) (Ht rfl) rfl (i:=1) rfl (by first | omega | (simp; omega)) rfl) ?_)))))))))))))))))
  refine oH Z_32 (Ht rfl) (Ht rfl) (El.ag rfl) (i:=1) rfl rfl (by first | omega | (simp; omega)) rfl (eX (cD (cY (ro rfl (dV (Ht rfl) (cJ 1) z6) (rm rfl (eX (gQ (k + 1,_) (hS.next hk (Fw hk)) (by dsimp only; omega) (zS rfl) (aU (fun _ _ _ h=>h) (aU (bN (iH aF _ _ _)) aY)))))))))
 ·simp only [decide_eq_false_iff_not] at hk
  obtain rfl:k = z.length:=Nat.le_antisymm hS.kle zo
  have hfin:=hS.fin.trans (Db (l:=z) rfl).symm
  refine gG rfl (gW (i:=1) (tt:=3) rfl rfl jT (ts (rm rfl (ra rfl (eX (fG rfl (fZ (eU rfl) ?_)))))))
  exact (rH (by rw [hfin]))
end
section
open Go Go.RowKit
theorem sA (a:Addr) (w:World):(Instr.fieldAt 84 (.pointer (some a)) 0).run Tryz.prog w = .ok (.pointer (some (a.add 0))) w:=by
 simp [Instr.fieldAt,Instr.sureAddr,fieldPlace,Sem.run_bind,Result.andThen,U_84,Z_80]
theorem mN (v : Value) (w : World) : (method (Tryz.prog.types.size + Made.depth) 32 v "Div").run Tryz.prog w = .ok (142, v) w := by kernel_rfl
theorem jP (v : Value) (w : World) : (method (Tryz.prog.types.size + Made.depth) 32 v "Sub").run Tryz.prog w = .ok (32, v) w := by kernel_rfl
end
section
open Go Go.RowKit
theorem Ew {p c:List (List Qi)} {n m L:Nat} (hp:fO p n m) (hc:fO c m m) (hfp:bS p L) (hfc:bS c L) (hL1:1 ≤ L) (hL:L ≤ 1000000000) (hn1:1 ≤ n) (hm1:1 ≤ m) (hn:n ≤ 8) (hm:m ≤ 8):gO Tryz.prog 126 [cH p,cH c] [] (Nat) (fun B=>Is (.slice (some ⟨B,0,none⟩) n n)) (fun B=>[pD B 54 32 5 (dA aF (kA p c))]) (fun _=>True):=by
 have hpl:=hp.1
 have hf1:=Pr (n:=n) (m:=m) hfp hfc hL1 hL1 hm
 have hf2:=Mt (n:=n) (m:=m) hfp hL1
 have hs1:fO (uL p c n m m) n m:=Ps
 have hs2:fO (zQ p n m) m n:=Mu
 refine gO.intro Tryz.func126 rfl Tryz.ntmps126 rfl (fun cx Z=>(ts (ro rfl (cQ cV) (eX (cK (ts (rm rfl (ro rfl (dG U_78 (Ht rfl) aA) (ro rfl (dI (Ht rfl) (cJ 0)) (eX (dQ (Ht rfl) (fun h0=>?_) (fun h0=>?_))))))))))))
 ·simp only [decide_eq_true_eq] at h0
  omega
 ·refine cU (ts (rm rfl (rm rfl (ro rfl (cZ Tryz.call165 (Zy hp hc hfp hfc hL1 hL1 zo zo hn1 hm1 hn hm hm) ⟨(Ht rfl), (Ht rfl), trivial⟩) (rm rfl (ro rfl (dK (Ht rfl) rfl) (ro rfl (dK (Ht rfl) rfl) (ra rfl (ra rfl (eX (ts (rm rfl (ro rfl (cZ Tryz.call213 (a1r hp hn1 hn hm) ⟨(Ht rfl), trivial⟩) (rm rfl (ro rfl (dK (Ht rfl) rfl) (ro rfl (dK (Ht rfl) rfl) (ra rfl (ra rfl (eX (ts (rm rfl (rm rfl (kY Tryz.call165 (Hj (a := uL p c n m m) (b := zQ p n m) hs1 hs2 hf1 hf2 zo hL1 zo zo hn1 hm1 hn hm hn) ⟨(Ht rfl), (Ht rfl), trivial⟩ rfl (fun B28 _ => ?_))))))))))))))))))))))))
  refine rm rfl (ro rfl (dK (Ht rfl) rfl) (ro rfl (dK (Ht rfl) rfl) (ra rfl (ra rfl (eX (ts (rm rfl (ra rfl (eX ?_)))))))))
  exact kF B28 trivial [0,1] ⟨⟨_,rfl,fun _ _ _ h=>h⟩,⟨_,rfl,(cI (by rw [a09 hp hc]))⟩,trivial⟩ (by decide) (wZ rfl (eU rfl))
theorem a1w {p c:List (List Qi)} {n m L:Nat} (hp:fO p n m) (hc:fO c m m) (hfp:bS p L) (hfc:bS c L) (hL1:1 ≤ L) (hL:L ≤ 1000000000) (hn1:1 ≤ n) (hm1:1 ≤ m) (hn:n ≤ 8) (hm:m ≤ 8):bA Tryz.prog 126 [cH p,cH c] (cH (kA p c)):=(Ew hp hc hfp hfc hL1 hL hn1 hm1 hn hm).fun fun B _ v S V h1 h2=>iQ (s:=5) (M:=kA p c) (by rw [rT.1,hp.1]) v S V h1 h2
theorem Bw {z:List Qi} {s c:List (List Qi)} {g t0:Qi} {L:Nat} (hz:fH z L) (hs:bS s L) (hc:bS c L) (hg:aE g L) (ht:aE t0 L) (hL1:1 ≤ L) (hL:L ≤ 4000) (hsh:fO s z.length z.length) (hch:fO c z.length z.length) (hl:z.length ≤ 8):bA Tryz.prog 44 [gS z s c,aF g,aF t0] (fE [aF (sB z s c g t0).1,aD .i64 (sB z s c g t0).2]):=by
 haveI:=hg; haveI:=ht
 haveI hz0:aE Qi.zero 1:=aE.zero (Nat.le_refl 1)
 have d1:(dg (((1:Nat):Int)).natAbs).length = 1:=by decide
 have d2:(dg (Int.natAbs 1)).length = 1:=by decide
 have hcl:=hch.1
 refine bA.intro Tryz.func44 rfl Tryz.ntmps44 rfl (fun cx=>(ts (rn rfl (fK (Ht rfl)) fun B3=>(rn rfl (fK (Ht rfl)) fun B4=>(rn rfl (fK (Ht rfl)) fun B5=>(rn rfl (eW (Ts:=[Is (.bool false),Is (.slice none 0 0),Is (.bool false),Is (.slice none 0 0),Is (.slice none 0 0)]) O_32 rfl (fun V=>aW zd (aW zd (aW zd (aW zd (aW zd (aG))))))) fun B6=>(ro rfl (cQ (cJ 0)) (eX (ts (rn rfl (eW (Ts:=[Is (.bool false),Is (.slice none 0 0),Is (.bool false),Is (.slice none 0 0),Is (.slice none 0 0)]) O_32 rfl (fun V=>aW zd (aW zd (aW zd (aW zd (aW zd (aG))))))) fun B8=>?_))))))))))
 refine eX (cK (cK (fJ (m:=6) (dp 5 rfl (eJ A_32 Z_32 (Ht rfl) (i:=2) rfl rfl rfl) (dq 18 0 rfl (cZ Tryz.call35 vN ⟨(Ht rfl),trivial⟩) (dq 19 1 rfl (dR (Ht rfl)) (dq 20 2 rfl (cX (Ht rfl)) (C.D_step (Ei:=[(5,_),(21,_)]) rfl rfl (bV (bK rfl rfl) (bV (bG 3 rfl rfl) bW)) (eK rfl rfl (Ht rfl) (fun h=>eJ A_32 Z_32 (Ht rfl) (i:=2) rfl rfl rfl)) (C.D_step (Ei:=[(21,_)]) rfl rfl (bV (bG 3 rfl rfl) bW) (eK rfl rfl (Ht rfl) (fun h=>cZ K_36 (gY (n:=0) (by decide) (by decide)) ⟨(cJ 0),trivial⟩)) ?_)))))))))
 refine fW bC rfl (by kernel_rfl) (zF (aJ (aJ (aV (fQ rfl rfl (eK rfl rfl (Ht rfl) (fun h=>cZ K_30 (tV (x:=t0) (y:=Qi.zero) (M:=1) zo) ⟨(fV rfl h),(fV rfl h),trivial⟩)) (fQ rfl rfl (eK rfl rfl (Ht rfl) (fun h=>wV (fV rfl h) cV)) (ro rfl (gK (Ht rfl) (fun h=>(fV rfl h))) (eX (dQ (Ht rfl) (fun hb=>?_) (fun hb=>?_))))))))))
 ·rw [Iv] at hb
  simp only [Bool.not_eq_true'] at hb
  have he:sB z s c g t0 = (Qi.zero,1):=by rw [sB,if_pos hb]
  refine ts (ro rfl (eJ A_32 Z_32 (Ht rfl) (i:=4) rfl rfl rfl) (gZ Z_32 (Ht rfl) (Ht rfl) rfl (i:=3) rfl (aK rfl) rfl rfl (ro rfl (cQ (cJ 1)) (eX (bE rfl (fZ (fU A_32 Z_32 rfl (i:=3) rfl rfl) ?_) (fZ (eU rfl) ?_))))))
  ·exact (fun v V k=>by rw [he]; exact iA v V k)
  ·exact (fun v V k=>by rw [he]; exact k)
 ·rw [Iv] at hb
  simp only [Bool.not_eq_false'] at hb
  have hb2:¬ kH t0 = false:=by rw [hb]; decide
  refine cU (cK (ts (ro rfl (eZ mI (Ht rfl) rfl) (ro rfl (eY A_78 Z_78 (Ht rfl) (i:=0) rfl rfl) (ro rfl (dG U_78 (Ht rfl) aA) (ro rfl (jW (Ht rfl) (cJ 2)) (eX (dQ (Ht rfl) (fun hd=>?_) (fun hd=>?_)))))))))
  ·have hd2 : z.length ≠ 2 := by rw [← hcl]; simpa using hd
   have he:sB z s c g t0 = (Qi.zero,4):=by rw [sB,if_neg hb2,if_pos hd2]
   refine ts (ro rfl (eJ A_32 Z_32 (Ht rfl) (i:=4) rfl rfl rfl) (gZ Z_32 (Ht rfl) (Ht rfl) rfl (i:=3) rfl (aK rfl) rfl rfl (ro rfl (cQ (cJ 4)) (eX (bE rfl (fZ (fU A_32 Z_32 rfl (i:=3) rfl rfl) ?_) (fZ (eU rfl) ?_))))))
   ·exact (fun v V k=>by rw [he]; exact iA v V k)
   ·exact (fun v V k=>by rw [he]; exact k)
  ·have hd2 : z.length = 2 := by rw [← hcl]; simpa using hd
   have hd3:¬ z.length ≠ 2:=fun h=>h hd2
   have hsh2:=hsh
   rw [hd2] at hsh hch
   have hs1:=hsh.1
   have hc1:=hch.1
   have hr0:=hsh.row (i:=0) (by decide)
   have hr1:=hsh.row (i:=1) (by decide)
   have hWf:=Cr hs hg hL1
   have hW:fO (Pb s g) 1 2:=⟨rfl,fun r hr=>by have:=List.mem_singleton.1 hr; subst this; rfl⟩
   have hXs:fO (kA (Pb s g) c) 1 1:=rT
   have hX0:=hXs.row (i:=0) (by decide)
   have hp1:=pk1 (z:=z) zo
   haveI f1:aE (gm s 1 0) L:=hs.get hL1 1 0
   haveI f2:aE (gm s 0 0) L:=hs.get hL1 0 0
   haveI f3:aE (Qs z ((1:Nat):Int)) L:=by rw [hp1]; exact hz.get hL1 0
   haveI f4:=Pc hs hc hg hL1 zo
   have hpd:gm s 1 0 * (gm s 1 0).conj * (t0 * Qs z ((1:Nat):Int)) * (tK - g * g.conj) = xR z s g t0:=by rw [hp1,Qi.mul_conj_norm,Qi.mul_conj_norm,xR,Qi.mul_assoc']
   refine cU (ts (ro rfl (eZ sA (Ht rfl) rfl) (ro rfl (eJ A_80 Z_80 (Ht rfl) (i:=0) rfl rfl rfl) (ro rfl (cZ Tryz.call122 (zZ hsh2 zo) ⟨(Ht rfl),trivial⟩) (ro rfl (cZ K_36 (gY (n:=1) (by decide) (by decide)) ⟨(cJ 1),trivial⟩) (ro rfl (cZ K_123 Ce ⟨(Ht rfl),trivial⟩) (rn rfl (eW (Ts:=[Is (.bool false),Is (.slice none 0 0),Is (.bool false),Is (.slice none 0 0),Is (.slice none 0 0)]) O_32 rfl (fun V=>aW zd (aW zd (aW zd (aW zd (aW zd (aG))))))) fun B10=>?_)))))))
   refine ra rfl (gZ Z_32 (Ht rfl) (Ht rfl) rfl (i:=5) rfl (aK rfl) rfl rfl (eX (ts (ro rfl (eZ sA (Ht rfl) rfl) (ro rfl (eJ A_80 Z_80 (Ht rfl) (i:=0) rfl rfl rfl) (ro rfl (cZ Tryz.call124 (Ng (i:=((1:Nat):Int)) zo) ⟨(Ht rfl),(cJ 1),trivial⟩) (rm rfl (ro rfl (dK (Ht rfl) rfl) (ro rfl (dK (Ht rfl) rfl) (rn rfl (eW (Ts:=[Is (.bool false),Is (.slice none 0 0),Is (.bool false),Is (.slice none 0 0),Is (.slice none 0 0)]) O_32 rfl (fun V=>aW zd (aW zd (aW zd (aW zd (aW zd (aG))))))) fun B11=>?_))))))))))
   refine gZ Z_32 (Ht rfl) (Ht rfl) rfl (i:=6) rfl (aK rfl) rfl rfl (ra rfl (eX (cK (rP (E':=[(3,_),(4,_),(5,_),(6,_),(7,_),(8,_),(9,_),(10,_),(11,_)]) (zS rfl) (fJ (m:=18) (dp 9 rfl (cX (Ht rfl)) (dq 44 0 rfl (dZ U_78 Z_54 (Ht rfl) (cJ 1) rfl (dY (dU (d:=[]) zo))) (dq 45 1 rfl (dJ A_54 Z_54 (Ht rfl)) (dq 46 2 rfl (dZ U_54 Z_32 (Ht rfl) (cJ 0) rfl (dY (dU (d:=Qi.zero) (by rw [hr1]; decide)))) ?_)))))))))
   refine dq 47 3 rfl (dJ A_32 Z_32 (Ht rfl)) (dq 48 4 rfl (aT bF (Ht rfl)) (dp 4 rfl (eJ A_32 Z_32 (Ht rfl) (i:=1) rfl rfl rfl) (eA 49 5 50 6 rfl (aO cA K_29 (iP zo) (Ht rfl) ⟨(Ht rfl),trivial⟩) (dp 10 rfl (eJ A_32 Z_32 (Ht rfl) (i:=5) rfl rfl rfl) (dq 52 8 rfl (aT bF (Ht rfl)) (dp 4 rfl (eJ A_32 Z_32 (Ht rfl) (i:=1) rfl rfl rfl) (dq 54 10 rfl (aT bF (Ht rfl)) (dp 9 rfl (cX (Ht rfl)) (dq 56 12 rfl (dZ U_78 Z_54 (Ht rfl) (cJ 0) rfl (dY (dU (d:=[]) zo))) ?_)))))))))
   refine dq 57 13 rfl (dJ A_54 Z_54 (Ht rfl)) (dq 58 14 rfl (dZ U_54 Z_32 (Ht rfl) (cJ 0) rfl (dY (dU (d:=Qi.zero) (by rw [hr0]; decide)))) ?_)
   refine dq 59 15 rfl (dJ A_32 Z_32 (Ht rfl)) (eA 55 11 60 16 rfl (aO cA K_29 (iP zo) (Ht rfl) ⟨(Ht rfl),trivial⟩) (fW bC rfl (by kernel_rfl) (zF (zF (zF (zF (aJ (aJ (aV (ro rfl (aO jP K_32 (tW zo) (Ht rfl) ⟨(Ht rfl),trivial⟩) (ro rfl (cL (xs:=[.tmp 51,.tmp 62]) U_54 Z_32 O_32 (cW (Ht rfl) (cW (Ht rfl) cG)) rfl rfl rfl) ?_)))))))))))
   refine ro rfl (cL (xs:=[.tmp 63]) U_78 Z_54 O_54 (cW (Ht rfl) cG) rfl rfl rfl) (ra rfl (eX (cK (rP (E':=[(3,_),(4,_),(5,_),(6,_),(7,_),(8,_),(9,_),(10,_),(11,_),(13,_)]) (zS rfl) (cY (rm rfl (ro rfl (eZ mI (Ht rfl) rfl) (ro rfl (eY A_78 Z_78 (Ht rfl) (i:=0) rfl rfl) (ro rfl (cZ Tryz.call126 (a1w (p:=Pb s g) (c:=c) (n:=1) (m:=2) (L:=2 * L + 4) hW hch hWf (hc.le zo) zo zo (by decide) (by decide) (by decide) (by decide)) ⟨(Ht rfl),(Ht rfl),trivial⟩) ?_)))))))))
   refine ro rfl (dZ U_78 Z_54 (Ht rfl) (cJ 0) rfl (dY (dU (d:=[]) (by rw [hXs.1]; decide)))) ?_
   refine ro rfl (dJ A_54 Z_54 (Ht rfl)) (ro rfl (dZ U_54 Z_32 (Ht rfl) (cJ 0) rfl (dY (dU (d:=Qi.zero) (by rw [hX0]; decide)))) ?_)
   refine ro rfl (dJ A_32 Z_32 (Ht rfl)) (rn rfl (eW (Ts:=[Is (.bool false),Is (.slice none 0 0),Is (.bool false),Is (.slice none 0 0),Is (.slice none 0 0)]) O_32 rfl (fun V=>aW zd (aW zd (aW zd (aW zd (aW zd (aG))))))) fun B14=>(gZ Z_32 (Ht rfl) (Ht rfl) rfl (i:=7) rfl (aK rfl) rfl rfl (eX (cK (rP (E':=[(3,_),(4,_),(5,_),(6,_),(7,_),(8,_),(9,_),(10,_),(11,_),(14,_)]) (zS rfl) ?_)))))
   refine fJ (m:=32) (dp 9 rfl (cX (Ht rfl)) (dq 73 0 rfl (dZ U_78 Z_54 (Ht rfl) (cJ 1) rfl (dY (dU (d:=[]) zo))) (dq 74 1 rfl (dJ A_54 Z_54 (Ht rfl)) (dq 75 2 rfl (dZ U_54 Z_32 (Ht rfl) (cJ 0) rfl (dY (dU (d:=Qi.zero) (by rw [hr1]; decide)))) ?_))))
   refine dq 76 3 rfl (dJ A_32 Z_32 (Ht rfl)) (dq 77 4 rfl (aT bF (Ht rfl)) (dp 9 rfl (cX (Ht rfl)) (dq 79 6 rfl (dZ U_78 Z_54 (Ht rfl) (cJ 1) rfl (dY (dU (d:=[]) zo))) (dq 80 7 rfl (dJ A_54 Z_54 (Ht rfl)) (dq 81 8 rfl (dZ U_54 Z_32 (Ht rfl) (cJ 0) rfl (dY (dU (d:=Qi.zero) (by rw [hr1]; decide)))) ?_)))))
   refine dq 82 9 rfl (dJ A_32 Z_32 (Ht rfl)) (dq 83 10 rfl (aT bF (Ht rfl)) (dq 84 11 rfl (aO jV Tryz.call317 vM (Ht rfl) trivial) (eA 78 5 85 12 rfl (aO cA K_29 (iP zo) (Ht rfl) ⟨(Ht rfl),trivial⟩) (dq 86 13 rfl (aT bF (Ht rfl)) (dp 5 rfl (eJ A_32 Z_32 (Ht rfl) (i:=2) rfl rfl rfl) (dp 11 rfl (eJ A_32 Z_32 (Ht rfl) (i:=6) rfl rfl rfl) (eA 88 15 89 16 rfl (cZ K_29 (iP zo) ⟨(Ht rfl),(Ht rfl),trivial⟩) (dq 90 17 rfl (cZ K_123 Ce ⟨(Ht rfl),trivial⟩) ?_))))))))
   refine eA 87 14 91 18 rfl (aO cA K_29 (iP zo) (Ht rfl) ⟨(Ht rfl),trivial⟩) (dq 92 19 rfl (aT bF (Ht rfl)) (dp 10 rfl (eJ A_32 Z_32 (Ht rfl) (i:=5) rfl rfl rfl) (dq 94 21 rfl (aT bF (Ht rfl)) (dp 4 rfl (eJ A_32 Z_32 (Ht rfl) (i:=1) rfl rfl rfl) (dq 96 23 rfl (aT bF (Ht rfl)) (dp 4 rfl (eJ A_32 Z_32 (Ht rfl) (i:=1) rfl rfl rfl) (dq 98 25 rfl (aT bF (Ht rfl)) (dq 99 26 rfl (aO jV Tryz.call317 vM (Ht rfl) trivial) (eA 97 24 100 27 rfl (aO cA K_29 (iP zo) (Ht rfl) ⟨(Ht rfl),trivial⟩) ?_)))))))))
   refine eA 95 22 101 28 rfl (aO jP K_32 (tW zo) (Ht rfl) ⟨(Ht rfl),trivial⟩) (eA 93 20 102 29 rfl (aO cA K_29 (iP zo) (Ht rfl) ⟨(Ht rfl),trivial⟩) (C.D_new (Ei:=[]) rfl rfl rfl bW (eW (Ts:=[Is (.bool false),Is (.slice none 0 0),Is (.bool false),Is (.slice none 0 0),Is (.slice none 0 0)]) O_32 rfl (fun V=>aW zd (aW zd (aW zd (aW zd (aW zd (aG))))))) (fW bC rfl (by kernel_rfl) (zF (zF (zF (zF (zF (zF (zF (aJ (aJ (aJ (C.F_new (fun B15=>aV ?_)))))))))))))))
   refine gZ Z_32 (Ht rfl) (Ht rfl) rfl (i:=8) rfl (aK rfl) rfl rfl (eX (cK (rP (E':=[(6,_),(7,_),(8,_),(10,_),(14,_),(15,_)]) (zS rfl) (cY (ro rfl (eJ A_32 Z_32 (Ht rfl) (i:=7) rfl rfl rfl) (ro rfl (aT bF (Ht rfl)) (ro rfl (eJ A_32 Z_32 (Ht rfl) (i:=8) rfl rfl rfl) (ro rfl (aO mN Tryz.call142 (Bv (x:=Fd s c g) (y:=gm s 1 0 * (gm s 1 0).conj * (t0 * Qs z ((1:Nat):Int)) * (tK - g * g.conj)) zo) (Ht rfl) ⟨(Ht rfl),trivial⟩) ?_))))))))
   refine rm rfl (ro rfl (dK (Ht rfl) rfl) (ro rfl (dK (Ht rfl) rfl) (rn rfl (eW (Ts:=[Is (.bool false),Is (.slice none 0 0),Is (.bool false),Is (.slice none 0 0),Is (.slice none 0 0)]) O_32 rfl (fun V=>aW zd (aW zd (aW zd (aW zd (aW zd (aG))))))) fun B16=>(gZ Z_32 (Ht rfl) (Ht rfl) rfl (i:=9) rfl (aK rfl) rfl rfl (ra rfl (eX (cK (cK (rP (E':=[(6,_),(7,_),(8,_),(10,_),(16,_),(17,_)]) (zS rfl) ?_)))))))))
   refine cY (rm rfl (ro rfl (oB (Ht rfl) cV) (eX (dQ (Ht rfl) (fun hk=>?_) (fun hk=>?_)))))
   ·rw [hpd] at hk
    have hk2 : xR z s g t0 = Qi.zero := by
     by_cases h:xR z s g t0 = Qi.zero
     ·exact h
     ·rw [if_neg h] at hk; exact absurd hk (by decide)
    have he:sB z s c g t0 = (Qi.zero,3):=by rw [sB,if_neg hb2,if_neg hd3,if_pos hk2]
    refine ts (ro rfl (eJ A_32 Z_32 (Ht rfl) (i:=4) rfl rfl rfl) (gZ Z_32 (Ht rfl) (Ht rfl) rfl (i:=3) rfl (aK rfl) rfl rfl (ro rfl (cQ (cJ 3)) (eX (bE rfl (fZ (fU A_32 Z_32 rfl (i:=3) rfl rfl) ?_) (fZ (eU rfl) ?_))))))
    ·exact (fun v V k=>by rw [he]; exact iA v V k)
    ·exact (fun v V k=>by rw [he]; exact k)
   ·have hk2 : ¬ xR z s g t0 = Qi.zero := fun h => by rw [hpd, if_pos h] at hk; exact absurd hk (by decide)
    have he:sB z s c g t0 = (tK + Fd s c g / xR z s g t0,0):=by rw [sB,if_neg hb2,if_neg hd3,if_neg hk2]
    have hv:tK + Fd s c g / (gm s 1 0 * (gm s 1 0).conj * (t0 * Qs z ((1:Nat):Int)) * (tK - g * g.conj)) = (sB z s c g t0).1:=by rw [he,hpd]
    refine cU (ts (ro rfl (eJ A_32 Z_32 (Ht rfl) (i:=5) rfl rfl rfl) (ro rfl (aT bF (Ht rfl)) (ro rfl (eJ A_32 Z_32 (Ht rfl) (i:=9) rfl rfl rfl) (ro rfl (aO mM K_33 (yN zo) (Ht rfl) ⟨(Ht rfl),trivial⟩) (gZ Z_32 (Ht rfl) (Ht rfl) rfl (i:=3) rfl (aK rfl) rfl rfl (ro rfl (cQ (cJ 0)) (eX (bE rfl (fZ (fU A_32 Z_32 rfl (i:=3) rfl rfl) ?_) (fZ (eU rfl) ?_))))))))))
    ·exact (fM hv)
    ·exact (fun v V k=>by rw [he]; exact k)
end
section
open Go Go.RowKit
theorem Th {n:Nat} (h:n < 4294967296):bA Tryz.prog 289 [NT .u64 1,NT .u64 n] (fE [NT .u64 0,NT .u64 n]):=by
 refine bA.intro Tryz.func289 rfl Tryz.ntmps289 rfl (fun cx=>(ts (ro rfl (cQ (cJ 0)) (ro rfl (cQ (cJ 0)) (eX (ts (rm rfl (ro rfl (aB.nat (oA rfl (Ht rfl) (cJ 4294967295) z7 z7) (show (1:Nat) &&& 4294967295 = 1 by decide)) (ra rfl (eX (ts (rm rfl (ro rfl (aB.nat (fB (Ht rfl) (cJ 32) (by decide)) (show (1:Nat) / 2 ^ 32 = 0 by decide)) (ra rfl (eX (ts (rm rfl (ro rfl (aB.nat (oA rfl (Ht rfl) (cJ 4294967295) z7 z7) (show n &&& 4294967295 = n from (Nat.and_two_pow_sub_one_eq_mod n 32).trans (Nat.mod_eq_of_lt h))) ?_))))))))))))))))))
 refine ra rfl (eX (ts (rm rfl (ro rfl (aB.nat (fB (Ht rfl) (cJ 32) (by decide)) (show n / 2 ^ 32 = 0 from Nat.div_eq_of_lt h)) (ra rfl (eX (ts (rm rfl (rm rfl (ro rfl (aB.nat (jI (Ht rfl) (Ht rfl) z7) (Nat.one_mul n)) (ra rfl (eX (ts (rm rfl (rm rfl (ro rfl (aB.nat (jI (Ht rfl) (Ht rfl) z7) (Nat.zero_mul n)) (rm rfl (ro rfl (aB.nat (fB (Ht rfl) (cJ 32) (by decide)) (show n / 2 ^ 32 = 0 from Nat.div_eq_of_lt h)) ?_))))))))))))))))))
 refine ro rfl (dV (Ht rfl) (Ht rfl) z7) (ra rfl (eX (ts (rm rfl (ro rfl (aB.nat (oA rfl (Ht rfl) (cJ 4294967295) z7 z7) (show (0 + 0:Nat) &&& 4294967295 = 0 by decide)) (ra rfl (eX (ts (rm rfl (ro rfl (aB.nat (fB (Ht rfl) (cJ 32) (by decide)) (show (0 + 0:Nat) / 2 ^ 32 = 0 by decide)) (ra rfl (eX (ts (rm rfl (rm rfl (rm rfl ?_))))))))))))))))
 refine ro rfl (aB.nat (jI (Ht rfl) (Ht rfl) z7) (show (1 * 0:Nat) = 0 by decide)) (ro rfl (dV (Ht rfl) (Ht rfl) z7) (ra rfl (eX (ts (rm rfl (rm rfl (ro rfl (aB.nat (jI (Ht rfl) (Ht rfl) z7) (show (0 * 0:Nat) = 0 by decide)) (rm rfl (ro rfl (dV (Ht rfl) (Ht rfl) z7) ?_)))))))))
 refine rm rfl (ro rfl (aB.nat (fB (Ht rfl) (cJ 32) (by decide)) (show (0 + 0:Nat) / 2 ^ 32 = 0 by decide)) (ro rfl (dV (Ht rfl) (Ht rfl) z7) (ra rfl (eX (ts (rm rfl (rm rfl (ro rfl (aB.nat (jI (Ht rfl) (Ht rfl) z7) (Nat.one_mul n)) (ra rfl (eX (bE rfl (fZ (eU rfl) ?_) (eU rfl))))))))))))
 exact (kC (by decide))
theorem a01 {n:Nat} (h:n < 4294967296):bA Tryz.prog 259 [NT .u64 1,NT .u64 n] (fE [NT .u64 0,NT .u64 n]):=by
 refine bA.intro Tryz.func259 rfl Tryz.ntmps259 rfl (fun cx=>(ts (ro rfl (cQ (cJ 0)) (ro rfl (cQ (cJ 0)) (eX (cK (dQ cV (fun hf=>?_) (fun hf=>?_))))))))
 ·exact absurd hf (by decide)
 ·refine cU (ts (rm rfl (rm rfl (ro rfl (cZ Tryz.call289 (Th h) ⟨(Ht rfl), (Ht rfl), trivial⟩) (rm rfl (ro rfl (dK (Ht rfl) rfl) (ro rfl (dK (Ht rfl) rfl) (ra rfl (ra rfl (eX (ts (rm rfl (rm rfl (ra rfl (ra rfl (eX ?_))))))))))))))))
  exact bE rfl (eU rfl) (eU rfl)
theorem Nh {m:Nat} (h1:1 ≤ m) (hm:m ≤ 1000):gO Tryz.prog 212 [cC [Qi.zero],NT .i64 m] [] ({v:Value // jB v}) (fun v=>Is v.1) (fun v=>[bH 32 5 v.1 ((tab m fun _=>Qi.zero).map aF)]) (fun _=>True):=by
 refine gO.intro Tryz.func212 rfl Tryz.ntmps212 rfl (fun cx Z=>(ts (ro rfl (cQ cV) (eX (cK (ts (rm rfl (ro rfl (gJ (Ht rfl) (cJ 0)) (eX (dQ (Ht rfl) (fun h0=>?_) (fun h0=>?_)))))))))))
 ·simp only [decide_eq_true_eq] at h0
  omega
 ·refine cU (ts (rm rfl (ro rfl (dG U_54 (Ht rfl) (show (([Qi.zero].map aF).length : Int) = ((1 : Nat) : Int) from rfl)) (ro rfl (gV U_3 U_275 (Ht rfl) z7) (rm rfl (ro rfl (gV U_3 U_275 (Ht rfl) z7) (ro rfl (cZ Tryz.call259 (a01 zo) ⟨(Ht rfl), (Ht rfl), trivial⟩) (rm rfl (ro rfl (dK (Ht rfl) rfl) (ro rfl (dK (Ht rfl) rfl) ?_))))))))))
  refine ra rfl (ra rfl (eX (cK (ts (rm rfl (ro rfl (gR (Ht rfl) (cJ 0)) (rm rfl (fQ rfl rfl (eK rfl rfl (Ht rfl) (fun h=>cX (Ht rfl))) (fQ rfl rfl (eK rfl rfl (Ht rfl) (fun h=>gR (fV rfl h) (cJ 9223372036854775807))) (ro rfl (gK (Ht rfl) (fun h=>(fV rfl h))) (eX (dQ (Ht rfl) (fun h2=>?_) (fun h2=>?_)))))))))))))
  ·simp only [Bool.or_eq_true, decide_eq_true_eq] at h2
   omega
  ·refine cU (ts (rm rfl (ro rfl (gV U_275 U_3 (Ht rfl) z6) (Sw (T := aF Qi.zero) (i := Tryz.t32) mC jU rfl rfl (Ht rfl) rfl jL (El.ag rfl) (by show 88 * _ ≤ _; omega) zo rfl (fun B30 hB30 => (ra rfl (eX (ts (rm rfl (rm rfl (ro rfl (Qk (q := 1) (T := aF Qi.zero) U_54 Z_32 (i := 1) rfl (Ht rfl) (Ht rfl) (by decide) (El.ag rfl) zo) (ra rfl (eX (cK (eG ?_)))))))))))))))
   refine dC (fun (k : Nat) => 1 ≤ k ∧ k ≤ m) (fun (k : Nat) => m - k) (fun (k : Nat) => [(7, Is B30), (8, NT .i64 k)]) (fun (k : Nat) => [Z, bH 32 5 B30 (List.replicate m (aF Qi.zero))]) (Nat.min 1 m) ⟨by show 1 ≤ min 1 m; omega, by show min 1 m ≤ m; omega⟩
    (zS rfl) (dO.refl _) (fun k ⟨hk1,hk⟩=>?_)
   refine cK (ts (rm rfl (rm rfl (ro rfl (mP U_54 (Ht rfl) (i:=1) rfl (show ((List.replicate m (aF Qi.zero)).length:Int) = ((m:Nat):Int) by simp)) (ro rfl (gJ (Ht rfl) (Ht rfl)) (eX (dQ (Ht rfl) (fun hd=>?_) (fun hd=>?_))))))))
   ·simp only [decide_eq_true_eq] at hd
    have hlen:(List.replicate m (aF Qi.zero)).length = m:=by simp
    have h5:Nat.min k ((List.replicate m (aF Qi.zero)).length - k) = min k (m - k):=by rw [hlen]
    refine cU (eG (fJ (m:=8) (dp 8 rfl (cX (Ht rfl)) (dp 7 rfl (cX (Ht rfl)) (dp 8 rfl (cX (Ht rfl)) (eA 39 1 40 2 rfl (Qo U_54 Z_32 (Ht rfl) (Ht rfl) rfl (i:=1) rfl (by rw [hlen]; exact hd)) ?_))))))
    refine dp 7 rfl (cX (Ht rfl)) (dp 8 rfl (cX (Ht rfl)) (eA 42 4 43 5 rfl (Qn U_54 Z_32 (Ht rfl) (Ht rfl) rfl (i:=1) rfl (by rw [hlen]; omega) (by rw [hlen]; omega)) ?_))
    refine eA 41 3 44 6 rfl (Fs (T:=aF Qi.zero) U_54 Z_32 (i:=1) rfl (Ht rfl) (Ht rfl)) (fW bC rfl (by kernel_rfl) (zF (zF (aV (ro rfl (dV (Ht rfl) (Ht rfl) (by show _ < 9223372036854775808; omega)) (ra rfl (eX (cD (gQ (k + Nat.min k ((List.replicate m (aF Qi.zero)).length - k)) ⟨by omega,by omega⟩ zo (zS rfl) (dO.refl _))))))))))
   ·refine gG rfl (ts (rm rfl (ra rfl (eX ?_))))
    exact kF ⟨B30,hB30⟩ trivial [0,1] ⟨⟨_,rfl,fun _ _ _ h=>h⟩,⟨_,rfl,(bN (by rw [kL,wX]))⟩,trivial⟩ (by decide) (wZ rfl (eU rfl))
end
section
open Go Go.RowKit
theorem qS {n : Nat} {E : bR} {H : Hp} {d : Option Tmp} {t : TypeId} {pos : String} {af : Array Edge} {g : Option (Nat × Bool)} {x0 x1 : Operand} {T0 T1 T2 : Ty} (h0 : aM E x0 (dL [T0, T1])) [s1 : cM T2 1 false] (h1 : aM E x1 T2) :
  aB Tryz.prog n E H ⟨d,.build 84 #[(0,x0),(1,x1)],t,pos,af,g⟩ (dL [T0,T1,T2]) :=
 gA (parts := [(0, x0), (1, x1)]) fun a V w hs => by
  obtain ⟨v0,e0,c0⟩:=h0 n V a hs
  obtain ⟨c0_0,c0_1,rfl⟩:∃ c0_0 c0_1,v0 = [c0_0,c0_1]:=Da (by simpa using c0.length)
  have p1:=h1 n V a hs
  generalize e1:a.eval x1 = v1 at p1
  have q1:=(s1.ok v1 V p1).2.2 rfl
  refine ⟨.agg #[c0_0,c0_1,v1],?_,[c0_0,c0_1,v1],rfl,aW (c0.at (i:=0) rfl rfl) (aW (c0.at (i:=1) rfl rfl) (aW (⟨p1,q1⟩) (aG)))⟩
  simp [e0,e1,Instr.build,Instr.fill,Sem.run_bind,Result.andThen,eI,q1.cells,O_84,U_84,Z_78,Z_80]
end
section
open Go Go.RowKit
theorem Cg {n:Nat} (hn:n ≤ 1000):gO Tryz.prog 125 [NT .i64 n,NT .i64 n] [] (Nat) (fun B=>Is (.slice (some ⟨B,0,none⟩) n n)) (fun B=>[lE jB B 54 32 5 (dA aF (Sq n n))]) (fun _=>True):=by
 refine gO.intro Tryz.func125 rfl Tryz.ntmps125 rfl (fun cx Z=>(ts (ro rfl (cQ cV) (eX (ts (rm rfl (rn rfl (fS (T:=Is (.slice none 0 0)) (i:=Tryz.t54) V_78 lB rfl rfl (Ht rfl) rfl (fun _=>rfl) trivial (by show 24 * _ ≤ _; omega) zo) fun B8=>(ra rfl (eX (cK (ts (rm rfl (ro rfl (iY U_78 (Ht rfl)) (ro rfl (cX (cJ 0)) (eX (eG (oM 1 rfl (wI jB ⟨none,0,rfl⟩ (e:=32) (s:=5)) ?_)))))))))))))))))
 refine dC (fun (k : Nat) => k ≤ n) (fun (k : Nat) => n - k) (fun (k : Nat) => [(1, NT .i64 n), (5, Is (.slice (some ⟨B8, 0, none⟩) n n)), (10, NT .i64 n), (11, NT .i64 k)]) (fun (k : Nat) => [Z, lE jB B8 54 32 5 (dA aF (kB (fun _ => (tab n fun _ => Qi.zero)) [] n k))]) 0 (Nat.zero_le _)
  (zS rfl) (aU (fun _ _ _ h=>h) (aU (cI (by rw [← jD,kL]; exact lY aF n)) aY)) (fun k hk=>?_)
 refine ts (ro rfl (gJ (Ht rfl) (Ht rfl)) (eX (cK (dQ (Ht rfl) (fun hd=>?_) (fun hd=>?_)))))
 ·simp only [decide_eq_true_eq] at hd
  refine oN 1 (k) rfl (lR hd) (fun v hv=>(cU (cK (eG (ts (rm rfl (ra rfl (eX (cY (rm rfl (rm rfl (ro rfl (cZ K_36 (gY (n:=0) (by decide) (by decide)) ⟨(cJ 0),trivial⟩) (ro rfl (cZ K_123 Ce ⟨(Ht rfl),trivial⟩) (ro rfl (cL (xs:=[.tmp 17]) U_54 Z_32 O_32 (cW (Ht rfl) cG) rfl rfl rfl) (rm rfl (kY Tryz.call212 (Nh (m:=n) zo hn) ⟨(Ht rfl),(Ht rfl),trivial⟩ rfl (fun B20 _=>?_)))))))))))))))))
  have hB20:=B20.2
  refine ro rfl (gX U_78 Z_54 (Ht rfl) (Ht rfl) rfl zo (by rw [Nat.mul_one,Nat.zero_add])) ?_
  refine vH Z_54 (Ht rfl) (Ht rfl) (by simp only [dA,List.length_map,eD]; omega) (j:=1) (l:=3) rfl rfl rfl ?_
  refine eX (cD (gF 1 3 rfl rfl (by decide) (by simp only [dA,List.length_map,eD]; omega) ?_))
  refine cY (ro rfl (dV (Ht rfl) (cJ 1) z6) (rm rfl (eX (dB [0,1] rfl (by decide) (gQ (k + 1) hd zo (zS rfl) (aU (fun _ _ _ h=>h) (aU (cI (by rw [iG,← kO (f:=fun _=>(tab n fun _=>Qi.zero))])) aY)))))))
 ·simp only [decide_eq_false_iff_not] at hd
  obtain rfl:n = k:=Nat.le_antisymm zo hk
  refine gG rfl (ts (rm rfl (ra rfl (eX ?_))))
  exact kF B8 trivial [0,1] ⟨⟨_,rfl,fun _ _ _ h=>h⟩,⟨_,rfl,(cI (by rw [kN]; rfl))⟩,trivial⟩ (by decide) (wZ rfl (eU rfl))
theorem Nr {z:List Qi} {s:List (List Qi)} {L:Nat} (hz:fH z L) (hs:bS s L) (hL1:1 ≤ L) (hL:L ≤ 10000000) (hsh:fO s z.length z.length) (hl1:1 ≤ z.length) (hl:z.length ≤ 8):gO Tryz.prog 196 [iV z s] [] (Nat) (fun B=>Is (.slice (some ⟨B,0,none⟩) z.length z.length)) (fun B=>[lE jB B 54 32 5 (dA aF (nI z s))]) (fun _=>True):=by
 have hs1:=hs.le (Nat.le_refl L)
 have hsl:=hsh.1
 have hD:=Cm z
 have hDf:=vS hz hL1
 have hXf:=rS hs hDf hL1 (by rw [hD.1]; exact hl)
 have hX:fO (kA s (fR z)) s.length s.length:=rT
 refine gO.intro Tryz.func196 rfl Tryz.ntmps196 rfl (fun cx Z=>(ts (rn rfl (fK (Ht rfl)) fun B1=>(ro rfl (cQ cV) (eX (cK (fJ (m:=3) (dp 1 rfl (eJ A_80 Z_80 (Ht rfl) (i:=1) rfl rfl rfl) (dq 10 0 rfl (cZ K_117 nT ⟨(Ht rfl),trivial⟩) (dp 1 rfl (eJ A_80 Z_80 (Ht rfl) (i:=1) rfl rfl rfl) (fW bC rfl (by kernel_rfl) (aJ (aJ (aJ (aV (ro rfl (cZ K_117 nT ⟨(Ht rfl),trivial⟩) (kY Tryz.call125 (Cg (n:=z.length) zo) ⟨(Ht rfl),(Ht rfl),trivial⟩ rfl (fun B14 _=>?_))))))))))))))))))
 refine ra rfl (eX (cK (ts (ro rfl (eJ A_80 Z_80 (Ht rfl) (i:=1) rfl rfl rfl) (ro rfl (cZ Tryz.call247 (No zo) ⟨(Ht rfl),trivial⟩) (ro rfl (dG U_54 (Ht rfl) aA) (ro rfl (cX (cJ 0)) (eX (eG ?_)))))))))
 refine dC (fun (i : Nat) => i ≤ z.length) (fun (i : Nat) => z.length - i) (fun (i : Nat) => [(1, cB B1 0), (3, Is (.slice (some ⟨B14, 0, none⟩) z.length z.length)), (16, cC z), (17, NT .i64 z.length), (18, NT .i64 i)]) (fun (i : Nat) => [Z, box B1 80 [cC z, cH s], lE jB B14 54 32 5 (dA aF (kB (fun i => (tab z.length fun _ => Qi.zero).set i (gv z i)) (tab z.length fun _ => Qi.zero) z.length i))]) 0 (Nat.zero_le _)
  (zS rfl) (aU (fun _ _ _ h=>h) (aU (fun _ _ _ h=>h) (aU (cI (by rw [Sq,jD])) aY))) (fun i hi=>?_)
 refine ts (ro rfl (gJ (Ht rfl) (Ht rfl)) (eX (cK (dQ (Ht rfl) (fun hd=>?_) (fun hd=>?_)))))
 ·simp only [decide_eq_true_eq] at hd
  have hzl:=aR z.length fun _=>Qi.zero
  refine oN 2 (i) rfl (lR hd) (fun v hv=>(cU (cK (eG (ts (rm rfl (ro rfl (dZ U_54 Z_32 (Ht rfl) (Ht rfl) rfl (dY (dU (d:=Qi.zero) hd))) (ro rfl (dJ A_32 Z_32 (Ht rfl)) (rn rfl (eW (Ts:=[Is (.bool false),Is (.slice none 0 0),Is (.bool false),Is (.slice none 0 0),Is (.slice none 0 0)]) O_32 rfl (fun V=>aW zd (aW zd (aW zd (aW zd (aW zd (aG))))))) fun B5=>(ra rfl ?_))))))))))
  refine gZ Z_32 (Ht rfl) (Ht rfl) rfl (i:=4) rfl (aK rfl) rfl rfl (eX (fJ (m:=7) (dp 3 rfl (cX (Ht rfl)) (dp 4 rfl (cX (Ht rfl)) (eA 23 0 24 1 rfl (gX U_78 Z_54 (Ht rfl) (Ht rfl) rfl zo (by rw [Nat.mul_one,Nat.zero_add])) ?_)))))
  refine dq 25 2 rfl (jM A_54 Z_54 (Ht rfl) (j:=2) rfl) (dp 4 rfl (cX (Ht rfl)) (dp 5 rfl (eJ A_32 Z_32 (Ht rfl) (i:=4) rfl rfl rfl) (dq 28 5 rfl (cZ K_123 Ce ⟨(Ht rfl),trivial⟩) (fW bC rfl (by kernel_rfl) (zF (aJ (aJ (aJ (aV (ro rfl (fA U_54 Z_32 (Ht rfl) (Ht rfl) rfl (i:=3) rfl (by simp only [List.length_map,aR]; omega) rfl) ?_))))))))))
  refine oH Z_32 (Ht rfl) (Ht rfl) (El.ag rfl) (i:=3) rfl rfl (by simp only [List.length_map,aR]; omega) rfl ?_
  refine eX (cD (gF 2 3 rfl rfl (by decide) (by simp only [dA,List.length_map,eD]; omega) ?_))
  refine cY (ro rfl (dV (Ht rfl) (cJ 1) z6) (rm rfl (eX (dB [0,1,2] rfl (by decide) (gQ (i + 1) hd zo (zS rfl) (aU (fun _ _ _ h=>h) (aU (fun _ _ _ h=>h) (aU (cI (by rw [← kO (f:=(fun i=>(tab z.length fun _=>Qi.zero).set i (gv z i))),← iG,← iH])) aY))))))))
 ·simp only [decide_eq_false_iff_not] at hd
  obtain rfl:i = z.length:=Nat.le_antisymm hi zo
  rw [kN]
  refine gG rfl (ts (ro rfl (eJ A_80 Z_80 (Ht rfl) (i:=1) rfl rfl rfl) (ro rfl (cZ Tryz.call122 (zZ hsh hl) ⟨(Ht rfl),trivial⟩) (rm rfl (Zj Tryz.call126 (Ew (p:=s) (c:=fR z) (n:=z.length) (m:=z.length) (L:=L) hsh hD hs hDf hL1 zo hl1 hl1 hl hl) (j:=2) (tt:=34) rfl rfl (iQ (s:=5) (M:=fR z) hD.1.symm) a0G (fun _=>inferInstance) (fun _ B hB=>by simp only [List.mem_singleton] at hB; subst hB; exact Rn) ⟨(Ht rfl),(Ht rfl),trivial⟩ rfl (fun B35 _=>(ra rfl (eX (cK (cK (gW (i:=3) (tt:=6) rfl rfl (iQ (s:=5) (M:=kA s (fR z)) (hX.1.trans hsl).symm) ?_)))))))))))
  refine cY (rm rfl (ro rfl (dG U_78 (Ht rfl) aA) (ro rfl (cX (cJ 0)) (eX (eG (dB [0,2] rfl (by decide) ?_))))))
  refine dC (fun (i : Nat) => i ≤ z.length) (fun (i : Nat) => z.length - i) (fun (i : Nat) => [(3, Is (.slice (some ⟨B14, 0, none⟩) z.length z.length)), (36, cH (kA s (fR z))), (37, NT .i64 z.length), (38, NT .i64 i)]) (fun (i : Nat) => [Z, lE jB B14 54 32 5 (dA aF (lS (fun i => tab z.length fun j => gm (fR z) i j - gm (kA s (fR z)) i j) (fun i => tab z.length fun j => gm (fR z) i j) z.length i))]) 0 (Nat.zero_le _)
   (aQ rfl (aQ rfl (aZ rfl (kC (hX.1.trans hsl)) (zS rfl)))) (aU (fun _ _ _ h=>h) (aU (cI (by rw [← jQ]; exact congrArg _ (sH hD))) aY)) (fun i hi=>?_)
  refine ts (ro rfl (gJ (Ht rfl) (Ht rfl)) (eX (cK (dQ (Ht rfl) (fun he=>?_) (fun he=>?_)))))
  ·simp only [decide_eq_true_eq] at he
   have hxr:=hX.row (i:=i) zo
   refine oN 1 (i) rfl (pT he) (fun v hv=>(cU (cK (eG (ts (rm rfl (ro rfl (dZ U_78 Z_54 (Ht rfl) (Ht rfl) rfl (dY (dU (d:=[]) (by rw [hX.1]; omega)))) ?_)))))))
   refine ro rfl (dJ A_54 Z_54 (Ht rfl)) (ra rfl (ra rfl (eX (ts (rm rfl (ro rfl (dG U_54 (Ht rfl) aA) (ro rfl (cX (cJ 0)) (eX (eG ?_)))))))))
   refine dC (fun (j : Nat) => j ≤ z.length) (fun (j : Nat) => z.length - j) (fun (j : Nat) => [(3, Is (.slice (some ⟨B14, 0, none⟩) z.length z.length)), (7, NT .i64 i), (8, cC ((kA s (fR z)).getD i [])), (36, cH (kA s (fR z))), (37, NT .i64 z.length), (38, NT .i64 i), (44, NT .i64 z.length), (45, NT .i64 j)]) (fun (j : Nat) => [Z, qY jB B14 54 32 5 (dA aF (lS (fun i => tab z.length fun j => gm (fR z) i j - gm (kA s (fR z)) i j) (fun i => tab z.length fun j => gm (fR z) i j) z.length i)) i v, bH 32 5 v ((lS (fun j => gm (fR z) i j - gm (kA s (fR z)) i j) (fun j => gm (fR z) i j) z.length j).map aF)]) 0 (Nat.zero_le _)
    (aQ rfl (aQ rfl (aQ rfl (aQ rfl (aQ rfl (aQ rfl (aZ rfl (kC (hxr.trans hsl)) (zS rfl)))))))) (aU (fun _ _ _ h=>h) (aU (fun _ _ _ h=>h) (aU (bN (by rw [← jQ])) aY))) (fun j hj=>?_)
   refine ts (ro rfl (gJ (Ht rfl) (Ht rfl)) (eX (cK (dQ (Ht rfl) (fun hf=>?_) (fun hf=>?_)))))
   ·simp only [decide_eq_true_eq] at hf
    have hrl:=iR (fun j=>gm (fR z) i j - gm (kA s (fR z)) i j) (fun j=>gm (fR z) i j) z.length j
    haveI f1:aE (gm (fR z) i j) L:=hDf.get hL1 i j
    haveI f2:aE (gm (kA s (fR z)) i j) (200 * L + 300):=hXf.get zo i j
    refine cU (cK (eG (ts (rm rfl (ra rfl (eX (fJ (m:=18) (dp 3 rfl (cX (Ht rfl)) (dp 7 rfl (cX (Ht rfl)) (eA 48 0 49 1 rfl (gX U_78 Z_54 (Ht rfl) (Ht rfl) rfl zo (by rw [Nat.mul_one,Nat.zero_add])) ?_))))))))))
    refine dq 50 2 rfl (jM A_54 Z_54 (Ht rfl) (j:=1) rfl) (dp 9 rfl (cX (Ht rfl)) (dp 3 rfl (cX (Ht rfl)) (dp 7 rfl (cX (Ht rfl)) (eA 53 5 54 6 rfl (gX U_78 Z_54 (Ht rfl) (Ht rfl) rfl zo (by rw [Nat.mul_one,Nat.zero_add])) ?_))))
    refine dq 55 7 rfl (jM A_54 Z_54 (Ht rfl) (j:=1) rfl) (dp 9 rfl (cX (Ht rfl)) (eA 56 8 57 9 rfl (fA U_54 Z_32 (Ht rfl) (Ht rfl) rfl (i:=2) rfl (by simp only [List.length_map,hrl]; omega) rfl) ?_))
    refine dq 58 10 rfl (tM A_32 Z_32 (Ht rfl) (i:=2) rfl rfl (dY (pE hf))) (dq 59 11 rfl (aT bF (Ht rfl)) (dp 8 rfl (cX (Ht rfl)) (dp 9 rfl (cX (Ht rfl)) (eA 61 13 62 14 rfl (dZ U_54 Z_32 (Ht rfl) (Ht rfl) rfl (dY (dU (d:=Qi.zero) (by rw [hxr]; omega)))) ?_))))
    refine dq 63 15 rfl (dJ A_32 Z_32 (Ht rfl)) (eA 60 12 64 16 rfl (aO jP K_32 (tW zo) (Ht rfl) ⟨(Ht rfl),trivial⟩) (fW bC rfl (by kernel_rfl) (zF (zF (zF (zF (aJ (aJ (aV (ro rfl (fA U_54 Z_32 (Ht rfl) (Ht rfl) rfl (i:=2) rfl (by simp only [List.length_map,hrl]; omega) rfl) ?_))))))))))
    refine oH Z_32 (Ht rfl) (Ht rfl) (El.ag rfl) (i:=2) rfl rfl (by simp only [List.length_map,hrl]; omega) rfl ?_
    refine eX (cD (cY (ro rfl (dV (Ht rfl) (cJ 1) z6) (rm rfl (eX (gQ (j + 1) hf zo (zS rfl) (aU (fun _ _ _ h=>h) (aU (fun _ _ _ h=>h) (aU (bN (by rw [iH,← kT (f:=fun j=>gm (fR z) i j - gm (kA s (fR z)) i j)])) aY)))))))))
   ·simp only [decide_eq_false_iff_not] at hf
    obtain rfl:j = z.length:=Nat.le_antisymm hj zo
    refine gG rfl (cD (gF 1 2 rfl rfl (by decide) (by simp only [dA,List.length_map,iR]; omega) ?_))
    refine cY (ro rfl (dV (Ht rfl) (cJ 1) z6) (rm rfl (eX (dB [0,1] rfl (by decide) (gQ (i + 1) he zo (zS rfl) (aU (fun _ _ _ h=>h) (aU (cI (by rw [iG,kS,← kT (f:=(fun i=>tab z.length fun j=>gm (fR z) i j - gm (kA s (fR z)) i j))])) aY)))))))
  ·simp only [decide_eq_false_iff_not] at he
   obtain rfl:i = z.length:=Nat.le_antisymm hi zo
   refine gG rfl (ts (rm rfl (ra rfl (eX ?_))))
   exact kF B14 trivial [0,1] ⟨⟨_,rfl,fun _ _ _ h=>h⟩,⟨_,rfl,(cI (by rw [kS]; rfl))⟩,trivial⟩ (by decide) (wZ rfl (eU rfl))
theorem a1u {z:List Qi} {s:List (List Qi)} {t:Qi} {L:Nat} (hz:fH z L) (hs:bS s L) (ht:aE t L) (hL1:1 ≤ L) (hL:L ≤ 10000000) (hsh:fO s z.length z.length) (hl1:1 ≤ z.length) (hl:z.length ≤ 8):bA Tryz.prog 100 [iV z s,aF t] (fE [gS (jE (jF t) z) (jE (jF t) s) (jE (jF t) (Ge t (nI z s) z.length)),aD .i64 (jF t)]):=by
 haveI:=ht
 have hOs:=Qp z s
 have hOf:=Dk hz hs hL1 hl
 refine bA.intro Tryz.func100 rfl Tryz.ntmps100 rfl (fun cx=>(ts (rn rfl (fK (Ht rfl)) fun B2=>(rn rfl (fK (Ht rfl)) fun B3=>(rn rfl (eW (Ts:=[Is (.slice none 0 0),Is (.slice none 0 0),Is (.slice none 0 0)]) O_84 rfl (fun V=>aW zd (aW zd (aW zd (aG))))) fun B4=>(ro rfl (cQ (cJ 0)) (eX (cK (ts (ro rfl (eJ A_32 Z_32 (Ht rfl) (i:=1) rfl rfl rfl) (ro rfl (cZ K_79 (tB zo) ⟨(Ht rfl),trivial⟩) (ro rfl (dR (Ht rfl)) ?_))))))))))))
 refine eX (dQ (Ht rfl) (fun hb=>?_) (fun hb=>?_))
 ·have he : jF t ≠ 0 := by simp only [Bool.not_eq_true'] at hb; rw [jF, hb]; decide
  have he1:jF t = 1:=by simp only [Bool.not_eq_true'] at hb; rw [jF,hb]; rfl
  refine ts (ro rfl (aB.imp (rR ) nG) (gZ Z_84 (Ht rfl) (Ht rfl) rfl (i:=2) rfl (aK rfl) rfl rfl (ro rfl (cQ (cJ 1)) (eX (bE rfl (fZ (fU A_84 Z_84 rfl (i:=2) rfl rfl) ?_) (fZ (eU rfl) ?_))))))
  ·exact (Wt he)
  ·exact (aP he1.symm)
 ·have he : jF t = 0 := by simp only [Bool.not_eq_false'] at hb; rw [jF, hb]; rfl
  refine cU (ts (ro rfl (eJ A_80 Z_80 (Ht rfl) (i:=0) rfl rfl rfl) (kY Tryz.call196 (Nr hz hs hL1 hL hsh hl1 hl) ⟨(Ht rfl),trivial⟩ rfl (fun B15 _=>(ra rfl (eX (cK (ts (rm rfl (ro rfl (iY U_78 (Ht rfl)) (ro rfl (cX (cJ 0)) (eX (eG ?_)))))))))))))
  refine dC (fun (i : Nat) => i ≤ z.length) (fun (i : Nat) => z.length - i) (fun (i : Nat) => [(2, cB B2 0), (3, cB B3 0), (4, cB B4 0), (6, Is (.slice (some ⟨B15, 0, none⟩) z.length z.length)), (16, Is (.slice (some ⟨B15, 0, none⟩) z.length z.length)), (17, NT .i64 z.length), (18, NT .i64 i)]) (fun (i : Nat) => [box B2 80 [cC z, cH s], box B3 32 [aC (decide (t.a < 0)), aI t.a.natAbs, aC (decide (t.b < 0)), aI t.b.natAbs, aI (du t)], box B4 84 [Is (.slice none 0 0), Is (.slice none 0 0), Is (.slice none 0 0)], lE jB B15 54 32 5 (dA aF (lS (fun i => tab z.length fun j => t * gm (nI z s) i j) (fun i => tab z.length fun j => gm (nI z s) i j) z.length i))]) 0 (Nat.zero_le _)
   (zS rfl) (aU (fun _ _ _ h=>h) (aU (fun _ _ _ h=>h) (aU (fun _ _ _ h=>h) (aU (cI (by rw [← jQ]; exact congrArg _ (sH hOs))) aY)))) (fun i hi=>?_)
  refine ts (ro rfl (gJ (Ht rfl) (Ht rfl)) (eX (cK (dQ (Ht rfl) (fun he2=>?_) (fun he2=>?_)))))
  ·simp only [decide_eq_true_eq] at he2
   refine oN 3 (i) rfl (pT he2) (fun v hv=>(cU (cK (eG (ts (ro rfl (gX U_78 Z_54 (Ht rfl) (Ht rfl) rfl zo (by rw [Nat.mul_one,Nat.zero_add])) ?_))))))
   refine ro rfl (jM A_54 Z_54 (Ht rfl) (j:=3) rfl) (ra rfl (eX (ts (rm rfl (ro rfl (mP U_54 (Ht rfl) (i:=4) rfl (show (((tab z.length fun j=>gm (nI z s) i j).map aF).length:Int) = ((z.length:Nat):Int) by rw [List.length_map,aR])) (ro rfl (cX (cJ 0)) (eX (eG ?_))))))))
   refine dC (fun (j : Nat) => j ≤ z.length) (fun (j : Nat) => z.length - j) (fun (j : Nat) => [(2, cB B2 0), (3, cB B3 0), (4, cB B4 0), (6, Is (.slice (some ⟨B15, 0, none⟩) z.length z.length)), (8, Is v), (16, Is (.slice (some ⟨B15, 0, none⟩) z.length z.length)), (17, NT .i64 z.length), (18, NT .i64 i), (23, NT .i64 z.length), (24, NT .i64 j)]) (fun (j : Nat) => [box B2 80 [cC z, cH s], box B3 32 [aC (decide (t.a < 0)), aI t.a.natAbs, aC (decide (t.b < 0)), aI t.b.natAbs, aI (du t)], box B4 84 [Is (.slice none 0 0), Is (.slice none 0 0), Is (.slice none 0 0)], qY jB B15 54 32 5 (dA aF (lS (fun i => tab z.length fun j => t * gm (nI z s) i j) (fun i => tab z.length fun j => gm (nI z s) i j) z.length i)) i v, bH 32 5 v ((lS (fun j => t * gm (nI z s) i j) (fun j => gm (nI z s) i j) z.length j).map aF)]) 0 (Nat.zero_le _)
    (zS rfl) (aU (fun _ _ _ h=>h) (aU (fun _ _ _ h=>h) (aU (fun _ _ _ h=>h) (aU (fun _ _ _ h=>h) (aU (bN (by rw [← jQ])) aY))))) (fun j hj=>?_)
   refine ts (ro rfl (gJ (Ht rfl) (Ht rfl)) (eX (cK (dQ (Ht rfl) (fun hf=>?_) (fun hf=>?_)))))
   ·simp only [decide_eq_true_eq] at hf
    have hrl:=iR (fun j=>t * gm (nI z s) i j) (fun j=>gm (nI z s) i j) z.length j
    haveI f1:aE (gm (nI z s) i j) (201 * L + 301):=hOf.get zo i j
    refine cU (cK (eG (ts (rm rfl (ra rfl (eX (fJ (m:=10) (dp 8 rfl (cX (Ht rfl)) (dp 9 rfl (cX (Ht rfl)) (dp 3 rfl (eJ A_32 Z_32 (Ht rfl) (i:=1) rfl rfl rfl) (dq 29 2 rfl (cZ K_123 Ce ⟨(Ht rfl),trivial⟩) (dq 30 3 rfl (aT bF (Ht rfl)) (dp 8 rfl (cX (Ht rfl)) (dp 9 rfl (cX (Ht rfl)) (eA 32 5 33 6 rfl (fA U_54 Z_32 (Ht rfl) (Ht rfl) rfl (i:=4) rfl (by simp only [List.length_map,hrl]; omega) rfl) ?_)))))))))))))))
    refine dq 34 7 rfl (tM A_32 Z_32 (Ht rfl) (i:=4) rfl rfl (dY (pE hf))) (eA 31 4 35 8 rfl (aO cA K_29 (iP zo) (Ht rfl) ⟨(Ht rfl),trivial⟩) (fW bC rfl (by kernel_rfl) (zF (zF (aJ (aJ (aV (ro rfl (fA U_54 Z_32 (Ht rfl) (Ht rfl) rfl (i:=4) rfl (by simp only [List.length_map,hrl]; omega) rfl) ?_))))))))
    refine oH Z_32 (Ht rfl) (Ht rfl) (El.ag rfl) (i:=4) rfl rfl (by simp only [List.length_map,hrl]; omega) rfl ?_
    refine eX (cD (cY (ro rfl (dV (Ht rfl) (cJ 1) z6) (rm rfl (eX (gQ (j + 1) hf zo (zS rfl) (aU (fun _ _ _ h=>h) (aU (fun _ _ _ h=>h) (aU (fun _ _ _ h=>h) (aU (fun _ _ _ h=>h) (aU (bN (by rw [iH,← kT (f:=fun j=>t * gm (nI z s) i j)])) aY)))))))))))
   ·simp only [decide_eq_false_iff_not] at hf
    obtain rfl:j = z.length:=Nat.le_antisymm hj zo
    refine gG rfl (cD (gF 3 4 rfl rfl (by decide) (by simp only [dA,List.length_map,iR]; omega) ?_))
    refine cY (ro rfl (dV (Ht rfl) (cJ 1) z6) (rm rfl (eX (dB [0,1,2,3] rfl (by decide) (gQ (i + 1) he2 zo (zS rfl) (aU (fun _ _ _ h=>h) (aU (fun _ _ _ h=>h) (aU (fun _ _ _ h=>h) (aU (cI (by rw [iG,kS,← kT (f:=(fun i=>tab z.length fun j=>t * gm (nI z s) i j))])) aY)))))))))
  ·simp only [decide_eq_false_iff_not] at he2
   obtain rfl:i = z.length:=Nat.le_antisymm hi zo
   rw [kS]
   refine gG rfl (cK (gW (i:=3) (tt:=6) rfl rfl (iQ (s:=5) (M:=(Ge t (nI z s) z.length)) Du.1.symm) (cY (ro rfl (eJ A_80 Z_80 (Ht rfl) (i:=0) rfl rfl rfl) (rm rfl (ro rfl (qS (Ht rfl) (Ht rfl)) (gZ Z_84 (Ht rfl) (Ht rfl) rfl (i:=2) rfl (aK rfl) rfl rfl (ro rfl (cQ (cJ 0)) (eX (bE rfl (fZ (fU A_84 Z_84 rfl (i:=2) rfl rfl) ?_) (fZ (eU rfl) ?_)))))))))))
   ·exact (Qq he)
   ·exact (aP he.symm)
end
section
open Go Go.RowKit
theorem Hd {n : Nat} {E : bR} {H : Hp} {d : Option Tmp} {t : TypeId} {pos : String} {af : Array Edge} {g : Option (Nat × Bool)}  :
  aB Tryz.prog n E H ⟨d,.build 23 #[],t,pos,af,g⟩ (dL [Is (.int .i64 0),Is (.int .i64 0),Is (.int .i64 0)]) :=
 gA (parts := []) fun a V w hs => by
  refine ⟨.agg #[(.int .i64 0),(.int .i64 0),(.int .i64 0)],?_,[(.int .i64 0),(.int .i64 0),(.int .i64 0)],rfl,aW (⟨rfl,trivial⟩) (aW (⟨rfl,trivial⟩) (aW (⟨rfl,trivial⟩) (aG)))⟩
  simp [Instr.build,Instr.fill,Sem.run_bind,Result.andThen,eI,O_23,U_23,Z_2]
theorem Mz {n : Nat} {E : bR} {H : Hp} {d : Option Tmp} {t : TypeId} {pos : String} {af : Array Edge} {g : Option (Nat × Bool)} {x0 : Operand} {T0 : Ty} [s0 : cM T0 1 false] (h0 : aM E x0 T0) :
  aB Tryz.prog n E H ⟨d,.build 23 #[(0,x0)],t,pos,af,g⟩ (dL [T0,Is (.int .i64 0),Is (.int .i64 0)]) :=
 gA (parts := [(0, x0)]) fun a V w hs => by
  have p0:=h0 n V a hs
  generalize e0:a.eval x0 = v0 at p0
  have q0:=(s0.ok v0 V p0).2.2 rfl
  refine ⟨.agg #[v0,(.int .i64 0),(.int .i64 0)],?_,[v0,(.int .i64 0),(.int .i64 0)],rfl,aW (⟨p0,q0⟩) (aW (⟨rfl,trivial⟩) (aW (⟨rfl,trivial⟩) (aG)))⟩
  simp [e0,Instr.build,Instr.fill,Sem.run_bind,Result.andThen,eI,q0.cells,O_23,U_23,Z_2]
theorem qQ {n : Nat} {E : bR} {H : Hp} {d : Option Tmp} {t : TypeId} {pos : String} {af : Array Edge} {g : Option (Nat × Bool)} {x0 x2 : Operand} {T0 T2 : Ty} [s0 : cM T0 1 false] (h0 : aM E x0 T0) [s2 : cM T2 1 false] (h2 : aM E x2 T2) :
  aB Tryz.prog n E H ⟨d,.build 23 #[(0,x0),(2,x2)],t,pos,af,g⟩ (dL [T0,Is (.int .i64 0),T2]) :=
 gA (parts := [(0, x0), (2, x2)]) fun a V w hs => by
  have p0:=h0 n V a hs
  generalize e0:a.eval x0 = v0 at p0
  have q0:=(s0.ok v0 V p0).2.2 rfl
  have p2:=h2 n V a hs
  generalize e2:a.eval x2 = v2 at p2
  have q2:=(s2.ok v2 V p2).2.2 rfl
  refine ⟨.agg #[v0,(.int .i64 0),v2],?_,[v0,(.int .i64 0),v2],rfl,aW (⟨p0,q0⟩) (aW (⟨rfl,trivial⟩) (aW (⟨p2,q2⟩) (aG)))⟩
  simp [e0,e2,Instr.build,Instr.fill,Sem.run_bind,Result.andThen,eI,q0.cells,q2.cells,O_23,U_23,Z_2]
end
section
open Go Go.RowKit
theorem Nu:bA Tryz.prog 125 [NT .i64 ([]:List Qi).length,NT .i64 ([]:List Qi).length] (cH []):=(Cg (n:=0) (by decide)).fun fun B _ v S V h1 h2=>iQ (s:=5) (M:=[]) rfl v S V h1 h2
theorem a02 {c:List (List Qi)}:bA Tryz.prog 126 [cH [],cH c] (cH []):=by
 refine bA.intro Tryz.func126 rfl Tryz.ntmps126 rfl (fun cx=>(ts (ro rfl (cQ cV) (eX (cK (ts (rm rfl (ro rfl (dG U_78 (Ht rfl) aA) (ro rfl (dI (Ht rfl) (cJ 0)) (eX (rO (Ht rfl) (by rfl) ?_)))))))))))
 refine ts (ro rfl (cQ cV) (eX (fG rfl (fZ (eU rfl) ?_))))
 exact (fun v V h=>pY _ _ h)
theorem Nq  : bA Tryz.prog 196 [iV [] []] (cH []):=by
 refine bA.intro Tryz.func196 rfl Tryz.ntmps196 rfl (fun cx=>(ts (rn rfl (fK (Ht rfl)) fun B1=>(ro rfl (cQ cV) (eX (cK (fJ (m:=3) (dp 1 rfl (eJ A_80 Z_80 (Ht rfl) (i:=0) rfl rfl rfl) (dq 10 0 rfl (cZ K_117 nT ⟨(Ht rfl),trivial⟩) (dp 1 rfl (eJ A_80 Z_80 (Ht rfl) (i:=0) rfl rfl rfl) (fW bC rfl (by kernel_rfl) (aJ (aJ (aJ (aV (ro rfl (cZ K_117 nT ⟨(Ht rfl),trivial⟩) (ro rfl (cZ Tryz.call125 Nu ⟨(Ht rfl),(Ht rfl),trivial⟩) ?_)))))))))))))))))
 refine ra rfl (eX (cK (ts (ro rfl (eJ A_80 Z_80 (Ht rfl) (i:=0) rfl rfl rfl) (ro rfl (cZ Tryz.call247 (No (z:=[]) (s:=[]) (by decide)) ⟨(Ht rfl),trivial⟩) (ro rfl (dG U_54 (Ht rfl) aA) (ro rfl (cX (cJ 0)) (eX (eG ?_)))))))))
 refine dC (fun (i : Nat) => i ≤ 0) (fun (i : Nat) => 0 - i) (fun (i : Nat) => [(1, cB B1 0), (3, cH []), (17, NT .i64 0), (18, NT .i64 i)]) (fun (i : Nat) => [box B1 80 [cC [], cH []]]) 0 (Nat.zero_le _)
  (zS rfl) (dO.refl _) (fun i hi=>?_)
 refine ts (ro rfl (gJ (Ht rfl) (Ht rfl)) (eX (cK (dQ (Ht rfl) (fun hd=>?_) (fun hd=>?_)))))
 ·simp only [decide_eq_true_eq] at hd
  omega
 ·refine gG rfl (ts (ro rfl (eJ A_80 Z_80 (Ht rfl) (i := 0) rfl rfl rfl) (ro rfl (cZ Tryz.call122 (zZ (z := []) (s := []) ⟨rfl, fun r hr => by cases hr⟩ (by decide)) ⟨(Ht rfl), trivial⟩) (rm rfl (ro rfl (cZ Tryz.call126 (a02 (c := [])) ⟨(Ht rfl), (Ht rfl), trivial⟩) (ra rfl (eX (cK (ts (rm rfl (ro rfl (dG U_78 (Ht rfl) aA) (ro rfl (cX (cJ 0)) (eX (eG ?_))))))))))))))
  refine dC (fun (i : Nat) => i ≤ 0) (fun (i : Nat) => 0 - i) (fun (i : Nat) => [(1, cB B1 0), (3, cH []), (37, NT .i64 0), (38, NT .i64 i)]) (fun (i : Nat) => [box B1 80 [cC [], cH []]]) 0 (Nat.zero_le _)
   (zS rfl) (dO.refl _) (fun i hi=>?_)
  refine ts (ro rfl (gJ (Ht rfl) (Ht rfl)) (eX (cK (dQ (Ht rfl) (fun hd=>?_) (fun hd=>?_)))))
  ·simp only [decide_eq_true_eq] at hd
   omega
  ·refine gG rfl (ts (rm rfl (ra rfl (eX ?_))))
   exact fG rfl (eU rfl)
theorem Zw {t:Qi} {L:Nat} (ht:aE t L) (hL:L ≤ 10000000):bA Tryz.prog 100 [iV [] [],aF t] (fE [gS [] [] [],aD .i64 (jF t)]):=by
 haveI:=ht
 refine bA.intro Tryz.func100 rfl Tryz.ntmps100 rfl (fun cx=>(ts (rn rfl (fK (Ht rfl)) fun B2=>(rn rfl (fK (Ht rfl)) fun B3=>(rn rfl (eW (Ts:=[Is (.slice none 0 0),Is (.slice none 0 0),Is (.slice none 0 0)]) O_84 rfl (fun V=>aW zd (aW zd (aW zd (aG))))) fun B4=>(ro rfl (cQ (cJ 0)) (eX (cK (ts (ro rfl (eJ A_32 Z_32 (Ht rfl) (i:=1) rfl rfl rfl) (ro rfl (cZ K_79 (tB zo) ⟨(Ht rfl),trivial⟩) (ro rfl (dR (Ht rfl)) ?_))))))))))))
 refine eX (dQ (Ht rfl) (fun hb=>?_) (fun hb=>?_))
 ·have he : jF t ≠ 0 := by simp only [Bool.not_eq_true'] at hb; rw [jF, hb]; decide
  have he1:jF t = 1:=by simp only [Bool.not_eq_true'] at hb; rw [jF,hb]; rfl
  refine ts (ro rfl (aB.imp (rR ) nG) (gZ Z_84 (Ht rfl) (Ht rfl) rfl (i:=2) rfl (aK rfl) rfl rfl (ro rfl (cQ (cJ 1)) (eX (bE rfl (fU A_84 Z_84 rfl (i:=2) rfl rfl) (fZ (eU rfl) ?_))))))
  exact (aP he1.symm)
 ·have he : jF t = 0 := by simp only [Bool.not_eq_false'] at hb; rw [jF, hb]; rfl
  refine cU (ts (ro rfl (eJ A_80 Z_80 (Ht rfl) (i:=0) rfl rfl rfl) (ro rfl (cZ Tryz.call196 Nq ⟨(Ht rfl),trivial⟩) (ra rfl (eX (cK (ts (rm rfl (ro rfl (dG U_78 (Ht rfl) aA) (ro rfl (cX (cJ 0)) (eX (eG ?_))))))))))))
  refine dC (fun (i : Nat) => i ≤ 0) (fun (i : Nat) => 0 - i) (fun (i : Nat) => [(2, cB B2 0), (3, cB B3 0), (4, cB B4 0), (6, cH []), (17, NT .i64 0), (18, NT .i64 i)]) (fun (i : Nat) => [box B2 80 [cC [], cH []], box B3 32 [aC (decide (t.a < 0)), aI t.a.natAbs, aC (decide (t.b < 0)), aI t.b.natAbs, aI (du t)], box B4 84 [Is (.slice none 0 0), Is (.slice none 0 0), Is (.slice none 0 0)]]) 0 (Nat.zero_le _)
   (zS rfl) (dO.refl _) (fun i hi=>?_)
  refine ts (ro rfl (gJ (Ht rfl) (Ht rfl)) (eX (cK (dQ (Ht rfl) (fun hd=>?_) (fun hd=>?_)))))
  ·simp only [decide_eq_true_eq] at hd
   omega
  ·refine gG rfl (ts (ro rfl (eJ A_80 Z_80 (Ht rfl) (i := 0) rfl rfl rfl) (rm rfl (ro rfl (qS (Ht rfl) (Ht rfl)) (gZ Z_84 (Ht rfl) (Ht rfl) rfl (i := 2) rfl (aK rfl) rfl rfl (ro rfl (cQ (cJ 0)) (eX (bE rfl (fU A_84 Z_84 rfl (i := 2) rfl rfl) (fZ (eU rfl) ?_)))))))))
   exact (aP he.symm)
end
section
open Go Go.RowKit
theorem At {α:Type} (e:Int):jE e ([]:List α) = []:=by unfold jE; split <;> rfl
theorem Rj {t : Qi} {c : List (List Qi)} {n L M : Nat} (ht : aE t L) (hc : bS c M) (hM : 1 ≤ M) : bS (Ge t c n) (L + M + 1) := bS.tab fun i j _ _ => by
 haveI:=ht; haveI:=hc.get hM i j
 infer_instance
theorem Zx {z:List Qi} {s:List (List Qi)} {t:Qi} {L:Nat} (hz:fH z L) (hs:bS s L) (ht:aE t L) (hL1:1 ≤ L) (hL:L ≤ 10000000) (hsh:fO s z.length z.length) (hl:z.length ≤ 8):bA Tryz.prog 100 [iV z s,aF t] (fE [gS (jE (jF t) z) (jE (jF t) s) (jE (jF t) (Ge t (nI z s) z.length)),aD .i64 (jF t)]):=by
 cases z with
 | nil =>
  have e:s = []:=List.length_eq_zero_iff.1 hsh.1
  subst e
  rw [At,At,show Ge t (nI [] []) ([]:List Qi).length = [] from rfl,At]
  exact Zw ht hL
 | cons x z=>exact a1u hz hs ht hL1 hL hsh (by simp) hl
end
section
open Go Go.RowKit
theorem Qi.zero_div (y:Qi):Qi.zero / y = Qi.zero:=by rw [Qi.div_def,Qi.zero_mul']
end
section
open Go Go.RowKit
namespace Qi
theorem Bs {x:Qi}:0 ≤ x.a ↔ 0 ≤ x.re:=by
 have hk:0 < x.den / x.re.den:=Nat.div_pos (Nat.le_of_dvd x.den_pos (Nat.dvd_lcm_left _ _)) x.re.den_pos
 rw [← Rat.num_nonneg]
 show 0 ≤ x.re.num * ((x.den / x.re.den:Nat):Int) ↔ _
 generalize x.den / x.re.den = k at hk
 constructor
 ·intro h
  exact Int.nonneg_of_mul_nonneg_left h zo
 ·intro h; exact Int.mul_nonneg h zo
theorem a_neg {x:Qi}:x.a < 0 ↔ x.re < 0:=by
 have:=@Bs x
 constructor
 ·intro h; rcases Rat.not_le.1 (fun k=>by have:=this.2 k; omega) with h; exact h
 ·intro h; exact Int.not_le.1 fun k=>Rat.not_le.2 h (this.1 k)
theorem a_pos {x:Qi}:0 < x.a ↔ 0 < x.re:=by
 have h1:=@Bs x; have h2:=@Ek x
 constructor
 ·intro h
  have h3:0 ≤ x.re:=h1.1 zo
  have h4:x.re ≠ 0:=fun e=>by have:=h2.2 e; omega
  exact Rat.lt_of_le_of_ne h3 (Ne.symm h4)
 ·intro h
  have h3:0 ≤ x.a:=h1.2 (by grind)
  have h4:x.a ≠ 0:=fun e=>by have:=h2.1 e; grind
  omega
end Qi
theorem Oa {m n:Int} (h1:m < 0 ↔ n < 0) (h2:0 < m ↔ 0 < n):jS m 0 = jS n 0:=by
 unfold jS
 by_cases a:m < 0
 ·rw [if_pos a,if_pos (h1.1 a)]
 ·rw [if_neg a, if_neg (fun k => a (h1.2 k))]
  by_cases b:0 < m
  ·rw [if_pos b,if_pos (h2.1 b)]
  ·rw [if_neg b,if_neg (fun k=>b (h2.2 k))]
theorem Oc (m n:Int):jS m n = jS (m - n) 0:=by
 unfold jS
 by_cases a:m < n
 ·rw [if_pos a,if_pos zo]
 ·rw [if_neg a, if_neg (by omega : ¬ m - n < 0)]
  by_cases b:n < m
  ·rw [if_pos b,if_pos zo]
  ·rw [if_neg b,if_neg zo]
def nV (x y:Qi):Int:=jS (x - y).a 0
theorem Uf {x y:Qi}:nV x y < 0 ↔ x.re < y.re:=by
 rw [nV,Nz,Qi.a_neg]; show x.re - y.re < 0 ↔ _; constructor <;> intro h <;> grind
theorem Hx {x y:Qi}:0 < nV x y ↔ y.re < x.re:=by
 rw [nV,Ci,Qi.a_pos]; show 0 < x.re - y.re ↔ _; constructor <;> intro h <;> grind
theorem Hy {x y:Qi}:nV x y ≤ 0 ↔ x.re ≤ y.re:=by
 have:=@Hx x y
 constructor
 ·intro h; exact Rat.not_lt.1 fun k=>by have:=this.2 k; omega
 ·intro h; exact Int.not_lt.1 fun k=>Rat.not_lt.2 h (this.1 k)
theorem nB {x y:Qi} (hx:x.b = 0) (hy:y.b = 0):qU x y = nV x y:=by
 have e2:jS (x.b * y.den) (y.b * x.den) = 0:=by rw [hx,hy]; simp [jS]
 have h0 : x - y = Qi.mk' (x.a * y.den + -y.a * x.den) (x.b * y.den + -y.b * x.den) (x.den * y.den) := by
  obtain ⟨n1,n2,n3⟩:=Qi.neg_a y
  rw [Qi.sub_def,← Qi.mk_add,n1,n2,n3]
 obtain ⟨k,hk,_,h2,_⟩:=Qi.mk_scale (x.a * y.den + -y.a * x.den) (x.b * y.den + -y.b * x.den) (Nat.mul_pos x.den_pos y.den_pos)
 rw [← h0] at h2
 have e1 : jS (x.a * y.den) (y.a * x.den) = nV x y := by
  rw [Oc,nV]
  have e:x.a * y.den - y.a * x.den = (x - y).a * k:=by rw [← h2,Int.neg_mul]; omega
  rw [e]
  refine Oa ?_ ?_
  ·constructor
   ·intro h; exact Int.not_le.1 fun g=>by have:=Int.mul_nonneg g (by omega:(0:Int) ≤ k); omega
   ·intro h; exact Int.mul_neg_of_neg_of_pos h zo
  ·constructor
   ·intro h; exact Int.not_le.1 fun g=>by have:=Int.mul_nonpos_of_nonpos_of_nonneg g (by omega:(0:Int) ≤ k); omega
   ·intro h; exact Int.mul_pos h zo
 unfold qU
 rw [e1,e2]
 by_cases h:nV x y ≠ 0
 ·rw [if_pos h]
 ·rw [if_neg h]; exact (Decidable.not_not.1 h).symm
def Fe (f : Nat → Int) : Nat → Int
 | 0=>0
 | n + 1=>if Fe f n ≠ 0 then Fe f n else f n
abbrev eF (l:List (Qi × Qi)) (i:Nat):Qi:=(l.getD i (Qi.zero,Qi.zero)).1
abbrev eV (l:List (Qi × Qi)) (i:Nat):Qi:=(l.getD i (Qi.zero,Qi.zero)).2
structure Yb (l:List (Qi × Qi)) (f:Qi):Prop where
 real:∀ i,i < l.length → (eF l i).b = 0 ∧ (eV l i).b = 0
 up:∀ i,0 < i → i < l.length → (eF l (i - 1)).re < (eF l i).re
 fr:f.b = 0
theorem Yb.mono {l : List (Qi × Qi)} {f : Qi} (h : Yb l f) {i : Nat} : ∀ {j : Nat}, i < j → j < l.length → (eF l i).re < (eF l j).re
 | 0,h1,_=>by omega
 | j + 1, h1, h2 => by
  have h3:=h.up (j + 1) zo h2
  rw [Nat.add_sub_cancel] at h3
  by_cases e:i = j
  ·rw [e]; exact h3
  ·have := h.mono (i := i) (j := j) zo zo
   grind
theorem Qi.sub_ne {x y : Qi} (h : x.re ≠ y.re) : x - y ≠ Qi.zero := fun e => h (by
 have:(x - y).re = 0:=by rw [e]; rfl
 have h2:x.re - y.re = 0:=this
 grind)
def a1h (l:List (Qi × Qi)) (L:Nat):Prop:=∀ e,e ∈ l → aE e.1 L ∧ aE e.2 L
theorem a1h.get {l:List (Qi × Qi)} {L:Nat} (h:a1h l L) (hL:1 ≤ L) (i:Nat):aE (eF l i) L ∧ aE (eV l i) L:=by
 by_cases hi:i < l.length
 ·have e : l.getD i (Qi.zero, Qi.zero) = l[i] := by simp [List.getD, hi]
  show aE (l.getD i _).1 L ∧ aE (l.getD i _).2 L
  rw [e]; exact h _ (List.getElem_mem hi)
 ·have e : l.getD i (Qi.zero, Qi.zero) = (Qi.zero, Qi.zero) := by simp [List.getD, List.getElem?_eq_none (Nat.le_of_not_lt hi)]
  show aE (l.getD i _).1 L ∧ aE (l.getD i _).2 L
  rw [e]; exact ⟨aE.zero hL,aE.zero hL⟩
end
section
open Go Go.RowKit
abbrev iU (M:List (List Qi)) (i:Nat):List Qi:=M.getD i []
def Mg (M : List (List Qi)) (c n : Nat) : Nat → Nat
 | 0=>n
 | k + 1=>if gm M (n - (k + 1)) c = Qi.zero then Mg M c n k else n - (k + 1)
def pv (M:List (List Qi)) (c n:Nat):Nat:=Mg M c n (n - c)
theorem Dn {M : List (List Qi)} {c n : Nat} : ∀ {k : Nat}, k ≤ n → (∀ r, n - k ≤ r → r < Mg M c n k → gm M r c = Qi.zero) ∧ n - k ≤ Mg M c n k ∧ Mg M c n k ≤ n ∧ (Mg M c n k < n → gm M (Mg M c n k) c ≠ Qi.zero)
 | 0,_=>⟨fun r h1 h2=>by simp [Mg] at h2; omega,by simp [Mg],by simp [Mg],fun h=>by simp [Mg] at h⟩
 | k + 1, hk => by
  obtain ⟨i1,i2,i3,i4⟩:=Dn (M:=M) (c:=c) (n:=n) (k:=k) zo
  unfold Mg
  by_cases e:gm M (n - (k + 1)) c = Qi.zero
  ·rw [if_pos e]
   refine ⟨fun r h1 h2=>?_,by omega,i3,i4⟩
   by_cases e2:r = n - (k + 1)
   ·rw [e2]; exact e
   ·exact i1 r zo h2
  ·rw [if_neg e]
   exact ⟨fun r h1 h2=>by omega,Nat.le_refl _,by omega,fun _=>e⟩
theorem sO {M:List (List Qi)} {c n:Nat} (hc:c ≤ n):(∀ r,c ≤ r → r < pv M c n → gm M r c = Qi.zero) ∧ c ≤ pv M c n ∧ pv M c n ≤ n ∧ (pv M c n < n → gm M (pv M c n) c ≠ Qi.zero):=by
 have h:=Dn (M:=M) (c:=c) (n:=n) (k:=n - c) zo
 rw [show n - (n - c) = c by omega] at h
 exact h
def Ds (rr rc:List Qi) (c k:Nat):List Qi:=tab rr.length fun j=>if c < j ∧ j < k then gv rr j - gv rr c / gv rc c * gv rc j else gv rr j
def redM (M:List (List Qi)) (c r:Nat):List (List Qi):=tab M.length fun i=>if c < i ∧ i < r then Ds (iU M i) (iU M c) c (iU M i).length else iU M i
def iK (M : List (List Qi)) : Nat → List (List Qi) × Nat × Int
 | 0=>(M,0,-1)
 | c + 1 =>
  let s:=iK M c
  if 0 ≤ s.2.2 then s else
  if pv s.1 c M.length = M.length then (s.1,s.2.1,(c:Int)) else
  (redM (if pv s.1 c M.length = c then s.1 else swp [] s.1 (pv s.1 c M.length) c) c M.length,s.2.1 + (if pv s.1 c M.length = c then 0 else 1),-1)
theorem Rd (M:List (List Qi)) (c r:Nat):(redM M c r).length = M.length:=aR _ _
theorem Dq {M:List (List Qi)} {n m c r:Nat} (h:fO M n m):fO (redM M c r) n m:=by
 refine ⟨(Rd _ _ _).trans h.1,fun x hx=>?_⟩
 obtain ⟨i,hi,rfl⟩:=gL.1 hx
 have hr:=h.row (i:=i) (by rw [← h.1]; exact hi)
 show (if c < i ∧ i < r then Ds (iU M i) (iU M c) c (iU M i).length else iU M i).length = m
 split
 ·rw [Ds,aR]; exact hr
 ·exact hr
theorem Bf {M:List (List Qi)} {n m p c:Nat} (h:fO M n m) (hp:p < n) (hc:c < n):fO (swp [] M p c) n m:=by
 refine ⟨(Be _ _ _ _).trans h.1,fun x hx=>?_⟩
 unfold swp at hx
 rcases List.mem_or_eq_of_mem_set hx with h1 | h1
 ·rcases List.mem_or_eq_of_mem_set h1 with h2 | h2
  ·exact h.2 x h2
  ·rw [h2]; exact h.row hc
 ·rw [h1]; exact h.row hp
theorem vX {M : List (List Qi)} {n m : Nat} (h : fO M n m) : ∀ {c : Nat}, c ≤ n → fO (iK M c).1 n m
 | 0,_=>h
 | c + 1, hc => by
  have ih:=vX h (c:=c) zo
  obtain ⟨_,_,i3,_⟩:=sO (M:=(iK M c).1) (c:=c) (n:=M.length) (by rw [h.1]; omega)
  simp only [iK]
  split
  ·exact ih
  ·split
   ·exact ih
   ·rename_i e
    apply Dq
    split
    ·exact ih
    ·exact Bf ih (by rw [← h.1]; omega) zo
def oZ (L : Nat) : Nat → Nat
 | 0=>L
 | c + 1=>6 * oZ L c + 4
theorem pV (L : Nat) : ∀ {c d : Nat}, c ≤ d → oZ L c ≤ oZ L d
 | c,0,h=>by rw [show c = 0 by omega]; exact Nat.le_refl _
 | c, d + 1, h => by
  by_cases e:c = d + 1
  ·rw [e]; exact Nat.le_refl _
  ·have := pV L (c := c) (d := d) zo
   simp only [oZ]; omega
theorem uS (L c:Nat):L ≤ oZ L c:=pV L (Nat.zero_le c)
theorem Ie {rr rc:List Qi} {L c j:Nat} (h1:fH rr L) (h2:fH rc L) (hL:1 ≤ L) (hp:gv rc c ≠ Qi.zero):aE (gv rr j - gv rr c / gv rc c * gv rc j) (6 * L + 4):=by
 haveI f1:=h1.get hL j; haveI f2:=h1.get hL c; haveI f3:=h2.get hL c; haveI f4:=h2.get hL j
 haveI g:aE (gv rr c / gv rc c) (L + 3 * L + 2):=⟨f2.fit.div f3.fit hp⟩
 have:aE (gv rr j - gv rr c / gv rc c * gv rc j) (L + (L + 3 * L + 2 + L + 1) + 1):=inferInstance
 exact this.le zo
theorem Rf {rr rc : List Qi} {L c k : Nat} (h1 : fH rr L) (h2 : fH rc L) (hL : 1 ≤ L) (hp : gv rc c ≠ Qi.zero) : fH (Ds rr rc c k) (6 * L + 4) := fH.tab fun j _ => by
 split
 ·exact Ie h1 h2 hL hp
 ·exact (h1.get hL j).le zo
theorem Dp {M : List (List Qi)} {L c r : Nat} (h : bS M L) (hL : 1 ≤ L) (hp : gm M c c ≠ Qi.zero) : bS (redM M c r) (6 * L + 4) := fun x hx => by
 obtain ⟨i,hi,rfl⟩:=gL.1 hx
 show fH (if c < i ∧ i < r then Ds (iU M i) (iU M c) c (iU M i).length else iU M i) _
 split
 ·exact Rf (h.row i) (h.row c) hL hp
 ·exact (h.row i).le zo
theorem Js {M : List (List Qi)} {L p c : Nat} (h : bS M L) : bS (swp [] M p c) L := fun x hx => by
 unfold swp at hx
 rcases List.mem_or_eq_of_mem_set hx with h1 | h1
 ·rcases List.mem_or_eq_of_mem_set h1 with h2 | h2
  ·exact h x h2
  ·rw [h2]; exact h.row c
 ·rw [h1]; exact h.row p
theorem Bd {M:List (List Qi)} {p c:Nat} (hc:c < M.length):iU (swp [] M p c) c = iU M p:=by
 simp [iU,swp,List.getD,hc]
theorem vW {M : List (List Qi)} {n m L : Nat} (hs : fO M n m) (h : bS M L) (hL : 1 ≤ L) : ∀ {c : Nat}, c ≤ n → bS (iK M c).1 (oZ L c)
 | 0,_=>h
 | c + 1, hc => by
  have ih:=vW hs h hL (c:=c) zo
  have hg:1 ≤ oZ L c:=Nat.le_trans hL (uS L c)
  have sh:=vX hs (c:=c) zo
  obtain ⟨_,i2,i3,i4⟩:=sO (M:=(iK M c).1) (c:=c) (n:=M.length) (by rw [hs.1]; omega)
  simp only [iK,oZ]
  split
  ·exact ih.le zo
  ·split
   ·exact ih.le zo
   ·rename_i e
    split
    ·rename_i e2
     refine Dp ih hg ?_
     have:=i4 zo
     rw [e2] at this; exact this
    ·refine Dp (Js ih) hg ?_
     show gv (iU (swp [] _ _ c) c) c ≠ _
     rw [Bd (by rw [sh.1]; omega)]
     exact i4 zo
theorem Wx {M:List (List Qi)} {c r i:Nat} (hi:i < M.length) (h:¬ (c < i ∧ i < r)):iU (redM M c r) i = iU M i:=by
 simp only [iU,redM,List.getD]
 rw [eE hi,if_neg h]; rfl
end
section
open Go Go.RowKit
abbrev a1B (M bs:List (List Qi)) (i:Nat):List Qi:=iU M i ++ bs.map fun b=>gv b i
def tY (M bs:List (List Qi)) (n:Nat):List (List Qi):=tab n (a1B M bs)
theorem tD {M bs:List (List Qi)} {n m:Nat} (h:fO M n m):fO (tY M bs n) n (m + bs.length):=by
 refine ⟨aR _ _,fun r hr=>?_⟩
 obtain ⟨i,hi,rfl⟩:=gL.1 hr
 rw [List.length_append,List.length_map,h.row hi]
theorem tC {M bs : List (List Qi)} {n L : Nat} (h : bS M L) (hb : bS bs L) (hL : 1 ≤ L) : bS (tY M bs n) L := fun r hr x hx => by
 obtain ⟨i,hi,rfl⟩:=gL.1 hr
 rcases List.mem_append.1 hx with h1 | h1
 ·exact h.row i x h1
 ·obtain ⟨b, hb1, rfl⟩ := List.mem_map.1 h1
  exact fH.get (hb b hb1) hL i
def Gg (U : List (List Qi)) (x : List Qi) (n c : Nat) : Nat → Qi
 | 0=>gm U c n
 | k + 1=>Gg U x n c k - gm U c (c + 1 + k) * gv x (c + 1 + k)
def bkS (U : List (List Qi)) (n : Nat) : Nat → List Qi
 | 0=>tab n fun _=>Qi.zero
 | j + 1=>(bkS U n j).set (n - (j + 1)) (Gg U (bkS U n j) n (n - (j + 1)) j / gm U (n - (j + 1)) (n - (j + 1)))
def Lw (M:List (List Qi)) (b:List Qi) (n:Nat):List (List Qi) × Nat × Int:=iK (tY M [b] n) n
def a22 (M:List (List Qi)) (b:List Qi) (n:Nat):Int:=if 0 ≤ (Lw M b n).2.2 then 6 else 0
def Jx (G : Nat) : Nat → Nat
 | 0=>G
 | j + 1=>j * (Jx G j + G + 2) + 4 * G + 2
theorem xH (G j:Nat):Jx G j ≤ Jx G (j + 1):=by
 cases j with
 | zero=>simp only [Jx]; omega
 | succ j =>
  have:Jx G (j + 1) + G + 2 ≤ (j + 1) * (Jx G (j + 1) + G + 2):=Nat.le_mul_of_pos_left _ zo
  rw [show Jx G (j + 1 + 1) = (j + 1) * (Jx G (j + 1) + G + 2) + 4 * G + 2 from rfl]
  omega
theorem Gq (G : Nat) : ∀ j, G ≤ Jx G j
 | 0=>Nat.le_refl _
 | j + 1=>Nat.le_trans (Gq G j) (xH G j)
theorem Eb (G : Nat) : ∀ {i j : Nat}, i ≤ j → Jx G i ≤ Jx G j
 | i,0,h=>by rw [show i = 0 by omega]; exact Nat.le_refl _
 | i, j + 1, h => by
  by_cases e:i = j + 1
  ·rw [e]; exact Nat.le_refl _
  ·exact Nat.le_trans (Eb G (show i ≤ j by omega)) (xH G j)
theorem yU {M : List (List Qi)} {n m : Nat} (hs : fO M n m) : ∀ {c : Nat}, c ≤ n → (iK M c).2.2 < 0 → ∀ i, i < c → gm (iK M c).1 i i ≠ Qi.zero
 | 0,_,_,i,hi=>by omega
 | c + 1, hc, hst, i, hi => by
  have sh:=vX hs (c:=c) zo
  obtain ⟨_,i2,i3,i4⟩:=sO (M:=(iK M c).1) (c:=c) (n:=M.length) (by rw [hs.1]; omega)
  simp only [iK] at hst ⊢
  split at hst
  ·rename_i h0; omega
  ·rename_i h0
   rw [if_neg h0]
   split at hst
   ·simp at hst; omega
   ·rename_i h1
    rw [if_neg h1]
    have ih:=yU hs (c:=c) zo zo
    have hl : ∀ X : List (List Qi), X.length = n → gm (redM X c M.length) i i = gm X i i := fun X hX => by
     show gv (iU (redM X c M.length) i) i = _
     rw [Wx zo zo]
    by_cases e:pv (iK M c).1 c M.length = c
    ·rw [if_pos e, hl _ sh.1]
     by_cases e2:i = c
     ·rw [e2]; have:=i4 (by have:=hs.1; omega); rw [e] at this; exact this
     ·exact ih i zo
    ·have hpl : pv (iK M c).1 c M.length < n := by rw [← hs.1]; omega
     rw [if_neg e,hl _ ((Be _ _ _ _).trans sh.1)]
     by_cases e2:i = c
     ·rw [e2]
      show gv (iU (swp [] _ _ c) c) c ≠ _
      rw [Bd (by rw [sh.1]; omega)]
      exact i4 (by have:=hs.1; omega)
     ·have : iU (swp [] (iK M c).1 (pv (iK M c).1 c M.length) c) i = iU (iK M c).1 i := by
       simp only [iU,swp,List.getD]
       rw [List.getElem?_set_ne (Ne.symm e2),List.getElem?_set_ne zo]
      show gv (iU (swp [] _ _ c) i) i ≠ _
      rw [this]; exact ih i zo
theorem Jr {U : List (List Qi)} {x : List Qi} {n c G X : Nat} (hU : bS U G) (hx : fH x X) (hG : 1 ≤ G) (hX : 1 ≤ X) : ∀ k, aE (Gg U x n c k) (G + k * (G + X + 2))
 | 0=>(hU.get hG c n).le zo
 | k + 1 => by
  haveI f1:=Jr (n:=n) (c:=c) hU hx hG hX k
  haveI f2:=hU.get hG c (c + 1 + k)
  haveI f3:=hx.get hX (c + 1 + k)
  have:aE (Gg U x n c (k + 1)) (G + k * (G + X + 2) + (G + X + 1) + 1):=by unfold Gg; infer_instance
  exact this.le (by rw [Nat.add_mul]; omega)
theorem Zt {U:List (List Qi)} {x:List Qi} {n c G X j:Nat} (hU:bS U G) (hx:fH x X) (hG:1 ≤ G) (hX:1 ≤ X) (hz:gm U c c ≠ Qi.zero):aE (Gg U x n c j / gm U c c) (j * (X + G + 2) + 4 * G + 2):=by
 have f1:=Jr (n:=n) (c:=c) hU hx hG hX j
 have f2:=hU.get hG c c
 have:aE (Gg U x n c j / gm U c c) (G + j * (G + X + 2) + 3 * G + 2):=⟨f1.fit.div f2.fit hz⟩
 exact this.le (by rw [Nat.add_comm X G]; omega)
theorem My {U : List (List Qi)} {n G : Nat} (hU : bS U G) (hG : 1 ≤ G) (hz : ∀ i, i < n → gm U i i ≠ Qi.zero) : ∀ j, j ≤ n → fH (bkS U n j) (Jx G j)
 | 0,_=>fH.tab fun _ _=>aE.zero hG
 | j + 1, hj => fun y hy => by
  have ih:=My hU hG hz j zo
  rcases List.mem_or_eq_of_mem_set hy with h1 | h1
  ·exact (ih y h1).le (xH G j)
  ·rw [h1]; exact Zt hU ih hG (Nat.le_trans hG (Gq G j)) (hz _ zo)
theorem Ro {M:List (List Qi)} {b:List Qi} {n L:Nat} (h:fO M n n) (hM:bS M L) (hb:fH b L) (hL:1 ≤ L):bS (Lw M b n).1 (oZ L n):=vW (tD h) (tC hM (fun r hr=>by simp at hr; subst hr; exact hb) hL) hL (Nat.le_refl n)
def a2b (n i:Nat):List Qi:=(tab n fun _=>Qi.zero).set i (Qi.ofInt 1)
def idM (n:Nat):List (List Qi):=tab n (a2b n)
theorem nX:aE (Qi.ofInt 1) 1:=⟨Qi.Fit.int (L:=1) (by decide) (by decide)⟩
theorem Xj {M:List (List Qi)} {b:List Qi} {n:Nat} (h:¬ 0 ≤ (Lw M b n).2.2):(Lw M b n).2.2 < 0:=by omega
theorem Bh (F:Qi → Ty) (n:Nat):List.replicate n (F Qi.zero) = (tab n fun _=>Qi.zero).map F:=by rw [Bg,Wz]
end
section
open Go Go.RowKit
abbrev ek (n k:Nat):List Qi:=(idM n).getD k []
theorem Ry {α:Type} {n i:Nat} {f:Nat → α} {d:α} (h:i < n):(tab n f).getD i d = f i:=by simp [List.getD,eE h]
end
section
open Go Go.RowKit
section
variable {P:Program} {R:eP} {cx:Cx} {n:Nat} {k:List It} {E:bR} {H:Hp}
theorem Ej (i l off : Nat) {B : Nat} {BT : TypeId} {Us : List Ty} {v : Value} {A : SA} {T : Ty} (hB : H[i]? = some (box B BT Us)) (hU : Us[off]? = some (Is v)) (hL : H[l]? = some A) (hne : i ≠ l) (hT : ∀ S V, A.h S V V → T.p v V)
  (h:Tr P R cx n k E ((H.set l SA.emp).set i (box B BT (Us.set off T)))):Tr P R cx n k E H:=fun a w ⟨V,hi,hs⟩=>by
 obtain ⟨V',S,hle,hi',hA⟩:=hi.freeze hL
 have hT:=hT S V' hA
 refine h a w ⟨V',hi'.withHH ?_,hs.mono hle⟩
 obtain ⟨F,h1,h2⟩:=hi'.hp
 have hB':(H.set l SA.emp)[i]? = some (box B BT Us):=by rw [List.getElem?_set_ne (Ne.symm hne)]; exact hB
 have hil:=(List.getElem?_eq_some_iff.1 hB').1
 refine ⟨F,fun q A hq=>?_,fun q r b hq hr=>h2 q r b (by simpa using hq) (by simpa using hr)⟩
 by_cases c:i = q
 ·subst c
  rw [List.getElem?_set_self hil] at hq
  obtain rfl:=Option.some.inj hq
  obtain ⟨⟨k1,cs,k2,k3⟩,k4⟩:=h1 i _ hB'
  obtain ⟨u,u1,u2⟩:=k3.get hU
  obtain rfl:u = v:=u2
  have hset : cs.set off u = cs := by
   apply List.ext_getElem?
   intro j
   by_cases cj:off = j
   ·subst cj; rw [List.getElem?_set_self (List.getElem?_eq_some_iff.1 u1).1,u1]
   ·rw [List.getElem?_set_ne cj]
  refine ⟨⟨k1,cs,k2,?_⟩,k4⟩
  have:=k3.set off (v:=u) hT (k3.pl u (List.mem_of_getElem? u1))
  rwa [hset] at this
 ·rw [List.getElem?_set_ne c] at hq
  exact h1 q A hq
theorem a2j {B e l : Nat} {BT : TypeId} {F : Qi → Ty} {q : Value → Prop} {M : List (List Qi)} (hl : l = M.length) : ∀ S V, (lE q B BT e 5 (dA F M)).h S V V → (jY 1 (M.map fun r => jY 5 (r.map F))).p (.slice (some ⟨B, 0, none⟩) l l) V := fun S V h =>
 iQ (s:=5) (M:=M) hl _ S V rfl h
end
def mA (p i:Nat):Nat:=if i < p then i else i + 1
abbrev oG (l:List Nat):Ty:=jY 1 (l.map (NT .i64))
def wE (p n:Nat):List Nat:=tab n fun j=>mA p j + 1
def Kl (p i:Nat):Nat:=if i ≤ p then i else i - 1
theorem Ia {p n:Nat} (h:p < n):Kl p n = n - 1:=by unfold Kl; split <;> omega
theorem Gf {p i n:Nat} (h:i < n - 1) (hp:p < n):mA p i < n:=by unfold mA; split <;> omega
theorem Im {p n j:Nat} (h:j < n):(wE p n)[j]? = some (mA p j + 1):=eE h
def uM (z:List Qi) (p m:Nat):List Qi:=tab m fun i=>gv z (mA p i)
def a1V (s:List (List Qi)) (p m:Nat):List (List Qi):=tab m fun i=>tab m fun j=>gm s (mA p i) (mA p j)
def Gm (s:List (List Qi)) (p:Nat) (f:Qi) (i j:Nat):Qi:=gm s (mA p i) (mA p j) + gm s (mA p i) p * (f * gm s p (mA p j))
def Bi (s:List (List Qi)) (p m:Nat) (f:Qi):List (List Qi):=tab m fun i=>tab m fun j=>Gm s p f i j
def iC (s:List (List Qi)) (p:Nat) (g:Qi):Qi:=g / (Qi.ofInt 1 - gm s p p * g)
def mX (z : List Qi) (s : List (List Qi)) (port : Int) (g : Qi) : Int :=
 if ¬ (1 ≤ port ∧ port ≤ z.length) then 1 else if z.length = 1 then 4 else if Qi.ofInt 1 - gm s (port - 1).toNat (port - 1).toNat * g = Qi.zero then 6 else 0
def xF (z:List Qi) (s:List (List Qi)) (port:Int) (g:Qi):List Qi:=jE (mX z s port g) (uM z (port - 1).toNat (z.length - 1))
def xE (z:List Qi) (s:List (List Qi)) (port:Int) (g:Qi):List (List Qi):=jE (mX z s port g) (Bi s (port - 1).toNat (z.length - 1) (iC s (port - 1).toNat g))
theorem Bj {z:List Qi} {s:List (List Qi)} {port:Int} {g:Qi} {e:Int} (h:mX z s port g = e) (he:e ≠ 0):∀ v V,(iV [] []).p v V → (iV (xF z s port g) (xE z s port g)).p v V:=by
 rw [xF,xE,jE,jE,h,if_neg he,if_neg he]; exact fun _ _ k=>k
theorem Za (p:Nat):((p:Int) + 1 - 1).toNat = p:=by omega
theorem Sg {z:List Qi} {s:List (List Qi)} {p:Nat} {g:Qi} (h:mX z s ((p:Int) + 1) g = 0):∀ v V,(iV (uM z p (z.length - 1)) (Bi s p (z.length - 1) (iC s p g))).p v V → (iV (xF z s ((p:Int) + 1) g) (xE z s ((p:Int) + 1) g)).p v V:=by
 rw [xF,xE,jE,jE,h,if_pos rfl,if_pos rfl,Za]; exact fun _ _ k=>k
theorem a1b {z:List Qi} {s:List (List Qi)} {port:Int} {g:Qi} (h:¬ (1 ≤ port ∧ port ≤ z.length)):mX z s port g = 1:=by rw [mX,if_pos h]
theorem a1c {z:List Qi} {s:List (List Qi)} {port:Int} {g:Qi} (h:1 ≤ port ∧ port ≤ z.length) (h1:z.length = 1):mX z s port g = 4:=by rw [mX,if_neg (fun k=>k h),if_pos h1]
theorem a1d {z:List Qi} {s:List (List Qi)} {p:Nat} {g:Qi} (h:p < z.length) (h1:¬ z.length = 1):mX z s ((p:Int) + 1) g = if Qi.ofInt 1 - gm s p p * g = Qi.zero then 6 else 0:=by
 rw [mX,if_neg (fun k=>k zo),if_neg h1,Za]
theorem Sf {s:List (List Qi)} {p L:Nat} {g:Qi} (hs:bS s L) (hg:aE g L) (hL:1 ≤ L) (hd:Qi.ofInt 1 - gm s p p * g ≠ Qi.zero):aE (iC s p g) (7 * L + 11):=by
 haveI f0:=nX
 haveI f1:=hs.get hL p p
 haveI f2:=hg
 have f3:aE (Qi.ofInt 1 - gm s p p * g) (1 + (L + L + 1) + 1):=@fitSub _ _ _ _ f0 inferInstance
 have:aE (iC s p g) (L + 3 * (1 + (L + L + 1) + 1) + 2):=⟨f2.fit.div f3.fit hd⟩
 exact this.le zo
end
section
open Go Go.RowKit
namespace Qi
def npow' (x : Qi) : Nat → Qi
 | 0=>Qi.ofInt 1
 | k + 1=>npow' x k * x
theorem one_mul2 (x:Qi):Qi.ofInt 1 * x = x:=ext' (by show ((1:Int):Rat) * x.re - 0 * x.im = x.re; grind) (by show ((1:Int):Rat) * x.im + 0 * x.re = x.im; grind)
theorem mul_one2 (x:Qi):x * Qi.ofInt 1 = x:=by rw [mul_comm',one_mul2]
end Qi
instance qiField:Lean.Grind.CommRing Qi where
 natCast:=⟨fun n=>Qi.ofInt n⟩
 ofNat n:=⟨Qi.ofInt n⟩
 nsmul:=⟨fun n x=>Qi.ofInt n * x⟩
 npow:=⟨Qi.npow'⟩
 add_zero:=Qi.add_zero'
 add_comm:=Qi.add_comm'
 add_assoc:=Qi.add_assoc'
 mul_assoc:=Qi.mul_assoc'
 mul_comm:=Qi.mul_comm'
 mul_one:=Qi.mul_one2
 one_mul:=Qi.one_mul2
 left_distrib:=Qi.mul_add'
 right_distrib:=Qi.add_mul'
 zero_mul:=Qi.zero_mul'
 mul_zero:=Qi.mul_zero'
 pow_zero _:=rfl
 pow_succ _ _:=rfl
 ofNat_succ n:=Qi.ext' (by show (((n + 1:Nat):Int):Rat) = ((n:Int):Rat) + ((1:Int):Rat); rw [Int.natCast_add,Rat.intCast_add]; rfl) (by show (0:Rat) = 0 + 0; grind)
 intCast:=⟨Qi.ofInt⟩
 zsmul:=⟨fun n x=>Qi.ofInt n * x⟩
 neg_add_cancel x:=Qi.ext' (by show -x.re + x.re = ((0:Int):Rat); grind) (by show -x.im + x.im = 0; grind)
 sub_eq_add_neg:=Qi.sub_def
 neg_zsmul i x:=Qi.ext' (by show ((-i:Int):Rat) * x.re - 0 * x.im = -((i:Rat) * x.re - 0 * x.im); rw [Rat.intCast_neg]; grind) (by show ((-i:Int):Rat) * x.im + 0 * x.re = -((i:Rat) * x.im + 0 * x.re); rw [Rat.intCast_neg]; grind)
 intCast_neg i:=Qi.ext' (Rat.intCast_neg i) (by show (0:Rat) = -0; grind)
theorem q0:Qi.zero = 0:=rfl
theorem q1:Qi.ofInt 1 = 1:=rfl
theorem wK {x:Qi} (h:x ≠ 0):x * Qi.inv x = 1:=by
 have hn:x.nrm ≠ 0:=fun e=>h (Qi.nrm_zero.1 e)
 have e:x.re * x.re + x.im * x.im = x.nrm:=rfl
 refine Qi.ext' ?_ ?_
 ·show x.re * (x.re / x.nrm) - x.im * (-x.im / x.nrm) = ((1 : Int) : Rat)
  grind
 ·show x.re * (-x.im / x.nrm) + x.im * (x.re / x.nrm) = 0
  grind
theorem Ab {x y:Qi} (h:y ≠ 0):x / y * y = x:=by
 rw [Qi.div_def]
 have:=wK h
 grind
theorem a0f {x y z:Qi} (h:y ≠ 0) (e:x = z * y):x / y = z:=by
 have h1:=Ab (x:=x) h
 have h2:=wK h
 grind
theorem uA {x y:Qi} (h:x * y = 0):x = 0 ∨ y = 0:=by
 by_cases e:x = 0
 ·exact .inl e
 ·right; have:=wK e; grind
end
section
open Go Go.RowKit
theorem Dy (m:Nat) (f:Qi) (a b:Nat → Qi):eH m (fun k=>a k - f * b k) = eH m a - f * eH m b:=by
 induction m with
 | zero=>simp only [eH,q0]; grind
 | succ m ih=>simp only [eH,ih]; grind
def Ker (M:List (List Qi)) (n m:Nat) (x:Nat → Qi):Prop:=∀ i,i < n → eH m (fun k=>gm M i k * x k) = 0
def uD (rr rc:List Qi) (c k:Nat):List Qi:=tab rr.length fun j=>if c ≤ j ∧ j < k then gv rr j - gv rr c / gv rc c * gv rc j else gv rr j
def redJ (M:List (List Qi)) (c r:Nat):List (List Qi):=tab M.length fun i=>if i ≠ c ∧ i < r then uD (iU M i) (iU M c) c (iU M i).length else iU M i
def Kr (M : List (List Qi)) : Nat → Option (List (List Qi))
 | 0=>some M
 | c + 1=>(Kr M c).bind fun A=>if pv A c M.length = M.length then none else some (redJ (swp [] A (pv A c M.length) c) c M.length)
theorem Ra (M:List (List Qi)) (c r:Nat):(redJ M c r).length = M.length:=aR _ _
theorem Lo (rr rc:List Qi) (c k:Nat):(uD rr rc c k).length = rr.length:=aR _ _
theorem Rb {M:List (List Qi)} {c r i:Nat} (hi:i < M.length):iU (redJ M c r) i = if i ≠ c ∧ i < r then uD (iU M i) (iU M c) c (iU M i).length else iU M i:=by
 simp only [iU,redJ,List.getD]; rw [eE hi]; rfl
theorem Rc {M:List (List Qi)} {n m c r:Nat} (h:fO M n m):fO (redJ M c r) n m:=by
 refine ⟨(Ra _ _ _).trans h.1,fun x hx=>?_⟩
 obtain ⟨i,hi,rfl⟩:=gL.1 hx
 have hr:=h.row (i:=i) (by rw [← h.1]; exact hi)
 show (if i ≠ c ∧ i < r then uD (iU M i) (iU M c) c (iU M i).length else iU M i).length = m
 split
 ·rw [Lo]; exact hr
 ·exact hr
theorem uX {M:List (List Qi)} {n m c i j:Nat} (h:fO M n m) (hi:i < n) (hj:j < m):gm (redJ M c n) i j = if i ≠ c ∧ c ≤ j then gm M i j - gm M i c / gm M c c * gm M c j else gm M i j:=by
 have hr:(iU M i).length = m:=h.row hi
 show gv (iU (redJ M c n) i) j = _
 rw [Rb (by rw [h.1]; exact hi)]
 by_cases e:i = c
 ·rw [if_neg (fun k=>k.1 e),if_neg (fun k=>k.1 e)]
 ·rw [if_pos ⟨e, hi⟩, uD, wB zo]
  by_cases e2:c ≤ j
  ·rw [if_pos ⟨e2,by omega⟩,if_pos ⟨e,e2⟩]
  ·rw [if_neg (fun k=>e2 k.1),if_neg (fun k=>e2 k.2)]
theorem Gh {M:List (List Qi)} {p c i:Nat} (hp:p < M.length) (hc:c < M.length):iU (swp [] M p c) i = iU M (if i = c then p else if i = p then c else i):=by
 simp only [iU,swp,List.getD]
 by_cases e:i = c
 ·subst e; rw [List.getElem?_set_self (by simpa using hc),if_pos rfl]; rfl
 ·rw [List.getElem?_set_ne (Ne.symm e), if_neg e]
  by_cases e2:i = p
  ·subst e2; rw [List.getElem?_set_self hp,if_pos rfl]; rfl
  ·rw [List.getElem?_set_ne (Ne.symm e2),if_neg e2]
theorem Vf {M:List (List Qi)} {n m p c:Nat} {x:Nat → Qi} (hl:M.length = n) (hp:p < n) (hc:c < n):Ker (swp [] M p c) n m x ↔ Ker M n m x:=by
 have key : ∀ i, gm (swp [] M p c) i = gm M (if i = c then p else if i = p then c else i) := fun i => by
  funext j; exact congrArg (fun r=>gv r j) (Gh zo zo)
 constructor
 ·intro h i hi
  have h1:=h (if i = c then p else if i = p then c else i) (by split <;> (try split) <;> omega)
  rw [key] at h1
  have e : (if (if i = c then p else if i = p then c else i) = c then p else if (if i = c then p else if i = p then c else i) = p then c else (if i = c then p else if i = p then c else i)) = i := by
   by_cases e1:i = c
   ·subst e1; rw [if_pos rfl]
    by_cases e2:p = i
    ·rw [if_pos e2]; exact e2
    ·rw [if_neg e2,if_pos rfl]
   ·rw [if_neg e1]
    by_cases e2:i = p
    ·subst e2; rw [if_pos rfl,if_pos rfl]
    ·rw [if_neg e2,if_neg e1,if_neg e2]
  rw [e] at h1; exact h1
 ·intro h i hi
  rw [key]; exact h _ (by split <;> (try split) <;> omega)
theorem Ve {M:List (List Qi)} {n m c:Nat} {x:Nat → Qi} (hs:fO M n m) (hc:c < n) (hz:∀ j,j < c → gm M c j = 0):Ker (redJ M c n) n m x ↔ Ker M n m x:=by
 have key : ∀ i, i < n → i ≠ c → eH m (fun k => gm (redJ M c n) i k * x k) = eH m (fun k => gm M i k * x k) - gm M i c / gm M c c * eH m (fun k => gm M c k * x k) := fun i hi e => by
  rw [← Dy]
  refine kK fun k hk=>?_
  rw [uX hs hi hk]
  by_cases e2:c ≤ k
  ·rw [if_pos ⟨e,e2⟩]; grind
  ·rw [if_neg (fun h=>e2 h.2),hz k zo]; grind
 have keyc:eH m (fun k=>gm (redJ M c n) c k * x k) = eH m (fun k=>gm M c k * x k):=kK fun k hk=>by rw [uX hs hc hk,if_neg (fun h=>h.1 rfl)]
 constructor
 ·intro h i hi
  have h0:=h c hc
  rw [keyc] at h0
  by_cases e:i = c
  ·rw [e]; exact h0
  ·have h1 := h i hi
   rw [key i hi e,h0] at h1
   grind
 ·intro h i hi
  have h0:=h c hc
  by_cases e:i = c
  ·rw [e,keyc]; exact h0
  ·rw [key i hi e,h0,h i hi]; grind
structure GJ (M A:List (List Qi)) (n m c:Nat):Prop where
 sh:fO A n m
 ker:∀ x,Ker A n m x ↔ Ker M n m x
 off:∀ j,j < c → ∀ i,i < n → i ≠ j → gm A i j = 0
 dg:∀ j,j < c → gm A j j ≠ 0
theorem GJ.next {M A:List (List Qi)} {n m c p:Nat} (h:GJ M A n m c) (hc:c < n) (hnm:n ≤ m) (hcp:c ≤ p) (hp:p < n) (hz:gm A p c ≠ 0):GJ M (redJ (swp [] A p c) c n) n m (c + 1):=by
 have hs:fO (swp [] A p c) n m:=Bf h.sh hp hc
 have hl:=h.sh.1
 have key : ∀ i, gm (swp [] A p c) i = gm A (if i = c then p else if i = p then c else i) := fun i => by
  funext j; exact congrArg (fun r=>gv r j) (Gh zo zo)
 have hcc:gm (swp [] A p c) c c ≠ 0:=by rw [key,if_pos rfl]; exact hz
 have hoff : ∀ j, j < c → ∀ i, i < n → i ≠ j → gm (swp [] A p c) i j = 0 := fun j hj i hi hij => by
  rw [key]
  by_cases e1:i = c
  ·rw [if_pos e1]; exact h.off j hj p hp zo
  ·rw [if_neg e1]
   by_cases e2:i = p
   ·rw [if_pos e2]; exact h.off j hj c hc zo
   ·rw [if_neg e2]; exact h.off j hj i hi hij
 refine ⟨Rc hs,fun x=>(Ve hs hc (fun j hj=>hoff j hj c hc zo)).trans ((Vf hl hp hc).trans (h.ker x)),fun j hj i hi hij=>?_,fun j hj=>?_⟩
 ·rw [uX hs hi zo]
  by_cases e:j = c
  ·subst e
   rw [if_pos ⟨hij,Nat.le_refl _⟩]
   have:=Ab (x:=gm (swp [] A p j) i j) hcc
   grind
  ·rw [if_neg (fun k=>by omega)]; exact hoff j zo i hi hij
 ·rw [uX hs zo zo]
  by_cases e:j = c
  ·subst e; rw [if_neg (fun k=>k.1 rfl)]; exact hcc
  ·rw [if_neg (fun k=>by omega),key,if_neg zo,if_neg zo]; exact h.dg j zo
theorem Pf {M : List (List Qi)} {n m : Nat} (hs : fO M n m) (hnm : n ≤ m) : ∀ {c : Nat} {A : List (List Qi)}, c ≤ n → Kr M c = some A → GJ M A n m c
 | 0, A, _, h => by
  obtain rfl:=Option.some.inj h
  exact ⟨hs,fun _=>Iff.rfl,fun j hj=>by omega,fun j hj=>by omega⟩
 | c + 1, A, hc, h => by
  simp only [Kr] at h
  obtain ⟨B,h1,h2⟩:=Option.bind_eq_some_iff.1 h
  split at h2
  ·cases h2
  ·rename_i e
   obtain rfl:=Option.some.inj h2
   have ih:=Pf hs hnm (c:=c) zo h1
   rw [hs.1] at e ⊢
   obtain ⟨_,i2,i3,i4⟩:=sO (M:=B) (c:=c) (n:=n) zo
   exact ih.next zo hnm i2 zo (i4 zo)
theorem Ln {rr rc : List Qi} {L c k : Nat} (h1 : fH rr L) (h2 : fH rc L) (hL : 1 ≤ L) (hp : gv rc c ≠ Qi.zero) : fH (uD rr rc c k) (6 * L + 4) := fH.tab fun j _ => by
 split
 ·exact Ie h1 h2 hL hp
 ·exact (h1.get hL j).le zo
theorem Qz {M : List (List Qi)} {L c r : Nat} (h : bS M L) (hL : 1 ≤ L) (hp : gm M c c ≠ Qi.zero) : bS (redJ M c r) (6 * L + 4) := fun x hx => by
 obtain ⟨i,hi,rfl⟩:=gL.1 hx
 show fH (if i ≠ c ∧ i < r then uD (iU M i) (iU M c) c (iU M i).length else iU M i) _
 split
 ·exact Ln (h.row i) (h.row c) hL hp
 ·exact (h.row i).le zo
theorem Pe {M : List (List Qi)} {n m L : Nat} (hs : fO M n m) (hnm : n ≤ m) (h : bS M L) (hL : 1 ≤ L) : ∀ {c : Nat} {A : List (List Qi)}, c ≤ n → Kr M c = some A → bS A (oZ L c)
 | 0,A,_,e=>by obtain rfl:=Option.some.inj e; exact h
 | c + 1, A, hc, e => by
  simp only [Kr] at e
  obtain ⟨B,h1,h2⟩:=Option.bind_eq_some_iff.1 e
  split at h2
  ·cases h2
  ·rename_i e3
   obtain rfl:=Option.some.inj h2
   have ih:=Pe hs hnm h hL (c:=c) zo h1
   have hsB:=(Pf hs hnm (c:=c) zo h1).sh
   rw [hs.1] at e3 ⊢
   obtain ⟨_,i2,i3,i4⟩:=sO (M:=B) (c:=c) (n:=n) zo
   refine Qz (Js ih) (Nat.le_trans hL (uS L c)) ?_
   show gv (iU (swp [] _ _ c) c) c ≠ _
   rw [Bd (by rw [hsB.1]; omega)]
   exact i4 zo
end
section
open Go Go.RowKit
abbrev pA (ps:List (Nat × Nat)) (k:Nat):Nat:=(ps.getD k (0,0)).1
abbrev pB (ps:List (Nat × Nat)) (k:Nat):Nat:=(ps.getD k (0,0)).2
end
section
open Go Go.RowKit
theorem Ph {l:List Qi} {t k:Nat} {v:Qi} (ht:t < l.length):gv (l.set t v) k = if k = t then v else gv l k:=by
 simp only [gv,List.getD]
 by_cases e:k = t
 ·subst e; rw [if_pos rfl,List.getElem?_set_self ht]; rfl
 ·rw [if_neg e,List.getElem?_set_ne (Ne.symm e)]
end
section
open Go Go.RowKit
def clr (A:List (List Qi)) (c i j:Nat):Qi:=if j < c ∧ j < i then 0 else gm A i j
def xK (F:Nat → Nat → Qi) (n m:Nat) (x:Nat → Qi):Prop:=∀ i,i < n → eH m (fun k=>F i k * x k) = 0
theorem Fg {F G:Nat → Nat → Qi} {n m:Nat} {x:Nat → Qi} (h:∀ i,i < n → ∀ j,j < m → F i j = G i j):xK F n m x ↔ xK G n m x:=by
 have e:∀ i,i < n → eH m (fun k=>F i k * x k) = eH m (fun k=>G i k * x k):=fun i hi=>kK fun k hk=>by rw [h i hi k hk]
 exact ⟨fun k i hi=>by rw [← e i hi]; exact k i hi,fun k i hi=>by rw [e i hi]; exact k i hi⟩
def Sc (p c i:Nat):Nat:=if i = c then p else if i = p then c else i
theorem Sd {p c i n:Nat} (hp:p < n) (hc:c < n) (hi:i < n):Sc p c i < n:=by unfold Sc; split <;> (try split) <;> omega
theorem Xo (p c i:Nat):Sc p c (Sc p c i) = i:=by
 unfold Sc
 by_cases e1:i = c
 ·subst e1
  rw [if_pos rfl]
  by_cases e2:p = i
  ·rw [if_pos e2]; exact e2
  ·rw [if_neg e2,if_pos rfl]
 ·rw [if_neg e1]
  by_cases e2:i = p
  ·subst e2; rw [if_pos rfl,if_pos rfl]
  ·rw [if_neg e2,if_neg e1,if_neg e2]
theorem Pm {F : Nat → Nat → Qi} {n m p c : Nat} {x : Nat → Qi} (hp : p < n) (hc : c < n) : xK (fun i => F (Sc p c i)) n m x ↔ xK F n m x :=
 ⟨fun h i hi=>by have:=h _ (Sd hp hc hi); simp only [Xo] at this; exact this,fun h i hi=>h _ (Sd hp hc hi)⟩
theorem Pl {F G:Nat → Nat → Qi} {n m c:Nat} {x f:Nat → Qi} (hc:c < n) (hG:∀ i,i < n → ∀ j,j < m → G i j = if c < i then F i j - f i * F c j else F i j):xK G n m x ↔ xK F n m x:=by
 have key : ∀ i, i < n → eH m (fun k => G i k * x k) = if c < i then eH m (fun k => F i k * x k) - f i * eH m (fun k => F c k * x k) else eH m (fun k => F i k * x k) := fun i hi => by
  by_cases e:c < i
  ·rw [if_pos e, ← Dy]
   exact kK fun k hk=>by rw [hG i hi k hk,if_pos e]; grind
  ·rw [if_neg e]
   exact kK fun k hk=>by rw [hG i hi k hk,if_neg e]
 have kc:=key c hc
 rw [if_neg zo] at kc
 constructor
 ·intro h i hi
  have h0:=h c hc
  rw [kc] at h0
  have h1:=h i hi
  rw [key i hi] at h1
  by_cases e:c < i
  ·rw [if_pos e,h0] at h1; grind
  ·rw [if_neg e] at h1; exact h1
 ·intro h i hi
  rw [key i hi]
  by_cases e:c < i
  ·rw [if_pos e,h i hi,h c hc]; grind
  ·rw [if_neg e]; exact h i hi
theorem Wy {M:List (List Qi)} {n m c i j:Nat} (h:fO M n m) (hi:i < n) (hj:j < m):gm (redM M c n) i j = if c < i ∧ c < j then gm M i j - gm M i c / gm M c c * gm M c j else gm M i j:=by
 have hr:(iU M i).length = m:=h.row hi
 have e0 : iU (redM M c n) i = if c < i ∧ i < n then Ds (iU M i) (iU M c) c (iU M i).length else iU M i := by
  simp only [iU,redM,List.getD]; rw [eE (by rw [h.1]; exact hi)]; rfl
 show gv (iU (redM M c n) i) j = _
 rw [e0]
 by_cases e:c < i
 ·rw [if_pos ⟨e, hi⟩, Ds, wB zo]
  by_cases e2:c < j
  ·rw [if_pos ⟨e2,by omega⟩,if_pos ⟨e,e2⟩]
  ·rw [if_neg (fun k=>e2 k.1),if_neg (fun k=>e2 k.2)]
 ·rw [if_neg (fun k=>e k.1),if_neg (fun k=>e k.1)]
theorem Ub {A:List (List Qi)} {p c i j:Nat} (hc:c < A.length) (hp:p < A.length) (hcp:c ≤ p):clr (swp [] A p c) c i j = clr A c (Sc p c i) j:=by
 have key:gm (swp [] A p c) i j = gm A (Sc p c i) j:=congrArg (fun r=>gv r j) (Gh zo zo)
 unfold clr
 rw [key]
 have e:(j < c ∧ j < i) ↔ (j < c ∧ j < Sc p c i):=by unfold Sc; split <;> (try split) <;> omega
 by_cases h:j < c ∧ j < i
 ·rw [if_pos h,if_pos (e.1 h)]
 ·rw [if_neg h,if_neg (fun k=>h (e.2 k))]
structure EL (M A:List (List Qi)) (n m c:Nat):Prop where
 sh:fO A n m
 ker:∀ x,xK (clr A c) n m x ↔ xK (gm M) n m x
theorem EL.next {M A:List (List Qi)} {n m c p:Nat} (h:EL M A n m c) (hc:c < n) (hcm:c < m) (hcp:c ≤ p) (hp:p < n) (hz:gm A p c ≠ 0):EL M (redM (if p = c then A else swp [] A p c) c n) n m (c + 1):=by
 have hl:=h.sh.1
 obtain ⟨B,hB⟩:∃ B,B = if p = c then A else swp [] A p c:=⟨_,rfl⟩
 have hs : fO B n m := by
  rw [hB]; split
  ·exact h.sh
  ·exact Bf h.sh hp hc
 have hBk : ∀ x, xK (clr B c) n m x ↔ xK (gm M) n m x := fun x => by
  rw [hB]; split
  ·exact h.ker x
  ·exact (Fg (G:=fun i=>clr A c (Sc p c i)) fun i hi j hj=>Ub zo zo hcp).trans ((Pm hp hc).trans (h.ker x))
 have hBz : gm B c c ≠ 0 := by
  rw [hB]; split
  ·rename_i e; rw [← e] at hz ⊢; exact hz
  ·show gv (iU (swp [] A p c) c) c ≠ 0
   rw [Bd zo]; exact hz
 rw [← hB]
 refine ⟨Dq hs,fun x=>(Pl (f:=fun i=>gm B i c / gm B c c) hc fun i hi j hj=>?_).trans (hBk x)⟩
 have hd:=Ab (x:=gm B i c) hBz
 unfold clr
 rw [Wy hs hi hj]
 by_cases e:c < i
 ·rw [if_pos e]
  by_cases e1:j < c
  ·rw [if_pos zo,if_pos zo,if_pos zo]; grind
  ·by_cases e2 : j = c
   ·subst e2
    rw [if_pos zo,if_neg zo,if_neg zo]; grind
   ·rw [if_neg zo,if_pos zo,if_neg zo,if_neg zo]
 ·rw [if_neg e, if_neg (show ¬ (c < i ∧ c < j) from fun k => e k.1)]
  by_cases e1:j < i
  ·rw [if_pos (show j < c + 1 ∧ j < i by omega),if_pos (show j < c ∧ j < i by omega)]
  ·rw [if_neg (show ¬ (j < c + 1 ∧ j < i) by omega),if_neg (show ¬ (j < c ∧ j < i) by omega)]
end
section
open Go Go.RowKit
abbrev gnI (G:List Nat):List Int:=G.map fun (q:Nat)=>(q:Int) + 1
def oK (G : List Nat) : Nat → List Nat
 | 0=>[]
 | k + 1=>oK G k ++ (if k ∈ G then [] else [k])
theorem An (G : List Nat) : ∀ k, (oK G k).length ≤ k
 | 0=>Nat.le_refl _
 | k + 1 => by
  have:=An G k
  simp only [oK,List.length_append]
  split
  ·simp; omega
  ·simp; omega
theorem Ao {p : Nat} : ∀ {k : Nat}, oK [p] k = tab (Kl p k) (mA p)
 | 0=>by rw [oK,show Kl p 0 = 0 by unfold Kl; split <;> omega]; rfl
 | k + 1 => by
  rw [oK,Ao]
  by_cases c:k = p
  ·subst c
   rw [if_pos (by simp),List.append_nil,show Kl k (k + 1) = Kl k k by unfold Kl; split <;> split <;> omega]
  ·rw [if_neg (by simpa using c)]
   have e1:mA p (Kl p k) = k:=by unfold mA Kl; split <;> split <;> omega
   have e2:Kl p (k + 1) = Kl p k + 1:=by unfold Kl; split <;> split <;> omega
   rw [e2,sR,e1]
theorem Vh {p n:Nat} (h:p < n):(oK [p] n).map Nat.succ = wE p (n - 1):=by rw [Ao,Ia h,Bg]; rfl
theorem Pg {G:List Nat} {i:Nat}:((gnI G).any fun x=>decide (((i + 1:Nat):Int) = x)) = decide (i ∈ G):=by
 rw [Bool.eq_iff_iff]
 simp only [gnI,List.any_map,List.any_eq_true,Function.comp,decide_eq_true_eq]
 constructor
 ·rintro ⟨q, h1, h2⟩
  obtain rfl:i = q:=by omega
  exact h1
 ·intro h; exact ⟨i,h,by omega⟩
abbrev qL (Q:List Nat) (i:Nat):Nat:=Q.getD i 0
def Rr (z:List Qi) (Q:List Nat):List Qi:=tab Q.length fun i=>gv z (qL Q i)
def Rp (s:List (List Qi)) (Q:List Nat):List (List Qi):=tab Q.length fun i=>tab Q.length fun j=>gm s (qL Q i) (qL Q j)
theorem Ga {Q:List Nat} {n i:Nat} (h:∀ x,x ∈ Q → x < n) (hi:i < Q.length):qL Q i < n:=h _ (by rw [show qL Q i = Q[i] by simp [qL,List.getD,hi]]; exact List.getElem_mem hi)
theorem Bc {Q:List Nat} {i:Nat} (h:i < Q.length):(Q.map Nat.succ)[i]? = some (qL Q i + 1):=by simp [qL,List.getD,h]
theorem xC {m i:Nat} {p:Nat} (h:i < m):qL (tab m (mA p)) i = mA p i:=Ry h
theorem Ru (z:List Qi) (p m:Nat):Rr z (tab m (mA p)) = uM z p m:=by
 rw [Rr,aR]; exact iI fun i hi=>by rw [xC hi]
theorem Rq (s:List (List Qi)) (p m:Nat):Rp s (tab m (mA p)) = a1V s p m:=by
 rw [Rp,aR]; exact iI fun i hi=>iI fun j hj=>by rw [xC hi,xC hj]
theorem Xi {p m n : Nat} (hp : p < n) (hm : m = n - 1) : ∀ x, x ∈ tab m (mA p) → x < n := fun x hx => by
 obtain ⟨i,hi,rfl⟩:=gL.1 hx; exact Gf zo hp
theorem Vi (p m:Nat):(tab m (mA p)).map Nat.succ = wE p m:=by rw [Bg]; rfl
end
section
open Go Go.RowKit
def gq (ps:List (Nat × Nat)) (x:Nat):Nat:=if x % 2 = 0 then pA ps (x / 2) else pB ps (x / 2)
structure Jn (ps:List (Nat × Nat)) (n K:Nat):Prop where
 lt:∀ x,x < 2 * K → gq ps x < n
 inj:∀ x y,x < 2 * K → y < 2 * K → gq ps x = gq ps y → x = y
theorem Jn.le {ps:List (Nat × Nat)} {n K k:Nat} (h:Jn ps n K) (hk:k ≤ K):Jn ps n k:=⟨fun x hx=>h.lt x zo,fun x y hx hy=>h.inj x y zo zo⟩
end
section
open Go Go.RowKit
theorem pig : ∀ {n m : Nat} {f : Nat → Nat}, (∀ x, x < m → f x < n) → (∀ x y, x < m → y < m → f x = f y → x = y) → m ≤ n
 | 0, m, f, h, _ => by
  cases m with
  | zero=>exact Nat.le_refl 0
  | succ m=>exact absurd (h 0 zo) zo
 | n + 1,0,_,_,_=>by omega
 | n + 1, k + 1, f, h, i => by
  have := pig (n := n) (m := k) (f := fun x => if f x = n then f k else f x) (fun x hx => by
   have h1:=h x zo
   have h2:=h k zo
   by_cases c:f x = n
   ·simp only [if_pos c]
    have:f k ≠ n:=fun e=>by have:=i x k zo zo (by rw [c,e]); omega
    omega
   ·simp only [if_neg c]; omega) (fun x y hx hy e=>by
   by_cases c:f x = n <;> by_cases d:f y = n
   ·exact i x y zo zo (by rw [c,d])
   ·simp only [if_pos c, if_neg d] at e
    have:=i k y zo zo e; omega
   ·simp only [if_neg c, if_pos d] at e
    have:=i x k zo zo e; omega
   ·simp only [if_neg c, if_neg d] at e
    exact i x y zo zo e)
  omega
end
section
open Go Go.RowKit
theorem Uq {x y:Qi} {L M:Nat} (hx:aE x L) (hy:aE y M) (h:y ≠ 0):aE (x / y) (L + 3 * M + 2):=⟨hx.fit.div hy.fit h⟩
end
section
open Go Go.RowKit
structure tT (O:List Nat) (n:Nat):Prop where
 nd:O.Nodup
 all:∀ x,x ∈ O ↔ 1 ≤ x ∧ x ≤ n
theorem tT.len {O:List Nat} {n:Nat} (h:tT O n):O.length = n:=by
 refine Nat.le_antisymm ?_ ?_
 ·refine pig (n := n) (f := fun i => O.getD i 0 - 1) (fun x hx => ?_) (fun x y hx hy e => ?_)
  ·have := (h.all (O.getD x 0)).1 (by rw [show O.getD x 0 = O[x] by simp [List.getD, hx]]; exact List.getElem_mem hx)
   show O.getD x 0 - 1 < n; omega
  ·have a := (h.all (O.getD x 0)).1 (by rw [show O.getD x 0 = O[x] by simp [List.getD, hx]]; exact List.getElem_mem hx)
   have b:=(h.all (O.getD y 0)).1 (by rw [show O.getD y 0 = O[y] by simp [List.getD,hy]]; exact List.getElem_mem hy)
   have e2:O.getD x 0 = O.getD y 0:=by have:O.getD x 0 - 1 = O.getD y 0 - 1:=e; omega
   rw [show O.getD x 0 = O[x] by simp [List.getD,hx],show O.getD y 0 = O[y] by simp [List.getD,hy]] at e2
   exact (List.getElem_inj h.nd).1 e2
 ·have key : ∀ j, j < n → ∃ i, i < O.length ∧ O.getD i 0 = j + 1 := fun j hj => by
   obtain ⟨i,hi,e⟩:=List.getElem_of_mem ((h.all (j + 1)).2 ⟨by omega,by omega⟩)
   exact ⟨i,hi,by simp [List.getD,hi,e]⟩
  refine pig (n:=O.length) (f:=fun j=>if hj:j < n then Classical.choose (key j hj) else 0) (fun x hx=>by simp only [dif_pos hx]; exact (Classical.choose_spec (key x hx)).1) (fun x y hx hy e=>?_)
  simp only [dif_pos hx,dif_pos hy] at e
  have a:=(Classical.choose_spec (key x hx)).2
  have b:=(Classical.choose_spec (key y hy)).2
  rw [e] at a; omega
section
variable {O:List Nat} {n:Nat}
theorem tT.at (h:tT O n) {i:Nat} (hi:i < n):1 ≤ O.getD i 0 ∧ O.getD i 0 ≤ n:=by
 have hl:=h.len
 exact (h.all _).1 (by rw [show O.getD i 0 = O[i] by simp [List.getD,show i < O.length by omega]]; exact List.getElem_mem _)
theorem tT.inj (h:tT O n) {i j:Nat} (hi:i < n) (hj:j < n) (e:O.getD i 0 = O.getD j 0):i = j:=by
 have hl:=h.len
 rw [show O.getD i 0 = O[i] by simp [List.getD,show i < O.length by omega],show O.getD j 0 = O[j] by simp [List.getD,show j < O.length by omega]] at e
 exact (List.getElem_inj h.nd).1 e
theorem tT.find (h:tT O n) {j:Nat} (hj:j < n):∃ i,i < n ∧ O.getD i 0 = j + 1:=by
 have hl:=h.len
 obtain ⟨i,hi,e⟩:=List.getElem_of_mem ((h.all (j + 1)).2 ⟨by omega,by omega⟩)
 exact ⟨i,by omega,by simp [List.getD,hi,e]⟩
end
end
section
open Go Go.RowKit
section
variable {S:List (List Qi)} {p q r t a b:Nat}
theorem Xn {x y:Qi} (h:x - y = 0):x = y:=by grind
end
section
variable {S:Nat → Nat → Qi} {p q r t a b:Nat}
def S1 (S:Nat → Nat → Qi) (p q:Nat) (V:Nat → Qi × Qi) (a b:Nat):Qi:=S a b + (S a p * (V b).1 + S a q * (V b).2)
variable {V:Nat → Qi × Qi}
end
end
section
open Go Go.RowKit
def low (c a b:Nat):Nat:=c - (if a < c then 1 else 0) - (if b < c then 1 else 0)
def okP (N p q r t : Nat) : Bool :=
 decide ((oK [p,q] N).length = N - 2) && decide (low r p q < N - 2) && decide (low t p q < N - 2) && decide (low r p q ≠ low t p q) && decide (qL (oK [p,q] N) (low r p q) = r) && decide (qL (oK [p,q] N) (low t p q) = t)
 && decide ((oK [low r p q,low t p q] (N - 2)).map (qL (oK [p,q] N)) = oK [p,q,r,t] N) && decide ((oK [p,q,r,t] N).length = N - 4) && decide (oK [t,r,p,q] N = oK [p,q,r,t] N) && decide (oK [r,t,p,q] N = oK [p,q,r,t] N)
section
variable {z:List Qi} {S:List (List Qi)} {N p q r t:Nat} {ζ:Qi}
end
end
section
open Go Go.RowKit
def Gb (x:Qi) (N:Nat):Prop:=∃ p q:Int,x = Qi.mk (p:Rat) (q:Rat) ∧ p.natAbs ≤ N ∧ q.natAbs ≤ N
theorem Gb.le {x:Qi} {N M:Nat} (h:Gb x N) (k:N ≤ M):Gb x M:=by
 obtain ⟨p,q,e,h1,h2⟩:=h; exact ⟨p,q,e,by omega,by omega⟩
theorem Gb.add {x y:Qi} {N M:Nat} (h:Gb x N) (k:Gb y M):Gb (x + y) (N + M):=by
 obtain ⟨p,q,rfl,h1,h2⟩:=h; obtain ⟨r,s,rfl,k1,k2⟩:=k
 refine ⟨p + r,q + s,Qi.ext' ?_ ?_,by omega,by omega⟩
 ·show (p:Rat) + (r:Rat) = ((p + r:Int):Rat); push_cast; rfl
 ·show (q:Rat) + (s:Rat) = ((q + s:Int):Rat); push_cast; rfl
theorem Gb.neg {x:Qi} {N:Nat} (h:Gb x N):Gb (-x) N:=by
 obtain ⟨p,q,rfl,h1,h2⟩:=h
 refine ⟨-p,-q,Qi.ext' ?_ ?_,by omega,by omega⟩
 ·show -(p:Rat) = ((-p:Int):Rat); push_cast; rfl
 ·show -(q:Rat) = ((-q:Int):Rat); push_cast; rfl
theorem Gb.sub {x y:Qi} {N M:Nat} (h:Gb x N) (k:Gb y M):Gb (x - y) (N + M):=by rw [Qi.sub_def]; exact h.add k.neg
theorem uU {p q:Int} {N M:Nat} (h:p.natAbs ≤ N) (k:q.natAbs ≤ M):(p * q).natAbs ≤ N * M:=by rw [Int.natAbs_mul]; exact Nat.mul_le_mul h k
theorem Gb.mul {x y:Qi} {N M:Nat} (h:Gb x N) (k:Gb y M):Gb (x * y) (2 * N * M):=by
 obtain ⟨p,q,rfl,h1,h2⟩:=h; obtain ⟨r,s,rfl,k1,k2⟩:=k
 have a1:=uU h1 k1; have a2:=uU h2 k2; have a3:=uU h1 k2; have a4:=uU h2 k1
 have e:2 * N * M = N * M + N * M:=by rw [Nat.mul_assoc,Nat.two_mul]
 refine ⟨p * r - q * s,p * s + q * r,Qi.ext' ?_ ?_,by omega,by omega⟩
 ·rw [Qi.mul_re]; show (p:Rat) * (r:Rat) - (q:Rat) * (s:Rat) = ((p * r - q * s:Int):Rat); push_cast; rfl
 ·rw [Qi.mul_im]; show (p:Rat) * (s:Rat) + (q:Rat) * (r:Rat) = ((p * s + q * r:Int):Rat); push_cast; rfl
theorem Gb.sum {f : Nat → Qi} {N : Nat} : ∀ {n : Nat}, (∀ k, k < n → Gb (f k) N) → Gb (eH n f) (n * N)
 | 0,_=>⟨0,0,Qi.ext' rfl rfl,by simp,by simp⟩
 | n + 1, h => by
  rw [eH,Nat.succ_mul]
  exact (Gb.sum fun k hk=>h k zo).add (h n zo)
theorem Gb.fit {x:Qi} {N L:Nat} (h:Gb x N) (hN:N < BB ^ L) (hL:1 ≤ L):aE x L:=by
 obtain ⟨p,q,rfl,h1,h2⟩:=h
 have e:Qi.mk (p:Rat) (q:Rat) = Qi.mk' p q 1:=Qi.ext' (by rw [Qi.mk_re]; show (p:Rat) = p / ((1:Nat):Rat); grind) (by rw [Qi.mk_im]; show (q:Rat) = q / ((1:Nat):Rat); grind)
 rw [e]
 exact ⟨Qi.Fit.mk (by decide) zo zo (Qi.one_lt hL)⟩
end
section
open Go Go.RowKit
def ntD (s:List (List Qi)) (g:Qi) (p:Nat):Qi:=Qi.ofInt 1 - gm s p p * g
def ntH (s:List (List Qi)) (g:Qi) (p:Nat):Qi:=Qi.ofInt 1 / ntD s g p
def sJ (s:List (List Qi)) (g:Qi) (p n i:Nat):List Qi:=((tab n fun _=>Qi.zero).set i (Qi.ofInt 1)).set p (gm s i p * iC s p g)
def wR (s:List (List Qi)) (g:Qi) (p n k:Nat):List (List Qi):=(oK [p] k).map (sJ s g p n)
def Bl (s:List (List Qi)) (g:Qi) (p k:Nat):List Qi:=(oK [p] k).map fun i=>gm s i p * ntH s g p
def ntR (z:List Qi) (g t:Qi) (p:Nat):Qi:=t * gv z p * (Qi.ofInt 1 - g * g.conj)
def ntX (z:List Qi) (s c:List (List Qi)) (g t:Qi) (p a b:Nat):Qi:=gm (kA (wR s g p z.length z.length) c) a b + ntR z g t p * (gv (Bl s g p z.length) a * (gv (Bl s g p z.length) b).conj)
def ntC (z:List Qi) (s c:List (List Qi)) (g t:Qi) (p:Nat):List (List Qi):=tab (z.length - 1) fun a=>tab (z.length - 1) fun b=>ntX z s c g t p a b
def Iw (z:List Qi) (s:List (List Qi)) (port:Int) (g t:Qi):Int:=if jF t = 0 then mX z s port g else jF t
def ntZ (z:List Qi) (s:List (List Qi)) (port:Int) (g t:Qi):List Qi:=jE (Iw z s port g t) (uM z (port - 1).toNat (z.length - 1))
def ntS (z:List Qi) (s:List (List Qi)) (port:Int) (g t:Qi):List (List Qi):=jE (Iw z s port g t) (Bi s (port - 1).toNat (z.length - 1) (iC s (port - 1).toNat g))
def Mf (z:List Qi) (s c:List (List Qi)) (port:Int) (g t:Qi):List (List Qi):=jE (Iw z s port g t) (ntC z s c g t (port - 1).toNat)
theorem Il {p n:Nat} (h:p < n):(oK [p] n).length = n - 1:=by rw [Ao,aR,Ia h]
theorem Sh {z:List Qi} {s:List (List Qi)} {port:Int} {g:Qi} (h:mX z s port g = 0):(1 ≤ port ∧ port ≤ z.length) ∧ z.length ≠ 1 ∧ ntD s g (port - 1).toNat ≠ 0:=by
 rw [mX] at h
 by_cases c1:1 ≤ port ∧ port ≤ z.length
 ·rw [if_neg (fun k => k c1)] at h
  by_cases c2:z.length = 1
  ·rw [if_pos c2] at h; omega
  ·rw [if_neg c2] at h
   by_cases c3:Qi.ofInt 1 - gm s (port - 1).toNat (port - 1).toNat * g = Qi.zero
   ·rw [if_pos c3] at h; omega
   ·exact ⟨c1,c2,c3⟩
 ·rw [if_pos c1] at h; omega
section
variable {z:List Qi} {s c:List (List Qi)} {g t:Qi} {p:Nat}
theorem Di {n i k:Nat} (hi:i < n) (hp:p < n) (hk:k < n):gv (sJ s g p n i) k = if k = p then gm s i p * iC s p g else if k = i then Qi.ofInt 1 else Qi.zero:=by
 rw [sJ,Ph (by rw [List.length_set,aR]; exact hp)]
 by_cases e:k = p
 ·rw [if_pos e,if_pos e]
 ·rw [if_neg e, if_neg e, Ph (by rw [aR]; exact hi)]
  by_cases e2:k = i
  ·rw [if_pos e2,if_pos e2]
  ·rw [if_neg e2,if_neg e2,wB hk]
theorem Vv (s:List (List Qi)) (g:Qi) {n:Nat} (h:p < n):fO (wR s g p n n) (n - 1) n:=by
 refine ⟨by rw [wR,List.length_map,Il h],fun r hr=>?_⟩
 obtain ⟨i,_,rfl⟩:=List.mem_map.1 hr
 rw [sJ,List.length_set,List.length_set,aR]
theorem Lc {n i : Nat} (hs : bS s 2) (hg : aE g 2) : fH (sJ s g p n i) 28 := fun x hx => by
 haveI:=hg
 haveI f0:=nX
 haveI f1:aE (gm s p p) 2:=hs.get (by decide) p p
 haveI f2:aE (gm s i p) 2:=hs.get (by decide) i p
 haveI f3:aE (Qi.ofInt 1 - gm s p p * g) 7:=(fitSub (x:=Qi.ofInt 1) (y:=gm s p p * g))
 rcases List.mem_or_eq_of_mem_set hx with h | h
 ·rcases List.mem_or_eq_of_mem_set h with k | k
  ·obtain ⟨_,_,rfl⟩:=gL.1 k; exact aE.zero (by decide)
  ·rw [k]; exact f0.le (by decide)
 ·rw [h]; exact (fitMul (x:=gm s i p) (y:=g / (Qi.ofInt 1 - gm s p p * g)):aE _ (2 + 25 + 1))
theorem Vu {n k : Nat} (hs : bS s 2) (hg : aE g 2) : bS (wR s g p n k) 28 := fun r hr => by
 obtain ⟨i,_,rfl⟩:=List.mem_map.1 hr; exact Lc hs hg
theorem Vx {k : Nat} (hs : bS s 2) (hg : aE g 2) : fH (Bl s g p k) 27 := fun x hx => by
 obtain ⟨i,_,rfl⟩:=List.mem_map.1 hx
 haveI:=hg
 haveI f0:=nX
 haveI f1:aE (gm s p p) 2:=hs.get (by decide) p p
 haveI f2:aE (gm s i p) 2:=hs.get (by decide) i p
 haveI f3:aE (Qi.ofInt 1 - gm s p p * g) 7:=(fitSub (x:=Qi.ofInt 1) (y:=gm s p p * g))
 exact (fitMul (x:=gm s i p) (y:=Qi.ofInt 1 / (Qi.ofInt 1 - gm s p p * g)):aE _ (2 + 24 + 1))
theorem Vw (hz:fH z 2) (hg:aE g 2) (ht:aE t 2):aE (ntR z g t p) 13:=by
 haveI:=hg; haveI:=ht
 haveI f0:=nX
 haveI f1:aE (gv z p) 2:=hz.get (by decide) p
 exact (fitMul (x:=t * gv z p) (y:=Qi.ofInt 1 - g * g.conj))
end
end
section
open Go Go.RowKit
section
variable {a b:Qi} {A B C:List (List Qi)} {d e:Nat → Qi} {n:Nat}
end
theorem q2:Qi.ofInt 2 = 2:=rfl
section
variable {z:List Qi} {s:List (List Qi)}
end
end
section
open Go Go.RowKit
section
variable {z w:List Qi} {s c:List (List Qi)} {n:Nat}
abbrev dl (i k:Nat):Qi:=if i = k then 1 else 0
end
section
variable {z:List Qi} {s:List (List Qi)} {n:Nat}
end
section
variable {z:List Qi} {s:List (List Qi)} {l:List Int}
end
section
variable {z:List Qi} {s:List (List Qi)} {g t:Qi} {p n:Nat}
end
end
section
open Go Go.RowKit
def sY (r:List Qi) (w:Nat):Prop:=∃ d:Qi,d ≠ 0 ∧ Gb d (BB ^ w) ∧ ∀ j,Gb (d * gv r j) (BB ^ w)
theorem sY.le {r:List Qi} {w v:Nat} (h:sY r w) (k:w ≤ v):sY r v:=by
 obtain ⟨d,d0,dg,dj⟩:=h
 have hp:BB ^ w ≤ BB ^ v:=Nat.pow_le_pow_right cP k
 exact ⟨d,d0,dg.le hp,fun j=>(dj j).le hp⟩
theorem Gn (w:Nat):2 * BB ^ w * BB ^ w + 2 * BB ^ w * BB ^ w ≤ BB ^ (2 * w + 1):=by
 have e:BB ^ (2 * w + 1) = BB ^ w * BB ^ w * BB:=by rw [Nat.pow_succ,Nat.two_mul,Nat.pow_add]
 rw [e,Nat.mul_assoc 2,← Nat.two_mul,← Nat.mul_assoc 2 2,Nat.mul_comm (2 * 2)]
 exact Nat.mul_le_mul_left _ (by decide)
theorem a0j {l:List Qi} {j:Nat} (h:l.length ≤ j):gv l j = 0:=by simp [gv,List.getD,List.getElem?_eq_none h]; rfl
theorem Uv (N:Nat):Gb 0 N:=⟨0,0,Qi.ext' rfl rfl,by simp,by simp⟩
theorem sY.red {rr rc:List Qi} {c w:Nat} {P:Nat → Prop} [DecidablePred P] (h1:sY rr w) (h2:sY rc w) (hp:gv rc c ≠ 0):sY (tab rr.length fun j=>if P j then gv rr j - gv rr c / gv rc c * gv rc j else gv rr j) (2 * w + 1):=by
 obtain ⟨d,d0,dg,dj⟩:=h1
 obtain ⟨e,e0,eg,ej⟩:=h2
 have t:=Gn w
 refine ⟨d * (e * gv rc c),fun k=>?_,(dg.mul (ej c)).le zo,fun j=>?_⟩
 ·rcases uA k with k | k
  ·exact d0 k
  ·rcases uA k with k | k
   ·exact e0 k
   ·exact hp k
 ·by_cases hj : j < rr.length
  ·rw [wB hj]
   by_cases hP:P j
   ·rw [if_pos hP]
    have hd:=Ab (x:=gv rr c) hp
    have ee : d * (e * gv rc c) * (gv rr j - gv rr c / gv rc c * gv rc j) = d * gv rr j * (e * gv rc c) - d * gv rr c * (e * gv rc j) := by
     have e2:d * (e * gv rc c) * (gv rr c / gv rc c * gv rc j) = d * (gv rr c / gv rc c * gv rc c) * (e * gv rc j):=by grind
     rw [hd] at e2
     grind
    rw [ee]
    exact (((dj j).mul (ej c)).sub ((dj c).mul (ej j))).le t
   ·rw [if_neg hP]
    have ee:d * (e * gv rc c) * gv rr j = d * gv rr j * (e * gv rc c):=by grind
    rw [ee]
    exact ((dj j).mul (ej c)).le zo
  ·rw [a0j (l := tab rr.length fun j => if P j then gv rr j - gv rr c / gv rc c * gv rc j else gv rr j) (by rw [aR]; omega)]
   have ee:d * (e * gv rc c) * 0 = 0:=by grind
   rw [ee]; exact Uv _
theorem sY.fit {r : List Qi} {w : Nat} (h : sY r w) : fH r (4 * (w + 1) + 2) := fun x hx => by
 obtain ⟨d,d0,dg,dj⟩:=h
 obtain ⟨j,hj,e⟩:=List.getElem_of_mem hx
 have e2:gv r j = x:=by simp [gv,List.getD,hj,e]
 have hlt:BB ^ w < BB ^ (w + 1):=Nat.pow_lt_pow_right (by decide) zo
 have f1:aE (d * gv r j) (w + 1):=(dj j).fit hlt zo
 have f2:aE d (w + 1):=dg.fit hlt zo
 have f3:aE (d * gv r j / d) (w + 1 + 3 * (w + 1) + 2):=Uq f1 f2 d0
 rw [a0f (z:=x) d0 (by rw [e2]; grind)] at f3
 exact f3.le zo
abbrev oL (M:List (List Qi)) (w:Nat):Prop:=∀ r,r ∈ M → sY r w
theorem oL.row {M : List (List Qi)} {w i : Nat} (h : oL M w) (hi : i < M.length) : sY (iU M i) w := h _ (by
 rw [show iU M i = M[i] by simp [iU,List.getD,hi]]; exact List.getElem_mem hi)
theorem oL.swp {M : List (List Qi)} {w p c : Nat} (h : oL M w) (hp : p < M.length) (hc : c < M.length) : oL (swp [] M p c) w := fun x hx => by
 unfold Go.Proofs.YthcmlodgnfekeaaGreat.swp at hx
 rcases List.mem_or_eq_of_mem_set hx with h1 | h1
 ·rcases List.mem_or_eq_of_mem_set h1 with h2 | h2
  ·exact h x h2
  ·rw [h2]; exact h.row hc
 ·rw [h1]; exact h.row hp
theorem oL.redM {M : List (List Qi)} {w c r : Nat} (h : oL M w) (hc : c < M.length) (hp : gm M c c ≠ Qi.zero) : oL (redM M c r) (2 * w + 1) := fun x hx => by
 obtain ⟨i,hi,rfl⟩:=gL.1 hx
 show sY (if c < i ∧ i < r then Ds (iU M i) (iU M c) c (iU M i).length else iU M i) _
 split
 ·exact (h.row hi).red (h.row hc) hp
 ·exact (h.row hi).le zo
theorem oL.redJ {M : List (List Qi)} {w c r : Nat} (h : oL M w) (hc : c < M.length) (hp : gm M c c ≠ Qi.zero) : oL (redJ M c r) (2 * w + 1) := fun x hx => by
 obtain ⟨i,hi,rfl⟩:=gL.1 hx
 show sY (if i ≠ c ∧ i < r then uD (iU M i) (iU M c) c (iU M i).length else iU M i) _
 split
 ·exact (h.row hi).red (h.row hc) hp
 ·exact (h.row hi).le zo
structure SzS (M:List (List Qi)) (b:List Qi) (n G X:Nat):Prop where
 st:∀ c,c ≤ n → bS (iK (tY M [b] n) c).1 G
 bk:a22 M b n = 0 → ∀ j,j ≤ n → fH (bkS (Lw M b n).1 n j) X
 g1:1 ≤ G
 x1:1 ≤ X
 g:6 * G + 4 ≤ 17592186044415
 x:n * (X + G + 2) + 4 * G + 2 ≤ 17592186044415
theorem SzS.old {M:List (List Qi)} {b:List Qi} {n L:Nat} (hM:fO M n n) (hf:bS M L) (hfb:fH b L) (hL:1 ≤ L) (hg:6 * oZ L n + 4 ≤ 17592186044415) (hx:Jx (oZ L n) (n + 1) ≤ 17592186044415):SzS M b n (oZ L n) (Jx (oZ L n) n):=by
 have hcs:fO (tY M [b] n) n (n + 1):=tD hM
 have hcf:bS (tY M [b] n) L:=tC hf (fun r hr=>by simp at hr; subst hr; exact hfb) hL
 have hG1:1 ≤ oZ L n:=Nat.le_trans hL (uS L n)
 refine ⟨fun c hc=>(vW hcs hcf hL hc).le (pV L hc),fun hE j hj=>?_,hG1,Nat.le_trans hG1 (Gq _ _),hg,hx⟩
 have hst:¬ 0 ≤ (Lw M b n).2.2:=fun h=>by rw [a22,if_pos h] at hE; omega
 have hf2:=My (Ro hM hf hfb hL) hG1 (yU hcs (Nat.le_refl n) (Xj hst)) j hj
 exact fun y hy=>(hf2 y hy).le (Eb _ hj)
structure SzJ (M:List (List Qi)) (b:List Qi) (n G:Nat):Prop where
 st:∀ c A,c ≤ n → Kr (tY M [b] n) c = some A → bS A G
 g1:1 ≤ G
 g:6 * G + 4 ≤ 17592186044415
theorem SzJ.old {M : List (List Qi)} {b : List Qi} {n L : Nat} (hM : fO M n n) (hf : bS M L) (hfb : fH b L) (hL : 1 ≤ L) (hg : 6 * oZ L n + 4 ≤ 17592186044415) : SzJ M b n (oZ L n) :=
 ⟨fun _ _ hc hA=>(Pe (show fO (tY M [b] n) n (n + 1) from tD hM) (Nat.le_succ n) (tC hf (fun r hr=>by simp at hr; subst hr; exact hfb) hL) hL hc hA).le (pV L hc),Nat.le_trans hL (uS L n),hg⟩
end
section
open Go Go.RowKit
section
variable {n:Nat} {x y z x' y':Nat → Qi} {C C':Nat → Nat → Qi}
end
section
variable {h:List (List Qi)} {n:Nat}
def ei (i:Nat) (v:Qi) (a:Nat):Qi:=if a = i then v else 0
def mk (i:Nat) (y:Nat → Qi) (r:Nat):Qi:=if i ≤ r then y r else 0
end
end
section
open Go Go.RowKit
section
variable {z fz:List Qi} {s f:List (List Qi)} {t:Qi} {p n:Nat}
end
def lU (n:Nat):List Qi:=tab n fun _=>Qi.ofInt 1
def Kv (l:List Rt) (j:Nat):Qi:=if l.length = 0 then Qi.zero else (l.getD (j % l.length) Ll).q
def lT (n:Nat) (l:List Rt):List (List Qi):=tab n fun i=>tab n fun k=>Kv l (n * i + k)
theorem lF (n:Nat):(lU n).length = n:=aR _ _
theorem Au (n:Nat):fH (lU n) 2:=fH.tab fun _ _=>nX.le (by decide)
theorem Ip (n : Nat) (l : List Rt) : bS (lT n l) 2 := bS.tab fun i k _ _ => by
 unfold Kv; split
 ·exact aE.zero (by decide)
 ·exact fitRt
theorem sI (n:Nat) (l:List Rt):fO (lT n l) n n:=fO.tab
theorem Vy (n:Nat):(lU n).all kH = true:=by
 rw [List.all_eq_true]
 intro x hx
 obtain ⟨_,_,rfl⟩:=gL.1 hx
 decide +kernel
theorem a0H {n:Nat} (l:List Rt) (h1:1 ≤ n) (h8:n ≤ 8):iD (lU n) (lT n l) = 0:=by
 have hs:=sI n l
 have hl:=lF n
 rw [iD,if_neg,if_pos (Vy n)]
 rintro (h | h | h | h)
 ·omega
 ·omega
 ·exact h (by rw [hs.1,hl])
 ·obtain ⟨x, hx, h2⟩ := List.any_eq_true.1 h
  simp [hs.2 x hx,hl] at h2
theorem Pq {α : Type} {f : Nat → α} {z : α} {n k : Nat} (h : f k = z) : kB f z n (k + 1) = kB f z n k := iI fun i _ => by
 by_cases a:i < k
 ·rw [if_pos a,if_pos zo]
 ·rw [if_neg a]
  by_cases b:i = k
  ·rw [if_pos zo,b,h]
  ·rw [if_neg zo]
def Xr:List Rt:=[Ll,Yy,Yy,Ll]
def twC:List (List Qi):=Ge (Qi.ofInt 290) (nI (lU 2) (lT 2 Xr)) 2
theorem a2q:sB (lU 2) (lT 2 Xr) twC (Qi.ofInt 0) (Qi.ofInt 290) = (Qi.ofInt 4,0):=by decide +kernel
end
end Go.Proofs.YthcmlodgnfekeaaGreat
