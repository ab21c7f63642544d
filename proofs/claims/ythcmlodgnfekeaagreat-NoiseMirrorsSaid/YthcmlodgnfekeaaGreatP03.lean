/- What functions of the program compute, proved by walks over their code, and the plain mathematics of it; a part of the proof in the last text. -/
import Derived.Test.YthcmlodgnfekeaaGreatP02
set_option linter.unusedVariables false
set_option linter.unusedSimpArgs false
set_option maxRecDepth 100000
set_option maxHeartbeats 4000000
namespace Go.Proofs.YthcmlodgnfekeaaGreat
section
open Go Go.RowKit
theorem Me {v:Nat} (hv:v < 4294967296):bE Tryz.prog 275 [bH v] (NT .i64 (bl v)):=by
 refine bE.intro Tryz.func275 rfl Tryz.ntmps275 rfl (fun cx=>(ts (ro rfl (cQ (cJ 0)) (eX (cK (pE (fun (q:Nat) (x:Nat)=>bl v = q + bl x ∧ x < 65536 ∧ q ≤ 16) (fun (q:Nat) (x:Nat)=>[(0,bH x),(2,NT .i64 q)]) (fun (q:Nat) (x:Nat)=>[]) ?_ (fun q x ⟨hq1,hq2,hq3⟩=>?_)))))))
 ·refine ts (rm rfl (ro rfl (pW (Ht rfl) (cJ 65536)) (eX (dQ (Ht rfl) (fun hb => ?_) (fun hb => ?_)))))
  ·simp at hb
   refine ts (rm rfl (ro rfl (fF (Ht rfl) (cJ 16) (by decide)) (ra rfl (eX (cY (ro rfl (cQ (cJ 16)) (eX (bB (16,v / 2 ^ 16) ⟨Wn hb,by dsimp only; omega,Nat.le_refl _⟩ (zS rfl) aY))))))))
  ·simp at hb
   refine cU (bB (0,v) ⟨(Nat.zero_add _).symm,hb,by dsimp only; omega⟩ (zS rfl) aY)
 ·refine cK (pE (fun (r : Nat) (z : Nat) => bl v = r + bl z ∧ z < 256 ∧ r ≤ 24) (fun (r : Nat) (z : Nat) => [(0, bH z), (2, NT .i64 r)]) (fun (r : Nat) (z : Nat) => []) ?_ (fun r z ⟨hr1, hr2, hr3⟩ => ?_))
  ·refine ts (rm rfl (ro rfl (pW (Ht rfl) (cJ 256)) (eX (dQ (Ht rfl) (fun hb => ?_) (fun hb => ?_)))))
   ·simp at hb
    refine ts (rm rfl (ro rfl (fF (Ht rfl) (cJ 8) (by decide)) (ra rfl (eX (cY (rm rfl (ro rfl (dV (Ht rfl) (cJ 8) z6) (ra rfl (eX (bB (q + 8,x / 2 ^ 8) ⟨by have:=Xj hb; dsimp only; omega,by dsimp only; omega,by dsimp only; omega⟩ (zS rfl) aY))))))))))
   ·simp at hb
    refine cU (bB (q,x) ⟨hq1,hb,by dsimp only; omega⟩ (zS rfl) aY)
  ·have hbl := mN (k := 8) hr2
   refine ts (rm rfl (rm rfl (ro rfl (gZ U_24 U_5 (Ht rfl) (by show _ < 256; first | omega | (simp only [jF]; omega))) (ro rfl (Oh Tryz.runUnderlying9 cV (Ht rfl) (Wr hr2 (by kernel_rfl))) (ro rfl (gZ U_5 U_3 (Ht rfl) z6) (ro rfl (dV (Ht rfl) (Ht rfl) z6) (ra rfl (eX (fW rfl (fX (eU rfl) ?_))))))))))
   exact (kX zo)
theorem Rv {v:Nat} (hv:v < 4294967296):bE Tryz.prog 251 [bH v] (NT .i64 (32 - bl v)):=by
 refine bE.intro Tryz.func251 rfl Tryz.ntmps251 rfl (fun cx=>(ts (ro rfl (cQ (cJ 0)) (eX (ts (rm rfl (ro rfl (cZ Tryz.call275 (Me hv) ⟨(Ht rfl),trivial⟩) (ro rfl (dW (cJ 32) (Ht rfl) (mN hv) z6) (ra rfl (eX ?_))))))))))
 exact fW rfl (eU rfl)
theorem Mc {hi lo y:Nat} (hy:hi < y) (hl:lo < BB) (hyb:y < BB):bE Tryz.prog 285 [bH hi,bH lo,bH y] (gA [bH ((hi * BB + lo) / y),bH ((hi * BB + lo) % y)]):=by
 have hq:=Fr hy hl; have hm:=Nat.mod_lt (hi * BB + lo) (by omega:y > 0); have hz:hi * BB + lo < 18446744073709551616:=by simp only [BB] at *; omega
 have hsh : hi * 2 ^ 32 < 18446744073709551616 := by
  have h1:hi < BB:=by omega
  show hi * BB < _
  simp only [BB] at h1 ⊢; omega
 refine bE.intro Tryz.func285 rfl Tryz.ntmps285 rfl (fun cx=>(ts (ro rfl (cQ (cJ 0)) (ro rfl (cQ (cJ 0)) (eX (cK (ts (rm rfl (ro rfl (jO (Ht rfl) (cJ 0)) (rm rfl (fQ rfl rfl (eK rfl rfl (Ht rfl) (fun h=>cX (Ht rfl))) (fQ rfl rfl (eK rfl rfl (Ht rfl) (fun h=>cX (Ht rfl))) (fQ rfl rfl (eK rfl rfl (Ht rfl) (fun h=>xG (fJ rfl h) (fJ rfl h))) (ro rfl (eS (Ht rfl) (fun h=>(fJ rfl h))) (eX (lV (Ht rfl) (by simp; omega) ?_))))))))))))))))
 have hl2:lo < 18446744073709551616:=by simp only [BB] at hl; omega
 have hy2:y < 18446744073709551616:=by simp only [BB] at hyb; omega
 refine cU (ts (rm rfl (ro rfl (gZ U_24 U_274 (Ht rfl) (by show _ < 18446744073709551616; simp only [BB] at *; omega)) (ro rfl (pZ (Ht rfl) (cJ 32) (by decide) hsh) (rm rfl (ro rfl (gZ U_24 U_274 (Ht rfl) (by show _ < 18446744073709551616; simp only [BB] at *; omega)) (ro rfl (aF.nat (qS rfl (Ht rfl) (Ht rfl) z7 z7) (xH hl)) (ra rfl (eX (cK ?_))))))))))
 refine fZ (m:=11) (dp 8 rfl (cX (Ht rfl)) (dp 2 rfl (cX (Ht rfl)) (dq 24 1 rfl (gZ U_24 U_274 (Ht rfl) (by show _ < 18446744073709551616; simp only [BB] at *; omega)) (fA 23 0 25 2 rfl (pY (Ht rfl) (Ht rfl) zo (by show _ < 18446744073709551616; exact hz)) (dq 26 3 rfl (gZ U_274 U_24 (Ht rfl) (by show _ < 4294967296; exact hq)) (dp 8 rfl (cX (Ht rfl)) (dp 2 rfl (cX (Ht rfl)) (dq 29 6 rfl (gZ U_24 U_274 (Ht rfl) (by show _ < 18446744073709551616; simp only [BB] at *; omega)) ?_))))))))
 refine fA 28 5 30 7 rfl (nY (Ht rfl) (Ht rfl) zo) (dq 31 8 rfl (gZ U_274 U_24 (Ht rfl) (by show _ < 4294967296; simp only [BB] at *; omega)) (dq 27 4 rfl (cQ (Ht rfl)) (fV mixed rfl (by kernel_rfl) (zF (zF (aJ (aJ (aJ (aV (ra rfl (eX ?_)))))))))))
 exact cB rfl (eU rfl) (eU rfl)
theorem Qc {m k:Nat} (hm:(dg m).length ≤ 17592186044416) (hk:k ≤ 562949953421312):bE Tryz.prog 206 [aH m,NT .i64 k] (aH (m * 2 ^ k)):=by
 refine bE.intro Tryz.func206 rfl Tryz.ntmps206 rfl (fun cx=>(ts (ro rfl (cQ cV) (eX (cK (ts (rm rfl (ro rfl (dG U_28 (Ht rfl) aA) (ro rfl (fN (Ht rfl) (cJ 0)) (rm rfl (fQ rfl rfl (eK rfl rfl (Ht rfl) (fun h=>cX (Ht rfl))) (fQ rfl rfl (eK rfl rfl (Ht rfl) (fun h=>fN (fJ rfl h) (cJ 0))) (ro rfl (gH (Ht rfl) (fun h=>(fJ rfl h))) (eX (dQ (Ht rfl) (fun hb=>?_) (fun hb=>?_))))))))))))))))
 ·simp [aO] at hb
  have h0 : m * 2 ^ k = m := by
   rcases hb with h | h
   ·simp_all [qO]
   ·rw [h,Nat.pow_zero,Nat.mul_one]
  refine ts (rm rfl (ra rfl (eX (fW rfl (fX (eU rfl) ?_)))))
  exact (dI h0.symm)
 ·clear hb
  have hr:=Nat.mod_lt k (by decide:32 > 0)
  refine cU (ts (rm rfl (ro rfl (pY (Ht rfl) (cJ 32) zo z6) (rm rfl (ro rfl (nY (Ht rfl) (cJ 32) zo) (ro rfl (gZ U_3 U_275 (Ht rfl) z7) (ra rfl (ra rfl (eX (ts (rm rfl (ro rfl (dG U_28 (Ht rfl) aA) (rm rfl (ro rfl (dV (Ht rfl) (Ht rfl) z6) (ro rfl (dV (Ht rfl) (cJ 1) z6) ?_)))))))))))))))
  refine rn rfl (fP (T:=bH 0) (i:=Tryz.t24) V_28 kS rfl rfl (Ht rfl) rfl (fun _=>rfl) trivial (by show 4 * _ ≤ _; omega) zo) fun B29=>ra rfl (eX (cK (ts (rm rfl (ro rfl (dG U_28 (Ht rfl) aA) (ro rfl (cX (cJ 0)) (eX (eG ?_))))))))
  refine fM (fun (i : Nat) (out : List Nat) => wD (dg m) (k / 32) (k % 32) out i) (fun (i : Nat) (out : List Nat) => (dg m).length - i) (fun (i : Nat) (out : List Nat) => [(5, NT .i64 (k / 32)), (6, NT .u64 (k % 32)), (7, Is (.slice (some ⟨B29, 0, none⟩) ((dg m).length + k / 32 + 1) ((dg m).length + k / 32 + 1))), (30, aH m), (31, NT .i64 (dg m).length), (32, NT .i64 i)]) (fun (i : Nat) (out : List Nat) => [box B29 24 (out.map bH)]) 0 (List.replicate ((dg m).length + k / 32 + 1) 0) (wD.start _ _ _)
   (zS rfl) (aU (aI (mF _)) aY) (fun i out hS=>?_)
  refine ts (ro rfl (gX (Ht rfl) (Ht rfl)) (eX (cK (dQ (Ht rfl) (fun hb=>?_) (fun hb=>?_)))))
  ·simp at hb
   have hlen:=hS.len; have hxi:=aP (bF m) i; have hok:=aP hS.dig (i + k / 32)
   have hv:=Fq hxi hr
   have hd:(dg m).getD i 0 * 2 ^ (k % 32) / 2 ^ 32 < 4294967296:=Nat.div_lt_of_lt_mul hv
   simp only [BB] at hxi hok
   refine cU (cK (eG (ts (rm rfl (ro rfl (dZ U_28 Z_24 (Ht rfl) (Ht rfl) rfl (dY (aR zo))) (ro rfl (dJ A_24 Z_24 (Ht rfl)) (ra rfl (ra rfl (eX (ts (rm rfl (ro rfl (gZ U_24 U_274 (Ht rfl) z7) (rm rfl (ro rfl (pZ (Ht rfl) (Ht rfl) (by show _ ≤ _; simp [IntKind.bits]; omega) (by show _ < 18446744073709551616; exact hv)) (ra rfl (eX (ts (rm rfl (rm rfl (rm rfl (ro rfl (dV (Ht rfl) (Ht rfl) z6) ?_)))))))))))))))))))))
   refine ro rfl (fY U_28 Z_24 (Ht rfl) (Ht rfl) rfl zo (by rw [Nat.mul_one,Nat.zero_add])) ?_
   refine ro rfl (eY A_24 Z_24 (Ht rfl) (i:=0) rfl (dY (aR zo))) (rm rfl (ro rfl (gS rfl U_274 U_24 (Ht rfl)) (ro rfl (qS rfl (Ht rfl) (Ht rfl) (by show _ < 4294967296; omega) (by show _ % 4294967296 < 4294967296; omega)) (ro rfl (fY U_28 Z_24 (Ht rfl) (Ht rfl) rfl zo (by rw [Nat.mul_one,Nat.zero_add])) ?_))))
   refine lT Z_24 (Ht rfl) (Ht rfl) (i:=0) rfl (by first | omega | (simp; omega)) rfl (eX (cY (rm rfl (rm rfl (rm rfl (ro rfl (dV (Ht rfl) (Ht rfl) z6) (ro rfl (dV (Ht rfl) (cJ 1) z6) (rm rfl (ro rfl (fF (Ht rfl) (cJ 32) (by decide)) (ro rfl (gZ U_274 U_24 (Ht rfl) (by show _ < 4294967296; exact hd)) (ro rfl (fY U_28 Z_24 (Ht rfl) (Ht rfl) rfl zo (by rw [Nat.mul_one,Nat.zero_add])) ?_)))))))))))
   refine lT Z_24 (Ht rfl) (Ht rfl) (i:=0) rfl (by first | omega | (simp; omega)) rfl (eX (cA (cY (ro rfl (dV (Ht rfl) (cJ 1) z6) (rm rfl (eX (fU (i + 1,_) (hS.next (bF m) hr hb rfl rfl) (by dsimp only; omega) (zS rfl) (aU (aI (Ks _ _ _ _ _)) aY))))))))
  ·simp at hb
   have hkl:i = (dg m).length:=Nat.le_antisymm hS.kle hb
   subst hkl
   have hlen:=hS.len
   have hfin:=hS.fin
   rw [cE,nM] at hfin
   refine gV rfl (gJ (i:=0) (tt:=7) rfl rfl (mZ rfl hlen.symm (Nat.le_refl _)) (ts (rm rfl (ro rfl (cZ K_203 (lY _ hS.dig zo) ⟨(Ht rfl),trivial⟩) (ra rfl (eX (fW rfl (fX (eU rfl) ?_))))))))
   exact (dI hfin)
theorem Va {m k:Nat} (hm:(dg m).length ≤ 17592186044416) (hk:k ≤ 562949953421312):bE Tryz.prog 253 [aH m,NT .i64 k] (aH (m / 2 ^ k)):=by
 refine bE.intro Tryz.func253 rfl Tryz.ntmps253 rfl (fun cx=>?_)
 have hr:=Nat.mod_lt k (by decide:32 > 0)
 refine ts (ro rfl (cQ cV) (eX (ts (rm rfl (ro rfl (pY (Ht rfl) (cJ 32) zo z6) (rm rfl (ro rfl (nY (Ht rfl) (cJ 32) zo) (ro rfl (gZ U_3 U_275 (Ht rfl) z7) (ra rfl (ra rfl (eX (cK (ts (rm rfl (rm rfl (ro rfl (dG U_28 (Ht rfl) aA) (ro rfl (pW (Ht rfl) (Ht rfl)) (eX (dQ (Ht rfl) (fun hb=>?_) (fun hb=>?_))))))))))))))))))))
 ·simp at hb
  have h0:=Ku (bF m) hb (r:=k % 32)
  rw [cE,nM] at h0
  refine ts (ro rfl (cQ cV) (eX (fW rfl (fX (eU rfl) ?_))))
  exact (fun v V h=>dI h0.symm v V (jG v V h))
 ·simp at hb
  refine cU (ts (rm rfl (ro rfl (dG U_28 (Ht rfl) aA) (rm rfl (ro rfl (dW (Ht rfl) (Ht rfl) zo z6) (rn rfl (fP (T:=bH 0) (i:=Tryz.t24) V_28 kS rfl rfl (Ht rfl) rfl (fun _=>rfl) trivial (by show 4 * _ ≤ _; omega) zo) fun B23=>(ra rfl (eX (cK (ts (rm rfl (ro rfl (jB U_28 (Ht rfl)) (ro rfl (cX (cJ 0)) (eX (eG ?_)))))))))))))))
  refine fM (fun (i : Nat) (out : List Nat) => wE (dg m) (k / 32) (k % 32) out i) (fun (i : Nat) (out : List Nat) => (dg m).length - i) (fun (i : Nat) (out : List Nat) => [(0, aH m), (5, NT .i64 (k / 32)), (6, NT .u64 (k % 32)), (7, Is (.slice (some ⟨B23, 0, none⟩) ((dg m).length - k / 32) ((dg m).length - k / 32))), (25, NT .i64 ((dg m).length - k / 32 : Nat)), (26, NT .i64 i)]) (fun (i : Nat) (out : List Nat) => [box B23 24 (out.map bH)]) 0 (List.replicate ((dg m).length - k / 32) 0) (wE.start _ _ _)
   (zS rfl) (aU (aI (mF _)) aY) (fun i out hS=>?_)
  refine ts (ro rfl (gX (Ht rfl) (Ht rfl)) (eX (cK (dQ (Ht rfl) (fun hb=>?_) (fun hb=>?_)))))
  ·simp at hb
   have hlen:=hS.len; have hx0:=aP (bF m) (i + k / 32); have hx1:=aP (bF m) (i + k / 32 + 1)
   have hio:i < out.length:=by omega
   simp only [BB] at hx0 hx1
   refine cU (cK (eG (ts (rm rfl (ra rfl (eX (ts (rm rfl (rm rfl (rm rfl (ro rfl (dV (Ht rfl) (Ht rfl) z6) (ro rfl (dZ U_28 Z_24 (Ht rfl) (Ht rfl) rfl (dY (aR zo))) (ro rfl (dJ A_24 Z_24 (Ht rfl)) (ro rfl (gZ U_24 U_274 (Ht rfl) z7) (ra rfl (eX (cK (jZ (fun (v:Nat)=>v = (dg m).getD (i + k / 32) 0 + BB * (dg m).getD (i + k / 32 + 1) 0) (fun (v:Nat)=>[(0,aH m),(5,NT .i64 (k / 32)),(6,NT .u64 (k % 32)),(7,Is (.slice (some ⟨B23,0,none⟩) ((dg m).length - k / 32) ((dg m).length - k / 32))),(8,NT .i64 i),(9,NT .u64 v),(25,NT .i64 ((dg m).length - k / 32:Nat)),(26,NT .i64 i)]) (fun (v:Nat)=>[box B23 24 (out.map bH)]) ?_ (fun v hv=>?_)))))))))))))))))))
   ·refine ts (rm rfl (rm rfl (ro rfl (dV (Ht rfl) (Ht rfl) z6) (ro rfl (dV (Ht rfl) (cJ 1) z6) (rm rfl (ro rfl (dG U_28 (Ht rfl) aA) (ro rfl (gX (Ht rfl) (Ht rfl)) (eX (dQ (Ht rfl) (fun hk2 => ?_) (fun hk2 => ?_))))))))))
    ·simp at hk2
     refine cY (rm rfl (rm rfl (rm rfl (rm rfl (ro rfl (dV (Ht rfl) (Ht rfl) z6) (ro rfl (dV (Ht rfl) (cJ 1) z6) (ro rfl (dZ U_28 Z_24 (Ht rfl) (Ht rfl) rfl (dY (aR zo))) (ro rfl (dJ A_24 Z_24 (Ht rfl)) (ro rfl (gZ U_24 U_274 (Ht rfl) z7) (ro rfl (pZ (Ht rfl) (cJ 32) (by decide) (by show _ < 18446744073709551616; omega)) ?_))))))))))
     refine ro rfl (aF.nat (qS rfl (Ht rfl) (Ht rfl) z7 z7) (Ol hx0)) (ra rfl (eX (bB ((dg m).getD (i + k / 32) 0 + BB * (dg m).getD (i + k / 32 + 1) 0) rfl (zS rfl) (dL.refl _))))
    ·simp at hk2
     refine cU (bB ((dg m).getD (i + k / 32) 0) (by simp [List.getD,List.getElem?_eq_none hk2]) (zS rfl) (dL.refl _))
   ·refine cY (rm rfl (rm rfl (rm rfl (rm rfl (ro rfl (fF (Ht rfl) (Ht rfl) (by show _ ≤ 64; omega)) (ro rfl (gS rfl U_274 U_24 (Ht rfl)) (ro rfl (fY U_28 Z_24 (Ht rfl) (Ht rfl) rfl zo (by rw [Nat.mul_one, Nat.zero_add])) ?_)))))))
    refine lT Z_24 (Ht rfl) (Ht rfl) (i:=0) rfl (by first | omega | (simp; omega)) rfl (eX (cA (cY (ro rfl (dV (Ht rfl) (cJ 1) z6) (rm rfl (eX (fU (i + 1,_) (hS.next (bF m) hr hio (by rw [hv]; rfl)) (by dsimp only; omega) (zS rfl) (aU (aI (gI _ _ _)) aY))))))))
  ·simp at hb
   have hlen:=hS.len
   have hkl:i = out.length:=Nat.le_antisymm hS.kle zo
   subst hkl
   have hfin:=hS.fin (bF m) zo
   rw [cE,nM] at hfin
   refine gV rfl (gJ (i:=0) (tt:=7) rfl rfl (mZ rfl hlen.symm (Nat.le_refl _)) (ts (rm rfl (ro rfl (cZ K_203 (lY _ hS.dig zo) ⟨(Ht rfl),trivial⟩) (ra rfl (eX (fW rfl (fX (eU rfl) ?_))))))))
   exact (dI hfin)
theorem Cv {m y:Nat} (hm:(dg m).length ≤ 17592186044416) (hy:0 < y) (hyb:y < BB):bE Tryz.prog 250 [aH m,bH y] (gA [aH (m / y),bH (m % y)]):=by
 refine bE.intro Tryz.func250 rfl Tryz.ntmps250 rfl (fun cx=>(ts (ro rfl (cQ cV) (ro rfl (cQ (cJ 0)) (eX (ts (rm rfl (ro rfl (dG U_28 (Ht rfl) aA) (rn rfl (fP (T:=bH 0) (i:=Tryz.t24) V_28 kS rfl rfl (Ht rfl) rfl (fun _=>rfl) trivial (by show 4 * _ ≤ _; omega) zo) fun B11=>(ra rfl (eX (ts (ro rfl (cQ (cJ 0)) (eX (cK (ts (rm rfl (ro rfl (dG U_28 (Ht rfl) aA) (ro rfl (gT (Ht rfl) cV (sX zo)) (ra rfl (eX (eG ?_))))))))))))))))))))))
 refine lW (fun (k : Nat) (out : List Nat) (r : Nat) => lU (dg m) y out k r) (fun (k : Nat) (out : List Nat) (r : Nat) => k) (fun (k : Nat) (out : List Nat) (r : Nat) => [(0, aH m), (1, bH y), (6, Is (.slice (some ⟨B11, 0, none⟩) (dg m).length (dg m).length)), (7, bH r), (8, aC .i64 ((k : Int) - 1))]) (fun (k : Nat) (out : List Nat) (r : Nat) => [box B11 24 (out.map bH)]) (dg m).length (List.replicate (dg m).length 0) 0 (lU.start _ hy)
  (zS rfl) (aU (aI (mF _)) aY) (fun k out r hS=>?_)
 refine cK (ts (rm rfl (ro rfl (lE (Ht rfl) cV) (eX (dQ (Ht rfl) (fun hb=>?_) (fun hb=>?_))))))
 ·simp at hb
  have hlen:=hS.len; have hkl:=hS.kle
  refine cU (cK (eG (cY (rm rfl (rm rfl (rm rfl (rm rfl (rm rfl (ro rfl (dZ U_28 Z_24 (Ht rfl) (Ht rfl) (show ((k:Int) - 1) = ((k - 1:Nat):Int) by omega) (dY (aR zo))) (ro rfl (dJ A_24 Z_24 (Ht rfl)) (rm rfl (ro rfl (cZ Tryz.call285 (Mc hS.rlt (aP (bF m) (k - 1)) hyb) ⟨(Ht rfl),(Ht rfl),(Ht rfl),trivial⟩) (rm rfl (ro rfl (dK (Ht rfl) rfl) (ro rfl (dK (Ht rfl) rfl) (ro rfl (fY U_28 Z_24 (Ht rfl) (Ht rfl) (show ((k:Int) - 1) = ((k - 1:Nat):Int) by omega) zo (by rw [Nat.mul_one,Nat.zero_add])) ?_))))))))))))))))
  refine lT Z_24 (Ht rfl) (Ht rfl) (i:=0) rfl (by first | omega | (simp; omega)) rfl (ra rfl (eX (cA (cY (rm rfl (ro rfl (gT (Ht rfl) cV (sX zo)) (ra rfl (eX (fU (k - 1,_,_) (hS.next (bF m) zo rfl) (by dsimp only; omega) (aQ rfl (aQ rfl (aQ rfl (aQ rfl (aZ rfl (aS zo) aX))))) (aU (aI (gI _ _ _)) aY))))))))))
 ·simp at hb
  have hk0:k = 0:=by omega
  subst hk0
  have hlen:=hS.len
  have hfin:=hS.fin
  rw [cE] at hfin
  refine gV rfl (gJ (i:=0) (tt:=6) rfl rfl (mZ rfl hlen.symm (Nat.le_refl _)) (ts (rm rfl (ro rfl (cZ K_203 (lY _ hS.dig zo) ⟨(Ht rfl),trivial⟩) (rm rfl (ra rfl (ra rfl (eX (cB rfl (fX (eU rfl) ?_) (fX (eU rfl) ?_))))))))))
  ·exact (dI hfin.1)
  ·exact (kX hfin.2)
end
section
open Go Go.RowKit
theorem Rx {us vs : List Nat} {q j B l : Nat} (hul : us.length = l) (hu : gN us) (hv : gN vs) (hq : q < BB) (hl : j + vs.length < us.length) (hL : us.length ≤ 1152921504606846976) :
    iF Tryz.prog 252 [Is (.slice (some ⟨B,0,none⟩) l l),uQ vs,NT .u64 q,NT .i64 j] [box B 24 (us.map bH)] (List Nat × Bool) (fun x=>aB x.2) (fun x=>[box B 24 (x.1.map bH)]) (fun x=>xY us vs q j x.1 x.2):=by
 refine iF.intro Tryz.func252 rfl Tryz.ntmps252 rfl (fun cx Z=>(ts (ro rfl (cQ cV) (eX (ts (ro rfl (cQ (cJ 0)) (ro rfl (cQ (cJ 0)) (eX (cK (ts (rm rfl (ro rfl (dG U_28 (Ht rfl) aA) (ro rfl (cX (cJ 0)) (eX (eG ?_)))))))))))))))
 refine Cg (fun (i : Nat) (out : List Nat) (c : Nat) (b : Nat) => pF us vs q j out i c b) (fun (i : Nat) (out : List Nat) (c : Nat) (b : Nat) => vs.length - i) (fun (i : Nat) (out : List Nat) (c : Nat) (b : Nat) => [(0, Is (.slice (some ⟨B, 0, none⟩) l l)), (1, uQ vs), (2, NT .u64 q), (3, NT .i64 j), (9, NT .u64 c), (10, NT .u64 b), (16, uQ vs), (17, NT .i64 vs.length), (18, NT .i64 i)]) (fun (i : Nat) (out : List Nat) (c : Nat) (b : Nat) => [Z, box B 24 (out.map bH)]) 0 us 0 0 (pF.start hu vs q j)
  (zS rfl) (dL.refl _) (fun i out c b hS=>?_)
 refine ts (ro rfl (gX (Ht rfl) (Ht rfl)) (eX (cK (dQ (Ht rfl) (fun hb=>?_) (fun hb=>?_)))))
 ·simp at hb
  have hlen:=hS.len; have hcl:=hS.clt; have hbl:=hS.ble; have hvi:=aP hv i; have hok:=aP hS.dig (i + j)
  have hp:=Lb hq hvi hS.clt
  simp only [BB] at hp hcl hvi hok
  obtain ⟨p,hp1⟩:∃ p,p = q * vs.getD i 0 + c:=⟨_,rfl⟩
  obtain ⟨x,hx1⟩:∃ x,x = ((out.getD (i + j) 0 + 18446744073709551616 - p % 4294967296) % 18446744073709551616 + 18446744073709551616 - b) % 18446744073709551616:=⟨_,rfl⟩
  refine cU (cK (eG (ts (rm rfl (ro rfl (dZ U_28 Z_24 (Ht rfl) (Ht rfl) rfl (dY (aR zo))) (ro rfl (dJ A_24 Z_24 (Ht rfl)) (ra rfl (ra rfl (eX (ts (rm rfl (rm rfl (ro rfl (gZ U_24 U_274 (Ht rfl) z7) (ro rfl (kY (Ht rfl) (Ht rfl) z7) (rm rfl (ro rfl (aF.nat (dV (Ht rfl) (Ht rfl) z7) hp1.symm) ?_))))))))))))))))
  refine ra rfl (eX (ts (rm rfl (ro rfl (fF (Ht rfl) (cJ 32) (by decide)) (ra rfl (eX (ts (rm rfl (rm rfl (rm rfl (ro rfl (dV (Ht rfl) (Ht rfl) z6) (ro rfl (fY U_28 Z_24 (Ht rfl) (Ht rfl) rfl zo (by rw [Nat.mul_one,Nat.zero_add])) ?_))))))))))))
  refine ro rfl (eY A_24 Z_24 (Ht rfl) (i:=1) rfl (dY (aR zo))) (ro rfl (gZ U_24 U_274 (Ht rfl) z7) (rm rfl (ro rfl (gS rfl U_274 U_24 (Ht rfl)) (ro rfl (gZ U_24 U_274 (Ht rfl) z7) (ro rfl (nZ rfl (Ht rfl) (Ht rfl) (by show _ ≤ 18446744073709551616; first | omega | (simp only [jF]; omega))) ?_)))))
  refine rm rfl (ro rfl (aF.nat (nZ rfl (Ht rfl) (Ht rfl) (by show _ ≤ 18446744073709551616; first | omega | (simp only [jF]; omega))) hx1.symm) (ra rfl (eX (ts (rm rfl (rm rfl (rm rfl (ro rfl (dV (Ht rfl) (Ht rfl) z6) (rm rfl (ro rfl (gS rfl U_274 U_24 (Ht rfl)) (ro rfl (fY U_28 Z_24 (Ht rfl) (Ht rfl) rfl zo (by rw [Nat.mul_one,Nat.zero_add])) ?_)))))))))))
  refine lT Z_24 (Ht rfl) (Ht rfl) (i:=1) rfl (by first | omega | (simp; omega)) rfl (eX (cY (rm rfl (ro rfl (fF (Ht rfl) (cJ 63) (by decide)) (ra rfl (eX (cA (cY (ro rfl (dV (Ht rfl) (cJ 1) z6) (rm rfl (eX (fU (i + 1,_,_,_) (hS.next hu hv hq hb hl hp1 (Bv hok hbl hx1) rfl) (by dsimp only; omega) (zS rfl) (aU (fun _ _ _ h=>h) (aU (aI (gI _ _ _)) aY))))))))))))))
 ·simp at hb
  have hkl:i = vs.length:=Nat.le_antisymm hS.ile hb
  subst hkl
  have hlen:=hS.len; have hcl:=hS.clt; have hbl:=hS.ble; have hok:=aP hS.dig (j + vs.length)
  obtain ⟨x,hx1⟩:∃ x,x = ((out.getD (j + vs.length) 0 + 18446744073709551616 - c) % 18446744073709551616 + 18446744073709551616 - b) % 18446744073709551616:=⟨_,rfl⟩
  have hfin:=hS.fin hl (Bw hok hcl hbl hx1) rfl
  simp only [BB] at hcl hok
  refine gV rfl (ts (rm rfl (rm rfl (rm rfl (ro rfl (dG U_28 (Ht rfl) aA) (ro rfl (dV (Ht rfl) (Ht rfl) z6) (ro rfl (fY U_28 Z_24 (Ht rfl) (Ht rfl) rfl zo (by rw [Nat.mul_one,Nat.zero_add])) ?_)))))))
  refine ro rfl (eY A_24 Z_24 (Ht rfl) (i:=1) rfl (dY (aR zo))) (ro rfl (gZ U_24 U_274 (Ht rfl) z7) (rm rfl (ro rfl (nZ rfl (Ht rfl) (Ht rfl) (by show _ ≤ 18446744073709551616; first | omega | (simp only [jF]; omega))) (rm rfl (ro rfl (aF.nat (nZ rfl (Ht rfl) (Ht rfl) (by show _ ≤ 18446744073709551616; first | omega | (simp only [jF]; omega))) hx1.symm) (ra rfl (eX (ts (rm rfl (rm rfl (rm rfl (ro rfl (dG U_28 (Ht rfl) aA) ?_))))))))))))
  refine ro rfl (dV (Ht rfl) (Ht rfl) z6) (rm rfl (ro rfl (gS rfl U_274 U_24 (Ht rfl)) (ro rfl (fY U_28 Z_24 (Ht rfl) (Ht rfl) rfl zo (by rw [Nat.mul_one,Nat.zero_add])) ?_)))
  refine lT Z_24 (Ht rfl) (Ht rfl) (i:=1) rfl (by first | omega | (simp; omega)) rfl (eX (ts (rm rfl (ro rfl (fF (Ht rfl) (cJ 63) (by decide)) (ro rfl (jO (Ht rfl) (cJ 0)) (ra rfl (eX ?_)))))))
  exact kA (_,_) hfin [0,1] ⟨⟨_,rfl,fun _ _ _ h=>h⟩,⟨_,rfl,(aI (gI _ _ _))⟩,trivial⟩ (by decide) (xL rfl (eU rfl))
theorem Ct {m n:Nat} (hm:(dg m).length ≤ 17592186044415) (hn1:(dg n).length ≤ 17592186044416) (hn:n ≠ 0):bE Tryz.prog 202 [aH m,aH n] (gA [aH (m / n),aH (m % n)]):=by
 refine bE.intro Tryz.func202 rfl Tryz.ntmps202 rfl (fun cx=>(ts (ro rfl (cQ cV) (ro rfl (cQ cV) (eX (cK (ts (rm rfl (rm rfl (ro rfl (cZ Tryz.call129 (Hi zo zo) ⟨(Ht rfl),(Ht rfl),trivial⟩) (ro rfl (nE (Ht rfl) cV) (eX (dQ (Ht rfl) (fun hb=>?_) (fun hb=>?_))))))))))))))
 ·simp only [decide_eq_true_eq] at hb
  have hlt : m < n := by
   unfold oP at hb
   split at hb
   ·assumption
   ·split at hb <;> simp at hb
  refine ts (rm rfl (ro rfl (cQ cV) (ra rfl (eX (cB rfl (fX (eU rfl) ?_) (fX (eU rfl) ?_))))))
  ·exact (fun v V h=>dI (Nat.div_eq_of_lt hlt).symm v V (jG v V h))
  ·exact (dI (Nat.mod_eq_of_lt hlt).symm)
 ·simp only [decide_eq_false_iff_not] at hb
  have hle : n ≤ m := by
   unfold oP at hb
   split at hb
   ·simp at hb
   ·omega
  clear hb
  refine cU (cK (ts (rm rfl (ro rfl (dG U_28 (Ht rfl) aA) (ro rfl (fN (Ht rfl) (cJ 1)) (eX (dQ (Ht rfl) (fun h1=>?_) (fun h1=>?_))))))))
  ·simp at h1
   have hy0:=Sd h1
   have hyb:=aP (bF n) 0
   have hmod:=Nat.mod_lt m (show (dg n).getD 0 0 > 0 by omega)
   simp only [BB] at hyb
   refine ts (rm rfl (rm rfl (ro rfl (dZ U_28 Z_24 (Ht rfl) (cJ 0) rfl (dY (aR zo))) (ro rfl (dJ A_24 Z_24 (Ht rfl)) (ro rfl (cZ Tryz.call250 (Cv zo zo hyb) ⟨(Ht rfl),(Ht rfl),trivial⟩) (rm rfl (ro rfl (dK (Ht rfl) rfl) (ro rfl (dK (Ht rfl) rfl) (ra rfl (ra rfl (eX (ts (rm rfl (rm rfl (ro rfl (gZ U_24 U_274 (Ht rfl) z7) (ro rfl (cZ Tryz.call207 (wP zo) ⟨(Ht rfl),trivial⟩) ?_))))))))))))))))
   refine ra rfl (ra rfl (eX (cB rfl (fX (eU rfl) ?_) (fX (eU rfl) ?_))))
   ·exact (dI (by rw [hy0]))
   ·exact (dI (by rw [hy0]))
  ·simp at h1
   have hl0:(dg n).length ≠ 0:=fun e=>hn (aO.1 e)
   have hyb:=aP (bF n) ((dg n).length - 1)
   obtain ⟨s,hs⟩:∃ s,s = 32 - bl ((dg n).getD ((dg n).length - 1) 0):=⟨_,rfl⟩
   obtain ⟨hs1,hvl,hvb⟩:=Ig hn hs
   obtain ⟨hc1,hc2,hc3,hc4⟩:=Hz (m:=m) hs1
   simp only [BB] at hyb
   have hp2:0 < 2 ^ s:=Nat.pow_pos (by decide)
   have hX0:(dg (m * 2 ^ s)).length ≠ 0:=fun e=>(Nat.ne_of_gt (Nat.mul_pos (show 0 < m by omega) hp2)) (aO.1 e)
   have hmono:=iD hle
   refine cU (ts (rm rfl (ro rfl (dG U_28 (Ht rfl) aA) (rm rfl (rm rfl (ro rfl (dG U_28 (Ht rfl) aA) (ro rfl (dW (Ht rfl) (cJ 1) zo z6) (ro rfl (dZ U_28 Z_24 (Ht rfl) (Ht rfl) rfl (dY (aR zo))) (ro rfl (dJ A_24 Z_24 (Ht rfl)) (ro rfl (aF.nat (cZ Tryz.call251 (Rv zo) ⟨(Ht rfl),trivial⟩) hs.symm) (ra rfl (ra rfl (eX (ts (rm rfl (rm rfl (ro rfl (cZ Tryz.call206 (Qc zo zo) ⟨(Ht rfl),(Ht rfl),trivial⟩) ?_)))))))))))))))))
   refine ra rfl (eX (ts (rm rfl (ro rfl (dG U_28 (Ht rfl) aA) (ro rfl (dV (Ht rfl) (cJ 1) z6) (rn rfl (fP (T:=bH 0) (i:=Tryz.t24) V_28 kS rfl rfl (Ht rfl) rfl (fun _=>rfl) trivial (by show 4 * _ ≤ _; omega) zo) fun B55=>(ra rfl (eX (ts (rm rfl (rm rfl (rm rfl (ro rfl (cZ Tryz.call206 (Qc zo zo) ⟨(Ht rfl),(Ht rfl),trivial⟩) (Ln U_28 Z_24 (Ht rfl) (Ht rfl) (Sn hX0) Vq (i:=0) rfl (by simp) (by simp; omega) (Ia _ _) rfl rfl ?_))))))))))))))
   refine eX (ts (rm rfl (ro rfl (jB U_28 (Ht rfl)) (rm rfl (ro rfl (dW (Ht rfl) (Ht rfl) zo z6) (rn rfl (fP (T:=bH 0) (i:=Tryz.t24) V_28 kS rfl rfl (Ht rfl) rfl (fun _=>rfl) trivial (by show 4 * _ ≤ _; omega) zo) fun B65=>(ra rfl (eX (cK (ts (rm rfl (ro rfl (jB U_28 (Ht rfl)) (ro rfl (gT (Ht rfl) cV (sX zo)) (ra rfl (eX (eG ?_))))))))))))))))
   obtain ⟨vs,hvs⟩:∃ vs,vs = dg (n * 2 ^ s):=⟨_,rfl⟩
   rw [← hvs] at hvl hvb
   have hv:gN vs:=hvs ▸ bF _
   have hvv:val vs = n * 2 ^ s:=by rw [hvs,cE]
   have hV0:0 < val vs:=by rw [hvv]; exact Nat.mul_pos zo hp2
   have hnr:=Nt hv zo hvb
   have hv1:=hnr.v1lt; have hv2:=hnr.v2lt; have hbig:=hnr.big
   simp only [BB] at hv1 hv2 hbig
   refine lW (fun (k : Nat) (us : List Nat) (qs : List Nat) => kL (m * 2 ^ s) vs us qs k ∧ us.length = (dg m).length + 1) (fun (k : Nat) (us : List Nat) (qs : List Nat) => k) (fun (k : Nat) (us : List Nat) (qs : List Nat) => [(8, NT .i64 vs.length), (9, NT .i64 s), (10, uQ vs), (11, Is (.slice (some ⟨B55, 0, none⟩) ((dg m).length + 1) ((dg m).length + 1))), (12, Is (.slice (some ⟨B65, 0, none⟩) ((dg m).length + 1 - (dg n).length) ((dg m).length + 1 - (dg n).length))), (13, aC .i64 ((k : Int) - 1))]) (fun (k : Nat) (us : List Nat) (qs : List Nat) => [box B55 24 (us.map bH), box B65 24 (qs.map bH)]) ((dg m).length + 1 - (dg n).length) (vG m s) (List.replicate ((dg m).length + 1 - (dg n).length) 0) ⟨kL.start hv zo hvb hs1 (by have := fT (bF m); rwa [cE] at this) hc3 hc2 hc4 zo, hc2⟩
    (aZ rfl (kX hvl.symm) (aQ rfl (aZ rfl (fun v V h=>by rw [hvs]; exact h) (aQ rfl (aQ rfl (aZ rfl (aS zo) aX)))))) (aU (fun _ _ _ h=>h) (aU (aI (mF _)) aY)) (fun k us qs ⟨hS,hus⟩=>?_)
   refine cK (ts (rm rfl (ro rfl (lE (Ht rfl) cV) (eX (dQ (Ht rfl) (fun hk=>?_) (fun hk=>?_))))))
   ·simp at hk
    obtain ⟨j,rfl⟩:∃ j,k = j + 1:=⟨k - 1,by omega⟩
    have htp:=hS.top hv zo (Nat.succ_pos j) rfl
    have hkq:=hS.kle; have hlq:=hS.lenq
    rw [Nat.add_sub_cancel] at htp
    have hu0:=aP hS.dig (j + vs.length); have hu1:=aP hS.dig (j + vs.length - 1); have hu2:=aP hS.dig (j + vs.length - 2)
    have ht64:=Vy hu0 hu1; have hsh:=Qn hu0
    obtain ⟨top,htop⟩:∃ top,top = us.getD (j + vs.length) 0 * BB + us.getD (j + vs.length - 1) 0:=⟨_,rfl⟩
    have hor:=(xH (a:=us.getD (j + vs.length) 0) hu1).trans htop.symm
    rw [← htop] at htp ht64
    have hu2b:=hu2
    simp only [BB] at hu0 hu1 hu2
    refine oE (E':=[(8,_),(9,_),(10,_),(11,_),(12,_),(13,_),(69,_),(70,_)]) (aQ rfl (aQ rfl (aQ rfl (aQ rfl (aQ rfl (aZ rfl (aS (show ((j + 1:Nat):Int) - 1 = (j:Int) by omega)) (zS rfl))))))) (cU (cK (eG (cK (fZ (m:=16) (dp 11 rfl (cX (Ht rfl)) (dp 13 rfl (cX (Ht rfl)) (dp 8 rfl (cX (Ht rfl)) (fA 74 1 75 2 rfl (dV (Ht rfl) (Ht rfl) z6) (fA 73 0 76 3 rfl (fY U_28 Z_24 (Ht rfl) (Ht rfl) rfl zo (by rw [Nat.mul_one,Nat.zero_add])) ?_))))))))))
    refine dq 77 4 rfl (eY A_24 Z_24 (Ht rfl) (i:=0) rfl (dY (aR zo))) (dq 78 5 rfl (gZ U_24 U_274 (Ht rfl) z7) (dq 79 6 rfl (pZ (Ht rfl) (cJ 32) (by decide) hsh) (dp 11 rfl (cX (Ht rfl)) (dp 13 rfl (cX (Ht rfl)) (dp 8 rfl (cX (Ht rfl)) (fA 82 9 83 10 rfl (dV (Ht rfl) (Ht rfl) z6) (dq 84 11 rfl (dW (Ht rfl) (cJ 1) zo z6) ?_)))))))
    refine fA 81 8 85 12 rfl (fY U_28 Z_24 (Ht rfl) (Ht rfl) rfl zo (by rw [Nat.mul_one,Nat.zero_add])) ?_
    refine dq 86 13 rfl (eY A_24 Z_24 (Ht rfl) (i:=0) rfl (dY (aR zo))) (dq 87 14 rfl (gZ U_24 U_274 (Ht rfl) z7) (fV mixed rfl (by kernel_rfl) (zF (zF (zF (zF (aV (ro rfl (aF.nat (qS rfl (Ht rfl) (Ht rfl) z7 z7) hor) ?_))))))))
    refine ra rfl (eX (cK (fZ (m:=17) (dp 14 rfl (cX (Ht rfl)) (dp 10 rfl (cX (Ht rfl)) (dp 8 rfl (cX (Ht rfl)) (dq 92 2 rfl (dW (Ht rfl) (cJ 1) zo z6) (fA 91 1 93 3 rfl (dZ U_28 Z_24 (Ht rfl) (Ht rfl) rfl (dY (aR zo))) (dq 94 4 rfl (dJ A_24 Z_24 (Ht rfl)) (dq 95 5 rfl (gZ U_24 U_274 (Ht rfl) z7) ?_))))))))))
    refine fA 90 0 96 6 rfl (pY (Ht rfl) (Ht rfl) zo (by show _ < 18446744073709551616; exact ht64)) (dp 14 rfl (cX (Ht rfl)) (dp 10 rfl (cX (Ht rfl)) (dp 8 rfl (cX (Ht rfl)) (dq 100 10 rfl (dW (Ht rfl) (cJ 1) zo z6) (fA 99 9 101 11 rfl (dZ U_28 Z_24 (Ht rfl) (Ht rfl) rfl (dY (aR zo))) (dq 102 12 rfl (dJ A_24 Z_24 (Ht rfl)) (dq 103 13 rfl (gZ U_24 U_274 (Ht rfl) z7) ?_)))))))
    refine fA 98 8 104 14 rfl (nY (Ht rfl) (Ht rfl) zo) (dq 97 7 rfl (cQ (Ht rfl)) (fV mixed rfl (by kernel_rfl) (zF (zF (zF (zF (aJ (aV (ra rfl (eX (cK (jZ (fun (g:Nat)=>En (val (us.drop j)) (val vs) g) (fun (g:Nat)=>[(8,NT .i64 vs.length),(9,NT .i64 s),(10,uQ vs),(11,Is (.slice (some ⟨B55,0,none⟩) ((dg m).length + 1) ((dg m).length + 1))),(12,Is (.slice (some ⟨B65,0,none⟩) ((dg m).length + 1 - (dg n).length) ((dg m).length + 1 - (dg n).length))),(13,NT .i64 j),(15,NT .u64 g)]) (fun (g:Nat)=>[box B55 24 (us.map bH),box B65 24 (qs.map bH)]) ?_ (fun g hg=>?_)))))))))))))
    ·refine eG ?_
     refine fM (fun (g : Nat) (r : Nat) => iV (val (us.drop j)) (val vs) (vs.getD (vs.length - 1) 0) top g r ∧ r < 4294967296) (fun (g : Nat) (r : Nat) => g) (fun (g : Nat) (r : Nat) => [(8, NT .i64 vs.length), (9, NT .i64 s), (10, uQ vs), (11, Is (.slice (some ⟨B55, 0, none⟩) ((dg m).length + 1) ((dg m).length + 1))), (12, Is (.slice (some ⟨B65, 0, none⟩) ((dg m).length + 1 - (dg n).length) ((dg m).length + 1 - (dg n).length))), (13, NT .i64 j), (15, NT .u64 g), (16, NT .u64 r)]) (fun (g : Nat) (r : Nat) => [box B55 24 (us.map bH), box B65 24 (qs.map bH)]) (top / vs.getD (vs.length - 1) 0) (top % vs.getD (vs.length - 1) 0) ⟨iV.start hnr htp, Nat.lt_trans (Nat.mod_lt _ zo) hv1⟩
      (zS rfl) (dL.refl _) (fun g r ⟨hG,hr⟩=>?_)
     have hgl:=(hG.glt hnr htp).1
     have hrs:=Qn (a:=r) hr
     have horr:=xH (a:=r) hu2b
     simp only [BB] at hgl
     refine cK (cK (fZ (m:=22) (dp 15 rfl (cX (Ht rfl)) (dq 106 0 rfl (pW (Ht rfl) (cJ 4294967296)) (dq 107 1 rfl (cX (Ht rfl)) (C.D_step (Ei:=[(15,_),(108,_)]) rfl rfl (bV (bK rfl rfl) (bV (bG 2 rfl rfl) bW)) (eK rfl rfl (Ht rfl) (fun h=>cX (Ht rfl))) (C.D_step (Ei:=[(10,_),(108,_)]) rfl rfl (bV (bK rfl rfl) (bV (bG 2 rfl rfl) bW)) (eK rfl rfl (Ht rfl) (fun h=>cX (Ht rfl))) (C.D_step (Ei:=[(8,_),(108,_)]) rfl rfl (bV (bK rfl rfl) (bV (bG 2 rfl rfl) bW)) (eK rfl rfl (Ht rfl) (fun h=>cX (Ht rfl))) ?_))))))))
     refine C.D_step (Ei:=[(111,_),(108,_)]) rfl rfl (bV (bG 5 rfl rfl) (bV (bG 2 rfl rfl) bW)) (eK rfl rfl (Ht rfl) (fun h=>dW (fJ rfl h) (cJ 2) (by first | omega | (simp at h; omega)) (by show _ < 9223372036854775808; first | omega | (simp at h; omega)))) (C.D_step (Ei:=[(110,_),(112,_),(108,_)]) rfl rfl (bV (bG 4 rfl rfl) (bV (bG 6 rfl rfl) (bV (bG 2 rfl rfl) bW))) (eK rfl rfl (Ht rfl) (fun h=>dZ U_28 Z_24 (fJ rfl h) (fJ rfl h) rfl (dY (aR (by first | omega | (simp at h; omega)))))) ?_)
     refine C.D_step (Ei:=[(113,_),(108,_)]) rfl rfl (bV (bG 7 rfl rfl) (bV (bG 2 rfl rfl) bW)) (eK rfl rfl (Ht rfl) (fun h=>dJ A_24 Z_24 (fJ rfl h))) (C.D_step (Ei:=[(114,_),(108,_)]) rfl rfl (bV (bG 8 rfl rfl) (bV (bG 2 rfl rfl) bW)) (eK rfl rfl (Ht rfl) (fun h=>gZ U_24 U_274 (fJ rfl h) (by show _ < 18446744073709551616; first | omega | (simp at h; omega)))) (C.D_step (Ei:=[(109,_),(115,_),(108,_)]) rfl rfl (bV (bG 3 rfl rfl) (bV (bG 9 rfl rfl) (bV (bG 2 rfl rfl) bW))) (eK rfl rfl (Ht rfl) (fun h=>kY (fJ rfl h) (fJ rfl h) (by show _ < 18446744073709551616; simp at h; exact Vi h hv2))) ?_))
     refine C.D_step (Ei:=[(16,_),(108,_)]) rfl rfl (bV (bK rfl rfl) (bV (bG 2 rfl rfl) bW)) (eK rfl rfl (Ht rfl) (fun h=>cX (Ht rfl))) (C.D_step (Ei:=[(117,_),(108,_)]) rfl rfl (bV (bG 11 rfl rfl) (bV (bG 2 rfl rfl) bW)) (eK rfl rfl (Ht rfl) (fun h=>pZ (fJ rfl h) (cJ 32) (by decide) hrs)) (C.D_step (Ei:=[(11,_),(108,_)]) rfl rfl (bV (bK rfl rfl) (bV (bG 2 rfl rfl) bW)) (eK rfl rfl (Ht rfl) (fun h=>cX (Ht rfl))) (C.D_step (Ei:=[(13,_),(108,_)]) rfl rfl (bV (bK rfl rfl) (bV (bG 2 rfl rfl) bW)) (eK rfl rfl (Ht rfl) (fun h=>cX (Ht rfl))) ?_)))
     refine C.D_step (Ei:=[(8,_),(108,_)]) rfl rfl (bV (bK rfl rfl) (bV (bG 2 rfl rfl) bW)) (eK rfl rfl (Ht rfl) (fun h=>cX (Ht rfl))) (C.D_step (Ei:=[(120,_),(121,_),(108,_)]) rfl rfl (bV (bG 14 rfl rfl) (bV (bG 15 rfl rfl) (bV (bG 2 rfl rfl) bW))) (eK rfl rfl (Ht rfl) (fun h=>dV (fJ rfl h) (fJ rfl h) (by show _ < 9223372036854775808; first | omega | (simp at h; omega)))) (C.D_step (Ei:=[(122,_),(108,_)]) rfl rfl (bV (bG 16 rfl rfl) (bV (bG 2 rfl rfl) bW)) (eK rfl rfl (Ht rfl) (fun h=>dW (fJ rfl h) (cJ 2) (by first | omega | (simp at h; omega)) (by show _ < 9223372036854775808; first | omega | (simp at h; omega)))) ?_))
     refine C.D_step (Ei:=[(119,_),(123,_),(108,_)]) rfl rfl (bV (bG 13 rfl rfl) (bV (bG 17 rfl rfl) (bV (bG 2 rfl rfl) bW))) (eK rfl rfl (Ht rfl) (fun h=>fY U_28 Z_24 (fJ rfl h) (fJ rfl h) rfl (by first | omega | (simp at h; omega)) (by rw [Nat.mul_one,Nat.zero_add]))) ?_
     refine C.D_step (Ei:=[(124,_),(108,_)]) rfl rfl (bV (bG 18 rfl rfl) (bV (bG 2 rfl rfl) bW)) (eK rfl rfl (Ht rfl) (fun h=>eY A_24 Z_24 (fJ rfl h) (i:=0) rfl (dY (aR zo)))) (C.D_step (Ei:=[(125,_),(108,_)]) rfl rfl (bV (bG 19 rfl rfl) (bV (bG 2 rfl rfl) bW)) (eK rfl rfl (Ht rfl) (fun h=>gZ U_24 U_274 (fJ rfl h) (by show _ < 18446744073709551616; first | omega | (simp at h; omega)))) (C.D_step (Ei:=[(118,_),(126,_),(108,_)]) rfl rfl (bV (bG 12 rfl rfl) (bV (bG 20 rfl rfl) (bV (bG 2 rfl rfl) bW))) (eK rfl rfl (Ht rfl) (fun h=>aF.nat (qS rfl (fJ rfl h) (fJ rfl h) (by show _ < 18446744073709551616; first | omega | (simp at h; omega)) (by show _ < 18446744073709551616; first | omega | (simp at h; omega))) horr)) ?_))
     refine fV mixed rfl (by kernel_rfl) (zF (zF (zF (zF (zF (aJ (aJ (aV (fQ rfl rfl (eK rfl rfl (Ht rfl) (fun h=>iB (fJ rfl h) (fJ rfl h))) (ro rfl (gH (Ht rfl) (fun h=>(fJ rfl h))) (eX (dQ (Ht rfl) (fun hc=>?_) (fun hc=>?_)))))))))))))
     ·have hn2 := hG.next hnr htp (by simpa [BB] using hc)
      have hg1:=hn2.2
      refine cU (eG (ts (rm rfl (ro rfl (dW (Ht rfl) (cJ 1) zo z7) (ra rfl (eX (ts (rm rfl (rm rfl (rm rfl (ro rfl (dW (Ht rfl) (cJ 1) zo z6) (ro rfl (dZ U_28 Z_24 (Ht rfl) (Ht rfl) rfl (dY (aR zo))) (ro rfl (dJ A_24 Z_24 (Ht rfl)) (ro rfl (gZ U_24 U_274 (Ht rfl) z7) ?_))))))))))))))
      refine ro rfl (dV (Ht rfl) (Ht rfl) z7) (ra rfl (eX (ts (rm rfl (ro rfl (pW (Ht rfl) (cJ 4294967296)) (eX (dQ (Ht rfl) (fun hr2=>?_) (fun hr2=>?_))))))))
      ·simp at hr2
       refine gV rfl (bB (g - 1) (hn2.1.stop hnr htp hr2) (zS rfl) (dL.refl _))
      ·simp at hr2
       refine cU (cA (fU (g - 1,_) ⟨hn2.1,hr2⟩ (by dsimp only; omega) (zS rfl) (dL.refl _)))
     ·simp at hc
      refine gV rfl (bB g (hG.done hnr htp hc.1 hc.2) (zS rfl) (dL.refl _))
    ·have hglt := hg.lt
     simp only [BB] at hglt
     refine cK (pE (fun (us2:List Nat) (g2:Nat)=>kL (m * 2 ^ s) vs us2 (qs.set j g2) j ∧ g2 < 4294967296 ∧ us2.length = (dg m).length + 1) (fun (us2:List Nat) (g2:Nat)=>[(8,NT .i64 vs.length),(9,NT .i64 s),(10,uQ vs),(11,Is (.slice (some ⟨B55,0,none⟩) ((dg m).length + 1) ((dg m).length + 1))),(12,Is (.slice (some ⟨B65,0,none⟩) ((dg m).length + 1 - (dg n).length) ((dg m).length + 1 - (dg n).length))),(13,NT .i64 j),(15,NT .u64 g2)]) (fun (us2:List Nat) (g2:Nat)=>[box B55 24 (us2.map bH),box B65 24 (qs.map bH)]) ?_ (fun us2 g2 ⟨hD,hg2,hus2⟩=>?_))
     ·refine ts (rm rfl (rm rfl (rm rfl (rm rfl (Ce Tryz.call252 (Rx hus hS.dig hv hg.lt zo zo) (i := 0) rfl ⟨(Ht rfl), (Ht rfl), (Ht rfl), (Ht rfl), trivial⟩ rfl (fun ⟨out, b⟩ hT => ?_))))))
      dsimp only at hT
      refine eX (dQ (Ht rfl) (fun hbb=>?_) (fun hbb=>?_))
      ·have hbb : b = true := hbb
       subst hbb
       have hg0:=hS.gpos hv rfl zo hT
       have hol:=hT.len
       refine ts (rm rfl (ro rfl (dW (Ht rfl) (cJ 1) zo z7) (ra rfl (eX (ts (ro rfl (cQ (cJ 0)) (eX (cK (ts (rm rfl (ro rfl (dG U_28 (Ht rfl) aA) (ro rfl (cX (cJ 0)) (eX (eG ?_))))))))))))))
       refine lW (fun (i : Nat) (out2 : List Nat) (c : Nat) => oZ out vs j out2 i c) (fun (i : Nat) (out2 : List Nat) (c : Nat) => vs.length - i) (fun (i : Nat) (out2 : List Nat) (c : Nat) => [(8, NT .i64 vs.length), (9, NT .i64 s), (10, uQ vs), (11, Is (.slice (some ⟨B55, 0, none⟩) ((dg m).length + 1) ((dg m).length + 1))), (12, Is (.slice (some ⟨B65, 0, none⟩) ((dg m).length + 1 - (dg n).length) ((dg m).length + 1 - (dg n).length))), (13, NT .i64 j), (15, NT .u64 (g - 1 : Nat)), (17, NT .u64 c), (149, uQ vs), (150, NT .i64 vs.length), (151, NT .i64 i)]) (fun (i : Nat) (out2 : List Nat) (c : Nat) => [box B55 24 (out2.map bH), box B65 24 (qs.map bH)]) 0 out 0 (oZ.start hT.dig vs j)
        (zS rfl) (dL.refl _) (fun i out2 c hB=>?_)
       refine ts (ro rfl (gX (Ht rfl) (Ht rfl)) (eX (cK (dQ (Ht rfl) (fun hi=>?_) (fun hi=>?_)))))
       ·simp at hi
        have hlen:=hB.len; have hcl:=hB.cle; have hvi:=aP hv i; have hok:=aP hB.dig (i + j)
        simp only [BB] at hvi hok
        refine cU (cK (eG (ts (rm rfl (ro rfl (dZ U_28 Z_24 (Ht rfl) (Ht rfl) rfl (dY (aR zo))) (ro rfl (dJ A_24 Z_24 (Ht rfl)) (ra rfl (ra rfl (eX (ts (rm rfl (rm rfl (rm rfl (rm rfl (ro rfl (dV (Ht rfl) (Ht rfl) z6) (ro rfl (fY U_28 Z_24 (Ht rfl) (Ht rfl) rfl zo (by rw [Nat.mul_one,Nat.zero_add])) ?_))))))))))))))))
        refine ro rfl (eY A_24 Z_24 (Ht rfl) (i:=0) rfl (dY (aR zo))) (ro rfl (gZ U_24 U_274 (Ht rfl) z7) (rm rfl (ro rfl (gZ U_24 U_274 (Ht rfl) z7) (ro rfl (dV (Ht rfl) (Ht rfl) z7) (ro rfl (dV (Ht rfl) (Ht rfl) z7) ?_)))))
        refine ra rfl (eX (ts (rm rfl (rm rfl (rm rfl (ro rfl (dV (Ht rfl) (Ht rfl) z6) (rm rfl (ro rfl (gS rfl U_274 U_24 (Ht rfl)) (ro rfl (fY U_28 Z_24 (Ht rfl) (Ht rfl) rfl zo (by rw [Nat.mul_one,Nat.zero_add])) ?_)))))))))
        refine lT Z_24 (Ht rfl) (Ht rfl) (i:=0) rfl (by first | omega | (simp; omega)) rfl (eX (cY (rm rfl (ro rfl (fF (Ht rfl) (cJ 32) (by decide)) (ra rfl (eX (cA (cY (ro rfl (dV (Ht rfl) (cJ 1) z6) (rm rfl (eX (fU (i + 1,_,_) (hB.next hv hi zo rfl) (by dsimp only; omega) (zS rfl) (aU (aI (gI _ _ _)) (aU (fun _ _ _ h=>h) aY))))))))))))))
       ·simp at hi
        have hil:i = vs.length:=Nat.le_antisymm hB.ile hi
        subst hil
        have hlen:=hB.len; have hcl:=hB.cle; have hok:=aP hB.dig (j + vs.length)
        have hBk:=hB.fin zo rfl
        obtain ⟨_,hDn⟩:=hS.wrong hv hV0 (Nat.succ_pos j) rfl hg hT hBk
        simp only [BB] at hok
        refine gV rfl (cY (rm rfl (rm rfl (rm rfl (ro rfl (dV (Ht rfl) (Ht rfl) z6) (ro rfl (fY U_28 Z_24 (Ht rfl) (Ht rfl) rfl zo (by rw [Nat.mul_one,Nat.zero_add])) ?_))))))
        refine ro rfl (eY A_24 Z_24 (Ht rfl) (i:=0) rfl (dY (aR zo))) (rm rfl (ro rfl (gZ U_274 U_24 (Ht rfl) (by show _ < 4294967296; first | omega | (simp only [jF]; omega))) (ro rfl (Nv rfl (Ht rfl) (Ht rfl)) (ro rfl (fY U_28 Z_24 (Ht rfl) (Ht rfl) rfl zo (by rw [Nat.mul_one,Nat.zero_add])) ?_))))
        refine lT Z_24 (Ht rfl) (Ht rfl) (i:=0) rfl (by first | omega | (simp; omega)) rfl (eX (bB (_,g - 1) ⟨hDn,by dsimp only; omega,by simp; omega⟩ (zS rfl) (aU (aI (gI _ _ _)) (aU (fun _ _ _ h=>h) aY))))
      ·have hbb : b = false := hbb
       subst hbb
       have hol:=hT.len
       refine cU (bB (out,g) ⟨hS.right hv hV0 (Nat.succ_pos j) rfl hg hT,hglt,by dsimp only; omega⟩ (zS rfl) (dL.refl _))
     ·refine cY (rm rfl (rm rfl (rm rfl (ro rfl (gZ U_274 U_24 (Ht rfl) (by show _ < 4294967296; first | omega | (simp only [jF]; omega))) (ro rfl (fY U_28 Z_24 (Ht rfl) (Ht rfl) rfl zo (by rw [Nat.mul_one, Nat.zero_add])) ?_)))))
      refine lT Z_24 (Ht rfl) (Ht rfl) (i:=1) rfl (by first | omega | (simp; omega)) rfl (eX (cA (cY (rm rfl (ro rfl (gT (Ht rfl) cV (sX zo)) (ra rfl (eX (fU (j,us2,_) ⟨hD,hus2⟩ (by dsimp only; omega) (zS rfl) (aU (fun _ _ _ h=>h) (aU (aI (gI _ _ _)) aY))))))))))
   ·simp at hk
    have hk0:k = 0:=by omega
    subst hk0
    have hfin:=hS.fin hV0
    have hlq:=hS.lenq
    rw [hvv] at hfin
    have hdiv:val qs = m / n:=by rw [hfin.1]; exact Nat.mul_div_mul_right _ _ hp2
    have hsm:val us < BB ^ vs.length:=by have h1:=hS.small; rw [List.drop_zero] at h1; exact Nat.lt_trans h1 (fT hv)
    have hmod : val (us.take vs.length) / 2 ^ s = m % n := by
     rw [qF hsm zo,hfin.2,Nat.mul_mod_mul_right,Nat.mul_div_cancel _ hp2]
    have hru : (dg (val (us.take vs.length))).length ≤ 17592186044416 := by
     refine Nat.le_trans (gB (k:=vs.length) ?_) zo
     rw [qF hsm zo]; exact hsm
    refine gV rfl (gJ (i:=1) (tt:=12) rfl rfl (mZ rfl zo (Nat.le_refl _)) (gJ (i:=0) (tt:=11) rfl rfl (mZ rfl zo (Nat.le_refl _)) (cK (fZ (m:=7) (dp 12 rfl (cX (Ht rfl)) (dq 193 0 rfl (cZ K_203 (lY _ hS.digq zo) ⟨(Ht rfl),trivial⟩) (dp 11 rfl (cX (Ht rfl)) (dp 8 rfl (cX (Ht rfl)) (fA 195 2 196 3 rfl (aF.imp (vR U_28 Z_24 (Ht rfl) (Ht rfl) (fun m e=>by cases e) zo (by simp; omega) rfl) (Mx _ _)) ?_)))))))))
    refine dq 197 4 rfl (cZ K_203 (lY _ (hS.dig.take' vs.length) (by simp; omega)) ⟨(Ht rfl),trivial⟩) ?_
    refine dp 9 rfl (cX (Ht rfl)) (fV mixed rfl (by kernel_rfl) (zF (aJ (aJ (aJ (aV (ro rfl (cZ Tryz.call253 (Va hru zo) ⟨(Ht rfl),(Ht rfl),trivial⟩) (ra rfl (ra rfl (eX (cB rfl (fX (eU rfl) ?_) (fX (eU rfl) ?_))))))))))))
    ·exact (dI hdiv)
    ·exact (dI hmod)
end
section
open Go Go.RowKit
theorem Sj:Tryz.prog.info? 5 = some Tryz.t5:=by kernel_rfl
theorem Eg:Tryz.prog.underlying 341 = some (.slice 5):=by kernel_rfl
theorem Wa:Tryz.prog.underlying 5 = some (.int .u8):=by kernel_rfl
theorem Wb:Tryz.prog.underlying 9 = some (.string):=by kernel_rfl
end
section
open Go Go.RowKit
theorem Qa {m n:Nat} (hm:(dg m).length ≤ 17592186044415) (hn:(dg n).length ≤ 17592186044415):bE Tryz.prog 200 [aH m,aH n] (aH (Nat.gcd m n)):=by
 refine bE.intro Tryz.func200 rfl Tryz.ntmps200 rfl (fun cx=>(ts (ro rfl (cQ cV) (eX (cK (eG ?_))))))
 refine fM (fun (x : Nat) (y : Nat) => Nat.gcd x y = Nat.gcd m n ∧ (dg x).length ≤ 17592186044415 ∧ (dg y).length ≤ 17592186044415) (fun (x : Nat) (y : Nat) => y) (fun (x : Nat) (y : Nat) => [(0, aH x), (1, aH y)]) (fun (x : Nat) (y : Nat) => []) m n ⟨rfl, hm, hn⟩
  (zS rfl) aY (fun x y ⟨hg,hx,hy⟩=>?_)
 refine cK (ts (rm rfl (ro rfl (dG U_28 (Ht rfl) aA) (ro rfl (iB (Ht rfl) (cJ 0)) (eX (dQ (Ht rfl) (fun hb=>?_) (fun hb=>?_)))))))
 ·simp at hb
  have hy0:y ≠ 0:=fun e=>by rw [e,cO] at hb; simp at hb
  have hlt:=Nat.mod_lt x (Nat.pos_of_ne_zero hy0)
  refine cU (eG (ts (rm rfl (rm rfl (ro rfl (cZ Tryz.call202 (Ct hx zo hy0) ⟨(Ht rfl),(Ht rfl),trivial⟩) (rm rfl (ro rfl (dK (Ht rfl) rfl) (ro rfl (dK (Ht rfl) rfl) (ra rfl (ra rfl (eX (cY (rm rfl (rm rfl (ra rfl (ra rfl (eX (cA (fU (y,x % y) ⟨by rw [← hg,Nat.gcd_comm x y,Nat.gcd_rec y x,Nat.gcd_comm],hy,Nat.le_trans (iD (Nat.le_of_lt hlt)) hy⟩ hlt (zS rfl) aY)))))))))))))))))))
 ·simp at hb
  have hy0:y = 0:=aO.1 (by simpa using hb)
  subst hy0
  rw [Nat.gcd_zero_right] at hg
  refine gV rfl (ts (rm rfl (ra rfl (eX (fW rfl (fX (eU rfl) ?_))))))
  exact (dI hg)
theorem Uz {l:List Nat} {v:Value} (hl:l.length ≤ 1152921504606846976):iF Tryz.prog 283 [Is v] [bA 5 1 v (l.map uT)] Unit (fun _=>jV) (fun _=>[bA 5 1 v (l.reverse.map uT)]) (fun _=>True):=by
 refine iF.intro Tryz.func283 rfl Tryz.ntmps283 rfl (fun cx Z=>(ts (rm rfl (ro rfl (pX U_341 (Ht rfl) (i:=1) rfl aA) (ro rfl (gT (Ht rfl) cV (sX zo)) (ro rfl (cQ (cJ 0)) (ra rfl (eX (eG ?_)))))))))
 refine fM (fun (k : Nat) (o : List Nat) => wC l o k) (fun (k : Nat) (o : List Nat) => l.length - k) (fun (k : Nat) (o : List Nat) => [(0, Is v), (2, NT .i64 k), (3, aC .i64 ((l.length : Int) - 1 - (k : Int)))]) (fun (k : Nat) (o : List Nat) => [Z, bA 5 1 v (o.map uT)]) 0 l (wC.start l)
  (aQ rfl (aQ rfl (aZ rfl (aS zo) aX))) (dL.refl _) (fun k o hS=>?_)
 refine cK (ts (rm rfl (rm rfl (ro rfl (nE (Ht rfl) (Ht rfl)) (eX (dQ (Ht rfl) (fun hb=>?_) (fun hb=>?_)))))))
 ·simp only [decide_eq_true_eq] at hb
  have hk:2 * k + 1 < l.length:=by omega
  obtain ⟨j,hj⟩:∃ j,j = l.length - 1 - k:=⟨_,rfl⟩
  have hlen:=hS.len
  refine oE (E':=[(0,_),(2,_),(3,_),(7,_),(8,_),(9,_)]) (aQ rfl (aQ rfl (aZ rfl (aS (show (l.length:Int) - 1 - (k:Int) = (j:Int) by omega)) (zS rfl)))) (cU (cK (eG (W.D_start (m:=14) (fun b=>cond b ([Z,bA 5 1 v ((o.map uT).set k (uT (o.getD j 0)))]) _) 13 (W.D_step (Ei:=[(0,_)]) rfl rfl (W.Srcs.cons (W.Src.pre rfl rfl) W.Srcs.nil) rfl (by kernel_rfl) (dX rfl (cX (Ht rfl))) (W.D_step (Ei:=[(2,_)]) rfl rfl (W.Srcs.cons (W.Src.pre rfl rfl) W.Srcs.nil) rfl (by kernel_rfl) (dX rfl (cX (Ht rfl))) ?_))))))
  refine W.D_pure (Ei:=[(0,_)]) rfl rfl (W.Srcs.cons (W.Src.pre rfl rfl) W.Srcs.nil) rfl (fun _=>dX rfl (cX (Ht rfl))) (W.D_pure (Ei:=[(3,_)]) rfl rfl (W.Srcs.cons (W.Src.pre rfl rfl) W.Srcs.nil) rfl (fun _=>dX rfl (cX (Ht rfl))) (W.D_step (Ei:=[(0,_)]) rfl rfl (W.Srcs.cons (W.Src.pre rfl rfl) W.Srcs.nil) rfl (by kernel_rfl) (dX rfl (cX (Ht rfl))) (W.D_step (Ei:=[(3,_)]) rfl rfl (W.Srcs.cons (W.Src.pre rfl rfl) W.Srcs.nil) rfl (by kernel_rfl) (dX rfl (cX (Ht rfl))) (W.D_step (Ei:=[(18,_),(19,_)]) rfl rfl (W.Srcs.cons (W.Src.op 4 rfl rfl) (W.Srcs.cons (W.Src.op 5 rfl rfl) W.Srcs.nil)) rfl (by kernel_rfl) (dX rfl (iC U_341 Z_5 (Ht rfl) (Ht rfl) rfl (i:=1) rfl (by first | omega | (simp; omega)) rfl)) ?_))))
  refine W.D_step (Ei:=[(20,_)]) rfl rfl (W.Srcs.cons (W.Src.op 6 rfl rfl) W.Srcs.nil) rfl (by kernel_rfl) (dX rfl (xF Tryz.isAgg5 Z_5 (Ht rfl) (i:=1) rfl rfl (dY (aR zo)))) (W.D_step (Ei:=[(0,_)]) rfl rfl (W.Srcs.cons (W.Src.pre rfl rfl) W.Srcs.nil) rfl (by kernel_rfl) (dX rfl (cX (Ht rfl))) (W.D_step (Ei:=[(2,_)]) rfl rfl (W.Srcs.cons (W.Src.pre rfl rfl) W.Srcs.nil) rfl (by kernel_rfl) (dX rfl (cX (Ht rfl))) (W.D_step (Ei:=[(22,_),(23,_)]) rfl rfl (W.Srcs.cons (W.Src.op 8 rfl rfl) (W.Srcs.cons (W.Src.op 9 rfl rfl) W.Srcs.nil)) rfl (by kernel_rfl) (dX rfl (iC U_341 Z_5 (Ht rfl) (Ht rfl) rfl (i:=1) rfl (by first | omega | (simp; omega)) rfl)) ?_)))
  refine W.D_step (Ei:=[(24,_)]) rfl rfl (W.Srcs.cons (W.Src.op 10 rfl rfl) W.Srcs.nil) rfl (by kernel_rfl) (dX rfl (xF Tryz.isAgg5 Z_5 (Ht rfl) (i:=1) rfl rfl (dY (aR zo)))) (W.D_step (Ei:=[(14,_),(15,_)]) rfl rfl (W.Srcs.cons (W.Src.op 0 rfl rfl) (W.Srcs.cons (W.Src.op 1 rfl rfl) W.Srcs.nil)) rfl (by kernel_rfl) (dX rfl (iC U_341 Z_5 (Ht rfl) (Ht rfl) rfl (i:=1) rfl (by first | omega | (simp; omega)) rfl)) (W.D_put (Ei:=[(26,_),(21,_)]) rfl rfl (W.Srcs.cons (W.Src.op 12 rfl rfl) (W.Srcs.cons (W.Src.op 7 rfl rfl) W.Srcs.nil)) rfl (Ug Z_5 (Ht rfl) (Ht rfl) El.one (i:=1) rfl rfl (by first | omega | (simp; omega))) ?_))
  refine W.D_done mixed rfl (by kernel_rfl) rfl (W.F_val (W.F_val (W.F_val (W.F_val (W.F_val (W.F_val (W.F_val (W.F_val (W.F_val (W.F_val (W.F_val (W.F_val (W.F_val (W.F_put (W.F_nil (ro rfl (iC U_341 Z_5 (Ht rfl) (Ht rfl) rfl (i:=1) rfl (by first | omega | (simp; omega)) rfl) (rA Z_5 (Ht rfl) (Ht rfl) El.one (i:=1) rfl rfl (by first | omega | (simp; omega)) rfl (eX (cA (cY (rm rfl (ro rfl (dV (Ht rfl) (cJ 1) z6) (rm rfl (ro rfl (gT (Ht rfl) cV (sX zo)) ?_))))))))))))))))))))))))
  refine ra rfl (ra rfl (eX (fU (k + 1,_) (hS.next hk hj) (by dsimp only; omega) (aQ rfl (aQ rfl (aZ rfl (aS zo) aX))) (aU (fun _ _ _ h=>h) (aU (cD (Pn _ _ _ _ _)) aY)))))
 ·simp only [decide_eq_false_iff_not] at hb
  have hfin:=hS.fin (by have:=hS.kle; omega)
  refine gV rfl ?_
  exact Qy () trivial [0,1] ⟨⟨_,rfl,fun _ _ _ h=>h⟩,⟨_,rfl,(cD (by rw [hfin]))⟩,trivial⟩ (by decide) (Wy rfl (fun _=>trivial))
theorem yF {m:Nat} (hm:(dg m).length ≤ 8796093022208):bE Tryz.prog 243 [aH m] (oC (tK m)):=by
 refine bE.intro Tryz.func243 rfl Tryz.ntmps243 rfl (fun cx=>(ts (ro rfl (cQ (aN.cS (l:=[]) rfl)) (eX (cK (ts (rm rfl (ro rfl (dG U_28 (Ht rfl) aA) (ro rfl (fN (Ht rfl) (cJ 0)) (eX (dQ (Ht rfl) (fun hb=>?_) (fun hb=>?_))))))))))))
 ·simp at hb
  have h0:m = 0:=aO.1 (by simpa using hb)
  subst h0
  refine ts (ro rfl (cQ (aN.cS (l:=[48]) rfl)) (eX (fW rfl (fX (eU rfl) ?_))))
  exact (kK rfl)
 ·simp at hb
  have h0:m ≠ 0:=fun e=>hb (by rw [e,cO])
  refine cU (ts (ro rfl (cQ cV) (eX (cK (eG (Gp 5 1 ?_))))))
  refine lW (fun (x : Nat) (out : List Nat) (v : Value) => vZ m out x ∧ x ≤ m) (fun (x : Nat) (out : List Nat) (v : Value) => x) (fun (x : Nat) (out : List Nat) (v : Value) => [(0, aH x), (3, Is v)]) (fun (x : Nat) (out : List Nat) (v : Value) => [bA 5 1 v (out.map uT)]) m [] (.slice none 0 0) ⟨vZ.start m, Nat.le_refl m⟩
   (zS rfl) (dL.refl _) (fun x out v ⟨hO,hle⟩=>?_)
  refine cK (ts (rm rfl (ro rfl (dG U_28 (Ht rfl) aA) (ro rfl (iB (Ht rfl) (cJ 0)) (eX (dQ (Ht rfl) (fun hc=>?_) (fun hc=>?_)))))))
  ·simp at hc
   have hx0:x ≠ 0:=fun e=>by rw [e,cO] at hc; simp at hc
   have hxm:=iD hle
   refine cU (eG (ts (ro rfl (cQ (cJ 0)) (eX (ts (rm rfl (ro rfl (cZ Tryz.call250 (Cv zo (by decide) (by decide)) ⟨(Ht rfl),(cJ 1000000000),trivial⟩) (rm rfl (ro rfl (dK (Ht rfl) rfl) (ro rfl (dK (Ht rfl) rfl) (ra rfl (ra rfl (eX (ts (ro rfl (cQ (cJ 0)) (eX (eG ?_)))))))))))))))))
   refine Cg (fun (r : Nat) (k : Nat) (out : List Nat) (v : Value) => tB m out (x / 1000000000) r k) (fun (r : Nat) (k : Nat) (out : List Nat) (v : Value) => 9 - k) (fun (r : Nat) (k : Nat) (out : List Nat) (v : Value) => [(0, aH (x / 1000000000)), (3, Is v), (4, bH r), (5, NT .i64 k)]) (fun (r : Nat) (k : Nat) (out : List Nat) (v : Value) => [bA 5 1 v (out.map uT)]) (x % 1000000000) 0 out v (hO.inner)
    (zS rfl) (dL.refl _) (fun r k out v hI=>?_)
   refine cK (ts (rm rfl (ro rfl (gX (Ht rfl) (cJ 9)) (rm rfl (fQ rfl rfl (pC rfl rfl (Ht rfl) (fun h=>cX (Ht rfl))) (fQ rfl rfl (pC rfl rfl (Ht rfl) (fun h=>dG U_28 (aN.wu rfl h) aA)) (fQ rfl rfl (pC rfl rfl (Ht rfl) (fun h=>iB (aN.wu rfl h) (cJ 0))) (fQ rfl rfl (pC rfl rfl (Ht rfl) (fun h=>cX (aN.wu rfl h))) (fQ rfl rfl (Cf rfl rfl rfl (fun h h2=>cX (Ht rfl))) (fQ rfl rfl (Cf rfl rfl rfl (fun h h2=>iB (aN.wu rfl ⟨h,h2⟩) (cJ 0))) (fQ rfl rfl (pC rfl rfl (Ht rfl) (fun h=>gH (aN.wu rfl h) (fun h2=>(aN.wu rfl ⟨h,h2⟩)))) ?_)))))))))))
   refine ro rfl (eS (Ht rfl) (fun h=>(aN.wu rfl h))) (eX (dQ (Ht rfl) (fun hd=>?_) (fun hd=>?_)))
   ·simp at hd
    have hxr:0 < x / 1000000000 ∨ 0 < r:=hd.2.imp (fun h=>Nat.pos_of_ne_zero (fun e=>by rw [e,cO] at h; simp at h)) id
    have hln:=hI.len hxr
    have hr32:=hI.r32
    refine cU (cK (eG (ts (rm rfl (rm rfl (ro rfl (nY (Ht rfl) (cJ 10) zo) (ro rfl (dV (cJ 48) (Ht rfl) (by show _ < 4294967296; first | omega | (simp only [jF]; omega))) (ro rfl (gZ U_24 U_5 (Ht rfl) (by show _ < 256; first | omega | (simp only [jF]; omega))) (ro rfl (dA (xs:=[.tmp 34]) U_341 Z_5 Tryz.zeroValue5 (cW (Ht rfl) cG) rfl rfl rfl) (xV (inf:=Tryz.t5) Eg Sj rfl rfl rfl (Ht rfl) (Ht rfl) (i:=0) rfl (by simp) (fun T hT=>by simp at hT; subst hT; exact El.one) (by show _ * 1 ≤ _; simp only [List.length_map,List.length_cons,List.length_nil]; omega) (by simp only [List.length_map,List.length_cons,List.length_nil]; omega) rfl (fun v2=>?_)))))))))))
    refine ra rfl (eX (cY (rm rfl (ro rfl (pY (Ht rfl) (cJ 10) zo (by show _ < 4294967296; first | omega | (simp only [jF]; omega))) (ra rfl (eX (cA (cY (rm rfl (ro rfl (dV (Ht rfl) (cJ 1) z6) (ra rfl (eX (fU (r / 10,k + 1,_,v2) (hI.next hd.1 hxr) (by dsimp only; omega) (zS rfl) (aU (cD (Tw _ _)) aY))))))))))))))
   ·simp at hd
    have hO2 := hI.fin (fun ⟨h1, h2⟩ => by
     have h3:=hd h1
     rcases h2 with h2 | h2
     ·have:=qO.1 h3.1; omega
     ·omega)
    refine gV rfl (cA (fU (x / 1000000000,_,_) ⟨hO2,Nat.le_trans (Nat.div_le_self _ _) hle⟩ (Nat.div_lt_self (Nat.pos_of_ne_zero hx0) (by decide)) (zS rfl) (dL.refl _)))
  ·simp at hc
   have hx0:x = 0:=aO.1 (by simpa using hc)
   subst hx0
   have hfin:=hO.fin
   have hdl:=mT m
   rw [hfin] at hdl
   refine gV rfl (ts (rm rfl (Ce Tryz.call283 (Uz zo) (i:=0) rfl ⟨(Ht rfl),trivial⟩ rfl (fun _ _=>(eX (cK (gJ (i:=0) (tt:=3) rfl rfl lZ (cY (rm rfl (ro rfl (Jk Eg Wa Wb (Ht rfl) (by rw [← hfin]; simpa using Mw h0) (fun b hb=>Sc (n:=m) b (by rw [sI h0,hfin]; exact hb))) ?_))))))))))
   refine ra rfl (eX (fW rfl (fX (eU rfl) ?_)))
   exact (kK (by rw [sI h0,hfin]))
end
section
open Go Go.RowKit
theorem oM {n : Nat} {E : bC} {H : Hp} {d : Option Tmp} {t : TypeId} {pos : String} {af : Array Edge} {g : Option (Nat × Bool)} {x0 x1 : Operand} {T0 T1 : Ty} [s0 : bN T0 1 false] (h0 : aN E x0 T0) [s1 : bN T1 1 false] (h1 : aN E x1 T1) :
  aF Tryz.prog n E H ⟨d,.build 30 #[(0,x0),(1,x1)],t,pos,af,g⟩ (dO [T0,T1]) :=
 fE (parts := [(0, x0), (1, x1)]) fun a V w hs => by
  have p0:=h0 n V a hs
  generalize e0:a.eval x0 = v0 at p0
  have q0:=(s0.ok v0 V p0).2.2 rfl
  have p1:=h1 n V a hs
  generalize e1:a.eval x1 = v1 at p1
  have q1:=(s1.ok v1 V p1).2.2 rfl
  refine ⟨.agg #[v0,v1],?_,[v0,v1],rfl,aW (⟨p0,q0⟩) (aW (⟨p1,q1⟩) (aG))⟩
  simp [e0,e1,Instr.build,Instr.fill,Sem.run_bind,Result.andThen,dM,q0.cells,q1.cells,O_30,U_30,Z_4,Z_28]
theorem iA (a:Addr) (w:World):(Instr.fieldAt 30 (.pointer (some a)) 0).run Tryz.prog w = .ok (.pointer (some (a.add 0))) w:=by
 simp [Instr.fieldAt,Instr.sureAddr,fieldPlace,Sem.run_bind,Result.andThen,U_30,Z_4]
theorem cC (a:Addr) (w:World):(Instr.fieldAt 30 (.pointer (some a)) 1).run Tryz.prog w = .ok (.pointer (some (a.add 1))) w:=by
 simp [Instr.fieldAt,Instr.sureAddr,fieldPlace,Sem.run_bind,Result.andThen,U_30,Z_28]
end
section
open Go Go.RowKit
theorem wQ {n:Int} (h1:-9223372036854775808 ≤ n) (h2:n ≤ 9223372036854775807):bE Tryz.prog 115 [aC .i64 n] (fH n):=by
 refine bE.intro Tryz.func115 rfl Tryz.ntmps115 rfl (fun cx=>(ts (rn rfl (eW (Ts:=[Is (.bool false),Is (.slice none 0 0)]) O_30 rfl (fun V=>aW zd (aW zd (aG)))) fun B2=>(eX (cK (ts (rm rfl (ro rfl (nE (Ht rfl) cV) (eX (dQ (Ht rfl) (fun hb=>?_) (fun hb=>?_)))))))))))
 ·have hn : n < 0 := by simpa using hb
  refine ts (rm rfl (ro rfl (sT Tryz.runUnderlying2 U_274 (Ht rfl) (r:=((18446744073709551616 - n.natAbs:Nat):Int)) (by rw [IntKind.wrap_u64]; omega)) ?_))
  refine ro rfl (uF (Ht rfl) (r:=((n.natAbs:Nat):Int)) (by rw [IntKind.wrap_u64]; omega)) ?_
  refine ro rfl (cZ Tryz.call207 (wP zo) ⟨(Ht rfl),trivial⟩) (ro rfl (oM cV (Ht rfl)) (gQ Z_30 (Ht rfl) (Ht rfl) rfl (i:=0) rfl (aK rfl) rfl rfl (eX (fW rfl (fX (fK A_30 Z_30 rfl (i:=0) rfl rfl) ?_)))))
  exact (qH (by rw [hb]; rfl))
 ·have hn : ¬ n < 0 := by simpa using hb
  refine cU (ts (rm rfl (ro rfl (sT Tryz.runUnderlying2 U_274 (Ht rfl) (r:=((n.natAbs:Nat):Int)) (by rw [IntKind.wrap_u64]; omega)) ?_)))
  refine ro rfl (cZ Tryz.call207 (wP zo) ⟨(Ht rfl),trivial⟩) (ro rfl (oM cV (Ht rfl)) (gQ Z_30 (Ht rfl) (Ht rfl) rfl (i:=0) rfl (aK rfl) rfl rfl (eX (fW rfl (fX (fK A_30 Z_30 rfl (i:=0) rfl rfl) ?_)))))
  exact (qH (by rw [hb]; rfl))
theorem jP {b:Bool} {m:Nat}:bE Tryz.prog 197 [aB b,aH m] (fH (xN b m)):=by
 refine bE.intro Tryz.func197 rfl Tryz.ntmps197 rfl (fun cx=>(ts (rn rfl (eW (Ts:=[Is (.bool false),Is (.slice none 0 0)]) O_30 rfl (fun V=>aW zd (aW zd (aG)))) fun B4=>(eX (ts (rm rfl (rm rfl (fQ rfl rfl (eK rfl rfl (Ht rfl) (fun h=>cX (Ht rfl))) (fQ rfl rfl (eK rfl rfl (Ht rfl) (fun h=>dG U_28 (fJ rfl h) aA)) (fQ rfl rfl (eK rfl rfl (Ht rfl) (fun h=>iB (fJ rfl h) (cJ 0))) (ro rfl (eS (Ht rfl) (fun h=>(fJ rfl h))) (rm rfl ?_))))))))))))
 refine ro rfl (oM (Ht rfl) (Ht rfl)) (gQ Z_30 (Ht rfl) (Ht rfl) rfl (i:=0) rfl (aK rfl) rfl rfl (eX (fW rfl (fX (fK A_30 Z_30 rfl (i:=0) rfl rfl) ?_))))
 exact Tl
theorem kP {x:Int}:bE Tryz.prog 107 [fH x] (fH (-x)):=by
 refine bE.intro Tryz.func107 rfl Tryz.ntmps107 rfl (fun cx=>(ts (rn rfl (fG (Ht rfl)) fun B1=>(rn rfl (eW (Ts:=[Is (.bool false),Is (.slice none 0 0)]) O_30 rfl (fun V=>aW zd (aW zd (aG)))) fun B2=>(eX (ts (ro rfl (eZ iA (Ht rfl) rfl) (ro rfl (eY A_4 Z_4 (Ht rfl) (i:=0) rfl rfl) (ro rfl (fR (Ht rfl)) (ro rfl (eZ cC (Ht rfl) rfl) (ro rfl (eY A_28 Z_28 (Ht rfl) (i:=0) rfl rfl) (ro rfl (cZ K_197 jP ⟨(Ht rfl),(Ht rfl),trivial⟩) ?_))))))))))))
 refine gQ Z_30 (Ht rfl) (Ht rfl) rfl (i:=1) rfl (aK rfl) rfl rfl (eX (fW rfl (fX (fK A_30 Z_30 rfl (i:=1) rfl rfl) ?_)))
 exact (lR (Fo x))
theorem qK {x y:Int} (hx:(dg x.natAbs).length ≤ 17592186044416) (hy:(dg y.natAbs).length ≤ 17592186044416):bE Tryz.prog 106 [fH x,fH y] (fH (x + y)):=by
 refine bE.intro Tryz.func106 rfl Tryz.ntmps106 rfl (fun cx=>(ts (rn rfl (fG (Ht rfl)) fun B2=>(rn rfl (fG (Ht rfl)) fun B3=>(rn rfl (eW (Ts:=[Is (.bool false),Is (.slice none 0 0)]) O_30 rfl (fun V=>aW zd (aW zd (aG)))) fun B4=>(eX (cK (ts (ro rfl (eZ iA (Ht rfl) rfl) (ro rfl (eY A_4 Z_4 (Ht rfl) (i:=0) rfl rfl) (ro rfl (eZ iA (Ht rfl) rfl) (ro rfl (eY A_4 Z_4 (Ht rfl) (i:=1) rfl rfl) (ro rfl (Sx U_4 (Ht rfl) (Ht rfl)) ?_)))))))))))))
 refine eX (dQ (Ht rfl) (fun hb=>?_) (fun hb=>?_))
 ·have he : decide (x < 0) = decide (y < 0) := by simpa using hb
  refine cK (fZ (m:=7) (dp 2 rfl (eZ iA (Ht rfl) rfl) (dq 10 0 rfl (eY A_4 Z_4 (Ht rfl) (i:=0) rfl rfl) (dp 2 rfl (eZ cC (Ht rfl) rfl) (dq 12 2 rfl (eY A_28 Z_28 (Ht rfl) (i:=0) rfl rfl) (dp 3 rfl (eZ cC (Ht rfl) rfl) (dq 14 4 rfl (eY A_28 Z_28 (Ht rfl) (i:=1) rfl rfl) (fA 13 3 15 5 rfl (cZ Tryz.call198 (Ux zo zo) ⟨(Ht rfl),(Ht rfl),trivial⟩) (fV mixed rfl (by kernel_rfl) (zF (aJ (aJ (aJ (aV ?_))))))))))))))
  refine ro rfl (cZ K_197 jP ⟨(Ht rfl),(Ht rfl),trivial⟩) (gQ Z_30 (Ht rfl) (Ht rfl) rfl (i:=2) rfl (aK rfl) rfl rfl (eX (fW rfl (fX (fK A_30 Z_30 rfl (i:=2) rfl rfl) ?_))))
  exact (lR (Kt he))
 ·have he : decide (x < 0) ≠ decide (y < 0) := by simpa using hb
  refine cU (cK (ts (ro rfl (eZ cC (Ht rfl) rfl) (ro rfl (eY A_28 Z_28 (Ht rfl) (i:=0) rfl rfl) (ro rfl (eZ cC (Ht rfl) rfl) (ro rfl (eY A_28 Z_28 (Ht rfl) (i:=1) rfl rfl) (ro rfl (cZ Tryz.call129 (Hi zo zo) ⟨(Ht rfl),(Ht rfl),trivial⟩) (ro rfl (lE (Ht rfl) cV) (eX (dQ (Ht rfl) (fun hc=>?_) (fun hc=>?_)))))))))))
  ·have hle : y.natAbs ≤ x.natAbs := Mr (by simpa using hc)
   refine cK (fZ (m:=7) (dp 2 rfl (eZ iA (Ht rfl) rfl) (dq 24 0 rfl (eY A_4 Z_4 (Ht rfl) (i:=0) rfl rfl) (dp 2 rfl (eZ cC (Ht rfl) rfl) (dq 26 2 rfl (eY A_28 Z_28 (Ht rfl) (i:=0) rfl rfl) (dp 3 rfl (eZ cC (Ht rfl) rfl) (dq 28 4 rfl (eY A_28 Z_28 (Ht rfl) (i:=1) rfl rfl) (fA 27 3 29 5 rfl (cZ Tryz.call199 (Qd zo zo) ⟨(Ht rfl),(Ht rfl),trivial⟩) (fV mixed rfl (by kernel_rfl) (zF (aJ (aJ (aJ (aV ?_))))))))))))))
   refine ro rfl (cZ K_197 jP ⟨(Ht rfl),(Ht rfl),trivial⟩) (gQ Z_30 (Ht rfl) (Ht rfl) rfl (i:=2) rfl (aK rfl) rfl rfl (eX (fW rfl (fX (fK A_30 Z_30 rfl (i:=2) rfl rfl) ?_))))
   exact (lR (Aa he hle))
  ·have hle : x.natAbs ≤ y.natAbs := Nat.le_of_lt (Ms (by simpa using hc))
   refine cU (cK (fZ (m:=7) (dp 3 rfl (eZ iA (Ht rfl) rfl) (dq 32 0 rfl (eY A_4 Z_4 (Ht rfl) (i:=1) rfl rfl) (dp 3 rfl (eZ cC (Ht rfl) rfl) (dq 34 2 rfl (eY A_28 Z_28 (Ht rfl) (i:=1) rfl rfl) (dp 2 rfl (eZ cC (Ht rfl) rfl) (dq 36 4 rfl (eY A_28 Z_28 (Ht rfl) (i:=0) rfl rfl) (fA 35 3 37 5 rfl (cZ Tryz.call199 (Qd zo zo) ⟨(Ht rfl),(Ht rfl),trivial⟩) (fV mixed rfl (by kernel_rfl) (zF (aJ (aJ (aJ (aV ?_)))))))))))))))
   refine ro rfl (cZ K_197 jP ⟨(Ht rfl),(Ht rfl),trivial⟩) (gQ Z_30 (Ht rfl) (Ht rfl) rfl (i:=2) rfl (aK rfl) rfl rfl (eX (fW rfl (fX (fK A_30 Z_30 rfl (i:=2) rfl rfl) ?_))))
   exact (lR (by rw [Aa (Ne.symm he) hle,Int.add_comm]))
theorem nP {x y:Int} (hx:(dg x.natAbs).length ≤ 17592186044416) (hy:(dg y.natAbs).length ≤ 17592186044416):bE Tryz.prog 105 [fH x,fH y] (fH (x * y)):=by
 refine bE.intro Tryz.func105 rfl Tryz.ntmps105 rfl (fun cx=>(ts (rn rfl (fG (Ht rfl)) fun B2=>(rn rfl (fG (Ht rfl)) fun B3=>(rn rfl (eW (Ts:=[Is (.bool false),Is (.slice none 0 0)]) O_30 rfl (fun V=>aW zd (aW zd (aG)))) fun B4=>(eX (cK (fZ (m:=10) (dp 2 rfl (eZ iA (Ht rfl) rfl) (dq 5 0 rfl (eY A_4 Z_4 (Ht rfl) (i:=0) rfl rfl) (dp 3 rfl (eZ iA (Ht rfl) rfl) (dq 7 2 rfl (eY A_4 Z_4 (Ht rfl) (i:=1) rfl rfl) (fA 6 1 8 3 rfl (Sy U_4 (Ht rfl) (Ht rfl)) ?_)))))))))))))
 refine dp 2 rfl (eZ cC (Ht rfl) rfl) (dq 10 5 rfl (eY A_28 Z_28 (Ht rfl) (i:=0) rfl rfl) (dp 3 rfl (eZ cC (Ht rfl) rfl) (dq 12 7 rfl (eY A_28 Z_28 (Ht rfl) (i:=1) rfl rfl) (fA 11 6 13 8 rfl (cZ Tryz.call110 (yG zo zo) ⟨(Ht rfl),(Ht rfl),trivial⟩) (fV mixed rfl (by kernel_rfl) (zF (zF (aJ (aJ (aV (ro rfl (cZ K_197 jP ⟨(Ht rfl),(Ht rfl),trivial⟩) (gQ Z_30 (Ht rfl) (Ht rfl) rfl (i:=2) rfl (aK rfl) rfl rfl ?_))))))))))))
 refine eX (fW rfl (fX (fK A_30 Z_30 rfl (i:=2) rfl rfl) ?_))
 exact (lR (Fp x y))
theorem iH {x:Int} {n:Nat} (hx:(dg x.natAbs).length ≤ 17592186044416) (hn:(dg n).length ≤ 17592186044416):bE Tryz.prog 111 [fH x,aH n] (fH (x * n)):=by
 refine bE.intro Tryz.func111 rfl Tryz.ntmps111 rfl (fun cx=>(ts (rn rfl (fG (Ht rfl)) fun B2=>(rn rfl (eW (Ts:=[Is (.bool false),Is (.slice none 0 0)]) O_30 rfl (fun V=>aW zd (aW zd (aG)))) fun B4=>(eX (cK (fZ (m:=6) (dp 2 rfl (eZ iA (Ht rfl) rfl) (dq 5 0 rfl (eY A_4 Z_4 (Ht rfl) (i:=0) rfl rfl) (dp 2 rfl (eZ cC (Ht rfl) rfl) (dq 7 2 rfl (eY A_28 Z_28 (Ht rfl) (i:=0) rfl rfl) (dp 1 rfl (cX (Ht rfl)) (fA 8 3 9 4 rfl (cZ Tryz.call110 (yG zo zo) ⟨(Ht rfl),(Ht rfl),trivial⟩) ?_)))))))))))))
 refine fV mixed rfl (by kernel_rfl) (zF (aJ (aJ (aV (ro rfl (cZ K_197 jP ⟨(Ht rfl),(Ht rfl),trivial⟩) (gQ Z_30 (Ht rfl) (Ht rfl) rfl (i:=1) rfl (aK rfl) rfl rfl (eX (fW rfl (fX (fK A_30 Z_30 rfl (i:=1) rfl rfl) ?_)))))))))
 exact (lR (Bs x n))
theorem wS {x y:Int} (hx:(dg x.natAbs).length ≤ 17592186044415) (hy:(dg y.natAbs).length ≤ 17592186044415):bE Tryz.prog 112 [fH x,fH y] (aC .i64 (eP x y)):=by
 have hny:=tN y
 have hs:=jQ (x:=x) (y:=-y) hx zo
 refine bE.intro Tryz.func112 rfl Tryz.ntmps112 rfl (fun cx=>(ts (rn rfl (fG (Ht rfl)) fun B2=>(rn rfl (fG (Ht rfl)) fun B3=>(ro rfl (cQ (cJ 0)) (eX (cK (fZ (m:=5) (dp 2 rfl (eJ A_30 Z_30 (Ht rfl) (i:=0) rfl rfl rfl) (dp 3 rfl (eJ A_30 Z_30 (Ht rfl) (i:=1) rfl rfl rfl) (dq 7 1 rfl (cZ K_107 kP ⟨(Ht rfl),trivial⟩) (fA 6 0 8 2 rfl (cZ K_106 (qK zo zo) ⟨(Ht rfl),(Ht rfl),trivial⟩) (C.D_new (Ei:=[]) rfl rfl rfl bW (eW (Ts:=[Is (.bool false),Is (.slice none 0 0)]) O_30 rfl (fun V=>aW zd (aW zd (aG)))) ?_)))))))))))))
 refine fV mixed rfl (by kernel_rfl) (zF (C.F_new (fun B5=>aV (gQ Z_30 (Ht rfl) (Ht rfl) rfl (i:=2) rfl (aK rfl) rfl rfl (eX (cK (ts (ro rfl (eZ iA (Ht rfl) rfl) (ro rfl (eY A_4 Z_4 (Ht rfl) (i:=2) rfl rfl) (eX (dQ (Ht rfl) (fun hb=>?_) (fun hb=>?_))))))))))))
 ·have hn : x + -y < 0 := by simpa using hb
  refine ts (ro rfl (cQ cV) (eX (fW rfl (fX (eU rfl) ?_))))
  exact (aS (Mm hn))
 ·have hn : ¬ x + -y < 0 := by simpa using hb
  refine cU (ts (ro rfl (eZ cC (Ht rfl) rfl) (ro rfl (eY A_28 Z_28 (Ht rfl) (i:=2) rfl rfl) (ro rfl (dG U_28 (Ht rfl) aA) (ro rfl (Og (Ht rfl) (cJ 1)) (ra rfl (eX (fW rfl (fX (eU rfl) ?_)))))))))
  exact (aS (Ml hn))
end
section
open Go Go.RowKit
theorem Ha {n : Nat} {E : bC} {H : Hp} {d : Option Tmp} {t : TypeId} {pos : String} {af : Array Edge} {g : Option (Nat × Bool)} {x0 : Operand} {T0 T1 : Ty} (h0 : aN E x0 (dO [T0, T1])) :
  aF Tryz.prog n E H ⟨d,.build 32 #[(0,x0)],t,pos,af,g⟩ (dO [T0,T1,Is (.bool false),Is (.slice none 0 0),Is (.slice none 0 0)]) :=
 fE (parts := [(0, x0)]) fun a V w hs => by
  obtain ⟨v0,e0,c0⟩:=h0 n V a hs
  obtain ⟨c0_0,c0_1,rfl⟩:∃ c0_0 c0_1,v0 = [c0_0,c0_1]:=Dn (by simpa using c0.length)
  refine ⟨.agg #[c0_0,c0_1,(.bool false),(.slice none 0 0),(.slice none 0 0)],?_,[c0_0,c0_1,(.bool false),(.slice none 0 0),(.slice none 0 0)],rfl,aW (c0.at (i:=0) rfl rfl) (aW (c0.at (i:=1) rfl rfl) (aW (⟨rfl,trivial⟩) (aW (⟨rfl,trivial⟩) (aW (⟨rfl,trivial⟩) (aG)))))⟩
  simp [e0,Instr.build,Instr.fill,Sem.run_bind,Result.andThen,dM,O_32,U_32,Z_28,Z_30]
theorem lX {n : Nat} {E : bC} {H : Hp} {d : Option Tmp} {t : TypeId} {pos : String} {af : Array Edge} {g : Option (Nat × Bool)} {x0 x1 x2 : Operand} {T0 T1 T2 T3 T4 : Ty} (h0 : aN E x0 (dO [T0, T1])) (h1 : aN E x1 (dO [T2, T3])) [s2 : bN T4 1 false] (h2 : aN E x2 T4) :
  aF Tryz.prog n E H ⟨d,.build 32 #[(0,x0),(1,x1),(2,x2)],t,pos,af,g⟩ (dO [T0,T1,T2,T3,T4]) :=
 fE (parts := [(0, x0), (1, x1), (2, x2)]) fun a V w hs => by
  obtain ⟨v0,e0,c0⟩:=h0 n V a hs
  obtain ⟨c0_0,c0_1,rfl⟩:∃ c0_0 c0_1,v0 = [c0_0,c0_1]:=Dn (by simpa using c0.length)
  obtain ⟨v1,e1,c1⟩:=h1 n V a hs
  obtain ⟨c1_0,c1_1,rfl⟩:∃ c1_0 c1_1,v1 = [c1_0,c1_1]:=Dn (by simpa using c1.length)
  have p2:=h2 n V a hs
  generalize e2:a.eval x2 = v2 at p2
  have q2:=(s2.ok v2 V p2).2.2 rfl
  refine ⟨.agg #[c0_0,c0_1,c1_0,c1_1,v2],?_,[c0_0,c0_1,c1_0,c1_1,v2],rfl,aW (c0.at (i:=0) rfl rfl) (aW (c0.at (i:=1) rfl rfl) (aW (c1.at (i:=0) rfl rfl) (aW (c1.at (i:=1) rfl rfl) (aW (⟨p2,q2⟩) (aG)))))⟩
  simp [e0,e1,e2,Instr.build,Instr.fill,Sem.run_bind,Result.andThen,dM,q2.cells,O_32,U_32,Z_28,Z_30]
theorem dC (a:Addr) (w:World):(Instr.fieldAt 32 (.pointer (some a)) 0).run Tryz.prog w = .ok (.pointer (some (a.add 0))) w:=by
 simp [Instr.fieldAt,Instr.sureAddr,fieldPlace,Sem.run_bind,Result.andThen,U_32,Z_30]
theorem dN (a:Addr) (w:World):(Instr.fieldAt 32 (.pointer (some a)) 1).run Tryz.prog w = .ok (.pointer (some (a.add 2))) w:=by
 simp [Instr.fieldAt,Instr.sureAddr,fieldPlace,Sem.run_bind,Result.andThen,U_32,Z_30]
theorem kQ (a:Addr) (w:World):(Instr.fieldAt 32 (.pointer (some a)) 2).run Tryz.prog w = .ok (.pointer (some (a.add 4))) w:=by
 simp [Instr.fieldAt,Instr.sureAddr,fieldPlace,Sem.run_bind,Result.andThen,U_32,Z_28]
end
section
open Go Go.RowKit
theorem qJ {A B:Int} {D:Nat} (hD:0 < D) (hA:(dg A.natAbs).length ≤ 17592186044415) (hB:(dg B.natAbs).length ≤ 17592186044415) (hD2:(dg D).length ≤ 17592186044415):bE Tryz.prog 108 [fH A,fH B,aH D] (aM (Qi.mk' A B D)):=by
 have hg1:=Ij hA hB
 have hg2:=Ij hg1 hD2
 have hgp:Nat.gcd (Nat.gcd A.natAbs B.natAbs) D ≠ 0:=fun e=>by have:=Nat.gcd_eq_zero_iff.1 e; omega
 refine bE.intro Tryz.func108 rfl Tryz.ntmps108 rfl (fun cx=>(ts (rn rfl (fG (Ht rfl)) fun B3=>(rn rfl (fG (Ht rfl)) fun B4=>(rn rfl (eW (Ts:=[Is (.bool false),Is (.slice none 0 0),Is (.bool false),Is (.slice none 0 0),Is (.slice none 0 0)]) O_32 rfl (fun V=>aW zd (aW zd (aW zd (aW zd (aW zd (aG))))))) fun B6=>(eX (ts (ro rfl (eZ cC (Ht rfl) rfl) (ro rfl (eY A_28 Z_28 (Ht rfl) (i:=0) rfl rfl) ?_)))))))))
 refine ro rfl (eZ cC (Ht rfl) rfl) (ro rfl (eY A_28 Z_28 (Ht rfl) (i:=1) rfl rfl) (ro rfl (cZ Tryz.call200 (Qa zo zo) ⟨(Ht rfl),(Ht rfl),trivial⟩) (rm rfl (ro rfl (cZ Tryz.call200 (Qa zo zo) ⟨(Ht rfl),(Ht rfl),trivial⟩) (ra rfl (eX (cK (jZ (fun (uu:Unit)=>True) (fun (uu:Unit)=>[(2,aH (D / (Nat.gcd (Nat.gcd A.natAbs B.natAbs) D))),(3,dB B3 0),(4,dB B4 0),(6,dB B6 0)]) (fun (uu:Unit)=>[box B3 30 [aB (decide (A < 0)),aH (A.natAbs / (Nat.gcd (Nat.gcd A.natAbs B.natAbs) D))],box B4 30 [aB (decide (B < 0)),aH (B.natAbs / (Nat.gcd (Nat.gcd A.natAbs B.natAbs) D))],box B6 32 [Is (.bool false),Is (.slice none 0 0),Is (.bool false),Is (.slice none 0 0),Is (.slice none 0 0)]]) ?_ (fun uu _=>?_)))))))))
 ·refine ts (rm rfl (ro rfl (cZ Tryz.call201 Qb ⟨(Ht rfl), trivial⟩) (ro rfl (fR (Ht rfl)) (eX (dQ (Ht rfl) (fun hb => ?_) (fun hb => ?_))))))
  ·simp at hb
   refine ts (ro rfl (eZ cC (Ht rfl) rfl) (ro rfl (eY A_28 Z_28 (Ht rfl) (i:=0) rfl rfl) (rm rfl (ro rfl (cZ Tryz.call202 (Ct zo zo zo) ⟨(Ht rfl),(Ht rfl),trivial⟩) (rm rfl (ro rfl (dK (Ht rfl) rfl) (ro rfl (dK (Ht rfl) rfl) (ro rfl (eZ cC (Ht rfl) rfl) (lT Z_28 (Ht rfl) (Ht rfl) (i:=0) rfl (aK rfl) rfl (eX (ts (ro rfl (eZ cC (Ht rfl) rfl) (ro rfl (eY A_28 Z_28 (Ht rfl) (i:=1) rfl rfl) (rm rfl (ro rfl (cZ Tryz.call202 (Ct zo zo zo) ⟨(Ht rfl),(Ht rfl),trivial⟩) ?_)))))))))))))))
   refine rm rfl (ro rfl (dK (Ht rfl) rfl) (ro rfl (dK (Ht rfl) rfl) (ro rfl (eZ cC (Ht rfl) rfl) (lT Z_28 (Ht rfl) (Ht rfl) (i:=1) rfl (aK rfl) rfl (eX (cY (rm rfl (rm rfl (ro rfl (cZ Tryz.call202 (Ct zo zo zo) ⟨(Ht rfl),(Ht rfl),trivial⟩) (rm rfl (ro rfl (dK (Ht rfl) rfl) (ro rfl (dK (Ht rfl) rfl) (ra rfl (eX (bB () trivial (zS rfl) (aU (aI (by first | rfl | simp)) (aU (aI (by first | rfl | simp)) (aU (aI rfl) aY))))))))))))))))))
  ·simp at hb
   refine cU (bB () trivial (aZ rfl (dI (by rw [hb,Nat.div_one])) (zS rfl)) (aU (aI (by rw [hb,Nat.div_one])) (aU (aI (by rw [hb,Nat.div_one])) (aU (aI rfl) aY))))
 ·refine cK (jZ (fun (uu : Unit) => True) (fun (uu : Unit) => [(2, aH (if D / (Nat.gcd (Nat.gcd A.natAbs B.natAbs) D) = 1 then 0 else D / (Nat.gcd (Nat.gcd A.natAbs B.natAbs) D))), (3, dB B3 0), (4, dB B4 0), (6, dB B6 0)]) (fun (uu : Unit) => [box B3 30 [aB (decide (A < 0)), aH (A.natAbs / (Nat.gcd (Nat.gcd A.natAbs B.natAbs) D))], box B4 30 [aB (decide (B < 0)), aH (B.natAbs / (Nat.gcd (Nat.gcd A.natAbs B.natAbs) D))], box B6 32 [Is (.bool false), Is (.slice none 0 0), Is (.bool false), Is (.slice none 0 0), Is (.slice none 0 0)]]) ?_ (fun uu _ => ?_))
  ·refine ts (rm rfl (ro rfl (cZ Tryz.call201 Qb ⟨(Ht rfl), trivial⟩) (eX (dQ (Ht rfl) (fun hb => ?_) (fun hb => ?_)))))
   ·simp only [decide_eq_true_eq] at hb
    refine cY (ro rfl (cQ cV) (eX (bB () trivial (aZ rfl (fun v V h=>dI (by rw [if_pos hb]) v V (jG v V h)) (zS rfl)) (dL.refl _))))
   ·simp only [decide_eq_false_iff_not] at hb
    refine cU (bB () trivial (aZ rfl (dI (by rw [if_neg hb])) (zS rfl)) (dL.refl _))
  ·refine ts (ro rfl (eJ A_30 Z_30 (Ht rfl) (i := 0) rfl rfl rfl) (ro rfl (eJ A_30 Z_30 (Ht rfl) (i := 1) rfl rfl rfl) (rm rfl (ro rfl (lX (Ht rfl) (Ht rfl) (Ht rfl)) (gQ Z_32 (Ht rfl) (Ht rfl) rfl (i := 2) rfl (aK rfl) rfl rfl (eX (fW rfl (fX (fK A_32 Z_32 rfl (i := 2) rfl rfl) ?_))))))))
   exact (Om hD)
theorem kO {x:Qi}:bE Tryz.prog 109 [aM x] (aH x.den):=by
 refine bE.intro Tryz.func109 rfl Tryz.ntmps109 rfl (fun cx=>(ts (rn rfl (fG (Ht rfl)) fun B1=>(ro rfl (cQ cV) (eX (cK (ts (ro rfl (eZ kQ (Ht rfl) rfl) (ro rfl (eY A_28 Z_28 (Ht rfl) (i:=0) rfl rfl) (ro rfl (dG U_28 (Ht rfl) aA) (ro rfl (fN (Ht rfl) (cJ 0)) (eX (dQ (Ht rfl) (fun hb=>?_) (fun hb=>?_))))))))))))))
 ·simp at hb
  have h1:x.den = 1:=sK (aO.1 (by simpa using hb))
  refine ts (ro rfl (dA (xs:=[_]) U_28 Z_24 O_24 (cW (cJ 1) cG) rfl rfl rfl) (ra rfl (eX (fW rfl (fX (eU rfl) ?_)))))
  exact (fun v V h=>dI h1.symm v V (zL v V h))
 ·simp at hb
  have h1:du x = x.den:=pK (fun e=>hb (by simp [e,cO]))
  refine cU (ts (ro rfl (eZ kQ (Ht rfl) rfl) (ro rfl (eY A_28 Z_28 (Ht rfl) (i:=0) rfl rfl) (ra rfl (eX (fW rfl (fX (eU rfl) ?_)))))))
  exact (dI h1)
theorem kB {n:Int} (h1:-9223372036854775808 ≤ n) (h2:n ≤ 9223372036854775807):bE Tryz.prog 36 [aC .i64 n] (aM (Qi.ofInt n)):=by
 refine bE.intro Tryz.func36 rfl Tryz.ntmps36 rfl (fun cx=>(ts (rn rfl (eW (Ts:=[Is (.bool false),Is (.slice none 0 0),Is (.bool false),Is (.slice none 0 0),Is (.slice none 0 0)]) O_32 rfl (fun V=>aW zd (aW zd (aW zd (aW zd (aW zd (aG))))))) fun B2=>(eX (ts (rm rfl (ro rfl (cZ Tryz.call115 (wQ h1 h2) ⟨(Ht rfl),trivial⟩) (ro rfl (Ha (Ht rfl)) (gQ Z_32 (Ht rfl) (Ht rfl) rfl (i:=0) rfl (aK rfl) rfl rfl ?_)))))))))
 refine eX (fW rfl (fX (fK A_32 Z_32 rfl (i:=0) rfl rfl) ?_))
 exact Dq
theorem Uu {p q d:Int} (p1:-9223372036854775808 ≤ p) (p2:p ≤ 9223372036854775807) (q1:-9223372036854775808 ≤ q) (q2:q ≤ 9223372036854775807) (d1:-9223372036854775808 ≤ d) (d2:d ≤ 9223372036854775807) (hd:d ≠ 0):bE Tryz.prog 81 [aC .i64 p,aC .i64 q,aC .i64 d] (gA [aM (Qi.frac p q d),aC .i64 0]):=by
 have lp:=Sf p1 p2; have lq:=Sf q1 q2; have ld:=Sf d1 d2; have np:=tN p; have nq:=tN q
 refine bE.intro Tryz.func81 rfl Tryz.ntmps81 rfl (fun cx=>(ts (rn rfl (eW (Ts:=[Is (.bool false),Is (.slice none 0 0),Is (.bool false),Is (.slice none 0 0),Is (.slice none 0 0)]) O_32 rfl (fun V=>aW zd (aW zd (aW zd (aW zd (aW zd (aG))))))) fun B6=>(ro rfl (cQ (cJ 0)) (eX (cK (ts (rm rfl (ro rfl (lD (Ht rfl) cV) (eX (lV (Ht rfl) (by simp [hd]) ?_)))))))))))
 refine cU (ts (rm rfl (ro rfl (cZ Tryz.call115 (wQ p1 p2) ⟨(Ht rfl),trivial⟩) (rm rfl (ro rfl (cZ Tryz.call115 (wQ q1 q2) ⟨(Ht rfl),trivial⟩) (rm rfl (ro rfl (cZ Tryz.call115 (wQ d1 d2) ⟨(Ht rfl),trivial⟩) (rn rfl (eW (Ts:=[Is (.bool false),Is (.slice none 0 0)]) O_30 rfl (fun V=>aW zd (aW zd (aG)))) fun B8=>(rn rfl (eW (Ts:=[Is (.bool false),Is (.slice none 0 0)]) O_30 rfl (fun V=>aW zd (aW zd (aG)))) fun B9=>?_)))))))))
 refine rn rfl (eW (Ts:=[Is (.bool false),Is (.slice none 0 0)]) O_30 rfl (fun V=>aW zd (aW zd (aG)))) fun B10=>gQ Z_30 (Ht rfl) (Ht rfl) rfl (i:=1) rfl (aK rfl) rfl rfl (gQ Z_30 (Ht rfl) (Ht rfl) rfl (i:=2) rfl (aK rfl) rfl rfl (gQ Z_30 (Ht rfl) (Ht rfl) rfl (i:=3) rfl (aK rfl) rfl rfl (eX (cK (pE (fun (a:Int) (b:Int)=>Qi.mk' a b d.natAbs = Qi.frac p q d ∧ (dg a.natAbs).length ≤ 2 ∧ (dg b.natAbs).length ≤ 2) (fun (a:Int) (b:Int)=>[(6,dB B6 0),(8,dB B8 0),(9,dB B9 0),(10,dB B10 0)]) (fun (a:Int) (b:Int)=>[box B6 32 [Is (.bool false),Is (.slice none 0 0),Is (.bool false),Is (.slice none 0 0),Is (.slice none 0 0)],box B8 30 [aB (decide (a < 0)),aH (a).natAbs],box B9 30 [aB (decide (b < 0)),aH (b).natAbs],box B10 30 [aB (decide (d < 0)),aH (d).natAbs]]) ?_ (fun a b ⟨hab,ha,hb⟩=>?_))))))
 ·refine ts (ro rfl (eZ iA (Ht rfl) rfl) (ro rfl (eY A_4 Z_4 (Ht rfl) (i := 3) rfl rfl) (eX (dQ (Ht rfl) (fun hn => ?_) (fun hn => ?_)))))
  ·simp only [decide_eq_true_eq] at hn
   refine fZ (m:=3) (dp 8 rfl (eJ A_30 Z_30 (Ht rfl) (i:=1) rfl rfl rfl) (dq 22 0 rfl (cZ K_107 kP ⟨(Ht rfl),trivial⟩) (dp 9 rfl (eJ A_30 Z_30 (Ht rfl) (i:=2) rfl rfl rfl) (fV mixed rfl (by kernel_rfl) (aJ (aJ (aJ (aV (ro rfl (cZ K_107 kP ⟨(Ht rfl),trivial⟩) (gQ Z_30 (Ht rfl) (Ht rfl) rfl (i:=1) rfl (aK rfl) rfl rfl (gQ Z_30 (Ht rfl) (Ht rfl) rfl (i:=2) rfl (aK rfl) rfl rfl (eX (bB (-p,-q) ⟨Qi.frac_neg hn,by dsimp only; omega,by dsimp only; omega⟩ (zS rfl) (aU (aI rfl) (aU (aI rfl) (aU (aI rfl) (aU (aI rfl) aY)))))))))))))))))
  ·simp only [decide_eq_false_iff_not] at hn
   refine cU (bB (p,q) ⟨Qi.frac_pos hn hd,by omega,by omega⟩ (zS rfl) (dL.refl _))
 ·refine ts (ro rfl (eJ A_30 Z_30 (Ht rfl) (i := 1) rfl rfl rfl) (ro rfl (eJ A_30 Z_30 (Ht rfl) (i := 2) rfl rfl rfl) (ro rfl (eZ cC (Ht rfl) rfl) (ro rfl (eY A_28 Z_28 (Ht rfl) (i := 3) rfl rfl) (ro rfl (cZ K_108 (qJ zo zo zo zo) ⟨(Ht rfl), (Ht rfl), (Ht rfl), trivial⟩) (gQ Z_32 (Ht rfl) (Ht rfl) rfl (i := 0) rfl (aK rfl) rfl rfl (ro rfl (cQ (cJ 0)) (eX (cB rfl (fX (fK A_32 Z_32 rfl (i := 0) rfl rfl) ?_) (eU rfl))))))))))
  exact (iP hab)
theorem yE {x y:Qi} {L M:Nat} [hx:aL x L] [hy:aL y M] (h:L + M + 1 ≤ 17592186044415):bE Tryz.prog 33 [aM x,aM y] (aM (x + y)):=by
 have hxa:=jW hx.fit; have hxb:=jX hx.fit; have hxd:=jY hx.fit
 have hya:=jW hy.fit; have hyb:=jX hy.fit; have hyd:=jY hy.fit
 have hxp:=x.den_pos; have hyp:=y.den_pos; have hdp:=Nat.mul_pos hxp hyp
 have e1:=dH x.a y.den; have e2:=dH y.a x.den; have e3:=dH x.b y.den; have e4:=dH y.b x.den; have e5:=tM x.den y.den
 have e6:=jQ (x:=x.a * y.den) (y:=y.a * x.den) (L:=L + M) zo zo; have e7:=jQ (x:=x.b * y.den) (y:=y.b * x.den) (L:=L + M) zo zo
 refine bE.intro Tryz.func33 rfl Tryz.ntmps33 rfl (fun cx=>(ts (rn rfl (fG (Ht rfl)) fun B2=>(rn rfl (fG (Ht rfl)) fun B3=>(rn rfl (eW (Ts:=[Is (.bool false),Is (.slice none 0 0),Is (.bool false),Is (.slice none 0 0),Is (.slice none 0 0)]) O_32 rfl (fun V=>aW zd (aW zd (aW zd (aW zd (aW zd (aG))))))) fun B4=>(eX (cK (fZ (m:=3) (dp 2 rfl (eJ A_32 Z_32 (Ht rfl) (i:=0) rfl rfl rfl) (dq 7 0 rfl (cZ K_109 kO ⟨(Ht rfl),trivial⟩) ?_))))))))))
 refine dp 3 rfl (eJ A_32 Z_32 (Ht rfl) (i:=1) rfl rfl rfl) (fV mixed rfl (by kernel_rfl) (aJ (aJ (aJ (aV (ro rfl (cZ K_109 kO ⟨(Ht rfl),trivial⟩) (ra rfl (ra rfl (eX (cK (fZ (m:=20) (dp 2 rfl (eZ dC (Ht rfl) rfl) (dq 11 0 rfl (eJ A_30 Z_30 (Ht rfl) (i:=0) rfl rfl rfl) (dp 6 rfl (cX (Ht rfl)) (fA 12 1 13 2 rfl (cZ K_111 (iH zo zo) ⟨(Ht rfl),(Ht rfl),trivial⟩) (dp 3 rfl (eZ dC (Ht rfl) rfl) (dq 15 4 rfl (eJ A_30 Z_30 (Ht rfl) (i:=1) rfl rfl rfl) ?_)))))))))))))))))
 refine dp 5 rfl (cX (Ht rfl)) (fA 16 5 17 6 rfl (cZ K_111 (iH zo zo) ⟨(Ht rfl),(Ht rfl),trivial⟩) (fA 14 3 18 7 rfl (cZ K_106 (qK zo zo) ⟨(Ht rfl),(Ht rfl),trivial⟩) (dp 2 rfl (eZ dN (Ht rfl) rfl) (dq 20 9 rfl (eJ A_30 Z_30 (Ht rfl) (i:=0) rfl rfl rfl) (dp 6 rfl (cX (Ht rfl)) (fA 21 10 22 11 rfl (cZ K_111 (iH zo zo) ⟨(Ht rfl),(Ht rfl),trivial⟩) (dp 3 rfl (eZ dN (Ht rfl) rfl) (dq 24 13 rfl (eJ A_30 Z_30 (Ht rfl) (i:=1) rfl rfl rfl) ?_))))))))
 refine dp 5 rfl (cX (Ht rfl)) (fA 25 14 26 15 rfl (cZ K_111 (iH zo zo) ⟨(Ht rfl),(Ht rfl),trivial⟩) (fA 23 12 27 16 rfl (cZ K_106 (qK zo zo) ⟨(Ht rfl),(Ht rfl),trivial⟩) (dp 5 rfl (cX (Ht rfl)) (dp 6 rfl (cX (Ht rfl)) (fV mixed rfl (by kernel_rfl) (zF (zF (zF (zF (zF (aV (ro rfl (cZ Tryz.call110 (yG zo zo) ⟨(Ht rfl),(Ht rfl),trivial⟩) ?_))))))))))))
 refine ro rfl (cZ K_108 (qJ (by first | assumption | omega) zo zo zo) ⟨(Ht rfl),(Ht rfl),(Ht rfl),trivial⟩) (gQ Z_32 (Ht rfl) (Ht rfl) rfl (i:=2) rfl (aK rfl) rfl rfl (eX (fW rfl (fX (fK A_32 Z_32 rfl (i:=2) rfl rfl) ?_))))
 exact (iP (Qi.mk_add x y))
theorem Ut {x:Qi}:bE Tryz.prog 114 [aM x] (aM (-x)):=by
 refine bE.intro Tryz.func114 rfl Tryz.ntmps114 rfl (fun cx=>(ts (rn rfl (fG (Ht rfl)) fun B1=>(rn rfl (eW (Ts:=[Is (.bool false),Is (.slice none 0 0),Is (.bool false),Is (.slice none 0 0),Is (.slice none 0 0)]) O_32 rfl (fun V=>aW zd (aW zd (aW zd (aW zd (aW zd (aG))))))) fun B2=>(eX (cK (fZ (m:=8) (dp 1 rfl (eZ dC (Ht rfl) rfl) (dq 3 0 rfl (eJ A_30 Z_30 (Ht rfl) (i:=0) rfl rfl rfl) (dq 4 1 rfl (cZ K_107 kP ⟨(Ht rfl),trivial⟩) ?_))))))))))
 refine dp 1 rfl (eZ dN (Ht rfl) rfl) (dq 6 3 rfl (eJ A_30 Z_30 (Ht rfl) (i:=0) rfl rfl rfl) (dq 7 4 rfl (cZ K_107 kP ⟨(Ht rfl),trivial⟩) (dp 1 rfl (eZ kQ (Ht rfl) rfl) (dq 9 6 rfl (eY A_28 Z_28 (Ht rfl) (i:=0) rfl rfl) (fV mixed rfl (by kernel_rfl) (zF (zF (aV (ro rfl (lX (Ht rfl) (Ht rfl) (Ht rfl)) (gQ Z_32 (Ht rfl) (Ht rfl) rfl (i:=1) rfl (aK rfl) rfl rfl (eX (fW rfl (fX (fK A_32 Z_32 rfl (i:=1) rfl rfl) ?_)))))))))))))
 exact (qH (by obtain ⟨e1,e2,e3⟩:=Qi.neg_a x; rw [e1,e2,Qh e3]; rfl))
theorem Au {x:Qi}:bE Tryz.prog 317 [aM x] (aM x.conj):=by
 refine bE.intro Tryz.func317 rfl Tryz.ntmps317 rfl (fun cx=>(ts (rn rfl (fG (Ht rfl)) fun B1=>(rn rfl (eW (Ts:=[Is (.bool false),Is (.slice none 0 0),Is (.bool false),Is (.slice none 0 0),Is (.slice none 0 0)]) O_32 rfl (fun V=>aW zd (aW zd (aW zd (aW zd (aW zd (aG))))))) fun B2=>(eX (cK (fZ (m:=7) (dp 1 rfl (eZ dC (Ht rfl) rfl) (dq 3 0 rfl (eJ A_30 Z_30 (Ht rfl) (i:=0) rfl rfl rfl) (dp 1 rfl (eZ dN (Ht rfl) rfl) ?_))))))))))
 refine dq 5 2 rfl (eJ A_30 Z_30 (Ht rfl) (i:=0) rfl rfl rfl) (dq 6 3 rfl (cZ K_107 kP ⟨(Ht rfl),trivial⟩) (dp 1 rfl (eZ kQ (Ht rfl) rfl) (dq 8 5 rfl (eY A_28 Z_28 (Ht rfl) (i:=0) rfl rfl) (fV mixed rfl (by kernel_rfl) (zF (aJ (aJ (aJ (aV (ro rfl (lX (Ht rfl) (Ht rfl) (Ht rfl)) (gQ Z_32 (Ht rfl) (Ht rfl) rfl (i:=1) rfl (aK rfl) rfl rfl (eX (fW rfl (fX (fK A_32 Z_32 rfl (i:=1) rfl rfl) ?_))))))))))))))
 exact (qH (by obtain ⟨e1,e2,e3⟩:=Qi.conj_a x; rw [e1,e2,Qh e3]; rfl))
theorem He {x y:Qi} {L M:Nat} [hx:aL x L] [hy:aL y M] (h:L + M + 1 ≤ 17592186044415):bE Tryz.prog 32 [aM x,aM y] (aM (x - y)):=by
 have hxa:=jW hx.fit; have hxb:=jX hx.fit; have hxd:=jY hx.fit
 have hya:=jW hy.fit; have hyb:=jX hy.fit; have hyd:=jY hy.fit
 have hxp:=x.den_pos; have hyp:=y.den_pos; have hdp:=Nat.mul_pos hxp hyp
 refine bE.intro Tryz.func32 rfl Tryz.ntmps32 rfl (fun cx=>(ts (rn rfl (fG (Ht rfl)) fun B2=>(rn rfl (fG (Ht rfl)) fun B3=>(rn rfl (eW (Ts:=[Is (.bool false),Is (.slice none 0 0),Is (.bool false),Is (.slice none 0 0),Is (.slice none 0 0)]) O_32 rfl (fun V=>aW zd (aW zd (aW zd (aW zd (aW zd (aG))))))) fun B4=>(eX (cK (fZ (m:=3) (dp 2 rfl (eJ A_32 Z_32 (Ht rfl) (i:=0) rfl rfl rfl) (dp 3 rfl (eJ A_32 Z_32 (Ht rfl) (i:=1) rfl rfl rfl) ?_))))))))))
 refine dq 6 1 rfl (cZ Tryz.call114 Ut ⟨(Ht rfl),trivial⟩) (fV mixed rfl (by kernel_rfl) (aJ (aJ (aJ (aV (ro rfl (cZ Tryz.call33 (yE zo) ⟨(Ht rfl),(Ht rfl),trivial⟩) (gQ Z_32 (Ht rfl) (Ht rfl) rfl (i:=2) rfl (aK rfl) rfl rfl (eX (fW rfl (fX (fK A_32 Z_32 rfl (i:=2) rfl rfl) ?_))))))))))
 exact (iP (Qi.sub_def x y).symm)
theorem kC {x y:Qi} {L M:Nat} [hx:aL x L] [hy:aL y M] (h:L + M + 1 ≤ 17592186044415):bE Tryz.prog 29 [aM x,aM y] (aM (x * y)):=by
 have hxa:=jW hx.fit; have hxb:=jX hx.fit; have hxd:=jY hx.fit
 have hya:=jW hy.fit; have hyb:=jX hy.fit; have hyd:=jY hy.fit
 have hxp:=x.den_pos; have hyp:=y.den_pos; have hdp:=Nat.mul_pos hxp hyp
 have e1:=jR x.a y.a; have e2:=jR x.b y.b; have e3:=jR x.a y.b; have e4:=jR x.b y.a; have e5:=tM x.den y.den; have e8:=tN (x.b * y.b)
 have e6:=jQ (x:=x.a * y.a) (y:=-(x.b * y.b)) (L:=L + M) zo zo; have e7:=jQ (x:=x.a * y.b) (y:=x.b * y.a) (L:=L + M) zo zo
 refine bE.intro Tryz.func29 rfl Tryz.ntmps29 rfl (fun cx=>(ts (rn rfl (fG (Ht rfl)) fun B2=>(rn rfl (fG (Ht rfl)) fun B3=>(rn rfl (eW (Ts:=[Is (.bool false),Is (.slice none 0 0),Is (.bool false),Is (.slice none 0 0),Is (.slice none 0 0)]) O_32 rfl (fun V=>aW zd (aW zd (aW zd (aW zd (aW zd (aG))))))) fun B4=>(eX (cK (fZ (m:=13) (dp 2 rfl (eZ dC (Ht rfl) rfl) (dq 7 0 rfl (eJ A_30 Z_30 (Ht rfl) (i:=0) rfl rfl rfl) ?_))))))))))
 refine dp 3 rfl (eZ dC (Ht rfl) rfl) (dq 9 2 rfl (eJ A_30 Z_30 (Ht rfl) (i:=1) rfl rfl rfl) (fA 8 1 10 3 rfl (cZ K_105 (nP zo zo) ⟨(Ht rfl),(Ht rfl),trivial⟩) (dp 2 rfl (eZ dN (Ht rfl) rfl) (dq 12 5 rfl (eJ A_30 Z_30 (Ht rfl) (i:=0) rfl rfl rfl) (dp 3 rfl (eZ dN (Ht rfl) rfl) (dq 14 7 rfl (eJ A_30 Z_30 (Ht rfl) (i:=1) rfl rfl rfl) (fA 13 6 15 8 rfl (cZ K_105 (nP zo zo) ⟨(Ht rfl),(Ht rfl),trivial⟩) (dq 16 9 rfl (cZ K_107 kP ⟨(Ht rfl),trivial⟩) ?_))))))))
 refine fA 11 4 17 10 rfl (cZ K_106 (qK zo zo) ⟨(Ht rfl),(Ht rfl),trivial⟩) (C.D_new (Ei:=[]) rfl rfl rfl bW (eW (Ts:=[Is (.bool false),Is (.slice none 0 0)]) O_30 rfl (fun V=>aW zd (aW zd (aG)))) (fV mixed rfl (by kernel_rfl) (zF (zF (zF (C.F_new (fun B5=>aV (gQ Z_30 (Ht rfl) (Ht rfl) rfl (i:=3) rfl (aK rfl) rfl rfl (eX ?_)))))))))
 refine cK (fZ (m:=12) (dp 2 rfl (eZ dC (Ht rfl) rfl) (dq 19 0 rfl (eJ A_30 Z_30 (Ht rfl) (i:=0) rfl rfl rfl) (dp 3 rfl (eZ dN (Ht rfl) rfl) (dq 21 2 rfl (eJ A_30 Z_30 (Ht rfl) (i:=1) rfl rfl rfl) (fA 20 1 22 3 rfl (cZ K_105 (nP zo zo) ⟨(Ht rfl),(Ht rfl),trivial⟩) (dp 2 rfl (eZ dN (Ht rfl) rfl) (dq 24 5 rfl (eJ A_30 Z_30 (Ht rfl) (i:=0) rfl rfl rfl) (dp 3 rfl (eZ dC (Ht rfl) rfl) (dq 26 7 rfl (eJ A_30 Z_30 (Ht rfl) (i:=1) rfl rfl rfl) ?_))))))))))
 refine fA 25 6 27 8 rfl (cZ K_105 (nP zo zo) ⟨(Ht rfl),(Ht rfl),trivial⟩) (fA 23 4 28 9 rfl (cZ K_106 (qK zo zo) ⟨(Ht rfl),(Ht rfl),trivial⟩) (C.D_new (Ei:=[]) rfl rfl rfl bW (eW (Ts:=[Is (.bool false),Is (.slice none 0 0)]) O_30 rfl (fun V=>aW zd (aW zd (aG)))) (fV mixed rfl (by kernel_rfl) (zF (zF (aJ (aJ (aJ (C.F_new (fun B6=>aV (gQ Z_30 (Ht rfl) (Ht rfl) rfl (i:=4) rfl (aK rfl) rfl rfl ?_)))))))))))
 refine eX (cK (fZ (m:=7) (dp 5 rfl (eJ A_30 Z_30 (Ht rfl) (i:=3) rfl rfl rfl) (dp 6 rfl (eJ A_30 Z_30 (Ht rfl) (i:=4) rfl rfl rfl) (dp 2 rfl (eJ A_32 Z_32 (Ht rfl) (i:=0) rfl rfl rfl) (dq 32 2 rfl (cZ K_109 kO ⟨(Ht rfl),trivial⟩) (dp 3 rfl (eJ A_32 Z_32 (Ht rfl) (i:=1) rfl rfl rfl) (dq 34 4 rfl (cZ K_109 kO ⟨(Ht rfl),trivial⟩) (fA 33 3 35 5 rfl (cZ Tryz.call110 (yG zo zo) ⟨(Ht rfl),(Ht rfl),trivial⟩) (fV mixed rfl (by kernel_rfl) (zF (aJ (aJ (aJ (aV ?_)))))))))))))))
 refine ro rfl (cZ K_108 (qJ (by first | assumption | omega) zo zo zo) ⟨(Ht rfl),(Ht rfl),(Ht rfl),trivial⟩) (gQ Z_32 (Ht rfl) (Ht rfl) rfl (i:=2) rfl (aK rfl) rfl rfl (eX (fW rfl (fX (fK A_32 Z_32 rfl (i:=2) rfl rfl) ?_))))
 exact (iP (Qi.mk_mul x y))
theorem Lx {x:Qi} {L:Nat} [hx:aL x L] (h:L ≤ 17592186044415):bE Tryz.prog 34 [aM x] (aB (!decide (x = Qi.zero))):=by
 have hxa:=jW hx.fit; have hxb:=jX hx.fit; have hxd:=jY hx.fit
 refine bE.intro Tryz.func34 rfl Tryz.ntmps34 rfl (fun cx=>(ts (rn rfl (fG (Ht rfl)) fun B1=>(ro rfl (cQ cV) (eX (ts (ro rfl (eZ dC (Ht rfl) rfl) (ro rfl (eZ cC (Ht rfl) rfl) (ro rfl (eY A_28 Z_28 (Ht rfl) (i:=0) rfl rfl) (ro rfl (dG U_28 (Ht rfl) aA) (ro rfl (eZ dN (Ht rfl) rfl) (ro rfl (eZ cC (Ht rfl) rfl) (ro rfl (eY A_28 Z_28 (Ht rfl) (i:=0) rfl rfl) (ro rfl (dG U_28 (Ht rfl) aA) (ro rfl (dV (Ht rfl) (Ht rfl) z6) ?_)))))))))))))))
 refine ro rfl (iB (Ht rfl) (cJ 0)) (ra rfl (eX (fW rfl (fX (eU rfl) ?_))))
 exact (hZ (Hv x))
theorem oN {x:Qi}:bE Tryz.prog 35 [aM x] (aB (decide (x.b = 0))):=by
 refine bE.intro Tryz.func35 rfl Tryz.ntmps35 rfl (fun cx=>(ts (rn rfl (fG (Ht rfl)) fun B1=>(ro rfl (cQ cV) (eX (ts (ro rfl (eZ dN (Ht rfl) rfl) (ro rfl (eZ cC (Ht rfl) rfl) (ro rfl (eY A_28 Z_28 (Ht rfl) (i:=0) rfl rfl) (ro rfl (dG U_28 (Ht rfl) aA) (ro rfl (fN (Ht rfl) (cJ 0)) (ra rfl (eX (fW rfl (fX (eU rfl) ?_)))))))))))))))
 exact (hZ (Ow x))
theorem Rq {x y:Qi} {L M:Nat} [hx:aL x L] [hy:aL y M] (h:L ≤ 17592186044415) (h2:M ≤ 17592186044415):bE Tryz.prog 45 [aM x,aM y] (aB (decide (x = y))):=by
 have hxa:=jW hx.fit; have hxb:=jX hx.fit; have hxd:=jY hx.fit
 have hya:=jW hy.fit; have hyb:=jX hy.fit; have hyd:=jY hy.fit
 have hxu:=Ii x; have hyu:=Ii y
 refine bE.intro Tryz.func45 rfl Tryz.ntmps45 rfl (fun cx=>(ts (rn rfl (fG (Ht rfl)) fun B2=>(rn rfl (fG (Ht rfl)) fun B3=>(ro rfl (cQ cV) (eX (ts (ro rfl (eZ dC (Ht rfl) rfl) (ro rfl (eJ A_30 Z_30 (Ht rfl) (i:=0) rfl rfl rfl) (ro rfl (eZ dC (Ht rfl) rfl) (ro rfl (eJ A_30 Z_30 (Ht rfl) (i:=1) rfl rfl rfl) (ro rfl (cZ Tryz.call112 (wS zo zo) ⟨(Ht rfl),(Ht rfl),trivial⟩) (ro rfl (lD (Ht rfl) cV) (rm rfl (fQ rfl rfl (eK rfl rfl (Ht rfl) (fun h=>eZ dN (Ht rfl) rfl)) ?_)))))))))))))))
 refine fQ rfl rfl (eK rfl rfl (Ht rfl) (fun h=>eJ A_30 Z_30 (fJ rfl h) (i:=0) rfl rfl rfl)) (fQ rfl rfl (eK rfl rfl (Ht rfl) (fun h=>eZ dN (Ht rfl) rfl)) (fQ rfl rfl (eK rfl rfl (Ht rfl) (fun h=>eJ A_30 Z_30 (fJ rfl h) (i:=1) rfl rfl rfl)) (fQ rfl rfl (eK rfl rfl (Ht rfl) (fun h=>cZ Tryz.call112 (wS zo zo) ⟨(fJ rfl h),(fJ rfl h),trivial⟩)) (fQ rfl rfl (eK rfl rfl (Ht rfl) (fun h=>lD (fJ rfl h) cV)) (ro rfl (eS (Ht rfl) (fun h=>(fJ rfl h))) ?_)))))
 refine rm rfl (fQ rfl rfl (eK rfl rfl (Ht rfl) (fun h=>eZ kQ (Ht rfl) rfl)) (fQ rfl rfl (eK rfl rfl (Ht rfl) (fun h=>eY A_28 Z_28 (fJ rfl h) (i:=0) rfl rfl)) (fQ rfl rfl (eK rfl rfl (Ht rfl) (fun h=>eZ kQ (Ht rfl) rfl)) (fQ rfl rfl (eK rfl rfl (Ht rfl) (fun h=>eY A_28 Z_28 (fJ rfl h) (i:=1) rfl rfl)) (fQ rfl rfl (eK rfl rfl (Ht rfl) (fun h=>cZ Tryz.call129 (Hi zo zo) ⟨(fJ rfl h),(fJ rfl h),trivial⟩)) (fQ rfl rfl (eK rfl rfl (Ht rfl) (fun h=>lD (fJ rfl h) cV)) ?_))))))
 refine ro rfl (eS (Ht rfl) (fun h=>(fJ rfl h))) (ra rfl (eX (fW rfl (fX (eU rfl) ?_))))
 exact (hZ (Pb x y))
theorem oF {x y:Qi} {L M:Nat} [hx:aL x L] [hy:aL y M] (h:L + M ≤ 17592186044415):bE Tryz.prog 30 [aM x,aM y] (aC .i64 (lB x y)):=by
 have hxa:=jW hx.fit; have hxb:=jX hx.fit; have hxd:=jY hx.fit
 have hya:=jW hy.fit; have hyb:=jX hy.fit; have hyd:=jY hy.fit
 have e1:=dH x.a y.den; have e2:=dH y.a x.den; have e3:=dH x.b y.den; have e4:=dH y.b x.den
 refine bE.intro Tryz.func30 rfl Tryz.ntmps30 rfl (fun cx=>(ts (rn rfl (fG (Ht rfl)) fun B2=>(rn rfl (fG (Ht rfl)) fun B3=>(ro rfl (cQ (cJ 0)) (eX (cK (cK (fZ (m:=9) (dp 2 rfl (eZ dC (Ht rfl) rfl) (dq 6 0 rfl (eJ A_30 Z_30 (Ht rfl) (i:=0) rfl rfl rfl) (dp 3 rfl (eJ A_32 Z_32 (Ht rfl) (i:=1) rfl rfl rfl) (dq 8 2 rfl (cZ K_109 kO ⟨(Ht rfl),trivial⟩) (fA 7 1 9 3 rfl (cZ K_111 (iH zo zo) ⟨(Ht rfl),(Ht rfl),trivial⟩) (dp 3 rfl (eZ dC (Ht rfl) rfl) ?_)))))))))))))))
 refine dq 11 5 rfl (eJ A_30 Z_30 (Ht rfl) (i:=1) rfl rfl rfl) (dp 2 rfl (eJ A_32 Z_32 (Ht rfl) (i:=0) rfl rfl rfl) (dq 13 7 rfl (cZ K_109 kO ⟨(Ht rfl),trivial⟩) (fV mixed rfl (by kernel_rfl) (zF (zF (aJ (aV (ro rfl (cZ K_111 (iH zo zo) ⟨(Ht rfl),(Ht rfl),trivial⟩) (ro rfl (cZ Tryz.call112 (wS zo zo) ⟨(Ht rfl),(Ht rfl),trivial⟩) (ra rfl (eX (ts (rm rfl (ro rfl (lF (Ht rfl) cV) ?_))))))))))))))
 refine eX (dQ (Ht rfl) (fun hb=>?_) (fun hb=>?_))
 ·simp only [Bool.not_eq_true', decide_eq_false_iff_not] at hb
  refine ts (rm rfl (ra rfl (eX (fW rfl (fX (eU rfl) ?_)))))
  exact (aS (by rw [lB,if_pos hb]))
 ·simp only [Bool.not_eq_false', decide_eq_true_eq] at hb
  refine cU (cK (fZ (m:=9) (dp 2 rfl (eZ dN (Ht rfl) rfl) (dq 20 0 rfl (eJ A_30 Z_30 (Ht rfl) (i:=0) rfl rfl rfl) (dp 3 rfl (eJ A_32 Z_32 (Ht rfl) (i:=1) rfl rfl rfl) (dq 22 2 rfl (cZ K_109 kO ⟨(Ht rfl),trivial⟩) (fA 21 1 23 3 rfl (cZ K_111 (iH zo zo) ⟨(Ht rfl),(Ht rfl),trivial⟩) (dp 3 rfl (eZ dN (Ht rfl) rfl) (dq 25 5 rfl (eJ A_30 Z_30 (Ht rfl) (i:=1) rfl rfl rfl) (dp 2 rfl (eJ A_32 Z_32 (Ht rfl) (i:=0) rfl rfl rfl) ?_))))))))))
  refine dq 27 7 rfl (cZ K_109 kO ⟨(Ht rfl),trivial⟩) (fV mixed rfl (by kernel_rfl) (zF (zF (aJ (aV (ro rfl (cZ K_111 (iH zo zo) ⟨(Ht rfl),(Ht rfl),trivial⟩) (ro rfl (cZ Tryz.call112 (wS zo zo) ⟨(Ht rfl),(Ht rfl),trivial⟩) (ra rfl (eX (fW rfl (fX (eU rfl) ?_)))))))))))
  exact (aS (by rw [lB,if_neg (by simpa using hb)]))
end
section
open Go Go.RowKit
theorem Lv {n : Nat} {E : bC} {H : Hp} {d : Option Tmp} {t : TypeId} {pos : String} {af : Array Edge} {g : Option (Nat × Bool)}  :
  aF Tryz.prog n E H ⟨d,.build 30 #[],t,pos,af,g⟩ (dO [Is (.bool false),Is (.slice none 0 0)]) :=
 fE (parts := []) fun a V w hs => by
  refine ⟨.agg #[(.bool false),(.slice none 0 0)],?_,[(.bool false),(.slice none 0 0)],rfl,aW (⟨rfl,trivial⟩) (aW (⟨rfl,trivial⟩) (aG))⟩
  simp [Instr.build,Instr.fill,Sem.run_bind,Result.andThen,dM,O_30,U_30,Z_4,Z_28]
theorem My (a:Addr) (w:World):(Instr.fieldAt 23 (.pointer (some a)) 0).run Tryz.prog w = .ok (.pointer (some (a.add 0))) w:=by
 simp [Instr.fieldAt,Instr.sureAddr,fieldPlace,Sem.run_bind,Result.andThen,U_23,Z_2]
theorem Mz (a:Addr) (w:World):(Instr.fieldAt 23 (.pointer (some a)) 1).run Tryz.prog w = .ok (.pointer (some (a.add 1))) w:=by
 simp [Instr.fieldAt,Instr.sureAddr,fieldPlace,Sem.run_bind,Result.andThen,U_23,Z_2]
theorem wU (a:Addr) (w:World):(Instr.fieldAt 23 (.pointer (some a)) 2).run Tryz.prog w = .ok (.pointer (some (a.add 2))) w:=by
 simp [Instr.fieldAt,Instr.sureAddr,fieldPlace,Sem.run_bind,Result.andThen,U_23,Z_2]
theorem kT:Tryz.prog.info? 32 = some Tryz.t32:=by kernel_rfl
theorem nN:Tryz.prog.underlying 54 = some (.slice 32):=by kernel_rfl
end
section
open Go Go.RowKit
theorem Az {a:Int} {d:Nat} (hd:0 < d) (ha:(dg a.natAbs).length ≤ 8796093022208) (hd2:(dg d).length ≤ 8796093022208):bE Tryz.prog 192 [fH a,aH d] (oC (qB a d)):=by
 have h1:=zG a hd; have h2:=zH a hd
 obtain ⟨x,hx⟩:∃ x,x = Qi.mk' a 0 d:=⟨_,rfl⟩
 rw [qB,← hx]
 rw [← hx] at h1 h2
 have h3:=pH x.a.natAbs; have h4:=pH x.den
 have h5:(dg (0:Int).natAbs).length ≤ 0:=by rw [show (0:Int).natAbs = 0 from rfl,cO]; exact Nat.le_refl _
 refine bE.intro Tryz.func192 rfl Tryz.ntmps192 rfl (fun cx=>(ts (rn rfl (fG (Ht rfl)) fun B2=>(ro rfl (cQ (aN.cS (l:=[]) rfl)) (eX (ts (ro rfl (eJ A_30 Z_30 (Ht rfl) (i:=0) rfl rfl rfl) (ro rfl (aF.imp (Lv ) Ca) (rm rfl (ro rfl (aF.imp (cZ K_108 (qJ (by first | assumption | omega) zo zo zo) ⟨(Ht rfl),(Ht rfl),(Ht rfl),trivial⟩) (iP hx.symm)) (rn rfl (eW (Ts:=[Is (.bool false),Is (.slice none 0 0),Is (.bool false),Is (.slice none 0 0),Is (.slice none 0 0)]) O_32 rfl (fun V=>aW zd (aW zd (aW zd (aW zd (aW zd (aG))))))) fun B5=>?_)))))))))))
 refine gQ Z_32 (Ht rfl) (Ht rfl) rfl (i:=1) rfl (aK rfl) rfl rfl (eX (ts (ro rfl (eZ dC (Ht rfl) rfl) (ro rfl (eZ cC (Ht rfl) rfl) (ro rfl (eY A_28 Z_28 (Ht rfl) (i:=1) rfl rfl) (ro rfl (cZ Tryz.call243 (yF zo) ⟨(Ht rfl),trivial⟩) (ra rfl (eX (cK (jZ (fun (uu:Unit)=>True) (fun (uu:Unit)=>[(5,dB B5 0),(6,oC (if x.a < 0 then 45 :: tK x.a.natAbs else tK x.a.natAbs))]) (fun (uu:Unit)=>[box B2 30 [aB (decide (a < 0)),aH (a).natAbs],box B5 32 [aB (decide ((x).a < 0)),aH (x).a.natAbs,aB (decide ((x).b < 0)),aH (x).b.natAbs,aH (du (x))]]) ?_ (fun uu _=>?_)))))))))))
 ·refine ts (ro rfl (eZ dC (Ht rfl) rfl) (ro rfl (eZ iA (Ht rfl) rfl) (ro rfl (eY A_4 Z_4 (Ht rfl) (i := 1) rfl rfl) (eX (dQ (Ht rfl) (fun hb => ?_) (fun hb => ?_))))))
  ·simp only [decide_eq_true_eq] at hb
   refine cY (rm rfl (ro rfl (nX (aN.cS (l:=[45]) rfl) (Ht rfl) (by first | omega | (simp; omega))) (ra rfl (eX (bB () trivial (aQ rfl (aZ rfl (kK (by rw [if_pos hb]; rfl)) aX)) (aU (aI rfl) (aU (aI rfl) aY)))))))
  ·simp only [decide_eq_false_iff_not] at hb
   refine cU (bB () trivial (aQ rfl (aZ rfl (kK (by rw [if_neg hb])) aX)) (aU (aI rfl) (aU (aI rfl) aY)))
 ·have h6 : (if x.a < 0 then 45 :: tK x.a.natAbs else tK x.a.natAbs).length ≤ (tK x.a.natAbs).length + 1 := by split <;> simp
  have h7:=Ii x
  refine cK (jZ (fun (uu:Unit)=>True) (fun (uu:Unit)=>[(6,oC ((if x.a < 0 then 45 :: tK x.a.natAbs else tK x.a.natAbs) ++ (if x.den = 1 then [] else 47 :: tK x.den)))]) (fun (uu:Unit)=>[box B2 30 [aB (decide (a < 0)),aH (a).natAbs],box B5 32 [aB (decide ((x).a < 0)),aH (x).a.natAbs,aB (decide ((x).b < 0)),aH (x).b.natAbs,aH (du (x))]]) ?_ (fun uu _=>?_))
  ·refine ts (ro rfl (eZ kQ (Ht rfl) rfl) (ro rfl (eY A_28 Z_28 (Ht rfl) (i := 1) rfl rfl) (ro rfl (dG U_28 (Ht rfl) aA) (ro rfl (iB (Ht rfl) (cJ 0)) (eX (dQ (Ht rfl) (fun hb => ?_) (fun hb => ?_)))))))
   ·simp only [decide_eq_true_eq] at hb
    have h8:du x = x.den:=pK (fun e=>by rw [e,cO] at hb; simp at hb)
    have h9:x.den ≠ 1:=fun e=>by rw [du,if_pos e,cO] at hb; simp at hb
    have h10:=pH (du x)
    refine cY (rm rfl (ro rfl (eZ kQ (Ht rfl) rfl) (ro rfl (eY A_28 Z_28 (Ht rfl) (i:=1) rfl rfl) (ro rfl (cZ Tryz.call243 (yF zo) ⟨(Ht rfl),trivial⟩) (ro rfl (nX (aN.cS (l:=[47]) rfl) (Ht rfl) (by simp only [List.length_cons,List.length_nil]; omega)) ?_)))))
    refine ro rfl (nX (Ht rfl) (Ht rfl) (by simp only [List.length_append,List.length_cons,List.length_nil]; omega)) ?_
    refine ra rfl (eX (bB () trivial (aZ rfl (kK (by rw [if_neg h9,h8]; rfl)) aX) (dL.refl _)))
   ·simp only [decide_eq_false_iff_not] at hb
    have h9:x.den = 1:=sK (aO.1 zo)
    refine cU (bB () trivial (aZ rfl (kK (by rw [if_pos h9,List.append_nil])) aX) (dL.refl _))
  ·refine ts (rm rfl (ra rfl (eX ?_)))
   exact fW rfl (eU rfl)
theorem Hg {x:Qi} {L:Nat} [hx:aL x L] (h:L ≤ 8796093022208):bE Tryz.prog 92 [aM x] (oC (Ub x)):=by
 have hxa:=jW hx.fit; have hxb:=jX hx.fit; have hxd:=jY hx.fit; have hdp:=x.den_pos
 have l1:=zU x.a hdp; have l2:=zU x.b hdp
 refine bE.intro Tryz.func92 rfl Tryz.ntmps92 rfl (fun cx=>(ts (rn rfl (fG (Ht rfl)) fun B1=>(ro rfl (cQ (aN.cS (l:=[]) rfl)) (eX (cK (ts (ro rfl (eJ A_32 Z_32 (Ht rfl) (i:=0) rfl rfl rfl) (ro rfl (cZ K_35 oN ⟨(Ht rfl),trivial⟩) (eX (dQ (Ht rfl) (fun hb=>?_) (fun hb=>?_))))))))))))
 ·simp only [decide_eq_true_eq] at hb
  refine cK (fZ (m:=4) (dp 1 rfl (eZ dC (Ht rfl) rfl) (dq 6 0 rfl (eJ A_30 Z_30 (Ht rfl) (i:=0) rfl rfl rfl) (dp 1 rfl (eJ A_32 Z_32 (Ht rfl) (i:=0) rfl rfl rfl) (dq 8 2 rfl (cZ K_109 kO ⟨(Ht rfl),trivial⟩) (fV mixed rfl (by kernel_rfl) (zF (aV (ro rfl (cZ Tryz.call192 (Az (by assumption) zo zo) ⟨(Ht rfl),(Ht rfl),trivial⟩) ?_)))))))))
  refine ra rfl (eX (fW rfl (fX (eU rfl) ?_)))
  exact (kK (by rw [Ub,if_pos hb]))
 ·simp only [decide_eq_false_iff_not] at hb
  refine cU (cK (fZ (m:=4) (dp 1 rfl (eZ dN (Ht rfl) rfl) (dq 11 0 rfl (eJ A_30 Z_30 (Ht rfl) (i:=0) rfl rfl rfl) (dp 1 rfl (eJ A_32 Z_32 (Ht rfl) (i:=0) rfl rfl rfl) (dq 13 2 rfl (cZ K_109 kO ⟨(Ht rfl),trivial⟩) (fV mixed rfl (by kernel_rfl) (zF (aV (ro rfl (cZ Tryz.call192 (Az (by assumption) zo zo) ⟨(Ht rfl),(Ht rfl),trivial⟩) ?_))))))))))
  refine ro rfl (nX (Ht rfl) (aN.cS (l:=[105]) rfl) (by simp only [List.length_append,List.length_cons,List.length_nil]; omega)) ?_
  refine ra rfl (eX (cK (ts (ro rfl (eZ dC (Ht rfl) rfl) (ro rfl (eZ cC (Ht rfl) rfl) (ro rfl (eY A_28 Z_28 (Ht rfl) (i:=0) rfl rfl) (ro rfl (dG U_28 (Ht rfl) aA) (ro rfl (fN (Ht rfl) (cJ 0)) (eX (dQ (Ht rfl) (fun hc=>?_) (fun hc=>?_)))))))))))
  ·simp only [decide_eq_true_eq] at hc
   have ha:x.a = 0:=by have:=aO.1 hc; omega
   refine ts (rm rfl (ra rfl (eX (fW rfl (fX (eU rfl) ?_)))))
   exact (kK (by rw [Ub,if_neg hb,if_pos ha]))
  ·simp only [decide_eq_false_iff_not] at hc
   have ha:x.a ≠ 0:=fun e=>hc (by rw [e]; exact aO.2 rfl)
   refine cU (cK (jZ (fun (uu:Unit)=>True) (fun (uu:Unit)=>[(1,dB B1 0),(3,oC ((if x.b < 0 then qB x.b x.den else 43 :: qB x.b x.den) ++ [105]))]) (fun (uu:Unit)=>[box B1 32 [aB (decide ((x).a < 0)),aH (x).a.natAbs,aB (decide ((x).b < 0)),aH (x).b.natAbs,aH (du (x))]]) ?_ (fun uu _=>?_)))
   ·refine ts (ro rfl (eZ dN (Ht rfl) rfl) (ro rfl (eZ iA (Ht rfl) rfl) (ro rfl (eY A_4 Z_4 (Ht rfl) (i := 0) rfl rfl) (ro rfl (fR (Ht rfl)) (eX (dQ (Ht rfl) (fun hd => ?_) (fun hd => ?_)))))))
    ·have hn : ¬ x.b < 0 := by simpa using hd
     refine cY (rm rfl (ro rfl (nX (aN.cS (l:=[43]) rfl) (Ht rfl) (by simp only [List.length_append,List.length_cons,List.length_nil]; omega)) ?_))
     refine ra rfl (eX (bB () trivial (aQ rfl (aZ rfl (kK (by rw [if_neg hn]; rfl)) aX)) (aU (aI rfl) aY)))
    ·have hn : x.b < 0 := by simpa using hd
     refine cU (bB () trivial (aQ rfl (aZ rfl (kK (by rw [if_pos hn])) aX)) (aU (aI rfl) aY))
   ·have l3 : ((if x.b < 0 then qB x.b x.den else 43 :: qB x.b x.den) ++ [105]).length ≤ (qB x.b x.den).length + 2 := by split <;> simp
    refine cK (fZ (m:=6) (dp 1 rfl (eZ dC (Ht rfl) rfl) (dq 29 0 rfl (eJ A_30 Z_30 (Ht rfl) (i:=0) rfl rfl rfl) (dp 1 rfl (eJ A_32 Z_32 (Ht rfl) (i:=0) rfl rfl rfl) (dq 31 2 rfl (cZ K_109 kO ⟨(Ht rfl),trivial⟩) (fA 30 1 32 3 rfl (cZ Tryz.call192 (Az (by assumption) zo zo) ⟨(Ht rfl),(Ht rfl),trivial⟩) ?_))))))
    refine dp 3 rfl (cX (Ht rfl)) (fV mixed rfl (by kernel_rfl) (zF (aJ (aJ (aV (ro rfl (nX (Ht rfl) (Ht rfl) zo) (ra rfl (eX (fW rfl (fX (eU rfl) ?_))))))))))
    exact (kK (by rw [Ub,if_neg hb,if_neg ha]))
theorem sG {r:Rt}:bE Tryz.prog 14 [Er r] (aM r.q):=by
 have hr1:=r.h1; have hr2:=r.h2; have hr3:=r.h3; have hr4:=r.h4; have hr5:=r.d1; have hr6:=r.d2; have hr0:=r.d0
 refine bE.intro Tryz.func14 rfl Tryz.ntmps14 rfl (fun cx=>(ts (rn rfl (fG (Ht rfl)) fun B1=>(rn rfl (eW (Ts:=[Is (.bool false),Is (.slice none 0 0),Is (.bool false),Is (.slice none 0 0),Is (.slice none 0 0)]) O_32 rfl (fun V=>aW zd (aW zd (aW zd (aW zd (aW zd (aG))))))) fun B2=>(eX (cK (jZ (fun (uu:Unit)=>True) (fun (uu:Unit)=>[(1,dB B1 0),(2,dB B2 0)]) (fun (uu:Unit)=>[box B1 23 [aC .i64 r.re,aC .i64 r.im,aC .i64 r.d],box B2 32 [Is (.bool false),Is (.slice none 0 0),Is (.bool false),Is (.slice none 0 0),Is (.slice none 0 0)]]) ?_ (fun uu _=>?_))))))))
 ·refine ts (ro rfl (eZ wU (Ht rfl) rfl) (ro rfl (eY Tryz.isAgg2 Z_2 (Ht rfl) (i := 0) rfl rfl) (ro rfl (lD (Ht rfl) cV) (eX (dQ (Ht rfl) (fun hb => ?_) (fun hb => ?_))))))
  ·simp only [decide_eq_true_eq] at hb
   refine cY (ro rfl (eZ wU (Ht rfl) rfl) (lT Z_2 (Ht rfl) (cJ 1) (i:=0) rfl (aK rfl) rfl (eX (bB () trivial (zS rfl) (aU (aI (by rw [Rt.d,if_pos hb]; rfl)) (aU (aI rfl) aY))))))
  ·simp only [decide_eq_false_iff_not] at hb
   refine cU (bB () trivial (zS rfl) (aU (aI (by rw [Rt.d,if_neg hb])) (aU (aI rfl) aY)))
 ·refine ts (ro rfl (eZ My (Ht rfl) rfl) (ro rfl (eY Tryz.isAgg2 Z_2 (Ht rfl) (i := 0) rfl rfl) (ro rfl (eZ Mz (Ht rfl) rfl) (ro rfl (eY Tryz.isAgg2 Z_2 (Ht rfl) (i := 0) rfl rfl) (ro rfl (eZ wU (Ht rfl) rfl) (ro rfl (eY Tryz.isAgg2 Z_2 (Ht rfl) (i := 0) rfl rfl) (ro rfl (cZ Tryz.call81 (Uu hr1 hr2 hr3 hr4 hr5 hr6 hr0) ⟨(Ht rfl), (Ht rfl), (Ht rfl), trivial⟩) (rm rfl (ro rfl (dK (Ht rfl) rfl) (ro rfl (dK (Ht rfl) rfl) (rn rfl (eW (Ts := [Is (.bool false), Is (.slice none 0 0), Is (.bool false), Is (.slice none 0 0), Is (.slice none 0 0)]) O_32 rfl (fun V => aW zd (aW zd (aW zd (aW zd (aW zd (aG))))))) fun B3 => ?_)))))))))))
  refine gQ Z_32 (Ht rfl) (Ht rfl) rfl (i:=2) rfl (aK rfl) rfl rfl (ra rfl (eX (ts (ro rfl (eJ A_32 Z_32 (Ht rfl) (i:=2) rfl rfl rfl) (gQ Z_32 (Ht rfl) (Ht rfl) rfl (i:=1) rfl (aK rfl) rfl rfl (eX ?_))))))
  exact fW rfl (fK A_32 Z_32 rfl (i:=1) rfl rfl)
theorem vE {l:List Rt} (hl:l.length ≤ 1000000):bE Tryz.prog 50 [Gl l] (fB (l.map Rt.q)):=by
 refine bE.intro Tryz.func50 rfl Tryz.ntmps50 rfl (fun cx=>(ts (ro rfl (cQ cV) (eX (ts (rm rfl (ro rfl (dG U_77 (Ht rfl) aA) (rn rfl (nW (T:=aM Qi.zero) (i:=Tryz.t32) nN kT rfl rfl (Ht rfl) rfl kH (El.ag rfl) (by show 88 * _ ≤ _; omega) zo) fun B8=>(ra rfl (eX (cK (ts (rm rfl (ro rfl (dG U_77 (Ht rfl) aA) (ro rfl (cX (cJ 0)) (eX (eG ?_)))))))))))))))))
 refine fM (fun (k : Nat) (out : List Qi) => jD (fun i => (l.getD i default).q) l.length out k) (fun (k : Nat) (out : List Qi) => l.length - k) (fun (k : Nat) (out : List Qi) => [(3, Is B8), (9, Gl l), (10, NT .i64 l.length), (11, NT .i64 k)]) (fun (k : Nat) (out : List Qi) => [bA 32 5 B8 (out.map aM)]) 0 (List.replicate l.length Qi.zero) (jD.start _ _ _)
  (zS rfl) (aU (cD (nG aM _ _)) aY) (fun k out hS=>?_)
 refine ts (ro rfl (gX (Ht rfl) (Ht rfl)) (eX (cK (dQ (Ht rfl) (fun hk=>?_) (fun hk=>?_)))))
 ·simp only [decide_eq_true_eq] at hk
  have hlen:=hS.len
  refine cU (cK (eG (ts (rm rfl (ro rfl (dZ U_77 Z_23 (Ht rfl) (Ht rfl) rfl (dY (dU (d:=default) hk))) (ro rfl (dJ A_23 Z_23 (Ht rfl)) (rn rfl (eW (Ts:=[Is (.int .i64 0),Is (.int .i64 0),Is (.int .i64 0)]) O_23 rfl (fun V=>aW zd (aW zd (aW zd (aG))))) fun B5=>(ra rfl (gQ Z_23 (Ht rfl) (Ht rfl) rfl (i:=1) rfl (aK rfl) rfl rfl (eX (cY (rm rfl (rm rfl (ro rfl (eJ A_23 Z_23 (Ht rfl) (i:=1) rfl rfl rfl) ?_))))))))))))))
  refine ro rfl (cZ Tryz.call14 sG ⟨(Ht rfl),trivial⟩) (ro rfl (iC U_54 Z_32 (Ht rfl) (Ht rfl) rfl (i:=0) rfl (by first | omega | (simp; omega)) rfl) (rA Z_32 (Ht rfl) (Ht rfl) (El.ag rfl) (i:=0) rfl rfl (by first | omega | (simp; omega)) rfl (eX (cA (cY (ro rfl (dV (Ht rfl) (cJ 1) z6) (rm rfl (eX (dE [0] rfl (by decide) (fU (k + 1,_) (hS.next hk rfl) (by dsimp only; omega) (zS rfl) (aU (cD (kJ aM _ _ _)) aY)))))))))))
 ·simp only [decide_eq_false_iff_not] at hk
  obtain rfl:k = l.length:=Nat.le_antisymm hS.kle zo
  have hfin:=hS.fin
  rw [uJ l Rt.q] at hfin
  refine gV rfl (gJ (i:=0) (tt:=3) rfl rfl lZ (ts (rm rfl (ra rfl (eX (fW rfl (fX (eU rfl) ?_)))))))
  exact (oV (by rw [hfin]))
end
section
open Go Go.RowKit
theorem wM {n : Nat} {E : bC} {H : Hp} {d : Option Tmp} {t : TypeId} {pos : String} {af : Array Edge} {g : Option (Nat × Bool)}  :
  aF Tryz.prog n E H ⟨d,.build 32 #[],t,pos,af,g⟩ (dO [Is (.bool false),Is (.slice none 0 0),Is (.bool false),Is (.slice none 0 0),Is (.slice none 0 0)]) :=
 fE (parts := []) fun a V w hs => by
  refine ⟨.agg #[(.bool false),(.slice none 0 0),(.bool false),(.slice none 0 0),(.slice none 0 0)],?_,[(.bool false),(.slice none 0 0),(.bool false),(.slice none 0 0),(.slice none 0 0)],rfl,aW (⟨rfl,trivial⟩) (aW (⟨rfl,trivial⟩) (aW (⟨rfl,trivial⟩) (aW (⟨rfl,trivial⟩) (aW (⟨rfl,trivial⟩) (aG)))))⟩
  simp [Instr.build,Instr.fill,Sem.run_bind,Result.andThen,dM,O_32,U_32,Z_28,Z_30]
end
section
open Go Go.RowKit
theorem Ur {x y:Qi} {L M:Nat} [hx:aL x L] [hy:aL y M] (h:L + 3 * M + 2 ≤ 17592186044415):bE Tryz.prog 142 [aM x,aM y] (gA [aM (x / y),aC .i64 (if y = Qi.zero then 3 else 0)]):=by
 have hxa:=jW hx.fit; have hxb:=jX hx.fit; have hxd:=jY hx.fit
 have hya:=jW hy.fit; have hyb:=jX hy.fit; have hyd:=jY hy.fit
 have hxp:=x.den_pos; have hyp:=y.den_pos; have hMp:=hy.pos
 refine bE.intro Tryz.func142 rfl Tryz.ntmps142 rfl (fun cx=>(ts (rn rfl (fG (Ht rfl)) fun B2=>(rn rfl (fG (Ht rfl)) fun B3=>(rn rfl (eW (Ts:=[Is (.bool false),Is (.slice none 0 0),Is (.bool false),Is (.slice none 0 0),Is (.slice none 0 0)]) O_32 rfl (fun V=>aW zd (aW zd (aW zd (aW zd (aW zd (aG))))))) fun B4=>(ro rfl (cQ (cJ 0)) (eX (cK (ts (ro rfl (eJ A_32 Z_32 (Ht rfl) (i:=1) rfl rfl rfl) ?_))))))))))
 refine ro rfl (cZ Tryz.call34 (Lx zo) ⟨(Ht rfl),trivial⟩) (ro rfl (fR (Ht rfl)) (eX (dQ (Ht rfl) (fun hb=>?_) (fun hb=>?_))))
 ·have h0 : y = Qi.zero := by simpa using hb
  refine ts (ro rfl (aF.imp (wM ) jH) (gQ Z_32 (Ht rfl) (Ht rfl) rfl (i:=2) rfl (aK rfl) rfl rfl (ro rfl (cQ (cJ 3)) (eX (cB rfl (fX (fK A_32 Z_32 rfl (i:=2) rfl rfl) ?_) (fX (eU rfl) ?_))))))
  ·exact (iP (by rw [h0,Qi.div_zero]))
  ·exact (aS (by rw [if_pos h0]; rfl))
 ·have h0 : y ≠ Qi.zero := by simpa using hb
  have g1:=jR y.a y.a; have g2:=jR y.b y.b; have g3:=tN y.b
  have g4:=jQ (x:=y.a * y.a) (y:=y.b * y.b) (L:=M + M) zo zo
  obtain ⟨c,hc⟩:∃ c,c = Qi.mk' y.a (-y.b) 1:=⟨_,rfl⟩
  obtain ⟨z,hz⟩:∃ z,z = x * c:=⟨_,rfl⟩
  have l1:(dg 1).length ≤ 1:=by rw [Ib (by decide) (by decide)]; exact Nat.le_refl _
  haveI fc:aL c M:=hc ▸ ⟨Qi.Fit.mk (by decide) hy.fit.1 (by rw [Int.natAbs_neg]; exact hy.fit.2.1) (Qi.one_lt hMp)⟩
  haveI fz:aL z (L + M + 1):=hz ▸ fitMul
  have hza:=jW fz.fit; have hzb:=jX fz.fit; have hzd:=jY fz.fit
  have hnp:=Qi.nrm_int_pos h0
  have hm:(((y.a * y.a + y.b * y.b).natAbs:Nat):Int) = y.a * y.a + y.b * y.b:=Int.natAbs_of_nonneg zo
  have hdp2:=Nat.mul_pos z.den_pos (show 0 < (y.a * y.a + y.b * y.b).natAbs by omega)
  have e1:=dH z.a y.den; have e2:=dH z.b y.den; have e3:=tM z.den (y.a * y.a + y.b * y.b).natAbs
  refine cU (cK (fZ (m:=12) (dp 3 rfl (eZ dC (Ht rfl) rfl) (dq 12 0 rfl (eJ A_30 Z_30 (Ht rfl) (i:=1) rfl rfl rfl) (dp 3 rfl (eZ dC (Ht rfl) rfl) (dq 14 2 rfl (eJ A_30 Z_30 (Ht rfl) (i:=1) rfl rfl rfl) (fA 13 1 15 3 rfl (cZ K_105 (nP zo zo) ⟨(Ht rfl),(Ht rfl),trivial⟩) (dp 3 rfl (eZ dN (Ht rfl) rfl) (dq 17 5 rfl (eJ A_30 Z_30 (Ht rfl) (i:=1) rfl rfl rfl) (dp 3 rfl (eZ dN (Ht rfl) rfl) (dq 19 7 rfl (eJ A_30 Z_30 (Ht rfl) (i:=1) rfl rfl rfl) ?_)))))))))))
  refine fA 18 6 20 8 rfl (cZ K_105 (nP zo zo) ⟨(Ht rfl),(Ht rfl),trivial⟩) (fA 16 4 21 9 rfl (cZ K_106 (qK zo zo) ⟨(Ht rfl),(Ht rfl),trivial⟩) (C.D_new (Ei:=[]) rfl rfl rfl bW (eW (Ts:=[Is (.bool false),Is (.slice none 0 0)]) O_30 rfl (fun V=>aW zd (aW zd (aG)))) (fV mixed rfl (by kernel_rfl) (zF (zF (aJ (aJ (aJ (C.F_new (fun B6=>aV (gQ Z_30 (Ht rfl) (Ht rfl) rfl (i:=3) rfl (aK rfl) rfl rfl ?_)))))))))))
  refine eX (cK (fZ (m:=10) (dp 2 rfl (eJ A_32 Z_32 (Ht rfl) (i:=0) rfl rfl rfl) (dp 3 rfl (eZ dC (Ht rfl) rfl) (dq 24 1 rfl (eJ A_30 Z_30 (Ht rfl) (i:=1) rfl rfl rfl) (dp 3 rfl (eZ dN (Ht rfl) rfl) (dq 26 3 rfl (eJ A_30 Z_30 (Ht rfl) (i:=1) rfl rfl rfl) (dq 27 4 rfl (cZ K_107 kP ⟨(Ht rfl),trivial⟩) (d0 rfl (aF.imp (dA (xs:=[_]) U_28 Z_24 O_24 (cW (cJ 1) cG) rfl rfl rfl) zL) (C.D_step (Ei:=[(25,_),(28,_),(29,_)]) rfl rfl (bV (bG 2 rfl rfl) (bV (bG 5 rfl rfl) (bV (bG 6 rfl rfl) bW))) (dX rfl (aF.imp (cZ K_108 (qJ (by first | assumption | omega) zo zo zo) ⟨(Ht rfl),(Ht rfl),(Ht rfl),trivial⟩) (iP hc.symm))) ?_))))))))))
  refine fA 23 0 30 7 rfl (aF.imp (cZ K_29 (kC zo) ⟨(Ht rfl),(Ht rfl),trivial⟩) (iP hz.symm)) (C.D_new (Ei:=[]) rfl rfl rfl bW (eW (Ts:=[Is (.bool false),Is (.slice none 0 0),Is (.bool false),Is (.slice none 0 0),Is (.slice none 0 0)]) O_32 rfl (fun V=>aW zd (aW zd (aW zd (aW zd (aW zd (aG))))))) (fV mixed rfl (by kernel_rfl) (zF (zF (aJ (C.F_new (fun B7=>aV ?_)))))))
  refine gQ Z_32 (Ht rfl) (Ht rfl) rfl (i:=4) rfl (aK rfl) rfl rfl (eX (cK (fZ (m:=14) (dp 7 rfl (eZ dC (Ht rfl) rfl) (dq 32 0 rfl (eJ A_30 Z_30 (Ht rfl) (i:=4) rfl rfl rfl) (dp 3 rfl (eJ A_32 Z_32 (Ht rfl) (i:=1) rfl rfl rfl) (dq 34 2 rfl (cZ K_109 kO ⟨(Ht rfl),trivial⟩) (fA 33 1 35 3 rfl (cZ K_111 (iH zo zo) ⟨(Ht rfl),(Ht rfl),trivial⟩) (dp 7 rfl (eZ dN (Ht rfl) rfl) (dq 37 5 rfl (eJ A_30 Z_30 (Ht rfl) (i:=4) rfl rfl rfl) ?_))))))))))
  refine dp 3 rfl (eJ A_32 Z_32 (Ht rfl) (i:=1) rfl rfl rfl) (dq 39 7 rfl (cZ K_109 kO ⟨(Ht rfl),trivial⟩) (fA 38 6 40 8 rfl (cZ K_111 (iH zo zo) ⟨(Ht rfl),(Ht rfl),trivial⟩) (dp 7 rfl (eJ A_32 Z_32 (Ht rfl) (i:=4) rfl rfl rfl) (dq 42 10 rfl (cZ K_109 kO ⟨(Ht rfl),trivial⟩) (dp 6 rfl (eZ cC (Ht rfl) rfl) (dq 44 12 rfl (eY A_28 Z_28 (Ht rfl) (i:=3) rfl rfl) (fV mixed rfl (by kernel_rfl) (zF (zF (zF (aJ (aJ (aV ?_)))))))))))))
  refine ro rfl (cZ Tryz.call110 (yG zo zo) ⟨(Ht rfl),(Ht rfl),trivial⟩) (ro rfl (cZ K_108 (qJ (by first | assumption | omega) zo zo zo) ⟨(Ht rfl),(Ht rfl),(Ht rfl),trivial⟩) (gQ Z_32 (Ht rfl) (Ht rfl) rfl (i:=2) rfl (aK rfl) rfl rfl (ro rfl (cQ (cJ 0)) (eX (cB rfl (fX (fK A_32 Z_32 rfl (i:=2) rfl rfl) ?_) (fX (eU rfl) ?_))))))
  ·exact (iP (Qi.mk_divP x h0 (hc ▸ hz) hm))
  ·exact (aS (by rw [if_neg h0]; rfl))
end
section
open Go Go.RowKit
theorem nU:Tryz.prog.info? 54 = some Tryz.t54:=by kernel_rfl
end
section
open Go Go.RowKit
theorem Av {γ:Type} {l:List γ} {T:γ → Ty} {p:γ → Bool} [sh:∀ x,bN (T x) 5 true] (hl:l.length ≤ 1000000):bE Tryz.prog 284 [jL 5 (l.map T),xT Tryz.prog γ (fun x=>[T x]) (fun x=>aB (p x))] (aC .i64 (yY p l)):=by
 refine bE.intro Tryz.func284 rfl Tryz.ntmps284 rfl (fun cx=>(ts (ro rfl (cQ (cJ 0)) (eX (cK (ts (rm rfl (ro rfl (dG U_54 (Ht rfl) aA) (ro rfl (cX (cJ 0)) (eX (eG ?_)))))))))))
 refine eR (fun (k : Nat) => k ≤ l.length ∧ ∀ (i : Nat) (x : γ), i < k → l[i]? = some x → p x = false) (fun (k : Nat) => l.length - k) (fun (k : Nat) => [(0, jL 5 (l.map T)), (1, xT Tryz.prog γ (fun x => [T x]) (fun x => aB (p x))), (7, NT .i64 l.length), (8, NT .i64 k)]) (fun (k : Nat) => []) 0 ⟨Nat.zero_le _, fun i x h => by omega⟩
  (zS rfl) aY (fun k ⟨hk,hn⟩=>?_)
 refine ts (ro rfl (gX (Ht rfl) (Ht rfl)) (eX (cK (dQ (Ht rfl) (fun hb=>?_) (fun hb=>?_)))))
 ·simp only [decide_eq_true_eq] at hb
  refine cU (cK (eG (ts (rm rfl (ra rfl (eX (ts (rm rfl (rm rfl (rm rfl (ro rfl (dZ U_54 Z_32 (Ht rfl) (Ht rfl) rfl (dY (rM hb))) (ro rfl (dJ A_32 Z_32 (Ht rfl)) (ro rfl (iQ (l[k]) (Ht rfl) ⟨(Ht rfl),trivial⟩) (eX (dQ (Ht rfl) (fun hc=>?_) (fun hc=>?_))))))))))))))))
  ·have hp : p l[k] = true := hc
   refine ts (rm rfl (ra rfl (eX (fW rfl (fX (eU rfl) ?_)))))
   exact (aS (Dj (rM hb) hp hn).symm)
  ·have hp : p l[k] = false := hc
   refine cU (cA (cY (ro rfl (dV (Ht rfl) (cJ 1) z6) (rm rfl (eX ?_)))))
   refine fU (k + 1) ⟨hb, fun i x h1 h2 => by
    by_cases e:i = k
    ·subst e; rw [rM hb] at h2; obtain rfl:=Option.some.inj h2; exact hp
    ·exact hn i x zo h2⟩ zo (zS rfl) aY
 ·simp only [decide_eq_false_iff_not] at hb
  refine gV rfl (ts (ro rfl (cQ cV) (eX (fW rfl (fX (eU rfl) ?_)))))
  exact (aS (vO (fun i x h=>hn i x (by have:=(List.getElem?_eq_some_iff.1 h).1; omega) h)).symm)
theorem uV {γ:Type} {l:List γ} {T:γ → Ty} {p:γ → Bool} [sh:∀ x,bN (T x) 5 true] (hl:l.length ≤ 1000000):bE Tryz.prog 245 [jL 5 (l.map T),xT Tryz.prog γ (fun x=>[T x]) (fun x=>aB (p x))] (aB (l.any p)):=by
 refine bE.intro Tryz.func245 rfl Tryz.ntmps245 rfl (fun cx=>(ts (ro rfl (cQ cV) (eX (ts (rm rfl (rm rfl (ro rfl (cZ Tryz.call284 (Av zo) ⟨(Ht rfl),(Ht rfl),trivial⟩) (ro rfl (lE (Ht rfl) cV) (ra rfl (eX (fW rfl (fX (eU rfl) ?_)))))))))))))
 exact (hZ (yZ p l))
theorem Aw {γ:Type} {l:List γ} {T:γ → Ty} {p:γ → Bool} [sh:∀ x,bN (T x) 1 false] (hl:l.length ≤ 1000000):bE Tryz.prog 208 [jL 1 (l.map T),xT Tryz.prog γ (fun x=>[T x]) (fun x=>aB (p x))] (aC .i64 (yY p l)):=by
 refine bE.intro Tryz.func208 rfl Tryz.ntmps208 rfl (fun cx=>(ts (ro rfl (cQ (cJ 0)) (eX (cK (ts (rm rfl (ro rfl (dG U_78 (Ht rfl) aA) (ro rfl (cX (cJ 0)) (eX (eG ?_)))))))))))
 refine eR (fun (k : Nat) => k ≤ l.length ∧ ∀ (i : Nat) (x : γ), i < k → l[i]? = some x → p x = false) (fun (k : Nat) => l.length - k) (fun (k : Nat) => [(0, jL 1 (l.map T)), (1, xT Tryz.prog γ (fun x => [T x]) (fun x => aB (p x))), (7, NT .i64 l.length), (8, NT .i64 k)]) (fun (k : Nat) => []) 0 ⟨Nat.zero_le _, fun i x h => by omega⟩
  (zS rfl) aY (fun k ⟨hk,hn⟩=>?_)
 refine ts (ro rfl (gX (Ht rfl) (Ht rfl)) (eX (cK (dQ (Ht rfl) (fun hb=>?_) (fun hb=>?_)))))
 ·simp only [decide_eq_true_eq] at hb
  refine cU (cK (eG (ts (rm rfl (ra rfl (eX (ts (rm rfl (rm rfl (rm rfl (ro rfl (dZ U_78 Z_54 (Ht rfl) (Ht rfl) rfl (dY (rM hb))) (ro rfl (dJ A_54 Z_54 (Ht rfl)) (ro rfl (iQ (l[k]) (Ht rfl) ⟨(Ht rfl),trivial⟩) (eX (dQ (Ht rfl) (fun hc=>?_) (fun hc=>?_))))))))))))))))
  ·have hp : p l[k] = true := hc
   refine ts (rm rfl (ra rfl (eX (fW rfl (fX (eU rfl) ?_)))))
   exact (aS (Dj (rM hb) hp hn).symm)
  ·have hp : p l[k] = false := hc
   refine cU (cA (cY (ro rfl (dV (Ht rfl) (cJ 1) z6) (rm rfl (eX ?_)))))
   refine fU (k + 1) ⟨hb, fun i x h1 h2 => by
    by_cases e:i = k
    ·subst e; rw [rM hb] at h2; obtain rfl:=Option.some.inj h2; exact hp
    ·exact hn i x zo h2⟩ zo (zS rfl) aY
 ·simp only [decide_eq_false_iff_not] at hb
  refine gV rfl (ts (ro rfl (cQ cV) (eX (fW rfl (fX (eU rfl) ?_)))))
  exact (aS (vO (fun i x h=>hn i x (by have:=(List.getElem?_eq_some_iff.1 h).1; omega) h)).symm)
theorem uW {γ:Type} {l:List γ} {T:γ → Ty} {p:γ → Bool} [sh:∀ x,bN (T x) 1 false] (hl:l.length ≤ 1000000):bE Tryz.prog 118 [jL 1 (l.map T),xT Tryz.prog γ (fun x=>[T x]) (fun x=>aB (p x))] (aB (l.any p)):=by
 refine bE.intro Tryz.func118 rfl Tryz.ntmps118 rfl (fun cx=>(ts (ro rfl (cQ cV) (eX (ts (rm rfl (rm rfl (ro rfl (cZ Tryz.call208 (Aw zo) ⟨(Ht rfl),(Ht rfl),trivial⟩) (ro rfl (lE (Ht rfl) cV) (ra rfl (eX (fW rfl (fX (eU rfl) ?_)))))))))))))
 exact (hZ (yZ p l))
theorem Ba {x:Qi} {L:Nat} [hx:aL x L] (h:L ≤ 8796093022208):bE Tryz.prog 136 [aM x] (aB (gL x)):=by
 haveI hz:aL Qi.zero 1:=aL.zero (Nat.le_refl 1)
 refine bE.intro Tryz.func136 rfl Tryz.ntmps136 rfl (fun cx=>(ts (rn rfl (fG (Ht rfl)) fun B1=>(ro rfl (cQ cV) (eX (ts (ro rfl (eJ A_32 Z_32 (Ht rfl) (i:=0) rfl rfl rfl) (ro rfl (cZ K_35 oN ⟨(Ht rfl),trivial⟩) (rm rfl (fQ rfl rfl (eK rfl rfl (Ht rfl) (fun h=>eJ A_32 Z_32 (Ht rfl) (i:=0) rfl rfl rfl)) (fQ rfl rfl (eK rfl rfl (Ht rfl) (fun h=>aF.imp (wM ) jH)) (fQ rfl rfl (eK rfl rfl (Ht rfl) (fun h=>cZ K_30 (oF zo) ⟨(fJ rfl h),(fJ rfl h),trivial⟩)) ?_))))))))))))
 refine fQ rfl rfl (eK rfl rfl (Ht rfl) (fun h=>mD (fJ rfl h) cV)) (ro rfl (eS (Ht rfl) (fun h=>(fJ rfl h))) (ra rfl (eX (fW rfl (fX (eU rfl) ?_)))))
 exact (hZ (Bn x))
theorem wR {x:Qi} {L:Nat} [hx:aL x L] (h:L ≤ 8796093022208):bE Tryz.prog 246 [aM x] (aB (!gL x)):=by
 refine bE.intro Tryz.func246 rfl Tryz.ntmps246 rfl (fun cx=>(ts (rn rfl (fG (Ht rfl)) fun B1=>(ro rfl (cQ cV) (eX (ts (ro rfl (eJ A_32 Z_32 (Ht rfl) (i:=0) rfl rfl rfl) (ro rfl (cZ Tryz.call136 (Ba zo) ⟨(Ht rfl),trivial⟩) (ro rfl (fR (Ht rfl)) (ra rfl (eX ?_)))))))))))
 exact fW rfl (eU rfl)
theorem yH {z:List Qi} {L:Nat} (hz:eO z L) (h:L ≤ 8796093022208) (hl:z.length ≤ 1000):bE Tryz.prog 194 [fB z] (aC .i64 (if z.all gL then 0 else 1)):=by
 obtain ⟨l,hzl⟩:∃ l:List {x:Qi // aL x L},z = l.map Subtype.val:=⟨z.attach.map fun x=>⟨x.1,hz x.1 x.2⟩,by simp⟩
 subst hzl
 have hll:l.length ≤ 1000:=by simpa using hl
 refine bE.intro Tryz.func194 rfl Tryz.ntmps194 rfl (fun cx=>(oE (E':=[(0,_)]) (aZ rfl (oV (Us:=l.map fun x=>aM x.1) (by simp [List.map_map,Function.comp_def])) aX) ?_))
 refine ts (ro rfl (cQ (cJ 0)) (eX (cK (ts (rm rfl (ro rfl (cZ Tryz.call245 (uV (l:=l) (T:=fun x=>aM x.1) (p:=fun x=>!gL x.1) zo) ⟨(Ht rfl),(aN.fn Tryz.call246 (γ:={x:Qi // aL x L}) (Ts:=fun x=>[aM x.1]) (U:=fun x=>aB (!gL x.1)) (fun x=>haveI:=x.2; wR h)),trivial⟩) (eX (dQ (Ht rfl) (fun hb=>?_) (fun hb=>?_)))))))))
 ·have hn : ¬ (l.map Subtype.val).all gL = true := by simp at hb ⊢; exact hb
  refine ts (ro rfl (cQ (cJ 1)) (eX (fW rfl (fX (eU rfl) ?_))))
  exact (aS (by rw [if_neg hn]; rfl))
 ·have hn : (l.map Subtype.val).all gL = true := by simp at hb ⊢; exact hb
  refine cU (ts (ro rfl (cQ (cJ 0)) (eX (fW rfl (fX (eU rfl) ?_)))))
  exact (aS (by rw [if_pos hn]; rfl))
theorem Hb {l:List Qi} (hl:l.length ≤ 1000):iF Tryz.prog 120 [fB l] [] (Value) (fun v=>Is v) (fun v=>[bA 32 5 v (l.map aM)]) (fun _=>True):=by
 refine iF.intro Tryz.func120 rfl Tryz.ntmps120 rfl (fun cx Z=>(ts (ro rfl (cQ cV) (eX (cK (ts (rm rfl (ro rfl (Jo U_54 (Ht rfl)) (eX (Lt (Ht rfl) (fun hb=>?_) (fun hb=>?_)))))))))))
 ·have hT : l.map aM = [] := hb rfl
  refine ts (ro rfl (cQ cV) (eX (Gp 32 5 ?_)))
  exact kA (.slice none 0 0) trivial [0,1] ⟨⟨_,rfl,fun _ _ _ h=>h⟩,⟨_,rfl,(cD hT.symm)⟩,trivial⟩ (by decide) (xL rfl (eU rfl))
 ·refine cU (ts (rn rfl (zJ U_54 Z_32 O_32) fun B5 => (rm rfl (Eo (inf := Tryz.t32) nN kT rfl rfl rfl (Ht rfl) (Ht rfl) (i := 1) rfl (fun T hT => by obtain ⟨x, _, rfl⟩ := List.mem_map.1 hT; exact El.ag rfl) (by show _ * 88 ≤ _; simp only [List.length_map, List.length_nil]; omega) (by simp only [List.length_map, List.length_nil]; omega) rfl (fun v2 => ?_)))))
  refine ra rfl (eX ?_)
  exact kA v2 trivial [0,1] ⟨⟨_,rfl,fun _ _ _ h=>h⟩,⟨_,rfl,fun _ _ _ h=>h⟩,trivial⟩ (by decide) (xL rfl (eU rfl))
theorem Ly {l:List Qi} (hl:l.length ≤ 1000):bE Tryz.prog 120 [fB l] (fB l):=(Hb hl).fun fun v _=>lZ
theorem Md {n:Nat} {f:Nat → Nat → Qi} (hn:n ≤ 1000):iF Tryz.prog 144 [NT .i64 n,xT Tryz.prog (Fin n × Fin n) (fun x=>[NT .i64 x.1.1,NT .i64 x.2.1]) (fun x=>aM (f x.1.1 x.2.1))] [] (Nat) (fun B=>Is (.slice (some ⟨B,0,none⟩) n n)) (fun B=>[tZ B 54 32 5 (dF aM (tab n fun i=>tab n (f i)))]) (fun _=>True):=by
 refine iF.intro Tryz.func144 rfl Tryz.ntmps144 rfl (fun cx Z=>(ts (ro rfl (cQ cV) (eX (ts (rm rfl (rn rfl (fP (T:=Is (.slice none 0 0)) (i:=Tryz.t54) V_78 nU rfl rfl (Ht rfl) rfl (fun _=>rfl) trivial (by show 24 * _ ≤ _; omega) zo) fun B9=>(ra rfl (eX (cK (ts (rm rfl (ro rfl (jB U_78 (Ht rfl)) (ro rfl (cX (cJ 0)) (eX (eG (oK 1 rfl (sQ (e:=32) (s:=5)) ?_)))))))))))))))))
 refine fM (fun (k : Nat) (m : List (List Qi)) => jD (fun i => tab n (f i)) n m k) (fun (k : Nat) (m : List (List Qi)) => n - k) (fun (k : Nat) (m : List (List Qi)) => [(0, NT .i64 n), (1, xT Tryz.prog (Fin n × Fin n) (fun x => [NT .i64 x.1.1, NT .i64 x.2.1]) (fun x => aM (f x.1.1 x.2.1))), (5, Is (.slice (some ⟨B9, 0, none⟩) n n)), (11, NT .i64 n), (12, NT .i64 k)]) (fun (k : Nat) (m : List (List Qi)) => [Z, tZ B9 54 32 5 (dF aM m)]) 0 (List.replicate n []) (jD.start _ _ _)
  (zS rfl) (aU (fun _ _ _ h=>h) (aU (cR (nF aM n)) aY)) (fun k m hS=>?_)
 refine ts (ro rfl (gX (Ht rfl) (Ht rfl)) (eX (cK (dQ (Ht rfl) (fun hk=>?_) (fun hk=>?_)))))
 ·simp only [decide_eq_true_eq] at hk
  have hlen:=hS.len
  refine sE 1 (k) rfl (Ip (m:=m) (i:=k) zo) (fun v=>(cU (cK (eG (ts (rm rfl (ra rfl (eX (ts (rm rfl (rm rfl (rm rfl (rn rfl (nW (T:=aM Qi.zero) (i:=Tryz.t32) nN kT rfl rfl (Ht rfl) rfl kH (El.ag rfl) (by show 88 * _ ≤ _; omega) zo) fun B18=>(ro rfl (fY U_78 Z_54 (Ht rfl) (Ht rfl) rfl zo (by rw [Nat.mul_one,Nat.zero_add])) ?_))))))))))))))
  refine xW Z_54 (Ht rfl) (Ht rfl) (by simp; omega) (j:=1) (l:=3) rfl rfl rfl ?_
  refine eX (cK (dE [0,1,3] rfl (by decide) (cY (rm rfl (rm rfl (ro rfl (fY U_78 Z_54 (Ht rfl) (Ht rfl) rfl zo (by rw [Nat.mul_one,Nat.zero_add])) ?_))))))
  refine ro rfl (mE A_54 Z_54 (Ht rfl) (j:=1) rfl) (ro rfl (pX U_54 (Ht rfl) (i:=2) rfl (show ((List.replicate n (aM Qi.zero)).length:Int) = ((n:Nat):Int) by simp)) (ro rfl (cX (cJ 0)) (eX (eG ?_))))
  refine fM (fun (j : Nat) (out : List Qi) => jD (f k) n out j) (fun (j : Nat) (out : List Qi) => n - j) (fun (j : Nat) (out : List Qi) => [(0, NT .i64 n), (1, xT Tryz.prog (Fin n × Fin n) (fun x => [NT .i64 x.1.1, NT .i64 x.2.1]) (fun x => aM (f x.1.1 x.2.1))), (5, Is (.slice (some ⟨B9, 0, none⟩) n n)), (6, NT .i64 k), (11, NT .i64 n), (12, NT .i64 k), (24, NT .i64 n), (25, NT .i64 j)]) (fun (j : Nat) (out : List Qi) => [Z, Iz B9 54 32 5 (dF aM m) k B18, bA 32 5 B18 (out.map aM)]) 0 (List.replicate n Qi.zero) (jD.start _ _ _)
   (zS rfl) (aU (fun _ _ _ h=>h) (aU (fun _ _ _ h=>h) (aU (cD (nG aM _ _)) aY))) (fun j out hT=>?_)
  refine ts (ro rfl (gX (Ht rfl) (Ht rfl)) (eX (cK (dQ (Ht rfl) (fun hj=>?_) (fun hj=>?_)))))
  ·simp only [decide_eq_true_eq] at hj
   have hlen2:=hT.len
   refine cU (cK (eG (ts (rm rfl (ra rfl (eX (fZ (m:=9) (dp 5 rfl (cX (Ht rfl)) (dp 6 rfl (cX (Ht rfl)) (fA 28 0 29 1 rfl (fY U_78 Z_54 (Ht rfl) (Ht rfl) rfl zo (by rw [Nat.mul_one,Nat.zero_add])) ?_))))))))))
   refine dq 30 2 rfl (mE A_54 Z_54 (Ht rfl) (j:=1) rfl) (dp 7 rfl (cX (Ht rfl)) (dp 1 rfl (cX (Ht rfl)) (dp 6 rfl (cX (Ht rfl)) (dp 7 rfl (cX (Ht rfl)) (C.D_step (Ei:=[(33,_),(34,_),(35,_)]) rfl rfl (bV (bG 5 rfl rfl) (bV (bG 6 rfl rfl) (bV (bG 7 rfl rfl) bW))) (dX rfl (iQ ((⟨k,hk⟩,⟨j,hj⟩):Fin n × Fin n) (Ht rfl) ⟨(Ht rfl),(Ht rfl),trivial⟩)) (fV mixed rfl (by kernel_rfl) (zF (zF (aJ (aV ?_))))))))))
   refine ro rfl (iC U_54 Z_32 (Ht rfl) (Ht rfl) rfl (i:=2) rfl (by first | omega | (simp; omega)) rfl) (rA Z_32 (Ht rfl) (Ht rfl) (El.ag rfl) (i:=2) rfl rfl (by first | omega | (simp; omega)) rfl (eX (cA (cY (ro rfl (dV (Ht rfl) (cJ 1) z6) (rm rfl (eX (fU (j + 1,_) (hT.next hj rfl) (by dsimp only; omega) (zS rfl) (aU (fun _ _ _ h=>h) (aU (fun _ _ _ h=>h) (aU (cD (kJ aM _ _ _)) aY)))))))))))
  ·simp only [decide_eq_false_iff_not] at hj
   obtain rfl:j = n:=Nat.le_antisymm hT.kle zo
   have hfin:=hT.fin
   refine gV rfl (cA (iL 1 2 rfl rfl (by decide) (by simp; omega) ?_))
   refine cY (ro rfl (dV (Ht rfl) (cJ 1) z6) (rm rfl (eX (dE [0,1] rfl (by decide) (fU (k + 1,_) (hS.next hk hfin) (by dsimp only; omega) (zS rfl) (aU (fun _ _ _ h=>h) (aU (cR (jK aM _ _ _)) aY)))))))
 ·simp only [decide_eq_false_iff_not] at hk
  obtain rfl:k = n:=Nat.le_antisymm hS.kle zo
  have hfin:=hS.fin
  refine gV rfl (ts (rm rfl (ra rfl (eX ?_))))
  exact kA B9 trivial [0,1] ⟨⟨_,rfl,fun _ _ _ h=>h⟩,⟨_,rfl,(cR (by rw [hfin]))⟩,trivial⟩ (by decide) (xL rfl (eU rfl))
theorem Ru {n:Nat} {f:Nat → Nat → Qi} (hn:n ≤ 1000):bE Tryz.prog 144 [NT .i64 n,xT Tryz.prog (Fin n × Fin n) (fun x=>[NT .i64 x.1.1,NT .i64 x.2.1]) (fun x=>aM (f x.1.1 x.2.1))] (eL (tab n fun i=>tab n (f i))):=(Md hn).fun fun B _ v S V h1 h2=>oV (by simp [dF,List.map_map,Function.comp_def]) v V (Df (by simp [dF,bI]) (Nat.le_refl _) v S V h1 h2)
end
section
open Go Go.RowKit
theorem wN {n : Nat} {E : bC} {H : Hp} {d : Option Tmp} {t : TypeId} {pos : String} {af : Array Edge} {g : Option (Nat × Bool)}  :
  aF Tryz.prog n E H ⟨d,.build 80 #[],t,pos,af,g⟩ (dO [Is (.slice none 0 0),Is (.slice none 0 0)]) :=
 fE (parts := []) fun a V w hs => by
  refine ⟨.agg #[(.slice none 0 0),(.slice none 0 0)],?_,[(.slice none 0 0),(.slice none 0 0)],rfl,aW (⟨rfl,trivial⟩) (aW (⟨rfl,trivial⟩) (aG))⟩
  simp [Instr.build,Instr.fill,Sem.run_bind,Result.andThen,dM,O_80,U_80,Z_54,Z_78]
theorem Ar {n : Nat} {E : bC} {H : Hp} {d : Option Tmp} {t : TypeId} {pos : String} {af : Array Edge} {g : Option (Nat × Bool)} {x0 x1 : Operand} {T0 T1 : Ty} [s0 : bN T0 1 false] (h0 : aN E x0 T0) [s1 : bN T1 1 false] (h1 : aN E x1 T1) :
  aF Tryz.prog n E H ⟨d,.build 80 #[(0,x0),(1,x1)],t,pos,af,g⟩ (dO [T0,T1]) :=
 fE (parts := [(0, x0), (1, x1)]) fun a V w hs => by
  have p0:=h0 n V a hs
  generalize e0:a.eval x0 = v0 at p0
  have q0:=(s0.ok v0 V p0).2.2 rfl
  have p1:=h1 n V a hs
  generalize e1:a.eval x1 = v1 at p1
  have q1:=(s1.ok v1 V p1).2.2 rfl
  refine ⟨.agg #[v0,v1],?_,[v0,v1],rfl,aW (⟨p0,q0⟩) (aW (⟨p1,q1⟩) (aG))⟩
  simp [e0,e1,Instr.build,Instr.fill,Sem.run_bind,Result.andThen,dM,q0.cells,q1.cells,O_80,U_80,Z_54,Z_78]
theorem wV (a:Addr) (w:World):(Instr.fieldAt 80 (.pointer (some a)) 0).run Tryz.prog w = .ok (.pointer (some (a.add 0))) w:=by
 simp [Instr.fieldAt,Instr.sureAddr,fieldPlace,Sem.run_bind,Result.andThen,U_80,Z_54]
end
section
open Go Go.RowKit
theorem Rn {s:List (List Qi)} {n i j:Nat} (hs:gC s n n) (hi:i < n) (hj:j < n):bE Tryz.prog 195 [NT .i64 i,NT .i64 j,PT (eL s)] (aM (gm s i j)):=by
 have h1:=hs.1; have h2:=hs.row hi
 refine bE.intro Tryz.func195 rfl Tryz.ntmps195 rfl (fun cx=>(ts (rn rfl (eW (Ts:=[Is (.bool false),Is (.slice none 0 0),Is (.bool false),Is (.slice none 0 0),Is (.slice none 0 0)]) O_32 rfl (fun V=>aW zd (aW zd (aW zd (aW zd (aW zd (aG))))))) fun B5=>(eX (ts (ro rfl (dJ A_78 Z_78 (Ht rfl)) (rm rfl (ro rfl (dZ U_78 Z_54 (Ht rfl) (Ht rfl) rfl (dY (dU (d:=[]) zo))) (ro rfl (dJ A_54 Z_54 (Ht rfl)) ?_)))))))))
 refine rm rfl (ro rfl (dZ U_54 Z_32 (Ht rfl) (Ht rfl) rfl (dY (dU (d:=Qi.zero) zo))) (ro rfl (dJ A_32 Z_32 (Ht rfl)) (gQ Z_32 (Ht rfl) (Ht rfl) rfl (i:=0) rfl (aK rfl) rfl rfl (eX ?_))))
 exact fW rfl (fK A_32 Z_32 rfl (i:=0) rfl rfl)
theorem Hk {z:List Qi} {s:List (List Qi)} {L:Nat} (hz:eO z L) (h:L ≤ 8796093022208) (hl:z.length ≤ 1000) (hl2:s.length ≤ 1000):bE Tryz.prog 98 [fB z,eL s] (gA [mL (oY (fI z s) z) (oY (fI z s) s),aC .i64 (fI z s)]):=by
 refine bE.intro Tryz.func98 rfl Tryz.ntmps98 rfl (fun cx=>(ts (rn rfl (Jf (Ht rfl)) fun B3=>(rn rfl (eW (Ts:=[Is (.slice none 0 0),Is (.slice none 0 0)]) O_80 rfl (fun V=>aW zd (aW zd (aG)))) fun B4=>(ro rfl (cQ (cJ 0)) (eX (cK (cK (gJ (i:=0) (tt:=3) rfl rfl tV (cY (rm rfl (ro rfl (dG U_54 (Ht rfl) aA) (ro rfl (gX (Ht rfl) (cJ 1)) (rm rfl (fQ rfl rfl (eK rfl rfl (Ht rfl) (fun h=>cX (Ht rfl))) (fQ rfl rfl (eK rfl rfl (Ht rfl) (fun h=>dG U_54 (fJ rfl h) aA)) ?_))))))))))))))))
 refine fQ rfl rfl (eK rfl rfl (Ht rfl) (fun h=>iB (fJ rfl h) (cJ 8))) (ro rfl (gH (Ht rfl) (fun h=>(fJ rfl h))) (rm rfl (fQ rfl rfl (eK rfl rfl (Ht rfl) (fun h=>dJ A_78 Z_78 (Ht rfl))) (fQ rfl rfl (eK rfl rfl (Ht rfl) (fun h=>dG U_78 (fJ rfl h) aA)) (fQ rfl rfl (eK rfl rfl (Ht rfl) (fun h=>cX (Ht rfl))) (fQ rfl rfl (eK rfl rfl (Ht rfl) (fun h=>dG U_54 (fJ rfl h) aA)) (fQ rfl rfl (eK rfl rfl (Ht rfl) (fun h=>jO (fJ rfl h) (fJ rfl h))) ?_)))))))
 refine ro rfl (gH (Ht rfl) (fun h=>(fJ rfl h))) (eX (dQ (Ht rfl) (fun hb=>?_) (fun hb=>?_)))
 ·have he := zI hb
  refine ts (ro rfl (aF.imp (wN ) xB) (gQ Z_80 (Ht rfl) (Ht rfl) rfl (i:=1) rfl (aK rfl) rfl rfl (ro rfl (cQ (cJ 4)) (eX (cB rfl (fX (fK A_80 Z_80 rfl (i:=1) rfl rfl) ?_) (fX (eU rfl) ?_))))))
  ·exact (xA he (by decide))
  ·exact (aS he.symm)
 ·refine cU (cK (ts (ro rfl (dJ A_78 Z_78 (Ht rfl)) (ro rfl (dG U_78 (Ht rfl) aA) (ro rfl (cX (cJ 0)) (eX (eG ?_)))))))
  refine eR (fun (k : Nat) => k ≤ s.length ∧ ∀ (i : Nat) (r : List Qi), i < k → s[i]? = some r → r.length = z.length) (fun (k : Nat) => s.length - k) (fun (k : Nat) => [(0, fB z), (3, PT (eL s)), (4, dB B4 0), (25, eL s), (26, NT .i64 s.length), (27, NT .i64 k)]) (fun (k : Nat) => [SA.emp, box B4 80 [Is (.slice none 0 0), Is (.slice none 0 0)]]) 0 ⟨Nat.zero_le _, fun i r h => by omega⟩
   (zS rfl) (dL.refl _) (fun k ⟨hk,hr⟩=>?_)
  refine ts (ro rfl (gX (Ht rfl) (Ht rfl)) (eX (cK (dQ (Ht rfl) (fun hc=>?_) (fun hc=>?_)))))
  ·simp only [decide_eq_true_eq] at hc
   refine cU (cK (eG (ts (ro rfl (dZ U_78 Z_54 (Ht rfl) (Ht rfl) rfl (dY (rM hc))) (ro rfl (dJ A_54 Z_54 (Ht rfl)) (ra rfl (eX (ts (rm rfl (ro rfl (dG U_54 (Ht rfl) aA) (rm rfl (ro rfl (dG U_54 (Ht rfl) aA) (ro rfl (jO (Ht rfl) (Ht rfl)) (eX (dQ (Ht rfl) (fun hd=>?_) (fun hd=>?_))))))))))))))))
   ·have hd2 : ¬ (s[k]).length = z.length := by simpa using hd
    have he:=Bk (rM hc) hd2
    refine ts (ro rfl (aF.imp (wN ) xB) (gQ Z_80 (Ht rfl) (Ht rfl) rfl (i:=1) rfl (aK rfl) rfl rfl (ro rfl (cQ (cJ 4)) (eX (cB rfl (fX (fK A_80 Z_80 rfl (i:=1) rfl rfl) ?_) (fX (eU rfl) ?_))))))
    ·exact (xA he (by decide))
    ·exact (aS he.symm)
   ·have hd2 : (s[k]).length = z.length := by simpa using hd
    refine cU (cA (cY (ro rfl (dV (Ht rfl) (cJ 1) z6) (rm rfl (eX ?_)))))
    refine fU (k + 1) ⟨hc, fun i r h1 h2 => by
      by_cases e:i = k
      ·subst e; rw [rM hc] at h2; obtain rfl:=Option.some.inj h2; exact hd2
      ·exact hr i r zo h2⟩ zo (zS rfl) (dL.refl _)
  ·simp only [decide_eq_false_iff_not] at hc
   have hall:∀ (i:Nat) (r:List Qi),s[i]? = some r → r.length = z.length:=fun i r h=>hr i r (by have:=(List.getElem?_eq_some_iff.1 h).1; omega) h
   have hpos:=Bj hb hall
   refine gV rfl (cK (ts (rm rfl (ro rfl (cZ Tryz.call194 (yH hz h zo) ⟨(Ht rfl),trivial⟩) (ra rfl (eX (ts (rm rfl (ro rfl (lF (Ht rfl) cV) (eX (dQ (Ht rfl) (fun hd=>?_) (fun hd=>?_))))))))))))
   ·have hd2 : ¬ (if z.all gL = true then (0 : Int) else 1) = 0 := by simpa using hd
    refine ts (ro rfl (aF.imp (wN ) xB) (rm rfl (gQ Z_80 (Ht rfl) (Ht rfl) rfl (i:=1) rfl (aK rfl) rfl rfl (ra rfl (eX (cB rfl (fX (fK A_80 Z_80 rfl (i:=1) rfl rfl) ?_) (fX (eU rfl) ?_)))))))
    ·exact (xA hpos hd2)
    ·exact (aS hpos.symm)
   ·have hd2 : (if z.all gL = true then (0 : Int) else 1) = 0 := by simpa using hd
    have he:=hpos.trans hd2
    obtain ⟨h1,h2,hsh,_⟩:=vP he
    refine cU (ts (rm rfl (ro rfl (cZ Tryz.call120 (Ly zo) ⟨(Ht rfl),trivial⟩) (rm rfl (ro rfl (dG U_54 (Ht rfl) aA) (ro rfl (xE (γ:=Fin z.length × Fin z.length) (Ts:=fun x=>[NT .i64 x.1.1,NT .i64 x.2.1]) (U:=fun x=>aM (gm s x.1.1 x.2.1)) Tryz.call195 (fun x=>Rn hsh x.1.2 x.2.2) ⟨(Ht rfl),trivial⟩) (ro rfl (cZ Tryz.call144 (eQ (Ru (n:=z.length) (f:=gm s) zo) (oV (by rw [← sR hsh]))) ⟨(Ht rfl),(Ht rfl),trivial⟩) ?_)))))))
    refine ro rfl (Ar (Ht rfl) (Ht rfl)) (gQ Z_80 (Ht rfl) (Ht rfl) rfl (i:=1) rfl (aK rfl) rfl rfl (ro rfl (cQ (cJ 0)) (eX (cB rfl (fX (fK A_80 Z_80 rfl (i:=1) rfl rfl) ?_) (fX (eU rfl) ?_)))))
    ·exact (Je he)
    ·exact (aS he.symm)
theorem sF {z:List Qi} {s:List (List Qi)}:bE Tryz.prog 117 [mL z s] (NT .i64 z.length):=by
 refine bE.intro Tryz.func117 rfl Tryz.ntmps117 rfl (fun cx=>(ts (rn rfl (fG (Ht rfl)) fun B1=>(ro rfl (cQ (cJ 0)) (eX (ts (ro rfl (eZ wV (Ht rfl) rfl) (ro rfl (eY A_54 Z_54 (Ht rfl) (i:=0) rfl rfl) (ro rfl (dG U_54 (Ht rfl) aA) (ra rfl (eX ?_)))))))))))
 exact fW rfl (eU rfl)
theorem Hj {z:List Qi} {s:List (List Qi)} {i:Int}:bE Tryz.prog 209 [mL z s,aC .i64 i] (aB (decide (1 ≤ i ∧ i ≤ z.length))):=by
 refine bE.intro Tryz.func209 rfl Tryz.ntmps209 rfl (fun cx=>(ts (rn rfl (fG (Ht rfl)) fun B2=>(ro rfl (cQ cV) (eX (ts (rm rfl (ro rfl (lE (Ht rfl) cV) (rm rfl (fQ rfl rfl (eK rfl rfl (Ht rfl) (fun h=>cX (Ht rfl))) (fQ rfl rfl (eK rfl rfl (Ht rfl) (fun h=>eZ wV (Ht rfl) rfl)) (fQ rfl rfl (eK rfl rfl (Ht rfl) (fun h=>eY A_54 Z_54 (fJ rfl h) (i:=0) rfl rfl)) (fQ rfl rfl (eK rfl rfl (Ht rfl) (fun h=>dG U_54 (fJ rfl h) aA)) (fQ rfl rfl (eK rfl rfl (Ht rfl) (fun h=>oT (fJ rfl h) (fJ rfl h))) ?_))))))))))))))
 refine ro rfl (eS (Ht rfl) (fun h=>(fJ rfl h))) (ra rfl (eX (fW rfl (fX (eU rfl) ?_))))
 exact (hZ (by rw [Bool.eq_iff_iff]; simp))
end
section
open Go Go.RowKit
theorem Na (a:Addr) (w:World):(Instr.fieldAt 80 (.pointer (some a)) 1).run Tryz.prog w = .ok (.pointer (some (a.add 1))) w:=by
 simp [Instr.fieldAt,Instr.sureAddr,fieldPlace,Sem.run_bind,Result.andThen,U_80,Z_78]
theorem pL (a:Addr) (w:World):(Instr.fieldAt 84 (.pointer (some a)) 1).run Tryz.prog w = .ok (.pointer (some (a.add 2))) w:=by
 simp [Instr.fieldAt,Instr.sureAddr,fieldPlace,Sem.run_bind,Result.andThen,U_84,Z_78]
end
section
open Go Go.RowKit
theorem Pz {z:List Qi} {s:List (List Qi)} {i:Int} (hl:z.length ≤ 1000):bE Tryz.prog 124 [mL z s,aC .i64 i] (gA [aM (Lk z i),aC .i64 (if 1 ≤ i ∧ i ≤ z.length then 0 else 1)]):=by
 refine bE.intro Tryz.func124 rfl Tryz.ntmps124 rfl (fun cx=>(ts (rn rfl (fG (Ht rfl)) fun B2=>(rn rfl (eW (Ts:=[Is (.bool false),Is (.slice none 0 0),Is (.bool false),Is (.slice none 0 0),Is (.slice none 0 0)]) O_32 rfl (fun V=>aW zd (aW zd (aW zd (aW zd (aW zd (aG))))))) fun B4=>(ro rfl (cQ (cJ 0)) (eX (cK (ts (ro rfl (eJ A_80 Z_80 (Ht rfl) (i:=0) rfl rfl rfl) (rm rfl (ro rfl (cZ Tryz.call209 Hj ⟨(Ht rfl),(Ht rfl),trivial⟩) ?_)))))))))))
 refine ro rfl (fR (Ht rfl)) (eX (dQ (Ht rfl) (fun hb=>?_) (fun hb=>?_)))
 ·have hn : ¬ (1 ≤ i ∧ i ≤ (z.length : Int)) := by simpa only [Bool.not_eq_true', decide_eq_false_iff_not] using hb
  refine ts (ro rfl (aF.imp (wM ) jH) (gQ Z_32 (Ht rfl) (Ht rfl) rfl (i:=1) rfl (aK rfl) rfl rfl (ro rfl (cQ (cJ 1)) (eX (cB rfl (fX (fK A_32 Z_32 rfl (i:=1) rfl rfl) ?_) (fX (eU rfl) ?_))))))
  ·exact (iP (by rw [Lk,if_neg hn]))
  ·exact (aS (by rw [if_neg hn]; rfl))
 ·have hp : 1 ≤ i ∧ i ≤ (z.length : Int) := by simpa only [Bool.not_eq_false', decide_eq_true_eq] using hb
  have hq:(i - 1).toNat < z.length:=by omega
  refine cU (ts (ro rfl (eZ wV (Ht rfl) rfl) (ro rfl (eY A_54 Z_54 (Ht rfl) (i:=0) rfl rfl) (rm rfl (ro rfl (gT (Ht rfl) cV (sX zo)) (ro rfl (dZ U_54 Z_32 (Ht rfl) (Ht rfl) (by omega:i - 1 = (((i - 1).toNat:Nat):Int)) (dY (dU (d:=Qi.zero) hq))) (ro rfl (dJ A_32 Z_32 (Ht rfl)) (gQ Z_32 (Ht rfl) (Ht rfl) rfl (i:=1) rfl (aK rfl) rfl rfl (ro rfl (cQ (cJ 0)) (eX (cB rfl (fX (fK A_32 Z_32 rfl (i:=1) rfl rfl) ?_) (fX (eU rfl) ?_))))))))))))
  ·exact (iP (by rw [Lk,if_pos hp]))
  ·exact (aS (by rw [if_pos hp]; rfl))
theorem Wo {z:List Qi} {s:List (List Qi)} {i j:Int} (hs:gC s z.length z.length) (hl:z.length ≤ 1000):bE Tryz.prog 130 [mL z s,aC .i64 i,aC .i64 j] (gA [aM (Jw z.length s i j),aC .i64 (if (1 ≤ i ∧ i ≤ z.length) ∧ 1 ≤ j ∧ j ≤ z.length then 0 else 1)]):=by
 have hs1:=hs.1
 refine bE.intro Tryz.func130 rfl Tryz.ntmps130 rfl (fun cx=>(ts (rn rfl (fG (Ht rfl)) fun B3=>(rn rfl (eW (Ts:=[Is (.bool false),Is (.slice none 0 0),Is (.bool false),Is (.slice none 0 0),Is (.slice none 0 0)]) O_32 rfl (fun V=>aW zd (aW zd (aW zd (aW zd (aW zd (aG))))))) fun B6=>(ro rfl (cQ (cJ 0)) (eX (cK (ts (ro rfl (eJ A_80 Z_80 (Ht rfl) (i:=0) rfl rfl rfl) (rm rfl (ro rfl (cZ Tryz.call209 Hj ⟨(Ht rfl),(Ht rfl),trivial⟩) ?_)))))))))))
 refine ro rfl (fR (Ht rfl)) (rm rfl (fQ rfl rfl (eK rfl rfl (Ht rfl) (fun h=>eJ A_80 Z_80 (Ht rfl) (i:=0) rfl rfl rfl)) (fQ rfl rfl (eK rfl rfl (Ht rfl) (fun h=>cX (Ht rfl))) (fQ rfl rfl (eK rfl rfl (Ht rfl) (fun h=>cZ Tryz.call209 Hj ⟨(fJ rfl h),(fJ rfl h),trivial⟩)) (fQ rfl rfl (eK rfl rfl (Ht rfl) (fun h=>fR (fJ rfl h))) (ro rfl (gH (Ht rfl) (fun h=>(fJ rfl h))) (eX (dQ (Ht rfl) (fun hb=>?_) (fun hb=>?_)))))))))
 ·have hn : ¬ ((1 ≤ i ∧ i ≤ (z.length : Int)) ∧ 1 ≤ j ∧ j ≤ (z.length : Int)) := by simp only [Bool.or_eq_true, Bool.not_eq_true', decide_eq_false_iff_not] at hb; exact fun k => hb.elim (fun h => h k.1) (fun h => h k.2)
  refine ts (rn rfl (eW (Ts:=[Is (.bool false),Is (.slice none 0 0),Is (.bool false),Is (.slice none 0 0),Is (.slice none 0 0)]) O_32 rfl (fun V=>aW zd (aW zd (aW zd (aW zd (aW zd (aG))))))) fun B8=>(eX (ts (ro rfl (eJ A_32 Z_32 (Ht rfl) (i:=2) rfl rfl rfl) (gQ Z_32 (Ht rfl) (Ht rfl) rfl (i:=1) rfl (aK rfl) rfl rfl (ro rfl (cQ (cJ 1)) (eX (cB rfl (fX (fK A_32 Z_32 rfl (i:=1) rfl rfl) ?_) (fX (eU rfl) ?_)))))))))
  ·exact (fun v V k=>by rw [Jw,if_neg hn]; exact jH v V k)
  ·exact (aS (by rw [if_neg hn]; rfl))
 ·have hp : (1 ≤ i ∧ i ≤ (z.length : Int)) ∧ 1 ≤ j ∧ j ≤ (z.length : Int) := by simpa only [Bool.or_eq_false_iff, Bool.not_eq_false', decide_eq_true_eq] using hb
  have hq:(i - 1).toNat < s.length:=by omega
  have hq2:(j - 1).toNat < (s.getD (i - 1).toNat []).length:=by rw [hs.row zo]; omega
  refine cU (ts (ro rfl (eZ Na (Ht rfl) rfl) (ro rfl (eY A_78 Z_78 (Ht rfl) (i:=0) rfl rfl) (rm rfl (ro rfl (gT (Ht rfl) cV (sX zo)) (ro rfl (dZ U_78 Z_54 (Ht rfl) (Ht rfl) (by omega:i - 1 = (((i - 1).toNat:Nat):Int)) (dY (dU (d:=[]) hq))) (ro rfl (dJ A_54 Z_54 (Ht rfl)) (rm rfl (ro rfl (gT (Ht rfl) cV (sX zo)) (ro rfl (dZ U_54 Z_32 (Ht rfl) (Ht rfl) (by omega:j - 1 = (((j - 1).toNat:Nat):Int)) (dY (dU (d:=Qi.zero) hq2))) ?_))))))))))
  refine ro rfl (dJ A_32 Z_32 (Ht rfl)) (gQ Z_32 (Ht rfl) (Ht rfl) rfl (i:=1) rfl (aK rfl) rfl rfl (ro rfl (cQ (cJ 0)) (eX (cB rfl (fX (fK A_32 Z_32 rfl (i:=1) rfl rfl) ?_) (fX (eU rfl) ?_)))))
  ·exact (iP (by rw [Jw,if_pos hp]))
  ·exact (aS (by rw [if_pos hp]; rfl))
theorem Mf {z:List Qi} {s c:List (List Qi)} {i j:Int} (hs:gC c c.length c.length) (hl:c.length ≤ 1000):bE Tryz.prog 42 [lA z s c,aC .i64 i,aC .i64 j] (gA [aM (Jw c.length c i j),aC .i64 (if (1 ≤ i ∧ i ≤ c.length) ∧ 1 ≤ j ∧ j ≤ c.length then 0 else 1)]):=by
 refine bE.intro Tryz.func42 rfl Tryz.ntmps42 rfl (fun cx=>(ts (rn rfl (fG (Ht rfl)) fun B3=>(rn rfl (eW (Ts:=[Is (.bool false),Is (.slice none 0 0),Is (.bool false),Is (.slice none 0 0),Is (.slice none 0 0)]) O_32 rfl (fun V=>aW zd (aW zd (aW zd (aW zd (aW zd (aG))))))) fun B6=>(ro rfl (cQ (cJ 0)) (eX (cK (ts (rm rfl (ro rfl (nE (Ht rfl) cV) (rm rfl (fQ rfl rfl (eK rfl rfl (Ht rfl) (fun h=>cX (Ht rfl))) ?_))))))))))))
 refine fQ rfl rfl (eK rfl rfl (Ht rfl) (fun h=>eZ pL (Ht rfl) rfl)) (fQ rfl rfl (eK rfl rfl (Ht rfl) (fun h=>eY A_78 Z_78 (fJ rfl h) (i:=0) rfl rfl)) (fQ rfl rfl (eK rfl rfl (Ht rfl) (fun h=>dG U_78 (fJ rfl h) aA)) (fQ rfl rfl (eK rfl rfl (Ht rfl) (fun h=>mD (fJ rfl h) (fJ rfl h))) (ro rfl (gH (Ht rfl) (fun h=>(fJ rfl h))) (rm rfl (fQ rfl rfl (eK rfl rfl (Ht rfl) (fun h=>cX (Ht rfl))) (fQ rfl rfl (eK rfl rfl (Ht rfl) (fun h=>nE (fJ rfl h) cV)) ?_)))))))
 refine ro rfl (gH (Ht rfl) (fun h=>(fJ rfl h))) (rm rfl (fQ rfl rfl (eK rfl rfl (Ht rfl) (fun h=>cX (Ht rfl))) (fQ rfl rfl (eK rfl rfl (Ht rfl) (fun h=>eZ pL (Ht rfl) rfl)) (fQ rfl rfl (eK rfl rfl (Ht rfl) (fun h=>eY A_78 Z_78 (fJ rfl h) (i:=0) rfl rfl)) (fQ rfl rfl (eK rfl rfl (Ht rfl) (fun h=>dG U_78 (fJ rfl h) aA)) (fQ rfl rfl (eK rfl rfl (Ht rfl) (fun h=>mD (fJ rfl h) (fJ rfl h))) (ro rfl (gH (Ht rfl) (fun h=>(fJ rfl h))) (eX (dQ (Ht rfl) (fun hb=>?_) (fun hb=>?_))))))))))
 ·have hn : ¬ ((1 ≤ i ∧ i ≤ (c.length : Int)) ∧ 1 ≤ j ∧ j ≤ (c.length : Int)) := by simp only [Bool.or_eq_true, decide_eq_true_eq] at hb; omega
  refine ts (rn rfl (eW (Ts:=[Is (.bool false),Is (.slice none 0 0),Is (.bool false),Is (.slice none 0 0),Is (.slice none 0 0)]) O_32 rfl (fun V=>aW zd (aW zd (aW zd (aW zd (aW zd (aG))))))) fun B8=>(eX (ts (ro rfl (eJ A_32 Z_32 (Ht rfl) (i:=2) rfl rfl rfl) (gQ Z_32 (Ht rfl) (Ht rfl) rfl (i:=1) rfl (aK rfl) rfl rfl (ro rfl (cQ (cJ 1)) (eX (cB rfl (fX (fK A_32 Z_32 rfl (i:=1) rfl rfl) ?_) (fX (eU rfl) ?_)))))))))
  ·exact (fun v V k=>by rw [Jw,if_neg hn]; exact jH v V k)
  ·exact (aS (by rw [if_neg hn]; rfl))
 ·have hp : (1 ≤ i ∧ i ≤ (c.length : Int)) ∧ 1 ≤ j ∧ j ≤ (c.length : Int) := by simp only [Bool.or_eq_false_iff, decide_eq_false_iff_not] at hb; omega
  have hq:(i - 1).toNat < c.length:=by omega
  have hq2:(j - 1).toNat < (c.getD (i - 1).toNat []).length:=by rw [hs.row zo]; omega
  refine cU (ts (ro rfl (eZ pL (Ht rfl) rfl) (ro rfl (eY A_78 Z_78 (Ht rfl) (i:=0) rfl rfl) (rm rfl (ro rfl (gT (Ht rfl) cV (sX zo)) (ro rfl (dZ U_78 Z_54 (Ht rfl) (Ht rfl) (by omega:i - 1 = (((i - 1).toNat:Nat):Int)) (dY (dU (d:=[]) hq))) (ro rfl (dJ A_54 Z_54 (Ht rfl)) (rm rfl (ro rfl (gT (Ht rfl) cV (sX zo)) (ro rfl (dZ U_54 Z_32 (Ht rfl) (Ht rfl) (by omega:j - 1 = (((j - 1).toNat:Nat):Int)) (dY (dU (d:=Qi.zero) hq2))) ?_))))))))))
  refine ro rfl (dJ A_32 Z_32 (Ht rfl)) (gQ Z_32 (Ht rfl) (Ht rfl) rfl (i:=1) rfl (aK rfl) rfl rfl (ro rfl (cQ (cJ 0)) (eX (cB rfl (fX (fK A_32 Z_32 rfl (i:=1) rfl rfl) ?_) (fX (eU rfl) ?_)))))
  ·exact (iP (by rw [Jw,if_pos hp]))
  ·exact (aS (by rw [if_pos hp]; rfl))
end
section
open Go Go.RowKit
theorem Tx:Tryz.prog.underlying 78 = some (.slice 54):=by kernel_rfl
end
section
open Go Go.RowKit
theorem Ev {m:List (List Rt)} (hm:m.length ≤ 1000) (hr:∀ r,r ∈ m → r.length ≤ 1000):bE Tryz.prog 99 [Uj m] (eL (rq m)):=by
 refine bE.intro Tryz.func99 rfl Tryz.ntmps99 rfl (fun cx=>(ts (ro rfl (cQ cV) (eX (ts (rm rfl (ro rfl (dG U_181 (Ht rfl) aA) (rn rfl (nW (T:=fB []) (i:=Tryz.t54) Tx nU rfl rfl (Ht rfl) rfl zK El.one (by show 24 * _ ≤ _; omega) zo) fun B8=>(ra rfl (eX (cK (ts (rm rfl (ro rfl (dG U_181 (Ht rfl) aA) (ro rfl (cX (cJ 0)) (eX (eG ?_)))))))))))))))))
 refine fM (fun (k : Nat) (out : List (List Qi)) => jD (fun i => (m.getD i default).map Rt.q) m.length out k) (fun (k : Nat) (out : List (List Qi)) => m.length - k) (fun (k : Nat) (out : List (List Qi)) => [(3, Is B8), (9, Uj m), (10, NT .i64 m.length), (11, NT .i64 k)]) (fun (k : Nat) (out : List (List Qi)) => [bA 54 1 B8 (out.map fB)]) 0 (List.replicate m.length []) (jD.start _ _ _)
  (zS rfl) (aU (cD (nG fB _ _)) aY) (fun k out hS=>?_)
 refine ts (ro rfl (gX (Ht rfl) (Ht rfl)) (eX (cK (dQ (Ht rfl) (fun hk=>?_) (fun hk=>?_)))))
 ·simp only [decide_eq_true_eq] at hk
  have hlen:=hS.len
  have hrk : (m.getD k default).length ≤ 1000 := by
   have e:m.getD k default = m[k]:=by simp [List.getD,hk]
   rw [e]; exact hr _ (List.getElem_mem hk)
  refine cU (cK (eG (ts (rm rfl (ro rfl (dZ U_181 Tryz.sizeOf77 (Ht rfl) (Ht rfl) rfl (dY (dU (d:=default) hk))) (ro rfl (dJ Tryz.isAgg77 Tryz.sizeOf77 (Ht rfl)) (ra rfl (ra rfl (eX (cY (rm rfl (rm rfl (rm rfl (ro rfl (cZ Tryz.call50 (vE zo) ⟨(Ht rfl),trivial⟩) (ro rfl (iC U_78 Z_54 (Ht rfl) (Ht rfl) rfl (i:=0) rfl (by first | omega | (simp; omega)) rfl) (rA Z_54 (Ht rfl) (Ht rfl) El.one (i:=0) rfl rfl (by first | omega | (simp; omega)) rfl (eX (cA ?_))))))))))))))))))
  refine cY (ro rfl (dV (Ht rfl) (cJ 1) z6) (rm rfl (eX (fU (k + 1,_) (hS.next hk rfl) (by dsimp only; omega) (zS rfl) (aU (cD (kJ fB _ _ _)) aY)))))
 ·simp only [decide_eq_false_iff_not] at hk
  obtain rfl:k = m.length:=Nat.le_antisymm hS.kle zo
  have hfin:=hS.fin
  rw [uJ m (fun r=>r.map Rt.q)] at hfin
  refine gV rfl (gJ (i:=0) (tt:=3) rfl rfl lZ (ts (rm rfl (ra rfl (eX (fW rfl (fX (eU rfl) ?_)))))))
  exact (oV (by rw [hfin]))
end
section
open Go Go.RowKit
theorem Lw {n : Nat} {E : bC} {H : Hp} {d : Option Tmp} {t : TypeId} {pos : String} {af : Array Edge} {g : Option (Nat × Bool)}  :
  aF Tryz.prog n E H ⟨d,.build 84 #[],t,pos,af,g⟩ (dO [Is (.slice none 0 0),Is (.slice none 0 0),Is (.slice none 0 0)]) :=
 fE (parts := []) fun a V w hs => by
  refine ⟨.agg #[(.slice none 0 0),(.slice none 0 0),(.slice none 0 0)],?_,[(.slice none 0 0),(.slice none 0 0),(.slice none 0 0)],rfl,aW (⟨rfl,trivial⟩) (aW (⟨rfl,trivial⟩) (aW (⟨rfl,trivial⟩) (aG)))⟩
  simp [Instr.build,Instr.fill,Sem.run_bind,Result.andThen,dM,O_84,U_84,Z_78,Z_80]
end
section
open Go Go.RowKit
theorem Bh (v : Value) (w : World) : (method (Tryz.prog.types.size + Made.depth) 32 v "Of").run Tryz.prog w = .ok (318, v) w := by kernel_rfl
theorem eB (v:Value) (w:World):(Instr.makeInterface 32 v).run Tryz.prog w = .ok (.iface 32 v) w:=by
 simp [Instr.makeInterface,Sem.run_bind,Result.andThen,U_32]
end
section
open Go Go.RowKit
theorem Ry {x:Qi} {L:Nat} [hx:aL x L] (h:L ≤ 8796093022208):bE Tryz.prog 79 [aM x] (aB (uM x)):=by
 haveI hz:aL Qi.zero 1:=aL.zero (Nat.le_refl 1)
 rw [← Pq]
 refine bE.intro Tryz.func79 rfl Tryz.ntmps79 rfl (fun cx=>(ts (rn rfl (fG (Ht rfl)) fun B1=>(ro rfl (cQ cV) (eX (cK (fZ (m:=5) (dp 1 rfl (eJ A_32 Z_32 (Ht rfl) (i:=0) rfl rfl rfl) (dq 3 0 rfl (cZ K_35 oN ⟨(Ht rfl),trivial⟩) (dq 4 1 rfl (cX (Ht rfl)) (C.D_step (Ei:=[(1,_),(5,_)]) rfl rfl (bV (bK rfl rfl) (bV (bG 2 rfl rfl) bW)) (eK rfl rfl (Ht rfl) (fun h=>eJ A_32 Z_32 (Ht rfl) (i:=0) rfl rfl rfl)) (C.D_step (Ei:=[(5,_)]) rfl rfl (bV (bG 2 rfl rfl) bW) (eK rfl rfl (Ht rfl) (fun h=>cZ K_36 (kB (n:=0) (by decide) (by decide)) ⟨(cJ 0),trivial⟩)) ?_))))))))))))
 refine fV mixed rfl (by kernel_rfl) (zF (aJ (aV (fQ rfl rfl (eK rfl rfl (Ht rfl) (fun h=>cZ K_30 (oF (x:=x) (y:=Qi.zero) (M:=1) zo) ⟨(fJ rfl h),(fJ rfl h),trivial⟩)) (fQ rfl rfl (eK rfl rfl (Ht rfl) (fun h=>lE (fJ rfl h) cV)) (ro rfl (eS (Ht rfl) (fun h=>(fJ rfl h))) (ra rfl (eX ?_))))))))
 exact fW rfl (eU rfl)
theorem Uv {y:Qi}:bE Tryz.prog 318 [dO [Is (.bool false),Is (.slice none 0 0),Is (.bool false),Is (.slice none 0 0),Is (.slice none 0 0)],aM y] (aM y):=by
 refine bE.intro Tryz.func318 rfl Tryz.ntmps318 rfl (fun cx=>(ts (rn rfl (fG (Ht rfl)) fun B2=>(rn rfl (fG (Ht rfl)) fun B3=>(rn rfl (eW (Ts:=[Is (.bool false),Is (.slice none 0 0),Is (.bool false),Is (.slice none 0 0),Is (.slice none 0 0)]) O_32 rfl (fun V=>aW zd (aW zd (aW zd (aW zd (aW zd (aG))))))) fun B4=>(eX (ts (ro rfl (eJ A_32 Z_32 (Ht rfl) (i:=1) rfl rfl rfl) (gQ Z_32 (Ht rfl) (Ht rfl) rfl (i:=2) rfl (aK rfl) rfl rfl ?_)))))))))
 refine eX ?_
 exact fW rfl (fK A_32 Z_32 rfl (i:=2) rfl rfl)
theorem Hl {x:Qi}:bE Tryz.prog 123 [aM x] (aM x):=by
 refine bE.intro Tryz.func123 rfl Tryz.ntmps123 rfl (fun cx=>(ts (rn rfl (fG (Ht rfl)) fun B1=>(rn rfl (eW (Ts:=[Is (.bool false),Is (.slice none 0 0),Is (.bool false),Is (.slice none 0 0),Is (.slice none 0 0)]) O_32 rfl (fun V=>aW zd (aW zd (aW zd (aW zd (aW zd (aG))))))) fun B2=>(eX (ts (rn rfl (eW (Ts:=[Is (.bool false),Is (.slice none 0 0),Is (.bool false),Is (.slice none 0 0),Is (.slice none 0 0)]) O_32 rfl (fun V=>aW zd (aW zd (aW zd (aW zd (aW zd (aG))))))) fun B3=>?_)))))))
 refine eX (ts (ro rfl (eJ A_32 Z_32 (Ht rfl) (i:=2) rfl rfl rfl) (ro rfl (cT eB (Ht rfl)) (ro rfl (eJ A_32 Z_32 (Ht rfl) (i:=0) rfl rfl rfl) (ro rfl (bT Bh Tryz.call318 Uv (Ht rfl) ⟨(Ht rfl),trivial⟩) (gQ Z_32 (Ht rfl) (Ht rfl) rfl (i:=1) rfl (aK rfl) rfl rfl (eX ?_)))))))
 exact fW rfl (fK A_32 Z_32 rfl (i:=1) rfl rfl)
theorem Ay {r:List Qi} {k:Nat}:bE Tryz.prog 266 [fB r,PT (NT .i64 k)] (aB (!decide (r.length = k))):=by
 refine bE.intro Tryz.func266 rfl Tryz.ntmps266 rfl (fun cx=>(ts (ro rfl (cQ cV) (eX (ts (rm rfl (ro rfl (dG U_54 (Ht rfl) aA) (ro rfl (dJ A_3 Z_3 (Ht rfl)) (ro rfl (jO (Ht rfl) (Ht rfl)) (ra rfl (eX ?_)))))))))))
 exact fW rfl (eU rfl)
theorem Ax  : bE Tryz.prog 231 [eL []] (gA [NT .i64 0,aB true]):=by
 refine bE.intro Tryz.func231 rfl Tryz.ntmps231 rfl (fun cx=>(ts (ro rfl (cQ (cJ 0)) (ro rfl (cQ cV) (eX (cK (ts (rm rfl (ro rfl (dG U_78 (Ht rfl) aA) (ro rfl (fN (Ht rfl) (cJ 0)) (eX (Lu (Ht rfl) (by rfl) ?_))))))))))))
 refine ts (ro rfl (cQ (cJ 0)) (ro rfl (cQ cV) (eX ?_)))
 exact cB rfl (eU rfl) (eU rfl)
theorem vD {a:List (List Qi)} {n k:Nat} (h:gC a n k) (h1:1 ≤ n) (hn:n ≤ 32) (hk:k ≤ 32):bE Tryz.prog 231 [eL a] (gA [NT .i64 k,aB true]):=by
 obtain ⟨rfl,h2⟩:=h
 have hr0:(a.getD 0 []).length = k:=gC.row ⟨rfl,h2⟩ zo
 refine bE.intro Tryz.func231 rfl Tryz.ntmps231 rfl (fun cx=>(ts (ro rfl (cQ (cJ 0)) (ro rfl (cQ cV) (eX (cK (ts (rm rfl (ro rfl (dG U_78 (Ht rfl) aA) (ro rfl (fN (Ht rfl) (cJ 0)) (eX (dQ (Ht rfl) (fun hb=>?_) (fun hb=>?_)))))))))))))
 ·simp only [decide_eq_true_eq] at hb
  omega
 ·refine cU (ts (rm rfl (ro rfl (dZ U_78 Z_54 (Ht rfl) (cJ 0) rfl (dY (dU (d := []) zo))) (ro rfl (dJ A_54 Z_54 (Ht rfl)) (ro rfl (dG U_54 (Ht rfl) aA) (rn rfl (eW (Ts := [Is (.int .i64 0)]) Tryz.zeroValue3 rfl (fun V => aW zd (aG))) fun B4 => (lT Z_3 (Ht rfl) (Ht rfl) (i := 0) rfl (aK rfl) rfl (eX (cK (gJ (i := 0) (tt := 4) rfl rfl tV (fZ (m := 15) (dp 4 rfl (dJ A_3 Z_3 (Ht rfl)) ?_))))))))))))
  refine dp 0 rfl (cX (Ht rfl)) (dq 13 1 rfl (dG U_78 (Ht rfl) aA) (dq 14 2 rfl (xG (Ht rfl) (cJ 32)) (dq 15 3 rfl (cX (Ht rfl)) (C.D_step (Ei:=[(4,_),(16,_)]) rfl rfl (bV (bK rfl rfl) (bV (bG 4 rfl rfl) bW)) (eK rfl rfl (Ht rfl) (fun h=>dJ A_3 Z_3 (Ht rfl))) (C.D_step (Ei:=[(17,_),(16,_)]) rfl rfl (bV (bG 5 rfl rfl) (bV (bG 4 rfl rfl) bW)) (eK rfl rfl (Ht rfl) (fun h=>xG (fJ rfl h) (cJ 32))) (fA 16 4 18 6 rfl (eS (Ht rfl) (fun h=>(fJ rfl h))) ?_))))))
  refine dq 19 7 rfl (cX (Ht rfl)) (C.D_step (Ei:=[(0,_),(20,_)]) rfl rfl (bV (bK rfl rfl) (bV (bG 8 rfl rfl) bW)) (eK rfl rfl (Ht rfl) (fun h=>cX (Ht rfl))) (C.D_step (Ei:=[(4,_),(20,_)]) rfl rfl (bV (bK rfl rfl) (bV (bG 8 rfl rfl) bW)) (eK rfl rfl (Ht rfl) (fun h=>xE (γ:=List Qi) (Ts:=fun r=>[fB r]) (U:=fun r=>aB (!decide (r.length = (a.getD 0 []).length))) Tryz.call266 (fun r=>Ay) ⟨(Ht rfl),trivial⟩)) (C.D_step (Ei:=[(21,_),(22,_),(20,_)]) rfl rfl (bV (bG 9 rfl rfl) (bV (bG 10 rfl rfl) (bV (bG 8 rfl rfl) bW))) (eK rfl rfl (Ht rfl) (fun h=>cZ Tryz.call118 (uW (l:=a) (T:=fB) (p:=fun r=>!decide (r.length = (a.getD 0 []).length)) zo) ⟨(fJ rfl h),(fJ rfl h),trivial⟩)) ?_)))
  refine C.D_step (Ei:=[(23,_),(20,_)]) rfl rfl (bV (bG 11 rfl rfl) (bV (bG 8 rfl rfl) bW)) (eK rfl rfl (Ht rfl) (fun h=>fR (fJ rfl h))) (fA 20 8 24 12 rfl (eS (Ht rfl) (fun h=>(fJ rfl h))) (dq 12 0 rfl (cQ (Ht rfl)) (fV mixed rfl (by kernel_rfl) (zF (zF (zF (aJ (aJ (aJ (aV (ra rfl (eX (cB rfl (fX (eU rfl) ?_) (fX (eU rfl) ?_))))))))))))))
  ·exact (kX hr0)
  ·exact (hZ (by rw [hr0,Mu ⟨rfl,h2⟩]; simp; omega))
theorem tF {a:List (List Qi)} {n k:Nat} (h:gC a n k) (h1:1 ≤ n ∨ k = 0) (hn:n ≤ 32) (hk:k ≤ 32):bE Tryz.prog 231 [eL a] (gA [NT .i64 k,aB true]):=by
 by_cases e:n = 0
 ·subst e
  obtain rfl:=List.length_eq_zero_iff.1 h.1
  rw [show k = 0 by omega]; exact Ax
 ·exact vD h zo hn hk
end
section
open Go Go.RowKit
theorem rD (v : Value) (w : World) : (method (Tryz.prog.types.size + Made.depth) 32 v "Add").run Tryz.prog w = .ok (33, v) w := by kernel_rfl
theorem mB (v : Value) (w : World) : (method (Tryz.prog.types.size + Made.depth) 32 v "Conj").run Tryz.prog w = .ok (317, v) w := by kernel_rfl
theorem fD (v : Value) (w : World) : (method (Tryz.prog.types.size + Made.depth) 32 v "Mul").run Tryz.prog w = .ok (29, v) w := by kernel_rfl
end
section
open Go Go.RowKit
theorem Hd {a b:List (List Qi)} {n k m L M:Nat} (ha:gC a n k) (hb:gC b k m) (hfa:bL a L) (hfb:bL b M) (hL1:1 ≤ L) (hM1:1 ≤ M) (hL:L ≤ 900000000000) (hM:M ≤ 900000000000) (hn1:1 ≤ n ∨ k = 0) (hk1:1 ≤ k ∨ m = 0) (hn:n ≤ 8) (hk:k ≤ 8) (hm:m ≤ 8):iF Tryz.prog 165 [eL a,eL b] [] (Nat) (fun B=>gA [Is (.slice (some ⟨B,0,none⟩) n n),aC .i64 0]) (fun B=>[tZ B 54 32 5 (dF aM (rN a b n k m))]) (fun _=>True):=by
 have hal:=ha.1
 have hbl:=hb.1
 refine iF.intro Tryz.func165 rfl Tryz.ntmps165 rfl (fun cx Z=>(ts (ro rfl (cQ cV) (ro rfl (cQ (cJ 0)) (eX (ts (rm rfl (ro rfl (cZ Tryz.call231 (tF ha hn1 zo zo) ⟨(Ht rfl),trivial⟩) (rm rfl (ro rfl (dK (Ht rfl) rfl) (ro rfl (dK (Ht rfl) rfl) (ra rfl (ra rfl (eX (ts (rm rfl (ro rfl (cZ Tryz.call231 (tF hb hk1 zo zo) ⟨(Ht rfl),trivial⟩) (rm rfl (ro rfl (dK (Ht rfl) rfl) (ro rfl (dK (Ht rfl) rfl) (ra rfl (ra rfl (eX (cK (ts (rm rfl (ro rfl (fR (Ht rfl)) ?_)))))))))))))))))))))))))))
 refine rm rfl (fQ rfl rfl (eK rfl rfl (Ht rfl) (fun h=>cX (Ht rfl))) (fQ rfl rfl (eK rfl rfl (Ht rfl) (fun h=>fR (fJ rfl h))) (ro rfl (gH (Ht rfl) (fun h=>(fJ rfl h))) (rm rfl (fQ rfl rfl (eK rfl rfl (Ht rfl) (fun h=>cX (Ht rfl))) (fQ rfl rfl (eK rfl rfl (Ht rfl) (fun h=>cX (Ht rfl))) (fQ rfl rfl (eK rfl rfl (Ht rfl) (fun h=>dG U_78 (fJ rfl h) aA)) (fQ rfl rfl (eK rfl rfl (Ht rfl) (fun h=>jO (fJ rfl h) (fJ rfl h))) (ro rfl (gH (Ht rfl) (fun h=>(fJ rfl h))) ?_)))))))))
 refine eX (dQ (Ht rfl) (fun h0=>?_) (fun h0=>?_))
 ·exact absurd h0 (by simp [hbl])
 ·refine cU (ts (rm rfl (ro rfl (dG U_78 (Ht rfl) aA) (rn rfl (fP (T := Is (.slice none 0 0)) (i := Tryz.t54) V_78 nU rfl rfl (Ht rfl) rfl (fun _ => rfl) trivial (by show 24 * _ ≤ _; omega) zo) fun B39 => (ra rfl (eX (cK (ts (rm rfl (ro rfl (jB U_78 (Ht rfl)) (ro rfl (cX (cJ 0)) (eX (eG (oK 1 rfl (sQ (e := 32) (s := 5)) ?_))))))))))))))
  refine eR (fun (i : Nat) => i ≤ n) (fun (i : Nat) => n - i) (fun (i : Nat) => [(0, eL a), (1, eL b), (6, NT .i64 k), (8, NT .i64 m), (10, Is (.slice (some ⟨B39, 0, none⟩) n n)), (41, NT .i64 n), (42, NT .i64 i)]) (fun (i : Nat) => [Z, tZ B39 54 32 5 (dF aM (lK (fun i => tab m fun c => rL a b k i c) [] n i))]) 0 (Nat.zero_le _)
   (aQ rfl (aQ rfl (aQ rfl (aQ rfl (aZ rfl (fun v V h=>by rw [← hal]; exact h) (aZ rfl (kX hal) (zS rfl))))))) (aU (fun _ _ _ h=>h) (aU (cR (by rw [← nD,lQ,hal]; exact nF aM n)) aY)) (fun i hi=>?_)
  refine ts (ro rfl (gX (Ht rfl) (Ht rfl)) (eX (cK (dQ (Ht rfl) (fun hd=>?_) (fun hd=>?_)))))
  ·simp only [decide_eq_true_eq] at hd
   have har:=ha.row hd
   refine sE 1 (i) rfl (mY hd) (fun v=>(cU (cK (eG (ts (rm rfl (ra rfl (eX (ts (rm rfl (ro rfl (cX (cJ 0)) (eX (eG ?_)))))))))))))
   refine fM (fun (c : Nat) (v : Value) => c ≤ m) (fun (c : Nat) (v : Value) => m - c) (fun (c : Nat) (v : Value) => [(0, eL a), (1, eL b), (6, NT .i64 k), (8, NT .i64 m), (10, Is (.slice (some ⟨B39, 0, none⟩) n n)), (11, NT .i64 i), (41, NT .i64 n), (42, NT .i64 i), (45, NT .i64 m), (46, NT .i64 c)]) (fun (c : Nat) (v : Value) => [Z, Iz B39 54 32 5 (dF aM (lK (fun i => tab m fun c => rL a b k i c) [] n i)) i v, bA 32 5 v ((tab c fun c => rL a b k i c).map aM)]) 0 v (Nat.zero_le _)
    (zS rfl) (dL.refl _) (fun c v hc=>?_)
   refine ts (ro rfl (gX (Ht rfl) (Ht rfl)) (eX (cK (dQ (Ht rfl) (fun he=>?_) (fun he=>?_)))))
   ·simp only [decide_eq_true_eq] at he
    have hk1:1 ≤ k:=by omega
    have hb0:=hb.row (i:=0) zo
    haveI f1:aL (gm a i 0) L:=hfa.get hL1 i 0
    haveI f2:aL (gm b 0 c) M:=hfb.get hM1 0 c
    refine cU (cK (eG (ts (rm rfl (ra rfl (eX (cK (fZ (m:=15) (dp 0 rfl (cX (Ht rfl)) (dp 11 rfl (cX (Ht rfl)) (fA 49 0 50 1 rfl (dZ U_78 Z_54 (Ht rfl) (Ht rfl) rfl (dY (dU (d:=[]) zo))) (dq 51 2 rfl (dJ A_54 Z_54 (Ht rfl)) (dq 52 3 rfl (dZ U_54 Z_32 (Ht rfl) (cJ 0) rfl (dY (dU (d:=Qi.zero) (by rw [har]; omega)))) ?_)))))))))))))
    refine dq 53 4 rfl (dJ A_32 Z_32 (Ht rfl)) (dq 54 5 rfl (cT eB (Ht rfl)) (dp 1 rfl (cX (Ht rfl)) (dq 56 7 rfl (dZ U_78 Z_54 (Ht rfl) (cJ 0) rfl (dY (dU (d:=[]) zo))) (dq 57 8 rfl (dJ A_54 Z_54 (Ht rfl)) (dp 12 rfl (cX (Ht rfl)) (fA 58 9 59 10 rfl (dZ U_54 Z_32 (Ht rfl) (Ht rfl) rfl (dY (dU (d:=Qi.zero) (by rw [hb0]; omega)))) ?_))))))
    refine dq 60 11 rfl (dJ A_32 Z_32 (Ht rfl)) (fA 55 6 61 12 rfl (bT fD K_29 (kC zo) (Ht rfl) ⟨(Ht rfl),trivial⟩) (C.D_new (Ei:=[]) rfl rfl rfl bW (eW (Ts:=[Is (.bool false),Is (.slice none 0 0),Is (.bool false),Is (.slice none 0 0),Is (.slice none 0 0)]) O_32 rfl (fun V=>aW zd (aW zd (aW zd (aW zd (aW zd (aG))))))) (fV mixed rfl (by kernel_rfl) (zF (zF (zF (aJ (aJ (C.F_new (fun B13=>aV ?_))))))))))
    refine gQ Z_32 (Ht rfl) (Ht rfl) rfl (i:=3) rfl (aK rfl) rfl rfl (eX (cK (ts (ro rfl (cQ (cJ 1)) (eX (eG ?_))))))
    refine eR (fun (j : Nat) => 1 ≤ j ∧ j ≤ k) (fun (j : Nat) => k - j) (fun (j : Nat) => [(0, eL a), (1, eL b), (6, NT .i64 k), (8, NT .i64 m), (10, Is (.slice (some ⟨B39, 0, none⟩) n n)), (11, NT .i64 i), (12, NT .i64 c), (13, dB B13 0), (14, NT .i64 j), (41, NT .i64 n), (42, NT .i64 i), (45, NT .i64 m), (46, NT .i64 c)]) (fun (j : Nat) => [Z, Iz B39 54 32 5 (dF aM (lK (fun i => tab m fun c => rL a b k i c) [] n i)) i v, bA 32 5 v ((tab c fun c => rL a b k i c).map aM), box B13 32 [aB (decide ((dD j fun j => gm a i j * gm b j c).a < 0)), aH (dD j fun j => gm a i j * gm b j c).a.natAbs, aB (decide ((dD j fun j => gm a i j * gm b j c).b < 0)), aH (dD j fun j => gm a i j * gm b j c).b.natAbs, aH (du (dD j fun j => gm a i j * gm b j c))]]) 1 ⟨Nat.le_refl _, hk1⟩
     (zS rfl) (aU (fun _ _ _ h=>h) (aU (fun _ _ _ h=>h) (aU (fun _ _ _ h=>h) (aU (aI (by rw [La]; rfl)) aY)))) (fun j ⟨hj1,hj⟩=>?_)
    refine cK (ts (rm rfl (rm rfl (ro rfl (gX (Ht rfl) (Ht rfl)) (eX (dQ (Ht rfl) (fun hf=>?_) (fun hf=>?_)))))))
    ·simp only [decide_eq_true_eq] at hf
     haveI f3:aL (gm a i j) L:=hfa.get hL1 i j
     haveI f4:aL (gm b j c) M:=hfb.get hM1 j c
     haveI f5:aL (dD j fun j=>gm a i j * gm b j c) (8 * (L + M) + 17):=Db hfa hfb hL1 hM1 zo i c
     have hbj:=hb.row (i:=j) zo
     refine cU (cK (eG (fZ (m:=18) (dp 13 rfl (eJ A_32 Z_32 (Ht rfl) (i:=3) rfl rfl rfl) (dq 68 0 rfl (cT eB (Ht rfl)) (dp 0 rfl (cX (Ht rfl)) (dp 11 rfl (cX (Ht rfl)) (fA 70 2 71 3 rfl (dZ U_78 Z_54 (Ht rfl) (Ht rfl) rfl (dY (dU (d:=[]) zo))) (dq 72 4 rfl (dJ A_54 Z_54 (Ht rfl)) (dp 14 rfl (cX (Ht rfl)) (fA 73 5 74 6 rfl (dZ U_54 Z_32 (Ht rfl) (Ht rfl) rfl (dY (dU (d:=Qi.zero) (by rw [har]; omega)))) ?_)))))))))))
     refine dq 75 7 rfl (dJ A_32 Z_32 (Ht rfl)) (dq 76 8 rfl (cT eB (Ht rfl)) (dp 1 rfl (cX (Ht rfl)) (dp 14 rfl (cX (Ht rfl)) (fA 78 10 79 11 rfl (dZ U_78 Z_54 (Ht rfl) (Ht rfl) rfl (dY (dU (d:=[]) zo))) (dq 80 12 rfl (dJ A_54 Z_54 (Ht rfl)) (dp 12 rfl (cX (Ht rfl)) (fA 81 13 82 14 rfl (dZ U_54 Z_32 (Ht rfl) (Ht rfl) rfl (dY (dU (d:=Qi.zero) (by rw [hbj]; omega)))) ?_)))))))
     refine dq 83 15 rfl (dJ A_32 Z_32 (Ht rfl)) (fA 77 9 84 16 rfl (bT fD K_29 (kC zo) (Ht rfl) ⟨(Ht rfl),trivial⟩) (fV mixed rfl (by kernel_rfl) (zF (zF (zF (zF (aJ (aJ (aV (ro rfl (bT rD Tryz.call33 (yE zo) (Ht rfl) ⟨(Ht rfl),trivial⟩) (gQ Z_32 (Ht rfl) (Ht rfl) rfl (i:=3) rfl (aK rfl) rfl rfl (eX (cA ?_)))))))))))))
     refine cY (rm rfl (ro rfl (dV (Ht rfl) (cJ 1) z6) (ra rfl (eX (fU (j + 1) ⟨by omega,hf⟩ zo (zS rfl) (aU (fun _ _ _ h=>h) (aU (fun _ _ _ h=>h) (aU (fun _ _ _ h=>h) (aU (aI rfl) aY)))))))))
    ·simp only [decide_eq_false_iff_not] at hf
     obtain rfl:k = j:=Nat.le_antisymm zo hj
     refine gV rfl (Y.D_startA (m:=9) [] 8 2 rfl rfl (bY (Ei:=[(10,_)]) rfl rfl (bQ (bJ rfl rfl) bX) rfl rfl (dX rfl (cX (Ht rfl))) (bY (Ei:=[(11,_)]) rfl rfl (bQ (bJ rfl rfl) bX) rfl rfl (dX rfl (cX (Ht rfl))) (bY (Ei:=[(10,_)]) rfl rfl (bQ (bJ rfl rfl) bX) rfl rfl (dX rfl (cX (Ht rfl))) (bY (Ei:=[(11,_)]) rfl rfl (bQ (bJ rfl rfl) bX) rfl rfl (dX rfl (cX (Ht rfl))) (bY (Ei:=[(89,_),(90,_)]) rfl rfl (bQ (bZ 2 rfl rfl) (bQ (bZ 3 rfl rfl) bX)) rfl rfl (dX rfl (fY U_78 Z_54 (Ht rfl) (Ht rfl) rfl zo (by rw [Nat.mul_one,Nat.zero_add]))) ?_))))))
     refine bY (Ei:=[(91,_)]) rfl rfl (bQ (bZ 4 rfl rfl) bX) rfl rfl (dX rfl (mE A_54 Z_54 (Ht rfl) (j:=1) rfl)) (bY (Ei:=[(13,_)]) rfl rfl (bQ (bJ rfl rfl) bX) rfl rfl (dX rfl (eJ A_32 Z_32 (Ht rfl) (i:=3) rfl rfl rfl)) (bY (Ei:=[(93,_)]) rfl rfl (bQ (bZ 6 rfl rfl) bX) rfl rfl (dX rfl (dA (xs:=[.tmp 93]) U_54 Z_32 O_32 (cW (Ht rfl) cG) rfl rfl rfl)) (Y.D_app (Ei:=[(92,_),(94,_)]) rfl rfl rfl rfl (bQ (bZ 5 rfl rfl) (bQ (bZ 7 rfl rfl) bX)) rfl (sY (inf:=Tryz.t32) nN kT rfl rfl rfl (Ht rfl) (Ht rfl) (by simp) (fun T hT=>by simp at hT; subst hT; exact El.ag rfl) (by show _ * 88 ≤ _; simp only [List.length_map,bI,List.length_cons,List.length_nil]; omega) (by simp only [List.length_map,bI,List.length_cons,List.length_nil]; omega)) ?_)))
     refine Y.D_done mixed rfl (by kernel_rfl) rfl (by simp [Y.okP]) rfl rfl (bU (bU (bU (bU (bU (bU (bU (bU (Y.F_app (fun v2=>Y.F_nil ?_))))))))))
     refine ro rfl (fY U_78 Z_54 (Ht rfl) (Ht rfl) rfl zo (by rw [Nat.mul_one,Nat.zero_add])) ?_
     refine xW Z_54 (Ht rfl) (Ht rfl) (by simp only [dF,List.length_map,iJ]; omega) (j:=1) (l:=4) rfl rfl rfl ?_
     refine eX (cA (cY (ro rfl (dV (Ht rfl) (cJ 1) z6) (rm rfl (eX (dE [0,1,4] rfl (by decide) (fU (c + 1,v2) he (by dsimp only; omega) (zS rfl) (aU (fun _ _ _ h=>h) (aU (fun _ _ _ h=>h) (aU (cD ((yA aM _ (rL a b k i c)).trans (congrArg _ (uK c (fun c=>rL a b k i c)).symm))) aY))))))))))
   ·simp only [decide_eq_false_iff_not] at he
    obtain rfl:m = c:=Nat.le_antisymm zo hc
    refine gV rfl (cA (iL 1 2 rfl rfl (by decide) (by simp only [dF,List.length_map,iJ]; omega) ?_))
    refine cY (ro rfl (dV (Ht rfl) (cJ 1) z6) (rm rfl (eX (dE [0,1] rfl (by decide) (fU (i + 1) hd zo (zS rfl) (aU (fun _ _ _ h=>h) (aU (cR (by rw [jK,← pU (f:=(fun i=>tab m fun c=>rL a b k i c))])) aY)))))))
  ·simp only [decide_eq_false_iff_not] at hd
   obtain rfl:n = i:=Nat.le_antisymm zo hi
   refine gV rfl (ts (rm rfl (ra rfl (ro rfl (cQ (cJ 0)) (eX ?_)))))
   exact kA B39 trivial [0,1] ⟨⟨_,rfl,fun _ _ _ h=>h⟩,⟨_,rfl,(cR (by rw [pT]; rfl))⟩,trivial⟩ (by decide) (Vp rfl (eU rfl) (eU rfl))
theorem Cq {a b:List (List Qi)} {n k m L M:Nat} (ha:gC a n k) (hb:gC b k m) (hfa:bL a L) (hfb:bL b M) (hL1:1 ≤ L) (hM1:1 ≤ M) (hL:L ≤ 900000000000) (hM:M ≤ 900000000000) (hn1:1 ≤ n) (hk1:1 ≤ k) (hn:n ≤ 8) (hk:k ≤ 8) (hm:m ≤ 8):iF Tryz.prog 165 [eL a,eL b] [] Nat (fun B=>gA [Is (.slice (some ⟨B,0,none⟩) n n),aC .i64 0]) (fun B=>[tZ B 54 32 5 (dF aM (rN a b n k m))]) (fun _=>True):=Hd ha hb hfa hfb hL1 hM1 hL hM (.inl hn1) (.inl hk1) hn hk hm
theorem Ro {a b:List (List Qi)} {n k m L M:Nat} (ha:gC a n k) (hb:gC b k m) (hfa:bL a L) (hfb:bL b M) (hL1:1 ≤ L) (hM1:1 ≤ M) (hL:L ≤ 900000000000) (hM:M ≤ 900000000000) (hn1:1 ≤ n) (hk1:1 ≤ k) (hn:n ≤ 8) (hk:k ≤ 8) (hm:m ≤ 8):bE Tryz.prog 165 [eL a,eL b] (gA [eL (rN a b n k m),aC .i64 0]):=(Cq ha hb hfa hfb hL1 hM1 hL hM hn1 hk1 hn hk hm).fun fun B _ v S V h1 h2=>Vz h1 fun u hu=>kF (s:=5) (M:=rN a b n k m) (bI _ _).symm u S V hu h2
theorem Rm {a:List (List Qi)} {n m:Nat} (ha:gC a n m) (hn1:1 ≤ n) (hn:n ≤ 8) (hm:m ≤ 8):iF Tryz.prog 213 [eL a] [] (Nat) (fun B=>gA [Is (.slice (some ⟨B,0,none⟩) m m),aC .i64 0]) (fun B=>[tZ B 54 32 5 (dF aM (wG a n m))]) (fun _=>True):=by
 have hal:=ha.1
 refine iF.intro Tryz.func213 rfl Tryz.ntmps213 rfl (fun cx Z=>(ts (ro rfl (cQ cV) (ro rfl (cQ (cJ 0)) (eX (ts (rm rfl (ro rfl (cZ Tryz.call231 (vD ha hn1 zo zo) ⟨(Ht rfl),trivial⟩) (rm rfl (ro rfl (dK (Ht rfl) rfl) (ro rfl (dK (Ht rfl) rfl) (ra rfl (ra rfl (eX (cK (ts (rm rfl (ro rfl (fR (Ht rfl)) (eX (dQ (Ht rfl) (fun h0=>?_) (fun h0=>?_)))))))))))))))))))))
 ·exact absurd h0 (by simp)
 ·refine cU (ts (rm rfl (rn rfl (fP (T := Is (.slice none 0 0)) (i := Tryz.t54) V_78 nU rfl rfl (Ht rfl) rfl (fun _ => rfl) trivial (by show 24 * _ ≤ _; omega) zo) fun B17 => (ra rfl (eX (cK (ts (rm rfl (ro rfl (jB U_78 (Ht rfl)) (ro rfl (cX (cJ 0)) (eX (eG (oK 1 rfl (sQ (e := 32) (s := 5)) ?_)))))))))))))
  refine eR (fun (k : Nat) => k ≤ m) (fun (k : Nat) => m - k) (fun (k : Nat) => [(0, eL a), (6, Is (.slice (some ⟨B17, 0, none⟩) m m)), (19, NT .i64 m), (20, NT .i64 k)]) (fun (k : Nat) => [Z, tZ B17 54 32 5 (dF aM (lK (fun k => tab n fun i => (gm a i k).conj) [] m k))]) 0 (Nat.zero_le _)
   (zS rfl) (aU (fun _ _ _ h=>h) (aU (cR (by rw [← nD,lQ]; exact nF aM m)) aY)) (fun k hk=>?_)
  refine ts (ro rfl (gX (Ht rfl) (Ht rfl)) (eX (cK (dQ (Ht rfl) (fun hd=>?_) (fun hd=>?_)))))
  ·simp only [decide_eq_true_eq] at hd
   refine sE 1 (k) rfl (mY hd) (fun v=>(cU (cK (eG (ts (rm rfl (ra rfl (eX (ts (rm rfl (ro rfl (dG U_78 (Ht rfl) aA) (ro rfl (cX (cJ 0)) (eX (eG ?_))))))))))))))
   refine fM (fun (i : Nat) (v : Value) => i ≤ n) (fun (i : Nat) (v : Value) => n - i) (fun (i : Nat) (v : Value) => [(0, eL a), (6, Is (.slice (some ⟨B17, 0, none⟩) m m)), (7, NT .i64 k), (19, NT .i64 m), (20, NT .i64 k), (24, NT .i64 n), (25, NT .i64 i)]) (fun (i : Nat) (v : Value) => [Z, Iz B17 54 32 5 (dF aM (lK (fun k => tab n fun i => (gm a i k).conj) [] m k)) k v, bA 32 5 v ((tab i fun i => (gm a i k).conj).map aM)]) 0 v (Nat.zero_le _)
    (aQ rfl (aQ rfl (aQ rfl (aQ rfl (aQ rfl (aZ rfl (kX hal) (zS rfl))))))) (dL.refl _) (fun i v hi=>?_)
   refine ts (ro rfl (gX (Ht rfl) (Ht rfl)) (eX (cK (dQ (Ht rfl) (fun he=>?_) (fun he=>?_)))))
   ·simp only [decide_eq_true_eq] at he
    have har:=ha.row he
    refine cU (cK (eG (ts (rm rfl (ra rfl (eX (Y.D_startA (m:=17) [] 16 2 rfl rfl (bY (Ei:=[(6,_)]) rfl rfl (bQ (bJ rfl rfl) bX) rfl rfl (dX rfl (cX (Ht rfl))) (bY (Ei:=[(7,_)]) rfl rfl (bQ (bJ rfl rfl) bX) rfl rfl (dX rfl (cX (Ht rfl))) (bY (Ei:=[(6,_)]) rfl rfl (bQ (bJ rfl rfl) bX) rfl rfl (dX rfl (cX (Ht rfl))) (bY (Ei:=[(7,_)]) rfl rfl (bQ (bJ rfl rfl) bX) rfl rfl (dX rfl (cX (Ht rfl))) (bY (Ei:=[(30,_),(31,_)]) rfl rfl (bQ (bZ 2 rfl rfl) (bQ (bZ 3 rfl rfl) bX)) rfl rfl (dX rfl (fY U_78 Z_54 (Ht rfl) (Ht rfl) rfl zo (by rw [Nat.mul_one,Nat.zero_add]))) ?_))))))))))))
    refine bY (Ei:=[(32,_)]) rfl rfl (bQ (bZ 4 rfl rfl) bX) rfl rfl (dX rfl (mE A_54 Z_54 (Ht rfl) (j:=1) rfl)) (bY (Ei:=[(0,_)]) rfl rfl (bQ (bJ rfl rfl) bX) rfl rfl (dX rfl (cX (Ht rfl))) (bY (Ei:=[(8,_)]) rfl rfl (bQ (bJ rfl rfl) bX) rfl rfl (dX rfl (cX (Ht rfl))) (bY (Ei:=[(34,_),(35,_)]) rfl rfl (bQ (bZ 6 rfl rfl) (bQ (bZ 7 rfl rfl) bX)) rfl rfl (dX rfl (dZ U_78 Z_54 (Ht rfl) (Ht rfl) rfl (dY (dU (d:=[]) zo)))) ?_)))
    refine bY (Ei:=[(36,_)]) rfl rfl (bQ (bZ 8 rfl rfl) bX) rfl rfl (dX rfl (dJ A_54 Z_54 (Ht rfl))) (bY (Ei:=[(7,_)]) rfl rfl (bQ (bJ rfl rfl) bX) rfl rfl (dX rfl (cX (Ht rfl))) (bY (Ei:=[(37,_),(38,_)]) rfl rfl (bQ (bZ 9 rfl rfl) (bQ (bZ 10 rfl rfl) bX)) rfl rfl (dX rfl (dZ U_54 Z_32 (Ht rfl) (Ht rfl) rfl (dY (dU (d:=Qi.zero) (by rw [har]; omega))))) ?_))
    refine bY (Ei:=[(39,_)]) rfl rfl (bQ (bZ 11 rfl rfl) bX) rfl rfl (dX rfl (dJ A_32 Z_32 (Ht rfl))) (bY (Ei:=[(40,_)]) rfl rfl (bQ (bZ 12 rfl rfl) bX) rfl rfl (dX rfl (cT eB (Ht rfl))) (bY (Ei:=[(41,_)]) rfl rfl (bQ (bZ 13 rfl rfl) bX) rfl rfl (dX rfl (bT mB Tryz.call317 Au (Ht rfl) trivial)) (bY (Ei:=[(42,_)]) rfl rfl (bQ (bZ 14 rfl rfl) bX) rfl rfl (dX rfl (dA (xs:=[.tmp 42]) U_54 Z_32 O_32 (cW (Ht rfl) cG) rfl rfl rfl)) ?_)))
    refine Y.D_app (Ei:=[(33,_),(43,_)]) rfl rfl rfl rfl (bQ (bZ 5 rfl rfl) (bQ (bZ 15 rfl rfl) bX)) rfl (sY (inf:=Tryz.t32) nN kT rfl rfl rfl (Ht rfl) (Ht rfl) (by simp) (fun T hT=>by simp at hT; subst hT; exact El.ag rfl) (by show _ * 88 ≤ _; simp only [List.length_map,bI,List.length_cons,List.length_nil]; omega) (by simp only [List.length_map,bI,List.length_cons,List.length_nil]; omega)) ?_
    refine Y.D_done mixed rfl (by kernel_rfl) rfl (by simp [Y.okP]) rfl rfl (bU (bU (bU (bU (bU (bU (bU (bU (bU (bU (bU (bU (bU (bU (bU (bU (Y.F_app (fun v2=>Y.F_nil ?_))))))))))))))))))
    refine ro rfl (fY U_78 Z_54 (Ht rfl) (Ht rfl) rfl zo (by rw [Nat.mul_one,Nat.zero_add])) ?_
    refine xW Z_54 (Ht rfl) (Ht rfl) (by simp only [dF,List.length_map,iJ]; omega) (j:=1) (l:=3) rfl rfl rfl ?_
    refine eX (cA (cY (ro rfl (dV (Ht rfl) (cJ 1) z6) (rm rfl (eX (dE [0,1,3] rfl (by decide) (fU (i + 1,v2) he (by dsimp only; omega) (zS rfl) (aU (fun _ _ _ h=>h) (aU (fun _ _ _ h=>h) (aU (cD ((yA aM _ (gm a i k).conj).trans (congrArg _ (uK i (fun i=>(gm a i k).conj)).symm))) aY))))))))))
   ·simp only [decide_eq_false_iff_not] at he
    obtain rfl:n = i:=Nat.le_antisymm zo hi
    refine gV rfl (cA (iL 1 2 rfl rfl (by decide) (by simp only [dF,List.length_map,iJ]; omega) ?_))
    refine cY (ro rfl (dV (Ht rfl) (cJ 1) z6) (rm rfl (eX (dE [0,1] rfl (by decide) (fU (k + 1) hd zo (zS rfl) (aU (fun _ _ _ h=>h) (aU (cR (by rw [jK,← pU (f:=(fun k=>tab n fun i=>(gm a i k).conj))])) aY)))))))
  ·simp only [decide_eq_false_iff_not] at hd
   obtain rfl:m = k:=Nat.le_antisymm zo hk
   refine gV rfl (ts (rm rfl (ra rfl (ro rfl (cQ (cJ 0)) (eX ?_)))))
   exact kA B17 trivial [0,1] ⟨⟨_,rfl,fun _ _ _ h=>h⟩,⟨_,rfl,(cR (by rw [pT]; rfl))⟩,trivial⟩ (by decide) (Vp rfl (eU rfl) (eU rfl))
theorem Uq {a:List (List Qi)} {n m:Nat} (ha:gC a n m) (hn1:1 ≤ n) (hn:n ≤ 8) (hm:m ≤ 8):bE Tryz.prog 213 [eL a] (gA [eL (wG a n m),aC .i64 0]):=(Rm ha hn1 hn hm).fun fun B _ v S V h1 h2=>Vz h1 fun u hu=>kF (s:=5) (M:=wG a n m) (bI _ _).symm u S V hu h2
theorem Mh {z:List Qi} {s:List (List Qi)} (hsh:gC s z.length z.length) (hl:z.length ≤ 8):iF Tryz.prog 122 [mL z s] [] (Nat) (fun B=>Is (.slice (some ⟨B,0,none⟩) z.length z.length)) (fun B=>[tZ B 54 32 5 (dF aM (tab z.length fun i=>tab z.length fun k=>gm s i k))]) (fun _=>True):=by
 refine iF.intro Tryz.func122 rfl Tryz.ntmps122 rfl (fun cx Z=>(ts (rn rfl (fG (Ht rfl)) fun B1=>(ro rfl (cQ cV) (eX (ts (ro rfl (eJ A_80 Z_80 (Ht rfl) (i:=1) rfl rfl rfl) (ro rfl (cZ Tryz.call117 sF ⟨(Ht rfl),trivial⟩) (rn rfl (fP (T:=Is (.slice none 0 0)) (i:=Tryz.t54) V_78 nU rfl rfl (Ht rfl) rfl (fun _=>rfl) trivial (by show 24 * _ ≤ _; omega) zo) fun B10=>(ra rfl (eX (cK (ts (rm rfl (ro rfl (jB U_78 (Ht rfl)) (ro rfl (cX (cJ 0)) (eX (eG ?_))))))))))))))))))
 refine oK 2 rfl (sQ (e:=32) (s:=5)) ?_
 refine eR (fun (i : Nat) => i ≤ z.length) (fun (i : Nat) => z.length - i) (fun (i : Nat) => [(1, dB B1 0), (3, Is (.slice (some ⟨B10, 0, none⟩) z.length z.length)), (12, NT .i64 z.length), (13, NT .i64 i)]) (fun (i : Nat) => [Z, box B1 80 [fB z, eL s], tZ B10 54 32 5 (dF aM (lK (fun i => tab z.length fun k => gm s i k) [] z.length i))]) 0 (Nat.zero_le _)
  (zS rfl) (aU (fun _ _ _ h=>h) (aU (fun _ _ _ h=>h) (aU (cR (by rw [← nD,lQ]; exact nF aM z.length)) aY))) (fun i hi=>?_)
 refine ts (ro rfl (gX (Ht rfl) (Ht rfl)) (eX (cK (dQ (Ht rfl) (fun hd=>?_) (fun hd=>?_)))))
 ·simp only [decide_eq_true_eq] at hd
  refine sE 2 (i) rfl (mY hd) (fun v=>(cU (cK (eG (ts (rm rfl (ra rfl (eX (ts (rm rfl (ro rfl (jB U_78 (Ht rfl)) (ro rfl (cX (cJ 0)) (eX (eG ?_))))))))))))))
  refine fM (fun (k : Nat) (v : Value) => k ≤ z.length) (fun (k : Nat) (v : Value) => z.length - k) (fun (k : Nat) (v : Value) => [(1, dB B1 0), (3, Is (.slice (some ⟨B10, 0, none⟩) z.length z.length)), (4, NT .i64 i), (12, NT .i64 z.length), (13, NT .i64 i), (17, NT .i64 z.length), (18, NT .i64 k)]) (fun (k : Nat) (v : Value) => [Z, box B1 80 [fB z, eL s], Iz B10 54 32 5 (dF aM (lK (fun i => tab z.length fun k => gm s i k) [] z.length i)) i v, bA 32 5 v ((tab k fun k => gm s i k).map aM)]) 0 v (Nat.zero_le _)
   (zS rfl) (dL.refl _) (fun k v hk=>?_)
  refine ts (ro rfl (gX (Ht rfl) (Ht rfl)) (eX (cK (dQ (Ht rfl) (fun he=>?_) (fun he=>?_)))))
  ·simp only [decide_eq_true_eq] at he
   refine cU (cK (eG (ts (rm rfl (ra rfl (eX (ts (ro rfl (eJ A_80 Z_80 (Ht rfl) (i:=1) rfl rfl rfl) (rm rfl (ro rfl (dV (Ht rfl) (cJ 1) z6) (rm rfl (ro rfl (dV (Ht rfl) (cJ 1) z6) (ro rfl (cZ Tryz.call130 (Wo (i:=(i:Int) + 1) (j:=(k:Int) + 1) hsh zo) ⟨(Ht rfl),(Ht rfl),(Ht rfl),trivial⟩) (rm rfl (ro rfl (dK (Ht rfl) rfl) (ro rfl (dK (Ht rfl) rfl) ?_))))))))))))))))
   refine rn rfl (eW (Ts:=[Is (.bool false),Is (.slice none 0 0),Is (.bool false),Is (.slice none 0 0),Is (.slice none 0 0)]) O_32 rfl (fun V=>aW zd (aW zd (aW zd (aW zd (aW zd (aG))))))) fun B6=>gQ Z_32 (Ht rfl) (Ht rfl) rfl (i:=4) rfl (aK rfl) rfl rfl (ra rfl (eX (Y.D_startA (m:=9) [] 8 3 rfl rfl (bY (Ei:=[(3,_)]) rfl rfl (bQ (bJ rfl rfl) bX) rfl rfl (dX rfl (cX (Ht rfl))) ?_))))
   refine bY (Ei:=[(4,_)]) rfl rfl (bQ (bJ rfl rfl) bX) rfl rfl (dX rfl (cX (Ht rfl))) (bY (Ei:=[(3,_)]) rfl rfl (bQ (bJ rfl rfl) bX) rfl rfl (dX rfl (cX (Ht rfl))) (bY (Ei:=[(4,_)]) rfl rfl (bQ (bJ rfl rfl) bX) rfl rfl (dX rfl (cX (Ht rfl))) (bY (Ei:=[(32,_),(33,_)]) rfl rfl (bQ (bZ 2 rfl rfl) (bQ (bZ 3 rfl rfl) bX)) rfl rfl (dX rfl (fY U_78 Z_54 (Ht rfl) (Ht rfl) rfl zo (by rw [Nat.mul_one,Nat.zero_add]))) ?_)))
   refine bY (Ei:=[(34,_)]) rfl rfl (bQ (bZ 4 rfl rfl) bX) rfl rfl (dX rfl (mE A_54 Z_54 (Ht rfl) (j:=2) rfl)) (bY (Ei:=[(6,_)]) rfl rfl (bQ (bJ rfl rfl) bX) rfl rfl (dX rfl (eJ A_32 Z_32 (Ht rfl) (i:=4) rfl rfl rfl)) (bY (Ei:=[(36,_)]) rfl rfl (bQ (bZ 6 rfl rfl) bX) rfl rfl (dX rfl (dA (xs:=[.tmp 36]) U_54 Z_32 O_32 (cW (Ht rfl) cG) rfl rfl rfl)) (Y.D_app (Ei:=[(35,_),(37,_)]) rfl rfl rfl rfl (bQ (bZ 5 rfl rfl) (bQ (bZ 7 rfl rfl) bX)) rfl (sY (inf:=Tryz.t32) nN kT rfl rfl rfl (Ht rfl) (Ht rfl) (by simp) (fun T hT=>by simp at hT; subst hT; exact El.ag rfl) (by show _ * 88 ≤ _; simp only [List.length_map,bI,List.length_cons,List.length_nil]; omega) (by simp only [List.length_map,bI,List.length_cons,List.length_nil]; omega)) ?_)))
   refine Y.D_done mixed rfl (by kernel_rfl) rfl (by simp [Y.okP]) rfl rfl (bU (bU (bU (bU (bU (bU (bU (bU (Y.F_app (fun v2=>Y.F_nil ?_))))))))))
   refine ro rfl (fY U_78 Z_54 (Ht rfl) (Ht rfl) rfl zo (by rw [Nat.mul_one,Nat.zero_add])) ?_
   refine xW Z_54 (Ht rfl) (Ht rfl) (by simp only [dF,List.length_map,iJ]; omega) (j:=2) (l:=5) rfl rfl rfl ?_
   refine eX (cA (cY (ro rfl (dV (Ht rfl) (cJ 1) z6) (rm rfl (eX (dE [0,1,2,5] rfl (by decide) (fU (k + 1,v2) he (by dsimp only; omega) (zS rfl) (aU (fun _ _ _ h=>h) (aU (fun _ _ _ h=>h) (aU (fun _ _ _ h=>h) (aU (cD (by rw [uK,List.map_append,Ti hd he]; rfl)) aY)))))))))))
  ·simp only [decide_eq_false_iff_not] at he
   obtain rfl:k = z.length:=Nat.le_antisymm hk zo
   refine gV rfl (cA (iL 2 3 rfl rfl (by decide) (by simp only [dF,List.length_map,iJ]; omega) ?_))
   refine cY (ro rfl (dV (Ht rfl) (cJ 1) z6) (rm rfl (eX (dE [0,1,2] rfl (by decide) (fU (i + 1) hd zo (zS rfl) (aU (fun _ _ _ h=>h) (aU (fun _ _ _ h=>h) (aU (cR (by rw [jK,← pU (f:=(fun i=>tab z.length fun k=>gm s i k))])) aY))))))))
 ·simp only [decide_eq_false_iff_not] at hd
  obtain rfl:i = z.length:=Nat.le_antisymm hi zo
  refine gV rfl (ts (rm rfl (ra rfl (eX ?_))))
  exact kA B10 trivial [0,2] ⟨⟨_,rfl,fun _ _ _ h=>h⟩,⟨_,rfl,(cR (by rw [pT]))⟩,trivial⟩ (by decide) (xL rfl (eU rfl))
theorem Hm {z : List Qi} {s : List (List Qi)} (hsh : gC s z.length z.length) (hl : z.length ≤ 8) : bE Tryz.prog 122 [mL z s] (eL s) := (Mh hsh hl).fun fun B _ v S V h1 h2 => by
 have h3:=kF (s:=5) (M:=tab z.length fun i=>tab z.length fun k=>gm s i k) (bI _ _).symm v S V h1 h2
 rw [← sR hsh] at h3; exact h3
theorem Rw {z:List Qi} {s:List (List Qi)} (hl:z.length ≤ 8):bE Tryz.prog 247 [mL z s] (fB z):=by
 refine bE.intro Tryz.func247 rfl Tryz.ntmps247 rfl (fun cx=>(ts (rn rfl (fG (Ht rfl)) fun B1=>(ro rfl (cQ cV) (eX (ts (ro rfl (eJ A_80 Z_80 (Ht rfl) (i:=0) rfl rfl rfl) (ro rfl (cZ Tryz.call117 sF ⟨(Ht rfl),trivial⟩) (rn rfl (nW (T:=aM Qi.zero) (i:=Tryz.t32) nN kT rfl rfl (Ht rfl) rfl kH (El.ag rfl) (by show 88 * _ ≤ _; omega) zo) fun B7=>(ra rfl (eX (cK (ts (rm rfl (ro rfl (pX U_54 (Ht rfl) (i:=1) rfl (show ((List.replicate z.length (aM Qi.zero)).length:Int) = ((z.length:Nat):Int) by simp)) ?_)))))))))))))))
 refine ro rfl (cX (cJ 0)) (eX (eG ?_))
 refine fM (fun (k : Nat) (out : List Qi) => jD (fun i => gv z i) z.length out k) (fun (k : Nat) (out : List Qi) => z.length - k) (fun (k : Nat) (out : List Qi) => [(1, dB B1 0), (3, Is B7), (9, NT .i64 z.length), (10, NT .i64 k)]) (fun (k : Nat) (out : List Qi) => [box B1 80 [fB z, eL s], bA 32 5 B7 (out.map aM)]) 0 (List.replicate z.length Qi.zero) (jD.start _ _ _)
  (zS rfl) (aU (fun _ _ _ h=>h) (aU (cD (nG aM _ _)) aY)) (fun k out hS=>?_)
 refine ts (ro rfl (gX (Ht rfl) (Ht rfl)) (eX (cK (dQ (Ht rfl) (fun hk=>?_) (fun hk=>?_)))))
 ·simp only [decide_eq_true_eq] at hk
  have hlen:=hS.len
  refine cU (cK (eG (ts (rm rfl (ra rfl (eX (cY (rm rfl (rm rfl (ro rfl (eJ A_80 Z_80 (Ht rfl) (i:=0) rfl rfl rfl) (rm rfl (ro rfl (dV (Ht rfl) (cJ 1) z6) (ro rfl (cZ Tryz.call124 (Pz (i:=(k:Int) + 1) zo) ⟨(Ht rfl),(Ht rfl),trivial⟩) (rm rfl (ro rfl (dK (Ht rfl) rfl) (ro rfl (dK (Ht rfl) rfl) (ro rfl (iC U_54 Z_32 (Ht rfl) (Ht rfl) rfl (i:=1) rfl (by first | omega | (simp; omega)) rfl) ?_)))))))))))))))))
  refine rA Z_32 (Ht rfl) (Ht rfl) (El.ag rfl) (i:=1) rfl rfl (by first | omega | (simp; omega)) rfl (eX (cA (cY (ro rfl (dV (Ht rfl) (cJ 1) z6) (rm rfl (eX (fU (k + 1,_) (hS.next hk (Jx hk)) (by dsimp only; omega) (zS rfl) (aU (fun _ _ _ h=>h) (aU (cD (kJ aM _ _ _)) aY)))))))))
 ·simp only [decide_eq_false_iff_not] at hk
  obtain rfl:k = z.length:=Nat.le_antisymm hS.kle zo
  have hfin:=hS.fin.trans (zA (l:=z) rfl).symm
  refine gV rfl (gJ (i:=1) (tt:=3) rfl rfl lZ (ts (rm rfl (ra rfl (eX (fW rfl (fX (eU rfl) ?_)))))))
  exact (oV (by rw [hfin]))
end
section
open Go Go.RowKit
theorem De (a:Addr) (w:World):(Instr.fieldAt 84 (.pointer (some a)) 0).run Tryz.prog w = .ok (.pointer (some (a.add 0))) w:=by
 simp [Instr.fieldAt,Instr.sureAddr,fieldPlace,Sem.run_bind,Result.andThen,U_84,Z_80]
theorem zD (v : Value) (w : World) : (method (Tryz.prog.types.size + Made.depth) 32 v "Div").run Tryz.prog w = .ok (142, v) w := by kernel_rfl
theorem nB (v : Value) (w : World) : (method (Tryz.prog.types.size + Made.depth) 32 v "Sub").run Tryz.prog w = .ok (32, v) w := by kernel_rfl
end
section
open Go Go.RowKit
theorem Hh {p c:List (List Qi)} {n m L:Nat} (hp:gC p n m) (hc:gC c m m) (hfp:bL p L) (hfc:bL c L) (hL1:1 ≤ L) (hL:L ≤ 1000000000) (hn1:1 ≤ n) (hm1:1 ≤ m) (hn:n ≤ 8) (hm:m ≤ 8):iF Tryz.prog 126 [eL p,eL c] [] (Nat) (fun B=>Is (.slice (some ⟨B,0,none⟩) n n)) (fun B=>[tZ B 54 32 5 (dF aM (kD p c))]) (fun _=>True):=by
 have hpl:=hp.1
 have hf1:=Ja (n:=n) (m:=m) hfp hfc hL1 hL1 hm
 have hf2:=Gq (n:=n) (m:=m) hfp hL1
 have hs1:gC (rN p c n m m) n m:=Jb
 have hs2:gC (wG p n m) m n:=Gr
 refine iF.intro Tryz.func126 rfl Tryz.ntmps126 rfl (fun cx Z=>(ts (ro rfl (cQ cV) (eX (cK (ts (rm rfl (ro rfl (dG U_78 (Ht rfl) aA) (ro rfl (fN (Ht rfl) (cJ 0)) (eX (dQ (Ht rfl) (fun h0=>?_) (fun h0=>?_))))))))))))
 ·simp only [decide_eq_true_eq] at h0
  omega
 ·refine cU (ts (rm rfl (rm rfl (ro rfl (cZ Tryz.call165 (Ro hp hc hfp hfc hL1 hL1 zo zo hn1 hm1 hn hm hm) ⟨(Ht rfl), (Ht rfl), trivial⟩) (rm rfl (ro rfl (dK (Ht rfl) rfl) (ro rfl (dK (Ht rfl) rfl) (ra rfl (ra rfl (eX (ts (rm rfl (ro rfl (cZ Tryz.call213 (Uq hp hn1 hn hm) ⟨(Ht rfl), trivial⟩) (rm rfl (ro rfl (dK (Ht rfl) rfl) (ro rfl (dK (Ht rfl) rfl) (ra rfl (ra rfl (eX (ts (rm rfl (rm rfl (sD Tryz.call165 (Cq (a := rN p c n m m) (b := wG p n m) hs1 hs2 hf1 hf2 zo hL1 zo zo hn1 hm1 hn hm hn) ⟨(Ht rfl), (Ht rfl), trivial⟩ rfl (fun B28 _ => ?_))))))))))))))))))))))))
  refine rm rfl (ro rfl (dK (Ht rfl) rfl) (ro rfl (dK (Ht rfl) rfl) (ra rfl (ra rfl (eX (ts (rm rfl (ra rfl (eX ?_)))))))))
  exact kA B28 trivial [0,1] ⟨⟨_,rfl,fun _ _ _ h=>h⟩,⟨_,rfl,(cR (by rw [Rz hp hc]))⟩,trivial⟩ (by decide) (xL rfl (eU rfl))
theorem Uy {p c:List (List Qi)} {n m L:Nat} (hp:gC p n m) (hc:gC c m m) (hfp:bL p L) (hfc:bL c L) (hL1:1 ≤ L) (hL:L ≤ 1000000000) (hn1:1 ≤ n) (hm1:1 ≤ m) (hn:n ≤ 8) (hm:m ≤ 8):bE Tryz.prog 126 [eL p,eL c] (eL (kD p c)):=(Hh hp hc hfp hfc hL1 hL hn1 hm1 hn hm).fun fun B _ v S V h1 h2=>kF (s:=5) (M:=kD p c) (by rw [tH.1,hp.1]) v S V h1 h2
theorem Hc {z:List Qi} {s c:List (List Qi)} {g t0:Qi} {L:Nat} (hz:eO z L) (hs:bL s L) (hc:bL c L) (hg:aL g L) (ht:aL t0 L) (hL1:1 ≤ L) (hL:L ≤ 4000) (hsh:gC s z.length z.length) (hch:gC c z.length z.length) (hl:z.length ≤ 8):bE Tryz.prog 44 [lA z s c,aM g,aM t0] (gA [aM (pM z s c g t0).1,aC .i64 (pM z s c g t0).2]):=by
 haveI:=hg; haveI:=ht
 haveI hz0:aL Qi.zero 1:=aL.zero (Nat.le_refl 1)
 have d1:(dg (((1:Nat):Int)).natAbs).length = 1:=by decide
 have d2:(dg (Int.natAbs 1)).length = 1:=by decide
 have hcl:=hch.1
 refine bE.intro Tryz.func44 rfl Tryz.ntmps44 rfl (fun cx=>(ts (rn rfl (fG (Ht rfl)) fun B3=>(rn rfl (fG (Ht rfl)) fun B4=>(rn rfl (fG (Ht rfl)) fun B5=>(rn rfl (eW (Ts:=[Is (.bool false),Is (.slice none 0 0),Is (.bool false),Is (.slice none 0 0),Is (.slice none 0 0)]) O_32 rfl (fun V=>aW zd (aW zd (aW zd (aW zd (aW zd (aG))))))) fun B6=>(ro rfl (cQ (cJ 0)) (eX (ts (rn rfl (eW (Ts:=[Is (.bool false),Is (.slice none 0 0),Is (.bool false),Is (.slice none 0 0),Is (.slice none 0 0)]) O_32 rfl (fun V=>aW zd (aW zd (aW zd (aW zd (aW zd (aG))))))) fun B8=>?_))))))))))
 refine eX (cK (cK (fZ (m:=6) (dp 5 rfl (eJ A_32 Z_32 (Ht rfl) (i:=2) rfl rfl rfl) (dq 18 0 rfl (cZ K_35 oN ⟨(Ht rfl),trivial⟩) (dq 19 1 rfl (fR (Ht rfl)) (dq 20 2 rfl (cX (Ht rfl)) (C.D_step (Ei:=[(5,_),(21,_)]) rfl rfl (bV (bK rfl rfl) (bV (bG 3 rfl rfl) bW)) (eK rfl rfl (Ht rfl) (fun h=>eJ A_32 Z_32 (Ht rfl) (i:=2) rfl rfl rfl)) (C.D_step (Ei:=[(21,_)]) rfl rfl (bV (bG 3 rfl rfl) bW) (eK rfl rfl (Ht rfl) (fun h=>cZ K_36 (kB (n:=0) (by decide) (by decide)) ⟨(cJ 0),trivial⟩)) ?_)))))))))
 refine fV mixed rfl (by kernel_rfl) (zF (aJ (aJ (aV (fQ rfl rfl (eK rfl rfl (Ht rfl) (fun h=>cZ K_30 (oF (x:=t0) (y:=Qi.zero) (M:=1) zo) ⟨(fJ rfl h),(fJ rfl h),trivial⟩)) (fQ rfl rfl (eK rfl rfl (Ht rfl) (fun h=>oT (fJ rfl h) cV)) (ro rfl (gH (Ht rfl) (fun h=>(fJ rfl h))) (eX (dQ (Ht rfl) (fun hb=>?_) (fun hb=>?_))))))))))
 ·rw [Dp] at hb
  simp only [Bool.not_eq_true'] at hb
  have he:pM z s c g t0 = (Qi.zero,1):=by rw [pM,if_pos hb]
  refine ts (ro rfl (eJ A_32 Z_32 (Ht rfl) (i:=4) rfl rfl rfl) (gQ Z_32 (Ht rfl) (Ht rfl) rfl (i:=3) rfl (aK rfl) rfl rfl (ro rfl (cQ (cJ 1)) (eX (cB rfl (fX (fK A_32 Z_32 rfl (i:=3) rfl rfl) ?_) (fX (eU rfl) ?_))))))
  ·exact (fun v V k=>by rw [he]; exact jH v V k)
  ·exact (fun v V k=>by rw [he]; exact k)
 ·rw [Dp] at hb
  simp only [Bool.not_eq_false'] at hb
  have hb2:¬ gL t0 = false:=by rw [hb]; decide
  refine cU (cK (ts (ro rfl (eZ pL (Ht rfl) rfl) (ro rfl (eY A_78 Z_78 (Ht rfl) (i:=0) rfl rfl) (ro rfl (dG U_78 (Ht rfl) aA) (ro rfl (jO (Ht rfl) (cJ 2)) (eX (dQ (Ht rfl) (fun hd=>?_) (fun hd=>?_)))))))))
  ·have hd2 : z.length ≠ 2 := by rw [← hcl]; simpa using hd
   have he:pM z s c g t0 = (Qi.zero,4):=by rw [pM,if_neg hb2,if_pos hd2]
   refine ts (ro rfl (eJ A_32 Z_32 (Ht rfl) (i:=4) rfl rfl rfl) (gQ Z_32 (Ht rfl) (Ht rfl) rfl (i:=3) rfl (aK rfl) rfl rfl (ro rfl (cQ (cJ 4)) (eX (cB rfl (fX (fK A_32 Z_32 rfl (i:=3) rfl rfl) ?_) (fX (eU rfl) ?_))))))
   ·exact (fun v V k=>by rw [he]; exact jH v V k)
   ·exact (fun v V k=>by rw [he]; exact k)
  ·have hd2 : z.length = 2 := by rw [← hcl]; simpa using hd
   have hd3:¬ z.length ≠ 2:=fun h=>h hd2
   have hsh2:=hsh
   rw [hd2] at hsh hch
   have hs1:=hsh.1
   have hc1:=hch.1
   have hr0:=hsh.row (i:=0) (by decide)
   have hr1:=hsh.row (i:=1) (by decide)
   have hWf:=yR hs hg hL1
   have hW:gC (Im s g) 1 2:=⟨rfl,fun r hr=>by have:=List.mem_singleton.1 hr; subst this; rfl⟩
   have hXs:gC (kD (Im s g) c) 1 1:=tH
   have hX0:=hXs.row (i:=0) (by decide)
   have hp1:=Xl (z:=z) zo
   haveI f1:aL (gm s 1 0) L:=hs.get hL1 1 0
   haveI f2:aL (gm s 0 0) L:=hs.get hL1 0 0
   haveI f3:aL (Lk z ((1:Nat):Int)) L:=by rw [hp1]; exact hz.get hL1 0
   haveI f4:=Io hs hc hg hL1 zo
   have hpd:gm s 1 0 * (gm s 1 0).conj * (t0 * Lk z ((1:Nat):Int)) * (xC - g * g.conj) = yQ z s g t0:=by rw [hp1,Qi.mul_conj_norm,Qi.mul_conj_norm,yQ,Qi.mul_assoc']
   refine cU (ts (ro rfl (eZ De (Ht rfl) rfl) (ro rfl (eJ A_80 Z_80 (Ht rfl) (i:=0) rfl rfl rfl) (ro rfl (cZ Tryz.call122 (Hm hsh2 zo) ⟨(Ht rfl),trivial⟩) (ro rfl (cZ K_36 (kB (n:=1) (by decide) (by decide)) ⟨(cJ 1),trivial⟩) (ro rfl (cZ Tryz.call123 Hl ⟨(Ht rfl),trivial⟩) (rn rfl (eW (Ts:=[Is (.bool false),Is (.slice none 0 0),Is (.bool false),Is (.slice none 0 0),Is (.slice none 0 0)]) O_32 rfl (fun V=>aW zd (aW zd (aW zd (aW zd (aW zd (aG))))))) fun B10=>?_)))))))
   refine ra rfl (gQ Z_32 (Ht rfl) (Ht rfl) rfl (i:=5) rfl (aK rfl) rfl rfl (eX (ts (ro rfl (eZ De (Ht rfl) rfl) (ro rfl (eJ A_80 Z_80 (Ht rfl) (i:=0) rfl rfl rfl) (ro rfl (cZ Tryz.call124 (Pz (i:=((1:Nat):Int)) zo) ⟨(Ht rfl),(cJ 1),trivial⟩) (rm rfl (ro rfl (dK (Ht rfl) rfl) (ro rfl (dK (Ht rfl) rfl) (rn rfl (eW (Ts:=[Is (.bool false),Is (.slice none 0 0),Is (.bool false),Is (.slice none 0 0),Is (.slice none 0 0)]) O_32 rfl (fun V=>aW zd (aW zd (aW zd (aW zd (aW zd (aG))))))) fun B11=>?_))))))))))
   refine gQ Z_32 (Ht rfl) (Ht rfl) rfl (i:=6) rfl (aK rfl) rfl rfl (ra rfl (eX (cK (oE (E':=[(3,_),(4,_),(5,_),(6,_),(7,_),(8,_),(9,_),(10,_),(11,_)]) (zS rfl) (fZ (m:=18) (dp 9 rfl (cX (Ht rfl)) (dq 44 0 rfl (dZ U_78 Z_54 (Ht rfl) (cJ 1) rfl (dY (dU (d:=[]) zo))) (dq 45 1 rfl (dJ A_54 Z_54 (Ht rfl)) (dq 46 2 rfl (dZ U_54 Z_32 (Ht rfl) (cJ 0) rfl (dY (dU (d:=Qi.zero) (by rw [hr1]; decide)))) ?_)))))))))
   refine dq 47 3 rfl (dJ A_32 Z_32 (Ht rfl)) (dq 48 4 rfl (cT eB (Ht rfl)) (dp 4 rfl (eJ A_32 Z_32 (Ht rfl) (i:=1) rfl rfl rfl) (fA 49 5 50 6 rfl (bT fD K_29 (kC zo) (Ht rfl) ⟨(Ht rfl),trivial⟩) (dp 10 rfl (eJ A_32 Z_32 (Ht rfl) (i:=5) rfl rfl rfl) (dq 52 8 rfl (cT eB (Ht rfl)) (dp 4 rfl (eJ A_32 Z_32 (Ht rfl) (i:=1) rfl rfl rfl) (dq 54 10 rfl (cT eB (Ht rfl)) (dp 9 rfl (cX (Ht rfl)) (dq 56 12 rfl (dZ U_78 Z_54 (Ht rfl) (cJ 0) rfl (dY (dU (d:=[]) zo))) ?_)))))))))
   refine dq 57 13 rfl (dJ A_54 Z_54 (Ht rfl)) (dq 58 14 rfl (dZ U_54 Z_32 (Ht rfl) (cJ 0) rfl (dY (dU (d:=Qi.zero) (by rw [hr0]; decide)))) ?_)
   refine dq 59 15 rfl (dJ A_32 Z_32 (Ht rfl)) (fA 55 11 60 16 rfl (bT fD K_29 (kC zo) (Ht rfl) ⟨(Ht rfl),trivial⟩) (fV mixed rfl (by kernel_rfl) (zF (zF (zF (zF (aJ (aJ (aV (ro rfl (bT nB Tryz.call32 (He zo) (Ht rfl) ⟨(Ht rfl),trivial⟩) (ro rfl (dA (xs:=[.tmp 51,.tmp 62]) U_54 Z_32 O_32 (cW (Ht rfl) (cW (Ht rfl) cG)) rfl rfl rfl) ?_)))))))))))
   refine ro rfl (dA (xs:=[.tmp 63]) U_78 Z_54 Tryz.zeroValue54 (cW (Ht rfl) cG) rfl rfl rfl) (ra rfl (eX (cK (oE (E':=[(3,_),(4,_),(5,_),(6,_),(7,_),(8,_),(9,_),(10,_),(11,_),(13,_)]) (zS rfl) (cY (rm rfl (ro rfl (eZ pL (Ht rfl) rfl) (ro rfl (eY A_78 Z_78 (Ht rfl) (i:=0) rfl rfl) (ro rfl (cZ Tryz.call126 (Uy (p:=Im s g) (c:=c) (n:=1) (m:=2) (L:=2 * L + 4) hW hch hWf (hc.le zo) zo zo (by decide) (by decide) (by decide) (by decide)) ⟨(Ht rfl),(Ht rfl),trivial⟩) ?_)))))))))
   refine ro rfl (dZ U_78 Z_54 (Ht rfl) (cJ 0) rfl (dY (dU (d:=[]) (by rw [hXs.1]; decide)))) ?_
   refine ro rfl (dJ A_54 Z_54 (Ht rfl)) (ro rfl (dZ U_54 Z_32 (Ht rfl) (cJ 0) rfl (dY (dU (d:=Qi.zero) (by rw [hX0]; decide)))) ?_)
   refine ro rfl (dJ A_32 Z_32 (Ht rfl)) (rn rfl (eW (Ts:=[Is (.bool false),Is (.slice none 0 0),Is (.bool false),Is (.slice none 0 0),Is (.slice none 0 0)]) O_32 rfl (fun V=>aW zd (aW zd (aW zd (aW zd (aW zd (aG))))))) fun B14=>(gQ Z_32 (Ht rfl) (Ht rfl) rfl (i:=7) rfl (aK rfl) rfl rfl (eX (cK (oE (E':=[(3,_),(4,_),(5,_),(6,_),(7,_),(8,_),(9,_),(10,_),(11,_),(14,_)]) (zS rfl) ?_)))))
   refine fZ (m:=32) (dp 9 rfl (cX (Ht rfl)) (dq 73 0 rfl (dZ U_78 Z_54 (Ht rfl) (cJ 1) rfl (dY (dU (d:=[]) zo))) (dq 74 1 rfl (dJ A_54 Z_54 (Ht rfl)) (dq 75 2 rfl (dZ U_54 Z_32 (Ht rfl) (cJ 0) rfl (dY (dU (d:=Qi.zero) (by rw [hr1]; decide)))) ?_))))
   refine dq 76 3 rfl (dJ A_32 Z_32 (Ht rfl)) (dq 77 4 rfl (cT eB (Ht rfl)) (dp 9 rfl (cX (Ht rfl)) (dq 79 6 rfl (dZ U_78 Z_54 (Ht rfl) (cJ 1) rfl (dY (dU (d:=[]) zo))) (dq 80 7 rfl (dJ A_54 Z_54 (Ht rfl)) (dq 81 8 rfl (dZ U_54 Z_32 (Ht rfl) (cJ 0) rfl (dY (dU (d:=Qi.zero) (by rw [hr1]; decide)))) ?_)))))
   refine dq 82 9 rfl (dJ A_32 Z_32 (Ht rfl)) (dq 83 10 rfl (cT eB (Ht rfl)) (dq 84 11 rfl (bT mB Tryz.call317 Au (Ht rfl) trivial) (fA 78 5 85 12 rfl (bT fD K_29 (kC zo) (Ht rfl) ⟨(Ht rfl),trivial⟩) (dq 86 13 rfl (cT eB (Ht rfl)) (dp 5 rfl (eJ A_32 Z_32 (Ht rfl) (i:=2) rfl rfl rfl) (dp 11 rfl (eJ A_32 Z_32 (Ht rfl) (i:=6) rfl rfl rfl) (fA 88 15 89 16 rfl (cZ K_29 (kC zo) ⟨(Ht rfl),(Ht rfl),trivial⟩) (dq 90 17 rfl (cZ Tryz.call123 Hl ⟨(Ht rfl),trivial⟩) ?_))))))))
   refine fA 87 14 91 18 rfl (bT fD K_29 (kC zo) (Ht rfl) ⟨(Ht rfl),trivial⟩) (dq 92 19 rfl (cT eB (Ht rfl)) (dp 10 rfl (eJ A_32 Z_32 (Ht rfl) (i:=5) rfl rfl rfl) (dq 94 21 rfl (cT eB (Ht rfl)) (dp 4 rfl (eJ A_32 Z_32 (Ht rfl) (i:=1) rfl rfl rfl) (dq 96 23 rfl (cT eB (Ht rfl)) (dp 4 rfl (eJ A_32 Z_32 (Ht rfl) (i:=1) rfl rfl rfl) (dq 98 25 rfl (cT eB (Ht rfl)) (dq 99 26 rfl (bT mB Tryz.call317 Au (Ht rfl) trivial) (fA 97 24 100 27 rfl (bT fD K_29 (kC zo) (Ht rfl) ⟨(Ht rfl),trivial⟩) ?_)))))))))
   refine fA 95 22 101 28 rfl (bT nB Tryz.call32 (He zo) (Ht rfl) ⟨(Ht rfl),trivial⟩) (fA 93 20 102 29 rfl (bT fD K_29 (kC zo) (Ht rfl) ⟨(Ht rfl),trivial⟩) (C.D_new (Ei:=[]) rfl rfl rfl bW (eW (Ts:=[Is (.bool false),Is (.slice none 0 0),Is (.bool false),Is (.slice none 0 0),Is (.slice none 0 0)]) O_32 rfl (fun V=>aW zd (aW zd (aW zd (aW zd (aW zd (aG))))))) (fV mixed rfl (by kernel_rfl) (zF (zF (zF (zF (zF (zF (zF (aJ (aJ (aJ (C.F_new (fun B15=>aV ?_)))))))))))))))
   refine gQ Z_32 (Ht rfl) (Ht rfl) rfl (i:=8) rfl (aK rfl) rfl rfl (eX (cK (oE (E':=[(6,_),(7,_),(8,_),(10,_),(14,_),(15,_)]) (zS rfl) (cY (ro rfl (eJ A_32 Z_32 (Ht rfl) (i:=7) rfl rfl rfl) (ro rfl (cT eB (Ht rfl)) (ro rfl (eJ A_32 Z_32 (Ht rfl) (i:=8) rfl rfl rfl) (ro rfl (bT zD Tryz.call142 (Ur (x:=In s c g) (y:=gm s 1 0 * (gm s 1 0).conj * (t0 * Lk z ((1:Nat):Int)) * (xC - g * g.conj)) zo) (Ht rfl) ⟨(Ht rfl),trivial⟩) ?_))))))))
   refine rm rfl (ro rfl (dK (Ht rfl) rfl) (ro rfl (dK (Ht rfl) rfl) (rn rfl (eW (Ts:=[Is (.bool false),Is (.slice none 0 0),Is (.bool false),Is (.slice none 0 0),Is (.slice none 0 0)]) O_32 rfl (fun V=>aW zd (aW zd (aW zd (aW zd (aW zd (aG))))))) fun B16=>(gQ Z_32 (Ht rfl) (Ht rfl) rfl (i:=9) rfl (aK rfl) rfl rfl (ra rfl (eX (cK (cK (oE (E':=[(6,_),(7,_),(8,_),(10,_),(16,_),(17,_)]) (zS rfl) ?_)))))))))
   refine cY (rm rfl (ro rfl (lF (Ht rfl) cV) (eX (dQ (Ht rfl) (fun hk=>?_) (fun hk=>?_)))))
   ·rw [hpd] at hk
    have hk2 : yQ z s g t0 = Qi.zero := by
     by_cases h:yQ z s g t0 = Qi.zero
     ·exact h
     ·rw [if_neg h] at hk; exact absurd hk (by decide)
    have he:pM z s c g t0 = (Qi.zero,3):=by rw [pM,if_neg hb2,if_neg hd3,if_pos hk2]
    refine ts (ro rfl (eJ A_32 Z_32 (Ht rfl) (i:=4) rfl rfl rfl) (gQ Z_32 (Ht rfl) (Ht rfl) rfl (i:=3) rfl (aK rfl) rfl rfl (ro rfl (cQ (cJ 3)) (eX (cB rfl (fX (fK A_32 Z_32 rfl (i:=3) rfl rfl) ?_) (fX (eU rfl) ?_))))))
    ·exact (fun v V k=>by rw [he]; exact jH v V k)
    ·exact (fun v V k=>by rw [he]; exact k)
   ·have hk2 : ¬ yQ z s g t0 = Qi.zero := fun h => by rw [hpd, if_pos h] at hk; exact absurd hk (by decide)
    have he:pM z s c g t0 = (xC + In s c g / yQ z s g t0,0):=by rw [pM,if_neg hb2,if_neg hd3,if_neg hk2]
    have hv:xC + In s c g / (gm s 1 0 * (gm s 1 0).conj * (t0 * Lk z ((1:Nat):Int)) * (xC - g * g.conj)) = (pM z s c g t0).1:=by rw [he,hpd]
    refine cU (ts (ro rfl (eJ A_32 Z_32 (Ht rfl) (i:=5) rfl rfl rfl) (ro rfl (cT eB (Ht rfl)) (ro rfl (eJ A_32 Z_32 (Ht rfl) (i:=9) rfl rfl rfl) (ro rfl (bT rD Tryz.call33 (yE zo) (Ht rfl) ⟨(Ht rfl),trivial⟩) (gQ Z_32 (Ht rfl) (Ht rfl) rfl (i:=3) rfl (aK rfl) rfl rfl (ro rfl (cQ (cJ 0)) (eX (cB rfl (fX (fK A_32 Z_32 rfl (i:=3) rfl rfl) ?_) (fX (eU rfl) ?_))))))))))
    ·exact (iP hv)
    ·exact (fun v V k=>by rw [he]; exact k)
end
section
open Go Go.RowKit
theorem Lz {n:Nat} (h:n < 4294967296):bE Tryz.prog 289 [NT .u64 1,NT .u64 n] (gA [NT .u64 0,NT .u64 n]):=by
 refine bE.intro Tryz.func289 rfl Tryz.ntmps289 rfl (fun cx=>(ts (ro rfl (cQ (cJ 0)) (ro rfl (cQ (cJ 0)) (eX (ts (rm rfl (ro rfl (aF.nat (pV rfl (Ht rfl) (cJ 4294967295) z7 z7) (show (1:Nat) &&& 4294967295 = 1 by decide)) (ra rfl (eX (ts (rm rfl (ro rfl (aF.nat (fF (Ht rfl) (cJ 32) (by decide)) (show (1:Nat) / 2 ^ 32 = 0 by decide)) (ra rfl (eX (ts (rm rfl (ro rfl (aF.nat (pV rfl (Ht rfl) (cJ 4294967295) z7 z7) (show n &&& 4294967295 = n from (Nat.and_two_pow_sub_one_eq_mod n 32).trans (Nat.mod_eq_of_lt h))) ?_))))))))))))))))))
 refine ra rfl (eX (ts (rm rfl (ro rfl (aF.nat (fF (Ht rfl) (cJ 32) (by decide)) (show n / 2 ^ 32 = 0 from Nat.div_eq_of_lt h)) (ra rfl (eX (ts (rm rfl (rm rfl (ro rfl (aF.nat (kY (Ht rfl) (Ht rfl) z7) (Nat.one_mul n)) (ra rfl (eX (ts (rm rfl (rm rfl (ro rfl (aF.nat (kY (Ht rfl) (Ht rfl) z7) (Nat.zero_mul n)) (rm rfl (ro rfl (aF.nat (fF (Ht rfl) (cJ 32) (by decide)) (show n / 2 ^ 32 = 0 from Nat.div_eq_of_lt h)) ?_))))))))))))))))))
 refine ro rfl (dV (Ht rfl) (Ht rfl) z7) (ra rfl (eX (ts (rm rfl (ro rfl (aF.nat (pV rfl (Ht rfl) (cJ 4294967295) z7 z7) (show (0 + 0:Nat) &&& 4294967295 = 0 by decide)) (ra rfl (eX (ts (rm rfl (ro rfl (aF.nat (fF (Ht rfl) (cJ 32) (by decide)) (show (0 + 0:Nat) / 2 ^ 32 = 0 by decide)) (ra rfl (eX (ts (rm rfl (rm rfl (rm rfl ?_))))))))))))))))
 refine ro rfl (aF.nat (kY (Ht rfl) (Ht rfl) z7) (show (1 * 0:Nat) = 0 by decide)) (ro rfl (dV (Ht rfl) (Ht rfl) z7) (ra rfl (eX (ts (rm rfl (rm rfl (ro rfl (aF.nat (kY (Ht rfl) (Ht rfl) z7) (show (0 * 0:Nat) = 0 by decide)) (rm rfl (ro rfl (dV (Ht rfl) (Ht rfl) z7) ?_)))))))))
 refine rm rfl (ro rfl (aF.nat (fF (Ht rfl) (cJ 32) (by decide)) (show (0 + 0:Nat) / 2 ^ 32 = 0 by decide)) (ro rfl (dV (Ht rfl) (Ht rfl) z7) (ra rfl (eX (ts (rm rfl (rm rfl (ro rfl (aF.nat (kY (Ht rfl) (Ht rfl) z7) (Nat.one_mul n)) (ra rfl (eX (cB rfl (fX (eU rfl) ?_) (eU rfl))))))))))))
 exact (kX (by decide))
theorem Rr {n:Nat} (h:n < 4294967296):bE Tryz.prog 259 [NT .u64 1,NT .u64 n] (gA [NT .u64 0,NT .u64 n]):=by
 refine bE.intro Tryz.func259 rfl Tryz.ntmps259 rfl (fun cx=>(ts (ro rfl (cQ (cJ 0)) (ro rfl (cQ (cJ 0)) (eX (cK (dQ cV (fun hf=>?_) (fun hf=>?_))))))))
 ·exact absurd hf (by decide)
 ·refine cU (ts (rm rfl (rm rfl (ro rfl (cZ Tryz.call289 (Lz h) ⟨(Ht rfl), (Ht rfl), trivial⟩) (rm rfl (ro rfl (dK (Ht rfl) rfl) (ro rfl (dK (Ht rfl) rfl) (ra rfl (ra rfl (eX (ts (rm rfl (rm rfl (ra rfl (ra rfl (eX ?_))))))))))))))))
  exact cB rfl (eU rfl) (eU rfl)
theorem Rp {m:Nat} (h1:1 ≤ m) (hm:m ≤ 1000):iF Tryz.prog 212 [fB [Qi.zero],NT .i64 m] [] ({v:Value // iW v}) (fun v=>Is v.1) (fun v=>[bA 32 5 v.1 ((tab m fun _=>Qi.zero).map aM)]) (fun _=>True):=by
 refine iF.intro Tryz.func212 rfl Tryz.ntmps212 rfl (fun cx Z=>(ts (ro rfl (cQ cV) (eX (cK (ts (rm rfl (ro rfl (gX (Ht rfl) (cJ 0)) (eX (dQ (Ht rfl) (fun h0=>?_) (fun h0=>?_)))))))))))
 ·simp only [decide_eq_true_eq] at h0
  omega
 ·refine cU (ts (rm rfl (ro rfl (dG U_54 (Ht rfl) (show (([Qi.zero].map aM).length : Int) = ((1 : Nat) : Int) from rfl)) (ro rfl (gZ U_3 U_275 (Ht rfl) z7) (rm rfl (ro rfl (gZ U_3 U_275 (Ht rfl) z7) (ro rfl (cZ Tryz.call259 (Rr zo) ⟨(Ht rfl), (Ht rfl), trivial⟩) (rm rfl (ro rfl (dK (Ht rfl) rfl) (ro rfl (dK (Ht rfl) rfl) ?_))))))))))
  refine ra rfl (ra rfl (eX (cK (ts (rm rfl (ro rfl (iB (Ht rfl) (cJ 0)) (rm rfl (fQ rfl rfl (eK rfl rfl (Ht rfl) (fun h=>cX (Ht rfl))) (fQ rfl rfl (eK rfl rfl (Ht rfl) (fun h=>iB (fJ rfl h) (cJ 9223372036854775807))) (ro rfl (gH (Ht rfl) (fun h=>(fJ rfl h))) (eX (dQ (Ht rfl) (fun h2=>?_) (fun h2=>?_)))))))))))))
  ·simp only [Bool.or_eq_true, decide_eq_true_eq] at h2
   omega
  ·refine cU (ts (rm rfl (ro rfl (gZ U_275 U_3 (Ht rfl) z6) (Lo (T := aM Qi.zero) (i := Tryz.t32) nN kT rfl rfl (Ht rfl) rfl kH (El.ag rfl) (by show 88 * _ ≤ _; omega) zo rfl (fun B30 hB30 => (ra rfl (eX (ts (rm rfl (rm rfl (ro rfl (Jl (q := 1) (T := aM Qi.zero) U_54 Z_32 (i := 1) rfl (Ht rfl) (Ht rfl) (by decide) (El.ag rfl) zo) (ra rfl (eX (cK (eG ?_)))))))))))))))
   refine eR (fun (k : Nat) => 1 ≤ k ∧ k ≤ m) (fun (k : Nat) => m - k) (fun (k : Nat) => [(7, Is B30), (8, NT .i64 k)]) (fun (k : Nat) => [Z, bA 32 5 B30 (List.replicate m (aM Qi.zero))]) (Nat.min 1 m) ⟨by show 1 ≤ min 1 m; omega, by show min 1 m ≤ m; omega⟩
    (zS rfl) (dL.refl _) (fun k ⟨hk1,hk⟩=>?_)
   refine cK (ts (rm rfl (rm rfl (ro rfl (pX U_54 (Ht rfl) (i:=1) rfl (show ((List.replicate m (aM Qi.zero)).length:Int) = ((m:Nat):Int) by simp)) (ro rfl (gX (Ht rfl) (Ht rfl)) (eX (dQ (Ht rfl) (fun hd=>?_) (fun hd=>?_))))))))
   ·simp only [decide_eq_true_eq] at hd
    have hlen:(List.replicate m (aM Qi.zero)).length = m:=by simp
    have h5:Nat.min k ((List.replicate m (aM Qi.zero)).length - k) = min k (m - k):=by rw [hlen]
    refine cU (eG (fZ (m:=8) (dp 8 rfl (cX (Ht rfl)) (dp 7 rfl (cX (Ht rfl)) (dp 8 rfl (cX (Ht rfl)) (fA 39 1 40 2 rfl (Jq U_54 Z_32 (Ht rfl) (Ht rfl) rfl (i:=1) rfl (by rw [hlen]; exact hd)) ?_))))))
    refine dp 7 rfl (cX (Ht rfl)) (dp 8 rfl (cX (Ht rfl)) (fA 42 4 43 5 rfl (Jp U_54 Z_32 (Ht rfl) (Ht rfl) rfl (i:=1) rfl (by rw [hlen]; omega) (by rw [hlen]; omega)) ?_))
    refine fA 41 3 44 6 rfl (Bl (T:=aM Qi.zero) U_54 Z_32 (i:=1) rfl (Ht rfl) (Ht rfl)) (fV mixed rfl (by kernel_rfl) (zF (zF (aV (ro rfl (dV (Ht rfl) (Ht rfl) (by show _ < 9223372036854775808; omega)) (ra rfl (eX (cA (fU (k + Nat.min k ((List.replicate m (aM Qi.zero)).length - k)) ⟨by omega,by omega⟩ zo (zS rfl) (dL.refl _))))))))))
   ·refine gV rfl (ts (rm rfl (ra rfl (eX ?_))))
    exact kA ⟨B30,hB30⟩ trivial [0,1] ⟨⟨_,rfl,fun _ _ _ h=>h⟩,⟨_,rfl,(cD (by rw [lQ,nG]))⟩,trivial⟩ (by decide) (xL rfl (eU rfl))
end
section
open Go Go.RowKit
theorem At {n : Nat} {E : bC} {H : Hp} {d : Option Tmp} {t : TypeId} {pos : String} {af : Array Edge} {g : Option (Nat × Bool)} {x0 x1 : Operand} {T0 T1 T2 : Ty} (h0 : aN E x0 (dO [T0, T1])) [s1 : bN T2 1 false] (h1 : aN E x1 T2) :
  aF Tryz.prog n E H ⟨d,.build 84 #[(0,x0),(1,x1)],t,pos,af,g⟩ (dO [T0,T1,T2]) :=
 fE (parts := [(0, x0), (1, x1)]) fun a V w hs => by
  obtain ⟨v0,e0,c0⟩:=h0 n V a hs
  obtain ⟨c0_0,c0_1,rfl⟩:∃ c0_0 c0_1,v0 = [c0_0,c0_1]:=Dn (by simpa using c0.length)
  have p1:=h1 n V a hs
  generalize e1:a.eval x1 = v1 at p1
  have q1:=(s1.ok v1 V p1).2.2 rfl
  refine ⟨.agg #[c0_0,c0_1,v1],?_,[c0_0,c0_1,v1],rfl,aW (c0.at (i:=0) rfl rfl) (aW (c0.at (i:=1) rfl rfl) (aW (⟨p1,q1⟩) (aG)))⟩
  simp [e0,e1,Instr.build,Instr.fill,Sem.run_bind,Result.andThen,dM,q1.cells,O_84,U_84,Z_78,Z_80]
end
section
open Go Go.RowKit
theorem Hq {n:Nat} (hn:n ≤ 1000):iF Tryz.prog 125 [NT .i64 n,NT .i64 n] [] (Nat) (fun B=>Is (.slice (some ⟨B,0,none⟩) n n)) (fun B=>[lJ iW B 54 32 5 (dF aM (Qp n n))]) (fun _=>True):=by
 refine iF.intro Tryz.func125 rfl Tryz.ntmps125 rfl (fun cx Z=>(ts (ro rfl (cQ cV) (eX (ts (rm rfl (rn rfl (fP (T:=Is (.slice none 0 0)) (i:=Tryz.t54) V_78 nU rfl rfl (Ht rfl) rfl (fun _=>rfl) trivial (by show 24 * _ ≤ _; omega) zo) fun B8=>(ra rfl (eX (cK (ts (rm rfl (ro rfl (jB U_78 (Ht rfl)) (ro rfl (cX (cJ 0)) (eX (eG (oK 1 rfl (zC iW ⟨none,0,rfl⟩ (e:=32) (s:=5)) ?_)))))))))))))))))
 refine eR (fun (k : Nat) => k ≤ n) (fun (k : Nat) => n - k) (fun (k : Nat) => [(1, NT .i64 n), (5, Is (.slice (some ⟨B8, 0, none⟩) n n)), (10, NT .i64 n), (11, NT .i64 k)]) (fun (k : Nat) => [Z, lJ iW B8 54 32 5 (dF aM (lK (fun _ => (tab n fun _ => Qi.zero)) [] n k))]) 0 (Nat.zero_le _)
  (zS rfl) (aU (fun _ _ _ h=>h) (aU (cR (by rw [← nD,lQ]; exact nF aM n)) aY)) (fun k hk=>?_)
 refine ts (ro rfl (gX (Ht rfl) (Ht rfl)) (eX (cK (dQ (Ht rfl) (fun hd=>?_) (fun hd=>?_)))))
 ·simp only [decide_eq_true_eq] at hd
  refine pD 1 (k) rfl (mY hd) (fun v hv=>(cU (cK (eG (ts (rm rfl (ra rfl (eX (cY (rm rfl (rm rfl (ro rfl (cZ K_36 (kB (n:=0) (by decide) (by decide)) ⟨(cJ 0),trivial⟩) (ro rfl (cZ Tryz.call123 Hl ⟨(Ht rfl),trivial⟩) (ro rfl (dA (xs:=[.tmp 17]) U_54 Z_32 O_32 (cW (Ht rfl) cG) rfl rfl rfl) (rm rfl (sD Tryz.call212 (Rp (m:=n) zo hn) ⟨(Ht rfl),(Ht rfl),trivial⟩ rfl (fun B20 _=>?_)))))))))))))))))
  have hB20:=B20.2
  refine ro rfl (fY U_78 Z_54 (Ht rfl) (Ht rfl) rfl zo (by rw [Nat.mul_one,Nat.zero_add])) ?_
  refine xW Z_54 (Ht rfl) (Ht rfl) (by simp only [dF,List.length_map,iJ]; omega) (j:=1) (l:=3) rfl rfl rfl ?_
  refine eX (cA (iL 1 3 rfl rfl (by decide) (by simp only [dF,List.length_map,iJ]; omega) ?_))
  refine cY (ro rfl (dV (Ht rfl) (cJ 1) z6) (rm rfl (eX (dE [0,1] rfl (by decide) (fU (k + 1) hd zo (zS rfl) (aU (fun _ _ _ h=>h) (aU (cR (by rw [jK,← pU (f:=fun _=>(tab n fun _=>Qi.zero))])) aY)))))))
 ·simp only [decide_eq_false_iff_not] at hd
  obtain rfl:n = k:=Nat.le_antisymm zo hk
  refine gV rfl (ts (rm rfl (ra rfl (eX ?_))))
  exact kA B8 trivial [0,1] ⟨⟨_,rfl,fun _ _ _ h=>h⟩,⟨_,rfl,(cR (by rw [pT]; rfl))⟩,trivial⟩ (by decide) (xL rfl (eU rfl))
theorem Hn {z:List Qi} {s:List (List Qi)} {L:Nat} (hz:eO z L) (hs:bL s L) (hL1:1 ≤ L) (hL:L ≤ 10000000) (hsh:gC s z.length z.length) (hl1:1 ≤ z.length) (hl:z.length ≤ 8):iF Tryz.prog 196 [mL z s] [] (Nat) (fun B=>Is (.slice (some ⟨B,0,none⟩) z.length z.length)) (fun B=>[lJ iW B 54 32 5 (dF aM (lM z s))]) (fun _=>True):=by
 have hs1:=hs.le (Nat.le_refl L)
 have hsl:=hsh.1
 have hD:=yO z
 have hDf:=tL hz hL1
 have hXf:=tG hs hDf hL1 (by rw [hD.1]; exact hl)
 have hX:gC (kD s (eN z)) s.length s.length:=tH
 refine iF.intro Tryz.func196 rfl Tryz.ntmps196 rfl (fun cx Z=>(ts (rn rfl (fG (Ht rfl)) fun B1=>(ro rfl (cQ cV) (eX (cK (fZ (m:=3) (dp 1 rfl (eJ A_80 Z_80 (Ht rfl) (i:=1) rfl rfl rfl) (dq 10 0 rfl (cZ Tryz.call117 sF ⟨(Ht rfl),trivial⟩) (dp 1 rfl (eJ A_80 Z_80 (Ht rfl) (i:=1) rfl rfl rfl) (fV mixed rfl (by kernel_rfl) (aJ (aJ (aJ (aV (ro rfl (cZ Tryz.call117 sF ⟨(Ht rfl),trivial⟩) (sD Tryz.call125 (Hq (n:=z.length) zo) ⟨(Ht rfl),(Ht rfl),trivial⟩ rfl (fun B14 _=>?_))))))))))))))))))
 refine ra rfl (eX (cK (ts (ro rfl (eJ A_80 Z_80 (Ht rfl) (i:=1) rfl rfl rfl) (ro rfl (cZ Tryz.call247 (Rw zo) ⟨(Ht rfl),trivial⟩) (ro rfl (dG U_54 (Ht rfl) aA) (ro rfl (cX (cJ 0)) (eX (eG ?_)))))))))
 refine eR (fun (i : Nat) => i ≤ z.length) (fun (i : Nat) => z.length - i) (fun (i : Nat) => [(1, dB B1 0), (3, Is (.slice (some ⟨B14, 0, none⟩) z.length z.length)), (16, fB z), (17, NT .i64 z.length), (18, NT .i64 i)]) (fun (i : Nat) => [Z, box B1 80 [fB z, eL s], lJ iW B14 54 32 5 (dF aM (lK (fun i => (tab z.length fun _ => Qi.zero).set i (gv z i)) (tab z.length fun _ => Qi.zero) z.length i))]) 0 (Nat.zero_le _)
  (zS rfl) (aU (fun _ _ _ h=>h) (aU (fun _ _ _ h=>h) (aU (cR (by rw [Qp,nD])) aY))) (fun i hi=>?_)
 refine ts (ro rfl (gX (Ht rfl) (Ht rfl)) (eX (cK (dQ (Ht rfl) (fun hd=>?_) (fun hd=>?_)))))
 ·simp only [decide_eq_true_eq] at hd
  have hzl:=bI z.length fun _=>Qi.zero
  refine pD 2 (i) rfl (mY hd) (fun v hv=>(cU (cK (eG (ts (rm rfl (ro rfl (dZ U_54 Z_32 (Ht rfl) (Ht rfl) rfl (dY (dU (d:=Qi.zero) hd))) (ro rfl (dJ A_32 Z_32 (Ht rfl)) (rn rfl (eW (Ts:=[Is (.bool false),Is (.slice none 0 0),Is (.bool false),Is (.slice none 0 0),Is (.slice none 0 0)]) O_32 rfl (fun V=>aW zd (aW zd (aW zd (aW zd (aW zd (aG))))))) fun B5=>(ra rfl ?_))))))))))
  refine gQ Z_32 (Ht rfl) (Ht rfl) rfl (i:=4) rfl (aK rfl) rfl rfl (eX (fZ (m:=7) (dp 3 rfl (cX (Ht rfl)) (dp 4 rfl (cX (Ht rfl)) (fA 23 0 24 1 rfl (fY U_78 Z_54 (Ht rfl) (Ht rfl) rfl zo (by rw [Nat.mul_one,Nat.zero_add])) ?_)))))
  refine dq 25 2 rfl (mE A_54 Z_54 (Ht rfl) (j:=2) rfl) (dp 4 rfl (cX (Ht rfl)) (dp 5 rfl (eJ A_32 Z_32 (Ht rfl) (i:=4) rfl rfl rfl) (dq 28 5 rfl (cZ Tryz.call123 Hl ⟨(Ht rfl),trivial⟩) (fV mixed rfl (by kernel_rfl) (zF (aJ (aJ (aJ (aV (ro rfl (iC U_54 Z_32 (Ht rfl) (Ht rfl) rfl (i:=3) rfl (by simp only [List.length_map,bI]; omega) rfl) ?_))))))))))
  refine rA Z_32 (Ht rfl) (Ht rfl) (El.ag rfl) (i:=3) rfl rfl (by simp only [List.length_map,bI]; omega) rfl ?_
  refine eX (cA (iL 2 3 rfl rfl (by decide) (by simp only [dF,List.length_map,iJ]; omega) ?_))
  refine cY (ro rfl (dV (Ht rfl) (cJ 1) z6) (rm rfl (eX (dE [0,1,2] rfl (by decide) (fU (i + 1) hd zo (zS rfl) (aU (fun _ _ _ h=>h) (aU (fun _ _ _ h=>h) (aU (cR (by rw [← pU (f:=(fun i=>(tab z.length fun _=>Qi.zero).set i (gv z i))),← jK,← kJ])) aY))))))))
 ·simp only [decide_eq_false_iff_not] at hd
  obtain rfl:i = z.length:=Nat.le_antisymm hi zo
  rw [pT]
  refine gV rfl (ts (ro rfl (eJ A_80 Z_80 (Ht rfl) (i:=1) rfl rfl rfl) (ro rfl (cZ Tryz.call122 (Hm hsh hl) ⟨(Ht rfl),trivial⟩) (rm rfl (Qt Tryz.call126 (Hh (p:=s) (c:=eN z) (n:=z.length) (m:=z.length) (L:=L) hsh hD hs hDf hL1 zo hl1 hl1 hl hl) (j:=2) (tt:=34) rfl rfl (kF (s:=5) (M:=eN z) hD.1.symm) Sv (fun _=>inferInstance) (fun _ B hB=>by simp only [List.mem_singleton] at hB; subst hB; exact Kv) ⟨(Ht rfl),(Ht rfl),trivial⟩ rfl (fun B35 _=>(ra rfl (eX (cK (cK (gJ (i:=3) (tt:=6) rfl rfl (kF (s:=5) (M:=kD s (eN z)) (hX.1.trans hsl).symm) ?_)))))))))))
  refine cY (rm rfl (ro rfl (dG U_78 (Ht rfl) aA) (ro rfl (cX (cJ 0)) (eX (eG (dE [0,2] rfl (by decide) ?_))))))
  refine eR (fun (i : Nat) => i ≤ z.length) (fun (i : Nat) => z.length - i) (fun (i : Nat) => [(3, Is (.slice (some ⟨B14, 0, none⟩) z.length z.length)), (36, eL (kD s (eN z))), (37, NT .i64 z.length), (38, NT .i64 i)]) (fun (i : Nat) => [Z, lJ iW B14 54 32 5 (dF aM (nC (fun i => tab z.length fun j => gm (eN z) i j - gm (kD s (eN z)) i j) (fun i => tab z.length fun j => gm (eN z) i j) z.length i))]) 0 (Nat.zero_le _)
   (aQ rfl (aQ rfl (aZ rfl (kX (hX.1.trans hsl)) (zS rfl)))) (aU (fun _ _ _ h=>h) (aU (cR (by rw [← nV]; exact congrArg _ (sR hD))) aY)) (fun i hi=>?_)
  refine ts (ro rfl (gX (Ht rfl) (Ht rfl)) (eX (cK (dQ (Ht rfl) (fun he=>?_) (fun he=>?_)))))
  ·simp only [decide_eq_true_eq] at he
   have hxr:=hX.row (i:=i) zo
   refine pD 1 (i) rfl (vM he) (fun v hv=>(cU (cK (eG (ts (rm rfl (ro rfl (dZ U_78 Z_54 (Ht rfl) (Ht rfl) rfl (dY (dU (d:=[]) (by rw [hX.1]; omega)))) ?_)))))))
   refine ro rfl (dJ A_54 Z_54 (Ht rfl)) (ra rfl (ra rfl (eX (ts (rm rfl (ro rfl (dG U_54 (Ht rfl) aA) (ro rfl (cX (cJ 0)) (eX (eG ?_)))))))))
   refine eR (fun (j : Nat) => j ≤ z.length) (fun (j : Nat) => z.length - j) (fun (j : Nat) => [(3, Is (.slice (some ⟨B14, 0, none⟩) z.length z.length)), (7, NT .i64 i), (8, fB ((kD s (eN z)).getD i [])), (36, eL (kD s (eN z))), (37, NT .i64 z.length), (38, NT .i64 i), (44, NT .i64 z.length), (45, NT .i64 j)]) (fun (j : Nat) => [Z, pQ iW B14 54 32 5 (dF aM (nC (fun i => tab z.length fun j => gm (eN z) i j - gm (kD s (eN z)) i j) (fun i => tab z.length fun j => gm (eN z) i j) z.length i)) i v, bA 32 5 v ((nC (fun j => gm (eN z) i j - gm (kD s (eN z)) i j) (fun j => gm (eN z) i j) z.length j).map aM)]) 0 (Nat.zero_le _)
    (aQ rfl (aQ rfl (aQ rfl (aQ rfl (aQ rfl (aQ rfl (aZ rfl (kX (hxr.trans hsl)) (zS rfl)))))))) (aU (fun _ _ _ h=>h) (aU (fun _ _ _ h=>h) (aU (cD (by rw [← nV])) aY))) (fun j hj=>?_)
   refine ts (ro rfl (gX (Ht rfl) (Ht rfl)) (eX (cK (dQ (Ht rfl) (fun hf=>?_) (fun hf=>?_)))))
   ·simp only [decide_eq_true_eq] at hf
    have hrl:=kG (fun j=>gm (eN z) i j - gm (kD s (eN z)) i j) (fun j=>gm (eN z) i j) z.length j
    haveI f1:aL (gm (eN z) i j) L:=hDf.get hL1 i j
    haveI f2:aL (gm (kD s (eN z)) i j) (200 * L + 300):=hXf.get zo i j
    refine cU (cK (eG (ts (rm rfl (ra rfl (eX (fZ (m:=18) (dp 3 rfl (cX (Ht rfl)) (dp 7 rfl (cX (Ht rfl)) (fA 48 0 49 1 rfl (fY U_78 Z_54 (Ht rfl) (Ht rfl) rfl zo (by rw [Nat.mul_one,Nat.zero_add])) ?_))))))))))
    refine dq 50 2 rfl (mE A_54 Z_54 (Ht rfl) (j:=1) rfl) (dp 9 rfl (cX (Ht rfl)) (dp 3 rfl (cX (Ht rfl)) (dp 7 rfl (cX (Ht rfl)) (fA 53 5 54 6 rfl (fY U_78 Z_54 (Ht rfl) (Ht rfl) rfl zo (by rw [Nat.mul_one,Nat.zero_add])) ?_))))
    refine dq 55 7 rfl (mE A_54 Z_54 (Ht rfl) (j:=1) rfl) (dp 9 rfl (cX (Ht rfl)) (fA 56 8 57 9 rfl (iC U_54 Z_32 (Ht rfl) (Ht rfl) rfl (i:=2) rfl (by simp only [List.length_map,hrl]; omega) rfl) ?_))
    refine dq 58 10 rfl (xF A_32 Z_32 (Ht rfl) (i:=2) rfl rfl (dY (uA hf))) (dq 59 11 rfl (cT eB (Ht rfl)) (dp 8 rfl (cX (Ht rfl)) (dp 9 rfl (cX (Ht rfl)) (fA 61 13 62 14 rfl (dZ U_54 Z_32 (Ht rfl) (Ht rfl) rfl (dY (dU (d:=Qi.zero) (by rw [hxr]; omega)))) ?_))))
    refine dq 63 15 rfl (dJ A_32 Z_32 (Ht rfl)) (fA 60 12 64 16 rfl (bT nB Tryz.call32 (He zo) (Ht rfl) ⟨(Ht rfl),trivial⟩) (fV mixed rfl (by kernel_rfl) (zF (zF (zF (zF (aJ (aJ (aV (ro rfl (iC U_54 Z_32 (Ht rfl) (Ht rfl) rfl (i:=2) rfl (by simp only [List.length_map,hrl]; omega) rfl) ?_))))))))))
    refine rA Z_32 (Ht rfl) (Ht rfl) (El.ag rfl) (i:=2) rfl rfl (by simp only [List.length_map,hrl]; omega) rfl ?_
    refine eX (cA (cY (ro rfl (dV (Ht rfl) (cJ 1) z6) (rm rfl (eX (fU (j + 1) hf zo (zS rfl) (aU (fun _ _ _ h=>h) (aU (fun _ _ _ h=>h) (aU (cD (by rw [kJ,← pS (f:=fun j=>gm (eN z) i j - gm (kD s (eN z)) i j)])) aY)))))))))
   ·simp only [decide_eq_false_iff_not] at hf
    obtain rfl:j = z.length:=Nat.le_antisymm hj zo
    refine gV rfl (cA (iL 1 2 rfl rfl (by decide) (by simp only [dF,List.length_map,kG]; omega) ?_))
    refine cY (ro rfl (dV (Ht rfl) (cJ 1) z6) (rm rfl (eX (dE [0,1] rfl (by decide) (fU (i + 1) he zo (zS rfl) (aU (fun _ _ _ h=>h) (aU (cR (by rw [jK,pR,← pS (f:=(fun i=>tab z.length fun j=>gm (eN z) i j - gm (kD s (eN z)) i j))])) aY)))))))
  ·simp only [decide_eq_false_iff_not] at he
   obtain rfl:i = z.length:=Nat.le_antisymm hi zo
   refine gV rfl (ts (rm rfl (ra rfl (eX ?_))))
   exact kA B14 trivial [0,1] ⟨⟨_,rfl,fun _ _ _ h=>h⟩,⟨_,rfl,(cR (by rw [pR]; rfl))⟩,trivial⟩ (by decide) (xL rfl (eU rfl))
theorem Uw {z:List Qi} {s:List (List Qi)} {t:Qi} {L:Nat} (hz:eO z L) (hs:bL s L) (ht:aL t L) (hL1:1 ≤ L) (hL:L ≤ 10000000) (hsh:gC s z.length z.length) (hl1:1 ≤ z.length) (hl:z.length ≤ 8):bE Tryz.prog 100 [mL z s,aM t] (gA [lA (oY (oW t) z) (oY (oW t) s) (oY (oW t) (Kr t (lM z s) z.length)),aC .i64 (oW t)]):=by
 haveI:=ht
 have hOs:=Js z s
 have hOf:=zN hz hs hL1 hl
 refine bE.intro Tryz.func100 rfl Tryz.ntmps100 rfl (fun cx=>(ts (rn rfl (fG (Ht rfl)) fun B2=>(rn rfl (fG (Ht rfl)) fun B3=>(rn rfl (eW (Ts:=[Is (.slice none 0 0),Is (.slice none 0 0),Is (.slice none 0 0)]) O_84 rfl (fun V=>aW zd (aW zd (aW zd (aG))))) fun B4=>(ro rfl (cQ (cJ 0)) (eX (cK (ts (ro rfl (eJ A_32 Z_32 (Ht rfl) (i:=1) rfl rfl rfl) (ro rfl (cZ Tryz.call79 (Ry zo) ⟨(Ht rfl),trivial⟩) (ro rfl (fR (Ht rfl)) ?_))))))))))))
 refine eX (dQ (Ht rfl) (fun hb=>?_) (fun hb=>?_))
 ·have he : oW t ≠ 0 := by simp only [Bool.not_eq_true'] at hb; rw [oW, hb]; decide
  have he1:oW t = 1:=by simp only [Bool.not_eq_true'] at hb; rw [oW,hb]; rfl
  refine ts (ro rfl (aF.imp (Lw ) Fg) (gQ Z_84 (Ht rfl) (Ht rfl) rfl (i:=2) rfl (aK rfl) rfl rfl (ro rfl (cQ (cJ 1)) (eX (cB rfl (fX (fK Tryz.isAgg84 Z_84 rfl (i:=2) rfl rfl) ?_) (fX (eU rfl) ?_))))))
  ·exact (On he)
  ·exact (aS he1.symm)
 ·have he : oW t = 0 := by simp only [Bool.not_eq_false'] at hb; rw [oW, hb]; rfl
  refine cU (ts (ro rfl (eJ A_80 Z_80 (Ht rfl) (i:=0) rfl rfl rfl) (sD Tryz.call196 (Hn hz hs hL1 hL hsh hl1 hl) ⟨(Ht rfl),trivial⟩ rfl (fun B15 _=>(ra rfl (eX (cK (ts (rm rfl (ro rfl (jB U_78 (Ht rfl)) (ro rfl (cX (cJ 0)) (eX (eG ?_)))))))))))))
  refine eR (fun (i : Nat) => i ≤ z.length) (fun (i : Nat) => z.length - i) (fun (i : Nat) => [(2, dB B2 0), (3, dB B3 0), (4, dB B4 0), (6, Is (.slice (some ⟨B15, 0, none⟩) z.length z.length)), (16, Is (.slice (some ⟨B15, 0, none⟩) z.length z.length)), (17, NT .i64 z.length), (18, NT .i64 i)]) (fun (i : Nat) => [box B2 80 [fB z, eL s], box B3 32 [aB (decide (t.a < 0)), aH t.a.natAbs, aB (decide (t.b < 0)), aH t.b.natAbs, aH (du t)], box B4 84 [Is (.slice none 0 0), Is (.slice none 0 0), Is (.slice none 0 0)], lJ iW B15 54 32 5 (dF aM (nC (fun i => tab z.length fun j => t * gm (lM z s) i j) (fun i => tab z.length fun j => gm (lM z s) i j) z.length i))]) 0 (Nat.zero_le _)
   (zS rfl) (aU (fun _ _ _ h=>h) (aU (fun _ _ _ h=>h) (aU (fun _ _ _ h=>h) (aU (cR (by rw [← nV]; exact congrArg _ (sR hOs))) aY)))) (fun i hi=>?_)
  refine ts (ro rfl (gX (Ht rfl) (Ht rfl)) (eX (cK (dQ (Ht rfl) (fun he2=>?_) (fun he2=>?_)))))
  ·simp only [decide_eq_true_eq] at he2
   refine pD 3 (i) rfl (vM he2) (fun v hv=>(cU (cK (eG (ts (ro rfl (fY U_78 Z_54 (Ht rfl) (Ht rfl) rfl zo (by rw [Nat.mul_one,Nat.zero_add])) ?_))))))
   refine ro rfl (mE A_54 Z_54 (Ht rfl) (j:=3) rfl) (ra rfl (eX (ts (rm rfl (ro rfl (pX U_54 (Ht rfl) (i:=4) rfl (show (((tab z.length fun j=>gm (lM z s) i j).map aM).length:Int) = ((z.length:Nat):Int) by rw [List.length_map,bI])) (ro rfl (cX (cJ 0)) (eX (eG ?_))))))))
   refine eR (fun (j : Nat) => j ≤ z.length) (fun (j : Nat) => z.length - j) (fun (j : Nat) => [(2, dB B2 0), (3, dB B3 0), (4, dB B4 0), (6, Is (.slice (some ⟨B15, 0, none⟩) z.length z.length)), (8, Is v), (16, Is (.slice (some ⟨B15, 0, none⟩) z.length z.length)), (17, NT .i64 z.length), (18, NT .i64 i), (23, NT .i64 z.length), (24, NT .i64 j)]) (fun (j : Nat) => [box B2 80 [fB z, eL s], box B3 32 [aB (decide (t.a < 0)), aH t.a.natAbs, aB (decide (t.b < 0)), aH t.b.natAbs, aH (du t)], box B4 84 [Is (.slice none 0 0), Is (.slice none 0 0), Is (.slice none 0 0)], pQ iW B15 54 32 5 (dF aM (nC (fun i => tab z.length fun j => t * gm (lM z s) i j) (fun i => tab z.length fun j => gm (lM z s) i j) z.length i)) i v, bA 32 5 v ((nC (fun j => t * gm (lM z s) i j) (fun j => gm (lM z s) i j) z.length j).map aM)]) 0 (Nat.zero_le _)
    (zS rfl) (aU (fun _ _ _ h=>h) (aU (fun _ _ _ h=>h) (aU (fun _ _ _ h=>h) (aU (fun _ _ _ h=>h) (aU (cD (by rw [← nV])) aY))))) (fun j hj=>?_)
   refine ts (ro rfl (gX (Ht rfl) (Ht rfl)) (eX (cK (dQ (Ht rfl) (fun hf=>?_) (fun hf=>?_)))))
   ·simp only [decide_eq_true_eq] at hf
    have hrl:=kG (fun j=>t * gm (lM z s) i j) (fun j=>gm (lM z s) i j) z.length j
    haveI f1:aL (gm (lM z s) i j) (201 * L + 301):=hOf.get zo i j
    refine cU (cK (eG (ts (rm rfl (ra rfl (eX (fZ (m:=10) (dp 8 rfl (cX (Ht rfl)) (dp 9 rfl (cX (Ht rfl)) (dp 3 rfl (eJ A_32 Z_32 (Ht rfl) (i:=1) rfl rfl rfl) (dq 29 2 rfl (cZ Tryz.call123 Hl ⟨(Ht rfl),trivial⟩) (dq 30 3 rfl (cT eB (Ht rfl)) (dp 8 rfl (cX (Ht rfl)) (dp 9 rfl (cX (Ht rfl)) (fA 32 5 33 6 rfl (iC U_54 Z_32 (Ht rfl) (Ht rfl) rfl (i:=4) rfl (by simp only [List.length_map,hrl]; omega) rfl) ?_)))))))))))))))
    refine dq 34 7 rfl (xF A_32 Z_32 (Ht rfl) (i:=4) rfl rfl (dY (uA hf))) (fA 31 4 35 8 rfl (bT fD K_29 (kC zo) (Ht rfl) ⟨(Ht rfl),trivial⟩) (fV mixed rfl (by kernel_rfl) (zF (zF (aJ (aJ (aV (ro rfl (iC U_54 Z_32 (Ht rfl) (Ht rfl) rfl (i:=4) rfl (by simp only [List.length_map,hrl]; omega) rfl) ?_))))))))
    refine rA Z_32 (Ht rfl) (Ht rfl) (El.ag rfl) (i:=4) rfl rfl (by simp only [List.length_map,hrl]; omega) rfl ?_
    refine eX (cA (cY (ro rfl (dV (Ht rfl) (cJ 1) z6) (rm rfl (eX (fU (j + 1) hf zo (zS rfl) (aU (fun _ _ _ h=>h) (aU (fun _ _ _ h=>h) (aU (fun _ _ _ h=>h) (aU (fun _ _ _ h=>h) (aU (cD (by rw [kJ,← pS (f:=fun j=>t * gm (lM z s) i j)])) aY)))))))))))
   ·simp only [decide_eq_false_iff_not] at hf
    obtain rfl:j = z.length:=Nat.le_antisymm hj zo
    refine gV rfl (cA (iL 3 4 rfl rfl (by decide) (by simp only [dF,List.length_map,kG]; omega) ?_))
    refine cY (ro rfl (dV (Ht rfl) (cJ 1) z6) (rm rfl (eX (dE [0,1,2,3] rfl (by decide) (fU (i + 1) he2 zo (zS rfl) (aU (fun _ _ _ h=>h) (aU (fun _ _ _ h=>h) (aU (fun _ _ _ h=>h) (aU (cR (by rw [jK,pR,← pS (f:=(fun i=>tab z.length fun j=>t * gm (lM z s) i j))])) aY)))))))))
  ·simp only [decide_eq_false_iff_not] at he2
   obtain rfl:i = z.length:=Nat.le_antisymm hi zo
   rw [pR]
   refine gV rfl (cK (gJ (i:=3) (tt:=6) rfl rfl (kF (s:=5) (M:=(Kr t (lM z s) z.length)) zZ.1.symm) (cY (ro rfl (eJ A_80 Z_80 (Ht rfl) (i:=0) rfl rfl rfl) (rm rfl (ro rfl (At (Ht rfl) (Ht rfl)) (gQ Z_84 (Ht rfl) (Ht rfl) rfl (i:=2) rfl (aK rfl) rfl rfl (ro rfl (cQ (cJ 0)) (eX (cB rfl (fX (fK Tryz.isAgg84 Z_84 rfl (i:=2) rfl rfl) ?_) (fX (eU rfl) ?_)))))))))))
   ·exact (Jt he)
   ·exact (aS he.symm)
end
section
open Go Go.RowKit
theorem Cp {n : Nat} {E : bC} {H : Hp} {d : Option Tmp} {t : TypeId} {pos : String} {af : Array Edge} {g : Option (Nat × Bool)}  :
  aF Tryz.prog n E H ⟨d,.build 23 #[],t,pos,af,g⟩ (dO [Is (.int .i64 0),Is (.int .i64 0),Is (.int .i64 0)]) :=
 fE (parts := []) fun a V w hs => by
  refine ⟨.agg #[(.int .i64 0),(.int .i64 0),(.int .i64 0)],?_,[(.int .i64 0),(.int .i64 0),(.int .i64 0)],rfl,aW (⟨rfl,trivial⟩) (aW (⟨rfl,trivial⟩) (aW (⟨rfl,trivial⟩) (aG)))⟩
  simp [Instr.build,Instr.fill,Sem.run_bind,Result.andThen,dM,O_23,U_23,Z_2]
theorem yD {n : Nat} {E : bC} {H : Hp} {d : Option Tmp} {t : TypeId} {pos : String} {af : Array Edge} {g : Option (Nat × Bool)} {x0 : Operand} {T0 : Ty} [s0 : bN T0 1 false] (h0 : aN E x0 T0) :
  aF Tryz.prog n E H ⟨d,.build 23 #[(0,x0)],t,pos,af,g⟩ (dO [T0,Is (.int .i64 0),Is (.int .i64 0)]) :=
 fE (parts := [(0, x0)]) fun a V w hs => by
  have p0:=h0 n V a hs
  generalize e0:a.eval x0 = v0 at p0
  have q0:=(s0.ok v0 V p0).2.2 rfl
  refine ⟨.agg #[v0,(.int .i64 0),(.int .i64 0)],?_,[v0,(.int .i64 0),(.int .i64 0)],rfl,aW (⟨p0,q0⟩) (aW (⟨rfl,trivial⟩) (aW (⟨rfl,trivial⟩) (aG)))⟩
  simp [e0,Instr.build,Instr.fill,Sem.run_bind,Result.andThen,dM,q0.cells,O_23,U_23,Z_2]
theorem Ap {n : Nat} {E : bC} {H : Hp} {d : Option Tmp} {t : TypeId} {pos : String} {af : Array Edge} {g : Option (Nat × Bool)} {x0 x2 : Operand} {T0 T2 : Ty} [s0 : bN T0 1 false] (h0 : aN E x0 T0) [s2 : bN T2 1 false] (h2 : aN E x2 T2) :
  aF Tryz.prog n E H ⟨d,.build 23 #[(0,x0),(2,x2)],t,pos,af,g⟩ (dO [T0,Is (.int .i64 0),T2]) :=
 fE (parts := [(0, x0), (2, x2)]) fun a V w hs => by
  have p0:=h0 n V a hs
  generalize e0:a.eval x0 = v0 at p0
  have q0:=(s0.ok v0 V p0).2.2 rfl
  have p2:=h2 n V a hs
  generalize e2:a.eval x2 = v2 at p2
  have q2:=(s2.ok v2 V p2).2.2 rfl
  refine ⟨.agg #[v0,(.int .i64 0),v2],?_,[v0,(.int .i64 0),v2],rfl,aW (⟨p0,q0⟩) (aW (⟨rfl,trivial⟩) (aW (⟨p2,q2⟩) (aG)))⟩
  simp [e0,e2,Instr.build,Instr.fill,Sem.run_bind,Result.andThen,dM,q0.cells,q2.cells,O_23,U_23,Z_2]
end
section
open Go Go.RowKit
theorem Cr  : bE Tryz.prog 22 [] (aB true):=by
 refine bE.intro Tryz.func22 rfl Tryz.ntmps22 rfl (fun cx=>(ts (ro rfl (cQ cV) (eX (ts (ro rfl (Ap cV cV) (rn rfl (eW (Ts:=[Is (.int .i64 0),Is (.int .i64 0),Is (.int .i64 0)]) O_23 rfl (fun V=>aW zd (aW zd (aW zd (aG))))) fun B1=>(gQ Z_23 (Ht rfl) (Ht rfl) rfl (i:=0) rfl (aK rfl) rfl rfl (eX (cK (Y.D_start (m:=18) [] (bY (Ei:=[]) rfl rfl bX rfl rfl (dX rfl (yD cV)) (bY (Ei:=[]) rfl rfl bX rfl rfl (dX rfl (yD cV)) ?_)))))))))))))
 refine bY (Ei:=[(12,_),(13,_)]) rfl rfl (bQ (bZ 0 rfl rfl) (bQ (bZ 1 rfl rfl) bX)) rfl rfl (dX rfl (dA (xs:=[.tmp 12,.tmp 13]) U_77 Z_23 O_23 (cW (Ht rfl) (cW (Ht rfl) cG)) rfl rfl rfl)) (bY (Ei:=[(14,_)]) rfl rfl (bQ (bZ 2 rfl rfl) bX) rfl rfl (dX rfl (cZ Tryz.call50 (vE (l:=[We,We]) (by decide)) ⟨(Ht rfl),trivial⟩)) (bY (Ei:=[]) rfl rfl bX rfl rfl (dX rfl (Cp )) (bY (Ei:=[(1,_)]) rfl rfl (bQ (bJ rfl rfl) bX) rfl rfl (dX rfl (eJ A_23 Z_23 (Ht rfl) (i:=0) rfl rfl rfl)) ?_)))
 refine bY (Ei:=[(16,_),(17,_)]) rfl rfl (bQ (bZ 4 rfl rfl) (bQ (bZ 5 rfl rfl) bX)) rfl rfl (dX rfl (dA (xs:=[.tmp 16,.tmp 17]) U_77 Z_23 O_23 (cW (Ht rfl) (cW (Ht rfl) cG)) rfl rfl rfl)) (bY (Ei:=[(1,_)]) rfl rfl (bQ (bJ rfl rfl) bX) rfl rfl (dX rfl (eJ A_23 Z_23 (Ht rfl) (i:=0) rfl rfl rfl)) (bY (Ei:=[]) rfl rfl bX rfl rfl (dX rfl (Cp )) (bY (Ei:=[(19,_),(20,_)]) rfl rfl (bQ (bZ 7 rfl rfl) (bQ (bZ 8 rfl rfl) bX)) rfl rfl (dX rfl (dA (xs:=[.tmp 19,.tmp 20]) U_77 Z_23 O_23 (cW (Ht rfl) (cW (Ht rfl) cG)) rfl rfl rfl)) ?_)))
 refine bY (Ei:=[(18,_),(21,_)]) rfl rfl (bQ (bZ 6 rfl rfl) (bQ (bZ 9 rfl rfl) bX)) rfl rfl (dX rfl (dA (xs:=[.tmp 18,.tmp 21]) U_181 Tryz.sizeOf77 Tryz.zeroValue77 (cW (Ht rfl) (cW (Ht rfl) cG)) rfl rfl rfl)) (bY (Ei:=[(22,_)]) rfl rfl (bQ (bZ 10 rfl rfl) bX) rfl rfl (dX rfl (cZ Tryz.call99 (Ev (m:=[[Ou,Dx],[Dx,Ou]]) (by decide) (by intro r hr; simp at hr; rcases hr with rfl | rfl <;> decide)) ⟨(Ht rfl),trivial⟩)) ?_)
 refine bY (Ei:=[(15,_),(23,_)]) rfl rfl (bQ (bZ 3 rfl rfl) (bQ (bZ 11 rfl rfl) bX)) rfl rfl (dX rfl (cZ Tryz.call98 (eQ (Hk (z:=qI) (s:=uO) (L:=2) Cj (by decide) (by decide) (by decide)) Rh) ⟨(Ht rfl),(Ht rfl),trivial⟩)) (bY (Ei:=[(24,_)]) rfl rfl (bQ (bZ 12 rfl rfl) bX) rfl rfl (dX rfl (cX (Ht rfl))) (bY (Ei:=[(11,_)]) rfl rfl (bQ (bZ 13 rfl rfl) bX) rfl rfl (dX rfl (dK (Ht rfl) rfl)) (bY (Ei:=[(11,_)]) rfl rfl (bQ (bZ 13 rfl rfl) bX) rfl rfl (dX rfl (dK (Ht rfl) rfl)) ?_)))
 refine Y.D_newp (Ei:=[]) (fun bb=>box bb 80 [fB qI,eL uO]) 17 rfl rfl rfl bX rfl rfl (by kernel_rfl) (eW (Ts:=[Is (.slice none 0 0),Is (.slice none 0 0)]) O_80 rfl (fun V=>aW zd (aW zd (aG)))) (Y.D_putN (Ei:=[(25,_)]) 16 rfl rfl rfl rfl rfl rfl (bQ (bZ 14 rfl rfl) bX) (fun bb=>Gh Z_80 (Ht rfl) (Ht rfl) rfl (i:=0) rfl (aK rfl) rfl rfl) (Y.D_done mixed rfl (by kernel_rfl) rfl (by simp [Y.okP]) rfl rfl (bU (bU (bU (bU (bU (bU (bU (bU (bU (bU (bU (bU (bU (bU (bU (bU (Y.F_newp (fun B2=>Y.F_putN (Y.F_nil ?_)))))))))))))))))))))
 refine ra rfl (eX (cK (Y.D_start (m:=8) [] (bY (Ei:=[(2,_)]) rfl rfl (bQ (bJ rfl rfl) bX) rfl rfl (dX rfl (eJ A_80 Z_80 (Ht rfl) (i:=1) rfl rfl rfl)) (bY (Ei:=[]) rfl rfl bX rfl rfl (dX rfl (cZ K_36 (kB (n:=290) (by decide) (by decide)) ⟨(cJ 290),trivial⟩)) (bY (Ei:=[(28,_),(29,_)]) rfl rfl (bQ (bZ 0 rfl rfl) (bQ (bZ 1 rfl rfl) bX)) rfl rfl (dX rfl (cZ Tryz.call100 (eQ (Uw (z:=qI) (s:=uO) (t:=Qi.ofInt 290) (L:=2) Cj Gt Gu (by decide) (by decide) Gv (by decide) (by decide)) Ri) ⟨(Ht rfl),(Ht rfl),trivial⟩)) ?_))))))
 refine bY (Ei:=[(30,_)]) rfl rfl (bQ (bZ 2 rfl rfl) bX) rfl rfl (dX rfl (cX (Ht rfl))) (bY (Ei:=[(27,_)]) rfl rfl (bQ (bZ 3 rfl rfl) bX) rfl rfl (dX rfl (dK (Ht rfl) rfl)) (bY (Ei:=[(27,_)]) rfl rfl (bQ (bZ 3 rfl rfl) bX) rfl rfl (dX rfl (dK (Ht rfl) rfl)) (Y.D_newp (Ei:=[]) (fun bb=>box bb 84 [fB qI,eL uO,eL vC]) 7 rfl rfl rfl bX rfl rfl (by kernel_rfl) (eW (Ts:=[Is (.slice none 0 0),Is (.slice none 0 0),Is (.slice none 0 0)]) O_84 rfl (fun V=>aW zd (aW zd (aW zd (aG))))) ?_)))
 refine Y.D_putN (Ei:=[(31,_)]) 6 rfl rfl rfl rfl rfl rfl (bQ (bZ 4 rfl rfl) bX) (fun bb=>Gh Z_84 (Ht rfl) (Ht rfl) rfl (i:=0) rfl (aK rfl) rfl rfl) (Y.D_done mixed rfl (by kernel_rfl) rfl (by simp [Y.okP]) rfl rfl (bU (bU (bU (bU (bU (bU (Y.F_newp (fun B4=>Y.F_putN (Y.F_nil ?_))))))))))
 refine ra rfl (eX (ts (ro rfl (eJ Tryz.isAgg84 Z_84 (Ht rfl) (i:=2) rfl rfl rfl) (ro rfl (cZ Tryz.call42 (eQ (Mf (z:=qI) (s:=uO) (c:=vC) (i:=((2:Nat):Int)) (j:=((2:Nat):Int)) Rd (by rw [Ci.1]; decide)) Ul) ⟨(Ht rfl),(cJ 2),(cJ 2),trivial⟩) ?_))))
 refine rm rfl (ro rfl (dK (Ht rfl) rfl) (ro rfl (dK (Ht rfl) rfl) (rn rfl (eW (Ts:=[Is (.bool false),Is (.slice none 0 0),Is (.bool false),Is (.slice none 0 0),Is (.slice none 0 0)]) O_32 rfl (fun V=>aW zd (aW zd (aW zd (aW zd (aW zd (aG))))))) fun B6=>(gQ Z_32 (Ht rfl) (Ht rfl) rfl (i:=3) rfl (aK rfl) rfl rfl (ra rfl (eX (cK (Y.D_start (m:=9) [] (bY (Ei:=[(4,_)]) rfl rfl (bQ (bJ rfl rfl) bX) rfl rfl (dX rfl (eJ Tryz.isAgg84 Z_84 (Ht rfl) (i:=2) rfl rfl rfl)) ?_)))))))))
 refine bY (Ei:=[]) rfl rfl bX rfl rfl (dX rfl (cZ K_36 (kB (n:=0) (by decide) (by decide)) ⟨(cJ 0),trivial⟩)) (bY (Ei:=[]) rfl rfl bX rfl rfl (dX rfl (cZ K_36 (kB (n:=290) (by decide) (by decide)) ⟨(cJ 290),trivial⟩)) (bY (Ei:=[(39,_),(40,_),(41,_)]) rfl rfl (bQ (bZ 0 rfl rfl) (bQ (bZ 1 rfl rfl) (bQ (bZ 2 rfl rfl) bX))) rfl rfl (dX rfl (cZ Tryz.call44 (eQ (Hc (z:=qI) (s:=uO) (c:=vC) (g:=Qi.ofInt 0) (t0:=Qi.ofInt 290) (L:=1000) (Cj.le (by decide)) (Gt.le (by decide)) Un (Um.le (by decide)) (Gu.le (by decide)) (by decide) (by decide) Gv Ci (by decide)) Rf) ⟨(Ht rfl),(Ht rfl),(Ht rfl),trivial⟩)) ?_))
 refine bY (Ei:=[(42,_)]) rfl rfl (bQ (bZ 3 rfl rfl) bX) rfl rfl (dX rfl (cX (Ht rfl))) (bY (Ei:=[(38,_)]) rfl rfl (bQ (bZ 4 rfl rfl) bX) rfl rfl (dX rfl (dK (Ht rfl) rfl)) (bY (Ei:=[(38,_)]) rfl rfl (bQ (bZ 4 rfl rfl) bX) rfl rfl (dX rfl (dK (Ht rfl) rfl)) (Y.D_newp (Ei:=[]) (fun bb=>box bb 32 [aB (decide ((Qi.ofInt 4).a < 0)),aH (Qi.ofInt 4).a.natAbs,aB (decide ((Qi.ofInt 4).b < 0)),aH (Qi.ofInt 4).b.natAbs,aH (du (Qi.ofInt 4))]) 8 rfl rfl rfl bX rfl rfl (by kernel_rfl) (eW (Ts:=[Is (.bool false),Is (.slice none 0 0),Is (.bool false),Is (.slice none 0 0),Is (.slice none 0 0)]) O_32 rfl (fun V=>aW zd (aW zd (aW zd (aW zd (aW zd (aG))))))) ?_)))
 refine Y.D_putN (Ei:=[(43,_)]) 7 rfl rfl rfl rfl rfl rfl (bQ (bZ 5 rfl rfl) bX) (fun bb=>Gh Z_32 (Ht rfl) (Ht rfl) rfl (i:=0) rfl (aK rfl) rfl rfl) (Y.D_done mixed rfl (by kernel_rfl) rfl (by simp [Y.okP]) rfl rfl (bU (bU (bU (bU (bU (bU (bU (Y.F_newp (fun B8=>Y.F_putN (Y.F_nil ?_)))))))))))
 refine ra rfl (eX (ts (rm rfl (ro rfl (lD (Ht rfl) cV) (rm rfl (fQ rfl rfl (eK rfl rfl (Ht rfl) (fun h=>cX (Ht rfl))) (fQ rfl rfl (eK rfl rfl (Ht rfl) (fun h=>lD (fJ rfl h) cV)) (ro rfl (eS (Ht rfl) (fun h=>(fJ rfl h))) (rm rfl (fQ rfl rfl (eK rfl rfl (Ht rfl) (fun h=>cX (Ht rfl))) (fQ rfl rfl (eK rfl rfl (Ht rfl) (fun h=>lD (fJ rfl h) cV)) (ro rfl (eS (Ht rfl) (fun h=>(fJ rfl h))) (rm rfl (fQ rfl rfl (eK rfl rfl (Ht rfl) (fun h=>cX (Ht rfl))) (fQ rfl rfl (eK rfl rfl (Ht rfl) (fun h=>lD (fJ rfl h) cV)) ?_)))))))))))))))
 refine ro rfl (eS (Ht rfl) (fun h=>(fJ rfl h))) (rm rfl (fQ rfl rfl (eK rfl rfl (Ht rfl) (fun h=>eJ A_32 Z_32 (Ht rfl) (i:=3) rfl rfl rfl)) (fQ rfl rfl (eK rfl rfl (Ht rfl) (fun h=>cZ Tryz.call92 (Hg (x:=Qi.ofInt 10875) (L:=2) (hx:=(@fitInt 10875).le (by decide)) (by decide)) ⟨(fJ rfl h),trivial⟩)) (fQ rfl rfl (eK rfl rfl (Ht rfl) (fun h=>Jm (fJ rfl h) (aN.cS (l:=[49,48,56,55,53]) rfl))) (ro rfl (eS (Ht rfl) (fun h=>(fJ rfl h))) (rm rfl (fQ rfl rfl (eK rfl rfl (Ht rfl) (fun h=>eJ A_32 Z_32 (Ht rfl) (i:=4) rfl rfl rfl)) ?_)))))))
 refine fQ rfl rfl (eK rfl rfl (Ht rfl) (fun h=>cZ Tryz.call92 (Hg (x:=Qi.ofInt 4) (L:=2) (hx:=(@fitInt 4).le (by decide)) (by decide)) ⟨(fJ rfl h),trivial⟩)) (fQ rfl rfl (eK rfl rfl (Ht rfl) (fun h=>Jm (fJ rfl h) (aN.cS (l:=[52]) rfl))) (ro rfl (eS (Ht rfl) (fun h=>(fJ rfl h))) (ra rfl (eX (fW rfl (fX (eU rfl) ?_))))))
 exact (hZ (by rw [Uo,Up]; rfl))
end
section
open Go Go.RowKit
theorem Qi.zero_div (y:Qi):Qi.zero / y = Qi.zero:=by rw [Qi.div_def,Qi.zero_mul']
theorem pos_re {x:Qi} (h:gL x = true):x.im = 0 ∧ x.re ≠ 0:=by
 simp only [gL,decide_eq_true_eq] at h
 exact ⟨Qi.b_zero.1 h.1,fun e=>by have:=Qi.a_zero.2 e; omega⟩
end
section
open Go Go.RowKit
namespace Qi
theorem xZ {x:Qi}:0 ≤ x.a ↔ 0 ≤ x.re:=by
 have hk:0 < x.den / x.re.den:=Nat.div_pos (Nat.le_of_dvd x.den_pos (Nat.dvd_lcm_left _ _)) x.re.den_pos
 rw [← Rat.num_nonneg]
 show 0 ≤ x.re.num * ((x.den / x.re.den:Nat):Int) ↔ _
 generalize x.den / x.re.den = k at hk
 constructor
 ·intro h
  exact Int.nonneg_of_mul_nonneg_left h zo
 ·intro h; exact Int.mul_nonneg h zo
theorem a_neg {x:Qi}:x.a < 0 ↔ x.re < 0:=by
 have:=@xZ x
 constructor
 ·intro h; rcases Rat.not_le.1 (fun k=>by have:=this.2 k; omega) with h; exact h
 ·intro h; exact Int.not_le.1 fun k=>Rat.not_le.2 h (this.1 k)
theorem a_pos {x:Qi}:0 < x.a ↔ 0 < x.re:=by
 have h1:=@xZ x; have h2:=@a_zero x
 constructor
 ·intro h
  have h3:0 ≤ x.re:=h1.1 zo
  have h4:x.re ≠ 0:=fun e=>by have:=h2.2 e; omega
  exact Rat.lt_of_le_of_ne h3 (Ne.symm h4)
 ·intro h
  have h3:0 ≤ x.a:=h1.2 (by grind)
  have h4:x.a ≠ 0:=fun e=>by have:=h2.1 e; grind
  omega
end Qi
theorem Hx {m n:Int} (h1:m < 0 ↔ n < 0) (h2:0 < m ↔ 0 < n):eP m 0 = eP n 0:=by
 unfold eP
 by_cases a:m < 0
 ·rw [if_pos a,if_pos (h1.1 a)]
 ·rw [if_neg a, if_neg (fun k => a (h1.2 k))]
  by_cases b:0 < m
  ·rw [if_pos b,if_pos (h2.1 b)]
  ·rw [if_neg b,if_neg (fun k=>b (h2.2 k))]
theorem Hy (m n:Int):eP m n = eP (m - n) 0:=by
 unfold eP
 by_cases a:m < n
 ·rw [if_pos a,if_pos zo]
 ·rw [if_neg a, if_neg (by omega : ¬ m - n < 0)]
  by_cases b:n < m
  ·rw [if_pos b,if_pos zo]
  ·rw [if_neg b,if_neg zo]
def oO (x y:Qi):Int:=eP (x - y).a 0
theorem Cy {x y:Qi}:oO x y < 0 ↔ x.re < y.re:=by
 rw [oO,Hw,Qi.a_neg]; show x.re - y.re < 0 ↔ _; constructor <;> intro h <;> grind
theorem Mp {x y:Qi}:0 < oO x y ↔ y.re < x.re:=by
 rw [oO,yL,Qi.a_pos]; show 0 < x.re - y.re ↔ _; constructor <;> intro h <;> grind
theorem Mo {x y:Qi}:0 ≤ oO x y ↔ y.re ≤ x.re:=by
 have:=@Cy x y
 constructor
 ·intro h; exact Rat.not_lt.1 fun k=>by have:=this.2 k; omega
 ·intro h; exact Int.not_lt.1 fun k=>Rat.not_lt.2 h (this.1 k)
theorem Mq {x y:Qi}:oO x y ≤ 0 ↔ x.re ≤ y.re:=by
 have:=@Mp x y
 constructor
 ·intro h; exact Rat.not_lt.1 fun k=>by have:=this.2 k; omega
 ·intro h; exact Int.not_lt.1 fun k=>Rat.not_lt.2 h (this.1 k)
theorem Ex {x y:Qi} (hx:x.b = 0) (hy:y.b = 0):lB x y = oO x y:=by
 have e2:eP (x.b * y.den) (y.b * x.den) = 0:=by rw [hx,hy]; simp [eP]
 have h0 : x - y = Qi.mk' (x.a * y.den + -y.a * x.den) (x.b * y.den + -y.b * x.den) (x.den * y.den) := by
  obtain ⟨n1,n2,n3⟩:=Qi.neg_a y
  rw [Qi.sub_def,← Qi.mk_add,n1,n2,n3]
 obtain ⟨k,hk,_,h2,_⟩:=Qi.mk_scale (x.a * y.den + -y.a * x.den) (x.b * y.den + -y.b * x.den) (Nat.mul_pos x.den_pos y.den_pos)
 rw [← h0] at h2
 have e1 : eP (x.a * y.den) (y.a * x.den) = oO x y := by
  rw [Hy,oO]
  have e:x.a * y.den - y.a * x.den = (x - y).a * k:=by rw [← h2,Int.neg_mul]; omega
  rw [e]
  refine Hx ?_ ?_
  ·constructor
   ·intro h; exact Int.not_le.1 fun g=>by have:=Int.mul_nonneg g (by omega:(0:Int) ≤ k); omega
   ·intro h; exact Int.mul_neg_of_neg_of_pos h zo
  ·constructor
   ·intro h; exact Int.not_le.1 fun g=>by have:=Int.mul_nonpos_of_nonpos_of_nonneg g (by omega:(0:Int) ≤ k); omega
   ·intro h; exact Int.mul_pos h zo
 unfold lB
 rw [e1,e2]
 by_cases h:oO x y ≠ 0
 ·rw [if_pos h]
 ·rw [if_neg h]; exact (Decidable.not_not.1 h).symm
abbrev eF (l:List (Qi × Qi)) (i:Nat):Qi:=(l.getD i (Qi.zero,Qi.zero)).1
abbrev eV (l:List (Qi × Qi)) (i:Nat):Qi:=(l.getD i (Qi.zero,Qi.zero)).2
structure Pv (l:List (Qi × Qi)) (f:Qi):Prop where
 real:∀ i,i < l.length → (eF l i).b = 0 ∧ (eV l i).b = 0
 up:∀ i,0 < i → i < l.length → (eF l (i - 1)).re < (eF l i).re
 fr:f.b = 0
theorem Jy {x:Qi} (h:gL x = true):x.b = 0:=by simp only [gL,decide_eq_true_eq] at h; exact h.1
theorem Pv.mono {l : List (Qi × Qi)} {f : Qi} (h : Pv l f) {i : Nat} : ∀ {j : Nat}, i < j → j < l.length → (eF l i).re < (eF l j).re
 | 0,h1,_=>by omega
 | j + 1, h1, h2 => by
  have h3:=h.up (j + 1) zo h2
  rw [Nat.add_sub_cancel] at h3
  by_cases e:i = j
  ·rw [e]; exact h3
  ·have := h.mono (i := i) (j := j) zo zo
   grind
theorem Qi.sub_ne {x y : Qi} (h : x.re ≠ y.re) : x - y ≠ Qi.zero := fun e => h (by
 have:(x - y).re = 0:=by rw [e]; rfl
 have h2:x.re - y.re = 0:=this
 grind)
def Ue (l:List (Qi × Qi)) (L:Nat):Prop:=∀ e,e ∈ l → aL e.1 L ∧ aL e.2 L
theorem Ue.get {l:List (Qi × Qi)} {L:Nat} (h:Ue l L) (hL:1 ≤ L) (i:Nat):aL (eF l i) L ∧ aL (eV l i) L:=by
 by_cases hi:i < l.length
 ·have e : l.getD i (Qi.zero, Qi.zero) = l[i] := by simp [List.getD, hi]
  show aL (l.getD i _).1 L ∧ aL (l.getD i _).2 L
  rw [e]; exact h _ (List.getElem_mem hi)
 ·have e : l.getD i (Qi.zero, Qi.zero) = (Qi.zero, Qi.zero) := by simp [List.getD, List.getElem?_eq_none (Nat.le_of_not_lt hi)]
  show aL (l.getD i _).1 L ∧ aL (l.getD i _).2 L
  rw [e]; exact ⟨aL.zero hL,aL.zero hL⟩
end
section
open Go Go.RowKit
theorem wO {x:Qi} {L:Nat} [hx:aL x L] (h:L ≤ 8796093022208):bE Tryz.prog 94 [aM x] (aB (gL x)):=by
 refine bE.intro Tryz.func94 rfl Tryz.ntmps94 rfl (fun cx=>(ts (rn rfl (fG (Ht rfl)) fun B1=>(ro rfl (cQ cV) (eX (cK (fZ (m:=5) (dp 1 rfl (eJ A_32 Z_32 (Ht rfl) (i:=0) rfl rfl rfl) (dq 3 0 rfl (cZ K_35 oN ⟨(Ht rfl),trivial⟩) (dq 4 1 rfl (cX (Ht rfl)) (C.D_step (Ei:=[(1,_),(5,_)]) rfl rfl (bV (bK rfl rfl) (bV (bG 2 rfl rfl) bW)) (eK rfl rfl (Ht rfl) (fun h=>eJ A_32 Z_32 (Ht rfl) (i:=0) rfl rfl rfl)) (C.D_step (Ei:=[(5,_)]) rfl rfl (bV (bG 2 rfl rfl) bW) (eK rfl rfl (Ht rfl) (fun h=>cZ K_36 (kB (n:=0) (by decide) (by decide)) ⟨(cJ 0),trivial⟩)) ?_))))))))))))
 refine fV mixed rfl (by kernel_rfl) (zF (aJ (aV (fQ rfl rfl (eK rfl rfl (Ht rfl) (fun h=>cZ K_30 (oF (x:=x) (y:=Qi.ofInt 0) (L:=L) (M:=1) (hy:=(aL.zero (Nat.le_refl 1):aL (Qi.ofInt 0) 1)) zo) ⟨(fJ rfl h),(fJ rfl h),trivial⟩)) (fQ rfl rfl (eK rfl rfl (Ht rfl) (fun h=>mD (fJ rfl h) cV)) (ro rfl (eS (Ht rfl) (fun h=>(fJ rfl h))) (ra rfl (eX (fW rfl (fX (eU rfl) ?_))))))))))
 exact (hZ (Bn x))
end
section
open Go Go.RowKit
@[irreducible] def Xi (a:Nat):Nat:=a % 9223372036854775808
section
variable {P:Program} {R:dP} {cx:Cx} {n:Nat} {k:List It} {E:bC} {H:Hp} {ops:Array Oper} {o:Oper} {rest:List Oper}
section
variable {d:Option Tmp} {t tx ty:TypeId} {pos:String} {af:Array Edge} {g:Option (Nat × Bool)}
theorem Oe {x y : Operand} {kd : IntKind} {a b : Int} {tys : Array TypeId} (hx : aN E x (aC kd a)) (hy : aN E y (aC kd b)) : aF P n E H ⟨d, .call ⟨.builtin .max, #[x, y], tys⟩, t, pos, af, g⟩ (aC kd (max a b)) :=
 cH fun u V w hs => by
  have ex:u.eval x = .int kd a:=hx n V u hs
  have ey:u.eval y = .int kd b:=hy n V u hs
  refine ⟨.int kd (if b > a then b else a),?_,?_⟩
  ·simp [execOp,resolve,ex,ey,invoke,builtin,Builtin.max_,Builtin.max2,Sem.run_bind,Result.andThen]
  ·show Value.int kd _ = Value.int kd _
   congr 1; split <;> omega
end
end
end
section
namespace Fl
open Ieee
@[irreducible] def Xn:Nat:=925
def mg (f:Format) (r:Nat):Nat:=if r < f.binade then r else f.binade + r % f.binade
def up (f:Format) (r:Nat):Nat:=r / f.binade - 1
def nn (f:Format) (r:Nat):Nat:=mg f r * 2 ^ up f r
def rg (f:Format) (x:Nat):Nat:=x % f.signWeight
def ng (f:Format) (x:Nat):Bool:=x / f.signWeight % 2 == 1
def fin (f:Format) (x:Nat):Bool:=decide (rg f x < f.infRung)
def av (f:Format) (x:Nat):Int:=if ng f x then -(nn f (rg f x):Int) else nn f (rg f x)
theorem bs:single.binade ≤ single.infRung:=by decide
theorem Bb (a b:Int):(compare a b == .lt) = decide (a < b):=by
 simp only [compare,compareOfLessAndEq]
 by_cases k:a < b
 ·rw [if_pos k]; simp [k]
 ·rw [if_neg k]
  by_cases k2:a = b
  ·rw [if_pos k2]; simp [k]
  ·rw [if_neg k2]; simp [k]
end Fl
end
section
namespace Fl
open Ieee
@[irreducible] def Xo:Nat:=1074
def q32 (p:Nat):Qi:=Qi.mk' (av single p) 0 (2 ^ 149)
theorem Tj (p:Nat):(q32 p).im = 0:=by unfold q32; rw [Qi.mk_im]; push_cast; grind
theorem Bo (p:Nat):(q32 p).re = (av single p:Rat) / ((2 ^ 149:Nat):Rat):=rfl
def pw (p:Nat):Bool:=fin single p && decide (0 < av single p)
theorem Ot {p:Nat}:0 < (q32 p).re ↔ 0 < av single p:=by
 rw [Bo]
 have h : (0 : Rat) < ((2 ^ 149 : Nat) : Rat) := by
  have:((0:Nat):Rat) < ((2 ^ 149:Nat):Rat):=Rat.natCast_lt_natCast.2 (Nat.two_pow_pos _)
  exact this
 rw [Rat.lt_div_iff h,Rat.zero_mul]
 exact ⟨fun k=>Rat.intCast_lt_intCast.1 k,fun k=>Rat.intCast_lt_intCast.2 k⟩
theorem Kh {p q:Nat}:(q32 p).re ≤ (q32 q).re ↔ av single p ≤ av single q:=by
 rw [Bo,Bo]
 have h : (0 : Rat) < ((2 ^ 149 : Nat) : Rat) := by
  have:((0:Nat):Rat) < ((2 ^ 149:Nat):Rat):=Rat.natCast_lt_natCast.2 (Nat.two_pow_pos _)
  exact this
 generalize ((2 ^ 149:Nat):Rat) = D at *
 constructor
 ·intro k
  have e:∀ z:Int,(z:Rat) = (z:Rat) / D * D:=fun z=>by grind
  have:=Rat.mul_le_mul_of_nonneg_right k (Rat.le_of_lt h)
  rw [← e,← e] at this
  exact Rat.intCast_le_intCast.1 this
 ·intro k
  rw [Rat.div_def,Rat.div_def]
  exact Rat.mul_le_mul_of_nonneg_right (Rat.intCast_le_intCast.2 k) (Rat.le_of_lt (Rat.inv_pos.2 h))
end Fl
end
section
namespace Fl
theorem Ki {x y:Qi} (hx:x.im = 0) (hy:y.im = 0):(x / y).re = x.re / y.re ∧ (x / y).im = 0:=by
 have hn:y.nrm = y.re * y.re:=by unfold Qi.nrm; rw [hy]; grind
 have hi:Qi.inv y = ⟨y.re / y.nrm,-y.im / y.nrm⟩:=rfl
 constructor
 ·rw [Qi.div_def, Qi.mul_re, hi, hn, hx, hy]
  by_cases h:y.re = 0
  ·rw [h]; show x.re * (0 / (0 * 0)) - 0 * _ = _; grind
  ·show x.re * (y.re / (y.re * y.re)) - 0 * _ = _; grind
 ·rw [Qi.div_def,Qi.mul_im,hi,hx,hy]; show x.re * (-0 / _) + 0 * _ = _; grind
structure Re (x:Qi):Prop where
 im:x.im = 0
theorem Re.sub {x y:Qi} (h:Re x) (k:Re y):Re (x - y):=⟨by rw [Qi.sub_im,h.im,k.im]; grind⟩
theorem Re.add {x y:Qi} (h:Re x) (k:Re y):Re (x + y):=⟨by rw [Qi.add_im,h.im,k.im]; grind⟩
theorem Re.mul {x y:Qi} (h:Re x) (k:Re y):Re (x * y):=⟨by rw [Qi.mul_im,h.im,k.im]; grind⟩
theorem Re.div {x y:Qi} (h:Re x) (k:Re y):Re (x / y):=⟨(Ki h.im k.im).2⟩
theorem Re.one:Re (Qi.ofInt 1):=⟨rfl⟩
theorem Re.q32 (p:Nat):Re (q32 p):=⟨Tj p⟩
theorem Re.of {x:Qi} (h:x.b = 0):Re x:=⟨Qi.b_zero.1 h⟩
theorem Re.b {x:Qi} (h:Re x):x.b = 0:=Qi.b_zero.2 h.im
theorem Re.rdiv {x y:Qi} (h:Re x) (k:Re y):(x / y).re = x.re / y.re:=(Ki h.im k.im).1
theorem Re.rmul {x y:Qi} (h:Re x):(x * y).re = x.re * y.re:=by rw [Qi.mul_re,h.im]; grind
theorem Re.ext {x y:Qi} (h:Re x) (k:Re y) (e:x.re = y.re):x = y:=Qi.ext' e (by rw [h.im,k.im])
def tP (hot cold a b:Qi):Qi:=(hot - a / b * cold) / (a / b - Qi.ofInt 1)
def tR (hot cold a b:Qi):Qi:=(hot * b - cold * a) / (a - b)
theorem Vw {hot cold a b:Qi} (h:Re hot) (c:Re cold) (x:Re a) (y:Re b):Re (tP hot cold a b):=(h.sub ((x.div y).mul c)).div ((x.div y).sub Re.one)
theorem Vv {hot cold a b:Qi} (h:Re hot) (c:Re cold) (x:Re a) (y:Re b) (h0:b.re ≠ 0) (h1:a.re ≠ b.re):tP hot cold a b = tR hot cold a b:=by
 refine Re.ext (Vw h c x y) (((h.mul y).sub (c.mul x)).div (x.sub y)) ?_
 unfold tP tR
 rw [(h.sub ((x.div y).mul c)).rdiv ((x.div y).sub Re.one),((h.mul y).sub (c.mul x)).rdiv (x.sub y),Qi.sub_re,Qi.sub_re,Qi.sub_re,Qi.sub_re,(x.div y).rmul,x.rdiv y,h.rmul,c.rmul]
 show (hot.re - a.re / b.re * cold.re) / (a.re / b.re - ((1:Int):Rat)) = (hot.re * b.re - cold.re * a.re) / (a.re - b.re)
 generalize hot.re = H
 generalize cold.re = K
 generalize a.re = p at *
 generalize b.re = q at *
 have e:p = p / q * q:=by grind
 generalize p / q = y at *
 subst e
 have hy:y - 1 ≠ 0:=by grind
 have e1:y * q - q = (y - 1) * q:=by grind
 have e2:H * q - K * (y * q) = (H - y * K) * q:=by grind
 rw [e1,e2]
 show (H - y * K) / (y - 1) = _
 grind
theorem pos_re {x:Qi} (h:gL x = true):Re x:=Re.of (Jy h)
theorem Kg {p:Nat} (h:pw p = true):0 < (q32 p).re:=by
 unfold pw at h; simp only [Bool.and_eq_true,decide_eq_true_eq] at h; exact Ot.2 h.2
def Kj (hot cold:Qi) (p q:Nat):Int:=if !uM hot || !uM cold || !pw p || !pw q then 1 else if decide (oO hot cold ≤ 0) || decide (av Ieee.single p ≤ av Ieee.single q) then 7 else if (tR hot cold (q32 p) (q32 q)).re < 0 then 5 else 0
def Ox (hot cold:Qi) (p q:Nat):Qi × Int:=if Kj hot cold p q = 0 then (tR hot cold (q32 p) (q32 q),0) else (Qi.zero,Kj hot cold p q)
structure vB (hot cold:Qi) (p q:Nat):Prop where
 h:Re hot
 c:Re cold
 pp:pw p = true
 pq:pw q = true
 ord:¬ av Ieee.single p ≤ av Ieee.single q
theorem vB.eq {hot cold : Qi} {p q : Nat} (h : vB hot cold p q) : tP hot cold (q32 p) (q32 q) = tR hot cold (q32 p) (q32 q) :=
 Vv h.h h.c (Re.q32 p) (Re.q32 q) (fun e=>by have:=Kg h.pq; rw [e] at this; exact Rat.lt_irrefl this) (fun e=>h.ord (Kh.1 (by rw [e]; exact Rat.le_refl)))
theorem vB.ne {hot cold:Qi} {p q:Nat} (h:vB hot cold p q):q32 q ≠ Qi.zero ∧ q32 p - q32 q ≠ Qi.zero ∧ q32 p / q32 q - Qi.ofInt 1 ≠ Qi.zero:=by
 have h0:(q32 q).re ≠ 0:=fun e=>by have:=Kg h.pq; rw [e] at this; exact Rat.lt_irrefl this
 have h1:(q32 p).re ≠ (q32 q).re:=fun e=>h.ord (Kh.1 (by rw [e]; exact Rat.le_refl))
 refine ⟨fun e=>h0 (by rw [e]; rfl),Qi.sub_ne h1,Qi.sub_ne ?_⟩
 rw [(Re.q32 p).rdiv (Re.q32 q)]
 show _ ≠ ((1:Int):Rat)
 intro e
 apply h1
 have:(q32 p).re / (q32 q).re = 1:=e
 grind
theorem vB.real {hot cold:Qi} {p q:Nat} (h:vB hot cold p q):Re (tR hot cold (q32 p) (q32 q)):=((h.h.mul (Re.q32 q)).sub (h.c.mul (Re.q32 p))).div ((Re.q32 p).sub (Re.q32 q))
theorem posQ_pos {x:Qi} (h:gL x = true):0 < x.re:=by
 simp only [gL,decide_eq_true_eq] at h; exact Qi.a_pos.1 h.2
end Fl
end
section
open Go Go.RowKit
abbrev hJ (M:List (List Qi)) (i:Nat):List Qi:=M.getD i []
def Ge (M : List (List Qi)) (c n : Nat) : Nat → Nat
 | 0=>n
 | k + 1=>if gm M (n - (k + 1)) c = Qi.zero then Ge M c n k else n - (k + 1)
def pv (M:List (List Qi)) (c n:Nat):Nat:=Ge M c n (n - c)
theorem zV {M : List (List Qi)} {c n : Nat} : ∀ {k : Nat}, k ≤ n → (∀ r, n - k ≤ r → r < Ge M c n k → gm M r c = Qi.zero) ∧ n - k ≤ Ge M c n k ∧ Ge M c n k ≤ n ∧ (Ge M c n k < n → gm M (Ge M c n k) c ≠ Qi.zero)
 | 0,_=>⟨fun r h1 h2=>by simp [Ge] at h2; omega,by simp [Ge],by simp [Ge],fun h=>by simp [Ge] at h⟩
 | k + 1, hk => by
  obtain ⟨i1,i2,i3,i4⟩:=zV (M:=M) (c:=c) (n:=n) (k:=k) zo
  unfold Ge
  by_cases e:gm M (n - (k + 1)) c = Qi.zero
  ·rw [if_pos e]
   refine ⟨fun r h1 h2=>?_,by omega,i3,i4⟩
   by_cases e2:r = n - (k + 1)
   ·rw [e2]; exact e
   ·exact i1 r zo h2
  ·rw [if_neg e]
   exact ⟨fun r h1 h2=>by omega,Nat.le_refl _,by omega,fun _=>e⟩
theorem qC {M:List (List Qi)} {c n:Nat} (hc:c ≤ n):(∀ r,c ≤ r → r < pv M c n → gm M r c = Qi.zero) ∧ c ≤ pv M c n ∧ pv M c n ≤ n ∧ (pv M c n < n → gm M (pv M c n) c ≠ Qi.zero):=by
 have h:=zV (M:=M) (c:=c) (n:=n) (k:=n - c) zo
 rw [show n - (n - c) = c by omega] at h
 exact h
def zY (rr rc:List Qi) (c k:Nat):List Qi:=tab rr.length fun j=>if c < j ∧ j < k then gv rr j - gv rr c / gv rc c * gv rc j else gv rr j
def redM (M:List (List Qi)) (c r:Nat):List (List Qi):=tab M.length fun i=>if c < i ∧ i < r then zY (hJ M i) (hJ M c) c (hJ M i).length else hJ M i
def gF (M : List (List Qi)) : Nat → List (List Qi) × Nat × Int
 | 0=>(M,0,-1)
 | c + 1 =>
  let s:=gF M c
  if 0 ≤ s.2.2 then s else
  if pv s.1 c M.length = M.length then (s.1,s.2.1,(c:Int)) else
  (redM (if pv s.1 c M.length = c then s.1 else swp [] s.1 (pv s.1 c M.length) c) c M.length,s.2.1 + (if pv s.1 c M.length = c then 0 else 1),-1)
theorem Ko (M:List (List Qi)) (c r:Nat):(redM M c r).length = M.length:=bI _ _
theorem zX {M:List (List Qi)} {n m c r:Nat} (h:gC M n m):gC (redM M c r) n m:=by
 refine ⟨(Ko _ _ _).trans h.1,fun x hx=>?_⟩
 obtain ⟨i,hi,rfl⟩:=gK.1 hx
 have hr:=h.row (i:=i) (by rw [← h.1]; exact hi)
 show (if c < i ∧ i < r then zY (hJ M i) (hJ M c) c (hJ M i).length else hJ M i).length = m
 split
 ·rw [zY,bI]; exact hr
 ·exact hr
theorem xR {M:List (List Qi)} {n m p c:Nat} (h:gC M n m) (hp:p < n) (hc:c < n):gC (swp [] M p c) n m:=by
 refine ⟨(xQ _ _ _ _).trans h.1,fun x hx=>?_⟩
 unfold swp at hx
 rcases List.mem_or_eq_of_mem_set hx with h1 | h1
 ·rcases List.mem_or_eq_of_mem_set h1 with h2 | h2
  ·exact h.2 x h2
  ·rw [h2]; exact h.row hc
 ·rw [h1]; exact h.row hp
theorem tQ {M : List (List Qi)} {n m : Nat} (h : gC M n m) : ∀ {c : Nat}, c ≤ n → gC (gF M c).1 n m
 | 0,_=>h
 | c + 1, hc => by
  have ih:=tQ h (c:=c) zo
  obtain ⟨_,_,i3,_⟩:=qC (M:=(gF M c).1) (c:=c) (n:=M.length) (by rw [h.1]; omega)
  simp only [gF]
  split
  ·exact ih
  ·split
   ·exact ih
   ·rename_i e
    apply zX
    split
    ·exact ih
    ·exact xR ih (by rw [← h.1]; omega) zo
def grow (L : Nat) : Nat → Nat
 | 0=>L
 | c + 1=>6 * grow L c + 4
theorem nT (L : Nat) : ∀ {c d : Nat}, c ≤ d → grow L c ≤ grow L d
 | c,0,h=>by rw [show c = 0 by omega]; exact Nat.le_refl _
 | c, d + 1, h => by
  by_cases e:c = d + 1
  ·rw [e]; exact Nat.le_refl _
  ·have := nT L (c := c) (d := d) zo
   simp only [grow]; omega
theorem sM (L c:Nat):L ≤ grow L c:=nT L (Nat.zero_le c)
theorem Dd {rr rc:List Qi} {L c j:Nat} (h1:eO rr L) (h2:eO rc L) (hL:1 ≤ L) (hp:gv rc c ≠ Qi.zero):aL (gv rr j - gv rr c / gv rc c * gv rc j) (6 * L + 4):=by
 haveI f1:=h1.get hL j; haveI f2:=h1.get hL c; haveI f3:=h2.get hL c; haveI f4:=h2.get hL j
 haveI g:aL (gv rr c / gv rc c) (L + 3 * L + 2):=⟨f2.fit.div f3.fit hp⟩
 have:aL (gv rr j - gv rr c / gv rc c * gv rc j) (L + (L + 3 * L + 2 + L + 1) + 1):=inferInstance
 exact this.le zo
theorem Kp {rr rc : List Qi} {L c k : Nat} (h1 : eO rr L) (h2 : eO rc L) (hL : 1 ≤ L) (hp : gv rc c ≠ Qi.zero) : eO (zY rr rc c k) (6 * L + 4) := eO.tab fun j _ => by
 split
 ·exact Dd h1 h2 hL hp
 ·exact (h1.get hL j).le zo
theorem zW {M : List (List Qi)} {L c r : Nat} (h : bL M L) (hL : 1 ≤ L) (hp : gm M c c ≠ Qi.zero) : bL (redM M c r) (6 * L + 4) := fun x hx => by
 obtain ⟨i,hi,rfl⟩:=gK.1 hx
 show eO (if c < i ∧ i < r then zY (hJ M i) (hJ M c) c (hJ M i).length else hJ M i) _
 split
 ·exact Kp (h.row i) (h.row c) hL hp
 ·exact (h.row i).le zo
theorem Ee {M : List (List Qi)} {L p c : Nat} (h : bL M L) : bL (swp [] M p c) L := fun x hx => by
 unfold swp at hx
 rcases List.mem_or_eq_of_mem_set hx with h1 | h1
 ·rcases List.mem_or_eq_of_mem_set h1 with h2 | h2
  ·exact h x h2
  ·rw [h2]; exact h.row c
 ·rw [h1]; exact h.row p
theorem xP {M:List (List Qi)} {p c:Nat} (hc:c < M.length):hJ (swp [] M p c) c = hJ M p:=by
 simp [hJ,swp,List.getD,hc]
theorem tO {M : List (List Qi)} {n m L : Nat} (hs : gC M n m) (h : bL M L) (hL : 1 ≤ L) : ∀ {c : Nat}, c ≤ n → bL (gF M c).1 (grow L c)
 | 0,_=>h
 | c + 1, hc => by
  have ih:=tO hs h hL (c:=c) zo
  have hg:1 ≤ grow L c:=Nat.le_trans hL (sM L c)
  have sh:=tQ hs (c:=c) zo
  obtain ⟨_,i2,i3,i4⟩:=qC (M:=(gF M c).1) (c:=c) (n:=M.length) (by rw [hs.1]; omega)
  simp only [gF,grow]
  split
  ·exact ih.le zo
  ·split
   ·exact ih.le zo
   ·rename_i e
    split
    ·rename_i e2
     refine zW ih hg ?_
     have:=i4 zo
     rw [e2] at this; exact this
    ·refine zW (Ee ih) hg ?_
     show gv (hJ (swp [] _ _ c) c) c ≠ _
     rw [xP (by rw [sh.1]; omega)]
     exact i4 zo
theorem Oy {M:List (List Qi)} {c r i:Nat} (hi:i < M.length) (h:¬ (c < i ∧ i < r)):hJ (redM M c r) i = hJ M i:=by
 simp only [hJ,redM,List.getD]
 rw [eC hi,if_neg h]; rfl
end
section
open Go Go.RowKit
abbrev Vd (M bs:List (List Qi)) (i:Nat):List Qi:=hJ M i ++ bs.map fun b=>gv b i
def rC (M bs:List (List Qi)) (n:Nat):List (List Qi):=tab n (Vd M bs)
theorem qN {M bs:List (List Qi)} {n m:Nat} (h:gC M n m):gC (rC M bs n) n (m + bs.length):=by
 refine ⟨bI _ _,fun r hr=>?_⟩
 obtain ⟨i,hi,rfl⟩:=gK.1 hr
 rw [List.length_append,List.length_map,h.row hi]
theorem qM {M bs : List (List Qi)} {n L : Nat} (h : bL M L) (hb : bL bs L) (hL : 1 ≤ L) : bL (rC M bs n) L := fun r hr x hx => by
 obtain ⟨i,hi,rfl⟩:=gK.1 hr
 rcases List.mem_append.1 hx with h1 | h1
 ·exact h.row i x h1
 ·obtain ⟨b, hb1, rfl⟩ := List.mem_map.1 h1
  exact eO.get (hb b hb1) hL i
def Bt (U : List (List Qi)) (x : List Qi) (n c : Nat) : Nat → Qi
 | 0=>gm U c n
 | k + 1=>Bt U x n c k - gm U c (c + 1 + k) * gv x (c + 1 + k)
def Wd (U : List (List Qi)) (n : Nat) : Nat → List Qi
 | 0=>tab n fun _=>Qi.zero
 | j + 1=>(Wd U n j).set (n - (j + 1)) (Bt U (Wd U n j) n (n - (j + 1)) j / gm U (n - (j + 1)) (n - (j + 1)))
def Ft (M:List (List Qi)) (b:List Qi) (n:Nat):List (List Qi) × Nat × Int:=gF (rC M [b] n) n
def Vs (M:List (List Qi)) (b:List Qi) (n:Nat):Int:=if 0 ≤ (Ft M b n).2.2 then 6 else 0
def Ej (G : Nat) : Nat → Nat
 | 0=>G
 | j + 1=>j * (Ej G j + G + 2) + 4 * G + 2
theorem uN (G j:Nat):Ej G j ≤ Ej G (j + 1):=by
 cases j with
 | zero=>simp only [Ej]; omega
 | succ j =>
  have:Ej G (j + 1) + G + 2 ≤ (j + 1) * (Ej G (j + 1) + G + 2):=Nat.le_mul_of_pos_left _ zo
  rw [show Ej G (j + 1 + 1) = (j + 1) * (Ej G (j + 1) + G + 2) + 4 * G + 2 from rfl]
  omega
theorem By (G : Nat) : ∀ j, G ≤ Ej G j
 | 0=>Nat.le_refl _
 | j + 1=>Nat.le_trans (By G j) (uN G j)
theorem Ag (G : Nat) : ∀ {i j : Nat}, i ≤ j → Ej G i ≤ Ej G j
 | i,0,h=>by rw [show i = 0 by omega]; exact Nat.le_refl _
 | i, j + 1, h => by
  by_cases e:i = j + 1
  ·rw [e]; exact Nat.le_refl _
  ·exact Nat.le_trans (Ag G (show i ≤ j by omega)) (uN G j)
theorem vK {M : List (List Qi)} {n m : Nat} (hs : gC M n m) : ∀ {c : Nat}, c ≤ n → (gF M c).2.2 < 0 → ∀ i, i < c → gm (gF M c).1 i i ≠ Qi.zero
 | 0,_,_,i,hi=>by omega
 | c + 1, hc, hst, i, hi => by
  have sh:=tQ hs (c:=c) zo
  obtain ⟨_,i2,i3,i4⟩:=qC (M:=(gF M c).1) (c:=c) (n:=M.length) (by rw [hs.1]; omega)
  simp only [gF] at hst ⊢
  split at hst
  ·rename_i h0; omega
  ·rename_i h0
   rw [if_neg h0]
   split at hst
   ·simp at hst; omega
   ·rename_i h1
    rw [if_neg h1]
    have ih:=vK hs (c:=c) zo zo
    have hl : ∀ X : List (List Qi), X.length = n → gm (redM X c M.length) i i = gm X i i := fun X hX => by
     show gv (hJ (redM X c M.length) i) i = _
     rw [Oy zo zo]
    by_cases e:pv (gF M c).1 c M.length = c
    ·rw [if_pos e, hl _ sh.1]
     by_cases e2:i = c
     ·rw [e2]; have:=i4 (by have:=hs.1; omega); rw [e] at this; exact this
     ·exact ih i zo
    ·have hpl : pv (gF M c).1 c M.length < n := by rw [← hs.1]; omega
     rw [if_neg e,hl _ ((xQ _ _ _ _).trans sh.1)]
     by_cases e2:i = c
     ·rw [e2]
      show gv (hJ (swp [] _ _ c) c) c ≠ _
      rw [xP (by rw [sh.1]; omega)]
      exact i4 (by have:=hs.1; omega)
     ·have : hJ (swp [] (gF M c).1 (pv (gF M c).1 c M.length) c) i = hJ (gF M c).1 i := by
       simp only [hJ,swp,List.getD]
       rw [List.getElem?_set_ne (Ne.symm e2),List.getElem?_set_ne zo]
      show gv (hJ (swp [] _ _ c) i) i ≠ _
      rw [this]; exact ih i zo
theorem Ed {U : List (List Qi)} {x : List Qi} {n c G X : Nat} (hU : bL U G) (hx : eO x X) (hG : 1 ≤ G) (hX : 1 ≤ X) : ∀ k, aL (Bt U x n c k) (G + k * (G + X + 2))
 | 0=>(hU.get hG c n).le zo
 | k + 1 => by
  haveI f1:=Ed (n:=n) (c:=c) hU hx hG hX k
  haveI f2:=hU.get hG c (c + 1 + k)
  haveI f3:=hx.get hX (c + 1 + k)
  have:aL (Bt U x n c (k + 1)) (G + k * (G + X + 2) + (G + X + 1) + 1):=by unfold Bt; infer_instance
  exact this.le (by rw [Nat.add_mul]; omega)
theorem Rl {U:List (List Qi)} {x:List Qi} {n c G X j:Nat} (hU:bL U G) (hx:eO x X) (hG:1 ≤ G) (hX:1 ≤ X) (hz:gm U c c ≠ Qi.zero):aL (Bt U x n c j / gm U c c) (j * (X + G + 2) + 4 * G + 2):=by
 have f1:=Ed (n:=n) (c:=c) hU hx hG hX j
 have f2:=hU.get hG c c
 have:aL (Bt U x n c j / gm U c c) (G + j * (G + X + 2) + 3 * G + 2):=⟨f1.fit.div f2.fit hz⟩
 exact this.le (by rw [Nat.add_comm X G]; omega)
theorem Gz {U : List (List Qi)} {n G : Nat} (hU : bL U G) (hG : 1 ≤ G) (hz : ∀ i, i < n → gm U i i ≠ Qi.zero) : ∀ j, j ≤ n → eO (Wd U n j) (Ej G j)
 | 0,_=>eO.tab fun _ _=>aL.zero hG
 | j + 1, hj => fun y hy => by
  have ih:=Gz hU hG hz j zo
  rcases List.mem_or_eq_of_mem_set hy with h1 | h1
  ·exact (ih y h1).le (uN G j)
  ·rw [h1]; exact Rl hU ih hG (Nat.le_trans hG (By G j)) (hz _ zo)
theorem Kw {M:List (List Qi)} {b:List Qi} {n L:Nat} (h:gC M n n) (hM:bL M L) (hb:eO b L) (hL:1 ≤ L):bL (Ft M b n).1 (grow L n):=tO (qN h) (qM hM (fun r hr=>by simp at hr; subst hr; exact hb) hL) hL (Nat.le_refl n)
theorem Pi {M:List (List Qi)} {b:List Qi} {n:Nat} (h:¬ 0 ≤ (Ft M b n).2.2):(Ft M b n).2.2 < 0:=by omega
end
section
open Go Go.RowKit
namespace Qi
def npow' (x : Qi) : Nat → Qi
 | 0=>Qi.ofInt 1
 | k + 1=>npow' x k * x
theorem one_mul2 (x:Qi):Qi.ofInt 1 * x = x:=ext' (by show ((1:Int):Rat) * x.re - 0 * x.im = x.re; grind) (by show ((1:Int):Rat) * x.im + 0 * x.re = x.im; grind)
theorem mul_one2 (x:Qi):x * Qi.ofInt 1 = x:=by rw [mul_comm',one_mul2]
end Qi
instance qiField:Lean.Grind.CommRing Qi where
 natCast:=⟨fun n=>Qi.ofInt n⟩
 ofNat n:=⟨Qi.ofInt n⟩
 nsmul:=⟨fun n x=>Qi.ofInt n * x⟩
 npow:=⟨Qi.npow'⟩
 add_zero:=Qi.add_zero'
 add_comm:=Qi.add_comm'
 add_assoc:=Qi.add_assoc'
 mul_assoc:=Qi.mul_assoc'
 mul_comm:=Qi.mul_comm'
 mul_one:=Qi.mul_one2
 one_mul:=Qi.one_mul2
 left_distrib:=Qi.mul_add'
 right_distrib:=Qi.add_mul'
 zero_mul:=Qi.zero_mul'
 mul_zero:=Qi.mul_zero'
 pow_zero _:=rfl
 pow_succ _ _:=rfl
 ofNat_succ n:=Qi.ext' (by show (((n + 1:Nat):Int):Rat) = ((n:Int):Rat) + ((1:Int):Rat); rw [Int.natCast_add,Rat.intCast_add]; rfl) (by show (0:Rat) = 0 + 0; grind)
 intCast:=⟨Qi.ofInt⟩
 zsmul:=⟨fun n x=>Qi.ofInt n * x⟩
 neg_add_cancel x:=Qi.ext' (by show -x.re + x.re = ((0:Int):Rat); grind) (by show -x.im + x.im = 0; grind)
 sub_eq_add_neg:=Qi.sub_def
 neg_zsmul i x:=Qi.ext' (by show ((-i:Int):Rat) * x.re - 0 * x.im = -((i:Rat) * x.re - 0 * x.im); rw [Rat.intCast_neg]; grind) (by show ((-i:Int):Rat) * x.im + 0 * x.re = -((i:Rat) * x.im + 0 * x.re); rw [Rat.intCast_neg]; grind)
 intCast_neg i:=Qi.ext' (Rat.intCast_neg i) (by show (0:Rat) = -0; grind)
theorem q0:Qi.zero = 0:=rfl
theorem q1:Qi.ofInt 1 = 1:=rfl
theorem uB {x:Qi} (h:x ≠ 0):x * Qi.inv x = 1:=by
 have hn:x.nrm ≠ 0:=fun e=>h (Qi.nrm_zero.1 e)
 have e:x.re * x.re + x.im * x.im = x.nrm:=rfl
 refine Qi.ext' ?_ ?_
 ·show x.re * (x.re / x.nrm) - x.im * (-x.im / x.nrm) = ((1 : Int) : Rat)
  grind
 ·show x.re * (-x.im / x.nrm) + x.im * (x.re / x.nrm) = 0
  grind
theorem wT {x y:Qi} (h:y ≠ 0):x / y * y = x:=by
 rw [Qi.div_def]
 have:=uB h
 grind
theorem Sg {x y z:Qi} (h:y ≠ 0) (e:x = z * y):x / y = z:=by
 have h1:=wT (x:=x) h
 have h2:=uB h
 grind
theorem rE {x y:Qi} (h:x * y = 0):x = 0 ∨ y = 0:=by
 by_cases e:x = 0
 ·exact .inl e
 ·right; have:=uB e; grind
end
section
open Fl
abbrev NP:=List Qi × List (List Qi)
abbrev Wu:NP:=([],[])
abbrev nz (l:List NP) (i:Nat):List Qi:=(l.getD i Wu).1
structure Et (f:List Qi) (l:List NP):Prop where
 len:f.length = l.length
 n1:f.length ≤ 1024
 pos:∀ i,i < f.length → gL (gv f i) = true
 up:∀ i,0 < i → i < f.length → (gv f (i - 1)).re < (gv f i).re
 zs:∀ i,i < f.length → nz l i = nz l 0
section
variable {f:List Qi} {l:List NP}
theorem Et.nil:Et [] []:=⟨rfl,by decide,fun i h=>by simp at h,fun i _ h=>by simp at h,fun i h=>by simp at h⟩
theorem Et.re (h:Et f l) {i:Nat} (hi:i < f.length):Re (gv f i):=Fl.pos_re (h.pos i hi)
theorem Et.lt (h:Et f l) {i j:Nat} (hij:i < j) (hj:j < f.length):(gv f i).re < (gv f j).re:=by
 induction j with
 | zero=>omega
 | succ j ih =>
  have h1:=h.up (j + 1) zo hj
  rw [Nat.add_sub_cancel] at h1
  rcases Nat.eq_or_lt_of_le (Nat.le_of_lt_succ hij) with e | e
  ·rw [e]; exact h1
  ·have h2 := ih e zo
   grind
end
end
section
open Fl
structure Pd where
 m:Int
 n:Int
 f:Qi
instance : Inhabited Pd:=⟨⟨0,0,Qi.zero⟩⟩
theorem lP {a b c:Rat} (h:a < b) (k:b < c):a < c:=by grind
def sz (n:Int):Int:=max n (-n)
def kz (x:Pd):Int:=sz x.m + sz x.n
def Sa (x y:Pd):Int:=if oO x.f y.f ≠ 0 then oO x.f y.f else if eP (kz x) (kz y) ≠ 0 then eP (kz x) (kz y) else eP x.m y.m
def uP (x y:Pd):Bool:=decide (Sa x y < 0)
theorem Cw {x y:Qi}:oO x y = 0 ↔ x.re = y.re:=by
 have h1:=@Mq x y; have h2:=@Mo x y
 constructor
 ·intro h
  have a:=h1.1 zo; have b:=h2.1 zo
  exact Rat.le_antisymm a b
 ·intro h
  have a:=h1.2 (by rw [h]; exact Rat.le_refl); have b:=h2.2 (by rw [h]; exact Rat.le_refl)
  omega
theorem yK {a b:Int}:eP a b = 0 ↔ a = b:=by
 unfold eP
 split
 ·constructor <;> intro h <;> omega
 ·split
  ·constructor <;> intro h <;> omega
  ·constructor <;> intro h <;> omega
theorem tI {a b:Int}:eP a b < 0 ↔ a < b:=by
 unfold eP
 split
 ·constructor <;> intro h <;> omega
 ·split
  ·constructor <;> intro h <;> omega
  ·constructor <;> intro h <;> omega
theorem Ck {x y:Pd}:uP x y = true ↔ x.f.re < y.f.re ∨ (x.f.re = y.f.re ∧ (kz x < kz y ∨ (kz x = kz y ∧ x.m < y.m))):=by
 unfold uP Sa
 rw [decide_eq_true_eq]
 by_cases h:oO x.f y.f = 0
 ·have hr := Cw.1 h
  rw [if_neg (fun k=>k h)]
  by_cases h2:eP (kz x) (kz y) = 0
  ·have hk := yK.1 h2
   rw [if_neg (fun k=>k h2),tI]
   constructor
   ·intro h3; exact .inr ⟨hr,.inr ⟨hk,h3⟩⟩
   ·rintro (h3 | ⟨_, h3 | ⟨_, h3⟩⟩)
    ·rw [hr] at h3; exact absurd h3 (Rat.lt_irrefl)
    ·omega
    ·exact h3
  ·have hk : ¬ kz x = kz y := fun k => h2 (yK.2 k)
   rw [if_pos h2,tI]
   constructor
   ·intro h3; exact .inr ⟨hr,.inl h3⟩
   ·rintro (h3 | ⟨_, h3 | ⟨h4, _⟩⟩)
    ·rw [hr] at h3; exact absurd h3 (Rat.lt_irrefl)
    ·exact h3
    ·exact absurd h4 hk
 ·have hr : ¬ x.f.re = y.f.re := fun k => h (Cw.2 k)
  rw [if_pos h,Cy]
  constructor
  ·intro h3; exact .inl h3
  ·rintro (h3 | ⟨h4, _⟩)
   ·exact h3
   ·exact absurd h4 hr
theorem Ov (a b:Rat):a < b ∨ a = b ∨ b < a:=by
 by_cases h:a < b
 ·exact .inl h
 ·by_cases k : b < a
  ·exact .inr (.inr k)
  ·exact .inr (.inl (Rat.le_antisymm (Rat.not_lt.1 k) (Rat.not_lt.1 h)))
theorem wK {x y:Pd}:uP x y = false ↔ y.f.re < x.f.re ∨ (x.f.re = y.f.re ∧ (kz y < kz x ∨ (kz x = kz y ∧ y.m ≤ x.m))):=by
 rw [← Bool.not_eq_true,Ck]
 rcases Ov x.f.re y.f.re with h | h | h
 ·constructor
  ·intro k; exact absurd (.inl h) k
  ·rintro (k | ⟨k, _⟩)
   ·exact absurd (lP h k) Rat.lt_irrefl
   ·rw [k] at h; exact absurd h Rat.lt_irrefl
 ·constructor
  ·intro k
   refine .inr ⟨h,?_⟩
   by_cases h1:kz y < kz x
   ·exact .inl h1
   ·by_cases h2 : kz x < kz y
    ·exact absurd (.inr ⟨h,.inl h2⟩) k
    ·refine .inr ⟨by omega, ?_⟩
     by_cases h3:x.m < y.m
     ·exact absurd (.inr ⟨h,.inr ⟨by omega,h3⟩⟩) k
     ·omega
  ·rintro (k | ⟨_, k⟩) (j | ⟨_, j⟩)
   ·rw [h] at j; exact Rat.lt_irrefl j
   ·rw [h] at k; exact Rat.lt_irrefl k
   ·rw [h] at j; exact Rat.lt_irrefl j
   ·omega
 ·constructor
  ·intro _; exact .inl h
  ·rintro _ (j | ⟨j, _⟩)
   ·exact Rat.lt_irrefl (lP h j)
   ·rw [j] at h; exact Rat.lt_irrefl h
theorem Cl (x:Pd):uP x x = false:=wK.2 (.inr ⟨rfl,.inr ⟨rfl,Int.le_refl _⟩⟩)
theorem Gy {x y z:Pd} (h:uP x y = true) (k:uP y z = true):uP x z = true:=by
 rw [Ck] at *
 rcases h with h | ⟨h,h'⟩
 ·rcases k with k | ⟨k, _⟩
  ·exact .inl (lP h k)
  ·exact .inl (k ▸ h)
 ·rcases k with k | ⟨k, k'⟩
  ·exact .inl (h ▸ k)
  ·exact .inr ⟨h.trans k,by omega⟩
theorem Cm {x y z:Pd} (h:uP x y = false) (k:uP y z = false):uP x z = false:=by
 rw [wK] at *
 rcases h with h | ⟨h,h'⟩
 ·rcases k with k | ⟨k, _⟩
  ·exact .inl (lP k h)
  ·exact .inl (k ▸ h)
 ·rcases k with k | ⟨k, k'⟩
  ·exact .inl (h ▸ k)
  ·exact .inr ⟨h.trans k,by omega⟩
theorem Gx {x y:Pd} (h:uP x y = true):uP y x = false:=by
 cases e:uP y x with
 | false=>rfl
 | true=>have:=Gy h e; rw [Cl] at this; cases this
def Wj (l:List Pd):Prop:=l.Pairwise fun a b=>uP b a = false
def Vu (l:List Pd):List Pd:=l.mergeSort fun a b=>!uP b a
theorem iR (l:List Pd):(Vu l).Perm l:=List.mergeSort_perm l _
theorem Pj (l:List Pd):Wj (Vu l):=by
 have h := List.pairwise_mergeSort (le := fun a b : Pd => !uP b a) (fun a b c h k => by
  simp only [Bool.not_eq_true'] at h k ⊢; exact Cm k h) (fun a b=>by
  cases e:uP b a with
  | false=>simp
  | true=>simp [Gx e]) l
 exact h.imp fun {a b} h=>by simpa using h
theorem Tp {l L : List Pd} (ha : ∀ x y, x ∈ L → y ∈ L → uP x y = false → uP y x = false → x = y) (hp : l.Perm L) (hs : Wj l) : l = Vu L :=
 List.Perm.eq_of_pairwise (le:=fun a b=>uP b a = false) (fun a b h1 h2 h3 h4=>ha a b (hp.mem_iff.1 h1) ((iR L).mem_iff.1 h2) h4 h3) hs (Pj L) (hp.trans (iR L).symm)
def lN (G : Int → List Pd) (a : Int) : Nat → List Pd
 | 0=>[]
 | k + 1=>lN G a k ++ G (a + k)
theorem yI (G:Int → List Pd) (a:Int) (k:Nat):lN G a (k + 1) = lN G a k ++ G (a + k):=rfl
theorem pG {G : Int → List Pd} {a : Int} {x : Pd} : ∀ {k : Nat}, x ∈ lN G a k → ∃ j : Nat, j < k ∧ x ∈ G (a + j)
 | 0,h=>by cases h
 | k + 1, h => by
  rcases List.mem_append.1 h with h | h
  ·obtain ⟨j,h1,h2⟩:=pG h; exact ⟨j,by omega,h2⟩
  ·exact ⟨k,by omega,h⟩
theorem nQ {G : Int → List Pd} {a : Int} {c : Nat} (h : ∀ i, (G i).length ≤ c) : ∀ k : Nat, (lN G a k).length ≤ k * c
 | 0=>by simp [lN]
 | k + 1=>by rw [lN,List.length_append,Nat.add_mul]; have:=nQ h (a:=a) k; have:=h (a + k); omega
section
variable (f g lo hi:Qi)
def pf (m n:Int):Qi:=f * Qi.ofInt m + g * Qi.ofInt n
def sC (m n:Int):Bool:=(!decide (m = 0) || !decide (n = 0)) && gL (pf f g m n) && decide (0 ≤ lB (pf f g m n) lo) && decide (lB (pf f g m n) hi ≤ 0)
def Dl (m n:Int):List Pd:=if sC f g lo hi m n = true then [⟨m,n,pf f g m n⟩] else []
def qD (o:Nat) (m:Int):List Pd:=lN (Dl f g lo hi m) (sz m - o) (2 * (o - (sz m).toNat) + 1)
def kM (o:Nat):List Pd:=lN (qD f g lo hi o) (-o) (2 * o + 1)
end
section
variable {f g lo hi:Qi} {o:Nat}
theorem sO {m n:Int} {x:Pd} (h:x ∈ Dl f g lo hi m n):x = ⟨m,n,pf f g m n⟩ ∧ sC f g lo hi m n = true:=by
 unfold Dl at h
 split at h
 ·rename_i k; exact ⟨by simpa using h,k⟩
 ·cases h
theorem mA {x:Pd} (h:x ∈ kM f g lo hi o):x.f = pf f g x.m x.n ∧ sC f g lo hi x.m x.n = true ∧ sz x.m + sz x.n ≤ o:=by
 obtain ⟨i,h1,h2⟩:=pG h
 obtain ⟨j,h3,h4⟩:=pG h2
 obtain ⟨rfl,h5⟩:=sO h4
 refine ⟨rfl,h5,?_⟩
 unfold sz at *
 simp only
 omega
theorem Oo {m n:Int} (hf:Re f) (hg:Re g):Re (pf f g m n):=(hf.mul ⟨rfl⟩).add (hg.mul ⟨rfl⟩)
theorem Dw {m n:Int} (hf:Re f) (hg:Re g):(pf f g m n).re = m * f.re + n * g.re:=by
 show (f * Qi.ofInt m + g * Qi.ofInt n).re = _
 rw [Qi.add_re,hf.rmul,hg.rmul]
 show f.re * (m:Rat) + g.re * (n:Rat) = _
 grind
theorem Iq (hf:Re f) (hg:Re g) (g0:0 < g.re):∀ x y,x ∈ kM f g lo hi o → y ∈ kM f g lo hi o → uP x y = false → uP y x = false → x = y:=by
 intro x y hx hy h k
 obtain ⟨x1,_,_⟩:=mA hx
 obtain ⟨y1,_,_⟩:=mA hy
 have hm : x.m = y.m ∧ x.f.re = y.f.re := by
  rw [wK] at h k
  rcases h with h | ⟨h,h'⟩
  ·rcases k with k | ⟨k, _⟩
   ·exact absurd (lP h k) Rat.lt_irrefl
   ·rw [k] at h; exact absurd h Rat.lt_irrefl
  ·rcases k with k | ⟨k, k'⟩
   ·rw [h] at k; exact absurd k Rat.lt_irrefl
   ·exact ⟨by omega,h⟩
 have e2:x.f.re = x.m * f.re + x.n * g.re:=by rw [x1,Dw hf hg]
 have e3:y.f.re = y.m * f.re + y.n * g.re:=by rw [y1,Dw hf hg]
 have e4:((x.n:Rat) - y.n) * g.re = 0:=by rw [hm.1] at e2; grind
 have e5 : (x.n : Rat) = (y.n : Rat) := by
  rcases Rat.mul_eq_zero.1 e4 with h | h
  ·grind
  ·rw [h] at g0; exact absurd g0 Rat.lt_irrefl
 have e6:x.n = y.n:=Rat.intCast_inj.1 e5
 obtain ⟨xm,xn,xf⟩:=x
 obtain ⟨ym,yn,yf⟩:=y
 simp only at *
 rw [hm.1,e6] at x1
 rw [x1,y1,hm.1,e6]
end
def oD (f g lo hi:Qi) (o:Int):Bool:=!gL f || !gL g || !decide (lo.b = 0) || !decide (hi.b = 0) || decide (o < 1) || decide (15 < o)
def gU (f g lo hi:Qi) (o:Int):Int:=if oD f g lo hi o = true then 1 else if 0 < lB lo hi then 7 else 0
def bS (f g lo hi:Qi) (o:Int):List Pd:=if gU f g lo hi o = 0 then Vu (kM f g lo hi o.toNat) else []
section
variable {f g lo hi:Qi} {o:Int}
theorem qA (h:oD f g lo hi o = true):gU f g lo hi o = 1:=by rw [gU,if_pos h]
theorem Kf (h:oD f g lo hi o = false) (h2:0 < lB lo hi):gU f g lo hi o = 7:=by rw [gU,if_neg (by rw [h]; decide),if_pos h2]
theorem Oq (h:oD f g lo hi o = false) (h2:¬ 0 < lB lo hi):gU f g lo hi o = 0:=by rw [gU,if_neg (by rw [h]; decide),if_neg h2]
theorem zQ (h:gU f g lo hi o ≠ 0):bS f g lo hi o = []:=by rw [bS,if_neg h]
theorem Kb {q:Nat} (h:gU f g lo hi q = 0):bS f g lo hi q = Vu (kM f g lo hi q):=by rw [bS,if_pos h,Int.toNat_natCast]
theorem wJ (h:oD f g lo hi o = false):gL f = true ∧ gL g = true ∧ lo.b = 0 ∧ hi.b = 0 ∧ 1 ≤ o ∧ o ≤ 15:=by
 simp only [oD,Bool.or_eq_false_iff,Bool.not_eq_false',decide_eq_true_eq,decide_eq_false_iff_not] at h
 obtain ⟨⟨⟨⟨⟨h1,h2⟩,h3⟩,h4⟩,h5⟩,h6⟩:=h
 exact ⟨h1,h2,h3,h4,by omega,by omega⟩
end
structure Li (L:Nat) (x:Pd):Prop where
 fit:aL x.f L
 re:Re x.f
 m1:-15 ≤ x.m
 m2:x.m ≤ 15
 n1:-15 ≤ x.n
 n2:x.n ≤ 15
theorem tT {m : Int} (h1 : -15 ≤ m) (h2 : m ≤ 15) : aL (Qi.ofInt m) 2 := (@fitInt m).le (by
 have:(dg m.natAbs).length ≤ 1:=gB (k:=1) (by rw [Nat.pow_one]; exact Nat.lt_of_lt_of_le (show m.natAbs < 16 by omega) (by decide))
 omega)
section
variable {f g lo hi:Qi} {q L:Nat}
theorem Ju {m n:Int} (hf:aL f L) (hg:aL g L) (h1:-15 ≤ m) (h2:m ≤ 15) (h3:-15 ≤ n) (h4:n ≤ 15):aL (pf f g m n) (2 * L + 8):=by
 haveI:=tT h1 h2; haveI:=tT h3 h4; haveI:=hf; haveI:=hg
 have h:aL (f * Qi.ofInt m + g * Qi.ofInt n) ((L + 2 + 1) + (L + 2 + 1) + 1):=inferInstance
 exact h.le zo
theorem Ef {m:Int} {k:Nat} (h:sz m ≤ k):-(k:Int) ≤ m ∧ m ≤ k:=by unfold sz at h; omega
theorem Ae (m:Int):0 ≤ sz m:=by unfold sz; omega
theorem Di (hf : aL f L) (hg : aL g L) (rf : Re f) (rg : Re g) (hq : q ≤ 15) : ∀ x, x ∈ kM f g lo hi q → Li (2 * L + 8) x := fun x hx => by
 obtain ⟨h1,_,h3⟩:=mA hx
 have hm:=Ae x.m; have hn:=Ae x.n
 obtain ⟨a1,a2⟩:=Ef (m:=x.m) (k:=q) zo
 obtain ⟨b1,b2⟩:=Ef (m:=x.n) (k:=q) zo
 refine ⟨?_,?_,by omega,by omega,by omega,by omega⟩
 ·rw [h1]; exact Ju hf hg zo zo zo zo
 ·rw [h1]; exact Oo rf rg
theorem wY (m n:Int):(Dl f g lo hi m n).length ≤ 1:=by
 unfold Dl; split <;> simp
theorem Dy {k i j:Nat} {m:Int} (hq:q ≤ 15) (hi1:i ≤ 2 * q + 1) (hj:j ≤ 2 * (q - k) + 1):(lN (qD f g lo hi q) (-(q:Int)) i ++ lN (Dl f g lo hi m) ((k:Int) - q) j).length ≤ 1100:=by
 have h : ∀ m, (qD f g lo hi q m).length ≤ 31 := fun m => by
  have:=nQ (G:=Dl f g lo hi m) (c:=1) (wY m) (2 * (q - (sz m).toNat) + 1) (a:=sz m - q)
  unfold qD; omega
 have h1:=nQ (G:=qD f g lo hi q) (c:=31) h i (a:=-(q:Int))
 have h2:=nQ (G:=Dl f g lo hi m) (c:=1) (wY m) j (a:=(k:Int) - q)
 have h3:i * 31 ≤ 31 * 31:=Nat.mul_le_mul_right 31 zo
 rw [List.length_append]; omega
theorem Dh (hq:q ≤ 15):(kM f g lo hi q).length ≤ 961:=by
 have h : ∀ m, (qD f g lo hi q m).length ≤ 31 := fun m => by
  have:=nQ (G:=Dl f g lo hi m) (c:=1) (wY m) (2 * (q - (sz m).toNat) + 1) (a:=sz m - q)
  unfold qD; omega
 have:=nQ (G:=qD f g lo hi q) (c:=31) h (2 * q + 1) (a:=-(q:Int))
 unfold kM
 have h2:(2 * q + 1) * 31 ≤ 31 * 31:=Nat.mul_le_mul_right 31 zo
 omega
end
def sh (l:List Pd) (x:Pd) (i:Nat):List Pd:=(l ++ [x]).take (i + 1) ++ l.drop i
section
variable {f g lo hi:Qi} {q:Nat}
end
section
variable {f g lo hi:Qi} {q L:Nat}
end
end
section
open Go Go.RowKit
structure kN {γ:Type} (T:γ → Ty) (s:Nat) (V:aD) where
 x:γ
 cs:List Value
 len:cs.length = s
 plain:∀ v,v ∈ cs → gO v
 ok:(T x).p (.agg cs.toArray) V
section
variable {γ:Type} {T:γ → Ty} {s:Nat} {V:aD}
abbrev kN.val (a:kN T s V):Value:=.agg a.cs.toArray
theorem Il (l:List (kN T s V)):oJ s (l.map fun a=>T a.x) (l.map kN.val) V:=by
 induction l with
 | nil=>exact oJ.nil
 | cons a l ih =>
  have h1 : oJ s [T a.x] [a.val] V := ⟨⟨a.ok, trivial⟩, fun x hx => by simp at hx; subst hx; simp [kN.val, Value.cells, a.len], fun u hu => by
   simp [aT,kN.val,Value.cells] at hu; exact a.plain u hu⟩
  exact h1.append ih
theorem Dc (hag : ∀ x v V, (T x).p v V → ∃ cs, v = .agg cs) : ∀ (l : List γ) (xs : List Value), oJ s (l.map T) xs V → ∃ d : List (kN T s V), d.map kN.x = l ∧ d.map kN.val = xs
 | [],[],_=>⟨[],rfl,rfl⟩
 | x :: l, v :: xs, h => by
  obtain ⟨cs,rfl⟩:=hag x v V h.all.1
  obtain ⟨d, h1, h2⟩ := Dc hag l xs ⟨h.all.2, fun y hy => h.size y (by simp [hy]), fun u hu => h.plain u (by
   obtain ⟨y,k1,k2⟩:=dT.1 hu; exact dT.2 ⟨y,by simp [k1],k2⟩)⟩
  refine ⟨⟨x,cs.toList,by simpa [Value.cells] using h.size (.agg cs) (by simp),fun u hu=>h.plain u (dT.2 ⟨.agg cs,by simp,by simpa [Value.cells] using hu⟩),by simpa using h.all.1⟩ :: d,by simp [h1],by simp [h2,kN.val]⟩
 | [],_ :: _,h=>h.all.elim
 | _ :: _,[],h=>h.all.elim
theorem yT [Inhabited (kN T s V)] (d:Array (kN T s V)):(Go.Sort.flatK kN.cs s d).toList = aT (d.toList.map kN.val):=by
 have hsz : ∀ x, x ∈ d.toList.map kN.val → x.cells.size = s := fun x hx => by
  obtain ⟨a,_,rfl⟩:=List.mem_map.1 hx; simp [kN.val,Value.cells,a.len]
 have hl:=gD _ hsz
 apply List.ext_getElem?
 intro j
 by_cases hj:j < d.size * s
 ·have hj2 : j < (aT (d.toList.map kN.val)).length := by rw [hl]; simpa using hj
  obtain ⟨i,x,r,h1,h2,h3⟩:=tU _ hsz j _ (List.getElem?_eq_getElem hj2)
  rw [List.getElem?_eq_getElem hj2]
  rw [List.getElem?_map] at h1
  obtain ⟨a,h4,rfl⟩:=Option.map_eq_some_iff.1 h1
  have hr : r < s := by
   have:=(Array.getElem?_eq_some_iff.1 h2).1
   simpa [kN.val,Value.cells,a.len] using this
  have e1:j / s = i:=by rw [h3,Nat.mul_comm,Nat.mul_add_div zo,Nat.div_eq_of_lt hr,Nat.add_zero]
  have e2:j % s = r:=by rw [h3,Nat.mul_comm,Nat.mul_add_mod,Nat.mod_eq_of_lt hr]
  have hi:i < d.size:=by have:=(List.getElem?_eq_some_iff.1 h4).1; simpa using this
  have e3 : d[i]! = a := by
   rw [getElem!_pos d i hi]
   have:=(List.getElem?_eq_some_iff.1 h4).2
   simpa using this
  have e4:=Go.Sort.get_flatK kN.cs s d j hj
  rw [e1,e2,e3] at e4
  have hj3:j < (Go.Sort.flatK kN.cs s d).size:=by simpa using hj
  rw [getElem!_pos _ j hj3] at e4
  rw [Array.getElem?_toList,Array.getElem?_eq_getElem hj3,e4]
  have h5:a.cs[r]? = some (aT (d.toList.map kN.val))[j]:=by simpa [kN.val,Value.cells] using h2
  have hra:r < a.cs.length:=by rw [a.len]; exact hr
  rw [getElem!_pos a.cs r hra,← List.getElem?_eq_getElem hra,h5]
 ·rw [List.getElem?_eq_none (by simpa using Nat.le_of_not_lt hj),List.getElem?_eq_none (by rw [hl]; simpa using Nat.le_of_not_lt hj)]
end
theorem uI {α : Type} [Inhabited α] (enc : α → List Value) (k : Nat) (w : World) (blk m : Nat) (dk : Array α) (os : Array Obj) {b : Nat} (hb : b < w.heap.size) (hne : b ≠ blk) :
  (sortWorldK enc k w blk 0 m dk os).heap[b]? = w.heap[b]?:=by
 have h : b < (Go.Sort.putRowK enc k (Go.Sort.ahead w m) blk 0 dk).heap.size := by
  have:(Go.Sort.putRowK enc k (Go.Sort.ahead w m) blk 0 dk).heap.size = w.heap.size:=by simp [Go.Sort.putRowK]
  omega
 unfold sortWorldK
 show (_ ++ os:Array Obj)[b]? = _
 rw [Array.getElem?_append_left h]
 simp only [Go.Sort.putRowK,Go.Sort.putRow,Go.Sort.mapBlock,Go.Sort.heap_ahead,Array.getElem?_modify]
 rw [if_neg (fun e=>hne e.symm)]
theorem Fv {α : Type} [Inhabited α] (enc : α → List Value) (k : Nat) (w : World) (blk m : Nat) (dk : Array α) (os : Array Obj) {c : Array Value} {e : TypeId} {fr : Nat × Nat} (hb : w.heap[blk]? = some (.cells c e fr)) :
  (sortWorldK enc k w blk 0 m dk os).heap[blk]? = some (.cells (Go.Sort.putCells id 0 (Go.Sort.flatK enc k dk) c) e fr):=by
 have hlt:blk < w.heap.size:=(Array.getElem?_eq_some_iff.1 hb).1
 have h : blk < (Go.Sort.putRowK enc k (Go.Sort.ahead w m) blk 0 dk).heap.size := by
  have:(Go.Sort.putRowK enc k (Go.Sort.ahead w m) blk 0 dk).heap.size = w.heap.size:=by simp [Go.Sort.putRowK]
  omega
 unfold sortWorldK
 show (_ ++ os:Array Obj)[blk]? = _
 rw [Array.getElem?_append_left h]
 simp only [Go.Sort.putRowK,Go.Sort.putRow,Go.Sort.mapBlock,Go.Sort.heap_ahead,Array.getElem?_modify,hb]
 simp [Go.Sort.onCells]
theorem uZ (F c:Array Value) (h:F.size ≤ c.size):(Go.Sort.putCells id 0 F c).size = c.size ∧ (Go.Sort.putCells id 0 F c).toList.take F.size = F.toList:=by
 refine ⟨by simp [Go.Sort.putCells],List.ext_getElem? fun j=>?_⟩
 rw [List.getElem?_take]
 by_cases hj:j < F.size
 ·rw [if_pos hj, Array.getElem?_toList, Array.getElem?_toList, Array.getElem?_eq_getElem hj]
  have hc:j < c.size:=by omega
  simp [Go.Sort.putCells,hj,hc]
 ·rw [if_neg hj,Array.getElem?_toList,Array.getElem?_eq_none zo]
section
variable {P:Program} {R:dP} {cx:Cx} {n:Nat} {k:List It} {E:bC} {H:Hp} {ops:Array Oper} {rest:List Oper}
variable {d:Option Tmp} {pos:String} {af:Array Edge}
theorem yB {w w':World} (h:Below w.heap.size w w'):∃ q os,w' = Go.Sort.grow (w.drewN q) os:=by
 obtain ⟨p,hp⟩:=regrown_of_below h.1
 have hd:=h.2
 rw [hp] at hd
 refine ⟨p.d - w.drawn,p.os,hp.trans ?_⟩
 have:w.drawn ≤ p.d:=hd
 simp only [redrawn,World.drewN]
 rw [Nat.add_sub_cancel' this]
theorem Kx {ρ : Go.Shelf.Ren} (L : Go.Proofs.SlLaysF0.n6 P ρ) {γ : Type} {T : γ → Ty} {s e i : Nat} {v y : Value} {l : List γ} {cf : γ → γ → Int} {w : World} {V : aD}
  (hag:∀ x v V,(T x).p v V → ∃ cs,v = .agg cs) (aE:∀ w,(isAgg (ρ.t 24)).run P w = .ok true w) (zE:∀ w,(sizeOf (ρ.t 24)).run P w = .ok s w) (hO:Go.Sort.SWO (Go.Proofs.ltOf cf))
  (hinv:dR cx V H w) (hy:(xT P (γ × γ) (fun p=>[T p.1,T p.2]) (fun p=>aC .i64 (cf p.1 p.2))).p y V) (hH:H[i]? = some (bA e s v (l.map T))) (hlen:l.length < 4611686018427387904) :
  Calls P (ρ.f 6) #[v,y] w fun e' w'=>e' = .returned (.tuple #[]) ∧ ∃ l':List γ,l'.Perm l ∧ l'.Pairwise (fun a b=>Go.Proofs.ltOf cf b a = false) ∧ dR cx V (H.set i (bA e s v (l'.map T))) w':=by
 obtain ⟨F,f1,f2⟩:=hinv.hp
 obtain ⟨⟨xs,hx1,hx2⟩,hx3⟩:=f1 i _ hH
 have hil:=(List.getElem?_eq_some_iff.1 hH)
 obtain ⟨fid,caps,rfl,hen,hcl⟩:=hy
 have done : ∀ p cap, l = [] → v = .slice p 0 cap → Calls P (ρ.f 6) #[v, .func (.func fid) #[] caps.toArray] w fun e' w' => e' = .returned (.tuple #[]) ∧ ∃ l' : List γ, l'.Perm l ∧ l'.Pairwise (fun a b => Go.Proofs.ltOf cf b a = false) ∧ dR cx V (H.set i (bA e s v (l'.map T))) w' := by
  intro p cap hl hv
  rw [hv]
  refine (AnyF.slices_SortFunc_none L p cap _ w).mono fun e' w' ⟨h1,h2⟩=>⟨h1,l,List.Perm.refl l,by rw [hl]; exact List.Pairwise.nil,?_⟩
  rw [h2,← hv]
  have : H.set i (bA e s v (l.map T)) = H := by
   obtain ⟨h3,h4⟩:=hil
   rw [← h4]; exact List.set_getElem_self h3
  rw [this]; exact hinv
 rcases hx2 with ⟨rfl,hnil,hS⟩ | ⟨g,cap,cur,rfl,hS,hg,hle,hcm,hcs,htake⟩
 ·exact done none 0 (by simpa using hnil) rfl
 by_cases hl0:l = []
 ·exact done (some ⟨g,0,none⟩) cap hl0 (by rw [hl0]; rfl)
 obtain ⟨d,hd1,hd2⟩:=Dc hag l xs hx1
 have hdl:d.length = l.length:=by rw [← hd1,List.length_map]
 obtain ⟨a0, ha0⟩ : ∃ a0, a0 ∈ d := by
  cases d with
  | nil=>exact absurd hd1.symm hl0
  | cons a d=>exact ⟨a,by simp⟩
 letI:Inhabited (kN T s V):=⟨a0⟩
 have hg':w.heap[g]? = some (.cells cur e (0,0)):=hg
 have hgl:g < w.heap.size:=(Array.getElem?_eq_some_iff.1 hg').1
 have hgV:V g = none:=(hx3 g (by rw [hS]; simp)).1
 have hgb:cx.w0.heap.size ≤ g:=(hx3 g (by rw [hS]; simp)).2.1
 have hfl:(Go.Sort.flatK kN.cs s d.toArray).toList = aT xs:=by rw [yT]; simp [hd2]
 have hfs:(Go.Sort.flatK kN.cs s d.toArray).size = (l.map T).length * s:=by simp [hdl]
 have hH0 : Go.Sort.HoldsK kN.cs s w g 0 d.toArray := by
  intro j hj
  rw [hfs] at hj
  have hjc : j < cur.size := by
   rw [hcs]; exact Nat.lt_of_lt_of_le hj (Nat.mul_le_mul_right _ hle)
  refine ⟨?_,by simp [World.frozen?,hg']⟩
  rw [cM hg',Nat.zero_add]
  have h1 : (aT xs)[j]? = cur[j]? := by
   rw [← htake,List.getElem?_take,if_pos hj,Array.getElem?_toList]
  rw [← h1,← hfl,Array.getElem?_toList]
  have hj2:j < (Go.Sort.flatK kN.cs s d.toArray).size:=by rw [hfs]; exact hj
  rw [getElem!_pos _ j hj2]; simp [hj2]
 have hon : ∀ (m : Nat) (os : Array Obj) (dk : Array (kN T s V)) (b : Nat) (o : Obj), V b = some o → (sortWorldK kN.cs s w g 0 m dk os).heap[b]? = some o := fun m os dk b o hb => by
  rw [uI _ _ _ _ _ _ _ ((Array.getElem?_eq_some_iff.1 (hinv.on b o hb)).1) (fun e=>by rw [e,hgV] at hb; cases hb)]
  exact hinv.on b o hb
 have hcmp : CmpLays P fid caps.toArray kN.cs s (fun a b : kN T s V => cf a.x b.x) g 0 d.toArray.size w := fun m os dk hdk a b => by
  have h:=hcl (a.x,b.x) [a.val,b.val] V (sortWorldK kN.cs s w g 0 m dk os) (iT.refl V) (hon m os dk) ⟨a.ok,b.ok,trivial⟩
  have e1:(#[.agg a.cs.toArray,.agg b.cs.toArray] ++ caps.toArray:Array Value) = ([a.val,b.val] ++ caps).toArray:=by simp [kN.val]
  rw [e1]
  refine h.mono ?_
  rintro e' w' ⟨u,V',rfl,_,_,_,hb,hu⟩
  exact ⟨congrArg _ hu,yB hb⟩
 have hO':Go.Sort.SWO (Go.Proofs.ltOf fun a b:kN T s V=>cf a.x b.x):=⟨fun a=>hO.irrefl a.x,fun a b c=>hO.trans a.x b.x c.x,fun a b c=>hO.ntrans a.x b.x c.x⟩
 have hmain:=AnyQ.slices_SortFunc L s aE zE kN.cs (fun a=>a.len) (fun a u hu=>vS (a.plain u hu)) (fun a b:kN T s V=>cf a.x b.x) hO' fid caps.toArray g 0 cap d.toArray w hen hcmp hH0 hgl (by simpa [hdl] using hlen)
 rw [show d.toArray.size = (l.map T).length by simp [hdl]] at hmain
 refine hmain.mono ?_
 rintro e' w' ⟨h1,d',m,os,hp,hso,rfl⟩
 have hsz:d'.size = d.length:=by rw [hp.1]; simp
 have hperm : d'.toList.Perm d := by
  have:=hp.2.2
  rw [Array.extract_eq_self_of_le (by rw [hsz,List.length_map]; omega),Array.extract_eq_self_of_le (by simp [hdl])] at this
  simpa using this
 refine ⟨h1,d'.toList.map kN.x,by rw [← hd1]; exact hperm.map _,?_,?_⟩
 ·rw [List.pairwise_map, List.pairwise_iff_getElem]
  intro i j hi hj hij
  have:=hso i j (Nat.zero_le _) hij (by simp at hj; rw [List.length_map,← hdl]; omega)
  rw [getElem!_pos d' j (by simpa using hj),getElem!_pos d' i (by simpa using hi)] at this
  simpa [Go.Proofs.ltOf] using this
 ·have hB := Fv kN.cs s w g m d' os hg'
  have hfl':=yT d'
  have hfs':(Go.Sort.flatK kN.cs s d').size = (l.map T).length * s:=by simp [hsz,hdl]
  obtain ⟨k1,k2⟩:=uZ (Go.Sort.flatK kN.cs s d') cur (by rw [hfs',hcs]; exact Nat.mul_le_mul_right _ hle)
  have hlen':((d'.toList.map kN.x).map T).length = (l.map T).length:=by simp [hsz,hdl]
  refine hinv.upd' hH (by rw [show (sortWorldK kN.cs s w g 0 m d' os).heap.size = _ from rfl]; simp [sortWorldK,Go.Sort.grow,Go.Sort.putRowK]) rfl rfl ⟨rfl,Nat.le_add_right _ _⟩ (fun S hS' _=>?_)
  obtain ⟨xs',_,hx2'⟩:=hS'
  rcases hx2' with ⟨h0,_⟩ | ⟨g',cap',cur',e1,rfl,_⟩
  ·cases h0
  simp at e1; obtain ⟨rfl,rfl⟩:=e1
  refine ⟨[g],fun b hb=>.inl hb,fun b hb hlt=>uI _ _ _ _ _ _ _ hlt (by simpa using hb),d'.toList.map kN.val,?_,.inr ⟨g,cap,_,by rw [hlen'],rfl,hB,by rw [hlen']; exact hle,hcm,by rw [k1,hcs],?_⟩⟩
  ·have := Il d'.toList
   rwa [show d'.toList.map (fun a=>T a.x) = (d'.toList.map kN.x).map T by rw [List.map_map]; rfl] at this
  ·rw [hlen',← hfs',k2,hfl']
theorem Qv {ρ : Go.Shelf.Ren} {f : FuncId} (L : Go.Proofs.SlLaysF0.n6 P ρ) (hf : ρ.f 6 = f) {γ : Type} {T : γ → Ty} {s e i dd : Nat} {v : Value} {l : List γ} {cf : γ → γ → Int} {x y : Operand} {tys : Array TypeId} {t' : TypeId}
  (hag:∀ x v V,(T x).p v V → ∃ cs,v = .agg cs) (aE:∀ w,(isAgg (ρ.t 24)).run P w = .ok true w) (zE:∀ w,(sizeOf (ρ.t 24)).run P w = .ok s w) (hO:Go.Sort.SWO (Go.Proofs.ltOf cf))
  (hc:∀ args w,(callFunc f args).run P w = .ok (.enter f args) w) (hx:aN E x (Is v)) (hy:aN E y (xT P (γ × γ) (fun p=>[T p.1,T p.2]) (fun p=>aC .i64 (cf p.1 p.2))))
  (hH:H[i]? = some (bA e s v (l.map T))) (hlen:l.length < 4611686018427387904) (hn:Nat.blt dd n = true)
  (h:∀ l':List γ,l'.Perm l → l'.Pairwise (fun a b=>Go.Proofs.ltOf cf b a = false) → Rg P R cx n ops rest k ((dd,jV) :: E) (H.set i (bA e s v (l'.map T)))) :
  Rg P R cx n ops (⟨some dd,.call ⟨.value (.func f),#[x,y],tys⟩,t',pos,af,none⟩ :: rest) k E H:=by
 intro a w ⟨V,hinv,hs⟩
 unfold wpList
 rw [if_pos (by simp [Region.wanted])]
 left
 have ex:a.eval x = v:=hx n V a hs
 have ey:=hy n V a hs
 have hrun : (execOp a.eval ⟨some dd, .call ⟨.value (.func f), #[x, y], tys⟩, t', pos, af, none⟩).run P w = .ok (.enter f #[v, a.eval y]) w := by
  simp [execOp,resolve,Deferred.ofValue,invoke,hc,ex,show a.eval (.func f) = .func (.func f) #[] #[] from rfl]
 simp only [Oper.wp,hrun,Oper.upon_enter]
 subst hf
 refine (Kx L hag aE zE hO hinv ey hH hlen).mono ?_
 rintro e' w' ⟨rfl,l',h1,h2,h3⟩
 exact h l' h1 h2 _ _ ⟨V,h3,hs.put (aK hn) trivial⟩
end
end
section
open Go Go.RowKit
def Fu:Go.Shelf.Ren:=⟨fun | 6=>173 | 15=>233 | 14=>232 | 28=>275 | 29=>276 | 20=>267 | 21=>268 | 22=>269 | 23=>270 | 24=>271 | 25=>272 | 26=>273 | 27=>274 | 46=>293 | 47=>294 | 48=>295 | 49=>296 | 50=>297 | 57=>300 | n=>n,fun | 22=>151 | 24=>158 | 25=>259 | 3=>3 | 39=>275 | 0=>0 | 53=>24 | 55=>274 | 4=>4 | 46=>330 | 45=>329 | 50=>228 | 5=>5 | 9=>9 | 66=>350 | 70=>354 | 76=>361 | 77=>326 | n=>n,fun | n=>n⟩
theorem Vt : Go.Proofs.SlLaysF0.n6 Tryz.prog Fu := {
 mixed:=by kernel_rfl
 f6:=⟨Tryz.f173.name,by decide,Tryz.func173.trans (congrArg some (by kernel_rfl))⟩
 f14:=⟨Tryz.f232.name,by decide,Tryz.func232.trans (congrArg some (by kernel_rfl))⟩
 f15:=Tryz.func233.trans (congrArg some (by kernel_rfl))
 f20:=⟨Tryz.f267.name,by decide,Tryz.func267.trans (congrArg some (by kernel_rfl))⟩
 f21:=⟨Tryz.f268.name,by decide,Tryz.func268.trans (congrArg some (by kernel_rfl))⟩
 f22:=⟨Tryz.f269.name,by decide,Tryz.func269.trans (congrArg some (by kernel_rfl))⟩
 f23:=⟨Tryz.f270.name,by decide,Tryz.func270.trans (congrArg some (by kernel_rfl))⟩
 f24:=⟨Tryz.f271.name,by decide,Tryz.func271.trans (congrArg some (by kernel_rfl))⟩
 f25:=⟨Tryz.f272.name,by decide,Tryz.func272.trans (congrArg some (by kernel_rfl))⟩
 f26:=⟨Tryz.f273.name,by decide,Tryz.func273.trans (congrArg some (by kernel_rfl))⟩
 f27:=⟨Tryz.f274.name,by decide,Tryz.func274.trans (congrArg some (by kernel_rfl))⟩
 f28:=Tryz.func275.trans (congrArg some (by kernel_rfl))
 f29:=Tryz.func276.trans (congrArg some (by kernel_rfl))
 f46:=⟨Tryz.f293.name,by decide,Tryz.func293.trans (congrArg some (by kernel_rfl))⟩
 f47:=Tryz.func294.trans (congrArg some (by kernel_rfl))
 f48:=Tryz.func295.trans (congrArg some (by kernel_rfl))
 f49:=⟨Tryz.f296.name,by decide,Tryz.func296.trans (congrArg some (by kernel_rfl))⟩
 f50:=⟨Tryz.f297.name,by decide,Tryz.func297.trans (congrArg some (by kernel_rfl))⟩
 f57:=⟨Tryz.f300.name,by decide,Tryz.func300.trans (congrArg some (by kernel_rfl))⟩
 t0:=Tryz.underlying0
 a0:=Tryz.isAgg0
 z0:=Tryz.sizeOf0
 v0:=Tryz.zeroValue0
 t3:=Tryz.underlying3
 a3:=A_3
 z3:=Z_3
 v3:=Tryz.zeroValue3
 t4:=Tryz.underlying4
 a4:=A_4
 z4:=Z_4
 v4:=Tryz.zeroValue4
 t5:=Tryz.underlying5
 a5:=Tryz.isAgg5
 z5:=Z_5
 v5:=Tryz.zeroValue5
 t9:=Tryz.underlying9
 a9:=Tryz.isAgg9
 z9:=Tryz.sizeOf9
 v9:=Tryz.zeroValue9
 t22:=Tryz.underlying151
 a22:=Tryz.isAgg151
 z22:=Tryz.sizeOf151
 v22:=Tryz.zeroValue151
 t25:=Tryz.underlying259
 a25:=Tryz.isAgg259
 z25:=Tryz.sizeOf259
 v25:=Tryz.zeroValue259
 t39:=Tryz.underlying275
 a39:=Tryz.isAgg275
 z39:=Tryz.sizeOf275
 v39:=Tryz.zeroValue275
 t45:=Tryz.underlying329
 a45:=Tryz.isAgg329
 z45:=Tryz.sizeOf329
 v45:=Tryz.zeroValue329
 t46:=Tryz.underlying330
 a46:=Tryz.isAgg330
 z46:=Tryz.sizeOf330
 v46:=Tryz.zeroValue330
 t50:=Tryz.underlying228
 a50:=Tryz.isAgg228
 z50:=Tryz.sizeOf228
 v50:=Tryz.zeroValue228
 t53:=Tryz.underlying24
 a53:=A_24
 z53:=Z_24
 v53:=O_24
 t55:=Tryz.underlying274
 a55:=Tryz.isAgg274
 z55:=Tryz.sizeOf274
 v55:=Tryz.zeroValue274
 t66:=Tryz.underlying350
 a66:=Tryz.isAgg350
 z66:=Tryz.sizeOf350
 v66:=Tryz.zeroValue350
 t70:=Tryz.underlying354
 a70:=Tryz.isAgg354
 z70:=Tryz.sizeOf354
 v70:=Tryz.zeroValue354
 t76:=Tryz.underlying361
 a76:=Tryz.isAgg361
 z76:=Tryz.sizeOf361
 v76:=Tryz.zeroValue361
 t77:=Tryz.underlying326
 a77:=Tryz.isAgg326
 z77:=Tryz.sizeOf326
 v77:=Tryz.zeroValue326 }
end
section
open Go Go.RowKit
theorem uU {n : Nat} {E : bC} {H : Hp} {d : Option Tmp} {t : TypeId} {pos : String} {af : Array Edge} {g : Option (Nat × Bool)} {x0 x1 x2 : Operand} {T0 T1 T2 T3 T4 T5 T6 : Ty} [s0 : bN T0 1 false] (h0 : aN E x0 T0) [s1 : bN T1 1 false] (h1 : aN E x1 T1) (h2 : aN E x2 (dO [T2, T3, T4, T5, T6])) :
  aF Tryz.prog n E H ⟨d,.build 158 #[(0,x0),(1,x1),(2,x2)],t,pos,af,g⟩ (dO [T0,T1,T2,T3,T4,T5,T6]) :=
 fE (parts := [(0, x0), (1, x1), (2, x2)]) fun a V w hs => by
  have p0:=h0 n V a hs
  generalize e0:a.eval x0 = v0 at p0
  have q0:=(s0.ok v0 V p0).2.2 rfl
  have p1:=h1 n V a hs
  generalize e1:a.eval x1 = v1 at p1
  have q1:=(s1.ok v1 V p1).2.2 rfl
  obtain ⟨v2,e2,c2⟩:=h2 n V a hs
  obtain ⟨c2_0,c2_1,c2_2,c2_3,c2_4,rfl⟩:∃ c2_0 c2_1 c2_2 c2_3 c2_4,v2 = [c2_0,c2_1,c2_2,c2_3,c2_4]:=Qj (by simpa using c2.length)
  refine ⟨.agg #[v0,v1,c2_0,c2_1,c2_2,c2_3,c2_4],?_,[v0,v1,c2_0,c2_1,c2_2,c2_3,c2_4],rfl,aW (⟨p0,q0⟩) (aW (⟨p1,q1⟩) (aW (c2.at (i:=0) rfl rfl) (aW (c2.at (i:=1) rfl rfl) (aW (c2.at (i:=2) rfl rfl) (aW (c2.at (i:=3) rfl rfl) (aW (c2.at (i:=4) rfl rfl) (aG)))))))⟩
  simp [e0,e1,e2,Instr.build,Instr.fill,Sem.run_bind,Result.andThen,dM,q0.cells,q1.cells,O_158,U_158,Z_3,Z_32]
theorem jE (a:Addr) (w:World):(Instr.fieldAt 158 (.pointer (some a)) 0).run Tryz.prog w = .ok (.pointer (some (a.add 0))) w:=by
 simp [Instr.fieldAt,Instr.sureAddr,fieldPlace,Sem.run_bind,Result.andThen,U_158,Z_3]
theorem lH (a:Addr) (w:World):(Instr.fieldAt 158 (.pointer (some a)) 1).run Tryz.prog w = .ok (.pointer (some (a.add 1))) w:=by
 simp [Instr.fieldAt,Instr.sureAddr,fieldPlace,Sem.run_bind,Result.andThen,U_158,Z_3]
theorem mV (a:Addr) (w:World):(Instr.fieldAt 158 (.pointer (some a)) 2).run Tryz.prog w = .ok (.pointer (some (a.add 2))) w:=by
 simp [Instr.fieldAt,Instr.sureAddr,fieldPlace,Sem.run_bind,Result.andThen,U_158,Z_32]
theorem Iw:Tryz.prog.info? 158 = some Tryz.t158:=by kernel_rfl
theorem Po:Tryz.prog.underlying 151 = some (.slice 158):=by kernel_rfl
end
end Go.Proofs.YthcmlodgnfekeaaGreat
