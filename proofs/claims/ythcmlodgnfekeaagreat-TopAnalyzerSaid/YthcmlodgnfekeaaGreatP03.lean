/- What functions of the program compute, proved by walks over their code, and the plain mathematics of it; a part of the proof in the last text. -/
import Derived.Test.YthcmlodgnfekeaaGreatP02
set_option linter.unusedVariables false
set_option linter.unusedSimpArgs false
set_option maxRecDepth 100000
set_option maxHeartbeats 4000000
namespace Go.Proofs.YthcmlodgnfekeaaGreat
section
open Go Go.RowKit
theorem Uo {v:Nat} (hv:v < 4294967296):bA Tryz.prog 275 [cP v] (NT .i64 (bl v)):=by
 refine bA.intro Tryz.func275 rfl Tryz.ntmps275 rfl (fun cx=>(ts (ro rfl (cQ (cJ 0)) (eX (cK (sK (fun (q:Nat) (x:Nat)=>bl v = q + bl x ∧ x < 65536 ∧ q ≤ 16) (fun (q:Nat) (x:Nat)=>[(0,cP x),(2,NT .i64 q)]) (fun (q:Nat) (x:Nat)=>[]) ?_ (fun q x ⟨hq1,hq2,hq3⟩=>?_)))))))
 ·refine ts (rm rfl (ro rfl (tJ (Ht rfl) (cJ 65536)) (eX (dQ (Ht rfl) (fun hb => ?_) (fun hb => ?_)))))
  ·simp at hb
   refine ts (rm rfl (ro rfl (iG (Ht rfl) (cJ 16) (by decide)) (ra rfl (eX (cY (ro rfl (cQ (cJ 16)) (eX (bT (16,v / 2 ^ 16) ⟨a22 hb,by dsimp only; omega,Nat.le_refl _⟩ (zS rfl) aY))))))))
  ·simp at hb
   refine cU (bT (0,v) ⟨(Nat.zero_add _).symm,hb,by dsimp only; omega⟩ (zS rfl) aY)
 ·refine cK (sK (fun (r : Nat) (z : Nat) => bl v = r + bl z ∧ z < 256 ∧ r ≤ 24) (fun (r : Nat) (z : Nat) => [(0, cP z), (2, NT .i64 r)]) (fun (r : Nat) (z : Nat) => []) ?_ (fun r z ⟨hr1, hr2, hr3⟩ => ?_))
  ·refine ts (rm rfl (ro rfl (tJ (Ht rfl) (cJ 256)) (eX (dQ (Ht rfl) (fun hb => ?_) (fun hb => ?_)))))
   ·simp at hb
    refine ts (rm rfl (ro rfl (iG (Ht rfl) (cJ 8) (by decide)) (ra rfl (eX (cY (rm rfl (ro rfl (dW (Ht rfl) (cJ 8) z6) (ra rfl (eX (bT (q + 8,x / 2 ^ 8) ⟨by have:=bl8 hb; dsimp only; omega,by dsimp only; omega,by dsimp only; omega⟩ (zS rfl) aY))))))))))
   ·simp at hb
    refine cU (bT (q,x) ⟨hq1,hb,by dsimp only; omega⟩ (zS rfl) aY)
  ·have hbl := pJ (k := 8) hr2
   refine ts (rm rfl (rm rfl (ro rfl (gV U_24 U_5 (Ht rfl) (by show _ < 256; first | omega | (simp only [lQ]; omega))) (ro rfl (Xf Tryz.runUnderlying9 cV (Ht rfl) (a2a hr2 (by kernel_rfl))) (ro rfl (gV U_5 U_3 (Ht rfl) z6) (ro rfl (dW (Ht rfl) (Ht rfl) z6) (ra rfl (eX (fG rfl (fZ (eU rfl) ?_))))))))))
   exact (mE zo)
theorem a0b {v:Nat} (hv:v < 4294967296):bA Tryz.prog 251 [cP v] (NT .i64 (32 - bl v)):=by
 refine bA.intro Tryz.func251 rfl Tryz.ntmps251 rfl (fun cx=>(ts (ro rfl (cQ (cJ 0)) (eX (ts (rm rfl (ro rfl (cZ Tryz.call275 (Uo hv) ⟨(Ht rfl),trivial⟩) (ro rfl (dG (cJ 32) (Ht rfl) (pJ hv) z6) (ra rfl (eX ?_))))))))))
 exact fG rfl (eU rfl)
theorem Ui {hi lo y:Nat} (hy:hi < y) (hl:lo < BB) (hyb:y < BB):bA Tryz.prog 285 [cP hi,cP lo,cP y] (fB [cP ((hi * BB + lo) / y),cP ((hi * BB + lo) % y)]):=by
 have hq:=Nc hy hl; have hm:=Nat.mod_lt (hi * BB + lo) (by omega:y > 0); have hz:hi * BB + lo < 18446744073709551616:=by simp only [BB] at *; omega
 have hsh : hi * 2 ^ 32 < 18446744073709551616 := by
  have h1:hi < BB:=by omega
  show hi * BB < _
  simp only [BB] at h1 ⊢; omega
 refine bA.intro Tryz.func285 rfl Tryz.ntmps285 rfl (fun cx=>(ts (ro rfl (cQ (cJ 0)) (ro rfl (cQ (cJ 0)) (eX (cK (ts (rm rfl (ro rfl (fR (Ht rfl) (cJ 0)) (rm rfl (fQ rfl rfl (eK rfl rfl (Ht rfl) (fun h=>cX (Ht rfl))) (fQ rfl rfl (eK rfl rfl (Ht rfl) (fun h=>cX (Ht rfl))) (fQ rfl rfl (eK rfl rfl (Ht rfl) (fun h=>tK (fV rfl h) (fV rfl h))) (ro rfl (gA (Ht rfl) (fun h=>(fV rfl h))) (eX (cL (Ht rfl) (by simp; omega) ?_))))))))))))))))
 have hl2:lo < 18446744073709551616:=by simp only [BB] at hl; omega
 have hy2:y < 18446744073709551616:=by simp only [BB] at hyb; omega
 refine cU (ts (rm rfl (ro rfl (gV U_24 U_274 (Ht rfl) (by show _ < 18446744073709551616; simp only [BB] at *; omega)) (ro rfl (tN (Ht rfl) (cJ 32) (by decide) hsh) (rm rfl (ro rfl (gV U_24 U_274 (Ht rfl) (by show _ < 18446744073709551616; simp only [BB] at *; omega)) (ro rfl (aM.nat (uR rfl (Ht rfl) (Ht rfl) z7 z7) (Cy hl)) (ra rfl (eX (cK ?_))))))))))
 refine fJ (m:=11) (dp 8 rfl (cX (Ht rfl)) (dp 2 rfl (cX (Ht rfl)) (dq 24 1 rfl (gV U_24 U_274 (Ht rfl) (by show _ < 18446744073709551616; simp only [BB] at *; omega)) (eD 23 0 25 2 rfl (tL (Ht rfl) (Ht rfl) zo (by show _ < 18446744073709551616; exact hz)) (dq 26 3 rfl (gV U_274 U_24 (Ht rfl) (by show _ < 4294967296; exact hq)) (dp 8 rfl (cX (Ht rfl)) (dp 2 rfl (cX (Ht rfl)) (dq 29 6 rfl (gV U_24 U_274 (Ht rfl) (by show _ < 18446744073709551616; simp only [BB] at *; omega)) ?_))))))))
 refine eD 28 5 30 7 rfl (qY (Ht rfl) (Ht rfl) zo) (dq 31 8 rfl (gV U_274 U_24 (Ht rfl) (by show _ < 4294967296; simp only [BB] at *; omega)) (dq 27 4 rfl (cQ (Ht rfl)) (fW aT rfl (by kernel_rfl) (zF (zF (aJ (aJ (aJ (aV (ra rfl (eX ?_)))))))))))
 exact cT rfl (eU rfl) (eU rfl)
theorem Yt {m k:Nat} (hm:(dg m).length ≤ 17592186044416) (hk:k ≤ 562949953421312):bA Tryz.prog 206 [aL m,NT .i64 k] (aL (m * 2 ^ k)):=by
 refine bA.intro Tryz.func206 rfl Tryz.ntmps206 rfl (fun cx=>(ts (ro rfl (cQ cV) (eX (cK (ts (rm rfl (ro rfl (dK U_28 (Ht rfl) aC) (ro rfl (dN (Ht rfl) (cJ 0)) (rm rfl (fQ rfl rfl (eK rfl rfl (Ht rfl) (fun h=>cX (Ht rfl))) (fQ rfl rfl (eK rfl rfl (Ht rfl) (fun h=>dN (fV rfl h) (cJ 0))) (ro rfl (iF (Ht rfl) (fun h=>(fV rfl h))) (eX (dQ (Ht rfl) (fun hb=>?_) (fun hb=>?_))))))))))))))))
 ·simp [bD] at hb
  have h0 : m * 2 ^ k = m := by
   rcases hb with h | h
   ·simp_all [uM]
   ·rw [h,Nat.pow_zero,Nat.mul_one]
  refine ts (rm rfl (ra rfl (eX (fG rfl (fZ (eU rfl) ?_)))))
  exact (gF h0.symm)
 ·clear hb
  have hr:=Nat.mod_lt k (by decide:32 > 0)
  refine cU (ts (rm rfl (ro rfl (tL (Ht rfl) (cJ 32) zo z6) (rm rfl (ro rfl (qY (Ht rfl) (cJ 32) zo) (ro rfl (gV U_3 U_275 (Ht rfl) z7) (ra rfl (ra rfl (eX (ts (rm rfl (ro rfl (dK U_28 (Ht rfl) aC) (rm rfl (ro rfl (dW (Ht rfl) (Ht rfl) z6) (ro rfl (dW (Ht rfl) (cJ 1) z6) ?_)))))))))))))))
  refine rn rfl (gN (T:=cP 0) (i:=Tryz.t24) V_28 nQ rfl rfl (Ht rfl) rfl (fun _=>rfl) trivial (by show 4 * _ ≤ _; omega) zo) fun B29=>ra rfl (eX (cK (ts (rm rfl (ro rfl (dK U_28 (Ht rfl) aC) (ro rfl (cX (cJ 0)) (eX (eG ?_))))))))
  refine gO (fun (i : Nat) (out : List Nat) => Bp (dg m) (k / 32) (k % 32) out i) (fun (i : Nat) (out : List Nat) => (dg m).length - i) (fun (i : Nat) (out : List Nat) => [(5, NT .i64 (k / 32)), (6, NT .u64 (k % 32)), (7, Is (.slice (some ⟨B29, 0, none⟩) ((dg m).length + k / 32 + 1) ((dg m).length + k / 32 + 1))), (30, aL m), (31, NT .i64 (dg m).length), (32, NT .i64 i)]) (fun (i : Nat) (out : List Nat) => [box B29 24 (out.map cP)]) 0 (List.replicate ((dg m).length + k / 32 + 1) 0) (Bp.start _ _ _)
   (zS rfl) (aU (aP (oZ _)) aY) (fun i out hS=>?_)
  refine ts (ro rfl (gJ (Ht rfl) (Ht rfl)) (eX (cK (dQ (Ht rfl) (fun hb=>?_) (fun hb=>?_)))))
  ·simp at hb
   have hlen:=hS.len; have hxi:=bH (cO m) i; have hok:=bH hS.dig (i + k / 32)
   have hv:=Nb hxi hr
   have hd:(dg m).getD i 0 * 2 ^ (k % 32) / 2 ^ 32 < 4294967296:=Nat.div_lt_of_lt_mul hv
   simp only [BB] at hxi hok
   refine cU (cK (eG (ts (rm rfl (ro rfl (dZ U_28 Z_24 (Ht rfl) (Ht rfl) rfl (eQ (bM zo))) (ro rfl (dV A_24 Z_24 (Ht rfl)) (ra rfl (ra rfl (eX (ts (rm rfl (ro rfl (gV U_24 U_274 (Ht rfl) z7) (rm rfl (ro rfl (tN (Ht rfl) (Ht rfl) (by show _ ≤ _; simp [IntKind.bits]; omega) (by show _ < 18446744073709551616; exact hv)) (ra rfl (eX (ts (rm rfl (rm rfl (rm rfl (ro rfl (dW (Ht rfl) (Ht rfl) z6) ?_)))))))))))))))))))))
   refine ro rfl (gX U_28 Z_24 (Ht rfl) (Ht rfl) rfl zo (by rw [Nat.mul_one,Nat.zero_add])) ?_
   refine ro rfl (eY A_24 Z_24 (Ht rfl) (i:=0) rfl (eQ (bM zo))) (rm rfl (ro rfl (jI rfl U_274 U_24 (Ht rfl)) (ro rfl (uR rfl (Ht rfl) (Ht rfl) (by show _ < 4294967296; omega) (by show _ % 4294967296 < 4294967296; omega)) (ro rfl (gX U_28 Z_24 (Ht rfl) (Ht rfl) rfl zo (by rw [Nat.mul_one,Nat.zero_add])) ?_))))
   refine jL Z_24 (Ht rfl) (Ht rfl) (i:=0) rfl (by first | omega | (simp; omega)) rfl (eX (cY (rm rfl (rm rfl (rm rfl (ro rfl (dW (Ht rfl) (Ht rfl) z6) (ro rfl (dW (Ht rfl) (cJ 1) z6) (rm rfl (ro rfl (iG (Ht rfl) (cJ 32) (by decide)) (ro rfl (gV U_274 U_24 (Ht rfl) (by show _ < 4294967296; exact hd)) (ro rfl (gX U_28 Z_24 (Ht rfl) (Ht rfl) rfl zo (by rw [Nat.mul_one,Nat.zero_add])) ?_)))))))))))
   refine jL Z_24 (Ht rfl) (Ht rfl) (i:=0) rfl (by first | omega | (simp; omega)) rfl (eX (cF (cY (ro rfl (dW (Ht rfl) (cJ 1) z6) (rm rfl (eX (gQ (i + 1,_) (hS.next (cO m) hr hb rfl rfl) (by dsimp only; omega) (zS rfl) (aU (aP (Sc _ _ _ _ _)) aY))))))))
  ·simp at hb
   have hkl:i = (dg m).length:=Nat.le_antisymm hS.kle hb
   subst hkl
   have hlen:=hS.len
   have hfin:=hS.fin
   rw [eR,qG] at hfin
   refine gG rfl (gW (i:=0) (tt:=7) rfl rfl (pR rfl hlen.symm (Nat.le_refl _)) (ts (rm rfl (ro rfl (cZ K_203 (oN _ hS.dig zo) ⟨(Ht rfl),trivial⟩) (ra rfl (eX (fG rfl (fZ (eU rfl) ?_))))))))
   exact (gF hfin)
theorem a1v {m k:Nat} (hm:(dg m).length ≤ 17592186044416) (hk:k ≤ 562949953421312):bA Tryz.prog 253 [aL m,NT .i64 k] (aL (m / 2 ^ k)):=by
 refine bA.intro Tryz.func253 rfl Tryz.ntmps253 rfl (fun cx=>?_)
 have hr:=Nat.mod_lt k (by decide:32 > 0)
 refine ts (ro rfl (cQ cV) (eX (ts (rm rfl (ro rfl (tL (Ht rfl) (cJ 32) zo z6) (rm rfl (ro rfl (qY (Ht rfl) (cJ 32) zo) (ro rfl (gV U_3 U_275 (Ht rfl) z7) (ra rfl (ra rfl (eX (cK (ts (rm rfl (rm rfl (ro rfl (dK U_28 (Ht rfl) aC) (ro rfl (tJ (Ht rfl) (Ht rfl)) (eX (dQ (Ht rfl) (fun hb=>?_) (fun hb=>?_))))))))))))))))))))
 ·simp at hb
  have h0:=Sg (cO m) hb (r:=k % 32)
  rw [eR,qG] at h0
  refine ts (ro rfl (cQ cV) (eX (fG rfl (fZ (eU rfl) ?_))))
  exact (fun v V h=>gF h0.symm v V (lU v V h))
 ·simp at hb
  refine cU (ts (rm rfl (ro rfl (dK U_28 (Ht rfl) aC) (rm rfl (ro rfl (dG (Ht rfl) (Ht rfl) zo z6) (rn rfl (gN (T:=cP 0) (i:=Tryz.t24) V_28 nQ rfl rfl (Ht rfl) rfl (fun _=>rfl) trivial (by show 4 * _ ≤ _; omega) zo) fun B23=>(ra rfl (eX (cK (ts (rm rfl (ro rfl (iK U_28 (Ht rfl)) (ro rfl (cX (cJ 0)) (eX (eG ?_)))))))))))))))
  refine gO (fun (i : Nat) (out : List Nat) => Bq (dg m) (k / 32) (k % 32) out i) (fun (i : Nat) (out : List Nat) => (dg m).length - i) (fun (i : Nat) (out : List Nat) => [(0, aL m), (5, NT .i64 (k / 32)), (6, NT .u64 (k % 32)), (7, Is (.slice (some ⟨B23, 0, none⟩) ((dg m).length - k / 32) ((dg m).length - k / 32))), (25, NT .i64 ((dg m).length - k / 32 : Nat)), (26, NT .i64 i)]) (fun (i : Nat) (out : List Nat) => [box B23 24 (out.map cP)]) 0 (List.replicate ((dg m).length - k / 32) 0) (Bq.start _ _ _)
   (zS rfl) (aU (aP (oZ _)) aY) (fun i out hS=>?_)
  refine ts (ro rfl (gJ (Ht rfl) (Ht rfl)) (eX (cK (dQ (Ht rfl) (fun hb=>?_) (fun hb=>?_)))))
  ·simp at hb
   have hlen:=hS.len; have hx0:=bH (cO m) (i + k / 32); have hx1:=bH (cO m) (i + k / 32 + 1)
   have hio:i < out.length:=by omega
   simp only [BB] at hx0 hx1
   refine cU (cK (eG (ts (rm rfl (ra rfl (eX (ts (rm rfl (rm rfl (rm rfl (ro rfl (dW (Ht rfl) (Ht rfl) z6) (ro rfl (dZ U_28 Z_24 (Ht rfl) (Ht rfl) rfl (eQ (bM zo))) (ro rfl (dV A_24 Z_24 (Ht rfl)) (ro rfl (gV U_24 U_274 (Ht rfl) z7) (ra rfl (eX (cK (kX (fun (v:Nat)=>v = (dg m).getD (i + k / 32) 0 + BB * (dg m).getD (i + k / 32 + 1) 0) (fun (v:Nat)=>[(0,aL m),(5,NT .i64 (k / 32)),(6,NT .u64 (k % 32)),(7,Is (.slice (some ⟨B23,0,none⟩) ((dg m).length - k / 32) ((dg m).length - k / 32))),(8,NT .i64 i),(9,NT .u64 v),(25,NT .i64 ((dg m).length - k / 32:Nat)),(26,NT .i64 i)]) (fun (v:Nat)=>[box B23 24 (out.map cP)]) ?_ (fun v hv=>?_)))))))))))))))))))
   ·refine ts (rm rfl (rm rfl (ro rfl (dW (Ht rfl) (Ht rfl) z6) (ro rfl (dW (Ht rfl) (cJ 1) z6) (rm rfl (ro rfl (dK U_28 (Ht rfl) aC) (ro rfl (gJ (Ht rfl) (Ht rfl)) (eX (dQ (Ht rfl) (fun hk2 => ?_) (fun hk2 => ?_))))))))))
    ·simp at hk2
     refine cY (rm rfl (rm rfl (rm rfl (rm rfl (ro rfl (dW (Ht rfl) (Ht rfl) z6) (ro rfl (dW (Ht rfl) (cJ 1) z6) (ro rfl (dZ U_28 Z_24 (Ht rfl) (Ht rfl) rfl (eQ (bM zo))) (ro rfl (dV A_24 Z_24 (Ht rfl)) (ro rfl (gV U_24 U_274 (Ht rfl) z7) (ro rfl (tN (Ht rfl) (cJ 32) (by decide) (by show _ < 18446744073709551616; omega)) ?_))))))))))
     refine ro rfl (aM.nat (uR rfl (Ht rfl) (Ht rfl) z7 z7) (Xi hx0)) (ra rfl (eX (bT ((dg m).getD (i + k / 32) 0 + BB * (dg m).getD (i + k / 32 + 1) 0) rfl (zS rfl) (eS.refl _))))
    ·simp at hk2
     refine cU (bT ((dg m).getD (i + k / 32) 0) (by simp [List.getD,List.getElem?_eq_none hk2]) (zS rfl) (eS.refl _))
   ·refine cY (rm rfl (rm rfl (rm rfl (rm rfl (ro rfl (iG (Ht rfl) (Ht rfl) (by show _ ≤ 64; omega)) (ro rfl (jI rfl U_274 U_24 (Ht rfl)) (ro rfl (gX U_28 Z_24 (Ht rfl) (Ht rfl) rfl zo (by rw [Nat.mul_one, Nat.zero_add])) ?_)))))))
    refine jL Z_24 (Ht rfl) (Ht rfl) (i:=0) rfl (by first | omega | (simp; omega)) rfl (eX (cF (cY (ro rfl (dW (Ht rfl) (cJ 1) z6) (rm rfl (eX (gQ (i + 1,_) (hS.next (cO m) hr hio (by rw [hv]; rfl)) (by dsimp only; omega) (zS rfl) (aU (aP (jD _ _ _)) aY))))))))
  ·simp at hb
   have hlen:=hS.len
   have hkl:i = out.length:=Nat.le_antisymm hS.kle zo
   subst hkl
   have hfin:=hS.fin (cO m) zo
   rw [eR,qG] at hfin
   refine gG rfl (gW (i:=0) (tt:=7) rfl rfl (pR rfl hlen.symm (Nat.le_refl _)) (ts (rm rfl (ro rfl (cZ K_203 (oN _ hS.dig zo) ⟨(Ht rfl),trivial⟩) (ra rfl (eX (fG rfl (fZ (eU rfl) ?_))))))))
   exact (gF hfin)
theorem Jp {m y:Nat} (hm:(dg m).length ≤ 17592186044416) (hy:0 < y) (hyb:y < BB):bA Tryz.prog 250 [aL m,cP y] (fB [aL (m / y),cP (m % y)]):=by
 refine bA.intro Tryz.func250 rfl Tryz.ntmps250 rfl (fun cx=>(ts (ro rfl (cQ cV) (ro rfl (cQ (cJ 0)) (eX (ts (rm rfl (ro rfl (dK U_28 (Ht rfl) aC) (rn rfl (gN (T:=cP 0) (i:=Tryz.t24) V_28 nQ rfl rfl (Ht rfl) rfl (fun _=>rfl) trivial (by show 4 * _ ≤ _; omega) zo) fun B11=>(ra rfl (eX (ts (ro rfl (cQ (cJ 0)) (eX (cK (ts (rm rfl (ro rfl (dK U_28 (Ht rfl) aC) (ro rfl (jU (Ht rfl) cV (Ip zo)) (ra rfl (eX (eG ?_))))))))))))))))))))))
 refine mF (fun (k : Nat) (out : List Nat) (r : Nat) => oL (dg m) y out k r) (fun (k : Nat) (out : List Nat) (r : Nat) => k) (fun (k : Nat) (out : List Nat) (r : Nat) => [(0, aL m), (1, cP y), (6, Is (.slice (some ⟨B11, 0, none⟩) (dg m).length (dg m).length)), (7, cP r), (8, aF .i64 ((k : Int) - 1))]) (fun (k : Nat) (out : List Nat) (r : Nat) => [box B11 24 (out.map cP)]) (dg m).length (List.replicate (dg m).length 0) 0 (oL.start _ hy)
  (zS rfl) (aU (aP (oZ _)) aY) (fun k out r hS=>?_)
 refine cK (ts (rm rfl (ro rfl (nF (Ht rfl) cV) (eX (dQ (Ht rfl) (fun hb=>?_) (fun hb=>?_))))))
 ·simp at hb
  have hlen:=hS.len; have hkl:=hS.kle
  refine cU (cK (eG (cY (rm rfl (rm rfl (rm rfl (rm rfl (rm rfl (ro rfl (dZ U_28 Z_24 (Ht rfl) (Ht rfl) (show ((k:Int) - 1) = ((k - 1:Nat):Int) by omega) (eQ (bM zo))) (ro rfl (dV A_24 Z_24 (Ht rfl)) (rm rfl (ro rfl (cZ Tryz.call285 (Ui hS.rlt (bH (cO m) (k - 1)) hyb) ⟨(Ht rfl),(Ht rfl),(Ht rfl),trivial⟩) (rm rfl (ro rfl (dU (Ht rfl) rfl) (ro rfl (dU (Ht rfl) rfl) (ro rfl (gX U_28 Z_24 (Ht rfl) (Ht rfl) (show ((k:Int) - 1) = ((k - 1:Nat):Int) by omega) zo (by rw [Nat.mul_one,Nat.zero_add])) ?_))))))))))))))))
  refine jL Z_24 (Ht rfl) (Ht rfl) (i:=0) rfl (by first | omega | (simp; omega)) rfl (ra rfl (eX (cF (cY (rm rfl (ro rfl (jU (Ht rfl) cV (Ip zo)) (ra rfl (eX (gQ (k - 1,_,_) (hS.next (cO m) zo rfl) (by dsimp only; omega) (aQ rfl (aQ rfl (aQ rfl (aQ rfl (aZ rfl (bR zo) aX))))) (aU (aP (jD _ _ _)) aY))))))))))
 ·simp at hb
  have hk0:k = 0:=by omega
  subst hk0
  have hlen:=hS.len
  have hfin:=hS.fin
  rw [eR] at hfin
  refine gG rfl (gW (i:=0) (tt:=6) rfl rfl (pR rfl hlen.symm (Nat.le_refl _)) (ts (rm rfl (ro rfl (cZ K_203 (oN _ hS.dig zo) ⟨(Ht rfl),trivial⟩) (rm rfl (ra rfl (ra rfl (eX (cT rfl (fZ (eU rfl) ?_) (fZ (eU rfl) ?_))))))))))
  ·exact (gF hfin.1)
  ·exact (mE hfin.2)
end
section
open Go Go.RowKit
theorem a0e {us vs : List Nat} {q j B l : Nat} (hul : us.length = l) (hu : jE us) (hv : jE vs) (hq : q < BB) (hl : j + vs.length < us.length) (hL : us.length ≤ 1152921504606846976) :
    iH Tryz.prog 252 [Is (.slice (some ⟨B,0,none⟩) l l),Do vs,NT .u64 q,NT .i64 j] [box B 24 (us.map cP)] (List Nat × Bool) (fun x=>aD x.2) (fun x=>[box B 24 (x.1.map cP)]) (fun x=>Dw us vs q j x.1 x.2):=by
 refine iH.intro Tryz.func252 rfl Tryz.ntmps252 rfl (fun cx Z=>(ts (ro rfl (cQ cV) (eX (ts (ro rfl (cQ (cJ 0)) (ro rfl (cQ (cJ 0)) (eX (cK (ts (rm rfl (ro rfl (dK U_28 (Ht rfl) aC) (ro rfl (cX (cJ 0)) (eX (eG ?_)))))))))))))))
 refine Bs (fun (i : Nat) (out : List Nat) (c : Nat) (b : Nat) => sL us vs q j out i c b) (fun (i : Nat) (out : List Nat) (c : Nat) (b : Nat) => vs.length - i) (fun (i : Nat) (out : List Nat) (c : Nat) (b : Nat) => [(0, Is (.slice (some ⟨B, 0, none⟩) l l)), (1, Do vs), (2, NT .u64 q), (3, NT .i64 j), (9, NT .u64 c), (10, NT .u64 b), (16, Do vs), (17, NT .i64 vs.length), (18, NT .i64 i)]) (fun (i : Nat) (out : List Nat) (c : Nat) (b : Nat) => [Z, box B 24 (out.map cP)]) 0 us 0 0 (sL.start hu vs q j)
  (zS rfl) (eS.refl _) (fun i out c b hS=>?_)
 refine ts (ro rfl (gJ (Ht rfl) (Ht rfl)) (eX (cK (dQ (Ht rfl) (fun hb=>?_) (fun hb=>?_)))))
 ·simp at hb
  have hlen:=hS.len; have hcl:=hS.clt; have hbl:=hS.ble; have hvi:=bH hv i; have hok:=bH hS.dig (i + j)
  have hp:=Sy hq hvi hS.clt
  simp only [BB] at hp hcl hvi hok
  obtain ⟨p,hp1⟩:∃ p,p = q * vs.getD i 0 + c:=⟨_,rfl⟩
  obtain ⟨x,hx1⟩:∃ x,x = ((out.getD (i + j) 0 + 18446744073709551616 - p % 4294967296) % 18446744073709551616 + 18446744073709551616 - b) % 18446744073709551616:=⟨_,rfl⟩
  refine cU (cK (eG (ts (rm rfl (ro rfl (dZ U_28 Z_24 (Ht rfl) (Ht rfl) rfl (eQ (bM zo))) (ro rfl (dV A_24 Z_24 (Ht rfl)) (ra rfl (ra rfl (eX (ts (rm rfl (rm rfl (ro rfl (gV U_24 U_274 (Ht rfl) z7) (ro rfl (mK (Ht rfl) (Ht rfl) z7) (rm rfl (ro rfl (aM.nat (dW (Ht rfl) (Ht rfl) z7) hp1.symm) ?_))))))))))))))))
  refine ra rfl (eX (ts (rm rfl (ro rfl (iG (Ht rfl) (cJ 32) (by decide)) (ra rfl (eX (ts (rm rfl (rm rfl (rm rfl (ro rfl (dW (Ht rfl) (Ht rfl) z6) (ro rfl (gX U_28 Z_24 (Ht rfl) (Ht rfl) rfl zo (by rw [Nat.mul_one,Nat.zero_add])) ?_))))))))))))
  refine ro rfl (eY A_24 Z_24 (Ht rfl) (i:=1) rfl (eQ (bM zo))) (ro rfl (gV U_24 U_274 (Ht rfl) z7) (rm rfl (ro rfl (jI rfl U_274 U_24 (Ht rfl)) (ro rfl (gV U_24 U_274 (Ht rfl) z7) (ro rfl (qZ rfl (Ht rfl) (Ht rfl) (by show _ ≤ 18446744073709551616; first | omega | (simp only [lQ]; omega))) ?_)))))
  refine rm rfl (ro rfl (aM.nat (qZ rfl (Ht rfl) (Ht rfl) (by show _ ≤ 18446744073709551616; first | omega | (simp only [lQ]; omega))) hx1.symm) (ra rfl (eX (ts (rm rfl (rm rfl (rm rfl (ro rfl (dW (Ht rfl) (Ht rfl) z6) (rm rfl (ro rfl (jI rfl U_274 U_24 (Ht rfl)) (ro rfl (gX U_28 Z_24 (Ht rfl) (Ht rfl) rfl zo (by rw [Nat.mul_one,Nat.zero_add])) ?_)))))))))))
  refine jL Z_24 (Ht rfl) (Ht rfl) (i:=1) rfl (by first | omega | (simp; omega)) rfl (eX (cY (rm rfl (ro rfl (iG (Ht rfl) (cJ 63) (by decide)) (ra rfl (eX (cF (cY (ro rfl (dW (Ht rfl) (cJ 1) z6) (rm rfl (eX (gQ (i + 1,_,_,_) (hS.next hu hv hq hb hl hp1 (Im hok hbl hx1) rfl) (by dsimp only; omega) (zS rfl) (aU (fun _ _ _ h=>h) (aU (aP (jD _ _ _)) aY))))))))))))))
 ·simp at hb
  have hkl:i = vs.length:=Nat.le_antisymm hS.ile hb
  subst hkl
  have hlen:=hS.len; have hcl:=hS.clt; have hbl:=hS.ble; have hok:=bH hS.dig (j + vs.length)
  obtain ⟨x,hx1⟩:∃ x,x = ((out.getD (j + vs.length) 0 + 18446744073709551616 - c) % 18446744073709551616 + 18446744073709551616 - b) % 18446744073709551616:=⟨_,rfl⟩
  have hfin:=hS.fin hl (In hok hcl hbl hx1) rfl
  simp only [BB] at hcl hok
  refine gG rfl (ts (rm rfl (rm rfl (rm rfl (ro rfl (dK U_28 (Ht rfl) aC) (ro rfl (dW (Ht rfl) (Ht rfl) z6) (ro rfl (gX U_28 Z_24 (Ht rfl) (Ht rfl) rfl zo (by rw [Nat.mul_one,Nat.zero_add])) ?_)))))))
  refine ro rfl (eY A_24 Z_24 (Ht rfl) (i:=1) rfl (eQ (bM zo))) (ro rfl (gV U_24 U_274 (Ht rfl) z7) (rm rfl (ro rfl (qZ rfl (Ht rfl) (Ht rfl) (by show _ ≤ 18446744073709551616; first | omega | (simp only [lQ]; omega))) (rm rfl (ro rfl (aM.nat (qZ rfl (Ht rfl) (Ht rfl) (by show _ ≤ 18446744073709551616; first | omega | (simp only [lQ]; omega))) hx1.symm) (ra rfl (eX (ts (rm rfl (rm rfl (rm rfl (ro rfl (dK U_28 (Ht rfl) aC) ?_))))))))))))
  refine ro rfl (dW (Ht rfl) (Ht rfl) z6) (rm rfl (ro rfl (jI rfl U_274 U_24 (Ht rfl)) (ro rfl (gX U_28 Z_24 (Ht rfl) (Ht rfl) rfl zo (by rw [Nat.mul_one,Nat.zero_add])) ?_)))
  refine jL Z_24 (Ht rfl) (Ht rfl) (i:=1) rfl (by first | omega | (simp; omega)) rfl (eX (ts (rm rfl (ro rfl (iG (Ht rfl) (cJ 63) (by decide)) (ro rfl (fR (Ht rfl) (cJ 0)) (ra rfl (eX ?_)))))))
  exact kY (_,_) hfin [0,1] ⟨⟨_,rfl,fun _ _ _ h=>h⟩,⟨_,rfl,(aP (jD _ _ _))⟩,trivial⟩ (by decide) (zX rfl (eU rfl))
theorem Jl {m n:Nat} (hm:(dg m).length ≤ 17592186044415) (hn1:(dg n).length ≤ 17592186044416) (hn:n ≠ 0):bA Tryz.prog 202 [aL m,aL n] (fB [aL (m / n),aL (m % n)]):=by
 refine bA.intro Tryz.func202 rfl Tryz.ntmps202 rfl (fun cx=>(ts (ro rfl (cQ cV) (ro rfl (cQ cV) (eX (cK (ts (rm rfl (rm rfl (ro rfl (cZ Tryz.call129 (Pa zo zo) ⟨(Ht rfl),(Ht rfl),trivial⟩) (ro rfl (sA (Ht rfl) cV) (eX (dQ (Ht rfl) (fun hb=>?_) (fun hb=>?_))))))))))))))
 ·simp only [decide_eq_true_eq] at hb
  have hlt : m < n := by
   unfold rV at hb
   split at hb
   ·assumption
   ·split at hb <;> simp at hb
  refine ts (rm rfl (ro rfl (cQ cV) (ra rfl (eX (cT rfl (fZ (eU rfl) ?_) (fZ (eU rfl) ?_))))))
  ·exact (fun v V h=>gF (Nat.div_eq_of_lt hlt).symm v V (lU v V h))
  ·exact (gF (Nat.mod_eq_of_lt hlt).symm)
 ·simp only [decide_eq_false_iff_not] at hb
  have hle : n ≤ m := by
   unfold rV at hb
   split at hb
   ·simp at hb
   ·omega
  clear hb
  refine cU (cK (ts (rm rfl (ro rfl (dK U_28 (Ht rfl) aC) (ro rfl (dN (Ht rfl) (cJ 1)) (eX (dQ (Ht rfl) (fun h1=>?_) (fun h1=>?_))))))))
  ·simp at h1
   have hy0:=a0h h1
   have hyb:=bH (cO n) 0
   have hmod:=Nat.mod_lt m (show (dg n).getD 0 0 > 0 by omega)
   simp only [BB] at hyb
   refine ts (rm rfl (rm rfl (ro rfl (dZ U_28 Z_24 (Ht rfl) (cJ 0) rfl (eQ (bM zo))) (ro rfl (dV A_24 Z_24 (Ht rfl)) (ro rfl (cZ Tryz.call250 (Jp zo zo hyb) ⟨(Ht rfl),(Ht rfl),trivial⟩) (rm rfl (ro rfl (dU (Ht rfl) rfl) (ro rfl (dU (Ht rfl) rfl) (ra rfl (ra rfl (eX (ts (rm rfl (rm rfl (ro rfl (gV U_24 U_274 (Ht rfl) z7) (ro rfl (cZ Tryz.call207 (By zo) ⟨(Ht rfl),trivial⟩) ?_))))))))))))))))
   refine ra rfl (ra rfl (eX (cT rfl (fZ (eU rfl) ?_) (fZ (eU rfl) ?_))))
   ·exact (gF (by rw [hy0]))
   ·exact (gF (by rw [hy0]))
  ·simp at h1
   have hl0:(dg n).length ≠ 0:=fun e=>hn (bD.1 e)
   have hyb:=bH (cO n) ((dg n).length - 1)
   obtain ⟨s,hs⟩:∃ s,s = 32 - bl ((dg n).getD ((dg n).length - 1) 0):=⟨_,rfl⟩
   obtain ⟨hs1,hvl,hvb⟩:=Pu hn hs
   obtain ⟨hc1,hc2,hc3,hc4⟩:=Pn (m:=m) hs1
   simp only [BB] at hyb
   have hp2:0 < 2 ^ s:=Nat.pow_pos (by decide)
   have hX0:(dg (m * 2 ^ s)).length ≠ 0:=fun e=>(Nat.ne_of_gt (Nat.mul_pos (show 0 < m by omega) hp2)) (bD.1 e)
   have hmono:=jQ hle
   refine cU (ts (rm rfl (ro rfl (dK U_28 (Ht rfl) aC) (rm rfl (rm rfl (ro rfl (dK U_28 (Ht rfl) aC) (ro rfl (dG (Ht rfl) (cJ 1) zo z6) (ro rfl (dZ U_28 Z_24 (Ht rfl) (Ht rfl) rfl (eQ (bM zo))) (ro rfl (dV A_24 Z_24 (Ht rfl)) (ro rfl (aM.nat (cZ Tryz.call251 (a0b zo) ⟨(Ht rfl),trivial⟩) hs.symm) (ra rfl (ra rfl (eX (ts (rm rfl (rm rfl (ro rfl (cZ Tryz.call206 (Yt zo zo) ⟨(Ht rfl),(Ht rfl),trivial⟩) ?_)))))))))))))))))
   refine ra rfl (eX (ts (rm rfl (ro rfl (dK U_28 (Ht rfl) aC) (ro rfl (dW (Ht rfl) (cJ 1) z6) (rn rfl (gN (T:=cP 0) (i:=Tryz.t24) V_28 nQ rfl rfl (Ht rfl) rfl (fun _=>rfl) trivial (by show 4 * _ ≤ _; omega) zo) fun B55=>(ra rfl (eX (ts (rm rfl (rm rfl (rm rfl (ro rfl (cZ Tryz.call206 (Yt zo zo) ⟨(Ht rfl),(Ht rfl),trivial⟩) (Tl U_28 Z_24 (Ht rfl) (Ht rfl) (a0v hX0) a1U (i:=0) rfl (by simp) (by simp; omega) (Po _ _) rfl rfl ?_))))))))))))))
   refine eX (ts (rm rfl (ro rfl (iK U_28 (Ht rfl)) (rm rfl (ro rfl (dG (Ht rfl) (Ht rfl) zo z6) (rn rfl (gN (T:=cP 0) (i:=Tryz.t24) V_28 nQ rfl rfl (Ht rfl) rfl (fun _=>rfl) trivial (by show 4 * _ ≤ _; omega) zo) fun B65=>(ra rfl (eX (cK (ts (rm rfl (ro rfl (iK U_28 (Ht rfl)) (ro rfl (jU (Ht rfl) cV (Ip zo)) (ra rfl (eX (eG ?_))))))))))))))))
   obtain ⟨vs,hvs⟩:∃ vs,vs = dg (n * 2 ^ s):=⟨_,rfl⟩
   rw [← hvs] at hvl hvb
   have hv:jE vs:=hvs ▸ cO _
   have hvv:val vs = n * 2 ^ s:=by rw [hvs,eR]
   have hV0:0 < val vs:=by rw [hvv]; exact Nat.mul_pos zo hp2
   have hnr:=Wp hv zo hvb
   have hv1:=hnr.v1lt; have hv2:=hnr.v2lt; have hbig:=hnr.big
   simp only [BB] at hv1 hv2 hbig
   refine mF (fun (k : Nat) (us : List Nat) (qs : List Nat) => nK (m * 2 ^ s) vs us qs k ∧ us.length = (dg m).length + 1) (fun (k : Nat) (us : List Nat) (qs : List Nat) => k) (fun (k : Nat) (us : List Nat) (qs : List Nat) => [(8, NT .i64 vs.length), (9, NT .i64 s), (10, Do vs), (11, Is (.slice (some ⟨B55, 0, none⟩) ((dg m).length + 1) ((dg m).length + 1))), (12, Is (.slice (some ⟨B65, 0, none⟩) ((dg m).length + 1 - (dg n).length) ((dg m).length + 1 - (dg n).length))), (13, aF .i64 ((k : Int) - 1))]) (fun (k : Nat) (us : List Nat) (qs : List Nat) => [box B55 24 (us.map cP), box B65 24 (qs.map cP)]) ((dg m).length + 1 - (dg n).length) (Ak m s) (List.replicate ((dg m).length + 1 - (dg n).length) 0) ⟨nK.start hv zo hvb hs1 (by have := iP (cO m); rwa [eR] at this) hc3 hc2 hc4 zo, hc2⟩
    (aZ rfl (mE hvl.symm) (aQ rfl (aZ rfl (fun v V h=>by rw [hvs]; exact h) (aQ rfl (aQ rfl (aZ rfl (bR zo) aX)))))) (aU (fun _ _ _ h=>h) (aU (aP (oZ _)) aY)) (fun k us qs ⟨hS,hus⟩=>?_)
   refine cK (ts (rm rfl (ro rfl (nF (Ht rfl) cV) (eX (dQ (Ht rfl) (fun hk=>?_) (fun hk=>?_))))))
   ·simp at hk
    obtain ⟨j,rfl⟩:∃ j,k = j + 1:=⟨k - 1,by omega⟩
    have htp:=hS.top hv zo (Nat.succ_pos j) rfl
    have hkq:=hS.kle; have hlq:=hS.lenq
    rw [Nat.add_sub_cancel] at htp
    have hu0:=bH hS.dig (j + vs.length); have hu1:=bH hS.dig (j + vs.length - 1); have hu2:=bH hS.dig (j + vs.length - 2)
    have ht64:=a1Z hu0 hu1; have hsh:=Zn hu0
    obtain ⟨top,htop⟩:∃ top,top = us.getD (j + vs.length) 0 * BB + us.getD (j + vs.length - 1) 0:=⟨_,rfl⟩
    have hor:=(Cy (a:=us.getD (j + vs.length) 0) hu1).trans htop.symm
    rw [← htop] at htp ht64
    have hu2b:=hu2
    simp only [BB] at hu0 hu1 hu2
    refine Iz (E':=[(8,_),(9,_),(10,_),(11,_),(12,_),(13,_),(69,_),(70,_)]) (aQ rfl (aQ rfl (aQ rfl (aQ rfl (aQ rfl (aZ rfl (bR (show ((j + 1:Nat):Int) - 1 = (j:Int) by omega)) (zS rfl))))))) (cU (cK (eG (cK (fJ (m:=16) (dp 11 rfl (cX (Ht rfl)) (dp 13 rfl (cX (Ht rfl)) (dp 8 rfl (cX (Ht rfl)) (eD 74 1 75 2 rfl (dW (Ht rfl) (Ht rfl) z6) (eD 73 0 76 3 rfl (gX U_28 Z_24 (Ht rfl) (Ht rfl) rfl zo (by rw [Nat.mul_one,Nat.zero_add])) ?_))))))))))
    refine dq 77 4 rfl (eY A_24 Z_24 (Ht rfl) (i:=0) rfl (eQ (bM zo))) (dq 78 5 rfl (gV U_24 U_274 (Ht rfl) z7) (dq 79 6 rfl (tN (Ht rfl) (cJ 32) (by decide) hsh) (dp 11 rfl (cX (Ht rfl)) (dp 13 rfl (cX (Ht rfl)) (dp 8 rfl (cX (Ht rfl)) (eD 82 9 83 10 rfl (dW (Ht rfl) (Ht rfl) z6) (dq 84 11 rfl (dG (Ht rfl) (cJ 1) zo z6) ?_)))))))
    refine eD 81 8 85 12 rfl (gX U_28 Z_24 (Ht rfl) (Ht rfl) rfl zo (by rw [Nat.mul_one,Nat.zero_add])) ?_
    refine dq 86 13 rfl (eY A_24 Z_24 (Ht rfl) (i:=0) rfl (eQ (bM zo))) (dq 87 14 rfl (gV U_24 U_274 (Ht rfl) z7) (fW aT rfl (by kernel_rfl) (zF (zF (zF (zF (aV (ro rfl (aM.nat (uR rfl (Ht rfl) (Ht rfl) z7 z7) hor) ?_))))))))
    refine ra rfl (eX (cK (fJ (m:=17) (dp 14 rfl (cX (Ht rfl)) (dp 10 rfl (cX (Ht rfl)) (dp 8 rfl (cX (Ht rfl)) (dq 92 2 rfl (dG (Ht rfl) (cJ 1) zo z6) (eD 91 1 93 3 rfl (dZ U_28 Z_24 (Ht rfl) (Ht rfl) rfl (eQ (bM zo))) (dq 94 4 rfl (dV A_24 Z_24 (Ht rfl)) (dq 95 5 rfl (gV U_24 U_274 (Ht rfl) z7) ?_))))))))))
    refine eD 90 0 96 6 rfl (tL (Ht rfl) (Ht rfl) zo (by show _ < 18446744073709551616; exact ht64)) (dp 14 rfl (cX (Ht rfl)) (dp 10 rfl (cX (Ht rfl)) (dp 8 rfl (cX (Ht rfl)) (dq 100 10 rfl (dG (Ht rfl) (cJ 1) zo z6) (eD 99 9 101 11 rfl (dZ U_28 Z_24 (Ht rfl) (Ht rfl) rfl (eQ (bM zo))) (dq 102 12 rfl (dV A_24 Z_24 (Ht rfl)) (dq 103 13 rfl (gV U_24 U_274 (Ht rfl) z7) ?_)))))))
    refine eD 98 8 104 14 rfl (qY (Ht rfl) (Ht rfl) zo) (dq 97 7 rfl (cQ (Ht rfl)) (fW aT rfl (by kernel_rfl) (zF (zF (zF (zF (aJ (aV (ra rfl (eX (cK (kX (fun (g:Nat)=>Li (val (us.drop j)) (val vs) g) (fun (g:Nat)=>[(8,NT .i64 vs.length),(9,NT .i64 s),(10,Do vs),(11,Is (.slice (some ⟨B55,0,none⟩) ((dg m).length + 1) ((dg m).length + 1))),(12,Is (.slice (some ⟨B65,0,none⟩) ((dg m).length + 1 - (dg n).length) ((dg m).length + 1 - (dg n).length))),(13,NT .i64 j),(15,NT .u64 g)]) (fun (g:Nat)=>[box B55 24 (us.map cP),box B65 24 (qs.map cP)]) ?_ (fun g hg=>?_)))))))))))))
    ·refine eG ?_
     refine gO (fun (g : Nat) (r : Nat) => kW (val (us.drop j)) (val vs) (vs.getD (vs.length - 1) 0) top g r ∧ r < 4294967296) (fun (g : Nat) (r : Nat) => g) (fun (g : Nat) (r : Nat) => [(8, NT .i64 vs.length), (9, NT .i64 s), (10, Do vs), (11, Is (.slice (some ⟨B55, 0, none⟩) ((dg m).length + 1) ((dg m).length + 1))), (12, Is (.slice (some ⟨B65, 0, none⟩) ((dg m).length + 1 - (dg n).length) ((dg m).length + 1 - (dg n).length))), (13, NT .i64 j), (15, NT .u64 g), (16, NT .u64 r)]) (fun (g : Nat) (r : Nat) => [box B55 24 (us.map cP), box B65 24 (qs.map cP)]) (top / vs.getD (vs.length - 1) 0) (top % vs.getD (vs.length - 1) 0) ⟨kW.start hnr htp, Nat.lt_trans (Nat.mod_lt _ zo) hv1⟩
      (zS rfl) (eS.refl _) (fun g r ⟨hG,hr⟩=>?_)
     have hgl:=(hG.glt hnr htp).1
     have hrs:=Zn (a:=r) hr
     have horr:=Cy (a:=r) hu2b
     simp only [BB] at hgl
     refine cK (cK (fJ (m:=22) (dp 15 rfl (cX (Ht rfl)) (dq 106 0 rfl (tJ (Ht rfl) (cJ 4294967296)) (dq 107 1 rfl (cX (Ht rfl)) (C.D_step (Ei:=[(15,_),(108,_)]) rfl rfl (bV (bK rfl rfl) (bV (bG 2 rfl rfl) bW)) (eK rfl rfl (Ht rfl) (fun h=>cX (Ht rfl))) (C.D_step (Ei:=[(10,_),(108,_)]) rfl rfl (bV (bK rfl rfl) (bV (bG 2 rfl rfl) bW)) (eK rfl rfl (Ht rfl) (fun h=>cX (Ht rfl))) (C.D_step (Ei:=[(8,_),(108,_)]) rfl rfl (bV (bK rfl rfl) (bV (bG 2 rfl rfl) bW)) (eK rfl rfl (Ht rfl) (fun h=>cX (Ht rfl))) ?_))))))))
     refine C.D_step (Ei:=[(111,_),(108,_)]) rfl rfl (bV (bG 5 rfl rfl) (bV (bG 2 rfl rfl) bW)) (eK rfl rfl (Ht rfl) (fun h=>dG (fV rfl h) (cJ 2) (by first | omega | (simp at h; omega)) (by show _ < 9223372036854775808; first | omega | (simp at h; omega)))) (C.D_step (Ei:=[(110,_),(112,_),(108,_)]) rfl rfl (bV (bG 4 rfl rfl) (bV (bG 6 rfl rfl) (bV (bG 2 rfl rfl) bW))) (eK rfl rfl (Ht rfl) (fun h=>dZ U_28 Z_24 (fV rfl h) (fV rfl h) rfl (eQ (bM (by first | omega | (simp at h; omega)))))) ?_)
     refine C.D_step (Ei:=[(113,_),(108,_)]) rfl rfl (bV (bG 7 rfl rfl) (bV (bG 2 rfl rfl) bW)) (eK rfl rfl (Ht rfl) (fun h=>dV A_24 Z_24 (fV rfl h))) (C.D_step (Ei:=[(114,_),(108,_)]) rfl rfl (bV (bG 8 rfl rfl) (bV (bG 2 rfl rfl) bW)) (eK rfl rfl (Ht rfl) (fun h=>gV U_24 U_274 (fV rfl h) (by show _ < 18446744073709551616; first | omega | (simp at h; omega)))) (C.D_step (Ei:=[(109,_),(115,_),(108,_)]) rfl rfl (bV (bG 3 rfl rfl) (bV (bG 9 rfl rfl) (bV (bG 2 rfl rfl) bW))) (eK rfl rfl (Ht rfl) (fun h=>mK (fV rfl h) (fV rfl h) (by show _ < 18446744073709551616; simp at h; exact a1I h hv2))) ?_))
     refine C.D_step (Ei:=[(16,_),(108,_)]) rfl rfl (bV (bK rfl rfl) (bV (bG 2 rfl rfl) bW)) (eK rfl rfl (Ht rfl) (fun h=>cX (Ht rfl))) (C.D_step (Ei:=[(117,_),(108,_)]) rfl rfl (bV (bG 11 rfl rfl) (bV (bG 2 rfl rfl) bW)) (eK rfl rfl (Ht rfl) (fun h=>tN (fV rfl h) (cJ 32) (by decide) hrs)) (C.D_step (Ei:=[(11,_),(108,_)]) rfl rfl (bV (bK rfl rfl) (bV (bG 2 rfl rfl) bW)) (eK rfl rfl (Ht rfl) (fun h=>cX (Ht rfl))) (C.D_step (Ei:=[(13,_),(108,_)]) rfl rfl (bV (bK rfl rfl) (bV (bG 2 rfl rfl) bW)) (eK rfl rfl (Ht rfl) (fun h=>cX (Ht rfl))) ?_)))
     refine C.D_step (Ei:=[(8,_),(108,_)]) rfl rfl (bV (bK rfl rfl) (bV (bG 2 rfl rfl) bW)) (eK rfl rfl (Ht rfl) (fun h=>cX (Ht rfl))) (C.D_step (Ei:=[(120,_),(121,_),(108,_)]) rfl rfl (bV (bG 14 rfl rfl) (bV (bG 15 rfl rfl) (bV (bG 2 rfl rfl) bW))) (eK rfl rfl (Ht rfl) (fun h=>dW (fV rfl h) (fV rfl h) (by show _ < 9223372036854775808; first | omega | (simp at h; omega)))) (C.D_step (Ei:=[(122,_),(108,_)]) rfl rfl (bV (bG 16 rfl rfl) (bV (bG 2 rfl rfl) bW)) (eK rfl rfl (Ht rfl) (fun h=>dG (fV rfl h) (cJ 2) (by first | omega | (simp at h; omega)) (by show _ < 9223372036854775808; first | omega | (simp at h; omega)))) ?_))
     refine C.D_step (Ei:=[(119,_),(123,_),(108,_)]) rfl rfl (bV (bG 13 rfl rfl) (bV (bG 17 rfl rfl) (bV (bG 2 rfl rfl) bW))) (eK rfl rfl (Ht rfl) (fun h=>gX U_28 Z_24 (fV rfl h) (fV rfl h) rfl (by first | omega | (simp at h; omega)) (by rw [Nat.mul_one,Nat.zero_add]))) ?_
     refine C.D_step (Ei:=[(124,_),(108,_)]) rfl rfl (bV (bG 18 rfl rfl) (bV (bG 2 rfl rfl) bW)) (eK rfl rfl (Ht rfl) (fun h=>eY A_24 Z_24 (fV rfl h) (i:=0) rfl (eQ (bM zo)))) (C.D_step (Ei:=[(125,_),(108,_)]) rfl rfl (bV (bG 19 rfl rfl) (bV (bG 2 rfl rfl) bW)) (eK rfl rfl (Ht rfl) (fun h=>gV U_24 U_274 (fV rfl h) (by show _ < 18446744073709551616; first | omega | (simp at h; omega)))) (C.D_step (Ei:=[(118,_),(126,_),(108,_)]) rfl rfl (bV (bG 12 rfl rfl) (bV (bG 20 rfl rfl) (bV (bG 2 rfl rfl) bW))) (eK rfl rfl (Ht rfl) (fun h=>aM.nat (uR rfl (fV rfl h) (fV rfl h) (by show _ < 18446744073709551616; first | omega | (simp at h; omega)) (by show _ < 18446744073709551616; first | omega | (simp at h; omega))) horr)) ?_))
     refine fW aT rfl (by kernel_rfl) (zF (zF (zF (zF (zF (aJ (aJ (aV (fQ rfl rfl (eK rfl rfl (Ht rfl) (fun h=>iW (fV rfl h) (fV rfl h))) (ro rfl (iF (Ht rfl) (fun h=>(fV rfl h))) (eX (dQ (Ht rfl) (fun hc=>?_) (fun hc=>?_)))))))))))))
     ·have hn2 := hG.next hnr htp (by simpa [BB] using hc)
      have hg1:=hn2.2
      refine cU (eG (ts (rm rfl (ro rfl (dG (Ht rfl) (cJ 1) zo z7) (ra rfl (eX (ts (rm rfl (rm rfl (rm rfl (ro rfl (dG (Ht rfl) (cJ 1) zo z6) (ro rfl (dZ U_28 Z_24 (Ht rfl) (Ht rfl) rfl (eQ (bM zo))) (ro rfl (dV A_24 Z_24 (Ht rfl)) (ro rfl (gV U_24 U_274 (Ht rfl) z7) ?_))))))))))))))
      refine ro rfl (dW (Ht rfl) (Ht rfl) z7) (ra rfl (eX (ts (rm rfl (ro rfl (tJ (Ht rfl) (cJ 4294967296)) (eX (dQ (Ht rfl) (fun hr2=>?_) (fun hr2=>?_))))))))
      ·simp at hr2
       refine gG rfl (bT (g - 1) (hn2.1.stop hnr htp hr2) (zS rfl) (eS.refl _))
      ·simp at hr2
       refine cU (cF (gQ (g - 1,_) ⟨hn2.1,hr2⟩ (by dsimp only; omega) (zS rfl) (eS.refl _)))
     ·simp at hc
      refine gG rfl (bT g (hG.done hnr htp hc.1 hc.2) (zS rfl) (eS.refl _))
    ·have hglt := hg.lt
     simp only [BB] at hglt
     refine cK (sK (fun (us2:List Nat) (g2:Nat)=>nK (m * 2 ^ s) vs us2 (qs.set j g2) j ∧ g2 < 4294967296 ∧ us2.length = (dg m).length + 1) (fun (us2:List Nat) (g2:Nat)=>[(8,NT .i64 vs.length),(9,NT .i64 s),(10,Do vs),(11,Is (.slice (some ⟨B55,0,none⟩) ((dg m).length + 1) ((dg m).length + 1))),(12,Is (.slice (some ⟨B65,0,none⟩) ((dg m).length + 1 - (dg n).length) ((dg m).length + 1 - (dg n).length))),(13,NT .i64 j),(15,NT .u64 g2)]) (fun (us2:List Nat) (g2:Nat)=>[box B55 24 (us2.map cP),box B65 24 (qs.map cP)]) ?_ (fun us2 g2 ⟨hD,hg2,hus2⟩=>?_))
     ·refine ts (rm rfl (rm rfl (rm rfl (rm rfl (Bn Tryz.call252 (a0e hus hS.dig hv hg.lt zo zo) (i := 0) rfl ⟨(Ht rfl), (Ht rfl), (Ht rfl), (Ht rfl), trivial⟩ rfl (fun ⟨out, b⟩ hT => ?_))))))
      dsimp only at hT
      refine eX (dQ (Ht rfl) (fun hbb=>?_) (fun hbb=>?_))
      ·have hbb : b = true := hbb
       subst hbb
       have hg0:=hS.gpos hv rfl zo hT
       have hol:=hT.len
       refine ts (rm rfl (ro rfl (dG (Ht rfl) (cJ 1) zo z7) (ra rfl (eX (ts (ro rfl (cQ (cJ 0)) (eX (cK (ts (rm rfl (ro rfl (dK U_28 (Ht rfl) aC) (ro rfl (cX (cJ 0)) (eX (eG ?_))))))))))))))
       refine mF (fun (i : Nat) (out2 : List Nat) (c : Nat) => sF out vs j out2 i c) (fun (i : Nat) (out2 : List Nat) (c : Nat) => vs.length - i) (fun (i : Nat) (out2 : List Nat) (c : Nat) => [(8, NT .i64 vs.length), (9, NT .i64 s), (10, Do vs), (11, Is (.slice (some ⟨B55, 0, none⟩) ((dg m).length + 1) ((dg m).length + 1))), (12, Is (.slice (some ⟨B65, 0, none⟩) ((dg m).length + 1 - (dg n).length) ((dg m).length + 1 - (dg n).length))), (13, NT .i64 j), (15, NT .u64 (g - 1 : Nat)), (17, NT .u64 c), (149, Do vs), (150, NT .i64 vs.length), (151, NT .i64 i)]) (fun (i : Nat) (out2 : List Nat) (c : Nat) => [box B55 24 (out2.map cP), box B65 24 (qs.map cP)]) 0 out 0 (sF.start hT.dig vs j)
        (zS rfl) (eS.refl _) (fun i out2 c hB=>?_)
       refine ts (ro rfl (gJ (Ht rfl) (Ht rfl)) (eX (cK (dQ (Ht rfl) (fun hi=>?_) (fun hi=>?_)))))
       ·simp at hi
        have hlen:=hB.len; have hcl:=hB.cle; have hvi:=bH hv i; have hok:=bH hB.dig (i + j)
        simp only [BB] at hvi hok
        refine cU (cK (eG (ts (rm rfl (ro rfl (dZ U_28 Z_24 (Ht rfl) (Ht rfl) rfl (eQ (bM zo))) (ro rfl (dV A_24 Z_24 (Ht rfl)) (ra rfl (ra rfl (eX (ts (rm rfl (rm rfl (rm rfl (rm rfl (ro rfl (dW (Ht rfl) (Ht rfl) z6) (ro rfl (gX U_28 Z_24 (Ht rfl) (Ht rfl) rfl zo (by rw [Nat.mul_one,Nat.zero_add])) ?_))))))))))))))))
        refine ro rfl (eY A_24 Z_24 (Ht rfl) (i:=0) rfl (eQ (bM zo))) (ro rfl (gV U_24 U_274 (Ht rfl) z7) (rm rfl (ro rfl (gV U_24 U_274 (Ht rfl) z7) (ro rfl (dW (Ht rfl) (Ht rfl) z7) (ro rfl (dW (Ht rfl) (Ht rfl) z7) ?_)))))
        refine ra rfl (eX (ts (rm rfl (rm rfl (rm rfl (ro rfl (dW (Ht rfl) (Ht rfl) z6) (rm rfl (ro rfl (jI rfl U_274 U_24 (Ht rfl)) (ro rfl (gX U_28 Z_24 (Ht rfl) (Ht rfl) rfl zo (by rw [Nat.mul_one,Nat.zero_add])) ?_)))))))))
        refine jL Z_24 (Ht rfl) (Ht rfl) (i:=0) rfl (by first | omega | (simp; omega)) rfl (eX (cY (rm rfl (ro rfl (iG (Ht rfl) (cJ 32) (by decide)) (ra rfl (eX (cF (cY (ro rfl (dW (Ht rfl) (cJ 1) z6) (rm rfl (eX (gQ (i + 1,_,_) (hB.next hv hi zo rfl) (by dsimp only; omega) (zS rfl) (aU (aP (jD _ _ _)) (aU (fun _ _ _ h=>h) aY))))))))))))))
       ·simp at hi
        have hil:i = vs.length:=Nat.le_antisymm hB.ile hi
        subst hil
        have hlen:=hB.len; have hcl:=hB.cle; have hok:=bH hB.dig (j + vs.length)
        have hBk:=hB.fin zo rfl
        obtain ⟨_,hDn⟩:=hS.wrong hv hV0 (Nat.succ_pos j) rfl hg hT hBk
        simp only [BB] at hok
        refine gG rfl (cY (rm rfl (rm rfl (rm rfl (ro rfl (dW (Ht rfl) (Ht rfl) z6) (ro rfl (gX U_28 Z_24 (Ht rfl) (Ht rfl) rfl zo (by rw [Nat.mul_one,Nat.zero_add])) ?_))))))
        refine ro rfl (eY A_24 Z_24 (Ht rfl) (i:=0) rfl (eQ (bM zo))) (rm rfl (ro rfl (gV U_274 U_24 (Ht rfl) (by show _ < 4294967296; first | omega | (simp only [lQ]; omega))) (ro rfl (Wt rfl (Ht rfl) (Ht rfl)) (ro rfl (gX U_28 Z_24 (Ht rfl) (Ht rfl) rfl zo (by rw [Nat.mul_one,Nat.zero_add])) ?_))))
        refine jL Z_24 (Ht rfl) (Ht rfl) (i:=0) rfl (by first | omega | (simp; omega)) rfl (eX (bT (_,g - 1) ⟨hDn,by dsimp only; omega,by simp; omega⟩ (zS rfl) (aU (aP (jD _ _ _)) (aU (fun _ _ _ h=>h) aY))))
      ·have hbb : b = false := hbb
       subst hbb
       have hol:=hT.len
       refine cU (bT (out,g) ⟨hS.right hv hV0 (Nat.succ_pos j) rfl hg hT,hglt,by dsimp only; omega⟩ (zS rfl) (eS.refl _))
     ·refine cY (rm rfl (rm rfl (rm rfl (ro rfl (gV U_274 U_24 (Ht rfl) (by show _ < 4294967296; first | omega | (simp only [lQ]; omega))) (ro rfl (gX U_28 Z_24 (Ht rfl) (Ht rfl) rfl zo (by rw [Nat.mul_one, Nat.zero_add])) ?_)))))
      refine jL Z_24 (Ht rfl) (Ht rfl) (i:=1) rfl (by first | omega | (simp; omega)) rfl (eX (cF (cY (rm rfl (ro rfl (jU (Ht rfl) cV (Ip zo)) (ra rfl (eX (gQ (j,us2,_) ⟨hD,hus2⟩ (by dsimp only; omega) (zS rfl) (aU (fun _ _ _ h=>h) (aU (aP (jD _ _ _)) aY))))))))))
   ·simp at hk
    have hk0:k = 0:=by omega
    subst hk0
    have hfin:=hS.fin hV0
    have hlq:=hS.lenq
    rw [hvv] at hfin
    have hdiv:val qs = m / n:=by rw [hfin.1]; exact Nat.mul_div_mul_right _ _ hp2
    have hsm:val us < BB ^ vs.length:=by have h1:=hS.small; rw [List.drop_zero] at h1; exact Nat.lt_trans h1 (iP hv)
    have hmod : val (us.take vs.length) / 2 ^ s = m % n := by
     rw [uD hsm zo,hfin.2,Nat.mul_mod_mul_right,Nat.mul_div_cancel _ hp2]
    have hru : (dg (val (us.take vs.length))).length ≤ 17592186044416 := by
     refine Nat.le_trans (iT (k:=vs.length) ?_) zo
     rw [uD hsm zo]; exact hsm
    refine gG rfl (gW (i:=1) (tt:=12) rfl rfl (pR rfl zo (Nat.le_refl _)) (gW (i:=0) (tt:=11) rfl rfl (pR rfl zo (Nat.le_refl _)) (cK (fJ (m:=7) (dp 12 rfl (cX (Ht rfl)) (dq 193 0 rfl (cZ K_203 (oN _ hS.digq zo) ⟨(Ht rfl),trivial⟩) (dp 11 rfl (cX (Ht rfl)) (dp 8 rfl (cX (Ht rfl)) (eD 195 2 196 3 rfl (aM.imp (Ax U_28 Z_24 (Ht rfl) (Ht rfl) (fun m e=>by cases e) zo (by simp; omega) rfl) (Vk _ _)) ?_)))))))))
    refine dq 197 4 rfl (cZ K_203 (oN _ (hS.dig.take' vs.length) (by simp; omega)) ⟨(Ht rfl),trivial⟩) ?_
    refine dp 9 rfl (cX (Ht rfl)) (fW aT rfl (by kernel_rfl) (zF (aJ (aJ (aJ (aV (ro rfl (cZ Tryz.call253 (a1v hru zo) ⟨(Ht rfl),(Ht rfl),trivial⟩) (ra rfl (ra rfl (eX (cT rfl (fZ (eU rfl) ?_) (fZ (eU rfl) ?_))))))))))))
    ·exact (gF hdiv)
    ·exact (gF hmod)
end
section
open Go Go.RowKit
theorem a0q:Tryz.prog.info? 5 = some Tryz.t5:=by kernel_rfl
theorem Le:Tryz.prog.underlying 341 = some (.slice 5):=by kernel_rfl
theorem a20:Tryz.prog.underlying 5 = some (.int .u8):=by kernel_rfl
theorem a21:Tryz.prog.underlying 9 = some (.string):=by kernel_rfl
end
section
open Go Go.RowKit
theorem Yr {m n:Nat} (hm:(dg m).length ≤ 17592186044415) (hn:(dg n).length ≤ 17592186044415):bA Tryz.prog 200 [aL m,aL n] (aL (Nat.gcd m n)):=by
 refine bA.intro Tryz.func200 rfl Tryz.ntmps200 rfl (fun cx=>(ts (ro rfl (cQ cV) (eX (cK (eG ?_))))))
 refine gO (fun (x : Nat) (y : Nat) => Nat.gcd x y = Nat.gcd m n ∧ (dg x).length ≤ 17592186044415 ∧ (dg y).length ≤ 17592186044415) (fun (x : Nat) (y : Nat) => y) (fun (x : Nat) (y : Nat) => [(0, aL x), (1, aL y)]) (fun (x : Nat) (y : Nat) => []) m n ⟨rfl, hm, hn⟩
  (zS rfl) aY (fun x y ⟨hg,hx,hy⟩=>?_)
 refine cK (ts (rm rfl (ro rfl (dK U_28 (Ht rfl) aC) (ro rfl (iW (Ht rfl) (cJ 0)) (eX (dQ (Ht rfl) (fun hb=>?_) (fun hb=>?_)))))))
 ·simp at hb
  have hy0:y ≠ 0:=fun e=>by rw [e,fF] at hb; simp at hb
  have hlt:=Nat.mod_lt x (Nat.pos_of_ne_zero hy0)
  refine cU (eG (ts (rm rfl (rm rfl (ro rfl (cZ Tryz.call202 (Jl hx zo hy0) ⟨(Ht rfl),(Ht rfl),trivial⟩) (rm rfl (ro rfl (dU (Ht rfl) rfl) (ro rfl (dU (Ht rfl) rfl) (ra rfl (ra rfl (eX (cY (rm rfl (rm rfl (ra rfl (ra rfl (eX (cF (gQ (y,x % y) ⟨by rw [← hg,Nat.gcd_comm x y,Nat.gcd_rec y x,Nat.gcd_comm],hy,Nat.le_trans (jQ (Nat.le_of_lt hlt)) hy⟩ hlt (zS rfl) aY)))))))))))))))))))
 ·simp at hb
  have hy0:y = 0:=bD.1 (by simpa using hb)
  subst hy0
  rw [Nat.gcd_zero_right] at hg
  refine gG rfl (ts (rm rfl (ra rfl (eX (fG rfl (fZ (eU rfl) ?_))))))
  exact (gF hg)
theorem a1u {l:List Nat} {v:Value} (hl:l.length ≤ 1152921504606846976):iH Tryz.prog 283 [Is v] [bN 5 1 v (l.map zM)] Unit (fun _=>mA) (fun _=>[bN 5 1 v (l.reverse.map zM)]) (fun _=>True):=by
 refine iH.intro Tryz.func283 rfl Tryz.ntmps283 rfl (fun cx Z=>(ts (rm rfl (ro rfl (oY U_341 (Ht rfl) (i:=1) rfl aC) (ro rfl (jU (Ht rfl) cV (Ip zo)) (ro rfl (cQ (cJ 0)) (ra rfl (eX (eG ?_)))))))))
 refine gO (fun (k : Nat) (o : List Nat) => Bo l o k) (fun (k : Nat) (o : List Nat) => l.length - k) (fun (k : Nat) (o : List Nat) => [(0, Is v), (2, NT .i64 k), (3, aF .i64 ((l.length : Int) - 1 - (k : Int)))]) (fun (k : Nat) (o : List Nat) => [Z, bN 5 1 v (o.map zM)]) 0 l (Bo.start l)
  (aQ rfl (aQ rfl (aZ rfl (bR zo) aX))) (eS.refl _) (fun k o hS=>?_)
 refine cK (ts (rm rfl (rm rfl (ro rfl (sA (Ht rfl) (Ht rfl)) (eX (dQ (Ht rfl) (fun hb=>?_) (fun hb=>?_)))))))
 ·simp only [decide_eq_true_eq] at hb
  have hk:2 * k + 1 < l.length:=by omega
  obtain ⟨j,hj⟩:∃ j,j = l.length - 1 - k:=⟨_,rfl⟩
  have hlen:=hS.len
  refine Iz (E':=[(0,_),(2,_),(3,_),(7,_),(8,_),(9,_)]) (aQ rfl (aQ rfl (aZ rfl (bR (show (l.length:Int) - 1 - (k:Int) = (j:Int) by omega)) (zS rfl)))) (cU (cK (eG (W.D_start (m:=14) (fun b=>cond b ([Z,bN 5 1 v ((o.map zM).set k (zM (o.getD j 0)))]) _) 13 (W.D_step (Ei:=[(0,_)]) rfl rfl (W.Srcs.cons (W.Src.pre rfl rfl) W.Srcs.nil) rfl (by kernel_rfl) (dX rfl (cX (Ht rfl))) (W.D_step (Ei:=[(2,_)]) rfl rfl (W.Srcs.cons (W.Src.pre rfl rfl) W.Srcs.nil) rfl (by kernel_rfl) (dX rfl (cX (Ht rfl))) ?_))))))
  refine W.D_pure (Ei:=[(0,_)]) rfl rfl (W.Srcs.cons (W.Src.pre rfl rfl) W.Srcs.nil) rfl (fun _=>dX rfl (cX (Ht rfl))) (W.D_pure (Ei:=[(3,_)]) rfl rfl (W.Srcs.cons (W.Src.pre rfl rfl) W.Srcs.nil) rfl (fun _=>dX rfl (cX (Ht rfl))) (W.D_step (Ei:=[(0,_)]) rfl rfl (W.Srcs.cons (W.Src.pre rfl rfl) W.Srcs.nil) rfl (by kernel_rfl) (dX rfl (cX (Ht rfl))) (W.D_step (Ei:=[(3,_)]) rfl rfl (W.Srcs.cons (W.Src.pre rfl rfl) W.Srcs.nil) rfl (by kernel_rfl) (dX rfl (cX (Ht rfl))) (W.D_step (Ei:=[(18,_),(19,_)]) rfl rfl (W.Srcs.cons (W.Src.op 4 rfl rfl) (W.Srcs.cons (W.Src.op 5 rfl rfl) W.Srcs.nil)) rfl (by kernel_rfl) (dX rfl (iX U_341 Z_5 (Ht rfl) (Ht rfl) rfl (i:=1) rfl (by first | omega | (simp; omega)) rfl)) ?_))))
  refine W.D_step (Ei:=[(20,_)]) rfl rfl (W.Srcs.cons (W.Src.op 6 rfl rfl) W.Srcs.nil) rfl (by kernel_rfl) (dX rfl (Hy Tryz.isAgg5 Z_5 (Ht rfl) (i:=1) rfl rfl (eQ (bM zo)))) (W.D_step (Ei:=[(0,_)]) rfl rfl (W.Srcs.cons (W.Src.pre rfl rfl) W.Srcs.nil) rfl (by kernel_rfl) (dX rfl (cX (Ht rfl))) (W.D_step (Ei:=[(2,_)]) rfl rfl (W.Srcs.cons (W.Src.pre rfl rfl) W.Srcs.nil) rfl (by kernel_rfl) (dX rfl (cX (Ht rfl))) (W.D_step (Ei:=[(22,_),(23,_)]) rfl rfl (W.Srcs.cons (W.Src.op 8 rfl rfl) (W.Srcs.cons (W.Src.op 9 rfl rfl) W.Srcs.nil)) rfl (by kernel_rfl) (dX rfl (iX U_341 Z_5 (Ht rfl) (Ht rfl) rfl (i:=1) rfl (by first | omega | (simp; omega)) rfl)) ?_)))
  refine W.D_step (Ei:=[(24,_)]) rfl rfl (W.Srcs.cons (W.Src.op 10 rfl rfl) W.Srcs.nil) rfl (by kernel_rfl) (dX rfl (Hy Tryz.isAgg5 Z_5 (Ht rfl) (i:=1) rfl rfl (eQ (bM zo)))) (W.D_step (Ei:=[(14,_),(15,_)]) rfl rfl (W.Srcs.cons (W.Src.op 0 rfl rfl) (W.Srcs.cons (W.Src.op 1 rfl rfl) W.Srcs.nil)) rfl (by kernel_rfl) (dX rfl (iX U_341 Z_5 (Ht rfl) (Ht rfl) rfl (i:=1) rfl (by first | omega | (simp; omega)) rfl)) (W.D_put (Ei:=[(26,_),(21,_)]) rfl rfl (W.Srcs.cons (W.Src.op 12 rfl rfl) (W.Srcs.cons (W.Src.op 7 rfl rfl) W.Srcs.nil)) rfl (Nv Z_5 (Ht rfl) (Ht rfl) El.one (i:=1) rfl rfl (by first | omega | (simp; omega))) ?_))
  refine W.D_done aT rfl (by kernel_rfl) rfl (W.F_val (W.F_val (W.F_val (W.F_val (W.F_val (W.F_val (W.F_val (W.F_val (W.F_val (W.F_val (W.F_val (W.F_val (W.F_val (W.F_put (W.F_nil (ro rfl (iX U_341 Z_5 (Ht rfl) (Ht rfl) rfl (i:=1) rfl (by first | omega | (simp; omega)) rfl) (rF Z_5 (Ht rfl) (Ht rfl) El.one (i:=1) rfl rfl (by first | omega | (simp; omega)) rfl (eX (cF (cY (rm rfl (ro rfl (dW (Ht rfl) (cJ 1) z6) (rm rfl (ro rfl (jU (Ht rfl) cV (Ip zo)) ?_))))))))))))))))))))))))
  refine ra rfl (ra rfl (eX (gQ (k + 1,_) (hS.next hk hj) (by dsimp only; omega) (aQ rfl (aQ rfl (aZ rfl (bR zo) aX))) (aU (fun _ _ _ h=>h) (aU (cA (Yg _ _ _ _ _)) aY)))))
 ·simp only [decide_eq_false_iff_not] at hb
  have hfin:=hS.fin (by have:=hS.kle; omega)
  refine gG rfl ?_
  exact Zz () trivial [0,1] ⟨⟨_,rfl,fun _ _ _ h=>h⟩,⟨_,rfl,(cA (by rw [hfin]))⟩,trivial⟩ (by decide) (a2h rfl (fun _=>trivial))
theorem Eb {m:Nat} (hm:(dg m).length ≤ 8796093022208):bA Tryz.prog 243 [aL m] (rD (xM m)):=by
 refine bA.intro Tryz.func243 rfl Tryz.ntmps243 rfl (fun cx=>(ts (ro rfl (cQ (aA.cS (l:=[]) rfl)) (eX (cK (ts (rm rfl (ro rfl (dK U_28 (Ht rfl) aC) (ro rfl (dN (Ht rfl) (cJ 0)) (eX (dQ (Ht rfl) (fun hb=>?_) (fun hb=>?_))))))))))))
 ·simp at hb
  have h0:m = 0:=bD.1 (by simpa using hb)
  subst h0
  refine ts (ro rfl (cQ (aA.cS (l:=[48]) rfl)) (eX (fG rfl (fZ (eU rfl) ?_))))
  exact (nI rfl)
 ·simp at hb
  have h0:m ≠ 0:=fun e=>hb (by rw [e,fF])
  refine cU (ts (ro rfl (cQ cV) (eX (cK (eG (rG 5 1 ?_))))))
  refine mF (fun (x : Nat) (out : List Nat) (v : Value) => Bj m out x ∧ x ≤ m) (fun (x : Nat) (out : List Nat) (v : Value) => x) (fun (x : Nat) (out : List Nat) (v : Value) => [(0, aL x), (3, Is v)]) (fun (x : Nat) (out : List Nat) (v : Value) => [bN 5 1 v (out.map zM)]) m [] (.slice none 0 0) ⟨Bj.start m, Nat.le_refl m⟩
   (zS rfl) (eS.refl _) (fun x out v ⟨hO,hle⟩=>?_)
  refine cK (ts (rm rfl (ro rfl (dK U_28 (Ht rfl) aC) (ro rfl (iW (Ht rfl) (cJ 0)) (eX (dQ (Ht rfl) (fun hc=>?_) (fun hc=>?_)))))))
  ·simp at hc
   have hx0:x ≠ 0:=fun e=>by rw [e,fF] at hc; simp at hc
   have hxm:=jQ hle
   refine cU (eG (ts (ro rfl (cQ (cJ 0)) (eX (ts (rm rfl (ro rfl (cZ Tryz.call250 (Jp zo (by decide) (by decide)) ⟨(Ht rfl),(cJ 1000000000),trivial⟩) (rm rfl (ro rfl (dU (Ht rfl) rfl) (ro rfl (dU (Ht rfl) rfl) (ra rfl (ra rfl (eX (ts (ro rfl (cQ (cJ 0)) (eX (eG ?_)))))))))))))))))
   refine Bs (fun (r : Nat) (k : Nat) (out : List Nat) (v : Value) => wY m out (x / 1000000000) r k) (fun (r : Nat) (k : Nat) (out : List Nat) (v : Value) => 9 - k) (fun (r : Nat) (k : Nat) (out : List Nat) (v : Value) => [(0, aL (x / 1000000000)), (3, Is v), (4, cP r), (5, NT .i64 k)]) (fun (r : Nat) (k : Nat) (out : List Nat) (v : Value) => [bN 5 1 v (out.map zM)]) (x % 1000000000) 0 out v (hO.inner)
    (zS rfl) (eS.refl _) (fun r k out v hI=>?_)
   refine cK (ts (rm rfl (ro rfl (gJ (Ht rfl) (cJ 9)) (rm rfl (fQ rfl rfl (sJ rfl rfl (Ht rfl) (fun h=>cX (Ht rfl))) (fQ rfl rfl (sJ rfl rfl (Ht rfl) (fun h=>dK U_28 (aA.wu rfl h) aC)) (fQ rfl rfl (sJ rfl rfl (Ht rfl) (fun h=>iW (aA.wu rfl h) (cJ 0))) (fQ rfl rfl (sJ rfl rfl (Ht rfl) (fun h=>cX (aA.wu rfl h))) (fQ rfl rfl (Ix rfl rfl rfl (fun h h2=>cX (Ht rfl))) (fQ rfl rfl (Ix rfl rfl rfl (fun h h2=>iW (aA.wu rfl ⟨h,h2⟩) (cJ 0))) (fQ rfl rfl (sJ rfl rfl (Ht rfl) (fun h=>iF (aA.wu rfl h) (fun h2=>(aA.wu rfl ⟨h,h2⟩)))) ?_)))))))))))
   refine ro rfl (gA (Ht rfl) (fun h=>(aA.wu rfl h))) (eX (dQ (Ht rfl) (fun hd=>?_) (fun hd=>?_)))
   ·simp at hd
    have hxr:0 < x / 1000000000 ∨ 0 < r:=hd.2.imp (fun h=>Nat.pos_of_ne_zero (fun e=>by rw [e,fF] at h; simp at h)) id
    have hln:=hI.len hxr
    have hr32:=hI.r32
    refine cU (cK (eG (ts (rm rfl (rm rfl (ro rfl (qY (Ht rfl) (cJ 10) zo) (ro rfl (dW (cJ 48) (Ht rfl) (by show _ < 4294967296; first | omega | (simp only [lQ]; omega))) (ro rfl (gV U_24 U_5 (Ht rfl) (by show _ < 256; first | omega | (simp only [lQ]; omega))) (ro rfl (eO (xs:=[.tmp 34]) U_341 Z_5 Tryz.zeroValue5 (cW (Ht rfl) cG) rfl rfl rfl) (nY (inf:=Tryz.t5) Le a0q rfl rfl rfl (Ht rfl) (Ht rfl) (i:=0) rfl (by simp) (fun T hT=>by simp at hT; subst hT; exact El.one) (by show _ * 1 ≤ _; simp only [List.length_map,List.length_cons,List.length_nil]; omega) (by simp only [List.length_map,List.length_cons,List.length_nil]; omega) rfl (fun v2=>?_)))))))))))
    refine ra rfl (eX (cY (rm rfl (ro rfl (tL (Ht rfl) (cJ 10) zo (by show _ < 4294967296; first | omega | (simp only [lQ]; omega))) (ra rfl (eX (cF (cY (rm rfl (ro rfl (dW (Ht rfl) (cJ 1) z6) (ra rfl (eX (gQ (r / 10,k + 1,_,v2) (hI.next hd.1 hxr) (by dsimp only; omega) (zS rfl) (aU (cA (a1c _ _)) aY))))))))))))))
   ·simp at hd
    have hO2 := hI.fin (fun ⟨h1, h2⟩ => by
     have h3:=hd h1
     rcases h2 with h2 | h2
     ·have:=uM.1 h3.1; omega
     ·omega)
    refine gG rfl (cF (gQ (x / 1000000000,_,_) ⟨hO2,Nat.le_trans (Nat.div_le_self _ _) hle⟩ (Nat.div_lt_self (Nat.pos_of_ne_zero hx0) (by decide)) (zS rfl) (eS.refl _)))
  ·simp at hc
   have hx0:x = 0:=bD.1 (by simpa using hc)
   subst hx0
   have hfin:=hO.fin
   have hdl:=pM m
   rw [hfin] at hdl
   refine gG rfl (ts (rm rfl (Bn Tryz.call283 (a1u zo) (i:=0) rfl ⟨(Ht rfl),trivial⟩ rfl (fun _ _=>(eX (cK (gW (i:=0) (tt:=3) rfl rfl kN (cY (rm rfl (ro rfl (Rj Le a20 a21 (Ht rfl) (by rw [← hfin]; simpa using Vj h0) (fun b hb=>a0g (n:=m) b (by rw [vT h0,hfin]; exact hb))) ?_))))))))))
   refine ra rfl (eX (fG rfl (fZ (eU rfl) ?_)))
   exact (nI (by rw [vT h0,hfin]))
end
section
open Go Go.RowKit
theorem rU {n : Nat} {E : cB} {H : Hp} {d : Option Tmp} {t : TypeId} {pos : String} {af : Array Edge} {g : Option (Nat × Bool)} {x0 x1 : Operand} {T0 T1 : Ty} [s0 : dI T0 1 false] (h0 : aA E x0 T0) [s1 : dI T1 1 false] (h1 : aA E x1 T1) :
  aM Tryz.prog n E H ⟨d,.build 30 #[(0,x0),(1,x1)],t,pos,af,g⟩ (dL [T0,T1]) :=
 iY (parts := [(0, x0), (1, x1)]) fun a V w hs => by
  have p0:=h0 n V a hs
  generalize e0:a.eval x0 = v0 at p0
  have q0:=(s0.ok v0 V p0).2.2 rfl
  have p1:=h1 n V a hs
  generalize e1:a.eval x1 = v1 at p1
  have q1:=(s1.ok v1 V p1).2.2 rfl
  refine ⟨.agg #[v0,v1],?_,[v0,v1],rfl,aW (⟨p0,q0⟩) (aW (⟨p1,q1⟩) (aG))⟩
  simp [e0,e1,Instr.build,Instr.fill,Sem.run_bind,Result.andThen,iB,q0.cells,q1.cells,O_30,U_30,Z_4,Z_28]
theorem jP (a:Addr) (w:World):(Instr.fieldAt 30 (.pointer (some a)) 0).run Tryz.prog w = .ok (.pointer (some (a.add 0))) w:=by
 simp [Instr.fieldAt,Instr.sureAddr,fieldPlace,Sem.run_bind,Result.andThen,U_30,Z_4]
theorem eN (a:Addr) (w:World):(Instr.fieldAt 30 (.pointer (some a)) 1).run Tryz.prog w = .ok (.pointer (some (a.add 1))) w:=by
 simp [Instr.fieldAt,Instr.sureAddr,fieldPlace,Sem.run_bind,Result.andThen,U_30,Z_28]
end
section
open Go Go.RowKit
theorem Bz {n:Int} (h1:-9223372036854775808 ≤ n) (h2:n ≤ 9223372036854775807):bA Tryz.prog 115 [aF .i64 n] (iI n):=by
 refine bA.intro Tryz.func115 rfl Tryz.ntmps115 rfl (fun cx=>(ts (rn rfl (eW (Ts:=[Is (.bool false),Is (.slice none 0 0)]) O_30 rfl (fun V=>aW zd (aW zd (aG)))) fun B2=>(eX (cK (ts (rm rfl (ro rfl (sA (Ht rfl) cV) (eX (dQ (Ht rfl) (fun hb=>?_) (fun hb=>?_)))))))))))
 ·have hn : n < 0 := by simpa using hb
  refine ts (rm rfl (ro rfl (wK Tryz.runUnderlying2 U_274 (Ht rfl) (r:=((18446744073709551616 - n.natAbs:Nat):Int)) (by rw [IntKind.wrap_u64]; omega)) ?_))
  refine ro rfl (a0K (Ht rfl) (r:=((n.natAbs:Nat):Int)) (by rw [IntKind.wrap_u64]; omega)) ?_
  refine ro rfl (cZ Tryz.call207 (By zo) ⟨(Ht rfl),trivial⟩) (ro rfl (rU cV (Ht rfl)) (gZ Z_30 (Ht rfl) (Ht rfl) rfl (i:=0) rfl (aK rfl) rfl rfl (eX (fG rfl (fZ (fU A_30 Z_30 rfl (i:=0) rfl rfl) ?_)))))
  exact (uH (by rw [hb]; rfl))
 ·have hn : ¬ n < 0 := by simpa using hb
  refine cU (ts (rm rfl (ro rfl (wK Tryz.runUnderlying2 U_274 (Ht rfl) (r:=((n.natAbs:Nat):Int)) (by rw [IntKind.wrap_u64]; omega)) ?_)))
  refine ro rfl (cZ Tryz.call207 (By zo) ⟨(Ht rfl),trivial⟩) (ro rfl (rU cV (Ht rfl)) (gZ Z_30 (Ht rfl) (Ht rfl) rfl (i:=0) rfl (aK rfl) rfl rfl (eX (fG rfl (fZ (fU A_30 Z_30 rfl (i:=0) rfl rfl) ?_)))))
  exact (uH (by rw [hb]; rfl))
theorem mM {b:Bool} {m:Nat}:bA Tryz.prog 197 [aD b,aL m] (iI (Df b m)):=by
 refine bA.intro Tryz.func197 rfl Tryz.ntmps197 rfl (fun cx=>(ts (rn rfl (eW (Ts:=[Is (.bool false),Is (.slice none 0 0)]) O_30 rfl (fun V=>aW zd (aW zd (aG)))) fun B4=>(eX (ts (rm rfl (rm rfl (fQ rfl rfl (eK rfl rfl (Ht rfl) (fun h=>cX (Ht rfl))) (fQ rfl rfl (eK rfl rfl (Ht rfl) (fun h=>dK U_28 (fV rfl h) aC)) (fQ rfl rfl (eK rfl rfl (Ht rfl) (fun h=>iW (fV rfl h) (cJ 0))) (ro rfl (gA (Ht rfl) (fun h=>(fV rfl h))) (rm rfl ?_))))))))))))
 refine ro rfl (rU (Ht rfl) (Ht rfl)) (gZ Z_30 (Ht rfl) (Ht rfl) rfl (i:=0) rfl (aK rfl) rfl rfl (eX (fG rfl (fZ (fU A_30 Z_30 rfl (i:=0) rfl rfl) ?_))))
 exact a0Y
theorem oM {x:Int}:bA Tryz.prog 107 [iI x] (iI (-x)):=by
 refine bA.intro Tryz.func107 rfl Tryz.ntmps107 rfl (fun cx=>(ts (rn rfl (fK (Ht rfl)) fun B1=>(rn rfl (eW (Ts:=[Is (.bool false),Is (.slice none 0 0)]) O_30 rfl (fun V=>aW zd (aW zd (aG)))) fun B2=>(eX (ts (ro rfl (eZ jP (Ht rfl) rfl) (ro rfl (eY A_4 Z_4 (Ht rfl) (i:=0) rfl rfl) (ro rfl (dE (Ht rfl)) (ro rfl (eZ eN (Ht rfl) rfl) (ro rfl (eY A_28 Z_28 (Ht rfl) (i:=0) rfl rfl) (ro rfl (cZ K_197 mM ⟨(Ht rfl),(Ht rfl),trivial⟩) ?_))))))))))))
 refine gZ Z_30 (Ht rfl) (Ht rfl) rfl (i:=1) rfl (aK rfl) rfl rfl (eX (fG rfl (fZ (fU A_30 Z_30 rfl (i:=1) rfl rfl) ?_)))
 exact (oI (Mz x))
theorem uL {x y:Int} (hx:(dg x.natAbs).length ≤ 17592186044416) (hy:(dg y.natAbs).length ≤ 17592186044416):bA Tryz.prog 106 [iI x,iI y] (iI (x + y)):=by
 refine bA.intro Tryz.func106 rfl Tryz.ntmps106 rfl (fun cx=>(ts (rn rfl (fK (Ht rfl)) fun B2=>(rn rfl (fK (Ht rfl)) fun B3=>(rn rfl (eW (Ts:=[Is (.bool false),Is (.slice none 0 0)]) O_30 rfl (fun V=>aW zd (aW zd (aG)))) fun B4=>(eX (cK (ts (ro rfl (eZ jP (Ht rfl) rfl) (ro rfl (eY A_4 Z_4 (Ht rfl) (i:=0) rfl rfl) (ro rfl (eZ jP (Ht rfl) rfl) (ro rfl (eY A_4 Z_4 (Ht rfl) (i:=1) rfl rfl) (ro rfl (a0C Tryz.runUnderlying4 (Ht rfl) (Ht rfl)) ?_)))))))))))))
 refine eX (dQ (Ht rfl) (fun hb=>?_) (fun hb=>?_))
 ·have he : decide (x < 0) = decide (y < 0) := by simpa using hb
  refine cK (fJ (m:=7) (dp 2 rfl (eZ jP (Ht rfl) rfl) (dq 10 0 rfl (eY A_4 Z_4 (Ht rfl) (i:=0) rfl rfl) (dp 2 rfl (eZ eN (Ht rfl) rfl) (dq 12 2 rfl (eY A_28 Z_28 (Ht rfl) (i:=0) rfl rfl) (dp 3 rfl (eZ eN (Ht rfl) rfl) (dq 14 4 rfl (eY A_28 Z_28 (Ht rfl) (i:=1) rfl rfl) (eD 13 3 15 5 rfl (cZ Tryz.call198 (a1t zo zo) ⟨(Ht rfl),(Ht rfl),trivial⟩) (fW aT rfl (by kernel_rfl) (zF (aJ (aJ (aJ (aV ?_))))))))))))))
  refine ro rfl (cZ K_197 mM ⟨(Ht rfl),(Ht rfl),trivial⟩) (gZ Z_30 (Ht rfl) (Ht rfl) rfl (i:=2) rfl (aK rfl) rfl rfl (eX (fG rfl (fZ (fU A_30 Z_30 rfl (i:=2) rfl rfl) ?_))))
  exact (oI (Se he))
 ·have he : decide (x < 0) ≠ decide (y < 0) := by simpa using hb
  refine cU (cK (ts (ro rfl (eZ eN (Ht rfl) rfl) (ro rfl (eY A_28 Z_28 (Ht rfl) (i:=0) rfl rfl) (ro rfl (eZ eN (Ht rfl) rfl) (ro rfl (eY A_28 Z_28 (Ht rfl) (i:=1) rfl rfl) (ro rfl (cZ Tryz.call129 (Pa zo zo) ⟨(Ht rfl),(Ht rfl),trivial⟩) (ro rfl (nF (Ht rfl) cV) (eX (dQ (Ht rfl) (fun hc=>?_) (fun hc=>?_)))))))))))
  ·have hle : y.natAbs ≤ x.natAbs := Uz (by simpa using hc)
   refine cK (fJ (m:=7) (dp 2 rfl (eZ jP (Ht rfl) rfl) (dq 24 0 rfl (eY A_4 Z_4 (Ht rfl) (i:=0) rfl rfl) (dp 2 rfl (eZ eN (Ht rfl) rfl) (dq 26 2 rfl (eY A_28 Z_28 (Ht rfl) (i:=0) rfl rfl) (dp 3 rfl (eZ eN (Ht rfl) rfl) (dq 28 4 rfl (eY A_28 Z_28 (Ht rfl) (i:=1) rfl rfl) (eD 27 3 29 5 rfl (cZ Tryz.call199 (Yu zo zo) ⟨(Ht rfl),(Ht rfl),trivial⟩) (fW aT rfl (by kernel_rfl) (zF (aJ (aJ (aJ (aV ?_))))))))))))))
   refine ro rfl (cZ K_197 mM ⟨(Ht rfl),(Ht rfl),trivial⟩) (gZ Z_30 (Ht rfl) (Ht rfl) rfl (i:=2) rfl (aK rfl) rfl rfl (eX (fG rfl (fZ (fU A_30 Z_30 rfl (i:=2) rfl rfl) ?_))))
   exact (oI (Fr he hle))
  ·have hle : x.natAbs ≤ y.natAbs := Nat.le_of_lt (Va (by simpa using hc))
   refine cU (cK (fJ (m:=7) (dp 3 rfl (eZ jP (Ht rfl) rfl) (dq 32 0 rfl (eY A_4 Z_4 (Ht rfl) (i:=1) rfl rfl) (dp 3 rfl (eZ eN (Ht rfl) rfl) (dq 34 2 rfl (eY A_28 Z_28 (Ht rfl) (i:=1) rfl rfl) (dp 2 rfl (eZ eN (Ht rfl) rfl) (dq 36 4 rfl (eY A_28 Z_28 (Ht rfl) (i:=0) rfl rfl) (eD 35 3 37 5 rfl (cZ Tryz.call199 (Yu zo zo) ⟨(Ht rfl),(Ht rfl),trivial⟩) (fW aT rfl (by kernel_rfl) (zF (aJ (aJ (aJ (aV ?_)))))))))))))))
   refine ro rfl (cZ K_197 mM ⟨(Ht rfl),(Ht rfl),trivial⟩) (gZ Z_30 (Ht rfl) (Ht rfl) rfl (i:=2) rfl (aK rfl) rfl rfl (eX (fG rfl (fZ (fU A_30 Z_30 rfl (i:=2) rfl rfl) ?_))))
   exact (oI (by rw [Fr (Ne.symm he) hle,Int.add_comm]))
theorem qO {x y:Int} (hx:(dg x.natAbs).length ≤ 17592186044416) (hy:(dg y.natAbs).length ≤ 17592186044416):bA Tryz.prog 105 [iI x,iI y] (iI (x * y)):=by
 refine bA.intro Tryz.func105 rfl Tryz.ntmps105 rfl (fun cx=>(ts (rn rfl (fK (Ht rfl)) fun B2=>(rn rfl (fK (Ht rfl)) fun B3=>(rn rfl (eW (Ts:=[Is (.bool false),Is (.slice none 0 0)]) O_30 rfl (fun V=>aW zd (aW zd (aG)))) fun B4=>(eX (cK (fJ (m:=10) (dp 2 rfl (eZ jP (Ht rfl) rfl) (dq 5 0 rfl (eY A_4 Z_4 (Ht rfl) (i:=0) rfl rfl) (dp 3 rfl (eZ jP (Ht rfl) rfl) (dq 7 2 rfl (eY A_4 Z_4 (Ht rfl) (i:=1) rfl rfl) (eD 6 1 8 3 rfl (a0D Tryz.runUnderlying4 (Ht rfl) (Ht rfl)) ?_)))))))))))))
 refine dp 2 rfl (eZ eN (Ht rfl) rfl) (dq 10 5 rfl (eY A_28 Z_28 (Ht rfl) (i:=0) rfl rfl) (dp 3 rfl (eZ eN (Ht rfl) rfl) (dq 12 7 rfl (eY A_28 Z_28 (Ht rfl) (i:=1) rfl rfl) (eD 11 6 13 8 rfl (cZ Tryz.call110 (Ec zo zo) ⟨(Ht rfl),(Ht rfl),trivial⟩) (fW aT rfl (by kernel_rfl) (zF (zF (aJ (aJ (aV (ro rfl (cZ K_197 mM ⟨(Ht rfl),(Ht rfl),trivial⟩) (gZ Z_30 (Ht rfl) (Ht rfl) rfl (i:=2) rfl (aK rfl) rfl rfl ?_))))))))))))
 refine eX (fG rfl (fZ (fU A_30 Z_30 rfl (i:=2) rfl rfl) ?_))
 exact (oI (Na x y))
theorem jY {x:Int} {n:Nat} (hx:(dg x.natAbs).length ≤ 17592186044416) (hn:(dg n).length ≤ 17592186044416):bA Tryz.prog 111 [iI x,aL n] (iI (x * n)):=by
 refine bA.intro Tryz.func111 rfl Tryz.ntmps111 rfl (fun cx=>(ts (rn rfl (fK (Ht rfl)) fun B2=>(rn rfl (eW (Ts:=[Is (.bool false),Is (.slice none 0 0)]) O_30 rfl (fun V=>aW zd (aW zd (aG)))) fun B4=>(eX (cK (fJ (m:=6) (dp 2 rfl (eZ jP (Ht rfl) rfl) (dq 5 0 rfl (eY A_4 Z_4 (Ht rfl) (i:=0) rfl rfl) (dp 2 rfl (eZ eN (Ht rfl) rfl) (dq 7 2 rfl (eY A_28 Z_28 (Ht rfl) (i:=0) rfl rfl) (dp 1 rfl (cX (Ht rfl)) (eD 8 3 9 4 rfl (cZ Tryz.call110 (Ec zo zo) ⟨(Ht rfl),(Ht rfl),trivial⟩) ?_)))))))))))))
 refine fW aT rfl (by kernel_rfl) (zF (aJ (aJ (aV (ro rfl (cZ K_197 mM ⟨(Ht rfl),(Ht rfl),trivial⟩) (gZ Z_30 (Ht rfl) (Ht rfl) rfl (i:=1) rfl (aK rfl) rfl rfl (eX (fG rfl (fZ (fU A_30 Z_30 rfl (i:=1) rfl rfl) ?_)))))))))
 exact (oI (Ii x n))
theorem Cb {x y:Int} (hx:(dg x.natAbs).length ≤ 17592186044415) (hy:(dg y.natAbs).length ≤ 17592186044415):bA Tryz.prog 112 [iI x,iI y] (aF .i64 (rE x y)):=by
 have hny:=xP y
 have hs:=mN (x:=x) (y:=-y) hx zo
 refine bA.intro Tryz.func112 rfl Tryz.ntmps112 rfl (fun cx=>(ts (rn rfl (fK (Ht rfl)) fun B2=>(rn rfl (fK (Ht rfl)) fun B3=>(ro rfl (cQ (cJ 0)) (eX (cK (fJ (m:=5) (dp 2 rfl (eJ A_30 Z_30 (Ht rfl) (i:=0) rfl rfl rfl) (dp 3 rfl (eJ A_30 Z_30 (Ht rfl) (i:=1) rfl rfl rfl) (dq 7 1 rfl (cZ K_107 oM ⟨(Ht rfl),trivial⟩) (eD 6 0 8 2 rfl (cZ K_106 (uL zo zo) ⟨(Ht rfl),(Ht rfl),trivial⟩) (C.D_new (Ei:=[]) rfl rfl rfl bW (eW (Ts:=[Is (.bool false),Is (.slice none 0 0)]) O_30 rfl (fun V=>aW zd (aW zd (aG)))) ?_)))))))))))))
 refine fW aT rfl (by kernel_rfl) (zF (C.F_new (fun B5=>aV (gZ Z_30 (Ht rfl) (Ht rfl) rfl (i:=2) rfl (aK rfl) rfl rfl (eX (cK (ts (ro rfl (eZ jP (Ht rfl) rfl) (ro rfl (eY A_4 Z_4 (Ht rfl) (i:=2) rfl rfl) (eX (dQ (Ht rfl) (fun hb=>?_) (fun hb=>?_))))))))))))
 ·have hn : x + -y < 0 := by simpa using hb
  refine ts (ro rfl (cQ cV) (eX (fG rfl (fZ (eU rfl) ?_))))
  exact (bR (Uy hn))
 ·have hn : ¬ x + -y < 0 := by simpa using hb
  refine cU (ts (ro rfl (eZ eN (Ht rfl) rfl) (ro rfl (eY A_28 Z_28 (Ht rfl) (i:=2) rfl rfl) (ro rfl (dK U_28 (Ht rfl) aC) (ro rfl (Kl (Ht rfl) (cJ 1)) (ra rfl (eX (fG rfl (fZ (eU rfl) ?_)))))))))
  exact (bR (Ux hn))
end
section
open Go Go.RowKit
theorem Ok {n : Nat} {E : cB} {H : Hp} {d : Option Tmp} {t : TypeId} {pos : String} {af : Array Edge} {g : Option (Nat × Bool)} {x0 : Operand} {T0 T1 : Ty} (h0 : aA E x0 (dL [T0, T1])) :
  aM Tryz.prog n E H ⟨d,.build 32 #[(0,x0)],t,pos,af,g⟩ (dL [T0,T1,Is (.bool false),Is (.slice none 0 0),Is (.slice none 0 0)]) :=
 iY (parts := [(0, x0)]) fun a V w hs => by
  obtain ⟨v0,e0,c0⟩:=h0 n V a hs
  obtain ⟨c0_0,c0_1,rfl⟩:∃ c0_0 c0_1,v0 = [c0_0,c0_1]:=Qt (by simpa using c0.length)
  refine ⟨.agg #[c0_0,c0_1,(.bool false),(.slice none 0 0),(.slice none 0 0)],?_,[c0_0,c0_1,(.bool false),(.slice none 0 0),(.slice none 0 0)],rfl,aW (c0.at (i:=0) rfl rfl) (aW (c0.at (i:=1) rfl rfl) (aW (⟨rfl,trivial⟩) (aW (⟨rfl,trivial⟩) (aW (⟨rfl,trivial⟩) (aG)))))⟩
  simp [e0,Instr.build,Instr.fill,Sem.run_bind,Result.andThen,iB,O_32,U_32,Z_28,Z_30]
theorem sO {n : Nat} {E : cB} {H : Hp} {d : Option Tmp} {t : TypeId} {pos : String} {af : Array Edge} {g : Option (Nat × Bool)} {x0 x1 x2 : Operand} {T0 T1 T2 T3 T4 : Ty} (h0 : aA E x0 (dL [T0, T1])) (h1 : aA E x1 (dL [T2, T3])) [s2 : dI T4 1 false] (h2 : aA E x2 T4) :
  aM Tryz.prog n E H ⟨d,.build 32 #[(0,x0),(1,x1),(2,x2)],t,pos,af,g⟩ (dL [T0,T1,T2,T3,T4]) :=
 iY (parts := [(0, x0), (1, x1), (2, x2)]) fun a V w hs => by
  obtain ⟨v0,e0,c0⟩:=h0 n V a hs
  obtain ⟨c0_0,c0_1,rfl⟩:∃ c0_0 c0_1,v0 = [c0_0,c0_1]:=Qt (by simpa using c0.length)
  obtain ⟨v1,e1,c1⟩:=h1 n V a hs
  obtain ⟨c1_0,c1_1,rfl⟩:∃ c1_0 c1_1,v1 = [c1_0,c1_1]:=Qt (by simpa using c1.length)
  have p2:=h2 n V a hs
  generalize e2:a.eval x2 = v2 at p2
  have q2:=(s2.ok v2 V p2).2.2 rfl
  refine ⟨.agg #[c0_0,c0_1,c1_0,c1_1,v2],?_,[c0_0,c0_1,c1_0,c1_1,v2],rfl,aW (c0.at (i:=0) rfl rfl) (aW (c0.at (i:=1) rfl rfl) (aW (c1.at (i:=0) rfl rfl) (aW (c1.at (i:=1) rfl rfl) (aW (⟨p2,q2⟩) (aG)))))⟩
  simp [e0,e1,e2,Instr.build,Instr.fill,Sem.run_bind,Result.andThen,iB,q2.cells,O_32,U_32,Z_28,Z_30]
theorem gE (a:Addr) (w:World):(Instr.fieldAt 32 (.pointer (some a)) 0).run Tryz.prog w = .ok (.pointer (some (a.add 0))) w:=by
 simp [Instr.fieldAt,Instr.sureAddr,fieldPlace,Sem.run_bind,Result.andThen,U_32,Z_30]
theorem gR (a:Addr) (w:World):(Instr.fieldAt 32 (.pointer (some a)) 1).run Tryz.prog w = .ok (.pointer (some (a.add 2))) w:=by
 simp [Instr.fieldAt,Instr.sureAddr,fieldPlace,Sem.run_bind,Result.andThen,U_32,Z_30]
theorem oP (a:Addr) (w:World):(Instr.fieldAt 32 (.pointer (some a)) 2).run Tryz.prog w = .ok (.pointer (some (a.add 4))) w:=by
 simp [Instr.fieldAt,Instr.sureAddr,fieldPlace,Sem.run_bind,Result.andThen,U_32,Z_28]
end
section
open Go Go.RowKit
theorem uK {A B:Int} {D:Nat} (hD:0 < D) (hA:(dg A.natAbs).length ≤ 17592186044415) (hB:(dg B.natAbs).length ≤ 17592186044415) (hD2:(dg D).length ≤ 17592186044415):bA Tryz.prog 108 [iI A,iI B,aL D] (aE (Qi.mk' A B D)):=by
 have hg1:=Px hA hB
 have hg2:=Px hg1 hD2
 have hgp:Nat.gcd (Nat.gcd A.natAbs B.natAbs) D ≠ 0:=fun e=>by have:=Nat.gcd_eq_zero_iff.1 e; omega
 refine bA.intro Tryz.func108 rfl Tryz.ntmps108 rfl (fun cx=>(ts (rn rfl (fK (Ht rfl)) fun B3=>(rn rfl (fK (Ht rfl)) fun B4=>(rn rfl (eW (Ts:=[Is (.bool false),Is (.slice none 0 0),Is (.bool false),Is (.slice none 0 0),Is (.slice none 0 0)]) O_32 rfl (fun V=>aW zd (aW zd (aW zd (aW zd (aW zd (aG))))))) fun B6=>(eX (ts (ro rfl (eZ eN (Ht rfl) rfl) (ro rfl (eY A_28 Z_28 (Ht rfl) (i:=0) rfl rfl) ?_)))))))))
 refine ro rfl (eZ eN (Ht rfl) rfl) (ro rfl (eY A_28 Z_28 (Ht rfl) (i:=1) rfl rfl) (ro rfl (cZ Tryz.call200 (Yr zo zo) ⟨(Ht rfl),(Ht rfl),trivial⟩) (rm rfl (ro rfl (cZ Tryz.call200 (Yr zo zo) ⟨(Ht rfl),(Ht rfl),trivial⟩) (ra rfl (eX (cK (kX (fun (uu:Unit)=>True) (fun (uu:Unit)=>[(2,aL (D / (Nat.gcd (Nat.gcd A.natAbs B.natAbs) D))),(3,eH B3 0),(4,eH B4 0),(6,eH B6 0)]) (fun (uu:Unit)=>[box B3 30 [aD (decide (A < 0)),aL (A.natAbs / (Nat.gcd (Nat.gcd A.natAbs B.natAbs) D))],box B4 30 [aD (decide (B < 0)),aL (B.natAbs / (Nat.gcd (Nat.gcd A.natAbs B.natAbs) D))],box B6 32 [Is (.bool false),Is (.slice none 0 0),Is (.bool false),Is (.slice none 0 0),Is (.slice none 0 0)]]) ?_ (fun uu _=>?_)))))))))
 ·refine ts (rm rfl (ro rfl (cZ Tryz.call201 Ys ⟨(Ht rfl), trivial⟩) (ro rfl (dE (Ht rfl)) (eX (dQ (Ht rfl) (fun hb => ?_) (fun hb => ?_))))))
  ·simp at hb
   refine ts (ro rfl (eZ eN (Ht rfl) rfl) (ro rfl (eY A_28 Z_28 (Ht rfl) (i:=0) rfl rfl) (rm rfl (ro rfl (cZ Tryz.call202 (Jl zo zo zo) ⟨(Ht rfl),(Ht rfl),trivial⟩) (rm rfl (ro rfl (dU (Ht rfl) rfl) (ro rfl (dU (Ht rfl) rfl) (ro rfl (eZ eN (Ht rfl) rfl) (jL Z_28 (Ht rfl) (Ht rfl) (i:=0) rfl (aK rfl) rfl (eX (ts (ro rfl (eZ eN (Ht rfl) rfl) (ro rfl (eY A_28 Z_28 (Ht rfl) (i:=1) rfl rfl) (rm rfl (ro rfl (cZ Tryz.call202 (Jl zo zo zo) ⟨(Ht rfl),(Ht rfl),trivial⟩) ?_)))))))))))))))
   refine rm rfl (ro rfl (dU (Ht rfl) rfl) (ro rfl (dU (Ht rfl) rfl) (ro rfl (eZ eN (Ht rfl) rfl) (jL Z_28 (Ht rfl) (Ht rfl) (i:=1) rfl (aK rfl) rfl (eX (cY (rm rfl (rm rfl (ro rfl (cZ Tryz.call202 (Jl zo zo zo) ⟨(Ht rfl),(Ht rfl),trivial⟩) (rm rfl (ro rfl (dU (Ht rfl) rfl) (ro rfl (dU (Ht rfl) rfl) (ra rfl (eX (bT () trivial (zS rfl) (aU (aP (by first | rfl | simp)) (aU (aP (by first | rfl | simp)) (aU (aP rfl) aY))))))))))))))))))
  ·simp at hb
   refine cU (bT () trivial (aZ rfl (gF (by rw [hb,Nat.div_one])) (zS rfl)) (aU (aP (by rw [hb,Nat.div_one])) (aU (aP (by rw [hb,Nat.div_one])) (aU (aP rfl) aY))))
 ·refine cK (kX (fun (uu : Unit) => True) (fun (uu : Unit) => [(2, aL (if D / (Nat.gcd (Nat.gcd A.natAbs B.natAbs) D) = 1 then 0 else D / (Nat.gcd (Nat.gcd A.natAbs B.natAbs) D))), (3, eH B3 0), (4, eH B4 0), (6, eH B6 0)]) (fun (uu : Unit) => [box B3 30 [aD (decide (A < 0)), aL (A.natAbs / (Nat.gcd (Nat.gcd A.natAbs B.natAbs) D))], box B4 30 [aD (decide (B < 0)), aL (B.natAbs / (Nat.gcd (Nat.gcd A.natAbs B.natAbs) D))], box B6 32 [Is (.bool false), Is (.slice none 0 0), Is (.bool false), Is (.slice none 0 0), Is (.slice none 0 0)]]) ?_ (fun uu _ => ?_))
  ·refine ts (rm rfl (ro rfl (cZ Tryz.call201 Ys ⟨(Ht rfl), trivial⟩) (eX (dQ (Ht rfl) (fun hb => ?_) (fun hb => ?_)))))
   ·simp only [decide_eq_true_eq] at hb
    refine cY (ro rfl (cQ cV) (eX (bT () trivial (aZ rfl (fun v V h=>gF (by rw [if_pos hb]) v V (lU v V h)) (zS rfl)) (eS.refl _))))
   ·simp only [decide_eq_false_iff_not] at hb
    refine cU (bT () trivial (aZ rfl (gF (by rw [if_neg hb])) (zS rfl)) (eS.refl _))
  ·refine ts (ro rfl (eJ A_30 Z_30 (Ht rfl) (i := 0) rfl rfl rfl) (ro rfl (eJ A_30 Z_30 (Ht rfl) (i := 1) rfl rfl rfl) (rm rfl (ro rfl (sO (Ht rfl) (Ht rfl) (Ht rfl)) (gZ Z_32 (Ht rfl) (Ht rfl) rfl (i := 2) rfl (aK rfl) rfl rfl (eX (fG rfl (fZ (fU A_32 Z_32 rfl (i := 2) rfl rfl) ?_))))))))
   exact (Xj hD)
theorem nO {x:Qi}:bA Tryz.prog 109 [aE x] (aL x.den):=by
 refine bA.intro Tryz.func109 rfl Tryz.ntmps109 rfl (fun cx=>(ts (rn rfl (fK (Ht rfl)) fun B1=>(ro rfl (cQ cV) (eX (cK (ts (ro rfl (eZ oP (Ht rfl) rfl) (ro rfl (eY A_28 Z_28 (Ht rfl) (i:=0) rfl rfl) (ro rfl (dK U_28 (Ht rfl) aC) (ro rfl (dN (Ht rfl) (cJ 0)) (eX (dQ (Ht rfl) (fun hb=>?_) (fun hb=>?_))))))))))))))
 ·simp at hb
  have h1:x.den = 1:=vW (bD.1 (by simpa using hb))
  refine ts (ro rfl (eO (xs:=[_]) U_28 Z_24 Tryz.zeroValue24 (cW (cJ 1) cG) rfl rfl rfl) (ra rfl (eX (fG rfl (fZ (eU rfl) ?_)))))
  exact (fun v V h=>gF h1.symm v V (Fh v V h))
 ·simp at hb
  have h1:du x = x.den:=sW (fun e=>hb (by simp [e,fF]))
  refine cU (ts (ro rfl (eZ oP (Ht rfl) rfl) (ro rfl (eY A_28 Z_28 (Ht rfl) (i:=0) rfl rfl) (ra rfl (eX (fG rfl (fZ (eU rfl) ?_)))))))
  exact (gF h1)
theorem vC {n:Int} (h1:-9223372036854775808 ≤ n) (h2:n ≤ 9223372036854775807):bA Tryz.prog 36 [aF .i64 n] (aE (Qi.ofInt n)):=by
 refine bA.intro Tryz.func36 rfl Tryz.ntmps36 rfl (fun cx=>(ts (rn rfl (eW (Ts:=[Is (.bool false),Is (.slice none 0 0),Is (.bool false),Is (.slice none 0 0),Is (.slice none 0 0)]) O_32 rfl (fun V=>aW zd (aW zd (aW zd (aW zd (aW zd (aG))))))) fun B2=>(eX (ts (rm rfl (ro rfl (cZ Tryz.call115 (Bz h1 h2) ⟨(Ht rfl),trivial⟩) (ro rfl (Ok (Ht rfl)) (gZ Z_32 (Ht rfl) (Ht rfl) rfl (i:=0) rfl (aK rfl) rfl rfl ?_)))))))))
 refine eX (fG rfl (fZ (fU A_32 Z_32 rfl (i:=0) rfl rfl) ?_))
 exact Ki
theorem a1r {p q d:Int} (p1:-9223372036854775808 ≤ p) (p2:p ≤ 9223372036854775807) (q1:-9223372036854775808 ≤ q) (q2:q ≤ 9223372036854775807) (d1:-9223372036854775808 ≤ d) (d2:d ≤ 9223372036854775807) (hd:d ≠ 0):bA Tryz.prog 81 [aF .i64 p,aF .i64 q,aF .i64 d] (fB [aE (Qi.frac p q d),aF .i64 0]):=by
 have lp:=a0k p1 p2; have lq:=a0k q1 q2; have ld:=a0k d1 d2; have np:=xP p; have nq:=xP q
 refine bA.intro Tryz.func81 rfl Tryz.ntmps81 rfl (fun cx=>(ts (rn rfl (eW (Ts:=[Is (.bool false),Is (.slice none 0 0),Is (.bool false),Is (.slice none 0 0),Is (.slice none 0 0)]) O_32 rfl (fun V=>aW zd (aW zd (aW zd (aW zd (aW zd (aG))))))) fun B6=>(ro rfl (cQ (cJ 0)) (eX (cK (ts (rm rfl (ro rfl (kQ (Ht rfl) cV) (eX (cL (Ht rfl) (by simp [hd]) ?_)))))))))))
 refine cU (ts (rm rfl (ro rfl (cZ Tryz.call115 (Bz p1 p2) ⟨(Ht rfl),trivial⟩) (rm rfl (ro rfl (cZ Tryz.call115 (Bz q1 q2) ⟨(Ht rfl),trivial⟩) (rm rfl (ro rfl (cZ Tryz.call115 (Bz d1 d2) ⟨(Ht rfl),trivial⟩) (rn rfl (eW (Ts:=[Is (.bool false),Is (.slice none 0 0)]) O_30 rfl (fun V=>aW zd (aW zd (aG)))) fun B8=>(rn rfl (eW (Ts:=[Is (.bool false),Is (.slice none 0 0)]) O_30 rfl (fun V=>aW zd (aW zd (aG)))) fun B9=>?_)))))))))
 refine rn rfl (eW (Ts:=[Is (.bool false),Is (.slice none 0 0)]) O_30 rfl (fun V=>aW zd (aW zd (aG)))) fun B10=>gZ Z_30 (Ht rfl) (Ht rfl) rfl (i:=1) rfl (aK rfl) rfl rfl (gZ Z_30 (Ht rfl) (Ht rfl) rfl (i:=2) rfl (aK rfl) rfl rfl (gZ Z_30 (Ht rfl) (Ht rfl) rfl (i:=3) rfl (aK rfl) rfl rfl (eX (cK (sK (fun (a:Int) (b:Int)=>Qi.mk' a b d.natAbs = Qi.frac p q d ∧ (dg a.natAbs).length ≤ 2 ∧ (dg b.natAbs).length ≤ 2) (fun (a:Int) (b:Int)=>[(6,eH B6 0),(8,eH B8 0),(9,eH B9 0),(10,eH B10 0)]) (fun (a:Int) (b:Int)=>[box B6 32 [Is (.bool false),Is (.slice none 0 0),Is (.bool false),Is (.slice none 0 0),Is (.slice none 0 0)],box B8 30 [aD (decide (a < 0)),aL (a).natAbs],box B9 30 [aD (decide (b < 0)),aL (b).natAbs],box B10 30 [aD (decide (d < 0)),aL (d).natAbs]]) ?_ (fun a b ⟨hab,ha,hb⟩=>?_))))))
 ·refine ts (ro rfl (eZ jP (Ht rfl) rfl) (ro rfl (eY A_4 Z_4 (Ht rfl) (i := 3) rfl rfl) (eX (dQ (Ht rfl) (fun hn => ?_) (fun hn => ?_)))))
  ·simp only [decide_eq_true_eq] at hn
   refine fJ (m:=3) (dp 8 rfl (eJ A_30 Z_30 (Ht rfl) (i:=1) rfl rfl rfl) (dq 22 0 rfl (cZ K_107 oM ⟨(Ht rfl),trivial⟩) (dp 9 rfl (eJ A_30 Z_30 (Ht rfl) (i:=2) rfl rfl rfl) (fW aT rfl (by kernel_rfl) (aJ (aJ (aJ (aV (ro rfl (cZ K_107 oM ⟨(Ht rfl),trivial⟩) (gZ Z_30 (Ht rfl) (Ht rfl) rfl (i:=1) rfl (aK rfl) rfl rfl (gZ Z_30 (Ht rfl) (Ht rfl) rfl (i:=2) rfl (aK rfl) rfl rfl (eX (bT (-p,-q) ⟨Qi.frac_neg hn,by dsimp only; omega,by dsimp only; omega⟩ (zS rfl) (aU (aP rfl) (aU (aP rfl) (aU (aP rfl) (aU (aP rfl) aY)))))))))))))))))
  ·simp only [decide_eq_false_iff_not] at hn
   refine cU (bT (p,q) ⟨Qi.frac_pos hn hd,by omega,by omega⟩ (zS rfl) (eS.refl _))
 ·refine ts (ro rfl (eJ A_30 Z_30 (Ht rfl) (i := 1) rfl rfl rfl) (ro rfl (eJ A_30 Z_30 (Ht rfl) (i := 2) rfl rfl rfl) (ro rfl (eZ eN (Ht rfl) rfl) (ro rfl (eY A_28 Z_28 (Ht rfl) (i := 3) rfl rfl) (ro rfl (cZ K_108 (uK zo zo zo zo) ⟨(Ht rfl), (Ht rfl), (Ht rfl), trivial⟩) (gZ Z_32 (Ht rfl) (Ht rfl) rfl (i := 0) rfl (aK rfl) rfl rfl (ro rfl (cQ (cJ 0)) (eX (cT rfl (fZ (fU A_32 Z_32 rfl (i := 0) rfl rfl) ?_) (eU rfl))))))))))
  exact (gM hab)
theorem a25 {x y:Qi}:bA Tryz.prog 318 [aE x,aE y] (aE y):=by
 refine bA.intro Tryz.func318 rfl Tryz.ntmps318 rfl (fun cx=>(ts (rn rfl (fK (Ht rfl)) fun B2=>(rn rfl (fK (Ht rfl)) fun B3=>(rn rfl (eW (Ts:=[Is (.bool false),Is (.slice none 0 0),Is (.bool false),Is (.slice none 0 0),Is (.slice none 0 0)]) O_32 rfl (fun V=>aW zd (aW zd (aW zd (aW zd (aW zd (aG))))))) fun B4=>(eX (ts (ro rfl (eJ A_32 Z_32 (Ht rfl) (i:=1) rfl rfl rfl) (gZ Z_32 (Ht rfl) (Ht rfl) rfl (i:=2) rfl (aK rfl) rfl rfl ?_)))))))))
 refine eX ?_
 exact fG rfl (fU A_32 Z_32 rfl (i:=2) rfl rfl)
theorem vB {x y:Qi} {L M:Nat} [hx:aI x L] [hy:aI y M] (h:L + M + 1 ≤ 17592186044415):bA Tryz.prog 33 [aE x,aE y] (aE (x + y)):=by
 have hxa:=mU hx.fit; have hxb:=mV hx.fit; have hxd:=mW hx.fit
 have hya:=mU hy.fit; have hyb:=mV hy.fit; have hyd:=mW hy.fit
 have hxp:=x.den_pos; have hyp:=y.den_pos; have hdp:=Nat.mul_pos hxp hyp
 have e1:=gD x.a y.den; have e2:=gD y.a x.den; have e3:=gD x.b y.den; have e4:=gD y.b x.den; have e5:=xO x.den y.den
 have e6:=mN (x:=x.a * y.den) (y:=y.a * x.den) (L:=L + M) zo zo; have e7:=mN (x:=x.b * y.den) (y:=y.b * x.den) (L:=L + M) zo zo
 refine bA.intro Tryz.func33 rfl Tryz.ntmps33 rfl (fun cx=>(ts (rn rfl (fK (Ht rfl)) fun B2=>(rn rfl (fK (Ht rfl)) fun B3=>(rn rfl (eW (Ts:=[Is (.bool false),Is (.slice none 0 0),Is (.bool false),Is (.slice none 0 0),Is (.slice none 0 0)]) O_32 rfl (fun V=>aW zd (aW zd (aW zd (aW zd (aW zd (aG))))))) fun B4=>(eX (cK (fJ (m:=3) (dp 2 rfl (eJ A_32 Z_32 (Ht rfl) (i:=0) rfl rfl rfl) (dq 7 0 rfl (cZ K_109 nO ⟨(Ht rfl),trivial⟩) ?_))))))))))
 refine dp 3 rfl (eJ A_32 Z_32 (Ht rfl) (i:=1) rfl rfl rfl) (fW aT rfl (by kernel_rfl) (aJ (aJ (aJ (aV (ro rfl (cZ K_109 nO ⟨(Ht rfl),trivial⟩) (ra rfl (ra rfl (eX (cK (fJ (m:=20) (dp 2 rfl (eZ gE (Ht rfl) rfl) (dq 11 0 rfl (eJ A_30 Z_30 (Ht rfl) (i:=0) rfl rfl rfl) (dp 6 rfl (cX (Ht rfl)) (eD 12 1 13 2 rfl (cZ K_111 (jY zo zo) ⟨(Ht rfl),(Ht rfl),trivial⟩) (dp 3 rfl (eZ gE (Ht rfl) rfl) (dq 15 4 rfl (eJ A_30 Z_30 (Ht rfl) (i:=1) rfl rfl rfl) ?_)))))))))))))))))
 refine dp 5 rfl (cX (Ht rfl)) (eD 16 5 17 6 rfl (cZ K_111 (jY zo zo) ⟨(Ht rfl),(Ht rfl),trivial⟩) (eD 14 3 18 7 rfl (cZ K_106 (uL zo zo) ⟨(Ht rfl),(Ht rfl),trivial⟩) (dp 2 rfl (eZ gR (Ht rfl) rfl) (dq 20 9 rfl (eJ A_30 Z_30 (Ht rfl) (i:=0) rfl rfl rfl) (dp 6 rfl (cX (Ht rfl)) (eD 21 10 22 11 rfl (cZ K_111 (jY zo zo) ⟨(Ht rfl),(Ht rfl),trivial⟩) (dp 3 rfl (eZ gR (Ht rfl) rfl) (dq 24 13 rfl (eJ A_30 Z_30 (Ht rfl) (i:=1) rfl rfl rfl) ?_))))))))
 refine dp 5 rfl (cX (Ht rfl)) (eD 25 14 26 15 rfl (cZ K_111 (jY zo zo) ⟨(Ht rfl),(Ht rfl),trivial⟩) (eD 23 12 27 16 rfl (cZ K_106 (uL zo zo) ⟨(Ht rfl),(Ht rfl),trivial⟩) (dp 5 rfl (cX (Ht rfl)) (dp 6 rfl (cX (Ht rfl)) (fW aT rfl (by kernel_rfl) (zF (zF (zF (zF (zF (aV (ro rfl (cZ Tryz.call110 (Ec zo zo) ⟨(Ht rfl),(Ht rfl),trivial⟩) ?_))))))))))))
 refine ro rfl (cZ K_108 (uK (by first | assumption | omega) zo zo zo) ⟨(Ht rfl),(Ht rfl),(Ht rfl),trivial⟩) (gZ Z_32 (Ht rfl) (Ht rfl) rfl (i:=2) rfl (aK rfl) rfl rfl (eX (fG rfl (fZ (fU A_32 Z_32 rfl (i:=2) rfl rfl) ?_))))
 exact (gM (Qi.mk_add x y))
theorem a1q {x:Qi}:bA Tryz.prog 114 [aE x] (aE (-x)):=by
 refine bA.intro Tryz.func114 rfl Tryz.ntmps114 rfl (fun cx=>(ts (rn rfl (fK (Ht rfl)) fun B1=>(rn rfl (eW (Ts:=[Is (.bool false),Is (.slice none 0 0),Is (.bool false),Is (.slice none 0 0),Is (.slice none 0 0)]) O_32 rfl (fun V=>aW zd (aW zd (aW zd (aW zd (aW zd (aG))))))) fun B2=>(eX (cK (fJ (m:=8) (dp 1 rfl (eZ gE (Ht rfl) rfl) (dq 3 0 rfl (eJ A_30 Z_30 (Ht rfl) (i:=0) rfl rfl rfl) (dq 4 1 rfl (cZ K_107 oM ⟨(Ht rfl),trivial⟩) ?_))))))))))
 refine dp 1 rfl (eZ gR (Ht rfl) rfl) (dq 6 3 rfl (eJ A_30 Z_30 (Ht rfl) (i:=0) rfl rfl rfl) (dq 7 4 rfl (cZ K_107 oM ⟨(Ht rfl),trivial⟩) (dp 1 rfl (eZ oP (Ht rfl) rfl) (dq 9 6 rfl (eY A_28 Z_28 (Ht rfl) (i:=0) rfl rfl) (fW aT rfl (by kernel_rfl) (zF (zF (aV (ro rfl (sO (Ht rfl) (Ht rfl) (Ht rfl)) (gZ Z_32 (Ht rfl) (Ht rfl) rfl (i:=1) rfl (aK rfl) rfl rfl (eX (fG rfl (fZ (fU A_32 Z_32 rfl (i:=1) rfl rfl) ?_)))))))))))))
 exact (uH (by obtain ⟨e1,e2,e3⟩:=Qi.neg_a x; rw [e1,e2,a1z e3]; rfl))
theorem sQ {x y:Qi} {L M:Nat} [hx:aI x L] [hy:aI y M] (h:L + M + 1 ≤ 17592186044415):bA Tryz.prog 32 [aE x,aE y] (aE (x - y)):=by
 have hxa:=mU hx.fit; have hxb:=mV hx.fit; have hxd:=mW hx.fit
 have hya:=mU hy.fit; have hyb:=mV hy.fit; have hyd:=mW hy.fit
 have hxp:=x.den_pos; have hyp:=y.den_pos; have hdp:=Nat.mul_pos hxp hyp
 refine bA.intro Tryz.func32 rfl Tryz.ntmps32 rfl (fun cx=>(ts (rn rfl (fK (Ht rfl)) fun B2=>(rn rfl (fK (Ht rfl)) fun B3=>(rn rfl (eW (Ts:=[Is (.bool false),Is (.slice none 0 0),Is (.bool false),Is (.slice none 0 0),Is (.slice none 0 0)]) O_32 rfl (fun V=>aW zd (aW zd (aW zd (aW zd (aW zd (aG))))))) fun B4=>(eX (cK (fJ (m:=3) (dp 2 rfl (eJ A_32 Z_32 (Ht rfl) (i:=0) rfl rfl rfl) (dp 3 rfl (eJ A_32 Z_32 (Ht rfl) (i:=1) rfl rfl rfl) ?_))))))))))
 refine dq 6 1 rfl (cZ Tryz.call114 a1q ⟨(Ht rfl),trivial⟩) (fW aT rfl (by kernel_rfl) (aJ (aJ (aJ (aV (ro rfl (cZ K_33 (vB zo) ⟨(Ht rfl),(Ht rfl),trivial⟩) (gZ Z_32 (Ht rfl) (Ht rfl) rfl (i:=2) rfl (aK rfl) rfl rfl (eX (fG rfl (fZ (fU A_32 Z_32 rfl (i:=2) rfl rfl) ?_))))))))))
 exact (gM (Qi.sub_def x y).symm)
theorem iQ {x y:Qi} {L M:Nat} [hx:aI x L] [hy:aI y M] (h:L + M + 1 ≤ 17592186044415):bA Tryz.prog 29 [aE x,aE y] (aE (x * y)):=by
 have hxa:=mU hx.fit; have hxb:=mV hx.fit; have hxd:=mW hx.fit
 have hya:=mU hy.fit; have hyb:=mV hy.fit; have hyd:=mW hy.fit
 have hxp:=x.den_pos; have hyp:=y.den_pos; have hdp:=Nat.mul_pos hxp hyp
 have e1:=mO x.a y.a; have e2:=mO x.b y.b; have e3:=mO x.a y.b; have e4:=mO x.b y.a; have e5:=xO x.den y.den; have e8:=xP (x.b * y.b)
 have e6:=mN (x:=x.a * y.a) (y:=-(x.b * y.b)) (L:=L + M) zo zo; have e7:=mN (x:=x.a * y.b) (y:=x.b * y.a) (L:=L + M) zo zo
 refine bA.intro Tryz.func29 rfl Tryz.ntmps29 rfl (fun cx=>(ts (rn rfl (fK (Ht rfl)) fun B2=>(rn rfl (fK (Ht rfl)) fun B3=>(rn rfl (eW (Ts:=[Is (.bool false),Is (.slice none 0 0),Is (.bool false),Is (.slice none 0 0),Is (.slice none 0 0)]) O_32 rfl (fun V=>aW zd (aW zd (aW zd (aW zd (aW zd (aG))))))) fun B4=>(eX (cK (fJ (m:=13) (dp 2 rfl (eZ gE (Ht rfl) rfl) (dq 7 0 rfl (eJ A_30 Z_30 (Ht rfl) (i:=0) rfl rfl rfl) ?_))))))))))
 refine dp 3 rfl (eZ gE (Ht rfl) rfl) (dq 9 2 rfl (eJ A_30 Z_30 (Ht rfl) (i:=1) rfl rfl rfl) (eD 8 1 10 3 rfl (cZ K_105 (qO zo zo) ⟨(Ht rfl),(Ht rfl),trivial⟩) (dp 2 rfl (eZ gR (Ht rfl) rfl) (dq 12 5 rfl (eJ A_30 Z_30 (Ht rfl) (i:=0) rfl rfl rfl) (dp 3 rfl (eZ gR (Ht rfl) rfl) (dq 14 7 rfl (eJ A_30 Z_30 (Ht rfl) (i:=1) rfl rfl rfl) (eD 13 6 15 8 rfl (cZ K_105 (qO zo zo) ⟨(Ht rfl),(Ht rfl),trivial⟩) (dq 16 9 rfl (cZ K_107 oM ⟨(Ht rfl),trivial⟩) ?_))))))))
 refine eD 11 4 17 10 rfl (cZ K_106 (uL zo zo) ⟨(Ht rfl),(Ht rfl),trivial⟩) (C.D_new (Ei:=[]) rfl rfl rfl bW (eW (Ts:=[Is (.bool false),Is (.slice none 0 0)]) O_30 rfl (fun V=>aW zd (aW zd (aG)))) (fW aT rfl (by kernel_rfl) (zF (zF (zF (C.F_new (fun B5=>aV (gZ Z_30 (Ht rfl) (Ht rfl) rfl (i:=3) rfl (aK rfl) rfl rfl (eX ?_)))))))))
 refine cK (fJ (m:=12) (dp 2 rfl (eZ gE (Ht rfl) rfl) (dq 19 0 rfl (eJ A_30 Z_30 (Ht rfl) (i:=0) rfl rfl rfl) (dp 3 rfl (eZ gR (Ht rfl) rfl) (dq 21 2 rfl (eJ A_30 Z_30 (Ht rfl) (i:=1) rfl rfl rfl) (eD 20 1 22 3 rfl (cZ K_105 (qO zo zo) ⟨(Ht rfl),(Ht rfl),trivial⟩) (dp 2 rfl (eZ gR (Ht rfl) rfl) (dq 24 5 rfl (eJ A_30 Z_30 (Ht rfl) (i:=0) rfl rfl rfl) (dp 3 rfl (eZ gE (Ht rfl) rfl) (dq 26 7 rfl (eJ A_30 Z_30 (Ht rfl) (i:=1) rfl rfl rfl) ?_))))))))))
 refine eD 25 6 27 8 rfl (cZ K_105 (qO zo zo) ⟨(Ht rfl),(Ht rfl),trivial⟩) (eD 23 4 28 9 rfl (cZ K_106 (uL zo zo) ⟨(Ht rfl),(Ht rfl),trivial⟩) (C.D_new (Ei:=[]) rfl rfl rfl bW (eW (Ts:=[Is (.bool false),Is (.slice none 0 0)]) O_30 rfl (fun V=>aW zd (aW zd (aG)))) (fW aT rfl (by kernel_rfl) (zF (zF (aJ (aJ (aJ (C.F_new (fun B6=>aV (gZ Z_30 (Ht rfl) (Ht rfl) rfl (i:=4) rfl (aK rfl) rfl rfl ?_)))))))))))
 refine eX (cK (fJ (m:=7) (dp 5 rfl (eJ A_30 Z_30 (Ht rfl) (i:=3) rfl rfl rfl) (dp 6 rfl (eJ A_30 Z_30 (Ht rfl) (i:=4) rfl rfl rfl) (dp 2 rfl (eJ A_32 Z_32 (Ht rfl) (i:=0) rfl rfl rfl) (dq 32 2 rfl (cZ K_109 nO ⟨(Ht rfl),trivial⟩) (dp 3 rfl (eJ A_32 Z_32 (Ht rfl) (i:=1) rfl rfl rfl) (dq 34 4 rfl (cZ K_109 nO ⟨(Ht rfl),trivial⟩) (eD 33 3 35 5 rfl (cZ Tryz.call110 (Ec zo zo) ⟨(Ht rfl),(Ht rfl),trivial⟩) (fW aT rfl (by kernel_rfl) (zF (aJ (aJ (aJ (aV ?_)))))))))))))))
 refine ro rfl (cZ K_108 (uK (by first | assumption | omega) zo zo zo) ⟨(Ht rfl),(Ht rfl),(Ht rfl),trivial⟩) (gZ Z_32 (Ht rfl) (Ht rfl) rfl (i:=2) rfl (aK rfl) rfl rfl (eX (fG rfl (fZ (fU A_32 Z_32 rfl (i:=2) rfl rfl) ?_))))
 exact (gM (Qi.mk_mul x y))
theorem jN {x:Qi} {L:Nat} [hx:aI x L] (h:L ≤ 17592186044415):bA Tryz.prog 34 [aE x] (aD (!decide (x = Qi.zero))):=by
 have hxa:=mU hx.fit; have hxb:=mV hx.fit; have hxd:=mW hx.fit
 refine bA.intro Tryz.func34 rfl Tryz.ntmps34 rfl (fun cx=>(ts (rn rfl (fK (Ht rfl)) fun B1=>(ro rfl (cQ cV) (eX (ts (ro rfl (eZ gE (Ht rfl) rfl) (ro rfl (eZ eN (Ht rfl) rfl) (ro rfl (eY A_28 Z_28 (Ht rfl) (i:=0) rfl rfl) (ro rfl (dK U_28 (Ht rfl) aC) (ro rfl (eZ gR (Ht rfl) rfl) (ro rfl (eZ eN (Ht rfl) rfl) (ro rfl (eY A_28 Z_28 (Ht rfl) (i:=0) rfl rfl) (ro rfl (dK U_28 (Ht rfl) aC) (ro rfl (dW (Ht rfl) (Ht rfl) z6) ?_)))))))))))))))
 refine ro rfl (iW (Ht rfl) (cJ 0)) (ra rfl (eX (fG rfl (fZ (eU rfl) ?_))))
 exact (fE (Pl x))
theorem Ox {x:Qi}:bA Tryz.prog 35 [aE x] (aD (decide (x.b = 0))):=by
 refine bA.intro Tryz.func35 rfl Tryz.ntmps35 rfl (fun cx=>(ts (rn rfl (fK (Ht rfl)) fun B1=>(ro rfl (cQ cV) (eX (ts (ro rfl (eZ gR (Ht rfl) rfl) (ro rfl (eZ eN (Ht rfl) rfl) (ro rfl (eY A_28 Z_28 (Ht rfl) (i:=0) rfl rfl) (ro rfl (dK U_28 (Ht rfl) aC) (ro rfl (dN (Ht rfl) (cJ 0)) (ra rfl (eX (fG rfl (fZ (eU rfl) ?_)))))))))))))))
 exact (fE (Xm x))
theorem Bw {x y:Qi} {L M:Nat} [hx:aI x L] [hy:aI y M] (h:L ≤ 17592186044415) (h2:M ≤ 17592186044415):bA Tryz.prog 45 [aE x,aE y] (aD (decide (x = y))):=by
 have hxa:=mU hx.fit; have hxb:=mV hx.fit; have hxd:=mW hx.fit
 have hya:=mU hy.fit; have hyb:=mV hy.fit; have hyd:=mW hy.fit
 have hxu:=Pw x; have hyu:=Pw y
 refine bA.intro Tryz.func45 rfl Tryz.ntmps45 rfl (fun cx=>(ts (rn rfl (fK (Ht rfl)) fun B2=>(rn rfl (fK (Ht rfl)) fun B3=>(ro rfl (cQ cV) (eX (ts (ro rfl (eZ gE (Ht rfl) rfl) (ro rfl (eJ A_30 Z_30 (Ht rfl) (i:=0) rfl rfl rfl) (ro rfl (eZ gE (Ht rfl) rfl) (ro rfl (eJ A_30 Z_30 (Ht rfl) (i:=1) rfl rfl rfl) (ro rfl (cZ Tryz.call112 (Cb zo zo) ⟨(Ht rfl),(Ht rfl),trivial⟩) (ro rfl (kQ (Ht rfl) cV) (rm rfl (fQ rfl rfl (eK rfl rfl (Ht rfl) (fun h=>eZ gR (Ht rfl) rfl)) ?_)))))))))))))))
 refine fQ rfl rfl (eK rfl rfl (Ht rfl) (fun h=>eJ A_30 Z_30 (fV rfl h) (i:=0) rfl rfl rfl)) (fQ rfl rfl (eK rfl rfl (Ht rfl) (fun h=>eZ gR (Ht rfl) rfl)) (fQ rfl rfl (eK rfl rfl (Ht rfl) (fun h=>eJ A_30 Z_30 (fV rfl h) (i:=1) rfl rfl rfl)) (fQ rfl rfl (eK rfl rfl (Ht rfl) (fun h=>cZ Tryz.call112 (Cb zo zo) ⟨(fV rfl h),(fV rfl h),trivial⟩)) (fQ rfl rfl (eK rfl rfl (Ht rfl) (fun h=>kQ (fV rfl h) cV)) (ro rfl (gA (Ht rfl) (fun h=>(fV rfl h))) ?_)))))
 refine rm rfl (fQ rfl rfl (eK rfl rfl (Ht rfl) (fun h=>eZ oP (Ht rfl) rfl)) (fQ rfl rfl (eK rfl rfl (Ht rfl) (fun h=>eY A_28 Z_28 (fV rfl h) (i:=0) rfl rfl)) (fQ rfl rfl (eK rfl rfl (Ht rfl) (fun h=>eZ oP (Ht rfl) rfl)) (fQ rfl rfl (eK rfl rfl (Ht rfl) (fun h=>eY A_28 Z_28 (fV rfl h) (i:=1) rfl rfl)) (fQ rfl rfl (eK rfl rfl (Ht rfl) (fun h=>cZ Tryz.call129 (Pa zo zo) ⟨(fV rfl h),(fV rfl h),trivial⟩)) (fQ rfl rfl (eK rfl rfl (Ht rfl) (fun h=>kQ (fV rfl h) cV)) ?_))))))
 refine ro rfl (gA (Ht rfl) (fun h=>(fV rfl h))) (ra rfl (eX (fG rfl (fZ (eU rfl) ?_))))
 exact (fE (Xu x y))
theorem a1o {x y:Qi} {L M:Nat} [hx:aI x L] [hy:aI y M] (h:L + M ≤ 17592186044415):bA Tryz.prog 30 [aE x,aE y] (aF .i64 (Hc x y)):=by
 have hxa:=mU hx.fit; have hxb:=mV hx.fit; have hxd:=mW hx.fit
 have hya:=mU hy.fit; have hyb:=mV hy.fit; have hyd:=mW hy.fit
 have e1:=gD x.a y.den; have e2:=gD y.a x.den; have e3:=gD x.b y.den; have e4:=gD y.b x.den
 refine bA.intro Tryz.func30 rfl Tryz.ntmps30 rfl (fun cx=>(ts (rn rfl (fK (Ht rfl)) fun B2=>(rn rfl (fK (Ht rfl)) fun B3=>(ro rfl (cQ (cJ 0)) (eX (cK (cK (fJ (m:=9) (dp 2 rfl (eZ gE (Ht rfl) rfl) (dq 6 0 rfl (eJ A_30 Z_30 (Ht rfl) (i:=0) rfl rfl rfl) (dp 3 rfl (eJ A_32 Z_32 (Ht rfl) (i:=1) rfl rfl rfl) (dq 8 2 rfl (cZ K_109 nO ⟨(Ht rfl),trivial⟩) (eD 7 1 9 3 rfl (cZ K_111 (jY zo zo) ⟨(Ht rfl),(Ht rfl),trivial⟩) (dp 3 rfl (eZ gE (Ht rfl) rfl) ?_)))))))))))))))
 refine dq 11 5 rfl (eJ A_30 Z_30 (Ht rfl) (i:=1) rfl rfl rfl) (dp 2 rfl (eJ A_32 Z_32 (Ht rfl) (i:=0) rfl rfl rfl) (dq 13 7 rfl (cZ K_109 nO ⟨(Ht rfl),trivial⟩) (fW aT rfl (by kernel_rfl) (zF (zF (aJ (aV (ro rfl (cZ K_111 (jY zo zo) ⟨(Ht rfl),(Ht rfl),trivial⟩) (ro rfl (cZ Tryz.call112 (Cb zo zo) ⟨(Ht rfl),(Ht rfl),trivial⟩) (ra rfl (eX (ts (rm rfl (ro rfl (fL (Ht rfl) cV) ?_))))))))))))))
 refine eX (dQ (Ht rfl) (fun hb=>?_) (fun hb=>?_))
 ·simp only [Bool.not_eq_true', decide_eq_false_iff_not] at hb
  refine ts (rm rfl (ra rfl (eX (fG rfl (fZ (eU rfl) ?_)))))
  exact (bR (by rw [Hc,if_pos hb]))
 ·simp only [Bool.not_eq_false', decide_eq_true_eq] at hb
  refine cU (cK (fJ (m:=9) (dp 2 rfl (eZ gR (Ht rfl) rfl) (dq 20 0 rfl (eJ A_30 Z_30 (Ht rfl) (i:=0) rfl rfl rfl) (dp 3 rfl (eJ A_32 Z_32 (Ht rfl) (i:=1) rfl rfl rfl) (dq 22 2 rfl (cZ K_109 nO ⟨(Ht rfl),trivial⟩) (eD 21 1 23 3 rfl (cZ K_111 (jY zo zo) ⟨(Ht rfl),(Ht rfl),trivial⟩) (dp 3 rfl (eZ gR (Ht rfl) rfl) (dq 25 5 rfl (eJ A_30 Z_30 (Ht rfl) (i:=1) rfl rfl rfl) (dp 2 rfl (eJ A_32 Z_32 (Ht rfl) (i:=0) rfl rfl rfl) ?_))))))))))
  refine dq 27 7 rfl (cZ K_109 nO ⟨(Ht rfl),trivial⟩) (fW aT rfl (by kernel_rfl) (zF (zF (aJ (aV (ro rfl (cZ K_111 (jY zo zo) ⟨(Ht rfl),(Ht rfl),trivial⟩) (ro rfl (cZ Tryz.call112 (Cb zo zo) ⟨(Ht rfl),(Ht rfl),trivial⟩) (ra rfl (eX (fG rfl (fZ (eU rfl) ?_)))))))))))
  exact (bR (by rw [Hc,if_neg (by simpa using hb)]))
end
section
open Go Go.RowKit
theorem Ua {n : Nat} {E : cB} {H : Hp} {d : Option Tmp} {t : TypeId} {pos : String} {af : Array Edge} {g : Option (Nat × Bool)}  :
  aM Tryz.prog n E H ⟨d,.build 30 #[],t,pos,af,g⟩ (dL [Is (.bool false),Is (.slice none 0 0)]) :=
 iY (parts := []) fun a V w hs => by
  refine ⟨.agg #[(.bool false),(.slice none 0 0)],?_,[(.bool false),(.slice none 0 0)],rfl,aW (⟨rfl,trivial⟩) (aW (⟨rfl,trivial⟩) (aG))⟩
  simp [Instr.build,Instr.fill,Sem.run_bind,Result.andThen,iB,O_30,U_30,Z_4,Z_28]
theorem Ch (a:Addr) (w:World):(Instr.fieldAt 23 (.pointer (some a)) 0).run Tryz.prog w = .ok (.pointer (some (a.add 0))) w:=by
 simp [Instr.fieldAt,Instr.sureAddr,fieldPlace,Sem.run_bind,Result.andThen,U_23,Z_2]
theorem Ci (a:Addr) (w:World):(Instr.fieldAt 23 (.pointer (some a)) 1).run Tryz.prog w = .ok (.pointer (some (a.add 1))) w:=by
 simp [Instr.fieldAt,Instr.sureAddr,fieldPlace,Sem.run_bind,Result.andThen,U_23,Z_2]
theorem sZ (a:Addr) (w:World):(Instr.fieldAt 23 (.pointer (some a)) 2).run Tryz.prog w = .ok (.pointer (some (a.add 2))) w:=by
 simp [Instr.fieldAt,Instr.sureAddr,fieldPlace,Sem.run_bind,Result.andThen,U_23,Z_2]
theorem iJ:Tryz.prog.info? 32 = some Tryz.t32:=by kernel_rfl
theorem jW:Tryz.prog.underlying 54 = some (.slice 32):=by kernel_rfl
end
section
open Go Go.RowKit
theorem Gz {a:Int} {d:Nat} (hd:0 < d) (ha:(dg a.natAbs).length ≤ 8796093022208) (hd2:(dg d).length ≤ 8796093022208):bA Tryz.prog 192 [iI a,aL d] (rD (tO a d)):=by
 have h1:=Fc a hd; have h2:=Fd a hd
 obtain ⟨x,hx⟩:∃ x,x = Qi.mk' a 0 d:=⟨_,rfl⟩
 rw [tO,← hx]
 rw [← hx] at h1 h2
 have h3:=sR x.a.natAbs; have h4:=sR x.den
 have h5:(dg (0:Int).natAbs).length ≤ 0:=by rw [show (0:Int).natAbs = 0 from rfl,fF]; exact Nat.le_refl _
 refine bA.intro Tryz.func192 rfl Tryz.ntmps192 rfl (fun cx=>(ts (rn rfl (fK (Ht rfl)) fun B2=>(ro rfl (cQ (aA.cS (l:=[]) rfl)) (eX (ts (ro rfl (eJ A_30 Z_30 (Ht rfl) (i:=0) rfl rfl rfl) (ro rfl (aM.imp (Ua ) Iu) (rm rfl (ro rfl (aM.imp (cZ K_108 (uK (by first | assumption | omega) zo zo zo) ⟨(Ht rfl),(Ht rfl),(Ht rfl),trivial⟩) (gM hx.symm)) (rn rfl (eW (Ts:=[Is (.bool false),Is (.slice none 0 0),Is (.bool false),Is (.slice none 0 0),Is (.slice none 0 0)]) O_32 rfl (fun V=>aW zd (aW zd (aW zd (aW zd (aW zd (aG))))))) fun B5=>?_)))))))))))
 refine gZ Z_32 (Ht rfl) (Ht rfl) rfl (i:=1) rfl (aK rfl) rfl rfl (eX (ts (ro rfl (eZ gE (Ht rfl) rfl) (ro rfl (eZ eN (Ht rfl) rfl) (ro rfl (eY A_28 Z_28 (Ht rfl) (i:=1) rfl rfl) (ro rfl (cZ Tryz.call243 (Eb zo) ⟨(Ht rfl),trivial⟩) (ra rfl (eX (cK (kX (fun (uu:Unit)=>True) (fun (uu:Unit)=>[(5,eH B5 0),(6,rD (if x.a < 0 then 45 :: xM x.a.natAbs else xM x.a.natAbs))]) (fun (uu:Unit)=>[box B2 30 [aD (decide (a < 0)),aL (a).natAbs],box B5 32 [aD (decide ((x).a < 0)),aL (x).a.natAbs,aD (decide ((x).b < 0)),aL (x).b.natAbs,aL (du (x))]]) ?_ (fun uu _=>?_)))))))))))
 ·refine ts (ro rfl (eZ gE (Ht rfl) rfl) (ro rfl (eZ jP (Ht rfl) rfl) (ro rfl (eY A_4 Z_4 (Ht rfl) (i := 1) rfl rfl) (eX (dQ (Ht rfl) (fun hb => ?_) (fun hb => ?_))))))
  ·simp only [decide_eq_true_eq] at hb
   refine cY (rm rfl (ro rfl (qX (aA.cS (l:=[45]) rfl) (Ht rfl) (by first | omega | (simp; omega))) (ra rfl (eX (bT () trivial (aQ rfl (aZ rfl (nI (by rw [if_pos hb]; rfl)) aX)) (aU (aP rfl) (aU (aP rfl) aY)))))))
  ·simp only [decide_eq_false_iff_not] at hb
   refine cU (bT () trivial (aQ rfl (aZ rfl (nI (by rw [if_neg hb])) aX)) (aU (aP rfl) (aU (aP rfl) aY)))
 ·have h6 : (if x.a < 0 then 45 :: xM x.a.natAbs else xM x.a.natAbs).length ≤ (xM x.a.natAbs).length + 1 := by split <;> simp
  have h7:=Pw x
  refine cK (kX (fun (uu:Unit)=>True) (fun (uu:Unit)=>[(6,rD ((if x.a < 0 then 45 :: xM x.a.natAbs else xM x.a.natAbs) ++ (if x.den = 1 then [] else 47 :: xM x.den)))]) (fun (uu:Unit)=>[box B2 30 [aD (decide (a < 0)),aL (a).natAbs],box B5 32 [aD (decide ((x).a < 0)),aL (x).a.natAbs,aD (decide ((x).b < 0)),aL (x).b.natAbs,aL (du (x))]]) ?_ (fun uu _=>?_))
  ·refine ts (ro rfl (eZ oP (Ht rfl) rfl) (ro rfl (eY A_28 Z_28 (Ht rfl) (i := 1) rfl rfl) (ro rfl (dK U_28 (Ht rfl) aC) (ro rfl (iW (Ht rfl) (cJ 0)) (eX (dQ (Ht rfl) (fun hb => ?_) (fun hb => ?_)))))))
   ·simp only [decide_eq_true_eq] at hb
    have h8:du x = x.den:=sW (fun e=>by rw [e,fF] at hb; simp at hb)
    have h9:x.den ≠ 1:=fun e=>by rw [du,if_pos e,fF] at hb; simp at hb
    have h10:=sR (du x)
    refine cY (rm rfl (ro rfl (eZ oP (Ht rfl) rfl) (ro rfl (eY A_28 Z_28 (Ht rfl) (i:=1) rfl rfl) (ro rfl (cZ Tryz.call243 (Eb zo) ⟨(Ht rfl),trivial⟩) (ro rfl (qX (aA.cS (l:=[47]) rfl) (Ht rfl) (by simp only [List.length_cons,List.length_nil]; omega)) ?_)))))
    refine ro rfl (qX (Ht rfl) (Ht rfl) (by simp only [List.length_append,List.length_cons,List.length_nil]; omega)) ?_
    refine ra rfl (eX (bT () trivial (aZ rfl (nI (by rw [if_neg h9,h8]; rfl)) aX) (eS.refl _)))
   ·simp only [decide_eq_false_iff_not] at hb
    have h9:x.den = 1:=vW (bD.1 zo)
    refine cU (bT () trivial (aZ rfl (nI (by rw [if_pos h9,List.append_nil])) aX) (eS.refl _))
  ·refine ts (rm rfl (ra rfl (eX ?_)))
   exact fG rfl (eU rfl)
theorem Gs {x:Qi} {L:Nat} [hx:aI x L] (h:L ≤ 8796093022208):bA Tryz.prog 92 [aE x] (rD (txt x)):=by
 have hxa:=mU hx.fit; have hxb:=mV hx.fit; have hxd:=mW hx.fit; have hdp:=x.den_pos
 have l1:=Fj x.a hdp; have l2:=Fj x.b hdp
 refine bA.intro Tryz.func92 rfl Tryz.ntmps92 rfl (fun cx=>(ts (rn rfl (fK (Ht rfl)) fun B1=>(ro rfl (cQ (aA.cS (l:=[]) rfl)) (eX (cK (ts (ro rfl (eJ A_32 Z_32 (Ht rfl) (i:=0) rfl rfl rfl) (ro rfl (cZ Tryz.call35 Ox ⟨(Ht rfl),trivial⟩) (eX (dQ (Ht rfl) (fun hb=>?_) (fun hb=>?_))))))))))))
 ·simp only [decide_eq_true_eq] at hb
  refine cK (fJ (m:=4) (dp 1 rfl (eZ gE (Ht rfl) rfl) (dq 6 0 rfl (eJ A_30 Z_30 (Ht rfl) (i:=0) rfl rfl rfl) (dp 1 rfl (eJ A_32 Z_32 (Ht rfl) (i:=0) rfl rfl rfl) (dq 8 2 rfl (cZ K_109 nO ⟨(Ht rfl),trivial⟩) (fW aT rfl (by kernel_rfl) (zF (aV (ro rfl (cZ Tryz.call192 (Gz (by assumption) zo zo) ⟨(Ht rfl),(Ht rfl),trivial⟩) ?_)))))))))
  refine ra rfl (eX (fG rfl (fZ (eU rfl) ?_)))
  exact (nI (by rw [txt,if_pos hb]))
 ·simp only [decide_eq_false_iff_not] at hb
  refine cU (cK (fJ (m:=4) (dp 1 rfl (eZ gR (Ht rfl) rfl) (dq 11 0 rfl (eJ A_30 Z_30 (Ht rfl) (i:=0) rfl rfl rfl) (dp 1 rfl (eJ A_32 Z_32 (Ht rfl) (i:=0) rfl rfl rfl) (dq 13 2 rfl (cZ K_109 nO ⟨(Ht rfl),trivial⟩) (fW aT rfl (by kernel_rfl) (zF (aV (ro rfl (cZ Tryz.call192 (Gz (by assumption) zo zo) ⟨(Ht rfl),(Ht rfl),trivial⟩) ?_))))))))))
  refine ro rfl (qX (Ht rfl) (aA.cS (l:=[105]) rfl) (by simp only [List.length_append,List.length_cons,List.length_nil]; omega)) ?_
  refine ra rfl (eX (cK (ts (ro rfl (eZ gE (Ht rfl) rfl) (ro rfl (eZ eN (Ht rfl) rfl) (ro rfl (eY A_28 Z_28 (Ht rfl) (i:=0) rfl rfl) (ro rfl (dK U_28 (Ht rfl) aC) (ro rfl (dN (Ht rfl) (cJ 0)) (eX (dQ (Ht rfl) (fun hc=>?_) (fun hc=>?_)))))))))))
  ·simp only [decide_eq_true_eq] at hc
   have ha:x.a = 0:=by have:=bD.1 hc; omega
   refine ts (rm rfl (ra rfl (eX (fG rfl (fZ (eU rfl) ?_)))))
   exact (nI (by rw [txt,if_neg hb,if_pos ha]))
  ·simp only [decide_eq_false_iff_not] at hc
   have ha:x.a ≠ 0:=fun e=>hc (by rw [e]; exact bD.2 rfl)
   refine cU (cK (kX (fun (uu:Unit)=>True) (fun (uu:Unit)=>[(1,eH B1 0),(3,rD ((if x.b < 0 then tO x.b x.den else 43 :: tO x.b x.den) ++ [105]))]) (fun (uu:Unit)=>[box B1 32 [aD (decide ((x).a < 0)),aL (x).a.natAbs,aD (decide ((x).b < 0)),aL (x).b.natAbs,aL (du (x))]]) ?_ (fun uu _=>?_)))
   ·refine ts (ro rfl (eZ gR (Ht rfl) rfl) (ro rfl (eZ jP (Ht rfl) rfl) (ro rfl (eY A_4 Z_4 (Ht rfl) (i := 0) rfl rfl) (ro rfl (dE (Ht rfl)) (eX (dQ (Ht rfl) (fun hd => ?_) (fun hd => ?_)))))))
    ·have hn : ¬ x.b < 0 := by simpa using hd
     refine cY (rm rfl (ro rfl (qX (aA.cS (l:=[43]) rfl) (Ht rfl) (by simp only [List.length_append,List.length_cons,List.length_nil]; omega)) ?_))
     refine ra rfl (eX (bT () trivial (aQ rfl (aZ rfl (nI (by rw [if_neg hn]; rfl)) aX)) (aU (aP rfl) aY)))
    ·have hn : x.b < 0 := by simpa using hd
     refine cU (bT () trivial (aQ rfl (aZ rfl (nI (by rw [if_pos hn])) aX)) (aU (aP rfl) aY))
   ·have l3 : ((if x.b < 0 then tO x.b x.den else 43 :: tO x.b x.den) ++ [105]).length ≤ (tO x.b x.den).length + 2 := by split <;> simp
    refine cK (fJ (m:=6) (dp 1 rfl (eZ gE (Ht rfl) rfl) (dq 29 0 rfl (eJ A_30 Z_30 (Ht rfl) (i:=0) rfl rfl rfl) (dp 1 rfl (eJ A_32 Z_32 (Ht rfl) (i:=0) rfl rfl rfl) (dq 31 2 rfl (cZ K_109 nO ⟨(Ht rfl),trivial⟩) (eD 30 1 32 3 rfl (cZ Tryz.call192 (Gz (by assumption) zo zo) ⟨(Ht rfl),(Ht rfl),trivial⟩) ?_))))))
    refine dp 3 rfl (cX (Ht rfl)) (fW aT rfl (by kernel_rfl) (zF (aJ (aJ (aV (ro rfl (qX (Ht rfl) (Ht rfl) zo) (ra rfl (eX (fG rfl (fZ (eU rfl) ?_))))))))))
    exact (nI (by rw [txt,if_neg hb,if_neg ha]))
theorem Jo {r:Rt}:bA Tryz.prog 14 [vL r] (aE r.q):=by
 have hr1:=r.h1; have hr2:=r.h2; have hr3:=r.h3; have hr4:=r.h4; have hr5:=r.d1; have hr6:=r.d2; have hr0:=r.d0
 refine bA.intro Tryz.func14 rfl Tryz.ntmps14 rfl (fun cx=>(ts (rn rfl (fK (Ht rfl)) fun B1=>(rn rfl (eW (Ts:=[Is (.bool false),Is (.slice none 0 0),Is (.bool false),Is (.slice none 0 0),Is (.slice none 0 0)]) O_32 rfl (fun V=>aW zd (aW zd (aW zd (aW zd (aW zd (aG))))))) fun B2=>(eX (cK (kX (fun (uu:Unit)=>True) (fun (uu:Unit)=>[(1,eH B1 0),(2,eH B2 0)]) (fun (uu:Unit)=>[box B1 23 [aF .i64 r.re,aF .i64 r.im,aF .i64 r.d],box B2 32 [Is (.bool false),Is (.slice none 0 0),Is (.bool false),Is (.slice none 0 0),Is (.slice none 0 0)]]) ?_ (fun uu _=>?_))))))))
 ·refine ts (ro rfl (eZ sZ (Ht rfl) rfl) (ro rfl (eY A_2 Z_2 (Ht rfl) (i := 0) rfl rfl) (ro rfl (kQ (Ht rfl) cV) (eX (dQ (Ht rfl) (fun hb => ?_) (fun hb => ?_))))))
  ·simp only [decide_eq_true_eq] at hb
   refine cY (ro rfl (eZ sZ (Ht rfl) rfl) (jL Z_2 (Ht rfl) (cJ 1) (i:=0) rfl (aK rfl) rfl (eX (bT () trivial (zS rfl) (aU (aP (by rw [Rt.d,if_pos hb]; rfl)) (aU (aP rfl) aY))))))
  ·simp only [decide_eq_false_iff_not] at hb
   refine cU (bT () trivial (zS rfl) (aU (aP (by rw [Rt.d,if_neg hb])) (aU (aP rfl) aY)))
 ·refine ts (ro rfl (eZ Ch (Ht rfl) rfl) (ro rfl (eY A_2 Z_2 (Ht rfl) (i := 0) rfl rfl) (ro rfl (eZ Ci (Ht rfl) rfl) (ro rfl (eY A_2 Z_2 (Ht rfl) (i := 0) rfl rfl) (ro rfl (eZ sZ (Ht rfl) rfl) (ro rfl (eY A_2 Z_2 (Ht rfl) (i := 0) rfl rfl) (ro rfl (cZ Tryz.call81 (a1r hr1 hr2 hr3 hr4 hr5 hr6 hr0) ⟨(Ht rfl), (Ht rfl), (Ht rfl), trivial⟩) (rm rfl (ro rfl (dU (Ht rfl) rfl) (ro rfl (dU (Ht rfl) rfl) (rn rfl (eW (Ts := [Is (.bool false), Is (.slice none 0 0), Is (.bool false), Is (.slice none 0 0), Is (.slice none 0 0)]) O_32 rfl (fun V => aW zd (aW zd (aW zd (aW zd (aW zd (aG))))))) fun B3 => ?_)))))))))))
  refine gZ Z_32 (Ht rfl) (Ht rfl) rfl (i:=2) rfl (aK rfl) rfl rfl (ra rfl (eX (ts (ro rfl (eJ A_32 Z_32 (Ht rfl) (i:=2) rfl rfl rfl) (gZ Z_32 (Ht rfl) (Ht rfl) rfl (i:=1) rfl (aK rfl) rfl rfl (eX ?_))))))
  exact fG rfl (fU A_32 Z_32 rfl (i:=1) rfl rfl)
end
section
open Go Go.RowKit
theorem Jh {n : Nat} {E : cB} {H : Hp} {d : Option Tmp} {t : TypeId} {pos : String} {af : Array Edge} {g : Option (Nat × Bool)}  :
  aM Tryz.prog n E H ⟨d,.build 32 #[],t,pos,af,g⟩ (dL [Is (.bool false),Is (.slice none 0 0),Is (.bool false),Is (.slice none 0 0),Is (.slice none 0 0)]) :=
 iY (parts := []) fun a V w hs => by
  refine ⟨.agg #[(.bool false),(.slice none 0 0),(.bool false),(.slice none 0 0),(.slice none 0 0)],?_,[(.bool false),(.slice none 0 0),(.bool false),(.slice none 0 0),(.slice none 0 0)],rfl,aW (⟨rfl,trivial⟩) (aW (⟨rfl,trivial⟩) (aW (⟨rfl,trivial⟩) (aW (⟨rfl,trivial⟩) (aW (⟨rfl,trivial⟩) (aG)))))⟩
  simp [Instr.build,Instr.fill,Sem.run_bind,Result.andThen,iB,O_32,U_32,Z_28,Z_30]
end
section
open Go Go.RowKit
theorem sP {x y:Qi} {L M:Nat} [hx:aI x L] [hy:aI y M] (h:L + 3 * M + 2 ≤ 17592186044415):bA Tryz.prog 142 [aE x,aE y] (fB [aE (x / y),aF .i64 (if y = Qi.zero then 3 else 0)]):=by
 have hxa:=mU hx.fit; have hxb:=mV hx.fit; have hxd:=mW hx.fit
 have hya:=mU hy.fit; have hyb:=mV hy.fit; have hyd:=mW hy.fit
 have hxp:=x.den_pos; have hyp:=y.den_pos; have hMp:=hy.pos
 refine bA.intro Tryz.func142 rfl Tryz.ntmps142 rfl (fun cx=>(ts (rn rfl (fK (Ht rfl)) fun B2=>(rn rfl (fK (Ht rfl)) fun B3=>(rn rfl (eW (Ts:=[Is (.bool false),Is (.slice none 0 0),Is (.bool false),Is (.slice none 0 0),Is (.slice none 0 0)]) O_32 rfl (fun V=>aW zd (aW zd (aW zd (aW zd (aW zd (aG))))))) fun B4=>(ro rfl (cQ (cJ 0)) (eX (cK (ts (ro rfl (eJ A_32 Z_32 (Ht rfl) (i:=1) rfl rfl rfl) ?_))))))))))
 refine ro rfl (cZ K_34 (jN zo) ⟨(Ht rfl),trivial⟩) (ro rfl (dE (Ht rfl)) (eX (dQ (Ht rfl) (fun hb=>?_) (fun hb=>?_))))
 ·have h0 : y = Qi.zero := by simpa using hb
  refine ts (ro rfl (aM.imp (Jh ) tH) (gZ Z_32 (Ht rfl) (Ht rfl) rfl (i:=2) rfl (aK rfl) rfl rfl (ro rfl (cQ (cJ 3)) (eX (cT rfl (fZ (fU A_32 Z_32 rfl (i:=2) rfl rfl) ?_) (fZ (eU rfl) ?_))))))
  ·exact (gM (by rw [h0,Qi.div_zero]))
  ·exact (bR (by rw [if_pos h0]; rfl))
 ·have h0 : y ≠ Qi.zero := by simpa using hb
  have g1:=mO y.a y.a; have g2:=mO y.b y.b; have g3:=xP y.b
  have g4:=mN (x:=y.a * y.a) (y:=y.b * y.b) (L:=M + M) zo zo
  obtain ⟨c,hc⟩:∃ c,c = Qi.mk' y.a (-y.b) 1:=⟨_,rfl⟩
  obtain ⟨z,hz⟩:∃ z,z = x * c:=⟨_,rfl⟩
  have l1:(dg 1).length ≤ 1:=by rw [Pq (by decide) (by decide)]; exact Nat.le_refl _
  haveI fc:aI c M:=hc ▸ ⟨Qi.Fit.mk (by decide) hy.fit.1 (by rw [Int.natAbs_neg]; exact hy.fit.2.1) (Qi.one_lt hMp)⟩
  haveI fz:aI z (L + M + 1):=hz ▸ fitMul
  have hza:=mU fz.fit; have hzb:=mV fz.fit; have hzd:=mW fz.fit
  have hnp:=Qi.nrm_int_pos h0
  have hm:(((y.a * y.a + y.b * y.b).natAbs:Nat):Int) = y.a * y.a + y.b * y.b:=Int.natAbs_of_nonneg zo
  have hdp2:=Nat.mul_pos z.den_pos (show 0 < (y.a * y.a + y.b * y.b).natAbs by omega)
  have e1:=gD z.a y.den; have e2:=gD z.b y.den; have e3:=xO z.den (y.a * y.a + y.b * y.b).natAbs
  refine cU (cK (fJ (m:=12) (dp 3 rfl (eZ gE (Ht rfl) rfl) (dq 12 0 rfl (eJ A_30 Z_30 (Ht rfl) (i:=1) rfl rfl rfl) (dp 3 rfl (eZ gE (Ht rfl) rfl) (dq 14 2 rfl (eJ A_30 Z_30 (Ht rfl) (i:=1) rfl rfl rfl) (eD 13 1 15 3 rfl (cZ K_105 (qO zo zo) ⟨(Ht rfl),(Ht rfl),trivial⟩) (dp 3 rfl (eZ gR (Ht rfl) rfl) (dq 17 5 rfl (eJ A_30 Z_30 (Ht rfl) (i:=1) rfl rfl rfl) (dp 3 rfl (eZ gR (Ht rfl) rfl) (dq 19 7 rfl (eJ A_30 Z_30 (Ht rfl) (i:=1) rfl rfl rfl) ?_)))))))))))
  refine eD 18 6 20 8 rfl (cZ K_105 (qO zo zo) ⟨(Ht rfl),(Ht rfl),trivial⟩) (eD 16 4 21 9 rfl (cZ K_106 (uL zo zo) ⟨(Ht rfl),(Ht rfl),trivial⟩) (C.D_new (Ei:=[]) rfl rfl rfl bW (eW (Ts:=[Is (.bool false),Is (.slice none 0 0)]) O_30 rfl (fun V=>aW zd (aW zd (aG)))) (fW aT rfl (by kernel_rfl) (zF (zF (aJ (aJ (aJ (C.F_new (fun B6=>aV (gZ Z_30 (Ht rfl) (Ht rfl) rfl (i:=3) rfl (aK rfl) rfl rfl ?_)))))))))))
  refine eX (cK (fJ (m:=10) (dp 2 rfl (eJ A_32 Z_32 (Ht rfl) (i:=0) rfl rfl rfl) (dp 3 rfl (eZ gE (Ht rfl) rfl) (dq 24 1 rfl (eJ A_30 Z_30 (Ht rfl) (i:=1) rfl rfl rfl) (dp 3 rfl (eZ gR (Ht rfl) rfl) (dq 26 3 rfl (eJ A_30 Z_30 (Ht rfl) (i:=1) rfl rfl rfl) (dq 27 4 rfl (cZ K_107 oM ⟨(Ht rfl),trivial⟩) (d0 rfl (aM.imp (eO (xs:=[_]) U_28 Z_24 Tryz.zeroValue24 (cW (cJ 1) cG) rfl rfl rfl) Fh) (C.D_step (Ei:=[(25,_),(28,_),(29,_)]) rfl rfl (bV (bG 2 rfl rfl) (bV (bG 5 rfl rfl) (bV (bG 6 rfl rfl) bW))) (dX rfl (aM.imp (cZ K_108 (uK (by first | assumption | omega) zo zo zo) ⟨(Ht rfl),(Ht rfl),(Ht rfl),trivial⟩) (gM hc.symm))) ?_))))))))))
  refine eD 23 0 30 7 rfl (aM.imp (cZ K_29 (iQ zo) ⟨(Ht rfl),(Ht rfl),trivial⟩) (gM hz.symm)) (C.D_new (Ei:=[]) rfl rfl rfl bW (eW (Ts:=[Is (.bool false),Is (.slice none 0 0),Is (.bool false),Is (.slice none 0 0),Is (.slice none 0 0)]) O_32 rfl (fun V=>aW zd (aW zd (aW zd (aW zd (aW zd (aG))))))) (fW aT rfl (by kernel_rfl) (zF (zF (aJ (C.F_new (fun B7=>aV ?_)))))))
  refine gZ Z_32 (Ht rfl) (Ht rfl) rfl (i:=4) rfl (aK rfl) rfl rfl (eX (cK (fJ (m:=14) (dp 7 rfl (eZ gE (Ht rfl) rfl) (dq 32 0 rfl (eJ A_30 Z_30 (Ht rfl) (i:=4) rfl rfl rfl) (dp 3 rfl (eJ A_32 Z_32 (Ht rfl) (i:=1) rfl rfl rfl) (dq 34 2 rfl (cZ K_109 nO ⟨(Ht rfl),trivial⟩) (eD 33 1 35 3 rfl (cZ K_111 (jY zo zo) ⟨(Ht rfl),(Ht rfl),trivial⟩) (dp 7 rfl (eZ gR (Ht rfl) rfl) (dq 37 5 rfl (eJ A_30 Z_30 (Ht rfl) (i:=4) rfl rfl rfl) ?_))))))))))
  refine dp 3 rfl (eJ A_32 Z_32 (Ht rfl) (i:=1) rfl rfl rfl) (dq 39 7 rfl (cZ K_109 nO ⟨(Ht rfl),trivial⟩) (eD 38 6 40 8 rfl (cZ K_111 (jY zo zo) ⟨(Ht rfl),(Ht rfl),trivial⟩) (dp 7 rfl (eJ A_32 Z_32 (Ht rfl) (i:=4) rfl rfl rfl) (dq 42 10 rfl (cZ K_109 nO ⟨(Ht rfl),trivial⟩) (dp 6 rfl (eZ eN (Ht rfl) rfl) (dq 44 12 rfl (eY A_28 Z_28 (Ht rfl) (i:=3) rfl rfl) (fW aT rfl (by kernel_rfl) (zF (zF (zF (aJ (aJ (aV ?_)))))))))))))
  refine ro rfl (cZ Tryz.call110 (Ec zo zo) ⟨(Ht rfl),(Ht rfl),trivial⟩) (ro rfl (cZ K_108 (uK (by first | assumption | omega) zo zo zo) ⟨(Ht rfl),(Ht rfl),(Ht rfl),trivial⟩) (gZ Z_32 (Ht rfl) (Ht rfl) rfl (i:=2) rfl (aK rfl) rfl rfl (ro rfl (cQ (cJ 0)) (eX (cT rfl (fZ (fU A_32 Z_32 rfl (i:=2) rfl rfl) ?_) (fZ (eU rfl) ?_))))))
  ·exact (gM (Qi.mk_divP x h0 (hc ▸ hz) hm))
  ·exact (bR (by rw [if_neg h0]; rfl))
end
section
open Go Go.RowKit
theorem mH:Tryz.prog.info? 54 = some Tryz.t54:=by kernel_rfl
end
section
open Go Go.RowKit
theorem Gn {γ:Type} {l:List γ} {T:γ → Ty} {p:γ → Bool} [sh:∀ x,dI (T x) 5 true] (hl:l.length ≤ 1000000):bA Tryz.prog 284 [kT 5 (l.map T),vP Tryz.prog γ (fun x=>[T x]) (fun x=>aD (p x))] (aF .i64 (zT p l)):=by
 refine bA.intro Tryz.func284 rfl Tryz.ntmps284 rfl (fun cx=>(ts (ro rfl (cQ (cJ 0)) (eX (cK (ts (rm rfl (ro rfl (dK U_54 (Ht rfl) aC) (ro rfl (cX (cJ 0)) (eX (eG ?_)))))))))))
 refine eL (fun (k : Nat) => k ≤ l.length ∧ ∀ (i : Nat) (x : γ), i < k → l[i]? = some x → p x = false) (fun (k : Nat) => l.length - k) (fun (k : Nat) => [(0, kT 5 (l.map T)), (1, vP Tryz.prog γ (fun x => [T x]) (fun x => aD (p x))), (7, NT .i64 l.length), (8, NT .i64 k)]) (fun (k : Nat) => []) 0 ⟨Nat.zero_le _, fun i x h => by omega⟩
  (zS rfl) aY (fun k ⟨hk,hn⟩=>?_)
 refine ts (ro rfl (gJ (Ht rfl) (Ht rfl)) (eX (cK (dQ (Ht rfl) (fun hb=>?_) (fun hb=>?_)))))
 ·simp only [decide_eq_true_eq] at hb
  refine cU (cK (eG (ts (rm rfl (ra rfl (eX (ts (rm rfl (rm rfl (rm rfl (ro rfl (dZ U_54 Z_32 (Ht rfl) (Ht rfl) rfl (eQ (vM hb))) (ro rfl (dV A_32 Z_32 (Ht rfl)) (ro rfl (oH (l[k]) (Ht rfl) ⟨(Ht rfl),trivial⟩) (eX (dQ (Ht rfl) (fun hc=>?_) (fun hc=>?_))))))))))))))))
  ·have hp : p l[k] = true := hc
   refine ts (rm rfl (ra rfl (eX (fG rfl (fZ (eU rfl) ?_)))))
   exact (bR (Cm (vM hb) hp hn).symm)
  ·have hp : p l[k] = false := hc
   refine cU (cF (cY (ro rfl (dW (Ht rfl) (cJ 1) z6) (rm rfl (eX ?_)))))
   refine gQ (k + 1) ⟨hb, fun i x h1 h2 => by
    by_cases e:i = k
    ·subst e; rw [vM hb] at h2; obtain rfl:=Option.some.inj h2; exact hp
    ·exact hn i x zo h2⟩ zo (zS rfl) aY
 ·simp only [decide_eq_false_iff_not] at hb
  refine gG rfl (ts (ro rfl (cQ cV) (eX (fG rfl (fZ (eU rfl) ?_)))))
  exact (bR (uP (fun i x h=>hn i x (by have:=(List.getElem?_eq_some_iff.1 h).1; omega) h)).symm)
theorem zO {γ:Type} {l:List γ} {T:γ → Ty} {p:γ → Bool} [sh:∀ x,dI (T x) 5 true] (hl:l.length ≤ 1000000):bA Tryz.prog 245 [kT 5 (l.map T),vP Tryz.prog γ (fun x=>[T x]) (fun x=>aD (p x))] (aD (l.any p)):=by
 refine bA.intro Tryz.func245 rfl Tryz.ntmps245 rfl (fun cx=>(ts (ro rfl (cQ cV) (eX (ts (rm rfl (rm rfl (ro rfl (cZ Tryz.call284 (Gn zo) ⟨(Ht rfl),(Ht rfl),trivial⟩) (ro rfl (nF (Ht rfl) cV) (ra rfl (eX (fG rfl (fZ (eU rfl) ?_)))))))))))))
 exact (fE (xZ p l))
theorem Gp {γ:Type} {l:List γ} {T:γ → Ty} {p:γ → Bool} [sh:∀ x,dI (T x) 1 false] (hl:l.length ≤ 1000000):bA Tryz.prog 208 [kT 1 (l.map T),vP Tryz.prog γ (fun x=>[T x]) (fun x=>aD (p x))] (aF .i64 (zT p l)):=by
 refine bA.intro Tryz.func208 rfl Tryz.ntmps208 rfl (fun cx=>(ts (ro rfl (cQ (cJ 0)) (eX (cK (ts (rm rfl (ro rfl (dK U_78 (Ht rfl) aC) (ro rfl (cX (cJ 0)) (eX (eG ?_)))))))))))
 refine eL (fun (k : Nat) => k ≤ l.length ∧ ∀ (i : Nat) (x : γ), i < k → l[i]? = some x → p x = false) (fun (k : Nat) => l.length - k) (fun (k : Nat) => [(0, kT 1 (l.map T)), (1, vP Tryz.prog γ (fun x => [T x]) (fun x => aD (p x))), (7, NT .i64 l.length), (8, NT .i64 k)]) (fun (k : Nat) => []) 0 ⟨Nat.zero_le _, fun i x h => by omega⟩
  (zS rfl) aY (fun k ⟨hk,hn⟩=>?_)
 refine ts (ro rfl (gJ (Ht rfl) (Ht rfl)) (eX (cK (dQ (Ht rfl) (fun hb=>?_) (fun hb=>?_)))))
 ·simp only [decide_eq_true_eq] at hb
  refine cU (cK (eG (ts (rm rfl (ra rfl (eX (ts (rm rfl (rm rfl (rm rfl (ro rfl (dZ U_78 Z_54 (Ht rfl) (Ht rfl) rfl (eQ (vM hb))) (ro rfl (dV A_54 Z_54 (Ht rfl)) (ro rfl (oH (l[k]) (Ht rfl) ⟨(Ht rfl),trivial⟩) (eX (dQ (Ht rfl) (fun hc=>?_) (fun hc=>?_))))))))))))))))
  ·have hp : p l[k] = true := hc
   refine ts (rm rfl (ra rfl (eX (fG rfl (fZ (eU rfl) ?_)))))
   exact (bR (Cm (vM hb) hp hn).symm)
  ·have hp : p l[k] = false := hc
   refine cU (cF (cY (ro rfl (dW (Ht rfl) (cJ 1) z6) (rm rfl (eX ?_)))))
   refine gQ (k + 1) ⟨hb, fun i x h1 h2 => by
    by_cases e:i = k
    ·subst e; rw [vM hb] at h2; obtain rfl:=Option.some.inj h2; exact hp
    ·exact hn i x zo h2⟩ zo (zS rfl) aY
 ·simp only [decide_eq_false_iff_not] at hb
  refine gG rfl (ts (ro rfl (cQ cV) (eX (fG rfl (fZ (eU rfl) ?_)))))
  exact (bR (uP (fun i x h=>hn i x (by have:=(List.getElem?_eq_some_iff.1 h).1; omega) h)).symm)
theorem zP {γ:Type} {l:List γ} {T:γ → Ty} {p:γ → Bool} [sh:∀ x,dI (T x) 1 false] (hl:l.length ≤ 1000000):bA Tryz.prog 118 [kT 1 (l.map T),vP Tryz.prog γ (fun x=>[T x]) (fun x=>aD (p x))] (aD (l.any p)):=by
 refine bA.intro Tryz.func118 rfl Tryz.ntmps118 rfl (fun cx=>(ts (ro rfl (cQ cV) (eX (ts (rm rfl (rm rfl (ro rfl (cZ Tryz.call208 (Gp zo) ⟨(Ht rfl),(Ht rfl),trivial⟩) (ro rfl (nF (Ht rfl) cV) (ra rfl (eX (fG rfl (fZ (eU rfl) ?_)))))))))))))
 exact (fE (xZ p l))
theorem Ha {x:Qi} {L:Nat} [hx:aI x L] (h:L ≤ 8796093022208):bA Tryz.prog 136 [aE x] (aD (nG x)):=by
 haveI hz:aI Qi.zero 1:=aI.zero (Nat.le_refl 1)
 refine bA.intro Tryz.func136 rfl Tryz.ntmps136 rfl (fun cx=>(ts (rn rfl (fK (Ht rfl)) fun B1=>(ro rfl (cQ cV) (eX (ts (ro rfl (eJ A_32 Z_32 (Ht rfl) (i:=0) rfl rfl rfl) (ro rfl (cZ Tryz.call35 Ox ⟨(Ht rfl),trivial⟩) (rm rfl (fQ rfl rfl (eK rfl rfl (Ht rfl) (fun h=>eJ A_32 Z_32 (Ht rfl) (i:=0) rfl rfl rfl)) (fQ rfl rfl (eK rfl rfl (Ht rfl) (fun h=>aM.imp (Jh ) tH)) (fQ rfl rfl (eK rfl rfl (Ht rfl) (fun h=>cZ Tryz.call30 (a1o zo) ⟨(fV rfl h),(fV rfl h),trivial⟩)) ?_))))))))))))
 refine fQ rfl rfl (eK rfl rfl (Ht rfl) (fun h=>yG (fV rfl h) cV)) (ro rfl (gA (Ht rfl) (fun h=>(fV rfl h))) (ra rfl (eX (fG rfl (fZ (eU rfl) ?_)))))
 exact (fE (a0R x))
theorem Ca {x:Qi} {L:Nat} [hx:aI x L] (h:L ≤ 8796093022208):bA Tryz.prog 246 [aE x] (aD (!nG x)):=by
 refine bA.intro Tryz.func246 rfl Tryz.ntmps246 rfl (fun cx=>(ts (rn rfl (fK (Ht rfl)) fun B1=>(ro rfl (cQ cV) (eX (ts (ro rfl (eJ A_32 Z_32 (Ht rfl) (i:=0) rfl rfl rfl) (ro rfl (cZ Tryz.call136 (Ha zo) ⟨(Ht rfl),trivial⟩) (ro rfl (dE (Ht rfl)) (ra rfl (eX ?_)))))))))))
 exact fG rfl (eU rfl)
theorem Ed {z:List Qi} {L:Nat} (hz:cD z L) (h:L ≤ 8796093022208) (hl:z.length ≤ 1000):bA Tryz.prog 194 [bP z] (aF .i64 (if z.all nG then 0 else 1)):=by
 obtain ⟨l,hzl⟩:∃ l:List {x:Qi // aI x L},z = l.map Subtype.val:=⟨z.attach.map fun x=>⟨x.1,hz x.1 x.2⟩,by simp⟩
 subst hzl
 have hll:l.length ≤ 1000:=by simpa using hl
 refine bA.intro Tryz.func194 rfl Tryz.ntmps194 rfl (fun cx=>(Iz (E':=[(0,_)]) (aZ rfl (nH (Us:=l.map fun x=>aE x.1) (by simp [List.map_map,Function.comp_def])) aX) ?_))
 refine ts (ro rfl (cQ (cJ 0)) (eX (cK (ts (rm rfl (ro rfl (cZ Tryz.call245 (zO (l:=l) (T:=fun x=>aE x.1) (p:=fun x=>!nG x.1) zo) ⟨(Ht rfl),(aA.fn Tryz.call246 (γ:={x:Qi // aI x L}) (Ts:=fun x=>[aE x.1]) (U:=fun x=>aD (!nG x.1)) (fun x=>haveI:=x.2; Ca h)),trivial⟩) (eX (dQ (Ht rfl) (fun hb=>?_) (fun hb=>?_)))))))))
 ·have hn : ¬ (l.map Subtype.val).all nG = true := by simp at hb ⊢; exact hb
  refine ts (ro rfl (cQ (cJ 1)) (eX (fG rfl (fZ (eU rfl) ?_))))
  exact (bR (by rw [if_neg hn]; rfl))
 ·have hn : (l.map Subtype.val).all nG = true := by simp at hb ⊢; exact hb
  refine cU (ts (ro rfl (cQ (cJ 0)) (eX (fG rfl (fZ (eU rfl) ?_)))))
  exact (bR (by rw [if_pos hn]; rfl))
theorem Dz {l:List Qi} (hl:l.length ≤ 1000):iH Tryz.prog 120 [bP l] [] (Value) (fun v=>Is v) (fun v=>[bN 32 5 v (l.map aE)]) (fun _=>True):=by
 refine iH.intro Tryz.func120 rfl Tryz.ntmps120 rfl (fun cx Z=>(ts (ro rfl (cQ cV) (eX (cK (ts (rm rfl (ro rfl (Rl U_54 (Ht rfl)) (eX (Tt (Ht rfl) (fun hb=>?_) (fun hb=>?_)))))))))))
 ·have hT : l.map aE = [] := hb rfl
  refine ts (ro rfl (cQ cV) (eX (rG 32 5 ?_)))
  exact kY (.slice none 0 0) trivial [0,1] ⟨⟨_,rfl,fun _ _ _ h=>h⟩,⟨_,rfl,(cA hT.symm)⟩,trivial⟩ (by decide) (zX rfl (eU rfl))
 ·refine cU (ts (rn rfl (Ff U_54 Z_32 O_32) fun B5 => (rm rfl (Lj (inf := Tryz.t32) jW iJ rfl rfl rfl (Ht rfl) (Ht rfl) (i := 1) rfl (fun T hT => by obtain ⟨x, _, rfl⟩ := List.mem_map.1 hT; exact El.ag rfl) (by show _ * 88 ≤ _; simp only [List.length_map, List.length_nil]; omega) (by simp only [List.length_map, List.length_nil]; omega) rfl (fun v2 => ?_)))))
  refine ra rfl (eX ?_)
  exact kY v2 trivial [0,1] ⟨⟨_,rfl,fun _ _ _ h=>h⟩,⟨_,rfl,fun _ _ _ h=>h⟩,trivial⟩ (by decide) (zX rfl (eU rfl))
theorem Ub {l:List Qi} (hl:l.length ≤ 1000):bA Tryz.prog 120 [bP l] (bP l):=(Dz hl).fun fun v _=>kN
theorem Jm {n:Nat} {f:Nat → Nat → Qi} (hn:n ≤ 1000):iH Tryz.prog 144 [NT .i64 n,vP Tryz.prog (Fin n × Fin n) (fun x=>[NT .i64 x.1.1,NT .i64 x.2.1]) (fun x=>aE (f x.1.1 x.2.1))] [] (Nat) (fun B=>Is (.slice (some ⟨B,0,none⟩) n n)) (fun B=>[nL B 54 32 5 (dD aE (tab n fun i=>tab n (f i)))]) (fun _=>True):=by
 refine iH.intro Tryz.func144 rfl Tryz.ntmps144 rfl (fun cx Z=>(ts (ro rfl (cQ cV) (eX (ts (rm rfl (rn rfl (gN (T:=Is (.slice none 0 0)) (i:=Tryz.t54) V_78 mH rfl rfl (Ht rfl) rfl (fun _=>rfl) trivial (by show 24 * _ ≤ _; omega) zo) fun B9=>(ra rfl (eX (cK (ts (rm rfl (ro rfl (iK U_78 (Ht rfl)) (ro rfl (cX (cJ 0)) (eX (eG (mB 1 rfl (oT (e:=32) (s:=5)) ?_)))))))))))))))))
 refine gO (fun (k : Nat) (m : List (List Qi)) => kL (fun i => tab n (f i)) n m k) (fun (k : Nat) (m : List (List Qi)) => n - k) (fun (k : Nat) (m : List (List Qi)) => [(0, NT .i64 n), (1, vP Tryz.prog (Fin n × Fin n) (fun x => [NT .i64 x.1.1, NT .i64 x.2.1]) (fun x => aE (f x.1.1 x.2.1))), (5, Is (.slice (some ⟨B9, 0, none⟩) n n)), (11, NT .i64 n), (12, NT .i64 k)]) (fun (k : Nat) (m : List (List Qi)) => [Z, nL B9 54 32 5 (dD aE m)]) 0 (List.replicate n []) (kL.start _ _ _)
  (zS rfl) (aU (fun _ _ _ h=>h) (aU (dO (lW aE n)) aY)) (fun k m hS=>?_)
 refine ts (ro rfl (gJ (Ht rfl) (Ht rfl)) (eX (cK (dQ (Ht rfl) (fun hk=>?_) (fun hk=>?_)))))
 ·simp only [decide_eq_true_eq] at hk
  have hlen:=hS.len
  refine nN 1 (k) rfl (jZ (m:=m) (i:=k) zo) (fun v=>(cU (cK (eG (ts (rm rfl (ra rfl (eX (ts (rm rfl (rm rfl (rm rfl (rn rfl (mP (T:=aE Qi.zero) (i:=Tryz.t32) jW iJ rfl rfl (Ht rfl) rfl iV (El.ag rfl) (by show 88 * _ ≤ _; omega) zo) fun B18=>(ro rfl (gX U_78 Z_54 (Ht rfl) (Ht rfl) rfl zo (by rw [Nat.mul_one,Nat.zero_add])) ?_))))))))))))))
  refine sH Z_54 (Ht rfl) (Ht rfl) (by simp; omega) (j:=1) (l:=3) rfl rfl rfl ?_
  refine eX (cK (cC [0,1,3] rfl (by decide) (cY (rm rfl (rm rfl (ro rfl (gX U_78 Z_54 (Ht rfl) (Ht rfl) rfl zo (by rw [Nat.mul_one,Nat.zero_add])) ?_))))))
  refine ro rfl (kR A_54 Z_54 (Ht rfl) (j:=1) rfl) (ro rfl (oY U_54 (Ht rfl) (i:=2) rfl (show ((List.replicate n (aE Qi.zero)).length:Int) = ((n:Nat):Int) by simp)) (ro rfl (cX (cJ 0)) (eX (eG ?_))))
  refine gO (fun (j : Nat) (out : List Qi) => kL (f k) n out j) (fun (j : Nat) (out : List Qi) => n - j) (fun (j : Nat) (out : List Qi) => [(0, NT .i64 n), (1, vP Tryz.prog (Fin n × Fin n) (fun x => [NT .i64 x.1.1, NT .i64 x.2.1]) (fun x => aE (f x.1.1 x.2.1))), (5, Is (.slice (some ⟨B9, 0, none⟩) n n)), (6, NT .i64 k), (11, NT .i64 n), (12, NT .i64 k), (24, NT .i64 n), (25, NT .i64 j)]) (fun (j : Nat) (out : List Qi) => [Z, Fa B9 54 32 5 (dD aE m) k B18, bN 32 5 B18 (out.map aE)]) 0 (List.replicate n Qi.zero) (kL.start _ _ _)
   (zS rfl) (aU (fun _ _ _ h=>h) (aU (fun _ _ _ h=>h) (aU (cA (tW aE _ _)) aY))) (fun j out hT=>?_)
  refine ts (ro rfl (gJ (Ht rfl) (Ht rfl)) (eX (cK (dQ (Ht rfl) (fun hj=>?_) (fun hj=>?_)))))
  ·simp only [decide_eq_true_eq] at hj
   have hlen2:=hT.len
   refine cU (cK (eG (ts (rm rfl (ra rfl (eX (fJ (m:=9) (dp 5 rfl (cX (Ht rfl)) (dp 6 rfl (cX (Ht rfl)) (eD 28 0 29 1 rfl (gX U_78 Z_54 (Ht rfl) (Ht rfl) rfl zo (by rw [Nat.mul_one,Nat.zero_add])) ?_))))))))))
   refine dq 30 2 rfl (kR A_54 Z_54 (Ht rfl) (j:=1) rfl) (dp 7 rfl (cX (Ht rfl)) (dp 1 rfl (cX (Ht rfl)) (dp 6 rfl (cX (Ht rfl)) (dp 7 rfl (cX (Ht rfl)) (C.D_step (Ei:=[(33,_),(34,_),(35,_)]) rfl rfl (bV (bG 5 rfl rfl) (bV (bG 6 rfl rfl) (bV (bG 7 rfl rfl) bW))) (dX rfl (oH ((⟨k,hk⟩,⟨j,hj⟩):Fin n × Fin n) (Ht rfl) ⟨(Ht rfl),(Ht rfl),trivial⟩)) (fW aT rfl (by kernel_rfl) (zF (zF (aJ (aV ?_))))))))))
   refine ro rfl (iX U_54 Z_32 (Ht rfl) (Ht rfl) rfl (i:=2) rfl (by first | omega | (simp; omega)) rfl) (rF Z_32 (Ht rfl) (Ht rfl) (El.ag rfl) (i:=2) rfl rfl (by first | omega | (simp; omega)) rfl (eX (cF (cY (ro rfl (dW (Ht rfl) (cJ 1) z6) (rm rfl (eX (gQ (j + 1,_) (hT.next hj rfl) (by dsimp only; omega) (zS rfl) (aU (fun _ _ _ h=>h) (aU (fun _ _ _ h=>h) (aU (cA (kB aE _ _ _)) aY)))))))))))
  ·simp only [decide_eq_false_iff_not] at hj
   obtain rfl:j = n:=Nat.le_antisymm hT.kle zo
   have hfin:=hT.fin
   refine gG rfl (cF (jM 1 2 rfl rfl (by decide) (by simp; omega) ?_))
   refine cY (ro rfl (dW (Ht rfl) (cJ 1) z6) (rm rfl (eX (cC [0,1] rfl (by decide) (gQ (k + 1,_) (hS.next hk hfin) (by dsimp only; omega) (zS rfl) (aU (fun _ _ _ h=>h) (aU (dO (jJ aE _ _ _)) aY)))))))
 ·simp only [decide_eq_false_iff_not] at hk
  obtain rfl:k = n:=Nat.le_antisymm hS.kle zo
  have hfin:=hS.fin
  refine gG rfl (ts (rm rfl (ra rfl (eX ?_))))
  exact kY B9 trivial [0,1] ⟨⟨_,rfl,fun _ _ _ h=>h⟩,⟨_,rfl,(dO (by rw [hfin]))⟩,trivial⟩ (by decide) (zX rfl (eU rfl))
theorem Pb {n:Nat} {f:Nat → Nat → Qi} (hn:n ≤ 1000):bA Tryz.prog 144 [NT .i64 n,vP Tryz.prog (Fin n × Fin n) (fun x=>[NT .i64 x.1.1,NT .i64 x.2.1]) (fun x=>aE (f x.1.1 x.2.1))] (bF (tab n fun i=>tab n (f i))):=(Jm hn).fun fun B _ v S V h1 h2=>nH (by simp [dD,List.map_map,Function.comp_def]) v V (Ck (by simp [dD,bC]) (Nat.le_refl _) v S V h1 h2)
end
section
open Go Go.RowKit
theorem lH {n : Nat} {E : cB} {H : Hp} {d : Option Tmp} {t : TypeId} {pos : String} {af : Array Edge} {g : Option (Nat × Bool)}  :
  aM Tryz.prog n E H ⟨d,.build 80 #[],t,pos,af,g⟩ (dL [Is (.slice none 0 0),Is (.slice none 0 0)]) :=
 iY (parts := []) fun a V w hs => by
  refine ⟨.agg #[(.slice none 0 0),(.slice none 0 0)],?_,[(.slice none 0 0),(.slice none 0 0)],rfl,aW (⟨rfl,trivial⟩) (aW (⟨rfl,trivial⟩) (aG))⟩
  simp [Instr.build,Instr.fill,Sem.run_bind,Result.andThen,iB,O_80,U_80,Z_54,Z_78]
theorem wZ {n : Nat} {E : cB} {H : Hp} {d : Option Tmp} {t : TypeId} {pos : String} {af : Array Edge} {g : Option (Nat × Bool)} {x0 x1 : Operand} {T0 T1 : Ty} [s0 : dI T0 1 false] (h0 : aA E x0 T0) [s1 : dI T1 1 false] (h1 : aA E x1 T1) :
  aM Tryz.prog n E H ⟨d,.build 80 #[(0,x0),(1,x1)],t,pos,af,g⟩ (dL [T0,T1]) :=
 iY (parts := [(0, x0), (1, x1)]) fun a V w hs => by
  have p0:=h0 n V a hs
  generalize e0:a.eval x0 = v0 at p0
  have q0:=(s0.ok v0 V p0).2.2 rfl
  have p1:=h1 n V a hs
  generalize e1:a.eval x1 = v1 at p1
  have q1:=(s1.ok v1 V p1).2.2 rfl
  refine ⟨.agg #[v0,v1],?_,[v0,v1],rfl,aW (⟨p0,q0⟩) (aW (⟨p1,q1⟩) (aG))⟩
  simp [e0,e1,Instr.build,Instr.fill,Sem.run_bind,Result.andThen,iB,q0.cells,q1.cells,O_80,U_80,Z_54,Z_78]
theorem jC (a:Addr) (w:World):(Instr.fieldAt 80 (.pointer (some a)) 0).run Tryz.prog w = .ok (.pointer (some (a.add 0))) w:=by
 simp [Instr.fieldAt,Instr.sureAddr,fieldPlace,Sem.run_bind,Result.andThen,U_80,Z_54]
end
section
open Go Go.RowKit
theorem a07 {s:List (List Qi)} {n i j:Nat} (hs:cI s n n) (hi:i < n) (hj:j < n):bA Tryz.prog 195 [NT .i64 i,NT .i64 j,PT (bF s)] (aE (gm s i j)):=by
 have h1:=hs.1; have h2:=hs.row hi
 refine bA.intro Tryz.func195 rfl Tryz.ntmps195 rfl (fun cx=>(ts (rn rfl (eW (Ts:=[Is (.bool false),Is (.slice none 0 0),Is (.bool false),Is (.slice none 0 0),Is (.slice none 0 0)]) O_32 rfl (fun V=>aW zd (aW zd (aW zd (aW zd (aW zd (aG))))))) fun B5=>(eX (ts (ro rfl (dV A_78 Z_78 (Ht rfl)) (rm rfl (ro rfl (dZ U_78 Z_54 (Ht rfl) (Ht rfl) rfl (eQ (dY (d:=[]) zo))) (ro rfl (dV A_54 Z_54 (Ht rfl)) ?_)))))))))
 refine rm rfl (ro rfl (dZ U_54 Z_32 (Ht rfl) (Ht rfl) rfl (eQ (dY (d:=Qi.zero) zo))) (ro rfl (dV A_32 Z_32 (Ht rfl)) (gZ Z_32 (Ht rfl) (Ht rfl) rfl (i:=0) rfl (aK rfl) rfl rfl (eX ?_))))
 exact fG rfl (fU A_32 Z_32 rfl (i:=0) rfl rfl)
theorem Pg {z:List Qi} {s:List (List Qi)} {L:Nat} (hz:cD z L) (h:L ≤ 8796093022208) (hl:z.length ≤ 1000) (hl2:s.length ≤ 1000):bA Tryz.prog 98 [bP z,bF s] (fB [fA (oG (iU z s) z) (oG (iU z s) s),aF .i64 (iU z s)]):=by
 refine bA.intro Tryz.func98 rfl Tryz.ntmps98 rfl (fun cx=>(ts (rn rfl (oF (Ht rfl)) fun B3=>(rn rfl (eW (Ts:=[Is (.slice none 0 0),Is (.slice none 0 0)]) O_80 rfl (fun V=>aW zd (aW zd (aG)))) fun B4=>(ro rfl (cQ (cJ 0)) (eX (cK (cK (gW (i:=0) (tt:=3) rfl rfl eT (cY (rm rfl (ro rfl (dK U_54 (Ht rfl) aC) (ro rfl (gJ (Ht rfl) (cJ 1)) (rm rfl (fQ rfl rfl (eK rfl rfl (Ht rfl) (fun h=>cX (Ht rfl))) (fQ rfl rfl (eK rfl rfl (Ht rfl) (fun h=>dK U_54 (fV rfl h) aC)) ?_))))))))))))))))
 refine fQ rfl rfl (eK rfl rfl (Ht rfl) (fun h=>iW (fV rfl h) (cJ 8))) (ro rfl (iF (Ht rfl) (fun h=>(fV rfl h))) (rm rfl (fQ rfl rfl (eK rfl rfl (Ht rfl) (fun h=>dV A_78 Z_78 (Ht rfl))) (fQ rfl rfl (eK rfl rfl (Ht rfl) (fun h=>dK U_78 (fV rfl h) aC)) (fQ rfl rfl (eK rfl rfl (Ht rfl) (fun h=>cX (Ht rfl))) (fQ rfl rfl (eK rfl rfl (Ht rfl) (fun h=>dK U_54 (fV rfl h) aC)) (fQ rfl rfl (eK rfl rfl (Ht rfl) (fun h=>fR (fV rfl h) (fV rfl h))) ?_)))))))
 refine ro rfl (iF (Ht rfl) (fun h=>(fV rfl h))) (eX (dQ (Ht rfl) (fun hb=>?_) (fun hb=>?_)))
 ·have he := Fe hb
  refine ts (ro rfl (aM.imp (lH ) lK) (gZ Z_80 (Ht rfl) (Ht rfl) rfl (i:=1) rfl (aK rfl) rfl rfl (ro rfl (cQ (cJ 4)) (eX (cT rfl (fZ (fU A_80 Z_80 rfl (i:=1) rfl rfl) ?_) (fZ (eU rfl) ?_))))))
  ·exact (Cu he (by decide))
  ·exact (bR he.symm)
 ·refine cU (cK (ts (ro rfl (dV A_78 Z_78 (Ht rfl)) (ro rfl (dK U_78 (Ht rfl) aC) (ro rfl (cX (cJ 0)) (eX (eG ?_)))))))
  refine eL (fun (k : Nat) => k ≤ s.length ∧ ∀ (i : Nat) (r : List Qi), i < k → s[i]? = some r → r.length = z.length) (fun (k : Nat) => s.length - k) (fun (k : Nat) => [(0, bP z), (3, PT (bF s)), (4, eH B4 0), (25, bF s), (26, NT .i64 s.length), (27, NT .i64 k)]) (fun (k : Nat) => [SA.emp, box B4 80 [Is (.slice none 0 0), Is (.slice none 0 0)]]) 0 ⟨Nat.zero_le _, fun i r h => by omega⟩
   (zS rfl) (eS.refl _) (fun k ⟨hk,hr⟩=>?_)
  refine ts (ro rfl (gJ (Ht rfl) (Ht rfl)) (eX (cK (dQ (Ht rfl) (fun hc=>?_) (fun hc=>?_)))))
  ·simp only [decide_eq_true_eq] at hc
   refine cU (cK (eG (ts (ro rfl (dZ U_78 Z_54 (Ht rfl) (Ht rfl) rfl (eQ (vM hc))) (ro rfl (dV A_54 Z_54 (Ht rfl)) (ra rfl (eX (ts (rm rfl (ro rfl (dK U_54 (Ht rfl) aC) (rm rfl (ro rfl (dK U_54 (Ht rfl) aC) (ro rfl (fR (Ht rfl) (Ht rfl)) (eX (dQ (Ht rfl) (fun hd=>?_) (fun hd=>?_))))))))))))))))
   ·have hd2 : ¬ (s[k]).length = z.length := by simpa using hd
    have he:=Hq (vM hc) hd2
    refine ts (ro rfl (aM.imp (lH ) lK) (gZ Z_80 (Ht rfl) (Ht rfl) rfl (i:=1) rfl (aK rfl) rfl rfl (ro rfl (cQ (cJ 4)) (eX (cT rfl (fZ (fU A_80 Z_80 rfl (i:=1) rfl rfl) ?_) (fZ (eU rfl) ?_))))))
    ·exact (Cu he (by decide))
    ·exact (bR he.symm)
   ·have hd2 : (s[k]).length = z.length := by simpa using hd
    refine cU (cF (cY (ro rfl (dW (Ht rfl) (cJ 1) z6) (rm rfl (eX ?_)))))
    refine gQ (k + 1) ⟨hc, fun i r h1 h2 => by
      by_cases e:i = k
      ·subst e; rw [vM hc] at h2; obtain rfl:=Option.some.inj h2; exact hd2
      ·exact hr i r zo h2⟩ zo (zS rfl) (eS.refl _)
  ·simp only [decide_eq_false_iff_not] at hc
   have hall:∀ (i:Nat) (r:List Qi),s[i]? = some r → r.length = z.length:=fun i r h=>hr i r (by have:=(List.getElem?_eq_some_iff.1 h).1; omega) h
   have hpos:=Hn hb hall
   refine gG rfl (cK (ts (rm rfl (ro rfl (cZ Tryz.call194 (Ed hz h zo) ⟨(Ht rfl),trivial⟩) (ra rfl (eX (ts (rm rfl (ro rfl (fL (Ht rfl) cV) (eX (dQ (Ht rfl) (fun hd=>?_) (fun hd=>?_))))))))))))
   ·have hd2 : ¬ (if z.all nG = true then (0 : Int) else 1) = 0 := by simpa using hd
    refine ts (ro rfl (aM.imp (lH ) lK) (rm rfl (gZ Z_80 (Ht rfl) (Ht rfl) rfl (i:=1) rfl (aK rfl) rfl rfl (ra rfl (eX (cT rfl (fZ (fU A_80 Z_80 rfl (i:=1) rfl rfl) ?_) (fZ (eU rfl) ?_)))))))
    ·exact (Cu hpos hd2)
    ·exact (bR hpos.symm)
   ·have hd2 : (if z.all nG = true then (0 : Int) else 1) = 0 := by simpa using hd
    have he:=hpos.trans hd2
    obtain ⟨h1,h2,hsh,_⟩:=Mn he
    refine cU (ts (rm rfl (ro rfl (cZ Tryz.call120 (Ub zo) ⟨(Ht rfl),trivial⟩) (rm rfl (ro rfl (dK U_54 (Ht rfl) aC) (ro rfl (kP (γ:=Fin z.length × Fin z.length) (Ts:=fun x=>[NT .i64 x.1.1,NT .i64 x.2.1]) (U:=fun x=>aE (gm s x.1.1 x.2.1)) Tryz.call195 (fun x=>a07 hsh x.1.2 x.2.2) ⟨(Ht rfl),trivial⟩) (ro rfl (cZ Tryz.call144 (bA.imp (Pb (n:=z.length) (f:=gm s) zo) (nH (by rw [← tG hsh]))) ⟨(Ht rfl),(Ht rfl),trivial⟩) ?_)))))))
    refine ro rfl (wZ (Ht rfl) (Ht rfl)) (gZ Z_80 (Ht rfl) (Ht rfl) rfl (i:=1) rfl (aK rfl) rfl rfl (ro rfl (cQ (cJ 0)) (eX (cT rfl (fZ (fU A_80 Z_80 rfl (i:=1) rfl rfl) ?_) (fZ (eU rfl) ?_)))))
    ·exact (Rc he)
    ·exact (bR he.symm)
theorem Uf {z:List Qi} {s:List (List Qi)}:bA Tryz.prog 117 [fA z s] (NT .i64 z.length):=by
 refine bA.intro Tryz.func117 rfl Tryz.ntmps117 rfl (fun cx=>(ts (rn rfl (fK (Ht rfl)) fun B1=>(ro rfl (cQ (cJ 0)) (eX (ts (ro rfl (eZ jC (Ht rfl) rfl) (ro rfl (eY A_54 Z_54 (Ht rfl) (i:=0) rfl rfl) (ro rfl (dK U_54 (Ht rfl) aC) (ra rfl (eX ?_)))))))))))
 exact fG rfl (eU rfl)
theorem Pc {z:List Qi} {s:List (List Qi)} {i:Int}:bA Tryz.prog 209 [fA z s,aF .i64 i] (aD (decide (1 ≤ i ∧ i ≤ z.length))):=by
 refine bA.intro Tryz.func209 rfl Tryz.ntmps209 rfl (fun cx=>(ts (rn rfl (fK (Ht rfl)) fun B2=>(ro rfl (cQ cV) (eX (ts (rm rfl (ro rfl (nF (Ht rfl) cV) (rm rfl (fQ rfl rfl (eK rfl rfl (Ht rfl) (fun h=>cX (Ht rfl))) (fQ rfl rfl (eK rfl rfl (Ht rfl) (fun h=>eZ jC (Ht rfl) rfl)) (fQ rfl rfl (eK rfl rfl (Ht rfl) (fun h=>eY A_54 Z_54 (fV rfl h) (i:=0) rfl rfl)) (fQ rfl rfl (eK rfl rfl (Ht rfl) (fun h=>dK U_54 (fV rfl h) aC)) (fQ rfl rfl (eK rfl rfl (Ht rfl) (fun h=>Rm (fV rfl h) (fV rfl h))) ?_))))))))))))))
 refine ro rfl (gA (Ht rfl) (fun h=>(fV rfl h))) (ra rfl (eX (fG rfl (fZ (eU rfl) ?_))))
 exact (fE (by rw [Bool.eq_iff_iff]; simp))
end
section
open Go Go.RowKit
theorem gS (a:Addr) (w:World):(Instr.fieldAt 80 (.pointer (some a)) 1).run Tryz.prog w = .ok (.pointer (some (a.add 1))) w:=by
 simp [Instr.fieldAt,Instr.sureAddr,fieldPlace,Sem.run_bind,Result.andThen,U_80,Z_78]
end
section
open Go Go.RowKit
theorem a23 {z:List Qi} {s:List (List Qi)} {i j:Int} (hs:cI s z.length z.length) (hl:z.length ≤ 1000):bA Tryz.prog 130 [fA z s,aF .i64 i,aF .i64 j] (fB [aE (pkm z.length s i j),aF .i64 (if (1 ≤ i ∧ i ≤ z.length) ∧ 1 ≤ j ∧ j ≤ z.length then 0 else 1)]):=by
 have hs1:=hs.1
 refine bA.intro Tryz.func130 rfl Tryz.ntmps130 rfl (fun cx=>(ts (rn rfl (fK (Ht rfl)) fun B3=>(rn rfl (eW (Ts:=[Is (.bool false),Is (.slice none 0 0),Is (.bool false),Is (.slice none 0 0),Is (.slice none 0 0)]) O_32 rfl (fun V=>aW zd (aW zd (aW zd (aW zd (aW zd (aG))))))) fun B6=>(ro rfl (cQ (cJ 0)) (eX (cK (ts (ro rfl (eJ A_80 Z_80 (Ht rfl) (i:=0) rfl rfl rfl) (rm rfl (ro rfl (cZ Tryz.call209 Pc ⟨(Ht rfl),(Ht rfl),trivial⟩) ?_)))))))))))
 refine ro rfl (dE (Ht rfl)) (rm rfl (fQ rfl rfl (eK rfl rfl (Ht rfl) (fun h=>eJ A_80 Z_80 (Ht rfl) (i:=0) rfl rfl rfl)) (fQ rfl rfl (eK rfl rfl (Ht rfl) (fun h=>cX (Ht rfl))) (fQ rfl rfl (eK rfl rfl (Ht rfl) (fun h=>cZ Tryz.call209 Pc ⟨(fV rfl h),(fV rfl h),trivial⟩)) (fQ rfl rfl (eK rfl rfl (Ht rfl) (fun h=>dE (fV rfl h))) (ro rfl (iF (Ht rfl) (fun h=>(fV rfl h))) (eX (dQ (Ht rfl) (fun hb=>?_) (fun hb=>?_)))))))))
 ·have hn : ¬ ((1 ≤ i ∧ i ≤ (z.length : Int)) ∧ 1 ≤ j ∧ j ≤ (z.length : Int)) := by simp only [Bool.or_eq_true, Bool.not_eq_true', decide_eq_false_iff_not] at hb; exact fun k => hb.elim (fun h => h k.1) (fun h => h k.2)
  refine ts (rn rfl (eW (Ts:=[Is (.bool false),Is (.slice none 0 0),Is (.bool false),Is (.slice none 0 0),Is (.slice none 0 0)]) O_32 rfl (fun V=>aW zd (aW zd (aW zd (aW zd (aW zd (aG))))))) fun B8=>(eX (ts (ro rfl (eJ A_32 Z_32 (Ht rfl) (i:=2) rfl rfl rfl) (gZ Z_32 (Ht rfl) (Ht rfl) rfl (i:=1) rfl (aK rfl) rfl rfl (ro rfl (cQ (cJ 1)) (eX (cT rfl (fZ (fU A_32 Z_32 rfl (i:=1) rfl rfl) ?_) (fZ (eU rfl) ?_)))))))))
  ·exact (fun v V k=>by rw [pkm,if_neg hn]; exact tH v V k)
  ·exact (bR (by rw [if_neg hn]; rfl))
 ·have hp : (1 ≤ i ∧ i ≤ (z.length : Int)) ∧ 1 ≤ j ∧ j ≤ (z.length : Int) := by simpa only [Bool.or_eq_false_iff, Bool.not_eq_false', decide_eq_true_eq] using hb
  have hq:(i - 1).toNat < s.length:=by omega
  have hq2:(j - 1).toNat < (s.getD (i - 1).toNat []).length:=by rw [hs.row zo]; omega
  refine cU (ts (ro rfl (eZ gS (Ht rfl) rfl) (ro rfl (eY A_78 Z_78 (Ht rfl) (i:=0) rfl rfl) (rm rfl (ro rfl (jU (Ht rfl) cV (Ip zo)) (ro rfl (dZ U_78 Z_54 (Ht rfl) (Ht rfl) (by omega:i - 1 = (((i - 1).toNat:Nat):Int)) (eQ (dY (d:=[]) hq))) (ro rfl (dV A_54 Z_54 (Ht rfl)) (rm rfl (ro rfl (jU (Ht rfl) cV (Ip zo)) (ro rfl (dZ U_54 Z_32 (Ht rfl) (Ht rfl) (by omega:j - 1 = (((j - 1).toNat:Nat):Int)) (eQ (dY (d:=Qi.zero) hq2))) ?_))))))))))
  refine ro rfl (dV A_32 Z_32 (Ht rfl)) (gZ Z_32 (Ht rfl) (Ht rfl) rfl (i:=1) rfl (aK rfl) rfl rfl (ro rfl (cQ (cJ 0)) (eX (cT rfl (fZ (fU A_32 Z_32 rfl (i:=1) rfl rfl) ?_) (fZ (eU rfl) ?_)))))
  ·exact (gM (by rw [pkm,if_pos hp]))
  ·exact (bR (by rw [if_pos hp]; rfl))
end
section
open Go Go.RowKit
theorem a1d:Tryz.prog.underlying 78 = some (.slice 54):=by kernel_rfl
end
section
open Go Go.RowKit
theorem oU (v : Value) (w : World) : (method (Tryz.prog.types.size + Made.depth) 32 v "Of").run Tryz.prog w = .ok (318, v) w := by kernel_rfl
theorem aR (v:Value) (w:World):(Instr.makeInterface 32 v).run Tryz.prog w = .ok (.iface 32 v) w:=by
 simp [Instr.makeInterface,Sem.run_bind,Result.andThen,U_32]
end
section
open Go Go.RowKit
theorem Ot {y:Qi}:bA Tryz.prog 318 [dL [Is (.bool false),Is (.slice none 0 0),Is (.bool false),Is (.slice none 0 0),Is (.slice none 0 0)],aE y] (aE y):=by
 refine bA.intro Tryz.func318 rfl Tryz.ntmps318 rfl (fun cx=>(ts (rn rfl (fK (Ht rfl)) fun B2=>(rn rfl (fK (Ht rfl)) fun B3=>(rn rfl (eW (Ts:=[Is (.bool false),Is (.slice none 0 0),Is (.bool false),Is (.slice none 0 0),Is (.slice none 0 0)]) O_32 rfl (fun V=>aW zd (aW zd (aW zd (aW zd (aW zd (aG))))))) fun B4=>(eX (ts (ro rfl (eJ A_32 Z_32 (Ht rfl) (i:=1) rfl rfl rfl) (gZ Z_32 (Ht rfl) (Ht rfl) rfl (i:=2) rfl (aK rfl) rfl rfl ?_)))))))))
 refine eX ?_
 exact fG rfl (fU A_32 Z_32 rfl (i:=2) rfl rfl)
theorem Gt {r:List Qi} {k:Nat}:bA Tryz.prog 266 [bP r,PT (NT .i64 k)] (aD (!decide (r.length = k))):=by
 refine bA.intro Tryz.func266 rfl Tryz.ntmps266 rfl (fun cx=>(ts (ro rfl (cQ cV) (eX (ts (rm rfl (ro rfl (dK U_54 (Ht rfl) aC) (ro rfl (dV A_3 Z_3 (Ht rfl)) (ro rfl (fR (Ht rfl) (Ht rfl)) (ra rfl (eX ?_)))))))))))
 exact fG rfl (eU rfl)
theorem xB  : bA Tryz.prog 231 [bF []] (fB [NT .i64 0,aD true]):=by
 refine bA.intro Tryz.func231 rfl Tryz.ntmps231 rfl (fun cx=>(ts (ro rfl (cQ (cJ 0)) (ro rfl (cQ cV) (eX (cK (ts (rm rfl (ro rfl (dK U_78 (Ht rfl) aC) (ro rfl (dN (Ht rfl) (cJ 0)) (eX (iS (Ht rfl) (by rfl) ?_))))))))))))
 refine ts (ro rfl (cQ (cJ 0)) (ro rfl (cQ cV) (eX ?_)))
 exact cT rfl (eU rfl) (eU rfl)
theorem Af {a:List (List Qi)} {n k:Nat} (h:cI a n k) (h1:1 ≤ n) (hn:n ≤ 32) (hk:k ≤ 32):bA Tryz.prog 231 [bF a] (fB [NT .i64 k,aD true]):=by
 obtain ⟨rfl,h2⟩:=h
 have hr0:(a.getD 0 []).length = k:=cI.row ⟨rfl,h2⟩ zo
 refine bA.intro Tryz.func231 rfl Tryz.ntmps231 rfl (fun cx=>(ts (ro rfl (cQ (cJ 0)) (ro rfl (cQ cV) (eX (cK (ts (rm rfl (ro rfl (dK U_78 (Ht rfl) aC) (ro rfl (dN (Ht rfl) (cJ 0)) (eX (dQ (Ht rfl) (fun hb=>?_) (fun hb=>?_)))))))))))))
 ·simp only [decide_eq_true_eq] at hb
  omega
 ·refine cU (ts (rm rfl (ro rfl (dZ U_78 Z_54 (Ht rfl) (cJ 0) rfl (eQ (dY (d := []) zo))) (ro rfl (dV A_54 Z_54 (Ht rfl)) (ro rfl (dK U_54 (Ht rfl) aC) (rn rfl (eW (Ts := [Is (.int .i64 0)]) O_3 rfl (fun V => aW zd (aG))) fun B4 => (jL Z_3 (Ht rfl) (Ht rfl) (i := 0) rfl (aK rfl) rfl (eX (cK (gW (i := 0) (tt := 4) rfl rfl eT (fJ (m := 15) (dp 4 rfl (dV A_3 Z_3 (Ht rfl)) ?_))))))))))))
  refine dp 0 rfl (cX (Ht rfl)) (dq 13 1 rfl (dK U_78 (Ht rfl) aC) (dq 14 2 rfl (tK (Ht rfl) (cJ 32)) (dq 15 3 rfl (cX (Ht rfl)) (C.D_step (Ei:=[(4,_),(16,_)]) rfl rfl (bV (bK rfl rfl) (bV (bG 4 rfl rfl) bW)) (eK rfl rfl (Ht rfl) (fun h=>dV A_3 Z_3 (Ht rfl))) (C.D_step (Ei:=[(17,_),(16,_)]) rfl rfl (bV (bG 5 rfl rfl) (bV (bG 4 rfl rfl) bW)) (eK rfl rfl (Ht rfl) (fun h=>tK (fV rfl h) (cJ 32))) (eD 16 4 18 6 rfl (gA (Ht rfl) (fun h=>(fV rfl h))) ?_))))))
  refine dq 19 7 rfl (cX (Ht rfl)) (C.D_step (Ei:=[(0,_),(20,_)]) rfl rfl (bV (bK rfl rfl) (bV (bG 8 rfl rfl) bW)) (eK rfl rfl (Ht rfl) (fun h=>cX (Ht rfl))) (C.D_step (Ei:=[(4,_),(20,_)]) rfl rfl (bV (bK rfl rfl) (bV (bG 8 rfl rfl) bW)) (eK rfl rfl (Ht rfl) (fun h=>kP (γ:=List Qi) (Ts:=fun r=>[bP r]) (U:=fun r=>aD (!decide (r.length = (a.getD 0 []).length))) Tryz.call266 (fun r=>Gt) ⟨(Ht rfl),trivial⟩)) (C.D_step (Ei:=[(21,_),(22,_),(20,_)]) rfl rfl (bV (bG 9 rfl rfl) (bV (bG 10 rfl rfl) (bV (bG 8 rfl rfl) bW))) (eK rfl rfl (Ht rfl) (fun h=>cZ Tryz.call118 (zP (l:=a) (T:=bP) (p:=fun r=>!decide (r.length = (a.getD 0 []).length)) zo) ⟨(fV rfl h),(fV rfl h),trivial⟩)) ?_)))
  refine C.D_step (Ei:=[(23,_),(20,_)]) rfl rfl (bV (bG 11 rfl rfl) (bV (bG 8 rfl rfl) bW)) (eK rfl rfl (Ht rfl) (fun h=>dE (fV rfl h))) (eD 20 8 24 12 rfl (gA (Ht rfl) (fun h=>(fV rfl h))) (dq 12 0 rfl (cQ (Ht rfl)) (fW aT rfl (by kernel_rfl) (zF (zF (zF (aJ (aJ (aJ (aV (ra rfl (eX (cT rfl (fZ (eU rfl) ?_) (fZ (eU rfl) ?_))))))))))))))
  ·exact (mE hr0)
  ·exact (fE (by rw [hr0,Ve ⟨rfl,h2⟩]; simp; omega))
theorem xC {a:List (List Qi)} {n k:Nat} (h:cI a n k) (h1:1 ≤ n ∨ k = 0) (hn:n ≤ 32) (hk:k ≤ 32):bA Tryz.prog 231 [bF a] (fB [NT .i64 k,aD true]):=by
 by_cases e:n = 0
 ·subst e
  obtain rfl:=List.length_eq_zero_iff.1 h.1
  rw [show k = 0 by omega]; exact xB
 ·exact Af h zo hn hk
end
section
open Go Go.RowKit
theorem jG (v : Value) (w : World) : (method (Tryz.prog.types.size + Made.depth) 32 v "Add").run Tryz.prog w = .ok (33, v) w := by kernel_rfl
theorem bE (v : Value) (w : World) : (method (Tryz.prog.types.size + Made.depth) 32 v "Mul").run Tryz.prog w = .ok (29, v) w := by kernel_rfl
end
section
open Go Go.RowKit
theorem Ou {a b:List (List Qi)} {n k m L M:Nat} (ha:cI a n k) (hb:cI b k m) (hfa:aS a L) (hfb:aS b M) (hL1:1 ≤ L) (hM1:1 ≤ M) (hL:L ≤ 900000000000) (hM:M ≤ 900000000000) (hn1:1 ≤ n ∨ k = 0) (hk1:1 ≤ k ∨ m = 0) (hn:n ≤ 8) (hk:k ≤ 8) (hm:m ≤ 8):iH Tryz.prog 165 [bF a,bF b] [] (Nat) (fun B=>fB [Is (.slice (some ⟨B,0,none⟩) n n),aF .i64 0]) (fun B=>[nL B 54 32 5 (dD aE (kV a b n k m))]) (fun _=>True):=by
 have hal:=ha.1
 have hbl:=hb.1
 refine iH.intro Tryz.func165 rfl Tryz.ntmps165 rfl (fun cx Z=>(ts (ro rfl (cQ cV) (ro rfl (cQ (cJ 0)) (eX (ts (rm rfl (ro rfl (cZ Tryz.call231 (xC ha hn1 zo zo) ⟨(Ht rfl),trivial⟩) (rm rfl (ro rfl (dU (Ht rfl) rfl) (ro rfl (dU (Ht rfl) rfl) (ra rfl (ra rfl (eX (ts (rm rfl (ro rfl (cZ Tryz.call231 (xC hb hk1 zo zo) ⟨(Ht rfl),trivial⟩) (rm rfl (ro rfl (dU (Ht rfl) rfl) (ro rfl (dU (Ht rfl) rfl) (ra rfl (ra rfl (eX (cK (ts (rm rfl (ro rfl (dE (Ht rfl)) ?_)))))))))))))))))))))))))))
 refine rm rfl (fQ rfl rfl (eK rfl rfl (Ht rfl) (fun h=>cX (Ht rfl))) (fQ rfl rfl (eK rfl rfl (Ht rfl) (fun h=>dE (fV rfl h))) (ro rfl (iF (Ht rfl) (fun h=>(fV rfl h))) (rm rfl (fQ rfl rfl (eK rfl rfl (Ht rfl) (fun h=>cX (Ht rfl))) (fQ rfl rfl (eK rfl rfl (Ht rfl) (fun h=>cX (Ht rfl))) (fQ rfl rfl (eK rfl rfl (Ht rfl) (fun h=>dK U_78 (fV rfl h) aC)) (fQ rfl rfl (eK rfl rfl (Ht rfl) (fun h=>fR (fV rfl h) (fV rfl h))) (ro rfl (iF (Ht rfl) (fun h=>(fV rfl h))) ?_)))))))))
 refine eX (dQ (Ht rfl) (fun h0=>?_) (fun h0=>?_))
 ·exact absurd h0 (by simp [hbl])
 ·refine cU (ts (rm rfl (ro rfl (dK U_78 (Ht rfl) aC) (rn rfl (gN (T := Is (.slice none 0 0)) (i := Tryz.t54) V_78 mH rfl rfl (Ht rfl) rfl (fun _ => rfl) trivial (by show 24 * _ ≤ _; omega) zo) fun B39 => (ra rfl (eX (cK (ts (rm rfl (ro rfl (iK U_78 (Ht rfl)) (ro rfl (cX (cJ 0)) (eX (eG (mB 1 rfl (oT (e := 32) (s := 5)) ?_))))))))))))))
  refine eL (fun (i : Nat) => i ≤ n) (fun (i : Nat) => n - i) (fun (i : Nat) => [(0, bF a), (1, bF b), (6, NT .i64 k), (8, NT .i64 m), (10, Is (.slice (some ⟨B39, 0, none⟩) n n)), (41, NT .i64 n), (42, NT .i64 i)]) (fun (i : Nat) => [Z, nL B39 54 32 5 (dD aE (lR (fun i => tab m fun c => zR a b k i c) [] n i))]) 0 (Nat.zero_le _)
   (aQ rfl (aQ rfl (aQ rfl (aQ rfl (aZ rfl (fun v V h=>by rw [← hal]; exact h) (aZ rfl (mE hal) (zS rfl))))))) (aU (fun _ _ _ h=>h) (aU (dO (by rw [← lS,mS,hal]; exact lW aE n)) aY)) (fun i hi=>?_)
  refine ts (ro rfl (gJ (Ht rfl) (Ht rfl)) (eX (cK (dQ (Ht rfl) (fun hd=>?_) (fun hd=>?_)))))
  ·simp only [decide_eq_true_eq] at hd
   have har:=ha.row hd
   refine nN 1 (i) rfl (pQ hd) (fun v=>(cU (cK (eG (ts (rm rfl (ra rfl (eX (ts (rm rfl (ro rfl (cX (cJ 0)) (eX (eG ?_)))))))))))))
   refine gO (fun (c : Nat) (v : Value) => c ≤ m) (fun (c : Nat) (v : Value) => m - c) (fun (c : Nat) (v : Value) => [(0, bF a), (1, bF b), (6, NT .i64 k), (8, NT .i64 m), (10, Is (.slice (some ⟨B39, 0, none⟩) n n)), (11, NT .i64 i), (41, NT .i64 n), (42, NT .i64 i), (45, NT .i64 m), (46, NT .i64 c)]) (fun (c : Nat) (v : Value) => [Z, Fa B39 54 32 5 (dD aE (lR (fun i => tab m fun c => zR a b k i c) [] n i)) i v, bN 32 5 v ((tab c fun c => zR a b k i c).map aE)]) 0 v (Nat.zero_le _)
    (zS rfl) (eS.refl _) (fun c v hc=>?_)
   refine ts (ro rfl (gJ (Ht rfl) (Ht rfl)) (eX (cK (dQ (Ht rfl) (fun he=>?_) (fun he=>?_)))))
   ·simp only [decide_eq_true_eq] at he
    have hk1:1 ≤ k:=by omega
    have hb0:=hb.row (i:=0) zo
    haveI f1:aI (gm a i 0) L:=hfa.get hL1 i 0
    haveI f2:aI (gm b 0 c) M:=hfb.get hM1 0 c
    refine cU (cK (eG (ts (rm rfl (ra rfl (eX (cK (fJ (m:=15) (dp 0 rfl (cX (Ht rfl)) (dp 11 rfl (cX (Ht rfl)) (eD 49 0 50 1 rfl (dZ U_78 Z_54 (Ht rfl) (Ht rfl) rfl (eQ (dY (d:=[]) zo))) (dq 51 2 rfl (dV A_54 Z_54 (Ht rfl)) (dq 52 3 rfl (dZ U_54 Z_32 (Ht rfl) (cJ 0) rfl (eQ (dY (d:=Qi.zero) (by rw [har]; omega)))) ?_)))))))))))))
    refine dq 53 4 rfl (dV A_32 Z_32 (Ht rfl)) (dq 54 5 rfl (aN aR (Ht rfl)) (dp 1 rfl (cX (Ht rfl)) (dq 56 7 rfl (dZ U_78 Z_54 (Ht rfl) (cJ 0) rfl (eQ (dY (d:=[]) zo))) (dq 57 8 rfl (dV A_54 Z_54 (Ht rfl)) (dp 12 rfl (cX (Ht rfl)) (eD 58 9 59 10 rfl (dZ U_54 Z_32 (Ht rfl) (Ht rfl) rfl (eQ (dY (d:=Qi.zero) (by rw [hb0]; omega)))) ?_))))))
    refine dq 60 11 rfl (dV A_32 Z_32 (Ht rfl)) (eD 55 6 61 12 rfl (aH bE K_29 (iQ zo) (Ht rfl) ⟨(Ht rfl),trivial⟩) (C.D_new (Ei:=[]) rfl rfl rfl bW (eW (Ts:=[Is (.bool false),Is (.slice none 0 0),Is (.bool false),Is (.slice none 0 0),Is (.slice none 0 0)]) O_32 rfl (fun V=>aW zd (aW zd (aW zd (aW zd (aW zd (aG))))))) (fW aT rfl (by kernel_rfl) (zF (zF (zF (aJ (aJ (C.F_new (fun B13=>aV ?_))))))))))
    refine gZ Z_32 (Ht rfl) (Ht rfl) rfl (i:=3) rfl (aK rfl) rfl rfl (eX (cK (ts (ro rfl (cQ (cJ 1)) (eX (eG ?_))))))
    refine eL (fun (j : Nat) => 1 ≤ j ∧ j ≤ k) (fun (j : Nat) => k - j) (fun (j : Nat) => [(0, bF a), (1, bF b), (6, NT .i64 k), (8, NT .i64 m), (10, Is (.slice (some ⟨B39, 0, none⟩) n n)), (11, NT .i64 i), (12, NT .i64 c), (13, eH B13 0), (14, NT .i64 j), (41, NT .i64 n), (42, NT .i64 i), (45, NT .i64 m), (46, NT .i64 c)]) (fun (j : Nat) => [Z, Fa B39 54 32 5 (dD aE (lR (fun i => tab m fun c => zR a b k i c) [] n i)) i v, bN 32 5 v ((tab c fun c => zR a b k i c).map aE), box B13 32 [aD (decide ((bB j fun j => gm a i j * gm b j c).a < 0)), aL (bB j fun j => gm a i j * gm b j c).a.natAbs, aD (decide ((bB j fun j => gm a i j * gm b j c).b < 0)), aL (bB j fun j => gm a i j * gm b j c).b.natAbs, aL (du (bB j fun j => gm a i j * gm b j c))]]) 1 ⟨Nat.le_refl _, hk1⟩
     (zS rfl) (aU (fun _ _ _ h=>h) (aU (fun _ _ _ h=>h) (aU (fun _ _ _ h=>h) (aU (aP (by rw [yM]; rfl)) aY)))) (fun j ⟨hj1,hj⟩=>?_)
    refine cK (ts (rm rfl (rm rfl (ro rfl (gJ (Ht rfl) (Ht rfl)) (eX (dQ (Ht rfl) (fun hf=>?_) (fun hf=>?_)))))))
    ·simp only [decide_eq_true_eq] at hf
     haveI f3:aI (gm a i j) L:=hfa.get hL1 i j
     haveI f4:aI (gm b j c) M:=hfb.get hM1 j c
     haveI f5:aI (bB j fun j=>gm a i j * gm b j c) (8 * (L + M) + 17):=Jx hfa hfb hL1 hM1 zo i c
     have hbj:=hb.row (i:=j) zo
     refine cU (cK (eG (fJ (m:=18) (dp 13 rfl (eJ A_32 Z_32 (Ht rfl) (i:=3) rfl rfl rfl) (dq 68 0 rfl (aN aR (Ht rfl)) (dp 0 rfl (cX (Ht rfl)) (dp 11 rfl (cX (Ht rfl)) (eD 70 2 71 3 rfl (dZ U_78 Z_54 (Ht rfl) (Ht rfl) rfl (eQ (dY (d:=[]) zo))) (dq 72 4 rfl (dV A_54 Z_54 (Ht rfl)) (dp 14 rfl (cX (Ht rfl)) (eD 73 5 74 6 rfl (dZ U_54 Z_32 (Ht rfl) (Ht rfl) rfl (eQ (dY (d:=Qi.zero) (by rw [har]; omega)))) ?_)))))))))))
     refine dq 75 7 rfl (dV A_32 Z_32 (Ht rfl)) (dq 76 8 rfl (aN aR (Ht rfl)) (dp 1 rfl (cX (Ht rfl)) (dp 14 rfl (cX (Ht rfl)) (eD 78 10 79 11 rfl (dZ U_78 Z_54 (Ht rfl) (Ht rfl) rfl (eQ (dY (d:=[]) zo))) (dq 80 12 rfl (dV A_54 Z_54 (Ht rfl)) (dp 12 rfl (cX (Ht rfl)) (eD 81 13 82 14 rfl (dZ U_54 Z_32 (Ht rfl) (Ht rfl) rfl (eQ (dY (d:=Qi.zero) (by rw [hbj]; omega)))) ?_)))))))
     refine dq 83 15 rfl (dV A_32 Z_32 (Ht rfl)) (eD 77 9 84 16 rfl (aH bE K_29 (iQ zo) (Ht rfl) ⟨(Ht rfl),trivial⟩) (fW aT rfl (by kernel_rfl) (zF (zF (zF (zF (aJ (aJ (aV (ro rfl (aH jG K_33 (vB zo) (Ht rfl) ⟨(Ht rfl),trivial⟩) (gZ Z_32 (Ht rfl) (Ht rfl) rfl (i:=3) rfl (aK rfl) rfl rfl (eX (cF ?_)))))))))))))
     refine cY (rm rfl (ro rfl (dW (Ht rfl) (cJ 1) z6) (ra rfl (eX (gQ (j + 1) ⟨by omega,hf⟩ zo (zS rfl) (aU (fun _ _ _ h=>h) (aU (fun _ _ _ h=>h) (aU (fun _ _ _ h=>h) (aU (aP rfl) aY)))))))))
    ·simp only [decide_eq_false_iff_not] at hf
     obtain rfl:k = j:=Nat.le_antisymm zo hj
     refine gG rfl (Y.D_startA (m:=9) [] 8 2 rfl rfl (bY (Ei:=[(10,_)]) rfl rfl (bQ (bJ rfl rfl) bX) rfl rfl (dX rfl (cX (Ht rfl))) (bY (Ei:=[(11,_)]) rfl rfl (bQ (bJ rfl rfl) bX) rfl rfl (dX rfl (cX (Ht rfl))) (bY (Ei:=[(10,_)]) rfl rfl (bQ (bJ rfl rfl) bX) rfl rfl (dX rfl (cX (Ht rfl))) (bY (Ei:=[(11,_)]) rfl rfl (bQ (bJ rfl rfl) bX) rfl rfl (dX rfl (cX (Ht rfl))) (bY (Ei:=[(89,_),(90,_)]) rfl rfl (bQ (bZ 2 rfl rfl) (bQ (bZ 3 rfl rfl) bX)) rfl rfl (dX rfl (gX U_78 Z_54 (Ht rfl) (Ht rfl) rfl zo (by rw [Nat.mul_one,Nat.zero_add]))) ?_))))))
     refine bY (Ei:=[(91,_)]) rfl rfl (bQ (bZ 4 rfl rfl) bX) rfl rfl (dX rfl (kR A_54 Z_54 (Ht rfl) (j:=1) rfl)) (bY (Ei:=[(13,_)]) rfl rfl (bQ (bJ rfl rfl) bX) rfl rfl (dX rfl (eJ A_32 Z_32 (Ht rfl) (i:=3) rfl rfl rfl)) (bY (Ei:=[(93,_)]) rfl rfl (bQ (bZ 6 rfl rfl) bX) rfl rfl (dX rfl (eO (xs:=[.tmp 93]) U_54 Z_32 O_32 (cW (Ht rfl) cG) rfl rfl rfl)) (Y.D_app (Ei:=[(92,_),(94,_)]) rfl rfl rfl rfl (bQ (bZ 5 rfl rfl) (bQ (bZ 7 rfl rfl) bX)) rfl (sE (inf:=Tryz.t32) jW iJ rfl rfl rfl (Ht rfl) (Ht rfl) (by simp) (fun T hT=>by simp at hT; subst hT; exact El.ag rfl) (by show _ * 88 ≤ _; simp only [List.length_map,bC,List.length_cons,List.length_nil]; omega) (by simp only [List.length_map,bC,List.length_cons,List.length_nil]; omega)) ?_)))
     refine Y.D_done aT rfl (by kernel_rfl) rfl (by simp [Y.okP]) rfl rfl (bU (bU (bU (bU (bU (bU (bU (bU (Y.F_app (fun v2=>Y.F_nil ?_))))))))))
     refine ro rfl (gX U_78 Z_54 (Ht rfl) (Ht rfl) rfl zo (by rw [Nat.mul_one,Nat.zero_add])) ?_
     refine sH Z_54 (Ht rfl) (Ht rfl) (by simp only [dD,List.length_map,gL]; omega) (j:=1) (l:=4) rfl rfl rfl ?_
     refine eX (cF (cY (ro rfl (dW (Ht rfl) (cJ 1) z6) (rm rfl (eX (cC [0,1,4] rfl (by decide) (gQ (c + 1,v2) he (by dsimp only; omega) (zS rfl) (aU (fun _ _ _ h=>h) (aU (fun _ _ _ h=>h) (aU (cA ((sN aE _ (zR a b k i c)).trans (congrArg _ (lZ c (fun c=>zR a b k i c)).symm))) aY))))))))))
   ·simp only [decide_eq_false_iff_not] at he
    obtain rfl:m = c:=Nat.le_antisymm zo hc
    refine gG rfl (cF (jM 1 2 rfl rfl (by decide) (by simp only [dD,List.length_map,gL]; omega) ?_))
    refine cY (ro rfl (dW (Ht rfl) (cJ 1) z6) (rm rfl (eX (cC [0,1] rfl (by decide) (gQ (i + 1) hd zo (zS rfl) (aU (fun _ _ _ h=>h) (aU (dO (by rw [jJ,← nS (f:=(fun i=>tab m fun c=>zR a b k i c))])) aY)))))))
  ·simp only [decide_eq_false_iff_not] at hd
   obtain rfl:n = i:=Nat.le_antisymm zo hi
   refine gG rfl (ts (rm rfl (ra rfl (ro rfl (cQ (cJ 0)) (eX ?_)))))
   exact kY B39 trivial [0,1] ⟨⟨_,rfl,fun _ _ _ h=>h⟩,⟨_,rfl,(dO (by rw [nR]; rfl))⟩,trivial⟩ (by decide) (Ig rfl (eU rfl) (eU rfl))
theorem Ug {a b:List (List Qi)} {n k m L M:Nat} (ha:cI a n k) (hb:cI b k m) (hfa:aS a L) (hfb:aS b M) (hL1:1 ≤ L) (hM1:1 ≤ M) (hL:L ≤ 900000000000) (hM:M ≤ 900000000000) (hn1:1 ≤ n) (hk1:1 ≤ k) (hn:n ≤ 8) (hk:k ≤ 8) (hm:m ≤ 8):iH Tryz.prog 165 [bF a,bF b] [] Nat (fun B=>fB [Is (.slice (some ⟨B,0,none⟩) n n),aF .i64 0]) (fun B=>[nL B 54 32 5 (dD aE (kV a b n k m))]) (fun _=>True):=Ou ha hb hfa hfb hL1 hM1 hL hM (.inl hn1) (.inl hk1) hn hk hm
theorem Gr {a b:List (List Qi)} {n k m L M:Nat} (ha:cI a n k) (hb:cI b k m) (hfa:aS a L) (hfb:aS b M) (hL1:1 ≤ L) (hM1:1 ≤ M) (hL:L ≤ 900000000000) (hM:M ≤ 900000000000) (hn1:1 ≤ n) (hk1:1 ≤ k) (hn:n ≤ 8) (hk:k ≤ 8) (hm:m ≤ 8):bA Tryz.prog 165 [bF a,bF b] (fB [bF (kV a b n k m),aF .i64 0]):=(Ug ha hb hfa hfb hL1 hM1 hL hM hn1 hk1 hn hk hm).fun fun B _ v S V h1 h2=>a2j h1 fun u hu=>pS (s:=5) (M:=kV a b n k m) (bC _ _).symm u S V hu h2
end
section
open Go Go.RowKit
theorem iD (v : Value) (w : World) : (method (Tryz.prog.types.size + Made.depth) 32 v "Div").run Tryz.prog w = .ok (142, v) w := by kernel_rfl
theorem iE (v : Value) (w : World) : (method (Tryz.prog.types.size + Made.depth) 32 v "Sub").run Tryz.prog w = .ok (32, v) w := by kernel_rfl
end
section
open Go Go.RowKit
theorem Ue {n:Nat} (h:n < 4294967296):bA Tryz.prog 289 [NT .u64 1,NT .u64 n] (fB [NT .u64 0,NT .u64 n]):=by
 refine bA.intro Tryz.func289 rfl Tryz.ntmps289 rfl (fun cx=>(ts (ro rfl (cQ (cJ 0)) (ro rfl (cQ (cJ 0)) (eX (ts (rm rfl (ro rfl (aM.nat (tI rfl (Ht rfl) (cJ 4294967295) z7 z7) (show (1:Nat) &&& 4294967295 = 1 by decide)) (ra rfl (eX (ts (rm rfl (ro rfl (aM.nat (iG (Ht rfl) (cJ 32) (by decide)) (show (1:Nat) / 2 ^ 32 = 0 by decide)) (ra rfl (eX (ts (rm rfl (ro rfl (aM.nat (tI rfl (Ht rfl) (cJ 4294967295) z7 z7) (show n &&& 4294967295 = n from (Nat.and_two_pow_sub_one_eq_mod n 32).trans (Nat.mod_eq_of_lt h))) ?_))))))))))))))))))
 refine ra rfl (eX (ts (rm rfl (ro rfl (aM.nat (iG (Ht rfl) (cJ 32) (by decide)) (show n / 2 ^ 32 = 0 from Nat.div_eq_of_lt h)) (ra rfl (eX (ts (rm rfl (rm rfl (ro rfl (aM.nat (mK (Ht rfl) (Ht rfl) z7) (Nat.one_mul n)) (ra rfl (eX (ts (rm rfl (rm rfl (ro rfl (aM.nat (mK (Ht rfl) (Ht rfl) z7) (Nat.zero_mul n)) (rm rfl (ro rfl (aM.nat (iG (Ht rfl) (cJ 32) (by decide)) (show n / 2 ^ 32 = 0 from Nat.div_eq_of_lt h)) ?_))))))))))))))))))
 refine ro rfl (dW (Ht rfl) (Ht rfl) z7) (ra rfl (eX (ts (rm rfl (ro rfl (aM.nat (tI rfl (Ht rfl) (cJ 4294967295) z7 z7) (show (0 + 0:Nat) &&& 4294967295 = 0 by decide)) (ra rfl (eX (ts (rm rfl (ro rfl (aM.nat (iG (Ht rfl) (cJ 32) (by decide)) (show (0 + 0:Nat) / 2 ^ 32 = 0 by decide)) (ra rfl (eX (ts (rm rfl (rm rfl (rm rfl ?_))))))))))))))))
 refine ro rfl (aM.nat (mK (Ht rfl) (Ht rfl) z7) (show (1 * 0:Nat) = 0 by decide)) (ro rfl (dW (Ht rfl) (Ht rfl) z7) (ra rfl (eX (ts (rm rfl (rm rfl (ro rfl (aM.nat (mK (Ht rfl) (Ht rfl) z7) (show (0 * 0:Nat) = 0 by decide)) (rm rfl (ro rfl (dW (Ht rfl) (Ht rfl) z7) ?_)))))))))
 refine rm rfl (ro rfl (aM.nat (iG (Ht rfl) (cJ 32) (by decide)) (show (0 + 0:Nat) / 2 ^ 32 = 0 by decide)) (ro rfl (dW (Ht rfl) (Ht rfl) z7) (ra rfl (eX (ts (rm rfl (rm rfl (ro rfl (aM.nat (mK (Ht rfl) (Ht rfl) z7) (Nat.one_mul n)) (ra rfl (eX (cT rfl (fZ (eU rfl) ?_) (eU rfl))))))))))))
 exact (mE (by decide))
theorem a0a {n:Nat} (h:n < 4294967296):bA Tryz.prog 259 [NT .u64 1,NT .u64 n] (fB [NT .u64 0,NT .u64 n]):=by
 refine bA.intro Tryz.func259 rfl Tryz.ntmps259 rfl (fun cx=>(ts (ro rfl (cQ (cJ 0)) (ro rfl (cQ (cJ 0)) (eX (cK (dQ cV (fun hf=>?_) (fun hf=>?_))))))))
 ·exact absurd hf (by decide)
 ·refine cU (ts (rm rfl (rm rfl (ro rfl (cZ Tryz.call289 (Ue h) ⟨(Ht rfl), (Ht rfl), trivial⟩) (rm rfl (ro rfl (dU (Ht rfl) rfl) (ro rfl (dU (Ht rfl) rfl) (ra rfl (ra rfl (eX (ts (rm rfl (rm rfl (ra rfl (ra rfl (eX ?_))))))))))))))))
  exact cT rfl (eU rfl) (eU rfl)
theorem a09 {m:Nat} (h1:1 ≤ m) (hm:m ≤ 1000):iH Tryz.prog 212 [bP [Qi.zero],NT .i64 m] [] ({v:Value // uO v}) (fun v=>Is v.1) (fun v=>[bN 32 5 v.1 ((tab m fun _=>Qi.zero).map aE)]) (fun _=>True):=by
 refine iH.intro Tryz.func212 rfl Tryz.ntmps212 rfl (fun cx Z=>(ts (ro rfl (cQ cV) (eX (cK (ts (rm rfl (ro rfl (gJ (Ht rfl) (cJ 0)) (eX (dQ (Ht rfl) (fun h0=>?_) (fun h0=>?_)))))))))))
 ·simp only [decide_eq_true_eq] at h0
  omega
 ·refine cU (ts (rm rfl (ro rfl (dK U_54 (Ht rfl) (show (([Qi.zero].map aE).length : Int) = ((1 : Nat) : Int) from rfl)) (ro rfl (gV U_3 U_275 (Ht rfl) z7) (rm rfl (ro rfl (gV U_3 U_275 (Ht rfl) z7) (ro rfl (cZ Tryz.call259 (a0a zo) ⟨(Ht rfl), (Ht rfl), trivial⟩) (rm rfl (ro rfl (dU (Ht rfl) rfl) (ro rfl (dU (Ht rfl) rfl) ?_))))))))))
  refine ra rfl (ra rfl (eX (cK (ts (rm rfl (ro rfl (iW (Ht rfl) (cJ 0)) (rm rfl (fQ rfl rfl (eK rfl rfl (Ht rfl) (fun h=>cX (Ht rfl))) (fQ rfl rfl (eK rfl rfl (Ht rfl) (fun h=>iW (fV rfl h) (cJ 9223372036854775807))) (ro rfl (iF (Ht rfl) (fun h=>(fV rfl h))) (eX (dQ (Ht rfl) (fun h2=>?_) (fun h2=>?_)))))))))))))
  ·simp only [Bool.or_eq_true, decide_eq_true_eq] at h2
   omega
  ·refine cU (ts (rm rfl (ro rfl (gV U_275 U_3 (Ht rfl) z6) (Tm (T := aE Qi.zero) (i := Tryz.t32) jW iJ rfl rfl (Ht rfl) rfl iV (El.ag rfl) (by show 88 * _ ≤ _; omega) zo rfl (fun B30 hB30 => (ra rfl (eX (ts (rm rfl (rm rfl (ro rfl (Rk (q := 1) (T := aE Qi.zero) U_54 Z_32 (i := 1) rfl (Ht rfl) (Ht rfl) (by decide) (El.ag rfl) zo) (ra rfl (eX (cK (eG ?_)))))))))))))))
   refine eL (fun (k : Nat) => 1 ≤ k ∧ k ≤ m) (fun (k : Nat) => m - k) (fun (k : Nat) => [(7, Is B30), (8, NT .i64 k)]) (fun (k : Nat) => [Z, bN 32 5 B30 (List.replicate m (aE Qi.zero))]) (Nat.min 1 m) ⟨by show 1 ≤ min 1 m; omega, by show min 1 m ≤ m; omega⟩
    (zS rfl) (eS.refl _) (fun k ⟨hk1,hk⟩=>?_)
   refine cK (ts (rm rfl (rm rfl (ro rfl (oY U_54 (Ht rfl) (i:=1) rfl (show ((List.replicate m (aE Qi.zero)).length:Int) = ((m:Nat):Int) by simp)) (ro rfl (gJ (Ht rfl) (Ht rfl)) (eX (dQ (Ht rfl) (fun hd=>?_) (fun hd=>?_))))))))
   ·simp only [decide_eq_true_eq] at hd
    have hlen:(List.replicate m (aE Qi.zero)).length = m:=by simp
    have h5:Nat.min k ((List.replicate m (aE Qi.zero)).length - k) = min k (m - k):=by rw [hlen]
    refine cU (eG (fJ (m:=8) (dp 8 rfl (cX (Ht rfl)) (dp 7 rfl (cX (Ht rfl)) (dp 8 rfl (cX (Ht rfl)) (eD 39 1 40 2 rfl (Ro U_54 Z_32 (Ht rfl) (Ht rfl) rfl (i:=1) rfl (by rw [hlen]; exact hd)) ?_))))))
    refine dp 7 rfl (cX (Ht rfl)) (dp 8 rfl (cX (Ht rfl)) (eD 42 4 43 5 rfl (Rn U_54 Z_32 (Ht rfl) (Ht rfl) rfl (i:=1) rfl (by rw [hlen]; omega) (by rw [hlen]; omega)) ?_))
    refine eD 41 3 44 6 rfl (Hv (T:=aE Qi.zero) U_54 Z_32 (i:=1) rfl (Ht rfl) (Ht rfl)) (fW aT rfl (by kernel_rfl) (zF (zF (aV (ro rfl (dW (Ht rfl) (Ht rfl) (by show _ < 9223372036854775808; omega)) (ra rfl (eX (cF (gQ (k + Nat.min k ((List.replicate m (aE Qi.zero)).length - k)) ⟨by omega,by omega⟩ zo (zS rfl) (eS.refl _))))))))))
   ·refine gG rfl (ts (rm rfl (ra rfl (eX ?_))))
    exact kY ⟨B30,hB30⟩ trivial [0,1] ⟨⟨_,rfl,fun _ _ _ h=>h⟩,⟨_,rfl,(cA (by rw [mS,tW]))⟩,trivial⟩ (by decide) (zX rfl (eU rfl))
end
section
open Go Go.RowKit
theorem Gl {n : Nat} {E : cB} {H : Hp} {d : Option Tmp} {t : TypeId} {pos : String} {af : Array Edge} {g : Option (Nat × Bool)} {x0 x2 : Operand} {T0 T2 : Ty} [s0 : dI T0 1 false] (h0 : aA E x0 T0) [s2 : dI T2 1 false] (h2 : aA E x2 T2) :
  aM Tryz.prog n E H ⟨d,.build 23 #[(0,x0),(2,x2)],t,pos,af,g⟩ (dL [T0,Is (.int .i64 0),T2]) :=
 iY (parts := [(0, x0), (2, x2)]) fun a V w hs => by
  have p0:=h0 n V a hs
  generalize e0:a.eval x0 = v0 at p0
  have q0:=(s0.ok v0 V p0).2.2 rfl
  have p2:=h2 n V a hs
  generalize e2:a.eval x2 = v2 at p2
  have q2:=(s2.ok v2 V p2).2.2 rfl
  refine ⟨.agg #[v0,(.int .i64 0),v2],?_,[v0,(.int .i64 0),v2],rfl,aW (⟨p0,q0⟩) (aW (⟨rfl,trivial⟩) (aW (⟨p2,q2⟩) (aG)))⟩
  simp [e0,e2,Instr.build,Instr.fill,Sem.run_bind,Result.andThen,iB,q0.cells,q2.cells,Tryz.zeroValue23,U_23,Z_2]
end
section
open Go Go.RowKit
theorem Qi.zero_div (y:Qi):Qi.zero / y = Qi.zero:=by rw [Qi.div_def,Qi.zero_mul']
theorem pos_re {x:Qi} (h:nG x = true):x.im = 0 ∧ x.re ≠ 0:=by
 simp only [nG,decide_eq_true_eq] at h
 exact ⟨Qi.b_zero.1 h.1,fun e=>by have:=Qi.a_zero.2 e; omega⟩
end
section
open Go Go.RowKit
theorem Cl {α:Type} {l:List α} {d:α} {k:Nat} (h:k < l.length):l.getD k d = l[k]:=by simp [List.getD,h]
theorem a1D {l m:List Qi} (h:l.length = m.length) (k:∀ i,i < l.length → gv l i = gv m i):l = m:=by
 apply List.ext_getElem h
 intro i h1 h2
 have:=k i h1
 simpa [gv,List.getD,h1,h2] using this
theorem Vp {l m:List (List Qi)} (h:l.length = m.length) (k:∀ i,i < l.length → l.getD i [] = m.getD i []):l = m:=by
 apply List.ext_getElem h
 intro i h1 h2
 have:=k i h1
 simpa [List.getD,h1,h2] using this
theorem a1K {l m:List Qi} {i:Nat} (h:gv l i ≠ gv m i):l ≠ m:=fun e=>h (by rw [e])
theorem Wj {l m:List (List Qi)} {i:Nat} (h:l.getD i [] ≠ m.getD i []):l ≠ m:=fun e=>h (by rw [e])
def Rb (z z':List Qi) (s s':List (List Qi)):Bool:=decide (z = z') && decide (s = s')
theorem Hm (z:List Qi) (s:List (List Qi)):Rb z z s s = true:=by simp [Rb]
end
section
open Go Go.RowKit
theorem Cq (v : Value) (w : World) : (method (Tryz.prog.types.size + Made.depth) 32 v "Same").run Tryz.prog w = .ok (45, v) w := by kernel_rfl
end
section
open Go Go.RowKit
theorem Jj {l m:List Qi} {L:Nat} (hl:cD l L) (hm:cD m L) (hL:1 ≤ L) (h1:l.length ≤ 1000) (h2:m.length ≤ 1000):bA Tryz.prog 137 [bP l,bP m,vP Tryz.prog {x:Qi × Qi // aI x.1 L ∧ aI x.2 L} (fun x=>[aE x.1.1,aE x.1.2]) (fun x=>aD (decide (x.1.1 = x.1.2)))] (aD (decide (l = m))):=by
 refine bA.intro Tryz.func137 rfl Tryz.ntmps137 rfl (fun cx=>(ts (ro rfl (cQ cV) (eX (cK (ts (rm rfl (ro rfl (dK U_54 (Ht rfl) aC) (rm rfl (ro rfl (dK U_54 (Ht rfl) aC) (ro rfl (fR (Ht rfl) (Ht rfl)) (eX (dQ (Ht rfl) (fun hb=>?_) (fun hb=>?_))))))))))))))
 ·have hn : ¬ l = m := fun e => by rw [e] at hb; simp at hb
  refine ts (ro rfl (cQ cV) (eX (fG rfl (fZ (eU rfl) ?_))))
  exact (fE (decide_eq_false hn).symm)
 ·have he : l.length = m.length := by simpa using hb
  refine cU (cK (ts (rm rfl (ro rfl (dK U_54 (Ht rfl) aC) (ro rfl (cX (cJ 0)) (eX (eG ?_)))))))
  refine eL (fun (k : Nat) => k ≤ l.length ∧ ∀ i, i < k → gv l i = gv m i) (fun (k : Nat) => l.length - k) (fun (k : Nat) => [(0, bP l), (1, bP m), (2, vP Tryz.prog {x : Qi × Qi // aI x.1 L ∧ aI x.2 L} (fun x => [aE x.1.1, aE x.1.2]) (fun x => aD (decide (x.1.1 = x.1.2)))), (15, bP l), (16, NT .i64 l.length), (17, NT .i64 k)]) (fun (k : Nat) => []) 0 ⟨Nat.zero_le _, fun i h => by omega⟩
   (zS rfl) aY (fun k ⟨hk,hr⟩=>?_)
  refine ts (ro rfl (gJ (Ht rfl) (Ht rfl)) (eX (cK (dQ (Ht rfl) (fun hc=>?_) (fun hc=>?_)))))
  ·simp only [decide_eq_true_eq] at hc
   refine cU (cK (eG (ts (rm rfl (ro rfl (dZ U_54 Z_32 (Ht rfl) (Ht rfl) rfl (eQ (dY (d:=Qi.zero) zo))) (ro rfl (dV A_32 Z_32 (Ht rfl)) (rn rfl (eW (Ts:=[Is (.bool false),Is (.slice none 0 0),Is (.bool false),Is (.slice none 0 0),Is (.slice none 0 0)]) O_32 rfl (fun V=>aW zd (aW zd (aW zd (aW zd (aW zd (aG))))))) fun B8=>(ra rfl (gZ Z_32 (Ht rfl) (Ht rfl) rfl (i:=0) rfl (aK rfl) rfl rfl ?_)))))))))
   refine eX (ts (rm rfl (rm rfl (ro rfl (dZ U_54 Z_32 (Ht rfl) (Ht rfl) rfl (eQ (dY (d:=Qi.zero) zo))) (ro rfl (dV A_32 Z_32 (Ht rfl)) (rn rfl (eW (Ts:=[Is (.bool false),Is (.slice none 0 0),Is (.bool false),Is (.slice none 0 0),Is (.slice none 0 0)]) O_32 rfl (fun V=>aW zd (aW zd (aW zd (aW zd (aW zd (aG))))))) fun B9=>(gZ Z_32 (Ht rfl) (Ht rfl) rfl (i:=1) rfl (aK rfl) rfl rfl ?_)))))))
   refine eX (ts (rm rfl (ro rfl (eJ A_32 Z_32 (Ht rfl) (i:=0) rfl rfl rfl) (ro rfl (eJ A_32 Z_32 (Ht rfl) (i:=1) rfl rfl rfl) (ro rfl (oH (⟨(gv l k,gv m k),hl.get hL k,hm.get hL k⟩:{x:Qi × Qi // aI x.1 L ∧ aI x.2 L}) (Ht rfl) ⟨(Ht rfl),(Ht rfl),trivial⟩) (ro rfl (dE (Ht rfl)) (eX (dQ (Ht rfl) (fun hd=>?_) (fun hd=>?_)))))))))
   ·have hn : ¬ l = m := a1K (i := k) (by simpa using hd)
    refine ts (ro rfl (cQ cV) (eX (fG rfl (fZ (eU rfl) ?_))))
    exact (fE (decide_eq_false hn).symm)
   ·have hq : gv l k = gv m k := by simpa using hd
    refine cU (cF (cY (ro rfl (dW (Ht rfl) (cJ 1) z6) (rm rfl (eX (cC [] rfl (by decide) ?_))))))
    refine gQ (k + 1) ⟨hc, fun i h => by
     by_cases e:i = k
     ·rw [e]; exact hq
     ·exact hr i zo⟩ zo (zS rfl) aY
  ·simp only [decide_eq_false_iff_not] at hc
   refine gG rfl (ts (ro rfl (cQ cV) (eX (fG rfl (fZ (eU rfl) ?_)))))
   exact (fE (decide_eq_true (a1D he (fun i h=>hr i zo))).symm)
theorem Ud {l m:List (List Qi)} {L:Nat} (hl:aS l L) (hm:aS m L) (h3:∀ r,r ∈ l → r.length ≤ 1000) (h4:∀ r,r ∈ m → r.length ≤ 1000) (h1:l.length ≤ 1000) (h2:m.length ≤ 1000):bA Tryz.prog 150 [bF l,bF m,vP Tryz.prog {x:List Qi × List Qi // (cD x.1 L ∧ x.1.length ≤ 1000) ∧ cD x.2 L ∧ x.2.length ≤ 1000} (fun x=>[bP x.1.1,bP x.1.2]) (fun x=>aD (decide (x.1.1 = x.1.2)))] (aD (decide (l = m))):=by
 refine bA.intro Tryz.func150 rfl Tryz.ntmps150 rfl (fun cx=>(ts (ro rfl (cQ cV) (eX (cK (ts (rm rfl (ro rfl (dK U_78 (Ht rfl) aC) (rm rfl (ro rfl (dK U_78 (Ht rfl) aC) (ro rfl (fR (Ht rfl) (Ht rfl)) (eX (dQ (Ht rfl) (fun hb=>?_) (fun hb=>?_))))))))))))))
 ·have hn : ¬ l = m := fun e => by rw [e] at hb; simp at hb
  refine ts (ro rfl (cQ cV) (eX (fG rfl (fZ (eU rfl) ?_))))
  exact (fE (decide_eq_false hn).symm)
 ·have he : l.length = m.length := by simpa using hb
  refine cU (cK (ts (rm rfl (ro rfl (dK U_78 (Ht rfl) aC) (ro rfl (cX (cJ 0)) (eX (eG ?_)))))))
  refine eL (fun (k : Nat) => k ≤ l.length ∧ ∀ i, i < k → l.getD i [] = m.getD i []) (fun (k : Nat) => l.length - k) (fun (k : Nat) => [(0, bF l), (1, bF m), (2, vP Tryz.prog {x : List Qi × List Qi // (cD x.1 L ∧ x.1.length ≤ 1000) ∧ cD x.2 L ∧ x.2.length ≤ 1000} (fun x => [bP x.1.1, bP x.1.2]) (fun x => aD (decide (x.1.1 = x.1.2)))), (15, bF l), (16, NT .i64 l.length), (17, NT .i64 k)]) (fun (k : Nat) => []) 0 ⟨Nat.zero_le _, fun i h => by omega⟩
   (zS rfl) aY (fun k ⟨hk,hr⟩=>?_)
  refine ts (ro rfl (gJ (Ht rfl) (Ht rfl)) (eX (cK (dQ (Ht rfl) (fun hc=>?_) (fun hc=>?_)))))
  ·simp only [decide_eq_true_eq] at hc
   refine cU (cK (eG (ts (rm rfl (ro rfl (dZ U_78 Z_54 (Ht rfl) (Ht rfl) rfl (eQ (dY (d:=[]) hc))) (ro rfl (dV A_54 Z_54 (Ht rfl)) (ra rfl (ra rfl (eX (ts (rm rfl (rm rfl (ro rfl (dZ U_78 Z_54 (Ht rfl) (Ht rfl) rfl (eQ (dY (d:=[]) zo))) (ro rfl (dV A_54 Z_54 (Ht rfl)) (ra rfl (eX (ts (rm rfl (rm rfl (rm rfl (ro rfl (oH (⟨(l.getD k [],m.getD k []),⟨hl.row k,by rw [Cl hc]; exact h3 _ (List.getElem_mem hc)⟩,hm.row k,by rw [Cl (by omega:k < m.length)]; exact h4 _ (List.getElem_mem _)⟩:{x:List Qi × List Qi // (cD x.1 L ∧ x.1.length ≤ 1000) ∧ cD x.2 L ∧ x.2.length ≤ 1000}) (Ht rfl) ⟨(Ht rfl),(Ht rfl),trivial⟩) ?_)))))))))))))))))))))
   refine ro rfl (dE (Ht rfl)) (eX (dQ (Ht rfl) (fun hd=>?_) (fun hd=>?_)))
   ·have hn : ¬ l = m := Wj (i := k) (by simpa using hd)
    refine ts (ro rfl (cQ cV) (eX (fG rfl (fZ (eU rfl) ?_))))
    exact (fE (decide_eq_false hn).symm)
   ·have hq : l.getD k [] = m.getD k [] := by simpa using hd
    refine cU (cF (cY (ro rfl (dW (Ht rfl) (cJ 1) z6) (rm rfl (eX ?_)))))
    refine gQ (k + 1) ⟨hc, fun i h => by
     by_cases e:i = k
     ·rw [e]; exact hq
     ·exact hr i zo⟩ zo (zS rfl) aY
  ·simp only [decide_eq_false_iff_not] at hc
   refine gG rfl (ts (ro rfl (cQ cV) (eX (fG rfl (fZ (eU rfl) ?_)))))
   exact (fE (decide_eq_true (Vp he (fun i h=>hr i zo))).symm)
theorem Pe {x y:Qi} {L:Nat} [hx:aI x L] [hy:aI y L] (h:L ≤ 8796093022208):bA Tryz.prog 148 [aE x,aE y] (aD (decide (x = y))):=by
 refine bA.intro Tryz.func148 rfl Tryz.ntmps148 rfl (fun cx=>(ts (rn rfl (fK (Ht rfl)) fun B2=>(rn rfl (fK (Ht rfl)) fun B3=>(ro rfl (cQ cV) (eX (ts (ro rfl (eJ A_32 Z_32 (Ht rfl) (i:=0) rfl rfl rfl) (ro rfl (aN aR (Ht rfl)) (ro rfl (eJ A_32 Z_32 (Ht rfl) (i:=1) rfl rfl rfl) (ro rfl (aH Cq Tryz.call45 (Bw zo zo) (Ht rfl) ⟨(Ht rfl),trivial⟩) (ra rfl (eX ?_)))))))))))))
 exact fG rfl (eU rfl)
theorem Pf {l m:List Qi} {L:Nat} (hl:cD l L) (hm:cD m L) (hL:1 ≤ L) (h1:l.length ≤ 1000) (h2:m.length ≤ 1000):bA Tryz.prog 149 [bP l,bP m,PT (vP Tryz.prog {x:Qi × Qi // aI x.1 L ∧ aI x.2 L} (fun x=>[aE x.1.1,aE x.1.2]) (fun x=>aD (decide (x.1.1 = x.1.2))))] (aD (decide (l = m))):=by
 refine bA.intro Tryz.func149 rfl Tryz.ntmps149 rfl (fun cx=>(ts (ro rfl (cQ cV) (eX (ts (rm rfl (rm rfl (ro rfl (dV Tryz.isAgg224 Tryz.sizeOf224 (Ht rfl)) (ro rfl (cZ Tryz.call137 (Jj hl hm hL h1 h2) ⟨(Ht rfl),(Ht rfl),(Ht rfl),trivial⟩) (ra rfl (eX ?_)))))))))))
 exact fG rfl (eU rfl)
theorem Gy {z z':List Qi} {s s':List (List Qi)} {L:Nat} (hz:cD z L) (hz2:cD z' L) (hs:aS s L) (hs2:aS s' L) (hL:1 ≤ L) (h:L ≤ 8796093022208) (hsh:cI s z.length z.length) (hsh2:cI s' z'.length z'.length) (hl:z.length ≤ 1000) (hl2:z'.length ≤ 1000):bA Tryz.prog 64 [fA z s,fA z' s'] (aD (Rb z z' s s')):=by
 have e1:∀ r,r ∈ s → r.length ≤ 1000:=fun r hr=>by rw [hsh.2 r hr]; exact hl
 have e2:∀ r,r ∈ s' → r.length ≤ 1000:=fun r hr=>by rw [hsh2.2 r hr]; exact hl2
 have e3:s.length ≤ 1000:=by rw [hsh.1]; exact hl
 have e4:s'.length ≤ 1000:=by rw [hsh2.1]; exact hl2
 refine bA.intro Tryz.func64 rfl Tryz.ntmps64 rfl (fun cx=>(ts (rn rfl (fK (Ht rfl)) fun B2=>(rn rfl (fK (Ht rfl)) fun B3=>(ro rfl (cQ cV) (eX (ts (rn rfl (eW (Ts:=[Is (.nilFunc)]) Tryz.zeroValue224 rfl (fun V=>aW zd (aG))) fun B5=>(jL Tryz.sizeOf224 (Ht rfl) (aA.fn Tryz.call148 (γ:={x:Qi × Qi // aI x.1 L ∧ aI x.2 L}) (Ts:=fun x=>[aE x.1.1,aE x.1.2]) (U:=fun x=>aD (decide (x.1.1 = x.1.2))) (fun x=>haveI:=x.2.1; haveI:=x.2.2; Pe (L:=L) h)) (i:=2) rfl (aK rfl) rfl ?_)))))))))
 refine eX (cK (gW (i:=2) (tt:=5) rfl rfl eT (cY (ro rfl (kP (γ:={x:List Qi × List Qi // (cD x.1 L ∧ x.1.length ≤ 1000) ∧ cD x.2 L ∧ x.2.length ≤ 1000}) (Ts:=fun x=>[bP x.1.1,bP x.1.2]) (U:=fun x=>aD (decide (x.1.1 = x.1.2))) Tryz.call149 (fun x=>Pf x.2.1.1 x.2.2.1 hL x.2.1.2 x.2.2.2) ⟨(Ht rfl),trivial⟩) (ra rfl (eX (ts (ro rfl (eZ jC (Ht rfl) rfl) (ro rfl (eY A_54 Z_54 (Ht rfl) (i:=0) rfl rfl) (ro rfl (eZ jC (Ht rfl) rfl) (ro rfl (eY A_54 Z_54 (Ht rfl) (i:=1) rfl rfl) ?_)))))))))))
 refine ro rfl (cZ Tryz.call137 (Jj hz hz2 hL hl hl2) ⟨(Ht rfl),(Ht rfl),(aA.fn Tryz.call45 (γ:={x:Qi × Qi // aI x.1 L ∧ aI x.2 L}) (Ts:=fun x=>[aE x.1.1,aE x.1.2]) (U:=fun x=>aD (decide (x.1.1 = x.1.2))) (fun x=>haveI:=x.2.1; haveI:=x.2.2; Bw (L:=L) (M:=L) zo zo)),trivial⟩) (rm rfl (fQ rfl rfl (eK rfl rfl (Ht rfl) (fun h=>eZ gS (Ht rfl) rfl)) (fQ rfl rfl (eK rfl rfl (Ht rfl) (fun h=>eY A_78 Z_78 (fV rfl h) (i:=0) rfl rfl)) (fQ rfl rfl (eK rfl rfl (Ht rfl) (fun h=>eZ gS (Ht rfl) rfl)) ?_))))
 refine fQ rfl rfl (eK rfl rfl (Ht rfl) (fun h=>eY A_78 Z_78 (fV rfl h) (i:=1) rfl rfl)) (fQ rfl rfl (eK rfl rfl (Ht rfl) (fun h=>cX (Ht rfl))) (fQ rfl rfl (eK rfl rfl (Ht rfl) (fun h=>cZ Tryz.call150 (Ud hs hs2 e1 e2 e3 e4) ⟨(fV rfl h),(fV rfl h),(fV rfl h),trivial⟩)) (ro rfl (gA (Ht rfl) (fun h=>(fV rfl h))) (ra rfl (eX (fG rfl (fZ (eU rfl) ?_)))))))
 exact (fE rfl)
end
section
open Go Go.RowKit
namespace Qi
end Qi
def a26 (x y:Qi):Int:=rE (x - y).a 0
def kZ (f : Nat → Int) : Nat → Int
 | 0=>0
 | n + 1=>if kZ f n ≠ 0 then kZ f n else f n
theorem Md {f:Nat → Int} {k:Nat} (h:∀ i,i < k → f i = 0) (hk:f k ≠ 0):∀ {n:Nat},k < n → kZ f n = f k:=by
 have hz : kZ f k = 0 := by
  clear hk
  induction k with
  | zero=>rfl
  | succ k ih=>rw [kZ,ih (fun i hi=>h i zo),if_neg (by simp),h k zo]
 intro n
 induction n with
 | zero=>intro h; omega
 | succ n ih =>
  intro hn
  by_cases e:n = k
  ·rw [e,kZ,hz,if_neg (by simp)]
  ·rw [kZ,ih zo,if_pos hk]
theorem pO {f : Nat → Int} : ∀ {n : Nat}, (∀ i, i < n → f i = 0) → kZ f n = 0
 | 0,_=>rfl
 | n + 1,h=>by rw [kZ,pO (fun i hi=>h i zo),if_neg (by simp),h n zo]
theorem vE {f : Nat → Int} : ∀ {n : Nat}, kZ f n = 0 → ∀ i, i < n → f i = 0
 | 0,_,i,hi=>by omega
 | n + 1, h, i, hi => by
  rw [kZ] at h
  split at h
  ·rename_i c; exact absurd h c
  ·rename_i c
   by_cases e:i = n
   ·rw [e]; exact h
   ·exact vE (Decidable.not_not.1 c) i zo
abbrev eF (l:List (Qi × Qi)) (i:Nat):Qi:=(l.getD i (Qi.zero,Qi.zero)).1
abbrev eV (l:List (Qi × Qi)) (i:Nat):Qi:=(l.getD i (Qi.zero,Qi.zero)).2
structure Yn (l:List (Qi × Qi)) (f:Qi):Prop where
 real:∀ i,i < l.length → (eF l i).b = 0 ∧ (eV l i).b = 0
 up:∀ i,0 < i → i < l.length → (eF l (i - 1)).re < (eF l i).re
 fr:f.b = 0
theorem a0Q {x:Qi} (h:nG x = true):x.b = 0:=by simp only [nG,decide_eq_true_eq] at h; exact h.1
theorem Yn.mono {l : List (Qi × Qi)} {f : Qi} (h : Yn l f) {i : Nat} : ∀ {j : Nat}, i < j → j < l.length → (eF l i).re < (eF l j).re
 | 0,h1,_=>by omega
 | j + 1, h1, h2 => by
  have h3:=h.up (j + 1) zo h2
  rw [Nat.add_sub_cancel] at h3
  by_cases e:i = j
  ·rw [e]; exact h3
  ·have := h.mono (i := i) (j := j) zo zo
   grind
theorem Qi.sub_ne {x y : Qi} (h : x.re ≠ y.re) : x - y ≠ Qi.zero := fun e => h (by
 have:(x - y).re = 0:=by rw [e]; rfl
 have h2:x.re - y.re = 0:=this
 grind)
def a1e (l:List (Qi × Qi)) (L:Nat):Prop:=∀ e,e ∈ l → aI e.1 L ∧ aI e.2 L
theorem a1e.get {l:List (Qi × Qi)} {L:Nat} (h:a1e l L) (hL:1 ≤ L) (i:Nat):aI (eF l i) L ∧ aI (eV l i) L:=by
 by_cases hi:i < l.length
 ·have e : l.getD i (Qi.zero, Qi.zero) = l[i] := by simp [List.getD, hi]
  show aI (l.getD i _).1 L ∧ aI (l.getD i _).2 L
  rw [e]; exact h _ (List.getElem_mem hi)
 ·have e : l.getD i (Qi.zero, Qi.zero) = (Qi.zero, Qi.zero) := by simp [List.getD, List.getElem?_eq_none (Nat.le_of_not_lt hi)]
  show aI (l.getD i _).1 L ∧ aI (l.getD i _).2 L
  rw [e]; exact ⟨aI.zero hL,aI.zero hL⟩
end
section
open Go Go.RowKit
abbrev dP (M:List (List Qi)) (i:Nat):List Qi:=M.getD i []
def Nm (M : List (List Qi)) (c n : Nat) : Nat → Nat
 | 0=>n
 | k + 1=>if gm M (n - (k + 1)) c = Qi.zero then Nm M c n k else n - (k + 1)
def pv (M:List (List Qi)) (c n:Nat):Nat:=Nm M c n (n - c)
theorem Fk {M : List (List Qi)} {c n : Nat} : ∀ {k : Nat}, k ≤ n → (∀ r, n - k ≤ r → r < Nm M c n k → gm M r c = Qi.zero) ∧ n - k ≤ Nm M c n k ∧ Nm M c n k ≤ n ∧ (Nm M c n k < n → gm M (Nm M c n k) c ≠ Qi.zero)
 | 0,_=>⟨fun r h1 h2=>by simp [Nm] at h2; omega,by simp [Nm],by simp [Nm],fun h=>by simp [Nm] at h⟩
 | k + 1, hk => by
  obtain ⟨i1,i2,i3,i4⟩:=Fk (M:=M) (c:=c) (n:=n) (k:=k) zo
  unfold Nm
  by_cases e:gm M (n - (k + 1)) c = Qi.zero
  ·rw [if_pos e]
   refine ⟨fun r h1 h2=>?_,by omega,i3,i4⟩
   by_cases e2:r = n - (k + 1)
   ·rw [e2]; exact e
   ·exact i1 r zo h2
  ·rw [if_neg e]
   exact ⟨fun r h1 h2=>by omega,Nat.le_refl _,by omega,fun _=>e⟩
theorem lM {M:List (List Qi)} {c n:Nat} (hc:c ≤ n):(∀ r,c ≤ r → r < pv M c n → gm M r c = Qi.zero) ∧ c ≤ pv M c n ∧ pv M c n ≤ n ∧ (pv M c n < n → gm M (pv M c n) c ≠ Qi.zero):=by
 have h:=Fk (M:=M) (c:=c) (n:=n) (k:=n - c) zo
 rw [show n - (n - c) = c by omega] at h
 exact h
theorem a1O {M:List (List Qi)} {c n p:Nat} (hc:c ≤ p) (hp:p ≤ n) (h1:∀ r,c ≤ r → r < p → gm M r c = Qi.zero) (h2:p < n → gm M p c ≠ Qi.zero):pv M c n = p:=by
 obtain ⟨i1,i2,i3,i4⟩:=lM (M:=M) (n:=n) (show c ≤ n by omega)
 rcases Nat.lt_trichotomy (pv M c n) p with h | h | h
 ·exact absurd (h1 _ i2 h) (i4 zo)
 ·exact h
 ·exact absurd (i1 p hc h) (h2 zo)
def jV (rr rc:List Qi) (c k:Nat):List Qi:=tab rr.length fun j=>if c < j ∧ j < k then gv rr j - gv rr c / gv rc c * gv rc j else gv rr j
def redM (M:List (List Qi)) (c r:Nat):List (List Qi):=tab M.length fun i=>if c < i ∧ i < r then jV (dP M i) (dP M c) c (dP M i).length else dP M i
def bL (M : List (List Qi)) : Nat → List (List Qi) × Nat × Int
 | 0=>(M,0,-1)
 | c + 1 =>
  let s:=bL M c
  if 0 ≤ s.2.2 then s else
  if pv s.1 c M.length = M.length then (s.1,s.2.1,(c:Int)) else
  (redM (if pv s.1 c M.length = c then s.1 else swp [] s.1 (pv s.1 c M.length) c) c M.length,s.2.1 + (if pv s.1 c M.length = c then 0 else 1),-1)
theorem Ar {M : List (List Qi)} {c : Nat} (h : 0 ≤ (bL M c).2.2) : ∀ {d : Nat}, c ≤ d → bL M d = bL M c
 | 0,hd=>by rw [show c = 0 by omega]
 | d + 1, hd => by
  by_cases e:c = d + 1
  ·rw [e]
  ·have := Ar h (d := d) zo
   simp only [bL,this]
   rw [if_pos h]
theorem qB (M:List (List Qi)) (c r:Nat):(redM M c r).length = M.length:=bC _ _
theorem Fn {M:List (List Qi)} {n m c r:Nat} (h:cI M n m):cI (redM M c r) n m:=by
 refine ⟨(qB _ _ _).trans h.1,fun x hx=>?_⟩
 obtain ⟨i,hi,rfl⟩:=iL.1 hx
 have hr:=h.row (i:=i) (by rw [← h.1]; exact hi)
 show (if c < i ∧ i < r then jV (dP M i) (dP M c) c (dP M i).length else dP M i).length = m
 split
 ·rw [jV,bC]; exact hr
 ·exact hr
theorem wR {M:List (List Qi)} {n m p c:Nat} (h:cI M n m) (hp:p < n) (hc:c < n):cI (swp [] M p c) n m:=by
 refine ⟨(wQ _ _ _ _).trans h.1,fun x hx=>?_⟩
 unfold swp at hx
 rcases List.mem_or_eq_of_mem_set hx with h1 | h1
 ·rcases List.mem_or_eq_of_mem_set h1 with h2 | h2
  ·exact h.2 x h2
  ·rw [h2]; exact h.row hc
 ·rw [h1]; exact h.row hp
theorem mZ {M : List (List Qi)} {n m : Nat} (h : cI M n m) : ∀ {c : Nat}, c ≤ n → cI (bL M c).1 n m
 | 0,_=>h
 | c + 1, hc => by
  have ih:=mZ h (c:=c) zo
  obtain ⟨_,_,i3,_⟩:=lM (M:=(bL M c).1) (c:=c) (n:=M.length) (by rw [h.1]; omega)
  simp only [bL]
  split
  ·exact ih
  ·split
   ·exact ih
   ·rename_i e
    apply Fn
    split
    ·exact ih
    ·exact wR ih (by rw [← h.1]; omega) zo
def pT (L : Nat) : Nat → Nat
 | 0=>L
 | c + 1=>6 * pT L c + 4
theorem qS (L : Nat) : ∀ {c d : Nat}, c ≤ d → pT L c ≤ pT L d
 | c,0,h=>by rw [show c = 0 by omega]; exact Nat.le_refl _
 | c, d + 1, h => by
  by_cases e:c = d + 1
  ·rw [e]; exact Nat.le_refl _
  ·have := qS L (c := c) (d := d) zo
   simp only [pT]; omega
theorem wC (L c:Nat):L ≤ pT L c:=qS L (Nat.zero_le c)
theorem Jy {rr rc:List Qi} {L c j:Nat} (h1:cD rr L) (h2:cD rc L) (hL:1 ≤ L) (hp:gv rc c ≠ Qi.zero):aI (gv rr j - gv rr c / gv rc c * gv rc j) (6 * L + 4):=by
 haveI f1:=h1.get hL j; haveI f2:=h1.get hL c; haveI f3:=h2.get hL c; haveI f4:=h2.get hL j
 haveI g:aI (gv rr c / gv rc c) (L + 3 * L + 2):=⟨f2.fit.div f3.fit hp⟩
 have:aI (gv rr j - gv rr c / gv rc c * gv rc j) (L + (L + 3 * L + 2 + L + 1) + 1):=inferInstance
 exact this.le zo
theorem Rz {rr rc : List Qi} {L c k : Nat} (h1 : cD rr L) (h2 : cD rc L) (hL : 1 ≤ L) (hp : gv rc c ≠ Qi.zero) : cD (jV rr rc c k) (6 * L + 4) := cD.tab fun j _ => by
 split
 ·exact Jy h1 h2 hL hp
 ·exact (h1.get hL j).le zo
theorem Fm {M : List (List Qi)} {L c r : Nat} (h : aS M L) (hL : 1 ≤ L) (hp : gm M c c ≠ Qi.zero) : aS (redM M c r) (6 * L + 4) := fun x hx => by
 obtain ⟨i,hi,rfl⟩:=iL.1 hx
 show cD (if c < i ∧ i < r then jV (dP M i) (dP M c) c (dP M i).length else dP M i) _
 split
 ·exact Rz (h.row i) (h.row c) hL hp
 ·exact (h.row i).le zo
theorem Di {M : List (List Qi)} {L p c : Nat} (h : aS M L) : aS (swp [] M p c) L := fun x hx => by
 unfold swp at hx
 rcases List.mem_or_eq_of_mem_set hx with h1 | h1
 ·rcases List.mem_or_eq_of_mem_set h1 with h2 | h2
  ·exact h x h2
  ·rw [h2]; exact h.row c
 ·rw [h1]; exact h.row p
theorem uX {M:List (List Qi)} {p c:Nat} (hc:c < M.length):dP (swp [] M p c) c = dP M p:=by
 simp [dP,swp,List.getD,hc]
theorem xQ {M : List (List Qi)} {n m L : Nat} (hs : cI M n m) (h : aS M L) (hL : 1 ≤ L) : ∀ {c : Nat}, c ≤ n → aS (bL M c).1 (pT L c)
 | 0,_=>h
 | c + 1, hc => by
  have ih:=xQ hs h hL (c:=c) zo
  have hg:1 ≤ pT L c:=Nat.le_trans hL (wC L c)
  have sh:=mZ hs (c:=c) zo
  obtain ⟨_,i2,i3,i4⟩:=lM (M:=(bL M c).1) (c:=c) (n:=M.length) (by rw [hs.1]; omega)
  simp only [bL,pT]
  split
  ·exact ih.le zo
  ·split
   ·exact ih.le zo
   ·rename_i e
    split
    ·rename_i e2
     refine Fm ih hg ?_
     have:=i4 zo
     rw [e2] at this; exact this
    ·refine Fm (Di ih) hg ?_
     show gv (dP (swp [] _ _ c) c) c ≠ _
     rw [uX (by rw [sh.1]; omega)]
     exact i4 zo
theorem If {rr rc:List Qi} {c:Nat}:rr = jV rr rc c (c + 1):=by
 unfold jV
 have:(tab rr.length fun j=>if c < j ∧ j < c + 1 then gv rr j - gv rr c / gv rc c * gv rc j else gv rr j) = tab rr.length (gv rr):=gC fun j _=>by rw [if_neg zo]
 rw [this]; exact Ey rfl
theorem tV (rr rc:List Qi) (c k:Nat):(jV rr rc c k).length = rr.length:=bC _ _
theorem Fo {rr rc:List Qi} {c k:Nat} (hk:k < rr.length) (h:c < k):gv (jV rr rc c k) k = gv rr k:=by
 rw [jV,oQ hk,if_neg zo]
theorem Mw {rr rc:List Qi} {c k:Nat} (hk:k < rr.length) (h:c < k):(jV rr rc c k).set k (gv (jV rr rc c k) k - gv rr c / gv rc c * gv rc k) = jV rr rc c (k + 1):=by
 rw [Fo hk h]
 apply List.ext_getElem?
 intro j
 by_cases hj:j < rr.length
 ·by_cases e : j = k
  ·subst e
   rw [List.getElem?_set_self (by rw [tV]; exact hj),jV,dC hj,if_pos zo]
  ·rw [List.getElem?_set_ne (Ne.symm e), jV, jV, dC hj, dC hj]
   by_cases e2:c < j ∧ j < k
   ·rw [if_pos e2,if_pos zo]
   ·rw [if_neg e2,if_neg zo]
 ·rw [List.getElem?_eq_none (by rw [List.length_set,tV]; omega),List.getElem?_eq_none (by rw [tV]; omega)]
theorem Ie {M:List (List Qi)} {c:Nat}:M = redM M c (c + 1):=by
 unfold redM
 have:(tab M.length fun i=>if c < i ∧ i < c + 1 then jV (dP M i) (dP M c) c (dP M i).length else dP M i) = tab M.length (dP M):=gC fun i _=>by rw [if_neg zo]
 rw [this]; exact Il (h:=rfl)
theorem tU {M:List (List Qi)} {c r i:Nat} (hi:i < M.length) (h:¬ (c < i ∧ i < r)):dP (redM M c r) i = dP M i:=by
 simp only [dP,redM,List.getD]
 rw [dC hi,if_neg h]; rfl
theorem Mv {M:List (List Qi)} {c r:Nat} (hr:r < M.length) (h:c < r):(redM M c r).set r (jV (dP M r) (dP M c) c (dP M r).length) = redM M c (r + 1):=by
 apply List.ext_getElem?
 intro j
 by_cases hj:j < M.length
 ·by_cases e : j = r
  ·subst e
   rw [List.getElem?_set_self (by rw [qB]; exact hj),redM,dC hj,if_pos zo]
  ·rw [List.getElem?_set_ne (Ne.symm e), redM, redM, dC hj, dC hj]
   by_cases e2:c < j ∧ j < r
   ·rw [if_pos e2,if_pos zo]
   ·rw [if_neg e2,if_neg zo]
 ·rw [List.getElem?_eq_none (by rw [List.length_set,qB]; omega),List.getElem?_eq_none (by rw [qB]; omega)]
theorem Sd {M:List (List Qi)} {r:Nat} {x y:List Qi}:(M.set r x).set r y = M.set r y:=List.set_set ..
theorem Dd {M:List (List Qi)} {r:Nat} {x:List Qi} (h:r < M.length):dP (M.set r x) r = x:=by simp [dP,List.getD,h]
theorem uU {M:List (List Qi)} {r i:Nat} {x:List Qi} (h:r ≠ i):dP (M.set r x) i = dP M i:=by simp [dP,List.getD,List.getElem?_set_ne h]
theorem a0X {M:List (List Qi)} {r:Nat} (h:r < M.length):M.set r (dP M r) = M:=by
 apply List.ext_getElem?
 intro j
 by_cases e:j = r
 ·subst e; rw [List.getElem?_set_self h]; simp [dP,List.getD,h]
 ·rw [List.getElem?_set_ne (Ne.symm e)]
theorem Sn {X : List (List Qi)} {r c k : Nat} (hr : r < X.length) (hne : r ≠ c) (hk : k < (dP X r).length) (hck : c < k) :
  (X.set r (jV (dP X r) (dP X c) c k)).set r ((dP (X.set r (jV (dP X r) (dP X c) c k)) r).set k (gm (X.set r (jV (dP X r) (dP X c) c k)) r k - gm X r c / gm X c c * gm (X.set r (jV (dP X r) (dP X c) c k)) c k)) = X.set r (jV (dP X r) (dP X c) c (k + 1)):=by
 rw [Sd,Dd hr]
 have e1:gm (X.set r (jV (dP X r) (dP X c) c k)) r k = gv (jV (dP X r) (dP X c) c k) k:=by show gv (dP (X.set r _) r) k = _; rw [Dd hr]
 have e2:gm (X.set r (jV (dP X r) (dP X c) c k)) c k = gv (dP X c) k:=by show gv (dP (X.set r _) c) k = _; rw [uU hne]
 rw [e1,e2]
 exact congrArg _ (Mw hk hck)
theorem So {D:List (List Qi)} {r c:Nat} (hr:r < D.length) (hc:c < r):(redM D c r).set r (jV (dP (redM D c r) r) (dP (redM D c r) c) c (dP D r).length) = redM D c (r + 1):=by
 rw [tU hr zo,tU zo zo]
 exact Mv hr hc
theorem a1C {X:List (List Qi)} {r c k:Nat} (hr:r < X.length) (hk:k < (dP X r).length) (hck:c < k):gm (X.set r (jV (dP X r) (dP X c) c k)) r k = gv (dP X r) k:=by
 show gv (dP (X.set r _) r) k = _; rw [Dd hr,Fo hk hck]
theorem a1B {X:List (List Qi)} {r c k:Nat} {y:List Qi} (hne:r ≠ c):gm (X.set r y) c k = gv (dP X c) k:=by show gv (dP (X.set r _) c) k = _; rw [uU hne]
theorem Mc {M A:List (List Qi)} {n c sw p:Nat} (hl:M.length = n) (h:bL M c = (A,sw,-1)) (hp:pv A c n = p) (hpn:p < n):bL M (c + 1) = (redM (if p = c then A else swp [] A p c) c n,sw + (if p = c then 0 else 1),-1):=by
 simp only [bL,h,hl,hp]
 rw [if_neg (by decide),if_neg zo]
theorem Pz {M A:List (List Qi)} {n c sw:Nat} (hl:M.length = n) (h:bL M c = (A,sw,-1)) (hp:pv A c n = n) (hc:c < n):bL M n = (A,sw,(c:Int)):=by
 have e : bL M (c + 1) = (A, sw, (c : Int)) := by
  simp only [bL,h,hl,hp]
  rw [if_neg (by decide)]; simp
 rw [Ar (c:=c + 1) (by rw [e]; show (0:Int) ≤ (c:Int); omega) hc,e]
end
section
open Go Go.RowKit
abbrev Eg (M bs:List (List Qi)) (i:Nat):List Qi:=dP M i ++ bs.map fun b=>gv b i
def iR (M bs:List (List Qi)) (n:Nat):List (List Qi):=tab n (Eg M bs)
theorem Vg {r:List Qi} {bs:List (List Qi)} {i j:Nat} (h:j < bs.length):(r ++ (bs.take j).map fun b=>gv b i) ++ [gv (bs.getD j []) i] = r ++ (bs.take (j + 1)).map fun b=>gv b i:=by
 rw [List.append_assoc,List.take_add_one,List.map_append]
 simp [List.getD,h]
theorem kH {M bs:List (List Qi)} {n m:Nat} (h:cI M n m):cI (iR M bs n) n (m + bs.length):=by
 refine ⟨bC _ _,fun r hr=>?_⟩
 obtain ⟨i,hi,rfl⟩:=iL.1 hr
 rw [List.length_append,List.length_map,h.row hi]
theorem qP {M bs : List (List Qi)} {n L : Nat} (h : aS M L) (hb : aS bs L) (hL : 1 ≤ L) : aS (iR M bs n) L := fun r hr x hx => by
 obtain ⟨i,hi,rfl⟩:=iL.1 hr
 rcases List.mem_append.1 hx with h1 | h1
 ·exact h.row i x h1
 ·obtain ⟨b, hb1, rfl⟩ := List.mem_map.1 h1
  exact cD.get (hb b hb1) hL i
theorem Ma {M:List (List Qi)} {n m:Nat} (h:cI M n m):iR M [] n = M:=by
 have:iR M [] n = tab n (dP M):=gC fun i _=>by simp [Eg]
 rw [this]; exact (Il (h:=h.1)).symm
def mC (U : List (List Qi)) (x : List Qi) (n c : Nat) : Nat → Qi
 | 0=>gm U c n
 | k + 1=>mC U x n c k - gm U c (c + 1 + k) * gv x (c + 1 + k)
def lG (U : List (List Qi)) (n : Nat) : Nat → List Qi
 | 0=>tab n fun _=>Qi.zero
 | j + 1=>(lG U n j).set (n - (j + 1)) (mC U (lG U n j) n (n - (j + 1)) j / gm U (n - (j + 1)) (n - (j + 1)))
theorem qM (U : List (List Qi)) (n : Nat) : ∀ j, (lG U n j).length = n
 | 0=>bC _ _
 | j + 1=>by rw [lG,List.length_set,qM U n j]
def pC (M:List (List Qi)) (b:List Qi) (n:Nat):List (List Qi) × Nat × Int:=bL (iR M [b] n) n
def mL (M:List (List Qi)) (b:List Qi) (n:Nat):Int:=if 0 ≤ (pC M b n).2.2 then 6 else 0
def lY (M:List (List Qi)) (b:List Qi) (n:Nat):List Qi:=lG (pC M b n).1 n n
def Lg (G : Nat) : Nat → Nat
 | 0=>G
 | j + 1=>j * (Lg G j + G + 2) + 4 * G + 2
theorem zI (G j:Nat):Lg G j ≤ Lg G (j + 1):=by
 cases j with
 | zero=>simp only [Lg]; omega
 | succ j =>
  have:Lg G (j + 1) + G + 2 ≤ (j + 1) * (Lg G (j + 1) + G + 2):=Nat.le_mul_of_pos_left _ zo
  rw [show Lg G (j + 1 + 1) = (j + 1) * (Lg G (j + 1) + G + 2) + 4 * G + 2 from rfl]
  omega
theorem Iq (G : Nat) : ∀ j, G ≤ Lg G j
 | 0=>Nat.le_refl _
 | j + 1=>Nat.le_trans (Iq G j) (zI G j)
theorem Gd (G : Nat) : ∀ {i j : Nat}, i ≤ j → Lg G i ≤ Lg G j
 | i,0,h=>by rw [show i = 0 by omega]; exact Nat.le_refl _
 | i, j + 1, h => by
  by_cases e:i = j + 1
  ·rw [e]; exact Nat.le_refl _
  ·exact Nat.le_trans (Gd G (show i ≤ j by omega)) (zI G j)
theorem oC {M : List (List Qi)} {n m : Nat} (hs : cI M n m) : ∀ {c : Nat}, c ≤ n → (bL M c).2.2 < 0 → ∀ i, i < c → gm (bL M c).1 i i ≠ Qi.zero
 | 0,_,_,i,hi=>by omega
 | c + 1, hc, hst, i, hi => by
  have sh:=mZ hs (c:=c) zo
  obtain ⟨_,i2,i3,i4⟩:=lM (M:=(bL M c).1) (c:=c) (n:=M.length) (by rw [hs.1]; omega)
  simp only [bL] at hst ⊢
  split at hst
  ·rename_i h0; omega
  ·rename_i h0
   rw [if_neg h0]
   split at hst
   ·simp at hst; omega
   ·rename_i h1
    rw [if_neg h1]
    have ih:=oC hs (c:=c) zo zo
    have hl : ∀ X : List (List Qi), X.length = n → gm (redM X c M.length) i i = gm X i i := fun X hX => by
     show gv (dP (redM X c M.length) i) i = _
     rw [tU zo zo]
    by_cases e:pv (bL M c).1 c M.length = c
    ·rw [if_pos e, hl _ sh.1]
     by_cases e2:i = c
     ·rw [e2]; have:=i4 (by have:=hs.1; omega); rw [e] at this; exact this
     ·exact ih i zo
    ·have hpl : pv (bL M c).1 c M.length < n := by rw [← hs.1]; omega
     rw [if_neg e,hl _ ((wQ _ _ _ _).trans sh.1)]
     by_cases e2:i = c
     ·rw [e2]
      show gv (dP (swp [] _ _ c) c) c ≠ _
      rw [uX (by rw [sh.1]; omega)]
      exact i4 (by have:=hs.1; omega)
     ·have : dP (swp [] (bL M c).1 (pv (bL M c).1 c M.length) c) i = dP (bL M c).1 i := by
       simp only [dP,swp,List.getD]
       rw [List.getElem?_set_ne (Ne.symm e2),List.getElem?_set_ne zo]
      show gv (dP (swp [] _ _ c) i) i ≠ _
      rw [this]; exact ih i zo
theorem wP {U : List (List Qi)} {x : List Qi} {n c G X : Nat} (hU : aS U G) (hx : cD x X) (hG : 1 ≤ G) (hX : 1 ≤ X) : ∀ k, aI (mC U x n c k) (G + k * (G + X + 2))
 | 0=>(hU.get hG c n).le zo
 | k + 1 => by
  haveI f1:=wP (n:=n) (c:=c) hU hx hG hX k
  haveI f2:=hU.get hG c (c + 1 + k)
  haveI f3:=hx.get hX (c + 1 + k)
  have:aI (mC U x n c (k + 1)) (G + k * (G + X + 2) + (G + X + 1) + 1):=by unfold mC; infer_instance
  exact this.le (by rw [Nat.add_mul]; omega)
theorem a05 {U:List (List Qi)} {x:List Qi} {n c G X j:Nat} (hU:aS U G) (hx:cD x X) (hG:1 ≤ G) (hX:1 ≤ X) (hz:gm U c c ≠ Qi.zero):aI (mC U x n c j / gm U c c) (j * (X + G + 2) + 4 * G + 2):=by
 have f1:=wP (n:=n) (c:=c) hU hx hG hX j
 have f2:=hU.get hG c c
 have:aI (mC U x n c j / gm U c c) (G + j * (G + X + 2) + 3 * G + 2):=⟨f1.fit.div f2.fit hz⟩
 exact this.le (by rw [Nat.add_comm X G]; omega)
theorem Oj {U : List (List Qi)} {n G : Nat} (hU : aS U G) (hG : 1 ≤ G) (hz : ∀ i, i < n → gm U i i ≠ Qi.zero) : ∀ j, j ≤ n → cD (lG U n j) (Lg G j)
 | 0,_=>cD.tab fun _ _=>aI.zero hG
 | j + 1, hj => fun y hy => by
  have ih:=Oj hU hG hz j zo
  rcases List.mem_or_eq_of_mem_set hy with h1 | h1
  ·exact (ih y h1).le (zI G j)
  ·rw [h1]; exact a05 hU ih hG (Nat.le_trans hG (Iq G j)) (hz _ zo)
theorem Sj {M:List (List Qi)} {b:List Qi} {n:Nat} (h:cI M n n):cI (pC M b n).1 n (n + 1):=mZ (kH h) (Nat.le_refl n)
theorem Si {M:List (List Qi)} {b:List Qi} {n L:Nat} (h:cI M n n) (hM:aS M L) (hb:cD b L) (hL:1 ≤ L):aS (pC M b n).1 (pT L n):=xQ (kH h) (qP hM (fun r hr=>by simp at hr; subst hr; exact hb) hL) hL (Nat.le_refl n)
def zE (n i:Nat):List Qi:=(tab n fun _=>Qi.zero).set i (Qi.ofInt 1)
def wE (n:Nat):List (List Qi):=tab n (zE n)
theorem qT (n:Nat):cI (wE n) n n:=⟨bC _ _,fun r hr=>by obtain ⟨i,_,rfl⟩:=iL.1 hr; rw [zE,List.length_set,bC]⟩
theorem tA:aI (Qi.ofInt 1) 1:=⟨Qi.Fit.int (L:=1) (by decide) (by decide)⟩
theorem Ni {n i L : Nat} (h : 1 ≤ L) : cD (zE n i) L := fun x hx => by
 rcases List.mem_or_eq_of_mem_set hx with h1 | h1
 ·obtain ⟨_,_,rfl⟩:=iL.1 h1; exact aI.zero h
 ·rw [h1]; exact tA.le h
theorem Vx {n L:Nat} (h:1 ≤ L):aS (wE n) L:=fun r hr=>by obtain ⟨i,_,rfl⟩:=iL.1 hr; exact Ni h
theorem Kw {M:List (List Qi)} {b:List Qi} {n:Nat} (h:¬ 0 ≤ (pC M b n).2.2):(pC M b n).2.2 < 0:=by omega
theorem wS (F:Qi → Ty) (n:Nat):List.replicate n (F Qi.zero) = (tab n fun _=>Qi.zero).map F:=by rw [Yf,Xp]
theorem a1m {n j:Nat} (h:(0:Int) ≤ (n:Int) - 1 - (j:Int)):j < n:=by omega
theorem a1n {n j:Nat} (h:(n:Int) - 1 - (j:Int) < 0):n ≤ j:=by omega
end
section
open Go Go.RowKit
abbrev ek (n k:Nat):List Qi:=(wE n).getD k []
theorem a0l {n k:Nat} (h:k < n):(ek n k).length = n:=(qT n).row h
theorem rY {n k L:Nat} (h:1 ≤ L):cD (ek n k) L:=(Vx h).row k
def pH (M:List (List Qi)) (n:Nat):Int:=kZ (fun k=>mL M (ek n k) n) n
def nD (M:List (List Qi)) (n:Nat):List (List Qi):=tab n fun r=>tab n fun j=>gv (lY M (ek n j) n) r
theorem yP {α:Type} {n i:Nat} {f:Nat → α} {d:α} (h:i < n):(tab n f).getD i d = f i:=by simp [List.getD,dC h]
def pU (M:List (List Qi)) (n k i:Nat):List (List Qi):=tab n fun r=>tab n fun j=>if j < k ∨ j = k ∧ r < i then gv (lY M (ek n j) n) r else gm M r j
theorem oE (M:List (List Qi)) (n k i:Nat):cI (pU M n k i) n n:=cI.tab
theorem Mj {M:List (List Qi)} {n:Nat} (h:cI M n n):M = pU M n 0 0:=by
 rw [pU]
 conv=>lhs; rw [tG h]
 exact gC fun r _=>gC fun j _=>by rw [if_neg zo]
theorem Qm (M : List (List Qi)) (n k : Nat) : pU M n k n = pU M n (k + 1) 0 := gC fun r hr => gC fun j _ => by
 by_cases h:j < k ∨ j = k ∧ r < n
 ·rw [if_pos h,if_pos zo]
 ·rw [if_neg h,if_neg zo]
theorem Qn (M:List (List Qi)) (n:Nat):pU M n n 0 = nD M n:=gC fun r _=>gC fun j hj=>by rw [if_pos zo]
theorem Mi {M:List (List Qi)} {n k i:Nat} (hi:i < n) (hk:k < n):(pU M n k i).set i (((pU M n k i).getD i []).set k (gv (lY M (ek n k) n) i)) = pU M n k (i + 1):=by
 apply List.ext_getElem?
 intro r
 by_cases hr:r < n
 ·by_cases e : r = i
  ·subst e
   rw [List.getElem?_set_self (by rw [(oE _ _ _ _).1]; exact hr),pU,pU,dC (f:=fun r=>tab n fun j=>if j < k ∨ j = k ∧ r < _ + 1 then gv (lY M (ek n j) n) r else gm M r j) hr]
   congr 1
   have:(tab n fun x=>tab n fun j=>if j < k ∨ j = k ∧ x < r then gv (lY M (ek n j) n) x else gm M x j).getD r [] = tab n fun j=>if j < k ∨ j = k ∧ r < r then gv (lY M (ek n j) n) r else gm M r j:=yP hr
   rw [this]
   apply List.ext_getElem?
   intro j
   by_cases hj:j < n
   ·by_cases e2 : j = k
    ·subst e2
     rw [List.getElem?_set_self (by rw [bC]; exact hj),dC hj,if_pos zo]
    ·rw [List.getElem?_set_ne (Ne.symm e2), dC hj, dC hj]
     by_cases e3:j < k
     ·rw [if_pos (.inl e3),if_pos (.inl e3)]
     ·rw [if_neg zo,if_neg zo]
   ·rw [List.getElem?_eq_none (by rw [List.length_set,bC]; omega),List.getElem?_eq_none (by rw [bC]; omega)]
  ·rw [List.getElem?_set_ne (Ne.symm e), pU, pU, dC hr, dC hr]
   congr 1
   refine gC fun j _=>?_
   by_cases e3:j < k ∨ j = k ∧ r < i
   ·rw [if_pos e3,if_pos zo]
   ·rw [if_neg e3,if_neg zo]
 ·rw [List.getElem?_eq_none (by rw [List.length_set,(oE _ _ _ _).1]; omega),List.getElem?_eq_none (by rw [(oE _ _ _ _).1]; omega)]
theorem Vz {M:List (List Qi)} {n k:Nat} (h:∀ i,i < k → mL M (ek n i) n = 0) (hk:k < n) (hx:mL M (ek n k) n ≠ 0):pH M n = mL M (ek n k) n:=Md h hx hk
theorem Mh {M:List (List Qi)} {n:Nat} (h:∀ i,i < n → mL M (ek n i) n = 0):pH M n = 0:=pO h
theorem Oe {T : Ty} {s : Nat} : ∀ vs V, fD [T, Is (.slice none 0 0)] vs V → fD [T, kT s []] vs V
 | [_,_],_,⟨h1,h2,h3⟩=>⟨h1,lL _ _ h2,h3⟩
 | [],_,h=>h.elim
 | [_],_,h=>h.2.elim
 | _ :: _ :: _ :: _,_,h=>h.2.2.elim
theorem iH.arg {P : Program} {f : FuncId} {Ts Ts' : List Ty} {As : Hp} {γ : Type} {U : γ → Ty} {As' : γ → Hp} {Q : γ → Prop} (h : iH P f Ts As γ U As' Q) (i : ∀ vs V, fD Ts' vs V → fD Ts vs V) : iH P f Ts' As γ U As' Q :=
 fun cx Z vs V w h1 h2=>h cx Z vs V w h1 (i _ _ h2)
end
section
open Go Go.RowKit
section
variable {P:Program} {R:eA} {cx:Cx} {n:Nat} {k:List It} {E:cB} {H:Hp}
end
abbrev zZ (l:List Nat):Ty:=kT 1 (l.map (NT .i64))
end
section
open Go Go.RowKit
namespace Qi
def npow' (x : Qi) : Nat → Qi
 | 0=>Qi.ofInt 1
 | k + 1=>npow' x k * x
theorem one_mul2 (x:Qi):Qi.ofInt 1 * x = x:=ext' (by show ((1:Int):Rat) * x.re - 0 * x.im = x.re; grind) (by show ((1:Int):Rat) * x.im + 0 * x.re = x.im; grind)
theorem mul_one2 (x:Qi):x * Qi.ofInt 1 = x:=by rw [mul_comm',one_mul2]
end Qi
instance qiField:Lean.Grind.CommRing Qi where
 natCast:=⟨fun n=>Qi.ofInt n⟩
 ofNat n:=⟨Qi.ofInt n⟩
 nsmul:=⟨fun n x=>Qi.ofInt n * x⟩
 npow:=⟨Qi.npow'⟩
 add_zero:=Qi.add_zero'
 add_comm:=Qi.add_comm'
 add_assoc:=Qi.add_assoc'
 mul_assoc:=Qi.mul_assoc'
 mul_comm:=Qi.mul_comm'
 mul_one:=Qi.mul_one2
 one_mul:=Qi.one_mul2
 left_distrib:=Qi.mul_add'
 right_distrib:=Qi.add_mul'
 zero_mul:=Qi.zero_mul'
 mul_zero:=Qi.mul_zero'
 pow_zero _:=rfl
 pow_succ _ _:=rfl
 ofNat_succ n:=Qi.ext' (by show (((n + 1:Nat):Int):Rat) = ((n:Int):Rat) + ((1:Int):Rat); rw [Int.natCast_add,Rat.intCast_add]; rfl) (by show (0:Rat) = 0 + 0; grind)
 intCast:=⟨Qi.ofInt⟩
 zsmul:=⟨fun n x=>Qi.ofInt n * x⟩
 neg_add_cancel x:=Qi.ext' (by show -x.re + x.re = ((0:Int):Rat); grind) (by show -x.im + x.im = 0; grind)
 sub_eq_add_neg:=Qi.sub_def
 neg_zsmul i x:=Qi.ext' (by show ((-i:Int):Rat) * x.re - 0 * x.im = -((i:Rat) * x.re - 0 * x.im); rw [Rat.intCast_neg]; grind) (by show ((-i:Int):Rat) * x.im + 0 * x.re = -((i:Rat) * x.im + 0 * x.re); rw [Rat.intCast_neg]; grind)
 intCast_neg i:=Qi.ext' (Rat.intCast_neg i) (by show (0:Rat) = -0; grind)
theorem q0:Qi.zero = 0:=rfl
theorem q1:Qi.ofInt 1 = 1:=rfl
theorem gI {x:Qi} (h:x ≠ 0):x * Qi.inv x = 1:=by
 have hn:x.nrm ≠ 0:=fun e=>h (Qi.nrm_zero.1 e)
 have e:x.re * x.re + x.im * x.im = x.nrm:=rfl
 refine Qi.ext' ?_ ?_
 ·show x.re * (x.re / x.nrm) - x.im * (-x.im / x.nrm) = ((1 : Int) : Rat)
  grind
 ·show x.re * (-x.im / x.nrm) + x.im * (x.re / x.nrm) = 0
  grind
theorem xN {x y:Qi} (h:y ≠ 0):x / y * y = x:=by
 rw [Qi.div_def]
 have:=gI h
 grind
theorem uN {x y z:Qi} (h:y ≠ 0) (e:x = z * y):x / y = z:=by
 have h1:=xN (x:=x) h
 have h2:=gI h
 grind
theorem jH {x y:Qi} (h:x * y = 0):x = 0 ∨ y = 0:=by
 by_cases e:x = 0
 ·exact .inl e
 ·right; have:=gI e; grind
end
section
open Go Go.RowKit
theorem yN (m:Nat) (f:Qi) (a b:Nat → Qi):bB m (fun k=>a k - f * b k) = bB m a - f * bB m b:=by
 induction m with
 | zero=>simp only [bB,q0]; grind
 | succ m ih=>simp only [bB,ih]; grind
theorem qK {m i:Nat} (hi:i < m) {f:Nat → Qi} (h:∀ k,k < m → k ≠ i → f k = 0):bB m f = f i:=by
 induction m with
 | zero=>omega
 | succ m ih =>
  by_cases e:i = m
  ·subst e
   have : bB i f = 0 := by
    rw [← q0,← uW i]
    exact cE fun k hk=>h k zo zo
   simp only [bB,this]; grind
  ·have h1 := ih zo (fun k hk => h k zo)
   have h2:=h m zo zo
   simp only [bB,h1,h2]; grind
theorem mR {m:Nat} {f:Nat → Qi} (h:∀ k,k < m → f k = 0):bB m f = 0:=by
 rw [← q0,← uW m]; exact cE h
def Ker (M:List (List Qi)) (n m:Nat) (x:Nat → Qi):Prop:=∀ i,i < n → bB m (fun k=>gm M i k * x k) = 0
def vG (rr rc:List Qi) (c k:Nat):List Qi:=tab rr.length fun j=>if c ≤ j ∧ j < k then gv rr j - gv rr c / gv rc c * gv rc j else gv rr j
def redJ (M:List (List Qi)) (c r:Nat):List (List Qi):=tab M.length fun i=>if i ≠ c ∧ i < r then vG (dP M i) (dP M c) c (dP M i).length else dP M i
def Mf (M : List (List Qi)) : Nat → Option (List (List Qi))
 | 0=>some M
 | c + 1=>(Mf M c).bind fun A=>if pv A c M.length = M.length then none else some (redJ (swp [] A (pv A c M.length) c) c M.length)
theorem Rw (M:List (List Qi)) (c r:Nat):(redJ M c r).length = M.length:=bC _ _
theorem Mu (rr rc:List Qi) (c k:Nat):(vG rr rc c k).length = rr.length:=bC _ _
theorem Rx {M:List (List Qi)} {c r i:Nat} (hi:i < M.length):dP (redJ M c r) i = if i ≠ c ∧ i < r then vG (dP M i) (dP M c) c (dP M i).length else dP M i:=by
 simp only [dP,redJ,List.getD]; rw [dC hi]; rfl
theorem Ry {M:List (List Qi)} {n m c r:Nat} (h:cI M n m):cI (redJ M c r) n m:=by
 refine ⟨(Rw _ _ _).trans h.1,fun x hx=>?_⟩
 obtain ⟨i,hi,rfl⟩:=iL.1 hx
 have hr:=h.row (i:=i) (by rw [← h.1]; exact hi)
 show (if i ≠ c ∧ i < r then vG (dP M i) (dP M c) c (dP M i).length else dP M i).length = m
 split
 ·rw [Mu]; exact hr
 ·exact hr
theorem wM {M:List (List Qi)} {n m c i j:Nat} (h:cI M n m) (hi:i < n) (hj:j < m):gm (redJ M c n) i j = if i ≠ c ∧ c ≤ j then gm M i j - gm M i c / gm M c c * gm M c j else gm M i j:=by
 have hr:(dP M i).length = m:=h.row hi
 show gv (dP (redJ M c n) i) j = _
 rw [Rx (by rw [h.1]; exact hi)]
 by_cases e:i = c
 ·rw [if_neg (fun k=>k.1 e),if_neg (fun k=>k.1 e)]
 ·rw [if_pos ⟨e, hi⟩, vG, oQ zo]
  by_cases e2:c ≤ j
  ·rw [if_pos ⟨e2,by omega⟩,if_pos ⟨e,e2⟩]
  ·rw [if_neg (fun k=>e2 k.1),if_neg (fun k=>e2 k.2)]
theorem Ik {M:List (List Qi)} {p c i:Nat} (hp:p < M.length) (hc:c < M.length):dP (swp [] M p c) i = dP M (if i = c then p else if i = p then c else i):=by
 simp only [dP,swp,List.getD]
 by_cases e:i = c
 ·subst e; rw [List.getElem?_set_self (by simpa using hc),if_pos rfl]; rfl
 ·rw [List.getElem?_set_ne (Ne.symm e), if_neg e]
  by_cases e2:i = p
  ·subst e2; rw [List.getElem?_set_self hp,if_pos rfl]; rfl
  ·rw [List.getElem?_set_ne (Ne.symm e2),if_neg e2]
theorem Wb {M:List (List Qi)} {n m p c:Nat} {x:Nat → Qi} (hl:M.length = n) (hp:p < n) (hc:c < n):Ker (swp [] M p c) n m x ↔ Ker M n m x:=by
 have key : ∀ i, gm (swp [] M p c) i = gm M (if i = c then p else if i = p then c else i) := fun i => by
  funext j; exact congrArg (fun r=>gv r j) (Ik zo zo)
 constructor
 ·intro h i hi
  have h1:=h (if i = c then p else if i = p then c else i) (by split <;> (try split) <;> omega)
  rw [key] at h1
  have e : (if (if i = c then p else if i = p then c else i) = c then p else if (if i = c then p else if i = p then c else i) = p then c else (if i = c then p else if i = p then c else i)) = i := by
   by_cases e1:i = c
   ·subst e1; rw [if_pos rfl]
    by_cases e2:p = i
    ·rw [if_pos e2]; exact e2
    ·rw [if_neg e2,if_pos rfl]
   ·rw [if_neg e1]
    by_cases e2:i = p
    ·subst e2; rw [if_pos rfl,if_pos rfl]
    ·rw [if_neg e2,if_neg e1,if_neg e2]
  rw [e] at h1; exact h1
 ·intro h i hi
  rw [key]; exact h _ (by split <;> (try split) <;> omega)
theorem Wa {M:List (List Qi)} {n m c:Nat} {x:Nat → Qi} (hs:cI M n m) (hc:c < n) (hz:∀ j,j < c → gm M c j = 0):Ker (redJ M c n) n m x ↔ Ker M n m x:=by
 have key : ∀ i, i < n → i ≠ c → bB m (fun k => gm (redJ M c n) i k * x k) = bB m (fun k => gm M i k * x k) - gm M i c / gm M c c * bB m (fun k => gm M c k * x k) := fun i hi e => by
  rw [← yN]
  refine cE fun k hk=>?_
  rw [wM hs hi hk]
  by_cases e2:c ≤ k
  ·rw [if_pos ⟨e,e2⟩]; grind
  ·rw [if_neg (fun h=>e2 h.2),hz k zo]; grind
 have keyc:bB m (fun k=>gm (redJ M c n) c k * x k) = bB m (fun k=>gm M c k * x k):=cE fun k hk=>by rw [wM hs hc hk,if_neg (fun h=>h.1 rfl)]
 constructor
 ·intro h i hi
  have h0:=h c hc
  rw [keyc] at h0
  by_cases e:i = c
  ·rw [e]; exact h0
  ·have h1 := h i hi
   rw [key i hi e,h0] at h1
   grind
 ·intro h i hi
  have h0:=h c hc
  by_cases e:i = c
  ·rw [e,keyc]; exact h0
  ·rw [key i hi e,h0,h i hi]; grind
structure GJ (M A:List (List Qi)) (n m c:Nat):Prop where
 sh:cI A n m
 ker:∀ x,Ker A n m x ↔ Ker M n m x
 off:∀ j,j < c → ∀ i,i < n → i ≠ j → gm A i j = 0
 dg:∀ j,j < c → gm A j j ≠ 0
theorem GJ.next {M A:List (List Qi)} {n m c p:Nat} (h:GJ M A n m c) (hc:c < n) (hnm:n ≤ m) (hcp:c ≤ p) (hp:p < n) (hz:gm A p c ≠ 0):GJ M (redJ (swp [] A p c) c n) n m (c + 1):=by
 have hs:cI (swp [] A p c) n m:=wR h.sh hp hc
 have hl:=h.sh.1
 have key : ∀ i, gm (swp [] A p c) i = gm A (if i = c then p else if i = p then c else i) := fun i => by
  funext j; exact congrArg (fun r=>gv r j) (Ik zo zo)
 have hcc:gm (swp [] A p c) c c ≠ 0:=by rw [key,if_pos rfl]; exact hz
 have hoff : ∀ j, j < c → ∀ i, i < n → i ≠ j → gm (swp [] A p c) i j = 0 := fun j hj i hi hij => by
  rw [key]
  by_cases e1:i = c
  ·rw [if_pos e1]; exact h.off j hj p hp zo
  ·rw [if_neg e1]
   by_cases e2:i = p
   ·rw [if_pos e2]; exact h.off j hj c hc zo
   ·rw [if_neg e2]; exact h.off j hj i hi hij
 refine ⟨Ry hs,fun x=>(Wa hs hc (fun j hj=>hoff j hj c hc zo)).trans ((Wb hl hp hc).trans (h.ker x)),fun j hj i hi hij=>?_,fun j hj=>?_⟩
 ·rw [wM hs hi zo]
  by_cases e:j = c
  ·subst e
   rw [if_pos ⟨hij,Nat.le_refl _⟩]
   have:=xN (x:=gm (swp [] A p j) i j) hcc
   grind
  ·rw [if_neg (fun k=>by omega)]; exact hoff j zo i hi hij
 ·rw [wM hs zo zo]
  by_cases e:j = c
  ·subst e; rw [if_neg (fun k=>k.1 rfl)]; exact hcc
  ·rw [if_neg (fun k=>by omega),key,if_neg zo,if_neg zo]; exact h.dg j zo
theorem Qh {M : List (List Qi)} {n m : Nat} (hs : cI M n m) (hnm : n ≤ m) : ∀ {c : Nat} {A : List (List Qi)}, c ≤ n → Mf M c = some A → GJ M A n m c
 | 0, A, _, h => by
  obtain rfl:=Option.some.inj h
  exact ⟨hs,fun _=>Iff.rfl,fun j hj=>by omega,fun j hj=>by omega⟩
 | c + 1, A, hc, h => by
  simp only [Mf] at h
  obtain ⟨B,h1,h2⟩:=Option.bind_eq_some_iff.1 h
  split at h2
  ·cases h2
  ·rename_i e
   obtain rfl:=Option.some.inj h2
   have ih:=Qh hs hnm (c:=c) zo h1
   rw [hs.1] at e ⊢
   obtain ⟨_,i2,i3,i4⟩:=lM (M:=B) (c:=c) (n:=n) zo
   exact ih.next zo hnm i2 zo (i4 zo)
theorem a0n {l:List Qi} {z:Qi} {k:Nat} (h:k < l.length):gv (l ++ [z]) k = gv l k:=by
 simp only [gv,List.getD]; rw [List.getElem?_append_left h]
theorem a0o {l:List Qi} {z:Qi}:gv (l ++ [z]) l.length = z:=by
 simp [gv,List.getD]
theorem a1w {M:List (List Qi)} {b:List Qi} {n i:Nat} (h:cI M n n) (hi:i < n):(∀ k,k < n → gm (iR M [b] n) i k = gm M i k) ∧ gm (iR M [b] n) i n = gv b i:=by
 obtain ⟨r,hr⟩:∃ r,r = dP M i:=⟨_,rfl⟩
 have hl:r.length = n:=by rw [hr]; exact h.row hi
 have e : dP (iR M [b] n) i = r ++ [gv b i] := by
  rw [hr]; simp only [dP,iR,List.getD]; rw [dC hi]; rfl
 refine ⟨fun k hk=>?_,?_⟩
 ·show gv (dP (iR M [b] n) i) k = gv (dP M i) k
  rw [e,← hr,a0n zo]
 ·show gv (dP (iR M [b] n) i) n = gv b i
  rw [e,← hl,a0o]
theorem He {M:List (List Qi)} {b:List Qi} {n i:Nat} (h:cI M n n) (hi:i < n) (x:Nat → Qi):bB (n + 1) (fun k=>gm (iR M [b] n) i k * x k) = bB n (fun k=>gm M i k * x k) + gv b i * x n:=by
 obtain ⟨h1,h2⟩:=a1w (b:=b) h hi
 simp only [bB,h2]
 rw [cE (fun k hk=>by rw [h1 k hk])]
theorem Mt {rr rc : List Qi} {L c k : Nat} (h1 : cD rr L) (h2 : cD rc L) (hL : 1 ≤ L) (hp : gv rc c ≠ Qi.zero) : cD (vG rr rc c k) (6 * L + 4) := cD.tab fun j _ => by
 split
 ·exact Jy h1 h2 hL hp
 ·exact (h1.get hL j).le zo
theorem Rv {M : List (List Qi)} {L c r : Nat} (h : aS M L) (hL : 1 ≤ L) (hp : gm M c c ≠ Qi.zero) : aS (redJ M c r) (6 * L + 4) := fun x hx => by
 obtain ⟨i,hi,rfl⟩:=iL.1 hx
 show cD (if i ≠ c ∧ i < r then vG (dP M i) (dP M c) c (dP M i).length else dP M i) _
 split
 ·exact Mt (h.row i) (h.row c) hL hp
 ·exact (h.row i).le zo
theorem Qg {M : List (List Qi)} {n m L : Nat} (hs : cI M n m) (hnm : n ≤ m) (h : aS M L) (hL : 1 ≤ L) : ∀ {c : Nat} {A : List (List Qi)}, c ≤ n → Mf M c = some A → aS A (pT L c)
 | 0,A,_,e=>by obtain rfl:=Option.some.inj e; exact h
 | c + 1, A, hc, e => by
  simp only [Mf] at e
  obtain ⟨B,h1,h2⟩:=Option.bind_eq_some_iff.1 e
  split at h2
  ·cases h2
  ·rename_i e3
   obtain rfl:=Option.some.inj h2
   have ih:=Qg hs hnm h hL (c:=c) zo h1
   have hsB:=(Qh hs hnm (c:=c) zo h1).sh
   rw [hs.1] at e3 ⊢
   obtain ⟨_,i2,i3,i4⟩:=lM (M:=B) (c:=c) (n:=n) zo
   refine Rv (Di ih) (Nat.le_trans hL (wC L c)) ?_
   show gv (dP (swp [] _ _ c) c) c ≠ _
   rw [uX (by rw [hsB.1]; omega)]
   exact i4 zo
end
section
open Go Go.RowKit
abbrev pA (ps:List (Nat × Nat)) (k:Nat):Nat:=(ps.getD k (0,0)).1
abbrev pB (ps:List (Nat × Nat)) (k:Nat):Nat:=(ps.getD k (0,0)).2
end
section
open Go Go.RowKit
theorem xX {l:List Qi} {t k:Nat} {v:Qi} (ht:t < l.length):gv (l.set t v) k = if k = t then v else gv l k:=by
 simp only [gv,List.getD]
 by_cases e:k = t
 ·subst e; rw [if_pos rfl,List.getElem?_set_self ht]; rfl
 ·rw [if_neg e,List.getElem?_set_ne (Ne.symm e)]
end
section
open Go Go.RowKit
def sD (A:List (List Qi)) (c i j:Nat):Qi:=if j < c ∧ j < i then 0 else gm A i j
def sG (F:Nat → Nat → Qi) (n m:Nat) (x:Nat → Qi):Prop:=∀ i,i < n → bB m (fun k=>F i k * x k) = 0
theorem yA {F G:Nat → Nat → Qi} {n m:Nat} {x:Nat → Qi} (h:∀ i,i < n → ∀ j,j < m → F i j = G i j):sG F n m x ↔ sG G n m x:=by
 have e:∀ i,i < n → bB m (fun k=>F i k * x k) = bB m (fun k=>G i k * x k):=fun i hi=>cE fun k hk=>by rw [h i hi k hk]
 exact ⟨fun k i hi=>by rw [← e i hi]; exact k i hi,fun k i hi=>by rw [e i hi]; exact k i hi⟩
def La (p c i:Nat):Nat:=if i = c then p else if i = p then c else i
theorem Dk {p c i n:Nat} (hp:p < n) (hc:c < n) (hi:i < n):La p c i < n:=by unfold La; split <;> (try split) <;> omega
theorem Lb (p c i:Nat):La p c (La p c i) = i:=by
 unfold La
 by_cases e1:i = c
 ·subst e1
  rw [if_pos rfl]
  by_cases e2:p = i
  ·rw [if_pos e2]; exact e2
  ·rw [if_neg e2,if_pos rfl]
 ·rw [if_neg e1]
  by_cases e2:i = p
  ·subst e2; rw [if_pos rfl,if_pos rfl]
  ·rw [if_neg e2,if_neg e1,if_neg e2]
theorem Ex {F : Nat → Nat → Qi} {n m p c : Nat} {x : Nat → Qi} (hp : p < n) (hc : c < n) : sG (fun i => F (La p c i)) n m x ↔ sG F n m x :=
 ⟨fun h i hi=>by have:=h _ (Dk hp hc hi); simp only [Lb] at this; exact this,fun h i hi=>h _ (Dk hp hc hi)⟩
theorem Qp {F G:Nat → Nat → Qi} {n m c:Nat} {x f:Nat → Qi} (hc:c < n) (hG:∀ i,i < n → ∀ j,j < m → G i j = if c < i then F i j - f i * F c j else F i j):sG G n m x ↔ sG F n m x:=by
 have key : ∀ i, i < n → bB m (fun k => G i k * x k) = if c < i then bB m (fun k => F i k * x k) - f i * bB m (fun k => F c k * x k) else bB m (fun k => F i k * x k) := fun i hi => by
  by_cases e:c < i
  ·rw [if_pos e, ← yN]
   exact cE fun k hk=>by rw [hG i hi k hk,if_pos e]; grind
  ·rw [if_neg e]
   exact cE fun k hk=>by rw [hG i hi k hk,if_neg e]
 have kc:=key c hc
 rw [if_neg zo] at kc
 constructor
 ·intro h i hi
  have h0:=h c hc
  rw [kc] at h0
  have h1:=h i hi
  rw [key i hi] at h1
  by_cases e:c < i
  ·rw [if_pos e,h0] at h1; grind
  ·rw [if_neg e] at h1; exact h1
 ·intro h i hi
  rw [key i hi]
  by_cases e:c < i
  ·rw [if_pos e,h i hi,h c hc]; grind
  ·rw [if_neg e]; exact h i hi
theorem Xo {M:List (List Qi)} {n m c i j:Nat} (h:cI M n m) (hi:i < n) (hj:j < m):gm (redM M c n) i j = if c < i ∧ c < j then gm M i j - gm M i c / gm M c c * gm M c j else gm M i j:=by
 have hr:(dP M i).length = m:=h.row hi
 have e0 : dP (redM M c n) i = if c < i ∧ i < n then jV (dP M i) (dP M c) c (dP M i).length else dP M i := by
  simp only [dP,redM,List.getD]; rw [dC (by rw [h.1]; exact hi)]; rfl
 show gv (dP (redM M c n) i) j = _
 rw [e0]
 by_cases e:c < i
 ·rw [if_pos ⟨e, hi⟩, jV, oQ zo]
  by_cases e2:c < j
  ·rw [if_pos ⟨e2,by omega⟩,if_pos ⟨e,e2⟩]
  ·rw [if_neg (fun k=>e2 k.1),if_neg (fun k=>e2 k.2)]
 ·rw [if_neg (fun k=>e k.1),if_neg (fun k=>e k.1)]
theorem Uw {A:List (List Qi)} {p c i j:Nat} (hc:c < A.length) (hp:p < A.length) (hcp:c ≤ p):sD (swp [] A p c) c i j = sD A c (La p c i) j:=by
 have key:gm (swp [] A p c) i j = gm A (La p c i) j:=congrArg (fun r=>gv r j) (Ik zo zo)
 unfold sD
 rw [key]
 have e:(j < c ∧ j < i) ↔ (j < c ∧ j < La p c i):=by unfold La; split <;> (try split) <;> omega
 by_cases h:j < c ∧ j < i
 ·rw [if_pos h,if_pos (e.1 h)]
 ·rw [if_neg h,if_neg (fun k=>h (e.2 k))]
structure EL (M A:List (List Qi)) (n m c:Nat):Prop where
 sh:cI A n m
 ker:∀ x,sG (sD A c) n m x ↔ sG (gm M) n m x
theorem EL.next {M A:List (List Qi)} {n m c p:Nat} (h:EL M A n m c) (hc:c < n) (hcm:c < m) (hcp:c ≤ p) (hp:p < n) (hz:gm A p c ≠ 0):EL M (redM (if p = c then A else swp [] A p c) c n) n m (c + 1):=by
 have hl:=h.sh.1
 obtain ⟨B,hB⟩:∃ B,B = if p = c then A else swp [] A p c:=⟨_,rfl⟩
 have hs : cI B n m := by
  rw [hB]; split
  ·exact h.sh
  ·exact wR h.sh hp hc
 have hBk : ∀ x, sG (sD B c) n m x ↔ sG (gm M) n m x := fun x => by
  rw [hB]; split
  ·exact h.ker x
  ·exact (yA (G:=fun i=>sD A c (La p c i)) fun i hi j hj=>Uw zo zo hcp).trans ((Ex hp hc).trans (h.ker x))
 have hBz : gm B c c ≠ 0 := by
  rw [hB]; split
  ·rename_i e; rw [← e] at hz ⊢; exact hz
  ·show gv (dP (swp [] A p c) c) c ≠ 0
   rw [uX zo]; exact hz
 rw [← hB]
 refine ⟨Fn hs,fun x=>(Qp (f:=fun i=>gm B i c / gm B c c) hc fun i hi j hj=>?_).trans (hBk x)⟩
 have hd:=xN (x:=gm B i c) hBz
 unfold sD
 rw [Xo hs hi hj]
 by_cases e:c < i
 ·rw [if_pos e]
  by_cases e1:j < c
  ·rw [if_pos zo,if_pos zo,if_pos zo]; grind
  ·by_cases e2 : j = c
   ·subst e2
    rw [if_pos zo,if_neg zo,if_neg zo]; grind
   ·rw [if_neg zo,if_pos zo,if_neg zo,if_neg zo]
 ·rw [if_neg e, if_neg (show ¬ (c < i ∧ c < j) from fun k => e k.1)]
  by_cases e1:j < i
  ·rw [if_pos (show j < c + 1 ∧ j < i by omega),if_pos (show j < c ∧ j < i by omega)]
  ·rw [if_neg (show ¬ (j < c + 1 ∧ j < i) by omega),if_neg (show ¬ (j < c ∧ j < i) by omega)]
theorem Cd {M : List (List Qi)} {n m : Nat} (hs : cI M n m) (hnm : n ≤ m) : ∀ {c : Nat}, c ≤ n → (bL M c).2.2 < 0 → EL M (bL M c).1 n m c
 | 0,_,_=>⟨hs,fun x=>yA fun i _ j _=>by unfold sD; rw [if_neg zo]; rfl⟩
 | c + 1, hc, h => by
  obtain ⟨i1,i2,i3,i4⟩:=lM (M:=(bL M c).1) (c:=c) (n:=M.length) (by rw [hs.1]; omega)
  simp only [bL] at h ⊢
  by_cases e:0 ≤ (bL M c).2.2
  ·rw [if_pos e] at h; omega
  ·rw [if_neg e] at h ⊢
   have ih:=Cd hs hnm (c:=c) zo zo
   by_cases e2:pv (bL M c).1 c M.length = M.length
   ·rw [if_pos e2] at h; simp only at h; omega
   ·rw [if_neg e2]
    rw [hs.1] at i3 i4 e2 ⊢
    exact ih.next zo zo (by rw [hs.1] at i2; exact i2) zo (i4 zo)
theorem Ao {M : List (List Qi)} : ∀ {n : Nat}, 0 ≤ (bL M n).2.2 → ∃ c, c < n ∧ (bL M c).2.2 < 0 ∧ pv (bL M c).1 c M.length = M.length
 | 0,h=>absurd h (by show ¬ (0:Int) ≤ -1; omega)
 | c + 1, h => by
  by_cases e:0 ≤ (bL M c).2.2
  ·obtain ⟨d, h1, h2⟩ := Ao e
   exact ⟨d,by omega,h2⟩
  ·simp only [bL] at h
   rw [if_neg e] at h
   by_cases e2:pv (bL M c).1 c M.length = M.length
   ·exact ⟨c,by omega,by omega,e2⟩
   ·rw [if_neg e2] at h; simp only at h; omega
theorem sC {U : List (List Qi)} {x y : List Qi} {n c : Nat} : ∀ {K : Nat}, (∀ k, k < K → gv x (c + 1 + k) = gv y (c + 1 + k)) → mC U x n c K = mC U y n c K
 | 0,_=>rfl
 | K + 1,h=>by rw [mC,mC,sC (fun k hk=>h k zo),h K zo]
theorem Fw (U : List (List Qi)) (x : List Qi) (n c : Nat) : ∀ K, mC U x n c K = gm U c n - bB K (fun k => gm U c (c + 1 + k) * gv x (c + 1 + k))
 | 0=>by simp only [mC,bB,q0]; grind
 | K + 1=>by simp only [mC,bB,Fw U x n c K]; grind
theorem Oi {U : List (List Qi)} {n : Nat} : ∀ {j : Nat}, j ≤ n → ∀ c, n - j ≤ c → c < n → gv (lG U n j) c = mC U (lG U n j) n c (n - 1 - c) / gm U c c
 | 0,_,c,h1,h2=>by omega
 | j + 1, hj, c, h1, h2 => by
  have hl:=qM U n j
  rw [lG]
  by_cases e:c = n - (j + 1)
  ·subst e
   rw [xX zo,if_pos rfl,show n - 1 - (n - (j + 1)) = j by omega]
   rw [sC (x:=(lG U n j).set _ _) (y:=lG U n j) fun k hk=>by rw [xX zo,if_neg zo]]
  ·rw [xX zo, if_neg e, Oi (j := j) zo c zo h2]
   rw [sC (x:=(lG U n j).set _ _) (y:=lG U n j) fun k hk=>by rw [xX zo,if_neg zo]]
theorem qI (a : Nat) (f : Nat → Qi) : ∀ b, bB (a + b) f = bB a f + bB b fun k => f (a + k)
 | 0=>by simp only [bB,q0,Nat.add_zero]; grind
 | b + 1=>by rw [← Nat.add_assoc]; simp only [bB,qI a f b]; grind
theorem Ld {U:List (List Qi)} {n i:Nat} (hi:i < n) (y:Nat → Qi):bB n (fun k=>sD U n i k * y k) = gm U i i * y i + bB (n - 1 - i) fun k=>gm U i (i + 1 + k) * y (i + 1 + k):=by
 have e:n = i + 1 + (n - 1 - i):=by omega
 have h1:bB i (fun k=>sD U n i k * y k) = 0:=mR fun k hk=>by unfold sD; rw [if_pos zo]; grind
 have h2:sD U n i i = gm U i i:=by unfold sD; rw [if_neg zo]
 have h3:bB (n - 1 - i) (fun k=>sD U n i (i + 1 + k) * y (i + 1 + k)) = bB (n - 1 - i) fun k=>gm U i (i + 1 + k) * y (i + 1 + k):=cE fun k hk=>by unfold sD; rw [if_neg zo]
 have h4:=qI (i + 1) (fun k=>sD U n i k * y k) (n - 1 - i)
 rw [← e] at h4
 rw [h4,h3]
 simp only [bB,h1,h2]; grind
theorem Lc {U:List (List Qi)} {n i:Nat} (hd:∀ j,j < n → gm U j j ≠ 0) (hi:i < n):bB n (fun k=>sD U n i k * gv (lG U n n) k) = gm U i n:=by
 rw [Ld hi,Oi (Nat.le_refl n) i zo hi,Fw]
 have:=xN (x:=gm U i n - bB (n - 1 - i) (fun k=>gm U i (i + 1 + k) * gv (lG U n n) (i + 1 + k))) (hd i hi)
 grind
theorem Ga {U : List (List Qi)} {n : Nat} (hd : ∀ j, j < n → gm U j j ≠ 0) {y : Nat → Qi} (h : ∀ i, i < n → bB n (fun k => sD U n i k * y k) = 0) : ∀ t k, n - t ≤ k → k < n → y k = 0
 | 0,k,h1,h2=>by omega
 | t + 1, k, h1, h2 => by
  have h3:=h k h2
  rw [Ld h2,mR (fun j hj=>by rw [Ga hd h t (k + 1 + j) zo zo]; grind)] at h3
  rcases jH (x:=gm U k k) (y:=y k) (by grind) with h4 | h4
  ·exact absurd h4 (hd k h2)
  ·exact h4
theorem Fu {M:List (List Qi)} {b:List Qi} {n:Nat} (h:cI M n n) (hE:mL M b n = 0):(∀ i,i < n → bB n (fun k=>gm M i k * gv (lY M b n) k) = gv b i) ∧ ∀ y:Nat → Qi,(∀ i,i < n → bB n (fun k=>gm M i k * y k) = 0) → ∀ k,k < n → y k = 0:=by
 have hcs:cI (iR M [b] n) n (n + 1):=kH h
 have hst : (pC M b n).2.2 < 0 := by
  unfold mL at hE
  by_cases e:0 ≤ (pC M b n).2.2
  ·rw [if_pos e] at hE; omega
  ·omega
 have hg:=Cd hcs (Nat.le_succ n) (Nat.le_refl n) hst
 have hd:=oC hcs (Nat.le_refl n) hst
 obtain ⟨U,hU⟩:∃ U,U = (pC M b n).1:=⟨_,rfl⟩
 have hX:lY M b n = lG U n n:=by rw [hU]; rfl
 have hU2:(bL (iR M [b] n) n).1 = U:=hU.symm
 rw [hU2] at hg hd
 rw [hX]
 refine ⟨fun i hi=>?_,fun y hy k hk=>?_⟩
 ·have h1 := (hg.ker fun k => if k < n then gv (lG U n n) k else -1).1 (fun i hi => by
   simp only [bB]
   rw [cE (g:=fun k=>sD U n i k * gv (lG U n n) k) (fun k hk=>by rw [if_pos hk]),Lc hd hi,if_neg zo,show sD U n i n = gm U i n by unfold sD; rw [if_neg zo]]
   grind) i hi
  rw [He h hi,cE (g:=fun k=>gm M i k * gv (lG U n n) k) (fun k hk=>by rw [if_pos hk]),if_neg zo] at h1
  grind
 ·have h1 := (hg.ker fun k => if k < n then y k else 0).2 (fun i hi => by
   rw [He h hi,cE (g:=fun k=>gm M i k * y k) (fun k hk=>by rw [if_pos hk]),if_neg zo,hy i hi]; grind)
  refine Ga (y:=y) hd (fun i hi=>?_) n k zo hk
  have h2:=h1 i hi
  simp only [bB] at h2
  rw [cE (g:=fun k=>sD U n i k * y k) (fun k hk=>by rw [if_pos hk]),if_neg zo] at h2
  grind
theorem Sl {M:List (List Qi)} {b:List Qi} {n:Nat} (h:cI M n n) (hE:mL M b n ≠ 0):∃ y:Nat → Qi,(∀ i,i < n → bB n (fun k=>gm M i k * y k) = 0) ∧ ∃ k,k < n ∧ y k ≠ 0:=by
 have hcs:cI (iR M [b] n) n (n + 1):=kH h
 have hst : 0 ≤ (pC M b n).2.2 := by
  unfold mL at hE
  by_cases e:0 ≤ (pC M b n).2.2
  ·exact e
  ·rw [if_neg e] at hE; exact absurd rfl hE
 obtain ⟨c,hc,hA,hp⟩:=Ao hst
 have hg:=Cd hcs (Nat.le_succ n) zo hA
 have hd:=oC hcs zo hA
 obtain ⟨U,hU⟩:∃ U,U = (bL (iR M [b] n) c).1:=⟨_,rfl⟩
 rw [← hU] at hg hd hp
 rw [hcs.1] at hp
 have hz:=(lM (M:=U) (c:=c) (n:=n) zo).1
 rw [hp] at hz
 have key := (hg.ker fun k => if k < c then gv (lG U c c) k else if k = c then -1 else 0).1 (fun i hi => by
  have e:n + 1 = c + (1 + (n - c)):=by omega
  rw [e,qI,qI]
  have z3:bB (n - c) (fun k=>sD U c i (c + (1 + k)) * (if c + (1 + k) < c then gv (lG U c c) (c + (1 + k)) else if c + (1 + k) = c then -1 else 0)) = 0:=mR fun k hk=>by rw [if_neg zo,if_neg zo]; grind
  have z2 : bB 1 (fun k => sD U c i (c + k) * (if c + k < c then gv (lG U c c) (c + k) else if c + k = c then -1 else 0)) = sD U c i c * -1 := by
   rw [yM,if_neg zo,if_pos zo]; rfl
  have z1:bB c (fun k=>sD U c i k * (if k < c then gv (lG U c c) k else if k = c then -1 else 0)) = bB c (fun k=>sD U c i k * gv (lG U c c) k):=cE fun k hk=>by rw [if_pos hk]
  rw [z1,z2,z3]
  have zc:sD U c i c = gm U i c:=by unfold sD; rw [if_neg zo]
  rw [zc]
  by_cases e2:i < c
  ·rw [Lc hd e2]; grind
  ·rw [hz i zo hi,mR (fun k hk=>by unfold sD; rw [if_pos zo]; grind),q0]; grind)
 refine ⟨fun k=>if k < c then gv (lG U c c) k else if k = c then -1 else 0,fun i hi=>?_,c,hc,?_⟩
 ·have h1 := key i hi
  rw [He h hi,if_neg zo,if_neg zo] at h1
  grind
 ·show (if c < c then gv (lG U c c) c else if c = c then (-1 : Qi) else 0) ≠ 0
  rw [if_neg zo,if_pos rfl]
  intro e
  exact absurd (congrArg Qi.re e) (by decide)
end
section
open Go Go.RowKit
abbrev gnI (G:List Nat):List Int:=G.map fun (q:Nat)=>(q:Int) + 1
def rL (G : List Nat) : Nat → List Nat
 | 0=>[]
 | k + 1=>rL G k ++ (if k ∈ G then [] else [k])
theorem Kf (G : List Nat) : ∀ k, (rL G k).length ≤ k
 | 0=>Nat.le_refl _
 | k + 1 => by
  have:=Kf G k
  simp only [rL,List.length_append]
  split
  ·simp; omega
  ·simp; omega
theorem Qs {G : List Nat} : ∀ {k x : Nat}, x ∈ rL G k → x < k
 | 0,x,h=>by cases h
 | k + 1, x, h => by
  rcases List.mem_append.1 h with h1 | h1
  ·have:=Qs h1; omega
  ·split at h1
   ·cases h1
   ·have:=List.mem_singleton.1 h1; omega
theorem Qj {G:List Nat} {i:Nat}:((gnI G).any fun x=>decide (((i + 1:Nat):Int) = x)) = decide (i ∈ G):=by
 rw [Bool.eq_iff_iff]
 simp only [gnI,List.any_map,List.any_eq_true,Function.comp,decide_eq_true_eq]
 constructor
 ·rintro ⟨q, h1, h2⟩
  obtain rfl:i = q:=by omega
  exact h1
 ·intro h; exact ⟨i,h,by omega⟩
abbrev rN (Q:List Nat) (i:Nat):Nat:=Q.getD i 0
def Nh (z:List Qi) (Q:List Nat):List Qi:=tab Q.length fun i=>gv z (rN Q i)
def Yc (s:List (List Qi)) (Q:List Nat):List (List Qi):=tab Q.length fun i=>tab Q.length fun j=>gm s (rN Q i) (rN Q j)
theorem Ib {Q:List Nat} {n i:Nat} (h:∀ x,x ∈ Q → x < n) (hi:i < Q.length):rN Q i < n:=h _ (by rw [show rN Q i = Q[i] by simp [rN,List.getD,hi]]; exact List.getElem_mem hi)
theorem Dh {Q:List Nat} {i:Nat} (h:i < Q.length):(Q.map Nat.succ)[i]? = some (rN Q i + 1):=by simp [rN,List.getD,h]
end
section
open Go Go.RowKit
def gq (ps:List (Nat × Nat)) (x:Nat):Nat:=if x % 2 = 0 then pA ps (x / 2) else pB ps (x / 2)
structure Jn (ps:List (Nat × Nat)) (n K:Nat):Prop where
 lt:∀ x,x < 2 * K → gq ps x < n
 inj:∀ x y,x < 2 * K → y < 2 * K → gq ps x = gq ps y → x = y
theorem Jn.le {ps:List (Nat × Nat)} {n K k:Nat} (h:Jn ps n K) (hk:k ≤ K):Jn ps n k:=⟨fun x hx=>h.lt x zo,fun x y hx hy=>h.inj x y zo zo⟩
end
section
open Go Go.RowKit
theorem tC (M:List (List Qi)) (n:Nat):cI (nD M n) n n:=cI.tab
theorem Ft (M:List (List Qi)) (b:List Qi) (n:Nat):(lY M b n).length = n:=qM _ _ _
theorem Ew {M:List (List Qi)} {n:Nat} (h:pH M n = 0):∀ k,k < n → mL M (ek n k) n = 0:=vE h
theorem uC {n i j:Nat} (hi:i < n) (hj:j < n):gm (wE n) i j = if i = j then 1 else 0:=by
 show gv ((wE n).getD i []) j = _
 rw [wE,yP hi,zE,xX (by rw [bC]; exact hi)]
 by_cases e:j = i
 ·subst e; rw [if_pos rfl,if_pos rfl]; rfl
 ·rw [if_neg e,if_neg (Ne.symm e),oQ hj]; rfl
theorem qV {a b:List (List Qi)} {n m:Nat} (ha:cI a n m) (hb:cI b n m) (h:∀ i,i < n → ∀ j,j < m → gm a i j = gm b i j):a = b:=by
 rw [tG ha,tG hb]
 exact gC fun i hi=>gC fun j hj=>h i hi j hj
end
section
open Go Go.RowKit
theorem pig : ∀ {n m : Nat} {f : Nat → Nat}, (∀ x, x < m → f x < n) → (∀ x y, x < m → y < m → f x = f y → x = y) → m ≤ n
 | 0, m, f, h, _ => by
  cases m with
  | zero=>exact Nat.le_refl 0
  | succ m=>exact absurd (h 0 zo) zo
 | n + 1,0,_,_,_=>by omega
 | n + 1, k + 1, f, h, i => by
  have := pig (n := n) (m := k) (f := fun x => if f x = n then f k else f x) (fun x hx => by
   have h1:=h x zo
   have h2:=h k zo
   by_cases c:f x = n
   ·simp only [if_pos c]
    have:f k ≠ n:=fun e=>by have:=i x k zo zo (by rw [c,e]); omega
    omega
   ·simp only [if_neg c]; omega) (fun x y hx hy e=>by
   by_cases c:f x = n <;> by_cases d:f y = n
   ·exact i x y zo zo (by rw [c,d])
   ·simp only [if_pos c, if_neg d] at e
    have:=i k y zo zo e; omega
   ·simp only [if_neg c, if_pos d] at e
    have:=i x k zo zo e; omega
   ·simp only [if_neg c, if_neg d] at e
    exact i x y zo zo e)
  omega
end
section
open Go Go.RowKit
theorem vX {x y:Qi} {L M:Nat} (hx:aI x L) (hy:aI y M) (h:y ≠ 0):aI (x / y) (L + 3 * M + 2):=⟨hx.fit.div hy.fit h⟩
end
section
open Go Go.RowKit
section
variable {φ:Qi → Qi → Bool} {z:List Qi} {js:List (Int × Int)}
end
theorem pZ {a b:List (List Qi)} {n k m i j:Nat} (hi:i < n) (hj:j < m):gm (kV a b n k m) i j = bB k fun t=>gm a i t * gm b t j:=nC hi hj
theorem Wh {A : List (List Qi)} {n : Nat} (h : cI A n n) : kV (wE n) A n n n = A := qV lT h fun i hi j hj => by
 rw [pZ hi hj,qK hi (f:=fun t=>gm (wE n) i t * gm A t j) fun k hk hne=>by rw [uC hi hk,if_neg (Ne.symm hne)]; grind,uC hi hi,if_pos rfl]; grind
theorem Wi {A : List (List Qi)} {n : Nat} (h : cI A n n) : kV A (wE n) n n n = A := qV lT h fun i hi j hj => by
 rw [pZ hi hj,qK hj (f:=fun t=>gm A i t * gm (wE n) t j) fun k hk hne=>by rw [uC hk hj,if_neg hne]; grind,uC hj hj,if_pos rfl]; grind
def Zb:Qi:=Qi.frac 1 0 2
section
variable {js:List (Int × Int)} {n:Nat}
end
theorem Co : ∀ n, rL [] n = tab n fun i => i
 | 0=>rfl
 | n + 1=>by rw [rL,Co n,lZ]; rfl
theorem Jc (n:Nat):(rL [] n).length = n:=by rw [Co,bC]
theorem Tw {z:List Qi}:Nh z (rL [] z.length) = z:=by
 rw [Nh,Jc,Co]
 apply List.ext_getElem?
 intro i
 by_cases hi:i < z.length
 ·rw [dC hi,rN,yP hi]; simp [gv,List.getD,hi]
 ·rw [List.getElem?_eq_none (by rw [bC]; omega),List.getElem?_eq_none zo]
end
section
open Go Go.RowKit
structure Aa (O:List Nat) (n:Nat):Prop where
 nd:O.Nodup
 all:∀ x,x ∈ O ↔ 1 ≤ x ∧ x ≤ n
theorem Aa.len {O:List Nat} {n:Nat} (h:Aa O n):O.length = n:=by
 refine Nat.le_antisymm ?_ ?_
 ·refine pig (n := n) (f := fun i => O.getD i 0 - 1) (fun x hx => ?_) (fun x y hx hy e => ?_)
  ·have := (h.all (O.getD x 0)).1 (by rw [show O.getD x 0 = O[x] by simp [List.getD, hx]]; exact List.getElem_mem hx)
   show O.getD x 0 - 1 < n; omega
  ·have a := (h.all (O.getD x 0)).1 (by rw [show O.getD x 0 = O[x] by simp [List.getD, hx]]; exact List.getElem_mem hx)
   have b:=(h.all (O.getD y 0)).1 (by rw [show O.getD y 0 = O[y] by simp [List.getD,hy]]; exact List.getElem_mem hy)
   have e2:O.getD x 0 = O.getD y 0:=by have:O.getD x 0 - 1 = O.getD y 0 - 1:=e; omega
   rw [show O.getD x 0 = O[x] by simp [List.getD,hx],show O.getD y 0 = O[y] by simp [List.getD,hy]] at e2
   exact (List.getElem_inj h.nd).1 e2
 ·have key : ∀ j, j < n → ∃ i, i < O.length ∧ O.getD i 0 = j + 1 := fun j hj => by
   obtain ⟨i,hi,e⟩:=List.getElem_of_mem ((h.all (j + 1)).2 ⟨by omega,by omega⟩)
   exact ⟨i,hi,by simp [List.getD,hi,e]⟩
  refine pig (n:=O.length) (f:=fun j=>if hj:j < n then Classical.choose (key j hj) else 0) (fun x hx=>by simp only [dif_pos hx]; exact (Classical.choose_spec (key x hx)).1) (fun x y hx hy e=>?_)
  simp only [dif_pos hx,dif_pos hy] at e
  have a:=(Classical.choose_spec (key x hx)).2
  have b:=(Classical.choose_spec (key y hy)).2
  rw [e] at a; omega
section
variable {O:List Nat} {n:Nat}
theorem Aa.at (h:Aa O n) {i:Nat} (hi:i < n):1 ≤ O.getD i 0 ∧ O.getD i 0 ≤ n:=by
 have hl:=h.len
 exact (h.all _).1 (by rw [show O.getD i 0 = O[i] by simp [List.getD,show i < O.length by omega]]; exact List.getElem_mem _)
theorem Aa.inj (h:Aa O n) {i j:Nat} (hi:i < n) (hj:j < n) (e:O.getD i 0 = O.getD j 0):i = j:=by
 have hl:=h.len
 rw [show O.getD i 0 = O[i] by simp [List.getD,show i < O.length by omega],show O.getD j 0 = O[j] by simp [List.getD,show j < O.length by omega]] at e
 exact (List.getElem_inj h.nd).1 e
end
end
section
open Go Go.RowKit
theorem a12 (f:Nat → Qi):bB 2 f = f 0 + f 1:=by simp only [bB,q0]; grind
section
variable {S:List (List Qi)} {p q r t a b:Nat}
theorem Yb {x y:Qi} (h:x - y = 0):x = y:=by grind
end
section
variable {S:Nat → Nat → Qi} {p q r t a b:Nat}
def S1 (S:Nat → Nat → Qi) (p q:Nat) (V:Nat → Qi × Qi) (a b:Nat):Qi:=S a b + (S a p * (V b).1 + S a q * (V b).2)
variable {V:Nat → Qi × Qi}
end
end
section
open Go Go.RowKit
def low (c a b:Nat):Nat:=c - (if a < c then 1 else 0) - (if b < c then 1 else 0)
def okP (N p q r t : Nat) : Bool :=
 decide ((rL [p,q] N).length = N - 2) && decide (low r p q < N - 2) && decide (low t p q < N - 2) && decide (low r p q ≠ low t p q) && decide (rN (rL [p,q] N) (low r p q) = r) && decide (rN (rL [p,q] N) (low t p q) = t)
 && decide ((rL [low r p q,low t p q] (N - 2)).map (rN (rL [p,q] N)) = rL [p,q,r,t] N) && decide ((rL [p,q,r,t] N).length = N - 4) && decide (rL [t,r,p,q] N = rL [p,q,r,t] N) && decide (rL [r,t,p,q] N = rL [p,q,r,t] N)
section
variable {z:List Qi} {S:List (List Qi)} {N p q r t:Nat} {ζ:Qi}
end
end
section
open Go Go.RowKit
abbrev jS (s f:List (List Qi)) (p:Nat):Qi:=Qi.ofInt 1 - gm f 1 1 * gm s p p
def oO (s f : List (List Qi)) (p i j : Nat) : Qi :=
 if i = p ∧ j = p then gm f 0 0 + gm f 0 1 * (gm f 1 0 * (gm s p p / jS s f p))
 else if j = p then gm s i p / jS s f p * gm f 1 0
 else if i = p then gm f 0 1 * (gm s p j / jS s f p)
 else gm s i j + gm s i p / jS s f p * (gm f 1 1 * gm s p j)
def eB (s f:List (List Qi)) (p n:Nat):List (List Qi):=tab n fun i=>tab n fun j=>oO s f p i j
def rK (z fz:List Qi) (port:Int) (x:Nat):Int:=if fz.length ≠ 2 then 4 else if ¬ (1 ≤ port ∧ port ≤ z.length) then 1 else if gv fz (x - 1) = gv z (port - 1).toNat then 0 else 40
theorem Za {z fz:List Qi} {port:Int} {x:Nat} (h:rK z fz port x = 0):fz.length = 2 ∧ (1 ≤ port ∧ port ≤ z.length) ∧ gv fz (x - 1) = gv z (port - 1).toNat:=by
 unfold rK at h
 by_cases c1:fz.length = 2
 ·rw [if_neg (fun k => k c1)] at h
  by_cases c2:1 ≤ port ∧ port ≤ z.length
  ·rw [if_neg (fun k => k c2)] at h
   by_cases c3:gv fz (x - 1) = gv z (port - 1).toNat
   ·exact ⟨c1,c2,c3⟩
   ·rw [if_neg c3] at h; omega
  ·rw [if_pos c2] at h; omega
 ·rw [if_pos c1] at h; omega
def Cf (z:List Qi) (s:List (List Qi)) (fz:List Qi) (f:List (List Qi)) (port:Int):Int:=if rK z fz port 2 ≠ 0 then rK z fz port 2 else if jS s f (port - 1).toNat = Qi.zero then 6 else 0
theorem Yy {z fz:List Qi} {s f:List (List Qi)} {port:Int} (h:rK z fz port 2 ≠ 0):Cf z s fz f port = rK z fz port 2:=if_pos h
theorem Yz {z fz:List Qi} {s f:List (List Qi)} {port:Int} (h:rK z fz port 2 = 0) (h2:jS s f (port - 1).toNat = Qi.zero):Cf z s fz f port = 6:=by rw [Cf,if_neg (fun k=>k h),if_pos h2]
theorem Qa {z fz:List Qi} {s f:List (List Qi)} {port:Int} (h:rK z fz port 2 = 0) (h2:jS s f (port - 1).toNat ≠ Qi.zero):Cf z s fz f port = 0:=by rw [Cf,if_neg (fun k=>k h),if_neg h2]
def Vn (z:List Qi) (s:List (List Qi)) (fz:List Qi) (f:List (List Qi)) (port:Int):List Qi:=oG (Cf z s fz f port) (z.set (port - 1).toNat (gv fz 0))
def Vm (z:List Qi) (s:List (List Qi)) (fz:List Qi) (f:List (List Qi)) (port:Int):List (List Qi):=oG (Cf z s fz f port) (eB s f (port - 1).toNat z.length)
def rO (s f:List (List Qi)) (p:Nat):Qi:=gm f 0 1 * gm f 1 0 + gm f 1 1 * (gm s p p - gm f 0 0)
def Tg (s f : List (List Qi)) (p i j : Nat) : Qi :=
 if i = p ∧ j = p then (gm s p p - gm f 0 0) / rO s f p
 else if j = p then gm s i p / rO s f p * gm f 0 1
 else if i = p then gm f 1 0 * (gm s p j / rO s f p)
 else gm s i j - gm s i p / rO s f p * (gm f 1 1 * gm s p j)
def a0V (s f:List (List Qi)) (p n:Nat):List (List Qi):=tab n fun i=>tab n fun j=>Tg s f p i j
def Ba (z:List Qi) (s:List (List Qi)) (fz:List Qi) (f:List (List Qi)) (port:Int):Int:=if rK z fz port 1 ≠ 0 then rK z fz port 1 else if gm f 0 1 = Qi.zero ∨ gm f 1 0 = Qi.zero ∨ rO s f (port - 1).toNat = Qi.zero then 6 else 0
def Db (z:List Qi) (s:List (List Qi)) (fz:List Qi) (f:List (List Qi)) (port:Int):List Qi:=oG (Ba z s fz f port) (z.set (port - 1).toNat (gv fz 1))
def Xq (z:List Qi) (s:List (List Qi)) (fz:List Qi) (f:List (List Qi)) (port:Int):List (List Qi):=oG (Ba z s fz f port) (a0V s f (port - 1).toNat z.length)
theorem Zl {z fz:List Qi} {s f:List (List Qi)} {port:Int} (h:rK z fz port 1 ≠ 0):Ba z s fz f port = rK z fz port 1:=if_pos h
theorem Zm {z fz:List Qi} {s f:List (List Qi)} {port:Int} (h:rK z fz port 1 = 0) (h2:gm f 0 1 = Qi.zero ∨ gm f 1 0 = Qi.zero ∨ rO s f (port - 1).toNat = Qi.zero):Ba z s fz f port = 6:=by rw [Ba,if_neg (fun k=>k h),if_pos h2]
theorem Sa {z fz:List Qi} {s f:List (List Qi)} {port:Int} (h:rK z fz port 1 = 0) (h2:¬ (gm f 0 1 = Qi.zero ∨ gm f 1 0 = Qi.zero ∨ rO s f (port - 1).toNat = Qi.zero)):Ba z s fz f port = 0:=by rw [Ba,if_neg (fun k=>k h),if_neg h2]
end
section
open Go Go.RowKit
theorem mG {s f:List (List Qi)} {p n i j:Nat} (hi:i < n) (hj:j < n):gm (eB s f p n) i j = oO s f p i j:=nC hi hj
section
variable {s f g:List (List Qi)} {n p q:Nat}
end
end
section
open Go Go.RowKit
def Gb (x:Qi) (N:Nat):Prop:=∃ p q:Int,x = Qi.mk (p:Rat) (q:Rat) ∧ p.natAbs ≤ N ∧ q.natAbs ≤ N
theorem Gb.le {x:Qi} {N M:Nat} (h:Gb x N) (k:N ≤ M):Gb x M:=by
 obtain ⟨p,q,e,h1,h2⟩:=h; exact ⟨p,q,e,by omega,by omega⟩
theorem Gb.add {x y:Qi} {N M:Nat} (h:Gb x N) (k:Gb y M):Gb (x + y) (N + M):=by
 obtain ⟨p,q,rfl,h1,h2⟩:=h; obtain ⟨r,s,rfl,k1,k2⟩:=k
 refine ⟨p + r,q + s,Qi.ext' ?_ ?_,by omega,by omega⟩
 ·show (p:Rat) + (r:Rat) = ((p + r:Int):Rat); push_cast; rfl
 ·show (q:Rat) + (s:Rat) = ((q + s:Int):Rat); push_cast; rfl
theorem Gb.neg {x:Qi} {N:Nat} (h:Gb x N):Gb (-x) N:=by
 obtain ⟨p,q,rfl,h1,h2⟩:=h
 refine ⟨-p,-q,Qi.ext' ?_ ?_,by omega,by omega⟩
 ·show -(p:Rat) = ((-p:Int):Rat); push_cast; rfl
 ·show -(q:Rat) = ((-q:Int):Rat); push_cast; rfl
theorem Gb.sub {x y:Qi} {N M:Nat} (h:Gb x N) (k:Gb y M):Gb (x - y) (N + M):=by rw [Qi.sub_def]; exact h.add k.neg
theorem nU {p q:Int} {N M:Nat} (h:p.natAbs ≤ N) (k:q.natAbs ≤ M):(p * q).natAbs ≤ N * M:=by rw [Int.natAbs_mul]; exact Nat.mul_le_mul h k
theorem Gb.mul {x y:Qi} {N M:Nat} (h:Gb x N) (k:Gb y M):Gb (x * y) (2 * N * M):=by
 obtain ⟨p,q,rfl,h1,h2⟩:=h; obtain ⟨r,s,rfl,k1,k2⟩:=k
 have a1:=nU h1 k1; have a2:=nU h2 k2; have a3:=nU h1 k2; have a4:=nU h2 k1
 have e:2 * N * M = N * M + N * M:=by rw [Nat.mul_assoc,Nat.two_mul]
 refine ⟨p * r - q * s,p * s + q * r,Qi.ext' ?_ ?_,by omega,by omega⟩
 ·rw [Qi.mul_re]; show (p:Rat) * (r:Rat) - (q:Rat) * (s:Rat) = ((p * r - q * s:Int):Rat); push_cast; rfl
 ·rw [Qi.mul_im]; show (p:Rat) * (s:Rat) + (q:Rat) * (r:Rat) = ((p * s + q * r:Int):Rat); push_cast; rfl
theorem Gb.sum {f : Nat → Qi} {N : Nat} : ∀ {n : Nat}, (∀ k, k < n → Gb (f k) N) → Gb (bB n f) (n * N)
 | 0,_=>⟨0,0,Qi.ext' rfl rfl,by simp,by simp⟩
 | n + 1, h => by
  rw [bB,Nat.succ_mul]
  exact (Gb.sum fun k hk=>h k zo).add (h n zo)
theorem Gb.fit {x:Qi} {N L:Nat} (h:Gb x N) (hN:N < BB ^ L) (hL:1 ≤ L):aI x L:=by
 obtain ⟨p,q,rfl,h1,h2⟩:=h
 have e:Qi.mk (p:Rat) (q:Rat) = Qi.mk' p q 1:=Qi.ext' (by rw [Qi.mk_re]; show (p:Rat) = p / ((1:Nat):Rat); grind) (by rw [Qi.mk_im]; show (q:Rat) = q / ((1:Nat):Rat); grind)
 rw [e]
 exact ⟨Qi.Fit.mk (by decide) zo zo (Qi.one_lt hL)⟩
theorem pD (n:Nat) (f:Nat → Qi):bB (n + 1) f = f 0 + bB n fun k=>f (k + 1):=by
 rw [Nat.add_comm n 1,qI,yM]
 exact congrArg _ (cE fun k _=>by rw [Nat.add_comm])
def fs : Nat → Nat → Nat
 | 0,_=>1
 | n + 1,N=>2 * (n + 1) * N * fs n (4 * N * N)
theorem Hj {F:Nat → Nat → Qi} {n:Nat} {x:Nat → Qi}:sG F (n + 1) (n + 1) x ↔ (F 0 0 * x 0 + bB n (fun k=>F 0 (k + 1) * x (k + 1)) = 0) ∧ ∀ i,i < n → F (i + 1) 0 * x 0 + bB n (fun k=>F (i + 1) (k + 1) * x (k + 1)) = 0:=by
 constructor
 ·intro h
  exact ⟨by have:=h 0 zo; rwa [pD] at this,fun i hi=>by have:=h (i + 1) zo; rwa [pD] at this⟩
 ·rintro ⟨h1, h2⟩ i hi
  rw [pD]
  cases i with
  | zero=>exact h1
  | succ i=>exact h2 i zo
theorem Fx (n:Nat) (a b:Qi) (f g x:Nat → Qi):bB n (fun k=>(a * f k - b * g k) * x k) = a * bB n (fun k=>f k * x k) - b * bB n (fun k=>g k * x k):=by
 induction n with
 | zero=>simp only [bB,q0]; grind
 | succ n ih=>simp only [bB,ih]; grind
theorem uV (n:Nat) (a:Qi) (f x:Nat → Qi):bB n (fun k=>f k * (x k * a)) = a * bB n (fun k=>f k * x k):=by
 induction n with
 | zero=>simp only [bB,q0]; grind
 | succ n ih=>simp only [bB,ih]; grind
theorem Vq {F : Nat → Nat → Qi} {n N : Nat} (hp : F 0 0 ≠ 0) (hN : 1 ≤ N) (hF : ∀ i, i < n + 1 → ∀ j, j ≤ n + 1 → Gb (F i j) N) (hk : ∀ v, sG F (n + 1) (n + 1) v → ∀ k, k < n + 1 → v k = 0)
  (ih:∀ G:Nat → Nat → Qi,(∀ i,i < n → ∀ j,j ≤ n → Gb (G i j) (4 * N * N)) → (∀ v,sG G n n v → ∀ k,k < n → v k = 0) → ∃ (y:Nat → Qi) (e:Qi),e ≠ 0 ∧ Gb e (fs n (4 * N * N)) ∧ (∀ k,k < n → Gb (y k) (fs n (4 * N * N))) ∧ ∀ i,i < n → bB n (fun k=>G i k * y k) = e * G i n) :
  ∃ (y:Nat → Qi) (e:Qi),e ≠ 0 ∧ Gb e (fs (n + 1) N) ∧ (∀ k,k < n + 1 → Gb (y k) (fs (n + 1) N)) ∧ ∀ i,i < n + 1 → bB (n + 1) (fun k=>F i k * y k) = e * F i (n + 1):=by
 obtain ⟨y, e, he, ge, gy, hy⟩ := ih (fun i j => F 0 0 * F (i + 1) (j + 1) - F (i + 1) 0 * F 0 (j + 1)) (fun i hi j hj => by
   have h1:=(hF 0 zo 0 zo).mul (hF (i + 1) zo (j + 1) zo)
   have h2:=(hF (i + 1) zo 0 zo).mul (hF 0 zo (j + 1) zo)
   exact (h1.sub h2).le (by rw [show 4 * N * N = 2 * N * N + 2 * N * N by rw [← Nat.add_mul]; congr 1; omega]; exact Nat.le_refl _)) (fun v hv k hkn=>by
   have hz := hk (fun k => if k = 0 then -(bB n fun k => F 0 (k + 1) * v k) else F 0 0 * v (k - 1)) (Hj.2 ⟨by
    simp only [if_true,Nat.add_sub_cancel,if_neg (Nat.succ_ne_zero _)]
    have:=uV n (F 0 0) (fun k=>F 0 (k + 1)) v
    simp only [Qi.mul_comm' _ (F 0 0)] at this ⊢
    rw [this]; grind,fun i hi=>by
    simp only [if_true,Nat.add_sub_cancel,if_neg (Nat.succ_ne_zero _)]
    have:=uV n (F 0 0) (fun k=>F (i + 1) (k + 1)) v
    simp only [Qi.mul_comm' _ (F 0 0)] at this ⊢
    rw [this]
    have h:=hv i hi
    have h2:=Fx n (F 0 0) (F (i + 1) 0) (fun k=>F (i + 1) (k + 1)) (fun k=>F 0 (k + 1)) v
    simp only [] at h
    rw [h2] at h
    grind⟩) (k + 1) zo
   simp only [Nat.add_sub_cancel,if_neg (Nat.succ_ne_zero _)] at hz
   rcases jH hz with h | h
   ·exact absurd h hp
   ·exact h)
 have hf1 : 1 ≤ fs n (4 * N * N) := by
  apply Decidable.byContradiction; intro h
  have h0:fs n (4 * N * N) = 0:=by omega
  rw [h0] at ge
  obtain ⟨p,q,e1,p1,p2⟩:=ge
  have hp0:p = 0:=by omega
  have hq0:q = 0:=by omega
  exact he (by rw [e1,hp0,hq0]; exact Qi.ext' rfl rfl)
 have hG : fs (n + 1) N = (n + 1) * (2 * fs n (4 * N * N) * N) := by
  rw [fs]; simp only [Nat.mul_comm,Nat.mul_left_comm,Nat.mul_assoc]
 have hG1:2 * fs n (4 * N * N) * N ≤ fs (n + 1) N:=by rw [hG]; exact Nat.le_mul_of_pos_left _ zo
 refine ⟨fun k=>if k = 0 then e * F 0 (n + 1) - bB n (fun k=>F 0 (k + 1) * y k) else y (k - 1) * F 0 0,e * F 0 0,fun h=>?_,?_,fun k hkn=>?_,fun i hi=>?_⟩
 ·rcases jH h with h | h
  ·exact he h
  ·exact hp h
 ·exact (ge.mul (hF 0 zo 0 zo)).le hG1
 ·cases k with
  | zero =>
   simp only [if_true]
   have h1:=ge.mul (hF 0 zo (n + 1) zo)
   have h2:Gb (bB n fun k=>F 0 (k + 1) * y k) (n * (2 * N * fs n (4 * N * N))):=Gb.sum fun k hk=>(hF 0 zo (k + 1) zo).mul (gy k hk)
   refine (h1.sub h2).le ?_
   have e3:n * (2 * N * fs n (4 * N * N)) = n * (2 * fs n (4 * N * N) * N):=by simp only [Nat.mul_comm,Nat.mul_left_comm,Nat.mul_assoc]
   have e4:(n + 1) * (2 * fs n (4 * N * N) * N) = n * (2 * fs n (4 * N * N) * N) + 2 * fs n (4 * N * N) * N:=Nat.succ_mul _ _
   rw [hG,e3,e4,Nat.add_comm]; exact Nat.le_refl _
  | succ k =>
   simp only [Nat.add_sub_cancel,if_neg (Nat.succ_ne_zero _)]
   exact ((gy k zo).mul (hF 0 zo 0 zo)).le hG1
 ·rw [pD]
  simp only [if_true,Nat.add_sub_cancel,if_neg (Nat.succ_ne_zero _)]
  rw [uV n (F 0 0) (fun k=>F i (k + 1)) y]
  cases i with
  | zero=>grind
  | succ i =>
   have h:=hy i zo
   have h2:=Fx n (F 0 0) (F (i + 1) 0) (fun k=>F (i + 1) (k + 1)) (fun k=>F 0 (k + 1)) y
   rw [h2] at h
   grind
theorem Qc : ∀ (n N : Nat) (F : Nat → Nat → Qi), 1 ≤ N → (∀ i, i < n → ∀ j, j ≤ n → Gb (F i j) N) → (∀ v, sG F n n v → ∀ k, k < n → v k = 0) →
  ∃ (y:Nat → Qi) (e:Qi),e ≠ 0 ∧ Gb e (fs n N) ∧ (∀ k,k < n → Gb (y k) (fs n N)) ∧ ∀ i,i < n → bB n (fun k=>F i k * y k) = e * F i n
 | 0,N,F,_,_,_=>⟨fun _=>0,1,fun h=>by have:=congrArg Qi.re h; revert this; decide,⟨1,0,Qi.ext' rfl rfl,by simp [fs],by simp [fs]⟩,fun k hk=>by omega,fun i hi=>by omega⟩
 | n + 1, N, F, hN, hF, hk => by
  have hpz : ∃ p, p < n + 1 ∧ F p 0 ≠ 0 := by
   apply Classical.byContradiction; intro hno
   have hz : ∀ p, p < n + 1 → F p 0 = 0 := fun p hp => by
    apply Classical.byContradiction; intro h; exact hno ⟨p,hp,h⟩
   have := hk (fun k => if k = 0 then 1 else 0) (fun i hi => by
    rw [mR]
    intro k hk
    by_cases e:k = 0
    ·subst e; rw [hz i hi]; grind
    ·simp only [if_neg e]; grind) 0 zo
   simp only [if_true] at this
   have:=congrArg Qi.re this; revert this; decide
  obtain ⟨p,hp,hpz⟩:=hpz
  have hN4:1 ≤ 4 * N * N:=Nat.mul_pos zo zo
  obtain ⟨y, e, he, ge, gy, hy⟩ := Vq (F := fun i => F (La p 0 i)) (n := n) (N := N) (by simpa [La] using hpz) hN (fun i hi j hj => hF _ (Dk hp zo hi) j hj)
   (fun v hv=>hk v ((Ex hp zo).1 hv)) (fun G hG hGk=>Qc n (4 * N * N) G hN4 hG hGk)
  refine ⟨y,e,he,ge,gy,fun i hi=>?_⟩
  have:=hy (La p 0 i) (Dk hp zo hi)
  simp only [Lb] at this
  exact this
theorem Vs {N:Nat}:∀ {n:Nat},n ≤ 4 → 1 ≤ N → fs n N ≤ 1610612736 * N ^ 15:=by
 intro n hn hN
 have hp:∀ k,k ≤ 15 → N ^ k ≤ N ^ 15:=fun k hk=>Nat.pow_le_pow_right hN hk
 have h0:=hp 0 zo; have h1:=hp 1 zo; have h3:=hp 3 zo; have h7:=hp 7 zo
 match n,hn with
 | 0,_=>rw [fs]; rw [Nat.pow_zero] at h0; omega
 | 1,_=>simp only [fs]; rw [show 2 * (0 + 1) * N * 1 = 2 * N ^ 1 by grind]; omega
 | 2,_=>simp only [fs]; rw [show 2 * (1 + 1) * N * (2 * (0 + 1) * (4 * N * N) * 1) = 32 * N ^ 3 by grind]; omega
 | 3,_=>simp only [fs]; rw [show 2 * (2 + 1) * N * (2 * (1 + 1) * (4 * N * N) * (2 * (0 + 1) * (4 * (4 * N * N) * (4 * N * N)) * 1)) = 12288 * N ^ 7 by grind]; omega
 | 4,_=>simp only [fs]; rw [show 2 * (3 + 1) * N * (2 * (2 + 1) * (4 * N * N) * (2 * (1 + 1) * (4 * (4 * N * N) * (4 * N * N)) * (2 * (0 + 1) * (4 * (4 * (4 * N * N) * (4 * N * N)) * (4 * (4 * N * N) * (4 * N * N))) * 1))) = 1610612736 * N ^ 15 by grind]; omega
theorem Vh (x:Qi):((x.den:Int):Rat) * x.re = (x.a:Rat) ∧ ((x.den:Int):Rat) * x.im = (x.b:Rat):=by
 have h:=Qi.nc x.den_pos
 have h2:((x.den:Int):Rat) = (x.den:Rat):=by push_cast; rfl
 rw [h2]
 exact ⟨by rw [Qi.re_eq x]; grind,by rw [Qi.im_eq x]; grind⟩
theorem Dc {L : Nat} {x : Nat → Qi} : ∀ k, (∀ j, j < k → aI (x j) L) → ∃ d : Nat, 0 < d ∧ d ≤ BB ^ (k * L) ∧ ∀ j, j < k → Gb (Qi.ofInt d * x j) (BB ^ (k * L))
 | 0,_=>⟨1,by decide,Nat.pow_pos dR,fun j hj=>by omega⟩
 | k + 1, h => by
  obtain ⟨d,d0,dl,hd⟩:=Dc k fun j hj=>h j zo
  have hx:=(h k zo).fit
  have hm:=Vh (x k)
  have hpow:BB ^ ((k + 1) * L) = BB ^ (k * L) * BB ^ L:=by rw [Nat.succ_mul,Nat.pow_add]
  refine ⟨d * (x k).den,Nat.mul_pos d0 (x k).den_pos,?_,fun j hj=>?_⟩
  ·rw [hpow]; exact Nat.mul_le_mul dl (Nat.le_of_lt hx.2.2)
  ·by_cases e : j = k
   ·subst e
    refine ⟨d * (x j).a,d * (x j).b,Qi.ext' ?_ ?_,?_,?_⟩
    ·rw [Qi.mul_re]
     show (((d * (x j).den:Nat):Int):Rat) * (x j).re - 0 * (x j).im = ((d * (x j).a:Int):Rat)
     have:=hm.1; push_cast at *; grind
    ·rw [Qi.mul_im]
     show (((d * (x j).den:Nat):Int):Rat) * (x j).im + 0 * (x j).re = ((d * (x j).b:Int):Rat)
     have:=hm.2; push_cast at *; grind
    ·rw [hpow]; exact nU (by simpa using dl) (Nat.le_of_lt hx.1)
    ·rw [hpow]; exact nU (by simpa using dl) (Nat.le_of_lt hx.2.1)
   ·obtain ⟨p, q, e1, h1, h2⟩ := hd j zo
    have er:=congrArg Qi.re e1; have ei:=congrArg Qi.im e1
    rw [Qi.mul_re] at er; rw [Qi.mul_im] at ei
    refine ⟨p * (x k).den,q * (x k).den,Qi.ext' ?_ ?_,?_,?_⟩
    ·rw [Qi.mul_re]
     have er:((d:Int):Rat) * (x j).re - 0 * (x j).im = (p:Rat):=er
     show (((d * (x k).den:Nat):Int):Rat) * (x j).re - 0 * (x j).im = ((p * (x k).den:Int):Rat)
     push_cast at *; grind
    ·rw [Qi.mul_im]
     have ei:((d:Int):Rat) * (x j).im + 0 * (x j).re = (q:Rat):=ei
     show (((d * (x k).den:Nat):Int):Rat) * (x j).im + 0 * (x j).re = ((q * (x k).den:Int):Rat)
     push_cast at *; grind
    ·rw [hpow]; exact nU h1 (by simpa using Nat.le_of_lt hx.2.2)
    ·rw [hpow]; exact nU h2 (by simpa using Nat.le_of_lt hx.2.2)
theorem Fg {d : Nat} (h : 0 < d) : Qi.ofInt d ≠ 0 := fun e => by
 have:=congrArg Qi.re e
 have h2:((d:Int):Rat) = ((0:Int):Rat):=this
 rw [Rat.intCast_inj] at h2; omega
end
section
open Go Go.RowKit
theorem Sk {M:List (List Qi)} {b:List Qi} {n m L K:Nat} (h:cI M n n) (hM:aS M L) (hb:cD b L) (hL:1 ≤ L) (hn:n ≤ m) (hbig:fs n (BB ^ ((m + 1) * L)) < BB ^ K) (hK:1 ≤ K) (hE:mL M b n = 0):cD (lY M b n) (4 * K + 2):=by
 obtain ⟨s1,s2⟩:=Fu h hE
 have hrow : ∀ i, ∃ d : Nat, 0 < d ∧ ∀ j, j < n + 1 → Gb (Qi.ofInt d * (if j < n then gm M i j else gv b i)) (BB ^ ((m + 1) * L)) := fun i => by
  obtain ⟨d, d0, _, hd⟩ := Dc (L := L) (x := fun j => if j < n then gm M i j else gv b i) (n + 1) fun j _ => by
   show aI (if j < n then gm M i j else gv b i) L
   split
   ·exact hM.get hL i j
   ·exact hb.get hL i
  exact ⟨d,d0,fun j hj=>(hd j hj).le (Nat.pow_le_pow_right dR (Nat.mul_le_mul_right _ zo))⟩
 have hd:∃ d:Nat → Nat,∀ i,0 < d i ∧ ∀ j,j < n + 1 → Gb (Qi.ofInt (d i) * (if j < n then gm M i j else gv b i)) (BB ^ ((m + 1) * L)):=⟨fun i=>Classical.choose (hrow i),fun i=>Classical.choose_spec (hrow i)⟩
 obtain ⟨d,hd⟩:=hd
 have cancel : ∀ {i : Nat} {u : Qi}, Qi.ofInt (d i) * u = 0 → u = 0 := fun {i u} hu => by
  rcases jH hu with k | k
  ·exact absurd k (Fg (hd i).1)
  ·exact k
 have hsum : ∀ (i : Nat) (v : Nat → Qi), bB n (fun k => Qi.ofInt (d i) * (if k < n then gm M i k else gv b i) * v k) = Qi.ofInt (d i) * bB n (fun k => gm M i k * v k) := fun i v => by
  rw [Qi.mul_comm',← qJ]
  exact cE fun k hk=>by rw [if_pos hk]; grind
 have hN:1 ≤ BB ^ ((m + 1) * L):=Nat.pow_pos dR
 obtain ⟨y, e, he, ge, gy, hy⟩ := Qc n (BB ^ ((m + 1) * L)) (fun i j => Qi.ofInt (d i) * (if j < n then gm M i j else gv b i)) hN (fun i _ j hj => (hd i).2 j zo) (fun v hv => s2 v fun i hi => by
  have:=hv i hi
  simp only [] at this
  rw [hsum] at this
  exact cancel this)
 have hsol : ∀ k, k < n → y k - e * gv (lY M b n) k = 0 := s2 (fun k => y k - e * gv (lY M b n) k) fun i hi => by
  have h1:=hy i hi
  rw [hsum,if_neg zo] at h1
  have h2:=s1 i hi
  have h3 : bB n (fun k => gm M i k * (y k - e * gv (lY M b n) k)) = bB n (fun k => gm M i k * y k) - e * bB n (fun k => gm M i k * gv (lY M b n) k) := by
   rw [← yN]; exact cE fun k _=>by grind
  rw [h3,h2]
  exact cancel (i:=i) (by grind)
 intro x hx
 obtain ⟨k,hk,rfl⟩:=List.mem_iff_getElem.1 hx
 rw [Ft] at hk
 have hg:(lY M b n)[k] = gv (lY M b n) k:=by simp [gv,List.getD,Ft,hk]
 rw [hg]
 have e1:gv (lY M b n) k = y k / e:=(uN he (by have:=hsol k hk; grind)).symm
 haveI f1:aI (y k) K:=(gy k hk).fit hbig hK
 haveI f2:aI e K:=ge.fit hbig hK
 rw [e1]
 exact (fitDiv (x:=y k) (y:=e)).le zo
end
section
open Go Go.RowKit
theorem Hl {A B C : List (List Qi)} {n : Nat} : kV (kV A B n n n) C n n n = kV A (kV B C n n n) n n n := qV lT lT fun i hi j hj => by
 rw [pZ hi hj,pZ hi hj]
 have e1 : bB n (fun t => gm (kV A B n n n) i t * gm C t j) = bB n fun t => bB n fun u => gm A i u * gm B u t * gm C t j := cE fun t ht => by
  rw [pZ hi ht,← qJ]
 have e2 : bB n (fun u => gm A i u * gm (kV B C n n n) u j) = bB n fun u => bB n fun t => gm A i u * gm B u t * gm C t j := cE fun u hu => by
  rw [pZ hu hj,Qi.mul_comm',← qJ]
  exact cE fun t _=>by grind
 rw [e1,e2,Be]
theorem Kb {n i j:Nat} (hi:i < n) (hj:j < n):gm (wE n) i j = if i = j then 1 else 0:=uC hi hj
theorem a1A {n j i:Nat} (hi:i < n) (hj:j < n):gv (ek n j) i = if i = j then 1 else 0:=by
 have h:gv (ek n j) i = if j = i then 1 else 0:=Kb (n:=n) hj hi
 rw [h]
 by_cases c:i = j
 ·rw [if_pos c,if_pos c.symm]
 ·rw [if_neg c,if_neg (Ne.symm c)]
theorem a1G {M : List (List Qi)} {n : Nat} (h : cI M n n) (hE : pH M n = 0) : kV M (nD M n) n n n = wE n := qV lT (qT n) fun i hi j hj => by
 have hs:=(Fu h (Ew hE j hj)).1 i hi
 rw [pZ hi hj,Kb hi hj,← a1A hi hj,← hs]
 exact cE fun t ht=>by rw [show gm (nD M n) t j = gv (lY M (ek n j) n) t from nC ht hj]
theorem Wd {M X : List (List Qi)} {n : Nat} (h : kV X M n n n = wE n) {y : Nat → Qi} (hy : ∀ i, i < n → bB n (fun k => gm M i k * y k) = 0) : ∀ k, k < n → y k = 0 := fun k hk => by
 have e1:bB n (fun i=>gm X k i * bB n (fun t=>gm M i t * y t)) = 0:=mR fun i hi=>by rw [hy i hi]; grind
 have e2 : bB n (fun i => gm X k i * bB n (fun t => gm M i t * y t)) = bB n fun i => bB n fun t => gm X k i * gm M i t * y t := cE fun i _ => by
  rw [Qi.mul_comm',← qJ]; exact cE fun t _=>by grind
 have e3 : bB n (fun t => bB n fun i => gm X k i * gm M i t * y t) = bB n fun t => gm (wE n) k t * y t := cE fun t ht => by
  rw [← h,pZ hk ht,← qJ]
 rw [e2,Be,e3] at e1
 rw [qK (i:=k) hk (fun t ht hne=>by rw [Kb hk ht,if_neg (Ne.symm hne)]; grind),Kb hk hk,if_pos rfl] at e1
 grind
theorem Wc {M X : List (List Qi)} {n : Nat} (hM : cI M n n) (h : kV X M n n n = wE n) : pH M n = 0 := pO fun k hk => by
 apply Classical.byContradiction; intro e
 obtain ⟨y,hy,k,hk,hne⟩:=Sl hM e
 exact hne (Wd h hy k hk)
theorem a0t {M X Y:List (List Qi)} {n:Nat} (hX:cI X n n) (hY:cI Y n n) (h:kV X M n n n = wE n) (k:kV M Y n n n = wE n):X = Y:=by
 rw [← Wi hX,← k,← Hl,h,Wh hY]
theorem Qo {M X:List (List Qi)} {n:Nat} (hM:cI M n n) (hX:cI X n n) (h:kV X M n n n = wE n):pH M n = 0 ∧ nD M n = X:=by
 have e:=Wc hM h
 exact ⟨e,(a0t hX (tC M n) h (a1G hM e)).symm⟩
section
variable {a b:Qi} {A B C:List (List Qi)} {d e:Nat → Qi} {n:Nat}
end
theorem q2:Qi.ofInt 2 = 2:=rfl
section
variable {z:List Qi} {s:List (List Qi)}
end
end
section
open Go Go.RowKit
theorem wA {n C k : Nat} (h : ∀ N, 1 ≤ N → fs n N ≤ C * N ^ k) : ∀ N, 1 ≤ N → fs (n + 1) N ≤ 2 * (n + 1) * C * 4 ^ k * N ^ (2 * k + 1) := fun N hN => by
 have h4:1 ≤ 4 * N * N:=Nat.mul_pos zo zo
 have a:=h (4 * N * N) h4
 have e:(4 * N * N) ^ k = 4 ^ k * (N ^ k * N ^ k):=by rw [Nat.mul_pow,Nat.mul_pow,Nat.mul_assoc]
 have e2:N ^ (2 * k + 1) = N ^ k * N ^ k * N:=by rw [Nat.pow_succ,Nat.two_mul,Nat.pow_add]
 rw [fs,e2]
 refine Nat.le_trans (Nat.mul_le_mul_left _ a) ?_
 rw [e]
 refine Nat.le_of_eq ?_
 simp only [Nat.mul_comm,Nat.mul_left_comm,Nat.mul_assoc]
theorem vY {n C k C' k' : Nat} (h : ∀ N, 1 ≤ N → fs n N ≤ C * N ^ k) (hC : C ≤ C') (hk : k ≤ k') : ∀ N, 1 ≤ N → fs n N ≤ C' * N ^ k' := fun N hN =>
 Nat.le_trans (h N hN) (Nat.mul_le_mul hC (Nat.pow_le_pow_right hN hk))
theorem Qe {n:Nat} (hn:n ≤ 6):∀ N,1 ≤ N → fs n N ≤ (2 * 6 * (2 * 5 * 1610612736 * 4 ^ 15) * 4 ^ 31) * N ^ 63:=by
 have h4:∀ m,m ≤ 4 → ∀ N,1 ≤ N → fs m N ≤ 1610612736 * N ^ 15:=fun m hm N hN=>Vs hm hN
 have h5:∀ N,1 ≤ N → fs 5 N ≤ (2 * 5 * 1610612736 * 4 ^ 15) * N ^ 31:=wA (h4 4 (Nat.le_refl 4))
 have h6:∀ N,1 ≤ N → fs 6 N ≤ (2 * 6 * (2 * 5 * 1610612736 * 4 ^ 15) * 4 ^ 31) * N ^ 63:=wA h5
 by_cases a:n ≤ 4
 ·exact vY (h4 n a) (by decide) (by decide)
 ·by_cases b : n = 5
  ·subst b; exact vY h5 (by decide) (by decide)
  ·obtain rfl : n = 6 := by omega
   exact h6
theorem Hz {C m k M:Nat} (h:m + k = M) (hC:C < BB ^ k):C * BB ^ m < BB ^ M:=by
 subst h
 rw [Nat.pow_add,Nat.mul_comm (BB ^ m)]
 exact Nat.mul_lt_mul_of_pos_right hC (Nat.pow_pos dR)
section
variable {z:List Qi} {S c:List (List Qi)} {js:List (Int × Int)} {N:Nat}
end
end
section
open Go Go.RowKit
section
variable {z w:List Qi} {s c:List (List Qi)} {n:Nat}
abbrev dl (i k:Nat):Qi:=if i = k then 1 else 0
end
section
variable {z:List Qi} {s:List (List Qi)} {n:Nat}
end
section
variable {z:List Qi} {s:List (List Qi)} {l:List Int}
end
section
variable {z:List Qi} {s:List (List Qi)} {g t:Qi} {p n:Nat}
end
end
section
open Go Go.RowKit
def Tc (w : Nat) : Nat → Nat
 | 0=>w
 | c + 1=>2 * Tc w c + 1
theorem zH (w : Nat) : ∀ {c d : Nat}, c ≤ d → Tc w c ≤ Tc w d
 | c,0,h=>by rw [show c = 0 by omega]; exact Nat.le_refl _
 | c, d + 1, h => by
  by_cases e:c = d + 1
  ·rw [e]; exact Nat.le_refl _
  ·have := zH w (c := c) (d := d) zo
   simp only [Tc]; omega
theorem Td {w v : Nat} (h : w ≤ v) : ∀ c, Tc w c ≤ Tc v c
 | 0=>h
 | c + 1=>by have:=Td h c; simp only [Tc]; omega
def sI (r:List Qi) (w:Nat):Prop:=∃ d:Qi,d ≠ 0 ∧ Gb d (BB ^ w) ∧ ∀ j,Gb (d * gv r j) (BB ^ w)
theorem sI.le {r:List Qi} {w v:Nat} (h:sI r w) (k:w ≤ v):sI r v:=by
 obtain ⟨d,d0,dg,dj⟩:=h
 have hp:BB ^ w ≤ BB ^ v:=Nat.pow_le_pow_right dR k
 exact ⟨d,d0,dg.le hp,fun j=>(dj j).le hp⟩
theorem Io (w:Nat):2 * BB ^ w * BB ^ w + 2 * BB ^ w * BB ^ w ≤ BB ^ (2 * w + 1):=by
 have e:BB ^ (2 * w + 1) = BB ^ w * BB ^ w * BB:=by rw [Nat.pow_succ,Nat.two_mul,Nat.pow_add]
 rw [e,Nat.mul_assoc 2,← Nat.two_mul,← Nat.mul_assoc 2 2,Nat.mul_comm (2 * 2)]
 exact Nat.mul_le_mul_left _ (by decide)
theorem Qk {l:List Qi} {j:Nat} (h:l.length ≤ j):gv l j = 0:=by simp [gv,List.getD,List.getElem?_eq_none h]; rfl
theorem Ka (N:Nat):Gb 0 N:=⟨0,0,Qi.ext' rfl rfl,by simp,by simp⟩
theorem sI.red {rr rc:List Qi} {c w:Nat} {P:Nat → Prop} [DecidablePred P] (h1:sI rr w) (h2:sI rc w) (hp:gv rc c ≠ 0):sI (tab rr.length fun j=>if P j then gv rr j - gv rr c / gv rc c * gv rc j else gv rr j) (2 * w + 1):=by
 obtain ⟨d,d0,dg,dj⟩:=h1
 obtain ⟨e,e0,eg,ej⟩:=h2
 have t:=Io w
 refine ⟨d * (e * gv rc c),fun k=>?_,(dg.mul (ej c)).le zo,fun j=>?_⟩
 ·rcases jH k with k | k
  ·exact d0 k
  ·rcases jH k with k | k
   ·exact e0 k
   ·exact hp k
 ·by_cases hj : j < rr.length
  ·rw [oQ hj]
   by_cases hP:P j
   ·rw [if_pos hP]
    have hd:=xN (x:=gv rr c) hp
    have ee : d * (e * gv rc c) * (gv rr j - gv rr c / gv rc c * gv rc j) = d * gv rr j * (e * gv rc c) - d * gv rr c * (e * gv rc j) := by
     have e2:d * (e * gv rc c) * (gv rr c / gv rc c * gv rc j) = d * (gv rr c / gv rc c * gv rc c) * (e * gv rc j):=by grind
     rw [hd] at e2
     grind
    rw [ee]
    exact (((dj j).mul (ej c)).sub ((dj c).mul (ej j))).le t
   ·rw [if_neg hP]
    have ee:d * (e * gv rc c) * gv rr j = d * gv rr j * (e * gv rc c):=by grind
    rw [ee]
    exact ((dj j).mul (ej c)).le zo
  ·rw [Qk (l := tab rr.length fun j => if P j then gv rr j - gv rr c / gv rc c * gv rc j else gv rr j) (by rw [bC]; omega)]
   have ee:d * (e * gv rc c) * 0 = 0:=by grind
   rw [ee]; exact Ka _
theorem sI.fit {r : List Qi} {w : Nat} (h : sI r w) : cD r (4 * (w + 1) + 2) := fun x hx => by
 obtain ⟨d,d0,dg,dj⟩:=h
 obtain ⟨j,hj,e⟩:=List.getElem_of_mem hx
 have e2:gv r j = x:=by simp [gv,List.getD,hj,e]
 have hlt:BB ^ w < BB ^ (w + 1):=Nat.pow_lt_pow_right (by decide) zo
 have f1:aI (d * gv r j) (w + 1):=(dj j).fit hlt zo
 have f2:aI d (w + 1):=dg.fit hlt zo
 have f3:aI (d * gv r j / d) (w + 1 + 3 * (w + 1) + 2):=vX f1 f2 d0
 rw [uN (z:=x) d0 (by rw [e2]; grind)] at f3
 exact f3.le zo
theorem Xs {r:List Qi} {m L:Nat} (hl:r.length = m) (h:cD r L) (hL:1 ≤ L):sI r (m * L):=by
 obtain ⟨d,d0,dl,dj⟩:=Dc (L:=L) (x:=gv r) m fun j _=>h.get hL j
 refine ⟨Qi.ofInt d,Fg d0,⟨d,0,Qi.ext' rfl (by show (0:Rat) = ((0:Int):Rat); rfl),by simpa using dl,by simp⟩,fun j=>?_⟩
 by_cases hj:j < m
 ·exact dj j hj
 ·rw [Qk zo]
  have ee:Qi.ofInt d * 0 = 0:=by grind
  rw [ee]; exact Ka _
abbrev mD (M:List (List Qi)) (w:Nat):Prop:=∀ r,r ∈ M → sI r w
theorem mD.row {M : List (List Qi)} {w i : Nat} (h : mD M w) (hi : i < M.length) : sI (dP M i) w := h _ (by
 rw [show dP M i = M[i] by simp [dP,List.getD,hi]]; exact List.getElem_mem hi)
theorem Sb {M:List (List Qi)} {n m L:Nat} (hs:cI M n m) (h:aS M L) (hL:1 ≤ L):mD M (m * L):=fun r hr=>Xs (hs.2 r hr) (h r hr) hL
theorem mD.swp {M : List (List Qi)} {w p c : Nat} (h : mD M w) (hp : p < M.length) (hc : c < M.length) : mD (swp [] M p c) w := fun x hx => by
 unfold Go.Proofs.YthcmlodgnfekeaaGreat.swp at hx
 rcases List.mem_or_eq_of_mem_set hx with h1 | h1
 ·rcases List.mem_or_eq_of_mem_set h1 with h2 | h2
  ·exact h x h2
  ·rw [h2]; exact h.row hc
 ·rw [h1]; exact h.row hp
theorem mD.redM {M : List (List Qi)} {w c r : Nat} (h : mD M w) (hc : c < M.length) (hp : gm M c c ≠ Qi.zero) : mD (redM M c r) (2 * w + 1) := fun x hx => by
 obtain ⟨i,hi,rfl⟩:=iL.1 hx
 show sI (if c < i ∧ i < r then jV (dP M i) (dP M c) c (dP M i).length else dP M i) _
 split
 ·exact (h.row hi).red (h.row hc) hp
 ·exact (h.row hi).le zo
theorem mD.redJ {M : List (List Qi)} {w c r : Nat} (h : mD M w) (hc : c < M.length) (hp : gm M c c ≠ Qi.zero) : mD (redJ M c r) (2 * w + 1) := fun x hx => by
 obtain ⟨i,hi,rfl⟩:=iL.1 hx
 show sI (if i ≠ c ∧ i < r then vG (dP M i) (dP M c) c (dP M i).length else dP M i) _
 split
 ·exact (h.row hi).red (h.row hc) hp
 ·exact (h.row hi).le zo
theorem Ap {M : List (List Qi)} {n m w : Nat} (hs : cI M n m) (h : mD M w) : ∀ {c : Nat}, c ≤ n → mD (bL M c).1 (Tc w c)
 | 0,_=>h
 | c + 1, hc => by
  have ih:=Ap hs h (c:=c) zo
  have sh:=mZ hs (c:=c) zo
  obtain ⟨_,i2,i3,i4⟩:=lM (M:=(bL M c).1) (c:=c) (n:=M.length) (by rw [hs.1]; omega)
  have hml:=hs.1
  have hel:=sh.1
  simp only [bL,Tc]
  split
  ·exact fun r hr=>(ih r hr).le zo
  ·split
   ·exact fun r hr=>(ih r hr).le zo
   ·rename_i e
    split
    ·rename_i e2
     refine mD.redM ih zo ?_
     have:=i4 zo
     rw [e2] at this; exact this
    ·refine mD.redM (ih.swp zo zo) (by rw [wQ]; omega) ?_
     show gv (dP (swp [] _ _ c) c) c ≠ _
     rw [uX (by rw [sh.1]; omega)]
     exact i4 zo
def stG (w n:Nat):Nat:=4 * (Tc w n + 1) + 2
theorem Vl {M : List (List Qi)} {n m L c : Nat} (hs : cI M n m) (hM : aS M L) (hL : 1 ≤ L) (hc : c ≤ n) : aS (bL M c).1 (stG (m * L) n) := fun r hr =>
 ((Ap hs (Sb hs hM hL) hc r hr).le (zH _ hc)).fit
theorem Jd {U : List (List Qi)} {n i : Nat} : ∀ {k j : Nat}, j + k ≤ n → n - j ≤ i → gv (lG U n (j + k)) i = gv (lG U n j) i
 | 0,_,_,_=>rfl
 | k + 1, j, h, hi => by
  rw [show j + (k + 1) = (j + k) + 1 by omega,lG,gv,List.getD,List.getElem?_set_ne zo]
  exact Jd (k:=k) zo hi
theorem Je {U : List (List Qi)} {n i : Nat} : ∀ {j : Nat}, j ≤ n → i < n - j → gv (lG U n j) i = 0
 | 0,_,h=>by rw [lG,oQ zo]; rfl
 | j + 1, hj, h => by
  rw [lG,gv,List.getD,List.getElem?_set_ne zo]
  exact Je (j:=j) zo zo
theorem Tz {M : List (List Qi)} {b : List Qi} {n j X : Nat} (hX : 1 ≤ X) (h : cD (lY M b n) X) (hj : j ≤ n) : cD (lG (pC M b n).1 n j) X := fun x hx => by
 obtain ⟨i,hi,e⟩:=List.getElem_of_mem hx
 have e2:gv (lG (pC M b n).1 n j) i = x:=by simp [gv,List.getD,hi,e]
 rw [qM] at hi
 rw [← e2]
 by_cases c:n - j ≤ i
 ·have k := Jd (U := (pC M b n).1) (n := n) (k := n - j) (j := j) zo c
  rw [show j + (n - j) = n by omega] at k
  rw [← k]; exact h.get hX i
 ·rw [Je hj zo]; exact aI.zero hX
structure SzS (M:List (List Qi)) (b:List Qi) (n G X:Nat):Prop where
 st:∀ c,c ≤ n → aS (bL (iR M [b] n) c).1 G
 bk:mL M b n = 0 → ∀ j,j ≤ n → cD (lG (pC M b n).1 n j) X
 g1:1 ≤ G
 x1:1 ≤ X
 g:6 * G + 4 ≤ 17592186044415
 x:n * (X + G + 2) + 4 * G + 2 ≤ 17592186044415
theorem SzS.old {M:List (List Qi)} {b:List Qi} {n L:Nat} (hM:cI M n n) (hf:aS M L) (hfb:cD b L) (hL:1 ≤ L) (hg:6 * pT L n + 4 ≤ 17592186044415) (hx:Lg (pT L n) (n + 1) ≤ 17592186044415):SzS M b n (pT L n) (Lg (pT L n) n):=by
 have hcs:cI (iR M [b] n) n (n + 1):=kH hM
 have hcf:aS (iR M [b] n) L:=qP hf (fun r hr=>by simp at hr; subst hr; exact hfb) hL
 have hG1:1 ≤ pT L n:=Nat.le_trans hL (wC L n)
 refine ⟨fun c hc=>(xQ hcs hcf hL hc).le (qS L hc),fun hE j hj=>?_,hG1,Nat.le_trans hG1 (Iq _ _),hg,hx⟩
 have hst:¬ 0 ≤ (pC M b n).2.2:=fun h=>by rw [mL,if_pos h] at hE; omega
 have hf2:=Oj (Si hM hf hfb hL) hG1 (oC hcs (Nat.le_refl n) (Kw hst)) j hj
 exact fun y hy=>(hf2 y hy).le (Gd _ hj)
theorem qU {M : List (List Qi)} {n G X : Nat} (hz : ∀ i, i < n → SzS M (ek n i) n G X) (hE : pH M n = 0) : aS (nD M n) X := fun r hr => by
 obtain ⟨i,_,rfl⟩:=iL.1 hr
 exact cD.tab fun j hj=>((hz j hj).bk (Ew hE j hj) n (Nat.le_refl n)).get (hz j hj).x1 i
structure SzJ (M:List (List Qi)) (b:List Qi) (n G:Nat):Prop where
 st:∀ c A,c ≤ n → Mf (iR M [b] n) c = some A → aS A G
 g1:1 ≤ G
 g:6 * G + 4 ≤ 17592186044415
theorem SzJ.old {M : List (List Qi)} {b : List Qi} {n L : Nat} (hM : cI M n n) (hf : aS M L) (hfb : cD b L) (hL : 1 ≤ L) (hg : 6 * pT L n + 4 ≤ 17592186044415) : SzJ M b n (pT L n) :=
 ⟨fun _ _ hc hA=>(Qg (show cI (iR M [b] n) n (n + 1) from kH hM) (Nat.le_succ n) (qP hf (fun r hr=>by simp at hr; subst hr; exact hfb) hL) hL hc hA).le (qS L hc),Nat.le_trans hL (wC L n),hg⟩
theorem Qd {n:Nat} (hn:n ≤ 8):∀ N,1 ≤ N → fs n N ≤ (2 * 8 * (2 * 7 * (2 * 6 * (2 * 5 * 1610612736 * 4 ^ 15) * 4 ^ 31) * 4 ^ 63) * 4 ^ 127) * N ^ 255:=by
 have h6:∀ N,1 ≤ N → fs 6 N ≤ (2 * 6 * (2 * 5 * 1610612736 * 4 ^ 15) * 4 ^ 31) * N ^ 63:=fun N hN=>Qe (Nat.le_refl 6) N hN
 have h7:∀ N,1 ≤ N → fs 7 N ≤ (2 * 7 * (2 * 6 * (2 * 5 * 1610612736 * 4 ^ 15) * 4 ^ 31) * 4 ^ 63) * N ^ 127:=wA h6
 have h8:∀ N,1 ≤ N → fs 8 N ≤ (2 * 8 * (2 * 7 * (2 * 6 * (2 * 5 * 1610612736 * 4 ^ 15) * 4 ^ 31) * 4 ^ 63) * 4 ^ 127) * N ^ 255:=wA h7
 by_cases a:n ≤ 6
 ·exact vY (Qe a) (by decide) (by decide)
 ·by_cases b : n = 7
  ·subst b; exact vY h7 (by decide) (by decide)
  ·obtain rfl : n = 8 := by omega
   exact h8
theorem Et {n e K:Nat} (hn:n ≤ 8) (he:e * 255 + 17 = K):fs n (BB ^ e) < BB ^ K:=by
 refine Nat.lt_of_le_of_lt (Qd hn _ (Nat.pow_pos dR)) ?_
 rw [← Nat.pow_mul]
 exact Hz he (by show _ < 4294967296 ^ 17; decide)
def tZ (L:Nat):Nat:=4 * (9 * L * 255 + 17) + 2
def Kx (L:Nat):Nat:=stG (9 * L) 8
theorem Sh {M : List (List Qi)} {b : List Qi} {n L : Nat} (h : cI M n n) (hM : aS M L) (hb : cD b L) (hL : 1 ≤ L) (hn : n ≤ 8) (hE : mL M b n = 0) : cD (lY M b n) (tZ L) :=
 Sk (m:=8) (K:=9 * L * 255 + 17) h hM hb hL hn (Et (e:=(8 + 1) * L) (K:=9 * L * 255 + 17) hn zo) zo hE
theorem Ij (L:Nat):Kx L = 9216 * L + 1026:=by simp only [Kx,stG,Tc]; omega
theorem a13 (L:Nat) (h:L ≤ 10000000):4 * (9 * L * 255 + 17) + 2 + (9216 * L + 1026) + 2 ≤ 200000000000:=by omega
theorem a14 (L:Nat) (h:L ≤ 10000000):4 * (9216 * L + 1026) + 2 ≤ 400000000000:=by omega
theorem a15 (n A B:Nat) (hn:n ≤ 8) (hA:A ≤ 200000000000) (hB:B + 2 ≤ 400000000000):n * A + B + 2 ≤ 17592186044415:=by
 have:n * A ≤ 8 * A:=Nat.mul_le_mul_right _ hn
 omega
theorem a16 (n L:Nat) (hn:n ≤ 8) (h:L ≤ 10000000):n * (tZ L + Kx L + 2) + 4 * Kx L + 2 ≤ 17592186044415:=by
 rw [Ij,tZ]
 exact a15 n _ _ hn (a13 L h) (a14 L h)
theorem a17 (L:Nat) (h:L ≤ 10000000):6 * Kx L + 4 ≤ 17592186044415:=by rw [Ij]; omega
theorem a18 (L:Nat):1 ≤ Kx L:=by rw [Ij]; omega
theorem Sr (L:Nat):1 ≤ tZ L:=by unfold tZ; omega
theorem Fy {M:List (List Qi)} {b:List Qi} {n L:Nat} (h:cI M n n) (hM:aS M L) (hb:cD b L) (hL:1 ≤ L) (hLb:L ≤ 10000000) (hn:n ≤ 8):SzS M b n (Kx L) (tZ L):=by
 have hcs:cI (iR M [b] n) n (n + 1):=kH h
 have hcf:aS (iR M [b] n) L:=qP hM (fun r hr=>by simp at hr; subst hr; exact hb) hL
 have hle : stG ((n + 1) * L) n ≤ Kx L := by
  have hw:(n + 1) * L ≤ 9 * L:=Nat.mul_le_mul_right _ zo
  have h1:=Td hw n
  have h2:=zH (9 * L) hn
  simp only [stG,Kx]; omega
 exact ⟨fun c hc=>(Vl hcs hcf hL hc).le hle,fun hE j hj=>Tz (Sr L) (Sh h hM hb hL hn hE) hj,a18 L,Sr L,a17 L hLb,a16 n L hn hLb⟩
end
section
open Go Go.RowKit
def sq (n:Nat) (x y:Nat → Qi) (C:Nat → Nat → Qi):Qi:=bB n fun a=>bB n fun b=>(x a).conj * C a b * y b
section
variable {n:Nat} {x y z x' y':Nat → Qi} {C C':Nat → Nat → Qi}
end
section
variable {h:List (List Qi)} {n:Nat}
def ei (i:Nat) (v:Qi) (a:Nat):Qi:=if a = i then v else 0
def mk (i:Nat) (y:Nat → Qi) (r:Nat):Qi:=if i ≤ r then y r else 0
end
end
section
open Go Go.RowKit
theorem a0U {s f:List (List Qi)} {p n i j:Nat} (hi:i < n) (hj:j < n):gm (a0V s f p n) i j = Tg s f p i j:=nC hi hj
theorem nA {s f:List (List Qi)} {p n i j:Nat} (hi:i < n) (hj:j < n):gm (eB s f p n) i j = oO s f p i j:=nC hi hj
theorem Hi {x : Qi} (h : x ≠ 0) : Qi.inv x ≠ 0 := fun e => by
 have a:=gI h
 rw [e] at a
 have b:(0:Qi) = 1:=by rw [← a]; grind
 have:=congrArg Qi.re b; revert this; decide
theorem oW {x y : Qi} (hx : x ≠ 0) (hy : y ≠ 0) : x * y ≠ 0 := fun e => by
 rcases jH e with h | h
 ·exact hx h
 ·exact hy h
section
variable {s f:List (List Qi)} {p n:Nat}
theorem Xr (hp:p < n) (hD:jS s f p ≠ 0) (h1:gm f 0 1 ≠ 0) (h2:gm f 1 0 ≠ 0):rO (eB s f p n) f p = gm f 0 1 * gm f 1 0 * Qi.inv (jS s f p):=by
 have u:=gI hD
 rw [rO,nA hp hp,oO,if_pos ⟨rfl,rfl⟩,Qi.div_def]
 have e:jS s f p = 1 - gm f 1 1 * gm s p p:=rfl
 generalize Qi.inv (jS s f p) = v at u ⊢
 rw [e] at u
 clear e hD h1 h2 hp
 grind
theorem a1S (hs:cI s n n) (hp:p < n) (hD:jS s f p ≠ 0) (h1:gm f 0 1 ≠ 0) (h2:gm f 1 0 ≠ 0):rO (eB s f p n) f p ≠ 0 ∧ a0V (eB s f p n) f p n = s:=by
 have hd:=Xr hp hD h1 h2
 have hi:=Hi hD
 have hne:rO (eB s f p n) f p ≠ 0:=by rw [hd]; exact oW (oW h1 h2) hi
 refine ⟨hne,qV cI.tab hs fun i hi' j hj'=>?_⟩
 have u:=gI hD
 rw [a0U hi' hj',Tg]
 by_cases a:i = p
 ·by_cases b : j = p
  ·rw [if_pos ⟨a, b⟩, a, b]
   refine uN hne ?_
   rw [hd,nA hp hp,oO,if_pos ⟨rfl,rfl⟩,Qi.div_def]; grind
  ·rw [if_neg (fun k => b k.2), if_neg b, if_pos a, a]
   have e : gm (eB s f p n) p j / rO (eB s f p n) f p = gm s p j * Qi.inv (gm f 1 0) := by
    have w:=gI h2
    refine uN hne ?_
    rw [hd,nA hp hj',oO,if_neg (fun k=>b k.2),if_neg b,if_pos rfl,Qi.div_def]
    generalize Qi.inv (jS s f p) = v
    generalize Qi.inv (gm f 1 0) = q at w ⊢
    clear u hne hi hd hD
    have e2:gm s p j * q * (gm f 0 1 * gm f 1 0 * v) = gm s p j * (gm f 1 0 * q) * gm f 0 1 * v:=by grind
    rw [e2,w]; grind
   rw [e]
   have w:=gI h2
   grind
 ·by_cases b : j = p
  ·rw [if_neg (fun k => a k.1), if_pos b, b]
   have e : gm (eB s f p n) i p / rO (eB s f p n) f p = gm s i p * Qi.inv (gm f 0 1) := by
    have w:=gI h1
    refine uN hne ?_
    rw [hd,nA hi' hp,oO,if_neg (fun k=>a k.1),if_pos rfl,Qi.div_def]
    generalize Qi.inv (jS s f p) = v
    generalize Qi.inv (gm f 0 1) = q at w ⊢
    clear u hne hi hd hD
    have e2:gm s i p * q * (gm f 0 1 * gm f 1 0 * v) = gm s i p * (gm f 0 1 * q) * gm f 1 0 * v:=by grind
    rw [e2,w]; grind
   rw [e]
   have w:=gI h1
   grind
  ·rw [if_neg (fun k => a k.1), if_neg b, if_neg a]
   have e : gm (eB s f p n) i p / rO (eB s f p n) f p = gm s i p * Qi.inv (gm f 0 1) := by
    have w:=gI h1
    refine uN hne ?_
    rw [hd,nA hi' hp,oO,if_neg (fun k=>a k.1),if_pos rfl,Qi.div_def]
    generalize Qi.inv (jS s f p) = v
    generalize Qi.inv (gm f 0 1) = q at w ⊢
    clear u hne hi hd hD
    have e2:gm s i p * q * (gm f 0 1 * gm f 1 0 * v) = gm s i p * (gm f 0 1 * q) * gm f 1 0 * v:=by grind
    rw [e2,w]; grind
   rw [e,nA hi' hj',nA hp hj',oO,oO,if_neg (fun k=>a k.1),if_neg b,if_neg a,if_neg (fun k=>b k.2),if_neg b,if_pos rfl,Qi.div_def,Qi.div_def]
   have w:=gI h1
   generalize Qi.inv (jS s f p) = v
   generalize Qi.inv (gm f 0 1) = q at w ⊢
   clear u hne hi hd hD e
   have e2:gm s i p * q * (gm f 1 1 * (gm f 0 1 * (gm s p j * v))) = gm s i p * (gm f 0 1 * q) * (gm f 1 1 * gm s p j * v):=by grind
   rw [e2,w]; grind
end
section
variable {z fz:List Qi} {s f:List (List Qi)} {p n:Nat} (hz:z.length = n) (hfl:fz.length = 2) (hp:p < n) (hpz:gv fz 1 = gv z p)
end
end
section
open Go Go.RowKit
section
variable {z fz:List Qi} {s f:List (List Qi)} {t:Qi} {p n:Nat}
end
def nV (n:Nat):List Qi:=tab n fun _=>Qi.ofInt 1
def Ml (l:List Rt) (j:Nat):Qi:=if l.length = 0 then Qi.zero else (l.getD (j % l.length) Xl).q
def Nl (n:Nat) (l:List Rt):List (List Qi):=tab n fun i=>tab n fun k=>Ml l (n * i + k)
theorem oX (n:Nat):(nV n).length = n:=bC _ _
theorem wJ (n:Nat):cD (nV n) 2:=cD.tab fun _ _=>tA.le (by decide)
theorem Cr (n : Nat) (l : List Rt) : aS (Nl n l) 2 := aS.tab fun i k _ _ => by
 unfold Ml; split
 ·exact aI.zero (by decide)
 ·exact fitRt
theorem qW (n:Nat) (l:List Rt):cI (Nl n l) n n:=cI.tab
theorem Wq (n:Nat):(nV n).all nG = true:=by
 rw [List.all_eq_true]
 intro x hx
 obtain ⟨_,_,rfl⟩:=iL.1 hx
 decide +kernel
theorem a0A {n:Nat} (l:List Rt) (h1:1 ≤ n) (h8:n ≤ 8):iU (nV n) (Nl n l) = 0:=by
 have hs:=qW n l
 have hl:=oX n
 rw [iU,if_neg,if_pos (Wq n)]
 rintro (h | h | h | h)
 ·omega
 ·omega
 ·exact h (by rw [hs.1,hl])
 ·obtain ⟨x, hx, h2⟩ := List.any_eq_true.1 h
  simp [hs.2 x hx,hl] at h2
theorem Qu {α : Type} {f : Nat → α} {z : α} {n k : Nat} (h : f k = z) : lR f z n (k + 1) = lR f z n k := gC fun i _ => by
 by_cases a:i < k
 ·rw [if_pos a,if_pos zo]
 ·rw [if_neg a]
  by_cases b:i = k
  ·rw [if_pos zo,b,h]
  ·rw [if_neg zo]
end
section
open Go Go.RowKit
def Tf (r:Rt):Bool:=decide (((-1000 ≤ r.re ∧ r.re ≤ 1000) ∧ (-1000 ≤ r.im ∧ r.im ≤ 1000)) ∧ (-1000 ≤ r.den ∧ r.den ≤ 1000))
def smB (l:List Rt):Bool:=l.all Tf && decide (l.length ≤ 100)
theorem Xz {l:List Rt} {k:Nat} (hk:k < l.length) (h:Tf (l.getD k default) = false):smB l = false:=by
 have hm:l.getD k default ∈ l:=by rw [show l.getD k default = l[k] by simp [List.getD,hk]]; exact List.getElem_mem hk
 have : l.all Tf = false := by
  rw [List.all_eq_false]; exact ⟨_,hm,by rw [h]; simp⟩
 rw [smB,this]; rfl
theorem Xy {l:List Rt} (h:∀ k,k < l.length → Tf (l.getD k default) = true):smB l = decide (l.length ≤ 100):=by
 have : l.all Tf = true := by
  rw [List.all_eq_true]
  intro x hx
  obtain ⟨k,hk,e⟩:=List.getElem_of_mem hx
  have:=h k hk
  rwa [show l.getD k default = x by simp [List.getD,hk,e]] at this
 rw [smB,this]; rfl
theorem xH {l:List Rt} (hl:l.length ≤ 9223372036854775807):bA Tryz.prog 37 [Ab l] (aD (smB l)):=by
 refine bA.intro Tryz.func37 rfl Tryz.ntmps37 rfl (fun cx=>(ts (ro rfl (cQ cV) (eX (cK (ts (rm rfl (ro rfl (dK U_77 (Ht rfl) aC) (ro rfl (cX (cJ 0)) (eX (eG ?_)))))))))))
 refine eL (fun (k : Nat) => k ≤ l.length ∧ ∀ j, j < k → Tf (l.getD j default) = true) (fun (k : Nat) => l.length - k) (fun (k : Nat) => [(0, Ab l), (5, Ab l), (6, NT .i64 l.length), (7, NT .i64 k)]) (fun (k : Nat) => []) 0 ⟨Nat.zero_le _, fun j h => by omega⟩
  (zS rfl) aY (fun k ⟨hk,hr⟩=>?_)
 refine ts (ro rfl (gJ (Ht rfl) (Ht rfl)) (eX (cK (dQ (Ht rfl) (fun hd=>?_) (fun hd=>?_)))))
 ·have hkl : k < l.length := by simp only [decide_eq_true_eq] at hd; omega
  obtain ⟨r,hrr⟩:∃ r,r = l.getD k default:=⟨_,rfl⟩
  refine cU (cK (eG (ts (ro rfl (dZ U_77 Z_23 (Ht rfl) (Ht rfl) rfl (eQ (show l[k]? = some r by rw [hrr]; exact dY (d:=default) hkl))) (ro rfl (dV Tryz.isAgg23 Z_23 (Ht rfl)) (rn rfl (eW (Ts:=[Is (.int .i64 0),Is (.int .i64 0),Is (.int .i64 0)]) Tryz.zeroValue23 rfl (fun V=>aW zd (aW zd (aW zd (aG))))) fun B4=>(gZ Z_23 (Ht rfl) (Ht rfl) rfl (i:=0) rfl (aK rfl) rfl rfl (eX (ts (ro rfl (eZ Ch (Ht rfl) rfl) ?_))))))))))
  refine ro rfl (eY A_2 Z_2 (Ht rfl) (i:=0) rfl rfl) (ro rfl (sA (Ht rfl) cV) (rm rfl (fQ rfl rfl (eK rfl rfl (Ht rfl) (fun h=>eZ Ch (Ht rfl) rfl)) (fQ rfl rfl (eK rfl rfl (Ht rfl) (fun h=>eY A_2 Z_2 (fV rfl h) (i:=0) rfl rfl)) (fQ rfl rfl (eK rfl rfl (Ht rfl) (fun h=>yG (fV rfl h) cV)) (ro rfl (iF (Ht rfl) (fun h=>(fV rfl h))) (rm rfl (fQ rfl rfl (eK rfl rfl (Ht rfl) (fun h=>eZ Ci (Ht rfl) rfl)) (fQ rfl rfl (eK rfl rfl (Ht rfl) (fun h=>eY A_2 Z_2 (fV rfl h) (i:=0) rfl rfl)) ?_)))))))))
  refine fQ rfl rfl (eK rfl rfl (Ht rfl) (fun h=>sA (fV rfl h) cV)) (ro rfl (iF (Ht rfl) (fun h=>(fV rfl h))) (rm rfl (fQ rfl rfl (eK rfl rfl (Ht rfl) (fun h=>eZ Ci (Ht rfl) rfl)) (fQ rfl rfl (eK rfl rfl (Ht rfl) (fun h=>eY A_2 Z_2 (fV rfl h) (i:=0) rfl rfl)) (fQ rfl rfl (eK rfl rfl (Ht rfl) (fun h=>yG (fV rfl h) cV)) (ro rfl (iF (Ht rfl) (fun h=>(fV rfl h))) (rm rfl (fQ rfl rfl (eK rfl rfl (Ht rfl) (fun h=>eZ sZ (Ht rfl) rfl)) (fQ rfl rfl (eK rfl rfl (Ht rfl) (fun h=>eY A_2 Z_2 (fV rfl h) (i:=0) rfl rfl)) ?_)))))))))
  refine fQ rfl rfl (eK rfl rfl (Ht rfl) (fun h=>sA (fV rfl h) cV)) (ro rfl (iF (Ht rfl) (fun h=>(fV rfl h))) (rm rfl (fQ rfl rfl (eK rfl rfl (Ht rfl) (fun h=>eZ sZ (Ht rfl) rfl)) (fQ rfl rfl (eK rfl rfl (Ht rfl) (fun h=>eY A_2 Z_2 (fV rfl h) (i:=0) rfl rfl)) (fQ rfl rfl (eK rfl rfl (Ht rfl) (fun h=>yG (fV rfl h) cV)) (ro rfl (iF (Ht rfl) (fun h=>(fV rfl h))) (eX (dQ (Ht rfl) (fun he=>?_) (fun he=>?_)))))))))
  ·have hb : Tf r = false := by
    simp only [Bool.or_eq_true,decide_eq_true_eq] at he
    rw [Tf,decide_eq_false_iff_not]; omega
   rw [hrr] at hb
   refine ts (ro rfl (cQ cV) (eX (fG rfl (fZ (eU rfl) ?_))))
   exact (fE (Xz hkl hb).symm)
  ·have hb : Tf r = true := by
    simp only [Bool.or_eq_false_iff,decide_eq_false_iff_not] at he
    rw [Tf,decide_eq_true_eq]; omega
   rw [hrr] at hb
   refine cU (cF (cY (ro rfl (dW (Ht rfl) (cJ 1) z6) (rm rfl (eX (cC [] rfl (by decide) ?_))))))
   refine gQ (k + 1) ⟨hkl, fun j h => by
     by_cases e:j = k
     ·rw [e]; exact hb
     ·exact hr j zo⟩ zo (zS rfl) aY
 ·have hkl : k = l.length := by simp only [decide_eq_false_iff_not] at hd; omega
  refine gG rfl (ts (rm rfl (ro rfl (dK U_77 (Ht rfl) aC) (ro rfl (tK (Ht rfl) (cJ 100)) (ra rfl (eX (fG rfl (fZ (eU rfl) ?_))))))))
  exact (fE (by rw [Xy fun j h=>hr j zo]))
theorem a0c {n:Nat} (hn:n ≤ 8):bA Tryz.prog 116 [NT .i64 n] (bP (nV n)):=by
 refine bA.intro Tryz.func116 rfl Tryz.ntmps116 rfl (fun cx=>(ts (ro rfl (cQ cV) (eX (ts (rm rfl (rn rfl (mP (T:=aE Qi.zero) (i:=Tryz.t32) jW iJ rfl rfl (Ht rfl) rfl iV (El.ag rfl) (by show 88 * _ ≤ _; omega) zo) fun B6=>(ra rfl (eX (cK (ts (rm rfl (ro rfl (oY U_54 (Ht rfl) (i:=0) rfl (show ((List.replicate n (aE Qi.zero)).length:Int) = ((n:Nat):Int) from by simp)) (ro rfl (cX (cJ 0)) (eX (eG ?_))))))))))))))))
 refine eL (fun (k : Nat) => k ≤ n) (fun (k : Nat) => n - k) (fun (k : Nat) => [(3, Is B6), (8, NT .i64 n), (9, NT .i64 k)]) (fun (k : Nat) => [bN 32 5 B6 ((lR (fun _ => Qi.ofInt 1) Qi.zero n k).map aE)]) 0 (Nat.zero_le _)
  (zS rfl) (aU (cA (by rw [← lS]; exact wS aE _)) aY) (fun k hi=>?_)
 refine ts (ro rfl (gJ (Ht rfl) (Ht rfl)) (eX (cK (dQ (Ht rfl) (fun hc=>?_) (fun hc=>?_)))))
 ·have hin : k < n := by simp only [decide_eq_true_eq] at hc; omega
  refine cU (cK (eG (ts (rm rfl (ra rfl (eX (cY (rm rfl (rm rfl (ro rfl (cZ K_36 (vC (n:=1) (by decide) (by decide)) ⟨(cJ 1),trivial⟩) (ro rfl (iX U_54 Z_32 (Ht rfl) (Ht rfl) rfl (i:=0) rfl (by rw [List.length_map,gL]; omega) rfl) ?_)))))))))))
  refine rF Z_32 (Ht rfl) (Ht rfl) (El.ag rfl) (i:=0) rfl rfl (by rw [List.length_map,gL]; omega) rfl ?_
  refine eX (cF (cY (ro rfl (dW (Ht rfl) (cJ 1) z6) (rm rfl (eX (gQ (k + 1) hin zo (zS rfl) (aU (cA (by rw [kB]; exact congrArg _ (nS (f:=(fun _=>Qi.ofInt 1))))) aY)))))))
 ·obtain rfl : n = k := by simp only [decide_eq_false_iff_not] at hc; omega
  rw [nR,show tab n (fun _=>Qi.ofInt 1) = nV n from rfl]
  refine gG rfl (cK (gW (i:=0) (tt:=3) rfl rfl kN (cY (rm rfl (ra rfl (eX ?_))))))
  exact fG rfl (eU rfl)
theorem Hb {n:Nat} {l:List Rt} (h1:1 ≤ n) (h4:n ≤ 4):bA Tryz.prog 39 [NT .i64 n,Ab l] (fB [fA (nV n) (Nl n l),bF (Nl n l)]):=by
 have hnw : bA Tryz.prog 98 [bP (nV n), bF (Nl n l)] (fB [fA (nV n) (Nl n l), aF .i64 0]) := by
  have h:=Pg (z:=nV n) (s:=Nl n l) (L:=2) (wJ n) (by decide) (by rw [oX]; omega) (by rw [(qW n l).1]; omega)
  rw [a0A l h1 zo] at h; exact h
 refine bA.intro Tryz.func39 rfl Tryz.ntmps39 rfl (fun cx=>(ts (rn rfl (eW (Ts:=[Is (.slice none 0 0),Is (.slice none 0 0)]) O_80 rfl (fun V=>aW zd (aW zd (aG)))) fun B4=>(ro rfl (cQ cV) (eX (ts (rm rfl (rn rfl (gN (T:=Is (.slice none 0 0)) (i:=Tryz.t54) V_78 mH rfl rfl (Ht rfl) rfl (fun _=>rfl) trivial (by show 24 * _ ≤ _; omega) zo) fun B12=>(ra rfl (eX (cK (ts (rm rfl (ro rfl (iK U_78 (Ht rfl)) (ro rfl (cX (cJ 0)) ?_)))))))))))))))
 refine eX (eG (mB 1 rfl (oT (e:=32) (s:=5)) (cC [0,1] rfl (by decide) ?_)))
 refine eL (fun (i : Nat) => i ≤ n) (fun (i : Nat) => n - i) (fun (i : Nat) => [(0, NT .i64 n), (1, Ab l), (4, eH B4 0), (6, Is (.slice (some ⟨B12, 0, none⟩) n n)), (14, NT .i64 n), (15, NT .i64 i)]) (fun (i : Nat) => [box B4 80 [Is (.slice none 0 0), Is (.slice none 0 0)], nL B12 54 32 5 (dD aE (lR (fun i => tab n fun k => Ml l (n * i + k)) [] n i))]) 0 (Nat.zero_le _)
  (zS rfl) (aU (aP rfl) (aU (dO (by rw [← lS,mS]; exact lW aE _)) aY)) (fun i hi=>?_)
 refine ts (ro rfl (gJ (Ht rfl) (Ht rfl)) (eX (cK (dQ (Ht rfl) (fun hd=>?_) (fun hd=>?_)))))
 ·have hin : i < n := by simp only [decide_eq_true_eq] at hd; omega
  refine cU (cK (eG (ts (rm rfl (ra rfl (eX (cK (nN 1 (i) rfl (pQ hin) (fun v0=>(cY (rm rfl (rm rfl (rm rfl (rn rfl (mP (T:=aE Qi.zero) (i:=Tryz.t32) jW iJ rfl rfl (Ht rfl) rfl iV (El.ag rfl) (by show 88 * _ ≤ _; omega) zo) fun B21=>(ro rfl (gX U_78 Z_54 (Ht rfl) (Ht rfl) rfl zo (by rw [Nat.mul_one,Nat.zero_add])) ?_)))))))))))))))
  refine sH Z_54 (Ht rfl) (Ht rfl) (by simp only [dD,List.length_map,gL]; omega) (j:=1) (l:=3) rfl rfl rfl ?_
  refine eX (cK (cC [0,1,3] rfl (by decide) (cY (rm rfl (rm rfl (ro rfl (gX U_78 Z_54 (Ht rfl) (Ht rfl) rfl zo (by rw [Nat.mul_one,Nat.zero_add])) ?_))))))
  refine ro rfl (kR A_54 Z_54 (Ht rfl) (j:=1) rfl) (ro rfl (oY U_54 (Ht rfl) (i:=2) rfl (show ((List.replicate n (aE Qi.zero)).length:Int) = ((n:Nat):Int) from by simp)) (ro rfl (cX (cJ 0)) (eX (eG ?_))))
  refine eL (fun (j : Nat) => j ≤ n) (fun (j : Nat) => n - j) (fun (j : Nat) => [(0, NT .i64 n), (1, Ab l), (4, eH B4 0), (6, Is (.slice (some ⟨B12, 0, none⟩) n n)), (7, NT .i64 i), (14, NT .i64 n), (15, NT .i64 i), (27, NT .i64 n), (28, NT .i64 j)]) (fun (j : Nat) => [box B4 80 [Is (.slice none 0 0), Is (.slice none 0 0)], Fa B12 54 32 5 (dD aE (lR (fun i => tab n fun k => Ml l (n * i + k)) [] n i)) i B21, bN 32 5 B21 ((lR (fun k => Ml l (n * i + k)) Qi.zero n j).map aE)]) 0 (Nat.zero_le _)
   (zS rfl) (aU (aP rfl) (aU (fun _ _ _ h=>h) (aU (cA (by rw [← lS]; exact wS aE _)) aY))) (fun j hj=>?_)
  refine ts (ro rfl (gJ (Ht rfl) (Ht rfl)) (eX (cK (dQ (Ht rfl) (fun he=>?_) (fun he=>?_)))))
  ·have hjn : j < n := by simp only [decide_eq_true_eq] at he; omega
   refine cU (cK (eG (ts (rm rfl (ra rfl (eX (ts (rm rfl (ro rfl (dK U_77 (Ht rfl) aC) (ro rfl (iW (Ht rfl) (cJ 0)) (eX (dQ (Ht rfl) (fun hl=>?_) (fun hl=>?_)))))))))))))
   ·have hll : 0 < l.length := by simp only [decide_eq_true_eq] at hl; omega
    have hlm:=Nat.mod_lt (n * i + j) hll
    have hni:n * i ≤ 16:=Nat.le_trans (Nat.mul_le_mul (show n ≤ 4 by omega) (show i ≤ 4 by omega)) (by decide)
    have hq:(l.getD ((n * i + j) % l.length) Xl).q = Ml l (n * i + j):=by rw [Ml,if_neg zo]
    refine fJ (m:=17) (dp 6 rfl (cX (Ht rfl)) (dp 7 rfl (cX (Ht rfl)) (eD 34 0 35 1 rfl (gX U_78 Z_54 (Ht rfl) (Ht rfl) rfl zo (by rw [Nat.mul_one,Nat.zero_add])) ?_)))
    refine dq 36 2 rfl (kR A_54 Z_54 (Ht rfl) (j:=1) rfl) (dp 8 rfl (cX (Ht rfl)) (dp 1 rfl (cX (Ht rfl)) (dp 0 rfl (cX (Ht rfl)) (dp 7 rfl (cX (Ht rfl)) (eD 40 6 41 7 rfl (mK (Ht rfl) (Ht rfl) z6) (dp 8 rfl (cX (Ht rfl)) (eD 42 8 43 9 rfl (dW (Ht rfl) (Ht rfl) z6) (dp 1 rfl (cX (Ht rfl)) (dq 45 11 rfl (dK U_77 (Ht rfl) aC) (eD 44 10 46 12 rfl (qY (Ht rfl) (Ht rfl) zo) ?_))))))))))
    refine eD 39 5 47 13 rfl (dZ U_77 Z_23 (Ht rfl) (Ht rfl) rfl (eQ (dY (d:=Xl) hlm))) (dq 48 14 rfl (dV Tryz.isAgg23 Z_23 (Ht rfl)) (dq 49 15 rfl (cZ Tryz.call14 (Jo (r:=l.getD ((n * i + j) % l.length) Xl)) ⟨(Ht rfl),trivial⟩) ?_))
    refine fW aT rfl (by kernel_rfl) (zF (zF (zF (zF (aJ (aV (ro rfl (iX U_54 Z_32 (Ht rfl) (Ht rfl) rfl (i:=2) rfl (by rw [List.length_map,gL]; omega) rfl) ?_)))))))
    refine rF Z_32 (Ht rfl) (Ht rfl) (El.ag rfl) (i:=2) rfl rfl (by rw [List.length_map,gL]; omega) rfl ?_
    refine eX (cF (cY (ro rfl (dW (Ht rfl) (cJ 1) z6) (rm rfl (eX (gQ (j + 1) hjn zo (zS rfl) (aU (aP rfl) (aU (fun _ _ _ h=>h) (aU (cA (by rw [kB,hq]; exact congrArg _ (nS (f:=(fun k=>Ml l (n * i + k)))))) aY)))))))))
   ·have hll : l.length = 0 := by simp only [decide_eq_false_iff_not] at hl; omega
    have hq:Ml l (n * i + j) = Qi.zero:=by rw [Ml,if_pos hll]
    refine cU (cF (cY (ro rfl (dW (Ht rfl) (cJ 1) z6) (rm rfl (eX (gQ (j + 1) hjn zo (zS rfl) (aU (aP rfl) (aU (fun _ _ _ h=>h) (aU (cA (by rw [Qu (f:=(fun k=>Ml l (n * i + k))) hq])) aY)))))))))
  ·obtain rfl : n = j := by simp only [decide_eq_false_iff_not] at he; omega
   rw [nR (fun k=>Ml l (n * i + k))]
   refine gG rfl (cF (jM 1 2 rfl rfl (by decide) (by simp only [dD,List.length_map,gL]; omega) ?_))
   refine cY (ro rfl (dW (Ht rfl) (cJ 1) z6) (rm rfl (eX (cC [0,1] rfl (by decide) (gQ (i + 1) hin zo (zS rfl) (aU (aP rfl) (aU (dO (by rw [jJ]; exact congrArg _ (nS (f:=(fun i=>tab n fun k=>Ml l (n * i + k)))))) aY)))))))
 ·obtain rfl : n = i := by simp only [decide_eq_false_iff_not] at hd; omega
  rw [nR]
  refine gG rfl (cK (gW (i:=1) (tt:=6) rfl rfl (pS (s:=5) (M:=Nl n l) (qW n l).1.symm) (cY (rm rfl (ro rfl (cZ Tryz.call116 (a0c (n:=n) zo) ⟨(Ht rfl),trivial⟩) (rm rfl (ro rfl (cZ Tryz.call98 hnw ⟨(Ht rfl),(Ht rfl),trivial⟩) (rm rfl (ro rfl (dU (Ht rfl) rfl) (ro rfl (dU (Ht rfl) rfl) (rn rfl (eW (Ts:=[Is (.slice none 0 0),Is (.slice none 0 0)]) O_80 rfl (fun V=>aW zd (aW zd (aG)))) fun B9=>(gZ Z_80 (Ht rfl) (Ht rfl) rfl (i:=2) rfl (aK rfl) rfl rfl ?_))))))))))))
  refine ra rfl (eX (ts (ro rfl (eJ A_80 Z_80 (Ht rfl) (i:=2) rfl rfl rfl) (rm rfl (gZ Z_80 (Ht rfl) (Ht rfl) rfl (i:=0) rfl (aK rfl) rfl rfl (ra rfl (eX ?_)))))))
  exact cT rfl (fU A_80 Z_80 rfl (i:=0) rfl rfl) (eU rfl)
end
section
open Go Go.RowKit
theorem lJ (v : Value) (w : World) : (method (Tryz.prog.types.size + Made.depth) 32 v "Clear").run Tryz.prog w = .ok (34, v) w := by kernel_rfl
end
end Go.Proofs.YthcmlodgnfekeaaGreat
