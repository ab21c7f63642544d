/- What functions of the program compute, proved by walks over their code, and the plain mathematics of it; a part of the proof in the last text. -/
import Derived.Test.YthcmlodgnfekeaaGreatP02
set_option linter.unusedVariables false
set_option linter.unusedSimpArgs false
set_option maxRecDepth 100000
set_option maxHeartbeats 4000000
namespace Go.Proofs.YthcmlodgnfekeaaGreat
section
open Go Go.RowKit
theorem a19 {m n:Nat} (hm:(dg m).length ≤ 17592186044416) (hn:(dg n).length ≤ 17592186044416):bA Tryz.prog 198 [aD m,aD n] (aD (m + n)):=by
 refine bA.intro Tryz.func198 rfl Tryz.ntmps198 rfl (fun cx=>(ts (ro rfl (cQ cV) (eX (cK (nK (fun (p:Nat) (q:Nat)=>p + q = m + n ∧ (dg q).length ≤ (dg p).length ∧ (dg p).length ≤ 17592186044416) (fun (p:Nat) (q:Nat)=>[(0,aD p),(1,aD q)]) (fun (p:Nat) (q:Nat)=>[]) ?_ (fun p q ⟨hpq,hle,hlp⟩=>?_)))))))
 ·refine ts (rm rfl (ro rfl (dG U_28 (Ht rfl) aA) (rm rfl (ro rfl (dG U_28 (Ht rfl) aA) (ro rfl (gX (Ht rfl) (Ht rfl)) (eX (dQ (Ht rfl) (fun hb => ?_) (fun hb => ?_))))))))
  ·simp at hb
   refine cY (rm rfl (rm rfl (ra rfl (ra rfl (eX (aN (n,m) ⟨Nat.add_comm _ _,Nat.le_of_lt hb,hn⟩ (zS rfl) aY))))))
  ·simp at hb
   refine cU (aN (m,n) ⟨rfl,hb,hm⟩ (zS rfl) aY)
 ·refine ts (rm rfl (ro rfl (dG U_28 (Ht rfl) aA) (ro rfl (dV (Ht rfl) (cJ 1) z6) (rn rfl (eI (T := bE 0) (i := Tryz.t24) V_28 iO rfl rfl (Ht rfl) rfl (fun _ => rfl) trivial (by show 4 * _ ≤ _; omega) zo) fun B19 => (ra rfl (eX (ts (ro rfl (cQ (cJ 0)) (eX (cK (ts (rm rfl (ro rfl (dG U_28 (Ht rfl) aA) (ro rfl (cX (cJ 0)) (eX (eG ?_))))))))))))))))
  refine iT (fun (k : Nat) (out : List Nat) (c : Nat) => vV (dg p) (dg q) out k c) (fun (k : Nat) (out : List Nat) (c : Nat) => (dg p).length - k) (fun (k : Nat) (out : List Nat) (c : Nat) => [(0, aD p), (1, aD q), (5, Is (.slice (some ⟨B19, 0, none⟩) ((dg p).length + 1) ((dg p).length + 1))), (6, bE c), (21, NT .i64 (dg p).length), (22, NT .i64 k)]) (fun (k : Nat) (out : List Nat) (c : Nat) => [box B19 24 (out.map bE)]) 0 (List.replicate ((dg p).length + 1) 0) 0 (vV.start _ _)
   (zS rfl) (aU (aC (jM _)) aY) (fun k out c hS=>?_)
  refine ts (ro rfl (gX (Ht rfl) (Ht rfl)) (eX (cK (dQ (Ht rfl) (fun hb=>?_) (fun hb=>?_)))))
  ·simp at hb
   have hlen:=hS.len; have hcl:=hS.cle; have hxk:=aM (bB p) k; have hyk:=aM (bB q) k
   simp only [BB] at hxk hyk
   refine cU (cK (eG (ts (rm rfl (ra rfl (eX (ts (ro rfl (cQ (cJ 0)) (eX (cK (iJ (fun (uu:Unit)=>True) (fun (uu:Unit)=>[(0,aD p),(1,aD q),(5,Is (.slice (some ⟨B19,0,none⟩) ((dg p).length + 1) ((dg p).length + 1))),(6,bE c),(7,NT .i64 k),(8,bE ((dg q).getD k 0)),(21,NT .i64 (dg p).length),(22,NT .i64 k)]) (fun (uu:Unit)=>[box B19 24 (out.map bE)]) ?_ (fun uu _=>?_))))))))))))
   ·refine ts (rm rfl (rm rfl (ro rfl (dG U_28 (Ht rfl) aA) (ro rfl (gX (Ht rfl) (Ht rfl)) (eX (dQ (Ht rfl) (fun hk2 => ?_) (fun hk2 => ?_)))))))
    ·simp at hk2
     refine cY (rm rfl (rm rfl (ro rfl (dZ U_28 Z_24 (Ht rfl) (Ht rfl) rfl (dY (aF zo))) (ro rfl (dJ A_24 Z_24 (Ht rfl)) (ra rfl (eX (aN () trivial (zS rfl) (bP.refl _))))))))
    ·simp at hk2
     refine cU (aN () trivial (aQ rfl (aQ rfl (aQ rfl (aQ rfl (aQ rfl (aZ rfl (kR (by simp [List.getD,List.getElem?_eq_none hk2])) (zS rfl))))))) (bP.refl _))
   ·refine cY (rm rfl (rm rfl (rm rfl (rm rfl (ro rfl (dZ U_28 Z_24 (Ht rfl) (Ht rfl) rfl (dY (aF zo))) (ro rfl (dJ A_24 Z_24 (Ht rfl)) (rm rfl (rm rfl (ro rfl (cZ Tryz.call248 (Uc hxk hyk zo) ⟨(Ht rfl), (Ht rfl), (Ht rfl), trivial⟩) (rm rfl (ro rfl (dK (Ht rfl) rfl) (ro rfl (dK (Ht rfl) rfl) (ro rfl (fY U_28 Z_24 (Ht rfl) (Ht rfl) rfl zo (by rw [Nat.mul_one, Nat.zero_add])) ?_)))))))))))))
    refine jN Z_24 (Ht rfl) (Ht rfl) (i:=0) rfl (by first | omega | (simp; omega)) rfl (ra rfl (eX (bD (cY (ro rfl (dV (Ht rfl) (cJ 1) z6) (rm rfl (eX (fU (k + 1,_,_) (hS.next (bB p) (bB q) hb) (by dsimp only; omega) (zS rfl) (aU (aC (eB _ _ _)) aY)))))))))
  ·simp at hb
   have hkl:k = (dg p).length:=Nat.le_antisymm hS.kle hb
   subst hkl
   have hlen:=hS.len; have hcl:=hS.cle
   refine gV rfl (ts (rm rfl (rm rfl (ro rfl (dG U_28 (Ht rfl) aA) (rm rfl (ro rfl (fY U_28 Z_24 (Ht rfl) (Ht rfl) rfl zo (by rw [Nat.mul_one,Nat.zero_add])) ?_))))))
   refine jN Z_24 (Ht rfl) (Ht rfl) (i:=0) rfl (by first | omega | (simp; omega)) rfl (eX (cK ?_))
   have hfin:=hS.fin hle
   refine gJ (i:=0) (tt:=5) rfl rfl (jZ (eB _ _ _) (by simp [hlen]) (Nat.le_refl _)) ?_
   refine cY (rm rfl (ro rfl (cZ K_203 (oS _ (iV hS.dig (by simp only [BB]; omega)) (by simp [hlen]; omega)) ⟨(Ht rfl),trivial⟩) ?_))
   refine ra rfl (eX (fW rfl (fX (eU rfl) ?_)))
   exact (bS (by rw [hfin,bL,bL]; exact hpq))
theorem Yd {m n:Nat} (hm:(dg m).length ≤ 17592186044416) (hnm:n ≤ m):bA Tryz.prog 199 [aD m,aD n] (aD (m - n)):=by
 have hle:=fR hnm
 refine bA.intro Tryz.func199 rfl Tryz.ntmps199 rfl (fun cx=>(ts (ro rfl (cQ cV) (eX (ts (rm rfl (ro rfl (dG U_28 (Ht rfl) aA) (rn rfl (eI (T:=bE 0) (i:=Tryz.t24) V_28 iO rfl rfl (Ht rfl) rfl (fun _=>rfl) trivial (by show 4 * _ ≤ _; omega) zo) fun B11=>(ra rfl (eX (ts (ro rfl (cQ (cJ 0)) (eX (cK (ts (rm rfl (ro rfl (dG U_28 (Ht rfl) aA) (ro rfl (cX (cJ 0)) (eX (eG ?_))))))))))))))))))))
 refine iT (fun (k : Nat) (out : List Nat) (c : Nat) => vZ (dg m) (dg n) out k c) (fun (k : Nat) (out : List Nat) (c : Nat) => (dg m).length - k) (fun (k : Nat) (out : List Nat) (c : Nat) => [(0, aD m), (1, aD n), (5, Is (.slice (some ⟨B11, 0, none⟩) (dg m).length (dg m).length)), (6, bE c), (13, NT .i64 (dg m).length), (14, NT .i64 k)]) (fun (k : Nat) (out : List Nat) (c : Nat) => [box B11 24 (out.map bE)]) 0 (List.replicate (dg m).length 0) 0 (vZ.start _ _)
  (zS rfl) (aU (aC (jM _)) aY) (fun k out c hS=>?_)
 refine ts (ro rfl (gX (Ht rfl) (Ht rfl)) (eX (cK (dQ (Ht rfl) (fun hb=>?_) (fun hb=>?_)))))
 ·simp at hb
  have hlen:=hS.len; have hcl:=hS.cle; have hxk:=aM (bB m) k; have hyk:=aM (bB n) k
  simp only [BB] at hxk hyk
  refine cU (cK (eG (ts (rm rfl (ra rfl (eX (ts (ro rfl (cQ (cJ 0)) (eX (cK (iJ (fun (uu:Unit)=>True) (fun (uu:Unit)=>[(0,aD m),(1,aD n),(5,Is (.slice (some ⟨B11,0,none⟩) (dg m).length (dg m).length)),(6,bE c),(7,NT .i64 k),(8,bE ((dg n).getD k 0)),(13,NT .i64 (dg m).length),(14,NT .i64 k)]) (fun (uu:Unit)=>[box B11 24 (out.map bE)]) ?_ (fun uu _=>?_))))))))))))
  ·refine ts (rm rfl (rm rfl (ro rfl (dG U_28 (Ht rfl) aA) (ro rfl (gX (Ht rfl) (Ht rfl)) (eX (dQ (Ht rfl) (fun hk2 => ?_) (fun hk2 => ?_)))))))
   ·simp at hk2
    refine cY (rm rfl (rm rfl (ro rfl (dZ U_28 Z_24 (Ht rfl) (Ht rfl) rfl (dY (aF zo))) (ro rfl (dJ A_24 Z_24 (Ht rfl)) (ra rfl (eX (aN () trivial (zS rfl) (bP.refl _))))))))
   ·simp at hk2
    refine cU (aN () trivial (aQ rfl (aQ rfl (aQ rfl (aQ rfl (aQ rfl (aZ rfl (kR (by simp [List.getD,List.getElem?_eq_none hk2])) (zS rfl))))))) (bP.refl _))
  ·refine cY (rm rfl (rm rfl (rm rfl (rm rfl (ro rfl (dZ U_28 Z_24 (Ht rfl) (Ht rfl) rfl (dY (aF zo))) (ro rfl (dJ A_24 Z_24 (Ht rfl)) (rm rfl (rm rfl (ro rfl (cZ Tryz.call249 (Uq hxk hyk zo) ⟨(Ht rfl), (Ht rfl), (Ht rfl), trivial⟩) (rm rfl (ro rfl (dK (Ht rfl) rfl) (ro rfl (dK (Ht rfl) rfl) (ro rfl (fY U_28 Z_24 (Ht rfl) (Ht rfl) rfl zo (by rw [Nat.mul_one, Nat.zero_add])) ?_)))))))))))))
   refine jN Z_24 (Ht rfl) (Ht rfl) (i:=0) rfl (by first | omega | (simp; omega)) rfl (ra rfl (eX (bD (cY (ro rfl (dV (Ht rfl) (cJ 1) z6) (rm rfl (eX (fU (k + 1,_,_) (hS.next (bB m) (bB n) hb) (by dsimp only; omega) (zS rfl) (aU (aC (eB _ _ _)) aY)))))))))
 ·simp at hb
  have hkl:k = (dg m).length:=Nat.le_antisymm hS.kle hb
  subst hkl
  have hlen:=hS.len
  have hfin:=hS.fin (bB m) hle (by rw [bL,bL]; exact hnm)
  rw [bL,bL] at hfin
  refine gV rfl (gJ (i:=0) (tt:=5) rfl rfl (jZ rfl hlen.symm (Nat.le_refl _)) (ts (rm rfl (ro rfl (cZ K_203 (oS _ hS.dig zo) ⟨(Ht rfl),trivial⟩) (ra rfl (eX (fW rfl (fX (eU rfl) ?_))))))))
  exact (bS hfin)
theorem Ea {m n:Nat} (hm:(dg m).length ≤ 17592186044416) (hn:(dg n).length ≤ 17592186044416):bA Tryz.prog 110 [aD m,aD n] (aD (m * n)):=by
 refine bA.intro Tryz.func110 rfl Tryz.ntmps110 rfl (fun cx=>(ts (ro rfl (cQ cV) (eX (cK (ts (rm rfl (ro rfl (dG U_28 (Ht rfl) aA) (ro rfl (bT (Ht rfl) (cJ 0)) (rm rfl (fQ rfl rfl (eK rfl rfl (Ht rfl) (fun h=>cX (Ht rfl))) (fQ rfl rfl (eK rfl rfl (Ht rfl) (fun h=>dG U_28 (fJ rfl h) aA)) (fQ rfl rfl (eK rfl rfl (Ht rfl) (fun h=>bT (fJ rfl h) (cJ 0))) (ro rfl (iR (Ht rfl) (fun h=>(fJ rfl h))) (eX (dQ (Ht rfl) (fun hb=>?_) (fun hb=>?_)))))))))))))))))
 ·simp [aI] at hb
  have h0 : m * n = 0 := by
   rcases hb with h | h <;> simp_all [oE]
  refine ts (ro rfl (cQ cV) (eX (fW rfl (fX (eU rfl) ?_))))
  exact (fun v V h=>by rw [h0]; exact gS v V h)
 ·clear hb
  refine cU (ts (rm rfl (ro rfl (dG U_28 (Ht rfl) aA) (rm rfl (ro rfl (dG U_28 (Ht rfl) aA) (ro rfl (dV (Ht rfl) (Ht rfl) z6) (rn rfl (eI (T:=bE 0) (i:=Tryz.t24) V_28 iO rfl rfl (Ht rfl) rfl (fun _=>rfl) trivial (by show 4 * _ ≤ _; omega) zo) fun B24=>(ra rfl (eX (cK (ts (rm rfl (ro rfl (dG U_28 (Ht rfl) aA) (ro rfl (cX (cJ 0)) (eX (eG ?_))))))))))))))))
  refine fN (fun (i : Nat) (out : List Nat) => xI (dg m) (dg n) out i) (fun (i : Nat) (out : List Nat) => (dg m).length - i) (fun (i : Nat) (out : List Nat) => [(0, aD m), (1, aD n), (5, Is (.slice (some ⟨B24, 0, none⟩) ((dg m).length + (dg n).length) ((dg m).length + (dg n).length))), (25, aD m), (26, NT .i64 (dg m).length), (27, NT .i64 i)]) (fun (i : Nat) (out : List Nat) => [box B24 24 (out.map bE)]) 0 (List.replicate ((dg m).length + (dg n).length) 0) (xI.start _ _)
   (zS rfl) (aU (aC (jM _)) aY) (fun i out hS=>?_)
  refine ts (ro rfl (gX (Ht rfl) (Ht rfl)) (eX (cK (dQ (Ht rfl) (fun hb=>?_) (fun hb=>?_)))))
  ·simp at hb
   have hxi:=aM (bB m) i
   simp only [BB] at hxi
   refine cU (cK (eG (ts (rm rfl (ro rfl (dZ U_28 Z_24 (Ht rfl) (Ht rfl) rfl (dY (aF zo))) (ro rfl (dJ A_24 Z_24 (Ht rfl)) (ra rfl (ra rfl (eX (ts (ro rfl (cQ (cJ 0)) (eX (cK (ts (rm rfl (ro rfl (dG U_28 (Ht rfl) aA) (ro rfl (cX (cJ 0)) (eX (eG ?_)))))))))))))))))))
   refine iT (fun (k : Nat) (out2 : List Nat) (c : Nat) => Do (dg m) (dg n) out2 i k c) (fun (k : Nat) (out2 : List Nat) (c : Nat) => (dg n).length - k) (fun (k : Nat) (out2 : List Nat) (c : Nat) => [(0, aD m), (1, aD n), (5, Is (.slice (some ⟨B24, 0, none⟩) ((dg m).length + (dg n).length) ((dg m).length + (dg n).length))), (6, NT .i64 i), (7, bE ((dg m).getD i 0)), (8, NT .u64 c), (25, aD m), (26, NT .i64 (dg m).length), (27, NT .i64 i), (32, aD n), (33, NT .i64 (dg n).length), (34, NT .i64 k)]) (fun (k : Nat) (out2 : List Nat) (c : Nat) => [box B24 24 (out2.map bE)]) 0 out 0 (hS.row hb)
    (zS rfl) (bP.refl _) (fun k out2 c hR=>?_)
   refine ts (ro rfl (gX (Ht rfl) (Ht rfl)) (eX (cK (dQ (Ht rfl) (fun hk=>?_) (fun hk=>?_)))))
   ·simp at hk
    have hlen:=hR.len; have hcl:=hR.clt; have hyk:=aM (bB n) k; have hok:=aM hR.dig (i + k)
    have hbnd:=rK (aM (bB m) i) (aM (bB n) k) (aM hR.dig (i + k)) hR.clt
    simp only [BB] at hcl hyk hok hbnd
    refine cU (cK (eG (ts (rm rfl (ro rfl (dZ U_28 Z_24 (Ht rfl) (Ht rfl) rfl (dY (aF zo))) (ro rfl (dJ A_24 Z_24 (Ht rfl)) (ra rfl (ra rfl (eX (ts (rm rfl (rm rfl (ro rfl (gZ U_24 U_274 (Ht rfl) z7) (rm rfl (ro rfl (gZ U_24 U_274 (Ht rfl) z7) (ro rfl (jL (Ht rfl) (Ht rfl) (by show _ < 18446744073709551616; omega)) ?_))))))))))))))))
    refine rm rfl (rm rfl (rm rfl (ro rfl (dV (Ht rfl) (Ht rfl) z6) (ro rfl (fY U_28 Z_24 (Ht rfl) (Ht rfl) rfl zo (by rw [Nat.mul_one,Nat.zero_add])) ?_))))
    refine ro rfl (eY A_24 Z_24 (Ht rfl) (i:=0) rfl (dY (aF zo))) (ro rfl (gZ U_24 U_274 (Ht rfl) z7) (ro rfl (dV (Ht rfl) (Ht rfl) z7) (ro rfl (dV (Ht rfl) (Ht rfl) z7) (ra rfl (eX (ts (rm rfl (rm rfl (rm rfl (ro rfl (dV (Ht rfl) (Ht rfl) z6) ?_))))))))))
    refine rm rfl (ro rfl (eL rfl U_274 U_24 (Ht rfl)) (ro rfl (fY U_28 Z_24 (Ht rfl) (Ht rfl) rfl zo (by rw [Nat.mul_one,Nat.zero_add])) ?_))
    refine jN Z_24 (Ht rfl) (Ht rfl) (i:=0) rfl (by first | omega | (simp; omega)) rfl (eX (cY (rm rfl (ro rfl (dD (Ht rfl) (cJ 32) (by decide)) (ra rfl (eX (bD (cY (ro rfl (dV (Ht rfl) (cJ 1) z6) (rm rfl (eX (fU (k + 1,_,_) (hR.next (bB m) (bB n) hk rfl) (by dsimp only; omega) (zS rfl) (aU (aC (eB _ _ _)) aY)))))))))))))
   ·simp at hk
    have hkl:k = (dg n).length:=Nat.le_antisymm hR.kle hk
    subst hkl
    have hlen:=hR.len; have hcl:=hR.clt
    simp only [BB] at hcl
    refine gV rfl (cY (rm rfl (rm rfl (rm rfl (ro rfl (dG U_28 (Ht rfl) aA) (ro rfl (dV (Ht rfl) (Ht rfl) z6) (rm rfl (ro rfl (gZ U_274 U_24 (Ht rfl) (by show _ < 4294967296; first | omega | (simp only [kA]; omega))) (ro rfl (fY U_28 Z_24 (Ht rfl) (Ht rfl) rfl zo (by rw [Nat.mul_one,Nat.zero_add])) ?_)))))))))
    refine jN Z_24 (Ht rfl) (Ht rfl) (i:=0) rfl (by first | omega | (simp; omega)) rfl (eX (bD (cY (ro rfl (dV (Ht rfl) (cJ 1) z6) (rm rfl (eX (fU (i + 1,_) (hR.fin) (by dsimp only; omega) (zS rfl) (aU (aC (eB _ _ _)) aY))))))))
  ·simp at hb
   have hkl:i = (dg m).length:=Nat.le_antisymm hS.ile hb
   subst hkl
   have hlen:=hS.len
   have hfin:=hS.fin
   rw [bL,bL] at hfin
   refine gV rfl (gJ (i:=0) (tt:=5) rfl rfl (jZ rfl hlen.symm (Nat.le_refl _)) (ts (rm rfl (ro rfl (cZ K_203 (oS _ hS.dig zo) ⟨(Ht rfl),trivial⟩) (ra rfl (eX (fW rfl (fX (eU rfl) ?_))))))))
   exact (bS hfin)
end
section
open Go Go.RowKit
theorem Uh {v:Nat} (hv:v < 4294967296):bA Tryz.prog 275 [bE v] (NT .i64 (bl v)):=by
 refine bA.intro Tryz.func275 rfl Tryz.ntmps275 rfl (fun cx=>(ts (ro rfl (cQ (cJ 0)) (eX (cK (nK (fun (q:Nat) (x:Nat)=>bl v = q + bl x ∧ x < 65536 ∧ q ≤ 16) (fun (q:Nat) (x:Nat)=>[(0,bE x),(2,NT .i64 q)]) (fun (q:Nat) (x:Nat)=>[]) ?_ (fun q x ⟨hq1,hq2,hq3⟩=>?_)))))))
 ·refine ts (rm rfl (ro rfl (nS (Ht rfl) (cJ 65536)) (eX (dQ (Ht rfl) (fun hb => ?_) (fun hb => ?_)))))
  ·simp at hb
   refine ts (rm rfl (ro rfl (dD (Ht rfl) (cJ 16) (by decide)) (ra rfl (eX (cY (ro rfl (cQ (cJ 16)) (eX (aN (16,v / 2 ^ 16) ⟨a1F hb,by dsimp only; omega,Nat.le_refl _⟩ (zS rfl) aY))))))))
  ·simp at hb
   refine cU (aN (0,v) ⟨(Nat.zero_add _).symm,hb,by dsimp only; omega⟩ (zS rfl) aY)
 ·refine cK (nK (fun (r : Nat) (z : Nat) => bl v = r + bl z ∧ z < 256 ∧ r ≤ 24) (fun (r : Nat) (z : Nat) => [(0, bE z), (2, NT .i64 r)]) (fun (r : Nat) (z : Nat) => []) ?_ (fun r z ⟨hr1, hr2, hr3⟩ => ?_))
  ·refine ts (rm rfl (ro rfl (nS (Ht rfl) (cJ 256)) (eX (dQ (Ht rfl) (fun hb => ?_) (fun hb => ?_)))))
   ·simp at hb
    refine ts (rm rfl (ro rfl (dD (Ht rfl) (cJ 8) (by decide)) (ra rfl (eX (cY (rm rfl (ro rfl (dV (Ht rfl) (cJ 8) z6) (ra rfl (eX (aN (q + 8,x / 2 ^ 8) ⟨by have:=bl8 hb; dsimp only; omega,by dsimp only; omega,by dsimp only; omega⟩ (zS rfl) aY))))))))))
   ·simp at hb
    refine cU (aN (q,x) ⟨hq1,hb,by dsimp only; omega⟩ (zS rfl) aY)
  ·have hbl := lV (k := 8) hr2
   refine ts (rm rfl (rm rfl (ro rfl (gZ U_24 U_5 (Ht rfl) (by show _ < 256; first | omega | (simp only [kA]; omega))) (ro rfl (Wg Tryz.runUnderlying9 cV (Ht rfl) (a1J hr2 (by kernel_rfl))) (ro rfl (gZ U_5 U_3 (Ht rfl) z6) (ro rfl (dV (Ht rfl) (Ht rfl) z6) (ra rfl (eX (fW rfl (fX (eU rfl) ?_))))))))))
   exact (kR zo)
theorem Zs {v:Nat} (hv:v < 4294967296):bA Tryz.prog 251 [bE v] (NT .i64 (32 - bl v)):=by
 refine bA.intro Tryz.func251 rfl Tryz.ntmps251 rfl (fun cx=>(ts (ro rfl (cQ (cJ 0)) (eX (ts (rm rfl (ro rfl (cZ Tryz.call275 (Uh hv) ⟨(Ht rfl),trivial⟩) (ro rfl (dW (cJ 32) (Ht rfl) (lV hv) z6) (ra rfl (eX ?_))))))))))
 exact fW rfl (eU rfl)
theorem Ud {hi lo y:Nat} (hy:hi < y) (hl:lo < BB) (hyb:y < BB):bA Tryz.prog 285 [bE hi,bE lo,bE y] (eT [bE ((hi * BB + lo) / y),bE ((hi * BB + lo) % y)]):=by
 have hq:=Bk hy hl; have hm:=Nat.mod_lt (hi * BB + lo) (by omega:y > 0); have hz:hi * BB + lo < 18446744073709551616:=by simp only [BB] at *; omega
 have hsh : hi * 2 ^ 32 < 18446744073709551616 := by
  have h1:hi < BB:=by omega
  show hi * BB < _
  simp only [BB] at h1 ⊢; omega
 refine bA.intro Tryz.func285 rfl Tryz.ntmps285 rfl (fun cx=>(ts (ro rfl (cQ (cJ 0)) (ro rfl (cQ (cJ 0)) (eX (cK (ts (rm rfl (ro rfl (gL (Ht rfl) (cJ 0)) (rm rfl (fQ rfl rfl (eK rfl rfl (Ht rfl) (fun h=>cX (Ht rfl))) (fQ rfl rfl (eK rfl rfl (Ht rfl) (fun h=>cX (Ht rfl))) (fQ rfl rfl (eK rfl rfl (Ht rfl) (fun h=>wV (fJ rfl h) (fJ rfl h))) (ro rfl (cT (Ht rfl) (fun h=>(fJ rfl h))) (eX (jK (Ht rfl) (by simp; omega) ?_))))))))))))))))
 have hl2:lo < 18446744073709551616:=by simp only [BB] at hl; omega
 have hy2:y < 18446744073709551616:=by simp only [BB] at hyb; omega
 refine cU (ts (rm rfl (ro rfl (gZ U_24 U_274 (Ht rfl) (by show _ < 18446744073709551616; simp only [BB] at *; omega)) (ro rfl (lR (Ht rfl) (cJ 32) (by decide) hsh) (rm rfl (ro rfl (gZ U_24 U_274 (Ht rfl) (by show _ < 18446744073709551616; simp only [BB] at *; omega)) (ro rfl (aE.nat (nF rfl (Ht rfl) (Ht rfl) z7 z7) (sH hl)) (ra rfl (eX (cK ?_))))))))))
 refine fZ (m:=11) (dp 8 rfl (cX (Ht rfl)) (dp 2 rfl (cX (Ht rfl)) (dq 24 1 rfl (gZ U_24 U_274 (Ht rfl) (by show _ < 18446744073709551616; simp only [BB] at *; omega)) (cI 23 0 25 2 rfl (iI (Ht rfl) (Ht rfl) zo (by show _ < 18446744073709551616; exact hz)) (dq 26 3 rfl (gZ U_274 U_24 (Ht rfl) (by show _ < 4294967296; exact hq)) (dp 8 rfl (cX (Ht rfl)) (dp 2 rfl (cX (Ht rfl)) (dq 29 6 rfl (gZ U_24 U_274 (Ht rfl) (by show _ < 18446744073709551616; simp only [BB] at *; omega)) ?_))))))))
 refine cI 28 5 30 7 rfl (jW (Ht rfl) (Ht rfl) zo) (dq 31 8 rfl (gZ U_274 U_24 (Ht rfl) (by show _ < 4294967296; simp only [BB] at *; omega)) (dq 27 4 rfl (cQ (Ht rfl)) (fV aO rfl (by kernel_rfl) (zF (zF (aJ (aJ (aJ (aV (ra rfl (eX ?_)))))))))))
 exact bC rfl (eU rfl) (eU rfl)
theorem Yc {m k:Nat} (hm:(dg m).length ≤ 17592186044416) (hk:k ≤ 562949953421312):bA Tryz.prog 206 [aD m,NT .i64 k] (aD (m * 2 ^ k)):=by
 refine bA.intro Tryz.func206 rfl Tryz.ntmps206 rfl (fun cx=>(ts (ro rfl (cQ cV) (eX (cK (ts (rm rfl (ro rfl (dG U_28 (Ht rfl) aA) (ro rfl (bT (Ht rfl) (cJ 0)) (rm rfl (fQ rfl rfl (eK rfl rfl (Ht rfl) (fun h=>cX (Ht rfl))) (fQ rfl rfl (eK rfl rfl (Ht rfl) (fun h=>bT (fJ rfl h) (cJ 0))) (ro rfl (iR (Ht rfl) (fun h=>(fJ rfl h))) (eX (dQ (Ht rfl) (fun hb=>?_) (fun hb=>?_))))))))))))))))
 ·simp [aI] at hb
  have h0 : m * 2 ^ k = m := by
   rcases hb with h | h
   ·simp_all [oE]
   ·rw [h,Nat.pow_zero,Nat.mul_one]
  refine ts (rm rfl (ra rfl (eX (fW rfl (fX (eU rfl) ?_)))))
  exact (bS h0.symm)
 ·clear hb
  have hr:=Nat.mod_lt k (by decide:32 > 0)
  refine cU (ts (rm rfl (ro rfl (iI (Ht rfl) (cJ 32) zo z6) (rm rfl (ro rfl (jW (Ht rfl) (cJ 32) zo) (ro rfl (gZ U_3 U_275 (Ht rfl) z7) (ra rfl (ra rfl (eX (ts (rm rfl (ro rfl (dG U_28 (Ht rfl) aA) (rm rfl (ro rfl (dV (Ht rfl) (Ht rfl) z6) (ro rfl (dV (Ht rfl) (cJ 1) z6) ?_)))))))))))))))
  refine rn rfl (eI (T:=bE 0) (i:=Tryz.t24) V_28 iO rfl rfl (Ht rfl) rfl (fun _=>rfl) trivial (by show 4 * _ ≤ _; omega) zo) fun B29=>ra rfl (eX (cK (ts (rm rfl (ro rfl (dG U_28 (Ht rfl) aA) (ro rfl (cX (cJ 0)) (eX (eG ?_))))))))
  refine fN (fun (i : Nat) (out : List Nat) => xM (dg m) (k / 32) (k % 32) out i) (fun (i : Nat) (out : List Nat) => (dg m).length - i) (fun (i : Nat) (out : List Nat) => [(5, NT .i64 (k / 32)), (6, NT .u64 (k % 32)), (7, Is (.slice (some ⟨B29, 0, none⟩) ((dg m).length + k / 32 + 1) ((dg m).length + k / 32 + 1))), (30, aD m), (31, NT .i64 (dg m).length), (32, NT .i64 i)]) (fun (i : Nat) (out : List Nat) => [box B29 24 (out.map bE)]) 0 (List.replicate ((dg m).length + k / 32 + 1) 0) (xM.start _ _ _)
   (zS rfl) (aU (aC (jM _)) aY) (fun i out hS=>?_)
  refine ts (ro rfl (gX (Ht rfl) (Ht rfl)) (eX (cK (dQ (Ht rfl) (fun hb=>?_) (fun hb=>?_)))))
  ·simp at hb
   have hlen:=hS.len; have hxi:=aM (bB m) i; have hok:=aM hS.dig (i + k / 32)
   have hv:=Bj hxi hr
   have hd:(dg m).getD i 0 * 2 ^ (k % 32) / 2 ^ 32 < 4294967296:=Nat.div_lt_of_lt_mul hv
   simp only [BB] at hxi hok
   refine cU (cK (eG (ts (rm rfl (ro rfl (dZ U_28 Z_24 (Ht rfl) (Ht rfl) rfl (dY (aF zo))) (ro rfl (dJ A_24 Z_24 (Ht rfl)) (ra rfl (ra rfl (eX (ts (rm rfl (ro rfl (gZ U_24 U_274 (Ht rfl) z7) (rm rfl (ro rfl (lR (Ht rfl) (Ht rfl) (by show _ ≤ _; simp [IntKind.bits]; omega) (by show _ < 18446744073709551616; exact hv)) (ra rfl (eX (ts (rm rfl (rm rfl (rm rfl (ro rfl (dV (Ht rfl) (Ht rfl) z6) ?_)))))))))))))))))))))
   refine ro rfl (fY U_28 Z_24 (Ht rfl) (Ht rfl) rfl zo (by rw [Nat.mul_one,Nat.zero_add])) ?_
   refine ro rfl (eY A_24 Z_24 (Ht rfl) (i:=0) rfl (dY (aF zo))) (rm rfl (ro rfl (eL rfl U_274 U_24 (Ht rfl)) (ro rfl (nF rfl (Ht rfl) (Ht rfl) (by show _ < 4294967296; omega) (by show _ % 4294967296 < 4294967296; omega)) (ro rfl (fY U_28 Z_24 (Ht rfl) (Ht rfl) rfl zo (by rw [Nat.mul_one,Nat.zero_add])) ?_))))
   refine jN Z_24 (Ht rfl) (Ht rfl) (i:=0) rfl (by first | omega | (simp; omega)) rfl (eX (cY (rm rfl (rm rfl (rm rfl (ro rfl (dV (Ht rfl) (Ht rfl) z6) (ro rfl (dV (Ht rfl) (cJ 1) z6) (rm rfl (ro rfl (dD (Ht rfl) (cJ 32) (by decide)) (ro rfl (gZ U_274 U_24 (Ht rfl) (by show _ < 4294967296; exact hd)) (ro rfl (fY U_28 Z_24 (Ht rfl) (Ht rfl) rfl zo (by rw [Nat.mul_one,Nat.zero_add])) ?_)))))))))))
   refine jN Z_24 (Ht rfl) (Ht rfl) (i:=0) rfl (by first | omega | (simp; omega)) rfl (eX (bD (cY (ro rfl (dV (Ht rfl) (cJ 1) z6) (rm rfl (eX (fU (i + 1,_) (hS.next (bB m) hr hb rfl rfl) (by dsimp only; omega) (zS rfl) (aU (aC (Fz _ _ _ _ _)) aY))))))))
  ·simp at hb
   have hkl:i = (dg m).length:=Nat.le_antisymm hS.kle hb
   subst hkl
   have hlen:=hS.len
   have hfin:=hS.fin
   rw [bL,kU] at hfin
   refine gV rfl (gJ (i:=0) (tt:=7) rfl rfl (jZ rfl hlen.symm (Nat.le_refl _)) (ts (rm rfl (ro rfl (cZ K_203 (oS _ hS.dig zo) ⟨(Ht rfl),trivial⟩) (ra rfl (eX (fW rfl (fX (eU rfl) ?_))))))))
   exact (bS hfin)
theorem a1b {m k:Nat} (hm:(dg m).length ≤ 17592186044416) (hk:k ≤ 562949953421312):bA Tryz.prog 253 [aD m,NT .i64 k] (aD (m / 2 ^ k)):=by
 refine bA.intro Tryz.func253 rfl Tryz.ntmps253 rfl (fun cx=>?_)
 have hr:=Nat.mod_lt k (by decide:32 > 0)
 refine ts (ro rfl (cQ cV) (eX (ts (rm rfl (ro rfl (iI (Ht rfl) (cJ 32) zo z6) (rm rfl (ro rfl (jW (Ht rfl) (cJ 32) zo) (ro rfl (gZ U_3 U_275 (Ht rfl) z7) (ra rfl (ra rfl (eX (cK (ts (rm rfl (rm rfl (ro rfl (dG U_28 (Ht rfl) aA) (ro rfl (nS (Ht rfl) (Ht rfl)) (eX (dQ (Ht rfl) (fun hb=>?_) (fun hb=>?_))))))))))))))))))))
 ·simp at hb
  have h0:=Ge (bB m) hb (r:=k % 32)
  rw [bL,kU] at h0
  refine ts (ro rfl (cQ cV) (eX (fW rfl (fX (eU rfl) ?_))))
  exact (fun v V h=>bS h0.symm v V (gS v V h))
 ·simp at hb
  refine cU (ts (rm rfl (ro rfl (dG U_28 (Ht rfl) aA) (rm rfl (ro rfl (dW (Ht rfl) (Ht rfl) zo z6) (rn rfl (eI (T:=bE 0) (i:=Tryz.t24) V_28 iO rfl rfl (Ht rfl) rfl (fun _=>rfl) trivial (by show 4 * _ ≤ _; omega) zo) fun B23=>(ra rfl (eX (cK (ts (rm rfl (ro rfl (iY U_28 (Ht rfl)) (ro rfl (cX (cJ 0)) (eX (eG ?_)))))))))))))))
  refine fN (fun (i : Nat) (out : List Nat) => xN (dg m) (k / 32) (k % 32) out i) (fun (i : Nat) (out : List Nat) => (dg m).length - i) (fun (i : Nat) (out : List Nat) => [(0, aD m), (5, NT .i64 (k / 32)), (6, NT .u64 (k % 32)), (7, Is (.slice (some ⟨B23, 0, none⟩) ((dg m).length - k / 32) ((dg m).length - k / 32))), (25, NT .i64 ((dg m).length - k / 32 : Nat)), (26, NT .i64 i)]) (fun (i : Nat) (out : List Nat) => [box B23 24 (out.map bE)]) 0 (List.replicate ((dg m).length - k / 32) 0) (xN.start _ _ _)
   (zS rfl) (aU (aC (jM _)) aY) (fun i out hS=>?_)
  refine ts (ro rfl (gX (Ht rfl) (Ht rfl)) (eX (cK (dQ (Ht rfl) (fun hb=>?_) (fun hb=>?_)))))
  ·simp at hb
   have hlen:=hS.len; have hx0:=aM (bB m) (i + k / 32); have hx1:=aM (bB m) (i + k / 32 + 1)
   have hio:i < out.length:=by omega
   simp only [BB] at hx0 hx1
   refine cU (cK (eG (ts (rm rfl (ra rfl (eX (ts (rm rfl (rm rfl (rm rfl (ro rfl (dV (Ht rfl) (Ht rfl) z6) (ro rfl (dZ U_28 Z_24 (Ht rfl) (Ht rfl) rfl (dY (aF zo))) (ro rfl (dJ A_24 Z_24 (Ht rfl)) (ro rfl (gZ U_24 U_274 (Ht rfl) z7) (ra rfl (eX (cK (iJ (fun (v:Nat)=>v = (dg m).getD (i + k / 32) 0 + BB * (dg m).getD (i + k / 32 + 1) 0) (fun (v:Nat)=>[(0,aD m),(5,NT .i64 (k / 32)),(6,NT .u64 (k % 32)),(7,Is (.slice (some ⟨B23,0,none⟩) ((dg m).length - k / 32) ((dg m).length - k / 32))),(8,NT .i64 i),(9,NT .u64 v),(25,NT .i64 ((dg m).length - k / 32:Nat)),(26,NT .i64 i)]) (fun (v:Nat)=>[box B23 24 (out.map bE)]) ?_ (fun v hv=>?_)))))))))))))))))))
   ·refine ts (rm rfl (rm rfl (ro rfl (dV (Ht rfl) (Ht rfl) z6) (ro rfl (dV (Ht rfl) (cJ 1) z6) (rm rfl (ro rfl (dG U_28 (Ht rfl) aA) (ro rfl (gX (Ht rfl) (Ht rfl)) (eX (dQ (Ht rfl) (fun hk2 => ?_) (fun hk2 => ?_))))))))))
    ·simp at hk2
     refine cY (rm rfl (rm rfl (rm rfl (rm rfl (ro rfl (dV (Ht rfl) (Ht rfl) z6) (ro rfl (dV (Ht rfl) (cJ 1) z6) (ro rfl (dZ U_28 Z_24 (Ht rfl) (Ht rfl) rfl (dY (aF zo))) (ro rfl (dJ A_24 Z_24 (Ht rfl)) (ro rfl (gZ U_24 U_274 (Ht rfl) z7) (ro rfl (lR (Ht rfl) (cJ 32) (by decide) (by show _ < 18446744073709551616; omega)) ?_))))))))))
     refine ro rfl (aE.nat (nF rfl (Ht rfl) (Ht rfl) z7 z7) (Ld hx0)) (ra rfl (eX (aN ((dg m).getD (i + k / 32) 0 + BB * (dg m).getD (i + k / 32 + 1) 0) rfl (zS rfl) (bP.refl _))))
    ·simp at hk2
     refine cU (aN ((dg m).getD (i + k / 32) 0) (by simp [List.getD,List.getElem?_eq_none hk2]) (zS rfl) (bP.refl _))
   ·refine cY (rm rfl (rm rfl (rm rfl (rm rfl (ro rfl (dD (Ht rfl) (Ht rfl) (by show _ ≤ 64; omega)) (ro rfl (eL rfl U_274 U_24 (Ht rfl)) (ro rfl (fY U_28 Z_24 (Ht rfl) (Ht rfl) rfl zo (by rw [Nat.mul_one, Nat.zero_add])) ?_)))))))
    refine jN Z_24 (Ht rfl) (Ht rfl) (i:=0) rfl (by first | omega | (simp; omega)) rfl (eX (bD (cY (ro rfl (dV (Ht rfl) (cJ 1) z6) (rm rfl (eX (fU (i + 1,_) (hS.next (bB m) hr hio (by rw [hv]; rfl)) (by dsimp only; omega) (zS rfl) (aU (aC (eB _ _ _)) aY))))))))
  ·simp at hb
   have hlen:=hS.len
   have hkl:i = out.length:=Nat.le_antisymm hS.kle zo
   subst hkl
   have hfin:=hS.fin (bB m) zo
   rw [bL,kU] at hfin
   refine gV rfl (gJ (i:=0) (tt:=7) rfl rfl (jZ rfl hlen.symm (Nat.le_refl _)) (ts (rm rfl (ro rfl (cZ K_203 (oS _ hS.dig zo) ⟨(Ht rfl),trivial⟩) (ra rfl (eX (fW rfl (fX (eU rfl) ?_))))))))
   exact (bS hfin)
theorem Jy {m y:Nat} (hm:(dg m).length ≤ 17592186044416) (hy:0 < y) (hyb:y < BB):bA Tryz.prog 250 [aD m,bE y] (eT [aD (m / y),bE (m % y)]):=by
 refine bA.intro Tryz.func250 rfl Tryz.ntmps250 rfl (fun cx=>(ts (ro rfl (cQ cV) (ro rfl (cQ (cJ 0)) (eX (ts (rm rfl (ro rfl (dG U_28 (Ht rfl) aA) (rn rfl (eI (T:=bE 0) (i:=Tryz.t24) V_28 iO rfl rfl (Ht rfl) rfl (fun _=>rfl) trivial (by show 4 * _ ≤ _; omega) zo) fun B11=>(ra rfl (eX (ts (ro rfl (cQ (cJ 0)) (eX (cK (ts (rm rfl (ro rfl (dG U_28 (Ht rfl) aA) (ro rfl (gT (Ht rfl) cV (vT zo)) (ra rfl (eX (eG ?_))))))))))))))))))))))
 refine iT (fun (k : Nat) (out : List Nat) (r : Nat) => mY (dg m) y out k r) (fun (k : Nat) (out : List Nat) (r : Nat) => k) (fun (k : Nat) (out : List Nat) (r : Nat) => [(0, aD m), (1, bE y), (6, Is (.slice (some ⟨B11, 0, none⟩) (dg m).length (dg m).length)), (7, bE r), (8, aL .i64 ((k : Int) - 1))]) (fun (k : Nat) (out : List Nat) (r : Nat) => [box B11 24 (out.map bE)]) (dg m).length (List.replicate (dg m).length 0) 0 (mY.start _ hy)
  (zS rfl) (aU (aC (jM _)) aY) (fun k out r hS=>?_)
 refine cK (ts (rm rfl (ro rfl (jP (Ht rfl) cV) (eX (dQ (Ht rfl) (fun hb=>?_) (fun hb=>?_))))))
 ·simp at hb
  have hlen:=hS.len; have hkl:=hS.kle
  refine cU (cK (eG (cY (rm rfl (rm rfl (rm rfl (rm rfl (rm rfl (ro rfl (dZ U_28 Z_24 (Ht rfl) (Ht rfl) (show ((k:Int) - 1) = ((k - 1:Nat):Int) by omega) (dY (aF zo))) (ro rfl (dJ A_24 Z_24 (Ht rfl)) (rm rfl (ro rfl (cZ Tryz.call285 (Ud hS.rlt (aM (bB m) (k - 1)) hyb) ⟨(Ht rfl),(Ht rfl),(Ht rfl),trivial⟩) (rm rfl (ro rfl (dK (Ht rfl) rfl) (ro rfl (dK (Ht rfl) rfl) (ro rfl (fY U_28 Z_24 (Ht rfl) (Ht rfl) (show ((k:Int) - 1) = ((k - 1:Nat):Int) by omega) zo (by rw [Nat.mul_one,Nat.zero_add])) ?_))))))))))))))))
  refine jN Z_24 (Ht rfl) (Ht rfl) (i:=0) rfl (by first | omega | (simp; omega)) rfl (ra rfl (eX (bD (cY (rm rfl (ro rfl (gT (Ht rfl) cV (vT zo)) (ra rfl (eX (fU (k - 1,_,_) (hS.next (bB m) zo rfl) (by dsimp only; omega) (aQ rfl (aQ rfl (aQ rfl (aQ rfl (aZ rfl (aH zo) aX))))) (aU (aC (eB _ _ _)) aY))))))))))
 ·simp at hb
  have hk0:k = 0:=by omega
  subst hk0
  have hlen:=hS.len
  have hfin:=hS.fin
  rw [bL] at hfin
  refine gV rfl (gJ (i:=0) (tt:=6) rfl rfl (jZ rfl hlen.symm (Nat.le_refl _)) (ts (rm rfl (ro rfl (cZ K_203 (oS _ hS.dig zo) ⟨(Ht rfl),trivial⟩) (rm rfl (ra rfl (ra rfl (eX (bC rfl (fX (eU rfl) ?_) (fX (eU rfl) ?_))))))))))
  ·exact (bS hfin.1)
  ·exact (kR hfin.2)
end
section
open Go Go.RowKit
theorem Zy {us vs : List Nat} {q j B l : Nat} (hul : us.length = l) (hu : jI us) (hv : jI vs) (hq : q < BB) (hl : j + vs.length < us.length) (hL : us.length ≤ 1152921504606846976) :
    iM Tryz.prog 252 [Is (.slice (some ⟨B,0,none⟩) l l),tN vs,NT .u64 q,NT .i64 j] [box B 24 (us.map bE)] (List Nat × Bool) (fun x=>aB x.2) (fun x=>[box B 24 (x.1.map bE)]) (fun x=>Ds us vs q j x.1 x.2):=by
 refine iM.intro Tryz.func252 rfl Tryz.ntmps252 rfl (fun cx Z=>(ts (ro rfl (cQ cV) (eX (ts (ro rfl (cQ (cJ 0)) (ro rfl (cQ (cJ 0)) (eX (cK (ts (rm rfl (ro rfl (dG U_28 (Ht rfl) aA) (ro rfl (cX (cJ 0)) (eX (eG ?_)))))))))))))))
 refine sO (fun (i : Nat) (out : List Nat) (c : Nat) (b : Nat) => pR us vs q j out i c b) (fun (i : Nat) (out : List Nat) (c : Nat) (b : Nat) => vs.length - i) (fun (i : Nat) (out : List Nat) (c : Nat) (b : Nat) => [(0, Is (.slice (some ⟨B, 0, none⟩) l l)), (1, tN vs), (2, NT .u64 q), (3, NT .i64 j), (9, NT .u64 c), (10, NT .u64 b), (16, tN vs), (17, NT .i64 vs.length), (18, NT .i64 i)]) (fun (i : Nat) (out : List Nat) (c : Nat) (b : Nat) => [Z, box B 24 (out.map bE)]) 0 us 0 0 (pR.start hu vs q j)
  (zS rfl) (bP.refl _) (fun i out c b hS=>?_)
 refine ts (ro rfl (gX (Ht rfl) (Ht rfl)) (eX (cK (dQ (Ht rfl) (fun hb=>?_) (fun hb=>?_)))))
 ·simp at hb
  have hlen:=hS.len; have hcl:=hS.clt; have hbl:=hS.ble; have hvi:=aM hv i; have hok:=aM hS.dig (i + j)
  have hp:=Im hq hvi hS.clt
  simp only [BB] at hp hcl hvi hok
  obtain ⟨p,hp1⟩:∃ p,p = q * vs.getD i 0 + c:=⟨_,rfl⟩
  obtain ⟨x,hx1⟩:∃ x,x = ((out.getD (i + j) 0 + 18446744073709551616 - p % 4294967296) % 18446744073709551616 + 18446744073709551616 - b) % 18446744073709551616:=⟨_,rfl⟩
  refine cU (cK (eG (ts (rm rfl (ro rfl (dZ U_28 Z_24 (Ht rfl) (Ht rfl) rfl (dY (aF zo))) (ro rfl (dJ A_24 Z_24 (Ht rfl)) (ra rfl (ra rfl (eX (ts (rm rfl (rm rfl (ro rfl (gZ U_24 U_274 (Ht rfl) z7) (ro rfl (jL (Ht rfl) (Ht rfl) z7) (rm rfl (ro rfl (aE.nat (dV (Ht rfl) (Ht rfl) z7) hp1.symm) ?_))))))))))))))))
  refine ra rfl (eX (ts (rm rfl (ro rfl (dD (Ht rfl) (cJ 32) (by decide)) (ra rfl (eX (ts (rm rfl (rm rfl (rm rfl (ro rfl (dV (Ht rfl) (Ht rfl) z6) (ro rfl (fY U_28 Z_24 (Ht rfl) (Ht rfl) rfl zo (by rw [Nat.mul_one,Nat.zero_add])) ?_))))))))))))
  refine ro rfl (eY A_24 Z_24 (Ht rfl) (i:=1) rfl (dY (aF zo))) (ro rfl (gZ U_24 U_274 (Ht rfl) z7) (rm rfl (ro rfl (eL rfl U_274 U_24 (Ht rfl)) (ro rfl (gZ U_24 U_274 (Ht rfl) z7) (ro rfl (kK rfl (Ht rfl) (Ht rfl) (by show _ ≤ 18446744073709551616; first | omega | (simp only [kA]; omega))) ?_)))))
  refine rm rfl (ro rfl (aE.nat (kK rfl (Ht rfl) (Ht rfl) (by show _ ≤ 18446744073709551616; first | omega | (simp only [kA]; omega))) hx1.symm) (ra rfl (eX (ts (rm rfl (rm rfl (rm rfl (ro rfl (dV (Ht rfl) (Ht rfl) z6) (rm rfl (ro rfl (eL rfl U_274 U_24 (Ht rfl)) (ro rfl (fY U_28 Z_24 (Ht rfl) (Ht rfl) rfl zo (by rw [Nat.mul_one,Nat.zero_add])) ?_)))))))))))
  refine jN Z_24 (Ht rfl) (Ht rfl) (i:=1) rfl (by first | omega | (simp; omega)) rfl (eX (cY (rm rfl (ro rfl (dD (Ht rfl) (cJ 63) (by decide)) (ra rfl (eX (bD (cY (ro rfl (dV (Ht rfl) (cJ 1) z6) (rm rfl (eX (fU (i + 1,_,_,_) (hS.next hu hv hq hb hl hp1 (zG hok hbl hx1) rfl) (by dsimp only; omega) (zS rfl) (aU (fun _ _ _ h=>h) (aU (aC (eB _ _ _)) aY))))))))))))))
 ·simp at hb
  have hkl:i = vs.length:=Nat.le_antisymm hS.ile hb
  subst hkl
  have hlen:=hS.len; have hcl:=hS.clt; have hbl:=hS.ble; have hok:=aM hS.dig (j + vs.length)
  obtain ⟨x,hx1⟩:∃ x,x = ((out.getD (j + vs.length) 0 + 18446744073709551616 - c) % 18446744073709551616 + 18446744073709551616 - b) % 18446744073709551616:=⟨_,rfl⟩
  have hfin:=hS.fin hl (zH hok hcl hbl hx1) rfl
  simp only [BB] at hcl hok
  refine gV rfl (ts (rm rfl (rm rfl (rm rfl (ro rfl (dG U_28 (Ht rfl) aA) (ro rfl (dV (Ht rfl) (Ht rfl) z6) (ro rfl (fY U_28 Z_24 (Ht rfl) (Ht rfl) rfl zo (by rw [Nat.mul_one,Nat.zero_add])) ?_)))))))
  refine ro rfl (eY A_24 Z_24 (Ht rfl) (i:=1) rfl (dY (aF zo))) (ro rfl (gZ U_24 U_274 (Ht rfl) z7) (rm rfl (ro rfl (kK rfl (Ht rfl) (Ht rfl) (by show _ ≤ 18446744073709551616; first | omega | (simp only [kA]; omega))) (rm rfl (ro rfl (aE.nat (kK rfl (Ht rfl) (Ht rfl) (by show _ ≤ 18446744073709551616; first | omega | (simp only [kA]; omega))) hx1.symm) (ra rfl (eX (ts (rm rfl (rm rfl (rm rfl (ro rfl (dG U_28 (Ht rfl) aA) ?_))))))))))))
  refine ro rfl (dV (Ht rfl) (Ht rfl) z6) (rm rfl (ro rfl (eL rfl U_274 U_24 (Ht rfl)) (ro rfl (fY U_28 Z_24 (Ht rfl) (Ht rfl) rfl zo (by rw [Nat.mul_one,Nat.zero_add])) ?_)))
  refine jN Z_24 (Ht rfl) (Ht rfl) (i:=1) rfl (by first | omega | (simp; omega)) rfl (eX (ts (rm rfl (ro rfl (dD (Ht rfl) (cJ 63) (by decide)) (ro rfl (gL (Ht rfl) (cJ 0)) (ra rfl (eX ?_)))))))
  exact kX (_,_) hfin [0,1] ⟨⟨_,rfl,fun _ _ _ h=>h⟩,⟨_,rfl,(aC (eB _ _ _))⟩,trivial⟩ (by decide) (yX rfl (eU rfl))
theorem Jq {m n:Nat} (hm:(dg m).length ≤ 17592186044415) (hn1:(dg n).length ≤ 17592186044416) (hn:n ≠ 0):bA Tryz.prog 202 [aD m,aD n] (eT [aD (m / n),aD (m % n)]):=by
 refine bA.intro Tryz.func202 rfl Tryz.ntmps202 rfl (fun cx=>(ts (ro rfl (cQ cV) (ro rfl (cQ cV) (eX (cK (ts (rm rfl (rm rfl (ro rfl (cZ Tryz.call129 (Pd zo zo) ⟨(Ht rfl),(Ht rfl),trivial⟩) (ro rfl (lH (Ht rfl) cV) (eX (dQ (Ht rfl) (fun hb=>?_) (fun hb=>?_))))))))))))))
 ·simp only [decide_eq_true_eq] at hb
  have hlt : m < n := by
   unfold lZ at hb
   split at hb
   ·assumption
   ·split at hb <;> simp at hb
  refine ts (rm rfl (ro rfl (cQ cV) (ra rfl (eX (bC rfl (fX (eU rfl) ?_) (fX (eU rfl) ?_))))))
  ·exact (fun v V h=>bS (Nat.div_eq_of_lt hlt).symm v V (gS v V h))
  ·exact (bS (Nat.mod_eq_of_lt hlt).symm)
 ·simp only [decide_eq_false_iff_not] at hb
  have hle : n ≤ m := by
   unfold lZ at hb
   split at hb
   ·simp at hb
   ·omega
  clear hb
  refine cU (cK (ts (rm rfl (ro rfl (dG U_28 (Ht rfl) aA) (ro rfl (bT (Ht rfl) (cJ 1)) (eX (dQ (Ht rfl) (fun h1=>?_) (fun h1=>?_))))))))
  ·simp at h1
   have hy0:=Pu h1
   have hyb:=aM (bB n) 0
   have hmod:=Nat.mod_lt m (show (dg n).getD 0 0 > 0 by omega)
   simp only [BB] at hyb
   refine ts (rm rfl (rm rfl (ro rfl (dZ U_28 Z_24 (Ht rfl) (cJ 0) rfl (dY (aF zo))) (ro rfl (dJ A_24 Z_24 (Ht rfl)) (ro rfl (cZ Tryz.call250 (Jy zo zo hyb) ⟨(Ht rfl),(Ht rfl),trivial⟩) (rm rfl (ro rfl (dK (Ht rfl) rfl) (ro rfl (dK (Ht rfl) rfl) (ra rfl (ra rfl (eX (ts (rm rfl (rm rfl (ro rfl (gZ U_24 U_274 (Ht rfl) z7) (ro rfl (cZ Tryz.call207 (By zo) ⟨(Ht rfl),trivial⟩) ?_))))))))))))))))
   refine ra rfl (ra rfl (eX (bC rfl (fX (eU rfl) ?_) (fX (eU rfl) ?_))))
   ·exact (bS (by rw [hy0]))
   ·exact (bS (by rw [hy0]))
  ·simp at h1
   have hl0:(dg n).length ≠ 0:=fun e=>hn (aI.1 e)
   have hyb:=aM (bB n) ((dg n).length - 1)
   obtain ⟨s,hs⟩:∃ s,s = 32 - bl ((dg n).getD ((dg n).length - 1) 0):=⟨_,rfl⟩
   obtain ⟨hs1,hvl,hvb⟩:=Et hn hs
   obtain ⟨hc1,hc2,hc3,hc4⟩:=Em (m:=m) hs1
   simp only [BB] at hyb
   have hp2:0 < 2 ^ s:=Nat.pow_pos (by decide)
   have hX0:(dg (m * 2 ^ s)).length ≠ 0:=fun e=>(Nat.ne_of_gt (Nat.mul_pos (show 0 < m by omega) hp2)) (aI.1 e)
   have hmono:=fR hle
   refine cU (ts (rm rfl (ro rfl (dG U_28 (Ht rfl) aA) (rm rfl (rm rfl (ro rfl (dG U_28 (Ht rfl) aA) (ro rfl (dW (Ht rfl) (cJ 1) zo z6) (ro rfl (dZ U_28 Z_24 (Ht rfl) (Ht rfl) rfl (dY (aF zo))) (ro rfl (dJ A_24 Z_24 (Ht rfl)) (ro rfl (aE.nat (cZ Tryz.call251 (Zs zo) ⟨(Ht rfl),trivial⟩) hs.symm) (ra rfl (ra rfl (eX (ts (rm rfl (rm rfl (ro rfl (cZ Tryz.call206 (Yc zo zo) ⟨(Ht rfl),(Ht rfl),trivial⟩) ?_)))))))))))))))))
   refine ra rfl (eX (ts (rm rfl (ro rfl (dG U_28 (Ht rfl) aA) (ro rfl (dV (Ht rfl) (cJ 1) z6) (rn rfl (eI (T:=bE 0) (i:=Tryz.t24) V_28 iO rfl rfl (Ht rfl) rfl (fun _=>rfl) trivial (by show 4 * _ ≤ _; omega) zo) fun B55=>(ra rfl (eX (ts (rm rfl (rm rfl (rm rfl (ro rfl (cZ Tryz.call206 (Yc zo zo) ⟨(Ht rfl),(Ht rfl),trivial⟩) (Iz U_28 Z_24 (Ht rfl) (Ht rfl) (Qs hX0) Yp (i:=0) rfl (by simp) (by simp; omega) (En _ _) rfl rfl ?_))))))))))))))
   refine eX (ts (rm rfl (ro rfl (iY U_28 (Ht rfl)) (rm rfl (ro rfl (dW (Ht rfl) (Ht rfl) zo z6) (rn rfl (eI (T:=bE 0) (i:=Tryz.t24) V_28 iO rfl rfl (Ht rfl) rfl (fun _=>rfl) trivial (by show 4 * _ ≤ _; omega) zo) fun B65=>(ra rfl (eX (cK (ts (rm rfl (ro rfl (iY U_28 (Ht rfl)) (ro rfl (gT (Ht rfl) cV (vT zo)) (ra rfl (eX (eG ?_))))))))))))))))
   obtain ⟨vs,hvs⟩:∃ vs,vs = dg (n * 2 ^ s):=⟨_,rfl⟩
   rw [← hvs] at hvl hvb
   have hv:jI vs:=hvs ▸ bB _
   have hvv:val vs = n * 2 ^ s:=by rw [hvs,bL]
   have hV0:0 < val vs:=by rw [hvv]; exact Nat.mul_pos zo hp2
   have hnr:=Ks hv zo hvb
   have hv1:=hnr.v1lt; have hv2:=hnr.v2lt; have hbig:=hnr.big
   simp only [BB] at hv1 hv2 hbig
   refine iT (fun (k : Nat) (us : List Nat) (qs : List Nat) => mI (m * 2 ^ s) vs us qs k ∧ us.length = (dg m).length + 1) (fun (k : Nat) (us : List Nat) (qs : List Nat) => k) (fun (k : Nat) (us : List Nat) (qs : List Nat) => [(8, NT .i64 vs.length), (9, NT .i64 s), (10, tN vs), (11, Is (.slice (some ⟨B55, 0, none⟩) ((dg m).length + 1) ((dg m).length + 1))), (12, Is (.slice (some ⟨B65, 0, none⟩) ((dg m).length + 1 - (dg n).length) ((dg m).length + 1 - (dg n).length))), (13, aL .i64 ((k : Int) - 1))]) (fun (k : Nat) (us : List Nat) (qs : List Nat) => [box B55 24 (us.map bE), box B65 24 (qs.map bE)]) ((dg m).length + 1 - (dg n).length) (yC m s) (List.replicate ((dg m).length + 1 - (dg n).length) 0) ⟨mI.start hv zo hvb hs1 (by have := iC (bB m); rwa [bL] at this) hc3 hc2 hc4 zo, hc2⟩
    (aZ rfl (kR hvl.symm) (aQ rfl (aZ rfl (fun v V h=>by rw [hvs]; exact h) (aQ rfl (aQ rfl (aZ rfl (aH zo) aX)))))) (aU (fun _ _ _ h=>h) (aU (aC (jM _)) aY)) (fun k us qs ⟨hS,hus⟩=>?_)
   refine cK (ts (rm rfl (ro rfl (jP (Ht rfl) cV) (eX (dQ (Ht rfl) (fun hk=>?_) (fun hk=>?_))))))
   ·simp at hk
    obtain ⟨j,rfl⟩:∃ j,k = j + 1:=⟨k - 1,by omega⟩
    have htp:=hS.top hv zo (Nat.succ_pos j) rfl
    have hkq:=hS.kle; have hlq:=hS.lenq
    rw [Nat.add_sub_cancel] at htp
    have hu0:=aM hS.dig (j + vs.length); have hu1:=aM hS.dig (j + vs.length - 1); have hu2:=aM hS.dig (j + vs.length - 2)
    have ht64:=Su hu0 hu1; have hsh:=Gc hu0
    obtain ⟨top,htop⟩:∃ top,top = us.getD (j + vs.length) 0 * BB + us.getD (j + vs.length - 1) 0:=⟨_,rfl⟩
    have hor:=(sH (a:=us.getD (j + vs.length) 0) hu1).trans htop.symm
    rw [← htop] at htp ht64
    have hu2b:=hu2
    simp only [BB] at hu0 hu1 hu2
    refine xQ (E':=[(8,_),(9,_),(10,_),(11,_),(12,_),(13,_),(69,_),(70,_)]) (aQ rfl (aQ rfl (aQ rfl (aQ rfl (aQ rfl (aZ rfl (aH (show ((j + 1:Nat):Int) - 1 = (j:Int) by omega)) (zS rfl))))))) (cU (cK (eG (cK (fZ (m:=16) (dp 11 rfl (cX (Ht rfl)) (dp 13 rfl (cX (Ht rfl)) (dp 8 rfl (cX (Ht rfl)) (cI 74 1 75 2 rfl (dV (Ht rfl) (Ht rfl) z6) (cI 73 0 76 3 rfl (fY U_28 Z_24 (Ht rfl) (Ht rfl) rfl zo (by rw [Nat.mul_one,Nat.zero_add])) ?_))))))))))
    refine dq 77 4 rfl (eY A_24 Z_24 (Ht rfl) (i:=0) rfl (dY (aF zo))) (dq 78 5 rfl (gZ U_24 U_274 (Ht rfl) z7) (dq 79 6 rfl (lR (Ht rfl) (cJ 32) (by decide) hsh) (dp 11 rfl (cX (Ht rfl)) (dp 13 rfl (cX (Ht rfl)) (dp 8 rfl (cX (Ht rfl)) (cI 82 9 83 10 rfl (dV (Ht rfl) (Ht rfl) z6) (dq 84 11 rfl (dW (Ht rfl) (cJ 1) zo z6) ?_)))))))
    refine cI 81 8 85 12 rfl (fY U_28 Z_24 (Ht rfl) (Ht rfl) rfl zo (by rw [Nat.mul_one,Nat.zero_add])) ?_
    refine dq 86 13 rfl (eY A_24 Z_24 (Ht rfl) (i:=0) rfl (dY (aF zo))) (dq 87 14 rfl (gZ U_24 U_274 (Ht rfl) z7) (fV aO rfl (by kernel_rfl) (zF (zF (zF (zF (aV (ro rfl (aE.nat (nF rfl (Ht rfl) (Ht rfl) z7 z7) hor) ?_))))))))
    refine ra rfl (eX (cK (fZ (m:=17) (dp 14 rfl (cX (Ht rfl)) (dp 10 rfl (cX (Ht rfl)) (dp 8 rfl (cX (Ht rfl)) (dq 92 2 rfl (dW (Ht rfl) (cJ 1) zo z6) (cI 91 1 93 3 rfl (dZ U_28 Z_24 (Ht rfl) (Ht rfl) rfl (dY (aF zo))) (dq 94 4 rfl (dJ A_24 Z_24 (Ht rfl)) (dq 95 5 rfl (gZ U_24 U_274 (Ht rfl) z7) ?_))))))))))
    refine cI 90 0 96 6 rfl (iI (Ht rfl) (Ht rfl) zo (by show _ < 18446744073709551616; exact ht64)) (dp 14 rfl (cX (Ht rfl)) (dp 10 rfl (cX (Ht rfl)) (dp 8 rfl (cX (Ht rfl)) (dq 100 10 rfl (dW (Ht rfl) (cJ 1) zo z6) (cI 99 9 101 11 rfl (dZ U_28 Z_24 (Ht rfl) (Ht rfl) rfl (dY (aF zo))) (dq 102 12 rfl (dJ A_24 Z_24 (Ht rfl)) (dq 103 13 rfl (gZ U_24 U_274 (Ht rfl) z7) ?_)))))))
    refine cI 98 8 104 14 rfl (jW (Ht rfl) (Ht rfl) zo) (dq 97 7 rfl (cQ (Ht rfl)) (fV aO rfl (by kernel_rfl) (zF (zF (zF (zF (aJ (aV (ra rfl (eX (cK (iJ (fun (g:Nat)=>Gr (val (us.drop j)) (val vs) g) (fun (g:Nat)=>[(8,NT .i64 vs.length),(9,NT .i64 s),(10,tN vs),(11,Is (.slice (some ⟨B55,0,none⟩) ((dg m).length + 1) ((dg m).length + 1))),(12,Is (.slice (some ⟨B65,0,none⟩) ((dg m).length + 1 - (dg n).length) ((dg m).length + 1 - (dg n).length))),(13,NT .i64 j),(15,NT .u64 g)]) (fun (g:Nat)=>[box B55 24 (us.map bE),box B65 24 (qs.map bE)]) ?_ (fun g hg=>?_)))))))))))))
    ·refine eG ?_
     refine fN (fun (g : Nat) (r : Nat) => kM (val (us.drop j)) (val vs) (vs.getD (vs.length - 1) 0) top g r ∧ r < 4294967296) (fun (g : Nat) (r : Nat) => g) (fun (g : Nat) (r : Nat) => [(8, NT .i64 vs.length), (9, NT .i64 s), (10, tN vs), (11, Is (.slice (some ⟨B55, 0, none⟩) ((dg m).length + 1) ((dg m).length + 1))), (12, Is (.slice (some ⟨B65, 0, none⟩) ((dg m).length + 1 - (dg n).length) ((dg m).length + 1 - (dg n).length))), (13, NT .i64 j), (15, NT .u64 g), (16, NT .u64 r)]) (fun (g : Nat) (r : Nat) => [box B55 24 (us.map bE), box B65 24 (qs.map bE)]) (top / vs.getD (vs.length - 1) 0) (top % vs.getD (vs.length - 1) 0) ⟨kM.start hnr htp, Nat.lt_trans (Nat.mod_lt _ zo) hv1⟩
      (zS rfl) (bP.refl _) (fun g r ⟨hG,hr⟩=>?_)
     have hgl:=(hG.glt hnr htp).1
     have hrs:=Gc (a:=r) hr
     have horr:=sH (a:=r) hu2b
     simp only [BB] at hgl
     refine cK (cK (fZ (m:=22) (dp 15 rfl (cX (Ht rfl)) (dq 106 0 rfl (nS (Ht rfl) (cJ 4294967296)) (dq 107 1 rfl (cX (Ht rfl)) (C.D_step (Ei:=[(15,_),(108,_)]) rfl rfl (bV (bK rfl rfl) (bV (bG 2 rfl rfl) bW)) (eK rfl rfl (Ht rfl) (fun h=>cX (Ht rfl))) (C.D_step (Ei:=[(10,_),(108,_)]) rfl rfl (bV (bK rfl rfl) (bV (bG 2 rfl rfl) bW)) (eK rfl rfl (Ht rfl) (fun h=>cX (Ht rfl))) (C.D_step (Ei:=[(8,_),(108,_)]) rfl rfl (bV (bK rfl rfl) (bV (bG 2 rfl rfl) bW)) (eK rfl rfl (Ht rfl) (fun h=>cX (Ht rfl))) ?_))))))))
     refine C.D_step (Ei:=[(111,_),(108,_)]) rfl rfl (bV (bG 5 rfl rfl) (bV (bG 2 rfl rfl) bW)) (eK rfl rfl (Ht rfl) (fun h=>dW (fJ rfl h) (cJ 2) (by first | omega | (simp at h; omega)) (by show _ < 9223372036854775808; first | omega | (simp at h; omega)))) (C.D_step (Ei:=[(110,_),(112,_),(108,_)]) rfl rfl (bV (bG 4 rfl rfl) (bV (bG 6 rfl rfl) (bV (bG 2 rfl rfl) bW))) (eK rfl rfl (Ht rfl) (fun h=>dZ U_28 Z_24 (fJ rfl h) (fJ rfl h) rfl (dY (aF (by first | omega | (simp at h; omega)))))) ?_)
     refine C.D_step (Ei:=[(113,_),(108,_)]) rfl rfl (bV (bG 7 rfl rfl) (bV (bG 2 rfl rfl) bW)) (eK rfl rfl (Ht rfl) (fun h=>dJ A_24 Z_24 (fJ rfl h))) (C.D_step (Ei:=[(114,_),(108,_)]) rfl rfl (bV (bG 8 rfl rfl) (bV (bG 2 rfl rfl) bW)) (eK rfl rfl (Ht rfl) (fun h=>gZ U_24 U_274 (fJ rfl h) (by show _ < 18446744073709551616; first | omega | (simp at h; omega)))) (C.D_step (Ei:=[(109,_),(115,_),(108,_)]) rfl rfl (bV (bG 3 rfl rfl) (bV (bG 9 rfl rfl) (bV (bG 2 rfl rfl) bW))) (eK rfl rfl (Ht rfl) (fun h=>jL (fJ rfl h) (fJ rfl h) (by show _ < 18446744073709551616; simp at h; exact Yl h hv2))) ?_))
     refine C.D_step (Ei:=[(16,_),(108,_)]) rfl rfl (bV (bK rfl rfl) (bV (bG 2 rfl rfl) bW)) (eK rfl rfl (Ht rfl) (fun h=>cX (Ht rfl))) (C.D_step (Ei:=[(117,_),(108,_)]) rfl rfl (bV (bG 11 rfl rfl) (bV (bG 2 rfl rfl) bW)) (eK rfl rfl (Ht rfl) (fun h=>lR (fJ rfl h) (cJ 32) (by decide) hrs)) (C.D_step (Ei:=[(11,_),(108,_)]) rfl rfl (bV (bK rfl rfl) (bV (bG 2 rfl rfl) bW)) (eK rfl rfl (Ht rfl) (fun h=>cX (Ht rfl))) (C.D_step (Ei:=[(13,_),(108,_)]) rfl rfl (bV (bK rfl rfl) (bV (bG 2 rfl rfl) bW)) (eK rfl rfl (Ht rfl) (fun h=>cX (Ht rfl))) ?_)))
     refine C.D_step (Ei:=[(8,_),(108,_)]) rfl rfl (bV (bK rfl rfl) (bV (bG 2 rfl rfl) bW)) (eK rfl rfl (Ht rfl) (fun h=>cX (Ht rfl))) (C.D_step (Ei:=[(120,_),(121,_),(108,_)]) rfl rfl (bV (bG 14 rfl rfl) (bV (bG 15 rfl rfl) (bV (bG 2 rfl rfl) bW))) (eK rfl rfl (Ht rfl) (fun h=>dV (fJ rfl h) (fJ rfl h) (by show _ < 9223372036854775808; first | omega | (simp at h; omega)))) (C.D_step (Ei:=[(122,_),(108,_)]) rfl rfl (bV (bG 16 rfl rfl) (bV (bG 2 rfl rfl) bW)) (eK rfl rfl (Ht rfl) (fun h=>dW (fJ rfl h) (cJ 2) (by first | omega | (simp at h; omega)) (by show _ < 9223372036854775808; first | omega | (simp at h; omega)))) ?_))
     refine C.D_step (Ei:=[(119,_),(123,_),(108,_)]) rfl rfl (bV (bG 13 rfl rfl) (bV (bG 17 rfl rfl) (bV (bG 2 rfl rfl) bW))) (eK rfl rfl (Ht rfl) (fun h=>fY U_28 Z_24 (fJ rfl h) (fJ rfl h) rfl (by first | omega | (simp at h; omega)) (by rw [Nat.mul_one,Nat.zero_add]))) ?_
     refine C.D_step (Ei:=[(124,_),(108,_)]) rfl rfl (bV (bG 18 rfl rfl) (bV (bG 2 rfl rfl) bW)) (eK rfl rfl (Ht rfl) (fun h=>eY A_24 Z_24 (fJ rfl h) (i:=0) rfl (dY (aF zo)))) (C.D_step (Ei:=[(125,_),(108,_)]) rfl rfl (bV (bG 19 rfl rfl) (bV (bG 2 rfl rfl) bW)) (eK rfl rfl (Ht rfl) (fun h=>gZ U_24 U_274 (fJ rfl h) (by show _ < 18446744073709551616; first | omega | (simp at h; omega)))) (C.D_step (Ei:=[(118,_),(126,_),(108,_)]) rfl rfl (bV (bG 12 rfl rfl) (bV (bG 20 rfl rfl) (bV (bG 2 rfl rfl) bW))) (eK rfl rfl (Ht rfl) (fun h=>aE.nat (nF rfl (fJ rfl h) (fJ rfl h) (by show _ < 18446744073709551616; first | omega | (simp at h; omega)) (by show _ < 18446744073709551616; first | omega | (simp at h; omega))) horr)) ?_))
     refine fV aO rfl (by kernel_rfl) (zF (zF (zF (zF (zF (aJ (aJ (aV (fQ rfl rfl (eK rfl rfl (Ht rfl) (fun h=>cH (fJ rfl h) (fJ rfl h))) (ro rfl (iR (Ht rfl) (fun h=>(fJ rfl h))) (eX (dQ (Ht rfl) (fun hc=>?_) (fun hc=>?_)))))))))))))
     ·have hn2 := hG.next hnr htp (by simpa [BB] using hc)
      have hg1:=hn2.2
      refine cU (eG (ts (rm rfl (ro rfl (dW (Ht rfl) (cJ 1) zo z7) (ra rfl (eX (ts (rm rfl (rm rfl (rm rfl (ro rfl (dW (Ht rfl) (cJ 1) zo z6) (ro rfl (dZ U_28 Z_24 (Ht rfl) (Ht rfl) rfl (dY (aF zo))) (ro rfl (dJ A_24 Z_24 (Ht rfl)) (ro rfl (gZ U_24 U_274 (Ht rfl) z7) ?_))))))))))))))
      refine ro rfl (dV (Ht rfl) (Ht rfl) z7) (ra rfl (eX (ts (rm rfl (ro rfl (nS (Ht rfl) (cJ 4294967296)) (eX (dQ (Ht rfl) (fun hr2=>?_) (fun hr2=>?_))))))))
      ·simp at hr2
       refine gV rfl (aN (g - 1) (hn2.1.stop hnr htp hr2) (zS rfl) (bP.refl _))
      ·simp at hr2
       refine cU (bD (fU (g - 1,_) ⟨hn2.1,hr2⟩ (by dsimp only; omega) (zS rfl) (bP.refl _)))
     ·simp at hc
      refine gV rfl (aN g (hG.done hnr htp hc.1 hc.2) (zS rfl) (bP.refl _))
    ·have hglt := hg.lt
     simp only [BB] at hglt
     refine cK (nK (fun (us2:List Nat) (g2:Nat)=>mI (m * 2 ^ s) vs us2 (qs.set j g2) j ∧ g2 < 4294967296 ∧ us2.length = (dg m).length + 1) (fun (us2:List Nat) (g2:Nat)=>[(8,NT .i64 vs.length),(9,NT .i64 s),(10,tN vs),(11,Is (.slice (some ⟨B55,0,none⟩) ((dg m).length + 1) ((dg m).length + 1))),(12,Is (.slice (some ⟨B65,0,none⟩) ((dg m).length + 1 - (dg n).length) ((dg m).length + 1 - (dg n).length))),(13,NT .i64 j),(15,NT .u64 g2)]) (fun (us2:List Nat) (g2:Nat)=>[box B55 24 (us2.map bE),box B65 24 (qs.map bE)]) ?_ (fun us2 g2 ⟨hD,hg2,hus2⟩=>?_))
     ·refine ts (rm rfl (rm rfl (rm rfl (rm rfl (Bo Tryz.call252 (Zy hus hS.dig hv hg.lt zo zo) (i := 0) rfl ⟨(Ht rfl), (Ht rfl), (Ht rfl), (Ht rfl), trivial⟩ rfl (fun ⟨out, b⟩ hT => ?_))))))
      dsimp only at hT
      refine eX (dQ (Ht rfl) (fun hbb=>?_) (fun hbb=>?_))
      ·have hbb : b = true := hbb
       subst hbb
       have hg0:=hS.gpos hv rfl zo hT
       have hol:=hT.len
       refine ts (rm rfl (ro rfl (dW (Ht rfl) (cJ 1) zo z7) (ra rfl (eX (ts (ro rfl (cQ (cJ 0)) (eX (cK (ts (rm rfl (ro rfl (dG U_28 (Ht rfl) aA) (ro rfl (cX (cJ 0)) (eX (eG ?_))))))))))))))
       refine iT (fun (i : Nat) (out2 : List Nat) (c : Nat) => pP out vs j out2 i c) (fun (i : Nat) (out2 : List Nat) (c : Nat) => vs.length - i) (fun (i : Nat) (out2 : List Nat) (c : Nat) => [(8, NT .i64 vs.length), (9, NT .i64 s), (10, tN vs), (11, Is (.slice (some ⟨B55, 0, none⟩) ((dg m).length + 1) ((dg m).length + 1))), (12, Is (.slice (some ⟨B65, 0, none⟩) ((dg m).length + 1 - (dg n).length) ((dg m).length + 1 - (dg n).length))), (13, NT .i64 j), (15, NT .u64 (g - 1 : Nat)), (17, NT .u64 c), (149, tN vs), (150, NT .i64 vs.length), (151, NT .i64 i)]) (fun (i : Nat) (out2 : List Nat) (c : Nat) => [box B55 24 (out2.map bE), box B65 24 (qs.map bE)]) 0 out 0 (pP.start hT.dig vs j)
        (zS rfl) (bP.refl _) (fun i out2 c hB=>?_)
       refine ts (ro rfl (gX (Ht rfl) (Ht rfl)) (eX (cK (dQ (Ht rfl) (fun hi=>?_) (fun hi=>?_)))))
       ·simp at hi
        have hlen:=hB.len; have hcl:=hB.cle; have hvi:=aM hv i; have hok:=aM hB.dig (i + j)
        simp only [BB] at hvi hok
        refine cU (cK (eG (ts (rm rfl (ro rfl (dZ U_28 Z_24 (Ht rfl) (Ht rfl) rfl (dY (aF zo))) (ro rfl (dJ A_24 Z_24 (Ht rfl)) (ra rfl (ra rfl (eX (ts (rm rfl (rm rfl (rm rfl (rm rfl (ro rfl (dV (Ht rfl) (Ht rfl) z6) (ro rfl (fY U_28 Z_24 (Ht rfl) (Ht rfl) rfl zo (by rw [Nat.mul_one,Nat.zero_add])) ?_))))))))))))))))
        refine ro rfl (eY A_24 Z_24 (Ht rfl) (i:=0) rfl (dY (aF zo))) (ro rfl (gZ U_24 U_274 (Ht rfl) z7) (rm rfl (ro rfl (gZ U_24 U_274 (Ht rfl) z7) (ro rfl (dV (Ht rfl) (Ht rfl) z7) (ro rfl (dV (Ht rfl) (Ht rfl) z7) ?_)))))
        refine ra rfl (eX (ts (rm rfl (rm rfl (rm rfl (ro rfl (dV (Ht rfl) (Ht rfl) z6) (rm rfl (ro rfl (eL rfl U_274 U_24 (Ht rfl)) (ro rfl (fY U_28 Z_24 (Ht rfl) (Ht rfl) rfl zo (by rw [Nat.mul_one,Nat.zero_add])) ?_)))))))))
        refine jN Z_24 (Ht rfl) (Ht rfl) (i:=0) rfl (by first | omega | (simp; omega)) rfl (eX (cY (rm rfl (ro rfl (dD (Ht rfl) (cJ 32) (by decide)) (ra rfl (eX (bD (cY (ro rfl (dV (Ht rfl) (cJ 1) z6) (rm rfl (eX (fU (i + 1,_,_) (hB.next hv hi zo rfl) (by dsimp only; omega) (zS rfl) (aU (aC (eB _ _ _)) (aU (fun _ _ _ h=>h) aY))))))))))))))
       ·simp at hi
        have hil:i = vs.length:=Nat.le_antisymm hB.ile hi
        subst hil
        have hlen:=hB.len; have hcl:=hB.cle; have hok:=aM hB.dig (j + vs.length)
        have hBk:=hB.fin zo rfl
        obtain ⟨_,hDn⟩:=hS.wrong hv hV0 (Nat.succ_pos j) rfl hg hT hBk
        simp only [BB] at hok
        refine gV rfl (cY (rm rfl (rm rfl (rm rfl (ro rfl (dV (Ht rfl) (Ht rfl) z6) (ro rfl (fY U_28 Z_24 (Ht rfl) (Ht rfl) rfl zo (by rw [Nat.mul_one,Nat.zero_add])) ?_))))))
        refine ro rfl (eY A_24 Z_24 (Ht rfl) (i:=0) rfl (dY (aF zo))) (rm rfl (ro rfl (gZ U_274 U_24 (Ht rfl) (by show _ < 4294967296; first | omega | (simp only [kA]; omega))) (ro rfl (Ku rfl (Ht rfl) (Ht rfl)) (ro rfl (fY U_28 Z_24 (Ht rfl) (Ht rfl) rfl zo (by rw [Nat.mul_one,Nat.zero_add])) ?_))))
        refine jN Z_24 (Ht rfl) (Ht rfl) (i:=0) rfl (by first | omega | (simp; omega)) rfl (eX (aN (_,g - 1) ⟨hDn,by dsimp only; omega,by simp; omega⟩ (zS rfl) (aU (aC (eB _ _ _)) (aU (fun _ _ _ h=>h) aY))))
      ·have hbb : b = false := hbb
       subst hbb
       have hol:=hT.len
       refine cU (aN (out,g) ⟨hS.right hv hV0 (Nat.succ_pos j) rfl hg hT,hglt,by dsimp only; omega⟩ (zS rfl) (bP.refl _))
     ·refine cY (rm rfl (rm rfl (rm rfl (ro rfl (gZ U_274 U_24 (Ht rfl) (by show _ < 4294967296; first | omega | (simp only [kA]; omega))) (ro rfl (fY U_28 Z_24 (Ht rfl) (Ht rfl) rfl zo (by rw [Nat.mul_one, Nat.zero_add])) ?_)))))
      refine jN Z_24 (Ht rfl) (Ht rfl) (i:=1) rfl (by first | omega | (simp; omega)) rfl (eX (bD (cY (rm rfl (ro rfl (gT (Ht rfl) cV (vT zo)) (ra rfl (eX (fU (j,us2,_) ⟨hD,hus2⟩ (by dsimp only; omega) (zS rfl) (aU (fun _ _ _ h=>h) (aU (aC (eB _ _ _)) aY))))))))))
   ·simp at hk
    have hk0:k = 0:=by omega
    subst hk0
    have hfin:=hS.fin hV0
    have hlq:=hS.lenq
    rw [hvv] at hfin
    have hdiv:val qs = m / n:=by rw [hfin.1]; exact Nat.mul_div_mul_right _ _ hp2
    have hsm:val us < BB ^ vs.length:=by have h1:=hS.small; rw [List.drop_zero] at h1; exact Nat.lt_trans h1 (iC hv)
    have hmod : val (us.take vs.length) / 2 ^ s = m % n := by
     rw [mR hsm zo,hfin.2,Nat.mul_mod_mul_right,Nat.mul_div_cancel _ hp2]
    have hru : (dg (val (us.take vs.length))).length ≤ 17592186044416 := by
     refine Nat.le_trans (iU (k:=vs.length) ?_) zo
     rw [mR hsm zo]; exact hsm
    refine gV rfl (gJ (i:=1) (tt:=12) rfl rfl (jZ rfl zo (Nat.le_refl _)) (gJ (i:=0) (tt:=11) rfl rfl (jZ rfl zo (Nat.le_refl _)) (cK (fZ (m:=7) (dp 12 rfl (cX (Ht rfl)) (dq 193 0 rfl (cZ K_203 (oS _ hS.digq zo) ⟨(Ht rfl),trivial⟩) (dp 11 rfl (cX (Ht rfl)) (dp 8 rfl (cX (Ht rfl)) (cI 195 2 196 3 rfl (aE.imp (rP U_28 Z_24 (Ht rfl) (Ht rfl) (fun m e=>by cases e) zo (by simp; omega) rfl) (Kd _ _)) ?_)))))))))
    refine dq 197 4 rfl (cZ K_203 (oS _ (hS.dig.take' vs.length) (by simp; omega)) ⟨(Ht rfl),trivial⟩) ?_
    refine dp 9 rfl (cX (Ht rfl)) (fV aO rfl (by kernel_rfl) (zF (aJ (aJ (aJ (aV (ro rfl (cZ Tryz.call253 (a1b hru zo) ⟨(Ht rfl),(Ht rfl),trivial⟩) (ra rfl (ra rfl (eX (bC rfl (fX (eU rfl) ?_) (fX (eU rfl) ?_))))))))))))
    ·exact (bS hdiv)
    ·exact (bS hmod)
end
section
open Go Go.RowKit
theorem Qj:Tryz.prog.info? 5 = some Tryz.t5:=by kernel_rfl
theorem xC:Tryz.prog.underlying 341 = some (.slice 5):=by kernel_rfl
theorem Ys:Tryz.prog.underlying 5 = some (.int .u8):=by kernel_rfl
theorem Yt:Tryz.prog.underlying 9 = some (.string):=by kernel_rfl
end
section
open Go Go.RowKit
theorem Xy {m n:Nat} (hm:(dg m).length ≤ 17592186044415) (hn:(dg n).length ≤ 17592186044415):bA Tryz.prog 200 [aD m,aD n] (aD (Nat.gcd m n)):=by
 refine bA.intro Tryz.func200 rfl Tryz.ntmps200 rfl (fun cx=>(ts (ro rfl (cQ cV) (eX (cK (eG ?_))))))
 refine fN (fun (x : Nat) (y : Nat) => Nat.gcd x y = Nat.gcd m n ∧ (dg x).length ≤ 17592186044415 ∧ (dg y).length ≤ 17592186044415) (fun (x : Nat) (y : Nat) => y) (fun (x : Nat) (y : Nat) => [(0, aD x), (1, aD y)]) (fun (x : Nat) (y : Nat) => []) m n ⟨rfl, hm, hn⟩
  (zS rfl) aY (fun x y ⟨hg,hx,hy⟩=>?_)
 refine cK (ts (rm rfl (ro rfl (dG U_28 (Ht rfl) aA) (ro rfl (cH (Ht rfl) (cJ 0)) (eX (dQ (Ht rfl) (fun hb=>?_) (fun hb=>?_)))))))
 ·simp at hb
  have hy0:y ≠ 0:=fun e=>by rw [e,dC] at hb; simp at hb
  have hlt:=Nat.mod_lt x (Nat.pos_of_ne_zero hy0)
  refine cU (eG (ts (rm rfl (rm rfl (ro rfl (cZ Tryz.call202 (Jq hx zo hy0) ⟨(Ht rfl),(Ht rfl),trivial⟩) (rm rfl (ro rfl (dK (Ht rfl) rfl) (ro rfl (dK (Ht rfl) rfl) (ra rfl (ra rfl (eX (cY (rm rfl (rm rfl (ra rfl (ra rfl (eX (bD (fU (y,x % y) ⟨by rw [← hg,Nat.gcd_comm x y,Nat.gcd_rec y x,Nat.gcd_comm],hy,Nat.le_trans (fR (Nat.le_of_lt hlt)) hy⟩ hlt (zS rfl) aY)))))))))))))))))))
 ·simp at hb
  have hy0:y = 0:=aI.1 (by simpa using hb)
  subst hy0
  rw [Nat.gcd_zero_right] at hg
  refine gV rfl (ts (rm rfl (ra rfl (eX (fW rfl (fX (eU rfl) ?_))))))
  exact (bS hg)
theorem a1a {l:List Nat} {v:Value} (hl:l.length ≤ 1152921504606846976):iM Tryz.prog 283 [Is v] [bF 5 1 v (l.map vE)] Unit (fun _=>nJ) (fun _=>[bF 5 1 v (l.reverse.map vE)]) (fun _=>True):=by
 refine iM.intro Tryz.func283 rfl Tryz.ntmps283 rfl (fun cx Z=>(ts (rm rfl (ro rfl (rO U_341 (Ht rfl) (i:=1) rfl aA) (ro rfl (gT (Ht rfl) cV (vT zo)) (ro rfl (cQ (cJ 0)) (ra rfl (eX (eG ?_)))))))))
 refine fN (fun (k : Nat) (o : List Nat) => xL l o k) (fun (k : Nat) (o : List Nat) => l.length - k) (fun (k : Nat) (o : List Nat) => [(0, Is v), (2, NT .i64 k), (3, aL .i64 ((l.length : Int) - 1 - (k : Int)))]) (fun (k : Nat) (o : List Nat) => [Z, bF 5 1 v (o.map vE)]) 0 l (xL.start l)
  (aQ rfl (aQ rfl (aZ rfl (aH zo) aX))) (bP.refl _) (fun k o hS=>?_)
 refine cK (ts (rm rfl (rm rfl (ro rfl (lH (Ht rfl) (Ht rfl)) (eX (dQ (Ht rfl) (fun hb=>?_) (fun hb=>?_)))))))
 ·simp only [decide_eq_true_eq] at hb
  have hk:2 * k + 1 < l.length:=by omega
  obtain ⟨j,hj⟩:∃ j,j = l.length - 1 - k:=⟨_,rfl⟩
  have hlen:=hS.len
  refine xQ (E':=[(0,_),(2,_),(3,_),(7,_),(8,_),(9,_)]) (aQ rfl (aQ rfl (aZ rfl (aH (show (l.length:Int) - 1 - (k:Int) = (j:Int) by omega)) (zS rfl)))) (cU (cK (eG (W.D_start (m:=14) (fun b=>cond b ([Z,bF 5 1 v ((o.map vE).set k (vE (o.getD j 0)))]) _) 13 (W.D_step (Ei:=[(0,_)]) rfl rfl (W.Srcs.cons (W.Src.pre rfl rfl) W.Srcs.nil) rfl (by kernel_rfl) (dX rfl (cX (Ht rfl))) (W.D_step (Ei:=[(2,_)]) rfl rfl (W.Srcs.cons (W.Src.pre rfl rfl) W.Srcs.nil) rfl (by kernel_rfl) (dX rfl (cX (Ht rfl))) ?_))))))
  refine W.D_pure (Ei:=[(0,_)]) rfl rfl (W.Srcs.cons (W.Src.pre rfl rfl) W.Srcs.nil) rfl (fun _=>dX rfl (cX (Ht rfl))) (W.D_pure (Ei:=[(3,_)]) rfl rfl (W.Srcs.cons (W.Src.pre rfl rfl) W.Srcs.nil) rfl (fun _=>dX rfl (cX (Ht rfl))) (W.D_step (Ei:=[(0,_)]) rfl rfl (W.Srcs.cons (W.Src.pre rfl rfl) W.Srcs.nil) rfl (by kernel_rfl) (dX rfl (cX (Ht rfl))) (W.D_step (Ei:=[(3,_)]) rfl rfl (W.Srcs.cons (W.Src.pre rfl rfl) W.Srcs.nil) rfl (by kernel_rfl) (dX rfl (cX (Ht rfl))) (W.D_step (Ei:=[(18,_),(19,_)]) rfl rfl (W.Srcs.cons (W.Src.op 4 rfl rfl) (W.Srcs.cons (W.Src.op 5 rfl rfl) W.Srcs.nil)) rfl (by kernel_rfl) (dX rfl (eR U_341 Z_5 (Ht rfl) (Ht rfl) rfl (i:=1) rfl (by first | omega | (simp; omega)) rfl)) ?_))))
  refine W.D_step (Ei:=[(20,_)]) rfl rfl (W.Srcs.cons (W.Src.op 6 rfl rfl) W.Srcs.nil) rfl (by kernel_rfl) (dX rfl (uV A_5 Z_5 (Ht rfl) (i:=1) rfl rfl (dY (aF zo)))) (W.D_step (Ei:=[(0,_)]) rfl rfl (W.Srcs.cons (W.Src.pre rfl rfl) W.Srcs.nil) rfl (by kernel_rfl) (dX rfl (cX (Ht rfl))) (W.D_step (Ei:=[(2,_)]) rfl rfl (W.Srcs.cons (W.Src.pre rfl rfl) W.Srcs.nil) rfl (by kernel_rfl) (dX rfl (cX (Ht rfl))) (W.D_step (Ei:=[(22,_),(23,_)]) rfl rfl (W.Srcs.cons (W.Src.op 8 rfl rfl) (W.Srcs.cons (W.Src.op 9 rfl rfl) W.Srcs.nil)) rfl (by kernel_rfl) (dX rfl (eR U_341 Z_5 (Ht rfl) (Ht rfl) rfl (i:=1) rfl (by first | omega | (simp; omega)) rfl)) ?_)))
  refine W.D_step (Ei:=[(24,_)]) rfl rfl (W.Srcs.cons (W.Src.op 10 rfl rfl) W.Srcs.nil) rfl (by kernel_rfl) (dX rfl (uV A_5 Z_5 (Ht rfl) (i:=1) rfl rfl (dY (aF zo)))) (W.D_step (Ei:=[(14,_),(15,_)]) rfl rfl (W.Srcs.cons (W.Src.op 0 rfl rfl) (W.Srcs.cons (W.Src.op 1 rfl rfl) W.Srcs.nil)) rfl (by kernel_rfl) (dX rfl (eR U_341 Z_5 (Ht rfl) (Ht rfl) rfl (i:=1) rfl (by first | omega | (simp; omega)) rfl)) (W.D_put (Ei:=[(26,_),(21,_)]) rfl rfl (W.Srcs.cons (W.Src.op 12 rfl rfl) (W.Srcs.cons (W.Src.op 7 rfl rfl) W.Srcs.nil)) rfl (Iy Z_5 (Ht rfl) (Ht rfl) El.one (i:=1) rfl rfl (by first | omega | (simp; omega))) ?_))
  refine W.D_done aO rfl (by kernel_rfl) rfl (W.F_val (W.F_val (W.F_val (W.F_val (W.F_val (W.F_val (W.F_val (W.F_val (W.F_val (W.F_val (W.F_val (W.F_val (W.F_val (W.F_put (W.F_nil (ro rfl (eR U_341 Z_5 (Ht rfl) (Ht rfl) rfl (i:=1) rfl (by first | omega | (simp; omega)) rfl) (mX Z_5 (Ht rfl) (Ht rfl) El.one (i:=1) rfl rfl (by first | omega | (simp; omega)) rfl (eX (bD (cY (rm rfl (ro rfl (dV (Ht rfl) (cJ 1) z6) (rm rfl (ro rfl (gT (Ht rfl) cV (vT zo)) ?_))))))))))))))))))))))))
  refine ra rfl (ra rfl (eX (fU (k + 1,_) (hS.next hk hj) (by dsimp only; omega) (aQ rfl (aQ rfl (aZ rfl (aH zo) aX))) (aU (fun _ _ _ h=>h) (aU (bN (Lv _ _ _ _ _)) aY)))))
 ·simp only [decide_eq_false_iff_not] at hb
  have hfin:=hS.fin (by have:=hS.kle; omega)
  refine gV rfl ?_
  exact Zb () trivial [0,1] ⟨⟨_,rfl,fun _ _ _ h=>h⟩,⟨_,rfl,(bN (by rw [hfin]))⟩,trivial⟩ (by decide) (a1L rfl (fun _=>trivial))
theorem Dz {m:Nat} (hm:(dg m).length ≤ 8796093022208):bA Tryz.prog 243 [aD m] (nY (rW m)):=by
 refine bA.intro Tryz.func243 rfl Tryz.ntmps243 rfl (fun cx=>(ts (ro rfl (cQ (aS.cS (l:=[]) rfl)) (eX (cK (ts (rm rfl (ro rfl (dG U_28 (Ht rfl) aA) (ro rfl (bT (Ht rfl) (cJ 0)) (eX (dQ (Ht rfl) (fun hb=>?_) (fun hb=>?_))))))))))))
 ·simp at hb
  have h0:m = 0:=aI.1 (by simpa using hb)
  subst h0
  refine ts (ro rfl (cQ (aS.cS (l:=[48]) rfl)) (eX (fW rfl (fX (eU rfl) ?_))))
  exact (iK rfl)
 ·simp at hb
  have h0:m ≠ 0:=fun e=>hb (by rw [e,dC])
  refine cU (ts (ro rfl (cQ cV) (eX (cK (eG (xP 5 1 ?_))))))
  refine iT (fun (x : Nat) (out : List Nat) (v : Value) => xH m out x ∧ x ≤ m) (fun (x : Nat) (out : List Nat) (v : Value) => x) (fun (x : Nat) (out : List Nat) (v : Value) => [(0, aD x), (3, Is v)]) (fun (x : Nat) (out : List Nat) (v : Value) => [bF 5 1 v (out.map vE)]) m [] (.slice none 0 0) ⟨xH.start m, Nat.le_refl m⟩
   (zS rfl) (bP.refl _) (fun x out v ⟨hO,hle⟩=>?_)
  refine cK (ts (rm rfl (ro rfl (dG U_28 (Ht rfl) aA) (ro rfl (cH (Ht rfl) (cJ 0)) (eX (dQ (Ht rfl) (fun hc=>?_) (fun hc=>?_)))))))
  ·simp at hc
   have hx0:x ≠ 0:=fun e=>by rw [e,dC] at hc; simp at hc
   have hxm:=fR hle
   refine cU (eG (ts (ro rfl (cQ (cJ 0)) (eX (ts (rm rfl (ro rfl (cZ Tryz.call250 (Jy zo (by decide) (by decide)) ⟨(Ht rfl),(cJ 1000000000),trivial⟩) (rm rfl (ro rfl (dK (Ht rfl) rfl) (ro rfl (dK (Ht rfl) rfl) (ra rfl (ra rfl (eX (ts (ro rfl (cQ (cJ 0)) (eX (eG ?_)))))))))))))))))
   refine sO (fun (r : Nat) (k : Nat) (out : List Nat) (v : Value) => vW m out (x / 1000000000) r k) (fun (r : Nat) (k : Nat) (out : List Nat) (v : Value) => 9 - k) (fun (r : Nat) (k : Nat) (out : List Nat) (v : Value) => [(0, aD (x / 1000000000)), (3, Is v), (4, bE r), (5, NT .i64 k)]) (fun (r : Nat) (k : Nat) (out : List Nat) (v : Value) => [bF 5 1 v (out.map vE)]) (x % 1000000000) 0 out v (hO.inner)
    (zS rfl) (bP.refl _) (fun r k out v hI=>?_)
   refine cK (ts (rm rfl (ro rfl (gX (Ht rfl) (cJ 9)) (rm rfl (fQ rfl rfl (gU rfl rfl (Ht rfl) (fun h=>cX (Ht rfl))) (fQ rfl rfl (gU rfl rfl (Ht rfl) (fun h=>dG U_28 (aS.wu rfl h) aA)) (fQ rfl rfl (gU rfl rfl (Ht rfl) (fun h=>cH (aS.wu rfl h) (cJ 0))) (fQ rfl rfl (gU rfl rfl (Ht rfl) (fun h=>cX (aS.wu rfl h))) (fQ rfl rfl (oO rfl rfl rfl (fun h h2=>cX (Ht rfl))) (fQ rfl rfl (oO rfl rfl rfl (fun h h2=>cH (aS.wu rfl ⟨h,h2⟩) (cJ 0))) (fQ rfl rfl (gU rfl rfl (Ht rfl) (fun h=>iR (aS.wu rfl h) (fun h2=>(aS.wu rfl ⟨h,h2⟩)))) ?_)))))))))))
   refine ro rfl (cT (Ht rfl) (fun h=>(aS.wu rfl h))) (eX (dQ (Ht rfl) (fun hd=>?_) (fun hd=>?_)))
   ·simp at hd
    have hxr:0 < x / 1000000000 ∨ 0 < r:=hd.2.imp (fun h=>Nat.pos_of_ne_zero (fun e=>by rw [e,dC] at h; simp at h)) id
    have hln:=hI.len hxr
    have hr32:=hI.r32
    refine cU (cK (eG (ts (rm rfl (rm rfl (ro rfl (jW (Ht rfl) (cJ 10) zo) (ro rfl (dV (cJ 48) (Ht rfl) (by show _ < 4294967296; first | omega | (simp only [kA]; omega))) (ro rfl (gZ U_24 U_5 (Ht rfl) (by show _ < 256; first | omega | (simp only [kA]; omega))) (ro rfl (dH (xs:=[.tmp 34]) U_341 Z_5 Tryz.zeroValue5 (cW (Ht rfl) cG) rfl rfl rfl) (xK (inf:=Tryz.t5) xC Qj rfl rfl rfl (Ht rfl) (Ht rfl) (i:=0) rfl (by simp) (fun T hT=>by simp at hT; subst hT; exact El.one) (by show _ * 1 ≤ _; simp only [List.length_map,List.length_cons,List.length_nil]; omega) (by simp only [List.length_map,List.length_cons,List.length_nil]; omega) rfl (fun v2=>?_)))))))))))
    refine ra rfl (eX (cY (rm rfl (ro rfl (iI (Ht rfl) (cJ 10) zo (by show _ < 4294967296; first | omega | (simp only [kA]; omega))) (ra rfl (eX (bD (cY (rm rfl (ro rfl (dV (Ht rfl) (cJ 1) z6) (ra rfl (eX (fU (r / 10,k + 1,_,v2) (hI.next hd.1 hxr) (by dsimp only; omega) (zS rfl) (aU (bN (Sy _ _)) aY))))))))))))))
   ·simp at hd
    have hO2 := hI.fin (fun ⟨h1, h2⟩ => by
     have h3:=hd h1
     rcases h2 with h2 | h2
     ·have:=oE.1 h3.1; omega
     ·omega)
    refine gV rfl (bD (fU (x / 1000000000,_,_) ⟨hO2,Nat.le_trans (Nat.div_le_self _ _) hle⟩ (Nat.div_lt_self (Nat.pos_of_ne_zero hx0) (by decide)) (zS rfl) (bP.refl _)))
  ·simp at hc
   have hx0:x = 0:=aI.1 (by simpa using hc)
   subst hx0
   have hfin:=hO.fin
   have hdl:=nM m
   rw [hfin] at hdl
   refine gV rfl (ts (rm rfl (Bo Tryz.call283 (a1a zo) (i:=0) rfl ⟨(Ht rfl),trivial⟩ rfl (fun _ _=>(eX (cK (gJ (i:=0) (tt:=3) rfl rfl iN (cY (rm rfl (ro rfl (Fp xC Ys Yt (Ht rfl) (by rw [← hfin]; simpa using Kc h0) (fun b hb=>Ps (n:=m) b (by rw [rF h0,hfin]; exact hb))) ?_))))))))))
   refine ra rfl (eX (fW rfl (fX (eU rfl) ?_)))
   exact (iK (by rw [rF h0,hfin]))
end
section
open Go Go.RowKit
theorem sC {n : Nat} {E : bM} {H : Hp} {d : Option Tmp} {t : TypeId} {pos : String} {af : Array Edge} {g : Option (Nat × Bool)} {x0 x1 : Operand} {T0 T1 : Ty} [s0 : cE T0 1 false] (h0 : aS E x0 T0) [s1 : cE T1 1 false] (h1 : aS E x1 T1) :
  aE Tryz.prog n E H ⟨d,.build 30 #[(0,x0),(1,x1)],t,pos,af,g⟩ (dP [T0,T1]) :=
 eO (parts := [(0, x0), (1, x1)]) fun a V w hs => by
  have p0:=h0 n V a hs
  generalize e0:a.eval x0 = v0 at p0
  have q0:=(s0.ok v0 V p0).2.2 rfl
  have p1:=h1 n V a hs
  generalize e1:a.eval x1 = v1 at p1
  have q1:=(s1.ok v1 V p1).2.2 rfl
  refine ⟨.agg #[v0,v1],?_,[v0,v1],rfl,aW (⟨p0,q0⟩) (aW (⟨p1,q1⟩) (aG))⟩
  simp [e0,e1,Instr.build,Instr.fill,Sem.run_bind,Result.andThen,dF,q0.cells,q1.cells,O_30,U_30,Z_4,Z_28]
theorem jT (a:Addr) (w:World):(Instr.fieldAt 30 (.pointer (some a)) 0).run Tryz.prog w = .ok (.pointer (some (a.add 0))) w:=by
 simp [Instr.fieldAt,Instr.sureAddr,fieldPlace,Sem.run_bind,Result.andThen,U_30,Z_4]
theorem eH (a:Addr) (w:World):(Instr.fieldAt 30 (.pointer (some a)) 1).run Tryz.prog w = .ok (.pointer (some (a.add 1))) w:=by
 simp [Instr.fieldAt,Instr.sureAddr,fieldPlace,Sem.run_bind,Result.andThen,U_30,Z_28]
end
section
open Go Go.RowKit
theorem Bz {n:Int} (h1:-9223372036854775808 ≤ n) (h2:n ≤ 9223372036854775807):bA Tryz.prog 115 [aL .i64 n] (cP n):=by
 refine bA.intro Tryz.func115 rfl Tryz.ntmps115 rfl (fun cx=>(ts (rn rfl (eW (Ts:=[Is (.bool false),Is (.slice none 0 0)]) O_30 rfl (fun V=>aW zd (aW zd (aG)))) fun B2=>(eX (cK (ts (rm rfl (ro rfl (lH (Ht rfl) cV) (eX (dQ (Ht rfl) (fun hb=>?_) (fun hb=>?_)))))))))))
 ·have hn : n < 0 := by simpa using hb
  refine ts (rm rfl (ro rfl (rN U_2 U_274 (Ht rfl) (r:=((18446744073709551616 - n.natAbs:Nat):Int)) (by rw [IntKind.wrap_u64]; omega)) ?_))
  refine ro rfl (Da (Ht rfl) (r:=((n.natAbs:Nat):Int)) (by rw [IntKind.wrap_u64]; omega)) ?_
  refine ro rfl (cZ Tryz.call207 (By zo) ⟨(Ht rfl),trivial⟩) (ro rfl (sC cV (Ht rfl)) (gQ Z_30 (Ht rfl) (Ht rfl) rfl (i:=0) rfl (aK rfl) rfl rfl (eX (fW rfl (fX (fK A_30 Z_30 rfl (i:=0) rfl rfl) ?_)))))
  exact (mJ (by rw [hb]; rfl))
 ·have hn : ¬ n < 0 := by simpa using hb
  refine cU (ts (rm rfl (ro rfl (rN U_2 U_274 (Ht rfl) (r:=((n.natAbs:Nat):Int)) (by rw [IntKind.wrap_u64]; omega)) ?_)))
  refine ro rfl (cZ Tryz.call207 (By zo) ⟨(Ht rfl),trivial⟩) (ro rfl (sC cV (Ht rfl)) (gQ Z_30 (Ht rfl) (Ht rfl) rfl (i:=0) rfl (aK rfl) rfl rfl (eX (fW rfl (fX (fK A_30 Z_30 rfl (i:=0) rfl rfl) ?_)))))
  exact (mJ (by rw [hb]; rfl))
theorem mT {b:Bool} {m:Nat}:bA Tryz.prog 197 [aB b,aD m] (cP (vQ b m)):=by
 refine bA.intro Tryz.func197 rfl Tryz.ntmps197 rfl (fun cx=>(ts (rn rfl (eW (Ts:=[Is (.bool false),Is (.slice none 0 0)]) O_30 rfl (fun V=>aW zd (aW zd (aG)))) fun B4=>(eX (ts (rm rfl (rm rfl (fQ rfl rfl (eK rfl rfl (Ht rfl) (fun h=>cX (Ht rfl))) (fQ rfl rfl (eK rfl rfl (Ht rfl) (fun h=>dG U_28 (fJ rfl h) aA)) (fQ rfl rfl (eK rfl rfl (Ht rfl) (fun h=>cH (fJ rfl h) (cJ 0))) (ro rfl (cT (Ht rfl) (fun h=>(fJ rfl h))) (rm rfl ?_))))))))))))
 refine ro rfl (sC (Ht rfl) (Ht rfl)) (gQ Z_30 (Ht rfl) (Ht rfl) rfl (i:=0) rfl (aK rfl) rfl rfl (eX (fW rfl (fX (fK A_30 Z_30 rfl (i:=0) rfl rfl) ?_))))
 exact Sc
theorem oQ {x:Int}:bA Tryz.prog 107 [cP x] (cP (-x)):=by
 refine bA.intro Tryz.func107 rfl Tryz.ntmps107 rfl (fun cx=>(ts (rn rfl (fG (Ht rfl)) fun B1=>(rn rfl (eW (Ts:=[Is (.bool false),Is (.slice none 0 0)]) O_30 rfl (fun V=>aW zd (aW zd (aG)))) fun B2=>(eX (ts (ro rfl (eZ jT (Ht rfl) rfl) (ro rfl (eY A_4 Z_4 (Ht rfl) (i:=0) rfl rfl) (ro rfl (fB (Ht rfl)) (ro rfl (eZ eH (Ht rfl) rfl) (ro rfl (eY A_28 Z_28 (Ht rfl) (i:=0) rfl rfl) (ro rfl (cZ K_197 mT ⟨(Ht rfl),(Ht rfl),trivial⟩) ?_))))))))))))
 refine gQ Z_30 (Ht rfl) (Ht rfl) rfl (i:=1) rfl (aK rfl) rfl rfl (eX (fW rfl (fX (fK A_30 Z_30 rfl (i:=1) rfl rfl) ?_)))
 exact (jS (Bh x))
theorem tW {x y:Int} (hx:(dg x.natAbs).length ≤ 17592186044416) (hy:(dg y.natAbs).length ≤ 17592186044416):bA Tryz.prog 106 [cP x,cP y] (cP (x + y)):=by
 refine bA.intro Tryz.func106 rfl Tryz.ntmps106 rfl (fun cx=>(ts (rn rfl (fG (Ht rfl)) fun B2=>(rn rfl (fG (Ht rfl)) fun B3=>(rn rfl (eW (Ts:=[Is (.bool false),Is (.slice none 0 0)]) O_30 rfl (fun V=>aW zd (aW zd (aG)))) fun B4=>(eX (cK (ts (ro rfl (eZ jT (Ht rfl) rfl) (ro rfl (eY A_4 Z_4 (Ht rfl) (i:=0) rfl rfl) (ro rfl (eZ jT (Ht rfl) rfl) (ro rfl (eY A_4 Z_4 (Ht rfl) (i:=1) rfl rfl) (ro rfl (Qz U_4 (Ht rfl) (Ht rfl)) ?_)))))))))))))
 refine eX (dQ (Ht rfl) (fun hb=>?_) (fun hb=>?_))
 ·have he : decide (x < 0) = decide (y < 0) := by simpa using hb
  refine cK (fZ (m:=7) (dp 2 rfl (eZ jT (Ht rfl) rfl) (dq 10 0 rfl (eY A_4 Z_4 (Ht rfl) (i:=0) rfl rfl) (dp 2 rfl (eZ eH (Ht rfl) rfl) (dq 12 2 rfl (eY A_28 Z_28 (Ht rfl) (i:=0) rfl rfl) (dp 3 rfl (eZ eH (Ht rfl) rfl) (dq 14 4 rfl (eY A_28 Z_28 (Ht rfl) (i:=1) rfl rfl) (cI 13 3 15 5 rfl (cZ Tryz.call198 (a19 zo zo) ⟨(Ht rfl),(Ht rfl),trivial⟩) (fV aO rfl (by kernel_rfl) (zF (aJ (aJ (aJ (aV ?_))))))))))))))
  refine ro rfl (cZ K_197 mT ⟨(Ht rfl),(Ht rfl),trivial⟩) (gQ Z_30 (Ht rfl) (Ht rfl) rfl (i:=2) rfl (aK rfl) rfl rfl (eX (fW rfl (fX (fK A_30 Z_30 rfl (i:=2) rfl rfl) ?_))))
  exact (jS (Ga he))
 ·have he : decide (x < 0) ≠ decide (y < 0) := by simpa using hb
  refine cU (cK (ts (ro rfl (eZ eH (Ht rfl) rfl) (ro rfl (eY A_28 Z_28 (Ht rfl) (i:=0) rfl rfl) (ro rfl (eZ eH (Ht rfl) rfl) (ro rfl (eY A_28 Z_28 (Ht rfl) (i:=1) rfl rfl) (ro rfl (cZ Tryz.call129 (Pd zo zo) ⟨(Ht rfl),(Ht rfl),trivial⟩) (ro rfl (jP (Ht rfl) cV) (eX (dQ (Ht rfl) (fun hc=>?_) (fun hc=>?_)))))))))))
  ·have hle : y.natAbs ≤ x.natAbs := Cg (by simpa using hc)
   refine cK (fZ (m:=7) (dp 2 rfl (eZ jT (Ht rfl) rfl) (dq 24 0 rfl (eY A_4 Z_4 (Ht rfl) (i:=0) rfl rfl) (dp 2 rfl (eZ eH (Ht rfl) rfl) (dq 26 2 rfl (eY A_28 Z_28 (Ht rfl) (i:=0) rfl rfl) (dp 3 rfl (eZ eH (Ht rfl) rfl) (dq 28 4 rfl (eY A_28 Z_28 (Ht rfl) (i:=1) rfl rfl) (cI 27 3 29 5 rfl (cZ Tryz.call199 (Yd zo zo) ⟨(Ht rfl),(Ht rfl),trivial⟩) (fV aO rfl (by kernel_rfl) (zF (aJ (aJ (aJ (aV ?_))))))))))))))
   refine ro rfl (cZ K_197 mT ⟨(Ht rfl),(Ht rfl),trivial⟩) (gQ Z_30 (Ht rfl) (Ht rfl) rfl (i:=2) rfl (aK rfl) rfl rfl (eX (fW rfl (fX (fK A_30 Z_30 rfl (i:=2) rfl rfl) ?_))))
   exact (jS (tK he hle))
  ·have hle : x.natAbs ≤ y.natAbs := Nat.le_of_lt (Ch (by simpa using hc))
   refine cU (cK (fZ (m:=7) (dp 3 rfl (eZ jT (Ht rfl) rfl) (dq 32 0 rfl (eY A_4 Z_4 (Ht rfl) (i:=1) rfl rfl) (dp 3 rfl (eZ eH (Ht rfl) rfl) (dq 34 2 rfl (eY A_28 Z_28 (Ht rfl) (i:=1) rfl rfl) (dp 2 rfl (eZ eH (Ht rfl) rfl) (dq 36 4 rfl (eY A_28 Z_28 (Ht rfl) (i:=0) rfl rfl) (cI 35 3 37 5 rfl (cZ Tryz.call199 (Yd zo zo) ⟨(Ht rfl),(Ht rfl),trivial⟩) (fV aO rfl (by kernel_rfl) (zF (aJ (aJ (aJ (aV ?_)))))))))))))))
   refine ro rfl (cZ K_197 mT ⟨(Ht rfl),(Ht rfl),trivial⟩) (gQ Z_30 (Ht rfl) (Ht rfl) rfl (i:=2) rfl (aK rfl) rfl rfl (eX (fW rfl (fX (fK A_30 Z_30 rfl (i:=2) rfl rfl) ?_))))
   exact (jS (by rw [tK (Ne.symm he) hle,Int.add_comm]))
theorem rD {x y:Int} (hx:(dg x.natAbs).length ≤ 17592186044416) (hy:(dg y.natAbs).length ≤ 17592186044416):bA Tryz.prog 105 [cP x,cP y] (cP (x * y)):=by
 refine bA.intro Tryz.func105 rfl Tryz.ntmps105 rfl (fun cx=>(ts (rn rfl (fG (Ht rfl)) fun B2=>(rn rfl (fG (Ht rfl)) fun B3=>(rn rfl (eW (Ts:=[Is (.bool false),Is (.slice none 0 0)]) O_30 rfl (fun V=>aW zd (aW zd (aG)))) fun B4=>(eX (cK (fZ (m:=10) (dp 2 rfl (eZ jT (Ht rfl) rfl) (dq 5 0 rfl (eY A_4 Z_4 (Ht rfl) (i:=0) rfl rfl) (dp 3 rfl (eZ jT (Ht rfl) rfl) (dq 7 2 rfl (eY A_4 Z_4 (Ht rfl) (i:=1) rfl rfl) (cI 6 1 8 3 rfl (Cy U_4 (Ht rfl) (Ht rfl)) ?_)))))))))))))
 refine dp 2 rfl (eZ eH (Ht rfl) rfl) (dq 10 5 rfl (eY A_28 Z_28 (Ht rfl) (i:=0) rfl rfl) (dp 3 rfl (eZ eH (Ht rfl) rfl) (dq 12 7 rfl (eY A_28 Z_28 (Ht rfl) (i:=1) rfl rfl) (cI 11 6 13 8 rfl (cZ Tryz.call110 (Ea zo zo) ⟨(Ht rfl),(Ht rfl),trivial⟩) (fV aO rfl (by kernel_rfl) (zF (zF (aJ (aJ (aV (ro rfl (cZ K_197 mT ⟨(Ht rfl),(Ht rfl),trivial⟩) (gQ Z_30 (Ht rfl) (Ht rfl) rfl (i:=2) rfl (aK rfl) rfl rfl ?_))))))))))))
 refine eX (fW rfl (fX (fK A_30 Z_30 rfl (i:=2) rfl rfl) ?_))
 exact (jS (Bi x y))
theorem kE {x:Int} {n:Nat} (hx:(dg x.natAbs).length ≤ 17592186044416) (hn:(dg n).length ≤ 17592186044416):bA Tryz.prog 111 [cP x,aD n] (cP (x * n)):=by
 refine bA.intro Tryz.func111 rfl Tryz.ntmps111 rfl (fun cx=>(ts (rn rfl (fG (Ht rfl)) fun B2=>(rn rfl (eW (Ts:=[Is (.bool false),Is (.slice none 0 0)]) O_30 rfl (fun V=>aW zd (aW zd (aG)))) fun B4=>(eX (cK (fZ (m:=6) (dp 2 rfl (eZ jT (Ht rfl) rfl) (dq 5 0 rfl (eY A_4 Z_4 (Ht rfl) (i:=0) rfl rfl) (dp 2 rfl (eZ eH (Ht rfl) rfl) (dq 7 2 rfl (eY A_28 Z_28 (Ht rfl) (i:=0) rfl rfl) (dp 1 rfl (cX (Ht rfl)) (cI 8 3 9 4 rfl (cZ Tryz.call110 (Ea zo zo) ⟨(Ht rfl),(Ht rfl),trivial⟩) ?_)))))))))))))
 refine fV aO rfl (by kernel_rfl) (zF (aJ (aJ (aV (ro rfl (cZ K_197 mT ⟨(Ht rfl),(Ht rfl),trivial⟩) (gQ Z_30 (Ht rfl) (Ht rfl) rfl (i:=1) rfl (aK rfl) rfl rfl (eX (fW rfl (fX (fK A_30 Z_30 rfl (i:=1) rfl rfl) ?_)))))))))
 exact (jS (Ij x n))
theorem Cf {x y:Int} (hx:(dg x.natAbs).length ≤ 17592186044415) (hy:(dg y.natAbs).length ≤ 17592186044415):bA Tryz.prog 112 [cP x,cP y] (aL .i64 (fO x y)):=by
 have hny:=oU y
 have hs:=jF (x:=x) (y:=-y) hx zo
 refine bA.intro Tryz.func112 rfl Tryz.ntmps112 rfl (fun cx=>(ts (rn rfl (fG (Ht rfl)) fun B2=>(rn rfl (fG (Ht rfl)) fun B3=>(ro rfl (cQ (cJ 0)) (eX (cK (fZ (m:=5) (dp 2 rfl (eJ A_30 Z_30 (Ht rfl) (i:=0) rfl rfl rfl) (dp 3 rfl (eJ A_30 Z_30 (Ht rfl) (i:=1) rfl rfl rfl) (dq 7 1 rfl (cZ K_107 oQ ⟨(Ht rfl),trivial⟩) (cI 6 0 8 2 rfl (cZ K_106 (tW zo zo) ⟨(Ht rfl),(Ht rfl),trivial⟩) (C.D_new (Ei:=[]) rfl rfl rfl bW (eW (Ts:=[Is (.bool false),Is (.slice none 0 0)]) O_30 rfl (fun V=>aW zd (aW zd (aG)))) ?_)))))))))))))
 refine fV aO rfl (by kernel_rfl) (zF (C.F_new (fun B5=>aV (gQ Z_30 (Ht rfl) (Ht rfl) rfl (i:=2) rfl (aK rfl) rfl rfl (eX (cK (ts (ro rfl (eZ jT (Ht rfl) rfl) (ro rfl (eY A_4 Z_4 (Ht rfl) (i:=2) rfl rfl) (eX (dQ (Ht rfl) (fun hb=>?_) (fun hb=>?_))))))))))))
 ·have hn : x + -y < 0 := by simpa using hb
  refine ts (ro rfl (cQ cV) (eX (fW rfl (fX (eU rfl) ?_))))
  exact (aH (Uv hn))
 ·have hn : ¬ x + -y < 0 := by simpa using hb
  refine cU (ts (ro rfl (eZ eH (Ht rfl) rfl) (ro rfl (eY A_28 Z_28 (Ht rfl) (i:=2) rfl rfl) (ro rfl (dG U_28 (Ht rfl) aA) (ro rfl (Kx (Ht rfl) (cJ 1)) (ra rfl (eX (fW rfl (fX (eU rfl) ?_)))))))))
  exact (aH (Uu hn))
end
section
open Go Go.RowKit
theorem Ou {n : Nat} {E : bM} {H : Hp} {d : Option Tmp} {t : TypeId} {pos : String} {af : Array Edge} {g : Option (Nat × Bool)} {x0 : Operand} {T0 T1 : Ty} (h0 : aS E x0 (dP [T0, T1])) :
  aE Tryz.prog n E H ⟨d,.build 32 #[(0,x0)],t,pos,af,g⟩ (dP [T0,T1,Is (.bool false),Is (.slice none 0 0),Is (.slice none 0 0)]) :=
 eO (parts := [(0, x0)]) fun a V w hs => by
  obtain ⟨v0,e0,c0⟩:=h0 n V a hs
  obtain ⟨c0_0,c0_1,rfl⟩:∃ c0_0 c0_1,v0 = [c0_0,c0_1]:=Fc (by simpa using c0.length)
  refine ⟨.agg #[c0_0,c0_1,(.bool false),(.slice none 0 0),(.slice none 0 0)],?_,[c0_0,c0_1,(.bool false),(.slice none 0 0),(.slice none 0 0)],rfl,aW (c0.at (i:=0) rfl rfl) (aW (c0.at (i:=1) rfl rfl) (aW (⟨rfl,trivial⟩) (aW (⟨rfl,trivial⟩) (aW (⟨rfl,trivial⟩) (aG)))))⟩
  simp [e0,Instr.build,Instr.fill,Sem.run_bind,Result.andThen,dF,O_32,U_32,Z_28,Z_30]
theorem sQ {n : Nat} {E : bM} {H : Hp} {d : Option Tmp} {t : TypeId} {pos : String} {af : Array Edge} {g : Option (Nat × Bool)} {x0 x1 x2 : Operand} {T0 T1 T2 T3 T4 : Ty} (h0 : aS E x0 (dP [T0, T1])) (h1 : aS E x1 (dP [T2, T3])) [s2 : cE T4 1 false] (h2 : aS E x2 T4) :
  aE Tryz.prog n E H ⟨d,.build 32 #[(0,x0),(1,x1),(2,x2)],t,pos,af,g⟩ (dP [T0,T1,T2,T3,T4]) :=
 eO (parts := [(0, x0), (1, x1), (2, x2)]) fun a V w hs => by
  obtain ⟨v0,e0,c0⟩:=h0 n V a hs
  obtain ⟨c0_0,c0_1,rfl⟩:∃ c0_0 c0_1,v0 = [c0_0,c0_1]:=Fc (by simpa using c0.length)
  obtain ⟨v1,e1,c1⟩:=h1 n V a hs
  obtain ⟨c1_0,c1_1,rfl⟩:∃ c1_0 c1_1,v1 = [c1_0,c1_1]:=Fc (by simpa using c1.length)
  have p2:=h2 n V a hs
  generalize e2:a.eval x2 = v2 at p2
  have q2:=(s2.ok v2 V p2).2.2 rfl
  refine ⟨.agg #[c0_0,c0_1,c1_0,c1_1,v2],?_,[c0_0,c0_1,c1_0,c1_1,v2],rfl,aW (c0.at (i:=0) rfl rfl) (aW (c0.at (i:=1) rfl rfl) (aW (c1.at (i:=0) rfl rfl) (aW (c1.at (i:=1) rfl rfl) (aW (⟨p2,q2⟩) (aG)))))⟩
  simp [e0,e1,e2,Instr.build,Instr.fill,Sem.run_bind,Result.andThen,dF,q2.cells,O_32,U_32,Z_28,Z_30]
theorem fP (a:Addr) (w:World):(Instr.fieldAt 32 (.pointer (some a)) 0).run Tryz.prog w = .ok (.pointer (some (a.add 0))) w:=by
 simp [Instr.fieldAt,Instr.sureAddr,fieldPlace,Sem.run_bind,Result.andThen,U_32,Z_30]
theorem gG (a:Addr) (w:World):(Instr.fieldAt 32 (.pointer (some a)) 1).run Tryz.prog w = .ok (.pointer (some (a.add 2))) w:=by
 simp [Instr.fieldAt,Instr.sureAddr,fieldPlace,Sem.run_bind,Result.andThen,U_32,Z_30]
theorem oW (a:Addr) (w:World):(Instr.fieldAt 32 (.pointer (some a)) 2).run Tryz.prog w = .ok (.pointer (some (a.add 4))) w:=by
 simp [Instr.fieldAt,Instr.sureAddr,fieldPlace,Sem.run_bind,Result.andThen,U_32,Z_28]
end
section
open Go Go.RowKit
theorem tV {A B:Int} {D:Nat} (hD:0 < D) (hA:(dg A.natAbs).length ≤ 17592186044415) (hB:(dg B.natAbs).length ≤ 17592186044415) (hD2:(dg D).length ≤ 17592186044415):bA Tryz.prog 108 [cP A,cP B,aD D] (aT (Qi.mk' A B D)):=by
 have hg1:=yD hA hB
 have hg2:=yD hg1 hD2
 have hgp:Nat.gcd (Nat.gcd A.natAbs B.natAbs) D ≠ 0:=fun e=>by have:=Nat.gcd_eq_zero_iff.1 e; omega
 refine bA.intro Tryz.func108 rfl Tryz.ntmps108 rfl (fun cx=>(ts (rn rfl (fG (Ht rfl)) fun B3=>(rn rfl (fG (Ht rfl)) fun B4=>(rn rfl (eW (Ts:=[Is (.bool false),Is (.slice none 0 0),Is (.bool false),Is (.slice none 0 0),Is (.slice none 0 0)]) O_32 rfl (fun V=>aW zd (aW zd (aW zd (aW zd (aW zd (aG))))))) fun B6=>(eX (ts (ro rfl (eZ eH (Ht rfl) rfl) (ro rfl (eY A_28 Z_28 (Ht rfl) (i:=0) rfl rfl) ?_)))))))))
 refine ro rfl (eZ eH (Ht rfl) rfl) (ro rfl (eY A_28 Z_28 (Ht rfl) (i:=1) rfl rfl) (ro rfl (cZ Tryz.call200 (Xy zo zo) ⟨(Ht rfl),(Ht rfl),trivial⟩) (rm rfl (ro rfl (cZ Tryz.call200 (Xy zo zo) ⟨(Ht rfl),(Ht rfl),trivial⟩) (ra rfl (eX (cK (iJ (fun (uu:Unit)=>True) (fun (uu:Unit)=>[(2,aD (D / (Nat.gcd (Nat.gcd A.natAbs B.natAbs) D))),(3,bR B3 0),(4,bR B4 0),(6,bR B6 0)]) (fun (uu:Unit)=>[box B3 30 [aB (decide (A < 0)),aD (A.natAbs / (Nat.gcd (Nat.gcd A.natAbs B.natAbs) D))],box B4 30 [aB (decide (B < 0)),aD (B.natAbs / (Nat.gcd (Nat.gcd A.natAbs B.natAbs) D))],box B6 32 [Is (.bool false),Is (.slice none 0 0),Is (.bool false),Is (.slice none 0 0),Is (.slice none 0 0)]]) ?_ (fun uu _=>?_)))))))))
 ·refine ts (rm rfl (ro rfl (cZ Tryz.call201 Xz ⟨(Ht rfl), trivial⟩) (ro rfl (fB (Ht rfl)) (eX (dQ (Ht rfl) (fun hb => ?_) (fun hb => ?_))))))
  ·simp at hb
   refine ts (ro rfl (eZ eH (Ht rfl) rfl) (ro rfl (eY A_28 Z_28 (Ht rfl) (i:=0) rfl rfl) (rm rfl (ro rfl (cZ Tryz.call202 (Jq zo zo zo) ⟨(Ht rfl),(Ht rfl),trivial⟩) (rm rfl (ro rfl (dK (Ht rfl) rfl) (ro rfl (dK (Ht rfl) rfl) (ro rfl (eZ eH (Ht rfl) rfl) (jN Z_28 (Ht rfl) (Ht rfl) (i:=0) rfl (aK rfl) rfl (eX (ts (ro rfl (eZ eH (Ht rfl) rfl) (ro rfl (eY A_28 Z_28 (Ht rfl) (i:=1) rfl rfl) (rm rfl (ro rfl (cZ Tryz.call202 (Jq zo zo zo) ⟨(Ht rfl),(Ht rfl),trivial⟩) ?_)))))))))))))))
   refine rm rfl (ro rfl (dK (Ht rfl) rfl) (ro rfl (dK (Ht rfl) rfl) (ro rfl (eZ eH (Ht rfl) rfl) (jN Z_28 (Ht rfl) (Ht rfl) (i:=1) rfl (aK rfl) rfl (eX (cY (rm rfl (rm rfl (ro rfl (cZ Tryz.call202 (Jq zo zo zo) ⟨(Ht rfl),(Ht rfl),trivial⟩) (rm rfl (ro rfl (dK (Ht rfl) rfl) (ro rfl (dK (Ht rfl) rfl) (ra rfl (eX (aN () trivial (zS rfl) (aU (aC (by first | rfl | simp)) (aU (aC (by first | rfl | simp)) (aU (aC rfl) aY))))))))))))))))))
  ·simp at hb
   refine cU (aN () trivial (aZ rfl (bS (by rw [hb,Nat.div_one])) (zS rfl)) (aU (aC (by rw [hb,Nat.div_one])) (aU (aC (by rw [hb,Nat.div_one])) (aU (aC rfl) aY))))
 ·refine cK (iJ (fun (uu : Unit) => True) (fun (uu : Unit) => [(2, aD (if D / (Nat.gcd (Nat.gcd A.natAbs B.natAbs) D) = 1 then 0 else D / (Nat.gcd (Nat.gcd A.natAbs B.natAbs) D))), (3, bR B3 0), (4, bR B4 0), (6, bR B6 0)]) (fun (uu : Unit) => [box B3 30 [aB (decide (A < 0)), aD (A.natAbs / (Nat.gcd (Nat.gcd A.natAbs B.natAbs) D))], box B4 30 [aB (decide (B < 0)), aD (B.natAbs / (Nat.gcd (Nat.gcd A.natAbs B.natAbs) D))], box B6 32 [Is (.bool false), Is (.slice none 0 0), Is (.bool false), Is (.slice none 0 0), Is (.slice none 0 0)]]) ?_ (fun uu _ => ?_))
  ·refine ts (rm rfl (ro rfl (cZ Tryz.call201 Xz ⟨(Ht rfl), trivial⟩) (eX (dQ (Ht rfl) (fun hb => ?_) (fun hb => ?_)))))
   ·simp only [decide_eq_true_eq] at hb
    refine cY (ro rfl (cQ cV) (eX (aN () trivial (aZ rfl (fun v V h=>bS (by rw [if_pos hb]) v V (gS v V h)) (zS rfl)) (bP.refl _))))
   ·simp only [decide_eq_false_iff_not] at hb
    refine cU (aN () trivial (aZ rfl (bS (by rw [if_neg hb])) (zS rfl)) (bP.refl _))
  ·refine ts (ro rfl (eJ A_30 Z_30 (Ht rfl) (i := 0) rfl rfl rfl) (ro rfl (eJ A_30 Z_30 (Ht rfl) (i := 1) rfl rfl rfl) (rm rfl (ro rfl (sQ (Ht rfl) (Ht rfl) (Ht rfl)) (gQ Z_32 (Ht rfl) (Ht rfl) rfl (i := 2) rfl (aK rfl) rfl rfl (eX (fW rfl (fX (fK A_32 Z_32 rfl (i := 2) rfl rfl) ?_))))))))
   exact (Wj hD)
theorem nL {x:Qi}:bA Tryz.prog 109 [aT x] (aD x.den):=by
 refine bA.intro Tryz.func109 rfl Tryz.ntmps109 rfl (fun cx=>(ts (rn rfl (fG (Ht rfl)) fun B1=>(ro rfl (cQ cV) (eX (cK (ts (ro rfl (eZ oW (Ht rfl) rfl) (ro rfl (eY A_28 Z_28 (Ht rfl) (i:=0) rfl rfl) (ro rfl (dG U_28 (Ht rfl) aA) (ro rfl (bT (Ht rfl) (cJ 0)) (eX (dQ (Ht rfl) (fun hb=>?_) (fun hb=>?_))))))))))))))
 ·simp at hb
  have h1:x.den = 1:=wK (aI.1 (by simpa using hb))
  refine ts (ro rfl (dH (xs:=[_]) U_28 Z_24 O_24 (cW (cJ 1) cG) rfl rfl rfl) (ra rfl (eX (fW rfl (fX (eU rfl) ?_)))))
  exact (fun v V h=>bS h1.symm v V (yT v V h))
 ·simp at hb
  have h1:du x = x.den:=sW (fun e=>hb (by simp [e,dC]))
  refine cU (ts (ro rfl (eZ oW (Ht rfl) rfl) (ro rfl (eY A_28 Z_28 (Ht rfl) (i:=0) rfl rfl) (ra rfl (eX (fW rfl (fX (eU rfl) ?_)))))))
  exact (bS h1)
theorem Jm {n:Int} (h1:-9223372036854775808 ≤ n) (h2:n ≤ 9223372036854775807):bA Tryz.prog 36 [aL .i64 n] (aT (Qi.ofInt n)):=by
 refine bA.intro Tryz.func36 rfl Tryz.ntmps36 rfl (fun cx=>(ts (rn rfl (eW (Ts:=[Is (.bool false),Is (.slice none 0 0),Is (.bool false),Is (.slice none 0 0),Is (.slice none 0 0)]) O_32 rfl (fun V=>aW zd (aW zd (aW zd (aW zd (aW zd (aG))))))) fun B2=>(eX (ts (rm rfl (ro rfl (cZ Tryz.call115 (Bz h1 h2) ⟨(Ht rfl),trivial⟩) (ro rfl (Ou (Ht rfl)) (gQ Z_32 (Ht rfl) (Ht rfl) rfl (i:=0) rfl (aK rfl) rfl rfl ?_)))))))))
 refine eX (fW rfl (fX (fK A_32 Z_32 rfl (i:=0) rfl rfl) ?_))
 exact Kt
theorem a17 {p q d:Int} (p1:-9223372036854775808 ≤ p) (p2:p ≤ 9223372036854775807) (q1:-9223372036854775808 ≤ q) (q2:q ≤ 9223372036854775807) (d1:-9223372036854775808 ≤ d) (d2:d ≤ 9223372036854775807) (hd:d ≠ 0):bA Tryz.prog 81 [aL .i64 p,aL .i64 q,aL .i64 d] (eT [aT (Qi.frac p q d),aL .i64 0]):=by
 have lp:=Mm p1 p2; have lq:=Mm q1 q2; have ld:=Mm d1 d2; have np:=oU p; have nq:=oU q
 refine bA.intro Tryz.func81 rfl Tryz.ntmps81 rfl (fun cx=>(ts (rn rfl (eW (Ts:=[Is (.bool false),Is (.slice none 0 0),Is (.bool false),Is (.slice none 0 0),Is (.slice none 0 0)]) O_32 rfl (fun V=>aW zd (aW zd (aW zd (aW zd (aW zd (aG))))))) fun B6=>(ro rfl (cQ (cJ 0)) (eX (cK (ts (rm rfl (ro rfl (iB (Ht rfl) cV) (eX (jK (Ht rfl) (by simp [hd]) ?_)))))))))))
 refine cU (ts (rm rfl (ro rfl (cZ Tryz.call115 (Bz p1 p2) ⟨(Ht rfl),trivial⟩) (rm rfl (ro rfl (cZ Tryz.call115 (Bz q1 q2) ⟨(Ht rfl),trivial⟩) (rm rfl (ro rfl (cZ Tryz.call115 (Bz d1 d2) ⟨(Ht rfl),trivial⟩) (rn rfl (eW (Ts:=[Is (.bool false),Is (.slice none 0 0)]) O_30 rfl (fun V=>aW zd (aW zd (aG)))) fun B8=>(rn rfl (eW (Ts:=[Is (.bool false),Is (.slice none 0 0)]) O_30 rfl (fun V=>aW zd (aW zd (aG)))) fun B9=>?_)))))))))
 refine rn rfl (eW (Ts:=[Is (.bool false),Is (.slice none 0 0)]) O_30 rfl (fun V=>aW zd (aW zd (aG)))) fun B10=>gQ Z_30 (Ht rfl) (Ht rfl) rfl (i:=1) rfl (aK rfl) rfl rfl (gQ Z_30 (Ht rfl) (Ht rfl) rfl (i:=2) rfl (aK rfl) rfl rfl (gQ Z_30 (Ht rfl) (Ht rfl) rfl (i:=3) rfl (aK rfl) rfl rfl (eX (cK (nK (fun (a:Int) (b:Int)=>Qi.mk' a b d.natAbs = Qi.frac p q d ∧ (dg a.natAbs).length ≤ 2 ∧ (dg b.natAbs).length ≤ 2) (fun (a:Int) (b:Int)=>[(6,bR B6 0),(8,bR B8 0),(9,bR B9 0),(10,bR B10 0)]) (fun (a:Int) (b:Int)=>[box B6 32 [Is (.bool false),Is (.slice none 0 0),Is (.bool false),Is (.slice none 0 0),Is (.slice none 0 0)],box B8 30 [aB (decide (a < 0)),aD (a).natAbs],box B9 30 [aB (decide (b < 0)),aD (b).natAbs],box B10 30 [aB (decide (d < 0)),aD (d).natAbs]]) ?_ (fun a b ⟨hab,ha,hb⟩=>?_))))))
 ·refine ts (ro rfl (eZ jT (Ht rfl) rfl) (ro rfl (eY A_4 Z_4 (Ht rfl) (i := 3) rfl rfl) (eX (dQ (Ht rfl) (fun hn => ?_) (fun hn => ?_)))))
  ·simp only [decide_eq_true_eq] at hn
   refine fZ (m:=3) (dp 8 rfl (eJ A_30 Z_30 (Ht rfl) (i:=1) rfl rfl rfl) (dq 22 0 rfl (cZ K_107 oQ ⟨(Ht rfl),trivial⟩) (dp 9 rfl (eJ A_30 Z_30 (Ht rfl) (i:=2) rfl rfl rfl) (fV aO rfl (by kernel_rfl) (aJ (aJ (aJ (aV (ro rfl (cZ K_107 oQ ⟨(Ht rfl),trivial⟩) (gQ Z_30 (Ht rfl) (Ht rfl) rfl (i:=1) rfl (aK rfl) rfl rfl (gQ Z_30 (Ht rfl) (Ht rfl) rfl (i:=2) rfl (aK rfl) rfl rfl (eX (aN (-p,-q) ⟨Qi.frac_neg hn,by dsimp only; omega,by dsimp only; omega⟩ (zS rfl) (aU (aC rfl) (aU (aC rfl) (aU (aC rfl) (aU (aC rfl) aY)))))))))))))))))
  ·simp only [decide_eq_false_iff_not] at hn
   refine cU (aN (p,q) ⟨Qi.frac_pos hn hd,by omega,by omega⟩ (zS rfl) (bP.refl _))
 ·refine ts (ro rfl (eJ A_30 Z_30 (Ht rfl) (i := 1) rfl rfl rfl) (ro rfl (eJ A_30 Z_30 (Ht rfl) (i := 2) rfl rfl rfl) (ro rfl (eZ eH (Ht rfl) rfl) (ro rfl (eY A_28 Z_28 (Ht rfl) (i := 3) rfl rfl) (ro rfl (cZ K_108 (tV zo zo zo zo) ⟨(Ht rfl), (Ht rfl), (Ht rfl), trivial⟩) (gQ Z_32 (Ht rfl) (Ht rfl) rfl (i := 0) rfl (aK rfl) rfl rfl (ro rfl (cQ (cJ 0)) (eX (bC rfl (fX (fK A_32 Z_32 rfl (i := 0) rfl rfl) ?_) (eU rfl))))))))))
  exact (kB hab)
theorem a1G {x y:Qi}:bA Tryz.prog 318 [aT x,aT y] (aT y):=by
 refine bA.intro Tryz.func318 rfl Tryz.ntmps318 rfl (fun cx=>(ts (rn rfl (fG (Ht rfl)) fun B2=>(rn rfl (fG (Ht rfl)) fun B3=>(rn rfl (eW (Ts:=[Is (.bool false),Is (.slice none 0 0),Is (.bool false),Is (.slice none 0 0),Is (.slice none 0 0)]) O_32 rfl (fun V=>aW zd (aW zd (aW zd (aW zd (aW zd (aG))))))) fun B4=>(eX (ts (ro rfl (eJ A_32 Z_32 (Ht rfl) (i:=1) rfl rfl rfl) (gQ Z_32 (Ht rfl) (Ht rfl) rfl (i:=2) rfl (aK rfl) rfl rfl ?_)))))))))
 refine eX ?_
 exact fW rfl (fK A_32 Z_32 rfl (i:=2) rfl rfl)
theorem Jh {x y:Qi} {L M:Nat} [hx:aP x L] [hy:aP y M] (h:L + M + 1 ≤ 17592186044415):bA Tryz.prog 33 [aT x,aT y] (aT (x + y)):=by
 have hxa:=iF hx.fit; have hxb:=iL hx.fit; have hxd:=iG hx.fit
 have hya:=iF hy.fit; have hyb:=iL hy.fit; have hyd:=iG hy.fit
 have hxp:=x.den_pos; have hyp:=y.den_pos; have hdp:=Nat.mul_pos hxp hyp
 have e1:=cO x.a y.den; have e2:=cO y.a x.den; have e3:=cO x.b y.den; have e4:=cO y.b x.den; have e5:=qA x.den y.den
 have e6:=jF (x:=x.a * y.den) (y:=y.a * x.den) (L:=L + M) zo zo; have e7:=jF (x:=x.b * y.den) (y:=y.b * x.den) (L:=L + M) zo zo
 refine bA.intro Tryz.func33 rfl Tryz.ntmps33 rfl (fun cx=>(ts (rn rfl (fG (Ht rfl)) fun B2=>(rn rfl (fG (Ht rfl)) fun B3=>(rn rfl (eW (Ts:=[Is (.bool false),Is (.slice none 0 0),Is (.bool false),Is (.slice none 0 0),Is (.slice none 0 0)]) O_32 rfl (fun V=>aW zd (aW zd (aW zd (aW zd (aW zd (aG))))))) fun B4=>(eX (cK (fZ (m:=3) (dp 2 rfl (eJ A_32 Z_32 (Ht rfl) (i:=0) rfl rfl rfl) (dq 7 0 rfl (cZ K_109 nL ⟨(Ht rfl),trivial⟩) ?_))))))))))
 refine dp 3 rfl (eJ A_32 Z_32 (Ht rfl) (i:=1) rfl rfl rfl) (fV aO rfl (by kernel_rfl) (aJ (aJ (aJ (aV (ro rfl (cZ K_109 nL ⟨(Ht rfl),trivial⟩) (ra rfl (ra rfl (eX (cK (fZ (m:=20) (dp 2 rfl (eZ fP (Ht rfl) rfl) (dq 11 0 rfl (eJ A_30 Z_30 (Ht rfl) (i:=0) rfl rfl rfl) (dp 6 rfl (cX (Ht rfl)) (cI 12 1 13 2 rfl (cZ K_111 (kE zo zo) ⟨(Ht rfl),(Ht rfl),trivial⟩) (dp 3 rfl (eZ fP (Ht rfl) rfl) (dq 15 4 rfl (eJ A_30 Z_30 (Ht rfl) (i:=1) rfl rfl rfl) ?_)))))))))))))))))
 refine dp 5 rfl (cX (Ht rfl)) (cI 16 5 17 6 rfl (cZ K_111 (kE zo zo) ⟨(Ht rfl),(Ht rfl),trivial⟩) (cI 14 3 18 7 rfl (cZ K_106 (tW zo zo) ⟨(Ht rfl),(Ht rfl),trivial⟩) (dp 2 rfl (eZ gG (Ht rfl) rfl) (dq 20 9 rfl (eJ A_30 Z_30 (Ht rfl) (i:=0) rfl rfl rfl) (dp 6 rfl (cX (Ht rfl)) (cI 21 10 22 11 rfl (cZ K_111 (kE zo zo) ⟨(Ht rfl),(Ht rfl),trivial⟩) (dp 3 rfl (eZ gG (Ht rfl) rfl) (dq 24 13 rfl (eJ A_30 Z_30 (Ht rfl) (i:=1) rfl rfl rfl) ?_))))))))
 refine dp 5 rfl (cX (Ht rfl)) (cI 25 14 26 15 rfl (cZ K_111 (kE zo zo) ⟨(Ht rfl),(Ht rfl),trivial⟩) (cI 23 12 27 16 rfl (cZ K_106 (tW zo zo) ⟨(Ht rfl),(Ht rfl),trivial⟩) (dp 5 rfl (cX (Ht rfl)) (dp 6 rfl (cX (Ht rfl)) (fV aO rfl (by kernel_rfl) (zF (zF (zF (zF (zF (aV (ro rfl (cZ Tryz.call110 (Ea zo zo) ⟨(Ht rfl),(Ht rfl),trivial⟩) ?_))))))))))))
 refine ro rfl (cZ K_108 (tV (by first | assumption | omega) zo zo zo) ⟨(Ht rfl),(Ht rfl),(Ht rfl),trivial⟩) (gQ Z_32 (Ht rfl) (Ht rfl) rfl (i:=2) rfl (aK rfl) rfl rfl (eX (fW rfl (fX (fK A_32 Z_32 rfl (i:=2) rfl rfl) ?_))))
 exact (kB (Qi.mk_add x y))
theorem a16 {x:Qi}:bA Tryz.prog 114 [aT x] (aT (-x)):=by
 refine bA.intro Tryz.func114 rfl Tryz.ntmps114 rfl (fun cx=>(ts (rn rfl (fG (Ht rfl)) fun B1=>(rn rfl (eW (Ts:=[Is (.bool false),Is (.slice none 0 0),Is (.bool false),Is (.slice none 0 0),Is (.slice none 0 0)]) O_32 rfl (fun V=>aW zd (aW zd (aW zd (aW zd (aW zd (aG))))))) fun B2=>(eX (cK (fZ (m:=8) (dp 1 rfl (eZ fP (Ht rfl) rfl) (dq 3 0 rfl (eJ A_30 Z_30 (Ht rfl) (i:=0) rfl rfl rfl) (dq 4 1 rfl (cZ K_107 oQ ⟨(Ht rfl),trivial⟩) ?_))))))))))
 refine dp 1 rfl (eZ gG (Ht rfl) rfl) (dq 6 3 rfl (eJ A_30 Z_30 (Ht rfl) (i:=0) rfl rfl rfl) (dq 7 4 rfl (cZ K_107 oQ ⟨(Ht rfl),trivial⟩) (dp 1 rfl (eZ oW (Ht rfl) rfl) (dq 9 6 rfl (eY A_28 Z_28 (Ht rfl) (i:=0) rfl rfl) (fV aO rfl (by kernel_rfl) (zF (zF (aV (ro rfl (sQ (Ht rfl) (Ht rfl) (Ht rfl)) (gQ Z_32 (Ht rfl) (Ht rfl) rfl (i:=1) rfl (aK rfl) rfl rfl (eX (fW rfl (fX (fK A_32 Z_32 rfl (i:=1) rfl rfl) ?_)))))))))))))
 exact (mJ (by obtain ⟨e1,e2,e3⟩:=Qi.neg_a x; rw [e1,e2,a1e e3]; rfl))
theorem xV {x y:Qi} {L M:Nat} [hx:aP x L] [hy:aP y M] (h:L + M + 1 ≤ 17592186044415):bA Tryz.prog 32 [aT x,aT y] (aT (x - y)):=by
 have hxa:=iF hx.fit; have hxb:=iL hx.fit; have hxd:=iG hx.fit
 have hya:=iF hy.fit; have hyb:=iL hy.fit; have hyd:=iG hy.fit
 have hxp:=x.den_pos; have hyp:=y.den_pos; have hdp:=Nat.mul_pos hxp hyp
 refine bA.intro Tryz.func32 rfl Tryz.ntmps32 rfl (fun cx=>(ts (rn rfl (fG (Ht rfl)) fun B2=>(rn rfl (fG (Ht rfl)) fun B3=>(rn rfl (eW (Ts:=[Is (.bool false),Is (.slice none 0 0),Is (.bool false),Is (.slice none 0 0),Is (.slice none 0 0)]) O_32 rfl (fun V=>aW zd (aW zd (aW zd (aW zd (aW zd (aG))))))) fun B4=>(eX (cK (fZ (m:=3) (dp 2 rfl (eJ A_32 Z_32 (Ht rfl) (i:=0) rfl rfl rfl) (dp 3 rfl (eJ A_32 Z_32 (Ht rfl) (i:=1) rfl rfl rfl) ?_))))))))))
 refine dq 6 1 rfl (cZ Tryz.call114 a16 ⟨(Ht rfl),trivial⟩) (fV aO rfl (by kernel_rfl) (aJ (aJ (aJ (aV (ro rfl (cZ Tryz.call33 (Jh zo) ⟨(Ht rfl),(Ht rfl),trivial⟩) (gQ Z_32 (Ht rfl) (Ht rfl) rfl (i:=2) rfl (aK rfl) rfl rfl (eX (fW rfl (fX (fK A_32 Z_32 rfl (i:=2) rfl rfl) ?_))))))))))
 exact (kB (Qi.sub_def x y).symm)
theorem xU {x y:Qi} {L M:Nat} [hx:aP x L] [hy:aP y M] (h:L + M + 1 ≤ 17592186044415):bA Tryz.prog 29 [aT x,aT y] (aT (x * y)):=by
 have hxa:=iF hx.fit; have hxb:=iL hx.fit; have hxd:=iG hx.fit
 have hya:=iF hy.fit; have hyb:=iL hy.fit; have hyd:=iG hy.fit
 have hxp:=x.den_pos; have hyp:=y.den_pos; have hdp:=Nat.mul_pos hxp hyp
 have e1:=jG x.a y.a; have e2:=jG x.b y.b; have e3:=jG x.a y.b; have e4:=jG x.b y.a; have e5:=qA x.den y.den; have e8:=oU (x.b * y.b)
 have e6:=jF (x:=x.a * y.a) (y:=-(x.b * y.b)) (L:=L + M) zo zo; have e7:=jF (x:=x.a * y.b) (y:=x.b * y.a) (L:=L + M) zo zo
 refine bA.intro Tryz.func29 rfl Tryz.ntmps29 rfl (fun cx=>(ts (rn rfl (fG (Ht rfl)) fun B2=>(rn rfl (fG (Ht rfl)) fun B3=>(rn rfl (eW (Ts:=[Is (.bool false),Is (.slice none 0 0),Is (.bool false),Is (.slice none 0 0),Is (.slice none 0 0)]) O_32 rfl (fun V=>aW zd (aW zd (aW zd (aW zd (aW zd (aG))))))) fun B4=>(eX (cK (fZ (m:=13) (dp 2 rfl (eZ fP (Ht rfl) rfl) (dq 7 0 rfl (eJ A_30 Z_30 (Ht rfl) (i:=0) rfl rfl rfl) ?_))))))))))
 refine dp 3 rfl (eZ fP (Ht rfl) rfl) (dq 9 2 rfl (eJ A_30 Z_30 (Ht rfl) (i:=1) rfl rfl rfl) (cI 8 1 10 3 rfl (cZ K_105 (rD zo zo) ⟨(Ht rfl),(Ht rfl),trivial⟩) (dp 2 rfl (eZ gG (Ht rfl) rfl) (dq 12 5 rfl (eJ A_30 Z_30 (Ht rfl) (i:=0) rfl rfl rfl) (dp 3 rfl (eZ gG (Ht rfl) rfl) (dq 14 7 rfl (eJ A_30 Z_30 (Ht rfl) (i:=1) rfl rfl rfl) (cI 13 6 15 8 rfl (cZ K_105 (rD zo zo) ⟨(Ht rfl),(Ht rfl),trivial⟩) (dq 16 9 rfl (cZ K_107 oQ ⟨(Ht rfl),trivial⟩) ?_))))))))
 refine cI 11 4 17 10 rfl (cZ K_106 (tW zo zo) ⟨(Ht rfl),(Ht rfl),trivial⟩) (C.D_new (Ei:=[]) rfl rfl rfl bW (eW (Ts:=[Is (.bool false),Is (.slice none 0 0)]) O_30 rfl (fun V=>aW zd (aW zd (aG)))) (fV aO rfl (by kernel_rfl) (zF (zF (zF (C.F_new (fun B5=>aV (gQ Z_30 (Ht rfl) (Ht rfl) rfl (i:=3) rfl (aK rfl) rfl rfl (eX ?_)))))))))
 refine cK (fZ (m:=12) (dp 2 rfl (eZ fP (Ht rfl) rfl) (dq 19 0 rfl (eJ A_30 Z_30 (Ht rfl) (i:=0) rfl rfl rfl) (dp 3 rfl (eZ gG (Ht rfl) rfl) (dq 21 2 rfl (eJ A_30 Z_30 (Ht rfl) (i:=1) rfl rfl rfl) (cI 20 1 22 3 rfl (cZ K_105 (rD zo zo) ⟨(Ht rfl),(Ht rfl),trivial⟩) (dp 2 rfl (eZ gG (Ht rfl) rfl) (dq 24 5 rfl (eJ A_30 Z_30 (Ht rfl) (i:=0) rfl rfl rfl) (dp 3 rfl (eZ fP (Ht rfl) rfl) (dq 26 7 rfl (eJ A_30 Z_30 (Ht rfl) (i:=1) rfl rfl rfl) ?_))))))))))
 refine cI 25 6 27 8 rfl (cZ K_105 (rD zo zo) ⟨(Ht rfl),(Ht rfl),trivial⟩) (cI 23 4 28 9 rfl (cZ K_106 (tW zo zo) ⟨(Ht rfl),(Ht rfl),trivial⟩) (C.D_new (Ei:=[]) rfl rfl rfl bW (eW (Ts:=[Is (.bool false),Is (.slice none 0 0)]) O_30 rfl (fun V=>aW zd (aW zd (aG)))) (fV aO rfl (by kernel_rfl) (zF (zF (aJ (aJ (aJ (C.F_new (fun B6=>aV (gQ Z_30 (Ht rfl) (Ht rfl) rfl (i:=4) rfl (aK rfl) rfl rfl ?_)))))))))))
 refine eX (cK (fZ (m:=7) (dp 5 rfl (eJ A_30 Z_30 (Ht rfl) (i:=3) rfl rfl rfl) (dp 6 rfl (eJ A_30 Z_30 (Ht rfl) (i:=4) rfl rfl rfl) (dp 2 rfl (eJ A_32 Z_32 (Ht rfl) (i:=0) rfl rfl rfl) (dq 32 2 rfl (cZ K_109 nL ⟨(Ht rfl),trivial⟩) (dp 3 rfl (eJ A_32 Z_32 (Ht rfl) (i:=1) rfl rfl rfl) (dq 34 4 rfl (cZ K_109 nL ⟨(Ht rfl),trivial⟩) (cI 33 3 35 5 rfl (cZ Tryz.call110 (Ea zo zo) ⟨(Ht rfl),(Ht rfl),trivial⟩) (fV aO rfl (by kernel_rfl) (zF (aJ (aJ (aJ (aV ?_)))))))))))))))
 refine ro rfl (cZ K_108 (tV (by first | assumption | omega) zo zo zo) ⟨(Ht rfl),(Ht rfl),(Ht rfl),trivial⟩) (gQ Z_32 (Ht rfl) (Ht rfl) rfl (i:=2) rfl (aK rfl) rfl rfl (eX (fW rfl (fX (fK A_32 Z_32 rfl (i:=2) rfl rfl) ?_))))
 exact (kB (Qi.mk_mul x y))
theorem Ji {x:Qi} {L:Nat} [hx:aP x L] (h:L ≤ 17592186044415):bA Tryz.prog 34 [aT x] (aB (!decide (x = Qi.zero))):=by
 have hxa:=iF hx.fit; have hxb:=iL hx.fit; have hxd:=iG hx.fit
 refine bA.intro Tryz.func34 rfl Tryz.ntmps34 rfl (fun cx=>(ts (rn rfl (fG (Ht rfl)) fun B1=>(ro rfl (cQ cV) (eX (ts (ro rfl (eZ fP (Ht rfl) rfl) (ro rfl (eZ eH (Ht rfl) rfl) (ro rfl (eY A_28 Z_28 (Ht rfl) (i:=0) rfl rfl) (ro rfl (dG U_28 (Ht rfl) aA) (ro rfl (eZ gG (Ht rfl) rfl) (ro rfl (eZ eH (Ht rfl) rfl) (ro rfl (eY A_28 Z_28 (Ht rfl) (i:=0) rfl rfl) (ro rfl (dG U_28 (Ht rfl) aA) (ro rfl (dV (Ht rfl) (Ht rfl) z6) ?_)))))))))))))))
 refine ro rfl (cH (Ht rfl) (cJ 0)) (ra rfl (eX (fW rfl (fX (eU rfl) ?_))))
 exact (dI (Po x))
theorem Hd {x:Qi}:bA Tryz.prog 35 [aT x] (aB (decide (x.b = 0))):=by
 refine bA.intro Tryz.func35 rfl Tryz.ntmps35 rfl (fun cx=>(ts (rn rfl (fG (Ht rfl)) fun B1=>(ro rfl (cQ cV) (eX (ts (ro rfl (eZ gG (Ht rfl) rfl) (ro rfl (eZ eH (Ht rfl) rfl) (ro rfl (eY A_28 Z_28 (Ht rfl) (i:=0) rfl rfl) (ro rfl (dG U_28 (Ht rfl) aA) (ro rfl (bT (Ht rfl) (cJ 0)) (ra rfl (eX (fW rfl (fX (eU rfl) ?_)))))))))))))))
 exact (dI (Wq x))
theorem Zo {x y:Qi} {L M:Nat} [hx:aP x L] [hy:aP y M] (h:L ≤ 17592186044415) (h2:M ≤ 17592186044415):bA Tryz.prog 45 [aT x,aT y] (aB (decide (x = y))):=by
 have hxa:=iF hx.fit; have hxb:=iL hx.fit; have hxd:=iG hx.fit
 have hya:=iF hy.fit; have hyb:=iL hy.fit; have hyd:=iG hy.fit
 have hxu:=Py x; have hyu:=Py y
 refine bA.intro Tryz.func45 rfl Tryz.ntmps45 rfl (fun cx=>(ts (rn rfl (fG (Ht rfl)) fun B2=>(rn rfl (fG (Ht rfl)) fun B3=>(ro rfl (cQ cV) (eX (ts (ro rfl (eZ fP (Ht rfl) rfl) (ro rfl (eJ A_30 Z_30 (Ht rfl) (i:=0) rfl rfl rfl) (ro rfl (eZ fP (Ht rfl) rfl) (ro rfl (eJ A_30 Z_30 (Ht rfl) (i:=1) rfl rfl rfl) (ro rfl (cZ Tryz.call112 (Cf zo zo) ⟨(Ht rfl),(Ht rfl),trivial⟩) (ro rfl (iB (Ht rfl) cV) (rm rfl (fQ rfl rfl (eK rfl rfl (Ht rfl) (fun h=>eZ gG (Ht rfl) rfl)) ?_)))))))))))))))
 refine fQ rfl rfl (eK rfl rfl (Ht rfl) (fun h=>eJ A_30 Z_30 (fJ rfl h) (i:=0) rfl rfl rfl)) (fQ rfl rfl (eK rfl rfl (Ht rfl) (fun h=>eZ gG (Ht rfl) rfl)) (fQ rfl rfl (eK rfl rfl (Ht rfl) (fun h=>eJ A_30 Z_30 (fJ rfl h) (i:=1) rfl rfl rfl)) (fQ rfl rfl (eK rfl rfl (Ht rfl) (fun h=>cZ Tryz.call112 (Cf zo zo) ⟨(fJ rfl h),(fJ rfl h),trivial⟩)) (fQ rfl rfl (eK rfl rfl (Ht rfl) (fun h=>iB (fJ rfl h) cV)) (ro rfl (cT (Ht rfl) (fun h=>(fJ rfl h))) ?_)))))
 refine rm rfl (fQ rfl rfl (eK rfl rfl (Ht rfl) (fun h=>eZ oW (Ht rfl) rfl)) (fQ rfl rfl (eK rfl rfl (Ht rfl) (fun h=>eY A_28 Z_28 (fJ rfl h) (i:=0) rfl rfl)) (fQ rfl rfl (eK rfl rfl (Ht rfl) (fun h=>eZ oW (Ht rfl) rfl)) (fQ rfl rfl (eK rfl rfl (Ht rfl) (fun h=>eY A_28 Z_28 (fJ rfl h) (i:=1) rfl rfl)) (fQ rfl rfl (eK rfl rfl (Ht rfl) (fun h=>cZ Tryz.call129 (Pd zo zo) ⟨(fJ rfl h),(fJ rfl h),trivial⟩)) (fQ rfl rfl (eK rfl rfl (Ht rfl) (fun h=>iB (fJ rfl h) cV)) ?_))))))
 refine ro rfl (cT (Ht rfl) (fun h=>(fJ rfl h))) (ra rfl (eX (fW rfl (fX (eU rfl) ?_))))
 exact (dI (Ww x y))
theorem Jk {x y:Qi} {L M:Nat} [hx:aP x L] [hy:aP y M] (h:L + M ≤ 17592186044415):bA Tryz.prog 30 [aT x,aT y] (aL .i64 (pU x y)):=by
 have hxa:=iF hx.fit; have hxb:=iL hx.fit; have hxd:=iG hx.fit
 have hya:=iF hy.fit; have hyb:=iL hy.fit; have hyd:=iG hy.fit
 have e1:=cO x.a y.den; have e2:=cO y.a x.den; have e3:=cO x.b y.den; have e4:=cO y.b x.den
 refine bA.intro Tryz.func30 rfl Tryz.ntmps30 rfl (fun cx=>(ts (rn rfl (fG (Ht rfl)) fun B2=>(rn rfl (fG (Ht rfl)) fun B3=>(ro rfl (cQ (cJ 0)) (eX (cK (cK (fZ (m:=9) (dp 2 rfl (eZ fP (Ht rfl) rfl) (dq 6 0 rfl (eJ A_30 Z_30 (Ht rfl) (i:=0) rfl rfl rfl) (dp 3 rfl (eJ A_32 Z_32 (Ht rfl) (i:=1) rfl rfl rfl) (dq 8 2 rfl (cZ K_109 nL ⟨(Ht rfl),trivial⟩) (cI 7 1 9 3 rfl (cZ K_111 (kE zo zo) ⟨(Ht rfl),(Ht rfl),trivial⟩) (dp 3 rfl (eZ fP (Ht rfl) rfl) ?_)))))))))))))))
 refine dq 11 5 rfl (eJ A_30 Z_30 (Ht rfl) (i:=1) rfl rfl rfl) (dp 2 rfl (eJ A_32 Z_32 (Ht rfl) (i:=0) rfl rfl rfl) (dq 13 7 rfl (cZ K_109 nL ⟨(Ht rfl),trivial⟩) (fV aO rfl (by kernel_rfl) (zF (zF (aJ (aV (ro rfl (cZ K_111 (kE zo zo) ⟨(Ht rfl),(Ht rfl),trivial⟩) (ro rfl (cZ Tryz.call112 (Cf zo zo) ⟨(Ht rfl),(Ht rfl),trivial⟩) (ra rfl (eX (ts (rm rfl (ro rfl (jH (Ht rfl) cV) ?_))))))))))))))
 refine eX (dQ (Ht rfl) (fun hb=>?_) (fun hb=>?_))
 ·simp only [Bool.not_eq_true', decide_eq_false_iff_not] at hb
  refine ts (rm rfl (ra rfl (eX (fW rfl (fX (eU rfl) ?_)))))
  exact (aH (by rw [pU,if_pos hb]))
 ·simp only [Bool.not_eq_false', decide_eq_true_eq] at hb
  refine cU (cK (fZ (m:=9) (dp 2 rfl (eZ gG (Ht rfl) rfl) (dq 20 0 rfl (eJ A_30 Z_30 (Ht rfl) (i:=0) rfl rfl rfl) (dp 3 rfl (eJ A_32 Z_32 (Ht rfl) (i:=1) rfl rfl rfl) (dq 22 2 rfl (cZ K_109 nL ⟨(Ht rfl),trivial⟩) (cI 21 1 23 3 rfl (cZ K_111 (kE zo zo) ⟨(Ht rfl),(Ht rfl),trivial⟩) (dp 3 rfl (eZ gG (Ht rfl) rfl) (dq 25 5 rfl (eJ A_30 Z_30 (Ht rfl) (i:=1) rfl rfl rfl) (dp 2 rfl (eJ A_32 Z_32 (Ht rfl) (i:=0) rfl rfl rfl) ?_))))))))))
  refine dq 27 7 rfl (cZ K_109 nL ⟨(Ht rfl),trivial⟩) (fV aO rfl (by kernel_rfl) (zF (zF (aJ (aV (ro rfl (cZ K_111 (kE zo zo) ⟨(Ht rfl),(Ht rfl),trivial⟩) (ro rfl (cZ Tryz.call112 (Cf zo zo) ⟨(Ht rfl),(Ht rfl),trivial⟩) (ra rfl (eX (fW rfl (fX (eU rfl) ?_)))))))))))
  exact (aH (by rw [pU,if_neg (by simpa using hb)]))
end
section
open Go Go.RowKit
theorem Tu {n : Nat} {E : bM} {H : Hp} {d : Option Tmp} {t : TypeId} {pos : String} {af : Array Edge} {g : Option (Nat × Bool)}  :
  aE Tryz.prog n E H ⟨d,.build 30 #[],t,pos,af,g⟩ (dP [Is (.bool false),Is (.slice none 0 0)]) :=
 eO (parts := []) fun a V w hs => by
  refine ⟨.agg #[(.bool false),(.slice none 0 0)],?_,[(.bool false),(.slice none 0 0)],rfl,aW (⟨rfl,trivial⟩) (aW (⟨rfl,trivial⟩) (aG))⟩
  simp [Instr.build,Instr.fill,Sem.run_bind,Result.andThen,dF,O_30,U_30,Z_4,Z_28]
theorem oV (a:Addr) (w:World):(Instr.fieldAt 23 (.pointer (some a)) 0).run Tryz.prog w = .ok (.pointer (some (a.add 0))) w:=by
 simp [Instr.fieldAt,Instr.sureAddr,fieldPlace,Sem.run_bind,Result.andThen,U_23,Z_2]
theorem Ck (a:Addr) (w:World):(Instr.fieldAt 23 (.pointer (some a)) 1).run Tryz.prog w = .ok (.pointer (some (a.add 1))) w:=by
 simp [Instr.fieldAt,Instr.sureAddr,fieldPlace,Sem.run_bind,Result.andThen,U_23,Z_2]
theorem nN (a:Addr) (w:World):(Instr.fieldAt 23 (.pointer (some a)) 2).run Tryz.prog w = .ok (.pointer (some (a.add 2))) w:=by
 simp [Instr.fieldAt,Instr.sureAddr,fieldPlace,Sem.run_bind,Result.andThen,U_23,Z_2]
theorem nQ:Tryz.prog.info? 32 = some Tryz.t32:=by kernel_rfl
theorem qV:Tryz.prog.underlying 54 = some (.slice 32):=by kernel_rfl
end
section
open Go Go.RowKit
theorem Hj {a:Int} {d:Nat} (hd:0 < d) (ha:(dg a.natAbs).length ≤ 8796093022208) (hd2:(dg d).length ≤ 8796093022208):bA Tryz.prog 192 [cP a,aD d] (nY (qK a d)):=by
 have h1:=Fk a hd; have h2:=Fm a hd
 obtain ⟨x,hx⟩:∃ x,x = Qi.mk' a 0 d:=⟨_,rfl⟩
 rw [qK,← hx]
 rw [← hx] at h1 h2
 have h3:=oT x.a.natAbs; have h4:=oT x.den
 have h5:(dg (0:Int).natAbs).length ≤ 0:=by rw [show (0:Int).natAbs = 0 from rfl,dC]; exact Nat.le_refl _
 refine bA.intro Tryz.func192 rfl Tryz.ntmps192 rfl (fun cx=>(ts (rn rfl (fG (Ht rfl)) fun B2=>(ro rfl (cQ (aS.cS (l:=[]) rfl)) (eX (ts (ro rfl (eJ A_30 Z_30 (Ht rfl) (i:=0) rfl rfl rfl) (ro rfl (aE.imp (Tu ) zN) (rm rfl (ro rfl (aE.imp (cZ K_108 (tV (by first | assumption | omega) zo zo zo) ⟨(Ht rfl),(Ht rfl),(Ht rfl),trivial⟩) (kB hx.symm)) (rn rfl (eW (Ts:=[Is (.bool false),Is (.slice none 0 0),Is (.bool false),Is (.slice none 0 0),Is (.slice none 0 0)]) O_32 rfl (fun V=>aW zd (aW zd (aW zd (aW zd (aW zd (aG))))))) fun B5=>?_)))))))))))
 refine gQ Z_32 (Ht rfl) (Ht rfl) rfl (i:=1) rfl (aK rfl) rfl rfl (eX (ts (ro rfl (eZ fP (Ht rfl) rfl) (ro rfl (eZ eH (Ht rfl) rfl) (ro rfl (eY A_28 Z_28 (Ht rfl) (i:=1) rfl rfl) (ro rfl (cZ Tryz.call243 (Dz zo) ⟨(Ht rfl),trivial⟩) (ra rfl (eX (cK (iJ (fun (uu:Unit)=>True) (fun (uu:Unit)=>[(5,bR B5 0),(6,nY (if x.a < 0 then 45 :: rW x.a.natAbs else rW x.a.natAbs))]) (fun (uu:Unit)=>[box B2 30 [aB (decide (a < 0)),aD (a).natAbs],box B5 32 [aB (decide ((x).a < 0)),aD (x).a.natAbs,aB (decide ((x).b < 0)),aD (x).b.natAbs,aD (du (x))]]) ?_ (fun uu _=>?_)))))))))))
 ·refine ts (ro rfl (eZ fP (Ht rfl) rfl) (ro rfl (eZ jT (Ht rfl) rfl) (ro rfl (eY A_4 Z_4 (Ht rfl) (i := 1) rfl rfl) (eX (dQ (Ht rfl) (fun hb => ?_) (fun hb => ?_))))))
  ·simp only [decide_eq_true_eq] at hb
   refine cY (rm rfl (ro rfl (iX (aS.cS (l:=[45]) rfl) (Ht rfl) (by first | omega | (simp; omega))) (ra rfl (eX (aN () trivial (aQ rfl (aZ rfl (iK (by rw [if_pos hb]; rfl)) aX)) (aU (aC rfl) (aU (aC rfl) aY)))))))
  ·simp only [decide_eq_false_iff_not] at hb
   refine cU (aN () trivial (aQ rfl (aZ rfl (iK (by rw [if_neg hb])) aX)) (aU (aC rfl) (aU (aC rfl) aY)))
 ·have h6 : (if x.a < 0 then 45 :: rW x.a.natAbs else rW x.a.natAbs).length ≤ (rW x.a.natAbs).length + 1 := by split <;> simp
  have h7:=Py x
  refine cK (iJ (fun (uu:Unit)=>True) (fun (uu:Unit)=>[(6,nY ((if x.a < 0 then 45 :: rW x.a.natAbs else rW x.a.natAbs) ++ (if x.den = 1 then [] else 47 :: rW x.den)))]) (fun (uu:Unit)=>[box B2 30 [aB (decide (a < 0)),aD (a).natAbs],box B5 32 [aB (decide ((x).a < 0)),aD (x).a.natAbs,aB (decide ((x).b < 0)),aD (x).b.natAbs,aD (du (x))]]) ?_ (fun uu _=>?_))
  ·refine ts (ro rfl (eZ oW (Ht rfl) rfl) (ro rfl (eY A_28 Z_28 (Ht rfl) (i := 1) rfl rfl) (ro rfl (dG U_28 (Ht rfl) aA) (ro rfl (cH (Ht rfl) (cJ 0)) (eX (dQ (Ht rfl) (fun hb => ?_) (fun hb => ?_)))))))
   ·simp only [decide_eq_true_eq] at hb
    have h8:du x = x.den:=sW (fun e=>by rw [e,dC] at hb; simp at hb)
    have h9:x.den ≠ 1:=fun e=>by rw [du,if_pos e,dC] at hb; simp at hb
    have h10:=oT (du x)
    refine cY (rm rfl (ro rfl (eZ oW (Ht rfl) rfl) (ro rfl (eY A_28 Z_28 (Ht rfl) (i:=1) rfl rfl) (ro rfl (cZ Tryz.call243 (Dz zo) ⟨(Ht rfl),trivial⟩) (ro rfl (iX (aS.cS (l:=[47]) rfl) (Ht rfl) (by simp only [List.length_cons,List.length_nil]; omega)) ?_)))))
    refine ro rfl (iX (Ht rfl) (Ht rfl) (by simp only [List.length_append,List.length_cons,List.length_nil]; omega)) ?_
    refine ra rfl (eX (aN () trivial (aZ rfl (iK (by rw [if_neg h9,h8]; rfl)) aX) (bP.refl _)))
   ·simp only [decide_eq_false_iff_not] at hb
    have h9:x.den = 1:=wK (aI.1 zo)
    refine cU (aN () trivial (aZ rfl (iK (by rw [if_pos h9,List.append_nil])) aX) (bP.refl _))
  ·refine ts (rm rfl (ra rfl (eX ?_)))
   exact fW rfl (eU rfl)
theorem Pc {x:Qi} {L:Nat} [hx:aP x L] (h:L ≤ 8796093022208):bA Tryz.prog 92 [aT x] (nY (Ny x)):=by
 have hxa:=iF hx.fit; have hxb:=iL hx.fit; have hxd:=iG hx.fit; have hdp:=x.den_pos
 have l1:=tF x.a hdp; have l2:=tF x.b hdp
 refine bA.intro Tryz.func92 rfl Tryz.ntmps92 rfl (fun cx=>(ts (rn rfl (fG (Ht rfl)) fun B1=>(ro rfl (cQ (aS.cS (l:=[]) rfl)) (eX (cK (ts (ro rfl (eJ A_32 Z_32 (Ht rfl) (i:=0) rfl rfl rfl) (ro rfl (cZ Tryz.call35 Hd ⟨(Ht rfl),trivial⟩) (eX (dQ (Ht rfl) (fun hb=>?_) (fun hb=>?_))))))))))))
 ·simp only [decide_eq_true_eq] at hb
  refine cK (fZ (m:=4) (dp 1 rfl (eZ fP (Ht rfl) rfl) (dq 6 0 rfl (eJ A_30 Z_30 (Ht rfl) (i:=0) rfl rfl rfl) (dp 1 rfl (eJ A_32 Z_32 (Ht rfl) (i:=0) rfl rfl rfl) (dq 8 2 rfl (cZ K_109 nL ⟨(Ht rfl),trivial⟩) (fV aO rfl (by kernel_rfl) (zF (aV (ro rfl (cZ Tryz.call192 (Hj (by assumption) zo zo) ⟨(Ht rfl),(Ht rfl),trivial⟩) ?_)))))))))
  refine ra rfl (eX (fW rfl (fX (eU rfl) ?_)))
  exact (iK (by rw [Ny,if_pos hb]))
 ·simp only [decide_eq_false_iff_not] at hb
  refine cU (cK (fZ (m:=4) (dp 1 rfl (eZ gG (Ht rfl) rfl) (dq 11 0 rfl (eJ A_30 Z_30 (Ht rfl) (i:=0) rfl rfl rfl) (dp 1 rfl (eJ A_32 Z_32 (Ht rfl) (i:=0) rfl rfl rfl) (dq 13 2 rfl (cZ K_109 nL ⟨(Ht rfl),trivial⟩) (fV aO rfl (by kernel_rfl) (zF (aV (ro rfl (cZ Tryz.call192 (Hj (by assumption) zo zo) ⟨(Ht rfl),(Ht rfl),trivial⟩) ?_))))))))))
  refine ro rfl (iX (Ht rfl) (aS.cS (l:=[105]) rfl) (by simp only [List.length_append,List.length_cons,List.length_nil]; omega)) ?_
  refine ra rfl (eX (cK (ts (ro rfl (eZ fP (Ht rfl) rfl) (ro rfl (eZ eH (Ht rfl) rfl) (ro rfl (eY A_28 Z_28 (Ht rfl) (i:=0) rfl rfl) (ro rfl (dG U_28 (Ht rfl) aA) (ro rfl (bT (Ht rfl) (cJ 0)) (eX (dQ (Ht rfl) (fun hc=>?_) (fun hc=>?_)))))))))))
  ·simp only [decide_eq_true_eq] at hc
   have ha:x.a = 0:=by have:=aI.1 hc; omega
   refine ts (rm rfl (ra rfl (eX (fW rfl (fX (eU rfl) ?_)))))
   exact (iK (by rw [Ny,if_neg hb,if_pos ha]))
  ·simp only [decide_eq_false_iff_not] at hc
   have ha:x.a ≠ 0:=fun e=>hc (by rw [e]; exact aI.2 rfl)
   refine cU (cK (iJ (fun (uu:Unit)=>True) (fun (uu:Unit)=>[(1,bR B1 0),(3,nY ((if x.b < 0 then qK x.b x.den else 43 :: qK x.b x.den) ++ [105]))]) (fun (uu:Unit)=>[box B1 32 [aB (decide ((x).a < 0)),aD (x).a.natAbs,aB (decide ((x).b < 0)),aD (x).b.natAbs,aD (du (x))]]) ?_ (fun uu _=>?_)))
   ·refine ts (ro rfl (eZ gG (Ht rfl) rfl) (ro rfl (eZ jT (Ht rfl) rfl) (ro rfl (eY A_4 Z_4 (Ht rfl) (i := 0) rfl rfl) (ro rfl (fB (Ht rfl)) (eX (dQ (Ht rfl) (fun hd => ?_) (fun hd => ?_)))))))
    ·have hn : ¬ x.b < 0 := by simpa using hd
     refine cY (rm rfl (ro rfl (iX (aS.cS (l:=[43]) rfl) (Ht rfl) (by simp only [List.length_append,List.length_cons,List.length_nil]; omega)) ?_))
     refine ra rfl (eX (aN () trivial (aQ rfl (aZ rfl (iK (by rw [if_neg hn]; rfl)) aX)) (aU (aC rfl) aY)))
    ·have hn : x.b < 0 := by simpa using hd
     refine cU (aN () trivial (aQ rfl (aZ rfl (iK (by rw [if_pos hn])) aX)) (aU (aC rfl) aY))
   ·have l3 : ((if x.b < 0 then qK x.b x.den else 43 :: qK x.b x.den) ++ [105]).length ≤ (qK x.b x.den).length + 2 := by split <;> simp
    refine cK (fZ (m:=6) (dp 1 rfl (eZ fP (Ht rfl) rfl) (dq 29 0 rfl (eJ A_30 Z_30 (Ht rfl) (i:=0) rfl rfl rfl) (dp 1 rfl (eJ A_32 Z_32 (Ht rfl) (i:=0) rfl rfl rfl) (dq 31 2 rfl (cZ K_109 nL ⟨(Ht rfl),trivial⟩) (cI 30 1 32 3 rfl (cZ Tryz.call192 (Hj (by assumption) zo zo) ⟨(Ht rfl),(Ht rfl),trivial⟩) ?_))))))
    refine dp 3 rfl (cX (Ht rfl)) (fV aO rfl (by kernel_rfl) (zF (aJ (aJ (aV (ro rfl (iX (Ht rfl) (Ht rfl) zo) (ra rfl (eX (fW rfl (fX (eU rfl) ?_))))))))))
    exact (iK (by rw [Ny,if_neg hb,if_neg ha]))
theorem Jt {r:Rt}:bA Tryz.prog 14 [kV r] (aT r.q):=by
 have hr1:=r.h1; have hr2:=r.h2; have hr3:=r.h3; have hr4:=r.h4; have hr5:=r.d1; have hr6:=r.d2; have hr0:=r.d0
 refine bA.intro Tryz.func14 rfl Tryz.ntmps14 rfl (fun cx=>(ts (rn rfl (fG (Ht rfl)) fun B1=>(rn rfl (eW (Ts:=[Is (.bool false),Is (.slice none 0 0),Is (.bool false),Is (.slice none 0 0),Is (.slice none 0 0)]) O_32 rfl (fun V=>aW zd (aW zd (aW zd (aW zd (aW zd (aG))))))) fun B2=>(eX (cK (iJ (fun (uu:Unit)=>True) (fun (uu:Unit)=>[(1,bR B1 0),(2,bR B2 0)]) (fun (uu:Unit)=>[box B1 23 [aL .i64 r.re,aL .i64 r.im,aL .i64 r.d],box B2 32 [Is (.bool false),Is (.slice none 0 0),Is (.bool false),Is (.slice none 0 0),Is (.slice none 0 0)]]) ?_ (fun uu _=>?_))))))))
 ·refine ts (ro rfl (eZ nN (Ht rfl) rfl) (ro rfl (eY A_2 Z_2 (Ht rfl) (i := 0) rfl rfl) (ro rfl (iB (Ht rfl) cV) (eX (dQ (Ht rfl) (fun hb => ?_) (fun hb => ?_))))))
  ·simp only [decide_eq_true_eq] at hb
   refine cY (ro rfl (eZ nN (Ht rfl) rfl) (jN Z_2 (Ht rfl) (cJ 1) (i:=0) rfl (aK rfl) rfl (eX (aN () trivial (zS rfl) (aU (aC (by rw [Rt.d,if_pos hb]; rfl)) (aU (aC rfl) aY))))))
  ·simp only [decide_eq_false_iff_not] at hb
   refine cU (aN () trivial (zS rfl) (aU (aC (by rw [Rt.d,if_neg hb])) (aU (aC rfl) aY)))
 ·refine ts (ro rfl (eZ oV (Ht rfl) rfl) (ro rfl (eY A_2 Z_2 (Ht rfl) (i := 0) rfl rfl) (ro rfl (eZ Ck (Ht rfl) rfl) (ro rfl (eY A_2 Z_2 (Ht rfl) (i := 0) rfl rfl) (ro rfl (eZ nN (Ht rfl) rfl) (ro rfl (eY A_2 Z_2 (Ht rfl) (i := 0) rfl rfl) (ro rfl (cZ Tryz.call81 (a17 hr1 hr2 hr3 hr4 hr5 hr6 hr0) ⟨(Ht rfl), (Ht rfl), (Ht rfl), trivial⟩) (rm rfl (ro rfl (dK (Ht rfl) rfl) (ro rfl (dK (Ht rfl) rfl) (rn rfl (eW (Ts := [Is (.bool false), Is (.slice none 0 0), Is (.bool false), Is (.slice none 0 0), Is (.slice none 0 0)]) O_32 rfl (fun V => aW zd (aW zd (aW zd (aW zd (aW zd (aG))))))) fun B3 => ?_)))))))))))
  refine gQ Z_32 (Ht rfl) (Ht rfl) rfl (i:=2) rfl (aK rfl) rfl rfl (ra rfl (eX (ts (ro rfl (eJ A_32 Z_32 (Ht rfl) (i:=2) rfl rfl rfl) (gQ Z_32 (Ht rfl) (Ht rfl) rfl (i:=1) rfl (aK rfl) rfl rfl (eX ?_))))))
  exact fW rfl (fK A_32 Z_32 rfl (i:=1) rfl rfl)
theorem oA {l:List Rt} (hl:l.length ≤ 1000000):bA Tryz.prog 50 [jJ l] (dB (l.map Rt.q)):=by
 refine bA.intro Tryz.func50 rfl Tryz.ntmps50 rfl (fun cx=>(ts (ro rfl (cQ cV) (eX (ts (rm rfl (ro rfl (dG U_77 (Ht rfl) aA) (rn rfl (iQ (T:=aT Qi.zero) (i:=Tryz.t32) qV nQ rfl rfl (Ht rfl) rfl lG (El.ag rfl) (by show 88 * _ ≤ _; omega) zo) fun B8=>(ra rfl (eX (cK (ts (rm rfl (ro rfl (dG U_77 (Ht rfl) aA) (ro rfl (cX (cJ 0)) (eX (eG ?_)))))))))))))))))
 refine fN (fun (k : Nat) (out : List Qi) => lT (fun i => (l.getD i default).q) l.length out k) (fun (k : Nat) (out : List Qi) => l.length - k) (fun (k : Nat) (out : List Qi) => [(3, Is B8), (9, jJ l), (10, NT .i64 l.length), (11, NT .i64 k)]) (fun (k : Nat) (out : List Qi) => [bF 32 5 B8 (out.map aT)]) 0 (List.replicate l.length Qi.zero) (lT.start _ _ _)
  (zS rfl) (aU (bN (qM aT _ _)) aY) (fun k out hS=>?_)
 refine ts (ro rfl (gX (Ht rfl) (Ht rfl)) (eX (cK (dQ (Ht rfl) (fun hk=>?_) (fun hk=>?_)))))
 ·simp only [decide_eq_true_eq] at hk
  have hlen:=hS.len
  refine cU (cK (eG (ts (rm rfl (ro rfl (dZ U_77 Z_23 (Ht rfl) (Ht rfl) rfl (dY (dU (d:=default) hk))) (ro rfl (dJ A_23 Z_23 (Ht rfl)) (rn rfl (eW (Ts:=[Is (.int .i64 0),Is (.int .i64 0),Is (.int .i64 0)]) O_23 rfl (fun V=>aW zd (aW zd (aW zd (aG))))) fun B5=>(ra rfl (gQ Z_23 (Ht rfl) (Ht rfl) rfl (i:=1) rfl (aK rfl) rfl rfl (eX (cY (rm rfl (rm rfl (ro rfl (eJ A_23 Z_23 (Ht rfl) (i:=1) rfl rfl rfl) ?_))))))))))))))
  refine ro rfl (cZ Tryz.call14 Jt ⟨(Ht rfl),trivial⟩) (ro rfl (eR U_54 Z_32 (Ht rfl) (Ht rfl) rfl (i:=0) rfl (by first | omega | (simp; omega)) rfl) (mX Z_32 (Ht rfl) (Ht rfl) (El.ag rfl) (i:=0) rfl rfl (by first | omega | (simp; omega)) rfl (eX (bD (cY (ro rfl (dV (Ht rfl) (cJ 1) z6) (rm rfl (eX (dT [0] rfl (by decide) (fU (k + 1,_) (hS.next hk rfl) (by dsimp only; omega) (zS rfl) (aU (bN (lA aT _ _ _)) aY)))))))))))
 ·simp only [decide_eq_false_iff_not] at hk
  obtain rfl:k = l.length:=Nat.le_antisymm hS.kle zo
  have hfin:=hS.fin
  rw [qU l Rt.q] at hfin
  refine gV rfl (gJ (i:=0) (tt:=3) rfl rfl iN (ts (rm rfl (ra rfl (eX (fW rfl (fX (eU rfl) ?_)))))))
  exact (jQ (by rw [hfin]))
end
section
open Go Go.RowKit
theorem mM (ds:List Nat) (hd:jI ds) (hl:ds.length ≤ 1152921504606846976):bA Tryz.prog 240 [tN ds] (aD (val ds)):=by
 refine bA.intro Tryz.func240 rfl Tryz.ntmps240 rfl (fun cx=>(ts (ro rfl (cQ cV) (eX (ts (rm rfl (ro rfl (dG U_27 (Ht rfl) aA) (ra rfl (eX (cK (eG ?_)))))))))))
 refine cL (fun (k : Nat) => k ≤ ds.length ∧ ∀ i, k ≤ i → i < ds.length → ds.getD i 0 = 0) (fun (k : Nat) => k) (fun (k : Nat) => [(0, tN ds), (3, NT .i64 k)]) (fun (k : Nat) => []) ds.length ⟨Nat.le_refl _, fun i h1 h2 => by omega⟩
  (zS rfl) aY (fun k ⟨hk,hz⟩=>?_)
 refine cK (ts (rm rfl (ro rfl (cH (Ht rfl) (cJ 0)) (rm rfl (fQ rfl rfl (eK rfl rfl (Ht rfl) (fun h=>cX (Ht rfl))) (fQ rfl rfl (eK rfl rfl (Ht rfl) (fun h=>cX (Ht rfl))) (fQ rfl rfl (eK rfl rfl (Ht rfl) (fun h=>dW (fJ rfl h) (cJ 1) (by first | omega | (simp at h; omega)) (by show _ < 9223372036854775808; first | omega | (simp at h; omega)))) (fQ rfl rfl (eK rfl rfl (Ht rfl) (fun h=>dZ U_27 Z_24 (fJ rfl h) (fJ rfl h) rfl (dY (aF (by first | omega | (simp at h; omega)))))) ?_))))))))
 refine fQ rfl rfl (eK rfl rfl (Ht rfl) (fun h=>dJ A_24 Z_24 (fJ rfl h))) (fQ rfl rfl (eK rfl rfl (Ht rfl) (fun h=>bT (fJ rfl h) (cJ 0))) (ro rfl (cT (Ht rfl) (fun h=>(fJ rfl h))) (eX (dQ (Ht rfl) (fun hb=>?_) (fun hb=>?_)))))
 ·simp at hb
  refine cU (eG (cY (rm rfl (ro rfl (dW (Ht rfl) (cJ 1) zo z6) (ra rfl (eX (bD (fU (k - 1) ⟨by omega,fun i h1 h2=>?_⟩ zo (zS rfl) aY))))))))
  by_cases e2:i = k - 1
  ·subst e2; simpa using hb.2
  ·exact hz i zo h2
 ·have hn : k = 0 ∨ ds.getD (k - 1) 0 ≠ 0 := by
   simp only [Bool.and_eq_false_iff,decide_eq_false_iff_not] at hb
   rcases hb with h1 | h1
   ·left; omega
   ·right; exact h1
  have hfin:=Kb hd hk hz hn
  refine gV rfl (ts (rm rfl (rm rfl (ro rfl (rP U_27 Z_24 (Ht rfl) (Ht rfl) (fun m e=>by cases e) zo (by simp; omega) rfl) ?_))))
  refine ra rfl (eX (fW rfl (fX (eU rfl) ?_)))
  exact (Ev (by rw [hfin]; simp))
theorem xY {m:Nat} (hm:m < 18446744073709551616):bA Tryz.prog 235 [NT .u64 m] (aD m):=by
 refine bA.intro Tryz.func235 rfl Tryz.ntmps235 rfl (fun cx=>(ts (ro rfl (cQ cV) (eX (ts (rm rfl (ro rfl (eL rfl U_274 U_24 (Ht rfl)) (rm rfl (ro rfl (dD (Ht rfl) (cJ 32) (by decide)) (ro rfl (eL rfl U_274 U_24 (Ht rfl)) (ro rfl (dH (xs:=[.tmp 4,.tmp 7]) U_27 Z_24 O_24 (cW (Ht rfl) (cW (Ht rfl) cG)) rfl rfl rfl) (ro rfl (cZ K_240 (mM [m % 4294967296,m / 2 ^ 32 % 4294967296] (a1d _ _) (by simp)) ⟨(Ht rfl),trivial⟩) ?_))))))))))))
 refine ra rfl (eX (fW rfl (fX (eU rfl) ?_)))
 exact (bS (Bb hm))
theorem oB {m n:Nat} (hm:(dg m).length ≤ 1152921504606846976) (hn:(dg n).length ≤ 1152921504606846976):bA Tryz.prog 225 [aD m,aD n] (aL .i64 (lZ m n)):=by
 refine bA.intro Tryz.func225 rfl Tryz.ntmps225 rfl (fun cx=>(ts (ro rfl (cQ (cJ 0)) (eX (cK (ts (rm rfl (ro rfl (dG U_27 (Ht rfl) aA) (rm rfl (ro rfl (dG U_27 (Ht rfl) aA) (ro rfl (gL (Ht rfl) (Ht rfl)) (eX (dQ (Ht rfl) (fun hb=>?_) (fun hb=>?_))))))))))))))
 ·simp at hb
  refine cK (ts (rm rfl (ro rfl (dG U_27 (Ht rfl) aA) (rm rfl (ro rfl (dG U_27 (Ht rfl) aA) (ro rfl (gX (Ht rfl) (Ht rfl)) (eX (dQ (Ht rfl) (fun hb2=>?_) (fun hb2=>?_)))))))))
  ·simp at hb2
   have hlt:=yA hb2
   refine ts (ro rfl (cQ cV) (eX (fW rfl (fX (eU rfl) ?_))))
   exact (aH (by simp [lZ,hlt]))
  ·simp at hb2
   have hlt:=yA (a:=n) (b:=m) zo
   refine cU (ts (ro rfl (cQ (cJ 1)) (eX (fW rfl (fX (eU rfl) ?_)))))
   exact (aH (by simp [lZ,hlt,Nat.lt_asymm hlt]))
 ·simp at hb
  refine cU (cK (ts (rm rfl (ro rfl (dG U_27 (Ht rfl) aA) (ro rfl (gT (Ht rfl) cV (vT zo)) (ra rfl (eX (eG ?_))))))))
  refine cL (fun (k : Nat) => k ≤ (dg m).length ∧ ∀ i, k ≤ i → i < (dg m).length → (dg m).getD i 0 = (dg n).getD i 0) (fun (k : Nat) => k) (fun (k : Nat) => [(0, aD m), (1, aD n), (5, aL .i64 ((k : Int) - 1))]) (fun (k : Nat) => []) (dg m).length ⟨Nat.le_refl _, fun i h1 h2 => by omega⟩
   (zS rfl) aY (fun k ⟨hk,he⟩=>?_)
  refine cK (ts (rm rfl (ro rfl (jP (Ht rfl) cV) (eX (dQ (Ht rfl) (fun hk1=>?_) (fun hk1=>?_))))))
  ·simp at hk1
   refine cU (cK (eG (cK (fZ (m:=8) (dp 0 rfl (cX (Ht rfl)) (dp 5 rfl (cX (Ht rfl)) (cI 23 0 24 1 rfl (dZ U_27 Z_24 (Ht rfl) (Ht rfl) (show ((k:Int) - 1) = ((k - 1:Nat):Int) by omega) (dY (aF zo))) (dq 25 2 rfl (dJ A_24 Z_24 (Ht rfl)) (dp 1 rfl (cX (Ht rfl)) (dp 5 rfl (cX (Ht rfl)) (cI 27 4 28 5 rfl (dZ U_27 Z_24 (Ht rfl) (Ht rfl) (show ((k:Int) - 1) = ((k - 1:Nat):Int) by omega) (dY (aF zo))) (dq 29 6 rfl (dJ A_24 Z_24 (Ht rfl)) ?_))))))))))))
   refine fV aO rfl (by kernel_rfl) (zF (zF (aV (ro rfl (gL (Ht rfl) (Ht rfl)) (eX (dQ (Ht rfl) (fun h1=>?_) (fun h1=>?_)))))))
   ·simp only [Bool.not_eq_true', decide_eq_false_iff_not] at h1
    refine cK (cK (fZ (m:=8) (dp 0 rfl (cX (Ht rfl)) (dp 5 rfl (cX (Ht rfl)) (cI 32 0 33 1 rfl (dZ U_27 Z_24 (Ht rfl) (Ht rfl) (show ((k:Int) - 1) = ((k - 1:Nat):Int) by omega) (dY (aF zo))) (dq 34 2 rfl (dJ A_24 Z_24 (Ht rfl)) (dp 1 rfl (cX (Ht rfl)) (dp 5 rfl (cX (Ht rfl)) (cI 36 4 37 5 rfl (dZ U_27 Z_24 (Ht rfl) (Ht rfl) (show ((k:Int) - 1) = ((k - 1:Nat):Int) by omega) (dY (aF zo))) (dq 38 6 rfl (dJ A_24 Z_24 (Ht rfl)) ?_))))))))))
    refine fV aO rfl (by kernel_rfl) (zF (zF (aV (ro rfl (gX (Ht rfl) (Ht rfl)) (eX (dQ (Ht rfl) (fun h2=>?_) (fun h2=>?_)))))))
    ·simp only [decide_eq_true_eq] at h2
     have hlt:=wH (bB m) (bB n) hb (k:=k - 1) zo (fun i h2 h3=>he i zo h3) h2
     rw [bL,bL] at hlt
     refine ts (ro rfl (cQ cV) (eX (fW rfl (fX (eU rfl) ?_))))
     exact (aH (by simp [lZ,hlt]))
    ·simp only [decide_eq_false_iff_not] at h2
     have hlt:=wH (bB n) (bB m) hb.symm (k:=k - 1) zo (fun i h2 h3=>(he i zo zo).symm) zo
     rw [bL,bL] at hlt
     refine cU (ts (ro rfl (cQ (cJ 1)) (eX (fW rfl (fX (eU rfl) ?_)))))
     exact (aH (by simp [lZ,hlt,Nat.lt_asymm hlt]))
   ·simp only [Bool.not_eq_false', decide_eq_true_eq] at h1
    refine cU (bD (cY (rm rfl (ro rfl (gT (Ht rfl) cV (vT zo)) (ra rfl (eX (fU (k - 1) ⟨by omega,fun i h3 h4=>(by by_cases e:i = k - 1; (· subst e; omega); exact he i zo h4)⟩ zo (aQ rfl (aQ rfl (aZ rfl (aH zo) aX))) aY)))))))
  ·simp at hk1
   have hk0:k = 0:=by omega
   have heq : m = n := by
    have : dg m = dg n := by
     apply List.ext_getElem?
     intro i
     by_cases hi:i < (dg m).length
     ·have h5 := he i zo hi
      have h6:i < (dg n).length:=by omega
      simp [List.getD,hi,h6] at h5
      simp [hi,h6,h5]
     ·rw [List.getElem?_eq_none zo,List.getElem?_eq_none zo]
    rw [← bL m,this,bL]
   refine gV rfl (ts (ro rfl (cQ (cJ 0)) (eX (fW rfl (fX (eU rfl) ?_)))))
   exact (aH (by simp [lZ,heq]))
theorem Mf {m n:Nat} (hm:(dg m).length ≤ 17592186044416) (hn:(dg n).length ≤ 17592186044416):bA Tryz.prog 241 [aD m,aD n] (aD (m + n)):=by
 refine bA.intro Tryz.func241 rfl Tryz.ntmps241 rfl (fun cx=>(ts (ro rfl (cQ cV) (eX (cK (nK (fun (p:Nat) (q:Nat)=>p + q = m + n ∧ (dg q).length ≤ (dg p).length ∧ (dg p).length ≤ 17592186044416) (fun (p:Nat) (q:Nat)=>[(0,aD p),(1,aD q)]) (fun (p:Nat) (q:Nat)=>[]) ?_ (fun p q ⟨hpq,hle,hlp⟩=>?_)))))))
 ·refine ts (rm rfl (ro rfl (dG U_27 (Ht rfl) aA) (rm rfl (ro rfl (dG U_27 (Ht rfl) aA) (ro rfl (gX (Ht rfl) (Ht rfl)) (eX (dQ (Ht rfl) (fun hb => ?_) (fun hb => ?_))))))))
  ·simp at hb
   refine cY (rm rfl (rm rfl (ra rfl (ra rfl (eX (aN (n,m) ⟨Nat.add_comm _ _,Nat.le_of_lt hb,hn⟩ (zS rfl) aY))))))
  ·simp at hb
   refine cU (aN (m,n) ⟨rfl,hb,hm⟩ (zS rfl) aY)
 ·refine ts (rm rfl (ro rfl (dG U_27 (Ht rfl) aA) (ro rfl (dV (Ht rfl) (cJ 1) z6) (rn rfl (eI (T := bE 0) (i := Tryz.t24) V_27 iO rfl rfl (Ht rfl) rfl (fun _ => rfl) trivial (by show 4 * _ ≤ _; omega) zo) fun B19 => (ra rfl (eX (ts (ro rfl (cQ (cJ 0)) (eX (cK (ts (ro rfl (cQ (cJ 0)) (eX (eG ?_))))))))))))))
  refine iT (fun (k : Nat) (out : List Nat) (c : Nat) => vV (dg p) (dg q) out k c) (fun (k : Nat) (out : List Nat) (c : Nat) => (dg p).length - k) (fun (k : Nat) (out : List Nat) (c : Nat) => [(0, aD p), (1, aD q), (5, Is (.slice (some ⟨B19, 0, none⟩) ((dg p).length + 1) ((dg p).length + 1))), (6, NT .u64 c), (7, NT .i64 k)]) (fun (k : Nat) (out : List Nat) (c : Nat) => [box B19 24 (out.map bE)]) 0 (List.replicate ((dg p).length + 1) 0) 0 (vV.start _ _)
   (zS rfl) (aU (aC (jM _)) aY) (fun k out c hS=>?_)
  refine cK (ts (rm rfl (rm rfl (ro rfl (dG U_27 (Ht rfl) aA) (ro rfl (gX (Ht rfl) (Ht rfl)) (eX (dQ (Ht rfl) (fun hb=>?_) (fun hb=>?_))))))))
  ·simp at hb
   have hlen:=hS.len; have hcl:=hS.cle; have hxk:=aM (bB p) k; have hyk:=aM (bB q) k
   simp only [BB] at hxk hyk
   refine cU (cK (eG (ts (rm rfl (rm rfl (ro rfl (dZ U_27 Z_24 (Ht rfl) (Ht rfl) rfl (dY (aF zo))) (ro rfl (dJ A_24 Z_24 (Ht rfl)) (ro rfl (gZ U_24 U_274 (Ht rfl) z7) (rm rfl (ro rfl (dV (Ht rfl) (Ht rfl) z7) (ra rfl (eX (cK (iJ (fun (s:Nat)=>s = (dg p).getD k 0 + (dg q).getD k 0 + c) (fun (s:Nat)=>[(0,aD p),(1,aD q),(5,Is (.slice (some ⟨B19,0,none⟩) ((dg p).length + 1) ((dg p).length + 1))),(7,NT .i64 k),(8,NT .u64 s)]) (fun (s:Nat)=>[box B19 24 (out.map bE)]) ?_ (fun s hs=>?_)))))))))))))))
   ·refine ts (rm rfl (rm rfl (ro rfl (dG U_27 (Ht rfl) aA) (ro rfl (gX (Ht rfl) (Ht rfl)) (eX (dQ (Ht rfl) (fun hk2 => ?_) (fun hk2 => ?_)))))))
    ·simp at hk2
     refine cY (rm rfl (rm rfl (rm rfl (ro rfl (dZ U_27 Z_24 (Ht rfl) (Ht rfl) rfl (dY (aF zo))) (ro rfl (dJ A_24 Z_24 (Ht rfl)) (ro rfl (gZ U_24 U_274 (Ht rfl) z7) (ro rfl (dV (Ht rfl) (Ht rfl) z7) (ra rfl (eX (aN ((dg p).getD k 0 + c + (dg q).getD k 0) zo (zS rfl) (bP.refl _)))))))))))
    ·simp at hk2
     have hq0:(dg q).getD k 0 = 0:=by simp [List.getD,List.getElem?_eq_none hk2]
     refine cU (aN ((dg p).getD k 0 + c) zo (zS rfl) (bP.refl _))
   ·refine ts (rm rfl (rm rfl (rm rfl (ro rfl (eL rfl U_274 U_24 (Ht rfl)) (ro rfl (fY U_27 Z_24 (Ht rfl) (Ht rfl) rfl zo (by rw [Nat.mul_one, Nat.zero_add])) ?_)))))
    refine jN Z_24 (Ht rfl) (Ht rfl) (i:=0) rfl (by first | omega | (simp; omega)) rfl (eX (cY (rm rfl (ro rfl (dD (Ht rfl) (cJ 32) (by decide)) (ra rfl (eX (bD (cY (rm rfl (ro rfl (dV (Ht rfl) (cJ 1) z6) (ra rfl (eX (fU (k + 1,out.set k (s % 4294967296),s / 4294967296) (by show vV _ _ (out.set k (s % 4294967296)) (k + 1) (s / 4294967296); rw [hs]; exact hS.next (bB p) (bB q) hb) (by dsimp only; omega) (zS rfl) (aU (aC (eB _ _ _)) aY))))))))))))))
  ·simp at hb
   have hkl:k = (dg p).length:=Nat.le_antisymm hS.kle hb
   subst hkl
   have hlen:=hS.len; have hcl:=hS.cle
   refine gV rfl (ts (rm rfl (rm rfl (ro rfl (dG U_27 (Ht rfl) aA) (rm rfl (ro rfl (gZ U_274 U_24 (Ht rfl) (by show _ < 4294967296; first | omega | (simp only [kA]; omega))) (ro rfl (fY U_27 Z_24 (Ht rfl) (Ht rfl) rfl zo (by rw [Nat.mul_one,Nat.zero_add])) ?_)))))))
   refine jN Z_24 (Ht rfl) (Ht rfl) (i:=0) rfl (by first | omega | (simp; omega)) rfl (eX (cK ?_))
   have hfin:=hS.fin hle
   refine gJ (i:=0) (tt:=5) rfl rfl (jZ (eB _ _ _) (by simp [hlen]) (Nat.le_refl _)) ?_
   refine cY (rm rfl (ro rfl (cZ K_240 (mM _ (iV hS.dig (by simp only [BB]; omega)) (by simp [hlen]; omega)) ⟨(Ht rfl),trivial⟩) ?_))
   refine ra rfl (eX (fW rfl (fX (eU rfl) ?_)))
   exact (bS (by rw [hfin,bL,bL]; exact hpq))
theorem Ap {m n:Nat} (hm:(dg m).length ≤ 17592186044416) (hnm:n ≤ m):bA Tryz.prog 242 [aD m,aD n] (aD (m - n)):=by
 have hle:=fR hnm
 refine bA.intro Tryz.func242 rfl Tryz.ntmps242 rfl (fun cx=>(ts (ro rfl (cQ cV) (eX (ts (rm rfl (ro rfl (dG U_27 (Ht rfl) aA) (rn rfl (eI (T:=bE 0) (i:=Tryz.t24) V_27 iO rfl rfl (Ht rfl) rfl (fun _=>rfl) trivial (by show 4 * _ ≤ _; omega) zo) fun B11=>(ra rfl (eX (ts (ro rfl (cQ (cJ 0)) (eX (cK (ts (ro rfl (cQ (cJ 0)) (eX (eG ?_))))))))))))))))))
 refine iT (fun (k : Nat) (out : List Nat) (c : Nat) => vZ (dg m) (dg n) out k c) (fun (k : Nat) (out : List Nat) (c : Nat) => (dg m).length - k) (fun (k : Nat) (out : List Nat) (c : Nat) => [(0, aD m), (1, aD n), (5, Is (.slice (some ⟨B11, 0, none⟩) (dg m).length (dg m).length)), (6, NT .u64 c), (7, NT .i64 k)]) (fun (k : Nat) (out : List Nat) (c : Nat) => [box B11 24 (out.map bE)]) 0 (List.replicate (dg m).length 0) 0 (vZ.start _ _)
  (zS rfl) (aU (aC (jM _)) aY) (fun k out c hS=>?_)
 refine cK (ts (rm rfl (rm rfl (ro rfl (dG U_27 (Ht rfl) aA) (ro rfl (gX (Ht rfl) (Ht rfl)) (eX (dQ (Ht rfl) (fun hb=>?_) (fun hb=>?_))))))))
 ·simp at hb
  have hlen:=hS.len; have hcl:=hS.cle; have hxk:=aM (bB m) k; have hyk:=aM (bB n) k
  simp only [BB] at hxk hyk
  refine cU (cK (eG (ts (rm rfl (rm rfl (ro rfl (dZ U_27 Z_24 (Ht rfl) (Ht rfl) rfl (dY (aF zo))) (ro rfl (dJ A_24 Z_24 (Ht rfl)) (ro rfl (gZ U_24 U_274 (Ht rfl) z7) (rm rfl (ro rfl (kK rfl (Ht rfl) (Ht rfl) (by show _ ≤ 18446744073709551616; first | omega | (simp only [kA]; omega))) (ra rfl (eX (cK (iJ (fun (s:Nat)=>s = (((dg m).getD k 0 + 18446744073709551616 - c) % 18446744073709551616 + 18446744073709551616 - (dg n).getD k 0) % 18446744073709551616) (fun (s:Nat)=>[(0,aD m),(1,aD n),(5,Is (.slice (some ⟨B11,0,none⟩) (dg m).length (dg m).length)),(7,NT .i64 k),(8,NT .u64 s)]) (fun (s:Nat)=>[box B11 24 (out.map bE)]) ?_ (fun s hs=>?_)))))))))))))))
  ·refine ts (rm rfl (rm rfl (ro rfl (dG U_27 (Ht rfl) aA) (ro rfl (gX (Ht rfl) (Ht rfl)) (eX (dQ (Ht rfl) (fun hk2 => ?_) (fun hk2 => ?_)))))))
   ·simp at hk2
    refine cY (rm rfl (rm rfl (rm rfl (ro rfl (dZ U_27 Z_24 (Ht rfl) (Ht rfl) rfl (dY (aF zo))) (ro rfl (dJ A_24 Z_24 (Ht rfl)) (ro rfl (gZ U_24 U_274 (Ht rfl) z7) (ro rfl (kK rfl (Ht rfl) (Ht rfl) (by show _ ≤ 18446744073709551616; first | omega | (simp only [kA]; omega))) (ra rfl (eX (aN _ rfl (zS rfl) (bP.refl _)))))))))))
   ·simp at hk2
    have hq0:(dg n).getD k 0 = 0:=by simp [List.getD,List.getElem?_eq_none hk2]
    refine cU (aN (((dg m).getD k 0 + 18446744073709551616 - c) % 18446744073709551616) zo (zS rfl) (bP.refl _))
  ·refine ts (rm rfl (rm rfl (rm rfl (ro rfl (eL rfl U_274 U_24 (Ht rfl)) (ro rfl (fY U_27 Z_24 (Ht rfl) (Ht rfl) rfl zo (by rw [Nat.mul_one, Nat.zero_add])) ?_)))))
   refine jN Z_24 (Ht rfl) (Ht rfl) (i:=0) rfl (by first | omega | (simp; omega)) rfl (eX (cY (rm rfl (ro rfl (dD (Ht rfl) (cJ 63) (by decide)) (ra rfl (eX (bD (cY (rm rfl (ro rfl (dV (Ht rfl) (cJ 1) z6) (ra rfl (eX ?_))))))))))))
   refine fU (k + 1, out.set k (s % 4294967296), s / 9223372036854775808) (by
     show vZ _ _ (out.set k (s % 4294967296)) (k + 1) (s / 9223372036854775808)
     have h1:=hS.next (bB m) (bB n) hb
     rw [← show s % 4294967296 = ((dg m).getD k 0 + 8589934592 - (dg n).getD k 0 - c) % 4294967296 by omega,← show s / 9223372036854775808 = (if (dg m).getD k 0 < (dg n).getD k 0 + c then 1 else 0) by (split <;> omega)] at h1
     exact h1) (by dsimp only; omega) (zS rfl) (aU (aC (eB _ _ _)) aY)
 ·simp at hb
  have hkl:k = (dg m).length:=Nat.le_antisymm hS.kle hb
  subst hkl
  have hlen:=hS.len
  have hfin:=hS.fin (bB m) hle (by rw [bL,bL]; exact hnm)
  rw [bL,bL] at hfin
  refine gV rfl (gJ (i:=0) (tt:=5) rfl rfl (jZ rfl hlen.symm (Nat.le_refl _)) (ts (rm rfl (ro rfl (cZ K_240 (mM _ hS.dig zo) ⟨(Ht rfl),trivial⟩) (ra rfl (eX (fW rfl (fX (eU rfl) ?_))))))))
  exact (bS hfin)
theorem rB {m n:Nat} (hm:(dg m).length ≤ 17592186044416) (hn:(dg n).length ≤ 17592186044416):bA Tryz.prog 187 [aD m,aD n] (aD (m * n)):=by
 refine bA.intro Tryz.func187 rfl Tryz.ntmps187 rfl (fun cx=>(ts (ro rfl (cQ cV) (eX (ts (rm rfl (ro rfl (dG U_27 (Ht rfl) aA) (rm rfl (ro rfl (dG U_27 (Ht rfl) aA) (ro rfl (dV (Ht rfl) (Ht rfl) z6) (rn rfl (eI (T:=bE 0) (i:=Tryz.t24) V_27 iO rfl rfl (Ht rfl) rfl (fun _=>rfl) trivial (by show 4 * _ ≤ _; omega) zo) fun B15=>(ra rfl (eX (cK (ts (ro rfl (cQ (cJ 0)) (eX (eG ?_))))))))))))))))))
 refine fN (fun (i : Nat) (out : List Nat) => xI (dg m) (dg n) out i) (fun (i : Nat) (out : List Nat) => (dg m).length - i) (fun (i : Nat) (out : List Nat) => [(0, aD m), (1, aD n), (5, Is (.slice (some ⟨B15, 0, none⟩) ((dg m).length + (dg n).length) ((dg m).length + (dg n).length))), (6, NT .i64 i)]) (fun (i : Nat) (out : List Nat) => [box B15 24 (out.map bE)]) 0 (List.replicate ((dg m).length + (dg n).length) 0) (xI.start _ _)
  (zS rfl) (aU (aC (jM _)) aY) (fun i out hS=>?_)
 refine cK (ts (rm rfl (rm rfl (ro rfl (dG U_27 (Ht rfl) aA) (ro rfl (gX (Ht rfl) (Ht rfl)) (eX (dQ (Ht rfl) (fun hb=>?_) (fun hb=>?_))))))))
 ·simp at hb
  have hxi:=aM (bB m) i
  simp only [BB] at hxi
  refine cU (cK (eG (ts (ro rfl (cQ (cJ 0)) (eX (cK (ts (ro rfl (cQ (cJ 0)) (eX (eG ?_))))))))))
  refine iT (fun (k : Nat) (out2 : List Nat) (c : Nat) => Do (dg m) (dg n) out2 i k c) (fun (k : Nat) (out2 : List Nat) (c : Nat) => (dg n).length - k) (fun (k : Nat) (out2 : List Nat) (c : Nat) => [(0, aD m), (1, aD n), (5, Is (.slice (some ⟨B15, 0, none⟩) ((dg m).length + (dg n).length) ((dg m).length + (dg n).length))), (6, NT .i64 i), (7, NT .u64 c), (8, NT .i64 k)]) (fun (k : Nat) (out2 : List Nat) (c : Nat) => [box B15 24 (out2.map bE)]) 0 out 0 (hS.row hb)
   (zS rfl) (bP.refl _) (fun k out2 c hR=>?_)
  refine cK (ts (rm rfl (rm rfl (ro rfl (dG U_27 (Ht rfl) aA) (ro rfl (gX (Ht rfl) (Ht rfl)) (eX (dQ (Ht rfl) (fun hk=>?_) (fun hk=>?_))))))))
  ·simp at hk
   have hlen:=hR.len; have hcl:=hR.clt; have hyk:=aM (bB n) k; have hok:=aM hR.dig (i + k)
   have hbnd:=rK (aM (bB m) i) (aM (bB n) k) (aM hR.dig (i + k)) hR.clt
   simp only [BB] at hcl hyk hok hbnd
   refine cU (cK (eG (cK (fZ (m:=20) (dp 0 rfl (cX (Ht rfl)) (dp 6 rfl (cX (Ht rfl)) (cI 28 0 29 1 rfl (dZ U_27 Z_24 (Ht rfl) (Ht rfl) rfl (dY (aF zo))) (dq 30 2 rfl (dJ A_24 Z_24 (Ht rfl)) (dq 31 3 rfl (gZ U_24 U_274 (Ht rfl) z7) (dp 1 rfl (cX (Ht rfl)) (dp 8 rfl (cX (Ht rfl)) (cI 33 5 34 6 rfl (dZ U_27 Z_24 (Ht rfl) (Ht rfl) rfl (dY (aF zo))) ?_))))))))))))
   refine dq 35 7 rfl (dJ A_24 Z_24 (Ht rfl)) (dq 36 8 rfl (gZ U_24 U_274 (Ht rfl) z7) (cI 32 4 37 9 rfl (jL (Ht rfl) (Ht rfl) z7) (dp 5 rfl (cX (Ht rfl)) (dp 6 rfl (cX (Ht rfl)) (dp 8 rfl (cX (Ht rfl)) (cI 40 12 41 13 rfl (dV (Ht rfl) (Ht rfl) z6) (cI 39 11 42 14 rfl (fY U_27 Z_24 (Ht rfl) (Ht rfl) rfl zo (by rw [Nat.mul_one,Nat.zero_add])) ?_)))))))
   refine dq 43 15 rfl (eY A_24 Z_24 (Ht rfl) (i:=0) rfl (dY (aF zo))) (dq 44 16 rfl (gZ U_24 U_274 (Ht rfl) z7) (cI 38 10 45 17 rfl (dV (Ht rfl) (Ht rfl) z7) (dp 7 rfl (cX (Ht rfl)) (fV aO rfl (by kernel_rfl) (zF (zF (zF (zF (zF (aV ?_))))))))))
   refine ro rfl (dV (Ht rfl) (Ht rfl) z7) (ra rfl (eX (ts (rm rfl (rm rfl (rm rfl (ro rfl (dV (Ht rfl) (Ht rfl) z6) (rm rfl (ro rfl (eL rfl U_274 U_24 (Ht rfl)) (ro rfl (fY U_27 Z_24 (Ht rfl) (Ht rfl) rfl zo (by rw [Nat.mul_one,Nat.zero_add])) ?_))))))))))
   refine jN Z_24 (Ht rfl) (Ht rfl) (i:=0) rfl (by first | omega | (simp; omega)) rfl (eX (cY (rm rfl (ro rfl (dD (Ht rfl) (cJ 32) (by decide)) (ra rfl (eX (bD (cY (rm rfl (ro rfl (dV (Ht rfl) (cJ 1) z6) (ra rfl (eX (fU (k + 1,_,_) (hR.next (bB m) (bB n) hk (Nat.add_comm _ _)) (by dsimp only; omega) (zS rfl) (aU (aC (eB _ _ _)) aY))))))))))))))
  ·simp at hk
   have hkl:k = (dg n).length:=Nat.le_antisymm hR.kle hk
   subst hkl
   have hlen:=hR.len; have hcl:=hR.clt
   simp only [BB] at hcl
   refine gV rfl (cY (rm rfl (rm rfl (rm rfl (ro rfl (dG U_27 (Ht rfl) aA) (ro rfl (dV (Ht rfl) (Ht rfl) z6) (rm rfl (ro rfl (gZ U_274 U_24 (Ht rfl) (by show _ < 4294967296; first | omega | (simp only [kA]; omega))) (ro rfl (fY U_27 Z_24 (Ht rfl) (Ht rfl) rfl zo (by rw [Nat.mul_one,Nat.zero_add])) ?_)))))))))
   refine jN Z_24 (Ht rfl) (Ht rfl) (i:=0) rfl (by first | omega | (simp; omega)) rfl (eX (bD (cY (rm rfl (ro rfl (dV (Ht rfl) (cJ 1) z6) (ra rfl (eX (fU (i + 1,_) (hR.fin) (by dsimp only; omega) (zS rfl) (aU (aC (eB _ _ _)) aY)))))))))
 ·simp at hb
  have hkl:i = (dg m).length:=Nat.le_antisymm hS.ile hb
  subst hkl
  have hlen:=hS.len
  have hfin:=hS.fin
  rw [bL,bL] at hfin
  refine gV rfl (gJ (i:=0) (tt:=5) rfl rfl (jZ rfl hlen.symm (Nat.le_refl _)) (ts (rm rfl (ro rfl (cZ K_240 (mM _ hS.dig zo) ⟨(Ht rfl),trivial⟩) (ra rfl (eX (fW rfl (fX (eU rfl) ?_))))))))
  exact (bS hfin)
theorem Ed {m y:Nat} (hm:(dg m).length ≤ 17592186044416) (hy:0 < y) (hyb:y < BB):bA Tryz.prog 279 [aD m,bE y] (eT [aD (m / y),bE (m % y)]):=by
 refine bA.intro Tryz.func279 rfl Tryz.ntmps279 rfl (fun cx=>?_)
 have hyb2:=hyb
 simp only [BB] at hyb2
 refine ts (ro rfl (cQ cV) (ro rfl (cQ (cJ 0)) (eX (ts (rm rfl (ro rfl (dG U_27 (Ht rfl) aA) (rn rfl (eI (T:=bE 0) (i:=Tryz.t24) V_27 iO rfl rfl (Ht rfl) rfl (fun _=>rfl) trivial (by show 4 * _ ≤ _; omega) zo) fun B12=>(ra rfl (eX (ts (ro rfl (cQ (cJ 0)) (eX (cK (ts (rm rfl (ro rfl (dG U_27 (Ht rfl) aA) (ro rfl (gT (Ht rfl) cV (vT zo)) (ra rfl (eX (eG ?_))))))))))))))))))))
 refine iT (fun (k : Nat) (out : List Nat) (r : Nat) => mY (dg m) y out k r) (fun (k : Nat) (out : List Nat) (r : Nat) => k) (fun (k : Nat) (out : List Nat) (r : Nat) => [(0, aD m), (1, bE y), (6, Is (.slice (some ⟨B12, 0, none⟩) (dg m).length (dg m).length)), (7, NT .u64 r), (8, aL .i64 ((k : Int) - 1))]) (fun (k : Nat) (out : List Nat) (r : Nat) => [box B12 24 (out.map bE)]) (dg m).length (List.replicate (dg m).length 0) 0 (mY.start _ hy)
  (zS rfl) (aU (aC (jM _)) aY) (fun k out r hS=>?_)
 refine cK (ts (rm rfl (ro rfl (jP (Ht rfl) cV) (eX (dQ (Ht rfl) (fun hb=>?_) (fun hb=>?_))))))
 ·simp at hb
  have hlen:=hS.len; have hkl:=hS.kle; have hrl:=hS.rlt; have hxk:=aM (bB m) (k - 1)
  have hz2:=Su (Nat.lt_trans hrl hyb) hxk; have hsh:=Gc (Nat.lt_trans hrl hyb); have hq:=Bk hrl hxk; have hor:=sH (a:=r) hxk; have hmod:=Nat.mod_lt (r * BB + (dg m).getD (k - 1) 0) hy
  have hxk2:=hxk
  simp only [BB] at hxk2
  refine cU (cK (eG (ts (rm rfl (ro rfl (lR (Ht rfl) (cJ 32) (by decide) hsh) (rm rfl (rm rfl (ro rfl (dZ U_27 Z_24 (Ht rfl) (Ht rfl) (show ((k:Int) - 1) = ((k - 1:Nat):Int) by omega) (dY (aF zo))) (ro rfl (dJ A_24 Z_24 (Ht rfl)) (ro rfl (gZ U_24 U_274 (Ht rfl) z7) (ro rfl (aE.nat (nF rfl (Ht rfl) (Ht rfl) z7 z7) hor) ?_)))))))))))
  refine ra rfl (eX (ts (rm rfl (rm rfl (rm rfl (rm rfl (ro rfl (gZ U_24 U_274 (Ht rfl) z7) (ro rfl (iI (Ht rfl) (Ht rfl) zo (by show _ < 18446744073709551616; exact hz2)) (ro rfl (gZ U_274 U_24 (Ht rfl) (by show _ < 4294967296; exact hq)) (ro rfl (fY U_27 Z_24 (Ht rfl) (Ht rfl) (show ((k:Int) - 1) = ((k - 1:Nat):Int) by omega) zo (by rw [Nat.mul_one,Nat.zero_add])) ?_))))))))))
  refine jN Z_24 (Ht rfl) (Ht rfl) (i:=0) rfl (by first | omega | (simp; omega)) rfl (eX (cY (rm rfl (rm rfl (ro rfl (gZ U_24 U_274 (Ht rfl) z7) (ro rfl (jW (Ht rfl) (Ht rfl) zo) (ra rfl (eX (bD (cY (rm rfl (ro rfl (gT (Ht rfl) cV (vT zo)) (ra rfl (eX (fU (k - 1,_,_) (hS.next (bB m) zo rfl) (by dsimp only; omega) (aQ rfl (aQ rfl (aQ rfl (aQ rfl (aZ rfl (aH zo) aX))))) (aU (aC (eB _ _ _)) aY))))))))))))))))
 ·simp at hb
  have hk0:k = 0:=by omega
  subst hk0
  have hlen:=hS.len; have hrl:=hS.rlt
  have hfin:=hS.fin
  rw [bL] at hfin
  refine gV rfl (gJ (i:=0) (tt:=6) rfl rfl (jZ rfl hlen.symm (Nat.le_refl _)) (ts (rm rfl (ro rfl (cZ K_240 (mM _ hS.dig zo) ⟨(Ht rfl),trivial⟩) (rm rfl (ro rfl (gZ U_274 U_24 (Ht rfl) (by show _ < 4294967296; first | omega | (simp only [kA]; omega))) (ra rfl (ra rfl (eX (bC rfl (fX (eU rfl) ?_) (fX (eU rfl) ?_)))))))))))
  ·exact (bS hfin.1)
  ·exact (kR hfin.2)
end
section
open Go Go.RowKit
theorem Um {m:Nat} (hm:(dg m).length ≤ 17592186044416) (h0:m ≠ 0):bA Tryz.prog 280 [aD m] (NT .i64 (32 * ((dg m).length - 1) + bl ((dg m).getD ((dg m).length - 1) 0))):=by
 have hl:(dg m).length ≠ 0:=fun e=>h0 (aI.1 e)
 have htl:=aM (bB m) ((dg m).length - 1)
 obtain ⟨v,hv⟩:∃ v,v = (dg m).getD ((dg m).length - 1) 0:=⟨_,rfl⟩
 rw [← hv] at htl ⊢
 simp only [BB] at htl
 have hb32:=lV (k:=32) htl
 refine bA.intro Tryz.func280 rfl Tryz.ntmps280 rfl (fun cx=>(ts (ro rfl (cQ (cJ 0)) (eX (cK (ts (rm rfl (ro rfl (dG U_27 (Ht rfl) aA) (ro rfl (bT (Ht rfl) (cJ 0)) (eX (jK (Ht rfl) (by simpa using hl) ?_)))))))))))
 refine cU (ts (ro rfl (cQ (cJ 0)) (eX (cK (ts (rm rfl (rm rfl (ro rfl (dG U_27 (Ht rfl) aA) (ro rfl (dW (Ht rfl) (cJ 1) zo z6) (ro rfl (dZ U_27 Z_24 (Ht rfl) (Ht rfl) rfl (dY (aF zo))) (ro rfl (dJ A_24 Z_24 (Ht rfl)) (ra rfl (eX (eG ?_))))))))))))))
 refine fN (fun (x : Nat) (q : Nat) => bl v = q + bl x ∧ x < 4294967296) (fun (x : Nat) (q : Nat) => x) (fun (x : Nat) (q : Nat) => [(0, aD m), (3, NT .i64 q), (4, bE x)]) (fun (x : Nat) (q : Nat) => []) v 0 ⟨(Nat.zero_add _).symm, htl⟩
  (aQ rfl (aQ rfl (aZ rfl (kR hv.symm) aX))) aY (fun x q ⟨hq,hx⟩=>?_)
 refine cK (ts (rm rfl (ro rfl (cH (Ht rfl) (cJ 0)) (eX (dQ (Ht rfl) (fun hb=>?_) (fun hb=>?_))))))
 ·simp at hb
  have hsh:=To (v:=x) zo
  refine cU (cK (eG (cY (rm rfl (ro rfl (dV (Ht rfl) (cJ 1) z6) (ra rfl (eX (bD (cY (rm rfl (ro rfl (dD (Ht rfl) (cJ 1) (by decide)) (ra rfl (eX (fU (x / 2 ^ 1,q + 1) ⟨by dsimp only; omega,by dsimp only; omega⟩ (by dsimp only; omega) (zS rfl) aY))))))))))))))
 ·simp at hb
  subst hb
  rw [Tp] at hq
  refine gV rfl (ts (rm rfl (ro rfl (dG U_27 (Ht rfl) aA) (ro rfl (dW (Ht rfl) (cJ 1) zo z6) (ro rfl (jL (cJ 32) (Ht rfl) z6) (rm rfl (ro rfl (dV (Ht rfl) (Ht rfl) z6) (ra rfl (eX (fW rfl (fX (eU rfl) ?_)))))))))))
  exact (kR zo)
theorem Pj {m k:Nat} (hm:(dg m).length ≤ 17592186044416) (hk:k ≤ 562949953421312):bA Tryz.prog 281 [aD m,NT .i64 k] (aD (m * 2 ^ k)):=by
 refine bA.intro Tryz.func281 rfl Tryz.ntmps281 rfl (fun cx=>(ts (ro rfl (cQ cV) (eX (cK (ts (rm rfl (ro rfl (dG U_27 (Ht rfl) aA) (ro rfl (bT (Ht rfl) (cJ 0)) (eX (dQ (Ht rfl) (fun hb=>?_) (fun hb=>?_))))))))))))
 ·simp [aI] at hb
  have h0:m * 2 ^ k = 0:=by simp_all [oE]
  refine ts (ro rfl (cQ cV) (eX (fW rfl (fX (eU rfl) ?_))))
  exact (fun v V h=>by rw [h0]; exact gS v V h)
 ·clear hb
  have hr:=Nat.mod_lt k (by decide:32 > 0)
  refine cU (ts (rm rfl (ro rfl (dG U_27 (Ht rfl) aA) (rm rfl (ro rfl (iI (Ht rfl) (cJ 32) zo z6) (ro rfl (dV (Ht rfl) (Ht rfl) z6) (ro rfl (dV (Ht rfl) (cJ 1) z6) (rn rfl (eI (T:=bE 0) (i:=Tryz.t24) V_27 iO rfl rfl (Ht rfl) rfl (fun _=>rfl) trivial (by show 4 * _ ≤ _; omega) zo) fun B17=>?_))))))))
  refine ra rfl (eX (cK (ts (ro rfl (cQ (cJ 0)) (eX (eG ?_))))))
  refine fN (fun (i : Nat) (out : List Nat) => xM (dg m) (k / 32) (k % 32) out i) (fun (i : Nat) (out : List Nat) => (dg m).length - i) (fun (i : Nat) (out : List Nat) => [(0, aD m), (1, NT .i64 k), (5, Is (.slice (some ⟨B17, 0, none⟩) ((dg m).length + k / 32 + 1) ((dg m).length + k / 32 + 1))), (6, NT .i64 i)]) (fun (i : Nat) (out : List Nat) => [box B17 24 (out.map bE)]) 0 (List.replicate ((dg m).length + k / 32 + 1) 0) (xM.start _ _ _)
   (zS rfl) (aU (aC (jM _)) aY) (fun i out hS=>?_)
  refine cK (ts (rm rfl (rm rfl (ro rfl (dG U_27 (Ht rfl) aA) (ro rfl (gX (Ht rfl) (Ht rfl)) (eX (dQ (Ht rfl) (fun hb=>?_) (fun hb=>?_))))))))
  ·simp at hb
   have hlen:=hS.len; have hxi:=aM (bB m) i; have hok:=aM hS.dig (i + k / 32)
   have hv:=Bj hxi hr
   have hd:(dg m).getD i 0 * 2 ^ (k % 32) / 2 ^ 32 < 4294967296:=Nat.div_lt_of_lt_mul hv
   simp only [BB] at hxi hok
   refine cU (cK (eG (ts (rm rfl (rm rfl (ro rfl (dZ U_27 Z_24 (Ht rfl) (Ht rfl) rfl (dY (aF zo))) (ro rfl (dJ A_24 Z_24 (Ht rfl)) (ro rfl (gZ U_24 U_274 (Ht rfl) z7) (rm rfl (ro rfl (jW (Ht rfl) (cJ 32) zo) (ro rfl (gZ U_3 U_275 (Ht rfl) z7) (ro rfl (lR (Ht rfl) (Ht rfl) (by show _ ≤ _; simp [IntKind.bits]; omega) (by show _ < 18446744073709551616; exact hv)) ?_))))))))))))
   refine ra rfl (eX (ts (rm rfl (rm rfl (rm rfl (ro rfl (iI (Ht rfl) (cJ 32) zo z6) (ro rfl (dV (Ht rfl) (Ht rfl) z6) (rm rfl (rm rfl (rm rfl (ro rfl (iI (Ht rfl) (cJ 32) zo z6) (ro rfl (dV (Ht rfl) (Ht rfl) z6) (ro rfl (fY U_27 Z_24 (Ht rfl) (Ht rfl) rfl zo (by rw [Nat.mul_one,Nat.zero_add])) ?_)))))))))))))
   refine ro rfl (eY A_24 Z_24 (Ht rfl) (i:=0) rfl (dY (aF zo))) (rm rfl (ro rfl (eL rfl U_274 U_24 (Ht rfl)) (ro rfl (nF rfl (Ht rfl) (Ht rfl) (by show _ < 4294967296; omega) (by show _ % 4294967296 < 4294967296; omega)) (ro rfl (fY U_27 Z_24 (Ht rfl) (Ht rfl) rfl zo (by rw [Nat.mul_one,Nat.zero_add])) ?_))))
   refine jN Z_24 (Ht rfl) (Ht rfl) (i:=0) rfl (by first | omega | (simp; omega)) rfl (eX (cY (rm rfl (rm rfl (rm rfl (ro rfl (iI (Ht rfl) (cJ 32) zo z6) (ro rfl (dV (Ht rfl) (Ht rfl) z6) (ro rfl (dV (Ht rfl) (cJ 1) z6) (rm rfl (ro rfl (dD (Ht rfl) (cJ 32) (by decide)) (ro rfl (gZ U_274 U_24 (Ht rfl) (by show _ < 4294967296; exact hd)) ?_)))))))))))
   refine ro rfl (fY U_27 Z_24 (Ht rfl) (Ht rfl) rfl zo (by rw [Nat.mul_one,Nat.zero_add])) ?_
   refine jN Z_24 (Ht rfl) (Ht rfl) (i:=0) rfl (by first | omega | (simp; omega)) rfl (eX (bD (cY (rm rfl (ro rfl (dV (Ht rfl) (cJ 1) z6) (ra rfl (eX (fU (i + 1,_) (hS.next (bB m) hr hb rfl rfl) (by dsimp only; omega) (zS rfl) (aU (aC (Fz _ _ _ _ _)) aY)))))))))
  ·simp at hb
   have hkl:i = (dg m).length:=Nat.le_antisymm hS.kle hb
   subst hkl
   have hlen:=hS.len
   have hfin:=hS.fin
   rw [bL,kU] at hfin
   refine gV rfl (gJ (i:=0) (tt:=5) rfl rfl (jZ rfl hlen.symm (Nat.le_refl _)) (ts (rm rfl (ro rfl (cZ K_240 (mM _ hS.dig zo) ⟨(Ht rfl),trivial⟩) (ra rfl (eX (fW rfl (fX (eU rfl) ?_))))))))
   exact (bS hfin)
theorem Zv {m k:Nat} (hm:(dg m).length ≤ 17592186044416) (hk:k ≤ 562949953421312):bA Tryz.prog 282 [aD m,NT .i64 k] (aD (m / 2 ^ k)):=by
 refine bA.intro Tryz.func282 rfl Tryz.ntmps282 rfl (fun cx=>?_)
 have hr:=Nat.mod_lt k (by decide:32 > 0)
 refine ts (ro rfl (cQ cV) (eX (cK (ts (rm rfl (ro rfl (iI (Ht rfl) (cJ 32) zo z6) (rm rfl (ro rfl (dG U_27 (Ht rfl) aA) (ro rfl (nS (Ht rfl) (Ht rfl)) (eX (dQ (Ht rfl) (fun hb=>?_) (fun hb=>?_))))))))))))
 ·simp at hb
  have h0:=Ge (bB m) hb (r:=k % 32)
  rw [bL,kU] at h0
  refine ts (ro rfl (cQ cV) (eX (fW rfl (fX (eU rfl) ?_))))
  exact (fun v V h=>bS h0.symm v V (gS v V h))
 ·simp at hb
  refine cU (ts (rm rfl (ro rfl (dG U_27 (Ht rfl) aA) (rm rfl (ro rfl (iI (Ht rfl) (cJ 32) zo z6) (ro rfl (dW (Ht rfl) (Ht rfl) zo z6) (rn rfl (eI (T:=bE 0) (i:=Tryz.t24) V_27 iO rfl rfl (Ht rfl) rfl (fun _=>rfl) trivial (by show 4 * _ ≤ _; omega) zo) fun B18=>(ra rfl (eX (cK (ts (ro rfl (cQ (cJ 0)) (eX (eG ?_))))))))))))))
  refine fN (fun (i : Nat) (out : List Nat) => xN (dg m) (k / 32) (k % 32) out i) (fun (i : Nat) (out : List Nat) => (dg m).length - i) (fun (i : Nat) (out : List Nat) => [(0, aD m), (1, NT .i64 k), (5, Is (.slice (some ⟨B18, 0, none⟩) ((dg m).length - k / 32) ((dg m).length - k / 32))), (6, NT .i64 i)]) (fun (i : Nat) (out : List Nat) => [box B18 24 (out.map bE)]) 0 (List.replicate ((dg m).length - k / 32) 0) (xN.start _ _ _)
   (zS rfl) (aU (aC (jM _)) aY) (fun i out hS=>?_)
  refine cK (ts (rm rfl (rm rfl (ro rfl (iY U_27 (Ht rfl)) (ro rfl (gX (Ht rfl) (Ht rfl)) (eX (dQ (Ht rfl) (fun hb=>?_) (fun hb=>?_))))))))
  ·simp at hb
   have hlen:=hS.len; have hx0:=aM (bB m) (i + k / 32); have hx1:=aM (bB m) (i + k / 32 + 1)
   have hio:i < out.length:=by omega
   simp only [BB] at hx0 hx1
   refine cU (cK (eG (ts (rm rfl (rm rfl (rm rfl (ro rfl (iI (Ht rfl) (cJ 32) zo z6) (ro rfl (dV (Ht rfl) (Ht rfl) z6) (ro rfl (dZ U_27 Z_24 (Ht rfl) (Ht rfl) rfl (dY (aF zo))) (ro rfl (dJ A_24 Z_24 (Ht rfl)) (ro rfl (gZ U_24 U_274 (Ht rfl) z7) ?_)))))))))))
   refine ra rfl (eX (cK (iJ (fun (v:Nat)=>v = (dg m).getD (i + k / 32) 0 + BB * (dg m).getD (i + k / 32 + 1) 0) (fun (v:Nat)=>[(0,aD m),(1,NT .i64 k),(5,Is (.slice (some ⟨B18,0,none⟩) ((dg m).length - k / 32) ((dg m).length - k / 32))),(6,NT .i64 i),(7,NT .u64 v)]) (fun (v:Nat)=>[box B18 24 (out.map bE)]) ?_ (fun v hv=>?_))))
   ·refine ts (rm rfl (rm rfl (ro rfl (iI (Ht rfl) (cJ 32) zo z6) (ro rfl (dV (Ht rfl) (Ht rfl) z6) (ro rfl (dV (Ht rfl) (cJ 1) z6) (rm rfl (ro rfl (dG U_27 (Ht rfl) aA) (ro rfl (gX (Ht rfl) (Ht rfl)) (eX (dQ (Ht rfl) (fun hk2 => ?_) (fun hk2 => ?_)))))))))))
    ·simp at hk2
     refine cY (rm rfl (rm rfl (rm rfl (rm rfl (ro rfl (iI (Ht rfl) (cJ 32) zo z6) (ro rfl (dV (Ht rfl) (Ht rfl) z6) (ro rfl (dV (Ht rfl) (cJ 1) z6) (ro rfl (dZ U_27 Z_24 (Ht rfl) (Ht rfl) rfl (dY (aF zo))) (ro rfl (dJ A_24 Z_24 (Ht rfl)) (ro rfl (gZ U_24 U_274 (Ht rfl) z7) ?_))))))))))
     refine ro rfl (lR (Ht rfl) (cJ 32) (by decide) (by show _ < 18446744073709551616; omega)) (ro rfl (aE.nat (nF rfl (Ht rfl) (Ht rfl) z7 z7) (Ld hx0)) (ra rfl (eX (aN ((dg m).getD (i + k / 32) 0 + BB * (dg m).getD (i + k / 32 + 1) 0) rfl (zS rfl) (bP.refl _)))))
    ·simp at hk2
     refine cU (aN ((dg m).getD (i + k / 32) 0) (by simp [List.getD,List.getElem?_eq_none hk2]) (zS rfl) (bP.refl _))
   ·refine cY (rm rfl (rm rfl (rm rfl (rm rfl (ro rfl (jW (Ht rfl) (cJ 32) zo) (ro rfl (gZ U_3 U_275 (Ht rfl) z7) (ro rfl (dD (Ht rfl) (Ht rfl) (by show _ ≤ 64; omega)) (ro rfl (eL rfl U_274 U_24 (Ht rfl)) (ro rfl (fY U_27 Z_24 (Ht rfl) (Ht rfl) rfl zo (by rw [Nat.mul_one, Nat.zero_add])) ?_)))))))))
    refine jN Z_24 (Ht rfl) (Ht rfl) (i:=0) rfl (by first | omega | (simp; omega)) rfl (eX (bD (cY (rm rfl (ro rfl (dV (Ht rfl) (cJ 1) z6) (ra rfl (eX (fU (i + 1,_) (hS.next (bB m) hr hio (by rw [hv]; rfl)) (by dsimp only; omega) (zS rfl) (aU (aC (eB _ _ _)) aY)))))))))
  ·simp at hb
   have hlen:=hS.len
   have hkl:i = out.length:=Nat.le_antisymm hS.kle zo
   subst hkl
   have hfin:=hS.fin (bB m) zo
   rw [bL,kU] at hfin
   refine gV rfl (gJ (i:=0) (tt:=5) rfl rfl (jZ rfl hlen.symm (Nat.le_refl _)) (ts (rm rfl (ro rfl (cZ K_240 (mM _ hS.dig zo) ⟨(Ht rfl),trivial⟩) (ra rfl (eX (fW rfl (fX (eU rfl) ?_))))))))
   exact (bS hfin)
theorem tX {m n:Nat} (hm:(dg m).length ≤ 17592186044415) (hn1:(dg n).length ≤ 17592186044416) (hn:n ≠ 0):bA Tryz.prog 238 [aD m,aD n] (eT [aD (m / n),aD (m % n)]):=by
 refine bA.intro Tryz.func238 rfl Tryz.ntmps238 rfl (fun cx=>(ts (ro rfl (cQ cV) (ro rfl (cQ cV) (eX (cK (ts (rm rfl (rm rfl (ro rfl (cZ Tryz.call225 (oB zo zo) ⟨(Ht rfl),(Ht rfl),trivial⟩) (ro rfl (lH (Ht rfl) cV) (eX (dQ (Ht rfl) (fun hb=>?_) (fun hb=>?_))))))))))))))
 ·simp only [decide_eq_true_eq] at hb
  have hlt:m < n:=Ch hb
  refine ts (rm rfl (ro rfl (cQ cV) (ra rfl (eX (bC rfl (fX (eU rfl) ?_) (fX (eU rfl) ?_))))))
  ·exact (fun v V h=>bS (Nat.div_eq_of_lt hlt).symm v V (gS v V h))
  ·exact (bS (Nat.mod_eq_of_lt hlt).symm)
 ·simp only [decide_eq_false_iff_not] at hb
  have hle:n ≤ m:=Cg zo
  clear hb
  refine cU (cK (ts (rm rfl (ro rfl (dG U_27 (Ht rfl) aA) (ro rfl (bT (Ht rfl) (cJ 1)) (eX (dQ (Ht rfl) (fun h1=>?_) (fun h1=>?_))))))))
  ·simp at h1
   have hy0:=Pu h1
   have hyb:=aM (bB n) 0
   have hmod:=Nat.mod_lt m (show (dg n).getD 0 0 > 0 by omega)
   have hyb2:=hyb
   simp only [BB] at hyb
   refine ts (rm rfl (rm rfl (ro rfl (dZ U_27 Z_24 (Ht rfl) (cJ 0) rfl (dY (aF zo))) (ro rfl (dJ A_24 Z_24 (Ht rfl)) (ro rfl (cZ Tryz.call279 (Ed zo zo hyb2) ⟨(Ht rfl),(Ht rfl),trivial⟩) (rm rfl (ro rfl (dK (Ht rfl) rfl) (ro rfl (dK (Ht rfl) rfl) (ra rfl (ra rfl (eX (ts (rm rfl (rm rfl (ro rfl (gZ U_24 U_274 (Ht rfl) z7) (ro rfl (cZ Tryz.call235 (xY zo) ⟨(Ht rfl),trivial⟩) ?_))))))))))))))))
   refine ra rfl (ra rfl (eX (bC rfl (fX (eU rfl) ?_) (fX (eU rfl) ?_))))
   ·exact (bS (by rw [hy0]))
   ·exact (bS (by rw [hy0]))
  ·simp at h1
   have hl0:(dg n).length ≠ 0:=fun e=>hn (aI.1 e)
   have hyb:=aM (bB n) ((dg n).length - 1)
   obtain ⟨s,hs⟩:∃ s,s = 32 - bl ((dg n).getD ((dg n).length - 1) 0):=⟨_,rfl⟩
   obtain ⟨hs1,hvl,hvb⟩:=Et hn hs
   obtain ⟨hc1,hc2,hc3,hc4⟩:=Em (m:=m) hs1
   have hbl:=lV (k:=32) hyb
   simp only [BB] at hyb
   have hp2:0 < 2 ^ s:=Nat.pow_pos (by decide)
   have hX0:(dg (m * 2 ^ s)).length ≠ 0:=fun e=>(Nat.ne_of_gt (Nat.mul_pos (show 0 < m by omega) hp2)) (aI.1 e)
   have hmono:=fR hle
   refine cU (ts (rm rfl (ro rfl (dG U_27 (Ht rfl) aA) (ro rfl (jL (cJ 32) (Ht rfl) z6) (rm rfl (ro rfl (cZ Tryz.call280 (Um zo hn) ⟨(Ht rfl),trivial⟩) (ro rfl (aE.nat (dW (Ht rfl) (Ht rfl) zo z6) (show 32 * (dg n).length - (32 * ((dg n).length - 1) + bl ((dg n).getD ((dg n).length - 1) 0)) = s by omega)) (ra rfl (eX (ts (rm rfl (rm rfl (ro rfl (cZ Tryz.call281 (Pj zo zo) ⟨(Ht rfl),(Ht rfl),trivial⟩) ?_)))))))))))))
   refine ra rfl (eX (ts (rm rfl (ro rfl (dG U_27 (Ht rfl) aA) (ro rfl (dV (Ht rfl) (cJ 1) z6) (rn rfl (eI (T:=bE 0) (i:=Tryz.t24) V_27 iO rfl rfl (Ht rfl) rfl (fun _=>rfl) trivial (by show 4 * _ ≤ _; omega) zo) fun B57=>(ra rfl (eX (ts (rm rfl (rm rfl (rm rfl (ro rfl (cZ Tryz.call281 (Pj zo zo) ⟨(Ht rfl),(Ht rfl),trivial⟩) (Iz U_27 Z_24 (Ht rfl) (Ht rfl) (Qs hX0) Yp (i:=0) rfl (by simp) (by simp; omega) (En _ _) rfl rfl ?_))))))))))))))
   refine eX (cK ?_)
   obtain ⟨vs,hvs⟩:∃ vs,vs = dg (n * 2 ^ s):=⟨_,rfl⟩
   rw [← hvs] at hvl hvb
   have hv:jI vs:=hvs ▸ bB _
   have hvv:val vs = n * 2 ^ s:=by rw [hvs,bL]
   have hV0:0 < val vs:=by rw [hvv]; exact Nat.mul_pos zo hp2
   have hnr:=Ks hv zo hvb
   have hv1:=hnr.v1lt; have hv2:=hnr.v2lt; have hbig:=hnr.big
   simp only [BB] at hv1 hv2 hbig
   refine xQ (E':=[(8,_),(9,_),(10,_)]) (aQ rfl (aZ rfl (a01 hvs.symm) (zS rfl))) (cY (rm rfl (ro rfl (dG U_27 (Ht rfl) aA) (ra rfl (eX (ts (rm rfl (ro rfl (iY U_27 (Ht rfl)) (rm rfl (ro rfl (dW (Ht rfl) (Ht rfl) zo z6) (rn rfl (eI (T:=bE 0) (i:=Tryz.t24) V_27 iO rfl rfl (Ht rfl) rfl (fun _=>rfl) trivial (by show 4 * _ ≤ _; omega) zo) fun B69=>(ra rfl (eX (cK ?_))))))))))))))
   refine ts (rm rfl (ro rfl (iY U_27 (Ht rfl)) (ro rfl (gT (Ht rfl) cV (vT zo)) (ra rfl (eX (eG ?_))))))
   refine iT (fun (k : Nat) (us : List Nat) (qs : List Nat) => mI (m * 2 ^ s) vs us qs k ∧ us.length = (dg m).length + 1) (fun (k : Nat) (us : List Nat) (qs : List Nat) => k) (fun (k : Nat) (us : List Nat) (qs : List Nat) => [(8, NT .i64 s), (9, tN vs), (10, Is (.slice (some ⟨B57, 0, none⟩) ((dg m).length + 1) ((dg m).length + 1))), (11, NT .i64 vs.length), (12, Is (.slice (some ⟨B69, 0, none⟩) ((dg m).length + 1 - vs.length) ((dg m).length + 1 - vs.length))), (13, aL .i64 ((k : Int) - 1))]) (fun (k : Nat) (us : List Nat) (qs : List Nat) => [box B57 24 (us.map bE), box B69 24 (qs.map bE)]) ((dg m).length + 1 - vs.length) (yC m s) (List.replicate ((dg m).length + 1 - vs.length) 0) ⟨mI.start hv zo hvb hs1 (by have := iC (bB m); rwa [bL] at this) hc3 hc2 hc4 zo, hc2⟩
    (aQ rfl (aQ rfl (aQ rfl (aQ rfl (aQ rfl (aZ rfl (aH zo) aX)))))) (aU (fun _ _ _ h=>h) (aU (aC (jM _)) aY)) (fun k us qs ⟨hS,hus⟩=>?_)
   refine cK (ts (rm rfl (ro rfl (jP (Ht rfl) cV) (eX (dQ (Ht rfl) (fun hk=>?_) (fun hk=>?_))))))
   ·simp at hk
    obtain ⟨j,rfl⟩:∃ j,k = j + 1:=⟨k - 1,by omega⟩
    have htp:=hS.top hv zo (Nat.succ_pos j) rfl
    have hkq:=hS.kle; have hlq:=hS.lenq
    rw [Nat.add_sub_cancel] at htp
    have hu0:=aM hS.dig (j + vs.length); have hu1:=aM hS.dig (j + vs.length - 1); have hu2:=aM hS.dig (j + vs.length - 2)
    have ht64:=Su hu0 hu1; have hsh:=Gc hu0
    obtain ⟨top,htop⟩:∃ top,top = us.getD (j + vs.length) 0 * BB + us.getD (j + vs.length - 1) 0:=⟨_,rfl⟩
    have hor:=(sH (a:=us.getD (j + vs.length) 0) hu1).trans htop.symm
    rw [← htop] at htp ht64
    have hu2b:=hu2
    simp only [BB] at hu0 hu1 hu2
    refine xQ (E':=[(8,_),(9,_),(10,_),(11,_),(12,_),(13,_),(73,_),(74,_)]) (aQ rfl (aQ rfl (aQ rfl (aQ rfl (aQ rfl (aZ rfl (aH (show ((j + 1:Nat):Int) - 1 = (j:Int) by omega)) (zS rfl))))))) (cU (cK (eG (cK (fZ (m:=16) (dp 10 rfl (cX (Ht rfl)) (dp 13 rfl (cX (Ht rfl)) (dp 11 rfl (cX (Ht rfl)) (cI 78 1 79 2 rfl (dV (Ht rfl) (Ht rfl) z6) (cI 77 0 80 3 rfl (fY U_27 Z_24 (Ht rfl) (Ht rfl) rfl zo (by rw [Nat.mul_one,Nat.zero_add])) ?_))))))))))
    refine dq 81 4 rfl (eY A_24 Z_24 (Ht rfl) (i:=0) rfl (dY (aF zo))) (dq 82 5 rfl (gZ U_24 U_274 (Ht rfl) z7) (dq 83 6 rfl (lR (Ht rfl) (cJ 32) (by decide) hsh) (dp 10 rfl (cX (Ht rfl)) (dp 13 rfl (cX (Ht rfl)) (dp 11 rfl (cX (Ht rfl)) (cI 86 9 87 10 rfl (dV (Ht rfl) (Ht rfl) z6) (dq 88 11 rfl (dW (Ht rfl) (cJ 1) zo z6) ?_)))))))
    refine cI 85 8 89 12 rfl (fY U_27 Z_24 (Ht rfl) (Ht rfl) rfl zo (by rw [Nat.mul_one,Nat.zero_add])) ?_
    refine dq 90 13 rfl (eY A_24 Z_24 (Ht rfl) (i:=0) rfl (dY (aF zo))) (dq 91 14 rfl (gZ U_24 U_274 (Ht rfl) z7) (fV aO rfl (by kernel_rfl) (zF (zF (zF (zF (aV (ro rfl (aE.nat (nF rfl (Ht rfl) (Ht rfl) z7 z7) hor) ?_))))))))
    refine ra rfl (eX (ts (rm rfl (rm rfl (rm rfl (ro rfl (dW (Ht rfl) (cJ 1) zo z6) (ro rfl (dZ U_27 Z_24 (Ht rfl) (Ht rfl) rfl (dY (aF zo))) (ro rfl (dJ A_24 Z_24 (Ht rfl)) (ro rfl (gZ U_24 U_274 (Ht rfl) z7) (ro rfl (iI (Ht rfl) (Ht rfl) zo (by show _ < 18446744073709551616; exact ht64)) (ra rfl (eX ?_))))))))))))
    refine ts (rm rfl (rm rfl (rm rfl (ro rfl (dW (Ht rfl) (cJ 1) zo z6) (ro rfl (dZ U_27 Z_24 (Ht rfl) (Ht rfl) rfl (dY (aF zo))) (ro rfl (dJ A_24 Z_24 (Ht rfl)) (ro rfl (gZ U_24 U_274 (Ht rfl) z7) (ro rfl (jW (Ht rfl) (Ht rfl) zo) (ra rfl (eX (cK (iJ (fun (g:Nat)=>Gr (val (us.drop j)) (val vs) g) (fun (g:Nat)=>[(8,NT .i64 s),(9,tN vs),(10,Is (.slice (some ⟨B57,0,none⟩) ((dg m).length + 1) ((dg m).length + 1))),(11,NT .i64 vs.length),(12,Is (.slice (some ⟨B69,0,none⟩) ((dg m).length + 1 - vs.length) ((dg m).length + 1 - vs.length))),(13,NT .i64 j),(15,NT .u64 g)]) (fun (g:Nat)=>[box B57 24 (us.map bE),box B69 24 (qs.map bE)]) ?_ (fun g hg=>?_)))))))))))))
    ·refine eG ?_
     refine fN (fun (g : Nat) (r : Nat) => kM (val (us.drop j)) (val vs) (vs.getD (vs.length - 1) 0) top g r ∧ r < 4294967296) (fun (g : Nat) (r : Nat) => g) (fun (g : Nat) (r : Nat) => [(8, NT .i64 s), (9, tN vs), (10, Is (.slice (some ⟨B57, 0, none⟩) ((dg m).length + 1) ((dg m).length + 1))), (11, NT .i64 vs.length), (12, Is (.slice (some ⟨B69, 0, none⟩) ((dg m).length + 1 - vs.length) ((dg m).length + 1 - vs.length))), (13, NT .i64 j), (15, NT .u64 g), (16, NT .u64 r)]) (fun (g : Nat) (r : Nat) => [box B57 24 (us.map bE), box B69 24 (qs.map bE)]) (top / vs.getD (vs.length - 1) 0) (top % vs.getD (vs.length - 1) 0) ⟨kM.start hnr htp, Nat.lt_trans (Nat.mod_lt _ zo) hv1⟩
      (zS rfl) (bP.refl _) (fun g r ⟨hG,hr⟩=>?_)
     have hgl:=(hG.glt hnr htp).1
     have hrs:=Gc (a:=r) hr
     have horr:=sH (a:=r) hu2b
     simp only [BB] at hgl
     refine cK (cK (fZ (m:=22) (dp 15 rfl (cX (Ht rfl)) (dq 110 0 rfl (nS (Ht rfl) (cJ 4294967296)) (dq 111 1 rfl (cX (Ht rfl)) (C.D_step (Ei:=[(15,_),(112,_)]) rfl rfl (bV (bK rfl rfl) (bV (bG 2 rfl rfl) bW)) (eK rfl rfl (Ht rfl) (fun h=>cX (Ht rfl))) (C.D_step (Ei:=[(9,_),(112,_)]) rfl rfl (bV (bK rfl rfl) (bV (bG 2 rfl rfl) bW)) (eK rfl rfl (Ht rfl) (fun h=>cX (Ht rfl))) (C.D_step (Ei:=[(11,_),(112,_)]) rfl rfl (bV (bK rfl rfl) (bV (bG 2 rfl rfl) bW)) (eK rfl rfl (Ht rfl) (fun h=>cX (Ht rfl))) ?_))))))))
     refine C.D_step (Ei:=[(115,_),(112,_)]) rfl rfl (bV (bG 5 rfl rfl) (bV (bG 2 rfl rfl) bW)) (eK rfl rfl (Ht rfl) (fun h=>dW (fJ rfl h) (cJ 2) (by first | omega | (simp at h; omega)) (by show _ < 9223372036854775808; first | omega | (simp at h; omega)))) (C.D_step (Ei:=[(114,_),(116,_),(112,_)]) rfl rfl (bV (bG 4 rfl rfl) (bV (bG 6 rfl rfl) (bV (bG 2 rfl rfl) bW))) (eK rfl rfl (Ht rfl) (fun h=>dZ U_27 Z_24 (fJ rfl h) (fJ rfl h) rfl (dY (aF (by first | omega | (simp at h; omega)))))) ?_)
     refine C.D_step (Ei:=[(117,_),(112,_)]) rfl rfl (bV (bG 7 rfl rfl) (bV (bG 2 rfl rfl) bW)) (eK rfl rfl (Ht rfl) (fun h=>dJ A_24 Z_24 (fJ rfl h))) (C.D_step (Ei:=[(118,_),(112,_)]) rfl rfl (bV (bG 8 rfl rfl) (bV (bG 2 rfl rfl) bW)) (eK rfl rfl (Ht rfl) (fun h=>gZ U_24 U_274 (fJ rfl h) (by show _ < 18446744073709551616; first | omega | (simp at h; omega)))) (C.D_step (Ei:=[(113,_),(119,_),(112,_)]) rfl rfl (bV (bG 3 rfl rfl) (bV (bG 9 rfl rfl) (bV (bG 2 rfl rfl) bW))) (eK rfl rfl (Ht rfl) (fun h=>jL (fJ rfl h) (fJ rfl h) (by show _ < 18446744073709551616; simp at h; exact Yl h hv2))) ?_))
     refine C.D_step (Ei:=[(16,_),(112,_)]) rfl rfl (bV (bK rfl rfl) (bV (bG 2 rfl rfl) bW)) (eK rfl rfl (Ht rfl) (fun h=>cX (Ht rfl))) (C.D_step (Ei:=[(121,_),(112,_)]) rfl rfl (bV (bG 11 rfl rfl) (bV (bG 2 rfl rfl) bW)) (eK rfl rfl (Ht rfl) (fun h=>lR (fJ rfl h) (cJ 32) (by decide) hrs)) (C.D_step (Ei:=[(10,_),(112,_)]) rfl rfl (bV (bK rfl rfl) (bV (bG 2 rfl rfl) bW)) (eK rfl rfl (Ht rfl) (fun h=>cX (Ht rfl))) (C.D_step (Ei:=[(13,_),(112,_)]) rfl rfl (bV (bK rfl rfl) (bV (bG 2 rfl rfl) bW)) (eK rfl rfl (Ht rfl) (fun h=>cX (Ht rfl))) ?_)))
     refine C.D_step (Ei:=[(11,_),(112,_)]) rfl rfl (bV (bK rfl rfl) (bV (bG 2 rfl rfl) bW)) (eK rfl rfl (Ht rfl) (fun h=>cX (Ht rfl))) (C.D_step (Ei:=[(124,_),(125,_),(112,_)]) rfl rfl (bV (bG 14 rfl rfl) (bV (bG 15 rfl rfl) (bV (bG 2 rfl rfl) bW))) (eK rfl rfl (Ht rfl) (fun h=>dV (fJ rfl h) (fJ rfl h) (by show _ < 9223372036854775808; first | omega | (simp at h; omega)))) (C.D_step (Ei:=[(126,_),(112,_)]) rfl rfl (bV (bG 16 rfl rfl) (bV (bG 2 rfl rfl) bW)) (eK rfl rfl (Ht rfl) (fun h=>dW (fJ rfl h) (cJ 2) (by first | omega | (simp at h; omega)) (by show _ < 9223372036854775808; first | omega | (simp at h; omega)))) ?_))
     refine C.D_step (Ei:=[(123,_),(127,_),(112,_)]) rfl rfl (bV (bG 13 rfl rfl) (bV (bG 17 rfl rfl) (bV (bG 2 rfl rfl) bW))) (eK rfl rfl (Ht rfl) (fun h=>fY U_27 Z_24 (fJ rfl h) (fJ rfl h) rfl (by first | omega | (simp at h; omega)) (by rw [Nat.mul_one,Nat.zero_add]))) ?_
     refine C.D_step (Ei:=[(128,_),(112,_)]) rfl rfl (bV (bG 18 rfl rfl) (bV (bG 2 rfl rfl) bW)) (eK rfl rfl (Ht rfl) (fun h=>eY A_24 Z_24 (fJ rfl h) (i:=0) rfl (dY (aF zo)))) (C.D_step (Ei:=[(129,_),(112,_)]) rfl rfl (bV (bG 19 rfl rfl) (bV (bG 2 rfl rfl) bW)) (eK rfl rfl (Ht rfl) (fun h=>gZ U_24 U_274 (fJ rfl h) (by show _ < 18446744073709551616; first | omega | (simp at h; omega)))) (C.D_step (Ei:=[(122,_),(130,_),(112,_)]) rfl rfl (bV (bG 12 rfl rfl) (bV (bG 20 rfl rfl) (bV (bG 2 rfl rfl) bW))) (eK rfl rfl (Ht rfl) (fun h=>aE.nat (nF rfl (fJ rfl h) (fJ rfl h) (by show _ < 18446744073709551616; first | omega | (simp at h; omega)) (by show _ < 18446744073709551616; first | omega | (simp at h; omega))) horr)) ?_))
     refine fV aO rfl (by kernel_rfl) (zF (zF (zF (zF (zF (aJ (aJ (aV (fQ rfl rfl (eK rfl rfl (Ht rfl) (fun h=>cH (fJ rfl h) (fJ rfl h))) (ro rfl (iR (Ht rfl) (fun h=>(fJ rfl h))) (eX (dQ (Ht rfl) (fun hc=>?_) (fun hc=>?_)))))))))))))
     ·have hn2 := hG.next hnr htp (by simpa [BB] using hc)
      have hg1:=hn2.2
      refine cU (eG (ts (rm rfl (ro rfl (dW (Ht rfl) (cJ 1) zo z7) (ra rfl (eX (ts (rm rfl (rm rfl (rm rfl (ro rfl (dW (Ht rfl) (cJ 1) zo z6) (ro rfl (dZ U_27 Z_24 (Ht rfl) (Ht rfl) rfl (dY (aF zo))) (ro rfl (dJ A_24 Z_24 (Ht rfl)) (ro rfl (gZ U_24 U_274 (Ht rfl) z7) ?_))))))))))))))
      refine ro rfl (dV (Ht rfl) (Ht rfl) z7) (ra rfl (eX (ts (rm rfl (ro rfl (nS (Ht rfl) (cJ 4294967296)) (eX (dQ (Ht rfl) (fun hr2=>?_) (fun hr2=>?_))))))))
      ·simp at hr2
       refine gV rfl (aN (g - 1) (hn2.1.stop hnr htp hr2) (zS rfl) (bP.refl _))
      ·simp at hr2
       refine cU (bD (fU (g - 1,_) ⟨hn2.1,hr2⟩ (by dsimp only; omega) (zS rfl) (bP.refl _)))
     ·simp at hc
      refine gV rfl (aN g (hG.done hnr htp hc.1 hc.2) (zS rfl) (bP.refl _))
    ·have hglt := hg.lt
     have hglt2:=hg.lt
     simp only [BB] at hglt
     have hjl:j + vs.length < us.length:=by omega
     refine ts (ro rfl (cQ (cJ 0)) (eX (ts (ro rfl (cQ (cJ 0)) (eX (cK (ts (ro rfl (cQ (cJ 0)) (eX (eG ?_))))))))))
     refine sO (fun (i : Nat) (out : List Nat) (c : Nat) (b : Nat) => pR us vs g j out i c b) (fun (i : Nat) (out : List Nat) (c : Nat) (b : Nat) => vs.length - i) (fun (i : Nat) (out : List Nat) (c : Nat) (b : Nat) => [(8, NT .i64 s), (9, tN vs), (10, Is (.slice (some ⟨B57, 0, none⟩) ((dg m).length + 1) ((dg m).length + 1))), (11, NT .i64 vs.length), (12, Is (.slice (some ⟨B69, 0, none⟩) ((dg m).length + 1 - vs.length) ((dg m).length + 1 - vs.length))), (13, NT .i64 j), (15, NT .u64 g), (17, NT .u64 b), (18, NT .u64 c), (19, NT .i64 i)]) (fun (i : Nat) (out : List Nat) (c : Nat) (b : Nat) => [box B57 24 (out.map bE), box B69 24 (qs.map bE)]) 0 us 0 0 (pR.start hS.dig vs g j)
      (zS rfl) (bP.refl _) (fun i out c b hT=>?_)
     refine cK (ts (rm rfl (rm rfl (ro rfl (gX (Ht rfl) (Ht rfl)) (eX (dQ (Ht rfl) (fun hi=>?_) (fun hi=>?_)))))))
     ·simp at hi
      have hlen:=hT.len; have hcl:=hT.clt; have hbl:=hT.ble; have hvi:=aM hv i; have hok:=aM hT.dig (i + j)
      have hp:=Im hglt2 hvi hT.clt
      simp only [BB] at hp hcl hvi hok
      obtain ⟨p,hp1⟩:∃ p,p = g * vs.getD i 0 + c:=⟨_,rfl⟩
      obtain ⟨x,hx1⟩:∃ x,x = ((out.getD (i + j) 0 + 18446744073709551616 - p % 4294967296) % 18446744073709551616 + 18446744073709551616 - b) % 18446744073709551616:=⟨_,rfl⟩
      refine cU (cK (eG (ts (rm rfl (rm rfl (rm rfl (ro rfl (dZ U_27 Z_24 (Ht rfl) (Ht rfl) rfl (dY (aF zo))) (ro rfl (dJ A_24 Z_24 (Ht rfl)) (ro rfl (gZ U_24 U_274 (Ht rfl) z7) (ro rfl (jL (Ht rfl) (Ht rfl) z7) (rm rfl (ro rfl (aE.nat (dV (Ht rfl) (Ht rfl) z7) hp1.symm) ?_))))))))))))
      refine ra rfl (eX (ts (rm rfl (ro rfl (dD (Ht rfl) (cJ 32) (by decide)) (ra rfl (eX (ts (rm rfl (rm rfl (rm rfl (ro rfl (dV (Ht rfl) (Ht rfl) z6) (ro rfl (fY U_27 Z_24 (Ht rfl) (Ht rfl) rfl zo (by rw [Nat.mul_one,Nat.zero_add])) ?_))))))))))))
      refine ro rfl (eY A_24 Z_24 (Ht rfl) (i:=0) rfl (dY (aF zo))) (ro rfl (gZ U_24 U_274 (Ht rfl) z7) (rm rfl (ro rfl (aE.nat (rM rfl (Ht rfl) (cJ 4294967295) z7 z7) (a0X p)) (ro rfl (kK rfl (Ht rfl) (Ht rfl) (by show _ ≤ 18446744073709551616; first | omega | (simp only [kA]; omega))) ?_))))
      refine rm rfl (ro rfl (aE.nat (kK rfl (Ht rfl) (Ht rfl) (by show _ ≤ 18446744073709551616; first | omega | (simp only [kA]; omega))) hx1.symm) (ra rfl (eX (ts (rm rfl (rm rfl (rm rfl (ro rfl (dV (Ht rfl) (Ht rfl) z6) (rm rfl (ro rfl (eL rfl U_274 U_24 (Ht rfl)) (ro rfl (fY U_27 Z_24 (Ht rfl) (Ht rfl) rfl zo (by rw [Nat.mul_one,Nat.zero_add])) ?_)))))))))))
      refine jN Z_24 (Ht rfl) (Ht rfl) (i:=0) rfl (by first | omega | (simp; omega)) rfl (eX (cY (rm rfl (ro rfl (dD (Ht rfl) (cJ 63) (by decide)) (ra rfl (eX (bD (cY (rm rfl (ro rfl (dV (Ht rfl) (cJ 1) z6) (ra rfl (eX (fU (i + 1,_,_,_) (hT.next hS.dig hv hglt2 hi hjl hp1 (zG hok hbl hx1) rfl) (by dsimp only; omega) (zS rfl) (aU (aC (eB _ _ _)) (aU (fun _ _ _ h=>h) aY)))))))))))))))
     ·simp at hi
      have hkl:i = vs.length:=Nat.le_antisymm hT.ile hi
      subst hkl
      have hlen:=hT.len; have hcl:=hT.clt; have hbl:=hT.ble; have hok:=aM hT.dig (j + vs.length)
      obtain ⟨x,hx1⟩:∃ x,x = ((out.getD (j + vs.length) 0 + 18446744073709551616 - c) % 18446744073709551616 + 18446744073709551616 - b) % 18446744073709551616:=⟨_,rfl⟩
      have htd:=zH hok hcl hbl hx1
      have hTk:=hT.fin hjl htd rfl
      have hx2:=htd.2
      simp only [BB] at hcl hok
      refine gV rfl (ts (rm rfl (rm rfl (rm rfl (ro rfl (dV (Ht rfl) (Ht rfl) z6) (ro rfl (fY U_27 Z_24 (Ht rfl) (Ht rfl) rfl zo (by rw [Nat.mul_one,Nat.zero_add])) ?_))))))
      refine ro rfl (eY A_24 Z_24 (Ht rfl) (i:=0) rfl (dY (aF zo))) (ro rfl (gZ U_24 U_274 (Ht rfl) z7) (rm rfl (ro rfl (kK rfl (Ht rfl) (Ht rfl) (by show _ ≤ 18446744073709551616; first | omega | (simp only [kA]; omega))) (rm rfl (ro rfl (aE.nat (kK rfl (Ht rfl) (Ht rfl) (by show _ ≤ 18446744073709551616; first | omega | (simp only [kA]; omega))) hx1.symm) (ra rfl (eX (ts (rm rfl (rm rfl (rm rfl (ro rfl (dV (Ht rfl) (Ht rfl) z6) ?_))))))))))))
      refine rm rfl (ro rfl (eL rfl U_274 U_24 (Ht rfl)) (ro rfl (fY U_27 Z_24 (Ht rfl) (Ht rfl) rfl zo (by rw [Nat.mul_one,Nat.zero_add])) ?_))
      refine jN Z_24 (Ht rfl) (Ht rfl) (i:=0) rfl (by first | omega | (simp; omega)) rfl (eX (cK (nK (fun (us2:List Nat) (g2:Nat)=>mI (m * 2 ^ s) vs us2 (qs.set j g2) j ∧ g2 < 4294967296 ∧ us2.length = (dg m).length + 1) (fun (us2:List Nat) (g2:Nat)=>[(8,NT .i64 s),(9,tN vs),(10,Is (.slice (some ⟨B57,0,none⟩) ((dg m).length + 1) ((dg m).length + 1))),(11,NT .i64 vs.length),(12,Is (.slice (some ⟨B69,0,none⟩) ((dg m).length + 1 - vs.length) ((dg m).length + 1 - vs.length))),(13,NT .i64 j),(15,NT .u64 g2)]) (fun (us2:List Nat) (g2:Nat)=>[box B57 24 (us2.map bE),box B69 24 (qs.map bE)]) ?_ (fun us2 g2 ⟨hD,hg2,hus2⟩=>?_))))
      ·refine ts (rm rfl (ro rfl (dD (Ht rfl) (cJ 63) (by decide)) (ro rfl (bT (Ht rfl) (cJ 1)) (eX (dQ (Ht rfl) (fun hbb => ?_) (fun hbb => ?_))))))
       ·simp only [decide_eq_true_eq] at hbb
        have hdec:(!decide (x / 2 ^ 63 = 0)) = true:=by rw [hbb]; rfl
        rw [hdec] at hTk
        obtain ⟨o1,ho1⟩:∃ o1,o1 = out.set (j + vs.length) (x % BB):=⟨_,rfl⟩
        rw [← ho1] at hTk
        have hg0:=hS.gpos hv rfl zo hTk
        have hol:=hTk.len
        refine ts (rm rfl (ro rfl (dW (Ht rfl) (cJ 1) zo z7) (ra rfl (eX (ts (ro rfl (cQ (cJ 0)) (eX (cK (ts (ro rfl (cQ (cJ 0)) (eX (eG ?_))))))))))))
        refine iT (fun (i : Nat) (out2 : List Nat) (c : Nat) => pP o1 vs j out2 i c) (fun (i : Nat) (out2 : List Nat) (c : Nat) => vs.length - i) (fun (i : Nat) (out2 : List Nat) (c : Nat) => [(8, NT .i64 s), (9, tN vs), (10, Is (.slice (some ⟨B57, 0, none⟩) ((dg m).length + 1) ((dg m).length + 1))), (11, NT .i64 vs.length), (12, Is (.slice (some ⟨B69, 0, none⟩) ((dg m).length + 1 - vs.length) ((dg m).length + 1 - vs.length))), (13, NT .i64 j), (15, NT .u64 (g - 1 : Nat)), (18, NT .u64 c), (23, NT .i64 i)]) (fun (i : Nat) (out2 : List Nat) (c : Nat) => [box B57 24 (out2.map bE), box B69 24 (qs.map bE)]) 0 o1 0 (pP.start hTk.dig vs j)
         (zS rfl) (aU (aC (by rw [ho1]; exact eB _ _ _)) (aU (fun _ _ _ h=>h) aY)) (fun i out2 c hB=>?_)
        refine cK (ts (rm rfl (rm rfl (ro rfl (gX (Ht rfl) (Ht rfl)) (eX (dQ (Ht rfl) (fun hi=>?_) (fun hi=>?_)))))))
        ·simp at hi
         have hlen:=hB.len; have hcl:=hB.cle; have hvi:=aM hv i; have hok:=aM hB.dig (i + j)
         simp only [BB] at hvi hok
         refine cU (cK (eG (cK (fZ (m:=14) (dp 10 rfl (cX (Ht rfl)) (dp 23 rfl (cX (Ht rfl)) (dp 13 rfl (cX (Ht rfl)) (cI 212 1 213 2 rfl (dV (Ht rfl) (Ht rfl) z6) (cI 211 0 214 3 rfl (fY U_27 Z_24 (Ht rfl) (Ht rfl) rfl zo (by rw [Nat.mul_one,Nat.zero_add])) ?_)))))))))
         refine dq 215 4 rfl (eY A_24 Z_24 (Ht rfl) (i:=0) rfl (dY (aF zo))) (dq 216 5 rfl (gZ U_24 U_274 (Ht rfl) z7) (dp 9 rfl (cX (Ht rfl)) (dp 23 rfl (cX (Ht rfl)) (cI 218 7 219 8 rfl (dZ U_27 Z_24 (Ht rfl) (Ht rfl) rfl (dY (aF zo))) (dq 220 9 rfl (dJ A_24 Z_24 (Ht rfl)) (dq 221 10 rfl (gZ U_24 U_274 (Ht rfl) z7) ?_))))))
         refine cI 217 6 222 11 rfl (dV (Ht rfl) (Ht rfl) z7) (dp 18 rfl (cX (Ht rfl)) (fV aO rfl (by kernel_rfl) (zF (zF (zF (aJ (aJ (aV (ro rfl (dV (Ht rfl) (Ht rfl) z7) (ra rfl (eX (ts (rm rfl (rm rfl (rm rfl (ro rfl (dV (Ht rfl) (Ht rfl) z6) ?_))))))))))))))))
         refine rm rfl (ro rfl (eL rfl U_274 U_24 (Ht rfl)) (ro rfl (fY U_27 Z_24 (Ht rfl) (Ht rfl) rfl zo (by rw [Nat.mul_one,Nat.zero_add])) ?_))
         refine jN Z_24 (Ht rfl) (Ht rfl) (i:=0) rfl (by first | omega | (simp; omega)) rfl (eX (cY (rm rfl (ro rfl (dD (Ht rfl) (cJ 32) (by decide)) (ra rfl (eX (bD (cY (rm rfl (ro rfl (dV (Ht rfl) (cJ 1) z6) (ra rfl (eX (fU (i + 1,_,_) (hB.next hv hi zo (Nat.add_comm _ _)) (by dsimp only; omega) (zS rfl) (aU (aC (eB _ _ _)) (aU (fun _ _ _ h=>h) aY)))))))))))))))
        ·simp at hi
         have hil:i = vs.length:=Nat.le_antisymm hB.ile hi
         subst hil
         have hlen:=hB.len; have hcl:=hB.cle; have hok:=aM hB.dig (j + vs.length)
         have hBk:=hB.fin zo rfl
         obtain ⟨_,hDn⟩:=hS.wrong hv hV0 (Nat.succ_pos j) rfl hg hTk hBk
         simp only [BB] at hok
         refine gV rfl (cY (rm rfl (rm rfl (rm rfl (ro rfl (dV (Ht rfl) (Ht rfl) z6) (rm rfl (rm rfl (rm rfl (ro rfl (dV (Ht rfl) (Ht rfl) z6) (ro rfl (fY U_27 Z_24 (Ht rfl) (Ht rfl) rfl zo (by rw [Nat.mul_one,Nat.zero_add])) ?_))))))))))
         refine ro rfl (eY A_24 Z_24 (Ht rfl) (i:=0) rfl (dY (aF zo))) (rm rfl (ro rfl (gZ U_274 U_24 (Ht rfl) (by show _ < 4294967296; first | omega | (simp only [kA]; omega))) (ro rfl (Ku rfl (Ht rfl) (Ht rfl)) (ro rfl (fY U_27 Z_24 (Ht rfl) (Ht rfl) rfl zo (by rw [Nat.mul_one,Nat.zero_add])) ?_))))
         refine jN Z_24 (Ht rfl) (Ht rfl) (i:=0) rfl (by first | omega | (simp; omega)) rfl (eX (aN (_,g - 1) ⟨hDn,by dsimp only; omega,by simp; omega⟩ (zS rfl) (aU (aC (eB _ _ _)) (aU (fun _ _ _ h=>h) aY))))
       ·simp only [decide_eq_false_iff_not] at hbb
        have hdec:(!decide (x / 2 ^ 63 = 0)) = false:=by rw [show x / 2 ^ 63 = 0 by omega]; rfl
        rw [hdec] at hTk
        have hol:=hTk.len
        refine cU (aN (_,g) ⟨hS.right hv hV0 (Nat.succ_pos j) rfl hg hTk,hglt,by dsimp only; omega⟩ (zS rfl) (aU (aC (eB _ _ _)) (aU (fun _ _ _ h=>h) aY)))
      ·refine cY (rm rfl (rm rfl (rm rfl (ro rfl (gZ U_274 U_24 (Ht rfl) (by show _ < 4294967296; first | omega | (simp only [kA]; omega))) (ro rfl (fY U_27 Z_24 (Ht rfl) (Ht rfl) rfl zo (by rw [Nat.mul_one, Nat.zero_add])) ?_)))))
       refine jN Z_24 (Ht rfl) (Ht rfl) (i:=1) rfl (by first | omega | (simp; omega)) rfl (eX (bD (cY (rm rfl (ro rfl (gT (Ht rfl) cV (vT zo)) (ra rfl (eX (fU (j,us2,_) ⟨hD,hus2⟩ (by dsimp only; omega) (zS rfl) (aU (fun _ _ _ h=>h) (aU (aC (eB _ _ _)) aY))))))))))
   ·simp at hk
    have hk0:k = 0:=by omega
    subst hk0
    have hfin:=hS.fin hV0
    have hlq:=hS.lenq
    rw [hvv] at hfin
    have hdiv:val qs = m / n:=by rw [hfin.1]; exact Nat.mul_div_mul_right _ _ hp2
    have hsm:val us < BB ^ vs.length:=by have h1:=hS.small; rw [List.drop_zero] at h1; exact Nat.lt_trans h1 (iC hv)
    have hmod : val (us.take vs.length) / 2 ^ s = m % n := by
     rw [mR hsm zo,hfin.2,Nat.mul_mod_mul_right,Nat.mul_div_cancel _ hp2]
    have hru : (dg (val (us.take vs.length))).length ≤ 17592186044416 := by
     refine Nat.le_trans (iU (k:=vs.length) ?_) zo
     rw [mR hsm zo]; exact hsm
    refine gV rfl (gJ (i:=1) (tt:=12) rfl rfl (jZ rfl zo (Nat.le_refl _)) (gJ (i:=0) (tt:=10) rfl rfl (jZ rfl zo (Nat.le_refl _)) (cK (fZ (m:=7) (dp 12 rfl (cX (Ht rfl)) (dq 254 0 rfl (cZ K_240 (mM _ hS.digq zo) ⟨(Ht rfl),trivial⟩) (dp 10 rfl (cX (Ht rfl)) (dp 11 rfl (cX (Ht rfl)) (cI 256 2 257 3 rfl (aE.imp (rP U_27 Z_24 (Ht rfl) (Ht rfl) (fun m e=>by cases e) zo (by simp; omega) rfl) (Kd _ _)) ?_)))))))))
    refine dq 258 4 rfl (cZ K_240 (mM _ (hS.dig.take' vs.length) (by simp; omega)) ⟨(Ht rfl),trivial⟩) ?_
    refine dp 8 rfl (cX (Ht rfl)) (fV aO rfl (by kernel_rfl) (zF (aJ (aJ (aJ (aV (ro rfl (cZ Tryz.call282 (Zv hru zo) ⟨(Ht rfl),(Ht rfl),trivial⟩) (ra rfl (ra rfl (eX (bC rfl (fX (eU rfl) ?_) (fX (eU rfl) ?_))))))))))))
    ·exact (bS hdiv)
    ·exact (bS hmod)
theorem Hk {m n:Nat} (hm:(dg m).length ≤ 17592186044415) (hn:(dg n).length ≤ 17592186044415):bA Tryz.prog 237 [aD m,aD n] (aD (Nat.gcd m n)):=by
 refine bA.intro Tryz.func237 rfl Tryz.ntmps237 rfl (fun cx=>(ts (ro rfl (cQ cV) (eX (cK (eG ?_))))))
 refine fN (fun (x : Nat) (y : Nat) => Nat.gcd x y = Nat.gcd m n ∧ (dg x).length ≤ 17592186044415 ∧ (dg y).length ≤ 17592186044415) (fun (x : Nat) (y : Nat) => y) (fun (x : Nat) (y : Nat) => [(0, aD x), (1, aD y)]) (fun (x : Nat) (y : Nat) => []) m n ⟨rfl, hm, hn⟩
  (zS rfl) aY (fun x y ⟨hg,hx,hy⟩=>?_)
 refine cK (ts (rm rfl (ro rfl (dG U_27 (Ht rfl) aA) (ro rfl (cH (Ht rfl) (cJ 0)) (eX (dQ (Ht rfl) (fun hb=>?_) (fun hb=>?_)))))))
 ·simp at hb
  have hy0:y ≠ 0:=fun e=>by rw [e,dC] at hb; simp at hb
  have hlt:=Nat.mod_lt x (Nat.pos_of_ne_zero hy0)
  refine cU (eG (ts (rm rfl (rm rfl (ro rfl (cZ K_238 (tX hx zo hy0) ⟨(Ht rfl),(Ht rfl),trivial⟩) (rm rfl (ro rfl (dK (Ht rfl) rfl) (ro rfl (dK (Ht rfl) rfl) (ra rfl (ra rfl (eX (cY (rm rfl (rm rfl (ra rfl (ra rfl (eX (bD (fU (y,x % y) ⟨by rw [← hg,Nat.gcd_comm x y,Nat.gcd_rec y x,Nat.gcd_comm],hy,Nat.le_trans (fR (Nat.le_of_lt hlt)) hy⟩ hlt (zS rfl) aY)))))))))))))))))))
 ·simp at hb
  have hy0:y = 0:=aI.1 (by simpa using hb)
  subst hy0
  rw [Nat.gcd_zero_right] at hg
  refine gV rfl (ts (rm rfl (ra rfl (eX (fW rfl (fX (eU rfl) ?_))))))
  exact (bS hg)
theorem Jx {m:Nat} (hm:(dg m).length ≤ 8796093022208):bA Tryz.prog 244 [aD m] (nY (rW m)):=by
 refine bA.intro Tryz.func244 rfl Tryz.ntmps244 rfl (fun cx=>(ts (ro rfl (cQ (aS.cS (l:=[]) rfl)) (eX (cK (ts (rm rfl (ro rfl (dG U_27 (Ht rfl) aA) (ro rfl (bT (Ht rfl) (cJ 0)) (eX (dQ (Ht rfl) (fun hb=>?_) (fun hb=>?_))))))))))))
 ·simp at hb
  have h0:m = 0:=aI.1 (by simpa using hb)
  subst h0
  refine ts (ro rfl (cQ (aS.cS (l:=[48]) rfl)) (eX (fW rfl (fX (eU rfl) ?_))))
  exact (iK rfl)
 ·simp at hb
  have h0:m ≠ 0:=fun e=>hb (by rw [e,dC])
  refine cU (ts (ro rfl (cQ cV) (eX (cK (eG (xP 5 1 ?_))))))
  refine iT (fun (x : Nat) (out : List Nat) (v : Value) => xH m out x ∧ x ≤ m) (fun (x : Nat) (out : List Nat) (v : Value) => x) (fun (x : Nat) (out : List Nat) (v : Value) => [(0, aD x), (3, Is v)]) (fun (x : Nat) (out : List Nat) (v : Value) => [bF 5 1 v (out.map vE)]) m [] (.slice none 0 0) ⟨xH.start m, Nat.le_refl m⟩
   (zS rfl) (bP.refl _) (fun x out v ⟨hO,hle⟩=>?_)
  refine cK (ts (rm rfl (ro rfl (dG U_27 (Ht rfl) aA) (ro rfl (cH (Ht rfl) (cJ 0)) (eX (dQ (Ht rfl) (fun hc=>?_) (fun hc=>?_)))))))
  ·simp at hc
   have hx0:x ≠ 0:=fun e=>by rw [e,dC] at hc; simp at hc
   have hxm:=fR hle
   refine cU (eG (ts (rm rfl (ro rfl (cZ Tryz.call279 (Ed zo (by decide) (by decide)) ⟨(Ht rfl),(cJ 1000000000),trivial⟩) (rm rfl (ro rfl (dK (Ht rfl) rfl) (ro rfl (dK (Ht rfl) rfl) (ra rfl (ra rfl (eX (cK (ts (ro rfl (cQ (cJ 0)) (eX (eG ?_)))))))))))))))
   refine sO (fun (r : Nat) (k : Nat) (out : List Nat) (v : Value) => vW m out (x / 1000000000) r k) (fun (r : Nat) (k : Nat) (out : List Nat) (v : Value) => 9 - k) (fun (r : Nat) (k : Nat) (out : List Nat) (v : Value) => [(3, Is v), (4, aD (x / 1000000000)), (5, bE r), (6, NT .i64 k)]) (fun (r : Nat) (k : Nat) (out : List Nat) (v : Value) => [bF 5 1 v (out.map vE)]) (x % 1000000000) 0 out v (hO.inner)
    (zS rfl) (bP.refl _) (fun r k out v hI=>?_)
   refine cK (ts (rm rfl (ro rfl (gX (Ht rfl) (cJ 9)) (rm rfl (fQ rfl rfl (gU rfl rfl (Ht rfl) (fun h=>cX (Ht rfl))) (fQ rfl rfl (gU rfl rfl (Ht rfl) (fun h=>cH (aS.wu rfl h) (cJ 0))) (fQ rfl rfl (gU rfl rfl (Ht rfl) (fun h=>cX (aS.wu rfl h))) (fQ rfl rfl (oO rfl rfl rfl (fun h h2=>cX (Ht rfl))) (fQ rfl rfl (oO rfl rfl rfl (fun h h2=>dG U_27 (aS.wu rfl ⟨h,h2⟩) aA)) (fQ rfl rfl (oO rfl rfl rfl (fun h h2=>cH (aS.wu rfl ⟨h,h2⟩) (cJ 0))) (fQ rfl rfl (gU rfl rfl (Ht rfl) (fun h=>iR (aS.wu rfl h) (fun h2=>(aS.wu rfl ⟨h,h2⟩)))) ?_)))))))))))
   refine ro rfl (cT (Ht rfl) (fun h=>(aS.wu rfl h))) (eX (dQ (Ht rfl) (fun hd=>?_) (fun hd=>?_)))
   ·simp at hd
    have hxr:0 < x / 1000000000 ∨ 0 < r:=hd.2.elim (fun h=>.inr h) (fun h=>.inl (Nat.pos_of_ne_zero (fun e=>by rw [e,dC] at h; simp at h)))
    have hln:=hI.len hxr
    have hr32:=hI.r32
    refine cU (cK (eG (ts (rm rfl (rm rfl (ro rfl (jW (Ht rfl) (cJ 10) zo) (ro rfl (dV (cJ 48) (Ht rfl) (by show _ < 4294967296; first | omega | (simp only [kA]; omega))) (ro rfl (gZ U_24 U_5 (Ht rfl) (by show _ < 256; first | omega | (simp only [kA]; omega))) (ro rfl (dH (xs:=[.tmp 37]) U_341 Z_5 Tryz.zeroValue5 (cW (Ht rfl) cG) rfl rfl rfl) (xK (inf:=Tryz.t5) xC Qj rfl rfl rfl (Ht rfl) (Ht rfl) (i:=0) rfl (by simp) (fun T hT=>by simp at hT; subst hT; exact El.one) (by show _ * 1 ≤ _; simp only [List.length_map,List.length_cons,List.length_nil]; omega) (by simp only [List.length_map,List.length_cons,List.length_nil]; omega) rfl (fun v2=>?_)))))))))))
    refine ra rfl (eX (cY (rm rfl (ro rfl (iI (Ht rfl) (cJ 10) zo (by show _ < 4294967296; first | omega | (simp only [kA]; omega))) (ra rfl (eX (bD (cY (rm rfl (ro rfl (dV (Ht rfl) (cJ 1) z6) (ra rfl (eX (fU (r / 10,k + 1,_,v2) (hI.next hd.1 hxr) (by dsimp only; omega) (zS rfl) (aU (bN (Sy _ _)) aY))))))))))))))
   ·simp at hd
    have hO2 := hI.fin (fun ⟨h1, h2⟩ => by
     have h3:=hd h1
     rcases h2 with h2 | h2
     ·have:=oE.1 h3.2; omega
     ·omega)
    refine gV rfl (cY (rm rfl (ra rfl (eX (bD (fU (x / 1000000000,_,_) ⟨hO2,Nat.le_trans (Nat.div_le_self _ _) hle⟩ (Nat.div_lt_self (Nat.pos_of_ne_zero hx0) (by decide)) (zS rfl) (bP.refl _)))))))
  ·simp at hc
   have hx0:x = 0:=aI.1 (by simpa using hc)
   subst hx0
   have hfin:=hO.fin
   have hdl:=nM m
   rw [hfin] at hdl
   refine gV rfl (cK (ts (rm rfl (ro rfl (rO U_341 (Ht rfl) (i:=0) rfl aA) (ro rfl (gT (Ht rfl) cV (vT zo)) (ro rfl (cQ (cJ 0)) (ra rfl (eX (eG ?_)))))))))
   refine fN (fun (k : Nat) (o : List Nat) => xL out o k) (fun (k : Nat) (o : List Nat) => out.length - k) (fun (k : Nat) (o : List Nat) => [(3, Is v), (7, NT .i64 k), (8, aL .i64 ((out.length : Int) - 1 - (k : Int)))]) (fun (k : Nat) (o : List Nat) => [bF 5 1 v (o.map vE)]) 0 out (xL.start out)
    (aQ rfl (aQ rfl (aZ rfl (aH zo) aX))) (bP.refl _) (fun k o hR=>?_)
   refine cK (ts (rm rfl (rm rfl (ro rfl (lH (Ht rfl) (Ht rfl)) (eX (dQ (Ht rfl) (fun hk=>?_) (fun hk=>?_)))))))
   ·simp only [decide_eq_true_eq] at hk
    have hk2:2 * k + 1 < out.length:=by omega
    obtain ⟨j,hj⟩:∃ j,j = out.length - 1 - k:=⟨_,rfl⟩
    have hlen:=hR.len
    refine xQ (E':=[(3,_),(7,_),(8,_),(46,_),(47,_),(48,_)]) (aQ rfl (aQ rfl (aZ rfl (aH (show (out.length:Int) - 1 - (k:Int) = (j:Int) by omega)) (zS rfl)))) (cU (cK (eG (W.D_start (m:=14) (fun b=>cond b ([bF 5 1 v ((o.map vE).set k (vE (o.getD j 0)))]) _) 13 (W.D_step (Ei:=[(3,_)]) rfl rfl (W.Srcs.cons (W.Src.pre rfl rfl) W.Srcs.nil) rfl (by kernel_rfl) (dX rfl (cX (Ht rfl))) (W.D_step (Ei:=[(7,_)]) rfl rfl (W.Srcs.cons (W.Src.pre rfl rfl) W.Srcs.nil) rfl (by kernel_rfl) (dX rfl (cX (Ht rfl))) ?_))))))
    refine W.D_pure (Ei:=[(3,_)]) rfl rfl (W.Srcs.cons (W.Src.pre rfl rfl) W.Srcs.nil) rfl (fun _=>dX rfl (cX (Ht rfl))) (W.D_pure (Ei:=[(8,_)]) rfl rfl (W.Srcs.cons (W.Src.pre rfl rfl) W.Srcs.nil) rfl (fun _=>dX rfl (cX (Ht rfl))) (W.D_step (Ei:=[(3,_)]) rfl rfl (W.Srcs.cons (W.Src.pre rfl rfl) W.Srcs.nil) rfl (by kernel_rfl) (dX rfl (cX (Ht rfl))) (W.D_step (Ei:=[(8,_)]) rfl rfl (W.Srcs.cons (W.Src.pre rfl rfl) W.Srcs.nil) rfl (by kernel_rfl) (dX rfl (cX (Ht rfl))) (W.D_step (Ei:=[(57,_),(58,_)]) rfl rfl (W.Srcs.cons (W.Src.op 4 rfl rfl) (W.Srcs.cons (W.Src.op 5 rfl rfl) W.Srcs.nil)) rfl (by kernel_rfl) (dX rfl (eR U_341 Z_5 (Ht rfl) (Ht rfl) rfl (i:=0) rfl (by first | omega | (simp; omega)) rfl)) ?_))))
    refine W.D_step (Ei:=[(59,_)]) rfl rfl (W.Srcs.cons (W.Src.op 6 rfl rfl) W.Srcs.nil) rfl (by kernel_rfl) (dX rfl (uV A_5 Z_5 (Ht rfl) (i:=0) rfl rfl (dY (aF zo)))) (W.D_step (Ei:=[(3,_)]) rfl rfl (W.Srcs.cons (W.Src.pre rfl rfl) W.Srcs.nil) rfl (by kernel_rfl) (dX rfl (cX (Ht rfl))) (W.D_step (Ei:=[(7,_)]) rfl rfl (W.Srcs.cons (W.Src.pre rfl rfl) W.Srcs.nil) rfl (by kernel_rfl) (dX rfl (cX (Ht rfl))) (W.D_step (Ei:=[(61,_),(62,_)]) rfl rfl (W.Srcs.cons (W.Src.op 8 rfl rfl) (W.Srcs.cons (W.Src.op 9 rfl rfl) W.Srcs.nil)) rfl (by kernel_rfl) (dX rfl (eR U_341 Z_5 (Ht rfl) (Ht rfl) rfl (i:=0) rfl (by first | omega | (simp; omega)) rfl)) ?_)))
    refine W.D_step (Ei:=[(63,_)]) rfl rfl (W.Srcs.cons (W.Src.op 10 rfl rfl) W.Srcs.nil) rfl (by kernel_rfl) (dX rfl (uV A_5 Z_5 (Ht rfl) (i:=0) rfl rfl (dY (aF zo)))) (W.D_step (Ei:=[(53,_),(54,_)]) rfl rfl (W.Srcs.cons (W.Src.op 0 rfl rfl) (W.Srcs.cons (W.Src.op 1 rfl rfl) W.Srcs.nil)) rfl (by kernel_rfl) (dX rfl (eR U_341 Z_5 (Ht rfl) (Ht rfl) rfl (i:=0) rfl (by first | omega | (simp; omega)) rfl)) (W.D_put (Ei:=[(65,_),(60,_)]) rfl rfl (W.Srcs.cons (W.Src.op 12 rfl rfl) (W.Srcs.cons (W.Src.op 7 rfl rfl) W.Srcs.nil)) rfl (Iy Z_5 (Ht rfl) (Ht rfl) El.one (i:=0) rfl rfl (by first | omega | (simp; omega))) ?_))
    refine W.D_done aO rfl (by kernel_rfl) rfl (W.F_val (W.F_val (W.F_val (W.F_val (W.F_val (W.F_val (W.F_val (W.F_val (W.F_val (W.F_val (W.F_val (W.F_val (W.F_val (W.F_put (W.F_nil (ro rfl (eR U_341 Z_5 (Ht rfl) (Ht rfl) rfl (i:=0) rfl (by first | omega | (simp; omega)) rfl) (mX Z_5 (Ht rfl) (Ht rfl) El.one (i:=0) rfl rfl (by first | omega | (simp; omega)) rfl (eX (bD (cY (rm rfl (ro rfl (dV (Ht rfl) (cJ 1) z6) (rm rfl (ro rfl (gT (Ht rfl) cV (vT zo)) ?_))))))))))))))))))))))))
    refine ra rfl (ra rfl (eX (fU (k + 1,_) (hR.next hk2 hj) (by dsimp only; omega) (aQ rfl (aQ rfl (aZ rfl (aH zo) aX))) (aU (bN (Lv _ _ _ _ _)) aY))))
   ·simp only [decide_eq_false_iff_not] at hk
    have hrev:=hR.fin zo
    subst hrev
    refine gV rfl (gJ (i:=0) (tt:=3) rfl rfl iN (ts (rm rfl (ro rfl (Fp xC Ys Yt (Ht rfl) (by rw [← hfin]; simpa using Kc h0) (fun b hb=>Ps (n:=m) b (by rw [rF h0,hfin]; exact hb))) ?_))))
    refine ra rfl (eX (fW rfl (fX (eU rfl) ?_)))
    exact (iK (by rw [rF h0,hfin]))
end
section
open Go Go.RowKit
theorem wD {n : Nat} {E : bM} {H : Hp} {d : Option Tmp} {t : TypeId} {pos : String} {af : Array Edge} {g : Option (Nat × Bool)}  :
  aE Tryz.prog n E H ⟨d,.build 32 #[],t,pos,af,g⟩ (dP [Is (.bool false),Is (.slice none 0 0),Is (.bool false),Is (.slice none 0 0),Is (.slice none 0 0)]) :=
 eO (parts := []) fun a V w hs => by
  refine ⟨.agg #[(.bool false),(.slice none 0 0),(.bool false),(.slice none 0 0),(.slice none 0 0)],?_,[(.bool false),(.slice none 0 0),(.bool false),(.slice none 0 0),(.slice none 0 0)],rfl,aW (⟨rfl,trivial⟩) (aW (⟨rfl,trivial⟩) (aW (⟨rfl,trivial⟩) (aW (⟨rfl,trivial⟩) (aW (⟨rfl,trivial⟩) (aG)))))⟩
  simp [Instr.build,Instr.fill,Sem.run_bind,Result.andThen,dF,O_32,U_32,Z_28,Z_30]
theorem Je {n : Nat} {E : bM} {H : Hp} {d : Option Tmp} {t : TypeId} {pos : String} {af : Array Edge} {g : Option (Nat × Bool)}  :
  aE Tryz.prog n E H ⟨d,.build 38 #[],t,pos,af,g⟩ (dP [Is (.bool false),Is (.slice none 0 0)]) :=
 eO (parts := []) fun a V w hs => by
  refine ⟨.agg #[(.bool false),(.slice none 0 0)],?_,[(.bool false),(.slice none 0 0)],rfl,aW (⟨rfl,trivial⟩) (aW (⟨rfl,trivial⟩) (aG))⟩
  simp [Instr.build,Instr.fill,Sem.run_bind,Result.andThen,dF,O_38,U_38,Z_4,Z_27]
theorem lE {n : Nat} {E : bM} {H : Hp} {d : Option Tmp} {t : TypeId} {pos : String} {af : Array Edge} {g : Option (Nat × Bool)} {x0 x1 : Operand} {T0 T1 : Ty} [s0 : cE T0 1 false] (h0 : aS E x0 T0) [s1 : cE T1 1 false] (h1 : aS E x1 T1) :
  aE Tryz.prog n E H ⟨d,.build 38 #[(0,x0),(1,x1)],t,pos,af,g⟩ (dP [T0,T1]) :=
 eO (parts := [(0, x0), (1, x1)]) fun a V w hs => by
  have p0:=h0 n V a hs
  generalize e0:a.eval x0 = v0 at p0
  have q0:=(s0.ok v0 V p0).2.2 rfl
  have p1:=h1 n V a hs
  generalize e1:a.eval x1 = v1 at p1
  have q1:=(s1.ok v1 V p1).2.2 rfl
  refine ⟨.agg #[v0,v1],?_,[v0,v1],rfl,aW (⟨p0,q0⟩) (aW (⟨p1,q1⟩) (aG))⟩
  simp [e0,e1,Instr.build,Instr.fill,Sem.run_bind,Result.andThen,dF,q0.cells,q1.cells,O_38,U_38,Z_4,Z_27]
theorem kY {n : Nat} {E : bM} {H : Hp} {d : Option Tmp} {t : TypeId} {pos : String} {af : Array Edge} {g : Option (Nat × Bool)} {x0 x1 x2 : Operand} {T0 T1 T2 T3 T4 : Ty} (h0 : aS E x0 (dP [T0, T1])) (h1 : aS E x1 (dP [T2, T3])) [s2 : cE T4 1 false] (h2 : aS E x2 T4) :
  aE Tryz.prog n E H ⟨d,.build 40 #[(0,x0),(1,x1),(2,x2)],t,pos,af,g⟩ (dP [T0,T1,T2,T3,T4]) :=
 eO (parts := [(0, x0), (1, x1), (2, x2)]) fun a V w hs => by
  obtain ⟨v0,e0,c0⟩:=h0 n V a hs
  obtain ⟨c0_0,c0_1,rfl⟩:∃ c0_0 c0_1,v0 = [c0_0,c0_1]:=Fc (by simpa using c0.length)
  obtain ⟨v1,e1,c1⟩:=h1 n V a hs
  obtain ⟨c1_0,c1_1,rfl⟩:∃ c1_0 c1_1,v1 = [c1_0,c1_1]:=Fc (by simpa using c1.length)
  have p2:=h2 n V a hs
  generalize e2:a.eval x2 = v2 at p2
  have q2:=(s2.ok v2 V p2).2.2 rfl
  refine ⟨.agg #[c0_0,c0_1,c1_0,c1_1,v2],?_,[c0_0,c0_1,c1_0,c1_1,v2],rfl,aW (c0.at (i:=0) rfl rfl) (aW (c0.at (i:=1) rfl rfl) (aW (c1.at (i:=0) rfl rfl) (aW (c1.at (i:=1) rfl rfl) (aW (⟨p2,q2⟩) (aG)))))⟩
  simp [e0,e1,e2,Instr.build,Instr.fill,Sem.run_bind,Result.andThen,dF,q2.cells,O_40,U_40,Z_27,Z_38]
theorem gW (a:Addr) (w:World):(Instr.fieldAt 38 (.pointer (some a)) 0).run Tryz.prog w = .ok (.pointer (some (a.add 0))) w:=by
 simp [Instr.fieldAt,Instr.sureAddr,fieldPlace,Sem.run_bind,Result.andThen,U_38,Z_4]
theorem dL (a:Addr) (w:World):(Instr.fieldAt 38 (.pointer (some a)) 1).run Tryz.prog w = .ok (.pointer (some (a.add 1))) w:=by
 simp [Instr.fieldAt,Instr.sureAddr,fieldPlace,Sem.run_bind,Result.andThen,U_38,Z_27]
theorem gH (a:Addr) (w:World):(Instr.fieldAt 40 (.pointer (some a)) 0).run Tryz.prog w = .ok (.pointer (some (a.add 0))) w:=by
 simp [Instr.fieldAt,Instr.sureAddr,fieldPlace,Sem.run_bind,Result.andThen,U_40,Z_38]
theorem gY (a:Addr) (w:World):(Instr.fieldAt 40 (.pointer (some a)) 1).run Tryz.prog w = .ok (.pointer (some (a.add 2))) w:=by
 simp [Instr.fieldAt,Instr.sureAddr,fieldPlace,Sem.run_bind,Result.andThen,U_40,Z_38]
theorem gI (a:Addr) (w:World):(Instr.fieldAt 40 (.pointer (some a)) 2).run Tryz.prog w = .ok (.pointer (some (a.add 4))) w:=by
 simp [Instr.fieldAt,Instr.sureAddr,fieldPlace,Sem.run_bind,Result.andThen,U_40,Z_27]
end
section
open Go Go.RowKit
theorem lF {b:Bool} {m:Nat}:bA Tryz.prog 239 [aB b,aD m] (cP (vQ b m)):=by
 refine bA.intro Tryz.func239 rfl Tryz.ntmps239 rfl (fun cx=>(ts (rn rfl (eW (Ts:=[Is (.bool false),Is (.slice none 0 0)]) O_38 rfl (fun V=>aW zd (aW zd (aG)))) fun B4=>(eX (ts (rm rfl (rm rfl (fQ rfl rfl (eK rfl rfl (Ht rfl) (fun h=>cX (Ht rfl))) (fQ rfl rfl (eK rfl rfl (Ht rfl) (fun h=>dG U_27 (fJ rfl h) aA)) (fQ rfl rfl (eK rfl rfl (Ht rfl) (fun h=>cH (fJ rfl h) (cJ 0))) (ro rfl (cT (Ht rfl) (fun h=>(fJ rfl h))) (rm rfl ?_))))))))))))
 refine ro rfl (lE (Ht rfl) (Ht rfl)) (gQ Z_38 (Ht rfl) (Ht rfl) rfl (i:=0) rfl (aK rfl) rfl rfl (eX (fW rfl (fX (fK A_38 Z_38 rfl (i:=0) rfl rfl) ?_))))
 exact Sc
theorem sR {n:Int} (h1:-9223372036854775808 ≤ n) (h2:n ≤ 9223372036854775807):bA Tryz.prog 179 [aL .i64 n] (cP n):=by
 refine bA.intro Tryz.func179 rfl Tryz.ntmps179 rfl (fun cx=>(ts (rn rfl (eW (Ts:=[Is (.bool false),Is (.slice none 0 0)]) O_38 rfl (fun V=>aW zd (aW zd (aG)))) fun B2=>(eX (cK (ts (rm rfl (ro rfl (lH (Ht rfl) cV) (eX (dQ (Ht rfl) (fun hb=>?_) (fun hb=>?_)))))))))))
 ·have hn : n < 0 := by simpa using hb
  refine ts (rm rfl (ro rfl (Da (Ht rfl) (r:=IntKind.i64.wrap (-n)) rfl) ?_))
  refine ro rfl (rN U_2 U_274 (Ht rfl) (r:=((n.natAbs:Nat):Int)) (by rw [IntKind.wrap_u64,IntKind.wrap_i64]; omega)) ?_
  refine ro rfl (cZ Tryz.call235 (xY zo) ⟨(Ht rfl),trivial⟩) (ro rfl (lE cV (Ht rfl)) (gQ Z_38 (Ht rfl) (Ht rfl) rfl (i:=0) rfl (aK rfl) rfl rfl (eX (fW rfl (fX (fK A_38 Z_38 rfl (i:=0) rfl rfl) ?_)))))
  exact (mJ (by rw [hb]; rfl))
 ·have hn : ¬ n < 0 := by simpa using hb
  refine cU (ts (rm rfl (ro rfl (rN U_2 U_274 (Ht rfl) (r:=((n.natAbs:Nat):Int)) (by rw [IntKind.wrap_u64]; omega)) ?_)))
  refine ro rfl (cZ Tryz.call235 (xY zo) ⟨(Ht rfl),trivial⟩) (ro rfl (lE cV (Ht rfl)) (gQ Z_38 (Ht rfl) (Ht rfl) rfl (i:=0) rfl (aK rfl) rfl rfl (eX (fW rfl (fX (fK A_38 Z_38 rfl (i:=0) rfl rfl) ?_)))))
  exact (mJ (by rw [hb]; rfl))
theorem mS {x:Int}:bA Tryz.prog 191 [cP x] (cP (-x)):=by
 refine bA.intro Tryz.func191 rfl Tryz.ntmps191 rfl (fun cx=>(ts (rn rfl (fG (Ht rfl)) fun B1=>(rn rfl (eW (Ts:=[Is (.bool false),Is (.slice none 0 0)]) O_38 rfl (fun V=>aW zd (aW zd (aG)))) fun B2=>(eX (ts (ro rfl (eZ gW (Ht rfl) rfl) (ro rfl (eY A_4 Z_4 (Ht rfl) (i:=0) rfl rfl) (ro rfl (fB (Ht rfl)) (ro rfl (eZ dL (Ht rfl) rfl) (ro rfl (eY A_27 Z_27 (Ht rfl) (i:=0) rfl rfl) (ro rfl (cZ K_239 lF ⟨(Ht rfl),(Ht rfl),trivial⟩) ?_))))))))))))
 refine gQ Z_38 (Ht rfl) (Ht rfl) rfl (i:=1) rfl (aK rfl) rfl rfl (eX (fW rfl (fX (fK A_38 Z_38 rfl (i:=1) rfl rfl) ?_)))
 exact (jS (Bh x))
theorem rA {x y:Int} (hx:(dg x.natAbs).length ≤ 17592186044416) (hy:(dg y.natAbs).length ≤ 17592186044416):bA Tryz.prog 190 [cP x,cP y] (cP (x + y)):=by
 refine bA.intro Tryz.func190 rfl Tryz.ntmps190 rfl (fun cx=>(ts (rn rfl (fG (Ht rfl)) fun B2=>(rn rfl (fG (Ht rfl)) fun B3=>(rn rfl (eW (Ts:=[Is (.bool false),Is (.slice none 0 0)]) O_38 rfl (fun V=>aW zd (aW zd (aG)))) fun B4=>(eX (cK (ts (ro rfl (eZ gW (Ht rfl) rfl) (ro rfl (eY A_4 Z_4 (Ht rfl) (i:=0) rfl rfl) (ro rfl (eZ gW (Ht rfl) rfl) (ro rfl (eY A_4 Z_4 (Ht rfl) (i:=1) rfl rfl) (ro rfl (Qz U_4 (Ht rfl) (Ht rfl)) ?_)))))))))))))
 refine eX (dQ (Ht rfl) (fun hb=>?_) (fun hb=>?_))
 ·have he : decide (x < 0) = decide (y < 0) := by simpa using hb
  refine cK (fZ (m:=7) (dp 2 rfl (eZ gW (Ht rfl) rfl) (dq 10 0 rfl (eY A_4 Z_4 (Ht rfl) (i:=0) rfl rfl) (dp 2 rfl (eZ dL (Ht rfl) rfl) (dq 12 2 rfl (eY A_27 Z_27 (Ht rfl) (i:=0) rfl rfl) (dp 3 rfl (eZ dL (Ht rfl) rfl) (dq 14 4 rfl (eY A_27 Z_27 (Ht rfl) (i:=1) rfl rfl) (cI 13 3 15 5 rfl (cZ Tryz.call241 (Mf zo zo) ⟨(Ht rfl),(Ht rfl),trivial⟩) (fV aO rfl (by kernel_rfl) (zF (aJ (aJ (aJ (aV ?_))))))))))))))
  refine ro rfl (cZ K_239 lF ⟨(Ht rfl),(Ht rfl),trivial⟩) (gQ Z_38 (Ht rfl) (Ht rfl) rfl (i:=2) rfl (aK rfl) rfl rfl (eX (fW rfl (fX (fK A_38 Z_38 rfl (i:=2) rfl rfl) ?_))))
  exact (jS (Ga he))
 ·have he : decide (x < 0) ≠ decide (y < 0) := by simpa using hb
  refine cU (cK (ts (ro rfl (eZ dL (Ht rfl) rfl) (ro rfl (eY A_27 Z_27 (Ht rfl) (i:=0) rfl rfl) (ro rfl (eZ dL (Ht rfl) rfl) (ro rfl (eY A_27 Z_27 (Ht rfl) (i:=1) rfl rfl) (ro rfl (cZ Tryz.call225 (oB zo zo) ⟨(Ht rfl),(Ht rfl),trivial⟩) (ro rfl (jP (Ht rfl) cV) (eX (dQ (Ht rfl) (fun hc=>?_) (fun hc=>?_)))))))))))
  ·have hle : y.natAbs ≤ x.natAbs := Cg (by simpa using hc)
   refine cK (fZ (m:=7) (dp 2 rfl (eZ gW (Ht rfl) rfl) (dq 24 0 rfl (eY A_4 Z_4 (Ht rfl) (i:=0) rfl rfl) (dp 2 rfl (eZ dL (Ht rfl) rfl) (dq 26 2 rfl (eY A_27 Z_27 (Ht rfl) (i:=0) rfl rfl) (dp 3 rfl (eZ dL (Ht rfl) rfl) (dq 28 4 rfl (eY A_27 Z_27 (Ht rfl) (i:=1) rfl rfl) (cI 27 3 29 5 rfl (cZ Tryz.call242 (Ap zo zo) ⟨(Ht rfl),(Ht rfl),trivial⟩) (fV aO rfl (by kernel_rfl) (zF (aJ (aJ (aJ (aV ?_))))))))))))))
   refine ro rfl (cZ K_239 lF ⟨(Ht rfl),(Ht rfl),trivial⟩) (gQ Z_38 (Ht rfl) (Ht rfl) rfl (i:=2) rfl (aK rfl) rfl rfl (eX (fW rfl (fX (fK A_38 Z_38 rfl (i:=2) rfl rfl) ?_))))
   exact (jS (tK he hle))
  ·have hle : x.natAbs ≤ y.natAbs := Nat.le_of_lt (Ch (by simpa using hc))
   refine cU (cK (fZ (m:=7) (dp 3 rfl (eZ gW (Ht rfl) rfl) (dq 32 0 rfl (eY A_4 Z_4 (Ht rfl) (i:=1) rfl rfl) (dp 3 rfl (eZ dL (Ht rfl) rfl) (dq 34 2 rfl (eY A_27 Z_27 (Ht rfl) (i:=1) rfl rfl) (dp 2 rfl (eZ dL (Ht rfl) rfl) (dq 36 4 rfl (eY A_27 Z_27 (Ht rfl) (i:=0) rfl rfl) (cI 35 3 37 5 rfl (cZ Tryz.call242 (Ap zo zo) ⟨(Ht rfl),(Ht rfl),trivial⟩) (fV aO rfl (by kernel_rfl) (zF (aJ (aJ (aJ (aV ?_)))))))))))))))
   refine ro rfl (cZ K_239 lF ⟨(Ht rfl),(Ht rfl),trivial⟩) (gQ Z_38 (Ht rfl) (Ht rfl) rfl (i:=2) rfl (aK rfl) rfl rfl (eX (fW rfl (fX (fK A_38 Z_38 rfl (i:=2) rfl rfl) ?_))))
   exact (jS (by rw [tK (Ne.symm he) hle,Int.add_comm]))
theorem Me {x y:Int} (hx:(dg x.natAbs).length ≤ 17592186044416) (hy:(dg y.natAbs).length ≤ 17592186044416):bA Tryz.prog 189 [cP x,cP y] (cP (x + -y)):=by
 have hny:=oU y
 refine bA.intro Tryz.func189 rfl Tryz.ntmps189 rfl (fun cx=>(ts (rn rfl (fG (Ht rfl)) fun B2=>(rn rfl (fG (Ht rfl)) fun B3=>(rn rfl (eW (Ts:=[Is (.bool false),Is (.slice none 0 0)]) O_38 rfl (fun V=>aW zd (aW zd (aG)))) fun B4=>(eX (cK (fZ (m:=3) (dp 2 rfl (eJ A_38 Z_38 (Ht rfl) (i:=0) rfl rfl rfl) (dp 3 rfl (eJ A_38 Z_38 (Ht rfl) (i:=1) rfl rfl rfl) (dq 6 1 rfl (cZ K_191 mS ⟨(Ht rfl),trivial⟩) (fV aO rfl (by kernel_rfl) (aJ (aJ (aJ (aV ?_))))))))))))))))
 refine ro rfl (cZ Tryz.call190 (rA zo zo) ⟨(Ht rfl),(Ht rfl),trivial⟩) (gQ Z_38 (Ht rfl) (Ht rfl) rfl (i:=2) rfl (aK rfl) rfl rfl (eX ?_))
 exact fW rfl (fK A_38 Z_38 rfl (i:=2) rfl rfl)
theorem jE {x y:Int} (hx:(dg x.natAbs).length ≤ 17592186044416) (hy:(dg y.natAbs).length ≤ 17592186044416):bA Tryz.prog 186 [cP x,cP y] (cP (x * y)):=by
 refine bA.intro Tryz.func186 rfl Tryz.ntmps186 rfl (fun cx=>(ts (rn rfl (fG (Ht rfl)) fun B2=>(rn rfl (fG (Ht rfl)) fun B3=>(rn rfl (eW (Ts:=[Is (.bool false),Is (.slice none 0 0)]) O_38 rfl (fun V=>aW zd (aW zd (aG)))) fun B4=>(eX (cK (fZ (m:=10) (dp 2 rfl (eZ gW (Ht rfl) rfl) (dq 5 0 rfl (eY A_4 Z_4 (Ht rfl) (i:=0) rfl rfl) (dp 3 rfl (eZ gW (Ht rfl) rfl) (dq 7 2 rfl (eY A_4 Z_4 (Ht rfl) (i:=1) rfl rfl) (cI 6 1 8 3 rfl (Cy U_4 (Ht rfl) (Ht rfl)) ?_)))))))))))))
 refine dp 2 rfl (eZ dL (Ht rfl) rfl) (dq 10 5 rfl (eY A_27 Z_27 (Ht rfl) (i:=0) rfl rfl) (dp 3 rfl (eZ dL (Ht rfl) rfl) (dq 12 7 rfl (eY A_27 Z_27 (Ht rfl) (i:=1) rfl rfl) (cI 11 6 13 8 rfl (cZ Tryz.call187 (rB zo zo) ⟨(Ht rfl),(Ht rfl),trivial⟩) (fV aO rfl (by kernel_rfl) (zF (zF (aJ (aJ (aV (ro rfl (cZ K_239 lF ⟨(Ht rfl),(Ht rfl),trivial⟩) (gQ Z_38 (Ht rfl) (Ht rfl) rfl (i:=2) rfl (aK rfl) rfl rfl ?_))))))))))))
 refine eX (fW rfl (fX (fK A_38 Z_38 rfl (i:=2) rfl rfl) ?_))
 exact (jS (Bi x y))
theorem Ao {x y:Int} (hx:(dg x.natAbs).length ≤ 17592186044416) (hy:(dg y.natAbs).length ≤ 17592186044416):bA Tryz.prog 224 [cP x,cP y] (aL .i64 (fO x y)):=by
 refine bA.intro Tryz.func224 rfl Tryz.ntmps224 rfl (fun cx=>(ts (rn rfl (fG (Ht rfl)) fun B2=>(rn rfl (fG (Ht rfl)) fun B3=>(ro rfl (cQ (cJ 0)) (eX (cK (ts (ro rfl (eZ gW (Ht rfl) rfl) (ro rfl (eY A_4 Z_4 (Ht rfl) (i:=0) rfl rfl) (ro rfl (eZ gW (Ht rfl) rfl) (ro rfl (eY A_4 Z_4 (Ht rfl) (i:=1) rfl rfl) (ro rfl (Cy U_4 (Ht rfl) (Ht rfl)) (eX (dQ (Ht rfl) (fun hb=>?_) (fun hb=>?_))))))))))))))))
 ·have he : decide (x < 0) ≠ decide (y < 0) := by simpa using hb
  refine cK (ts (ro rfl (eZ gW (Ht rfl) rfl) (ro rfl (eY A_4 Z_4 (Ht rfl) (i:=0) rfl rfl) (eX (dQ (Ht rfl) (fun hc=>?_) (fun hc=>?_))))))
  ·have hn : x < 0 := by simpa using hc
   have hm:¬ y < 0:=by simpa [hn] using he
   refine ts (ro rfl (cQ cV) (eX (fW rfl (fX (eU rfl) ?_))))
   exact (aH (by rw [fO,if_pos zo]))
  ·have hn : ¬ x < 0 := by simpa using hc
   have hm:y < 0:=by simpa [hn] using he
   refine cU (ts (ro rfl (cQ (cJ 1)) (eX (fW rfl (fX (eU rfl) ?_)))))
   exact (aH (by rw [fO,if_neg zo,if_pos zo]; rfl))
 ·have he : decide (x < 0) = decide (y < 0) := by simpa using hb
  refine cU (cK (ts (ro rfl (eZ gW (Ht rfl) rfl) (ro rfl (eY A_4 Z_4 (Ht rfl) (i:=0) rfl rfl) (eX (dQ (Ht rfl) (fun hc=>?_) (fun hc=>?_)))))))
  ·refine ts (ro rfl (eZ dL (Ht rfl) rfl) (ro rfl (eY A_27 Z_27 (Ht rfl) (i := 1) rfl rfl) (ro rfl (eZ dL (Ht rfl) rfl) (ro rfl (eY A_27 Z_27 (Ht rfl) (i := 0) rfl rfl) (ro rfl (cZ Tryz.call225 (oB zo zo) ⟨(Ht rfl), (Ht rfl), trivial⟩) (ra rfl (eX (fW rfl (fX (eU rfl) ?_)))))))))
   exact (aH (Ek he (by simpa using hc)))
  ·refine cU (ts (ro rfl (eZ dL (Ht rfl) rfl) (ro rfl (eY A_27 Z_27 (Ht rfl) (i := 0) rfl rfl) (ro rfl (eZ dL (Ht rfl) rfl) (ro rfl (eY A_27 Z_27 (Ht rfl) (i := 1) rfl rfl) (ro rfl (cZ Tryz.call225 (oB zo zo) ⟨(Ht rfl), (Ht rfl), trivial⟩) (ra rfl (eX (fW rfl (fX (eU rfl) ?_))))))))))
   exact (aH (Hm he (by simpa using hc)))
theorem sS {A B:Int} {D:Nat} (hD:0 < D) (hA:(dg A.natAbs).length ≤ 17592186044415) (hB:(dg B.natAbs).length ≤ 17592186044415) (hD2:(dg D).length ≤ 17592186044415):bA Tryz.prog 185 [cP A,cP B,aD D] (QT (Qi.mk' A B D)):=by
 have hg1:=yD hA hB
 have hg2:=yD hg1 hD2
 have hgp:Nat.gcd (Nat.gcd A.natAbs B.natAbs) D ≠ 0:=fun e=>by have:=Nat.gcd_eq_zero_iff.1 e; omega
 refine bA.intro Tryz.func185 rfl Tryz.ntmps185 rfl (fun cx=>(ts (rn rfl (fG (Ht rfl)) fun B3=>(rn rfl (fG (Ht rfl)) fun B4=>(rn rfl (eW (Ts:=[Is (.bool false),Is (.slice none 0 0),Is (.bool false),Is (.slice none 0 0),Is (.slice none 0 0)]) O_40 rfl (fun V=>aW zd (aW zd (aW zd (aW zd (aW zd (aG))))))) fun B6=>(eX (ts (ro rfl (eZ dL (Ht rfl) rfl) (ro rfl (eY A_27 Z_27 (Ht rfl) (i:=0) rfl rfl) ?_)))))))))
 refine ro rfl (eZ dL (Ht rfl) rfl) (ro rfl (eY A_27 Z_27 (Ht rfl) (i:=1) rfl rfl) (ro rfl (cZ Tryz.call237 (Hk zo zo) ⟨(Ht rfl),(Ht rfl),trivial⟩) (rm rfl (ro rfl (cZ Tryz.call237 (Hk zo zo) ⟨(Ht rfl),(Ht rfl),trivial⟩) (ra rfl (eX (cK (ts (rm rfl (ro rfl (dG U_27 (Ht rfl) aA) (ro rfl (bT (Ht rfl) (cJ 1)) (rm rfl (fQ rfl rfl (eK rfl rfl (Ht rfl) (fun h=>cX (Ht rfl))) (fQ rfl rfl (eK rfl rfl (Ht rfl) (fun h=>dZ U_27 Z_24 (fJ rfl h) (cJ 0) rfl (dY (aF (by first | omega | (simp at h; omega)))))) ?_))))))))))))))
 refine fQ rfl rfl (eK rfl rfl (Ht rfl) (fun h=>dJ A_24 Z_24 (fJ rfl h))) (fQ rfl rfl (eK rfl rfl (Ht rfl) (fun h=>bT (fJ rfl h) (cJ 1))) (ro rfl (cT (Ht rfl) (fun h=>(fJ rfl h))) (eX (dQ (Ht rfl) (fun hb=>?_) (fun hb=>?_)))))
 ·rw [Cv] at hb
  have hg:Qi.g3 A B D = 1:=by simpa [Qi.g3] using hb
  refine ts (ro rfl (eJ A_38 Z_38 (Ht rfl) (i:=0) rfl rfl rfl) (ro rfl (eJ A_38 Z_38 (Ht rfl) (i:=1) rfl rfl rfl) (rm rfl (ro rfl (kY (Ht rfl) (Ht rfl) (Ht rfl)) (gQ Z_40 (Ht rfl) (Ht rfl) rfl (i:=2) rfl (aK rfl) rfl rfl (eX (fW rfl (fX (fK A_40 Z_40 rfl (i:=2) rfl rfl) ?_))))))))
  exact (Qq hD hg)
 ·refine cU (ts (ro rfl (eZ dL (Ht rfl) rfl) (ro rfl (eY A_27 Z_27 (Ht rfl) (i := 0) rfl rfl) (rm rfl (ro rfl (cZ K_238 (tX zo zo zo) ⟨(Ht rfl), (Ht rfl), trivial⟩) (rm rfl (ro rfl (dK (Ht rfl) rfl) (ro rfl (dK (Ht rfl) rfl) (ra rfl (ra rfl (eX (ts (ro rfl (eZ dL (Ht rfl) rfl) (ro rfl (eY A_27 Z_27 (Ht rfl) (i := 1) rfl rfl) (rm rfl (ro rfl (cZ K_238 (tX zo zo zo) ⟨(Ht rfl), (Ht rfl), trivial⟩) (rm rfl (ro rfl (dK (Ht rfl) rfl) ?_))))))))))))))))))
  refine ro rfl (dK (Ht rfl) rfl) (ra rfl (ra rfl (eX (ts (rm rfl (rm rfl (ro rfl (cZ K_238 (tX zo zo zo) ⟨(Ht rfl),(Ht rfl),trivial⟩) (rm rfl (ro rfl (dK (Ht rfl) rfl) (ro rfl (dK (Ht rfl) rfl) (ra rfl (ra rfl (eX (cK (fZ (m:=9) (dp 3 rfl (eZ gW (Ht rfl) rfl) (dq 54 0 rfl (eY A_4 Z_4 (Ht rfl) (i:=0) rfl rfl) (dp 8 rfl (cX (Ht rfl)) (cI 55 1 56 2 rfl (cZ K_239 lF ⟨(Ht rfl),(Ht rfl),trivial⟩) (dp 4 rfl (eZ gW (Ht rfl) rfl) ?_))))))))))))))))))))
  refine dq 58 4 rfl (eY A_4 Z_4 (Ht rfl) (i:=1) rfl rfl) (dp 10 rfl (cX (Ht rfl)) (cI 59 5 60 6 rfl (cZ K_239 lF ⟨(Ht rfl),(Ht rfl),trivial⟩) (dp 12 rfl (cX (Ht rfl)) (fV aO rfl (by kernel_rfl) (zF (zF (aJ (aV (ro rfl (kY (Ht rfl) (Ht rfl) (Ht rfl)) (gQ Z_40 (Ht rfl) (Ht rfl) rfl (i:=2) rfl (aK rfl) rfl rfl (eX (fW rfl (fX (fK A_40 Z_40 rfl (i:=2) rfl rfl) ?_)))))))))))))
  exact (Qr hD rfl)
theorem Eg {n:Int} (h1:-9223372036854775808 ≤ n) (h2:n ≤ 9223372036854775807):bA Tryz.prog 84 [aL .i64 n] (QT (Qi.ofInt n)):=by
 refine bA.intro Tryz.func84 rfl Tryz.ntmps84 rfl (fun cx=>(ts (rn rfl (eW (Ts:=[Is (.bool false),Is (.slice none 0 0),Is (.bool false),Is (.slice none 0 0),Is (.slice none 0 0)]) O_40 rfl (fun V=>aW zd (aW zd (aW zd (aW zd (aW zd (aG))))))) fun B2=>(eX (ts (rm rfl (ro rfl (cZ Tryz.call179 (sR h1 h2) ⟨(Ht rfl),trivial⟩) (ro rfl (Je ) (ro rfl (dH (xs:=[_]) U_27 Z_24 O_24 (cW (cJ 1) cG) rfl rfl rfl) ?_)))))))))
 refine ro rfl (kY (Ht rfl) (Ht rfl) (Ht rfl)) (gQ Z_40 (Ht rfl) (Ht rfl) rfl (i:=0) rfl (aK rfl) rfl rfl (eX (fW rfl (fX (fK A_40 Z_40 rfl (i:=0) rfl rfl) ?_))))
 exact a1v
theorem Zu {p q d:Int} (p1:-9223372036854775808 ≤ p) (p2:p ≤ 9223372036854775807) (q1:-9223372036854775808 ≤ q) (q2:q ≤ 9223372036854775807) (d1:-9223372036854775808 ≤ d) (d2:d ≤ 9223372036854775807) (hd:d ≠ 0):bA Tryz.prog 91 [aL .i64 p,aL .i64 q,aL .i64 d] (eT [QT (Qi.frac p q d),aL .i64 0]):=by
 have lp:=Mm p1 p2; have lq:=Mm q1 q2; have ld:=Mm d1 d2; have np:=oU p; have nq:=oU q
 refine bA.intro Tryz.func91 rfl Tryz.ntmps91 rfl (fun cx=>(ts (rn rfl (eW (Ts:=[Is (.bool false),Is (.slice none 0 0),Is (.bool false),Is (.slice none 0 0),Is (.slice none 0 0)]) O_40 rfl (fun V=>aW zd (aW zd (aW zd (aW zd (aW zd (aG))))))) fun B6=>(ro rfl (cQ (cJ 0)) (eX (cK (ts (rm rfl (ro rfl (iB (Ht rfl) cV) (eX (jK (Ht rfl) (by simp [hd]) ?_)))))))))))
 refine cU (ts (rm rfl (ro rfl (cZ Tryz.call179 (sR d1 d2) ⟨(Ht rfl),trivial⟩) (rn rfl (eW (Ts:=[Is (.bool false),Is (.slice none 0 0)]) O_38 rfl (fun V=>aW zd (aW zd (aG)))) fun B8=>(gQ Z_38 (Ht rfl) (Ht rfl) rfl (i:=1) rfl (aK rfl) rfl rfl (eX (ts (rm rfl (ro rfl (cZ Tryz.call179 (sR p1 p2) ⟨(Ht rfl),trivial⟩) (rm rfl (ro rfl (cZ Tryz.call179 (sR q1 q2) ⟨(Ht rfl),trivial⟩) (rn rfl (eW (Ts:=[Is (.bool false),Is (.slice none 0 0)]) O_38 rfl (fun V=>aW zd (aW zd (aG)))) fun B9=>?_))))))))))))
 refine rn rfl (eW (Ts:=[Is (.bool false),Is (.slice none 0 0)]) O_38 rfl (fun V=>aW zd (aW zd (aG)))) fun B10=>gQ Z_38 (Ht rfl) (Ht rfl) rfl (i:=2) rfl (aK rfl) rfl rfl (gQ Z_38 (Ht rfl) (Ht rfl) rfl (i:=3) rfl (aK rfl) rfl rfl (eX (cK (nK (fun (a:Int) (b:Int)=>Qi.mk' a b d.natAbs = Qi.frac p q d ∧ (dg a.natAbs).length ≤ 2 ∧ (dg b.natAbs).length ≤ 2) (fun (a:Int) (b:Int)=>[(6,bR B6 0),(8,bR B8 0),(9,bR B9 0),(10,bR B10 0)]) (fun (a:Int) (b:Int)=>[box B6 40 [Is (.bool false),Is (.slice none 0 0),Is (.bool false),Is (.slice none 0 0),Is (.slice none 0 0)],box B8 38 [aB (decide (d < 0)),aD (d).natAbs],box B9 38 [aB (decide (a < 0)),aD (a).natAbs],box B10 38 [aB (decide (b < 0)),aD (b).natAbs]]) ?_ (fun a b ⟨hab,ha,hb⟩=>?_)))))
 ·refine ts (ro rfl (eZ gW (Ht rfl) rfl) (ro rfl (eY A_4 Z_4 (Ht rfl) (i := 1) rfl rfl) (eX (dQ (Ht rfl) (fun hn => ?_) (fun hn => ?_)))))
  ·simp only [decide_eq_true_eq] at hn
   refine fZ (m:=3) (dp 9 rfl (eJ A_38 Z_38 (Ht rfl) (i:=2) rfl rfl rfl) (dq 22 0 rfl (cZ K_191 mS ⟨(Ht rfl),trivial⟩) (dp 10 rfl (eJ A_38 Z_38 (Ht rfl) (i:=3) rfl rfl rfl) (fV aO rfl (by kernel_rfl) (aJ (aJ (aJ (aV (ro rfl (cZ K_191 mS ⟨(Ht rfl),trivial⟩) (gQ Z_38 (Ht rfl) (Ht rfl) rfl (i:=2) rfl (aK rfl) rfl rfl (gQ Z_38 (Ht rfl) (Ht rfl) rfl (i:=3) rfl (aK rfl) rfl rfl (eX (aN (-p,-q) ⟨Qi.frac_neg hn,by dsimp only; omega,by dsimp only; omega⟩ (zS rfl) (aU (aC rfl) (aU (aC rfl) (aU (aC rfl) (aU (aC rfl) aY)))))))))))))))))
  ·simp only [decide_eq_false_iff_not] at hn
   refine cU (aN (p,q) ⟨Qi.frac_pos hn hd,by omega,by omega⟩ (zS rfl) (bP.refl _))
 ·refine ts (ro rfl (eJ A_38 Z_38 (Ht rfl) (i := 2) rfl rfl rfl) (ro rfl (eJ A_38 Z_38 (Ht rfl) (i := 3) rfl rfl rfl) (ro rfl (eZ dL (Ht rfl) rfl) (ro rfl (eY A_27 Z_27 (Ht rfl) (i := 1) rfl rfl) (ro rfl (cZ Tryz.call185 (sS zo zo zo zo) ⟨(Ht rfl), (Ht rfl), (Ht rfl), trivial⟩) (gQ Z_40 (Ht rfl) (Ht rfl) rfl (i := 0) rfl (aK rfl) rfl rfl (ro rfl (cQ (cJ 0)) (eX (bC rfl (fX (fK A_40 Z_40 rfl (i := 0) rfl rfl) ?_) (eU rfl))))))))))
  exact (Ac hab)
theorem Yb {r:Rt}:bA Tryz.prog 16 [kV r] (QT r.q):=by
 have hr1:=r.h1; have hr2:=r.h2; have hr3:=r.h3; have hr4:=r.h4; have hr5:=r.d1; have hr6:=r.d2; have hr0:=r.d0
 refine bA.intro Tryz.func16 rfl Tryz.ntmps16 rfl (fun cx=>(ts (rn rfl (fG (Ht rfl)) fun B1=>(rn rfl (eW (Ts:=[Is (.bool false),Is (.slice none 0 0),Is (.bool false),Is (.slice none 0 0),Is (.slice none 0 0)]) O_40 rfl (fun V=>aW zd (aW zd (aW zd (aW zd (aW zd (aG))))))) fun B2=>(eX (cK (iJ (fun (uu:Unit)=>True) (fun (uu:Unit)=>[(1,bR B1 0),(2,bR B2 0)]) (fun (uu:Unit)=>[box B1 23 [aL .i64 r.re,aL .i64 r.im,aL .i64 r.d],box B2 40 [Is (.bool false),Is (.slice none 0 0),Is (.bool false),Is (.slice none 0 0),Is (.slice none 0 0)]]) ?_ (fun uu _=>?_))))))))
 ·refine ts (ro rfl (eZ nN (Ht rfl) rfl) (ro rfl (eY A_2 Z_2 (Ht rfl) (i := 0) rfl rfl) (ro rfl (iB (Ht rfl) cV) (eX (dQ (Ht rfl) (fun hb => ?_) (fun hb => ?_))))))
  ·simp only [decide_eq_true_eq] at hb
   refine cY (ro rfl (eZ nN (Ht rfl) rfl) (jN Z_2 (Ht rfl) (cJ 1) (i:=0) rfl (aK rfl) rfl (eX (aN () trivial (zS rfl) (aU (aC (by rw [Rt.d,if_pos hb]; rfl)) (aU (aC rfl) aY))))))
  ·simp only [decide_eq_false_iff_not] at hb
   refine cU (aN () trivial (zS rfl) (aU (aC (by rw [Rt.d,if_neg hb])) (aU (aC rfl) aY)))
 ·refine ts (ro rfl (eZ oV (Ht rfl) rfl) (ro rfl (eY A_2 Z_2 (Ht rfl) (i := 0) rfl rfl) (ro rfl (eZ Ck (Ht rfl) rfl) (ro rfl (eY A_2 Z_2 (Ht rfl) (i := 0) rfl rfl) (ro rfl (eZ nN (Ht rfl) rfl) (ro rfl (eY A_2 Z_2 (Ht rfl) (i := 0) rfl rfl) (ro rfl (cZ Tryz.call91 (Zu hr1 hr2 hr3 hr4 hr5 hr6 hr0) ⟨(Ht rfl), (Ht rfl), (Ht rfl), trivial⟩) (rm rfl (ro rfl (dK (Ht rfl) rfl) (ro rfl (dK (Ht rfl) rfl) (rn rfl (eW (Ts := [Is (.bool false), Is (.slice none 0 0), Is (.bool false), Is (.slice none 0 0), Is (.slice none 0 0)]) O_40 rfl (fun V => aW zd (aW zd (aW zd (aW zd (aW zd (aG))))))) fun B3 => ?_)))))))))))
  refine gQ Z_40 (Ht rfl) (Ht rfl) rfl (i:=2) rfl (aK rfl) rfl rfl (ra rfl (eX (ts (ro rfl (eJ A_40 Z_40 (Ht rfl) (i:=2) rfl rfl rfl) (gQ Z_40 (Ht rfl) (Ht rfl) rfl (i:=1) rfl (aK rfl) rfl rfl (eX ?_))))))
  exact fW rfl (fK A_40 Z_40 rfl (i:=1) rfl rfl)
theorem Ph {x y:Qi} {L M:Nat} [hx:aP x L] [hy:aP y M] (h:L + M + 1 ≤ 17592186044415):bA Tryz.prog 96 [QT x,QT y] (QT (x + y)):=by
 have hxa:=iF hx.fit; have hxb:=iL hx.fit; have hxd:=iG hx.fit
 have hya:=iF hy.fit; have hyb:=iL hy.fit; have hyd:=iG hy.fit
 have hxp:=x.den_pos; have hyp:=y.den_pos; have hdp:=Nat.mul_pos hxp hyp
 have e1:=cO x.a y.den; have e2:=cO y.a x.den; have e3:=cO x.b y.den; have e4:=cO y.b x.den; have e5:=qA x.den y.den
 have e6:=jF (x:=x.a * y.den) (y:=y.a * x.den) (L:=L + M) zo zo; have e7:=jF (x:=x.b * y.den) (y:=y.b * x.den) (L:=L + M) zo zo
 refine bA.intro Tryz.func96 rfl Tryz.ntmps96 rfl (fun cx=>?_)
 have n1:(dg ((x.den:Nat):Int).natAbs).length ≤ L:=by rw [Int.natAbs_natCast]; exact hxd
 have n2:(dg ((y.den:Nat):Int).natAbs).length ≤ M:=by rw [Int.natAbs_natCast]; exact hyd
 refine ts (rn rfl (fG (Ht rfl)) fun B2=>(rn rfl (fG (Ht rfl)) fun B3=>(rn rfl (eW (Ts:=[Is (.bool false),Is (.slice none 0 0),Is (.bool false),Is (.slice none 0 0),Is (.slice none 0 0)]) O_40 rfl (fun V=>aW zd (aW zd (aW zd (aW zd (aW zd (aG))))))) fun B4=>(eX (cK (Y.D_start (m:=9) [] (bY (Ei:=[(2,_)]) rfl rfl (bQ (bJ rfl rfl) bX) rfl rfl (dX rfl (eZ gI (Ht rfl) rfl)) (bY (Ei:=[(7,_)]) rfl rfl (bQ (bZ 0 rfl rfl) bX) rfl rfl (dX rfl (eY A_27 Z_27 (Ht rfl) (i:=0) rfl rfl)) ?_))))))))
 refine bY (Ei:=[(8,_)]) rfl rfl (bQ (bZ 1 rfl rfl) bX) rfl rfl (dX rfl (aE.imp (lE cV (Ht rfl)) uF)) (bY (Ei:=[(3,_)]) rfl rfl (bQ (bJ rfl rfl) bX) rfl rfl (dX rfl (eZ gI (Ht rfl) rfl)) (bY (Ei:=[(10,_)]) rfl rfl (bQ (bZ 3 rfl rfl) bX) rfl rfl (dX rfl (eY A_27 Z_27 (Ht rfl) (i:=1) rfl rfl)) (bY (Ei:=[(11,_)]) rfl rfl (bQ (bZ 4 rfl rfl) bX) rfl rfl (dX rfl (aE.imp (lE cV (Ht rfl)) uF)) ?_)))
 refine Y.D_newp (Ei:=[]) (fun bb=>box bb 38 [aB (decide (((x.den:Nat):Int) < 0)),aD (((x.den:Nat):Int)).natAbs]) 8 rfl rfl rfl bX rfl rfl (by kernel_rfl) (eW (Ts:=[Is (.bool false),Is (.slice none 0 0)]) O_38 rfl (fun V=>aW zd (aW zd (aG)))) (Y.D_new (Ei:=[]) rfl rfl rfl bX rfl rfl (eW (Ts:=[Is (.bool false),Is (.slice none 0 0)]) O_38 rfl (fun V=>aW zd (aW zd (aG)))) (Y.D_putN (Ei:=[(9,_)]) 6 rfl rfl rfl rfl rfl rfl (bQ (bZ 2 rfl rfl) bX) (fun bb=>mK Z_38 (Ht rfl) (Ht rfl) rfl (i:=0) rfl (aK rfl) rfl rfl) ?_))
 refine Y.D_done aO rfl (by kernel_rfl) rfl (by simp [Y.okP]) rfl rfl (bU (bU (bU (bU (bU (bU (Y.F_newp (fun B5=>Y.F_new (fun B6=>Y.F_putN (Y.F_nil ?_))))))))))
 refine gQ Z_38 (Ht rfl) (Ht rfl) rfl (i:=4) rfl (aK rfl) rfl rfl (eX (cK (fZ (m:=22) (dp 2 rfl (eZ gH (Ht rfl) rfl) (dq 13 0 rfl (eJ A_38 Z_38 (Ht rfl) (i:=0) rfl rfl rfl) (dp 6 rfl (eJ A_38 Z_38 (Ht rfl) (i:=4) rfl rfl rfl) (cI 14 1 15 2 rfl (cZ K_186 (jE zo zo) ⟨(Ht rfl),(Ht rfl),trivial⟩) (dp 3 rfl (eZ gH (Ht rfl) rfl) (dq 17 4 rfl (eJ A_38 Z_38 (Ht rfl) (i:=1) rfl rfl rfl) (dp 5 rfl (eJ A_38 Z_38 (Ht rfl) (i:=3) rfl rfl rfl) ?_))))))))))
 refine cI 18 5 19 6 rfl (cZ K_186 (jE zo zo) ⟨(Ht rfl),(Ht rfl),trivial⟩) (cI 16 3 20 7 rfl (cZ Tryz.call190 (rA zo zo) ⟨(Ht rfl),(Ht rfl),trivial⟩) (dp 2 rfl (eZ gY (Ht rfl) rfl) (dq 22 9 rfl (eJ A_38 Z_38 (Ht rfl) (i:=0) rfl rfl rfl) (dp 6 rfl (eJ A_38 Z_38 (Ht rfl) (i:=4) rfl rfl rfl) (cI 23 10 24 11 rfl (cZ K_186 (jE zo zo) ⟨(Ht rfl),(Ht rfl),trivial⟩) (dp 3 rfl (eZ gY (Ht rfl) rfl) (dq 26 13 rfl (eJ A_38 Z_38 (Ht rfl) (i:=1) rfl rfl rfl) ?_)))))))
 refine dp 5 rfl (eJ A_38 Z_38 (Ht rfl) (i:=3) rfl rfl rfl) (cI 27 14 28 15 rfl (cZ K_186 (jE zo zo) ⟨(Ht rfl),(Ht rfl),trivial⟩) (cI 25 12 29 16 rfl (cZ Tryz.call190 (rA zo zo) ⟨(Ht rfl),(Ht rfl),trivial⟩) (dp 2 rfl (eZ gI (Ht rfl) rfl) (dq 31 18 rfl (eY A_27 Z_27 (Ht rfl) (i:=0) rfl rfl) (dp 3 rfl (eZ gI (Ht rfl) rfl) (dq 33 20 rfl (eY A_27 Z_27 (Ht rfl) (i:=1) rfl rfl) (fV aO rfl (by kernel_rfl) (zF (zF (zF (zF (zF (aJ (aJ (aV ?_)))))))))))))))
 refine ro rfl (cZ Tryz.call187 (rB zo zo) ⟨(Ht rfl),(Ht rfl),trivial⟩) (ro rfl (cZ Tryz.call185 (sS (by first | assumption | omega) zo zo zo) ⟨(Ht rfl),(Ht rfl),(Ht rfl),trivial⟩) (gQ Z_40 (Ht rfl) (Ht rfl) rfl (i:=2) rfl (aK rfl) rfl rfl (eX (fW rfl (fX (fK A_40 Z_40 rfl (i:=2) rfl rfl) ?_)))))
 exact (Ac (Qi.mk_add x y))
theorem Zt {x:Qi}:bA Tryz.prog 188 [QT x] (QT (-x)):=by
 refine bA.intro Tryz.func188 rfl Tryz.ntmps188 rfl (fun cx=>(ts (rn rfl (fG (Ht rfl)) fun B1=>(rn rfl (eW (Ts:=[Is (.bool false),Is (.slice none 0 0),Is (.bool false),Is (.slice none 0 0),Is (.slice none 0 0)]) O_40 rfl (fun V=>aW zd (aW zd (aW zd (aW zd (aW zd (aG))))))) fun B2=>(eX (cK (fZ (m:=8) (dp 1 rfl (eZ gH (Ht rfl) rfl) (dq 3 0 rfl (eJ A_38 Z_38 (Ht rfl) (i:=0) rfl rfl rfl) (dq 4 1 rfl (cZ K_191 mS ⟨(Ht rfl),trivial⟩) ?_))))))))))
 refine dp 1 rfl (eZ gY (Ht rfl) rfl) (dq 6 3 rfl (eJ A_38 Z_38 (Ht rfl) (i:=0) rfl rfl rfl) (dq 7 4 rfl (cZ K_191 mS ⟨(Ht rfl),trivial⟩) (dp 1 rfl (eZ gI (Ht rfl) rfl) (dq 9 6 rfl (eY A_27 Z_27 (Ht rfl) (i:=0) rfl rfl) (fV aO rfl (by kernel_rfl) (zF (zF (aV (ro rfl (kY (Ht rfl) (Ht rfl) (Ht rfl)) (gQ Z_40 (Ht rfl) (Ht rfl) rfl (i:=1) rfl (aK rfl) rfl rfl (eX (fW rfl (fX (fK A_40 Z_40 rfl (i:=1) rfl rfl) ?_)))))))))))))
 exact (mJ (by obtain ⟨e1,e2,e3⟩:=Qi.neg_a x; rw [e1,e2,e3]; rfl))
theorem Ju {x:Qi}:bA Tryz.prog 184 [QT x] (QT x.conj):=by
 refine bA.intro Tryz.func184 rfl Tryz.ntmps184 rfl (fun cx=>(ts (rn rfl (fG (Ht rfl)) fun B1=>(rn rfl (eW (Ts:=[Is (.bool false),Is (.slice none 0 0),Is (.bool false),Is (.slice none 0 0),Is (.slice none 0 0)]) O_40 rfl (fun V=>aW zd (aW zd (aW zd (aW zd (aW zd (aG))))))) fun B2=>(eX (cK (fZ (m:=7) (dp 1 rfl (eZ gH (Ht rfl) rfl) (dq 3 0 rfl (eJ A_38 Z_38 (Ht rfl) (i:=0) rfl rfl rfl) (dp 1 rfl (eZ gY (Ht rfl) rfl) ?_))))))))))
 refine dq 5 2 rfl (eJ A_38 Z_38 (Ht rfl) (i:=0) rfl rfl rfl) (dq 6 3 rfl (cZ K_191 mS ⟨(Ht rfl),trivial⟩) (dp 1 rfl (eZ gI (Ht rfl) rfl) (dq 8 5 rfl (eY A_27 Z_27 (Ht rfl) (i:=0) rfl rfl) (fV aO rfl (by kernel_rfl) (zF (aJ (aJ (aJ (aV (ro rfl (kY (Ht rfl) (Ht rfl) (Ht rfl)) (gQ Z_40 (Ht rfl) (Ht rfl) rfl (i:=1) rfl (aK rfl) rfl rfl (eX (fW rfl (fX (fK A_40 Z_40 rfl (i:=1) rfl rfl) ?_))))))))))))))
 exact (mJ (by obtain ⟨e1,e2,e3⟩:=Qi.conj_a x; rw [e1,e2,e3]; rfl))
theorem Ce {x y:Qi} {L M:Nat} [hx:aP x L] [hy:aP y M] (h:L + M + 1 ≤ 17592186044415):bA Tryz.prog 88 [QT x,QT y] (QT (x - y)):=by
 have hxa:=iF hx.fit; have hxb:=iL hx.fit; have hxd:=iG hx.fit
 have hya:=iF hy.fit; have hyb:=iL hy.fit; have hyd:=iG hy.fit
 have hxp:=x.den_pos; have hyp:=y.den_pos; have hdp:=Nat.mul_pos hxp hyp
 refine bA.intro Tryz.func88 rfl Tryz.ntmps88 rfl (fun cx=>(ts (rn rfl (fG (Ht rfl)) fun B2=>(rn rfl (fG (Ht rfl)) fun B3=>(rn rfl (eW (Ts:=[Is (.bool false),Is (.slice none 0 0),Is (.bool false),Is (.slice none 0 0),Is (.slice none 0 0)]) O_40 rfl (fun V=>aW zd (aW zd (aW zd (aW zd (aW zd (aG))))))) fun B4=>(eX (cK (fZ (m:=3) (dp 2 rfl (eJ A_40 Z_40 (Ht rfl) (i:=0) rfl rfl rfl) (dp 3 rfl (eJ A_40 Z_40 (Ht rfl) (i:=1) rfl rfl rfl) ?_))))))))))
 refine dq 6 1 rfl (cZ Tryz.call188 Zt ⟨(Ht rfl),trivial⟩) (fV aO rfl (by kernel_rfl) (aJ (aJ (aJ (aV (ro rfl (cZ Tryz.call96 (Ph zo) ⟨(Ht rfl),(Ht rfl),trivial⟩) (gQ Z_40 (Ht rfl) (Ht rfl) rfl (i:=2) rfl (aK rfl) rfl rfl (eX (fW rfl (fX (fK A_40 Z_40 rfl (i:=2) rfl rfl) ?_))))))))))
 exact (Ac (Qi.sub_def x y).symm)
theorem Cd {x y:Qi} {L M:Nat} [hx:aP x L] [hy:aP y M] (h:L + M + 1 ≤ 17592186044415):bA Tryz.prog 89 [QT x,QT y] (QT (x * y)):=by
 have hxa:=iF hx.fit; have hxb:=iL hx.fit; have hxd:=iG hx.fit
 have hya:=iF hy.fit; have hyb:=iL hy.fit; have hyd:=iG hy.fit
 have hxp:=x.den_pos; have hyp:=y.den_pos; have hdp:=Nat.mul_pos hxp hyp
 have e1:=jG x.a y.a; have e2:=jG x.b y.b; have e3:=jG x.a y.b; have e4:=jG x.b y.a; have e5:=qA x.den y.den; have e8:=oU (x.b * y.b)
 have e6:=jF (x:=x.a * y.a) (y:=-(x.b * y.b)) (L:=L + M) zo zo; have e7:=jF (x:=x.a * y.b) (y:=x.b * y.a) (L:=L + M) zo zo
 refine bA.intro Tryz.func89 rfl Tryz.ntmps89 rfl (fun cx=>(ts (rn rfl (fG (Ht rfl)) fun B2=>(rn rfl (fG (Ht rfl)) fun B3=>(rn rfl (eW (Ts:=[Is (.bool false),Is (.slice none 0 0),Is (.bool false),Is (.slice none 0 0),Is (.slice none 0 0)]) O_40 rfl (fun V=>aW zd (aW zd (aW zd (aW zd (aW zd (aG))))))) fun B4=>(eX (cK (fZ (m:=26) (dp 2 rfl (eZ gH (Ht rfl) rfl) (dq 5 0 rfl (eJ A_38 Z_38 (Ht rfl) (i:=0) rfl rfl rfl) ?_))))))))))
 refine dp 3 rfl (eZ gH (Ht rfl) rfl) (dq 7 2 rfl (eJ A_38 Z_38 (Ht rfl) (i:=1) rfl rfl rfl) (cI 6 1 8 3 rfl (cZ K_186 (jE zo zo) ⟨(Ht rfl),(Ht rfl),trivial⟩) (dp 2 rfl (eZ gY (Ht rfl) rfl) (dq 10 5 rfl (eJ A_38 Z_38 (Ht rfl) (i:=0) rfl rfl rfl) (dp 3 rfl (eZ gY (Ht rfl) rfl) (dq 12 7 rfl (eJ A_38 Z_38 (Ht rfl) (i:=1) rfl rfl rfl) (cI 11 6 13 8 rfl (cZ K_186 (jE zo zo) ⟨(Ht rfl),(Ht rfl),trivial⟩) (cI 9 4 14 9 rfl (cZ Tryz.call189 (Me zo zo) ⟨(Ht rfl),(Ht rfl),trivial⟩) ?_))))))))
 refine dp 2 rfl (eZ gH (Ht rfl) rfl) (dq 16 11 rfl (eJ A_38 Z_38 (Ht rfl) (i:=0) rfl rfl rfl) (dp 3 rfl (eZ gY (Ht rfl) rfl) (dq 18 13 rfl (eJ A_38 Z_38 (Ht rfl) (i:=1) rfl rfl rfl) (cI 17 12 19 14 rfl (cZ K_186 (jE zo zo) ⟨(Ht rfl),(Ht rfl),trivial⟩) (dp 2 rfl (eZ gY (Ht rfl) rfl) (dq 21 16 rfl (eJ A_38 Z_38 (Ht rfl) (i:=0) rfl rfl rfl) (dp 3 rfl (eZ gH (Ht rfl) rfl) (dq 23 18 rfl (eJ A_38 Z_38 (Ht rfl) (i:=1) rfl rfl rfl) ?_))))))))
 refine cI 22 17 24 19 rfl (cZ K_186 (jE zo zo) ⟨(Ht rfl),(Ht rfl),trivial⟩) (cI 20 15 25 20 rfl (cZ Tryz.call190 (rA zo zo) ⟨(Ht rfl),(Ht rfl),trivial⟩) (dp 2 rfl (eZ gI (Ht rfl) rfl) (dq 27 22 rfl (eY A_27 Z_27 (Ht rfl) (i:=0) rfl rfl) (dp 3 rfl (eZ gI (Ht rfl) rfl) (dq 29 24 rfl (eY A_27 Z_27 (Ht rfl) (i:=1) rfl rfl) (fV aO rfl (by kernel_rfl) (zF (zF (zF (zF (zF (zF (aJ (aJ (aV ?_)))))))))))))))
 refine ro rfl (cZ Tryz.call187 (rB zo zo) ⟨(Ht rfl),(Ht rfl),trivial⟩) (ro rfl (cZ Tryz.call185 (sS (by first | assumption | omega) zo zo zo) ⟨(Ht rfl),(Ht rfl),(Ht rfl),trivial⟩) (gQ Z_40 (Ht rfl) (Ht rfl) rfl (i:=2) rfl (aK rfl) rfl rfl (eX (fW rfl (fX (fK A_40 Z_40 rfl (i:=2) rfl rfl) ?_)))))
 exact (Ac (Qi.mk_mul x y))
theorem Up {x:Qi}:bA Tryz.prog 182 [QT x] (aB (decide (x = Qi.zero))):=by
 refine bA.intro Tryz.func182 rfl Tryz.ntmps182 rfl (fun cx=>(ts (rn rfl (fG (Ht rfl)) fun B1=>(ro rfl (cQ cV) (eX (ts (ro rfl (eZ gH (Ht rfl) rfl) (ro rfl (eZ dL (Ht rfl) rfl) (ro rfl (eY A_27 Z_27 (Ht rfl) (i:=0) rfl rfl) (ro rfl (dG U_27 (Ht rfl) aA) (ro rfl (bT (Ht rfl) (cJ 0)) (rm rfl (fQ rfl rfl (eK rfl rfl (Ht rfl) (fun h=>eZ gY (Ht rfl) rfl)) (fQ rfl rfl (eK rfl rfl (Ht rfl) (fun h=>eZ dL (fJ rfl h) rfl)) (fQ rfl rfl (eK rfl rfl (Ht rfl) (fun h=>eY A_27 Z_27 (fJ rfl h) (i:=0) rfl rfl)) ?_)))))))))))))))
 refine fQ rfl rfl (eK rfl rfl (Ht rfl) (fun h=>dG U_27 (fJ rfl h) aA)) (fQ rfl rfl (eK rfl rfl (Ht rfl) (fun h=>bT (fJ rfl h) (cJ 0))) (ro rfl (cT (Ht rfl) (fun h=>(fJ rfl h))) (ra rfl (eX (fW rfl (fX (eU rfl) ?_))))))
 exact (dI (Rz x))
theorem Jv {x y:Qi} {L M:Nat} [hx:aP x L] [hy:aP y M] (h:L ≤ 17592186044415) (h2:M ≤ 17592186044415):bA Tryz.prog 140 [QT x,QT y] (aB (decide (x = y))):=by
 have hxa:=iF hx.fit; have hxb:=iL hx.fit; have hxd:=iG hx.fit
 have hya:=iF hy.fit; have hyb:=iL hy.fit; have hyd:=iG hy.fit
 refine bA.intro Tryz.func140 rfl Tryz.ntmps140 rfl (fun cx=>(ts (rn rfl (fG (Ht rfl)) fun B2=>(rn rfl (fG (Ht rfl)) fun B3=>(ro rfl (cQ cV) (eX (ts (ro rfl (eZ gH (Ht rfl) rfl) (ro rfl (eJ A_38 Z_38 (Ht rfl) (i:=0) rfl rfl rfl) (ro rfl (eZ gH (Ht rfl) rfl) (ro rfl (eJ A_38 Z_38 (Ht rfl) (i:=1) rfl rfl rfl) (ro rfl (cZ Tryz.call224 (Ao zo zo) ⟨(Ht rfl),(Ht rfl),trivial⟩) (ro rfl (iB (Ht rfl) cV) (rm rfl (fQ rfl rfl (eK rfl rfl (Ht rfl) (fun h=>eZ gY (Ht rfl) rfl)) ?_)))))))))))))))
 refine fQ rfl rfl (eK rfl rfl (Ht rfl) (fun h=>eJ A_38 Z_38 (fJ rfl h) (i:=0) rfl rfl rfl)) (fQ rfl rfl (eK rfl rfl (Ht rfl) (fun h=>eZ gY (Ht rfl) rfl)) (fQ rfl rfl (eK rfl rfl (Ht rfl) (fun h=>eJ A_38 Z_38 (fJ rfl h) (i:=1) rfl rfl rfl)) (fQ rfl rfl (eK rfl rfl (Ht rfl) (fun h=>cZ Tryz.call224 (Ao zo zo) ⟨(fJ rfl h),(fJ rfl h),trivial⟩)) (fQ rfl rfl (eK rfl rfl (Ht rfl) (fun h=>iB (fJ rfl h) cV)) (ro rfl (cT (Ht rfl) (fun h=>(fJ rfl h))) ?_)))))
 refine rm rfl (fQ rfl rfl (eK rfl rfl (Ht rfl) (fun h=>eZ gI (Ht rfl) rfl)) (fQ rfl rfl (eK rfl rfl (Ht rfl) (fun h=>eY A_27 Z_27 (fJ rfl h) (i:=0) rfl rfl)) (fQ rfl rfl (eK rfl rfl (Ht rfl) (fun h=>eZ gI (Ht rfl) rfl)) (fQ rfl rfl (eK rfl rfl (Ht rfl) (fun h=>eY A_27 Z_27 (fJ rfl h) (i:=1) rfl rfl)) (fQ rfl rfl (eK rfl rfl (Ht rfl) (fun h=>cZ Tryz.call225 (oB zo zo) ⟨(fJ rfl h),(fJ rfl h),trivial⟩)) (fQ rfl rfl (eK rfl rfl (Ht rfl) (fun h=>iB (fJ rfl h) cV)) ?_))))))
 refine ro rfl (cT (Ht rfl) (fun h=>(fJ rfl h))) (ra rfl (eX (fW rfl (fX (eU rfl) ?_))))
 exact (dI (Ry x y))
theorem Ya {x:Qi} {L:Nat} [hx:aP x L] (h:L ≤ 17592186044415):bA Tryz.prog 180 [QT x] (QT x.imp):=by
 have hxa:=iF hx.fit; have hxb:=iL hx.fit; have hxd:=iG hx.fit
 have hxp:=x.den_pos
 have h5:(dg (0:Int).natAbs).length ≤ 0:=by rw [show (0:Int).natAbs = 0 from rfl,dC]; exact Nat.le_refl _
 refine bA.intro Tryz.func180 rfl Tryz.ntmps180 rfl (fun cx=>(ts (rn rfl (fG (Ht rfl)) fun B1=>(rn rfl (eW (Ts:=[Is (.bool false),Is (.slice none 0 0),Is (.bool false),Is (.slice none 0 0),Is (.slice none 0 0)]) O_40 rfl (fun V=>aW zd (aW zd (aW zd (aW zd (aW zd (aG))))))) fun B2=>(eX (ts (ro rfl (eZ gY (Ht rfl) rfl) (ro rfl (eJ A_38 Z_38 (Ht rfl) (i:=0) rfl rfl rfl) (ro rfl (aE.imp (Je ) zN) ?_)))))))))
 refine ro rfl (eZ gI (Ht rfl) rfl) (ro rfl (eY A_27 Z_27 (Ht rfl) (i:=0) rfl rfl) (ro rfl (cZ Tryz.call185 (sS (by first | assumption | omega) zo zo zo) ⟨(Ht rfl),(Ht rfl),(Ht rfl),trivial⟩) (gQ Z_40 (Ht rfl) (Ht rfl) rfl (i:=1) rfl (aK rfl) rfl rfl (eX (fW rfl (fX (fK A_40 Z_40 rfl (i:=1) rfl rfl) ?_))))))
 exact (Ac (Qi.mk_im0 x))
theorem Un {x:Qi} {L:Nat} [hx:aP x L] (h:L + L + 1 ≤ 17592186044415):bA Tryz.prog 183 [QT x] (QT x.norm):=by
 refine bA.intro Tryz.func183 rfl Tryz.ntmps183 rfl (fun cx=>(ts (rn rfl (fG (Ht rfl)) fun B1=>(rn rfl (eW (Ts:=[Is (.bool false),Is (.slice none 0 0),Is (.bool false),Is (.slice none 0 0),Is (.slice none 0 0)]) O_40 rfl (fun V=>aW zd (aW zd (aW zd (aW zd (aW zd (aG))))))) fun B2=>(eX (cK (fZ (m:=3) (dp 1 rfl (eJ A_40 Z_40 (Ht rfl) (i:=0) rfl rfl rfl) (dp 1 rfl (eJ A_40 Z_40 (Ht rfl) (i:=0) rfl rfl rfl) ?_)))))))))
 refine dq 4 1 rfl (cZ Tryz.call184 Ju ⟨(Ht rfl),trivial⟩) (fV aO rfl (by kernel_rfl) (aJ (aJ (aJ (aV (ro rfl (cZ Tryz.call89 (Cd zo) ⟨(Ht rfl),(Ht rfl),trivial⟩) (gQ Z_40 (Ht rfl) (Ht rfl) rfl (i:=1) rfl (aK rfl) rfl rfl (eX (fW rfl (fX (fK A_40 Z_40 rfl (i:=1) rfl rfl) ?_))))))))))
 exact (Ac (Qi.mul_conj x))
theorem wE {x:Qi}:bA Tryz.prog 90 [QT x] (aL .i64 (fO x.a 0)):=by
 refine bA.intro Tryz.func90 rfl Tryz.ntmps90 rfl (fun cx=>(ts (rn rfl (fG (Ht rfl)) fun B1=>(ro rfl (cQ (cJ 0)) (eX (cK (ts (ro rfl (eZ gH (Ht rfl) rfl) (ro rfl (eZ gW (Ht rfl) rfl) (ro rfl (eY A_4 Z_4 (Ht rfl) (i:=0) rfl rfl) (eX (dQ (Ht rfl) (fun hb=>?_) (fun hb=>?_)))))))))))))
 ·simp only [decide_eq_true_eq] at hb
  refine ts (ro rfl (cQ cV) (eX (fW rfl (fX (eU rfl) ?_))))
  exact (aH (by rw [fO,if_pos hb]))
 ·simp only [decide_eq_false_iff_not] at hb
  refine cU (cK (ts (ro rfl (eZ gH (Ht rfl) rfl) (ro rfl (eZ dL (Ht rfl) rfl) (ro rfl (eY A_27 Z_27 (Ht rfl) (i:=0) rfl rfl) (ro rfl (dG U_27 (Ht rfl) aA) (ro rfl (cH (Ht rfl) (cJ 0)) (eX (dQ (Ht rfl) (fun hc=>?_) (fun hc=>?_))))))))))
  ·simp only [decide_eq_true_eq] at hc
   have h0:x.a ≠ 0:=fun e=>by rw [e] at hc; simp [dC] at hc
   refine ts (ro rfl (cQ (cJ 1)) (eX (fW rfl (fX (eU rfl) ?_))))
   exact (aH (by rw [fO,if_neg hb,if_pos zo]; rfl))
  ·simp only [decide_eq_false_iff_not] at hc
   have h0:x.a = 0:=by have:=aI.1 (Nat.eq_zero_of_not_pos hc); omega
   refine cU (ts (ro rfl (cQ (cJ 0)) (eX (fW rfl (fX (eU rfl) ?_)))))
   exact (aH (by rw [fO,if_neg hb,if_neg zo]; rfl))
theorem Jw {x:Qi} {L:Nat} [hx:aP x L] (h:L ≤ 17592186044415):bA Tryz.prog 97 [QT x] (aL .i64 (fO x.b 0)):=by
 refine bA.intro Tryz.func97 rfl Tryz.ntmps97 rfl (fun cx=>(ts (rn rfl (fG (Ht rfl)) fun B1=>(ro rfl (cQ (cJ 0)) (eX (ts (ro rfl (eJ A_40 Z_40 (Ht rfl) (i:=0) rfl rfl rfl) (ro rfl (cZ Tryz.call180 (Ya zo) ⟨(Ht rfl),trivial⟩) (ro rfl (cZ Tryz.call90 wE ⟨(Ht rfl),trivial⟩) (ra rfl (eX (fW rfl (fX (eU rfl) ?_)))))))))))))
 exact (aH (Wz x))
theorem Uo {x y:Qi} {L M:Nat} [hx:aP x L] [hy:aP y M] (h:L + 3 * M + 2 ≤ 17592186044415):bA Tryz.prog 87 [QT x,QT y] (eT [QT (x / y),aL .i64 (if y = Qi.zero then 3 else 0)]):=by
 have hxa:=iF hx.fit; have hxb:=iL hx.fit; have hxd:=iG hx.fit
 have hya:=iF hy.fit; have hyb:=iL hy.fit; have hyd:=iG hy.fit
 have hxp:=x.den_pos; have hyp:=y.den_pos; have hdp:=Nat.mul_pos hxp hyp
 refine bA.intro Tryz.func87 rfl Tryz.ntmps87 rfl (fun cx=>(ts (rn rfl (fG (Ht rfl)) fun B2=>(rn rfl (fG (Ht rfl)) fun B3=>(rn rfl (eW (Ts:=[Is (.bool false),Is (.slice none 0 0),Is (.bool false),Is (.slice none 0 0),Is (.slice none 0 0)]) O_40 rfl (fun V=>aW zd (aW zd (aW zd (aW zd (aW zd (aG))))))) fun B4=>(ro rfl (cQ (cJ 0)) (eX (cK (ts (ro rfl (eJ A_40 Z_40 (Ht rfl) (i:=1) rfl rfl rfl) ?_))))))))))
 refine ro rfl (cZ Tryz.call182 Up ⟨(Ht rfl),trivial⟩) (eX (dQ (Ht rfl) (fun hb=>?_) (fun hb=>?_)))
 ·simp only [decide_eq_true_eq] at hb
  refine ts (ro rfl (cZ Tryz.call84 (Eg (by decide) (by decide)) ⟨(cJ 0),trivial⟩) (gQ Z_40 (Ht rfl) (Ht rfl) rfl (i:=2) rfl (aK rfl) rfl rfl (ro rfl (cQ (cJ 3)) (eX (bC rfl (fX (fK A_40 Z_40 rfl (i:=2) rfl rfl) ?_) (fX (eU rfl) ?_))))))
  ·exact (Ac (by rw [hb,Qi.div_zero]; rfl))
  ·exact (aH (by rw [if_pos hb]; rfl))
 ·simp only [decide_eq_false_iff_not] at hb
  obtain ⟨n,hn⟩:∃ n,n = y.norm:=⟨_,rfl⟩
  obtain ⟨z,hz⟩:∃ z,z = x * y.conj:=⟨_,rfl⟩
  haveI fn:aP n (M + M + 1):=hn ▸ fitNorm
  haveI fz:aP z (L + M + 1):=hz ▸ fitMul
  have hna:=iF fn.fit; have hnd:=iG fn.fit; have hza:=iF fz.fit; have hzb:=iL fz.fit; have hzd:=iG fz.fit
  have hnp:0 < n.a:=hn ▸ Qi.norm_pos hb
  have hm:((n.a.natAbs:Nat):Int) = n.a:=Int.natAbs_of_nonneg zo
  have hdp2:=Nat.mul_pos z.den_pos (show 0 < n.a.natAbs by omega)
  have n1:(dg ((n.den:Nat):Int).natAbs).length ≤ M + M + 1:=by rw [Int.natAbs_natCast]; exact hnd
  have e1:=cO z.a n.den; have e2:=cO z.b n.den; have e3:=qA z.den n.a.natAbs
  refine cU (ts (ro rfl (eJ A_40 Z_40 (Ht rfl) (i:=1) rfl rfl rfl) (ro rfl (aE.imp (cZ Tryz.call183 (Un zo) ⟨(Ht rfl),trivial⟩) (Ac hn.symm)) (rn rfl (eW (Ts:=[Is (.bool false),Is (.slice none 0 0),Is (.bool false),Is (.slice none 0 0),Is (.slice none 0 0)]) O_40 rfl (fun V=>aW zd (aW zd (aW zd (aW zd (aW zd (aG))))))) fun B6=>(gQ Z_40 (Ht rfl) (Ht rfl) rfl (i:=3) rfl (aK rfl) rfl rfl ?_)))))
  refine eX (cK (fZ (m:=5) (dp 2 rfl (eJ A_40 Z_40 (Ht rfl) (i:=0) rfl rfl rfl) (dp 3 rfl (eJ A_40 Z_40 (Ht rfl) (i:=1) rfl rfl rfl) (dq 15 1 rfl (cZ Tryz.call184 Ju ⟨(Ht rfl),trivial⟩) (cI 14 0 16 2 rfl (aE.imp (cZ Tryz.call89 (Cd zo) ⟨(Ht rfl),(Ht rfl),trivial⟩) (Ac hz.symm)) (C.D_new (Ei:=[]) rfl rfl rfl bW (eW (Ts:=[Is (.bool false),Is (.slice none 0 0),Is (.bool false),Is (.slice none 0 0),Is (.slice none 0 0)]) O_40 rfl (fun V=>aW zd (aW zd (aW zd (aW zd (aW zd (aG))))))) ?_)))))))
  refine fV aO rfl (by kernel_rfl) (zF (C.F_new (fun B7=>aV (gQ Z_40 (Ht rfl) (Ht rfl) rfl (i:=4) rfl (aK rfl) rfl rfl (eX (ts (ro rfl (eZ gI (Ht rfl) rfl) (ro rfl (eY A_27 Z_27 (Ht rfl) (i:=3) rfl rfl) (ro rfl (aE.imp (lE cV (Ht rfl)) uF) (rn rfl (eW (Ts:=[Is (.bool false),Is (.slice none 0 0)]) O_38 rfl (fun V=>aW zd (aW zd (aG)))) fun B8=>(gQ Z_38 (Ht rfl) (Ht rfl) rfl (i:=5) rfl (aK rfl) rfl rfl ?_)))))))))))
  refine eX (cK (fZ (m:=13) (dp 7 rfl (eZ gH (Ht rfl) rfl) (dq 21 0 rfl (eJ A_38 Z_38 (Ht rfl) (i:=4) rfl rfl rfl) (dp 8 rfl (eJ A_38 Z_38 (Ht rfl) (i:=5) rfl rfl rfl) (cI 22 1 23 2 rfl (cZ K_186 (jE zo zo) ⟨(Ht rfl),(Ht rfl),trivial⟩) (dp 7 rfl (eZ gY (Ht rfl) rfl) (dq 25 4 rfl (eJ A_38 Z_38 (Ht rfl) (i:=4) rfl rfl rfl) (dp 8 rfl (eJ A_38 Z_38 (Ht rfl) (i:=5) rfl rfl rfl) (cI 26 5 27 6 rfl (cZ K_186 (jE zo zo) ⟨(Ht rfl),(Ht rfl),trivial⟩) ?_))))))))))
  refine dp 7 rfl (eZ gI (Ht rfl) rfl) (dq 29 8 rfl (eY A_27 Z_27 (Ht rfl) (i:=4) rfl rfl) (dp 6 rfl (eZ gH (Ht rfl) rfl) (dq 31 10 rfl (eZ dL (Ht rfl) rfl) (dq 32 11 rfl (eY A_27 Z_27 (Ht rfl) (i:=3) rfl rfl) (fV aO rfl (by kernel_rfl) (zF (zF (zF (aJ (aV (ro rfl (cZ Tryz.call187 (rB zo zo) ⟨(Ht rfl),(Ht rfl),trivial⟩) (ro rfl (cZ Tryz.call185 (sS (by first | assumption | omega) zo zo zo) ⟨(Ht rfl),(Ht rfl),(Ht rfl),trivial⟩) ?_))))))))))))
  refine gQ Z_40 (Ht rfl) (Ht rfl) rfl (i:=2) rfl (aK rfl) rfl rfl (ro rfl (cQ (cJ 0)) (eX (bC rfl (fX (fK A_40 Z_40 rfl (i:=2) rfl rfl) ?_) (fX (eU rfl) ?_))))
  ·exact (Ac (Qi.mk_divR x hb hz hn hm))
  ·exact (aH (by rw [if_neg hb]; rfl))
theorem Jl {x y:Qi} {L M:Nat} [hx:aP x L] [hy:aP y M] (h:L + 3 * M + 2 ≤ 17592186044415):bA Tryz.prog 142 [aT x,aT y] (eT [aT (x / y),aL .i64 (if y = Qi.zero then 3 else 0)]):=by
 have hxa:=iF hx.fit; have hxb:=iL hx.fit; have hxd:=iG hx.fit
 have hya:=iF hy.fit; have hyb:=iL hy.fit; have hyd:=iG hy.fit
 have hxp:=x.den_pos; have hyp:=y.den_pos; have hMp:=hy.pos
 refine bA.intro Tryz.func142 rfl Tryz.ntmps142 rfl (fun cx=>(ts (rn rfl (fG (Ht rfl)) fun B2=>(rn rfl (fG (Ht rfl)) fun B3=>(rn rfl (eW (Ts:=[Is (.bool false),Is (.slice none 0 0),Is (.bool false),Is (.slice none 0 0),Is (.slice none 0 0)]) O_32 rfl (fun V=>aW zd (aW zd (aW zd (aW zd (aW zd (aG))))))) fun B4=>(ro rfl (cQ (cJ 0)) (eX (cK (ts (ro rfl (eJ A_32 Z_32 (Ht rfl) (i:=1) rfl rfl rfl) ?_))))))))))
 refine ro rfl (cZ Tryz.call34 (Ji zo) ⟨(Ht rfl),trivial⟩) (ro rfl (fB (Ht rfl)) (eX (dQ (Ht rfl) (fun hb=>?_) (fun hb=>?_))))
 ·have h0 : y = Qi.zero := by simpa using hb
  refine ts (ro rfl (aE.imp (wD ) qI) (gQ Z_32 (Ht rfl) (Ht rfl) rfl (i:=2) rfl (aK rfl) rfl rfl (ro rfl (cQ (cJ 3)) (eX (bC rfl (fX (fK A_32 Z_32 rfl (i:=2) rfl rfl) ?_) (fX (eU rfl) ?_))))))
  ·exact (kB (by rw [h0,Qi.div_zero]))
  ·exact (aH (by rw [if_pos h0]; rfl))
 ·have h0 : y ≠ Qi.zero := by simpa using hb
  have g1:=jG y.a y.a; have g2:=jG y.b y.b; have g3:=oU y.b
  have g4:=jF (x:=y.a * y.a) (y:=y.b * y.b) (L:=M + M) zo zo
  obtain ⟨c,hc⟩:∃ c,c = Qi.mk' y.a (-y.b) 1:=⟨_,rfl⟩
  obtain ⟨z,hz⟩:∃ z,z = x * c:=⟨_,rfl⟩
  have l1:(dg 1).length ≤ 1:=by rw [Pt (by decide) (by decide)]; exact Nat.le_refl _
  haveI fc:aP c M:=hc ▸ ⟨Qi.Fit.mk (by decide) hy.fit.1 (by rw [Int.natAbs_neg]; exact hy.fit.2.1) (Qi.one_lt hMp)⟩
  haveI fz:aP z (L + M + 1):=hz ▸ fitMul
  have hza:=iF fz.fit; have hzb:=iL fz.fit; have hzd:=iG fz.fit
  have hnp:=Qi.nrm_int_pos h0
  have hm:(((y.a * y.a + y.b * y.b).natAbs:Nat):Int) = y.a * y.a + y.b * y.b:=Int.natAbs_of_nonneg zo
  have hdp2:=Nat.mul_pos z.den_pos (show 0 < (y.a * y.a + y.b * y.b).natAbs by omega)
  have e1:=cO z.a y.den; have e2:=cO z.b y.den; have e3:=qA z.den (y.a * y.a + y.b * y.b).natAbs
  refine cU (cK (fZ (m:=12) (dp 3 rfl (eZ fP (Ht rfl) rfl) (dq 12 0 rfl (eJ A_30 Z_30 (Ht rfl) (i:=1) rfl rfl rfl) (dp 3 rfl (eZ fP (Ht rfl) rfl) (dq 14 2 rfl (eJ A_30 Z_30 (Ht rfl) (i:=1) rfl rfl rfl) (cI 13 1 15 3 rfl (cZ K_105 (rD zo zo) ⟨(Ht rfl),(Ht rfl),trivial⟩) (dp 3 rfl (eZ gG (Ht rfl) rfl) (dq 17 5 rfl (eJ A_30 Z_30 (Ht rfl) (i:=1) rfl rfl rfl) (dp 3 rfl (eZ gG (Ht rfl) rfl) (dq 19 7 rfl (eJ A_30 Z_30 (Ht rfl) (i:=1) rfl rfl rfl) ?_)))))))))))
  refine cI 18 6 20 8 rfl (cZ K_105 (rD zo zo) ⟨(Ht rfl),(Ht rfl),trivial⟩) (cI 16 4 21 9 rfl (cZ K_106 (tW zo zo) ⟨(Ht rfl),(Ht rfl),trivial⟩) (C.D_new (Ei:=[]) rfl rfl rfl bW (eW (Ts:=[Is (.bool false),Is (.slice none 0 0)]) O_30 rfl (fun V=>aW zd (aW zd (aG)))) (fV aO rfl (by kernel_rfl) (zF (zF (aJ (aJ (aJ (C.F_new (fun B6=>aV (gQ Z_30 (Ht rfl) (Ht rfl) rfl (i:=3) rfl (aK rfl) rfl rfl ?_)))))))))))
  refine eX (cK (fZ (m:=10) (dp 2 rfl (eJ A_32 Z_32 (Ht rfl) (i:=0) rfl rfl rfl) (dp 3 rfl (eZ fP (Ht rfl) rfl) (dq 24 1 rfl (eJ A_30 Z_30 (Ht rfl) (i:=1) rfl rfl rfl) (dp 3 rfl (eZ gG (Ht rfl) rfl) (dq 26 3 rfl (eJ A_30 Z_30 (Ht rfl) (i:=1) rfl rfl rfl) (dq 27 4 rfl (cZ K_107 oQ ⟨(Ht rfl),trivial⟩) (d0 rfl (aE.imp (dH (xs:=[_]) U_28 Z_24 O_24 (cW (cJ 1) cG) rfl rfl rfl) yT) (C.D_step (Ei:=[(25,_),(28,_),(29,_)]) rfl rfl (bV (bG 2 rfl rfl) (bV (bG 5 rfl rfl) (bV (bG 6 rfl rfl) bW))) (dX rfl (aE.imp (cZ K_108 (tV (by first | assumption | omega) zo zo zo) ⟨(Ht rfl),(Ht rfl),(Ht rfl),trivial⟩) (kB hc.symm))) ?_))))))))))
  refine cI 23 0 30 7 rfl (aE.imp (cZ K_29 (xU zo) ⟨(Ht rfl),(Ht rfl),trivial⟩) (kB hz.symm)) (C.D_new (Ei:=[]) rfl rfl rfl bW (eW (Ts:=[Is (.bool false),Is (.slice none 0 0),Is (.bool false),Is (.slice none 0 0),Is (.slice none 0 0)]) O_32 rfl (fun V=>aW zd (aW zd (aW zd (aW zd (aW zd (aG))))))) (fV aO rfl (by kernel_rfl) (zF (zF (aJ (C.F_new (fun B7=>aV ?_)))))))
  refine gQ Z_32 (Ht rfl) (Ht rfl) rfl (i:=4) rfl (aK rfl) rfl rfl (eX (cK (fZ (m:=14) (dp 7 rfl (eZ fP (Ht rfl) rfl) (dq 32 0 rfl (eJ A_30 Z_30 (Ht rfl) (i:=4) rfl rfl rfl) (dp 3 rfl (eJ A_32 Z_32 (Ht rfl) (i:=1) rfl rfl rfl) (dq 34 2 rfl (cZ K_109 nL ⟨(Ht rfl),trivial⟩) (cI 33 1 35 3 rfl (cZ K_111 (kE zo zo) ⟨(Ht rfl),(Ht rfl),trivial⟩) (dp 7 rfl (eZ gG (Ht rfl) rfl) (dq 37 5 rfl (eJ A_30 Z_30 (Ht rfl) (i:=4) rfl rfl rfl) ?_))))))))))
  refine dp 3 rfl (eJ A_32 Z_32 (Ht rfl) (i:=1) rfl rfl rfl) (dq 39 7 rfl (cZ K_109 nL ⟨(Ht rfl),trivial⟩) (cI 38 6 40 8 rfl (cZ K_111 (kE zo zo) ⟨(Ht rfl),(Ht rfl),trivial⟩) (dp 7 rfl (eJ A_32 Z_32 (Ht rfl) (i:=4) rfl rfl rfl) (dq 42 10 rfl (cZ K_109 nL ⟨(Ht rfl),trivial⟩) (dp 6 rfl (eZ eH (Ht rfl) rfl) (dq 44 12 rfl (eY A_28 Z_28 (Ht rfl) (i:=3) rfl rfl) (fV aO rfl (by kernel_rfl) (zF (zF (zF (aJ (aJ (aV ?_)))))))))))))
  refine ro rfl (cZ Tryz.call110 (Ea zo zo) ⟨(Ht rfl),(Ht rfl),trivial⟩) (ro rfl (cZ K_108 (tV (by first | assumption | omega) zo zo zo) ⟨(Ht rfl),(Ht rfl),(Ht rfl),trivial⟩) (gQ Z_32 (Ht rfl) (Ht rfl) rfl (i:=2) rfl (aK rfl) rfl rfl (ro rfl (cQ (cJ 0)) (eX (bC rfl (fX (fK A_32 Z_32 rfl (i:=2) rfl rfl) ?_) (fX (eU rfl) ?_))))))
  ·exact (kB (Qi.mk_divP x h0 (hc ▸ hz) hm))
  ·exact (aH (by rw [if_neg h0]; rfl))
theorem rC {a:Int} {d:Nat} (hd:0 < d) (ha:(dg a.natAbs).length ≤ 8796093022208) (hd2:(dg d).length ≤ 8796093022208):bA Tryz.prog 193 [cP a,aD d] (nY (qK a d)):=by
 have hg:=yD ha hd2
 have hg0:Nat.gcd a.natAbs d ≠ 0:=fun e=>by have:=Nat.gcd_eq_zero_iff.1 e; omega
 have h1:=Cj a.natAbs (Nat.gcd a.natAbs d); have h2:=Cj d (Nat.gcd a.natAbs d)
 rw [Wo a hd]
 obtain ⟨u,hu⟩:∃ u,u = a.natAbs / Nat.gcd a.natAbs d:=⟨_,rfl⟩
 obtain ⟨v,hv⟩:∃ v,v = d / Nat.gcd a.natAbs d:=⟨_,rfl⟩
 rw [← hu,← hv]
 rw [← hu] at h1
 rw [← hv] at h2
 have h3:=oT u; have h4:=oT v
 refine bA.intro Tryz.func193 rfl Tryz.ntmps193 rfl (fun cx=>(ts (rn rfl (fG (Ht rfl)) fun B2=>(ro rfl (cQ (aS.cS (l:=[]) rfl)) (eX (ts (ro rfl (eZ dL (Ht rfl) rfl) (ro rfl (eY A_27 Z_27 (Ht rfl) (i:=0) rfl rfl) (rm rfl (ro rfl (cZ Tryz.call237 (Hk zo zo) ⟨(Ht rfl),(Ht rfl),trivial⟩) (ra rfl (eX (ts (ro rfl (eZ dL (Ht rfl) rfl) (ro rfl (eY A_27 Z_27 (Ht rfl) (i:=0) rfl rfl) (rm rfl (ro rfl (cZ K_238 (tX zo zo zo) ⟨(Ht rfl),(Ht rfl),trivial⟩) ?_)))))))))))))))))
 refine rm rfl (ro rfl (aE.imp (dK (Ht rfl) rfl) (bS hu.symm)) (ro rfl (dK (Ht rfl) rfl) (ra rfl (ra rfl (eX (ts (rm rfl (rm rfl (ro rfl (cZ K_238 (tX zo zo zo) ⟨(Ht rfl),(Ht rfl),trivial⟩) (rm rfl (ro rfl (aE.imp (dK (Ht rfl) rfl) (bS hv.symm)) (ro rfl (dK (Ht rfl) rfl) (ra rfl (ra rfl (eX (ts (rm rfl (ro rfl (cZ Tryz.call244 (Jx zo) ⟨(Ht rfl),trivial⟩) (ra rfl (eX (cK (iJ (fun (uu:Unit)=>True) (fun (uu:Unit)=>[(8,aD v),(10,nY (if a < 0 then 45 :: rW u else rW u))]) (fun (uu:Unit)=>[box B2 38 [aB (decide (a < 0)),aD (a).natAbs]]) ?_ (fun uu _=>?_)))))))))))))))))))))))
 ·refine ts (ro rfl (eZ gW (Ht rfl) rfl) (ro rfl (eY A_4 Z_4 (Ht rfl) (i := 0) rfl rfl) (eX (dQ (Ht rfl) (fun hb => ?_) (fun hb => ?_)))))
  ·simp only [decide_eq_true_eq] at hb
   refine cY (rm rfl (ro rfl (iX (aS.cS (l:=[45]) rfl) (Ht rfl) (by first | omega | (simp; omega))) (ra rfl (eX (aN () trivial (aQ rfl (aZ rfl (iK (by rw [if_pos hb]; rfl)) aX)) (bP.refl _))))))
  ·simp only [decide_eq_false_iff_not] at hb
   refine cU (aN () trivial (aQ rfl (aZ rfl (iK (by rw [if_neg hb])) aX)) (bP.refl _))
 ·have h6 : (if a < 0 then 45 :: rW u else rW u).length ≤ (rW u).length + 1 := by split <;> simp
  refine cK (ts (rm rfl (ro rfl (dG U_27 (Ht rfl) aA) (ro rfl (bT (Ht rfl) (cJ 1)) (rm rfl (fQ rfl rfl (eK rfl rfl (Ht rfl) (fun h=>cX (Ht rfl))) (fQ rfl rfl (eK rfl rfl (Ht rfl) (fun h=>dZ U_27 Z_24 (fJ rfl h) (cJ 0) rfl (dY (aF (by first | omega | (simp at h; omega)))))) (fQ rfl rfl (eK rfl rfl (Ht rfl) (fun h=>dJ A_24 Z_24 (fJ rfl h))) (fQ rfl rfl (eK rfl rfl (Ht rfl) (fun h=>bT (fJ rfl h) (cJ 1))) (ro rfl (cT (Ht rfl) (fun h=>(fJ rfl h))) ?_))))))))))
  refine eX (dQ (Ht rfl) (fun hc=>?_) (fun hc=>?_))
  ·rw [Cv] at hc
   have hv1:v = 1:=by simpa using hc
   refine ts (rm rfl (ra rfl (eX (fW rfl (fX (eU rfl) ?_)))))
   exact (iK (by rw [if_pos hv1,List.append_nil]))
  ·rw [Cv] at hc
   have hv1:v ≠ 1:=by simpa using hc
   refine cU (ts (rm rfl (ro rfl (iX (Ht rfl) (aS.cS (l:=[47]) rfl) (by simp only [List.length_cons,List.length_nil]; omega)) ?_)))
   refine rm rfl (ro rfl (cZ Tryz.call244 (Jx zo) ⟨(Ht rfl),trivial⟩) (ro rfl (iX (Ht rfl) (Ht rfl) (by simp only [List.length_append,List.length_cons,List.length_nil]; omega)) ?_))
   refine ra rfl (eX (fW rfl (fX (eU rfl) ?_)))
   exact (iK (by rw [if_neg hv1,List.append_assoc]; rfl))
theorem Zw {x:Qi} {L:Nat} [hx:aP x L] (h:L ≤ 8796093022208):bA Tryz.prog 93 [QT x] (nY (Ny x)):=by
 have hxa:=iF hx.fit; have hxb:=iL hx.fit; have hxd:=iG hx.fit
 have hdp:=x.den_pos
 have l1:=tF x.a hdp; have l2:=tF x.b hdp
 refine bA.intro Tryz.func93 rfl Tryz.ntmps93 rfl (fun cx=>(ts (rn rfl (fG (Ht rfl)) fun B1=>(ro rfl (cQ (aS.cS (l:=[]) rfl)) (eX (cK (ts (ro rfl (eZ gY (Ht rfl) rfl) (ro rfl (eZ dL (Ht rfl) rfl) (ro rfl (eY A_27 Z_27 (Ht rfl) (i:=0) rfl rfl) (ro rfl (dG U_27 (Ht rfl) aA) (ro rfl (bT (Ht rfl) (cJ 0)) (eX (dQ (Ht rfl) (fun hb=>?_) (fun hb=>?_)))))))))))))))
 ·simp only [decide_eq_true_eq] at hb
  have h0:x.b = 0:=by have:=aI.1 hb; omega
  refine ts (ro rfl (eZ gH (Ht rfl) rfl) (ro rfl (eJ A_38 Z_38 (Ht rfl) (i:=0) rfl rfl rfl) (ro rfl (eZ gI (Ht rfl) rfl) (ro rfl (eY A_27 Z_27 (Ht rfl) (i:=0) rfl rfl) (ro rfl (cZ K_193 (rC (by assumption) zo zo) ⟨(Ht rfl),(Ht rfl),trivial⟩) ?_)))))
  refine ra rfl (eX (fW rfl (fX (eU rfl) ?_)))
  exact (iK (by rw [Ny,if_pos h0]))
 ·simp only [decide_eq_false_iff_not] at hb
  have h0:x.b ≠ 0:=fun e=>hb (by rw [e]; exact aI.2 rfl)
  refine cU (cK (ts (ro rfl (eZ gH (Ht rfl) rfl) (ro rfl (eZ dL (Ht rfl) rfl) (ro rfl (eY A_27 Z_27 (Ht rfl) (i:=0) rfl rfl) (ro rfl (dG U_27 (Ht rfl) aA) (ro rfl (bT (Ht rfl) (cJ 0)) (eX (dQ (Ht rfl) (fun hc=>?_) (fun hc=>?_))))))))))
  ·simp only [decide_eq_true_eq] at hc
   have h1:x.a = 0:=by have:=aI.1 hc; omega
   refine ts (ro rfl (eZ gY (Ht rfl) rfl) (ro rfl (eJ A_38 Z_38 (Ht rfl) (i:=0) rfl rfl rfl) (ro rfl (eZ gI (Ht rfl) rfl) (ro rfl (eY A_27 Z_27 (Ht rfl) (i:=0) rfl rfl) (ro rfl (cZ K_193 (rC (by assumption) zo zo) ⟨(Ht rfl),(Ht rfl),trivial⟩) ?_)))))
   refine ro rfl (iX (Ht rfl) (aS.cS (l:=[105]) rfl) (by first | omega | (simp only [List.length_append,List.length_cons,List.length_nil]; omega))) (ra rfl (eX (fW rfl (fX (eU rfl) ?_))))
   exact (iK (by rw [Ny,if_neg h0,if_pos h1]))
  ·simp only [decide_eq_false_iff_not] at hc
   have h1:x.a ≠ 0:=fun e=>hc (by rw [e]; exact aI.2 rfl)
   refine cU (cK (ts (ro rfl (eZ gY (Ht rfl) rfl) (ro rfl (eZ gW (Ht rfl) rfl) (ro rfl (eY A_4 Z_4 (Ht rfl) (i:=0) rfl rfl) (eX (dQ (Ht rfl) (fun hd=>?_) (fun hd=>?_))))))))
   ·simp only [decide_eq_true_eq] at hd
    refine cK (fZ (m:=9) (dp 1 rfl (eZ gH (Ht rfl) rfl) (dq 27 0 rfl (eJ A_38 Z_38 (Ht rfl) (i:=0) rfl rfl rfl) (dp 1 rfl (eZ gI (Ht rfl) rfl) (dq 29 2 rfl (eY A_27 Z_27 (Ht rfl) (i:=0) rfl rfl) (cI 28 1 30 3 rfl (cZ K_193 (rC (by assumption) zo zo) ⟨(Ht rfl),(Ht rfl),trivial⟩) ?_))))))
    refine dp 1 rfl (eZ gY (Ht rfl) rfl) (dq 32 5 rfl (eJ A_38 Z_38 (Ht rfl) (i:=0) rfl rfl rfl) (dp 1 rfl (eZ gI (Ht rfl) rfl) (dq 34 7 rfl (eY A_27 Z_27 (Ht rfl) (i:=0) rfl rfl) (fV aO rfl (by kernel_rfl) (zF (zF (aJ (aV (ro rfl (cZ K_193 (rC (by assumption) zo zo) ⟨(Ht rfl),(Ht rfl),trivial⟩) ?_)))))))))
    refine ro rfl (iX (Ht rfl) (Ht rfl) (by first | omega | (simp only [List.length_append,List.length_cons,List.length_nil]; omega))) (ro rfl (iX (Ht rfl) (aS.cS (l:=[105]) rfl) (by first | omega | (simp only [List.length_append,List.length_cons,List.length_nil]; omega))) (ra rfl (eX (fW rfl (fX (eU rfl) ?_)))))
    exact (iK (by rw [Ny,if_neg h0,if_neg h1,if_pos hd,List.append_assoc]))
   ·simp only [decide_eq_false_iff_not] at hd
    refine cU (cK (fZ (m:=11) (dp 1 rfl (eZ gH (Ht rfl) rfl) (dq 39 0 rfl (eJ A_38 Z_38 (Ht rfl) (i:=0) rfl rfl rfl) (dp 1 rfl (eZ gI (Ht rfl) rfl) (dq 41 2 rfl (eY A_27 Z_27 (Ht rfl) (i:=0) rfl rfl) (cI 40 1 42 3 rfl (cZ K_193 (rC (by assumption) zo zo) ⟨(Ht rfl),(Ht rfl),trivial⟩) ?_)))))))
    refine dq 43 4 rfl (iX (Ht rfl) (aS.cS (l:=[43]) rfl) (by first | omega | (simp only [List.length_append,List.length_cons,List.length_nil]; omega))) (dp 1 rfl (eZ gY (Ht rfl) rfl) (dq 45 6 rfl (eJ A_38 Z_38 (Ht rfl) (i:=0) rfl rfl rfl) (dp 1 rfl (eZ gI (Ht rfl) rfl) (dq 47 8 rfl (eY A_27 Z_27 (Ht rfl) (i:=0) rfl rfl) (cI 46 7 48 9 rfl (cZ K_193 (rC (by assumption) zo zo) ⟨(Ht rfl),(Ht rfl),trivial⟩) ?_)))))
    refine fV aO rfl (by kernel_rfl) (zF (zF (aJ (aJ (aJ (aV (ro rfl (iX (Ht rfl) (Ht rfl) (by first | omega | (simp only [List.length_append,List.length_cons,List.length_nil]; omega))) (ro rfl (iX (Ht rfl) (aS.cS (l:=[105]) rfl) (by first | omega | (simp only [List.length_append,List.length_cons,List.length_nil]; omega))) (ra rfl (eX (fW rfl (fX (eU rfl) ?_))))))))))))
    exact (iK (by rw [Ny,if_neg h0,if_neg h1,if_neg hd,List.append_assoc,List.append_assoc]; rfl))
theorem Bx {x y:Qi} {L M:Nat} [hx:aP x L] [hy:aP y M] (h:L ≤ 8796093022208) (h2:M ≤ 8796093022208):bA Tryz.prog 17 [aT x,QT y] (aB (decide (Ny x = Ny y))):=by
 refine bA.intro Tryz.func17 rfl Tryz.ntmps17 rfl (fun cx=>(ts (rn rfl (fG (Ht rfl)) fun B2=>(rn rfl (fG (Ht rfl)) fun B3=>(ro rfl (cQ cV) (eX (cK (fZ (m:=3) (dp 2 rfl (eJ A_32 Z_32 (Ht rfl) (i:=0) rfl rfl rfl) (dq 5 0 rfl (cZ Tryz.call92 (Pc zo) ⟨(Ht rfl),trivial⟩) (dp 3 rfl (eJ A_40 Z_40 (Ht rfl) (i:=1) rfl rfl rfl) (fV aO rfl (by kernel_rfl) (aJ (aJ (aJ (aV (ro rfl (cZ Tryz.call93 (Zw zo) ⟨(Ht rfl),trivial⟩) (ro rfl (Rc (Ht rfl) (Ht rfl)) ?_))))))))))))))))))
 refine ra rfl (eX ?_)
 exact fW rfl (eU rfl)
end
section
open Go Go.RowKit
theorem wQ:Tryz.prog.info? 54 = some Tryz.t54:=by kernel_rfl
end
section
open Go Go.RowKit
theorem Ha {γ:Type} {l:List γ} {T:γ → Ty} {p:γ → Bool} [sh:∀ x,cE (T x) 5 true] (hl:l.length ≤ 1000000):bA Tryz.prog 284 [iS 5 (l.map T),Dn Tryz.prog γ (fun x=>[T x]) (fun x=>aB (p x))] (aL .i64 (zZ p l)):=by
 refine bA.intro Tryz.func284 rfl Tryz.ntmps284 rfl (fun cx=>(ts (ro rfl (cQ (cJ 0)) (eX (cK (ts (rm rfl (ro rfl (dG U_54 (Ht rfl) aA) (ro rfl (cX (cJ 0)) (eX (eG ?_)))))))))))
 refine cL (fun (k : Nat) => k ≤ l.length ∧ ∀ (i : Nat) (x : γ), i < k → l[i]? = some x → p x = false) (fun (k : Nat) => l.length - k) (fun (k : Nat) => [(0, iS 5 (l.map T)), (1, Dn Tryz.prog γ (fun x => [T x]) (fun x => aB (p x))), (7, NT .i64 l.length), (8, NT .i64 k)]) (fun (k : Nat) => []) 0 ⟨Nat.zero_le _, fun i x h => by omega⟩
  (zS rfl) aY (fun k ⟨hk,hn⟩=>?_)
 refine ts (ro rfl (gX (Ht rfl) (Ht rfl)) (eX (cK (dQ (Ht rfl) (fun hb=>?_) (fun hb=>?_)))))
 ·simp only [decide_eq_true_eq] at hb
  refine cU (cK (eG (ts (rm rfl (ra rfl (eX (ts (rm rfl (rm rfl (rm rfl (ro rfl (dZ U_54 Z_32 (Ht rfl) (Ht rfl) rfl (dY (pL hb))) (ro rfl (dJ A_32 Z_32 (Ht rfl)) (ro rfl (oK (l[k]) (Ht rfl) ⟨(Ht rfl),trivial⟩) (eX (dQ (Ht rfl) (fun hc=>?_) (fun hc=>?_))))))))))))))))
  ·have hp : p l[k] = true := hc
   refine ts (rm rfl (ra rfl (eX (fW rfl (fX (eU rfl) ?_)))))
   exact (aH (Co (pL hb) hp hn).symm)
  ·have hp : p l[k] = false := hc
   refine cU (bD (cY (ro rfl (dV (Ht rfl) (cJ 1) z6) (rm rfl (eX ?_)))))
   refine fU (k + 1) ⟨hb, fun i x h1 h2 => by
    by_cases e:i = k
    ·subst e; rw [pL hb] at h2; obtain rfl:=Option.some.inj h2; exact hp
    ·exact hn i x zo h2⟩ zo (zS rfl) aY
 ·simp only [decide_eq_false_iff_not] at hb
  refine gV rfl (ts (ro rfl (cQ cV) (eX (fW rfl (fX (eU rfl) ?_)))))
  exact (aH (uD (fun i x h=>hn i x (by have:=(List.getElem?_eq_some_iff.1 h).1; omega) h)).symm)
theorem zW {γ:Type} {l:List γ} {T:γ → Ty} {p:γ → Bool} [sh:∀ x,cE (T x) 5 true] (hl:l.length ≤ 1000000):bA Tryz.prog 245 [iS 5 (l.map T),Dn Tryz.prog γ (fun x=>[T x]) (fun x=>aB (p x))] (aB (l.any p)):=by
 refine bA.intro Tryz.func245 rfl Tryz.ntmps245 rfl (fun cx=>(ts (ro rfl (cQ cV) (eX (ts (rm rfl (rm rfl (ro rfl (cZ Tryz.call284 (Ha zo) ⟨(Ht rfl),(Ht rfl),trivial⟩) (ro rfl (jP (Ht rfl) cV) (ra rfl (eX (fW rfl (fX (eU rfl) ?_)))))))))))))
 exact (dI (yM p l))
theorem Hb {γ:Type} {l:List γ} {T:γ → Ty} {p:γ → Bool} [sh:∀ x,cE (T x) 1 false] (hl:l.length ≤ 1000000):bA Tryz.prog 208 [iS 1 (l.map T),Dn Tryz.prog γ (fun x=>[T x]) (fun x=>aB (p x))] (aL .i64 (zZ p l)):=by
 refine bA.intro Tryz.func208 rfl Tryz.ntmps208 rfl (fun cx=>(ts (ro rfl (cQ (cJ 0)) (eX (cK (ts (rm rfl (ro rfl (dG U_78 (Ht rfl) aA) (ro rfl (cX (cJ 0)) (eX (eG ?_)))))))))))
 refine cL (fun (k : Nat) => k ≤ l.length ∧ ∀ (i : Nat) (x : γ), i < k → l[i]? = some x → p x = false) (fun (k : Nat) => l.length - k) (fun (k : Nat) => [(0, iS 1 (l.map T)), (1, Dn Tryz.prog γ (fun x => [T x]) (fun x => aB (p x))), (7, NT .i64 l.length), (8, NT .i64 k)]) (fun (k : Nat) => []) 0 ⟨Nat.zero_le _, fun i x h => by omega⟩
  (zS rfl) aY (fun k ⟨hk,hn⟩=>?_)
 refine ts (ro rfl (gX (Ht rfl) (Ht rfl)) (eX (cK (dQ (Ht rfl) (fun hb=>?_) (fun hb=>?_)))))
 ·simp only [decide_eq_true_eq] at hb
  refine cU (cK (eG (ts (rm rfl (ra rfl (eX (ts (rm rfl (rm rfl (rm rfl (ro rfl (dZ U_78 Z_54 (Ht rfl) (Ht rfl) rfl (dY (pL hb))) (ro rfl (dJ A_54 Z_54 (Ht rfl)) (ro rfl (oK (l[k]) (Ht rfl) ⟨(Ht rfl),trivial⟩) (eX (dQ (Ht rfl) (fun hc=>?_) (fun hc=>?_))))))))))))))))
  ·have hp : p l[k] = true := hc
   refine ts (rm rfl (ra rfl (eX (fW rfl (fX (eU rfl) ?_)))))
   exact (aH (Co (pL hb) hp hn).symm)
  ·have hp : p l[k] = false := hc
   refine cU (bD (cY (ro rfl (dV (Ht rfl) (cJ 1) z6) (rm rfl (eX ?_)))))
   refine fU (k + 1) ⟨hb, fun i x h1 h2 => by
    by_cases e:i = k
    ·subst e; rw [pL hb] at h2; obtain rfl:=Option.some.inj h2; exact hp
    ·exact hn i x zo h2⟩ zo (zS rfl) aY
 ·simp only [decide_eq_false_iff_not] at hb
  refine gV rfl (ts (ro rfl (cQ cV) (eX (fW rfl (fX (eU rfl) ?_)))))
  exact (aH (uD (fun i x h=>hn i x (by have:=(List.getElem?_eq_some_iff.1 h).1; omega) h)).symm)
theorem zX {γ:Type} {l:List γ} {T:γ → Ty} {p:γ → Bool} [sh:∀ x,cE (T x) 1 false] (hl:l.length ≤ 1000000):bA Tryz.prog 118 [iS 1 (l.map T),Dn Tryz.prog γ (fun x=>[T x]) (fun x=>aB (p x))] (aB (l.any p)):=by
 refine bA.intro Tryz.func118 rfl Tryz.ntmps118 rfl (fun cx=>(ts (ro rfl (cQ cV) (eX (ts (rm rfl (rm rfl (ro rfl (cZ Tryz.call208 (Hb zo) ⟨(Ht rfl),(Ht rfl),trivial⟩) (ro rfl (jP (Ht rfl) cV) (ra rfl (eX (fW rfl (fX (eU rfl) ?_)))))))))))))
 exact (dI (yM p l))
theorem xW {x:Qi} {L:Nat} [hx:aP x L] (h:L ≤ 8796093022208):bA Tryz.prog 136 [aT x] (aB (gC x)):=by
 haveI hz:aP Qi.zero 1:=aP.zero (Nat.le_refl 1)
 refine bA.intro Tryz.func136 rfl Tryz.ntmps136 rfl (fun cx=>(ts (rn rfl (fG (Ht rfl)) fun B1=>(ro rfl (cQ cV) (eX (ts (ro rfl (eJ A_32 Z_32 (Ht rfl) (i:=0) rfl rfl rfl) (ro rfl (cZ Tryz.call35 Hd ⟨(Ht rfl),trivial⟩) (rm rfl (fQ rfl rfl (eK rfl rfl (Ht rfl) (fun h=>eJ A_32 Z_32 (Ht rfl) (i:=0) rfl rfl rfl)) (fQ rfl rfl (eK rfl rfl (Ht rfl) (fun h=>aE.imp (wD ) qI)) (fQ rfl rfl (eK rfl rfl (Ht rfl) (fun h=>cZ Tryz.call30 (Jk zo) ⟨(fJ rfl h),(fJ rfl h),trivial⟩)) ?_))))))))))))
 refine fQ rfl rfl (eK rfl rfl (Ht rfl) (fun h=>Cz (fJ rfl h) cV)) (ro rfl (cT (Ht rfl) (fun h=>(fJ rfl h))) (ra rfl (eX (fW rfl (fX (eU rfl) ?_)))))
 exact (dI (a0A x))
theorem Ca {x:Qi} {L:Nat} [hx:aP x L] (h:L ≤ 8796093022208):bA Tryz.prog 246 [aT x] (aB (!gC x)):=by
 refine bA.intro Tryz.func246 rfl Tryz.ntmps246 rfl (fun cx=>(ts (rn rfl (fG (Ht rfl)) fun B1=>(ro rfl (cQ cV) (eX (ts (ro rfl (eJ A_32 Z_32 (Ht rfl) (i:=0) rfl rfl rfl) (ro rfl (cZ Tryz.call136 (xW zo) ⟨(Ht rfl),trivial⟩) (ro rfl (fB (Ht rfl)) (ra rfl (eX ?_)))))))))))
 exact fW rfl (eU rfl)
theorem Ec {z:List Qi} {L:Nat} (hz:dR z L) (h:L ≤ 8796093022208) (hl:z.length ≤ 1000):bA Tryz.prog 194 [dB z] (aL .i64 (if z.all gC then 0 else 1)):=by
 obtain ⟨l,hzl⟩:∃ l:List {x:Qi // aP x L},z = l.map Subtype.val:=⟨z.attach.map fun x=>⟨x.1,hz x.1 x.2⟩,by simp⟩
 subst hzl
 have hll:l.length ≤ 1000:=by simpa using hl
 refine bA.intro Tryz.func194 rfl Tryz.ntmps194 rfl (fun cx=>(xQ (E':=[(0,_)]) (aZ rfl (jQ (Us:=l.map fun x=>aT x.1) (by simp [List.map_map,Function.comp_def])) aX) ?_))
 refine ts (ro rfl (cQ (cJ 0)) (eX (cK (ts (rm rfl (ro rfl (cZ Tryz.call245 (zW (l:=l) (T:=fun x=>aT x.1) (p:=fun x=>!gC x.1) zo) ⟨(Ht rfl),(aS.fn Tryz.call246 (γ:={x:Qi // aP x L}) (Ts:=fun x=>[aT x.1]) (U:=fun x=>aB (!gC x.1)) (fun x=>haveI:=x.2; Ca h)),trivial⟩) (eX (dQ (Ht rfl) (fun hb=>?_) (fun hb=>?_)))))))))
 ·have hn : ¬ (l.map Subtype.val).all gC = true := by simp at hb ⊢; exact hb
  refine ts (ro rfl (cQ (cJ 1)) (eX (fW rfl (fX (eU rfl) ?_))))
  exact (aH (by rw [if_neg hn]; rfl))
 ·have hn : (l.map Subtype.val).all gC = true := by simp at hb ⊢; exact hb
  refine cU (ts (ro rfl (cQ (cJ 0)) (eX (fW rfl (fX (eU rfl) ?_)))))
  exact (aH (by rw [if_pos hn]; rfl))
theorem Dx {l:List Qi} (hl:l.length ≤ 1000):iM Tryz.prog 120 [dB l] [] (Value) (fun v=>Is v) (fun v=>[bF 32 5 v (l.map aT)]) (fun _=>True):=by
 refine iM.intro Tryz.func120 rfl Tryz.ntmps120 rfl (fun cx Z=>(ts (ro rfl (cQ cV) (eX (cK (ts (rm rfl (ro rfl (Fq U_54 (Ht rfl)) (eX (Ja (Ht rfl) (fun hb=>?_) (fun hb=>?_)))))))))))
 ·have hT : l.map aT = [] := hb rfl
  refine ts (ro rfl (cQ cV) (eX (xP 32 5 ?_)))
  exact kX (.slice none 0 0) trivial [0,1] ⟨⟨_,rfl,fun _ _ _ h=>h⟩,⟨_,rfl,(bN hT.symm)⟩,trivial⟩ (by decide) (yX rfl (eU rfl))
 ·refine cU (ts (rn rfl (mE U_54 Z_32 O_32) fun B5 => (rm rfl (tQ (inf := Tryz.t32) qV nQ rfl rfl rfl (Ht rfl) (Ht rfl) (i := 1) rfl (fun T hT => by obtain ⟨x, _, rfl⟩ := List.mem_map.1 hT; exact El.ag rfl) (by show _ * 88 ≤ _; simp only [List.length_map, List.length_nil]; omega) (by simp only [List.length_map, List.length_nil]; omega) rfl (fun v2 => ?_)))))
  refine ra rfl (eX ?_)
  exact kX v2 trivial [0,1] ⟨⟨_,rfl,fun _ _ _ h=>h⟩,⟨_,rfl,fun _ _ _ h=>h⟩,trivial⟩ (by decide) (yX rfl (eU rfl))
theorem Jj {l:List Qi} (hl:l.length ≤ 1000):bA Tryz.prog 120 [dB l] (dB l):=(Dx hl).fun fun v _=>iN
theorem Jr {n:Nat} {f:Nat → Nat → Qi} (hn:n ≤ 1000):iM Tryz.prog 144 [NT .i64 n,Dn Tryz.prog (Fin n × Fin n) (fun x=>[NT .i64 x.1.1,NT .i64 x.2.1]) (fun x=>aT (f x.1.1 x.2.1))] [] (Nat) (fun B=>Is (.slice (some ⟨B,0,none⟩) n n)) (fun B=>[pM B 54 32 5 (dE aT (tab n fun i=>tab n (f i)))]) (fun _=>True):=by
 refine iM.intro Tryz.func144 rfl Tryz.ntmps144 rfl (fun cx Z=>(ts (ro rfl (cQ cV) (eX (ts (rm rfl (rn rfl (eI (T:=Is (.slice none 0 0)) (i:=Tryz.t54) Tryz.underlying78 wQ rfl rfl (Ht rfl) rfl (fun _=>rfl) trivial (by show 24 * _ ≤ _; omega) zo) fun B9=>(ra rfl (eX (cK (ts (rm rfl (ro rfl (iY U_78 (Ht rfl)) (ro rfl (cX (cJ 0)) (eX (eG (oP 1 rfl (wR (e:=32) (s:=5)) ?_)))))))))))))))))
 refine fN (fun (k : Nat) (m : List (List Qi)) => lT (fun i => tab n (f i)) n m k) (fun (k : Nat) (m : List (List Qi)) => n - k) (fun (k : Nat) (m : List (List Qi)) => [(0, NT .i64 n), (1, Dn Tryz.prog (Fin n × Fin n) (fun x => [NT .i64 x.1.1, NT .i64 x.2.1]) (fun x => aT (f x.1.1 x.2.1))), (5, Is (.slice (some ⟨B9, 0, none⟩) n n)), (11, NT .i64 n), (12, NT .i64 k)]) (fun (k : Nat) (m : List (List Qi)) => [Z, pM B9 54 32 5 (dE aT m)]) 0 (List.replicate n []) (lT.start _ _ _)
  (zS rfl) (aU (fun _ _ _ h=>h) (aU (fE (tJ aT n)) aY)) (fun k m hS=>?_)
 refine ts (ro rfl (gX (Ht rfl) (Ht rfl)) (eX (cK (dQ (Ht rfl) (fun hk=>?_) (fun hk=>?_)))))
 ·simp only [decide_eq_true_eq] at hk
  have hlen:=hS.len
  refine qX 1 (k) rfl (mB (m:=m) (i:=k) zo) (fun v=>(cU (cK (eG (ts (rm rfl (ra rfl (eX (ts (rm rfl (rm rfl (rm rfl (rn rfl (iQ (T:=aT Qi.zero) (i:=Tryz.t32) qV nQ rfl rfl (Ht rfl) rfl lG (El.ag rfl) (by show 88 * _ ≤ _; omega) zo) fun B18=>(ro rfl (fY U_78 Z_54 (Ht rfl) (Ht rfl) rfl zo (by rw [Nat.mul_one,Nat.zero_add])) ?_))))))))))))))
  refine Aj Z_54 (Ht rfl) (Ht rfl) (by simp; omega) (j:=1) (l:=3) rfl rfl rfl ?_
  refine eX (cK (dT [0,1,3] rfl (by decide) (cY (rm rfl (rm rfl (ro rfl (fY U_78 Z_54 (Ht rfl) (Ht rfl) rfl zo (by rw [Nat.mul_one,Nat.zero_add])) ?_))))))
  refine ro rfl (pD A_54 Z_54 (Ht rfl) (j:=1) rfl) (ro rfl (rO U_54 (Ht rfl) (i:=2) rfl (show ((List.replicate n (aT Qi.zero)).length:Int) = ((n:Nat):Int) by simp)) (ro rfl (cX (cJ 0)) (eX (eG ?_))))
  refine fN (fun (j : Nat) (out : List Qi) => lT (f k) n out j) (fun (j : Nat) (out : List Qi) => n - j) (fun (j : Nat) (out : List Qi) => [(0, NT .i64 n), (1, Dn Tryz.prog (Fin n × Fin n) (fun x => [NT .i64 x.1.1, NT .i64 x.2.1]) (fun x => aT (f x.1.1 x.2.1))), (5, Is (.slice (some ⟨B9, 0, none⟩) n n)), (6, NT .i64 k), (11, NT .i64 n), (12, NT .i64 k), (24, NT .i64 n), (25, NT .i64 j)]) (fun (j : Nat) (out : List Qi) => [Z, Vp B9 54 32 5 (dE aT m) k B18, bF 32 5 B18 (out.map aT)]) 0 (List.replicate n Qi.zero) (lT.start _ _ _)
   (zS rfl) (aU (fun _ _ _ h=>h) (aU (fun _ _ _ h=>h) (aU (bN (qM aT _ _)) aY))) (fun j out hT=>?_)
  refine ts (ro rfl (gX (Ht rfl) (Ht rfl)) (eX (cK (dQ (Ht rfl) (fun hj=>?_) (fun hj=>?_)))))
  ·simp only [decide_eq_true_eq] at hj
   have hlen2:=hT.len
   refine cU (cK (eG (ts (rm rfl (ra rfl (eX (fZ (m:=9) (dp 5 rfl (cX (Ht rfl)) (dp 6 rfl (cX (Ht rfl)) (cI 28 0 29 1 rfl (fY U_78 Z_54 (Ht rfl) (Ht rfl) rfl zo (by rw [Nat.mul_one,Nat.zero_add])) ?_))))))))))
   refine dq 30 2 rfl (pD A_54 Z_54 (Ht rfl) (j:=1) rfl) (dp 7 rfl (cX (Ht rfl)) (dp 1 rfl (cX (Ht rfl)) (dp 6 rfl (cX (Ht rfl)) (dp 7 rfl (cX (Ht rfl)) (C.D_step (Ei:=[(33,_),(34,_),(35,_)]) rfl rfl (bV (bG 5 rfl rfl) (bV (bG 6 rfl rfl) (bV (bG 7 rfl rfl) bW))) (dX rfl (oK ((⟨k,hk⟩,⟨j,hj⟩):Fin n × Fin n) (Ht rfl) ⟨(Ht rfl),(Ht rfl),trivial⟩)) (fV aO rfl (by kernel_rfl) (zF (zF (aJ (aV ?_))))))))))
   refine ro rfl (eR U_54 Z_32 (Ht rfl) (Ht rfl) rfl (i:=2) rfl (by first | omega | (simp; omega)) rfl) (mX Z_32 (Ht rfl) (Ht rfl) (El.ag rfl) (i:=2) rfl rfl (by first | omega | (simp; omega)) rfl (eX (bD (cY (ro rfl (dV (Ht rfl) (cJ 1) z6) (rm rfl (eX (fU (j + 1,_) (hT.next hj rfl) (by dsimp only; omega) (zS rfl) (aU (fun _ _ _ h=>h) (aU (fun _ _ _ h=>h) (aU (bN (lA aT _ _ _)) aY)))))))))))
  ·simp only [decide_eq_false_iff_not] at hj
   obtain rfl:j = n:=Nat.le_antisymm hT.kle zo
   have hfin:=hT.fin
   refine gV rfl (bD (lD 1 2 rfl rfl (by decide) (by simp; omega) ?_))
   refine cY (ro rfl (dV (Ht rfl) (cJ 1) z6) (rm rfl (eX (dT [0,1] rfl (by decide) (fU (k + 1,_) (hS.next hk hfin) (by dsimp only; omega) (zS rfl) (aU (fun _ _ _ h=>h) (aU (fE (mH aT _ _ _)) aY)))))))
 ·simp only [decide_eq_false_iff_not] at hk
  obtain rfl:k = n:=Nat.le_antisymm hS.kle zo
  have hfin:=hS.fin
  refine gV rfl (ts (rm rfl (ra rfl (eX ?_))))
  exact kX B9 trivial [0,1] ⟨⟨_,rfl,fun _ _ _ h=>h⟩,⟨_,rfl,(fE (by rw [hfin]))⟩,trivial⟩ (by decide) (yX rfl (eU rfl))
theorem Hi {n:Nat} {f:Nat → Nat → Qi} (hn:n ≤ 1000):bA Tryz.prog 144 [NT .i64 n,Dn Tryz.prog (Fin n × Fin n) (fun x=>[NT .i64 x.1.1,NT .i64 x.2.1]) (fun x=>aT (f x.1.1 x.2.1))] (fT (tab n fun i=>tab n (f i))):=(Jr hn).fun fun B _ v S V h1 h2=>jQ (by simp [dE,List.map_map,Function.comp_def]) v V (Cm (by simp [dE,bH]) (Nat.le_refl _) v S V h1 h2)
end
section
open Go Go.RowKit
theorem mL {n : Nat} {E : bM} {H : Hp} {d : Option Tmp} {t : TypeId} {pos : String} {af : Array Edge} {g : Option (Nat × Bool)}  :
  aE Tryz.prog n E H ⟨d,.build 80 #[],t,pos,af,g⟩ (dP [Is (.slice none 0 0),Is (.slice none 0 0)]) :=
 eO (parts := []) fun a V w hs => by
  refine ⟨.agg #[(.slice none 0 0),(.slice none 0 0)],?_,[(.slice none 0 0),(.slice none 0 0)],rfl,aW (⟨rfl,trivial⟩) (aW (⟨rfl,trivial⟩) (aG))⟩
  simp [Instr.build,Instr.fill,Sem.run_bind,Result.andThen,dF,O_80,U_80,Z_54,Z_78]
theorem sD {n : Nat} {E : bM} {H : Hp} {d : Option Tmp} {t : TypeId} {pos : String} {af : Array Edge} {g : Option (Nat × Bool)} {x0 x1 : Operand} {T0 T1 : Ty} [s0 : cE T0 1 false] (h0 : aS E x0 T0) [s1 : cE T1 1 false] (h1 : aS E x1 T1) :
  aE Tryz.prog n E H ⟨d,.build 80 #[(0,x0),(1,x1)],t,pos,af,g⟩ (dP [T0,T1]) :=
 eO (parts := [(0, x0), (1, x1)]) fun a V w hs => by
  have p0:=h0 n V a hs
  generalize e0:a.eval x0 = v0 at p0
  have q0:=(s0.ok v0 V p0).2.2 rfl
  have p1:=h1 n V a hs
  generalize e1:a.eval x1 = v1 at p1
  have q1:=(s1.ok v1 V p1).2.2 rfl
  refine ⟨.agg #[v0,v1],?_,[v0,v1],rfl,aW (⟨p0,q0⟩) (aW (⟨p1,q1⟩) (aG))⟩
  simp [e0,e1,Instr.build,Instr.fill,Sem.run_bind,Result.andThen,dF,q0.cells,q1.cells,O_80,U_80,Z_54,Z_78]
theorem jU (a:Addr) (w:World):(Instr.fieldAt 80 (.pointer (some a)) 0).run Tryz.prog w = .ok (.pointer (some (a.add 0))) w:=by
 simp [Instr.fieldAt,Instr.sureAddr,fieldPlace,Sem.run_bind,Result.andThen,U_80,Z_54]
end
section
open Go Go.RowKit
theorem Zm {s:List (List Qi)} {n i j:Nat} (hs:iE s n n) (hi:i < n) (hj:j < n):bA Tryz.prog 195 [NT .i64 i,NT .i64 j,PT (fT s)] (aT (gm s i j)):=by
 have h1:=hs.1; have h2:=hs.row hi
 refine bA.intro Tryz.func195 rfl Tryz.ntmps195 rfl (fun cx=>(ts (rn rfl (eW (Ts:=[Is (.bool false),Is (.slice none 0 0),Is (.bool false),Is (.slice none 0 0),Is (.slice none 0 0)]) O_32 rfl (fun V=>aW zd (aW zd (aW zd (aW zd (aW zd (aG))))))) fun B5=>(eX (ts (ro rfl (dJ A_78 Z_78 (Ht rfl)) (rm rfl (ro rfl (dZ U_78 Z_54 (Ht rfl) (Ht rfl) rfl (dY (dU (d:=[]) zo))) (ro rfl (dJ A_54 Z_54 (Ht rfl)) ?_)))))))))
 refine rm rfl (ro rfl (dZ U_54 Z_32 (Ht rfl) (Ht rfl) rfl (dY (dU (d:=Qi.zero) zo))) (ro rfl (dJ A_32 Z_32 (Ht rfl)) (gQ Z_32 (Ht rfl) (Ht rfl) rfl (i:=0) rfl (aK rfl) rfl rfl (eX ?_))))
 exact fW rfl (fK A_32 Z_32 rfl (i:=0) rfl rfl)
theorem Eb {z:List Qi} {s:List (List Qi)} {L:Nat} (hz:dR z L) (h:L ≤ 8796093022208) (hl:z.length ≤ 1000) (hl2:s.length ≤ 1000):bA Tryz.prog 98 [dB z,fT s] (eT [gE (gD (cF z s) z) (gD (cF z s) s),aL .i64 (cF z s)]):=by
 refine bA.intro Tryz.func98 rfl Tryz.ntmps98 rfl (fun cx=>(ts (rn rfl (qH (Ht rfl)) fun B3=>(rn rfl (eW (Ts:=[Is (.slice none 0 0),Is (.slice none 0 0)]) O_80 rfl (fun V=>aW zd (aW zd (aG)))) fun B4=>(ro rfl (cQ (cJ 0)) (eX (cK (cK (gJ (i:=0) (tt:=3) rfl rfl oH (cY (rm rfl (ro rfl (dG U_54 (Ht rfl) aA) (ro rfl (gX (Ht rfl) (cJ 1)) (rm rfl (fQ rfl rfl (eK rfl rfl (Ht rfl) (fun h=>cX (Ht rfl))) (fQ rfl rfl (eK rfl rfl (Ht rfl) (fun h=>dG U_54 (fJ rfl h) aA)) ?_))))))))))))))))
 refine fQ rfl rfl (eK rfl rfl (Ht rfl) (fun h=>cH (fJ rfl h) (cJ 8))) (ro rfl (iR (Ht rfl) (fun h=>(fJ rfl h))) (rm rfl (fQ rfl rfl (eK rfl rfl (Ht rfl) (fun h=>dJ A_78 Z_78 (Ht rfl))) (fQ rfl rfl (eK rfl rfl (Ht rfl) (fun h=>dG U_78 (fJ rfl h) aA)) (fQ rfl rfl (eK rfl rfl (Ht rfl) (fun h=>cX (Ht rfl))) (fQ rfl rfl (eK rfl rfl (Ht rfl) (fun h=>dG U_54 (fJ rfl h) aA)) (fQ rfl rfl (eK rfl rfl (Ht rfl) (fun h=>gL (fJ rfl h) (fJ rfl h))) ?_)))))))
 refine ro rfl (iR (Ht rfl) (fun h=>(fJ rfl h))) (eX (dQ (Ht rfl) (fun hb=>?_) (fun hb=>?_)))
 ·have he := Fn hb
  refine ts (ro rfl (aE.imp (mL ) lP) (gQ Z_80 (Ht rfl) (Ht rfl) rfl (i:=1) rfl (aK rfl) rfl rfl (ro rfl (cQ (cJ 4)) (eX (bC rfl (fX (fK A_80 Z_80 rfl (i:=1) rfl rfl) ?_) (fX (eU rfl) ?_))))))
  ·exact (Ct he (by decide))
  ·exact (aH he.symm)
 ·refine cU (cK (ts (ro rfl (dJ A_78 Z_78 (Ht rfl)) (ro rfl (dG U_78 (Ht rfl) aA) (ro rfl (cX (cJ 0)) (eX (eG ?_)))))))
  refine cL (fun (k : Nat) => k ≤ s.length ∧ ∀ (i : Nat) (r : List Qi), i < k → s[i]? = some r → r.length = z.length) (fun (k : Nat) => s.length - k) (fun (k : Nat) => [(0, dB z), (3, PT (fT s)), (4, bR B4 0), (25, fT s), (26, NT .i64 s.length), (27, NT .i64 k)]) (fun (k : Nat) => [SA.emp, box B4 80 [Is (.slice none 0 0), Is (.slice none 0 0)]]) 0 ⟨Nat.zero_le _, fun i r h => by omega⟩
   (zS rfl) (bP.refl _) (fun k ⟨hk,hr⟩=>?_)
  refine ts (ro rfl (gX (Ht rfl) (Ht rfl)) (eX (cK (dQ (Ht rfl) (fun hc=>?_) (fun hc=>?_)))))
  ·simp only [decide_eq_true_eq] at hc
   refine cU (cK (eG (ts (ro rfl (dZ U_78 Z_54 (Ht rfl) (Ht rfl) rfl (dY (pL hc))) (ro rfl (dJ A_54 Z_54 (Ht rfl)) (ra rfl (eX (ts (rm rfl (ro rfl (dG U_54 (Ht rfl) aA) (rm rfl (ro rfl (dG U_54 (Ht rfl) aA) (ro rfl (gL (Ht rfl) (Ht rfl)) (eX (dQ (Ht rfl) (fun hd=>?_) (fun hd=>?_))))))))))))))))
   ·have hd2 : ¬ (s[k]).length = z.length := by simpa using hd
    have he:=Hw (pL hc) hd2
    refine ts (ro rfl (aE.imp (mL ) lP) (gQ Z_80 (Ht rfl) (Ht rfl) rfl (i:=1) rfl (aK rfl) rfl rfl (ro rfl (cQ (cJ 4)) (eX (bC rfl (fX (fK A_80 Z_80 rfl (i:=1) rfl rfl) ?_) (fX (eU rfl) ?_))))))
    ·exact (Ct he (by decide))
    ·exact (aH he.symm)
   ·have hd2 : (s[k]).length = z.length := by simpa using hd
    refine cU (bD (cY (ro rfl (dV (Ht rfl) (cJ 1) z6) (rm rfl (eX ?_)))))
    refine fU (k + 1) ⟨hc, fun i r h1 h2 => by
      by_cases e:i = k
      ·subst e; rw [pL hc] at h2; obtain rfl:=Option.some.inj h2; exact hd2
      ·exact hr i r zo h2⟩ zo (zS rfl) (bP.refl _)
  ·simp only [decide_eq_false_iff_not] at hc
   have hall:∀ (i:Nat) (r:List Qi),s[i]? = some r → r.length = z.length:=fun i r h=>hr i r (by have:=(List.getElem?_eq_some_iff.1 h).1; omega) h
   have hpos:=Hv hb hall
   refine gV rfl (cK (ts (rm rfl (ro rfl (cZ Tryz.call194 (Ec hz h zo) ⟨(Ht rfl),trivial⟩) (ra rfl (eX (ts (rm rfl (ro rfl (jH (Ht rfl) cV) (eX (dQ (Ht rfl) (fun hd=>?_) (fun hd=>?_))))))))))))
   ·have hd2 : ¬ (if z.all gC = true then (0 : Int) else 1) = 0 := by simpa using hd
    refine ts (ro rfl (aE.imp (mL ) lP) (rm rfl (gQ Z_80 (Ht rfl) (Ht rfl) rfl (i:=1) rfl (aK rfl) rfl rfl (ra rfl (eX (bC rfl (fX (fK A_80 Z_80 rfl (i:=1) rfl rfl) ?_) (fX (eU rfl) ?_)))))))
    ·exact (Ct hpos hd2)
    ·exact (aH hpos.symm)
   ·have hd2 : (if z.all gC = true then (0 : Int) else 1) = 0 := by simpa using hd
    have he:=hpos.trans hd2
    obtain ⟨h1,h2,hsh,_⟩:=rL he
    refine cU (ts (rm rfl (ro rfl (cZ Tryz.call120 (Jj zo) ⟨(Ht rfl),trivial⟩) (rm rfl (ro rfl (dG U_54 (Ht rfl) aA) (ro rfl (tE (γ:=Fin z.length × Fin z.length) (Ts:=fun x=>[NT .i64 x.1.1,NT .i64 x.2.1]) (U:=fun x=>aT (gm s x.1.1 x.2.1)) Tryz.call195 (fun x=>Zm hsh x.1.2 x.2.2) ⟨(Ht rfl),trivial⟩) (ro rfl (cZ Tryz.call144 (eQ (Hi (n:=z.length) (f:=gm s) zo) (jQ (by rw [← wS hsh]))) ⟨(Ht rfl),(Ht rfl),trivial⟩) ?_)))))))
    refine ro rfl (sD (Ht rfl) (Ht rfl)) (gQ Z_80 (Ht rfl) (Ht rfl) rfl (i:=1) rfl (aK rfl) rfl rfl (ro rfl (cQ (cJ 0)) (eX (bC rfl (fX (fK A_80 Z_80 rfl (i:=1) rfl rfl) ?_) (fX (eU rfl) ?_)))))
    ·exact (Qw he)
    ·exact (aH he.symm)
theorem Jp {z:List Qi} {s:List (List Qi)}:bA Tryz.prog 117 [gE z s] (NT .i64 z.length):=by
 refine bA.intro Tryz.func117 rfl Tryz.ntmps117 rfl (fun cx=>(ts (rn rfl (fG (Ht rfl)) fun B1=>(ro rfl (cQ (cJ 0)) (eX (ts (ro rfl (eZ jU (Ht rfl) rfl) (ro rfl (eY A_54 Z_54 (Ht rfl) (i:=0) rfl rfl) (ro rfl (dG U_54 (Ht rfl) aA) (ra rfl (eX ?_)))))))))))
 exact fW rfl (eU rfl)
theorem Js {z:List Qi} {s:List (List Qi)} {i:Int}:bA Tryz.prog 209 [gE z s,aL .i64 i] (aB (decide (1 ≤ i ∧ i ≤ z.length))):=by
 refine bA.intro Tryz.func209 rfl Tryz.ntmps209 rfl (fun cx=>(ts (rn rfl (fG (Ht rfl)) fun B2=>(ro rfl (cQ cV) (eX (ts (rm rfl (ro rfl (jP (Ht rfl) cV) (rm rfl (fQ rfl rfl (eK rfl rfl (Ht rfl) (fun h=>cX (Ht rfl))) (fQ rfl rfl (eK rfl rfl (Ht rfl) (fun h=>eZ jU (Ht rfl) rfl)) (fQ rfl rfl (eK rfl rfl (Ht rfl) (fun h=>eY A_54 Z_54 (fJ rfl h) (i:=0) rfl rfl)) (fQ rfl rfl (eK rfl rfl (Ht rfl) (fun h=>dG U_54 (fJ rfl h) aA)) (fQ rfl rfl (eK rfl rfl (Ht rfl) (fun h=>uW (fJ rfl h) (fJ rfl h))) ?_))))))))))))))
 refine ro rfl (cT (Ht rfl) (fun h=>(fJ rfl h))) (ra rfl (eX (fW rfl (fX (eU rfl) ?_))))
 exact (dI (by rw [Bool.eq_iff_iff]; simp))
end
section
open Go Go.RowKit
theorem kJ (a:Addr) (w:World):(Instr.fieldAt 80 (.pointer (some a)) 1).run Tryz.prog w = .ok (.pointer (some (a.add 1))) w:=by
 simp [Instr.fieldAt,Instr.sureAddr,fieldPlace,Sem.run_bind,Result.andThen,U_80,Z_78]
end
section
open Go Go.RowKit
theorem a18 {z:List Qi} {s:List (List Qi)} {i:Int} (hl:z.length ≤ 1000):bA Tryz.prog 124 [gE z s,aL .i64 i] (eT [aT (pkv z i),aL .i64 (if 1 ≤ i ∧ i ≤ z.length then 0 else 1)]):=by
 refine bA.intro Tryz.func124 rfl Tryz.ntmps124 rfl (fun cx=>(ts (rn rfl (fG (Ht rfl)) fun B2=>(rn rfl (eW (Ts:=[Is (.bool false),Is (.slice none 0 0),Is (.bool false),Is (.slice none 0 0),Is (.slice none 0 0)]) O_32 rfl (fun V=>aW zd (aW zd (aW zd (aW zd (aW zd (aG))))))) fun B4=>(ro rfl (cQ (cJ 0)) (eX (cK (ts (ro rfl (eJ A_80 Z_80 (Ht rfl) (i:=0) rfl rfl rfl) (rm rfl (ro rfl (cZ Tryz.call209 Js ⟨(Ht rfl),(Ht rfl),trivial⟩) ?_)))))))))))
 refine ro rfl (fB (Ht rfl)) (eX (dQ (Ht rfl) (fun hb=>?_) (fun hb=>?_)))
 ·have hn : ¬ (1 ≤ i ∧ i ≤ (z.length : Int)) := by simpa only [Bool.not_eq_true', decide_eq_false_iff_not] using hb
  refine ts (ro rfl (aE.imp (wD ) qI) (gQ Z_32 (Ht rfl) (Ht rfl) rfl (i:=1) rfl (aK rfl) rfl rfl (ro rfl (cQ (cJ 1)) (eX (bC rfl (fX (fK A_32 Z_32 rfl (i:=1) rfl rfl) ?_) (fX (eU rfl) ?_))))))
  ·exact (kB (by rw [pkv,if_neg hn]))
  ·exact (aH (by rw [if_neg hn]; rfl))
 ·have hp : 1 ≤ i ∧ i ≤ (z.length : Int) := by simpa only [Bool.not_eq_false', decide_eq_true_eq] using hb
  have hq:(i - 1).toNat < z.length:=by omega
  refine cU (ts (ro rfl (eZ jU (Ht rfl) rfl) (ro rfl (eY A_54 Z_54 (Ht rfl) (i:=0) rfl rfl) (rm rfl (ro rfl (gT (Ht rfl) cV (vT zo)) (ro rfl (dZ U_54 Z_32 (Ht rfl) (Ht rfl) (by omega:i - 1 = (((i - 1).toNat:Nat):Int)) (dY (dU (d:=Qi.zero) hq))) (ro rfl (dJ A_32 Z_32 (Ht rfl)) (gQ Z_32 (Ht rfl) (Ht rfl) rfl (i:=1) rfl (aK rfl) rfl rfl (ro rfl (cQ (cJ 0)) (eX (bC rfl (fX (fK A_32 Z_32 rfl (i:=1) rfl rfl) ?_) (fX (eU rfl) ?_))))))))))))
  ·exact (kB (by rw [pkv,if_pos hp]))
  ·exact (aH (by rw [if_pos hp]; rfl))
theorem a11 {z:List Qi} {s:List (List Qi)} {i j:Int} (hs:iE s z.length z.length) (hl:z.length ≤ 1000):bA Tryz.prog 130 [gE z s,aL .i64 i,aL .i64 j] (eT [aT (Wk z.length s i j),aL .i64 (if (1 ≤ i ∧ i ≤ z.length) ∧ 1 ≤ j ∧ j ≤ z.length then 0 else 1)]):=by
 have hs1:=hs.1
 refine bA.intro Tryz.func130 rfl Tryz.ntmps130 rfl (fun cx=>(ts (rn rfl (fG (Ht rfl)) fun B3=>(rn rfl (eW (Ts:=[Is (.bool false),Is (.slice none 0 0),Is (.bool false),Is (.slice none 0 0),Is (.slice none 0 0)]) O_32 rfl (fun V=>aW zd (aW zd (aW zd (aW zd (aW zd (aG))))))) fun B6=>(ro rfl (cQ (cJ 0)) (eX (cK (ts (ro rfl (eJ A_80 Z_80 (Ht rfl) (i:=0) rfl rfl rfl) (rm rfl (ro rfl (cZ Tryz.call209 Js ⟨(Ht rfl),(Ht rfl),trivial⟩) ?_)))))))))))
 refine ro rfl (fB (Ht rfl)) (rm rfl (fQ rfl rfl (eK rfl rfl (Ht rfl) (fun h=>eJ A_80 Z_80 (Ht rfl) (i:=0) rfl rfl rfl)) (fQ rfl rfl (eK rfl rfl (Ht rfl) (fun h=>cX (Ht rfl))) (fQ rfl rfl (eK rfl rfl (Ht rfl) (fun h=>cZ Tryz.call209 Js ⟨(fJ rfl h),(fJ rfl h),trivial⟩)) (fQ rfl rfl (eK rfl rfl (Ht rfl) (fun h=>fB (fJ rfl h))) (ro rfl (iR (Ht rfl) (fun h=>(fJ rfl h))) (eX (dQ (Ht rfl) (fun hb=>?_) (fun hb=>?_)))))))))
 ·have hn : ¬ ((1 ≤ i ∧ i ≤ (z.length : Int)) ∧ 1 ≤ j ∧ j ≤ (z.length : Int)) := by simp only [Bool.or_eq_true, Bool.not_eq_true', decide_eq_false_iff_not] at hb; exact fun k => hb.elim (fun h => h k.1) (fun h => h k.2)
  refine ts (rn rfl (eW (Ts:=[Is (.bool false),Is (.slice none 0 0),Is (.bool false),Is (.slice none 0 0),Is (.slice none 0 0)]) O_32 rfl (fun V=>aW zd (aW zd (aW zd (aW zd (aW zd (aG))))))) fun B8=>(eX (ts (ro rfl (eJ A_32 Z_32 (Ht rfl) (i:=2) rfl rfl rfl) (gQ Z_32 (Ht rfl) (Ht rfl) rfl (i:=1) rfl (aK rfl) rfl rfl (ro rfl (cQ (cJ 1)) (eX (bC rfl (fX (fK A_32 Z_32 rfl (i:=1) rfl rfl) ?_) (fX (eU rfl) ?_)))))))))
  ·exact (fun v V k=>by rw [Wk,if_neg hn]; exact qI v V k)
  ·exact (aH (by rw [if_neg hn]; rfl))
 ·have hp : (1 ≤ i ∧ i ≤ (z.length : Int)) ∧ 1 ≤ j ∧ j ≤ (z.length : Int) := by simpa only [Bool.or_eq_false_iff, Bool.not_eq_false', decide_eq_true_eq] using hb
  have hq:(i - 1).toNat < s.length:=by omega
  have hq2:(j - 1).toNat < (s.getD (i - 1).toNat []).length:=by rw [hs.row zo]; omega
  refine cU (ts (ro rfl (eZ kJ (Ht rfl) rfl) (ro rfl (eY A_78 Z_78 (Ht rfl) (i:=0) rfl rfl) (rm rfl (ro rfl (gT (Ht rfl) cV (vT zo)) (ro rfl (dZ U_78 Z_54 (Ht rfl) (Ht rfl) (by omega:i - 1 = (((i - 1).toNat:Nat):Int)) (dY (dU (d:=[]) hq))) (ro rfl (dJ A_54 Z_54 (Ht rfl)) (rm rfl (ro rfl (gT (Ht rfl) cV (vT zo)) (ro rfl (dZ U_54 Z_32 (Ht rfl) (Ht rfl) (by omega:j - 1 = (((j - 1).toNat:Nat):Int)) (dY (dU (d:=Qi.zero) hq2))) ?_))))))))))
  refine ro rfl (dJ A_32 Z_32 (Ht rfl)) (gQ Z_32 (Ht rfl) (Ht rfl) rfl (i:=1) rfl (aK rfl) rfl rfl (ro rfl (cQ (cJ 0)) (eX (bC rfl (fX (fK A_32 Z_32 rfl (i:=1) rfl rfl) ?_) (fX (eU rfl) ?_)))))
  ·exact (kB (by rw [Wk,if_pos hp]))
  ·exact (aH (by rw [if_pos hp]; rfl))
end
section
open Go Go.RowKit
theorem a0P:Tryz.prog.underlying 78 = some (.slice 54):=by kernel_rfl
end
section
open Go Go.RowKit
theorem An {m:List (List Rt)} (hm:m.length ≤ 1000) (hr:∀ r,r ∈ m → r.length ≤ 1000):bA Tryz.prog 99 [Oi m] (fT (rq m)):=by
 refine bA.intro Tryz.func99 rfl Tryz.ntmps99 rfl (fun cx=>(ts (ro rfl (cQ cV) (eX (ts (rm rfl (ro rfl (dG U_181 (Ht rfl) aA) (rn rfl (iQ (T:=dB []) (i:=Tryz.t54) a0P wQ rfl rfl (Ht rfl) rfl Fo El.one (by show 24 * _ ≤ _; omega) zo) fun B8=>(ra rfl (eX (cK (ts (rm rfl (ro rfl (dG U_181 (Ht rfl) aA) (ro rfl (cX (cJ 0)) (eX (eG ?_)))))))))))))))))
 refine fN (fun (k : Nat) (out : List (List Qi)) => lT (fun i => (m.getD i default).map Rt.q) m.length out k) (fun (k : Nat) (out : List (List Qi)) => m.length - k) (fun (k : Nat) (out : List (List Qi)) => [(3, Is B8), (9, Oi m), (10, NT .i64 m.length), (11, NT .i64 k)]) (fun (k : Nat) (out : List (List Qi)) => [bF 54 1 B8 (out.map dB)]) 0 (List.replicate m.length []) (lT.start _ _ _)
  (zS rfl) (aU (bN (qM dB _ _)) aY) (fun k out hS=>?_)
 refine ts (ro rfl (gX (Ht rfl) (Ht rfl)) (eX (cK (dQ (Ht rfl) (fun hk=>?_) (fun hk=>?_)))))
 ·simp only [decide_eq_true_eq] at hk
  have hlen:=hS.len
  have hrk : (m.getD k default).length ≤ 1000 := by
   have e:m.getD k default = m[k]:=by simp [List.getD,hk]
   rw [e]; exact hr _ (List.getElem_mem hk)
  refine cU (cK (eG (ts (rm rfl (ro rfl (dZ U_181 Z_77 (Ht rfl) (Ht rfl) rfl (dY (dU (d:=default) hk))) (ro rfl (dJ A_77 Z_77 (Ht rfl)) (ra rfl (ra rfl (eX (cY (rm rfl (rm rfl (rm rfl (ro rfl (cZ Tryz.call50 (oA zo) ⟨(Ht rfl),trivial⟩) (ro rfl (eR U_78 Z_54 (Ht rfl) (Ht rfl) rfl (i:=0) rfl (by first | omega | (simp; omega)) rfl) (mX Z_54 (Ht rfl) (Ht rfl) El.one (i:=0) rfl rfl (by first | omega | (simp; omega)) rfl (eX (bD ?_))))))))))))))))))
  refine cY (ro rfl (dV (Ht rfl) (cJ 1) z6) (rm rfl (eX (fU (k + 1,_) (hS.next hk rfl) (by dsimp only; omega) (zS rfl) (aU (bN (lA dB _ _ _)) aY)))))
 ·simp only [decide_eq_false_iff_not] at hk
  obtain rfl:k = m.length:=Nat.le_antisymm hS.kle zo
  have hfin:=hS.fin
  rw [qU m (fun r=>r.map Rt.q)] at hfin
  refine gV rfl (gJ (i:=0) (tt:=3) rfl rfl iN (ts (rm rfl (ra rfl (eX (fW rfl (fX (eU rfl) ?_)))))))
  exact (jQ (by rw [hfin]))
end
section
open Go Go.RowKit
theorem sP {n : Nat} {E : bM} {H : Hp} {d : Option Tmp} {t : TypeId} {pos : String} {af : Array Edge} {g : Option (Nat × Bool)}  :
  aE Tryz.prog n E H ⟨d,.build 104 #[],t,pos,af,g⟩ (dP [Is (.slice none 0 0),Is (.slice none 0 0)]) :=
 eO (parts := []) fun a V w hs => by
  refine ⟨.agg #[(.slice none 0 0),(.slice none 0 0)],?_,[(.slice none 0 0),(.slice none 0 0)],rfl,aW (⟨rfl,trivial⟩) (aW (⟨rfl,trivial⟩) (aG))⟩
  simp [Instr.build,Instr.fill,Sem.run_bind,Result.andThen,dF,O_104,U_104,Z_57,Z_102]
theorem vG {n : Nat} {E : bM} {H : Hp} {d : Option Tmp} {t : TypeId} {pos : String} {af : Array Edge} {g : Option (Nat × Bool)} {x0 x1 : Operand} {T0 T1 : Ty} [s0 : cE T0 1 false] (h0 : aS E x0 T0) [s1 : cE T1 1 false] (h1 : aS E x1 T1) :
  aE Tryz.prog n E H ⟨d,.build 104 #[(0,x0),(1,x1)],t,pos,af,g⟩ (dP [T0,T1]) :=
 eO (parts := [(0, x0), (1, x1)]) fun a V w hs => by
  have p0:=h0 n V a hs
  generalize e0:a.eval x0 = v0 at p0
  have q0:=(s0.ok v0 V p0).2.2 rfl
  have p1:=h1 n V a hs
  generalize e1:a.eval x1 = v1 at p1
  have q1:=(s1.ok v1 V p1).2.2 rfl
  refine ⟨.agg #[v0,v1],?_,[v0,v1],rfl,aW (⟨p0,q0⟩) (aW (⟨p1,q1⟩) (aG))⟩
  simp [e0,e1,Instr.build,Instr.fill,Sem.run_bind,Result.andThen,dF,q0.cells,q1.cells,O_104,U_104,Z_57,Z_102]
end
section
open Go Go.RowKit
theorem vI {x:Qi} {L:Nat} [hx:aP x L] (h:L ≤ 17592186044415):bA Tryz.prog 95 [QT x] (aB (gC x)):=by
 refine bA.intro Tryz.func95 rfl Tryz.ntmps95 rfl (fun cx=>(ts (rn rfl (fG (Ht rfl)) fun B1=>(ro rfl (cQ cV) (eX (ts (ro rfl (eJ A_40 Z_40 (Ht rfl) (i:=0) rfl rfl rfl) (ro rfl (cZ Tryz.call97 (Jw zo) ⟨(Ht rfl),trivial⟩) (ro rfl (iB (Ht rfl) cV) (rm rfl (fQ rfl rfl (eK rfl rfl (Ht rfl) (fun h=>eJ A_40 Z_40 (Ht rfl) (i:=0) rfl rfl rfl)) (fQ rfl rfl (eK rfl rfl (Ht rfl) (fun h=>cZ Tryz.call90 wE ⟨(fJ rfl h),trivial⟩)) (fQ rfl rfl (eK rfl rfl (Ht rfl) (fun h=>Cz (fJ rfl h) cV)) ?_)))))))))))))
 refine ro rfl (cT (Ht rfl) (fun h=>(fJ rfl h))) (ra rfl (eX (fW rfl (fX (eU rfl) ?_))))
 exact (dI (Wu x))
theorem Pl {z:List Qi} {s:List (List Qi)} (hz:z.length ≤ 100000) (hs:s.length ≤ 100000):bA Tryz.prog 222 [pO z,QM s] (aB (yZ z s)):=by
 refine bA.intro Tryz.func222 rfl Tryz.ntmps222 rfl (fun cx=>(ts (ro rfl (cQ cV) (eX (cK (ts (rm rfl (ro rfl (dG U_57 (Ht rfl) aA) (ro rfl (gX (Ht rfl) (cJ 1)) (rm rfl (fQ rfl rfl (eK rfl rfl (Ht rfl) (fun h=>cX (Ht rfl))) (fQ rfl rfl (eK rfl rfl (Ht rfl) (fun h=>dG U_57 (fJ rfl h) aA)) (fQ rfl rfl (eK rfl rfl (Ht rfl) (fun h=>cH (fJ rfl h) (cJ 8))) (ro rfl (iR (Ht rfl) (fun h=>(fJ rfl h))) (rm rfl (fQ rfl rfl (eK rfl rfl (Ht rfl) (fun h=>cX (Ht rfl))) ?_))))))))))))))))
 refine fQ rfl rfl (eK rfl rfl (Ht rfl) (fun h=>dG U_102 (fJ rfl h) aA)) (fQ rfl rfl (eK rfl rfl (Ht rfl) (fun h=>cX (Ht rfl))) (fQ rfl rfl (eK rfl rfl (Ht rfl) (fun h=>dG U_57 (fJ rfl h) aA)) (fQ rfl rfl (eK rfl rfl (Ht rfl) (fun h=>gL (fJ rfl h) (fJ rfl h))) (ro rfl (iR (Ht rfl) (fun h=>(fJ rfl h))) (eX (dQ (Ht rfl) (fun hb=>?_) (fun hb=>?_)))))))
 ·refine ts (ro rfl (cQ cV) (eX (fW rfl (fX (eU rfl) ?_))))
  exact (dI (by rw [yZ,hb]; rfl))
 ·refine cU (cK (ts (ro rfl (cQ (cJ 0)) (eX (eG ?_)))))
  refine cL (fun (k : Nat) => k ≤ s.length ∧ ∀ (i : Nat) (r : List Qi), i < k → s[i]? = some r → r.length = z.length) (fun (k : Nat) => s.length - k) (fun (k : Nat) => [(0, pO z), (1, QM s), (5, NT .i64 k)]) (fun (k : Nat) => []) 0 ⟨Nat.zero_le _, fun i r h => by omega⟩
   (zS rfl) aY (fun k ⟨hk,hr⟩=>?_)
  refine cK (ts (rm rfl (rm rfl (ro rfl (dG U_102 (Ht rfl) aA) (ro rfl (gX (Ht rfl) (Ht rfl)) (eX (dQ (Ht rfl) (fun hc=>?_) (fun hc=>?_))))))))
  ·simp only [decide_eq_true_eq] at hc
   refine cU (cK (eG (ts (rm rfl (rm rfl (ro rfl (dZ U_102 Z_57 (Ht rfl) (Ht rfl) rfl (dY (pL hc))) (ro rfl (dJ A_57 Z_57 (Ht rfl)) (ro rfl (dG U_57 (Ht rfl) aA) (rm rfl (ro rfl (dG U_57 (Ht rfl) aA) (ro rfl (gL (Ht rfl) (Ht rfl)) (eX (dQ (Ht rfl) (fun hd=>?_) (fun hd=>?_))))))))))))))
   ·have hd2 : ¬ (s[k]).length = z.length := by simpa using hd
    refine ts (ro rfl (cQ cV) (eX (fW rfl (fX (eU rfl) ?_))))
    exact (dI (by rw [yZ,Tn (pL hc) hd2,Bool.or_true]; rfl))
   ·have hd2 : (s[k]).length = z.length := by simpa using hd
    refine cU (bD (cY (rm rfl (ro rfl (dV (Ht rfl) (cJ 1) z6) (ra rfl (eX ?_))))))
    refine fU (k + 1) ⟨hc, fun i r h1 h2 => by
     by_cases e:i = k
     ·subst e; rw [pL hc] at h2; obtain rfl:=Option.some.inj h2; exact hd2
     ·exact hr i r zo h2⟩ zo (zS rfl) aY
  ·simp only [decide_eq_false_iff_not] at hc
   have hall:∀ (i:Nat) (r:List Qi),s[i]? = some r → r.length = z.length:=fun i r h=>hr i r (by have:=(List.getElem?_eq_some_iff.1 h).1; omega) h
   refine gV rfl (ts (ro rfl (cQ cV) (eX (fW rfl (fX (eU rfl) ?_)))))
   exact (dI (by rw [yZ,Oo hall,hb]; rfl))
theorem zY {z:List Qi} {L:Nat} (hz:dR z L) (h:L ≤ 17592186044415) (hl:z.length ≤ 100000):bA Tryz.prog 223 [pO z] (aB (z.all gC)):=by
 refine bA.intro Tryz.func223 rfl Tryz.ntmps223 rfl (fun cx=>(ts (ro rfl (cQ cV) (eX (cK (ts (ro rfl (cQ (cJ 0)) (eX (eG ?_)))))))))
 refine cL (fun (k : Nat) => k ≤ z.length ∧ ∀ (i : Nat) (r : Qi), i < k → z[i]? = some r → gC r = true) (fun (k : Nat) => z.length - k) (fun (k : Nat) => [(0, pO z), (3, NT .i64 k)]) (fun (k : Nat) => []) 0 ⟨Nat.zero_le _, fun i r h => by omega⟩
  (zS rfl) aY (fun k ⟨hk,hr⟩=>?_)
 refine cK (ts (rm rfl (rm rfl (ro rfl (dG U_57 (Ht rfl) aA) (ro rfl (gX (Ht rfl) (Ht rfl)) (eX (dQ (Ht rfl) (fun hc=>?_) (fun hc=>?_))))))))
 ·simp only [decide_eq_true_eq] at hc
  haveI hf:aP z[k] L:=hz _ (List.getElem_mem hc)
  refine cU (cK (eG (ts (rm rfl (rm rfl (ro rfl (dZ U_57 Z_40 (Ht rfl) (Ht rfl) rfl (dY (pL hc))) (ro rfl (dJ A_40 Z_40 (Ht rfl)) (ro rfl (cZ Tryz.call95 (vI (L:=L) h) ⟨(Ht rfl),trivial⟩) (ro rfl (fB (Ht rfl)) (eX (dQ (Ht rfl) (fun hd=>?_) (fun hd=>?_))))))))))))
  ·have hd2 : gC z[k] = false := by simpa using hd
   refine ts (ro rfl (cQ cV) (eX (fW rfl (fX (eU rfl) ?_))))
   exact (dI (Zg (pL hc) hd2).symm)
  ·have hd2 : gC z[k] = true := by simpa using hd
   refine cU (bD (cY (rm rfl (ro rfl (dV (Ht rfl) (cJ 1) z6) (ra rfl (eX ?_))))))
   refine fU (k + 1) ⟨hc, fun i r h1 h2 => by
    by_cases e:i = k
    ·subst e; rw [pL hc] at h2; obtain rfl:=Option.some.inj h2; exact hd2
    ·exact hr i r zo h2⟩ zo (zS rfl) aY
 ·simp only [decide_eq_false_iff_not] at hc
  have hall:∀ (i:Nat) (r:Qi),z[i]? = some r → gC r = true:=fun i r h=>hr i r (by have:=(List.getElem?_eq_some_iff.1 h).1; omega) h
  refine gV rfl (ts (ro rfl (cQ cV) (eX (fW rfl (fX (eU rfl) ?_)))))
  exact (dI (Tm hall).symm)
theorem Mg {z:List Qi} {s:List (List Qi)} {L:Nat} (hz:dR z L) (h:L ≤ 17592186044415) (hl:z.length ≤ 1000) (hl2:s.length ≤ 1000):bA Tryz.prog 133 [pO z,QM s] (eT [jY (gD (cF z s) z) (gD (cF z s) s),aL .i64 (cF z s)]):=by
 refine bA.intro Tryz.func133 rfl Tryz.ntmps133 rfl (fun cx=>(ts (rn rfl (eW (Ts:=[Is (.slice none 0 0),Is (.slice none 0 0)]) O_104 rfl (fun V=>aW zd (aW zd (aG)))) fun B4=>(ro rfl (cQ (cJ 0)) (eX (cK (ts (rm rfl (rm rfl (ro rfl (cZ Tryz.call222 (Pl zo zo) ⟨(Ht rfl),(Ht rfl),trivial⟩) (ro rfl (fB (Ht rfl)) (eX (dQ (Ht rfl) (fun hb=>?_) (fun hb=>?_))))))))))))))
 ·have hb2 : ¬ yZ z s = true := by simpa using hb
  have he:cF z s = 4:=by rw [uG,if_neg hb2]
  refine ts (ro rfl (aE.imp (sP ) qN) (gQ Z_104 (Ht rfl) (Ht rfl) rfl (i:=0) rfl (aK rfl) rfl rfl (ro rfl (cQ (cJ 4)) (eX (bC rfl (fX (fK A_104 Z_104 rfl (i:=0) rfl rfl) ?_) (fX (eU rfl) ?_))))))
  ·exact (Fx he (by decide))
  ·exact (aH he.symm)
 ·have hb2 : yZ z s = true := by simpa using hb
  refine cU (cK (ts (rm rfl (ro rfl (cZ Tryz.call223 (zY (by assumption) (by assumption) zo) ⟨(Ht rfl),trivial⟩) ?_))))
  refine ro rfl (fB (Ht rfl)) (eX (dQ (Ht rfl) (fun hc=>?_) (fun hc=>?_)))
  ·have hc2 : ¬ z.all gC = true := by simp only [Bool.not_eq_true'] at hc; rw [hc]; exact Bool.noConfusion
   have he:cF z s = 1:=by rw [uG,if_pos hb2,if_neg hc2]
   refine ts (ro rfl (aE.imp (sP ) qN) (gQ Z_104 (Ht rfl) (Ht rfl) rfl (i:=0) rfl (aK rfl) rfl rfl (ro rfl (cQ (cJ 1)) (eX (bC rfl (fX (fK A_104 Z_104 rfl (i:=0) rfl rfl) ?_) (fX (eU rfl) ?_))))))
   ·exact (Fx he (by decide))
   ·exact (aH he.symm)
  ·have hc2 : z.all gC = true := by simp only [Bool.not_eq_false'] at hc; exact hc
   have he:cF z s = 0:=by rw [uG,if_pos hb2,if_pos hc2]
   refine cU (ts (rm rfl (rm rfl (ro rfl (vG (Ht rfl) (Ht rfl)) (gQ Z_104 (Ht rfl) (Ht rfl) rfl (i:=0) rfl (aK rfl) rfl rfl (ro rfl (cQ (cJ 0)) (eX (bC rfl (fX (fK A_104 Z_104 rfl (i:=0) rfl rfl) ?_) (fX (eU rfl) ?_)))))))))
   ·exact (Nl he)
   ·exact (aH he.symm)
end
section
open Go Go.RowKit
theorem oZ (v : Value) (w : World) : (method (Tryz.prog.types.size + Made.depth) 32 v "Of").run Tryz.prog w = .ok (318, v) w := by kernel_rfl
theorem fF (v:Value) (w:World):(Instr.makeInterface 32 v).run Tryz.prog w = .ok (.iface 32 v) w:=by
 simp [Instr.makeInterface,Sem.run_bind,Result.andThen,U_32]
end
section
open Go Go.RowKit
theorem Oy {y:Qi}:bA Tryz.prog 318 [dP [Is (.bool false),Is (.slice none 0 0),Is (.bool false),Is (.slice none 0 0),Is (.slice none 0 0)],aT y] (aT y):=by
 refine bA.intro Tryz.func318 rfl Tryz.ntmps318 rfl (fun cx=>(ts (rn rfl (fG (Ht rfl)) fun B2=>(rn rfl (fG (Ht rfl)) fun B3=>(rn rfl (eW (Ts:=[Is (.bool false),Is (.slice none 0 0),Is (.bool false),Is (.slice none 0 0),Is (.slice none 0 0)]) O_32 rfl (fun V=>aW zd (aW zd (aW zd (aW zd (aW zd (aG))))))) fun B4=>(eX (ts (ro rfl (eJ A_32 Z_32 (Ht rfl) (i:=1) rfl rfl rfl) (gQ Z_32 (Ht rfl) (Ht rfl) rfl (i:=2) rfl (aK rfl) rfl rfl ?_)))))))))
 refine eX ?_
 exact fW rfl (fK A_32 Z_32 rfl (i:=2) rfl rfl)
theorem Hh {r:List Qi} {k:Nat}:bA Tryz.prog 266 [dB r,PT (NT .i64 k)] (aB (!decide (r.length = k))):=by
 refine bA.intro Tryz.func266 rfl Tryz.ntmps266 rfl (fun cx=>(ts (ro rfl (cQ cV) (eX (ts (rm rfl (ro rfl (dG U_54 (Ht rfl) aA) (ro rfl (dJ A_3 Z_3 (Ht rfl)) (ro rfl (gL (Ht rfl) (Ht rfl)) (ra rfl (eX ?_)))))))))))
 exact fW rfl (eU rfl)
theorem Hg  : bA Tryz.prog 231 [fT []] (eT [NT .i64 0,aB true]):=by
 refine bA.intro Tryz.func231 rfl Tryz.ntmps231 rfl (fun cx=>(ts (ro rfl (cQ (cJ 0)) (ro rfl (cQ cV) (eX (cK (ts (rm rfl (ro rfl (dG U_78 (Ht rfl) aA) (ro rfl (bT (Ht rfl) (cJ 0)) (eX (Bp (Ht rfl) (by rfl) ?_))))))))))))
 refine ts (ro rfl (cQ (cJ 0)) (ro rfl (cQ cV) (eX ?_)))
 exact bC rfl (eU rfl) (eU rfl)
theorem Mc {a:List (List Qi)} {n k:Nat} (h:iE a n k) (h1:1 ≤ n) (hn:n ≤ 32) (hk:k ≤ 32):bA Tryz.prog 231 [fT a] (eT [NT .i64 k,aB true]):=by
 obtain ⟨rfl,h2⟩:=h
 have hr0:(a.getD 0 []).length = k:=iE.row ⟨rfl,h2⟩ zo
 refine bA.intro Tryz.func231 rfl Tryz.ntmps231 rfl (fun cx=>(ts (ro rfl (cQ (cJ 0)) (ro rfl (cQ cV) (eX (cK (ts (rm rfl (ro rfl (dG U_78 (Ht rfl) aA) (ro rfl (bT (Ht rfl) (cJ 0)) (eX (dQ (Ht rfl) (fun hb=>?_) (fun hb=>?_)))))))))))))
 ·simp only [decide_eq_true_eq] at hb
  omega
 ·refine cU (ts (rm rfl (ro rfl (dZ U_78 Z_54 (Ht rfl) (cJ 0) rfl (dY (dU (d := []) zo))) (ro rfl (dJ A_54 Z_54 (Ht rfl)) (ro rfl (dG U_54 (Ht rfl) aA) (rn rfl (eW (Ts := [Is (.int .i64 0)]) Tryz.zeroValue3 rfl (fun V => aW zd (aG))) fun B4 => (jN Z_3 (Ht rfl) (Ht rfl) (i := 0) rfl (aK rfl) rfl (eX (cK (gJ (i := 0) (tt := 4) rfl rfl oH (fZ (m := 15) (dp 4 rfl (dJ A_3 Z_3 (Ht rfl)) ?_))))))))))))
  refine dp 0 rfl (cX (Ht rfl)) (dq 13 1 rfl (dG U_78 (Ht rfl) aA) (dq 14 2 rfl (wV (Ht rfl) (cJ 32)) (dq 15 3 rfl (cX (Ht rfl)) (C.D_step (Ei:=[(4,_),(16,_)]) rfl rfl (bV (bK rfl rfl) (bV (bG 4 rfl rfl) bW)) (eK rfl rfl (Ht rfl) (fun h=>dJ A_3 Z_3 (Ht rfl))) (C.D_step (Ei:=[(17,_),(16,_)]) rfl rfl (bV (bG 5 rfl rfl) (bV (bG 4 rfl rfl) bW)) (eK rfl rfl (Ht rfl) (fun h=>wV (fJ rfl h) (cJ 32))) (cI 16 4 18 6 rfl (cT (Ht rfl) (fun h=>(fJ rfl h))) ?_))))))
  refine dq 19 7 rfl (cX (Ht rfl)) (C.D_step (Ei:=[(0,_),(20,_)]) rfl rfl (bV (bK rfl rfl) (bV (bG 8 rfl rfl) bW)) (eK rfl rfl (Ht rfl) (fun h=>cX (Ht rfl))) (C.D_step (Ei:=[(4,_),(20,_)]) rfl rfl (bV (bK rfl rfl) (bV (bG 8 rfl rfl) bW)) (eK rfl rfl (Ht rfl) (fun h=>tE (γ:=List Qi) (Ts:=fun r=>[dB r]) (U:=fun r=>aB (!decide (r.length = (a.getD 0 []).length))) Tryz.call266 (fun r=>Hh) ⟨(Ht rfl),trivial⟩)) (C.D_step (Ei:=[(21,_),(22,_),(20,_)]) rfl rfl (bV (bG 9 rfl rfl) (bV (bG 10 rfl rfl) (bV (bG 8 rfl rfl) bW))) (eK rfl rfl (Ht rfl) (fun h=>cZ Tryz.call118 (zX (l:=a) (T:=dB) (p:=fun r=>!decide (r.length = (a.getD 0 []).length)) zo) ⟨(fJ rfl h),(fJ rfl h),trivial⟩)) ?_)))
  refine C.D_step (Ei:=[(23,_),(20,_)]) rfl rfl (bV (bG 11 rfl rfl) (bV (bG 8 rfl rfl) bW)) (eK rfl rfl (Ht rfl) (fun h=>fB (fJ rfl h))) (cI 20 8 24 12 rfl (cT (Ht rfl) (fun h=>(fJ rfl h))) (dq 12 0 rfl (cQ (Ht rfl)) (fV aO rfl (by kernel_rfl) (zF (zF (zF (aJ (aJ (aJ (aV (ra rfl (eX (bC rfl (fX (eU rfl) ?_) (fX (eU rfl) ?_))))))))))))))
  ·exact (kR hr0)
  ·exact (dI (by rw [hr0,Va ⟨rfl,h2⟩]; simp; omega))
end
section
open Go Go.RowKit
theorem qE (v : Value) (w : World) : (method (Tryz.prog.types.size + Made.depth) 32 v "Add").run Tryz.prog w = .ok (33, v) w := by kernel_rfl
theorem kQ (v : Value) (w : World) : (method (Tryz.prog.types.size + Made.depth) 32 v "Mul").run Tryz.prog w = .ok (29, v) w := by kernel_rfl
end
section
open Go Go.RowKit
theorem qF (v : Value) (w : World) : (method (Tryz.prog.types.size + Made.depth) 32 v "Div").run Tryz.prog w = .ok (142, v) w := by kernel_rfl
theorem mC (v : Value) (w : World) : (method (Tryz.prog.types.size + Made.depth) 32 v "Sub").run Tryz.prog w = .ok (32, v) w := by kernel_rfl
end
end Go.Proofs.YthcmlodgnfekeaaGreat
